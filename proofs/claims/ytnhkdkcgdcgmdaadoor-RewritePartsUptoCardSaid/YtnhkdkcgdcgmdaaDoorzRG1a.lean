/- The second reading of some of the program's functions, printed by gen2.py off the code; each is held against the code by the kernel. -/
import Derived.Test.YtnhkdkcgdcgmdaaDoorProg
import Derived.Test.YtnhkdkcgdcgmdaaDoorzRK0
import Derived.KernelRfl
namespace Go.Proofs.YtnhkdkcgdcgmdaaDoor
open Go.RowKit
set_option maxRecDepth 100000
def c7K (w : World) (R : Value → World → Prop) (_E : Pan) : Prop :=
 ∀ _τ : Fr, (R (Value.bool true) w)
def d8R (x2 x3 x5 : Value) (w : World) (next2 : List Value → World → Prop) (j1 : List Value → World → Prop) (R : Value → World → Prop) (E : Pan) : Prop :=
 opK Tryd.prog E (xV (Instr.fieldAt 24 x2 3)) w fun f4f J5 =>
 opK Tryd.prog E (xV (Instr.loadAt 22 f4f)) J5 fun f4g M2 =>
 opK Tryd.prog E (xBuiltin .len #[22] 3 [false] [f4g]) M2 fun f4h L2 =>
 opK Tryd.prog E (xBin .lss 3 (.tmp 34) (.tmp 37) x5 f4h) L2 fun f4i M3 =>
 xcond f4i
 (dX M3 fun a9I =>
 qP Tryd.prog (xV (Instr.fieldAt 24 x2 3)) fun d8S =>
 qP Tryd.prog (xV (Instr.fieldAt 24 x3 3)) fun d8T =>
 qL Tryd.prog a9I (blk d8S) (xV (Instr.loadAt 22 d8S)) fun f4j =>
 qP Tryd.prog (xV (Instr.indexAt 22 f4j x5)) fun d8U =>
 qL Tryd.prog a9I (blk d8U) (xV (Instr.loadAt 24 d8U)) fun f4k =>
 qL Tryd.prog a9I (blk d8T) (xV (Instr.loadAt 22 d8T)) fun f4l =>
 qP Tryd.prog (xV (Instr.indexAt 22 f4l x5)) fun d8V =>
 qL Tryd.prog a9I (blk d8V) (xV (Instr.loadAt 24 d8V)) fun a2D =>
 opK Tryd.prog E (xCall (Value.func (.func 15) #[] #[]) [f4k, a2D]) a9I fun f4m c4z =>
 keepX [] a9I c4z (qP Tryd.prog (xV (Op.unary .not f4m)) fun f4n =>
 xcond f4n
 (R (Value.bool false) c4z)
 (opK Tryd.prog E (xBin .add 3 (.tmp 39) (.const (Value.int .i64 1)) x5 (Value.int .i64 1)) c4z fun f4o W3 =>
 next2 [f4o] W3)))
 (j1 [] M3)
def F15 (x0 x1 : Value) (w : World) (R : Value → World → Prop) (E : Pan) : Prop :=
 opK Tryd.prog E (xV (Instr.box 24 x0)) w fun M4 w_2 =>
 opK Tryd.prog E (xV (Instr.box 24 x1)) w_2 fun Z0 w_4 =>
 opK Tryd.prog E (xV (Instr.fieldAt 24 M4 0)) w_4 fun a9J w_6 =>
 opK Tryd.prog E (xV (Instr.loadAt 3 a9J)) w_6 fun b1W w_8 =>
 opK Tryd.prog E (xV (Instr.fieldAt 24 Z0 0)) w_8 fun a4y l0 =>
 opK Tryd.prog E (xV (Instr.loadAt 3 a4y)) l0 fun a2G m6 =>
 opK Tryd.prog E (xBin .neq 3 (.tmp 7) (.tmp 9) b1W a2G) m6 fun a5L l8 =>
 opK Tryd.prog E (gsem (asB a5L) false (xV (Instr.fieldAt 24 M4 1))) l8 fun b7Y o5 =>
 opK Tryd.prog E (gsem (asB a5L) false (xV (Instr.loadAt 2 b7Y))) o5 fun a6p p5 =>
 opK Tryd.prog E (gsem (asB a5L) false (xV (Instr.fieldAt 24 Z0 1))) p5 fun c7L o7 =>
 opK Tryd.prog E (gsem (asB a5L) false (xV (Instr.loadAt 2 c7L))) o7 fun b7Z r9 =>
 opK Tryd.prog E (gsem (asB a5L) false (xBin .neq 2 (.tmp 13) (.tmp 15) a6p b7Z)) r9 fun c7M q8 =>
 opK Tryd.prog E (xPick a5L (Value.bool true) c7M) q8 fun a7G t7 =>
 opK Tryd.prog E (gsem (asB a7G) false (xV (Instr.fieldAt 24 M4 2))) t7 fun a8C w4 =>
 opK Tryd.prog E (gsem (asB a7G) false (xV (Instr.loadAt 9 a8C))) w4 fun c7N A8 =>
 opK Tryd.prog E (gsem (asB a7G) false (xV (Instr.fieldAt 24 Z0 2))) A8 fun b5p w5 =>
 opK Tryd.prog E (gsem (asB a7G) false (xV (Instr.loadAt 9 b5p))) w5 fun b8a z2 =>
 opK Tryd.prog E (gsem (asB a7G) false (xBin .neq 9 (.tmp 20) (.tmp 22) c7N b8a)) z2 fun c7O F1 =>
 opK Tryd.prog E (xPick a7G (Value.bool true) c7O) F1 fun a5M D3 =>
 opK Tryd.prog E (gsem (asB a5M) false (xV (Instr.fieldAt 24 M4 3))) D3 fun c7P F5 =>
 opK Tryd.prog E (gsem (asB a5M) false (xV (Instr.loadAt 22 c7P))) F5 fun a7H D4 =>
 opK Tryd.prog E (gsem (asB a5M) false (xBuiltin .len #[22] 3 [false] [a7H])) D4 fun f4p D9 =>
 opK Tryd.prog E (gsem (asB a5M) false (xV (Instr.fieldAt 24 Z0 3))) D9 fun f4q M5 =>
 opK Tryd.prog E (gsem (asB a5M) false (xV (Instr.loadAt 22 f4q))) M5 fun f4r K5 =>
 opK Tryd.prog E (gsem (asB a5M) false (xBuiltin .len #[22] 3 [false] [f4r])) K5 fun c7Q J6 =>
 opK Tryd.prog E (gsem (asB a5M) false (xBin .neq 3 (.tmp 28) (.tmp 31) f4p c7Q)) J6 fun c7R L3 =>
 opK Tryd.prog E (xPick a5M (Value.bool true) c7R) L3 fun c7S I7 =>
 xcond c7S
 (R (Value.bool false) I7)
 (xcut (fun _ M6 => c7K M6 R E) fun j1 =>
 xloop [5] [(Value.int .i64 0)] I7 fun τ_79 X3 next2 =>
 d8R M4 Z0 (τ_79 5) X3 next2 j1 R E)
noncomputable def c15 : Code := Tryd.f15.body.getD .skip
def h15 : Hint := (.seq .none (.seq (.seq .none (.cond (.seq .none .none) .none)) (.cut [] (.seq .none (.block (.loop [5] (.seq (.seq .none (.cond .none .none)) (.seq (.block (.seq (.reg [(0, 2199023255552, 4), (1, 4398046511104, 2199023255552), (0, 8796093022208, 32), (6, 17592186044416, 13194139533312), (8, 35184372088832, 17592186044416), (0, 70368744177664, 8), (32, 140737488355328, 70368744177664), (0, 281474976710656, 32), (192, 562949953421312, 422212465065984), (256, 1125899906842624, 562949953421312), (528, 2251799813685248, 1161084278931456), (1024, 4503599627370496, 2251799813685248)] [594, 592, 594, 594, 578, 594, 530, 594, 594, 82, 0, 594] (.early 0 (.early 2 (.early 5 (.early 7 (.load 1 (.early 3 (.load 4 (.load 6 (.early 8 (.load 9 (.step 10 (.early 11 .done))))))))))))) (.cond (.seq .none .none) .none))) .none))))) (.seq .none .none))))
theorem f4s (x0 x1 : Value) (w : World) (R : Value → World → Prop) (E : Pan) : F15 x0 x1 w R E = callX Tryd.prog [.tmp 4] c15 h15 [x0, x1] w R E := by kernel_rfl
theorem f4t {x0 x1 : Value} {w : World} {R : Value → World → Prop} {E : Pan} (h : F15 x0 x1 w R E) : Cv Tryd.prog 15 #[x0, x1] w R E := by
 refine g7 (args := [x0, x1]) (c := c15) (h := h15) (rs := [.tmp 4]) Tryd.func15 (by kernel_rfl) (by kernel_rfl) (Nat.le_of_ble_eq_true (by kernel_rfl)) (by kernel_rfl) (by kernel_rfl) (by kernel_rfl) ?_
 rw [← f4s]
 exact h
def c7T (w : World) (R : Value → World → Prop) (_E : Pan) : Prop :=
 ∀ _τ : Fr, (R (Value.bool true) w)
def d8W (x2 x3 x6 : Value) (w : World) (next3 : List Value → World → Prop) (j2 : List Value → World → Prop) (R : Value → World → Prop) (E : Pan) : Prop :=
 opK Tryd.prog E (xV (Instr.fieldAt 27 x2 3)) w fun f4u L2 =>
 opK Tryd.prog E (xV (Instr.loadAt 25 f4u)) L2 fun f4v M3 =>
 opK Tryd.prog E (xBuiltin .len #[25] 3 [false] [f4v]) M3 fun f4w U0 =>
 opK Tryd.prog E (xBin .lss 3 (.tmp 56) (.tmp 59) x6 f4w) U0 fun f4x U7 =>
 xcond f4x
 (dX U7 fun b1X =>
 qP Tryd.prog (xV (Instr.fieldAt 27 x2 3)) fun d8X =>
 qP Tryd.prog (xV (Instr.fieldAt 27 x3 3)) fun d8Y =>
 qL Tryd.prog b1X (blk d8X) (xV (Instr.loadAt 25 d8X)) fun f4y =>
 qP Tryd.prog (xV (Instr.indexAt 25 f4y x6)) fun d8Z =>
 qL Tryd.prog b1X (blk d8Z) (xV (Instr.loadAt 27 d8Z)) fun f4z =>
 qL Tryd.prog b1X (blk d8Y) (xV (Instr.loadAt 25 d8Y)) fun a8D =>
 qP Tryd.prog (xV (Instr.indexAt 25 a8D x6)) fun d9a =>
 qL Tryd.prog b1X (blk d9a) (xV (Instr.loadAt 27 d9a)) fun c7U =>
 opK Tryd.prog E (xCall (Value.func (.func 16) #[] #[]) [f4z, c7U]) b1X fun f4A b1Y =>
 keepX [] b1X b1Y (qP Tryd.prog (xV (Op.unary .not f4A)) fun f4B =>
 xcond f4B
 (R (Value.bool false) b1Y)
 (opK Tryd.prog E (xBin .add 3 (.tmp 61) (.const (Value.int .i64 1)) x6 (Value.int .i64 1)) b1Y fun f4C Z1 =>
 next3 [f4C] Z1)))
 (j2 [] U7)
def c7V (x2 x3 : Value) (w : World) (R : Value → World → Prop) (E : Pan) : Prop :=
 ∀ _τ : Fr, (xcut (fun _ M2 => c7T M2 R E) fun j2 =>
 xloop [6] [(Value.int .i64 0)] w fun τ_83 a0q next3 =>
 d8W x2 x3 (τ_83 6) a0q next3 j2 R E)
def d9b (x2 x3 x5 : Value) (w : World) (next4 : List Value → World → Prop) (j1 : List Value → World → Prop) (R : Value → World → Prop) (E : Pan) : Prop :=
 opK Tryd.prog E (xV (Instr.fieldAt 27 x2 2)) w fun f4D Z2 =>
 opK Tryd.prog E (xV (Instr.loadAt 22 f4D)) Z2 fun f4E a2g =>
 opK Tryd.prog E (xBuiltin .len #[22] 3 [false] [f4E]) a2g fun f4F a2H =>
 opK Tryd.prog E (xBin .lss 3 (.tmp 37) (.tmp 40) x5 f4F) a2H fun f4G a1B =>
 xcond f4G
 (dX a1B fun b4F =>
 qP Tryd.prog (xV (Instr.fieldAt 27 x2 2)) fun d9c =>
 qP Tryd.prog (xV (Instr.fieldAt 27 x3 2)) fun d9d =>
 qL Tryd.prog b4F (blk d9c) (xV (Instr.loadAt 22 d9c)) fun f4H =>
 qP Tryd.prog (xV (Instr.indexAt 22 f4H x5)) fun d9e =>
 qL Tryd.prog b4F (blk d9e) (xV (Instr.loadAt 24 d9e)) fun e7N =>
 qL Tryd.prog b4F (blk d9d) (xV (Instr.loadAt 22 d9d)) fun e7O =>
 qP Tryd.prog (xV (Instr.indexAt 22 e7O x5)) fun d2r =>
 qL Tryd.prog b4F (blk d2r) (xV (Instr.loadAt 24 d2r)) fun e7P =>
 opK Tryd.prog E (xCall (Value.func (.func 15) #[] #[]) [e7N, e7P]) b4F fun e7Q b1f =>
 keepX [] b4F b1f (qP Tryd.prog (xV (Op.unary .not e7Q)) fun e7R =>
 xcond e7R
 (R (Value.bool false) b1f)
 (opK Tryd.prog E (xBin .add 3 (.tmp 42) (.const (Value.int .i64 1)) x5 (Value.int .i64 1)) b1f fun e7S a6Y =>
 next4 [e7S] a6Y)))
 (j1 [] a1B)
def F16 (x0 x1 : Value) (w : World) (R : Value → World → Prop) (E : Pan) : Prop :=
 opK Tryd.prog E (xV (Instr.box 27 x0)) w fun M4 w_2 =>
 opK Tryd.prog E (xV (Instr.box 27 x1)) w_2 fun Z0 w_4 =>
 opK Tryd.prog E (xV (Instr.fieldAt 27 M4 0)) w_4 fun b6j w_6 =>
 opK Tryd.prog E (xV (Instr.loadAt 3 b6j)) w_6 fun a9K w_8 =>
 opK Tryd.prog E (xV (Instr.fieldAt 27 Z0 0)) w_8 fun b8b l0 =>
 opK Tryd.prog E (xV (Instr.loadAt 3 b8b)) l0 fun c7W m6 =>
 opK Tryd.prog E (xBin .neq 3 (.tmp 8) (.tmp 10) a9K c7W) m6 fun a7I l8 =>
 opK Tryd.prog E (gsem (asB a7I) false (xV (Instr.fieldAt 27 M4 1))) l8 fun a6q o5 =>
 opK Tryd.prog E (gsem (asB a7I) false (xV (Instr.loadAt 3 a6q))) o5 fun a8E p5 =>
 opK Tryd.prog E (gsem (asB a7I) false (xV (Instr.fieldAt 27 Z0 1))) p5 fun a6r o7 =>
 opK Tryd.prog E (gsem (asB a7I) false (xV (Instr.loadAt 3 a6r))) o7 fun a8F r9 =>
 opK Tryd.prog E (gsem (asB a7I) false (xBin .neq 3 (.tmp 14) (.tmp 16) a8E a8F)) r9 fun b8c q8 =>
 opK Tryd.prog E (xPick a7I (Value.bool true) b8c) q8 fun a5N t7 =>
 opK Tryd.prog E (gsem (asB a5N) false (xV (Instr.fieldAt 27 M4 2))) t7 fun f4I w4 =>
 opK Tryd.prog E (gsem (asB a5N) false (xV (Instr.loadAt 22 f4I))) w4 fun c7X A8 =>
 opK Tryd.prog E (gsem (asB a5N) false (xBuiltin .len #[22] 3 [false] [c7X])) A8 fun c7Y w5 =>
 opK Tryd.prog E (gsem (asB a5N) false (xV (Instr.fieldAt 27 Z0 2))) w5 fun c7Z z2 =>
 opK Tryd.prog E (gsem (asB a5N) false (xV (Instr.loadAt 22 c7Z))) z2 fun c8a F1 =>
 opK Tryd.prog E (gsem (asB a5N) false (xBuiltin .len #[22] 3 [false] [c8a])) F1 fun a6s D3 =>
 opK Tryd.prog E (gsem (asB a5N) false (xBin .neq 3 (.tmp 22) (.tmp 25) c7Y a6s)) D3 fun c7P F5 =>
 opK Tryd.prog E (xPick a5N (Value.bool true) c7P) F5 fun a7H D4 =>
 opK Tryd.prog E (gsem (asB a7H) false (xV (Instr.fieldAt 27 M4 3))) D4 fun f4J D9 =>
 opK Tryd.prog E (gsem (asB a7H) false (xV (Instr.loadAt 25 f4J))) D9 fun f4K M5 =>
 opK Tryd.prog E (gsem (asB a7H) false (xBuiltin .len #[25] 3 [false] [f4K])) M5 fun f4L K5 =>
 opK Tryd.prog E (gsem (asB a7H) false (xV (Instr.fieldAt 27 Z0 3))) K5 fun f4M J6 =>
 opK Tryd.prog E (gsem (asB a7H) false (xV (Instr.loadAt 25 f4M))) J6 fun c8b L3 =>
 opK Tryd.prog E (gsem (asB a7H) false (xBuiltin .len #[25] 3 [false] [c8b])) L3 fun f4N I7 =>
 opK Tryd.prog E (gsem (asB a7H) false (xBin .neq 3 (.tmp 31) (.tmp 34) f4L f4N)) I7 fun c8c M6 =>
 opK Tryd.prog E (xPick a7H (Value.bool true) c8c) M6 fun c8d J5 =>
 xcond c8d
 (R (Value.bool false) J5)
 (xcut (fun _ a0A => c7V M4 Z0 a0A R E) fun j1 =>
 xloop [5] [(Value.int .i64 0)] J5 fun τ_109 a5e next4 =>
 d9b M4 Z0 (τ_109 5) a5e next4 j1 R E)
noncomputable def c16 : Code := Tryd.f16.body.getD .skip
def h16 : Hint := (.seq .none (.seq (.seq .none (.cond (.seq .none .none) .none)) (.cut [] (.seq .none (.block (.loop [5] (.seq (.seq .none (.cond .none .none)) (.seq (.block (.seq (.reg [(0, 17592186044416, 4), (1, 35184372088832, 17592186044416), (0, 70368744177664, 32), (6, 140737488355328, 105553116266496), (8, 281474976710656, 140737488355328), (0, 562949953421312, 8), (32, 1125899906842624, 562949953421312), (0, 2251799813685248, 32), (192, 4503599627370496, 3377699720527872), (256, 9007199254740992, 4503599627370496), (528, 18014398509481984, 9288674231451648), (1024, 36028797018963968, 18014398509481984)] [594, 592, 594, 594, 578, 594, 530, 594, 594, 82, 0, 594] (.early 0 (.early 2 (.early 5 (.early 7 (.load 1 (.early 3 (.load 4 (.load 6 (.early 8 (.load 9 (.step 10 (.early 11 .done))))))))))))) (.cond (.seq .none .none) .none))) .none))))) (.cut [] (.seq .none (.block (.loop [6] (.seq (.seq .none (.cond .none .none)) (.seq (.block (.seq (.reg [(0, 9223372036854775808, 4), (1, 18446744073709551616, 9223372036854775808), (0, 36893488147419103232, 64), (6, 73786976294838206464, 55340232221128654848), (8, 147573952589676412928, 73786976294838206464), (0, 295147905179352825856, 8), (32, 590295810358705651712, 295147905179352825856), (0, 1180591620717411303424, 64), (192, 2361183241434822606848, 1770887431076116955136), (256, 4722366482869645213696, 2361183241434822606848), (528, 9444732965739290427392, 4869940435459321626624), (1024, 18889465931478580854784, 9444732965739290427392)] [594, 592, 594, 594, 578, 594, 530, 594, 594, 82, 0, 594] (.early 0 (.early 2 (.early 5 (.early 7 (.load 1 (.early 3 (.load 4 (.load 6 (.early 8 (.load 9 (.step 10 (.early 11 .done))))))))))))) (.cond (.seq .none .none) .none))) .none))))) (.seq .none .none)))))
theorem f4O (x0 x1 : Value) (w : World) (R : Value → World → Prop) (E : Pan) : F16 x0 x1 w R E = callX Tryd.prog [.tmp 4] c16 h16 [x0, x1] w R E := by kernel_rfl
theorem f4P {x0 x1 : Value} {w : World} {R : Value → World → Prop} {E : Pan} (h : F16 x0 x1 w R E) : Cv Tryd.prog 16 #[x0, x1] w R E := by
 refine g7 (args := [x0, x1]) (c := c16) (h := h16) (rs := [.tmp 4]) Tryd.func16 (by kernel_rfl) (by kernel_rfl) (Nat.le_of_ble_eq_true (by kernel_rfl)) (by kernel_rfl) (by kernel_rfl) (by kernel_rfl) ?_
 rw [← f4O]
 exact h
def F37 (x0 : Value) (w : World) (R : Value → World → Prop) (E : Pan) : Prop :=
 opK Tryd.prog E (xV (Instr.box 24 x0)) w fun o0 w_2 =>
 opK Tryd.prog E (xV (Instr.loadAt 24 o0)) w_2 fun Z0 w_4 =>
 opK Tryd.prog E (xV (Instr.build 123 #[(0, Z0)])) w_4 fun a4z w_6 =>
 opK Tryd.prog E (xV (Instr.makeInterface 123 a4z)) w_6 fun a7U w_8 =>
 opK Tryd.prog E (xV (Instr.buildSlice 124 1 #[(0, a7U)])) w_8 fun a6t l0 =>
 opK Tryd.prog E (xCall (Value.func (.func 60) #[] #[]) [a6t]) l0 fun a2k m6 =>
 opK Tryd.prog E (xNil a2k) m6 fun b1g l8 =>
 opK Tryd.prog E (xV (Instr.fieldAt 106 b1g 2)) l8 fun b6k o5 =>
 opK Tryd.prog E (xV (Instr.loadAt 29 b6k)) o5 fun b1Z p5 =>
 R b1Z p5
noncomputable def c37 : Code := Tryd.f37.body.getD .skip
def h37 : Hint := (.seq .none (.seq .none .none))
theorem f4Q (x0 : Value) (w : World) (R : Value → World → Prop) (E : Pan) : F37 x0 w R E = callX Tryd.prog [.tmp 2] c37 h37 [x0] w R E := by kernel_rfl
theorem f4R {x0 : Value} {w : World} {R : Value → World → Prop} {E : Pan} (h : F37 x0 w R E) : Cv Tryd.prog 37 #[x0] w R E := by
 refine g7 (args := [x0]) (c := c37) (h := h37) (rs := [.tmp 2]) Tryd.func37 (by kernel_rfl) (by kernel_rfl) (Nat.le_of_ble_eq_true (by kernel_rfl)) (by kernel_rfl) (by kernel_rfl) (by kernel_rfl) ?_
 rw [← f4Q]
 exact h
def c8e (x3 : Value) (w : World) (R : Value → World → Prop) (E : Pan) : Prop :=
 ∀ _τ : Fr, (opK Tryd.prog E (xV (Instr.loadAt 102 x3)) w fun b0z o5 =>
 R b0z o5)
def F60 (x0 : Value) (w : World) (R : Value → World → Prop) (E : Pan) : Prop :=
 opK Tryd.prog E (xV (Instr.build 106 #[])) w fun a7s w_2 =>
 opK Tryd.prog E (xV (Instr.box 106 a7s)) w_2 fun a9L w_4 =>
 opK Tryd.prog E (xV (Instr.alloc 102 true (.tuple #[]))) w_4 fun a6u w_6 =>
 opK Tryd.prog E (xU (Instr.storeAt 102 a6u a9L)) w_6 fun _z_7 w_8 =>
 opK Tryd.prog E (xV (Instr.alloc 161 true (.tuple #[]))) w_8 fun e1j l0 =>
 opK Tryd.prog E (xV (Instr.makeFunc (.func 99) #[] #[a6u, e1j])) l0 fun b6l m6 =>
 opK Tryd.prog E (xU (Instr.storeAt 161 e1j b6l)) m6 fun _z_13 l8 =>
 xcut (fun _ p5 => c8e a6u p5 R E) fun j1 =>
 opK Tryd.prog E (xV (Instr.loadAt 161 e1j)) l8 fun g8N o7 =>
 opK Tryd.prog E (xCall g8N [x0, (Value.int .i64 1)]) o7 fun f4S r9 =>
 opK Tryd.prog E (xV (Op.unary .not f4S)) r9 fun f4T q8 =>
 xcond f4T
 (j1 [] q8)
 (opK Tryd.prog E (xV (Instr.loadAt 102 a6u)) q8 fun c8f t7 =>
 opK Tryd.prog E (xNil c8f) t7 fun c8g w4 =>
 opK Tryd.prog E (xV (Instr.fieldAt 106 c8g 3)) w4 fun b5q A8 =>
 opK Tryd.prog E (xV (Instr.loadAt 4 b5q)) A8 fun b8d w5 =>
 xcond b8d
 (opK Tryd.prog E (xV (Instr.loadAt 102 a6u)) w5 fun c8h z2 =>
 opK Tryd.prog E (xNil c8h) z2 fun c8i F1 =>
 opK Tryd.prog E (xV (Instr.fieldAt 106 c8i 2)) F1 fun c8j D3 =>
 opK Tryd.prog E (xU (Instr.storeAt 29 c8j (Value.int .i64 30))) D3 fun _z_39 F5 =>
 j1 [] F5)
 (opK Tryd.prog E (xV (Instr.loadAt 102 a6u)) w5 fun c8k D4 =>
 opK Tryd.prog E (xNil c8k) D4 fun b2a D9 =>
 opK Tryd.prog E (xV (Instr.fieldAt 106 b2a 4)) D9 fun f4U M5 =>
 opK Tryd.prog E (xV (Instr.loadAt 4 f4U)) M5 fun f4V K5 =>
 xcond f4V
 (opK Tryd.prog E (xV (Instr.loadAt 102 a6u)) K5 fun f4W J6 =>
 opK Tryd.prog E (xNil f4W) J6 fun f4X L3 =>
 opK Tryd.prog E (xV (Instr.fieldAt 106 f4X 2)) L3 fun f4Y I7 =>
 opK Tryd.prog E (xU (Instr.storeAt 29 f4Y (Value.int .i64 31))) I7 fun _z_55 M6 =>
 j1 [] M6)
 (j1 [] K5)))
noncomputable def c60 : Code := Tryd.f60.body.getD .skip
def h60 : Hint := (.seq .none (.seq .none (.seq .none (.seq .none (.cut [] (.seq .none (.block (.seq .none (.cond .none (.seq .none (.cond .none (.seq .none (.cond .none .none)))))))) (.seq .none .none))))))
theorem f4Z (x0 : Value) (w : World) (R : Value → World → Prop) (E : Pan) : F60 x0 w R E = callX Tryd.prog [.tmp 2] c60 h60 [x0] w R E := by kernel_rfl
theorem f5a {x0 : Value} {w : World} {R : Value → World → Prop} {E : Pan} (h : F60 x0 w R E) : Cv Tryd.prog 60 #[x0] w R E := by
 refine g7 (args := [x0]) (c := c60) (h := h60) (rs := [.tmp 2]) Tryd.func60 (by kernel_rfl) (by kernel_rfl) (Nat.le_of_ble_eq_true (by kernel_rfl)) (by kernel_rfl) (by kernel_rfl) (by kernel_rfl) ?_
 rw [← f4Z]
 exact h
def d9f (x0 x2 x4 x6 : Value) (w : World) (next1 : List Value → World → Prop) (R : Value → World → Prop) (E : Pan) : Prop :=
 opK Tryd.prog E (xV (Instr.fieldAt 24 x4 3)) w fun a2I w_8 =>
 opK Tryd.prog E (xV (Instr.loadAt 22 a2I)) w_8 fun a6Z l0 =>
 opK Tryd.prog E (xBuiltin .len #[22] 3 [false] [a6Z]) l0 fun f5b m6 =>
 opK Tryd.prog E (xBin .lss 3 (.tmp 11) (.tmp 14) x6 f5b) m6 fun b5r l8 =>
 opK Tryd.prog E (gsem (asB b5r) true (xNil (gval (asB b5r) true x0))) l8 fun c8l o5 =>
 opK Tryd.prog E (gsem (asB b5r) true (xV (Instr.fieldAt 130 c8l 2))) o5 fun f5c p5 =>
 opK Tryd.prog E (gsem (asB b5r) true (xV (Instr.loadAt 3 f5c))) p5 fun f5d o7 =>
 opK Tryd.prog E (gsem (asB b5r) true (xBin .eql 3 (.tmp 20) (.const (Value.int .i64 0)) f5d (Value.int .i64 0))) o7 fun c8m r9 =>
 opK Tryd.prog E (xPick b5r c8m (Value.bool false)) r9 fun b5s q8 =>
 xcond b5s
 (opK Tryd.prog E (xV (Instr.fieldAt 24 x4 3)) q8 fun c8n t7 =>
 opK Tryd.prog E (xV (Instr.loadAt 22 c8n)) t7 fun c8o w4 =>
 opK Tryd.prog E (xV (Instr.indexAt 22 c8o x6)) w4 fun f5e A8 =>
 opK Tryd.prog E (xV (Instr.loadAt 24 f5e)) A8 fun f5f w5 =>
 opK Tryd.prog E (xBin .add 3 (.tmp 31) (.const (Value.int .i64 1)) x2 (Value.int .i64 1)) w5 fun f5g z2 =>
 opK Tryd.prog E (xCall (Value.func (.func 66) #[] #[]) [x0, f5f, f5g]) z2 fun _t33_35 F1 =>
 opK Tryd.prog E (xBin .add 3 (.tmp 23) (.const (Value.int .i64 1)) x6 (Value.int .i64 1)) F1 fun a5M D3 =>
 next1 [a5M] D3)
 (R (Value.tuple #[]) q8)
def F66 (x0 x1 x2 : Value) (w : World) (R : Value → World → Prop) (E : Pan) : Prop :=
 opK Tryd.prog E (xV (Instr.box 24 x1)) w fun b8e w_2 =>
 opK Tryd.prog E (xCall (Value.func (.func 102) #[] #[]) [x0, x2]) w_2 fun a6v w_4 =>
 opK Tryd.prog E (xV (Op.unary .not a6v)) w_4 fun a5f w_6 =>
 xcond a5f
 (R (Value.tuple #[]) w_6)
 (xloop [6] [(Value.int .i64 0)] w_6 fun τ_39 F5 next1 =>
 d9f x0 x2 b8e (τ_39 6) F5 next1 R E)
noncomputable def c66 : Code := Tryd.f66.body.getD .skip
def h66 : Hint := (.seq .none (.seq (.seq .none (.cond .none .none)) (.seq .none (.block (.loop [6] (.seq (.seq .none (.cond .none .none)) (.seq (.block .none) .none)))))))
theorem f5h (x0 x1 x2 : Value) (w : World) (R : Value → World → Prop) (E : Pan) : F66 x0 x1 x2 w R E = callX Tryd.prog [] c66 h66 [x0, x1, x2] w R E := by kernel_rfl
theorem f5i {x0 x1 x2 : Value} {w : World} {R : Value → World → Prop} {E : Pan} (h : F66 x0 x1 x2 w R E) : Cv Tryd.prog 66 #[x0, x1, x2] w R E := by
 refine g7 (args := [x0, x1, x2]) (c := c66) (h := h66) (rs := []) Tryd.func66 (by kernel_rfl) (by kernel_rfl) (Nat.le_of_ble_eq_true (by kernel_rfl)) (by kernel_rfl) (by kernel_rfl) (by kernel_rfl) ?_
 rw [← f5h]
 exact h
def d9g (x0 x2 x4 x7 : Value) (w : World) (next2 : List Value → World → Prop) (R : Value → World → Prop) (E : Pan) : Prop :=
 opK Tryd.prog E (xV (Instr.fieldAt 27 x4 3)) w fun g8O w_8 =>
 opK Tryd.prog E (xV (Instr.loadAt 25 g8O)) w_8 fun g8P l0 =>
 opK Tryd.prog E (xBuiltin .len #[25] 3 [false] [g8P]) l0 fun f5j m6 =>
 opK Tryd.prog E (xBin .lss 3 (.tmp 35) (.tmp 38) x7 f5j) m6 fun b5t l8 =>
 opK Tryd.prog E (gsem (asB b5t) true (xNil (gval (asB b5t) true x0))) l8 fun f5k o5 =>
 opK Tryd.prog E (gsem (asB b5t) true (xV (Instr.fieldAt 130 f5k 2))) o5 fun c2U p5 =>
 opK Tryd.prog E (gsem (asB b5t) true (xV (Instr.loadAt 3 c2U))) p5 fun f5l o7 =>
 opK Tryd.prog E (gsem (asB b5t) true (xBin .eql 3 (.tmp 44) (.const (Value.int .i64 0)) f5l (Value.int .i64 0))) o7 fun f5m r9 =>
 opK Tryd.prog E (xPick b5t f5m (Value.bool false)) r9 fun f5n q8 =>
 xcond f5n
 (opK Tryd.prog E (xV (Instr.fieldAt 27 x4 3)) q8 fun f5o t7 =>
 opK Tryd.prog E (xV (Instr.loadAt 25 f5o)) t7 fun f5p w4 =>
 opK Tryd.prog E (xV (Instr.indexAt 25 f5p x7)) w4 fun f5q A8 =>
 opK Tryd.prog E (xV (Instr.loadAt 27 f5q)) A8 fun f5r w5 =>
 opK Tryd.prog E (xBin .add 3 (.tmp 55) (.const (Value.int .i64 1)) x2 (Value.int .i64 1)) w5 fun f5s z2 =>
 opK Tryd.prog E (xCall (Value.func (.func 77) #[] #[]) [x0, f5r, f5s]) z2 fun _t57_35 F1 =>
 opK Tryd.prog E (xBin .add 3 (.tmp 47) (.const (Value.int .i64 1)) x7 (Value.int .i64 1)) F1 fun f5t D3 =>
 next2 [f5t] D3)
 (R (Value.tuple #[]) q8)
def c8p (x0 x2 x4 : Value) (w : World) (R : Value → World → Prop) (E : Pan) : Prop :=
 ∀ _τ : Fr, (xloop [7] [(Value.int .i64 0)] w fun τ_39 F5 next2 =>
 d9g x0 x2 x4 (τ_39 7) F5 next2 R E)
def d9h (x0 x2 x4 x6 : Value) (w : World) (next3 : List Value → World → Prop) (j1 : List Value → World → Prop) (_R : Value → World → Prop) (E : Pan) : Prop :=
 opK Tryd.prog E (xV (Instr.fieldAt 27 x4 2)) w fun f5u D9 =>
 opK Tryd.prog E (xV (Instr.loadAt 22 f5u)) D9 fun f5v M5 =>
 opK Tryd.prog E (xBuiltin .len #[22] 3 [false] [f5v]) M5 fun f5w K5 =>
 opK Tryd.prog E (xBin .lss 3 (.tmp 12) (.tmp 15) x6 f5w) K5 fun b5u J6 =>
 opK Tryd.prog E (gsem (asB b5u) true (xNil (gval (asB b5u) true x0))) J6 fun c2V L3 =>
 opK Tryd.prog E (gsem (asB b5u) true (xV (Instr.fieldAt 130 c2V 2))) L3 fun c2W I7 =>
 opK Tryd.prog E (gsem (asB b5u) true (xV (Instr.loadAt 3 c2W))) I7 fun c2X M6 =>
 opK Tryd.prog E (gsem (asB b5u) true (xBin .eql 3 (.tmp 21) (.const (Value.int .i64 0)) c2X (Value.int .i64 0))) M6 fun c2Y J5 =>
 opK Tryd.prog E (xPick b5u c2Y (Value.bool false)) J5 fun c2Z M2 =>
 xcond c2Z
 (opK Tryd.prog E (xV (Instr.fieldAt 27 x4 2)) M2 fun f5x L2 =>
 opK Tryd.prog E (xV (Instr.loadAt 22 f5x)) L2 fun f5y M3 =>
 opK Tryd.prog E (xV (Instr.indexAt 22 f5y x6)) M3 fun f5z U0 =>
 opK Tryd.prog E (xV (Instr.loadAt 24 f5z)) U0 fun f5A U7 =>
 opK Tryd.prog E (xBin .add 3 (.tmp 32) (.const (Value.int .i64 1)) x2 (Value.int .i64 1)) U7 fun f5B U1 =>
 opK Tryd.prog E (xCall (Value.func (.func 66) #[] #[]) [x0, f5A, f5B]) U1 fun _t34_71 a0r =>
 opK Tryd.prog E (xBin .add 3 (.tmp 24) (.const (Value.int .i64 1)) x6 (Value.int .i64 1)) a0r fun f5C a0s =>
 next3 [f5C] a0s)
 (j1 [] M2)
def F77 (x0 x1 x2 : Value) (w : World) (R : Value → World → Prop) (E : Pan) : Prop :=
 opK Tryd.prog E (xV (Instr.box 27 x1)) w fun b8e w_2 =>
 opK Tryd.prog E (xCall (Value.func (.func 102) #[] #[]) [x0, x2]) w_2 fun a8G w_4 =>
 opK Tryd.prog E (xV (Op.unary .not a8G)) w_4 fun a5g w_6 =>
 xcond a5g
 (R (Value.tuple #[]) w_6)
 (xcut (fun _ D4 => c8p x0 x2 b8e D4 R E) fun j1 =>
 xloop [6] [(Value.int .i64 0)] w_6 fun τ_75 Z3 next3 =>
 d9h x0 x2 b8e (τ_75 6) Z3 next3 j1 R E)
noncomputable def c77 : Code := Tryd.f77.body.getD .skip
def h77 : Hint := (.seq .none (.seq (.seq .none (.cond .none .none)) (.cut [] (.seq .none (.block (.loop [6] (.seq (.seq .none (.cond .none .none)) (.seq (.block .none) .none))))) (.seq .none (.block (.loop [7] (.seq (.seq .none (.cond .none .none)) (.seq (.block .none) .none))))))))
theorem f5D (x0 x1 x2 : Value) (w : World) (R : Value → World → Prop) (E : Pan) : F77 x0 x1 x2 w R E = callX Tryd.prog [] c77 h77 [x0, x1, x2] w R E := by kernel_rfl
theorem f5E {x0 x1 x2 : Value} {w : World} {R : Value → World → Prop} {E : Pan} (h : F77 x0 x1 x2 w R E) : Cv Tryd.prog 77 #[x0, x1, x2] w R E := by
 refine g7 (args := [x0, x1, x2]) (c := c77) (h := h77) (rs := []) Tryd.func77 (by kernel_rfl) (by kernel_rfl) (Nat.le_of_ble_eq_true (by kernel_rfl)) (by kernel_rfl) (by kernel_rfl) (by kernel_rfl) ?_
 rw [← f5D]
 exact h
def c8q (x6 : Value) (w : World) (R : Value → World → Prop) (_E : Pan) : Prop :=
 ∀ _τ : Fr, (R x6 w)
def d9i (x6 x25 x26 x27 : Value) (w : World) (next3 : List Value → World → Prop) (j2 : List Value → World → Prop) (_R : Value → World → Prop) (E : Pan) : Prop :=
 opK Tryd.prog E (xBin .lss 3 (.tmp 27) (.tmp 26) x27 x26) w fun g8Q w_8 =>
 xcond g8Q
 (opK Tryd.prog E (xV (Instr.indexAt 174 x25 x27)) w_8 fun g8R l0 =>
 opK Tryd.prog E (xV (Instr.loadAt 124 g8R)) l0 fun f5F m6 =>
 opK Tryd.prog E (xBuiltin .append #[124, 124] 124 [false, false] [x6, f5F]) m6 fun f5G l8 =>
 opK Tryd.prog E (xBin .add 3 (.tmp 27) (.const (Value.int .i64 1)) x27 (Value.int .i64 1)) l8 fun f5H o5 =>
 next3 [f5G, f5H] o5)
 (j2 [x6] w_8)
def c8r (x0 x3 : Value) (w : World) (R : Value → World → Prop) (E : Pan) : Prop :=
 ∀ _τ : Fr, (opK Tryd.prog E (xCall (Value.func (.func 117) #[] #[]) [(Value.slice none 0 0), x3]) w fun g8S w_2 =>
 xcut (fun l_3 w_4 => c8q (nth l_3 0) w_4 R E) fun j2 =>
 opK Tryd.prog E (xBuiltin .len #[174] 3 [false] [x0]) w_2 fun d3F w_6 =>
 xloop [6, 27] [g8S, (Value.int .i64 0)] w_6 fun τ_17 p5 next3 =>
 d9i (τ_17 6) x0 d3F (τ_17 27) p5 next3 j2 R E)
def c8s (_x0 x3 _x9 _x10 x11 : Value) (w : World) (next4 : List Value → World → Prop) (_R : Value → World → Prop) (E : Pan) : Prop :=
 ∀ _τ : Fr, (opK Tryd.prog E (xBin .add 3 (.tmp 11) (.const (Value.int .i64 1)) x11 (Value.int .i64 1)) w fun f5I t7 =>
 next4 [x3, f5I] t7)
def d9j (x0 x3 x9 x10 x11 : Value) (w : World) (next4 : List Value → World → Prop) (j1 : List Value → World → Prop) (R : Value → World → Prop) (E : Pan) : Prop :=
 opK Tryd.prog E (xBin .lss 3 (.tmp 11) (.tmp 10) x11 x10) w fun f5J q8 =>
 xcond f5J
 (xcut (fun d3G w4 => c8s x0 (nth d3G 0) x9 x10 x11 w4 next4 R E) fun j5 =>
 opK Tryd.prog E (xV (Instr.indexAt 174 x9 x11)) q8 fun f5K A8 =>
 opK Tryd.prog E (xV (Instr.loadAt 124 f5K)) A8 fun f5L w5 =>
 opK Tryd.prog E (xBuiltin .len #[124] 3 [false] [f5L]) w5 fun c8t z2 =>
 opK Tryd.prog E (xBin .add 3 (.tmp 15) (.tmp 17) x3 c8t) z2 fun b8f F1 =>
 opK Tryd.prog E (xBin .lss 3 (.tmp 19) (.const (Value.int .i64 0)) b8f (Value.int .i64 0)) F1 fun f5M D3 =>
 xcond f5M
 (opK Tryd.prog E (xV (Instr.makeInterface 9 (Value.string ⟨#[108, 101, 110, 32, 111, 117, 116, 32, 111, 102, 32, 114, 97, 110, 103, 101]⟩))) D3 fun f5N F5 =>
 opK Tryd.prog E (xV (Instr.panic f5N)) F5 fun _z_41 D4 =>
 j5 [b8f] D4)
 (j5 [b8f] D3))
 (j1 [x3] q8)
def F87 (x0 : Value) (w : World) (R : Value → World → Prop) (E : Pan) : Prop :=
 xcut (fun a4T o7 => c8r x0 (nth a4T 0) o7 R E) fun j1 =>
 opK Tryd.prog E (xBuiltin .len #[174] 3 [false] [x0]) w fun f5O r9 =>
 xloop [3, 11] [(Value.int .i64 0), (Value.int .i64 0)] r9 fun τ_43 D9 next4 =>
 d9j x0 (τ_43 3) x0 f5O (τ_43 11) D9 next4 j1 R E
noncomputable def c87 : Code := Tryd.f87.body.getD .skip
def h87 : Hint := (.seq .none (.seq .none (.cut [3] (.seq .none (.block (.loop [3, 11] (.seq .none (.seq (.cond .none .none) (.cut [3] (.block (.seq .none (.seq .none (.seq .none (.cond .none .none))))) .none)))))) (.seq .none (.cut [6] (.seq .none (.block (.loop [6, 27] (.seq .none (.seq (.cond .none .none) (.seq (.block (.seq .none .none)) .none)))))) (.seq .none .none))))))
theorem f5P (x0 : Value) (w : World) (R : Value → World → Prop) (E : Pan) : F87 x0 w R E = callX Tryd.prog [.tmp 2] c87 h87 [x0] w R E := by kernel_rfl
theorem f5Q {x0 : Value} {w : World} {R : Value → World → Prop} {E : Pan} (h : F87 x0 w R E) : Cv Tryd.prog 87 #[x0] w R E := by
 refine g7 (args := [x0]) (c := c87) (h := h87) (rs := [.tmp 2]) Tryd.func87 (by kernel_rfl) (by kernel_rfl) (Nat.le_of_ble_eq_true (by kernel_rfl)) (by kernel_rfl) (by kernel_rfl) (by kernel_rfl) ?_
 rw [← f5P]
 exact h
def c8u (x5 : Value) (w : World) (R : Value → World → Prop) (_E : Pan) : Prop :=
 ∀ _τ : Fr, (R x5 w)
def d9k (x1 x5 x8 x9 x10 : Value) (w : World) (next2 : List Value → World → Prop) (j1 : List Value → World → Prop) (_R : Value → World → Prop) (E : Pan) : Prop :=
 opK Tryd.prog E (xBin .lss 3 (.tmp 10) (.tmp 9) x10 x9) w fun a5g w_6 =>
 xcond a5g
 (opK Tryd.prog E (xV (Instr.indexAt 42 x8 x10)) w_6 fun a2I w_8 =>
 opK Tryd.prog E (xV (Instr.loadAt 63 a2I)) w_8 fun a6Z l0 =>
 opK Tryd.prog E (xV (Instr.alloc 63 true (.tuple #[]))) l0 fun a2k m6 =>
 opK Tryd.prog E (xU (Instr.storeAt 63 a2k a6Z)) m6 fun _z_13 l8 =>
 opK Tryd.prog E (xV (Instr.loadAt 63 a2k)) l8 fun a8H o5 =>
 opK Tryd.prog E (xCall x1 [a8H]) o5 fun a8I p5 =>
 opK Tryd.prog E (xV (Instr.buildSlice 124 1 #[(0, a8I)])) p5 fun a8J o7 =>
 opK Tryd.prog E (xBuiltin .append #[124, 124] 124 [false, false] [x5, a8J]) o7 fun a8K r9 =>
 opK Tryd.prog E (xBin .add 3 (.tmp 10) (.const (Value.int .i64 1)) x10 (Value.int .i64 1)) r9 fun a6w q8 =>
 next2 [a8K, a6w] q8)
 (j1 [x5] w_6)
def F90 (x0 x1 : Value) (w : World) (R : Value → World → Prop) (E : Pan) : Prop :=
 xcut (fun l_1 w_2 => c8u (nth l_1 0) w_2 R E) fun j1 =>
 opK Tryd.prog E (xBuiltin .len #[42] 3 [false] [x0]) w fun a6v w_4 =>
 xloop [5, 10] [(Value.slice none 0 0), (Value.int .i64 0)] w_4 fun τ_25 t7 next2 =>
 d9k x1 (τ_25 5) x0 a6v (τ_25 10) t7 next2 j1 R E
noncomputable def c90 : Code := Tryd.f90.body.getD .skip
def h90 : Hint := (.seq .none (.seq .none (.cut [5] (.seq .none (.block (.loop [5, 10] (.seq .none (.seq (.cond .none .none) (.seq (.block (.seq .none .none)) .none)))))) (.seq .none .none))))
theorem f5R (x0 x1 : Value) (w : World) (R : Value → World → Prop) (E : Pan) : F90 x0 x1 w R E = callX Tryd.prog [.tmp 4] c90 h90 [x0, x1] w R E := by kernel_rfl
theorem f5S {x0 x1 : Value} {w : World} {R : Value → World → Prop} {E : Pan} (h : F90 x0 x1 w R E) : Cv Tryd.prog 90 #[x0, x1] w R E := by
 refine g7 (args := [x0, x1]) (c := c90) (h := h90) (rs := [.tmp 4]) Tryd.func90 (by kernel_rfl) (by kernel_rfl) (Nat.le_of_ble_eq_true (by kernel_rfl)) (by kernel_rfl) (by kernel_rfl) (by kernel_rfl) ?_
 rw [← f5R]
 exact h
def F91 (x0 : Value) (w : World) (R : Value → World → Prop) (E : Pan) : Prop :=
 opK Tryd.prog E (xV (Instr.box 63 x0)) w fun o0 w_2 =>
 opK Tryd.prog E (xV (Instr.loadAt 63 o0)) w_2 fun Z0 w_4 =>
 opK Tryd.prog E (xV (Instr.build 179 #[(0, Z0)])) w_4 fun a4z w_6 =>
 opK Tryd.prog E (xV (Instr.makeInterface 179 a4z)) w_6 fun a7U w_8 =>
 R a7U w_8
noncomputable def c91 : Code := Tryd.f91.body.getD .skip
def h91 : Hint := (.seq .none (.seq .none .none))
theorem f5T (x0 : Value) (w : World) (R : Value → World → Prop) (E : Pan) : F91 x0 w R E = callX Tryd.prog [.tmp 2] c91 h91 [x0] w R E := by kernel_rfl
theorem f5U {x0 : Value} {w : World} {R : Value → World → Prop} {E : Pan} (h : F91 x0 w R E) : Cv Tryd.prog 91 #[x0] w R E := by
 refine g7 (args := [x0]) (c := c91) (h := h91) (rs := [.tmp 2]) Tryd.func91 (by kernel_rfl) (by kernel_rfl) (Nat.le_of_ble_eq_true (by kernel_rfl)) (by kernel_rfl) (by kernel_rfl) (by kernel_rfl) ?_
 rw [← f5T]
 exact h
def c8v (w : World) (R : Value → World → Prop) (_E : Pan) : Prop :=
 ∀ _τ : Fr, (R (Value.bool true) w)
def d9l (x1 x2 x3 x9 x10 x11 : Value) (w : World) (next2 : List Value → World → Prop) (j1 : List Value → World → Prop) (R : Value → World → Prop) (E : Pan) : Prop :=
 opK Tryd.prog E (xBin .lss 3 (.tmp 11) (.tmp 10) x11 x10) w fun a7a w_6 =>
 xcond a7a
 (opK Tryd.prog E (xV (Instr.indexAt 124 x9 x11)) w_6 fun R7 w_8 =>
 opK Tryd.prog E (xV (Instr.loadAt 152 R7)) w_8 fun a8L l0 =>
 dX l0 fun K6 =>
 qL Tryd.prog K6 (blk x2) (xV (Instr.loadAt 102 x2)) fun f5V =>
 opK Tryd.prog E (xCall (Value.func (.func 100) #[] #[]) [f5V, a8L, x1]) K6 fun a4U l8 =>
 keepX [] K6 l8 (qP Tryd.prog (xV (Op.unary .not a4U)) fun a4d =>
 qP Tryd.prog (gsem (asB a4d) false (xBin .add 3 (.tmp 24) (.const (Value.int .i64 1)) (gval (asB a4d) false x1) (Value.int .i64 1))) fun f5W =>
 qL Tryd.prog l8 (blk x3) (gsem (asB a4d) false (xV (Instr.loadAt 161 x3))) fun f5X =>
 opK Tryd.prog E (gsem (asB a4d) false (xInvoke (gval (asB a4d) false a8L) "gnomon/tree.parts" [])) l8 fun f5Y Z4 =>
 keepX [(blk x3)] l8 Z4 (opK Tryd.prog E (gsem (asB a4d) false (xCall f5X [f5Y, f5W])) Z4 fun f5Z a2J =>
 keepX [] Z4 a2J (qP Tryd.prog (gsem (asB a4d) false (xV (Op.unary .not f5Z))) fun f6a =>
 qP Tryd.prog (xPick a4d (Value.bool true) f6a) fun a2h =>
 xcond a2h
 (R (Value.bool false) a2J)
 (opK Tryd.prog E (xBin .add 3 (.tmp 11) (.const (Value.int .i64 1)) x11 (Value.int .i64 1)) a2J fun f6b b6m =>
 next2 [f6b] b6m)))))
 (j1 [] w_6)
def F99 (x0 x1 x2 x3 : Value) (w : World) (R : Value → World → Prop) (E : Pan) : Prop :=
 xcut (fun _ w_2 => c8v w_2 R E) fun j1 =>
 opK Tryd.prog E (xBuiltin .len #[124] 3 [false] [x0]) w fun a8G w_4 =>
 xloop [11] [(Value.int .i64 0)] w_4 fun τ_26 a7V next2 =>
 d9l x1 x2 x3 x0 a8G (τ_26 11) a7V next2 j1 R E
noncomputable def c99 : Code := Tryd.f99.body.getD .skip
def h99 : Hint := (.seq .none (.cut [] (.seq .none (.block (.loop [11] (.seq .none (.seq (.cond .none .none) (.seq (.block (.seq .none (.seq (.reg [(0, 32768, 4), (0, 65536, 256), (0, 131072, 2), (7, 262144, 229376), (8, 524288, 262144), (24, 1048576, 524288), (32, 2097152, 1048584), (32, 4194304, 1048832), (160, 8388608, 5242880), (32, 16777216, 1048578), (544, 33554432, 17825792), (1376, 67108864, 45088768), (2080, 134217728, 68157440), (4128, 268435456, 135266304)] [64, 65, 65, 0, 65, 65, 1, 65, 64, 65, 65, 0, 65, 65] (.early 1 (.early 2 (.load 0 (.step 3 (.early 4 (.early 5 (.early 7 (.early 9 (.early 10 (.load 6 (.step 8 (.step 11 (.early 12 (.early 13 .done))))))))))))))) (.cond (.seq .none .none) .none)))) .none)))))) (.seq .none .none)))
theorem f6c (x0 x1 x2 x3 : Value) (w : World) (R : Value → World → Prop) (E : Pan) : F99 x0 x1 x2 x3 w R E = callX Tryd.prog [.tmp 6] c99 h99 [x0, x1, x2, x3] w R E := by kernel_rfl
theorem f6d {x0 x1 x2 x3 : Value} {w : World} {R : Value → World → Prop} {E : Pan} (h : F99 x0 x1 x2 x3 w R E) : Cv Tryd.prog 99 #[x0, x1, x2, x3] w R E := by
 refine g7 (args := [x0, x1, x2, x3]) (c := c99) (h := h99) (rs := [.tmp 6]) Tryd.func99 (by kernel_rfl) (by kernel_rfl) (Nat.le_of_ble_eq_true (by kernel_rfl)) (by kernel_rfl) (by kernel_rfl) (by kernel_rfl) ?_
 rw [← f6c]
 exact h
def c4A (w : World) (R : Value → World → Prop) (_E : Pan) : Prop :=
 ∀ _τ : Fr, (R (Value.bool true) w)
def d3H (x0 x1 x2 : Value) (w : World) (R : Value → World → Prop) (E : Pan) : Prop :=
 opK Tryd.prog E (xNil x0) w fun b4c w_2 =>
 opK Tryd.prog E (xV (Instr.fieldAt 106 b4c 0)) w_2 fun a1S w_4 =>
 opK Tryd.prog E (xV (Instr.loadAt 3 a1S)) w_4 fun a7a w_6 =>
 opK Tryd.prog E (xBin .add 3 (.tmp 12) (.const (Value.int .i64 1)) a7a (Value.int .i64 1)) w_6 fun R7 w_8 =>
 opK Tryd.prog E (xNil x0) w_8 fun a8L l0 =>
 opK Tryd.prog E (xV (Instr.fieldAt 106 a8L 0)) l0 fun b8g m6 =>
 opK Tryd.prog E (xU (Instr.storeAt 3 b8g R7)) m6 fun _z_13 l8 =>
 opK Tryd.prog E (xNil x0) l8 fun c8w o5 =>
 opK Tryd.prog E (xV (Instr.fieldAt 106 c8w 0)) o5 fun f6e p5 =>
 opK Tryd.prog E (xV (Instr.loadAt 3 f6e)) p5 fun f6f o7 =>
 opK Tryd.prog E (xBin .gtr 3 (.tmp 19) (.const (Value.int .i64 4096)) f6f (Value.int .i64 4096)) o7 fun f6g r9 =>
 xcond f6g
 (opK Tryd.prog E (xNil x0) r9 fun b5s q8 =>
 opK Tryd.prog E (xV (Instr.fieldAt 106 b5s 2)) q8 fun c8x t7 =>
 opK Tryd.prog E (xU (Instr.storeAt 29 c8x (Value.int .i64 33))) t7 fun _z_27 w4 =>
 R (Value.bool false) w4)
 (opK Tryd.prog E (xBin .gtr 3 (.tmp 24) (.const (Value.int .i64 64)) x2 (Value.int .i64 64)) r9 fun f6h A8 =>
 xcond f6h
 (opK Tryd.prog E (xNil x0) A8 fun f6i w5 =>
 opK Tryd.prog E (xV (Instr.fieldAt 106 f6i 2)) w5 fun f6j z2 =>
 opK Tryd.prog E (xU (Instr.storeAt 29 f6j (Value.int .i64 32))) z2 fun _z_35 F1 =>
 R (Value.bool false) F1)
 (opK Tryd.prog E (xNil x0) A8 fun f6k D3 =>
 opK Tryd.prog E (xV (Instr.fieldAt 106 f6k 1)) D3 fun f6l F5 =>
 opK Tryd.prog E (xV (Instr.loadAt 3 f6l)) F5 fun f6m D4 =>
 opK Tryd.prog E (xBuiltin .max #[3, 3] 3 [false, false] [f6m, x2]) D4 fun f6n D9 =>
 opK Tryd.prog E (xNil x0) D9 fun f6o M5 =>
 opK Tryd.prog E (xV (Instr.fieldAt 106 f6o 1)) M5 fun f6p K5 =>
 opK Tryd.prog E (xU (Instr.storeAt 3 f6p f6n)) K5 fun _z_49 J6 =>
 opK Tryd.prog E (xNil x0) J6 fun f6q L3 =>
 opK Tryd.prog E (xV (Instr.fieldAt 106 f6q 3)) L3 fun f6r I7 =>
 opK Tryd.prog E (xV (Instr.loadAt 4 f6r)) I7 fun c3a M6 =>
 opK Tryd.prog E (gsem (asB c3a) false (xInvoke (gval (asB c3a) false x1) "gnomon/tree.form" [])) M6 fun f6s J5 =>
 opK Tryd.prog E (gsem (asB c3a) false (xV (Op.unary .not f6s))) J5 fun f6t M2 =>
 opK Tryd.prog E (xPick c3a (Value.bool true) f6t) M2 fun f6u L2 =>
 opK Tryd.prog E (xNil x0) L2 fun f6v M3 =>
 opK Tryd.prog E (xV (Instr.fieldAt 106 f6v 3)) M3 fun f6w U0 =>
 opK Tryd.prog E (xU (Instr.storeAt 4 f6w f6u)) U0 fun _z_67 U7 =>
 xcut (fun _ U1 => c4A U1 R E) fun j1 =>
 opK Tryd.prog E (xCall (Value.func (.func 118) #[] #[]) [x1]) U7 fun d9m a0r =>
 opK Tryd.prog E (xV (Instr.extract d9m 0)) a0r fun b8h a0s =>
 opK Tryd.prog E (xV (Instr.extract d9m 1)) a0s fun f6x Z3 =>
 xcond f6x
 (opK Tryd.prog E (xNil x0) Z3 fun f6y W3 =>
 opK Tryd.prog E (xV (Instr.fieldAt 106 f6y 4)) W3 fun f6z X3 =>
 opK Tryd.prog E (xV (Instr.loadAt 4 f6z)) X3 fun b2b Z1 =>
 opK Tryd.prog E (gsem (asB b2b) false (xCall (Value.func (.func 119) #[] #[]) [(gval (asB b2b) false b8h)])) Z1 fun f6A a0q =>
 opK Tryd.prog E (gsem (asB b2b) false (xV (Op.unary .not f6A))) a0q fun f6B a0A =>
 opK Tryd.prog E (xPick b2b (Value.bool true) f6B) a0A fun f6C Z2 =>
 opK Tryd.prog E (xNil x0) Z2 fun f6D a2g =>
 opK Tryd.prog E (xV (Instr.fieldAt 106 f6D 4)) a2g fun f6E a2H =>
 opK Tryd.prog E (xU (Instr.storeAt 4 f6E f6C)) a2H fun _z_93 a1B =>
 opK Tryd.prog E (xNil x0) a1B fun f6F a3l =>
 opK Tryd.prog E (xV (Instr.fieldAt 106 f6F 5)) a3l fun f6G a3m =>
 opK Tryd.prog E (xV (Instr.loadAt 104 f6G)) a3m fun f6H a1T =>
 opK Tryd.prog E (xCall (Value.func (.func 120) #[] #[]) [f6H, b8h]) a1T fun e7T a1U =>
 opK Tryd.prog E (xV (Op.unary .not e7T)) a1U fun e7U a4e =>
 xcond e7U
 (opK Tryd.prog E (xNil x0) a4e fun e7V a5h =>
 opK Tryd.prog E (xV (Instr.fieldAt 106 e7V 5)) a5h fun e7W a6Y =>
 opK Tryd.prog E (xV (Instr.loadAt 104 e7W)) a6Y fun e7X a5e =>
 opK Tryd.prog E (xV (Instr.buildSlice 104 1 #[(0, b8h)])) a5e fun e7Y a7Q =>
 opK Tryd.prog E (xBuiltin .append #[104, 104] 104 [false, false] [e7X, e7Y]) a7Q fun e7Z a7b =>
 opK Tryd.prog E (xNil x0) a7b fun e8a a7c =>
 opK Tryd.prog E (xV (Instr.fieldAt 106 e8a 5)) a7c fun e8b a7d =>
 opK Tryd.prog E (xU (Instr.storeAt 104 e8b e7Z)) a7d fun _z_119 a5X =>
 j1 [] a5X)
 (j1 [] a4e))
 (j1 [] Z3)))
noncomputable def f6I : Code := Tryd.f100.body.getD .skip
def f6J : Hint := (.seq .none (.seq (.seq .none (.seq .none (.cond (.seq .none (.seq .none .none)) .none))) (.seq (.seq .none (.cond (.seq .none (.seq .none .none)) .none)) (.seq .none (.seq .none (.cut [] (.seq .none (.seq .none (.cond (.seq .none (.seq .none (.cond .none .none))) .none))) (.seq .none .none)))))))
theorem e8c (x0 x1 x2 : Value) (w : World) (R : Value → World → Prop) (E : Pan) : d3H x0 x1 x2 w R E = callX Tryd.prog [.tmp 6] f6I f6J [x0, x1, x2] w R E := by kernel_rfl
theorem e8d {x0 x1 x2 : Value} {w : World} {R : Value → World → Prop} {E : Pan} (h : d3H x0 x1 x2 w R E) : Cv Tryd.prog 100 #[x0, x1, x2] w R E := by
 refine g7 (args := [x0, x1, x2]) (c := f6I) (h := f6J) (rs := [.tmp 6]) Tryd.func100 (by kernel_rfl) (by kernel_rfl) (Nat.le_of_ble_eq_true (by kernel_rfl)) (by kernel_rfl) (by kernel_rfl) (by kernel_rfl) ?_
 rw [← e8c]
 exact h
def d3I (x0 x1 : Value) (w : World) (R : Value → World → Prop) (E : Pan) : Prop :=
 opK Tryd.prog E (xNil x0) w fun a7s w_2 =>
 opK Tryd.prog E (xV (Instr.fieldAt 130 a7s 2)) w_2 fun a9L w_4 =>
 opK Tryd.prog E (xV (Instr.loadAt 3 a9L)) w_4 fun c8y w_6 =>
 opK Tryd.prog E (xBin .neq 3 (.tmp 8) (.const (Value.int .i64 0)) c8y (Value.int .i64 0)) w_6 fun c1i w_8 =>
 xcond c1i
 (R (Value.bool false) w_8)
 (opK Tryd.prog E (xNil x0) w_8 fun a8M l0 =>
 opK Tryd.prog E (xV (Instr.fieldAt 130 a8M 0)) l0 fun f6K m6 =>
 opK Tryd.prog E (xV (Instr.loadAt 3 f6K)) m6 fun c8z l8 =>
 opK Tryd.prog E (xBin .eql 3 (.tmp 13) (.const (Value.int .i64 4096)) c8z (Value.int .i64 4096)) l8 fun f6L o5 =>
 xcond f6L
 (opK Tryd.prog E (xNil x0) o5 fun f6M p5 =>
 opK Tryd.prog E (xV (Instr.fieldAt 130 f6M 2)) p5 fun f6N o7 =>
 opK Tryd.prog E (xU (Instr.storeAt 3 f6N (Value.int .i64 33))) o7 fun _z_21 r9 =>
 R (Value.bool false) r9)
 (opK Tryd.prog E (xBin .gtr 3 (.tmp 18) (.const (Value.int .i64 64)) x1 (Value.int .i64 64)) o5 fun c8A q8 =>
 xcond c8A
 (opK Tryd.prog E (xNil x0) q8 fun c8B t7 =>
 opK Tryd.prog E (xV (Instr.fieldAt 130 c8B 2)) t7 fun f6O w4 =>
 opK Tryd.prog E (xU (Instr.storeAt 3 f6O (Value.int .i64 32))) w4 fun _z_29 A8 =>
 R (Value.bool false) A8)
 (opK Tryd.prog E (xNil x0) q8 fun f6P w5 =>
 opK Tryd.prog E (xV (Instr.fieldAt 130 f6P 0)) w5 fun f6Q z2 =>
 opK Tryd.prog E (xV (Instr.loadAt 3 f6Q)) z2 fun f6R F1 =>
 opK Tryd.prog E (xBin .add 3 (.tmp 26) (.const (Value.int .i64 1)) f6R (Value.int .i64 1)) F1 fun c8C D3 =>
 opK Tryd.prog E (xNil x0) D3 fun b2c F5 =>
 opK Tryd.prog E (xV (Instr.fieldAt 130 b2c 0)) F5 fun f6S D4 =>
 opK Tryd.prog E (xU (Instr.storeAt 3 f6S c8C)) D4 fun _z_43 D9 =>
 opK Tryd.prog E (xNil x0) D9 fun c8D M5 =>
 opK Tryd.prog E (xV (Instr.fieldAt 130 c8D 1)) M5 fun c8E K5 =>
 opK Tryd.prog E (xV (Instr.loadAt 3 c8E)) K5 fun c8F J6 =>
 opK Tryd.prog E (xBuiltin .max #[3, 3] 3 [false, false] [c8F, x1]) J6 fun f6T L3 =>
 opK Tryd.prog E (xNil x0) L3 fun f6U I7 =>
 opK Tryd.prog E (xV (Instr.fieldAt 130 f6U 1)) I7 fun f6V M6 =>
 opK Tryd.prog E (xU (Instr.storeAt 3 f6V f6T)) M6 fun _z_57 J5 =>
 R (Value.bool true) J5)))
noncomputable def f6W : Code := Tryd.f102.body.getD .skip
def f6X : Hint := (.seq .none (.seq (.seq .none (.cond (.seq .none .none) .none)) (.seq (.seq .none (.cond (.seq .none (.seq .none .none)) .none)) (.seq (.seq .none (.cond (.seq .none (.seq .none .none)) .none)) (.seq .none (.seq .none (.seq .none .none)))))))
theorem e8e (x0 x1 : Value) (w : World) (R : Value → World → Prop) (E : Pan) : d3I x0 x1 w R E = callX Tryd.prog [.tmp 4] f6W f6X [x0, x1] w R E := by kernel_rfl
theorem e8f {x0 x1 : Value} {w : World} {R : Value → World → Prop} {E : Pan} (h : d3I x0 x1 w R E) : Cv Tryd.prog 102 #[x0, x1] w R E := by
 refine g7 (args := [x0, x1]) (c := f6W) (h := f6X) (rs := [.tmp 4]) Tryd.func102 (by kernel_rfl) (by kernel_rfl) (Nat.le_of_ble_eq_true (by kernel_rfl)) (by kernel_rfl) (by kernel_rfl) (by kernel_rfl) ?_
 rw [← e8e]
 exact h
def c4B (x0 : Value) (w : World) (R : Value → World → Prop) (_E : Pan) : Prop :=
 ∀ _τ : Fr, (R x0 w)
def d2s (x0 x1 : Value) (w : World) (R : Value → World → Prop) (E : Pan) : Prop :=
 ∀ _τ : Fr, (xcut (fun l_1 w_2 => c4B (nth l_1 0) w_2 R E) fun j2 =>
 opK Tryd.prog E (xBuiltin .cap #[124] 3 [false] [x0]) w fun a8G w_4 =>
 opK Tryd.prog E (xBuiltin .len #[124] 3 [false] [x0]) w_4 fun a7a w_6 =>
 opK Tryd.prog E (xBin .sub 3 (.tmp 10) (.tmp 12) a8G a7a) w_6 fun R7 w_8 =>
 opK Tryd.prog E (xBin .sub 3 (.tmp 8) (.tmp 13) x1 R7) w_8 fun a8L l0 =>
 opK Tryd.prog E (xBin .gtr 3 (.tmp 15) (.const (Value.int .i64 0)) a8L (Value.int .i64 0)) l0 fun a0B m6 =>
 xcond a0B
 (opK Tryd.prog E (xBuiltin .cap #[124] 3 [false] [x0]) m6 fun f6Y l8 =>
 opK Tryd.prog E (xV (Instr.sliceAt 124 x0 none (some f6Y) none)) l8 fun b2d o5 =>
 opK Tryd.prog E (xBuiltin .append #[124, 3] 124 [false, false] [b2d, a8L]) o5 fun b5v p5 =>
 opK Tryd.prog E (xBuiltin .len #[124] 3 [false] [x0]) p5 fun b8i o7 =>
 opK Tryd.prog E (xV (Instr.sliceAt 124 b5v none (some b8i) none)) o7 fun f6Z r9 =>
 j2 [f6Z] r9)
 (j2 [x0] m6))
def e1k (x0 x1 : Value) (w : World) (R : Value → World → Prop) (E : Pan) : Prop :=
 xcut (fun _ q8 => d2s x0 x1 q8 R E) fun j1 =>
 opK Tryd.prog E (xBin .lss 3 (.tmp 5) (.const (Value.int .i64 0)) x1 (Value.int .i64 0)) w fun g8T t7 =>
 xcond g8T
 (opK Tryd.prog E (xV (Instr.makeInterface 9 (Value.string ⟨#[99, 97, 110, 110, 111, 116, 32, 98, 101, 32, 110, 101, 103, 97, 116, 105, 118, 101]⟩))) t7 fun g8U w4 =>
 opK Tryd.prog E (xV (Instr.panic g8U)) w4 fun _z_29 A8 =>
 j1 [] A8)
 (j1 [] t7)
noncomputable def f7a : Code := Tryd.f117.body.getD .skip
def f7b : Hint := (.seq .none (.cut [] (.seq .none (.cond .none .none)) (.cut [0] (.seq .none (.seq .none (.cond .none .none))) (.seq .none .none))))
theorem e8g (x0 x1 : Value) (w : World) (R : Value → World → Prop) (E : Pan) : e1k x0 x1 w R E = callX Tryd.prog [.tmp 4] f7a f7b [x0, x1] w R E := by kernel_rfl
theorem e8h {x0 x1 : Value} {w : World} {R : Value → World → Prop} {E : Pan} (h : e1k x0 x1 w R E) : Cv Tryd.prog 117 #[x0, x1] w R E := by
 refine g7 (args := [x0, x1]) (c := f7a) (h := f7b) (rs := [.tmp 4]) Tryd.func117 (by kernel_rfl) (by kernel_rfl) (Nat.le_of_ble_eq_true (by kernel_rfl)) (by kernel_rfl) (by kernel_rfl) (by kernel_rfl) ?_
 rw [← e8g]
 exact h
def d3J (x0 : Value) (w : World) (R : Value → World → Prop) (E : Pan) : Prop :=
 opK Tryd.prog E (xV (Instr.typeAssert x0 152 177 true)) w fun b4G w_2 =>
 opK Tryd.prog E (xV (Instr.extract b4G 1)) w_2 fun a6v w_4 =>
 opK Tryd.prog E (xV (Instr.extract b4G 0)) w_4 fun a5f w_6 =>
 xcond a6v
 (opK Tryd.prog E (xV (Instr.alloc 177 true (.tuple #[]))) w_6 fun f7c w_8 =>
 opK Tryd.prog E (xU (Instr.storeAt 177 f7c a5f)) w_8 fun _z_9 l0 =>
 opK Tryd.prog E (xV (Instr.fieldAt 177 f7c 0)) l0 fun b2e m6 =>
 opK Tryd.prog E (xV (Instr.fieldAt 58 b2e 0)) m6 fun b8j l8 =>
 opK Tryd.prog E (xV (Instr.loadAt 9 b8j)) l8 fun a6q o5 =>
 R (Value.tuple #[a6q, (Value.bool true)]) o5)
 (opK Tryd.prog E (xV (Instr.typeAssert x0 152 179 true)) w_6 fun a8E p5 =>
 opK Tryd.prog E (xV (Instr.extract a8E 1)) p5 fun a6r o7 =>
 opK Tryd.prog E (xV (Instr.extract a8E 0)) o7 fun a8F r9 =>
 xcond a6r
 (opK Tryd.prog E (xV (Instr.alloc 179 true (.tuple #[]))) r9 fun c6J q8 =>
 opK Tryd.prog E (xU (Instr.storeAt 179 c6J a8F)) q8 fun _z_25 t7 =>
 dX t7 fun a7V =>
 qP Tryd.prog (xV (Instr.fieldAt 179 c6J 0)) fun f7d =>
 qP Tryd.prog (xV (Instr.fieldAt 63 f7d 1)) fun b5q =>
 qP Tryd.prog (xV (Instr.fieldAt 179 c6J 0)) fun f7e =>
 qP Tryd.prog (xV (Instr.fieldAt 63 f7e 0)) fun b5p =>
 qL Tryd.prog a7V (blk b5q) (xV (Instr.loadAt 9 b5q)) fun f7f =>
 qL Tryd.prog a7V (blk b5p) (xV (Instr.loadAt 3 b5p)) fun b8a =>
 qP Tryd.prog (xBin .eql 3 (.tmp 22) (.const (Value.int .i64 1)) b8a (Value.int .i64 1)) fun b8k =>
 qP Tryd.prog (gsem (asB b8k) false (xV (Instr.fieldAt 179 c6J 0))) fun f7g =>
 qP Tryd.prog (gsem (asB b8k) false (xV (Instr.fieldAt 63 f7g 0))) fun d9n =>
 qL Tryd.prog a7V (blk d9n) (gsem (asB b8k) false (xV (Instr.loadAt 3 d9n))) fun c8C =>
 qP Tryd.prog (gsem (asB b8k) false (xBin .eql 3 (.tmp 27) (.const (Value.int .i64 2)) c8C (Value.int .i64 2))) fun f7h =>
 qP Tryd.prog (xPick b8k (Value.bool true) f7h) fun c8G =>
 R (Value.tuple #[f7f, c8G]) a7V)
 (opK Tryd.prog E (xV (Instr.typeAssert x0 152 123 true)) r9 fun d9o b2f =>
 opK Tryd.prog E (xV (Instr.extract d9o 1)) b2f fun f7i c4C =>
 opK Tryd.prog E (xV (Instr.extract d9o 0)) c4C fun f7j b6n =>
 xcond f7i
 (opK Tryd.prog E (xV (Instr.alloc 123 true (.tuple #[]))) b6n fun c6K b0L =>
 opK Tryd.prog E (xU (Instr.storeAt 123 c6K f7j)) b0L fun _z_48 c4D =>
 dX c4D fun J6 =>
 qP Tryd.prog (xV (Instr.fieldAt 123 c6K 0)) fun c8b =>
 qP Tryd.prog (xV (Instr.fieldAt 24 c8b 2)) fun d9p =>
 qP Tryd.prog (xV (Instr.fieldAt 123 c6K 0)) fun c8H =>
 qP Tryd.prog (xV (Instr.fieldAt 24 c8H 0)) fun d9q =>
 qL Tryd.prog J6 (blk d9p) (xV (Instr.loadAt 9 d9p)) fun c8c =>
 qL Tryd.prog J6 (blk d9q) (xV (Instr.loadAt 3 d9q)) fun f7k =>
 qP Tryd.prog (xBin .eql 3 (.tmp 38) (.const (Value.int .i64 2)) f7k (Value.int .i64 2)) fun b8l =>
 qP Tryd.prog (gsem (asB b8l) false (xV (Instr.fieldAt 123 c6K 0))) fun f7l =>
 qP Tryd.prog (gsem (asB b8l) false (xV (Instr.fieldAt 24 f7l 0))) fun d9r =>
 qL Tryd.prog J6 (blk d9r) (gsem (asB b8l) false (xV (Instr.loadAt 3 d9r))) fun f7m =>
 qP Tryd.prog (gsem (asB b8l) false (xBin .eql 3 (.tmp 43) (.const (Value.int .i64 4)) f7m (Value.int .i64 4))) fun f7n =>
 qP Tryd.prog (xPick b8l (Value.bool true) f7n) fun f7o =>
 R (Value.tuple #[c8c, f7o]) J6)
 (R (Value.tuple #[(Value.string ⟨#[]⟩), (Value.bool false)]) b6n)))
noncomputable def f7p : Code := Tryd.f118.body.getD .skip
def f7q : Hint := (.seq .none (.seq (.seq .none (.block (.seq .none (.cond (.seq .none (.seq .none .none)) (.seq .none (.cond (.seq .none (.seq (.reg [(0, 131072, 32), (1, 262144, 131072), (2, 524288, 262144), (0, 1048576, 32), (8, 2097152, 1048576), (16, 4194304, 2097152), (32, 8388608, 4194304), (64, 16777216, 8388608), (128, 33554432, 16777248), (384, 67108864, 50331648), (640, 134217728, 83886080), (1152, 268435456, 150994944), (2176, 536870912, 285212672), (135, 4, 524288), (16383, 8, 536870912)] [1060, 1060, 1056, 1060, 1060, 1028, 1060, 1060, 1060, 1060, 36, 1060, 1060, 1060, 1060] (.early 0 (.early 1 (.early 3 (.early 4 (.load 2 (.load 5 (.early 6 (.early 7 (.early 8 (.early 9 (.early 13 (.load 10 (.early 11 (.early 12 (.early 14 .done)))))))))))))))) .none)) (.seq .none (.cond (.seq .none (.seq (.reg [(0, 8589934592, 64), (1, 17179869184, 8589934592), (2, 34359738368, 17179869184), (0, 68719476736, 64), (8, 137438953472, 68719476736), (16, 274877906944, 137438953472), (32, 549755813888, 274877906944), (64, 1099511627776, 549755813888), (128, 2199023255552, 1099511627840), (384, 4398046511104, 3298534883328), (640, 8796093022208, 5497558138880), (1152, 17592186044416, 9895604649984), (2176, 35184372088832, 18691697672192), (135, 4, 34359738368), (16383, 8, 35184372088832)] [1060, 1060, 1056, 1060, 1060, 1028, 1060, 1060, 1060, 1060, 36, 1060, 1060, 1060, 1060] (.early 0 (.early 1 (.early 3 (.early 4 (.load 2 (.load 5 (.early 6 (.early 7 (.early 8 (.early 9 (.early 13 (.load 10 (.early 11 (.early 12 (.early 14 .done)))))))))))))))) .none)) .none)))))))) (.seq .none .none)))
theorem e8i (x0 : Value) (w : World) (R : Value → World → Prop) (E : Pan) : d3J x0 w R E = callX Tryd.prog [.tmp 2, .tmp 3] f7p f7q [x0] w R E := by kernel_rfl
theorem e8j {x0 : Value} {w : World} {R : Value → World → Prop} {E : Pan} (h : d3J x0 w R E) : Cv Tryd.prog 118 #[x0] w R E := by
 refine g7 (args := [x0]) (c := f7p) (h := f7q) (rs := [.tmp 2, .tmp 3]) Tryd.func118 (by kernel_rfl) (by kernel_rfl) (Nat.le_of_ble_eq_true (by kernel_rfl)) (by kernel_rfl) (by kernel_rfl) (by kernel_rfl) ?_
 rw [← e8i]
 exact h
def c4E (w : World) (R : Value → World → Prop) (_E : Pan) : Prop :=
 ∀ _τ : Fr, (R (Value.bool true) w)
def d2t (x21 : Value) (w : World) (next2 : List Value → World → Prop) (j1 : List Value → World → Prop) (R : Value → World → Prop) (E : Pan) : Prop :=
 opK Tryd.prog E (xV (Instr.next x21 true 0)) w fun b8m r9 =>
 opK Tryd.prog E (xV (Instr.extract b8m 0)) r9 fun b8n q8 =>
 xcond b8n
 (opK Tryd.prog E (xV (Instr.extract b8m 1)) q8 fun f7r t7 =>
 opK Tryd.prog E (xV (Instr.extract b8m 2)) t7 fun d9s w4 =>
 opK Tryd.prog E (xCall (Value.func (.func 140) #[] #[]) [d9s]) w4 fun f7s A8 =>
 opK Tryd.prog E (xV (Op.unary .not f7s)) A8 fun b0A w5 =>
 opK Tryd.prog E (gsem (asB b0A) false (xBin .eql 3 (.tmp 30) (.const (Value.int .i64 0)) (gval (asB b0A) false f7r) (Value.int .i64 0))) w5 fun c3b z2 =>
 opK Tryd.prog E (gsem (asB (gval (asB b0A) false c3b)) true (xCall (Value.func (.func 141) #[] #[]) [(gval (asB (gval (asB b0A) false c3b)) true d9s)])) z2 fun f7t F1 =>
 opK Tryd.prog E (gsem (asB (gval (asB b0A) false c3b)) true (xBin .neq 3 (.tmp 34) (.const (Value.int .i64 3)) f7t (Value.int .i64 3))) F1 fun f7u D3 =>
 opK Tryd.prog E (gsem (asB b0A) false (xPick (gval (asB b0A) false c3b) f7u (Value.bool false))) D3 fun f7v F5 =>
 opK Tryd.prog E (xPick b0A (Value.bool true) f7v) F5 fun f7w D4 =>
 xcond f7w
 (R (Value.bool false) D4)
 (next2 [] D4))
 (j1 [] q8)
def d3K (x0 : Value) (w : World) (R : Value → World → Prop) (E : Pan) : Prop :=
 opK Tryd.prog E (xBin .eql 9 (.tmp 5) (.const (Value.string ⟨#[]⟩)) x0 (Value.string ⟨#[]⟩)) w fun a7s w_2 =>
 opK Tryd.prog E (gsem (asB a7s) false (xCall (Value.func (.func 137) #[] #[]) [(gval (asB a7s) false x0)])) w_2 fun a6v w_4 =>
 opK Tryd.prog E (gsem (asB a7s) false (xV (Op.unary .not a6v))) w_4 fun a5f w_6 =>
 opK Tryd.prog E (xPick a7s (Value.bool true) a5f) w_6 fun b1h w_8 =>
 opK Tryd.prog E (gsem (asB b1h) false (xCall (Value.func (.func 138) #[] #[]) [(gval (asB b1h) false x0)])) w_8 fun a8L l0 =>
 opK Tryd.prog E (xPick b1h (Value.bool true) a8L) l0 fun b8g m6 =>
 opK Tryd.prog E (gsem (asB b8g) false (xCall (Value.func (.func 139) #[] #[]) [(gval (asB b8g) false x0)])) m6 fun a4U l8 =>
 opK Tryd.prog E (xPick b8g (Value.bool true) a4U) l8 fun a4d o5 =>
 xcond a4d
 (R (Value.bool false) o5)
 (xcut (fun _ p5 => c4E p5 R E) fun j1 =>
 opK Tryd.prog E (xV (Instr.range 9 x0)) o5 fun c8I o7 =>
 xloop [] [] o7 fun _ D9 next2 =>
 d2t c8I D9 next2 j1 R E)
noncomputable def f7x : Code := Tryd.f119.body.getD .skip
def f7y : Hint := (.seq .none (.seq (.seq .none (.cond (.seq .none .none) .none)) (.cut [] (.seq .none (.block (.loop [] (.seq .none (.seq (.cond .none .none) (.block (.seq .none (.seq .none (.cond (.seq .none .none) .none))))))))) (.seq .none .none))))
theorem e8k (x0 : Value) (w : World) (R : Value → World → Prop) (E : Pan) : d3K x0 w R E = callX Tryd.prog [.tmp 2] f7x f7y [x0] w R E := by kernel_rfl
theorem e8l {x0 : Value} {w : World} {R : Value → World → Prop} {E : Pan} (h : d3K x0 w R E) : Cv Tryd.prog 119 #[x0] w R E := by
 refine g7 (args := [x0]) (c := f7x) (h := f7y) (rs := [.tmp 2]) Tryd.func119 (by kernel_rfl) (by kernel_rfl) (Nat.le_of_ble_eq_true (by kernel_rfl)) (by kernel_rfl) (by kernel_rfl) (by kernel_rfl) ?_
 rw [← e8k]
 exact h
def d3L (x0 x1 : Value) (w : World) (R : Value → World → Prop) (E : Pan) : Prop :=
 opK Tryd.prog E (xCall (Value.func (.func 142) #[] #[]) [x0, x1]) w fun Z5 w_2 =>
 opK Tryd.prog E (xBin .geq 3 (.tmp 7) (.const (Value.int .i64 0)) Z5 (Value.int .i64 0)) w_2 fun a8N w_4 =>
 R a8N w_4
noncomputable def f7z : Code := Tryd.f120.body.getD .skip
def f7A : Hint := (.seq .none (.seq .none .none))
theorem e8m (x0 x1 : Value) (w : World) (R : Value → World → Prop) (E : Pan) : d3L x0 x1 w R E = callX Tryd.prog [.tmp 4] f7z f7A [x0, x1] w R E := by kernel_rfl
theorem e8n {x0 x1 : Value} {w : World} {R : Value → World → Prop} {E : Pan} (h : d3L x0 x1 w R E) : Cv Tryd.prog 120 #[x0, x1] w R E := by
 refine g7 (args := [x0, x1]) (c := f7z) (h := f7A) (rs := [.tmp 4]) Tryd.func120 (by kernel_rfl) (by kernel_rfl) (Nat.le_of_ble_eq_true (by kernel_rfl)) (by kernel_rfl) (by kernel_rfl) (by kernel_rfl) ?_
 rw [← e8m]
 exact h
def d3M (x0 : Value) (w : World) (R : Value → World → Prop) (E : Pan) : Prop :=
 opK Tryd.prog E (xCall (Value.func (.func 150) #[] #[]) [x0]) w fun b8e w_2 =>
 opK Tryd.prog E (xBin .gtr 3 (.tmp 4) (.const (Value.int .i64 32)) b8e (Value.int .i64 32)) w_2 fun a9M w_4 =>
 R a9M w_4
noncomputable def f7B : Code := Tryd.f138.body.getD .skip
def f7C : Hint := (.seq .none (.seq .none .none))
theorem e8o (x0 : Value) (w : World) (R : Value → World → Prop) (E : Pan) : d3M x0 w R E = callX Tryd.prog [.tmp 2] f7B f7C [x0] w R E := by kernel_rfl
theorem e8p {x0 : Value} {w : World} {R : Value → World → Prop} {E : Pan} (h : d3M x0 w R E) : Cv Tryd.prog 138 #[x0] w R E := by
 refine g7 (args := [x0]) (c := f7B) (h := f7C) (rs := [.tmp 2]) Tryd.func138 (by kernel_rfl) (by kernel_rfl) (Nat.le_of_ble_eq_true (by kernel_rfl)) (by kernel_rfl) (by kernel_rfl) (by kernel_rfl) ?_
 rw [← e8o]
 exact h
def c4F (x4 : Value) (w : World) (R : Value → World → Prop) (_E : Pan) : Prop :=
 ∀ _τ : Fr, (xcond x4
 (R (Value.bool true) w)
 (R (Value.bool false) w))
def d3N (x0 : Value) (w : World) (R : Value → World → Prop) (E : Pan) : Prop :=
 xcut (fun l_1 w_2 => c4F (nth l_1 0) w_2 R E) fun j1 =>
 opK Tryd.prog E (xBin .eql 9 (.tmp 3) (.const (Value.string ⟨#[118, 97, 114]⟩)) x0 (Value.string ⟨#[118, 97, 114]⟩)) w fun a9M w_4 =>
 xcond a9M
 (j1 [a9M] w_4)
 (opK Tryd.prog E (xBin .eql 9 (.tmp 3) (.const (Value.string ⟨#[97, 114, 114, 97, 121]⟩)) x0 (Value.string ⟨#[97, 114, 114, 97, 121]⟩)) w_4 fun a9J w_6 =>
 xcond a9J
 (j1 [a9J] w_6)
 (opK Tryd.prog E (xBin .eql 9 (.tmp 3) (.const (Value.string ⟨#[105, 102]⟩)) x0 (Value.string ⟨#[105, 102]⟩)) w_6 fun b1W w_8 =>
 xcond b1W
 (j1 [b1W] w_8)
 (opK Tryd.prog E (xBin .eql 9 (.tmp 3) (.const (Value.string ⟨#[101, 108, 115, 101]⟩)) x0 (Value.string ⟨#[101, 108, 115, 101]⟩)) w_8 fun a4y l0 =>
 xcond a4y
 (j1 [a4y] l0)
 (opK Tryd.prog E (xBin .eql 9 (.tmp 3) (.const (Value.string ⟨#[119, 104, 105, 108, 101]⟩)) x0 (Value.string ⟨#[119, 104, 105, 108, 101]⟩)) l0 fun a2G m6 =>
 xcond a2G
 (j1 [a2G] m6)
 (opK Tryd.prog E (xBin .eql 9 (.tmp 3) (.const (Value.string ⟨#[97, 115, 115, 101, 114, 116]⟩)) x0 (Value.string ⟨#[97, 115, 115, 101, 114, 116]⟩)) m6 fun a5L l8 =>
 xcond a5L
 (j1 [a5L] l8)
 (opK Tryd.prog E (xBin .eql 9 (.tmp 3) (.const (Value.string ⟨#[97, 115, 115, 117, 109, 101]⟩)) x0 (Value.string ⟨#[97, 115, 115, 117, 109, 101]⟩)) l8 fun b8o o5 =>
 xcond b8o
 (j1 [b8o] o5)
 (opK Tryd.prog E (xBin .eql 9 (.tmp 3) (.const (Value.string ⟨#[115, 107, 105, 112]⟩)) x0 (Value.string ⟨#[115, 107, 105, 112]⟩)) o5 fun b8p p5 =>
 xcond b8p
 (j1 [b8p] p5)
 (opK Tryd.prog E (xBin .eql 9 (.tmp 3) (.const (Value.string ⟨#[105, 110, 112, 117, 116]⟩)) x0 (Value.string ⟨#[105, 110, 112, 117, 116]⟩)) p5 fun b2g o7 =>
 xcond b2g
 (j1 [b2g] o7)
 (opK Tryd.prog E (xBin .eql 9 (.tmp 3) (.const (Value.string ⟨#[116, 114, 117, 101]⟩)) x0 (Value.string ⟨#[116, 114, 117, 101]⟩)) o7 fun b2h r9 =>
 xcond b2h
 (j1 [b2h] r9)
 (opK Tryd.prog E (xBin .eql 9 (.tmp 3) (.const (Value.string ⟨#[102, 97, 108, 115, 101]⟩)) x0 (Value.string ⟨#[102, 97, 108, 115, 101]⟩)) r9 fun b8q q8 =>
 j1 [b8q] q8))))))))))
noncomputable def f7D : Code := Tryd.f139.body.getD .skip
def f7E : Hint := (.seq .none (.seq (.seq .none (.block (.cut [4] (.seq .none (.cond .none (.seq .none (.cond .none (.seq .none (.cond .none (.seq .none (.cond .none (.seq .none (.cond .none (.seq .none (.cond .none (.seq .none (.cond .none (.seq .none (.cond .none (.seq .none (.cond .none (.seq .none (.cond .none .none)))))))))))))))))))) (.cond (.seq .none .none) .none)))) (.seq .none .none)))
theorem e8q (x0 : Value) (w : World) (R : Value → World → Prop) (E : Pan) : d3N x0 w R E = callX Tryd.prog [.tmp 2] f7D f7E [x0] w R E := by kernel_rfl
theorem e8r {x0 : Value} {w : World} {R : Value → World → Prop} {E : Pan} (h : d3N x0 w R E) : Cv Tryd.prog 139 #[x0] w R E := by
 refine g7 (args := [x0]) (c := f7D) (h := f7E) (rs := [.tmp 2]) Tryd.func139 (by kernel_rfl) (by kernel_rfl) (Nat.le_of_ble_eq_true (by kernel_rfl)) (by kernel_rfl) (by kernel_rfl) (by kernel_rfl) ?_
 rw [← e8q]
 exact h
def d3O (x0 : Value) (w : World) (R : Value → World → Prop) (E : Pan) : Prop :=
 opK Tryd.prog E (xCall (Value.func (.func 141) #[] #[]) [x0]) w fun c1j w_2 =>
 opK Tryd.prog E (xBin .eql 3 (.tmp 6) (.const (Value.int .i64 3)) c1j (Value.int .i64 3)) w_2 fun a9L w_4 =>
 opK Tryd.prog E (gsem (asB a9L) false (xBin .eql 3 (.tmp 9) (.const (Value.int .i64 4)) (gval (asB a9L) false c1j) (Value.int .i64 4))) w_4 fun a5f w_6 =>
 opK Tryd.prog E (xPick a9L (Value.bool true) a5f) w_6 fun b1h w_8 =>
 R b1h w_8
noncomputable def f7F : Code := Tryd.f140.body.getD .skip
def f7G : Hint := (.seq .none (.seq .none (.seq .none .none)))
theorem e8s (x0 : Value) (w : World) (R : Value → World → Prop) (E : Pan) : d3O x0 w R E = callX Tryd.prog [.tmp 2] f7F f7G [x0] w R E := by kernel_rfl
theorem e8t {x0 : Value} {w : World} {R : Value → World → Prop} {E : Pan} (h : d3O x0 w R E) : Cv Tryd.prog 140 #[x0] w R E := by
 refine g7 (args := [x0]) (c := f7F) (h := f7G) (rs := [.tmp 2]) Tryd.func140 (by kernel_rfl) (by kernel_rfl) (Nat.le_of_ble_eq_true (by kernel_rfl)) (by kernel_rfl) (by kernel_rfl) (by kernel_rfl) ?_
 rw [← e8s]
 exact h
def c4G (x39 : Value) (w : World) (R : Value → World → Prop) (_E : Pan) : Prop :=
 ∀ _τ : Fr, (xcond x39
 (R (Value.int .i64 3) w)
 (R (Value.int .i64 6) w))
def c4H (x1 x31 : Value) (w : World) (R : Value → World → Prop) (E : Pan) : Prop :=
 ∀ _τ : Fr, (xcond x31
 (R (Value.int .i64 6) w)
 (opK Tryd.prog E (xV (Instr.makeFunc (.func 151) #[] #[x1])) w fun b9x w_8 =>
 opK Tryd.prog E (xCall b9x [(Value.int .i32 48), (Value.int .i32 57)]) w_8 fun g8V l0 =>
 xcond g8V
 (R (Value.int .i64 4) l0)
 (xcut (fun c1k m6 => c4G (nth c1k 0) m6 R E) fun j4 =>
 opK Tryd.prog E (xV (Instr.loadAt 21 x1)) l0 fun f7H l8 =>
 opK Tryd.prog E (xBin .eql 21 (.tmp 40) (.const (Value.int .i32 95)) f7H (Value.int .i32 95)) l8 fun d9t o5 =>
 xcond d9t
 (j4 [d9t] o5)
 (opK Tryd.prog E (xCall b9x [(Value.int .i32 97), (Value.int .i32 122)]) o5 fun c2U p5 =>
 xcond c2U
 (j4 [c2U] p5)
 (opK Tryd.prog E (xCall b9x [(Value.int .i32 65), (Value.int .i32 90)]) p5 fun d9u o7 =>
 xcond d9u
 (j4 [d9u] o7)
 (opK Tryd.prog E (xCall b9x [(Value.int .i32 192), (Value.int .i32 591)]) o7 fun d9v r9 =>
 xcond d9v
 (j4 [d9v] r9)
 (opK Tryd.prog E (xCall b9x [(Value.int .i32 913), (Value.int .i32 969)]) r9 fun d9w q8 =>
 xcond d9w
 (j4 [d9w] q8)
 (opK Tryd.prog E (xCall b9x [(Value.int .i32 1040), (Value.int .i32 1103)]) q8 fun f7I t7 =>
 j4 [f7I] t7))))))))
def c4I (x1 x4 x11 : Value) (w : World) (R : Value → World → Prop) (E : Pan) : Prop :=
 ∀ _τ : Fr, (xcond x11
 (R (Value.int .i64 5) w)
 (xcut (fun d3G w4 => c4H x1 (nth d3G 0) w4 R E) fun j3 =>
 opK Tryd.prog E (xBin .eql 21 (.tmp 4) (.const (Value.int .i32 215)) x4 (Value.int .i32 215)) w fun b8r A8 =>
 xcond b8r
 (j3 [b8r] A8)
 (opK Tryd.prog E (xBin .eql 21 (.tmp 4) (.const (Value.int .i32 247)) x4 (Value.int .i32 247)) A8 fun d9x w5 =>
 xcond d9x
 (j3 [d9x] w5)
 (opK Tryd.prog E (xBin .eql 21 (.tmp 4) (.const (Value.int .i32 930)) x4 (Value.int .i32 930)) w5 fun f7J z2 =>
 j3 [f7J] z2))))
def c4J (x1 x4 x5 : Value) (w : World) (R : Value → World → Prop) (E : Pan) : Prop :=
 ∀ _τ : Fr, (xcond x5
 (R (Value.int .i64 1) w)
 (opK Tryd.prog E (xBin .eql 21 (.tmp 4) (.const (Value.int .i32 10)) x4 (Value.int .i32 10)) w fun a5f w_6 =>
 xcond a5f
 (R (Value.int .i64 2) w_6)
 (xcut (fun c1l F1 => c4I x1 x4 (nth c1l 0) F1 R E) fun j2 =>
 opK Tryd.prog E (xBin .eql 21 (.tmp 4) (.const (Value.int .i32 59)) x4 (Value.int .i32 59)) w_6 fun d9y D3 =>
 xcond d9y
 (j2 [d9y] D3)
 (opK Tryd.prog E (xBin .eql 21 (.tmp 4) (.const (Value.int .i32 44)) x4 (Value.int .i32 44)) D3 fun d9z F5 =>
 xcond d9z
 (j2 [d9z] F5)
 (opK Tryd.prog E (xBin .eql 21 (.tmp 4) (.const (Value.int .i32 123)) x4 (Value.int .i32 123)) F5 fun d9A D4 =>
 xcond d9A
 (j2 [d9A] D4)
 (opK Tryd.prog E (xBin .eql 21 (.tmp 4) (.const (Value.int .i32 125)) x4 (Value.int .i32 125)) D4 fun d9B D9 =>
 xcond d9B
 (j2 [d9B] D9)
 (opK Tryd.prog E (xBin .eql 21 (.tmp 4) (.const (Value.int .i32 40)) x4 (Value.int .i32 40)) D9 fun d9C M5 =>
 xcond d9C
 (j2 [d9C] M5)
 (opK Tryd.prog E (xBin .eql 21 (.tmp 4) (.const (Value.int .i32 41)) x4 (Value.int .i32 41)) M5 fun d9D K5 =>
 xcond d9D
 (j2 [d9D] K5)
 (opK Tryd.prog E (xBin .eql 21 (.tmp 4) (.const (Value.int .i32 91)) x4 (Value.int .i32 91)) K5 fun d9E J6 =>
 xcond d9E
 (j2 [d9E] J6)
 (opK Tryd.prog E (xBin .eql 21 (.tmp 4) (.const (Value.int .i32 93)) x4 (Value.int .i32 93)) J6 fun c2V L3 =>
 xcond c2V
 (j2 [c2V] L3)
 (opK Tryd.prog E (xBin .eql 21 (.tmp 4) (.const (Value.int .i32 61)) x4 (Value.int .i32 61)) L3 fun c2W I7 =>
 xcond c2W
 (j2 [c2W] I7)
 (opK Tryd.prog E (xBin .eql 21 (.tmp 4) (.const (Value.int .i32 33)) x4 (Value.int .i32 33)) I7 fun c2X M6 =>
 xcond c2X
 (j2 [c2X] M6)
 (opK Tryd.prog E (xBin .eql 21 (.tmp 4) (.const (Value.int .i32 60)) x4 (Value.int .i32 60)) M6 fun c2Y J5 =>
 xcond c2Y
 (j2 [c2Y] J5)
 (opK Tryd.prog E (xBin .eql 21 (.tmp 4) (.const (Value.int .i32 62)) x4 (Value.int .i32 62)) J5 fun c2Z M2 =>
 xcond c2Z
 (j2 [c2Z] M2)
 (opK Tryd.prog E (xBin .eql 21 (.tmp 4) (.const (Value.int .i32 43)) x4 (Value.int .i32 43)) M2 fun d9F L2 =>
 xcond d9F
 (j2 [d9F] L2)
 (opK Tryd.prog E (xBin .eql 21 (.tmp 4) (.const (Value.int .i32 45)) x4 (Value.int .i32 45)) L2 fun d9G M3 =>
 xcond d9G
 (j2 [d9G] M3)
 (opK Tryd.prog E (xBin .eql 21 (.tmp 4) (.const (Value.int .i32 42)) x4 (Value.int .i32 42)) M3 fun d9H U0 =>
 xcond d9H
 (j2 [d9H] U0)
 (opK Tryd.prog E (xBin .eql 21 (.tmp 4) (.const (Value.int .i32 47)) x4 (Value.int .i32 47)) U0 fun d9I U7 =>
 xcond d9I
 (j2 [d9I] U7)
 (opK Tryd.prog E (xBin .eql 21 (.tmp 4) (.const (Value.int .i32 37)) x4 (Value.int .i32 37)) U7 fun d9J U1 =>
 xcond d9J
 (j2 [d9J] U1)
 (opK Tryd.prog E (xBin .eql 21 (.tmp 4) (.const (Value.int .i32 38)) x4 (Value.int .i32 38)) U1 fun d9K a0r =>
 xcond d9K
 (j2 [d9K] a0r)
 (opK Tryd.prog E (xBin .eql 21 (.tmp 4) (.const (Value.int .i32 124)) x4 (Value.int .i32 124)) a0r fun f7K a0s =>
 j2 [f7K] a0s)))))))))))))))))))))
def d3P (x0 : Value) (w : World) (R : Value → World → Prop) (E : Pan) : Prop :=
 opK Tryd.prog E (xV (Instr.box 21 x0)) w fun o0 w_2 =>
 opK Tryd.prog E (xV (Instr.loadAt 21 o0)) w_2 fun a3o w_4 =>
 xcut (fun f7L Z3 => c4J o0 a3o (nth f7L 0) Z3 R E) fun j1 =>
 opK Tryd.prog E (xBin .eql 21 (.tmp 4) (.const (Value.int .i32 32)) a3o (Value.int .i32 32)) w_4 fun e5M W3 =>
 xcond e5M
 (j1 [e5M] W3)
 (opK Tryd.prog E (xBin .eql 21 (.tmp 4) (.const (Value.int .i32 9)) a3o (Value.int .i32 9)) W3 fun e5N X3 =>
 xcond e5N
 (j1 [e5N] X3)
 (opK Tryd.prog E (xBin .eql 21 (.tmp 4) (.const (Value.int .i32 13)) a3o (Value.int .i32 13)) X3 fun g8W Z1 =>
 j1 [g8W] Z1))
noncomputable def f7M : Code := Tryd.f141.body.getD .skip
def f7N : Hint := (.seq .none (.seq (.seq .none (.block (.cut [5] (.seq .none (.cond .none (.seq .none (.cond .none .none)))) (.cond (.seq .none .none) (.seq .none (.cond (.seq .none .none) (.cut [11] (.seq .none (.cond .none (.seq .none (.cond .none (.seq .none (.cond .none (.seq .none (.cond .none (.seq .none (.cond .none (.seq .none (.cond .none (.seq .none (.cond .none (.seq .none (.cond .none (.seq .none (.cond .none (.seq .none (.cond .none (.seq .none (.cond .none (.seq .none (.cond .none (.seq .none (.cond .none (.seq .none (.cond .none (.seq .none (.cond .none (.seq .none (.cond .none (.seq .none (.cond .none (.seq .none (.cond .none .none)))))))))))))))))))))))))))))))))))) (.cond (.seq .none .none) (.cut [31] (.seq .none (.cond .none (.seq .none (.cond .none .none)))) (.cond (.seq .none .none) .none)))))))))) (.seq .none (.seq (.block (.seq .none (.cond (.seq .none .none) (.cut [39] (.seq .none (.cond .none (.seq .none (.cond .none (.seq .none (.cond .none (.seq .none (.cond .none (.seq .none (.cond .none .none)))))))))) (.cond (.seq .none .none) .none))))) (.seq .none .none)))))
theorem e8u (x0 : Value) (w : World) (R : Value → World → Prop) (E : Pan) : d3P x0 w R E = callX Tryd.prog [.tmp 2] f7M f7N [x0] w R E := by kernel_rfl
theorem e8v {x0 : Value} {w : World} {R : Value → World → Prop} {E : Pan} (h : d3P x0 w R E) : Cv Tryd.prog 141 #[x0] w R E := by
 refine g7 (args := [x0]) (c := f7M) (h := f7N) (rs := [.tmp 2]) Tryd.func141 (by kernel_rfl) (by kernel_rfl) (Nat.le_of_ble_eq_true (by kernel_rfl)) (by kernel_rfl) (by kernel_rfl) (by kernel_rfl) ?_
 rw [← e8u]
 exact h
def c4K (w : World) (R : Value → World → Prop) (_E : Pan) : Prop :=
 ∀ _τ : Fr, (R (Value.int .i64 (-1)) w)
def d2u (x0 x1 x7 x8 : Value) (w : World) (next2 : List Value → World → Prop) (j1 : List Value → World → Prop) (R : Value → World → Prop) (E : Pan) : Prop :=
 opK Tryd.prog E (xBin .lss 3 (.tmp 8) (.tmp 7) x8 x7) w fun c1m w_6 =>
 xcond c1m
 (opK Tryd.prog E (xV (Instr.indexAt 104 x0 x8)) w_6 fun Y1 w_8 =>
 opK Tryd.prog E (xV (Instr.loadAt 9 Y1)) w_8 fun b6o l0 =>
 opK Tryd.prog E (xBin .eql 9 (.tmp 11) (.tmp 15) x1 b6o) l0 fun a0B m6 =>
 xcond a0B
 (R x8 m6)
 (opK Tryd.prog E (xBin .add 3 (.tmp 8) (.const (Value.int .i64 1)) x8 (Value.int .i64 1)) m6 fun a4U l8 =>
 next2 [a4U] l8))
 (j1 [] w_6)
def d3Q (x0 x1 : Value) (w : World) (R : Value → World → Prop) (E : Pan) : Prop :=
 xcut (fun _ w_2 => c4K w_2 R E) fun j1 =>
 opK Tryd.prog E (xBuiltin .len #[104] 3 [false] [x0]) w fun a9L w_4 =>
 xloop [8] [(Value.int .i64 0)] w_4 fun τ_15 o5 next2 =>
 d2u x0 x1 a9L (τ_15 8) o5 next2 j1 R E
noncomputable def f7O : Code := Tryd.f142.body.getD .skip
def f7P : Hint := (.seq .none (.cut [] (.seq .none (.block (.loop [8] (.seq .none (.seq (.cond .none .none) (.seq (.block (.seq .none (.seq .none (.cond (.seq .none .none) .none)))) .none)))))) (.seq .none .none)))
theorem e8w (x0 x1 : Value) (w : World) (R : Value → World → Prop) (E : Pan) : d3Q x0 x1 w R E = callX Tryd.prog [.tmp 4] f7O f7P [x0, x1] w R E := by kernel_rfl
theorem e8x {x0 x1 : Value} {w : World} {R : Value → World → Prop} {E : Pan} (h : d3Q x0 x1 w R E) : Cv Tryd.prog 142 #[x0, x1] w R E := by
 refine g7 (args := [x0, x1]) (c := f7O) (h := f7P) (rs := [.tmp 4]) Tryd.func142 (by kernel_rfl) (by kernel_rfl) (Nat.le_of_ble_eq_true (by kernel_rfl)) (by kernel_rfl) (by kernel_rfl) (by kernel_rfl) ?_
 rw [← e8w]
 exact h
def c4L (x2 : Value) (w : World) (R : Value → World → Prop) (_E : Pan) : Prop :=
 ∀ _τ : Fr, (R x2 w)
def d2v (x2 x4 : Value) (w : World) (next2 : List Value → World → Prop) (j1 : List Value → World → Prop) (_R : Value → World → Prop) (E : Pan) : Prop :=
 opK Tryd.prog E (xV (Instr.next x4 true 0)) w fun a9N w_6 =>
 opK Tryd.prog E (xV (Instr.extract a9N 0)) w_6 fun a6x w_8 =>
 xcond a6x
 (opK Tryd.prog E (xBin .add 3 (.tmp 7) (.const (Value.int .i64 1)) x2 (Value.int .i64 1)) w_8 fun a4y l0 =>
 next2 [a4y] l0)
 (j1 [x2] w_8)
def d3R (x0 : Value) (w : World) (R : Value → World → Prop) (E : Pan) : Prop :=
 xcut (fun l_1 w_2 => c4L (nth l_1 0) w_2 R E) fun j1 =>
 opK Tryd.prog E (xV (Instr.range 9 x0)) w fun a3o w_4 =>
 xloop [2] [(Value.int .i64 0)] w_4 fun τ_11 m6 next2 =>
 d2v (τ_11 2) a3o m6 next2 j1 R E
noncomputable def f7Q : Code := Tryd.f150.body.getD .skip
def f7R : Hint := (.seq .none (.cut [2] (.seq .none (.block (.loop [2] (.seq .none (.seq (.cond .none .none) (.block .none)))))) (.seq .none .none)))
theorem e8y (x0 : Value) (w : World) (R : Value → World → Prop) (E : Pan) : d3R x0 w R E = callX Tryd.prog [.tmp 2] f7Q f7R [x0] w R E := by kernel_rfl
theorem e8z {x0 : Value} {w : World} {R : Value → World → Prop} {E : Pan} (h : d3R x0 w R E) : Cv Tryd.prog 150 #[x0] w R E := by
 refine g7 (args := [x0]) (c := f7Q) (h := f7R) (rs := [.tmp 2]) Tryd.func150 (by kernel_rfl) (by kernel_rfl) (Nat.le_of_ble_eq_true (by kernel_rfl)) (by kernel_rfl) (by kernel_rfl) (by kernel_rfl) ?_
 rw [← e8y]
 exact h
def d3S (x0 x1 x2 : Value) (w : World) (R : Value → World → Prop) (E : Pan) : Prop :=
 opK Tryd.prog E (xV (Instr.loadAt 21 x2)) w fun Z5 w_2 =>
 opK Tryd.prog E (xBin .leq 21 (.tmp 6) (.tmp 7) x0 Z5) w_2 fun a8N w_4 =>
 opK Tryd.prog E (gsem (asB a8N) true (xV (Instr.loadAt 21 x2))) w_4 fun a5f w_6 =>
 opK Tryd.prog E (gsem (asB a8N) true (xBin .leq 21 (.tmp 10) (.tmp 11) a5f (gval (asB a8N) true x1))) w_6 fun a2I w_8 =>
 opK Tryd.prog E (xPick a8N a2I (Value.bool false)) w_8 fun a6Z l0 =>
 R a6Z l0
noncomputable def f7S : Code := Tryd.f151.body.getD .skip
def f7T : Hint := (.seq .none (.seq .none .none))
theorem e8A (x0 x1 x2 : Value) (w : World) (R : Value → World → Prop) (E : Pan) : d3S x0 x1 x2 w R E = callX Tryd.prog [.tmp 5] f7S f7T [x0, x1, x2] w R E := by kernel_rfl
theorem e8B {x0 x1 x2 : Value} {w : World} {R : Value → World → Prop} {E : Pan} (h : d3S x0 x1 x2 w R E) : Cv Tryd.prog 151 #[x0, x1, x2] w R E := by
 refine g7 (args := [x0, x1, x2]) (c := f7S) (h := f7T) (rs := [.tmp 5]) Tryd.func151 (by kernel_rfl) (by kernel_rfl) (Nat.le_of_ble_eq_true (by kernel_rfl)) (by kernel_rfl) (by kernel_rfl) (by kernel_rfl) ?_
 rw [← e8A]
 exact h
def c4M (x3 x59 : Value) (w : World) (R : Value → World → Prop) (E : Pan) : Prop :=
 ∀ _τ : Fr, (xcond x59
 (opK Tryd.prog E (xBin .eql 3 (.tmp 65) (.const (Value.int .i64 2)) x3 (Value.int .i64 2)) w fun f7U W3 =>
 R f7U W3)
 (R (Value.bool false) w))
def c4N (x3 x38 x54 : Value) (w : World) (R : Value → World → Prop) (E : Pan) : Prop :=
 ∀ _τ : Fr, (xcond x54
 (opK Tryd.prog E (xBin .eql 3 (.tmp 57) (.const (Value.int .i64 1)) x3 (Value.int .i64 1)) w fun f7V Z3 =>
 R f7V Z3)
 (xcut (fun b0M X3 => c4M x3 (nth b0M 0) X3 R E) fun j3 =>
 opK Tryd.prog E (xBin .eql 3 (.tmp 38) (.const (Value.int .i64 6)) x38 (Value.int .i64 6)) w fun b2b Z1 =>
 xcond b2b
 (j3 [b2b] Z1)
 (opK Tryd.prog E (xBin .eql 3 (.tmp 38) (.const (Value.int .i64 7)) x38 (Value.int .i64 7)) Z1 fun d9L a0q =>
 xcond d9L
 (j3 [d9L] a0q)
 (opK Tryd.prog E (xBin .eql 3 (.tmp 38) (.const (Value.int .i64 8)) x38 (Value.int .i64 8)) a0q fun d9M a0A =>
 xcond d9M
 (j3 [d9M] a0A)
 (opK Tryd.prog E (xBin .eql 3 (.tmp 38) (.const (Value.int .i64 9)) x38 (Value.int .i64 9)) a0A fun d9N Z2 =>
 xcond d9N
 (j3 [d9N] Z2)
 (opK Tryd.prog E (xBin .eql 3 (.tmp 38) (.const (Value.int .i64 10)) x38 (Value.int .i64 10)) Z2 fun f7W a2g =>
 j3 [f7W] a2g))))))
def c4O (x3 x38 x49 : Value) (w : World) (R : Value → World → Prop) (E : Pan) : Prop :=
 ∀ _τ : Fr, (xcond x49
 (opK Tryd.prog E (xBin .eql 3 (.tmp 52) (.const (Value.int .i64 0)) x3 (Value.int .i64 0)) w fun b8h a0s =>
 R b8h a0s)
 (xcut (fun h3i a2H => c4N x3 x38 (nth h3i 0) a2H R E) fun j2 =>
 opK Tryd.prog E (xBin .eql 3 (.tmp 38) (.const (Value.int .i64 4)) x38 (Value.int .i64 4)) w fun d9O a1B =>
 xcond d9O
 (j2 [d9O] a1B)
 (opK Tryd.prog E (xBin .eql 3 (.tmp 38) (.const (Value.int .i64 5)) x38 (Value.int .i64 5)) a1B fun f7X a3l =>
 j2 [f7X] a3l)))
def d3T (x0 : Value) (w : World) (R : Value → World → Prop) (E : Pan) : Prop :=
 opK Tryd.prog E (xV (Instr.box 123 x0)) w fun o0 w_2 =>
 opK Tryd.prog E (xV (Instr.fieldAt 123 o0 0)) w_2 fun b6p w_4 =>
 opK Tryd.prog E (xV (Instr.fieldAt 24 b6p 3)) w_4 fun b6j w_6 =>
 opK Tryd.prog E (xV (Instr.loadAt 22 b6j)) w_6 fun a9K w_8 =>
 opK Tryd.prog E (xBuiltin .len #[22] 3 [false] [a9K]) w_8 fun b8b l0 =>
 opK Tryd.prog E (xV (Instr.loadAt 123 o0)) l0 fun b2e m6 =>
 opK Tryd.prog E (xV (Instr.makeInterface 123 b2e)) m6 fun b8j l8 =>
 opK Tryd.prog E (xCall (Value.func (.func 118) #[] #[]) [b8j]) l8 fun a6q o5 =>
 opK Tryd.prog E (xV (Instr.extract a6q 0)) o5 fun _t14_17 p5 =>
 opK Tryd.prog E (xV (Instr.extract a6q 1)) p5 fun a6r o7 =>
 opK Tryd.prog E (xV (Instr.fieldAt 123 o0 0)) o7 fun a8F r9 =>
 opK Tryd.prog E (xV (Instr.fieldAt 24 a8F 0)) r9 fun b8c q8 =>
 opK Tryd.prog E (xV (Instr.loadAt 3 b8c)) q8 fun a5N t7 =>
 opK Tryd.prog E (xBin .neq 3 (.tmp 18) (.const (Value.int .i64 1)) a5N (Value.int .i64 1)) t7 fun a8C w4 =>
 opK Tryd.prog E (gsem (asB a8C) true (xV (Instr.fieldAt 123 o0 0))) w4 fun c7X A8 =>
 opK Tryd.prog E (gsem (asB a8C) true (xV (Instr.fieldAt 24 c7X 1))) A8 fun c7Y w5 =>
 opK Tryd.prog E (gsem (asB a8C) true (xV (Instr.loadAt 2 c7Y))) w5 fun c7Z z2 =>
 opK Tryd.prog E (gsem (asB a8C) true (xBin .neq 2 (.tmp 23) (.const (Value.int .i64 0)) c7Z (Value.int .i64 0))) z2 fun c8a F1 =>
 opK Tryd.prog E (xPick a8C c8a (Value.bool false)) F1 fun a6s D3 =>
 opK Tryd.prog E (gsem (asB a6s) false (xV (Op.unary .not (gval (asB a6s) false a6r)))) D3 fun b2c F5 =>
 opK Tryd.prog E (gsem (asB (gval (asB a6s) false b2c)) true (xV (Instr.fieldAt 123 o0 0))) F5 fun f7Y D4 =>
 opK Tryd.prog E (gsem (asB (gval (asB a6s) false b2c)) true (xV (Instr.fieldAt 24 f7Y 2))) D4 fun f7Z D9 =>
 opK Tryd.prog E (gsem (asB (gval (asB a6s) false b2c)) true (xV (Instr.loadAt 9 f7Z))) D9 fun c8D M5 =>
 opK Tryd.prog E (gsem (asB (gval (asB a6s) false b2c)) true (xBin .neq 9 (.tmp 32) (.const (Value.string ⟨#[]⟩)) c8D (Value.string ⟨#[]⟩))) M5 fun c8E K5 =>
 opK Tryd.prog E (gsem (asB a6s) false (xPick (gval (asB a6s) false b2c) c8E (Value.bool false))) K5 fun c8F J6 =>
 opK Tryd.prog E (xPick a6s (Value.bool true) c8F) J6 fun f8a L3 =>
 xcond f8a
 (R (Value.bool false) L3)
 (opK Tryd.prog E (xV (Instr.fieldAt 123 o0 0)) L3 fun c8H I7 =>
 opK Tryd.prog E (xV (Instr.fieldAt 24 c8H 0)) I7 fun f8b M6 =>
 opK Tryd.prog E (xV (Instr.loadAt 3 f8b)) M6 fun c3c J5 =>
 opK Tryd.prog E (xBin .eql 3 (.tmp 38) (.const (Value.int .i64 1)) c3c (Value.int .i64 1)) J5 fun f8c M2 =>
 xcond f8c
 (opK Tryd.prog E (xV (Instr.fieldAt 123 o0 0)) M2 fun f8d L2 =>
 opK Tryd.prog E (xV (Instr.fieldAt 24 f8d 1)) L2 fun f8e M3 =>
 opK Tryd.prog E (xV (Instr.loadAt 2 f8e)) M3 fun f8f U0 =>
 opK Tryd.prog E (xBin .geq 2 (.tmp 43) (.const (Value.int .i64 0)) f8f (Value.int .i64 0)) U0 fun b8s U7 =>
 opK Tryd.prog E (gsem (asB b8s) true (xBin .eql 3 (.tmp 46) (.const (Value.int .i64 0)) (gval (asB b8s) true b8b) (Value.int .i64 0))) U7 fun f8g U1 =>
 opK Tryd.prog E (xPick b8s f8g (Value.bool false)) U1 fun f8h a0r =>
 R f8h a0r)
 (xcut (fun e1l a3m => c4O b8b c3c (nth e1l 0) a3m R E) fun j1 =>
 opK Tryd.prog E (xBin .eql 3 (.tmp 38) (.const (Value.int .i64 2)) c3c (Value.int .i64 2)) M2 fun d9P a1T =>
 xcond d9P
 (j1 [d9P] a1T)
 (opK Tryd.prog E (xBin .eql 3 (.tmp 38) (.const (Value.int .i64 3)) c3c (Value.int .i64 3)) a1T fun e8C a1U =>
 j1 [e8C] a1U)))
noncomputable def f8i : Code := Tryd.f169.body.getD .skip
def f8j : Hint := (.seq .none (.seq .none (.seq .none (.seq (.seq .none (.cond (.seq .none .none) .none)) (.seq (.seq .none (.block (.seq .none (.cond (.seq .none .none) (.cut [49] (.seq .none (.cond .none .none)) (.cond (.seq .none .none) (.cut [54] (.seq .none (.cond .none .none)) (.cond (.seq .none .none) (.cut [59] (.seq .none (.cond .none (.seq .none (.cond .none (.seq .none (.cond .none (.seq .none (.cond .none .none)))))))) (.cond (.seq .none .none) .none)))))))))) (.seq .none .none))))))
theorem e8D (x0 : Value) (w : World) (R : Value → World → Prop) (E : Pan) : d3T x0 w R E = callX Tryd.prog [.tmp 2] f8i f8j [x0] w R E := by kernel_rfl
theorem e8E {x0 : Value} {w : World} {R : Value → World → Prop} {E : Pan} (h : d3T x0 w R E) : Cv Tryd.prog 169 #[x0] w R E := by
 refine g7 (args := [x0]) (c := f8i) (h := f8j) (rs := [.tmp 2]) Tryd.func169 (by kernel_rfl) (by kernel_rfl) (Nat.le_of_ble_eq_true (by kernel_rfl)) (by kernel_rfl) (by kernel_rfl) (by kernel_rfl) ?_
 rw [← e8D]
 exact h
def d3U (x0 : Value) (w : World) (R : Value → World → Prop) (E : Pan) : Prop :=
 opK Tryd.prog E (xV (Instr.box 123 x0)) w fun o0 w_2 =>
 opK Tryd.prog E (xV (Instr.fieldAt 123 o0 0)) w_2 fun Z0 w_4 =>
 opK Tryd.prog E (xV (Instr.fieldAt 24 Z0 3)) w_4 fun a4z w_6 =>
 opK Tryd.prog E (xV (Instr.loadAt 22 a4z)) w_6 fun a7U w_8 =>
 opK Tryd.prog E (xCall (Value.func (.func 171) #[] #[]) [a7U, (Value.func (.func 172) #[] #[])]) w_8 fun a6t l0 =>
 R a6t l0
noncomputable def f8k : Code := Tryd.f170.body.getD .skip
def f8l : Hint := (.seq .none (.seq .none .none))
theorem e8F (x0 : Value) (w : World) (R : Value → World → Prop) (E : Pan) : d3U x0 w R E = callX Tryd.prog [.tmp 2] f8k f8l [x0] w R E := by kernel_rfl
theorem e8G {x0 : Value} {w : World} {R : Value → World → Prop} {E : Pan} (h : d3U x0 w R E) : Cv Tryd.prog 170 #[x0] w R E := by
 refine g7 (args := [x0]) (c := f8k) (h := f8l) (rs := [.tmp 2]) Tryd.func170 (by kernel_rfl) (by kernel_rfl) (Nat.le_of_ble_eq_true (by kernel_rfl)) (by kernel_rfl) (by kernel_rfl) (by kernel_rfl) ?_
 rw [← e8F]
 exact h
def c4P (x5 : Value) (w : World) (R : Value → World → Prop) (_E : Pan) : Prop :=
 ∀ _τ : Fr, (R x5 w)
def d2w (x1 x5 x8 x9 x10 : Value) (w : World) (next2 : List Value → World → Prop) (j1 : List Value → World → Prop) (_R : Value → World → Prop) (E : Pan) : Prop :=
 opK Tryd.prog E (xBin .lss 3 (.tmp 10) (.tmp 9) x10 x9) w fun a5g w_6 =>
 xcond a5g
 (opK Tryd.prog E (xV (Instr.indexAt 22 x8 x10)) w_6 fun a2I w_8 =>
 opK Tryd.prog E (xV (Instr.loadAt 24 a2I)) w_8 fun a6Z l0 =>
 opK Tryd.prog E (xV (Instr.alloc 24 true (.tuple #[]))) l0 fun a2k m6 =>
 opK Tryd.prog E (xU (Instr.storeAt 24 a2k a6Z)) m6 fun _z_13 l8 =>
 opK Tryd.prog E (xV (Instr.loadAt 24 a2k)) l8 fun a8H o5 =>
 opK Tryd.prog E (xCall x1 [a8H]) o5 fun a8I p5 =>
 opK Tryd.prog E (xV (Instr.buildSlice 124 1 #[(0, a8I)])) p5 fun a8J o7 =>
 opK Tryd.prog E (xBuiltin .append #[124, 124] 124 [false, false] [x5, a8J]) o7 fun a8K r9 =>
 opK Tryd.prog E (xBin .add 3 (.tmp 10) (.const (Value.int .i64 1)) x10 (Value.int .i64 1)) r9 fun a6w q8 =>
 next2 [a8K, a6w] q8)
 (j1 [x5] w_6)
def d3V (x0 x1 : Value) (w : World) (R : Value → World → Prop) (E : Pan) : Prop :=
 xcut (fun l_1 w_2 => c4P (nth l_1 0) w_2 R E) fun j1 =>
 opK Tryd.prog E (xBuiltin .len #[22] 3 [false] [x0]) w fun a6v w_4 =>
 xloop [5, 10] [(Value.slice none 0 0), (Value.int .i64 0)] w_4 fun τ_25 t7 next2 =>
 d2w x1 (τ_25 5) x0 a6v (τ_25 10) t7 next2 j1 R E
noncomputable def f8m : Code := Tryd.f171.body.getD .skip
def f8n : Hint := (.seq .none (.seq .none (.cut [5] (.seq .none (.block (.loop [5, 10] (.seq .none (.seq (.cond .none .none) (.seq (.block (.seq .none .none)) .none)))))) (.seq .none .none))))
theorem e8H (x0 x1 : Value) (w : World) (R : Value → World → Prop) (E : Pan) : d3V x0 x1 w R E = callX Tryd.prog [.tmp 4] f8m f8n [x0, x1] w R E := by kernel_rfl
theorem e8I {x0 x1 : Value} {w : World} {R : Value → World → Prop} {E : Pan} (h : d3V x0 x1 w R E) : Cv Tryd.prog 171 #[x0, x1] w R E := by
 refine g7 (args := [x0, x1]) (c := f8m) (h := f8n) (rs := [.tmp 4]) Tryd.func171 (by kernel_rfl) (by kernel_rfl) (Nat.le_of_ble_eq_true (by kernel_rfl)) (by kernel_rfl) (by kernel_rfl) (by kernel_rfl) ?_
 rw [← e8H]
 exact h
def d3W (x0 : Value) (w : World) (R : Value → World → Prop) (E : Pan) : Prop :=
 opK Tryd.prog E (xV (Instr.box 24 x0)) w fun o0 w_2 =>
 opK Tryd.prog E (xV (Instr.loadAt 24 o0)) w_2 fun Z0 w_4 =>
 opK Tryd.prog E (xV (Instr.build 123 #[(0, Z0)])) w_4 fun a4z w_6 =>
 opK Tryd.prog E (xV (Instr.makeInterface 123 a4z)) w_6 fun a7U w_8 =>
 R a7U w_8
noncomputable def f8o : Code := Tryd.f172.body.getD .skip
def f8p : Hint := (.seq .none (.seq .none .none))
theorem e8J (x0 : Value) (w : World) (R : Value → World → Prop) (E : Pan) : d3W x0 w R E = callX Tryd.prog [.tmp 2] f8o f8p [x0] w R E := by kernel_rfl
theorem e8K {x0 : Value} {w : World} {R : Value → World → Prop} {E : Pan} (h : d3W x0 w R E) : Cv Tryd.prog 172 #[x0] w R E := by
 refine g7 (args := [x0]) (c := f8o) (h := f8p) (rs := [.tmp 2]) Tryd.func172 (by kernel_rfl) (by kernel_rfl) (Nat.le_of_ble_eq_true (by kernel_rfl)) (by kernel_rfl) (by kernel_rfl) (by kernel_rfl) ?_
 rw [← e8J]
 exact h
def c4Q (x3 x50 : Value) (w : World) (R : Value → World → Prop) (E : Pan) : Prop :=
 ∀ _τ : Fr, (xcond x50
 (opK Tryd.prog E (xV (Instr.loadAt 223 x3)) w fun c8J Z2 =>
 opK Tryd.prog E (xV (Instr.build 223 #[(0, (Value.int .i64 0)), (1, (Value.int .i64 2))])) Z2 fun c8K a2g =>
 opK Tryd.prog E (xBin .eql 223 (.tmp 53) (.tmp 54) c8J c8K) a2g fun c8L a2H =>
 R c8L a2H)
 (R (Value.bool false) w))
def c4R (x3 x38 x39 : Value) (w : World) (R : Value → World → Prop) (E : Pan) : Prop :=
 ∀ _τ : Fr, (xcond x39
 (opK Tryd.prog E (xV (Instr.loadAt 223 x3)) w fun f8q a0s =>
 opK Tryd.prog E (xV (Instr.build 223 #[])) a0s fun f8r Z3 =>
 opK Tryd.prog E (xBin .eql 223 (.tmp 42) (.tmp 43) f8q f8r) Z3 fun f8s W3 =>
 R f8s W3)
 (opK Tryd.prog E (xBin .eql 3 (.tmp 38) (.const (Value.int .i64 4)) x38 (Value.int .i64 4)) w fun f8t X3 =>
 xcond f8t
 (opK Tryd.prog E (xV (Instr.loadAt 223 x3)) X3 fun f8u Z1 =>
 opK Tryd.prog E (xV (Instr.build 223 #[(0, (Value.int .i64 0)), (1, (Value.int .i64 1))])) Z1 fun f8v a0q =>
 opK Tryd.prog E (xBin .eql 223 (.tmp 47) (.tmp 48) f8u f8v) a0q fun f8w a0A =>
 R f8w a0A)
 (xcut (fun c8M a1B => c4Q x3 (nth c8M 0) a1B R E) fun j2 =>
 opK Tryd.prog E (xBin .eql 3 (.tmp 38) (.const (Value.int .i64 5)) x38 (Value.int .i64 5)) X3 fun d9Q a3l =>
 xcond d9Q
 (j2 [d9Q] a3l)
 (opK Tryd.prog E (xBin .eql 3 (.tmp 38) (.const (Value.int .i64 6)) x38 (Value.int .i64 6)) a3l fun f8x a3m =>
 j2 [f8x] a3m))))
def d3X (x0 : Value) (w : World) (R : Value → World → Prop) (E : Pan) : Prop :=
 opK Tryd.prog E (xV (Instr.box 138 x0)) w fun o0 w_2 =>
 opK Tryd.prog E (xV (Instr.fieldAt 138 o0 0)) w_2 fun a3o w_4 =>
 opK Tryd.prog E (xV (Instr.fieldAt 27 a3o 2)) w_4 fun a9N w_6 =>
 opK Tryd.prog E (xV (Instr.loadAt 22 a9N)) w_6 fun a6x w_8 =>
 opK Tryd.prog E (xBuiltin .len #[22] 3 [false] [a6x]) w_8 fun e1m l0 =>
 opK Tryd.prog E (xV (Instr.fieldAt 138 o0 0)) l0 fun b6l m6 =>
 opK Tryd.prog E (xV (Instr.fieldAt 27 b6l 3)) m6 fun b6q l8 =>
 opK Tryd.prog E (xV (Instr.loadAt 25 b6q)) l8 fun b8t o5 =>
 opK Tryd.prog E (xBuiltin .len #[25] 3 [false] [b8t]) o5 fun a6y p5 =>
 opK Tryd.prog E (xV (Instr.build 223 #[(0, e1m), (1, a6y)])) p5 fun c8N o7 =>
 opK Tryd.prog E (xV (Instr.alloc 223 true (.tuple #[]))) o7 fun d3Y r9 =>
 opK Tryd.prog E (xU (Instr.storeAt 223 d3Y c8N)) r9 fun _z_23 q8 =>
 opK Tryd.prog E (xV (Instr.fieldAt 138 o0 0)) q8 fun f8y t7 =>
 opK Tryd.prog E (xV (Instr.fieldAt 27 f8y 0)) t7 fun f8z w4 =>
 opK Tryd.prog E (xV (Instr.loadAt 3 f8z)) w4 fun f8A A8 =>
 opK Tryd.prog E (xBin .eql 3 (.tmp 15) (.const (Value.int .i64 3)) f8A (Value.int .i64 3)) A8 fun f8B w5 =>
 xcond f8B
 (opK Tryd.prog E (xV (Instr.fieldAt 138 o0 0)) w5 fun c8t z2 =>
 opK Tryd.prog E (xV (Instr.fieldAt 27 c8t 1)) z2 fun b8f F1 =>
 opK Tryd.prog E (xV (Instr.loadAt 3 b8f)) F1 fun f8C D3 =>
 opK Tryd.prog E (xBin .geq 3 (.tmp 19) (.const (Value.int .i64 1)) f8C (Value.int .i64 1)) D3 fun b8u F5 =>
 opK Tryd.prog E (gsem (asB b8u) true (xV (Instr.fieldAt 138 o0 0))) F5 fun f8D D4 =>
 opK Tryd.prog E (gsem (asB b8u) true (xV (Instr.fieldAt 27 f8D 1))) D4 fun f8E D9 =>
 opK Tryd.prog E (gsem (asB b8u) true (xV (Instr.loadAt 3 f8E))) D9 fun f8F M5 =>
 opK Tryd.prog E (gsem (asB b8u) true (xBin .leq 3 (.tmp 24) (.const (Value.int .i64 6)) f8F (Value.int .i64 6))) M5 fun f8G K5 =>
 opK Tryd.prog E (xPick b8u f8G (Value.bool false)) K5 fun c3d J6 =>
 opK Tryd.prog E (gsem (asB c3d) true (xV (Instr.loadAt 223 d3Y))) J6 fun b8v L3 =>
 opK Tryd.prog E (gsem (asB c3d) true (xV (Instr.build 223 #[(0, (Value.int .i64 2)), (1, (Value.int .i64 0))]))) L3 fun f8H I7 =>
 opK Tryd.prog E (gsem (asB c3d) true (xBin .eql 223 (.tmp 28) (.tmp 29) b8v f8H)) I7 fun f8I M6 =>
 opK Tryd.prog E (xPick c3d f8I (Value.bool false)) M6 fun f8J J5 =>
 R f8J J5)
 (opK Tryd.prog E (xV (Instr.fieldAt 138 o0 0)) w5 fun f8K M2 =>
 opK Tryd.prog E (xV (Instr.fieldAt 27 f8K 1)) M2 fun f8L L2 =>
 opK Tryd.prog E (xV (Instr.loadAt 3 f8L)) L2 fun f8M M3 =>
 opK Tryd.prog E (xBin .neq 3 (.tmp 34) (.const (Value.int .i64 0)) f8M (Value.int .i64 0)) M3 fun f8N U0 =>
 xcond f8N
 (R (Value.bool false) U0)
 (opK Tryd.prog E (xV (Instr.fieldAt 138 o0 0)) U0 fun f8O U7 =>
 opK Tryd.prog E (xV (Instr.fieldAt 27 f8O 0)) U7 fun f8P U1 =>
 opK Tryd.prog E (xV (Instr.loadAt 3 f8P)) U1 fun c8O a0r =>
 xcut (fun e1n a1T => c4R d3Y c8O (nth e1n 0) a1T R E) fun j1 =>
 opK Tryd.prog E (xBin .eql 3 (.tmp 38) (.const (Value.int .i64 1)) c8O (Value.int .i64 1)) a0r fun d2x a1U =>
 xcond d2x
 (j1 [d2x] a1U)
 (opK Tryd.prog E (xBin .eql 3 (.tmp 38) (.const (Value.int .i64 2)) c8O (Value.int .i64 2)) a1U fun e8L a4e =>
 j1 [e8L] a4e)))
noncomputable def f8Q : Code := Tryd.f173.body.getD .skip
def f8R : Hint := (.seq .none (.seq .none (.seq (.seq .none (.cond (.seq .none .none) .none)) (.seq (.seq .none (.cond (.seq .none .none) .none)) (.seq (.seq .none (.block (.cut [39] (.seq .none (.cond .none .none)) (.cond (.seq .none .none) (.seq .none (.cond (.seq .none .none) (.cut [50] (.seq .none (.cond .none .none)) (.cond (.seq .none .none) .none)))))))) (.seq .none .none))))))
theorem e8M (x0 : Value) (w : World) (R : Value → World → Prop) (E : Pan) : d3X x0 w R E = callX Tryd.prog [.tmp 2] f8Q f8R [x0] w R E := by kernel_rfl
theorem e8N {x0 : Value} {w : World} {R : Value → World → Prop} {E : Pan} (h : d3X x0 w R E) : Cv Tryd.prog 173 #[x0] w R E := by
 refine g7 (args := [x0]) (c := f8Q) (h := f8R) (rs := [.tmp 2]) Tryd.func173 (by kernel_rfl) (by kernel_rfl) (Nat.le_of_ble_eq_true (by kernel_rfl)) (by kernel_rfl) (by kernel_rfl) (by kernel_rfl) ?_
 rw [← e8M]
 exact h
def d3Z (x0 : Value) (w : World) (R : Value → World → Prop) (E : Pan) : Prop :=
 opK Tryd.prog E (xV (Instr.box 138 x0)) w fun o0 w_2 =>
 dX w_2 fun w_3 =>
 qP Tryd.prog (xV (Instr.fieldAt 138 o0 0)) fun e1o =>
 qP Tryd.prog (xV (Instr.fieldAt 27 e1o 2)) fun a4z =>
 qP Tryd.prog (xV (Instr.fieldAt 138 o0 0)) fun e1p =>
 qP Tryd.prog (xV (Instr.fieldAt 27 e1p 3)) fun a9K =>
 qL Tryd.prog w_3 (blk a4z) (xV (Instr.loadAt 22 a4z)) fun c8P =>
 qL Tryd.prog w_3 (blk a9K) (xV (Instr.loadAt 25 a9K)) fun b8b =>
 opK Tryd.prog E (xCall (Value.func (.func 171) #[] #[]) [c8P, (Value.func (.func 172) #[] #[])]) w_3 fun g8X K6 =>
 keepX [(blk a9K)] w_3 K6 (opK Tryd.prog E (xCall (Value.func (.func 175) #[] #[]) [b8b, (Value.func (.func 176) #[] #[])]) K6 fun f8S a2w =>
 keepX [] K6 a2w (opK Tryd.prog E (xV (Instr.buildSlice 174 2 #[(0, g8X), (1, f8S)])) a2w fun f8T b8w =>
 keepX [] a2w b8w (opK Tryd.prog E (xCall (Value.func (.func 87) #[] #[]) [f8T]) b8w fun f8U a1C =>
 keepX [] b8w a1C (R f8U a1C))))
noncomputable def f8V : Code := Tryd.f174.body.getD .skip
def f8W : Hint := (.seq .none (.seq (.reg [(0, 8, 2), (1, 16, 8), (2, 32, 16), (4, 64, 32), (0, 128, 2), (16, 256, 128), (32, 512, 256), (72, 1024, 512), (136, 2048, 1088), (384, 4096, 2048), (1023, 4, 4096)] [68, 68, 64, 64, 68, 68, 4, 0, 0, 0, 68] (.early 0 (.early 1 (.early 4 (.early 5 (.load 2 (.load 6 (.step 3 (.step 7 (.step 8 (.step 9 (.early 10 .done)))))))))))) .none))
theorem e8O (x0 : Value) (w : World) (R : Value → World → Prop) (E : Pan) : d3Z x0 w R E = callX Tryd.prog [.tmp 2] f8V f8W [x0] w R E := by kernel_rfl
theorem e8P {x0 : Value} {w : World} {R : Value → World → Prop} {E : Pan} (h : d3Z x0 w R E) : Cv Tryd.prog 174 #[x0] w R E := by
 refine g7 (args := [x0]) (c := f8V) (h := f8W) (rs := [.tmp 2]) Tryd.func174 (by kernel_rfl) (by kernel_rfl) (Nat.le_of_ble_eq_true (by kernel_rfl)) (by kernel_rfl) (by kernel_rfl) (by kernel_rfl) ?_
 rw [← e8O]
 exact h
def c4S (x5 : Value) (w : World) (R : Value → World → Prop) (_E : Pan) : Prop :=
 ∀ _τ : Fr, (R x5 w)
def d2y (x1 x5 x8 x9 x10 : Value) (w : World) (next2 : List Value → World → Prop) (j1 : List Value → World → Prop) (_R : Value → World → Prop) (E : Pan) : Prop :=
 opK Tryd.prog E (xBin .lss 3 (.tmp 10) (.tmp 9) x10 x9) w fun a5g w_6 =>
 xcond a5g
 (opK Tryd.prog E (xV (Instr.indexAt 25 x8 x10)) w_6 fun a2I w_8 =>
 opK Tryd.prog E (xV (Instr.loadAt 27 a2I)) w_8 fun a6Z l0 =>
 opK Tryd.prog E (xV (Instr.alloc 27 true (.tuple #[]))) l0 fun a2k m6 =>
 opK Tryd.prog E (xU (Instr.storeAt 27 a2k a6Z)) m6 fun _z_13 l8 =>
 opK Tryd.prog E (xV (Instr.loadAt 27 a2k)) l8 fun a8H o5 =>
 opK Tryd.prog E (xCall x1 [a8H]) o5 fun a8I p5 =>
 opK Tryd.prog E (xV (Instr.buildSlice 124 1 #[(0, a8I)])) p5 fun a8J o7 =>
 opK Tryd.prog E (xBuiltin .append #[124, 124] 124 [false, false] [x5, a8J]) o7 fun a8K r9 =>
 opK Tryd.prog E (xBin .add 3 (.tmp 10) (.const (Value.int .i64 1)) x10 (Value.int .i64 1)) r9 fun a6w q8 =>
 next2 [a8K, a6w] q8)
 (j1 [x5] w_6)
def d4a (x0 x1 : Value) (w : World) (R : Value → World → Prop) (E : Pan) : Prop :=
 xcut (fun l_1 w_2 => c4S (nth l_1 0) w_2 R E) fun j1 =>
 opK Tryd.prog E (xBuiltin .len #[25] 3 [false] [x0]) w fun a6v w_4 =>
 xloop [5, 10] [(Value.slice none 0 0), (Value.int .i64 0)] w_4 fun τ_25 t7 next2 =>
 d2y x1 (τ_25 5) x0 a6v (τ_25 10) t7 next2 j1 R E
noncomputable def f8X : Code := Tryd.f175.body.getD .skip
def f8Y : Hint := (.seq .none (.seq .none (.cut [5] (.seq .none (.block (.loop [5, 10] (.seq .none (.seq (.cond .none .none) (.seq (.block (.seq .none .none)) .none)))))) (.seq .none .none))))
theorem e8Q (x0 x1 : Value) (w : World) (R : Value → World → Prop) (E : Pan) : d4a x0 x1 w R E = callX Tryd.prog [.tmp 4] f8X f8Y [x0, x1] w R E := by kernel_rfl
theorem e8R {x0 x1 : Value} {w : World} {R : Value → World → Prop} {E : Pan} (h : d4a x0 x1 w R E) : Cv Tryd.prog 175 #[x0, x1] w R E := by
 refine g7 (args := [x0, x1]) (c := f8X) (h := f8Y) (rs := [.tmp 4]) Tryd.func175 (by kernel_rfl) (by kernel_rfl) (Nat.le_of_ble_eq_true (by kernel_rfl)) (by kernel_rfl) (by kernel_rfl) (by kernel_rfl) ?_
 rw [← e8Q]
 exact h
def d4b (x0 : Value) (w : World) (R : Value → World → Prop) (E : Pan) : Prop :=
 opK Tryd.prog E (xV (Instr.box 27 x0)) w fun o0 w_2 =>
 opK Tryd.prog E (xV (Instr.loadAt 27 o0)) w_2 fun Z0 w_4 =>
 opK Tryd.prog E (xV (Instr.build 138 #[(0, Z0)])) w_4 fun a4z w_6 =>
 opK Tryd.prog E (xV (Instr.makeInterface 138 a4z)) w_6 fun a7U w_8 =>
 R a7U w_8
noncomputable def f8Z : Code := Tryd.f176.body.getD .skip
def f9a : Hint := (.seq .none (.seq .none .none))
theorem e8S (x0 : Value) (w : World) (R : Value → World → Prop) (E : Pan) : d4b x0 w R E = callX Tryd.prog [.tmp 2] f8Z f9a [x0] w R E := by kernel_rfl
theorem e8T {x0 : Value} {w : World} {R : Value → World → Prop} {E : Pan} (h : d4b x0 w R E) : Cv Tryd.prog 176 #[x0] w R E := by
 refine g7 (args := [x0]) (c := f8Z) (h := f9a) (rs := [.tmp 2]) Tryd.func176 (by kernel_rfl) (by kernel_rfl) (Nat.le_of_ble_eq_true (by kernel_rfl)) (by kernel_rfl) (by kernel_rfl) (by kernel_rfl) ?_
 rw [← e8S]
 exact h
def d4c (x0 : Value) (w : World) (R : Value → World → Prop) (E : Pan) : Prop :=
 opK Tryd.prog E (xV (Instr.box 177 x0)) w fun o0 w_2 =>
 opK Tryd.prog E (xV (Instr.fieldAt 177 o0 0)) w_2 fun Z0 w_4 =>
 opK Tryd.prog E (xV (Instr.fieldAt 58 Z0 1)) w_4 fun a4z w_6 =>
 opK Tryd.prog E (xV (Instr.loadAt 3 a4z)) w_6 fun a7U w_8 =>
 opK Tryd.prog E (xBin .geq 3 (.tmp 5) (.const (Value.int .i64 0)) a7U (Value.int .i64 0)) w_8 fun a6t l0 =>
 opK Tryd.prog E (gsem (asB a6t) true (xV (Instr.fieldAt 177 o0 0))) l0 fun b6l m6 =>
 opK Tryd.prog E (gsem (asB a6t) true (xV (Instr.fieldAt 58 b6l 1))) m6 fun b6q l8 =>
 opK Tryd.prog E (gsem (asB a6t) true (xV (Instr.loadAt 3 b6q))) l8 fun b8t o5 =>
 opK Tryd.prog E (gsem (asB a6t) true (xBin .leq 3 (.tmp 10) (.const (Value.int .i64 2147483647)) b8t (Value.int .i64 2147483647))) o5 fun a6y p5 =>
 opK Tryd.prog E (xPick a6t a6y (Value.bool false)) p5 fun c8N o7 =>
 R c8N o7
noncomputable def f9b : Code := Tryd.f177.body.getD .skip
def f9c : Hint := (.seq .none (.seq .none .none))
theorem e8U (x0 : Value) (w : World) (R : Value → World → Prop) (E : Pan) : d4c x0 w R E = callX Tryd.prog [.tmp 2] f9b f9c [x0] w R E := by kernel_rfl
theorem e8V {x0 : Value} {w : World} {R : Value → World → Prop} {E : Pan} (h : d4c x0 w R E) : Cv Tryd.prog 177 #[x0] w R E := by
 refine g7 (args := [x0]) (c := f9b) (h := f9c) (rs := [.tmp 2]) Tryd.func177 (by kernel_rfl) (by kernel_rfl) (Nat.le_of_ble_eq_true (by kernel_rfl)) (by kernel_rfl) (by kernel_rfl) (by kernel_rfl) ?_
 rw [← e8U]
 exact h
def d4d (x0 : Value) (w : World) (R : Value → World → Prop) (E : Pan) : Prop :=
 opK Tryd.prog E (xV (Instr.box 177 x0)) w fun _t1_1 w_2 =>
 R (Value.slice none 0 0) w_2
noncomputable def f9d : Code := Tryd.f178.body.getD .skip
def f9e : Hint := (.seq .none (.seq .none .none))
theorem e8W (x0 : Value) (w : World) (R : Value → World → Prop) (E : Pan) : d4d x0 w R E = callX Tryd.prog [.tmp 2] f9d f9e [x0] w R E := by kernel_rfl
theorem e8X {x0 : Value} {w : World} {R : Value → World → Prop} {E : Pan} (h : d4d x0 w R E) : Cv Tryd.prog 178 #[x0] w R E := by
 refine g7 (args := [x0]) (c := f9d) (h := f9e) (rs := [.tmp 2]) Tryd.func178 (by kernel_rfl) (by kernel_rfl) (Nat.le_of_ble_eq_true (by kernel_rfl)) (by kernel_rfl) (by kernel_rfl) (by kernel_rfl) ?_
 rw [← e8W]
 exact h
def c4T (x4 x5 x35 x83 : Value) (w : World) (R : Value → World → Prop) (E : Pan) : Prop :=
 ∀ _τ : Fr, (xcond x83
 (opK Tryd.prog E (gsem (asB x5) true (xV (Instr.loadAt 227 x4))) w fun e8Y a3D =>
 opK Tryd.prog E (gsem (asB x5) true (xV (Instr.build 227 #[(0, (Value.int .i64 0)), (1, (Value.int .i64 1))]))) a3D fun e8Z a7e =>
 opK Tryd.prog E (gsem (asB x5) true (xBin .eql 227 (.tmp 88) (.tmp 89) e8Y e8Z)) a7e fun e9a a8O =>
 opK Tryd.prog E (xPick x5 e9a (Value.bool false)) a8O fun e9b a7f =>
 R e9b a7f)
 (opK Tryd.prog E (xBin .eql 3 (.tmp 35) (.const (Value.int .i64 7)) x35 (Value.int .i64 7)) w fun e9c a3E =>
 xcond e9c
 (opK Tryd.prog E (gsem (asB x5) true (xV (Instr.loadAt 227 x4))) a3E fun e9d a5Y =>
 opK Tryd.prog E (gsem (asB x5) true (xV (Instr.build 227 #[]))) a5Y fun e9e b6r =>
 opK Tryd.prog E (gsem (asB x5) true (xBin .eql 227 (.tmp 96) (.tmp 97) e9d e9e)) b6r fun e9f c3e =>
 opK Tryd.prog E (xPick x5 e9f (Value.bool false)) c3e fun e9g b9y =>
 R e9g b9y)
 (R (Value.bool false) a3E)))
def d4e (x0 : Value) (w : World) (R : Value → World → Prop) (E : Pan) : Prop :=
 opK Tryd.prog E (xV (Instr.box 179 x0)) w fun o0 w_2 =>
 opK Tryd.prog E (xV (Instr.fieldAt 179 o0 0)) w_2 fun b6p w_4 =>
 opK Tryd.prog E (xV (Instr.fieldAt 63 b6p 4)) w_4 fun b6j w_6 =>
 opK Tryd.prog E (xV (Instr.loadAt 42 b6j)) w_6 fun a9K w_8 =>
 opK Tryd.prog E (xBuiltin .len #[42] 3 [false] [a9K]) w_8 fun b8b l0 =>
 opK Tryd.prog E (xV (Instr.fieldAt 179 o0 0)) l0 fun c7W m6 =>
 opK Tryd.prog E (xV (Instr.fieldAt 63 c7W 5)) m6 fun a7I l8 =>
 opK Tryd.prog E (xV (Instr.loadAt 42 a7I)) l8 fun b7Y o5 =>
 opK Tryd.prog E (xBuiltin .len #[42] 3 [false] [b7Y]) o5 fun a6p p5 =>
 opK Tryd.prog E (xBin .add 3 (.tmp 9) (.tmp 13) b8b a6p) p5 fun c7L o7 =>
 opK Tryd.prog E (xBin .gtr 3 (.tmp 14) (.const (Value.int .i64 0)) c7L (Value.int .i64 0)) o7 fun b7Z r9 =>
 opK Tryd.prog E (xV (Instr.fieldAt 179 o0 0)) r9 fun c7M q8 =>
 opK Tryd.prog E (xV (Instr.fieldAt 63 c7M 2)) q8 fun a7G t7 =>
 opK Tryd.prog E (xV (Instr.loadAt 22 a7G)) t7 fun c8Q w4 =>
 opK Tryd.prog E (xBuiltin .len #[22] 3 [false] [c8Q]) w4 fun c8R A8 =>
 opK Tryd.prog E (xV (Instr.fieldAt 179 o0 0)) A8 fun c8S w5 =>
 opK Tryd.prog E (xV (Instr.fieldAt 63 c8S 3)) w5 fun b5w z2 =>
 opK Tryd.prog E (xV (Instr.loadAt 25 b5w)) z2 fun b8x F1 =>
 opK Tryd.prog E (xBuiltin .len #[25] 3 [false] [b8x]) F1 fun b8y D3 =>
 opK Tryd.prog E (xV (Instr.build 227 #[(0, c8R), (1, b8y)])) D3 fun c8T F5 =>
 opK Tryd.prog E (xV (Instr.alloc 227 true (.tuple #[]))) F5 fun b9z D4 =>
 opK Tryd.prog E (xU (Instr.storeAt 227 b9z c8T)) D4 fun _z_43 D9 =>
 opK Tryd.prog E (xV (Instr.fieldAt 179 o0 0)) D9 fun f9f M5 =>
 opK Tryd.prog E (xV (Instr.fieldAt 63 f9f 1)) M5 fun f9g K5 =>
 opK Tryd.prog E (xV (Instr.loadAt 9 f9g)) K5 fun f9h J6 =>
 opK Tryd.prog E (xBin .eql 9 (.tmp 27) (.const (Value.string ⟨#[]⟩)) f9h (Value.string ⟨#[]⟩)) J6 fun b8v L3 =>
 opK Tryd.prog E (gsem (asB b8v) true (xV (Op.unary .not (gval (asB b8v) true b7Z)))) L3 fun f9i I7 =>
 opK Tryd.prog E (xPick b8v f9i (Value.bool false)) I7 fun f9j M6 =>
 opK Tryd.prog E (xV (Instr.fieldAt 179 o0 0)) M6 fun f9k J5 =>
 opK Tryd.prog E (xV (Instr.fieldAt 63 f9k 0)) J5 fun f9l M2 =>
 opK Tryd.prog E (xV (Instr.loadAt 3 f9l)) M2 fun b2i L2 =>
 opK Tryd.prog E (xBin .eql 3 (.tmp 35) (.const (Value.int .i64 1)) b2i (Value.int .i64 1)) L2 fun f9m M3 =>
 xcond f9m
 (opK Tryd.prog E (xV (Op.unary .not b7Z)) M3 fun c3f U0 =>
 opK Tryd.prog E (gsem (asB c3f) true (xV (Instr.loadAt 227 b9z))) U0 fun f9n U7 =>
 opK Tryd.prog E (gsem (asB c3f) true (xV (Instr.build 227 #[(0, (Value.int .i64 1)), (1, (Value.int .i64 0))]))) U7 fun f9o U1 =>
 opK Tryd.prog E (gsem (asB c3f) true (xBin .eql 227 (.tmp 41) (.tmp 42) f9n f9o)) U1 fun f9p a0r =>
 opK Tryd.prog E (xPick c3f f9p (Value.bool false)) a0r fun f9q a0s =>
 R f9q a0s)
 (opK Tryd.prog E (xBin .eql 3 (.tmp 35) (.const (Value.int .i64 2)) b2i (Value.int .i64 2)) M3 fun c8U Z3 =>
 xcond c8U
 (opK Tryd.prog E (xV (Op.unary .not b7Z)) Z3 fun b5x W3 =>
 opK Tryd.prog E (gsem (asB b5x) true (xV (Instr.loadAt 227 b9z))) W3 fun f9r X3 =>
 opK Tryd.prog E (gsem (asB b5x) true (xV (Instr.build 227 #[(0, (Value.int .i64 2)), (1, (Value.int .i64 0))]))) X3 fun f9s Z1 =>
 opK Tryd.prog E (gsem (asB b5x) true (xBin .eql 227 (.tmp 50) (.tmp 51) f9r f9s)) Z1 fun c8V a0q =>
 opK Tryd.prog E (xPick b5x c8V (Value.bool false)) a0q fun c8W a0A =>
 R c8W a0A)
 (opK Tryd.prog E (xBin .eql 3 (.tmp 35) (.const (Value.int .i64 3)) b2i (Value.int .i64 3)) Z3 fun f9t Z2 =>
 xcond f9t
 (opK Tryd.prog E (xV (Instr.fieldAt 179 o0 0)) Z2 fun f9u a2g =>
 opK Tryd.prog E (xV (Instr.fieldAt 63 f9u 1)) a2g fun f9v a2H =>
 opK Tryd.prog E (xV (Instr.loadAt 9 f9v)) a2H fun f9w a1B =>
 opK Tryd.prog E (xBin .eql 9 (.tmp 58) (.const (Value.string ⟨#[]⟩)) f9w (Value.string ⟨#[]⟩)) a1B fun c3g a3l =>
 opK Tryd.prog E (gsem (asB c3g) true (xV (Instr.loadAt 227 b9z))) a3l fun f9x a3m =>
 opK Tryd.prog E (gsem (asB c3g) true (xV (Instr.build 227 #[(0, (Value.int .i64 0)), (1, (Value.int .i64 1))]))) a3m fun f9y a1T =>
 opK Tryd.prog E (gsem (asB c3g) true (xBin .eql 227 (.tmp 61) (.tmp 62) f9x f9y)) a1T fun e9h a1U =>
 opK Tryd.prog E (xPick c3g e9h (Value.bool false)) a1U fun e9i a4e =>
 R e9i a4e)
 (opK Tryd.prog E (xBin .eql 3 (.tmp 35) (.const (Value.int .i64 4)) b2i (Value.int .i64 4)) Z2 fun e9j a5h =>
 xcond e9j
 (opK Tryd.prog E (xV (Instr.fieldAt 179 o0 0)) a5h fun e9k a6Y =>
 opK Tryd.prog E (xV (Instr.fieldAt 63 e9k 1)) a6Y fun e9l a5e =>
 opK Tryd.prog E (xV (Instr.loadAt 9 e9l)) a5e fun e9m a7Q =>
 opK Tryd.prog E (xBin .eql 9 (.tmp 69) (.const (Value.string ⟨#[]⟩)) e9m (Value.string ⟨#[]⟩)) a7Q fun b1J a7b =>
 opK Tryd.prog E (gsem (asB b1J) true (xV (Instr.fieldAt 179 o0 0))) a7b fun e9n a7c =>
 opK Tryd.prog E (gsem (asB b1J) true (xV (Instr.fieldAt 63 e9n 5))) a7c fun e9o a7d =>
 opK Tryd.prog E (gsem (asB b1J) true (xV (Instr.loadAt 42 e9o))) a7d fun e9p a5X =>
 opK Tryd.prog E (gsem (asB b1J) true (xBuiltin .len #[42] 3 [false] [e9p])) a5X fun e9q a4f =>
 opK Tryd.prog E (gsem (asB b1J) true (xBin .eql 3 (.tmp 75) (.const (Value.int .i64 0)) e9q (Value.int .i64 0))) a4f fun e9r a4F =>
 opK Tryd.prog E (xPick b1J e9r (Value.bool false)) a4F fun b9A a4G =>
 opK Tryd.prog E (gsem (asB b9A) true (xV (Instr.loadAt 227 b9z))) a4G fun e9s a5i =>
 opK Tryd.prog E (gsem (asB b9A) true (xV (Instr.build 227 #[(0, (Value.int .i64 0)), (1, (Value.int .i64 1))]))) a5i fun e9t a3F =>
 opK Tryd.prog E (gsem (asB b9A) true (xBin .eql 227 (.tmp 79) (.tmp 80) e9s e9t)) a3F fun e9u a4g =>
 opK Tryd.prog E (xPick b9A e9u (Value.bool false)) a4g fun e9v a4h =>
 R e9v a4h)
 (xcut (fun g8Y c3h => c4T b9z f9j b2i (nth g8Y 0) c3h R E) fun j1 =>
 opK Tryd.prog E (xBin .eql 3 (.tmp 35) (.const (Value.int .i64 5)) b2i (Value.int .i64 5)) a5h fun d2z c6L =>
 xcond d2z
 (j1 [d2z] c6L)
 (opK Tryd.prog E (xBin .eql 3 (.tmp 35) (.const (Value.int .i64 6)) b2i (Value.int .i64 6)) c6L fun e9w c3i =>
 j1 [e9w] c3i)))))
noncomputable def f9z : Code := Tryd.f179.body.getD .skip
def f9A : Hint := (.seq .none (.seq .none (.seq .none (.seq .none (.seq (.seq .none (.block (.seq .none (.cond (.seq .none .none) (.seq .none (.cond (.seq .none .none) (.seq .none (.cond (.seq .none .none) (.seq .none (.cond (.seq .none .none) (.cut [83] (.seq .none (.cond .none .none)) (.cond (.seq .none .none) (.seq .none (.cond (.seq .none .none) .none)))))))))))))) (.seq .none .none))))))
theorem e9x (x0 : Value) (w : World) (R : Value → World → Prop) (E : Pan) : d4e x0 w R E = callX Tryd.prog [.tmp 2] f9z f9A [x0] w R E := by kernel_rfl
theorem e9y {x0 : Value} {w : World} {R : Value → World → Prop} {E : Pan} (h : d4e x0 w R E) : Cv Tryd.prog 179 #[x0] w R E := by
 refine g7 (args := [x0]) (c := f9z) (h := f9A) (rs := [.tmp 2]) Tryd.func179 (by kernel_rfl) (by kernel_rfl) (Nat.le_of_ble_eq_true (by kernel_rfl)) (by kernel_rfl) (by kernel_rfl) (by kernel_rfl) ?_
 rw [← e9x]
 exact h
def d4f (x0 : Value) (w : World) (R : Value → World → Prop) (E : Pan) : Prop :=
 opK Tryd.prog E (xV (Instr.box 179 x0)) w fun o0 w_2 =>
 dX w_2 fun w_3 =>
 qP Tryd.prog (xV (Instr.fieldAt 179 o0 0)) fun e1o =>
 qP Tryd.prog (xV (Instr.fieldAt 63 e1o 3)) fun a4z =>
 qP Tryd.prog (xV (Instr.fieldAt 179 o0 0)) fun e1p =>
 qP Tryd.prog (xV (Instr.fieldAt 63 e1p 2)) fun a9K =>
 qP Tryd.prog (xV (Instr.fieldAt 179 o0 0)) fun g8Z =>
 qP Tryd.prog (xV (Instr.fieldAt 63 g8Z 4)) fun b9B =>
 qP Tryd.prog (xV (Instr.fieldAt 179 o0 0)) fun f9B =>
 qP Tryd.prog (xV (Instr.fieldAt 63 f9B 5)) fun a0B =>
 qL Tryd.prog w_3 (blk a4z) (xV (Instr.loadAt 25 a4z)) fun g9a =>
 qL Tryd.prog w_3 (blk a9K) (xV (Instr.loadAt 22 a9K)) fun b6q =>
 qL Tryd.prog w_3 (blk b9B) (xV (Instr.loadAt 42 b9B)) fun f9C =>
 qL Tryd.prog w_3 (blk a0B) (xV (Instr.loadAt 42 a0B)) fun c8w =>
 opK Tryd.prog E (xCall (Value.func (.func 175) #[] #[]) [g9a, (Value.func (.func 176) #[] #[])]) w_3 fun g9b a1C =>
 keepX [(blk a0B), (blk b9B), (blk a9K)] w_3 a1C (opK Tryd.prog E (xCall (Value.func (.func 171) #[] #[]) [b6q, (Value.func (.func 172) #[] #[])]) a1C fun f9D Z4 =>
 keepX [(blk a0B), (blk b9B)] a1C Z4 (opK Tryd.prog E (xCall (Value.func (.func 90) #[] #[]) [f9C, (Value.func (.func 91) #[] #[])]) Z4 fun f9E a2J =>
 keepX [(blk a0B)] Z4 a2J (opK Tryd.prog E (xCall (Value.func (.func 90) #[] #[]) [c8w, (Value.func (.func 91) #[] #[])]) a2J fun f9F b4H =>
 keepX [] a2J b4H (opK Tryd.prog E (xV (Instr.buildSlice 174 4 #[(0, g9b), (1, f9D), (2, f9E), (3, f9F)])) b4H fun f9G b6m =>
 keepX [] b4H b6m (opK Tryd.prog E (xCall (Value.func (.func 87) #[] #[]) [f9G]) b6m fun f9H a7V =>
 keepX [] b6m a7V (R f9H a7V))))))
noncomputable def f9I : Code := Tryd.f180.body.getD .skip
def f9J : Hint := (.seq .none (.seq (.reg [(0, 8, 2), (1, 16, 8), (2, 32, 16), (4, 64, 32), (0, 128, 2), (16, 256, 128), (32, 512, 256), (72, 1024, 512), (0, 2048, 2), (256, 4096, 2048), (512, 8192, 4096), (1152, 16384, 8192), (0, 32768, 2), (4096, 65536, 32768), (8192, 131072, 65536), (18432, 262144, 131072), (34952, 524288, 279616), (98304, 1048576, 524288), (262143, 4, 1048576)] [17476, 17476, 17472, 17472, 17476, 17476, 17412, 17408, 17476, 17476, 16452, 16384, 17476, 17476, 1092, 0, 0, 0, 17476] (.early 0 (.early 1 (.early 4 (.early 5 (.early 8 (.early 9 (.early 12 (.early 13 (.load 2 (.load 6 (.load 10 (.load 14 (.step 3 (.step 7 (.step 11 (.step 15 (.step 16 (.step 17 (.early 18 .done)))))))))))))))))))) .none))
theorem e9z (x0 : Value) (w : World) (R : Value → World → Prop) (E : Pan) : d4f x0 w R E = callX Tryd.prog [.tmp 2] f9I f9J [x0] w R E := by kernel_rfl
theorem e9A {x0 : Value} {w : World} {R : Value → World → Prop} {E : Pan} (h : d4f x0 w R E) : Cv Tryd.prog 180 #[x0] w R E := by
 refine g7 (args := [x0]) (c := f9I) (h := f9J) (rs := [.tmp 2]) Tryd.func180 (by kernel_rfl) (by kernel_rfl) (Nat.le_of_ble_eq_true (by kernel_rfl)) (by kernel_rfl) (by kernel_rfl) (by kernel_rfl) ?_
 rw [← e9z]
 exact h
end Go.Proofs.YtnhkdkcgdcgmdaaDoor
