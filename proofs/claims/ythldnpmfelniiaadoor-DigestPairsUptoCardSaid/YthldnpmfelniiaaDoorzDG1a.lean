/- The second reading of some of the program's functions, printed by gen2.py off the code; each is held against the code by the kernel. -/
import Derived.Test.YthldnpmfelniiaaDoorProg
import Derived.Test.YthldnpmfelniiaaDoorzDK0
import Derived.KernelRfl
namespace Go.Proofs.YthldnpmfelniiaaDoor
open Go.RowKit
set_option maxRecDepth 100000
noncomputable def c3 : Code := Tryd.f3.body.getD .skip
def h3 : Hint := (.seq .none (.seq (.reg [(0, 32, 0), (1, 64, 32), (2, 128, 68), (2, 256, 72), (14, 512, 448), (2, 1024, 68), (2, 2048, 72), (114, 4096, 3136), (146, 8192, 4672), (258, 16384, 8256), (640, 32768, 16384), (1024, 65536, 32776), (1024, 131072, 32772), (7168, 262144, 229376), (1024, 524288, 32772), (1024, 1048576, 32776), (58368, 2097152, 1605632), (74752, 4194304, 2392064), (132096, 8388608, 4227072), (524287, 16, 8388608)] [0, 55404, 55400, 55396, 96, 55372, 55340, 0, 55404, 55404, 55404, 53356, 51308, 49152, 39020, 22636, 0, 55404, 55404, 55404] (.step 0 (.early 1 (.load 2 (.load 3 (.load 5 (.load 6 (.step 4 (.step 7 (.early 8 (.early 9 (.early 10 (.load 11 (.load 12 (.load 14 (.load 15 (.step 13 (.step 16 (.early 17 (.early 18 (.early 19 .done))))))))))))))))))))) .none))
def F15 (x0 x1 : Value) (w : World) (R : Value → World → Prop) (E : Pan) : Prop :=
 opK Tryd.prog E (xV (Instr.box 25 x0)) w fun J5 w_2 =>
 opK Tryd.prog E (xV (Instr.box 25 x1)) w_2 fun B9 w_4 =>
 opK Tryd.prog E (xV (Instr.loadAt 25 J5)) w_4 fun a5T w_6 =>
 opK Tryd.prog E (xCall (Value.func (.func 51) #[] #[]) [a5T]) w_6 fun a6S w_8 =>
 opK Tryd.prog E (gsem (asB a6S) true (xV (Instr.loadAt 25 B9))) w_8 fun a4t k9 =>
 opK Tryd.prog E (gsem (asB a6S) true (xCall (Value.func (.func 51) #[] #[]) [a4t])) k9 fun a9S k6 =>
 opK Tryd.prog E (xPick a6S a9S (Value.bool false)) k6 fun a1g o2 =>
 opK Tryd.prog E (gsem (asB a1g) true (xV (Instr.fieldAt 25 J5 0))) o2 fun a5U p5 =>
 opK Tryd.prog E (gsem (asB a1g) true (xV (Instr.loadAt 22 a5U))) p5 fun a1h p9 =>
 opK Tryd.prog E (gsem (asB a1g) true (xV (Instr.fieldAt 25 B9 0))) p9 fun a8z o9 =>
 opK Tryd.prog E (gsem (asB a1g) true (xV (Instr.loadAt 22 a8z))) o9 fun a5V r7 =>
 opK Tryd.prog E (gsem (asB a1g) true (xCall (Value.func (.func 52) #[] #[]) [a1h, a5V])) r7 fun a8A p8 =>
 opK Tryd.prog E (xPick a1g a8A (Value.bool false)) p8 fun a1F u4 =>
 opK Tryd.prog E (gsem (asB a1F) true (xV (Instr.fieldAt 25 J5 1))) u4 fun a3T u7 =>
 opK Tryd.prog E (gsem (asB a1F) true (xV (Instr.loadAt 23 a3T))) u7 fun b3k o5 =>
 opK Tryd.prog E (gsem (asB a1F) true (xV (Instr.fieldAt 25 B9 1))) o5 fun a7s y8 =>
 opK Tryd.prog E (gsem (asB a1F) true (xV (Instr.loadAt 23 a7s))) y8 fun a1G v2 =>
 opK Tryd.prog E (gsem (asB a1F) true (xCall (Value.func (.func 53) #[] #[]) [b3k, a1G, (Value.func (.func 54) #[] #[])])) v2 fun b3l A7 =>
 opK Tryd.prog E (xPick a1F b3l (Value.bool false)) A7 fun a2g A9 =>
 R a2g A9
noncomputable def c15 : Code := Tryd.f15.body.getD .skip
def h15 : Hint := (.seq .none (.seq .none .none))
theorem d7y (x0 x1 : Value) (w : World) (R : Value → World → Prop) (E : Pan) : F15 x0 x1 w R E = callX Tryd.prog [.tmp 4] c15 h15 [x0, x1] w R E := by kernel_rfl
theorem d7z {x0 x1 : Value} {w : World} {R : Value → World → Prop} {E : Pan} (h : F15 x0 x1 w R E) : Cv Tryd.prog 15 #[x0, x1] w R E := by
 refine g7 (args := [x0, x1]) (c := c15) (h := h15) (rs := [.tmp 4]) Tryd.func15 (by kernel_rfl) (by kernel_rfl) (Nat.le_of_ble_eq_true (by kernel_rfl)) (by kernel_rfl) (by kernel_rfl) (by kernel_rfl) ?_
 rw [← d7y]
 exact h
def b9P (w : World) (R : Value → World → Prop) (_E : Pan) : Prop :=
 ∀ _τ : Fr, (R (Value.bool true) w)
def c8f (x2 x3 x5 : Value) (w : World) (next2 : List Value → World → Prop) (j1 : List Value → World → Prop) (R : Value → World → Prop) (E : Pan) : Prop :=
 opK Tryd.prog E (xV (Instr.fieldAt 25 x2 0)) w fun b3m N4 =>
 opK Tryd.prog E (xV (Instr.loadAt 22 b3m)) N4 fun b3n N9 =>
 opK Tryd.prog E (xBuiltin .len #[22] 3 [false] [b3n]) N9 fun b9Q R5 =>
 opK Tryd.prog E (xBin .lss 3 (.tmp 31) (.tmp 34) x5 b9Q) R5 fun b3o O0 =>
 xcond b3o
 (dX O0 fun a7F =>
 qP Tryd.prog (xV (Instr.fieldAt 25 x2 0)) fun c8g =>
 qP Tryd.prog (xV (Instr.fieldAt 25 x3 0)) fun c8h =>
 qL Tryd.prog a7F (blk c8g) (xV (Instr.loadAt 22 c8g)) fun d7A =>
 qP Tryd.prog (xV (Instr.indexAt 22 d7A x5)) fun c8i =>
 qL Tryd.prog a7F (blk c8i) (xV (Instr.loadAt 67 c8i)) fun d7B =>
 qL Tryd.prog a7F (blk c8h) (xV (Instr.loadAt 22 c8h)) fun d7C =>
 qP Tryd.prog (xV (Instr.indexAt 22 d7C x5)) fun c8j =>
 qL Tryd.prog a7F (blk c8j) (xV (Instr.loadAt 67 c8j)) fun d7D =>
 qP Tryd.prog (xBin .neq 67 (.tmp 42) (.tmp 47) d7B d7D) fun d7E =>
 xcond d7E
 (R (Value.bool false) a7F)
 (opK Tryd.prog E (xBin .add 3 (.tmp 36) (.const (Value.int .i64 1)) x5 (Value.int .i64 1)) a7F fun b9R W5 =>
 next2 [b9R] W5))
 (j1 [] O0)
def F16 (x0 x1 : Value) (w : World) (R : Value → World → Prop) (E : Pan) : Prop :=
 opK Tryd.prog E (xV (Instr.box 25 x0)) w fun J5 w_2 =>
 opK Tryd.prog E (xV (Instr.box 25 x1)) w_2 fun B9 w_4 =>
 opK Tryd.prog E (xV (Instr.loadAt 25 J5)) w_4 fun a5W w_6 =>
 opK Tryd.prog E (xCall (Value.func (.func 55) #[] #[]) [a5W]) w_6 fun a4Q w_8 =>
 opK Tryd.prog E (xV (Op.unary .not a4Q)) w_8 fun a4t k9 =>
 opK Tryd.prog E (gsem (asB a4t) false (xV (Instr.loadAt 25 B9))) k9 fun a8B k6 =>
 opK Tryd.prog E (gsem (asB a4t) false (xCall (Value.func (.func 55) #[] #[]) [a8B])) k6 fun a0N o2 =>
 opK Tryd.prog E (gsem (asB a4t) false (xV (Op.unary .not a0N))) o2 fun a5U p5 =>
 opK Tryd.prog E (xPick a4t (Value.bool true) a5U) p5 fun a1h p9 =>
 opK Tryd.prog E (gsem (asB a1h) false (xV (Instr.fieldAt 25 J5 0))) p9 fun a8C o9 =>
 opK Tryd.prog E (gsem (asB a1h) false (xV (Instr.loadAt 22 a8C))) o9 fun a8D r7 =>
 opK Tryd.prog E (gsem (asB a1h) false (xBuiltin .len #[22] 3 [false] [a8D])) r7 fun b3p p8 =>
 opK Tryd.prog E (gsem (asB a1h) false (xV (Instr.fieldAt 25 B9 0))) p8 fun a3x u4 =>
 opK Tryd.prog E (gsem (asB a1h) false (xV (Instr.loadAt 22 a3x))) u4 fun a3T u7 =>
 opK Tryd.prog E (gsem (asB a1h) false (xBuiltin .len #[22] 3 [false] [a3T])) u7 fun b3k o5 =>
 opK Tryd.prog E (gsem (asB a1h) false (xBin .neq 3 (.tmp 17) (.tmp 20) b3p b3k)) o5 fun a7s y8 =>
 opK Tryd.prog E (xPick a1h (Value.bool true) a7s) y8 fun a1G v2 =>
 opK Tryd.prog E (gsem (asB a1G) false (xV (Instr.fieldAt 25 J5 1))) v2 fun b3q A7 =>
 opK Tryd.prog E (gsem (asB a1G) false (xV (Instr.loadAt 23 b3q))) A7 fun a2M A9 =>
 opK Tryd.prog E (gsem (asB a1G) false (xV (Instr.fieldAt 25 B9 1))) A9 fun b3r C7 =>
 opK Tryd.prog E (gsem (asB a1G) false (xV (Instr.loadAt 23 b3r))) C7 fun a3y I9 =>
 opK Tryd.prog E (gsem (asB a1G) false (xCall (Value.func (.func 56) #[] #[]) [a2M, a3y])) I9 fun b9S I0 =>
 opK Tryd.prog E (gsem (asB a1G) false (xV (Op.unary .not b9S))) I0 fun b9T K3 =>
 opK Tryd.prog E (xPick a1G (Value.bool true) b9T) K3 fun b9U J6 =>
 xcond b9U
 (R (Value.bool false) J6)
 (xcut (fun _ J7 => b9P J7 R E) fun j1 =>
 xloop [5] [(Value.int .i64 0)] J6 fun τ_71 Z5 next2 =>
 c8f J5 B9 (τ_71 5) Z5 next2 j1 R E)
noncomputable def c16 : Code := Tryd.f16.body.getD .skip
def h16 : Hint := (.seq .none (.seq (.seq .none (.cond (.seq .none .none) .none)) (.cut [] (.seq .none (.block (.loop [5] (.seq (.seq .none (.cond .none .none)) (.seq (.block (.seq (.reg [(0, 274877906944, 4), (1, 549755813888, 274877906944), (0, 1099511627776, 32), (6, 2199023255552, 1649267441664), (8, 4398046511104, 2199023255552), (0, 8796093022208, 8), (32, 17592186044416, 8796093022208), (0, 35184372088832, 32), (192, 70368744177664, 52776558133248), (256, 140737488355328, 70368744177664), (528, 281474976710656, 145135534866432)] [594, 592, 594, 594, 578, 594, 530, 594, 594, 82, 594] (.early 0 (.early 2 (.early 5 (.early 7 (.load 1 (.early 3 (.load 4 (.load 6 (.early 8 (.load 9 (.early 10 .done)))))))))))) (.cond (.seq .none .none) .none))) .none))))) (.seq .none .none))))
theorem d7F (x0 x1 : Value) (w : World) (R : Value → World → Prop) (E : Pan) : F16 x0 x1 w R E = callX Tryd.prog [.tmp 4] c16 h16 [x0, x1] w R E := by kernel_rfl
theorem d7G {x0 x1 : Value} {w : World} {R : Value → World → Prop} {E : Pan} (h : F16 x0 x1 w R E) : Cv Tryd.prog 16 #[x0, x1] w R E := by
 refine g7 (args := [x0, x1]) (c := c16) (h := h16) (rs := [.tmp 4]) Tryd.func16 (by kernel_rfl) (by kernel_rfl) (Nat.le_of_ble_eq_true (by kernel_rfl)) (by kernel_rfl) (by kernel_rfl) (by kernel_rfl) ?_
 rw [← d7F]
 exact h
def F27 (x0 : Value) (w : World) (R : Value → World → Prop) (E : Pan) : Prop :=
 opK Tryd.prog E (xV (Instr.box 25 x0)) w fun A5 w_2 =>
 opK Tryd.prog E (xV (Instr.loadAt 25 A5)) w_2 fun B9 w_4 =>
 opK Tryd.prog E (xCall (Value.func (.func 66) #[] #[]) [B9]) w_4 fun a2v w_6 =>
 opK Tryd.prog E (xNil a2v) w_6 fun a4R w_8 =>
 opK Tryd.prog E (xV (Instr.fieldAt 92 a4R 2)) w_8 fun a8E k9 =>
 opK Tryd.prog E (xV (Instr.loadAt 34 a8E)) k9 fun a4m k6 =>
 R a4m k6
noncomputable def c27 : Code := Tryd.f27.body.getD .skip
def h27 : Hint := (.seq .none (.seq .none .none))
theorem d7H (x0 : Value) (w : World) (R : Value → World → Prop) (E : Pan) : F27 x0 w R E = callX Tryd.prog [.tmp 2] c27 h27 [x0] w R E := by kernel_rfl
theorem d7I {x0 : Value} {w : World} {R : Value → World → Prop} {E : Pan} (h : F27 x0 w R E) : Cv Tryd.prog 27 #[x0] w R E := by
 refine g7 (args := [x0]) (c := c27) (h := h27) (rs := [.tmp 2]) Tryd.func27 (by kernel_rfl) (by kernel_rfl) (Nat.le_of_ble_eq_true (by kernel_rfl)) (by kernel_rfl) (by kernel_rfl) (by kernel_rfl) ?_
 rw [← d7H]
 exact h
def F51 (x0 : Value) (w : World) (R : Value → World → Prop) (E : Pan) : Prop :=
 opK Tryd.prog E (xV (Instr.box 25 x0)) w fun A5 w_2 =>
 opK Tryd.prog E (xV (Instr.loadAt 25 A5)) w_2 fun b0p w_4 =>
 opK Tryd.prog E (xCall (Value.func (.func 27) #[] #[]) [b0p]) w_4 fun a5T w_6 =>
 opK Tryd.prog E (xBin .neq 34 (.tmp 6) (.const (Value.int .i64 32)) a5T (Value.int .i64 32)) w_6 fun a4Q w_8 =>
 opK Tryd.prog E (gsem (asB a4Q) true (xBin .neq 34 (.tmp 9) (.const (Value.int .i64 33)) (gval (asB a4Q) true a5T) (Value.int .i64 33))) w_8 fun b9k k9 =>
 opK Tryd.prog E (xPick a4Q b9k (Value.bool false)) k9 fun b3s k6 =>
 R b3s k6
noncomputable def c51 : Code := Tryd.f51.body.getD .skip
def h51 : Hint := (.seq .none (.seq .none (.seq .none .none)))
theorem d7J (x0 : Value) (w : World) (R : Value → World → Prop) (E : Pan) : F51 x0 w R E = callX Tryd.prog [.tmp 2] c51 h51 [x0] w R E := by kernel_rfl
theorem d7K {x0 : Value} {w : World} {R : Value → World → Prop} {E : Pan} (h : F51 x0 w R E) : Cv Tryd.prog 51 #[x0] w R E := by
 refine g7 (args := [x0]) (c := c51) (h := h51) (rs := [.tmp 2]) Tryd.func51 (by kernel_rfl) (by kernel_rfl) (Nat.le_of_ble_eq_true (by kernel_rfl)) (by kernel_rfl) (by kernel_rfl) (by kernel_rfl) ?_
 rw [← d7J]
 exact h
def b9V (w : World) (R : Value → World → Prop) (_E : Pan) : Prop :=
 ∀ _τ : Fr, (R (Value.bool true) w)
def c8k (x0 x1 x12 x13 : Value) (w : World) (next2 : List Value → World → Prop) (j1 : List Value → World → Prop) (R : Value → World → Prop) (E : Pan) : Prop :=
 opK Tryd.prog E (xBin .lss 3 (.tmp 13) (.tmp 12) x13 x12) w fun b3t k6 =>
 xcond b3t
 (dX k6 fun a2N =>
 qP Tryd.prog (xV (Instr.indexAt 22 x0 x13)) fun c8l =>
 qP Tryd.prog (xV (Instr.indexAt 22 x1 x13)) fun c8m =>
 qL Tryd.prog a2N (blk c8l) (xV (Instr.loadAt 67 c8l)) fun d7L =>
 qL Tryd.prog a2N (blk c8m) (xV (Instr.loadAt 67 c8m)) fun d7M =>
 qP Tryd.prog (xBin .neq 67 (.tmp 19) (.tmp 23) d7L d7M) fun d7N =>
 xcond d7N
 (R (Value.bool false) a2N)
 (opK Tryd.prog E (xBin .add 3 (.tmp 13) (.const (Value.int .i64 1)) x13 (Value.int .i64 1)) a2N fun d7O o9 =>
 next2 [d7O] o9))
 (j1 [] k6)
def F52 (x0 x1 : Value) (w : World) (R : Value → World → Prop) (E : Pan) : Prop :=
 opK Tryd.prog E (xBuiltin .len #[22] 3 [false] [x0]) w fun b9W w_2 =>
 opK Tryd.prog E (xBuiltin .len #[22] 3 [false] [x1]) w_2 fun a3U w_4 =>
 opK Tryd.prog E (xBin .neq 3 (.tmp 7) (.tmp 9) b9W a3U) w_4 fun a2h w_6 =>
 xcond a2h
 (R (Value.bool false) w_6)
 (xcut (fun _ w_8 => b9V w_8 R E) fun j1 =>
 opK Tryd.prog E (xBuiltin .len #[22] 3 [false] [x0]) w_6 fun a7l k9 =>
 xloop [13] [(Value.int .i64 0)] k9 fun τ_21 r7 next2 =>
 c8k x0 x1 a7l (τ_21 13) r7 next2 j1 R E)
noncomputable def c52 : Code := Tryd.f52.body.getD .skip
def h52 : Hint := (.seq .none (.seq (.seq .none (.cond (.seq .none .none) .none)) (.cut [] (.seq .none (.block (.loop [13] (.seq .none (.seq (.cond .none .none) (.seq (.block (.seq .none (.seq (.reg [(0, 65536, 1), (0, 131072, 32), (3, 262144, 196608), (4, 524288, 262144), (0, 1048576, 2), (0, 2097152, 32), (48, 4194304, 3145728), (64, 8388608, 4194304), (136, 16777216, 8912896)] [136, 136, 136, 128, 136, 136, 136, 8, 136] (.early 0 (.early 1 (.early 2 (.early 4 (.early 5 (.early 6 (.load 3 (.load 7 (.early 8 .done)))))))))) (.cond (.seq .none .none) .none)))) .none)))))) (.seq .none .none))))
theorem d7P (x0 x1 : Value) (w : World) (R : Value → World → Prop) (E : Pan) : F52 x0 x1 w R E = callX Tryd.prog [.tmp 4] c52 h52 [x0, x1] w R E := by kernel_rfl
theorem d7Q {x0 x1 : Value} {w : World} {R : Value → World → Prop} {E : Pan} (h : F52 x0 x1 w R E) : Cv Tryd.prog 52 #[x0, x1] w R E := by
 refine g7 (args := [x0, x1]) (c := c52) (h := h52) (rs := [.tmp 4]) Tryd.func52 (by kernel_rfl) (by kernel_rfl) (Nat.le_of_ble_eq_true (by kernel_rfl)) (by kernel_rfl) (by kernel_rfl) (by kernel_rfl) ?_
 rw [← d7P]
 exact h
def b9X (w : World) (R : Value → World → Prop) (_E : Pan) : Prop :=
 ∀ _τ : Fr, (R (Value.bool true) w)
def c8n (x1 x2 x15 x16 x17 : Value) (w : World) (next2 : List Value → World → Prop) (j1 : List Value → World → Prop) (R : Value → World → Prop) (E : Pan) : Prop :=
 opK Tryd.prog E (xBin .lss 3 (.tmp 17) (.tmp 16) x17 x16) w fun a4C k6 =>
 xcond a4C
 (opK Tryd.prog E (xV (Instr.indexAt 23 x15 x17)) k6 fun a8F o2 =>
 opK Tryd.prog E (xV (Instr.loadAt 88 a8F)) o2 fun b3u p5 =>
 opK Tryd.prog E (xV (Instr.alloc 88 true (.tuple #[]))) p5 fun a9T p9 =>
 opK Tryd.prog E (xU (Instr.storeAt 88 a9T b3u)) p9 fun _z_19 o9 =>
 opK Tryd.prog E (xV (Instr.indexAt 23 x1 x17)) o9 fun a8G r7 =>
 opK Tryd.prog E (xV (Instr.loadAt 88 a8G)) r7 fun a8H p8 =>
 opK Tryd.prog E (xV (Instr.alloc 88 true (.tuple #[]))) p8 fun a9U u4 =>
 opK Tryd.prog E (xU (Instr.storeAt 88 a9U a8H)) u4 fun _z_27 u7 =>
 opK Tryd.prog E (xV (Instr.loadAt 88 a9T)) u7 fun a8I o5 =>
 opK Tryd.prog E (xV (Instr.loadAt 88 a9U)) o5 fun a2i y8 =>
 opK Tryd.prog E (xCall x2 [a8I, a2i]) y8 fun b3v v2 =>
 opK Tryd.prog E (xV (Op.unary .not b3v)) v2 fun b3w A7 =>
 xcond b3w
 (R (Value.bool false) A7)
 (opK Tryd.prog E (xBin .add 3 (.tmp 17) (.const (Value.int .i64 1)) x17 (Value.int .i64 1)) A7 fun a8J A9 =>
 next2 [a8J] A9))
 (j1 [] k6)
def F53 (x0 x1 x2 : Value) (w : World) (R : Value → World → Prop) (E : Pan) : Prop :=
 opK Tryd.prog E (xBuiltin .len #[23] 3 [false] [x0]) w fun b1J w_2 =>
 opK Tryd.prog E (xBuiltin .len #[23] 3 [false] [x1]) w_2 fun b1K w_4 =>
 opK Tryd.prog E (xBin .neq 3 (.tmp 11) (.tmp 13) b1J b1K) w_4 fun a7Z w_6 =>
 xcond a7Z
 (R (Value.bool false) w_6)
 (xcut (fun _ w_8 => b9X w_8 R E) fun j1 =>
 opK Tryd.prog E (xBuiltin .len #[23] 3 [false] [x0]) w_6 fun b1L k9 =>
 xloop [17] [(Value.int .i64 0)] k9 fun τ_39 C7 next2 =>
 c8n x1 x2 x0 b1L (τ_39 17) C7 next2 j1 R E)
noncomputable def c53 : Code := Tryd.f53.body.getD .skip
def h53 : Hint := (.seq .none (.seq (.seq .none (.cond (.seq .none .none) .none)) (.cut [] (.seq .none (.block (.loop [17] (.seq .none (.seq (.cond .none .none) (.seq (.block (.seq .none (.seq .none (.seq .none (.cond (.seq .none .none) .none))))) .none)))))) (.seq .none .none))))
theorem d7R (x0 x1 x2 : Value) (w : World) (R : Value → World → Prop) (E : Pan) : F53 x0 x1 x2 w R E = callX Tryd.prog [.tmp 6] c53 h53 [x0, x1, x2] w R E := by kernel_rfl
theorem d7S {x0 x1 x2 : Value} {w : World} {R : Value → World → Prop} {E : Pan} (h : F53 x0 x1 x2 w R E) : Cv Tryd.prog 53 #[x0, x1, x2] w R E := by
 refine g7 (args := [x0, x1, x2]) (c := c53) (h := h53) (rs := [.tmp 6]) Tryd.func53 (by kernel_rfl) (by kernel_rfl) (Nat.le_of_ble_eq_true (by kernel_rfl)) (by kernel_rfl) (by kernel_rfl) (by kernel_rfl) ?_
 rw [← d7R]
 exact h
def F54 (x0 x1 : Value) (w : World) (R : Value → World → Prop) (E : Pan) : Prop :=
 opK Tryd.prog E (xV (Instr.box 88 x0)) w fun J5 w_2 =>
 opK Tryd.prog E (xV (Instr.box 88 x1)) w_2 fun B9 w_4 =>
 opK Tryd.prog E (xV (Instr.fieldAt 88 J5 0)) w_4 fun a5T w_6 =>
 opK Tryd.prog E (xV (Instr.loadAt 3 a5T)) w_6 fun a6S w_8 =>
 opK Tryd.prog E (xV (Instr.fieldAt 88 B9 0)) w_8 fun b5z k9 =>
 opK Tryd.prog E (xV (Instr.loadAt 3 b5z)) k9 fun a5X k6 =>
 opK Tryd.prog E (xBin .eql 3 (.tmp 6) (.tmp 8) a6S a5X) k6 fun U4 o2 =>
 opK Tryd.prog E (gsem (asB U4) true (xV (Instr.fieldAt 88 J5 1))) o2 fun a7t p5 =>
 opK Tryd.prog E (gsem (asB U4) true (xV (Instr.loadAt 9 a7t))) p5 fun a7u p9 =>
 opK Tryd.prog E (gsem (asB U4) true (xV (Instr.fieldAt 88 B9 1))) p9 fun a7v o9 =>
 opK Tryd.prog E (gsem (asB U4) true (xV (Instr.loadAt 9 a7v))) o9 fun a7w r7 =>
 opK Tryd.prog E (gsem (asB U4) true (xBin .eql 9 (.tmp 12) (.tmp 14) a7u a7w)) r7 fun a8K p8 =>
 opK Tryd.prog E (xPick U4 a8K (Value.bool false)) p8 fun T9 u4 =>
 opK Tryd.prog E (gsem (asB T9) true (xV (Instr.fieldAt 88 J5 2))) u4 fun a5Y u7 =>
 opK Tryd.prog E (gsem (asB T9) true (xV (Instr.loadAt 28 a5Y))) u7 fun a4D o5 =>
 opK Tryd.prog E (gsem (asB T9) true (xV (Instr.fieldAt 88 B9 2))) o5 fun a3V y8 =>
 opK Tryd.prog E (gsem (asB T9) true (xV (Instr.loadAt 28 a3V))) y8 fun a8L v2 =>
 opK Tryd.prog E (gsem (asB T9) true (xCall (Value.func (.func 83) #[] #[]) [a4D, a8L, (Value.func (.func 84) #[] #[])])) v2 fun a8M A7 =>
 opK Tryd.prog E (xPick T9 a8M (Value.bool false)) A7 fun U0 A9 =>
 opK Tryd.prog E (gsem (asB U0) true (xV (Instr.fieldAt 88 J5 3))) A9 fun b3x C7 =>
 opK Tryd.prog E (gsem (asB U0) true (xV (Instr.loadAt 31 b3x))) C7 fun b3y I9 =>
 opK Tryd.prog E (gsem (asB U0) true (xV (Instr.fieldAt 88 B9 3))) I9 fun b3z I0 =>
 opK Tryd.prog E (gsem (asB U0) true (xV (Instr.loadAt 31 b3z))) I0 fun b3A K3 =>
 opK Tryd.prog E (gsem (asB U0) true (xCall (Value.func (.func 85) #[] #[]) [b3y, b3A, (Value.func (.func 86) #[] #[])])) K3 fun b3B J6 =>
 opK Tryd.prog E (xPick U0 b3B (Value.bool false)) J6 fun a4E J7 =>
 opK Tryd.prog E (gsem (asB a4E) true (xV (Instr.fieldAt 88 J5 4))) J7 fun b3m N4 =>
 opK Tryd.prog E (gsem (asB a4E) true (xV (Instr.loadAt 23 b3m))) N4 fun b3n N9 =>
 opK Tryd.prog E (gsem (asB a4E) true (xV (Instr.fieldAt 88 B9 4))) N9 fun b9Q R5 =>
 opK Tryd.prog E (gsem (asB a4E) true (xV (Instr.loadAt 23 b9Q))) R5 fun b3o O0 =>
 opK Tryd.prog E (gsem (asB a4E) true (xCall (Value.func (.func 53) #[] #[]) [b3n, b3o, (Value.func (.func 54) #[] #[])])) O0 fun b9Y T2 =>
 opK Tryd.prog E (xPick a4E b9Y (Value.bool false)) T2 fun a7x X7 =>
 opK Tryd.prog E (gsem (asB a7x) true (xV (Instr.fieldAt 88 J5 5))) X7 fun d7T R2 =>
 opK Tryd.prog E (gsem (asB a7x) true (xV (Instr.loadAt 23 d7T))) R2 fun d7U U8 =>
 opK Tryd.prog E (gsem (asB a7x) true (xV (Instr.fieldAt 88 B9 5))) U8 fun b9Z X8 =>
 opK Tryd.prog E (gsem (asB a7x) true (xV (Instr.loadAt 23 b9Z))) X8 fun c0a W5 =>
 opK Tryd.prog E (gsem (asB a7x) true (xCall (Value.func (.func 53) #[] #[]) [d7U, c0a, (Value.func (.func 54) #[] #[])])) W5 fun c0b Z5 =>
 opK Tryd.prog E (xPick a7x c0b (Value.bool false)) Z5 fun c0c a0Z =>
 R c0c a0Z
noncomputable def c54 : Code := Tryd.f54.body.getD .skip
def h54 : Hint := (.seq .none (.seq .none .none))
theorem d7V (x0 x1 : Value) (w : World) (R : Value → World → Prop) (E : Pan) : F54 x0 x1 w R E = callX Tryd.prog [.tmp 4] c54 h54 [x0, x1] w R E := by kernel_rfl
theorem d7W {x0 x1 : Value} {w : World} {R : Value → World → Prop} {E : Pan} (h : F54 x0 x1 w R E) : Cv Tryd.prog 54 #[x0, x1] w R E := by
 refine g7 (args := [x0, x1]) (c := c54) (h := h54) (rs := [.tmp 4]) Tryd.func54 (by kernel_rfl) (by kernel_rfl) (Nat.le_of_ble_eq_true (by kernel_rfl)) (by kernel_rfl) (by kernel_rfl) (by kernel_rfl) ?_
 rw [← d7V]
 exact h
def F55 (x0 : Value) (w : World) (R : Value → World → Prop) (E : Pan) : Prop :=
 opK Tryd.prog E (xV (Instr.box 25 x0)) w fun A5 w_2 =>
 opK Tryd.prog E (xV (Instr.loadAt 25 A5)) w_2 fun B9 w_4 =>
 opK Tryd.prog E (xCall (Value.func (.func 63) #[] #[]) [B9]) w_4 fun a2v w_6 =>
 opK Tryd.prog E (xV (Instr.field 99 a2v 2)) w_6 fun a4R w_8 =>
 opK Tryd.prog E (xBin .eql 3 (.tmp 5) (.const (Value.int .i64 0)) a4R (Value.int .i64 0)) w_8 fun a8E k9 =>
 R a8E k9
noncomputable def c55 : Code := Tryd.f55.body.getD .skip
def h55 : Hint := (.seq .none (.seq .none .none))
theorem d7X (x0 : Value) (w : World) (R : Value → World → Prop) (E : Pan) : F55 x0 w R E = callX Tryd.prog [.tmp 2] c55 h55 [x0] w R E := by kernel_rfl
theorem d7Y {x0 : Value} {w : World} {R : Value → World → Prop} {E : Pan} (h : F55 x0 w R E) : Cv Tryd.prog 55 #[x0] w R E := by
 refine g7 (args := [x0]) (c := c55) (h := h55) (rs := [.tmp 2]) Tryd.func55 (by kernel_rfl) (by kernel_rfl) (Nat.le_of_ble_eq_true (by kernel_rfl)) (by kernel_rfl) (by kernel_rfl) (by kernel_rfl) ?_
 rw [← d7X]
 exact h
def c0d (w : World) (R : Value → World → Prop) (_E : Pan) : Prop :=
 ∀ _τ : Fr, (R (Value.bool true) w)
def c0e (_x0 _x1 x5 : Value) (w : World) (next2 : List Value → World → Prop) (_R : Value → World → Prop) (E : Pan) : Prop :=
 ∀ _τ : Fr, (opK Tryd.prog E (xBin .add 3 (.tmp 19) (.const (Value.int .i64 1)) x5 (Value.int .i64 1)) w fun a8F o2 =>
 next2 [a8F] o2)
def c8o (_x0 _x1 _x5 x6 x7 x9 : Value) (w : World) (next6 : List Value → World → Prop) (j3 : List Value → World → Prop) (R : Value → World → Prop) (E : Pan) : Prop :=
 opK Tryd.prog E (xV (Instr.fieldAt 88 x6 2)) w fun d7Z a2X =>
 opK Tryd.prog E (xV (Instr.loadAt 28 d7Z)) a2X fun d4A a3O =>
 opK Tryd.prog E (xBuiltin .len #[28] 3 [false] [d4A]) a3O fun d4B a4K =>
 opK Tryd.prog E (xBin .lss 3 (.tmp 94) (.tmp 97) x9 d4B) a4K fun d4C a4L =>
 xcond d4C
 (dX a4L fun b4H =>
 qP Tryd.prog (xV (Instr.fieldAt 88 x6 2)) fun c0f =>
 qP Tryd.prog (xV (Instr.fieldAt 88 x7 2)) fun c0g =>
 qL Tryd.prog b4H (blk c0f) (xV (Instr.loadAt 28 c0f)) fun d0C =>
 qP Tryd.prog (xV (Instr.indexAt 28 d0C x9)) fun c0h =>
 qL Tryd.prog b4H (blk c0h) (xV (Instr.loadAt 30 c0h)) fun d0D =>
 qL Tryd.prog b4H (blk c0g) (xV (Instr.loadAt 28 c0g)) fun d0E =>
 qP Tryd.prog (xV (Instr.indexAt 28 d0E x9)) fun c0i =>
 qL Tryd.prog b4H (blk c0i) (xV (Instr.loadAt 30 c0i)) fun d0F =>
 opK Tryd.prog E (xCall (Value.func (.func 88) #[] #[]) [d0D, d0F]) b4H fun d0G c4B =>
 keepX [] b4H c4B (qP Tryd.prog (xV (Op.unary .not d0G)) fun d0H =>
 xcond d0H
 (R (Value.bool false) c4B)
 (opK Tryd.prog E (xBin .add 3 (.tmp 99) (.const (Value.int .i64 1)) x9 (Value.int .i64 1)) c4B fun d0I a8a =>
 next6 [d0I] a8a)))
 (j3 [] a4L)
def c0j (x0 x1 x5 x6 x7 : Value) (w : World) (j3 : List Value → World → Prop) (R : Value → World → Prop) (E : Pan) : Prop :=
 ∀ _τ : Fr, (xloop [9] [(Value.int .i64 0)] w fun τ_121 b1M next6 =>
 c8o x0 x1 x5 x6 x7 (τ_121 9) b1M next6 j3 R E)
def c8p (_x0 _x1 _x5 x6 x7 x8 : Value) (w : World) (next7 : List Value → World → Prop) (j5 : List Value → World → Prop) (R : Value → World → Prop) (E : Pan) : Prop :=
 opK Tryd.prog E (xV (Instr.fieldAt 88 x6 3)) w fun d4D a8b =>
 opK Tryd.prog E (xV (Instr.loadAt 31 d4D)) a8b fun d4E b1N =>
 opK Tryd.prog E (xBuiltin .len #[31] 3 [false] [d4E]) b1N fun d4F b1O =>
 opK Tryd.prog E (xBin .lss 3 (.tmp 75) (.tmp 78) x8 d4F) b1O fun d4G a9V =>
 xcond d4G
 (dX a9V fun b4I =>
 qP Tryd.prog (xV (Instr.fieldAt 88 x6 3)) fun c3O =>
 qP Tryd.prog (xV (Instr.fieldAt 88 x7 3)) fun c3P =>
 qL Tryd.prog b4I (blk c3O) (xV (Instr.loadAt 31 c3O)) fun d4H =>
 qP Tryd.prog (xV (Instr.indexAt 31 d4H x8)) fun c3Q =>
 qL Tryd.prog b4I (blk c3Q) (xV (Instr.loadAt 33 c3Q)) fun d4I =>
 qL Tryd.prog b4I (blk c3P) (xV (Instr.loadAt 31 c3P)) fun d4J =>
 qP Tryd.prog (xV (Instr.indexAt 31 d4J x8)) fun c3R =>
 qL Tryd.prog b4I (blk c3R) (xV (Instr.loadAt 33 c3R)) fun b7M =>
 opK Tryd.prog E (xCall (Value.func (.func 87) #[] #[]) [d4I, b7M]) b4I fun d4K c4C =>
 keepX [] b4I c4C (qP Tryd.prog (xV (Op.unary .not d4K)) fun d4L =>
 xcond d4L
 (R (Value.bool false) c4C)
 (opK Tryd.prog E (xBin .add 3 (.tmp 80) (.const (Value.int .i64 1)) x8 (Value.int .i64 1)) c4C fun d4M b6E =>
 next7 [d4M] b6E)))
 (j5 [] a9V)
def c0k (x0 x1 x5 x6 x7 : Value) (w : World) (j3 : List Value → World → Prop) (R : Value → World → Prop) (E : Pan) : Prop :=
 ∀ _τ : Fr, (opK Tryd.prog E (xV (Instr.fieldAt 88 x6 0)) w fun d8a p9 =>
 opK Tryd.prog E (xV (Instr.loadAt 3 d8a)) p9 fun d8b o9 =>
 opK Tryd.prog E (xV (Instr.fieldAt 88 x7 0)) o9 fun d8c r7 =>
 opK Tryd.prog E (xV (Instr.loadAt 3 d8c)) r7 fun d8d p8 =>
 opK Tryd.prog E (xBin .neq 3 (.tmp 30) (.tmp 32) d8b d8d) p8 fun b0Z u4 =>
 opK Tryd.prog E (gsem (asB b0Z) false (xV (Instr.fieldAt 88 x6 1))) u4 fun d8e u7 =>
 opK Tryd.prog E (gsem (asB b0Z) false (xV (Instr.loadAt 9 d8e))) u7 fun d8f o5 =>
 opK Tryd.prog E (gsem (asB b0Z) false (xV (Instr.fieldAt 88 x7 1))) o5 fun d8g y8 =>
 opK Tryd.prog E (gsem (asB b0Z) false (xV (Instr.loadAt 9 d8g))) y8 fun d8h v2 =>
 opK Tryd.prog E (gsem (asB b0Z) false (xBin .neq 9 (.tmp 36) (.tmp 38) d8f d8h)) v2 fun d8i A7 =>
 opK Tryd.prog E (xPick b0Z (Value.bool true) d8i) A7 fun a7y A9 =>
 opK Tryd.prog E (gsem (asB a7y) false (xV (Instr.fieldAt 88 x6 3))) A9 fun d8j C7 =>
 opK Tryd.prog E (gsem (asB a7y) false (xV (Instr.loadAt 31 d8j))) C7 fun d8k I9 =>
 opK Tryd.prog E (gsem (asB a7y) false (xBuiltin .len #[31] 3 [false] [d8k])) I9 fun d8l I0 =>
 opK Tryd.prog E (gsem (asB a7y) false (xV (Instr.fieldAt 88 x7 3))) I0 fun d8m K3 =>
 opK Tryd.prog E (gsem (asB a7y) false (xV (Instr.loadAt 31 d8m))) K3 fun d8n J6 =>
 opK Tryd.prog E (gsem (asB a7y) false (xBuiltin .len #[31] 3 [false] [d8n])) J6 fun d8o J7 =>
 opK Tryd.prog E (gsem (asB a7y) false (xBin .neq 3 (.tmp 44) (.tmp 47) d8l d8o)) J7 fun d8p N4 =>
 opK Tryd.prog E (xPick a7y (Value.bool true) d8p) N4 fun a7z N9 =>
 opK Tryd.prog E (gsem (asB a7z) false (xV (Instr.fieldAt 88 x6 2))) N9 fun d8q R5 =>
 opK Tryd.prog E (gsem (asB a7z) false (xV (Instr.loadAt 28 d8q))) R5 fun d8r O0 =>
 opK Tryd.prog E (gsem (asB a7z) false (xBuiltin .len #[28] 3 [false] [d8r])) O0 fun d8s T2 =>
 opK Tryd.prog E (gsem (asB a7z) false (xV (Instr.fieldAt 88 x7 2))) T2 fun d8t X7 =>
 opK Tryd.prog E (gsem (asB a7z) false (xV (Instr.loadAt 28 d8t))) X7 fun d8u R2 =>
 opK Tryd.prog E (gsem (asB a7z) false (xBuiltin .len #[28] 3 [false] [d8u])) R2 fun d8v U8 =>
 opK Tryd.prog E (gsem (asB a7z) false (xBin .neq 3 (.tmp 53) (.tmp 56) d8s d8v)) U8 fun d8w X8 =>
 opK Tryd.prog E (xPick a7z (Value.bool true) d8w) X8 fun a8N W5 =>
 opK Tryd.prog E (gsem (asB a8N) false (xV (Instr.fieldAt 88 x6 4))) W5 fun d8x Z5 =>
 opK Tryd.prog E (gsem (asB a8N) false (xV (Instr.loadAt 23 d8x))) Z5 fun d8y a0Z =>
 opK Tryd.prog E (gsem (asB a8N) false (xV (Instr.fieldAt 88 x7 4))) a0Z fun d8z a1b =>
 opK Tryd.prog E (gsem (asB a8N) false (xV (Instr.loadAt 23 d8z))) a1b fun d8A a1l =>
 opK Tryd.prog E (gsem (asB a8N) false (xCall (Value.func (.func 56) #[] #[]) [d8y, d8A])) a1l fun d8B a0O =>
 opK Tryd.prog E (gsem (asB a8N) false (xV (Op.unary .not d8B))) a0O fun d8C a2O =>
 opK Tryd.prog E (xPick a8N (Value.bool true) d8C) a2O fun a8O a3G =>
 opK Tryd.prog E (gsem (asB a8O) false (xV (Instr.fieldAt 88 x6 5))) a3G fun d8D a4u =>
 opK Tryd.prog E (gsem (asB a8O) false (xV (Instr.loadAt 23 d8D))) a4u fun d8E a3H =>
 opK Tryd.prog E (gsem (asB a8O) false (xV (Instr.fieldAt 88 x7 5))) a3H fun d8F a4S =>
 opK Tryd.prog E (gsem (asB a8O) false (xV (Instr.loadAt 23 d8F))) a4S fun d8G a4T =>
 opK Tryd.prog E (gsem (asB a8O) false (xCall (Value.func (.func 56) #[] #[]) [d8E, d8G])) a4T fun d8H a3I =>
 opK Tryd.prog E (gsem (asB a8O) false (xV (Op.unary .not d8H))) a3I fun d8I a4v =>
 opK Tryd.prog E (xPick a8O (Value.bool true) d8I) a4v fun d8J a4U =>
 xcond d8J
 (R (Value.bool false) a4U)
 (xcut (fun _ b1P => c0j x0 x1 x5 x6 x7 b1P j3 R E) fun j5 =>
 xloop [8] [(Value.int .i64 0)] a4U fun τ_147 b6F next7 =>
 c8p x0 x1 x5 x6 x7 (τ_147 8) b6F next7 j5 R E))
def c8q (x0 x1 x5 : Value) (w : World) (next2 : List Value → World → Prop) (j1 : List Value → World → Prop) (R : Value → World → Prop) (E : Pan) : Prop :=
 opK Tryd.prog E (xBuiltin .len #[23] 3 [false] [x0]) w fun c4D k9 =>
 opK Tryd.prog E (xBin .lss 3 (.tmp 15) (.tmp 17) x5 c4D) k9 fun a4C k6 =>
 xcond a4C
 (xcut (fun _ p5 => c0e x0 x1 x5 p5 next2 R E) fun j3 =>
 xcut (fun d3y c4E => c0k x0 x1 x5 (nth d3y 0) (nth d3y.tail 0) c4E j3 R E) fun j4 =>
 dX k6 fun b4J =>
 qP Tryd.prog (xV (Instr.indexAt 23 x0 x5)) fun a8o =>
 qP Tryd.prog (xV (Instr.indexAt 23 x1 x5)) fun a5y =>
 qL Tryd.prog b4J (blk a8o) (xV (Instr.loadAt 88 a8o)) fun c3S =>
 qL Tryd.prog b4J (blk a5y) (xV (Instr.loadAt 88 a5y)) fun c3T =>
 (opK Tryd.prog E (xV (Instr.alloc 88 true (.tuple #[]))) b4J fun c8r c4F =>
 keepX [(blk a5y), (blk a8o)] b4J c4F (opK Tryd.prog E (xV (Instr.alloc 88 true (.tuple #[]))) c4F fun c8s c4G =>
 keepX [(blk a5y), (blk a8o)] c4F c4G (opK Tryd.prog E (xU (Instr.storeAt 88 c8r c3S)) c4G fun _z_160 c4H =>
 keepX [(blk a5y)] c4G c4H (opK Tryd.prog E (xU (Instr.storeAt 88 c8s c3T)) c4H fun _z_162 d3z =>
 keepX [] c4H d3z (j4 [c8r, c8s] d3z))))) ∧
 (opK Tryd.prog E (xV (Instr.alloc 88 true (.tuple #[]))) b4J fun c8t c4I =>
 keepX [(blk a5y), (blk a8o)] b4J c4I (opK Tryd.prog E (xV (Instr.alloc 88 true (.tuple #[]))) c4I fun c8u c4J =>
 keepX [(blk a5y), (blk a8o)] c4I c4J (opK Tryd.prog E (xU (Instr.storeAt 88 c8u c3S)) c4J fun _z_168 c4K =>
 keepX [(blk a5y)] c4J c4K (opK Tryd.prog E (xU (Instr.storeAt 88 c8t c3T)) c4K fun _z_170 d3A =>
 keepX [] c4K d3A (j4 [c8u, c8t] d3A))))))
 (j1 [] k6)
def F56 (x0 x1 : Value) (w : World) (R : Value → World → Prop) (E : Pan) : Prop :=
 opK Tryd.prog E (xBuiltin .len #[23] 3 [false] [x0]) w fun b1J w_2 =>
 opK Tryd.prog E (xBuiltin .len #[23] 3 [false] [x1]) w_2 fun b1K w_4 =>
 opK Tryd.prog E (xBin .neq 3 (.tmp 11) (.tmp 13) b1J b1K) w_4 fun a7Z w_6 =>
 xcond a7Z
 (R (Value.bool false) w_6)
 (xcut (fun _ w_8 => c0d w_8 R E) fun j1 =>
 xloop [5] [(Value.int .i64 0)] w_6 fun τ_172 e9e next2 =>
 c8q x0 x1 (τ_172 5) e9e next2 j1 R E)
noncomputable def c56 : Code := Tryd.f56.body.getD .skip
def h56 : Hint := (.seq .none (.seq (.seq .none (.cond (.seq .none .none) .none)) (.cut [] (.seq .none (.block (.loop [5] (.seq (.seq .none (.cond .none .none)) (.cut [] (.block (.cut [6, 7] (.reg [(0, 2097152, 1), (0, 4194304, 32), (3, 8388608, 6291456), (4, 16777216, 8388608), (0, 33554432, 2), (0, 67108864, 32), (48, 134217728, 100663296), (64, 268435456, 134217728), (0, 64, 0), (0, 128, 0), (783, 0, 16777280), (2047, 0, 268435584)] [136, 136, 136, 128, 136, 136, 136, 8, 136, 136, 128, 0] (.early 0 (.early 1 (.early 2 (.early 4 (.early 5 (.early 6 (.load 3 (.load 7 (.alt 8 (.step 9 (.step 10 (.step 11 .done))) (.step 9 (.step 8 (.step 10 (.step 11 .done)))))))))))))) (.seq (.seq .none (.cond (.seq .none .none) .none)) (.cut [] (.seq .none (.block (.loop [8] (.seq (.seq .none (.cond .none .none)) (.seq (.block (.seq (.reg [(0, 4835703278458516698824704, 64), (1, 9671406556917033397649408, 4835703278458516698824704), (0, 19342813113834066795298816, 256), (6, 38685626227668133590597632, 29014219670751100192948224), (8, 77371252455336267181195264, 38685626227668133590597632), (0, 154742504910672534362390528, 128), (32, 309485009821345068724781056, 154742504910672534362390528), (0, 618970019642690137449562112, 256), (192, 1237940039285380274899124224, 928455029464035206174343168), (256, 2475880078570760549798248448, 1237940039285380274899124224), (528, 4951760157141521099596496896, 2553251331026096816979443712), (1024, 9903520314283042199192993792, 4951760157141521099596496896)] [594, 592, 594, 594, 578, 594, 530, 594, 594, 82, 0, 594] (.early 0 (.early 2 (.early 5 (.early 7 (.load 1 (.early 3 (.load 4 (.load 6 (.early 8 (.load 9 (.step 10 (.early 11 .done))))))))))))) (.cond (.seq .none .none) .none))) .none))))) (.seq .none (.block (.loop [9] (.seq (.seq .none (.cond .none .none)) (.seq (.block (.seq (.reg [(0, 2535301200456458802993406410752, 64), (1, 5070602400912917605986812821504, 2535301200456458802993406410752), (0, 10141204801825835211973625643008, 512), (6, 20282409603651670423947251286016, 15211807202738752817960438464512), (8, 40564819207303340847894502572032, 20282409603651670423947251286016), (0, 81129638414606681695789005144064, 128), (32, 162259276829213363391578010288128, 81129638414606681695789005144064), (0, 324518553658426726783156020576256, 512), (192, 649037107316853453566312041152512, 486777830487640090174734030864384), (256, 1298074214633706907132624082305024, 649037107316853453566312041152512), (528, 2596148429267413814265248164610048, 1338639033841010247980518584877056), (1024, 5192296858534827628530496329220096, 2596148429267413814265248164610048)] [594, 592, 594, 594, 578, 594, 530, 594, 594, 82, 0, 594] (.early 0 (.early 2 (.early 5 (.early 7 (.load 1 (.early 3 (.load 4 (.load 6 (.early 8 (.load 9 (.step 10 (.early 11 .done))))))))))))) (.cond (.seq .none .none) .none))) .none))))))))) .none))))) (.seq .none .none))))
theorem d8K (x0 x1 : Value) (w : World) (R : Value → World → Prop) (E : Pan) : F56 x0 x1 w R E = callX Tryd.prog [.tmp 4] c56 h56 [x0, x1] w R E := by kernel_rfl
theorem d8L {x0 x1 : Value} {w : World} {R : Value → World → Prop} {E : Pan} (h : F56 x0 x1 w R E) : Cv Tryd.prog 56 #[x0, x1] w R E := by
 refine g7 (args := [x0, x1]) (c := c56) (h := h56) (rs := [.tmp 4]) Tryd.func56 (by kernel_rfl) (by kernel_rfl) (Nat.le_of_ble_eq_true (by kernel_rfl)) (by kernel_rfl) (by kernel_rfl) (by kernel_rfl) ?_
 rw [← d8K]
 exact h
def c0l (x3 : Value) (w : World) (R : Value → World → Prop) (E : Pan) : Prop :=
 ∀ _τ : Fr, (opK Tryd.prog E (xV (Instr.loadAt 93 x3)) w fun d8M p5 =>
 R d8M p5)
def F57 (x0 : Value) (w : World) (R : Value → World → Prop) (E : Pan) : Prop :=
 opK Tryd.prog E (xV (Instr.build 92 #[])) w fun b0q w_2 =>
 opK Tryd.prog E (xV (Instr.box 92 b0q)) w_2 fun a6T w_4 =>
 opK Tryd.prog E (xV (Instr.alloc 93 true (.tuple #[]))) w_4 fun b5A w_6 =>
 opK Tryd.prog E (xU (Instr.storeAt 93 b5A a6T)) w_6 fun _z_7 w_8 =>
 opK Tryd.prog E (xV (Instr.alloc 139 true (.tuple #[]))) w_8 fun d0J k9 =>
 opK Tryd.prog E (xV (Instr.makeFunc (.func 89) #[] #[b5A, d0J])) k9 fun a5X k6 =>
 opK Tryd.prog E (xU (Instr.storeAt 139 d0J a5X)) k6 fun _z_13 o2 =>
 xcut (fun _ p9 => c0l b5A p9 R E) fun j1 =>
 opK Tryd.prog E (xV (Instr.loadAt 139 d0J)) o2 fun e9f o9 =>
 opK Tryd.prog E (xCall e9f [x0, (Value.int .i64 1)]) o9 fun d8N r7 =>
 opK Tryd.prog E (xV (Op.unary .not d8N)) r7 fun d8O p8 =>
 xcond d8O
 (j1 [] p8)
 (opK Tryd.prog E (xV (Instr.loadAt 93 b5A)) p8 fun T9 u4 =>
 opK Tryd.prog E (xNil T9) u4 fun d8P u7 =>
 opK Tryd.prog E (xV (Instr.fieldAt 92 d8P 3)) u7 fun b6G o5 =>
 opK Tryd.prog E (xV (Instr.loadAt 4 b6G)) o5 fun d8Q y8 =>
 xcond d8Q
 (opK Tryd.prog E (xV (Instr.loadAt 93 b5A)) y8 fun d8R v2 =>
 opK Tryd.prog E (xNil d8R) v2 fun d8S A7 =>
 opK Tryd.prog E (xV (Instr.fieldAt 92 d8S 2)) A7 fun d8T A9 =>
 opK Tryd.prog E (xU (Instr.storeAt 34 d8T (Value.int .i64 30))) A9 fun _z_39 C7 =>
 j1 [] C7)
 (opK Tryd.prog E (xV (Instr.loadAt 93 b5A)) y8 fun d8U I9 =>
 opK Tryd.prog E (xNil d8U) I9 fun c0m I0 =>
 opK Tryd.prog E (xV (Instr.fieldAt 92 c0m 4)) I0 fun c0n K3 =>
 opK Tryd.prog E (xV (Instr.loadAt 4 c0n)) K3 fun d8V J6 =>
 xcond d8V
 (opK Tryd.prog E (xV (Instr.loadAt 93 b5A)) J6 fun c0o J7 =>
 opK Tryd.prog E (xNil c0o) J7 fun c0p N4 =>
 opK Tryd.prog E (xV (Instr.fieldAt 92 c0p 2)) N4 fun d8W N9 =>
 opK Tryd.prog E (xU (Instr.storeAt 34 d8W (Value.int .i64 31))) N9 fun _z_55 R5 =>
 j1 [] R5)
 (j1 [] J6)))
noncomputable def c57 : Code := Tryd.f57.body.getD .skip
def h57 : Hint := (.seq .none (.seq .none (.seq .none (.seq .none (.cut [] (.seq .none (.block (.seq .none (.cond .none (.seq .none (.cond .none (.seq .none (.cond .none .none)))))))) (.seq .none .none))))))
theorem d8X (x0 : Value) (w : World) (R : Value → World → Prop) (E : Pan) : F57 x0 w R E = callX Tryd.prog [.tmp 2] c57 h57 [x0] w R E := by kernel_rfl
theorem d8Y {x0 : Value} {w : World} {R : Value → World → Prop} {E : Pan} (h : F57 x0 w R E) : Cv Tryd.prog 57 #[x0] w R E := by
 refine g7 (args := [x0]) (c := c57) (h := h57) (rs := [.tmp 2]) Tryd.func57 (by kernel_rfl) (by kernel_rfl) (Nat.le_of_ble_eq_true (by kernel_rfl)) (by kernel_rfl) (by kernel_rfl) (by kernel_rfl) ?_
 rw [← d8X]
 exact h
def c8v (x0 x2 x4 x6 : Value) (w : World) (next1 : List Value → World → Prop) (R : Value → World → Prop) (E : Pan) : Prop :=
 opK Tryd.prog E (xV (Instr.fieldAt 30 x4 3)) w fun a5Z w_8 =>
 opK Tryd.prog E (xV (Instr.loadAt 28 a5Z)) w_8 fun a6a k9 =>
 opK Tryd.prog E (xBuiltin .len #[28] 3 [false] [a6a]) k9 fun b3t k6 =>
 opK Tryd.prog E (xBin .lss 3 (.tmp 11) (.tmp 14) x6 b3t) k6 fun a3z o2 =>
 opK Tryd.prog E (gsem (asB a3z) true (xNil (gval (asB a3z) true x0))) o2 fun d8Z p5 =>
 opK Tryd.prog E (gsem (asB a3z) true (xV (Instr.fieldAt 99 d8Z 2))) p5 fun d9a p9 =>
 opK Tryd.prog E (gsem (asB a3z) true (xV (Instr.loadAt 3 d9a))) p9 fun d9b o9 =>
 opK Tryd.prog E (gsem (asB a3z) true (xBin .eql 3 (.tmp 20) (.const (Value.int .i64 0)) d9b (Value.int .i64 0))) o9 fun d9c r7 =>
 opK Tryd.prog E (xPick a3z d9c (Value.bool false)) r7 fun c0q p8 =>
 xcond c0q
 (opK Tryd.prog E (xV (Instr.fieldAt 30 x4 3)) p8 fun d9d u4 =>
 opK Tryd.prog E (xV (Instr.loadAt 28 d9d)) u4 fun d9e u7 =>
 opK Tryd.prog E (xV (Instr.indexAt 28 d9e x6)) u7 fun a6b o5 =>
 opK Tryd.prog E (xV (Instr.loadAt 30 a6b)) o5 fun d9f y8 =>
 opK Tryd.prog E (xBin .add 3 (.tmp 31) (.const (Value.int .i64 1)) x2 (Value.int .i64 1)) y8 fun b3C v2 =>
 opK Tryd.prog E (xCall (Value.func (.func 58) #[] #[]) [x0, d9f, b3C]) v2 fun _t33_35 A7 =>
 opK Tryd.prog E (xBin .add 3 (.tmp 23) (.const (Value.int .i64 1)) x6 (Value.int .i64 1)) A7 fun a2g A9 =>
 next1 [a2g] A9)
 (R (Value.tuple #[]) p8)
def F58 (x0 x1 x2 : Value) (w : World) (R : Value → World → Prop) (E : Pan) : Prop :=
 opK Tryd.prog E (xV (Instr.box 30 x1)) w fun a2Y w_2 =>
 opK Tryd.prog E (xCall (Value.func (.func 91) #[] #[]) [x0, x2]) w_2 fun a3U w_4 =>
 opK Tryd.prog E (xV (Op.unary .not a3U)) w_4 fun a2h w_6 =>
 xcond a2h
 (R (Value.tuple #[]) w_6)
 (xloop [6] [(Value.int .i64 0)] w_6 fun τ_39 C7 next1 =>
 c8v x0 x2 a2Y (τ_39 6) C7 next1 R E)
noncomputable def c58 : Code := Tryd.f58.body.getD .skip
def h58 : Hint := (.seq .none (.seq (.seq .none (.cond .none .none)) (.seq .none (.block (.loop [6] (.seq (.seq .none (.cond .none .none)) (.seq (.block .none) .none)))))))
theorem d9g (x0 x1 x2 : Value) (w : World) (R : Value → World → Prop) (E : Pan) : F58 x0 x1 x2 w R E = callX Tryd.prog [] c58 h58 [x0, x1, x2] w R E := by kernel_rfl
theorem d9h {x0 x1 x2 : Value} {w : World} {R : Value → World → Prop} {E : Pan} (h : F58 x0 x1 x2 w R E) : Cv Tryd.prog 58 #[x0, x1, x2] w R E := by
 refine g7 (args := [x0, x1, x2]) (c := c58) (h := h58) (rs := []) Tryd.func58 (by kernel_rfl) (by kernel_rfl) (Nat.le_of_ble_eq_true (by kernel_rfl)) (by kernel_rfl) (by kernel_rfl) (by kernel_rfl) ?_
 rw [← d9g]
 exact h
def c8w (x0 x2 x4 x7 : Value) (w : World) (next2 : List Value → World → Prop) (R : Value → World → Prop) (E : Pan) : Prop :=
 opK Tryd.prog E (xV (Instr.fieldAt 33 x4 3)) w fun e9g w_8 =>
 opK Tryd.prog E (xV (Instr.loadAt 31 e9g)) w_8 fun e9h k9 =>
 opK Tryd.prog E (xBuiltin .len #[31] 3 [false] [e9h]) k9 fun c0r k6 =>
 opK Tryd.prog E (xBin .lss 3 (.tmp 35) (.tmp 38) x7 c0r) k6 fun b1a o2 =>
 opK Tryd.prog E (gsem (asB b1a) true (xNil (gval (asB b1a) true x0))) o2 fun d9i p5 =>
 opK Tryd.prog E (gsem (asB b1a) true (xV (Instr.fieldAt 99 d9i 2))) p5 fun b6H p9 =>
 opK Tryd.prog E (gsem (asB b1a) true (xV (Instr.loadAt 3 b6H))) p9 fun d9j o9 =>
 opK Tryd.prog E (gsem (asB b1a) true (xBin .eql 3 (.tmp 44) (.const (Value.int .i64 0)) d9j (Value.int .i64 0))) o9 fun d9k r7 =>
 opK Tryd.prog E (xPick b1a d9k (Value.bool false)) r7 fun d9l p8 =>
 xcond d9l
 (opK Tryd.prog E (xV (Instr.fieldAt 33 x4 3)) p8 fun d9m u4 =>
 opK Tryd.prog E (xV (Instr.loadAt 31 d9m)) u4 fun d9n u7 =>
 opK Tryd.prog E (xV (Instr.indexAt 31 d9n x7)) u7 fun d9o o5 =>
 opK Tryd.prog E (xV (Instr.loadAt 33 d9o)) o5 fun d9p y8 =>
 opK Tryd.prog E (xBin .add 3 (.tmp 55) (.const (Value.int .i64 1)) x2 (Value.int .i64 1)) y8 fun d9q v2 =>
 opK Tryd.prog E (xCall (Value.func (.func 61) #[] #[]) [x0, d9p, d9q]) v2 fun _t57_35 A7 =>
 opK Tryd.prog E (xBin .add 3 (.tmp 47) (.const (Value.int .i64 1)) x7 (Value.int .i64 1)) A7 fun d9r A9 =>
 next2 [d9r] A9)
 (R (Value.tuple #[]) p8)
def c0s (x0 x2 x4 : Value) (w : World) (R : Value → World → Prop) (E : Pan) : Prop :=
 ∀ _τ : Fr, (xloop [7] [(Value.int .i64 0)] w fun τ_39 C7 next2 =>
 c8w x0 x2 x4 (τ_39 7) C7 next2 R E)
def c8x (x0 x2 x4 x6 : Value) (w : World) (next3 : List Value → World → Prop) (j1 : List Value → World → Prop) (_R : Value → World → Prop) (E : Pan) : Prop :=
 opK Tryd.prog E (xV (Instr.fieldAt 33 x4 2)) w fun d9s I0 =>
 opK Tryd.prog E (xV (Instr.loadAt 28 d9s)) I0 fun d9t K3 =>
 opK Tryd.prog E (xBuiltin .len #[28] 3 [false] [d9t]) K3 fun d9u J6 =>
 opK Tryd.prog E (xBin .lss 3 (.tmp 12) (.tmp 15) x6 d9u) J6 fun b1b J7 =>
 opK Tryd.prog E (gsem (asB b1b) true (xNil (gval (asB b1b) true x0))) J7 fun b6I N4 =>
 opK Tryd.prog E (gsem (asB b1b) true (xV (Instr.fieldAt 99 b6I 2))) N4 fun b6J N9 =>
 opK Tryd.prog E (gsem (asB b1b) true (xV (Instr.loadAt 3 b6J))) N9 fun b6K R5 =>
 opK Tryd.prog E (gsem (asB b1b) true (xBin .eql 3 (.tmp 21) (.const (Value.int .i64 0)) b6K (Value.int .i64 0))) R5 fun b1c O0 =>
 opK Tryd.prog E (xPick b1b b1c (Value.bool false)) O0 fun a8P T2 =>
 xcond a8P
 (opK Tryd.prog E (xV (Instr.fieldAt 33 x4 2)) T2 fun d9v X7 =>
 opK Tryd.prog E (xV (Instr.loadAt 28 d9v)) X7 fun c0t R2 =>
 opK Tryd.prog E (xV (Instr.indexAt 28 c0t x6)) R2 fun d9w U8 =>
 opK Tryd.prog E (xV (Instr.loadAt 30 d9w)) U8 fun d9x X8 =>
 opK Tryd.prog E (xBin .add 3 (.tmp 32) (.const (Value.int .i64 1)) x2 (Value.int .i64 1)) X8 fun d9y W5 =>
 opK Tryd.prog E (xCall (Value.func (.func 58) #[] #[]) [x0, d9x, d9y]) W5 fun _t34_71 Z5 =>
 opK Tryd.prog E (xBin .add 3 (.tmp 24) (.const (Value.int .i64 1)) x6 (Value.int .i64 1)) Z5 fun d9z a0Z =>
 next3 [d9z] a0Z)
 (j1 [] T2)
def F61 (x0 x1 x2 : Value) (w : World) (R : Value → World → Prop) (E : Pan) : Prop :=
 opK Tryd.prog E (xV (Instr.box 33 x1)) w fun a2Y w_2 =>
 opK Tryd.prog E (xCall (Value.func (.func 91) #[] #[]) [x0, x2]) w_2 fun b6L w_4 =>
 opK Tryd.prog E (xV (Op.unary .not b6L)) w_4 fun a8c w_6 =>
 xcond a8c
 (R (Value.tuple #[]) w_6)
 (xcut (fun _ I9 => c0s x0 x2 a2Y I9 R E) fun j1 =>
 xloop [6] [(Value.int .i64 0)] w_6 fun τ_75 a1b next3 =>
 c8x x0 x2 a2Y (τ_75 6) a1b next3 j1 R E)
noncomputable def c61 : Code := Tryd.f61.body.getD .skip
def h61 : Hint := (.seq .none (.seq (.seq .none (.cond .none .none)) (.cut [] (.seq .none (.block (.loop [6] (.seq (.seq .none (.cond .none .none)) (.seq (.block .none) .none))))) (.seq .none (.block (.loop [7] (.seq (.seq .none (.cond .none .none)) (.seq (.block .none) .none))))))))
theorem d9A (x0 x1 x2 : Value) (w : World) (R : Value → World → Prop) (E : Pan) : F61 x0 x1 x2 w R E = callX Tryd.prog [] c61 h61 [x0, x1, x2] w R E := by kernel_rfl
theorem d9B {x0 x1 x2 : Value} {w : World} {R : Value → World → Prop} {E : Pan} (h : F61 x0 x1 x2 w R E) : Cv Tryd.prog 61 #[x0, x1, x2] w R E := by
 refine g7 (args := [x0, x1, x2]) (c := c61) (h := h61) (rs := []) Tryd.func61 (by kernel_rfl) (by kernel_rfl) (Nat.le_of_ble_eq_true (by kernel_rfl)) (by kernel_rfl) (by kernel_rfl) (by kernel_rfl) ?_
 rw [← d9A]
 exact h
def c0u (x2 x3 : Value) (w : World) (R : Value → World → Prop) (E : Pan) : Prop :=
 ∀ _τ : Fr, (opK Tryd.prog E (xV (Instr.loadAt 99 x3)) w fun c0r k6 =>
 opK Tryd.prog E (xU (Instr.storeAt 99 x2 c0r)) k6 fun _z_13 o2 =>
 xcell Tryd.prog 99 x2 o2 fun f2v =>
 R f2v o2)
def c8y (x1 _x2 x3 x5 : Value) (w : World) (next3 : List Value → World → Prop) (j2 : List Value → World → Prop) (_R : Value → World → Prop) (E : Pan) : Prop :=
 opK Tryd.prog E (xV (Instr.fieldAt 25 x1 1)) w fun d9C a7G =>
 opK Tryd.prog E (xV (Instr.loadAt 23 d9C)) a7G fun d9D N5 =>
 opK Tryd.prog E (xBuiltin .len #[23] 3 [false] [d9D]) N5 fun d9E b3D =>
 opK Tryd.prog E (xBin .lss 3 (.tmp 20) (.tmp 23) x5 d9E) b3D fun b6M a8Q =>
 opK Tryd.prog E (gsem (asB b6M) true (xV (Instr.fieldAt 99 x3 2))) a8Q fun d9F a6c =>
 opK Tryd.prog E (gsem (asB b6M) true (xV (Instr.loadAt 3 d9F))) a6c fun d9G d0K =>
 opK Tryd.prog E (gsem (asB b6M) true (xBin .eql 3 (.tmp 27) (.const (Value.int .i64 0)) d9G (Value.int .i64 0))) d0K fun d9H f2w =>
 opK Tryd.prog E (xPick b6M d9H (Value.bool false)) f2w fun d9I d0L =>
 xcond d9I
 (opK Tryd.prog E (xV (Instr.fieldAt 25 x1 1)) d0L fun d9J d9K =>
 opK Tryd.prog E (xV (Instr.loadAt 23 d9J)) d9K fun d9L d0M =>
 opK Tryd.prog E (xV (Instr.indexAt 23 d9L x5)) d0M fun d9M a6d =>
 opK Tryd.prog E (xV (Instr.loadAt 88 d9M)) a6d fun d9N c4L =>
 opK Tryd.prog E (xCall (Value.func (.func 92) #[] #[]) [x3, d9N, (Value.int .i64 1)]) c4L fun _t37_42 b3E =>
 opK Tryd.prog E (xBin .add 3 (.tmp 30) (.const (Value.int .i64 1)) x5 (Value.int .i64 1)) b3E fun d9O c0v =>
 next3 [d9O] c0v)
 (j2 [] d0L)
def c0w (x1 x2 x3 : Value) (w : World) (R : Value → World → Prop) (E : Pan) : Prop :=
 ∀ _τ : Fr, (xcut (fun _ a3J => c0u x2 x3 a3J R E) fun j2 =>
 xloop [5] [(Value.int .i64 0)] w fun τ_46 b3F next3 =>
 c8y x1 x2 x3 (τ_46 5) b3F next3 j2 R E)
def c8z (x1 _x2 x3 x4 : Value) (w : World) (next4 : List Value → World → Prop) (j1 : List Value → World → Prop) (_R : Value → World → Prop) (E : Pan) : Prop :=
 opK Tryd.prog E (xV (Instr.fieldAt 25 x1 0)) w fun e9i d9P =>
 opK Tryd.prog E (xV (Instr.loadAt 22 e9i)) d9P fun e9j d0N =>
 opK Tryd.prog E (xBuiltin .len #[22] 3 [false] [e9j]) d0N fun d9Q b5B =>
 opK Tryd.prog E (xBin .lss 3 (.tmp 7) (.tmp 10) x4 d9Q) b5B fun b6N b0r =>
 opK Tryd.prog E (gsem (asB b6N) true (xV (Instr.fieldAt 99 x3 2))) b0r fun d9R a7F =>
 opK Tryd.prog E (gsem (asB b6N) true (xV (Instr.loadAt 3 d9R))) a7F fun d9S c4M =>
 opK Tryd.prog E (gsem (asB b6N) true (xBin .eql 3 (.tmp 14) (.const (Value.int .i64 0)) d9S (Value.int .i64 0))) c4M fun d9T d0O =>
 opK Tryd.prog E (xPick b6N d9T (Value.bool false)) d0O fun d9U b0s =>
 xcond d9U
 (opK Tryd.prog E (xCall (Value.func (.func 91) #[] #[]) [x3, (Value.int .i64 1)]) b0s fun _t19_66 b3G =>
 opK Tryd.prog E (xBin .add 3 (.tmp 17) (.const (Value.int .i64 1)) x4 (Value.int .i64 1)) b3G fun d9V b3H =>
 next4 [d9V] b3H)
 (j1 [] b0s)
def F63 (x0 : Value) (w : World) (R : Value → World → Prop) (E : Pan) : Prop :=
 opK Tryd.prog E (xV (Instr.box 25 x0)) w fun A5 w_2 =>
 opK Tryd.prog E (xV (Instr.alloc 99 true (.tuple #[]))) w_2 fun d9W w_4 =>
 opK Tryd.prog E (xV (Instr.build 99 #[])) w_4 fun a5W w_6 =>
 opK Tryd.prog E (xV (Instr.alloc 99 true (.tuple #[]))) w_6 fun d0P w_8 =>
 opK Tryd.prog E (xU (Instr.storeAt 99 d0P a5W)) w_8 fun _z_9 k9 =>
 xcut (fun _ c4N => c0w A5 d9W d0P c4N R E) fun j1 =>
 xloop [4] [(Value.int .i64 0)] k9 fun τ_70 f2x next4 =>
 c8z A5 d9W d0P (τ_70 4) f2x next4 j1 R E
noncomputable def c63 : Code := Tryd.f63.body.getD .skip
def h63 : Hint := (.seq .none (.seq .none (.cut [] (.seq .none (.block (.loop [4] (.seq (.seq .none (.cond .none .none)) (.seq (.block .none) .none))))) (.cut [] (.seq .none (.block (.loop [5] (.seq (.seq .none (.cond .none .none)) (.seq (.block .none) .none))))) (.seq .none .none)))))
theorem d9X (x0 : Value) (w : World) (R : Value → World → Prop) (E : Pan) : F63 x0 w R E = callX Tryd.prog [.cell 2 99] c63 h63 [x0] w R E := by kernel_rfl
theorem d9Y {x0 : Value} {w : World} {R : Value → World → Prop} {E : Pan} (h : F63 x0 w R E) : Cv Tryd.prog 63 #[x0] w R E := by
 refine g7 (args := [x0]) (c := c63) (h := h63) (rs := [.cell 2 99]) Tryd.func63 (by kernel_rfl) (by kernel_rfl) (Nat.le_of_ble_eq_true (by kernel_rfl)) (by kernel_rfl) (by kernel_rfl) (by kernel_rfl) ?_
 rw [← d9X]
 exact h
def F66 (x0 : Value) (w : World) (R : Value → World → Prop) (E : Pan) : Prop :=
 opK Tryd.prog E (xV (Instr.box 25 x0)) w fun A5 w_2 =>
 dX w_2 fun w_3 =>
 qP Tryd.prog (xV (Instr.fieldAt 25 A5 0)) fun b7N =>
 qP Tryd.prog (xV (Instr.fieldAt 25 A5 1)) fun a5W =>
 qL Tryd.prog w_3 (blk b7N) (xV (Instr.loadAt 22 b7N)) fun f2y =>
 qL Tryd.prog w_3 (blk a5W) (xV (Instr.loadAt 23 a5W)) fun a4Q =>
 opK Tryd.prog E (xCall (Value.func (.func 95) #[] #[]) [f2y, (Value.func (.func 96) #[] #[])]) w_3 fun d0Q w_9 =>
 keepX [(blk a5W)] w_3 w_9 (opK Tryd.prog E (xCall (Value.func (.func 97) #[] #[]) [a4Q, (Value.func (.func 98) #[] #[])]) w_9 fun e9k a1m =>
 keepX [] w_9 a1m (opK Tryd.prog E (xV (Instr.buildSlice 172 2 #[(0, d0Q), (1, e9k)])) a1m fun e9l a2N =>
 keepX [] a1m a2N (opK Tryd.prog E (xCall (Value.func (.func 94) #[] #[]) [e9l]) a2N fun d9Z b3I =>
 keepX [] a2N b3I (opK Tryd.prog E (xCall (Value.func (.func 57) #[] #[]) [d9Z]) b3I fun e0a a3J =>
 keepX [] b3I a3J (R e0a a3J)))))
noncomputable def c66 : Code := Tryd.f66.body.getD .skip
def h66 : Hint := (.seq .none (.seq (.reg [(0, 8, 2), (1, 16, 8), (2, 32, 16), (0, 64, 2), (8, 128, 64), (20, 256, 128), (36, 512, 288), (96, 1024, 512), (128, 2048, 1024), (511, 4, 2048)] [18, 16, 16, 18, 2, 0, 0, 0, 0, 18] (.early 0 (.early 3 (.load 1 (.load 4 (.step 2 (.step 5 (.step 6 (.step 7 (.step 8 (.early 9 .done))))))))))) .none))
theorem e0b (x0 : Value) (w : World) (R : Value → World → Prop) (E : Pan) : F66 x0 w R E = callX Tryd.prog [.tmp 2] c66 h66 [x0] w R E := by kernel_rfl
theorem e0c {x0 : Value} {w : World} {R : Value → World → Prop} {E : Pan} (h : F66 x0 w R E) : Cv Tryd.prog 66 #[x0] w R E := by
 refine g7 (args := [x0]) (c := c66) (h := h66) (rs := [.tmp 2]) Tryd.func66 (by kernel_rfl) (by kernel_rfl) (Nat.le_of_ble_eq_true (by kernel_rfl)) (by kernel_rfl) (by kernel_rfl) (by kernel_rfl) ?_
 rw [← e0b]
 exact h
def c0x (w : World) (R : Value → World → Prop) (_E : Pan) : Prop :=
 ∀ _τ : Fr, (R (Value.bool true) w)
def c8A (x1 x2 x15 x16 x17 : Value) (w : World) (next2 : List Value → World → Prop) (j1 : List Value → World → Prop) (R : Value → World → Prop) (E : Pan) : Prop :=
 opK Tryd.prog E (xBin .lss 3 (.tmp 17) (.tmp 16) x17 x16) w fun a4C k6 =>
 xcond a4C
 (opK Tryd.prog E (xV (Instr.indexAt 28 x15 x17)) k6 fun a8F o2 =>
 opK Tryd.prog E (xV (Instr.loadAt 30 a8F)) o2 fun b3u p5 =>
 opK Tryd.prog E (xV (Instr.alloc 30 true (.tuple #[]))) p5 fun a9T p9 =>
 opK Tryd.prog E (xU (Instr.storeAt 30 a9T b3u)) p9 fun _z_19 o9 =>
 opK Tryd.prog E (xV (Instr.indexAt 28 x1 x17)) o9 fun a8G r7 =>
 opK Tryd.prog E (xV (Instr.loadAt 30 a8G)) r7 fun a8H p8 =>
 opK Tryd.prog E (xV (Instr.alloc 30 true (.tuple #[]))) p8 fun a9U u4 =>
 opK Tryd.prog E (xU (Instr.storeAt 30 a9U a8H)) u4 fun _z_27 u7 =>
 opK Tryd.prog E (xV (Instr.loadAt 30 a9T)) u7 fun a8I o5 =>
 opK Tryd.prog E (xV (Instr.loadAt 30 a9U)) o5 fun a2i y8 =>
 opK Tryd.prog E (xCall x2 [a8I, a2i]) y8 fun b3v v2 =>
 opK Tryd.prog E (xV (Op.unary .not b3v)) v2 fun b3w A7 =>
 xcond b3w
 (R (Value.bool false) A7)
 (opK Tryd.prog E (xBin .add 3 (.tmp 17) (.const (Value.int .i64 1)) x17 (Value.int .i64 1)) A7 fun a8J A9 =>
 next2 [a8J] A9))
 (j1 [] k6)
def F83 (x0 x1 x2 : Value) (w : World) (R : Value → World → Prop) (E : Pan) : Prop :=
 opK Tryd.prog E (xBuiltin .len #[28] 3 [false] [x0]) w fun b1J w_2 =>
 opK Tryd.prog E (xBuiltin .len #[28] 3 [false] [x1]) w_2 fun b1K w_4 =>
 opK Tryd.prog E (xBin .neq 3 (.tmp 11) (.tmp 13) b1J b1K) w_4 fun a7Z w_6 =>
 xcond a7Z
 (R (Value.bool false) w_6)
 (xcut (fun _ w_8 => c0x w_8 R E) fun j1 =>
 opK Tryd.prog E (xBuiltin .len #[28] 3 [false] [x0]) w_6 fun b1L k9 =>
 xloop [17] [(Value.int .i64 0)] k9 fun τ_39 C7 next2 =>
 c8A x1 x2 x0 b1L (τ_39 17) C7 next2 j1 R E)
noncomputable def c83 : Code := Tryd.f83.body.getD .skip
def h83 : Hint := (.seq .none (.seq (.seq .none (.cond (.seq .none .none) .none)) (.cut [] (.seq .none (.block (.loop [17] (.seq .none (.seq (.cond .none .none) (.seq (.block (.seq .none (.seq .none (.seq .none (.cond (.seq .none .none) .none))))) .none)))))) (.seq .none .none))))
theorem e0d (x0 x1 x2 : Value) (w : World) (R : Value → World → Prop) (E : Pan) : F83 x0 x1 x2 w R E = callX Tryd.prog [.tmp 6] c83 h83 [x0, x1, x2] w R E := by kernel_rfl
theorem e0e {x0 x1 x2 : Value} {w : World} {R : Value → World → Prop} {E : Pan} (h : F83 x0 x1 x2 w R E) : Cv Tryd.prog 83 #[x0, x1, x2] w R E := by
 refine g7 (args := [x0, x1, x2]) (c := c83) (h := h83) (rs := [.tmp 6]) Tryd.func83 (by kernel_rfl) (by kernel_rfl) (Nat.le_of_ble_eq_true (by kernel_rfl)) (by kernel_rfl) (by kernel_rfl) (by kernel_rfl) ?_
 rw [← e0d]
 exact h
def F84 (x0 x1 : Value) (w : World) (R : Value → World → Prop) (E : Pan) : Prop :=
 opK Tryd.prog E (xV (Instr.box 30 x0)) w fun J5 w_2 =>
 opK Tryd.prog E (xV (Instr.box 30 x1)) w_2 fun B9 w_4 =>
 opK Tryd.prog E (xV (Instr.fieldAt 30 J5 0)) w_4 fun a5T w_6 =>
 opK Tryd.prog E (xV (Instr.loadAt 3 a5T)) w_6 fun a6S w_8 =>
 opK Tryd.prog E (xV (Instr.fieldAt 30 B9 0)) w_8 fun b5z k9 =>
 opK Tryd.prog E (xV (Instr.loadAt 3 b5z)) k9 fun a5X k6 =>
 opK Tryd.prog E (xBin .eql 3 (.tmp 6) (.tmp 8) a6S a5X) k6 fun U4 o2 =>
 opK Tryd.prog E (gsem (asB U4) true (xV (Instr.fieldAt 30 J5 1))) o2 fun a7t p5 =>
 opK Tryd.prog E (gsem (asB U4) true (xV (Instr.loadAt 2 a7t))) p5 fun a7u p9 =>
 opK Tryd.prog E (gsem (asB U4) true (xV (Instr.fieldAt 30 B9 1))) p9 fun a7v o9 =>
 opK Tryd.prog E (gsem (asB U4) true (xV (Instr.loadAt 2 a7v))) o9 fun a7w r7 =>
 opK Tryd.prog E (gsem (asB U4) true (xBin .eql 2 (.tmp 12) (.tmp 14) a7u a7w)) r7 fun a8K p8 =>
 opK Tryd.prog E (xPick U4 a8K (Value.bool false)) p8 fun T9 u4 =>
 opK Tryd.prog E (gsem (asB T9) true (xV (Instr.fieldAt 30 J5 2))) u4 fun a5Y u7 =>
 opK Tryd.prog E (gsem (asB T9) true (xV (Instr.loadAt 9 a5Y))) u7 fun a4D o5 =>
 opK Tryd.prog E (gsem (asB T9) true (xV (Instr.fieldAt 30 B9 2))) o5 fun a3V y8 =>
 opK Tryd.prog E (gsem (asB T9) true (xV (Instr.loadAt 9 a3V))) y8 fun a8L v2 =>
 opK Tryd.prog E (gsem (asB T9) true (xBin .eql 9 (.tmp 19) (.tmp 21) a4D a8L)) v2 fun a8M A7 =>
 opK Tryd.prog E (xPick T9 a8M (Value.bool false)) A7 fun U0 A9 =>
 opK Tryd.prog E (gsem (asB U0) true (xV (Instr.fieldAt 30 J5 3))) A9 fun b3x C7 =>
 opK Tryd.prog E (gsem (asB U0) true (xV (Instr.loadAt 28 b3x))) C7 fun b3y I9 =>
 opK Tryd.prog E (gsem (asB U0) true (xV (Instr.fieldAt 30 B9 3))) I9 fun b3z I0 =>
 opK Tryd.prog E (gsem (asB U0) true (xV (Instr.loadAt 28 b3z))) I0 fun b3A K3 =>
 opK Tryd.prog E (gsem (asB U0) true (xCall (Value.func (.func 83) #[] #[]) [b3y, b3A, (Value.func (.func 84) #[] #[])])) K3 fun b3B J6 =>
 opK Tryd.prog E (xPick U0 b3B (Value.bool false)) J6 fun a4E J7 =>
 R a4E J7
noncomputable def c84 : Code := Tryd.f84.body.getD .skip
def h84 : Hint := (.seq .none (.seq .none .none))
theorem e0f (x0 x1 : Value) (w : World) (R : Value → World → Prop) (E : Pan) : F84 x0 x1 w R E = callX Tryd.prog [.tmp 4] c84 h84 [x0, x1] w R E := by kernel_rfl
theorem e0g {x0 x1 : Value} {w : World} {R : Value → World → Prop} {E : Pan} (h : F84 x0 x1 w R E) : Cv Tryd.prog 84 #[x0, x1] w R E := by
 refine g7 (args := [x0, x1]) (c := c84) (h := h84) (rs := [.tmp 4]) Tryd.func84 (by kernel_rfl) (by kernel_rfl) (Nat.le_of_ble_eq_true (by kernel_rfl)) (by kernel_rfl) (by kernel_rfl) (by kernel_rfl) ?_
 rw [← e0f]
 exact h
def c0y (w : World) (R : Value → World → Prop) (_E : Pan) : Prop :=
 ∀ _τ : Fr, (R (Value.bool true) w)
def c8B (x1 x2 x15 x16 x17 : Value) (w : World) (next2 : List Value → World → Prop) (j1 : List Value → World → Prop) (R : Value → World → Prop) (E : Pan) : Prop :=
 opK Tryd.prog E (xBin .lss 3 (.tmp 17) (.tmp 16) x17 x16) w fun a4C k6 =>
 xcond a4C
 (opK Tryd.prog E (xV (Instr.indexAt 31 x15 x17)) k6 fun a8F o2 =>
 opK Tryd.prog E (xV (Instr.loadAt 33 a8F)) o2 fun b3u p5 =>
 opK Tryd.prog E (xV (Instr.alloc 33 true (.tuple #[]))) p5 fun a9T p9 =>
 opK Tryd.prog E (xU (Instr.storeAt 33 a9T b3u)) p9 fun _z_19 o9 =>
 opK Tryd.prog E (xV (Instr.indexAt 31 x1 x17)) o9 fun a8G r7 =>
 opK Tryd.prog E (xV (Instr.loadAt 33 a8G)) r7 fun a8H p8 =>
 opK Tryd.prog E (xV (Instr.alloc 33 true (.tuple #[]))) p8 fun a9U u4 =>
 opK Tryd.prog E (xU (Instr.storeAt 33 a9U a8H)) u4 fun _z_27 u7 =>
 opK Tryd.prog E (xV (Instr.loadAt 33 a9T)) u7 fun a8I o5 =>
 opK Tryd.prog E (xV (Instr.loadAt 33 a9U)) o5 fun a2i y8 =>
 opK Tryd.prog E (xCall x2 [a8I, a2i]) y8 fun b3v v2 =>
 opK Tryd.prog E (xV (Op.unary .not b3v)) v2 fun b3w A7 =>
 xcond b3w
 (R (Value.bool false) A7)
 (opK Tryd.prog E (xBin .add 3 (.tmp 17) (.const (Value.int .i64 1)) x17 (Value.int .i64 1)) A7 fun a8J A9 =>
 next2 [a8J] A9))
 (j1 [] k6)
def F85 (x0 x1 x2 : Value) (w : World) (R : Value → World → Prop) (E : Pan) : Prop :=
 opK Tryd.prog E (xBuiltin .len #[31] 3 [false] [x0]) w fun b1J w_2 =>
 opK Tryd.prog E (xBuiltin .len #[31] 3 [false] [x1]) w_2 fun b1K w_4 =>
 opK Tryd.prog E (xBin .neq 3 (.tmp 11) (.tmp 13) b1J b1K) w_4 fun a7Z w_6 =>
 xcond a7Z
 (R (Value.bool false) w_6)
 (xcut (fun _ w_8 => c0y w_8 R E) fun j1 =>
 opK Tryd.prog E (xBuiltin .len #[31] 3 [false] [x0]) w_6 fun b1L k9 =>
 xloop [17] [(Value.int .i64 0)] k9 fun τ_39 C7 next2 =>
 c8B x1 x2 x0 b1L (τ_39 17) C7 next2 j1 R E)
noncomputable def c85 : Code := Tryd.f85.body.getD .skip
def h85 : Hint := (.seq .none (.seq (.seq .none (.cond (.seq .none .none) .none)) (.cut [] (.seq .none (.block (.loop [17] (.seq .none (.seq (.cond .none .none) (.seq (.block (.seq .none (.seq .none (.seq .none (.cond (.seq .none .none) .none))))) .none)))))) (.seq .none .none))))
theorem e0h (x0 x1 x2 : Value) (w : World) (R : Value → World → Prop) (E : Pan) : F85 x0 x1 x2 w R E = callX Tryd.prog [.tmp 6] c85 h85 [x0, x1, x2] w R E := by kernel_rfl
theorem e0i {x0 x1 x2 : Value} {w : World} {R : Value → World → Prop} {E : Pan} (h : F85 x0 x1 x2 w R E) : Cv Tryd.prog 85 #[x0, x1, x2] w R E := by
 refine g7 (args := [x0, x1, x2]) (c := c85) (h := h85) (rs := [.tmp 6]) Tryd.func85 (by kernel_rfl) (by kernel_rfl) (Nat.le_of_ble_eq_true (by kernel_rfl)) (by kernel_rfl) (by kernel_rfl) (by kernel_rfl) ?_
 rw [← e0h]
 exact h
def F86 (x0 x1 : Value) (w : World) (R : Value → World → Prop) (E : Pan) : Prop :=
 opK Tryd.prog E (xV (Instr.box 33 x0)) w fun J5 w_2 =>
 opK Tryd.prog E (xV (Instr.box 33 x1)) w_2 fun B9 w_4 =>
 opK Tryd.prog E (xV (Instr.fieldAt 33 J5 0)) w_4 fun a5T w_6 =>
 opK Tryd.prog E (xV (Instr.loadAt 3 a5T)) w_6 fun a6S w_8 =>
 opK Tryd.prog E (xV (Instr.fieldAt 33 B9 0)) w_8 fun b5z k9 =>
 opK Tryd.prog E (xV (Instr.loadAt 3 b5z)) k9 fun a5X k6 =>
 opK Tryd.prog E (xBin .eql 3 (.tmp 6) (.tmp 8) a6S a5X) k6 fun U4 o2 =>
 opK Tryd.prog E (gsem (asB U4) true (xV (Instr.fieldAt 33 J5 1))) o2 fun a7t p5 =>
 opK Tryd.prog E (gsem (asB U4) true (xV (Instr.loadAt 3 a7t))) p5 fun a7u p9 =>
 opK Tryd.prog E (gsem (asB U4) true (xV (Instr.fieldAt 33 B9 1))) p9 fun a7v o9 =>
 opK Tryd.prog E (gsem (asB U4) true (xV (Instr.loadAt 3 a7v))) o9 fun a7w r7 =>
 opK Tryd.prog E (gsem (asB U4) true (xBin .eql 3 (.tmp 12) (.tmp 14) a7u a7w)) r7 fun a8K p8 =>
 opK Tryd.prog E (xPick U4 a8K (Value.bool false)) p8 fun T9 u4 =>
 opK Tryd.prog E (gsem (asB T9) true (xV (Instr.fieldAt 33 J5 2))) u4 fun a5Y u7 =>
 opK Tryd.prog E (gsem (asB T9) true (xV (Instr.loadAt 28 a5Y))) u7 fun a4D o5 =>
 opK Tryd.prog E (gsem (asB T9) true (xV (Instr.fieldAt 33 B9 2))) o5 fun a3V y8 =>
 opK Tryd.prog E (gsem (asB T9) true (xV (Instr.loadAt 28 a3V))) y8 fun a8L v2 =>
 opK Tryd.prog E (gsem (asB T9) true (xCall (Value.func (.func 83) #[] #[]) [a4D, a8L, (Value.func (.func 84) #[] #[])])) v2 fun a8M A7 =>
 opK Tryd.prog E (xPick T9 a8M (Value.bool false)) A7 fun U0 A9 =>
 opK Tryd.prog E (gsem (asB U0) true (xV (Instr.fieldAt 33 J5 3))) A9 fun b3x C7 =>
 opK Tryd.prog E (gsem (asB U0) true (xV (Instr.loadAt 31 b3x))) C7 fun b3y I9 =>
 opK Tryd.prog E (gsem (asB U0) true (xV (Instr.fieldAt 33 B9 3))) I9 fun b3z I0 =>
 opK Tryd.prog E (gsem (asB U0) true (xV (Instr.loadAt 31 b3z))) I0 fun b3A K3 =>
 opK Tryd.prog E (gsem (asB U0) true (xCall (Value.func (.func 85) #[] #[]) [b3y, b3A, (Value.func (.func 86) #[] #[])])) K3 fun b3B J6 =>
 opK Tryd.prog E (xPick U0 b3B (Value.bool false)) J6 fun a4E J7 =>
 R a4E J7
noncomputable def c86 : Code := Tryd.f86.body.getD .skip
def h86 : Hint := (.seq .none (.seq .none .none))
theorem e0j (x0 x1 : Value) (w : World) (R : Value → World → Prop) (E : Pan) : F86 x0 x1 w R E = callX Tryd.prog [.tmp 4] c86 h86 [x0, x1] w R E := by kernel_rfl
theorem e0k {x0 x1 : Value} {w : World} {R : Value → World → Prop} {E : Pan} (h : F86 x0 x1 w R E) : Cv Tryd.prog 86 #[x0, x1] w R E := by
 refine g7 (args := [x0, x1]) (c := c86) (h := h86) (rs := [.tmp 4]) Tryd.func86 (by kernel_rfl) (by kernel_rfl) (Nat.le_of_ble_eq_true (by kernel_rfl)) (by kernel_rfl) (by kernel_rfl) (by kernel_rfl) ?_
 rw [← e0j]
 exact h
def c0z (w : World) (R : Value → World → Prop) (_E : Pan) : Prop :=
 ∀ _τ : Fr, (R (Value.bool true) w)
def c8C (x2 x3 x6 : Value) (w : World) (next3 : List Value → World → Prop) (j2 : List Value → World → Prop) (R : Value → World → Prop) (E : Pan) : Prop :=
 opK Tryd.prog E (xV (Instr.fieldAt 33 x2 3)) w fun e0l X7 =>
 opK Tryd.prog E (xV (Instr.loadAt 31 e0l)) X7 fun e0m R2 =>
 opK Tryd.prog E (xBuiltin .len #[31] 3 [false] [e0m]) R2 fun e0n U8 =>
 opK Tryd.prog E (xBin .lss 3 (.tmp 56) (.tmp 59) x6 e0n) U8 fun e0o X8 =>
 xcond e0o
 (dX X8 fun b3H =>
 qP Tryd.prog (xV (Instr.fieldAt 33 x2 3)) fun c8D =>
 qP Tryd.prog (xV (Instr.fieldAt 33 x3 3)) fun c8E =>
 qL Tryd.prog b3H (blk c8D) (xV (Instr.loadAt 31 c8D)) fun e0p =>
 qP Tryd.prog (xV (Instr.indexAt 31 e0p x6)) fun c8F =>
 qL Tryd.prog b3H (blk c8F) (xV (Instr.loadAt 33 c8F)) fun e0q =>
 qL Tryd.prog b3H (blk c8E) (xV (Instr.loadAt 31 c8E)) fun e0r =>
 qP Tryd.prog (xV (Instr.indexAt 31 e0r x6)) fun c8G =>
 qL Tryd.prog b3H (blk c8G) (xV (Instr.loadAt 33 c8G)) fun e0s =>
 opK Tryd.prog E (xCall (Value.func (.func 87) #[] #[]) [e0q, e0s]) b3H fun e0t b3J =>
 keepX [] b3H b3J (qP Tryd.prog (xV (Op.unary .not e0t)) fun e0u =>
 xcond e0u
 (R (Value.bool false) b3J)
 (opK Tryd.prog E (xBin .add 3 (.tmp 61) (.const (Value.int .i64 1)) x6 (Value.int .i64 1)) b3J fun e0v a2O =>
 next3 [e0v] a2O)))
 (j2 [] X8)
def c0A (x2 x3 : Value) (w : World) (R : Value → World → Prop) (E : Pan) : Prop :=
 ∀ _τ : Fr, (xcut (fun _ T2 => c0z T2 R E) fun j2 =>
 xloop [6] [(Value.int .i64 0)] w fun τ_83 a3G next3 =>
 c8C x2 x3 (τ_83 6) a3G next3 j2 R E)
def c8H (x2 x3 x5 : Value) (w : World) (next4 : List Value → World → Prop) (j1 : List Value → World → Prop) (R : Value → World → Prop) (E : Pan) : Prop :=
 opK Tryd.prog E (xV (Instr.fieldAt 33 x2 2)) w fun e0w a3H =>
 opK Tryd.prog E (xV (Instr.loadAt 28 e0w)) a3H fun e0x a4S =>
 opK Tryd.prog E (xBuiltin .len #[28] 3 [false] [e0x]) a4S fun e0y a4T =>
 opK Tryd.prog E (xBin .lss 3 (.tmp 37) (.tmp 40) x5 e0y) a4T fun e0z a3I =>
 xcond e0z
 (dX a3I fun b7O =>
 qP Tryd.prog (xV (Instr.fieldAt 33 x2 2)) fun c8I =>
 qP Tryd.prog (xV (Instr.fieldAt 33 x3 2)) fun c8J =>
 qL Tryd.prog b7O (blk c8I) (xV (Instr.loadAt 28 c8I)) fun e0A =>
 qP Tryd.prog (xV (Instr.indexAt 28 e0A x5)) fun c8K =>
 qL Tryd.prog b7O (blk c8K) (xV (Instr.loadAt 30 c8K)) fun d4N =>
 qL Tryd.prog b7O (blk c8J) (xV (Instr.loadAt 28 c8J)) fun d4O =>
 qP Tryd.prog (xV (Instr.indexAt 28 d4O x5)) fun c3U =>
 qL Tryd.prog b7O (blk c3U) (xV (Instr.loadAt 30 c3U)) fun d4P =>
 opK Tryd.prog E (xCall (Value.func (.func 88) #[] #[]) [d4N, d4P]) b7O fun d4Q c4O =>
 keepX [] b7O c4O (qP Tryd.prog (xV (Op.unary .not d4Q)) fun d4R =>
 xcond d4R
 (R (Value.bool false) c4O)
 (opK Tryd.prog E (xBin .add 3 (.tmp 42) (.const (Value.int .i64 1)) x5 (Value.int .i64 1)) c4O fun d4S a6e =>
 next4 [d4S] a6e)))
 (j1 [] a3I)
def F87 (x0 x1 : Value) (w : World) (R : Value → World → Prop) (E : Pan) : Prop :=
 opK Tryd.prog E (xV (Instr.box 33 x0)) w fun J5 w_2 =>
 opK Tryd.prog E (xV (Instr.box 33 x1)) w_2 fun B9 w_4 =>
 opK Tryd.prog E (xV (Instr.fieldAt 33 J5 0)) w_4 fun b5C w_6 =>
 opK Tryd.prog E (xV (Instr.loadAt 3 b5C)) w_6 fun a4V w_8 =>
 opK Tryd.prog E (xV (Instr.fieldAt 33 B9 0)) w_8 fun b0t k9 =>
 opK Tryd.prog E (xV (Instr.loadAt 3 b0t)) k9 fun a8B k6 =>
 opK Tryd.prog E (xBin .neq 3 (.tmp 8) (.tmp 10) a4V a8B) k6 fun a0N o2 =>
 opK Tryd.prog E (gsem (asB a0N) false (xV (Instr.fieldAt 33 J5 1))) o2 fun b1d p5 =>
 opK Tryd.prog E (gsem (asB a0N) false (xV (Instr.loadAt 3 b1d))) p5 fun b6O p9 =>
 opK Tryd.prog E (gsem (asB a0N) false (xV (Instr.fieldAt 33 B9 1))) p9 fun a8C o9 =>
 opK Tryd.prog E (gsem (asB a0N) false (xV (Instr.loadAt 3 a8C))) o9 fun a8D r7 =>
 opK Tryd.prog E (gsem (asB a0N) false (xBin .neq 3 (.tmp 14) (.tmp 16) b6O a8D)) r7 fun b3p p8 =>
 opK Tryd.prog E (xPick a0N (Value.bool true) b3p) p8 fun a3x u4 =>
 opK Tryd.prog E (gsem (asB a3x) false (xV (Instr.fieldAt 33 J5 2))) u4 fun e0B u7 =>
 opK Tryd.prog E (gsem (asB a3x) false (xV (Instr.loadAt 28 e0B))) u7 fun c0B o5 =>
 opK Tryd.prog E (gsem (asB a3x) false (xBuiltin .len #[28] 3 [false] [c0B])) o5 fun c0C y8 =>
 opK Tryd.prog E (gsem (asB a3x) false (xV (Instr.fieldAt 33 B9 2))) y8 fun c0D v2 =>
 opK Tryd.prog E (gsem (asB a3x) false (xV (Instr.loadAt 28 c0D))) v2 fun b3q A7 =>
 opK Tryd.prog E (gsem (asB a3x) false (xBuiltin .len #[28] 3 [false] [b3q])) A7 fun a2M A9 =>
 opK Tryd.prog E (gsem (asB a3x) false (xBin .neq 3 (.tmp 22) (.tmp 25) c0C a2M)) A9 fun b3r C7 =>
 opK Tryd.prog E (xPick a3x (Value.bool true) b3r) C7 fun a3y I9 =>
 opK Tryd.prog E (gsem (asB a3y) false (xV (Instr.fieldAt 33 J5 3))) I9 fun e0C I0 =>
 opK Tryd.prog E (gsem (asB a3y) false (xV (Instr.loadAt 31 e0C))) I0 fun e0D K3 =>
 opK Tryd.prog E (gsem (asB a3y) false (xBuiltin .len #[31] 3 [false] [e0D])) K3 fun e0E J6 =>
 opK Tryd.prog E (gsem (asB a3y) false (xV (Instr.fieldAt 33 B9 3))) J6 fun e0F J7 =>
 opK Tryd.prog E (gsem (asB a3y) false (xV (Instr.loadAt 31 e0F))) J7 fun c0E N4 =>
 opK Tryd.prog E (gsem (asB a3y) false (xBuiltin .len #[31] 3 [false] [c0E])) N4 fun e0G N9 =>
 opK Tryd.prog E (gsem (asB a3y) false (xBin .neq 3 (.tmp 31) (.tmp 34) e0E e0G)) N9 fun c0F R5 =>
 opK Tryd.prog E (xPick a3y (Value.bool true) c0F) R5 fun e0H O0 =>
 xcond e0H
 (R (Value.bool false) O0)
 (xcut (fun _ a4u => c0A J5 B9 a4u R E) fun j1 =>
 xloop [5] [(Value.int .i64 0)] O0 fun τ_109 a8d next4 =>
 c8H J5 B9 (τ_109 5) a8d next4 j1 R E)
noncomputable def c87 : Code := Tryd.f87.body.getD .skip
def h87 : Hint := (.seq .none (.seq (.seq .none (.cond (.seq .none .none) .none)) (.cut [] (.seq .none (.block (.loop [5] (.seq (.seq .none (.cond .none .none)) (.seq (.block (.seq (.reg [(0, 17592186044416, 4), (1, 35184372088832, 17592186044416), (0, 70368744177664, 32), (6, 140737488355328, 105553116266496), (8, 281474976710656, 140737488355328), (0, 562949953421312, 8), (32, 1125899906842624, 562949953421312), (0, 2251799813685248, 32), (192, 4503599627370496, 3377699720527872), (256, 9007199254740992, 4503599627370496), (528, 18014398509481984, 9288674231451648), (1024, 36028797018963968, 18014398509481984)] [594, 592, 594, 594, 578, 594, 530, 594, 594, 82, 0, 594] (.early 0 (.early 2 (.early 5 (.early 7 (.load 1 (.early 3 (.load 4 (.load 6 (.early 8 (.load 9 (.step 10 (.early 11 .done))))))))))))) (.cond (.seq .none .none) .none))) .none))))) (.cut [] (.seq .none (.block (.loop [6] (.seq (.seq .none (.cond .none .none)) (.seq (.block (.seq (.reg [(0, 9223372036854775808, 4), (1, 18446744073709551616, 9223372036854775808), (0, 36893488147419103232, 64), (6, 73786976294838206464, 55340232221128654848), (8, 147573952589676412928, 73786976294838206464), (0, 295147905179352825856, 8), (32, 590295810358705651712, 295147905179352825856), (0, 1180591620717411303424, 64), (192, 2361183241434822606848, 1770887431076116955136), (256, 4722366482869645213696, 2361183241434822606848), (528, 9444732965739290427392, 4869940435459321626624), (1024, 18889465931478580854784, 9444732965739290427392)] [594, 592, 594, 594, 578, 594, 530, 594, 594, 82, 0, 594] (.early 0 (.early 2 (.early 5 (.early 7 (.load 1 (.early 3 (.load 4 (.load 6 (.early 8 (.load 9 (.step 10 (.early 11 .done))))))))))))) (.cond (.seq .none .none) .none))) .none))))) (.seq .none .none)))))
theorem e0I (x0 x1 : Value) (w : World) (R : Value → World → Prop) (E : Pan) : F87 x0 x1 w R E = callX Tryd.prog [.tmp 4] c87 h87 [x0, x1] w R E := by kernel_rfl
theorem e0J {x0 x1 : Value} {w : World} {R : Value → World → Prop} {E : Pan} (h : F87 x0 x1 w R E) : Cv Tryd.prog 87 #[x0, x1] w R E := by
 refine g7 (args := [x0, x1]) (c := c87) (h := h87) (rs := [.tmp 4]) Tryd.func87 (by kernel_rfl) (by kernel_rfl) (Nat.le_of_ble_eq_true (by kernel_rfl)) (by kernel_rfl) (by kernel_rfl) (by kernel_rfl) ?_
 rw [← e0I]
 exact h
def c0G (w : World) (R : Value → World → Prop) (_E : Pan) : Prop :=
 ∀ _τ : Fr, (R (Value.bool true) w)
def c8L (x2 x3 x5 : Value) (w : World) (next2 : List Value → World → Prop) (j1 : List Value → World → Prop) (R : Value → World → Prop) (E : Pan) : Prop :=
 opK Tryd.prog E (xV (Instr.fieldAt 30 x2 3)) w fun b3o O0 =>
 opK Tryd.prog E (xV (Instr.loadAt 28 b3o)) O0 fun b9Y T2 =>
 opK Tryd.prog E (xBuiltin .len #[28] 3 [false] [b9Y]) T2 fun a7x X7 =>
 opK Tryd.prog E (xBin .lss 3 (.tmp 34) (.tmp 37) x5 a7x) X7 fun e0K R2 =>
 xcond e0K
 (dX R2 fun b0s =>
 qP Tryd.prog (xV (Instr.fieldAt 30 x2 3)) fun c8M =>
 qP Tryd.prog (xV (Instr.fieldAt 30 x3 3)) fun c8N =>
 qL Tryd.prog b0s (blk c8M) (xV (Instr.loadAt 28 c8M)) fun e0L =>
 qP Tryd.prog (xV (Instr.indexAt 28 e0L x5)) fun c8O =>
 qL Tryd.prog b0s (blk c8O) (xV (Instr.loadAt 30 c8O)) fun e0M =>
 qL Tryd.prog b0s (blk c8N) (xV (Instr.loadAt 28 c8N)) fun e0N =>
 qP Tryd.prog (xV (Instr.indexAt 28 e0N x5)) fun c8P =>
 qL Tryd.prog b0s (blk c8P) (xV (Instr.loadAt 30 c8P)) fun e0O =>
 opK Tryd.prog E (xCall (Value.func (.func 88) #[] #[]) [e0M, e0O]) b0s fun e0P b3K =>
 keepX [] b0s b3K (qP Tryd.prog (xV (Op.unary .not e0P)) fun e0Q =>
 xcond e0Q
 (R (Value.bool false) b3K)
 (opK Tryd.prog E (xBin .add 3 (.tmp 39) (.const (Value.int .i64 1)) x5 (Value.int .i64 1)) b3K fun e0R a1l =>
 next2 [e0R] a1l)))
 (j1 [] R2)
def F88 (x0 x1 : Value) (w : World) (R : Value → World → Prop) (E : Pan) : Prop :=
 opK Tryd.prog E (xV (Instr.box 30 x0)) w fun J5 w_2 =>
 opK Tryd.prog E (xV (Instr.box 30 x1)) w_2 fun B9 w_4 =>
 opK Tryd.prog E (xV (Instr.fieldAt 30 J5 0)) w_4 fun a5W w_6 =>
 opK Tryd.prog E (xV (Instr.loadAt 3 a5W)) w_6 fun a4Q w_8 =>
 opK Tryd.prog E (xV (Instr.fieldAt 30 B9 0)) w_8 fun a4t k9 =>
 opK Tryd.prog E (xV (Instr.loadAt 3 a4t)) k9 fun a9S k6 =>
 opK Tryd.prog E (xBin .neq 3 (.tmp 7) (.tmp 9) a4Q a9S) k6 fun a1g o2 =>
 opK Tryd.prog E (gsem (asB a1g) false (xV (Instr.fieldAt 30 J5 1))) o2 fun a5U p5 =>
 opK Tryd.prog E (gsem (asB a1g) false (xV (Instr.loadAt 2 a5U))) p5 fun a1h p9 =>
 opK Tryd.prog E (gsem (asB a1g) false (xV (Instr.fieldAt 30 B9 1))) p9 fun a8z o9 =>
 opK Tryd.prog E (gsem (asB a1g) false (xV (Instr.loadAt 2 a8z))) o9 fun a5V r7 =>
 opK Tryd.prog E (gsem (asB a1g) false (xBin .neq 2 (.tmp 13) (.tmp 15) a1h a5V)) r7 fun a8A p8 =>
 opK Tryd.prog E (xPick a1g (Value.bool true) a8A) p8 fun a1F u4 =>
 opK Tryd.prog E (gsem (asB a1F) false (xV (Instr.fieldAt 30 J5 2))) u4 fun a3T u7 =>
 opK Tryd.prog E (gsem (asB a1F) false (xV (Instr.loadAt 9 a3T))) u7 fun b3k o5 =>
 opK Tryd.prog E (gsem (asB a1F) false (xV (Instr.fieldAt 30 B9 2))) o5 fun a7s y8 =>
 opK Tryd.prog E (gsem (asB a1F) false (xV (Instr.loadAt 9 a7s))) y8 fun a1G v2 =>
 opK Tryd.prog E (gsem (asB a1F) false (xBin .neq 9 (.tmp 20) (.tmp 22) b3k a1G)) v2 fun b3l A7 =>
 opK Tryd.prog E (xPick a1F (Value.bool true) b3l) A7 fun a2g A9 =>
 opK Tryd.prog E (gsem (asB a2g) false (xV (Instr.fieldAt 30 J5 3))) A9 fun b3r C7 =>
 opK Tryd.prog E (gsem (asB a2g) false (xV (Instr.loadAt 28 b3r))) C7 fun a3y I9 =>
 opK Tryd.prog E (gsem (asB a2g) false (xBuiltin .len #[28] 3 [false] [a3y])) I9 fun b9S I0 =>
 opK Tryd.prog E (gsem (asB a2g) false (xV (Instr.fieldAt 30 B9 3))) I0 fun b9T K3 =>
 opK Tryd.prog E (gsem (asB a2g) false (xV (Instr.loadAt 28 b9T))) K3 fun b9U J6 =>
 opK Tryd.prog E (gsem (asB a2g) false (xBuiltin .len #[28] 3 [false] [b9U])) J6 fun e0S J7 =>
 opK Tryd.prog E (gsem (asB a2g) false (xBin .neq 3 (.tmp 28) (.tmp 31) b9S e0S)) J7 fun b3m N4 =>
 opK Tryd.prog E (xPick a2g (Value.bool true) b3m) N4 fun b3n N9 =>
 xcond b3n
 (R (Value.bool false) N9)
 (xcut (fun _ R5 => c0G R5 R E) fun j1 =>
 xloop [5] [(Value.int .i64 0)] N9 fun τ_79 a0O next2 =>
 c8L J5 B9 (τ_79 5) a0O next2 j1 R E)
noncomputable def c88 : Code := Tryd.f88.body.getD .skip
def h88 : Hint := (.seq .none (.seq (.seq .none (.cond (.seq .none .none) .none)) (.cut [] (.seq .none (.block (.loop [5] (.seq (.seq .none (.cond .none .none)) (.seq (.block (.seq (.reg [(0, 2199023255552, 4), (1, 4398046511104, 2199023255552), (0, 8796093022208, 32), (6, 17592186044416, 13194139533312), (8, 35184372088832, 17592186044416), (0, 70368744177664, 8), (32, 140737488355328, 70368744177664), (0, 281474976710656, 32), (192, 562949953421312, 422212465065984), (256, 1125899906842624, 562949953421312), (528, 2251799813685248, 1161084278931456), (1024, 4503599627370496, 2251799813685248)] [594, 592, 594, 594, 578, 594, 530, 594, 594, 82, 0, 594] (.early 0 (.early 2 (.early 5 (.early 7 (.load 1 (.early 3 (.load 4 (.load 6 (.early 8 (.load 9 (.step 10 (.early 11 .done))))))))))))) (.cond (.seq .none .none) .none))) .none))))) (.seq .none .none))))
theorem e0T (x0 x1 : Value) (w : World) (R : Value → World → Prop) (E : Pan) : F88 x0 x1 w R E = callX Tryd.prog [.tmp 4] c88 h88 [x0, x1] w R E := by kernel_rfl
theorem e0U {x0 x1 : Value} {w : World} {R : Value → World → Prop} {E : Pan} (h : F88 x0 x1 w R E) : Cv Tryd.prog 88 #[x0, x1] w R E := by
 refine g7 (args := [x0, x1]) (c := c88) (h := h88) (rs := [.tmp 4]) Tryd.func88 (by kernel_rfl) (by kernel_rfl) (Nat.le_of_ble_eq_true (by kernel_rfl)) (by kernel_rfl) (by kernel_rfl) (by kernel_rfl) ?_
 rw [← e0T]
 exact h
def c0H (w : World) (R : Value → World → Prop) (_E : Pan) : Prop :=
 ∀ _τ : Fr, (R (Value.bool true) w)
def c8Q (x1 x2 x3 x9 x10 x11 : Value) (w : World) (next2 : List Value → World → Prop) (j1 : List Value → World → Prop) (R : Value → World → Prop) (E : Pan) : Prop :=
 opK Tryd.prog E (xBin .lss 3 (.tmp 11) (.tmp 10) x11 x10) w fun b6P w_6 =>
 xcond b6P
 (opK Tryd.prog E (xV (Instr.indexAt 97 x9 x11)) w_6 fun b6Q w_8 =>
 opK Tryd.prog E (xV (Instr.loadAt 141 b6Q)) w_8 fun a8e k9 =>
 dX k9 fun a1m =>
 qL Tryd.prog a1m (blk x2) (xV (Instr.loadAt 93 x2)) fun e0V =>
 opK Tryd.prog E (xCall (Value.func (.func 90) #[] #[]) [e0V, a8e, x1]) a1m fun b3L o2 =>
 keepX [] a1m o2 (qP Tryd.prog (xV (Op.unary .not b3L)) fun a4F =>
 qP Tryd.prog (gsem (asB a4F) false (xBin .add 3 (.tmp 24) (.const (Value.int .i64 1)) (gval (asB a4F) false x1) (Value.int .i64 1))) fun e0W =>
 qL Tryd.prog o2 (blk x3) (gsem (asB a4F) false (xV (Instr.loadAt 139 x3))) fun e0X =>
 opK Tryd.prog E (gsem (asB a4F) false (xInvoke (gval (asB a4F) false a8e) "gnomon/tree.parts" [])) o2 fun e0Y a7G =>
 keepX [(blk x3)] o2 a7G (opK Tryd.prog E (gsem (asB a4F) false (xCall e0X [e0Y, e0W])) a7G fun e0Z N5 =>
 keepX [] a7G N5 (qP Tryd.prog (gsem (asB a4F) false (xV (Op.unary .not e0Z))) fun e1a =>
 qP Tryd.prog (xPick a4F (Value.bool true) e1a) fun e1b =>
 xcond e1b
 (R (Value.bool false) N5)
 (opK Tryd.prog E (xBin .add 3 (.tmp 11) (.const (Value.int .i64 1)) x11 (Value.int .i64 1)) N5 fun e1c a8Q =>
 next2 [e1c] a8Q)))))
 (j1 [] w_6)
def F89 (x0 x1 x2 x3 : Value) (w : World) (R : Value → World → Prop) (E : Pan) : Prop :=
 xcut (fun _ w_2 => c0H w_2 R E) fun j1 =>
 opK Tryd.prog E (xBuiltin .len #[97] 3 [false] [x0]) w fun b6L w_4 =>
 xloop [11] [(Value.int .i64 0)] w_4 fun τ_26 a6c next2 =>
 c8Q x1 x2 x3 x0 b6L (τ_26 11) a6c next2 j1 R E
noncomputable def c89 : Code := Tryd.f89.body.getD .skip
def h89 : Hint := (.seq .none (.cut [] (.seq .none (.block (.loop [11] (.seq .none (.seq (.cond .none .none) (.seq (.block (.seq .none (.seq (.reg [(0, 32768, 4), (0, 65536, 256), (0, 131072, 2), (7, 262144, 229376), (8, 524288, 262144), (24, 1048576, 524288), (32, 2097152, 1048584), (32, 4194304, 1048832), (160, 8388608, 5242880), (32, 16777216, 1048578), (544, 33554432, 17825792), (1376, 67108864, 45088768), (2080, 134217728, 68157440), (4128, 268435456, 135266304)] [64, 65, 65, 0, 65, 65, 1, 65, 64, 65, 65, 0, 65, 65] (.early 1 (.early 2 (.load 0 (.step 3 (.early 4 (.early 5 (.early 7 (.early 9 (.early 10 (.load 6 (.step 8 (.step 11 (.early 12 (.early 13 .done))))))))))))))) (.cond (.seq .none .none) .none)))) .none)))))) (.seq .none .none)))
theorem e1d (x0 x1 x2 x3 : Value) (w : World) (R : Value → World → Prop) (E : Pan) : F89 x0 x1 x2 x3 w R E = callX Tryd.prog [.tmp 6] c89 h89 [x0, x1, x2, x3] w R E := by kernel_rfl
theorem e1e {x0 x1 x2 x3 : Value} {w : World} {R : Value → World → Prop} {E : Pan} (h : F89 x0 x1 x2 x3 w R E) : Cv Tryd.prog 89 #[x0, x1, x2, x3] w R E := by
 refine g7 (args := [x0, x1, x2, x3]) (c := c89) (h := h89) (rs := [.tmp 6]) Tryd.func89 (by kernel_rfl) (by kernel_rfl) (Nat.le_of_ble_eq_true (by kernel_rfl)) (by kernel_rfl) (by kernel_rfl) (by kernel_rfl) ?_
 rw [← e1d]
 exact h
def c0I (w : World) (R : Value → World → Prop) (_E : Pan) : Prop :=
 ∀ _τ : Fr, (R (Value.bool true) w)
def F90 (x0 x1 x2 : Value) (w : World) (R : Value → World → Prop) (E : Pan) : Prop :=
 opK Tryd.prog E (xNil x0) w fun b9l w_2 =>
 opK Tryd.prog E (xV (Instr.fieldAt 92 b9l 0)) w_2 fun e9m w_4 =>
 opK Tryd.prog E (xV (Instr.loadAt 3 e9m)) w_4 fun b6P w_6 =>
 opK Tryd.prog E (xBin .add 3 (.tmp 12) (.const (Value.int .i64 1)) b6P (Value.int .i64 1)) w_6 fun b6Q w_8 =>
 opK Tryd.prog E (xNil x0) w_8 fun a8e k9 =>
 opK Tryd.prog E (xV (Instr.fieldAt 92 a8e 0)) k9 fun b3M k6 =>
 opK Tryd.prog E (xU (Instr.storeAt 3 b3M b6Q)) k6 fun _z_13 o2 =>
 opK Tryd.prog E (xNil x0) o2 fun c0J p5 =>
 opK Tryd.prog E (xV (Instr.fieldAt 92 c0J 0)) p5 fun c0K p9 =>
 opK Tryd.prog E (xV (Instr.loadAt 3 c0K)) p9 fun c0L o9 =>
 opK Tryd.prog E (xBin .gtr 3 (.tmp 19) (.const (Value.int .i64 4096)) c0L (Value.int .i64 4096)) o9 fun a8R r7 =>
 xcond a8R
 (opK Tryd.prog E (xNil x0) r7 fun c0q p8 =>
 opK Tryd.prog E (xV (Instr.fieldAt 92 c0q 2)) p8 fun e1f u4 =>
 opK Tryd.prog E (xU (Instr.storeAt 34 e1f (Value.int .i64 33))) u4 fun _z_27 u7 =>
 R (Value.bool false) u7)
 (opK Tryd.prog E (xBin .gtr 3 (.tmp 24) (.const (Value.int .i64 64)) x2 (Value.int .i64 64)) r7 fun e1g o5 =>
 xcond e1g
 (opK Tryd.prog E (xNil x0) o5 fun e1h y8 =>
 opK Tryd.prog E (xV (Instr.fieldAt 92 e1h 2)) y8 fun e1i v2 =>
 opK Tryd.prog E (xU (Instr.storeAt 34 e1i (Value.int .i64 32))) v2 fun _z_35 A7 =>
 R (Value.bool false) A7)
 (opK Tryd.prog E (xNil x0) o5 fun a8J A9 =>
 opK Tryd.prog E (xV (Instr.fieldAt 92 a8J 1)) A9 fun e1j C7 =>
 opK Tryd.prog E (xV (Instr.loadAt 3 e1j)) C7 fun e1k I9 =>
 opK Tryd.prog E (xBuiltin .max #[3, 3] 3 [false, false] [e1k, x2]) I9 fun e1l I0 =>
 opK Tryd.prog E (xNil x0) I0 fun e1m K3 =>
 opK Tryd.prog E (xV (Instr.fieldAt 92 e1m 1)) K3 fun e1n J6 =>
 opK Tryd.prog E (xU (Instr.storeAt 3 e1n e1l)) J6 fun _z_49 J7 =>
 opK Tryd.prog E (xNil x0) J7 fun e1o N4 =>
 opK Tryd.prog E (xV (Instr.fieldAt 92 e1o 3)) N4 fun e1p N9 =>
 opK Tryd.prog E (xV (Instr.loadAt 4 e1p)) N9 fun b6R R5 =>
 opK Tryd.prog E (gsem (asB b6R) false (xInvoke (gval (asB b6R) false x1) "gnomon/tree.form" [])) R5 fun e1q O0 =>
 opK Tryd.prog E (gsem (asB b6R) false (xV (Op.unary .not e1q))) O0 fun e1r T2 =>
 opK Tryd.prog E (xPick b6R (Value.bool true) e1r) T2 fun e1s X7 =>
 opK Tryd.prog E (xNil x0) X7 fun e1t R2 =>
 opK Tryd.prog E (xV (Instr.fieldAt 92 e1t 3)) R2 fun e1u U8 =>
 opK Tryd.prog E (xU (Instr.storeAt 4 e1u e1s)) U8 fun _z_67 X8 =>
 xcut (fun _ W5 => c0I W5 R E) fun j1 =>
 opK Tryd.prog E (xCall (Value.func (.func 114) #[] #[]) [x1]) X8 fun c8R Z5 =>
 opK Tryd.prog E (xV (Instr.extract c8R 0)) Z5 fun b3N a0Z =>
 opK Tryd.prog E (xV (Instr.extract c8R 1)) a0Z fun e1v a1b =>
 xcond e1v
 (opK Tryd.prog E (xNil x0) a1b fun e1w a1l =>
 opK Tryd.prog E (xV (Instr.fieldAt 92 e1w 4)) a1l fun e1x a0O =>
 opK Tryd.prog E (xV (Instr.loadAt 4 e1x)) a0O fun a8S a2O =>
 opK Tryd.prog E (gsem (asB a8S) false (xCall (Value.func (.func 115) #[] #[]) [(gval (asB a8S) false b3N)])) a2O fun e1y a3G =>
 opK Tryd.prog E (gsem (asB a8S) false (xV (Op.unary .not e1y))) a3G fun e1z a4u =>
 opK Tryd.prog E (xPick a8S (Value.bool true) e1z) a4u fun e1A a3H =>
 opK Tryd.prog E (xNil x0) a3H fun e1B a4S =>
 opK Tryd.prog E (xV (Instr.fieldAt 92 e1B 4)) a4S fun e1C a4T =>
 opK Tryd.prog E (xU (Instr.storeAt 4 e1C e1A)) a4T fun _z_93 a3I =>
 opK Tryd.prog E (xNil x0) a3I fun e1D a4v =>
 opK Tryd.prog E (xV (Instr.fieldAt 92 e1D 5)) a4v fun e1E a4U =>
 opK Tryd.prog E (xV (Instr.loadAt 47 e1E)) a4U fun e1F a2X =>
 opK Tryd.prog E (xCall (Value.func (.func 116) #[] #[]) [e1F, b3N]) a2X fun d4T a3O =>
 opK Tryd.prog E (xV (Op.unary .not d4T)) a3O fun d4U a4K =>
 xcond d4U
 (opK Tryd.prog E (xNil x0) a4K fun d4V a4L =>
 opK Tryd.prog E (xV (Instr.fieldAt 92 d4V 5)) a4L fun d4W a6e =>
 opK Tryd.prog E (xV (Instr.loadAt 47 d4W)) a6e fun d4X a8d =>
 opK Tryd.prog E (xV (Instr.buildSlice 47 1 #[(0, b3N)])) a8d fun d4Y b1Q =>
 opK Tryd.prog E (xBuiltin .append #[47, 47] 47 [false, false] [d4X, d4Y]) b1Q fun d4Z b1R =>
 opK Tryd.prog E (xNil x0) b1R fun d5a b1S =>
 opK Tryd.prog E (xV (Instr.fieldAt 92 d5a 5)) b1S fun d5b b1T =>
 opK Tryd.prog E (xU (Instr.storeAt 47 d5b d4Z)) b1T fun _z_119 a8a =>
 j1 [] a8a)
 (j1 [] a4K))
 (j1 [] a1b)))
noncomputable def c90 : Code := Tryd.f90.body.getD .skip
def h90 : Hint := (.seq .none (.seq (.seq .none (.seq .none (.cond (.seq .none (.seq .none .none)) .none))) (.seq (.seq .none (.cond (.seq .none (.seq .none .none)) .none)) (.seq .none (.seq .none (.cut [] (.seq .none (.seq .none (.cond (.seq .none (.seq .none (.cond .none .none))) .none))) (.seq .none .none)))))))
theorem e1G (x0 x1 x2 : Value) (w : World) (R : Value → World → Prop) (E : Pan) : F90 x0 x1 x2 w R E = callX Tryd.prog [.tmp 6] c90 h90 [x0, x1, x2] w R E := by kernel_rfl
theorem e1H {x0 x1 x2 : Value} {w : World} {R : Value → World → Prop} {E : Pan} (h : F90 x0 x1 x2 w R E) : Cv Tryd.prog 90 #[x0, x1, x2] w R E := by
 refine g7 (args := [x0, x1, x2]) (c := c90) (h := h90) (rs := [.tmp 6]) Tryd.func90 (by kernel_rfl) (by kernel_rfl) (Nat.le_of_ble_eq_true (by kernel_rfl)) (by kernel_rfl) (by kernel_rfl) (by kernel_rfl) ?_
 rw [← e1G]
 exact h
def F91 (x0 x1 : Value) (w : World) (R : Value → World → Prop) (E : Pan) : Prop :=
 opK Tryd.prog E (xNil x0) w fun b0q w_2 =>
 opK Tryd.prog E (xV (Instr.fieldAt 99 b0q 2)) w_2 fun a6T w_4 =>
 opK Tryd.prog E (xV (Instr.loadAt 3 a6T)) w_4 fun c4P w_6 =>
 opK Tryd.prog E (xBin .neq 3 (.tmp 8) (.const (Value.int .i64 0)) c4P (Value.int .i64 0)) w_6 fun d0R w_8 =>
 xcond d0R
 (R (Value.bool false) w_8)
 (opK Tryd.prog E (xNil x0) w_8 fun c4Q k9 =>
 opK Tryd.prog E (xV (Instr.fieldAt 99 c4Q 0)) k9 fun c0M k6 =>
 opK Tryd.prog E (xV (Instr.loadAt 3 c0M)) k6 fun e1I o2 =>
 opK Tryd.prog E (xBin .eql 3 (.tmp 13) (.const (Value.int .i64 4096)) e1I (Value.int .i64 4096)) o2 fun c0N p5 =>
 xcond c0N
 (opK Tryd.prog E (xNil x0) p5 fun c0O p9 =>
 opK Tryd.prog E (xV (Instr.fieldAt 99 c0O 2)) p9 fun c0P o9 =>
 opK Tryd.prog E (xU (Instr.storeAt 3 c0P (Value.int .i64 33))) o9 fun _z_21 r7 =>
 R (Value.bool false) r7)
 (opK Tryd.prog E (xBin .gtr 3 (.tmp 18) (.const (Value.int .i64 64)) x1 (Value.int .i64 64)) p5 fun c0Q p8 =>
 xcond c0Q
 (opK Tryd.prog E (xNil x0) p8 fun c0R u4 =>
 opK Tryd.prog E (xV (Instr.fieldAt 99 c0R 2)) u4 fun a8T u7 =>
 opK Tryd.prog E (xU (Instr.storeAt 3 a8T (Value.int .i64 32))) u7 fun _z_29 o5 =>
 R (Value.bool false) o5)
 (opK Tryd.prog E (xNil x0) p8 fun e1J y8 =>
 opK Tryd.prog E (xV (Instr.fieldAt 99 e1J 0)) y8 fun e1K v2 =>
 opK Tryd.prog E (xV (Instr.loadAt 3 e1K)) v2 fun e1L A7 =>
 opK Tryd.prog E (xBin .add 3 (.tmp 26) (.const (Value.int .i64 1)) e1L (Value.int .i64 1)) A7 fun c0S A9 =>
 opK Tryd.prog E (xNil x0) A9 fun a8U C7 =>
 opK Tryd.prog E (xV (Instr.fieldAt 99 a8U 0)) C7 fun e1M I9 =>
 opK Tryd.prog E (xU (Instr.storeAt 3 e1M c0S)) I9 fun _z_43 I0 =>
 opK Tryd.prog E (xNil x0) I0 fun b3O K3 =>
 opK Tryd.prog E (xV (Instr.fieldAt 99 b3O 1)) K3 fun b3P J6 =>
 opK Tryd.prog E (xV (Instr.loadAt 3 b3P)) J6 fun b3Q J7 =>
 opK Tryd.prog E (xBuiltin .max #[3, 3] 3 [false, false] [b3Q, x1]) J7 fun e1N N4 =>
 opK Tryd.prog E (xNil x0) N4 fun e1O N9 =>
 opK Tryd.prog E (xV (Instr.fieldAt 99 e1O 1)) N9 fun e1P R5 =>
 opK Tryd.prog E (xU (Instr.storeAt 3 e1P e1N)) R5 fun _z_57 O0 =>
 R (Value.bool true) O0)))
noncomputable def c91 : Code := Tryd.f91.body.getD .skip
def h91 : Hint := (.seq .none (.seq (.seq .none (.cond (.seq .none .none) .none)) (.seq (.seq .none (.cond (.seq .none (.seq .none .none)) .none)) (.seq (.seq .none (.cond (.seq .none (.seq .none .none)) .none)) (.seq .none (.seq .none (.seq .none .none)))))))
theorem e1Q (x0 x1 : Value) (w : World) (R : Value → World → Prop) (E : Pan) : F91 x0 x1 w R E = callX Tryd.prog [.tmp 4] c91 h91 [x0, x1] w R E := by kernel_rfl
theorem e1R {x0 x1 : Value} {w : World} {R : Value → World → Prop} {E : Pan} (h : F91 x0 x1 w R E) : Cv Tryd.prog 91 #[x0, x1] w R E := by
 refine g7 (args := [x0, x1]) (c := c91) (h := h91) (rs := [.tmp 4]) Tryd.func91 (by kernel_rfl) (by kernel_rfl) (Nat.le_of_ble_eq_true (by kernel_rfl)) (by kernel_rfl) (by kernel_rfl) (by kernel_rfl) ?_
 rw [← e1Q]
 exact h
def c8S (x0 x2 x4 x9 : Value) (w : World) (next4 : List Value → World → Prop) (R : Value → World → Prop) (E : Pan) : Prop :=
 opK Tryd.prog E (xV (Instr.fieldAt 88 x4 5)) w fun e9n w_8 =>
 opK Tryd.prog E (xV (Instr.loadAt 23 e9n)) w_8 fun e9o k9 =>
 opK Tryd.prog E (xBuiltin .len #[23] 3 [false] [e9o]) k9 fun e1S k6 =>
 opK Tryd.prog E (xBin .lss 3 (.tmp 83) (.tmp 86) x9 e1S) k6 fun b1e o2 =>
 opK Tryd.prog E (gsem (asB b1e) true (xNil (gval (asB b1e) true x0))) o2 fun e1T p5 =>
 opK Tryd.prog E (gsem (asB b1e) true (xV (Instr.fieldAt 99 e1T 2))) p5 fun e1U p9 =>
 opK Tryd.prog E (gsem (asB b1e) true (xV (Instr.loadAt 3 e1U))) p9 fun e1V o9 =>
 opK Tryd.prog E (gsem (asB b1e) true (xBin .eql 3 (.tmp 92) (.const (Value.int .i64 0)) e1V (Value.int .i64 0))) o9 fun e1W r7 =>
 opK Tryd.prog E (xPick b1e e1W (Value.bool false)) r7 fun e1X p8 =>
 xcond e1X
 (opK Tryd.prog E (xV (Instr.fieldAt 88 x4 5)) p8 fun e1Y u4 =>
 opK Tryd.prog E (xV (Instr.loadAt 23 e1Y)) u4 fun e1Z u7 =>
 opK Tryd.prog E (xV (Instr.indexAt 23 e1Z x9)) u7 fun d5c o5 =>
 opK Tryd.prog E (xV (Instr.loadAt 88 d5c)) o5 fun d5d y8 =>
 opK Tryd.prog E (xBin .add 3 (.tmp 103) (.const (Value.int .i64 1)) x2 (Value.int .i64 1)) y8 fun d5e v2 =>
 opK Tryd.prog E (xCall (Value.func (.func 92) #[] #[]) [x0, d5d, d5e]) v2 fun _t105_35 A7 =>
 opK Tryd.prog E (xBin .add 3 (.tmp 95) (.const (Value.int .i64 1)) x9 (Value.int .i64 1)) A7 fun e2a A9 =>
 next4 [e2a] A9)
 (R (Value.tuple #[]) p8)
def c0T (x0 x2 x4 : Value) (w : World) (R : Value → World → Prop) (E : Pan) : Prop :=
 ∀ _τ : Fr, (xloop [9] [(Value.int .i64 0)] w fun τ_39 C7 next4 =>
 c8S x0 x2 x4 (τ_39 9) C7 next4 R E)
def c8T (x0 x2 x4 x8 : Value) (w : World) (next5 : List Value → World → Prop) (j3 : List Value → World → Prop) (_R : Value → World → Prop) (E : Pan) : Prop :=
 opK Tryd.prog E (xV (Instr.fieldAt 88 x4 4)) w fun e2b I0 =>
 opK Tryd.prog E (xV (Instr.loadAt 23 e2b)) I0 fun e2c K3 =>
 opK Tryd.prog E (xBuiltin .len #[23] 3 [false] [e2c]) K3 fun e2d J6 =>
 opK Tryd.prog E (xBin .lss 3 (.tmp 60) (.tmp 63) x8 e2d) J6 fun b1f J7 =>
 opK Tryd.prog E (gsem (asB b1f) true (xNil (gval (asB b1f) true x0))) J7 fun e2e N4 =>
 opK Tryd.prog E (gsem (asB b1f) true (xV (Instr.fieldAt 99 e2e 2))) N4 fun e2f N9 =>
 opK Tryd.prog E (gsem (asB b1f) true (xV (Instr.loadAt 3 e2f))) N9 fun e2g R5 =>
 opK Tryd.prog E (gsem (asB b1f) true (xBin .eql 3 (.tmp 69) (.const (Value.int .i64 0)) e2g (Value.int .i64 0))) R5 fun e2h O0 =>
 opK Tryd.prog E (xPick b1f e2h (Value.bool false)) O0 fun e2i T2 =>
 xcond e2i
 (opK Tryd.prog E (xV (Instr.fieldAt 88 x4 4)) T2 fun e2j X7 =>
 opK Tryd.prog E (xV (Instr.loadAt 23 e2j)) X7 fun e2k R2 =>
 opK Tryd.prog E (xV (Instr.indexAt 23 e2k x8)) R2 fun e2l U8 =>
 opK Tryd.prog E (xV (Instr.loadAt 88 e2l)) U8 fun e2m X8 =>
 opK Tryd.prog E (xBin .add 3 (.tmp 80) (.const (Value.int .i64 1)) x2 (Value.int .i64 1)) X8 fun e2n W5 =>
 opK Tryd.prog E (xCall (Value.func (.func 92) #[] #[]) [x0, e2m, e2n]) W5 fun _t82_71 Z5 =>
 opK Tryd.prog E (xBin .add 3 (.tmp 72) (.const (Value.int .i64 1)) x8 (Value.int .i64 1)) Z5 fun e2o a0Z =>
 next5 [e2o] a0Z)
 (j3 [] T2)
def c0U (x0 x2 x4 : Value) (w : World) (R : Value → World → Prop) (E : Pan) : Prop :=
 ∀ _τ : Fr, (xcut (fun _ I9 => c0T x0 x2 x4 I9 R E) fun j3 =>
 xloop [8] [(Value.int .i64 0)] w fun τ_75 a1b next5 =>
 c8T x0 x2 x4 (τ_75 8) a1b next5 j3 R E)
def c8U (x0 x2 x4 x7 : Value) (w : World) (next6 : List Value → World → Prop) (j2 : List Value → World → Prop) (_R : Value → World → Prop) (E : Pan) : Prop :=
 opK Tryd.prog E (xV (Instr.fieldAt 88 x4 2)) w fun e2p a0O =>
 opK Tryd.prog E (xV (Instr.loadAt 28 e2p)) a0O fun e2q a2O =>
 opK Tryd.prog E (xBuiltin .len #[28] 3 [false] [e2q]) a2O fun e2r a3G =>
 opK Tryd.prog E (xBin .lss 3 (.tmp 37) (.tmp 40) x7 e2r) a3G fun b1g a4u =>
 opK Tryd.prog E (gsem (asB b1g) true (xNil (gval (asB b1g) true x0))) a4u fun e2s a3H =>
 opK Tryd.prog E (gsem (asB b1g) true (xV (Instr.fieldAt 99 e2s 2))) a3H fun e2t a4S =>
 opK Tryd.prog E (gsem (asB b1g) true (xV (Instr.loadAt 3 e2t))) a4S fun e2u a4T =>
 opK Tryd.prog E (gsem (asB b1g) true (xBin .eql 3 (.tmp 46) (.const (Value.int .i64 0)) e2u (Value.int .i64 0))) a4T fun e2v a3I =>
 opK Tryd.prog E (xPick b1g e2v (Value.bool false)) a3I fun e2w a4v =>
 xcond e2w
 (opK Tryd.prog E (xV (Instr.fieldAt 88 x4 2)) a4v fun c0V a4U =>
 opK Tryd.prog E (xV (Instr.loadAt 28 c0V)) a4U fun e2x a2X =>
 opK Tryd.prog E (xV (Instr.indexAt 28 e2x x7)) a2X fun d5f a3O =>
 opK Tryd.prog E (xV (Instr.loadAt 30 d5f)) a3O fun d5g a4K =>
 opK Tryd.prog E (xBin .add 3 (.tmp 57) (.const (Value.int .i64 1)) x2 (Value.int .i64 1)) a4K fun d5h a4L =>
 opK Tryd.prog E (xCall (Value.func (.func 58) #[] #[]) [x0, d5g, d5h]) a4L fun _t59_107 a6e =>
 opK Tryd.prog E (xBin .add 3 (.tmp 49) (.const (Value.int .i64 1)) x7 (Value.int .i64 1)) a6e fun d5i a8d =>
 next6 [d5i] a8d)
 (j2 [] a4v)
def c0W (x0 x2 x4 : Value) (w : World) (R : Value → World → Prop) (E : Pan) : Prop :=
 ∀ _τ : Fr, (xcut (fun _ a1l => c0U x0 x2 x4 a1l R E) fun j2 =>
 xloop [7] [(Value.int .i64 0)] w fun τ_111 b1Q next6 =>
 c8U x0 x2 x4 (τ_111 7) b1Q next6 j2 R E)
def c8V (x0 x2 x4 x6 : Value) (w : World) (next7 : List Value → World → Prop) (j1 : List Value → World → Prop) (_R : Value → World → Prop) (E : Pan) : Prop :=
 opK Tryd.prog E (xV (Instr.fieldAt 88 x4 3)) w fun d5j b1S =>
 opK Tryd.prog E (xV (Instr.loadAt 31 d5j)) b1S fun d5k b1T =>
 opK Tryd.prog E (xBuiltin .len #[31] 3 [false] [d5k]) b1T fun d5l a8a =>
 opK Tryd.prog E (xBin .lss 3 (.tmp 14) (.tmp 17) x6 d5l) a8a fun a8p b1M =>
 opK Tryd.prog E (gsem (asB a8p) true (xNil (gval (asB a8p) true x0))) b1M fun d5m b1P =>
 opK Tryd.prog E (gsem (asB a8p) true (xV (Instr.fieldAt 99 d5m 2))) b1P fun d5n a8b =>
 opK Tryd.prog E (gsem (asB a8p) true (xV (Instr.loadAt 3 d5n))) a8b fun d5o b1N =>
 opK Tryd.prog E (gsem (asB a8p) true (xBin .eql 3 (.tmp 23) (.const (Value.int .i64 0)) d5o (Value.int .i64 0))) b1N fun d5p b1O =>
 opK Tryd.prog E (xPick a8p d5p (Value.bool false)) b1O fun d5q a9V =>
 xcond d5q
 (opK Tryd.prog E (xV (Instr.fieldAt 88 x4 3)) a9V fun d5r b9m =>
 opK Tryd.prog E (xV (Instr.loadAt 31 d5r)) b9m fun d5s c4R =>
 opK Tryd.prog E (xV (Instr.indexAt 31 d5s x6)) c4R fun d5t b9n =>
 opK Tryd.prog E (xV (Instr.loadAt 33 d5t)) b9n fun d5u c4S =>
 opK Tryd.prog E (xBin .add 3 (.tmp 34) (.const (Value.int .i64 1)) x2 (Value.int .i64 1)) c4S fun d5v c4T =>
 opK Tryd.prog E (xCall (Value.func (.func 61) #[] #[]) [x0, d5u, d5v]) c4T fun _t36_143 b6S =>
 opK Tryd.prog E (xBin .add 3 (.tmp 26) (.const (Value.int .i64 1)) x6 (Value.int .i64 1)) b6S fun d5w b6E =>
 next7 [d5w] b6E)
 (j1 [] a9V)
def F92 (x0 x1 x2 : Value) (w : World) (R : Value → World → Prop) (E : Pan) : Prop :=
 opK Tryd.prog E (xV (Instr.box 88 x1)) w fun a2Y w_2 =>
 opK Tryd.prog E (xCall (Value.func (.func 91) #[] #[]) [x0, x2]) w_2 fun c4U w_4 =>
 opK Tryd.prog E (xV (Op.unary .not c4U)) w_4 fun b9o w_6 =>
 xcond b9o
 (R (Value.tuple #[]) w_6)
 (xcut (fun _ b1R => c0W x0 x2 a2Y b1R R E) fun j1 =>
 xloop [6] [(Value.int .i64 0)] w_6 fun τ_147 b6F next7 =>
 c8V x0 x2 a2Y (τ_147 6) b6F next7 j1 R E)
noncomputable def c92 : Code := Tryd.f92.body.getD .skip
def h92 : Hint := (.seq .none (.seq (.seq .none (.cond .none .none)) (.cut [] (.seq .none (.block (.loop [6] (.seq (.seq .none (.cond .none .none)) (.seq (.block .none) .none))))) (.cut [] (.seq .none (.block (.loop [7] (.seq (.seq .none (.cond .none .none)) (.seq (.block .none) .none))))) (.cut [] (.seq .none (.block (.loop [8] (.seq (.seq .none (.cond .none .none)) (.seq (.block .none) .none))))) (.seq .none (.block (.loop [9] (.seq (.seq .none (.cond .none .none)) (.seq (.block .none) .none))))))))))
theorem e2y (x0 x1 x2 : Value) (w : World) (R : Value → World → Prop) (E : Pan) : F92 x0 x1 x2 w R E = callX Tryd.prog [] c92 h92 [x0, x1, x2] w R E := by kernel_rfl
theorem e2z {x0 x1 x2 : Value} {w : World} {R : Value → World → Prop} {E : Pan} (h : F92 x0 x1 x2 w R E) : Cv Tryd.prog 92 #[x0, x1, x2] w R E := by
 refine g7 (args := [x0, x1, x2]) (c := c92) (h := h92) (rs := []) Tryd.func92 (by kernel_rfl) (by kernel_rfl) (Nat.le_of_ble_eq_true (by kernel_rfl)) (by kernel_rfl) (by kernel_rfl) (by kernel_rfl) ?_
 rw [← e2y]
 exact h
def c0X (x6 : Value) (w : World) (R : Value → World → Prop) (_E : Pan) : Prop :=
 ∀ _τ : Fr, (R x6 w)
def c8W (x6 x25 x26 x27 : Value) (w : World) (next3 : List Value → World → Prop) (j2 : List Value → World → Prop) (_R : Value → World → Prop) (E : Pan) : Prop :=
 opK Tryd.prog E (xBin .lss 3 (.tmp 27) (.tmp 26) x27 x26) w fun e9p w_8 =>
 xcond e9p
 (opK Tryd.prog E (xV (Instr.indexAt 172 x25 x27)) w_8 fun e9q k9 =>
 opK Tryd.prog E (xV (Instr.loadAt 97 e9q)) k9 fun e2A k6 =>
 opK Tryd.prog E (xBuiltin .append #[97, 97] 97 [false, false] [x6, e2A]) k6 fun e2B o2 =>
 opK Tryd.prog E (xBin .add 3 (.tmp 27) (.const (Value.int .i64 1)) x27 (Value.int .i64 1)) o2 fun e2C p5 =>
 next3 [e2B, e2C] p5)
 (j2 [x6] w_8)
def c0Y (x0 x3 : Value) (w : World) (R : Value → World → Prop) (E : Pan) : Prop :=
 ∀ _τ : Fr, (opK Tryd.prog E (xCall (Value.func (.func 120) #[] #[]) [(Value.slice none 0 0), x3]) w fun e9r w_2 =>
 xcut (fun l_3 w_4 => c0X (nth l_3 0) w_4 R E) fun j2 =>
 opK Tryd.prog E (xBuiltin .len #[172] 3 [false] [x0]) w_2 fun e9s w_6 =>
 xloop [6, 27] [e9r, (Value.int .i64 0)] w_6 fun τ_17 p9 next3 =>
 c8W (τ_17 6) x0 e9s (τ_17 27) p9 next3 j2 R E)
def c0Z (_x0 x3 _x9 _x10 x11 : Value) (w : World) (next4 : List Value → World → Prop) (_R : Value → World → Prop) (E : Pan) : Prop :=
 ∀ _τ : Fr, (opK Tryd.prog E (xBin .add 3 (.tmp 11) (.const (Value.int .i64 1)) x11 (Value.int .i64 1)) w fun c1a u4 =>
 next4 [x3, c1a] u4)
def c8X (x0 x3 x9 x10 x11 : Value) (w : World) (next4 : List Value → World → Prop) (j1 : List Value → World → Prop) (R : Value → World → Prop) (E : Pan) : Prop :=
 opK Tryd.prog E (xBin .lss 3 (.tmp 11) (.tmp 10) x11 x10) w fun e2D p8 =>
 xcond e2D
 (xcut (fun a3W u7 => c0Z x0 (nth a3W 0) x9 x10 x11 u7 next4 R E) fun j5 =>
 opK Tryd.prog E (xV (Instr.indexAt 172 x9 x11)) p8 fun e2E o5 =>
 opK Tryd.prog E (xV (Instr.loadAt 97 e2E)) o5 fun e2F y8 =>
 opK Tryd.prog E (xBuiltin .len #[97] 3 [false] [e2F]) y8 fun c1b v2 =>
 opK Tryd.prog E (xBin .add 3 (.tmp 15) (.tmp 17) x3 c1b) v2 fun b3R A7 =>
 opK Tryd.prog E (xBin .lss 3 (.tmp 19) (.const (Value.int .i64 0)) b3R (Value.int .i64 0)) A7 fun e2G A9 =>
 xcond e2G
 (opK Tryd.prog E (xV (Instr.makeInterface 9 (Value.string ⟨#[108, 101, 110, 32, 111, 117, 116, 32, 111, 102, 32, 114, 97, 110, 103, 101]⟩))) A9 fun e2H C7 =>
 opK Tryd.prog E (xV (Instr.panic e2H)) C7 fun _z_41 I9 =>
 j5 [b3R] I9)
 (j5 [b3R] A9))
 (j1 [x3] p8)
def F94 (x0 : Value) (w : World) (R : Value → World → Prop) (E : Pan) : Prop :=
 xcut (fun f2z o9 => c0Y x0 (nth f2z 0) o9 R E) fun j1 =>
 opK Tryd.prog E (xBuiltin .len #[172] 3 [false] [x0]) w fun e2I r7 =>
 xloop [3, 11] [(Value.int .i64 0), (Value.int .i64 0)] r7 fun τ_43 I0 next4 =>
 c8X x0 (τ_43 3) x0 e2I (τ_43 11) I0 next4 j1 R E
noncomputable def c94 : Code := Tryd.f94.body.getD .skip
def h94 : Hint := (.seq .none (.seq .none (.cut [3] (.seq .none (.block (.loop [3, 11] (.seq .none (.seq (.cond .none .none) (.cut [3] (.block (.seq .none (.seq .none (.seq .none (.cond .none .none))))) .none)))))) (.seq .none (.cut [6] (.seq .none (.block (.loop [6, 27] (.seq .none (.seq (.cond .none .none) (.seq (.block (.seq .none .none)) .none)))))) (.seq .none .none))))))
theorem e2J (x0 : Value) (w : World) (R : Value → World → Prop) (E : Pan) : F94 x0 w R E = callX Tryd.prog [.tmp 2] c94 h94 [x0] w R E := by kernel_rfl
theorem e2K {x0 : Value} {w : World} {R : Value → World → Prop} {E : Pan} (h : F94 x0 w R E) : Cv Tryd.prog 94 #[x0] w R E := by
 refine g7 (args := [x0]) (c := c94) (h := h94) (rs := [.tmp 2]) Tryd.func94 (by kernel_rfl) (by kernel_rfl) (Nat.le_of_ble_eq_true (by kernel_rfl)) (by kernel_rfl) (by kernel_rfl) (by kernel_rfl) ?_
 rw [← e2J]
 exact h
def c1c (x5 : Value) (w : World) (R : Value → World → Prop) (_E : Pan) : Prop :=
 ∀ _τ : Fr, (R x5 w)
def c8Y (x1 x5 x8 x9 x10 : Value) (w : World) (next2 : List Value → World → Prop) (j1 : List Value → World → Prop) (_R : Value → World → Prop) (E : Pan) : Prop :=
 opK Tryd.prog E (xBin .lss 3 (.tmp 10) (.tmp 9) x10 x9) w fun a8c w_6 =>
 xcond a8c
 (opK Tryd.prog E (xV (Instr.indexAt 22 x8 x10)) w_6 fun a5Z w_8 =>
 opK Tryd.prog E (xV (Instr.loadAt 67 a5Z)) w_8 fun a6a k9 =>
 opK Tryd.prog E (xV (Instr.alloc 67 true (.tuple #[]))) k9 fun a4m k6 =>
 opK Tryd.prog E (xU (Instr.storeAt 67 a4m a6a)) k6 fun _z_13 o2 =>
 opK Tryd.prog E (xV (Instr.loadAt 67 a4m)) o2 fun a3A p5 =>
 opK Tryd.prog E (xCall x1 [a3A]) p5 fun a3X p9 =>
 opK Tryd.prog E (xV (Instr.buildSlice 97 1 #[(0, a3X)])) p9 fun a3Y o9 =>
 opK Tryd.prog E (xBuiltin .append #[97, 97] 97 [false, false] [x5, a3Y]) o9 fun a6f r7 =>
 opK Tryd.prog E (xBin .add 3 (.tmp 10) (.const (Value.int .i64 1)) x10 (Value.int .i64 1)) r7 fun a6g p8 =>
 next2 [a6f, a6g] p8)
 (j1 [x5] w_6)
def F95 (x0 x1 : Value) (w : World) (R : Value → World → Prop) (E : Pan) : Prop :=
 xcut (fun l_1 w_2 => c1c (nth l_1 0) w_2 R E) fun j1 =>
 opK Tryd.prog E (xBuiltin .len #[22] 3 [false] [x0]) w fun a3U w_4 =>
 xloop [5, 10] [(Value.slice none 0 0), (Value.int .i64 0)] w_4 fun τ_25 u4 next2 =>
 c8Y x1 (τ_25 5) x0 a3U (τ_25 10) u4 next2 j1 R E
noncomputable def c95 : Code := Tryd.f95.body.getD .skip
def h95 : Hint := (.seq .none (.seq .none (.cut [5] (.seq .none (.block (.loop [5, 10] (.seq .none (.seq (.cond .none .none) (.seq (.block (.seq .none .none)) .none)))))) (.seq .none .none))))
theorem e2L (x0 x1 : Value) (w : World) (R : Value → World → Prop) (E : Pan) : F95 x0 x1 w R E = callX Tryd.prog [.tmp 4] c95 h95 [x0, x1] w R E := by kernel_rfl
theorem e2M {x0 x1 : Value} {w : World} {R : Value → World → Prop} {E : Pan} (h : F95 x0 x1 w R E) : Cv Tryd.prog 95 #[x0, x1] w R E := by
 refine g7 (args := [x0, x1]) (c := c95) (h := h95) (rs := [.tmp 4]) Tryd.func95 (by kernel_rfl) (by kernel_rfl) (Nat.le_of_ble_eq_true (by kernel_rfl)) (by kernel_rfl) (by kernel_rfl) (by kernel_rfl) ?_
 rw [← e2L]
 exact h
def F96 (x0 : Value) (w : World) (R : Value → World → Prop) (E : Pan) : Prop :=
 opK Tryd.prog E (xV (Instr.box 67 x0)) w fun A5 w_2 =>
 opK Tryd.prog E (xV (Instr.loadAt 67 A5)) w_2 fun B9 w_4 =>
 opK Tryd.prog E (xV (Instr.build 175 #[(0, B9)])) w_4 fun a2v w_6 =>
 opK Tryd.prog E (xV (Instr.makeInterface 175 a2v)) w_6 fun a4R w_8 =>
 R a4R w_8
noncomputable def c96 : Code := Tryd.f96.body.getD .skip
def h96 : Hint := (.seq .none (.seq .none .none))
theorem e2N (x0 : Value) (w : World) (R : Value → World → Prop) (E : Pan) : F96 x0 w R E = callX Tryd.prog [.tmp 2] c96 h96 [x0] w R E := by kernel_rfl
theorem e2O {x0 : Value} {w : World} {R : Value → World → Prop} {E : Pan} (h : F96 x0 w R E) : Cv Tryd.prog 96 #[x0] w R E := by
 refine g7 (args := [x0]) (c := c96) (h := h96) (rs := [.tmp 2]) Tryd.func96 (by kernel_rfl) (by kernel_rfl) (Nat.le_of_ble_eq_true (by kernel_rfl)) (by kernel_rfl) (by kernel_rfl) (by kernel_rfl) ?_
 rw [← e2N]
 exact h
def c1d (x5 : Value) (w : World) (R : Value → World → Prop) (_E : Pan) : Prop :=
 ∀ _τ : Fr, (R x5 w)
def c8Z (x1 x5 x8 x9 x10 : Value) (w : World) (next2 : List Value → World → Prop) (j1 : List Value → World → Prop) (_R : Value → World → Prop) (E : Pan) : Prop :=
 opK Tryd.prog E (xBin .lss 3 (.tmp 10) (.tmp 9) x10 x9) w fun a8c w_6 =>
 xcond a8c
 (opK Tryd.prog E (xV (Instr.indexAt 23 x8 x10)) w_6 fun a5Z w_8 =>
 opK Tryd.prog E (xV (Instr.loadAt 88 a5Z)) w_8 fun a6a k9 =>
 opK Tryd.prog E (xV (Instr.alloc 88 true (.tuple #[]))) k9 fun a4m k6 =>
 opK Tryd.prog E (xU (Instr.storeAt 88 a4m a6a)) k6 fun _z_13 o2 =>
 opK Tryd.prog E (xV (Instr.loadAt 88 a4m)) o2 fun a3A p5 =>
 opK Tryd.prog E (xCall x1 [a3A]) p5 fun a3X p9 =>
 opK Tryd.prog E (xV (Instr.buildSlice 97 1 #[(0, a3X)])) p9 fun a3Y o9 =>
 opK Tryd.prog E (xBuiltin .append #[97, 97] 97 [false, false] [x5, a3Y]) o9 fun a6f r7 =>
 opK Tryd.prog E (xBin .add 3 (.tmp 10) (.const (Value.int .i64 1)) x10 (Value.int .i64 1)) r7 fun a6g p8 =>
 next2 [a6f, a6g] p8)
 (j1 [x5] w_6)
def F97 (x0 x1 : Value) (w : World) (R : Value → World → Prop) (E : Pan) : Prop :=
 xcut (fun l_1 w_2 => c1d (nth l_1 0) w_2 R E) fun j1 =>
 opK Tryd.prog E (xBuiltin .len #[23] 3 [false] [x0]) w fun a3U w_4 =>
 xloop [5, 10] [(Value.slice none 0 0), (Value.int .i64 0)] w_4 fun τ_25 u4 next2 =>
 c8Z x1 (τ_25 5) x0 a3U (τ_25 10) u4 next2 j1 R E
noncomputable def c97 : Code := Tryd.f97.body.getD .skip
def h97 : Hint := (.seq .none (.seq .none (.cut [5] (.seq .none (.block (.loop [5, 10] (.seq .none (.seq (.cond .none .none) (.seq (.block (.seq .none .none)) .none)))))) (.seq .none .none))))
theorem e2P (x0 x1 : Value) (w : World) (R : Value → World → Prop) (E : Pan) : F97 x0 x1 w R E = callX Tryd.prog [.tmp 4] c97 h97 [x0, x1] w R E := by kernel_rfl
theorem e2Q {x0 x1 : Value} {w : World} {R : Value → World → Prop} {E : Pan} (h : F97 x0 x1 w R E) : Cv Tryd.prog 97 #[x0, x1] w R E := by
 refine g7 (args := [x0, x1]) (c := c97) (h := h97) (rs := [.tmp 4]) Tryd.func97 (by kernel_rfl) (by kernel_rfl) (Nat.le_of_ble_eq_true (by kernel_rfl)) (by kernel_rfl) (by kernel_rfl) (by kernel_rfl) ?_
 rw [← e2P]
 exact h
def F98 (x0 : Value) (w : World) (R : Value → World → Prop) (E : Pan) : Prop :=
 opK Tryd.prog E (xV (Instr.box 88 x0)) w fun A5 w_2 =>
 opK Tryd.prog E (xV (Instr.loadAt 88 A5)) w_2 fun B9 w_4 =>
 opK Tryd.prog E (xV (Instr.build 177 #[(0, B9)])) w_4 fun a2v w_6 =>
 opK Tryd.prog E (xV (Instr.makeInterface 177 a2v)) w_6 fun a4R w_8 =>
 R a4R w_8
noncomputable def c98 : Code := Tryd.f98.body.getD .skip
def h98 : Hint := (.seq .none (.seq .none .none))
theorem e2R (x0 : Value) (w : World) (R : Value → World → Prop) (E : Pan) : F98 x0 w R E = callX Tryd.prog [.tmp 2] c98 h98 [x0] w R E := by kernel_rfl
theorem e2S {x0 : Value} {w : World} {R : Value → World → Prop} {E : Pan} (h : F98 x0 w R E) : Cv Tryd.prog 98 #[x0] w R E := by
 refine g7 (args := [x0]) (c := c98) (h := h98) (rs := [.tmp 2]) Tryd.func98 (by kernel_rfl) (by kernel_rfl) (Nat.le_of_ble_eq_true (by kernel_rfl)) (by kernel_rfl) (by kernel_rfl) (by kernel_rfl) ?_
 rw [← e2R]
 exact h
def c4V (x0 : Value) (w : World) (R : Value → World → Prop) (E : Pan) : Prop :=
 opK Tryd.prog E (xV (Instr.typeAssert x0 141 175 true)) w fun e2T w_2 =>
 opK Tryd.prog E (xV (Instr.extract e2T 1)) w_2 fun a3U w_4 =>
 opK Tryd.prog E (xV (Instr.extract e2T 0)) w_4 fun a2h w_6 =>
 xcond a3U
 (opK Tryd.prog E (xV (Instr.alloc 175 true (.tuple #[]))) w_6 fun e2U w_8 =>
 opK Tryd.prog E (xU (Instr.storeAt 175 e2U a2h)) w_8 fun _z_9 k9 =>
 opK Tryd.prog E (xV (Instr.fieldAt 175 e2U 0)) k9 fun b3s k6 =>
 opK Tryd.prog E (xV (Instr.fieldAt 67 b3s 0)) k6 fun c1e o2 =>
 opK Tryd.prog E (xV (Instr.loadAt 9 c1e)) o2 fun b1d p5 =>
 R (Value.tuple #[b1d, (Value.bool true)]) p5)
 (opK Tryd.prog E (xV (Instr.typeAssert x0 141 177 true)) w_6 fun b6O p9 =>
 opK Tryd.prog E (xV (Instr.extract b6O 1)) p9 fun a8C o9 =>
 opK Tryd.prog E (xV (Instr.extract b6O 0)) o9 fun a8D r7 =>
 xcond a8C
 (opK Tryd.prog E (xV (Instr.alloc 177 true (.tuple #[]))) r7 fun b9p p8 =>
 opK Tryd.prog E (xU (Instr.storeAt 177 b9p a8D)) p8 fun _z_25 u4 =>
 dX u4 fun a6c =>
 qP Tryd.prog (xV (Instr.fieldAt 177 b9p 0)) fun e2V =>
 qP Tryd.prog (xV (Instr.fieldAt 88 e2V 1)) fun b6G =>
 qP Tryd.prog (xV (Instr.fieldAt 177 b9p 0)) fun e2W =>
 qP Tryd.prog (xV (Instr.fieldAt 88 e2W 0)) fun a7s =>
 qL Tryd.prog a6c (blk b6G) (xV (Instr.loadAt 9 b6G)) fun e2X =>
 qL Tryd.prog a6c (blk a7s) (xV (Instr.loadAt 3 a7s)) fun a1G =>
 qP Tryd.prog (xBin .eql 3 (.tmp 22) (.const (Value.int .i64 1)) a1G (Value.int .i64 1)) fun b3S =>
 qP Tryd.prog (gsem (asB b3S) false (xV (Instr.fieldAt 177 b9p 0))) fun e2Y =>
 qP Tryd.prog (gsem (asB b3S) false (xV (Instr.fieldAt 88 e2Y 0))) fun c9a =>
 qL Tryd.prog a6c (blk c9a) (gsem (asB b3S) false (xV (Instr.loadAt 3 c9a))) fun c0S =>
 qP Tryd.prog (gsem (asB b3S) false (xBin .eql 3 (.tmp 27) (.const (Value.int .i64 2)) c0S (Value.int .i64 2))) fun e2Z =>
 qP Tryd.prog (xPick b3S (Value.bool true) e2Z) fun c1f =>
 R (Value.tuple #[e2X, c1f]) a6c)
 (opK Tryd.prog E (xV (Instr.typeAssert x0 141 96 true)) r7 fun c9b c4L =>
 opK Tryd.prog E (xV (Instr.extract c9b 1)) c4L fun e3a b3E =>
 opK Tryd.prog E (xV (Instr.extract c9b 0)) b3E fun e3b c0v =>
 xcond e3a
 (opK Tryd.prog E (xV (Instr.alloc 96 true (.tuple #[]))) c0v fun b9q b3F =>
 opK Tryd.prog E (xU (Instr.storeAt 96 b9q e3b)) b3F fun _z_48 c4N =>
 dX c4N fun J7 =>
 qP Tryd.prog (xV (Instr.fieldAt 96 b9q 0)) fun c0E =>
 qP Tryd.prog (xV (Instr.fieldAt 30 c0E 2)) fun c9c =>
 qP Tryd.prog (xV (Instr.fieldAt 96 b9q 0)) fun c1g =>
 qP Tryd.prog (xV (Instr.fieldAt 30 c1g 0)) fun c9d =>
 qL Tryd.prog J7 (blk c9c) (xV (Instr.loadAt 9 c9c)) fun c0F =>
 qL Tryd.prog J7 (blk c9d) (xV (Instr.loadAt 3 c9d)) fun e3c =>
 qP Tryd.prog (xBin .eql 3 (.tmp 38) (.const (Value.int .i64 2)) e3c (Value.int .i64 2)) fun b3T =>
 qP Tryd.prog (gsem (asB b3T) false (xV (Instr.fieldAt 96 b9q 0))) fun e3d =>
 qP Tryd.prog (gsem (asB b3T) false (xV (Instr.fieldAt 30 e3d 0))) fun c9e =>
 qL Tryd.prog J7 (blk c9e) (gsem (asB b3T) false (xV (Instr.loadAt 3 c9e))) fun e3e =>
 qP Tryd.prog (gsem (asB b3T) false (xBin .eql 3 (.tmp 43) (.const (Value.int .i64 4)) e3e (Value.int .i64 4))) fun e3f =>
 qP Tryd.prog (xPick b3T (Value.bool true) e3f) fun e3g =>
 R (Value.tuple #[c0F, e3g]) J7)
 (R (Value.tuple #[(Value.string ⟨#[]⟩), (Value.bool false)]) c0v)))
noncomputable def e3h : Code := Tryd.f114.body.getD .skip
def e3i : Hint := (.seq .none (.seq (.seq .none (.block (.seq .none (.cond (.seq .none (.seq .none .none)) (.seq .none (.cond (.seq .none (.seq (.reg [(0, 131072, 32), (1, 262144, 131072), (2, 524288, 262144), (0, 1048576, 32), (8, 2097152, 1048576), (16, 4194304, 2097152), (32, 8388608, 4194304), (64, 16777216, 8388608), (128, 33554432, 16777248), (384, 67108864, 50331648), (640, 134217728, 83886080), (1152, 268435456, 150994944), (2176, 536870912, 285212672), (135, 4, 524288), (16383, 8, 536870912)] [1060, 1060, 1056, 1060, 1060, 1028, 1060, 1060, 1060, 1060, 36, 1060, 1060, 1060, 1060] (.early 0 (.early 1 (.early 3 (.early 4 (.load 2 (.load 5 (.early 6 (.early 7 (.early 8 (.early 9 (.early 13 (.load 10 (.early 11 (.early 12 (.early 14 .done)))))))))))))))) .none)) (.seq .none (.cond (.seq .none (.seq (.reg [(0, 8589934592, 64), (1, 17179869184, 8589934592), (2, 34359738368, 17179869184), (0, 68719476736, 64), (8, 137438953472, 68719476736), (16, 274877906944, 137438953472), (32, 549755813888, 274877906944), (64, 1099511627776, 549755813888), (128, 2199023255552, 1099511627840), (384, 4398046511104, 3298534883328), (640, 8796093022208, 5497558138880), (1152, 17592186044416, 9895604649984), (2176, 35184372088832, 18691697672192), (135, 4, 34359738368), (16383, 8, 35184372088832)] [1060, 1060, 1056, 1060, 1060, 1028, 1060, 1060, 1060, 1060, 36, 1060, 1060, 1060, 1060] (.early 0 (.early 1 (.early 3 (.early 4 (.load 2 (.load 5 (.early 6 (.early 7 (.early 8 (.early 9 (.early 13 (.load 10 (.early 11 (.early 12 (.early 14 .done)))))))))))))))) .none)) .none)))))))) (.seq .none .none)))
theorem d5x (x0 : Value) (w : World) (R : Value → World → Prop) (E : Pan) : c4V x0 w R E = callX Tryd.prog [.tmp 2, .tmp 3] e3h e3i [x0] w R E := by kernel_rfl
theorem d5y {x0 : Value} {w : World} {R : Value → World → Prop} {E : Pan} (h : c4V x0 w R E) : Cv Tryd.prog 114 #[x0] w R E := by
 refine g7 (args := [x0]) (c := e3h) (h := e3i) (rs := [.tmp 2, .tmp 3]) Tryd.func114 (by kernel_rfl) (by kernel_rfl) (Nat.le_of_ble_eq_true (by kernel_rfl)) (by kernel_rfl) (by kernel_rfl) (by kernel_rfl) ?_
 rw [← d5x]
 exact h
def b7P (w : World) (R : Value → World → Prop) (_E : Pan) : Prop :=
 ∀ _τ : Fr, (R (Value.bool true) w)
def c3V (x21 : Value) (w : World) (next2 : List Value → World → Prop) (j1 : List Value → World → Prop) (R : Value → World → Prop) (E : Pan) : Prop :=
 opK Tryd.prog E (xV (Instr.next x21 true 0)) w fun c1h r7 =>
 opK Tryd.prog E (xV (Instr.extract c1h 0)) r7 fun c1i p8 =>
 xcond c1i
 (opK Tryd.prog E (xV (Instr.extract c1h 1)) p8 fun b1h u4 =>
 opK Tryd.prog E (xV (Instr.extract c1h 2)) u4 fun c9f u7 =>
 opK Tryd.prog E (xCall (Value.func (.func 125) #[] #[]) [c9f]) u7 fun a8I o5 =>
 opK Tryd.prog E (xV (Op.unary .not a8I)) o5 fun a2i y8 =>
 opK Tryd.prog E (gsem (asB a2i) false (xBin .eql 3 (.tmp 30) (.const (Value.int .i64 0)) (gval (asB a2i) false b1h) (Value.int .i64 0))) y8 fun b6T v2 =>
 opK Tryd.prog E (gsem (asB (gval (asB a2i) false b6T)) true (xCall (Value.func (.func 126) #[] #[]) [(gval (asB (gval (asB a2i) false b6T)) true c9f)])) v2 fun e3j A7 =>
 opK Tryd.prog E (gsem (asB (gval (asB a2i) false b6T)) true (xBin .neq 3 (.tmp 34) (.const (Value.int .i64 3)) e3j (Value.int .i64 3))) A7 fun e3k A9 =>
 opK Tryd.prog E (gsem (asB a2i) false (xPick (gval (asB a2i) false b6T) e3k (Value.bool false))) A9 fun e3l C7 =>
 opK Tryd.prog E (xPick a2i (Value.bool true) e3l) C7 fun e3m I9 =>
 xcond e3m
 (R (Value.bool false) I9)
 (next2 [] I9))
 (j1 [] p8)
def c4W (x0 : Value) (w : World) (R : Value → World → Prop) (E : Pan) : Prop :=
 opK Tryd.prog E (xBin .eql 9 (.tmp 5) (.const (Value.string ⟨#[]⟩)) x0 (Value.string ⟨#[]⟩)) w fun b0q w_2 =>
 opK Tryd.prog E (gsem (asB b0q) false (xCall (Value.func (.func 122) #[] #[]) [(gval (asB b0q) false x0)])) w_2 fun a3U w_4 =>
 opK Tryd.prog E (gsem (asB b0q) false (xV (Op.unary .not a3U))) w_4 fun a2h w_6 =>
 opK Tryd.prog E (xPick b0q (Value.bool true) a2h) w_6 fun a7m w_8 =>
 opK Tryd.prog E (gsem (asB a7m) false (xCall (Value.func (.func 123) #[] #[]) [(gval (asB a7m) false x0)])) w_8 fun a8e k9 =>
 opK Tryd.prog E (xPick a7m (Value.bool true) a8e) k9 fun b3M k6 =>
 opK Tryd.prog E (gsem (asB b3M) false (xCall (Value.func (.func 124) #[] #[]) [(gval (asB b3M) false x0)])) k6 fun b3L o2 =>
 opK Tryd.prog E (xPick b3M (Value.bool true) b3L) o2 fun a4F p5 =>
 xcond a4F
 (R (Value.bool false) p5)
 (xcut (fun _ p9 => b7P p9 R E) fun j1 =>
 opK Tryd.prog E (xV (Instr.range 9 x0)) p5 fun e3n o9 =>
 xloop [] [] o9 fun _ I0 next2 =>
 c3V e3n I0 next2 j1 R E)
noncomputable def e3o : Code := Tryd.f115.body.getD .skip
def e3p : Hint := (.seq .none (.seq (.seq .none (.cond (.seq .none .none) .none)) (.cut [] (.seq .none (.block (.loop [] (.seq .none (.seq (.cond .none .none) (.block (.seq .none (.seq .none (.cond (.seq .none .none) .none))))))))) (.seq .none .none))))
theorem d5z (x0 : Value) (w : World) (R : Value → World → Prop) (E : Pan) : c4W x0 w R E = callX Tryd.prog [.tmp 2] e3o e3p [x0] w R E := by kernel_rfl
theorem d5A {x0 : Value} {w : World} {R : Value → World → Prop} {E : Pan} (h : c4W x0 w R E) : Cv Tryd.prog 115 #[x0] w R E := by
 refine g7 (args := [x0]) (c := e3o) (h := e3p) (rs := [.tmp 2]) Tryd.func115 (by kernel_rfl) (by kernel_rfl) (Nat.le_of_ble_eq_true (by kernel_rfl)) (by kernel_rfl) (by kernel_rfl) (by kernel_rfl) ?_
 rw [← d5z]
 exact h
def c4X (x0 x1 : Value) (w : World) (R : Value → World → Prop) (E : Pan) : Prop :=
 opK Tryd.prog E (xCall (Value.func (.func 127) #[] #[]) [x0, x1]) w fun b9W w_2 =>
 opK Tryd.prog E (xBin .geq 3 (.tmp 7) (.const (Value.int .i64 0)) b9W (Value.int .i64 0)) w_2 fun b3U w_4 =>
 R b3U w_4
noncomputable def e3q : Code := Tryd.f116.body.getD .skip
def e3r : Hint := (.seq .none (.seq .none .none))
theorem d5B (x0 x1 : Value) (w : World) (R : Value → World → Prop) (E : Pan) : c4X x0 x1 w R E = callX Tryd.prog [.tmp 4] e3q e3r [x0, x1] w R E := by kernel_rfl
theorem d5C {x0 x1 : Value} {w : World} {R : Value → World → Prop} {E : Pan} (h : c4X x0 x1 w R E) : Cv Tryd.prog 116 #[x0, x1] w R E := by
 refine g7 (args := [x0, x1]) (c := e3q) (h := e3r) (rs := [.tmp 4]) Tryd.func116 (by kernel_rfl) (by kernel_rfl) (Nat.le_of_ble_eq_true (by kernel_rfl)) (by kernel_rfl) (by kernel_rfl) (by kernel_rfl) ?_
 rw [← d5B]
 exact h
def b7Q (x0 : Value) (w : World) (R : Value → World → Prop) (_E : Pan) : Prop :=
 ∀ _τ : Fr, (R x0 w)
def c3W (x0 x1 : Value) (w : World) (R : Value → World → Prop) (E : Pan) : Prop :=
 ∀ _τ : Fr, (xcut (fun l_1 w_2 => b7Q (nth l_1 0) w_2 R E) fun j2 =>
 opK Tryd.prog E (xBuiltin .cap #[97] 3 [false] [x0]) w fun b6L w_4 =>
 opK Tryd.prog E (xBuiltin .len #[97] 3 [false] [x0]) w_4 fun b6P w_6 =>
 opK Tryd.prog E (xBin .sub 3 (.tmp 10) (.tmp 12) b6L b6P) w_6 fun b6Q w_8 =>
 opK Tryd.prog E (xBin .sub 3 (.tmp 8) (.tmp 13) x1 b6Q) w_8 fun a8e k9 =>
 opK Tryd.prog E (xBin .gtr 3 (.tmp 15) (.const (Value.int .i64 0)) a8e (Value.int .i64 0)) k9 fun a6h k6 =>
 xcond a6h
 (opK Tryd.prog E (xBuiltin .cap #[97] 3 [false] [x0]) k6 fun c1j o2 =>
 opK Tryd.prog E (xV (Instr.sliceAt 97 x0 none (some c1j) none)) o2 fun c1k p5 =>
 opK Tryd.prog E (xBuiltin .append #[97, 3] 97 [false, false] [c1k, a8e]) p5 fun c1l p9 =>
 opK Tryd.prog E (xBuiltin .len #[97] 3 [false] [x0]) p9 fun e3s o9 =>
 opK Tryd.prog E (xV (Instr.sliceAt 97 c1l none (some e3s) none)) o9 fun e3t r7 =>
 j2 [e3t] r7)
 (j2 [x0] k6))
def d0S (x0 x1 : Value) (w : World) (R : Value → World → Prop) (E : Pan) : Prop :=
 xcut (fun _ p8 => c3W x0 x1 p8 R E) fun j1 =>
 opK Tryd.prog E (xBin .lss 3 (.tmp 5) (.const (Value.int .i64 0)) x1 (Value.int .i64 0)) w fun e9t u4 =>
 xcond e9t
 (opK Tryd.prog E (xV (Instr.makeInterface 9 (Value.string ⟨#[99, 97, 110, 110, 111, 116, 32, 98, 101, 32, 110, 101, 103, 97, 116, 105, 118, 101]⟩))) u4 fun e9u u7 =>
 opK Tryd.prog E (xV (Instr.panic e9u)) u7 fun _z_29 o5 =>
 j1 [] o5)
 (j1 [] u4)
noncomputable def e3u : Code := Tryd.f120.body.getD .skip
def e3v : Hint := (.seq .none (.cut [] (.seq .none (.cond .none .none)) (.cut [0] (.seq .none (.seq .none (.cond .none .none))) (.seq .none .none))))
theorem d5D (x0 x1 : Value) (w : World) (R : Value → World → Prop) (E : Pan) : d0S x0 x1 w R E = callX Tryd.prog [.tmp 4] e3u e3v [x0, x1] w R E := by kernel_rfl
theorem d5E {x0 x1 : Value} {w : World} {R : Value → World → Prop} {E : Pan} (h : d0S x0 x1 w R E) : Cv Tryd.prog 120 #[x0, x1] w R E := by
 refine g7 (args := [x0, x1]) (c := e3u) (h := e3v) (rs := [.tmp 4]) Tryd.func120 (by kernel_rfl) (by kernel_rfl) (Nat.le_of_ble_eq_true (by kernel_rfl)) (by kernel_rfl) (by kernel_rfl) (by kernel_rfl) ?_
 rw [← d5D]
 exact h
def c4Y (x0 : Value) (w : World) (R : Value → World → Prop) (E : Pan) : Prop :=
 opK Tryd.prog E (xCall (Value.func (.func 130) #[] #[]) [x0]) w fun a2Y w_2 =>
 opK Tryd.prog E (xBin .gtr 3 (.tmp 4) (.const (Value.int .i64 32)) a2Y (Value.int .i64 32)) w_2 fun b7R w_4 =>
 R b7R w_4
noncomputable def e3w : Code := Tryd.f123.body.getD .skip
def e3x : Hint := (.seq .none (.seq .none .none))
theorem d5F (x0 : Value) (w : World) (R : Value → World → Prop) (E : Pan) : c4Y x0 w R E = callX Tryd.prog [.tmp 2] e3w e3x [x0] w R E := by kernel_rfl
theorem d5G {x0 : Value} {w : World} {R : Value → World → Prop} {E : Pan} (h : c4Y x0 w R E) : Cv Tryd.prog 123 #[x0] w R E := by
 refine g7 (args := [x0]) (c := e3w) (h := e3x) (rs := [.tmp 2]) Tryd.func123 (by kernel_rfl) (by kernel_rfl) (Nat.le_of_ble_eq_true (by kernel_rfl)) (by kernel_rfl) (by kernel_rfl) (by kernel_rfl) ?_
 rw [← d5F]
 exact h
def b7S (x4 : Value) (w : World) (R : Value → World → Prop) (_E : Pan) : Prop :=
 ∀ _τ : Fr, (xcond x4
 (R (Value.bool true) w)
 (R (Value.bool false) w))
def c4Z (x0 : Value) (w : World) (R : Value → World → Prop) (E : Pan) : Prop :=
 xcut (fun l_1 w_2 => b7S (nth l_1 0) w_2 R E) fun j1 =>
 opK Tryd.prog E (xBin .eql 9 (.tmp 3) (.const (Value.string ⟨#[118, 97, 114]⟩)) x0 (Value.string ⟨#[118, 97, 114]⟩)) w fun b7R w_4 =>
 xcond b7R
 (j1 [b7R] w_4)
 (opK Tryd.prog E (xBin .eql 9 (.tmp 3) (.const (Value.string ⟨#[97, 114, 114, 97, 121]⟩)) x0 (Value.string ⟨#[97, 114, 114, 97, 121]⟩)) w_4 fun a5W w_6 =>
 xcond a5W
 (j1 [a5W] w_6)
 (opK Tryd.prog E (xBin .eql 9 (.tmp 3) (.const (Value.string ⟨#[105, 102]⟩)) x0 (Value.string ⟨#[105, 102]⟩)) w_6 fun a4Q w_8 =>
 xcond a4Q
 (j1 [a4Q] w_8)
 (opK Tryd.prog E (xBin .eql 9 (.tmp 3) (.const (Value.string ⟨#[101, 108, 115, 101]⟩)) x0 (Value.string ⟨#[101, 108, 115, 101]⟩)) w_8 fun a4t k9 =>
 xcond a4t
 (j1 [a4t] k9)
 (opK Tryd.prog E (xBin .eql 9 (.tmp 3) (.const (Value.string ⟨#[119, 104, 105, 108, 101]⟩)) x0 (Value.string ⟨#[119, 104, 105, 108, 101]⟩)) k9 fun a9S k6 =>
 xcond a9S
 (j1 [a9S] k6)
 (opK Tryd.prog E (xBin .eql 9 (.tmp 3) (.const (Value.string ⟨#[97, 115, 115, 101, 114, 116]⟩)) x0 (Value.string ⟨#[97, 115, 115, 101, 114, 116]⟩)) k6 fun a1g o2 =>
 xcond a1g
 (j1 [a1g] o2)
 (opK Tryd.prog E (xBin .eql 9 (.tmp 3) (.const (Value.string ⟨#[97, 115, 115, 117, 109, 101]⟩)) x0 (Value.string ⟨#[97, 115, 115, 117, 109, 101]⟩)) o2 fun a7t p5 =>
 xcond a7t
 (j1 [a7t] p5)
 (opK Tryd.prog E (xBin .eql 9 (.tmp 3) (.const (Value.string ⟨#[115, 107, 105, 112]⟩)) x0 (Value.string ⟨#[115, 107, 105, 112]⟩)) p5 fun a7u p9 =>
 xcond a7u
 (j1 [a7u] p9)
 (opK Tryd.prog E (xBin .eql 9 (.tmp 3) (.const (Value.string ⟨#[105, 110, 112, 117, 116]⟩)) x0 (Value.string ⟨#[105, 110, 112, 117, 116]⟩)) p9 fun a7v o9 =>
 xcond a7v
 (j1 [a7v] o9)
 (opK Tryd.prog E (xBin .eql 9 (.tmp 3) (.const (Value.string ⟨#[116, 114, 117, 101]⟩)) x0 (Value.string ⟨#[116, 114, 117, 101]⟩)) o9 fun a7w r7 =>
 xcond a7w
 (j1 [a7w] r7)
 (opK Tryd.prog E (xBin .eql 9 (.tmp 3) (.const (Value.string ⟨#[102, 97, 108, 115, 101]⟩)) x0 (Value.string ⟨#[102, 97, 108, 115, 101]⟩)) r7 fun a8K p8 =>
 j1 [a8K] p8))))))))))
noncomputable def e3y : Code := Tryd.f124.body.getD .skip
def e3z : Hint := (.seq .none (.seq (.seq .none (.block (.cut [4] (.seq .none (.cond .none (.seq .none (.cond .none (.seq .none (.cond .none (.seq .none (.cond .none (.seq .none (.cond .none (.seq .none (.cond .none (.seq .none (.cond .none (.seq .none (.cond .none (.seq .none (.cond .none (.seq .none (.cond .none .none)))))))))))))))))))) (.cond (.seq .none .none) .none)))) (.seq .none .none)))
theorem d5H (x0 : Value) (w : World) (R : Value → World → Prop) (E : Pan) : c4Z x0 w R E = callX Tryd.prog [.tmp 2] e3y e3z [x0] w R E := by kernel_rfl
theorem d5I {x0 : Value} {w : World} {R : Value → World → Prop} {E : Pan} (h : c4Z x0 w R E) : Cv Tryd.prog 124 #[x0] w R E := by
 refine g7 (args := [x0]) (c := e3y) (h := e3z) (rs := [.tmp 2]) Tryd.func124 (by kernel_rfl) (by kernel_rfl) (Nat.le_of_ble_eq_true (by kernel_rfl)) (by kernel_rfl) (by kernel_rfl) (by kernel_rfl) ?_
 rw [← d5H]
 exact h
def c5a (x0 : Value) (w : World) (R : Value → World → Prop) (E : Pan) : Prop :=
 opK Tryd.prog E (xCall (Value.func (.func 126) #[] #[]) [x0]) w fun e3A w_2 =>
 opK Tryd.prog E (xBin .eql 3 (.tmp 6) (.const (Value.int .i64 3)) e3A (Value.int .i64 3)) w_2 fun a6T w_4 =>
 opK Tryd.prog E (gsem (asB a6T) false (xBin .eql 3 (.tmp 9) (.const (Value.int .i64 4)) (gval (asB a6T) false e3A) (Value.int .i64 4))) w_4 fun a2h w_6 =>
 opK Tryd.prog E (xPick a6T (Value.bool true) a2h) w_6 fun a7m w_8 =>
 R a7m w_8
noncomputable def e3B : Code := Tryd.f125.body.getD .skip
def e3C : Hint := (.seq .none (.seq .none (.seq .none .none)))
theorem d5J (x0 : Value) (w : World) (R : Value → World → Prop) (E : Pan) : c5a x0 w R E = callX Tryd.prog [.tmp 2] e3B e3C [x0] w R E := by kernel_rfl
theorem d5K {x0 : Value} {w : World} {R : Value → World → Prop} {E : Pan} (h : c5a x0 w R E) : Cv Tryd.prog 125 #[x0] w R E := by
 refine g7 (args := [x0]) (c := e3B) (h := e3C) (rs := [.tmp 2]) Tryd.func125 (by kernel_rfl) (by kernel_rfl) (Nat.le_of_ble_eq_true (by kernel_rfl)) (by kernel_rfl) (by kernel_rfl) (by kernel_rfl) ?_
 rw [← d5J]
 exact h
def b7T (x39 : Value) (w : World) (R : Value → World → Prop) (_E : Pan) : Prop :=
 ∀ _τ : Fr, (xcond x39
 (R (Value.int .i64 3) w)
 (R (Value.int .i64 6) w))
def b7U (x1 x31 : Value) (w : World) (R : Value → World → Prop) (E : Pan) : Prop :=
 ∀ _τ : Fr, (xcond x31
 (R (Value.int .i64 6) w)
 (opK Tryd.prog E (xV (Instr.makeFunc (.func 131) #[] #[x1])) w fun b4K w_8 =>
 opK Tryd.prog E (xCall b4K [(Value.int .i32 48), (Value.int .i32 57)]) w_8 fun e9v k9 =>
 xcond e9v
 (R (Value.int .i64 4) k9)
 (xcut (fun f2A k6 => b7T (nth f2A 0) k6 R E) fun j4 =>
 opK Tryd.prog E (xV (Instr.loadAt 21 x1)) k9 fun e3D o2 =>
 opK Tryd.prog E (xBin .eql 21 (.tmp 40) (.const (Value.int .i32 95)) e3D (Value.int .i32 95)) o2 fun c9g p5 =>
 xcond c9g
 (j4 [c9g] p5)
 (opK Tryd.prog E (xCall b4K [(Value.int .i32 97), (Value.int .i32 122)]) p5 fun b6H p9 =>
 xcond b6H
 (j4 [b6H] p9)
 (opK Tryd.prog E (xCall b4K [(Value.int .i32 65), (Value.int .i32 90)]) p9 fun c9h o9 =>
 xcond c9h
 (j4 [c9h] o9)
 (opK Tryd.prog E (xCall b4K [(Value.int .i32 192), (Value.int .i32 591)]) o9 fun c9i r7 =>
 xcond c9i
 (j4 [c9i] r7)
 (opK Tryd.prog E (xCall b4K [(Value.int .i32 913), (Value.int .i32 969)]) r7 fun c9j p8 =>
 xcond c9j
 (j4 [c9j] p8)
 (opK Tryd.prog E (xCall b4K [(Value.int .i32 1040), (Value.int .i32 1103)]) p8 fun e3E u4 =>
 j4 [e3E] u4))))))))
def b7V (x1 x4 x11 : Value) (w : World) (R : Value → World → Prop) (E : Pan) : Prop :=
 ∀ _τ : Fr, (xcond x11
 (R (Value.int .i64 5) w)
 (xcut (fun a3W u7 => b7U x1 (nth a3W 0) u7 R E) fun j3 =>
 opK Tryd.prog E (xBin .eql 21 (.tmp 4) (.const (Value.int .i32 215)) x4 (Value.int .i32 215)) w fun c9k o5 =>
 xcond c9k
 (j3 [c9k] o5)
 (opK Tryd.prog E (xBin .eql 21 (.tmp 4) (.const (Value.int .i32 247)) x4 (Value.int .i32 247)) o5 fun c9l y8 =>
 xcond c9l
 (j3 [c9l] y8)
 (opK Tryd.prog E (xBin .eql 21 (.tmp 4) (.const (Value.int .i32 930)) x4 (Value.int .i32 930)) y8 fun e3F v2 =>
 j3 [e3F] v2))))
def b7W (x1 x4 x5 : Value) (w : World) (R : Value → World → Prop) (E : Pan) : Prop :=
 ∀ _τ : Fr, (xcond x5
 (R (Value.int .i64 1) w)
 (opK Tryd.prog E (xBin .eql 21 (.tmp 4) (.const (Value.int .i32 10)) x4 (Value.int .i32 10)) w fun a2h w_6 =>
 xcond a2h
 (R (Value.int .i64 2) w_6)
 (xcut (fun c1m A7 => b7V x1 x4 (nth c1m 0) A7 R E) fun j2 =>
 opK Tryd.prog E (xBin .eql 21 (.tmp 4) (.const (Value.int .i32 59)) x4 (Value.int .i32 59)) w_6 fun c9m A9 =>
 xcond c9m
 (j2 [c9m] A9)
 (opK Tryd.prog E (xBin .eql 21 (.tmp 4) (.const (Value.int .i32 44)) x4 (Value.int .i32 44)) A9 fun c9n C7 =>
 xcond c9n
 (j2 [c9n] C7)
 (opK Tryd.prog E (xBin .eql 21 (.tmp 4) (.const (Value.int .i32 123)) x4 (Value.int .i32 123)) C7 fun c9o I9 =>
 xcond c9o
 (j2 [c9o] I9)
 (opK Tryd.prog E (xBin .eql 21 (.tmp 4) (.const (Value.int .i32 125)) x4 (Value.int .i32 125)) I9 fun c9p I0 =>
 xcond c9p
 (j2 [c9p] I0)
 (opK Tryd.prog E (xBin .eql 21 (.tmp 4) (.const (Value.int .i32 40)) x4 (Value.int .i32 40)) I0 fun c9q K3 =>
 xcond c9q
 (j2 [c9q] K3)
 (opK Tryd.prog E (xBin .eql 21 (.tmp 4) (.const (Value.int .i32 41)) x4 (Value.int .i32 41)) K3 fun c9r J6 =>
 xcond c9r
 (j2 [c9r] J6)
 (opK Tryd.prog E (xBin .eql 21 (.tmp 4) (.const (Value.int .i32 91)) x4 (Value.int .i32 91)) J6 fun c9s J7 =>
 xcond c9s
 (j2 [c9s] J7)
 (opK Tryd.prog E (xBin .eql 21 (.tmp 4) (.const (Value.int .i32 93)) x4 (Value.int .i32 93)) J7 fun b6I N4 =>
 xcond b6I
 (j2 [b6I] N4)
 (opK Tryd.prog E (xBin .eql 21 (.tmp 4) (.const (Value.int .i32 61)) x4 (Value.int .i32 61)) N4 fun b6J N9 =>
 xcond b6J
 (j2 [b6J] N9)
 (opK Tryd.prog E (xBin .eql 21 (.tmp 4) (.const (Value.int .i32 33)) x4 (Value.int .i32 33)) N9 fun b6K R5 =>
 xcond b6K
 (j2 [b6K] R5)
 (opK Tryd.prog E (xBin .eql 21 (.tmp 4) (.const (Value.int .i32 60)) x4 (Value.int .i32 60)) R5 fun b1c O0 =>
 xcond b1c
 (j2 [b1c] O0)
 (opK Tryd.prog E (xBin .eql 21 (.tmp 4) (.const (Value.int .i32 62)) x4 (Value.int .i32 62)) O0 fun a8P T2 =>
 xcond a8P
 (j2 [a8P] T2)
 (opK Tryd.prog E (xBin .eql 21 (.tmp 4) (.const (Value.int .i32 43)) x4 (Value.int .i32 43)) T2 fun b6U X7 =>
 xcond b6U
 (j2 [b6U] X7)
 (opK Tryd.prog E (xBin .eql 21 (.tmp 4) (.const (Value.int .i32 45)) x4 (Value.int .i32 45)) X7 fun c9t R2 =>
 xcond c9t
 (j2 [c9t] R2)
 (opK Tryd.prog E (xBin .eql 21 (.tmp 4) (.const (Value.int .i32 42)) x4 (Value.int .i32 42)) R2 fun c9u U8 =>
 xcond c9u
 (j2 [c9u] U8)
 (opK Tryd.prog E (xBin .eql 21 (.tmp 4) (.const (Value.int .i32 47)) x4 (Value.int .i32 47)) U8 fun c9v X8 =>
 xcond c9v
 (j2 [c9v] X8)
 (opK Tryd.prog E (xBin .eql 21 (.tmp 4) (.const (Value.int .i32 37)) x4 (Value.int .i32 37)) X8 fun c9w W5 =>
 xcond c9w
 (j2 [c9w] W5)
 (opK Tryd.prog E (xBin .eql 21 (.tmp 4) (.const (Value.int .i32 38)) x4 (Value.int .i32 38)) W5 fun c9x Z5 =>
 xcond c9x
 (j2 [c9x] Z5)
 (opK Tryd.prog E (xBin .eql 21 (.tmp 4) (.const (Value.int .i32 124)) x4 (Value.int .i32 124)) Z5 fun e3G a0Z =>
 j2 [e3G] a0Z)))))))))))))))))))))
def c5b (x0 : Value) (w : World) (R : Value → World → Prop) (E : Pan) : Prop :=
 opK Tryd.prog E (xV (Instr.box 21 x0)) w fun A5 w_2 =>
 opK Tryd.prog E (xV (Instr.loadAt 21 A5)) w_2 fun b0p w_4 =>
 xcut (fun f2B a1b => b7W A5 b0p (nth f2B 0) a1b R E) fun j1 =>
 opK Tryd.prog E (xBin .eql 21 (.tmp 4) (.const (Value.int .i32 32)) b0p (Value.int .i32 32)) w_4 fun d3B a1l =>
 xcond d3B
 (j1 [d3B] a1l)
 (opK Tryd.prog E (xBin .eql 21 (.tmp 4) (.const (Value.int .i32 9)) b0p (Value.int .i32 9)) a1l fun d3C a0O =>
 xcond d3C
 (j1 [d3C] a0O)
 (opK Tryd.prog E (xBin .eql 21 (.tmp 4) (.const (Value.int .i32 13)) b0p (Value.int .i32 13)) a0O fun e9w a2O =>
 j1 [e9w] a2O))
noncomputable def e3H : Code := Tryd.f126.body.getD .skip
def e3I : Hint := (.seq .none (.seq (.seq .none (.block (.cut [5] (.seq .none (.cond .none (.seq .none (.cond .none .none)))) (.cond (.seq .none .none) (.seq .none (.cond (.seq .none .none) (.cut [11] (.seq .none (.cond .none (.seq .none (.cond .none (.seq .none (.cond .none (.seq .none (.cond .none (.seq .none (.cond .none (.seq .none (.cond .none (.seq .none (.cond .none (.seq .none (.cond .none (.seq .none (.cond .none (.seq .none (.cond .none (.seq .none (.cond .none (.seq .none (.cond .none (.seq .none (.cond .none (.seq .none (.cond .none (.seq .none (.cond .none (.seq .none (.cond .none (.seq .none (.cond .none (.seq .none (.cond .none .none)))))))))))))))))))))))))))))))))))) (.cond (.seq .none .none) (.cut [31] (.seq .none (.cond .none (.seq .none (.cond .none .none)))) (.cond (.seq .none .none) .none)))))))))) (.seq .none (.seq (.block (.seq .none (.cond (.seq .none .none) (.cut [39] (.seq .none (.cond .none (.seq .none (.cond .none (.seq .none (.cond .none (.seq .none (.cond .none (.seq .none (.cond .none .none)))))))))) (.cond (.seq .none .none) .none))))) (.seq .none .none)))))
theorem d5L (x0 : Value) (w : World) (R : Value → World → Prop) (E : Pan) : c5b x0 w R E = callX Tryd.prog [.tmp 2] e3H e3I [x0] w R E := by kernel_rfl
theorem d5M {x0 : Value} {w : World} {R : Value → World → Prop} {E : Pan} (h : c5b x0 w R E) : Cv Tryd.prog 126 #[x0] w R E := by
 refine g7 (args := [x0]) (c := e3H) (h := e3I) (rs := [.tmp 2]) Tryd.func126 (by kernel_rfl) (by kernel_rfl) (Nat.le_of_ble_eq_true (by kernel_rfl)) (by kernel_rfl) (by kernel_rfl) (by kernel_rfl) ?_
 rw [← d5L]
 exact h
def b7X (w : World) (R : Value → World → Prop) (_E : Pan) : Prop :=
 ∀ _τ : Fr, (R (Value.int .i64 (-1)) w)
def c3X (x0 x1 x7 x8 : Value) (w : World) (next2 : List Value → World → Prop) (j1 : List Value → World → Prop) (R : Value → World → Prop) (E : Pan) : Prop :=
 opK Tryd.prog E (xBin .lss 3 (.tmp 8) (.tmp 7) x8 x7) w fun c1n w_6 =>
 xcond c1n
 (opK Tryd.prog E (xV (Instr.indexAt 47 x0 x8)) w_6 fun e9x w_8 =>
 opK Tryd.prog E (xV (Instr.loadAt 9 e9x)) w_8 fun e9y k9 =>
 opK Tryd.prog E (xBin .eql 9 (.tmp 11) (.tmp 15) x1 e9y) k9 fun a6h k6 =>
 xcond a6h
 (R x8 k6)
 (opK Tryd.prog E (xBin .add 3 (.tmp 8) (.const (Value.int .i64 1)) x8 (Value.int .i64 1)) k6 fun b3L o2 =>
 next2 [b3L] o2))
 (j1 [] w_6)
def c5c (x0 x1 : Value) (w : World) (R : Value → World → Prop) (E : Pan) : Prop :=
 xcut (fun _ w_2 => b7X w_2 R E) fun j1 =>
 opK Tryd.prog E (xBuiltin .len #[47] 3 [false] [x0]) w fun a6T w_4 =>
 xloop [8] [(Value.int .i64 0)] w_4 fun τ_15 p5 next2 =>
 c3X x0 x1 a6T (τ_15 8) p5 next2 j1 R E
noncomputable def e3J : Code := Tryd.f127.body.getD .skip
def e3K : Hint := (.seq .none (.cut [] (.seq .none (.block (.loop [8] (.seq .none (.seq (.cond .none .none) (.seq (.block (.seq .none (.seq .none (.cond (.seq .none .none) .none)))) .none)))))) (.seq .none .none)))
theorem d5N (x0 x1 : Value) (w : World) (R : Value → World → Prop) (E : Pan) : c5c x0 x1 w R E = callX Tryd.prog [.tmp 4] e3J e3K [x0, x1] w R E := by kernel_rfl
theorem d5O {x0 x1 : Value} {w : World} {R : Value → World → Prop} {E : Pan} (h : c5c x0 x1 w R E) : Cv Tryd.prog 127 #[x0, x1] w R E := by
 refine g7 (args := [x0, x1]) (c := e3J) (h := e3K) (rs := [.tmp 4]) Tryd.func127 (by kernel_rfl) (by kernel_rfl) (Nat.le_of_ble_eq_true (by kernel_rfl)) (by kernel_rfl) (by kernel_rfl) (by kernel_rfl) ?_
 rw [← d5N]
 exact h
def b7Y (x2 : Value) (w : World) (R : Value → World → Prop) (_E : Pan) : Prop :=
 ∀ _τ : Fr, (R x2 w)
def c3Y (x2 x4 : Value) (w : World) (next2 : List Value → World → Prop) (j1 : List Value → World → Prop) (_R : Value → World → Prop) (E : Pan) : Prop :=
 opK Tryd.prog E (xV (Instr.next x4 true 0)) w fun a5T w_6 =>
 opK Tryd.prog E (xV (Instr.extract a5T 0)) w_6 fun a6S w_8 =>
 xcond a6S
 (opK Tryd.prog E (xBin .add 3 (.tmp 7) (.const (Value.int .i64 1)) x2 (Value.int .i64 1)) w_8 fun a4t k9 =>
 next2 [a4t] k9)
 (j1 [x2] w_8)
def c5d (x0 : Value) (w : World) (R : Value → World → Prop) (E : Pan) : Prop :=
 xcut (fun l_1 w_2 => b7Y (nth l_1 0) w_2 R E) fun j1 =>
 opK Tryd.prog E (xV (Instr.range 9 x0)) w fun b0p w_4 =>
 xloop [2] [(Value.int .i64 0)] w_4 fun τ_11 k6 next2 =>
 c3Y (τ_11 2) b0p k6 next2 j1 R E
noncomputable def e3L : Code := Tryd.f130.body.getD .skip
def e3M : Hint := (.seq .none (.cut [2] (.seq .none (.block (.loop [2] (.seq .none (.seq (.cond .none .none) (.block .none)))))) (.seq .none .none)))
theorem d5P (x0 : Value) (w : World) (R : Value → World → Prop) (E : Pan) : c5d x0 w R E = callX Tryd.prog [.tmp 2] e3L e3M [x0] w R E := by kernel_rfl
theorem d5Q {x0 : Value} {w : World} {R : Value → World → Prop} {E : Pan} (h : c5d x0 w R E) : Cv Tryd.prog 130 #[x0] w R E := by
 refine g7 (args := [x0]) (c := e3L) (h := e3M) (rs := [.tmp 2]) Tryd.func130 (by kernel_rfl) (by kernel_rfl) (Nat.le_of_ble_eq_true (by kernel_rfl)) (by kernel_rfl) (by kernel_rfl) (by kernel_rfl) ?_
 rw [← d5P]
 exact h
def c5e (x0 x1 x2 : Value) (w : World) (R : Value → World → Prop) (E : Pan) : Prop :=
 opK Tryd.prog E (xV (Instr.loadAt 21 x2)) w fun b9W w_2 =>
 opK Tryd.prog E (xBin .leq 21 (.tmp 6) (.tmp 7) x0 b9W) w_2 fun b3U w_4 =>
 opK Tryd.prog E (gsem (asB b3U) true (xV (Instr.loadAt 21 x2))) w_4 fun a2h w_6 =>
 opK Tryd.prog E (gsem (asB b3U) true (xBin .leq 21 (.tmp 10) (.tmp 11) a2h (gval (asB b3U) true x1))) w_6 fun a5Z w_8 =>
 opK Tryd.prog E (xPick b3U a5Z (Value.bool false)) w_8 fun a6a k9 =>
 R a6a k9
noncomputable def e3N : Code := Tryd.f131.body.getD .skip
def e3O : Hint := (.seq .none (.seq .none .none))
theorem d5R (x0 x1 x2 : Value) (w : World) (R : Value → World → Prop) (E : Pan) : c5e x0 x1 x2 w R E = callX Tryd.prog [.tmp 5] e3N e3O [x0, x1, x2] w R E := by kernel_rfl
theorem d5S {x0 x1 x2 : Value} {w : World} {R : Value → World → Prop} {E : Pan} (h : c5e x0 x1 x2 w R E) : Cv Tryd.prog 131 #[x0, x1, x2] w R E := by
 refine g7 (args := [x0, x1, x2]) (c := e3N) (h := e3O) (rs := [.tmp 5]) Tryd.func131 (by kernel_rfl) (by kernel_rfl) (Nat.le_of_ble_eq_true (by kernel_rfl)) (by kernel_rfl) (by kernel_rfl) (by kernel_rfl) ?_
 rw [← d5R]
 exact h
def b7Z (x3 x59 : Value) (w : World) (R : Value → World → Prop) (E : Pan) : Prop :=
 ∀ _τ : Fr, (xcond x59
 (opK Tryd.prog E (xBin .eql 3 (.tmp 65) (.const (Value.int .i64 2)) x3 (Value.int .i64 2)) w fun e3P a1l =>
 R e3P a1l)
 (R (Value.bool false) w))
def b8a (x3 x38 x54 : Value) (w : World) (R : Value → World → Prop) (E : Pan) : Prop :=
 ∀ _τ : Fr, (xcond x54
 (opK Tryd.prog E (xBin .eql 3 (.tmp 57) (.const (Value.int .i64 1)) x3 (Value.int .i64 1)) w fun e3Q a1b =>
 R e3Q a1b)
 (xcut (fun a2Z a0O => b7Z x3 (nth a2Z 0) a0O R E) fun j3 =>
 opK Tryd.prog E (xBin .eql 3 (.tmp 38) (.const (Value.int .i64 6)) x38 (Value.int .i64 6)) w fun a8S a2O =>
 xcond a8S
 (j3 [a8S] a2O)
 (opK Tryd.prog E (xBin .eql 3 (.tmp 38) (.const (Value.int .i64 7)) x38 (Value.int .i64 7)) a2O fun c9y a3G =>
 xcond c9y
 (j3 [c9y] a3G)
 (opK Tryd.prog E (xBin .eql 3 (.tmp 38) (.const (Value.int .i64 8)) x38 (Value.int .i64 8)) a3G fun c9z a4u =>
 xcond c9z
 (j3 [c9z] a4u)
 (opK Tryd.prog E (xBin .eql 3 (.tmp 38) (.const (Value.int .i64 9)) x38 (Value.int .i64 9)) a4u fun c9A a3H =>
 xcond c9A
 (j3 [c9A] a3H)
 (opK Tryd.prog E (xBin .eql 3 (.tmp 38) (.const (Value.int .i64 10)) x38 (Value.int .i64 10)) a3H fun e3R a4S =>
 j3 [e3R] a4S))))))
def b8b (x3 x38 x49 : Value) (w : World) (R : Value → World → Prop) (E : Pan) : Prop :=
 ∀ _τ : Fr, (xcond x49
 (opK Tryd.prog E (xBin .eql 3 (.tmp 52) (.const (Value.int .i64 0)) x3 (Value.int .i64 0)) w fun b3N a0Z =>
 R b3N a0Z)
 (xcut (fun f2C a4T => b8a x3 x38 (nth f2C 0) a4T R E) fun j2 =>
 opK Tryd.prog E (xBin .eql 3 (.tmp 38) (.const (Value.int .i64 4)) x38 (Value.int .i64 4)) w fun c9B a3I =>
 xcond c9B
 (j2 [c9B] a3I)
 (opK Tryd.prog E (xBin .eql 3 (.tmp 38) (.const (Value.int .i64 5)) x38 (Value.int .i64 5)) a3I fun e3S a4v =>
 j2 [e3S] a4v)))
def c5f (x0 : Value) (w : World) (R : Value → World → Prop) (E : Pan) : Prop :=
 opK Tryd.prog E (xV (Instr.box 96 x0)) w fun A5 w_2 =>
 opK Tryd.prog E (xV (Instr.fieldAt 96 A5 0)) w_2 fun c1o w_4 =>
 opK Tryd.prog E (xV (Instr.fieldAt 30 c1o 3)) w_4 fun b5C w_6 =>
 opK Tryd.prog E (xV (Instr.loadAt 28 b5C)) w_6 fun a4V w_8 =>
 opK Tryd.prog E (xBuiltin .len #[28] 3 [false] [a4V]) w_8 fun b0t k9 =>
 opK Tryd.prog E (xV (Instr.loadAt 96 A5)) k9 fun b3s k6 =>
 opK Tryd.prog E (xV (Instr.makeInterface 96 b3s)) k6 fun c1e o2 =>
 opK Tryd.prog E (xCall (Value.func (.func 114) #[] #[]) [c1e]) o2 fun b1d p5 =>
 opK Tryd.prog E (xV (Instr.extract b1d 0)) p5 fun _t14_17 p9 =>
 opK Tryd.prog E (xV (Instr.extract b1d 1)) p9 fun a8C o9 =>
 opK Tryd.prog E (xV (Instr.fieldAt 96 A5 0)) o9 fun a8D r7 =>
 opK Tryd.prog E (xV (Instr.fieldAt 30 a8D 0)) r7 fun b3p p8 =>
 opK Tryd.prog E (xV (Instr.loadAt 3 b3p)) p8 fun a3x u4 =>
 opK Tryd.prog E (xBin .neq 3 (.tmp 18) (.const (Value.int .i64 1)) a3x (Value.int .i64 1)) u4 fun a3T u7 =>
 opK Tryd.prog E (gsem (asB a3T) true (xV (Instr.fieldAt 96 A5 0))) u7 fun c0B o5 =>
 opK Tryd.prog E (gsem (asB a3T) true (xV (Instr.fieldAt 30 c0B 1))) o5 fun c0C y8 =>
 opK Tryd.prog E (gsem (asB a3T) true (xV (Instr.loadAt 2 c0C))) y8 fun c0D v2 =>
 opK Tryd.prog E (gsem (asB a3T) true (xBin .neq 2 (.tmp 23) (.const (Value.int .i64 0)) c0D (Value.int .i64 0))) v2 fun b3q A7 =>
 opK Tryd.prog E (xPick a3T b3q (Value.bool false)) A7 fun a2M A9 =>
 opK Tryd.prog E (gsem (asB a2M) false (xV (Op.unary .not (gval (asB a2M) false a8C)))) A9 fun a8U C7 =>
 opK Tryd.prog E (gsem (asB (gval (asB a2M) false a8U)) true (xV (Instr.fieldAt 96 A5 0))) C7 fun c1p I9 =>
 opK Tryd.prog E (gsem (asB (gval (asB a2M) false a8U)) true (xV (Instr.fieldAt 30 c1p 2))) I9 fun c1q I0 =>
 opK Tryd.prog E (gsem (asB (gval (asB a2M) false a8U)) true (xV (Instr.loadAt 9 c1q))) I0 fun b3O K3 =>
 opK Tryd.prog E (gsem (asB (gval (asB a2M) false a8U)) true (xBin .neq 9 (.tmp 32) (.const (Value.string ⟨#[]⟩)) b3O (Value.string ⟨#[]⟩))) K3 fun b3P J6 =>
 opK Tryd.prog E (gsem (asB a2M) false (xPick (gval (asB a2M) false a8U) b3P (Value.bool false))) J6 fun b3Q J7 =>
 opK Tryd.prog E (xPick a2M (Value.bool true) b3Q) J7 fun c1r N4 =>
 xcond c1r
 (R (Value.bool false) N4)
 (opK Tryd.prog E (xV (Instr.fieldAt 96 A5 0)) N4 fun c1g N9 =>
 opK Tryd.prog E (xV (Instr.fieldAt 30 c1g 0)) N9 fun e3T R5 =>
 opK Tryd.prog E (xV (Instr.loadAt 3 e3T)) R5 fun b6V O0 =>
 opK Tryd.prog E (xBin .eql 3 (.tmp 38) (.const (Value.int .i64 1)) b6V (Value.int .i64 1)) O0 fun e3U T2 =>
 xcond e3U
 (opK Tryd.prog E (xV (Instr.fieldAt 96 A5 0)) T2 fun e3V X7 =>
 opK Tryd.prog E (xV (Instr.fieldAt 30 e3V 1)) X7 fun e3W R2 =>
 opK Tryd.prog E (xV (Instr.loadAt 2 e3W)) R2 fun e3X U8 =>
 opK Tryd.prog E (xBin .geq 2 (.tmp 43) (.const (Value.int .i64 0)) e3X (Value.int .i64 0)) U8 fun c1s X8 =>
 opK Tryd.prog E (gsem (asB c1s) true (xBin .eql 3 (.tmp 46) (.const (Value.int .i64 0)) (gval (asB c1s) true b0t) (Value.int .i64 0))) X8 fun e3Y W5 =>
 opK Tryd.prog E (xPick c1s e3Y (Value.bool false)) W5 fun e3Z Z5 =>
 R e3Z Z5)
 (xcut (fun e4a a4U => b8b b0t b6V (nth e4a 0) a4U R E) fun j1 =>
 opK Tryd.prog E (xBin .eql 3 (.tmp 38) (.const (Value.int .i64 2)) b6V (Value.int .i64 2)) T2 fun c9C a2X =>
 xcond c9C
 (j1 [c9C] a2X)
 (opK Tryd.prog E (xBin .eql 3 (.tmp 38) (.const (Value.int .i64 3)) b6V (Value.int .i64 3)) a2X fun d5T a3O =>
 j1 [d5T] a3O)))
noncomputable def e4b : Code := Tryd.f148.body.getD .skip
def e4c : Hint := (.seq .none (.seq .none (.seq .none (.seq (.seq .none (.cond (.seq .none .none) .none)) (.seq (.seq .none (.block (.seq .none (.cond (.seq .none .none) (.cut [49] (.seq .none (.cond .none .none)) (.cond (.seq .none .none) (.cut [54] (.seq .none (.cond .none .none)) (.cond (.seq .none .none) (.cut [59] (.seq .none (.cond .none (.seq .none (.cond .none (.seq .none (.cond .none (.seq .none (.cond .none .none)))))))) (.cond (.seq .none .none) .none)))))))))) (.seq .none .none))))))
theorem d5U (x0 : Value) (w : World) (R : Value → World → Prop) (E : Pan) : c5f x0 w R E = callX Tryd.prog [.tmp 2] e4b e4c [x0] w R E := by kernel_rfl
theorem d5V {x0 : Value} {w : World} {R : Value → World → Prop} {E : Pan} (h : c5f x0 w R E) : Cv Tryd.prog 148 #[x0] w R E := by
 refine g7 (args := [x0]) (c := e4b) (h := e4c) (rs := [.tmp 2]) Tryd.func148 (by kernel_rfl) (by kernel_rfl) (Nat.le_of_ble_eq_true (by kernel_rfl)) (by kernel_rfl) (by kernel_rfl) (by kernel_rfl) ?_
 rw [← d5U]
 exact h
def c5g (x0 : Value) (w : World) (R : Value → World → Prop) (E : Pan) : Prop :=
 opK Tryd.prog E (xV (Instr.box 96 x0)) w fun A5 w_2 =>
 opK Tryd.prog E (xV (Instr.fieldAt 96 A5 0)) w_2 fun B9 w_4 =>
 opK Tryd.prog E (xV (Instr.fieldAt 30 B9 3)) w_4 fun a2v w_6 =>
 opK Tryd.prog E (xV (Instr.loadAt 28 a2v)) w_6 fun a4R w_8 =>
 opK Tryd.prog E (xCall (Value.func (.func 150) #[] #[]) [a4R, (Value.func (.func 151) #[] #[])]) w_8 fun a8E k9 =>
 R a8E k9
noncomputable def e4d : Code := Tryd.f149.body.getD .skip
def e4e : Hint := (.seq .none (.seq .none .none))
theorem d5W (x0 : Value) (w : World) (R : Value → World → Prop) (E : Pan) : c5g x0 w R E = callX Tryd.prog [.tmp 2] e4d e4e [x0] w R E := by kernel_rfl
theorem d5X {x0 : Value} {w : World} {R : Value → World → Prop} {E : Pan} (h : c5g x0 w R E) : Cv Tryd.prog 149 #[x0] w R E := by
 refine g7 (args := [x0]) (c := e4d) (h := e4e) (rs := [.tmp 2]) Tryd.func149 (by kernel_rfl) (by kernel_rfl) (Nat.le_of_ble_eq_true (by kernel_rfl)) (by kernel_rfl) (by kernel_rfl) (by kernel_rfl) ?_
 rw [← d5W]
 exact h
def b8c (x5 : Value) (w : World) (R : Value → World → Prop) (_E : Pan) : Prop :=
 ∀ _τ : Fr, (R x5 w)
def c3Z (x1 x5 x8 x9 x10 : Value) (w : World) (next2 : List Value → World → Prop) (j1 : List Value → World → Prop) (_R : Value → World → Prop) (E : Pan) : Prop :=
 opK Tryd.prog E (xBin .lss 3 (.tmp 10) (.tmp 9) x10 x9) w fun a8c w_6 =>
 xcond a8c
 (opK Tryd.prog E (xV (Instr.indexAt 28 x8 x10)) w_6 fun a5Z w_8 =>
 opK Tryd.prog E (xV (Instr.loadAt 30 a5Z)) w_8 fun a6a k9 =>
 opK Tryd.prog E (xV (Instr.alloc 30 true (.tuple #[]))) k9 fun a4m k6 =>
 opK Tryd.prog E (xU (Instr.storeAt 30 a4m a6a)) k6 fun _z_13 o2 =>
 opK Tryd.prog E (xV (Instr.loadAt 30 a4m)) o2 fun a3A p5 =>
 opK Tryd.prog E (xCall x1 [a3A]) p5 fun a3X p9 =>
 opK Tryd.prog E (xV (Instr.buildSlice 97 1 #[(0, a3X)])) p9 fun a3Y o9 =>
 opK Tryd.prog E (xBuiltin .append #[97, 97] 97 [false, false] [x5, a3Y]) o9 fun a6f r7 =>
 opK Tryd.prog E (xBin .add 3 (.tmp 10) (.const (Value.int .i64 1)) x10 (Value.int .i64 1)) r7 fun a6g p8 =>
 next2 [a6f, a6g] p8)
 (j1 [x5] w_6)
def c5h (x0 x1 : Value) (w : World) (R : Value → World → Prop) (E : Pan) : Prop :=
 xcut (fun l_1 w_2 => b8c (nth l_1 0) w_2 R E) fun j1 =>
 opK Tryd.prog E (xBuiltin .len #[28] 3 [false] [x0]) w fun a3U w_4 =>
 xloop [5, 10] [(Value.slice none 0 0), (Value.int .i64 0)] w_4 fun τ_25 u4 next2 =>
 c3Z x1 (τ_25 5) x0 a3U (τ_25 10) u4 next2 j1 R E
noncomputable def e4f : Code := Tryd.f150.body.getD .skip
def e4g : Hint := (.seq .none (.seq .none (.cut [5] (.seq .none (.block (.loop [5, 10] (.seq .none (.seq (.cond .none .none) (.seq (.block (.seq .none .none)) .none)))))) (.seq .none .none))))
theorem d5Y (x0 x1 : Value) (w : World) (R : Value → World → Prop) (E : Pan) : c5h x0 x1 w R E = callX Tryd.prog [.tmp 4] e4f e4g [x0, x1] w R E := by kernel_rfl
theorem d5Z {x0 x1 : Value} {w : World} {R : Value → World → Prop} {E : Pan} (h : c5h x0 x1 w R E) : Cv Tryd.prog 150 #[x0, x1] w R E := by
 refine g7 (args := [x0, x1]) (c := e4f) (h := e4g) (rs := [.tmp 4]) Tryd.func150 (by kernel_rfl) (by kernel_rfl) (Nat.le_of_ble_eq_true (by kernel_rfl)) (by kernel_rfl) (by kernel_rfl) (by kernel_rfl) ?_
 rw [← d5Y]
 exact h
def c5i (x0 : Value) (w : World) (R : Value → World → Prop) (E : Pan) : Prop :=
 opK Tryd.prog E (xV (Instr.box 30 x0)) w fun A5 w_2 =>
 opK Tryd.prog E (xV (Instr.loadAt 30 A5)) w_2 fun B9 w_4 =>
 opK Tryd.prog E (xV (Instr.build 96 #[(0, B9)])) w_4 fun a2v w_6 =>
 opK Tryd.prog E (xV (Instr.makeInterface 96 a2v)) w_6 fun a4R w_8 =>
 R a4R w_8
noncomputable def e4h : Code := Tryd.f151.body.getD .skip
def e4i : Hint := (.seq .none (.seq .none .none))
theorem d6a (x0 : Value) (w : World) (R : Value → World → Prop) (E : Pan) : c5i x0 w R E = callX Tryd.prog [.tmp 2] e4h e4i [x0] w R E := by kernel_rfl
theorem d6b {x0 : Value} {w : World} {R : Value → World → Prop} {E : Pan} (h : c5i x0 w R E) : Cv Tryd.prog 151 #[x0] w R E := by
 refine g7 (args := [x0]) (c := e4h) (h := e4i) (rs := [.tmp 2]) Tryd.func151 (by kernel_rfl) (by kernel_rfl) (Nat.le_of_ble_eq_true (by kernel_rfl)) (by kernel_rfl) (by kernel_rfl) (by kernel_rfl) ?_
 rw [← d6a]
 exact h
def b8d (x3 x50 : Value) (w : World) (R : Value → World → Prop) (E : Pan) : Prop :=
 ∀ _τ : Fr, (xcond x50
 (opK Tryd.prog E (xV (Instr.loadAt 209 x3)) w fun e4j a3H =>
 opK Tryd.prog E (xV (Instr.build 209 #[(0, (Value.int .i64 0)), (1, (Value.int .i64 2))])) a3H fun e4k a4S =>
 opK Tryd.prog E (xBin .eql 209 (.tmp 53) (.tmp 54) e4j e4k) a4S fun e4l a4T =>
 R e4l a4T)
 (R (Value.bool false) w))
def b8e (x3 x38 x39 : Value) (w : World) (R : Value → World → Prop) (E : Pan) : Prop :=
 ∀ _τ : Fr, (xcond x39
 (opK Tryd.prog E (xV (Instr.loadAt 209 x3)) w fun e4m a0Z =>
 opK Tryd.prog E (xV (Instr.build 209 #[])) a0Z fun e4n a1b =>
 opK Tryd.prog E (xBin .eql 209 (.tmp 42) (.tmp 43) e4m e4n) a1b fun e4o a1l =>
 R e4o a1l)
 (opK Tryd.prog E (xBin .eql 3 (.tmp 38) (.const (Value.int .i64 4)) x38 (Value.int .i64 4)) w fun e4p a0O =>
 xcond e4p
 (opK Tryd.prog E (xV (Instr.loadAt 209 x3)) a0O fun e4q a2O =>
 opK Tryd.prog E (xV (Instr.build 209 #[(0, (Value.int .i64 0)), (1, (Value.int .i64 1))])) a2O fun e4r a3G =>
 opK Tryd.prog E (xBin .eql 209 (.tmp 47) (.tmp 48) e4q e4r) a3G fun e4s a4u =>
 R e4s a4u)
 (xcut (fun c1t a3I => b8d x3 (nth c1t 0) a3I R E) fun j2 =>
 opK Tryd.prog E (xBin .eql 3 (.tmp 38) (.const (Value.int .i64 5)) x38 (Value.int .i64 5)) a0O fun c9D a4v =>
 xcond c9D
 (j2 [c9D] a4v)
 (opK Tryd.prog E (xBin .eql 3 (.tmp 38) (.const (Value.int .i64 6)) x38 (Value.int .i64 6)) a4v fun c0V a4U =>
 j2 [c0V] a4U))))
def c5j (x0 : Value) (w : World) (R : Value → World → Prop) (E : Pan) : Prop :=
 opK Tryd.prog E (xV (Instr.box 106 x0)) w fun A5 w_2 =>
 opK Tryd.prog E (xV (Instr.fieldAt 106 A5 0)) w_2 fun b0p w_4 =>
 opK Tryd.prog E (xV (Instr.fieldAt 33 b0p 2)) w_4 fun a5T w_6 =>
 opK Tryd.prog E (xV (Instr.loadAt 28 a5T)) w_6 fun a6S w_8 =>
 opK Tryd.prog E (xBuiltin .len #[28] 3 [false] [a6S]) w_8 fun b5z k9 =>
 opK Tryd.prog E (xV (Instr.fieldAt 106 A5 0)) k9 fun a5X k6 =>
 opK Tryd.prog E (xV (Instr.fieldAt 33 a5X 3)) k6 fun U4 o2 =>
 opK Tryd.prog E (xV (Instr.loadAt 31 U4)) o2 fun c1u p5 =>
 opK Tryd.prog E (xBuiltin .len #[31] 3 [false] [c1u]) p5 fun c1v p9 =>
 opK Tryd.prog E (xV (Instr.build 209 #[(0, b5z), (1, c1v)])) p9 fun c1w o9 =>
 opK Tryd.prog E (xV (Instr.alloc 209 true (.tuple #[]))) o9 fun c5k r7 =>
 opK Tryd.prog E (xU (Instr.storeAt 209 c5k c1w)) r7 fun _z_23 p8 =>
 opK Tryd.prog E (xV (Instr.fieldAt 106 A5 0)) p8 fun e4t u4 =>
 opK Tryd.prog E (xV (Instr.fieldAt 33 e4t 0)) u4 fun e4u u7 =>
 opK Tryd.prog E (xV (Instr.loadAt 3 e4u)) u7 fun e4v o5 =>
 opK Tryd.prog E (xBin .eql 3 (.tmp 15) (.const (Value.int .i64 3)) e4v (Value.int .i64 3)) o5 fun e4w y8 =>
 xcond e4w
 (opK Tryd.prog E (xV (Instr.fieldAt 106 A5 0)) y8 fun c1b v2 =>
 opK Tryd.prog E (xV (Instr.fieldAt 33 c1b 1)) v2 fun b3R A7 =>
 opK Tryd.prog E (xV (Instr.loadAt 3 b3R)) A7 fun e4x A9 =>
 opK Tryd.prog E (xBin .geq 3 (.tmp 19) (.const (Value.int .i64 1)) e4x (Value.int .i64 1)) A9 fun b3V C7 =>
 opK Tryd.prog E (gsem (asB b3V) true (xV (Instr.fieldAt 106 A5 0))) C7 fun e4y I9 =>
 opK Tryd.prog E (gsem (asB b3V) true (xV (Instr.fieldAt 33 e4y 1))) I9 fun e4z I0 =>
 opK Tryd.prog E (gsem (asB b3V) true (xV (Instr.loadAt 3 e4z))) I0 fun e4A K3 =>
 opK Tryd.prog E (gsem (asB b3V) true (xBin .leq 3 (.tmp 24) (.const (Value.int .i64 6)) e4A (Value.int .i64 6))) K3 fun e4B J6 =>
 opK Tryd.prog E (xPick b3V e4B (Value.bool false)) J6 fun b6W J7 =>
 opK Tryd.prog E (gsem (asB b6W) true (xV (Instr.loadAt 209 c5k))) J7 fun b3W N4 =>
 opK Tryd.prog E (gsem (asB b6W) true (xV (Instr.build 209 #[(0, (Value.int .i64 2)), (1, (Value.int .i64 0))]))) N4 fun e4C N9 =>
 opK Tryd.prog E (gsem (asB b6W) true (xBin .eql 209 (.tmp 28) (.tmp 29) b3W e4C)) N9 fun e4D R5 =>
 opK Tryd.prog E (xPick b6W e4D (Value.bool false)) R5 fun e4E O0 =>
 R e4E O0)
 (opK Tryd.prog E (xV (Instr.fieldAt 106 A5 0)) y8 fun e4F T2 =>
 opK Tryd.prog E (xV (Instr.fieldAt 33 e4F 1)) T2 fun e4G X7 =>
 opK Tryd.prog E (xV (Instr.loadAt 3 e4G)) X7 fun e4H R2 =>
 opK Tryd.prog E (xBin .neq 3 (.tmp 34) (.const (Value.int .i64 0)) e4H (Value.int .i64 0)) R2 fun e4I U8 =>
 xcond e4I
 (R (Value.bool false) U8)
 (opK Tryd.prog E (xV (Instr.fieldAt 106 A5 0)) U8 fun e4J X8 =>
 opK Tryd.prog E (xV (Instr.fieldAt 33 e4J 0)) X8 fun b9R W5 =>
 opK Tryd.prog E (xV (Instr.loadAt 3 b9R)) W5 fun c1x Z5 =>
 xcut (fun f2D a2X => b8e c5k c1x (nth f2D 0) a2X R E) fun j1 =>
 opK Tryd.prog E (xBin .eql 3 (.tmp 38) (.const (Value.int .i64 1)) c1x (Value.int .i64 1)) Z5 fun c4a a3O =>
 xcond c4a
 (j1 [c4a] a3O)
 (opK Tryd.prog E (xBin .eql 3 (.tmp 38) (.const (Value.int .i64 2)) c1x (Value.int .i64 2)) a3O fun d6c a4K =>
 j1 [d6c] a4K)))
noncomputable def e4K : Code := Tryd.f152.body.getD .skip
def e4L : Hint := (.seq .none (.seq .none (.seq (.seq .none (.cond (.seq .none .none) .none)) (.seq (.seq .none (.cond (.seq .none .none) .none)) (.seq (.seq .none (.block (.cut [39] (.seq .none (.cond .none .none)) (.cond (.seq .none .none) (.seq .none (.cond (.seq .none .none) (.cut [50] (.seq .none (.cond .none .none)) (.cond (.seq .none .none) .none)))))))) (.seq .none .none))))))
theorem d6d (x0 : Value) (w : World) (R : Value → World → Prop) (E : Pan) : c5j x0 w R E = callX Tryd.prog [.tmp 2] e4K e4L [x0] w R E := by kernel_rfl
theorem d6e {x0 : Value} {w : World} {R : Value → World → Prop} {E : Pan} (h : c5j x0 w R E) : Cv Tryd.prog 152 #[x0] w R E := by
 refine g7 (args := [x0]) (c := e4K) (h := e4L) (rs := [.tmp 2]) Tryd.func152 (by kernel_rfl) (by kernel_rfl) (Nat.le_of_ble_eq_true (by kernel_rfl)) (by kernel_rfl) (by kernel_rfl) (by kernel_rfl) ?_
 rw [← d6d]
 exact h
def c5l (x0 : Value) (w : World) (R : Value → World → Prop) (E : Pan) : Prop :=
 opK Tryd.prog E (xV (Instr.box 106 x0)) w fun A5 w_2 =>
 dX w_2 fun w_3 =>
 qP Tryd.prog (xV (Instr.fieldAt 106 A5 0)) fun b7N =>
 qP Tryd.prog (xV (Instr.fieldAt 33 b7N 2)) fun a2v =>
 qP Tryd.prog (xV (Instr.fieldAt 106 A5 0)) fun d0T =>
 qP Tryd.prog (xV (Instr.fieldAt 33 d0T 3)) fun a4V =>
 qL Tryd.prog w_3 (blk a2v) (xV (Instr.loadAt 28 a2v)) fun d0Q =>
 qL Tryd.prog w_3 (blk a4V) (xV (Instr.loadAt 31 a4V)) fun b0t =>
 opK Tryd.prog E (xCall (Value.func (.func 150) #[] #[]) [d0Q, (Value.func (.func 151) #[] #[])]) w_3 fun e9z a1m =>
 keepX [(blk a4V)] w_3 a1m (opK Tryd.prog E (xCall (Value.func (.func 154) #[] #[]) [b0t, (Value.func (.func 155) #[] #[])]) a1m fun e4M a2N =>
 keepX [] a1m a2N (opK Tryd.prog E (xV (Instr.buildSlice 172 2 #[(0, e9z), (1, e4M)])) a2N fun e4N b3I =>
 keepX [] a2N b3I (opK Tryd.prog E (xCall (Value.func (.func 94) #[] #[]) [e4N]) b3I fun e4O a3J =>
 keepX [] b3I a3J (R e4O a3J))))
noncomputable def e4P : Code := Tryd.f153.body.getD .skip
def e4Q : Hint := (.seq .none (.seq (.reg [(0, 8, 2), (1, 16, 8), (2, 32, 16), (4, 64, 32), (0, 128, 2), (16, 256, 128), (32, 512, 256), (72, 1024, 512), (136, 2048, 1088), (384, 4096, 2048), (1023, 4, 4096)] [68, 68, 64, 64, 68, 68, 4, 0, 0, 0, 68] (.early 0 (.early 1 (.early 4 (.early 5 (.load 2 (.load 6 (.step 3 (.step 7 (.step 8 (.step 9 (.early 10 .done)))))))))))) .none))
theorem d6f (x0 : Value) (w : World) (R : Value → World → Prop) (E : Pan) : c5l x0 w R E = callX Tryd.prog [.tmp 2] e4P e4Q [x0] w R E := by kernel_rfl
theorem d6g {x0 : Value} {w : World} {R : Value → World → Prop} {E : Pan} (h : c5l x0 w R E) : Cv Tryd.prog 153 #[x0] w R E := by
 refine g7 (args := [x0]) (c := e4P) (h := e4Q) (rs := [.tmp 2]) Tryd.func153 (by kernel_rfl) (by kernel_rfl) (Nat.le_of_ble_eq_true (by kernel_rfl)) (by kernel_rfl) (by kernel_rfl) (by kernel_rfl) ?_
 rw [← d6f]
 exact h
end Go.Proofs.YthldnpmfelniiaaDoor
