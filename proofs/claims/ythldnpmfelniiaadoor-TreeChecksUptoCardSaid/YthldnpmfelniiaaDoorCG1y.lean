/- The second reading of some of the program's functions, printed by gen2.py off the code; each is held against the code by the kernel. -/
import Derived.Test.YthldnpmfelniiaaDoorProg
import Derived.Test.YthldnpmfelniiaaDoorCK0
import Derived.KernelRfl
namespace Go.Proofs.YthldnpmfelniiaaDoor
open Go.RowKit
set_option maxRecDepth 100000
def F6 (x0 : Value) (w : World) (R : Value → World → Prop) (E : Pan) : Prop :=
 opK Tryd.prog E (xV (Instr.box 25 x0)) w fun t6 w_2 =>
 opK Tryd.prog E (xCall (Value.func (.func 14) #[] #[]) []) w_2 fun c8W w_4 =>
 opK Tryd.prog E (xV (Op.unary .not c8W)) w_4 fun c8X w_6 =>
 xcond c8X
 (R (Value.bool false) w_6)
 (opK Tryd.prog E (xV (Instr.loadAt 25 t6)) w_6 fun b9M w_8 =>
 opK Tryd.prog E (xCall (Value.func (.func 23) #[] #[]) [b9M]) w_8 fun b0l m1 =>
 opK Tryd.prog E (xV (Instr.loadAt 25 t6)) m1 fun c6U k6 =>
 opK Tryd.prog E (xCall (Value.func (.func 24) #[] #[]) [c6U]) k6 fun a5t o3 =>
 opK Tryd.prog E (xV (Instr.extract a5t 0)) o3 fun a4M q7 =>
 opK Tryd.prog E (xV (Instr.extract a5t 1)) q7 fun f5s r6 =>
 opK Tryd.prog E (xV (Instr.loadAt 25 t6)) r6 fun f5t o7 =>
 opK Tryd.prog E (xCall (Value.func (.func 25) #[] #[]) [f5t]) o7 fun d4l r7 =>
 opK Tryd.prog E (xV (Instr.extract d4l 0)) r7 fun d4m r5 =>
 opK Tryd.prog E (xV (Instr.extract d4l 1)) r5 fun f5u u6 =>
 opK Tryd.prog E (xV (Instr.loadAt 25 t6)) u6 fun b0S v8 =>
 opK Tryd.prog E (xCall (Value.func (.func 26) #[] #[]) [b0S]) v8 fun a7D t7 =>
 opK Tryd.prog E (xV (Instr.extract a7D 0)) t7 fun c0s y8 =>
 opK Tryd.prog E (xV (Instr.extract a7D 1)) y8 fun f5v A8 =>
 opK Tryd.prog E (xV (Instr.loadAt 25 t6)) A8 fun f5w B2 =>
 opK Tryd.prog E (xCall (Value.func (.func 27) #[] #[]) [f5w]) B2 fun f5x v2 =>
 opK Tryd.prog E (xBin .neq 3 (.tmp 32) (.tmp 33) f5x b0l) v2 fun c0G C3 =>
 opK Tryd.prog E (gsem (asB c0G) false (xBin .neq 3 (.tmp 36) (.tmp 37) (gval (asB c0G) false f5s) (gval (asB c0G) false b0l))) C3 fun f5y G5 =>
 opK Tryd.prog E (xPick c0G (Value.bool true) f5y) G5 fun c0H E5 =>
 opK Tryd.prog E (gsem (asB c0H) false (xBin .neq 3 (.tmp 41) (.tmp 42) (gval (asB c0H) false f5u) (gval (asB c0H) false b0l))) E5 fun f5z K0 =>
 opK Tryd.prog E (xPick c0H (Value.bool true) f5z) K0 fun c0I I8 =>
 opK Tryd.prog E (gsem (asB c0I) false (xBin .neq 3 (.tmp 46) (.tmp 47) (gval (asB c0I) false f5v) (gval (asB c0I) false b0l))) I8 fun f5A I9 =>
 opK Tryd.prog E (xPick c0I (Value.bool true) f5A) I9 fun f5B O7 =>
 xcond f5B
 (R (Value.bool false) O7)
 (opK Tryd.prog E (xBin .neq 3 (.tmp 50) (.const (Value.int .i64 0)) b0l (Value.int .i64 0)) O7 fun f5C P6 =>
 xcond f5C
 (opK Tryd.prog E (xBin .eql 3 (.tmp 52) (.const (Value.int .i64 0)) a4M (Value.int .i64 0)) P6 fun c6V L4 =>
 opK Tryd.prog E (gsem (asB c6V) true (xBin .eql 3 (.tmp 55) (.const (Value.int .i64 0)) (gval (asB c6V) true d4m) (Value.int .i64 0))) L4 fun f5D P7 =>
 opK Tryd.prog E (xPick c6V f5D (Value.bool false)) P7 fun c0J W5 =>
 opK Tryd.prog E (gsem (asB c0J) true (xBuiltin .len #[47] 3 [false] [(gval (asB c0J) true c0s)])) W5 fun f5E a0o =>
 opK Tryd.prog E (gsem (asB c0J) true (xBin .eql 3 (.tmp 60) (.const (Value.int .i64 0)) f5E (Value.int .i64 0))) a0o fun f5F V6 =>
 opK Tryd.prog E (xPick c0J f5F (Value.bool false)) V6 fun f5G a0p =>
 R f5G a0p)
 (opK Tryd.prog E (xV (Instr.loadAt 25 t6)) P6 fun f5H a0F =>
 opK Tryd.prog E (xCall (Value.func (.func 28) #[] #[]) [f5H]) a0F fun d4n O8 =>
 opK Tryd.prog E (xV (Instr.extract d4n 0)) O8 fun f5I a0G =>
 opK Tryd.prog E (xV (Instr.extract d4n 1)) a0G fun f5J a1h =>
 opK Tryd.prog E (xBin .eql 3 (.tmp 68) (.tmp 69) a4M f5I) a1h fun c0K a1i =>
 opK Tryd.prog E (gsem (asB c0K) true (xBin .eql 3 (.tmp 72) (.tmp 73) (gval (asB c0K) true d4m) (gval (asB c0K) true f5J))) a1i fun f5K a1Q =>
 opK Tryd.prog E (xPick c0K f5K (Value.bool false)) a1Q fun b7d a1R =>
 opK Tryd.prog E (gsem (asB b7d) true (xV (Instr.loadAt 25 t6))) a1R fun f5L a2D =>
 opK Tryd.prog E (gsem (asB b7d) true (xCall (Value.func (.func 30) #[] #[]) [f5L])) a2D fun c6t a2R =>
 opK Tryd.prog E (gsem (asB b7d) true (xCall (Value.func (.func 29) #[] #[]) [(gval (asB b7d) true c0s), c6t])) a2R fun c6u a2S =>
 opK Tryd.prog E (xPick b7d c6u (Value.bool false)) a2S fun c6v a2T =>
 R c6v a2T)))
noncomputable def c6 : Code := Tryd.f6.body.getD .skip
def h6 : Hint := (.seq .none (.seq (.seq .none (.cond (.seq .none .none) .none)) (.seq .none (.seq .none (.seq .none (.seq .none (.seq (.seq .none (.cond (.seq .none .none) .none)) (.seq (.seq .none (.cond (.seq .none .none) .none)) (.seq .none (.seq .none .none))))))))))
theorem g1o (x0 : Value) (w : World) (R : Value → World → Prop) (E : Pan) : F6 x0 w R E = callX Tryd.prog [.tmp 2] c6 h6 [x0] w R E := by kernel_rfl
theorem g1p {x0 : Value} {w : World} {R : Value → World → Prop} {E : Pan} (h : F6 x0 w R E) : Cv Tryd.prog 6 #[x0] w R E := by
 refine g8 (args := [x0]) (c := c6) (h := h6) (rs := [.tmp 2]) Tryd.func6 (by kernel_rfl) (by kernel_rfl) (Nat.le_of_ble_eq_true (by kernel_rfl)) (by kernel_rfl) (by kernel_rfl) (by kernel_rfl) ?_
 rw [← g1o]
 exact h
def F26 (x0 : Value) (w : World) (R : Value → World → Prop) (E : Pan) : Prop :=
 opK Tryd.prog E (xV (Instr.box 25 x0)) w fun t6 w_2 =>
 opK Tryd.prog E (xV (Instr.loadAt 25 t6)) w_2 fun a6O w_4 =>
 opK Tryd.prog E (xCall (Value.func (.func 66) #[] #[]) [a6O]) w_4 fun a2Q w_6 =>
 opK Tryd.prog E (xNil a2Q) w_6 fun a4Z w_8 =>
 opK Tryd.prog E (xV (Instr.fieldAt 92 a4Z 2)) w_8 fun a6n m1 =>
 opK Tryd.prog E (xV (Instr.loadAt 34 a6n)) m1 fun b0U k6 =>
 opK Tryd.prog E (xBin .neq 34 (.tmp 10) (.const (Value.int .i64 0)) b0U (Value.int .i64 0)) k6 fun b0V o3 =>
 xcond b0V
 (dX o3 fun a1C =>
 qP Tryd.prog (xNil a2Q) fun b0O =>
 qP Tryd.prog (xV (Instr.fieldAt 92 b0O 2)) fun a0O =>
 qL Tryd.prog a1C (blk a0O) (xV (Instr.loadAt 34 a0O)) fun b0W =>
 R (Value.tuple #[(Value.slice none 0 0), b0W]) a1C)
 (opK Tryd.prog E (xNil a2Q) o3 fun a7z o7 =>
 opK Tryd.prog E (xV (Instr.fieldAt 92 a7z 5)) o7 fun b5R r7 =>
 opK Tryd.prog E (xV (Instr.loadAt 47 b5R)) r7 fun a7F r5 =>
 R (Value.tuple #[a7F, (Value.int .i64 0)]) r5)
noncomputable def c26 : Code := Tryd.f26.body.getD .skip
def h26 : Hint := (.seq .none (.seq .none (.seq (.seq .none (.cond (.seq (.reg [(0, 4096, 16), (1, 8192, 4096), (2, 16384, 8192), (4, 32768, 16384), (0, 4, 0), (31, 8, 32768)] [8, 8, 8, 0, 8, 8] (.early 0 (.early 1 (.early 2 (.early 4 (.load 3 (.early 5 .done))))))) .none) .none)) (.seq .none .none))))
theorem f5M (x0 : Value) (w : World) (R : Value → World → Prop) (E : Pan) : F26 x0 w R E = callX Tryd.prog [.tmp 2, .tmp 3] c26 h26 [x0] w R E := by kernel_rfl
theorem f5N {x0 : Value} {w : World} {R : Value → World → Prop} {E : Pan} (h : F26 x0 w R E) : Cv Tryd.prog 26 #[x0] w R E := by
 refine g8 (args := [x0]) (c := c26) (h := h26) (rs := [.tmp 2, .tmp 3]) Tryd.func26 (by kernel_rfl) (by kernel_rfl) (Nat.le_of_ble_eq_true (by kernel_rfl)) (by kernel_rfl) (by kernel_rfl) (by kernel_rfl) ?_
 rw [← f5M]
 exact h
def F28 (x0 : Value) (w : World) (R : Value → World → Prop) (E : Pan) : Prop :=
 opK Tryd.prog E (xV (Instr.box 25 x0)) w fun t6 w_2 =>
 opK Tryd.prog E (xV (Instr.loadAt 25 t6)) w_2 fun a6O w_4 =>
 opK Tryd.prog E (xCall (Value.func (.func 63) #[] #[]) [a6O]) w_4 fun a2Q w_6 =>
 opK Tryd.prog E (xV (Instr.alloc 99 true (.tuple #[]))) w_6 fun b5S w_8 =>
 opK Tryd.prog E (xU (Instr.storeAt 99 b5S a2Q)) w_8 fun _z_9 m1 =>
 dX m1 fun Y2 =>
 qP Tryd.prog (xV (Instr.fieldAt 99 b5S 1)) fun d9m =>
 qP Tryd.prog (xV (Instr.fieldAt 99 b5S 0)) fun V9 =>
 qL Tryd.prog Y2 (blk d9m) (xV (Instr.loadAt 3 d9m)) fun g1q =>
 qL Tryd.prog Y2 (blk V9) (xV (Instr.loadAt 3 V9)) fun b6t =>
 R (Value.tuple #[g1q, b6t]) Y2
noncomputable def c28 : Code := Tryd.f28.body.getD .skip
def h28 : Hint := (.seq .none (.seq .none (.seq (.reg [(0, 128, 16), (1, 256, 128), (0, 512, 16), (4, 1024, 512), (3, 4, 256), (31, 8, 1024)] [10, 8, 10, 2, 10, 10] (.early 0 (.early 2 (.load 1 (.early 4 (.load 3 (.early 5 .done))))))) .none)))
theorem f5O (x0 : Value) (w : World) (R : Value → World → Prop) (E : Pan) : F28 x0 w R E = callX Tryd.prog [.tmp 2, .tmp 3] c28 h28 [x0] w R E := by kernel_rfl
theorem f5P {x0 : Value} {w : World} {R : Value → World → Prop} {E : Pan} (h : F28 x0 w R E) : Cv Tryd.prog 28 #[x0] w R E := by
 refine g8 (args := [x0]) (c := c28) (h := h28) (rs := [.tmp 2, .tmp 3]) Tryd.func28 (by kernel_rfl) (by kernel_rfl) (Nat.le_of_ble_eq_true (by kernel_rfl)) (by kernel_rfl) (by kernel_rfl) (by kernel_rfl) ?_
 rw [← f5O]
 exact h
def c6W (w : World) (R : Value → World → Prop) (_E : Pan) : Prop :=
 ∀ _τ : Fr, (R (Value.bool true) w)
def d4o (x0 x1 x5 : Value) (w : World) (next2 : List Value → World → Prop) (j1 : List Value → World → Prop) (R : Value → World → Prop) (E : Pan) : Prop :=
 opK Tryd.prog E (xBuiltin .len #[47] 3 [false] [x0]) w fun a6d m1 =>
 opK Tryd.prog E (xBin .lss 3 (.tmp 11) (.tmp 13) x5 a6d) m1 fun b0Y k6 =>
 xcond b0Y
 (dX k6 fun V5 =>
 qP Tryd.prog (xV (Instr.indexAt 47 x0 x5)) fun d4p =>
 qP Tryd.prog (xV (Instr.indexAt 47 x1 x5)) fun d4q =>
 qL Tryd.prog V5 (blk d4p) (xV (Instr.loadAt 9 d4p)) fun f5Q =>
 qL Tryd.prog V5 (blk d4q) (xV (Instr.loadAt 9 d4q)) fun f5R =>
 qP Tryd.prog (xBin .neq 9 (.tmp 20) (.tmp 24) f5Q f5R) fun f5S =>
 xcond f5S
 (R (Value.bool false) V5)
 (opK Tryd.prog E (xBin .add 3 (.tmp 15) (.const (Value.int .i64 1)) x5 (Value.int .i64 1)) V5 fun f5T o7 =>
 next2 [f5T] o7))
 (j1 [] k6)
def F29 (x0 x1 : Value) (w : World) (R : Value → World → Prop) (E : Pan) : Prop :=
 opK Tryd.prog E (xBuiltin .len #[47] 3 [false] [x0]) w fun b4a w_2 =>
 opK Tryd.prog E (xBuiltin .len #[47] 3 [false] [x1]) w_2 fun a5a w_4 =>
 opK Tryd.prog E (xBin .neq 3 (.tmp 7) (.tmp 9) b4a a5a) w_4 fun a2Y w_6 =>
 xcond a2Y
 (R (Value.bool false) w_6)
 (xcut (fun _ w_8 => c6W w_8 R E) fun j1 =>
 xloop [5] [(Value.int .i64 0)] w_6 fun τ_21 r7 next2 =>
 d4o x0 x1 (τ_21 5) r7 next2 j1 R E)
noncomputable def c29 : Code := Tryd.f29.body.getD .skip
def h29 : Hint := (.seq .none (.seq (.seq .none (.cond (.seq .none .none) .none)) (.cut [] (.seq .none (.block (.loop [5] (.seq (.seq .none (.cond .none .none)) (.seq (.block (.seq (.reg [(0, 131072, 1), (0, 262144, 32), (3, 524288, 393216), (4, 1048576, 524288), (0, 2097152, 2), (0, 4194304, 32), (48, 8388608, 6291456), (64, 16777216, 8388608), (136, 33554432, 17825792)] [136, 136, 136, 128, 136, 136, 136, 8, 136] (.early 0 (.early 1 (.early 2 (.early 4 (.early 5 (.early 6 (.load 3 (.load 7 (.early 8 .done)))))))))) (.cond (.seq .none .none) .none))) .none))))) (.seq .none .none))))
theorem f5U (x0 x1 : Value) (w : World) (R : Value → World → Prop) (E : Pan) : F29 x0 x1 w R E = callX Tryd.prog [.tmp 4] c29 h29 [x0, x1] w R E := by kernel_rfl
theorem f5V {x0 x1 : Value} {w : World} {R : Value → World → Prop} {E : Pan} (h : F29 x0 x1 w R E) : Cv Tryd.prog 29 #[x0, x1] w R E := by
 refine g8 (args := [x0, x1]) (c := c29) (h := h29) (rs := [.tmp 4]) Tryd.func29 (by kernel_rfl) (by kernel_rfl) (Nat.le_of_ble_eq_true (by kernel_rfl)) (by kernel_rfl) (by kernel_rfl) (by kernel_rfl) ?_
 rw [← f5U]
 exact h
def c6X (x3 : Value) (w : World) (R : Value → World → Prop) (_E : Pan) : Prop :=
 ∀ _τ : Fr, (R x3 w)
def d4r (x3 x5 x6 : Value) (w : World) (next3 : List Value → World → Prop) (j2 : List Value → World → Prop) (_R : Value → World → Prop) (E : Pan) : Prop :=
 opK Tryd.prog E (xBuiltin .len #[68] 3 [false] [x5]) w fun d1Z m1 =>
 opK Tryd.prog E (xBin .lss 3 (.tmp 24) (.tmp 26) x6 d1Z) m1 fun c6Y k6 =>
 xcond c6Y
 (opK Tryd.prog E (xV (Instr.indexAt 68 x5 x6)) k6 fun b6k o3 =>
 opK Tryd.prog E (xV (Instr.fieldAt 71 b6k 0)) o3 fun b6l q7 =>
 opK Tryd.prog E (xV (Instr.loadAt 9 b6l)) q7 fun c6p r6 =>
 opK Tryd.prog E (xCall (Value.func (.func 67) #[] #[]) [x3, c6p]) r6 fun c6q o7 =>
 opK Tryd.prog E (xBin .add 3 (.tmp 28) (.const (Value.int .i64 1)) x6 (Value.int .i64 1)) o7 fun f5W r7 =>
 next3 [c6q, f5W] r7)
 (j2 [x3] k6)
def c6Z (x1 x3 : Value) (w : World) (R : Value → World → Prop) (E : Pan) : Prop :=
 ∀ _τ : Fr, (opK Tryd.prog E (xV (Instr.loadAt 25 x1)) w fun d2a w_4 =>
 opK Tryd.prog E (xCall (Value.func (.func 37) #[] #[]) [d2a]) w_4 fun g1r w_6 =>
 xcut (fun l_7 w_8 => c6X (nth l_7 0) w_8 R E) fun j2 =>
 xloop [3, 6] [x3, (Value.int .i64 0)] w_6 fun τ_23 r5 next3 =>
 d4r (τ_23 3) g1r (τ_23 6) r5 next3 j2 R E)
def d4s (x1 x3 x4 : Value) (w : World) (next4 : List Value → World → Prop) (j1 : List Value → World → Prop) (_R : Value → World → Prop) (E : Pan) : Prop :=
 opK Tryd.prog E (xV (Instr.fieldAt 25 x1 0)) w fun g1s v8 =>
 opK Tryd.prog E (xV (Instr.loadAt 22 g1s)) v8 fun g1t t7 =>
 opK Tryd.prog E (xBuiltin .len #[22] 3 [false] [g1t]) t7 fun f5X y8 =>
 opK Tryd.prog E (xBin .lss 3 (.tmp 7) (.tmp 10) x4 f5X) y8 fun f5Y A8 =>
 xcond f5Y
 (opK Tryd.prog E (xV (Instr.fieldAt 25 x1 0)) A8 fun f5Z B2 =>
 opK Tryd.prog E (xV (Instr.loadAt 22 f5Z)) B2 fun f6a v2 =>
 opK Tryd.prog E (xV (Instr.indexAt 22 f6a x4)) v2 fun f6b C3 =>
 opK Tryd.prog E (xV (Instr.fieldAt 67 f6b 0)) C3 fun f6c G5 =>
 opK Tryd.prog E (xV (Instr.loadAt 9 f6c)) G5 fun f6d E5 =>
 opK Tryd.prog E (xCall (Value.func (.func 67) #[] #[]) [x3, f6d]) E5 fun f6e K0 =>
 opK Tryd.prog E (xBin .add 3 (.tmp 12) (.const (Value.int .i64 1)) x4 (Value.int .i64 1)) K0 fun c7a I8 =>
 next4 [f6e, c7a] I8)
 (j1 [x3] A8)
def F30 (x0 : Value) (w : World) (R : Value → World → Prop) (E : Pan) : Prop :=
 opK Tryd.prog E (xV (Instr.box 25 x0)) w fun t6 w_2 =>
 xcut (fun b6H u6 => c6Z t6 (nth b6H 0) u6 R E) fun j1 =>
 xloop [3, 4] [(Value.slice none 0 0), (Value.int .i64 0)] w_2 fun τ_49 I9 next4 =>
 d4s t6 (τ_49 3) (τ_49 4) I9 next4 j1 R E
noncomputable def c30 : Code := Tryd.f30.body.getD .skip
def h30 : Hint := (.seq .none (.seq .none (.cut [3] (.seq .none (.block (.loop [3, 4] (.seq (.seq .none (.cond .none .none)) (.seq (.block .none) .none))))) (.seq .none (.cut [3] (.seq .none (.block (.loop [3, 6] (.seq (.seq .none (.cond .none .none)) (.seq (.block .none) .none))))) (.seq .none .none))))))
theorem f6f (x0 : Value) (w : World) (R : Value → World → Prop) (E : Pan) : F30 x0 w R E = callX Tryd.prog [.tmp 2] c30 h30 [x0] w R E := by kernel_rfl
theorem f6g {x0 : Value} {w : World} {R : Value → World → Prop} {E : Pan} (h : F30 x0 w R E) : Cv Tryd.prog 30 #[x0] w R E := by
 refine g8 (args := [x0]) (c := c30) (h := h30) (rs := [.tmp 2]) Tryd.func30 (by kernel_rfl) (by kernel_rfl) (Nat.le_of_ble_eq_true (by kernel_rfl)) (by kernel_rfl) (by kernel_rfl) (by kernel_rfl) ?_
 rw [← f6f]
 exact h
def F37 (x0 : Value) (w : World) (R : Value → World → Prop) (E : Pan) : Prop :=
 opK Tryd.prog E (xV (Instr.box 25 x0)) w fun t6 w_2 =>
 opK Tryd.prog E (xV (Instr.fieldAt 25 t6 1)) w_2 fun F7 w_4 =>
 opK Tryd.prog E (xV (Instr.loadAt 23 F7)) w_4 fun a2P w_6 =>
 opK Tryd.prog E (xCall (Value.func (.func 74) #[] #[]) [(Value.slice none 0 0), a2P]) w_6 fun a4Y w_8 =>
 R a4Y w_8
noncomputable def c37 : Code := Tryd.f37.body.getD .skip
def h37 : Hint := (.seq .none (.seq .none .none))
theorem f6h (x0 : Value) (w : World) (R : Value → World → Prop) (E : Pan) : F37 x0 w R E = callX Tryd.prog [.tmp 2] c37 h37 [x0] w R E := by kernel_rfl
theorem f6i {x0 : Value} {w : World} {R : Value → World → Prop} {E : Pan} (h : F37 x0 w R E) : Cv Tryd.prog 37 #[x0] w R E := by
 refine g8 (args := [x0]) (c := c37) (h := h37) (rs := [.tmp 2]) Tryd.func37 (by kernel_rfl) (by kernel_rfl) (Nat.le_of_ble_eq_true (by kernel_rfl)) (by kernel_rfl) (by kernel_rfl) (by kernel_rfl) ?_
 rw [← f6h]
 exact h
def c7b (x0 x1 : Value) (w : World) (R : Value → World → Prop) (E : Pan) : Prop :=
 ∀ _τ : Fr, (opK Tryd.prog E (xV (Instr.buildSlice 47 1 #[(0, x1)])) w fun g1u w_2 =>
 opK Tryd.prog E (xBuiltin .append #[47, 47] 47 [false, false] [x0, g1u]) w_2 fun d2a w_4 =>
 R d2a w_4)
def d4t (x0 x1 x5 : Value) (w : World) (next2 : List Value → World → Prop) (j1 : List Value → World → Prop) (R : Value → World → Prop) (E : Pan) : Prop :=
 opK Tryd.prog E (xBuiltin .len #[47] 3 [false] [x0]) w fun a4Z w_8 =>
 opK Tryd.prog E (xBin .lss 3 (.tmp 6) (.tmp 8) x5 a4Z) w_8 fun a6n m1 =>
 xcond a6n
 (opK Tryd.prog E (xV (Instr.indexAt 47 x0 x5)) m1 fun b0Y k6 =>
 opK Tryd.prog E (xV (Instr.loadAt 9 b0Y)) k6 fun a9D o3 =>
 opK Tryd.prog E (xBin .eql 9 (.tmp 15) (.tmp 16) a9D x1) o3 fun b6i q7 =>
 xcond b6i
 (R x0 q7)
 (opK Tryd.prog E (xBin .add 3 (.tmp 10) (.const (Value.int .i64 1)) x5 (Value.int .i64 1)) q7 fun b6u r6 =>
 next2 [b6u] r6))
 (j1 [] m1)
def F67 (x0 x1 : Value) (w : World) (R : Value → World → Prop) (E : Pan) : Prop :=
 xcut (fun _ w_6 => c7b x0 x1 w_6 R E) fun j1 =>
 xloop [5] [(Value.int .i64 0)] w fun τ_19 o7 next2 =>
 d4t x0 x1 (τ_19 5) o7 next2 j1 R E
noncomputable def c67 : Code := Tryd.f67.body.getD .skip
def h67 : Hint := (.seq .none (.cut [] (.seq .none (.block (.loop [5] (.seq (.seq .none (.cond .none .none)) (.seq (.block (.seq .none (.cond (.seq .none .none) .none))) .none))))) (.seq .none .none)))
theorem f6j (x0 x1 : Value) (w : World) (R : Value → World → Prop) (E : Pan) : F67 x0 x1 w R E = callX Tryd.prog [.tmp 4] c67 h67 [x0, x1] w R E := by kernel_rfl
theorem f6k {x0 x1 : Value} {w : World} {R : Value → World → Prop} {E : Pan} (h : F67 x0 x1 w R E) : Cv Tryd.prog 67 #[x0, x1] w R E := by
 refine g8 (args := [x0, x1]) (c := c67) (h := h67) (rs := [.tmp 4]) Tryd.func67 (by kernel_rfl) (by kernel_rfl) (Nat.le_of_ble_eq_true (by kernel_rfl)) (by kernel_rfl) (by kernel_rfl) (by kernel_rfl) ?_
 rw [← f6j]
 exact h
def c7c (x0 : Value) (w : World) (R : Value → World → Prop) (_E : Pan) : Prop :=
 ∀ _τ : Fr, (R x0 w)
def c7d (x0 _x1 x5 : Value) (w : World) (next2 : List Value → World → Prop) (_R : Value → World → Prop) (E : Pan) : Prop :=
 ∀ _τ : Fr, (opK Tryd.prog E (xBin .add 3 (.tmp 13) (.const (Value.int .i64 1)) x5 (Value.int .i64 1)) w fun b9M w_8 =>
 next2 [x0, b9M] w_8)
def c7e (x0 _x1 _x5 x6 : Value) (w : World) (j3 : List Value → World → Prop) (_R : Value → World → Prop) (E : Pan) : Prop :=
 ∀ _τ : Fr, (opK Tryd.prog E (xV (Instr.fieldAt 88 x6 4)) w fun f6l o7 =>
 opK Tryd.prog E (xV (Instr.loadAt 23 f6l)) o7 fun f6m r7 =>
 opK Tryd.prog E (xCall (Value.func (.func 74) #[] #[]) [x0, f6m]) r7 fun f6n r5 =>
 opK Tryd.prog E (xV (Instr.fieldAt 88 x6 5)) r5 fun f6o u6 =>
 opK Tryd.prog E (xV (Instr.loadAt 23 f6o)) u6 fun f6p v8 =>
 opK Tryd.prog E (xCall (Value.func (.func 74) #[] #[]) [f6n, f6p]) v8 fun f6q t7 =>
 j3 [f6q] t7)
def d4u (x0 _x1 _x5 x6 x8 : Value) (w : World) (next7 : List Value → World → Prop) (j6 : List Value → World → Prop) (_R : Value → World → Prop) (E : Pan) : Prop :=
 opK Tryd.prog E (xV (Instr.fieldAt 88 x6 2)) w fun c5S A8 =>
 opK Tryd.prog E (xV (Instr.loadAt 28 c5S)) A8 fun c5T B2 =>
 opK Tryd.prog E (xBuiltin .len #[28] 3 [false] [c5T]) B2 fun c5U v2 =>
 opK Tryd.prog E (xBin .lss 3 (.tmp 50) (.tmp 53) x8 c5U) v2 fun b6U C3 =>
 xcond b6U
 (opK Tryd.prog E (xV (Instr.fieldAt 88 x6 2)) C3 fun f6r G5 =>
 opK Tryd.prog E (xV (Instr.loadAt 28 f6r)) G5 fun f6s E5 =>
 opK Tryd.prog E (xV (Instr.indexAt 28 f6s x8)) E5 fun f6t K0 =>
 opK Tryd.prog E (xV (Instr.loadAt 30 f6t)) K0 fun f6u I8 =>
 opK Tryd.prog E (xCall (Value.func (.func 102) #[] #[]) [x0, f6u]) I8 fun f6v I9 =>
 opK Tryd.prog E (xBin .add 3 (.tmp 55) (.const (Value.int .i64 1)) x8 (Value.int .i64 1)) I9 fun f6w O7 =>
 next7 [f6v, f6w] O7)
 (j6 [x0] C3)
def c7f (x0 x1 x5 x6 : Value) (w : World) (j3 : List Value → World → Prop) (R : Value → World → Prop) (E : Pan) : Prop :=
 ∀ _τ : Fr, (xcut (fun f6x y8 => c7e (nth f6x 0) x1 x5 x6 y8 j3 R E) fun j6 =>
 xloop [0, 8] [x0, (Value.int .i64 0)] w fun τ_53 P6 next7 =>
 d4u (τ_53 0) x1 x5 x6 (τ_53 8) P6 next7 j6 R E)
def d4v (x0 _x1 _x5 x6 x7 : Value) (w : World) (next8 : List Value → World → Prop) (j5 : List Value → World → Prop) (_R : Value → World → Prop) (E : Pan) : Prop :=
 opK Tryd.prog E (xV (Instr.fieldAt 88 x6 3)) w fun f6y P7 =>
 opK Tryd.prog E (xV (Instr.loadAt 31 f6y)) P7 fun f6z W5 =>
 opK Tryd.prog E (xBuiltin .len #[31] 3 [false] [f6z]) W5 fun f6A a0o =>
 opK Tryd.prog E (xBin .lss 3 (.tmp 36) (.tmp 39) x7 f6A) a0o fun f6B V6 =>
 xcond f6B
 (opK Tryd.prog E (xV (Instr.fieldAt 88 x6 3)) V6 fun f6C a0p =>
 opK Tryd.prog E (xV (Instr.loadAt 31 f6C)) a0p fun f6D a0F =>
 opK Tryd.prog E (xV (Instr.indexAt 31 f6D x7)) a0F fun c4B O8 =>
 opK Tryd.prog E (xV (Instr.loadAt 33 c4B)) O8 fun c4C a0G =>
 opK Tryd.prog E (xCall (Value.func (.func 101) #[] #[]) [x0, c4C]) a0G fun f6E a1h =>
 opK Tryd.prog E (xBin .add 3 (.tmp 41) (.const (Value.int .i64 1)) x7 (Value.int .i64 1)) a1h fun f6F a1i =>
 next8 [f6E, f6F] a1i)
 (j5 [x0] V6)
def c7g (x0 x1 x5 x6 : Value) (w : World) (j3 : List Value → World → Prop) (R : Value → World → Prop) (E : Pan) : Prop :=
 ∀ _τ : Fr, (xcut (fun g4s L4 => c7f (nth g4s 0) x1 x5 x6 L4 j3 R E) fun j5 =>
 xloop [0, 7] [x0, (Value.int .i64 0)] w fun τ_77 a1Q next8 =>
 d4v (τ_77 0) x1 x5 x6 (τ_77 7) a1Q next8 j5 R E)
def d4w (x0 x1 x5 : Value) (w : World) (next2 : List Value → World → Prop) (j1 : List Value → World → Prop) (R : Value → World → Prop) (E : Pan) : Prop :=
 opK Tryd.prog E (xBuiltin .len #[23] 3 [false] [x1]) w fun c8V w_4 =>
 opK Tryd.prog E (xBin .lss 3 (.tmp 9) (.tmp 11) x5 c8V) w_4 fun b4d w_6 =>
 xcond b4d
 (xcut (fun l_9 m1 => c7d (nth l_9 0) x1 x5 m1 next2 R E) fun j3 =>
 opK Tryd.prog E (xV (Instr.indexAt 23 x1 x5)) w_6 fun c6U k6 =>
 opK Tryd.prog E (xV (Instr.loadAt 88 c6U)) k6 fun a5t o3 =>
 opK Tryd.prog E (xV (Instr.alloc 88 true (.tuple #[]))) o3 fun b2B q7 =>
 opK Tryd.prog E (xU (Instr.storeAt 88 b2B a5t)) q7 fun _z_17 r6 =>
 xcut (fun a7O a1R => c7g (nth a7O 0) x1 x5 b2B a1R j3 R E) fun j4 =>
 opK Tryd.prog E (xV (Instr.fieldAt 88 b2B 0)) r6 fun f6G a2D =>
 opK Tryd.prog E (xV (Instr.loadAt 3 f6G)) a2D fun f6H a2R =>
 opK Tryd.prog E (xBin .eql 3 (.tmp 20) (.const (Value.int .i64 1)) f6H (Value.int .i64 1)) a2R fun c0L a2S =>
 opK Tryd.prog E (gsem (asB c0L) false (xV (Instr.fieldAt 88 b2B 0))) a2S fun f6I a2T =>
 opK Tryd.prog E (gsem (asB c0L) false (xV (Instr.loadAt 3 f6I))) a2T fun f6J a4N =>
 opK Tryd.prog E (gsem (asB c0L) false (xBin .eql 3 (.tmp 24) (.const (Value.int .i64 2)) f6J (Value.int .i64 2))) a4N fun f6K a4O =>
 opK Tryd.prog E (xPick c0L (Value.bool true) f6K) a4O fun f6L a4r =>
 xcond f6L
 (opK Tryd.prog E (xV (Instr.fieldAt 88 b2B 1)) a4r fun f6M a3R =>
 opK Tryd.prog E (xV (Instr.loadAt 9 f6M)) a3R fun f6N a4P =>
 opK Tryd.prog E (xV (Instr.fieldAt 88 b2B 0)) a4P fun f6O a2J =>
 opK Tryd.prog E (xV (Instr.loadAt 3 f6O)) a2J fun e3c a2K =>
 opK Tryd.prog E (xBin .eql 3 (.tmp 31) (.const (Value.int .i64 2)) e3c (Value.int .i64 2)) a2K fun e3d a3D =>
 opK Tryd.prog E (xV (Instr.build 71 #[(0, f6N), (1, e3d)])) a3D fun e3e a4f =>
 opK Tryd.prog E (xV (Instr.buildSlice 68 1 #[(0, e3e)])) a4f fun e3f a5d =>
 opK Tryd.prog E (xBuiltin .append #[68, 68] 68 [false, false] [x0, e3f]) a5d fun e3g a4y =>
 j4 [e3g] a4y)
 (j4 [x0] a4r))
 (j1 [x0] w_6)
def F74 (x0 x1 : Value) (w : World) (R : Value → World → Prop) (E : Pan) : Prop :=
 xcut (fun l_1 w_2 => c7c (nth l_1 0) w_2 R E) fun j1 =>
 xloop [0, 5] [x0, (Value.int .i64 0)] w fun τ_111 a4z next2 =>
 d4w (τ_111 0) x1 (τ_111 5) a4z next2 j1 R E
noncomputable def c74 : Code := Tryd.f74.body.getD .skip
def h74 : Hint := (.seq .none (.cut [0] (.seq .none (.block (.loop [0, 5] (.seq (.seq .none (.cond .none .none)) (.cut [0] (.block (.seq .none (.cut [0] (.seq .none (.cond .none .none)) (.cut [0] (.seq .none (.block (.loop [0, 7] (.seq (.seq .none (.cond .none .none)) (.seq (.block .none) .none))))) (.cut [0] (.seq .none (.block (.loop [0, 8] (.seq (.seq .none (.cond .none .none)) (.seq (.block .none) .none))))) (.seq .none .none)))))) .none))))) (.seq .none .none)))
theorem f6P (x0 x1 : Value) (w : World) (R : Value → World → Prop) (E : Pan) : F74 x0 x1 w R E = callX Tryd.prog [.tmp 4] c74 h74 [x0, x1] w R E := by kernel_rfl
theorem f6Q {x0 x1 : Value} {w : World} {R : Value → World → Prop} {E : Pan} (h : F74 x0 x1 w R E) : Cv Tryd.prog 74 #[x0, x1] w R E := by
 refine g8 (args := [x0, x1]) (c := c74) (h := h74) (rs := [.tmp 4]) Tryd.func74 (by kernel_rfl) (by kernel_rfl) (Nat.le_of_ble_eq_true (by kernel_rfl)) (by kernel_rfl) (by kernel_rfl) (by kernel_rfl) ?_
 rw [← f6P]
 exact h
def c2i (x0 : Value) (w : World) (R : Value → World → Prop) (_E : Pan) : Prop :=
 ∀ _τ : Fr, (R x0 w)
def c8t (x0 x3 x6 : Value) (w : World) (next3 : List Value → World → Prop) (j2 : List Value → World → Prop) (_R : Value → World → Prop) (E : Pan) : Prop :=
 opK Tryd.prog E (xV (Instr.fieldAt 33 x3 3)) w fun g1v w_6 =>
 opK Tryd.prog E (xV (Instr.loadAt 31 g1v)) w_6 fun g1w w_8 =>
 opK Tryd.prog E (xBuiltin .len #[31] 3 [false] [g1w]) w_8 fun g1x m1 =>
 opK Tryd.prog E (xBin .lss 3 (.tmp 21) (.tmp 24) x6 g1x) m1 fun f6R k6 =>
 xcond f6R
 (opK Tryd.prog E (xV (Instr.fieldAt 33 x3 3)) k6 fun f6S o3 =>
 opK Tryd.prog E (xV (Instr.loadAt 31 f6S)) o3 fun f6T q7 =>
 opK Tryd.prog E (xV (Instr.indexAt 31 f6T x6)) q7 fun f6U r6 =>
 opK Tryd.prog E (xV (Instr.loadAt 33 f6U)) r6 fun f6V o7 =>
 opK Tryd.prog E (xCall (Value.func (.func 101) #[] #[]) [x0, f6V]) o7 fun f6W r7 =>
 opK Tryd.prog E (xBin .add 3 (.tmp 26) (.const (Value.int .i64 1)) x6 (Value.int .i64 1)) r7 fun f6X r5 =>
 next3 [f6W, f6X] r5)
 (j2 [x0] k6)
def c2j (x0 x3 : Value) (w : World) (R : Value → World → Prop) (E : Pan) : Prop :=
 ∀ _τ : Fr, (xcut (fun l_3 w_4 => c2i (nth l_3 0) w_4 R E) fun j2 =>
 xloop [0, 6] [x0, (Value.int .i64 0)] w fun τ_25 u6 next3 =>
 c8t (τ_25 0) x3 (τ_25 6) u6 next3 j2 R E)
def c8u (x0 x3 x5 : Value) (w : World) (next4 : List Value → World → Prop) (j1 : List Value → World → Prop) (_R : Value → World → Prop) (E : Pan) : Prop :=
 opK Tryd.prog E (xV (Instr.fieldAt 33 x3 2)) w fun g1y t7 =>
 opK Tryd.prog E (xV (Instr.loadAt 28 g1y)) t7 fun g1z y8 =>
 opK Tryd.prog E (xBuiltin .len #[28] 3 [false] [g1z]) y8 fun f6Y A8 =>
 opK Tryd.prog E (xBin .lss 3 (.tmp 7) (.tmp 10) x5 f6Y) A8 fun f6Z B2 =>
 xcond f6Z
 (opK Tryd.prog E (xV (Instr.fieldAt 33 x3 2)) B2 fun f7a v2 =>
 opK Tryd.prog E (xV (Instr.loadAt 28 f7a)) v2 fun f7b C3 =>
 opK Tryd.prog E (xV (Instr.indexAt 28 f7b x5)) C3 fun f7c G5 =>
 opK Tryd.prog E (xV (Instr.loadAt 30 f7c)) G5 fun f7d E5 =>
 opK Tryd.prog E (xCall (Value.func (.func 102) #[] #[]) [x0, f7d]) E5 fun f7e K0 =>
 opK Tryd.prog E (xBin .add 3 (.tmp 12) (.const (Value.int .i64 1)) x5 (Value.int .i64 1)) K0 fun c7a I8 =>
 next4 [f7e, c7a] I8)
 (j1 [x0] B2)
def d2b (x0 x1 : Value) (w : World) (R : Value → World → Prop) (E : Pan) : Prop :=
 opK Tryd.prog E (xV (Instr.box 33 x1)) w fun a4T w_2 =>
 xcut (fun a6p v8 => c2j (nth a6p 0) a4T v8 R E) fun j1 =>
 xloop [0, 5] [x0, (Value.int .i64 0)] w_2 fun τ_49 I9 next4 =>
 c8u (τ_49 0) a4T (τ_49 5) I9 next4 j1 R E
noncomputable def f7f : Code := Tryd.f101.body.getD .skip
def f7g : Hint := (.seq .none (.cut [0] (.seq .none (.block (.loop [0, 5] (.seq (.seq .none (.cond .none .none)) (.seq (.block .none) .none))))) (.cut [0] (.seq .none (.block (.loop [0, 6] (.seq (.seq .none (.cond .none .none)) (.seq (.block .none) .none))))) (.seq .none .none))))
theorem e3h (x0 x1 : Value) (w : World) (R : Value → World → Prop) (E : Pan) : d2b x0 x1 w R E = callX Tryd.prog [.tmp 4] f7f f7g [x0, x1] w R E := by kernel_rfl
theorem e3i {x0 x1 : Value} {w : World} {R : Value → World → Prop} {E : Pan} (h : d2b x0 x1 w R E) : Cv Tryd.prog 101 #[x0, x1] w R E := by
 refine g8 (args := [x0, x1]) (c := f7f) (h := f7g) (rs := [.tmp 4]) Tryd.func101 (by kernel_rfl) (by kernel_rfl) (Nat.le_of_ble_eq_true (by kernel_rfl)) (by kernel_rfl) (by kernel_rfl) (by kernel_rfl) ?_
 rw [← e3h]
 exact h
def c2k (x0 : Value) (w : World) (R : Value → World → Prop) (_E : Pan) : Prop :=
 ∀ _τ : Fr, (R x0 w)
def c8v (x0 x3 x5 : Value) (w : World) (next3 : List Value → World → Prop) (j2 : List Value → World → Prop) (_R : Value → World → Prop) (E : Pan) : Prop :=
 opK Tryd.prog E (xV (Instr.fieldAt 30 x3 3)) w fun g1A w_6 =>
 opK Tryd.prog E (xV (Instr.loadAt 28 g1A)) w_6 fun g1B w_8 =>
 opK Tryd.prog E (xBuiltin .len #[28] 3 [false] [g1B]) w_8 fun d1Z m1 =>
 opK Tryd.prog E (xBin .lss 3 (.tmp 23) (.tmp 26) x5 d1Z) m1 fun c6Y k6 =>
 xcond c6Y
 (opK Tryd.prog E (xV (Instr.fieldAt 30 x3 3)) k6 fun c6a o3 =>
 opK Tryd.prog E (xV (Instr.loadAt 28 c6a)) o3 fun c6b q7 =>
 opK Tryd.prog E (xV (Instr.indexAt 28 c6b x5)) q7 fun f7h r6 =>
 opK Tryd.prog E (xV (Instr.loadAt 30 f7h)) r6 fun f7i o7 =>
 opK Tryd.prog E (xCall (Value.func (.func 102) #[] #[]) [x0, f7i]) o7 fun f7j r7 =>
 opK Tryd.prog E (xBin .add 3 (.tmp 28) (.const (Value.int .i64 1)) x5 (Value.int .i64 1)) r7 fun f7k r5 =>
 next3 [f7j, f7k] r5)
 (j2 [x0] k6)
def c2l (x0 x3 : Value) (w : World) (R : Value → World → Prop) (E : Pan) : Prop :=
 ∀ _τ : Fr, (xcut (fun l_3 w_4 => c2k (nth l_3 0) w_4 R E) fun j2 =>
 xloop [0, 5] [x0, (Value.int .i64 0)] w fun τ_25 u6 next3 =>
 c8v (τ_25 0) x3 (τ_25 5) u6 next3 j2 R E)
def d2c (x0 x1 : Value) (w : World) (R : Value → World → Prop) (E : Pan) : Prop :=
 opK Tryd.prog E (xV (Instr.box 30 x1)) w fun a4T w_2 =>
 xcut (fun a6p v8 => c2l (nth a6p 0) a4T v8 R E) fun j1 =>
 opK Tryd.prog E (xV (Instr.fieldAt 30 a4T 0)) w_2 fun g1C t7 =>
 opK Tryd.prog E (xV (Instr.loadAt 3 g1C)) t7 fun g1D y8 =>
 opK Tryd.prog E (xBin .eql 3 (.tmp 7) (.const (Value.int .i64 2)) g1D (Value.int .i64 2)) y8 fun c3g A8 =>
 opK Tryd.prog E (gsem (asB c3g) false (xV (Instr.fieldAt 30 a4T 0))) A8 fun f7l B2 =>
 opK Tryd.prog E (gsem (asB c3g) false (xV (Instr.loadAt 3 f7l))) B2 fun f7m v2 =>
 opK Tryd.prog E (gsem (asB c3g) false (xBin .eql 3 (.tmp 11) (.const (Value.int .i64 4)) f7m (Value.int .i64 4))) v2 fun f7n C3 =>
 opK Tryd.prog E (xPick c3g (Value.bool true) f7n) C3 fun f7o G5 =>
 xcond f7o
 (opK Tryd.prog E (xV (Instr.fieldAt 30 a4T 2)) G5 fun b9I E5 =>
 opK Tryd.prog E (xV (Instr.loadAt 9 b9I)) E5 fun b9J K0 =>
 opK Tryd.prog E (xV (Instr.fieldAt 30 a4T 0)) K0 fun b9K I8 =>
 opK Tryd.prog E (xV (Instr.loadAt 3 b9K)) I8 fun b9L I9 =>
 opK Tryd.prog E (xBin .eql 3 (.tmp 18) (.const (Value.int .i64 4)) b9L (Value.int .i64 4)) I9 fun b3q O7 =>
 opK Tryd.prog E (xV (Instr.build 71 #[(0, b9J), (1, b3q)])) O7 fun b3r P6 =>
 opK Tryd.prog E (xV (Instr.buildSlice 68 1 #[(0, b3r)])) P6 fun b3s L4 =>
 opK Tryd.prog E (xBuiltin .append #[68, 68] 68 [false, false] [x0, b3s]) L4 fun b3t P7 =>
 j1 [b3t] P7)
 (j1 [x0] G5)
noncomputable def f7p : Code := Tryd.f102.body.getD .skip
def f7q : Hint := (.seq .none (.cut [0] (.seq .none (.cond .none .none)) (.cut [0] (.seq .none (.block (.loop [0, 5] (.seq (.seq .none (.cond .none .none)) (.seq (.block .none) .none))))) (.seq .none .none))))
theorem e3j (x0 x1 : Value) (w : World) (R : Value → World → Prop) (E : Pan) : d2c x0 x1 w R E = callX Tryd.prog [.tmp 4] f7p f7q [x0, x1] w R E := by kernel_rfl
theorem e3k {x0 x1 : Value} {w : World} {R : Value → World → Prop} {E : Pan} (h : d2c x0 x1 w R E) : Cv Tryd.prog 102 #[x0, x1] w R E := by
 refine g8 (args := [x0, x1]) (c := f7p) (h := f7q) (rs := [.tmp 4]) Tryd.func102 (by kernel_rfl) (by kernel_rfl) (Nat.le_of_ble_eq_true (by kernel_rfl)) (by kernel_rfl) (by kernel_rfl) (by kernel_rfl) ?_
 rw [← e3j]
 exact h
end Go.Proofs.YthldnpmfelniiaaDoor
