/- The second reading of some of the program's functions, printed by gen2.py off the code; each is held against the code by the kernel. -/
import Derived.Test.YthldnpmfelniiaaDoorProg
import Derived.Test.YthldnpmfelniiaaDoorCK0
import Derived.KernelRfl
namespace Go.Proofs.YthldnpmfelniiaaDoor
open Go.RowKit
set_option maxRecDepth 100000
def c1s (x5 : Value) (w : World) (R : Value → World → Prop) (_E : Pan) : Prop :=
 ∀ _τ : Fr, (R x5 w)
def c7X (x1 x5 x8 x9 x10 : Value) (w : World) (next2 : List Value → World → Prop) (j1 : List Value → World → Prop) (_R : Value → World → Prop) (E : Pan) : Prop :=
 opK Tryd.prog E (xBin .lss 3 (.tmp 10) (.tmp 9) x10 x9) w fun a7I w_6 =>
 xcond a7I
 (opK Tryd.prog E (xV (Instr.indexAt 31 x8 x10)) w_6 fun a5b w_8 =>
 opK Tryd.prog E (xV (Instr.loadAt 33 a5b)) w_8 fun a6d m1 =>
 opK Tryd.prog E (xV (Instr.alloc 33 true (.tuple #[]))) m1 fun a4d k6 =>
 opK Tryd.prog E (xU (Instr.storeAt 33 a4d a6d)) k6 fun _z_13 o3 =>
 opK Tryd.prog E (xV (Instr.loadAt 33 a4d)) o3 fun b1i q7 =>
 opK Tryd.prog E (xCall x1 [b1i]) q7 fun b1j r6 =>
 opK Tryd.prog E (xV (Instr.buildSlice 97 1 #[(0, b1j)])) r6 fun b1k o7 =>
 opK Tryd.prog E (xBuiltin .append #[97, 97] 97 [false, false] [x5, b1k]) o7 fun b1l r7 =>
 opK Tryd.prog E (xBin .add 3 (.tmp 10) (.const (Value.int .i64 1)) x10 (Value.int .i64 1)) r7 fun b1m r5 =>
 next2 [b1l, b1m] r5)
 (j1 [x5] w_6)
def c9r (x0 x1 : Value) (w : World) (R : Value → World → Prop) (E : Pan) : Prop :=
 xcut (fun l_1 w_2 => c1s (nth l_1 0) w_2 R E) fun j1 =>
 opK Tryd.prog E (xBuiltin .len #[31] 3 [false] [x0]) w fun a5a w_4 =>
 xloop [5, 10] [(Value.slice none 0 0), (Value.int .i64 0)] w_4 fun τ_25 u6 next2 =>
 c7X x1 (τ_25 5) x0 a5a (τ_25 10) u6 next2 j1 R E
noncomputable def f0h : Code := Tryd.f154.body.getD .skip
def f0i : Hint := (.seq .none (.seq .none (.cut [5] (.seq .none (.block (.loop [5, 10] (.seq .none (.seq (.cond .none .none) (.seq (.block (.seq .none .none)) .none)))))) (.seq .none .none))))
theorem e0R (x0 x1 : Value) (w : World) (R : Value → World → Prop) (E : Pan) : c9r x0 x1 w R E = callX Tryd.prog [.tmp 4] f0h f0i [x0, x1] w R E := by kernel_rfl
theorem e0S {x0 x1 : Value} {w : World} {R : Value → World → Prop} {E : Pan} (h : c9r x0 x1 w R E) : Cv Tryd.prog 154 #[x0, x1] w R E := by
 refine g8 (args := [x0, x1]) (c := f0h) (h := f0i) (rs := [.tmp 4]) Tryd.func154 (by kernel_rfl) (by kernel_rfl) (Nat.le_of_ble_eq_true (by kernel_rfl)) (by kernel_rfl) (by kernel_rfl) (by kernel_rfl) ?_
 rw [← e0R]
 exact h
def c9s (x0 : Value) (w : World) (R : Value → World → Prop) (E : Pan) : Prop :=
 opK Tryd.prog E (xV (Instr.box 33 x0)) w fun t6 w_2 =>
 opK Tryd.prog E (xV (Instr.loadAt 33 t6)) w_2 fun F7 w_4 =>
 opK Tryd.prog E (xV (Instr.build 106 #[(0, F7)])) w_4 fun a2P w_6 =>
 opK Tryd.prog E (xV (Instr.makeInterface 106 a2P)) w_6 fun a4Y w_8 =>
 R a4Y w_8
noncomputable def f0j : Code := Tryd.f155.body.getD .skip
def f0k : Hint := (.seq .none (.seq .none .none))
theorem e0T (x0 : Value) (w : World) (R : Value → World → Prop) (E : Pan) : c9s x0 w R E = callX Tryd.prog [.tmp 2] f0j f0k [x0] w R E := by kernel_rfl
theorem e0U {x0 : Value} {w : World} {R : Value → World → Prop} {E : Pan} (h : c9s x0 w R E) : Cv Tryd.prog 155 #[x0] w R E := by
 refine g8 (args := [x0]) (c := f0j) (h := f0k) (rs := [.tmp 2]) Tryd.func155 (by kernel_rfl) (by kernel_rfl) (Nat.le_of_ble_eq_true (by kernel_rfl)) (by kernel_rfl) (by kernel_rfl) (by kernel_rfl) ?_
 rw [← e0T]
 exact h
def c9t (x0 : Value) (w : World) (R : Value → World → Prop) (E : Pan) : Prop :=
 opK Tryd.prog E (xV (Instr.box 175 x0)) w fun t6 w_2 =>
 opK Tryd.prog E (xV (Instr.fieldAt 175 t6 0)) w_2 fun F7 w_4 =>
 opK Tryd.prog E (xV (Instr.fieldAt 67 F7 1)) w_4 fun a2P w_6 =>
 opK Tryd.prog E (xV (Instr.loadAt 3 a2P)) w_6 fun a4Y w_8 =>
 opK Tryd.prog E (xBin .geq 3 (.tmp 5) (.const (Value.int .i64 0)) a4Y (Value.int .i64 0)) w_8 fun a8P m1 =>
 opK Tryd.prog E (gsem (asB a8P) true (xV (Instr.fieldAt 175 t6 0))) m1 fun a7G k6 =>
 opK Tryd.prog E (gsem (asB a8P) true (xV (Instr.fieldAt 67 a7G 1))) k6 fun V9 o3 =>
 opK Tryd.prog E (gsem (asB a8P) true (xV (Instr.loadAt 3 V9))) o3 fun b6t q7 =>
 opK Tryd.prog E (gsem (asB a8P) true (xBin .leq 3 (.tmp 10) (.const (Value.int .i64 2147483647)) b6t (Value.int .i64 2147483647))) q7 fun b6u r6 =>
 opK Tryd.prog E (xPick a8P b6u (Value.bool false)) r6 fun c4E o7 =>
 R c4E o7
noncomputable def f0l : Code := Tryd.f156.body.getD .skip
def f0m : Hint := (.seq .none (.seq .none .none))
theorem e0V (x0 : Value) (w : World) (R : Value → World → Prop) (E : Pan) : c9t x0 w R E = callX Tryd.prog [.tmp 2] f0l f0m [x0] w R E := by kernel_rfl
theorem e0W {x0 : Value} {w : World} {R : Value → World → Prop} {E : Pan} (h : c9t x0 w R E) : Cv Tryd.prog 156 #[x0] w R E := by
 refine g8 (args := [x0]) (c := f0l) (h := f0m) (rs := [.tmp 2]) Tryd.func156 (by kernel_rfl) (by kernel_rfl) (Nat.le_of_ble_eq_true (by kernel_rfl)) (by kernel_rfl) (by kernel_rfl) (by kernel_rfl) ?_
 rw [← e0V]
 exact h
def c9u (x0 : Value) (w : World) (R : Value → World → Prop) (E : Pan) : Prop :=
 opK Tryd.prog E (xV (Instr.box 175 x0)) w fun _t1_1 w_2 =>
 R (Value.slice none 0 0) w_2
noncomputable def f0n : Code := Tryd.f157.body.getD .skip
def f0o : Hint := (.seq .none (.seq .none .none))
theorem e0X (x0 : Value) (w : World) (R : Value → World → Prop) (E : Pan) : c9u x0 w R E = callX Tryd.prog [.tmp 2] f0n f0o [x0] w R E := by kernel_rfl
theorem e0Y {x0 : Value} {w : World} {R : Value → World → Prop} {E : Pan} (h : c9u x0 w R E) : Cv Tryd.prog 157 #[x0] w R E := by
 refine g8 (args := [x0]) (c := f0n) (h := f0o) (rs := [.tmp 2]) Tryd.func157 (by kernel_rfl) (by kernel_rfl) (Nat.le_of_ble_eq_true (by kernel_rfl)) (by kernel_rfl) (by kernel_rfl) (by kernel_rfl) ?_
 rw [← e0X]
 exact h
def c1t (x4 x5 x35 x83 : Value) (w : World) (R : Value → World → Prop) (E : Pan) : Prop :=
 ∀ _τ : Fr, (xcond x83
 (opK Tryd.prog E (gsem (asB x5) true (xV (Instr.loadAt 213 x4))) w fun e0Z a9t =>
 opK Tryd.prog E (gsem (asB x5) true (xV (Instr.build 213 #[(0, (Value.int .i64 0)), (1, (Value.int .i64 1))]))) a9t fun e1a b4f =>
 opK Tryd.prog E (gsem (asB x5) true (xBin .eql 213 (.tmp 88) (.tmp 89) e0Z e1a)) b4f fun e1b b4g =>
 opK Tryd.prog E (xPick x5 e1b (Value.bool false)) b4g fun e1c b4h =>
 R e1c b4h)
 (opK Tryd.prog E (xBin .eql 3 (.tmp 35) (.const (Value.int .i64 7)) x35 (Value.int .i64 7)) w fun e1d b2E =>
 xcond e1d
 (opK Tryd.prog E (gsem (asB x5) true (xV (Instr.loadAt 213 x4))) b2E fun e1e a9u =>
 opK Tryd.prog E (gsem (asB x5) true (xV (Instr.build 213 #[]))) a9u fun e1f b4i =>
 opK Tryd.prog E (gsem (asB x5) true (xBin .eql 213 (.tmp 96) (.tmp 97) e1e e1f)) b4i fun e1g b9P =>
 opK Tryd.prog E (xPick x5 e1g (Value.bool false)) b9P fun e1h b7h =>
 R e1h b7h)
 (R (Value.bool false) b2E)))
def c9v (x0 : Value) (w : World) (R : Value → World → Prop) (E : Pan) : Prop :=
 opK Tryd.prog E (xV (Instr.box 177 x0)) w fun t6 w_2 =>
 opK Tryd.prog E (xV (Instr.fieldAt 177 t6 0)) w_2 fun d4W w_4 =>
 opK Tryd.prog E (xV (Instr.fieldAt 88 d4W 4)) w_4 fun d4X w_6 =>
 opK Tryd.prog E (xV (Instr.loadAt 23 d4X)) w_6 fun a4Z w_8 =>
 opK Tryd.prog E (xBuiltin .len #[23] 3 [false] [a4Z]) w_8 fun a6n m1 =>
 opK Tryd.prog E (xV (Instr.fieldAt 177 t6 0)) m1 fun b0U k6 =>
 opK Tryd.prog E (xV (Instr.fieldAt 88 b0U 5)) k6 fun b0V o3 =>
 opK Tryd.prog E (xV (Instr.loadAt 23 b0V)) o3 fun a6y q7 =>
 opK Tryd.prog E (xBuiltin .len #[23] 3 [false] [a6y]) q7 fun c3H r6 =>
 opK Tryd.prog E (xBin .add 3 (.tmp 9) (.tmp 13) a6n c3H) r6 fun c3I o7 =>
 opK Tryd.prog E (xBin .gtr 3 (.tmp 14) (.const (Value.int .i64 0)) c3I (Value.int .i64 0)) o7 fun b5Q r7 =>
 opK Tryd.prog E (xV (Instr.fieldAt 177 t6 0)) r7 fun c3J r5 =>
 opK Tryd.prog E (xV (Instr.fieldAt 88 c3J 2)) r5 fun a9C u6 =>
 opK Tryd.prog E (xV (Instr.loadAt 28 a9C)) u6 fun b1b v8 =>
 opK Tryd.prog E (xBuiltin .len #[28] 3 [false] [b1b]) v8 fun b1c t7 =>
 opK Tryd.prog E (xV (Instr.fieldAt 177 t6 0)) t7 fun b1d y8 =>
 opK Tryd.prog E (xV (Instr.fieldAt 88 b1d 3)) y8 fun b1e A8 =>
 opK Tryd.prog E (xV (Instr.loadAt 31 b1e)) A8 fun b1f B2 =>
 opK Tryd.prog E (xBuiltin .len #[31] 3 [false] [b1f]) B2 fun a0g v2 =>
 opK Tryd.prog E (xV (Instr.build 213 #[(0, b1c), (1, a0g)])) v2 fun f0p C3 =>
 opK Tryd.prog E (xV (Instr.alloc 213 true (.tuple #[]))) C3 fun b7i G5 =>
 opK Tryd.prog E (xU (Instr.storeAt 213 b7i f0p)) G5 fun _z_43 E5 =>
 opK Tryd.prog E (xV (Instr.fieldAt 177 t6 0)) E5 fun f0q K0 =>
 opK Tryd.prog E (xV (Instr.fieldAt 88 f0q 1)) K0 fun f0r I8 =>
 opK Tryd.prog E (xV (Instr.loadAt 9 f0r)) I8 fun f0s I9 =>
 opK Tryd.prog E (xBin .eql 9 (.tmp 27) (.const (Value.string ⟨#[]⟩)) f0s (Value.string ⟨#[]⟩)) I9 fun b6w O7 =>
 opK Tryd.prog E (gsem (asB b6w) true (xV (Op.unary .not (gval (asB b6w) true b5Q)))) O7 fun f0t P6 =>
 opK Tryd.prog E (xPick b6w f0t (Value.bool false)) P6 fun f0u L4 =>
 opK Tryd.prog E (xV (Instr.fieldAt 177 t6 0)) L4 fun f0v P7 =>
 opK Tryd.prog E (xV (Instr.fieldAt 88 f0v 0)) P7 fun f0w W5 =>
 opK Tryd.prog E (xV (Instr.loadAt 3 f0w)) W5 fun b1n a0o =>
 opK Tryd.prog E (xBin .eql 3 (.tmp 35) (.const (Value.int .i64 1)) b1n (Value.int .i64 1)) a0o fun f0x V6 =>
 xcond f0x
 (opK Tryd.prog E (xV (Op.unary .not b5Q)) V6 fun b9Q a0p =>
 opK Tryd.prog E (gsem (asB b9Q) true (xV (Instr.loadAt 213 b7i))) a0p fun c3P a0F =>
 opK Tryd.prog E (gsem (asB b9Q) true (xV (Instr.build 213 #[(0, (Value.int .i64 1)), (1, (Value.int .i64 0))]))) a0F fun c3Q O8 =>
 opK Tryd.prog E (gsem (asB b9Q) true (xBin .eql 213 (.tmp 41) (.tmp 42) c3P c3Q)) O8 fun c3R a0G =>
 opK Tryd.prog E (xPick b9Q c3R (Value.bool false)) a0G fun c3S a1h =>
 R c3S a1h)
 (opK Tryd.prog E (xBin .eql 3 (.tmp 35) (.const (Value.int .i64 2)) b1n (Value.int .i64 2)) V6 fun f0y a1i =>
 xcond f0y
 (opK Tryd.prog E (xV (Op.unary .not b5Q)) a1i fun b9R a1Q =>
 opK Tryd.prog E (gsem (asB b9R) true (xV (Instr.loadAt 213 b7i))) a1Q fun f0z a1R =>
 opK Tryd.prog E (gsem (asB b9R) true (xV (Instr.build 213 #[(0, (Value.int .i64 2)), (1, (Value.int .i64 0))]))) a1R fun f0A a2D =>
 opK Tryd.prog E (gsem (asB b9R) true (xBin .eql 213 (.tmp 50) (.tmp 51) f0z f0A)) a2D fun f0B a2R =>
 opK Tryd.prog E (xPick b9R f0B (Value.bool false)) a2R fun f0C a2S =>
 R f0C a2S)
 (opK Tryd.prog E (xBin .eql 3 (.tmp 35) (.const (Value.int .i64 3)) b1n (Value.int .i64 3)) a1i fun f0D a2T =>
 xcond f0D
 (opK Tryd.prog E (xV (Instr.fieldAt 177 t6 0)) a2T fun f0E a4N =>
 opK Tryd.prog E (xV (Instr.fieldAt 88 f0E 1)) a4N fun f0F a4O =>
 opK Tryd.prog E (xV (Instr.loadAt 9 f0F)) a4O fun f0G a4r =>
 opK Tryd.prog E (xBin .eql 9 (.tmp 58) (.const (Value.string ⟨#[]⟩)) f0G (Value.string ⟨#[]⟩)) a4r fun b9S a3R =>
 opK Tryd.prog E (gsem (asB b9S) true (xV (Instr.loadAt 213 b7i))) a3R fun f0H a4P =>
 opK Tryd.prog E (gsem (asB b9S) true (xV (Instr.build 213 #[(0, (Value.int .i64 0)), (1, (Value.int .i64 1))]))) a4P fun f0I a2J =>
 opK Tryd.prog E (gsem (asB b9S) true (xBin .eql 213 (.tmp 61) (.tmp 62) f0H f0I)) a2J fun e1i a2K =>
 opK Tryd.prog E (xPick b9S e1i (Value.bool false)) a2K fun e1j a3D =>
 R e1j a3D)
 (opK Tryd.prog E (xBin .eql 3 (.tmp 35) (.const (Value.int .i64 4)) b1n (Value.int .i64 4)) a2T fun e1k a4f =>
 xcond e1k
 (opK Tryd.prog E (xV (Instr.fieldAt 177 t6 0)) a4f fun e1l a5d =>
 opK Tryd.prog E (xV (Instr.fieldAt 88 e1l 1)) a5d fun e1m a4y =>
 opK Tryd.prog E (xV (Instr.loadAt 9 e1m)) a4y fun e1n a4z =>
 opK Tryd.prog E (xBin .eql 9 (.tmp 69) (.const (Value.string ⟨#[]⟩)) e1n (Value.string ⟨#[]⟩)) a4z fun b0E a5e =>
 opK Tryd.prog E (gsem (asB b0E) true (xV (Instr.fieldAt 177 t6 0))) a5e fun e1o a5C =>
 opK Tryd.prog E (gsem (asB b0E) true (xV (Instr.fieldAt 88 e1o 5))) a5C fun e1p a5D =>
 opK Tryd.prog E (gsem (asB b0E) true (xV (Instr.loadAt 23 e1p))) a5D fun e1q a5E =>
 opK Tryd.prog E (gsem (asB b0E) true (xBuiltin .len #[23] 3 [false] [e1q])) a5E fun e1r a7L =>
 opK Tryd.prog E (gsem (asB b0E) true (xBin .eql 3 (.tmp 75) (.const (Value.int .i64 0)) e1r (Value.int .i64 0))) a7L fun e1s b0j =>
 opK Tryd.prog E (xPick b0E e1s (Value.bool false)) b0j fun b7j a9r =>
 opK Tryd.prog E (gsem (asB b7j) true (xV (Instr.loadAt 213 b7i))) a9r fun e1t b0k =>
 opK Tryd.prog E (gsem (asB b7j) true (xV (Instr.build 213 #[(0, (Value.int .i64 0)), (1, (Value.int .i64 1))]))) b0k fun e1u a9s =>
 opK Tryd.prog E (gsem (asB b7j) true (xBin .eql 213 (.tmp 79) (.tmp 80) e1t e1u)) a9s fun e1v a7M =>
 opK Tryd.prog E (xPick b7j e1v (Value.bool false)) a7M fun e1w a7N =>
 R e1w a7N)
 (xcut (fun f8z b9T => c1t b7i f0u b1n (nth f8z 0) b9T R E) fun j1 =>
 opK Tryd.prog E (xBin .eql 3 (.tmp 35) (.const (Value.int .i64 5)) b1n (Value.int .i64 5)) a4f fun c7Y c2X =>
 xcond c7Y
 (j1 [c7Y] c2X)
 (opK Tryd.prog E (xBin .eql 3 (.tmp 35) (.const (Value.int .i64 6)) b1n (Value.int .i64 6)) c2X fun e1x c9w =>
 j1 [e1x] c9w)))))
noncomputable def f0J : Code := Tryd.f158.body.getD .skip
def f0K : Hint := (.seq .none (.seq .none (.seq .none (.seq .none (.seq (.seq .none (.block (.seq .none (.cond (.seq .none .none) (.seq .none (.cond (.seq .none .none) (.seq .none (.cond (.seq .none .none) (.seq .none (.cond (.seq .none .none) (.cut [83] (.seq .none (.cond .none .none)) (.cond (.seq .none .none) (.seq .none (.cond (.seq .none .none) .none)))))))))))))) (.seq .none .none))))))
theorem e1y (x0 : Value) (w : World) (R : Value → World → Prop) (E : Pan) : c9v x0 w R E = callX Tryd.prog [.tmp 2] f0J f0K [x0] w R E := by kernel_rfl
theorem e1z {x0 : Value} {w : World} {R : Value → World → Prop} {E : Pan} (h : c9v x0 w R E) : Cv Tryd.prog 158 #[x0] w R E := by
 refine g8 (args := [x0]) (c := f0J) (h := f0K) (rs := [.tmp 2]) Tryd.func158 (by kernel_rfl) (by kernel_rfl) (Nat.le_of_ble_eq_true (by kernel_rfl)) (by kernel_rfl) (by kernel_rfl) (by kernel_rfl) ?_
 rw [← e1y]
 exact h
def c9x (x0 : Value) (w : World) (R : Value → World → Prop) (E : Pan) : Prop :=
 opK Tryd.prog E (xV (Instr.box 177 x0)) w fun t6 w_2 =>
 dX w_2 fun w_3 =>
 qP Tryd.prog (xV (Instr.fieldAt 177 t6 0)) fun c1b =>
 qP Tryd.prog (xV (Instr.fieldAt 88 c1b 3)) fun a2P =>
 qP Tryd.prog (xV (Instr.fieldAt 177 t6 0)) fun d4Z =>
 qP Tryd.prog (xV (Instr.fieldAt 88 d4Z 2)) fun a4Z =>
 qP Tryd.prog (xV (Instr.fieldAt 177 t6 0)) fun f8A =>
 qP Tryd.prog (xV (Instr.fieldAt 88 f8A 4)) fun b7e =>
 qP Tryd.prog (xV (Instr.fieldAt 177 t6 0)) fun f0L =>
 qP Tryd.prog (xV (Instr.fieldAt 88 f0L 5)) fun a4Q =>
 qL Tryd.prog w_3 (blk a2P) (xV (Instr.loadAt 31 a2P)) fun f8B =>
 qL Tryd.prog w_3 (blk a4Z) (xV (Instr.loadAt 28 a4Z)) fun V9 =>
 qL Tryd.prog w_3 (blk b7e) (xV (Instr.loadAt 23 b7e)) fun f0M =>
 qL Tryd.prog w_3 (blk a4Q) (xV (Instr.loadAt 23 a4Q)) fun b6i =>
 opK Tryd.prog E (xCall (Value.func (.func 154) #[] #[]) [f8B, (Value.func (.func 155) #[] #[])]) w_3 fun f8C a5c =>
 keepX [(blk a4Q), (blk b7e), (blk a4Z)] w_3 a5c (opK Tryd.prog E (xCall (Value.func (.func 150) #[] #[]) [V9, (Value.func (.func 151) #[] #[])]) a5c fun f0N a5L =>
 keepX [(blk a4Q), (blk b7e)] a5c a5L (opK Tryd.prog E (xCall (Value.func (.func 97) #[] #[]) [f0M, (Value.func (.func 98) #[] #[])]) a5L fun f0O a0q =>
 keepX [(blk a4Q)] a5L a0q (opK Tryd.prog E (xCall (Value.func (.func 97) #[] #[]) [b6i, (Value.func (.func 98) #[] #[])]) a0q fun b5O a7A =>
 keepX [] a0q a7A (opK Tryd.prog E (xV (Instr.buildSlice 172 4 #[(0, f8C), (1, f0N), (2, f0O), (3, b5O)])) a7A fun f0P a6m =>
 keepX [] a7A a6m (opK Tryd.prog E (xCall (Value.func (.func 94) #[] #[]) [f0P]) a6m fun f0Q a8Q =>
 keepX [] a6m a8Q (R f0Q a8Q))))))
noncomputable def f0R : Code := Tryd.f159.body.getD .skip
def f0S : Hint := (.seq .none (.seq (.reg [(0, 8, 2), (1, 16, 8), (2, 32, 16), (4, 64, 32), (0, 128, 2), (16, 256, 128), (32, 512, 256), (72, 1024, 512), (0, 2048, 2), (256, 4096, 2048), (512, 8192, 4096), (1152, 16384, 8192), (0, 32768, 2), (4096, 65536, 32768), (8192, 131072, 65536), (18432, 262144, 131072), (34952, 524288, 279616), (98304, 1048576, 524288), (262143, 4, 1048576)] [17476, 17476, 17472, 17472, 17476, 17476, 17412, 17408, 17476, 17476, 16452, 16384, 17476, 17476, 1092, 0, 0, 0, 17476] (.early 0 (.early 1 (.early 4 (.early 5 (.early 8 (.early 9 (.early 12 (.early 13 (.load 2 (.load 6 (.load 10 (.load 14 (.step 3 (.step 7 (.step 11 (.step 15 (.step 16 (.step 17 (.early 18 .done)))))))))))))))))))) .none))
theorem e1A (x0 : Value) (w : World) (R : Value → World → Prop) (E : Pan) : c9x x0 w R E = callX Tryd.prog [.tmp 2] f0R f0S [x0] w R E := by kernel_rfl
theorem e1B {x0 : Value} {w : World} {R : Value → World → Prop} {E : Pan} (h : c9x x0 w R E) : Cv Tryd.prog 159 #[x0] w R E := by
 refine g8 (args := [x0]) (c := f0R) (h := f0S) (rs := [.tmp 2]) Tryd.func159 (by kernel_rfl) (by kernel_rfl) (Nat.le_of_ble_eq_true (by kernel_rfl)) (by kernel_rfl) (by kernel_rfl) (by kernel_rfl) ?_
 rw [← e1A]
 exact h
end Go.Proofs.YthldnpmfelniiaaDoor
