/- The second reading of some of the program's functions, printed by gen2.py off the code; each is held against the code by the kernel. -/
import Derived.Test.YtnhkdkcgdcgmdaaDoorProg
import Derived.Test.YtnhkdkcgdcgmdaaDoorzOK0
import Derived.KernelRfl
import Derived.Test.YtnhkdkcgdcgmdaaDoorzOGz
namespace Go.Proofs.YtnhkdkcgdcgmdaaDoor
open Go.RowKit
set_option maxRecDepth 100000
variable {w : World} {R : RT} {E : Pan}
noncomputable def c3 : Code := Tryd.f3.body.getD .skip
def h3 : Hint := (sQ (.seq (sQ (.cond (sQ .none) .none)) (sQ (sQ (sQ (sQ (.seq (sQ (.cond (sQ .none) .none)) (.seq (sQ (.cond (sQ .none) .none)) (sQ .none)))))))))
def F9 (x0 : Value) (w : World) (R : RT) (E : Pan) : Prop :=
 oP E (xV (Instr.box 44 x0)) w fun o5 w_2 =>
 oP E (xCall (fC 10) []) w_2 fun d4d w_4 =>
 oP E (xV (Op.unary .not d4d)) w_4 fun c6t w_6 =>
 xcond c6t
 (R (vB false) w_6)
 (oP E (lA 44 o5) w_6 fun g2j w_8 =>
 oP E (xCall (fC 31) [g2j]) w_8 fun c6u o7 =>
 oP E (eX c6u 0) o7 fun c9z o4 =>
 oP E (eX c6u 1) o4 fun c9A o8 =>
 oP E (xV (Instr.alloc 44 true (.tuple #[]))) o8 fun b9X s6 =>
 oP E (sA 44 b9X c9z) s6 fun _z_17 v7 =>
 oP E (xBin .neq 29 (.tmp 26) (.const (vI 0)) c9A (vI 0)) v7 fun c9B u1 =>
 xcond c9B
 (R (vB true) u1)
 (oP E (lA 44 b9X) u1 fun f5a v8 =>
 oP E (xCall (fC 31) [f5a]) v8 fun d7J y6 =>
 oP E (eX d7J 0) y6 fun f5b z6 =>
 oP E (eX d7J 1) z6 fun f5c E5 =>
 oP E (xV (Instr.alloc 44 true (.tuple #[]))) E5 fun e3b E1 =>
 oP E (sA 44 e3b f5b) E1 fun _z_31 E2 =>
 oP E (lA 44 o5) E2 fun c7W E3 =>
 oP E (xCall (fC 32) [c7W]) E3 fun c3w L2 =>
 oP E (eX c3w 0) L2 fun c9C L4 =>
 oP E (eX c3w 1) L4 fun _t37_39 L9 =>
 oP E (lA 44 b9X) L9 fun f5d M4 =>
 oP E (xCall (fC 32) [f5d]) M4 fun c3x N8 =>
 oP E (eX c3x 0) N8 fun c9D V1 =>
 oP E (eX c3x 1) V1 fun _t42_47 V2 =>
 oP E (lA 44 o5) V2 fun f5e Q3 =>
 oP E (xCall (fC 33) [f5e]) Q3 fun d7K R6 =>
 oP E (eX d7K 0) R6 fun f5f W0 =>
 oP E (eX d7K 1) W0 fun _t47_55 X0 =>
 oP E (lA 44 b9X) X0 fun f5g Y9 =>
 oP E (xCall (fC 33) [f5g]) Y9 fun c3y W1 =>
 oP E (eX c3y 0) W1 fun c9E U0 =>
 oP E (eX c3y 1) U0 fun _t52_63 Z0 =>
 oP E (lA 44 o5) Z0 fun f5h X6 =>
 oP E (xCall (fC 34) [f5h]) X6 fun d7L X7 =>
 oP E (eX d7L 0) X7 fun _t56_69 Z1 =>
 oP E (eX d7L 1) Z1 fun f5i a1t =>
 oP E (lA 44 b9X) a1t fun f5j a1V =>
 oP E (xCall (fC 34) [f5j]) a1V fun d7M a3k =>
 oP E (eX d7M 0) a3k fun _t61_77 a3l =>
 oP E (eX d7M 1) a3l fun f5k a3Z =>
 oP E (xBin .eql 29 (.tmp 63) (.const (vI 0)) f5c (vI 0)) a3Z fun c3z a4x =>
 oP E (gsem (asB c3z) true (lA 44 b9X)) a4x fun f5l a4y =>
 oP E (gsem (asB c3z) true (lA 44 e3b)) a4y fun f5m a5d =>
 oP E (gsem (asB c3z) true (xCall (fC 35) [f5l, f5m])) a5d fun f5n a4a =>
 oP E (xPick c3z f5n (vB false)) a4a fun c3A a6V =>
 oP E (gsem (asB c3A) true (xBin .leq 3 (.tmp 71) (.tmp 72) (gval (asB c3A) true c9D) (gval (asB c3A) true c9C))) a6V fun f5o a7l =>
 oP E (xPick c3A f5o (vB false)) a7l fun c3B a1W =>
 oP E (gsem (asB c3B) true (xBin .leq 3 (.tmp 76) (.tmp 77) (gval (asB c3B) true c9E) (gval (asB c3B) true f5f))) a1W fun f5p a8f =>
 oP E (xPick c3B f5p (vB false)) a8f fun b3d a9P =>
 oP E (gsem (asB b3d) true (xBin .neq 29 (.tmp 81) (.const (vI 0)) (gval (asB b3d) true f5i) (vI 0))) a9P fun c9F a4P =>
 oP E (gsem (asB (gval (asB b3d) true c9F)) false (xBin .eql 29 (.tmp 84) (.const (vI 0)) (gval (asB (gval (asB b3d) true c9F)) false f5k) (vI 0))) a4P fun e6E a4f =>
 oP E (gsem (asB b3d) true (xPick (gval (asB b3d) true c9F) (vB true) e6E)) a4f fun e6F a4g =>
 oP E (xPick b3d e6F (vB false)) a4g fun e6G a5q =>
 R e6G a5q))
noncomputable def c9 : Code := Tryd.f9.body.getD .skip
def h9 : Hint := (sQ (.seq (sQ (.cond (sQ .none) .none)) (sQ (.seq (sQ (.cond (sQ .none) .none)) (sQ (sQ (sQ (sQ (sQ (sQ (sQ (sQ .none))))))))))))
theorem g2k (x0 : Value) (w : World) (R : RT) (E : Pan) : F9 x0 w R E = callX Tryd.prog [.tmp 2] c9 h9 [x0] w R E := by kernel_rfl
theorem g2l {x0 : Value} (h : F9 x0 w R E) : Cv Tryd.prog 9 #[x0] w R E := by
 refine f8 (args := [x0]) (c := c9) (h := h9) (rs := [.tmp 2]) Tryd.func9 (by kernel_rfl) (by kernel_rfl) (nB (by kernel_rfl)) (by kernel_rfl) (by kernel_rfl) (by kernel_rfl) ?_
 rw [← g2k]
 exact h
def F10 (w : World) (R : RT) (E : Pan) : Prop :=
 oP E (xCall (fC 36) [(vI 1)]) w fun b8m w_2 =>
 oP E (xCall (fC 36) [(vI 2)]) w_2 fun b2j w_4 =>
 oP E (xV (Instr.buildSlice 22 2 #[(0, b8m), (1, b2j)])) w_4 fun e1g w_6 =>
 oP E (xV (Instr.build 24 #[(0, (vI 6)), (3, e1g)])) w_6 fun c9x w_8 =>
 oP E (xV (Instr.build 24 #[(0, (vI 2)), (2, (Value.string ⟨#[120]⟩))])) w_8 fun c2K o7 =>
 oP E (xV (Instr.buildSlice 22 2 #[(0, c9x), (1, c2K)])) o7 fun a9i o4 =>
 oP E (xV (Instr.build 24 #[(0, (vI 8)), (3, a9i)])) o4 fun b8t o8 =>
 oP E (xCall (fC 11) [b8t]) o8 fun a7n s6 =>
 oP E (eX a7n 0) s6 fun a3X v7 =>
 oP E (eX a7n 1) v7 fun a5N u1 =>
 oP E (xV (Instr.alloc 24 true (.tuple #[]))) u1 fun c3C v8 =>
 oP E (sA 24 c3C a3X) v8 fun _z_23 y6 =>
 oP E (xCall (fC 36) [(vI 1)]) y6 fun a6N z6 =>
 oP E (xCall (fC 36) [(vI 2)]) z6 fun a9l E5 =>
 oP E (xV (Instr.buildSlice 22 2 #[(0, a6N), (1, a9l)])) E5 fun a9m E1 =>
 oP E (xV (Instr.build 27 #[(0, (vI 3)), (1, (vI 1)), (2, a9m)])) E1 fun a9n E2 =>
 oP E (xCall (fC 13) [a9n]) E2 fun a6O E3 =>
 oP E (eX a6O 0) E3 fun a7k L2 =>
 oP E (eX a6O 1) L2 fun T1 L4 =>
 oP E (xV (Instr.alloc 27 true (.tuple #[]))) L4 fun e3c L9 =>
 oP E (sA 27 e3c a7k) L9 fun _z_41 M4 =>
 oP E (xBin .eql 29 (.tmp 24) (.const (vI 0)) a5N (vI 0)) M4 fun b8o N8 =>
 oP E (gsem (asB b8o) true (xBin .eql 29 (.tmp 27) (.const (vI 0)) (gval (asB b8o) true T1) (vI 0))) N8 fun b2h V1 =>
 oP E (xPick b8o b2h (vB false)) V1 fun a6P V2 =>
 oP E (gsem (asB a6P) true (fA 24 c3C 0)) V2 fun f5q Q3 =>
 oP E (gsem (asB a6P) true (lA 3 f5q)) Q3 fun c7t R6 =>
 oP E (gsem (asB a6P) true (xBin .eql 3 (.tmp 32) (.const (vI 8)) c7t (vI 8))) R6 fun c7u W0 =>
 oP E (xPick a6P c7u (vB false)) W0 fun b2i X0 =>
 oP E (gsem (asB b2i) true (fA 24 c3C 3)) X0 fun f5r Y9 =>
 oP E (gsem (asB b2i) true (lA 22 f5r)) Y9 fun f5s W1 =>
 oP E (gsem (asB b2i) true (xBuiltin .len #[22] 3 [false] [f5s])) W1 fun f5t U0 =>
 oP E (gsem (asB b2i) true (xBin .eql 3 (.tmp 38) (.const (vI 2)) f5t (vI 2))) U0 fun c7v Z0 =>
 oP E (xPick b2i c7v (vB false)) Z0 fun a9o X6 =>
 oP E (gsem (asB a9o) true (fA 24 c3C 3)) X6 fun f5u X7 =>
 oP E (gsem (asB a9o) true (lA 22 f5u)) X7 fun f5v Z1 =>
 oP E (gsem (asB a9o) true (iA 22 f5v (vI 0))) Z1 fun f5w a1t =>
 oP E (gsem (asB a9o) true (fA 24 f5w 0)) a1t fun f5x a1V =>
 oP E (gsem (asB a9o) true (lA 3 f5x)) a1V fun c8l a3k =>
 oP E (gsem (asB a9o) true (xBin .eql 3 (.tmp 46) (.const (vI 1)) c8l (vI 1))) a3k fun f5y a3l =>
 oP E (xPick a9o f5y (vB false)) a3l fun b3e a3Z =>
 oP E (gsem (asB b3e) true (fA 24 c3C 3)) a3Z fun c9G a4x =>
 oP E (gsem (asB b3e) true (lA 22 c9G)) a4x fun f5z a4y =>
 oP E (gsem (asB b3e) true (iA 22 f5z (vI 0))) a4y fun f5A a5d =>
 oP E (gsem (asB b3e) true (fA 24 f5A 1)) a5d fun c8a a4a =>
 oP E (gsem (asB b3e) true (lA 2 c8a)) a4a fun c8b a6V =>
 oP E (gsem (asB b3e) true (xBin .eql 2 (.tmp 54) (.const (vI 3)) c8b (vI 3))) a6V fun c8c a7l =>
 oP E (xPick b3e c8c (vB false)) a7l fun c3D a1W =>
 oP E (gsem (asB c3D) true (fA 27 e3c 0)) a1W fun f5B a8f =>
 oP E (gsem (asB c3D) true (lA 3 f5B)) a8f fun f5C a9P =>
 oP E (gsem (asB c3D) true (xBin .eql 3 (.tmp 59) (.const (vI 1)) f5C (vI 1))) a9P fun f5D a4P =>
 oP E (xPick c3D f5D (vB false)) a4P fun e6H a4f =>
 R e6H a4f
noncomputable def c10 : Code := Tryd.f10.body.getD .skip
def h10 : Hint := (sQ (sQ (sQ (sQ .none))))
theorem f5E (w : World) (R : RT) (E : Pan) : F10  w R E = callX Tryd.prog [.tmp 0] c10 h10 [] w R E := by kernel_rfl
theorem f5F (h : F10  w R E) : Cv Tryd.prog 10 #[] w R E := by
 refine f8 (args := []) (c := c10) (h := h10) (rs := [.tmp 0]) Tryd.func10 (by kernel_rfl) (by kernel_rfl) (Nat.zero_le _) (by kernel_rfl) (by kernel_rfl) (by kernel_rfl) ?_
 rw [← f5E]
 exact h
def F11 (x0 : Value) (w : World) (R : RT) (E : Pan) : Prop :=
 oP E (xV (Instr.box 24 x0)) w fun o5 w_2 =>
 oP E (xV (Instr.alloc 24 true (.tuple #[]))) w_2 fun N9 w_4 =>
 oP E (lA 24 o5) w_4 fun a5J w_6 =>
 oP E (xCall (fC 37) [a5J]) w_6 fun a0C w_8 =>
 oP E (xBin .neq 29 (.tmp 7) (.const (vI 0)) a0C (vI 0)) w_8 fun a8e o7 =>
 xcond a8e
 (oP E (xV (Instr.build 24 #[])) o7 fun a5p o4 =>
 oP E (sA 24 N9 a5p) o4 fun _z_13 o8 =>
 xcell Tryd.prog 24 N9 o8 fun b7d =>
 R (Value.tuple #[b7d, a0C]) o8)
 (oP E (lA 24 o5) o7 fun b1Y Y8 =>
 oP E (xCall (fC 38) [b1Y]) Y8 fun c9H a0D =>
 oP E (sA 24 N9 c9H) a0D fun _z_20 U1 =>
 xcell Tryd.prog 24 N9 U1 fun e1h =>
 R (Value.tuple #[e1h, (vI 0)]) U1)
noncomputable def c11 : Code := Tryd.f11.body.getD .skip
def h11 : Hint := (sQ (.seq (sQ (sQ (.cond (sQ .none) .none))) (sQ .none)))
theorem f5G (x0 : Value) (w : World) (R : RT) (E : Pan) : F11 x0 w R E = callX Tryd.prog [.cell 2 24, .tmp 3] c11 h11 [x0] w R E := by kernel_rfl
theorem f5H {x0 : Value} (h : F11 x0 w R E) : Cv Tryd.prog 11 #[x0] w R E := by
 refine f8 (args := [x0]) (c := c11) (h := h11) (rs := [.cell 2 24, .tmp 3]) Tryd.func11 (by kernel_rfl) (by kernel_rfl) (nB (by kernel_rfl)) (by kernel_rfl) (by kernel_rfl) (by kernel_rfl) ?_
 rw [← f5G]
 exact h
def F13 (x0 : Value) (w : World) (R : RT) (E : Pan) : Prop :=
 oP E (xV (Instr.box 27 x0)) w fun o5 w_2 =>
 oP E (xV (Instr.alloc 27 true (.tuple #[]))) w_2 fun N9 w_4 =>
 oP E (lA 27 o5) w_4 fun a5J w_6 =>
 oP E (xCall (fC 41) [a5J]) w_6 fun a0C w_8 =>
 oP E (xBin .neq 29 (.tmp 7) (.const (vI 0)) a0C (vI 0)) w_8 fun a8e o7 =>
 xcond a8e
 (oP E (xV (Instr.build 27 #[])) o7 fun a5p o4 =>
 oP E (sA 27 N9 a5p) o4 fun _z_13 o8 =>
 xcell Tryd.prog 27 N9 o8 fun b7d =>
 R (Value.tuple #[b7d, a0C]) o8)
 (oP E (lA 27 o5) o7 fun b1Y Y8 =>
 oP E (xCall (fC 42) [b1Y]) Y8 fun c9H a0D =>
 oP E (sA 27 N9 c9H) a0D fun _z_20 U1 =>
 xcell Tryd.prog 27 N9 U1 fun e1h =>
 R (Value.tuple #[e1h, (vI 0)]) U1)
noncomputable def c13 : Code := Tryd.f13.body.getD .skip
def h13 : Hint := (sQ (.seq (sQ (sQ (.cond (sQ .none) .none))) (sQ .none)))
theorem f5I (x0 : Value) (w : World) (R : RT) (E : Pan) : F13 x0 w R E = callX Tryd.prog [.cell 2 27, .tmp 3] c13 h13 [x0] w R E := by kernel_rfl
theorem f5J {x0 : Value} (h : F13 x0 w R E) : Cv Tryd.prog 13 #[x0] w R E := by
 refine f8 (args := [x0]) (c := c13) (h := h13) (rs := [.cell 2 27, .tmp 3]) Tryd.func13 (by kernel_rfl) (by kernel_rfl) (nB (by kernel_rfl)) (by kernel_rfl) (by kernel_rfl) (by kernel_rfl) ?_
 rw [← f5I]
 exact h
def F31 (x0 : Value) (w : World) (R : RT) (E : Pan) : Prop :=
 oP E (xV (Instr.box 44 x0)) w fun o5 w_2 =>
 oP E (xV (Instr.alloc 44 true (.tuple #[]))) w_2 fun N9 w_4 =>
 oP E (lA 44 o5) w_4 fun a8D w_6 =>
 oP E (xCall (fC 50) [a8D]) w_6 fun a5I w_8 =>
 oP E (eX a5I 0) w_8 fun a9e o7 =>
 oP E (eX a5I 1) o7 fun a8m o4 =>
 oP E (xV (Instr.alloc 44 true (.tuple #[]))) o4 fun c6v o8 =>
 oP E (sA 44 c6v a9e) o8 fun _z_15 s6 =>
 oP E (xBin .neq 29 (.tmp 11) (.const (vI 0)) a8m (vI 0)) s6 fun a8o v7 =>
 xcond a8o
 (oP E (xV (Instr.build 44 #[])) v7 fun a8p u1 =>
 oP E (sA 44 N9 a8p) u1 fun _z_21 v8 =>
 xcell Tryd.prog 44 N9 v8 fun g6i =>
 R (Value.tuple #[g6i, a8m]) v8)
 (oP E (fA 44 c6v 1) v7 fun c9I b2k =>
 oP E (lA 42 c9I) b2k fun f5K a3z =>
 oP E (xCall (fC 51) [f5K]) a3z fun c7S a7b =>
 oP E (fA 44 c6v 1) a7b fun f5L b0l =>
 oP E (sA 42 f5L c7S) b0l fun _z_32 b9c =>
 oP E (lA 44 c6v) b9c fun f5M a9z =>
 oP E (sA 44 N9 f5M) a9z fun _z_36 b4D =>
 xcell Tryd.prog 44 N9 b4D fun g6j =>
 R (Value.tuple #[g6j, (vI 0)]) b4D)
noncomputable def c31 : Code := Tryd.f31.body.getD .skip
def h31 : Hint := (sQ (sQ (.seq (sQ (.cond (sQ .none) .none)) (sQ (sQ .none)))))
theorem f5N (x0 : Value) (w : World) (R : RT) (E : Pan) : F31 x0 w R E = callX Tryd.prog [.cell 2 44, .tmp 3] c31 h31 [x0] w R E := by kernel_rfl
theorem f5O {x0 : Value} (h : F31 x0 w R E) : Cv Tryd.prog 31 #[x0] w R E := by
 refine f8 (args := [x0]) (c := c31) (h := h31) (rs := [.cell 2 44, .tmp 3]) Tryd.func31 (by kernel_rfl) (by kernel_rfl) (nB (by kernel_rfl)) (by kernel_rfl) (by kernel_rfl) (by kernel_rfl) ?_
 rw [← f5N]
 exact h
def F36 (x0 : Value) (w : World) (R : RT) (E : Pan) : Prop :=
 oP E (xV (Instr.alloc 24 true (.tuple #[]))) w fun W9 w_2 =>
 oP E (xV (Instr.build 24 #[(0, (vI 1)), (1, x0)])) w_2 fun a6e w_4 =>
 oP E (sA 24 W9 a6e) w_4 fun _z_5 w_6 =>
 xcell Tryd.prog 24 W9 w_6 fun r_7 =>
 R r_7 w_6
noncomputable def c36 : Code := Tryd.f36.body.getD .skip
def h36 : Hint := (sQ (sQ .none))
theorem f5P (x0 : Value) (w : World) (R : RT) (E : Pan) : F36 x0 w R E = callX Tryd.prog [.cell 2 24] c36 h36 [x0] w R E := by kernel_rfl
theorem f5Q {x0 : Value} (h : F36 x0 w R E) : Cv Tryd.prog 36 #[x0] w R E := by
 refine f8 (args := [x0]) (c := c36) (h := h36) (rs := [.cell 2 24]) Tryd.func36 (by kernel_rfl) (by kernel_rfl) (nB (by kernel_rfl)) (by kernel_rfl) (by kernel_rfl) (by kernel_rfl) ?_
 rw [← f5P]
 exact h
def c9J (x1 x2 : Value) (w : World) (R : RT) (E : Pan) : Prop :=
 ∀ _τ : Fr, (oP E (lA 24 x1) w fun f5R M4 =>
 oP E (sA 24 x2 f5R) M4 fun _z_43 N8 =>
 xcell Tryd.prog 24 x2 N8 fun g6k =>
 R g6k N8)
def c9K (x1 x2 : Value) (w : World) (j1 : NT) (R : RT) (E : Pan) : Prop :=
 ∀ _τ : Fr, (oP E (fA 24 x1 3) w fun f5S f3Q =>
 oP E (lA 22 f5S) f3Q fun f5T c5h =>
 oP E (iA 22 f5T (vI 1)) c5h fun f5U b6W =>
 oP E (lA 24 f5U) b6W fun f5V b7e =>
 oP E (xCall (fC 65) [f5V, (vI 1)]) b7e fun f5W c1H =>
 xcond f5W
 (oP E (fA 24 x1 3) c1H fun f5X d4e =>
 oP E (lA 22 f5X) d4e fun f5Y c8u =>
 oP E (iA 22 f5Y (vI 0)) c8u fun f5Z b2P =>
 oP E (lA 24 f5Z) b2P fun f6a e1i =>
 oP E (sA 24 x2 f6a) e1i fun _z_70 f6b =>
 xcell Tryd.prog 24 x2 f6b fun g6l =>
 R g6l f6b)
 (j1 [] c1H))
def c9L (x1 x2 x7 : Value) (w : World) (j1 : NT) (R : RT) (E : Pan) : Prop :=
 ∀ _τ : Fr, (oP E (fA 24 x1 3) w fun f6c a3k =>
 oP E (lA 22 f6c) a3k fun b5q a3l =>
 oP E (iA 22 b5q (vI 1)) a3l fun f6d a3Z =>
 oP E (lA 24 f6d) a3Z fun c9G a4x =>
 oP E (xCall (fC 65) [c9G, x7]) a4x fun c8m a4y =>
 xcond c8m
 (oP E (fA 24 x1 3) a4y fun c8n a5d =>
 oP E (lA 22 c8n) a5d fun f6e a4a =>
 oP E (iA 22 f6e (vI 0)) a4a fun f6f a6V =>
 oP E (lA 24 f6f) a6V fun f6g a7l =>
 oP E (sA 24 x2 f6g) a7l fun _z_93 a1W =>
 xcell Tryd.prog 24 x2 a1W fun g6m =>
 R g6m a1W)
 (j1 [] a4y))
def F38 (x0 : Value) (w : World) (R : RT) (E : Pan) : Prop :=
 oP E (xV (Instr.box 24 x0)) w fun o5 w_2 =>
 oP E (xV (Instr.alloc 24 true (.tuple #[]))) w_2 fun N9 w_4 =>
 oP E (fA 24 o5 3) w_4 fun e1g w_6 =>
 oP E (lA 22 e1g) w_6 fun c9x w_8 =>
 oP E (xCall (fC 61) [c9x, (fC 38)]) w_8 fun c2K o7 =>
 oP E (fA 24 o5 3) o7 fun a9i o4 =>
 oP E (sA 22 a9i c2K) o4 fun _z_13 o8 =>
 oP E (lA 24 o5) o8 fun a7n s6 =>
 oP E (xCall (fC 62) [a7n]) s6 fun a3X v7 =>
 oP E (eX a3X 0) v7 fun a5N u1 =>
 oP E (eX a3X 1) u1 fun a7o v8 =>
 xcond a7o
 (oP E (xCall (fC 63) [a5N]) v8 fun b1V y6 =>
 oP E (sA 24 N9 b1V) y6 fun _z_25 z6 =>
 xcell Tryd.prog 24 N9 z6 fun g6n =>
 R g6n z6)
 (oP E (lA 24 o5) v8 fun f6h a7b =>
 oP E (xCall (fC 64) [f6h]) a7b fun d7N b0l =>
 oP E (eX d7N 0) b0l fun f6i b9c =>
 oP E (eX d7N 1) b9c fun f6j a9z =>
 xcond f6j
 (oP E (xCall (fC 63) [f6i]) a9z fun f6k b4D =>
 oP E (sA 24 N9 f6k) b4D fun _z_38 a8i =>
 xcell Tryd.prog 24 N9 a8i fun g6o =>
 R g6o a8i)
 (xcut (fun _ c4I => c9J o5 N9 c4I R E) fun j1 =>
 oP E (fA 24 o5 0) a9z fun f6l b2n =>
 oP E (lA 3 f6l) b2n fun c3E c9M =>
 xcut (fun _ a1V => c9K o5 N9 a1V j1 R E) fun j2 =>
 xcut (fun _ b9d => c9L o5 N9 (vI 0) b9d j1 R E) fun j3 =>
 oP E (xBin .eql 3 (.tmp 29) (.const (vI 6)) c3E (vI 6)) c9M fun f6m c1Z =>
 xcond f6m
 (oP E (fA 24 o5 3) c1Z fun e6I e3d =>
 oP E (lA 22 e6I) e3d fun e6J b1u =>
 oP E (iA 22 e6J (vI 0)) b1u fun e6K c6w =>
 oP E (lA 24 e6K) c6w fun e6L e3e =>
 oP E (xCall (fC 65) [e6L, (vI 0)]) e3e fun e6M b9Y =>
 xcond e6M
 (oP E (fA 24 o5 3) b9Y fun e6N d4f =>
 oP E (lA 22 e6N) d4f fun e6O d4g =>
 oP E (iA 22 e6O (vI 1)) d4g fun e6P c3F =>
 oP E (lA 24 e6P) c3F fun e6Q d4h =>
 oP E (sA 24 N9 e6Q) d4h fun _z_118 e3f =>
 xcell Tryd.prog 24 N9 e3f fun g2m =>
 R g2m e3f)
 (j3 [] b9Y))
 (oP E (xBin .eql 3 (.tmp 29) (.const (vI 7)) c3E (vI 7)) c1Z fun e6R b3W =>
 xcond e6R
 (j3 [] b3W)
 (oP E (xBin .eql 3 (.tmp 29) (.const (vI 8)) c3E (vI 8)) b3W fun e6S b9K =>
 xcond e6S
 (oP E (fA 24 o5 3) b9K fun e6T c3d =>
 oP E (lA 22 e6T) c3d fun e6U c3e =>
 oP E (iA 22 e6U (vI 0)) c3e fun e6V b3X =>
 oP E (lA 24 e6V) b3X fun e6W c3f =>
 oP E (xCall (fC 65) [e6W, (vI 1)]) c3f fun b0m c3g =>
 oP E (gsem (asB b0m) true (fA 24 o5 3)) c3g fun e6X b9I =>
 oP E (gsem (asB b0m) true (lA 22 e6X)) b9I fun e6Y c2X =>
 oP E (gsem (asB b0m) true (iA 22 e6Y (vI 1))) c2X fun e6Z c2Y =>
 oP E (gsem (asB b0m) true (lA 24 e6Z)) c2Y fun e7a c2Z =>
 oP E (gsem (asB b0m) true (xCall (fC 65) [e7a, (vI 1)])) c2Z fun e7b b6l =>
 oP E (gsem (asB b0m) true (xV (Op.unary .not e7b))) b6l fun e7c b3V =>
 oP E (xPick b0m e7c (vB false)) b3V fun e7d c3a =>
 xcond e7d
 (oP E (fA 24 o5 3) c3a fun e7e d2T =>
 oP E (lA 22 e7e) d2T fun e7f d2U =>
 oP E (iA 22 e7f (vI 1)) d2U fun e7g d2W =>
 oP E (lA 24 e7g) d2W fun e7h c6q =>
 oP E (sA 24 N9 e7h) c6q fun _z_157 c3h =>
 xcell Tryd.prog 24 N9 c3h fun g2n =>
 R g2n c3h)
 (j2 [] c3a))
 (oP E (xBin .eql 3 (.tmp 29) (.const (vI 9)) c3E (vI 9)) b9K fun e7i d4i =>
 xcond e7i
 (j2 [] d4i)
 (j1 [] d4i))))))
noncomputable def c38 : Code := Tryd.f38.body.getD .skip
def h38 : Hint := (sQ (sQ (.seq (sQ (sQ (.cond (sQ .none) .none))) (.seq (sQ (sQ (.cond (sQ .none) .none))) (sQ (.cut [] (sQ (.block (.cut [] (.block (.seq (.block (.cut [] (.block (.seq (.block (.seq (.seq (sQ (.cond .none .none)) (.seq (sQ (.cond .none .none)) (.seq (sQ (.cond .none .none)) (sQ (.cond .none .none))))) .none)) (sQ (.cond (sQ .none) .none)))) (.seq (sQ (.cond (sQ .none) .none)) .none))) (sQ (.cond (sQ .none) .none)))) (.seq (sQ (.cond (sQ .none) .none)) .none)))) (sQ .none)))))))
theorem f6n (x0 : Value) (w : World) (R : RT) (E : Pan) : F38 x0 w R E = callX Tryd.prog [.cell 2 24] c38 h38 [x0] w R E := by kernel_rfl
theorem f6o {x0 : Value} (h : F38 x0 w R E) : Cv Tryd.prog 38 #[x0] w R E := by
 refine f8 (args := [x0]) (c := c38) (h := h38) (rs := [.cell 2 24]) Tryd.func38 (by kernel_rfl) (by kernel_rfl) (nB (by kernel_rfl)) (by kernel_rfl) (by kernel_rfl) (by kernel_rfl) ?_
 rw [← f6n]
 exact h
def c9N (x1 x2 : Value) (w : World) (R : RT) (E : Pan) : Prop :=
 ∀ _τ : Fr, (oP E (lA 27 x1) w fun f6p U1 =>
 oP E (sA 27 x2 f6p) U1 fun _z_22 a7p =>
 xcell Tryd.prog 27 x2 a7p fun e1j =>
 R e1j a7p)
def F42 (x0 : Value) (w : World) (R : RT) (E : Pan) : Prop :=
 oP E (xV (Instr.box 27 x0)) w fun o5 w_2 =>
 oP E (xV (Instr.alloc 27 true (.tuple #[]))) w_2 fun N9 w_4 =>
 dX w_4 fun w_5 =>
 qP Tryd.prog (fA 27 o5 2) fun f6q =>
 qP Tryd.prog (fA 27 o5 3) fun b1n =>
 qL Tryd.prog w_5 (blk f6q) (lA 22 f6q) fun g6p =>
 qL Tryd.prog w_5 (blk b1n) (lA 25 b1n) fun b3Q =>
 oP E (xCall (fC 61) [g6p, (fC 38)]) w_5 fun c9O P9 =>
 keepX [(blk b1n)] w_5 P9 (qP Tryd.prog (fA 27 o5 2) fun f6r =>
 oP E (xCall (fC 73) [b3Q, (fC 42)]) P9 fun f6s o8 =>
 keepX [] P9 o8 (opK Tryd.prog E (sA 22 f6r c9O) o8 fun _z_15 s6 =>
 keepX [] o8 s6 (qP Tryd.prog (fA 27 o5 3) fun f6t =>
 oP E (sA 25 f6t f6s) s6 fun _z_18 a0D =>
 keepX [] s6 a0D (xcut (fun _ z6 => c9N o5 N9 z6 R E) fun j1 =>
 oP E (fA 27 o5 0) a0D fun f6u E5 =>
 oP E (lA 3 f6u) E5 fun c3G E1 =>
 oP E (xBin .eql 3 (.tmp 17) (.const (vI 3)) c3G (vI 3)) E1 fun c7D E2 =>
 xcond c7D
 (oP E (fA 27 o5 2) E2 fun a6O E3 =>
 oP E (lA 22 a6O) E3 fun a7k L2 =>
 oP E (iA 22 a7k (vI 0)) L2 fun T1 L4 =>
 oP E (lA 24 T1) L4 fun c8k L9 =>
 oP E (xCall (fC 62) [c8k]) L9 fun d7O M4 =>
 oP E (eX d7O 0) M4 fun f6v N8 =>
 oP E (eX d7O 1) N8 fun d7P V1 =>
 oP E (fA 27 o5 2) V1 fun a6P V2 =>
 oP E (lA 22 a6P) V2 fun a6Q Q3 =>
 oP E (iA 22 a6Q (vI 1)) Q3 fun f6w R6 =>
 oP E (lA 24 f6w) R6 fun f6x W0 =>
 oP E (xCall (fC 62) [f6x]) W0 fun d7Q X0 =>
 oP E (eX d7Q 0) X0 fun f6y Y9 =>
 oP E (eX d7Q 1) Y9 fun f6z W1 =>
 oP E (xPick d7P (gval (asB d7P) true f6z) (vB false)) W1 fun f6A U0 =>
 xcond f6A
 (oP E (fA 27 o5 1) U0 fun f6B Z0 =>
 oP E (lA 3 f6B) Z0 fun f6C X6 =>
 oP E (xCall (fC 75) [f6C, f6v, f6y]) X6 fun b8z X7 =>
 oP E (xCall (fC 74) [b8z]) X7 fun f6D Z1 =>
 oP E (sA 27 N9 f6D) Z1 fun _z_71 a1t =>
 xcell Tryd.prog 27 N9 a1t fun g6q =>
 R g6q a1t)
 (j1 [] U0))
 (oP E (xBin .eql 3 (.tmp 17) (.const (vI 4)) c3G (vI 4)) E2 fun f6E e1k =>
 xcond f6E
 (oP E (fA 27 o5 3) e1k fun f6F f6G =>
 oP E (lA 25 f6F) f6G fun f6H b6o =>
 oP E (iA 25 f6H (vI 0)) b6o fun f6I f6J =>
 oP E (fA 27 f6I 0) f6J fun f6K f6L =>
 oP E (lA 3 f6K) f6L fun c9P g6r =>
 oP E (xBin .eql 3 (.tmp 53) (.const (vI 1)) c9P (vI 1)) g6r fun c9Q f6M =>
 oP E (gsem (asB c9Q) false (xBin .eql 3 (.tmp 56) (.const (vI 2)) (gval (asB c9Q) false c9P) (vI 2))) f6M fun f6N c5p =>
 oP E (xPick c9Q (vB true) f6N) c5p fun f6O d4j =>
 xcond f6O
 (oP E (xBin .eql 3 (.tmp 59) (.const (vI 2)) c9P (vI 2)) d4j fun f6P g6s =>
 oP E (xCall (fC 74) [f6P]) g6s fun f6Q d4k =>
 oP E (sA 27 N9 f6Q) d4k fun _z_96 b9d =>
 xcell Tryd.prog 27 N9 b9d fun g6t =>
 R g6t b9d)
 (j1 [] d4j))
 (oP E (xBin .eql 3 (.tmp 17) (.const (vI 5)) c3G (vI 5)) e1k fun f6R a4P =>
 xcond f6R
 (oP E (lA 27 o5) a4P fun e7j a4f =>
 oP E (xCall (fC 76) [e7j, (vI 1), (vI 2)]) a4f fun e7k a4g =>
 oP E (sA 27 N9 e7k) a4g fun _z_105 a5q =>
 xcell Tryd.prog 27 N9 a5q fun g2o =>
 R g2o a5q)
 (oP E (xBin .eql 3 (.tmp 17) (.const (vI 6)) c3G (vI 6)) a4P fun e7l b9Y =>
 xcond e7l
 (oP E (lA 27 o5) b9Y fun e7m d4f =>
 oP E (xCall (fC 76) [e7m, (vI 2), (vI 1)]) d4f fun e7n d4g =>
 oP E (sA 27 N9 e7n) d4g fun _z_114 c3F =>
 xcell Tryd.prog 27 N9 c3F fun g2p =>
 R g2p c3F)
 (j1 [] b9Y))))))))
noncomputable def c42 : Code := Tryd.f42.body.getD .skip
def h42 : Hint := (sQ (.seq (.reg [(0, 256, 2), (1, 512, 256), (2, 1024, 512), (0, 2048, 2), (8, 4096, 2048), (20, 8192, 4096), (31, 16384, 2), (127, 0, 17408), (255, 32768, 2), (511, 0, 40960)] [18, 16, 16, 18, 2, 0, 18, 0, 18, 0] (.early 0 (.early 3 (.load 1 (.load 4 (.step 2 (.early 6 (.step 5 (.step 7 (.early 8 (.step 9 .done))))))))))) (.cut [] (sQ (.block (sQ (.cond (sQ (sQ (sQ (.cond (sQ .none) .none)))) (sQ (.cond (sQ (sQ (.cond (sQ .none) .none))) (sQ (.cond (sQ .none) (sQ (.cond (sQ .none) .none)))))))))) (sQ .none))))
theorem f6S (x0 : Value) (w : World) (R : RT) (E : Pan) : F42 x0 w R E = callX Tryd.prog [.cell 2 27] c42 h42 [x0] w R E := by kernel_rfl
theorem f6T {x0 : Value} (h : F42 x0 w R E) : Cv Tryd.prog 42 #[x0] w R E := by
 refine f8 (args := [x0]) (c := c42) (h := h42) (rs := [.cell 2 27]) Tryd.func42 (by kernel_rfl) (by kernel_rfl) (nB (by kernel_rfl)) (by kernel_rfl) (by kernel_rfl) (by kernel_rfl) ?_
 rw [← f6S]
 exact h
def c9R (x3 : Value) (w : World) (R : RT) (_E : Pan) : Prop :=
 ∀ _τ : Fr, (R x3 w)
def d7R (x3 x6 x7 x8 : Value) (w : World) (next2 : NT) (j1 : NT) (_R : RT) (E : Pan) : Prop :=
 oP E (xBin .lss 3 (.tmp 8) (.tmp 7) x8 x7) w fun c4Q w_6 =>
 xcond c4Q
 (oP E (iA 42 x6 x8) w_6 fun d4l w_8 =>
 oP E (lA 63 d4l) w_8 fun b9Z o7 =>
 oP E (xV (Instr.alloc 63 true (.tuple #[]))) o7 fun e3g o4 =>
 oP E (sA 63 e3g b9Z) o4 fun _z_13 o8 =>
 oP E (lA 63 e3g) o8 fun a7n s6 =>
 oP E (xCall (fC 86) [a7n]) s6 fun a3X v7 =>
 oP E (xBuiltin .append #[42, 42] 42 [false, false] [x3, a3X]) v7 fun a5N u1 =>
 oP E (xBin .add 3 (.tmp 8) (.const (vI 1)) x8 (vI 1)) u1 fun a7o v8 =>
 next2 [a5N, a7o] v8)
 (j1 [x3] w_6)
def F51 (x0 : Value) (w : World) (R : RT) (E : Pan) : Prop :=
 xcut (fun l_1 w_2 => c9R (nth l_1 0) w_2 R E) fun j1 =>
 oP E (xBuiltin .len #[42] 3 [false] [x0]) w fun b2j w_4 =>
 xloop [3, 8] [(nS), (vI 0)] w_4 fun τ_23 y6 next2 =>
 d7R (τ_23 3) x0 b2j (τ_23 8) y6 next2 j1 R E
noncomputable def c51 : Code := Tryd.f51.body.getD .skip
def h51 : Hint := (sQ (sQ (.cut [3] (sQ (.block (.loop [3, 8] (sQ (.seq (.cond .none .none) (.seq (.block (sQ .none)) .none)))))) (sQ .none))))
theorem f6U (x0 : Value) (w : World) (R : RT) (E : Pan) : F51 x0 w R E = callX Tryd.prog [.tmp 2] c51 h51 [x0] w R E := by kernel_rfl
theorem f6V {x0 : Value} (h : F51 x0 w R E) : Cv Tryd.prog 51 #[x0] w R E := by
 refine f8 (args := [x0]) (c := c51) (h := h51) (rs := [.tmp 2]) Tryd.func51 (by kernel_rfl) (by kernel_rfl) (nB (by kernel_rfl)) (by kernel_rfl) (by kernel_rfl) (by kernel_rfl) ?_
 rw [← f6U]
 exact h
def c9S (x5 : Value) (w : World) (R : RT) (_E : Pan) : Prop :=
 ∀ _τ : Fr, (R x5 w)
def d7S (x1 x5 x8 x9 x10 : Value) (w : World) (next2 : NT) (j1 : NT) (_R : RT) (E : Pan) : Prop :=
 oP E (xBin .lss 3 (.tmp 10) (.tmp 9) x10 x9) w fun a4O w_6 =>
 xcond a4O
 (oP E (iA 22 x8 x10) w_6 fun a3x w_8 =>
 oP E (lA 24 a3x) w_8 fun a3y o7 =>
 oP E (xV (Instr.alloc 24 true (.tuple #[]))) o7 fun S5 o4 =>
 oP E (sA 24 S5 a3y) o4 fun _z_13 o8 =>
 oP E (lA 24 S5) o8 fun a2K s6 =>
 oP E (xCall x1 [a2K]) s6 fun a2L v7 =>
 oP E (xV (Instr.buildSlice 22 1 #[(0, a2L)])) v7 fun a2M u1 =>
 oP E (xBuiltin .append #[22, 22] 22 [false, false] [x5, a2M]) u1 fun a2N v8 =>
 oP E (xBin .add 3 (.tmp 10) (.const (vI 1)) x10 (vI 1)) v8 fun a0U y6 =>
 next2 [a2N, a0U] y6)
 (j1 [x5] w_6)
def F61 (x0 x1 : Value) (w : World) (R : RT) (E : Pan) : Prop :=
 xcut (fun l_1 w_2 => c9S (nth l_1 0) w_2 R E) fun j1 =>
 oP E (xBuiltin .len #[22] 3 [false] [x0]) w fun a3Y w_4 =>
 xloop [5, 10] [(nS), (vI 0)] w_4 fun τ_25 z6 next2 =>
 d7S x1 (τ_25 5) x0 a3Y (τ_25 10) z6 next2 j1 R E
noncomputable def c61 : Code := Tryd.f61.body.getD .skip
def h61 : Hint := (sQ (sQ (.cut [5] (sQ (.block (.loop [5, 10] (sQ (.seq (.cond .none .none) (.seq (.block (sQ .none)) .none)))))) (sQ .none))))
theorem f6W (x0 x1 : Value) (w : World) (R : RT) (E : Pan) : F61 x0 x1 w R E = callX Tryd.prog [.tmp 4] c61 h61 [x0, x1] w R E := by kernel_rfl
theorem f6X {x0 x1 : Value} (h : F61 x0 x1 w R E) : Cv Tryd.prog 61 #[x0, x1] w R E := by
 refine f8 (args := [x0, x1]) (c := c61) (h := h61) (rs := [.tmp 4]) Tryd.func61 (by kernel_rfl) (by kernel_rfl) (nB (by kernel_rfl)) (by kernel_rfl) (by kernel_rfl) (by kernel_rfl) ?_
 rw [← f6W]
 exact h
def F62 (x0 : Value) (w : World) (R : RT) (E : Pan) : Prop :=
 oP E (xV (Instr.box 24 x0)) w fun o5 w_2 =>
 oP E (fA 24 o5 0) w_2 fun a9d w_4 =>
 oP E (lA 3 a9d) w_4 fun a5H w_6 =>
 oP E (xBin .eql 3 (.tmp 6) (.const (vI 1)) a5H (vI 1)) w_6 fun a5c w_8 =>
 xcond a5c
 (oP E (fA 24 o5 1) w_8 fun a8e o7 =>
 oP E (lA 2 a8e) o7 fun a5p o4 =>
 R (Value.tuple #[a5p, (vB true)]) o4)
 (oP E (fA 24 o5 0) w_8 fun a9f o8 =>
 oP E (lA 3 a9f) o8 fun b1W s6 =>
 oP E (xBin .eql 3 (.tmp 12) (.const (vI 5)) b1W (vI 5)) s6 fun a5K v7 =>
 oP E (gsem (asB a5K) true (fA 24 o5 3)) v7 fun a5N u1 =>
 oP E (gsem (asB a5K) true (lA 22 a5N)) u1 fun a7o v8 =>
 oP E (gsem (asB a5K) true (iA 22 a7o (vI 0))) v8 fun c7Z y6 =>
 oP E (gsem (asB a5K) true (fA 24 c7Z 0)) y6 fun b8x z6 =>
 oP E (gsem (asB a5K) true (lA 3 b8x)) z6 fun a9h E5 =>
 oP E (gsem (asB a5K) true (xBin .eql 3 (.tmp 19) (.const (vI 1)) a9h (vI 1))) E5 fun c7m E1 =>
 oP E (xPick a5K c7m (vB false)) E1 fun b5n E2 =>
 xcond b5n
 (oP E (fA 24 o5 3) E2 fun b8h E3 =>
 oP E (lA 22 b8h) E3 fun c7n L2 =>
 oP E (iA 22 c7n (vI 0)) L2 fun c7o L4 =>
 oP E (fA 24 c7o 1) L4 fun b2e L9 =>
 oP E (lA 2 b2e) L9 fun b2f M4 =>
 oP E (xV (Op.unary .neg b2f)) M4 fun b2g N8 =>
 R (Value.tuple #[b2g, (vB true)]) N8)
 (R (Value.tuple #[(vI 0), (vB false)]) E2))
noncomputable def c62 : Code := Tryd.f62.body.getD .skip
def h62 : Hint := (sQ (.seq (.block (sQ (.cond (sQ .none) (sQ (.cond (sQ .none) .none))))) (sQ .none)))
theorem f6Y (x0 : Value) (w : World) (R : RT) (E : Pan) : F62 x0 w R E = callX Tryd.prog [.tmp 2, .tmp 3] c62 h62 [x0] w R E := by kernel_rfl
theorem f6Z {x0 : Value} (h : F62 x0 w R E) : Cv Tryd.prog 62 #[x0] w R E := by
 refine f8 (args := [x0]) (c := c62) (h := h62) (rs := [.tmp 2, .tmp 3]) Tryd.func62 (by kernel_rfl) (by kernel_rfl) (nB (by kernel_rfl)) (by kernel_rfl) (by kernel_rfl) (by kernel_rfl) ?_
 rw [← f6Y]
 exact h
def F63 (x0 : Value) (w : World) (R : RT) (E : Pan) : Prop :=
 oP E (xV (Instr.alloc 24 true (.tuple #[]))) w fun W9 w_2 =>
 oP E (xBin .lss 2 (.tmp 3) (.const (vI 0)) x0 (vI 0)) w_2 fun a6e w_4 =>
 xcond a6e
 (oP E (xV (Op.unary .neg x0)) w_4 fun a5H w_6 =>
 oP E (xV (Instr.build 24 #[(0, (vI 1)), (1, a5H)])) w_6 fun a5c w_8 =>
 oP E (xV (Instr.buildSlice 22 1 #[(0, a5c)])) w_8 fun a8e o7 =>
 oP E (xV (Instr.build 24 #[(0, (vI 5)), (3, a8e)])) o7 fun a5p o4 =>
 oP E (sA 24 W9 a5p) o4 fun _z_13 o8 =>
 xcell Tryd.prog 24 W9 o8 fun b7d =>
 R b7d o8)
 (oP E (xV (Instr.build 24 #[(0, (vI 1)), (1, x0)])) w_4 fun b1Y Y8 =>
 oP E (sA 24 W9 b1Y) Y8 fun _z_18 a0D =>
 xcell Tryd.prog 24 W9 a0D fun e1l =>
 R e1l a0D)
noncomputable def c63 : Code := Tryd.f63.body.getD .skip
def h63 : Hint := (sQ (.seq (sQ (.cond (sQ .none) .none)) (sQ .none)))
theorem f7a (x0 : Value) (w : World) (R : RT) (E : Pan) : F63 x0 w R E = callX Tryd.prog [.cell 2 24] c63 h63 [x0] w R E := by kernel_rfl
theorem f7b {x0 : Value} (h : F63 x0 w R E) : Cv Tryd.prog 63 #[x0] w R E := by
 refine f8 (args := [x0]) (c := c63) (h := h63) (rs := [.cell 2 24]) Tryd.func63 (by kernel_rfl) (by kernel_rfl) (nB (by kernel_rfl)) (by kernel_rfl) (by kernel_rfl) (by kernel_rfl) ?_
 rw [← f7a]
 exact h
def c9T (x9 x10 : Value) (w : World) (R : RT) (E : Pan) : Prop :=
 ∀ _τ : Fr, (oP E (xBin .eql 3 (.tmp 91) (.const (vI 0)) x10 (vI 0)) w fun d4m w_6 =>
 oP E (gsem (asB d4m) true (xBin .neq 2 (.tmp 94) (.const (vI (-9223372036854775808))) (gval (asB d4m) true x9) (vI (-9223372036854775808)))) w_6 fun g2q w_8 =>
 oP E (xPick d4m g2q (vB false)) w_8 fun g2r o7 =>
 R (Value.tuple #[x9, g2r]) o7)
def c9U (x1 x4 : Value) (w : World) (R : RT) (E : Pan) : Prop :=
 ∀ _τ : Fr, (xcut (fun d2C o4 => c9T (nth d2C 0) (nth d2C.tail 0) o4 R E) fun j2 =>
 oP E (fA 24 x1 0) w fun f7c o8 =>
 oP E (lA 3 f7c) o8 fun b0E s6 =>
 oP E (xBin .eql 3 (.tmp 31) (.const (vI 5)) b0E (vI 5)) s6 fun c9v v7 =>
 xcond c9v
 (oP E (iA 164 x4 (vI 0)) v7 fun f7d u1 =>
 oP E (lA 2 f7d) u1 fun f7e v8 =>
 oP E (xCall (fC 101) [f7e]) v8 fun d7T y6 =>
 oP E (eX d7T 0) y6 fun f7f z6 =>
 oP E (eX d7T 1) z6 fun f7g E5 =>
 j2 [f7f, f7g] E5)
 (oP E (xBin .eql 3 (.tmp 31) (.const (vI 6)) b0E (vI 6)) v7 fun f7h E1 =>
 xcond f7h
 (oP E (iA 164 x4 (vI 0)) E1 fun f7i E2 =>
 oP E (lA 2 f7i) E2 fun f7j E3 =>
 oP E (iA 164 x4 (vI 1)) E3 fun f7k L2 =>
 oP E (lA 2 f7k) L2 fun f7l L4 =>
 oP E (xCall (fC 26) [f7j, f7l]) L4 fun d7U L9 =>
 oP E (eX d7U 0) L9 fun f7m M4 =>
 oP E (eX d7U 1) M4 fun f7n N8 =>
 j2 [f7m, f7n] N8)
 (oP E (xBin .eql 3 (.tmp 31) (.const (vI 7)) b0E (vI 7)) E1 fun f7o V1 =>
 xcond f7o
 (oP E (iA 164 x4 (vI 0)) V1 fun f7p V2 =>
 oP E (lA 2 f7p) V2 fun f7q Q3 =>
 oP E (iA 164 x4 (vI 1)) Q3 fun f7r R6 =>
 oP E (lA 2 f7r) R6 fun f7s W0 =>
 oP E (xCall (fC 27) [f7q, f7s]) W0 fun d7V X0 =>
 oP E (eX d7V 0) X0 fun f7t Y9 =>
 oP E (eX d7V 1) Y9 fun f7u W1 =>
 j2 [f7t, f7u] W1)
 (oP E (xBin .eql 3 (.tmp 31) (.const (vI 8)) b0E (vI 8)) V1 fun f7v U0 =>
 xcond f7v
 (oP E (iA 164 x4 (vI 0)) U0 fun f7w Z0 =>
 oP E (lA 2 f7w) Z0 fun f7x X6 =>
 oP E (iA 164 x4 (vI 1)) X6 fun f7y X7 =>
 oP E (lA 2 f7y) X7 fun f7z Z1 =>
 oP E (xCall (fC 28) [f7x, f7z]) Z1 fun d7W a1t =>
 oP E (eX d7W 0) a1t fun f7A a1V =>
 oP E (eX d7W 1) a1V fun f7B a3k =>
 j2 [f7A, f7B] a3k)
 (oP E (xBin .eql 3 (.tmp 31) (.const (vI 9)) b0E (vI 9)) U0 fun f7C a3l =>
 xcond f7C
 (oP E (iA 164 x4 (vI 0)) a3l fun f7D a3Z =>
 oP E (lA 2 f7D) a3Z fun f7E a4x =>
 oP E (iA 164 x4 (vI 1)) a4x fun f7F a4y =>
 oP E (lA 2 f7F) a4y fun f7G a5d =>
 oP E (xCall (fC 29) [f7E, f7G]) a5d fun d7X a4a =>
 oP E (eX d7X 0) a4a fun f7H a6V =>
 oP E (eX d7X 1) a6V fun f7I a7l =>
 j2 [f7H, f7I] a7l)
 (oP E (xBin .eql 3 (.tmp 31) (.const (vI 10)) b0E (vI 10)) a3l fun f7J a1W =>
 xcond f7J
 (oP E (iA 164 x4 (vI 0)) a1W fun f7K a8f =>
 oP E (lA 2 f7K) a8f fun f7L a9P =>
 oP E (iA 164 x4 (vI 1)) a9P fun f7M a4P =>
 oP E (lA 2 f7M) a4P fun e7o a4f =>
 oP E (xCall (fC 30) [f7L, e7o]) a4f fun d1P a4g =>
 oP E (eX d1P 0) a4g fun e7p a5q =>
 oP E (eX d1P 1) a5q fun e7q c2O =>
 j2 [e7p, e7q] c2O)
 (j2 [(vI 0), (vI 2)] a1W)))))))
def d7Y (_x1 x4 x12 x13 x14 : Value) (w : World) (next3 : NT) (j1 : NT) (R : RT) (E : Pan) : Prop :=
 oP E (xBin .lss 3 (.tmp 14) (.tmp 13) x14 x13) w fun e7r b9G =>
 xcond e7r
 (oP E (iA 22 x12 x14) b9G fun e7s b3U =>
 oP E (lA 24 e7s) b3U fun e7t b3W =>
 oP E (xV (Instr.alloc 24 true (.tuple #[]))) b3W fun d7Z b9K =>
 oP E (sA 24 d7Z e7t) b9K fun _z_125 c3d =>
 oP E (lA 24 d7Z) c3d fun e7u c3e =>
 oP E (xCall (fC 62) [e7u]) c3e fun d1Q b3X =>
 oP E (eX d1Q 0) b3X fun e7v c3f =>
 oP E (eX d1Q 1) c3f fun e7w c3g =>
 oP E (xV (Op.unary .not e7w)) c3g fun e7x b9I =>
 xcond e7x
 (R (Value.tuple #[(vI 0), (vB false)]) b9I)
 (oP E (iA 164 x4 x14) b9I fun e7y c2X =>
 oP E (sA 2 e7y e7v) c2X fun _z_139 c2Y =>
 oP E (xBin .add 3 (.tmp 14) (.const (vI 1)) x14 (vI 1)) c2Y fun e7z c2Z =>
 next3 [e7z] c2Z))
 (j1 [] b9G)
def F64 (x0 : Value) (w : World) (R : RT) (E : Pan) : Prop :=
 oP E (xV (Instr.box 24 x0)) w fun o5 w_2 =>
 oP E (xV (Instr.alloc 164 true (.tuple #[]))) w_2 fun a6e w_4 =>
 xcut (fun _ b9F => c9U o5 a6e b9F R E) fun j1 =>
 oP E (fA 24 o5 3) w_4 fun e7A c2P =>
 oP E (lA 22 e7A) c2P fun d1R a9q =>
 oP E (xBuiltin .len #[22] 3 [false] [d1R]) a9q fun e7B b1m =>
 xloop [14] [(vI 0)] b1m fun τ_143 b6l next3 =>
 d7Y o5 a6e d1R e7B (τ_143 14) b6l next3 j1 R E
noncomputable def c64 : Code := Tryd.f64.body.getD .skip
def h64 : Hint := (sQ (sQ (.cut [] (sQ (.block (.loop [14] (sQ (.seq (.cond .none .none) (.seq (.block (sQ (sQ (.seq (sQ (.cond (sQ .none) .none)) .none)))) .none)))))) (sQ (.cut [9, 10] (sQ (.block (sQ (.cond .none (sQ (.cond .none (sQ (.cond .none (sQ (.cond .none (sQ (.cond .none (sQ (.cond .none .none)))))))))))))) (sQ .none))))))
theorem f7N (x0 : Value) (w : World) (R : RT) (E : Pan) : F64 x0 w R E = callX Tryd.prog [.tmp 2, .tmp 3] c64 h64 [x0] w R E := by kernel_rfl
theorem f7O {x0 : Value} (h : F64 x0 w R E) : Cv Tryd.prog 64 #[x0] w R E := by
 refine f8 (args := [x0]) (c := c64) (h := h64) (rs := [.tmp 2, .tmp 3]) Tryd.func64 (by kernel_rfl) (by kernel_rfl) (nB (by kernel_rfl)) (by kernel_rfl) (by kernel_rfl) (by kernel_rfl) ?_
 rw [← f7N]
 exact h
def F65 (x0 x1 : Value) (w : World) (R : RT) (E : Pan) : Prop :=
 oP E (xV (Instr.box 24 x0)) w fun W9 w_2 =>
 oP E (lA 24 W9) w_2 fun b8w w_4 =>
 oP E (xCall (fC 62) [b8w]) w_4 fun c4Q w_6 =>
 oP E (eX c4Q 0) w_6 fun d4l w_8 =>
 oP E (eX c4Q 1) w_8 fun b9Z o7 =>
 oP E (gsem (asB b9Z) true (xBin .eql 2 (.tmp 14) (.tmp 15) (gval (asB b9Z) true d4l) (gval (asB b9Z) true x1))) o7 fun a7m o4 =>
 oP E (xPick b9Z a7m (vB false)) o4 fun f7P o8 =>
 R f7P o8
noncomputable def c65 : Code := Tryd.f65.body.getD .skip
def h65 : Hint := (sQ (sQ (sQ .none)))
theorem f7Q (x0 x1 : Value) (w : World) (R : RT) (E : Pan) : F65 x0 x1 w R E = callX Tryd.prog [.tmp 4] c65 h65 [x0, x1] w R E := by kernel_rfl
theorem f7R {x0 x1 : Value} (h : F65 x0 x1 w R E) : Cv Tryd.prog 65 #[x0, x1] w R E := by
 refine f8 (args := [x0, x1]) (c := c65) (h := h65) (rs := [.tmp 4]) Tryd.func65 (by kernel_rfl) (by kernel_rfl) (nB (by kernel_rfl)) (by kernel_rfl) (by kernel_rfl) (by kernel_rfl) ?_
 rw [← f7Q]
 exact h
def c9V (x5 : Value) (w : World) (R : RT) (_E : Pan) : Prop :=
 ∀ _τ : Fr, (R x5 w)
def d8a (x1 x5 x8 x9 x10 : Value) (w : World) (next2 : NT) (j1 : NT) (_R : RT) (E : Pan) : Prop :=
 oP E (xBin .lss 3 (.tmp 10) (.tmp 9) x10 x9) w fun a4O w_6 =>
 xcond a4O
 (oP E (iA 25 x8 x10) w_6 fun a3x w_8 =>
 oP E (lA 27 a3x) w_8 fun a3y o7 =>
 oP E (xV (Instr.alloc 27 true (.tuple #[]))) o7 fun S5 o4 =>
 oP E (sA 27 S5 a3y) o4 fun _z_13 o8 =>
 oP E (lA 27 S5) o8 fun a2K s6 =>
 oP E (xCall x1 [a2K]) s6 fun a2L v7 =>
 oP E (xV (Instr.buildSlice 25 1 #[(0, a2L)])) v7 fun a2M u1 =>
 oP E (xBuiltin .append #[25, 25] 25 [false, false] [x5, a2M]) u1 fun a2N v8 =>
 oP E (xBin .add 3 (.tmp 10) (.const (vI 1)) x10 (vI 1)) v8 fun a0U y6 =>
 next2 [a2N, a0U] y6)
 (j1 [x5] w_6)
def F73 (x0 x1 : Value) (w : World) (R : RT) (E : Pan) : Prop :=
 xcut (fun l_1 w_2 => c9V (nth l_1 0) w_2 R E) fun j1 =>
 oP E (xBuiltin .len #[25] 3 [false] [x0]) w fun a3Y w_4 =>
 xloop [5, 10] [(nS), (vI 0)] w_4 fun τ_25 z6 next2 =>
 d8a x1 (τ_25 5) x0 a3Y (τ_25 10) z6 next2 j1 R E
noncomputable def c73 : Code := Tryd.f73.body.getD .skip
def h73 : Hint := (sQ (sQ (.cut [5] (sQ (.block (.loop [5, 10] (sQ (.seq (.cond .none .none) (.seq (.block (sQ .none)) .none)))))) (sQ .none))))
theorem f7S (x0 x1 : Value) (w : World) (R : RT) (E : Pan) : F73 x0 x1 w R E = callX Tryd.prog [.tmp 4] c73 h73 [x0, x1] w R E := by kernel_rfl
theorem f7T {x0 x1 : Value} (h : F73 x0 x1 w R E) : Cv Tryd.prog 73 #[x0, x1] w R E := by
 refine f8 (args := [x0, x1]) (c := c73) (h := h73) (rs := [.tmp 4]) Tryd.func73 (by kernel_rfl) (by kernel_rfl) (nB (by kernel_rfl)) (by kernel_rfl) (by kernel_rfl) (by kernel_rfl) ?_
 rw [← f7S]
 exact h
def F74 (x0 : Value) (w : World) (R : RT) (E : Pan) : Prop :=
 oP E (xV (Instr.alloc 27 true (.tuple #[]))) w fun W9 w_2 =>
 xcond x0
 (oP E (xV (Instr.build 27 #[(0, (vI 1))])) w_2 fun a6e w_4 =>
 oP E (sA 27 W9 a6e) w_4 fun _z_5 w_6 =>
 xcell Tryd.prog 27 W9 w_6 fun r_7 =>
 R r_7 w_6)
 (oP E (xV (Instr.build 27 #[(0, (vI 2))])) w_2 fun c7p w_9 =>
 oP E (sA 27 W9 c7p) w_9 fun _z_10 P9 =>
 xcell Tryd.prog 27 W9 P9 fun g6u =>
 R g6u P9)
noncomputable def c74 : Code := Tryd.f74.body.getD .skip
def h74 : Hint := (sQ (.seq (sQ (.cond (sQ .none) .none)) (sQ .none)))
theorem f7U (x0 : Value) (w : World) (R : RT) (E : Pan) : F74 x0 w R E = callX Tryd.prog [.cell 2 27] c74 h74 [x0] w R E := by kernel_rfl
theorem f7V {x0 : Value} (h : F74 x0 w R E) : Cv Tryd.prog 74 #[x0] w R E := by
 refine f8 (args := [x0]) (c := c74) (h := h74) (rs := [.cell 2 27]) Tryd.func74 (by kernel_rfl) (by kernel_rfl) (nB (by kernel_rfl)) (by kernel_rfl) (by kernel_rfl) (by kernel_rfl) ?_
 rw [← f7U]
 exact h
def c9W (x3 x6 x7 x23 : Value) (w : World) (R : RT) (E : Pan) : Prop :=
 ∀ _τ : Fr, (xcond x23
 (oP E (lA 27 x7) w fun f7W Y8 =>
 oP E (sA 27 x6 f7W) Y8 fun _z_18 a0D =>
 xcell Tryd.prog 27 x6 a0D fun e1l =>
 R e1l a0D)
 (oP E (lA 27 x3) w fun f7X v8 =>
 oP E (sA 27 x6 f7X) v8 fun _z_23 y6 =>
 xcell Tryd.prog 27 x6 y6 fun g6v =>
 R g6v y6))
def c9X (x1 x2 x3 x6 x7 x8 : Value) (w : World) (R : RT) (E : Pan) : Prop :=
 ∀ _τ : Fr, (oP E (fA 27 x7 0) w fun g2s w_6 =>
 oP E (lA 3 g2s) w_6 fun g2t w_8 =>
 oP E (xBin .eql 3 (.tmp 19) (.tmp 20) g2t x1) w_8 fun g2u o7 =>
 xcond g2u
 (oP E (lA 27 x8) o7 fun f7Y o4 =>
 oP E (sA 27 x6 f7Y) o4 fun _z_13 o8 =>
 xcell Tryd.prog 27 x6 o8 fun b7d =>
 R b7d o8)
 (xcut (fun c8s a3z => c9W x3 x6 x7 (nth c8s 0) a3z R E) fun j2 =>
 oP E (fA 27 x7 0) o7 fun f7Z a7b =>
 oP E (lA 3 f7Z) a7b fun f8a b0l =>
 oP E (xBin .eql 3 (.tmp 25) (.tmp 26) f8a x2) b0l fun d8b b9c =>
 xcond d8b
 (j2 [d8b] b9c)
 (oP E (fA 27 x8 0) b9c fun f8b a9z =>
 oP E (lA 3 f8b) a9z fun f8c b4D =>
 oP E (xBin .eql 3 (.tmp 29) (.tmp 30) f8c x1) b4D fun f8d a8i =>
 j2 [f8d] a8i)))
def F76 (x0 x1 x2 : Value) (w : World) (R : RT) (E : Pan) : Prop :=
 oP E (xV (Instr.box 27 x0)) w fun b1a w_2 =>
 oP E (xV (Instr.alloc 27 true (.tuple #[]))) w_2 fun b6k w_4 =>
 xcut (fun d4n c0X => c9X x1 x2 b1a b6k (nth d4n 0) (nth d4n.tail 0) c0X R E) fun j1 =>
 dX w_4 fun M4 =>
 qP Tryd.prog (fA 27 b1a 3) fun b1v =>
 qP Tryd.prog (fA 27 b1a 3) fun b0K =>
 qL Tryd.prog M4 (blk b1v) (lA 25 b1v) fun f8e =>
 qP Tryd.prog (iA 25 f8e (vI 0)) fun b5G =>
 qL Tryd.prog M4 (blk b5G) (lA 27 b5G) fun d8c =>
 qL Tryd.prog M4 (blk b0K) (lA 25 b0K) fun f8f =>
 qP Tryd.prog (iA 25 f8f (vI 1)) fun b0L =>
 qL Tryd.prog M4 (blk b0L) (lA 27 b0L) fun d8d =>
 (oP E (xV (Instr.alloc 27 true (.tuple #[]))) M4 fun e3h R6 =>
 keepX [(blk b0L), (blk b0K), (blk b5G), (blk b1v)] M4 R6 (opK Tryd.prog E (xV (Instr.alloc 27 true (.tuple #[]))) R6 fun e3i W0 =>
 keepX [(blk b0L), (blk b0K), (blk b5G), (blk b1v)] R6 W0 (opK Tryd.prog E (sA 27 e3h d8c) W0 fun _z_55 X0 =>
 keepX [(blk b0L), (blk b0K)] W0 X0 (opK Tryd.prog E (sA 27 e3i d8d) X0 fun _z_57 Y9 =>
 keepX [] X0 Y9 (j1 [e3h, e3i] Y9))))) ∧
 (oP E (xV (Instr.alloc 27 true (.tuple #[]))) M4 fun e3j W1 =>
 keepX [(blk b0L), (blk b0K), (blk b5G), (blk b1v)] M4 W1 (opK Tryd.prog E (xV (Instr.alloc 27 true (.tuple #[]))) W1 fun e3k U0 =>
 keepX [(blk b0L), (blk b0K), (blk b5G), (blk b1v)] W1 U0 (opK Tryd.prog E (sA 27 e3k d8c) U0 fun _z_63 Z0 =>
 keepX [(blk b0L), (blk b0K)] U0 Z0 (opK Tryd.prog E (sA 27 e3j d8d) Z0 fun _z_65 X6 =>
 keepX [] Z0 X6 (j1 [e3k, e3j] X6)))))
noncomputable def c76 : Code := Tryd.f76.body.getD .skip
def h76 : Hint := (sQ (.cut [7, 8] (.reg [(0, 512, 8), (1, 1024, 512), (2, 2048, 1024), (4, 4096, 2048), (0, 8192, 8), (16, 16384, 8192), (32, 32768, 16384), (64, 65536, 32768), (0, 128, 0), (0, 256, 0), (783, 0, 4224), (2047, 0, 65792)] [170, 168, 170, 162, 170, 138, 170, 42, 170, 170, 160, 0] (.early 0 (.early 4 (.load 1 (.early 2 (.load 3 (.load 5 (.early 6 (.load 7 (.alt 8 (.step 9 (.step 10 (.step 11 .done))) (.step 9 (.step 8 (.step 10 (.step 11 .done)))))))))))))) (.seq (.block (sQ (.cond (sQ .none) (.cut [23] (sQ (.cond .none .none)) (.cond (sQ .none) .none))))) (sQ .none))))
theorem f8g (x0 x1 x2 : Value) (w : World) (R : RT) (E : Pan) : F76 x0 x1 x2 w R E = callX Tryd.prog [.cell 6 27] c76 h76 [x0, x1, x2] w R E := by kernel_rfl
theorem f8h {x0 x1 x2 : Value} (h : F76 x0 x1 x2 w R E) : Cv Tryd.prog 76 #[x0, x1, x2] w R E := by
 refine f8 (args := [x0, x1, x2]) (c := c76) (h := h76) (rs := [.cell 6 27]) Tryd.func76 (by kernel_rfl) (by kernel_rfl) (nB (by kernel_rfl)) (by kernel_rfl) (by kernel_rfl) (by kernel_rfl) ?_
 rw [← f8g]
 exact h
def c9Y (x1 x3 x21 : Value) (w : World) (R : RT) (E : Pan) : Prop :=
 ∀ _τ : Fr, (xcond x21
 (R (nS) w)
 (oP E (fA 63 x1 0) w fun f8i L2 =>
 oP E (lA 3 f8i) L2 fun f8j L4 =>
 oP E (xBin .eql 3 (.tmp 41) (.const (vI 3)) f8j (vI 3)) L4 fun c9Z L9 =>
 oP E (gsem (asB c9Z) true (xCall (gval (asB c9Z) true x3) [(vI 1)])) L9 fun f8k M4 =>
 oP E (xPick c9Z f8k (vB false)) M4 fun f8l N8 =>
 xcond f8l
 (oP E (fA 63 x1 4) N8 fun f8m V1 =>
 oP E (lA 42 f8m) V1 fun f8n V2 =>
 R f8n V2)
 (oP E (fA 63 x1 0) N8 fun f8o Q3 =>
 oP E (lA 3 f8o) Q3 fun f8p R6 =>
 oP E (xBin .eql 3 (.tmp 51) (.const (vI 3)) f8p (vI 3)) R6 fun d0a W0 =>
 oP E (gsem (asB d0a) true (xCall (gval (asB d0a) true x3) [(vI 2)])) W0 fun f8q X0 =>
 oP E (xPick d0a f8q (vB false)) X0 fun f8r Y9 =>
 xcond f8r
 (oP E (fA 63 x1 5) Y9 fun f8s W1 =>
 oP E (lA 42 f8s) W1 fun f8t U0 =>
 R f8t U0)
 (oP E (lA 63 x1) Y9 fun f8u Z0 =>
 oP E (xV (Instr.buildSlice 42 1 #[(0, f8u)])) Z0 fun f8v X6 =>
 R f8v X6))))
def F86 (x0 : Value) (w : World) (R : RT) (E : Pan) : Prop :=
 oP E (xV (Instr.box 63 x0)) w fun o5 w_2 =>
 dX w_2 fun w_3 =>
 qP Tryd.prog (fA 63 o5 3) fun f8w =>
 qP Tryd.prog (fA 63 o5 2) fun a8D =>
 qL Tryd.prog w_3 (blk f8w) (lA 25 f8w) fun g6w =>
 qL Tryd.prog w_3 (blk a8D) (lA 22 a8D) fun a5I =>
 oP E (xCall (fC 73) [g6w, (fC 42)]) w_3 fun g6x w_9 =>
 keepX [(blk a8D)] w_3 w_9 (qP Tryd.prog (fA 63 o5 3) fun c9O =>
 oP E (xCall (fC 61) [a5I, (fC 38)]) w_9 fun a5p o4 =>
 keepX [] w_9 o4 (opK Tryd.prog E (sA 25 c9O g6x) o4 fun _z_13 o8 =>
 keepX [] o4 o8 (qP Tryd.prog (fA 63 o5 2) fun a8n =>
 oP E (sA 22 a8n a5p) o8 fun _z_16 Y8 =>
 keepX [] o8 Y8 (dX Y8 fun v7 =>
 qP Tryd.prog (fA 63 o5 4) fun b0F =>
 qP Tryd.prog (fA 63 o5 5) fun b9e =>
 qL Tryd.prog v7 (blk b0F) (lA 42 b0F) fun d0b =>
 qL Tryd.prog v7 (blk b9e) (lA 42 b9e) fun f8x =>
 oP E (xCall (fC 51) [d0b]) v7 fun c7B y6 =>
 keepX [(blk b9e)] v7 y6 (qP Tryd.prog (fA 63 o5 4) fun b8x =>
 oP E (xCall (fC 51) [f8x]) y6 fun f8y a3z =>
 keepX [] y6 a3z (opK Tryd.prog E (sA 42 b8x c7B) a3z fun _z_28 a7b =>
 keepX [] a3z a7b (qP Tryd.prog (fA 63 o5 5) fun f8z =>
 oP E (sA 42 f8z f8y) a7b fun _z_31 E2 =>
 keepX [] a7b E2 (opK Tryd.prog E (xV (Instr.makeFunc (.func 116) #[] #[o5])) E2 fun b8n E3 =>
 xcut (fun e1m X7 => c9Y o5 b8n (nth e1m 0) X7 R E) fun j1 =>
 oP E (fA 63 o5 0) E3 fun f8A Z1 =>
 oP E (lA 3 f8A) Z1 fun f8B a1t =>
 oP E (xBin .eql 3 (.tmp 23) (.const (vI 7)) f8B (vI 7)) a1t fun d8e a1V =>
 xcond d8e
 (j1 [d8e] a1V)
 (oP E (fA 63 o5 0) a1V fun f8C a3k =>
 oP E (lA 3 f8C) a3k fun f8D a3l =>
 oP E (xBin .eql 3 (.tmp 26) (.const (vI 6)) f8D (vI 6)) a3l fun d0c a3Z =>
 oP E (gsem (asB d0c) true (xCall (gval (asB d0c) true b8n) [(vI 1)])) a3Z fun f8E a4x =>
 oP E (xPick d0c f8E (vB false)) a4x fun d8f a4y =>
 xcond d8f
 (j1 [d8f] a4y)
 (oP E (fA 63 o5 0) a4y fun f8F a5d =>
 oP E (lA 3 f8F) a5d fun f8G a4a =>
 oP E (xBin .eql 3 (.tmp 33) (.const (vI 4)) f8G (vI 4)) a4a fun d0d a6V =>
 oP E (gsem (asB d0d) true (xCall (gval (asB d0d) true b8n) [(vI 2)])) a6V fun f8H a7l =>
 oP E (xPick d0d f8H (vB false)) a7l fun f8I a1W =>
 j1 [f8I] a1W))))))))))
noncomputable def c86 : Code := Tryd.f86.body.getD .skip
def h86 : Hint := (sQ (.seq (.reg [(0, 16, 2), (1, 32, 16), (2, 64, 32), (0, 128, 2), (8, 256, 128), (20, 512, 256), (31, 1024, 2), (127, 0, 1088), (255, 2048, 2), (511, 0, 2560)] [18, 16, 16, 18, 2, 0, 18, 0, 18, 0] (.early 0 (.early 3 (.load 1 (.load 4 (.step 2 (.early 6 (.step 5 (.step 7 (.early 8 (.step 9 .done))))))))))) (.seq (.reg [(0, 4096, 2), (1, 8192, 4096), (2, 16384, 8192), (0, 32768, 2), (8, 65536, 32768), (20, 131072, 65536), (31, 262144, 2), (127, 0, 278528), (255, 524288, 2), (511, 0, 655360)] [18, 16, 16, 18, 2, 0, 18, 0, 18, 0] (.early 0 (.early 3 (.load 1 (.load 4 (.step 2 (.early 6 (.step 5 (.step 7 (.early 8 (.step 9 .done))))))))))) (sQ (.seq (.block (.cut [21] (sQ (.cond .none (sQ (.cond .none .none)))) (.cond (sQ .none) (sQ (.cond (sQ .none) (sQ (.cond (sQ .none) .none))))))) (sQ .none))))))
theorem f8J (x0 : Value) (w : World) (R : RT) (E : Pan) : F86 x0 w R E = callX Tryd.prog [.tmp 2] c86 h86 [x0] w R E := by kernel_rfl
theorem f8K {x0 : Value} (h : F86 x0 w R E) : Cv Tryd.prog 86 #[x0] w R E := by
 refine f8 (args := [x0]) (c := c86) (h := h86) (rs := [.tmp 2]) Tryd.func86 (by kernel_rfl) (by kernel_rfl) (nB (by kernel_rfl)) (by kernel_rfl) (by kernel_rfl) (by kernel_rfl) ?_
 rw [← f8J]
 exact h
def d4o (x0 x1 : Value) (w : World) (R : RT) (E : Pan) : Prop :=
 oP E (fA 63 x1 3) w fun c0Y w_2 =>
 oP E (lA 25 c0Y) w_2 fun a9d w_4 =>
 oP E (xBuiltin .len #[25] 3 [false] [a9d]) w_4 fun a5H w_6 =>
 oP E (xBin .gtr 3 (.tmp 6) (.const (vI 0)) a5H (vI 0)) w_6 fun a5c w_8 =>
 oP E (gsem (asB a5c) true (fA 63 x1 3)) w_8 fun a9e o7 =>
 oP E (gsem (asB a5c) true (lA 25 a9e)) o7 fun a8m o4 =>
 oP E (gsem (asB a5c) true (iA 25 a8m (vI 0))) o4 fun a9f o8 =>
 oP E (gsem (asB a5c) true (fA 27 a9f 0)) o8 fun b1W s6 =>
 oP E (gsem (asB a5c) true (lA 3 b1W)) s6 fun a5K v7 =>
 oP E (gsem (asB a5c) true (xBin .eql 3 (.tmp 13) (.tmp 14) a5K (gval (asB a5c) true x0))) v7 fun a5N u1 =>
 oP E (xPick a5c a5N (vB false)) u1 fun a7o v8 =>
 R a7o v8
noncomputable def f8L : Code := Tryd.f116.body.getD .skip
def f8M : Hint := (sQ (sQ .none))
theorem e7C (x0 x1 : Value) (w : World) (R : RT) (E : Pan) : d4o x0 x1 w R E = callX Tryd.prog [.tmp 3] f8L f8M [x0, x1] w R E := by kernel_rfl
theorem e7D {x0 x1 : Value} (h : d4o x0 x1 w R E) : Cv Tryd.prog 116 #[x0, x1] w R E := by
 refine f8 (args := [x0, x1]) (c := f8L) (h := f8M) (rs := [.tmp 3]) Tryd.func116 (by kernel_rfl) (by kernel_rfl) (nB (by kernel_rfl)) (by kernel_rfl) (by kernel_rfl) (by kernel_rfl) ?_
 rw [← e7C]
 exact h
end Go.Proofs.YtnhkdkcgdcgmdaaDoor
