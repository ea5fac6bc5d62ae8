/- The second reading of some of the program's functions, printed by gen2.py off the code; each is held against the code by the kernel. -/
import Derived.Test.YtnhkdkcgdcgmdaaDoorProg
import Derived.Test.YtnhkdkcgdcgmdaaDoorzZK0
import Derived.KernelRfl
import Derived.Test.YtnhkdkcgdcgmdaaDoorzZGz
namespace Go.Proofs.YtnhkdkcgdcgmdaaDoor
open Go.RowKit
set_option maxRecDepth 100000
variable {w : World} {R : RT} {E : Pan}
def F52 (x0 : Value) (w : World) (R : RT) (E : Pan) : Prop :=
 oP E (xV (Instr.box 44 x0)) w fun v7 w_2 =>
 dX w_2 fun w_3 =>
 qP Tryd.prog (fA 44 v7 0) fun b9C =>
 qP Tryd.prog (fA 44 v7 1) fun a3B =>
 qL Tryd.prog w_3 (blk b9C) (lA 41 b9C) fun g3V =>
 qL Tryd.prog w_3 (blk a3B) (lA 42 a3B) fun b0t =>
 oP E (xCall (fC 88) [g3V, (fC 89)]) w_3 fun d4n w_9 =>
 keepX [(blk a3B)] w_3 w_9 (opK Tryd.prog E (xCall (fC 90) [b0t, (fC 91)]) w_9 fun g0s a1i =>
 keepX [] w_9 a1i (opK Tryd.prog E (xV (Instr.buildSlice 174 2 #[(0, d4n), (1, g0s)])) a1i fun g0t a0I =>
 keepX [] a1i a0I (opK Tryd.prog E (xCall (fC 87) [g0t]) a0I fun e6E b6v =>
 keepX [] a0I b6v (opK Tryd.prog E (xCall (fC 60) [e6E]) b6v fun b3w a2H =>
 keepX [] b6v a2H (R b3w a2H)))))
noncomputable def c52 : Code := Tryd.f52.body.getD .skip
def h52 : Hint := (sQ (.seq (.reg [(0, 8, 2), (1, 16, 8), (2, 32, 16), (0, 64, 2), (8, 128, 64), (20, 256, 128), (36, 512, 288), (96, 1024, 512), (128, 2048, 1024), (511, 4, 2048)] [18, 16, 16, 18, 2, 0, 0, 0, 0, 18] (.early 0 (.early 3 (.load 1 (.load 4 (.step 2 (.step 5 (.step 6 (.step 7 (.step 8 (.early 9 .done))))))))))) .none))
theorem e6F (x0 : Value) (w : World) (R : RT) (E : Pan) : F52 x0 w R E = callX Tryd.prog [.tmp 2] c52 h52 [x0] w R E := by kernel_rfl
theorem e6G {x0 : Value} (h : F52 x0 w R E) : Cv Tryd.prog 52 #[x0] w R E := by
 refine i8 (args := [x0]) (c := c52) (h := h52) (rs := [.tmp 2]) Tryd.func52 (by kernel_rfl) (by kernel_rfl) (nB (by kernel_rfl)) (by kernel_rfl) (by kernel_rfl) (by kernel_rfl) ?_
 rw [← e6F]
 exact h
def F53 (x0 : Value) (w : World) (R : RT) (E : Pan) : Prop :=
 oP E (xV (Instr.box 44 x0)) w fun v7 w_2 =>
 oP E (lA 44 v7) w_2 fun a3C w_4 =>
 oP E (xCall (fC 52) [a3C]) w_4 fun a2j w_6 =>
 oP E (xNil a2j) w_6 fun a5a w_8 =>
 oP E (fA 106 a5a 2) w_8 fun b1Q o3 =>
 oP E (lA 29 b1Q) o3 fun a4k p8 =>
 R a4k p8
noncomputable def c53 : Code := Tryd.f53.body.getD .skip
def h53 : Hint := (sQ (sQ .none))
theorem e6H (x0 : Value) (w : World) (R : RT) (E : Pan) : F53 x0 w R E = callX Tryd.prog [.tmp 2] c53 h53 [x0] w R E := by kernel_rfl
theorem e6I {x0 : Value} (h : F53 x0 w R E) : Cv Tryd.prog 53 #[x0] w R E := by
 refine i8 (args := [x0]) (c := c53) (h := h53) (rs := [.tmp 2]) Tryd.func53 (by kernel_rfl) (by kernel_rfl) (nB (by kernel_rfl)) (by kernel_rfl) (by kernel_rfl) (by kernel_rfl) ?_
 rw [← e6H]
 exact h
def c2G (x3 : Value) (w : World) (R : RT) (E : Pan) : Prop :=
 ∀ _τ : Fr, (oP E (lA 102 x3) w fun e6J q8 =>
 R e6J q8)
def F60 (x0 : Value) (w : World) (R : RT) (E : Pan) : Prop :=
 oP E (xV (Instr.build 106 #[])) w fun b3x w_2 =>
 oP E (xV (Instr.box 106 b3x)) w_2 fun a8n w_4 =>
 oP E (xV (Instr.alloc 102 true (.tuple #[]))) w_4 fun b6w w_6 =>
 oP E (sA 102 b6w a8n) w_6 fun _z_7 w_8 =>
 oP E (xV (Instr.alloc 161 true (.tuple #[]))) w_8 fun d4o o3 =>
 oP E (xV (Instr.makeFunc (.func 99) #[] #[b6w, d4o])) o3 fun b7T p8 =>
 oP E (sA 161 d4o b7T) p8 fun _z_13 o9 =>
 xcut (fun _ r7 => c2G b6w r7 R E) fun j1 =>
 oP E (lA 161 d4o) o9 fun g0u r9 =>
 oP E (xCall g0u [x0, (vI 1)]) r9 fun e6K t8 =>
 oP E (xV (Op.unary .not e6K)) t8 fun c2H v6 =>
 xcond c2H
 (j1 [] v6)
 (oP E (lA 102 b6w) v6 fun e6L A9 =>
 oP E (xNil e6L) A9 fun e6M C7 =>
 oP E (fA 106 e6M 3) C7 fun b7U D8 =>
 oP E (lA 4 b7U) D8 fun e6N C3 =>
 xcond e6N
 (oP E (lA 102 b6w) C3 fun e6O D1 =>
 oP E (xNil e6O) D1 fun e6P G3 =>
 oP E (fA 106 e6P 2) G3 fun e6Q D9 =>
 oP E (sA 29 e6Q (vI 30)) D9 fun _z_39 E2 =>
 j1 [] E2)
 (oP E (lA 102 b6w) C3 fun e6R G9 =>
 oP E (xNil e6R) G9 fun b3y G4 =>
 oP E (fA 106 b3y 4) G4 fun e6S K5 =>
 oP E (lA 4 e6S) K5 fun e6T L3 =>
 xcond e6T
 (oP E (lA 102 b6w) L3 fun e6U J9 =>
 oP E (xNil e6U) J9 fun e6V E6 =>
 oP E (fA 106 e6V 2) E6 fun e6W N1 =>
 oP E (sA 29 e6W (vI 31)) N1 fun _z_55 N2 =>
 j1 [] N2)
 (j1 [] L3)))
noncomputable def c60 : Code := Tryd.f60.body.getD .skip
def h60 : Hint := (sQ (sQ (sQ (sQ (.cut [] (sQ (.block (sQ (.cond .none (sQ (.cond .none (sQ (.cond .none .none)))))))) (sQ .none))))))
theorem e6X (x0 : Value) (w : World) (R : RT) (E : Pan) : F60 x0 w R E = callX Tryd.prog [.tmp 2] c60 h60 [x0] w R E := by kernel_rfl
theorem e6Y {x0 : Value} (h : F60 x0 w R E) : Cv Tryd.prog 60 #[x0] w R E := by
 refine i8 (args := [x0]) (c := c60) (h := h60) (rs := [.tmp 2]) Tryd.func60 (by kernel_rfl) (by kernel_rfl) (nB (by kernel_rfl)) (by kernel_rfl) (by kernel_rfl) (by kernel_rfl) ?_
 rw [← e6X]
 exact h
def c2I (x6 : Value) (w : World) (R : RT) (_E : Pan) : Prop :=
 ∀ _τ : Fr, (R x6 w)
def d1r (x6 x25 x26 x27 : Value) (w : World) (next3 : NT) (j2 : NT) (_R : RT) (E : Pan) : Prop :=
 oP E (xBin .lss 3 (.tmp 27) (.tmp 26) x27 x26) w fun g0v w_8 =>
 xcond g0v
 (oP E (iA 174 x25 x27) w_8 fun g0w o3 =>
 oP E (lA 124 g0w) o3 fun e6Z p8 =>
 oP E (xBuiltin .append #[124, 124] 124 [false, false] [x6, e6Z]) p8 fun b7V o9 =>
 oP E (xBin .add 3 (.tmp 27) (.const (vI 1)) x27 (vI 1)) o9 fun e7a q8 =>
 next3 [b7V, e7a] q8)
 (j2 [x6] w_8)
def c2J (x0 x3 : Value) (w : World) (R : RT) (E : Pan) : Prop :=
 ∀ _τ : Fr, (oP E (xCall (fC 117) [(nS), x3]) w fun g0x w_2 =>
 xcut (fun l_3 w_4 => c2I (nth l_3 0) w_4 R E) fun j2 =>
 oP E (xBuiltin .len #[174] 3 [false] [x0]) w_2 fun g0y w_6 =>
 xloop [6, 27] [g0x, (vI 0)] w_6 fun τ_17 r7 next3 =>
 d1r (τ_17 6) x0 g0y (τ_17 27) r7 next3 j2 R E)
def c2K (_x0 x3 _x9 _x10 x11 : Value) (w : World) (next4 : NT) (_R : RT) (E : Pan) : Prop :=
 ∀ _τ : Fr, (oP E (xBin .add 3 (.tmp 11) (.const (vI 1)) x11 (vI 1)) w fun b3z A9 =>
 next4 [x3, b3z] A9)
def d1s (x0 x3 x9 x10 x11 : Value) (w : World) (next4 : NT) (j1 : NT) (R : RT) (E : Pan) : Prop :=
 oP E (xBin .lss 3 (.tmp 11) (.tmp 10) x11 x10) w fun e7b v6 =>
 xcond e7b
 (xcut (fun d4p C7 => c2K x0 (nth d4p 0) x9 x10 x11 C7 next4 R E) fun j5 =>
 oP E (iA 174 x9 x11) v6 fun e7c D8 =>
 oP E (lA 124 e7c) D8 fun e7d C3 =>
 oP E (xBuiltin .len #[124] 3 [false] [e7d]) C3 fun c2L D1 =>
 oP E (xBin .add 3 (.tmp 15) (.tmp 17) x3 c2L) D1 fun b3A G3 =>
 oP E (xBin .lss 3 (.tmp 19) (.const (vI 0)) b3A (vI 0)) G3 fun c2M D9 =>
 xcond c2M
 (oP E (xV (Instr.makeInterface 9 (Value.string ⟨#[108, 101, 110, 32, 111, 117, 116, 32, 111, 102, 32, 114, 97, 110, 103, 101]⟩))) D9 fun b7W E2 =>
 oP E (xV (Instr.panic b7W)) E2 fun _z_41 G9 =>
 j5 [b3A] G9)
 (j5 [b3A] D9))
 (j1 [x3] v6)
def F87 (x0 : Value) (w : World) (R : RT) (E : Pan) : Prop :=
 xcut (fun a3D r9 => c2J x0 (nth a3D 0) r9 R E) fun j1 =>
 oP E (xBuiltin .len #[174] 3 [false] [x0]) w fun e7e t8 =>
 xloop [3, 11] [(vI 0), (vI 0)] t8 fun τ_43 G4 next4 =>
 d1s x0 (τ_43 3) x0 e7e (τ_43 11) G4 next4 j1 R E
noncomputable def c87 : Code := Tryd.f87.body.getD .skip
def h87 : Hint := (sQ (sQ (.cut [3] (sQ (.block (.loop [3, 11] (sQ (.seq (.cond .none .none) (.cut [3] (.block (sQ (sQ (sQ (.cond .none .none))))) .none)))))) (sQ (.cut [6] (sQ (.block (.loop [6, 27] (sQ (.seq (.cond .none .none) (.seq (.block (sQ .none)) .none)))))) (sQ .none))))))
theorem e7f (x0 : Value) (w : World) (R : RT) (E : Pan) : F87 x0 w R E = callX Tryd.prog [.tmp 2] c87 h87 [x0] w R E := by kernel_rfl
theorem e7g {x0 : Value} (h : F87 x0 w R E) : Cv Tryd.prog 87 #[x0] w R E := by
 refine i8 (args := [x0]) (c := c87) (h := h87) (rs := [.tmp 2]) Tryd.func87 (by kernel_rfl) (by kernel_rfl) (nB (by kernel_rfl)) (by kernel_rfl) (by kernel_rfl) (by kernel_rfl) ?_
 rw [← e7f]
 exact h
def c2N (x5 : Value) (w : World) (R : RT) (_E : Pan) : Prop :=
 ∀ _τ : Fr, (R x5 w)
def d1t (x1 x5 x8 x9 x10 : Value) (w : World) (next2 : NT) (j1 : NT) (_R : RT) (E : Pan) : Prop :=
 oP E (xBin .lss 3 (.tmp 10) (.tmp 9) x10 x9) w fun a5K w_6 =>
 xcond a5K
 (oP E (iA 41 x8 x10) w_6 fun a7H w_8 =>
 oP E (lA 58 a7H) w_8 fun a7I o3 =>
 oP E (xV (Instr.alloc 58 true (.tuple #[]))) o3 fun a4k p8 =>
 oP E (sA 58 a4k a7I) p8 fun _z_13 o9 =>
 oP E (lA 58 a4k) o9 fun a8o q8 =>
 oP E (xCall x1 [a8o]) q8 fun a5L r7 =>
 oP E (xV (Instr.buildSlice 124 1 #[(0, a5L)])) r7 fun a8p r9 =>
 oP E (xBuiltin .append #[124, 124] 124 [false, false] [x5, a8p]) r9 fun a5M t8 =>
 oP E (xBin .add 3 (.tmp 10) (.const (vI 1)) x10 (vI 1)) t8 fun a5N v6 =>
 next2 [a5M, a5N] v6)
 (j1 [x5] w_6)
def F88 (x0 x1 : Value) (w : World) (R : RT) (E : Pan) : Prop :=
 xcut (fun l_1 w_2 => c2N (nth l_1 0) w_2 R E) fun j1 =>
 oP E (xBuiltin .len #[41] 3 [false] [x0]) w fun a2T w_4 =>
 xloop [5, 10] [(nS), (vI 0)] w_4 fun τ_25 A9 next2 =>
 d1t x1 (τ_25 5) x0 a2T (τ_25 10) A9 next2 j1 R E
noncomputable def c88 : Code := Tryd.f88.body.getD .skip
def h88 : Hint := (sQ (sQ (.cut [5] (sQ (.block (.loop [5, 10] (sQ (.seq (.cond .none .none) (.seq (.block (sQ .none)) .none)))))) (sQ .none))))
theorem e7h (x0 x1 : Value) (w : World) (R : RT) (E : Pan) : F88 x0 x1 w R E = callX Tryd.prog [.tmp 4] c88 h88 [x0, x1] w R E := by kernel_rfl
theorem e7i {x0 x1 : Value} (h : F88 x0 x1 w R E) : Cv Tryd.prog 88 #[x0, x1] w R E := by
 refine i8 (args := [x0, x1]) (c := c88) (h := h88) (rs := [.tmp 4]) Tryd.func88 (by kernel_rfl) (by kernel_rfl) (nB (by kernel_rfl)) (by kernel_rfl) (by kernel_rfl) (by kernel_rfl) ?_
 rw [← e7h]
 exact h
def F89 (x0 : Value) (w : World) (R : RT) (E : Pan) : Prop :=
 oP E (xV (Instr.box 58 x0)) w fun v7 w_2 =>
 oP E (lA 58 v7) w_2 fun a3C w_4 =>
 oP E (xV (Instr.build 177 #[(0, a3C)])) w_4 fun a2j w_6 =>
 oP E (xV (Instr.makeInterface 177 a2j)) w_6 fun a5a w_8 =>
 R a5a w_8
noncomputable def c89 : Code := Tryd.f89.body.getD .skip
def h89 : Hint := (sQ (sQ .none))
theorem e7j (x0 : Value) (w : World) (R : RT) (E : Pan) : F89 x0 w R E = callX Tryd.prog [.tmp 2] c89 h89 [x0] w R E := by kernel_rfl
theorem e7k {x0 : Value} (h : F89 x0 w R E) : Cv Tryd.prog 89 #[x0] w R E := by
 refine i8 (args := [x0]) (c := c89) (h := h89) (rs := [.tmp 2]) Tryd.func89 (by kernel_rfl) (by kernel_rfl) (nB (by kernel_rfl)) (by kernel_rfl) (by kernel_rfl) (by kernel_rfl) ?_
 rw [← e7j]
 exact h
def c2O (x5 : Value) (w : World) (R : RT) (_E : Pan) : Prop :=
 ∀ _τ : Fr, (R x5 w)
def d1u (x1 x5 x8 x9 x10 : Value) (w : World) (next2 : NT) (j1 : NT) (_R : RT) (E : Pan) : Prop :=
 oP E (xBin .lss 3 (.tmp 10) (.tmp 9) x10 x9) w fun a5K w_6 =>
 xcond a5K
 (oP E (iA 42 x8 x10) w_6 fun a7H w_8 =>
 oP E (lA 63 a7H) w_8 fun a7I o3 =>
 oP E (xV (Instr.alloc 63 true (.tuple #[]))) o3 fun a4k p8 =>
 oP E (sA 63 a4k a7I) p8 fun _z_13 o9 =>
 oP E (lA 63 a4k) o9 fun a8o q8 =>
 oP E (xCall x1 [a8o]) q8 fun a5L r7 =>
 oP E (xV (Instr.buildSlice 124 1 #[(0, a5L)])) r7 fun a8p r9 =>
 oP E (xBuiltin .append #[124, 124] 124 [false, false] [x5, a8p]) r9 fun a5M t8 =>
 oP E (xBin .add 3 (.tmp 10) (.const (vI 1)) x10 (vI 1)) t8 fun a5N v6 =>
 next2 [a5M, a5N] v6)
 (j1 [x5] w_6)
def F90 (x0 x1 : Value) (w : World) (R : RT) (E : Pan) : Prop :=
 xcut (fun l_1 w_2 => c2O (nth l_1 0) w_2 R E) fun j1 =>
 oP E (xBuiltin .len #[42] 3 [false] [x0]) w fun a2T w_4 =>
 xloop [5, 10] [(nS), (vI 0)] w_4 fun τ_25 A9 next2 =>
 d1u x1 (τ_25 5) x0 a2T (τ_25 10) A9 next2 j1 R E
noncomputable def c90 : Code := Tryd.f90.body.getD .skip
def h90 : Hint := (sQ (sQ (.cut [5] (sQ (.block (.loop [5, 10] (sQ (.seq (.cond .none .none) (.seq (.block (sQ .none)) .none)))))) (sQ .none))))
theorem e7l (x0 x1 : Value) (w : World) (R : RT) (E : Pan) : F90 x0 x1 w R E = callX Tryd.prog [.tmp 4] c90 h90 [x0, x1] w R E := by kernel_rfl
theorem e7m {x0 x1 : Value} (h : F90 x0 x1 w R E) : Cv Tryd.prog 90 #[x0, x1] w R E := by
 refine i8 (args := [x0, x1]) (c := c90) (h := h90) (rs := [.tmp 4]) Tryd.func90 (by kernel_rfl) (by kernel_rfl) (nB (by kernel_rfl)) (by kernel_rfl) (by kernel_rfl) (by kernel_rfl) ?_
 rw [← e7l]
 exact h
def F91 (x0 : Value) (w : World) (R : RT) (E : Pan) : Prop :=
 oP E (xV (Instr.box 63 x0)) w fun v7 w_2 =>
 oP E (lA 63 v7) w_2 fun a3C w_4 =>
 oP E (xV (Instr.build 179 #[(0, a3C)])) w_4 fun a2j w_6 =>
 oP E (xV (Instr.makeInterface 179 a2j)) w_6 fun a5a w_8 =>
 R a5a w_8
noncomputable def c91 : Code := Tryd.f91.body.getD .skip
def h91 : Hint := (sQ (sQ .none))
theorem e7n (x0 : Value) (w : World) (R : RT) (E : Pan) : F91 x0 w R E = callX Tryd.prog [.tmp 2] c91 h91 [x0] w R E := by kernel_rfl
theorem e7o {x0 : Value} (h : F91 x0 w R E) : Cv Tryd.prog 91 #[x0] w R E := by
 refine i8 (args := [x0]) (c := c91) (h := h91) (rs := [.tmp 2]) Tryd.func91 (by kernel_rfl) (by kernel_rfl) (nB (by kernel_rfl)) (by kernel_rfl) (by kernel_rfl) (by kernel_rfl) ?_
 rw [← e7n]
 exact h
def c2P (w : World) (R : RT) (_E : Pan) : Prop :=
 ∀ _τ : Fr, (R (vB true) w)
def d1v (x1 x2 x3 x9 x10 x11 : Value) (w : World) (next2 : NT) (j1 : NT) (R : RT) (E : Pan) : Prop :=
 oP E (xBin .lss 3 (.tmp 11) (.tmp 10) x11 x10) w fun a5O w_6 =>
 xcond a5O
 (oP E (iA 124 x9 x11) w_6 fun a5P w_8 =>
 oP E (lA 152 a5P) w_8 fun a4l o3 =>
 dX o3 fun a1i =>
 qL Tryd.prog a1i (blk x2) (lA 102 x2) fun e7p =>
 oP E (xCall (fC 100) [e7p, a4l, x1]) a1i fun a8q o9 =>
 keepX [] a1i o9 (qP Tryd.prog (xV (Op.unary .not a8q)) fun a3x =>
 qP Tryd.prog (gsem (asB a3x) false (xBin .add 3 (.tmp 24) (.const (vI 1)) (gval (asB a3x) false x1) (vI 1))) fun e7q =>
 qL Tryd.prog o9 (blk x3) (gsem (asB a3x) false (lA 161 x3)) fun b0V =>
 oP E (gsem (asB a3x) false (xInvoke (gval (asB a3x) false a4l) "gnomon/tree.parts" [])) o9 fun e7r a2U =>
 keepX [(blk x3)] o9 a2U (opK Tryd.prog E (gsem (asB a3x) false (xCall b0V [e7r, e7q])) a2U fun e7s a2k =>
 keepX [] a2U a2k (qP Tryd.prog (gsem (asB a3x) false (xV (Op.unary .not e7s))) fun e7t =>
 qP Tryd.prog (xPick a3x (vB true) e7t) fun c2Q =>
 xcond c2Q
 (R (vB false) a2k)
 (oP E (xBin .add 3 (.tmp 11) (.const (vI 1)) x11 (vI 1)) a2k fun e7u b1R =>
 next2 [e7u] b1R)))))
 (j1 [] w_6)
def F99 (x0 x1 x2 x3 : Value) (w : World) (R : RT) (E : Pan) : Prop :=
 xcut (fun _ w_2 => c2P w_2 R E) fun j1 =>
 oP E (xBuiltin .len #[124] 3 [false] [x0]) w fun b1S w_4 =>
 xloop [11] [(vI 0)] w_4 fun τ_26 a3N next2 =>
 d1v x1 x2 x3 x0 b1S (τ_26 11) a3N next2 j1 R E
noncomputable def c99 : Code := Tryd.f99.body.getD .skip
def h99 : Hint := (sQ (.cut [] (sQ (.block (.loop [11] (sQ (.seq (.cond .none .none) (.seq (.block (sQ (.seq (.reg [(0, 32768, 4), (0, 65536, 256), (0, 131072, 2), (7, 262144, 229376), (8, 524288, 262144), (24, 1048576, 524288), (32, 2097152, 1048584), (32, 4194304, 1048832), (160, 8388608, 5242880), (32, 16777216, 1048578), (544, 33554432, 17825792), (1376, 67108864, 45088768), (2080, 134217728, 68157440), (4128, 268435456, 135266304)] [64, 65, 65, 0, 65, 65, 1, 65, 64, 65, 65, 0, 65, 65] (.early 1 (.early 2 (.load 0 (.step 3 (.early 4 (.early 5 (.early 7 (.early 9 (.early 10 (.load 6 (.step 8 (.step 11 (.early 12 (.early 13 .done))))))))))))))) (.cond (sQ .none) .none)))) .none)))))) (sQ .none)))
theorem e7v (x0 x1 x2 x3 : Value) (w : World) (R : RT) (E : Pan) : F99 x0 x1 x2 x3 w R E = callX Tryd.prog [.tmp 6] c99 h99 [x0, x1, x2, x3] w R E := by kernel_rfl
theorem e7w {x0 x1 x2 x3 : Value} (h : F99 x0 x1 x2 x3 w R E) : Cv Tryd.prog 99 #[x0, x1, x2, x3] w R E := by
 refine i8 (args := [x0, x1, x2, x3]) (c := c99) (h := h99) (rs := [.tmp 6]) Tryd.func99 (by kernel_rfl) (by kernel_rfl) (nB (by kernel_rfl)) (by kernel_rfl) (by kernel_rfl) (by kernel_rfl) ?_
 rw [← e7v]
 exact h
def b9D (w : World) (R : RT) (_E : Pan) : Prop :=
 ∀ _τ : Fr, (R (vB true) w)
def c7W (x0 x1 x2 : Value) (w : World) (R : RT) (E : Pan) : Prop :=
 oP E (xNil x0) w fun b5d w_2 =>
 oP E (fA 106 b5d 0) w_2 fun a1j w_4 =>
 oP E (lA 3 a1j) w_4 fun a5O w_6 =>
 oP E (xBin .add 3 (.tmp 12) (.const (vI 1)) a5O (vI 1)) w_6 fun a5P w_8 =>
 oP E (xNil x0) w_8 fun a4l o3 =>
 oP E (fA 106 a4l 0) o3 fun a5Q p8 =>
 oP E (sA 3 a5Q a5P) p8 fun _z_13 o9 =>
 oP E (xNil x0) o9 fun a2I q8 =>
 oP E (fA 106 a2I 0) q8 fun b3B r7 =>
 oP E (lA 3 b3B) r7 fun c2R r9 =>
 oP E (xBin .gtr 3 (.tmp 19) (.const (vI 4096)) c2R (vI 4096)) r9 fun c2S t8 =>
 xcond c2S
 (oP E (xNil x0) t8 fun b7X v6 =>
 oP E (fA 106 b7X 2) v6 fun c2T A9 =>
 oP E (sA 29 c2T (vI 33)) A9 fun _z_27 C7 =>
 R (vB false) C7)
 (oP E (xBin .gtr 3 (.tmp 24) (.const (vI 64)) x2 (vI 64)) t8 fun e7x D8 =>
 xcond e7x
 (oP E (xNil x0) D8 fun e7y C3 =>
 oP E (fA 106 e7y 2) C3 fun c2U D1 =>
 oP E (sA 29 c2U (vI 32)) D1 fun _z_35 G3 =>
 R (vB false) G3)
 (oP E (xNil x0) D8 fun e7z D9 =>
 oP E (fA 106 e7z 1) D9 fun e7A E2 =>
 oP E (lA 3 e7A) E2 fun e7B G9 =>
 oP E (xBuiltin .max #[3, 3] 3 [false, false] [e7B, x2]) G9 fun e7C G4 =>
 oP E (xNil x0) G4 fun e7D K5 =>
 oP E (fA 106 e7D 1) K5 fun c2V L3 =>
 oP E (sA 3 c2V e7C) L3 fun _z_49 J9 =>
 oP E (xNil x0) J9 fun c2W E6 =>
 oP E (fA 106 c2W 3) E6 fun e7E N1 =>
 oP E (lA 4 e7E) N1 fun b7Y N2 =>
 oP E (gsem (asB b7Y) false (xInvoke (gval (asB b7Y) false x1) "gnomon/tree.form" [])) N2 fun e7F L6 =>
 oP E (gsem (asB b7Y) false (xV (Op.unary .not e7F))) L6 fun e7G P2 =>
 oP E (xPick b7Y (vB true) e7G) P2 fun e7H L8 =>
 oP E (xNil x0) L8 fun e7I N9 =>
 oP E (fA 106 e7I 3) N9 fun e7J P3 =>
 oP E (sA 4 e7J e7H) P3 fun _z_67 O0 =>
 xcut (fun _ M9 => b9D M9 R E) fun j1 =>
 oP E (xCall (fC 118) [x1]) O0 fun d1w O1 =>
 oP E (eX d1w 0) O1 fun b3C R5 =>
 oP E (eX d1w 1) R5 fun c2X T1 =>
 xcond c2X
 (oP E (xNil x0) T1 fun e7K N3 =>
 oP E (fA 106 e7K 4) N3 fun e7L T7 =>
 oP E (lA 4 e7L) T7 fun a8r P4 =>
 oP E (gsem (asB a8r) false (xCall (fC 119) [(gval (asB a8r) false b3C)])) P4 fun e7M Q2 =>
 oP E (gsem (asB a8r) false (xV (Op.unary .not e7M))) Q2 fun e7N T8 =>
 oP E (xPick a8r (vB true) e7N) T8 fun e7O N4 =>
 oP E (xNil x0) N4 fun e7P a0d =>
 oP E (fA 106 e7P 4) a0d fun e7Q a0J =>
 oP E (sA 4 e7Q e7O) a0J fun _z_93 a1k =>
 oP E (xNil x0) a1k fun c2Y a0K =>
 oP E (fA 106 c2Y 5) a0K fun b3D a0L =>
 oP E (lA 104 b3D) a0L fun c2Z U9 =>
 oP E (xCall (fC 120) [c2Z, b3C]) U9 fun b9E M6 =>
 oP E (xV (Op.unary .not b9E)) M6 fun b9F P8 =>
 xcond b9F
 (oP E (xNil x0) P8 fun e0o W2 =>
 oP E (fA 106 e0o 5) W2 fun e0p a1l =>
 oP E (lA 104 e0p) a1l fun e0q a3K =>
 oP E (xV (Instr.buildSlice 104 1 #[(0, b3C)])) a3K fun e0r a0O =>
 oP E (xBuiltin .append #[104, 104] 104 [false, false] [e0q, e0r]) a0O fun e0s T2 =>
 oP E (xNil x0) T2 fun e0t W3 =>
 oP E (fA 106 e0t 5) W3 fun e0u a2b =>
 oP E (sA 104 e0u e0s) a2b fun _z_119 S0 =>
 j1 [] S0)
 (j1 [] P8))
 (j1 [] T1)))
noncomputable def e7R : Code := Tryd.f100.body.getD .skip
def e7S : Hint := (sQ (.seq (sQ (sQ (.cond (sQ (sQ .none)) .none))) (.seq (sQ (.cond (sQ (sQ .none)) .none)) (sQ (sQ (.cut [] (sQ (sQ (.cond (sQ (sQ (.cond .none .none))) .none))) (sQ .none)))))))
theorem e0v (x0 x1 x2 : Value) (w : World) (R : RT) (E : Pan) : c7W x0 x1 x2 w R E = callX Tryd.prog [.tmp 6] e7R e7S [x0, x1, x2] w R E := by kernel_rfl
theorem e0w {x0 x1 x2 : Value} (h : c7W x0 x1 x2 w R E) : Cv Tryd.prog 100 #[x0, x1, x2] w R E := by
 refine i8 (args := [x0, x1, x2]) (c := e7R) (h := e7S) (rs := [.tmp 6]) Tryd.func100 (by kernel_rfl) (by kernel_rfl) (nB (by kernel_rfl)) (by kernel_rfl) (by kernel_rfl) (by kernel_rfl) ?_
 rw [← e0v]
 exact h
def b9G (x0 : Value) (w : World) (R : RT) (_E : Pan) : Prop :=
 ∀ _τ : Fr, (R x0 w)
def c6T (x0 x1 : Value) (w : World) (R : RT) (E : Pan) : Prop :=
 ∀ _τ : Fr, (xcut (fun l_1 w_2 => b9G (nth l_1 0) w_2 R E) fun j2 =>
 oP E (xBuiltin .cap #[124] 3 [false] [x0]) w fun b1S w_4 =>
 oP E (xBuiltin .len #[124] 3 [false] [x0]) w_4 fun a5O w_6 =>
 oP E (xBin .sub 3 (.tmp 10) (.tmp 12) b1S a5O) w_6 fun a5P w_8 =>
 oP E (xBin .sub 3 (.tmp 8) (.tmp 13) x1 a5P) w_8 fun a4l o3 =>
 oP E (xBin .gtr 3 (.tmp 15) (.const (vI 0)) a4l (vI 0)) o3 fun a5R p8 =>
 xcond a5R
 (oP E (xBuiltin .cap #[124] 3 [false] [x0]) p8 fun a8s o9 =>
 oP E (xV (Instr.sliceAt 124 x0 none (some a8s) none)) o9 fun c3a q8 =>
 oP E (xBuiltin .append #[124, 3] 124 [false, false] [c3a, a4l]) q8 fun c3b r7 =>
 oP E (xBuiltin .len #[124] 3 [false] [x0]) r7 fun c3c r9 =>
 oP E (xV (Instr.sliceAt 124 c3b none (some c3c) none)) r9 fun b3E t8 =>
 j2 [b3E] t8)
 (j2 [x0] p8))
def d4q (x0 x1 : Value) (w : World) (R : RT) (E : Pan) : Prop :=
 xcut (fun _ v6 => c6T x0 x1 v6 R E) fun j1 =>
 oP E (xBin .lss 3 (.tmp 5) (.const (vI 0)) x1 (vI 0)) w fun g0z A9 =>
 xcond g0z
 (oP E (xV (Instr.makeInterface 9 (Value.string ⟨#[99, 97, 110, 110, 111, 116, 32, 98, 101, 32, 110, 101, 103, 97, 116, 105, 118, 101]⟩))) A9 fun g0A C7 =>
 oP E (xV (Instr.panic g0A)) C7 fun _z_29 D8 =>
 j1 [] D8)
 (j1 [] A9)
noncomputable def e7T : Code := Tryd.f117.body.getD .skip
def e7U : Hint := (sQ (.cut [] (sQ (.cond .none .none)) (.cut [0] (sQ (sQ (.cond .none .none))) (sQ .none))))
theorem e0x (x0 x1 : Value) (w : World) (R : RT) (E : Pan) : d4q x0 x1 w R E = callX Tryd.prog [.tmp 4] e7T e7U [x0, x1] w R E := by kernel_rfl
theorem e0y {x0 x1 : Value} (h : d4q x0 x1 w R E) : Cv Tryd.prog 117 #[x0, x1] w R E := by
 refine i8 (args := [x0, x1]) (c := e7T) (h := e7U) (rs := [.tmp 4]) Tryd.func117 (by kernel_rfl) (by kernel_rfl) (nB (by kernel_rfl)) (by kernel_rfl) (by kernel_rfl) (by kernel_rfl) ?_
 rw [← e0x]
 exact h
def c7X (x0 : Value) (w : World) (R : RT) (E : Pan) : Prop :=
 oP E (xV (Instr.typeAssert x0 152 177 true)) w fun b0u w_2 =>
 oP E (eX b0u 1) w_2 fun a2T w_4 =>
 oP E (eX b0u 0) w_4 fun a1H w_6 =>
 xcond a2T
 (oP E (xV (Instr.alloc 177 true (.tuple #[]))) w_6 fun e7V w_8 =>
 oP E (sA 177 e7V a1H) w_8 fun _z_9 o3 =>
 oP E (fA 177 e7V 0) o3 fun a6W p8 =>
 oP E (fA 58 a6W 0) p8 fun a6X o9 =>
 oP E (lA 9 a6X) o9 fun a8t q8 =>
 R (Value.tuple #[a8t, (vB true)]) q8)
 (oP E (xV (Instr.typeAssert x0 152 179 true)) w_6 fun b7Z r7 =>
 oP E (eX b7Z 1) r7 fun a8u r9 =>
 oP E (eX b7Z 0) r9 fun b3F t8 =>
 xcond a8u
 (oP E (xV (Instr.alloc 179 true (.tuple #[]))) t8 fun c1H v6 =>
 oP E (sA 179 c1H b3F) v6 fun _z_25 A9 =>
 dX A9 fun a3N =>
 qP Tryd.prog (fA 179 c1H 0) fun e7W =>
 qP Tryd.prog (fA 63 e7W 1) fun b7U =>
 qP Tryd.prog (fA 179 c1H 0) fun e7X =>
 qP Tryd.prog (fA 63 e7X 0) fun b8a =>
 qL Tryd.prog a3N (blk b7U) (lA 9 b7U) fun e7Y =>
 qL Tryd.prog a3N (blk b8a) (lA 3 b8a) fun c3d =>
 qP Tryd.prog (xBin .eql 3 (.tmp 22) (.const (vI 1)) c3d (vI 1)) fun b3G =>
 qP Tryd.prog (gsem (asB b3G) false (fA 179 c1H 0)) fun e7Z =>
 qP Tryd.prog (gsem (asB b3G) false (fA 63 e7Z 0)) fun d1x =>
 qL Tryd.prog a3N (blk d1x) (gsem (asB b3G) false (lA 3 d1x)) fun e8a =>
 qP Tryd.prog (gsem (asB b3G) false (xBin .eql 3 (.tmp 27) (.const (vI 2)) e8a (vI 2))) fun e8b =>
 qP Tryd.prog (xPick b3G (vB true) e8b) fun b3H =>
 R (Value.tuple #[e7Y, b3H]) a3N)
 (oP E (xV (Instr.typeAssert x0 152 123 true)) t8 fun d1y b9H =>
 oP E (eX d1y 1) b9H fun b8b b6x =>
 oP E (eX d1y 0) b6x fun e8c b0v =>
 xcond b8b
 (oP E (xV (Instr.alloc 123 true (.tuple #[]))) b0v fun c1I b3I =>
 oP E (sA 123 c1I e8c) b3I fun _z_48 b1T =>
 dX b1T fun J9 =>
 qP Tryd.prog (fA 123 c1I 0) fun e8d =>
 qP Tryd.prog (fA 24 e8d 2) fun d1z =>
 qP Tryd.prog (fA 123 c1I 0) fun c3e =>
 qP Tryd.prog (fA 24 c3e 0) fun d1A =>
 qL Tryd.prog J9 (blk d1z) (lA 9 d1z) fun e8e =>
 qL Tryd.prog J9 (blk d1A) (lA 3 d1A) fun e8f =>
 qP Tryd.prog (xBin .eql 3 (.tmp 38) (.const (vI 2)) e8f (vI 2)) fun b3J =>
 qP Tryd.prog (gsem (asB b3J) false (fA 123 c1I 0)) fun e8g =>
 qP Tryd.prog (gsem (asB b3J) false (fA 24 e8g 0)) fun d1B =>
 qL Tryd.prog J9 (blk d1B) (gsem (asB b3J) false (lA 3 d1B)) fun e8h =>
 qP Tryd.prog (gsem (asB b3J) false (xBin .eql 3 (.tmp 43) (.const (vI 4)) e8h (vI 4))) fun e8i =>
 qP Tryd.prog (xPick b3J (vB true) e8i) fun e8j =>
 R (Value.tuple #[e8e, e8j]) J9)
 (R (Value.tuple #[(eS), (vB false)]) b0v)))
noncomputable def e8k : Code := Tryd.f118.body.getD .skip
def e8l : Hint := (sQ (.seq (sQ (.block (sQ (.cond (sQ (sQ .none)) (sQ (.cond (sQ (.seq (.reg [(0, 131072, 32), (1, 262144, 131072), (2, 524288, 262144), (0, 1048576, 32), (8, 2097152, 1048576), (16, 4194304, 2097152), (32, 8388608, 4194304), (64, 16777216, 8388608), (128, 33554432, 16777248), (384, 67108864, 50331648), (640, 134217728, 83886080), (1152, 268435456, 150994944), (2176, 536870912, 285212672), (135, 4, 524288), (16383, 8, 536870912)] [1060, 1060, 1056, 1060, 1060, 1028, 1060, 1060, 1060, 1060, 36, 1060, 1060, 1060, 1060] (.early 0 (.early 1 (.early 3 (.early 4 (.load 2 (.load 5 (.early 6 (.early 7 (.early 8 (.early 9 (.early 13 (.load 10 (.early 11 (.early 12 (.early 14 .done)))))))))))))))) .none)) (sQ (.cond (sQ (.seq (.reg [(0, 8589934592, 64), (1, 17179869184, 8589934592), (2, 34359738368, 17179869184), (0, 68719476736, 64), (8, 137438953472, 68719476736), (16, 274877906944, 137438953472), (32, 549755813888, 274877906944), (64, 1099511627776, 549755813888), (128, 2199023255552, 1099511627840), (384, 4398046511104, 3298534883328), (640, 8796093022208, 5497558138880), (1152, 17592186044416, 9895604649984), (2176, 35184372088832, 18691697672192), (135, 4, 34359738368), (16383, 8, 35184372088832)] [1060, 1060, 1056, 1060, 1060, 1028, 1060, 1060, 1060, 1060, 36, 1060, 1060, 1060, 1060] (.early 0 (.early 1 (.early 3 (.early 4 (.load 2 (.load 5 (.early 6 (.early 7 (.early 8 (.early 9 (.early 13 (.load 10 (.early 11 (.early 12 (.early 14 .done)))))))))))))))) .none)) .none)))))))) (sQ .none)))
theorem e0z (x0 : Value) (w : World) (R : RT) (E : Pan) : c7X x0 w R E = callX Tryd.prog [.tmp 2, .tmp 3] e8k e8l [x0] w R E := by kernel_rfl
theorem e0A {x0 : Value} (h : c7X x0 w R E) : Cv Tryd.prog 118 #[x0] w R E := by
 refine i8 (args := [x0]) (c := e8k) (h := e8l) (rs := [.tmp 2, .tmp 3]) Tryd.func118 (by kernel_rfl) (by kernel_rfl) (nB (by kernel_rfl)) (by kernel_rfl) (by kernel_rfl) (by kernel_rfl) ?_
 rw [← e0z]
 exact h
def b9I (w : World) (R : RT) (_E : Pan) : Prop :=
 ∀ _τ : Fr, (R (vB true) w)
def c6U (x21 : Value) (w : World) (next2 : NT) (j1 : NT) (R : RT) (E : Pan) : Prop :=
 oP E (xV (Instr.next x21 true 0)) w fun c3f t8 =>
 oP E (eX c3f 0) t8 fun e8m v6 =>
 xcond e8m
 (oP E (eX c3f 1) v6 fun e8n A9 =>
 oP E (eX c3f 2) A9 fun d1C C7 =>
 oP E (xCall (fC 140) [d1C]) C7 fun e8o D8 =>
 oP E (xV (Op.unary .not e8o)) D8 fun a6Y C3 =>
 oP E (gsem (asB a6Y) false (xBin .eql 3 (.tmp 30) (.const (vI 0)) (gval (asB a6Y) false e8n) (vI 0))) C3 fun b8c D1 =>
 oP E (gsem (asB (gval (asB a6Y) false b8c)) true (xCall (fC 141) [(gval (asB (gval (asB a6Y) false b8c)) true d1C)])) D1 fun c3g G3 =>
 oP E (gsem (asB (gval (asB a6Y) false b8c)) true (xBin .neq 3 (.tmp 34) (.const (vI 3)) c3g (vI 3))) G3 fun c3h D9 =>
 oP E (gsem (asB a6Y) false (xPick (gval (asB a6Y) false b8c) c3h (vB false))) D9 fun c3i E2 =>
 oP E (xPick a6Y (vB true) c3i) E2 fun c3j G9 =>
 xcond c3j
 (R (vB false) G9)
 (next2 [] G9))
 (j1 [] v6)
def c7Y (x0 : Value) (w : World) (R : RT) (E : Pan) : Prop :=
 oP E (xBin .eql 9 (.tmp 5) (.const (eS)) x0 (eS)) w fun b3x w_2 =>
 oP E (gsem (asB b3x) false (xCall (fC 137) [(gval (asB b3x) false x0)])) w_2 fun a2T w_4 =>
 oP E (gsem (asB b3x) false (xV (Op.unary .not a2T))) w_4 fun a1H w_6 =>
 oP E (xPick b3x (vB true) a1H) w_6 fun b1U w_8 =>
 oP E (gsem (asB b1U) false (xCall (fC 138) [(gval (asB b1U) false x0)])) w_8 fun a4l o3 =>
 oP E (xPick b1U (vB true) a4l) o3 fun a5Q p8 =>
 oP E (gsem (asB a5Q) false (xCall (fC 139) [(gval (asB a5Q) false x0)])) p8 fun a8q o9 =>
 oP E (xPick a5Q (vB true) a8q) o9 fun a3x q8 =>
 xcond a3x
 (R (vB false) q8)
 (xcut (fun _ r7 => b9I r7 R E) fun j1 =>
 oP E (xV (Instr.range 9 x0)) q8 fun e8p r9 =>
 xloop [] [] r9 fun _ G4 next2 =>
 c6U e8p G4 next2 j1 R E)
noncomputable def e8q : Code := Tryd.f119.body.getD .skip
def e8r : Hint := (sQ (.seq (sQ (.cond (sQ .none) .none)) (.cut [] (sQ (.block (.loop [] (sQ (.seq (.cond .none .none) (.block (sQ (sQ (.cond (sQ .none) .none))))))))) (sQ .none))))
theorem e0B (x0 : Value) (w : World) (R : RT) (E : Pan) : c7Y x0 w R E = callX Tryd.prog [.tmp 2] e8q e8r [x0] w R E := by kernel_rfl
theorem e0C {x0 : Value} (h : c7Y x0 w R E) : Cv Tryd.prog 119 #[x0] w R E := by
 refine i8 (args := [x0]) (c := e8q) (h := e8r) (rs := [.tmp 2]) Tryd.func119 (by kernel_rfl) (by kernel_rfl) (nB (by kernel_rfl)) (by kernel_rfl) (by kernel_rfl) (by kernel_rfl) ?_
 rw [← e0B]
 exact h
def c7Z (x0 x1 : Value) (w : World) (R : RT) (E : Pan) : Prop :=
 oP E (xCall (fC 142) [x0, x1]) w fun a2V w_2 =>
 oP E (xBin .geq 3 (.tmp 7) (.const (vI 0)) a2V (vI 0)) w_2 fun b9J w_4 =>
 R b9J w_4
noncomputable def e8s : Code := Tryd.f120.body.getD .skip
def e8t : Hint := (sQ (sQ .none))
theorem e0D (x0 x1 : Value) (w : World) (R : RT) (E : Pan) : c7Z x0 x1 w R E = callX Tryd.prog [.tmp 4] e8s e8t [x0, x1] w R E := by kernel_rfl
theorem e0E {x0 x1 : Value} (h : c7Z x0 x1 w R E) : Cv Tryd.prog 120 #[x0, x1] w R E := by
 refine i8 (args := [x0, x1]) (c := e8s) (h := e8t) (rs := [.tmp 4]) Tryd.func120 (by kernel_rfl) (by kernel_rfl) (nB (by kernel_rfl)) (by kernel_rfl) (by kernel_rfl) (by kernel_rfl) ?_
 rw [← e0D]
 exact h
def c8a (x0 : Value) (w : World) (R : RT) (E : Pan) : Prop :=
 oP E (xCall (fC 150) [x0]) w fun a7m w_2 =>
 oP E (xBin .gtr 3 (.tmp 4) (.const (vI 32)) a7m (vI 32)) w_2 fun b0w w_4 =>
 R b0w w_4
noncomputable def e8u : Code := Tryd.f138.body.getD .skip
def e8v : Hint := (sQ (sQ .none))
theorem e0F (x0 : Value) (w : World) (R : RT) (E : Pan) : c8a x0 w R E = callX Tryd.prog [.tmp 2] e8u e8v [x0] w R E := by kernel_rfl
theorem e0G {x0 : Value} (h : c8a x0 w R E) : Cv Tryd.prog 138 #[x0] w R E := by
 refine i8 (args := [x0]) (c := e8u) (h := e8v) (rs := [.tmp 2]) Tryd.func138 (by kernel_rfl) (by kernel_rfl) (nB (by kernel_rfl)) (by kernel_rfl) (by kernel_rfl) (by kernel_rfl) ?_
 rw [← e0F]
 exact h
def b9K (x4 : Value) (w : World) (R : RT) (_E : Pan) : Prop :=
 ∀ _τ : Fr, (xcond x4
 (R (vB true) w)
 (R (vB false) w))
def c8b (x0 : Value) (w : World) (R : RT) (E : Pan) : Prop :=
 xcut (fun l_1 w_2 => b9K (nth l_1 0) w_2 R E) fun j1 =>
 oP E (xBin .eql 9 (.tmp 3) (.const (Value.string ⟨#[118, 97, 114]⟩)) x0 (Value.string ⟨#[118, 97, 114]⟩)) w fun b0w w_4 =>
 xcond b0w
 (j1 [b0w] w_4)
 (oP E (xBin .eql 9 (.tmp 3) (.const (Value.string ⟨#[97, 114, 114, 97, 121]⟩)) x0 (Value.string ⟨#[97, 114, 114, 97, 121]⟩)) w_4 fun a3B w_6 =>
 xcond a3B
 (j1 [a3B] w_6)
 (oP E (xBin .eql 9 (.tmp 3) (.const (Value.string ⟨#[105, 102]⟩)) x0 (Value.string ⟨#[105, 102]⟩)) w_6 fun b0t w_8 =>
 xcond b0t
 (j1 [b0t] w_8)
 (oP E (xBin .eql 9 (.tmp 3) (.const (Value.string ⟨#[101, 108, 115, 101]⟩)) x0 (Value.string ⟨#[101, 108, 115, 101]⟩)) w_8 fun a7n o3 =>
 xcond a7n
 (j1 [a7n] o3)
 (oP E (xBin .eql 9 (.tmp 3) (.const (Value.string ⟨#[119, 104, 105, 108, 101]⟩)) x0 (Value.string ⟨#[119, 104, 105, 108, 101]⟩)) o3 fun a9W p8 =>
 xcond a9W
 (j1 [a9W] p8)
 (oP E (xBin .eql 9 (.tmp 3) (.const (Value.string ⟨#[97, 115, 115, 101, 114, 116]⟩)) x0 (Value.string ⟨#[97, 115, 115, 101, 114, 116]⟩)) p8 fun d1D o9 =>
 xcond d1D
 (j1 [d1D] o9)
 (oP E (xBin .eql 9 (.tmp 3) (.const (Value.string ⟨#[97, 115, 115, 117, 109, 101]⟩)) x0 (Value.string ⟨#[97, 115, 115, 117, 109, 101]⟩)) o9 fun d1E q8 =>
 xcond d1E
 (j1 [d1E] q8)
 (oP E (xBin .eql 9 (.tmp 3) (.const (Value.string ⟨#[115, 107, 105, 112]⟩)) x0 (Value.string ⟨#[115, 107, 105, 112]⟩)) q8 fun d1F r7 =>
 xcond d1F
 (j1 [d1F] r7)
 (oP E (xBin .eql 9 (.tmp 3) (.const (Value.string ⟨#[105, 110, 112, 117, 116]⟩)) x0 (Value.string ⟨#[105, 110, 112, 117, 116]⟩)) r7 fun d1G r9 =>
 xcond d1G
 (j1 [d1G] r9)
 (oP E (xBin .eql 9 (.tmp 3) (.const (Value.string ⟨#[116, 114, 117, 101]⟩)) x0 (Value.string ⟨#[116, 114, 117, 101]⟩)) r9 fun d1H t8 =>
 xcond d1H
 (j1 [d1H] t8)
 (oP E (xBin .eql 9 (.tmp 3) (.const (Value.string ⟨#[102, 97, 108, 115, 101]⟩)) x0 (Value.string ⟨#[102, 97, 108, 115, 101]⟩)) t8 fun e8w v6 =>
 j1 [e8w] v6))))))))))
noncomputable def e8x : Code := Tryd.f139.body.getD .skip
def e8y : Hint := (sQ (.seq (sQ (.block (.cut [4] (sQ (.cond .none (sQ (.cond .none (sQ (.cond .none (sQ (.cond .none (sQ (.cond .none (sQ (.cond .none (sQ (.cond .none (sQ (.cond .none (sQ (.cond .none (sQ (.cond .none .none)))))))))))))))))))) (.cond (sQ .none) .none)))) (sQ .none)))
theorem e0H (x0 : Value) (w : World) (R : RT) (E : Pan) : c8b x0 w R E = callX Tryd.prog [.tmp 2] e8x e8y [x0] w R E := by kernel_rfl
theorem e0I {x0 : Value} (h : c8b x0 w R E) : Cv Tryd.prog 139 #[x0] w R E := by
 refine i8 (args := [x0]) (c := e8x) (h := e8y) (rs := [.tmp 2]) Tryd.func139 (by kernel_rfl) (by kernel_rfl) (nB (by kernel_rfl)) (by kernel_rfl) (by kernel_rfl) (by kernel_rfl) ?_
 rw [← e0H]
 exact h
def c8c (x0 : Value) (w : World) (R : RT) (E : Pan) : Prop :=
 oP E (xCall (fC 141) [x0]) w fun b1V w_2 =>
 oP E (xBin .eql 3 (.tmp 6) (.const (vI 3)) b1V (vI 3)) w_2 fun a8n w_4 =>
 oP E (gsem (asB a8n) false (xBin .eql 3 (.tmp 9) (.const (vI 4)) (gval (asB a8n) false b1V) (vI 4))) w_4 fun a1H w_6 =>
 oP E (xPick a8n (vB true) a1H) w_6 fun b1U w_8 =>
 R b1U w_8
noncomputable def e8z : Code := Tryd.f140.body.getD .skip
def e8A : Hint := (sQ (sQ (sQ .none)))
theorem e0J (x0 : Value) (w : World) (R : RT) (E : Pan) : c8c x0 w R E = callX Tryd.prog [.tmp 2] e8z e8A [x0] w R E := by kernel_rfl
theorem e0K {x0 : Value} (h : c8c x0 w R E) : Cv Tryd.prog 140 #[x0] w R E := by
 refine i8 (args := [x0]) (c := e8z) (h := e8A) (rs := [.tmp 2]) Tryd.func140 (by kernel_rfl) (by kernel_rfl) (nB (by kernel_rfl)) (by kernel_rfl) (by kernel_rfl) (by kernel_rfl) ?_
 rw [← e0J]
 exact h
def b9L (x39 : Value) (w : World) (R : RT) (_E : Pan) : Prop :=
 ∀ _τ : Fr, (xcond x39
 (R (vI 3) w)
 (R (vI 6) w))
def b9M (x1 x31 : Value) (w : World) (R : RT) (E : Pan) : Prop :=
 ∀ _τ : Fr, (xcond x31
 (R (vI 6) w)
 (oP E (xV (Instr.makeFunc (.func 151) #[] #[x1])) w fun b5e w_8 =>
 oP E (xCall b5e [(Value.int .i32 48), (Value.int .i32 57)]) w_8 fun g0B o3 =>
 xcond g0B
 (R (vI 4) o3)
 (xcut (fun g3W p8 => b9L (nth g3W 0) p8 R E) fun j4 =>
 oP E (lA 21 x1) o3 fun e8B o9 =>
 oP E (xBin .eql 21 (.tmp 40) (.const (Value.int .i32 95)) e8B (Value.int .i32 95)) o9 fun d1I q8 =>
 xcond d1I
 (j4 [d1I] q8)
 (oP E (xCall b5e [(Value.int .i32 97), (Value.int .i32 122)]) q8 fun d1J r7 =>
 xcond d1J
 (j4 [d1J] r7)
 (oP E (xCall b5e [(Value.int .i32 65), (Value.int .i32 90)]) r7 fun d1K r9 =>
 xcond d1K
 (j4 [d1K] r9)
 (oP E (xCall b5e [(Value.int .i32 192), (Value.int .i32 591)]) r9 fun d1L t8 =>
 xcond d1L
 (j4 [d1L] t8)
 (oP E (xCall b5e [(Value.int .i32 913), (Value.int .i32 969)]) t8 fun d1M v6 =>
 xcond d1M
 (j4 [d1M] v6)
 (oP E (xCall b5e [(Value.int .i32 1040), (Value.int .i32 1103)]) v6 fun e8C A9 =>
 j4 [e8C] A9))))))))
def b9N (x1 x4 x11 : Value) (w : World) (R : RT) (E : Pan) : Prop :=
 ∀ _τ : Fr, (xcond x11
 (R (vI 5) w)
 (xcut (fun d4p C7 => b9M x1 (nth d4p 0) C7 R E) fun j3 =>
 oP E (xBin .eql 21 (.tmp 4) (.const (Value.int .i32 215)) x4 (Value.int .i32 215)) w fun b8d D8 =>
 xcond b8d
 (j3 [b8d] D8)
 (oP E (xBin .eql 21 (.tmp 4) (.const (Value.int .i32 247)) x4 (Value.int .i32 247)) D8 fun d1N C3 =>
 xcond d1N
 (j3 [d1N] C3)
 (oP E (xBin .eql 21 (.tmp 4) (.const (Value.int .i32 930)) x4 (Value.int .i32 930)) C3 fun b3K D1 =>
 j3 [b3K] D1))))
def b9O (x1 x4 x5 : Value) (w : World) (R : RT) (E : Pan) : Prop :=
 ∀ _τ : Fr, (xcond x5
 (R (vI 1) w)
 (oP E (xBin .eql 21 (.tmp 4) (.const (Value.int .i32 10)) x4 (Value.int .i32 10)) w fun a1H w_6 =>
 xcond a1H
 (R (vI 2) w_6)
 (xcut (fun c3k G3 => b9N x1 x4 (nth c3k 0) G3 R E) fun j2 =>
 oP E (xBin .eql 21 (.tmp 4) (.const (Value.int .i32 59)) x4 (Value.int .i32 59)) w_6 fun d1O D9 =>
 xcond d1O
 (j2 [d1O] D9)
 (oP E (xBin .eql 21 (.tmp 4) (.const (Value.int .i32 44)) x4 (Value.int .i32 44)) D9 fun d1P E2 =>
 xcond d1P
 (j2 [d1P] E2)
 (oP E (xBin .eql 21 (.tmp 4) (.const (Value.int .i32 123)) x4 (Value.int .i32 123)) E2 fun d1Q G9 =>
 xcond d1Q
 (j2 [d1Q] G9)
 (oP E (xBin .eql 21 (.tmp 4) (.const (Value.int .i32 125)) x4 (Value.int .i32 125)) G9 fun d1R G4 =>
 xcond d1R
 (j2 [d1R] G4)
 (oP E (xBin .eql 21 (.tmp 4) (.const (Value.int .i32 40)) x4 (Value.int .i32 40)) G4 fun b8e K5 =>
 xcond b8e
 (j2 [b8e] K5)
 (oP E (xBin .eql 21 (.tmp 4) (.const (Value.int .i32 41)) x4 (Value.int .i32 41)) K5 fun d1S L3 =>
 xcond d1S
 (j2 [d1S] L3)
 (oP E (xBin .eql 21 (.tmp 4) (.const (Value.int .i32 91)) x4 (Value.int .i32 91)) L3 fun b8f J9 =>
 xcond b8f
 (j2 [b8f] J9)
 (oP E (xBin .eql 21 (.tmp 4) (.const (Value.int .i32 93)) x4 (Value.int .i32 93)) J9 fun d1T E6 =>
 xcond d1T
 (j2 [d1T] E6)
 (oP E (xBin .eql 21 (.tmp 4) (.const (Value.int .i32 61)) x4 (Value.int .i32 61)) E6 fun d1U N1 =>
 xcond d1U
 (j2 [d1U] N1)
 (oP E (xBin .eql 21 (.tmp 4) (.const (Value.int .i32 33)) x4 (Value.int .i32 33)) N1 fun d1V N2 =>
 xcond d1V
 (j2 [d1V] N2)
 (oP E (xBin .eql 21 (.tmp 4) (.const (Value.int .i32 60)) x4 (Value.int .i32 60)) N2 fun d1W L6 =>
 xcond d1W
 (j2 [d1W] L6)
 (oP E (xBin .eql 21 (.tmp 4) (.const (Value.int .i32 62)) x4 (Value.int .i32 62)) L6 fun d1X P2 =>
 xcond d1X
 (j2 [d1X] P2)
 (oP E (xBin .eql 21 (.tmp 4) (.const (Value.int .i32 43)) x4 (Value.int .i32 43)) P2 fun d1Y L8 =>
 xcond d1Y
 (j2 [d1Y] L8)
 (oP E (xBin .eql 21 (.tmp 4) (.const (Value.int .i32 45)) x4 (Value.int .i32 45)) L8 fun d1Z N9 =>
 xcond d1Z
 (j2 [d1Z] N9)
 (oP E (xBin .eql 21 (.tmp 4) (.const (Value.int .i32 42)) x4 (Value.int .i32 42)) N9 fun d2a P3 =>
 xcond d2a
 (j2 [d2a] P3)
 (oP E (xBin .eql 21 (.tmp 4) (.const (Value.int .i32 47)) x4 (Value.int .i32 47)) P3 fun d2b O0 =>
 xcond d2b
 (j2 [d2b] O0)
 (oP E (xBin .eql 21 (.tmp 4) (.const (Value.int .i32 37)) x4 (Value.int .i32 37)) O0 fun d2c M9 =>
 xcond d2c
 (j2 [d2c] M9)
 (oP E (xBin .eql 21 (.tmp 4) (.const (Value.int .i32 38)) x4 (Value.int .i32 38)) M9 fun d2d O1 =>
 xcond d2d
 (j2 [d2d] O1)
 (oP E (xBin .eql 21 (.tmp 4) (.const (Value.int .i32 124)) x4 (Value.int .i32 124)) O1 fun e8D R5 =>
 j2 [e8D] R5)))))))))))))))))))))
def c8d (x0 : Value) (w : World) (R : RT) (E : Pan) : Prop :=
 oP E (xV (Instr.box 21 x0)) w fun v7 w_2 =>
 oP E (lA 21 v7) w_2 fun a5b w_4 =>
 xcut (fun g3X T1 => b9O v7 a5b (nth g3X 0) T1 R E) fun j1 =>
 oP E (xBin .eql 21 (.tmp 4) (.const (Value.int .i32 32)) a5b (Value.int .i32 32)) w_4 fun d9d N3 =>
 xcond d9d
 (j1 [d9d] N3)
 (oP E (xBin .eql 21 (.tmp 4) (.const (Value.int .i32 9)) a5b (Value.int .i32 9)) N3 fun d9e T7 =>
 xcond d9e
 (j1 [d9e] T7)
 (oP E (xBin .eql 21 (.tmp 4) (.const (Value.int .i32 13)) a5b (Value.int .i32 13)) T7 fun g0C P4 =>
 j1 [g0C] P4))
noncomputable def e8E : Code := Tryd.f141.body.getD .skip
def e8F : Hint := (sQ (.seq (sQ (.block (.cut [5] (sQ (.cond .none (sQ (.cond .none .none)))) (.cond (sQ .none) (sQ (.cond (sQ .none) (.cut [11] (sQ (.cond .none (sQ (.cond .none (sQ (.cond .none (sQ (.cond .none (sQ (.cond .none (sQ (.cond .none (sQ (.cond .none (sQ (.cond .none (sQ (.cond .none (sQ (.cond .none (sQ (.cond .none (sQ (.cond .none (sQ (.cond .none (sQ (.cond .none (sQ (.cond .none (sQ (.cond .none (sQ (.cond .none (sQ (.cond .none .none)))))))))))))))))))))))))))))))))))) (.cond (sQ .none) (.cut [31] (sQ (.cond .none (sQ (.cond .none .none)))) (.cond (sQ .none) .none)))))))))) (sQ (.seq (.block (sQ (.cond (sQ .none) (.cut [39] (sQ (.cond .none (sQ (.cond .none (sQ (.cond .none (sQ (.cond .none (sQ (.cond .none .none)))))))))) (.cond (sQ .none) .none))))) (sQ .none)))))
theorem e0L (x0 : Value) (w : World) (R : RT) (E : Pan) : c8d x0 w R E = callX Tryd.prog [.tmp 2] e8E e8F [x0] w R E := by kernel_rfl
theorem e0M {x0 : Value} (h : c8d x0 w R E) : Cv Tryd.prog 141 #[x0] w R E := by
 refine i8 (args := [x0]) (c := e8E) (h := e8F) (rs := [.tmp 2]) Tryd.func141 (by kernel_rfl) (by kernel_rfl) (nB (by kernel_rfl)) (by kernel_rfl) (by kernel_rfl) (by kernel_rfl) ?_
 rw [← e0L]
 exact h
def b9P (w : World) (R : RT) (_E : Pan) : Prop :=
 ∀ _τ : Fr, (R (vI (-1)) w)
def c6V (x0 x1 x7 x8 : Value) (w : World) (next2 : NT) (j1 : NT) (R : RT) (E : Pan) : Prop :=
 oP E (xBin .lss 3 (.tmp 8) (.tmp 7) x8 x7) w fun g3Y w_6 =>
 xcond g3Y
 (oP E (iA 104 x0 x8) w_6 fun U2 w_8 =>
 oP E (lA 9 U2) w_8 fun a4U o3 =>
 oP E (xBin .eql 9 (.tmp 11) (.tmp 15) x1 a4U) o3 fun a5R p8 =>
 xcond a5R
 (R x8 p8)
 (oP E (xBin .add 3 (.tmp 8) (.const (vI 1)) x8 (vI 1)) p8 fun a8q o9 =>
 next2 [a8q] o9))
 (j1 [] w_6)
def c8e (x0 x1 : Value) (w : World) (R : RT) (E : Pan) : Prop :=
 xcut (fun _ w_2 => b9P w_2 R E) fun j1 =>
 oP E (xBuiltin .len #[104] 3 [false] [x0]) w fun a8n w_4 =>
 xloop [8] [(vI 0)] w_4 fun τ_15 q8 next2 =>
 c6V x0 x1 a8n (τ_15 8) q8 next2 j1 R E
noncomputable def e8G : Code := Tryd.f142.body.getD .skip
def e8H : Hint := (sQ (.cut [] (sQ (.block (.loop [8] (sQ (.seq (.cond .none .none) (.seq (.block (sQ (sQ (.cond (sQ .none) .none)))) .none)))))) (sQ .none)))
theorem e0N (x0 x1 : Value) (w : World) (R : RT) (E : Pan) : c8e x0 x1 w R E = callX Tryd.prog [.tmp 4] e8G e8H [x0, x1] w R E := by kernel_rfl
theorem e0O {x0 x1 : Value} (h : c8e x0 x1 w R E) : Cv Tryd.prog 142 #[x0, x1] w R E := by
 refine i8 (args := [x0, x1]) (c := e8G) (h := e8H) (rs := [.tmp 4]) Tryd.func142 (by kernel_rfl) (by kernel_rfl) (nB (by kernel_rfl)) (by kernel_rfl) (by kernel_rfl) (by kernel_rfl) ?_
 rw [← e0N]
 exact h
def b9Q (x2 : Value) (w : World) (R : RT) (_E : Pan) : Prop :=
 ∀ _τ : Fr, (R x2 w)
def c6W (x2 x4 : Value) (w : World) (next2 : NT) (j1 : NT) (_R : RT) (E : Pan) : Prop :=
 oP E (xV (Instr.next x4 true 0)) w fun c3l w_6 =>
 oP E (eX c3l 0) w_6 fun b9R w_8 =>
 xcond b9R
 (oP E (xBin .add 3 (.tmp 7) (.const (vI 1)) x2 (vI 1)) w_8 fun a7n o3 =>
 next2 [a7n] o3)
 (j1 [x2] w_8)
def c8f (x0 : Value) (w : World) (R : RT) (E : Pan) : Prop :=
 xcut (fun l_1 w_2 => b9Q (nth l_1 0) w_2 R E) fun j1 =>
 oP E (xV (Instr.range 9 x0)) w fun a5b w_4 =>
 xloop [2] [(vI 0)] w_4 fun τ_11 p8 next2 =>
 c6W (τ_11 2) a5b p8 next2 j1 R E
noncomputable def e8I : Code := Tryd.f150.body.getD .skip
def e8J : Hint := (sQ (.cut [2] (sQ (.block (.loop [2] (sQ (.seq (.cond .none .none) (.block .none)))))) (sQ .none)))
theorem e0P (x0 : Value) (w : World) (R : RT) (E : Pan) : c8f x0 w R E = callX Tryd.prog [.tmp 2] e8I e8J [x0] w R E := by kernel_rfl
theorem e0Q {x0 : Value} (h : c8f x0 w R E) : Cv Tryd.prog 150 #[x0] w R E := by
 refine i8 (args := [x0]) (c := e8I) (h := e8J) (rs := [.tmp 2]) Tryd.func150 (by kernel_rfl) (by kernel_rfl) (nB (by kernel_rfl)) (by kernel_rfl) (by kernel_rfl) (by kernel_rfl) ?_
 rw [← e0P]
 exact h
def c8g (x0 x1 x2 : Value) (w : World) (R : RT) (E : Pan) : Prop :=
 oP E (lA 21 x2) w fun a2V w_2 =>
 oP E (xBin .leq 21 (.tmp 6) (.tmp 7) x0 a2V) w_2 fun b9J w_4 =>
 oP E (gsem (asB b9J) true (lA 21 x2)) w_4 fun a1H w_6 =>
 oP E (gsem (asB b9J) true (xBin .leq 21 (.tmp 10) (.tmp 11) a1H (gval (asB b9J) true x1))) w_6 fun a7H w_8 =>
 oP E (xPick b9J a7H (vB false)) w_8 fun a7I o3 =>
 R a7I o3
noncomputable def e8K : Code := Tryd.f151.body.getD .skip
def e8L : Hint := (sQ (sQ .none))
theorem e0R (x0 x1 x2 : Value) (w : World) (R : RT) (E : Pan) : c8g x0 x1 x2 w R E = callX Tryd.prog [.tmp 5] e8K e8L [x0, x1, x2] w R E := by kernel_rfl
theorem e0S {x0 x1 x2 : Value} (h : c8g x0 x1 x2 w R E) : Cv Tryd.prog 151 #[x0, x1, x2] w R E := by
 refine i8 (args := [x0, x1, x2]) (c := e8K) (h := e8L) (rs := [.tmp 5]) Tryd.func151 (by kernel_rfl) (by kernel_rfl) (nB (by kernel_rfl)) (by kernel_rfl) (by kernel_rfl) (by kernel_rfl) ?_
 rw [← e0R]
 exact h
def b9S (x3 x59 : Value) (w : World) (R : RT) (E : Pan) : Prop :=
 ∀ _τ : Fr, (xcond x59
 (oP E (xBin .eql 3 (.tmp 65) (.const (vI 2)) x3 (vI 2)) w fun e8M N3 =>
 R e8M N3)
 (R (vB false) w))
def b9T (x3 x38 x54 : Value) (w : World) (R : RT) (E : Pan) : Prop :=
 ∀ _τ : Fr, (xcond x54
 (oP E (xBin .eql 3 (.tmp 57) (.const (vI 1)) x3 (vI 1)) w fun e8N T1 =>
 R e8N T1)
 (xcut (fun c8h T7 => b9S x3 (nth c8h 0) T7 R E) fun j3 =>
 oP E (xBin .eql 3 (.tmp 38) (.const (vI 6)) x38 (vI 6)) w fun a8r P4 =>
 xcond a8r
 (j3 [a8r] P4)
 (oP E (xBin .eql 3 (.tmp 38) (.const (vI 7)) x38 (vI 7)) P4 fun d2e Q2 =>
 xcond d2e
 (j3 [d2e] Q2)
 (oP E (xBin .eql 3 (.tmp 38) (.const (vI 8)) x38 (vI 8)) Q2 fun d2f T8 =>
 xcond d2f
 (j3 [d2f] T8)
 (oP E (xBin .eql 3 (.tmp 38) (.const (vI 9)) x38 (vI 9)) T8 fun d2g N4 =>
 xcond d2g
 (j3 [d2g] N4)
 (oP E (xBin .eql 3 (.tmp 38) (.const (vI 10)) x38 (vI 10)) N4 fun e8O a0d =>
 j3 [e8O] a0d))))))
def b9U (x3 x38 x49 : Value) (w : World) (R : RT) (E : Pan) : Prop :=
 ∀ _τ : Fr, (xcond x49
 (oP E (xBin .eql 3 (.tmp 52) (.const (vI 0)) x3 (vI 0)) w fun b3C R5 =>
 R b3C R5)
 (xcut (fun g3Z a0J => b9T x3 x38 (nth g3Z 0) a0J R E) fun j2 =>
 oP E (xBin .eql 3 (.tmp 38) (.const (vI 4)) x38 (vI 4)) w fun d2h a1k =>
 xcond d2h
 (j2 [d2h] a1k)
 (oP E (xBin .eql 3 (.tmp 38) (.const (vI 5)) x38 (vI 5)) a1k fun e8P a0K =>
 j2 [e8P] a0K)))
def c8i (x0 : Value) (w : World) (R : RT) (E : Pan) : Prop :=
 oP E (xV (Instr.box 123 x0)) w fun v7 w_2 =>
 oP E (fA 123 v7 0) w_2 fun a3E w_4 =>
 oP E (fA 24 a3E 3) w_4 fun a8v w_6 =>
 oP E (lA 22 a8v) w_6 fun a2W w_8 =>
 oP E (xBuiltin .len #[22] 3 [false] [a2W]) w_8 fun b0x o3 =>
 oP E (lA 123 v7) o3 fun a6W p8 =>
 oP E (xV (Instr.makeInterface 123 a6W)) p8 fun a6X o9 =>
 oP E (xCall (fC 118) [a6X]) o9 fun a8t q8 =>
 oP E (eX a8t 0) q8 fun _t14_17 r7 =>
 oP E (eX a8t 1) r7 fun a8u r9 =>
 oP E (fA 123 v7 0) r9 fun b3F t8 =>
 oP E (fA 24 b3F 0) t8 fun c3m v6 =>
 oP E (lA 3 c3m) v6 fun c3n A9 =>
 oP E (xBin .neq 3 (.tmp 18) (.const (vI 1)) c3n (vI 1)) A9 fun a8w C7 =>
 oP E (gsem (asB a8w) true (fA 123 v7 0)) C7 fun e8Q D8 =>
 oP E (gsem (asB a8w) true (fA 24 e8Q 1)) D8 fun e8R C3 =>
 oP E (gsem (asB a8w) true (lA 2 e8R)) C3 fun e8S D1 =>
 oP E (gsem (asB a8w) true (xBin .neq 2 (.tmp 23) (.const (vI 0)) e8S (vI 0))) D1 fun e8T G3 =>
 oP E (xPick a8w e8T (vB false)) G3 fun a5S D9 =>
 oP E (gsem (asB a5S) false (xV (Op.unary .not (gval (asB a5S) false a8u)))) D9 fun b3L E2 =>
 oP E (gsem (asB (gval (asB a5S) false b3L)) true (fA 123 v7 0)) E2 fun c3o G9 =>
 oP E (gsem (asB (gval (asB a5S) false b3L)) true (fA 24 c3o 2)) G9 fun c3p G4 =>
 oP E (gsem (asB (gval (asB a5S) false b3L)) true (lA 9 c3p)) G4 fun c3q K5 =>
 oP E (gsem (asB (gval (asB a5S) false b3L)) true (xBin .neq 9 (.tmp 32) (.const (eS)) c3q (eS))) K5 fun e8U L3 =>
 oP E (gsem (asB a5S) false (xPick (gval (asB a5S) false b3L) e8U (vB false))) L3 fun e8V J9 =>
 oP E (xPick a5S (vB true) e8V) J9 fun e8W E6 =>
 xcond e8W
 (R (vB false) E6)
 (oP E (fA 123 v7 0) E6 fun c3e N1 =>
 oP E (fA 24 c3e 0) N1 fun e8X N2 =>
 oP E (lA 3 e8X) N2 fun b8g L6 =>
 oP E (xBin .eql 3 (.tmp 38) (.const (vI 1)) b8g (vI 1)) L6 fun e8Y P2 =>
 xcond e8Y
 (oP E (fA 123 v7 0) P2 fun e8Z L8 =>
 oP E (fA 24 e8Z 1) L8 fun e9a N9 =>
 oP E (lA 2 e9a) N9 fun e9b P3 =>
 oP E (xBin .geq 2 (.tmp 43) (.const (vI 0)) e9b (vI 0)) P3 fun c3r O0 =>
 oP E (gsem (asB c3r) true (xBin .eql 3 (.tmp 46) (.const (vI 0)) (gval (asB c3r) true b0x) (vI 0))) O0 fun c3s M9 =>
 oP E (xPick c3r c3s (vB false)) M9 fun e9c O1 =>
 R e9c O1)
 (xcut (fun g4a a0L => b9U b0x b8g (nth g4a 0) a0L R E) fun j1 =>
 oP E (xBin .eql 3 (.tmp 38) (.const (vI 2)) b8g (vI 2)) P2 fun d2i U9 =>
 xcond d2i
 (j1 [d2i] U9)
 (oP E (xBin .eql 3 (.tmp 38) (.const (vI 3)) b8g (vI 3)) U9 fun e0T M6 =>
 j1 [e0T] M6)))
noncomputable def e9d : Code := Tryd.f169.body.getD .skip
def e9e : Hint := (sQ (sQ (sQ (.seq (sQ (.cond (sQ .none) .none)) (.seq (sQ (.block (sQ (.cond (sQ .none) (.cut [49] (sQ (.cond .none .none)) (.cond (sQ .none) (.cut [54] (sQ (.cond .none .none)) (.cond (sQ .none) (.cut [59] (sQ (.cond .none (sQ (.cond .none (sQ (.cond .none (sQ (.cond .none .none)))))))) (.cond (sQ .none) .none)))))))))) (sQ .none))))))
theorem e0U (x0 : Value) (w : World) (R : RT) (E : Pan) : c8i x0 w R E = callX Tryd.prog [.tmp 2] e9d e9e [x0] w R E := by kernel_rfl
theorem e0V {x0 : Value} (h : c8i x0 w R E) : Cv Tryd.prog 169 #[x0] w R E := by
 refine i8 (args := [x0]) (c := e9d) (h := e9e) (rs := [.tmp 2]) Tryd.func169 (by kernel_rfl) (by kernel_rfl) (nB (by kernel_rfl)) (by kernel_rfl) (by kernel_rfl) (by kernel_rfl) ?_
 rw [← e0U]
 exact h
def c8j (x0 : Value) (w : World) (R : RT) (E : Pan) : Prop :=
 oP E (xV (Instr.box 123 x0)) w fun v7 w_2 =>
 oP E (fA 123 v7 0) w_2 fun a3C w_4 =>
 oP E (fA 24 a3C 3) w_4 fun a2j w_6 =>
 oP E (lA 22 a2j) w_6 fun a5a w_8 =>
 oP E (xCall (fC 171) [a5a, (fC 172)]) w_8 fun b1Q o3 =>
 R b1Q o3
noncomputable def e9f : Code := Tryd.f170.body.getD .skip
def e9g : Hint := (sQ (sQ .none))
theorem e0W (x0 : Value) (w : World) (R : RT) (E : Pan) : c8j x0 w R E = callX Tryd.prog [.tmp 2] e9f e9g [x0] w R E := by kernel_rfl
theorem e0X {x0 : Value} (h : c8j x0 w R E) : Cv Tryd.prog 170 #[x0] w R E := by
 refine i8 (args := [x0]) (c := e9f) (h := e9g) (rs := [.tmp 2]) Tryd.func170 (by kernel_rfl) (by kernel_rfl) (nB (by kernel_rfl)) (by kernel_rfl) (by kernel_rfl) (by kernel_rfl) ?_
 rw [← e0W]
 exact h
def b9V (x5 : Value) (w : World) (R : RT) (_E : Pan) : Prop :=
 ∀ _τ : Fr, (R x5 w)
def c6X (x1 x5 x8 x9 x10 : Value) (w : World) (next2 : NT) (j1 : NT) (_R : RT) (E : Pan) : Prop :=
 oP E (xBin .lss 3 (.tmp 10) (.tmp 9) x10 x9) w fun a5K w_6 =>
 xcond a5K
 (oP E (iA 22 x8 x10) w_6 fun a7H w_8 =>
 oP E (lA 24 a7H) w_8 fun a7I o3 =>
 oP E (xV (Instr.alloc 24 true (.tuple #[]))) o3 fun a4k p8 =>
 oP E (sA 24 a4k a7I) p8 fun _z_13 o9 =>
 oP E (lA 24 a4k) o9 fun a8o q8 =>
 oP E (xCall x1 [a8o]) q8 fun a5L r7 =>
 oP E (xV (Instr.buildSlice 124 1 #[(0, a5L)])) r7 fun a8p r9 =>
 oP E (xBuiltin .append #[124, 124] 124 [false, false] [x5, a8p]) r9 fun a5M t8 =>
 oP E (xBin .add 3 (.tmp 10) (.const (vI 1)) x10 (vI 1)) t8 fun a5N v6 =>
 next2 [a5M, a5N] v6)
 (j1 [x5] w_6)
def c8k (x0 x1 : Value) (w : World) (R : RT) (E : Pan) : Prop :=
 xcut (fun l_1 w_2 => b9V (nth l_1 0) w_2 R E) fun j1 =>
 oP E (xBuiltin .len #[22] 3 [false] [x0]) w fun a2T w_4 =>
 xloop [5, 10] [(nS), (vI 0)] w_4 fun τ_25 A9 next2 =>
 c6X x1 (τ_25 5) x0 a2T (τ_25 10) A9 next2 j1 R E
noncomputable def e9h : Code := Tryd.f171.body.getD .skip
def e9i : Hint := (sQ (sQ (.cut [5] (sQ (.block (.loop [5, 10] (sQ (.seq (.cond .none .none) (.seq (.block (sQ .none)) .none)))))) (sQ .none))))
theorem e0Y (x0 x1 : Value) (w : World) (R : RT) (E : Pan) : c8k x0 x1 w R E = callX Tryd.prog [.tmp 4] e9h e9i [x0, x1] w R E := by kernel_rfl
theorem e0Z {x0 x1 : Value} (h : c8k x0 x1 w R E) : Cv Tryd.prog 171 #[x0, x1] w R E := by
 refine i8 (args := [x0, x1]) (c := e9h) (h := e9i) (rs := [.tmp 4]) Tryd.func171 (by kernel_rfl) (by kernel_rfl) (nB (by kernel_rfl)) (by kernel_rfl) (by kernel_rfl) (by kernel_rfl) ?_
 rw [← e0Y]
 exact h
def c8l (x0 : Value) (w : World) (R : RT) (E : Pan) : Prop :=
 oP E (xV (Instr.box 24 x0)) w fun v7 w_2 =>
 oP E (lA 24 v7) w_2 fun a3C w_4 =>
 oP E (xV (Instr.build 123 #[(0, a3C)])) w_4 fun a2j w_6 =>
 oP E (xV (Instr.makeInterface 123 a2j)) w_6 fun a5a w_8 =>
 R a5a w_8
noncomputable def e9j : Code := Tryd.f172.body.getD .skip
def e9k : Hint := (sQ (sQ .none))
theorem e1a (x0 : Value) (w : World) (R : RT) (E : Pan) : c8l x0 w R E = callX Tryd.prog [.tmp 2] e9j e9k [x0] w R E := by kernel_rfl
theorem e1b {x0 : Value} (h : c8l x0 w R E) : Cv Tryd.prog 172 #[x0] w R E := by
 refine i8 (args := [x0]) (c := e9j) (h := e9k) (rs := [.tmp 2]) Tryd.func172 (by kernel_rfl) (by kernel_rfl) (nB (by kernel_rfl)) (by kernel_rfl) (by kernel_rfl) (by kernel_rfl) ?_
 rw [← e1a]
 exact h
def b9W (x3 x50 : Value) (w : World) (R : RT) (E : Pan) : Prop :=
 ∀ _τ : Fr, (xcond x50
 (oP E (lA 223 x3) w fun c3t N4 =>
 oP E (xV (Instr.build 223 #[(0, (vI 0)), (1, (vI 2))])) N4 fun c3u a0d =>
 oP E (xBin .eql 223 (.tmp 53) (.tmp 54) c3t c3u) a0d fun c3v a0J =>
 R c3v a0J)
 (R (vB false) w))
def b9X (x3 x38 x39 : Value) (w : World) (R : RT) (E : Pan) : Prop :=
 ∀ _τ : Fr, (xcond x39
 (oP E (lA 223 x3) w fun e9l R5 =>
 oP E (xV (Instr.build 223 #[])) R5 fun e9m T1 =>
 oP E (xBin .eql 223 (.tmp 42) (.tmp 43) e9l e9m) T1 fun e9n N3 =>
 R e9n N3)
 (oP E (xBin .eql 3 (.tmp 38) (.const (vI 4)) x38 (vI 4)) w fun e9o T7 =>
 xcond e9o
 (oP E (lA 223 x3) T7 fun e9p P4 =>
 oP E (xV (Instr.build 223 #[(0, (vI 0)), (1, (vI 1))])) P4 fun e9q Q2 =>
 oP E (xBin .eql 223 (.tmp 47) (.tmp 48) e9p e9q) Q2 fun e9r T8 =>
 R e9r T8)
 (xcut (fun c3w a1k => b9W x3 (nth c3w 0) a1k R E) fun j2 =>
 oP E (xBin .eql 3 (.tmp 38) (.const (vI 5)) x38 (vI 5)) T7 fun d2j a0K =>
 xcond d2j
 (j2 [d2j] a0K)
 (oP E (xBin .eql 3 (.tmp 38) (.const (vI 6)) x38 (vI 6)) a0K fun e9s a0L =>
 j2 [e9s] a0L))))
def c8m (x0 : Value) (w : World) (R : RT) (E : Pan) : Prop :=
 oP E (xV (Instr.box 138 x0)) w fun v7 w_2 =>
 oP E (fA 138 v7 0) w_2 fun a5b w_4 =>
 oP E (fA 27 a5b 2) w_4 fun c3l w_6 =>
 oP E (lA 22 c3l) w_6 fun b9R w_8 =>
 oP E (xBuiltin .len #[22] 3 [false] [b9R]) w_8 fun g4b o3 =>
 oP E (fA 138 v7 0) o3 fun b7T p8 =>
 oP E (fA 27 b7T 3) p8 fun b1W o9 =>
 oP E (lA 25 b1W) o9 fun b3M q8 =>
 oP E (xBuiltin .len #[25] 3 [false] [b3M]) q8 fun b3N r7 =>
 oP E (xV (Instr.build 223 #[(0, g4b), (1, b3N)])) r7 fun b3O r9 =>
 oP E (xV (Instr.alloc 223 true (.tuple #[]))) r9 fun c8n t8 =>
 oP E (sA 223 c8n b3O) t8 fun _z_23 v6 =>
 oP E (fA 138 v7 0) v6 fun e9t A9 =>
 oP E (fA 27 e9t 0) A9 fun e9u C7 =>
 oP E (lA 3 e9u) C7 fun e9v D8 =>
 oP E (xBin .eql 3 (.tmp 15) (.const (vI 3)) e9v (vI 3)) D8 fun e9w C3 =>
 xcond e9w
 (oP E (fA 138 v7 0) C3 fun c2L D1 =>
 oP E (fA 27 c2L 1) D1 fun b3A G3 =>
 oP E (lA 3 b3A) G3 fun e9x D9 =>
 oP E (xBin .geq 3 (.tmp 19) (.const (vI 1)) e9x (vI 1)) D9 fun b3P E2 =>
 oP E (gsem (asB b3P) true (fA 138 v7 0)) E2 fun c3x G9 =>
 oP E (gsem (asB b3P) true (fA 27 c3x 1)) G9 fun c3y G4 =>
 oP E (gsem (asB b3P) true (lA 3 c3y)) G4 fun e9y K5 =>
 oP E (gsem (asB b3P) true (xBin .leq 3 (.tmp 24) (.const (vI 6)) e9y (vI 6))) K5 fun e9z L3 =>
 oP E (xPick b3P e9z (vB false)) L3 fun b8h J9 =>
 oP E (gsem (asB b8h) true (lA 223 c8n)) J9 fun b3Q E6 =>
 oP E (gsem (asB b8h) true (xV (Instr.build 223 #[(0, (vI 2)), (1, (vI 0))]))) E6 fun e9A N1 =>
 oP E (gsem (asB b8h) true (xBin .eql 223 (.tmp 28) (.tmp 29) b3Q e9A)) N1 fun e9B N2 =>
 oP E (xPick b8h e9B (vB false)) N2 fun e9C L6 =>
 R e9C L6)
 (oP E (fA 138 v7 0) C3 fun b3R P2 =>
 oP E (fA 27 b3R 1) P2 fun b3S L8 =>
 oP E (lA 3 b3S) L8 fun b3T N9 =>
 oP E (xBin .neq 3 (.tmp 34) (.const (vI 0)) b3T (vI 0)) N9 fun a8x P3 =>
 xcond a8x
 (R (vB false) P3)
 (oP E (fA 138 v7 0) P3 fun e9D O0 =>
 oP E (fA 27 e9D 0) O0 fun e9E M9 =>
 oP E (lA 3 e9E) M9 fun c3z O1 =>
 xcut (fun g4c U9 => b9X c8n c3z (nth g4c 0) U9 R E) fun j1 =>
 oP E (xBin .eql 3 (.tmp 38) (.const (vI 1)) c3z (vI 1)) O1 fun c6Y M6 =>
 xcond c6Y
 (j1 [c6Y] M6)
 (oP E (xBin .eql 3 (.tmp 38) (.const (vI 2)) c3z (vI 2)) M6 fun e1c P8 =>
 j1 [e1c] P8)))
noncomputable def e9F : Code := Tryd.f173.body.getD .skip
def e9G : Hint := (sQ (sQ (.seq (sQ (.cond (sQ .none) .none)) (.seq (sQ (.cond (sQ .none) .none)) (.seq (sQ (.block (.cut [39] (sQ (.cond .none .none)) (.cond (sQ .none) (sQ (.cond (sQ .none) (.cut [50] (sQ (.cond .none .none)) (.cond (sQ .none) .none)))))))) (sQ .none))))))
theorem e1d (x0 : Value) (w : World) (R : RT) (E : Pan) : c8m x0 w R E = callX Tryd.prog [.tmp 2] e9F e9G [x0] w R E := by kernel_rfl
theorem e1e {x0 : Value} (h : c8m x0 w R E) : Cv Tryd.prog 173 #[x0] w R E := by
 refine i8 (args := [x0]) (c := e9F) (h := e9G) (rs := [.tmp 2]) Tryd.func173 (by kernel_rfl) (by kernel_rfl) (nB (by kernel_rfl)) (by kernel_rfl) (by kernel_rfl) (by kernel_rfl) ?_
 rw [← e1d]
 exact h
def c8o (x0 : Value) (w : World) (R : RT) (E : Pan) : Prop :=
 oP E (xV (Instr.box 138 x0)) w fun v7 w_2 =>
 dX w_2 fun w_3 =>
 qP Tryd.prog (fA 138 v7 0) fun b9C =>
 qP Tryd.prog (fA 27 b9C 2) fun a2j =>
 qP Tryd.prog (fA 138 v7 0) fun d4r =>
 qP Tryd.prog (fA 27 d4r 3) fun a2W =>
 qL Tryd.prog w_3 (blk a2j) (lA 22 a2j) fun d4n =>
 qL Tryd.prog w_3 (blk a2W) (lA 25 a2W) fun b0x =>
 oP E (xCall (fC 171) [d4n, (fC 172)]) w_3 fun g0D a1i =>
 keepX [(blk a2W)] w_3 a1i (opK Tryd.prog E (xCall (fC 175) [b0x, (fC 176)]) a1i fun e9H a0I =>
 keepX [] a1i a0I (opK Tryd.prog E (xV (Instr.buildSlice 174 2 #[(0, g0D), (1, e9H)])) a0I fun e9I b6v =>
 keepX [] a0I b6v (opK Tryd.prog E (xCall (fC 87) [e9I]) b6v fun e9J a2H =>
 keepX [] b6v a2H (R e9J a2H))))
noncomputable def e9K : Code := Tryd.f174.body.getD .skip
def e9L : Hint := (sQ (.seq (.reg [(0, 8, 2), (1, 16, 8), (2, 32, 16), (4, 64, 32), (0, 128, 2), (16, 256, 128), (32, 512, 256), (72, 1024, 512), (136, 2048, 1088), (384, 4096, 2048), (1023, 4, 4096)] [68, 68, 64, 64, 68, 68, 4, 0, 0, 0, 68] (.early 0 (.early 1 (.early 4 (.early 5 (.load 2 (.load 6 (.step 3 (.step 7 (.step 8 (.step 9 (.early 10 .done)))))))))))) .none))
theorem e1f (x0 : Value) (w : World) (R : RT) (E : Pan) : c8o x0 w R E = callX Tryd.prog [.tmp 2] e9K e9L [x0] w R E := by kernel_rfl
theorem e1g {x0 : Value} (h : c8o x0 w R E) : Cv Tryd.prog 174 #[x0] w R E := by
 refine i8 (args := [x0]) (c := e9K) (h := e9L) (rs := [.tmp 2]) Tryd.func174 (by kernel_rfl) (by kernel_rfl) (nB (by kernel_rfl)) (by kernel_rfl) (by kernel_rfl) (by kernel_rfl) ?_
 rw [← e1f]
 exact h
def b9Y (x5 : Value) (w : World) (R : RT) (_E : Pan) : Prop :=
 ∀ _τ : Fr, (R x5 w)
def c6Z (x1 x5 x8 x9 x10 : Value) (w : World) (next2 : NT) (j1 : NT) (_R : RT) (E : Pan) : Prop :=
 oP E (xBin .lss 3 (.tmp 10) (.tmp 9) x10 x9) w fun a5K w_6 =>
 xcond a5K
 (oP E (iA 25 x8 x10) w_6 fun a7H w_8 =>
 oP E (lA 27 a7H) w_8 fun a7I o3 =>
 oP E (xV (Instr.alloc 27 true (.tuple #[]))) o3 fun a4k p8 =>
 oP E (sA 27 a4k a7I) p8 fun _z_13 o9 =>
 oP E (lA 27 a4k) o9 fun a8o q8 =>
 oP E (xCall x1 [a8o]) q8 fun a5L r7 =>
 oP E (xV (Instr.buildSlice 124 1 #[(0, a5L)])) r7 fun a8p r9 =>
 oP E (xBuiltin .append #[124, 124] 124 [false, false] [x5, a8p]) r9 fun a5M t8 =>
 oP E (xBin .add 3 (.tmp 10) (.const (vI 1)) x10 (vI 1)) t8 fun a5N v6 =>
 next2 [a5M, a5N] v6)
 (j1 [x5] w_6)
def c8p (x0 x1 : Value) (w : World) (R : RT) (E : Pan) : Prop :=
 xcut (fun l_1 w_2 => b9Y (nth l_1 0) w_2 R E) fun j1 =>
 oP E (xBuiltin .len #[25] 3 [false] [x0]) w fun a2T w_4 =>
 xloop [5, 10] [(nS), (vI 0)] w_4 fun τ_25 A9 next2 =>
 c6Z x1 (τ_25 5) x0 a2T (τ_25 10) A9 next2 j1 R E
noncomputable def e9M : Code := Tryd.f175.body.getD .skip
def e9N : Hint := (sQ (sQ (.cut [5] (sQ (.block (.loop [5, 10] (sQ (.seq (.cond .none .none) (.seq (.block (sQ .none)) .none)))))) (sQ .none))))
theorem e1h (x0 x1 : Value) (w : World) (R : RT) (E : Pan) : c8p x0 x1 w R E = callX Tryd.prog [.tmp 4] e9M e9N [x0, x1] w R E := by kernel_rfl
theorem e1i {x0 x1 : Value} (h : c8p x0 x1 w R E) : Cv Tryd.prog 175 #[x0, x1] w R E := by
 refine i8 (args := [x0, x1]) (c := e9M) (h := e9N) (rs := [.tmp 4]) Tryd.func175 (by kernel_rfl) (by kernel_rfl) (nB (by kernel_rfl)) (by kernel_rfl) (by kernel_rfl) (by kernel_rfl) ?_
 rw [← e1h]
 exact h
def c8q (x0 : Value) (w : World) (R : RT) (E : Pan) : Prop :=
 oP E (xV (Instr.box 27 x0)) w fun v7 w_2 =>
 oP E (lA 27 v7) w_2 fun a3C w_4 =>
 oP E (xV (Instr.build 138 #[(0, a3C)])) w_4 fun a2j w_6 =>
 oP E (xV (Instr.makeInterface 138 a2j)) w_6 fun a5a w_8 =>
 R a5a w_8
noncomputable def e9O : Code := Tryd.f176.body.getD .skip
def e9P : Hint := (sQ (sQ .none))
theorem e1j (x0 : Value) (w : World) (R : RT) (E : Pan) : c8q x0 w R E = callX Tryd.prog [.tmp 2] e9O e9P [x0] w R E := by kernel_rfl
theorem e1k {x0 : Value} (h : c8q x0 w R E) : Cv Tryd.prog 176 #[x0] w R E := by
 refine i8 (args := [x0]) (c := e9O) (h := e9P) (rs := [.tmp 2]) Tryd.func176 (by kernel_rfl) (by kernel_rfl) (nB (by kernel_rfl)) (by kernel_rfl) (by kernel_rfl) (by kernel_rfl) ?_
 rw [← e1j]
 exact h
def c8r (x0 : Value) (w : World) (R : RT) (E : Pan) : Prop :=
 oP E (xV (Instr.box 177 x0)) w fun v7 w_2 =>
 oP E (fA 177 v7 0) w_2 fun a3C w_4 =>
 oP E (fA 58 a3C 1) w_4 fun a2j w_6 =>
 oP E (lA 3 a2j) w_6 fun a5a w_8 =>
 oP E (xBin .geq 3 (.tmp 5) (.const (vI 0)) a5a (vI 0)) w_8 fun b1Q o3 =>
 oP E (gsem (asB b1Q) true (fA 177 v7 0)) o3 fun b7T p8 =>
 oP E (gsem (asB b1Q) true (fA 58 b7T 1)) p8 fun b1W o9 =>
 oP E (gsem (asB b1Q) true (lA 3 b1W)) o9 fun b3M q8 =>
 oP E (gsem (asB b1Q) true (xBin .leq 3 (.tmp 10) (.const (vI 2147483647)) b3M (vI 2147483647))) q8 fun b3N r7 =>
 oP E (xPick b1Q b3N (vB false)) r7 fun b3O r9 =>
 R b3O r9
noncomputable def e9Q : Code := Tryd.f177.body.getD .skip
def e9R : Hint := (sQ (sQ .none))
theorem e1l (x0 : Value) (w : World) (R : RT) (E : Pan) : c8r x0 w R E = callX Tryd.prog [.tmp 2] e9Q e9R [x0] w R E := by kernel_rfl
theorem e1m {x0 : Value} (h : c8r x0 w R E) : Cv Tryd.prog 177 #[x0] w R E := by
 refine i8 (args := [x0]) (c := e9Q) (h := e9R) (rs := [.tmp 2]) Tryd.func177 (by kernel_rfl) (by kernel_rfl) (nB (by kernel_rfl)) (by kernel_rfl) (by kernel_rfl) (by kernel_rfl) ?_
 rw [← e1l]
 exact h
def c8s (x0 : Value) (w : World) (R : RT) (E : Pan) : Prop :=
 oP E (xV (Instr.box 177 x0)) w fun _t1_1 w_2 =>
 R (nS) w_2
noncomputable def e9S : Code := Tryd.f178.body.getD .skip
def e9T : Hint := (sQ (sQ .none))
theorem e1n (x0 : Value) (w : World) (R : RT) (E : Pan) : c8s x0 w R E = callX Tryd.prog [.tmp 2] e9S e9T [x0] w R E := by kernel_rfl
theorem e1o {x0 : Value} (h : c8s x0 w R E) : Cv Tryd.prog 178 #[x0] w R E := by
 refine i8 (args := [x0]) (c := e9S) (h := e9T) (rs := [.tmp 2]) Tryd.func178 (by kernel_rfl) (by kernel_rfl) (nB (by kernel_rfl)) (by kernel_rfl) (by kernel_rfl) (by kernel_rfl) ?_
 rw [← e1n]
 exact h
def b9Z (x4 x5 x35 x83 : Value) (w : World) (R : RT) (E : Pan) : Prop :=
 ∀ _τ : Fr, (xcond x83
 (oP E (gsem (asB x5) true (lA 227 x4)) w fun e1p a4m =>
 oP E (gsem (asB x5) true (xV (Instr.build 227 #[(0, (vI 0)), (1, (vI 1))]))) a4m fun e1q a5T =>
 oP E (gsem (asB x5) true (xBin .eql 227 (.tmp 88) (.tmp 89) e1p e1q)) a5T fun e1r a6P =>
 oP E (xPick x5 e1r (vB false)) a6P fun e1s a7J =>
 R e1s a7J)
 (oP E (xBin .eql 3 (.tmp 35) (.const (vI 7)) x35 (vI 7)) w fun e1t a6Q =>
 xcond e1t
 (oP E (gsem (asB x5) true (lA 227 x4)) a6Q fun e1u b1X =>
 oP E (gsem (asB x5) true (xV (Instr.build 227 #[]))) b1X fun e1v a9X =>
 oP E (gsem (asB x5) true (xBin .eql 227 (.tmp 96) (.tmp 97) e1u e1v)) a9X fun e1w b1Y =>
 oP E (xPick x5 e1w (vB false)) b1Y fun e1x b8i =>
 R e1x b8i)
 (R (vB false) a6Q)))
def c8t (x0 : Value) (w : World) (R : RT) (E : Pan) : Prop :=
 oP E (xV (Instr.box 179 x0)) w fun v7 w_2 =>
 oP E (fA 179 v7 0) w_2 fun a3E w_4 =>
 oP E (fA 63 a3E 4) w_4 fun a8v w_6 =>
 oP E (lA 42 a8v) w_6 fun a2W w_8 =>
 oP E (xBuiltin .len #[42] 3 [false] [a2W]) w_8 fun b0x o3 =>
 oP E (fA 179 v7 0) o3 fun b3U p8 =>
 oP E (fA 63 b3U 5) p8 fun a8y o9 =>
 oP E (lA 42 a8y) o9 fun c3A q8 =>
 oP E (xBuiltin .len #[42] 3 [false] [c3A]) q8 fun a5U r7 =>
 oP E (xBin .add 3 (.tmp 9) (.tmp 13) b0x a5U) r7 fun e9U r9 =>
 oP E (xBin .gtr 3 (.tmp 14) (.const (vI 0)) e9U (vI 0)) r9 fun c3B t8 =>
 oP E (fA 179 v7 0) t8 fun e9V v6 =>
 oP E (fA 63 e9V 2) v6 fun c3C A9 =>
 oP E (lA 22 c3C) A9 fun c3D C7 =>
 oP E (xBuiltin .len #[22] 3 [false] [c3D]) C7 fun c3E D8 =>
 oP E (fA 179 v7 0) D8 fun c3F C3 =>
 oP E (fA 63 c3F 3) C3 fun b8j D1 =>
 oP E (lA 25 b8j) D1 fun c3G G3 =>
 oP E (xBuiltin .len #[25] 3 [false] [c3G]) G3 fun c3H D9 =>
 oP E (xV (Instr.build 227 #[(0, c3E), (1, c3H)])) D9 fun e9W E2 =>
 oP E (xV (Instr.alloc 227 true (.tuple #[]))) E2 fun b5f G9 =>
 oP E (sA 227 b5f e9W) G9 fun _z_43 G4 =>
 oP E (fA 179 v7 0) G4 fun e9X K5 =>
 oP E (fA 63 e9X 1) K5 fun e9Y L3 =>
 oP E (lA 9 e9Y) L3 fun e9Z J9 =>
 oP E (xBin .eql 9 (.tmp 27) (.const (eS)) e9Z (eS)) J9 fun b3Q E6 =>
 oP E (gsem (asB b3Q) true (xV (Op.unary .not (gval (asB b3Q) true c3B)))) E6 fun f0a N1 =>
 oP E (xPick b3Q f0a (vB false)) N1 fun f0b N2 =>
 oP E (fA 179 v7 0) N2 fun f0c L6 =>
 oP E (fA 63 f0c 0) L6 fun f0d P2 =>
 oP E (lA 3 f0d) P2 fun a8z L8 =>
 oP E (xBin .eql 3 (.tmp 35) (.const (vI 1)) a8z (vI 1)) L8 fun f0e N9 =>
 xcond f0e
 (oP E (xV (Op.unary .not c3B)) N9 fun b8k P3 =>
 oP E (gsem (asB b8k) true (lA 227 b5f)) P3 fun f0f O0 =>
 oP E (gsem (asB b8k) true (xV (Instr.build 227 #[(0, (vI 1)), (1, (vI 0))]))) O0 fun f0g M9 =>
 oP E (gsem (asB b8k) true (xBin .eql 227 (.tmp 41) (.tmp 42) f0f f0g)) M9 fun f0h O1 =>
 oP E (xPick b8k f0h (vB false)) O1 fun f0i R5 =>
 R f0i R5)
 (oP E (xBin .eql 3 (.tmp 35) (.const (vI 2)) a8z (vI 2)) N9 fun c3I T1 =>
 xcond c3I
 (oP E (xV (Op.unary .not c3B)) T1 fun b8l N3 =>
 oP E (gsem (asB b8l) true (lA 227 b5f)) N3 fun f0j T7 =>
 oP E (gsem (asB b8l) true (xV (Instr.build 227 #[(0, (vI 2)), (1, (vI 0))]))) T7 fun f0k P4 =>
 oP E (gsem (asB b8l) true (xBin .eql 227 (.tmp 50) (.tmp 51) f0j f0k)) P4 fun f0l Q2 =>
 oP E (xPick b8l f0l (vB false)) Q2 fun f0m T8 =>
 R f0m T8)
 (oP E (xBin .eql 3 (.tmp 35) (.const (vI 3)) a8z (vI 3)) T1 fun f0n N4 =>
 xcond f0n
 (oP E (fA 179 v7 0) N4 fun f0o a0d =>
 oP E (fA 63 f0o 1) a0d fun f0p a0J =>
 oP E (lA 9 f0p) a0J fun f0q a1k =>
 oP E (xBin .eql 9 (.tmp 58) (.const (eS)) f0q (eS)) a1k fun b8m a0K =>
 oP E (gsem (asB b8m) true (lA 227 b5f)) a0K fun f0r a0L =>
 oP E (gsem (asB b8m) true (xV (Instr.build 227 #[(0, (vI 0)), (1, (vI 1))]))) a0L fun f0s U9 =>
 oP E (gsem (asB b8m) true (xBin .eql 227 (.tmp 61) (.tmp 62) f0r f0s)) U9 fun e1y M6 =>
 oP E (xPick b8m e1y (vB false)) M6 fun e1z P8 =>
 R e1z P8)
 (oP E (xBin .eql 3 (.tmp 35) (.const (vI 4)) a8z (vI 4)) N4 fun e1A W2 =>
 xcond e1A
 (oP E (fA 179 v7 0) W2 fun e1B a1l =>
 oP E (fA 63 e1B 1) a1l fun e1C a3K =>
 oP E (lA 9 e1C) a3K fun e1D a0O =>
 oP E (xBin .eql 9 (.tmp 69) (.const (eS)) e1D (eS)) a0O fun a7X T2 =>
 oP E (gsem (asB a7X) true (fA 179 v7 0)) T2 fun e1E W3 =>
 oP E (gsem (asB a7X) true (fA 63 e1E 5)) W3 fun e1F a2b =>
 oP E (gsem (asB a7X) true (lA 42 e1F)) a2b fun e1G S0 =>
 oP E (gsem (asB a7X) true (xBuiltin .len #[42] 3 [false] [e1G])) S0 fun e1H a1m =>
 oP E (gsem (asB a7X) true (xBin .eql 3 (.tmp 75) (.const (vI 0)) e1H (vI 0))) a1m fun e1I a4V =>
 oP E (xPick a7X e1I (vB false)) a4V fun b5g a5V =>
 oP E (gsem (asB b5g) true (lA 227 b5f)) a5V fun e1J a4W =>
 oP E (gsem (asB b5g) true (xV (Instr.build 227 #[(0, (vI 0)), (1, (vI 1))]))) a4W fun e1K a5W =>
 oP E (gsem (asB b5g) true (xBin .eql 227 (.tmp 79) (.tmp 80) e1J e1K)) a5W fun e1L a2X =>
 oP E (xPick b5g e1L (vB false)) a2X fun e1M a2Y =>
 R e1M a2Y)
 (xcut (fun g0E b8n => b9Z b5f f0b a8z (nth g0E 0) b8n R E) fun j1 =>
 oP E (xBin .eql 3 (.tmp 35) (.const (vI 5)) a8z (vI 5)) W2 fun c7a b5h =>
 xcond c7a
 (j1 [c7a] b5h)
 (oP E (xBin .eql 3 (.tmp 35) (.const (vI 6)) a8z (vI 6)) b5h fun e1N b8o =>
 j1 [e1N] b8o)))))
noncomputable def f0t : Code := Tryd.f179.body.getD .skip
def f0u : Hint := (sQ (sQ (sQ (sQ (.seq (sQ (.block (sQ (.cond (sQ .none) (sQ (.cond (sQ .none) (sQ (.cond (sQ .none) (sQ (.cond (sQ .none) (.cut [83] (sQ (.cond .none .none)) (.cond (sQ .none) (sQ (.cond (sQ .none) .none)))))))))))))) (sQ .none))))))
theorem e1O (x0 : Value) (w : World) (R : RT) (E : Pan) : c8t x0 w R E = callX Tryd.prog [.tmp 2] f0t f0u [x0] w R E := by kernel_rfl
theorem e1P {x0 : Value} (h : c8t x0 w R E) : Cv Tryd.prog 179 #[x0] w R E := by
 refine i8 (args := [x0]) (c := f0t) (h := f0u) (rs := [.tmp 2]) Tryd.func179 (by kernel_rfl) (by kernel_rfl) (nB (by kernel_rfl)) (by kernel_rfl) (by kernel_rfl) (by kernel_rfl) ?_
 rw [← e1O]
 exact h
def c8u (x0 : Value) (w : World) (R : RT) (E : Pan) : Prop :=
 oP E (xV (Instr.box 179 x0)) w fun v7 w_2 =>
 dX w_2 fun w_3 =>
 qP Tryd.prog (fA 179 v7 0) fun b9C =>
 qP Tryd.prog (fA 63 b9C 3) fun a2j =>
 qP Tryd.prog (fA 179 v7 0) fun d4r =>
 qP Tryd.prog (fA 63 d4r 2) fun a2W =>
 qP Tryd.prog (fA 179 v7 0) fun g0F =>
 qP Tryd.prog (fA 63 g0F 4) fun b5i =>
 qP Tryd.prog (fA 179 v7 0) fun f0v =>
 qP Tryd.prog (fA 63 f0v 5) fun a5R =>
 qL Tryd.prog w_3 (blk a2j) (lA 25 a2j) fun g0G =>
 qL Tryd.prog w_3 (blk a2W) (lA 22 a2W) fun b1W =>
 qL Tryd.prog w_3 (blk b5i) (lA 42 b5i) fun f0w =>
 qL Tryd.prog w_3 (blk a5R) (lA 42 a5R) fun a2I =>
 oP E (xCall (fC 175) [g0G, (fC 176)]) w_3 fun g0H a2H =>
 keepX [(blk a5R), (blk b5i), (blk a2W)] w_3 a2H (opK Tryd.prog E (xCall (fC 171) [b1W, (fC 172)]) a2H fun f0x a2U =>
 keepX [(blk a5R), (blk b5i)] a2H a2U (opK Tryd.prog E (xCall (fC 90) [f0w, (fC 91)]) a2U fun f0y a2k =>
 keepX [(blk a5R)] a2U a2k (opK Tryd.prog E (xCall (fC 90) [a2I, (fC 91)]) a2k fun f0z a3F =>
 keepX [] a2k a3F (opK Tryd.prog E (xV (Instr.buildSlice 174 4 #[(0, g0H), (1, f0x), (2, f0y), (3, f0z)])) a3F fun f0A b1R =>
 keepX [] a3F b1R (opK Tryd.prog E (xCall (fC 87) [f0A]) b1R fun f0B a3N =>
 keepX [] b1R a3N (R f0B a3N))))))
noncomputable def f0C : Code := Tryd.f180.body.getD .skip
def f0D : Hint := (sQ (.seq (.reg [(0, 8, 2), (1, 16, 8), (2, 32, 16), (4, 64, 32), (0, 128, 2), (16, 256, 128), (32, 512, 256), (72, 1024, 512), (0, 2048, 2), (256, 4096, 2048), (512, 8192, 4096), (1152, 16384, 8192), (0, 32768, 2), (4096, 65536, 32768), (8192, 131072, 65536), (18432, 262144, 131072), (34952, 524288, 279616), (98304, 1048576, 524288), (262143, 4, 1048576)] [17476, 17476, 17472, 17472, 17476, 17476, 17412, 17408, 17476, 17476, 16452, 16384, 17476, 17476, 1092, 0, 0, 0, 17476] (.early 0 (.early 1 (.early 4 (.early 5 (.early 8 (.early 9 (.early 12 (.early 13 (.load 2 (.load 6 (.load 10 (.load 14 (.step 3 (.step 7 (.step 11 (.step 15 (.step 16 (.step 17 (.early 18 .done)))))))))))))))))))) .none))
theorem e1Q (x0 : Value) (w : World) (R : RT) (E : Pan) : c8u x0 w R E = callX Tryd.prog [.tmp 2] f0C f0D [x0] w R E := by kernel_rfl
theorem e1R {x0 : Value} (h : c8u x0 w R E) : Cv Tryd.prog 180 #[x0] w R E := by
 refine i8 (args := [x0]) (c := f0C) (h := f0D) (rs := [.tmp 2]) Tryd.func180 (by kernel_rfl) (by kernel_rfl) (nB (by kernel_rfl)) (by kernel_rfl) (by kernel_rfl) (by kernel_rfl) ?_
 rw [← e1Q]
 exact h
end Go.Proofs.YtnhkdkcgdcgmdaaDoor
