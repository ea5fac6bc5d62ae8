/- The second reading of some of the program's functions, printed by gen2.py off the code; each is held against the code by the kernel. -/
import Derived.Test.YtnhkdkcgdcgmdaaDoorProg
import Derived.Test.YtnhkdkcgdcgmdaaDoorzDK0
import Derived.KernelRfl
import Derived.Test.YtnhkdkcgdcgmdaaDoorzDGz
namespace Go.Proofs.YtnhkdkcgdcgmdaaDoor
open Go.RowKit
set_option maxRecDepth 100000
variable {w : World} {R : RT} {E : Pan}
def F52 (x0 : Value) (w : World) (R : RT) (E : Pan) : Prop :=
 oP E (xV (Instr.box 44 x0)) w fun s8 w_2 =>
 dX w_2 fun w_3 =>
 qP Tryd.prog (fA 44 s8 0) fun b8E =>
 qP Tryd.prog (fA 44 s8 1) fun a4p =>
 qL Tryd.prog w_3 (blk b8E) (lA 41 b8E) fun g1l =>
 qL Tryd.prog w_3 (blk a4p) (lA 42 a4p) fun a9x =>
 oP E (xCall (fC 88) [g1l, (fC 89)]) w_3 fun d2E w_9 =>
 keepX [(blk a4p)] w_3 w_9 (opK Tryd.prog E (xCall (fC 90) [a9x, (fC 91)]) w_9 fun f7S a0i =>
 keepX [] w_9 a0i (opK Tryd.prog E (xV (Instr.buildSlice 174 2 #[(0, d2E), (1, f7S)])) a0i fun f7T a0j =>
 keepX [] a0i a0j (opK Tryd.prog E (xCall (fC 87) [f7T]) a0j fun e4g b5v =>
 keepX [] a0j b5v (opK Tryd.prog E (xCall (fC 60) [e4g]) b5v fun b2z a1Y =>
 keepX [] b5v a1Y (R b2z a1Y)))))
noncomputable def c52 : Code := Tryd.f52.body.getD .skip
def h52 : Hint := (sQ (.seq (.reg [(0, 8, 2), (1, 16, 8), (2, 32, 16), (0, 64, 2), (8, 128, 64), (20, 256, 128), (36, 512, 288), (96, 1024, 512), (128, 2048, 1024), (511, 4, 2048)] [18, 16, 16, 18, 2, 0, 0, 0, 0, 18] (.early 0 (.early 3 (.load 1 (.load 4 (.step 2 (.step 5 (.step 6 (.step 7 (.step 8 (.early 9 .done))))))))))) .none))
theorem e4h (x0 : Value) (w : World) (R : RT) (E : Pan) : F52 x0 w R E = callX Tryd.prog [.tmp 2] c52 h52 [x0] w R E := by kernel_rfl
theorem e4i {x0 : Value} (h : F52 x0 w R E) : Cv Tryd.prog 52 #[x0] w R E := by
 refine g8 (args := [x0]) (c := c52) (h := h52) (rs := [.tmp 2]) Tryd.func52 (by kernel_rfl) (by kernel_rfl) (nB (by kernel_rfl)) (by kernel_rfl) (by kernel_rfl) (by kernel_rfl) ?_
 rw [← e4h]
 exact h
def F53 (x0 : Value) (w : World) (R : RT) (E : Pan) : Prop :=
 oP E (xV (Instr.box 44 x0)) w fun s8 w_2 =>
 oP E (lA 44 s8) w_2 fun a2R w_4 =>
 oP E (xCall (fC 52) [a2R]) w_4 fun a1C w_6 =>
 oP E (xNil a1C) w_6 fun a4q w_8 =>
 oP E (fA 106 a4q 2) w_8 fun b0T m4 =>
 oP E (lA 29 b0T) m4 fun a3y o0 =>
 R a3y o0
noncomputable def c53 : Code := Tryd.f53.body.getD .skip
def h53 : Hint := (sQ (sQ .none))
theorem e4j (x0 : Value) (w : World) (R : RT) (E : Pan) : F53 x0 w R E = callX Tryd.prog [.tmp 2] c53 h53 [x0] w R E := by kernel_rfl
theorem e4k {x0 : Value} (h : F53 x0 w R E) : Cv Tryd.prog 53 #[x0] w R E := by
 refine g8 (args := [x0]) (c := c53) (h := h53) (rs := [.tmp 2]) Tryd.func53 (by kernel_rfl) (by kernel_rfl) (nB (by kernel_rfl)) (by kernel_rfl) (by kernel_rfl) (by kernel_rfl) ?_
 rw [← e4j]
 exact h
def c1v (x3 : Value) (w : World) (R : RT) (E : Pan) : Prop :=
 ∀ _τ : Fr, (oP E (lA 102 x3) w fun e4l o8 =>
 R e4l o8)
def F60 (x0 : Value) (w : World) (R : RT) (E : Pan) : Prop :=
 oP E (xV (Instr.build 106 #[])) w fun b2A w_2 =>
 oP E (xV (Instr.box 106 b2A)) w_2 fun a7A w_4 =>
 oP E (xV (Instr.alloc 102 true (.tuple #[]))) w_4 fun b5w w_6 =>
 oP E (sA 102 b5w a7A) w_6 fun _z_7 w_8 =>
 oP E (xV (Instr.alloc 161 true (.tuple #[]))) w_8 fun d2F m4 =>
 oP E (xV (Instr.makeFunc (.func 99) #[] #[b5w, d2F])) m4 fun b6N o0 =>
 oP E (sA 161 d2F b6N) o0 fun _z_13 m8 =>
 xcut (fun _ p6 => c1v b5w p6 R E) fun j1 =>
 oP E (lA 161 d2F) m8 fun f7U p7 =>
 oP E (xCall f7U [x0, (vI 1)]) p7 fun e4m q9 =>
 oP E (xV (Op.unary .not e4m)) q9 fun c1w t8 =>
 xcond c1w
 (j1 [] t8)
 (oP E (lA 102 b5w) t8 fun e4n z8 =>
 oP E (xNil e4n) z8 fun e4o B9 =>
 oP E (fA 106 e4o 3) B9 fun b6O D3 =>
 oP E (lA 4 b6O) D3 fun e4p B4 =>
 xcond e4p
 (oP E (lA 102 b5w) B4 fun e4q C6 =>
 oP E (xNil e4q) C6 fun e4r E5 =>
 oP E (fA 106 e4r 2) E5 fun e4s D4 =>
 oP E (sA 29 e4s (vI 30)) D4 fun _z_39 D6 =>
 j1 [] D6)
 (oP E (lA 102 b5w) B4 fun e4t G0 =>
 oP E (xNil e4t) G0 fun b2B E7 =>
 oP E (fA 106 b2B 4) E7 fun e4u K7 =>
 oP E (lA 4 e4u) K7 fun e4v J0 =>
 xcond e4v
 (oP E (lA 102 b5w) J0 fun e4w F7 =>
 oP E (xNil e4w) F7 fun e4x E2 =>
 oP E (fA 106 e4x 2) E2 fun e4y L0 =>
 oP E (sA 29 e4y (vI 31)) L0 fun _z_55 L4 =>
 j1 [] L4)
 (j1 [] J0)))
noncomputable def c60 : Code := Tryd.f60.body.getD .skip
def h60 : Hint := (sQ (sQ (sQ (sQ (.cut [] (sQ (.block (sQ (.cond .none (sQ (.cond .none (sQ (.cond .none .none)))))))) (sQ .none))))))
theorem e4z (x0 : Value) (w : World) (R : RT) (E : Pan) : F60 x0 w R E = callX Tryd.prog [.tmp 2] c60 h60 [x0] w R E := by kernel_rfl
theorem e4A {x0 : Value} (h : F60 x0 w R E) : Cv Tryd.prog 60 #[x0] w R E := by
 refine g8 (args := [x0]) (c := c60) (h := h60) (rs := [.tmp 2]) Tryd.func60 (by kernel_rfl) (by kernel_rfl) (nB (by kernel_rfl)) (by kernel_rfl) (by kernel_rfl) (by kernel_rfl) ?_
 rw [← e4z]
 exact h
def c1x (x6 : Value) (w : World) (R : RT) (_E : Pan) : Prop :=
 ∀ _τ : Fr, (R x6 w)
def c9I (x6 x25 x26 x27 : Value) (w : World) (next3 : NT) (j2 : NT) (_R : RT) (E : Pan) : Prop :=
 oP E (xBin .lss 3 (.tmp 27) (.tmp 26) x27 x26) w fun f7V w_8 =>
 xcond f7V
 (oP E (iA 174 x25 x27) w_8 fun f7W m4 =>
 oP E (lA 124 f7W) m4 fun e4B o0 =>
 oP E (xBuiltin .append #[124, 124] 124 [false, false] [x6, e4B]) o0 fun b6P m8 =>
 oP E (xBin .add 3 (.tmp 27) (.const (vI 1)) x27 (vI 1)) m8 fun e4C o8 =>
 next3 [b6P, e4C] o8)
 (j2 [x6] w_8)
def c1y (x0 x3 : Value) (w : World) (R : RT) (E : Pan) : Prop :=
 ∀ _τ : Fr, (oP E (xCall (fC 117) [(nS), x3]) w fun f7X w_2 =>
 xcut (fun l_3 w_4 => c1x (nth l_3 0) w_4 R E) fun j2 =>
 oP E (xBuiltin .len #[174] 3 [false] [x0]) w_2 fun f7Y w_6 =>
 xloop [6, 27] [f7X, (vI 0)] w_6 fun τ_17 p6 next3 =>
 c9I (τ_17 6) x0 f7Y (τ_17 27) p6 next3 j2 R E)
def c1z (_x0 x3 _x9 _x10 x11 : Value) (w : World) (next4 : NT) (_R : RT) (E : Pan) : Prop :=
 ∀ _τ : Fr, (oP E (xBin .add 3 (.tmp 11) (.const (vI 1)) x11 (vI 1)) w fun b2C z8 =>
 next4 [x3, b2C] z8)
def c9J (x0 x3 x9 x10 x11 : Value) (w : World) (next4 : NT) (j1 : NT) (R : RT) (E : Pan) : Prop :=
 oP E (xBin .lss 3 (.tmp 11) (.tmp 10) x11 x10) w fun e4D t8 =>
 xcond e4D
 (xcut (fun d2G B9 => c1z x0 (nth d2G 0) x9 x10 x11 B9 next4 R E) fun j5 =>
 oP E (iA 174 x9 x11) t8 fun e4E D3 =>
 oP E (lA 124 e4E) D3 fun e4F B4 =>
 oP E (xBuiltin .len #[124] 3 [false] [e4F]) B4 fun c1A C6 =>
 oP E (xBin .add 3 (.tmp 15) (.tmp 17) x3 c1A) C6 fun b2D E5 =>
 oP E (xBin .lss 3 (.tmp 19) (.const (vI 0)) b2D (vI 0)) E5 fun c1B D4 =>
 xcond c1B
 (oP E (xV (Instr.makeInterface 9 (Value.string ⟨#[108, 101, 110, 32, 111, 117, 116, 32, 111, 102, 32, 114, 97, 110, 103, 101]⟩))) D4 fun b6Q D6 =>
 oP E (xV (Instr.panic b6Q)) D6 fun _z_41 G0 =>
 j5 [b2D] G0)
 (j5 [b2D] D4))
 (j1 [x3] t8)
def F87 (x0 : Value) (w : World) (R : RT) (E : Pan) : Prop :=
 xcut (fun a2S p7 => c1y x0 (nth a2S 0) p7 R E) fun j1 =>
 oP E (xBuiltin .len #[174] 3 [false] [x0]) w fun e4G q9 =>
 xloop [3, 11] [(vI 0), (vI 0)] q9 fun τ_43 E7 next4 =>
 c9J x0 (τ_43 3) x0 e4G (τ_43 11) E7 next4 j1 R E
noncomputable def c87 : Code := Tryd.f87.body.getD .skip
def h87 : Hint := (sQ (sQ (.cut [3] (sQ (.block (.loop [3, 11] (sQ (.seq (.cond .none .none) (.cut [3] (.block (sQ (sQ (sQ (.cond .none .none))))) .none)))))) (sQ (.cut [6] (sQ (.block (.loop [6, 27] (sQ (.seq (.cond .none .none) (.seq (.block (sQ .none)) .none)))))) (sQ .none))))))
theorem e4H (x0 : Value) (w : World) (R : RT) (E : Pan) : F87 x0 w R E = callX Tryd.prog [.tmp 2] c87 h87 [x0] w R E := by kernel_rfl
theorem e4I {x0 : Value} (h : F87 x0 w R E) : Cv Tryd.prog 87 #[x0] w R E := by
 refine g8 (args := [x0]) (c := c87) (h := h87) (rs := [.tmp 2]) Tryd.func87 (by kernel_rfl) (by kernel_rfl) (nB (by kernel_rfl)) (by kernel_rfl) (by kernel_rfl) (by kernel_rfl) ?_
 rw [← e4H]
 exact h
def c1C (x5 : Value) (w : World) (R : RT) (_E : Pan) : Prop :=
 ∀ _τ : Fr, (R x5 w)
def c9K (x1 x5 x8 x9 x10 : Value) (w : World) (next2 : NT) (j1 : NT) (_R : RT) (E : Pan) : Prop :=
 oP E (xBin .lss 3 (.tmp 10) (.tmp 9) x10 x9) w fun a5c w_6 =>
 xcond a5c
 (oP E (iA 41 x8 x10) w_6 fun a6W w_8 =>
 oP E (lA 58 a6W) w_8 fun a6X m4 =>
 oP E (xV (Instr.alloc 58 true (.tuple #[]))) m4 fun a3y o0 =>
 oP E (sA 58 a3y a6X) o0 fun _z_13 m8 =>
 oP E (lA 58 a3y) m8 fun a7B o8 =>
 oP E (xCall x1 [a7B]) o8 fun a5d p6 =>
 oP E (xV (Instr.buildSlice 124 1 #[(0, a5d)])) p6 fun a7C p7 =>
 oP E (xBuiltin .append #[124, 124] 124 [false, false] [x5, a7C]) p7 fun a5e q9 =>
 oP E (xBin .add 3 (.tmp 10) (.const (vI 1)) x10 (vI 1)) q9 fun a5f t8 =>
 next2 [a5e, a5f] t8)
 (j1 [x5] w_6)
def F88 (x0 x1 : Value) (w : World) (R : RT) (E : Pan) : Prop :=
 xcut (fun l_1 w_2 => c1C (nth l_1 0) w_2 R E) fun j1 =>
 oP E (xBuiltin .len #[41] 3 [false] [x0]) w fun a2o w_4 =>
 xloop [5, 10] [(nS), (vI 0)] w_4 fun τ_25 z8 next2 =>
 c9K x1 (τ_25 5) x0 a2o (τ_25 10) z8 next2 j1 R E
noncomputable def c88 : Code := Tryd.f88.body.getD .skip
def h88 : Hint := (sQ (sQ (.cut [5] (sQ (.block (.loop [5, 10] (sQ (.seq (.cond .none .none) (.seq (.block (sQ .none)) .none)))))) (sQ .none))))
theorem e4J (x0 x1 : Value) (w : World) (R : RT) (E : Pan) : F88 x0 x1 w R E = callX Tryd.prog [.tmp 4] c88 h88 [x0, x1] w R E := by kernel_rfl
theorem e4K {x0 x1 : Value} (h : F88 x0 x1 w R E) : Cv Tryd.prog 88 #[x0, x1] w R E := by
 refine g8 (args := [x0, x1]) (c := c88) (h := h88) (rs := [.tmp 4]) Tryd.func88 (by kernel_rfl) (by kernel_rfl) (nB (by kernel_rfl)) (by kernel_rfl) (by kernel_rfl) (by kernel_rfl) ?_
 rw [← e4J]
 exact h
def F89 (x0 : Value) (w : World) (R : RT) (E : Pan) : Prop :=
 oP E (xV (Instr.box 58 x0)) w fun s8 w_2 =>
 oP E (lA 58 s8) w_2 fun a2R w_4 =>
 oP E (xV (Instr.build 177 #[(0, a2R)])) w_4 fun a1C w_6 =>
 oP E (xV (Instr.makeInterface 177 a1C)) w_6 fun a4q w_8 =>
 R a4q w_8
noncomputable def c89 : Code := Tryd.f89.body.getD .skip
def h89 : Hint := (sQ (sQ .none))
theorem e4L (x0 : Value) (w : World) (R : RT) (E : Pan) : F89 x0 w R E = callX Tryd.prog [.tmp 2] c89 h89 [x0] w R E := by kernel_rfl
theorem e4M {x0 : Value} (h : F89 x0 w R E) : Cv Tryd.prog 89 #[x0] w R E := by
 refine g8 (args := [x0]) (c := c89) (h := h89) (rs := [.tmp 2]) Tryd.func89 (by kernel_rfl) (by kernel_rfl) (nB (by kernel_rfl)) (by kernel_rfl) (by kernel_rfl) (by kernel_rfl) ?_
 rw [← e4L]
 exact h
def c1D (x5 : Value) (w : World) (R : RT) (_E : Pan) : Prop :=
 ∀ _τ : Fr, (R x5 w)
def c9L (x1 x5 x8 x9 x10 : Value) (w : World) (next2 : NT) (j1 : NT) (_R : RT) (E : Pan) : Prop :=
 oP E (xBin .lss 3 (.tmp 10) (.tmp 9) x10 x9) w fun a5c w_6 =>
 xcond a5c
 (oP E (iA 42 x8 x10) w_6 fun a6W w_8 =>
 oP E (lA 63 a6W) w_8 fun a6X m4 =>
 oP E (xV (Instr.alloc 63 true (.tuple #[]))) m4 fun a3y o0 =>
 oP E (sA 63 a3y a6X) o0 fun _z_13 m8 =>
 oP E (lA 63 a3y) m8 fun a7B o8 =>
 oP E (xCall x1 [a7B]) o8 fun a5d p6 =>
 oP E (xV (Instr.buildSlice 124 1 #[(0, a5d)])) p6 fun a7C p7 =>
 oP E (xBuiltin .append #[124, 124] 124 [false, false] [x5, a7C]) p7 fun a5e q9 =>
 oP E (xBin .add 3 (.tmp 10) (.const (vI 1)) x10 (vI 1)) q9 fun a5f t8 =>
 next2 [a5e, a5f] t8)
 (j1 [x5] w_6)
def F90 (x0 x1 : Value) (w : World) (R : RT) (E : Pan) : Prop :=
 xcut (fun l_1 w_2 => c1D (nth l_1 0) w_2 R E) fun j1 =>
 oP E (xBuiltin .len #[42] 3 [false] [x0]) w fun a2o w_4 =>
 xloop [5, 10] [(nS), (vI 0)] w_4 fun τ_25 z8 next2 =>
 c9L x1 (τ_25 5) x0 a2o (τ_25 10) z8 next2 j1 R E
noncomputable def c90 : Code := Tryd.f90.body.getD .skip
def h90 : Hint := (sQ (sQ (.cut [5] (sQ (.block (.loop [5, 10] (sQ (.seq (.cond .none .none) (.seq (.block (sQ .none)) .none)))))) (sQ .none))))
theorem e4N (x0 x1 : Value) (w : World) (R : RT) (E : Pan) : F90 x0 x1 w R E = callX Tryd.prog [.tmp 4] c90 h90 [x0, x1] w R E := by kernel_rfl
theorem e4O {x0 x1 : Value} (h : F90 x0 x1 w R E) : Cv Tryd.prog 90 #[x0, x1] w R E := by
 refine g8 (args := [x0, x1]) (c := c90) (h := h90) (rs := [.tmp 4]) Tryd.func90 (by kernel_rfl) (by kernel_rfl) (nB (by kernel_rfl)) (by kernel_rfl) (by kernel_rfl) (by kernel_rfl) ?_
 rw [← e4N]
 exact h
def F91 (x0 : Value) (w : World) (R : RT) (E : Pan) : Prop :=
 oP E (xV (Instr.box 63 x0)) w fun s8 w_2 =>
 oP E (lA 63 s8) w_2 fun a2R w_4 =>
 oP E (xV (Instr.build 179 #[(0, a2R)])) w_4 fun a1C w_6 =>
 oP E (xV (Instr.makeInterface 179 a1C)) w_6 fun a4q w_8 =>
 R a4q w_8
noncomputable def c91 : Code := Tryd.f91.body.getD .skip
def h91 : Hint := (sQ (sQ .none))
theorem e4P (x0 : Value) (w : World) (R : RT) (E : Pan) : F91 x0 w R E = callX Tryd.prog [.tmp 2] c91 h91 [x0] w R E := by kernel_rfl
theorem e4Q {x0 : Value} (h : F91 x0 w R E) : Cv Tryd.prog 91 #[x0] w R E := by
 refine g8 (args := [x0]) (c := c91) (h := h91) (rs := [.tmp 2]) Tryd.func91 (by kernel_rfl) (by kernel_rfl) (nB (by kernel_rfl)) (by kernel_rfl) (by kernel_rfl) (by kernel_rfl) ?_
 rw [← e4P]
 exact h
def c1E (w : World) (R : RT) (_E : Pan) : Prop :=
 ∀ _τ : Fr, (R (vB true) w)
def c9M (x1 x2 x3 x9 x10 x11 : Value) (w : World) (next2 : NT) (j1 : NT) (R : RT) (E : Pan) : Prop :=
 oP E (xBin .lss 3 (.tmp 11) (.tmp 10) x11 x10) w fun a5g w_6 =>
 xcond a5g
 (oP E (iA 124 x9 x11) w_6 fun a5h w_8 =>
 oP E (lA 152 a5h) w_8 fun a3z m4 =>
 dX m4 fun a0i =>
 qL Tryd.prog a0i (blk x2) (lA 102 x2) fun e4R =>
 oP E (xCall (fC 100) [e4R, a3z, x1]) a0i fun a7D m8 =>
 keepX [] a0i m8 (qP Tryd.prog (xV (Op.unary .not a7D)) fun a2O =>
 qP Tryd.prog (gsem (asB a2O) false (xBin .add 3 (.tmp 24) (.const (vI 1)) (gval (asB a2O) false x1) (vI 1))) fun e4S =>
 qL Tryd.prog m8 (blk x3) (gsem (asB a2O) false (lA 161 x3)) fun a9Z =>
 oP E (gsem (asB a2O) false (xInvoke (gval (asB a2O) false a3z) "gnomon/tree.parts" [])) m8 fun e4T a2T =>
 keepX [(blk x3)] m8 a2T (opK Tryd.prog E (gsem (asB a2O) false (xCall a9Z [e4T, e4S])) a2T fun e4U a1D =>
 keepX [] a2T a1D (qP Tryd.prog (gsem (asB a2O) false (xV (Op.unary .not e4U))) fun e4V =>
 qP Tryd.prog (xPick a2O (vB true) e4V) fun c1F =>
 xcond c1F
 (R (vB false) a1D)
 (oP E (xBin .add 3 (.tmp 11) (.const (vI 1)) x11 (vI 1)) a1D fun e4W b0U =>
 next2 [e4W] b0U)))))
 (j1 [] w_6)
def F99 (x0 x1 x2 x3 : Value) (w : World) (R : RT) (E : Pan) : Prop :=
 xcut (fun _ w_2 => c1E w_2 R E) fun j1 =>
 oP E (xBuiltin .len #[124] 3 [false] [x0]) w fun b0V w_4 =>
 xloop [11] [(vI 0)] w_4 fun τ_26 a2U next2 =>
 c9M x1 x2 x3 x0 b0V (τ_26 11) a2U next2 j1 R E
noncomputable def c99 : Code := Tryd.f99.body.getD .skip
def h99 : Hint := (sQ (.cut [] (sQ (.block (.loop [11] (sQ (.seq (.cond .none .none) (.seq (.block (sQ (.seq (.reg [(0, 32768, 4), (0, 65536, 256), (0, 131072, 2), (7, 262144, 229376), (8, 524288, 262144), (24, 1048576, 524288), (32, 2097152, 1048584), (32, 4194304, 1048832), (160, 8388608, 5242880), (32, 16777216, 1048578), (544, 33554432, 17825792), (1376, 67108864, 45088768), (2080, 134217728, 68157440), (4128, 268435456, 135266304)] [64, 65, 65, 0, 65, 65, 1, 65, 64, 65, 65, 0, 65, 65] (.early 1 (.early 2 (.load 0 (.step 3 (.early 4 (.early 5 (.early 7 (.early 9 (.early 10 (.load 6 (.step 8 (.step 11 (.early 12 (.early 13 .done))))))))))))))) (.cond (sQ .none) .none)))) .none)))))) (sQ .none)))
theorem e4X (x0 x1 x2 x3 : Value) (w : World) (R : RT) (E : Pan) : F99 x0 x1 x2 x3 w R E = callX Tryd.prog [.tmp 6] c99 h99 [x0, x1, x2, x3] w R E := by kernel_rfl
theorem e4Y {x0 x1 x2 x3 : Value} (h : F99 x0 x1 x2 x3 w R E) : Cv Tryd.prog 99 #[x0, x1, x2, x3] w R E := by
 refine g8 (args := [x0, x1, x2, x3]) (c := c99) (h := h99) (rs := [.tmp 6]) Tryd.func99 (by kernel_rfl) (by kernel_rfl) (nB (by kernel_rfl)) (by kernel_rfl) (by kernel_rfl) (by kernel_rfl) ?_
 rw [← e4X]
 exact h
def b8F (w : World) (R : RT) (_E : Pan) : Prop :=
 ∀ _τ : Fr, (R (vB true) w)
def c6C (x0 x1 x2 : Value) (w : World) (R : RT) (E : Pan) : Prop :=
 oP E (xNil x0) w fun b4j w_2 =>
 oP E (fA 106 b4j 0) w_2 fun a0x w_4 =>
 oP E (lA 3 a0x) w_4 fun a5g w_6 =>
 oP E (xBin .add 3 (.tmp 12) (.const (vI 1)) a5g (vI 1)) w_6 fun a5h w_8 =>
 oP E (xNil x0) w_8 fun a3z m4 =>
 oP E (fA 106 a3z 0) m4 fun a5i o0 =>
 oP E (sA 3 a5i a5h) o0 fun _z_13 m8 =>
 oP E (xNil x0) m8 fun a1Z o8 =>
 oP E (fA 106 a1Z 0) o8 fun b2E p6 =>
 oP E (lA 3 b2E) p6 fun c1G p7 =>
 oP E (xBin .gtr 3 (.tmp 19) (.const (vI 4096)) c1G (vI 4096)) p7 fun c1H q9 =>
 xcond c1H
 (oP E (xNil x0) q9 fun b6R t8 =>
 oP E (fA 106 b6R 2) t8 fun c1I z8 =>
 oP E (sA 29 c1I (vI 33)) z8 fun _z_27 B9 =>
 R (vB false) B9)
 (oP E (xBin .gtr 3 (.tmp 24) (.const (vI 64)) x2 (vI 64)) q9 fun e4Z D3 =>
 xcond e4Z
 (oP E (xNil x0) D3 fun e5a B4 =>
 oP E (fA 106 e5a 2) B4 fun c1J C6 =>
 oP E (sA 29 c1J (vI 32)) C6 fun _z_35 E5 =>
 R (vB false) E5)
 (oP E (xNil x0) D3 fun e5b D4 =>
 oP E (fA 106 e5b 1) D4 fun e5c D6 =>
 oP E (lA 3 e5c) D6 fun e5d G0 =>
 oP E (xBuiltin .max #[3, 3] 3 [false, false] [e5d, x2]) G0 fun e5e E7 =>
 oP E (xNil x0) E7 fun e5f K7 =>
 oP E (fA 106 e5f 1) K7 fun c1K J0 =>
 oP E (sA 3 c1K e5e) J0 fun _z_49 F7 =>
 oP E (xNil x0) F7 fun c1L E2 =>
 oP E (fA 106 c1L 3) E2 fun e5g L0 =>
 oP E (lA 4 e5g) L0 fun b6S L4 =>
 oP E (gsem (asB b6S) false (xInvoke (gval (asB b6S) false x1) "gnomon/tree.form" [])) L4 fun e5h L1 =>
 oP E (gsem (asB b6S) false (xV (Op.unary .not e5h))) L1 fun e5i N8 =>
 oP E (xPick b6S (vB true) e5i) N8 fun e5j L5 =>
 oP E (xNil x0) L5 fun e5k M4 =>
 oP E (fA 106 e5k 3) M4 fun e5l N9 =>
 oP E (sA 4 e5l e5j) N9 fun _z_67 O0 =>
 xcut (fun _ L2 => b8F L2 R E) fun j1 =>
 oP E (xCall (fC 118) [x1]) O0 fun c9N O4 =>
 oP E (eX c9N 0) O4 fun b2F O5 =>
 oP E (eX c9N 1) O5 fun c1M Q7 =>
 xcond c1M
 (oP E (xNil x0) Q7 fun e5m N0 =>
 oP E (fA 106 e5m 4) N0 fun e5n R8 =>
 oP E (lA 4 e5n) R8 fun a7E P9 =>
 oP E (gsem (asB a7E) false (xCall (fC 119) [(gval (asB a7E) false b2F)])) P9 fun e5o O6 =>
 oP E (gsem (asB a7E) false (xV (Op.unary .not e5o))) O6 fun e5p R9 =>
 oP E (xPick a7E (vB true) e5p) R9 fun e5q M5 =>
 oP E (xNil x0) M5 fun e5r X6 =>
 oP E (fA 106 e5r 4) X6 fun e5s a0Q =>
 oP E (sA 4 e5s e5q) a0Q fun _z_93 a0y =>
 oP E (xNil x0) a0y fun c1N a0e =>
 oP E (fA 106 c1N 5) a0e fun b2G a0k =>
 oP E (lA 104 b2G) a0k fun c1O T0 =>
 oP E (xCall (fC 120) [c1O, b2F]) T0 fun b8G N2 =>
 oP E (xV (Op.unary .not b8G)) N2 fun b8H O1 =>
 xcond b8H
 (oP E (xNil x0) O1 fun d8A U1 =>
 oP E (fA 106 d8A 5) U1 fun d8B a1u =>
 oP E (lA 104 d8B) a1u fun d8C a2Y =>
 oP E (xV (Instr.buildSlice 104 1 #[(0, b2F)])) a2Y fun d8D a1v =>
 oP E (xBuiltin .append #[104, 104] 104 [false, false] [d8C, d8D]) a1v fun d8E Q8 =>
 oP E (xNil x0) Q8 fun d8F U2 =>
 oP E (fA 106 d8F 5) U2 fun d8G a2p =>
 oP E (sA 104 d8G d8E) a2p fun _z_119 Q0 =>
 j1 [] Q0)
 (j1 [] O1))
 (j1 [] Q7)))
noncomputable def e5t : Code := Tryd.f100.body.getD .skip
def e5u : Hint := (sQ (.seq (sQ (sQ (.cond (sQ (sQ .none)) .none))) (.seq (sQ (.cond (sQ (sQ .none)) .none)) (sQ (sQ (.cut [] (sQ (sQ (.cond (sQ (sQ (.cond .none .none))) .none))) (sQ .none)))))))
theorem d8H (x0 x1 x2 : Value) (w : World) (R : RT) (E : Pan) : c6C x0 x1 x2 w R E = callX Tryd.prog [.tmp 6] e5t e5u [x0, x1, x2] w R E := by kernel_rfl
theorem d8I {x0 x1 x2 : Value} (h : c6C x0 x1 x2 w R E) : Cv Tryd.prog 100 #[x0, x1, x2] w R E := by
 refine g8 (args := [x0, x1, x2]) (c := e5t) (h := e5u) (rs := [.tmp 6]) Tryd.func100 (by kernel_rfl) (by kernel_rfl) (nB (by kernel_rfl)) (by kernel_rfl) (by kernel_rfl) (by kernel_rfl) ?_
 rw [← d8H]
 exact h
def b8I (x0 : Value) (w : World) (R : RT) (_E : Pan) : Prop :=
 ∀ _τ : Fr, (R x0 w)
def c5C (x0 x1 : Value) (w : World) (R : RT) (E : Pan) : Prop :=
 ∀ _τ : Fr, (xcut (fun l_1 w_2 => b8I (nth l_1 0) w_2 R E) fun j2 =>
 oP E (xBuiltin .cap #[124] 3 [false] [x0]) w fun b0V w_4 =>
 oP E (xBuiltin .len #[124] 3 [false] [x0]) w_4 fun a5g w_6 =>
 oP E (xBin .sub 3 (.tmp 10) (.tmp 12) b0V a5g) w_6 fun a5h w_8 =>
 oP E (xBin .sub 3 (.tmp 8) (.tmp 13) x1 a5h) w_8 fun a3z m4 =>
 oP E (xBin .gtr 3 (.tmp 15) (.const (vI 0)) a3z (vI 0)) m4 fun a5j o0 =>
 xcond a5j
 (oP E (xBuiltin .cap #[124] 3 [false] [x0]) o0 fun a7F m8 =>
 oP E (xV (Instr.sliceAt 124 x0 none (some a7F) none)) m8 fun c1P o8 =>
 oP E (xBuiltin .append #[124, 3] 124 [false, false] [c1P, a3z]) o8 fun c1Q p6 =>
 oP E (xBuiltin .len #[124] 3 [false] [x0]) p6 fun c1R p7 =>
 oP E (xV (Instr.sliceAt 124 c1Q none (some c1R) none)) p7 fun b2H q9 =>
 j2 [b2H] q9)
 (j2 [x0] o0))
def d2H (x0 x1 : Value) (w : World) (R : RT) (E : Pan) : Prop :=
 xcut (fun _ t8 => c5C x0 x1 t8 R E) fun j1 =>
 oP E (xBin .lss 3 (.tmp 5) (.const (vI 0)) x1 (vI 0)) w fun f7Z z8 =>
 xcond f7Z
 (oP E (xV (Instr.makeInterface 9 (Value.string ⟨#[99, 97, 110, 110, 111, 116, 32, 98, 101, 32, 110, 101, 103, 97, 116, 105, 118, 101]⟩))) z8 fun f8a B9 =>
 oP E (xV (Instr.panic f8a)) B9 fun _z_29 D3 =>
 j1 [] D3)
 (j1 [] z8)
noncomputable def e5v : Code := Tryd.f117.body.getD .skip
def e5w : Hint := (sQ (.cut [] (sQ (.cond .none .none)) (.cut [0] (sQ (sQ (.cond .none .none))) (sQ .none))))
theorem d8J (x0 x1 : Value) (w : World) (R : RT) (E : Pan) : d2H x0 x1 w R E = callX Tryd.prog [.tmp 4] e5v e5w [x0, x1] w R E := by kernel_rfl
theorem d8K {x0 x1 : Value} (h : d2H x0 x1 w R E) : Cv Tryd.prog 117 #[x0, x1] w R E := by
 refine g8 (args := [x0, x1]) (c := e5v) (h := e5w) (rs := [.tmp 4]) Tryd.func117 (by kernel_rfl) (by kernel_rfl) (nB (by kernel_rfl)) (by kernel_rfl) (by kernel_rfl) (by kernel_rfl) ?_
 rw [← d8J]
 exact h
def c6D (x0 : Value) (w : World) (R : RT) (E : Pan) : Prop :=
 oP E (xV (Instr.typeAssert x0 152 177 true)) w fun a9y w_2 =>
 oP E (eX a9y 1) w_2 fun a2o w_4 =>
 oP E (eX a9y 0) w_4 fun a0V w_6 =>
 xcond a2o
 (oP E (xV (Instr.alloc 177 true (.tuple #[]))) w_6 fun e5x w_8 =>
 oP E (sA 177 e5x a0V) w_8 fun _z_9 m4 =>
 oP E (fA 177 e5x 0) m4 fun a6n o0 =>
 oP E (fA 58 a6n 0) o0 fun a6o m8 =>
 oP E (lA 9 a6o) m8 fun a7G o8 =>
 R (Value.tuple #[a7G, (vB true)]) o8)
 (oP E (xV (Instr.typeAssert x0 152 179 true)) w_6 fun b6T p6 =>
 oP E (eX b6T 1) p6 fun a7H p7 =>
 oP E (eX b6T 0) p7 fun b2I q9 =>
 xcond a7H
 (oP E (xV (Instr.alloc 179 true (.tuple #[]))) q9 fun c0E t8 =>
 oP E (sA 179 c0E b2I) t8 fun _z_25 z8 =>
 dX z8 fun a2U =>
 qP Tryd.prog (fA 179 c0E 0) fun e5y =>
 qP Tryd.prog (fA 63 e5y 1) fun b6O =>
 qP Tryd.prog (fA 179 c0E 0) fun e5z =>
 qP Tryd.prog (fA 63 e5z 0) fun b6U =>
 qL Tryd.prog a2U (blk b6O) (lA 9 b6O) fun e5A =>
 qL Tryd.prog a2U (blk b6U) (lA 3 b6U) fun c1S =>
 qP Tryd.prog (xBin .eql 3 (.tmp 22) (.const (vI 1)) c1S (vI 1)) fun b2J =>
 qP Tryd.prog (gsem (asB b2J) false (fA 179 c0E 0)) fun e5B =>
 qP Tryd.prog (gsem (asB b2J) false (fA 63 e5B 0)) fun c9O =>
 qL Tryd.prog a2U (blk c9O) (gsem (asB b2J) false (lA 3 c9O)) fun e5C =>
 qP Tryd.prog (gsem (asB b2J) false (xBin .eql 3 (.tmp 27) (.const (vI 2)) e5C (vI 2))) fun e5D =>
 qP Tryd.prog (xPick b2J (vB true) e5D) fun b2K =>
 R (Value.tuple #[e5A, b2K]) a2U)
 (oP E (xV (Instr.typeAssert x0 152 123 true)) q9 fun c9P b8J =>
 oP E (eX c9P 1) b8J fun b6V b5x =>
 oP E (eX c9P 0) b5x fun e5E a7I =>
 xcond b6V
 (oP E (xV (Instr.alloc 123 true (.tuple #[]))) a7I fun c0F b8K =>
 oP E (sA 123 c0F e5E) b8K fun _z_48 b0W =>
 dX b0W fun F7 =>
 qP Tryd.prog (fA 123 c0F 0) fun e5F =>
 qP Tryd.prog (fA 24 e5F 2) fun c9Q =>
 qP Tryd.prog (fA 123 c0F 0) fun c1T =>
 qP Tryd.prog (fA 24 c1T 0) fun c9R =>
 qL Tryd.prog F7 (blk c9Q) (lA 9 c9Q) fun e5G =>
 qL Tryd.prog F7 (blk c9R) (lA 3 c9R) fun e5H =>
 qP Tryd.prog (xBin .eql 3 (.tmp 38) (.const (vI 2)) e5H (vI 2)) fun b2L =>
 qP Tryd.prog (gsem (asB b2L) false (fA 123 c0F 0)) fun e5I =>
 qP Tryd.prog (gsem (asB b2L) false (fA 24 e5I 0)) fun c9S =>
 qL Tryd.prog F7 (blk c9S) (gsem (asB b2L) false (lA 3 c9S)) fun e5J =>
 qP Tryd.prog (gsem (asB b2L) false (xBin .eql 3 (.tmp 43) (.const (vI 4)) e5J (vI 4))) fun e5K =>
 qP Tryd.prog (xPick b2L (vB true) e5K) fun e5L =>
 R (Value.tuple #[e5G, e5L]) F7)
 (R (Value.tuple #[(eS), (vB false)]) a7I)))
noncomputable def e5M : Code := Tryd.f118.body.getD .skip
def e5N : Hint := (sQ (.seq (sQ (.block (sQ (.cond (sQ (sQ .none)) (sQ (.cond (sQ (.seq (.reg [(0, 131072, 32), (1, 262144, 131072), (2, 524288, 262144), (0, 1048576, 32), (8, 2097152, 1048576), (16, 4194304, 2097152), (32, 8388608, 4194304), (64, 16777216, 8388608), (128, 33554432, 16777248), (384, 67108864, 50331648), (640, 134217728, 83886080), (1152, 268435456, 150994944), (2176, 536870912, 285212672), (135, 4, 524288), (16383, 8, 536870912)] [1060, 1060, 1056, 1060, 1060, 1028, 1060, 1060, 1060, 1060, 36, 1060, 1060, 1060, 1060] (.early 0 (.early 1 (.early 3 (.early 4 (.load 2 (.load 5 (.early 6 (.early 7 (.early 8 (.early 9 (.early 13 (.load 10 (.early 11 (.early 12 (.early 14 .done)))))))))))))))) .none)) (sQ (.cond (sQ (.seq (.reg [(0, 8589934592, 64), (1, 17179869184, 8589934592), (2, 34359738368, 17179869184), (0, 68719476736, 64), (8, 137438953472, 68719476736), (16, 274877906944, 137438953472), (32, 549755813888, 274877906944), (64, 1099511627776, 549755813888), (128, 2199023255552, 1099511627840), (384, 4398046511104, 3298534883328), (640, 8796093022208, 5497558138880), (1152, 17592186044416, 9895604649984), (2176, 35184372088832, 18691697672192), (135, 4, 34359738368), (16383, 8, 35184372088832)] [1060, 1060, 1056, 1060, 1060, 1028, 1060, 1060, 1060, 1060, 36, 1060, 1060, 1060, 1060] (.early 0 (.early 1 (.early 3 (.early 4 (.load 2 (.load 5 (.early 6 (.early 7 (.early 8 (.early 9 (.early 13 (.load 10 (.early 11 (.early 12 (.early 14 .done)))))))))))))))) .none)) .none)))))))) (sQ .none)))
theorem d8L (x0 : Value) (w : World) (R : RT) (E : Pan) : c6D x0 w R E = callX Tryd.prog [.tmp 2, .tmp 3] e5M e5N [x0] w R E := by kernel_rfl
theorem d8M {x0 : Value} (h : c6D x0 w R E) : Cv Tryd.prog 118 #[x0] w R E := by
 refine g8 (args := [x0]) (c := e5M) (h := e5N) (rs := [.tmp 2, .tmp 3]) Tryd.func118 (by kernel_rfl) (by kernel_rfl) (nB (by kernel_rfl)) (by kernel_rfl) (by kernel_rfl) (by kernel_rfl) ?_
 rw [← d8L]
 exact h
def b8L (w : World) (R : RT) (_E : Pan) : Prop :=
 ∀ _τ : Fr, (R (vB true) w)
def c5D (x21 : Value) (w : World) (next2 : NT) (j1 : NT) (R : RT) (E : Pan) : Prop :=
 oP E (xV (Instr.next x21 true 0)) w fun c1U q9 =>
 oP E (eX c1U 0) q9 fun e5O t8 =>
 xcond e5O
 (oP E (eX c1U 1) t8 fun e5P z8 =>
 oP E (eX c1U 2) z8 fun c9T B9 =>
 oP E (xCall (fC 140) [c9T]) B9 fun e5Q D3 =>
 oP E (xV (Op.unary .not e5Q)) D3 fun a6p B4 =>
 oP E (gsem (asB a6p) false (xBin .eql 3 (.tmp 30) (.const (vI 0)) (gval (asB a6p) false e5P) (vI 0))) B4 fun b6W C6 =>
 oP E (gsem (asB (gval (asB a6p) false b6W)) true (xCall (fC 141) [(gval (asB (gval (asB a6p) false b6W)) true c9T)])) C6 fun e5R E5 =>
 oP E (gsem (asB (gval (asB a6p) false b6W)) true (xBin .neq 3 (.tmp 34) (.const (vI 3)) e5R (vI 3))) E5 fun e5S D4 =>
 oP E (gsem (asB a6p) false (xPick (gval (asB a6p) false b6W) e5S (vB false))) D4 fun e5T D6 =>
 oP E (xPick a6p (vB true) e5T) D6 fun e5U G0 =>
 xcond e5U
 (R (vB false) G0)
 (next2 [] G0))
 (j1 [] t8)
def c6E (x0 : Value) (w : World) (R : RT) (E : Pan) : Prop :=
 oP E (xBin .eql 9 (.tmp 5) (.const (eS)) x0 (eS)) w fun b2A w_2 =>
 oP E (gsem (asB b2A) false (xCall (fC 137) [(gval (asB b2A) false x0)])) w_2 fun a2o w_4 =>
 oP E (gsem (asB b2A) false (xV (Op.unary .not a2o))) w_4 fun a0V w_6 =>
 oP E (xPick b2A (vB true) a0V) w_6 fun b0X w_8 =>
 oP E (gsem (asB b0X) false (xCall (fC 138) [(gval (asB b0X) false x0)])) w_8 fun a3z m4 =>
 oP E (xPick b0X (vB true) a3z) m4 fun a5i o0 =>
 oP E (gsem (asB a5i) false (xCall (fC 139) [(gval (asB a5i) false x0)])) o0 fun a7D m8 =>
 oP E (xPick a5i (vB true) a7D) m8 fun a2O o8 =>
 xcond a2O
 (R (vB false) o8)
 (xcut (fun _ p6 => b8L p6 R E) fun j1 =>
 oP E (xV (Instr.range 9 x0)) o8 fun e5V p7 =>
 xloop [] [] p7 fun _ E7 next2 =>
 c5D e5V E7 next2 j1 R E)
noncomputable def e5W : Code := Tryd.f119.body.getD .skip
def e5X : Hint := (sQ (.seq (sQ (.cond (sQ .none) .none)) (.cut [] (sQ (.block (.loop [] (sQ (.seq (.cond .none .none) (.block (sQ (sQ (.cond (sQ .none) .none))))))))) (sQ .none))))
theorem d8N (x0 : Value) (w : World) (R : RT) (E : Pan) : c6E x0 w R E = callX Tryd.prog [.tmp 2] e5W e5X [x0] w R E := by kernel_rfl
theorem d8O {x0 : Value} (h : c6E x0 w R E) : Cv Tryd.prog 119 #[x0] w R E := by
 refine g8 (args := [x0]) (c := e5W) (h := e5X) (rs := [.tmp 2]) Tryd.func119 (by kernel_rfl) (by kernel_rfl) (nB (by kernel_rfl)) (by kernel_rfl) (by kernel_rfl) (by kernel_rfl) ?_
 rw [← d8N]
 exact h
def c6F (x0 x1 : Value) (w : World) (R : RT) (E : Pan) : Prop :=
 oP E (xCall (fC 142) [x0, x1]) w fun a2q w_2 =>
 oP E (xBin .geq 3 (.tmp 7) (.const (vI 0)) a2q (vI 0)) w_2 fun b8M w_4 =>
 R b8M w_4
noncomputable def e5Y : Code := Tryd.f120.body.getD .skip
def e5Z : Hint := (sQ (sQ .none))
theorem d8P (x0 x1 : Value) (w : World) (R : RT) (E : Pan) : c6F x0 x1 w R E = callX Tryd.prog [.tmp 4] e5Y e5Z [x0, x1] w R E := by kernel_rfl
theorem d8Q {x0 x1 : Value} (h : c6F x0 x1 w R E) : Cv Tryd.prog 120 #[x0, x1] w R E := by
 refine g8 (args := [x0, x1]) (c := e5Y) (h := e5Z) (rs := [.tmp 4]) Tryd.func120 (by kernel_rfl) (by kernel_rfl) (nB (by kernel_rfl)) (by kernel_rfl) (by kernel_rfl) (by kernel_rfl) ?_
 rw [← d8P]
 exact h
def c6G (x0 : Value) (w : World) (R : RT) (E : Pan) : Prop :=
 oP E (xCall (fC 150) [x0]) w fun a9z w_2 =>
 oP E (xBin .gtr 3 (.tmp 4) (.const (vI 32)) a9z (vI 32)) w_2 fun b2M w_4 =>
 R b2M w_4
noncomputable def e6a : Code := Tryd.f138.body.getD .skip
def e6b : Hint := (sQ (sQ .none))
theorem d8R (x0 : Value) (w : World) (R : RT) (E : Pan) : c6G x0 w R E = callX Tryd.prog [.tmp 2] e6a e6b [x0] w R E := by kernel_rfl
theorem d8S {x0 : Value} (h : c6G x0 w R E) : Cv Tryd.prog 138 #[x0] w R E := by
 refine g8 (args := [x0]) (c := e6a) (h := e6b) (rs := [.tmp 2]) Tryd.func138 (by kernel_rfl) (by kernel_rfl) (nB (by kernel_rfl)) (by kernel_rfl) (by kernel_rfl) (by kernel_rfl) ?_
 rw [← d8R]
 exact h
def b8N (x4 : Value) (w : World) (R : RT) (_E : Pan) : Prop :=
 ∀ _τ : Fr, (xcond x4
 (R (vB true) w)
 (R (vB false) w))
def c6H (x0 : Value) (w : World) (R : RT) (E : Pan) : Prop :=
 xcut (fun l_1 w_2 => b8N (nth l_1 0) w_2 R E) fun j1 =>
 oP E (xBin .eql 9 (.tmp 3) (.const (Value.string ⟨#[118, 97, 114]⟩)) x0 (Value.string ⟨#[118, 97, 114]⟩)) w fun b2M w_4 =>
 xcond b2M
 (j1 [b2M] w_4)
 (oP E (xBin .eql 9 (.tmp 3) (.const (Value.string ⟨#[97, 114, 114, 97, 121]⟩)) x0 (Value.string ⟨#[97, 114, 114, 97, 121]⟩)) w_4 fun a4p w_6 =>
 xcond a4p
 (j1 [a4p] w_6)
 (oP E (xBin .eql 9 (.tmp 3) (.const (Value.string ⟨#[105, 102]⟩)) x0 (Value.string ⟨#[105, 102]⟩)) w_6 fun a9x w_8 =>
 xcond a9x
 (j1 [a9x] w_8)
 (oP E (xBin .eql 9 (.tmp 3) (.const (Value.string ⟨#[101, 108, 115, 101]⟩)) x0 (Value.string ⟨#[101, 108, 115, 101]⟩)) w_8 fun a6B m4 =>
 xcond a6B
 (j1 [a6B] m4)
 (oP E (xBin .eql 9 (.tmp 3) (.const (Value.string ⟨#[119, 104, 105, 108, 101]⟩)) x0 (Value.string ⟨#[119, 104, 105, 108, 101]⟩)) m4 fun a9c o0 =>
 xcond a9c
 (j1 [a9c] o0)
 (oP E (xBin .eql 9 (.tmp 3) (.const (Value.string ⟨#[97, 115, 115, 101, 114, 116]⟩)) x0 (Value.string ⟨#[97, 115, 115, 101, 114, 116]⟩)) o0 fun c9U m8 =>
 xcond c9U
 (j1 [c9U] m8)
 (oP E (xBin .eql 9 (.tmp 3) (.const (Value.string ⟨#[97, 115, 115, 117, 109, 101]⟩)) x0 (Value.string ⟨#[97, 115, 115, 117, 109, 101]⟩)) m8 fun c9V o8 =>
 xcond c9V
 (j1 [c9V] o8)
 (oP E (xBin .eql 9 (.tmp 3) (.const (Value.string ⟨#[115, 107, 105, 112]⟩)) x0 (Value.string ⟨#[115, 107, 105, 112]⟩)) o8 fun c9W p6 =>
 xcond c9W
 (j1 [c9W] p6)
 (oP E (xBin .eql 9 (.tmp 3) (.const (Value.string ⟨#[105, 110, 112, 117, 116]⟩)) x0 (Value.string ⟨#[105, 110, 112, 117, 116]⟩)) p6 fun c9X p7 =>
 xcond c9X
 (j1 [c9X] p7)
 (oP E (xBin .eql 9 (.tmp 3) (.const (Value.string ⟨#[116, 114, 117, 101]⟩)) x0 (Value.string ⟨#[116, 114, 117, 101]⟩)) p7 fun c9Y q9 =>
 xcond c9Y
 (j1 [c9Y] q9)
 (oP E (xBin .eql 9 (.tmp 3) (.const (Value.string ⟨#[102, 97, 108, 115, 101]⟩)) x0 (Value.string ⟨#[102, 97, 108, 115, 101]⟩)) q9 fun e6c t8 =>
 j1 [e6c] t8))))))))))
noncomputable def e6d : Code := Tryd.f139.body.getD .skip
def e6e : Hint := (sQ (.seq (sQ (.block (.cut [4] (sQ (.cond .none (sQ (.cond .none (sQ (.cond .none (sQ (.cond .none (sQ (.cond .none (sQ (.cond .none (sQ (.cond .none (sQ (.cond .none (sQ (.cond .none (sQ (.cond .none .none)))))))))))))))))))) (.cond (sQ .none) .none)))) (sQ .none)))
theorem d8T (x0 : Value) (w : World) (R : RT) (E : Pan) : c6H x0 w R E = callX Tryd.prog [.tmp 2] e6d e6e [x0] w R E := by kernel_rfl
theorem d8U {x0 : Value} (h : c6H x0 w R E) : Cv Tryd.prog 139 #[x0] w R E := by
 refine g8 (args := [x0]) (c := e6d) (h := e6e) (rs := [.tmp 2]) Tryd.func139 (by kernel_rfl) (by kernel_rfl) (nB (by kernel_rfl)) (by kernel_rfl) (by kernel_rfl) (by kernel_rfl) ?_
 rw [← d8T]
 exact h
def c6I (x0 : Value) (w : World) (R : RT) (E : Pan) : Prop :=
 oP E (xCall (fC 141) [x0]) w fun b0Y w_2 =>
 oP E (xBin .eql 3 (.tmp 6) (.const (vI 3)) b0Y (vI 3)) w_2 fun a7A w_4 =>
 oP E (gsem (asB a7A) false (xBin .eql 3 (.tmp 9) (.const (vI 4)) (gval (asB a7A) false b0Y) (vI 4))) w_4 fun a0V w_6 =>
 oP E (xPick a7A (vB true) a0V) w_6 fun b0X w_8 =>
 R b0X w_8
noncomputable def e6f : Code := Tryd.f140.body.getD .skip
def e6g : Hint := (sQ (sQ (sQ .none)))
theorem d8V (x0 : Value) (w : World) (R : RT) (E : Pan) : c6I x0 w R E = callX Tryd.prog [.tmp 2] e6f e6g [x0] w R E := by kernel_rfl
theorem d8W {x0 : Value} (h : c6I x0 w R E) : Cv Tryd.prog 140 #[x0] w R E := by
 refine g8 (args := [x0]) (c := e6f) (h := e6g) (rs := [.tmp 2]) Tryd.func140 (by kernel_rfl) (by kernel_rfl) (nB (by kernel_rfl)) (by kernel_rfl) (by kernel_rfl) (by kernel_rfl) ?_
 rw [← d8V]
 exact h
def b8O (x39 : Value) (w : World) (R : RT) (_E : Pan) : Prop :=
 ∀ _τ : Fr, (xcond x39
 (R (vI 3) w)
 (R (vI 6) w))
def b8P (x1 x31 : Value) (w : World) (R : RT) (E : Pan) : Prop :=
 ∀ _τ : Fr, (xcond x31
 (R (vI 6) w)
 (oP E (xV (Instr.makeFunc (.func 151) #[] #[x1])) w fun b4k w_8 =>
 oP E (xCall b4k [(Value.int .i32 48), (Value.int .i32 57)]) w_8 fun f8b m4 =>
 xcond f8b
 (R (vI 4) m4)
 (xcut (fun g1m o0 => b8O (nth g1m 0) o0 R E) fun j4 =>
 oP E (lA 21 x1) m4 fun e6h m8 =>
 oP E (xBin .eql 21 (.tmp 40) (.const (Value.int .i32 95)) e6h (Value.int .i32 95)) m8 fun c9Z o8 =>
 xcond c9Z
 (j4 [c9Z] o8)
 (oP E (xCall b4k [(Value.int .i32 97), (Value.int .i32 122)]) o8 fun d0a p6 =>
 xcond d0a
 (j4 [d0a] p6)
 (oP E (xCall b4k [(Value.int .i32 65), (Value.int .i32 90)]) p6 fun d0b p7 =>
 xcond d0b
 (j4 [d0b] p7)
 (oP E (xCall b4k [(Value.int .i32 192), (Value.int .i32 591)]) p7 fun d0c q9 =>
 xcond d0c
 (j4 [d0c] q9)
 (oP E (xCall b4k [(Value.int .i32 913), (Value.int .i32 969)]) q9 fun d0d t8 =>
 xcond d0d
 (j4 [d0d] t8)
 (oP E (xCall b4k [(Value.int .i32 1040), (Value.int .i32 1103)]) t8 fun e6i z8 =>
 j4 [e6i] z8))))))))
def b8Q (x1 x4 x11 : Value) (w : World) (R : RT) (E : Pan) : Prop :=
 ∀ _τ : Fr, (xcond x11
 (R (vI 5) w)
 (xcut (fun d2G B9 => b8P x1 (nth d2G 0) B9 R E) fun j3 =>
 oP E (xBin .eql 21 (.tmp 4) (.const (Value.int .i32 215)) x4 (Value.int .i32 215)) w fun b6X D3 =>
 xcond b6X
 (j3 [b6X] D3)
 (oP E (xBin .eql 21 (.tmp 4) (.const (Value.int .i32 247)) x4 (Value.int .i32 247)) D3 fun d0e B4 =>
 xcond d0e
 (j3 [d0e] B4)
 (oP E (xBin .eql 21 (.tmp 4) (.const (Value.int .i32 930)) x4 (Value.int .i32 930)) B4 fun b2N C6 =>
 j3 [b2N] C6))))
def b8R (x1 x4 x5 : Value) (w : World) (R : RT) (E : Pan) : Prop :=
 ∀ _τ : Fr, (xcond x5
 (R (vI 1) w)
 (oP E (xBin .eql 21 (.tmp 4) (.const (Value.int .i32 10)) x4 (Value.int .i32 10)) w fun a0V w_6 =>
 xcond a0V
 (R (vI 2) w_6)
 (xcut (fun c1V E5 => b8Q x1 x4 (nth c1V 0) E5 R E) fun j2 =>
 oP E (xBin .eql 21 (.tmp 4) (.const (Value.int .i32 59)) x4 (Value.int .i32 59)) w_6 fun d0f D4 =>
 xcond d0f
 (j2 [d0f] D4)
 (oP E (xBin .eql 21 (.tmp 4) (.const (Value.int .i32 44)) x4 (Value.int .i32 44)) D4 fun d0g D6 =>
 xcond d0g
 (j2 [d0g] D6)
 (oP E (xBin .eql 21 (.tmp 4) (.const (Value.int .i32 123)) x4 (Value.int .i32 123)) D6 fun d0h G0 =>
 xcond d0h
 (j2 [d0h] G0)
 (oP E (xBin .eql 21 (.tmp 4) (.const (Value.int .i32 125)) x4 (Value.int .i32 125)) G0 fun d0i E7 =>
 xcond d0i
 (j2 [d0i] E7)
 (oP E (xBin .eql 21 (.tmp 4) (.const (Value.int .i32 40)) x4 (Value.int .i32 40)) E7 fun b6Y K7 =>
 xcond b6Y
 (j2 [b6Y] K7)
 (oP E (xBin .eql 21 (.tmp 4) (.const (Value.int .i32 41)) x4 (Value.int .i32 41)) K7 fun d0j J0 =>
 xcond d0j
 (j2 [d0j] J0)
 (oP E (xBin .eql 21 (.tmp 4) (.const (Value.int .i32 91)) x4 (Value.int .i32 91)) J0 fun b6Z F7 =>
 xcond b6Z
 (j2 [b6Z] F7)
 (oP E (xBin .eql 21 (.tmp 4) (.const (Value.int .i32 93)) x4 (Value.int .i32 93)) F7 fun d0k E2 =>
 xcond d0k
 (j2 [d0k] E2)
 (oP E (xBin .eql 21 (.tmp 4) (.const (Value.int .i32 61)) x4 (Value.int .i32 61)) E2 fun d0l L0 =>
 xcond d0l
 (j2 [d0l] L0)
 (oP E (xBin .eql 21 (.tmp 4) (.const (Value.int .i32 33)) x4 (Value.int .i32 33)) L0 fun d0m L4 =>
 xcond d0m
 (j2 [d0m] L4)
 (oP E (xBin .eql 21 (.tmp 4) (.const (Value.int .i32 60)) x4 (Value.int .i32 60)) L4 fun d0n L1 =>
 xcond d0n
 (j2 [d0n] L1)
 (oP E (xBin .eql 21 (.tmp 4) (.const (Value.int .i32 62)) x4 (Value.int .i32 62)) L1 fun d0o N8 =>
 xcond d0o
 (j2 [d0o] N8)
 (oP E (xBin .eql 21 (.tmp 4) (.const (Value.int .i32 43)) x4 (Value.int .i32 43)) N8 fun d0p L5 =>
 xcond d0p
 (j2 [d0p] L5)
 (oP E (xBin .eql 21 (.tmp 4) (.const (Value.int .i32 45)) x4 (Value.int .i32 45)) L5 fun d0q M4 =>
 xcond d0q
 (j2 [d0q] M4)
 (oP E (xBin .eql 21 (.tmp 4) (.const (Value.int .i32 42)) x4 (Value.int .i32 42)) M4 fun d0r N9 =>
 xcond d0r
 (j2 [d0r] N9)
 (oP E (xBin .eql 21 (.tmp 4) (.const (Value.int .i32 47)) x4 (Value.int .i32 47)) N9 fun d0s O0 =>
 xcond d0s
 (j2 [d0s] O0)
 (oP E (xBin .eql 21 (.tmp 4) (.const (Value.int .i32 37)) x4 (Value.int .i32 37)) O0 fun d0t L2 =>
 xcond d0t
 (j2 [d0t] L2)
 (oP E (xBin .eql 21 (.tmp 4) (.const (Value.int .i32 38)) x4 (Value.int .i32 38)) L2 fun d0u O4 =>
 xcond d0u
 (j2 [d0u] O4)
 (oP E (xBin .eql 21 (.tmp 4) (.const (Value.int .i32 124)) x4 (Value.int .i32 124)) O4 fun e6j O5 =>
 j2 [e6j] O5)))))))))))))))))))))
def c6J (x0 : Value) (w : World) (R : RT) (E : Pan) : Prop :=
 oP E (xV (Instr.box 21 x0)) w fun s8 w_2 =>
 oP E (lA 21 s8) w_2 fun a5B w_4 =>
 xcut (fun g1n Q7 => b8R s8 a5B (nth g1n 0) Q7 R E) fun j1 =>
 oP E (xBin .eql 21 (.tmp 4) (.const (Value.int .i32 32)) a5B (Value.int .i32 32)) w_4 fun d7n N0 =>
 xcond d7n
 (j1 [d7n] N0)
 (oP E (xBin .eql 21 (.tmp 4) (.const (Value.int .i32 9)) a5B (Value.int .i32 9)) N0 fun d7o R8 =>
 xcond d7o
 (j1 [d7o] R8)
 (oP E (xBin .eql 21 (.tmp 4) (.const (Value.int .i32 13)) a5B (Value.int .i32 13)) R8 fun f8c P9 =>
 j1 [f8c] P9))
noncomputable def e6k : Code := Tryd.f141.body.getD .skip
def e6l : Hint := (sQ (.seq (sQ (.block (.cut [5] (sQ (.cond .none (sQ (.cond .none .none)))) (.cond (sQ .none) (sQ (.cond (sQ .none) (.cut [11] (sQ (.cond .none (sQ (.cond .none (sQ (.cond .none (sQ (.cond .none (sQ (.cond .none (sQ (.cond .none (sQ (.cond .none (sQ (.cond .none (sQ (.cond .none (sQ (.cond .none (sQ (.cond .none (sQ (.cond .none (sQ (.cond .none (sQ (.cond .none (sQ (.cond .none (sQ (.cond .none (sQ (.cond .none (sQ (.cond .none .none)))))))))))))))))))))))))))))))))))) (.cond (sQ .none) (.cut [31] (sQ (.cond .none (sQ (.cond .none .none)))) (.cond (sQ .none) .none)))))))))) (sQ (.seq (.block (sQ (.cond (sQ .none) (.cut [39] (sQ (.cond .none (sQ (.cond .none (sQ (.cond .none (sQ (.cond .none (sQ (.cond .none .none)))))))))) (.cond (sQ .none) .none))))) (sQ .none)))))
theorem d8X (x0 : Value) (w : World) (R : RT) (E : Pan) : c6J x0 w R E = callX Tryd.prog [.tmp 2] e6k e6l [x0] w R E := by kernel_rfl
theorem d8Y {x0 : Value} (h : c6J x0 w R E) : Cv Tryd.prog 141 #[x0] w R E := by
 refine g8 (args := [x0]) (c := e6k) (h := e6l) (rs := [.tmp 2]) Tryd.func141 (by kernel_rfl) (by kernel_rfl) (nB (by kernel_rfl)) (by kernel_rfl) (by kernel_rfl) (by kernel_rfl) ?_
 rw [← d8X]
 exact h
def b8S (w : World) (R : RT) (_E : Pan) : Prop :=
 ∀ _τ : Fr, (R (vI (-1)) w)
def c5E (x0 x1 x7 x8 : Value) (w : World) (next2 : NT) (j1 : NT) (R : RT) (E : Pan) : Prop :=
 oP E (xBin .lss 3 (.tmp 8) (.tmp 7) x8 x7) w fun g1o w_6 =>
 xcond g1o
 (oP E (iA 104 x0 x8) w_6 fun S2 w_8 =>
 oP E (lA 9 S2) w_8 fun a4h m4 =>
 oP E (xBin .eql 9 (.tmp 11) (.tmp 15) x1 a4h) m4 fun a5j o0 =>
 xcond a5j
 (R x8 o0)
 (oP E (xBin .add 3 (.tmp 8) (.const (vI 1)) x8 (vI 1)) o0 fun a7D m8 =>
 next2 [a7D] m8))
 (j1 [] w_6)
def c6K (x0 x1 : Value) (w : World) (R : RT) (E : Pan) : Prop :=
 xcut (fun _ w_2 => b8S w_2 R E) fun j1 =>
 oP E (xBuiltin .len #[104] 3 [false] [x0]) w fun a7A w_4 =>
 xloop [8] [(vI 0)] w_4 fun τ_15 o8 next2 =>
 c5E x0 x1 a7A (τ_15 8) o8 next2 j1 R E
noncomputable def e6m : Code := Tryd.f142.body.getD .skip
def e6n : Hint := (sQ (.cut [] (sQ (.block (.loop [8] (sQ (.seq (.cond .none .none) (.seq (.block (sQ (sQ (.cond (sQ .none) .none)))) .none)))))) (sQ .none)))
theorem d8Z (x0 x1 : Value) (w : World) (R : RT) (E : Pan) : c6K x0 x1 w R E = callX Tryd.prog [.tmp 4] e6m e6n [x0, x1] w R E := by kernel_rfl
theorem d9a {x0 x1 : Value} (h : c6K x0 x1 w R E) : Cv Tryd.prog 142 #[x0, x1] w R E := by
 refine g8 (args := [x0, x1]) (c := e6m) (h := e6n) (rs := [.tmp 4]) Tryd.func142 (by kernel_rfl) (by kernel_rfl) (nB (by kernel_rfl)) (by kernel_rfl) (by kernel_rfl) (by kernel_rfl) ?_
 rw [← d8Z]
 exact h
def b8T (x2 : Value) (w : World) (R : RT) (_E : Pan) : Prop :=
 ∀ _τ : Fr, (R x2 w)
def c5F (x2 x4 : Value) (w : World) (next2 : NT) (j1 : NT) (_R : RT) (E : Pan) : Prop :=
 oP E (xV (Instr.next x4 true 0)) w fun c1W w_6 =>
 oP E (eX c1W 0) w_6 fun b8U w_8 =>
 xcond b8U
 (oP E (xBin .add 3 (.tmp 7) (.const (vI 1)) x2 (vI 1)) w_8 fun a6B m4 =>
 next2 [a6B] m4)
 (j1 [x2] w_8)
def c6L (x0 : Value) (w : World) (R : RT) (E : Pan) : Prop :=
 xcut (fun l_1 w_2 => b8T (nth l_1 0) w_2 R E) fun j1 =>
 oP E (xV (Instr.range 9 x0)) w fun a5B w_4 =>
 xloop [2] [(vI 0)] w_4 fun τ_11 o0 next2 =>
 c5F (τ_11 2) a5B o0 next2 j1 R E
noncomputable def e6o : Code := Tryd.f150.body.getD .skip
def e6p : Hint := (sQ (.cut [2] (sQ (.block (.loop [2] (sQ (.seq (.cond .none .none) (.block .none)))))) (sQ .none)))
theorem d9b (x0 : Value) (w : World) (R : RT) (E : Pan) : c6L x0 w R E = callX Tryd.prog [.tmp 2] e6o e6p [x0] w R E := by kernel_rfl
theorem d9c {x0 : Value} (h : c6L x0 w R E) : Cv Tryd.prog 150 #[x0] w R E := by
 refine g8 (args := [x0]) (c := e6o) (h := e6p) (rs := [.tmp 2]) Tryd.func150 (by kernel_rfl) (by kernel_rfl) (nB (by kernel_rfl)) (by kernel_rfl) (by kernel_rfl) (by kernel_rfl) ?_
 rw [← d9b]
 exact h
def c6M (x0 x1 x2 : Value) (w : World) (R : RT) (E : Pan) : Prop :=
 oP E (lA 21 x2) w fun a2q w_2 =>
 oP E (xBin .leq 21 (.tmp 6) (.tmp 7) x0 a2q) w_2 fun b8M w_4 =>
 oP E (gsem (asB b8M) true (lA 21 x2)) w_4 fun a0V w_6 =>
 oP E (gsem (asB b8M) true (xBin .leq 21 (.tmp 10) (.tmp 11) a0V (gval (asB b8M) true x1))) w_6 fun a6W w_8 =>
 oP E (xPick b8M a6W (vB false)) w_8 fun a6X m4 =>
 R a6X m4
noncomputable def e6q : Code := Tryd.f151.body.getD .skip
def e6r : Hint := (sQ (sQ .none))
theorem d9d (x0 x1 x2 : Value) (w : World) (R : RT) (E : Pan) : c6M x0 x1 x2 w R E = callX Tryd.prog [.tmp 5] e6q e6r [x0, x1, x2] w R E := by kernel_rfl
theorem d9e {x0 x1 x2 : Value} (h : c6M x0 x1 x2 w R E) : Cv Tryd.prog 151 #[x0, x1, x2] w R E := by
 refine g8 (args := [x0, x1, x2]) (c := e6q) (h := e6r) (rs := [.tmp 5]) Tryd.func151 (by kernel_rfl) (by kernel_rfl) (nB (by kernel_rfl)) (by kernel_rfl) (by kernel_rfl) (by kernel_rfl) ?_
 rw [← d9d]
 exact h
def b8V (x3 x59 : Value) (w : World) (R : RT) (E : Pan) : Prop :=
 ∀ _τ : Fr, (xcond x59
 (oP E (xBin .eql 3 (.tmp 65) (.const (vI 2)) x3 (vI 2)) w fun e6s N0 =>
 R e6s N0)
 (R (vB false) w))
def b8W (x3 x38 x54 : Value) (w : World) (R : RT) (E : Pan) : Prop :=
 ∀ _τ : Fr, (xcond x54
 (oP E (xBin .eql 3 (.tmp 57) (.const (vI 1)) x3 (vI 1)) w fun e6t Q7 =>
 R e6t Q7)
 (xcut (fun b8X R8 => b8V x3 (nth b8X 0) R8 R E) fun j3 =>
 oP E (xBin .eql 3 (.tmp 38) (.const (vI 6)) x38 (vI 6)) w fun a7E P9 =>
 xcond a7E
 (j3 [a7E] P9)
 (oP E (xBin .eql 3 (.tmp 38) (.const (vI 7)) x38 (vI 7)) P9 fun d0v O6 =>
 xcond d0v
 (j3 [d0v] O6)
 (oP E (xBin .eql 3 (.tmp 38) (.const (vI 8)) x38 (vI 8)) O6 fun d0w R9 =>
 xcond d0w
 (j3 [d0w] R9)
 (oP E (xBin .eql 3 (.tmp 38) (.const (vI 9)) x38 (vI 9)) R9 fun d0x M5 =>
 xcond d0x
 (j3 [d0x] M5)
 (oP E (xBin .eql 3 (.tmp 38) (.const (vI 10)) x38 (vI 10)) M5 fun e6u X6 =>
 j3 [e6u] X6))))))
def b8Y (x3 x38 x49 : Value) (w : World) (R : RT) (E : Pan) : Prop :=
 ∀ _τ : Fr, (xcond x49
 (oP E (xBin .eql 3 (.tmp 52) (.const (vI 0)) x3 (vI 0)) w fun b2F O5 =>
 R b2F O5)
 (xcut (fun g1p a0Q => b8W x3 x38 (nth g1p 0) a0Q R E) fun j2 =>
 oP E (xBin .eql 3 (.tmp 38) (.const (vI 4)) x38 (vI 4)) w fun d0y a0y =>
 xcond d0y
 (j2 [d0y] a0y)
 (oP E (xBin .eql 3 (.tmp 38) (.const (vI 5)) x38 (vI 5)) a0y fun e6v a0e =>
 j2 [e6v] a0e)))
def c6N (x0 : Value) (w : World) (R : RT) (E : Pan) : Prop :=
 oP E (xV (Instr.box 123 x0)) w fun s8 w_2 =>
 oP E (fA 123 s8 0) w_2 fun a2V w_4 =>
 oP E (fA 24 a2V 3) w_4 fun a7J w_6 =>
 oP E (lA 22 a7J) w_6 fun a3b w_8 =>
 oP E (xBuiltin .len #[22] 3 [false] [a3b]) w_8 fun b2O m4 =>
 oP E (lA 123 s8) m4 fun a6n o0 =>
 oP E (xV (Instr.makeInterface 123 a6n)) o0 fun a6o m8 =>
 oP E (xCall (fC 118) [a6o]) m8 fun a7G o8 =>
 oP E (eX a7G 0) o8 fun _t14_17 p6 =>
 oP E (eX a7G 1) p6 fun a7H p7 =>
 oP E (fA 123 s8 0) p7 fun b2I q9 =>
 oP E (fA 24 b2I 0) q9 fun c1X t8 =>
 oP E (lA 3 c1X) t8 fun c1Y z8 =>
 oP E (xBin .neq 3 (.tmp 18) (.const (vI 1)) c1Y (vI 1)) z8 fun a7K B9 =>
 oP E (gsem (asB a7K) true (fA 123 s8 0)) B9 fun e6w D3 =>
 oP E (gsem (asB a7K) true (fA 24 e6w 1)) D3 fun e6x B4 =>
 oP E (gsem (asB a7K) true (lA 2 e6x)) B4 fun e6y C6 =>
 oP E (gsem (asB a7K) true (xBin .neq 2 (.tmp 23) (.const (vI 0)) e6y (vI 0))) C6 fun e6z E5 =>
 oP E (xPick a7K e6z (vB false)) E5 fun a5k D4 =>
 oP E (gsem (asB a5k) false (xV (Op.unary .not (gval (asB a5k) false a7H)))) D4 fun b2P D6 =>
 oP E (gsem (asB (gval (asB a5k) false b2P)) true (fA 123 s8 0)) D6 fun c1Z G0 =>
 oP E (gsem (asB (gval (asB a5k) false b2P)) true (fA 24 c1Z 2)) G0 fun c2a E7 =>
 oP E (gsem (asB (gval (asB a5k) false b2P)) true (lA 9 c2a)) E7 fun c2b K7 =>
 oP E (gsem (asB (gval (asB a5k) false b2P)) true (xBin .neq 9 (.tmp 32) (.const (eS)) c2b (eS))) K7 fun e6A J0 =>
 oP E (gsem (asB a5k) false (xPick (gval (asB a5k) false b2P) e6A (vB false))) J0 fun e6B F7 =>
 oP E (xPick a5k (vB true) e6B) F7 fun e6C E2 =>
 xcond e6C
 (R (vB false) E2)
 (oP E (fA 123 s8 0) E2 fun c1T L0 =>
 oP E (fA 24 c1T 0) L0 fun e6D L4 =>
 oP E (lA 3 e6D) L4 fun b7a L1 =>
 oP E (xBin .eql 3 (.tmp 38) (.const (vI 1)) b7a (vI 1)) L1 fun e6E N8 =>
 xcond e6E
 (oP E (fA 123 s8 0) N8 fun e6F L5 =>
 oP E (fA 24 e6F 1) L5 fun e6G M4 =>
 oP E (lA 2 e6G) M4 fun e6H N9 =>
 oP E (xBin .geq 2 (.tmp 43) (.const (vI 0)) e6H (vI 0)) N9 fun c2c O0 =>
 oP E (gsem (asB c2c) true (xBin .eql 3 (.tmp 46) (.const (vI 0)) (gval (asB c2c) true b2O) (vI 0))) O0 fun e6I L2 =>
 oP E (xPick c2c e6I (vB false)) L2 fun e6J O4 =>
 R e6J O4)
 (xcut (fun g1q a0k => b8Y b2O b7a (nth g1q 0) a0k R E) fun j1 =>
 oP E (xBin .eql 3 (.tmp 38) (.const (vI 2)) b7a (vI 2)) N8 fun d0z T0 =>
 xcond d0z
 (j1 [d0z] T0)
 (oP E (xBin .eql 3 (.tmp 38) (.const (vI 3)) b7a (vI 3)) T0 fun d9f N2 =>
 j1 [d9f] N2)))
noncomputable def e6K : Code := Tryd.f169.body.getD .skip
def e6L : Hint := (sQ (sQ (sQ (.seq (sQ (.cond (sQ .none) .none)) (.seq (sQ (.block (sQ (.cond (sQ .none) (.cut [49] (sQ (.cond .none .none)) (.cond (sQ .none) (.cut [54] (sQ (.cond .none .none)) (.cond (sQ .none) (.cut [59] (sQ (.cond .none (sQ (.cond .none (sQ (.cond .none (sQ (.cond .none .none)))))))) (.cond (sQ .none) .none)))))))))) (sQ .none))))))
theorem d9g (x0 : Value) (w : World) (R : RT) (E : Pan) : c6N x0 w R E = callX Tryd.prog [.tmp 2] e6K e6L [x0] w R E := by kernel_rfl
theorem d9h {x0 : Value} (h : c6N x0 w R E) : Cv Tryd.prog 169 #[x0] w R E := by
 refine g8 (args := [x0]) (c := e6K) (h := e6L) (rs := [.tmp 2]) Tryd.func169 (by kernel_rfl) (by kernel_rfl) (nB (by kernel_rfl)) (by kernel_rfl) (by kernel_rfl) (by kernel_rfl) ?_
 rw [← d9g]
 exact h
def c6O (x0 : Value) (w : World) (R : RT) (E : Pan) : Prop :=
 oP E (xV (Instr.box 123 x0)) w fun s8 w_2 =>
 oP E (fA 123 s8 0) w_2 fun a2R w_4 =>
 oP E (fA 24 a2R 3) w_4 fun a1C w_6 =>
 oP E (lA 22 a1C) w_6 fun a4q w_8 =>
 oP E (xCall (fC 171) [a4q, (fC 172)]) w_8 fun b0T m4 =>
 R b0T m4
noncomputable def e6M : Code := Tryd.f170.body.getD .skip
def e6N : Hint := (sQ (sQ .none))
theorem d9i (x0 : Value) (w : World) (R : RT) (E : Pan) : c6O x0 w R E = callX Tryd.prog [.tmp 2] e6M e6N [x0] w R E := by kernel_rfl
theorem d9j {x0 : Value} (h : c6O x0 w R E) : Cv Tryd.prog 170 #[x0] w R E := by
 refine g8 (args := [x0]) (c := e6M) (h := e6N) (rs := [.tmp 2]) Tryd.func170 (by kernel_rfl) (by kernel_rfl) (nB (by kernel_rfl)) (by kernel_rfl) (by kernel_rfl) (by kernel_rfl) ?_
 rw [← d9i]
 exact h
def b8Z (x5 : Value) (w : World) (R : RT) (_E : Pan) : Prop :=
 ∀ _τ : Fr, (R x5 w)
def c5G (x1 x5 x8 x9 x10 : Value) (w : World) (next2 : NT) (j1 : NT) (_R : RT) (E : Pan) : Prop :=
 oP E (xBin .lss 3 (.tmp 10) (.tmp 9) x10 x9) w fun a5c w_6 =>
 xcond a5c
 (oP E (iA 22 x8 x10) w_6 fun a6W w_8 =>
 oP E (lA 24 a6W) w_8 fun a6X m4 =>
 oP E (xV (Instr.alloc 24 true (.tuple #[]))) m4 fun a3y o0 =>
 oP E (sA 24 a3y a6X) o0 fun _z_13 m8 =>
 oP E (lA 24 a3y) m8 fun a7B o8 =>
 oP E (xCall x1 [a7B]) o8 fun a5d p6 =>
 oP E (xV (Instr.buildSlice 124 1 #[(0, a5d)])) p6 fun a7C p7 =>
 oP E (xBuiltin .append #[124, 124] 124 [false, false] [x5, a7C]) p7 fun a5e q9 =>
 oP E (xBin .add 3 (.tmp 10) (.const (vI 1)) x10 (vI 1)) q9 fun a5f t8 =>
 next2 [a5e, a5f] t8)
 (j1 [x5] w_6)
def c6P (x0 x1 : Value) (w : World) (R : RT) (E : Pan) : Prop :=
 xcut (fun l_1 w_2 => b8Z (nth l_1 0) w_2 R E) fun j1 =>
 oP E (xBuiltin .len #[22] 3 [false] [x0]) w fun a2o w_4 =>
 xloop [5, 10] [(nS), (vI 0)] w_4 fun τ_25 z8 next2 =>
 c5G x1 (τ_25 5) x0 a2o (τ_25 10) z8 next2 j1 R E
noncomputable def e6O : Code := Tryd.f171.body.getD .skip
def e6P : Hint := (sQ (sQ (.cut [5] (sQ (.block (.loop [5, 10] (sQ (.seq (.cond .none .none) (.seq (.block (sQ .none)) .none)))))) (sQ .none))))
theorem d9k (x0 x1 : Value) (w : World) (R : RT) (E : Pan) : c6P x0 x1 w R E = callX Tryd.prog [.tmp 4] e6O e6P [x0, x1] w R E := by kernel_rfl
theorem d9l {x0 x1 : Value} (h : c6P x0 x1 w R E) : Cv Tryd.prog 171 #[x0, x1] w R E := by
 refine g8 (args := [x0, x1]) (c := e6O) (h := e6P) (rs := [.tmp 4]) Tryd.func171 (by kernel_rfl) (by kernel_rfl) (nB (by kernel_rfl)) (by kernel_rfl) (by kernel_rfl) (by kernel_rfl) ?_
 rw [← d9k]
 exact h
def c6Q (x0 : Value) (w : World) (R : RT) (E : Pan) : Prop :=
 oP E (xV (Instr.box 24 x0)) w fun s8 w_2 =>
 oP E (lA 24 s8) w_2 fun a2R w_4 =>
 oP E (xV (Instr.build 123 #[(0, a2R)])) w_4 fun a1C w_6 =>
 oP E (xV (Instr.makeInterface 123 a1C)) w_6 fun a4q w_8 =>
 R a4q w_8
noncomputable def e6Q : Code := Tryd.f172.body.getD .skip
def e6R : Hint := (sQ (sQ .none))
theorem d9m (x0 : Value) (w : World) (R : RT) (E : Pan) : c6Q x0 w R E = callX Tryd.prog [.tmp 2] e6Q e6R [x0] w R E := by kernel_rfl
theorem d9n {x0 : Value} (h : c6Q x0 w R E) : Cv Tryd.prog 172 #[x0] w R E := by
 refine g8 (args := [x0]) (c := e6Q) (h := e6R) (rs := [.tmp 2]) Tryd.func172 (by kernel_rfl) (by kernel_rfl) (nB (by kernel_rfl)) (by kernel_rfl) (by kernel_rfl) (by kernel_rfl) ?_
 rw [← d9m]
 exact h
def b9a (x3 x50 : Value) (w : World) (R : RT) (E : Pan) : Prop :=
 ∀ _τ : Fr, (xcond x50
 (oP E (lA 223 x3) w fun c2d M5 =>
 oP E (xV (Instr.build 223 #[(0, (vI 0)), (1, (vI 2))])) M5 fun c2e X6 =>
 oP E (xBin .eql 223 (.tmp 53) (.tmp 54) c2d c2e) X6 fun c2f a0Q =>
 R c2f a0Q)
 (R (vB false) w))
def b9b (x3 x38 x39 : Value) (w : World) (R : RT) (E : Pan) : Prop :=
 ∀ _τ : Fr, (xcond x39
 (oP E (lA 223 x3) w fun e6S O5 =>
 oP E (xV (Instr.build 223 #[])) O5 fun e6T Q7 =>
 oP E (xBin .eql 223 (.tmp 42) (.tmp 43) e6S e6T) Q7 fun e6U N0 =>
 R e6U N0)
 (oP E (xBin .eql 3 (.tmp 38) (.const (vI 4)) x38 (vI 4)) w fun e6V R8 =>
 xcond e6V
 (oP E (lA 223 x3) R8 fun e6W P9 =>
 oP E (xV (Instr.build 223 #[(0, (vI 0)), (1, (vI 1))])) P9 fun e6X O6 =>
 oP E (xBin .eql 223 (.tmp 47) (.tmp 48) e6W e6X) O6 fun e6Y R9 =>
 R e6Y R9)
 (xcut (fun c2g a0y => b9a x3 (nth c2g 0) a0y R E) fun j2 =>
 oP E (xBin .eql 3 (.tmp 38) (.const (vI 5)) x38 (vI 5)) R8 fun d0A a0e =>
 xcond d0A
 (j2 [d0A] a0e)
 (oP E (xBin .eql 3 (.tmp 38) (.const (vI 6)) x38 (vI 6)) a0e fun e6Z a0k =>
 j2 [e6Z] a0k))))
def c6R (x0 : Value) (w : World) (R : RT) (E : Pan) : Prop :=
 oP E (xV (Instr.box 138 x0)) w fun s8 w_2 =>
 oP E (fA 138 s8 0) w_2 fun a5B w_4 =>
 oP E (fA 27 a5B 2) w_4 fun c1W w_6 =>
 oP E (lA 22 c1W) w_6 fun b8U w_8 =>
 oP E (xBuiltin .len #[22] 3 [false] [b8U]) w_8 fun g1r m4 =>
 oP E (fA 138 s8 0) m4 fun b6N o0 =>
 oP E (fA 27 b6N 3) o0 fun b0Z m8 =>
 oP E (lA 25 b0Z) m8 fun b2Q o8 =>
 oP E (xBuiltin .len #[25] 3 [false] [b2Q]) o8 fun b2R p6 =>
 oP E (xV (Instr.build 223 #[(0, g1r), (1, b2R)])) p6 fun b2S p7 =>
 oP E (xV (Instr.alloc 223 true (.tuple #[]))) p7 fun c6S q9 =>
 oP E (sA 223 c6S b2S) q9 fun _z_23 t8 =>
 oP E (fA 138 s8 0) t8 fun e7a z8 =>
 oP E (fA 27 e7a 0) z8 fun e7b B9 =>
 oP E (lA 3 e7b) B9 fun e7c D3 =>
 oP E (xBin .eql 3 (.tmp 15) (.const (vI 3)) e7c (vI 3)) D3 fun e7d B4 =>
 xcond e7d
 (oP E (fA 138 s8 0) B4 fun c1A C6 =>
 oP E (fA 27 c1A 1) C6 fun b2D E5 =>
 oP E (lA 3 b2D) E5 fun e7e D4 =>
 oP E (xBin .geq 3 (.tmp 19) (.const (vI 1)) e7e (vI 1)) D4 fun b2T D6 =>
 oP E (gsem (asB b2T) true (fA 138 s8 0)) D6 fun c2h G0 =>
 oP E (gsem (asB b2T) true (fA 27 c2h 1)) G0 fun c2i E7 =>
 oP E (gsem (asB b2T) true (lA 3 c2i)) E7 fun e7f K7 =>
 oP E (gsem (asB b2T) true (xBin .leq 3 (.tmp 24) (.const (vI 6)) e7f (vI 6))) K7 fun e7g J0 =>
 oP E (xPick b2T e7g (vB false)) J0 fun b7b F7 =>
 oP E (gsem (asB b7b) true (lA 223 c6S)) F7 fun b2U E2 =>
 oP E (gsem (asB b7b) true (xV (Instr.build 223 #[(0, (vI 2)), (1, (vI 0))]))) E2 fun e7h L0 =>
 oP E (gsem (asB b7b) true (xBin .eql 223 (.tmp 28) (.tmp 29) b2U e7h)) L0 fun e7i L4 =>
 oP E (xPick b7b e7i (vB false)) L4 fun e7j L1 =>
 R e7j L1)
 (oP E (fA 138 s8 0) B4 fun b2V N8 =>
 oP E (fA 27 b2V 1) N8 fun b2W L5 =>
 oP E (lA 3 b2W) L5 fun b2X M4 =>
 oP E (xBin .neq 3 (.tmp 34) (.const (vI 0)) b2X (vI 0)) M4 fun a7L N9 =>
 xcond a7L
 (R (vB false) N9)
 (oP E (fA 138 s8 0) N9 fun e7k O0 =>
 oP E (fA 27 e7k 0) O0 fun e7l L2 =>
 oP E (lA 3 e7l) L2 fun c2j O4 =>
 xcut (fun g1s T0 => b9b c6S c2j (nth g1s 0) T0 R E) fun j1 =>
 oP E (xBin .eql 3 (.tmp 38) (.const (vI 1)) c2j (vI 1)) O4 fun c5H N2 =>
 xcond c5H
 (j1 [c5H] N2)
 (oP E (xBin .eql 3 (.tmp 38) (.const (vI 2)) c2j (vI 2)) N2 fun d9o O1 =>
 j1 [d9o] O1)))
noncomputable def e7m : Code := Tryd.f173.body.getD .skip
def e7n : Hint := (sQ (sQ (.seq (sQ (.cond (sQ .none) .none)) (.seq (sQ (.cond (sQ .none) .none)) (.seq (sQ (.block (.cut [39] (sQ (.cond .none .none)) (.cond (sQ .none) (sQ (.cond (sQ .none) (.cut [50] (sQ (.cond .none .none)) (.cond (sQ .none) .none)))))))) (sQ .none))))))
theorem d9p (x0 : Value) (w : World) (R : RT) (E : Pan) : c6R x0 w R E = callX Tryd.prog [.tmp 2] e7m e7n [x0] w R E := by kernel_rfl
theorem d9q {x0 : Value} (h : c6R x0 w R E) : Cv Tryd.prog 173 #[x0] w R E := by
 refine g8 (args := [x0]) (c := e7m) (h := e7n) (rs := [.tmp 2]) Tryd.func173 (by kernel_rfl) (by kernel_rfl) (nB (by kernel_rfl)) (by kernel_rfl) (by kernel_rfl) (by kernel_rfl) ?_
 rw [← d9p]
 exact h
def c6T (x0 : Value) (w : World) (R : RT) (E : Pan) : Prop :=
 oP E (xV (Instr.box 138 x0)) w fun s8 w_2 =>
 dX w_2 fun w_3 =>
 qP Tryd.prog (fA 138 s8 0) fun b8E =>
 qP Tryd.prog (fA 27 b8E 2) fun a1C =>
 qP Tryd.prog (fA 138 s8 0) fun d2I =>
 qP Tryd.prog (fA 27 d2I 3) fun a3b =>
 qL Tryd.prog w_3 (blk a1C) (lA 22 a1C) fun d2E =>
 qL Tryd.prog w_3 (blk a3b) (lA 25 a3b) fun b2O =>
 oP E (xCall (fC 171) [d2E, (fC 172)]) w_3 fun f8d a0i =>
 keepX [(blk a3b)] w_3 a0i (opK Tryd.prog E (xCall (fC 175) [b2O, (fC 176)]) a0i fun e7o a0j =>
 keepX [] a0i a0j (opK Tryd.prog E (xV (Instr.buildSlice 174 2 #[(0, f8d), (1, e7o)])) a0j fun e7p b5v =>
 keepX [] a0j b5v (opK Tryd.prog E (xCall (fC 87) [e7p]) b5v fun e7q a1Y =>
 keepX [] b5v a1Y (R e7q a1Y))))
noncomputable def e7r : Code := Tryd.f174.body.getD .skip
def e7s : Hint := (sQ (.seq (.reg [(0, 8, 2), (1, 16, 8), (2, 32, 16), (4, 64, 32), (0, 128, 2), (16, 256, 128), (32, 512, 256), (72, 1024, 512), (136, 2048, 1088), (384, 4096, 2048), (1023, 4, 4096)] [68, 68, 64, 64, 68, 68, 4, 0, 0, 0, 68] (.early 0 (.early 1 (.early 4 (.early 5 (.load 2 (.load 6 (.step 3 (.step 7 (.step 8 (.step 9 (.early 10 .done)))))))))))) .none))
theorem d9r (x0 : Value) (w : World) (R : RT) (E : Pan) : c6T x0 w R E = callX Tryd.prog [.tmp 2] e7r e7s [x0] w R E := by kernel_rfl
theorem d9s {x0 : Value} (h : c6T x0 w R E) : Cv Tryd.prog 174 #[x0] w R E := by
 refine g8 (args := [x0]) (c := e7r) (h := e7s) (rs := [.tmp 2]) Tryd.func174 (by kernel_rfl) (by kernel_rfl) (nB (by kernel_rfl)) (by kernel_rfl) (by kernel_rfl) (by kernel_rfl) ?_
 rw [← d9r]
 exact h
def b9c (x5 : Value) (w : World) (R : RT) (_E : Pan) : Prop :=
 ∀ _τ : Fr, (R x5 w)
def c5I (x1 x5 x8 x9 x10 : Value) (w : World) (next2 : NT) (j1 : NT) (_R : RT) (E : Pan) : Prop :=
 oP E (xBin .lss 3 (.tmp 10) (.tmp 9) x10 x9) w fun a5c w_6 =>
 xcond a5c
 (oP E (iA 25 x8 x10) w_6 fun a6W w_8 =>
 oP E (lA 27 a6W) w_8 fun a6X m4 =>
 oP E (xV (Instr.alloc 27 true (.tuple #[]))) m4 fun a3y o0 =>
 oP E (sA 27 a3y a6X) o0 fun _z_13 m8 =>
 oP E (lA 27 a3y) m8 fun a7B o8 =>
 oP E (xCall x1 [a7B]) o8 fun a5d p6 =>
 oP E (xV (Instr.buildSlice 124 1 #[(0, a5d)])) p6 fun a7C p7 =>
 oP E (xBuiltin .append #[124, 124] 124 [false, false] [x5, a7C]) p7 fun a5e q9 =>
 oP E (xBin .add 3 (.tmp 10) (.const (vI 1)) x10 (vI 1)) q9 fun a5f t8 =>
 next2 [a5e, a5f] t8)
 (j1 [x5] w_6)
def c6U (x0 x1 : Value) (w : World) (R : RT) (E : Pan) : Prop :=
 xcut (fun l_1 w_2 => b9c (nth l_1 0) w_2 R E) fun j1 =>
 oP E (xBuiltin .len #[25] 3 [false] [x0]) w fun a2o w_4 =>
 xloop [5, 10] [(nS), (vI 0)] w_4 fun τ_25 z8 next2 =>
 c5I x1 (τ_25 5) x0 a2o (τ_25 10) z8 next2 j1 R E
noncomputable def e7t : Code := Tryd.f175.body.getD .skip
def e7u : Hint := (sQ (sQ (.cut [5] (sQ (.block (.loop [5, 10] (sQ (.seq (.cond .none .none) (.seq (.block (sQ .none)) .none)))))) (sQ .none))))
theorem d9t (x0 x1 : Value) (w : World) (R : RT) (E : Pan) : c6U x0 x1 w R E = callX Tryd.prog [.tmp 4] e7t e7u [x0, x1] w R E := by kernel_rfl
theorem d9u {x0 x1 : Value} (h : c6U x0 x1 w R E) : Cv Tryd.prog 175 #[x0, x1] w R E := by
 refine g8 (args := [x0, x1]) (c := e7t) (h := e7u) (rs := [.tmp 4]) Tryd.func175 (by kernel_rfl) (by kernel_rfl) (nB (by kernel_rfl)) (by kernel_rfl) (by kernel_rfl) (by kernel_rfl) ?_
 rw [← d9t]
 exact h
def c6V (x0 : Value) (w : World) (R : RT) (E : Pan) : Prop :=
 oP E (xV (Instr.box 27 x0)) w fun s8 w_2 =>
 oP E (lA 27 s8) w_2 fun a2R w_4 =>
 oP E (xV (Instr.build 138 #[(0, a2R)])) w_4 fun a1C w_6 =>
 oP E (xV (Instr.makeInterface 138 a1C)) w_6 fun a4q w_8 =>
 R a4q w_8
noncomputable def e7v : Code := Tryd.f176.body.getD .skip
def e7w : Hint := (sQ (sQ .none))
theorem d9v (x0 : Value) (w : World) (R : RT) (E : Pan) : c6V x0 w R E = callX Tryd.prog [.tmp 2] e7v e7w [x0] w R E := by kernel_rfl
theorem d9w {x0 : Value} (h : c6V x0 w R E) : Cv Tryd.prog 176 #[x0] w R E := by
 refine g8 (args := [x0]) (c := e7v) (h := e7w) (rs := [.tmp 2]) Tryd.func176 (by kernel_rfl) (by kernel_rfl) (nB (by kernel_rfl)) (by kernel_rfl) (by kernel_rfl) (by kernel_rfl) ?_
 rw [← d9v]
 exact h
def c6W (x0 : Value) (w : World) (R : RT) (E : Pan) : Prop :=
 oP E (xV (Instr.box 177 x0)) w fun s8 w_2 =>
 oP E (fA 177 s8 0) w_2 fun a2R w_4 =>
 oP E (fA 58 a2R 1) w_4 fun a1C w_6 =>
 oP E (lA 3 a1C) w_6 fun a4q w_8 =>
 oP E (xBin .geq 3 (.tmp 5) (.const (vI 0)) a4q (vI 0)) w_8 fun b0T m4 =>
 oP E (gsem (asB b0T) true (fA 177 s8 0)) m4 fun b6N o0 =>
 oP E (gsem (asB b0T) true (fA 58 b6N 1)) o0 fun b0Z m8 =>
 oP E (gsem (asB b0T) true (lA 3 b0Z)) m8 fun b2Q o8 =>
 oP E (gsem (asB b0T) true (xBin .leq 3 (.tmp 10) (.const (vI 2147483647)) b2Q (vI 2147483647))) o8 fun b2R p6 =>
 oP E (xPick b0T b2R (vB false)) p6 fun b2S p7 =>
 R b2S p7
noncomputable def e7x : Code := Tryd.f177.body.getD .skip
def e7y : Hint := (sQ (sQ .none))
theorem d9x (x0 : Value) (w : World) (R : RT) (E : Pan) : c6W x0 w R E = callX Tryd.prog [.tmp 2] e7x e7y [x0] w R E := by kernel_rfl
theorem d9y {x0 : Value} (h : c6W x0 w R E) : Cv Tryd.prog 177 #[x0] w R E := by
 refine g8 (args := [x0]) (c := e7x) (h := e7y) (rs := [.tmp 2]) Tryd.func177 (by kernel_rfl) (by kernel_rfl) (nB (by kernel_rfl)) (by kernel_rfl) (by kernel_rfl) (by kernel_rfl) ?_
 rw [← d9x]
 exact h
def c6X (x0 : Value) (w : World) (R : RT) (E : Pan) : Prop :=
 oP E (xV (Instr.box 177 x0)) w fun _t1_1 w_2 =>
 R (nS) w_2
noncomputable def e7z : Code := Tryd.f178.body.getD .skip
def e7A : Hint := (sQ (sQ .none))
theorem d9z (x0 : Value) (w : World) (R : RT) (E : Pan) : c6X x0 w R E = callX Tryd.prog [.tmp 2] e7z e7A [x0] w R E := by kernel_rfl
theorem d9A {x0 : Value} (h : c6X x0 w R E) : Cv Tryd.prog 178 #[x0] w R E := by
 refine g8 (args := [x0]) (c := e7z) (h := e7A) (rs := [.tmp 2]) Tryd.func178 (by kernel_rfl) (by kernel_rfl) (nB (by kernel_rfl)) (by kernel_rfl) (by kernel_rfl) (by kernel_rfl) ?_
 rw [← d9z]
 exact h
def b9d (x4 x5 x35 x83 : Value) (w : World) (R : RT) (E : Pan) : Prop :=
 ∀ _τ : Fr, (xcond x83
 (oP E (gsem (asB x5) true (lA 227 x4)) w fun d9B a3A =>
 oP E (gsem (asB x5) true (xV (Instr.build 227 #[(0, (vI 0)), (1, (vI 1))]))) a3A fun d9C a5l =>
 oP E (gsem (asB x5) true (xBin .eql 227 (.tmp 88) (.tmp 89) d9B d9C)) a5l fun d9D a6g =>
 oP E (xPick x5 d9D (vB false)) a6g fun d9E a6Y =>
 R d9E a6Y)
 (oP E (xBin .eql 3 (.tmp 35) (.const (vI 7)) x35 (vI 7)) w fun d9F a6h =>
 xcond d9F
 (oP E (gsem (asB x5) true (lA 227 x4)) a6h fun d9G b1a =>
 oP E (gsem (asB x5) true (xV (Instr.build 227 #[]))) b1a fun d9H a6Z =>
 oP E (gsem (asB x5) true (xBin .eql 227 (.tmp 96) (.tmp 97) d9G d9H)) a6Z fun d9I b1b =>
 oP E (xPick x5 d9I (vB false)) b1b fun d9J b7c =>
 R d9J b7c)
 (R (vB false) a6h)))
def c6Y (x0 : Value) (w : World) (R : RT) (E : Pan) : Prop :=
 oP E (xV (Instr.box 179 x0)) w fun s8 w_2 =>
 oP E (fA 179 s8 0) w_2 fun a2V w_4 =>
 oP E (fA 63 a2V 4) w_4 fun a7J w_6 =>
 oP E (lA 42 a7J) w_6 fun a3b w_8 =>
 oP E (xBuiltin .len #[42] 3 [false] [a3b]) w_8 fun b2O m4 =>
 oP E (fA 179 s8 0) m4 fun c2k o0 =>
 oP E (fA 63 c2k 5) o0 fun b2Y m8 =>
 oP E (lA 42 b2Y) m8 fun c2l o8 =>
 oP E (xBuiltin .len #[42] 3 [false] [c2l]) o8 fun a5m p6 =>
 oP E (xBin .add 3 (.tmp 9) (.tmp 13) b2O a5m) p6 fun e7B p7 =>
 oP E (xBin .gtr 3 (.tmp 14) (.const (vI 0)) e7B (vI 0)) p7 fun c2m q9 =>
 oP E (fA 179 s8 0) q9 fun e7C t8 =>
 oP E (fA 63 e7C 2) t8 fun c2n z8 =>
 oP E (lA 22 c2n) z8 fun c2o B9 =>
 oP E (xBuiltin .len #[22] 3 [false] [c2o]) B9 fun c2p D3 =>
 oP E (fA 179 s8 0) D3 fun c2q B4 =>
 oP E (fA 63 c2q 3) B4 fun b7d C6 =>
 oP E (lA 25 b7d) C6 fun c2r E5 =>
 oP E (xBuiltin .len #[25] 3 [false] [c2r]) E5 fun c2s D4 =>
 oP E (xV (Instr.build 227 #[(0, c2p), (1, c2s)])) D4 fun e7D D6 =>
 oP E (xV (Instr.alloc 227 true (.tuple #[]))) D6 fun b4l G0 =>
 oP E (sA 227 b4l e7D) G0 fun _z_43 E7 =>
 oP E (fA 179 s8 0) E7 fun e7E K7 =>
 oP E (fA 63 e7E 1) K7 fun e7F J0 =>
 oP E (lA 9 e7F) J0 fun e7G F7 =>
 oP E (xBin .eql 9 (.tmp 27) (.const (eS)) e7G (eS)) F7 fun b2U E2 =>
 oP E (gsem (asB b2U) true (xV (Op.unary .not (gval (asB b2U) true c2m)))) E2 fun e7H L0 =>
 oP E (xPick b2U e7H (vB false)) L0 fun e7I L4 =>
 oP E (fA 179 s8 0) L4 fun e7J L1 =>
 oP E (fA 63 e7J 0) L1 fun e7K N8 =>
 oP E (lA 3 e7K) N8 fun a7M L5 =>
 oP E (xBin .eql 3 (.tmp 35) (.const (vI 1)) a7M (vI 1)) L5 fun e7L M4 =>
 xcond e7L
 (oP E (xV (Op.unary .not c2m)) M4 fun b7e N9 =>
 oP E (gsem (asB b7e) true (lA 227 b4l)) N9 fun e7M O0 =>
 oP E (gsem (asB b7e) true (xV (Instr.build 227 #[(0, (vI 1)), (1, (vI 0))]))) O0 fun e7N L2 =>
 oP E (gsem (asB b7e) true (xBin .eql 227 (.tmp 41) (.tmp 42) e7M e7N)) L2 fun e7O O4 =>
 oP E (xPick b7e e7O (vB false)) O4 fun e7P O5 =>
 R e7P O5)
 (oP E (xBin .eql 3 (.tmp 35) (.const (vI 2)) a7M (vI 2)) M4 fun c2t Q7 =>
 xcond c2t
 (oP E (xV (Op.unary .not c2m)) Q7 fun b7f N0 =>
 oP E (gsem (asB b7f) true (lA 227 b4l)) N0 fun e7Q R8 =>
 oP E (gsem (asB b7f) true (xV (Instr.build 227 #[(0, (vI 2)), (1, (vI 0))]))) R8 fun e7R P9 =>
 oP E (gsem (asB b7f) true (xBin .eql 227 (.tmp 50) (.tmp 51) e7Q e7R)) P9 fun e7S O6 =>
 oP E (xPick b7f e7S (vB false)) O6 fun e7T R9 =>
 R e7T R9)
 (oP E (xBin .eql 3 (.tmp 35) (.const (vI 3)) a7M (vI 3)) Q7 fun e7U M5 =>
 xcond e7U
 (oP E (fA 179 s8 0) M5 fun e7V X6 =>
 oP E (fA 63 e7V 1) X6 fun e7W a0Q =>
 oP E (lA 9 e7W) a0Q fun e7X a0y =>
 oP E (xBin .eql 9 (.tmp 58) (.const (eS)) e7X (eS)) a0y fun b7g a0e =>
 oP E (gsem (asB b7g) true (lA 227 b4l)) a0e fun e7Y a0k =>
 oP E (gsem (asB b7g) true (xV (Instr.build 227 #[(0, (vI 0)), (1, (vI 1))]))) a0k fun e7Z T0 =>
 oP E (gsem (asB b7g) true (xBin .eql 227 (.tmp 61) (.tmp 62) e7Y e7Z)) T0 fun d9K N2 =>
 oP E (xPick b7g d9K (vB false)) N2 fun d9L O1 =>
 R d9L O1)
 (oP E (xBin .eql 3 (.tmp 35) (.const (vI 4)) a7M (vI 4)) M5 fun d9M U1 =>
 xcond d9M
 (oP E (fA 179 s8 0) U1 fun d9N a1u =>
 oP E (fA 63 d9N 1) a1u fun d9O a2Y =>
 oP E (lA 9 d9O) a2Y fun d9P a1v =>
 oP E (xBin .eql 9 (.tmp 69) (.const (eS)) d9P (eS)) a1v fun a7n Q8 =>
 oP E (gsem (asB a7n) true (fA 179 s8 0)) Q8 fun d9Q U2 =>
 oP E (gsem (asB a7n) true (fA 63 d9Q 5)) U2 fun d9R a2p =>
 oP E (gsem (asB a7n) true (lA 42 d9R)) a2p fun d9S Q0 =>
 oP E (gsem (asB a7n) true (xBuiltin .len #[42] 3 [false] [d9S])) Q0 fun d9T a1H =>
 oP E (gsem (asB a7n) true (xBin .eql 3 (.tmp 75) (.const (vI 0)) d9T (vI 0))) a1H fun d9U a4i =>
 oP E (xPick a7n d9U (vB false)) a4i fun b4m a5n =>
 oP E (gsem (asB b4m) true (lA 227 b4l)) a5n fun d9V a4j =>
 oP E (gsem (asB b4m) true (xV (Instr.build 227 #[(0, (vI 0)), (1, (vI 1))]))) a4j fun d9W a4k =>
 oP E (gsem (asB b4m) true (xBin .eql 227 (.tmp 79) (.tmp 80) d9V d9W)) a4k fun d9X a2r =>
 oP E (xPick b4m d9X (vB false)) a2r fun d9Y a2s =>
 R d9Y a2s)
 (xcut (fun f8e b7h => b9d b4l e7I a7M (nth f8e 0) b7h R E) fun j1 =>
 oP E (xBin .eql 3 (.tmp 35) (.const (vI 5)) a7M (vI 5)) U1 fun c5J b4n =>
 xcond c5J
 (j1 [c5J] b4n)
 (oP E (xBin .eql 3 (.tmp 35) (.const (vI 6)) a7M (vI 6)) b4n fun d9Z b7i =>
 j1 [d9Z] b7i)))))
noncomputable def e8a : Code := Tryd.f179.body.getD .skip
def e8b : Hint := (sQ (sQ (sQ (sQ (.seq (sQ (.block (sQ (.cond (sQ .none) (sQ (.cond (sQ .none) (sQ (.cond (sQ .none) (sQ (.cond (sQ .none) (.cut [83] (sQ (.cond .none .none)) (.cond (sQ .none) (sQ (.cond (sQ .none) .none)))))))))))))) (sQ .none))))))
theorem e0a (x0 : Value) (w : World) (R : RT) (E : Pan) : c6Y x0 w R E = callX Tryd.prog [.tmp 2] e8a e8b [x0] w R E := by kernel_rfl
theorem e0b {x0 : Value} (h : c6Y x0 w R E) : Cv Tryd.prog 179 #[x0] w R E := by
 refine g8 (args := [x0]) (c := e8a) (h := e8b) (rs := [.tmp 2]) Tryd.func179 (by kernel_rfl) (by kernel_rfl) (nB (by kernel_rfl)) (by kernel_rfl) (by kernel_rfl) (by kernel_rfl) ?_
 rw [← e0a]
 exact h
def c6Z (x0 : Value) (w : World) (R : RT) (E : Pan) : Prop :=
 oP E (xV (Instr.box 179 x0)) w fun s8 w_2 =>
 dX w_2 fun w_3 =>
 qP Tryd.prog (fA 179 s8 0) fun b8E =>
 qP Tryd.prog (fA 63 b8E 3) fun a1C =>
 qP Tryd.prog (fA 179 s8 0) fun d2I =>
 qP Tryd.prog (fA 63 d2I 2) fun a3b =>
 qP Tryd.prog (fA 179 s8 0) fun f8f =>
 qP Tryd.prog (fA 63 f8f 4) fun b4o =>
 qP Tryd.prog (fA 179 s8 0) fun e8c =>
 qP Tryd.prog (fA 63 e8c 5) fun a5j =>
 qL Tryd.prog w_3 (blk a1C) (lA 25 a1C) fun f8g =>
 qL Tryd.prog w_3 (blk a3b) (lA 22 a3b) fun b0Z =>
 qL Tryd.prog w_3 (blk b4o) (lA 42 b4o) fun e8d =>
 qL Tryd.prog w_3 (blk a5j) (lA 42 a5j) fun a1Z =>
 oP E (xCall (fC 175) [f8g, (fC 176)]) w_3 fun f8h a1Y =>
 keepX [(blk a5j), (blk b4o), (blk a3b)] w_3 a1Y (opK Tryd.prog E (xCall (fC 171) [b0Z, (fC 172)]) a1Y fun e8e a2T =>
 keepX [(blk a5j), (blk b4o)] a1Y a2T (opK Tryd.prog E (xCall (fC 90) [e8d, (fC 91)]) a2T fun e8f a1D =>
 keepX [(blk a5j)] a2T a1D (opK Tryd.prog E (xCall (fC 90) [a1Z, (fC 91)]) a1D fun e8g a3d =>
 keepX [] a1D a3d (opK Tryd.prog E (xV (Instr.buildSlice 174 4 #[(0, f8h), (1, e8e), (2, e8f), (3, e8g)])) a3d fun e8h b0U =>
 keepX [] a3d b0U (opK Tryd.prog E (xCall (fC 87) [e8h]) b0U fun e8i a2U =>
 keepX [] b0U a2U (R e8i a2U))))))
noncomputable def e8j : Code := Tryd.f180.body.getD .skip
def e8k : Hint := (sQ (.seq (.reg [(0, 8, 2), (1, 16, 8), (2, 32, 16), (4, 64, 32), (0, 128, 2), (16, 256, 128), (32, 512, 256), (72, 1024, 512), (0, 2048, 2), (256, 4096, 2048), (512, 8192, 4096), (1152, 16384, 8192), (0, 32768, 2), (4096, 65536, 32768), (8192, 131072, 65536), (18432, 262144, 131072), (34952, 524288, 279616), (98304, 1048576, 524288), (262143, 4, 1048576)] [17476, 17476, 17472, 17472, 17476, 17476, 17412, 17408, 17476, 17476, 16452, 16384, 17476, 17476, 1092, 0, 0, 0, 17476] (.early 0 (.early 1 (.early 4 (.early 5 (.early 8 (.early 9 (.early 12 (.early 13 (.load 2 (.load 6 (.load 10 (.load 14 (.step 3 (.step 7 (.step 11 (.step 15 (.step 16 (.step 17 (.early 18 .done)))))))))))))))))))) .none))
theorem e0c (x0 : Value) (w : World) (R : RT) (E : Pan) : c6Z x0 w R E = callX Tryd.prog [.tmp 2] e8j e8k [x0] w R E := by kernel_rfl
theorem e0d {x0 : Value} (h : c6Z x0 w R E) : Cv Tryd.prog 180 #[x0] w R E := by
 refine g8 (args := [x0]) (c := e8j) (h := e8k) (rs := [.tmp 2]) Tryd.func180 (by kernel_rfl) (by kernel_rfl) (nB (by kernel_rfl)) (by kernel_rfl) (by kernel_rfl) (by kernel_rfl) ?_
 rw [← e0c]
 exact h
end Go.Proofs.YtnhkdkcgdcgmdaaDoor
