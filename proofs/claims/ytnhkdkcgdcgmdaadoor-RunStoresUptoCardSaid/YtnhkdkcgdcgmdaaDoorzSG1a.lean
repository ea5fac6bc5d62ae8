/- The second reading of some of the program's functions, printed by gen2.py off the code; each is held against the code by the kernel. -/
import Derived.Test.YtnhkdkcgdcgmdaaDoorProg
import Derived.Test.YtnhkdkcgdcgmdaaDoorzSK0
import Derived.KernelRfl
import Derived.Test.YtnhkdkcgdcgmdaaDoorzSGz
namespace Go.Proofs.YtnhkdkcgdcgmdaaDoor
open Go.RowKit
set_option maxRecDepth 100000
variable {w : World} {R : RT} {E : Pan}
def F52 (x0 : Value) (w : World) (R : RT) (E : Pan) : Prop :=
 oP E (xV (Instr.box 44 x0)) w fun u4 w_2 =>
 dX w_2 fun w_3 =>
 qP Tryd.prog (fA 44 u4 0) fun b8X =>
 qP Tryd.prog (fA 44 u4 1) fun a6N =>
 qL Tryd.prog w_3 (blk b8X) (lA 41 b8X) fun g2P =>
 qL Tryd.prog w_3 (blk a6N) (lA 42 a6N) fun a9R =>
 oP E (xCall (fC 88) [g2P, (fC 89)]) w_3 fun d3o w_9 =>
 keepX [(blk a6N)] w_3 w_9 (opK Tryd.prog E (xCall (fC 90) [a9R, (fC 91)]) w_9 fun f9F a0I =>
 keepX [] w_9 a0I (opK Tryd.prog E (xV (Instr.buildSlice 174 2 #[(0, d3o), (1, f9F)])) a0I fun f9G a0w =>
 keepX [] a0I a0w (opK Tryd.prog E (xCall (fC 87) [f9G]) a0w fun e5I b5P =>
 keepX [] a0w b5P (opK Tryd.prog E (xCall (fC 60) [e5I]) b5P fun b2R a2k =>
 keepX [] b5P a2k (R b2R a2k)))))
noncomputable def c52 : Code := Tryd.f52.body.getD .skip
def h52 : Hint := (sQ (.seq (.reg [(0, 8, 2), (1, 16, 8), (2, 32, 16), (0, 64, 2), (8, 128, 64), (20, 256, 128), (36, 512, 288), (96, 1024, 512), (128, 2048, 1024), (511, 4, 2048)] [18, 16, 16, 18, 2, 0, 0, 0, 0, 18] (.early 0 (.early 3 (.load 1 (.load 4 (.step 2 (.step 5 (.step 6 (.step 7 (.step 8 (.early 9 .done))))))))))) .none))
theorem e5J (x0 : Value) (w : World) (R : RT) (E : Pan) : F52 x0 w R E = callX Tryd.prog [.tmp 2] c52 h52 [x0] w R E := by kernel_rfl
theorem e5K {x0 : Value} (h : F52 x0 w R E) : Cv Tryd.prog 52 #[x0] w R E := by
 refine g8 (args := [x0]) (c := c52) (h := h52) (rs := [.tmp 2]) Tryd.func52 (by kernel_rfl) (by kernel_rfl) (nB (by kernel_rfl)) (by kernel_rfl) (by kernel_rfl) (by kernel_rfl) ?_
 rw [← e5J]
 exact h
def F53 (x0 : Value) (w : World) (R : RT) (E : Pan) : Prop :=
 oP E (xV (Instr.box 44 x0)) w fun u4 w_2 =>
 oP E (lA 44 u4) w_2 fun a3g w_4 =>
 oP E (xCall (fC 52) [a3g]) w_4 fun a1M w_6 =>
 oP E (xNil a1M) w_6 fun a4E w_8 =>
 oP E (fA 106 a4E 2) w_8 fun b1h m7 =>
 oP E (lA 29 b1h) m7 fun a3N o4 =>
 R a3N o4
noncomputable def c53 : Code := Tryd.f53.body.getD .skip
def h53 : Hint := (sQ (sQ .none))
theorem e5L (x0 : Value) (w : World) (R : RT) (E : Pan) : F53 x0 w R E = callX Tryd.prog [.tmp 2] c53 h53 [x0] w R E := by kernel_rfl
theorem e5M {x0 : Value} (h : F53 x0 w R E) : Cv Tryd.prog 53 #[x0] w R E := by
 refine g8 (args := [x0]) (c := c53) (h := h53) (rs := [.tmp 2]) Tryd.func53 (by kernel_rfl) (by kernel_rfl) (nB (by kernel_rfl)) (by kernel_rfl) (by kernel_rfl) (by kernel_rfl) ?_
 rw [← e5L]
 exact h
def c1Q (x3 : Value) (w : World) (R : RT) (E : Pan) : Prop :=
 ∀ _τ : Fr, (oP E (lA 102 x3) w fun e5N p7 =>
 R e5N p7)
def F60 (x0 : Value) (w : World) (R : RT) (E : Pan) : Prop :=
 oP E (xV (Instr.build 106 #[])) w fun b2S w_2 =>
 oP E (xV (Instr.box 106 b2S)) w_2 fun a7N w_4 =>
 oP E (xV (Instr.alloc 102 true (.tuple #[]))) w_4 fun b5Q w_6 =>
 oP E (sA 102 b5Q a7N) w_6 fun _z_7 w_8 =>
 oP E (xV (Instr.alloc 161 true (.tuple #[]))) w_8 fun d3p m7 =>
 oP E (xV (Instr.makeFunc (.func 99) #[] #[b5Q, d3p])) m7 fun b7l o4 =>
 oP E (sA 161 d3p b7l) o4 fun _z_13 o3 =>
 xcut (fun _ p8 => c1Q b5Q p8 R E) fun j1 =>
 oP E (lA 161 d3p) o3 fun f9H q7 =>
 oP E (xCall f9H [x0, (vI 1)]) q7 fun e5O r8 =>
 oP E (xV (Op.unary .not e5O)) r8 fun c1R u1 =>
 xcond c1R
 (j1 [] u1)
 (oP E (lA 102 b5Q) u1 fun e5P z6 =>
 oP E (xNil e5P) z6 fun e5Q C0 =>
 oP E (fA 106 e5Q 3) C0 fun b7m D3 =>
 oP E (lA 4 b7m) D3 fun e5R B8 =>
 xcond e5R
 (oP E (lA 102 b5Q) B8 fun e5S C3 =>
 oP E (xNil e5S) C3 fun e5T E9 =>
 oP E (fA 106 e5T 2) E9 fun e5U C7 =>
 oP E (sA 29 e5U (vI 30)) C7 fun _z_39 D5 =>
 j1 [] D5)
 (oP E (lA 102 b5Q) B8 fun e5V G4 =>
 oP E (xNil e5V) G4 fun b2T F0 =>
 oP E (fA 106 b2T 4) F0 fun e5W K9 =>
 oP E (lA 4 e5W) K9 fun e5X J0 =>
 xcond e5X
 (oP E (lA 102 b5Q) J0 fun e5Y G2 =>
 oP E (xNil e5Y) G2 fun e5Z E1 =>
 oP E (fA 106 e5Z 2) E1 fun e6a L2 =>
 oP E (sA 29 e6a (vI 31)) L2 fun _z_55 M3 =>
 j1 [] M3)
 (j1 [] J0)))
noncomputable def c60 : Code := Tryd.f60.body.getD .skip
def h60 : Hint := (sQ (sQ (sQ (sQ (.cut [] (sQ (.block (sQ (.cond .none (sQ (.cond .none (sQ (.cond .none .none)))))))) (sQ .none))))))
theorem e6b (x0 : Value) (w : World) (R : RT) (E : Pan) : F60 x0 w R E = callX Tryd.prog [.tmp 2] c60 h60 [x0] w R E := by kernel_rfl
theorem e6c {x0 : Value} (h : F60 x0 w R E) : Cv Tryd.prog 60 #[x0] w R E := by
 refine g8 (args := [x0]) (c := c60) (h := h60) (rs := [.tmp 2]) Tryd.func60 (by kernel_rfl) (by kernel_rfl) (nB (by kernel_rfl)) (by kernel_rfl) (by kernel_rfl) (by kernel_rfl) ?_
 rw [← e6b]
 exact h
def c1S (x6 : Value) (w : World) (R : RT) (_E : Pan) : Prop :=
 ∀ _τ : Fr, (R x6 w)
def d0t (x6 x25 x26 x27 : Value) (w : World) (next3 : NT) (j2 : NT) (_R : RT) (E : Pan) : Prop :=
 oP E (xBin .lss 3 (.tmp 27) (.tmp 26) x27 x26) w fun f9I w_8 =>
 xcond f9I
 (oP E (iA 174 x25 x27) w_8 fun f9J m7 =>
 oP E (lA 124 f9J) m7 fun e6d o4 =>
 oP E (xBuiltin .append #[124, 124] 124 [false, false] [x6, e6d]) o4 fun b7n o3 =>
 oP E (xBin .add 3 (.tmp 27) (.const (vI 1)) x27 (vI 1)) o3 fun e6e p7 =>
 next3 [b7n, e6e] p7)
 (j2 [x6] w_8)
def c1T (x0 x3 : Value) (w : World) (R : RT) (E : Pan) : Prop :=
 ∀ _τ : Fr, (oP E (xCall (fC 117) [(nS), x3]) w fun f9K w_2 =>
 xcut (fun l_3 w_4 => c1S (nth l_3 0) w_4 R E) fun j2 =>
 oP E (xBuiltin .len #[174] 3 [false] [x0]) w_2 fun f9L w_6 =>
 xloop [6, 27] [f9K, (vI 0)] w_6 fun τ_17 p8 next3 =>
 d0t (τ_17 6) x0 f9L (τ_17 27) p8 next3 j2 R E)
def c1U (_x0 x3 _x9 _x10 x11 : Value) (w : World) (next4 : NT) (_R : RT) (E : Pan) : Prop :=
 ∀ _τ : Fr, (oP E (xBin .add 3 (.tmp 11) (.const (vI 1)) x11 (vI 1)) w fun b2U z6 =>
 next4 [x3, b2U] z6)
def d0u (x0 x3 x9 x10 x11 : Value) (w : World) (next4 : NT) (j1 : NT) (R : RT) (E : Pan) : Prop :=
 oP E (xBin .lss 3 (.tmp 11) (.tmp 10) x11 x10) w fun e6f u1 =>
 xcond e6f
 (xcut (fun d3q C0 => c1U x0 (nth d3q 0) x9 x10 x11 C0 next4 R E) fun j5 =>
 oP E (iA 174 x9 x11) u1 fun e6g D3 =>
 oP E (lA 124 e6g) D3 fun e6h B8 =>
 oP E (xBuiltin .len #[124] 3 [false] [e6h]) B8 fun c1V C3 =>
 oP E (xBin .add 3 (.tmp 15) (.tmp 17) x3 c1V) C3 fun b2V E9 =>
 oP E (xBin .lss 3 (.tmp 19) (.const (vI 0)) b2V (vI 0)) E9 fun c1W C7 =>
 xcond c1W
 (oP E (xV (Instr.makeInterface 9 (Value.string ⟨#[108, 101, 110, 32, 111, 117, 116, 32, 111, 102, 32, 114, 97, 110, 103, 101]⟩))) C7 fun b7o D5 =>
 oP E (xV (Instr.panic b7o)) D5 fun _z_41 G4 =>
 j5 [b2V] G4)
 (j5 [b2V] C7))
 (j1 [x3] u1)
def F87 (x0 : Value) (w : World) (R : RT) (E : Pan) : Prop :=
 xcut (fun a3h q7 => c1T x0 (nth a3h 0) q7 R E) fun j1 =>
 oP E (xBuiltin .len #[174] 3 [false] [x0]) w fun e6i r8 =>
 xloop [3, 11] [(vI 0), (vI 0)] r8 fun τ_43 F0 next4 =>
 d0u x0 (τ_43 3) x0 e6i (τ_43 11) F0 next4 j1 R E
noncomputable def c87 : Code := Tryd.f87.body.getD .skip
def h87 : Hint := (sQ (sQ (.cut [3] (sQ (.block (.loop [3, 11] (sQ (.seq (.cond .none .none) (.cut [3] (.block (sQ (sQ (sQ (.cond .none .none))))) .none)))))) (sQ (.cut [6] (sQ (.block (.loop [6, 27] (sQ (.seq (.cond .none .none) (.seq (.block (sQ .none)) .none)))))) (sQ .none))))))
theorem e6j (x0 : Value) (w : World) (R : RT) (E : Pan) : F87 x0 w R E = callX Tryd.prog [.tmp 2] c87 h87 [x0] w R E := by kernel_rfl
theorem e6k {x0 : Value} (h : F87 x0 w R E) : Cv Tryd.prog 87 #[x0] w R E := by
 refine g8 (args := [x0]) (c := c87) (h := h87) (rs := [.tmp 2]) Tryd.func87 (by kernel_rfl) (by kernel_rfl) (nB (by kernel_rfl)) (by kernel_rfl) (by kernel_rfl) (by kernel_rfl) ?_
 rw [← e6j]
 exact h
def c1X (x5 : Value) (w : World) (R : RT) (_E : Pan) : Prop :=
 ∀ _τ : Fr, (R x5 w)
def d0v (x1 x5 x8 x9 x10 : Value) (w : World) (next2 : NT) (j1 : NT) (_R : RT) (E : Pan) : Prop :=
 oP E (xBin .lss 3 (.tmp 10) (.tmp 9) x10 x9) w fun a5t w_6 =>
 xcond a5t
 (oP E (iA 41 x8 x10) w_6 fun a7k w_8 =>
 oP E (lA 58 a7k) w_8 fun a7l m7 =>
 oP E (xV (Instr.alloc 58 true (.tuple #[]))) m7 fun a3N o4 =>
 oP E (sA 58 a3N a7l) o4 fun _z_13 o3 =>
 oP E (lA 58 a3N) o3 fun a7O p7 =>
 oP E (xCall x1 [a7O]) p7 fun a5u p8 =>
 oP E (xV (Instr.buildSlice 124 1 #[(0, a5u)])) p8 fun a7P q7 =>
 oP E (xBuiltin .append #[124, 124] 124 [false, false] [x5, a7P]) q7 fun a5v r8 =>
 oP E (xBin .add 3 (.tmp 10) (.const (vI 1)) x10 (vI 1)) r8 fun a5w u1 =>
 next2 [a5v, a5w] u1)
 (j1 [x5] w_6)
def F88 (x0 x1 : Value) (w : World) (R : RT) (E : Pan) : Prop :=
 xcut (fun l_1 w_2 => c1X (nth l_1 0) w_2 R E) fun j1 =>
 oP E (xBuiltin .len #[41] 3 [false] [x0]) w fun a2z w_4 =>
 xloop [5, 10] [(nS), (vI 0)] w_4 fun τ_25 z6 next2 =>
 d0v x1 (τ_25 5) x0 a2z (τ_25 10) z6 next2 j1 R E
noncomputable def c88 : Code := Tryd.f88.body.getD .skip
def h88 : Hint := (sQ (sQ (.cut [5] (sQ (.block (.loop [5, 10] (sQ (.seq (.cond .none .none) (.seq (.block (sQ .none)) .none)))))) (sQ .none))))
theorem e6l (x0 x1 : Value) (w : World) (R : RT) (E : Pan) : F88 x0 x1 w R E = callX Tryd.prog [.tmp 4] c88 h88 [x0, x1] w R E := by kernel_rfl
theorem e6m {x0 x1 : Value} (h : F88 x0 x1 w R E) : Cv Tryd.prog 88 #[x0, x1] w R E := by
 refine g8 (args := [x0, x1]) (c := c88) (h := h88) (rs := [.tmp 4]) Tryd.func88 (by kernel_rfl) (by kernel_rfl) (nB (by kernel_rfl)) (by kernel_rfl) (by kernel_rfl) (by kernel_rfl) ?_
 rw [← e6l]
 exact h
def F89 (x0 : Value) (w : World) (R : RT) (E : Pan) : Prop :=
 oP E (xV (Instr.box 58 x0)) w fun u4 w_2 =>
 oP E (lA 58 u4) w_2 fun a3g w_4 =>
 oP E (xV (Instr.build 177 #[(0, a3g)])) w_4 fun a1M w_6 =>
 oP E (xV (Instr.makeInterface 177 a1M)) w_6 fun a4E w_8 =>
 R a4E w_8
noncomputable def c89 : Code := Tryd.f89.body.getD .skip
def h89 : Hint := (sQ (sQ .none))
theorem e6n (x0 : Value) (w : World) (R : RT) (E : Pan) : F89 x0 w R E = callX Tryd.prog [.tmp 2] c89 h89 [x0] w R E := by kernel_rfl
theorem e6o {x0 : Value} (h : F89 x0 w R E) : Cv Tryd.prog 89 #[x0] w R E := by
 refine g8 (args := [x0]) (c := c89) (h := h89) (rs := [.tmp 2]) Tryd.func89 (by kernel_rfl) (by kernel_rfl) (nB (by kernel_rfl)) (by kernel_rfl) (by kernel_rfl) (by kernel_rfl) ?_
 rw [← e6n]
 exact h
def c1Y (x5 : Value) (w : World) (R : RT) (_E : Pan) : Prop :=
 ∀ _τ : Fr, (R x5 w)
def d0w (x1 x5 x8 x9 x10 : Value) (w : World) (next2 : NT) (j1 : NT) (_R : RT) (E : Pan) : Prop :=
 oP E (xBin .lss 3 (.tmp 10) (.tmp 9) x10 x9) w fun a5t w_6 =>
 xcond a5t
 (oP E (iA 42 x8 x10) w_6 fun a7k w_8 =>
 oP E (lA 63 a7k) w_8 fun a7l m7 =>
 oP E (xV (Instr.alloc 63 true (.tuple #[]))) m7 fun a3N o4 =>
 oP E (sA 63 a3N a7l) o4 fun _z_13 o3 =>
 oP E (lA 63 a3N) o3 fun a7O p7 =>
 oP E (xCall x1 [a7O]) p7 fun a5u p8 =>
 oP E (xV (Instr.buildSlice 124 1 #[(0, a5u)])) p8 fun a7P q7 =>
 oP E (xBuiltin .append #[124, 124] 124 [false, false] [x5, a7P]) q7 fun a5v r8 =>
 oP E (xBin .add 3 (.tmp 10) (.const (vI 1)) x10 (vI 1)) r8 fun a5w u1 =>
 next2 [a5v, a5w] u1)
 (j1 [x5] w_6)
def F90 (x0 x1 : Value) (w : World) (R : RT) (E : Pan) : Prop :=
 xcut (fun l_1 w_2 => c1Y (nth l_1 0) w_2 R E) fun j1 =>
 oP E (xBuiltin .len #[42] 3 [false] [x0]) w fun a2z w_4 =>
 xloop [5, 10] [(nS), (vI 0)] w_4 fun τ_25 z6 next2 =>
 d0w x1 (τ_25 5) x0 a2z (τ_25 10) z6 next2 j1 R E
noncomputable def c90 : Code := Tryd.f90.body.getD .skip
def h90 : Hint := (sQ (sQ (.cut [5] (sQ (.block (.loop [5, 10] (sQ (.seq (.cond .none .none) (.seq (.block (sQ .none)) .none)))))) (sQ .none))))
theorem e6p (x0 x1 : Value) (w : World) (R : RT) (E : Pan) : F90 x0 x1 w R E = callX Tryd.prog [.tmp 4] c90 h90 [x0, x1] w R E := by kernel_rfl
theorem e6q {x0 x1 : Value} (h : F90 x0 x1 w R E) : Cv Tryd.prog 90 #[x0, x1] w R E := by
 refine g8 (args := [x0, x1]) (c := c90) (h := h90) (rs := [.tmp 4]) Tryd.func90 (by kernel_rfl) (by kernel_rfl) (nB (by kernel_rfl)) (by kernel_rfl) (by kernel_rfl) (by kernel_rfl) ?_
 rw [← e6p]
 exact h
def F91 (x0 : Value) (w : World) (R : RT) (E : Pan) : Prop :=
 oP E (xV (Instr.box 63 x0)) w fun u4 w_2 =>
 oP E (lA 63 u4) w_2 fun a3g w_4 =>
 oP E (xV (Instr.build 179 #[(0, a3g)])) w_4 fun a1M w_6 =>
 oP E (xV (Instr.makeInterface 179 a1M)) w_6 fun a4E w_8 =>
 R a4E w_8
noncomputable def c91 : Code := Tryd.f91.body.getD .skip
def h91 : Hint := (sQ (sQ .none))
theorem e6r (x0 : Value) (w : World) (R : RT) (E : Pan) : F91 x0 w R E = callX Tryd.prog [.tmp 2] c91 h91 [x0] w R E := by kernel_rfl
theorem e6s {x0 : Value} (h : F91 x0 w R E) : Cv Tryd.prog 91 #[x0] w R E := by
 refine g8 (args := [x0]) (c := c91) (h := h91) (rs := [.tmp 2]) Tryd.func91 (by kernel_rfl) (by kernel_rfl) (nB (by kernel_rfl)) (by kernel_rfl) (by kernel_rfl) (by kernel_rfl) ?_
 rw [← e6r]
 exact h
def c1Z (w : World) (R : RT) (_E : Pan) : Prop :=
 ∀ _τ : Fr, (R (vB true) w)
def d0x (x1 x2 x3 x9 x10 x11 : Value) (w : World) (next2 : NT) (j1 : NT) (R : RT) (E : Pan) : Prop :=
 oP E (xBin .lss 3 (.tmp 11) (.tmp 10) x11 x10) w fun a5x w_6 =>
 xcond a5x
 (oP E (iA 124 x9 x11) w_6 fun a5y w_8 =>
 oP E (lA 152 a5y) w_8 fun a3O m7 =>
 dX m7 fun a0I =>
 qL Tryd.prog a0I (blk x2) (lA 102 x2) fun e6t =>
 oP E (xCall (fC 100) [e6t, a3O, x1]) a0I fun a7Q o3 =>
 keepX [] a0I o3 (qP Tryd.prog (xV (Op.unary .not a7Q)) fun a2Z =>
 qP Tryd.prog (gsem (asB a2Z) false (xBin .add 3 (.tmp 24) (.const (vI 1)) (gval (asB a2Z) false x1) (vI 1))) fun e6u =>
 qL Tryd.prog o3 (blk x3) (gsem (asB a2Z) false (lA 161 x3)) fun b0o =>
 oP E (gsem (asB a2Z) false (xInvoke (gval (asB a2Z) false a3O) "gnomon/tree.parts" [])) o3 fun e6v a3s =>
 keepX [(blk x3)] o3 a3s (opK Tryd.prog E (gsem (asB a2Z) false (xCall b0o [e6v, e6u])) a3s fun e6w a1N =>
 keepX [] a3s a1N (qP Tryd.prog (gsem (asB a2Z) false (xV (Op.unary .not e6w))) fun e6x =>
 qP Tryd.prog (xPick a2Z (vB true) e6x) fun c2a =>
 xcond c2a
 (R (vB false) a1N)
 (oP E (xBin .add 3 (.tmp 11) (.const (vI 1)) x11 (vI 1)) a1N fun e6y b1i =>
 next2 [e6y] b1i)))))
 (j1 [] w_6)
def F99 (x0 x1 x2 x3 : Value) (w : World) (R : RT) (E : Pan) : Prop :=
 xcut (fun _ w_2 => c1Z w_2 R E) fun j1 =>
 oP E (xBuiltin .len #[124] 3 [false] [x0]) w fun b1j w_4 =>
 xloop [11] [(vI 0)] w_4 fun τ_26 a3i next2 =>
 d0x x1 x2 x3 x0 b1j (τ_26 11) a3i next2 j1 R E
noncomputable def c99 : Code := Tryd.f99.body.getD .skip
def h99 : Hint := (sQ (.cut [] (sQ (.block (.loop [11] (sQ (.seq (.cond .none .none) (.seq (.block (sQ (.seq (.reg [(0, 32768, 4), (0, 65536, 256), (0, 131072, 2), (7, 262144, 229376), (8, 524288, 262144), (24, 1048576, 524288), (32, 2097152, 1048584), (32, 4194304, 1048832), (160, 8388608, 5242880), (32, 16777216, 1048578), (544, 33554432, 17825792), (1376, 67108864, 45088768), (2080, 134217728, 68157440), (4128, 268435456, 135266304)] [64, 65, 65, 0, 65, 65, 1, 65, 64, 65, 65, 0, 65, 65] (.early 1 (.early 2 (.load 0 (.step 3 (.early 4 (.early 5 (.early 7 (.early 9 (.early 10 (.load 6 (.step 8 (.step 11 (.early 12 (.early 13 .done))))))))))))))) (.cond (sQ .none) .none)))) .none)))))) (sQ .none)))
theorem e6z (x0 x1 x2 x3 : Value) (w : World) (R : RT) (E : Pan) : F99 x0 x1 x2 x3 w R E = callX Tryd.prog [.tmp 6] c99 h99 [x0, x1, x2, x3] w R E := by kernel_rfl
theorem e6A {x0 x1 x2 x3 : Value} (h : F99 x0 x1 x2 x3 w R E) : Cv Tryd.prog 99 #[x0, x1, x2, x3] w R E := by
 refine g8 (args := [x0, x1, x2, x3]) (c := c99) (h := h99) (rs := [.tmp 6]) Tryd.func99 (by kernel_rfl) (by kernel_rfl) (nB (by kernel_rfl)) (by kernel_rfl) (by kernel_rfl) (by kernel_rfl) ?_
 rw [← e6z]
 exact h
def b8Y (w : World) (R : RT) (_E : Pan) : Prop :=
 ∀ _τ : Fr, (R (vB true) w)
def c6W (x0 x1 x2 : Value) (w : World) (R : RT) (E : Pan) : Prop :=
 oP E (xNil x0) w fun b4A w_2 =>
 oP E (fA 106 b4A 0) w_2 fun a0J w_4 =>
 oP E (lA 3 a0J) w_4 fun a5x w_6 =>
 oP E (xBin .add 3 (.tmp 12) (.const (vI 1)) a5x (vI 1)) w_6 fun a5y w_8 =>
 oP E (xNil x0) w_8 fun a3O m7 =>
 oP E (fA 106 a3O 0) m7 fun a5z o4 =>
 oP E (sA 3 a5z a5y) o4 fun _z_13 o3 =>
 oP E (xNil x0) o3 fun a2l p7 =>
 oP E (fA 106 a2l 0) p7 fun b2W p8 =>
 oP E (lA 3 b2W) p8 fun c2b q7 =>
 oP E (xBin .gtr 3 (.tmp 19) (.const (vI 4096)) c2b (vI 4096)) q7 fun c2c r8 =>
 xcond c2c
 (oP E (xNil x0) r8 fun b7p u1 =>
 oP E (fA 106 b7p 2) u1 fun c2d z6 =>
 oP E (sA 29 c2d (vI 33)) z6 fun _z_27 C0 =>
 R (vB false) C0)
 (oP E (xBin .gtr 3 (.tmp 24) (.const (vI 64)) x2 (vI 64)) r8 fun e6B D3 =>
 xcond e6B
 (oP E (xNil x0) D3 fun e6C B8 =>
 oP E (fA 106 e6C 2) B8 fun c2e C3 =>
 oP E (sA 29 c2e (vI 32)) C3 fun _z_35 E9 =>
 R (vB false) E9)
 (oP E (xNil x0) D3 fun e6D C7 =>
 oP E (fA 106 e6D 1) C7 fun e6E D5 =>
 oP E (lA 3 e6E) D5 fun e6F G4 =>
 oP E (xBuiltin .max #[3, 3] 3 [false, false] [e6F, x2]) G4 fun e6G F0 =>
 oP E (xNil x0) F0 fun e6H K9 =>
 oP E (fA 106 e6H 1) K9 fun c2f J0 =>
 oP E (sA 3 c2f e6G) J0 fun _z_49 G2 =>
 oP E (xNil x0) G2 fun c2g E1 =>
 oP E (fA 106 c2g 3) E1 fun e6I L2 =>
 oP E (lA 4 e6I) L2 fun b7q M3 =>
 oP E (gsem (asB b7q) false (xInvoke (gval (asB b7q) false x1) "gnomon/tree.form" [])) M3 fun e6J L3 =>
 oP E (gsem (asB b7q) false (xV (Op.unary .not e6J))) L3 fun e6K N5 =>
 oP E (xPick b7q (vB true) e6K) N5 fun e6L M4 =>
 oP E (xNil x0) M4 fun e6M M5 =>
 oP E (fA 106 e6M 3) M5 fun e6N N6 =>
 oP E (sA 4 e6N e6L) N6 fun _z_67 N7 =>
 xcut (fun _ L4 => b8Y L4 R E) fun j1 =>
 oP E (xCall (fC 118) [x1]) N7 fun d0y O1 =>
 oP E (eX d0y 0) O1 fun b2X P0 =>
 oP E (eX d0y 1) P0 fun c2h R0 =>
 xcond c2h
 (oP E (xNil x0) R0 fun e6O N0 =>
 oP E (fA 106 e6O 4) N0 fun e6P R1 =>
 oP E (lA 4 e6P) R1 fun a7R P6 =>
 oP E (gsem (asB a7R) false (xCall (fC 119) [(gval (asB a7R) false b2X)])) P6 fun e6Q O2 =>
 oP E (gsem (asB a7R) false (xV (Op.unary .not e6Q))) O2 fun e6R R2 =>
 oP E (xPick a7R (vB true) e6R) R2 fun e6S N1 =>
 oP E (xNil x0) N1 fun e6T V4 =>
 oP E (fA 106 e6T 4) V4 fun e6U a0x =>
 oP E (sA 4 e6U e6S) a0x fun _z_93 a0q =>
 oP E (xNil x0) a0q fun c2i W8 =>
 oP E (fA 106 c2i 5) W8 fun b2Y a0r =>
 oP E (lA 104 b2Y) a0r fun c2j R6 =>
 oP E (xCall (fC 120) [c2j, b2X]) R6 fun b8Z M8 =>
 oP E (xV (Op.unary .not b8Z)) M8 fun b9a N8 =>
 xcond b9a
 (oP E (xNil x0) N8 fun d9T S3 =>
 oP E (fA 106 d9T 5) S3 fun d9U a0K =>
 oP E (lA 104 d9U) a0K fun d9V a1P =>
 oP E (xV (Instr.buildSlice 104 1 #[(0, b2X)])) a1P fun d9W a0L =>
 oP E (xBuiltin .append #[104, 104] 104 [false, false] [d9V, d9W]) a0L fun d9X P9 =>
 oP E (xNil x0) P9 fun d9Y S4 =>
 oP E (fA 106 d9Y 5) S4 fun d9Z a1D =>
 oP E (sA 104 d9Z d9X) a1D fun _z_119 P3 =>
 j1 [] P3)
 (j1 [] N8))
 (j1 [] R0)))
noncomputable def e6V : Code := Tryd.f100.body.getD .skip
def e6W : Hint := (sQ (.seq (sQ (sQ (.cond (sQ (sQ .none)) .none))) (.seq (sQ (.cond (sQ (sQ .none)) .none)) (sQ (sQ (.cut [] (sQ (sQ (.cond (sQ (sQ (.cond .none .none))) .none))) (sQ .none)))))))
theorem e0a (x0 x1 x2 : Value) (w : World) (R : RT) (E : Pan) : c6W x0 x1 x2 w R E = callX Tryd.prog [.tmp 6] e6V e6W [x0, x1, x2] w R E := by kernel_rfl
theorem e0b {x0 x1 x2 : Value} (h : c6W x0 x1 x2 w R E) : Cv Tryd.prog 100 #[x0, x1, x2] w R E := by
 refine g8 (args := [x0, x1, x2]) (c := e6V) (h := e6W) (rs := [.tmp 6]) Tryd.func100 (by kernel_rfl) (by kernel_rfl) (nB (by kernel_rfl)) (by kernel_rfl) (by kernel_rfl) (by kernel_rfl) ?_
 rw [← e0a]
 exact h
def b9b (x0 : Value) (w : World) (R : RT) (_E : Pan) : Prop :=
 ∀ _τ : Fr, (R x0 w)
def c5Y (x0 x1 : Value) (w : World) (R : RT) (E : Pan) : Prop :=
 ∀ _τ : Fr, (xcut (fun l_1 w_2 => b9b (nth l_1 0) w_2 R E) fun j2 =>
 oP E (xBuiltin .cap #[124] 3 [false] [x0]) w fun b1j w_4 =>
 oP E (xBuiltin .len #[124] 3 [false] [x0]) w_4 fun a5x w_6 =>
 oP E (xBin .sub 3 (.tmp 10) (.tmp 12) b1j a5x) w_6 fun a5y w_8 =>
 oP E (xBin .sub 3 (.tmp 8) (.tmp 13) x1 a5y) w_8 fun a3O m7 =>
 oP E (xBin .gtr 3 (.tmp 15) (.const (vI 0)) a3O (vI 0)) m7 fun a5A o4 =>
 xcond a5A
 (oP E (xBuiltin .cap #[124] 3 [false] [x0]) o4 fun a7S o3 =>
 oP E (xV (Instr.sliceAt 124 x0 none (some a7S) none)) o3 fun c2k p7 =>
 oP E (xBuiltin .append #[124, 3] 124 [false, false] [c2k, a3O]) p7 fun c2l p8 =>
 oP E (xBuiltin .len #[124] 3 [false] [x0]) p8 fun c2m q7 =>
 oP E (xV (Instr.sliceAt 124 c2l none (some c2m) none)) q7 fun b2Z r8 =>
 j2 [b2Z] r8)
 (j2 [x0] o4))
def d3r (x0 x1 : Value) (w : World) (R : RT) (E : Pan) : Prop :=
 xcut (fun _ u1 => c5Y x0 x1 u1 R E) fun j1 =>
 oP E (xBin .lss 3 (.tmp 5) (.const (vI 0)) x1 (vI 0)) w fun f9M z6 =>
 xcond f9M
 (oP E (xV (Instr.makeInterface 9 (Value.string ⟨#[99, 97, 110, 110, 111, 116, 32, 98, 101, 32, 110, 101, 103, 97, 116, 105, 118, 101]⟩))) z6 fun f9N C0 =>
 oP E (xV (Instr.panic f9N)) C0 fun _z_29 D3 =>
 j1 [] D3)
 (j1 [] z6)
noncomputable def e6X : Code := Tryd.f117.body.getD .skip
def e6Y : Hint := (sQ (.cut [] (sQ (.cond .none .none)) (.cut [0] (sQ (sQ (.cond .none .none))) (sQ .none))))
theorem e0c (x0 x1 : Value) (w : World) (R : RT) (E : Pan) : d3r x0 x1 w R E = callX Tryd.prog [.tmp 4] e6X e6Y [x0, x1] w R E := by kernel_rfl
theorem e0d {x0 x1 : Value} (h : d3r x0 x1 w R E) : Cv Tryd.prog 117 #[x0, x1] w R E := by
 refine g8 (args := [x0, x1]) (c := e6X) (h := e6Y) (rs := [.tmp 4]) Tryd.func117 (by kernel_rfl) (by kernel_rfl) (nB (by kernel_rfl)) (by kernel_rfl) (by kernel_rfl) (by kernel_rfl) ?_
 rw [← e0c]
 exact h
def c6X (x0 : Value) (w : World) (R : RT) (E : Pan) : Prop :=
 oP E (xV (Instr.typeAssert x0 152 177 true)) w fun a9S w_2 =>
 oP E (eX a9S 1) w_2 fun a2z w_4 =>
 oP E (eX a9S 0) w_4 fun a1k w_6 =>
 xcond a2z
 (oP E (xV (Instr.alloc 177 true (.tuple #[]))) w_6 fun e6Z w_8 =>
 oP E (sA 177 e6Z a1k) w_8 fun _z_9 m7 =>
 oP E (fA 177 e6Z 0) m7 fun a6B o4 =>
 oP E (fA 58 a6B 0) o4 fun a6C o3 =>
 oP E (lA 9 a6C) o3 fun a7T p7 =>
 R (Value.tuple #[a7T, (vB true)]) p7)
 (oP E (xV (Instr.typeAssert x0 152 179 true)) w_6 fun b7r p8 =>
 oP E (eX b7r 1) p8 fun a7U q7 =>
 oP E (eX b7r 0) q7 fun b3a r8 =>
 xcond a7U
 (oP E (xV (Instr.alloc 179 true (.tuple #[]))) r8 fun c1c u1 =>
 oP E (sA 179 c1c b3a) u1 fun _z_25 z6 =>
 dX z6 fun a3i =>
 qP Tryd.prog (fA 179 c1c 0) fun e7a =>
 qP Tryd.prog (fA 63 e7a 1) fun b7m =>
 qP Tryd.prog (fA 179 c1c 0) fun e7b =>
 qP Tryd.prog (fA 63 e7b 0) fun b7s =>
 qL Tryd.prog a3i (blk b7m) (lA 9 b7m) fun e7c =>
 qL Tryd.prog a3i (blk b7s) (lA 3 b7s) fun c2n =>
 qP Tryd.prog (xBin .eql 3 (.tmp 22) (.const (vI 1)) c2n (vI 1)) fun b3b =>
 qP Tryd.prog (gsem (asB b3b) false (fA 179 c1c 0)) fun e7d =>
 qP Tryd.prog (gsem (asB b3b) false (fA 63 e7d 0)) fun d0z =>
 qL Tryd.prog a3i (blk d0z) (gsem (asB b3b) false (lA 3 d0z)) fun e7e =>
 qP Tryd.prog (gsem (asB b3b) false (xBin .eql 3 (.tmp 27) (.const (vI 2)) e7e (vI 2))) fun e7f =>
 qP Tryd.prog (xPick b3b (vB true) e7f) fun b3c =>
 R (Value.tuple #[e7c, b3c]) a3i)
 (oP E (xV (Instr.typeAssert x0 152 123 true)) r8 fun d0A b9c =>
 oP E (eX d0A 1) b9c fun b7t b3d =>
 oP E (eX d0A 0) b3d fun e7g a9T =>
 xcond b7t
 (oP E (xV (Instr.alloc 123 true (.tuple #[]))) a9T fun c1d b9d =>
 oP E (sA 123 c1d e7g) b9d fun _z_48 b1k =>
 dX b1k fun G2 =>
 qP Tryd.prog (fA 123 c1d 0) fun e7h =>
 qP Tryd.prog (fA 24 e7h 2) fun d0B =>
 qP Tryd.prog (fA 123 c1d 0) fun c2o =>
 qP Tryd.prog (fA 24 c2o 0) fun d0C =>
 qL Tryd.prog G2 (blk d0B) (lA 9 d0B) fun e7i =>
 qL Tryd.prog G2 (blk d0C) (lA 3 d0C) fun e7j =>
 qP Tryd.prog (xBin .eql 3 (.tmp 38) (.const (vI 2)) e7j (vI 2)) fun b3e =>
 qP Tryd.prog (gsem (asB b3e) false (fA 123 c1d 0)) fun e7k =>
 qP Tryd.prog (gsem (asB b3e) false (fA 24 e7k 0)) fun d0D =>
 qL Tryd.prog G2 (blk d0D) (gsem (asB b3e) false (lA 3 d0D)) fun e7l =>
 qP Tryd.prog (gsem (asB b3e) false (xBin .eql 3 (.tmp 43) (.const (vI 4)) e7l (vI 4))) fun e7m =>
 qP Tryd.prog (xPick b3e (vB true) e7m) fun e7n =>
 R (Value.tuple #[e7i, e7n]) G2)
 (R (Value.tuple #[(eS), (vB false)]) a9T)))
noncomputable def e7o : Code := Tryd.f118.body.getD .skip
def e7p : Hint := (sQ (.seq (sQ (.block (sQ (.cond (sQ (sQ .none)) (sQ (.cond (sQ (.seq (.reg [(0, 131072, 32), (1, 262144, 131072), (2, 524288, 262144), (0, 1048576, 32), (8, 2097152, 1048576), (16, 4194304, 2097152), (32, 8388608, 4194304), (64, 16777216, 8388608), (128, 33554432, 16777248), (384, 67108864, 50331648), (640, 134217728, 83886080), (1152, 268435456, 150994944), (2176, 536870912, 285212672), (135, 4, 524288), (16383, 8, 536870912)] [1060, 1060, 1056, 1060, 1060, 1028, 1060, 1060, 1060, 1060, 36, 1060, 1060, 1060, 1060] (.early 0 (.early 1 (.early 3 (.early 4 (.load 2 (.load 5 (.early 6 (.early 7 (.early 8 (.early 9 (.early 13 (.load 10 (.early 11 (.early 12 (.early 14 .done)))))))))))))))) .none)) (sQ (.cond (sQ (.seq (.reg [(0, 8589934592, 64), (1, 17179869184, 8589934592), (2, 34359738368, 17179869184), (0, 68719476736, 64), (8, 137438953472, 68719476736), (16, 274877906944, 137438953472), (32, 549755813888, 274877906944), (64, 1099511627776, 549755813888), (128, 2199023255552, 1099511627840), (384, 4398046511104, 3298534883328), (640, 8796093022208, 5497558138880), (1152, 17592186044416, 9895604649984), (2176, 35184372088832, 18691697672192), (135, 4, 34359738368), (16383, 8, 35184372088832)] [1060, 1060, 1056, 1060, 1060, 1028, 1060, 1060, 1060, 1060, 36, 1060, 1060, 1060, 1060] (.early 0 (.early 1 (.early 3 (.early 4 (.load 2 (.load 5 (.early 6 (.early 7 (.early 8 (.early 9 (.early 13 (.load 10 (.early 11 (.early 12 (.early 14 .done)))))))))))))))) .none)) .none)))))))) (sQ .none)))
theorem e0e (x0 : Value) (w : World) (R : RT) (E : Pan) : c6X x0 w R E = callX Tryd.prog [.tmp 2, .tmp 3] e7o e7p [x0] w R E := by kernel_rfl
theorem e0f {x0 : Value} (h : c6X x0 w R E) : Cv Tryd.prog 118 #[x0] w R E := by
 refine g8 (args := [x0]) (c := e7o) (h := e7p) (rs := [.tmp 2, .tmp 3]) Tryd.func118 (by kernel_rfl) (by kernel_rfl) (nB (by kernel_rfl)) (by kernel_rfl) (by kernel_rfl) (by kernel_rfl) ?_
 rw [← e0e]
 exact h
def b9e (w : World) (R : RT) (_E : Pan) : Prop :=
 ∀ _τ : Fr, (R (vB true) w)
def c5Z (x21 : Value) (w : World) (next2 : NT) (j1 : NT) (R : RT) (E : Pan) : Prop :=
 oP E (xV (Instr.next x21 true 0)) w fun c2p r8 =>
 oP E (eX c2p 0) r8 fun e7q u1 =>
 xcond e7q
 (oP E (eX c2p 1) u1 fun e7r z6 =>
 oP E (eX c2p 2) z6 fun d0E C0 =>
 oP E (xCall (fC 140) [d0E]) C0 fun e7s D3 =>
 oP E (xV (Op.unary .not e7s)) D3 fun a6D B8 =>
 oP E (gsem (asB a6D) false (xBin .eql 3 (.tmp 30) (.const (vI 0)) (gval (asB a6D) false e7r) (vI 0))) B8 fun b7u C3 =>
 oP E (gsem (asB (gval (asB a6D) false b7u)) true (xCall (fC 141) [(gval (asB (gval (asB a6D) false b7u)) true d0E)])) C3 fun e7t E9 =>
 oP E (gsem (asB (gval (asB a6D) false b7u)) true (xBin .neq 3 (.tmp 34) (.const (vI 3)) e7t (vI 3))) E9 fun e7u C7 =>
 oP E (gsem (asB a6D) false (xPick (gval (asB a6D) false b7u) e7u (vB false))) C7 fun e7v D5 =>
 oP E (xPick a6D (vB true) e7v) D5 fun e7w G4 =>
 xcond e7w
 (R (vB false) G4)
 (next2 [] G4))
 (j1 [] u1)
def c6Y (x0 : Value) (w : World) (R : RT) (E : Pan) : Prop :=
 oP E (xBin .eql 9 (.tmp 5) (.const (eS)) x0 (eS)) w fun b2S w_2 =>
 oP E (gsem (asB b2S) false (xCall (fC 137) [(gval (asB b2S) false x0)])) w_2 fun a2z w_4 =>
 oP E (gsem (asB b2S) false (xV (Op.unary .not a2z))) w_4 fun a1k w_6 =>
 oP E (xPick b2S (vB true) a1k) w_6 fun b1l w_8 =>
 oP E (gsem (asB b1l) false (xCall (fC 138) [(gval (asB b1l) false x0)])) w_8 fun a3O m7 =>
 oP E (xPick b1l (vB true) a3O) m7 fun a5z o4 =>
 oP E (gsem (asB a5z) false (xCall (fC 139) [(gval (asB a5z) false x0)])) o4 fun a7Q o3 =>
 oP E (xPick a5z (vB true) a7Q) o3 fun a2Z p7 =>
 xcond a2Z
 (R (vB false) p7)
 (xcut (fun _ p8 => b9e p8 R E) fun j1 =>
 oP E (xV (Instr.range 9 x0)) p7 fun e7x q7 =>
 xloop [] [] q7 fun _ F0 next2 =>
 c5Z e7x F0 next2 j1 R E)
noncomputable def e7y : Code := Tryd.f119.body.getD .skip
def e7z : Hint := (sQ (.seq (sQ (.cond (sQ .none) .none)) (.cut [] (sQ (.block (.loop [] (sQ (.seq (.cond .none .none) (.block (sQ (sQ (.cond (sQ .none) .none))))))))) (sQ .none))))
theorem e0g (x0 : Value) (w : World) (R : RT) (E : Pan) : c6Y x0 w R E = callX Tryd.prog [.tmp 2] e7y e7z [x0] w R E := by kernel_rfl
theorem e0h {x0 : Value} (h : c6Y x0 w R E) : Cv Tryd.prog 119 #[x0] w R E := by
 refine g8 (args := [x0]) (c := e7y) (h := e7z) (rs := [.tmp 2]) Tryd.func119 (by kernel_rfl) (by kernel_rfl) (nB (by kernel_rfl)) (by kernel_rfl) (by kernel_rfl) (by kernel_rfl) ?_
 rw [← e0g]
 exact h
def c6Z (x0 x1 : Value) (w : World) (R : RT) (E : Pan) : Prop :=
 oP E (xCall (fC 142) [x0, x1]) w fun a2A w_2 =>
 oP E (xBin .geq 3 (.tmp 7) (.const (vI 0)) a2A (vI 0)) w_2 fun b9f w_4 =>
 R b9f w_4
noncomputable def e7A : Code := Tryd.f120.body.getD .skip
def e7B : Hint := (sQ (sQ .none))
theorem e0i (x0 x1 : Value) (w : World) (R : RT) (E : Pan) : c6Z x0 x1 w R E = callX Tryd.prog [.tmp 4] e7A e7B [x0, x1] w R E := by kernel_rfl
theorem e0j {x0 x1 : Value} (h : c6Z x0 x1 w R E) : Cv Tryd.prog 120 #[x0, x1] w R E := by
 refine g8 (args := [x0, x1]) (c := e7A) (h := e7B) (rs := [.tmp 4]) Tryd.func120 (by kernel_rfl) (by kernel_rfl) (nB (by kernel_rfl)) (by kernel_rfl) (by kernel_rfl) (by kernel_rfl) ?_
 rw [← e0i]
 exact h
def c7a (x0 : Value) (w : World) (R : RT) (E : Pan) : Prop :=
 oP E (xCall (fC 150) [x0]) w fun b3f w_2 =>
 oP E (xBin .gtr 3 (.tmp 4) (.const (vI 32)) b3f (vI 32)) w_2 fun b9g w_4 =>
 R b9g w_4
noncomputable def e7C : Code := Tryd.f138.body.getD .skip
def e7D : Hint := (sQ (sQ .none))
theorem e0k (x0 : Value) (w : World) (R : RT) (E : Pan) : c7a x0 w R E = callX Tryd.prog [.tmp 2] e7C e7D [x0] w R E := by kernel_rfl
theorem e0l {x0 : Value} (h : c7a x0 w R E) : Cv Tryd.prog 138 #[x0] w R E := by
 refine g8 (args := [x0]) (c := e7C) (h := e7D) (rs := [.tmp 2]) Tryd.func138 (by kernel_rfl) (by kernel_rfl) (nB (by kernel_rfl)) (by kernel_rfl) (by kernel_rfl) (by kernel_rfl) ?_
 rw [← e0k]
 exact h
def b9h (x4 : Value) (w : World) (R : RT) (_E : Pan) : Prop :=
 ∀ _τ : Fr, (xcond x4
 (R (vB true) w)
 (R (vB false) w))
def c7b (x0 : Value) (w : World) (R : RT) (E : Pan) : Prop :=
 xcut (fun l_1 w_2 => b9h (nth l_1 0) w_2 R E) fun j1 =>
 oP E (xBin .eql 9 (.tmp 3) (.const (Value.string ⟨#[118, 97, 114]⟩)) x0 (Value.string ⟨#[118, 97, 114]⟩)) w fun b9g w_4 =>
 xcond b9g
 (j1 [b9g] w_4)
 (oP E (xBin .eql 9 (.tmp 3) (.const (Value.string ⟨#[97, 114, 114, 97, 121]⟩)) x0 (Value.string ⟨#[97, 114, 114, 97, 121]⟩)) w_4 fun a6N w_6 =>
 xcond a6N
 (j1 [a6N] w_6)
 (oP E (xBin .eql 9 (.tmp 3) (.const (Value.string ⟨#[105, 102]⟩)) x0 (Value.string ⟨#[105, 102]⟩)) w_6 fun a9R w_8 =>
 xcond a9R
 (j1 [a9R] w_8)
 (oP E (xBin .eql 9 (.tmp 3) (.const (Value.string ⟨#[101, 108, 115, 101]⟩)) x0 (Value.string ⟨#[101, 108, 115, 101]⟩)) w_8 fun a6O m7 =>
 xcond a6O
 (j1 [a6O] m7)
 (oP E (xBin .eql 9 (.tmp 3) (.const (Value.string ⟨#[119, 104, 105, 108, 101]⟩)) x0 (Value.string ⟨#[119, 104, 105, 108, 101]⟩)) m7 fun a9u o4 =>
 xcond a9u
 (j1 [a9u] o4)
 (oP E (xBin .eql 9 (.tmp 3) (.const (Value.string ⟨#[97, 115, 115, 101, 114, 116]⟩)) x0 (Value.string ⟨#[97, 115, 115, 101, 114, 116]⟩)) o4 fun d0F o3 =>
 xcond d0F
 (j1 [d0F] o3)
 (oP E (xBin .eql 9 (.tmp 3) (.const (Value.string ⟨#[97, 115, 115, 117, 109, 101]⟩)) x0 (Value.string ⟨#[97, 115, 115, 117, 109, 101]⟩)) o3 fun d0G p7 =>
 xcond d0G
 (j1 [d0G] p7)
 (oP E (xBin .eql 9 (.tmp 3) (.const (Value.string ⟨#[115, 107, 105, 112]⟩)) x0 (Value.string ⟨#[115, 107, 105, 112]⟩)) p7 fun d0H p8 =>
 xcond d0H
 (j1 [d0H] p8)
 (oP E (xBin .eql 9 (.tmp 3) (.const (Value.string ⟨#[105, 110, 112, 117, 116]⟩)) x0 (Value.string ⟨#[105, 110, 112, 117, 116]⟩)) p8 fun d0I q7 =>
 xcond d0I
 (j1 [d0I] q7)
 (oP E (xBin .eql 9 (.tmp 3) (.const (Value.string ⟨#[116, 114, 117, 101]⟩)) x0 (Value.string ⟨#[116, 114, 117, 101]⟩)) q7 fun d0J r8 =>
 xcond d0J
 (j1 [d0J] r8)
 (oP E (xBin .eql 9 (.tmp 3) (.const (Value.string ⟨#[102, 97, 108, 115, 101]⟩)) x0 (Value.string ⟨#[102, 97, 108, 115, 101]⟩)) r8 fun e7E u1 =>
 j1 [e7E] u1))))))))))
noncomputable def e7F : Code := Tryd.f139.body.getD .skip
def e7G : Hint := (sQ (.seq (sQ (.block (.cut [4] (sQ (.cond .none (sQ (.cond .none (sQ (.cond .none (sQ (.cond .none (sQ (.cond .none (sQ (.cond .none (sQ (.cond .none (sQ (.cond .none (sQ (.cond .none (sQ (.cond .none .none)))))))))))))))))))) (.cond (sQ .none) .none)))) (sQ .none)))
theorem e0m (x0 : Value) (w : World) (R : RT) (E : Pan) : c7b x0 w R E = callX Tryd.prog [.tmp 2] e7F e7G [x0] w R E := by kernel_rfl
theorem e0n {x0 : Value} (h : c7b x0 w R E) : Cv Tryd.prog 139 #[x0] w R E := by
 refine g8 (args := [x0]) (c := e7F) (h := e7G) (rs := [.tmp 2]) Tryd.func139 (by kernel_rfl) (by kernel_rfl) (nB (by kernel_rfl)) (by kernel_rfl) (by kernel_rfl) (by kernel_rfl) ?_
 rw [← e0m]
 exact h
def c7c (x0 : Value) (w : World) (R : RT) (E : Pan) : Prop :=
 oP E (xCall (fC 141) [x0]) w fun b1m w_2 =>
 oP E (xBin .eql 3 (.tmp 6) (.const (vI 3)) b1m (vI 3)) w_2 fun a7N w_4 =>
 oP E (gsem (asB a7N) false (xBin .eql 3 (.tmp 9) (.const (vI 4)) (gval (asB a7N) false b1m) (vI 4))) w_4 fun a1k w_6 =>
 oP E (xPick a7N (vB true) a1k) w_6 fun b1l w_8 =>
 R b1l w_8
noncomputable def e7H : Code := Tryd.f140.body.getD .skip
def e7I : Hint := (sQ (sQ (sQ .none)))
theorem e0o (x0 : Value) (w : World) (R : RT) (E : Pan) : c7c x0 w R E = callX Tryd.prog [.tmp 2] e7H e7I [x0] w R E := by kernel_rfl
theorem e0p {x0 : Value} (h : c7c x0 w R E) : Cv Tryd.prog 140 #[x0] w R E := by
 refine g8 (args := [x0]) (c := e7H) (h := e7I) (rs := [.tmp 2]) Tryd.func140 (by kernel_rfl) (by kernel_rfl) (nB (by kernel_rfl)) (by kernel_rfl) (by kernel_rfl) (by kernel_rfl) ?_
 rw [← e0o]
 exact h
def b9i (x39 : Value) (w : World) (R : RT) (_E : Pan) : Prop :=
 ∀ _τ : Fr, (xcond x39
 (R (vI 3) w)
 (R (vI 6) w))
def b9j (x1 x31 : Value) (w : World) (R : RT) (E : Pan) : Prop :=
 ∀ _τ : Fr, (xcond x31
 (R (vI 6) w)
 (oP E (xV (Instr.makeFunc (.func 151) #[] #[x1])) w fun b4B w_8 =>
 oP E (xCall b4B [(Value.int .i32 48), (Value.int .i32 57)]) w_8 fun f9O m7 =>
 xcond f9O
 (R (vI 4) m7)
 (xcut (fun g2Q o4 => b9i (nth g2Q 0) o4 R E) fun j4 =>
 oP E (lA 21 x1) m7 fun e7J o3 =>
 oP E (xBin .eql 21 (.tmp 40) (.const (Value.int .i32 95)) e7J (Value.int .i32 95)) o3 fun d0K p7 =>
 xcond d0K
 (j4 [d0K] p7)
 (oP E (xCall b4B [(Value.int .i32 97), (Value.int .i32 122)]) p7 fun d0L p8 =>
 xcond d0L
 (j4 [d0L] p8)
 (oP E (xCall b4B [(Value.int .i32 65), (Value.int .i32 90)]) p8 fun d0M q7 =>
 xcond d0M
 (j4 [d0M] q7)
 (oP E (xCall b4B [(Value.int .i32 192), (Value.int .i32 591)]) q7 fun d0N r8 =>
 xcond d0N
 (j4 [d0N] r8)
 (oP E (xCall b4B [(Value.int .i32 913), (Value.int .i32 969)]) r8 fun d0O u1 =>
 xcond d0O
 (j4 [d0O] u1)
 (oP E (xCall b4B [(Value.int .i32 1040), (Value.int .i32 1103)]) u1 fun e7K z6 =>
 j4 [e7K] z6))))))))
def b9k (x1 x4 x11 : Value) (w : World) (R : RT) (E : Pan) : Prop :=
 ∀ _τ : Fr, (xcond x11
 (R (vI 5) w)
 (xcut (fun d3q C0 => b9j x1 (nth d3q 0) C0 R E) fun j3 =>
 oP E (xBin .eql 21 (.tmp 4) (.const (Value.int .i32 215)) x4 (Value.int .i32 215)) w fun b7v D3 =>
 xcond b7v
 (j3 [b7v] D3)
 (oP E (xBin .eql 21 (.tmp 4) (.const (Value.int .i32 247)) x4 (Value.int .i32 247)) D3 fun d0P B8 =>
 xcond d0P
 (j3 [d0P] B8)
 (oP E (xBin .eql 21 (.tmp 4) (.const (Value.int .i32 930)) x4 (Value.int .i32 930)) B8 fun b3g C3 =>
 j3 [b3g] C3))))
def b9l (x1 x4 x5 : Value) (w : World) (R : RT) (E : Pan) : Prop :=
 ∀ _τ : Fr, (xcond x5
 (R (vI 1) w)
 (oP E (xBin .eql 21 (.tmp 4) (.const (Value.int .i32 10)) x4 (Value.int .i32 10)) w fun a1k w_6 =>
 xcond a1k
 (R (vI 2) w_6)
 (xcut (fun c2q E9 => b9k x1 x4 (nth c2q 0) E9 R E) fun j2 =>
 oP E (xBin .eql 21 (.tmp 4) (.const (Value.int .i32 59)) x4 (Value.int .i32 59)) w_6 fun d0Q C7 =>
 xcond d0Q
 (j2 [d0Q] C7)
 (oP E (xBin .eql 21 (.tmp 4) (.const (Value.int .i32 44)) x4 (Value.int .i32 44)) C7 fun d0R D5 =>
 xcond d0R
 (j2 [d0R] D5)
 (oP E (xBin .eql 21 (.tmp 4) (.const (Value.int .i32 123)) x4 (Value.int .i32 123)) D5 fun d0S G4 =>
 xcond d0S
 (j2 [d0S] G4)
 (oP E (xBin .eql 21 (.tmp 4) (.const (Value.int .i32 125)) x4 (Value.int .i32 125)) G4 fun d0T F0 =>
 xcond d0T
 (j2 [d0T] F0)
 (oP E (xBin .eql 21 (.tmp 4) (.const (Value.int .i32 40)) x4 (Value.int .i32 40)) F0 fun b7w K9 =>
 xcond b7w
 (j2 [b7w] K9)
 (oP E (xBin .eql 21 (.tmp 4) (.const (Value.int .i32 41)) x4 (Value.int .i32 41)) K9 fun d0U J0 =>
 xcond d0U
 (j2 [d0U] J0)
 (oP E (xBin .eql 21 (.tmp 4) (.const (Value.int .i32 91)) x4 (Value.int .i32 91)) J0 fun b7x G2 =>
 xcond b7x
 (j2 [b7x] G2)
 (oP E (xBin .eql 21 (.tmp 4) (.const (Value.int .i32 93)) x4 (Value.int .i32 93)) G2 fun d0V E1 =>
 xcond d0V
 (j2 [d0V] E1)
 (oP E (xBin .eql 21 (.tmp 4) (.const (Value.int .i32 61)) x4 (Value.int .i32 61)) E1 fun d0W L2 =>
 xcond d0W
 (j2 [d0W] L2)
 (oP E (xBin .eql 21 (.tmp 4) (.const (Value.int .i32 33)) x4 (Value.int .i32 33)) L2 fun d0X M3 =>
 xcond d0X
 (j2 [d0X] M3)
 (oP E (xBin .eql 21 (.tmp 4) (.const (Value.int .i32 60)) x4 (Value.int .i32 60)) M3 fun d0Y L3 =>
 xcond d0Y
 (j2 [d0Y] L3)
 (oP E (xBin .eql 21 (.tmp 4) (.const (Value.int .i32 62)) x4 (Value.int .i32 62)) L3 fun d0Z N5 =>
 xcond d0Z
 (j2 [d0Z] N5)
 (oP E (xBin .eql 21 (.tmp 4) (.const (Value.int .i32 43)) x4 (Value.int .i32 43)) N5 fun d1a M4 =>
 xcond d1a
 (j2 [d1a] M4)
 (oP E (xBin .eql 21 (.tmp 4) (.const (Value.int .i32 45)) x4 (Value.int .i32 45)) M4 fun d1b M5 =>
 xcond d1b
 (j2 [d1b] M5)
 (oP E (xBin .eql 21 (.tmp 4) (.const (Value.int .i32 42)) x4 (Value.int .i32 42)) M5 fun d1c N6 =>
 xcond d1c
 (j2 [d1c] N6)
 (oP E (xBin .eql 21 (.tmp 4) (.const (Value.int .i32 47)) x4 (Value.int .i32 47)) N6 fun d1d N7 =>
 xcond d1d
 (j2 [d1d] N7)
 (oP E (xBin .eql 21 (.tmp 4) (.const (Value.int .i32 37)) x4 (Value.int .i32 37)) N7 fun d1e L4 =>
 xcond d1e
 (j2 [d1e] L4)
 (oP E (xBin .eql 21 (.tmp 4) (.const (Value.int .i32 38)) x4 (Value.int .i32 38)) L4 fun d1f O1 =>
 xcond d1f
 (j2 [d1f] O1)
 (oP E (xBin .eql 21 (.tmp 4) (.const (Value.int .i32 124)) x4 (Value.int .i32 124)) O1 fun e7L P0 =>
 j2 [e7L] P0)))))))))))))))))))))
def c7d (x0 : Value) (w : World) (R : RT) (E : Pan) : Prop :=
 oP E (xV (Instr.box 21 x0)) w fun u4 w_2 =>
 oP E (lA 21 u4) w_2 fun a5U w_4 =>
 xcut (fun g2R R0 => b9l u4 a5U (nth g2R 0) R0 R E) fun j1 =>
 oP E (xBin .eql 21 (.tmp 4) (.const (Value.int .i32 32)) a5U (Value.int .i32 32)) w_4 fun d8E N0 =>
 xcond d8E
 (j1 [d8E] N0)
 (oP E (xBin .eql 21 (.tmp 4) (.const (Value.int .i32 9)) a5U (Value.int .i32 9)) N0 fun d8F R1 =>
 xcond d8F
 (j1 [d8F] R1)
 (oP E (xBin .eql 21 (.tmp 4) (.const (Value.int .i32 13)) a5U (Value.int .i32 13)) R1 fun f9P P6 =>
 j1 [f9P] P6))
noncomputable def e7M : Code := Tryd.f141.body.getD .skip
def e7N : Hint := (sQ (.seq (sQ (.block (.cut [5] (sQ (.cond .none (sQ (.cond .none .none)))) (.cond (sQ .none) (sQ (.cond (sQ .none) (.cut [11] (sQ (.cond .none (sQ (.cond .none (sQ (.cond .none (sQ (.cond .none (sQ (.cond .none (sQ (.cond .none (sQ (.cond .none (sQ (.cond .none (sQ (.cond .none (sQ (.cond .none (sQ (.cond .none (sQ (.cond .none (sQ (.cond .none (sQ (.cond .none (sQ (.cond .none (sQ (.cond .none (sQ (.cond .none (sQ (.cond .none .none)))))))))))))))))))))))))))))))))))) (.cond (sQ .none) (.cut [31] (sQ (.cond .none (sQ (.cond .none .none)))) (.cond (sQ .none) .none)))))))))) (sQ (.seq (.block (sQ (.cond (sQ .none) (.cut [39] (sQ (.cond .none (sQ (.cond .none (sQ (.cond .none (sQ (.cond .none (sQ (.cond .none .none)))))))))) (.cond (sQ .none) .none))))) (sQ .none)))))
theorem e0q (x0 : Value) (w : World) (R : RT) (E : Pan) : c7d x0 w R E = callX Tryd.prog [.tmp 2] e7M e7N [x0] w R E := by kernel_rfl
theorem e0r {x0 : Value} (h : c7d x0 w R E) : Cv Tryd.prog 141 #[x0] w R E := by
 refine g8 (args := [x0]) (c := e7M) (h := e7N) (rs := [.tmp 2]) Tryd.func141 (by kernel_rfl) (by kernel_rfl) (nB (by kernel_rfl)) (by kernel_rfl) (by kernel_rfl) (by kernel_rfl) ?_
 rw [← e0q]
 exact h
def b9m (w : World) (R : RT) (_E : Pan) : Prop :=
 ∀ _τ : Fr, (R (vI (-1)) w)
def c6a (x0 x1 x7 x8 : Value) (w : World) (next2 : NT) (j1 : NT) (R : RT) (E : Pan) : Prop :=
 oP E (xBin .lss 3 (.tmp 8) (.tmp 7) x8 x7) w fun g2S w_6 =>
 xcond g2S
 (oP E (iA 104 x0 x8) w_6 fun T5 w_8 =>
 oP E (lA 9 T5) w_8 fun a4x m7 =>
 oP E (xBin .eql 9 (.tmp 11) (.tmp 15) x1 a4x) m7 fun a5A o4 =>
 xcond a5A
 (R x8 o4)
 (oP E (xBin .add 3 (.tmp 8) (.const (vI 1)) x8 (vI 1)) o4 fun a7Q o3 =>
 next2 [a7Q] o3))
 (j1 [] w_6)
def c7e (x0 x1 : Value) (w : World) (R : RT) (E : Pan) : Prop :=
 xcut (fun _ w_2 => b9m w_2 R E) fun j1 =>
 oP E (xBuiltin .len #[104] 3 [false] [x0]) w fun a7N w_4 =>
 xloop [8] [(vI 0)] w_4 fun τ_15 p7 next2 =>
 c6a x0 x1 a7N (τ_15 8) p7 next2 j1 R E
noncomputable def e7O : Code := Tryd.f142.body.getD .skip
def e7P : Hint := (sQ (.cut [] (sQ (.block (.loop [8] (sQ (.seq (.cond .none .none) (.seq (.block (sQ (sQ (.cond (sQ .none) .none)))) .none)))))) (sQ .none)))
theorem e0s (x0 x1 : Value) (w : World) (R : RT) (E : Pan) : c7e x0 x1 w R E = callX Tryd.prog [.tmp 4] e7O e7P [x0, x1] w R E := by kernel_rfl
theorem e0t {x0 x1 : Value} (h : c7e x0 x1 w R E) : Cv Tryd.prog 142 #[x0, x1] w R E := by
 refine g8 (args := [x0, x1]) (c := e7O) (h := e7P) (rs := [.tmp 4]) Tryd.func142 (by kernel_rfl) (by kernel_rfl) (nB (by kernel_rfl)) (by kernel_rfl) (by kernel_rfl) (by kernel_rfl) ?_
 rw [← e0s]
 exact h
def b9n (x2 : Value) (w : World) (R : RT) (_E : Pan) : Prop :=
 ∀ _τ : Fr, (R x2 w)
def c6b (x2 x4 : Value) (w : World) (next2 : NT) (j1 : NT) (_R : RT) (E : Pan) : Prop :=
 oP E (xV (Instr.next x4 true 0)) w fun c2r w_6 =>
 oP E (eX c2r 0) w_6 fun b9o w_8 =>
 xcond b9o
 (oP E (xBin .add 3 (.tmp 7) (.const (vI 1)) x2 (vI 1)) w_8 fun a6O m7 =>
 next2 [a6O] m7)
 (j1 [x2] w_8)
def c7f (x0 : Value) (w : World) (R : RT) (E : Pan) : Prop :=
 xcut (fun l_1 w_2 => b9n (nth l_1 0) w_2 R E) fun j1 =>
 oP E (xV (Instr.range 9 x0)) w fun a5U w_4 =>
 xloop [2] [(vI 0)] w_4 fun τ_11 o4 next2 =>
 c6b (τ_11 2) a5U o4 next2 j1 R E
noncomputable def e7Q : Code := Tryd.f150.body.getD .skip
def e7R : Hint := (sQ (.cut [2] (sQ (.block (.loop [2] (sQ (.seq (.cond .none .none) (.block .none)))))) (sQ .none)))
theorem e0u (x0 : Value) (w : World) (R : RT) (E : Pan) : c7f x0 w R E = callX Tryd.prog [.tmp 2] e7Q e7R [x0] w R E := by kernel_rfl
theorem e0v {x0 : Value} (h : c7f x0 w R E) : Cv Tryd.prog 150 #[x0] w R E := by
 refine g8 (args := [x0]) (c := e7Q) (h := e7R) (rs := [.tmp 2]) Tryd.func150 (by kernel_rfl) (by kernel_rfl) (nB (by kernel_rfl)) (by kernel_rfl) (by kernel_rfl) (by kernel_rfl) ?_
 rw [← e0u]
 exact h
def c7g (x0 x1 x2 : Value) (w : World) (R : RT) (E : Pan) : Prop :=
 oP E (lA 21 x2) w fun a2A w_2 =>
 oP E (xBin .leq 21 (.tmp 6) (.tmp 7) x0 a2A) w_2 fun b9f w_4 =>
 oP E (gsem (asB b9f) true (lA 21 x2)) w_4 fun a1k w_6 =>
 oP E (gsem (asB b9f) true (xBin .leq 21 (.tmp 10) (.tmp 11) a1k (gval (asB b9f) true x1))) w_6 fun a7k w_8 =>
 oP E (xPick b9f a7k (vB false)) w_8 fun a7l m7 =>
 R a7l m7
noncomputable def e7S : Code := Tryd.f151.body.getD .skip
def e7T : Hint := (sQ (sQ .none))
theorem e0w (x0 x1 x2 : Value) (w : World) (R : RT) (E : Pan) : c7g x0 x1 x2 w R E = callX Tryd.prog [.tmp 5] e7S e7T [x0, x1, x2] w R E := by kernel_rfl
theorem e0x {x0 x1 x2 : Value} (h : c7g x0 x1 x2 w R E) : Cv Tryd.prog 151 #[x0, x1, x2] w R E := by
 refine g8 (args := [x0, x1, x2]) (c := e7S) (h := e7T) (rs := [.tmp 5]) Tryd.func151 (by kernel_rfl) (by kernel_rfl) (nB (by kernel_rfl)) (by kernel_rfl) (by kernel_rfl) (by kernel_rfl) ?_
 rw [← e0w]
 exact h
def b9p (x3 x59 : Value) (w : World) (R : RT) (E : Pan) : Prop :=
 ∀ _τ : Fr, (xcond x59
 (oP E (xBin .eql 3 (.tmp 65) (.const (vI 2)) x3 (vI 2)) w fun e7U N0 =>
 R e7U N0)
 (R (vB false) w))
def b9q (x3 x38 x54 : Value) (w : World) (R : RT) (E : Pan) : Prop :=
 ∀ _τ : Fr, (xcond x54
 (oP E (xBin .eql 3 (.tmp 57) (.const (vI 1)) x3 (vI 1)) w fun e7V R0 =>
 R e7V R0)
 (xcut (fun c7h R1 => b9p x3 (nth c7h 0) R1 R E) fun j3 =>
 oP E (xBin .eql 3 (.tmp 38) (.const (vI 6)) x38 (vI 6)) w fun a7R P6 =>
 xcond a7R
 (j3 [a7R] P6)
 (oP E (xBin .eql 3 (.tmp 38) (.const (vI 7)) x38 (vI 7)) P6 fun d1g O2 =>
 xcond d1g
 (j3 [d1g] O2)
 (oP E (xBin .eql 3 (.tmp 38) (.const (vI 8)) x38 (vI 8)) O2 fun d1h R2 =>
 xcond d1h
 (j3 [d1h] R2)
 (oP E (xBin .eql 3 (.tmp 38) (.const (vI 9)) x38 (vI 9)) R2 fun d1i N1 =>
 xcond d1i
 (j3 [d1i] N1)
 (oP E (xBin .eql 3 (.tmp 38) (.const (vI 10)) x38 (vI 10)) N1 fun e7W V4 =>
 j3 [e7W] V4))))))
def b9r (x3 x38 x49 : Value) (w : World) (R : RT) (E : Pan) : Prop :=
 ∀ _τ : Fr, (xcond x49
 (oP E (xBin .eql 3 (.tmp 52) (.const (vI 0)) x3 (vI 0)) w fun b2X P0 =>
 R b2X P0)
 (xcut (fun g2T a0x => b9q x3 x38 (nth g2T 0) a0x R E) fun j2 =>
 oP E (xBin .eql 3 (.tmp 38) (.const (vI 4)) x38 (vI 4)) w fun d1j a0q =>
 xcond d1j
 (j2 [d1j] a0q)
 (oP E (xBin .eql 3 (.tmp 38) (.const (vI 5)) x38 (vI 5)) a0q fun e7X W8 =>
 j2 [e7X] W8)))
def c7i (x0 : Value) (w : World) (R : RT) (E : Pan) : Prop :=
 oP E (xV (Instr.box 123 x0)) w fun u4 w_2 =>
 oP E (fA 123 u4 0) w_2 fun a3j w_4 =>
 oP E (fA 24 a3j 3) w_4 fun a7V w_6 =>
 oP E (lA 22 a7V) w_6 fun a4F w_8 =>
 oP E (xBuiltin .len #[22] 3 [false] [a4F]) w_8 fun b9s m7 =>
 oP E (lA 123 u4) m7 fun a6B o4 =>
 oP E (xV (Instr.makeInterface 123 a6B)) o4 fun a6C o3 =>
 oP E (xCall (fC 118) [a6C]) o3 fun a7T p7 =>
 oP E (eX a7T 0) p7 fun _t14_17 p8 =>
 oP E (eX a7T 1) p8 fun a7U q7 =>
 oP E (fA 123 u4 0) q7 fun b3a r8 =>
 oP E (fA 24 b3a 0) r8 fun c2s u1 =>
 oP E (lA 3 c2s) u1 fun c2t z6 =>
 oP E (xBin .neq 3 (.tmp 18) (.const (vI 1)) c2t (vI 1)) z6 fun a7W C0 =>
 oP E (gsem (asB a7W) true (fA 123 u4 0)) C0 fun e7Y D3 =>
 oP E (gsem (asB a7W) true (fA 24 e7Y 1)) D3 fun e7Z B8 =>
 oP E (gsem (asB a7W) true (lA 2 e7Z)) B8 fun e8a C3 =>
 oP E (gsem (asB a7W) true (xBin .neq 2 (.tmp 23) (.const (vI 0)) e8a (vI 0))) C3 fun e8b E9 =>
 oP E (xPick a7W e8b (vB false)) E9 fun a5B C7 =>
 oP E (gsem (asB a5B) false (xV (Op.unary .not (gval (asB a5B) false a7U)))) C7 fun b3h D5 =>
 oP E (gsem (asB (gval (asB a5B) false b3h)) true (fA 123 u4 0)) D5 fun c2u G4 =>
 oP E (gsem (asB (gval (asB a5B) false b3h)) true (fA 24 c2u 2)) G4 fun c2v F0 =>
 oP E (gsem (asB (gval (asB a5B) false b3h)) true (lA 9 c2v)) F0 fun c2w K9 =>
 oP E (gsem (asB (gval (asB a5B) false b3h)) true (xBin .neq 9 (.tmp 32) (.const (eS)) c2w (eS))) K9 fun e8c J0 =>
 oP E (gsem (asB a5B) false (xPick (gval (asB a5B) false b3h) e8c (vB false))) J0 fun e8d G2 =>
 oP E (xPick a5B (vB true) e8d) G2 fun e8e E1 =>
 xcond e8e
 (R (vB false) E1)
 (oP E (fA 123 u4 0) E1 fun c2o L2 =>
 oP E (fA 24 c2o 0) L2 fun e8f M3 =>
 oP E (lA 3 e8f) M3 fun b7y L3 =>
 oP E (xBin .eql 3 (.tmp 38) (.const (vI 1)) b7y (vI 1)) L3 fun e8g N5 =>
 xcond e8g
 (oP E (fA 123 u4 0) N5 fun e8h M4 =>
 oP E (fA 24 e8h 1) M4 fun e8i M5 =>
 oP E (lA 2 e8i) M5 fun e8j N6 =>
 oP E (xBin .geq 2 (.tmp 43) (.const (vI 0)) e8j (vI 0)) N6 fun c2x N7 =>
 oP E (gsem (asB c2x) true (xBin .eql 3 (.tmp 46) (.const (vI 0)) (gval (asB c2x) true b9s) (vI 0))) N7 fun e8k L4 =>
 oP E (xPick c2x e8k (vB false)) L4 fun e8l O1 =>
 R e8l O1)
 (xcut (fun g2U a0r => b9r b9s b7y (nth g2U 0) a0r R E) fun j1 =>
 oP E (xBin .eql 3 (.tmp 38) (.const (vI 2)) b7y (vI 2)) N5 fun d1k R6 =>
 xcond d1k
 (j1 [d1k] R6)
 (oP E (xBin .eql 3 (.tmp 38) (.const (vI 3)) b7y (vI 3)) R6 fun e0y M8 =>
 j1 [e0y] M8)))
noncomputable def e8m : Code := Tryd.f169.body.getD .skip
def e8n : Hint := (sQ (sQ (sQ (.seq (sQ (.cond (sQ .none) .none)) (.seq (sQ (.block (sQ (.cond (sQ .none) (.cut [49] (sQ (.cond .none .none)) (.cond (sQ .none) (.cut [54] (sQ (.cond .none .none)) (.cond (sQ .none) (.cut [59] (sQ (.cond .none (sQ (.cond .none (sQ (.cond .none (sQ (.cond .none .none)))))))) (.cond (sQ .none) .none)))))))))) (sQ .none))))))
theorem e0z (x0 : Value) (w : World) (R : RT) (E : Pan) : c7i x0 w R E = callX Tryd.prog [.tmp 2] e8m e8n [x0] w R E := by kernel_rfl
theorem e0A {x0 : Value} (h : c7i x0 w R E) : Cv Tryd.prog 169 #[x0] w R E := by
 refine g8 (args := [x0]) (c := e8m) (h := e8n) (rs := [.tmp 2]) Tryd.func169 (by kernel_rfl) (by kernel_rfl) (nB (by kernel_rfl)) (by kernel_rfl) (by kernel_rfl) (by kernel_rfl) ?_
 rw [← e0z]
 exact h
def c7j (x0 : Value) (w : World) (R : RT) (E : Pan) : Prop :=
 oP E (xV (Instr.box 123 x0)) w fun u4 w_2 =>
 oP E (fA 123 u4 0) w_2 fun a3g w_4 =>
 oP E (fA 24 a3g 3) w_4 fun a1M w_6 =>
 oP E (lA 22 a1M) w_6 fun a4E w_8 =>
 oP E (xCall (fC 171) [a4E, (fC 172)]) w_8 fun b1h m7 =>
 R b1h m7
noncomputable def e8o : Code := Tryd.f170.body.getD .skip
def e8p : Hint := (sQ (sQ .none))
theorem e0B (x0 : Value) (w : World) (R : RT) (E : Pan) : c7j x0 w R E = callX Tryd.prog [.tmp 2] e8o e8p [x0] w R E := by kernel_rfl
theorem e0C {x0 : Value} (h : c7j x0 w R E) : Cv Tryd.prog 170 #[x0] w R E := by
 refine g8 (args := [x0]) (c := e8o) (h := e8p) (rs := [.tmp 2]) Tryd.func170 (by kernel_rfl) (by kernel_rfl) (nB (by kernel_rfl)) (by kernel_rfl) (by kernel_rfl) (by kernel_rfl) ?_
 rw [← e0B]
 exact h
def b9t (x5 : Value) (w : World) (R : RT) (_E : Pan) : Prop :=
 ∀ _τ : Fr, (R x5 w)
def c6c (x1 x5 x8 x9 x10 : Value) (w : World) (next2 : NT) (j1 : NT) (_R : RT) (E : Pan) : Prop :=
 oP E (xBin .lss 3 (.tmp 10) (.tmp 9) x10 x9) w fun a5t w_6 =>
 xcond a5t
 (oP E (iA 22 x8 x10) w_6 fun a7k w_8 =>
 oP E (lA 24 a7k) w_8 fun a7l m7 =>
 oP E (xV (Instr.alloc 24 true (.tuple #[]))) m7 fun a3N o4 =>
 oP E (sA 24 a3N a7l) o4 fun _z_13 o3 =>
 oP E (lA 24 a3N) o3 fun a7O p7 =>
 oP E (xCall x1 [a7O]) p7 fun a5u p8 =>
 oP E (xV (Instr.buildSlice 124 1 #[(0, a5u)])) p8 fun a7P q7 =>
 oP E (xBuiltin .append #[124, 124] 124 [false, false] [x5, a7P]) q7 fun a5v r8 =>
 oP E (xBin .add 3 (.tmp 10) (.const (vI 1)) x10 (vI 1)) r8 fun a5w u1 =>
 next2 [a5v, a5w] u1)
 (j1 [x5] w_6)
def c7k (x0 x1 : Value) (w : World) (R : RT) (E : Pan) : Prop :=
 xcut (fun l_1 w_2 => b9t (nth l_1 0) w_2 R E) fun j1 =>
 oP E (xBuiltin .len #[22] 3 [false] [x0]) w fun a2z w_4 =>
 xloop [5, 10] [(nS), (vI 0)] w_4 fun τ_25 z6 next2 =>
 c6c x1 (τ_25 5) x0 a2z (τ_25 10) z6 next2 j1 R E
noncomputable def e8q : Code := Tryd.f171.body.getD .skip
def e8r : Hint := (sQ (sQ (.cut [5] (sQ (.block (.loop [5, 10] (sQ (.seq (.cond .none .none) (.seq (.block (sQ .none)) .none)))))) (sQ .none))))
theorem e0D (x0 x1 : Value) (w : World) (R : RT) (E : Pan) : c7k x0 x1 w R E = callX Tryd.prog [.tmp 4] e8q e8r [x0, x1] w R E := by kernel_rfl
theorem e0E {x0 x1 : Value} (h : c7k x0 x1 w R E) : Cv Tryd.prog 171 #[x0, x1] w R E := by
 refine g8 (args := [x0, x1]) (c := e8q) (h := e8r) (rs := [.tmp 4]) Tryd.func171 (by kernel_rfl) (by kernel_rfl) (nB (by kernel_rfl)) (by kernel_rfl) (by kernel_rfl) (by kernel_rfl) ?_
 rw [← e0D]
 exact h
def c7l (x0 : Value) (w : World) (R : RT) (E : Pan) : Prop :=
 oP E (xV (Instr.box 24 x0)) w fun u4 w_2 =>
 oP E (lA 24 u4) w_2 fun a3g w_4 =>
 oP E (xV (Instr.build 123 #[(0, a3g)])) w_4 fun a1M w_6 =>
 oP E (xV (Instr.makeInterface 123 a1M)) w_6 fun a4E w_8 =>
 R a4E w_8
noncomputable def e8s : Code := Tryd.f172.body.getD .skip
def e8t : Hint := (sQ (sQ .none))
theorem e0F (x0 : Value) (w : World) (R : RT) (E : Pan) : c7l x0 w R E = callX Tryd.prog [.tmp 2] e8s e8t [x0] w R E := by kernel_rfl
theorem e0G {x0 : Value} (h : c7l x0 w R E) : Cv Tryd.prog 172 #[x0] w R E := by
 refine g8 (args := [x0]) (c := e8s) (h := e8t) (rs := [.tmp 2]) Tryd.func172 (by kernel_rfl) (by kernel_rfl) (nB (by kernel_rfl)) (by kernel_rfl) (by kernel_rfl) (by kernel_rfl) ?_
 rw [← e0F]
 exact h
def b9u (x3 x50 : Value) (w : World) (R : RT) (E : Pan) : Prop :=
 ∀ _τ : Fr, (xcond x50
 (oP E (lA 223 x3) w fun c2y N1 =>
 oP E (xV (Instr.build 223 #[(0, (vI 0)), (1, (vI 2))])) N1 fun c2z V4 =>
 oP E (xBin .eql 223 (.tmp 53) (.tmp 54) c2y c2z) V4 fun c2A a0x =>
 R c2A a0x)
 (R (vB false) w))
def b9v (x3 x38 x39 : Value) (w : World) (R : RT) (E : Pan) : Prop :=
 ∀ _τ : Fr, (xcond x39
 (oP E (lA 223 x3) w fun e8u P0 =>
 oP E (xV (Instr.build 223 #[])) P0 fun e8v R0 =>
 oP E (xBin .eql 223 (.tmp 42) (.tmp 43) e8u e8v) R0 fun e8w N0 =>
 R e8w N0)
 (oP E (xBin .eql 3 (.tmp 38) (.const (vI 4)) x38 (vI 4)) w fun e8x R1 =>
 xcond e8x
 (oP E (lA 223 x3) R1 fun e8y P6 =>
 oP E (xV (Instr.build 223 #[(0, (vI 0)), (1, (vI 1))])) P6 fun e8z O2 =>
 oP E (xBin .eql 223 (.tmp 47) (.tmp 48) e8y e8z) O2 fun e8A R2 =>
 R e8A R2)
 (xcut (fun c2B a0q => b9u x3 (nth c2B 0) a0q R E) fun j2 =>
 oP E (xBin .eql 3 (.tmp 38) (.const (vI 5)) x38 (vI 5)) R1 fun d1l W8 =>
 xcond d1l
 (j2 [d1l] W8)
 (oP E (xBin .eql 3 (.tmp 38) (.const (vI 6)) x38 (vI 6)) W8 fun e8B a0r =>
 j2 [e8B] a0r))))
def c7m (x0 : Value) (w : World) (R : RT) (E : Pan) : Prop :=
 oP E (xV (Instr.box 138 x0)) w fun u4 w_2 =>
 oP E (fA 138 u4 0) w_2 fun a5U w_4 =>
 oP E (fA 27 a5U 2) w_4 fun c2r w_6 =>
 oP E (lA 22 c2r) w_6 fun b9o w_8 =>
 oP E (xBuiltin .len #[22] 3 [false] [b9o]) w_8 fun g2V m7 =>
 oP E (fA 138 u4 0) m7 fun b7l o4 =>
 oP E (fA 27 b7l 3) o4 fun b1n o3 =>
 oP E (lA 25 b1n) o3 fun b3i p7 =>
 oP E (xBuiltin .len #[25] 3 [false] [b3i]) p7 fun b3j p8 =>
 oP E (xV (Instr.build 223 #[(0, g2V), (1, b3j)])) p8 fun b3k q7 =>
 oP E (xV (Instr.alloc 223 true (.tuple #[]))) q7 fun c7n r8 =>
 oP E (sA 223 c7n b3k) r8 fun _z_23 u1 =>
 oP E (fA 138 u4 0) u1 fun e8C z6 =>
 oP E (fA 27 e8C 0) z6 fun e8D C0 =>
 oP E (lA 3 e8D) C0 fun e8E D3 =>
 oP E (xBin .eql 3 (.tmp 15) (.const (vI 3)) e8E (vI 3)) D3 fun e8F B8 =>
 xcond e8F
 (oP E (fA 138 u4 0) B8 fun c1V C3 =>
 oP E (fA 27 c1V 1) C3 fun b2V E9 =>
 oP E (lA 3 b2V) E9 fun e8G C7 =>
 oP E (xBin .geq 3 (.tmp 19) (.const (vI 1)) e8G (vI 1)) C7 fun b3l D5 =>
 oP E (gsem (asB b3l) true (fA 138 u4 0)) D5 fun c2C G4 =>
 oP E (gsem (asB b3l) true (fA 27 c2C 1)) G4 fun c2D F0 =>
 oP E (gsem (asB b3l) true (lA 3 c2D)) F0 fun e8H K9 =>
 oP E (gsem (asB b3l) true (xBin .leq 3 (.tmp 24) (.const (vI 6)) e8H (vI 6))) K9 fun e8I J0 =>
 oP E (xPick b3l e8I (vB false)) J0 fun b7z G2 =>
 oP E (gsem (asB b7z) true (lA 223 c7n)) G2 fun b3m E1 =>
 oP E (gsem (asB b7z) true (xV (Instr.build 223 #[(0, (vI 2)), (1, (vI 0))]))) E1 fun e8J L2 =>
 oP E (gsem (asB b7z) true (xBin .eql 223 (.tmp 28) (.tmp 29) b3m e8J)) L2 fun e8K M3 =>
 oP E (xPick b7z e8K (vB false)) M3 fun e8L L3 =>
 R e8L L3)
 (oP E (fA 138 u4 0) B8 fun b3n N5 =>
 oP E (fA 27 b3n 1) N5 fun b3o M4 =>
 oP E (lA 3 b3o) M4 fun b3p M5 =>
 oP E (xBin .neq 3 (.tmp 34) (.const (vI 0)) b3p (vI 0)) M5 fun a7X N6 =>
 xcond a7X
 (R (vB false) N6)
 (oP E (fA 138 u4 0) N6 fun e8M N7 =>
 oP E (fA 27 e8M 0) N7 fun e8N L4 =>
 oP E (lA 3 e8N) L4 fun c2E O1 =>
 xcut (fun d3s R6 => b9v c7n c2E (nth d3s 0) R6 R E) fun j1 =>
 oP E (xBin .eql 3 (.tmp 38) (.const (vI 1)) c2E (vI 1)) O1 fun c6d M8 =>
 xcond c6d
 (j1 [c6d] M8)
 (oP E (xBin .eql 3 (.tmp 38) (.const (vI 2)) c2E (vI 2)) M8 fun e0H N8 =>
 j1 [e0H] N8)))
noncomputable def e8O : Code := Tryd.f173.body.getD .skip
def e8P : Hint := (sQ (sQ (.seq (sQ (.cond (sQ .none) .none)) (.seq (sQ (.cond (sQ .none) .none)) (.seq (sQ (.block (.cut [39] (sQ (.cond .none .none)) (.cond (sQ .none) (sQ (.cond (sQ .none) (.cut [50] (sQ (.cond .none .none)) (.cond (sQ .none) .none)))))))) (sQ .none))))))
theorem e0I (x0 : Value) (w : World) (R : RT) (E : Pan) : c7m x0 w R E = callX Tryd.prog [.tmp 2] e8O e8P [x0] w R E := by kernel_rfl
theorem e0J {x0 : Value} (h : c7m x0 w R E) : Cv Tryd.prog 173 #[x0] w R E := by
 refine g8 (args := [x0]) (c := e8O) (h := e8P) (rs := [.tmp 2]) Tryd.func173 (by kernel_rfl) (by kernel_rfl) (nB (by kernel_rfl)) (by kernel_rfl) (by kernel_rfl) (by kernel_rfl) ?_
 rw [← e0I]
 exact h
def c7o (x0 : Value) (w : World) (R : RT) (E : Pan) : Prop :=
 oP E (xV (Instr.box 138 x0)) w fun u4 w_2 =>
 dX w_2 fun w_3 =>
 qP Tryd.prog (fA 138 u4 0) fun b8X =>
 qP Tryd.prog (fA 27 b8X 2) fun a1M =>
 qP Tryd.prog (fA 138 u4 0) fun d3t =>
 qP Tryd.prog (fA 27 d3t 3) fun a4F =>
 qL Tryd.prog w_3 (blk a1M) (lA 22 a1M) fun d3o =>
 qL Tryd.prog w_3 (blk a4F) (lA 25 a4F) fun b9s =>
 oP E (xCall (fC 171) [d3o, (fC 172)]) w_3 fun f9Q a0I =>
 keepX [(blk a4F)] w_3 a0I (opK Tryd.prog E (xCall (fC 175) [b9s, (fC 176)]) a0I fun e8Q a0w =>
 keepX [] a0I a0w (opK Tryd.prog E (xV (Instr.buildSlice 174 2 #[(0, f9Q), (1, e8Q)])) a0w fun e8R b5P =>
 keepX [] a0w b5P (opK Tryd.prog E (xCall (fC 87) [e8R]) b5P fun e8S a2k =>
 keepX [] b5P a2k (R e8S a2k))))
noncomputable def e8T : Code := Tryd.f174.body.getD .skip
def e8U : Hint := (sQ (.seq (.reg [(0, 8, 2), (1, 16, 8), (2, 32, 16), (4, 64, 32), (0, 128, 2), (16, 256, 128), (32, 512, 256), (72, 1024, 512), (136, 2048, 1088), (384, 4096, 2048), (1023, 4, 4096)] [68, 68, 64, 64, 68, 68, 4, 0, 0, 0, 68] (.early 0 (.early 1 (.early 4 (.early 5 (.load 2 (.load 6 (.step 3 (.step 7 (.step 8 (.step 9 (.early 10 .done)))))))))))) .none))
theorem e0K (x0 : Value) (w : World) (R : RT) (E : Pan) : c7o x0 w R E = callX Tryd.prog [.tmp 2] e8T e8U [x0] w R E := by kernel_rfl
theorem e0L {x0 : Value} (h : c7o x0 w R E) : Cv Tryd.prog 174 #[x0] w R E := by
 refine g8 (args := [x0]) (c := e8T) (h := e8U) (rs := [.tmp 2]) Tryd.func174 (by kernel_rfl) (by kernel_rfl) (nB (by kernel_rfl)) (by kernel_rfl) (by kernel_rfl) (by kernel_rfl) ?_
 rw [← e0K]
 exact h
def b9w (x5 : Value) (w : World) (R : RT) (_E : Pan) : Prop :=
 ∀ _τ : Fr, (R x5 w)
def c6e (x1 x5 x8 x9 x10 : Value) (w : World) (next2 : NT) (j1 : NT) (_R : RT) (E : Pan) : Prop :=
 oP E (xBin .lss 3 (.tmp 10) (.tmp 9) x10 x9) w fun a5t w_6 =>
 xcond a5t
 (oP E (iA 25 x8 x10) w_6 fun a7k w_8 =>
 oP E (lA 27 a7k) w_8 fun a7l m7 =>
 oP E (xV (Instr.alloc 27 true (.tuple #[]))) m7 fun a3N o4 =>
 oP E (sA 27 a3N a7l) o4 fun _z_13 o3 =>
 oP E (lA 27 a3N) o3 fun a7O p7 =>
 oP E (xCall x1 [a7O]) p7 fun a5u p8 =>
 oP E (xV (Instr.buildSlice 124 1 #[(0, a5u)])) p8 fun a7P q7 =>
 oP E (xBuiltin .append #[124, 124] 124 [false, false] [x5, a7P]) q7 fun a5v r8 =>
 oP E (xBin .add 3 (.tmp 10) (.const (vI 1)) x10 (vI 1)) r8 fun a5w u1 =>
 next2 [a5v, a5w] u1)
 (j1 [x5] w_6)
def c7p (x0 x1 : Value) (w : World) (R : RT) (E : Pan) : Prop :=
 xcut (fun l_1 w_2 => b9w (nth l_1 0) w_2 R E) fun j1 =>
 oP E (xBuiltin .len #[25] 3 [false] [x0]) w fun a2z w_4 =>
 xloop [5, 10] [(nS), (vI 0)] w_4 fun τ_25 z6 next2 =>
 c6e x1 (τ_25 5) x0 a2z (τ_25 10) z6 next2 j1 R E
noncomputable def e8V : Code := Tryd.f175.body.getD .skip
def e8W : Hint := (sQ (sQ (.cut [5] (sQ (.block (.loop [5, 10] (sQ (.seq (.cond .none .none) (.seq (.block (sQ .none)) .none)))))) (sQ .none))))
theorem e0M (x0 x1 : Value) (w : World) (R : RT) (E : Pan) : c7p x0 x1 w R E = callX Tryd.prog [.tmp 4] e8V e8W [x0, x1] w R E := by kernel_rfl
theorem e0N {x0 x1 : Value} (h : c7p x0 x1 w R E) : Cv Tryd.prog 175 #[x0, x1] w R E := by
 refine g8 (args := [x0, x1]) (c := e8V) (h := e8W) (rs := [.tmp 4]) Tryd.func175 (by kernel_rfl) (by kernel_rfl) (nB (by kernel_rfl)) (by kernel_rfl) (by kernel_rfl) (by kernel_rfl) ?_
 rw [← e0M]
 exact h
def c7q (x0 : Value) (w : World) (R : RT) (E : Pan) : Prop :=
 oP E (xV (Instr.box 27 x0)) w fun u4 w_2 =>
 oP E (lA 27 u4) w_2 fun a3g w_4 =>
 oP E (xV (Instr.build 138 #[(0, a3g)])) w_4 fun a1M w_6 =>
 oP E (xV (Instr.makeInterface 138 a1M)) w_6 fun a4E w_8 =>
 R a4E w_8
noncomputable def e8X : Code := Tryd.f176.body.getD .skip
def e8Y : Hint := (sQ (sQ .none))
theorem e0O (x0 : Value) (w : World) (R : RT) (E : Pan) : c7q x0 w R E = callX Tryd.prog [.tmp 2] e8X e8Y [x0] w R E := by kernel_rfl
theorem e0P {x0 : Value} (h : c7q x0 w R E) : Cv Tryd.prog 176 #[x0] w R E := by
 refine g8 (args := [x0]) (c := e8X) (h := e8Y) (rs := [.tmp 2]) Tryd.func176 (by kernel_rfl) (by kernel_rfl) (nB (by kernel_rfl)) (by kernel_rfl) (by kernel_rfl) (by kernel_rfl) ?_
 rw [← e0O]
 exact h
def c7r (x0 : Value) (w : World) (R : RT) (E : Pan) : Prop :=
 oP E (xV (Instr.box 177 x0)) w fun u4 w_2 =>
 oP E (fA 177 u4 0) w_2 fun a3g w_4 =>
 oP E (fA 58 a3g 1) w_4 fun a1M w_6 =>
 oP E (lA 3 a1M) w_6 fun a4E w_8 =>
 oP E (xBin .geq 3 (.tmp 5) (.const (vI 0)) a4E (vI 0)) w_8 fun b1h m7 =>
 oP E (gsem (asB b1h) true (fA 177 u4 0)) m7 fun b7l o4 =>
 oP E (gsem (asB b1h) true (fA 58 b7l 1)) o4 fun b1n o3 =>
 oP E (gsem (asB b1h) true (lA 3 b1n)) o3 fun b3i p7 =>
 oP E (gsem (asB b1h) true (xBin .leq 3 (.tmp 10) (.const (vI 2147483647)) b3i (vI 2147483647))) p7 fun b3j p8 =>
 oP E (xPick b1h b3j (vB false)) p8 fun b3k q7 =>
 R b3k q7
noncomputable def e8Z : Code := Tryd.f177.body.getD .skip
def e9a : Hint := (sQ (sQ .none))
theorem e0Q (x0 : Value) (w : World) (R : RT) (E : Pan) : c7r x0 w R E = callX Tryd.prog [.tmp 2] e8Z e9a [x0] w R E := by kernel_rfl
theorem e0R {x0 : Value} (h : c7r x0 w R E) : Cv Tryd.prog 177 #[x0] w R E := by
 refine g8 (args := [x0]) (c := e8Z) (h := e9a) (rs := [.tmp 2]) Tryd.func177 (by kernel_rfl) (by kernel_rfl) (nB (by kernel_rfl)) (by kernel_rfl) (by kernel_rfl) (by kernel_rfl) ?_
 rw [← e0Q]
 exact h
def c7s (x0 : Value) (w : World) (R : RT) (E : Pan) : Prop :=
 oP E (xV (Instr.box 177 x0)) w fun _t1_1 w_2 =>
 R (nS) w_2
noncomputable def e9b : Code := Tryd.f178.body.getD .skip
def e9c : Hint := (sQ (sQ .none))
theorem e0S (x0 : Value) (w : World) (R : RT) (E : Pan) : c7s x0 w R E = callX Tryd.prog [.tmp 2] e9b e9c [x0] w R E := by kernel_rfl
theorem e0T {x0 : Value} (h : c7s x0 w R E) : Cv Tryd.prog 178 #[x0] w R E := by
 refine g8 (args := [x0]) (c := e9b) (h := e9c) (rs := [.tmp 2]) Tryd.func178 (by kernel_rfl) (by kernel_rfl) (nB (by kernel_rfl)) (by kernel_rfl) (by kernel_rfl) (by kernel_rfl) ?_
 rw [← e0S]
 exact h
def b9x (x4 x5 x35 x83 : Value) (w : World) (R : RT) (E : Pan) : Prop :=
 ∀ _τ : Fr, (xcond x83
 (oP E (gsem (asB x5) true (lA 227 x4)) w fun e0U a2B =>
 oP E (gsem (asB x5) true (xV (Instr.build 227 #[(0, (vI 0)), (1, (vI 1))]))) a2B fun e0V a3P =>
 oP E (gsem (asB x5) true (xBin .eql 227 (.tmp 88) (.tmp 89) e0U e0V)) a3P fun e0W a4y =>
 oP E (xPick x5 e0W (vB false)) a4y fun e0X a4z =>
 R e0X a4z)
 (oP E (xBin .eql 3 (.tmp 35) (.const (vI 7)) x35 (vI 7)) w fun e0Y a4A =>
 xcond e0Y
 (oP E (gsem (asB x5) true (lA 227 x4)) a4A fun e0Z a7m =>
 oP E (gsem (asB x5) true (xV (Instr.build 227 #[]))) a7m fun e1a a5C =>
 oP E (gsem (asB x5) true (xBin .eql 227 (.tmp 96) (.tmp 97) e0Z e1a)) a5C fun e1b a7n =>
 oP E (xPick x5 e1b (vB false)) a7n fun e1c b1o =>
 R e1c b1o)
 (R (vB false) a4A)))
def c7t (x0 : Value) (w : World) (R : RT) (E : Pan) : Prop :=
 oP E (xV (Instr.box 179 x0)) w fun u4 w_2 =>
 oP E (fA 179 u4 0) w_2 fun a3j w_4 =>
 oP E (fA 63 a3j 4) w_4 fun a7V w_6 =>
 oP E (lA 42 a7V) w_6 fun a4F w_8 =>
 oP E (xBuiltin .len #[42] 3 [false] [a4F]) w_8 fun b9s m7 =>
 oP E (fA 179 u4 0) m7 fun e9d o4 =>
 oP E (fA 63 e9d 5) o4 fun c2F o3 =>
 oP E (lA 42 c2F) o3 fun c2G p7 =>
 oP E (xBuiltin .len #[42] 3 [false] [c2G]) p7 fun a5D p8 =>
 oP E (xBin .add 3 (.tmp 9) (.tmp 13) b9s a5D) p8 fun e9e q7 =>
 oP E (xBin .gtr 3 (.tmp 14) (.const (vI 0)) e9e (vI 0)) q7 fun c2H r8 =>
 oP E (fA 179 u4 0) r8 fun e9f u1 =>
 oP E (fA 63 e9f 2) u1 fun c2I z6 =>
 oP E (lA 22 c2I) z6 fun c2J C0 =>
 oP E (xBuiltin .len #[22] 3 [false] [c2J]) C0 fun c2K D3 =>
 oP E (fA 179 u4 0) D3 fun c2L B8 =>
 oP E (fA 63 c2L 3) B8 fun b7A C3 =>
 oP E (lA 25 b7A) C3 fun c2M E9 =>
 oP E (xBuiltin .len #[25] 3 [false] [c2M]) E9 fun c2N C7 =>
 oP E (xV (Instr.build 227 #[(0, c2K), (1, c2N)])) C7 fun e9g D5 =>
 oP E (xV (Instr.alloc 227 true (.tuple #[]))) D5 fun b4C G4 =>
 oP E (sA 227 b4C e9g) G4 fun _z_43 F0 =>
 oP E (fA 179 u4 0) F0 fun e9h K9 =>
 oP E (fA 63 e9h 1) K9 fun e9i J0 =>
 oP E (lA 9 e9i) J0 fun e9j G2 =>
 oP E (xBin .eql 9 (.tmp 27) (.const (eS)) e9j (eS)) G2 fun b3m E1 =>
 oP E (gsem (asB b3m) true (xV (Op.unary .not (gval (asB b3m) true c2H)))) E1 fun e9k L2 =>
 oP E (xPick b3m e9k (vB false)) L2 fun e9l M3 =>
 oP E (fA 179 u4 0) M3 fun e9m L3 =>
 oP E (fA 63 e9m 0) L3 fun e9n N5 =>
 oP E (lA 3 e9n) N5 fun a7Y M4 =>
 oP E (xBin .eql 3 (.tmp 35) (.const (vI 1)) a7Y (vI 1)) M4 fun e9o M5 =>
 xcond e9o
 (oP E (xV (Op.unary .not c2H)) M5 fun b7B N6 =>
 oP E (gsem (asB b7B) true (lA 227 b4C)) N6 fun e9p N7 =>
 oP E (gsem (asB b7B) true (xV (Instr.build 227 #[(0, (vI 1)), (1, (vI 0))]))) N7 fun e9q L4 =>
 oP E (gsem (asB b7B) true (xBin .eql 227 (.tmp 41) (.tmp 42) e9p e9q)) L4 fun e9r O1 =>
 oP E (xPick b7B e9r (vB false)) O1 fun e9s P0 =>
 R e9s P0)
 (oP E (xBin .eql 3 (.tmp 35) (.const (vI 2)) a7Y (vI 2)) M5 fun c2O R0 =>
 xcond c2O
 (oP E (xV (Op.unary .not c2H)) R0 fun b7C N0 =>
 oP E (gsem (asB b7C) true (lA 227 b4C)) N0 fun e9t R1 =>
 oP E (gsem (asB b7C) true (xV (Instr.build 227 #[(0, (vI 2)), (1, (vI 0))]))) R1 fun e9u P6 =>
 oP E (gsem (asB b7C) true (xBin .eql 227 (.tmp 50) (.tmp 51) e9t e9u)) P6 fun e9v O2 =>
 oP E (xPick b7C e9v (vB false)) O2 fun e9w R2 =>
 R e9w R2)
 (oP E (xBin .eql 3 (.tmp 35) (.const (vI 3)) a7Y (vI 3)) R0 fun e9x N1 =>
 xcond e9x
 (oP E (fA 179 u4 0) N1 fun e9y V4 =>
 oP E (fA 63 e9y 1) V4 fun e9z a0x =>
 oP E (lA 9 e9z) a0x fun e9A a0q =>
 oP E (xBin .eql 9 (.tmp 58) (.const (eS)) e9A (eS)) a0q fun b7D W8 =>
 oP E (gsem (asB b7D) true (lA 227 b4C)) W8 fun e9B a0r =>
 oP E (gsem (asB b7D) true (xV (Instr.build 227 #[(0, (vI 0)), (1, (vI 1))]))) a0r fun e9C R6 =>
 oP E (gsem (asB b7D) true (xBin .eql 227 (.tmp 61) (.tmp 62) e9B e9C)) R6 fun e1d M8 =>
 oP E (xPick b7D e1d (vB false)) M8 fun e1e N8 =>
 R e1e N8)
 (oP E (xBin .eql 3 (.tmp 35) (.const (vI 4)) a7Y (vI 4)) N1 fun e1f S3 =>
 xcond e1f
 (oP E (fA 179 u4 0) S3 fun e1g a0K =>
 oP E (fA 63 e1g 1) a0K fun e1h a1P =>
 oP E (lA 9 e1h) a1P fun e1i a0L =>
 oP E (xBin .eql 9 (.tmp 69) (.const (eS)) e1i (eS)) a0L fun a7A P9 =>
 oP E (gsem (asB a7A) true (fA 179 u4 0)) P9 fun e1j S4 =>
 oP E (gsem (asB a7A) true (fA 63 e1j 5)) S4 fun e1k a1D =>
 oP E (gsem (asB a7A) true (lA 42 e1k)) a1D fun e1l P3 =>
 oP E (gsem (asB a7A) true (xBuiltin .len #[42] 3 [false] [e1l])) P3 fun e1m a1l =>
 oP E (gsem (asB a7A) true (xBin .eql 3 (.tmp 75) (.const (vI 0)) e1m (vI 0))) a1l fun e1n a3p =>
 oP E (xPick a7A e1n (vB false)) a3p fun b4D a3Q =>
 oP E (gsem (asB b4D) true (lA 227 b4C)) a3Q fun e1o a3q =>
 oP E (gsem (asB b4D) true (xV (Instr.build 227 #[(0, (vI 0)), (1, (vI 1))]))) a3q fun e1p a3R =>
 oP E (gsem (asB b4D) true (xBin .eql 227 (.tmp 79) (.tmp 80) e1o e1p)) a3R fun e1q a1E =>
 oP E (xPick b4D e1q (vB false)) a1E fun e1r a1F =>
 R e1r a1F)
 (xcut (fun f9R b1p => b9x b4C e9l a7Y (nth f9R 0) b1p R E) fun j1 =>
 oP E (xBin .eql 3 (.tmp 35) (.const (vI 5)) a7Y (vI 5)) S3 fun c6f a9v =>
 xcond c6f
 (j1 [c6f] a9v)
 (oP E (xBin .eql 3 (.tmp 35) (.const (vI 6)) a7Y (vI 6)) a9v fun e1s b1q =>
 j1 [e1s] b1q)))))
noncomputable def e9D : Code := Tryd.f179.body.getD .skip
def e9E : Hint := (sQ (sQ (sQ (sQ (.seq (sQ (.block (sQ (.cond (sQ .none) (sQ (.cond (sQ .none) (sQ (.cond (sQ .none) (sQ (.cond (sQ .none) (.cut [83] (sQ (.cond .none .none)) (.cond (sQ .none) (sQ (.cond (sQ .none) .none)))))))))))))) (sQ .none))))))
theorem e1t (x0 : Value) (w : World) (R : RT) (E : Pan) : c7t x0 w R E = callX Tryd.prog [.tmp 2] e9D e9E [x0] w R E := by kernel_rfl
theorem e1u {x0 : Value} (h : c7t x0 w R E) : Cv Tryd.prog 179 #[x0] w R E := by
 refine g8 (args := [x0]) (c := e9D) (h := e9E) (rs := [.tmp 2]) Tryd.func179 (by kernel_rfl) (by kernel_rfl) (nB (by kernel_rfl)) (by kernel_rfl) (by kernel_rfl) (by kernel_rfl) ?_
 rw [← e1t]
 exact h
def c7u (x0 : Value) (w : World) (R : RT) (E : Pan) : Prop :=
 oP E (xV (Instr.box 179 x0)) w fun u4 w_2 =>
 dX w_2 fun w_3 =>
 qP Tryd.prog (fA 179 u4 0) fun b8X =>
 qP Tryd.prog (fA 63 b8X 3) fun a1M =>
 qP Tryd.prog (fA 179 u4 0) fun d3t =>
 qP Tryd.prog (fA 63 d3t 2) fun a4F =>
 qP Tryd.prog (fA 179 u4 0) fun f9S =>
 qP Tryd.prog (fA 63 f9S 4) fun b4E =>
 qP Tryd.prog (fA 179 u4 0) fun e9F =>
 qP Tryd.prog (fA 63 e9F 5) fun a5A =>
 qL Tryd.prog w_3 (blk a1M) (lA 25 a1M) fun f9T =>
 qL Tryd.prog w_3 (blk a4F) (lA 22 a4F) fun b1n =>
 qL Tryd.prog w_3 (blk b4E) (lA 42 b4E) fun e9G =>
 qL Tryd.prog w_3 (blk a5A) (lA 42 a5A) fun a2l =>
 oP E (xCall (fC 175) [f9T, (fC 176)]) w_3 fun f9U a2k =>
 keepX [(blk a5A), (blk b4E), (blk a4F)] w_3 a2k (opK Tryd.prog E (xCall (fC 171) [b1n, (fC 172)]) a2k fun e9H a3s =>
 keepX [(blk a5A), (blk b4E)] a2k a3s (opK Tryd.prog E (xCall (fC 90) [e9G, (fC 91)]) a3s fun e9I a1N =>
 keepX [(blk a5A)] a3s a1N (opK Tryd.prog E (xCall (fC 90) [a2l, (fC 91)]) a1N fun e9J a4i =>
 keepX [] a1N a4i (opK Tryd.prog E (xV (Instr.buildSlice 174 4 #[(0, f9U), (1, e9H), (2, e9I), (3, e9J)])) a4i fun e9K b1i =>
 keepX [] a4i b1i (opK Tryd.prog E (xCall (fC 87) [e9K]) b1i fun e9L a3i =>
 keepX [] b1i a3i (R e9L a3i))))))
noncomputable def e9M : Code := Tryd.f180.body.getD .skip
def e9N : Hint := (sQ (.seq (.reg [(0, 8, 2), (1, 16, 8), (2, 32, 16), (4, 64, 32), (0, 128, 2), (16, 256, 128), (32, 512, 256), (72, 1024, 512), (0, 2048, 2), (256, 4096, 2048), (512, 8192, 4096), (1152, 16384, 8192), (0, 32768, 2), (4096, 65536, 32768), (8192, 131072, 65536), (18432, 262144, 131072), (34952, 524288, 279616), (98304, 1048576, 524288), (262143, 4, 1048576)] [17476, 17476, 17472, 17472, 17476, 17476, 17412, 17408, 17476, 17476, 16452, 16384, 17476, 17476, 1092, 0, 0, 0, 17476] (.early 0 (.early 1 (.early 4 (.early 5 (.early 8 (.early 9 (.early 12 (.early 13 (.load 2 (.load 6 (.load 10 (.load 14 (.step 3 (.step 7 (.step 11 (.step 15 (.step 16 (.step 17 (.early 18 .done)))))))))))))))))))) .none))
theorem e1v (x0 : Value) (w : World) (R : RT) (E : Pan) : c7u x0 w R E = callX Tryd.prog [.tmp 2] e9M e9N [x0] w R E := by kernel_rfl
theorem e1w {x0 : Value} (h : c7u x0 w R E) : Cv Tryd.prog 180 #[x0] w R E := by
 refine g8 (args := [x0]) (c := e9M) (h := e9N) (rs := [.tmp 2]) Tryd.func180 (by kernel_rfl) (by kernel_rfl) (nB (by kernel_rfl)) (by kernel_rfl) (by kernel_rfl) (by kernel_rfl) ?_
 rw [← e1v]
 exact h
end Go.Proofs.YtnhkdkcgdcgmdaaDoor
