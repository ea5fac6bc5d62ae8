/- The second reading of some of the program's functions, printed by gen2.py off the code; each is held against the code by the kernel. -/
import Derived.Test.YtnhkdkcgdcgmdaaDoorProg
import Derived.Test.YtnhkdkcgdcgmdaaDoorzNK0
import Derived.KernelRfl
import Derived.Test.YtnhkdkcgdcgmdaaDoorzNGz
namespace Go.Proofs.YtnhkdkcgdcgmdaaDoor
open Go.RowKit
set_option maxRecDepth 100000
variable {w : World} {R : RT} {E : Pan}
def F52 (x0 : Value) (w : World) (R : RT) (E : Pan) : Prop :=
 oP E (xV (Instr.box 44 x0)) w fun v7 w_2 =>
 dX w_2 fun w_3 =>
 qP Tryd.prog (fA 44 v7 0) fun b9M =>
 qP Tryd.prog (fA 44 v7 1) fun b3I =>
 qL Tryd.prog w_3 (blk b9M) (lA 41 b9M) fun g4G =>
 qL Tryd.prog w_3 (blk b3I) (lA 42 b3I) fun b9N =>
 oP E (xCall (fC 88) [g4G, (fC 89)]) w_3 fun d5y w_9 =>
 keepX [(blk b3I)] w_3 w_9 (opK Tryd.prog E (xCall (fC 90) [b9N, (fC 91)]) w_9 fun g1r a1e =>
 keepX [] w_9 a1e (opK Tryd.prog E (xV (Instr.buildSlice 174 2 #[(0, d5y), (1, g1r)])) a1e fun g1s T6 =>
 keepX [] a1e T6 (opK Tryd.prog E (xCall (fC 87) [g1s]) T6 fun e7w b6F =>
 keepX [] T6 b6F (opK Tryd.prog E (xCall (fC 60) [e7w]) b6F fun c2Q a3F =>
 keepX [] b6F a3F (R c2Q a3F)))))
noncomputable def c52 : Code := Tryd.f52.body.getD .skip
def h52 : Hint := (sQ (.seq (.reg [(0, 8, 2), (1, 16, 8), (2, 32, 16), (0, 64, 2), (8, 128, 64), (20, 256, 128), (36, 512, 288), (96, 1024, 512), (128, 2048, 1024), (511, 4, 2048)] [18, 16, 16, 18, 2, 0, 0, 0, 0, 18] (.early 0 (.early 3 (.load 1 (.load 4 (.step 2 (.step 5 (.step 6 (.step 7 (.step 8 (.early 9 .done))))))))))) .none))
theorem e7x (x0 : Value) (w : World) (R : RT) (E : Pan) : F52 x0 w R E = callX Tryd.prog [.tmp 2] c52 h52 [x0] w R E := by kernel_rfl
theorem e7y {x0 : Value} (h : F52 x0 w R E) : Cv Tryd.prog 52 #[x0] w R E := by
 refine h9 (args := [x0]) (c := c52) (h := h52) (rs := [.tmp 2]) Tryd.func52 (by kernel_rfl) (by kernel_rfl) (nB (by kernel_rfl)) (by kernel_rfl) (by kernel_rfl) (by kernel_rfl) ?_
 rw [← e7x]
 exact h
def F53 (x0 : Value) (w : World) (R : RT) (E : Pan) : Prop :=
 oP E (xV (Instr.box 44 x0)) w fun v7 w_2 =>
 oP E (lA 44 v7) w_2 fun a0k w_4 =>
 oP E (xCall (fC 52) [a0k]) w_4 fun a2p w_6 =>
 oP E (xNil a2p) w_6 fun a5d w_8 =>
 oP E (fA 106 a5d 2) w_8 fun b2e o0 =>
 oP E (lA 29 b2e) o0 fun a4i o8 =>
 R a4i o8
noncomputable def c53 : Code := Tryd.f53.body.getD .skip
def h53 : Hint := (sQ (sQ .none))
theorem e7z (x0 : Value) (w : World) (R : RT) (E : Pan) : F53 x0 w R E = callX Tryd.prog [.tmp 2] c53 h53 [x0] w R E := by kernel_rfl
theorem e7A {x0 : Value} (h : F53 x0 w R E) : Cv Tryd.prog 53 #[x0] w R E := by
 refine h9 (args := [x0]) (c := c53) (h := h53) (rs := [.tmp 2]) Tryd.func53 (by kernel_rfl) (by kernel_rfl) (nB (by kernel_rfl)) (by kernel_rfl) (by kernel_rfl) (by kernel_rfl) ?_
 rw [← e7z]
 exact h
def c2R (x3 : Value) (w : World) (R : RT) (E : Pan) : Prop :=
 ∀ _τ : Fr, (oP E (lA 102 x3) w fun e7B p9 =>
 R e7B p9)
def F60 (x0 : Value) (w : World) (R : RT) (E : Pan) : Prop :=
 oP E (xV (Instr.build 106 #[])) w fun b3J w_2 =>
 oP E (xV (Instr.box 106 b3J)) w_2 fun a8B w_4 =>
 oP E (xV (Instr.alloc 102 true (.tuple #[]))) w_4 fun b6G w_6 =>
 oP E (sA 102 b6G a8B) w_6 fun _z_7 w_8 =>
 oP E (xV (Instr.alloc 161 true (.tuple #[]))) w_8 fun d5z o0 =>
 oP E (xV (Instr.makeFunc (.func 99) #[] #[b6G, d5z])) o0 fun b8e o8 =>
 oP E (sA 161 d5z b8e) o8 fun _z_13 p5 =>
 xcut (fun _ r7 => c2R b6G r7 R E) fun j1 =>
 oP E (lA 161 d5z) p5 fun g1t q7 =>
 oP E (xCall g1t [x0, (vI 1)]) q7 fun e7C s7 =>
 oP E (xV (Op.unary .not e7C)) s7 fun c2S u9 =>
 xcond c2S
 (j1 [] u9)
 (oP E (lA 102 b6G) u9 fun e7D A6 =>
 oP E (xNil e7D) A6 fun e7E C8 =>
 oP E (fA 106 e7E 3) C8 fun b8f E0 =>
 oP E (lA 4 b8f) E0 fun e7F C3 =>
 xcond e7F
 (oP E (lA 102 b6G) C3 fun e7G D3 =>
 oP E (xNil e7G) D3 fun e7H G6 =>
 oP E (fA 106 e7H 2) G6 fun e7I E1 =>
 oP E (sA 29 e7I (vI 30)) E1 fun _z_39 E3 =>
 j1 [] E3)
 (oP E (lA 102 b6G) C3 fun e7J I0 =>
 oP E (xNil e7J) I0 fun b3K G7 =>
 oP E (fA 106 b3K 4) G7 fun e7K K1 =>
 oP E (lA 4 e7K) K1 fun e7L K4 =>
 xcond e7L
 (oP E (lA 102 b6G) K4 fun e7M D5 =>
 oP E (xNil e7M) D5 fun e7N F0 =>
 oP E (fA 106 e7N 2) F0 fun e7O M0 =>
 oP E (sA 29 e7O (vI 31)) M0 fun _z_55 N2 =>
 j1 [] N2)
 (j1 [] K4)))
noncomputable def c60 : Code := Tryd.f60.body.getD .skip
def h60 : Hint := (sQ (sQ (sQ (sQ (.cut [] (sQ (.block (sQ (.cond .none (sQ (.cond .none (sQ (.cond .none .none)))))))) (sQ .none))))))
theorem e7P (x0 : Value) (w : World) (R : RT) (E : Pan) : F60 x0 w R E = callX Tryd.prog [.tmp 2] c60 h60 [x0] w R E := by kernel_rfl
theorem e7Q {x0 : Value} (h : F60 x0 w R E) : Cv Tryd.prog 60 #[x0] w R E := by
 refine h9 (args := [x0]) (c := c60) (h := h60) (rs := [.tmp 2]) Tryd.func60 (by kernel_rfl) (by kernel_rfl) (nB (by kernel_rfl)) (by kernel_rfl) (by kernel_rfl) (by kernel_rfl) ?_
 rw [← e7P]
 exact h
def c2T (x6 : Value) (w : World) (R : RT) (_E : Pan) : Prop :=
 ∀ _τ : Fr, (R x6 w)
def d2k (x6 x25 x26 x27 : Value) (w : World) (next3 : NT) (j2 : NT) (_R : RT) (E : Pan) : Prop :=
 oP E (xBin .lss 3 (.tmp 27) (.tmp 26) x27 x26) w fun g1u w_8 =>
 xcond g1u
 (oP E (iA 174 x25 x27) w_8 fun g1v o0 =>
 oP E (lA 124 g1v) o0 fun e7R o8 =>
 oP E (xBuiltin .append #[124, 124] 124 [false, false] [x6, e7R]) o8 fun b8g p5 =>
 oP E (xBin .add 3 (.tmp 27) (.const (vI 1)) x27 (vI 1)) p5 fun e7S p9 =>
 next3 [b8g, e7S] p9)
 (j2 [x6] w_8)
def c2U (x0 x3 : Value) (w : World) (R : RT) (E : Pan) : Prop :=
 ∀ _τ : Fr, (oP E (xCall (fC 117) [(nS), x3]) w fun g1w w_2 =>
 xcut (fun l_3 w_4 => c2T (nth l_3 0) w_4 R E) fun j2 =>
 oP E (xBuiltin .len #[174] 3 [false] [x0]) w_2 fun g1x w_6 =>
 xloop [6, 27] [g1w, (vI 0)] w_6 fun τ_17 r7 next3 =>
 d2k (τ_17 6) x0 g1x (τ_17 27) r7 next3 j2 R E)
def c2V (_x0 x3 _x9 _x10 x11 : Value) (w : World) (next4 : NT) (_R : RT) (E : Pan) : Prop :=
 ∀ _τ : Fr, (oP E (xBin .add 3 (.tmp 11) (.const (vI 1)) x11 (vI 1)) w fun b3L A6 =>
 next4 [x3, b3L] A6)
def d2l (x0 x3 x9 x10 x11 : Value) (w : World) (next4 : NT) (j1 : NT) (R : RT) (E : Pan) : Prop :=
 oP E (xBin .lss 3 (.tmp 11) (.tmp 10) x11 x10) w fun e7T u9 =>
 xcond e7T
 (xcut (fun d5A C8 => c2V x0 (nth d5A 0) x9 x10 x11 C8 next4 R E) fun j5 =>
 oP E (iA 174 x9 x11) u9 fun e7U E0 =>
 oP E (lA 124 e7U) E0 fun e7V C3 =>
 oP E (xBuiltin .len #[124] 3 [false] [e7V]) C3 fun c2W D3 =>
 oP E (xBin .add 3 (.tmp 15) (.tmp 17) x3 c2W) D3 fun b3M G6 =>
 oP E (xBin .lss 3 (.tmp 19) (.const (vI 0)) b3M (vI 0)) G6 fun c2X E1 =>
 xcond c2X
 (oP E (xV (Instr.makeInterface 9 (Value.string ⟨#[108, 101, 110, 32, 111, 117, 116, 32, 111, 102, 32, 114, 97, 110, 103, 101]⟩))) E1 fun b8h E3 =>
 oP E (xV (Instr.panic b8h)) E3 fun _z_41 I0 =>
 j5 [b3M] I0)
 (j5 [b3M] E1))
 (j1 [x3] u9)
def F87 (x0 : Value) (w : World) (R : RT) (E : Pan) : Prop :=
 xcut (fun a3G q7 => c2U x0 (nth a3G 0) q7 R E) fun j1 =>
 oP E (xBuiltin .len #[174] 3 [false] [x0]) w fun e7W s7 =>
 xloop [3, 11] [(vI 0), (vI 0)] s7 fun τ_43 G7 next4 =>
 d2l x0 (τ_43 3) x0 e7W (τ_43 11) G7 next4 j1 R E
noncomputable def c87 : Code := Tryd.f87.body.getD .skip
def h87 : Hint := (sQ (sQ (.cut [3] (sQ (.block (.loop [3, 11] (sQ (.seq (.cond .none .none) (.cut [3] (.block (sQ (sQ (sQ (.cond .none .none))))) .none)))))) (sQ (.cut [6] (sQ (.block (.loop [6, 27] (sQ (.seq (.cond .none .none) (.seq (.block (sQ .none)) .none)))))) (sQ .none))))))
theorem e7X (x0 : Value) (w : World) (R : RT) (E : Pan) : F87 x0 w R E = callX Tryd.prog [.tmp 2] c87 h87 [x0] w R E := by kernel_rfl
theorem e7Y {x0 : Value} (h : F87 x0 w R E) : Cv Tryd.prog 87 #[x0] w R E := by
 refine h9 (args := [x0]) (c := c87) (h := h87) (rs := [.tmp 2]) Tryd.func87 (by kernel_rfl) (by kernel_rfl) (nB (by kernel_rfl)) (by kernel_rfl) (by kernel_rfl) (by kernel_rfl) ?_
 rw [← e7X]
 exact h
def c2Y (x5 : Value) (w : World) (R : RT) (_E : Pan) : Prop :=
 ∀ _τ : Fr, (R x5 w)
def d2m (x1 x5 x8 x9 x10 : Value) (w : World) (next2 : NT) (j1 : NT) (_R : RT) (E : Pan) : Prop :=
 oP E (xBin .lss 3 (.tmp 10) (.tmp 9) x10 x9) w fun a5O w_6 =>
 xcond a5O
 (oP E (iA 41 x8 x10) w_6 fun a7V w_8 =>
 oP E (lA 58 a7V) w_8 fun a4j o0 =>
 oP E (xV (Instr.alloc 58 true (.tuple #[]))) o0 fun a4i o8 =>
 oP E (sA 58 a4i a4j) o8 fun _z_13 p5 =>
 oP E (lA 58 a4i) p5 fun a8C p9 =>
 oP E (xCall x1 [a8C]) p9 fun a5P r7 =>
 oP E (xV (Instr.buildSlice 124 1 #[(0, a5P)])) r7 fun a8D q7 =>
 oP E (xBuiltin .append #[124, 124] 124 [false, false] [x5, a8D]) q7 fun a5Q s7 =>
 oP E (xBin .add 3 (.tmp 10) (.const (vI 1)) x10 (vI 1)) s7 fun a5R u9 =>
 next2 [a5Q, a5R] u9)
 (j1 [x5] w_6)
def F88 (x0 x1 : Value) (w : World) (R : RT) (E : Pan) : Prop :=
 xcut (fun l_1 w_2 => c2Y (nth l_1 0) w_2 R E) fun j1 =>
 oP E (xBuiltin .len #[41] 3 [false] [x0]) w fun a1D w_4 =>
 xloop [5, 10] [(nS), (vI 0)] w_4 fun τ_25 A6 next2 =>
 d2m x1 (τ_25 5) x0 a1D (τ_25 10) A6 next2 j1 R E
noncomputable def c88 : Code := Tryd.f88.body.getD .skip
def h88 : Hint := (sQ (sQ (.cut [5] (sQ (.block (.loop [5, 10] (sQ (.seq (.cond .none .none) (.seq (.block (sQ .none)) .none)))))) (sQ .none))))
theorem e7Z (x0 x1 : Value) (w : World) (R : RT) (E : Pan) : F88 x0 x1 w R E = callX Tryd.prog [.tmp 4] c88 h88 [x0, x1] w R E := by kernel_rfl
theorem e8a {x0 x1 : Value} (h : F88 x0 x1 w R E) : Cv Tryd.prog 88 #[x0, x1] w R E := by
 refine h9 (args := [x0, x1]) (c := c88) (h := h88) (rs := [.tmp 4]) Tryd.func88 (by kernel_rfl) (by kernel_rfl) (nB (by kernel_rfl)) (by kernel_rfl) (by kernel_rfl) (by kernel_rfl) ?_
 rw [← e7Z]
 exact h
def F89 (x0 : Value) (w : World) (R : RT) (E : Pan) : Prop :=
 oP E (xV (Instr.box 58 x0)) w fun v7 w_2 =>
 oP E (lA 58 v7) w_2 fun a0k w_4 =>
 oP E (xV (Instr.build 177 #[(0, a0k)])) w_4 fun a2p w_6 =>
 oP E (xV (Instr.makeInterface 177 a2p)) w_6 fun a5d w_8 =>
 R a5d w_8
noncomputable def c89 : Code := Tryd.f89.body.getD .skip
def h89 : Hint := (sQ (sQ .none))
theorem e8b (x0 : Value) (w : World) (R : RT) (E : Pan) : F89 x0 w R E = callX Tryd.prog [.tmp 2] c89 h89 [x0] w R E := by kernel_rfl
theorem e8c {x0 : Value} (h : F89 x0 w R E) : Cv Tryd.prog 89 #[x0] w R E := by
 refine h9 (args := [x0]) (c := c89) (h := h89) (rs := [.tmp 2]) Tryd.func89 (by kernel_rfl) (by kernel_rfl) (nB (by kernel_rfl)) (by kernel_rfl) (by kernel_rfl) (by kernel_rfl) ?_
 rw [← e8b]
 exact h
def c2Z (x5 : Value) (w : World) (R : RT) (_E : Pan) : Prop :=
 ∀ _τ : Fr, (R x5 w)
def d2n (x1 x5 x8 x9 x10 : Value) (w : World) (next2 : NT) (j1 : NT) (_R : RT) (E : Pan) : Prop :=
 oP E (xBin .lss 3 (.tmp 10) (.tmp 9) x10 x9) w fun a5O w_6 =>
 xcond a5O
 (oP E (iA 42 x8 x10) w_6 fun a7V w_8 =>
 oP E (lA 63 a7V) w_8 fun a4j o0 =>
 oP E (xV (Instr.alloc 63 true (.tuple #[]))) o0 fun a4i o8 =>
 oP E (sA 63 a4i a4j) o8 fun _z_13 p5 =>
 oP E (lA 63 a4i) p5 fun a8C p9 =>
 oP E (xCall x1 [a8C]) p9 fun a5P r7 =>
 oP E (xV (Instr.buildSlice 124 1 #[(0, a5P)])) r7 fun a8D q7 =>
 oP E (xBuiltin .append #[124, 124] 124 [false, false] [x5, a8D]) q7 fun a5Q s7 =>
 oP E (xBin .add 3 (.tmp 10) (.const (vI 1)) x10 (vI 1)) s7 fun a5R u9 =>
 next2 [a5Q, a5R] u9)
 (j1 [x5] w_6)
def F90 (x0 x1 : Value) (w : World) (R : RT) (E : Pan) : Prop :=
 xcut (fun l_1 w_2 => c2Z (nth l_1 0) w_2 R E) fun j1 =>
 oP E (xBuiltin .len #[42] 3 [false] [x0]) w fun a1D w_4 =>
 xloop [5, 10] [(nS), (vI 0)] w_4 fun τ_25 A6 next2 =>
 d2n x1 (τ_25 5) x0 a1D (τ_25 10) A6 next2 j1 R E
noncomputable def c90 : Code := Tryd.f90.body.getD .skip
def h90 : Hint := (sQ (sQ (.cut [5] (sQ (.block (.loop [5, 10] (sQ (.seq (.cond .none .none) (.seq (.block (sQ .none)) .none)))))) (sQ .none))))
theorem e8d (x0 x1 : Value) (w : World) (R : RT) (E : Pan) : F90 x0 x1 w R E = callX Tryd.prog [.tmp 4] c90 h90 [x0, x1] w R E := by kernel_rfl
theorem e8e {x0 x1 : Value} (h : F90 x0 x1 w R E) : Cv Tryd.prog 90 #[x0, x1] w R E := by
 refine h9 (args := [x0, x1]) (c := c90) (h := h90) (rs := [.tmp 4]) Tryd.func90 (by kernel_rfl) (by kernel_rfl) (nB (by kernel_rfl)) (by kernel_rfl) (by kernel_rfl) (by kernel_rfl) ?_
 rw [← e8d]
 exact h
def F91 (x0 : Value) (w : World) (R : RT) (E : Pan) : Prop :=
 oP E (xV (Instr.box 63 x0)) w fun v7 w_2 =>
 oP E (lA 63 v7) w_2 fun a0k w_4 =>
 oP E (xV (Instr.build 179 #[(0, a0k)])) w_4 fun a2p w_6 =>
 oP E (xV (Instr.makeInterface 179 a2p)) w_6 fun a5d w_8 =>
 R a5d w_8
noncomputable def c91 : Code := Tryd.f91.body.getD .skip
def h91 : Hint := (sQ (sQ .none))
theorem e8f (x0 : Value) (w : World) (R : RT) (E : Pan) : F91 x0 w R E = callX Tryd.prog [.tmp 2] c91 h91 [x0] w R E := by kernel_rfl
theorem e8g {x0 : Value} (h : F91 x0 w R E) : Cv Tryd.prog 91 #[x0] w R E := by
 refine h9 (args := [x0]) (c := c91) (h := h91) (rs := [.tmp 2]) Tryd.func91 (by kernel_rfl) (by kernel_rfl) (nB (by kernel_rfl)) (by kernel_rfl) (by kernel_rfl) (by kernel_rfl) ?_
 rw [← e8f]
 exact h
def c3a (w : World) (R : RT) (_E : Pan) : Prop :=
 ∀ _τ : Fr, (R (vB true) w)
def d2o (x1 x2 x3 x9 x10 x11 : Value) (w : World) (next2 : NT) (j1 : NT) (R : RT) (E : Pan) : Prop :=
 oP E (xBin .lss 3 (.tmp 11) (.tmp 10) x11 x10) w fun a5S w_6 =>
 xcond a5S
 (oP E (iA 124 x9 x11) w_6 fun a5T w_8 =>
 oP E (lA 152 a5T) w_8 fun a4k o0 =>
 dX o0 fun a1e =>
 qL Tryd.prog a1e (blk x2) (lA 102 x2) fun e8h =>
 oP E (xCall (fC 100) [e8h, a4k, x1]) a1e fun a8E p5 =>
 keepX [] a1e p5 (qP Tryd.prog (xV (Op.unary .not a8E)) fun a3C =>
 qP Tryd.prog (gsem (asB a3C) false (xBin .add 3 (.tmp 24) (.const (vI 1)) (gval (asB a3C) false x1) (vI 1))) fun e8i =>
 qL Tryd.prog p5 (blk x3) (gsem (asB a3C) false (lA 161 x3)) fun b1e =>
 oP E (gsem (asB a3C) false (xInvoke (gval (asB a3C) false a4k) "gnomon/tree.parts" [])) p5 fun e8j a5U =>
 keepX [(blk x3)] p5 a5U (opK Tryd.prog E (gsem (asB a3C) false (xCall b1e [e8j, e8i])) a5U fun e8k a2J =>
 keepX [] a5U a2J (qP Tryd.prog (gsem (asB a3C) false (xV (Op.unary .not e8k))) fun e8l =>
 qP Tryd.prog (xPick a3C (vB true) e8l) fun c3b =>
 xcond c3b
 (R (vB false) a2J)
 (oP E (xBin .add 3 (.tmp 11) (.const (vI 1)) x11 (vI 1)) a2J fun e8m b2f =>
 next2 [e8m] b2f)))))
 (j1 [] w_6)
def F99 (x0 x1 x2 x3 : Value) (w : World) (R : RT) (E : Pan) : Prop :=
 xcut (fun _ w_2 => c3a w_2 R E) fun j1 =>
 oP E (xBuiltin .len #[124] 3 [false] [x0]) w fun b2g w_4 =>
 xloop [11] [(vI 0)] w_4 fun τ_26 a3N next2 =>
 d2o x1 x2 x3 x0 b2g (τ_26 11) a3N next2 j1 R E
noncomputable def c99 : Code := Tryd.f99.body.getD .skip
def h99 : Hint := (sQ (.cut [] (sQ (.block (.loop [11] (sQ (.seq (.cond .none .none) (.seq (.block (sQ (.seq (.reg [(0, 32768, 4), (0, 65536, 256), (0, 131072, 2), (7, 262144, 229376), (8, 524288, 262144), (24, 1048576, 524288), (32, 2097152, 1048584), (32, 4194304, 1048832), (160, 8388608, 5242880), (32, 16777216, 1048578), (544, 33554432, 17825792), (1376, 67108864, 45088768), (2080, 134217728, 68157440), (4128, 268435456, 135266304)] [64, 65, 65, 0, 65, 65, 1, 65, 64, 65, 65, 0, 65, 65] (.early 1 (.early 2 (.load 0 (.step 3 (.early 4 (.early 5 (.early 7 (.early 9 (.early 10 (.load 6 (.step 8 (.step 11 (.early 12 (.early 13 .done))))))))))))))) (.cond (sQ .none) .none)))) .none)))))) (sQ .none)))
theorem e8n (x0 x1 x2 x3 : Value) (w : World) (R : RT) (E : Pan) : F99 x0 x1 x2 x3 w R E = callX Tryd.prog [.tmp 6] c99 h99 [x0, x1, x2, x3] w R E := by kernel_rfl
theorem e8o {x0 x1 x2 x3 : Value} (h : F99 x0 x1 x2 x3 w R E) : Cv Tryd.prog 99 #[x0, x1, x2, x3] w R E := by
 refine h9 (args := [x0, x1, x2, x3]) (c := c99) (h := h99) (rs := [.tmp 6]) Tryd.func99 (by kernel_rfl) (by kernel_rfl) (nB (by kernel_rfl)) (by kernel_rfl) (by kernel_rfl) (by kernel_rfl) ?_
 rw [← e8n]
 exact h
def b9O (w : World) (R : RT) (_E : Pan) : Prop :=
 ∀ _τ : Fr, (R (vB true) w)
def c8R (x0 x1 x2 : Value) (w : World) (R : RT) (E : Pan) : Prop :=
 oP E (xNil x0) w fun b5r w_2 =>
 oP E (fA 106 b5r 0) w_2 fun a1f w_4 =>
 oP E (lA 3 a1f) w_4 fun a5S w_6 =>
 oP E (xBin .add 3 (.tmp 12) (.const (vI 1)) a5S (vI 1)) w_6 fun a5T w_8 =>
 oP E (xNil x0) w_8 fun a4k o0 =>
 oP E (fA 106 a4k 0) o0 fun a5V o8 =>
 oP E (sA 3 a5V a5T) o8 fun _z_13 p5 =>
 oP E (xNil x0) p5 fun a2K p9 =>
 oP E (fA 106 a2K 0) p9 fun b3N r7 =>
 oP E (lA 3 b3N) r7 fun c3c q7 =>
 oP E (xBin .gtr 3 (.tmp 19) (.const (vI 4096)) c3c (vI 4096)) q7 fun c3d s7 =>
 xcond c3d
 (oP E (xNil x0) s7 fun b8i u9 =>
 oP E (fA 106 b8i 2) u9 fun c3e A6 =>
 oP E (sA 29 c3e (vI 33)) A6 fun _z_27 C8 =>
 R (vB false) C8)
 (oP E (xBin .gtr 3 (.tmp 24) (.const (vI 64)) x2 (vI 64)) s7 fun e8p E0 =>
 xcond e8p
 (oP E (xNil x0) E0 fun e8q C3 =>
 oP E (fA 106 e8q 2) C3 fun c3f D3 =>
 oP E (sA 29 c3f (vI 32)) D3 fun _z_35 G6 =>
 R (vB false) G6)
 (oP E (xNil x0) E0 fun e8r E1 =>
 oP E (fA 106 e8r 1) E1 fun e8s E3 =>
 oP E (lA 3 e8s) E3 fun e8t I0 =>
 oP E (xBuiltin .max #[3, 3] 3 [false, false] [e8t, x2]) I0 fun e8u G7 =>
 oP E (xNil x0) G7 fun e8v K1 =>
 oP E (fA 106 e8v 1) K1 fun c3g K4 =>
 oP E (sA 3 c3g e8u) K4 fun _z_49 D5 =>
 oP E (xNil x0) D5 fun c3h F0 =>
 oP E (fA 106 c3h 3) F0 fun e8w M0 =>
 oP E (lA 4 e8w) M0 fun b8j N2 =>
 oP E (gsem (asB b8j) false (xInvoke (gval (asB b8j) false x1) "gnomon/tree.form" [])) N2 fun e8x M1 =>
 oP E (gsem (asB b8j) false (xV (Op.unary .not e8x))) M1 fun e8y O8 =>
 oP E (xPick b8j (vB true) e8y) O8 fun e8z N3 =>
 oP E (xNil x0) N3 fun e8A N6 =>
 oP E (fA 106 e8A 3) N6 fun e8B O9 =>
 oP E (sA 4 e8B e8z) O9 fun _z_67 P0 =>
 xcut (fun _ M2 => b9O M2 R E) fun j1 =>
 oP E (xCall (fC 118) [x1]) P0 fun d2p P5 =>
 oP E (eX d2p 0) P5 fun b3O P6 =>
 oP E (eX d2p 1) P6 fun c3i S4 =>
 xcond c3i
 (oP E (xNil x0) S4 fun e8C N8 =>
 oP E (fA 106 e8C 4) N8 fun e8D S7 =>
 oP E (lA 4 e8D) S7 fun a8F R1 =>
 oP E (gsem (asB a8F) false (xCall (fC 119) [(gval (asB a8F) false b3O)])) R1 fun e8E P1 =>
 oP E (gsem (asB a8F) false (xV (Op.unary .not e8E))) P1 fun e8F S8 =>
 oP E (xPick a8F (vB true) e8F) S8 fun e8G N9 =>
 oP E (xNil x0) N9 fun e8H X4 =>
 oP E (fA 106 e8H 4) X4 fun e8I a0P =>
 oP E (sA 4 e8I e8G) a0P fun _z_93 a0l =>
 oP E (xNil x0) a0l fun c3j a0L =>
 oP E (fA 106 c3j 5) a0L fun b3P a1g =>
 oP E (lA 104 b3P) a1g fun c3k V6 =>
 oP E (xCall (fC 120) [c3k, b3O]) V6 fun b9P P8 =>
 oP E (xV (Op.unary .not b9P)) P8 fun b9Q Q6 =>
 xcond b9Q
 (oP E (xNil x0) Q6 fun e1E X5 =>
 oP E (fA 106 e1E 5) X5 fun e1F a1h =>
 oP E (lA 104 e1F) a1h fun e1G a2e =>
 oP E (xV (Instr.buildSlice 104 1 #[(0, b3O)])) a2e fun e1H a1i =>
 oP E (xBuiltin .append #[104, 104] 104 [false, false] [e1G, e1H]) a1i fun e1I R3 =>
 oP E (xNil x0) R3 fun e1J U6 =>
 oP E (fA 106 e1J 5) U6 fun e1K a2f =>
 oP E (sA 104 e1K e1I) a2f fun _z_119 P2 =>
 j1 [] P2)
 (j1 [] Q6))
 (j1 [] S4)))
noncomputable def e8J : Code := Tryd.f100.body.getD .skip
def e8K : Hint := (sQ (.seq (sQ (sQ (.cond (sQ (sQ .none)) .none))) (.seq (sQ (.cond (sQ (sQ .none)) .none)) (sQ (sQ (.cut [] (sQ (sQ (.cond (sQ (sQ (.cond .none .none))) .none))) (sQ .none)))))))
theorem e1L (x0 x1 x2 : Value) (w : World) (R : RT) (E : Pan) : c8R x0 x1 x2 w R E = callX Tryd.prog [.tmp 6] e8J e8K [x0, x1, x2] w R E := by kernel_rfl
theorem e1M {x0 x1 x2 : Value} (h : c8R x0 x1 x2 w R E) : Cv Tryd.prog 100 #[x0, x1, x2] w R E := by
 refine h9 (args := [x0, x1, x2]) (c := e8J) (h := e8K) (rs := [.tmp 6]) Tryd.func100 (by kernel_rfl) (by kernel_rfl) (nB (by kernel_rfl)) (by kernel_rfl) (by kernel_rfl) (by kernel_rfl) ?_
 rw [← e1L]
 exact h
def b9R (x0 : Value) (w : World) (R : RT) (_E : Pan) : Prop :=
 ∀ _τ : Fr, (R x0 w)
def c7G (x0 x1 : Value) (w : World) (R : RT) (E : Pan) : Prop :=
 ∀ _τ : Fr, (xcut (fun l_1 w_2 => b9R (nth l_1 0) w_2 R E) fun j2 =>
 oP E (xBuiltin .cap #[124] 3 [false] [x0]) w fun b2g w_4 =>
 oP E (xBuiltin .len #[124] 3 [false] [x0]) w_4 fun a5S w_6 =>
 oP E (xBin .sub 3 (.tmp 10) (.tmp 12) b2g a5S) w_6 fun a5T w_8 =>
 oP E (xBin .sub 3 (.tmp 8) (.tmp 13) x1 a5T) w_8 fun a4k o0 =>
 oP E (xBin .gtr 3 (.tmp 15) (.const (vI 0)) a4k (vI 0)) o0 fun a5W o8 =>
 xcond a5W
 (oP E (xBuiltin .cap #[124] 3 [false] [x0]) o8 fun a8G p5 =>
 oP E (xV (Instr.sliceAt 124 x0 none (some a8G) none)) p5 fun c3l p9 =>
 oP E (xBuiltin .append #[124, 3] 124 [false, false] [c3l, a4k]) p9 fun c3m r7 =>
 oP E (xBuiltin .len #[124] 3 [false] [x0]) r7 fun c3n q7 =>
 oP E (xV (Instr.sliceAt 124 c3m none (some c3n) none)) q7 fun b3Q s7 =>
 j2 [b3Q] s7)
 (j2 [x0] o8))
def d5B (x0 x1 : Value) (w : World) (R : RT) (E : Pan) : Prop :=
 xcut (fun _ u9 => c7G x0 x1 u9 R E) fun j1 =>
 oP E (xBin .lss 3 (.tmp 5) (.const (vI 0)) x1 (vI 0)) w fun g1y A6 =>
 xcond g1y
 (oP E (xV (Instr.makeInterface 9 (Value.string ⟨#[99, 97, 110, 110, 111, 116, 32, 98, 101, 32, 110, 101, 103, 97, 116, 105, 118, 101]⟩))) A6 fun g1z C8 =>
 oP E (xV (Instr.panic g1z)) C8 fun _z_29 E0 =>
 j1 [] E0)
 (j1 [] A6)
noncomputable def e8L : Code := Tryd.f117.body.getD .skip
def e8M : Hint := (sQ (.cut [] (sQ (.cond .none .none)) (.cut [0] (sQ (sQ (.cond .none .none))) (sQ .none))))
theorem e1N (x0 x1 : Value) (w : World) (R : RT) (E : Pan) : d5B x0 x1 w R E = callX Tryd.prog [.tmp 4] e8L e8M [x0, x1] w R E := by kernel_rfl
theorem e1O {x0 x1 : Value} (h : d5B x0 x1 w R E) : Cv Tryd.prog 117 #[x0, x1] w R E := by
 refine h9 (args := [x0, x1]) (c := e8L) (h := e8M) (rs := [.tmp 4]) Tryd.func117 (by kernel_rfl) (by kernel_rfl) (nB (by kernel_rfl)) (by kernel_rfl) (by kernel_rfl) (by kernel_rfl) ?_
 rw [← e1N]
 exact h
def c8S (x0 : Value) (w : World) (R : RT) (E : Pan) : Prop :=
 oP E (xV (Instr.typeAssert x0 152 177 true)) w fun b0I w_2 =>
 oP E (eX b0I 1) w_2 fun a1D w_4 =>
 oP E (eX b0I 0) w_4 fun Y8 w_6 =>
 xcond a1D
 (oP E (xV (Instr.alloc 177 true (.tuple #[]))) w_6 fun e8N w_8 =>
 oP E (sA 177 e8N Y8) w_8 fun _z_9 o0 =>
 oP E (fA 177 e8N 0) o0 fun a7f o8 =>
 oP E (fA 58 a7f 0) o8 fun a7g p5 =>
 oP E (lA 9 a7g) p5 fun a5X p9 =>
 R (Value.tuple #[a5X, (vB true)]) p9)
 (oP E (xV (Instr.typeAssert x0 152 179 true)) w_6 fun b1f r7 =>
 oP E (eX b1f 1) r7 fun a5Y q7 =>
 oP E (eX b1f 0) q7 fun a8H s7 =>
 xcond a5Y
 (oP E (xV (Instr.alloc 179 true (.tuple #[]))) s7 fun c1W u9 =>
 oP E (sA 179 c1W a8H) u9 fun _z_25 A6 =>
 dX A6 fun a3N =>
 qP Tryd.prog (fA 179 c1W 0) fun e8O =>
 qP Tryd.prog (fA 63 e8O 1) fun b8f =>
 qP Tryd.prog (fA 179 c1W 0) fun e8P =>
 qP Tryd.prog (fA 63 e8P 0) fun b8k =>
 qL Tryd.prog a3N (blk b8f) (lA 9 b8f) fun e8Q =>
 qL Tryd.prog a3N (blk b8k) (lA 3 b8k) fun c3o =>
 qP Tryd.prog (xBin .eql 3 (.tmp 22) (.const (vI 1)) c3o (vI 1)) fun b3R =>
 qP Tryd.prog (gsem (asB b3R) false (fA 179 c1W 0)) fun e8R =>
 qP Tryd.prog (gsem (asB b3R) false (fA 63 e8R 0)) fun d2q =>
 qL Tryd.prog a3N (blk d2q) (gsem (asB b3R) false (lA 3 d2q)) fun e8S =>
 qP Tryd.prog (gsem (asB b3R) false (xBin .eql 3 (.tmp 27) (.const (vI 2)) e8S (vI 2))) fun e8T =>
 qP Tryd.prog (xPick b3R (vB true) e8T) fun b3S =>
 R (Value.tuple #[e8Q, b3S]) a3N)
 (oP E (xV (Instr.typeAssert x0 152 123 true)) s7 fun d2r b9S =>
 oP E (eX d2r 1) b9S fun b8l b3T =>
 oP E (eX d2r 0) b3T fun e8U b0J =>
 xcond b8l
 (oP E (xV (Instr.alloc 123 true (.tuple #[]))) b0J fun c1X b9T =>
 oP E (sA 123 c1X e8U) b9T fun _z_48 b2h =>
 dX b2h fun D5 =>
 qP Tryd.prog (fA 123 c1X 0) fun c3p =>
 qP Tryd.prog (fA 24 c3p 2) fun d2s =>
 qP Tryd.prog (fA 123 c1X 0) fun c3q =>
 qP Tryd.prog (fA 24 c3q 0) fun d2t =>
 qL Tryd.prog D5 (blk d2s) (lA 9 d2s) fun e8V =>
 qL Tryd.prog D5 (blk d2t) (lA 3 d2t) fun e8W =>
 qP Tryd.prog (xBin .eql 3 (.tmp 38) (.const (vI 2)) e8W (vI 2)) fun b3U =>
 qP Tryd.prog (gsem (asB b3U) false (fA 123 c1X 0)) fun e8X =>
 qP Tryd.prog (gsem (asB b3U) false (fA 24 e8X 0)) fun d2u =>
 qL Tryd.prog D5 (blk d2u) (gsem (asB b3U) false (lA 3 d2u)) fun e8Y =>
 qP Tryd.prog (gsem (asB b3U) false (xBin .eql 3 (.tmp 43) (.const (vI 4)) e8Y (vI 4))) fun e8Z =>
 qP Tryd.prog (xPick b3U (vB true) e8Z) fun e9a =>
 R (Value.tuple #[e8V, e9a]) D5)
 (R (Value.tuple #[(eS), (vB false)]) b0J)))
noncomputable def e9b : Code := Tryd.f118.body.getD .skip
def e9c : Hint := (sQ (.seq (sQ (.block (sQ (.cond (sQ (sQ .none)) (sQ (.cond (sQ (.seq (.reg [(0, 131072, 32), (1, 262144, 131072), (2, 524288, 262144), (0, 1048576, 32), (8, 2097152, 1048576), (16, 4194304, 2097152), (32, 8388608, 4194304), (64, 16777216, 8388608), (128, 33554432, 16777248), (384, 67108864, 50331648), (640, 134217728, 83886080), (1152, 268435456, 150994944), (2176, 536870912, 285212672), (135, 4, 524288), (16383, 8, 536870912)] [1060, 1060, 1056, 1060, 1060, 1028, 1060, 1060, 1060, 1060, 36, 1060, 1060, 1060, 1060] (.early 0 (.early 1 (.early 3 (.early 4 (.load 2 (.load 5 (.early 6 (.early 7 (.early 8 (.early 9 (.early 13 (.load 10 (.early 11 (.early 12 (.early 14 .done)))))))))))))))) .none)) (sQ (.cond (sQ (.seq (.reg [(0, 8589934592, 64), (1, 17179869184, 8589934592), (2, 34359738368, 17179869184), (0, 68719476736, 64), (8, 137438953472, 68719476736), (16, 274877906944, 137438953472), (32, 549755813888, 274877906944), (64, 1099511627776, 549755813888), (128, 2199023255552, 1099511627840), (384, 4398046511104, 3298534883328), (640, 8796093022208, 5497558138880), (1152, 17592186044416, 9895604649984), (2176, 35184372088832, 18691697672192), (135, 4, 34359738368), (16383, 8, 35184372088832)] [1060, 1060, 1056, 1060, 1060, 1028, 1060, 1060, 1060, 1060, 36, 1060, 1060, 1060, 1060] (.early 0 (.early 1 (.early 3 (.early 4 (.load 2 (.load 5 (.early 6 (.early 7 (.early 8 (.early 9 (.early 13 (.load 10 (.early 11 (.early 12 (.early 14 .done)))))))))))))))) .none)) .none)))))))) (sQ .none)))
theorem e1P (x0 : Value) (w : World) (R : RT) (E : Pan) : c8S x0 w R E = callX Tryd.prog [.tmp 2, .tmp 3] e9b e9c [x0] w R E := by kernel_rfl
theorem e1Q {x0 : Value} (h : c8S x0 w R E) : Cv Tryd.prog 118 #[x0] w R E := by
 refine h9 (args := [x0]) (c := e9b) (h := e9c) (rs := [.tmp 2, .tmp 3]) Tryd.func118 (by kernel_rfl) (by kernel_rfl) (nB (by kernel_rfl)) (by kernel_rfl) (by kernel_rfl) (by kernel_rfl) ?_
 rw [← e1P]
 exact h
def b9U (w : World) (R : RT) (_E : Pan) : Prop :=
 ∀ _τ : Fr, (R (vB true) w)
def c7H (x21 : Value) (w : World) (next2 : NT) (j1 : NT) (R : RT) (E : Pan) : Prop :=
 oP E (xV (Instr.next x21 true 0)) w fun c3r s7 =>
 oP E (eX c3r 0) s7 fun e9d u9 =>
 xcond e9d
 (oP E (eX c3r 1) u9 fun e9e A6 =>
 oP E (eX c3r 2) A6 fun d2v C8 =>
 oP E (xCall (fC 140) [d2v]) C8 fun e9f E0 =>
 oP E (xV (Op.unary .not e9f)) E0 fun a7h C3 =>
 oP E (gsem (asB a7h) false (xBin .eql 3 (.tmp 30) (.const (vI 0)) (gval (asB a7h) false e9e) (vI 0))) C3 fun b8m D3 =>
 oP E (gsem (asB (gval (asB a7h) false b8m)) true (xCall (fC 141) [(gval (asB (gval (asB a7h) false b8m)) true d2v)])) D3 fun e9g G6 =>
 oP E (gsem (asB (gval (asB a7h) false b8m)) true (xBin .neq 3 (.tmp 34) (.const (vI 3)) e9g (vI 3))) G6 fun e9h E1 =>
 oP E (gsem (asB a7h) false (xPick (gval (asB a7h) false b8m) e9h (vB false))) E1 fun e9i E3 =>
 oP E (xPick a7h (vB true) e9i) E3 fun e9j I0 =>
 xcond e9j
 (R (vB false) I0)
 (next2 [] I0))
 (j1 [] u9)
def c8T (x0 : Value) (w : World) (R : RT) (E : Pan) : Prop :=
 oP E (xBin .eql 9 (.tmp 5) (.const (eS)) x0 (eS)) w fun b3J w_2 =>
 oP E (gsem (asB b3J) false (xCall (fC 137) [(gval (asB b3J) false x0)])) w_2 fun a1D w_4 =>
 oP E (gsem (asB b3J) false (xV (Op.unary .not a1D))) w_4 fun Y8 w_6 =>
 oP E (xPick b3J (vB true) Y8) w_6 fun b2i w_8 =>
 oP E (gsem (asB b2i) false (xCall (fC 138) [(gval (asB b2i) false x0)])) w_8 fun a4k o0 =>
 oP E (xPick b2i (vB true) a4k) o0 fun a5V o8 =>
 oP E (gsem (asB a5V) false (xCall (fC 139) [(gval (asB a5V) false x0)])) o8 fun a8E p5 =>
 oP E (xPick a5V (vB true) a8E) p5 fun a3C p9 =>
 xcond a3C
 (R (vB false) p9)
 (xcut (fun _ r7 => b9U r7 R E) fun j1 =>
 oP E (xV (Instr.range 9 x0)) p9 fun e9k q7 =>
 xloop [] [] q7 fun _ G7 next2 =>
 c7H e9k G7 next2 j1 R E)
noncomputable def e9l : Code := Tryd.f119.body.getD .skip
def e9m : Hint := (sQ (.seq (sQ (.cond (sQ .none) .none)) (.cut [] (sQ (.block (.loop [] (sQ (.seq (.cond .none .none) (.block (sQ (sQ (.cond (sQ .none) .none))))))))) (sQ .none))))
theorem e1R (x0 : Value) (w : World) (R : RT) (E : Pan) : c8T x0 w R E = callX Tryd.prog [.tmp 2] e9l e9m [x0] w R E := by kernel_rfl
theorem e1S {x0 : Value} (h : c8T x0 w R E) : Cv Tryd.prog 119 #[x0] w R E := by
 refine h9 (args := [x0]) (c := e9l) (h := e9m) (rs := [.tmp 2]) Tryd.func119 (by kernel_rfl) (by kernel_rfl) (nB (by kernel_rfl)) (by kernel_rfl) (by kernel_rfl) (by kernel_rfl) ?_
 rw [← e1R]
 exact h
def c8U (x0 x1 : Value) (w : World) (R : RT) (E : Pan) : Prop :=
 oP E (xCall (fC 142) [x0, x1]) w fun a1E w_2 =>
 oP E (xBin .geq 3 (.tmp 7) (.const (vI 0)) a1E (vI 0)) w_2 fun b9V w_4 =>
 R b9V w_4
noncomputable def e9n : Code := Tryd.f120.body.getD .skip
def e9o : Hint := (sQ (sQ .none))
theorem e1T (x0 x1 : Value) (w : World) (R : RT) (E : Pan) : c8U x0 x1 w R E = callX Tryd.prog [.tmp 4] e9n e9o [x0, x1] w R E := by kernel_rfl
theorem e1U {x0 x1 : Value} (h : c8U x0 x1 w R E) : Cv Tryd.prog 120 #[x0, x1] w R E := by
 refine h9 (args := [x0, x1]) (c := e9n) (h := e9o) (rs := [.tmp 4]) Tryd.func120 (by kernel_rfl) (by kernel_rfl) (nB (by kernel_rfl)) (by kernel_rfl) (by kernel_rfl) (by kernel_rfl) ?_
 rw [← e1T]
 exact h
def c8V (x0 : Value) (w : World) (R : RT) (E : Pan) : Prop :=
 oP E (xCall (fC 150) [x0]) w fun b3V w_2 =>
 oP E (xBin .gtr 3 (.tmp 4) (.const (vI 32)) b3V (vI 32)) w_2 fun b9W w_4 =>
 R b9W w_4
noncomputable def e9p : Code := Tryd.f138.body.getD .skip
def e9q : Hint := (sQ (sQ .none))
theorem e1V (x0 : Value) (w : World) (R : RT) (E : Pan) : c8V x0 w R E = callX Tryd.prog [.tmp 2] e9p e9q [x0] w R E := by kernel_rfl
theorem e1W {x0 : Value} (h : c8V x0 w R E) : Cv Tryd.prog 138 #[x0] w R E := by
 refine h9 (args := [x0]) (c := e9p) (h := e9q) (rs := [.tmp 2]) Tryd.func138 (by kernel_rfl) (by kernel_rfl) (nB (by kernel_rfl)) (by kernel_rfl) (by kernel_rfl) (by kernel_rfl) ?_
 rw [← e1V]
 exact h
def b9X (x4 : Value) (w : World) (R : RT) (_E : Pan) : Prop :=
 ∀ _τ : Fr, (xcond x4
 (R (vB true) w)
 (R (vB false) w))
def c8W (x0 : Value) (w : World) (R : RT) (E : Pan) : Prop :=
 xcut (fun l_1 w_2 => b9X (nth l_1 0) w_2 R E) fun j1 =>
 oP E (xBin .eql 9 (.tmp 3) (.const (Value.string ⟨#[118, 97, 114]⟩)) x0 (Value.string ⟨#[118, 97, 114]⟩)) w fun b9W w_4 =>
 xcond b9W
 (j1 [b9W] w_4)
 (oP E (xBin .eql 9 (.tmp 3) (.const (Value.string ⟨#[97, 114, 114, 97, 121]⟩)) x0 (Value.string ⟨#[97, 114, 114, 97, 121]⟩)) w_4 fun b3I w_6 =>
 xcond b3I
 (j1 [b3I] w_6)
 (oP E (xBin .eql 9 (.tmp 3) (.const (Value.string ⟨#[105, 102]⟩)) x0 (Value.string ⟨#[105, 102]⟩)) w_6 fun b9N w_8 =>
 xcond b9N
 (j1 [b9N] w_8)
 (oP E (xBin .eql 9 (.tmp 3) (.const (Value.string ⟨#[101, 108, 115, 101]⟩)) x0 (Value.string ⟨#[101, 108, 115, 101]⟩)) w_8 fun b3W o0 =>
 xcond b3W
 (j1 [b3W] o0)
 (oP E (xBin .eql 9 (.tmp 3) (.const (Value.string ⟨#[119, 104, 105, 108, 101]⟩)) x0 (Value.string ⟨#[119, 104, 105, 108, 101]⟩)) o0 fun b5s o8 =>
 xcond b5s
 (j1 [b5s] o8)
 (oP E (xBin .eql 9 (.tmp 3) (.const (Value.string ⟨#[97, 115, 115, 101, 114, 116]⟩)) x0 (Value.string ⟨#[97, 115, 115, 101, 114, 116]⟩)) o8 fun d2w p5 =>
 xcond d2w
 (j1 [d2w] p5)
 (oP E (xBin .eql 9 (.tmp 3) (.const (Value.string ⟨#[97, 115, 115, 117, 109, 101]⟩)) x0 (Value.string ⟨#[97, 115, 115, 117, 109, 101]⟩)) p5 fun d2x p9 =>
 xcond d2x
 (j1 [d2x] p9)
 (oP E (xBin .eql 9 (.tmp 3) (.const (Value.string ⟨#[115, 107, 105, 112]⟩)) x0 (Value.string ⟨#[115, 107, 105, 112]⟩)) p9 fun d2y r7 =>
 xcond d2y
 (j1 [d2y] r7)
 (oP E (xBin .eql 9 (.tmp 3) (.const (Value.string ⟨#[105, 110, 112, 117, 116]⟩)) x0 (Value.string ⟨#[105, 110, 112, 117, 116]⟩)) r7 fun d2z q7 =>
 xcond d2z
 (j1 [d2z] q7)
 (oP E (xBin .eql 9 (.tmp 3) (.const (Value.string ⟨#[116, 114, 117, 101]⟩)) x0 (Value.string ⟨#[116, 114, 117, 101]⟩)) q7 fun d2A s7 =>
 xcond d2A
 (j1 [d2A] s7)
 (oP E (xBin .eql 9 (.tmp 3) (.const (Value.string ⟨#[102, 97, 108, 115, 101]⟩)) x0 (Value.string ⟨#[102, 97, 108, 115, 101]⟩)) s7 fun e9r u9 =>
 j1 [e9r] u9))))))))))
noncomputable def e9s : Code := Tryd.f139.body.getD .skip
def e9t : Hint := (sQ (.seq (sQ (.block (.cut [4] (sQ (.cond .none (sQ (.cond .none (sQ (.cond .none (sQ (.cond .none (sQ (.cond .none (sQ (.cond .none (sQ (.cond .none (sQ (.cond .none (sQ (.cond .none (sQ (.cond .none .none)))))))))))))))))))) (.cond (sQ .none) .none)))) (sQ .none)))
theorem e1X (x0 : Value) (w : World) (R : RT) (E : Pan) : c8W x0 w R E = callX Tryd.prog [.tmp 2] e9s e9t [x0] w R E := by kernel_rfl
theorem e1Y {x0 : Value} (h : c8W x0 w R E) : Cv Tryd.prog 139 #[x0] w R E := by
 refine h9 (args := [x0]) (c := e9s) (h := e9t) (rs := [.tmp 2]) Tryd.func139 (by kernel_rfl) (by kernel_rfl) (nB (by kernel_rfl)) (by kernel_rfl) (by kernel_rfl) (by kernel_rfl) ?_
 rw [← e1X]
 exact h
def c8X (x0 : Value) (w : World) (R : RT) (E : Pan) : Prop :=
 oP E (xCall (fC 141) [x0]) w fun b2j w_2 =>
 oP E (xBin .eql 3 (.tmp 6) (.const (vI 3)) b2j (vI 3)) w_2 fun a8B w_4 =>
 oP E (gsem (asB a8B) false (xBin .eql 3 (.tmp 9) (.const (vI 4)) (gval (asB a8B) false b2j) (vI 4))) w_4 fun Y8 w_6 =>
 oP E (xPick a8B (vB true) Y8) w_6 fun b2i w_8 =>
 R b2i w_8
noncomputable def e9u : Code := Tryd.f140.body.getD .skip
def e9v : Hint := (sQ (sQ (sQ .none)))
theorem e1Z (x0 : Value) (w : World) (R : RT) (E : Pan) : c8X x0 w R E = callX Tryd.prog [.tmp 2] e9u e9v [x0] w R E := by kernel_rfl
theorem e2a {x0 : Value} (h : c8X x0 w R E) : Cv Tryd.prog 140 #[x0] w R E := by
 refine h9 (args := [x0]) (c := e9u) (h := e9v) (rs := [.tmp 2]) Tryd.func140 (by kernel_rfl) (by kernel_rfl) (nB (by kernel_rfl)) (by kernel_rfl) (by kernel_rfl) (by kernel_rfl) ?_
 rw [← e1Z]
 exact h
def b9Y (x39 : Value) (w : World) (R : RT) (_E : Pan) : Prop :=
 ∀ _τ : Fr, (xcond x39
 (R (vI 3) w)
 (R (vI 6) w))
def b9Z (x1 x31 : Value) (w : World) (R : RT) (E : Pan) : Prop :=
 ∀ _τ : Fr, (xcond x31
 (R (vI 6) w)
 (oP E (xV (Instr.makeFunc (.func 151) #[] #[x1])) w fun b5t w_8 =>
 oP E (xCall b5t [(Value.int .i32 48), (Value.int .i32 57)]) w_8 fun g1A o0 =>
 xcond g1A
 (R (vI 4) o0)
 (xcut (fun g4H o8 => b9Y (nth g4H 0) o8 R E) fun j4 =>
 oP E (lA 21 x1) o0 fun e9w p5 =>
 oP E (xBin .eql 21 (.tmp 40) (.const (Value.int .i32 95)) e9w (Value.int .i32 95)) p5 fun d2B p9 =>
 xcond d2B
 (j4 [d2B] p9)
 (oP E (xCall b5t [(Value.int .i32 97), (Value.int .i32 122)]) p9 fun d2C r7 =>
 xcond d2C
 (j4 [d2C] r7)
 (oP E (xCall b5t [(Value.int .i32 65), (Value.int .i32 90)]) r7 fun d2D q7 =>
 xcond d2D
 (j4 [d2D] q7)
 (oP E (xCall b5t [(Value.int .i32 192), (Value.int .i32 591)]) q7 fun d2E s7 =>
 xcond d2E
 (j4 [d2E] s7)
 (oP E (xCall b5t [(Value.int .i32 913), (Value.int .i32 969)]) s7 fun d2F u9 =>
 xcond d2F
 (j4 [d2F] u9)
 (oP E (xCall b5t [(Value.int .i32 1040), (Value.int .i32 1103)]) u9 fun e9x A6 =>
 j4 [e9x] A6))))))))
def c0a (x1 x4 x11 : Value) (w : World) (R : RT) (E : Pan) : Prop :=
 ∀ _τ : Fr, (xcond x11
 (R (vI 5) w)
 (xcut (fun d5A C8 => b9Z x1 (nth d5A 0) C8 R E) fun j3 =>
 oP E (xBin .eql 21 (.tmp 4) (.const (Value.int .i32 215)) x4 (Value.int .i32 215)) w fun b8n E0 =>
 xcond b8n
 (j3 [b8n] E0)
 (oP E (xBin .eql 21 (.tmp 4) (.const (Value.int .i32 247)) x4 (Value.int .i32 247)) E0 fun d2G C3 =>
 xcond d2G
 (j3 [d2G] C3)
 (oP E (xBin .eql 21 (.tmp 4) (.const (Value.int .i32 930)) x4 (Value.int .i32 930)) C3 fun b3X D3 =>
 j3 [b3X] D3))))
def c0b (x1 x4 x5 : Value) (w : World) (R : RT) (E : Pan) : Prop :=
 ∀ _τ : Fr, (xcond x5
 (R (vI 1) w)
 (oP E (xBin .eql 21 (.tmp 4) (.const (Value.int .i32 10)) x4 (Value.int .i32 10)) w fun Y8 w_6 =>
 xcond Y8
 (R (vI 2) w_6)
 (xcut (fun c3s G6 => c0a x1 x4 (nth c3s 0) G6 R E) fun j2 =>
 oP E (xBin .eql 21 (.tmp 4) (.const (Value.int .i32 59)) x4 (Value.int .i32 59)) w_6 fun d2H E1 =>
 xcond d2H
 (j2 [d2H] E1)
 (oP E (xBin .eql 21 (.tmp 4) (.const (Value.int .i32 44)) x4 (Value.int .i32 44)) E1 fun d2I E3 =>
 xcond d2I
 (j2 [d2I] E3)
 (oP E (xBin .eql 21 (.tmp 4) (.const (Value.int .i32 123)) x4 (Value.int .i32 123)) E3 fun d2J I0 =>
 xcond d2J
 (j2 [d2J] I0)
 (oP E (xBin .eql 21 (.tmp 4) (.const (Value.int .i32 125)) x4 (Value.int .i32 125)) I0 fun d2K G7 =>
 xcond d2K
 (j2 [d2K] G7)
 (oP E (xBin .eql 21 (.tmp 4) (.const (Value.int .i32 40)) x4 (Value.int .i32 40)) G7 fun b8o K1 =>
 xcond b8o
 (j2 [b8o] K1)
 (oP E (xBin .eql 21 (.tmp 4) (.const (Value.int .i32 41)) x4 (Value.int .i32 41)) K1 fun d2L K4 =>
 xcond d2L
 (j2 [d2L] K4)
 (oP E (xBin .eql 21 (.tmp 4) (.const (Value.int .i32 91)) x4 (Value.int .i32 91)) K4 fun b8p D5 =>
 xcond b8p
 (j2 [b8p] D5)
 (oP E (xBin .eql 21 (.tmp 4) (.const (Value.int .i32 93)) x4 (Value.int .i32 93)) D5 fun d2M F0 =>
 xcond d2M
 (j2 [d2M] F0)
 (oP E (xBin .eql 21 (.tmp 4) (.const (Value.int .i32 61)) x4 (Value.int .i32 61)) F0 fun d2N M0 =>
 xcond d2N
 (j2 [d2N] M0)
 (oP E (xBin .eql 21 (.tmp 4) (.const (Value.int .i32 33)) x4 (Value.int .i32 33)) M0 fun d2O N2 =>
 xcond d2O
 (j2 [d2O] N2)
 (oP E (xBin .eql 21 (.tmp 4) (.const (Value.int .i32 60)) x4 (Value.int .i32 60)) N2 fun d2P M1 =>
 xcond d2P
 (j2 [d2P] M1)
 (oP E (xBin .eql 21 (.tmp 4) (.const (Value.int .i32 62)) x4 (Value.int .i32 62)) M1 fun d2Q O8 =>
 xcond d2Q
 (j2 [d2Q] O8)
 (oP E (xBin .eql 21 (.tmp 4) (.const (Value.int .i32 43)) x4 (Value.int .i32 43)) O8 fun d2R N3 =>
 xcond d2R
 (j2 [d2R] N3)
 (oP E (xBin .eql 21 (.tmp 4) (.const (Value.int .i32 45)) x4 (Value.int .i32 45)) N3 fun d2S N6 =>
 xcond d2S
 (j2 [d2S] N6)
 (oP E (xBin .eql 21 (.tmp 4) (.const (Value.int .i32 42)) x4 (Value.int .i32 42)) N6 fun d2T O9 =>
 xcond d2T
 (j2 [d2T] O9)
 (oP E (xBin .eql 21 (.tmp 4) (.const (Value.int .i32 47)) x4 (Value.int .i32 47)) O9 fun d2U P0 =>
 xcond d2U
 (j2 [d2U] P0)
 (oP E (xBin .eql 21 (.tmp 4) (.const (Value.int .i32 37)) x4 (Value.int .i32 37)) P0 fun d2V M2 =>
 xcond d2V
 (j2 [d2V] M2)
 (oP E (xBin .eql 21 (.tmp 4) (.const (Value.int .i32 38)) x4 (Value.int .i32 38)) M2 fun d2W P5 =>
 xcond d2W
 (j2 [d2W] P5)
 (oP E (xBin .eql 21 (.tmp 4) (.const (Value.int .i32 124)) x4 (Value.int .i32 124)) P5 fun e9y P6 =>
 j2 [e9y] P6)))))))))))))))))))))
def c8Y (x0 : Value) (w : World) (R : RT) (E : Pan) : Prop :=
 oP E (xV (Instr.box 21 x0)) w fun v7 w_2 =>
 oP E (lA 21 v7) w_2 fun b3Y w_4 =>
 xcut (fun g4I S4 => c0b v7 b3Y (nth g4I 0) S4 R E) fun j1 =>
 oP E (xBin .eql 21 (.tmp 4) (.const (Value.int .i32 32)) b3Y (Value.int .i32 32)) w_4 fun e0l N8 =>
 xcond e0l
 (j1 [e0l] N8)
 (oP E (xBin .eql 21 (.tmp 4) (.const (Value.int .i32 9)) b3Y (Value.int .i32 9)) N8 fun e0m S7 =>
 xcond e0m
 (j1 [e0m] S7)
 (oP E (xBin .eql 21 (.tmp 4) (.const (Value.int .i32 13)) b3Y (Value.int .i32 13)) S7 fun g1B R1 =>
 j1 [g1B] R1))
noncomputable def e9z : Code := Tryd.f141.body.getD .skip
def e9A : Hint := (sQ (.seq (sQ (.block (.cut [5] (sQ (.cond .none (sQ (.cond .none .none)))) (.cond (sQ .none) (sQ (.cond (sQ .none) (.cut [11] (sQ (.cond .none (sQ (.cond .none (sQ (.cond .none (sQ (.cond .none (sQ (.cond .none (sQ (.cond .none (sQ (.cond .none (sQ (.cond .none (sQ (.cond .none (sQ (.cond .none (sQ (.cond .none (sQ (.cond .none (sQ (.cond .none (sQ (.cond .none (sQ (.cond .none (sQ (.cond .none (sQ (.cond .none (sQ (.cond .none .none)))))))))))))))))))))))))))))))))))) (.cond (sQ .none) (.cut [31] (sQ (.cond .none (sQ (.cond .none .none)))) (.cond (sQ .none) .none)))))))))) (sQ (.seq (.block (sQ (.cond (sQ .none) (.cut [39] (sQ (.cond .none (sQ (.cond .none (sQ (.cond .none (sQ (.cond .none (sQ (.cond .none .none)))))))))) (.cond (sQ .none) .none))))) (sQ .none)))))
theorem e2b (x0 : Value) (w : World) (R : RT) (E : Pan) : c8Y x0 w R E = callX Tryd.prog [.tmp 2] e9z e9A [x0] w R E := by kernel_rfl
theorem e2c {x0 : Value} (h : c8Y x0 w R E) : Cv Tryd.prog 141 #[x0] w R E := by
 refine h9 (args := [x0]) (c := e9z) (h := e9A) (rs := [.tmp 2]) Tryd.func141 (by kernel_rfl) (by kernel_rfl) (nB (by kernel_rfl)) (by kernel_rfl) (by kernel_rfl) (by kernel_rfl) ?_
 rw [← e2b]
 exact h
def c0c (w : World) (R : RT) (_E : Pan) : Prop :=
 ∀ _τ : Fr, (R (vI (-1)) w)
def c7I (x0 x1 x7 x8 : Value) (w : World) (next2 : NT) (j1 : NT) (R : RT) (E : Pan) : Prop :=
 oP E (xBin .lss 3 (.tmp 8) (.tmp 7) x8 x7) w fun g4J w_6 =>
 xcond g4J
 (oP E (iA 104 x0 x8) w_6 fun U7 w_8 =>
 oP E (lA 9 U7) w_8 fun a4U o0 =>
 oP E (xBin .eql 9 (.tmp 11) (.tmp 15) x1 a4U) o0 fun a5W o8 =>
 xcond a5W
 (R x8 o8)
 (oP E (xBin .add 3 (.tmp 8) (.const (vI 1)) x8 (vI 1)) o8 fun a8E p5 =>
 next2 [a8E] p5))
 (j1 [] w_6)
def c8Z (x0 x1 : Value) (w : World) (R : RT) (E : Pan) : Prop :=
 xcut (fun _ w_2 => c0c w_2 R E) fun j1 =>
 oP E (xBuiltin .len #[104] 3 [false] [x0]) w fun a8B w_4 =>
 xloop [8] [(vI 0)] w_4 fun τ_15 p9 next2 =>
 c7I x0 x1 a8B (τ_15 8) p9 next2 j1 R E
noncomputable def e9B : Code := Tryd.f142.body.getD .skip
def e9C : Hint := (sQ (.cut [] (sQ (.block (.loop [8] (sQ (.seq (.cond .none .none) (.seq (.block (sQ (sQ (.cond (sQ .none) .none)))) .none)))))) (sQ .none)))
theorem e2d (x0 x1 : Value) (w : World) (R : RT) (E : Pan) : c8Z x0 x1 w R E = callX Tryd.prog [.tmp 4] e9B e9C [x0, x1] w R E := by kernel_rfl
theorem e2e {x0 x1 : Value} (h : c8Z x0 x1 w R E) : Cv Tryd.prog 142 #[x0, x1] w R E := by
 refine h9 (args := [x0, x1]) (c := e9B) (h := e9C) (rs := [.tmp 4]) Tryd.func142 (by kernel_rfl) (by kernel_rfl) (nB (by kernel_rfl)) (by kernel_rfl) (by kernel_rfl) (by kernel_rfl) ?_
 rw [← e2d]
 exact h
def c0d (x2 : Value) (w : World) (R : RT) (_E : Pan) : Prop :=
 ∀ _τ : Fr, (R x2 w)
def c7J (x2 x4 : Value) (w : World) (next2 : NT) (j1 : NT) (_R : RT) (E : Pan) : Prop :=
 oP E (xV (Instr.next x4 true 0)) w fun c3t w_6 =>
 oP E (eX c3t 0) w_6 fun c0e w_8 =>
 xcond c0e
 (oP E (xBin .add 3 (.tmp 7) (.const (vI 1)) x2 (vI 1)) w_8 fun b3W o0 =>
 next2 [b3W] o0)
 (j1 [x2] w_8)
def c9a (x0 : Value) (w : World) (R : RT) (E : Pan) : Prop :=
 xcut (fun l_1 w_2 => c0d (nth l_1 0) w_2 R E) fun j1 =>
 oP E (xV (Instr.range 9 x0)) w fun b3Y w_4 =>
 xloop [2] [(vI 0)] w_4 fun τ_11 o8 next2 =>
 c7J (τ_11 2) b3Y o8 next2 j1 R E
noncomputable def e9D : Code := Tryd.f150.body.getD .skip
def e9E : Hint := (sQ (.cut [2] (sQ (.block (.loop [2] (sQ (.seq (.cond .none .none) (.block .none)))))) (sQ .none)))
theorem e2f (x0 : Value) (w : World) (R : RT) (E : Pan) : c9a x0 w R E = callX Tryd.prog [.tmp 2] e9D e9E [x0] w R E := by kernel_rfl
theorem e2g {x0 : Value} (h : c9a x0 w R E) : Cv Tryd.prog 150 #[x0] w R E := by
 refine h9 (args := [x0]) (c := e9D) (h := e9E) (rs := [.tmp 2]) Tryd.func150 (by kernel_rfl) (by kernel_rfl) (nB (by kernel_rfl)) (by kernel_rfl) (by kernel_rfl) (by kernel_rfl) ?_
 rw [← e2f]
 exact h
def c9b (x0 x1 x2 : Value) (w : World) (R : RT) (E : Pan) : Prop :=
 oP E (lA 21 x2) w fun a1E w_2 =>
 oP E (xBin .leq 21 (.tmp 6) (.tmp 7) x0 a1E) w_2 fun b9V w_4 =>
 oP E (gsem (asB b9V) true (lA 21 x2)) w_4 fun Y8 w_6 =>
 oP E (gsem (asB b9V) true (xBin .leq 21 (.tmp 10) (.tmp 11) Y8 (gval (asB b9V) true x1))) w_6 fun a7V w_8 =>
 oP E (xPick b9V a7V (vB false)) w_8 fun a4j o0 =>
 R a4j o0
noncomputable def e9F : Code := Tryd.f151.body.getD .skip
def e9G : Hint := (sQ (sQ .none))
theorem e2h (x0 x1 x2 : Value) (w : World) (R : RT) (E : Pan) : c9b x0 x1 x2 w R E = callX Tryd.prog [.tmp 5] e9F e9G [x0, x1, x2] w R E := by kernel_rfl
theorem e2i {x0 x1 x2 : Value} (h : c9b x0 x1 x2 w R E) : Cv Tryd.prog 151 #[x0, x1, x2] w R E := by
 refine h9 (args := [x0, x1, x2]) (c := e9F) (h := e9G) (rs := [.tmp 5]) Tryd.func151 (by kernel_rfl) (by kernel_rfl) (nB (by kernel_rfl)) (by kernel_rfl) (by kernel_rfl) (by kernel_rfl) ?_
 rw [← e2h]
 exact h
def c0f (x3 x59 : Value) (w : World) (R : RT) (E : Pan) : Prop :=
 ∀ _τ : Fr, (xcond x59
 (oP E (xBin .eql 3 (.tmp 65) (.const (vI 2)) x3 (vI 2)) w fun e9H N8 =>
 R e9H N8)
 (R (vB false) w))
def c0g (x3 x38 x54 : Value) (w : World) (R : RT) (E : Pan) : Prop :=
 ∀ _τ : Fr, (xcond x54
 (oP E (xBin .eql 3 (.tmp 57) (.const (vI 1)) x3 (vI 1)) w fun e9I S4 =>
 R e9I S4)
 (xcut (fun b6H S7 => c0f x3 (nth b6H 0) S7 R E) fun j3 =>
 oP E (xBin .eql 3 (.tmp 38) (.const (vI 6)) x38 (vI 6)) w fun a8F R1 =>
 xcond a8F
 (j3 [a8F] R1)
 (oP E (xBin .eql 3 (.tmp 38) (.const (vI 7)) x38 (vI 7)) R1 fun d2X P1 =>
 xcond d2X
 (j3 [d2X] P1)
 (oP E (xBin .eql 3 (.tmp 38) (.const (vI 8)) x38 (vI 8)) P1 fun d2Y S8 =>
 xcond d2Y
 (j3 [d2Y] S8)
 (oP E (xBin .eql 3 (.tmp 38) (.const (vI 9)) x38 (vI 9)) S8 fun d2Z N9 =>
 xcond d2Z
 (j3 [d2Z] N9)
 (oP E (xBin .eql 3 (.tmp 38) (.const (vI 10)) x38 (vI 10)) N9 fun e9J X4 =>
 j3 [e9J] X4))))))
def c0h (x3 x38 x49 : Value) (w : World) (R : RT) (E : Pan) : Prop :=
 ∀ _τ : Fr, (xcond x49
 (oP E (xBin .eql 3 (.tmp 52) (.const (vI 0)) x3 (vI 0)) w fun b3O P6 =>
 R b3O P6)
 (xcut (fun g4K a0P => c0g x3 x38 (nth g4K 0) a0P R E) fun j2 =>
 oP E (xBin .eql 3 (.tmp 38) (.const (vI 4)) x38 (vI 4)) w fun d3a a0l =>
 xcond d3a
 (j2 [d3a] a0l)
 (oP E (xBin .eql 3 (.tmp 38) (.const (vI 5)) x38 (vI 5)) a0l fun e9K a0L =>
 j2 [e9K] a0L)))
def c9c (x0 : Value) (w : World) (R : RT) (E : Pan) : Prop :=
 oP E (xV (Instr.box 123 x0)) w fun v7 w_2 =>
 oP E (fA 123 v7 0) w_2 fun a3H w_4 =>
 oP E (fA 24 a3H 3) w_4 fun a6t w_6 =>
 oP E (lA 22 a6t) w_6 fun a3O w_8 =>
 oP E (xBuiltin .len #[22] 3 [false] [a3O]) w_8 fun b3Z o0 =>
 oP E (lA 123 v7) o0 fun a7f o8 =>
 oP E (xV (Instr.makeInterface 123 a7f)) o8 fun a7g p5 =>
 oP E (xCall (fC 118) [a7g]) p5 fun a5X p9 =>
 oP E (eX a5X 0) p9 fun _t14_17 r7 =>
 oP E (eX a5X 1) r7 fun a5Y q7 =>
 oP E (fA 123 v7 0) q7 fun a8H s7 =>
 oP E (fA 24 a8H 0) s7 fun b4a u9 =>
 oP E (lA 3 b4a) u9 fun a4L A6 =>
 oP E (xBin .neq 3 (.tmp 18) (.const (vI 1)) a4L (vI 1)) A6 fun a8I C8 =>
 oP E (gsem (asB a8I) true (fA 123 v7 0)) C8 fun c3u E0 =>
 oP E (gsem (asB a8I) true (fA 24 c3u 1)) E0 fun c3v C3 =>
 oP E (gsem (asB a8I) true (lA 2 c3v)) C3 fun c3w D3 =>
 oP E (gsem (asB a8I) true (xBin .neq 2 (.tmp 23) (.const (vI 0)) c3w (vI 0))) D3 fun c3x G6 =>
 oP E (xPick a8I c3x (vB false)) G6 fun a0d E1 =>
 oP E (gsem (asB a0d) false (xV (Op.unary .not (gval (asB a0d) false a5Y)))) E1 fun b4b E3 =>
 oP E (gsem (asB (gval (asB a0d) false b4b)) true (fA 123 v7 0)) E3 fun c3y I0 =>
 oP E (gsem (asB (gval (asB a0d) false b4b)) true (fA 24 c3y 2)) I0 fun c3z G7 =>
 oP E (gsem (asB (gval (asB a0d) false b4b)) true (lA 9 c3z)) G7 fun c3A K1 =>
 oP E (gsem (asB (gval (asB a0d) false b4b)) true (xBin .neq 9 (.tmp 32) (.const (eS)) c3A (eS))) K1 fun e9L K4 =>
 oP E (gsem (asB a0d) false (xPick (gval (asB a0d) false b4b) e9L (vB false))) K4 fun e9M D5 =>
 oP E (xPick a0d (vB true) e9M) D5 fun e9N F0 =>
 xcond e9N
 (R (vB false) F0)
 (oP E (fA 123 v7 0) F0 fun c3q M0 =>
 oP E (fA 24 c3q 0) M0 fun e9O N2 =>
 oP E (lA 3 e9O) N2 fun b8q M1 =>
 oP E (xBin .eql 3 (.tmp 38) (.const (vI 1)) b8q (vI 1)) M1 fun e9P O8 =>
 xcond e9P
 (oP E (fA 123 v7 0) O8 fun e9Q N3 =>
 oP E (fA 24 e9Q 1) N3 fun e9R N6 =>
 oP E (lA 2 e9R) N6 fun e9S O9 =>
 oP E (xBin .geq 2 (.tmp 43) (.const (vI 0)) e9S (vI 0)) O9 fun c3B P0 =>
 oP E (gsem (asB c3B) true (xBin .eql 3 (.tmp 46) (.const (vI 0)) (gval (asB c3B) true b3Z) (vI 0))) P0 fun e9T M2 =>
 oP E (xPick c3B e9T (vB false)) M2 fun e9U P5 =>
 R e9U P5)
 (xcut (fun g4L a1g => c0h b3Z b8q (nth g4L 0) a1g R E) fun j1 =>
 oP E (xBin .eql 3 (.tmp 38) (.const (vI 2)) b8q (vI 2)) O8 fun d3b V6 =>
 xcond d3b
 (j1 [d3b] V6)
 (oP E (xBin .eql 3 (.tmp 38) (.const (vI 3)) b8q (vI 3)) V6 fun e2j P8 =>
 j1 [e2j] P8)))
noncomputable def e9V : Code := Tryd.f169.body.getD .skip
def e9W : Hint := (sQ (sQ (sQ (.seq (sQ (.cond (sQ .none) .none)) (.seq (sQ (.block (sQ (.cond (sQ .none) (.cut [49] (sQ (.cond .none .none)) (.cond (sQ .none) (.cut [54] (sQ (.cond .none .none)) (.cond (sQ .none) (.cut [59] (sQ (.cond .none (sQ (.cond .none (sQ (.cond .none (sQ (.cond .none .none)))))))) (.cond (sQ .none) .none)))))))))) (sQ .none))))))
theorem e2k (x0 : Value) (w : World) (R : RT) (E : Pan) : c9c x0 w R E = callX Tryd.prog [.tmp 2] e9V e9W [x0] w R E := by kernel_rfl
theorem e2l {x0 : Value} (h : c9c x0 w R E) : Cv Tryd.prog 169 #[x0] w R E := by
 refine h9 (args := [x0]) (c := e9V) (h := e9W) (rs := [.tmp 2]) Tryd.func169 (by kernel_rfl) (by kernel_rfl) (nB (by kernel_rfl)) (by kernel_rfl) (by kernel_rfl) (by kernel_rfl) ?_
 rw [← e2k]
 exact h
def c9d (x0 : Value) (w : World) (R : RT) (E : Pan) : Prop :=
 oP E (xV (Instr.box 123 x0)) w fun v7 w_2 =>
 oP E (fA 123 v7 0) w_2 fun a0k w_4 =>
 oP E (fA 24 a0k 3) w_4 fun a2p w_6 =>
 oP E (lA 22 a2p) w_6 fun a5d w_8 =>
 oP E (xCall (fC 171) [a5d, (fC 172)]) w_8 fun b2e o0 =>
 R b2e o0
noncomputable def e9X : Code := Tryd.f170.body.getD .skip
def e9Y : Hint := (sQ (sQ .none))
theorem e2m (x0 : Value) (w : World) (R : RT) (E : Pan) : c9d x0 w R E = callX Tryd.prog [.tmp 2] e9X e9Y [x0] w R E := by kernel_rfl
theorem e2n {x0 : Value} (h : c9d x0 w R E) : Cv Tryd.prog 170 #[x0] w R E := by
 refine h9 (args := [x0]) (c := e9X) (h := e9Y) (rs := [.tmp 2]) Tryd.func170 (by kernel_rfl) (by kernel_rfl) (nB (by kernel_rfl)) (by kernel_rfl) (by kernel_rfl) (by kernel_rfl) ?_
 rw [← e2m]
 exact h
def c0i (x5 : Value) (w : World) (R : RT) (_E : Pan) : Prop :=
 ∀ _τ : Fr, (R x5 w)
def c7K (x1 x5 x8 x9 x10 : Value) (w : World) (next2 : NT) (j1 : NT) (_R : RT) (E : Pan) : Prop :=
 oP E (xBin .lss 3 (.tmp 10) (.tmp 9) x10 x9) w fun a5O w_6 =>
 xcond a5O
 (oP E (iA 22 x8 x10) w_6 fun a7V w_8 =>
 oP E (lA 24 a7V) w_8 fun a4j o0 =>
 oP E (xV (Instr.alloc 24 true (.tuple #[]))) o0 fun a4i o8 =>
 oP E (sA 24 a4i a4j) o8 fun _z_13 p5 =>
 oP E (lA 24 a4i) p5 fun a8C p9 =>
 oP E (xCall x1 [a8C]) p9 fun a5P r7 =>
 oP E (xV (Instr.buildSlice 124 1 #[(0, a5P)])) r7 fun a8D q7 =>
 oP E (xBuiltin .append #[124, 124] 124 [false, false] [x5, a8D]) q7 fun a5Q s7 =>
 oP E (xBin .add 3 (.tmp 10) (.const (vI 1)) x10 (vI 1)) s7 fun a5R u9 =>
 next2 [a5Q, a5R] u9)
 (j1 [x5] w_6)
def c9e (x0 x1 : Value) (w : World) (R : RT) (E : Pan) : Prop :=
 xcut (fun l_1 w_2 => c0i (nth l_1 0) w_2 R E) fun j1 =>
 oP E (xBuiltin .len #[22] 3 [false] [x0]) w fun a1D w_4 =>
 xloop [5, 10] [(nS), (vI 0)] w_4 fun τ_25 A6 next2 =>
 c7K x1 (τ_25 5) x0 a1D (τ_25 10) A6 next2 j1 R E
noncomputable def e9Z : Code := Tryd.f171.body.getD .skip
def f0a : Hint := (sQ (sQ (.cut [5] (sQ (.block (.loop [5, 10] (sQ (.seq (.cond .none .none) (.seq (.block (sQ .none)) .none)))))) (sQ .none))))
theorem e2o (x0 x1 : Value) (w : World) (R : RT) (E : Pan) : c9e x0 x1 w R E = callX Tryd.prog [.tmp 4] e9Z f0a [x0, x1] w R E := by kernel_rfl
theorem e2p {x0 x1 : Value} (h : c9e x0 x1 w R E) : Cv Tryd.prog 171 #[x0, x1] w R E := by
 refine h9 (args := [x0, x1]) (c := e9Z) (h := f0a) (rs := [.tmp 4]) Tryd.func171 (by kernel_rfl) (by kernel_rfl) (nB (by kernel_rfl)) (by kernel_rfl) (by kernel_rfl) (by kernel_rfl) ?_
 rw [← e2o]
 exact h
def c9f (x0 : Value) (w : World) (R : RT) (E : Pan) : Prop :=
 oP E (xV (Instr.box 24 x0)) w fun v7 w_2 =>
 oP E (lA 24 v7) w_2 fun a0k w_4 =>
 oP E (xV (Instr.build 123 #[(0, a0k)])) w_4 fun a2p w_6 =>
 oP E (xV (Instr.makeInterface 123 a2p)) w_6 fun a5d w_8 =>
 R a5d w_8
noncomputable def f0b : Code := Tryd.f172.body.getD .skip
def f0c : Hint := (sQ (sQ .none))
theorem e2q (x0 : Value) (w : World) (R : RT) (E : Pan) : c9f x0 w R E = callX Tryd.prog [.tmp 2] f0b f0c [x0] w R E := by kernel_rfl
theorem e2r {x0 : Value} (h : c9f x0 w R E) : Cv Tryd.prog 172 #[x0] w R E := by
 refine h9 (args := [x0]) (c := f0b) (h := f0c) (rs := [.tmp 2]) Tryd.func172 (by kernel_rfl) (by kernel_rfl) (nB (by kernel_rfl)) (by kernel_rfl) (by kernel_rfl) (by kernel_rfl) ?_
 rw [← e2q]
 exact h
def c0j (x3 x50 : Value) (w : World) (R : RT) (E : Pan) : Prop :=
 ∀ _τ : Fr, (xcond x50
 (oP E (lA 223 x3) w fun c3C N9 =>
 oP E (xV (Instr.build 223 #[(0, (vI 0)), (1, (vI 2))])) N9 fun c3D X4 =>
 oP E (xBin .eql 223 (.tmp 53) (.tmp 54) c3C c3D) X4 fun c3E a0P =>
 R c3E a0P)
 (R (vB false) w))
def c0k (x3 x38 x39 : Value) (w : World) (R : RT) (E : Pan) : Prop :=
 ∀ _τ : Fr, (xcond x39
 (oP E (lA 223 x3) w fun f0d P6 =>
 oP E (xV (Instr.build 223 #[])) P6 fun f0e S4 =>
 oP E (xBin .eql 223 (.tmp 42) (.tmp 43) f0d f0e) S4 fun f0f N8 =>
 R f0f N8)
 (oP E (xBin .eql 3 (.tmp 38) (.const (vI 4)) x38 (vI 4)) w fun f0g S7 =>
 xcond f0g
 (oP E (lA 223 x3) S7 fun f0h R1 =>
 oP E (xV (Instr.build 223 #[(0, (vI 0)), (1, (vI 1))])) R1 fun f0i P1 =>
 oP E (xBin .eql 223 (.tmp 47) (.tmp 48) f0h f0i) P1 fun f0j S8 =>
 R f0j S8)
 (xcut (fun c3F a0l => c0j x3 (nth c3F 0) a0l R E) fun j2 =>
 oP E (xBin .eql 3 (.tmp 38) (.const (vI 5)) x38 (vI 5)) S7 fun d3c a0L =>
 xcond d3c
 (j2 [d3c] a0L)
 (oP E (xBin .eql 3 (.tmp 38) (.const (vI 6)) x38 (vI 6)) a0L fun f0k a1g =>
 j2 [f0k] a1g))))
def c9g (x0 : Value) (w : World) (R : RT) (E : Pan) : Prop :=
 oP E (xV (Instr.box 138 x0)) w fun v7 w_2 =>
 oP E (fA 138 v7 0) w_2 fun b3Y w_4 =>
 oP E (fA 27 b3Y 2) w_4 fun c3t w_6 =>
 oP E (lA 22 c3t) w_6 fun c0e w_8 =>
 oP E (xBuiltin .len #[22] 3 [false] [c0e]) w_8 fun g4M o0 =>
 oP E (fA 138 v7 0) o0 fun b8e o8 =>
 oP E (fA 27 b8e 3) o8 fun b2k p5 =>
 oP E (lA 25 b2k) p5 fun b4c p9 =>
 oP E (xBuiltin .len #[25] 3 [false] [b4c]) p9 fun b4d r7 =>
 oP E (xV (Instr.build 223 #[(0, g4M), (1, b4d)])) r7 fun b4e q7 =>
 oP E (xV (Instr.alloc 223 true (.tuple #[]))) q7 fun c9h s7 =>
 oP E (sA 223 c9h b4e) s7 fun _z_23 u9 =>
 oP E (fA 138 v7 0) u9 fun f0l A6 =>
 oP E (fA 27 f0l 0) A6 fun f0m C8 =>
 oP E (lA 3 f0m) C8 fun f0n E0 =>
 oP E (xBin .eql 3 (.tmp 15) (.const (vI 3)) f0n (vI 3)) E0 fun f0o C3 =>
 xcond f0o
 (oP E (fA 138 v7 0) C3 fun c2W D3 =>
 oP E (fA 27 c2W 1) D3 fun b3M G6 =>
 oP E (lA 3 b3M) G6 fun f0p E1 =>
 oP E (xBin .geq 3 (.tmp 19) (.const (vI 1)) f0p (vI 1)) E1 fun b4f E3 =>
 oP E (gsem (asB b4f) true (fA 138 v7 0)) E3 fun c3G I0 =>
 oP E (gsem (asB b4f) true (fA 27 c3G 1)) I0 fun c3H G7 =>
 oP E (gsem (asB b4f) true (lA 3 c3H)) G7 fun f0q K1 =>
 oP E (gsem (asB b4f) true (xBin .leq 3 (.tmp 24) (.const (vI 6)) f0q (vI 6))) K1 fun f0r K4 =>
 oP E (xPick b4f f0r (vB false)) K4 fun b8r D5 =>
 oP E (gsem (asB b8r) true (lA 223 c9h)) D5 fun b4g F0 =>
 oP E (gsem (asB b8r) true (xV (Instr.build 223 #[(0, (vI 2)), (1, (vI 0))]))) F0 fun f0s M0 =>
 oP E (gsem (asB b8r) true (xBin .eql 223 (.tmp 28) (.tmp 29) b4g f0s)) M0 fun f0t N2 =>
 oP E (xPick b8r f0t (vB false)) N2 fun f0u M1 =>
 R f0u M1)
 (oP E (fA 138 v7 0) C3 fun b4h O8 =>
 oP E (fA 27 b4h 1) O8 fun b4i N3 =>
 oP E (lA 3 b4i) N3 fun b4j N6 =>
 oP E (xBin .neq 3 (.tmp 34) (.const (vI 0)) b4j (vI 0)) N6 fun a8J O9 =>
 xcond a8J
 (R (vB false) O9)
 (oP E (fA 138 v7 0) O9 fun f0v P0 =>
 oP E (fA 27 f0v 0) P0 fun f0w M2 =>
 oP E (lA 3 f0w) M2 fun c3I P5 =>
 xcut (fun g4N V6 => c0k c9h c3I (nth g4N 0) V6 R E) fun j1 =>
 oP E (xBin .eql 3 (.tmp 38) (.const (vI 1)) c3I (vI 1)) P5 fun c7L P8 =>
 xcond c7L
 (j1 [c7L] P8)
 (oP E (xBin .eql 3 (.tmp 38) (.const (vI 2)) c3I (vI 2)) P8 fun e2s Q6 =>
 j1 [e2s] Q6)))
noncomputable def f0x : Code := Tryd.f173.body.getD .skip
def f0y : Hint := (sQ (sQ (.seq (sQ (.cond (sQ .none) .none)) (.seq (sQ (.cond (sQ .none) .none)) (.seq (sQ (.block (.cut [39] (sQ (.cond .none .none)) (.cond (sQ .none) (sQ (.cond (sQ .none) (.cut [50] (sQ (.cond .none .none)) (.cond (sQ .none) .none)))))))) (sQ .none))))))
theorem e2t (x0 : Value) (w : World) (R : RT) (E : Pan) : c9g x0 w R E = callX Tryd.prog [.tmp 2] f0x f0y [x0] w R E := by kernel_rfl
theorem e2u {x0 : Value} (h : c9g x0 w R E) : Cv Tryd.prog 173 #[x0] w R E := by
 refine h9 (args := [x0]) (c := f0x) (h := f0y) (rs := [.tmp 2]) Tryd.func173 (by kernel_rfl) (by kernel_rfl) (nB (by kernel_rfl)) (by kernel_rfl) (by kernel_rfl) (by kernel_rfl) ?_
 rw [← e2t]
 exact h
def c9i (x0 : Value) (w : World) (R : RT) (E : Pan) : Prop :=
 oP E (xV (Instr.box 138 x0)) w fun v7 w_2 =>
 dX w_2 fun w_3 =>
 qP Tryd.prog (fA 138 v7 0) fun b9M =>
 qP Tryd.prog (fA 27 b9M 2) fun a2p =>
 qP Tryd.prog (fA 138 v7 0) fun d5C =>
 qP Tryd.prog (fA 27 d5C 3) fun a3O =>
 qL Tryd.prog w_3 (blk a2p) (lA 22 a2p) fun d5y =>
 qL Tryd.prog w_3 (blk a3O) (lA 25 a3O) fun b3Z =>
 oP E (xCall (fC 171) [d5y, (fC 172)]) w_3 fun g1C a1e =>
 keepX [(blk a3O)] w_3 a1e (opK Tryd.prog E (xCall (fC 175) [b3Z, (fC 176)]) a1e fun f0z T6 =>
 keepX [] a1e T6 (opK Tryd.prog E (xV (Instr.buildSlice 174 2 #[(0, g1C), (1, f0z)])) T6 fun f0A b6F =>
 keepX [] T6 b6F (opK Tryd.prog E (xCall (fC 87) [f0A]) b6F fun f0B a3F =>
 keepX [] b6F a3F (R f0B a3F))))
noncomputable def f0C : Code := Tryd.f174.body.getD .skip
def f0D : Hint := (sQ (.seq (.reg [(0, 8, 2), (1, 16, 8), (2, 32, 16), (4, 64, 32), (0, 128, 2), (16, 256, 128), (32, 512, 256), (72, 1024, 512), (136, 2048, 1088), (384, 4096, 2048), (1023, 4, 4096)] [68, 68, 64, 64, 68, 68, 4, 0, 0, 0, 68] (.early 0 (.early 1 (.early 4 (.early 5 (.load 2 (.load 6 (.step 3 (.step 7 (.step 8 (.step 9 (.early 10 .done)))))))))))) .none))
theorem e2v (x0 : Value) (w : World) (R : RT) (E : Pan) : c9i x0 w R E = callX Tryd.prog [.tmp 2] f0C f0D [x0] w R E := by kernel_rfl
theorem e2w {x0 : Value} (h : c9i x0 w R E) : Cv Tryd.prog 174 #[x0] w R E := by
 refine h9 (args := [x0]) (c := f0C) (h := f0D) (rs := [.tmp 2]) Tryd.func174 (by kernel_rfl) (by kernel_rfl) (nB (by kernel_rfl)) (by kernel_rfl) (by kernel_rfl) (by kernel_rfl) ?_
 rw [← e2v]
 exact h
def c0l (x5 : Value) (w : World) (R : RT) (_E : Pan) : Prop :=
 ∀ _τ : Fr, (R x5 w)
def c7M (x1 x5 x8 x9 x10 : Value) (w : World) (next2 : NT) (j1 : NT) (_R : RT) (E : Pan) : Prop :=
 oP E (xBin .lss 3 (.tmp 10) (.tmp 9) x10 x9) w fun a5O w_6 =>
 xcond a5O
 (oP E (iA 25 x8 x10) w_6 fun a7V w_8 =>
 oP E (lA 27 a7V) w_8 fun a4j o0 =>
 oP E (xV (Instr.alloc 27 true (.tuple #[]))) o0 fun a4i o8 =>
 oP E (sA 27 a4i a4j) o8 fun _z_13 p5 =>
 oP E (lA 27 a4i) p5 fun a8C p9 =>
 oP E (xCall x1 [a8C]) p9 fun a5P r7 =>
 oP E (xV (Instr.buildSlice 124 1 #[(0, a5P)])) r7 fun a8D q7 =>
 oP E (xBuiltin .append #[124, 124] 124 [false, false] [x5, a8D]) q7 fun a5Q s7 =>
 oP E (xBin .add 3 (.tmp 10) (.const (vI 1)) x10 (vI 1)) s7 fun a5R u9 =>
 next2 [a5Q, a5R] u9)
 (j1 [x5] w_6)
def c9j (x0 x1 : Value) (w : World) (R : RT) (E : Pan) : Prop :=
 xcut (fun l_1 w_2 => c0l (nth l_1 0) w_2 R E) fun j1 =>
 oP E (xBuiltin .len #[25] 3 [false] [x0]) w fun a1D w_4 =>
 xloop [5, 10] [(nS), (vI 0)] w_4 fun τ_25 A6 next2 =>
 c7M x1 (τ_25 5) x0 a1D (τ_25 10) A6 next2 j1 R E
noncomputable def f0E : Code := Tryd.f175.body.getD .skip
def f0F : Hint := (sQ (sQ (.cut [5] (sQ (.block (.loop [5, 10] (sQ (.seq (.cond .none .none) (.seq (.block (sQ .none)) .none)))))) (sQ .none))))
theorem e2x (x0 x1 : Value) (w : World) (R : RT) (E : Pan) : c9j x0 x1 w R E = callX Tryd.prog [.tmp 4] f0E f0F [x0, x1] w R E := by kernel_rfl
theorem e2y {x0 x1 : Value} (h : c9j x0 x1 w R E) : Cv Tryd.prog 175 #[x0, x1] w R E := by
 refine h9 (args := [x0, x1]) (c := f0E) (h := f0F) (rs := [.tmp 4]) Tryd.func175 (by kernel_rfl) (by kernel_rfl) (nB (by kernel_rfl)) (by kernel_rfl) (by kernel_rfl) (by kernel_rfl) ?_
 rw [← e2x]
 exact h
def c9k (x0 : Value) (w : World) (R : RT) (E : Pan) : Prop :=
 oP E (xV (Instr.box 27 x0)) w fun v7 w_2 =>
 oP E (lA 27 v7) w_2 fun a0k w_4 =>
 oP E (xV (Instr.build 138 #[(0, a0k)])) w_4 fun a2p w_6 =>
 oP E (xV (Instr.makeInterface 138 a2p)) w_6 fun a5d w_8 =>
 R a5d w_8
noncomputable def f0G : Code := Tryd.f176.body.getD .skip
def f0H : Hint := (sQ (sQ .none))
theorem e2z (x0 : Value) (w : World) (R : RT) (E : Pan) : c9k x0 w R E = callX Tryd.prog [.tmp 2] f0G f0H [x0] w R E := by kernel_rfl
theorem e2A {x0 : Value} (h : c9k x0 w R E) : Cv Tryd.prog 176 #[x0] w R E := by
 refine h9 (args := [x0]) (c := f0G) (h := f0H) (rs := [.tmp 2]) Tryd.func176 (by kernel_rfl) (by kernel_rfl) (nB (by kernel_rfl)) (by kernel_rfl) (by kernel_rfl) (by kernel_rfl) ?_
 rw [← e2z]
 exact h
def c9l (x0 : Value) (w : World) (R : RT) (E : Pan) : Prop :=
 oP E (xV (Instr.box 177 x0)) w fun v7 w_2 =>
 oP E (fA 177 v7 0) w_2 fun a0k w_4 =>
 oP E (fA 58 a0k 1) w_4 fun a2p w_6 =>
 oP E (lA 3 a2p) w_6 fun a5d w_8 =>
 oP E (xBin .geq 3 (.tmp 5) (.const (vI 0)) a5d (vI 0)) w_8 fun b2e o0 =>
 oP E (gsem (asB b2e) true (fA 177 v7 0)) o0 fun b8e o8 =>
 oP E (gsem (asB b2e) true (fA 58 b8e 1)) o8 fun b2k p5 =>
 oP E (gsem (asB b2e) true (lA 3 b2k)) p5 fun b4c p9 =>
 oP E (gsem (asB b2e) true (xBin .leq 3 (.tmp 10) (.const (vI 2147483647)) b4c (vI 2147483647))) p9 fun b4d r7 =>
 oP E (xPick b2e b4d (vB false)) r7 fun b4e q7 =>
 R b4e q7
noncomputable def f0I : Code := Tryd.f177.body.getD .skip
def f0J : Hint := (sQ (sQ .none))
theorem e2B (x0 : Value) (w : World) (R : RT) (E : Pan) : c9l x0 w R E = callX Tryd.prog [.tmp 2] f0I f0J [x0] w R E := by kernel_rfl
theorem e2C {x0 : Value} (h : c9l x0 w R E) : Cv Tryd.prog 177 #[x0] w R E := by
 refine h9 (args := [x0]) (c := f0I) (h := f0J) (rs := [.tmp 2]) Tryd.func177 (by kernel_rfl) (by kernel_rfl) (nB (by kernel_rfl)) (by kernel_rfl) (by kernel_rfl) (by kernel_rfl) ?_
 rw [← e2B]
 exact h
def c9m (x0 : Value) (w : World) (R : RT) (E : Pan) : Prop :=
 oP E (xV (Instr.box 177 x0)) w fun _t1_1 w_2 =>
 R (nS) w_2
noncomputable def f0K : Code := Tryd.f178.body.getD .skip
def f0L : Hint := (sQ (sQ .none))
theorem e2D (x0 : Value) (w : World) (R : RT) (E : Pan) : c9m x0 w R E = callX Tryd.prog [.tmp 2] f0K f0L [x0] w R E := by kernel_rfl
theorem e2E {x0 : Value} (h : c9m x0 w R E) : Cv Tryd.prog 178 #[x0] w R E := by
 refine h9 (args := [x0]) (c := f0K) (h := f0L) (rs := [.tmp 2]) Tryd.func178 (by kernel_rfl) (by kernel_rfl) (nB (by kernel_rfl)) (by kernel_rfl) (by kernel_rfl) (by kernel_rfl) ?_
 rw [← e2D]
 exact h
def c0m (x4 x5 x35 x83 : Value) (w : World) (R : RT) (E : Pan) : Prop :=
 ∀ _τ : Fr, (xcond x83
 (oP E (gsem (asB x5) true (lA 227 x4)) w fun e2F a4l =>
 oP E (gsem (asB x5) true (xV (Instr.build 227 #[(0, (vI 0)), (1, (vI 1))]))) a4l fun e2G a5Z =>
 oP E (gsem (asB x5) true (xBin .eql 227 (.tmp 88) (.tmp 89) e2F e2G)) a5Z fun e2H a6Z =>
 oP E (xPick x5 e2H (vB false)) a6Z fun e2I a7W =>
 R e2I a7W)
 (oP E (xBin .eql 3 (.tmp 35) (.const (vI 7)) x35 (vI 7)) w fun e2J a7a =>
 xcond e2J
 (oP E (gsem (asB x5) true (lA 227 x4)) a7a fun e2K b2l =>
 oP E (gsem (asB x5) true (xV (Instr.build 227 #[]))) b2l fun e2L b0m =>
 oP E (gsem (asB x5) true (xBin .eql 227 (.tmp 96) (.tmp 97) e2K e2L)) b0m fun e2M b2m =>
 oP E (xPick x5 e2M (vB false)) b2m fun e2N b8s =>
 R e2N b8s)
 (R (vB false) a7a)))
def c9n (x0 : Value) (w : World) (R : RT) (E : Pan) : Prop :=
 oP E (xV (Instr.box 179 x0)) w fun v7 w_2 =>
 oP E (fA 179 v7 0) w_2 fun a3H w_4 =>
 oP E (fA 63 a3H 4) w_4 fun a6t w_6 =>
 oP E (lA 42 a6t) w_6 fun a3O w_8 =>
 oP E (xBuiltin .len #[42] 3 [false] [a3O]) w_8 fun b3Z o0 =>
 oP E (fA 179 v7 0) o0 fun c3J o8 =>
 oP E (fA 63 c3J 5) o8 fun a4M p5 =>
 oP E (lA 42 a4M) p5 fun c3K p9 =>
 oP E (xBuiltin .len #[42] 3 [false] [c3K]) p9 fun a6a r7 =>
 oP E (xBin .add 3 (.tmp 9) (.tmp 13) b3Z a6a) r7 fun f0M q7 =>
 oP E (xBin .gtr 3 (.tmp 14) (.const (vI 0)) f0M (vI 0)) q7 fun c3L s7 =>
 oP E (fA 179 v7 0) s7 fun f0N u9 =>
 oP E (fA 63 f0N 2) u9 fun c3M A6 =>
 oP E (lA 22 c3M) A6 fun c3N C8 =>
 oP E (xBuiltin .len #[22] 3 [false] [c3N]) C8 fun c3O E0 =>
 oP E (fA 179 v7 0) E0 fun c3P C3 =>
 oP E (fA 63 c3P 3) C3 fun b8t D3 =>
 oP E (lA 25 b8t) D3 fun c3Q G6 =>
 oP E (xBuiltin .len #[25] 3 [false] [c3Q]) G6 fun c3R E1 =>
 oP E (xV (Instr.build 227 #[(0, c3O), (1, c3R)])) E1 fun f0O E3 =>
 oP E (xV (Instr.alloc 227 true (.tuple #[]))) E3 fun b5u I0 =>
 oP E (sA 227 b5u f0O) I0 fun _z_43 G7 =>
 oP E (fA 179 v7 0) G7 fun f0P K1 =>
 oP E (fA 63 f0P 1) K1 fun f0Q K4 =>
 oP E (lA 9 f0Q) K4 fun f0R D5 =>
 oP E (xBin .eql 9 (.tmp 27) (.const (eS)) f0R (eS)) D5 fun b4g F0 =>
 oP E (gsem (asB b4g) true (xV (Op.unary .not (gval (asB b4g) true c3L)))) F0 fun f0S M0 =>
 oP E (xPick b4g f0S (vB false)) M0 fun f0T N2 =>
 oP E (fA 179 v7 0) N2 fun f0U M1 =>
 oP E (fA 63 f0U 0) M1 fun f0V O8 =>
 oP E (lA 3 f0V) O8 fun a8K N3 =>
 oP E (xBin .eql 3 (.tmp 35) (.const (vI 1)) a8K (vI 1)) N3 fun f0W N6 =>
 xcond f0W
 (oP E (xV (Op.unary .not c3L)) N6 fun b8u O9 =>
 oP E (gsem (asB b8u) true (lA 227 b5u)) O9 fun f0X P0 =>
 oP E (gsem (asB b8u) true (xV (Instr.build 227 #[(0, (vI 1)), (1, (vI 0))]))) P0 fun f0Y M2 =>
 oP E (gsem (asB b8u) true (xBin .eql 227 (.tmp 41) (.tmp 42) f0X f0Y)) M2 fun f0Z P5 =>
 oP E (xPick b8u f0Z (vB false)) P5 fun f1a P6 =>
 R f1a P6)
 (oP E (xBin .eql 3 (.tmp 35) (.const (vI 2)) a8K (vI 2)) N6 fun c3S S4 =>
 xcond c3S
 (oP E (xV (Op.unary .not c3L)) S4 fun b1g N8 =>
 oP E (gsem (asB b1g) true (lA 227 b5u)) N8 fun f1b S7 =>
 oP E (gsem (asB b1g) true (xV (Instr.build 227 #[(0, (vI 2)), (1, (vI 0))]))) S7 fun f1c R1 =>
 oP E (gsem (asB b1g) true (xBin .eql 227 (.tmp 50) (.tmp 51) f1b f1c)) R1 fun f1d P1 =>
 oP E (xPick b1g f1d (vB false)) P1 fun f1e S8 =>
 R f1e S8)
 (oP E (xBin .eql 3 (.tmp 35) (.const (vI 3)) a8K (vI 3)) S4 fun f1f N9 =>
 xcond f1f
 (oP E (fA 179 v7 0) N9 fun f1g X4 =>
 oP E (fA 63 f1g 1) X4 fun f1h a0P =>
 oP E (lA 9 f1h) a0P fun f1i a0l =>
 oP E (xBin .eql 9 (.tmp 58) (.const (eS)) f1i (eS)) a0l fun b8v a0L =>
 oP E (gsem (asB b8v) true (lA 227 b5u)) a0L fun f1j a1g =>
 oP E (gsem (asB b8v) true (xV (Instr.build 227 #[(0, (vI 0)), (1, (vI 1))]))) a1g fun f1k V6 =>
 oP E (gsem (asB b8v) true (xBin .eql 227 (.tmp 61) (.tmp 62) f1j f1k)) V6 fun e2O P8 =>
 oP E (xPick b8v e2O (vB false)) P8 fun e2P Q6 =>
 R e2P Q6)
 (oP E (xBin .eql 3 (.tmp 35) (.const (vI 4)) a8K (vI 4)) N9 fun e2Q X5 =>
 xcond e2Q
 (oP E (fA 179 v7 0) X5 fun e2R a1h =>
 oP E (fA 63 e2R 1) a1h fun e2S a2e =>
 oP E (lA 9 e2S) a2e fun e2T a1i =>
 oP E (xBin .eql 9 (.tmp 69) (.const (eS)) e2T (eS)) a1i fun a8n R3 =>
 oP E (gsem (asB a8n) true (fA 179 v7 0)) R3 fun e2U U6 =>
 oP E (gsem (asB a8n) true (fA 63 e2U 5)) U6 fun e2V a2f =>
 oP E (gsem (asB a8n) true (lA 42 e2V)) a2f fun e2W P2 =>
 oP E (gsem (asB a8n) true (xBuiltin .len #[42] 3 [false] [e2W])) P2 fun e2X a2s =>
 oP E (gsem (asB a8n) true (xBin .eql 3 (.tmp 75) (.const (vI 0)) e2X (vI 0))) a2s fun e2Y a4V =>
 oP E (xPick a8n e2Y (vB false)) a4V fun b5v a6b =>
 oP E (gsem (asB b5v) true (lA 227 b5u)) a6b fun e2Z a4W =>
 oP E (gsem (asB b5v) true (xV (Instr.build 227 #[(0, (vI 0)), (1, (vI 1))]))) a4W fun e3a a4X =>
 oP E (gsem (asB b5v) true (xBin .eql 227 (.tmp 79) (.tmp 80) e2Z e3a)) a4X fun e3b a2g =>
 oP E (xPick b5v e3b (vB false)) a2g fun e3c a2h =>
 R e3c a2h)
 (xcut (fun g1D b8w => c0m b5u f0T a8K (nth g1D 0) b8w R E) fun j1 =>
 oP E (xBin .eql 3 (.tmp 35) (.const (vI 5)) a8K (vI 5)) X5 fun c7N b5w =>
 xcond c7N
 (j1 [c7N] b5w)
 (oP E (xBin .eql 3 (.tmp 35) (.const (vI 6)) a8K (vI 6)) b5w fun e3d b8x =>
 j1 [e3d] b8x)))))
noncomputable def f1l : Code := Tryd.f179.body.getD .skip
def f1m : Hint := (sQ (sQ (sQ (sQ (.seq (sQ (.block (sQ (.cond (sQ .none) (sQ (.cond (sQ .none) (sQ (.cond (sQ .none) (sQ (.cond (sQ .none) (.cut [83] (sQ (.cond .none .none)) (.cond (sQ .none) (sQ (.cond (sQ .none) .none)))))))))))))) (sQ .none))))))
theorem e3e (x0 : Value) (w : World) (R : RT) (E : Pan) : c9n x0 w R E = callX Tryd.prog [.tmp 2] f1l f1m [x0] w R E := by kernel_rfl
theorem e3f {x0 : Value} (h : c9n x0 w R E) : Cv Tryd.prog 179 #[x0] w R E := by
 refine h9 (args := [x0]) (c := f1l) (h := f1m) (rs := [.tmp 2]) Tryd.func179 (by kernel_rfl) (by kernel_rfl) (nB (by kernel_rfl)) (by kernel_rfl) (by kernel_rfl) (by kernel_rfl) ?_
 rw [← e3e]
 exact h
def c9o (x0 : Value) (w : World) (R : RT) (E : Pan) : Prop :=
 oP E (xV (Instr.box 179 x0)) w fun v7 w_2 =>
 dX w_2 fun w_3 =>
 qP Tryd.prog (fA 179 v7 0) fun b9M =>
 qP Tryd.prog (fA 63 b9M 3) fun a2p =>
 qP Tryd.prog (fA 179 v7 0) fun d5C =>
 qP Tryd.prog (fA 63 d5C 2) fun a3O =>
 qP Tryd.prog (fA 179 v7 0) fun g1E =>
 qP Tryd.prog (fA 63 g1E 4) fun b5x =>
 qP Tryd.prog (fA 179 v7 0) fun f1n =>
 qP Tryd.prog (fA 63 f1n 5) fun a5W =>
 qL Tryd.prog w_3 (blk a2p) (lA 25 a2p) fun g1F =>
 qL Tryd.prog w_3 (blk a3O) (lA 22 a3O) fun b2k =>
 qL Tryd.prog w_3 (blk b5x) (lA 42 b5x) fun f1o =>
 qL Tryd.prog w_3 (blk a5W) (lA 42 a5W) fun a2K =>
 oP E (xCall (fC 175) [g1F, (fC 176)]) w_3 fun g1G a3F =>
 keepX [(blk a5W), (blk b5x), (blk a3O)] w_3 a3F (opK Tryd.prog E (xCall (fC 171) [b2k, (fC 172)]) a3F fun f1p a5U =>
 keepX [(blk a5W), (blk b5x)] a3F a5U (opK Tryd.prog E (xCall (fC 90) [f1o, (fC 91)]) a5U fun f1q a2J =>
 keepX [(blk a5W)] a5U a2J (opK Tryd.prog E (xCall (fC 90) [a2K, (fC 91)]) a2J fun f1r a4C =>
 keepX [] a2J a4C (opK Tryd.prog E (xV (Instr.buildSlice 174 4 #[(0, g1G), (1, f1p), (2, f1q), (3, f1r)])) a4C fun f1s b2f =>
 keepX [] a4C b2f (opK Tryd.prog E (xCall (fC 87) [f1s]) b2f fun f1t a3N =>
 keepX [] b2f a3N (R f1t a3N))))))
noncomputable def f1u : Code := Tryd.f180.body.getD .skip
def f1v : Hint := (sQ (.seq (.reg [(0, 8, 2), (1, 16, 8), (2, 32, 16), (4, 64, 32), (0, 128, 2), (16, 256, 128), (32, 512, 256), (72, 1024, 512), (0, 2048, 2), (256, 4096, 2048), (512, 8192, 4096), (1152, 16384, 8192), (0, 32768, 2), (4096, 65536, 32768), (8192, 131072, 65536), (18432, 262144, 131072), (34952, 524288, 279616), (98304, 1048576, 524288), (262143, 4, 1048576)] [17476, 17476, 17472, 17472, 17476, 17476, 17412, 17408, 17476, 17476, 16452, 16384, 17476, 17476, 1092, 0, 0, 0, 17476] (.early 0 (.early 1 (.early 4 (.early 5 (.early 8 (.early 9 (.early 12 (.early 13 (.load 2 (.load 6 (.load 10 (.load 14 (.step 3 (.step 7 (.step 11 (.step 15 (.step 16 (.step 17 (.early 18 .done)))))))))))))))))))) .none))
theorem e3g (x0 : Value) (w : World) (R : RT) (E : Pan) : c9o x0 w R E = callX Tryd.prog [.tmp 2] f1u f1v [x0] w R E := by kernel_rfl
theorem e3h {x0 : Value} (h : c9o x0 w R E) : Cv Tryd.prog 180 #[x0] w R E := by
 refine h9 (args := [x0]) (c := f1u) (h := f1v) (rs := [.tmp 2]) Tryd.func180 (by kernel_rfl) (by kernel_rfl) (nB (by kernel_rfl)) (by kernel_rfl) (by kernel_rfl) (by kernel_rfl) ?_
 rw [← e3g]
 exact h
end Go.Proofs.YtnhkdkcgdcgmdaaDoor
