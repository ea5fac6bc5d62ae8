/- The second reading of some of the program's functions, printed by gen2.py off the code; each is held against the code by the kernel. -/
import Derived.Test.YtnhkdkcgdcgmdaaDoorProg
import Derived.Test.YtnhkdkcgdcgmdaaDoorzLK0
import Derived.KernelRfl
import Derived.Test.YtnhkdkcgdcgmdaaDoorzLGz
namespace Go.Proofs.YtnhkdkcgdcgmdaaDoor
open Go.RowKit
set_option maxRecDepth 100000
variable {w : World} {R : RT} {E : Pan}
def F52 (x0 : Value) (w : World) (R : RT) (E : Pan) : Prop :=
 oP E (xV (Instr.box 44 x0)) w fun u1 w_2 =>
 dX w_2 fun w_3 =>
 qP Tryd.prog (fA 44 u1 0) fun b8X =>
 qP Tryd.prog (fA 44 u1 1) fun a3g =>
 qL Tryd.prog w_3 (blk b8X) (lA 41 b8X) fun g1O =>
 qL Tryd.prog w_3 (blk a3g) (lA 42 a3g) fun a9V =>
 oP E (xCall (fC 88) [g1O, (fC 89)]) w_3 fun d2W w_9 =>
 keepX [(blk a3g)] w_3 w_9 (opK Tryd.prog E (xCall (fC 90) [a9V, (fC 91)]) w_9 fun f8o a0I =>
 keepX [] w_9 a0I (opK Tryd.prog E (xV (Instr.buildSlice 174 2 #[(0, d2W), (1, f8o)])) a0I fun f8p Y6 =>
 keepX [] a0I Y6 (opK Tryd.prog E (xCall (fC 87) [f8p]) Y6 fun e4C b5Q =>
 keepX [] Y6 b5Q (opK Tryd.prog E (xCall (fC 60) [e4C]) b5Q fun b2T a2k =>
 keepX [] b5Q a2k (R b2T a2k)))))
noncomputable def c52 : Code := Tryd.f52.body.getD .skip
def h52 : Hint := (sQ (.seq (.reg [(0, 8, 2), (1, 16, 8), (2, 32, 16), (0, 64, 2), (8, 128, 64), (20, 256, 128), (36, 512, 288), (96, 1024, 512), (128, 2048, 1024), (511, 4, 2048)] [18, 16, 16, 18, 2, 0, 0, 0, 0, 18] (.early 0 (.early 3 (.load 1 (.load 4 (.step 2 (.step 5 (.step 6 (.step 7 (.step 8 (.early 9 .done))))))))))) .none))
theorem e4D (x0 : Value) (w : World) (R : RT) (E : Pan) : F52 x0 w R E = callX Tryd.prog [.tmp 2] c52 h52 [x0] w R E := by kernel_rfl
theorem e4E {x0 : Value} (h : F52 x0 w R E) : Cv Tryd.prog 52 #[x0] w R E := by
 refine i2 (args := [x0]) (c := c52) (h := h52) (rs := [.tmp 2]) Tryd.func52 (by kernel_rfl) (by kernel_rfl) (nB (by kernel_rfl)) (by kernel_rfl) (by kernel_rfl) (by kernel_rfl) ?_
 rw [← e4D]
 exact h
def F53 (x0 : Value) (w : World) (R : RT) (E : Pan) : Prop :=
 oP E (xV (Instr.box 44 x0)) w fun u1 w_2 =>
 oP E (lA 44 u1) w_2 fun a3h w_4 =>
 oP E (xCall (fC 52) [a3h]) w_4 fun a1M w_6 =>
 oP E (xNil a1M) w_6 fun a4E w_8 =>
 oP E (fA 106 a4E 2) w_8 fun b1s m8 =>
 oP E (lA 29 b1s) m8 fun a3M o4 =>
 R a3M o4
noncomputable def c53 : Code := Tryd.f53.body.getD .skip
def h53 : Hint := (sQ (sQ .none))
theorem e4F (x0 : Value) (w : World) (R : RT) (E : Pan) : F53 x0 w R E = callX Tryd.prog [.tmp 2] c53 h53 [x0] w R E := by kernel_rfl
theorem e4G {x0 : Value} (h : F53 x0 w R E) : Cv Tryd.prog 53 #[x0] w R E := by
 refine i2 (args := [x0]) (c := c53) (h := h53) (rs := [.tmp 2]) Tryd.func53 (by kernel_rfl) (by kernel_rfl) (nB (by kernel_rfl)) (by kernel_rfl) (by kernel_rfl) (by kernel_rfl) ?_
 rw [← e4F]
 exact h
def c1P (x3 : Value) (w : World) (R : RT) (E : Pan) : Prop :=
 ∀ _τ : Fr, (oP E (lA 102 x3) w fun e4H p5 =>
 R e4H p5)
def F60 (x0 : Value) (w : World) (R : RT) (E : Pan) : Prop :=
 oP E (xV (Instr.build 106 #[])) w fun b2U w_2 =>
 oP E (xV (Instr.box 106 b2U)) w_2 fun a7R w_4 =>
 oP E (xV (Instr.alloc 102 true (.tuple #[]))) w_4 fun b5R w_6 =>
 oP E (sA 102 b5R a7R) w_6 fun _z_7 w_8 =>
 oP E (xV (Instr.alloc 161 true (.tuple #[]))) w_8 fun d2X m8 =>
 oP E (xV (Instr.makeFunc (.func 99) #[] #[b5R, d2X])) m8 fun b7s o4 =>
 oP E (sA 161 d2X b7s) o4 fun _z_13 o2 =>
 xcut (fun _ q7 => c1P b5R q7 R E) fun j1 =>
 oP E (lA 161 d2X) o2 fun f8q q9 =>
 oP E (xCall f8q [x0, (vI 1)]) q9 fun e4I t1 =>
 oP E (xV (Op.unary .not e4I)) t1 fun c1Q u5 =>
 xcond c1Q
 (j1 [] u5)
 (oP E (lA 102 b5R) u5 fun e4J A7 =>
 oP E (xNil e4J) A7 fun e4K C3 =>
 oP E (fA 106 e4K 3) C3 fun b7t D8 =>
 oP E (lA 4 b7t) D8 fun e4L B9 =>
 xcond e4L
 (oP E (lA 102 b5R) B9 fun e4M D2 =>
 oP E (xNil e4M) D2 fun e4N F7 =>
 oP E (fA 106 e4N 2) F7 fun e4O D9 =>
 oP E (sA 29 e4O (vI 30)) D9 fun _z_39 E1 =>
 j1 [] E1)
 (oP E (lA 102 b5R) B9 fun e4P G6 =>
 oP E (xNil e4P) G6 fun b2V G1 =>
 oP E (fA 106 b2V 4) G1 fun e4Q L5 =>
 oP E (lA 4 e4Q) L5 fun e4R K4 =>
 xcond e4R
 (oP E (lA 102 b5R) K4 fun e4S G5 =>
 oP E (xNil e4S) G5 fun e4T E3 =>
 oP E (fA 106 e4T 2) E3 fun e4U M3 =>
 oP E (sA 29 e4U (vI 31)) M3 fun _z_55 M4 =>
 j1 [] M4)
 (j1 [] K4)))
noncomputable def c60 : Code := Tryd.f60.body.getD .skip
def h60 : Hint := (sQ (sQ (sQ (sQ (.cut [] (sQ (.block (sQ (.cond .none (sQ (.cond .none (sQ (.cond .none .none)))))))) (sQ .none))))))
theorem e4V (x0 : Value) (w : World) (R : RT) (E : Pan) : F60 x0 w R E = callX Tryd.prog [.tmp 2] c60 h60 [x0] w R E := by kernel_rfl
theorem e4W {x0 : Value} (h : F60 x0 w R E) : Cv Tryd.prog 60 #[x0] w R E := by
 refine i2 (args := [x0]) (c := c60) (h := h60) (rs := [.tmp 2]) Tryd.func60 (by kernel_rfl) (by kernel_rfl) (nB (by kernel_rfl)) (by kernel_rfl) (by kernel_rfl) (by kernel_rfl) ?_
 rw [← e4V]
 exact h
def c1R (x6 : Value) (w : World) (R : RT) (_E : Pan) : Prop :=
 ∀ _τ : Fr, (R x6 w)
def d0b (x6 x25 x26 x27 : Value) (w : World) (next3 : NT) (j2 : NT) (_R : RT) (E : Pan) : Prop :=
 oP E (xBin .lss 3 (.tmp 27) (.tmp 26) x27 x26) w fun f8r w_8 =>
 xcond f8r
 (oP E (iA 174 x25 x27) w_8 fun f8s m8 =>
 oP E (lA 124 f8s) m8 fun e4X o4 =>
 oP E (xBuiltin .append #[124, 124] 124 [false, false] [x6, e4X]) o4 fun b7u o2 =>
 oP E (xBin .add 3 (.tmp 27) (.const (vI 1)) x27 (vI 1)) o2 fun e4Y p5 =>
 next3 [b7u, e4Y] p5)
 (j2 [x6] w_8)
def c1S (x0 x3 : Value) (w : World) (R : RT) (E : Pan) : Prop :=
 ∀ _τ : Fr, (oP E (xCall (fC 117) [(nS), x3]) w fun f8t w_2 =>
 xcut (fun l_3 w_4 => c1R (nth l_3 0) w_4 R E) fun j2 =>
 oP E (xBuiltin .len #[174] 3 [false] [x0]) w_2 fun f8u w_6 =>
 xloop [6, 27] [f8t, (vI 0)] w_6 fun τ_17 q7 next3 =>
 d0b (τ_17 6) x0 f8u (τ_17 27) q7 next3 j2 R E)
def c1T (_x0 x3 _x9 _x10 x11 : Value) (w : World) (next4 : NT) (_R : RT) (E : Pan) : Prop :=
 ∀ _τ : Fr, (oP E (xBin .add 3 (.tmp 11) (.const (vI 1)) x11 (vI 1)) w fun b2W A7 =>
 next4 [x3, b2W] A7)
def d0c (x0 x3 x9 x10 x11 : Value) (w : World) (next4 : NT) (j1 : NT) (R : RT) (E : Pan) : Prop :=
 oP E (xBin .lss 3 (.tmp 11) (.tmp 10) x11 x10) w fun e4Z u5 =>
 xcond e4Z
 (xcut (fun d2Y C3 => c1T x0 (nth d2Y 0) x9 x10 x11 C3 next4 R E) fun j5 =>
 oP E (iA 174 x9 x11) u5 fun e5a D8 =>
 oP E (lA 124 e5a) D8 fun e5b B9 =>
 oP E (xBuiltin .len #[124] 3 [false] [e5b]) B9 fun c1U D2 =>
 oP E (xBin .add 3 (.tmp 15) (.tmp 17) x3 c1U) D2 fun b2X F7 =>
 oP E (xBin .lss 3 (.tmp 19) (.const (vI 0)) b2X (vI 0)) F7 fun c1V D9 =>
 xcond c1V
 (oP E (xV (Instr.makeInterface 9 (Value.string ⟨#[108, 101, 110, 32, 111, 117, 116, 32, 111, 102, 32, 114, 97, 110, 103, 101]⟩))) D9 fun b7v E1 =>
 oP E (xV (Instr.panic b7v)) E1 fun _z_41 G6 =>
 j5 [b2X] G6)
 (j5 [b2X] D9))
 (j1 [x3] u5)
def F87 (x0 : Value) (w : World) (R : RT) (E : Pan) : Prop :=
 xcut (fun a3i q9 => c1S x0 (nth a3i 0) q9 R E) fun j1 =>
 oP E (xBuiltin .len #[174] 3 [false] [x0]) w fun e5c t1 =>
 xloop [3, 11] [(vI 0), (vI 0)] t1 fun τ_43 G1 next4 =>
 d0c x0 (τ_43 3) x0 e5c (τ_43 11) G1 next4 j1 R E
noncomputable def c87 : Code := Tryd.f87.body.getD .skip
def h87 : Hint := (sQ (sQ (.cut [3] (sQ (.block (.loop [3, 11] (sQ (.seq (.cond .none .none) (.cut [3] (.block (sQ (sQ (sQ (.cond .none .none))))) .none)))))) (sQ (.cut [6] (sQ (.block (.loop [6, 27] (sQ (.seq (.cond .none .none) (.seq (.block (sQ .none)) .none)))))) (sQ .none))))))
theorem e5d (x0 : Value) (w : World) (R : RT) (E : Pan) : F87 x0 w R E = callX Tryd.prog [.tmp 2] c87 h87 [x0] w R E := by kernel_rfl
theorem e5e {x0 : Value} (h : F87 x0 w R E) : Cv Tryd.prog 87 #[x0] w R E := by
 refine i2 (args := [x0]) (c := c87) (h := h87) (rs := [.tmp 2]) Tryd.func87 (by kernel_rfl) (by kernel_rfl) (nB (by kernel_rfl)) (by kernel_rfl) (by kernel_rfl) (by kernel_rfl) ?_
 rw [← e5d]
 exact h
def c1W (x5 : Value) (w : World) (R : RT) (_E : Pan) : Prop :=
 ∀ _τ : Fr, (R x5 w)
def d0d (x1 x5 x8 x9 x10 : Value) (w : World) (next2 : NT) (j1 : NT) (_R : RT) (E : Pan) : Prop :=
 oP E (xBin .lss 3 (.tmp 10) (.tmp 9) x10 x9) w fun a5n w_6 =>
 xcond a5n
 (oP E (iA 41 x8 x10) w_6 fun a7m w_8 =>
 oP E (lA 58 a7m) w_8 fun a7n m8 =>
 oP E (xV (Instr.alloc 58 true (.tuple #[]))) m8 fun a3M o4 =>
 oP E (sA 58 a3M a7n) o4 fun _z_13 o2 =>
 oP E (lA 58 a3M) o2 fun a7S p5 =>
 oP E (xCall x1 [a7S]) p5 fun a5o q7 =>
 oP E (xV (Instr.buildSlice 124 1 #[(0, a5o)])) q7 fun a7T q9 =>
 oP E (xBuiltin .append #[124, 124] 124 [false, false] [x5, a7T]) q9 fun a5p t1 =>
 oP E (xBin .add 3 (.tmp 10) (.const (vI 1)) x10 (vI 1)) t1 fun a5q u5 =>
 next2 [a5p, a5q] u5)
 (j1 [x5] w_6)
def F88 (x0 x1 : Value) (w : World) (R : RT) (E : Pan) : Prop :=
 xcut (fun l_1 w_2 => c1W (nth l_1 0) w_2 R E) fun j1 =>
 oP E (xBuiltin .len #[41] 3 [false] [x0]) w fun a2y w_4 =>
 xloop [5, 10] [(nS), (vI 0)] w_4 fun τ_25 A7 next2 =>
 d0d x1 (τ_25 5) x0 a2y (τ_25 10) A7 next2 j1 R E
noncomputable def c88 : Code := Tryd.f88.body.getD .skip
def h88 : Hint := (sQ (sQ (.cut [5] (sQ (.block (.loop [5, 10] (sQ (.seq (.cond .none .none) (.seq (.block (sQ .none)) .none)))))) (sQ .none))))
theorem e5f (x0 x1 : Value) (w : World) (R : RT) (E : Pan) : F88 x0 x1 w R E = callX Tryd.prog [.tmp 4] c88 h88 [x0, x1] w R E := by kernel_rfl
theorem e5g {x0 x1 : Value} (h : F88 x0 x1 w R E) : Cv Tryd.prog 88 #[x0, x1] w R E := by
 refine i2 (args := [x0, x1]) (c := c88) (h := h88) (rs := [.tmp 4]) Tryd.func88 (by kernel_rfl) (by kernel_rfl) (nB (by kernel_rfl)) (by kernel_rfl) (by kernel_rfl) (by kernel_rfl) ?_
 rw [← e5f]
 exact h
def F89 (x0 : Value) (w : World) (R : RT) (E : Pan) : Prop :=
 oP E (xV (Instr.box 58 x0)) w fun u1 w_2 =>
 oP E (lA 58 u1) w_2 fun a3h w_4 =>
 oP E (xV (Instr.build 177 #[(0, a3h)])) w_4 fun a1M w_6 =>
 oP E (xV (Instr.makeInterface 177 a1M)) w_6 fun a4E w_8 =>
 R a4E w_8
noncomputable def c89 : Code := Tryd.f89.body.getD .skip
def h89 : Hint := (sQ (sQ .none))
theorem e5h (x0 : Value) (w : World) (R : RT) (E : Pan) : F89 x0 w R E = callX Tryd.prog [.tmp 2] c89 h89 [x0] w R E := by kernel_rfl
theorem e5i {x0 : Value} (h : F89 x0 w R E) : Cv Tryd.prog 89 #[x0] w R E := by
 refine i2 (args := [x0]) (c := c89) (h := h89) (rs := [.tmp 2]) Tryd.func89 (by kernel_rfl) (by kernel_rfl) (nB (by kernel_rfl)) (by kernel_rfl) (by kernel_rfl) (by kernel_rfl) ?_
 rw [← e5h]
 exact h
def c1X (x5 : Value) (w : World) (R : RT) (_E : Pan) : Prop :=
 ∀ _τ : Fr, (R x5 w)
def d0e (x1 x5 x8 x9 x10 : Value) (w : World) (next2 : NT) (j1 : NT) (_R : RT) (E : Pan) : Prop :=
 oP E (xBin .lss 3 (.tmp 10) (.tmp 9) x10 x9) w fun a5n w_6 =>
 xcond a5n
 (oP E (iA 42 x8 x10) w_6 fun a7m w_8 =>
 oP E (lA 63 a7m) w_8 fun a7n m8 =>
 oP E (xV (Instr.alloc 63 true (.tuple #[]))) m8 fun a3M o4 =>
 oP E (sA 63 a3M a7n) o4 fun _z_13 o2 =>
 oP E (lA 63 a3M) o2 fun a7S p5 =>
 oP E (xCall x1 [a7S]) p5 fun a5o q7 =>
 oP E (xV (Instr.buildSlice 124 1 #[(0, a5o)])) q7 fun a7T q9 =>
 oP E (xBuiltin .append #[124, 124] 124 [false, false] [x5, a7T]) q9 fun a5p t1 =>
 oP E (xBin .add 3 (.tmp 10) (.const (vI 1)) x10 (vI 1)) t1 fun a5q u5 =>
 next2 [a5p, a5q] u5)
 (j1 [x5] w_6)
def F90 (x0 x1 : Value) (w : World) (R : RT) (E : Pan) : Prop :=
 xcut (fun l_1 w_2 => c1X (nth l_1 0) w_2 R E) fun j1 =>
 oP E (xBuiltin .len #[42] 3 [false] [x0]) w fun a2y w_4 =>
 xloop [5, 10] [(nS), (vI 0)] w_4 fun τ_25 A7 next2 =>
 d0e x1 (τ_25 5) x0 a2y (τ_25 10) A7 next2 j1 R E
noncomputable def c90 : Code := Tryd.f90.body.getD .skip
def h90 : Hint := (sQ (sQ (.cut [5] (sQ (.block (.loop [5, 10] (sQ (.seq (.cond .none .none) (.seq (.block (sQ .none)) .none)))))) (sQ .none))))
theorem e5j (x0 x1 : Value) (w : World) (R : RT) (E : Pan) : F90 x0 x1 w R E = callX Tryd.prog [.tmp 4] c90 h90 [x0, x1] w R E := by kernel_rfl
theorem e5k {x0 x1 : Value} (h : F90 x0 x1 w R E) : Cv Tryd.prog 90 #[x0, x1] w R E := by
 refine i2 (args := [x0, x1]) (c := c90) (h := h90) (rs := [.tmp 4]) Tryd.func90 (by kernel_rfl) (by kernel_rfl) (nB (by kernel_rfl)) (by kernel_rfl) (by kernel_rfl) (by kernel_rfl) ?_
 rw [← e5j]
 exact h
def F91 (x0 : Value) (w : World) (R : RT) (E : Pan) : Prop :=
 oP E (xV (Instr.box 63 x0)) w fun u1 w_2 =>
 oP E (lA 63 u1) w_2 fun a3h w_4 =>
 oP E (xV (Instr.build 179 #[(0, a3h)])) w_4 fun a1M w_6 =>
 oP E (xV (Instr.makeInterface 179 a1M)) w_6 fun a4E w_8 =>
 R a4E w_8
noncomputable def c91 : Code := Tryd.f91.body.getD .skip
def h91 : Hint := (sQ (sQ .none))
theorem e5l (x0 : Value) (w : World) (R : RT) (E : Pan) : F91 x0 w R E = callX Tryd.prog [.tmp 2] c91 h91 [x0] w R E := by kernel_rfl
theorem e5m {x0 : Value} (h : F91 x0 w R E) : Cv Tryd.prog 91 #[x0] w R E := by
 refine i2 (args := [x0]) (c := c91) (h := h91) (rs := [.tmp 2]) Tryd.func91 (by kernel_rfl) (by kernel_rfl) (nB (by kernel_rfl)) (by kernel_rfl) (by kernel_rfl) (by kernel_rfl) ?_
 rw [← e5l]
 exact h
def c1Y (w : World) (R : RT) (_E : Pan) : Prop :=
 ∀ _τ : Fr, (R (vB true) w)
def d0f (x1 x2 x3 x9 x10 x11 : Value) (w : World) (next2 : NT) (j1 : NT) (R : RT) (E : Pan) : Prop :=
 oP E (xBin .lss 3 (.tmp 11) (.tmp 10) x11 x10) w fun a5r w_6 =>
 xcond a5r
 (oP E (iA 124 x9 x11) w_6 fun a5s w_8 =>
 oP E (lA 152 a5s) w_8 fun a3N m8 =>
 dX m8 fun a0I =>
 qL Tryd.prog a0I (blk x2) (lA 102 x2) fun e5n =>
 oP E (xCall (fC 100) [e5n, a3N, x1]) a0I fun a7U o2 =>
 keepX [] a0I o2 (qP Tryd.prog (xV (Op.unary .not a7U)) fun a3d =>
 qP Tryd.prog (gsem (asB a3d) false (xBin .add 3 (.tmp 24) (.const (vI 1)) (gval (asB a3d) false x1) (vI 1))) fun e5o =>
 qL Tryd.prog o2 (blk x3) (gsem (asB a3d) false (lA 161 x3)) fun b0y =>
 oP E (gsem (asB a3d) false (xInvoke (gval (asB a3d) false a3N) "gnomon/tree.parts" [])) o2 fun e5p a2z =>
 keepX [(blk x3)] o2 a2z (opK Tryd.prog E (gsem (asB a3d) false (xCall b0y [e5p, e5o])) a2z fun e5q a1N =>
 keepX [] a2z a1N (qP Tryd.prog (gsem (asB a3d) false (xV (Op.unary .not e5q))) fun e5r =>
 qP Tryd.prog (xPick a3d (vB true) e5r) fun c1Z =>
 xcond c1Z
 (R (vB false) a1N)
 (oP E (xBin .add 3 (.tmp 11) (.const (vI 1)) x11 (vI 1)) a1N fun e5s b1t =>
 next2 [e5s] b1t)))))
 (j1 [] w_6)
def F99 (x0 x1 x2 x3 : Value) (w : World) (R : RT) (E : Pan) : Prop :=
 xcut (fun _ w_2 => c1Y w_2 R E) fun j1 =>
 oP E (xBuiltin .len #[124] 3 [false] [x0]) w fun b1u w_4 =>
 xloop [11] [(vI 0)] w_4 fun τ_26 a3j next2 =>
 d0f x1 x2 x3 x0 b1u (τ_26 11) a3j next2 j1 R E
noncomputable def c99 : Code := Tryd.f99.body.getD .skip
def h99 : Hint := (sQ (.cut [] (sQ (.block (.loop [11] (sQ (.seq (.cond .none .none) (.seq (.block (sQ (.seq (.reg [(0, 32768, 4), (0, 65536, 256), (0, 131072, 2), (7, 262144, 229376), (8, 524288, 262144), (24, 1048576, 524288), (32, 2097152, 1048584), (32, 4194304, 1048832), (160, 8388608, 5242880), (32, 16777216, 1048578), (544, 33554432, 17825792), (1376, 67108864, 45088768), (2080, 134217728, 68157440), (4128, 268435456, 135266304)] [64, 65, 65, 0, 65, 65, 1, 65, 64, 65, 65, 0, 65, 65] (.early 1 (.early 2 (.load 0 (.step 3 (.early 4 (.early 5 (.early 7 (.early 9 (.early 10 (.load 6 (.step 8 (.step 11 (.early 12 (.early 13 .done))))))))))))))) (.cond (sQ .none) .none)))) .none)))))) (sQ .none)))
theorem e5t (x0 x1 x2 x3 : Value) (w : World) (R : RT) (E : Pan) : F99 x0 x1 x2 x3 w R E = callX Tryd.prog [.tmp 6] c99 h99 [x0, x1, x2, x3] w R E := by kernel_rfl
theorem e5u {x0 x1 x2 x3 : Value} (h : F99 x0 x1 x2 x3 w R E) : Cv Tryd.prog 99 #[x0, x1, x2, x3] w R E := by
 refine i2 (args := [x0, x1, x2, x3]) (c := c99) (h := h99) (rs := [.tmp 6]) Tryd.func99 (by kernel_rfl) (by kernel_rfl) (nB (by kernel_rfl)) (by kernel_rfl) (by kernel_rfl) (by kernel_rfl) ?_
 rw [← e5t]
 exact h
def b8Y (w : World) (R : RT) (_E : Pan) : Prop :=
 ∀ _τ : Fr, (R (vB true) w)
def c6S (x0 x1 x2 : Value) (w : World) (R : RT) (E : Pan) : Prop :=
 oP E (xNil x0) w fun b4D w_2 =>
 oP E (fA 106 b4D 0) w_2 fun a0J w_4 =>
 oP E (lA 3 a0J) w_4 fun a5r w_6 =>
 oP E (xBin .add 3 (.tmp 12) (.const (vI 1)) a5r (vI 1)) w_6 fun a5s w_8 =>
 oP E (xNil x0) w_8 fun a3N m8 =>
 oP E (fA 106 a3N 0) m8 fun a5t o4 =>
 oP E (sA 3 a5t a5s) o4 fun _z_13 o2 =>
 oP E (xNil x0) o2 fun a2l p5 =>
 oP E (fA 106 a2l 0) p5 fun b2Y q7 =>
 oP E (lA 3 b2Y) q7 fun c2a q9 =>
 oP E (xBin .gtr 3 (.tmp 19) (.const (vI 4096)) c2a (vI 4096)) q9 fun c2b t1 =>
 xcond c2b
 (oP E (xNil x0) t1 fun b7w u5 =>
 oP E (fA 106 b7w 2) u5 fun c2c A7 =>
 oP E (sA 29 c2c (vI 33)) A7 fun _z_27 C3 =>
 R (vB false) C3)
 (oP E (xBin .gtr 3 (.tmp 24) (.const (vI 64)) x2 (vI 64)) t1 fun e5v D8 =>
 xcond e5v
 (oP E (xNil x0) D8 fun e5w B9 =>
 oP E (fA 106 e5w 2) B9 fun c2d D2 =>
 oP E (sA 29 c2d (vI 32)) D2 fun _z_35 F7 =>
 R (vB false) F7)
 (oP E (xNil x0) D8 fun e5x D9 =>
 oP E (fA 106 e5x 1) D9 fun e5y E1 =>
 oP E (lA 3 e5y) E1 fun e5z G6 =>
 oP E (xBuiltin .max #[3, 3] 3 [false, false] [e5z, x2]) G6 fun e5A G1 =>
 oP E (xNil x0) G1 fun e5B L5 =>
 oP E (fA 106 e5B 1) L5 fun c2e K4 =>
 oP E (sA 3 c2e e5A) K4 fun _z_49 G5 =>
 oP E (xNil x0) G5 fun c2f E3 =>
 oP E (fA 106 c2f 3) E3 fun e5C M3 =>
 oP E (lA 4 e5C) M3 fun b7x M4 =>
 oP E (gsem (asB b7x) false (xInvoke (gval (asB b7x) false x1) "gnomon/tree.form" [])) M4 fun e5D M1 =>
 oP E (gsem (asB b7x) false (xV (Op.unary .not e5D))) M1 fun e5E O3 =>
 oP E (xPick b7x (vB true) e5E) O3 fun e5F M5 =>
 oP E (xNil x0) M5 fun e5G N0 =>
 oP E (fA 106 e5G 3) N0 fun e5H O4 =>
 oP E (sA 4 e5H e5F) O4 fun _z_67 O5 =>
 xcut (fun _ L6 => b8Y L6 R E) fun j1 =>
 oP E (xCall (fC 118) [x1]) O5 fun d0g P1 =>
 oP E (eX d0g 0) P1 fun b2Z Q3 =>
 oP E (eX d0g 1) Q3 fun c2g R8 =>
 xcond c2g
 (oP E (xNil x0) R8 fun e5I N4 =>
 oP E (fA 106 e5I 4) N4 fun e5J S4 =>
 oP E (lA 4 e5J) S4 fun a7V Q6 =>
 oP E (gsem (asB a7V) false (xCall (fC 119) [(gval (asB a7V) false b2Z)])) Q6 fun e5K P2 =>
 oP E (gsem (asB a7V) false (xV (Op.unary .not e5K))) P2 fun e5L S5 =>
 oP E (xPick a7V (vB true) e5L) S5 fun e5M N5 =>
 oP E (xNil x0) N5 fun e5N W5 =>
 oP E (fA 106 e5N 4) W5 fun e5O a1g =>
 oP E (sA 4 e5O e5M) a1g fun _z_93 a0K =>
 oP E (xNil x0) a0K fun c2h a0q =>
 oP E (fA 106 c2h 5) a0q fun b3a a0L =>
 oP E (lA 104 b3a) a0L fun c2i T5 =>
 oP E (xCall (fC 120) [c2i, b2Z]) T5 fun b8Z N7 =>
 oP E (xV (Op.unary .not b8Z)) N7 fun b9a O8 =>
 xcond b9a
 (oP E (xNil x0) O8 fun d8X U8 =>
 oP E (fA 106 d8X 5) U8 fun d8Y a1E =>
 oP E (lA 104 d8Y) a1E fun d8Z a3q =>
 oP E (xV (Instr.buildSlice 104 1 #[(0, b2Z)])) a3q fun d9a a1F =>
 oP E (xBuiltin .append #[104, 104] 104 [false, false] [d8Z, d9a]) a1F fun d9b R9 =>
 oP E (xNil x0) R9 fun d9c T6 =>
 oP E (fA 106 d9c 5) T6 fun d9d a2A =>
 oP E (sA 104 d9d d9b) a2A fun _z_119 Q7 =>
 j1 [] Q7)
 (j1 [] O8))
 (j1 [] R8)))
noncomputable def e5P : Code := Tryd.f100.body.getD .skip
def e5Q : Hint := (sQ (.seq (sQ (sQ (.cond (sQ (sQ .none)) .none))) (.seq (sQ (.cond (sQ (sQ .none)) .none)) (sQ (sQ (.cut [] (sQ (sQ (.cond (sQ (sQ (.cond .none .none))) .none))) (sQ .none)))))))
theorem d9e (x0 x1 x2 : Value) (w : World) (R : RT) (E : Pan) : c6S x0 x1 x2 w R E = callX Tryd.prog [.tmp 6] e5P e5Q [x0, x1, x2] w R E := by kernel_rfl
theorem d9f {x0 x1 x2 : Value} (h : c6S x0 x1 x2 w R E) : Cv Tryd.prog 100 #[x0, x1, x2] w R E := by
 refine i2 (args := [x0, x1, x2]) (c := e5P) (h := e5Q) (rs := [.tmp 6]) Tryd.func100 (by kernel_rfl) (by kernel_rfl) (nB (by kernel_rfl)) (by kernel_rfl) (by kernel_rfl) (by kernel_rfl) ?_
 rw [← d9e]
 exact h
def b9b (x0 : Value) (w : World) (R : RT) (_E : Pan) : Prop :=
 ∀ _τ : Fr, (R x0 w)
def c5R (x0 x1 : Value) (w : World) (R : RT) (E : Pan) : Prop :=
 ∀ _τ : Fr, (xcut (fun l_1 w_2 => b9b (nth l_1 0) w_2 R E) fun j2 =>
 oP E (xBuiltin .cap #[124] 3 [false] [x0]) w fun b1u w_4 =>
 oP E (xBuiltin .len #[124] 3 [false] [x0]) w_4 fun a5r w_6 =>
 oP E (xBin .sub 3 (.tmp 10) (.tmp 12) b1u a5r) w_6 fun a5s w_8 =>
 oP E (xBin .sub 3 (.tmp 8) (.tmp 13) x1 a5s) w_8 fun a3N m8 =>
 oP E (xBin .gtr 3 (.tmp 15) (.const (vI 0)) a3N (vI 0)) m8 fun a5u o4 =>
 xcond a5u
 (oP E (xBuiltin .cap #[124] 3 [false] [x0]) o4 fun a7W o2 =>
 oP E (xV (Instr.sliceAt 124 x0 none (some a7W) none)) o2 fun c2j p5 =>
 oP E (xBuiltin .append #[124, 3] 124 [false, false] [c2j, a3N]) p5 fun c2k q7 =>
 oP E (xBuiltin .len #[124] 3 [false] [x0]) q7 fun c2l q9 =>
 oP E (xV (Instr.sliceAt 124 c2k none (some c2l) none)) q9 fun b3b t1 =>
 j2 [b3b] t1)
 (j2 [x0] o4))
def d2Z (x0 x1 : Value) (w : World) (R : RT) (E : Pan) : Prop :=
 xcut (fun _ u5 => c5R x0 x1 u5 R E) fun j1 =>
 oP E (xBin .lss 3 (.tmp 5) (.const (vI 0)) x1 (vI 0)) w fun f8v A7 =>
 xcond f8v
 (oP E (xV (Instr.makeInterface 9 (Value.string ⟨#[99, 97, 110, 110, 111, 116, 32, 98, 101, 32, 110, 101, 103, 97, 116, 105, 118, 101]⟩))) A7 fun f8w C3 =>
 oP E (xV (Instr.panic f8w)) C3 fun _z_29 D8 =>
 j1 [] D8)
 (j1 [] A7)
noncomputable def e5R : Code := Tryd.f117.body.getD .skip
def e5S : Hint := (sQ (.cut [] (sQ (.cond .none .none)) (.cut [0] (sQ (sQ (.cond .none .none))) (sQ .none))))
theorem d9g (x0 x1 : Value) (w : World) (R : RT) (E : Pan) : d2Z x0 x1 w R E = callX Tryd.prog [.tmp 4] e5R e5S [x0, x1] w R E := by kernel_rfl
theorem d9h {x0 x1 : Value} (h : d2Z x0 x1 w R E) : Cv Tryd.prog 117 #[x0, x1] w R E := by
 refine i2 (args := [x0, x1]) (c := e5R) (h := e5S) (rs := [.tmp 4]) Tryd.func117 (by kernel_rfl) (by kernel_rfl) (nB (by kernel_rfl)) (by kernel_rfl) (by kernel_rfl) (by kernel_rfl) ?_
 rw [← d9g]
 exact h
def c6T (x0 : Value) (w : World) (R : RT) (E : Pan) : Prop :=
 oP E (xV (Instr.typeAssert x0 152 177 true)) w fun a9W w_2 =>
 oP E (eX a9W 1) w_2 fun a2y w_4 =>
 oP E (eX a9W 0) w_4 fun a1k w_6 =>
 xcond a2y
 (oP E (xV (Instr.alloc 177 true (.tuple #[]))) w_6 fun e5T w_8 =>
 oP E (sA 177 e5T a1k) w_8 fun _z_9 m8 =>
 oP E (fA 177 e5T 0) m8 fun a6C o4 =>
 oP E (fA 58 a6C 0) o4 fun a6D o2 =>
 oP E (lA 9 a6D) o2 fun a7X p5 =>
 R (Value.tuple #[a7X, (vB true)]) p5)
 (oP E (xV (Instr.typeAssert x0 152 179 true)) w_6 fun b7y q7 =>
 oP E (eX b7y 1) q7 fun a7Y q9 =>
 oP E (eX b7y 0) q9 fun b3c t1 =>
 xcond a7Y
 (oP E (xV (Instr.alloc 179 true (.tuple #[]))) t1 fun c0Z u5 =>
 oP E (sA 179 c0Z b3c) u5 fun _z_25 A7 =>
 dX A7 fun a3j =>
 qP Tryd.prog (fA 179 c0Z 0) fun e5U =>
 qP Tryd.prog (fA 63 e5U 1) fun b7t =>
 qP Tryd.prog (fA 179 c0Z 0) fun e5V =>
 qP Tryd.prog (fA 63 e5V 0) fun b7z =>
 qL Tryd.prog a3j (blk b7t) (lA 9 b7t) fun e5W =>
 qL Tryd.prog a3j (blk b7z) (lA 3 b7z) fun c2m =>
 qP Tryd.prog (xBin .eql 3 (.tmp 22) (.const (vI 1)) c2m (vI 1)) fun b3d =>
 qP Tryd.prog (gsem (asB b3d) false (fA 179 c0Z 0)) fun e5X =>
 qP Tryd.prog (gsem (asB b3d) false (fA 63 e5X 0)) fun d0h =>
 qL Tryd.prog a3j (blk d0h) (gsem (asB b3d) false (lA 3 d0h)) fun e5Y =>
 qP Tryd.prog (gsem (asB b3d) false (xBin .eql 3 (.tmp 27) (.const (vI 2)) e5Y (vI 2))) fun e5Z =>
 qP Tryd.prog (xPick b3d (vB true) e5Z) fun b3e =>
 R (Value.tuple #[e5W, b3e]) a3j)
 (oP E (xV (Instr.typeAssert x0 152 123 true)) t1 fun d0i b9c =>
 oP E (eX d0i 1) b9c fun b7A b5S =>
 oP E (eX d0i 0) b5S fun e6a a9X =>
 xcond b7A
 (oP E (xV (Instr.alloc 123 true (.tuple #[]))) a9X fun c1a b5T =>
 oP E (sA 123 c1a e6a) b5T fun _z_48 b1v =>
 dX b1v fun G5 =>
 qP Tryd.prog (fA 123 c1a 0) fun e6b =>
 qP Tryd.prog (fA 24 e6b 2) fun d0j =>
 qP Tryd.prog (fA 123 c1a 0) fun c2n =>
 qP Tryd.prog (fA 24 c2n 0) fun d0k =>
 qL Tryd.prog G5 (blk d0j) (lA 9 d0j) fun e6c =>
 qL Tryd.prog G5 (blk d0k) (lA 3 d0k) fun e6d =>
 qP Tryd.prog (xBin .eql 3 (.tmp 38) (.const (vI 2)) e6d (vI 2)) fun b3f =>
 qP Tryd.prog (gsem (asB b3f) false (fA 123 c1a 0)) fun e6e =>
 qP Tryd.prog (gsem (asB b3f) false (fA 24 e6e 0)) fun d0l =>
 qL Tryd.prog G5 (blk d0l) (gsem (asB b3f) false (lA 3 d0l)) fun e6f =>
 qP Tryd.prog (gsem (asB b3f) false (xBin .eql 3 (.tmp 43) (.const (vI 4)) e6f (vI 4))) fun e6g =>
 qP Tryd.prog (xPick b3f (vB true) e6g) fun e6h =>
 R (Value.tuple #[e6c, e6h]) G5)
 (R (Value.tuple #[(eS), (vB false)]) a9X)))
noncomputable def e6i : Code := Tryd.f118.body.getD .skip
def e6j : Hint := (sQ (.seq (sQ (.block (sQ (.cond (sQ (sQ .none)) (sQ (.cond (sQ (.seq (.reg [(0, 131072, 32), (1, 262144, 131072), (2, 524288, 262144), (0, 1048576, 32), (8, 2097152, 1048576), (16, 4194304, 2097152), (32, 8388608, 4194304), (64, 16777216, 8388608), (128, 33554432, 16777248), (384, 67108864, 50331648), (640, 134217728, 83886080), (1152, 268435456, 150994944), (2176, 536870912, 285212672), (135, 4, 524288), (16383, 8, 536870912)] [1060, 1060, 1056, 1060, 1060, 1028, 1060, 1060, 1060, 1060, 36, 1060, 1060, 1060, 1060] (.early 0 (.early 1 (.early 3 (.early 4 (.load 2 (.load 5 (.early 6 (.early 7 (.early 8 (.early 9 (.early 13 (.load 10 (.early 11 (.early 12 (.early 14 .done)))))))))))))))) .none)) (sQ (.cond (sQ (.seq (.reg [(0, 8589934592, 64), (1, 17179869184, 8589934592), (2, 34359738368, 17179869184), (0, 68719476736, 64), (8, 137438953472, 68719476736), (16, 274877906944, 137438953472), (32, 549755813888, 274877906944), (64, 1099511627776, 549755813888), (128, 2199023255552, 1099511627840), (384, 4398046511104, 3298534883328), (640, 8796093022208, 5497558138880), (1152, 17592186044416, 9895604649984), (2176, 35184372088832, 18691697672192), (135, 4, 34359738368), (16383, 8, 35184372088832)] [1060, 1060, 1056, 1060, 1060, 1028, 1060, 1060, 1060, 1060, 36, 1060, 1060, 1060, 1060] (.early 0 (.early 1 (.early 3 (.early 4 (.load 2 (.load 5 (.early 6 (.early 7 (.early 8 (.early 9 (.early 13 (.load 10 (.early 11 (.early 12 (.early 14 .done)))))))))))))))) .none)) .none)))))))) (sQ .none)))
theorem d9i (x0 : Value) (w : World) (R : RT) (E : Pan) : c6T x0 w R E = callX Tryd.prog [.tmp 2, .tmp 3] e6i e6j [x0] w R E := by kernel_rfl
theorem d9j {x0 : Value} (h : c6T x0 w R E) : Cv Tryd.prog 118 #[x0] w R E := by
 refine i2 (args := [x0]) (c := e6i) (h := e6j) (rs := [.tmp 2, .tmp 3]) Tryd.func118 (by kernel_rfl) (by kernel_rfl) (nB (by kernel_rfl)) (by kernel_rfl) (by kernel_rfl) (by kernel_rfl) ?_
 rw [← d9i]
 exact h
def b9d (w : World) (R : RT) (_E : Pan) : Prop :=
 ∀ _τ : Fr, (R (vB true) w)
def c5S (x21 : Value) (w : World) (next2 : NT) (j1 : NT) (R : RT) (E : Pan) : Prop :=
 oP E (xV (Instr.next x21 true 0)) w fun c2o t1 =>
 oP E (eX c2o 0) t1 fun e6k u5 =>
 xcond e6k
 (oP E (eX c2o 1) u5 fun e6l A7 =>
 oP E (eX c2o 2) A7 fun d0m C3 =>
 oP E (xCall (fC 140) [d0m]) C3 fun e6m D8 =>
 oP E (xV (Op.unary .not e6m)) D8 fun a6E B9 =>
 oP E (gsem (asB a6E) false (xBin .eql 3 (.tmp 30) (.const (vI 0)) (gval (asB a6E) false e6l) (vI 0))) B9 fun b7B D2 =>
 oP E (gsem (asB (gval (asB a6E) false b7B)) true (xCall (fC 141) [(gval (asB (gval (asB a6E) false b7B)) true d0m)])) D2 fun e6n F7 =>
 oP E (gsem (asB (gval (asB a6E) false b7B)) true (xBin .neq 3 (.tmp 34) (.const (vI 3)) e6n (vI 3))) F7 fun e6o D9 =>
 oP E (gsem (asB a6E) false (xPick (gval (asB a6E) false b7B) e6o (vB false))) D9 fun e6p E1 =>
 oP E (xPick a6E (vB true) e6p) E1 fun e6q G6 =>
 xcond e6q
 (R (vB false) G6)
 (next2 [] G6))
 (j1 [] u5)
def c6U (x0 : Value) (w : World) (R : RT) (E : Pan) : Prop :=
 oP E (xBin .eql 9 (.tmp 5) (.const (eS)) x0 (eS)) w fun b2U w_2 =>
 oP E (gsem (asB b2U) false (xCall (fC 137) [(gval (asB b2U) false x0)])) w_2 fun a2y w_4 =>
 oP E (gsem (asB b2U) false (xV (Op.unary .not a2y))) w_4 fun a1k w_6 =>
 oP E (xPick b2U (vB true) a1k) w_6 fun b1w w_8 =>
 oP E (gsem (asB b1w) false (xCall (fC 138) [(gval (asB b1w) false x0)])) w_8 fun a3N m8 =>
 oP E (xPick b1w (vB true) a3N) m8 fun a5t o4 =>
 oP E (gsem (asB a5t) false (xCall (fC 139) [(gval (asB a5t) false x0)])) o4 fun a7U o2 =>
 oP E (xPick a5t (vB true) a7U) o2 fun a3d p5 =>
 xcond a3d
 (R (vB false) p5)
 (xcut (fun _ q7 => b9d q7 R E) fun j1 =>
 oP E (xV (Instr.range 9 x0)) p5 fun e6r q9 =>
 xloop [] [] q9 fun _ G1 next2 =>
 c5S e6r G1 next2 j1 R E)
noncomputable def e6s : Code := Tryd.f119.body.getD .skip
def e6t : Hint := (sQ (.seq (sQ (.cond (sQ .none) .none)) (.cut [] (sQ (.block (.loop [] (sQ (.seq (.cond .none .none) (.block (sQ (sQ (.cond (sQ .none) .none))))))))) (sQ .none))))
theorem d9k (x0 : Value) (w : World) (R : RT) (E : Pan) : c6U x0 w R E = callX Tryd.prog [.tmp 2] e6s e6t [x0] w R E := by kernel_rfl
theorem d9l {x0 : Value} (h : c6U x0 w R E) : Cv Tryd.prog 119 #[x0] w R E := by
 refine i2 (args := [x0]) (c := e6s) (h := e6t) (rs := [.tmp 2]) Tryd.func119 (by kernel_rfl) (by kernel_rfl) (nB (by kernel_rfl)) (by kernel_rfl) (by kernel_rfl) (by kernel_rfl) ?_
 rw [← d9k]
 exact h
def c6V (x0 x1 : Value) (w : World) (R : RT) (E : Pan) : Prop :=
 oP E (xCall (fC 142) [x0, x1]) w fun a2B w_2 =>
 oP E (xBin .geq 3 (.tmp 7) (.const (vI 0)) a2B (vI 0)) w_2 fun b9e w_4 =>
 R b9e w_4
noncomputable def e6u : Code := Tryd.f120.body.getD .skip
def e6v : Hint := (sQ (sQ .none))
theorem d9m (x0 x1 : Value) (w : World) (R : RT) (E : Pan) : c6V x0 x1 w R E = callX Tryd.prog [.tmp 4] e6u e6v [x0, x1] w R E := by kernel_rfl
theorem d9n {x0 x1 : Value} (h : c6V x0 x1 w R E) : Cv Tryd.prog 120 #[x0, x1] w R E := by
 refine i2 (args := [x0, x1]) (c := e6u) (h := e6v) (rs := [.tmp 4]) Tryd.func120 (by kernel_rfl) (by kernel_rfl) (nB (by kernel_rfl)) (by kernel_rfl) (by kernel_rfl) (by kernel_rfl) ?_
 rw [← d9m]
 exact h
def c6W (x0 : Value) (w : World) (R : RT) (E : Pan) : Prop :=
 oP E (xCall (fC 150) [x0]) w fun a6R w_2 =>
 oP E (xBin .gtr 3 (.tmp 4) (.const (vI 32)) a6R (vI 32)) w_2 fun a9Y w_4 =>
 R a9Y w_4
noncomputable def e6w : Code := Tryd.f138.body.getD .skip
def e6x : Hint := (sQ (sQ .none))
theorem d9o (x0 : Value) (w : World) (R : RT) (E : Pan) : c6W x0 w R E = callX Tryd.prog [.tmp 2] e6w e6x [x0] w R E := by kernel_rfl
theorem d9p {x0 : Value} (h : c6W x0 w R E) : Cv Tryd.prog 138 #[x0] w R E := by
 refine i2 (args := [x0]) (c := e6w) (h := e6x) (rs := [.tmp 2]) Tryd.func138 (by kernel_rfl) (by kernel_rfl) (nB (by kernel_rfl)) (by kernel_rfl) (by kernel_rfl) (by kernel_rfl) ?_
 rw [← d9o]
 exact h
def b9f (x4 : Value) (w : World) (R : RT) (_E : Pan) : Prop :=
 ∀ _τ : Fr, (xcond x4
 (R (vB true) w)
 (R (vB false) w))
def c6X (x0 : Value) (w : World) (R : RT) (E : Pan) : Prop :=
 xcut (fun l_1 w_2 => b9f (nth l_1 0) w_2 R E) fun j1 =>
 oP E (xBin .eql 9 (.tmp 3) (.const (Value.string ⟨#[118, 97, 114]⟩)) x0 (Value.string ⟨#[118, 97, 114]⟩)) w fun a9Y w_4 =>
 xcond a9Y
 (j1 [a9Y] w_4)
 (oP E (xBin .eql 9 (.tmp 3) (.const (Value.string ⟨#[97, 114, 114, 97, 121]⟩)) x0 (Value.string ⟨#[97, 114, 114, 97, 121]⟩)) w_4 fun a3g w_6 =>
 xcond a3g
 (j1 [a3g] w_6)
 (oP E (xBin .eql 9 (.tmp 3) (.const (Value.string ⟨#[105, 102]⟩)) x0 (Value.string ⟨#[105, 102]⟩)) w_6 fun a9V w_8 =>
 xcond a9V
 (j1 [a9V] w_8)
 (oP E (xBin .eql 9 (.tmp 3) (.const (Value.string ⟨#[101, 108, 115, 101]⟩)) x0 (Value.string ⟨#[101, 108, 115, 101]⟩)) w_8 fun a6S m8 =>
 xcond a6S
 (j1 [a6S] m8)
 (oP E (xBin .eql 9 (.tmp 3) (.const (Value.string ⟨#[119, 104, 105, 108, 101]⟩)) x0 (Value.string ⟨#[119, 104, 105, 108, 101]⟩)) m8 fun a9z o4 =>
 xcond a9z
 (j1 [a9z] o4)
 (oP E (xBin .eql 9 (.tmp 3) (.const (Value.string ⟨#[97, 115, 115, 101, 114, 116]⟩)) x0 (Value.string ⟨#[97, 115, 115, 101, 114, 116]⟩)) o4 fun d0n o2 =>
 xcond d0n
 (j1 [d0n] o2)
 (oP E (xBin .eql 9 (.tmp 3) (.const (Value.string ⟨#[97, 115, 115, 117, 109, 101]⟩)) x0 (Value.string ⟨#[97, 115, 115, 117, 109, 101]⟩)) o2 fun d0o p5 =>
 xcond d0o
 (j1 [d0o] p5)
 (oP E (xBin .eql 9 (.tmp 3) (.const (Value.string ⟨#[115, 107, 105, 112]⟩)) x0 (Value.string ⟨#[115, 107, 105, 112]⟩)) p5 fun d0p q7 =>
 xcond d0p
 (j1 [d0p] q7)
 (oP E (xBin .eql 9 (.tmp 3) (.const (Value.string ⟨#[105, 110, 112, 117, 116]⟩)) x0 (Value.string ⟨#[105, 110, 112, 117, 116]⟩)) q7 fun d0q q9 =>
 xcond d0q
 (j1 [d0q] q9)
 (oP E (xBin .eql 9 (.tmp 3) (.const (Value.string ⟨#[116, 114, 117, 101]⟩)) x0 (Value.string ⟨#[116, 114, 117, 101]⟩)) q9 fun d0r t1 =>
 xcond d0r
 (j1 [d0r] t1)
 (oP E (xBin .eql 9 (.tmp 3) (.const (Value.string ⟨#[102, 97, 108, 115, 101]⟩)) x0 (Value.string ⟨#[102, 97, 108, 115, 101]⟩)) t1 fun e6y u5 =>
 j1 [e6y] u5))))))))))
noncomputable def e6z : Code := Tryd.f139.body.getD .skip
def e6A : Hint := (sQ (.seq (sQ (.block (.cut [4] (sQ (.cond .none (sQ (.cond .none (sQ (.cond .none (sQ (.cond .none (sQ (.cond .none (sQ (.cond .none (sQ (.cond .none (sQ (.cond .none (sQ (.cond .none (sQ (.cond .none .none)))))))))))))))))))) (.cond (sQ .none) .none)))) (sQ .none)))
theorem d9q (x0 : Value) (w : World) (R : RT) (E : Pan) : c6X x0 w R E = callX Tryd.prog [.tmp 2] e6z e6A [x0] w R E := by kernel_rfl
theorem d9r {x0 : Value} (h : c6X x0 w R E) : Cv Tryd.prog 139 #[x0] w R E := by
 refine i2 (args := [x0]) (c := e6z) (h := e6A) (rs := [.tmp 2]) Tryd.func139 (by kernel_rfl) (by kernel_rfl) (nB (by kernel_rfl)) (by kernel_rfl) (by kernel_rfl) (by kernel_rfl) ?_
 rw [← d9q]
 exact h
def c6Y (x0 : Value) (w : World) (R : RT) (E : Pan) : Prop :=
 oP E (xCall (fC 141) [x0]) w fun b1x w_2 =>
 oP E (xBin .eql 3 (.tmp 6) (.const (vI 3)) b1x (vI 3)) w_2 fun a7R w_4 =>
 oP E (gsem (asB a7R) false (xBin .eql 3 (.tmp 9) (.const (vI 4)) (gval (asB a7R) false b1x) (vI 4))) w_4 fun a1k w_6 =>
 oP E (xPick a7R (vB true) a1k) w_6 fun b1w w_8 =>
 R b1w w_8
noncomputable def e6B : Code := Tryd.f140.body.getD .skip
def e6C : Hint := (sQ (sQ (sQ .none)))
theorem d9s (x0 : Value) (w : World) (R : RT) (E : Pan) : c6Y x0 w R E = callX Tryd.prog [.tmp 2] e6B e6C [x0] w R E := by kernel_rfl
theorem d9t {x0 : Value} (h : c6Y x0 w R E) : Cv Tryd.prog 140 #[x0] w R E := by
 refine i2 (args := [x0]) (c := e6B) (h := e6C) (rs := [.tmp 2]) Tryd.func140 (by kernel_rfl) (by kernel_rfl) (nB (by kernel_rfl)) (by kernel_rfl) (by kernel_rfl) (by kernel_rfl) ?_
 rw [← d9s]
 exact h
def b9g (x39 : Value) (w : World) (R : RT) (_E : Pan) : Prop :=
 ∀ _τ : Fr, (xcond x39
 (R (vI 3) w)
 (R (vI 6) w))
def b9h (x1 x31 : Value) (w : World) (R : RT) (E : Pan) : Prop :=
 ∀ _τ : Fr, (xcond x31
 (R (vI 6) w)
 (oP E (xV (Instr.makeFunc (.func 151) #[] #[x1])) w fun b4E w_8 =>
 oP E (xCall b4E [(Value.int .i32 48), (Value.int .i32 57)]) w_8 fun f8x m8 =>
 xcond f8x
 (R (vI 4) m8)
 (xcut (fun g1P o4 => b9g (nth g1P 0) o4 R E) fun j4 =>
 oP E (lA 21 x1) m8 fun e6D o2 =>
 oP E (xBin .eql 21 (.tmp 40) (.const (Value.int .i32 95)) e6D (Value.int .i32 95)) o2 fun d0s p5 =>
 xcond d0s
 (j4 [d0s] p5)
 (oP E (xCall b4E [(Value.int .i32 97), (Value.int .i32 122)]) p5 fun d0t q7 =>
 xcond d0t
 (j4 [d0t] q7)
 (oP E (xCall b4E [(Value.int .i32 65), (Value.int .i32 90)]) q7 fun d0u q9 =>
 xcond d0u
 (j4 [d0u] q9)
 (oP E (xCall b4E [(Value.int .i32 192), (Value.int .i32 591)]) q9 fun d0v t1 =>
 xcond d0v
 (j4 [d0v] t1)
 (oP E (xCall b4E [(Value.int .i32 913), (Value.int .i32 969)]) t1 fun d0w u5 =>
 xcond d0w
 (j4 [d0w] u5)
 (oP E (xCall b4E [(Value.int .i32 1040), (Value.int .i32 1103)]) u5 fun e6E A7 =>
 j4 [e6E] A7))))))))
def b9i (x1 x4 x11 : Value) (w : World) (R : RT) (E : Pan) : Prop :=
 ∀ _τ : Fr, (xcond x11
 (R (vI 5) w)
 (xcut (fun d2Y C3 => b9h x1 (nth d2Y 0) C3 R E) fun j3 =>
 oP E (xBin .eql 21 (.tmp 4) (.const (Value.int .i32 215)) x4 (Value.int .i32 215)) w fun b7C D8 =>
 xcond b7C
 (j3 [b7C] D8)
 (oP E (xBin .eql 21 (.tmp 4) (.const (Value.int .i32 247)) x4 (Value.int .i32 247)) D8 fun d0x B9 =>
 xcond d0x
 (j3 [d0x] B9)
 (oP E (xBin .eql 21 (.tmp 4) (.const (Value.int .i32 930)) x4 (Value.int .i32 930)) B9 fun b3g D2 =>
 j3 [b3g] D2))))
def b9j (x1 x4 x5 : Value) (w : World) (R : RT) (E : Pan) : Prop :=
 ∀ _τ : Fr, (xcond x5
 (R (vI 1) w)
 (oP E (xBin .eql 21 (.tmp 4) (.const (Value.int .i32 10)) x4 (Value.int .i32 10)) w fun a1k w_6 =>
 xcond a1k
 (R (vI 2) w_6)
 (xcut (fun c2p F7 => b9i x1 x4 (nth c2p 0) F7 R E) fun j2 =>
 oP E (xBin .eql 21 (.tmp 4) (.const (Value.int .i32 59)) x4 (Value.int .i32 59)) w_6 fun d0y D9 =>
 xcond d0y
 (j2 [d0y] D9)
 (oP E (xBin .eql 21 (.tmp 4) (.const (Value.int .i32 44)) x4 (Value.int .i32 44)) D9 fun d0z E1 =>
 xcond d0z
 (j2 [d0z] E1)
 (oP E (xBin .eql 21 (.tmp 4) (.const (Value.int .i32 123)) x4 (Value.int .i32 123)) E1 fun d0A G6 =>
 xcond d0A
 (j2 [d0A] G6)
 (oP E (xBin .eql 21 (.tmp 4) (.const (Value.int .i32 125)) x4 (Value.int .i32 125)) G6 fun d0B G1 =>
 xcond d0B
 (j2 [d0B] G1)
 (oP E (xBin .eql 21 (.tmp 4) (.const (Value.int .i32 40)) x4 (Value.int .i32 40)) G1 fun b7D L5 =>
 xcond b7D
 (j2 [b7D] L5)
 (oP E (xBin .eql 21 (.tmp 4) (.const (Value.int .i32 41)) x4 (Value.int .i32 41)) L5 fun d0C K4 =>
 xcond d0C
 (j2 [d0C] K4)
 (oP E (xBin .eql 21 (.tmp 4) (.const (Value.int .i32 91)) x4 (Value.int .i32 91)) K4 fun b7E G5 =>
 xcond b7E
 (j2 [b7E] G5)
 (oP E (xBin .eql 21 (.tmp 4) (.const (Value.int .i32 93)) x4 (Value.int .i32 93)) G5 fun d0D E3 =>
 xcond d0D
 (j2 [d0D] E3)
 (oP E (xBin .eql 21 (.tmp 4) (.const (Value.int .i32 61)) x4 (Value.int .i32 61)) E3 fun d0E M3 =>
 xcond d0E
 (j2 [d0E] M3)
 (oP E (xBin .eql 21 (.tmp 4) (.const (Value.int .i32 33)) x4 (Value.int .i32 33)) M3 fun d0F M4 =>
 xcond d0F
 (j2 [d0F] M4)
 (oP E (xBin .eql 21 (.tmp 4) (.const (Value.int .i32 60)) x4 (Value.int .i32 60)) M4 fun d0G M1 =>
 xcond d0G
 (j2 [d0G] M1)
 (oP E (xBin .eql 21 (.tmp 4) (.const (Value.int .i32 62)) x4 (Value.int .i32 62)) M1 fun d0H O3 =>
 xcond d0H
 (j2 [d0H] O3)
 (oP E (xBin .eql 21 (.tmp 4) (.const (Value.int .i32 43)) x4 (Value.int .i32 43)) O3 fun d0I M5 =>
 xcond d0I
 (j2 [d0I] M5)
 (oP E (xBin .eql 21 (.tmp 4) (.const (Value.int .i32 45)) x4 (Value.int .i32 45)) M5 fun d0J N0 =>
 xcond d0J
 (j2 [d0J] N0)
 (oP E (xBin .eql 21 (.tmp 4) (.const (Value.int .i32 42)) x4 (Value.int .i32 42)) N0 fun d0K O4 =>
 xcond d0K
 (j2 [d0K] O4)
 (oP E (xBin .eql 21 (.tmp 4) (.const (Value.int .i32 47)) x4 (Value.int .i32 47)) O4 fun d0L O5 =>
 xcond d0L
 (j2 [d0L] O5)
 (oP E (xBin .eql 21 (.tmp 4) (.const (Value.int .i32 37)) x4 (Value.int .i32 37)) O5 fun d0M L6 =>
 xcond d0M
 (j2 [d0M] L6)
 (oP E (xBin .eql 21 (.tmp 4) (.const (Value.int .i32 38)) x4 (Value.int .i32 38)) L6 fun d0N P1 =>
 xcond d0N
 (j2 [d0N] P1)
 (oP E (xBin .eql 21 (.tmp 4) (.const (Value.int .i32 124)) x4 (Value.int .i32 124)) P1 fun e6F Q3 =>
 j2 [e6F] Q3)))))))))))))))))))))
def c6Z (x0 : Value) (w : World) (R : RT) (E : Pan) : Prop :=
 oP E (xV (Instr.box 21 x0)) w fun u1 w_2 =>
 oP E (lA 21 u1) w_2 fun a4F w_4 =>
 xcut (fun g1Q R8 => b9j u1 a4F (nth g1Q 0) R8 R E) fun j1 =>
 oP E (xBin .eql 21 (.tmp 4) (.const (Value.int .i32 32)) a4F (Value.int .i32 32)) w_4 fun d7H N4 =>
 xcond d7H
 (j1 [d7H] N4)
 (oP E (xBin .eql 21 (.tmp 4) (.const (Value.int .i32 9)) a4F (Value.int .i32 9)) N4 fun d7I S4 =>
 xcond d7I
 (j1 [d7I] S4)
 (oP E (xBin .eql 21 (.tmp 4) (.const (Value.int .i32 13)) a4F (Value.int .i32 13)) S4 fun f8y Q6 =>
 j1 [f8y] Q6))
noncomputable def e6G : Code := Tryd.f141.body.getD .skip
def e6H : Hint := (sQ (.seq (sQ (.block (.cut [5] (sQ (.cond .none (sQ (.cond .none .none)))) (.cond (sQ .none) (sQ (.cond (sQ .none) (.cut [11] (sQ (.cond .none (sQ (.cond .none (sQ (.cond .none (sQ (.cond .none (sQ (.cond .none (sQ (.cond .none (sQ (.cond .none (sQ (.cond .none (sQ (.cond .none (sQ (.cond .none (sQ (.cond .none (sQ (.cond .none (sQ (.cond .none (sQ (.cond .none (sQ (.cond .none (sQ (.cond .none (sQ (.cond .none (sQ (.cond .none .none)))))))))))))))))))))))))))))))))))) (.cond (sQ .none) (.cut [31] (sQ (.cond .none (sQ (.cond .none .none)))) (.cond (sQ .none) .none)))))))))) (sQ (.seq (.block (sQ (.cond (sQ .none) (.cut [39] (sQ (.cond .none (sQ (.cond .none (sQ (.cond .none (sQ (.cond .none (sQ (.cond .none .none)))))))))) (.cond (sQ .none) .none))))) (sQ .none)))))
theorem d9u (x0 : Value) (w : World) (R : RT) (E : Pan) : c6Z x0 w R E = callX Tryd.prog [.tmp 2] e6G e6H [x0] w R E := by kernel_rfl
theorem d9v {x0 : Value} (h : c6Z x0 w R E) : Cv Tryd.prog 141 #[x0] w R E := by
 refine i2 (args := [x0]) (c := e6G) (h := e6H) (rs := [.tmp 2]) Tryd.func141 (by kernel_rfl) (by kernel_rfl) (nB (by kernel_rfl)) (by kernel_rfl) (by kernel_rfl) (by kernel_rfl) ?_
 rw [← d9u]
 exact h
def b9k (w : World) (R : RT) (_E : Pan) : Prop :=
 ∀ _τ : Fr, (R (vI (-1)) w)
def c5T (x0 x1 x7 x8 : Value) (w : World) (next2 : NT) (j1 : NT) (R : RT) (E : Pan) : Prop :=
 oP E (xBin .lss 3 (.tmp 8) (.tmp 7) x8 x7) w fun g1R w_6 =>
 xcond g1R
 (oP E (iA 104 x0 x8) w_6 fun S8 w_8 =>
 oP E (lA 9 S8) w_8 fun a4x m8 =>
 oP E (xBin .eql 9 (.tmp 11) (.tmp 15) x1 a4x) m8 fun a5u o4 =>
 xcond a5u
 (R x8 o4)
 (oP E (xBin .add 3 (.tmp 8) (.const (vI 1)) x8 (vI 1)) o4 fun a7U o2 =>
 next2 [a7U] o2))
 (j1 [] w_6)
def c7a (x0 x1 : Value) (w : World) (R : RT) (E : Pan) : Prop :=
 xcut (fun _ w_2 => b9k w_2 R E) fun j1 =>
 oP E (xBuiltin .len #[104] 3 [false] [x0]) w fun a7R w_4 =>
 xloop [8] [(vI 0)] w_4 fun τ_15 p5 next2 =>
 c5T x0 x1 a7R (τ_15 8) p5 next2 j1 R E
noncomputable def e6I : Code := Tryd.f142.body.getD .skip
def e6J : Hint := (sQ (.cut [] (sQ (.block (.loop [8] (sQ (.seq (.cond .none .none) (.seq (.block (sQ (sQ (.cond (sQ .none) .none)))) .none)))))) (sQ .none)))
theorem d9w (x0 x1 : Value) (w : World) (R : RT) (E : Pan) : c7a x0 x1 w R E = callX Tryd.prog [.tmp 4] e6I e6J [x0, x1] w R E := by kernel_rfl
theorem d9x {x0 x1 : Value} (h : c7a x0 x1 w R E) : Cv Tryd.prog 142 #[x0, x1] w R E := by
 refine i2 (args := [x0, x1]) (c := e6I) (h := e6J) (rs := [.tmp 4]) Tryd.func142 (by kernel_rfl) (by kernel_rfl) (nB (by kernel_rfl)) (by kernel_rfl) (by kernel_rfl) (by kernel_rfl) ?_
 rw [← d9w]
 exact h
def b9l (x2 : Value) (w : World) (R : RT) (_E : Pan) : Prop :=
 ∀ _τ : Fr, (R x2 w)
def c5U (x2 x4 : Value) (w : World) (next2 : NT) (j1 : NT) (_R : RT) (E : Pan) : Prop :=
 oP E (xV (Instr.next x4 true 0)) w fun c2q w_6 =>
 oP E (eX c2q 0) w_6 fun b9m w_8 =>
 xcond b9m
 (oP E (xBin .add 3 (.tmp 7) (.const (vI 1)) x2 (vI 1)) w_8 fun a6S m8 =>
 next2 [a6S] m8)
 (j1 [x2] w_8)
def c7b (x0 : Value) (w : World) (R : RT) (E : Pan) : Prop :=
 xcut (fun l_1 w_2 => b9l (nth l_1 0) w_2 R E) fun j1 =>
 oP E (xV (Instr.range 9 x0)) w fun a4F w_4 =>
 xloop [2] [(vI 0)] w_4 fun τ_11 o4 next2 =>
 c5U (τ_11 2) a4F o4 next2 j1 R E
noncomputable def e6K : Code := Tryd.f150.body.getD .skip
def e6L : Hint := (sQ (.cut [2] (sQ (.block (.loop [2] (sQ (.seq (.cond .none .none) (.block .none)))))) (sQ .none)))
theorem d9y (x0 : Value) (w : World) (R : RT) (E : Pan) : c7b x0 w R E = callX Tryd.prog [.tmp 2] e6K e6L [x0] w R E := by kernel_rfl
theorem d9z {x0 : Value} (h : c7b x0 w R E) : Cv Tryd.prog 150 #[x0] w R E := by
 refine i2 (args := [x0]) (c := e6K) (h := e6L) (rs := [.tmp 2]) Tryd.func150 (by kernel_rfl) (by kernel_rfl) (nB (by kernel_rfl)) (by kernel_rfl) (by kernel_rfl) (by kernel_rfl) ?_
 rw [← d9y]
 exact h
def c7c (x0 x1 x2 : Value) (w : World) (R : RT) (E : Pan) : Prop :=
 oP E (lA 21 x2) w fun a2B w_2 =>
 oP E (xBin .leq 21 (.tmp 6) (.tmp 7) x0 a2B) w_2 fun b9e w_4 =>
 oP E (gsem (asB b9e) true (lA 21 x2)) w_4 fun a1k w_6 =>
 oP E (gsem (asB b9e) true (xBin .leq 21 (.tmp 10) (.tmp 11) a1k (gval (asB b9e) true x1))) w_6 fun a7m w_8 =>
 oP E (xPick b9e a7m (vB false)) w_8 fun a7n m8 =>
 R a7n m8
noncomputable def e6M : Code := Tryd.f151.body.getD .skip
def e6N : Hint := (sQ (sQ .none))
theorem d9A (x0 x1 x2 : Value) (w : World) (R : RT) (E : Pan) : c7c x0 x1 x2 w R E = callX Tryd.prog [.tmp 5] e6M e6N [x0, x1, x2] w R E := by kernel_rfl
theorem d9B {x0 x1 x2 : Value} (h : c7c x0 x1 x2 w R E) : Cv Tryd.prog 151 #[x0, x1, x2] w R E := by
 refine i2 (args := [x0, x1, x2]) (c := e6M) (h := e6N) (rs := [.tmp 5]) Tryd.func151 (by kernel_rfl) (by kernel_rfl) (nB (by kernel_rfl)) (by kernel_rfl) (by kernel_rfl) (by kernel_rfl) ?_
 rw [← d9A]
 exact h
def b9n (x3 x59 : Value) (w : World) (R : RT) (E : Pan) : Prop :=
 ∀ _τ : Fr, (xcond x59
 (oP E (xBin .eql 3 (.tmp 65) (.const (vI 2)) x3 (vI 2)) w fun e6O N4 =>
 R e6O N4)
 (R (vB false) w))
def b9o (x3 x38 x54 : Value) (w : World) (R : RT) (E : Pan) : Prop :=
 ∀ _τ : Fr, (xcond x54
 (oP E (xBin .eql 3 (.tmp 57) (.const (vI 1)) x3 (vI 1)) w fun e6P R8 =>
 R e6P R8)
 (xcut (fun c7d S4 => b9n x3 (nth c7d 0) S4 R E) fun j3 =>
 oP E (xBin .eql 3 (.tmp 38) (.const (vI 6)) x38 (vI 6)) w fun a7V Q6 =>
 xcond a7V
 (j3 [a7V] Q6)
 (oP E (xBin .eql 3 (.tmp 38) (.const (vI 7)) x38 (vI 7)) Q6 fun d0O P2 =>
 xcond d0O
 (j3 [d0O] P2)
 (oP E (xBin .eql 3 (.tmp 38) (.const (vI 8)) x38 (vI 8)) P2 fun d0P S5 =>
 xcond d0P
 (j3 [d0P] S5)
 (oP E (xBin .eql 3 (.tmp 38) (.const (vI 9)) x38 (vI 9)) S5 fun d0Q N5 =>
 xcond d0Q
 (j3 [d0Q] N5)
 (oP E (xBin .eql 3 (.tmp 38) (.const (vI 10)) x38 (vI 10)) N5 fun e6Q W5 =>
 j3 [e6Q] W5))))))
def b9p (x3 x38 x49 : Value) (w : World) (R : RT) (E : Pan) : Prop :=
 ∀ _τ : Fr, (xcond x49
 (oP E (xBin .eql 3 (.tmp 52) (.const (vI 0)) x3 (vI 0)) w fun b2Z Q3 =>
 R b2Z Q3)
 (xcut (fun g1S a1g => b9o x3 x38 (nth g1S 0) a1g R E) fun j2 =>
 oP E (xBin .eql 3 (.tmp 38) (.const (vI 4)) x38 (vI 4)) w fun d0R a0K =>
 xcond d0R
 (j2 [d0R] a0K)
 (oP E (xBin .eql 3 (.tmp 38) (.const (vI 5)) x38 (vI 5)) a0K fun e6R a0q =>
 j2 [e6R] a0q)))
def c7e (x0 : Value) (w : World) (R : RT) (E : Pan) : Prop :=
 oP E (xV (Instr.box 123 x0)) w fun u1 w_2 =>
 oP E (fA 123 u1 0) w_2 fun a3k w_4 =>
 oP E (fA 24 a3k 3) w_4 fun a7Z w_6 =>
 oP E (lA 22 a7Z) w_6 fun a2C w_8 =>
 oP E (xBuiltin .len #[22] 3 [false] [a2C]) w_8 fun a9Z m8 =>
 oP E (lA 123 u1) m8 fun a6C o4 =>
 oP E (xV (Instr.makeInterface 123 a6C)) o4 fun a6D o2 =>
 oP E (xCall (fC 118) [a6D]) o2 fun a7X p5 =>
 oP E (eX a7X 0) p5 fun _t14_17 q7 =>
 oP E (eX a7X 1) q7 fun a7Y q9 =>
 oP E (fA 123 u1 0) q9 fun b3c t1 =>
 oP E (fA 24 b3c 0) t1 fun c2r u5 =>
 oP E (lA 3 c2r) u5 fun c2s A7 =>
 oP E (xBin .neq 3 (.tmp 18) (.const (vI 1)) c2s (vI 1)) A7 fun a8a C3 =>
 oP E (gsem (asB a8a) true (fA 123 u1 0)) C3 fun e6S D8 =>
 oP E (gsem (asB a8a) true (fA 24 e6S 1)) D8 fun e6T B9 =>
 oP E (gsem (asB a8a) true (lA 2 e6T)) B9 fun e6U D2 =>
 oP E (gsem (asB a8a) true (xBin .neq 2 (.tmp 23) (.const (vI 0)) e6U (vI 0))) D2 fun e6V F7 =>
 oP E (xPick a8a e6V (vB false)) F7 fun a5v D9 =>
 oP E (gsem (asB a5v) false (xV (Op.unary .not (gval (asB a5v) false a7Y)))) D9 fun b3h E1 =>
 oP E (gsem (asB (gval (asB a5v) false b3h)) true (fA 123 u1 0)) E1 fun c2t G6 =>
 oP E (gsem (asB (gval (asB a5v) false b3h)) true (fA 24 c2t 2)) G6 fun c2u G1 =>
 oP E (gsem (asB (gval (asB a5v) false b3h)) true (lA 9 c2u)) G1 fun c2v L5 =>
 oP E (gsem (asB (gval (asB a5v) false b3h)) true (xBin .neq 9 (.tmp 32) (.const (eS)) c2v (eS))) L5 fun e6W K4 =>
 oP E (gsem (asB a5v) false (xPick (gval (asB a5v) false b3h) e6W (vB false))) K4 fun e6X G5 =>
 oP E (xPick a5v (vB true) e6X) G5 fun e6Y E3 =>
 xcond e6Y
 (R (vB false) E3)
 (oP E (fA 123 u1 0) E3 fun c2n M3 =>
 oP E (fA 24 c2n 0) M3 fun e6Z M4 =>
 oP E (lA 3 e6Z) M4 fun b7F M1 =>
 oP E (xBin .eql 3 (.tmp 38) (.const (vI 1)) b7F (vI 1)) M1 fun e7a O3 =>
 xcond e7a
 (oP E (fA 123 u1 0) O3 fun e7b M5 =>
 oP E (fA 24 e7b 1) M5 fun e7c N0 =>
 oP E (lA 2 e7c) N0 fun e7d O4 =>
 oP E (xBin .geq 2 (.tmp 43) (.const (vI 0)) e7d (vI 0)) O4 fun c2w O5 =>
 oP E (gsem (asB c2w) true (xBin .eql 3 (.tmp 46) (.const (vI 0)) (gval (asB c2w) true a9Z) (vI 0))) O5 fun e7e L6 =>
 oP E (xPick c2w e7e (vB false)) L6 fun e7f P1 =>
 R e7f P1)
 (xcut (fun g1T a0L => b9p a9Z b7F (nth g1T 0) a0L R E) fun j1 =>
 oP E (xBin .eql 3 (.tmp 38) (.const (vI 2)) b7F (vI 2)) O3 fun d0S T5 =>
 xcond d0S
 (j1 [d0S] T5)
 (oP E (xBin .eql 3 (.tmp 38) (.const (vI 3)) b7F (vI 3)) T5 fun d9C N7 =>
 j1 [d9C] N7)))
noncomputable def e7g : Code := Tryd.f169.body.getD .skip
def e7h : Hint := (sQ (sQ (sQ (.seq (sQ (.cond (sQ .none) .none)) (.seq (sQ (.block (sQ (.cond (sQ .none) (.cut [49] (sQ (.cond .none .none)) (.cond (sQ .none) (.cut [54] (sQ (.cond .none .none)) (.cond (sQ .none) (.cut [59] (sQ (.cond .none (sQ (.cond .none (sQ (.cond .none (sQ (.cond .none .none)))))))) (.cond (sQ .none) .none)))))))))) (sQ .none))))))
theorem d9D (x0 : Value) (w : World) (R : RT) (E : Pan) : c7e x0 w R E = callX Tryd.prog [.tmp 2] e7g e7h [x0] w R E := by kernel_rfl
theorem d9E {x0 : Value} (h : c7e x0 w R E) : Cv Tryd.prog 169 #[x0] w R E := by
 refine i2 (args := [x0]) (c := e7g) (h := e7h) (rs := [.tmp 2]) Tryd.func169 (by kernel_rfl) (by kernel_rfl) (nB (by kernel_rfl)) (by kernel_rfl) (by kernel_rfl) (by kernel_rfl) ?_
 rw [← d9D]
 exact h
def c7f (x0 : Value) (w : World) (R : RT) (E : Pan) : Prop :=
 oP E (xV (Instr.box 123 x0)) w fun u1 w_2 =>
 oP E (fA 123 u1 0) w_2 fun a3h w_4 =>
 oP E (fA 24 a3h 3) w_4 fun a1M w_6 =>
 oP E (lA 22 a1M) w_6 fun a4E w_8 =>
 oP E (xCall (fC 171) [a4E, (fC 172)]) w_8 fun b1s m8 =>
 R b1s m8
noncomputable def e7i : Code := Tryd.f170.body.getD .skip
def e7j : Hint := (sQ (sQ .none))
theorem d9F (x0 : Value) (w : World) (R : RT) (E : Pan) : c7f x0 w R E = callX Tryd.prog [.tmp 2] e7i e7j [x0] w R E := by kernel_rfl
theorem d9G {x0 : Value} (h : c7f x0 w R E) : Cv Tryd.prog 170 #[x0] w R E := by
 refine i2 (args := [x0]) (c := e7i) (h := e7j) (rs := [.tmp 2]) Tryd.func170 (by kernel_rfl) (by kernel_rfl) (nB (by kernel_rfl)) (by kernel_rfl) (by kernel_rfl) (by kernel_rfl) ?_
 rw [← d9F]
 exact h
def b9q (x5 : Value) (w : World) (R : RT) (_E : Pan) : Prop :=
 ∀ _τ : Fr, (R x5 w)
def c5V (x1 x5 x8 x9 x10 : Value) (w : World) (next2 : NT) (j1 : NT) (_R : RT) (E : Pan) : Prop :=
 oP E (xBin .lss 3 (.tmp 10) (.tmp 9) x10 x9) w fun a5n w_6 =>
 xcond a5n
 (oP E (iA 22 x8 x10) w_6 fun a7m w_8 =>
 oP E (lA 24 a7m) w_8 fun a7n m8 =>
 oP E (xV (Instr.alloc 24 true (.tuple #[]))) m8 fun a3M o4 =>
 oP E (sA 24 a3M a7n) o4 fun _z_13 o2 =>
 oP E (lA 24 a3M) o2 fun a7S p5 =>
 oP E (xCall x1 [a7S]) p5 fun a5o q7 =>
 oP E (xV (Instr.buildSlice 124 1 #[(0, a5o)])) q7 fun a7T q9 =>
 oP E (xBuiltin .append #[124, 124] 124 [false, false] [x5, a7T]) q9 fun a5p t1 =>
 oP E (xBin .add 3 (.tmp 10) (.const (vI 1)) x10 (vI 1)) t1 fun a5q u5 =>
 next2 [a5p, a5q] u5)
 (j1 [x5] w_6)
def c7g (x0 x1 : Value) (w : World) (R : RT) (E : Pan) : Prop :=
 xcut (fun l_1 w_2 => b9q (nth l_1 0) w_2 R E) fun j1 =>
 oP E (xBuiltin .len #[22] 3 [false] [x0]) w fun a2y w_4 =>
 xloop [5, 10] [(nS), (vI 0)] w_4 fun τ_25 A7 next2 =>
 c5V x1 (τ_25 5) x0 a2y (τ_25 10) A7 next2 j1 R E
noncomputable def e7k : Code := Tryd.f171.body.getD .skip
def e7l : Hint := (sQ (sQ (.cut [5] (sQ (.block (.loop [5, 10] (sQ (.seq (.cond .none .none) (.seq (.block (sQ .none)) .none)))))) (sQ .none))))
theorem d9H (x0 x1 : Value) (w : World) (R : RT) (E : Pan) : c7g x0 x1 w R E = callX Tryd.prog [.tmp 4] e7k e7l [x0, x1] w R E := by kernel_rfl
theorem d9I {x0 x1 : Value} (h : c7g x0 x1 w R E) : Cv Tryd.prog 171 #[x0, x1] w R E := by
 refine i2 (args := [x0, x1]) (c := e7k) (h := e7l) (rs := [.tmp 4]) Tryd.func171 (by kernel_rfl) (by kernel_rfl) (nB (by kernel_rfl)) (by kernel_rfl) (by kernel_rfl) (by kernel_rfl) ?_
 rw [← d9H]
 exact h
def c7h (x0 : Value) (w : World) (R : RT) (E : Pan) : Prop :=
 oP E (xV (Instr.box 24 x0)) w fun u1 w_2 =>
 oP E (lA 24 u1) w_2 fun a3h w_4 =>
 oP E (xV (Instr.build 123 #[(0, a3h)])) w_4 fun a1M w_6 =>
 oP E (xV (Instr.makeInterface 123 a1M)) w_6 fun a4E w_8 =>
 R a4E w_8
noncomputable def e7m : Code := Tryd.f172.body.getD .skip
def e7n : Hint := (sQ (sQ .none))
theorem d9J (x0 : Value) (w : World) (R : RT) (E : Pan) : c7h x0 w R E = callX Tryd.prog [.tmp 2] e7m e7n [x0] w R E := by kernel_rfl
theorem d9K {x0 : Value} (h : c7h x0 w R E) : Cv Tryd.prog 172 #[x0] w R E := by
 refine i2 (args := [x0]) (c := e7m) (h := e7n) (rs := [.tmp 2]) Tryd.func172 (by kernel_rfl) (by kernel_rfl) (nB (by kernel_rfl)) (by kernel_rfl) (by kernel_rfl) (by kernel_rfl) ?_
 rw [← d9J]
 exact h
def b9r (x3 x50 : Value) (w : World) (R : RT) (E : Pan) : Prop :=
 ∀ _τ : Fr, (xcond x50
 (oP E (lA 223 x3) w fun c2x N5 =>
 oP E (xV (Instr.build 223 #[(0, (vI 0)), (1, (vI 2))])) N5 fun c2y W5 =>
 oP E (xBin .eql 223 (.tmp 53) (.tmp 54) c2x c2y) W5 fun c2z a1g =>
 R c2z a1g)
 (R (vB false) w))
def b9s (x3 x38 x39 : Value) (w : World) (R : RT) (E : Pan) : Prop :=
 ∀ _τ : Fr, (xcond x39
 (oP E (lA 223 x3) w fun e7o Q3 =>
 oP E (xV (Instr.build 223 #[])) Q3 fun e7p R8 =>
 oP E (xBin .eql 223 (.tmp 42) (.tmp 43) e7o e7p) R8 fun e7q N4 =>
 R e7q N4)
 (oP E (xBin .eql 3 (.tmp 38) (.const (vI 4)) x38 (vI 4)) w fun e7r S4 =>
 xcond e7r
 (oP E (lA 223 x3) S4 fun e7s Q6 =>
 oP E (xV (Instr.build 223 #[(0, (vI 0)), (1, (vI 1))])) Q6 fun e7t P2 =>
 oP E (xBin .eql 223 (.tmp 47) (.tmp 48) e7s e7t) P2 fun e7u S5 =>
 R e7u S5)
 (xcut (fun c2A a0K => b9r x3 (nth c2A 0) a0K R E) fun j2 =>
 oP E (xBin .eql 3 (.tmp 38) (.const (vI 5)) x38 (vI 5)) S4 fun d0T a0q =>
 xcond d0T
 (j2 [d0T] a0q)
 (oP E (xBin .eql 3 (.tmp 38) (.const (vI 6)) x38 (vI 6)) a0q fun e7v a0L =>
 j2 [e7v] a0L))))
def c7i (x0 : Value) (w : World) (R : RT) (E : Pan) : Prop :=
 oP E (xV (Instr.box 138 x0)) w fun u1 w_2 =>
 oP E (fA 138 u1 0) w_2 fun a4F w_4 =>
 oP E (fA 27 a4F 2) w_4 fun c2q w_6 =>
 oP E (lA 22 c2q) w_6 fun b9m w_8 =>
 oP E (xBuiltin .len #[22] 3 [false] [b9m]) w_8 fun g1U m8 =>
 oP E (fA 138 u1 0) m8 fun b7s o4 =>
 oP E (fA 27 b7s 3) o4 fun b1y o2 =>
 oP E (lA 25 b1y) o2 fun b3i p5 =>
 oP E (xBuiltin .len #[25] 3 [false] [b3i]) p5 fun b3j q7 =>
 oP E (xV (Instr.build 223 #[(0, g1U), (1, b3j)])) q7 fun b3k q9 =>
 oP E (xV (Instr.alloc 223 true (.tuple #[]))) q9 fun c7j t1 =>
 oP E (sA 223 c7j b3k) t1 fun _z_23 u5 =>
 oP E (fA 138 u1 0) u5 fun e7w A7 =>
 oP E (fA 27 e7w 0) A7 fun e7x C3 =>
 oP E (lA 3 e7x) C3 fun e7y D8 =>
 oP E (xBin .eql 3 (.tmp 15) (.const (vI 3)) e7y (vI 3)) D8 fun e7z B9 =>
 xcond e7z
 (oP E (fA 138 u1 0) B9 fun c1U D2 =>
 oP E (fA 27 c1U 1) D2 fun b2X F7 =>
 oP E (lA 3 b2X) F7 fun e7A D9 =>
 oP E (xBin .geq 3 (.tmp 19) (.const (vI 1)) e7A (vI 1)) D9 fun b3l E1 =>
 oP E (gsem (asB b3l) true (fA 138 u1 0)) E1 fun c2B G6 =>
 oP E (gsem (asB b3l) true (fA 27 c2B 1)) G6 fun c2C G1 =>
 oP E (gsem (asB b3l) true (lA 3 c2C)) G1 fun e7B L5 =>
 oP E (gsem (asB b3l) true (xBin .leq 3 (.tmp 24) (.const (vI 6)) e7B (vI 6))) L5 fun e7C K4 =>
 oP E (xPick b3l e7C (vB false)) K4 fun b7G G5 =>
 oP E (gsem (asB b7G) true (lA 223 c7j)) G5 fun b3m E3 =>
 oP E (gsem (asB b7G) true (xV (Instr.build 223 #[(0, (vI 2)), (1, (vI 0))]))) E3 fun e7D M3 =>
 oP E (gsem (asB b7G) true (xBin .eql 223 (.tmp 28) (.tmp 29) b3m e7D)) M3 fun e7E M4 =>
 oP E (xPick b7G e7E (vB false)) M4 fun e7F M1 =>
 R e7F M1)
 (oP E (fA 138 u1 0) B9 fun b3n O3 =>
 oP E (fA 27 b3n 1) O3 fun b3o M5 =>
 oP E (lA 3 b3o) M5 fun b3p N0 =>
 oP E (xBin .neq 3 (.tmp 34) (.const (vI 0)) b3p (vI 0)) N0 fun a8b O4 =>
 xcond a8b
 (R (vB false) O4)
 (oP E (fA 138 u1 0) O4 fun e7G O5 =>
 oP E (fA 27 e7G 0) O5 fun e7H L6 =>
 oP E (lA 3 e7H) L6 fun c2D P1 =>
 xcut (fun g1V T5 => b9s c7j c2D (nth g1V 0) T5 R E) fun j1 =>
 oP E (xBin .eql 3 (.tmp 38) (.const (vI 1)) c2D (vI 1)) P1 fun c5W N7 =>
 xcond c5W
 (j1 [c5W] N7)
 (oP E (xBin .eql 3 (.tmp 38) (.const (vI 2)) c2D (vI 2)) N7 fun d9L O8 =>
 j1 [d9L] O8)))
noncomputable def e7I : Code := Tryd.f173.body.getD .skip
def e7J : Hint := (sQ (sQ (.seq (sQ (.cond (sQ .none) .none)) (.seq (sQ (.cond (sQ .none) .none)) (.seq (sQ (.block (.cut [39] (sQ (.cond .none .none)) (.cond (sQ .none) (sQ (.cond (sQ .none) (.cut [50] (sQ (.cond .none .none)) (.cond (sQ .none) .none)))))))) (sQ .none))))))
theorem d9M (x0 : Value) (w : World) (R : RT) (E : Pan) : c7i x0 w R E = callX Tryd.prog [.tmp 2] e7I e7J [x0] w R E := by kernel_rfl
theorem d9N {x0 : Value} (h : c7i x0 w R E) : Cv Tryd.prog 173 #[x0] w R E := by
 refine i2 (args := [x0]) (c := e7I) (h := e7J) (rs := [.tmp 2]) Tryd.func173 (by kernel_rfl) (by kernel_rfl) (nB (by kernel_rfl)) (by kernel_rfl) (by kernel_rfl) (by kernel_rfl) ?_
 rw [← d9M]
 exact h
def c7k (x0 : Value) (w : World) (R : RT) (E : Pan) : Prop :=
 oP E (xV (Instr.box 138 x0)) w fun u1 w_2 =>
 dX w_2 fun w_3 =>
 qP Tryd.prog (fA 138 u1 0) fun b8X =>
 qP Tryd.prog (fA 27 b8X 2) fun a1M =>
 qP Tryd.prog (fA 138 u1 0) fun d3a =>
 qP Tryd.prog (fA 27 d3a 3) fun a2C =>
 qL Tryd.prog w_3 (blk a1M) (lA 22 a1M) fun d2W =>
 qL Tryd.prog w_3 (blk a2C) (lA 25 a2C) fun a9Z =>
 oP E (xCall (fC 171) [d2W, (fC 172)]) w_3 fun f8z a0I =>
 keepX [(blk a2C)] w_3 a0I (opK Tryd.prog E (xCall (fC 175) [a9Z, (fC 176)]) a0I fun e7K Y6 =>
 keepX [] a0I Y6 (opK Tryd.prog E (xV (Instr.buildSlice 174 2 #[(0, f8z), (1, e7K)])) Y6 fun e7L b5Q =>
 keepX [] Y6 b5Q (opK Tryd.prog E (xCall (fC 87) [e7L]) b5Q fun e7M a2k =>
 keepX [] b5Q a2k (R e7M a2k))))
noncomputable def e7N : Code := Tryd.f174.body.getD .skip
def e7O : Hint := (sQ (.seq (.reg [(0, 8, 2), (1, 16, 8), (2, 32, 16), (4, 64, 32), (0, 128, 2), (16, 256, 128), (32, 512, 256), (72, 1024, 512), (136, 2048, 1088), (384, 4096, 2048), (1023, 4, 4096)] [68, 68, 64, 64, 68, 68, 4, 0, 0, 0, 68] (.early 0 (.early 1 (.early 4 (.early 5 (.load 2 (.load 6 (.step 3 (.step 7 (.step 8 (.step 9 (.early 10 .done)))))))))))) .none))
theorem d9O (x0 : Value) (w : World) (R : RT) (E : Pan) : c7k x0 w R E = callX Tryd.prog [.tmp 2] e7N e7O [x0] w R E := by kernel_rfl
theorem d9P {x0 : Value} (h : c7k x0 w R E) : Cv Tryd.prog 174 #[x0] w R E := by
 refine i2 (args := [x0]) (c := e7N) (h := e7O) (rs := [.tmp 2]) Tryd.func174 (by kernel_rfl) (by kernel_rfl) (nB (by kernel_rfl)) (by kernel_rfl) (by kernel_rfl) (by kernel_rfl) ?_
 rw [← d9O]
 exact h
def b9t (x5 : Value) (w : World) (R : RT) (_E : Pan) : Prop :=
 ∀ _τ : Fr, (R x5 w)
def c5X (x1 x5 x8 x9 x10 : Value) (w : World) (next2 : NT) (j1 : NT) (_R : RT) (E : Pan) : Prop :=
 oP E (xBin .lss 3 (.tmp 10) (.tmp 9) x10 x9) w fun a5n w_6 =>
 xcond a5n
 (oP E (iA 25 x8 x10) w_6 fun a7m w_8 =>
 oP E (lA 27 a7m) w_8 fun a7n m8 =>
 oP E (xV (Instr.alloc 27 true (.tuple #[]))) m8 fun a3M o4 =>
 oP E (sA 27 a3M a7n) o4 fun _z_13 o2 =>
 oP E (lA 27 a3M) o2 fun a7S p5 =>
 oP E (xCall x1 [a7S]) p5 fun a5o q7 =>
 oP E (xV (Instr.buildSlice 124 1 #[(0, a5o)])) q7 fun a7T q9 =>
 oP E (xBuiltin .append #[124, 124] 124 [false, false] [x5, a7T]) q9 fun a5p t1 =>
 oP E (xBin .add 3 (.tmp 10) (.const (vI 1)) x10 (vI 1)) t1 fun a5q u5 =>
 next2 [a5p, a5q] u5)
 (j1 [x5] w_6)
def c7l (x0 x1 : Value) (w : World) (R : RT) (E : Pan) : Prop :=
 xcut (fun l_1 w_2 => b9t (nth l_1 0) w_2 R E) fun j1 =>
 oP E (xBuiltin .len #[25] 3 [false] [x0]) w fun a2y w_4 =>
 xloop [5, 10] [(nS), (vI 0)] w_4 fun τ_25 A7 next2 =>
 c5X x1 (τ_25 5) x0 a2y (τ_25 10) A7 next2 j1 R E
noncomputable def e7P : Code := Tryd.f175.body.getD .skip
def e7Q : Hint := (sQ (sQ (.cut [5] (sQ (.block (.loop [5, 10] (sQ (.seq (.cond .none .none) (.seq (.block (sQ .none)) .none)))))) (sQ .none))))
theorem d9Q (x0 x1 : Value) (w : World) (R : RT) (E : Pan) : c7l x0 x1 w R E = callX Tryd.prog [.tmp 4] e7P e7Q [x0, x1] w R E := by kernel_rfl
theorem d9R {x0 x1 : Value} (h : c7l x0 x1 w R E) : Cv Tryd.prog 175 #[x0, x1] w R E := by
 refine i2 (args := [x0, x1]) (c := e7P) (h := e7Q) (rs := [.tmp 4]) Tryd.func175 (by kernel_rfl) (by kernel_rfl) (nB (by kernel_rfl)) (by kernel_rfl) (by kernel_rfl) (by kernel_rfl) ?_
 rw [← d9Q]
 exact h
def c7m (x0 : Value) (w : World) (R : RT) (E : Pan) : Prop :=
 oP E (xV (Instr.box 27 x0)) w fun u1 w_2 =>
 oP E (lA 27 u1) w_2 fun a3h w_4 =>
 oP E (xV (Instr.build 138 #[(0, a3h)])) w_4 fun a1M w_6 =>
 oP E (xV (Instr.makeInterface 138 a1M)) w_6 fun a4E w_8 =>
 R a4E w_8
noncomputable def e7R : Code := Tryd.f176.body.getD .skip
def e7S : Hint := (sQ (sQ .none))
theorem d9S (x0 : Value) (w : World) (R : RT) (E : Pan) : c7m x0 w R E = callX Tryd.prog [.tmp 2] e7R e7S [x0] w R E := by kernel_rfl
theorem d9T {x0 : Value} (h : c7m x0 w R E) : Cv Tryd.prog 176 #[x0] w R E := by
 refine i2 (args := [x0]) (c := e7R) (h := e7S) (rs := [.tmp 2]) Tryd.func176 (by kernel_rfl) (by kernel_rfl) (nB (by kernel_rfl)) (by kernel_rfl) (by kernel_rfl) (by kernel_rfl) ?_
 rw [← d9S]
 exact h
def c7n (x0 : Value) (w : World) (R : RT) (E : Pan) : Prop :=
 oP E (xV (Instr.box 177 x0)) w fun u1 w_2 =>
 oP E (fA 177 u1 0) w_2 fun a3h w_4 =>
 oP E (fA 58 a3h 1) w_4 fun a1M w_6 =>
 oP E (lA 3 a1M) w_6 fun a4E w_8 =>
 oP E (xBin .geq 3 (.tmp 5) (.const (vI 0)) a4E (vI 0)) w_8 fun b1s m8 =>
 oP E (gsem (asB b1s) true (fA 177 u1 0)) m8 fun b7s o4 =>
 oP E (gsem (asB b1s) true (fA 58 b7s 1)) o4 fun b1y o2 =>
 oP E (gsem (asB b1s) true (lA 3 b1y)) o2 fun b3i p5 =>
 oP E (gsem (asB b1s) true (xBin .leq 3 (.tmp 10) (.const (vI 2147483647)) b3i (vI 2147483647))) p5 fun b3j q7 =>
 oP E (xPick b1s b3j (vB false)) q7 fun b3k q9 =>
 R b3k q9
noncomputable def e7T : Code := Tryd.f177.body.getD .skip
def e7U : Hint := (sQ (sQ .none))
theorem d9U (x0 : Value) (w : World) (R : RT) (E : Pan) : c7n x0 w R E = callX Tryd.prog [.tmp 2] e7T e7U [x0] w R E := by kernel_rfl
theorem d9V {x0 : Value} (h : c7n x0 w R E) : Cv Tryd.prog 177 #[x0] w R E := by
 refine i2 (args := [x0]) (c := e7T) (h := e7U) (rs := [.tmp 2]) Tryd.func177 (by kernel_rfl) (by kernel_rfl) (nB (by kernel_rfl)) (by kernel_rfl) (by kernel_rfl) (by kernel_rfl) ?_
 rw [← d9U]
 exact h
def c7o (x0 : Value) (w : World) (R : RT) (E : Pan) : Prop :=
 oP E (xV (Instr.box 177 x0)) w fun _t1_1 w_2 =>
 R (nS) w_2
noncomputable def e7V : Code := Tryd.f178.body.getD .skip
def e7W : Hint := (sQ (sQ .none))
theorem d9W (x0 : Value) (w : World) (R : RT) (E : Pan) : c7o x0 w R E = callX Tryd.prog [.tmp 2] e7V e7W [x0] w R E := by kernel_rfl
theorem d9X {x0 : Value} (h : c7o x0 w R E) : Cv Tryd.prog 178 #[x0] w R E := by
 refine i2 (args := [x0]) (c := e7V) (h := e7W) (rs := [.tmp 2]) Tryd.func178 (by kernel_rfl) (by kernel_rfl) (nB (by kernel_rfl)) (by kernel_rfl) (by kernel_rfl) (by kernel_rfl) ?_
 rw [← d9W]
 exact h
def b9u (x4 x5 x35 x83 : Value) (w : World) (R : RT) (E : Pan) : Prop :=
 ∀ _τ : Fr, (xcond x83
 (oP E (gsem (asB x5) true (lA 227 x4)) w fun d9Y a3O =>
 oP E (gsem (asB x5) true (xV (Instr.build 227 #[(0, (vI 0)), (1, (vI 1))]))) a3O fun d9Z a5w =>
 oP E (gsem (asB x5) true (xBin .eql 227 (.tmp 88) (.tmp 89) d9Y d9Z)) a5w fun e0a a5x =>
 oP E (xPick x5 e0a (vB false)) a5x fun e0b a7o =>
 R e0b a7o)
 (oP E (xBin .eql 3 (.tmp 35) (.const (vI 7)) x35 (vI 7)) w fun e0c a6t =>
 xcond e0c
 (oP E (gsem (asB x5) true (lA 227 x4)) a6t fun e0d b1z =>
 oP E (gsem (asB x5) true (xV (Instr.build 227 #[]))) b1z fun e0e a9A =>
 oP E (gsem (asB x5) true (xBin .eql 227 (.tmp 96) (.tmp 97) e0d e0e)) a9A fun e0f b1A =>
 oP E (xPick x5 e0f (vB false)) b1A fun e0g b7H =>
 R e0g b7H)
 (R (vB false) a6t)))
def c7p (x0 : Value) (w : World) (R : RT) (E : Pan) : Prop :=
 oP E (xV (Instr.box 179 x0)) w fun u1 w_2 =>
 oP E (fA 179 u1 0) w_2 fun a3k w_4 =>
 oP E (fA 63 a3k 4) w_4 fun a7Z w_6 =>
 oP E (lA 42 a7Z) w_6 fun a2C w_8 =>
 oP E (xBuiltin .len #[42] 3 [false] [a2C]) w_8 fun a9Z m8 =>
 oP E (fA 179 u1 0) m8 fun b3q o4 =>
 oP E (fA 63 b3q 5) o4 fun a8c o2 =>
 oP E (lA 42 a8c) o2 fun c2E p5 =>
 oP E (xBuiltin .len #[42] 3 [false] [c2E]) p5 fun a5y q7 =>
 oP E (xBin .add 3 (.tmp 9) (.tmp 13) a9Z a5y) q7 fun e7X q9 =>
 oP E (xBin .gtr 3 (.tmp 14) (.const (vI 0)) e7X (vI 0)) q9 fun c2F t1 =>
 oP E (fA 179 u1 0) t1 fun e7Y u5 =>
 oP E (fA 63 e7Y 2) u5 fun c2G A7 =>
 oP E (lA 22 c2G) A7 fun c2H C3 =>
 oP E (xBuiltin .len #[22] 3 [false] [c2H]) C3 fun c2I D8 =>
 oP E (fA 179 u1 0) D8 fun c2J B9 =>
 oP E (fA 63 c2J 3) B9 fun b7I D2 =>
 oP E (lA 25 b7I) D2 fun c2K F7 =>
 oP E (xBuiltin .len #[25] 3 [false] [c2K]) F7 fun c2L D9 =>
 oP E (xV (Instr.build 227 #[(0, c2I), (1, c2L)])) D9 fun e7Z E1 =>
 oP E (xV (Instr.alloc 227 true (.tuple #[]))) E1 fun b4F G6 =>
 oP E (sA 227 b4F e7Z) G6 fun _z_43 G1 =>
 oP E (fA 179 u1 0) G1 fun e8a L5 =>
 oP E (fA 63 e8a 1) L5 fun e8b K4 =>
 oP E (lA 9 e8b) K4 fun e8c G5 =>
 oP E (xBin .eql 9 (.tmp 27) (.const (eS)) e8c (eS)) G5 fun b3m E3 =>
 oP E (gsem (asB b3m) true (xV (Op.unary .not (gval (asB b3m) true c2F)))) E3 fun e8d M3 =>
 oP E (xPick b3m e8d (vB false)) M3 fun e8e M4 =>
 oP E (fA 179 u1 0) M4 fun e8f M1 =>
 oP E (fA 63 e8f 0) M1 fun e8g O3 =>
 oP E (lA 3 e8g) O3 fun a8d M5 =>
 oP E (xBin .eql 3 (.tmp 35) (.const (vI 1)) a8d (vI 1)) M5 fun e8h N0 =>
 xcond e8h
 (oP E (xV (Op.unary .not c2F)) N0 fun b7J O4 =>
 oP E (gsem (asB b7J) true (lA 227 b4F)) O4 fun e8i O5 =>
 oP E (gsem (asB b7J) true (xV (Instr.build 227 #[(0, (vI 1)), (1, (vI 0))]))) O5 fun e8j L6 =>
 oP E (gsem (asB b7J) true (xBin .eql 227 (.tmp 41) (.tmp 42) e8i e8j)) L6 fun e8k P1 =>
 oP E (xPick b7J e8k (vB false)) P1 fun e8l Q3 =>
 R e8l Q3)
 (oP E (xBin .eql 3 (.tmp 35) (.const (vI 2)) a8d (vI 2)) N0 fun c2M R8 =>
 xcond c2M
 (oP E (xV (Op.unary .not c2F)) R8 fun b7K N4 =>
 oP E (gsem (asB b7K) true (lA 227 b4F)) N4 fun e8m S4 =>
 oP E (gsem (asB b7K) true (xV (Instr.build 227 #[(0, (vI 2)), (1, (vI 0))]))) S4 fun e8n Q6 =>
 oP E (gsem (asB b7K) true (xBin .eql 227 (.tmp 50) (.tmp 51) e8m e8n)) Q6 fun e8o P2 =>
 oP E (xPick b7K e8o (vB false)) P2 fun e8p S5 =>
 R e8p S5)
 (oP E (xBin .eql 3 (.tmp 35) (.const (vI 3)) a8d (vI 3)) R8 fun e8q N5 =>
 xcond e8q
 (oP E (fA 179 u1 0) N5 fun e8r W5 =>
 oP E (fA 63 e8r 1) W5 fun e8s a1g =>
 oP E (lA 9 e8s) a1g fun e8t a0K =>
 oP E (xBin .eql 9 (.tmp 58) (.const (eS)) e8t (eS)) a0K fun b7L a0q =>
 oP E (gsem (asB b7L) true (lA 227 b4F)) a0q fun e8u a0L =>
 oP E (gsem (asB b7L) true (xV (Instr.build 227 #[(0, (vI 0)), (1, (vI 1))]))) a0L fun e8v T5 =>
 oP E (gsem (asB b7L) true (xBin .eql 227 (.tmp 61) (.tmp 62) e8u e8v)) T5 fun e0h N7 =>
 oP E (xPick b7L e0h (vB false)) N7 fun e0i O8 =>
 R e0i O8)
 (oP E (xBin .eql 3 (.tmp 35) (.const (vI 4)) a8d (vI 4)) N5 fun e0j U8 =>
 xcond e0j
 (oP E (fA 179 u1 0) U8 fun e0k a1E =>
 oP E (fA 63 e0k 1) a1E fun e0l a3q =>
 oP E (lA 9 e0l) a3q fun e0m a1F =>
 oP E (xBin .eql 9 (.tmp 69) (.const (eS)) e0m (eS)) a1F fun a7D R9 =>
 oP E (gsem (asB a7D) true (fA 179 u1 0)) R9 fun e0n T6 =>
 oP E (gsem (asB a7D) true (fA 63 e0n 5)) T6 fun e0o a2A =>
 oP E (gsem (asB a7D) true (lA 42 e0o)) a2A fun e0p Q7 =>
 oP E (gsem (asB a7D) true (xBuiltin .len #[42] 3 [false] [e0p])) Q7 fun e0q a1Q =>
 oP E (gsem (asB a7D) true (xBin .eql 3 (.tmp 75) (.const (vI 0)) e0q (vI 0))) a1Q fun e0r a4y =>
 oP E (xPick a7D e0r (vB false)) a4y fun b4G a5z =>
 oP E (gsem (asB b4G) true (lA 227 b4F)) a5z fun e0s a4z =>
 oP E (gsem (asB b4G) true (xV (Instr.build 227 #[(0, (vI 0)), (1, (vI 1))]))) a4z fun e0t a4A =>
 oP E (gsem (asB b4G) true (xBin .eql 227 (.tmp 79) (.tmp 80) e0s e0t)) a4A fun e0u a2D =>
 oP E (xPick b4G e0u (vB false)) a2D fun e0v a2E =>
 R e0v a2E)
 (xcut (fun f8A b7M => b9u b4F e8e a8d (nth f8A 0) b7M R E) fun j1 =>
 oP E (xBin .eql 3 (.tmp 35) (.const (vI 5)) a8d (vI 5)) U8 fun c5Y b4H =>
 xcond c5Y
 (j1 [c5Y] b4H)
 (oP E (xBin .eql 3 (.tmp 35) (.const (vI 6)) a8d (vI 6)) b4H fun e0w b7N =>
 j1 [e0w] b7N)))))
noncomputable def e8w : Code := Tryd.f179.body.getD .skip
def e8x : Hint := (sQ (sQ (sQ (sQ (.seq (sQ (.block (sQ (.cond (sQ .none) (sQ (.cond (sQ .none) (sQ (.cond (sQ .none) (sQ (.cond (sQ .none) (.cut [83] (sQ (.cond .none .none)) (.cond (sQ .none) (sQ (.cond (sQ .none) .none)))))))))))))) (sQ .none))))))
theorem e0x (x0 : Value) (w : World) (R : RT) (E : Pan) : c7p x0 w R E = callX Tryd.prog [.tmp 2] e8w e8x [x0] w R E := by kernel_rfl
theorem e0y {x0 : Value} (h : c7p x0 w R E) : Cv Tryd.prog 179 #[x0] w R E := by
 refine i2 (args := [x0]) (c := e8w) (h := e8x) (rs := [.tmp 2]) Tryd.func179 (by kernel_rfl) (by kernel_rfl) (nB (by kernel_rfl)) (by kernel_rfl) (by kernel_rfl) (by kernel_rfl) ?_
 rw [← e0x]
 exact h
def c7q (x0 : Value) (w : World) (R : RT) (E : Pan) : Prop :=
 oP E (xV (Instr.box 179 x0)) w fun u1 w_2 =>
 dX w_2 fun w_3 =>
 qP Tryd.prog (fA 179 u1 0) fun b8X =>
 qP Tryd.prog (fA 63 b8X 3) fun a1M =>
 qP Tryd.prog (fA 179 u1 0) fun d3a =>
 qP Tryd.prog (fA 63 d3a 2) fun a2C =>
 qP Tryd.prog (fA 179 u1 0) fun f8B =>
 qP Tryd.prog (fA 63 f8B 4) fun b4I =>
 qP Tryd.prog (fA 179 u1 0) fun e8y =>
 qP Tryd.prog (fA 63 e8y 5) fun a5u =>
 qL Tryd.prog w_3 (blk a1M) (lA 25 a1M) fun f8C =>
 qL Tryd.prog w_3 (blk a2C) (lA 22 a2C) fun b1y =>
 qL Tryd.prog w_3 (blk b4I) (lA 42 b4I) fun e8z =>
 qL Tryd.prog w_3 (blk a5u) (lA 42 a5u) fun a2l =>
 oP E (xCall (fC 175) [f8C, (fC 176)]) w_3 fun f8D a2k =>
 keepX [(blk a5u), (blk b4I), (blk a2C)] w_3 a2k (opK Tryd.prog E (xCall (fC 171) [b1y, (fC 172)]) a2k fun e8A a2z =>
 keepX [(blk a5u), (blk b4I)] a2k a2z (opK Tryd.prog E (xCall (fC 90) [e8z, (fC 91)]) a2z fun e8B a1N =>
 keepX [(blk a5u)] a2z a1N (opK Tryd.prog E (xCall (fC 90) [a2l, (fC 91)]) a1N fun e8C a3l =>
 keepX [] a1N a3l (opK Tryd.prog E (xV (Instr.buildSlice 174 4 #[(0, f8D), (1, e8A), (2, e8B), (3, e8C)])) a3l fun e8D b1t =>
 keepX [] a3l b1t (opK Tryd.prog E (xCall (fC 87) [e8D]) b1t fun e8E a3j =>
 keepX [] b1t a3j (R e8E a3j))))))
noncomputable def e8F : Code := Tryd.f180.body.getD .skip
def e8G : Hint := (sQ (.seq (.reg [(0, 8, 2), (1, 16, 8), (2, 32, 16), (4, 64, 32), (0, 128, 2), (16, 256, 128), (32, 512, 256), (72, 1024, 512), (0, 2048, 2), (256, 4096, 2048), (512, 8192, 4096), (1152, 16384, 8192), (0, 32768, 2), (4096, 65536, 32768), (8192, 131072, 65536), (18432, 262144, 131072), (34952, 524288, 279616), (98304, 1048576, 524288), (262143, 4, 1048576)] [17476, 17476, 17472, 17472, 17476, 17476, 17412, 17408, 17476, 17476, 16452, 16384, 17476, 17476, 1092, 0, 0, 0, 17476] (.early 0 (.early 1 (.early 4 (.early 5 (.early 8 (.early 9 (.early 12 (.early 13 (.load 2 (.load 6 (.load 10 (.load 14 (.step 3 (.step 7 (.step 11 (.step 15 (.step 16 (.step 17 (.early 18 .done)))))))))))))))))))) .none))
theorem e0z (x0 : Value) (w : World) (R : RT) (E : Pan) : c7q x0 w R E = callX Tryd.prog [.tmp 2] e8F e8G [x0] w R E := by kernel_rfl
theorem e0A {x0 : Value} (h : c7q x0 w R E) : Cv Tryd.prog 180 #[x0] w R E := by
 refine i2 (args := [x0]) (c := e8F) (h := e8G) (rs := [.tmp 2]) Tryd.func180 (by kernel_rfl) (by kernel_rfl) (nB (by kernel_rfl)) (by kernel_rfl) (by kernel_rfl) (by kernel_rfl) ?_
 rw [← e0z]
 exact h
end Go.Proofs.YtnhkdkcgdcgmdaaDoor
