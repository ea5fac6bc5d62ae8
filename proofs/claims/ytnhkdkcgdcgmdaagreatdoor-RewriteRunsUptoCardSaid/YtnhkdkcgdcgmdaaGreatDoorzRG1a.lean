/- The second reading of some of the program's functions, printed by gen2.py off the code; each is held against the code by the kernel. -/
import Derived.Test.YtnhkdkcgdcgmdaaGreatDoorProg
import Derived.Test.YtnhkdkcgdcgmdaaGreatDoorzRK0
import Derived.KernelRfl
import Derived.Test.YtnhkdkcgdcgmdaaGreatDoorzRGz
namespace Go.Proofs.YtnhkdkcgdcgmdaaGreatDoor
open Go.RowKit
set_option maxRecDepth 100000
variable {w : World} {R : RT} {E : Pan}
def f7S (w : World) (R : RT) (_E : Pan) : Prop :=
 ∀ _τ : Fr, (R (vB true) w)
def f7T (x2 x3 x5 : Value) (w : World) (next2 : NT) (j1 : NT) (R : RT) (E : Pan) : Prop :=
 oP E (fA 25 x2 0) w fun c9M K6 =>
 oP E (lA 22 c9M) K6 fun c9N N7 =>
 oP E (xBuiltin .len #[22] 3 [false] [c9N]) N7 fun b3r O3 =>
 oP E (xBin .lss 3 (.tmp 31) (.tmp 34) x5 b3r) O3 fun f7U M8 =>
 xcond f7U
 (dX M8 fun a9h =>
 qP Tryz.prog (fA 25 x2 0) fun e1v =>
 qP Tryz.prog (fA 25 x3 0) fun e1w =>
 qL Tryz.prog a9h (blk e1v) (lA 22 e1v) fun f7V =>
 qP Tryz.prog (iA 22 f7V x5) fun e1x =>
 qL Tryz.prog a9h (blk e1x) (lA 71 e1x) fun f7W =>
 qL Tryz.prog a9h (blk e1w) (lA 22 e1w) fun f7X =>
 qP Tryz.prog (iA 22 f7X x5) fun e1y =>
 qL Tryz.prog a9h (blk e1y) (lA 71 e1y) fun c9O =>
 qP Tryz.prog (xBin .neq 71 (.tmp 42) (.tmp 47) f7W c9O) fun f7Y =>
 xcond f7Y
 (R (vB false) a9h)
 (oP E (xBin .add 3 (.tmp 36) (.const (vI 1)) x5 (vI 1)) a9h fun c9P Q3 =>
 next2 [c9P] Q3))
 (j1 [] M8)
def F11 (x0 x1 : Value) (w : World) (R : RT) (E : Pan) : Prop :=
 oP E (xV (Instr.box 25 x0)) w fun T1 w_2 =>
 oP E (xV (Instr.box 25 x1)) w_2 fun Y5 w_4 =>
 oP E (lA 25 T1) w_4 fun a8B w_6 =>
 oP E (xCall (fC 29) [a8B]) w_6 fun a5s w_8 =>
 oP E (xV (Op.unary .not a5s)) w_8 fun a5t q7 =>
 oP E (gsem (asB a5t) false (lA 25 Y5)) q7 fun a8I q9 =>
 oP E (gsem (asB a5t) false (xCall (fC 29) [a8I])) q9 fun a4d p9 =>
 oP E (gsem (asB a5t) false (xV (Op.unary .not a4d))) p9 fun a9Y s6 =>
 oP E (xPick a5t (vB true) a9Y) s6 fun T9 u5 =>
 oP E (gsem (asB T9) false (fA 25 T1 0)) u5 fun a0D u9 =>
 oP E (gsem (asB T9) false (lA 22 a0D)) u9 fun a0Y y6 =>
 oP E (gsem (asB T9) false (xBuiltin .len #[22] 3 [false] [a0Y])) y6 fun a7C z6 =>
 oP E (gsem (asB T9) false (fA 25 Y5 0)) z6 fun a1M A6 =>
 oP E (gsem (asB T9) false (lA 22 a1M)) A6 fun a7D D8 =>
 oP E (gsem (asB T9) false (xBuiltin .len #[22] 3 [false] [a7D])) D8 fun b9l K1 =>
 oP E (gsem (asB T9) false (xBin .neq 3 (.tmp 17) (.tmp 20) a7C b9l)) K1 fun a8J B7 =>
 oP E (xPick T9 (vB true) a8J) B7 fun a6a B3 =>
 oP E (gsem (asB a6a) false (fA 25 T1 1)) B3 fun b3s J0 =>
 oP E (gsem (asB a6a) false (lA 23 b3s)) J0 fun a0s I0 =>
 oP E (gsem (asB a6a) false (fA 25 Y5 1)) I0 fun c9Q G3 =>
 oP E (gsem (asB a6a) false (lA 23 c9Q)) G3 fun b3t G6 =>
 oP E (gsem (asB a6a) false (xCall (fC 30) [a0s, b3t])) G6 fun f7Z G4 =>
 oP E (gsem (asB a6a) false (xV (Op.unary .not f7Z))) G4 fun f8a O4 =>
 oP E (xPick a6a (vB true) f8a) O4 fun f8b N8 =>
 xcond f8b
 (R (vB false) N8)
 (xcut (fun _ M9 => f7S M9 R E) fun j1 =>
 xloop [5] [(vI 0)] N8 fun τ_71 W6 next2 =>
 f7T T1 Y5 (τ_71 5) W6 next2 j1 R E)
def F24 (x0 : Value) (w : World) (R : RT) (E : Pan) : Prop :=
 oP E (xV (Instr.box 25 x0)) w fun r5 w_2 =>
 oP E (lA 25 r5) w_2 fun Y5 w_4 =>
 oP E (xCall (fC 43) [Y5]) w_4 fun a3S w_6 =>
 oP E (xNil a3S) w_6 fun a6A w_8 =>
 oP E (fA 101 a6A 2) w_8 fun a9i q7 =>
 oP E (lA 27 a9i) q7 fun U6 q9 =>
 R U6 q9
noncomputable def c24 : Code := Tryz.f24.body.getD .skip
def h24 : Hint := (sQ (sQ .none))
theorem f8c (x0 : Value) (w : World) (R : RT) (E : Pan) : F24 x0 w R E = callX Tryz.prog [.tmp 2] c24 h24 [x0] w R E := by kernel_rfl
theorem f8d {x0 : Value} (h : F24 x0 w R E) : Cv Tryz.prog 24 #[x0] w R E := by
 refine i6 (args := [x0]) (c := c24) (h := h24) (rs := [.tmp 2]) Tryz.func24 (by kernel_rfl) (by kernel_rfl) (nB (by kernel_rfl)) (by kernel_rfl) (by kernel_rfl) (by kernel_rfl) ?_
 rw [← f8c]
 exact h
def F39 (x0 : Value) (w : World) (R : RT) (E : Pan) : Prop :=
 oP E (xV (Instr.box 53 x0)) w fun r5 w_2 =>
 oP E (lA 53 r5) w_2 fun Y5 w_4 =>
 oP E (xV (Instr.build 136 #[(0, Y5)])) w_4 fun a3S w_6 =>
 oP E (xV (Instr.makeInterface 136 a3S)) w_6 fun a6A w_8 =>
 oP E (xV (Instr.buildSlice 137 1 #[(0, a6A)])) w_8 fun a9i q7 =>
 oP E (xCall (fC 65) [a9i]) q7 fun U6 q9 =>
 oP E (xNil U6) q9 fun b7v p9 =>
 oP E (fA 101 b7v 2) p9 fun d7e s6 =>
 oP E (lA 27 d7e) s6 fun b3u u5 =>
 R b3u u5
noncomputable def c39 : Code := Tryz.f39.body.getD .skip
def h39 : Hint := (sQ (sQ .none))
theorem f8e (x0 : Value) (w : World) (R : RT) (E : Pan) : F39 x0 w R E = callX Tryz.prog [.tmp 2] c39 h39 [x0] w R E := by kernel_rfl
theorem f8f {x0 : Value} (h : F39 x0 w R E) : Cv Tryz.prog 39 #[x0] w R E := by
 refine i6 (args := [x0]) (c := c39) (h := h39) (rs := [.tmp 2]) Tryz.func39 (by kernel_rfl) (by kernel_rfl) (nB (by kernel_rfl)) (by kernel_rfl) (by kernel_rfl) (by kernel_rfl) ?_
 rw [← f8e]
 exact h
def F43 (x0 : Value) (w : World) (R : RT) (E : Pan) : Prop :=
 oP E (xV (Instr.box 25 x0)) w fun r5 w_2 =>
 dX w_2 fun w_3 =>
 qP Tryz.prog (fA 25 r5 0) fun c6r =>
 qP Tryz.prog (fA 25 r5 1) fun a8B =>
 qL Tryz.prog w_3 (blk c6r) (lA 22 c6r) fun h8u =>
 qL Tryz.prog w_3 (blk a8B) (lA 23 a8B) fun a5s =>
 oP E (xCall (fC 76) [h8u, (fC 77)]) w_3 fun c9R w_9 =>
 keepX [(blk a8B)] w_3 w_9 (opK Tryz.prog E (xCall (fC 78) [a5s, (fC 79)]) w_9 fun h4s R1 =>
 keepX [] w_9 R1 (opK Tryz.prog E (xV (Instr.buildSlice 179 2 #[(0, c9R), (1, h4s)])) R1 fun c4n a0e =>
 keepX [] R1 a0e (opK Tryz.prog E (xCall (fC 75) [c4n]) a0e fun f8g c2A =>
 keepX [] a0e c2A (opK Tryz.prog E (xCall (fC 65) [f8g]) c2A fun b3v X8 =>
 keepX [] c2A X8 (R b3v X8)))))
noncomputable def c43 : Code := Tryz.f43.body.getD .skip
def h43 : Hint := (sQ (.seq (.reg [(0, 8, 2), (1, 16, 8), (2, 32, 16), (0, 64, 2), (8, 128, 64), (20, 256, 128), (36, 512, 288), (96, 1024, 512), (128, 2048, 1024), (511, 4, 2048)] [18, 16, 16, 18, 2, 0, 0, 0, 0, 18] (.early 0 (.early 3 (.load 1 (.load 4 (.step 2 (.step 5 (.step 6 (.step 7 (.step 8 (.early 9 .done))))))))))) .none))
theorem f8h (x0 : Value) (w : World) (R : RT) (E : Pan) : F43 x0 w R E = callX Tryz.prog [.tmp 2] c43 h43 [x0] w R E := by kernel_rfl
theorem f8i {x0 : Value} (h : F43 x0 w R E) : Cv Tryz.prog 43 #[x0] w R E := by
 refine i6 (args := [x0]) (c := c43) (h := h43) (rs := [.tmp 2]) Tryz.func43 (by kernel_rfl) (by kernel_rfl) (nB (by kernel_rfl)) (by kernel_rfl) (by kernel_rfl) (by kernel_rfl) ?_
 rw [← f8h]
 exact h
def c9S (x3 : Value) (w : World) (R : RT) (E : Pan) : Prop :=
 ∀ _τ : Fr, (oP E (lA 102 x3) w fun b1K s6 =>
 R b1K s6)
def F65 (x0 : Value) (w : World) (R : RT) (E : Pan) : Prop :=
 oP E (xV (Instr.build 101 #[])) w fun b9m w_2 =>
 oP E (xV (Instr.box 101 b9m)) w_2 fun a9j w_4 =>
 oP E (xV (Instr.alloc 102 true (.tuple #[]))) w_4 fun b7w w_6 =>
 oP E (sA 102 b7w a9j) w_6 fun _z_7 w_8 =>
 oP E (xV (Instr.alloc 170 true (.tuple #[]))) w_8 fun e5f q7 =>
 oP E (xV (Instr.makeFunc (.func 110) #[] #[b7w, e5f])) q7 fun c4o q9 =>
 oP E (sA 170 e5f c4o) q9 fun _z_13 p9 =>
 xcut (fun _ u5 => c9S b7w u5 R E) fun j1 =>
 oP E (lA 170 e5f) p9 fun h4t u9 =>
 oP E (xCall h4t [x0, (vI 1)]) u9 fun c4p y6 =>
 oP E (xV (Op.unary .not c4p)) y6 fun c9T z6 =>
 xcond c9T
 (j1 [] z6)
 (oP E (lA 102 b7w) z6 fun f8j A6 =>
 oP E (xNil f8j) A6 fun c9U D8 =>
 oP E (fA 101 c9U 3) D8 fun c4q K1 =>
 oP E (lA 4 c4q) K1 fun c9V B7 =>
 xcond c9V
 (oP E (lA 102 b7w) B7 fun b9n B3 =>
 oP E (xNil b9n) B3 fun f8k J0 =>
 oP E (fA 101 f8k 2) J0 fun f8l I0 =>
 oP E (sA 27 f8l (vI 30)) I0 fun _z_39 G3 =>
 j1 [] G3)
 (oP E (lA 102 b7w) B7 fun f8m G6 =>
 oP E (xNil f8m) G6 fun b9o G4 =>
 oP E (fA 101 b9o 4) G4 fun f8n O4 =>
 oP E (lA 4 f8n) O4 fun f8o N8 =>
 xcond f8o
 (oP E (lA 102 b7w) N8 fun f8p M9 =>
 oP E (xNil f8p) M9 fun f8q K6 =>
 oP E (fA 101 f8q 2) K6 fun f8r N7 =>
 oP E (sA 27 f8r (vI 31)) N7 fun _z_55 O3 =>
 j1 [] O3)
 (j1 [] N8)))
noncomputable def c65 : Code := Tryz.f65.body.getD .skip
def h65 : Hint := (sQ (sQ (sQ (sQ (.cut [] (sQ (.block (sQ (.cond .none (sQ (.cond .none (sQ (.cond .none .none)))))))) (sQ .none))))))
theorem f8s (x0 : Value) (w : World) (R : RT) (E : Pan) : F65 x0 w R E = callX Tryz.prog [.tmp 2] c65 h65 [x0] w R E := by kernel_rfl
theorem f8t {x0 : Value} (h : F65 x0 w R E) : Cv Tryz.prog 65 #[x0] w R E := by
 refine i6 (args := [x0]) (c := c65) (h := h65) (rs := [.tmp 2]) Tryz.func65 (by kernel_rfl) (by kernel_rfl) (nB (by kernel_rfl)) (by kernel_rfl) (by kernel_rfl) (by kernel_rfl) ?_
 rw [← f8s]
 exact h
def c9W (x6 : Value) (w : World) (R : RT) (_E : Pan) : Prop :=
 ∀ _τ : Fr, (R x6 w)
def e1z (x6 x25 x26 x27 : Value) (w : World) (next3 : NT) (j2 : NT) (_R : RT) (E : Pan) : Prop :=
 oP E (xBin .lss 3 (.tmp 27) (.tmp 26) x27 x26) w fun h4u w_8 =>
 xcond h4u
 (oP E (iA 179 x25 x27) w_8 fun h4v q7 =>
 oP E (lA 137 h4v) q7 fun f8u q9 =>
 oP E (xBuiltin .append #[137, 137] 137 [false, false] [x6, f8u]) q9 fun c4r p9 =>
 oP E (xBin .add 3 (.tmp 27) (.const (vI 1)) x27 (vI 1)) p9 fun f8v s6 =>
 next3 [c4r, f8v] s6)
 (j2 [x6] w_8)
def c9X (x0 x3 : Value) (w : World) (R : RT) (E : Pan) : Prop :=
 ∀ _τ : Fr, (oP E (xCall (fC 119) [(nS), x3]) w fun h4w w_2 =>
 xcut (fun l_3 w_4 => c9W (nth l_3 0) w_4 R E) fun j2 =>
 oP E (xBuiltin .len #[179] 3 [false] [x0]) w_2 fun h4x w_6 =>
 xloop [6, 27] [h4w, (vI 0)] w_6 fun τ_17 u5 next3 =>
 e1z (τ_17 6) x0 h4x (τ_17 27) u5 next3 j2 R E)
def c9Y (_x0 x3 _x9 _x10 x11 : Value) (w : World) (next4 : NT) (_R : RT) (E : Pan) : Prop :=
 ∀ _τ : Fr, (oP E (xBin .add 3 (.tmp 11) (.const (vI 1)) x11 (vI 1)) w fun b1L A6 =>
 next4 [x3, b1L] A6)
def e1A (x0 x3 x9 x10 x11 : Value) (w : World) (next4 : NT) (j1 : NT) (R : RT) (E : Pan) : Prop :=
 oP E (xBin .lss 3 (.tmp 11) (.tmp 10) x11 x10) w fun c9Z z6 =>
 xcond c9Z
 (xcut (fun e5g D8 => c9Y x0 (nth e5g 0) x9 x10 x11 D8 next4 R E) fun j5 =>
 oP E (iA 179 x9 x11) z6 fun f8w K1 =>
 oP E (lA 137 f8w) K1 fun f8x B7 =>
 oP E (xBuiltin .len #[137] 3 [false] [f8x]) B7 fun d0a B3 =>
 oP E (xBin .add 3 (.tmp 15) (.tmp 17) x3 d0a) B3 fun b9p J0 =>
 oP E (xBin .lss 3 (.tmp 19) (.const (vI 0)) b9p (vI 0)) J0 fun f8y I0 =>
 xcond f8y
 (oP E (xV (Instr.makeInterface 9 (Value.string ⟨#[108, 101, 110, 32, 111, 117, 116, 32, 111, 102, 32, 114, 97, 110, 103, 101]⟩))) I0 fun f8z G3 =>
 oP E (xV (Instr.panic f8z)) G3 fun _z_41 G6 =>
 j5 [b9p] G6)
 (j5 [b9p] I0))
 (j1 [x3] z6)
def F75 (x0 : Value) (w : World) (R : RT) (E : Pan) : Prop :=
 xcut (fun a6b u9 => c9X x0 (nth a6b 0) u9 R E) fun j1 =>
 oP E (xBuiltin .len #[179] 3 [false] [x0]) w fun f8A y6 =>
 xloop [3, 11] [(vI 0), (vI 0)] y6 fun τ_43 G4 next4 =>
 e1A x0 (τ_43 3) x0 f8A (τ_43 11) G4 next4 j1 R E
noncomputable def c75 : Code := Tryz.f75.body.getD .skip
def h75 : Hint := (sQ (sQ (.cut [3] (sQ (.block (.loop [3, 11] (sQ (.seq (.cond .none .none) (.cut [3] (.block (sQ (sQ (sQ (.cond .none .none))))) .none)))))) (sQ (.cut [6] (sQ (.block (.loop [6, 27] (sQ (.seq (.cond .none .none) (.seq (.block (sQ .none)) .none)))))) (sQ .none))))))
theorem f8B (x0 : Value) (w : World) (R : RT) (E : Pan) : F75 x0 w R E = callX Tryz.prog [.tmp 2] c75 h75 [x0] w R E := by kernel_rfl
theorem f8C {x0 : Value} (h : F75 x0 w R E) : Cv Tryz.prog 75 #[x0] w R E := by
 refine i6 (args := [x0]) (c := c75) (h := h75) (rs := [.tmp 2]) Tryz.func75 (by kernel_rfl) (by kernel_rfl) (nB (by kernel_rfl)) (by kernel_rfl) (by kernel_rfl) (by kernel_rfl) ?_
 rw [← f8B]
 exact h
def d0b (x5 : Value) (w : World) (R : RT) (_E : Pan) : Prop :=
 ∀ _τ : Fr, (R x5 w)
def e1B (x1 x5 x8 x9 x10 : Value) (w : World) (next2 : NT) (j1 : NT) (_R : RT) (E : Pan) : Prop :=
 oP E (xBin .lss 3 (.tmp 10) (.tmp 9) x10 x9) w fun a5e w_6 =>
 xcond a5e
 (oP E (iA 22 x8 x10) w_6 fun a3k w_8 =>
 oP E (lA 71 a3k) w_8 fun a3l q7 =>
 oP E (xV (Instr.alloc 71 true (.tuple #[]))) q7 fun U6 q9 =>
 oP E (sA 71 U6 a3l) q9 fun _z_13 p9 =>
 oP E (lA 71 U6) p9 fun a3C s6 =>
 oP E (xCall x1 [a3C]) s6 fun a1N u5 =>
 oP E (xV (Instr.buildSlice 137 1 #[(0, a1N)])) u5 fun a1O u9 =>
 oP E (xBuiltin .append #[137, 137] 137 [false, false] [x5, a1O]) u9 fun a1P y6 =>
 oP E (xBin .add 3 (.tmp 10) (.const (vI 1)) x10 (vI 1)) y6 fun a1Q z6 =>
 next2 [a1P, a1Q] z6)
 (j1 [x5] w_6)
def F76 (x0 x1 : Value) (w : World) (R : RT) (E : Pan) : Prop :=
 xcut (fun l_1 w_2 => d0b (nth l_1 0) w_2 R E) fun j1 =>
 oP E (xBuiltin .len #[22] 3 [false] [x0]) w fun a0Q w_4 =>
 xloop [5, 10] [(nS), (vI 0)] w_4 fun τ_25 A6 next2 =>
 e1B x1 (τ_25 5) x0 a0Q (τ_25 10) A6 next2 j1 R E
noncomputable def c76 : Code := Tryz.f76.body.getD .skip
def h76 : Hint := (sQ (sQ (.cut [5] (sQ (.block (.loop [5, 10] (sQ (.seq (.cond .none .none) (.seq (.block (sQ .none)) .none)))))) (sQ .none))))
theorem f8D (x0 x1 : Value) (w : World) (R : RT) (E : Pan) : F76 x0 x1 w R E = callX Tryz.prog [.tmp 4] c76 h76 [x0, x1] w R E := by kernel_rfl
theorem f8E {x0 x1 : Value} (h : F76 x0 x1 w R E) : Cv Tryz.prog 76 #[x0, x1] w R E := by
 refine i6 (args := [x0, x1]) (c := c76) (h := h76) (rs := [.tmp 4]) Tryz.func76 (by kernel_rfl) (by kernel_rfl) (nB (by kernel_rfl)) (by kernel_rfl) (by kernel_rfl) (by kernel_rfl) ?_
 rw [← f8D]
 exact h
def F77 (x0 : Value) (w : World) (R : RT) (E : Pan) : Prop :=
 oP E (xV (Instr.box 71 x0)) w fun r5 w_2 =>
 oP E (lA 71 r5) w_2 fun Y5 w_4 =>
 oP E (xV (Instr.build 182 #[(0, Y5)])) w_4 fun a3S w_6 =>
 oP E (xV (Instr.makeInterface 182 a3S)) w_6 fun a6A w_8 =>
 R a6A w_8
noncomputable def c77 : Code := Tryz.f77.body.getD .skip
def h77 : Hint := (sQ (sQ .none))
theorem f8F (x0 : Value) (w : World) (R : RT) (E : Pan) : F77 x0 w R E = callX Tryz.prog [.tmp 2] c77 h77 [x0] w R E := by kernel_rfl
theorem f8G {x0 : Value} (h : F77 x0 w R E) : Cv Tryz.prog 77 #[x0] w R E := by
 refine i6 (args := [x0]) (c := c77) (h := h77) (rs := [.tmp 2]) Tryz.func77 (by kernel_rfl) (by kernel_rfl) (nB (by kernel_rfl)) (by kernel_rfl) (by kernel_rfl) (by kernel_rfl) ?_
 rw [← f8F]
 exact h
def d0c (x5 : Value) (w : World) (R : RT) (_E : Pan) : Prop :=
 ∀ _τ : Fr, (R x5 w)
def e1C (x1 x5 x8 x9 x10 : Value) (w : World) (next2 : NT) (j1 : NT) (_R : RT) (E : Pan) : Prop :=
 oP E (xBin .lss 3 (.tmp 10) (.tmp 9) x10 x9) w fun a5e w_6 =>
 xcond a5e
 (oP E (iA 23 x8 x10) w_6 fun a3k w_8 =>
 oP E (lA 73 a3k) w_8 fun a3l q7 =>
 oP E (xV (Instr.alloc 73 true (.tuple #[]))) q7 fun U6 q9 =>
 oP E (sA 73 U6 a3l) q9 fun _z_13 p9 =>
 oP E (lA 73 U6) p9 fun a3C s6 =>
 oP E (xCall x1 [a3C]) s6 fun a1N u5 =>
 oP E (xV (Instr.buildSlice 137 1 #[(0, a1N)])) u5 fun a1O u9 =>
 oP E (xBuiltin .append #[137, 137] 137 [false, false] [x5, a1O]) u9 fun a1P y6 =>
 oP E (xBin .add 3 (.tmp 10) (.const (vI 1)) x10 (vI 1)) y6 fun a1Q z6 =>
 next2 [a1P, a1Q] z6)
 (j1 [x5] w_6)
def F78 (x0 x1 : Value) (w : World) (R : RT) (E : Pan) : Prop :=
 xcut (fun l_1 w_2 => d0c (nth l_1 0) w_2 R E) fun j1 =>
 oP E (xBuiltin .len #[23] 3 [false] [x0]) w fun a0Q w_4 =>
 xloop [5, 10] [(nS), (vI 0)] w_4 fun τ_25 A6 next2 =>
 e1C x1 (τ_25 5) x0 a0Q (τ_25 10) A6 next2 j1 R E
noncomputable def c78 : Code := Tryz.f78.body.getD .skip
def h78 : Hint := (sQ (sQ (.cut [5] (sQ (.block (.loop [5, 10] (sQ (.seq (.cond .none .none) (.seq (.block (sQ .none)) .none)))))) (sQ .none))))
theorem f8H (x0 x1 : Value) (w : World) (R : RT) (E : Pan) : F78 x0 x1 w R E = callX Tryz.prog [.tmp 4] c78 h78 [x0, x1] w R E := by kernel_rfl
theorem f8I {x0 x1 : Value} (h : F78 x0 x1 w R E) : Cv Tryz.prog 78 #[x0, x1] w R E := by
 refine i6 (args := [x0, x1]) (c := c78) (h := h78) (rs := [.tmp 4]) Tryz.func78 (by kernel_rfl) (by kernel_rfl) (nB (by kernel_rfl)) (by kernel_rfl) (by kernel_rfl) (by kernel_rfl) ?_
 rw [← f8H]
 exact h
def F79 (x0 : Value) (w : World) (R : RT) (E : Pan) : Prop :=
 oP E (xV (Instr.box 73 x0)) w fun r5 w_2 =>
 oP E (lA 73 r5) w_2 fun Y5 w_4 =>
 oP E (xV (Instr.build 184 #[(0, Y5)])) w_4 fun a3S w_6 =>
 oP E (xV (Instr.makeInterface 184 a3S)) w_6 fun a6A w_8 =>
 R a6A w_8
noncomputable def c79 : Code := Tryz.f79.body.getD .skip
def h79 : Hint := (sQ (sQ .none))
theorem f8J (x0 : Value) (w : World) (R : RT) (E : Pan) : F79 x0 w R E = callX Tryz.prog [.tmp 2] c79 h79 [x0] w R E := by kernel_rfl
theorem f8K {x0 : Value} (h : F79 x0 w R E) : Cv Tryz.prog 79 #[x0] w R E := by
 refine i6 (args := [x0]) (c := c79) (h := h79) (rs := [.tmp 2]) Tryz.func79 (by kernel_rfl) (by kernel_rfl) (nB (by kernel_rfl)) (by kernel_rfl) (by kernel_rfl) (by kernel_rfl) ?_
 rw [← f8J]
 exact h
def c6s (w : World) (R : RT) (_E : Pan) : Prop :=
 ∀ _τ : Fr, (R (vB true) w)
def d5N (x1 x2 x3 x9 x10 x11 : Value) (w : World) (next2 : NT) (j1 : NT) (R : RT) (E : Pan) : Prop :=
 oP E (xBin .lss 3 (.tmp 11) (.tmp 10) x11 x10) w fun a9Z w_6 =>
 xcond a9Z
 (oP E (iA 137 x9 x11) w_6 fun b0a w_8 =>
 oP E (lA 150 b0a) w_8 fun a5I q7 =>
 dX q7 fun R1 =>
 qL Tryz.prog R1 (blk x2) (lA 102 x2) fun f8L =>
 oP E (xCall (fC 111) [f8L, a5I, x1]) R1 fun b9q p9 =>
 keepX [] R1 p9 (qP Tryz.prog (xV (Op.unary .not b9q)) fun a8K =>
 qP Tryz.prog (gsem (asB a8K) false (xBin .add 3 (.tmp 24) (.const (vI 1)) (gval (asB a8K) false x1) (vI 1))) fun f8M =>
 qL Tryz.prog p9 (blk x3) (gsem (asB a8K) false (lA 170 x3)) fun b6r =>
 oP E (gsem (asB a8K) false (xInvoke (gval (asB a8K) false a5I) "gnomon/tree.parts" [])) p9 fun f8N Y6 =>
 keepX [(blk x3)] p9 Y6 (opK Tryz.prog E (gsem (asB a8K) false (xCall b6r [f8N, f8M])) Y6 fun f8O a0f =>
 keepX [] Y6 a0f (qP Tryz.prog (gsem (asB a8K) false (xV (Op.unary .not f8O))) fun f8P =>
 qP Tryz.prog (xPick a8K (vB true) f8P) fun d0d =>
 xcond d0d
 (R (vB false) a0f)
 (oP E (xBin .add 3 (.tmp 11) (.const (vI 1)) x11 (vI 1)) a0f fun f8Q a7l =>
 next2 [f8Q] a7l)))))
 (j1 [] w_6)
def d7f (x0 x1 x2 x3 : Value) (w : World) (R : RT) (E : Pan) : Prop :=
 xcut (fun _ w_2 => c6s w_2 R E) fun j1 =>
 oP E (xBuiltin .len #[137] 3 [false] [x0]) w fun b7x w_4 =>
 xloop [11] [(vI 0)] w_4 fun τ_26 Z6 next2 =>
 d5N x1 x2 x3 x0 b7x (τ_26 11) Z6 next2 j1 R E
noncomputable def f8R : Code := Tryz.f110.body.getD .skip
def f8S : Hint := (sQ (.cut [] (sQ (.block (.loop [11] (sQ (.seq (.cond .none .none) (.seq (.block (sQ (.seq (.reg [(0, 32768, 4), (0, 65536, 256), (0, 131072, 2), (7, 262144, 229376), (8, 524288, 262144), (24, 1048576, 524288), (32, 2097152, 1048584), (32, 4194304, 1048832), (160, 8388608, 5242880), (32, 16777216, 1048578), (544, 33554432, 17825792), (1376, 67108864, 45088768), (2080, 134217728, 68157440), (4128, 268435456, 135266304)] [64, 65, 65, 0, 65, 65, 1, 65, 64, 65, 65, 0, 65, 65] (.early 1 (.early 2 (.load 0 (.step 3 (.early 4 (.early 5 (.early 7 (.early 9 (.early 10 (.load 6 (.step 8 (.step 11 (.early 12 (.early 13 .done))))))))))))))) (.cond (sQ .none) .none)))) .none)))))) (sQ .none)))
theorem f1i (x0 x1 x2 x3 : Value) (w : World) (R : RT) (E : Pan) : d7f x0 x1 x2 x3 w R E = callX Tryz.prog [.tmp 6] f8R f8S [x0, x1, x2, x3] w R E := by kernel_rfl
theorem f1j {x0 x1 x2 x3 : Value} (h : d7f x0 x1 x2 x3 w R E) : Cv Tryz.prog 110 #[x0, x1, x2, x3] w R E := by
 refine i6 (args := [x0, x1, x2, x3]) (c := f8R) (h := f8S) (rs := [.tmp 6]) Tryz.func110 (by kernel_rfl) (by kernel_rfl) (nB (by kernel_rfl)) (by kernel_rfl) (by kernel_rfl) (by kernel_rfl) ?_
 rw [← f1i]
 exact h
def c6t (w : World) (R : RT) (_E : Pan) : Prop :=
 ∀ _τ : Fr, (R (vB true) w)
def d7g (x0 x1 x2 : Value) (w : World) (R : RT) (E : Pan) : Prop :=
 oP E (xNil x0) w fun c1f w_2 =>
 oP E (fA 101 c1f 0) w_2 fun a4h w_4 =>
 oP E (lA 3 a4h) w_4 fun a9Z w_6 =>
 oP E (xBin .add 3 (.tmp 12) (.const (vI 1)) a9Z (vI 1)) w_6 fun b0a w_8 =>
 oP E (xNil x0) w_8 fun a5I q7 =>
 oP E (fA 101 a5I 0) q7 fun a7E q9 =>
 oP E (sA 3 a7E b0a) q9 fun _z_13 p9 =>
 oP E (xNil x0) p9 fun a6c s6 =>
 oP E (fA 101 a6c 0) s6 fun b9r u5 =>
 oP E (lA 3 b9r) u5 fun d0e u9 =>
 oP E (xBin .gtr 3 (.tmp 19) (.const (vI 4096)) d0e (vI 4096)) u9 fun b6s y6 =>
 xcond b6s
 (oP E (xNil x0) y6 fun f8T z6 =>
 oP E (fA 101 f8T 2) z6 fun f8U A6 =>
 oP E (sA 27 f8U (vI 33)) A6 fun _z_27 D8 =>
 R (vB false) D8)
 (oP E (xBin .gtr 3 (.tmp 24) (.const (vI 64)) x2 (vI 64)) y6 fun f8V K1 =>
 xcond f8V
 (oP E (xNil x0) K1 fun f8W B7 =>
 oP E (fA 101 f8W 2) B7 fun d0f B3 =>
 oP E (sA 27 d0f (vI 32)) B3 fun _z_35 J0 =>
 R (vB false) J0)
 (oP E (xNil x0) K1 fun f8X I0 =>
 oP E (fA 101 f8X 1) I0 fun f8Y G3 =>
 oP E (lA 3 f8Y) G3 fun f8Z G6 =>
 oP E (xBuiltin .max #[3, 3] 3 [false, false] [f8Z, x2]) G6 fun f9a G4 =>
 oP E (xNil x0) G4 fun f9b O4 =>
 oP E (fA 101 f9b 1) O4 fun d0g N8 =>
 oP E (sA 3 d0g f9a) N8 fun _z_49 M9 =>
 oP E (xNil x0) M9 fun f9c K6 =>
 oP E (fA 101 f9c 3) K6 fun f9d N7 =>
 oP E (lA 4 f9d) N7 fun c4s O3 =>
 oP E (gsem (asB c4s) false (xInvoke (gval (asB c4s) false x1) "gnomon/tree.form" [])) O3 fun f9e M8 =>
 oP E (gsem (asB c4s) false (xV (Op.unary .not f9e))) M8 fun f9f Q4 =>
 oP E (xPick c4s (vB true) f9f) Q4 fun f9g P6 =>
 oP E (xNil x0) P6 fun f9h Q5 =>
 oP E (fA 101 f9h 3) Q5 fun f9i S6 =>
 oP E (sA 4 f9i f9g) S6 fun _z_67 Q8 =>
 xcut (fun _ Q3 => c6t Q3 R E) fun j1 =>
 oP E (xCall (fC 143) [x1]) Q8 fun e1D W6 =>
 oP E (eX e1D 0) W6 fun b9s Y7 =>
 oP E (eX e1D 1) Y7 fun f9j a0v =>
 xcond f9j
 (oP E (xNil x0) a0v fun d0h W7 =>
 oP E (fA 101 d0h 4) W7 fun d0i a0E =>
 oP E (lA 4 d0i) a0E fun b0b V7 =>
 oP E (gsem (asB b0b) false (xCall (fC 144) [(gval (asB b0b) false b9s)])) V7 fun f9k U9 =>
 oP E (gsem (asB b0b) false (xV (Op.unary .not f9k))) U9 fun f9l a0g =>
 oP E (xPick b0b (vB true) f9l) a0g fun f9m V0 =>
 oP E (xNil x0) V0 fun f9n a2o =>
 oP E (fA 101 f9n 4) a2o fun f9o a4E =>
 oP E (sA 4 f9o f9m) a4E fun _z_93 a0h =>
 oP E (xNil x0) a0h fun f9p a6d =>
 oP E (fA 101 f9p 5) a6d fun d0j a7m =>
 oP E (lA 88 d0j) a7m fun f9q a1e =>
 oP E (xCall (fC 145) [f9q, b9s]) a1e fun c6u a0i =>
 oP E (xV (Op.unary .not c6u)) a0i fun c6v a0J =>
 xcond c6v
 (oP E (xNil x0) a0J fun f1k a3H =>
 oP E (fA 101 f1k 5) a3H fun f1l a6B =>
 oP E (lA 88 f1l) a6B fun f1m a8X =>
 oP E (xV (Instr.buildSlice 88 1 #[(0, b9s)])) a8X fun c6w a7v =>
 oP E (xBuiltin .append #[88, 88] 88 [false, false] [f1m, c6w]) a7v fun f1n a1f =>
 oP E (xNil x0) a1f fun f1o a3m =>
 oP E (fA 101 f1o 5) a3m fun f1p a7w =>
 oP E (sA 88 f1p f1n) a7w fun _z_119 a0K =>
 j1 [] a0K)
 (j1 [] a0J))
 (j1 [] a0v)))
noncomputable def f9r : Code := Tryz.f111.body.getD .skip
def f9s : Hint := (sQ (.seq (sQ (sQ (.cond (sQ (sQ .none)) .none))) (.seq (sQ (.cond (sQ (sQ .none)) .none)) (sQ (sQ (.cut [] (sQ (sQ (.cond (sQ (sQ (.cond .none .none))) .none))) (sQ .none)))))))
theorem f1q (x0 x1 x2 : Value) (w : World) (R : RT) (E : Pan) : d7g x0 x1 x2 w R E = callX Tryz.prog [.tmp 6] f9r f9s [x0, x1, x2] w R E := by kernel_rfl
theorem f1r {x0 x1 x2 : Value} (h : d7g x0 x1 x2 w R E) : Cv Tryz.prog 111 #[x0, x1, x2] w R E := by
 refine i6 (args := [x0, x1, x2]) (c := f9r) (h := f9s) (rs := [.tmp 6]) Tryz.func111 (by kernel_rfl) (by kernel_rfl) (nB (by kernel_rfl)) (by kernel_rfl) (by kernel_rfl) (by kernel_rfl) ?_
 rw [← f1q]
 exact h
def c6x (x0 : Value) (w : World) (R : RT) (_E : Pan) : Prop :=
 ∀ _τ : Fr, (R x0 w)
def d5O (x0 x1 : Value) (w : World) (R : RT) (E : Pan) : Prop :=
 ∀ _τ : Fr, (xcut (fun l_1 w_2 => c6x (nth l_1 0) w_2 R E) fun j2 =>
 oP E (xBuiltin .cap #[137] 3 [false] [x0]) w fun b7x w_4 =>
 oP E (xBuiltin .len #[137] 3 [false] [x0]) w_4 fun a9Z w_6 =>
 oP E (xBin .sub 3 (.tmp 10) (.tmp 12) b7x a9Z) w_6 fun b0a w_8 =>
 oP E (xBin .sub 3 (.tmp 8) (.tmp 13) x1 b0a) w_8 fun a5I q7 =>
 oP E (xBin .gtr 3 (.tmp 15) (.const (vI 0)) a5I (vI 0)) q7 fun a7F q9 =>
 xcond a7F
 (oP E (xBuiltin .cap #[137] 3 [false] [x0]) q9 fun d0k p9 =>
 oP E (xV (Instr.sliceAt 137 x0 none (some d0k) none)) p9 fun d0l s6 =>
 oP E (xBuiltin .append #[137, 3] 137 [false, false] [d0l, a5I]) s6 fun d0m u5 =>
 oP E (xBuiltin .len #[137] 3 [false] [x0]) u5 fun d0n u9 =>
 oP E (xV (Instr.sliceAt 137 d0m none (some d0n) none)) u9 fun b9t y6 =>
 j2 [b9t] y6)
 (j2 [x0] q9))
def e5h (x0 x1 : Value) (w : World) (R : RT) (E : Pan) : Prop :=
 xcut (fun _ z6 => d5O x0 x1 z6 R E) fun j1 =>
 oP E (xBin .lss 3 (.tmp 5) (.const (vI 0)) x1 (vI 0)) w fun h4y A6 =>
 xcond h4y
 (oP E (xV (Instr.makeInterface 9 (Value.string ⟨#[99, 97, 110, 110, 111, 116, 32, 98, 101, 32, 110, 101, 103, 97, 116, 105, 118, 101]⟩))) A6 fun c8C D8 =>
 oP E (xV (Instr.panic c8C)) D8 fun _z_29 K1 =>
 j1 [] K1)
 (j1 [] A6)
noncomputable def f9t : Code := Tryz.f119.body.getD .skip
def f9u : Hint := (sQ (.cut [] (sQ (.cond .none .none)) (.cut [0] (sQ (sQ (.cond .none .none))) (sQ .none))))
theorem f1s (x0 x1 : Value) (w : World) (R : RT) (E : Pan) : e5h x0 x1 w R E = callX Tryz.prog [.tmp 4] f9t f9u [x0, x1] w R E := by kernel_rfl
theorem f1t {x0 x1 : Value} (h : e5h x0 x1 w R E) : Cv Tryz.prog 119 #[x0, x1] w R E := by
 refine i6 (args := [x0, x1]) (c := f9t) (h := f9u) (rs := [.tmp 4]) Tryz.func119 (by kernel_rfl) (by kernel_rfl) (nB (by kernel_rfl)) (by kernel_rfl) (by kernel_rfl) (by kernel_rfl) ?_
 rw [← f1s]
 exact h
def d7h (x0 : Value) (w : World) (R : RT) (E : Pan) : Prop :=
 oP E (xV (Instr.typeAssert x0 150 182 true)) w fun b9u w_2 =>
 oP E (eX b9u 1) w_2 fun a0Q w_4 =>
 oP E (eX b9u 0) w_4 fun a2r w_6 =>
 xcond a0Q
 (oP E (xV (Instr.alloc 182 true (.tuple #[]))) w_6 fun d7i w_8 =>
 oP E (sA 182 d7i a2r) w_8 fun _z_9 q7 =>
 oP E (fA 182 d7i 0) q7 fun a7h q9 =>
 oP E (fA 71 a7h 0) q9 fun b1M p9 =>
 oP E (lA 9 b1M) p9 fun a6e s6 =>
 R (Value.tuple #[a6e, (vB true)]) s6)
 (oP E (xV (Instr.typeAssert x0 150 184 true)) w_6 fun a7G u5 =>
 oP E (eX a7G 1) u5 fun a0D u9 =>
 oP E (eX a7G 0) u9 fun a0Y y6 =>
 xcond a0D
 (oP E (xV (Instr.alloc 184 true (.tuple #[]))) y6 fun c8D z6 =>
 oP E (sA 184 c8D a0Y) z6 fun _z_25 A6 =>
 dX A6 fun Z6 =>
 qP Tryz.prog (fA 184 c8D 0) fun d0o =>
 qP Tryz.prog (fA 73 d0o 1) fun c4q =>
 qP Tryz.prog (fA 184 c8D 0) fun f9v =>
 qP Tryz.prog (fA 73 f9v 0) fun a8J =>
 qL Tryz.prog Z6 (blk c4q) (lA 9 c4q) fun f9w =>
 qL Tryz.prog Z6 (blk a8J) (lA 3 a8J) fun a6a =>
 qP Tryz.prog (xBin .eql 3 (.tmp 22) (.const (vI 1)) a6a (vI 1)) fun b9v =>
 qP Tryz.prog (gsem (asB b9v) false (fA 184 c8D 0)) fun f9x =>
 qP Tryz.prog (gsem (asB b9v) false (fA 73 f9x 0)) fun e1E =>
 qL Tryz.prog Z6 (blk e1E) (gsem (asB b9v) false (lA 3 e1E)) fun f9y =>
 qP Tryz.prog (gsem (asB b9v) false (xBin .eql 3 (.tmp 27) (.const (vI 2)) f9y (vI 2))) fun f9z =>
 qP Tryz.prog (xPick b9v (vB true) f9z) fun d0p =>
 R (Value.tuple #[f9w, d0p]) Z6)
 (oP E (xV (Instr.typeAssert x0 150 136 true)) y6 fun e1F b7y =>
 oP E (eX e1F 1) b7y fun c4t b3w =>
 oP E (eX e1F 0) b3w fun f9A b2g =>
 xcond c4t
 (oP E (xV (Instr.alloc 136 true (.tuple #[]))) b2g fun c8E b9w =>
 oP E (sA 136 c8E f9A) b9w fun _z_48 b0L =>
 dX b0L fun M9 =>
 qP Tryz.prog (fA 136 c8E 0) fun b9x =>
 qP Tryz.prog (fA 53 b9x 2) fun e1G =>
 qP Tryz.prog (fA 136 c8E 0) fun d0q =>
 qP Tryz.prog (fA 53 d0q 0) fun e1H =>
 qL Tryz.prog M9 (blk e1G) (lA 9 e1G) fun d0r =>
 qL Tryz.prog M9 (blk e1H) (lA 3 e1H) fun f9B =>
 qP Tryz.prog (xBin .eql 3 (.tmp 38) (.const (vI 2)) f9B (vI 2)) fun b9y =>
 qP Tryz.prog (gsem (asB b9y) false (fA 136 c8E 0)) fun f9C =>
 qP Tryz.prog (gsem (asB b9y) false (fA 53 f9C 0)) fun e1I =>
 qL Tryz.prog M9 (blk e1I) (gsem (asB b9y) false (lA 3 e1I)) fun f9D =>
 qP Tryz.prog (gsem (asB b9y) false (xBin .eql 3 (.tmp 43) (.const (vI 4)) f9D (vI 4))) fun f9E =>
 qP Tryz.prog (xPick b9y (vB true) f9E) fun f9F =>
 R (Value.tuple #[d0r, f9F]) M9)
 (R (Value.tuple #[(eS), (vB false)]) b2g)))
noncomputable def f9G : Code := Tryz.f143.body.getD .skip
def f9H : Hint := (sQ (.seq (sQ (.block (sQ (.cond (sQ (sQ .none)) (sQ (.cond (sQ (.seq (.reg [(0, 131072, 32), (1, 262144, 131072), (2, 524288, 262144), (0, 1048576, 32), (8, 2097152, 1048576), (16, 4194304, 2097152), (32, 8388608, 4194304), (64, 16777216, 8388608), (128, 33554432, 16777248), (384, 67108864, 50331648), (640, 134217728, 83886080), (1152, 268435456, 150994944), (2176, 536870912, 285212672), (135, 4, 524288), (16383, 8, 536870912)] [1060, 1060, 1056, 1060, 1060, 1028, 1060, 1060, 1060, 1060, 36, 1060, 1060, 1060, 1060] (.early 0 (.early 1 (.early 3 (.early 4 (.load 2 (.load 5 (.early 6 (.early 7 (.early 8 (.early 9 (.early 13 (.load 10 (.early 11 (.early 12 (.early 14 .done)))))))))))))))) .none)) (sQ (.cond (sQ (.seq (.reg [(0, 8589934592, 64), (1, 17179869184, 8589934592), (2, 34359738368, 17179869184), (0, 68719476736, 64), (8, 137438953472, 68719476736), (16, 274877906944, 137438953472), (32, 549755813888, 274877906944), (64, 1099511627776, 549755813888), (128, 2199023255552, 1099511627840), (384, 4398046511104, 3298534883328), (640, 8796093022208, 5497558138880), (1152, 17592186044416, 9895604649984), (2176, 35184372088832, 18691697672192), (135, 4, 34359738368), (16383, 8, 35184372088832)] [1060, 1060, 1056, 1060, 1060, 1028, 1060, 1060, 1060, 1060, 36, 1060, 1060, 1060, 1060] (.early 0 (.early 1 (.early 3 (.early 4 (.load 2 (.load 5 (.early 6 (.early 7 (.early 8 (.early 9 (.early 13 (.load 10 (.early 11 (.early 12 (.early 14 .done)))))))))))))))) .none)) .none)))))))) (sQ .none)))
theorem f1u (x0 : Value) (w : World) (R : RT) (E : Pan) : d7h x0 w R E = callX Tryz.prog [.tmp 2, .tmp 3] f9G f9H [x0] w R E := by kernel_rfl
theorem f1v {x0 : Value} (h : d7h x0 w R E) : Cv Tryz.prog 143 #[x0] w R E := by
 refine i6 (args := [x0]) (c := f9G) (h := f9H) (rs := [.tmp 2, .tmp 3]) Tryz.func143 (by kernel_rfl) (by kernel_rfl) (nB (by kernel_rfl)) (by kernel_rfl) (by kernel_rfl) (by kernel_rfl) ?_
 rw [← f1u]
 exact h
def c6y (w : World) (R : RT) (_E : Pan) : Prop :=
 ∀ _τ : Fr, (R (vB true) w)
def d5P (x21 : Value) (w : World) (next2 : NT) (j1 : NT) (R : RT) (E : Pan) : Prop :=
 oP E (xV (Instr.next x21 true 0)) w fun d0s y6 =>
 oP E (eX d0s 0) y6 fun f9I z6 =>
 xcond f9I
 (oP E (eX d0s 1) z6 fun f9J A6 =>
 oP E (eX d0s 2) A6 fun e1J D8 =>
 oP E (xCall (fC 165) [e1J]) D8 fun f9K K1 =>
 oP E (xV (Op.unary .not f9K)) K1 fun b1N B7 =>
 oP E (gsem (asB b1N) false (xBin .eql 3 (.tmp 30) (.const (vI 0)) (gval (asB b1N) false f9J) (vI 0))) B7 fun c4u B3 =>
 oP E (gsem (asB (gval (asB b1N) false c4u)) true (xCall (fC 166) [(gval (asB (gval (asB b1N) false c4u)) true e1J)])) B3 fun f9L J0 =>
 oP E (gsem (asB (gval (asB b1N) false c4u)) true (xBin .neq 3 (.tmp 34) (.const (vI 3)) f9L (vI 3))) J0 fun f9M I0 =>
 oP E (gsem (asB b1N) false (xPick (gval (asB b1N) false c4u) f9M (vB false))) I0 fun f9N G3 =>
 oP E (xPick b1N (vB true) f9N) G3 fun d0t G6 =>
 xcond d0t
 (R (vB false) G6)
 (next2 [] G6))
 (j1 [] z6)
def d7j (x0 : Value) (w : World) (R : RT) (E : Pan) : Prop :=
 oP E (xBin .eql 9 (.tmp 5) (.const (eS)) x0 (eS)) w fun b9m w_2 =>
 oP E (gsem (asB b9m) false (xCall (fC 162) [(gval (asB b9m) false x0)])) w_2 fun a0Q w_4 =>
 oP E (gsem (asB b9m) false (xV (Op.unary .not a0Q))) w_4 fun a2r w_6 =>
 oP E (xPick b9m (vB true) a2r) w_6 fun b0c w_8 =>
 oP E (gsem (asB b0c) false (xCall (fC 163) [(gval (asB b0c) false x0)])) w_8 fun a5I q7 =>
 oP E (xPick b0c (vB true) a5I) q7 fun a7E q9 =>
 oP E (gsem (asB a7E) false (xCall (fC 164) [(gval (asB a7E) false x0)])) q9 fun b9q p9 =>
 oP E (xPick a7E (vB true) b9q) p9 fun a8K s6 =>
 xcond a8K
 (R (vB false) s6)
 (xcut (fun _ u5 => c6y u5 R E) fun j1 =>
 oP E (xV (Instr.range 9 x0)) s6 fun f9O u9 =>
 xloop [] [] u9 fun _ G4 next2 =>
 d5P f9O G4 next2 j1 R E)
noncomputable def f9P : Code := Tryz.f144.body.getD .skip
def f9Q : Hint := (sQ (.seq (sQ (.cond (sQ .none) .none)) (.cut [] (sQ (.block (.loop [] (sQ (.seq (.cond .none .none) (.block (sQ (sQ (.cond (sQ .none) .none))))))))) (sQ .none))))
theorem f1w (x0 : Value) (w : World) (R : RT) (E : Pan) : d7j x0 w R E = callX Tryz.prog [.tmp 2] f9P f9Q [x0] w R E := by kernel_rfl
theorem f1x {x0 : Value} (h : d7j x0 w R E) : Cv Tryz.prog 144 #[x0] w R E := by
 refine i6 (args := [x0]) (c := f9P) (h := f9Q) (rs := [.tmp 2]) Tryz.func144 (by kernel_rfl) (by kernel_rfl) (nB (by kernel_rfl)) (by kernel_rfl) (by kernel_rfl) (by kernel_rfl) ?_
 rw [← f1w]
 exact h
def d7k (x0 x1 : Value) (w : World) (R : RT) (E : Pan) : Prop :=
 oP E (xCall (fC 167) [x0, x1]) w fun a5u w_2 =>
 oP E (xBin .geq 3 (.tmp 7) (.const (vI 0)) a5u (vI 0)) w_2 fun b9z w_4 =>
 R b9z w_4
noncomputable def f9R : Code := Tryz.f145.body.getD .skip
def f9S : Hint := (sQ (sQ .none))
theorem f1y (x0 x1 : Value) (w : World) (R : RT) (E : Pan) : d7k x0 x1 w R E = callX Tryz.prog [.tmp 4] f9R f9S [x0, x1] w R E := by kernel_rfl
theorem f1z {x0 x1 : Value} (h : d7k x0 x1 w R E) : Cv Tryz.prog 145 #[x0, x1] w R E := by
 refine i6 (args := [x0, x1]) (c := f9R) (h := f9S) (rs := [.tmp 4]) Tryz.func145 (by kernel_rfl) (by kernel_rfl) (nB (by kernel_rfl)) (by kernel_rfl) (by kernel_rfl) (by kernel_rfl) ?_
 rw [← f1y]
 exact h
def d7l (x0 : Value) (w : World) (R : RT) (E : Pan) : Prop :=
 oP E (xCall (fC 169) [x0]) w fun b5y w_2 =>
 oP E (xBin .gtr 3 (.tmp 4) (.const (vI 32)) b5y (vI 32)) w_2 fun b2h w_4 =>
 R b2h w_4
noncomputable def f9T : Code := Tryz.f163.body.getD .skip
def f9U : Hint := (sQ (sQ .none))
theorem f1A (x0 : Value) (w : World) (R : RT) (E : Pan) : d7l x0 w R E = callX Tryz.prog [.tmp 2] f9T f9U [x0] w R E := by kernel_rfl
theorem f1B {x0 : Value} (h : d7l x0 w R E) : Cv Tryz.prog 163 #[x0] w R E := by
 refine i6 (args := [x0]) (c := f9T) (h := f9U) (rs := [.tmp 2]) Tryz.func163 (by kernel_rfl) (by kernel_rfl) (nB (by kernel_rfl)) (by kernel_rfl) (by kernel_rfl) (by kernel_rfl) ?_
 rw [← f1A]
 exact h
def c6z (x4 : Value) (w : World) (R : RT) (_E : Pan) : Prop :=
 ∀ _τ : Fr, (xcond x4
 (R (vB true) w)
 (R (vB false) w))
def d7m (x0 : Value) (w : World) (R : RT) (E : Pan) : Prop :=
 xcut (fun l_1 w_2 => c6z (nth l_1 0) w_2 R E) fun j1 =>
 oP E (xBin .eql 9 (.tmp 3) (.const (Value.string ⟨#[118, 97, 114]⟩)) x0 (Value.string ⟨#[118, 97, 114]⟩)) w fun b2h w_4 =>
 xcond b2h
 (j1 [b2h] w_4)
 (oP E (xBin .eql 9 (.tmp 3) (.const (Value.string ⟨#[97, 114, 114, 97, 121]⟩)) x0 (Value.string ⟨#[97, 114, 114, 97, 121]⟩)) w_4 fun a8B w_6 =>
 xcond a8B
 (j1 [a8B] w_6)
 (oP E (xBin .eql 9 (.tmp 3) (.const (Value.string ⟨#[105, 102]⟩)) x0 (Value.string ⟨#[105, 102]⟩)) w_6 fun a5s w_8 =>
 xcond a5s
 (j1 [a5s] w_8)
 (oP E (xBin .eql 9 (.tmp 3) (.const (Value.string ⟨#[101, 108, 115, 101]⟩)) x0 (Value.string ⟨#[101, 108, 115, 101]⟩)) w_8 fun a5t q7 =>
 xcond a5t
 (j1 [a5t] q7)
 (oP E (xBin .eql 9 (.tmp 3) (.const (Value.string ⟨#[119, 104, 105, 108, 101]⟩)) x0 (Value.string ⟨#[119, 104, 105, 108, 101]⟩)) q7 fun a5J q9 =>
 xcond a5J
 (j1 [a5J] q9)
 (oP E (xBin .eql 9 (.tmp 3) (.const (Value.string ⟨#[97, 115, 115, 101, 114, 116]⟩)) x0 (Value.string ⟨#[97, 115, 115, 101, 114, 116]⟩)) q9 fun e1K p9 =>
 xcond e1K
 (j1 [e1K] p9)
 (oP E (xBin .eql 9 (.tmp 3) (.const (Value.string ⟨#[97, 115, 115, 117, 109, 101]⟩)) x0 (Value.string ⟨#[97, 115, 115, 117, 109, 101]⟩)) p9 fun c4v s6 =>
 xcond c4v
 (j1 [c4v] s6)
 (oP E (xBin .eql 9 (.tmp 3) (.const (Value.string ⟨#[115, 107, 105, 112]⟩)) x0 (Value.string ⟨#[115, 107, 105, 112]⟩)) s6 fun c4w u5 =>
 xcond c4w
 (j1 [c4w] u5)
 (oP E (xBin .eql 9 (.tmp 3) (.const (Value.string ⟨#[105, 110, 112, 117, 116]⟩)) x0 (Value.string ⟨#[105, 110, 112, 117, 116]⟩)) u5 fun c4x u9 =>
 xcond c4x
 (j1 [c4x] u9)
 (oP E (xBin .eql 9 (.tmp 3) (.const (Value.string ⟨#[116, 114, 117, 101]⟩)) x0 (Value.string ⟨#[116, 114, 117, 101]⟩)) u9 fun e1L y6 =>
 xcond e1L
 (j1 [e1L] y6)
 (oP E (xBin .eql 9 (.tmp 3) (.const (Value.string ⟨#[102, 97, 108, 115, 101]⟩)) x0 (Value.string ⟨#[102, 97, 108, 115, 101]⟩)) y6 fun f9V z6 =>
 j1 [f9V] z6))))))))))
noncomputable def f9W : Code := Tryz.f164.body.getD .skip
def f9X : Hint := (sQ (.seq (sQ (.block (.cut [4] (sQ (.cond .none (sQ (.cond .none (sQ (.cond .none (sQ (.cond .none (sQ (.cond .none (sQ (.cond .none (sQ (.cond .none (sQ (.cond .none (sQ (.cond .none (sQ (.cond .none .none)))))))))))))))))))) (.cond (sQ .none) .none)))) (sQ .none)))
theorem f1C (x0 : Value) (w : World) (R : RT) (E : Pan) : d7m x0 w R E = callX Tryz.prog [.tmp 2] f9W f9X [x0] w R E := by kernel_rfl
theorem f1D {x0 : Value} (h : d7m x0 w R E) : Cv Tryz.prog 164 #[x0] w R E := by
 refine i6 (args := [x0]) (c := f9W) (h := f9X) (rs := [.tmp 2]) Tryz.func164 (by kernel_rfl) (by kernel_rfl) (nB (by kernel_rfl)) (by kernel_rfl) (by kernel_rfl) (by kernel_rfl) ?_
 rw [← f1C]
 exact h
def d7n (x0 : Value) (w : World) (R : RT) (E : Pan) : Prop :=
 oP E (xCall (fC 166) [x0]) w fun c2B w_2 =>
 oP E (xBin .eql 3 (.tmp 6) (.const (vI 3)) c2B (vI 3)) w_2 fun a9j w_4 =>
 oP E (gsem (asB a9j) false (xBin .eql 3 (.tmp 9) (.const (vI 4)) (gval (asB a9j) false c2B) (vI 4))) w_4 fun a2r w_6 =>
 oP E (xPick a9j (vB true) a2r) w_6 fun b0c w_8 =>
 R b0c w_8
noncomputable def f9Y : Code := Tryz.f165.body.getD .skip
def f9Z : Hint := (sQ (sQ (sQ .none)))
theorem f1E (x0 : Value) (w : World) (R : RT) (E : Pan) : d7n x0 w R E = callX Tryz.prog [.tmp 2] f9Y f9Z [x0] w R E := by kernel_rfl
theorem f1F {x0 : Value} (h : d7n x0 w R E) : Cv Tryz.prog 165 #[x0] w R E := by
 refine i6 (args := [x0]) (c := f9Y) (h := f9Z) (rs := [.tmp 2]) Tryz.func165 (by kernel_rfl) (by kernel_rfl) (nB (by kernel_rfl)) (by kernel_rfl) (by kernel_rfl) (by kernel_rfl) ?_
 rw [← f1E]
 exact h
def c6A (x39 : Value) (w : World) (R : RT) (_E : Pan) : Prop :=
 ∀ _τ : Fr, (xcond x39
 (R (vI 3) w)
 (R (vI 6) w))
def c6B (x1 x31 : Value) (w : World) (R : RT) (E : Pan) : Prop :=
 ∀ _τ : Fr, (xcond x31
 (R (vI 6) w)
 (oP E (xV (Instr.makeFunc (.func 170) #[] #[x1])) w fun c1g w_8 =>
 oP E (xCall c1g [(Value.int .i32 48), (Value.int .i32 57)]) w_8 fun h4z q7 =>
 xcond h4z
 (R (vI 4) q7)
 (xcut (fun d7o q9 => c6A (nth d7o 0) q9 R E) fun j4 =>
 oP E (lA 21 x1) q7 fun g0a p9 =>
 oP E (xBin .eql 21 (.tmp 40) (.const (Value.int .i32 95)) g0a (Value.int .i32 95)) p9 fun e1M s6 =>
 xcond e1M
 (j4 [e1M] s6)
 (oP E (xCall c1g [(Value.int .i32 97), (Value.int .i32 122)]) s6 fun e1N u5 =>
 xcond e1N
 (j4 [e1N] u5)
 (oP E (xCall c1g [(Value.int .i32 65), (Value.int .i32 90)]) u5 fun e1O u9 =>
 xcond e1O
 (j4 [e1O] u9)
 (oP E (xCall c1g [(Value.int .i32 192), (Value.int .i32 591)]) u9 fun e1P y6 =>
 xcond e1P
 (j4 [e1P] y6)
 (oP E (xCall c1g [(Value.int .i32 913), (Value.int .i32 969)]) y6 fun e1Q z6 =>
 xcond e1Q
 (j4 [e1Q] z6)
 (oP E (xCall c1g [(Value.int .i32 1040), (Value.int .i32 1103)]) z6 fun g0b A6 =>
 j4 [g0b] A6))))))))
def c6C (x1 x4 x11 : Value) (w : World) (R : RT) (E : Pan) : Prop :=
 ∀ _τ : Fr, (xcond x11
 (R (vI 5) w)
 (xcut (fun e5g D8 => c6B x1 (nth e5g 0) D8 R E) fun j3 =>
 oP E (xBin .eql 21 (.tmp 4) (.const (Value.int .i32 215)) x4 (Value.int .i32 215)) w fun c4y K1 =>
 xcond c4y
 (j3 [c4y] K1)
 (oP E (xBin .eql 21 (.tmp 4) (.const (Value.int .i32 247)) x4 (Value.int .i32 247)) K1 fun e1R B7 =>
 xcond e1R
 (j3 [e1R] B7)
 (oP E (xBin .eql 21 (.tmp 4) (.const (Value.int .i32 930)) x4 (Value.int .i32 930)) B7 fun d0u B3 =>
 j3 [d0u] B3))))
def c6D (x1 x4 x5 : Value) (w : World) (R : RT) (E : Pan) : Prop :=
 ∀ _τ : Fr, (xcond x5
 (R (vI 1) w)
 (oP E (xBin .eql 21 (.tmp 4) (.const (Value.int .i32 10)) x4 (Value.int .i32 10)) w fun a2r w_6 =>
 xcond a2r
 (R (vI 2) w_6)
 (xcut (fun d0v J0 => c6C x1 x4 (nth d0v 0) J0 R E) fun j2 =>
 oP E (xBin .eql 21 (.tmp 4) (.const (Value.int .i32 59)) x4 (Value.int .i32 59)) w_6 fun e1S I0 =>
 xcond e1S
 (j2 [e1S] I0)
 (oP E (xBin .eql 21 (.tmp 4) (.const (Value.int .i32 44)) x4 (Value.int .i32 44)) I0 fun e1T G3 =>
 xcond e1T
 (j2 [e1T] G3)
 (oP E (xBin .eql 21 (.tmp 4) (.const (Value.int .i32 123)) x4 (Value.int .i32 123)) G3 fun e1U G6 =>
 xcond e1U
 (j2 [e1U] G6)
 (oP E (xBin .eql 21 (.tmp 4) (.const (Value.int .i32 125)) x4 (Value.int .i32 125)) G6 fun e1V G4 =>
 xcond e1V
 (j2 [e1V] G4)
 (oP E (xBin .eql 21 (.tmp 4) (.const (Value.int .i32 40)) x4 (Value.int .i32 40)) G4 fun c4z O4 =>
 xcond c4z
 (j2 [c4z] O4)
 (oP E (xBin .eql 21 (.tmp 4) (.const (Value.int .i32 41)) x4 (Value.int .i32 41)) O4 fun e1W N8 =>
 xcond e1W
 (j2 [e1W] N8)
 (oP E (xBin .eql 21 (.tmp 4) (.const (Value.int .i32 91)) x4 (Value.int .i32 91)) N8 fun c4A M9 =>
 xcond c4A
 (j2 [c4A] M9)
 (oP E (xBin .eql 21 (.tmp 4) (.const (Value.int .i32 93)) x4 (Value.int .i32 93)) M9 fun e1X K6 =>
 xcond e1X
 (j2 [e1X] K6)
 (oP E (xBin .eql 21 (.tmp 4) (.const (Value.int .i32 61)) x4 (Value.int .i32 61)) K6 fun e1Y N7 =>
 xcond e1Y
 (j2 [e1Y] N7)
 (oP E (xBin .eql 21 (.tmp 4) (.const (Value.int .i32 33)) x4 (Value.int .i32 33)) N7 fun e1Z O3 =>
 xcond e1Z
 (j2 [e1Z] O3)
 (oP E (xBin .eql 21 (.tmp 4) (.const (Value.int .i32 60)) x4 (Value.int .i32 60)) O3 fun e2a M8 =>
 xcond e2a
 (j2 [e2a] M8)
 (oP E (xBin .eql 21 (.tmp 4) (.const (Value.int .i32 62)) x4 (Value.int .i32 62)) M8 fun e2b Q4 =>
 xcond e2b
 (j2 [e2b] Q4)
 (oP E (xBin .eql 21 (.tmp 4) (.const (Value.int .i32 43)) x4 (Value.int .i32 43)) Q4 fun e2c P6 =>
 xcond e2c
 (j2 [e2c] P6)
 (oP E (xBin .eql 21 (.tmp 4) (.const (Value.int .i32 45)) x4 (Value.int .i32 45)) P6 fun e2d Q5 =>
 xcond e2d
 (j2 [e2d] Q5)
 (oP E (xBin .eql 21 (.tmp 4) (.const (Value.int .i32 42)) x4 (Value.int .i32 42)) Q5 fun e2e S6 =>
 xcond e2e
 (j2 [e2e] S6)
 (oP E (xBin .eql 21 (.tmp 4) (.const (Value.int .i32 47)) x4 (Value.int .i32 47)) S6 fun e2f Q8 =>
 xcond e2f
 (j2 [e2f] Q8)
 (oP E (xBin .eql 21 (.tmp 4) (.const (Value.int .i32 37)) x4 (Value.int .i32 37)) Q8 fun e2g Q3 =>
 xcond e2g
 (j2 [e2g] Q3)
 (oP E (xBin .eql 21 (.tmp 4) (.const (Value.int .i32 38)) x4 (Value.int .i32 38)) Q3 fun e2h W6 =>
 xcond e2h
 (j2 [e2h] W6)
 (oP E (xBin .eql 21 (.tmp 4) (.const (Value.int .i32 124)) x4 (Value.int .i32 124)) W6 fun g0c Y7 =>
 j2 [g0c] Y7)))))))))))))))))))))
def d7p (x0 : Value) (w : World) (R : RT) (E : Pan) : Prop :=
 oP E (xV (Instr.box 21 x0)) w fun r5 w_2 =>
 oP E (lA 21 r5) w_2 fun a1t w_4 =>
 xcut (fun h8v a0v => c6D r5 a1t (nth h8v 0) a0v R E) fun j1 =>
 oP E (xBin .eql 21 (.tmp 4) (.const (Value.int .i32 32)) a1t (Value.int .i32 32)) w_4 fun e9H W7 =>
 xcond e9H
 (j1 [e9H] W7)
 (oP E (xBin .eql 21 (.tmp 4) (.const (Value.int .i32 9)) a1t (Value.int .i32 9)) W7 fun e9I a0E =>
 xcond e9I
 (j1 [e9I] a0E)
 (oP E (xBin .eql 21 (.tmp 4) (.const (Value.int .i32 13)) a1t (Value.int .i32 13)) a0E fun c8F V7 =>
 j1 [c8F] V7))
noncomputable def g0d : Code := Tryz.f166.body.getD .skip
def g0e : Hint := (sQ (.seq (sQ (.block (.cut [5] (sQ (.cond .none (sQ (.cond .none .none)))) (.cond (sQ .none) (sQ (.cond (sQ .none) (.cut [11] (sQ (.cond .none (sQ (.cond .none (sQ (.cond .none (sQ (.cond .none (sQ (.cond .none (sQ (.cond .none (sQ (.cond .none (sQ (.cond .none (sQ (.cond .none (sQ (.cond .none (sQ (.cond .none (sQ (.cond .none (sQ (.cond .none (sQ (.cond .none (sQ (.cond .none (sQ (.cond .none (sQ (.cond .none (sQ (.cond .none .none)))))))))))))))))))))))))))))))))))) (.cond (sQ .none) (.cut [31] (sQ (.cond .none (sQ (.cond .none .none)))) (.cond (sQ .none) .none)))))))))) (sQ (.seq (.block (sQ (.cond (sQ .none) (.cut [39] (sQ (.cond .none (sQ (.cond .none (sQ (.cond .none (sQ (.cond .none (sQ (.cond .none .none)))))))))) (.cond (sQ .none) .none))))) (sQ .none)))))
theorem f1G (x0 : Value) (w : World) (R : RT) (E : Pan) : d7p x0 w R E = callX Tryz.prog [.tmp 2] g0d g0e [x0] w R E := by kernel_rfl
theorem f1H {x0 : Value} (h : d7p x0 w R E) : Cv Tryz.prog 166 #[x0] w R E := by
 refine i6 (args := [x0]) (c := g0d) (h := g0e) (rs := [.tmp 2]) Tryz.func166 (by kernel_rfl) (by kernel_rfl) (nB (by kernel_rfl)) (by kernel_rfl) (by kernel_rfl) (by kernel_rfl) ?_
 rw [← f1G]
 exact h
def c6E (w : World) (R : RT) (_E : Pan) : Prop :=
 ∀ _τ : Fr, (R (vI (-1)) w)
def d5Q (x0 x1 x7 x8 : Value) (w : World) (next2 : NT) (j1 : NT) (R : RT) (E : Pan) : Prop :=
 oP E (xBin .lss 3 (.tmp 8) (.tmp 7) x8 x7) w fun b9A w_6 =>
 xcond b9A
 (oP E (iA 88 x0 x8) w_6 fun a3o w_8 =>
 oP E (lA 9 a3o) w_8 fun b4Y q7 =>
 oP E (xBin .eql 9 (.tmp 11) (.tmp 15) x1 b4Y) q7 fun a7F q9 =>
 xcond a7F
 (R x8 q9)
 (oP E (xBin .add 3 (.tmp 8) (.const (vI 1)) x8 (vI 1)) q9 fun b9q p9 =>
 next2 [b9q] p9))
 (j1 [] w_6)
def d7q (x0 x1 : Value) (w : World) (R : RT) (E : Pan) : Prop :=
 xcut (fun _ w_2 => c6E w_2 R E) fun j1 =>
 oP E (xBuiltin .len #[88] 3 [false] [x0]) w fun a9j w_4 =>
 xloop [8] [(vI 0)] w_4 fun τ_15 s6 next2 =>
 d5Q x0 x1 a9j (τ_15 8) s6 next2 j1 R E
noncomputable def g0f : Code := Tryz.f167.body.getD .skip
def g0g : Hint := (sQ (.cut [] (sQ (.block (.loop [8] (sQ (.seq (.cond .none .none) (.seq (.block (sQ (sQ (.cond (sQ .none) .none)))) .none)))))) (sQ .none)))
theorem f1I (x0 x1 : Value) (w : World) (R : RT) (E : Pan) : d7q x0 x1 w R E = callX Tryz.prog [.tmp 4] g0f g0g [x0, x1] w R E := by kernel_rfl
theorem f1J {x0 x1 : Value} (h : d7q x0 x1 w R E) : Cv Tryz.prog 167 #[x0, x1] w R E := by
 refine i6 (args := [x0, x1]) (c := g0f) (h := g0g) (rs := [.tmp 4]) Tryz.func167 (by kernel_rfl) (by kernel_rfl) (nB (by kernel_rfl)) (by kernel_rfl) (by kernel_rfl) (by kernel_rfl) ?_
 rw [← f1I]
 exact h
def c6F (x2 : Value) (w : World) (R : RT) (_E : Pan) : Prop :=
 ∀ _τ : Fr, (R x2 w)
def d5R (x2 x4 : Value) (w : World) (next2 : NT) (j1 : NT) (_R : RT) (E : Pan) : Prop :=
 oP E (xV (Instr.next x4 true 0)) w fun b3x w_6 =>
 oP E (eX b3x 0) w_6 fun a6f w_8 =>
 xcond a6f
 (oP E (xBin .add 3 (.tmp 7) (.const (vI 1)) x2 (vI 1)) w_8 fun a5t q7 =>
 next2 [a5t] q7)
 (j1 [x2] w_8)
def d7r (x0 : Value) (w : World) (R : RT) (E : Pan) : Prop :=
 xcut (fun l_1 w_2 => c6F (nth l_1 0) w_2 R E) fun j1 =>
 oP E (xV (Instr.range 9 x0)) w fun a1t w_4 =>
 xloop [2] [(vI 0)] w_4 fun τ_11 q9 next2 =>
 d5R (τ_11 2) a1t q9 next2 j1 R E
noncomputable def g0h : Code := Tryz.f169.body.getD .skip
def g0i : Hint := (sQ (.cut [2] (sQ (.block (.loop [2] (sQ (.seq (.cond .none .none) (.block .none)))))) (sQ .none)))
theorem f1K (x0 : Value) (w : World) (R : RT) (E : Pan) : d7r x0 w R E = callX Tryz.prog [.tmp 2] g0h g0i [x0] w R E := by kernel_rfl
theorem f1L {x0 : Value} (h : d7r x0 w R E) : Cv Tryz.prog 169 #[x0] w R E := by
 refine i6 (args := [x0]) (c := g0h) (h := g0i) (rs := [.tmp 2]) Tryz.func169 (by kernel_rfl) (by kernel_rfl) (nB (by kernel_rfl)) (by kernel_rfl) (by kernel_rfl) (by kernel_rfl) ?_
 rw [← f1K]
 exact h
def d7s (x0 x1 x2 : Value) (w : World) (R : RT) (E : Pan) : Prop :=
 oP E (lA 21 x2) w fun a5u w_2 =>
 oP E (xBin .leq 21 (.tmp 6) (.tmp 7) x0 a5u) w_2 fun b9z w_4 =>
 oP E (gsem (asB b9z) true (lA 21 x2)) w_4 fun a2r w_6 =>
 oP E (gsem (asB b9z) true (xBin .leq 21 (.tmp 10) (.tmp 11) a2r (gval (asB b9z) true x1))) w_6 fun a3k w_8 =>
 oP E (xPick b9z a3k (vB false)) w_8 fun a3l q7 =>
 R a3l q7
noncomputable def g0j : Code := Tryz.f170.body.getD .skip
def g0k : Hint := (sQ (sQ .none))
theorem f1M (x0 x1 x2 : Value) (w : World) (R : RT) (E : Pan) : d7s x0 x1 x2 w R E = callX Tryz.prog [.tmp 5] g0j g0k [x0, x1, x2] w R E := by kernel_rfl
theorem f1N {x0 x1 x2 : Value} (h : d7s x0 x1 x2 w R E) : Cv Tryz.prog 170 #[x0, x1, x2] w R E := by
 refine i6 (args := [x0, x1, x2]) (c := g0j) (h := g0k) (rs := [.tmp 5]) Tryz.func170 (by kernel_rfl) (by kernel_rfl) (nB (by kernel_rfl)) (by kernel_rfl) (by kernel_rfl) (by kernel_rfl) ?_
 rw [← f1M]
 exact h
def c6G (x3 x59 : Value) (w : World) (R : RT) (E : Pan) : Prop :=
 ∀ _τ : Fr, (xcond x59
 (oP E (xBin .eql 3 (.tmp 65) (.const (vI 2)) x3 (vI 2)) w fun g0l W7 =>
 R g0l W7)
 (R (vB false) w))
def c6H (x3 x38 x54 : Value) (w : World) (R : RT) (E : Pan) : Prop :=
 ∀ _τ : Fr, (xcond x54
 (oP E (xBin .eql 3 (.tmp 57) (.const (vI 1)) x3 (vI 1)) w fun g0m a0v =>
 R g0m a0v)
 (xcut (fun b9B a0E => c6G x3 (nth b9B 0) a0E R E) fun j3 =>
 oP E (xBin .eql 3 (.tmp 38) (.const (vI 6)) x38 (vI 6)) w fun b0b V7 =>
 xcond b0b
 (j3 [b0b] V7)
 (oP E (xBin .eql 3 (.tmp 38) (.const (vI 7)) x38 (vI 7)) V7 fun e2i U9 =>
 xcond e2i
 (j3 [e2i] U9)
 (oP E (xBin .eql 3 (.tmp 38) (.const (vI 8)) x38 (vI 8)) U9 fun e2j a0g =>
 xcond e2j
 (j3 [e2j] a0g)
 (oP E (xBin .eql 3 (.tmp 38) (.const (vI 9)) x38 (vI 9)) a0g fun e2k V0 =>
 xcond e2k
 (j3 [e2k] V0)
 (oP E (xBin .eql 3 (.tmp 38) (.const (vI 10)) x38 (vI 10)) V0 fun g0n a2o =>
 j3 [g0n] a2o))))))
def c6I (x3 x38 x49 : Value) (w : World) (R : RT) (E : Pan) : Prop :=
 ∀ _τ : Fr, (xcond x49
 (oP E (xBin .eql 3 (.tmp 52) (.const (vI 0)) x3 (vI 0)) w fun b9s Y7 =>
 R b9s Y7)
 (xcut (fun h8w a4E => c6H x3 x38 (nth h8w 0) a4E R E) fun j2 =>
 oP E (xBin .eql 3 (.tmp 38) (.const (vI 4)) x38 (vI 4)) w fun e2l a0h =>
 xcond e2l
 (j2 [e2l] a0h)
 (oP E (xBin .eql 3 (.tmp 38) (.const (vI 5)) x38 (vI 5)) a0h fun g0o a6d =>
 j2 [g0o] a6d)))
def d7t (x0 : Value) (w : World) (R : RT) (E : Pan) : Prop :=
 oP E (xV (Instr.box 136 x0)) w fun r5 w_2 =>
 oP E (fA 136 r5 0) w_2 fun a7n w_4 =>
 oP E (fA 53 a7n 3) w_4 fun a5v w_6 =>
 oP E (lA 51 a5v) w_6 fun a4F w_8 =>
 oP E (xBuiltin .len #[51] 3 [false] [a4F]) w_8 fun b2i q7 =>
 oP E (lA 136 r5) q7 fun a7h q9 =>
 oP E (xV (Instr.makeInterface 136 a7h)) q9 fun b1M p9 =>
 oP E (xCall (fC 143) [b1M]) p9 fun a6e s6 =>
 oP E (eX a6e 0) s6 fun _t14_17 u5 =>
 oP E (eX a6e 1) u5 fun a0D u9 =>
 oP E (fA 136 r5 0) u9 fun a0Y y6 =>
 oP E (fA 53 a0Y 0) y6 fun a7C z6 =>
 oP E (lA 3 a7C) z6 fun a1M A6 =>
 oP E (xBin .neq 3 (.tmp 18) (.const (vI 1)) a1M (vI 1)) A6 fun a7D D8 =>
 oP E (gsem (asB a7D) true (fA 136 r5 0)) D8 fun d0w K1 =>
 oP E (gsem (asB a7D) true (fA 53 d0w 1)) K1 fun d0x B7 =>
 oP E (gsem (asB a7D) true (lA 2 d0x)) B7 fun b9C B3 =>
 oP E (gsem (asB a7D) true (xBin .neq 2 (.tmp 23) (.const (vI 0)) b9C (vI 0))) B3 fun b3s J0 =>
 oP E (xPick a7D b3s (vB false)) J0 fun a0s I0 =>
 oP E (gsem (asB a0s) false (xV (Op.unary .not (gval (asB a0s) false a0D)))) I0 fun b9D G3 =>
 oP E (gsem (asB (gval (asB a0s) false b9D)) true (fA 136 r5 0)) G3 fun d0y G6 =>
 oP E (gsem (asB (gval (asB a0s) false b9D)) true (fA 53 d0y 2)) G6 fun d0z G4 =>
 oP E (gsem (asB (gval (asB a0s) false b9D)) true (lA 9 d0z)) G4 fun d0A O4 =>
 oP E (gsem (asB (gval (asB a0s) false b9D)) true (xBin .neq 9 (.tmp 32) (.const (eS)) d0A (eS))) O4 fun g0p N8 =>
 oP E (gsem (asB a0s) false (xPick (gval (asB a0s) false b9D) g0p (vB false))) N8 fun g0q M9 =>
 oP E (xPick a0s (vB true) g0q) M9 fun g0r K6 =>
 xcond g0r
 (R (vB false) K6)
 (oP E (fA 136 r5 0) K6 fun d0q N7 =>
 oP E (fA 53 d0q 0) N7 fun g0s O3 =>
 oP E (lA 3 g0s) O3 fun c4B M8 =>
 oP E (xBin .eql 3 (.tmp 38) (.const (vI 1)) c4B (vI 1)) M8 fun g0t Q4 =>
 xcond g0t
 (oP E (fA 136 r5 0) Q4 fun g0u P6 =>
 oP E (fA 53 g0u 1) P6 fun g0v Q5 =>
 oP E (lA 2 g0v) Q5 fun g0w S6 =>
 oP E (xBin .geq 2 (.tmp 43) (.const (vI 0)) g0w (vI 0)) S6 fun b9E Q8 =>
 oP E (gsem (asB b9E) true (xBin .eql 3 (.tmp 46) (.const (vI 0)) (gval (asB b9E) true b2i) (vI 0))) Q8 fun g0x Q3 =>
 oP E (xPick b9E g0x (vB false)) Q3 fun g0y W6 =>
 R g0y W6)
 (xcut (fun g0z a7m => c6I b2i c4B (nth g0z 0) a7m R E) fun j1 =>
 oP E (xBin .eql 3 (.tmp 38) (.const (vI 2)) c4B (vI 2)) Q4 fun e2m a1e =>
 xcond e2m
 (j1 [e2m] a1e)
 (oP E (xBin .eql 3 (.tmp 38) (.const (vI 3)) c4B (vI 3)) a1e fun f1O a0i =>
 j1 [f1O] a0i)))
noncomputable def g0A : Code := Tryz.f187.body.getD .skip
def g0B : Hint := (sQ (sQ (sQ (.seq (sQ (.cond (sQ .none) .none)) (.seq (sQ (.block (sQ (.cond (sQ .none) (.cut [49] (sQ (.cond .none .none)) (.cond (sQ .none) (.cut [54] (sQ (.cond .none .none)) (.cond (sQ .none) (.cut [59] (sQ (.cond .none (sQ (.cond .none (sQ (.cond .none (sQ (.cond .none .none)))))))) (.cond (sQ .none) .none)))))))))) (sQ .none))))))
theorem f1P (x0 : Value) (w : World) (R : RT) (E : Pan) : d7t x0 w R E = callX Tryz.prog [.tmp 2] g0A g0B [x0] w R E := by kernel_rfl
theorem f1Q {x0 : Value} (h : d7t x0 w R E) : Cv Tryz.prog 187 #[x0] w R E := by
 refine i6 (args := [x0]) (c := g0A) (h := g0B) (rs := [.tmp 2]) Tryz.func187 (by kernel_rfl) (by kernel_rfl) (nB (by kernel_rfl)) (by kernel_rfl) (by kernel_rfl) (by kernel_rfl) ?_
 rw [← f1P]
 exact h
def d7u (x0 : Value) (w : World) (R : RT) (E : Pan) : Prop :=
 oP E (xV (Instr.box 136 x0)) w fun r5 w_2 =>
 oP E (fA 136 r5 0) w_2 fun Y5 w_4 =>
 oP E (fA 53 Y5 3) w_4 fun a3S w_6 =>
 oP E (lA 51 a3S) w_6 fun a6A w_8 =>
 oP E (xCall (fC 189) [a6A, (fC 190)]) w_8 fun a9i q7 =>
 R a9i q7
noncomputable def g0C : Code := Tryz.f188.body.getD .skip
def g0D : Hint := (sQ (sQ .none))
theorem f1R (x0 : Value) (w : World) (R : RT) (E : Pan) : d7u x0 w R E = callX Tryz.prog [.tmp 2] g0C g0D [x0] w R E := by kernel_rfl
theorem f1S {x0 : Value} (h : d7u x0 w R E) : Cv Tryz.prog 188 #[x0] w R E := by
 refine i6 (args := [x0]) (c := g0C) (h := g0D) (rs := [.tmp 2]) Tryz.func188 (by kernel_rfl) (by kernel_rfl) (nB (by kernel_rfl)) (by kernel_rfl) (by kernel_rfl) (by kernel_rfl) ?_
 rw [← f1R]
 exact h
def c6J (x5 : Value) (w : World) (R : RT) (_E : Pan) : Prop :=
 ∀ _τ : Fr, (R x5 w)
def d5S (x1 x5 x8 x9 x10 : Value) (w : World) (next2 : NT) (j1 : NT) (_R : RT) (E : Pan) : Prop :=
 oP E (xBin .lss 3 (.tmp 10) (.tmp 9) x10 x9) w fun a5e w_6 =>
 xcond a5e
 (oP E (iA 51 x8 x10) w_6 fun a3k w_8 =>
 oP E (lA 53 a3k) w_8 fun a3l q7 =>
 oP E (xV (Instr.alloc 53 true (.tuple #[]))) q7 fun U6 q9 =>
 oP E (sA 53 U6 a3l) q9 fun _z_13 p9 =>
 oP E (lA 53 U6) p9 fun a3C s6 =>
 oP E (xCall x1 [a3C]) s6 fun a1N u5 =>
 oP E (xV (Instr.buildSlice 137 1 #[(0, a1N)])) u5 fun a1O u9 =>
 oP E (xBuiltin .append #[137, 137] 137 [false, false] [x5, a1O]) u9 fun a1P y6 =>
 oP E (xBin .add 3 (.tmp 10) (.const (vI 1)) x10 (vI 1)) y6 fun a1Q z6 =>
 next2 [a1P, a1Q] z6)
 (j1 [x5] w_6)
def d7v (x0 x1 : Value) (w : World) (R : RT) (E : Pan) : Prop :=
 xcut (fun l_1 w_2 => c6J (nth l_1 0) w_2 R E) fun j1 =>
 oP E (xBuiltin .len #[51] 3 [false] [x0]) w fun a0Q w_4 =>
 xloop [5, 10] [(nS), (vI 0)] w_4 fun τ_25 A6 next2 =>
 d5S x1 (τ_25 5) x0 a0Q (τ_25 10) A6 next2 j1 R E
noncomputable def g0E : Code := Tryz.f189.body.getD .skip
def g0F : Hint := (sQ (sQ (.cut [5] (sQ (.block (.loop [5, 10] (sQ (.seq (.cond .none .none) (.seq (.block (sQ .none)) .none)))))) (sQ .none))))
theorem f1T (x0 x1 : Value) (w : World) (R : RT) (E : Pan) : d7v x0 x1 w R E = callX Tryz.prog [.tmp 4] g0E g0F [x0, x1] w R E := by kernel_rfl
theorem f1U {x0 x1 : Value} (h : d7v x0 x1 w R E) : Cv Tryz.prog 189 #[x0, x1] w R E := by
 refine i6 (args := [x0, x1]) (c := g0E) (h := g0F) (rs := [.tmp 4]) Tryz.func189 (by kernel_rfl) (by kernel_rfl) (nB (by kernel_rfl)) (by kernel_rfl) (by kernel_rfl) (by kernel_rfl) ?_
 rw [← f1T]
 exact h
def d7w (x0 : Value) (w : World) (R : RT) (E : Pan) : Prop :=
 oP E (xV (Instr.box 53 x0)) w fun r5 w_2 =>
 oP E (lA 53 r5) w_2 fun Y5 w_4 =>
 oP E (xV (Instr.build 136 #[(0, Y5)])) w_4 fun a3S w_6 =>
 oP E (xV (Instr.makeInterface 136 a3S)) w_6 fun a6A w_8 =>
 R a6A w_8
noncomputable def g0G : Code := Tryz.f190.body.getD .skip
def g0H : Hint := (sQ (sQ .none))
theorem f1V (x0 : Value) (w : World) (R : RT) (E : Pan) : d7w x0 w R E = callX Tryz.prog [.tmp 2] g0G g0H [x0] w R E := by kernel_rfl
theorem f1W {x0 : Value} (h : d7w x0 w R E) : Cv Tryz.prog 190 #[x0] w R E := by
 refine i6 (args := [x0]) (c := g0G) (h := g0H) (rs := [.tmp 2]) Tryz.func190 (by kernel_rfl) (by kernel_rfl) (nB (by kernel_rfl)) (by kernel_rfl) (by kernel_rfl) (by kernel_rfl) ?_
 rw [← f1V]
 exact h
def c6K (x3 x50 : Value) (w : World) (R : RT) (E : Pan) : Prop :=
 ∀ _τ : Fr, (xcond x50
 (oP E (lA 236 x3) w fun d0B V0 =>
 oP E (xV (Instr.build 236 #[(0, (vI 0)), (1, (vI 2))])) V0 fun d0C a2o =>
 oP E (xBin .eql 236 (.tmp 53) (.tmp 54) d0B d0C) a2o fun d0D a4E =>
 R d0D a4E)
 (R (vB false) w))
def c6L (x3 x38 x39 : Value) (w : World) (R : RT) (E : Pan) : Prop :=
 ∀ _τ : Fr, (xcond x39
 (oP E (lA 236 x3) w fun g0I Y7 =>
 oP E (xV (Instr.build 236 #[])) Y7 fun g0J a0v =>
 oP E (xBin .eql 236 (.tmp 42) (.tmp 43) g0I g0J) a0v fun g0K W7 =>
 R g0K W7)
 (oP E (xBin .eql 3 (.tmp 38) (.const (vI 4)) x38 (vI 4)) w fun g0L a0E =>
 xcond g0L
 (oP E (lA 236 x3) a0E fun g0M V7 =>
 oP E (xV (Instr.build 236 #[(0, (vI 0)), (1, (vI 1))])) V7 fun g0N U9 =>
 oP E (xBin .eql 236 (.tmp 47) (.tmp 48) g0M g0N) U9 fun g0O a0g =>
 R g0O a0g)
 (xcut (fun d0E a0h => c6K x3 (nth d0E 0) a0h R E) fun j2 =>
 oP E (xBin .eql 3 (.tmp 38) (.const (vI 5)) x38 (vI 5)) a0E fun e2n a6d =>
 xcond e2n
 (j2 [e2n] a6d)
 (oP E (xBin .eql 3 (.tmp 38) (.const (vI 6)) x38 (vI 6)) a6d fun g0P a7m =>
 j2 [g0P] a7m))))
def d7x (x0 : Value) (w : World) (R : RT) (E : Pan) : Prop :=
 oP E (xV (Instr.box 143 x0)) w fun r5 w_2 =>
 oP E (fA 143 r5 0) w_2 fun a1t w_4 =>
 oP E (fA 59 a1t 2) w_4 fun b3x w_6 =>
 oP E (lA 51 b3x) w_6 fun a6f w_8 =>
 oP E (xBuiltin .len #[51] 3 [false] [a6f]) w_8 fun d0F q7 =>
 oP E (fA 143 r5 0) q7 fun c4o q9 =>
 oP E (fA 59 c4o 3) q9 fun c4C p9 =>
 oP E (lA 57 c4C) p9 fun d0G s6 =>
 oP E (xBuiltin .len #[57] 3 [false] [d0G]) s6 fun b6t u5 =>
 oP E (xV (Instr.build 236 #[(0, d0F), (1, b6t)])) u5 fun b1O u9 =>
 oP E (xV (Instr.alloc 236 true (.tuple #[]))) u9 fun d7y y6 =>
 oP E (sA 236 d7y b1O) y6 fun _z_23 z6 =>
 oP E (fA 143 r5 0) z6 fun d0H A6 =>
 oP E (fA 59 d0H 0) A6 fun g0Q D8 =>
 oP E (lA 3 g0Q) D8 fun g0R K1 =>
 oP E (xBin .eql 3 (.tmp 15) (.const (vI 3)) g0R (vI 3)) K1 fun g0S B7 =>
 xcond g0S
 (oP E (fA 143 r5 0) B7 fun d0a B3 =>
 oP E (fA 59 d0a 1) B3 fun b9p J0 =>
 oP E (lA 3 b9p) J0 fun g0T I0 =>
 oP E (xBin .geq 3 (.tmp 19) (.const (vI 1)) g0T (vI 1)) I0 fun b9F G3 =>
 oP E (gsem (asB b9F) true (fA 143 r5 0)) G3 fun g0U G6 =>
 oP E (gsem (asB b9F) true (fA 59 g0U 1)) G6 fun g0V G4 =>
 oP E (gsem (asB b9F) true (lA 3 g0V)) G4 fun g0W O4 =>
 oP E (gsem (asB b9F) true (xBin .leq 3 (.tmp 24) (.const (vI 6)) g0W (vI 6))) O4 fun g0X N8 =>
 oP E (xPick b9F g0X (vB false)) N8 fun c4D M9 =>
 oP E (gsem (asB c4D) true (lA 236 d7y)) M9 fun b9G K6 =>
 oP E (gsem (asB c4D) true (xV (Instr.build 236 #[(0, (vI 2)), (1, (vI 0))]))) K6 fun g0Y N7 =>
 oP E (gsem (asB c4D) true (xBin .eql 236 (.tmp 28) (.tmp 29) b9G g0Y)) N7 fun g0Z O3 =>
 oP E (xPick c4D g0Z (vB false)) O3 fun g1a M8 =>
 R g1a M8)
 (oP E (fA 143 r5 0) B7 fun d0I Q4 =>
 oP E (fA 59 d0I 1) Q4 fun d0J P6 =>
 oP E (lA 3 d0J) P6 fun d0K Q5 =>
 oP E (xBin .neq 3 (.tmp 34) (.const (vI 0)) d0K (vI 0)) Q5 fun g1b S6 =>
 xcond g1b
 (R (vB false) S6)
 (oP E (fA 143 r5 0) S6 fun g1c Q8 =>
 oP E (fA 59 g1c 0) Q8 fun c9P Q3 =>
 oP E (lA 3 c9P) Q3 fun d0L W6 =>
 xcut (fun h8x a1e => c6L d7y d0L (nth h8x 0) a1e R E) fun j1 =>
 oP E (xBin .eql 3 (.tmp 38) (.const (vI 1)) d0L (vI 1)) W6 fun d5T a0i =>
 xcond d5T
 (j1 [d5T] a0i)
 (oP E (xBin .eql 3 (.tmp 38) (.const (vI 2)) d0L (vI 2)) a0i fun f1X a0J =>
 j1 [f1X] a0J)))
noncomputable def g1d : Code := Tryz.f191.body.getD .skip
def g1e : Hint := (sQ (sQ (.seq (sQ (.cond (sQ .none) .none)) (.seq (sQ (.cond (sQ .none) .none)) (.seq (sQ (.block (.cut [39] (sQ (.cond .none .none)) (.cond (sQ .none) (sQ (.cond (sQ .none) (.cut [50] (sQ (.cond .none .none)) (.cond (sQ .none) .none)))))))) (sQ .none))))))
theorem f1Y (x0 : Value) (w : World) (R : RT) (E : Pan) : d7x x0 w R E = callX Tryz.prog [.tmp 2] g1d g1e [x0] w R E := by kernel_rfl
theorem f1Z {x0 : Value} (h : d7x x0 w R E) : Cv Tryz.prog 191 #[x0] w R E := by
 refine i6 (args := [x0]) (c := g1d) (h := g1e) (rs := [.tmp 2]) Tryz.func191 (by kernel_rfl) (by kernel_rfl) (nB (by kernel_rfl)) (by kernel_rfl) (by kernel_rfl) (by kernel_rfl) ?_
 rw [← f1Y]
 exact h
def d7z (x0 : Value) (w : World) (R : RT) (E : Pan) : Prop :=
 oP E (xV (Instr.box 143 x0)) w fun r5 w_2 =>
 dX w_2 fun w_3 =>
 qP Tryz.prog (fA 143 r5 0) fun c6r =>
 qP Tryz.prog (fA 59 c6r 2) fun a3S =>
 qP Tryz.prog (fA 143 r5 0) fun e5i =>
 qP Tryz.prog (fA 59 e5i 3) fun a4F =>
 qL Tryz.prog w_3 (blk a3S) (lA 51 a3S) fun c9R =>
 qL Tryz.prog w_3 (blk a4F) (lA 57 a4F) fun b2i =>
 oP E (xCall (fC 189) [c9R, (fC 190)]) w_3 fun h4A R1 =>
 keepX [(blk a4F)] w_3 R1 (opK Tryz.prog E (xCall (fC 193) [b2i, (fC 194)]) R1 fun g1f a0e =>
 keepX [] R1 a0e (opK Tryz.prog E (xV (Instr.buildSlice 179 2 #[(0, h4A), (1, g1f)])) a0e fun g1g c2A =>
 keepX [] a0e c2A (opK Tryz.prog E (xCall (fC 75) [g1g]) c2A fun g1h X8 =>
 keepX [] c2A X8 (R g1h X8))))
noncomputable def g1i : Code := Tryz.f192.body.getD .skip
def g1j : Hint := (sQ (.seq (.reg [(0, 8, 2), (1, 16, 8), (2, 32, 16), (4, 64, 32), (0, 128, 2), (16, 256, 128), (32, 512, 256), (72, 1024, 512), (136, 2048, 1088), (384, 4096, 2048), (1023, 4, 4096)] [68, 68, 64, 64, 68, 68, 4, 0, 0, 0, 68] (.early 0 (.early 1 (.early 4 (.early 5 (.load 2 (.load 6 (.step 3 (.step 7 (.step 8 (.step 9 (.early 10 .done)))))))))))) .none))
theorem f2a (x0 : Value) (w : World) (R : RT) (E : Pan) : d7z x0 w R E = callX Tryz.prog [.tmp 2] g1i g1j [x0] w R E := by kernel_rfl
theorem f2b {x0 : Value} (h : d7z x0 w R E) : Cv Tryz.prog 192 #[x0] w R E := by
 refine i6 (args := [x0]) (c := g1i) (h := g1j) (rs := [.tmp 2]) Tryz.func192 (by kernel_rfl) (by kernel_rfl) (nB (by kernel_rfl)) (by kernel_rfl) (by kernel_rfl) (by kernel_rfl) ?_
 rw [← f2a]
 exact h
def c6M (x5 : Value) (w : World) (R : RT) (_E : Pan) : Prop :=
 ∀ _τ : Fr, (R x5 w)
def d5U (x1 x5 x8 x9 x10 : Value) (w : World) (next2 : NT) (j1 : NT) (_R : RT) (E : Pan) : Prop :=
 oP E (xBin .lss 3 (.tmp 10) (.tmp 9) x10 x9) w fun a5e w_6 =>
 xcond a5e
 (oP E (iA 57 x8 x10) w_6 fun a3k w_8 =>
 oP E (lA 59 a3k) w_8 fun a3l q7 =>
 oP E (xV (Instr.alloc 59 true (.tuple #[]))) q7 fun U6 q9 =>
 oP E (sA 59 U6 a3l) q9 fun _z_13 p9 =>
 oP E (lA 59 U6) p9 fun a3C s6 =>
 oP E (xCall x1 [a3C]) s6 fun a1N u5 =>
 oP E (xV (Instr.buildSlice 137 1 #[(0, a1N)])) u5 fun a1O u9 =>
 oP E (xBuiltin .append #[137, 137] 137 [false, false] [x5, a1O]) u9 fun a1P y6 =>
 oP E (xBin .add 3 (.tmp 10) (.const (vI 1)) x10 (vI 1)) y6 fun a1Q z6 =>
 next2 [a1P, a1Q] z6)
 (j1 [x5] w_6)
def d7A (x0 x1 : Value) (w : World) (R : RT) (E : Pan) : Prop :=
 xcut (fun l_1 w_2 => c6M (nth l_1 0) w_2 R E) fun j1 =>
 oP E (xBuiltin .len #[57] 3 [false] [x0]) w fun a0Q w_4 =>
 xloop [5, 10] [(nS), (vI 0)] w_4 fun τ_25 A6 next2 =>
 d5U x1 (τ_25 5) x0 a0Q (τ_25 10) A6 next2 j1 R E
noncomputable def g1k : Code := Tryz.f193.body.getD .skip
def g1l : Hint := (sQ (sQ (.cut [5] (sQ (.block (.loop [5, 10] (sQ (.seq (.cond .none .none) (.seq (.block (sQ .none)) .none)))))) (sQ .none))))
theorem f2c (x0 x1 : Value) (w : World) (R : RT) (E : Pan) : d7A x0 x1 w R E = callX Tryz.prog [.tmp 4] g1k g1l [x0, x1] w R E := by kernel_rfl
theorem f2d {x0 x1 : Value} (h : d7A x0 x1 w R E) : Cv Tryz.prog 193 #[x0, x1] w R E := by
 refine i6 (args := [x0, x1]) (c := g1k) (h := g1l) (rs := [.tmp 4]) Tryz.func193 (by kernel_rfl) (by kernel_rfl) (nB (by kernel_rfl)) (by kernel_rfl) (by kernel_rfl) (by kernel_rfl) ?_
 rw [← f2c]
 exact h
def d7B (x0 : Value) (w : World) (R : RT) (E : Pan) : Prop :=
 oP E (xV (Instr.box 59 x0)) w fun r5 w_2 =>
 oP E (lA 59 r5) w_2 fun Y5 w_4 =>
 oP E (xV (Instr.build 143 #[(0, Y5)])) w_4 fun a3S w_6 =>
 oP E (xV (Instr.makeInterface 143 a3S)) w_6 fun a6A w_8 =>
 R a6A w_8
noncomputable def g1m : Code := Tryz.f194.body.getD .skip
def g1n : Hint := (sQ (sQ .none))
theorem f2e (x0 : Value) (w : World) (R : RT) (E : Pan) : d7B x0 w R E = callX Tryz.prog [.tmp 2] g1m g1n [x0] w R E := by kernel_rfl
theorem f2f {x0 : Value} (h : d7B x0 w R E) : Cv Tryz.prog 194 #[x0] w R E := by
 refine i6 (args := [x0]) (c := g1m) (h := g1n) (rs := [.tmp 2]) Tryz.func194 (by kernel_rfl) (by kernel_rfl) (nB (by kernel_rfl)) (by kernel_rfl) (by kernel_rfl) (by kernel_rfl) ?_
 rw [← f2e]
 exact h
def d7C (x0 : Value) (w : World) (R : RT) (E : Pan) : Prop :=
 oP E (xV (Instr.box 182 x0)) w fun r5 w_2 =>
 oP E (fA 182 r5 0) w_2 fun Y5 w_4 =>
 oP E (fA 71 Y5 1) w_4 fun a3S w_6 =>
 oP E (lA 3 a3S) w_6 fun a6A w_8 =>
 oP E (xBin .geq 3 (.tmp 5) (.const (vI 0)) a6A (vI 0)) w_8 fun a9i q7 =>
 oP E (gsem (asB a9i) true (fA 182 r5 0)) q7 fun c4o q9 =>
 oP E (gsem (asB a9i) true (fA 71 c4o 1)) q9 fun c4C p9 =>
 oP E (gsem (asB a9i) true (lA 3 c4C)) p9 fun d0G s6 =>
 oP E (gsem (asB a9i) true (xBin .leq 3 (.tmp 10) (.const (vI 2147483647)) d0G (vI 2147483647))) s6 fun b6t u5 =>
 oP E (xPick a9i b6t (vB false)) u5 fun b1O u9 =>
 R b1O u9
noncomputable def g1o : Code := Tryz.f195.body.getD .skip
def g1p : Hint := (sQ (sQ .none))
theorem f2g (x0 : Value) (w : World) (R : RT) (E : Pan) : d7C x0 w R E = callX Tryz.prog [.tmp 2] g1o g1p [x0] w R E := by kernel_rfl
theorem f2h {x0 : Value} (h : d7C x0 w R E) : Cv Tryz.prog 195 #[x0] w R E := by
 refine i6 (args := [x0]) (c := g1o) (h := g1p) (rs := [.tmp 2]) Tryz.func195 (by kernel_rfl) (by kernel_rfl) (nB (by kernel_rfl)) (by kernel_rfl) (by kernel_rfl) (by kernel_rfl) ?_
 rw [← f2g]
 exact h
def d7D (x0 : Value) (w : World) (R : RT) (E : Pan) : Prop :=
 oP E (xV (Instr.box 182 x0)) w fun _t1_1 w_2 =>
 R (nS) w_2
noncomputable def g1q : Code := Tryz.f196.body.getD .skip
def g1r : Hint := (sQ (sQ .none))
theorem f2i (x0 : Value) (w : World) (R : RT) (E : Pan) : d7D x0 w R E = callX Tryz.prog [.tmp 2] g1q g1r [x0] w R E := by kernel_rfl
theorem f2j {x0 : Value} (h : d7D x0 w R E) : Cv Tryz.prog 196 #[x0] w R E := by
 refine i6 (args := [x0]) (c := g1q) (h := g1r) (rs := [.tmp 2]) Tryz.func196 (by kernel_rfl) (by kernel_rfl) (nB (by kernel_rfl)) (by kernel_rfl) (by kernel_rfl) (by kernel_rfl) ?_
 rw [← f2i]
 exact h
def c6N (x4 x5 x35 x83 : Value) (w : World) (R : RT) (E : Pan) : Prop :=
 ∀ _τ : Fr, (xcond x83
 (oP E (gsem (asB x5) true (lA 240 x4)) w fun f2k a8i =>
 oP E (gsem (asB x5) true (xV (Instr.build 240 #[(0, (vI 0)), (1, (vI 1))]))) a8i fun f2l b0d =>
 oP E (gsem (asB x5) true (xBin .eql 240 (.tmp 88) (.tmp 89) f2k f2l)) b0d fun f2m b1A =>
 oP E (xPick x5 f2m (vB false)) b1A fun f2n b2C =>
 R f2n b2C)
 (oP E (xBin .eql 3 (.tmp 35) (.const (vI 7)) x35 (vI 7)) w fun f2o b2D =>
 xcond f2o
 (oP E (gsem (asB x5) true (lA 240 x4)) b2D fun f2p b1B =>
 oP E (gsem (asB x5) true (xV (Instr.build 240 #[]))) b1B fun f2q b7z =>
 oP E (gsem (asB x5) true (xBin .eql 240 (.tmp 96) (.tmp 97) f2p f2q)) b7z fun f2r c4E =>
 oP E (xPick x5 f2r (vB false)) c4E fun f2s c4F =>
 R f2s c4F)
 (R (vB false) b2D)))
def d7E (x0 : Value) (w : World) (R : RT) (E : Pan) : Prop :=
 oP E (xV (Instr.box 184 x0)) w fun r5 w_2 =>
 oP E (fA 184 r5 0) w_2 fun a7n w_4 =>
 oP E (fA 73 a7n 4) w_4 fun a5v w_6 =>
 oP E (lA 23 a5v) w_6 fun a4F w_8 =>
 oP E (xBuiltin .len #[23] 3 [false] [a4F]) w_8 fun b2i q7 =>
 oP E (fA 184 r5 0) q7 fun a8I q9 =>
 oP E (fA 73 a8I 5) q9 fun a4d p9 =>
 oP E (lA 23 a4d) p9 fun a9Y s6 =>
 oP E (xBuiltin .len #[23] 3 [false] [a9Y]) s6 fun T9 u5 =>
 oP E (xBin .add 3 (.tmp 9) (.tmp 13) b2i T9) u5 fun g1s u9 =>
 oP E (xBin .gtr 3 (.tmp 14) (.const (vI 0)) g1s (vI 0)) u9 fun d0M y6 =>
 oP E (fA 184 r5 0) y6 fun d0N z6 =>
 oP E (fA 73 d0N 2) z6 fun b9H A6 =>
 oP E (lA 51 b9H) A6 fun d0O D8 =>
 oP E (xBuiltin .len #[51] 3 [false] [d0O]) D8 fun d0P K1 =>
 oP E (fA 184 r5 0) K1 fun d0Q B7 =>
 oP E (fA 73 d0Q 3) B7 fun b6u B3 =>
 oP E (lA 57 b6u) B3 fun b9I J0 =>
 oP E (xBuiltin .len #[57] 3 [false] [b9I]) J0 fun b9J I0 =>
 oP E (xV (Instr.build 240 #[(0, d0P), (1, b9J)])) I0 fun d0R G3 =>
 oP E (xV (Instr.alloc 240 true (.tuple #[]))) G3 fun c1h G6 =>
 oP E (sA 240 c1h d0R) G6 fun _z_43 G4 =>
 oP E (fA 184 r5 0) G4 fun g1t O4 =>
 oP E (fA 73 g1t 1) O4 fun g1u N8 =>
 oP E (lA 9 g1u) N8 fun g1v M9 =>
 oP E (xBin .eql 9 (.tmp 27) (.const (eS)) g1v (eS)) M9 fun b9G K6 =>
 oP E (gsem (asB b9G) true (xV (Op.unary .not (gval (asB b9G) true d0M)))) K6 fun g1w N7 =>
 oP E (xPick b9G g1w (vB false)) N7 fun g1x O3 =>
 oP E (fA 184 r5 0) O3 fun g1y M8 =>
 oP E (fA 73 g1y 0) M8 fun g1z Q4 =>
 oP E (lA 3 g1z) Q4 fun b3y P6 =>
 oP E (xBin .eql 3 (.tmp 35) (.const (vI 1)) b3y (vI 1)) P6 fun g1A Q5 =>
 xcond g1A
 (oP E (xV (Op.unary .not d0M)) Q5 fun c4G S6 =>
 oP E (gsem (asB c4G) true (lA 240 c1h)) S6 fun g1B Q8 =>
 oP E (gsem (asB c4G) true (xV (Instr.build 240 #[(0, (vI 1)), (1, (vI 0))]))) Q8 fun g1C Q3 =>
 oP E (gsem (asB c4G) true (xBin .eql 240 (.tmp 41) (.tmp 42) g1B g1C)) Q3 fun g1D W6 =>
 oP E (xPick c4G g1D (vB false)) W6 fun g1E Y7 =>
 R g1E Y7)
 (oP E (xBin .eql 3 (.tmp 35) (.const (vI 2)) b3y (vI 2)) Q5 fun d0S a0v =>
 xcond d0S
 (oP E (xV (Op.unary .not d0M)) a0v fun b1P W7 =>
 oP E (gsem (asB b1P) true (lA 240 c1h)) W7 fun g1F a0E =>
 oP E (gsem (asB b1P) true (xV (Instr.build 240 #[(0, (vI 2)), (1, (vI 0))]))) a0E fun g1G V7 =>
 oP E (gsem (asB b1P) true (xBin .eql 240 (.tmp 50) (.tmp 51) g1F g1G)) V7 fun d0T U9 =>
 oP E (xPick b1P d0T (vB false)) U9 fun d0U a0g =>
 R d0U a0g)
 (oP E (xBin .eql 3 (.tmp 35) (.const (vI 3)) b3y (vI 3)) a0v fun g1H V0 =>
 xcond g1H
 (oP E (fA 184 r5 0) V0 fun g1I a2o =>
 oP E (fA 73 g1I 1) a2o fun g1J a4E =>
 oP E (lA 9 g1J) a4E fun g1K a0h =>
 oP E (xBin .eql 9 (.tmp 58) (.const (eS)) g1K (eS)) a0h fun c4H a6d =>
 oP E (gsem (asB c4H) true (lA 240 c1h)) a6d fun g1L a7m =>
 oP E (gsem (asB c4H) true (xV (Instr.build 240 #[(0, (vI 0)), (1, (vI 1))]))) a7m fun g1M a1e =>
 oP E (gsem (asB c4H) true (xBin .eql 240 (.tmp 61) (.tmp 62) g1L g1M)) a1e fun f2t a0i =>
 oP E (xPick c4H f2t (vB false)) a0i fun f2u a0J =>
 R f2u a0J)
 (oP E (xBin .eql 3 (.tmp 35) (.const (vI 4)) b3y (vI 4)) V0 fun f2v a3H =>
 xcond f2v
 (oP E (fA 184 r5 0) a3H fun f2w a6B =>
 oP E (fA 73 f2w 1) a6B fun f2x a8X =>
 oP E (lA 9 f2x) a8X fun f2y a7v =>
 oP E (xBin .eql 9 (.tmp 69) (.const (eS)) f2y (eS)) a7v fun b3c a1f =>
 oP E (gsem (asB b3c) true (fA 184 r5 0)) a1f fun f2z a3m =>
 oP E (gsem (asB b3c) true (fA 73 f2z 5)) a3m fun f2A a7w =>
 oP E (gsem (asB b3c) true (lA 23 f2A)) a7w fun f2B a0K =>
 oP E (gsem (asB b3c) true (xBuiltin .len #[23] 3 [false] [f2B])) a0K fun f2C a6C =>
 oP E (gsem (asB b3c) true (xBin .eql 3 (.tmp 75) (.const (vI 0)) f2C (vI 0))) a6C fun f2D a8j =>
 oP E (xPick b3c f2D (vB false)) a8j fun c1i a8Y =>
 oP E (gsem (asB c1i) true (lA 240 c1h)) a8Y fun f2E b0e =>
 oP E (gsem (asB c1i) true (xV (Instr.build 240 #[(0, (vI 0)), (1, (vI 1))]))) b0e fun f2F a7x =>
 oP E (gsem (asB c1i) true (xBin .eql 240 (.tmp 79) (.tmp 80) f2E f2F)) a7x fun f2G a5f =>
 oP E (xPick c1i f2G (vB false)) a5f fun f2H a5g =>
 R f2H a5g)
 (xcut (fun h4B c4I => c6N c1h g1x b3y (nth h4B 0) c4I R E) fun j1 =>
 oP E (xBin .eql 3 (.tmp 35) (.const (vI 5)) b3y (vI 5)) a3H fun d5V c1j =>
 xcond d5V
 (j1 [d5V] c1j)
 (oP E (xBin .eql 3 (.tmp 35) (.const (vI 6)) b3y (vI 6)) c1j fun f2I b7A =>
 j1 [f2I] b7A)))))
noncomputable def g1N : Code := Tryz.f197.body.getD .skip
def g1O : Hint := (sQ (sQ (sQ (sQ (.seq (sQ (.block (sQ (.cond (sQ .none) (sQ (.cond (sQ .none) (sQ (.cond (sQ .none) (sQ (.cond (sQ .none) (.cut [83] (sQ (.cond .none .none)) (.cond (sQ .none) (sQ (.cond (sQ .none) .none)))))))))))))) (sQ .none))))))
theorem f2J (x0 : Value) (w : World) (R : RT) (E : Pan) : d7E x0 w R E = callX Tryz.prog [.tmp 2] g1N g1O [x0] w R E := by kernel_rfl
theorem f2K {x0 : Value} (h : d7E x0 w R E) : Cv Tryz.prog 197 #[x0] w R E := by
 refine i6 (args := [x0]) (c := g1N) (h := g1O) (rs := [.tmp 2]) Tryz.func197 (by kernel_rfl) (by kernel_rfl) (nB (by kernel_rfl)) (by kernel_rfl) (by kernel_rfl) (by kernel_rfl) ?_
 rw [← f2J]
 exact h
def d7F (x0 : Value) (w : World) (R : RT) (E : Pan) : Prop :=
 oP E (xV (Instr.box 184 x0)) w fun r5 w_2 =>
 dX w_2 fun w_3 =>
 qP Tryz.prog (fA 184 r5 0) fun c6r =>
 qP Tryz.prog (fA 73 c6r 3) fun a3S =>
 qP Tryz.prog (fA 184 r5 0) fun e5i =>
 qP Tryz.prog (fA 73 e5i 2) fun a4F =>
 qP Tryz.prog (fA 184 r5 0) fun h4C =>
 qP Tryz.prog (fA 73 h4C 4) fun b1C =>
 qP Tryz.prog (fA 184 r5 0) fun g1P =>
 qP Tryz.prog (fA 73 g1P 5) fun a7F =>
 qL Tryz.prog w_3 (blk a3S) (lA 57 a3S) fun h4D =>
 qL Tryz.prog w_3 (blk a4F) (lA 51 a4F) fun c4C =>
 qL Tryz.prog w_3 (blk b1C) (lA 23 b1C) fun g1Q =>
 qL Tryz.prog w_3 (blk a7F) (lA 23 a7F) fun a6c =>
 oP E (xCall (fC 193) [h4D, (fC 194)]) w_3 fun h4E X8 =>
 keepX [(blk a7F), (blk b1C), (blk a4F)] w_3 X8 (opK Tryz.prog E (xCall (fC 189) [c4C, (fC 190)]) X8 fun g1R Y6 =>
 keepX [(blk a7F), (blk b1C)] X8 Y6 (opK Tryz.prog E (xCall (fC 78) [g1Q, (fC 79)]) Y6 fun g1S a0f =>
 keepX [(blk a7F)] Y6 a0f (opK Tryz.prog E (xCall (fC 78) [a6c, (fC 79)]) a0f fun g1T a0R =>
 keepX [] a0f a0R (opK Tryz.prog E (xV (Instr.buildSlice 179 4 #[(0, h4E), (1, g1R), (2, g1S), (3, g1T)])) a0R fun g1U a7l =>
 keepX [] a0R a7l (opK Tryz.prog E (xCall (fC 75) [g1U]) a7l fun g1V Z6 =>
 keepX [] a7l Z6 (R g1V Z6))))))
noncomputable def g1W : Code := Tryz.f198.body.getD .skip
def g1X : Hint := (sQ (.seq (.reg [(0, 8, 2), (1, 16, 8), (2, 32, 16), (4, 64, 32), (0, 128, 2), (16, 256, 128), (32, 512, 256), (72, 1024, 512), (0, 2048, 2), (256, 4096, 2048), (512, 8192, 4096), (1152, 16384, 8192), (0, 32768, 2), (4096, 65536, 32768), (8192, 131072, 65536), (18432, 262144, 131072), (34952, 524288, 279616), (98304, 1048576, 524288), (262143, 4, 1048576)] [17476, 17476, 17472, 17472, 17476, 17476, 17412, 17408, 17476, 17476, 16452, 16384, 17476, 17476, 1092, 0, 0, 0, 17476] (.early 0 (.early 1 (.early 4 (.early 5 (.early 8 (.early 9 (.early 12 (.early 13 (.load 2 (.load 6 (.load 10 (.load 14 (.step 3 (.step 7 (.step 11 (.step 15 (.step 16 (.step 17 (.early 18 .done)))))))))))))))))))) .none))
theorem f2L (x0 : Value) (w : World) (R : RT) (E : Pan) : d7F x0 w R E = callX Tryz.prog [.tmp 2] g1W g1X [x0] w R E := by kernel_rfl
theorem f2M {x0 : Value} (h : d7F x0 w R E) : Cv Tryz.prog 198 #[x0] w R E := by
 refine i6 (args := [x0]) (c := g1W) (h := g1X) (rs := [.tmp 2]) Tryz.func198 (by kernel_rfl) (by kernel_rfl) (nB (by kernel_rfl)) (by kernel_rfl) (by kernel_rfl) (by kernel_rfl) ?_
 rw [← f2L]
 exact h
end Go.Proofs.YtnhkdkcgdcgmdaaGreatDoor
