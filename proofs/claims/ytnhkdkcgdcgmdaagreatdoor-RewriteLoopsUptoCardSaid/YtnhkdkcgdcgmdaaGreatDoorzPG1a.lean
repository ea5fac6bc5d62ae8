/- The second reading of some of the program's functions, printed by gen2.py off the code; each is held against the code by the kernel. -/
import Derived.Test.YtnhkdkcgdcgmdaaGreatDoorProg
import Derived.Test.YtnhkdkcgdcgmdaaGreatDoorzPK0
import Derived.KernelRfl
import Derived.Test.YtnhkdkcgdcgmdaaGreatDoorzPGz
namespace Go.Proofs.YtnhkdkcgdcgmdaaGreatDoor
open Go.RowKit
set_option maxRecDepth 100000
variable {w : World} {R : RT} {E : Pan}
def f6n (w : World) (R : RT) (_E : Pan) : Prop :=
 ∀ _τ : Fr, (R (vB true) w)
def f6o (x2 x3 x5 : Value) (w : World) (next2 : NT) (j1 : NT) (R : RT) (E : Pan) : Prop :=
 oP E (fA 25 x2 0) w fun c8K M2 =>
 oP E (lA 22 c8K) M2 fun c8L O0 =>
 oP E (xBuiltin .len #[22] 3 [false] [c8L]) O0 fun b2H O8 =>
 oP E (xBin .lss 3 (.tmp 31) (.tmp 34) x5 b2H) O8 fun f6p O9 =>
 xcond f6p
 (dX O9 fun b4S =>
 qP Tryz.prog (fA 25 x2 0) fun d9J =>
 qP Tryz.prog (fA 25 x3 0) fun d9K =>
 qL Tryz.prog b4S (blk d9J) (lA 22 d9J) fun c8M =>
 qP Tryz.prog (iA 22 c8M x5) fun d9L =>
 qL Tryz.prog b4S (blk d9L) (lA 71 d9L) fun f6q =>
 qL Tryz.prog b4S (blk d9K) (lA 22 d9K) fun f6r =>
 qP Tryz.prog (iA 22 f6r x5) fun c3J =>
 qL Tryz.prog b4S (blk c3J) (lA 71 c3J) fun c8N =>
 qP Tryz.prog (xBin .neq 71 (.tmp 42) (.tmp 47) f6q c8N) fun c8O =>
 xcond c8O
 (R (vB false) b4S)
 (oP E (xBin .add 3 (.tmp 36) (.const (vI 1)) x5 (vI 1)) b4S fun c8P S3 =>
 next2 [c8P] S3))
 (j1 [] O9)
def F11 (x0 x1 : Value) (w : World) (R : RT) (E : Pan) : Prop :=
 oP E (xV (Instr.box 25 x0)) w fun U4 w_2 =>
 oP E (xV (Instr.box 25 x1)) w_2 fun a0p w_4 =>
 oP E (lA 25 U4) w_4 fun a9s w_6 =>
 oP E (xCall (fC 29) [a9s]) w_6 fun b1v w_8 =>
 oP E (xV (Op.unary .not b1v)) w_8 fun a5n o7 =>
 oP E (gsem (asB a5n) false (lA 25 a0p)) o7 fun b8N p7 =>
 oP E (gsem (asB a5n) false (xCall (fC 29) [b8N])) p7 fun a4Y o8 =>
 oP E (gsem (asB a5n) false (xV (Op.unary .not a4Y))) o8 fun b2I r5 =>
 oP E (xPick a5n (vB true) b2I) r5 fun U7 t8 =>
 oP E (gsem (asB U7) false (fA 25 U4 0)) t8 fun a3v t7 =>
 oP E (gsem (asB U7) false (lA 22 a3v)) t7 fun a3W u6 =>
 oP E (gsem (asB U7) false (xBuiltin .len #[22] 3 [false] [a3W])) u6 fun a7p v6 =>
 oP E (gsem (asB U7) false (fA 25 a0p 0)) v6 fun a3w y7 =>
 oP E (gsem (asB U7) false (lA 22 a3w)) y7 fun a7q C4 =>
 oP E (gsem (asB U7) false (xBuiltin .len #[22] 3 [false] [a7q])) C4 fun b8O H7 =>
 oP E (gsem (asB U7) false (xBin .neq 3 (.tmp 17) (.tmp 20) a7p b8O)) H7 fun a8r D6 =>
 oP E (xPick U7 (vB true) a8r) D6 fun a5N A6 =>
 oP E (gsem (asB a5N) false (fA 25 U4 1)) A6 fun b2J K5 =>
 oP E (gsem (asB a5N) false (lA 23 b2J)) K5 fun a0k K0 =>
 oP E (gsem (asB a5N) false (fA 25 a0p 1)) K0 fun c8Q H9 =>
 oP E (gsem (asB a5N) false (lA 23 c8Q)) H9 fun b2K I0 =>
 oP E (gsem (asB a5N) false (xCall (fC 30) [a0k, b2K])) I0 fun f6s K6 =>
 oP E (gsem (asB a5N) false (xV (Op.unary .not f6s))) K6 fun f6t M9 =>
 oP E (xPick a5N (vB true) f6t) M9 fun f6u O1 =>
 xcond f6u
 (R (vB false) O1)
 (xcut (fun _ N8 => f6n N8 R E) fun j1 =>
 xloop [5] [(vI 0)] O1 fun τ_71 Z1 next2 =>
 f6o U4 a0p (τ_71 5) Z1 next2 j1 R E)
def F24 (x0 : Value) (w : World) (R : RT) (E : Pan) : Prop :=
 oP E (xV (Instr.box 25 x0)) w fun q7 w_2 =>
 oP E (lA 25 q7) w_2 fun a0p w_4 =>
 oP E (xCall (fC 43) [a0p]) w_4 fun a3L w_6 =>
 oP E (xNil a3L) w_6 fun a6l w_8 =>
 oP E (fA 101 a6l 2) w_8 fun b0d o7 =>
 oP E (lA 27 b0d) o7 fun U1 p7 =>
 R U1 p7
noncomputable def c24 : Code := Tryz.f24.body.getD .skip
def h24 : Hint := (sQ (sQ .none))
theorem f6v (x0 : Value) (w : World) (R : RT) (E : Pan) : F24 x0 w R E = callX Tryz.prog [.tmp 2] c24 h24 [x0] w R E := by kernel_rfl
theorem f6w {x0 : Value} (h : F24 x0 w R E) : Cv Tryz.prog 24 #[x0] w R E := by
 refine i7 (args := [x0]) (c := c24) (h := h24) (rs := [.tmp 2]) Tryz.func24 (by kernel_rfl) (by kernel_rfl) (nB (by kernel_rfl)) (by kernel_rfl) (by kernel_rfl) (by kernel_rfl) ?_
 rw [← f6v]
 exact h
def F39 (x0 : Value) (w : World) (R : RT) (E : Pan) : Prop :=
 oP E (xV (Instr.box 53 x0)) w fun q7 w_2 =>
 oP E (lA 53 q7) w_2 fun a0p w_4 =>
 oP E (xV (Instr.build 136 #[(0, a0p)])) w_4 fun a3L w_6 =>
 oP E (xV (Instr.makeInterface 136 a3L)) w_6 fun a6l w_8 =>
 oP E (xV (Instr.buildSlice 137 1 #[(0, a6l)])) w_8 fun b0d o7 =>
 oP E (xCall (fC 65) [b0d]) o7 fun U1 p7 =>
 oP E (xNil U1) p7 fun b6M o8 =>
 oP E (fA 101 b6M 2) o8 fun d5B r5 =>
 oP E (lA 27 d5B) r5 fun b2L t8 =>
 R b2L t8
noncomputable def c39 : Code := Tryz.f39.body.getD .skip
def h39 : Hint := (sQ (sQ .none))
theorem f6x (x0 : Value) (w : World) (R : RT) (E : Pan) : F39 x0 w R E = callX Tryz.prog [.tmp 2] c39 h39 [x0] w R E := by kernel_rfl
theorem f6y {x0 : Value} (h : F39 x0 w R E) : Cv Tryz.prog 39 #[x0] w R E := by
 refine i7 (args := [x0]) (c := c39) (h := h39) (rs := [.tmp 2]) Tryz.func39 (by kernel_rfl) (by kernel_rfl) (nB (by kernel_rfl)) (by kernel_rfl) (by kernel_rfl) (by kernel_rfl) ?_
 rw [← f6x]
 exact h
def F43 (x0 : Value) (w : World) (R : RT) (E : Pan) : Prop :=
 oP E (xV (Instr.box 25 x0)) w fun q7 w_2 =>
 dX w_2 fun w_3 =>
 qP Tryz.prog (fA 25 q7 0) fun c5x =>
 qP Tryz.prog (fA 25 q7 1) fun a9s =>
 qL Tryz.prog w_3 (blk c5x) (lA 22 c5x) fun h6V =>
 qL Tryz.prog w_3 (blk a9s) (lA 23 a9s) fun b1v =>
 oP E (xCall (fC 76) [h6V, (fC 77)]) w_3 fun c8R w_9 =>
 keepX [(blk a9s)] w_3 w_9 (opK Tryz.prog E (xCall (fC 78) [b1v, (fC 79)]) w_9 fun h2A R7 =>
 keepX [] w_9 R7 (opK Tryz.prog E (xV (Instr.buildSlice 179 2 #[(0, c8R), (1, h2A)])) R7 fun c3K Z2 =>
 keepX [] R7 Z2 (opK Tryz.prog E (xCall (fC 75) [c3K]) Z2 fun f6z c2a =>
 keepX [] Z2 c2a (opK Tryz.prog E (xCall (fC 65) [f6z]) c2a fun b2M a0q =>
 keepX [] c2a a0q (R b2M a0q)))))
noncomputable def c43 : Code := Tryz.f43.body.getD .skip
def h43 : Hint := (sQ (.seq (.reg [(0, 8, 2), (1, 16, 8), (2, 32, 16), (0, 64, 2), (8, 128, 64), (20, 256, 128), (36, 512, 288), (96, 1024, 512), (128, 2048, 1024), (511, 4, 2048)] [18, 16, 16, 18, 2, 0, 0, 0, 0, 18] (.early 0 (.early 3 (.load 1 (.load 4 (.step 2 (.step 5 (.step 6 (.step 7 (.step 8 (.early 9 .done))))))))))) .none))
theorem f6A (x0 : Value) (w : World) (R : RT) (E : Pan) : F43 x0 w R E = callX Tryz.prog [.tmp 2] c43 h43 [x0] w R E := by kernel_rfl
theorem f6B {x0 : Value} (h : F43 x0 w R E) : Cv Tryz.prog 43 #[x0] w R E := by
 refine i7 (args := [x0]) (c := c43) (h := h43) (rs := [.tmp 2]) Tryz.func43 (by kernel_rfl) (by kernel_rfl) (nB (by kernel_rfl)) (by kernel_rfl) (by kernel_rfl) (by kernel_rfl) ?_
 rw [← f6A]
 exact h
def c8S (x3 : Value) (w : World) (R : RT) (E : Pan) : Prop :=
 ∀ _τ : Fr, (oP E (lA 102 x3) w fun b0Z r5 =>
 R b0Z r5)
def F65 (x0 : Value) (w : World) (R : RT) (E : Pan) : Prop :=
 oP E (xV (Instr.build 101 #[])) w fun b8P w_2 =>
 oP E (xV (Instr.box 101 b8P)) w_2 fun b0e w_4 =>
 oP E (xV (Instr.alloc 102 true (.tuple #[]))) w_4 fun b6N w_6 =>
 oP E (sA 102 b6N b0e) w_6 fun _z_7 w_8 =>
 oP E (xV (Instr.alloc 170 true (.tuple #[]))) w_8 fun e3A o7 =>
 oP E (xV (Instr.makeFunc (.func 110) #[] #[b6N, e3A])) o7 fun c3L p7 =>
 oP E (sA 170 e3A c3L) p7 fun _z_13 o8 =>
 xcut (fun _ t8 => c8S b6N t8 R E) fun j1 =>
 oP E (lA 170 e3A) o8 fun h2B t7 =>
 oP E (xCall h2B [x0, (vI 1)]) t7 fun c3M u6 =>
 oP E (xV (Op.unary .not c3M)) u6 fun f6C v6 =>
 xcond f6C
 (j1 [] v6)
 (oP E (lA 102 b6N) v6 fun f6D y7 =>
 oP E (xNil f6D) y7 fun c8T C4 =>
 oP E (fA 101 c8T 3) C4 fun c3N H7 =>
 oP E (lA 4 c3N) H7 fun c8U D6 =>
 xcond c8U
 (oP E (lA 102 b6N) D6 fun f6E A6 =>
 oP E (xNil f6E) A6 fun f6F K5 =>
 oP E (fA 101 f6F 2) K5 fun f6G K0 =>
 oP E (sA 27 f6G (vI 30)) K0 fun _z_39 H9 =>
 j1 [] H9)
 (oP E (lA 102 b6N) D6 fun f6H I0 =>
 oP E (xNil f6H) I0 fun b8Q K6 =>
 oP E (fA 101 b8Q 4) K6 fun f6I M9 =>
 oP E (lA 4 f6I) M9 fun f6J O1 =>
 xcond f6J
 (oP E (lA 102 b6N) O1 fun f6K N8 =>
 oP E (xNil f6K) N8 fun f6L M2 =>
 oP E (fA 101 f6L 2) M2 fun f6M O0 =>
 oP E (sA 27 f6M (vI 31)) O0 fun _z_55 O8 =>
 j1 [] O8)
 (j1 [] O1)))
noncomputable def c65 : Code := Tryz.f65.body.getD .skip
def h65 : Hint := (sQ (sQ (sQ (sQ (.cut [] (sQ (.block (sQ (.cond .none (sQ (.cond .none (sQ (.cond .none .none)))))))) (sQ .none))))))
theorem f6N (x0 : Value) (w : World) (R : RT) (E : Pan) : F65 x0 w R E = callX Tryz.prog [.tmp 2] c65 h65 [x0] w R E := by kernel_rfl
theorem f6O {x0 : Value} (h : F65 x0 w R E) : Cv Tryz.prog 65 #[x0] w R E := by
 refine i7 (args := [x0]) (c := c65) (h := h65) (rs := [.tmp 2]) Tryz.func65 (by kernel_rfl) (by kernel_rfl) (nB (by kernel_rfl)) (by kernel_rfl) (by kernel_rfl) (by kernel_rfl) ?_
 rw [← f6N]
 exact h
def c8V (x6 : Value) (w : World) (R : RT) (_E : Pan) : Prop :=
 ∀ _τ : Fr, (R x6 w)
def d9M (x6 x25 x26 x27 : Value) (w : World) (next3 : NT) (j2 : NT) (_R : RT) (E : Pan) : Prop :=
 oP E (xBin .lss 3 (.tmp 27) (.tmp 26) x27 x26) w fun h2C w_8 =>
 xcond h2C
 (oP E (iA 179 x25 x27) w_8 fun h2D o7 =>
 oP E (lA 137 h2D) o7 fun f6P p7 =>
 oP E (xBuiltin .append #[137, 137] 137 [false, false] [x6, f6P]) p7 fun c3O o8 =>
 oP E (xBin .add 3 (.tmp 27) (.const (vI 1)) x27 (vI 1)) o8 fun f6Q r5 =>
 next3 [c3O, f6Q] r5)
 (j2 [x6] w_8)
def c8W (x0 x3 : Value) (w : World) (R : RT) (E : Pan) : Prop :=
 ∀ _τ : Fr, (oP E (xCall (fC 119) [(nS), x3]) w fun h2E w_2 =>
 xcut (fun l_3 w_4 => c8V (nth l_3 0) w_4 R E) fun j2 =>
 oP E (xBuiltin .len #[179] 3 [false] [x0]) w_2 fun h2F w_6 =>
 xloop [6, 27] [h2E, (vI 0)] w_6 fun τ_17 t8 next3 =>
 d9M (τ_17 6) x0 h2F (τ_17 27) t8 next3 j2 R E)
def c8X (_x0 x3 _x9 _x10 x11 : Value) (w : World) (next4 : NT) (_R : RT) (E : Pan) : Prop :=
 ∀ _τ : Fr, (oP E (xBin .add 3 (.tmp 11) (.const (vI 1)) x11 (vI 1)) w fun b1a y7 =>
 next4 [x3, b1a] y7)
def d9N (x0 x3 x9 x10 x11 : Value) (w : World) (next4 : NT) (j1 : NT) (R : RT) (E : Pan) : Prop :=
 oP E (xBin .lss 3 (.tmp 11) (.tmp 10) x11 x10) w fun c8Y v6 =>
 xcond c8Y
 (xcut (fun e3B C4 => c8X x0 (nth e3B 0) x9 x10 x11 C4 next4 R E) fun j5 =>
 oP E (iA 179 x9 x11) v6 fun f6R H7 =>
 oP E (lA 137 f6R) H7 fun f6S D6 =>
 oP E (xBuiltin .len #[137] 3 [false] [f6S]) D6 fun c8Z A6 =>
 oP E (xBin .add 3 (.tmp 15) (.tmp 17) x3 c8Z) A6 fun b8R K5 =>
 oP E (xBin .lss 3 (.tmp 19) (.const (vI 0)) b8R (vI 0)) K5 fun f6T K0 =>
 xcond f6T
 (oP E (xV (Instr.makeInterface 9 (Value.string ⟨#[108, 101, 110, 32, 111, 117, 116, 32, 111, 102, 32, 114, 97, 110, 103, 101]⟩))) K0 fun f6U H9 =>
 oP E (xV (Instr.panic f6U)) H9 fun _z_41 I0 =>
 j5 [b8R] I0)
 (j5 [b8R] K0))
 (j1 [x3] v6)
def F75 (x0 : Value) (w : World) (R : RT) (E : Pan) : Prop :=
 xcut (fun a5O t7 => c8W x0 (nth a5O 0) t7 R E) fun j1 =>
 oP E (xBuiltin .len #[179] 3 [false] [x0]) w fun f6V u6 =>
 xloop [3, 11] [(vI 0), (vI 0)] u6 fun τ_43 K6 next4 =>
 d9N x0 (τ_43 3) x0 f6V (τ_43 11) K6 next4 j1 R E
noncomputable def c75 : Code := Tryz.f75.body.getD .skip
def h75 : Hint := (sQ (sQ (.cut [3] (sQ (.block (.loop [3, 11] (sQ (.seq (.cond .none .none) (.cut [3] (.block (sQ (sQ (sQ (.cond .none .none))))) .none)))))) (sQ (.cut [6] (sQ (.block (.loop [6, 27] (sQ (.seq (.cond .none .none) (.seq (.block (sQ .none)) .none)))))) (sQ .none))))))
theorem f6W (x0 : Value) (w : World) (R : RT) (E : Pan) : F75 x0 w R E = callX Tryz.prog [.tmp 2] c75 h75 [x0] w R E := by kernel_rfl
theorem f6X {x0 : Value} (h : F75 x0 w R E) : Cv Tryz.prog 75 #[x0] w R E := by
 refine i7 (args := [x0]) (c := c75) (h := h75) (rs := [.tmp 2]) Tryz.func75 (by kernel_rfl) (by kernel_rfl) (nB (by kernel_rfl)) (by kernel_rfl) (by kernel_rfl) (by kernel_rfl) ?_
 rw [← f6W]
 exact h
def c9a (x5 : Value) (w : World) (R : RT) (_E : Pan) : Prop :=
 ∀ _τ : Fr, (R x5 w)
def d9O (x1 x5 x8 x9 x10 : Value) (w : World) (next2 : NT) (j1 : NT) (_R : RT) (E : Pan) : Prop :=
 oP E (xBin .lss 3 (.tmp 10) (.tmp 9) x10 x9) w fun a4Z w_6 =>
 xcond a4Z
 (oP E (iA 22 x8 x10) w_6 fun a2Z w_8 =>
 oP E (lA 71 a2Z) w_8 fun a3b o7 =>
 oP E (xV (Instr.alloc 71 true (.tuple #[]))) o7 fun U1 p7 =>
 oP E (sA 71 U1 a3b) p7 fun _z_13 o8 =>
 oP E (lA 71 U1) o8 fun a3x r5 =>
 oP E (xCall x1 [a3x]) r5 fun a1D t8 =>
 oP E (xV (Instr.buildSlice 137 1 #[(0, a1D)])) t8 fun a1E t7 =>
 oP E (xBuiltin .append #[137, 137] 137 [false, false] [x5, a1E]) t7 fun a1F u6 =>
 oP E (xBin .add 3 (.tmp 10) (.const (vI 1)) x10 (vI 1)) u6 fun a1G v6 =>
 next2 [a1F, a1G] v6)
 (j1 [x5] w_6)
def F76 (x0 x1 : Value) (w : World) (R : RT) (E : Pan) : Prop :=
 xcut (fun l_1 w_2 => c9a (nth l_1 0) w_2 R E) fun j1 =>
 oP E (xBuiltin .len #[22] 3 [false] [x0]) w fun a0N w_4 =>
 xloop [5, 10] [(nS), (vI 0)] w_4 fun τ_25 y7 next2 =>
 d9O x1 (τ_25 5) x0 a0N (τ_25 10) y7 next2 j1 R E
noncomputable def c76 : Code := Tryz.f76.body.getD .skip
def h76 : Hint := (sQ (sQ (.cut [5] (sQ (.block (.loop [5, 10] (sQ (.seq (.cond .none .none) (.seq (.block (sQ .none)) .none)))))) (sQ .none))))
theorem f6Y (x0 x1 : Value) (w : World) (R : RT) (E : Pan) : F76 x0 x1 w R E = callX Tryz.prog [.tmp 4] c76 h76 [x0, x1] w R E := by kernel_rfl
theorem f6Z {x0 x1 : Value} (h : F76 x0 x1 w R E) : Cv Tryz.prog 76 #[x0, x1] w R E := by
 refine i7 (args := [x0, x1]) (c := c76) (h := h76) (rs := [.tmp 4]) Tryz.func76 (by kernel_rfl) (by kernel_rfl) (nB (by kernel_rfl)) (by kernel_rfl) (by kernel_rfl) (by kernel_rfl) ?_
 rw [← f6Y]
 exact h
def F77 (x0 : Value) (w : World) (R : RT) (E : Pan) : Prop :=
 oP E (xV (Instr.box 71 x0)) w fun q7 w_2 =>
 oP E (lA 71 q7) w_2 fun a0p w_4 =>
 oP E (xV (Instr.build 182 #[(0, a0p)])) w_4 fun a3L w_6 =>
 oP E (xV (Instr.makeInterface 182 a3L)) w_6 fun a6l w_8 =>
 R a6l w_8
noncomputable def c77 : Code := Tryz.f77.body.getD .skip
def h77 : Hint := (sQ (sQ .none))
theorem f7a (x0 : Value) (w : World) (R : RT) (E : Pan) : F77 x0 w R E = callX Tryz.prog [.tmp 2] c77 h77 [x0] w R E := by kernel_rfl
theorem f7b {x0 : Value} (h : F77 x0 w R E) : Cv Tryz.prog 77 #[x0] w R E := by
 refine i7 (args := [x0]) (c := c77) (h := h77) (rs := [.tmp 2]) Tryz.func77 (by kernel_rfl) (by kernel_rfl) (nB (by kernel_rfl)) (by kernel_rfl) (by kernel_rfl) (by kernel_rfl) ?_
 rw [← f7a]
 exact h
def c9b (x5 : Value) (w : World) (R : RT) (_E : Pan) : Prop :=
 ∀ _τ : Fr, (R x5 w)
def d9P (x1 x5 x8 x9 x10 : Value) (w : World) (next2 : NT) (j1 : NT) (_R : RT) (E : Pan) : Prop :=
 oP E (xBin .lss 3 (.tmp 10) (.tmp 9) x10 x9) w fun a4Z w_6 =>
 xcond a4Z
 (oP E (iA 23 x8 x10) w_6 fun a2Z w_8 =>
 oP E (lA 73 a2Z) w_8 fun a3b o7 =>
 oP E (xV (Instr.alloc 73 true (.tuple #[]))) o7 fun U1 p7 =>
 oP E (sA 73 U1 a3b) p7 fun _z_13 o8 =>
 oP E (lA 73 U1) o8 fun a3x r5 =>
 oP E (xCall x1 [a3x]) r5 fun a1D t8 =>
 oP E (xV (Instr.buildSlice 137 1 #[(0, a1D)])) t8 fun a1E t7 =>
 oP E (xBuiltin .append #[137, 137] 137 [false, false] [x5, a1E]) t7 fun a1F u6 =>
 oP E (xBin .add 3 (.tmp 10) (.const (vI 1)) x10 (vI 1)) u6 fun a1G v6 =>
 next2 [a1F, a1G] v6)
 (j1 [x5] w_6)
def F78 (x0 x1 : Value) (w : World) (R : RT) (E : Pan) : Prop :=
 xcut (fun l_1 w_2 => c9b (nth l_1 0) w_2 R E) fun j1 =>
 oP E (xBuiltin .len #[23] 3 [false] [x0]) w fun a0N w_4 =>
 xloop [5, 10] [(nS), (vI 0)] w_4 fun τ_25 y7 next2 =>
 d9P x1 (τ_25 5) x0 a0N (τ_25 10) y7 next2 j1 R E
noncomputable def c78 : Code := Tryz.f78.body.getD .skip
def h78 : Hint := (sQ (sQ (.cut [5] (sQ (.block (.loop [5, 10] (sQ (.seq (.cond .none .none) (.seq (.block (sQ .none)) .none)))))) (sQ .none))))
theorem f7c (x0 x1 : Value) (w : World) (R : RT) (E : Pan) : F78 x0 x1 w R E = callX Tryz.prog [.tmp 4] c78 h78 [x0, x1] w R E := by kernel_rfl
theorem f7d {x0 x1 : Value} (h : F78 x0 x1 w R E) : Cv Tryz.prog 78 #[x0, x1] w R E := by
 refine i7 (args := [x0, x1]) (c := c78) (h := h78) (rs := [.tmp 4]) Tryz.func78 (by kernel_rfl) (by kernel_rfl) (nB (by kernel_rfl)) (by kernel_rfl) (by kernel_rfl) (by kernel_rfl) ?_
 rw [← f7c]
 exact h
def F79 (x0 : Value) (w : World) (R : RT) (E : Pan) : Prop :=
 oP E (xV (Instr.box 73 x0)) w fun q7 w_2 =>
 oP E (lA 73 q7) w_2 fun a0p w_4 =>
 oP E (xV (Instr.build 184 #[(0, a0p)])) w_4 fun a3L w_6 =>
 oP E (xV (Instr.makeInterface 184 a3L)) w_6 fun a6l w_8 =>
 R a6l w_8
noncomputable def c79 : Code := Tryz.f79.body.getD .skip
def h79 : Hint := (sQ (sQ .none))
theorem f7e (x0 : Value) (w : World) (R : RT) (E : Pan) : F79 x0 w R E = callX Tryz.prog [.tmp 2] c79 h79 [x0] w R E := by kernel_rfl
theorem f7f {x0 : Value} (h : F79 x0 w R E) : Cv Tryz.prog 79 #[x0] w R E := by
 refine i7 (args := [x0]) (c := c79) (h := h79) (rs := [.tmp 2]) Tryz.func79 (by kernel_rfl) (by kernel_rfl) (nB (by kernel_rfl)) (by kernel_rfl) (by kernel_rfl) (by kernel_rfl) ?_
 rw [← f7e]
 exact h
def c5y (w : World) (R : RT) (_E : Pan) : Prop :=
 ∀ _τ : Fr, (R (vB true) w)
def d4o (x1 x2 x3 x9 x10 x11 : Value) (w : World) (next2 : NT) (j1 : NT) (R : RT) (E : Pan) : Prop :=
 oP E (xBin .lss 3 (.tmp 11) (.tmp 10) x11 x10) w fun a9t w_6 =>
 xcond a9t
 (oP E (iA 137 x9 x11) w_6 fun a9u w_8 =>
 oP E (lA 150 a9u) w_8 fun a5x o7 =>
 dX o7 fun R7 =>
 qL Tryz.prog R7 (blk x2) (lA 102 x2) fun f7g =>
 oP E (xCall (fC 111) [f7g, a5x, x1]) R7 fun b8S o8 =>
 keepX [] R7 o8 (qP Tryz.prog (xV (Op.unary .not b8S)) fun a8s =>
 qP Tryz.prog (gsem (asB a8s) false (xBin .add 3 (.tmp 24) (.const (vI 1)) (gval (asB a8s) false x1) (vI 1))) fun f7h =>
 qL Tryz.prog o8 (blk x3) (gsem (asB a8s) false (lA 170 x3)) fun b5G =>
 oP E (gsem (asB a8s) false (xInvoke (gval (asB a8s) false a5x) "gnomon/tree.parts" [])) o8 fun f7i T2 =>
 keepX [(blk x3)] o8 T2 (opK Tryz.prog E (gsem (asB a8s) false (xCall b5G [f7i, f7h])) T2 fun f7j Z3 =>
 keepX [] T2 Z3 (qP Tryz.prog (gsem (asB a8s) false (xV (Op.unary .not f7j))) fun f7k =>
 qP Tryz.prog (xPick a8s (vB true) f7k) fun c9c =>
 xcond c9c
 (R (vB false) Z3)
 (oP E (xBin .add 3 (.tmp 11) (.const (vI 1)) x11 (vI 1)) Z3 fun f7l a6m =>
 next2 [f7l] a6m)))))
 (j1 [] w_6)
def d5C (x0 x1 x2 x3 : Value) (w : World) (R : RT) (E : Pan) : Prop :=
 xcut (fun _ w_2 => c5y w_2 R E) fun j1 =>
 oP E (xBuiltin .len #[137] 3 [false] [x0]) w fun b6O w_4 =>
 xloop [11] [(vI 0)] w_4 fun τ_26 a2d next2 =>
 d4o x1 x2 x3 x0 b6O (τ_26 11) a2d next2 j1 R E
noncomputable def f7m : Code := Tryz.f110.body.getD .skip
def f7n : Hint := (sQ (.cut [] (sQ (.block (.loop [11] (sQ (.seq (.cond .none .none) (.seq (.block (sQ (.seq (.reg [(0, 32768, 4), (0, 65536, 256), (0, 131072, 2), (7, 262144, 229376), (8, 524288, 262144), (24, 1048576, 524288), (32, 2097152, 1048584), (32, 4194304, 1048832), (160, 8388608, 5242880), (32, 16777216, 1048578), (544, 33554432, 17825792), (1376, 67108864, 45088768), (2080, 134217728, 68157440), (4128, 268435456, 135266304)] [64, 65, 65, 0, 65, 65, 1, 65, 64, 65, 65, 0, 65, 65] (.early 1 (.early 2 (.load 0 (.step 3 (.early 4 (.early 5 (.early 7 (.early 9 (.early 10 (.load 6 (.step 8 (.step 11 (.early 12 (.early 13 .done))))))))))))))) (.cond (sQ .none) .none)))) .none)))))) (sQ .none)))
theorem e9E (x0 x1 x2 x3 : Value) (w : World) (R : RT) (E : Pan) : d5C x0 x1 x2 x3 w R E = callX Tryz.prog [.tmp 6] f7m f7n [x0, x1, x2, x3] w R E := by kernel_rfl
theorem e9F {x0 x1 x2 x3 : Value} (h : d5C x0 x1 x2 x3 w R E) : Cv Tryz.prog 110 #[x0, x1, x2, x3] w R E := by
 refine i7 (args := [x0, x1, x2, x3]) (c := f7m) (h := f7n) (rs := [.tmp 6]) Tryz.func110 (by kernel_rfl) (by kernel_rfl) (nB (by kernel_rfl)) (by kernel_rfl) (by kernel_rfl) (by kernel_rfl) ?_
 rw [← e9E]
 exact h
def c5z (w : World) (R : RT) (_E : Pan) : Prop :=
 ∀ _τ : Fr, (R (vB true) w)
def d5D (x0 x1 x2 : Value) (w : World) (R : RT) (E : Pan) : Prop :=
 oP E (xNil x0) w fun c0H w_2 =>
 oP E (fA 101 c0H 0) w_2 fun a4b w_4 =>
 oP E (lA 3 a4b) w_4 fun a9t w_6 =>
 oP E (xBin .add 3 (.tmp 12) (.const (vI 1)) a9t (vI 1)) w_6 fun a9u w_8 =>
 oP E (xNil x0) w_8 fun a5x o7 =>
 oP E (fA 101 a5x 0) o7 fun a5P p7 =>
 oP E (sA 3 a5P a9u) p7 fun _z_13 o8 =>
 oP E (xNil x0) o8 fun a5Q r5 =>
 oP E (fA 101 a5Q 0) r5 fun b8T t8 =>
 oP E (lA 3 b8T) t8 fun c9d t7 =>
 oP E (xBin .gtr 3 (.tmp 19) (.const (vI 4096)) c9d (vI 4096)) t7 fun b5H u6 =>
 xcond b5H
 (oP E (xNil x0) u6 fun c9e v6 =>
 oP E (fA 101 c9e 2) v6 fun f7o y7 =>
 oP E (sA 27 f7o (vI 33)) y7 fun _z_27 C4 =>
 R (vB false) C4)
 (oP E (xBin .gtr 3 (.tmp 24) (.const (vI 64)) x2 (vI 64)) u6 fun f7p H7 =>
 xcond f7p
 (oP E (xNil x0) H7 fun f7q D6 =>
 oP E (fA 101 f7q 2) D6 fun c9f A6 =>
 oP E (sA 27 c9f (vI 32)) A6 fun _z_35 K5 =>
 R (vB false) K5)
 (oP E (xNil x0) H7 fun f7r K0 =>
 oP E (fA 101 f7r 1) K0 fun f7s H9 =>
 oP E (lA 3 f7s) H9 fun f7t I0 =>
 oP E (xBuiltin .max #[3, 3] 3 [false, false] [f7t, x2]) I0 fun f7u K6 =>
 oP E (xNil x0) K6 fun f7v M9 =>
 oP E (fA 101 f7v 1) M9 fun c9g O1 =>
 oP E (sA 3 c9g f7u) O1 fun _z_49 N8 =>
 oP E (xNil x0) N8 fun f7w M2 =>
 oP E (fA 101 f7w 3) M2 fun f7x O0 =>
 oP E (lA 4 f7x) O0 fun c3P O8 =>
 oP E (gsem (asB c3P) false (xInvoke (gval (asB c3P) false x1) "gnomon/tree.form" [])) O8 fun f7y O9 =>
 oP E (gsem (asB c3P) false (xV (Op.unary .not f7y))) O9 fun f7z R8 =>
 oP E (xPick c3P (vB true) f7z) R8 fun f7A Q1 =>
 oP E (xNil x0) Q1 fun f7B T3 =>
 oP E (fA 101 f7B 3) T3 fun f7C U5 =>
 oP E (sA 4 f7C f7A) U5 fun _z_67 W9 =>
 xcut (fun _ S3 => c5z S3 R E) fun j1 =>
 oP E (xCall (fC 143) [x1]) W9 fun d9Q Z1 =>
 oP E (eX d9Q 0) Z1 fun b8U a0O =>
 oP E (eX d9Q 1) a0O fun f7D Y4 =>
 xcond f7D
 (oP E (xNil x0) Y4 fun f7E Z4 =>
 oP E (fA 101 f7E 4) Z4 fun f7F a2e =>
 oP E (lA 4 f7F) a2e fun b2N Y5 =>
 oP E (gsem (asB b2N) false (xCall (fC 144) [(gval (asB b2N) false b8U)])) Y5 fun f7G X0 =>
 oP E (gsem (asB b2N) false (xV (Op.unary .not f7G))) X0 fun f7H a0x =>
 oP E (xPick b2N (vB true) f7H) a0x fun f7I V9 =>
 oP E (xNil x0) V9 fun f7J a3y =>
 oP E (fA 101 f7J 4) a3y fun f7K a5o =>
 oP E (sA 4 f7K f7I) a5o fun _z_93 a3M =>
 oP E (xNil x0) a3M fun f7L a5R =>
 oP E (fA 101 f7L 5) a5R fun c9h a6V =>
 oP E (lA 88 c9h) a6V fun f7M a0W =>
 oP E (xCall (fC 145) [f7M, b8U]) a0W fun c5A Z5 =>
 oP E (xV (Op.unary .not c5A)) Z5 fun c5B a0H =>
 xcond c5B
 (oP E (xNil x0) a0H fun e9G a3D =>
 oP E (fA 101 e9G 5) a3D fun e9H a6n =>
 oP E (lA 88 e9H) a6n fun e9I a8B =>
 oP E (xV (Instr.buildSlice 88 1 #[(0, b8U)])) a8B fun c5C a7e =>
 oP E (xBuiltin .append #[88, 88] 88 [false, false] [e9I, c5C]) a7e fun e9J a0X =>
 oP E (xNil x0) a0X fun e9K a3d =>
 oP E (fA 101 e9K 5) a3d fun e9L a7f =>
 oP E (sA 88 e9L e9J) a7f fun _z_119 a0I =>
 j1 [] a0I)
 (j1 [] a0H))
 (j1 [] Y4)))
noncomputable def f7N : Code := Tryz.f111.body.getD .skip
def f7O : Hint := (sQ (.seq (sQ (sQ (.cond (sQ (sQ .none)) .none))) (.seq (sQ (.cond (sQ (sQ .none)) .none)) (sQ (sQ (.cut [] (sQ (sQ (.cond (sQ (sQ (.cond .none .none))) .none))) (sQ .none)))))))
theorem e9M (x0 x1 x2 : Value) (w : World) (R : RT) (E : Pan) : d5D x0 x1 x2 w R E = callX Tryz.prog [.tmp 6] f7N f7O [x0, x1, x2] w R E := by kernel_rfl
theorem e9N {x0 x1 x2 : Value} (h : d5D x0 x1 x2 w R E) : Cv Tryz.prog 111 #[x0, x1, x2] w R E := by
 refine i7 (args := [x0, x1, x2]) (c := f7N) (h := f7O) (rs := [.tmp 6]) Tryz.func111 (by kernel_rfl) (by kernel_rfl) (nB (by kernel_rfl)) (by kernel_rfl) (by kernel_rfl) (by kernel_rfl) ?_
 rw [← e9M]
 exact h
def c5D (x0 : Value) (w : World) (R : RT) (_E : Pan) : Prop :=
 ∀ _τ : Fr, (R x0 w)
def d4p (x0 x1 : Value) (w : World) (R : RT) (E : Pan) : Prop :=
 ∀ _τ : Fr, (xcut (fun l_1 w_2 => c5D (nth l_1 0) w_2 R E) fun j2 =>
 oP E (xBuiltin .cap #[137] 3 [false] [x0]) w fun b6O w_4 =>
 oP E (xBuiltin .len #[137] 3 [false] [x0]) w_4 fun a9t w_6 =>
 oP E (xBin .sub 3 (.tmp 10) (.tmp 12) b6O a9t) w_6 fun a9u w_8 =>
 oP E (xBin .sub 3 (.tmp 8) (.tmp 13) x1 a9u) w_8 fun a5x o7 =>
 oP E (xBin .gtr 3 (.tmp 15) (.const (vI 0)) a5x (vI 0)) o7 fun a7r p7 =>
 xcond a7r
 (oP E (xBuiltin .cap #[137] 3 [false] [x0]) p7 fun c9i o8 =>
 oP E (xV (Instr.sliceAt 137 x0 none (some c9i) none)) o8 fun c9j r5 =>
 oP E (xBuiltin .append #[137, 3] 137 [false, false] [c9j, a5x]) r5 fun c9k t8 =>
 oP E (xBuiltin .len #[137] 3 [false] [x0]) t8 fun f7P t7 =>
 oP E (xV (Instr.sliceAt 137 c9k none (some f7P) none)) t7 fun c9l u6 =>
 j2 [c9l] u6)
 (j2 [x0] p7))
def e3C (x0 x1 : Value) (w : World) (R : RT) (E : Pan) : Prop :=
 xcut (fun _ v6 => d4p x0 x1 v6 R E) fun j1 =>
 oP E (xBin .lss 3 (.tmp 5) (.const (vI 0)) x1 (vI 0)) w fun h2G y7 =>
 xcond h2G
 (oP E (xV (Instr.makeInterface 9 (Value.string ⟨#[99, 97, 110, 110, 111, 116, 32, 98, 101, 32, 110, 101, 103, 97, 116, 105, 118, 101]⟩))) y7 fun c7z C4 =>
 oP E (xV (Instr.panic c7z)) C4 fun _z_29 H7 =>
 j1 [] H7)
 (j1 [] y7)
noncomputable def f7Q : Code := Tryz.f119.body.getD .skip
def f7R : Hint := (sQ (.cut [] (sQ (.cond .none .none)) (.cut [0] (sQ (sQ (.cond .none .none))) (sQ .none))))
theorem e9O (x0 x1 : Value) (w : World) (R : RT) (E : Pan) : e3C x0 x1 w R E = callX Tryz.prog [.tmp 4] f7Q f7R [x0, x1] w R E := by kernel_rfl
theorem e9P {x0 x1 : Value} (h : e3C x0 x1 w R E) : Cv Tryz.prog 119 #[x0, x1] w R E := by
 refine i7 (args := [x0, x1]) (c := f7Q) (h := f7R) (rs := [.tmp 4]) Tryz.func119 (by kernel_rfl) (by kernel_rfl) (nB (by kernel_rfl)) (by kernel_rfl) (by kernel_rfl) (by kernel_rfl) ?_
 rw [← e9O]
 exact h
def d5E (x0 : Value) (w : World) (R : RT) (E : Pan) : Prop :=
 oP E (xV (Instr.typeAssert x0 150 182 true)) w fun b8V w_2 =>
 oP E (eX b8V 1) w_2 fun a0N w_4 =>
 oP E (eX b8V 0) w_4 fun a2g w_6 =>
 xcond a0N
 (oP E (xV (Instr.alloc 182 true (.tuple #[]))) w_6 fun d5F w_8 =>
 oP E (sA 182 d5F a2g) w_8 fun _z_9 o7 =>
 oP E (fA 182 d5F 0) o7 fun a6R p7 =>
 oP E (fA 71 a6R 0) p7 fun b1b o8 =>
 oP E (lA 9 b1b) o8 fun a7s r5 =>
 R (Value.tuple #[a7s, (vB true)]) r5)
 (oP E (xV (Instr.typeAssert x0 150 184 true)) w_6 fun a9v t8 =>
 oP E (eX a9v 1) t8 fun a3v t7 =>
 oP E (eX a9v 0) t7 fun a3W u6 =>
 xcond a3v
 (oP E (xV (Instr.alloc 184 true (.tuple #[]))) u6 fun c7A v6 =>
 oP E (sA 184 c7A a3W) v6 fun _z_25 y7 =>
 dX y7 fun a2d =>
 qP Tryz.prog (fA 184 c7A 0) fun f7S =>
 qP Tryz.prog (fA 73 f7S 1) fun c3N =>
 qP Tryz.prog (fA 184 c7A 0) fun f7T =>
 qP Tryz.prog (fA 73 f7T 0) fun a8r =>
 qL Tryz.prog a2d (blk c3N) (lA 9 c3N) fun f7U =>
 qL Tryz.prog a2d (blk a8r) (lA 3 a8r) fun a5N =>
 qP Tryz.prog (xBin .eql 3 (.tmp 22) (.const (vI 1)) a5N (vI 1)) fun b8W =>
 qP Tryz.prog (gsem (asB b8W) false (fA 184 c7A 0)) fun f7V =>
 qP Tryz.prog (gsem (asB b8W) false (fA 73 f7V 0)) fun d9R =>
 qL Tryz.prog a2d (blk d9R) (gsem (asB b8W) false (lA 3 d9R)) fun f7W =>
 qP Tryz.prog (gsem (asB b8W) false (xBin .eql 3 (.tmp 27) (.const (vI 2)) f7W (vI 2))) fun f7X =>
 qP Tryz.prog (xPick b8W (vB true) f7X) fun c9m =>
 R (Value.tuple #[f7U, c9m]) a2d)
 (oP E (xV (Instr.typeAssert x0 150 136 true)) u6 fun d9S b2O =>
 oP E (eX d9S 1) b2O fun c3Q b1w =>
 oP E (eX d9S 0) b1w fun f7Y a8H =>
 xcond c3Q
 (oP E (xV (Instr.alloc 136 true (.tuple #[]))) a8H fun c7B b8X =>
 oP E (sA 136 c7B f7Y) b8X fun _z_48 b0f =>
 dX b0f fun N8 =>
 qP Tryz.prog (fA 136 c7B 0) fun b8Y =>
 qP Tryz.prog (fA 53 b8Y 2) fun d9T =>
 qP Tryz.prog (fA 136 c7B 0) fun c9n =>
 qP Tryz.prog (fA 53 c9n 0) fun d9U =>
 qL Tryz.prog N8 (blk d9T) (lA 9 d9T) fun c9o =>
 qL Tryz.prog N8 (blk d9U) (lA 3 d9U) fun f7Z =>
 qP Tryz.prog (xBin .eql 3 (.tmp 38) (.const (vI 2)) f7Z (vI 2)) fun b8Z =>
 qP Tryz.prog (gsem (asB b8Z) false (fA 136 c7B 0)) fun f8a =>
 qP Tryz.prog (gsem (asB b8Z) false (fA 53 f8a 0)) fun d9V =>
 qL Tryz.prog N8 (blk d9V) (gsem (asB b8Z) false (lA 3 d9V)) fun f8b =>
 qP Tryz.prog (gsem (asB b8Z) false (xBin .eql 3 (.tmp 43) (.const (vI 4)) f8b (vI 4))) fun f8c =>
 qP Tryz.prog (xPick b8Z (vB true) f8c) fun f8d =>
 R (Value.tuple #[c9o, f8d]) N8)
 (R (Value.tuple #[(eS), (vB false)]) a8H)))
noncomputable def f8e : Code := Tryz.f143.body.getD .skip
def f8f : Hint := (sQ (.seq (sQ (.block (sQ (.cond (sQ (sQ .none)) (sQ (.cond (sQ (.seq (.reg [(0, 131072, 32), (1, 262144, 131072), (2, 524288, 262144), (0, 1048576, 32), (8, 2097152, 1048576), (16, 4194304, 2097152), (32, 8388608, 4194304), (64, 16777216, 8388608), (128, 33554432, 16777248), (384, 67108864, 50331648), (640, 134217728, 83886080), (1152, 268435456, 150994944), (2176, 536870912, 285212672), (135, 4, 524288), (16383, 8, 536870912)] [1060, 1060, 1056, 1060, 1060, 1028, 1060, 1060, 1060, 1060, 36, 1060, 1060, 1060, 1060] (.early 0 (.early 1 (.early 3 (.early 4 (.load 2 (.load 5 (.early 6 (.early 7 (.early 8 (.early 9 (.early 13 (.load 10 (.early 11 (.early 12 (.early 14 .done)))))))))))))))) .none)) (sQ (.cond (sQ (.seq (.reg [(0, 8589934592, 64), (1, 17179869184, 8589934592), (2, 34359738368, 17179869184), (0, 68719476736, 64), (8, 137438953472, 68719476736), (16, 274877906944, 137438953472), (32, 549755813888, 274877906944), (64, 1099511627776, 549755813888), (128, 2199023255552, 1099511627840), (384, 4398046511104, 3298534883328), (640, 8796093022208, 5497558138880), (1152, 17592186044416, 9895604649984), (2176, 35184372088832, 18691697672192), (135, 4, 34359738368), (16383, 8, 35184372088832)] [1060, 1060, 1056, 1060, 1060, 1028, 1060, 1060, 1060, 1060, 36, 1060, 1060, 1060, 1060] (.early 0 (.early 1 (.early 3 (.early 4 (.load 2 (.load 5 (.early 6 (.early 7 (.early 8 (.early 9 (.early 13 (.load 10 (.early 11 (.early 12 (.early 14 .done)))))))))))))))) .none)) .none)))))))) (sQ .none)))
theorem e9Q (x0 : Value) (w : World) (R : RT) (E : Pan) : d5E x0 w R E = callX Tryz.prog [.tmp 2, .tmp 3] f8e f8f [x0] w R E := by kernel_rfl
theorem e9R {x0 : Value} (h : d5E x0 w R E) : Cv Tryz.prog 143 #[x0] w R E := by
 refine i7 (args := [x0]) (c := f8e) (h := f8f) (rs := [.tmp 2, .tmp 3]) Tryz.func143 (by kernel_rfl) (by kernel_rfl) (nB (by kernel_rfl)) (by kernel_rfl) (by kernel_rfl) (by kernel_rfl) ?_
 rw [← e9Q]
 exact h
def c5E (w : World) (R : RT) (_E : Pan) : Prop :=
 ∀ _τ : Fr, (R (vB true) w)
def d4q (x21 : Value) (w : World) (next2 : NT) (j1 : NT) (R : RT) (E : Pan) : Prop :=
 oP E (xV (Instr.next x21 true 0)) w fun c9p u6 =>
 oP E (eX c9p 0) u6 fun f8g v6 =>
 xcond f8g
 (oP E (eX c9p 1) v6 fun f8h y7 =>
 oP E (eX c9p 2) y7 fun d9W C4 =>
 oP E (xCall (fC 165) [d9W]) C4 fun f8i H7 =>
 oP E (xV (Op.unary .not f8i)) H7 fun b1c D6 =>
 oP E (gsem (asB b1c) false (xBin .eql 3 (.tmp 30) (.const (vI 0)) (gval (asB b1c) false f8h) (vI 0))) D6 fun c3R A6 =>
 oP E (gsem (asB (gval (asB b1c) false c3R)) true (xCall (fC 166) [(gval (asB (gval (asB b1c) false c3R)) true d9W)])) A6 fun f8j K5 =>
 oP E (gsem (asB (gval (asB b1c) false c3R)) true (xBin .neq 3 (.tmp 34) (.const (vI 3)) f8j (vI 3))) K5 fun f8k K0 =>
 oP E (gsem (asB b1c) false (xPick (gval (asB b1c) false c3R) f8k (vB false))) K0 fun f8l H9 =>
 oP E (xPick b1c (vB true) f8l) H9 fun f8m I0 =>
 xcond f8m
 (R (vB false) I0)
 (next2 [] I0))
 (j1 [] v6)
def d5G (x0 : Value) (w : World) (R : RT) (E : Pan) : Prop :=
 oP E (xBin .eql 9 (.tmp 5) (.const (eS)) x0 (eS)) w fun b8P w_2 =>
 oP E (gsem (asB b8P) false (xCall (fC 162) [(gval (asB b8P) false x0)])) w_2 fun a0N w_4 =>
 oP E (gsem (asB b8P) false (xV (Op.unary .not a0N))) w_4 fun a2g w_6 =>
 oP E (xPick b8P (vB true) a2g) w_6 fun a9w w_8 =>
 oP E (gsem (asB a9w) false (xCall (fC 163) [(gval (asB a9w) false x0)])) w_8 fun a5x o7 =>
 oP E (xPick a9w (vB true) a5x) o7 fun a5P p7 =>
 oP E (gsem (asB a5P) false (xCall (fC 164) [(gval (asB a5P) false x0)])) p7 fun b8S o8 =>
 oP E (xPick a5P (vB true) b8S) o8 fun a8s r5 =>
 xcond a8s
 (R (vB false) r5)
 (xcut (fun _ t8 => c5E t8 R E) fun j1 =>
 oP E (xV (Instr.range 9 x0)) r5 fun f8n t7 =>
 xloop [] [] t7 fun _ K6 next2 =>
 d4q f8n K6 next2 j1 R E)
noncomputable def f8o : Code := Tryz.f144.body.getD .skip
def f8p : Hint := (sQ (.seq (sQ (.cond (sQ .none) .none)) (.cut [] (sQ (.block (.loop [] (sQ (.seq (.cond .none .none) (.block (sQ (sQ (.cond (sQ .none) .none))))))))) (sQ .none))))
theorem e9S (x0 : Value) (w : World) (R : RT) (E : Pan) : d5G x0 w R E = callX Tryz.prog [.tmp 2] f8o f8p [x0] w R E := by kernel_rfl
theorem e9T {x0 : Value} (h : d5G x0 w R E) : Cv Tryz.prog 144 #[x0] w R E := by
 refine i7 (args := [x0]) (c := f8o) (h := f8p) (rs := [.tmp 2]) Tryz.func144 (by kernel_rfl) (by kernel_rfl) (nB (by kernel_rfl)) (by kernel_rfl) (by kernel_rfl) (by kernel_rfl) ?_
 rw [← e9S]
 exact h
def d5H (x0 x1 : Value) (w : World) (R : RT) (E : Pan) : Prop :=
 oP E (xCall (fC 167) [x0, x1]) w fun a5p w_2 =>
 oP E (xBin .geq 3 (.tmp 7) (.const (vI 0)) a5p (vI 0)) w_2 fun b9a w_4 =>
 R b9a w_4
noncomputable def f8q : Code := Tryz.f145.body.getD .skip
def f8r : Hint := (sQ (sQ .none))
theorem e9U (x0 x1 : Value) (w : World) (R : RT) (E : Pan) : d5H x0 x1 w R E = callX Tryz.prog [.tmp 4] f8q f8r [x0, x1] w R E := by kernel_rfl
theorem e9V {x0 x1 : Value} (h : d5H x0 x1 w R E) : Cv Tryz.prog 145 #[x0, x1] w R E := by
 refine i7 (args := [x0, x1]) (c := f8q) (h := f8r) (rs := [.tmp 4]) Tryz.func145 (by kernel_rfl) (by kernel_rfl) (nB (by kernel_rfl)) (by kernel_rfl) (by kernel_rfl) (by kernel_rfl) ?_
 rw [← e9U]
 exact h
def d5I (x0 : Value) (w : World) (R : RT) (E : Pan) : Prop :=
 oP E (xCall (fC 169) [x0]) w fun b9b w_2 =>
 oP E (xBin .gtr 3 (.tmp 4) (.const (vI 32)) b9b (vI 32)) w_2 fun b4T w_4 =>
 R b4T w_4
noncomputable def f8s : Code := Tryz.f163.body.getD .skip
def f8t : Hint := (sQ (sQ .none))
theorem e9W (x0 : Value) (w : World) (R : RT) (E : Pan) : d5I x0 w R E = callX Tryz.prog [.tmp 2] f8s f8t [x0] w R E := by kernel_rfl
theorem e9X {x0 : Value} (h : d5I x0 w R E) : Cv Tryz.prog 163 #[x0] w R E := by
 refine i7 (args := [x0]) (c := f8s) (h := f8t) (rs := [.tmp 2]) Tryz.func163 (by kernel_rfl) (by kernel_rfl) (nB (by kernel_rfl)) (by kernel_rfl) (by kernel_rfl) (by kernel_rfl) ?_
 rw [← e9W]
 exact h
def c5F (x4 : Value) (w : World) (R : RT) (_E : Pan) : Prop :=
 ∀ _τ : Fr, (xcond x4
 (R (vB true) w)
 (R (vB false) w))
def d5J (x0 : Value) (w : World) (R : RT) (E : Pan) : Prop :=
 xcut (fun l_1 w_2 => c5F (nth l_1 0) w_2 R E) fun j1 =>
 oP E (xBin .eql 9 (.tmp 3) (.const (Value.string ⟨#[118, 97, 114]⟩)) x0 (Value.string ⟨#[118, 97, 114]⟩)) w fun b4T w_4 =>
 xcond b4T
 (j1 [b4T] w_4)
 (oP E (xBin .eql 9 (.tmp 3) (.const (Value.string ⟨#[97, 114, 114, 97, 121]⟩)) x0 (Value.string ⟨#[97, 114, 114, 97, 121]⟩)) w_4 fun a9s w_6 =>
 xcond a9s
 (j1 [a9s] w_6)
 (oP E (xBin .eql 9 (.tmp 3) (.const (Value.string ⟨#[105, 102]⟩)) x0 (Value.string ⟨#[105, 102]⟩)) w_6 fun b1v w_8 =>
 xcond b1v
 (j1 [b1v] w_8)
 (oP E (xBin .eql 9 (.tmp 3) (.const (Value.string ⟨#[101, 108, 115, 101]⟩)) x0 (Value.string ⟨#[101, 108, 115, 101]⟩)) w_8 fun a5n o7 =>
 xcond a5n
 (j1 [a5n] o7)
 (oP E (xBin .eql 9 (.tmp 3) (.const (Value.string ⟨#[119, 104, 105, 108, 101]⟩)) x0 (Value.string ⟨#[119, 104, 105, 108, 101]⟩)) o7 fun a7g p7 =>
 xcond a7g
 (j1 [a7g] p7)
 (oP E (xBin .eql 9 (.tmp 3) (.const (Value.string ⟨#[97, 115, 115, 101, 114, 116]⟩)) x0 (Value.string ⟨#[97, 115, 115, 101, 114, 116]⟩)) p7 fun d9X o8 =>
 xcond d9X
 (j1 [d9X] o8)
 (oP E (xBin .eql 9 (.tmp 3) (.const (Value.string ⟨#[97, 115, 115, 117, 109, 101]⟩)) x0 (Value.string ⟨#[97, 115, 115, 117, 109, 101]⟩)) o8 fun d9Y r5 =>
 xcond d9Y
 (j1 [d9Y] r5)
 (oP E (xBin .eql 9 (.tmp 3) (.const (Value.string ⟨#[115, 107, 105, 112]⟩)) x0 (Value.string ⟨#[115, 107, 105, 112]⟩)) r5 fun d9Z t8 =>
 xcond d9Z
 (j1 [d9Z] t8)
 (oP E (xBin .eql 9 (.tmp 3) (.const (Value.string ⟨#[105, 110, 112, 117, 116]⟩)) x0 (Value.string ⟨#[105, 110, 112, 117, 116]⟩)) t8 fun e0a t7 =>
 xcond e0a
 (j1 [e0a] t7)
 (oP E (xBin .eql 9 (.tmp 3) (.const (Value.string ⟨#[116, 114, 117, 101]⟩)) x0 (Value.string ⟨#[116, 114, 117, 101]⟩)) t7 fun e0b u6 =>
 xcond e0b
 (j1 [e0b] u6)
 (oP E (xBin .eql 9 (.tmp 3) (.const (Value.string ⟨#[102, 97, 108, 115, 101]⟩)) x0 (Value.string ⟨#[102, 97, 108, 115, 101]⟩)) u6 fun f8u v6 =>
 j1 [f8u] v6))))))))))
noncomputable def f8v : Code := Tryz.f164.body.getD .skip
def f8w : Hint := (sQ (.seq (sQ (.block (.cut [4] (sQ (.cond .none (sQ (.cond .none (sQ (.cond .none (sQ (.cond .none (sQ (.cond .none (sQ (.cond .none (sQ (.cond .none (sQ (.cond .none (sQ (.cond .none (sQ (.cond .none .none)))))))))))))))))))) (.cond (sQ .none) .none)))) (sQ .none)))
theorem e9Y (x0 : Value) (w : World) (R : RT) (E : Pan) : d5J x0 w R E = callX Tryz.prog [.tmp 2] f8v f8w [x0] w R E := by kernel_rfl
theorem e9Z {x0 : Value} (h : d5J x0 w R E) : Cv Tryz.prog 164 #[x0] w R E := by
 refine i7 (args := [x0]) (c := f8v) (h := f8w) (rs := [.tmp 2]) Tryz.func164 (by kernel_rfl) (by kernel_rfl) (nB (by kernel_rfl)) (by kernel_rfl) (by kernel_rfl) (by kernel_rfl) ?_
 rw [← e9Y]
 exact h
def d5K (x0 : Value) (w : World) (R : RT) (E : Pan) : Prop :=
 oP E (xCall (fC 166) [x0]) w fun c2b w_2 =>
 oP E (xBin .eql 3 (.tmp 6) (.const (vI 3)) c2b (vI 3)) w_2 fun b0e w_4 =>
 oP E (gsem (asB b0e) false (xBin .eql 3 (.tmp 9) (.const (vI 4)) (gval (asB b0e) false c2b) (vI 4))) w_4 fun a2g w_6 =>
 oP E (xPick b0e (vB true) a2g) w_6 fun a9w w_8 =>
 R a9w w_8
noncomputable def f8x : Code := Tryz.f165.body.getD .skip
def f8y : Hint := (sQ (sQ (sQ .none)))
theorem f0a (x0 : Value) (w : World) (R : RT) (E : Pan) : d5K x0 w R E = callX Tryz.prog [.tmp 2] f8x f8y [x0] w R E := by kernel_rfl
theorem f0b {x0 : Value} (h : d5K x0 w R E) : Cv Tryz.prog 165 #[x0] w R E := by
 refine i7 (args := [x0]) (c := f8x) (h := f8y) (rs := [.tmp 2]) Tryz.func165 (by kernel_rfl) (by kernel_rfl) (nB (by kernel_rfl)) (by kernel_rfl) (by kernel_rfl) (by kernel_rfl) ?_
 rw [← f0a]
 exact h
def c5G (x39 : Value) (w : World) (R : RT) (_E : Pan) : Prop :=
 ∀ _τ : Fr, (xcond x39
 (R (vI 3) w)
 (R (vI 6) w))
def c5H (x1 x31 : Value) (w : World) (R : RT) (E : Pan) : Prop :=
 ∀ _τ : Fr, (xcond x31
 (R (vI 6) w)
 (oP E (xV (Instr.makeFunc (.func 170) #[] #[x1])) w fun c0I w_8 =>
 oP E (xCall c0I [(Value.int .i32 48), (Value.int .i32 57)]) w_8 fun h2H o7 =>
 xcond h2H
 (R (vI 4) o7)
 (xcut (fun d5L p7 => c5G (nth d5L 0) p7 R E) fun j4 =>
 oP E (lA 21 x1) o7 fun f8z o8 =>
 oP E (xBin .eql 21 (.tmp 40) (.const (Value.int .i32 95)) f8z (Value.int .i32 95)) o8 fun e0c r5 =>
 xcond e0c
 (j4 [e0c] r5)
 (oP E (xCall c0I [(Value.int .i32 97), (Value.int .i32 122)]) r5 fun e0d t8 =>
 xcond e0d
 (j4 [e0d] t8)
 (oP E (xCall c0I [(Value.int .i32 65), (Value.int .i32 90)]) t8 fun e0e t7 =>
 xcond e0e
 (j4 [e0e] t7)
 (oP E (xCall c0I [(Value.int .i32 192), (Value.int .i32 591)]) t7 fun e0f u6 =>
 xcond e0f
 (j4 [e0f] u6)
 (oP E (xCall c0I [(Value.int .i32 913), (Value.int .i32 969)]) u6 fun e0g v6 =>
 xcond e0g
 (j4 [e0g] v6)
 (oP E (xCall c0I [(Value.int .i32 1040), (Value.int .i32 1103)]) v6 fun f8A y7 =>
 j4 [f8A] y7))))))))
def c5I (x1 x4 x11 : Value) (w : World) (R : RT) (E : Pan) : Prop :=
 ∀ _τ : Fr, (xcond x11
 (R (vI 5) w)
 (xcut (fun e3B C4 => c5H x1 (nth e3B 0) C4 R E) fun j3 =>
 oP E (xBin .eql 21 (.tmp 4) (.const (Value.int .i32 215)) x4 (Value.int .i32 215)) w fun c3S H7 =>
 xcond c3S
 (j3 [c3S] H7)
 (oP E (xBin .eql 21 (.tmp 4) (.const (Value.int .i32 247)) x4 (Value.int .i32 247)) H7 fun e0h D6 =>
 xcond e0h
 (j3 [e0h] D6)
 (oP E (xBin .eql 21 (.tmp 4) (.const (Value.int .i32 930)) x4 (Value.int .i32 930)) D6 fun c9q A6 =>
 j3 [c9q] A6))))
def c5J (x1 x4 x5 : Value) (w : World) (R : RT) (E : Pan) : Prop :=
 ∀ _τ : Fr, (xcond x5
 (R (vI 1) w)
 (oP E (xBin .eql 21 (.tmp 4) (.const (Value.int .i32 10)) x4 (Value.int .i32 10)) w fun a2g w_6 =>
 xcond a2g
 (R (vI 2) w_6)
 (xcut (fun c5K K5 => c5I x1 x4 (nth c5K 0) K5 R E) fun j2 =>
 oP E (xBin .eql 21 (.tmp 4) (.const (Value.int .i32 59)) x4 (Value.int .i32 59)) w_6 fun e0i K0 =>
 xcond e0i
 (j2 [e0i] K0)
 (oP E (xBin .eql 21 (.tmp 4) (.const (Value.int .i32 44)) x4 (Value.int .i32 44)) K0 fun e0j H9 =>
 xcond e0j
 (j2 [e0j] H9)
 (oP E (xBin .eql 21 (.tmp 4) (.const (Value.int .i32 123)) x4 (Value.int .i32 123)) H9 fun e0k I0 =>
 xcond e0k
 (j2 [e0k] I0)
 (oP E (xBin .eql 21 (.tmp 4) (.const (Value.int .i32 125)) x4 (Value.int .i32 125)) I0 fun e0l K6 =>
 xcond e0l
 (j2 [e0l] K6)
 (oP E (xBin .eql 21 (.tmp 4) (.const (Value.int .i32 40)) x4 (Value.int .i32 40)) K6 fun c3T M9 =>
 xcond c3T
 (j2 [c3T] M9)
 (oP E (xBin .eql 21 (.tmp 4) (.const (Value.int .i32 41)) x4 (Value.int .i32 41)) M9 fun e0m O1 =>
 xcond e0m
 (j2 [e0m] O1)
 (oP E (xBin .eql 21 (.tmp 4) (.const (Value.int .i32 91)) x4 (Value.int .i32 91)) O1 fun c3U N8 =>
 xcond c3U
 (j2 [c3U] N8)
 (oP E (xBin .eql 21 (.tmp 4) (.const (Value.int .i32 93)) x4 (Value.int .i32 93)) N8 fun e0n M2 =>
 xcond e0n
 (j2 [e0n] M2)
 (oP E (xBin .eql 21 (.tmp 4) (.const (Value.int .i32 61)) x4 (Value.int .i32 61)) M2 fun e0o O0 =>
 xcond e0o
 (j2 [e0o] O0)
 (oP E (xBin .eql 21 (.tmp 4) (.const (Value.int .i32 33)) x4 (Value.int .i32 33)) O0 fun e0p O8 =>
 xcond e0p
 (j2 [e0p] O8)
 (oP E (xBin .eql 21 (.tmp 4) (.const (Value.int .i32 60)) x4 (Value.int .i32 60)) O8 fun e0q O9 =>
 xcond e0q
 (j2 [e0q] O9)
 (oP E (xBin .eql 21 (.tmp 4) (.const (Value.int .i32 62)) x4 (Value.int .i32 62)) O9 fun e0r R8 =>
 xcond e0r
 (j2 [e0r] R8)
 (oP E (xBin .eql 21 (.tmp 4) (.const (Value.int .i32 43)) x4 (Value.int .i32 43)) R8 fun e0s Q1 =>
 xcond e0s
 (j2 [e0s] Q1)
 (oP E (xBin .eql 21 (.tmp 4) (.const (Value.int .i32 45)) x4 (Value.int .i32 45)) Q1 fun e0t T3 =>
 xcond e0t
 (j2 [e0t] T3)
 (oP E (xBin .eql 21 (.tmp 4) (.const (Value.int .i32 42)) x4 (Value.int .i32 42)) T3 fun e0u U5 =>
 xcond e0u
 (j2 [e0u] U5)
 (oP E (xBin .eql 21 (.tmp 4) (.const (Value.int .i32 47)) x4 (Value.int .i32 47)) U5 fun e0v W9 =>
 xcond e0v
 (j2 [e0v] W9)
 (oP E (xBin .eql 21 (.tmp 4) (.const (Value.int .i32 37)) x4 (Value.int .i32 37)) W9 fun e0w S3 =>
 xcond e0w
 (j2 [e0w] S3)
 (oP E (xBin .eql 21 (.tmp 4) (.const (Value.int .i32 38)) x4 (Value.int .i32 38)) S3 fun e0x Z1 =>
 xcond e0x
 (j2 [e0x] Z1)
 (oP E (xBin .eql 21 (.tmp 4) (.const (Value.int .i32 124)) x4 (Value.int .i32 124)) Z1 fun f8B a0O =>
 j2 [f8B] a0O)))))))))))))))))))))
def d5M (x0 : Value) (w : World) (R : RT) (E : Pan) : Prop :=
 oP E (xV (Instr.box 21 x0)) w fun q7 w_2 =>
 oP E (lA 21 q7) w_2 fun a1k w_4 =>
 xcut (fun h6W Y4 => c5J q7 a1k (nth h6W 0) Y4 R E) fun j1 =>
 oP E (xBin .eql 21 (.tmp 4) (.const (Value.int .i32 32)) a1k (Value.int .i32 32)) w_4 fun e7T Z4 =>
 xcond e7T
 (j1 [e7T] Z4)
 (oP E (xBin .eql 21 (.tmp 4) (.const (Value.int .i32 9)) a1k (Value.int .i32 9)) Z4 fun e7U a2e =>
 xcond e7U
 (j1 [e7U] a2e)
 (oP E (xBin .eql 21 (.tmp 4) (.const (Value.int .i32 13)) a1k (Value.int .i32 13)) a2e fun c7C Y5 =>
 j1 [c7C] Y5))
noncomputable def f8C : Code := Tryz.f166.body.getD .skip
def f8D : Hint := (sQ (.seq (sQ (.block (.cut [5] (sQ (.cond .none (sQ (.cond .none .none)))) (.cond (sQ .none) (sQ (.cond (sQ .none) (.cut [11] (sQ (.cond .none (sQ (.cond .none (sQ (.cond .none (sQ (.cond .none (sQ (.cond .none (sQ (.cond .none (sQ (.cond .none (sQ (.cond .none (sQ (.cond .none (sQ (.cond .none (sQ (.cond .none (sQ (.cond .none (sQ (.cond .none (sQ (.cond .none (sQ (.cond .none (sQ (.cond .none (sQ (.cond .none (sQ (.cond .none .none)))))))))))))))))))))))))))))))))))) (.cond (sQ .none) (.cut [31] (sQ (.cond .none (sQ (.cond .none .none)))) (.cond (sQ .none) .none)))))))))) (sQ (.seq (.block (sQ (.cond (sQ .none) (.cut [39] (sQ (.cond .none (sQ (.cond .none (sQ (.cond .none (sQ (.cond .none (sQ (.cond .none .none)))))))))) (.cond (sQ .none) .none))))) (sQ .none)))))
theorem f0c (x0 : Value) (w : World) (R : RT) (E : Pan) : d5M x0 w R E = callX Tryz.prog [.tmp 2] f8C f8D [x0] w R E := by kernel_rfl
theorem f0d {x0 : Value} (h : d5M x0 w R E) : Cv Tryz.prog 166 #[x0] w R E := by
 refine i7 (args := [x0]) (c := f8C) (h := f8D) (rs := [.tmp 2]) Tryz.func166 (by kernel_rfl) (by kernel_rfl) (nB (by kernel_rfl)) (by kernel_rfl) (by kernel_rfl) (by kernel_rfl) ?_
 rw [← f0c]
 exact h
def c5L (w : World) (R : RT) (_E : Pan) : Prop :=
 ∀ _τ : Fr, (R (vI (-1)) w)
def d4r (x0 x1 x7 x8 : Value) (w : World) (next2 : NT) (j1 : NT) (R : RT) (E : Pan) : Prop :=
 oP E (xBin .lss 3 (.tmp 8) (.tmp 7) x8 x7) w fun c5M w_6 =>
 xcond c5M
 (oP E (iA 88 x0 x8) w_6 fun a3e w_8 =>
 oP E (lA 9 a3e) w_8 fun b4p o7 =>
 oP E (xBin .eql 9 (.tmp 11) (.tmp 15) x1 b4p) o7 fun a7r p7 =>
 xcond a7r
 (R x8 p7)
 (oP E (xBin .add 3 (.tmp 8) (.const (vI 1)) x8 (vI 1)) p7 fun b8S o8 =>
 next2 [b8S] o8))
 (j1 [] w_6)
def d5N (x0 x1 : Value) (w : World) (R : RT) (E : Pan) : Prop :=
 xcut (fun _ w_2 => c5L w_2 R E) fun j1 =>
 oP E (xBuiltin .len #[88] 3 [false] [x0]) w fun b0e w_4 =>
 xloop [8] [(vI 0)] w_4 fun τ_15 r5 next2 =>
 d4r x0 x1 b0e (τ_15 8) r5 next2 j1 R E
noncomputable def f8E : Code := Tryz.f167.body.getD .skip
def f8F : Hint := (sQ (.cut [] (sQ (.block (.loop [8] (sQ (.seq (.cond .none .none) (.seq (.block (sQ (sQ (.cond (sQ .none) .none)))) .none)))))) (sQ .none)))
theorem f0e (x0 x1 : Value) (w : World) (R : RT) (E : Pan) : d5N x0 x1 w R E = callX Tryz.prog [.tmp 4] f8E f8F [x0, x1] w R E := by kernel_rfl
theorem f0f {x0 x1 : Value} (h : d5N x0 x1 w R E) : Cv Tryz.prog 167 #[x0, x1] w R E := by
 refine i7 (args := [x0, x1]) (c := f8E) (h := f8F) (rs := [.tmp 4]) Tryz.func167 (by kernel_rfl) (by kernel_rfl) (nB (by kernel_rfl)) (by kernel_rfl) (by kernel_rfl) (by kernel_rfl) ?_
 rw [← f0e]
 exact h
def c5N (x2 : Value) (w : World) (R : RT) (_E : Pan) : Prop :=
 ∀ _τ : Fr, (R x2 w)
def d4s (x2 x4 : Value) (w : World) (next2 : NT) (j1 : NT) (_R : RT) (E : Pan) : Prop :=
 oP E (xV (Instr.next x4 true 0)) w fun b6P w_6 =>
 oP E (eX b6P 0) w_6 fun a5S w_8 =>
 xcond a5S
 (oP E (xBin .add 3 (.tmp 7) (.const (vI 1)) x2 (vI 1)) w_8 fun a5n o7 =>
 next2 [a5n] o7)
 (j1 [x2] w_8)
def d5O (x0 : Value) (w : World) (R : RT) (E : Pan) : Prop :=
 xcut (fun l_1 w_2 => c5N (nth l_1 0) w_2 R E) fun j1 =>
 oP E (xV (Instr.range 9 x0)) w fun a1k w_4 =>
 xloop [2] [(vI 0)] w_4 fun τ_11 p7 next2 =>
 d4s (τ_11 2) a1k p7 next2 j1 R E
noncomputable def f8G : Code := Tryz.f169.body.getD .skip
def f8H : Hint := (sQ (.cut [2] (sQ (.block (.loop [2] (sQ (.seq (.cond .none .none) (.block .none)))))) (sQ .none)))
theorem f0g (x0 : Value) (w : World) (R : RT) (E : Pan) : d5O x0 w R E = callX Tryz.prog [.tmp 2] f8G f8H [x0] w R E := by kernel_rfl
theorem f0h {x0 : Value} (h : d5O x0 w R E) : Cv Tryz.prog 169 #[x0] w R E := by
 refine i7 (args := [x0]) (c := f8G) (h := f8H) (rs := [.tmp 2]) Tryz.func169 (by kernel_rfl) (by kernel_rfl) (nB (by kernel_rfl)) (by kernel_rfl) (by kernel_rfl) (by kernel_rfl) ?_
 rw [← f0g]
 exact h
def d5P (x0 x1 x2 : Value) (w : World) (R : RT) (E : Pan) : Prop :=
 oP E (lA 21 x2) w fun a5p w_2 =>
 oP E (xBin .leq 21 (.tmp 6) (.tmp 7) x0 a5p) w_2 fun b9a w_4 =>
 oP E (gsem (asB b9a) true (lA 21 x2)) w_4 fun a2g w_6 =>
 oP E (gsem (asB b9a) true (xBin .leq 21 (.tmp 10) (.tmp 11) a2g (gval (asB b9a) true x1))) w_6 fun a2Z w_8 =>
 oP E (xPick b9a a2Z (vB false)) w_8 fun a3b o7 =>
 R a3b o7
noncomputable def f8I : Code := Tryz.f170.body.getD .skip
def f8J : Hint := (sQ (sQ .none))
theorem f0i (x0 x1 x2 : Value) (w : World) (R : RT) (E : Pan) : d5P x0 x1 x2 w R E = callX Tryz.prog [.tmp 5] f8I f8J [x0, x1, x2] w R E := by kernel_rfl
theorem f0j {x0 x1 x2 : Value} (h : d5P x0 x1 x2 w R E) : Cv Tryz.prog 170 #[x0, x1, x2] w R E := by
 refine i7 (args := [x0, x1, x2]) (c := f8I) (h := f8J) (rs := [.tmp 5]) Tryz.func170 (by kernel_rfl) (by kernel_rfl) (nB (by kernel_rfl)) (by kernel_rfl) (by kernel_rfl) (by kernel_rfl) ?_
 rw [← f0i]
 exact h
def c5O (x3 x59 : Value) (w : World) (R : RT) (E : Pan) : Prop :=
 ∀ _τ : Fr, (xcond x59
 (oP E (xBin .eql 3 (.tmp 65) (.const (vI 2)) x3 (vI 2)) w fun f8K Z4 =>
 R f8K Z4)
 (R (vB false) w))
def c5P (x3 x38 x54 : Value) (w : World) (R : RT) (E : Pan) : Prop :=
 ∀ _τ : Fr, (xcond x54
 (oP E (xBin .eql 3 (.tmp 57) (.const (vI 1)) x3 (vI 1)) w fun f8L Y4 =>
 R f8L Y4)
 (xcut (fun b9c a2e => c5O x3 (nth b9c 0) a2e R E) fun j3 =>
 oP E (xBin .eql 3 (.tmp 38) (.const (vI 6)) x38 (vI 6)) w fun b2N Y5 =>
 xcond b2N
 (j3 [b2N] Y5)
 (oP E (xBin .eql 3 (.tmp 38) (.const (vI 7)) x38 (vI 7)) Y5 fun e0y X0 =>
 xcond e0y
 (j3 [e0y] X0)
 (oP E (xBin .eql 3 (.tmp 38) (.const (vI 8)) x38 (vI 8)) X0 fun e0z a0x =>
 xcond e0z
 (j3 [e0z] a0x)
 (oP E (xBin .eql 3 (.tmp 38) (.const (vI 9)) x38 (vI 9)) a0x fun e0A V9 =>
 xcond e0A
 (j3 [e0A] V9)
 (oP E (xBin .eql 3 (.tmp 38) (.const (vI 10)) x38 (vI 10)) V9 fun f8M a3y =>
 j3 [f8M] a3y))))))
def c5Q (x3 x38 x49 : Value) (w : World) (R : RT) (E : Pan) : Prop :=
 ∀ _τ : Fr, (xcond x49
 (oP E (xBin .eql 3 (.tmp 52) (.const (vI 0)) x3 (vI 0)) w fun b8U a0O =>
 R b8U a0O)
 (xcut (fun h6X a5o => c5P x3 x38 (nth h6X 0) a5o R E) fun j2 =>
 oP E (xBin .eql 3 (.tmp 38) (.const (vI 4)) x38 (vI 4)) w fun e0B a3M =>
 xcond e0B
 (j2 [e0B] a3M)
 (oP E (xBin .eql 3 (.tmp 38) (.const (vI 5)) x38 (vI 5)) a3M fun f8N a5R =>
 j2 [f8N] a5R)))
def d5Q (x0 : Value) (w : World) (R : RT) (E : Pan) : Prop :=
 oP E (xV (Instr.box 136 x0)) w fun q7 w_2 =>
 oP E (fA 136 q7 0) w_2 fun a6W w_4 =>
 oP E (fA 53 a6W 3) w_4 fun a8I w_6 =>
 oP E (lA 51 a8I) w_6 fun a6X w_8 =>
 oP E (xBuiltin .len #[51] 3 [false] [a6X]) w_8 fun b9d o7 =>
 oP E (lA 136 q7) o7 fun a6R p7 =>
 oP E (xV (Instr.makeInterface 136 a6R)) p7 fun b1b o8 =>
 oP E (xCall (fC 143) [b1b]) o8 fun a7s r5 =>
 oP E (eX a7s 0) r5 fun _t14_17 t8 =>
 oP E (eX a7s 1) t8 fun a3v t7 =>
 oP E (fA 136 q7 0) t7 fun a3W u6 =>
 oP E (fA 53 a3W 0) u6 fun a7p v6 =>
 oP E (lA 3 a7p) v6 fun a3w y7 =>
 oP E (xBin .neq 3 (.tmp 18) (.const (vI 1)) a3w (vI 1)) y7 fun a7q C4 =>
 oP E (gsem (asB a7q) true (fA 136 q7 0)) C4 fun c9r H7 =>
 oP E (gsem (asB a7q) true (fA 53 c9r 1)) H7 fun c9s D6 =>
 oP E (gsem (asB a7q) true (lA 2 c9s)) D6 fun b9e A6 =>
 oP E (gsem (asB a7q) true (xBin .neq 2 (.tmp 23) (.const (vI 0)) b9e (vI 0))) A6 fun b2J K5 =>
 oP E (xPick a7q b2J (vB false)) K5 fun a0k K0 =>
 oP E (gsem (asB a0k) false (xV (Op.unary .not (gval (asB a0k) false a3v)))) K0 fun b9f H9 =>
 oP E (gsem (asB (gval (asB a0k) false b9f)) true (fA 136 q7 0)) H9 fun c9t I0 =>
 oP E (gsem (asB (gval (asB a0k) false b9f)) true (fA 53 c9t 2)) I0 fun c9u K6 =>
 oP E (gsem (asB (gval (asB a0k) false b9f)) true (lA 9 c9u)) K6 fun c9v M9 =>
 oP E (gsem (asB (gval (asB a0k) false b9f)) true (xBin .neq 9 (.tmp 32) (.const (eS)) c9v (eS))) M9 fun f8O O1 =>
 oP E (gsem (asB a0k) false (xPick (gval (asB a0k) false b9f) f8O (vB false))) O1 fun f8P N8 =>
 oP E (xPick a0k (vB true) f8P) N8 fun f8Q M2 =>
 xcond f8Q
 (R (vB false) M2)
 (oP E (fA 136 q7 0) M2 fun c9n O0 =>
 oP E (fA 53 c9n 0) O0 fun f8R O8 =>
 oP E (lA 3 f8R) O8 fun c3V O9 =>
 oP E (xBin .eql 3 (.tmp 38) (.const (vI 1)) c3V (vI 1)) O9 fun f8S R8 =>
 xcond f8S
 (oP E (fA 136 q7 0) R8 fun f8T Q1 =>
 oP E (fA 53 f8T 1) Q1 fun f8U T3 =>
 oP E (lA 2 f8U) T3 fun f8V U5 =>
 oP E (xBin .geq 2 (.tmp 43) (.const (vI 0)) f8V (vI 0)) U5 fun b9g W9 =>
 oP E (gsem (asB b9g) true (xBin .eql 3 (.tmp 46) (.const (vI 0)) (gval (asB b9g) true b9d) (vI 0))) W9 fun f8W S3 =>
 oP E (xPick b9g f8W (vB false)) S3 fun f8X Z1 =>
 R f8X Z1)
 (xcut (fun f8Y a6V => c5Q b9d c3V (nth f8Y 0) a6V R E) fun j1 =>
 oP E (xBin .eql 3 (.tmp 38) (.const (vI 2)) c3V (vI 2)) R8 fun e0C a0W =>
 xcond e0C
 (j1 [e0C] a0W)
 (oP E (xBin .eql 3 (.tmp 38) (.const (vI 3)) c3V (vI 3)) a0W fun f0k Z5 =>
 j1 [f0k] Z5)))
noncomputable def f8Z : Code := Tryz.f187.body.getD .skip
def f9a : Hint := (sQ (sQ (sQ (.seq (sQ (.cond (sQ .none) .none)) (.seq (sQ (.block (sQ (.cond (sQ .none) (.cut [49] (sQ (.cond .none .none)) (.cond (sQ .none) (.cut [54] (sQ (.cond .none .none)) (.cond (sQ .none) (.cut [59] (sQ (.cond .none (sQ (.cond .none (sQ (.cond .none (sQ (.cond .none .none)))))))) (.cond (sQ .none) .none)))))))))) (sQ .none))))))
theorem f0l (x0 : Value) (w : World) (R : RT) (E : Pan) : d5Q x0 w R E = callX Tryz.prog [.tmp 2] f8Z f9a [x0] w R E := by kernel_rfl
theorem f0m {x0 : Value} (h : d5Q x0 w R E) : Cv Tryz.prog 187 #[x0] w R E := by
 refine i7 (args := [x0]) (c := f8Z) (h := f9a) (rs := [.tmp 2]) Tryz.func187 (by kernel_rfl) (by kernel_rfl) (nB (by kernel_rfl)) (by kernel_rfl) (by kernel_rfl) (by kernel_rfl) ?_
 rw [← f0l]
 exact h
def d5R (x0 : Value) (w : World) (R : RT) (E : Pan) : Prop :=
 oP E (xV (Instr.box 136 x0)) w fun q7 w_2 =>
 oP E (fA 136 q7 0) w_2 fun a0p w_4 =>
 oP E (fA 53 a0p 3) w_4 fun a3L w_6 =>
 oP E (lA 51 a3L) w_6 fun a6l w_8 =>
 oP E (xCall (fC 189) [a6l, (fC 190)]) w_8 fun b0d o7 =>
 R b0d o7
noncomputable def f9b : Code := Tryz.f188.body.getD .skip
def f9c : Hint := (sQ (sQ .none))
theorem f0n (x0 : Value) (w : World) (R : RT) (E : Pan) : d5R x0 w R E = callX Tryz.prog [.tmp 2] f9b f9c [x0] w R E := by kernel_rfl
theorem f0o {x0 : Value} (h : d5R x0 w R E) : Cv Tryz.prog 188 #[x0] w R E := by
 refine i7 (args := [x0]) (c := f9b) (h := f9c) (rs := [.tmp 2]) Tryz.func188 (by kernel_rfl) (by kernel_rfl) (nB (by kernel_rfl)) (by kernel_rfl) (by kernel_rfl) (by kernel_rfl) ?_
 rw [← f0n]
 exact h
def c5R (x5 : Value) (w : World) (R : RT) (_E : Pan) : Prop :=
 ∀ _τ : Fr, (R x5 w)
def d4t (x1 x5 x8 x9 x10 : Value) (w : World) (next2 : NT) (j1 : NT) (_R : RT) (E : Pan) : Prop :=
 oP E (xBin .lss 3 (.tmp 10) (.tmp 9) x10 x9) w fun a4Z w_6 =>
 xcond a4Z
 (oP E (iA 51 x8 x10) w_6 fun a2Z w_8 =>
 oP E (lA 53 a2Z) w_8 fun a3b o7 =>
 oP E (xV (Instr.alloc 53 true (.tuple #[]))) o7 fun U1 p7 =>
 oP E (sA 53 U1 a3b) p7 fun _z_13 o8 =>
 oP E (lA 53 U1) o8 fun a3x r5 =>
 oP E (xCall x1 [a3x]) r5 fun a1D t8 =>
 oP E (xV (Instr.buildSlice 137 1 #[(0, a1D)])) t8 fun a1E t7 =>
 oP E (xBuiltin .append #[137, 137] 137 [false, false] [x5, a1E]) t7 fun a1F u6 =>
 oP E (xBin .add 3 (.tmp 10) (.const (vI 1)) x10 (vI 1)) u6 fun a1G v6 =>
 next2 [a1F, a1G] v6)
 (j1 [x5] w_6)
def d5S (x0 x1 : Value) (w : World) (R : RT) (E : Pan) : Prop :=
 xcut (fun l_1 w_2 => c5R (nth l_1 0) w_2 R E) fun j1 =>
 oP E (xBuiltin .len #[51] 3 [false] [x0]) w fun a0N w_4 =>
 xloop [5, 10] [(nS), (vI 0)] w_4 fun τ_25 y7 next2 =>
 d4t x1 (τ_25 5) x0 a0N (τ_25 10) y7 next2 j1 R E
noncomputable def f9d : Code := Tryz.f189.body.getD .skip
def f9e : Hint := (sQ (sQ (.cut [5] (sQ (.block (.loop [5, 10] (sQ (.seq (.cond .none .none) (.seq (.block (sQ .none)) .none)))))) (sQ .none))))
theorem f0p (x0 x1 : Value) (w : World) (R : RT) (E : Pan) : d5S x0 x1 w R E = callX Tryz.prog [.tmp 4] f9d f9e [x0, x1] w R E := by kernel_rfl
theorem f0q {x0 x1 : Value} (h : d5S x0 x1 w R E) : Cv Tryz.prog 189 #[x0, x1] w R E := by
 refine i7 (args := [x0, x1]) (c := f9d) (h := f9e) (rs := [.tmp 4]) Tryz.func189 (by kernel_rfl) (by kernel_rfl) (nB (by kernel_rfl)) (by kernel_rfl) (by kernel_rfl) (by kernel_rfl) ?_
 rw [← f0p]
 exact h
def d5T (x0 : Value) (w : World) (R : RT) (E : Pan) : Prop :=
 oP E (xV (Instr.box 53 x0)) w fun q7 w_2 =>
 oP E (lA 53 q7) w_2 fun a0p w_4 =>
 oP E (xV (Instr.build 136 #[(0, a0p)])) w_4 fun a3L w_6 =>
 oP E (xV (Instr.makeInterface 136 a3L)) w_6 fun a6l w_8 =>
 R a6l w_8
noncomputable def f9f : Code := Tryz.f190.body.getD .skip
def f9g : Hint := (sQ (sQ .none))
theorem f0r (x0 : Value) (w : World) (R : RT) (E : Pan) : d5T x0 w R E = callX Tryz.prog [.tmp 2] f9f f9g [x0] w R E := by kernel_rfl
theorem f0s {x0 : Value} (h : d5T x0 w R E) : Cv Tryz.prog 190 #[x0] w R E := by
 refine i7 (args := [x0]) (c := f9f) (h := f9g) (rs := [.tmp 2]) Tryz.func190 (by kernel_rfl) (by kernel_rfl) (nB (by kernel_rfl)) (by kernel_rfl) (by kernel_rfl) (by kernel_rfl) ?_
 rw [← f0r]
 exact h
def c5S (x3 x50 : Value) (w : World) (R : RT) (E : Pan) : Prop :=
 ∀ _τ : Fr, (xcond x50
 (oP E (lA 236 x3) w fun c9w V9 =>
 oP E (xV (Instr.build 236 #[(0, (vI 0)), (1, (vI 2))])) V9 fun c9x a3y =>
 oP E (xBin .eql 236 (.tmp 53) (.tmp 54) c9w c9x) a3y fun c9y a5o =>
 R c9y a5o)
 (R (vB false) w))
def c5T (x3 x38 x39 : Value) (w : World) (R : RT) (E : Pan) : Prop :=
 ∀ _τ : Fr, (xcond x39
 (oP E (lA 236 x3) w fun f9h a0O =>
 oP E (xV (Instr.build 236 #[])) a0O fun f9i Y4 =>
 oP E (xBin .eql 236 (.tmp 42) (.tmp 43) f9h f9i) Y4 fun f9j Z4 =>
 R f9j Z4)
 (oP E (xBin .eql 3 (.tmp 38) (.const (vI 4)) x38 (vI 4)) w fun f9k a2e =>
 xcond f9k
 (oP E (lA 236 x3) a2e fun f9l Y5 =>
 oP E (xV (Instr.build 236 #[(0, (vI 0)), (1, (vI 1))])) Y5 fun f9m X0 =>
 oP E (xBin .eql 236 (.tmp 47) (.tmp 48) f9l f9m) X0 fun f9n a0x =>
 R f9n a0x)
 (xcut (fun c9z a3M => c5S x3 (nth c9z 0) a3M R E) fun j2 =>
 oP E (xBin .eql 3 (.tmp 38) (.const (vI 5)) x38 (vI 5)) a2e fun e0D a5R =>
 xcond e0D
 (j2 [e0D] a5R)
 (oP E (xBin .eql 3 (.tmp 38) (.const (vI 6)) x38 (vI 6)) a5R fun f9o a6V =>
 j2 [f9o] a6V))))
def d5U (x0 : Value) (w : World) (R : RT) (E : Pan) : Prop :=
 oP E (xV (Instr.box 143 x0)) w fun q7 w_2 =>
 oP E (fA 143 q7 0) w_2 fun a1k w_4 =>
 oP E (fA 59 a1k 2) w_4 fun b6P w_6 =>
 oP E (lA 51 b6P) w_6 fun a5S w_8 =>
 oP E (xBuiltin .len #[51] 3 [false] [a5S]) w_8 fun c9A o7 =>
 oP E (fA 143 q7 0) o7 fun c3L p7 =>
 oP E (fA 59 c3L 3) p7 fun c3W o8 =>
 oP E (lA 57 c3W) o8 fun c9B r5 =>
 oP E (xBuiltin .len #[57] 3 [false] [c9B]) r5 fun b5I t8 =>
 oP E (xV (Instr.build 236 #[(0, c9A), (1, b5I)])) t8 fun b9h t7 =>
 oP E (xV (Instr.alloc 236 true (.tuple #[]))) t7 fun d5V u6 =>
 oP E (sA 236 d5V b9h) u6 fun _z_23 v6 =>
 oP E (fA 143 q7 0) v6 fun c9C y7 =>
 oP E (fA 59 c9C 0) y7 fun f9p C4 =>
 oP E (lA 3 f9p) C4 fun f9q H7 =>
 oP E (xBin .eql 3 (.tmp 15) (.const (vI 3)) f9q (vI 3)) H7 fun f9r D6 =>
 xcond f9r
 (oP E (fA 143 q7 0) D6 fun c8Z A6 =>
 oP E (fA 59 c8Z 1) A6 fun b8R K5 =>
 oP E (lA 3 b8R) K5 fun f9s K0 =>
 oP E (xBin .geq 3 (.tmp 19) (.const (vI 1)) f9s (vI 1)) K0 fun b9i H9 =>
 oP E (gsem (asB b9i) true (fA 143 q7 0)) H9 fun f9t I0 =>
 oP E (gsem (asB b9i) true (fA 59 f9t 1)) I0 fun f9u K6 =>
 oP E (gsem (asB b9i) true (lA 3 f9u)) K6 fun f9v M9 =>
 oP E (gsem (asB b9i) true (xBin .leq 3 (.tmp 24) (.const (vI 6)) f9v (vI 6))) M9 fun f9w O1 =>
 oP E (xPick b9i f9w (vB false)) O1 fun c3X N8 =>
 oP E (gsem (asB c3X) true (lA 236 d5V)) N8 fun b9j M2 =>
 oP E (gsem (asB c3X) true (xV (Instr.build 236 #[(0, (vI 2)), (1, (vI 0))]))) M2 fun f9x O0 =>
 oP E (gsem (asB c3X) true (xBin .eql 236 (.tmp 28) (.tmp 29) b9j f9x)) O0 fun f9y O8 =>
 oP E (xPick c3X f9y (vB false)) O8 fun f9z O9 =>
 R f9z O9)
 (oP E (fA 143 q7 0) D6 fun c9D R8 =>
 oP E (fA 59 c9D 1) R8 fun c9E Q1 =>
 oP E (lA 3 c9E) Q1 fun c9F T3 =>
 oP E (xBin .neq 3 (.tmp 34) (.const (vI 0)) c9F (vI 0)) T3 fun f9A U5 =>
 xcond f9A
 (R (vB false) U5)
 (oP E (fA 143 q7 0) U5 fun f9B W9 =>
 oP E (fA 59 f9B 0) W9 fun c8P S3 =>
 oP E (lA 3 c8P) S3 fun c9G Z1 =>
 xcut (fun h6Y a0W => c5T d5V c9G (nth h6Y 0) a0W R E) fun j1 =>
 oP E (xBin .eql 3 (.tmp 38) (.const (vI 1)) c9G (vI 1)) Z1 fun d4u Z5 =>
 xcond d4u
 (j1 [d4u] Z5)
 (oP E (xBin .eql 3 (.tmp 38) (.const (vI 2)) c9G (vI 2)) Z5 fun f0t a0H =>
 j1 [f0t] a0H)))
noncomputable def f9C : Code := Tryz.f191.body.getD .skip
def f9D : Hint := (sQ (sQ (.seq (sQ (.cond (sQ .none) .none)) (.seq (sQ (.cond (sQ .none) .none)) (.seq (sQ (.block (.cut [39] (sQ (.cond .none .none)) (.cond (sQ .none) (sQ (.cond (sQ .none) (.cut [50] (sQ (.cond .none .none)) (.cond (sQ .none) .none)))))))) (sQ .none))))))
theorem f0u (x0 : Value) (w : World) (R : RT) (E : Pan) : d5U x0 w R E = callX Tryz.prog [.tmp 2] f9C f9D [x0] w R E := by kernel_rfl
theorem f0v {x0 : Value} (h : d5U x0 w R E) : Cv Tryz.prog 191 #[x0] w R E := by
 refine i7 (args := [x0]) (c := f9C) (h := f9D) (rs := [.tmp 2]) Tryz.func191 (by kernel_rfl) (by kernel_rfl) (nB (by kernel_rfl)) (by kernel_rfl) (by kernel_rfl) (by kernel_rfl) ?_
 rw [← f0u]
 exact h
def d5W (x0 : Value) (w : World) (R : RT) (E : Pan) : Prop :=
 oP E (xV (Instr.box 143 x0)) w fun q7 w_2 =>
 dX w_2 fun w_3 =>
 qP Tryz.prog (fA 143 q7 0) fun c5x =>
 qP Tryz.prog (fA 59 c5x 2) fun a3L =>
 qP Tryz.prog (fA 143 q7 0) fun e3D =>
 qP Tryz.prog (fA 59 e3D 3) fun a6X =>
 qL Tryz.prog w_3 (blk a3L) (lA 51 a3L) fun c8R =>
 qL Tryz.prog w_3 (blk a6X) (lA 57 a6X) fun b9d =>
 oP E (xCall (fC 189) [c8R, (fC 190)]) w_3 fun h2I R7 =>
 keepX [(blk a6X)] w_3 R7 (opK Tryz.prog E (xCall (fC 193) [b9d, (fC 194)]) R7 fun f9E Z2 =>
 keepX [] R7 Z2 (opK Tryz.prog E (xV (Instr.buildSlice 179 2 #[(0, h2I), (1, f9E)])) Z2 fun f9F c2a =>
 keepX [] Z2 c2a (opK Tryz.prog E (xCall (fC 75) [f9F]) c2a fun f9G a0q =>
 keepX [] c2a a0q (R f9G a0q))))
noncomputable def f9H : Code := Tryz.f192.body.getD .skip
def f9I : Hint := (sQ (.seq (.reg [(0, 8, 2), (1, 16, 8), (2, 32, 16), (4, 64, 32), (0, 128, 2), (16, 256, 128), (32, 512, 256), (72, 1024, 512), (136, 2048, 1088), (384, 4096, 2048), (1023, 4, 4096)] [68, 68, 64, 64, 68, 68, 4, 0, 0, 0, 68] (.early 0 (.early 1 (.early 4 (.early 5 (.load 2 (.load 6 (.step 3 (.step 7 (.step 8 (.step 9 (.early 10 .done)))))))))))) .none))
theorem f0w (x0 : Value) (w : World) (R : RT) (E : Pan) : d5W x0 w R E = callX Tryz.prog [.tmp 2] f9H f9I [x0] w R E := by kernel_rfl
theorem f0x {x0 : Value} (h : d5W x0 w R E) : Cv Tryz.prog 192 #[x0] w R E := by
 refine i7 (args := [x0]) (c := f9H) (h := f9I) (rs := [.tmp 2]) Tryz.func192 (by kernel_rfl) (by kernel_rfl) (nB (by kernel_rfl)) (by kernel_rfl) (by kernel_rfl) (by kernel_rfl) ?_
 rw [← f0w]
 exact h
def c5U (x5 : Value) (w : World) (R : RT) (_E : Pan) : Prop :=
 ∀ _τ : Fr, (R x5 w)
def d4v (x1 x5 x8 x9 x10 : Value) (w : World) (next2 : NT) (j1 : NT) (_R : RT) (E : Pan) : Prop :=
 oP E (xBin .lss 3 (.tmp 10) (.tmp 9) x10 x9) w fun a4Z w_6 =>
 xcond a4Z
 (oP E (iA 57 x8 x10) w_6 fun a2Z w_8 =>
 oP E (lA 59 a2Z) w_8 fun a3b o7 =>
 oP E (xV (Instr.alloc 59 true (.tuple #[]))) o7 fun U1 p7 =>
 oP E (sA 59 U1 a3b) p7 fun _z_13 o8 =>
 oP E (lA 59 U1) o8 fun a3x r5 =>
 oP E (xCall x1 [a3x]) r5 fun a1D t8 =>
 oP E (xV (Instr.buildSlice 137 1 #[(0, a1D)])) t8 fun a1E t7 =>
 oP E (xBuiltin .append #[137, 137] 137 [false, false] [x5, a1E]) t7 fun a1F u6 =>
 oP E (xBin .add 3 (.tmp 10) (.const (vI 1)) x10 (vI 1)) u6 fun a1G v6 =>
 next2 [a1F, a1G] v6)
 (j1 [x5] w_6)
def d5X (x0 x1 : Value) (w : World) (R : RT) (E : Pan) : Prop :=
 xcut (fun l_1 w_2 => c5U (nth l_1 0) w_2 R E) fun j1 =>
 oP E (xBuiltin .len #[57] 3 [false] [x0]) w fun a0N w_4 =>
 xloop [5, 10] [(nS), (vI 0)] w_4 fun τ_25 y7 next2 =>
 d4v x1 (τ_25 5) x0 a0N (τ_25 10) y7 next2 j1 R E
noncomputable def f9J : Code := Tryz.f193.body.getD .skip
def f9K : Hint := (sQ (sQ (.cut [5] (sQ (.block (.loop [5, 10] (sQ (.seq (.cond .none .none) (.seq (.block (sQ .none)) .none)))))) (sQ .none))))
theorem f0y (x0 x1 : Value) (w : World) (R : RT) (E : Pan) : d5X x0 x1 w R E = callX Tryz.prog [.tmp 4] f9J f9K [x0, x1] w R E := by kernel_rfl
theorem f0z {x0 x1 : Value} (h : d5X x0 x1 w R E) : Cv Tryz.prog 193 #[x0, x1] w R E := by
 refine i7 (args := [x0, x1]) (c := f9J) (h := f9K) (rs := [.tmp 4]) Tryz.func193 (by kernel_rfl) (by kernel_rfl) (nB (by kernel_rfl)) (by kernel_rfl) (by kernel_rfl) (by kernel_rfl) ?_
 rw [← f0y]
 exact h
def d5Y (x0 : Value) (w : World) (R : RT) (E : Pan) : Prop :=
 oP E (xV (Instr.box 59 x0)) w fun q7 w_2 =>
 oP E (lA 59 q7) w_2 fun a0p w_4 =>
 oP E (xV (Instr.build 143 #[(0, a0p)])) w_4 fun a3L w_6 =>
 oP E (xV (Instr.makeInterface 143 a3L)) w_6 fun a6l w_8 =>
 R a6l w_8
noncomputable def f9L : Code := Tryz.f194.body.getD .skip
def f9M : Hint := (sQ (sQ .none))
theorem f0A (x0 : Value) (w : World) (R : RT) (E : Pan) : d5Y x0 w R E = callX Tryz.prog [.tmp 2] f9L f9M [x0] w R E := by kernel_rfl
theorem f0B {x0 : Value} (h : d5Y x0 w R E) : Cv Tryz.prog 194 #[x0] w R E := by
 refine i7 (args := [x0]) (c := f9L) (h := f9M) (rs := [.tmp 2]) Tryz.func194 (by kernel_rfl) (by kernel_rfl) (nB (by kernel_rfl)) (by kernel_rfl) (by kernel_rfl) (by kernel_rfl) ?_
 rw [← f0A]
 exact h
def d5Z (x0 : Value) (w : World) (R : RT) (E : Pan) : Prop :=
 oP E (xV (Instr.box 182 x0)) w fun q7 w_2 =>
 oP E (fA 182 q7 0) w_2 fun a0p w_4 =>
 oP E (fA 71 a0p 1) w_4 fun a3L w_6 =>
 oP E (lA 3 a3L) w_6 fun a6l w_8 =>
 oP E (xBin .geq 3 (.tmp 5) (.const (vI 0)) a6l (vI 0)) w_8 fun b0d o7 =>
 oP E (gsem (asB b0d) true (fA 182 q7 0)) o7 fun c3L p7 =>
 oP E (gsem (asB b0d) true (fA 71 c3L 1)) p7 fun c3W o8 =>
 oP E (gsem (asB b0d) true (lA 3 c3W)) o8 fun c9B r5 =>
 oP E (gsem (asB b0d) true (xBin .leq 3 (.tmp 10) (.const (vI 2147483647)) c9B (vI 2147483647))) r5 fun b5I t8 =>
 oP E (xPick b0d b5I (vB false)) t8 fun b9h t7 =>
 R b9h t7
noncomputable def f9N : Code := Tryz.f195.body.getD .skip
def f9O : Hint := (sQ (sQ .none))
theorem f0C (x0 : Value) (w : World) (R : RT) (E : Pan) : d5Z x0 w R E = callX Tryz.prog [.tmp 2] f9N f9O [x0] w R E := by kernel_rfl
theorem f0D {x0 : Value} (h : d5Z x0 w R E) : Cv Tryz.prog 195 #[x0] w R E := by
 refine i7 (args := [x0]) (c := f9N) (h := f9O) (rs := [.tmp 2]) Tryz.func195 (by kernel_rfl) (by kernel_rfl) (nB (by kernel_rfl)) (by kernel_rfl) (by kernel_rfl) (by kernel_rfl) ?_
 rw [← f0C]
 exact h
def d6a (x0 : Value) (w : World) (R : RT) (E : Pan) : Prop :=
 oP E (xV (Instr.box 182 x0)) w fun _t1_1 w_2 =>
 R (nS) w_2
noncomputable def f9P : Code := Tryz.f196.body.getD .skip
def f9Q : Hint := (sQ (sQ .none))
theorem f0E (x0 : Value) (w : World) (R : RT) (E : Pan) : d6a x0 w R E = callX Tryz.prog [.tmp 2] f9P f9Q [x0] w R E := by kernel_rfl
theorem f0F {x0 : Value} (h : d6a x0 w R E) : Cv Tryz.prog 196 #[x0] w R E := by
 refine i7 (args := [x0]) (c := f9P) (h := f9Q) (rs := [.tmp 2]) Tryz.func196 (by kernel_rfl) (by kernel_rfl) (nB (by kernel_rfl)) (by kernel_rfl) (by kernel_rfl) (by kernel_rfl) ?_
 rw [← f0E]
 exact h
def c5V (x4 x5 x35 x83 : Value) (w : World) (R : RT) (E : Pan) : Prop :=
 ∀ _τ : Fr, (xcond x83
 (oP E (gsem (asB x5) true (lA 240 x4)) w fun f0G a7U =>
 oP E (gsem (asB x5) true (xV (Instr.build 240 #[(0, (vI 0)), (1, (vI 1))]))) a7U fun f0H a9x =>
 oP E (gsem (asB x5) true (xBin .eql 240 (.tmp 88) (.tmp 89) f0G f0H)) a9x fun f0I b0P =>
 oP E (xPick x5 f0I (vB false)) b0P fun f0J b1V =>
 R f0J b1V)
 (oP E (xBin .eql 3 (.tmp 35) (.const (vI 7)) x35 (vI 7)) w fun f0K b1W =>
 xcond f0K
 (oP E (gsem (asB x5) true (lA 240 x4)) b1W fun f0L b0Q =>
 oP E (gsem (asB x5) true (xV (Instr.build 240 #[]))) b0Q fun f0M b6Q =>
 oP E (gsem (asB x5) true (xBin .eql 240 (.tmp 96) (.tmp 97) f0L f0M)) b6Q fun f0N c3Y =>
 oP E (xPick x5 f0N (vB false)) c3Y fun f0O c0J =>
 R f0O c0J)
 (R (vB false) b1W)))
def d6b (x0 : Value) (w : World) (R : RT) (E : Pan) : Prop :=
 oP E (xV (Instr.box 184 x0)) w fun q7 w_2 =>
 oP E (fA 184 q7 0) w_2 fun a6W w_4 =>
 oP E (fA 73 a6W 4) w_4 fun a8I w_6 =>
 oP E (lA 23 a8I) w_6 fun a6X w_8 =>
 oP E (xBuiltin .len #[23] 3 [false] [a6X]) w_8 fun b9d o7 =>
 oP E (fA 184 q7 0) o7 fun b8N p7 =>
 oP E (fA 73 b8N 5) p7 fun a4Y o8 =>
 oP E (lA 23 a4Y) o8 fun b2I r5 =>
 oP E (xBuiltin .len #[23] 3 [false] [b2I]) r5 fun U7 t8 =>
 oP E (xBin .add 3 (.tmp 9) (.tmp 13) b9d U7) t8 fun f9R t7 =>
 oP E (xBin .gtr 3 (.tmp 14) (.const (vI 0)) f9R (vI 0)) t7 fun c9H u6 =>
 oP E (fA 184 q7 0) u6 fun c9I v6 =>
 oP E (fA 73 c9I 2) v6 fun b9k y7 =>
 oP E (lA 51 b9k) y7 fun c9J C4 =>
 oP E (xBuiltin .len #[51] 3 [false] [c9J]) C4 fun c9K H7 =>
 oP E (fA 184 q7 0) H7 fun c9L D6 =>
 oP E (fA 73 c9L 3) D6 fun b5J A6 =>
 oP E (lA 57 b5J) A6 fun b9l K5 =>
 oP E (xBuiltin .len #[57] 3 [false] [b9l]) K5 fun b9m K0 =>
 oP E (xV (Instr.build 240 #[(0, c9K), (1, b9m)])) K0 fun c9M H9 =>
 oP E (xV (Instr.alloc 240 true (.tuple #[]))) H9 fun c0K I0 =>
 oP E (sA 240 c0K c9M) I0 fun _z_43 K6 =>
 oP E (fA 184 q7 0) K6 fun f9S M9 =>
 oP E (fA 73 f9S 1) M9 fun f9T O1 =>
 oP E (lA 9 f9T) O1 fun f9U N8 =>
 oP E (xBin .eql 9 (.tmp 27) (.const (eS)) f9U (eS)) N8 fun b9j M2 =>
 oP E (gsem (asB b9j) true (xV (Op.unary .not (gval (asB b9j) true c9H)))) M2 fun f9V O0 =>
 oP E (xPick b9j f9V (vB false)) O0 fun f9W O8 =>
 oP E (fA 184 q7 0) O8 fun f9X O9 =>
 oP E (fA 73 f9X 0) O9 fun f9Y R8 =>
 oP E (lA 3 f9Y) R8 fun b2P Q1 =>
 oP E (xBin .eql 3 (.tmp 35) (.const (vI 1)) b2P (vI 1)) Q1 fun f9Z T3 =>
 xcond f9Z
 (oP E (xV (Op.unary .not c9H)) T3 fun c3Z U5 =>
 oP E (gsem (asB c3Z) true (lA 240 c0K)) U5 fun g0a W9 =>
 oP E (gsem (asB c3Z) true (xV (Instr.build 240 #[(0, (vI 1)), (1, (vI 0))]))) W9 fun g0b S3 =>
 oP E (gsem (asB c3Z) true (xBin .eql 240 (.tmp 41) (.tmp 42) g0a g0b)) S3 fun g0c Z1 =>
 oP E (xPick c3Z g0c (vB false)) Z1 fun g0d a0O =>
 R g0d a0O)
 (oP E (xBin .eql 3 (.tmp 35) (.const (vI 2)) b2P (vI 2)) T3 fun c9N Y4 =>
 xcond c9N
 (oP E (xV (Op.unary .not c9H)) Y4 fun b1d Z4 =>
 oP E (gsem (asB b1d) true (lA 240 c0K)) Z4 fun g0e a2e =>
 oP E (gsem (asB b1d) true (xV (Instr.build 240 #[(0, (vI 2)), (1, (vI 0))]))) a2e fun g0f Y5 =>
 oP E (gsem (asB b1d) true (xBin .eql 240 (.tmp 50) (.tmp 51) g0e g0f)) Y5 fun c9O X0 =>
 oP E (xPick b1d c9O (vB false)) X0 fun c9P a0x =>
 R c9P a0x)
 (oP E (xBin .eql 3 (.tmp 35) (.const (vI 3)) b2P (vI 3)) Y4 fun g0g V9 =>
 xcond g0g
 (oP E (fA 184 q7 0) V9 fun g0h a3y =>
 oP E (fA 73 g0h 1) a3y fun g0i a5o =>
 oP E (lA 9 g0i) a5o fun g0j a3M =>
 oP E (xBin .eql 9 (.tmp 58) (.const (eS)) g0j (eS)) a3M fun c4a a5R =>
 oP E (gsem (asB c4a) true (lA 240 c0K)) a5R fun g0k a6V =>
 oP E (gsem (asB c4a) true (xV (Instr.build 240 #[(0, (vI 0)), (1, (vI 1))]))) a6V fun g0l a0W =>
 oP E (gsem (asB c4a) true (xBin .eql 240 (.tmp 61) (.tmp 62) g0k g0l)) a0W fun f0P Z5 =>
 oP E (xPick c4a f0P (vB false)) Z5 fun f0Q a0H =>
 R f0Q a0H)
 (oP E (xBin .eql 3 (.tmp 35) (.const (vI 4)) b2P (vI 4)) V9 fun f0R a3D =>
 xcond f0R
 (oP E (fA 184 q7 0) a3D fun f0S a6n =>
 oP E (fA 73 f0S 1) a6n fun f0T a8B =>
 oP E (lA 9 f0T) a8B fun f0U a7e =>
 oP E (xBin .eql 9 (.tmp 69) (.const (eS)) f0U (eS)) a7e fun b2s a0X =>
 oP E (gsem (asB b2s) true (fA 184 q7 0)) a0X fun f0V a3d =>
 oP E (gsem (asB b2s) true (fA 73 f0V 5)) a3d fun f0W a7f =>
 oP E (gsem (asB b2s) true (lA 23 f0W)) a7f fun f0X a0I =>
 oP E (gsem (asB b2s) true (xBuiltin .len #[23] 3 [false] [f0X])) a0I fun f0Y a6o =>
 oP E (gsem (asB b2s) true (xBin .eql 3 (.tmp 75) (.const (vI 0)) f0Y (vI 0))) a6o fun f0Z a7V =>
 oP E (xPick b2s f0Z (vB false)) a7V fun c0L a8C =>
 oP E (gsem (asB c0L) true (lA 240 c0K)) a8C fun f1a a9y =>
 oP E (gsem (asB c0L) true (xV (Instr.build 240 #[(0, (vI 0)), (1, (vI 1))]))) a9y fun f1b a7h =>
 oP E (gsem (asB c0L) true (xBin .eql 240 (.tmp 79) (.tmp 80) f1a f1b)) a7h fun f1c a5a =>
 oP E (xPick c0L f1c (vB false)) a5a fun f1d a5b =>
 R f1d a5b)
 (xcut (fun h2J c4b => c5V c0K f9W b2P (nth h2J 0) c4b R E) fun j1 =>
 oP E (xBin .eql 3 (.tmp 35) (.const (vI 5)) b2P (vI 5)) a3D fun d4w c0M =>
 xcond d4w
 (j1 [d4w] c0M)
 (oP E (xBin .eql 3 (.tmp 35) (.const (vI 6)) b2P (vI 6)) c0M fun f1e b6R =>
 j1 [f1e] b6R)))))
noncomputable def g0m : Code := Tryz.f197.body.getD .skip
def g0n : Hint := (sQ (sQ (sQ (sQ (.seq (sQ (.block (sQ (.cond (sQ .none) (sQ (.cond (sQ .none) (sQ (.cond (sQ .none) (sQ (.cond (sQ .none) (.cut [83] (sQ (.cond .none .none)) (.cond (sQ .none) (sQ (.cond (sQ .none) .none)))))))))))))) (sQ .none))))))
theorem f1f (x0 : Value) (w : World) (R : RT) (E : Pan) : d6b x0 w R E = callX Tryz.prog [.tmp 2] g0m g0n [x0] w R E := by kernel_rfl
theorem f1g {x0 : Value} (h : d6b x0 w R E) : Cv Tryz.prog 197 #[x0] w R E := by
 refine i7 (args := [x0]) (c := g0m) (h := g0n) (rs := [.tmp 2]) Tryz.func197 (by kernel_rfl) (by kernel_rfl) (nB (by kernel_rfl)) (by kernel_rfl) (by kernel_rfl) (by kernel_rfl) ?_
 rw [← f1f]
 exact h
def d6c (x0 : Value) (w : World) (R : RT) (E : Pan) : Prop :=
 oP E (xV (Instr.box 184 x0)) w fun q7 w_2 =>
 dX w_2 fun w_3 =>
 qP Tryz.prog (fA 184 q7 0) fun c5x =>
 qP Tryz.prog (fA 73 c5x 3) fun a3L =>
 qP Tryz.prog (fA 184 q7 0) fun e3D =>
 qP Tryz.prog (fA 73 e3D 2) fun a6X =>
 qP Tryz.prog (fA 184 q7 0) fun h2K =>
 qP Tryz.prog (fA 73 h2K 4) fun b0R =>
 qP Tryz.prog (fA 184 q7 0) fun g0o =>
 qP Tryz.prog (fA 73 g0o 5) fun a7r =>
 qL Tryz.prog w_3 (blk a3L) (lA 57 a3L) fun h2L =>
 qL Tryz.prog w_3 (blk a6X) (lA 51 a6X) fun c3W =>
 qL Tryz.prog w_3 (blk b0R) (lA 23 b0R) fun g0p =>
 qL Tryz.prog w_3 (blk a7r) (lA 23 a7r) fun a5Q =>
 oP E (xCall (fC 193) [h2L, (fC 194)]) w_3 fun h2M a0q =>
 keepX [(blk a7r), (blk b0R), (blk a6X)] w_3 a0q (opK Tryz.prog E (xCall (fC 189) [c3W, (fC 190)]) a0q fun g0q T2 =>
 keepX [(blk a7r), (blk b0R)] a0q T2 (opK Tryz.prog E (xCall (fC 78) [g0p, (fC 79)]) T2 fun g0r Z3 =>
 keepX [(blk a7r)] T2 Z3 (opK Tryz.prog E (xCall (fC 78) [a5Q, (fC 79)]) Z3 fun c9Q a0y =>
 keepX [] Z3 a0y (opK Tryz.prog E (xV (Instr.buildSlice 179 4 #[(0, h2M), (1, g0q), (2, g0r), (3, c9Q)])) a0y fun g0s a6m =>
 keepX [] a0y a6m (opK Tryz.prog E (xCall (fC 75) [g0s]) a6m fun g0t a2d =>
 keepX [] a6m a2d (R g0t a2d))))))
noncomputable def g0u : Code := Tryz.f198.body.getD .skip
def g0v : Hint := (sQ (.seq (.reg [(0, 8, 2), (1, 16, 8), (2, 32, 16), (4, 64, 32), (0, 128, 2), (16, 256, 128), (32, 512, 256), (72, 1024, 512), (0, 2048, 2), (256, 4096, 2048), (512, 8192, 4096), (1152, 16384, 8192), (0, 32768, 2), (4096, 65536, 32768), (8192, 131072, 65536), (18432, 262144, 131072), (34952, 524288, 279616), (98304, 1048576, 524288), (262143, 4, 1048576)] [17476, 17476, 17472, 17472, 17476, 17476, 17412, 17408, 17476, 17476, 16452, 16384, 17476, 17476, 1092, 0, 0, 0, 17476] (.early 0 (.early 1 (.early 4 (.early 5 (.early 8 (.early 9 (.early 12 (.early 13 (.load 2 (.load 6 (.load 10 (.load 14 (.step 3 (.step 7 (.step 11 (.step 15 (.step 16 (.step 17 (.early 18 .done)))))))))))))))))))) .none))
theorem f1h (x0 : Value) (w : World) (R : RT) (E : Pan) : d6c x0 w R E = callX Tryz.prog [.tmp 2] g0u g0v [x0] w R E := by kernel_rfl
theorem f1i {x0 : Value} (h : d6c x0 w R E) : Cv Tryz.prog 198 #[x0] w R E := by
 refine i7 (args := [x0]) (c := g0u) (h := g0v) (rs := [.tmp 2]) Tryz.func198 (by kernel_rfl) (by kernel_rfl) (nB (by kernel_rfl)) (by kernel_rfl) (by kernel_rfl) (by kernel_rfl) ?_
 rw [← f1h]
 exact h
end Go.Proofs.YtnhkdkcgdcgmdaaGreatDoor
