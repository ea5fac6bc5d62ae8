/- The second reading of some of the program's functions, printed by gen2.py off the code; each is held against the code by the kernel. -/
import Derived.Test.YtnhkdkcgdcgmdaaGreatDoorProg
import Derived.Test.YtnhkdkcgdcgmdaaGreatDoorzFK0
import Derived.KernelRfl
import Derived.Test.YtnhkdkcgdcgmdaaGreatDoorzFGz
namespace Go.Proofs.YtnhkdkcgdcgmdaaGreatDoor
open Go.RowKit
set_option maxRecDepth 100000
variable {w : World} {R : RT} {E : Pan}
def F25 (x0 : Value) (w : World) (R : RT) (E : Pan) : Prop :=
 oP E (xV (Instr.box 25 x0)) w fun q7 w_2 =>
 oP E (xV (Instr.alloc 25 true (.tuple #[]))) w_2 fun K6 w_4 =>
 oP E (lA 25 q7) w_4 fun b6X w_6 =>
 oP E (xCall (fC 24) [b6X]) w_6 fun a7G w_8 =>
 oP E (xBin .neq 27 (.tmp 7) (.const (vI 0)) a7G (vI 0)) w_8 fun a6Z p5 =>
 xcond a6Z
 (oP E (xV (Instr.build 25 #[])) p5 fun a4S q8 =>
 oP E (sA 25 K6 a4S) q8 fun _z_13 p6 =>
 xcell Tryz.prog 25 K6 p6 fun b6R =>
 R (Value.tuple #[b6R, a7G]) p6)
 (dX p5 fun r8 =>
 qP Tryz.prog (fA 25 q7 0) fun a7e =>
 qP Tryz.prog (fA 25 q7 1) fun c1U =>
 qL Tryz.prog r8 (blk a7e) (lA 22 a7e) fun b3V =>
 qL Tryz.prog r8 (blk c1U) (lA 23 c1U) fun c1V =>
 oP E (xCall (fC 44) [b3V]) r8 fun c9D u7 =>
 keepX [(blk c1U)] r8 u7 (opK Tryz.prog E (xCall (fC 45) [c1V, (fC 46)]) u7 fun c0u u4 =>
 keepX [] u7 u4 (qP Tryz.prog (xV (Instr.build 25 #[(0, c9D), (1, c0u)])) fun a9x =>
 oP E (sA 25 K6 a9x) u4 fun _z_26 a3k =>
 keepX [] u4 a3k (xcell Tryz.prog 25 K6 a3k fun g2g =>
 R (Value.tuple #[g2g, (vI 0)]) a3k))))
noncomputable def c25 : Code := Tryz.f25.body.getD .skip
def h25 : Hint := (sQ (.seq (sQ (sQ (.cond (sQ .none) .none))) (.seq (.reg [(0, 2048, 2), (1, 4096, 2048), (2, 8192, 4096), (0, 16384, 2), (8, 32768, 16384), (20, 65536, 32768), (36, 131072, 73728), (127, 0, 131076), (255, 8, 0)] [18, 16, 16, 18, 2, 0, 18, 0, 18] (.early 0 (.early 3 (.load 1 (.load 4 (.step 2 (.step 5 (.early 6 (.step 7 (.early 8 .done)))))))))) .none)))
theorem j3x (x0 : Value) (w : World) (R : RT) (E : Pan) : F25 x0 w R E = callX Tryz.prog [.cell 2 25, .tmp 3] c25 h25 [x0] w R E := by kernel_rfl
theorem j3y {x0 : Value} (h : F25 x0 w R E) : Cv Tryz.prog 25 #[x0] w R E := by
 refine k3 (args := [x0]) (c := c25) (h := h25) (rs := [.cell 2 25, .tmp 3]) Tryz.func25 (by kernel_rfl) (by kernel_rfl) (nB (by kernel_rfl)) (by kernel_rfl) (by kernel_rfl) (by kernel_rfl) ?_
 rw [← j3x]
 exact h
def F44 (x0 : Value) (w : World) (R : RT) (E : Pan) : Prop :=
 oP E (xBin .eql 22 (.tmp 3) (.const (nS)) x0 (nS)) w fun b4l w_2 =>
 xcond b4l
 (R (nS) w_2)
 (oP E (xV (Instr.buildSlice 22 0 #[])) w_2 fun b6W w_4 =>
 oP E (xBuiltin .append #[22, 22] 22 [false, false] [b6W, x0]) w_4 fun b2y w_6 =>
 R b2y w_6)
noncomputable def c44 : Code := Tryz.f44.body.getD .skip
def h44 : Hint := (sQ (.seq (sQ (.cond (sQ .none) .none)) (sQ .none)))
theorem j3z (x0 : Value) (w : World) (R : RT) (E : Pan) : F44 x0 w R E = callX Tryz.prog [.tmp 2] c44 h44 [x0] w R E := by kernel_rfl
theorem j3A {x0 : Value} (h : F44 x0 w R E) : Cv Tryz.prog 44 #[x0] w R E := by
 refine k3 (args := [x0]) (c := c44) (h := h44) (rs := [.tmp 2]) Tryz.func44 (by kernel_rfl) (by kernel_rfl) (nB (by kernel_rfl)) (by kernel_rfl) (by kernel_rfl) (by kernel_rfl) ?_
 rw [← j3z]
 exact h
def e5N (x5 : Value) (w : World) (R : RT) (_E : Pan) : Prop :=
 ∀ _τ : Fr, (R x5 w)
def f8l (x1 x5 x8 x9 x10 : Value) (w : World) (next2 : NT) (j1 : NT) (_R : RT) (E : Pan) : Prop :=
 oP E (xBin .lss 3 (.tmp 10) (.tmp 9) x10 x9) w fun a4T w_6 =>
 xcond a4T
 (oP E (iA 23 x8 x10) w_6 fun a1J w_8 =>
 oP E (lA 73 a1J) w_8 fun a6K p5 =>
 oP E (xV (Instr.alloc 73 true (.tuple #[]))) p5 fun X5 q8 =>
 oP E (sA 73 X5 a6K) q8 fun _z_13 p6 =>
 oP E (lA 73 X5) p6 fun a7a r8 =>
 oP E (xCall x1 [a7a]) r8 fun a7b s8 =>
 oP E (xV (Instr.buildSlice 23 1 #[(0, a7b)])) s8 fun a4U r9 =>
 oP E (xBuiltin .append #[23, 23] 23 [false, false] [x5, a4U]) r9 fun a7c u7 =>
 oP E (xBin .add 3 (.tmp 10) (.const (vI 1)) x10 (vI 1)) u7 fun a4V u4 =>
 next2 [a7c, a4V] u4)
 (j1 [x5] w_6)
def F45 (x0 x1 : Value) (w : World) (R : RT) (E : Pan) : Prop :=
 xcut (fun l_1 w_2 => e5N (nth l_1 0) w_2 R E) fun j1 =>
 oP E (xBuiltin .len #[23] 3 [false] [x0]) w fun a6n w_4 =>
 xloop [5, 10] [(nS), (vI 0)] w_4 fun τ_25 z2 next2 =>
 f8l x1 (τ_25 5) x0 a6n (τ_25 10) z2 next2 j1 R E
noncomputable def c45 : Code := Tryz.f45.body.getD .skip
def h45 : Hint := (sQ (sQ (.cut [5] (sQ (.block (.loop [5, 10] (sQ (.seq (.cond .none .none) (.seq (.block (sQ .none)) .none)))))) (sQ .none))))
theorem j3B (x0 x1 : Value) (w : World) (R : RT) (E : Pan) : F45 x0 x1 w R E = callX Tryz.prog [.tmp 4] c45 h45 [x0, x1] w R E := by kernel_rfl
theorem j3C {x0 x1 : Value} (h : F45 x0 x1 w R E) : Cv Tryz.prog 45 #[x0, x1] w R E := by
 refine k3 (args := [x0, x1]) (c := c45) (h := h45) (rs := [.tmp 4]) Tryz.func45 (by kernel_rfl) (by kernel_rfl) (nB (by kernel_rfl)) (by kernel_rfl) (by kernel_rfl) (by kernel_rfl) ?_
 rw [← j3B]
 exact h
def F46 (x0 : Value) (w : World) (R : RT) (E : Pan) : Prop :=
 oP E (xV (Instr.box 73 x0)) w fun q7 w_2 =>
 oP E (xV (Instr.alloc 73 true (.tuple #[]))) w_2 fun K6 w_4 =>
 dX w_4 fun w_5 =>
 qP Tryz.prog (fA 73 q7 2) fun e5O =>
 qP Tryz.prog (fA 73 q7 3) fun a7G =>
 qL Tryz.prog w_5 (blk e5O) (lA 51 e5O) fun g4v =>
 qL Tryz.prog w_5 (blk a7G) (lA 57 a7G) fun d1Z =>
 oP E (xCall (fC 80) [g4v, (fC 81)]) w_5 fun f5c P0 =>
 keepX [(blk a7G)] w_5 P0 (qP Tryz.prog (fA 73 q7 2) fun c5x =>
 oP E (xCall (fC 82) [d1Z, (fC 83)]) P0 fun b9p p6 =>
 keepX [] P0 p6 (opK Tryz.prog E (sA 51 c5x f5c) p6 fun _z_15 r8 =>
 keepX [] p6 r8 (qP Tryz.prog (fA 73 q7 3) fun c0r =>
 oP E (sA 57 c0r b9p) r8 fun _z_18 a1R =>
 keepX [] r8 a1R (dX a1R fun r9 =>
 qP Tryz.prog (fA 73 q7 4) fun d3L =>
 qP Tryz.prog (fA 73 q7 5) fun e5P =>
 qL Tryz.prog r9 (blk d3L) (lA 23 d3L) fun e0V =>
 qL Tryz.prog r9 (blk e5P) (lA 23 e5P) fun e4A =>
 oP E (xCall (fC 45) [e0V, (fC 46)]) r9 fun e1w z2 =>
 keepX [(blk e5P)] r9 z2 (qP Tryz.prog (fA 73 q7 4) fun c8s =>
 oP E (xCall (fC 45) [e4A, (fC 46)]) z2 fun j3D a4y =>
 keepX [] z2 a4y (opK Tryz.prog E (sA 23 c8s e1w) a4y fun _z_30 b2w =>
 keepX [] a4y b2w (qP Tryz.prog (fA 73 q7 5) fun j3E =>
 oP E (sA 23 j3E j3D) b2w fun _z_33 A6 =>
 keepX [] b2w A6 (opK Tryz.prog E (lA 73 q7) A6 fun j3F I7 =>
 oP E (sA 73 K6 j3F) I7 fun _z_37 C7 =>
 xcell Tryz.prog 73 K6 C7 fun k4J =>
 R k4J C7))))))))
noncomputable def c46 : Code := Tryz.f46.body.getD .skip
def h46 : Hint := (sQ (.seq (.reg [(0, 8, 2), (1, 16, 8), (2, 32, 16), (0, 64, 2), (8, 128, 64), (20, 256, 128), (31, 512, 2), (127, 0, 544), (255, 1024, 2), (511, 0, 1280)] [18, 16, 16, 18, 2, 0, 18, 0, 18, 0] (.early 0 (.early 3 (.load 1 (.load 4 (.step 2 (.early 6 (.step 5 (.step 7 (.early 8 (.step 9 .done))))))))))) (.seq (.reg [(0, 2048, 2), (1, 4096, 2048), (2, 8192, 4096), (0, 16384, 2), (8, 32768, 16384), (20, 65536, 32768), (31, 131072, 2), (127, 0, 139264), (255, 262144, 2), (511, 0, 327680)] [18, 16, 16, 18, 2, 0, 18, 0, 18, 0] (.early 0 (.early 3 (.load 1 (.load 4 (.step 2 (.early 6 (.step 5 (.step 7 (.early 8 (.step 9 .done))))))))))) (sQ .none))))
theorem j3G (x0 : Value) (w : World) (R : RT) (E : Pan) : F46 x0 w R E = callX Tryz.prog [.cell 2 73] c46 h46 [x0] w R E := by kernel_rfl
theorem j3H {x0 : Value} (h : F46 x0 w R E) : Cv Tryz.prog 46 #[x0] w R E := by
 refine k3 (args := [x0]) (c := c46) (h := h46) (rs := [.cell 2 73]) Tryz.func46 (by kernel_rfl) (by kernel_rfl) (nB (by kernel_rfl)) (by kernel_rfl) (by kernel_rfl) (by kernel_rfl) ?_
 rw [← j3G]
 exact h
def e5Q (x5 : Value) (w : World) (R : RT) (_E : Pan) : Prop :=
 ∀ _τ : Fr, (R x5 w)
def f8m (x1 x5 x8 x9 x10 : Value) (w : World) (next2 : NT) (j1 : NT) (_R : RT) (E : Pan) : Prop :=
 oP E (xBin .lss 3 (.tmp 10) (.tmp 9) x10 x9) w fun a4T w_6 =>
 xcond a4T
 (oP E (iA 51 x8 x10) w_6 fun a1J w_8 =>
 oP E (lA 53 a1J) w_8 fun a6K p5 =>
 oP E (xV (Instr.alloc 53 true (.tuple #[]))) p5 fun X5 q8 =>
 oP E (sA 53 X5 a6K) q8 fun _z_13 p6 =>
 oP E (lA 53 X5) p6 fun a7a r8 =>
 oP E (xCall x1 [a7a]) r8 fun a7b s8 =>
 oP E (xV (Instr.buildSlice 51 1 #[(0, a7b)])) s8 fun a4U r9 =>
 oP E (xBuiltin .append #[51, 51] 51 [false, false] [x5, a4U]) r9 fun a7c u7 =>
 oP E (xBin .add 3 (.tmp 10) (.const (vI 1)) x10 (vI 1)) u7 fun a4V u4 =>
 next2 [a7c, a4V] u4)
 (j1 [x5] w_6)
def F80 (x0 x1 : Value) (w : World) (R : RT) (E : Pan) : Prop :=
 xcut (fun l_1 w_2 => e5Q (nth l_1 0) w_2 R E) fun j1 =>
 oP E (xBuiltin .len #[51] 3 [false] [x0]) w fun a6n w_4 =>
 xloop [5, 10] [(nS), (vI 0)] w_4 fun τ_25 z2 next2 =>
 f8m x1 (τ_25 5) x0 a6n (τ_25 10) z2 next2 j1 R E
noncomputable def c80 : Code := Tryz.f80.body.getD .skip
def h80 : Hint := (sQ (sQ (.cut [5] (sQ (.block (.loop [5, 10] (sQ (.seq (.cond .none .none) (.seq (.block (sQ .none)) .none)))))) (sQ .none))))
theorem j3I (x0 x1 : Value) (w : World) (R : RT) (E : Pan) : F80 x0 x1 w R E = callX Tryz.prog [.tmp 4] c80 h80 [x0, x1] w R E := by kernel_rfl
theorem j3J {x0 x1 : Value} (h : F80 x0 x1 w R E) : Cv Tryz.prog 80 #[x0, x1] w R E := by
 refine k3 (args := [x0, x1]) (c := c80) (h := h80) (rs := [.tmp 4]) Tryz.func80 (by kernel_rfl) (by kernel_rfl) (nB (by kernel_rfl)) (by kernel_rfl) (by kernel_rfl) (by kernel_rfl) ?_
 rw [← j3I]
 exact h
def F81 (x0 : Value) (w : World) (R : RT) (E : Pan) : Prop :=
 oP E (xV (Instr.box 53 x0)) w fun q7 w_2 =>
 oP E (xV (Instr.alloc 53 true (.tuple #[]))) w_2 fun K6 w_4 =>
 oP E (fA 53 q7 3) w_4 fun c5z w_6 =>
 oP E (lA 51 c5z) w_6 fun e8m w_8 =>
 oP E (xCall (fC 80) [e8m, (fC 81)]) w_8 fun k4K p5 =>
 oP E (fA 53 q7 3) p5 fun k0D q8 =>
 oP E (sA 51 k0D k4K) q8 fun _z_13 p6 =>
 oP E (lA 53 q7) p6 fun k0E r8 =>
 oP E (sA 53 K6 k0E) r8 fun _z_17 s8 =>
 xcell Tryz.prog 53 K6 s8 fun k4L =>
 R k4L s8
noncomputable def c81 : Code := Tryz.f81.body.getD .skip
def h81 : Hint := (sQ (sQ (sQ .none)))
theorem j3K (x0 : Value) (w : World) (R : RT) (E : Pan) : F81 x0 w R E = callX Tryz.prog [.cell 2 53] c81 h81 [x0] w R E := by kernel_rfl
theorem j3L {x0 : Value} (h : F81 x0 w R E) : Cv Tryz.prog 81 #[x0] w R E := by
 refine k3 (args := [x0]) (c := c81) (h := h81) (rs := [.cell 2 53]) Tryz.func81 (by kernel_rfl) (by kernel_rfl) (nB (by kernel_rfl)) (by kernel_rfl) (by kernel_rfl) (by kernel_rfl) ?_
 rw [← j3K]
 exact h
def e5R (x5 : Value) (w : World) (R : RT) (_E : Pan) : Prop :=
 ∀ _τ : Fr, (R x5 w)
def f8n (x1 x5 x8 x9 x10 : Value) (w : World) (next2 : NT) (j1 : NT) (_R : RT) (E : Pan) : Prop :=
 oP E (xBin .lss 3 (.tmp 10) (.tmp 9) x10 x9) w fun a4T w_6 =>
 xcond a4T
 (oP E (iA 57 x8 x10) w_6 fun a1J w_8 =>
 oP E (lA 59 a1J) w_8 fun a6K p5 =>
 oP E (xV (Instr.alloc 59 true (.tuple #[]))) p5 fun X5 q8 =>
 oP E (sA 59 X5 a6K) q8 fun _z_13 p6 =>
 oP E (lA 59 X5) p6 fun a7a r8 =>
 oP E (xCall x1 [a7a]) r8 fun a7b s8 =>
 oP E (xV (Instr.buildSlice 57 1 #[(0, a7b)])) s8 fun a4U r9 =>
 oP E (xBuiltin .append #[57, 57] 57 [false, false] [x5, a4U]) r9 fun a7c u7 =>
 oP E (xBin .add 3 (.tmp 10) (.const (vI 1)) x10 (vI 1)) u7 fun a4V u4 =>
 next2 [a7c, a4V] u4)
 (j1 [x5] w_6)
def F82 (x0 x1 : Value) (w : World) (R : RT) (E : Pan) : Prop :=
 xcut (fun l_1 w_2 => e5R (nth l_1 0) w_2 R E) fun j1 =>
 oP E (xBuiltin .len #[57] 3 [false] [x0]) w fun a6n w_4 =>
 xloop [5, 10] [(nS), (vI 0)] w_4 fun τ_25 z2 next2 =>
 f8n x1 (τ_25 5) x0 a6n (τ_25 10) z2 next2 j1 R E
noncomputable def c82 : Code := Tryz.f82.body.getD .skip
def h82 : Hint := (sQ (sQ (.cut [5] (sQ (.block (.loop [5, 10] (sQ (.seq (.cond .none .none) (.seq (.block (sQ .none)) .none)))))) (sQ .none))))
theorem j3M (x0 x1 : Value) (w : World) (R : RT) (E : Pan) : F82 x0 x1 w R E = callX Tryz.prog [.tmp 4] c82 h82 [x0, x1] w R E := by kernel_rfl
theorem j3N {x0 x1 : Value} (h : F82 x0 x1 w R E) : Cv Tryz.prog 82 #[x0, x1] w R E := by
 refine k3 (args := [x0, x1]) (c := c82) (h := h82) (rs := [.tmp 4]) Tryz.func82 (by kernel_rfl) (by kernel_rfl) (nB (by kernel_rfl)) (by kernel_rfl) (by kernel_rfl) (by kernel_rfl) ?_
 rw [← j3M]
 exact h
def F83 (x0 : Value) (w : World) (R : RT) (E : Pan) : Prop :=
 oP E (xV (Instr.box 59 x0)) w fun q7 w_2 =>
 oP E (xV (Instr.alloc 59 true (.tuple #[]))) w_2 fun K6 w_4 =>
 dX w_4 fun w_5 =>
 qP Tryz.prog (fA 59 q7 2) fun e5O =>
 qP Tryz.prog (fA 59 q7 3) fun a7G =>
 qL Tryz.prog w_5 (blk e5O) (lA 51 e5O) fun g4v =>
 qL Tryz.prog w_5 (blk a7G) (lA 57 a7G) fun d1Z =>
 oP E (xCall (fC 80) [g4v, (fC 81)]) w_5 fun f5c P0 =>
 keepX [(blk a7G)] w_5 P0 (qP Tryz.prog (fA 59 q7 2) fun c5x =>
 oP E (xCall (fC 82) [d1Z, (fC 83)]) P0 fun b9p p6 =>
 keepX [] P0 p6 (opK Tryz.prog E (sA 51 c5x f5c) p6 fun _z_15 r8 =>
 keepX [] p6 r8 (qP Tryz.prog (fA 59 q7 3) fun c0r =>
 oP E (sA 57 c0r b9p) r8 fun _z_18 a1R =>
 keepX [] r8 a1R (opK Tryz.prog E (lA 59 q7) a1R fun j3O a5B =>
 oP E (sA 59 K6 j3O) a5B fun _z_22 b0C =>
 xcell Tryz.prog 59 K6 b0C fun g2j =>
 R g2j b0C))))
noncomputable def c83 : Code := Tryz.f83.body.getD .skip
def h83 : Hint := (sQ (.seq (.reg [(0, 8, 2), (1, 16, 8), (2, 32, 16), (0, 64, 2), (8, 128, 64), (20, 256, 128), (31, 512, 2), (127, 0, 544), (255, 1024, 2), (511, 0, 1280)] [18, 16, 16, 18, 2, 0, 18, 0, 18, 0] (.early 0 (.early 3 (.load 1 (.load 4 (.step 2 (.early 6 (.step 5 (.step 7 (.early 8 (.step 9 .done))))))))))) (sQ .none)))
theorem j3P (x0 : Value) (w : World) (R : RT) (E : Pan) : F83 x0 w R E = callX Tryz.prog [.cell 2 59] c83 h83 [x0] w R E := by kernel_rfl
theorem j3Q {x0 : Value} (h : F83 x0 w R E) : Cv Tryz.prog 83 #[x0] w R E := by
 refine k3 (args := [x0]) (c := c83) (h := h83) (rs := [.cell 2 59]) Tryz.func83 (by kernel_rfl) (by kernel_rfl) (nB (by kernel_rfl)) (by kernel_rfl) (by kernel_rfl) (by kernel_rfl) ?_
 rw [← j3P]
 exact h
end Go.Proofs.YtnhkdkcgdcgmdaaGreatDoor
