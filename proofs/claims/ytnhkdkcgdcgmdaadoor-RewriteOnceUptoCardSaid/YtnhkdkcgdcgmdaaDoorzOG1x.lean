/- The second reading of some of the program's functions, printed by gen2.py off the code; each is held against the code by the kernel. -/
import Derived.Test.YtnhkdkcgdcgmdaaDoorProg
import Derived.Test.YtnhkdkcgdcgmdaaDoorzOK0
import Derived.KernelRfl
import Derived.Test.YtnhkdkcgdcgmdaaDoorzOGz
namespace Go.Proofs.YtnhkdkcgdcgmdaaDoor
open Go.RowKit
set_option maxRecDepth 100000
variable {w : World} {R : RT} {E : Pan}
def F50 (x0 : Value) (w : World) (R : RT) (E : Pan) : Prop :=
 oP E (xV (Instr.box 44 x0)) w fun o5 w_2 =>
 oP E (xV (Instr.alloc 44 true (.tuple #[]))) w_2 fun N9 w_4 =>
 oP E (lA 44 o5) w_4 fun a5J w_6 =>
 oP E (xCall (fC 53) [a5J]) w_6 fun a0C w_8 =>
 oP E (xBin .neq 29 (.tmp 7) (.const (vI 0)) a0C (vI 0)) w_8 fun a8e o7 =>
 xcond a8e
 (oP E (xV (Instr.build 44 #[])) o7 fun a5p o4 =>
 oP E (sA 44 N9 a5p) o4 fun _z_13 o8 =>
 xcell Tryd.prog 44 N9 o8 fun b7d =>
 R (Value.tuple #[b7d, a0C]) o8)
 (dX o7 fun s6 =>
 qP Tryd.prog (fA 44 o5 0) fun b5p =>
 qP Tryd.prog (fA 44 o5 1) fun d0w =>
 qL Tryd.prog s6 (blk b5p) (lA 41 b5p) fun b0F =>
 qL Tryd.prog s6 (blk d0w) (lA 42 d0w) fun b9e =>
 oP E (xCall (fC 83) [b0F]) s6 fun d0b v8 =>
 keepX [(blk d0w)] s6 v8 (opK Tryd.prog E (xCall (fC 84) [b9e, (fC 85)]) v8 fun b8g y6 =>
 keepX [] v8 y6 (qP Tryd.prog (xV (Instr.build 44 #[(0, d0b), (1, b8g)])) fun a6N =>
 oP E (sA 44 N9 a6N) y6 fun _z_26 a3z =>
 keepX [] y6 a3z (xcell Tryd.prog 44 N9 a3z fun g7K =>
 R (Value.tuple #[g7K, (vI 0)]) a3z))))
noncomputable def c50 : Code := Tryd.f50.body.getD .skip
def h50 : Hint := (sQ (.seq (sQ (sQ (.cond (sQ .none) .none))) (.seq (.reg [(0, 2048, 2), (1, 4096, 2048), (2, 8192, 4096), (0, 16384, 2), (8, 32768, 16384), (20, 65536, 32768), (36, 131072, 73728), (127, 0, 131076), (255, 8, 0)] [18, 16, 16, 18, 2, 0, 18, 0, 18] (.early 0 (.early 3 (.load 1 (.load 4 (.step 2 (.step 5 (.early 6 (.step 7 (.early 8 .done)))))))))) .none)))
theorem f9q (x0 : Value) (w : World) (R : RT) (E : Pan) : F50 x0 w R E = callX Tryd.prog [.cell 2 44, .tmp 3] c50 h50 [x0] w R E := by kernel_rfl
theorem f9r {x0 : Value} (h : F50 x0 w R E) : Cv Tryd.prog 50 #[x0] w R E := by
 refine f8 (args := [x0]) (c := c50) (h := h50) (rs := [.cell 2 44, .tmp 3]) Tryd.func50 (by kernel_rfl) (by kernel_rfl) (nB (by kernel_rfl)) (by kernel_rfl) (by kernel_rfl) (by kernel_rfl) ?_
 rw [← f9q]
 exact h
def F83 (x0 : Value) (w : World) (R : RT) (E : Pan) : Prop :=
 oP E (xBin .eql 41 (.tmp 3) (.const (nS)) x0 (nS)) w fun c0Y w_2 =>
 xcond c0Y
 (R (nS) w_2)
 (oP E (xV (Instr.buildSlice 41 0 #[])) w_2 fun a9d w_4 =>
 oP E (xBuiltin .append #[41, 41] 41 [false, false] [a9d, x0]) w_4 fun a8D w_6 =>
 R a8D w_6)
noncomputable def c83 : Code := Tryd.f83.body.getD .skip
def h83 : Hint := (sQ (.seq (sQ (.cond (sQ .none) .none)) (sQ .none)))
theorem f9s (x0 : Value) (w : World) (R : RT) (E : Pan) : F83 x0 w R E = callX Tryd.prog [.tmp 2] c83 h83 [x0] w R E := by kernel_rfl
theorem f9t {x0 : Value} (h : F83 x0 w R E) : Cv Tryd.prog 83 #[x0] w R E := by
 refine f8 (args := [x0]) (c := c83) (h := h83) (rs := [.tmp 2]) Tryd.func83 (by kernel_rfl) (by kernel_rfl) (nB (by kernel_rfl)) (by kernel_rfl) (by kernel_rfl) (by kernel_rfl) ?_
 rw [← f9s]
 exact h
def d0x (x5 : Value) (w : World) (R : RT) (_E : Pan) : Prop :=
 ∀ _τ : Fr, (R x5 w)
def d8t (x1 x5 x8 x9 x10 : Value) (w : World) (next2 : NT) (j1 : NT) (_R : RT) (E : Pan) : Prop :=
 oP E (xBin .lss 3 (.tmp 10) (.tmp 9) x10 x9) w fun a4O w_6 =>
 xcond a4O
 (oP E (iA 42 x8 x10) w_6 fun a3x w_8 =>
 oP E (lA 63 a3x) w_8 fun a3y o7 =>
 oP E (xV (Instr.alloc 63 true (.tuple #[]))) o7 fun S5 o4 =>
 oP E (sA 63 S5 a3y) o4 fun _z_13 o8 =>
 oP E (lA 63 S5) o8 fun a2K s6 =>
 oP E (xCall x1 [a2K]) s6 fun a2L v7 =>
 oP E (xV (Instr.buildSlice 42 1 #[(0, a2L)])) v7 fun a2M u1 =>
 oP E (xBuiltin .append #[42, 42] 42 [false, false] [x5, a2M]) u1 fun a2N v8 =>
 oP E (xBin .add 3 (.tmp 10) (.const (vI 1)) x10 (vI 1)) v8 fun a0U y6 =>
 next2 [a2N, a0U] y6)
 (j1 [x5] w_6)
def F84 (x0 x1 : Value) (w : World) (R : RT) (E : Pan) : Prop :=
 xcut (fun l_1 w_2 => d0x (nth l_1 0) w_2 R E) fun j1 =>
 oP E (xBuiltin .len #[42] 3 [false] [x0]) w fun a3Y w_4 =>
 xloop [5, 10] [(nS), (vI 0)] w_4 fun τ_25 z6 next2 =>
 d8t x1 (τ_25 5) x0 a3Y (τ_25 10) z6 next2 j1 R E
noncomputable def c84 : Code := Tryd.f84.body.getD .skip
def h84 : Hint := (sQ (sQ (.cut [5] (sQ (.block (.loop [5, 10] (sQ (.seq (.cond .none .none) (.seq (.block (sQ .none)) .none)))))) (sQ .none))))
theorem f9u (x0 x1 : Value) (w : World) (R : RT) (E : Pan) : F84 x0 x1 w R E = callX Tryd.prog [.tmp 4] c84 h84 [x0, x1] w R E := by kernel_rfl
theorem f9v {x0 x1 : Value} (h : F84 x0 x1 w R E) : Cv Tryd.prog 84 #[x0, x1] w R E := by
 refine f8 (args := [x0, x1]) (c := c84) (h := h84) (rs := [.tmp 4]) Tryd.func84 (by kernel_rfl) (by kernel_rfl) (nB (by kernel_rfl)) (by kernel_rfl) (by kernel_rfl) (by kernel_rfl) ?_
 rw [← f9u]
 exact h
def F85 (x0 : Value) (w : World) (R : RT) (E : Pan) : Prop :=
 oP E (xV (Instr.box 63 x0)) w fun o5 w_2 =>
 oP E (xV (Instr.alloc 63 true (.tuple #[]))) w_2 fun N9 w_4 =>
 dX w_4 fun w_5 =>
 qP Tryd.prog (fA 63 o5 2) fun d0y =>
 qP Tryd.prog (fA 63 o5 3) fun a0C =>
 qL Tryd.prog w_5 (blk d0y) (lA 22 d0y) fun e2c =>
 qL Tryd.prog w_5 (blk a0C) (lA 25 a0C) fun b2c =>
 oP E (xCall (fC 112) [e2c, (fC 113)]) w_5 fun d5u P9 =>
 keepX [(blk a0C)] w_5 P9 (qP Tryd.prog (fA 63 o5 2) fun c2J =>
 oP E (xCall (fC 114) [b2c, (fC 115)]) P9 fun b6d o8 =>
 keepX [] P9 o8 (opK Tryd.prog E (sA 22 c2J d5u) o8 fun _z_15 s6 =>
 keepX [] o8 s6 (qP Tryd.prog (fA 63 o5 3) fun b1X =>
 oP E (sA 25 b1X b6d) s6 fun _z_18 a0D =>
 keepX [] s6 a0D (dX a0D fun u1 =>
 qP Tryd.prog (fA 63 o5 4) fun c2L =>
 qP Tryd.prog (fA 63 o5 5) fun d0z =>
 qL Tryd.prog u1 (blk c2L) (lA 42 c2L) fun c7H =>
 qL Tryd.prog u1 (blk d0z) (lA 42 d0z) fun c9I =>
 oP E (xCall (fC 84) [c7H, (fC 85)]) u1 fun c8f z6 =>
 keepX [(blk d0z)] u1 z6 (qP Tryd.prog (fA 63 o5 4) fun c7C =>
 oP E (xCall (fC 84) [c9I, (fC 85)]) z6 fun f9w a7b =>
 keepX [] z6 a7b (opK Tryd.prog E (sA 42 c7C c8f) a7b fun _z_30 b0l =>
 keepX [] a7b b0l (qP Tryd.prog (fA 63 o5 5) fun f9x =>
 oP E (sA 42 f9x f9w) b0l fun _z_33 E3 =>
 keepX [] b0l E3 (opK Tryd.prog E (lA 63 o5) E3 fun f9y L2 =>
 oP E (sA 63 N9 f9y) L2 fun _z_37 L4 =>
 xcell Tryd.prog 63 N9 L4 fun g7L =>
 R g7L L4))))))))
noncomputable def c85 : Code := Tryd.f85.body.getD .skip
def h85 : Hint := (sQ (.seq (.reg [(0, 8, 2), (1, 16, 8), (2, 32, 16), (0, 64, 2), (8, 128, 64), (20, 256, 128), (31, 512, 2), (127, 0, 544), (255, 1024, 2), (511, 0, 1280)] [18, 16, 16, 18, 2, 0, 18, 0, 18, 0] (.early 0 (.early 3 (.load 1 (.load 4 (.step 2 (.early 6 (.step 5 (.step 7 (.early 8 (.step 9 .done))))))))))) (.seq (.reg [(0, 2048, 2), (1, 4096, 2048), (2, 8192, 4096), (0, 16384, 2), (8, 32768, 16384), (20, 65536, 32768), (31, 131072, 2), (127, 0, 139264), (255, 262144, 2), (511, 0, 327680)] [18, 16, 16, 18, 2, 0, 18, 0, 18, 0] (.early 0 (.early 3 (.load 1 (.load 4 (.step 2 (.early 6 (.step 5 (.step 7 (.early 8 (.step 9 .done))))))))))) (sQ .none))))
theorem f9z (x0 : Value) (w : World) (R : RT) (E : Pan) : F85 x0 w R E = callX Tryd.prog [.cell 2 63] c85 h85 [x0] w R E := by kernel_rfl
theorem f9A {x0 : Value} (h : F85 x0 w R E) : Cv Tryd.prog 85 #[x0] w R E := by
 refine f8 (args := [x0]) (c := c85) (h := h85) (rs := [.cell 2 63]) Tryd.func85 (by kernel_rfl) (by kernel_rfl) (nB (by kernel_rfl)) (by kernel_rfl) (by kernel_rfl) (by kernel_rfl) ?_
 rw [← f9z]
 exact h
def c5y (x5 : Value) (w : World) (R : RT) (_E : Pan) : Prop :=
 ∀ _τ : Fr, (R x5 w)
def d1U (x1 x5 x8 x9 x10 : Value) (w : World) (next2 : NT) (j1 : NT) (_R : RT) (E : Pan) : Prop :=
 oP E (xBin .lss 3 (.tmp 10) (.tmp 9) x10 x9) w fun a4O w_6 =>
 xcond a4O
 (oP E (iA 22 x8 x10) w_6 fun a3x w_8 =>
 oP E (lA 24 a3x) w_8 fun a3y o7 =>
 oP E (xV (Instr.alloc 24 true (.tuple #[]))) o7 fun S5 o4 =>
 oP E (sA 24 S5 a3y) o4 fun _z_13 o8 =>
 oP E (lA 24 S5) o8 fun a2K s6 =>
 oP E (xCall x1 [a2K]) s6 fun a2L v7 =>
 oP E (xV (Instr.buildSlice 22 1 #[(0, a2L)])) v7 fun a2M u1 =>
 oP E (xBuiltin .append #[22, 22] 22 [false, false] [x5, a2M]) u1 fun a2N v8 =>
 oP E (xBin .add 3 (.tmp 10) (.const (vI 1)) x10 (vI 1)) v8 fun a0U y6 =>
 next2 [a2N, a0U] y6)
 (j1 [x5] w_6)
def d5v (x0 x1 : Value) (w : World) (R : RT) (E : Pan) : Prop :=
 xcut (fun l_1 w_2 => c5y (nth l_1 0) w_2 R E) fun j1 =>
 oP E (xBuiltin .len #[22] 3 [false] [x0]) w fun a3Y w_4 =>
 xloop [5, 10] [(nS), (vI 0)] w_4 fun τ_25 z6 next2 =>
 d1U x1 (τ_25 5) x0 a3Y (τ_25 10) z6 next2 j1 R E
noncomputable def f9B : Code := Tryd.f112.body.getD .skip
def f9C : Hint := (sQ (sQ (.cut [5] (sQ (.block (.loop [5, 10] (sQ (.seq (.cond .none .none) (.seq (.block (sQ .none)) .none)))))) (sQ .none))))
theorem e7P (x0 x1 : Value) (w : World) (R : RT) (E : Pan) : d5v x0 x1 w R E = callX Tryd.prog [.tmp 4] f9B f9C [x0, x1] w R E := by kernel_rfl
theorem e7Q {x0 x1 : Value} (h : d5v x0 x1 w R E) : Cv Tryd.prog 112 #[x0, x1] w R E := by
 refine f8 (args := [x0, x1]) (c := f9B) (h := f9C) (rs := [.tmp 4]) Tryd.func112 (by kernel_rfl) (by kernel_rfl) (nB (by kernel_rfl)) (by kernel_rfl) (by kernel_rfl) (by kernel_rfl) ?_
 rw [← e7P]
 exact h
def d5w (x0 : Value) (w : World) (R : RT) (E : Pan) : Prop :=
 oP E (xV (Instr.box 24 x0)) w fun o5 w_2 =>
 oP E (xV (Instr.alloc 24 true (.tuple #[]))) w_2 fun N9 w_4 =>
 oP E (fA 24 o5 3) w_4 fun b6f w_6 =>
 oP E (lA 22 b6f) w_6 fun d2w w_8 =>
 oP E (xCall (fC 112) [d2w, (fC 113)]) w_8 fun g7M o7 =>
 oP E (fA 24 o5 3) o7 fun g3r o4 =>
 oP E (sA 22 g3r g7M) o4 fun _z_13 o8 =>
 oP E (lA 24 o5) o8 fun c6N s6 =>
 oP E (sA 24 N9 c6N) s6 fun _z_17 v7 =>
 xcell Tryd.prog 24 N9 v7 fun g7N =>
 R g7N v7
noncomputable def f9D : Code := Tryd.f113.body.getD .skip
def f9E : Hint := (sQ (sQ (sQ .none)))
theorem e7R (x0 : Value) (w : World) (R : RT) (E : Pan) : d5w x0 w R E = callX Tryd.prog [.cell 2 24] f9D f9E [x0] w R E := by kernel_rfl
theorem e7S {x0 : Value} (h : d5w x0 w R E) : Cv Tryd.prog 113 #[x0] w R E := by
 refine f8 (args := [x0]) (c := f9D) (h := f9E) (rs := [.cell 2 24]) Tryd.func113 (by kernel_rfl) (by kernel_rfl) (nB (by kernel_rfl)) (by kernel_rfl) (by kernel_rfl) (by kernel_rfl) ?_
 rw [← e7R]
 exact h
def c5z (x5 : Value) (w : World) (R : RT) (_E : Pan) : Prop :=
 ∀ _τ : Fr, (R x5 w)
def d1V (x1 x5 x8 x9 x10 : Value) (w : World) (next2 : NT) (j1 : NT) (_R : RT) (E : Pan) : Prop :=
 oP E (xBin .lss 3 (.tmp 10) (.tmp 9) x10 x9) w fun a4O w_6 =>
 xcond a4O
 (oP E (iA 25 x8 x10) w_6 fun a3x w_8 =>
 oP E (lA 27 a3x) w_8 fun a3y o7 =>
 oP E (xV (Instr.alloc 27 true (.tuple #[]))) o7 fun S5 o4 =>
 oP E (sA 27 S5 a3y) o4 fun _z_13 o8 =>
 oP E (lA 27 S5) o8 fun a2K s6 =>
 oP E (xCall x1 [a2K]) s6 fun a2L v7 =>
 oP E (xV (Instr.buildSlice 25 1 #[(0, a2L)])) v7 fun a2M u1 =>
 oP E (xBuiltin .append #[25, 25] 25 [false, false] [x5, a2M]) u1 fun a2N v8 =>
 oP E (xBin .add 3 (.tmp 10) (.const (vI 1)) x10 (vI 1)) v8 fun a0U y6 =>
 next2 [a2N, a0U] y6)
 (j1 [x5] w_6)
def d5x (x0 x1 : Value) (w : World) (R : RT) (E : Pan) : Prop :=
 xcut (fun l_1 w_2 => c5z (nth l_1 0) w_2 R E) fun j1 =>
 oP E (xBuiltin .len #[25] 3 [false] [x0]) w fun a3Y w_4 =>
 xloop [5, 10] [(nS), (vI 0)] w_4 fun τ_25 z6 next2 =>
 d1V x1 (τ_25 5) x0 a3Y (τ_25 10) z6 next2 j1 R E
noncomputable def f9F : Code := Tryd.f114.body.getD .skip
def f9G : Hint := (sQ (sQ (.cut [5] (sQ (.block (.loop [5, 10] (sQ (.seq (.cond .none .none) (.seq (.block (sQ .none)) .none)))))) (sQ .none))))
theorem e7T (x0 x1 : Value) (w : World) (R : RT) (E : Pan) : d5x x0 x1 w R E = callX Tryd.prog [.tmp 4] f9F f9G [x0, x1] w R E := by kernel_rfl
theorem e7U {x0 x1 : Value} (h : d5x x0 x1 w R E) : Cv Tryd.prog 114 #[x0, x1] w R E := by
 refine f8 (args := [x0, x1]) (c := f9F) (h := f9G) (rs := [.tmp 4]) Tryd.func114 (by kernel_rfl) (by kernel_rfl) (nB (by kernel_rfl)) (by kernel_rfl) (by kernel_rfl) (by kernel_rfl) ?_
 rw [← e7T]
 exact h
def d5y (x0 : Value) (w : World) (R : RT) (E : Pan) : Prop :=
 oP E (xV (Instr.box 27 x0)) w fun o5 w_2 =>
 oP E (xV (Instr.alloc 27 true (.tuple #[]))) w_2 fun N9 w_4 =>
 dX w_4 fun w_5 =>
 qP Tryd.prog (fA 27 o5 2) fun d0y =>
 qP Tryd.prog (fA 27 o5 3) fun a0C =>
 qL Tryd.prog w_5 (blk d0y) (lA 22 d0y) fun e2c =>
 qL Tryd.prog w_5 (blk a0C) (lA 25 a0C) fun b2c =>
 oP E (xCall (fC 112) [e2c, (fC 113)]) w_5 fun d5u P9 =>
 keepX [(blk a0C)] w_5 P9 (qP Tryd.prog (fA 27 o5 2) fun c2J =>
 oP E (xCall (fC 114) [b2c, (fC 115)]) P9 fun b6d o8 =>
 keepX [] P9 o8 (opK Tryd.prog E (sA 22 c2J d5u) o8 fun _z_15 s6 =>
 keepX [] o8 s6 (qP Tryd.prog (fA 27 o5 3) fun b1X =>
 oP E (sA 25 b1X b6d) s6 fun _z_18 a0D =>
 keepX [] s6 a0D (opK Tryd.prog E (lA 27 o5) a0D fun f9H U1 =>
 oP E (sA 27 N9 f9H) U1 fun _z_22 a7p =>
 xcell Tryd.prog 27 N9 a7p fun e1j =>
 R e1j a7p))))
noncomputable def f9I : Code := Tryd.f115.body.getD .skip
def f9J : Hint := (sQ (.seq (.reg [(0, 8, 2), (1, 16, 8), (2, 32, 16), (0, 64, 2), (8, 128, 64), (20, 256, 128), (31, 512, 2), (127, 0, 544), (255, 1024, 2), (511, 0, 1280)] [18, 16, 16, 18, 2, 0, 18, 0, 18, 0] (.early 0 (.early 3 (.load 1 (.load 4 (.step 2 (.early 6 (.step 5 (.step 7 (.early 8 (.step 9 .done))))))))))) (sQ .none)))
theorem e7V (x0 : Value) (w : World) (R : RT) (E : Pan) : d5y x0 w R E = callX Tryd.prog [.cell 2 27] f9I f9J [x0] w R E := by kernel_rfl
theorem e7W {x0 : Value} (h : d5y x0 w R E) : Cv Tryd.prog 115 #[x0] w R E := by
 refine f8 (args := [x0]) (c := f9I) (h := f9J) (rs := [.cell 2 27]) Tryd.func115 (by kernel_rfl) (by kernel_rfl) (nB (by kernel_rfl)) (by kernel_rfl) (by kernel_rfl) (by kernel_rfl) ?_
 rw [← e7V]
 exact h
end Go.Proofs.YtnhkdkcgdcgmdaaDoor
