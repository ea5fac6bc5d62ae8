/- The second reading of some of the program's functions, printed by gen2.py off the code; each is held against the code by the kernel. -/
import Derived.Test.YtnhkdkcgdcgmdaaGreatDoorProg
import Derived.Test.YtnhkdkcgdcgmdaaGreatDoorzUK0
import Derived.KernelRfl
import Derived.Test.YtnhkdkcgdcgmdaaGreatDoorzUGz
namespace Go.Proofs.YtnhkdkcgdcgmdaaGreatDoor
open Go.RowKit
set_option maxRecDepth 100000
variable {w : World} {R : RT} {E : Pan}
def F25 (x0 : Value) (w : World) (R : RT) (E : Pan) : Prop :=
 oP E (xV (Instr.box 25 x0)) w fun q7 w_2 =>
 oP E (xV (Instr.alloc 25 true (.tuple #[]))) w_2 fun R3 w_4 =>
 oP E (lA 25 q7) w_4 fun b8G w_6 =>
 oP E (xCall (fC 24) [b8G]) w_6 fun a8t w_8 =>
 oP E (xBin .neq 27 (.tmp 7) (.const (vI 0)) a8t (vI 0)) w_8 fun a5s o9 =>
 xcond a5s
 (oP E (xV (Instr.build 25 #[])) o9 fun a4M p8 =>
 oP E (sA 25 R3 a4M) p8 fun _z_13 p6 =>
 xcell Tryz.prog 25 R3 p6 fun b2Y =>
 R (Value.tuple #[b2Y, a8t]) p6)
 (dX o9 fun q8 =>
 qP Tryz.prog (fA 25 q7 0) fun b6x =>
 qP Tryz.prog (fA 25 q7 1) fun e1I =>
 qL Tryz.prog q8 (blk b6x) (lA 22 b6x) fun c5x =>
 qL Tryz.prog q8 (blk e1I) (lA 23 e1I) fun i4A =>
 oP E (xCall (fC 44) [c5x]) q8 fun i4B w9 =>
 keepX [(blk e1I)] q8 w9 (opK Tryz.prog E (xCall (fC 45) [i4A, (fC 46)]) w9 fun c5e v2 =>
 keepX [] w9 v2 (qP Tryz.prog (xV (Instr.build 25 #[(0, i4B), (1, c5e)])) fun b0Q =>
 oP E (sA 25 R3 b0Q) v2 fun _z_26 a5U =>
 keepX [] v2 a5U (xcell Tryz.prog 25 R3 a5U fun j5L =>
 R (Value.tuple #[j5L, (vI 0)]) a5U))))
noncomputable def c25 : Code := Tryz.f25.body.getD .skip
def h25 : Hint := (sQ (.seq (sQ (sQ (.cond (sQ .none) .none))) (.seq (.reg [(0, 2048, 2), (1, 4096, 2048), (2, 8192, 4096), (0, 16384, 2), (8, 32768, 16384), (20, 65536, 32768), (36, 131072, 73728), (127, 0, 131076), (255, 8, 0)] [18, 16, 16, 18, 2, 0, 18, 0, 18] (.early 0 (.early 3 (.load 1 (.load 4 (.step 2 (.step 5 (.early 6 (.step 7 (.early 8 .done)))))))))) .none)))
theorem i4C (x0 : Value) (w : World) (R : RT) (E : Pan) : F25 x0 w R E = callX Tryz.prog [.cell 2 25, .tmp 3] c25 h25 [x0] w R E := by kernel_rfl
theorem i4D {x0 : Value} (h : F25 x0 w R E) : Cv Tryz.prog 25 #[x0] w R E := by
 refine i8 (args := [x0]) (c := c25) (h := h25) (rs := [.cell 2 25, .tmp 3]) Tryz.func25 (by kernel_rfl) (by kernel_rfl) (nB (by kernel_rfl)) (by kernel_rfl) (by kernel_rfl) (by kernel_rfl) ?_
 rw [← i4C]
 exact h
def F44 (x0 : Value) (w : World) (R : RT) (E : Pan) : Prop :=
 oP E (xBin .eql 22 (.tmp 3) (.const (nS)) x0 (nS)) w fun b0W w_2 =>
 xcond b0W
 (R (nS) w_2)
 (oP E (xV (Instr.buildSlice 22 0 #[])) w_2 fun b8B w_4 =>
 oP E (xBuiltin .append #[22, 22] 22 [false, false] [b8B, x0]) w_4 fun b5z w_6 =>
 R b5z w_6)
noncomputable def c44 : Code := Tryz.f44.body.getD .skip
def h44 : Hint := (sQ (.seq (sQ (.cond (sQ .none) .none)) (sQ .none)))
theorem i4E (x0 : Value) (w : World) (R : RT) (E : Pan) : F44 x0 w R E = callX Tryz.prog [.tmp 2] c44 h44 [x0] w R E := by kernel_rfl
theorem i4F {x0 : Value} (h : F44 x0 w R E) : Cv Tryz.prog 44 #[x0] w R E := by
 refine i8 (args := [x0]) (c := c44) (h := h44) (rs := [.tmp 2]) Tryz.func44 (by kernel_rfl) (by kernel_rfl) (nB (by kernel_rfl)) (by kernel_rfl) (by kernel_rfl) (by kernel_rfl) ?_
 rw [← i4E]
 exact h
def e1J (x5 : Value) (w : World) (R : RT) (_E : Pan) : Prop :=
 ∀ _τ : Fr, (R x5 w)
def f2N (x1 x5 x8 x9 x10 : Value) (w : World) (next2 : NT) (j1 : NT) (_R : RT) (E : Pan) : Prop :=
 oP E (xBin .lss 3 (.tmp 10) (.tmp 9) x10 x9) w fun a4N w_6 =>
 xcond a4N
 (oP E (iA 23 x8 x10) w_6 fun a2b w_8 =>
 oP E (lA 73 a2b) w_8 fun a4O o9 =>
 oP E (xV (Instr.alloc 73 true (.tuple #[]))) o9 fun Y0 p8 =>
 oP E (sA 73 Y0 a4O) p8 fun _z_13 p6 =>
 oP E (lA 73 Y0) p6 fun a4P q8 =>
 oP E (xCall x1 [a4P]) q8 fun a6G w5 =>
 oP E (xV (Instr.buildSlice 23 1 #[(0, a6G)])) w5 fun a4Q t8 =>
 oP E (xBuiltin .append #[23, 23] 23 [false, false] [x5, a4Q]) t8 fun a6H w9 =>
 oP E (xBin .add 3 (.tmp 10) (.const (vI 1)) x10 (vI 1)) w9 fun a4R v2 =>
 next2 [a6H, a4R] v2)
 (j1 [x5] w_6)
def F45 (x0 x1 : Value) (w : World) (R : RT) (E : Pan) : Prop :=
 xcut (fun l_1 w_2 => e1J (nth l_1 0) w_2 R E) fun j1 =>
 oP E (xBuiltin .len #[23] 3 [false] [x0]) w fun a4S w_4 =>
 xloop [5, 10] [(nS), (vI 0)] w_4 fun τ_25 y8 next2 =>
 f2N x1 (τ_25 5) x0 a4S (τ_25 10) y8 next2 j1 R E
noncomputable def c45 : Code := Tryz.f45.body.getD .skip
def h45 : Hint := (sQ (sQ (.cut [5] (sQ (.block (.loop [5, 10] (sQ (.seq (.cond .none .none) (.seq (.block (sQ .none)) .none)))))) (sQ .none))))
theorem i4G (x0 x1 : Value) (w : World) (R : RT) (E : Pan) : F45 x0 x1 w R E = callX Tryz.prog [.tmp 4] c45 h45 [x0, x1] w R E := by kernel_rfl
theorem i4H {x0 x1 : Value} (h : F45 x0 x1 w R E) : Cv Tryz.prog 45 #[x0, x1] w R E := by
 refine i8 (args := [x0, x1]) (c := c45) (h := h45) (rs := [.tmp 4]) Tryz.func45 (by kernel_rfl) (by kernel_rfl) (nB (by kernel_rfl)) (by kernel_rfl) (by kernel_rfl) (by kernel_rfl) ?_
 rw [← i4G]
 exact h
def F46 (x0 : Value) (w : World) (R : RT) (E : Pan) : Prop :=
 oP E (xV (Instr.box 73 x0)) w fun q7 w_2 =>
 oP E (xV (Instr.alloc 73 true (.tuple #[]))) w_2 fun R3 w_4 =>
 dX w_4 fun w_5 =>
 qP Tryz.prog (fA 73 q7 2) fun e1K =>
 qP Tryz.prog (fA 73 q7 3) fun a8t =>
 qL Tryz.prog w_5 (blk e1K) (lA 51 e1K) fun f7J =>
 qL Tryz.prog w_5 (blk a8t) (lA 57 a8t) fun c8L =>
 oP E (xCall (fC 80) [f7J, (fC 81)]) w_5 fun e9r S5 =>
 keepX [(blk a8t)] w_5 S5 (qP Tryz.prog (fA 73 q7 2) fun d0x =>
 oP E (xCall (fC 82) [c8L, (fC 83)]) S5 fun b7w p6 =>
 keepX [] S5 p6 (opK Tryz.prog E (sA 51 d0x e9r) p6 fun _z_15 q8 =>
 keepX [] p6 q8 (qP Tryz.prog (fA 73 q7 3) fun b8t =>
 oP E (sA 57 b8t b7w) q8 fun _z_18 X1 =>
 keepX [] q8 X1 (dX X1 fun t8 =>
 qP Tryz.prog (fA 73 q7 4) fun d0C =>
 qP Tryz.prog (fA 73 q7 5) fun e1L =>
 qL Tryz.prog t8 (blk d0C) (lA 23 d0C) fun d7c =>
 qL Tryz.prog t8 (blk e1L) (lA 23 e1L) fun i4I =>
 oP E (xCall (fC 45) [d7c, (fC 46)]) t8 fun d7G y8 =>
 keepX [(blk e1L)] t8 y8 (qP Tryz.prog (fA 73 q7 4) fun d6R =>
 oP E (xCall (fC 45) [i4I, (fC 46)]) y8 fun i4J a6Y =>
 keepX [] y8 a6Y (opK Tryz.prog E (sA 23 d6R d7G) a6Y fun _z_30 b1m =>
 keepX [] a6Y b1m (qP Tryz.prog (fA 73 q7 5) fun i4K =>
 oP E (sA 23 i4K i4J) b1m fun _z_33 A6 =>
 keepX [] b1m A6 (opK Tryz.prog E (lA 73 q7) A6 fun i4L J6 =>
 oP E (sA 73 R3 i4L) J6 fun _z_37 C2 =>
 xcell Tryz.prog 73 R3 C2 fun j5M =>
 R j5M C2))))))))
noncomputable def c46 : Code := Tryz.f46.body.getD .skip
def h46 : Hint := (sQ (.seq (.reg [(0, 8, 2), (1, 16, 8), (2, 32, 16), (0, 64, 2), (8, 128, 64), (20, 256, 128), (31, 512, 2), (127, 0, 544), (255, 1024, 2), (511, 0, 1280)] [18, 16, 16, 18, 2, 0, 18, 0, 18, 0] (.early 0 (.early 3 (.load 1 (.load 4 (.step 2 (.early 6 (.step 5 (.step 7 (.early 8 (.step 9 .done))))))))))) (.seq (.reg [(0, 2048, 2), (1, 4096, 2048), (2, 8192, 4096), (0, 16384, 2), (8, 32768, 16384), (20, 65536, 32768), (31, 131072, 2), (127, 0, 139264), (255, 262144, 2), (511, 0, 327680)] [18, 16, 16, 18, 2, 0, 18, 0, 18, 0] (.early 0 (.early 3 (.load 1 (.load 4 (.step 2 (.early 6 (.step 5 (.step 7 (.early 8 (.step 9 .done))))))))))) (sQ .none))))
theorem i4M (x0 : Value) (w : World) (R : RT) (E : Pan) : F46 x0 w R E = callX Tryz.prog [.cell 2 73] c46 h46 [x0] w R E := by kernel_rfl
theorem i4N {x0 : Value} (h : F46 x0 w R E) : Cv Tryz.prog 46 #[x0] w R E := by
 refine i8 (args := [x0]) (c := c46) (h := h46) (rs := [.cell 2 73]) Tryz.func46 (by kernel_rfl) (by kernel_rfl) (nB (by kernel_rfl)) (by kernel_rfl) (by kernel_rfl) (by kernel_rfl) ?_
 rw [← i4M]
 exact h
def e1M (x5 : Value) (w : World) (R : RT) (_E : Pan) : Prop :=
 ∀ _τ : Fr, (R x5 w)
def f2O (x1 x5 x8 x9 x10 : Value) (w : World) (next2 : NT) (j1 : NT) (_R : RT) (E : Pan) : Prop :=
 oP E (xBin .lss 3 (.tmp 10) (.tmp 9) x10 x9) w fun a4N w_6 =>
 xcond a4N
 (oP E (iA 51 x8 x10) w_6 fun a2b w_8 =>
 oP E (lA 53 a2b) w_8 fun a4O o9 =>
 oP E (xV (Instr.alloc 53 true (.tuple #[]))) o9 fun Y0 p8 =>
 oP E (sA 53 Y0 a4O) p8 fun _z_13 p6 =>
 oP E (lA 53 Y0) p6 fun a4P q8 =>
 oP E (xCall x1 [a4P]) q8 fun a6G w5 =>
 oP E (xV (Instr.buildSlice 51 1 #[(0, a6G)])) w5 fun a4Q t8 =>
 oP E (xBuiltin .append #[51, 51] 51 [false, false] [x5, a4Q]) t8 fun a6H w9 =>
 oP E (xBin .add 3 (.tmp 10) (.const (vI 1)) x10 (vI 1)) w9 fun a4R v2 =>
 next2 [a6H, a4R] v2)
 (j1 [x5] w_6)
def F80 (x0 x1 : Value) (w : World) (R : RT) (E : Pan) : Prop :=
 xcut (fun l_1 w_2 => e1M (nth l_1 0) w_2 R E) fun j1 =>
 oP E (xBuiltin .len #[51] 3 [false] [x0]) w fun a4S w_4 =>
 xloop [5, 10] [(nS), (vI 0)] w_4 fun τ_25 y8 next2 =>
 f2O x1 (τ_25 5) x0 a4S (τ_25 10) y8 next2 j1 R E
noncomputable def c80 : Code := Tryz.f80.body.getD .skip
def h80 : Hint := (sQ (sQ (.cut [5] (sQ (.block (.loop [5, 10] (sQ (.seq (.cond .none .none) (.seq (.block (sQ .none)) .none)))))) (sQ .none))))
theorem i4O (x0 x1 : Value) (w : World) (R : RT) (E : Pan) : F80 x0 x1 w R E = callX Tryz.prog [.tmp 4] c80 h80 [x0, x1] w R E := by kernel_rfl
theorem i4P {x0 x1 : Value} (h : F80 x0 x1 w R E) : Cv Tryz.prog 80 #[x0, x1] w R E := by
 refine i8 (args := [x0, x1]) (c := c80) (h := h80) (rs := [.tmp 4]) Tryz.func80 (by kernel_rfl) (by kernel_rfl) (nB (by kernel_rfl)) (by kernel_rfl) (by kernel_rfl) (by kernel_rfl) ?_
 rw [← i4O]
 exact h
def F81 (x0 : Value) (w : World) (R : RT) (E : Pan) : Prop :=
 oP E (xV (Instr.box 53 x0)) w fun q7 w_2 =>
 oP E (xV (Instr.alloc 53 true (.tuple #[]))) w_2 fun R3 w_4 =>
 oP E (fA 53 q7 3) w_4 fun c2M w_6 =>
 oP E (lA 51 c2M) w_6 fun e3Y w_8 =>
 oP E (xCall (fC 80) [e3Y, (fC 81)]) w_8 fun j5N o9 =>
 oP E (fA 53 q7 3) o9 fun j1A p8 =>
 oP E (sA 51 j1A j5N) p8 fun _z_13 p6 =>
 oP E (lA 53 q7) p6 fun b1g q8 =>
 oP E (sA 53 R3 b1g) q8 fun _z_17 w5 =>
 xcell Tryz.prog 53 R3 w5 fun j5O =>
 R j5O w5
noncomputable def c81 : Code := Tryz.f81.body.getD .skip
def h81 : Hint := (sQ (sQ (sQ .none)))
theorem i4Q (x0 : Value) (w : World) (R : RT) (E : Pan) : F81 x0 w R E = callX Tryz.prog [.cell 2 53] c81 h81 [x0] w R E := by kernel_rfl
theorem i4R {x0 : Value} (h : F81 x0 w R E) : Cv Tryz.prog 81 #[x0] w R E := by
 refine i8 (args := [x0]) (c := c81) (h := h81) (rs := [.cell 2 53]) Tryz.func81 (by kernel_rfl) (by kernel_rfl) (nB (by kernel_rfl)) (by kernel_rfl) (by kernel_rfl) (by kernel_rfl) ?_
 rw [← i4Q]
 exact h
def e1N (x5 : Value) (w : World) (R : RT) (_E : Pan) : Prop :=
 ∀ _τ : Fr, (R x5 w)
def f2P (x1 x5 x8 x9 x10 : Value) (w : World) (next2 : NT) (j1 : NT) (_R : RT) (E : Pan) : Prop :=
 oP E (xBin .lss 3 (.tmp 10) (.tmp 9) x10 x9) w fun a4N w_6 =>
 xcond a4N
 (oP E (iA 57 x8 x10) w_6 fun a2b w_8 =>
 oP E (lA 59 a2b) w_8 fun a4O o9 =>
 oP E (xV (Instr.alloc 59 true (.tuple #[]))) o9 fun Y0 p8 =>
 oP E (sA 59 Y0 a4O) p8 fun _z_13 p6 =>
 oP E (lA 59 Y0) p6 fun a4P q8 =>
 oP E (xCall x1 [a4P]) q8 fun a6G w5 =>
 oP E (xV (Instr.buildSlice 57 1 #[(0, a6G)])) w5 fun a4Q t8 =>
 oP E (xBuiltin .append #[57, 57] 57 [false, false] [x5, a4Q]) t8 fun a6H w9 =>
 oP E (xBin .add 3 (.tmp 10) (.const (vI 1)) x10 (vI 1)) w9 fun a4R v2 =>
 next2 [a6H, a4R] v2)
 (j1 [x5] w_6)
def F82 (x0 x1 : Value) (w : World) (R : RT) (E : Pan) : Prop :=
 xcut (fun l_1 w_2 => e1N (nth l_1 0) w_2 R E) fun j1 =>
 oP E (xBuiltin .len #[57] 3 [false] [x0]) w fun a4S w_4 =>
 xloop [5, 10] [(nS), (vI 0)] w_4 fun τ_25 y8 next2 =>
 f2P x1 (τ_25 5) x0 a4S (τ_25 10) y8 next2 j1 R E
noncomputable def c82 : Code := Tryz.f82.body.getD .skip
def h82 : Hint := (sQ (sQ (.cut [5] (sQ (.block (.loop [5, 10] (sQ (.seq (.cond .none .none) (.seq (.block (sQ .none)) .none)))))) (sQ .none))))
theorem i4S (x0 x1 : Value) (w : World) (R : RT) (E : Pan) : F82 x0 x1 w R E = callX Tryz.prog [.tmp 4] c82 h82 [x0, x1] w R E := by kernel_rfl
theorem i4T {x0 x1 : Value} (h : F82 x0 x1 w R E) : Cv Tryz.prog 82 #[x0, x1] w R E := by
 refine i8 (args := [x0, x1]) (c := c82) (h := h82) (rs := [.tmp 4]) Tryz.func82 (by kernel_rfl) (by kernel_rfl) (nB (by kernel_rfl)) (by kernel_rfl) (by kernel_rfl) (by kernel_rfl) ?_
 rw [← i4S]
 exact h
def F83 (x0 : Value) (w : World) (R : RT) (E : Pan) : Prop :=
 oP E (xV (Instr.box 59 x0)) w fun q7 w_2 =>
 oP E (xV (Instr.alloc 59 true (.tuple #[]))) w_2 fun R3 w_4 =>
 dX w_4 fun w_5 =>
 qP Tryz.prog (fA 59 q7 2) fun e1K =>
 qP Tryz.prog (fA 59 q7 3) fun a8t =>
 qL Tryz.prog w_5 (blk e1K) (lA 51 e1K) fun f7J =>
 qL Tryz.prog w_5 (blk a8t) (lA 57 a8t) fun c8L =>
 oP E (xCall (fC 80) [f7J, (fC 81)]) w_5 fun e9r S5 =>
 keepX [(blk a8t)] w_5 S5 (qP Tryz.prog (fA 59 q7 2) fun d0x =>
 oP E (xCall (fC 82) [c8L, (fC 83)]) S5 fun b7w p6 =>
 keepX [] S5 p6 (opK Tryz.prog E (sA 51 d0x e9r) p6 fun _z_15 q8 =>
 keepX [] p6 q8 (qP Tryz.prog (fA 59 q7 3) fun b8t =>
 oP E (sA 57 b8t b7w) q8 fun _z_18 X1 =>
 keepX [] q8 X1 (opK Tryz.prog E (lA 59 q7) X1 fun i4U a3e =>
 oP E (sA 59 R3 i4U) a3e fun _z_22 a6X =>
 xcell Tryz.prog 59 R3 a6X fun f6R =>
 R f6R a6X))))
noncomputable def c83 : Code := Tryz.f83.body.getD .skip
def h83 : Hint := (sQ (.seq (.reg [(0, 8, 2), (1, 16, 8), (2, 32, 16), (0, 64, 2), (8, 128, 64), (20, 256, 128), (31, 512, 2), (127, 0, 544), (255, 1024, 2), (511, 0, 1280)] [18, 16, 16, 18, 2, 0, 18, 0, 18, 0] (.early 0 (.early 3 (.load 1 (.load 4 (.step 2 (.early 6 (.step 5 (.step 7 (.early 8 (.step 9 .done))))))))))) (sQ .none)))
theorem i4V (x0 : Value) (w : World) (R : RT) (E : Pan) : F83 x0 w R E = callX Tryz.prog [.cell 2 59] c83 h83 [x0] w R E := by kernel_rfl
theorem i4W {x0 : Value} (h : F83 x0 w R E) : Cv Tryz.prog 83 #[x0] w R E := by
 refine i8 (args := [x0]) (c := c83) (h := h83) (rs := [.cell 2 59]) Tryz.func83 (by kernel_rfl) (by kernel_rfl) (nB (by kernel_rfl)) (by kernel_rfl) (by kernel_rfl) (by kernel_rfl) ?_
 rw [← i4V]
 exact h
def e1O (x2 x3 : Value) (w : World) (R : RT) (E : Pan) : Prop :=
 ∀ _τ : Fr, (oP E (lA 59 x3) w fun i4X t8 =>
 oP E (sA 59 x2 i4X) t8 fun _z_21 w9 =>
 xcell Tryz.prog 59 x2 w9 fun j5P =>
 R j5P w9)
def f2Q (x1 _x2 x3 x5 : Value) (w : World) (next3 : NT) (j2 : NT) (_R : RT) (E : Pan) : Prop :=
 oP E (fA 59 x1 3) w fun i4Y a5U =>
 oP E (lA 57 i4Y) a5U fun i4Z a6Y =>
 oP E (xBuiltin .len #[57] 3 [false] [i4Z]) a6Y fun i5a b1m =>
 oP E (xBin .lss 3 (.tmp 29) (.tmp 32) x5 i5a) b1m fun i5b a9e =>
 xcond i5b
 (dX a9e fun A6 =>
 qP Tryz.prog (fA 59 x3 3) fun d2D =>
 qP Tryz.prog (fA 59 x1 3) fun f2R =>
 qL Tryz.prog A6 (blk d2D) (lA 57 d2D) fun i5c =>
 qL Tryz.prog A6 (blk f2R) (lA 57 f2R) fun i5d =>
 qP Tryz.prog (iA 57 i5d x5) fun f2S =>
 qL Tryz.prog A6 (blk f2S) (lA 59 f2S) fun i5e =>
 oP E (xCall (fC 90) [i5e]) A6 fun d6q C7 =>
 keepX [(blk d2D)] A6 C7 (opK Tryz.prog E (xV (Instr.buildSlice 57 1 #[(0, d6q)])) C7 fun d6r D8 =>
 keepX [(blk d2D)] C7 D8 (opK Tryz.prog E (xBuiltin .append #[57, 57] 57 [false, false] [i5c, d6r]) D8 fun d6s G8 =>
 keepX [] D8 G8 (qP Tryz.prog (fA 59 x3 3) fun d6t =>
 oP E (sA 57 d6t d6s) G8 fun _z_48 c0T =>
 keepX [] G8 c0T (opK Tryz.prog E (xBin .add 3 (.tmp 34) (.const (vI 1)) x5 (vI 1)) c0T fun i5f b4f =>
 next3 [i5f] b4f)))))
 (j2 [] a9e)
def e1P (x1 x2 x3 : Value) (w : World) (R : RT) (E : Pan) : Prop :=
 ∀ _τ : Fr, (xcut (fun _ a9K => e1O x2 x3 a9K R E) fun j2 =>
 xloop [5] [(vI 0)] w fun τ_52 b3a next3 =>
 f2Q x1 x2 x3 (τ_52 5) b3a next3 j2 R E)
def f2T (x1 _x2 x3 x4 : Value) (w : World) (next4 : NT) (j1 : NT) (_R : RT) (E : Pan) : Prop :=
 oP E (fA 59 x1 2) w fun i5g b4g =>
 oP E (lA 51 i5g) b4g fun d6z b2w =>
 oP E (xBuiltin .len #[51] 3 [false] [d6z]) b2w fun d6A b5y =>
 oP E (xBin .lss 3 (.tmp 11) (.tmp 14) x4 d6A) b5y fun d6B b4h =>
 xcond d6B
 (dX b4h fun Q3 =>
 qP Tryz.prog (fA 59 x3 2) fun d2E =>
 qP Tryz.prog (fA 59 x1 2) fun f2U =>
 qL Tryz.prog Q3 (blk d2E) (lA 51 d2E) fun i5h =>
 qL Tryz.prog Q3 (blk f2U) (lA 51 f2U) fun i5i =>
 qP Tryz.prog (iA 51 i5i x4) fun f2V =>
 qL Tryz.prog Q3 (blk f2V) (lA 53 f2V) fun i5j =>
 oP E (xCall (fC 92) [i5j]) Q3 fun i5k a0r =>
 keepX [(blk d2E)] Q3 a0r (opK Tryz.prog E (xV (Instr.buildSlice 51 1 #[(0, i5k)])) a0r fun i5l a2L =>
 keepX [(blk d2E)] a0r a2L (opK Tryz.prog E (xBuiltin .append #[51, 51] 51 [false, false] [i5h, i5l]) a2L fun i5m X6 =>
 keepX [] a2L X6 (qP Tryz.prog (fA 59 x3 2) fun i5n =>
 oP E (sA 51 i5n i5m) X6 fun _z_78 a6Z =>
 keepX [] X6 a6Z (opK Tryz.prog E (xBin .add 3 (.tmp 16) (.const (vI 1)) x4 (vI 1)) a6Z fun i5o b7n =>
 next4 [i5o] b7n)))))
 (j1 [] b4h)
def F90 (x0 : Value) (w : World) (R : RT) (E : Pan) : Prop :=
 oP E (xV (Instr.box 59 x0)) w fun q7 w_2 =>
 oP E (xV (Instr.alloc 59 true (.tuple #[]))) w_2 fun R3 w_4 =>
 oP E (fA 59 q7 0) w_4 fun a7U w_6 =>
 oP E (lA 3 a7U) w_6 fun a9Z w_8 =>
 oP E (fA 59 q7 1) w_8 fun a5s o9 =>
 oP E (lA 3 a5s) o9 fun a4M p8 =>
 oP E (xV (Instr.build 59 #[(0, a9Z), (1, a4M)])) p8 fun a7g p6 =>
 oP E (xV (Instr.alloc 59 true (.tuple #[]))) p6 fun c0F q8 =>
 oP E (sA 59 c0F a7g) q8 fun _z_17 w5 =>
 xcut (fun _ b6S => e1P q7 R3 c0F b6S R E) fun j1 =>
 xloop [4] [(vI 0)] w5 fun τ_82 c1r next4 =>
 f2T q7 R3 c0F (τ_82 4) c1r next4 j1 R E
noncomputable def c90 : Code := Tryz.f90.body.getD .skip
def h90 : Hint := (sQ (sQ (.cut [] (sQ (.block (.loop [4] (.seq (sQ (.cond .none .none)) (.seq (.block (.reg [(0, 262144, 8), (1, 524288, 262144), (0, 1048576, 2), (4, 2097152, 1048576), (0, 4194304, 16), (24, 8388608, 6291456), (32, 16777216, 8388608), (64, 33554432, 16777216), (128, 67108864, 33554432), (386, 134217728, 67633152), (1023, 268435456, 8), (2047, 0, 402653184)] [74, 72, 74, 66, 74, 74, 10, 2, 2, 0, 74, 0] (.early 0 (.early 2 (.early 4 (.load 1 (.load 3 (.early 5 (.load 6 (.step 7 (.step 8 (.step 9 (.early 10 (.step 11 .done)))))))))))))) .none))))) (.cut [] (sQ (.block (.loop [5] (.seq (sQ (.cond .none .none)) (.seq (.block (.reg [(0, 68719476736, 8), (1, 137438953472, 68719476736), (0, 274877906944, 2), (4, 549755813888, 274877906944), (0, 1099511627776, 32), (24, 2199023255552, 1649267441664), (32, 4398046511104, 2199023255552), (64, 8796093022208, 4398046511104), (128, 17592186044416, 8796093022208), (386, 35184372088832, 17729624997888), (1023, 70368744177664, 8), (2047, 0, 105553116266496)] [74, 72, 74, 66, 74, 74, 10, 2, 2, 0, 74, 0] (.early 0 (.early 2 (.early 4 (.load 1 (.load 3 (.early 5 (.load 6 (.step 7 (.step 8 (.step 9 (.early 10 (.step 11 .done)))))))))))))) .none))))) (sQ .none)))))
theorem i5p (x0 : Value) (w : World) (R : RT) (E : Pan) : F90 x0 w R E = callX Tryz.prog [.cell 2 59] c90 h90 [x0] w R E := by kernel_rfl
theorem i5q {x0 : Value} (h : F90 x0 w R E) : Cv Tryz.prog 90 #[x0] w R E := by
 refine i8 (args := [x0]) (c := c90) (h := h90) (rs := [.cell 2 59]) Tryz.func90 (by kernel_rfl) (by kernel_rfl) (nB (by kernel_rfl)) (by kernel_rfl) (by kernel_rfl) (by kernel_rfl) ?_
 rw [← i5p]
 exact h
def e1Q (x2 x3 : Value) (w : World) (R : RT) (E : Pan) : Prop :=
 ∀ _τ : Fr, (oP E (lA 53 x3) w fun e0S v2 =>
 oP E (sA 53 x2 e0S) v2 fun _z_25 y8 =>
 xcell Tryz.prog 53 x2 y8 fun f6Q =>
 R f6Q y8)
def f2W (x1 _x2 x3 x4 : Value) (w : World) (next2 : NT) (j1 : NT) (_R : RT) (E : Pan) : Prop :=
 oP E (fA 53 x1 3) w fun i5r b1m =>
 oP E (lA 51 i5r) b1m fun i5s a9e =>
 oP E (xBuiltin .len #[51] 3 [false] [i5s]) a9e fun i5t b6Q =>
 oP E (xBin .lss 3 (.tmp 12) (.tmp 15) x4 i5t) b6Q fun i5u b2Z =>
 xcond i5u
 (dX b2Z fun C2 =>
 qP Tryz.prog (fA 53 x3 3) fun d2F =>
 qP Tryz.prog (fA 53 x1 3) fun f2X =>
 qL Tryz.prog C2 (blk d2F) (lA 51 d2F) fun i5v =>
 qL Tryz.prog C2 (blk f2X) (lA 51 f2X) fun i5w =>
 qP Tryz.prog (iA 51 i5w x4) fun f2Y =>
 qL Tryz.prog C2 (blk f2Y) (lA 53 f2Y) fun i5x =>
 oP E (xCall (fC 92) [i5x]) C2 fun d6T G8 =>
 keepX [(blk d2F)] C2 G8 (opK Tryz.prog E (xV (Instr.buildSlice 51 1 #[(0, d6T)])) G8 fun d6U L9 =>
 keepX [(blk d2F)] G8 L9 (opK Tryz.prog E (xBuiltin .append #[51, 51] 51 [false, false] [i5v, d6U]) L9 fun d6V M6 =>
 keepX [] L9 M6 (qP Tryz.prog (fA 53 x3 3) fun d6W =>
 oP E (sA 51 d6W d6V) M6 fun _z_52 b3a =>
 keepX [] M6 b3a (opK Tryz.prog E (xBin .add 3 (.tmp 17) (.const (vI 1)) x4 (vI 1)) b3a fun i5y b6S =>
 next2 [i5y] b6S)))))
 (j1 [] b2Z)
def F92 (x0 : Value) (w : World) (R : RT) (E : Pan) : Prop :=
 oP E (xV (Instr.box 53 x0)) w fun q7 w_2 =>
 oP E (xV (Instr.alloc 53 true (.tuple #[]))) w_2 fun R3 w_4 =>
 oP E (fA 53 q7 0) w_4 fun b8G w_6 =>
 oP E (lA 3 b8G) w_6 fun a8t w_8 =>
 oP E (fA 53 q7 1) w_8 fun c8L o9 =>
 oP E (lA 2 c8L) o9 fun c2N p8 =>
 oP E (fA 53 q7 2) p8 fun c2S p6 =>
 oP E (lA 9 c2S) p6 fun c5w q8 =>
 oP E (xV (Instr.build 53 #[(0, a8t), (1, c2N), (2, c5w)])) q8 fun b6x w5 =>
 oP E (xV (Instr.alloc 53 true (.tuple #[]))) w5 fun e9s t8 =>
 oP E (sA 53 e9s b6x) t8 fun _z_21 w9 =>
 xcut (fun _ a6Y => e1Q R3 e9s a6Y R E) fun j1 =>
 xloop [4] [(vI 0)] w9 fun τ_56 b4g next2 =>
 f2W q7 R3 e9s (τ_56 4) b4g next2 j1 R E
noncomputable def c92 : Code := Tryz.f92.body.getD .skip
def h92 : Hint := (sQ (sQ (.cut [] (sQ (.block (.loop [4] (.seq (sQ (.cond .none .none)) (.seq (.block (.reg [(0, 524288, 8), (1, 1048576, 524288), (0, 2097152, 2), (4, 4194304, 2097152), (0, 8388608, 16), (24, 16777216, 12582912), (32, 33554432, 16777216), (64, 67108864, 33554432), (128, 134217728, 67108864), (386, 268435456, 135266304), (1023, 536870912, 8), (2047, 0, 805306368)] [74, 72, 74, 66, 74, 74, 10, 2, 2, 0, 74, 0] (.early 0 (.early 2 (.early 4 (.load 1 (.load 3 (.early 5 (.load 6 (.step 7 (.step 8 (.step 9 (.early 10 (.step 11 .done)))))))))))))) .none))))) (sQ .none))))
theorem i5z (x0 : Value) (w : World) (R : RT) (E : Pan) : F92 x0 w R E = callX Tryz.prog [.cell 2 53] c92 h92 [x0] w R E := by kernel_rfl
theorem i5A {x0 : Value} (h : F92 x0 w R E) : Cv Tryz.prog 92 #[x0] w R E := by
 refine i8 (args := [x0]) (c := c92) (h := h92) (rs := [.cell 2 53]) Tryz.func92 (by kernel_rfl) (by kernel_rfl) (nB (by kernel_rfl)) (by kernel_rfl) (by kernel_rfl) (by kernel_rfl) ?_
 rw [← i5z]
 exact h
end Go.Proofs.YtnhkdkcgdcgmdaaGreatDoor
