/- The second reading of some of the program's functions, printed by gen2.py off the code; each is held against the code by the kernel. -/
import Derived.Test.YtnhkdkcgdcgmdaaGreatDoorProg
import Derived.Test.YtnhkdkcgdcgmdaaGreatDoorzFK0
import Derived.KernelRfl
import Derived.Test.YtnhkdkcgdcgmdaaGreatDoorzFGz
namespace Go.Proofs.YtnhkdkcgdcgmdaaGreatDoor
open Go.RowKit
set_option maxRecDepth 100000
variable {w : World} {R : RT} {E : Pan}
def F3 (x0 x1 : Value) (w : World) (R : RT) (E : Pan) : Prop :=
 oP E (xV (Instr.box 25 x0)) w fun U3 w_2 =>
 oP E (xCall (fC 8) []) w_2 fun a6n w_4 =>
 oP E (xV (Op.unary .not a6n)) w_4 fun a9z w_6 =>
 xcond a9z
 (R (vB false) w_6)
 (oP E (lA 25 U3) w_6 fun a1J w_8 =>
 oP E (xCall (fC 9) [a1J, x1]) w_8 fun b2k p5 =>
 oP E (eX b2k 0) p5 fun c0y q8 =>
 oP E (eX b2k 1) q8 fun i8t p6 =>
 oP E (xV (Instr.alloc 25 true (.tuple #[]))) p6 fun d9c r8 =>
 oP E (sA 25 d9c c0y) r8 fun _z_17 s8 =>
 oP E (lA 25 U3) s8 fun a4U r9 =>
 oP E (xCall (fC 10) [a4U, x1]) r9 fun d3N u7 =>
 oP E (eX d3N 0) u7 fun i8u u4 =>
 oP E (eX d3N 1) u4 fun d3M z2 =>
 oP E (xV (Instr.alloc 25 true (.tuple #[]))) z2 fun d8A B3 =>
 oP E (sA 25 d8A i8u) B3 fun _z_29 C4 =>
 oP E (xBin .neq 3 (.tmp 23) (.tmp 24) i8t d3M) C4 fun i8v B6 =>
 xcond i8v
 (R (vB false) B6)
 (oP E (xBin .neq 3 (.tmp 26) (.const (vI 0)) d3M (vI 0)) B6 fun i8w A6 =>
 xcond i8w
 (oP E (fA 25 d9c 0) A6 fun i8x I7 =>
 oP E (lA 22 i8x) I7 fun i8y C7 =>
 oP E (xBuiltin .len #[22] 3 [false] [i8y]) C7 fun i8z I4 =>
 oP E (xBin .eql 3 (.tmp 30) (.const (vI 0)) i8z (vI 0)) I4 fun c9C E8 =>
 oP E (gsem (asB c9C) true (fA 25 d9c 1)) E8 fun i8A E4 =>
 oP E (gsem (asB c9C) true (lA 23 i8A)) E4 fun i8B N1 =>
 oP E (gsem (asB c9C) true (xBuiltin .len #[23] 3 [false] [i8B])) N1 fun i8C M6 =>
 oP E (gsem (asB c9C) true (xBin .eql 3 (.tmp 35) (.const (vI 0)) i8C (vI 0))) M6 fun i8D L8 =>
 oP E (xPick c9C i8D (vB false)) L8 fun i8E N0 =>
 R i8E N0)
 (oP E (lA 25 d9c) A6 fun i8F K5 =>
 oP E (lA 25 d8A) K5 fun i8G N4 =>
 oP E (xCall (fC 11) [i8F, i8G]) N4 fun i8H L4 =>
 R i8H L4)))
noncomputable def c3 : Code := Tryz.f3.body.getD .skip
def h3 : Hint := (sQ (.seq (sQ (.cond (sQ .none) .none)) (sQ (sQ (.seq (sQ (.cond (sQ .none) .none)) (.seq (sQ (.cond (sQ .none) .none)) (sQ .none)))))))
def F4 (x0 : Value) (w : World) (R : RT) (E : Pan) : Prop :=
 oP E (xV (Instr.box 25 x0)) w fun q7 w_2 =>
 oP E (xCall (fC 8) []) w_2 fun b1d w_4 =>
 oP E (xV (Op.unary .not b1d)) w_4 fun c5B w_6 =>
 xcond c5B
 (R (vB false) w_6)
 (oP E (lA 25 q7) w_6 fun c7c w_8 =>
 oP E (xCall (fC 12) [c7c]) w_8 fun b0j p5 =>
 oP E (eX b0j 0) p5 fun e0Z q8 =>
 oP E (eX b0j 1) q8 fun c8v p6 =>
 oP E (xV (Instr.alloc 25 true (.tuple #[]))) p6 fun c3a r8 =>
 oP E (sA 25 c3a e0Z) r8 fun _z_17 s8 =>
 oP E (lA 25 q7) s8 fun a4O r9 =>
 oP E (xCall (fC 13) [a4O]) r9 fun a6d u7 =>
 oP E (eX a6d 0) u7 fun b5w u4 =>
 oP E (eX a6d 1) u4 fun a4P z2 =>
 oP E (xV (Instr.alloc 25 true (.tuple #[]))) z2 fun g5d B3 =>
 oP E (sA 25 g5d b5w) B3 fun _z_29 C4 =>
 oP E (xBin .neq 3 (.tmp 19) (.tmp 20) c8v a4P) C4 fun b3U B6 =>
 xcond b3U
 (R (vB false) B6)
 (oP E (xBin .neq 3 (.tmp 22) (.const (vI 0)) a4P (vI 0)) B6 fun c8n A6 =>
 xcond c8n
 (oP E (fA 25 c3a 0) A6 fun c0l I7 =>
 oP E (lA 22 c0l) I7 fun a8E C7 =>
 oP E (xBuiltin .len #[22] 3 [false] [a8E]) C7 fun c0m I4 =>
 oP E (xBin .eql 3 (.tmp 26) (.const (vI 0)) c0m (vI 0)) I4 fun a6e E8 =>
 oP E (gsem (asB a6e) true (fA 25 c3a 1)) E8 fun e0B E4 =>
 oP E (gsem (asB a6e) true (lA 23 e0B)) E4 fun e0C N1 =>
 oP E (gsem (asB a6e) true (xBuiltin .len #[23] 3 [false] [e0C])) N1 fun e0D M6 =>
 oP E (gsem (asB a6e) true (xBin .eql 3 (.tmp 31) (.const (vI 0)) e0D (vI 0))) M6 fun e0E L8 =>
 oP E (xPick a6e e0E (vB false)) L8 fun c8o N0 =>
 R c8o N0)
 (oP E (lA 25 c3a) A6 fun e0F K5 =>
 oP E (lA 25 g5d) K5 fun c8p N4 =>
 oP E (xCall (fC 11) [e0F, c8p]) N4 fun c8q L4 =>
 R c8q L4)))
noncomputable def c4 : Code := Tryz.f4.body.getD .skip
def h4 : Hint := (sQ (.seq (sQ (.cond (sQ .none) .none)) (sQ (sQ (.seq (sQ (.cond (sQ .none) .none)) (.seq (sQ (.cond (sQ .none) .none)) (sQ .none)))))))
theorem j6K (x0 : Value) (w : World) (R : RT) (E : Pan) : F4 x0 w R E = callX Tryz.prog [.tmp 2] c4 h4 [x0] w R E := by kernel_rfl
theorem j6L {x0 : Value} (h : F4 x0 w R E) : Cv Tryz.prog 4 #[x0] w R E := by
 refine k3 (args := [x0]) (c := c4) (h := h4) (rs := [.tmp 2]) Tryz.func4 (by kernel_rfl) (by kernel_rfl) (nB (by kernel_rfl)) (by kernel_rfl) (by kernel_rfl) (by kernel_rfl) ?_
 rw [← j6K]
 exact h
def F8 (w : World) (R : RT) (E : Pan) : Prop :=
 oP E (xCall (fC 22) [(vI 1)]) w fun b3F w_2 =>
 oP E (xCall (fC 22) [(vI 2)]) w_2 fun b1d w_4 =>
 oP E (xV (Instr.buildSlice 51 2 #[(0, b3F), (1, b1d)])) w_4 fun c5B w_6 =>
 oP E (xV (Instr.build 53 #[(0, (vI 6)), (3, c5B)])) w_6 fun d1W w_8 =>
 oP E (xV (Instr.build 53 #[(0, (vI 2)), (2, (Value.string ⟨#[120]⟩))])) w_8 fun f2j p5 =>
 oP E (xV (Instr.buildSlice 51 2 #[(0, d1W), (1, f2j)])) p5 fun c0B q8 =>
 oP E (xV (Instr.build 53 #[(0, (vI 8)), (3, c0B)])) q8 fun c8y p6 =>
 oP E (xCall (fC 21) [c8y]) p6 fun b0D r8 =>
 oP E (eX b0D 0) r8 fun b2z s8 =>
 oP E (eX b0D 1) s8 fun a4O r9 =>
 oP E (xV (Instr.alloc 53 true (.tuple #[]))) r9 fun d4Z u7 =>
 oP E (sA 53 d4Z b2z) u7 fun _z_23 u4 =>
 oP E (xCall (fC 22) [(vI 1)]) u4 fun a9x z2 =>
 oP E (xCall (fC 22) [(vI 2)]) z2 fun e1y B3 =>
 oP E (xV (Instr.buildSlice 51 2 #[(0, a9x), (1, e1y)])) B3 fun e1z C4 =>
 oP E (xV (Instr.build 59 #[(0, (vI 3)), (1, (vI 1)), (2, e1z)])) C4 fun e1A B6 =>
 oP E (xCall (fC 23) [e1A]) B6 fun c4z A6 =>
 oP E (eX c4z 0) A6 fun c8J I7 =>
 oP E (eX c4z 1) I7 fun c8K C7 =>
 oP E (xV (Instr.alloc 59 true (.tuple #[]))) C7 fun g5e I4 =>
 oP E (sA 59 g5e c8J) I4 fun _z_41 E8 =>
 oP E (xBin .eql 27 (.tmp 24) (.const (vI 0)) a4O (vI 0)) E8 fun c0w E4 =>
 oP E (gsem (asB c0w) true (xBin .eql 27 (.tmp 27) (.const (vI 0)) (gval (asB c0w) true c8K) (vI 0))) E4 fun i8I N1 =>
 oP E (xPick c0w i8I (vB false)) N1 fun c4Y M6 =>
 oP E (gsem (asB c4Y) true (fA 53 d4Z 0)) M6 fun e0J L8 =>
 oP E (gsem (asB c4Y) true (lA 3 e0J)) L8 fun c8j N0 =>
 oP E (gsem (asB c4Y) true (xBin .eql 3 (.tmp 32) (.const (vI 8)) c8j (vI 8))) N0 fun c8k K5 =>
 oP E (xPick c4Y c8k (vB false)) K5 fun c0k N4 =>
 oP E (gsem (asB c0k) true (fA 53 d4Z 3)) N4 fun c8q L4 =>
 oP E (gsem (asB c0k) true (lA 51 c8q)) L4 fun i8J Q3 =>
 oP E (gsem (asB c0k) true (xBuiltin .len #[51] 3 [false] [i8J])) Q3 fun i8K R5 =>
 oP E (gsem (asB c0k) true (xBin .eql 3 (.tmp 38) (.const (vI 2)) i8K (vI 2))) R5 fun i8L Q5 =>
 oP E (xPick c0k i8L (vB false)) Q5 fun c1S V0 =>
 oP E (gsem (asB c1S) true (fA 53 d4Z 3)) V0 fun i8M T2 =>
 oP E (gsem (asB c1S) true (lA 51 i8M)) T2 fun i8N T7 =>
 oP E (gsem (asB c1S) true (iA 51 i8N (vI 0))) T7 fun i8O Z0 =>
 oP E (gsem (asB c1S) true (fA 53 i8O 0)) Z0 fun i8P Z1 =>
 oP E (gsem (asB c1S) true (lA 3 i8P)) Z1 fun e1C Z2 =>
 oP E (gsem (asB c1S) true (xBin .eql 3 (.tmp 46) (.const (vI 1)) e1C (vI 1))) Z2 fun i8Q X1 =>
 oP E (xPick c1S i8Q (vB false)) X1 fun c1T Y5 =>
 oP E (gsem (asB c1T) true (fA 53 d4Z 3)) Y5 fun e4z a0f =>
 oP E (gsem (asB c1T) true (lA 51 e4z)) a0f fun i8R Z3 =>
 oP E (gsem (asB c1T) true (iA 51 i8R (vI 0))) Z3 fun i8S a0g =>
 oP E (gsem (asB c1T) true (fA 53 i8S 1)) a0g fun e1s Z4 =>
 oP E (gsem (asB c1T) true (lA 2 e1s)) Z4 fun e1t a1Q =>
 oP E (gsem (asB c1T) true (xBin .eql 2 (.tmp 54) (.const (vI 3)) e1t (vI 3))) a1Q fun e1u a2K =>
 oP E (xPick c1T e1u (vB false)) a2K fun d5a V4 =>
 oP E (gsem (asB d5a) true (fA 59 g5e 0)) V4 fun i8T a3u =>
 oP E (gsem (asB d5a) true (lA 3 i8T)) a3u fun i8U a6m =>
 oP E (gsem (asB d5a) true (xBin .eql 3 (.tmp 59) (.const (vI 1)) i8U (vI 1))) a6m fun i8V a1H =>
 oP E (xPick d5a i8V (vB false)) a1H fun h1T a1I =>
 R h1T a1I
noncomputable def c8 : Code := Tryz.f8.body.getD .skip
def h8 : Hint := (sQ (sQ (sQ (sQ .none))))
theorem j6M (w : World) (R : RT) (E : Pan) : F8  w R E = callX Tryz.prog [.tmp 0] c8 h8 [] w R E := by kernel_rfl
theorem j6N (h : F8  w R E) : Cv Tryz.prog 8 #[] w R E := by
 refine k3 (args := []) (c := c8) (h := h8) (rs := [.tmp 0]) Tryz.func8 (by kernel_rfl) (by kernel_rfl) (Nat.zero_le _) (by kernel_rfl) (by kernel_rfl) (by kernel_rfl) ?_
 rw [← j6M]
 exact h
noncomputable def c9 : Code := Tryz.f9.body.getD .skip
def h9 : Hint := (sQ (.seq (sQ (sQ (.cond (sQ .none) .none))) (.seq (sQ (.cond (sQ .none) .none)) (.seq (.reg [(0, 1048576, 4), (1, 2097152, 1048576), (0, 4194304, 4), (4, 8388608, 4194304), (0, 16777216, 2), (24, 33554432, 25165824), (34, 67108864, 35651584), (96, 134217728, 67108864), (128, 268435456, 134217728), (128, 536870912, 134217728), (1023, 0, 268435472), (2047, 32, 536870912)] [10, 8, 10, 2, 10, 2, 10, 0, 10, 10, 0, 10] (.early 0 (.early 2 (.early 4 (.load 1 (.load 3 (.step 5 (.early 6 (.step 7 (.early 8 (.early 9 (.step 10 (.early 11 .done))))))))))))) .none))))
noncomputable def c10 : Code := Tryz.f10.body.getD .skip
def F12 (x0 : Value) (w : World) (R : RT) (E : Pan) : Prop :=
 oP E (xV (Instr.box 25 x0)) w fun q7 w_2 =>
 oP E (xV (Instr.alloc 25 true (.tuple #[]))) w_2 fun K6 w_4 =>
 oP E (lA 25 q7) w_4 fun b2y w_6 =>
 oP E (xCall (fC 25) [b2y]) w_6 fun b1Z w_8 =>
 oP E (eX b1Z 0) w_8 fun b8N p5 =>
 oP E (eX b1Z 1) p5 fun b3T q8 =>
 oP E (xV (Instr.alloc 25 true (.tuple #[]))) q8 fun d9d p6 =>
 oP E (sA 25 d9d b8N) p6 fun _z_15 r8 =>
 oP E (xBin .neq 27 (.tmp 11) (.const (vI 0)) b3T (vI 0)) r8 fun b5G s8 =>
 xcond b5G
 (oP E (xV (Instr.build 25 #[])) s8 fun b2B r9 =>
 oP E (sA 25 K6 b2B) r9 fun _z_21 u7 =>
 xcell Tryz.prog 25 K6 u7 fun g2f =>
 R (Value.tuple #[g2f, b3T]) u7)
 (oP E (fA 25 d9d 1) s8 fun e4A b6S =>
 oP E (lA 23 e4A) b6S fun i8W a3k =>
 oP E (xCall (fC 31) [i8W]) a3k fun e1p a4y =>
 oP E (fA 25 d9d 1) a4y fun i8X b2w =>
 oP E (sA 23 i8X e1p) b2w fun _z_32 b6T =>
 oP E (lA 25 d9d) b6T fun i8Y b6U =>
 oP E (sA 25 K6 i8Y) b6U fun _z_36 b2x =>
 xcell Tryz.prog 25 K6 b2x fun k3w =>
 R (Value.tuple #[k3w, (vI 0)]) b2x)
noncomputable def c12 : Code := Tryz.f12.body.getD .skip
def h12 : Hint := (sQ (sQ (.seq (sQ (.cond (sQ .none) .none)) (sQ (sQ .none)))))
theorem i8Z (x0 : Value) (w : World) (R : RT) (E : Pan) : F12 x0 w R E = callX Tryz.prog [.cell 2 25, .tmp 3] c12 h12 [x0] w R E := by kernel_rfl
theorem i9a {x0 : Value} (h : F12 x0 w R E) : Cv Tryz.prog 12 #[x0] w R E := by
 refine k3 (args := [x0]) (c := c12) (h := h12) (rs := [.cell 2 25, .tmp 3]) Tryz.func12 (by kernel_rfl) (by kernel_rfl) (nB (by kernel_rfl)) (by kernel_rfl) (by kernel_rfl) (by kernel_rfl) ?_
 rw [← i8Z]
 exact h
def F13 (x0 : Value) (w : World) (R : RT) (E : Pan) : Prop :=
 oP E (xV (Instr.box 25 x0)) w fun q7 w_2 =>
 oP E (xV (Instr.alloc 25 true (.tuple #[]))) w_2 fun K6 w_4 =>
 oP E (lA 25 q7) w_4 fun b6X w_6 =>
 oP E (xCall (fC 27) [b6X]) w_6 fun a7G w_8 =>
 oP E (xBin .neq 3 (.tmp 7) (.const (vI 0)) a7G (vI 0)) w_8 fun a6Z p5 =>
 xcond a6Z
 (oP E (xV (Instr.build 25 #[])) p5 fun a4S q8 =>
 oP E (sA 25 K6 a4S) q8 fun _z_13 p6 =>
 xcell Tryz.prog 25 K6 p6 fun b6R =>
 R (Value.tuple #[b6R, a7G]) p6)
 (dX p5 fun r8 =>
 qP Tryz.prog (fA 25 q7 0) fun a7e =>
 qP Tryz.prog (fA 25 q7 1) fun c1U =>
 qL Tryz.prog r8 (blk a7e) (lA 22 a7e) fun b3V =>
 qL Tryz.prog r8 (blk c1U) (lA 23 c1U) fun c1V =>
 oP E (xBuiltin .append #[22, 22] 22 [true, false] [(nS), b3V]) r8 fun c9D u7 =>
 keepX [(blk c1U)] r8 u7 (opK Tryz.prog E (xCall (fC 32) [c1V]) u7 fun c0u u4 =>
 keepX [] u7 u4 (qP Tryz.prog (xV (Instr.build 25 #[(0, c9D), (1, c0u)])) fun a9x =>
 oP E (sA 25 K6 a9x) u4 fun _z_26 a3k =>
 keepX [] u4 a3k (xcell Tryz.prog 25 K6 a3k fun g2g =>
 R (Value.tuple #[g2g, (vI 0)]) a3k))))
noncomputable def c13 : Code := Tryz.f13.body.getD .skip
def h13 : Hint := (sQ (sQ (.seq (sQ (.cond (sQ .none) .none)) (.seq (.reg [(0, 2048, 2), (1, 4096, 2048), (2, 8192, 4096), (0, 16384, 2), (8, 32768, 16384), (20, 65536, 32768), (36, 131072, 73728), (127, 0, 131076), (255, 8, 0)] [18, 16, 16, 18, 2, 0, 18, 0, 18] (.early 0 (.early 3 (.load 1 (.load 4 (.step 2 (.step 5 (.early 6 (.step 7 (.early 8 .done)))))))))) .none))))
theorem i9b (x0 : Value) (w : World) (R : RT) (E : Pan) : F13 x0 w R E = callX Tryz.prog [.cell 2 25, .tmp 3] c13 h13 [x0] w R E := by kernel_rfl
theorem i9c {x0 : Value} (h : F13 x0 w R E) : Cv Tryz.prog 13 #[x0] w R E := by
 refine k3 (args := [x0]) (c := c13) (h := h13) (rs := [.cell 2 25, .tmp 3]) Tryz.func13 (by kernel_rfl) (by kernel_rfl) (nB (by kernel_rfl)) (by kernel_rfl) (by kernel_rfl) (by kernel_rfl) ?_
 rw [← i9b]
 exact h
def F21 (x0 : Value) (w : World) (R : RT) (E : Pan) : Prop :=
 oP E (xV (Instr.box 53 x0)) w fun q7 w_2 =>
 oP E (xV (Instr.alloc 53 true (.tuple #[]))) w_2 fun K6 w_4 =>
 oP E (lA 53 q7) w_4 fun b6X w_6 =>
 oP E (xCall (fC 39) [b6X]) w_6 fun a7G w_8 =>
 oP E (xBin .neq 27 (.tmp 7) (.const (vI 0)) a7G (vI 0)) w_8 fun a6Z p5 =>
 xcond a6Z
 (oP E (xV (Instr.build 53 #[])) p5 fun a4S q8 =>
 oP E (sA 53 K6 a4S) q8 fun _z_13 p6 =>
 xcell Tryz.prog 53 K6 p6 fun b6R =>
 R (Value.tuple #[b6R, a7G]) p6)
 (oP E (lA 53 q7) p5 fun b5z a1B =>
 oP E (xCall (fC 40) [b5z]) a1B fun e4B a1R =>
 oP E (sA 53 K6 e4B) a1R fun _z_20 a5B =>
 xcell Tryz.prog 53 K6 a5B fun g2h =>
 R (Value.tuple #[g2h, (vI 0)]) a5B)
noncomputable def c21 : Code := Tryz.f21.body.getD .skip
def h21 : Hint := (sQ (.seq (sQ (sQ (.cond (sQ .none) .none))) (sQ .none)))
theorem i9d (x0 : Value) (w : World) (R : RT) (E : Pan) : F21 x0 w R E = callX Tryz.prog [.cell 2 53, .tmp 3] c21 h21 [x0] w R E := by kernel_rfl
theorem i9e {x0 : Value} (h : F21 x0 w R E) : Cv Tryz.prog 21 #[x0] w R E := by
 refine k3 (args := [x0]) (c := c21) (h := h21) (rs := [.cell 2 53, .tmp 3]) Tryz.func21 (by kernel_rfl) (by kernel_rfl) (nB (by kernel_rfl)) (by kernel_rfl) (by kernel_rfl) (by kernel_rfl) ?_
 rw [← i9d]
 exact h
def F22 (x0 : Value) (w : World) (R : RT) (E : Pan) : Prop :=
 oP E (xV (Instr.alloc 53 true (.tuple #[]))) w fun U3 w_2 =>
 oP E (xV (Instr.build 53 #[(0, (vI 1)), (1, x0)])) w_2 fun a8F w_4 =>
 oP E (sA 53 U3 a8F) w_4 fun _z_5 w_6 =>
 xcell Tryz.prog 53 U3 w_6 fun r_7 =>
 R r_7 w_6
noncomputable def c22 : Code := Tryz.f22.body.getD .skip
def h22 : Hint := (sQ (sQ .none))
theorem i9f (x0 : Value) (w : World) (R : RT) (E : Pan) : F22 x0 w R E = callX Tryz.prog [.cell 2 53] c22 h22 [x0] w R E := by kernel_rfl
theorem i9g {x0 : Value} (h : F22 x0 w R E) : Cv Tryz.prog 22 #[x0] w R E := by
 refine k3 (args := [x0]) (c := c22) (h := h22) (rs := [.cell 2 53]) Tryz.func22 (by kernel_rfl) (by kernel_rfl) (nB (by kernel_rfl)) (by kernel_rfl) (by kernel_rfl) (by kernel_rfl) ?_
 rw [← i9f]
 exact h
def F23 (x0 : Value) (w : World) (R : RT) (E : Pan) : Prop :=
 oP E (xV (Instr.box 59 x0)) w fun q7 w_2 =>
 oP E (xV (Instr.alloc 59 true (.tuple #[]))) w_2 fun K6 w_4 =>
 oP E (lA 59 q7) w_4 fun b6X w_6 =>
 oP E (xCall (fC 41) [b6X]) w_6 fun a7G w_8 =>
 oP E (xBin .neq 27 (.tmp 7) (.const (vI 0)) a7G (vI 0)) w_8 fun a6Z p5 =>
 xcond a6Z
 (oP E (xV (Instr.build 59 #[])) p5 fun a4S q8 =>
 oP E (sA 59 K6 a4S) q8 fun _z_13 p6 =>
 xcell Tryz.prog 59 K6 p6 fun b6R =>
 R (Value.tuple #[b6R, a7G]) p6)
 (oP E (lA 59 q7) p5 fun b5z a1B =>
 oP E (xCall (fC 42) [b5z]) a1B fun e4B a1R =>
 oP E (sA 59 K6 e4B) a1R fun _z_20 a5B =>
 xcell Tryz.prog 59 K6 a5B fun g2h =>
 R (Value.tuple #[g2h, (vI 0)]) a5B)
noncomputable def c23 : Code := Tryz.f23.body.getD .skip
def h23 : Hint := (sQ (.seq (sQ (sQ (.cond (sQ .none) .none))) (sQ .none)))
theorem i9h (x0 : Value) (w : World) (R : RT) (E : Pan) : F23 x0 w R E = callX Tryz.prog [.cell 2 59, .tmp 3] c23 h23 [x0] w R E := by kernel_rfl
theorem i9i {x0 : Value} (h : F23 x0 w R E) : Cv Tryz.prog 23 #[x0] w R E := by
 refine k3 (args := [x0]) (c := c23) (h := h23) (rs := [.cell 2 59, .tmp 3]) Tryz.func23 (by kernel_rfl) (by kernel_rfl) (nB (by kernel_rfl)) (by kernel_rfl) (by kernel_rfl) (by kernel_rfl) ?_
 rw [← i9h]
 exact h
def e4C (x3 : Value) (w : World) (R : RT) (_E : Pan) : Prop :=
 ∀ _τ : Fr, (R x3 w)
def f7y (x3 x6 x7 x8 : Value) (w : World) (next2 : NT) (j1 : NT) (_R : RT) (E : Pan) : Prop :=
 oP E (xBin .lss 3 (.tmp 8) (.tmp 7) x8 x7) w fun c5D w_6 =>
 xcond c5D
 (oP E (iA 23 x6 x8) w_6 fun c7c w_8 =>
 oP E (lA 73 c7c) w_8 fun b0j p5 =>
 oP E (xV (Instr.alloc 73 true (.tuple #[]))) p5 fun g5f q8 =>
 oP E (sA 73 g5f b0j) q8 fun _z_13 p6 =>
 oP E (lA 73 g5f) p6 fun b0D r8 =>
 oP E (xCall (fC 54) [b0D]) r8 fun b2z s8 =>
 oP E (xBuiltin .append #[23, 23] 23 [false, false] [x3, b2z]) s8 fun a4O r9 =>
 oP E (xBin .add 3 (.tmp 8) (.const (vI 1)) x8 (vI 1)) r9 fun a6d u7 =>
 next2 [a4O, a6d] u7)
 (j1 [x3] w_6)
def F31 (x0 : Value) (w : World) (R : RT) (E : Pan) : Prop :=
 xcut (fun l_1 w_2 => e4C (nth l_1 0) w_2 R E) fun j1 =>
 oP E (xBuiltin .len #[23] 3 [false] [x0]) w fun b1d w_4 =>
 xloop [3, 8] [(nS), (vI 0)] w_4 fun τ_23 u4 next2 =>
 f7y (τ_23 3) x0 b1d (τ_23 8) u4 next2 j1 R E
noncomputable def c31 : Code := Tryz.f31.body.getD .skip
def h31 : Hint := (sQ (sQ (.cut [3] (sQ (.block (.loop [3, 8] (sQ (.seq (.cond .none .none) (.seq (.block (sQ .none)) .none)))))) (sQ .none))))
theorem i9j (x0 : Value) (w : World) (R : RT) (E : Pan) : F31 x0 w R E = callX Tryz.prog [.tmp 2] c31 h31 [x0] w R E := by kernel_rfl
theorem i9k {x0 : Value} (h : F31 x0 w R E) : Cv Tryz.prog 31 #[x0] w R E := by
 refine k3 (args := [x0]) (c := c31) (h := h31) (rs := [.tmp 2]) Tryz.func31 (by kernel_rfl) (by kernel_rfl) (nB (by kernel_rfl)) (by kernel_rfl) (by kernel_rfl) (by kernel_rfl) ?_
 rw [← i9j]
 exact h
def e4D (x3 : Value) (w : World) (R : RT) (_E : Pan) : Prop :=
 ∀ _τ : Fr, (R x3 w)
def e4E (_x0 x3 x4 : Value) (w : World) (next2 : NT) (_R : RT) (E : Pan) : Prop :=
 ∀ _τ : Fr, (oP E (xBin .add 3 (.tmp 13) (.const (vI 1)) x4 (vI 1)) w fun a3J w_8 =>
 next2 [x3, a3J] w_8)
def e4F (_x0 x3 _x4 x5 x8 x99 : Value) (w : World) (j3 : NT) (_R : RT) (E : Pan) : Prop :=
 ∀ _τ : Fr, (xcond x99
 (j3 [x3] w)
 (oP E (fA 73 x5 0) w fun h1U q8 =>
 oP E (lA 3 h1U) q8 fun h1V p6 =>
 oP E (xBin .eql 3 (.tmp 119) (.const (vI 3)) h1V (vI 3)) p6 fun d7A r8 =>
 oP E (gsem (asB d7A) true (xBin .eql 3 (.tmp 122) (.const (vI 1)) (gval (asB d7A) true x8) (vI 1))) r8 fun h1W s8 =>
 oP E (xPick d7A h1W (vB false)) s8 fun h1X r9 =>
 xcond h1X
 (oP E (fA 73 x5 4) r9 fun h1Y u7 =>
 oP E (lA 23 h1Y) u7 fun h1Z u4 =>
 oP E (xBuiltin .append #[23, 23] 23 [false, false] [x3, h1Z]) u4 fun h2a z2 =>
 j3 [h2a] z2)
 (oP E (fA 73 x5 0) r9 fun h2b B3 =>
 oP E (lA 3 h2b) B3 fun h2c C4 =>
 oP E (xBin .eql 3 (.tmp 131) (.const (vI 3)) h2c (vI 3)) C4 fun d7B B6 =>
 oP E (gsem (asB d7B) true (xBin .eql 3 (.tmp 134) (.const (vI 2)) (gval (asB d7B) true x8) (vI 2))) B6 fun h2d A6 =>
 oP E (xPick d7B h2d (vB false)) A6 fun h2e I7 =>
 xcond h2e
 (oP E (fA 73 x5 5) I7 fun h2f C7 =>
 oP E (lA 23 h2f) C7 fun h2g I4 =>
 oP E (xBuiltin .append #[23, 23] 23 [false, false] [x3, h2g]) I4 fun h2h E8 =>
 j3 [h2h] E8)
 (oP E (lA 73 x5) I7 fun i9l E4 =>
 oP E (xV (Instr.buildSlice 23 1 #[(0, i9l)])) E4 fun i9m N1 =>
 oP E (xBuiltin .append #[23, 23] 23 [false, false] [x3, i9m]) N1 fun i9n M6 =>
 j3 [i9n] M6))))
def e4G (x0 x3 x4 x5 x8 : Value) (w : World) (j3 : NT) (R : RT) (E : Pan) : Prop :=
 ∀ _τ : Fr, (xcut (fun d6Y L8 => e4F x0 x3 x4 x5 x8 (nth d6Y 0) L8 j3 R E) fun j8 =>
 oP E (fA 73 x5 0) w fun h2i N0 =>
 oP E (lA 3 h2i) N0 fun h2j K5 =>
 oP E (xBin .eql 3 (.tmp 101) (.const (vI 7)) h2j (vI 7)) K5 fun e7e N4 =>
 xcond e7e
 (j8 [e7e] N4)
 (oP E (fA 73 x5 0) N4 fun h2k L4 =>
 oP E (lA 3 h2k) L4 fun h2l Q3 =>
 oP E (xBin .eql 3 (.tmp 104) (.const (vI 6)) h2l (vI 6)) Q3 fun d7C R5 =>
 oP E (gsem (asB d7C) true (xBin .eql 3 (.tmp 107) (.const (vI 1)) (gval (asB d7C) true x8) (vI 1))) R5 fun h2m Q5 =>
 oP E (xPick d7C h2m (vB false)) Q5 fun e7f V0 =>
 xcond e7f
 (j8 [e7f] V0)
 (oP E (fA 73 x5 0) V0 fun h2n T2 =>
 oP E (lA 3 h2n) T2 fun h2o T7 =>
 oP E (xBin .eql 3 (.tmp 111) (.const (vI 4)) h2o (vI 4)) T7 fun d7D Z0 =>
 oP E (gsem (asB d7D) true (xBin .eql 3 (.tmp 114) (.const (vI 2)) (gval (asB d7D) true x8) (vI 2))) Z0 fun h2p Z1 =>
 oP E (xPick d7D h2p (vB false)) Z1 fun h2q Z2 =>
 j8 [h2q] Z2)))
def e4H (x0 x3 x4 x5 : Value) (w : World) (j3 : NT) (R : RT) (E : Pan) : Prop :=
 ∀ _τ : Fr, (xcut (fun k3x X1 => e4G x0 x3 x4 x5 (nth k3x 0) X1 j3 R E) fun j7 =>
 oP E (fA 73 x5 3) w fun i9o Y5 =>
 oP E (lA 57 i9o) Y5 fun i9p a0f =>
 oP E (xBuiltin .len #[57] 3 [false] [i9p]) a0f fun i9q Z3 =>
 oP E (xBin .gtr 3 (.tmp 88) (.const (vI 0)) i9q (vI 0)) Z3 fun i9r a0g =>
 xcond i9r
 (oP E (fA 73 x5 3) a0g fun i9s Z4 =>
 oP E (lA 57 i9s) Z4 fun i9t a1Q =>
 oP E (iA 57 i9t (vI 0)) a1Q fun i9u a2K =>
 oP E (fA 59 i9u 0) a2K fun i9v V4 =>
 oP E (lA 3 i9v) V4 fun i9w a3u =>
 j7 [i9w] a3u)
 (j7 [(vI 0)] a0g))
def f7z (x0 _x3 x4 x5 x7 : Value) (w : World) (next9 : NT) (j6 : NT) (_R : RT) (E : Pan) : Prop :=
 oP E (iA 23 x0 x4) w fun i9x a1H =>
 oP E (fA 73 i9x 2) a1H fun h2r a1I =>
 oP E (lA 51 h2r) a1I fun h2s a3H =>
 oP E (xBuiltin .len #[51] 3 [false] [h2s]) a3H fun h2t a3I =>
 oP E (xBin .lss 3 (.tmp 62) (.tmp 68) x7 h2t) a3I fun h2u a7p =>
 xcond h2u
 (dX a7p fun a9J =>
 qP Tryz.prog (fA 73 x5 2) fun d0K =>
 qP Tryz.prog (iA 23 x0 x4) fun h2v =>
 qP Tryz.prog (fA 73 h2v 2) fun e7g =>
 qL Tryz.prog a9J (blk d0K) (lA 51 d0K) fun h2w =>
 qL Tryz.prog a9J (blk e7g) (lA 51 e7g) fun h2x =>
 qP Tryz.prog (iA 51 h2x x7) fun e7h =>
 qL Tryz.prog a9J (blk e7h) (lA 53 e7h) fun h2y =>
 oP E (xCall (fC 56) [h2y]) a9J fun h2z a6L =>
 keepX [(blk d0K)] a9J a6L (opK Tryz.prog E (xV (Instr.buildSlice 51 1 #[(0, h2z)])) a6L fun h2A a4j =>
 keepX [(blk d0K)] a6L a4j (opK Tryz.prog E (xBuiltin .append #[51, 51] 51 [false, false] [h2w, h2A]) a4j fun h2B a2J =>
 keepX [] a4j a2J (qP Tryz.prog (fA 73 x5 2) fun h2C =>
 oP E (sA 51 h2C h2B) a2J fun _z_124 f2k =>
 keepX [] a2J f2k (opK Tryz.prog E (xBin .add 3 (.tmp 70) (.const (vI 1)) x7 (vI 1)) f2k fun h2D g5g =>
 next9 [h2D] g5g)))))
 (j6 [] a7p)
def e4I (x0 x3 x4 x5 : Value) (w : World) (j3 : NT) (R : RT) (E : Pan) : Prop :=
 ∀ _τ : Fr, (xcut (fun _ a6m => e4H x0 x3 x4 x5 a6m j3 R E) fun j6 =>
 xloop [7] [(vI 0)] w fun τ_128 j6O next9 =>
 f7z x0 x3 x4 x5 (τ_128 7) j6O next9 j6 R E)
def e7i (x0 _x3 x4 x5 x6 : Value) (w : World) (next10 : NT) (j5 : NT) (_R : RT) (E : Pan) : Prop :=
 oP E (iA 23 x0 x4) w fun h2E b7O =>
 oP E (fA 73 h2E 3) b7O fun h2F g5h =>
 oP E (lA 57 h2F) g5h fun h2G g4J =>
 oP E (xBuiltin .len #[57] 3 [false] [h2G]) g4J fun h2H g5i =>
 oP E (xBin .lss 3 (.tmp 38) (.tmp 44) x6 h2H) g5i fun h2I f2l =>
 xcond h2I
 (dX f2l fun a4W =>
 qP Tryz.prog (fA 73 x5 3) fun d0L =>
 qP Tryz.prog (iA 23 x0 x4) fun h2J =>
 qP Tryz.prog (fA 73 h2J 3) fun e7j =>
 qL Tryz.prog a4W (blk d0L) (lA 57 d0L) fun h2K =>
 qL Tryz.prog a4W (blk e7j) (lA 57 e7j) fun h2L =>
 qP Tryz.prog (iA 57 h2L x6) fun e7k =>
 qL Tryz.prog a4W (blk e7k) (lA 59 e7k) fun h2M =>
 oP E (xCall (fC 55) [h2M]) a4W fun h2N b2j =>
 keepX [(blk d0L)] a4W b2j (opK Tryz.prog E (xV (Instr.buildSlice 57 1 #[(0, h2N)])) b2j fun h2O c7d =>
 keepX [(blk d0L)] b2j c7d (opK Tryz.prog E (xBuiltin .append #[57, 57] 57 [false, false] [h2K, h2O]) c7d fun h2P c3b =>
 keepX [] c7d c3b (qP Tryz.prog (fA 73 x5 3) fun h2Q =>
 oP E (sA 57 h2Q h2P) c3b fun _z_157 b7P =>
 keepX [] c3b b7P (opK Tryz.prog E (xBin .add 3 (.tmp 46) (.const (vI 1)) x6 (vI 1)) b7P fun h2R f0g =>
 next10 [h2R] f0g)))))
 (j5 [] f2l)
def e4J (x0 x3 x4 x5 : Value) (w : World) (j3 : NT) (R : RT) (E : Pan) : Prop :=
 ∀ _τ : Fr, (xcut (fun _ e9f => e4I x0 x3 x4 x5 e9f j3 R E) fun j5 =>
 xloop [6] [(vI 0)] w fun τ_161 f0l next10 =>
 e7i x0 x3 x4 x5 (τ_161 6) f0l next10 j5 R E)
def f7A (x0 x3 x4 : Value) (w : World) (next2 : NT) (j1 : NT) (R : RT) (E : Pan) : Prop :=
 oP E (xBuiltin .len #[23] 3 [false] [x0]) w fun a4X w_4 =>
 oP E (xBin .lss 3 (.tmp 9) (.tmp 11) x4 a4X) w_4 fun b1g w_6 =>
 xcond b1g
 (xcut (fun l_9 p5 => e4E x0 (nth l_9 0) x4 p5 next2 R E) fun j3 =>
 xcut (fun g4Y d0h => e4J x0 x3 x4 (nth g4Y 0) d0h j3 R E) fun j4 =>
 dX w_6 fun a9v =>
 qP Tryz.prog (iA 23 x0 x4) fun h2S =>
 qP Tryz.prog (fA 73 h2S 0) fun b1W =>
 qP Tryz.prog (iA 23 x0 x4) fun h2T =>
 qP Tryz.prog (fA 73 h2T 1) fun b1X =>
 qP Tryz.prog (iA 23 x0 x4) fun h2U =>
 qP Tryz.prog (fA 73 h2U 4) fun c4Z =>
 qP Tryz.prog (iA 23 x0 x4) fun h2V =>
 qP Tryz.prog (fA 73 h2V 5) fun b7H =>
 qL Tryz.prog a9v (blk b1W) (lA 3 b1W) fun d7E =>
 qL Tryz.prog a9v (blk b1X) (lA 9 b1X) fun d7F =>
 qL Tryz.prog a9v (blk c4Z) (lA 23 c4Z) fun e7l =>
 qL Tryz.prog a9v (blk b7H) (lA 23 b7H) fun d7G =>
 (oP E (xCall (fC 32) [e7l]) a9v fun e7m c7e =>
 keepX [(blk b7H), (blk b1X), (blk b1W)] a9v c7e ((oP E (xCall (fC 32) [d7G]) c7e fun h2W d5b =>
 keepX [(blk b1X), (blk b1W)] c7e d5b (qP Tryz.prog (xV (Instr.build 73 #[(0, d7E), (1, d7F), (4, e7m), (5, h2W)])) fun h2X =>
 oP E (xV (Instr.alloc 73 true (.tuple #[]))) d5b fun f7B c6G =>
 keepX [(blk b7H), (blk c4Z), (blk b1X), (blk b1W)] d5b c6G (opK Tryz.prog E (sA 73 f7B h2X) c6G fun _z_185 c2W =>
 keepX [] c6G c2W (j4 [f7B] c2W)))) ∧
 (oP E (xV (Instr.alloc 73 true (.tuple #[]))) c7e fun f7C b9B =>
 keepX [(blk b7H), (blk c4Z), (blk b1X), (blk b1W)] c7e b9B (opK Tryz.prog E (xCall (fC 32) [d7G]) b9B fun h2Y b5Z =>
 keepX [(blk b1X), (blk b1W)] b9B b5Z (qP Tryz.prog (xV (Instr.build 73 #[(0, d7E), (1, d7F), (4, e7m), (5, h2Y)])) fun h2Z =>
 oP E (sA 73 f7C h2Z) b5Z fun _z_192 f2m =>
 keepX [] b5Z f2m (j4 [f7C] f2m)))))) ∧
 (oP E (xV (Instr.alloc 73 true (.tuple #[]))) a9v fun f7D f2n =>
 keepX [(blk b7H), (blk c4Z), (blk b1X), (blk b1W)] a9v f2n (opK Tryz.prog E (xCall (fC 32) [e7l]) f2n fun h3a f2o =>
 keepX [(blk b7H), (blk b1X), (blk b1W)] f2n f2o (opK Tryz.prog E (xCall (fC 32) [d7G]) f2o fun h3b c3c =>
 keepX [(blk b1X), (blk b1W)] f2o c3c (qP Tryz.prog (xV (Instr.build 73 #[(0, d7E), (1, d7F), (4, h3a), (5, h3b)])) fun h3c =>
 oP E (sA 73 f7D h3c) c3c fun _z_201 c6H =>
 keepX [] c3c c6H (j4 [f7D] c6H))))))
 (j1 [x3] w_6)
def F32 (x0 : Value) (w : World) (R : RT) (E : Pan) : Prop :=
 xcut (fun l_1 w_2 => e4D (nth l_1 0) w_2 R E) fun j1 =>
 xloop [3, 4] [(nS), (vI 0)] w fun τ_203 d4u next2 =>
 f7A x0 (τ_203 3) (τ_203 4) d4u next2 j1 R E
noncomputable def c32 : Code := Tryz.f32.body.getD .skip
def h32 : Hint := (sQ (sQ (.cut [3] (sQ (.block (.loop [3, 4] (.seq (sQ (.cond .none .none)) (.cut [3] (.block (.cut [5] (.reg [(0, 32768, 1), (0, 65536, 16), (3, 131072, 98304), (4, 262144, 131072), (8, 524288, 262144), (0, 1048576, 1), (0, 2097152, 16), (96, 4194304, 3145728), (128, 8388608, 4194304), (256, 16777216, 8388608), (0, 33554432, 1), (0, 67108864, 16), (3072, 134217728, 100663296), (4096, 268435456, 134217728), (8192, 536870912, 268435456), (16384, 1073741824, 536870912), (0, 2147483648, 1), (0, 4294967296, 16), (196608, 8589934592, 6442450944), (262144, 17179869184, 8589934592), (524288, 34359738368, 17179869184), (1081344, 68719476736, 34359738368), (2130448, 137438953472, 69810520064), (0, 32, 0), (16777215, 0, 137438953504)] [1065488, 1065488, 1065488, 1065488, 1065472, 1065488, 1065488, 1065488, 1065488, 1064976, 1065488, 1065488, 1065488, 1065488, 1049104, 1049104, 1065488, 1065488, 1065488, 1065488, 16912, 528, 1065488, 1065488, 0] (.early 0 (.early 1 (.early 2 (.early 3 (.early 5 (.early 6 (.early 7 (.early 8 (.early 10 (.early 11 (.early 12 (.early 13 (.early 16 (.early 17 (.early 18 (.early 19 (.load 4 (.load 9 (.load 14 (.load 20 (.alt 15 (.alt 21 (.early 22 (.step 23 (.step 24 .done))) (.step 23 (.step 21 (.early 22 (.step 24 .done))))) (.step 23 (.step 15 (.step 21 (.early 22 (.step 24 .done))))))))))))))))))))))))))) (.cut [] (sQ (.block (.loop [6] (.seq (sQ (.cond .none .none)) (.seq (.block (.reg [(0, 281474976710656, 32), (1, 562949953421312, 281474976710656), (0, 1125899906842624, 1), (0, 2251799813685248, 16), (12, 4503599627370496, 3377699720527872), (16, 9007199254740992, 4503599627370496), (32, 18014398509481984, 9007199254740992), (0, 36028797018963968, 64), (192, 72057594037927936, 54043195528445952), (256, 144115188075855872, 72057594037927936), (512, 288230376151711744, 144115188075855872), (1024, 576460752303423488, 288230376151711744), (3074, 1152921504606846976, 577023702256844800), (8191, 2305843009213693952, 32), (16383, 0, 3458764513820540928)] [578, 576, 578, 578, 578, 578, 514, 578, 578, 66, 2, 2, 0, 578, 0] (.early 0 (.early 2 (.early 3 (.early 4 (.early 5 (.early 7 (.load 1 (.load 6 (.early 8 (.load 9 (.step 10 (.step 11 (.step 12 (.early 13 (.step 14 .done))))))))))))))))) .none))))) (.cut [] (sQ (.block (.loop [7] (.seq (sQ (.cond .none .none)) (.seq (.block (.reg [(0, 4722366482869645213696, 32), (1, 9444732965739290427392, 4722366482869645213696), (0, 18889465931478580854784, 1), (0, 37778931862957161709568, 16), (12, 75557863725914323419136, 56668397794435742564352), (16, 151115727451828646838272, 75557863725914323419136), (32, 302231454903657293676544, 151115727451828646838272), (0, 604462909807314587353088, 128), (192, 1208925819614629174706176, 906694364710971881029632), (256, 2417851639229258349412352, 1208925819614629174706176), (512, 4835703278458516698824704, 2417851639229258349412352), (1024, 9671406556917033397649408, 4835703278458516698824704), (3074, 19342813113834066795298816, 9680851289882772688076800), (8191, 38685626227668133590597632, 32), (16383, 0, 58028439341502200385896448)] [578, 576, 578, 578, 578, 578, 514, 578, 578, 66, 2, 2, 0, 578, 0] (.early 0 (.early 2 (.early 3 (.early 4 (.early 5 (.early 7 (.load 1 (.load 6 (.early 8 (.load 9 (.step 10 (.step 11 (.step 12 (.early 13 (.step 14 .done))))))))))))))))) .none))))) (sQ (.cut [8] (sQ (.cond .none .none)) (.block (.cut [99] (sQ (.cond .none (sQ (.cond .none .none)))) (.cond .none (sQ (.cond .none (sQ (.cond .none .none))))))))))))) .none))))) (sQ .none))))
theorem i9y (x0 : Value) (w : World) (R : RT) (E : Pan) : F32 x0 w R E = callX Tryz.prog [.tmp 2] c32 h32 [x0] w R E := by kernel_rfl
theorem i9z {x0 : Value} (h : F32 x0 w R E) : Cv Tryz.prog 32 #[x0] w R E := by
 refine k3 (args := [x0]) (c := c32) (h := h32) (rs := [.tmp 2]) Tryz.func32 (by kernel_rfl) (by kernel_rfl) (nB (by kernel_rfl)) (by kernel_rfl) (by kernel_rfl) (by kernel_rfl) ?_
 rw [← i9y]
 exact h
def e4K (x1 x2 : Value) (w : World) (R : RT) (E : Pan) : Prop :=
 ∀ _τ : Fr, (oP E (lA 53 x1) w fun i9A E8 =>
 oP E (sA 53 x2 i9A) E8 fun _z_43 E4 =>
 xcell Tryz.prog 53 x2 E4 fun k3y =>
 R k3y E4)
def e4L (x1 x2 : Value) (w : World) (j1 : NT) (R : RT) (E : Pan) : Prop :=
 ∀ _τ : Fr, (oP E (fA 53 x1 3) w fun i9B d6r =>
 oP E (lA 51 i9B) d6r fun i9C c3w =>
 oP E (iA 51 i9C (vI 1)) c3w fun i9D c3x =>
 oP E (lA 53 i9D) c3x fun i9E b1c =>
 oP E (xCall (fC 70) [i9E, (vI 1)]) b1c fun i9F c3y =>
 xcond i9F
 (oP E (fA 53 x1 3) c3y fun i9G d6s =>
 oP E (lA 51 i9G) d6s fun i9H b4k =>
 oP E (iA 51 i9H (vI 0)) b4k fun i9I b8L =>
 oP E (lA 53 i9I) b8L fun i9J b6V =>
 oP E (sA 53 x2 i9J) b6V fun _z_70 d1V =>
 xcell Tryz.prog 53 x2 d1V fun g2i =>
 R g2i d1V)
 (j1 [] c3y))
def e4M (x1 x2 x7 : Value) (w : World) (j1 : NT) (R : RT) (E : Pan) : Prop :=
 ∀ _τ : Fr, (oP E (fA 53 x1 3) w fun i9K Z2 =>
 oP E (lA 51 i9K) Z2 fun c4A X1 =>
 oP E (iA 51 c4A (vI 1)) X1 fun i9L Y5 =>
 oP E (lA 53 i9L) Y5 fun e4z a0f =>
 oP E (xCall (fC 70) [e4z, x7]) a0f fun e1D Z3 =>
 xcond e1D
 (oP E (fA 53 x1 3) Z3 fun e1E a0g =>
 oP E (lA 51 e1E) a0g fun i9M Z4 =>
 oP E (iA 51 i9M (vI 0)) Z4 fun i9N a1Q =>
 oP E (lA 53 i9N) a1Q fun i9O a2K =>
 oP E (sA 53 x2 i9O) a2K fun _z_93 V4 =>
 xcell Tryz.prog 53 x2 V4 fun k3z =>
 R k3z V4)
 (j1 [] Z3))
def F40 (x0 : Value) (w : World) (R : RT) (E : Pan) : Prop :=
 oP E (xV (Instr.box 53 x0)) w fun q7 w_2 =>
 oP E (xV (Instr.alloc 53 true (.tuple #[]))) w_2 fun K6 w_4 =>
 oP E (fA 53 q7 3) w_4 fun c5B w_6 =>
 oP E (lA 51 c5B) w_6 fun d1W w_8 =>
 oP E (xCall (fC 66) [d1W, (fC 40)]) w_8 fun f2j p5 =>
 oP E (fA 53 q7 3) p5 fun c0B q8 =>
 oP E (sA 51 c0B f2j) q8 fun _z_13 p6 =>
 oP E (lA 53 q7) p6 fun b0D r8 =>
 oP E (xCall (fC 67) [b0D]) r8 fun b2z s8 =>
 oP E (eX b2z 0) s8 fun a4O r9 =>
 oP E (eX b2z 1) r9 fun a6d u7 =>
 xcond a6d
 (oP E (xCall (fC 68) [a4O]) u7 fun e1a u4 =>
 oP E (sA 53 K6 e1a) u4 fun _z_25 z2 =>
 xcell Tryz.prog 53 K6 z2 fun k3A =>
 R k3A z2)
 (oP E (lA 53 q7) u7 fun i9P a4y =>
 oP E (xCall (fC 69) [i9P]) a4y fun f7E b2w =>
 oP E (eX f7E 0) b2w fun i9Q b6T =>
 oP E (eX f7E 1) b6T fun i9R b6U =>
 xcond i9R
 (oP E (xCall (fC 68) [i9Q]) b6U fun i9S b2x =>
 oP E (sA 53 K6 i9S) b2x fun _z_38 b8J =>
 xcell Tryz.prog 53 K6 b8J fun k3B =>
 R k3B b8J)
 (xcut (fun _ b5A => e4K q7 K6 b5A R E) fun j1 =>
 oP E (fA 53 q7 0) b6U fun i9T c5y =>
 oP E (lA 3 i9T) c5y fun d5c c8m =>
 xcut (fun _ Z1 => e4L q7 K6 Z1 j1 R E) fun j2 =>
 xcut (fun _ d3n => e4M q7 K6 (vI 0) d3n j1 R E) fun j3 =>
 oP E (xBin .eql 3 (.tmp 29) (.const (vI 6)) d5c (vI 6)) c8m fun i9U c9y =>
 xcond i9U
 (oP E (fA 53 q7 3) c9y fun h3d d0M =>
 oP E (lA 51 h3d) d0M fun h3e b8f =>
 oP E (iA 51 h3e (vI 0)) b8f fun h3f b9q =>
 oP E (lA 53 h3f) b9q fun h3g b2i =>
 oP E (xCall (fC 70) [h3g, (vI 0)]) b2i fun h3h a9J =>
 xcond h3h
 (oP E (fA 53 q7 3) a9J fun h3i c7f =>
 oP E (lA 51 h3i) c7f fun h3j c3d =>
 oP E (iA 51 h3j (vI 1)) c3d fun h3k b9J =>
 oP E (lA 53 h3k) b9J fun h3l b5x =>
 oP E (sA 53 K6 h3l) b5x fun _z_118 d5d =>
 xcell Tryz.prog 53 K6 d5d fun f2p =>
 R f2p d5d)
 (j3 [] a9J))
 (oP E (xBin .eql 3 (.tmp 29) (.const (vI 7)) d5c (vI 7)) c9y fun h3m a2J =>
 xcond h3m
 (j3 [] a2J)
 (oP E (xBin .eql 3 (.tmp 29) (.const (vI 8)) d5c (vI 8)) a2J fun h3n a7o =>
 xcond h3n
 (oP E (fA 53 q7 3) a7o fun h3o a6J =>
 oP E (lA 51 h3o) a6J fun h3p a7S =>
 oP E (iA 51 h3p (vI 0)) a7S fun h3q a4Q =>
 oP E (lA 53 h3q) a4Q fun h3r a4R =>
 oP E (xCall (fC 70) [h3r, (vI 1)]) a4R fun b7I a7q =>
 oP E (gsem (asB b7I) true (fA 53 q7 3)) a7q fun h3s a7r =>
 oP E (gsem (asB b7I) true (lA 51 h3s)) a7r fun h3t b1e =>
 oP E (gsem (asB b7I) true (iA 51 h3t (vI 1))) b1e fun h3u b1f =>
 oP E (gsem (asB b7I) true (lA 53 h3u)) b1f fun h3v a4W =>
 oP E (gsem (asB b7I) true (xCall (fC 70) [h3v, (vI 1)])) a4W fun h3w a5H =>
 oP E (gsem (asB b7I) true (xV (Op.unary .not h3w))) a5H fun h3x a5G =>
 oP E (xPick b7I h3x (vB false)) a5G fun h3y b3h =>
 xcond h3y
 (oP E (fA 53 q7 3) b3h fun h3z b9o =>
 oP E (lA 51 h3z) b9o fun h3A c2O =>
 oP E (iA 51 h3A (vI 1)) c2O fun h3B c5H =>
 oP E (lA 53 h3B) c5H fun h3C d0b =>
 oP E (sA 53 K6 h3C) d0b fun _z_157 b7P =>
 xcell Tryz.prog 53 K6 b7P fun j6P =>
 R j6P b7P)
 (j2 [] b3h))
 (oP E (xBin .eql 3 (.tmp 29) (.const (vI 9)) d5c (vI 9)) a7o fun h3D b5y =>
 xcond h3D
 (j2 [] b5y)
 (j1 [] b5y))))))
noncomputable def c40 : Code := Tryz.f40.body.getD .skip
def h40 : Hint := (sQ (sQ (.seq (sQ (sQ (.cond (sQ .none) .none))) (.seq (sQ (sQ (.cond (sQ .none) .none))) (sQ (.cut [] (sQ (.block (.cut [] (.block (.seq (.block (.cut [] (.block (.seq (.block (.seq (.seq (sQ (.cond .none .none)) (.seq (sQ (.cond .none .none)) (.seq (sQ (.cond .none .none)) (sQ (.cond .none .none))))) .none)) (sQ (.cond (sQ .none) .none)))) (.seq (sQ (.cond (sQ .none) .none)) .none))) (sQ (.cond (sQ .none) .none)))) (.seq (sQ (.cond (sQ .none) .none)) .none)))) (sQ .none)))))))
theorem i9V (x0 : Value) (w : World) (R : RT) (E : Pan) : F40 x0 w R E = callX Tryz.prog [.cell 2 53] c40 h40 [x0] w R E := by kernel_rfl
theorem i9W {x0 : Value} (h : F40 x0 w R E) : Cv Tryz.prog 40 #[x0] w R E := by
 refine k3 (args := [x0]) (c := c40) (h := h40) (rs := [.cell 2 53]) Tryz.func40 (by kernel_rfl) (by kernel_rfl) (nB (by kernel_rfl)) (by kernel_rfl) (by kernel_rfl) (by kernel_rfl) ?_
 rw [← i9V]
 exact h
def e4N (x1 x2 : Value) (w : World) (R : RT) (E : Pan) : Prop :=
 ∀ _τ : Fr, (oP E (lA 59 x1) w fun i9X a5B =>
 oP E (sA 59 x2 i9X) a5B fun _z_22 b0C =>
 xcell Tryz.prog 59 x2 b0C fun g2j =>
 R g2j b0C)
def F42 (x0 : Value) (w : World) (R : RT) (E : Pan) : Prop :=
 oP E (xV (Instr.box 59 x0)) w fun q7 w_2 =>
 oP E (xV (Instr.alloc 59 true (.tuple #[]))) w_2 fun K6 w_4 =>
 dX w_4 fun w_5 =>
 qP Tryz.prog (fA 59 q7 2) fun i9Y =>
 qP Tryz.prog (fA 59 q7 3) fun b9r =>
 qL Tryz.prog w_5 (blk i9Y) (lA 51 i9Y) fun k3C =>
 qL Tryz.prog w_5 (blk b9r) (lA 57 b9r) fun d0c =>
 oP E (xCall (fC 66) [k3C, (fC 40)]) w_5 fun e4O P0 =>
 keepX [(blk b9r)] w_5 P0 (qP Tryz.prog (fA 59 q7 2) fun i9Z =>
 oP E (xCall (fC 71) [d0c, (fC 42)]) P0 fun c8v p6 =>
 keepX [] P0 p6 (opK Tryz.prog E (sA 51 i9Z e4O) p6 fun _z_15 r8 =>
 keepX [] p6 r8 (qP Tryz.prog (fA 59 q7 3) fun j0a =>
 oP E (sA 57 j0a c8v) r8 fun _z_18 a1R =>
 keepX [] r8 a1R (xcut (fun _ z2 => e4N q7 K6 z2 R E) fun j1 =>
 oP E (fA 59 q7 0) a1R fun j0b B3 =>
 oP E (lA 3 j0b) B3 fun d5e C4 =>
 oP E (xBin .eql 3 (.tmp 17) (.const (vI 3)) d5e (vI 3)) C4 fun c8t B6 =>
 xcond c8t
 (oP E (fA 59 q7 2) B6 fun c4z A6 =>
 oP E (lA 51 c4z) A6 fun c8J I7 =>
 oP E (iA 51 c8J (vI 0)) I7 fun c8K C7 =>
 oP E (lA 53 c8K) C7 fun e1B I4 =>
 oP E (xCall (fC 67) [e1B]) I4 fun f7F E8 =>
 oP E (eX f7F 0) E8 fun j0c E4 =>
 oP E (eX f7F 1) E4 fun f7G N1 =>
 oP E (fA 59 q7 2) N1 fun c4Y M6 =>
 oP E (lA 51 c4Y) M6 fun j0d L8 =>
 oP E (iA 51 j0d (vI 1)) L8 fun j0e N0 =>
 oP E (lA 53 j0e) N0 fun j0f K5 =>
 oP E (xCall (fC 67) [j0f]) K5 fun f7H N4 =>
 oP E (eX f7H 0) N4 fun j0g L4 =>
 oP E (eX f7H 1) L4 fun j0h Q3 =>
 oP E (xPick f7G (gval (asB f7G) true j0h) (vB false)) Q3 fun j0i R5 =>
 xcond j0i
 (oP E (fA 59 q7 1) R5 fun j0j Q5 =>
 oP E (lA 3 j0j) Q5 fun j0k V0 =>
 oP E (xCall (fC 73) [j0k, j0c, j0g]) V0 fun c8F T2 =>
 oP E (xCall (fC 72) [c8F]) T2 fun j0l T7 =>
 oP E (sA 59 K6 j0l) T7 fun _z_71 Z0 =>
 xcell Tryz.prog 59 K6 Z0 fun k3D =>
 R k3D Z0)
 (j1 [] R5))
 (oP E (xBin .eql 3 (.tmp 17) (.const (vI 4)) d5e (vI 4)) B6 fun j0m d6u =>
 xcond j0m
 (oP E (fA 59 q7 3) d6u fun j0n f9i =>
 oP E (lA 57 j0n) f9i fun j0o b8M =>
 oP E (iA 57 j0o (vI 0)) b8M fun j0p g1W =>
 oP E (fA 59 j0p 0) g1W fun j0q j0r =>
 oP E (lA 3 j0q) j0r fun e4P k3E =>
 oP E (xBin .eql 3 (.tmp 53) (.const (vI 1)) e4P (vI 1)) k3E fun e4Q j0s =>
 oP E (gsem (asB e4Q) false (xBin .eql 3 (.tmp 56) (.const (vI 2)) (gval (asB e4Q) false e4P) (vI 2))) j0s fun j0t k3F =>
 oP E (xPick e4Q (vB true) j0t) k3F fun j0u d2f =>
 xcond j0u
 (oP E (xBin .eql 3 (.tmp 59) (.const (vI 2)) e4P (vI 2)) d2f fun j0v g2k =>
 oP E (xCall (fC 72) [j0v]) g2k fun j0w c3z =>
 oP E (sA 59 K6 j0w) c3z fun _z_96 d3n =>
 xcell Tryz.prog 59 K6 d3n fun k3G =>
 R k3G d3n)
 (j1 [] d2f))
 (oP E (xBin .eql 3 (.tmp 17) (.const (vI 5)) d5e (vI 5)) d6u fun j0x a1H =>
 xcond j0x
 (oP E (lA 59 q7) a1H fun h3E a1I =>
 oP E (xCall (fC 74) [h3E, (vI 1), (vI 2)]) a1I fun h3F a3H =>
 oP E (sA 59 K6 h3F) a3H fun _z_105 a3I =>
 xcell Tryz.prog 59 K6 a3I fun j6Q =>
 R j6Q a3I)
 (oP E (xBin .eql 3 (.tmp 17) (.const (vI 6)) d5e (vI 6)) a1H fun h3G a9J =>
 xcond h3G
 (oP E (lA 59 q7) a9J fun h3H c7f =>
 oP E (xCall (fC 74) [h3H, (vI 2), (vI 1)]) c7f fun h3I c3d =>
 oP E (sA 59 K6 h3I) c3d fun _z_114 b9J =>
 xcell Tryz.prog 59 K6 b9J fun j6R =>
 R j6R b9J)
 (j1 [] a9J))))))))
noncomputable def c42 : Code := Tryz.f42.body.getD .skip
def h42 : Hint := (sQ (.seq (.reg [(0, 256, 2), (1, 512, 256), (2, 1024, 512), (0, 2048, 2), (8, 4096, 2048), (20, 8192, 4096), (31, 16384, 2), (127, 0, 17408), (255, 32768, 2), (511, 0, 40960)] [18, 16, 16, 18, 2, 0, 18, 0, 18, 0] (.early 0 (.early 3 (.load 1 (.load 4 (.step 2 (.early 6 (.step 5 (.step 7 (.early 8 (.step 9 .done))))))))))) (.cut [] (sQ (.block (sQ (.cond (sQ (sQ (sQ (.cond (sQ .none) .none)))) (sQ (.cond (sQ (sQ (.cond (sQ .none) .none))) (sQ (.cond (sQ .none) (sQ (.cond (sQ .none) .none)))))))))) (sQ .none))))
theorem j0y (x0 : Value) (w : World) (R : RT) (E : Pan) : F42 x0 w R E = callX Tryz.prog [.cell 2 59] c42 h42 [x0] w R E := by kernel_rfl
theorem j0z {x0 : Value} (h : F42 x0 w R E) : Cv Tryz.prog 42 #[x0] w R E := by
 refine k3 (args := [x0]) (c := c42) (h := h42) (rs := [.cell 2 59]) Tryz.func42 (by kernel_rfl) (by kernel_rfl) (nB (by kernel_rfl)) (by kernel_rfl) (by kernel_rfl) (by kernel_rfl) ?_
 rw [← j0y]
 exact h
def e4R (x1 x3 x21 : Value) (w : World) (R : RT) (E : Pan) : Prop :=
 ∀ _τ : Fr, (xcond x21
 (R (nS) w)
 (oP E (fA 73 x1 0) w fun a7Q I7 =>
 oP E (lA 3 a7Q) I7 fun e4s C7 =>
 oP E (xBin .eql 3 (.tmp 41) (.const (vI 3)) e4s (vI 3)) C7 fun c0o I4 =>
 oP E (gsem (asB c0o) true (xCall (gval (asB c0o) true x3) [(vI 1)])) I4 fun c4P E8 =>
 oP E (xPick c0o c4P (vB false)) E8 fun c9m E4 =>
 xcond c9m
 (oP E (fA 73 x1 4) E4 fun e4t N1 =>
 oP E (lA 23 e4t) N1 fun j0A M6 =>
 R j0A M6)
 (oP E (fA 73 x1 0) E4 fun j0B L8 =>
 oP E (lA 3 j0B) L8 fun j0C N0 =>
 oP E (xBin .eql 3 (.tmp 51) (.const (vI 3)) j0C (vI 3)) N0 fun e4S K5 =>
 oP E (gsem (asB e4S) true (xCall (gval (asB e4S) true x3) [(vI 2)])) K5 fun j0D N4 =>
 oP E (xPick e4S j0D (vB false)) N4 fun j0E L4 =>
 xcond j0E
 (oP E (fA 73 x1 5) L4 fun j0F Q3 =>
 oP E (lA 23 j0F) Q3 fun e3M R5 =>
 R e3M R5)
 (oP E (lA 73 x1) L4 fun j0G Q5 =>
 oP E (xV (Instr.buildSlice 23 1 #[(0, j0G)])) Q5 fun j0H V0 =>
 R j0H V0))))
def F54 (x0 : Value) (w : World) (R : RT) (E : Pan) : Prop :=
 oP E (xV (Instr.box 73 x0)) w fun q7 w_2 =>
 dX w_2 fun w_3 =>
 qP Tryz.prog (fA 73 q7 3) fun j0I =>
 qP Tryz.prog (fA 73 q7 2) fun b2y =>
 qL Tryz.prog w_3 (blk j0I) (lA 57 j0I) fun k3H =>
 qL Tryz.prog w_3 (blk b2y) (lA 51 b2y) fun b1Z =>
 oP E (xCall (fC 71) [k3H, (fC 42)]) w_3 fun k3I w_9 =>
 keepX [(blk b2y)] w_3 w_9 (qP Tryz.prog (fA 73 q7 3) fun e4O =>
 oP E (xCall (fC 66) [b1Z, (fC 40)]) w_9 fun a4S q8 =>
 keepX [] w_9 q8 (opK Tryz.prog E (sA 57 e4O k3I) q8 fun _z_13 p6 =>
 keepX [] q8 p6 (qP Tryz.prog (fA 73 q7 2) fun b5F =>
 oP E (sA 51 b5F a4S) p6 fun _z_16 a1B =>
 keepX [] p6 a1B (dX a1B fun s8 =>
 qP Tryz.prog (fA 73 q7 4) fun b3V =>
 qP Tryz.prog (fA 73 q7 5) fun c1V =>
 qL Tryz.prog s8 (blk b3V) (lA 23 b3V) fun c9D =>
 qL Tryz.prog s8 (blk c1V) (lA 23 c1V) fun j0J =>
 oP E (xCall (fC 31) [c9D]) s8 fun e0L u4 =>
 keepX [(blk c1V)] s8 u4 (qP Tryz.prog (fA 73 q7 4) fun a4P =>
 oP E (xCall (fC 31) [j0J]) u4 fun j0K a3k =>
 keepX [] u4 a3k (opK Tryz.prog E (sA 23 a4P e0L) a3k fun _z_28 a4y =>
 keepX [] a3k a4y (qP Tryz.prog (fA 73 q7 5) fun j0L =>
 oP E (sA 23 j0L j0K) a4y fun _z_31 B6 =>
 keepX [] a4y B6 (opK Tryz.prog E (xV (Instr.makeFunc (.func 93) #[] #[q7])) B6 fun c0v A6 =>
 xcut (fun g2l T2 => e4R q7 c0v (nth g2l 0) T2 R E) fun j1 =>
 oP E (fA 73 q7 0) A6 fun j0M T7 =>
 oP E (lA 3 j0M) T7 fun j0N Z0 =>
 oP E (xBin .eql 3 (.tmp 23) (.const (vI 7)) j0N (vI 7)) Z0 fun f7I Z1 =>
 xcond f7I
 (j1 [f7I] Z1)
 (oP E (fA 73 q7 0) Z1 fun e2Y Z2 =>
 oP E (lA 3 e2Y) Z2 fun e2Z X1 =>
 oP E (xBin .eql 3 (.tmp 26) (.const (vI 6)) e2Z (vI 6)) X1 fun e4T Y5 =>
 oP E (gsem (asB e4T) true (xCall (gval (asB e4T) true c0v) [(vI 1)])) Y5 fun j0O a0f =>
 oP E (xPick e4T j0O (vB false)) a0f fun f7J Z3 =>
 xcond f7J
 (j1 [f7J] Z3)
 (oP E (fA 73 q7 0) Z3 fun j0P a0g =>
 oP E (lA 3 j0P) a0g fun j0Q Z4 =>
 oP E (xBin .eql 3 (.tmp 33) (.const (vI 4)) j0Q (vI 4)) Z4 fun c9k a1Q =>
 oP E (gsem (asB c9k) true (xCall (gval (asB c9k) true c0v) [(vI 2)])) a1Q fun j0R a2K =>
 oP E (xPick c9k j0R (vB false)) a2K fun j0S V4 =>
 j1 [j0S] V4))))))))))
noncomputable def c54 : Code := Tryz.f54.body.getD .skip
def h54 : Hint := (sQ (.seq (.reg [(0, 16, 2), (1, 32, 16), (2, 64, 32), (0, 128, 2), (8, 256, 128), (20, 512, 256), (31, 1024, 2), (127, 0, 1088), (255, 2048, 2), (511, 0, 2560)] [18, 16, 16, 18, 2, 0, 18, 0, 18, 0] (.early 0 (.early 3 (.load 1 (.load 4 (.step 2 (.early 6 (.step 5 (.step 7 (.early 8 (.step 9 .done))))))))))) (.seq (.reg [(0, 4096, 2), (1, 8192, 4096), (2, 16384, 8192), (0, 32768, 2), (8, 65536, 32768), (20, 131072, 65536), (31, 262144, 2), (127, 0, 278528), (255, 524288, 2), (511, 0, 655360)] [18, 16, 16, 18, 2, 0, 18, 0, 18, 0] (.early 0 (.early 3 (.load 1 (.load 4 (.step 2 (.early 6 (.step 5 (.step 7 (.early 8 (.step 9 .done))))))))))) (sQ (.seq (.block (.cut [21] (sQ (.cond .none (sQ (.cond .none .none)))) (.cond (sQ .none) (sQ (.cond (sQ .none) (sQ (.cond (sQ .none) .none))))))) (sQ .none))))))
theorem j0T (x0 : Value) (w : World) (R : RT) (E : Pan) : F54 x0 w R E = callX Tryz.prog [.tmp 2] c54 h54 [x0] w R E := by kernel_rfl
theorem j0U {x0 : Value} (h : F54 x0 w R E) : Cv Tryz.prog 54 #[x0] w R E := by
 refine k3 (args := [x0]) (c := c54) (h := h54) (rs := [.tmp 2]) Tryz.func54 (by kernel_rfl) (by kernel_rfl) (nB (by kernel_rfl)) (by kernel_rfl) (by kernel_rfl) (by kernel_rfl) ?_
 rw [← j0T]
 exact h
def e4U (x2 x3 : Value) (w : World) (R : RT) (E : Pan) : Prop :=
 ∀ _τ : Fr, (oP E (lA 59 x3) w fun h3J r9 =>
 oP E (sA 59 x2 h3J) r9 fun _z_21 u7 =>
 xcell Tryz.prog 59 x2 u7 fun g2f =>
 R g2f u7)
def e4V (x2 x3 x11 x12 : Value) (w : World) (j3 : NT) (R : RT) (E : Pan) : Prop :=
 ∀ _τ : Fr, (oP E (fA 59 x3 3) w fun h3K c9y =>
 oP E (lA 57 h3K) c9y fun g2m d0M =>
 oP E (iA 57 g2m (vI 0)) d0M fun g2n b8f =>
 oP E (fA 59 g2n 0) b8f fun g2o b9q =>
 oP E (lA 3 g2o) b9q fun g2p b2i =>
 oP E (xBin .eql 3 (.tmp 111) (.tmp 112) g2p x11) b2i fun g2q a9J =>
 xcond g2q
 (oP E (fA 59 x3 3) a9J fun g2r c7f =>
 oP E (lA 57 g2r) c7f fun g2s c3d =>
 oP E (iA 57 g2s (vI 1)) c3d fun g2t b9J =>
 oP E (lA 59 g2t) b9J fun g2u b5x =>
 oP E (sA 59 x2 g2u) b5x fun _z_118 d5d =>
 xcell Tryz.prog 59 x2 d5d fun f2p =>
 R f2p d5d)
 (oP E (fA 59 x3 3) a9J fun g2v a2J =>
 oP E (lA 57 g2v) a2J fun g2w a7o =>
 oP E (iA 57 g2w (vI 0)) a7o fun g2x a6J =>
 oP E (fA 59 g2x 0) a6J fun g2y a7S =>
 oP E (lA 3 g2y) a7S fun g2z a4Q =>
 oP E (xBin .eql 3 (.tmp 123) (.tmp 124) g2z x12) a4Q fun g2A a4R =>
 xcond g2A
 (oP E (fA 59 x3 3) a4R fun g2B a7q =>
 oP E (lA 57 g2B) a7q fun g2C a7r =>
 oP E (iA 57 g2C (vI 0)) a7r fun g2D b1e =>
 oP E (lA 59 g2D) b1e fun g2E b1f =>
 oP E (sA 59 x2 g2E) b1f fun _z_141 a4W =>
 xcell Tryz.prog 59 x2 a4W fun j6S =>
 R j6S a4W)
 (oP E (fA 59 x3 3) a4R fun g2F j6T =>
 oP E (lA 57 g2F) j6T fun g2G j6U =>
 oP E (iA 57 g2G (vI 1)) j6U fun g2H f2q =>
 oP E (fA 59 g2H 0) f2q fun g2I b2j =>
 oP E (lA 3 g2I) b2j fun g2J c7d =>
 oP E (xBin .eql 3 (.tmp 135) (.tmp 136) g2J x11) c7d fun g2K c3b =>
 xcond g2K
 (oP E (fA 59 x3 3) c3b fun g2L c2L =>
 oP E (lA 57 g2L) c2L fun g2M c2M =>
 oP E (iA 57 g2M (vI 0)) c2M fun g2N b5y =>
 oP E (lA 59 g2N) b5y fun g2O c9V =>
 oP E (sA 59 x2 g2O) c9V fun _z_164 a9v =>
 xcell Tryz.prog 59 x2 a9v fun j6V =>
 R j6V a9v)
 (j3 [] c3b))))
def e4W (x2 x3 x100 : Value) (w : World) (j3 : NT) (R : RT) (E : Pan) : Prop :=
 ∀ _τ : Fr, (xcond x100
 (xcut (fun g5j f0h => e4V x2 x3 (nth g5j 0) (nth g5j.tail 0) f0h j3 R E) fun j5 =>
 oP E (fA 59 x3 0) w fun g2P b7Y =>
 oP E (lA 3 g2P) b7Y fun g2Q d4s =>
 oP E (xBin .eql 3 (.tmp 104) (.const (vI 6)) g2Q (vI 6)) d4s fun g2R d8J =>
 xcond g2R
 (j5 [(vI 2), (vI 1)] d8J)
 (j5 [(vI 1), (vI 2)] d8J))
 (j3 [] w))
def e4X (x2 x3 : Value) (w : World) (R : RT) (E : Pan) : Prop :=
 ∀ _τ : Fr, (xcut (fun _ b6S => e4U x2 x3 b6S R E) fun j3 =>
 oP E (fA 59 x3 0) w fun j0V a3k =>
 oP E (lA 3 j0V) a3k fun d5f a4y =>
 oP E (xBin .eql 3 (.tmp 55) (.const (vI 3)) d5f (vI 3)) a4y fun j0W b2w =>
 xcond j0W
 (oP E (fA 59 x3 2) b2w fun j0X b6T =>
 oP E (lA 51 j0X) b6T fun j0Y b6U =>
 oP E (iA 51 j0Y (vI 0)) b6U fun j0Z b2x =>
 oP E (lA 53 j0Z) b2x fun j1a b8J =>
 oP E (xCall (fC 94) [j1a]) b8J fun f7K b8K =>
 oP E (eX f7K 0) b8K fun j1b b3E =>
 oP E (eX f7K 1) b3E fun f7L c0t =>
 oP E (fA 59 x3 2) c0t fun j1c b5A =>
 oP E (lA 51 j1c) b5A fun j1d c5y =>
 oP E (iA 51 j1d (vI 1)) c5y fun j1e c8m =>
 oP E (lA 53 j1e) c8m fun j1f d6r =>
 oP E (xCall (fC 94) [j1f]) d6r fun f7M c3w =>
 oP E (eX f7M 0) c3w fun j1g c3x =>
 oP E (eX f7M 1) c3x fun j1h b1c =>
 oP E (xPick f7L (gval (asB f7L) true j1h) (vB false)) b1c fun j1i c3y =>
 xcond j1i
 (oP E (fA 59 x3 1) c3y fun j1j d6s =>
 oP E (lA 3 j1j) d6s fun j1k b4k =>
 oP E (xCall (fC 96) [j1k, j1b, j1g]) b4k fun j1l b8L =>
 oP E (xCall (fC 95) [j1l]) b8L fun j1m b6V =>
 oP E (sA 59 x2 j1m) b6V fun _z_70 d1V =>
 xcell Tryz.prog 59 x2 d1V fun g2i =>
 R g2i d1V)
 (j3 [] c3y))
 (oP E (xBin .eql 3 (.tmp 55) (.const (vI 4)) d5f (vI 4)) b2w fun j1n Z1 =>
 xcond j1n
 (oP E (fA 59 x3 3) Z1 fun j1o Z2 =>
 oP E (lA 57 j1o) Z2 fun j1p X1 =>
 oP E (iA 57 j1p (vI 0)) X1 fun j1q Y5 =>
 oP E (fA 59 j1q 0) Y5 fun j1r a0f =>
 oP E (lA 3 j1r) a0f fun e4Y Z3 =>
 oP E (xBin .eql 3 (.tmp 91) (.const (vI 1)) e4Y (vI 1)) Z3 fun e4Z a0g =>
 oP E (gsem (asB e4Z) false (xBin .eql 3 (.tmp 94) (.const (vI 2)) (gval (asB e4Z) false e4Y) (vI 2))) a0g fun j1s Z4 =>
 oP E (xPick e4Z (vB true) j1s) Z4 fun j1t a1Q =>
 xcond j1t
 (oP E (xBin .eql 3 (.tmp 97) (.const (vI 2)) e4Y (vI 2)) a1Q fun j1u a2K =>
 oP E (xCall (fC 95) [j1u]) a2K fun j1v V4 =>
 oP E (sA 59 x2 j1v) V4 fun _z_95 a3u =>
 xcell Tryz.prog 59 x2 a3u fun k3J =>
 R k3J a3u)
 (j3 [] a1Q))
 (xcut (fun j6W f0i => e4W x2 x3 (nth j6W 0) f0i j3 R E) fun j4 =>
 oP E (xBin .eql 3 (.tmp 55) (.const (vI 5)) d5f (vI 5)) Z1 fun e5a d4t =>
 xcond e5a
 (j4 [e5a] d4t)
 (oP E (xBin .eql 3 (.tmp 55) (.const (vI 6)) d5f (vI 6)) d4t fun g2S f0j =>
 j4 [g2S] f0j))))
def f7N (x1 _x2 x3 x5 : Value) (w : World) (next6 : NT) (j2 : NT) (_R : RT) (E : Pan) : Prop :=
 oP E (fA 59 x1 3) w fun h3L c6G =>
 oP E (lA 57 h3L) c6G fun h3M c2W =>
 oP E (xBuiltin .len #[57] 3 [false] [h3M]) c2W fun h3N b9B =>
 oP E (xBin .lss 3 (.tmp 36) (.tmp 39) x5 h3N) b9B fun h3O b5Z =>
 xcond h3O
 (dX b5Z fun d5g =>
 qP Tryz.prog (fA 59 x3 3) fun d0N =>
 qP Tryz.prog (fA 59 x1 3) fun e7n =>
 qL Tryz.prog d5g (blk d0N) (lA 57 d0N) fun h3P =>
 qL Tryz.prog d5g (blk e7n) (lA 57 e7n) fun h3Q =>
 qP Tryz.prog (iA 57 h3Q x5) fun e7o =>
 qL Tryz.prog d5g (blk e7o) (lA 59 e7o) fun h3R =>
 oP E (xCall (fC 55) [h3R]) d5g fun h3S c3c =>
 keepX [(blk d0N)] d5g c3c (opK Tryz.prog E (xV (Instr.buildSlice 57 1 #[(0, h3S)])) c3c fun h3T d8W =>
 keepX [(blk d0N)] c3c d8W (opK Tryz.prog E (xBuiltin .append #[57, 57] 57 [false, false] [h3P, h3T]) d8W fun h3U f2r =>
 keepX [] d8W f2r (qP Tryz.prog (fA 59 x3 3) fun h3V =>
 oP E (sA 57 h3V h3U) f2r fun _z_205 d0u =>
 keepX [] f2r d0u (opK Tryz.prog E (xBin .add 3 (.tmp 41) (.const (vI 1)) x5 (vI 1)) d0u fun h3W d4v =>
 next6 [h3W] d4v)))))
 (j2 [] b5Z)
def e5b (x1 x2 x3 : Value) (w : World) (R : RT) (E : Pan) : Prop :=
 ∀ _τ : Fr, (xcut (fun _ f0k => e4X x2 x3 f0k R E) fun j2 =>
 xloop [5] [(vI 0)] w fun τ_209 d0v next6 =>
 f7N x1 x2 x3 (τ_209 5) d0v next6 j2 R E)
def f7O (x1 _x2 x3 x4 : Value) (w : World) (next7 : NT) (j1 : NT) (_R : RT) (E : Pan) : Prop :=
 oP E (fA 59 x1 2) w fun h3X f0o =>
 oP E (lA 51 h3X) f0o fun h3Y f0p =>
 oP E (xBuiltin .len #[51] 3 [false] [h3Y]) f0p fun h3Z d8K =>
 oP E (xBin .lss 3 (.tmp 18) (.tmp 21) x4 h3Z) d8K fun h4a d0x =>
 xcond h4a
 (dX d0x fun d5h =>
 qP Tryz.prog (fA 59 x3 2) fun d0O =>
 qP Tryz.prog (fA 59 x1 2) fun e7p =>
 qL Tryz.prog d5h (blk d0O) (lA 51 d0O) fun h4b =>
 qL Tryz.prog d5h (blk e7p) (lA 51 e7p) fun h4c =>
 qP Tryz.prog (iA 51 h4c x4) fun e7q =>
 qL Tryz.prog d5h (blk e7q) (lA 53 e7q) fun h4d =>
 oP E (xCall (fC 56) [h4d]) d5h fun h4e f2s =>
 keepX [(blk d0O)] d5h f2s (opK Tryz.prog E (xV (Instr.buildSlice 51 1 #[(0, h4e)])) f2s fun h4f f2t =>
 keepX [(blk d0O)] f2s f2t (opK Tryz.prog E (xBuiltin .append #[51, 51] 51 [false, false] [h4b, h4f]) f2t fun h4g f2u =>
 keepX [] f2t f2u (qP Tryz.prog (fA 59 x3 2) fun h4h =>
 oP E (sA 51 h4h h4g) f2u fun _z_235 c2X =>
 keepX [] f2u c2X (opK Tryz.prog E (xBin .add 3 (.tmp 23) (.const (vI 1)) x4 (vI 1)) c2X fun h4i d4B =>
 next7 [h4i] d4B)))))
 (j1 [] d0x)
def F55 (x0 : Value) (w : World) (R : RT) (E : Pan) : Prop :=
 oP E (xV (Instr.box 59 x0)) w fun q7 w_2 =>
 oP E (xV (Instr.alloc 59 true (.tuple #[]))) w_2 fun K6 w_4 =>
 oP E (fA 59 q7 0) w_4 fun b5C w_6 =>
 oP E (lA 3 b5C) w_6 fun a3J w_8 =>
 oP E (fA 59 q7 1) w_8 fun c5E p5 =>
 oP E (lA 3 c5E) p5 fun a4Y q8 =>
 oP E (xV (Instr.build 59 #[(0, a3J), (1, a4Y)])) q8 fun c1q p6 =>
 oP E (xV (Instr.alloc 59 true (.tuple #[]))) p6 fun c3a r8 =>
 oP E (sA 59 c3a c1q) r8 fun _z_17 s8 =>
 xcut (fun _ d0w => e5b q7 K6 c3a d0w R E) fun j1 =>
 xloop [4] [(vI 0)] s8 fun τ_239 d0y next7 =>
 f7O q7 K6 c3a (τ_239 4) d0y next7 j1 R E
noncomputable def c55 : Code := Tryz.f55.body.getD .skip
def h55 : Hint := (sQ (sQ (.cut [] (sQ (.block (.loop [4] (.seq (sQ (.cond .none .none)) (.seq (.block (.reg [(0, 33554432, 8), (1, 67108864, 33554432), (0, 134217728, 2), (4, 268435456, 134217728), (0, 536870912, 16), (24, 1073741824, 805306368), (32, 2147483648, 1073741824), (64, 4294967296, 2147483648), (128, 8589934592, 4294967296), (386, 17179869184, 8657043456), (1023, 34359738368, 8), (2047, 0, 51539607552)] [74, 72, 74, 66, 74, 74, 10, 2, 2, 0, 74, 0] (.early 0 (.early 2 (.early 4 (.load 1 (.load 3 (.early 5 (.load 6 (.step 7 (.step 8 (.step 9 (.early 10 (.step 11 .done)))))))))))))) .none))))) (.cut [] (sQ (.block (.loop [5] (.seq (sQ (.cond .none .none)) (.seq (.block (.reg [(0, 8796093022208, 8), (1, 17592186044416, 8796093022208), (0, 35184372088832, 2), (4, 70368744177664, 35184372088832), (0, 140737488355328, 32), (24, 281474976710656, 211106232532992), (32, 562949953421312, 281474976710656), (64, 1125899906842624, 562949953421312), (128, 2251799813685248, 1125899906842624), (386, 4503599627370496, 2269391999729664), (1023, 9007199254740992, 8), (2047, 0, 13510798882111488)] [74, 72, 74, 66, 74, 74, 10, 2, 2, 0, 74, 0] (.early 0 (.early 2 (.early 4 (.load 1 (.load 3 (.early 5 (.load 6 (.step 7 (.step 8 (.step 9 (.early 10 (.step 11 .done)))))))))))))) .none))))) (.cut [] (sQ (.block (sQ (.cond (sQ (sQ (sQ (.cond (sQ .none) .none)))) (sQ (.cond (sQ (sQ (.cond (sQ .none) .none))) (.cut [100] (sQ (.cond .none .none)) (.cond (sQ (.cut [11, 12] (sQ (.cond .none .none)) (.block (sQ (.cond (sQ .none) (sQ (.cond (sQ .none) (sQ (.cond (sQ .none) .none))))))))) .none)))))))) (sQ .none))))))
theorem j1w (x0 : Value) (w : World) (R : RT) (E : Pan) : F55 x0 w R E = callX Tryz.prog [.cell 2 59] c55 h55 [x0] w R E := by kernel_rfl
theorem j1x {x0 : Value} (h : F55 x0 w R E) : Cv Tryz.prog 55 #[x0] w R E := by
 refine k3 (args := [x0]) (c := c55) (h := h55) (rs := [.cell 2 59]) Tryz.func55 (by kernel_rfl) (by kernel_rfl) (nB (by kernel_rfl)) (by kernel_rfl) (by kernel_rfl) (by kernel_rfl) ?_
 rw [← j1w]
 exact h
def e5c (x2 x3 : Value) (w : World) (R : RT) (E : Pan) : Prop :=
 ∀ _τ : Fr, (oP E (fA 53 x3 0) w fun j1y R5 =>
 oP E (lA 3 j1y) R5 fun j1z Q5 =>
 oP E (xBin .eql 3 (.tmp 95) (.const (vI 6)) j1z (vI 6)) Q5 fun c5a V0 =>
 oP E (gsem (asB c5a) true (fA 53 x3 3)) V0 fun j1A T2 =>
 oP E (gsem (asB c5a) true (lA 51 j1A)) T2 fun j1B T7 =>
 oP E (gsem (asB c5a) true (iA 51 j1B (vI 1))) T7 fun h4j Z0 =>
 oP E (gsem (asB c5a) true (lA 53 h4j)) Z0 fun h4k Z1 =>
 oP E (gsem (asB c5a) true (xCall (fC 99) [h4k, (vI 0)])) Z1 fun h4l Z2 =>
 oP E (xPick c5a h4l (vB false)) Z2 fun h4m X1 =>
 xcond h4m
 (oP E (fA 53 x3 3) X1 fun h4n Y5 =>
 oP E (lA 51 h4n) Y5 fun h4o a0f =>
 oP E (iA 51 h4o (vI 0)) a0f fun h4p Z3 =>
 oP E (lA 53 h4p) Z3 fun h4q a0g =>
 oP E (sA 53 x2 h4q) a0g fun _z_87 Z4 =>
 xcell Tryz.prog 53 x2 Z4 fun k3K =>
 R k3K Z4)
 (oP E (fA 53 x3 0) X1 fun h4r d2f =>
 oP E (lA 3 h4r) d2f fun h4s g2k =>
 oP E (xBin .eql 3 (.tmp 110) (.const (vI 6)) h4s (vI 6)) g2k fun c0g c3z =>
 oP E (gsem (asB c0g) true (fA 53 x3 3)) c3z fun h4t d3n =>
 oP E (gsem (asB c0g) true (lA 51 h4t)) d3n fun h4u c9y =>
 oP E (gsem (asB c0g) true (iA 51 h4u (vI 0))) c9y fun g2T d0M =>
 oP E (gsem (asB c0g) true (lA 53 g2T)) d0M fun g2U b8f =>
 oP E (gsem (asB c0g) true (xCall (fC 99) [g2U, (vI 0)])) b8f fun g2V b9q =>
 oP E (xPick c0g g2V (vB false)) b9q fun g2W b2i =>
 xcond g2W
 (oP E (fA 53 x3 3) b2i fun g2X a9J =>
 oP E (lA 51 g2X) a9J fun g2Y c7f =>
 oP E (iA 51 g2Y (vI 1)) c7f fun g2Z c3d =>
 oP E (lA 53 g2Z) c3d fun g3a b9J =>
 oP E (sA 53 x2 g3a) b9J fun _z_116 b5x =>
 xcell Tryz.prog 53 x2 b5x fun j6X =>
 R j6X b5x)
 (oP E (fA 53 x3 0) b2i fun g3b a4j =>
 oP E (lA 3 g3b) a4j fun g3c a2J =>
 oP E (xBin .eql 3 (.tmp 125) (.const (vI 7)) g3c (vI 7)) a2J fun b7J a7o =>
 oP E (gsem (asB b7J) true (fA 53 x3 3)) a7o fun g3d a6J =>
 oP E (gsem (asB b7J) true (lA 51 g3d)) a6J fun g3e a7S =>
 oP E (gsem (asB b7J) true (iA 51 g3e (vI 1))) a7S fun g3f a4Q =>
 oP E (gsem (asB b7J) true (lA 53 g3f)) a4Q fun g3g a4R =>
 oP E (gsem (asB b7J) true (xCall (fC 99) [g3g, (vI 0)])) a4R fun g3h a7q =>
 oP E (xPick b7J g3h (vB false)) a7q fun g3i a7r =>
 xcond g3i
 (oP E (fA 53 x3 3) a7r fun g3j b1e =>
 oP E (lA 51 g3j) b1e fun g3k b1f =>
 oP E (iA 51 g3k (vI 0)) b1f fun g3l a4W =>
 oP E (lA 53 g3l) a4W fun g3m a5H =>
 oP E (sA 53 x2 g3m) a5H fun _z_145 a5G =>
 xcell Tryz.prog 53 x2 a5G fun j6Y =>
 R j6Y a5G)
 (oP E (fA 53 x3 0) a7r fun g3n f2q =>
 oP E (lA 3 g3n) f2q fun g3o b2j =>
 oP E (xBin .eql 3 (.tmp 140) (.const (vI 8)) g3o (vI 8)) b2j fun c7g c7d =>
 oP E (gsem (asB c7g) false (fA 53 x3 0)) c7d fun g3p c3b =>
 oP E (gsem (asB c7g) false (lA 3 g3p)) c3b fun g3q c2L =>
 oP E (gsem (asB c7g) false (xBin .eql 3 (.tmp 144) (.const (vI 9)) g3q (vI 9))) c2L fun g3r c2M =>
 oP E (xPick c7g (vB true) g3r) c2M fun b7K b5y =>
 oP E (gsem (asB b7K) true (fA 53 x3 3)) b5y fun g3s c9V =>
 oP E (gsem (asB b7K) true (lA 51 g3s)) c9V fun g3t a9v =>
 oP E (gsem (asB b7K) true (iA 51 g3t (vI 1))) a9v fun g3u c9W =>
 oP E (gsem (asB b7K) true (lA 53 g3u)) c9W fun g3v d3H =>
 oP E (gsem (asB b7K) true (xCall (fC 99) [g3v, (vI 1)])) d3H fun g3w d8z =>
 oP E (xPick b7K g3w (vB false)) d8z fun g3x d3I =>
 xcond g3x
 (oP E (fA 53 x3 3) d3I fun g3y j6Z =>
 oP E (lA 51 g3y) j6Z fun g3z j7a =>
 oP E (iA 51 g3z (vI 0)) j7a fun g3A c7e =>
 oP E (lA 53 g3A) c7e fun g3B d5b =>
 oP E (sA 53 x2 g3B) d5b fun _z_182 g5k =>
 xcell Tryz.prog 53 x2 g5k fun j7b =>
 R j7b g5k)
 (oP E (fA 53 x3 0) d3I fun g3C c2W =>
 oP E (lA 3 g3C) c2W fun g3D b9B =>
 oP E (xBin .eql 3 (.tmp 160) (.const (vI 8)) g3D (vI 8)) b9B fun b7L b5Z =>
 oP E (gsem (asB b7L) true (fA 53 x3 3)) b5Z fun g3E f0m =>
 oP E (gsem (asB b7L) true (lA 51 g3E)) f0m fun g3F f0q =>
 oP E (gsem (asB b7L) true (iA 51 g3F (vI 0))) f0q fun g3G b7Z =>
 oP E (gsem (asB b7L) true (lA 53 g3G)) b7Z fun g3H d8I =>
 oP E (gsem (asB b7L) true (xCall (fC 99) [g3H, (vI 1)])) d8I fun g3I f0n =>
 oP E (xPick b7L g3I (vB false)) f0n fun g3J c6H =>
 xcond g3J
 (oP E (fA 53 x3 3) c6H fun g3K d4u =>
 oP E (lA 51 g3K) d4u fun g3L d0u =>
 oP E (iA 51 g3L (vI 1)) d0u fun g3M d4v =>
 oP E (lA 53 g3M) d4v fun g3N d0v =>
 oP E (sA 53 x2 g3N) d0v fun _z_211 d0w =>
 xcell Tryz.prog 53 x2 d0w fun j7c =>
 R j7c d0w)
 (oP E (lA 53 x3) c6H fun g3O j7d =>
 oP E (sA 53 x2 g3O) j7d fun _z_216 g5l =>
 xcell Tryz.prog 53 x2 g5l fun j7e =>
 R j7e g5l))))))
def e5d (x2 x3 x7 x8 x9 : Value) (w : World) (R : RT) (E : Pan) : Prop :=
 ∀ _τ : Fr, (xcut (fun _ d0x => e5c x2 x3 d0x R E) fun j3 =>
 xcond x8
 (oP E (fA 53 x3 0) w fun h4v b8a =>
 oP E (lA 3 h4v) b8a fun h4w d8L =>
 oP E (xCall (fC 98) [h4w, x7, x9]) d8L fun e7r d8M =>
 oP E (eX e7r 0) d8M fun e7s f0r =>
 oP E (eX e7r 1) f0r fun h4x f0s =>
 oP E (xBin .eql 3 (.tmp 85) (.const (vI 0)) h4x (vI 0)) f0s fun d7H d8N =>
 oP E (gsem (asB d7H) true (xBin .neq 2 (.tmp 88) (.const (vI (-9223372036854775808))) (gval (asB d7H) true e7s) (vI (-9223372036854775808)))) d8N fun h4y d8O =>
 oP E (xPick d7H h4y (vB false)) d8O fun h4z c2X =>
 xcond h4z
 (oP E (xCall (fC 97) [e7s]) c2X fun h4A d4B =>
 oP E (sA 53 x2 h4A) d4B fun _z_239 d0y =>
 xcell Tryz.prog 53 x2 d0y fun j7f =>
 R j7f d0y)
 (j3 [] c2X))
 (j3 [] w))
def e5e (x2 x3 : Value) (w : World) (R : RT) (E : Pan) : Prop :=
 ∀ _τ : Fr, (oP E (lA 53 x3) w fun e3e u4 =>
 oP E (xCall (fC 94) [e3e]) u4 fun d4x z2 =>
 oP E (eX d4x 0) z2 fun b8y B3 =>
 oP E (eX d4x 1) B3 fun j1C C4 =>
 xcond j1C
 (oP E (xCall (fC 97) [b8y]) C4 fun j1D B6 =>
 oP E (sA 53 x2 j1D) B6 fun _z_33 A6 =>
 xcell Tryz.prog 53 x2 A6 fun k3L =>
 R k3L A6)
 (oP E (fA 53 x3 0) C4 fun j1E b2x =>
 oP E (lA 3 j1E) b2x fun j1F b8J =>
 oP E (xBin .lss 3 (.tmp 48) (.const (vI 5)) j1F (vI 5)) b8J fun j1G b8K =>
 xcond j1G
 (oP E (lA 53 x3) b8K fun j1H b3E =>
 oP E (sA 53 x2 j1H) b3E fun _z_44 c0t =>
 xcell Tryz.prog 53 x2 c0t fun k3M =>
 R k3M c0t)
 (oP E (fA 53 x3 3) b8K fun e3R M6 =>
 oP E (lA 51 e3R) M6 fun j1I L8 =>
 oP E (iA 51 j1I (vI 0)) L8 fun j1J N0 =>
 oP E (lA 53 j1J) N0 fun j1K K5 =>
 oP E (xCall (fC 94) [j1K]) K5 fun f7P N4 =>
 oP E (eX f7P 0) N4 fun j1L L4 =>
 oP E (eX f7P 1) L4 fun e5f Q3 =>
 xcut (fun g5m g5n => e5d x2 x3 j1L (nth g5m 0) (nth g5m.tail 0) g5n R E) fun j2 =>
 oP E (fA 53 x3 3) Q3 fun h4B j7g =>
 oP E (lA 51 h4B) j7g fun h4C j7h =>
 oP E (xBuiltin .len #[51] 3 [false] [h4C]) j7h fun h4D j7i =>
 oP E (xBin .eql 3 (.tmp 61) (.const (vI 2)) h4D (vI 2)) j7i fun h4E g5o =>
 xcond h4E
 (oP E (fA 53 x3 3) g5o fun h4F j7j =>
 oP E (lA 51 h4F) j7j fun h4G j7k =>
 oP E (iA 51 h4G (vI 1)) j7k fun h4H j7l =>
 oP E (lA 53 h4H) j7l fun h4I j7m =>
 oP E (xCall (fC 94) [h4I]) j7m fun e7t j7n =>
 oP E (eX e7t 0) j7n fun h4J g5p =>
 oP E (eX e7t 1) g5p fun h4K f2v =>
 oP E (xPick e5f (gval (asB e5f) true h4K) (vB false)) f2v fun h4L j7o =>
 j2 [h4L, h4J] j7o)
 (j2 [e5f, (vI 0)] g5o))))
def f7Q (x1 _x2 x3 x4 : Value) (w : World) (next4 : NT) (j1 : NT) (_R : RT) (E : Pan) : Prop :=
 oP E (fA 53 x1 3) w fun h4M g5q =>
 oP E (lA 51 h4M) g5q fun h4N j7p =>
 oP E (xBuiltin .len #[51] 3 [false] [h4N]) j7p fun h4O j7q =>
 oP E (xBin .lss 3 (.tmp 21) (.tmp 24) x4 h4O) j7q fun h4P g5r =>
 xcond h4P
 (dX g5r fun d5i =>
 qP Tryz.prog (fA 53 x3 3) fun d0P =>
 qP Tryz.prog (fA 53 x1 3) fun e7u =>
 qL Tryz.prog d5i (blk d0P) (lA 51 d0P) fun h4Q =>
 qL Tryz.prog d5i (blk e7u) (lA 51 e7u) fun h4R =>
 qP Tryz.prog (iA 51 h4R x4) fun e7v =>
 qL Tryz.prog d5i (blk e7v) (lA 53 e7v) fun h4S =>
 oP E (xCall (fC 56) [h4S]) d5i fun h4T f2w =>
 keepX [(blk d0P)] d5i f2w (opK Tryz.prog E (xV (Instr.buildSlice 51 1 #[(0, h4T)])) f2w fun h4U f2x =>
 keepX [(blk d0P)] f2w f2x (opK Tryz.prog E (xBuiltin .append #[51, 51] 51 [false, false] [h4Q, h4U]) f2x fun h4V f2y =>
 keepX [] f2x f2y (qP Tryz.prog (fA 53 x3 3) fun h4W =>
 oP E (sA 51 h4W h4V) f2y fun _z_292 d9e =>
 keepX [] f2y d9e (opK Tryz.prog E (xBin .add 3 (.tmp 26) (.const (vI 1)) x4 (vI 1)) d9e fun h4X j7r =>
 next4 [h4X] j7r)))))
 (j1 [] g5r)
def F56 (x0 : Value) (w : World) (R : RT) (E : Pan) : Prop :=
 oP E (xV (Instr.box 53 x0)) w fun q7 w_2 =>
 oP E (xV (Instr.alloc 53 true (.tuple #[]))) w_2 fun K6 w_4 =>
 oP E (fA 53 q7 0) w_4 fun b4d w_6 =>
 oP E (lA 3 b4d) w_6 fun c6J w_8 =>
 oP E (fA 53 q7 1) w_8 fun a7v p5 =>
 oP E (lA 2 a7v) p5 fun e4y q8 =>
 oP E (fA 53 q7 2) q8 fun b2A p6 =>
 oP E (lA 9 b2A) p6 fun b1T r8 =>
 oP E (xV (Instr.build 53 #[(0, c6J), (1, e4y), (2, b1T)])) r8 fun j1M s8 =>
 oP E (xV (Instr.alloc 53 true (.tuple #[]))) s8 fun f2z r9 =>
 oP E (sA 53 f2z j1M) r9 fun _z_21 u7 =>
 xcut (fun _ j7s => e5e K6 f2z j7s R E) fun j1 =>
 xloop [4] [(vI 0)] u7 fun τ_296 g5s next4 =>
 f7Q q7 K6 f2z (τ_296 4) g5s next4 j1 R E
noncomputable def c56 : Code := Tryz.f56.body.getD .skip
def h56 : Hint := (sQ (sQ (.cut [] (sQ (.block (.loop [4] (.seq (sQ (.cond .none .none)) (.seq (.block (.reg [(0, 268435456, 8), (1, 536870912, 268435456), (0, 1073741824, 2), (4, 2147483648, 1073741824), (0, 4294967296, 16), (24, 8589934592, 6442450944), (32, 17179869184, 8589934592), (64, 34359738368, 17179869184), (128, 68719476736, 34359738368), (386, 137438953472, 69256347648), (1023, 274877906944, 8), (2047, 0, 412316860416)] [74, 72, 74, 66, 74, 74, 10, 2, 2, 0, 74, 0] (.early 0 (.early 2 (.early 4 (.load 1 (.load 3 (.early 5 (.load 6 (.step 7 (.step 8 (.step 9 (.early 10 (.step 11 .done)))))))))))))) .none))))) (sQ (.seq (sQ (.cond (sQ .none) .none)) (.seq (sQ (.cond (sQ .none) .none)) (sQ (sQ (.cut [8, 9] (sQ (.cond (sQ (sQ .none)) .none)) (.cut [] (sQ (.cond (sQ (sQ (.cond (sQ .none) .none))) .none)) (.seq (.block (sQ (.cond (sQ .none) (sQ (.cond (sQ .none) (sQ (.cond (sQ .none) (sQ (.cond (sQ .none) (sQ (.cond (sQ .none) .none))))))))))) (sQ .none))))))))))))
theorem j1N (x0 : Value) (w : World) (R : RT) (E : Pan) : F56 x0 w R E = callX Tryz.prog [.cell 2 53] c56 h56 [x0] w R E := by kernel_rfl
theorem j1O {x0 : Value} (h : F56 x0 w R E) : Cv Tryz.prog 56 #[x0] w R E := by
 refine k3 (args := [x0]) (c := c56) (h := h56) (rs := [.cell 2 53]) Tryz.func56 (by kernel_rfl) (by kernel_rfl) (nB (by kernel_rfl)) (by kernel_rfl) (by kernel_rfl) (by kernel_rfl) ?_
 rw [← j1N]
 exact h
def e5g (x5 : Value) (w : World) (R : RT) (_E : Pan) : Prop :=
 ∀ _τ : Fr, (R x5 w)
def f7R (x1 x5 x8 x9 x10 : Value) (w : World) (next2 : NT) (j1 : NT) (_R : RT) (E : Pan) : Prop :=
 oP E (xBin .lss 3 (.tmp 10) (.tmp 9) x10 x9) w fun a4T w_6 =>
 xcond a4T
 (oP E (iA 51 x8 x10) w_6 fun a1J w_8 =>
 oP E (lA 53 a1J) w_8 fun a6K p5 =>
 oP E (xV (Instr.alloc 53 true (.tuple #[]))) p5 fun X5 q8 =>
 oP E (sA 53 X5 a6K) q8 fun _z_13 p6 =>
 oP E (lA 53 X5) p6 fun a7a r8 =>
 oP E (xCall x1 [a7a]) r8 fun a7b s8 =>
 oP E (xV (Instr.buildSlice 51 1 #[(0, a7b)])) s8 fun a4U r9 =>
 oP E (xBuiltin .append #[51, 51] 51 [false, false] [x5, a4U]) r9 fun a7c u7 =>
 oP E (xBin .add 3 (.tmp 10) (.const (vI 1)) x10 (vI 1)) u7 fun a4V u4 =>
 next2 [a7c, a4V] u4)
 (j1 [x5] w_6)
def F66 (x0 x1 : Value) (w : World) (R : RT) (E : Pan) : Prop :=
 xcut (fun l_1 w_2 => e5g (nth l_1 0) w_2 R E) fun j1 =>
 oP E (xBuiltin .len #[51] 3 [false] [x0]) w fun a6n w_4 =>
 xloop [5, 10] [(nS), (vI 0)] w_4 fun τ_25 z2 next2 =>
 f7R x1 (τ_25 5) x0 a6n (τ_25 10) z2 next2 j1 R E
noncomputable def c66 : Code := Tryz.f66.body.getD .skip
def h66 : Hint := (sQ (sQ (.cut [5] (sQ (.block (.loop [5, 10] (sQ (.seq (.cond .none .none) (.seq (.block (sQ .none)) .none)))))) (sQ .none))))
theorem j1P (x0 x1 : Value) (w : World) (R : RT) (E : Pan) : F66 x0 x1 w R E = callX Tryz.prog [.tmp 4] c66 h66 [x0, x1] w R E := by kernel_rfl
theorem j1Q {x0 x1 : Value} (h : F66 x0 x1 w R E) : Cv Tryz.prog 66 #[x0, x1] w R E := by
 refine k3 (args := [x0, x1]) (c := c66) (h := h66) (rs := [.tmp 4]) Tryz.func66 (by kernel_rfl) (by kernel_rfl) (nB (by kernel_rfl)) (by kernel_rfl) (by kernel_rfl) (by kernel_rfl) ?_
 rw [← j1P]
 exact h
def F67 (x0 : Value) (w : World) (R : RT) (E : Pan) : Prop :=
 oP E (xV (Instr.box 53 x0)) w fun q7 w_2 =>
 oP E (fA 53 q7 0) w_2 fun b6W w_4 =>
 oP E (lA 3 b6W) w_4 fun a8D w_6 =>
 oP E (xBin .eql 3 (.tmp 6) (.const (vI 1)) a8D (vI 1)) w_6 fun a7R w_8 =>
 xcond a7R
 (oP E (fA 53 q7 1) w_8 fun a6Z p5 =>
 oP E (lA 2 a6Z) p5 fun a4S q8 =>
 R (Value.tuple #[a4S, (vB true)]) q8)
 (oP E (fA 53 q7 0) w_8 fun a9u p6 =>
 oP E (lA 3 a9u) p6 fun b5v r8 =>
 oP E (xBin .eql 3 (.tmp 12) (.const (vI 5)) b5v (vI 5)) r8 fun a3i s8 =>
 oP E (gsem (asB a3i) true (fA 53 q7 3)) s8 fun a4O r9 =>
 oP E (gsem (asB a3i) true (lA 51 a4O)) r9 fun a6d u7 =>
 oP E (gsem (asB a3i) true (iA 51 a6d (vI 0))) u7 fun b5w u4 =>
 oP E (gsem (asB a3i) true (fA 53 b5w 0)) u4 fun a4P z2 =>
 oP E (gsem (asB a3i) true (lA 3 a4P)) z2 fun b2u B3 =>
 oP E (gsem (asB a3i) true (xBin .eql 3 (.tmp 19) (.const (vI 1)) b2u (vI 1))) B3 fun c8l C4 =>
 oP E (xPick a3i c8l (vB false)) C4 fun b3U B6 =>
 xcond b3U
 (oP E (fA 53 q7 3) B6 fun b0B A6 =>
 oP E (lA 51 b0B) A6 fun e0I I7 =>
 oP E (iA 51 e0I (vI 0)) I7 fun b1S C7 =>
 oP E (fA 53 b1S 1) C7 fun j1R I4 =>
 oP E (lA 2 j1R) I4 fun j1S E8 =>
 oP E (xV (Op.unary .neg j1S)) E8 fun j1T E4 =>
 R (Value.tuple #[j1T, (vB true)]) E4)
 (R (Value.tuple #[(vI 0), (vB false)]) B6))
noncomputable def c67 : Code := Tryz.f67.body.getD .skip
def h67 : Hint := (sQ (.seq (.block (sQ (.cond (sQ .none) (sQ (.cond (sQ .none) .none))))) (sQ .none)))
theorem j1U (x0 : Value) (w : World) (R : RT) (E : Pan) : F67 x0 w R E = callX Tryz.prog [.tmp 2, .tmp 3] c67 h67 [x0] w R E := by kernel_rfl
theorem j1V {x0 : Value} (h : F67 x0 w R E) : Cv Tryz.prog 67 #[x0] w R E := by
 refine k3 (args := [x0]) (c := c67) (h := h67) (rs := [.tmp 2, .tmp 3]) Tryz.func67 (by kernel_rfl) (by kernel_rfl) (nB (by kernel_rfl)) (by kernel_rfl) (by kernel_rfl) (by kernel_rfl) ?_
 rw [← j1U]
 exact h
def F68 (x0 : Value) (w : World) (R : RT) (E : Pan) : Prop :=
 oP E (xV (Instr.alloc 53 true (.tuple #[]))) w fun U3 w_2 =>
 oP E (xBin .lss 2 (.tmp 3) (.const (vI 0)) x0 (vI 0)) w_2 fun a8F w_4 =>
 xcond a8F
 (oP E (xV (Op.unary .neg x0)) w_4 fun a8D w_6 =>
 oP E (xV (Instr.build 53 #[(0, (vI 1)), (1, a8D)])) w_6 fun a7R w_8 =>
 oP E (xV (Instr.buildSlice 51 1 #[(0, a7R)])) w_8 fun a6Z p5 =>
 oP E (xV (Instr.build 53 #[(0, (vI 5)), (3, a6Z)])) p5 fun a4S q8 =>
 oP E (sA 53 U3 a4S) q8 fun _z_13 p6 =>
 xcell Tryz.prog 53 U3 p6 fun b6R =>
 R b6R p6)
 (oP E (xV (Instr.build 53 #[(0, (vI 1)), (1, x0)])) w_4 fun b5z a1B =>
 oP E (sA 53 U3 b5z) a1B fun _z_18 a1R =>
 xcell Tryz.prog 53 U3 a1R fun e5h =>
 R e5h a1R)
noncomputable def c68 : Code := Tryz.f68.body.getD .skip
def h68 : Hint := (sQ (.seq (sQ (.cond (sQ .none) .none)) (sQ .none)))
theorem j1W (x0 : Value) (w : World) (R : RT) (E : Pan) : F68 x0 w R E = callX Tryz.prog [.cell 2 53] c68 h68 [x0] w R E := by kernel_rfl
theorem j1X {x0 : Value} (h : F68 x0 w R E) : Cv Tryz.prog 68 #[x0] w R E := by
 refine k3 (args := [x0]) (c := c68) (h := h68) (rs := [.cell 2 53]) Tryz.func68 (by kernel_rfl) (by kernel_rfl) (nB (by kernel_rfl)) (by kernel_rfl) (by kernel_rfl) (by kernel_rfl) ?_
 rw [← j1W]
 exact h
def e5i (x9 x10 : Value) (w : World) (R : RT) (E : Pan) : Prop :=
 ∀ _τ : Fr, (oP E (xBin .eql 3 (.tmp 91) (.const (vI 0)) x10 (vI 0)) w fun f2A w_6 =>
 oP E (gsem (asB f2A) true (xBin .neq 2 (.tmp 94) (.const (vI (-9223372036854775808))) (gval (asB f2A) true x9) (vI (-9223372036854775808)))) w_6 fun j7t w_8 =>
 oP E (xPick f2A j7t (vB false)) w_8 fun j7u p5 =>
 R (Value.tuple #[x9, j7u]) p5)
def e5j (x1 x4 : Value) (w : World) (R : RT) (E : Pan) : Prop :=
 ∀ _τ : Fr, (xcut (fun d1Y q8 => e5i (nth d1Y 0) (nth d1Y.tail 0) q8 R E) fun j2 =>
 oP E (fA 53 x1 0) w fun j1Y p6 =>
 oP E (lA 3 j1Y) p6 fun b8q r8 =>
 oP E (xBin .eql 3 (.tmp 31) (.const (vI 5)) b8q (vI 5)) r8 fun c9p s8 =>
 xcond c9p
 (oP E (iA 173 x4 (vI 0)) s8 fun j1Z r9 =>
 oP E (lA 2 j1Z) r9 fun j2a u7 =>
 oP E (xCall (fC 112) [j2a]) u7 fun d4T u4 =>
 oP E (eX d4T 0) u4 fun j2b z2 =>
 oP E (eX d4T 1) z2 fun j2c B3 =>
 j2 [j2b, j2c] B3)
 (oP E (xBin .eql 3 (.tmp 31) (.const (vI 6)) b8q (vI 6)) s8 fun j2d C4 =>
 xcond j2d
 (oP E (iA 173 x4 (vI 0)) C4 fun e3z B6 =>
 oP E (lA 2 e3z) B6 fun e3A A6 =>
 oP E (iA 173 x4 (vI 1)) A6 fun j2e I7 =>
 oP E (lA 2 j2e) I7 fun j2f C7 =>
 oP E (xCall (fC 113) [e3A, j2f]) C7 fun f7S I4 =>
 oP E (eX f7S 0) I4 fun j2g E8 =>
 oP E (eX f7S 1) E8 fun j2h E4 =>
 j2 [j2g, j2h] E4)
 (oP E (xBin .eql 3 (.tmp 31) (.const (vI 7)) b8q (vI 7)) C4 fun e3Q N1 =>
 xcond e3Q
 (oP E (iA 173 x4 (vI 0)) N1 fun j2i M6 =>
 oP E (lA 2 j2i) M6 fun j2j L8 =>
 oP E (iA 173 x4 (vI 1)) L8 fun e3K N0 =>
 oP E (lA 2 e3K) N0 fun e3L K5 =>
 oP E (xCall (fC 114) [j2j, e3L]) K5 fun f7T N4 =>
 oP E (eX f7T 0) N4 fun j2k L4 =>
 oP E (eX f7T 1) L4 fun j2l Q3 =>
 j2 [j2k, j2l] Q3)
 (oP E (xBin .eql 3 (.tmp 31) (.const (vI 8)) b8q (vI 8)) N1 fun j2m R5 =>
 xcond j2m
 (oP E (iA 173 x4 (vI 0)) R5 fun e3B Q5 =>
 oP E (lA 2 e3B) Q5 fun e3C V0 =>
 oP E (iA 173 x4 (vI 1)) V0 fun j2n T2 =>
 oP E (lA 2 j2n) T2 fun e3s T7 =>
 oP E (xCall (fC 115) [e3C, e3s]) T7 fun d4C Z0 =>
 oP E (eX d4C 0) Z0 fun e3t Z1 =>
 oP E (eX d4C 1) Z1 fun b5B Z2 =>
 j2 [e3t, b5B] Z2)
 (oP E (xBin .eql 3 (.tmp 31) (.const (vI 9)) b8q (vI 9)) R5 fun j2o X1 =>
 xcond j2o
 (oP E (iA 173 x4 (vI 0)) X1 fun e3u Y5 =>
 oP E (lA 2 e3u) Y5 fun e3v a0f =>
 oP E (iA 173 x4 (vI 1)) a0f fun e3w Z3 =>
 oP E (lA 2 e3w) Z3 fun j2p a0g =>
 oP E (xCall (fC 116) [e3v, j2p]) a0g fun f7U Z4 =>
 oP E (eX f7U 0) Z4 fun j2q a1Q =>
 oP E (eX f7U 1) a1Q fun j2r a2K =>
 j2 [j2q, j2r] a2K)
 (oP E (xBin .eql 3 (.tmp 31) (.const (vI 10)) b8q (vI 10)) X1 fun j2s V4 =>
 xcond j2s
 (oP E (iA 173 x4 (vI 0)) V4 fun j2t a3u =>
 oP E (lA 2 j2t) a3u fun j2u a6m =>
 oP E (iA 173 x4 (vI 1)) a6m fun j2v a1H =>
 oP E (lA 2 j2v) a1H fun h4Y a1I =>
 oP E (xCall (fC 117) [j2u, h4Y]) a1I fun e7w a3H =>
 oP E (eX e7w 0) a3H fun h4Z a3I =>
 oP E (eX e7w 1) a3I fun h5a a7p =>
 j2 [h4Z, h5a] a7p)
 (j2 [(vI 0), (vI 2)] V4)))))))
def f7V (_x1 x4 x12 x13 x14 : Value) (w : World) (next3 : NT) (j1 : NT) (R : RT) (E : Pan) : Prop :=
 oP E (xBin .lss 3 (.tmp 14) (.tmp 13) x14 x13) w fun h5b a6L =>
 xcond h5b
 (oP E (iA 51 x12 x14) a6L fun d6w a4j =>
 oP E (lA 53 d6w) a4j fun b5a a2J =>
 oP E (xV (Instr.alloc 53 true (.tuple #[]))) a2J fun f7W a7o =>
 oP E (sA 53 f7W b5a) a7o fun _z_125 a6J =>
 oP E (lA 53 f7W) a6J fun h5c a7S =>
 oP E (xCall (fC 67) [h5c]) a7S fun e7x a4Q =>
 oP E (eX e7x 0) a4Q fun h5d a4R =>
 oP E (eX e7x 1) a4R fun h5e a7q =>
 oP E (xV (Op.unary .not h5e)) a7q fun h5f a7r =>
 xcond h5f
 (R (Value.tuple #[(vI 0), (vB false)]) a7r)
 (oP E (iA 173 x4 x14) a7r fun h5g b1e =>
 oP E (sA 2 h5g h5d) b1e fun _z_139 b1f =>
 oP E (xBin .add 3 (.tmp 14) (.const (vI 1)) x14 (vI 1)) b1f fun h5h a4W =>
 next3 [h5h] a4W))
 (j1 [] a6L)
def F69 (x0 : Value) (w : World) (R : RT) (E : Pan) : Prop :=
 oP E (xV (Instr.box 53 x0)) w fun q7 w_2 =>
 oP E (xV (Instr.alloc 173 true (.tuple #[]))) w_2 fun a8F w_4 =>
 xcut (fun _ a7T => e5j q7 a8F a7T R E) fun j1 =>
 oP E (fA 53 q7 3) w_4 fun h5i b0k =>
 oP E (lA 51 h5i) b0k fun e7y a8Q =>
 oP E (xBuiltin .len #[51] 3 [false] [e7y]) a8Q fun h5j a9y =>
 xloop [14] [(vI 0)] a9y fun τ_143 a5H next3 =>
 f7V q7 a8F e7y h5j (τ_143 14) a5H next3 j1 R E
noncomputable def c69 : Code := Tryz.f69.body.getD .skip
def h69 : Hint := (sQ (sQ (.cut [] (sQ (.block (.loop [14] (sQ (.seq (.cond .none .none) (.seq (.block (sQ (sQ (.seq (sQ (.cond (sQ .none) .none)) .none)))) .none)))))) (sQ (.cut [9, 10] (sQ (.block (sQ (.cond .none (sQ (.cond .none (sQ (.cond .none (sQ (.cond .none (sQ (.cond .none (sQ (.cond .none .none)))))))))))))) (sQ .none))))))
theorem j2w (x0 : Value) (w : World) (R : RT) (E : Pan) : F69 x0 w R E = callX Tryz.prog [.tmp 2, .tmp 3] c69 h69 [x0] w R E := by kernel_rfl
theorem j2x {x0 : Value} (h : F69 x0 w R E) : Cv Tryz.prog 69 #[x0] w R E := by
 refine k3 (args := [x0]) (c := c69) (h := h69) (rs := [.tmp 2, .tmp 3]) Tryz.func69 (by kernel_rfl) (by kernel_rfl) (nB (by kernel_rfl)) (by kernel_rfl) (by kernel_rfl) (by kernel_rfl) ?_
 rw [← j2w]
 exact h
def F70 (x0 x1 : Value) (w : World) (R : RT) (E : Pan) : Prop :=
 oP E (xV (Instr.box 53 x0)) w fun U3 w_2 =>
 oP E (lA 53 U3) w_2 fun b5E w_4 =>
 oP E (xCall (fC 67) [b5E]) w_4 fun c5D w_6 =>
 oP E (eX c5D 0) w_6 fun c7c w_8 =>
 oP E (eX c5D 1) w_8 fun b0j p5 =>
 oP E (gsem (asB b0j) true (xBin .eql 2 (.tmp 14) (.tmp 15) (gval (asB b0j) true c7c) (gval (asB b0j) true x1))) p5 fun a4Y q8 =>
 oP E (xPick b0j a4Y (vB false)) q8 fun c1q p6 =>
 R c1q p6
noncomputable def c70 : Code := Tryz.f70.body.getD .skip
def h70 : Hint := (sQ (sQ (sQ .none)))
theorem j2y (x0 x1 : Value) (w : World) (R : RT) (E : Pan) : F70 x0 x1 w R E = callX Tryz.prog [.tmp 4] c70 h70 [x0, x1] w R E := by kernel_rfl
theorem j2z {x0 x1 : Value} (h : F70 x0 x1 w R E) : Cv Tryz.prog 70 #[x0, x1] w R E := by
 refine k3 (args := [x0, x1]) (c := c70) (h := h70) (rs := [.tmp 4]) Tryz.func70 (by kernel_rfl) (by kernel_rfl) (nB (by kernel_rfl)) (by kernel_rfl) (by kernel_rfl) (by kernel_rfl) ?_
 rw [← j2y]
 exact h
def e5k (x5 : Value) (w : World) (R : RT) (_E : Pan) : Prop :=
 ∀ _τ : Fr, (R x5 w)
def f7X (x1 x5 x8 x9 x10 : Value) (w : World) (next2 : NT) (j1 : NT) (_R : RT) (E : Pan) : Prop :=
 oP E (xBin .lss 3 (.tmp 10) (.tmp 9) x10 x9) w fun a4T w_6 =>
 xcond a4T
 (oP E (iA 57 x8 x10) w_6 fun a1J w_8 =>
 oP E (lA 59 a1J) w_8 fun a6K p5 =>
 oP E (xV (Instr.alloc 59 true (.tuple #[]))) p5 fun X5 q8 =>
 oP E (sA 59 X5 a6K) q8 fun _z_13 p6 =>
 oP E (lA 59 X5) p6 fun a7a r8 =>
 oP E (xCall x1 [a7a]) r8 fun a7b s8 =>
 oP E (xV (Instr.buildSlice 57 1 #[(0, a7b)])) s8 fun a4U r9 =>
 oP E (xBuiltin .append #[57, 57] 57 [false, false] [x5, a4U]) r9 fun a7c u7 =>
 oP E (xBin .add 3 (.tmp 10) (.const (vI 1)) x10 (vI 1)) u7 fun a4V u4 =>
 next2 [a7c, a4V] u4)
 (j1 [x5] w_6)
def F71 (x0 x1 : Value) (w : World) (R : RT) (E : Pan) : Prop :=
 xcut (fun l_1 w_2 => e5k (nth l_1 0) w_2 R E) fun j1 =>
 oP E (xBuiltin .len #[57] 3 [false] [x0]) w fun a6n w_4 =>
 xloop [5, 10] [(nS), (vI 0)] w_4 fun τ_25 z2 next2 =>
 f7X x1 (τ_25 5) x0 a6n (τ_25 10) z2 next2 j1 R E
noncomputable def c71 : Code := Tryz.f71.body.getD .skip
def h71 : Hint := (sQ (sQ (.cut [5] (sQ (.block (.loop [5, 10] (sQ (.seq (.cond .none .none) (.seq (.block (sQ .none)) .none)))))) (sQ .none))))
theorem j2A (x0 x1 : Value) (w : World) (R : RT) (E : Pan) : F71 x0 x1 w R E = callX Tryz.prog [.tmp 4] c71 h71 [x0, x1] w R E := by kernel_rfl
theorem j2B {x0 x1 : Value} (h : F71 x0 x1 w R E) : Cv Tryz.prog 71 #[x0, x1] w R E := by
 refine k3 (args := [x0, x1]) (c := c71) (h := h71) (rs := [.tmp 4]) Tryz.func71 (by kernel_rfl) (by kernel_rfl) (nB (by kernel_rfl)) (by kernel_rfl) (by kernel_rfl) (by kernel_rfl) ?_
 rw [← j2A]
 exact h
def F72 (x0 : Value) (w : World) (R : RT) (E : Pan) : Prop :=
 oP E (xV (Instr.alloc 59 true (.tuple #[]))) w fun U3 w_2 =>
 xcond x0
 (oP E (xV (Instr.build 59 #[(0, (vI 1))])) w_2 fun a8F w_4 =>
 oP E (sA 59 U3 a8F) w_4 fun _z_5 w_6 =>
 xcell Tryz.prog 59 U3 w_6 fun r_7 =>
 R r_7 w_6)
 (oP E (xV (Instr.build 59 #[(0, (vI 2))])) w_2 fun d1T w_9 =>
 oP E (sA 59 U3 d1T) w_9 fun _z_10 P0 =>
 xcell Tryz.prog 59 U3 P0 fun g3P =>
 R g3P P0)
noncomputable def c72 : Code := Tryz.f72.body.getD .skip
def h72 : Hint := (sQ (.seq (sQ (.cond (sQ .none) .none)) (sQ .none)))
theorem j2C (x0 : Value) (w : World) (R : RT) (E : Pan) : F72 x0 w R E = callX Tryz.prog [.cell 2 59] c72 h72 [x0] w R E := by kernel_rfl
theorem j2D {x0 : Value} (h : F72 x0 w R E) : Cv Tryz.prog 72 #[x0] w R E := by
 refine k3 (args := [x0]) (c := c72) (h := h72) (rs := [.cell 2 59]) Tryz.func72 (by kernel_rfl) (by kernel_rfl) (nB (by kernel_rfl)) (by kernel_rfl) (by kernel_rfl) (by kernel_rfl) ?_
 rw [← j2C]
 exact h
def e5l (x3 x6 x7 x23 : Value) (w : World) (R : RT) (E : Pan) : Prop :=
 ∀ _τ : Fr, (xcond x23
 (oP E (lA 59 x7) w fun j2E a1B =>
 oP E (sA 59 x6 j2E) a1B fun _z_18 a1R =>
 xcell Tryz.prog 59 x6 a1R fun e5h =>
 R e5h a1R)
 (oP E (lA 59 x3) w fun j2F u7 =>
 oP E (sA 59 x6 j2F) u7 fun _z_23 u4 =>
 xcell Tryz.prog 59 x6 u4 fun k3N =>
 R k3N u4))
def e5m (x1 x2 x3 x6 x7 x8 : Value) (w : World) (R : RT) (E : Pan) : Prop :=
 ∀ _τ : Fr, (oP E (fA 59 x7 0) w fun j7v w_6 =>
 oP E (lA 3 j7v) w_6 fun j7w w_8 =>
 oP E (xBin .eql 3 (.tmp 19) (.tmp 20) j7w x1) w_8 fun j7x p5 =>
 xcond j7x
 (oP E (lA 59 x8) p5 fun e4q q8 =>
 oP E (sA 59 x6 e4q) q8 fun _z_13 p6 =>
 xcell Tryz.prog 59 x6 p6 fun b6R =>
 R b6R p6)
 (xcut (fun c3D a3k => e5l x3 x6 x7 (nth c3D 0) a3k R E) fun j2 =>
 oP E (fA 59 x7 0) p5 fun j2G a4y =>
 oP E (lA 3 j2G) a4y fun j2H b2w =>
 oP E (xBin .eql 3 (.tmp 25) (.tmp 26) j2H x2) b2w fun f7Y b6T =>
 xcond f7Y
 (j2 [f7Y] b6T)
 (oP E (fA 59 x8 0) b6T fun j2I b6U =>
 oP E (lA 3 j2I) b6U fun j2J b2x =>
 oP E (xBin .eql 3 (.tmp 29) (.tmp 30) j2J x1) b2x fun j2K b8J =>
 j2 [j2K] b8J)))
def F74 (x0 x1 x2 : Value) (w : World) (R : RT) (E : Pan) : Prop :=
 oP E (xV (Instr.box 59 x0)) w fun b4M w_2 =>
 oP E (xV (Instr.alloc 59 true (.tuple #[]))) w_2 fun c5F w_4 =>
 xcut (fun d2g b8K => e5m x1 x2 b4M c5F (nth d2g 0) (nth d2g.tail 0) b8K R E) fun j1 =>
 dX w_4 fun E8 =>
 qP Tryz.prog (fA 59 b4M 3) fun d0Q =>
 qP Tryz.prog (fA 59 b4M 3) fun b8C =>
 qL Tryz.prog E8 (blk d0Q) (lA 57 d0Q) fun j2L =>
 qP Tryz.prog (iA 57 j2L (vI 0)) fun c5b =>
 qL Tryz.prog E8 (blk c5b) (lA 59 c5b) fun f7Z =>
 qL Tryz.prog E8 (blk b8C) (lA 57 b8C) fun j2M =>
 qP Tryz.prog (iA 57 j2M (vI 1)) fun b8D =>
 qL Tryz.prog E8 (blk b8D) (lA 59 b8D) fun f8a =>
 (oP E (xV (Instr.alloc 59 true (.tuple #[]))) E8 fun g5t N0 =>
 keepX [(blk b8D), (blk b8C), (blk c5b), (blk d0Q)] E8 N0 (opK Tryz.prog E (xV (Instr.alloc 59 true (.tuple #[]))) N0 fun g5u K5 =>
 keepX [(blk b8D), (blk b8C), (blk c5b), (blk d0Q)] N0 K5 (opK Tryz.prog E (sA 59 g5t f7Z) K5 fun _z_55 N4 =>
 keepX [(blk b8D), (blk b8C)] K5 N4 (opK Tryz.prog E (sA 59 g5u f8a) N4 fun _z_57 L4 =>
 keepX [] N4 L4 (j1 [g5t, g5u] L4))))) ∧
 (oP E (xV (Instr.alloc 59 true (.tuple #[]))) E8 fun g5v Q3 =>
 keepX [(blk b8D), (blk b8C), (blk c5b), (blk d0Q)] E8 Q3 (opK Tryz.prog E (xV (Instr.alloc 59 true (.tuple #[]))) Q3 fun g5w R5 =>
 keepX [(blk b8D), (blk b8C), (blk c5b), (blk d0Q)] Q3 R5 (opK Tryz.prog E (sA 59 g5w f7Z) R5 fun _z_63 Q5 =>
 keepX [(blk b8D), (blk b8C)] R5 Q5 (opK Tryz.prog E (sA 59 g5v f8a) Q5 fun _z_65 V0 =>
 keepX [] Q5 V0 (j1 [g5w, g5v] V0)))))
noncomputable def c74 : Code := Tryz.f74.body.getD .skip
def h74 : Hint := (sQ (.cut [7, 8] (.reg [(0, 512, 8), (1, 1024, 512), (2, 2048, 1024), (4, 4096, 2048), (0, 8192, 8), (16, 16384, 8192), (32, 32768, 16384), (64, 65536, 32768), (0, 128, 0), (0, 256, 0), (783, 0, 4224), (2047, 0, 65792)] [170, 168, 170, 162, 170, 138, 170, 42, 170, 170, 160, 0] (.early 0 (.early 4 (.load 1 (.early 2 (.load 3 (.load 5 (.early 6 (.load 7 (.alt 8 (.step 9 (.step 10 (.step 11 .done))) (.step 9 (.step 8 (.step 10 (.step 11 .done)))))))))))))) (.seq (.block (sQ (.cond (sQ .none) (.cut [23] (sQ (.cond .none .none)) (.cond (sQ .none) .none))))) (sQ .none))))
theorem j2N (x0 x1 x2 : Value) (w : World) (R : RT) (E : Pan) : F74 x0 x1 x2 w R E = callX Tryz.prog [.cell 6 59] c74 h74 [x0, x1, x2] w R E := by kernel_rfl
theorem j2O {x0 x1 x2 : Value} (h : F74 x0 x1 x2 w R E) : Cv Tryz.prog 74 #[x0, x1, x2] w R E := by
 refine k3 (args := [x0, x1, x2]) (c := c74) (h := h74) (rs := [.cell 6 59]) Tryz.func74 (by kernel_rfl) (by kernel_rfl) (nB (by kernel_rfl)) (by kernel_rfl) (by kernel_rfl) (by kernel_rfl) ?_
 rw [← j2N]
 exact h
def F93 (x0 x1 : Value) (w : World) (R : RT) (E : Pan) : Prop :=
 oP E (fA 73 x1 3) w fun b4l w_2 =>
 oP E (lA 57 b4l) w_2 fun b6W w_4 =>
 oP E (xBuiltin .len #[57] 3 [false] [b6W]) w_4 fun a8D w_6 =>
 oP E (xBin .gtr 3 (.tmp 6) (.const (vI 0)) a8D (vI 0)) w_6 fun a7R w_8 =>
 oP E (gsem (asB a7R) true (fA 73 x1 3)) w_8 fun b8N p5 =>
 oP E (gsem (asB a7R) true (lA 57 b8N)) p5 fun b3T q8 =>
 oP E (gsem (asB a7R) true (iA 57 b3T (vI 0))) q8 fun a9u p6 =>
 oP E (gsem (asB a7R) true (fA 59 a9u 0)) p6 fun b5v r8 =>
 oP E (gsem (asB a7R) true (lA 3 b5v)) r8 fun a3i s8 =>
 oP E (gsem (asB a7R) true (xBin .eql 3 (.tmp 13) (.tmp 14) a3i (gval (asB a7R) true x0))) s8 fun a4O r9 =>
 oP E (xPick a7R a4O (vB false)) r9 fun a6d u7 =>
 R a6d u7
noncomputable def c93 : Code := Tryz.f93.body.getD .skip
def h93 : Hint := (sQ (sQ .none))
theorem j2P (x0 x1 : Value) (w : World) (R : RT) (E : Pan) : F93 x0 x1 w R E = callX Tryz.prog [.tmp 3] c93 h93 [x0, x1] w R E := by kernel_rfl
theorem j2Q {x0 x1 : Value} (h : F93 x0 x1 w R E) : Cv Tryz.prog 93 #[x0, x1] w R E := by
 refine k3 (args := [x0, x1]) (c := c93) (h := h93) (rs := [.tmp 3]) Tryz.func93 (by kernel_rfl) (by kernel_rfl) (nB (by kernel_rfl)) (by kernel_rfl) (by kernel_rfl) (by kernel_rfl) ?_
 rw [← j2P]
 exact h
def F94 (x0 : Value) (w : World) (R : RT) (E : Pan) : Prop :=
 oP E (xV (Instr.box 53 x0)) w fun q7 w_2 =>
 oP E (fA 53 q7 0) w_2 fun a8F w_4 =>
 oP E (lA 3 a8F) w_4 fun b6X w_6 =>
 oP E (xBin .eql 3 (.tmp 5) (.const (vI 1)) b6X (vI 1)) w_6 fun a7G w_8 =>
 xcond a7G
 (oP E (fA 53 q7 1) w_8 fun d1Z p5 =>
 oP E (lA 2 d1Z) p5 fun c5A q8 =>
 R (Value.tuple #[c5A, (vB true)]) q8)
 (oP E (fA 53 q7 0) w_8 fun c5G p6 =>
 oP E (lA 3 c5G) p6 fun c8G r8 =>
 oP E (xBin .eql 3 (.tmp 10) (.const (vI 5)) c8G (vI 5)) r8 fun a7e s8 =>
 oP E (gsem (asB a7e) true (fA 53 q7 3)) s8 fun b2B r9 =>
 oP E (gsem (asB a7e) true (lA 51 b2B)) r9 fun b5H u7 =>
 oP E (gsem (asB a7e) true (iA 51 b5H (vI 0))) u7 fun c8D u4 =>
 oP E (gsem (asB a7e) true (fA 53 c8D 0)) u4 fun e0M z2 =>
 oP E (gsem (asB a7e) true (lA 3 e0M)) z2 fun c8s B3 =>
 oP E (gsem (asB a7e) true (xBin .eql 3 (.tmp 17) (.const (vI 1)) c8s (vI 1))) B3 fun c4r C4 =>
 oP E (xPick a7e c4r (vB false)) C4 fun c8t B6 =>
 xcond c8t
 (oP E (fA 53 q7 3) B6 fun c0v A6 =>
 oP E (lA 51 c0v) A6 fun e0N I7 =>
 oP E (iA 51 e0N (vI 0)) I7 fun e0O C7 =>
 oP E (fA 53 e0O 1) C7 fun j2R I4 =>
 oP E (lA 2 j2R) I4 fun e0P E8 =>
 oP E (xV (Op.unary .neg e0P)) E8 fun c0w E4 =>
 R (Value.tuple #[c0w, (vB true)]) E4)
 (R (Value.tuple #[(vI 0), (vB false)]) B6))
noncomputable def c94 : Code := Tryz.f94.body.getD .skip
def h94 : Hint := (sQ (.seq (sQ (.cond (sQ .none) .none)) (.seq (sQ (.cond (sQ .none) .none)) (sQ .none))))
theorem j2S (x0 : Value) (w : World) (R : RT) (E : Pan) : F94 x0 w R E = callX Tryz.prog [.tmp 2, .tmp 3] c94 h94 [x0] w R E := by kernel_rfl
theorem j2T {x0 : Value} (h : F94 x0 w R E) : Cv Tryz.prog 94 #[x0] w R E := by
 refine k3 (args := [x0]) (c := c94) (h := h94) (rs := [.tmp 2, .tmp 3]) Tryz.func94 (by kernel_rfl) (by kernel_rfl) (nB (by kernel_rfl)) (by kernel_rfl) (by kernel_rfl) (by kernel_rfl) ?_
 rw [← j2S]
 exact h
def F95 (x0 : Value) (w : World) (R : RT) (E : Pan) : Prop :=
 oP E (xV (Instr.alloc 59 true (.tuple #[]))) w fun U3 w_2 =>
 xcond x0
 (oP E (xV (Instr.build 59 #[(0, (vI 1))])) w_2 fun a8F w_4 =>
 oP E (sA 59 U3 a8F) w_4 fun _z_5 w_6 =>
 xcell Tryz.prog 59 U3 w_6 fun r_7 =>
 R r_7 w_6)
 (oP E (xV (Instr.build 59 #[(0, (vI 2))])) w_2 fun d1T w_9 =>
 oP E (sA 59 U3 d1T) w_9 fun _z_10 P0 =>
 xcell Tryz.prog 59 U3 P0 fun g3P =>
 R g3P P0)
noncomputable def c95 : Code := Tryz.f95.body.getD .skip
def h95 : Hint := (sQ (.seq (sQ (.cond (sQ .none) .none)) (sQ .none)))
theorem j2U (x0 : Value) (w : World) (R : RT) (E : Pan) : F95 x0 w R E = callX Tryz.prog [.cell 2 59] c95 h95 [x0] w R E := by kernel_rfl
theorem j2V {x0 : Value} (h : F95 x0 w R E) : Cv Tryz.prog 95 #[x0] w R E := by
 refine k3 (args := [x0]) (c := c95) (h := h95) (rs := [.cell 2 59]) Tryz.func95 (by kernel_rfl) (by kernel_rfl) (nB (by kernel_rfl)) (by kernel_rfl) (by kernel_rfl) (by kernel_rfl) ?_
 rw [← j2U]
 exact h
def F97 (x0 : Value) (w : World) (R : RT) (E : Pan) : Prop :=
 oP E (xV (Instr.alloc 53 true (.tuple #[]))) w fun U3 w_2 =>
 oP E (xBin .geq 2 (.tmp 3) (.const (vI 0)) x0 (vI 0)) w_2 fun a8F w_4 =>
 xcond a8F
 (oP E (xV (Instr.build 53 #[(0, (vI 1)), (1, x0)])) w_4 fun a8D w_6 =>
 oP E (sA 53 U3 a8D) w_6 fun _z_7 w_8 =>
 xcell Tryz.prog 53 U3 w_8 fun r_9 =>
 R r_9 w_8)
 (oP E (xV (Op.unary .neg x0)) w_4 fun e8f P0 =>
 oP E (xV (Instr.build 53 #[(0, (vI 1)), (1, e8f)])) P0 fun c5x a2s =>
 oP E (xV (Instr.buildSlice 51 1 #[(0, c5x)])) a2s fun e0s c0s =>
 oP E (xV (Instr.build 53 #[(0, (vI 5)), (3, e0s)])) c0s fun b5z a1B =>
 oP E (sA 53 U3 b5z) a1B fun _z_18 a1R =>
 xcell Tryz.prog 53 U3 a1R fun e5h =>
 R e5h a1R)
noncomputable def c97 : Code := Tryz.f97.body.getD .skip
def h97 : Hint := (sQ (.seq (sQ (.cond (sQ .none) .none)) (sQ .none)))
theorem j2W (x0 : Value) (w : World) (R : RT) (E : Pan) : F97 x0 w R E = callX Tryz.prog [.cell 2 53] c97 h97 [x0] w R E := by kernel_rfl
theorem j2X {x0 : Value} (h : F97 x0 w R E) : Cv Tryz.prog 97 #[x0] w R E := by
 refine k3 (args := [x0]) (c := c97) (h := h97) (rs := [.cell 2 53]) Tryz.func97 (by kernel_rfl) (by kernel_rfl) (nB (by kernel_rfl)) (by kernel_rfl) (by kernel_rfl) (by kernel_rfl) ?_
 rw [← j2W]
 exact h
def F99 (x0 x1 : Value) (w : World) (R : RT) (E : Pan) : Prop :=
 oP E (xV (Instr.box 53 x0)) w fun U3 w_2 =>
 oP E (lA 53 U3) w_2 fun b5E w_4 =>
 oP E (xCall (fC 94) [b5E]) w_4 fun c5D w_6 =>
 oP E (eX c5D 0) w_6 fun c7c w_8 =>
 oP E (eX c5D 1) w_8 fun b0j p5 =>
 oP E (gsem (asB b0j) true (xBin .eql 2 (.tmp 14) (.tmp 15) (gval (asB b0j) true c7c) (gval (asB b0j) true x1))) p5 fun a4Y q8 =>
 oP E (xPick b0j a4Y (vB false)) q8 fun c1q p6 =>
 R c1q p6
noncomputable def c99 : Code := Tryz.f99.body.getD .skip
def h99 : Hint := (sQ (sQ (sQ .none)))
theorem j2Y (x0 x1 : Value) (w : World) (R : RT) (E : Pan) : F99 x0 x1 w R E = callX Tryz.prog [.tmp 4] c99 h99 [x0, x1] w R E := by kernel_rfl
theorem j2Z {x0 x1 : Value} (h : F99 x0 x1 w R E) : Cv Tryz.prog 99 #[x0, x1] w R E := by
 refine k3 (args := [x0, x1]) (c := c99) (h := h99) (rs := [.tmp 4]) Tryz.func99 (by kernel_rfl) (by kernel_rfl) (nB (by kernel_rfl)) (by kernel_rfl) (by kernel_rfl) (by kernel_rfl) ?_
 rw [← j2Y]
 exact h
end Go.Proofs.YtnhkdkcgdcgmdaaGreatDoor
