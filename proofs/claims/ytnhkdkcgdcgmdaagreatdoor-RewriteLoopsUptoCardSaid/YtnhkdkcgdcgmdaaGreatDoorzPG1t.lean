/- The second reading of some of the program's functions, printed by gen2.py off the code; each is held against the code by the kernel. -/
import Derived.Test.YtnhkdkcgdcgmdaaGreatDoorProg
import Derived.Test.YtnhkdkcgdcgmdaaGreatDoorzPK0
import Derived.KernelRfl
import Derived.Test.YtnhkdkcgdcgmdaaGreatDoorzPGz
namespace Go.Proofs.YtnhkdkcgdcgmdaaGreatDoor
open Go.RowKit
set_option maxRecDepth 100000
variable {w : World} {R : RT} {E : Pan}
def F3 (x0 x1 : Value) (w : World) (R : RT) (E : Pan) : Prop :=
 oP E (xV (Instr.box 25 x0)) w fun U4 w_2 =>
 oP E (xCall (fC 8) []) w_2 fun a0N w_4 =>
 oP E (xV (Op.unary .not a0N)) w_4 fun a2g w_6 =>
 xcond a2g
 (R (vB false) w_6)
 (oP E (lA 25 U4) w_6 fun a2Z w_8 =>
 oP E (xCall (fC 9) [a2Z, x1]) w_8 fun a5x o7 =>
 oP E (eX a5x 0) o7 fun a5P p7 =>
 oP E (eX a5x 1) p7 fun b9N o8 =>
 oP E (xV (Instr.alloc 25 true (.tuple #[]))) o8 fun b7C r5 =>
 oP E (sA 25 b7C a5P) r5 fun _z_17 t8 =>
 oP E (lA 25 U4) t8 fun a1E t7 =>
 oP E (xCall (fC 10) [a1E, x1]) t7 fun b5H u6 =>
 oP E (eX b5H 0) u6 fun b9O v6 =>
 oP E (eX b5H 1) v6 fun b1a y7 =>
 oP E (xV (Instr.alloc 25 true (.tuple #[]))) y7 fun c7z C4 =>
 oP E (sA 25 c7z b9O) C4 fun _z_29 H7 =>
 oP E (xBin .neq 3 (.tmp 23) (.tmp 24) b9N b1a) H7 fun a7G D6 =>
 xcond a7G
 (R (vB false) D6)
 (oP E (xBin .neq 3 (.tmp 26) (.const (vI 0)) b1a (vI 0)) D6 fun d0P A6 =>
 xcond d0P
 (oP E (fA 25 b7C 0) A6 fun d0Q K5 =>
 oP E (lA 22 d0Q) K5 fun d0R K0 =>
 oP E (xBuiltin .len #[22] 3 [false] [d0R]) K0 fun d0S H9 =>
 oP E (xBin .eql 3 (.tmp 30) (.const (vI 0)) d0S (vI 0)) H9 fun b9P I0 =>
 oP E (gsem (asB b9P) true (fA 25 b7C 1)) I0 fun d0T K6 =>
 oP E (gsem (asB b9P) true (lA 23 d0T)) K6 fun g1X M9 =>
 oP E (gsem (asB b9P) true (xBuiltin .len #[23] 3 [false] [g1X])) M9 fun b5Y O1 =>
 oP E (gsem (asB b9P) true (xBin .eql 3 (.tmp 35) (.const (vI 0)) b5Y (vI 0))) O1 fun d0U N8 =>
 oP E (xPick b9P d0U (vB false)) N8 fun c4v M2 =>
 R c4v M2)
 (oP E (lA 25 b7C) A6 fun g1Y O0 =>
 oP E (lA 25 c7z) O0 fun g1Z O8 =>
 oP E (xCall (fC 11) [g1Y, g1Z]) O8 fun d0V O9 =>
 R d0V O9)))
noncomputable def c3 : Code := Tryz.f3.body.getD .skip
def h3 : Hint := (sQ (.seq (sQ (.cond (sQ .none) .none)) (sQ (sQ (.seq (sQ (.cond (sQ .none) .none)) (.seq (sQ (.cond (sQ .none) .none)) (sQ .none)))))))
def F4 (x0 : Value) (w : World) (R : RT) (E : Pan) : Prop :=
 oP E (xV (Instr.box 25 x0)) w fun q7 w_2 =>
 oP E (xCall (fC 8) []) w_2 fun b0e w_4 =>
 oP E (xV (Op.unary .not b0e)) w_4 fun b5k w_6 =>
 xcond b5k
 (R (vB false) w_6)
 (oP E (lA 25 q7) w_6 fun b4w w_8 =>
 oP E (xCall (fC 12) [b4w]) w_8 fun b7D o7 =>
 oP E (eX b7D 0) o7 fun g2a p7 =>
 oP E (eX b7D 1) p7 fun b9Q o8 =>
 oP E (xV (Instr.alloc 25 true (.tuple #[]))) o8 fun c7G r5 =>
 oP E (sA 25 c7G g2a) r5 fun _z_17 t8 =>
 oP E (lA 25 q7) t8 fun a3v t7 =>
 oP E (xCall (fC 13) [a3v]) t7 fun a3W u6 =>
 oP E (eX a3W 0) u6 fun a7p v6 =>
 oP E (eX a3W 1) v6 fun a3w y7 =>
 oP E (xV (Instr.alloc 25 true (.tuple #[]))) y7 fun e8d C4 =>
 oP E (sA 25 e8d a7p) C4 fun _z_29 H7 =>
 oP E (xBin .neq 3 (.tmp 19) (.tmp 20) b9Q a3w) H7 fun a8r D6 =>
 xcond a8r
 (R (vB false) D6)
 (oP E (xBin .neq 3 (.tmp 22) (.const (vI 0)) a3w (vI 0)) D6 fun b9e A6 =>
 xcond b9e
 (oP E (fA 25 c7G 0) A6 fun b2J K5 =>
 oP E (lA 22 b2J) K5 fun a0k K0 =>
 oP E (xBuiltin .len #[22] 3 [false] [a0k]) K0 fun c8Q H9 =>
 oP E (xBin .eql 3 (.tmp 26) (.const (vI 0)) c8Q (vI 0)) H9 fun b2K I0 =>
 oP E (gsem (asB b2K) true (fA 25 c7G 1)) I0 fun d0W K6 =>
 oP E (gsem (asB b2K) true (lA 23 d0W)) K6 fun d0X M9 =>
 oP E (gsem (asB b2K) true (xBuiltin .len #[23] 3 [false] [d0X])) M9 fun d0Y O1 =>
 oP E (gsem (asB b2K) true (xBin .eql 3 (.tmp 31) (.const (vI 0)) d0Y (vI 0))) O1 fun d0Z N8 =>
 oP E (xPick b2K d0Z (vB false)) N8 fun b8Y M2 =>
 R b8Y M2)
 (oP E (lA 25 c7G) A6 fun a9N O0 =>
 oP E (lA 25 e8d) O0 fun c9o O8 =>
 oP E (xCall (fC 11) [a9N, c9o]) O8 fun d1a O9 =>
 R d1a O9)))
noncomputable def c4 : Code := Tryz.f4.body.getD .skip
def h4 : Hint := (sQ (.seq (sQ (.cond (sQ .none) .none)) (sQ (sQ (.seq (sQ (.cond (sQ .none) .none)) (.seq (sQ (.cond (sQ .none) .none)) (sQ .none)))))))
def F8 (w : World) (R : RT) (E : Pan) : Prop :=
 oP E (xCall (fC 22) [(vI 1)]) w fun b8P w_2 =>
 oP E (xCall (fC 22) [(vI 2)]) w_2 fun b0e w_4 =>
 oP E (xV (Instr.buildSlice 51 2 #[(0, b8P), (1, b0e)])) w_4 fun b5k w_6 =>
 oP E (xV (Instr.build 53 #[(0, (vI 6)), (3, b5k)])) w_6 fun d0M w_8 =>
 oP E (xV (Instr.build 53 #[(0, (vI 2)), (2, (Value.string ⟨#[120]⟩))])) w_8 fun c4w o7 =>
 oP E (xV (Instr.buildSlice 51 2 #[(0, d0M), (1, c4w)])) o7 fun a6R p7 =>
 oP E (xV (Instr.build 53 #[(0, (vI 8)), (3, a6R)])) p7 fun b1b o8 =>
 oP E (xCall (fC 21) [b1b]) o8 fun a7s r5 =>
 oP E (eX a7s 0) r5 fun a9v t8 =>
 oP E (eX a7s 1) t8 fun a3v t7 =>
 oP E (xV (Instr.alloc 53 true (.tuple #[]))) t7 fun c4x u6 =>
 oP E (sA 53 c4x a9v) u6 fun _z_23 v6 =>
 oP E (xCall (fC 22) [(vI 1)]) v6 fun b9k y7 =>
 oP E (xCall (fC 22) [(vI 2)]) y7 fun c9J C4 =>
 oP E (xV (Instr.buildSlice 51 2 #[(0, b9k), (1, c9J)])) C4 fun c9K H7 =>
 oP E (xV (Instr.build 59 #[(0, (vI 3)), (1, (vI 1)), (2, c9K)])) H7 fun c9L D6 =>
 oP E (xCall (fC 23) [c9L]) D6 fun b5J A6 =>
 oP E (eX b5J 0) A6 fun b9l K5 =>
 oP E (eX b5J 1) K5 fun b9m K0 =>
 oP E (xV (Instr.alloc 59 true (.tuple #[]))) K0 fun e8e H9 =>
 oP E (sA 59 e8e b9l) H9 fun _z_41 I0 =>
 oP E (xBin .eql 27 (.tmp 24) (.const (vI 0)) a3v (vI 0)) I0 fun b8Q K6 =>
 oP E (gsem (asB b8Q) true (xBin .eql 27 (.tmp 27) (.const (vI 0)) (gval (asB b8Q) true b9m) (vI 0))) K6 fun g2c M9 =>
 oP E (xPick b8Q g2c (vB false)) M9 fun b5Z O1 =>
 oP E (gsem (asB b5Z) true (fA 53 c4x 0)) O1 fun g2d N8 =>
 oP E (gsem (asB b5Z) true (lA 3 g2d)) N8 fun c8K M2 =>
 oP E (gsem (asB b5Z) true (xBin .eql 3 (.tmp 32) (.const (vI 8)) c8K (vI 8))) M2 fun c8L O0 =>
 oP E (xPick b5Z c8L (vB false)) O0 fun b2H O8 =>
 oP E (gsem (asB b2H) true (fA 53 c4x 3)) O8 fun d1a O9 =>
 oP E (gsem (asB b2H) true (lA 51 d1a)) O9 fun g2e R8 =>
 oP E (gsem (asB b2H) true (xBuiltin .len #[51] 3 [false] [g2e])) R8 fun g2f Q1 =>
 oP E (gsem (asB b2H) true (xBin .eql 3 (.tmp 38) (.const (vI 2)) g2f (vI 2))) Q1 fun g2g T3 =>
 oP E (xPick b2H g2g (vB false)) T3 fun b3A U5 =>
 oP E (gsem (asB b3A) true (fA 53 c4x 3)) U5 fun a8w W9 =>
 oP E (gsem (asB b3A) true (lA 51 a8w)) W9 fun g2h S3 =>
 oP E (gsem (asB b3A) true (iA 51 g2h (vI 0))) S3 fun g2i Z1 =>
 oP E (gsem (asB b3A) true (fA 53 g2i 0)) Z1 fun g2j a0O =>
 oP E (gsem (asB b3A) true (lA 3 g2j)) a0O fun c9N Y4 =>
 oP E (gsem (asB b3A) true (xBin .eql 3 (.tmp 46) (.const (vI 1)) c9N (vI 1))) Y4 fun g2k Z4 =>
 oP E (xPick b3A g2k (vB false)) Z4 fun b3B a2e =>
 oP E (gsem (asB b3B) true (fA 53 c4x 3)) a2e fun b9R Y5 =>
 oP E (gsem (asB b3B) true (lA 51 b9R)) Y5 fun d1b X0 =>
 oP E (gsem (asB b3B) true (iA 51 d1b (vI 0))) X0 fun g2l a0x =>
 oP E (gsem (asB b3B) true (fA 53 g2l 1)) a0x fun c9w V9 =>
 oP E (gsem (asB b3B) true (lA 2 c9w)) V9 fun c9x a3y =>
 oP E (gsem (asB b3B) true (xBin .eql 2 (.tmp 54) (.const (vI 3)) c9x (vI 3))) a3y fun c9y a5o =>
 oP E (xPick b3B c9y (vB false)) a5o fun c4y a3M =>
 oP E (gsem (asB c4y) true (fA 59 e8e 0)) a3M fun g2m a5R =>
 oP E (gsem (asB c4y) true (lA 3 g2m)) a5R fun g2n a6V =>
 oP E (gsem (asB c4y) true (xBin .eql 3 (.tmp 59) (.const (vI 1)) g2n (vI 1))) a6V fun g2o a0W =>
 oP E (xPick c4y g2o (vB false)) a0W fun f2d Z5 =>
 R f2d Z5
noncomputable def c8 : Code := Tryz.f8.body.getD .skip
def h8 : Hint := (sQ (sQ (sQ (sQ .none))))
theorem h2U (w : World) (R : RT) (E : Pan) : F8  w R E = callX Tryz.prog [.tmp 0] c8 h8 [] w R E := by kernel_rfl
theorem h2V (h : F8  w R E) : Cv Tryz.prog 8 #[] w R E := by
 refine i7 (args := []) (c := c8) (h := h8) (rs := [.tmp 0]) Tryz.func8 (by kernel_rfl) (by kernel_rfl) (Nat.zero_le _) (by kernel_rfl) (by kernel_rfl) (by kernel_rfl) ?_
 rw [← h2U]
 exact h
def F9 (x0 x1 : Value) (w : World) (R : RT) (E : Pan) : Prop :=
 oP E (xV (Instr.box 25 x0)) w fun U4 w_2 =>
 oP E (xV (Instr.alloc 25 true (.tuple #[]))) w_2 fun a1k w_4 =>
 oP E (lA 25 U4) w_4 fun a8I w_6 =>
 oP E (xCall (fC 24) [a8I]) w_6 fun a6X w_8 =>
 oP E (xBin .neq 27 (.tmp 9) (.const (vI 0)) a6X (vI 0)) w_8 fun c4w o7 =>
 xcond c4w
 (oP E (xV (Instr.build 25 #[])) o7 fun a6R p7 =>
 oP E (sA 25 a1k a6R) p7 fun _z_13 o8 =>
 xcell Tryz.prog 25 a1k o8 fun b0z =>
 R (Value.tuple #[b0z, a6X]) o8)
 (oP E (xBin .lss 3 (.tmp 13) (.const (vI 0)) x1 (vI 0)) o7 fun d1c a0q =>
 oP E (gsem (asB d1c) false (xBin .gtr 3 (.tmp 16) (.const (vI 8)) (gval (asB d1c) false x1) (vI 8))) a0q fun g2p T2 =>
 oP E (xPick d1c (vB true) g2p) T2 fun g2q Z3 =>
 xcond g2q
 (oP E (xV (Instr.build 25 #[])) Z3 fun g2r a0y =>
 oP E (sA 25 a1k g2r) a0y fun _z_24 a6m =>
 xcell Tryz.prog 25 a1k a6m fun e5f =>
 R (Value.tuple #[e5f, (vI 290)]) a6m)
 (dX Z3 fun a2d =>
 qP Tryz.prog (fA 25 U4 0) fun d1d =>
 qP Tryz.prog (fA 25 U4 1) fun e0Q =>
 qL Tryz.prog a2d (blk d1d) (lA 22 d1d) fun g2s =>
 qL Tryz.prog a2d (blk e0Q) (lA 23 e0Q) fun g2t =>
 oP E (xCall (fC 26) [g2t, x1]) a2d fun g2u a7H =>
 keepX [(blk d1d)] a2d a7H (qP Tryz.prog (xV (Instr.build 25 #[(0, g2s), (1, g2u)])) fun g2v =>
 oP E (xCall (fC 25) [g2v]) a7H fun c4z K5 =>
 keepX [] a7H K5 (qP Tryz.prog (eX c4z 0) fun b1j =>
 qP Tryz.prog (eX c4z 1) fun d1e =>
 oP E (sA 25 a1k b1j) K5 fun _z_39 H9 =>
 keepX [] K5 H9 (xcell Tryz.prog 25 a1k H9 fun h8a =>
 R (Value.tuple #[h8a, d1e]) H9)))))
noncomputable def c9 : Code := Tryz.f9.body.getD .skip
def h9 : Hint := (sQ (.seq (sQ (sQ (.cond (sQ .none) .none))) (.seq (sQ (.cond (sQ .none) .none)) (.seq (.reg [(0, 1048576, 4), (1, 2097152, 1048576), (0, 4194304, 4), (4, 8388608, 4194304), (0, 16777216, 2), (24, 33554432, 25165824), (34, 67108864, 35651584), (96, 134217728, 67108864), (128, 268435456, 134217728), (128, 536870912, 134217728), (1023, 0, 268435472), (2047, 32, 536870912)] [10, 8, 10, 2, 10, 2, 10, 0, 10, 10, 0, 10] (.early 0 (.early 2 (.early 4 (.load 1 (.load 3 (.step 5 (.early 6 (.step 7 (.early 8 (.early 9 (.step 10 (.early 11 .done))))))))))))) .none))))
theorem h2W (x0 x1 : Value) (w : World) (R : RT) (E : Pan) : F9 x0 x1 w R E = callX Tryz.prog [.cell 4 25, .tmp 5] c9 h9 [x0, x1] w R E := by kernel_rfl
theorem h2X {x0 x1 : Value} (h : F9 x0 x1 w R E) : Cv Tryz.prog 9 #[x0, x1] w R E := by
 refine i7 (args := [x0, x1]) (c := c9) (h := h9) (rs := [.cell 4 25, .tmp 5]) Tryz.func9 (by kernel_rfl) (by kernel_rfl) (nB (by kernel_rfl)) (by kernel_rfl) (by kernel_rfl) (by kernel_rfl) ?_
 rw [← h2W]
 exact h
def g2w (x4 x6 x8 : Value) (w : World) (R : RT) (E : Pan) : Prop :=
 ∀ _τ : Fr, (oP E (xBin .neq 3 (.tmp 48) (.const (vI 0)) x6 (vI 0)) w fun d1f K6 =>
 xcond d1f
 (oP E (xV (Instr.build 25 #[])) K6 fun g2x M9 =>
 oP E (sA 25 x4 g2x) M9 fun _z_47 O1 =>
 xcell Tryz.prog 25 x4 O1 fun h8b =>
 R (Value.tuple #[h8b, x6]) O1)
 (oP E (lA 25 x8) K6 fun g2y a8Z =>
 oP E (sA 25 x4 g2y) a8Z fun _z_52 b9E =>
 xcell Tryz.prog 25 x4 b9E fun h8c =>
 R (Value.tuple #[h8c, (vI 0)]) b9E))
def g2z (x4 x7 x8 : Value) (w : World) (R : RT) (E : Pan) : Prop :=
 ∀ _τ : Fr, (oP E (lA 25 x8) w fun a8x H9 =>
 oP E (xCall (fC 27) [a8x]) H9 fun b6a I0 =>
 xcut (fun g2A O8 => g2w x4 (nth g2A 0) x8 O8 R E) fun j2 =>
 oP E (xNil x7) I0 fun d0V O9 =>
 oP E (fA 67 d0V 1) O9 fun g2B R8 =>
 oP E (lA 3 g2B) R8 fun g2C Q1 =>
 oP E (xBin .lss 3 (.tmp 42) (.const (vI 0)) g2C (vI 0)) Q1 fun d1g T3 =>
 oP E (gsem (asB d1g) true (xBin .eql 3 (.tmp 45) (.const (vI 0)) (gval (asB d1g) true b6a) (vI 0))) T3 fun g2D U5 =>
 oP E (xPick d1g g2D (vB false)) U5 fun c8N W9 =>
 xcond c8N
 (j2 [(vI 33)] W9)
 (j2 [b6a] W9))
def F10 (x0 x1 : Value) (w : World) (R : RT) (E : Pan) : Prop :=
 oP E (xV (Instr.box 25 x0)) w fun U4 w_2 =>
 oP E (xV (Instr.alloc 25 true (.tuple #[]))) w_2 fun a1k w_4 =>
 oP E (lA 25 U4) w_4 fun c5M w_6 =>
 oP E (xCall (fC 27) [c5M]) w_6 fun b4w w_8 =>
 oP E (xBin .neq 3 (.tmp 11) (.const (vI 0)) b4w (vI 0)) w_8 fun b0R o7 =>
 xcond b0R
 (oP E (xV (Instr.build 25 #[])) o7 fun d1h p7 =>
 oP E (sA 25 a1k d1h) p7 fun _z_13 o8 =>
 xcell Tryz.prog 25 a1k o8 fun b0z =>
 R (Value.tuple #[b0z, b4w]) o8)
 (oP E (xBin .lss 3 (.tmp 15) (.const (vI 0)) x1 (vI 0)) o7 fun b6b a0q =>
 oP E (gsem (asB b6b) false (xBin .gtr 3 (.tmp 18) (.const (vI 8)) (gval (asB b6b) false x1) (vI 8))) a0q fun g2E T2 =>
 oP E (xPick b6b (vB true) g2E) T2 fun g2F Z3 =>
 xcond g2F
 (oP E (xV (Instr.build 25 #[])) Z3 fun g2G a0y =>
 oP E (sA 25 a1k g2G) a0y fun _z_24 a6m =>
 xcell Tryz.prog 25 a1k a6m fun e5f =>
 R (Value.tuple #[e5f, (vI 290)]) a6m)
 (oP E (fA 25 U4 0) Z3 fun b3t C4 =>
 oP E (lA 22 b3t) C4 fun b9S H7 =>
 oP E (xBuiltin .len #[22] 3 [false] [b9S]) H7 fun a7G D6 =>
 oP E (xBin .sub 3 (.const (vI 4096)) (.tmp 25) (vI 4096) a7G) D6 fun g2H A6 =>
 oP E (xV (Instr.build 67 #[(0, x1), (1, g2H)])) A6 fun c4z K5 =>
 oP E (xV (Instr.box 67 c4z)) K5 fun b1j K0 =>
 xcut (fun h8d S3 => g2z a1k b1j (nth h8d 0) S3 R E) fun j1 =>
 dX K0 fun a9a =>
 qP Tryz.prog (fA 25 U4 0) fun b9T =>
 qP Tryz.prog (fA 25 U4 1) fun b3C =>
 qL Tryz.prog a9a (blk b9T) (lA 22 b9T) fun e0R =>
 qL Tryz.prog a9a (blk b3C) (lA 23 b3C) fun d1i =>
 (oP E (xBuiltin .append #[22, 22] 22 [true, false] [(nS), e0R]) a9a fun e0S a9O =>
 keepX [(blk b3C)] a9a a9O ((oP E (xCall (fC 28) [b1j, d1i]) a9O fun g2I a5Y =>
 keepX [] a9O a5Y (qP Tryz.prog (xV (Instr.build 25 #[(0, e0S), (1, g2I)])) fun g2J =>
 oP E (xV (Instr.alloc 25 true (.tuple #[]))) a5Y fun c7C Y5 =>
 keepX [(blk b3C), (blk b9T)] a5Y Y5 (opK Tryz.prog E (sA 25 c7C g2J) Y5 fun _z_83 X0 =>
 keepX [] Y5 X0 (j1 [c7C] X0)))) ∧
 (oP E (xV (Instr.alloc 25 true (.tuple #[]))) a9O fun e8f a0x =>
 keepX [(blk b3C), (blk b9T)] a9O a0x (opK Tryz.prog E (xCall (fC 28) [b1j, d1i]) a0x fun g2K V9 =>
 keepX [] a0x V9 (qP Tryz.prog (xV (Instr.build 25 #[(0, e0S), (1, g2K)])) fun g2L =>
 oP E (sA 25 e8f g2L) V9 fun _z_90 a8n =>
 keepX [] V9 a8n (j1 [e8f] a8n)))))) ∧
 (oP E (xV (Instr.alloc 25 true (.tuple #[]))) a9a fun e8g b7E =>
 keepX [(blk b3C), (blk b9T)] a9a b7E (opK Tryz.prog E (xBuiltin .append #[22, 22] 22 [true, false] [(nS), e0R]) b7E fun g2M a9P =>
 keepX [(blk b3C)] b7E a9P (opK Tryz.prog E (xCall (fC 28) [b1j, d1i]) a9P fun g2N a7d =>
 keepX [] a9P a7d (qP Tryz.prog (xV (Instr.build 25 #[(0, g2M), (1, g2N)])) fun g2O =>
 oP E (sA 25 e8g g2O) a7d fun _z_99 a0W =>
 keepX [] a7d a0W (j1 [e8g] a0W)))))))
noncomputable def c10 : Code := Tryz.f10.body.getD .skip
def F21 (x0 : Value) (w : World) (R : RT) (E : Pan) : Prop :=
 oP E (xV (Instr.box 53 x0)) w fun q7 w_2 =>
 oP E (xV (Instr.alloc 53 true (.tuple #[]))) w_2 fun Q8 w_4 =>
 oP E (lA 53 q7) w_4 fun b6P w_6 =>
 oP E (xCall (fC 39) [b6P]) w_6 fun a5S w_8 =>
 oP E (xBin .neq 27 (.tmp 7) (.const (vI 0)) a5S (vI 0)) w_8 fun a5n o7 =>
 xcond a5n
 (oP E (xV (Instr.build 53 #[])) o7 fun a7g p7 =>
 oP E (sA 53 Q8 a7g) p7 fun _z_13 o8 =>
 xcell Tryz.prog 53 Q8 o8 fun b0z =>
 R (Value.tuple #[b0z, a5S]) o8)
 (oP E (lA 53 q7) o7 fun b2M a0q =>
 oP E (xCall (fC 40) [b2M]) a0q fun d1j T2 =>
 oP E (sA 53 Q8 d1j) T2 fun _z_20 Z3 =>
 xcell Tryz.prog 53 Q8 Z3 fun e5g =>
 R (Value.tuple #[e5g, (vI 0)]) Z3)
noncomputable def c21 : Code := Tryz.f21.body.getD .skip
def h21 : Hint := (sQ (.seq (sQ (sQ (.cond (sQ .none) .none))) (sQ .none)))
theorem g2P (x0 : Value) (w : World) (R : RT) (E : Pan) : F21 x0 w R E = callX Tryz.prog [.cell 2 53, .tmp 3] c21 h21 [x0] w R E := by kernel_rfl
theorem g2Q {x0 : Value} (h : F21 x0 w R E) : Cv Tryz.prog 21 #[x0] w R E := by
 refine i7 (args := [x0]) (c := c21) (h := h21) (rs := [.cell 2 53, .tmp 3]) Tryz.func21 (by kernel_rfl) (by kernel_rfl) (nB (by kernel_rfl)) (by kernel_rfl) (by kernel_rfl) (by kernel_rfl) ?_
 rw [← g2P]
 exact h
def F22 (x0 : Value) (w : World) (R : RT) (E : Pan) : Prop :=
 oP E (xV (Instr.alloc 53 true (.tuple #[]))) w fun U4 w_2 =>
 oP E (xV (Instr.build 53 #[(0, (vI 1)), (1, x0)])) w_2 fun a1k w_4 =>
 oP E (sA 53 U4 a1k) w_4 fun _z_5 w_6 =>
 xcell Tryz.prog 53 U4 w_6 fun r_7 =>
 R r_7 w_6
noncomputable def c22 : Code := Tryz.f22.body.getD .skip
def h22 : Hint := (sQ (sQ .none))
theorem g2R (x0 : Value) (w : World) (R : RT) (E : Pan) : F22 x0 w R E = callX Tryz.prog [.cell 2 53] c22 h22 [x0] w R E := by kernel_rfl
theorem g2S {x0 : Value} (h : F22 x0 w R E) : Cv Tryz.prog 22 #[x0] w R E := by
 refine i7 (args := [x0]) (c := c22) (h := h22) (rs := [.cell 2 53]) Tryz.func22 (by kernel_rfl) (by kernel_rfl) (nB (by kernel_rfl)) (by kernel_rfl) (by kernel_rfl) (by kernel_rfl) ?_
 rw [← g2R]
 exact h
def F23 (x0 : Value) (w : World) (R : RT) (E : Pan) : Prop :=
 oP E (xV (Instr.box 59 x0)) w fun q7 w_2 =>
 oP E (xV (Instr.alloc 59 true (.tuple #[]))) w_2 fun Q8 w_4 =>
 oP E (lA 59 q7) w_4 fun b6P w_6 =>
 oP E (xCall (fC 41) [b6P]) w_6 fun a5S w_8 =>
 oP E (xBin .neq 27 (.tmp 7) (.const (vI 0)) a5S (vI 0)) w_8 fun a5n o7 =>
 xcond a5n
 (oP E (xV (Instr.build 59 #[])) o7 fun a7g p7 =>
 oP E (sA 59 Q8 a7g) p7 fun _z_13 o8 =>
 xcell Tryz.prog 59 Q8 o8 fun b0z =>
 R (Value.tuple #[b0z, a5S]) o8)
 (oP E (lA 59 q7) o7 fun b2M a0q =>
 oP E (xCall (fC 42) [b2M]) a0q fun d1j T2 =>
 oP E (sA 59 Q8 d1j) T2 fun _z_20 Z3 =>
 xcell Tryz.prog 59 Q8 Z3 fun e5g =>
 R (Value.tuple #[e5g, (vI 0)]) Z3)
noncomputable def c23 : Code := Tryz.f23.body.getD .skip
def h23 : Hint := (sQ (.seq (sQ (sQ (.cond (sQ .none) .none))) (sQ .none)))
theorem g2T (x0 : Value) (w : World) (R : RT) (E : Pan) : F23 x0 w R E = callX Tryz.prog [.cell 2 59, .tmp 3] c23 h23 [x0] w R E := by kernel_rfl
theorem g2U {x0 : Value} (h : F23 x0 w R E) : Cv Tryz.prog 23 #[x0] w R E := by
 refine i7 (args := [x0]) (c := c23) (h := h23) (rs := [.cell 2 59, .tmp 3]) Tryz.func23 (by kernel_rfl) (by kernel_rfl) (nB (by kernel_rfl)) (by kernel_rfl) (by kernel_rfl) (by kernel_rfl) ?_
 rw [← g2T]
 exact h
def d1k (x5 : Value) (w : World) (R : RT) (_E : Pan) : Prop :=
 ∀ _τ : Fr, (R x5 w)
def d1l (_x1 x5 _x11 _x12 x13 : Value) (w : World) (next2 : NT) (_R : RT) (E : Pan) : Prop :=
 ∀ _τ : Fr, (oP E (xBin .add 3 (.tmp 13) (.const (vI 1)) x13 (vI 1)) w fun h2Y w_8 =>
 next2 [x5, h2Y] w_8)
def d1m (_x1 x5 x8 _x11 _x12 _x13 : Value) (w : World) (j3 : NT) (_R : RT) (E : Pan) : Prop :=
 ∀ _τ : Fr, (oP E (lA 73 x8) w fun g2V b1D =>
 oP E (xV (Instr.buildSlice 23 1 #[(0, g2V)])) b1D fun g2W b3o =>
 oP E (xBuiltin .append #[23, 23] 23 [false, false] [x5, g2W]) b3o fun g2X b4S =>
 j3 [g2X] b4S)
def d1n (_x1 _x5 x7 x8 _x9 x10 _x11 _x12 _x13 _x37 x38 : Value) (w : World) (next5 : NT) (_R : RT) (E : Pan) : Prop :=
 ∀ _τ : Fr, (oP E (fA 73 x7 3) w fun g2Y b1x =>
 oP E (lA 57 g2Y) b1x fun c3J a6Z =>
 oP E (xV (Instr.build 73 #[(0, (vI 3)), (3, c3J), (4, x10)])) a6Z fun c8O d1o =>
 oP E (sA 73 x8 c8O) d1o fun _z_70 a9a =>
 oP E (xBin .add 3 (.tmp 38) (.const (vI 1)) x38 (vI 1)) a9a fun g2Z c2j =>
 next5 [g2Z] c2j)
def e0T (x1 x5 x7 x8 x9 x11 x12 x13 x37 x38 : Value) (w : World) (next5 : NT) (j4 : NT) (R : RT) (E : Pan) : Prop :=
 oP E (xBin .lss 3 (.tmp 38) (.tmp 37) x38 x37) w fun c8M b3D =>
 xcond c8M
 (xcut (fun h8e b9U => d1n x1 x5 x7 x8 x9 (nth h8e 0) x11 x12 x13 x37 x38 b9U next5 R E) fun j6 =>
 dX b3D fun Y4 =>
 qL Tryz.prog Y4 (blk x8) (lA 73 x8) fun e0U =>
 (oP E (xBuiltin .append #[23, 23] 23 [true, false] [(nS), x9]) Y4 fun g3a a5Y =>
 keepX [(blk x8)] Y4 a5Y (opK Tryz.prog E (xV (Instr.buildSlice 23 1 #[(0, e0U)])) a5Y fun g3b b5l =>
 keepX [] a5Y b5l (opK Tryz.prog E (xBuiltin .append #[23, 23] 23 [false, false] [g3a, g3b]) b5l fun g3c b7F =>
 keepX [] b5l b7F (j6 [g3c] b7F)))) ∧
 (oP E (xV (Instr.buildSlice 23 1 #[(0, e0U)])) Y4 fun g3d b9V =>
 keepX [] Y4 b9V (opK Tryz.prog E (xBuiltin .append #[23, 23] 23 [true, false] [(nS), x9]) b9V fun g3e b9W =>
 keepX [(blk x8)] b9V b9W (opK Tryz.prog E (xBuiltin .append #[23, 23] 23 [false, false] [g3e, g3d]) b9W fun g3f b3E =>
 keepX [] b9W b3E (j6 [g3f] b3E)))))
 (j4 [] b3D)
def e0V (x1 x5 x11 x12 x13 : Value) (w : World) (next2 : NT) (j1 : NT) (R : RT) (E : Pan) : Prop :=
 oP E (xBin .lss 3 (.tmp 13) (.tmp 12) x13 x12) w fun c7D w_6 =>
 xcond c7D
 (xcut (fun l_9 o7 => d1l x1 (nth l_9 0) x11 x12 x13 o7 next2 R E) fun j3 =>
 oP E (iA 23 x11 x13) w_6 fun a5P p7 =>
 oP E (lA 73 a5P) p7 fun b9N o8 =>
 oP E (xV (Instr.alloc 73 true (.tuple #[]))) o8 fun a5i r5 =>
 oP E (sA 73 a5i b9N) r5 fun _z_17 t8 =>
 dX t8 fun T2 =>
 qP Tryz.prog (fA 73 a5i 4) fun e0W =>
 qP Tryz.prog (fA 73 a5i 5) fun d1p =>
 qL Tryz.prog T2 (blk e0W) (lA 23 e0W) fun c9Q =>
 qL Tryz.prog T2 (blk d1p) (lA 23 d1p) fun c9e =>
 oP E (xCall (fC 26) [c9Q, x1]) T2 fun g3g a6m =>
 keepX [(blk d1p)] T2 a6m (qP Tryz.prog (fA 73 a5i 4) fun g3h =>
 oP E (xCall (fC 26) [c9e, x1]) a6m fun g3i C4 =>
 keepX [] a6m C4 (opK Tryz.prog E (sA 23 g3h g3g) C4 fun _z_29 H7 =>
 keepX [] C4 H7 (qP Tryz.prog (fA 73 a5i 5) fun g3j =>
 oP E (sA 23 g3j g3i) H7 fun _z_32 a7H =>
 keepX [] H7 a7H (opK Tryz.prog E (fA 73 a5i 0) a7H fun g3k a7c =>
 oP E (lA 3 g3k) a7c fun g3l b0u =>
 oP E (xBin .neq 3 (.tmp 28) (.const (vI 4)) g3l (vI 4)) b0u fun d1e b1B =>
 xcond d1e
 (oP E (lA 73 a5i) b1B fun g3m b2O =>
 oP E (xV (Instr.buildSlice 23 1 #[(0, g3m)])) b2O fun g3n b1w =>
 oP E (xBuiltin .append #[23, 23] 23 [false, false] [x5, g3n]) b1w fun g3o a8H =>
 j3 [g3o] a8H)
 (dX b1B fun M9 =>
 qP Tryz.prog (fA 73 a5i 4) fun b5Y =>
 qL Tryz.prog M9 (blk a5i) (lA 73 a5i) fun g3p =>
 qL Tryz.prog M9 (blk b5Y) (lA 23 b5Y) fun d0U =>
 oP E (xV (Instr.alloc 73 true (.tuple #[]))) M9 fun d7e a8Z =>
 keepX [(blk b5Y), (blk a5i)] M9 a8Z (opK Tryz.prog E (sA 73 d7e g3p) a8Z fun _z_52 b9E =>
 keepX [(blk b5Y)] a8Z b9E (xcut (fun _ b7i => d1m x1 x5 d7e x11 x12 x13 b7i j3 R E) fun j4 =>
 xloop [38] [(vI 0)] b9E fun τ_90 a8n next5 =>
 e0T x1 x5 a5i d7e d0U x11 x12 x13 x1 (τ_90 38) a8n next5 j4 R E))))))))
 (j1 [x5] w_6)
def F26 (x0 x1 : Value) (w : World) (R : RT) (E : Pan) : Prop :=
 xcut (fun l_1 w_2 => d1k (nth l_1 0) w_2 R E) fun j1 =>
 oP E (xBuiltin .len #[23] 3 [false] [x0]) w fun c4A w_4 =>
 xloop [5, 13] [(nS), (vI 0)] w_4 fun τ_92 b7E next2 =>
 e0V x1 (τ_92 5) x0 c4A (τ_92 13) b7E next2 j1 R E
noncomputable def c26 : Code := Tryz.f26.body.getD .skip
def h26 : Hint := (sQ (sQ (.cut [5] (sQ (.block (.loop [5, 13] (sQ (.seq (.cond .none .none) (.cut [5] (.block (sQ (.seq (.reg [(0, 131072, 128), (1, 262144, 131072), (0, 524288, 2), (6, 1048576, 786432), (0, 2097152, 128), (16, 4194304, 2097152), (0, 8388608, 2), (104, 16777216, 12582912), (63, 33554432, 128), (447, 0, 34603008), (1023, 67108864, 128), (2047, 0, 83886080)] [34, 32, 34, 32, 34, 2, 34, 0, 34, 0, 34, 0] (.early 0 (.early 2 (.early 4 (.early 6 (.load 1 (.load 5 (.step 3 (.early 8 (.step 7 (.step 9 (.early 10 (.step 11 .done))))))))))))) (.seq (sQ (.cond (sQ .none) .none)) (.seq (.reg [(0, 17179869184, 128), (0, 34359738368, 128), (2, 68719476736, 34359738368), (0, 256, 0), (9, 0, 17179869440), (31, 512, 68719476736)] [4, 5, 1, 5, 4, 5] (.early 1 (.load 0 (.load 2 (.step 3 (.step 4 (.early 5 .done))))))) (.cut [] (sQ (.block (.loop [38] (sQ (.seq (.cond .none .none) (.seq (.block (.cut [10] (.reg [(0, 1099511627776, 512), (1, 2199023255552, 1099511627776), (0, 4398046511104, 256), (4, 8796093022208, 4398046511104), (10, 17592186044416, 10995116277760), (31, 1024, 17592186044416)] [4, 4, 0, 0, 0, 4] (.early 0 (.load 2 (.alt 1 (.step 3 (.step 4 (.early 5 .done))) (.step 3 (.step 1 (.step 4 (.early 5 .done)))))))) .none)) .none)))))) .none)))))) .none)))))) (sQ .none))))
theorem g3q (x0 x1 : Value) (w : World) (R : RT) (E : Pan) : F26 x0 x1 w R E = callX Tryz.prog [.tmp 4] c26 h26 [x0, x1] w R E := by kernel_rfl
theorem g3r {x0 x1 : Value} (h : F26 x0 x1 w R E) : Cv Tryz.prog 26 #[x0, x1] w R E := by
 refine i7 (args := [x0, x1]) (c := c26) (h := h26) (rs := [.tmp 4]) Tryz.func26 (by kernel_rfl) (by kernel_rfl) (nB (by kernel_rfl)) (by kernel_rfl) (by kernel_rfl) (by kernel_rfl) ?_
 rw [← g3q]
 exact h
def d1q (x1 x2 : Value) (w : World) (R : RT) (E : Pan) : Prop :=
 ∀ _τ : Fr, (oP E (lA 53 x1) w fun g3s I0 =>
 oP E (sA 53 x2 g3s) I0 fun _z_43 K6 =>
 xcell Tryz.prog 53 x2 K6 fun h8f =>
 R h8f K6)
def d1r (x1 x2 : Value) (w : World) (j1 : NT) (R : RT) (E : Pan) : Prop :=
 ∀ _τ : Fr, (oP E (fA 53 x1 3) w fun g3t b9E =>
 oP E (lA 51 g3t) b9E fun g3u b1D =>
 oP E (iA 51 g3u (vI 1)) b1D fun g3v b3o =>
 oP E (lA 53 g3v) b3o fun g3w b4S =>
 oP E (xCall (fC 70) [g3w, (vI 1)]) b4S fun g3x b7i =>
 xcond g3x
 (oP E (fA 53 x1 3) b7i fun g3y b3D =>
 oP E (lA 51 g3y) b3D fun g3z b1x =>
 oP E (iA 51 g3z (vI 0)) b1x fun g3A a6Z =>
 oP E (lA 53 g3A) a6Z fun g3B d1o =>
 oP E (sA 53 x2 g3B) d1o fun _z_70 a9a =>
 xcell Tryz.prog 53 x2 a9a fun h8g =>
 R h8g a9a)
 (j1 [] b7i))
def d1s (x1 x2 x7 : Value) (w : World) (j1 : NT) (R : RT) (E : Pan) : Prop :=
 ∀ _τ : Fr, (oP E (fA 53 x1 3) w fun d1t Y4 =>
 oP E (lA 51 d1t) Y4 fun b1d Z4 =>
 oP E (iA 51 b1d (vI 1)) Z4 fun d1u a2e =>
 oP E (lA 53 d1u) a2e fun b9R Y5 =>
 oP E (xCall (fC 70) [b9R, x7]) Y5 fun c9O X0 =>
 xcond c9O
 (oP E (fA 53 x1 3) X0 fun c9P a0x =>
 oP E (lA 51 c9P) a0x fun g3C V9 =>
 oP E (iA 51 g3C (vI 0)) V9 fun g3D a3y =>
 oP E (lA 53 g3D) a3y fun g3E a5o =>
 oP E (sA 53 x2 g3E) a5o fun _z_93 a3M =>
 xcell Tryz.prog 53 x2 a3M fun h8h =>
 R h8h a3M)
 (j1 [] X0))
def F40 (x0 : Value) (w : World) (R : RT) (E : Pan) : Prop :=
 oP E (xV (Instr.box 53 x0)) w fun q7 w_2 =>
 oP E (xV (Instr.alloc 53 true (.tuple #[]))) w_2 fun Q8 w_4 =>
 oP E (fA 53 q7 3) w_4 fun b5k w_6 =>
 oP E (lA 51 b5k) w_6 fun d0M w_8 =>
 oP E (xCall (fC 66) [d0M, (fC 40)]) w_8 fun c4w o7 =>
 oP E (fA 53 q7 3) o7 fun a6R p7 =>
 oP E (sA 51 a6R c4w) p7 fun _z_13 o8 =>
 oP E (lA 53 q7) o8 fun a7s r5 =>
 oP E (xCall (fC 67) [a7s]) r5 fun a9v t8 =>
 oP E (eX a9v 0) t8 fun a3v t7 =>
 oP E (eX a9v 1) t7 fun a3W u6 =>
 xcond a3W
 (oP E (xCall (fC 68) [a3v]) u6 fun d1v v6 =>
 oP E (sA 53 Q8 d1v) v6 fun _z_25 y7 =>
 xcell Tryz.prog 53 Q8 y7 fun h8i =>
 R h8i y7)
 (oP E (lA 53 q7) u6 fun g3F a9H =>
 oP E (xCall (fC 69) [g3F]) a9H fun e0X a8o =>
 oP E (eX e0X 0) a8o fun g3G a7H =>
 oP E (eX e0X 1) a7H fun g3H a7c =>
 xcond g3H
 (oP E (xCall (fC 68) [g3G]) a7c fun g3I b0u =>
 oP E (sA 53 Q8 g3I) b0u fun _z_38 b1B =>
 xcell Tryz.prog 53 Q8 b1B fun h8j =>
 R h8j b1B)
 (xcut (fun _ b8X => d1q q7 Q8 b8X R E) fun j1 =>
 oP E (fA 53 q7 0) a7c fun g3J b0f =>
 oP E (lA 3 g3J) b0f fun c4B a8Z =>
 xcut (fun _ a0O => d1r q7 Q8 a0O j1 R E) fun j2 =>
 xcut (fun _ a7d => d1s q7 Q8 (vI 0) a7d j1 R E) fun j3 =>
 oP E (xBin .eql 3 (.tmp 29) (.const (vI 6)) c4B (vI 6)) a8Z fun g3K b7G =>
 xcond g3K
 (oP E (fA 53 q7 3) b7G fun f2e b7H =>
 oP E (lA 51 f2e) b7H fun f2f b7I =>
 oP E (iA 51 f2f (vI 0)) b7I fun f2g b4x =>
 oP E (lA 53 f2g) b4x fun f2h e8h =>
 oP E (xCall (fC 70) [f2h, (vI 0)]) e8h fun f2i c0Z =>
 xcond f2i
 (oP E (fA 53 q7 3) c0Z fun f2j d7f =>
 oP E (lA 51 f2j) d7f fun f2k d7g =>
 oP E (iA 51 f2k (vI 1)) d7g fun f2l c4C =>
 oP E (lA 53 f2l) c4C fun f2m d7h =>
 oP E (sA 53 Q8 f2m) d7h fun _z_118 c4D =>
 xcell Tryz.prog 53 Q8 c4D fun h2Z =>
 R h2Z c4D)
 (j3 [] c0Z))
 (oP E (xBin .eql 3 (.tmp 29) (.const (vI 7)) c4B (vI 7)) b7G fun f2n a6o =>
 xcond f2n
 (j3 [] a6o)
 (oP E (xBin .eql 3 (.tmp 29) (.const (vI 8)) c4B (vI 8)) a6o fun f2o a7V =>
 xcond f2o
 (oP E (fA 53 q7 3) a7V fun f2p a8C =>
 oP E (lA 51 f2p) a8C fun f2q a9y =>
 oP E (iA 51 f2q (vI 0)) a9y fun f2r a7h =>
 oP E (lA 53 f2r) a7h fun f2s a5a =>
 oP E (xCall (fC 70) [f2s, (vI 1)]) a5a fun b0A a5b =>
 oP E (gsem (asB b0A) true (fA 53 q7 3)) a5b fun f2t a7U =>
 oP E (gsem (asB b0A) true (lA 51 f2t)) a7U fun f2u a9x =>
 oP E (gsem (asB b0A) true (iA 51 f2u (vI 1))) a9x fun f2v b0P =>
 oP E (gsem (asB b0A) true (lA 53 f2v)) b0P fun f2w b1V =>
 oP E (gsem (asB b0A) true (xCall (fC 70) [f2w, (vI 1)])) b1V fun f2x b1W =>
 oP E (gsem (asB b0A) true (xV (Op.unary .not f2x))) b1W fun f2y b0Q =>
 oP E (xPick b0A f2y (vB false)) b0Q fun f2z b6Q =>
 xcond f2z
 (oP E (fA 53 q7 3) b6Q fun f2A c3Y =>
 oP E (lA 51 f2A) c3Y fun f2B c0J =>
 oP E (iA 51 f2B (vI 1)) c0J fun f2C c4b =>
 oP E (lA 53 f2C) c4b fun f2D c0M =>
 oP E (sA 53 Q8 f2D) c0M fun _z_157 b6R =>
 xcell Tryz.prog 53 Q8 b6R fun h3a =>
 R h3a b6R)
 (j2 [] b6Q))
 (oP E (xBin .eql 3 (.tmp 29) (.const (vI 9)) c4B (vI 9)) a7V fun f2E c4E =>
 xcond f2E
 (j2 [] c4E)
 (j1 [] c4E))))))
noncomputable def c40 : Code := Tryz.f40.body.getD .skip
def h40 : Hint := (sQ (sQ (.seq (sQ (sQ (.cond (sQ .none) .none))) (.seq (sQ (sQ (.cond (sQ .none) .none))) (sQ (.cut [] (sQ (.block (.cut [] (.block (.seq (.block (.cut [] (.block (.seq (.block (.seq (.seq (sQ (.cond .none .none)) (.seq (sQ (.cond .none .none)) (.seq (sQ (.cond .none .none)) (sQ (.cond .none .none))))) .none)) (sQ (.cond (sQ .none) .none)))) (.seq (sQ (.cond (sQ .none) .none)) .none))) (sQ (.cond (sQ .none) .none)))) (.seq (sQ (.cond (sQ .none) .none)) .none)))) (sQ .none)))))))
theorem g3L (x0 : Value) (w : World) (R : RT) (E : Pan) : F40 x0 w R E = callX Tryz.prog [.cell 2 53] c40 h40 [x0] w R E := by kernel_rfl
theorem g3M {x0 : Value} (h : F40 x0 w R E) : Cv Tryz.prog 40 #[x0] w R E := by
 refine i7 (args := [x0]) (c := c40) (h := h40) (rs := [.cell 2 53]) Tryz.func40 (by kernel_rfl) (by kernel_rfl) (nB (by kernel_rfl)) (by kernel_rfl) (by kernel_rfl) (by kernel_rfl) ?_
 rw [← g3L]
 exact h
def d1w (x1 x2 : Value) (w : World) (R : RT) (E : Pan) : Prop :=
 ∀ _τ : Fr, (oP E (lA 59 x1) w fun g3N Z3 =>
 oP E (sA 59 x2 g3N) Z3 fun _z_22 a0y =>
 xcell Tryz.prog 59 x2 a0y fun e5h =>
 R e5h a0y)
def F42 (x0 : Value) (w : World) (R : RT) (E : Pan) : Prop :=
 oP E (xV (Instr.box 59 x0)) w fun q7 w_2 =>
 oP E (xV (Instr.alloc 59 true (.tuple #[]))) w_2 fun Q8 w_4 =>
 dX w_4 fun w_5 =>
 qP Tryz.prog (fA 59 q7 2) fun g3O =>
 qP Tryz.prog (fA 59 q7 3) fun a9w =>
 qL Tryz.prog w_5 (blk g3O) (lA 51 g3O) fun h8k =>
 qL Tryz.prog w_5 (blk a9w) (lA 57 a9w) fun b0R =>
 oP E (xCall (fC 66) [h8k, (fC 40)]) w_5 fun d1x R7 =>
 keepX [(blk a9w)] w_5 R7 (qP Tryz.prog (fA 59 q7 2) fun g3P =>
 oP E (xCall (fC 71) [b0R, (fC 42)]) R7 fun b9Q o8 =>
 keepX [] R7 o8 (opK Tryz.prog E (sA 51 g3P d1x) o8 fun _z_15 r5 =>
 keepX [] o8 r5 (qP Tryz.prog (fA 59 q7 3) fun d1y =>
 oP E (sA 57 d1y b9Q) r5 fun _z_18 T2 =>
 keepX [] r5 T2 (xcut (fun _ y7 => d1w q7 Q8 y7 R E) fun j1 =>
 oP E (fA 59 q7 0) T2 fun g3Q C4 =>
 oP E (lA 3 g3Q) C4 fun c4F H7 =>
 oP E (xBin .eql 3 (.tmp 17) (.const (vI 3)) c4F (vI 3)) H7 fun c8U D6 =>
 xcond c8U
 (oP E (fA 59 q7 2) D6 fun b5J A6 =>
 oP E (lA 51 b5J) A6 fun b9l K5 =>
 oP E (iA 51 b9l (vI 0)) K5 fun b9m K0 =>
 oP E (lA 53 b9m) K0 fun c9M H9 =>
 oP E (xCall (fC 67) [c9M]) H9 fun e0Y I0 =>
 oP E (eX e0Y 0) I0 fun g3R K6 =>
 oP E (eX e0Y 1) K6 fun e0Z M9 =>
 oP E (fA 59 q7 2) M9 fun b5Z O1 =>
 oP E (lA 51 b5Z) O1 fun g3S N8 =>
 oP E (iA 51 g3S (vI 1)) N8 fun g3T M2 =>
 oP E (lA 53 g3T) M2 fun g3U O0 =>
 oP E (xCall (fC 67) [g3U]) O0 fun e1a O8 =>
 oP E (eX e1a 0) O8 fun g3V O9 =>
 oP E (eX e1a 1) O9 fun g3W R8 =>
 oP E (xPick e0Z (gval (asB e0Z) true g3W) (vB false)) R8 fun d1z Q1 =>
 xcond d1z
 (oP E (fA 59 q7 1) Q1 fun d1A T3 =>
 oP E (lA 3 d1A) T3 fun d1B U5 =>
 oP E (xCall (fC 73) [d1B, g3R, g3V]) U5 fun b9g W9 =>
 oP E (xCall (fC 72) [b9g]) W9 fun g3X S3 =>
 oP E (sA 59 Q8 g3X) S3 fun _z_71 Z1 =>
 xcell Tryz.prog 59 Q8 Z1 fun h8l =>
 R h8l Z1)
 (j1 [] Q1))
 (oP E (xBin .eql 3 (.tmp 17) (.const (vI 4)) c4F (vI 4)) D6 fun g3Y b9U =>
 xcond g3Y
 (oP E (fA 59 q7 3) b9U fun g3Z a9O =>
 oP E (lA 57 g3Z) a9O fun g4a a5Y =>
 oP E (iA 57 g4a (vI 0)) a5Y fun g4b b5l =>
 oP E (fA 59 g4b 0) b5l fun g4c b7F =>
 oP E (lA 3 g4c) b7F fun d1C b9V =>
 oP E (xBin .eql 3 (.tmp 53) (.const (vI 1)) d1C (vI 1)) b9V fun d1D b9W =>
 oP E (gsem (asB d1D) false (xBin .eql 3 (.tmp 56) (.const (vI 2)) (gval (asB d1D) false d1C) (vI 2))) b9W fun g4d b3E =>
 oP E (xPick d1D (vB true) g4d) b3E fun g4e a8n =>
 xcond g4e
 (oP E (xBin .eql 3 (.tmp 59) (.const (vI 2)) d1C (vI 2)) a8n fun g4f b7E =>
 oP E (xCall (fC 72) [g4f]) b7E fun g4g a9P =>
 oP E (sA 59 Q8 g4g) a9P fun _z_96 a7d =>
 xcell Tryz.prog 59 Q8 a7d fun h8m =>
 R h8m a7d)
 (j1 [] a8n))
 (oP E (xBin .eql 3 (.tmp 17) (.const (vI 5)) c4F (vI 5)) b9U fun g4h a0W =>
 xcond g4h
 (oP E (lA 59 q7) a0W fun f2F Z5 =>
 oP E (xCall (fC 74) [f2F, (vI 1), (vI 2)]) Z5 fun f2G a0H =>
 oP E (sA 59 Q8 f2G) a0H fun _z_105 a3D =>
 xcell Tryz.prog 59 Q8 a3D fun h3b =>
 R h3b a3D)
 (oP E (xBin .eql 3 (.tmp 17) (.const (vI 6)) c4F (vI 6)) a0W fun f2H c0Z =>
 xcond f2H
 (oP E (lA 59 q7) c0Z fun f2I d7f =>
 oP E (xCall (fC 74) [f2I, (vI 2), (vI 1)]) d7f fun f2J d7g =>
 oP E (sA 59 Q8 f2J) d7g fun _z_114 c4C =>
 xcell Tryz.prog 59 Q8 c4C fun h3c =>
 R h3c c4C)
 (j1 [] c0Z))))))))
noncomputable def c42 : Code := Tryz.f42.body.getD .skip
def h42 : Hint := (sQ (.seq (.reg [(0, 256, 2), (1, 512, 256), (2, 1024, 512), (0, 2048, 2), (8, 4096, 2048), (20, 8192, 4096), (31, 16384, 2), (127, 0, 17408), (255, 32768, 2), (511, 0, 40960)] [18, 16, 16, 18, 2, 0, 18, 0, 18, 0] (.early 0 (.early 3 (.load 1 (.load 4 (.step 2 (.early 6 (.step 5 (.step 7 (.early 8 (.step 9 .done))))))))))) (.cut [] (sQ (.block (sQ (.cond (sQ (sQ (sQ (.cond (sQ .none) .none)))) (sQ (.cond (sQ (sQ (.cond (sQ .none) .none))) (sQ (.cond (sQ .none) (sQ (.cond (sQ .none) .none)))))))))) (sQ .none))))
theorem g4i (x0 : Value) (w : World) (R : RT) (E : Pan) : F42 x0 w R E = callX Tryz.prog [.cell 2 59] c42 h42 [x0] w R E := by kernel_rfl
theorem g4j {x0 : Value} (h : F42 x0 w R E) : Cv Tryz.prog 42 #[x0] w R E := by
 refine i7 (args := [x0]) (c := c42) (h := h42) (rs := [.cell 2 59]) Tryz.func42 (by kernel_rfl) (by kernel_rfl) (nB (by kernel_rfl)) (by kernel_rfl) (by kernel_rfl) (by kernel_rfl) ?_
 rw [← g4i]
 exact h
def d1E (x5 : Value) (w : World) (R : RT) (_E : Pan) : Prop :=
 ∀ _τ : Fr, (R x5 w)
def e1b (x1 x5 x8 x9 x10 : Value) (w : World) (next2 : NT) (j1 : NT) (_R : RT) (E : Pan) : Prop :=
 oP E (xBin .lss 3 (.tmp 10) (.tmp 9) x10 x9) w fun a4Z w_6 =>
 xcond a4Z
 (oP E (iA 51 x8 x10) w_6 fun a2Z w_8 =>
 oP E (lA 53 a2Z) w_8 fun a3b o7 =>
 oP E (xV (Instr.alloc 53 true (.tuple #[]))) o7 fun U1 p7 =>
 oP E (sA 53 U1 a3b) p7 fun _z_13 o8 =>
 oP E (lA 53 U1) o8 fun a3x r5 =>
 oP E (xCall x1 [a3x]) r5 fun a1D t8 =>
 oP E (xV (Instr.buildSlice 51 1 #[(0, a1D)])) t8 fun a1E t7 =>
 oP E (xBuiltin .append #[51, 51] 51 [false, false] [x5, a1E]) t7 fun a1F u6 =>
 oP E (xBin .add 3 (.tmp 10) (.const (vI 1)) x10 (vI 1)) u6 fun a1G v6 =>
 next2 [a1F, a1G] v6)
 (j1 [x5] w_6)
def F66 (x0 x1 : Value) (w : World) (R : RT) (E : Pan) : Prop :=
 xcut (fun l_1 w_2 => d1E (nth l_1 0) w_2 R E) fun j1 =>
 oP E (xBuiltin .len #[51] 3 [false] [x0]) w fun a0N w_4 =>
 xloop [5, 10] [(nS), (vI 0)] w_4 fun τ_25 y7 next2 =>
 e1b x1 (τ_25 5) x0 a0N (τ_25 10) y7 next2 j1 R E
noncomputable def c66 : Code := Tryz.f66.body.getD .skip
def h66 : Hint := (sQ (sQ (.cut [5] (sQ (.block (.loop [5, 10] (sQ (.seq (.cond .none .none) (.seq (.block (sQ .none)) .none)))))) (sQ .none))))
theorem g4k (x0 x1 : Value) (w : World) (R : RT) (E : Pan) : F66 x0 x1 w R E = callX Tryz.prog [.tmp 4] c66 h66 [x0, x1] w R E := by kernel_rfl
theorem g4l {x0 x1 : Value} (h : F66 x0 x1 w R E) : Cv Tryz.prog 66 #[x0, x1] w R E := by
 refine i7 (args := [x0, x1]) (c := c66) (h := h66) (rs := [.tmp 4]) Tryz.func66 (by kernel_rfl) (by kernel_rfl) (nB (by kernel_rfl)) (by kernel_rfl) (by kernel_rfl) (by kernel_rfl) ?_
 rw [← g4k]
 exact h
def F67 (x0 : Value) (w : World) (R : RT) (E : Pan) : Prop :=
 oP E (xV (Instr.box 53 x0)) w fun q7 w_2 =>
 oP E (fA 53 q7 0) w_2 fun b4T w_4 =>
 oP E (lA 3 b4T) w_4 fun a9s w_6 =>
 oP E (xBin .eql 3 (.tmp 6) (.const (vI 1)) a9s (vI 1)) w_6 fun b1v w_8 =>
 xcond b1v
 (oP E (fA 53 q7 1) w_8 fun a5n o7 =>
 oP E (lA 2 a5n) o7 fun a7g p7 =>
 R (Value.tuple #[a7g, (vB true)]) p7)
 (oP E (fA 53 q7 0) w_8 fun a4Y o8 =>
 oP E (lA 3 a4Y) o8 fun b2I r5 =>
 oP E (xBin .eql 3 (.tmp 12) (.const (vI 5)) b2I (vI 5)) r5 fun U7 t8 =>
 oP E (gsem (asB U7) true (fA 53 q7 3)) t8 fun a3v t7 =>
 oP E (gsem (asB U7) true (lA 51 a3v)) t7 fun a3W u6 =>
 oP E (gsem (asB U7) true (iA 51 a3W (vI 0))) u6 fun a7p v6 =>
 oP E (gsem (asB U7) true (fA 53 a7p 0)) v6 fun a3w y7 =>
 oP E (gsem (asB U7) true (lA 3 a3w)) y7 fun a7q C4 =>
 oP E (gsem (asB U7) true (xBin .eql 3 (.tmp 19) (.const (vI 1)) a7q (vI 1))) C4 fun b8O H7 =>
 oP E (xPick U7 b8O (vB false)) H7 fun a8r D6 =>
 xcond a8r
 (oP E (fA 53 q7 3) D6 fun a5N A6 =>
 oP E (lA 51 a5N) A6 fun d1F K5 =>
 oP E (iA 51 d1F (vI 0)) K5 fun d1G K0 =>
 oP E (fA 53 d1G 1) K0 fun d1H H9 =>
 oP E (lA 2 d1H) H9 fun d1I I0 =>
 oP E (xV (Op.unary .neg d1I)) I0 fun d1J K6 =>
 R (Value.tuple #[d1J, (vB true)]) K6)
 (R (Value.tuple #[(vI 0), (vB false)]) D6))
noncomputable def c67 : Code := Tryz.f67.body.getD .skip
def h67 : Hint := (sQ (.seq (.block (sQ (.cond (sQ .none) (sQ (.cond (sQ .none) .none))))) (sQ .none)))
theorem g4m (x0 : Value) (w : World) (R : RT) (E : Pan) : F67 x0 w R E = callX Tryz.prog [.tmp 2, .tmp 3] c67 h67 [x0] w R E := by kernel_rfl
theorem g4n {x0 : Value} (h : F67 x0 w R E) : Cv Tryz.prog 67 #[x0] w R E := by
 refine i7 (args := [x0]) (c := c67) (h := h67) (rs := [.tmp 2, .tmp 3]) Tryz.func67 (by kernel_rfl) (by kernel_rfl) (nB (by kernel_rfl)) (by kernel_rfl) (by kernel_rfl) (by kernel_rfl) ?_
 rw [← g4m]
 exact h
def F68 (x0 : Value) (w : World) (R : RT) (E : Pan) : Prop :=
 oP E (xV (Instr.alloc 53 true (.tuple #[]))) w fun U4 w_2 =>
 oP E (xBin .lss 2 (.tmp 3) (.const (vI 0)) x0 (vI 0)) w_2 fun a1k w_4 =>
 xcond a1k
 (oP E (xV (Op.unary .neg x0)) w_4 fun a9s w_6 =>
 oP E (xV (Instr.build 53 #[(0, (vI 1)), (1, a9s)])) w_6 fun b1v w_8 =>
 oP E (xV (Instr.buildSlice 51 1 #[(0, b1v)])) w_8 fun a5n o7 =>
 oP E (xV (Instr.build 53 #[(0, (vI 5)), (3, a5n)])) o7 fun a7g p7 =>
 oP E (sA 53 U4 a7g) p7 fun _z_13 o8 =>
 xcell Tryz.prog 53 U4 o8 fun b0z =>
 R b0z o8)
 (oP E (xV (Instr.build 53 #[(0, (vI 1)), (1, x0)])) w_4 fun b2M a0q =>
 oP E (sA 53 U4 b2M) a0q fun _z_18 T2 =>
 xcell Tryz.prog 53 U4 T2 fun e5i =>
 R e5i T2)
noncomputable def c68 : Code := Tryz.f68.body.getD .skip
def h68 : Hint := (sQ (.seq (sQ (.cond (sQ .none) .none)) (sQ .none)))
theorem g4o (x0 : Value) (w : World) (R : RT) (E : Pan) : F68 x0 w R E = callX Tryz.prog [.cell 2 53] c68 h68 [x0] w R E := by kernel_rfl
theorem g4p {x0 : Value} (h : F68 x0 w R E) : Cv Tryz.prog 68 #[x0] w R E := by
 refine i7 (args := [x0]) (c := c68) (h := h68) (rs := [.cell 2 53]) Tryz.func68 (by kernel_rfl) (by kernel_rfl) (nB (by kernel_rfl)) (by kernel_rfl) (by kernel_rfl) (by kernel_rfl) ?_
 rw [← g4o]
 exact h
def d1K (x9 x10 : Value) (w : World) (R : RT) (E : Pan) : Prop :=
 ∀ _τ : Fr, (oP E (xBin .eql 3 (.tmp 91) (.const (vI 0)) x10 (vI 0)) w fun d7i w_6 =>
 oP E (gsem (asB d7i) true (xBin .neq 2 (.tmp 94) (.const (vI (-9223372036854775808))) (gval (asB d7i) true x9) (vI (-9223372036854775808)))) w_6 fun h3d w_8 =>
 oP E (xPick d7i h3d (vB false)) w_8 fun h3e o7 =>
 R (Value.tuple #[x9, h3e]) o7)
def d1L (x1 x4 : Value) (w : World) (R : RT) (E : Pan) : Prop :=
 ∀ _τ : Fr, (xcut (fun d5L p7 => d1K (nth d5L 0) (nth d5L.tail 0) p7 R E) fun j2 =>
 oP E (fA 53 x1 0) w fun g4q o8 =>
 oP E (lA 3 g4q) o8 fun b0Z r5 =>
 oP E (xBin .eql 3 (.tmp 31) (.const (vI 5)) b0Z (vI 5)) r5 fun d0L t8 =>
 xcond d0L
 (oP E (iA 173 x4 (vI 0)) t8 fun g4r t7 =>
 oP E (lA 2 g4r) t7 fun g4s u6 =>
 oP E (xCall (fC 112) [g4s]) u6 fun e1c v6 =>
 oP E (eX e1c 0) v6 fun g4t y7 =>
 oP E (eX e1c 1) y7 fun g4u C4 =>
 j2 [g4t, g4u] C4)
 (oP E (xBin .eql 3 (.tmp 31) (.const (vI 6)) b0Z (vI 6)) t8 fun g4v H7 =>
 xcond g4v
 (oP E (iA 173 x4 (vI 0)) H7 fun g4w D6 =>
 oP E (lA 2 g4w) D6 fun g4x A6 =>
 oP E (iA 173 x4 (vI 1)) A6 fun g4y K5 =>
 oP E (lA 2 g4y) K5 fun g4z K0 =>
 oP E (xCall (fC 113) [g4x, g4z]) K0 fun e1d H9 =>
 oP E (eX e1d 0) H9 fun g4A I0 =>
 oP E (eX e1d 1) I0 fun d1f K6 =>
 j2 [g4A, d1f] K6)
 (oP E (xBin .eql 3 (.tmp 31) (.const (vI 7)) b0Z (vI 7)) H7 fun g4B M9 =>
 xcond g4B
 (oP E (iA 173 x4 (vI 0)) M9 fun g4C O1 =>
 oP E (lA 2 g4C) O1 fun g4D N8 =>
 oP E (iA 173 x4 (vI 1)) N8 fun g4E M2 =>
 oP E (lA 2 g4E) M2 fun g4F O0 =>
 oP E (xCall (fC 114) [g4D, g4F]) O0 fun e1e O8 =>
 oP E (eX e1e 0) O8 fun g4G O9 =>
 oP E (eX e1e 1) O9 fun g4H R8 =>
 j2 [g4G, g4H] R8)
 (oP E (xBin .eql 3 (.tmp 31) (.const (vI 8)) b0Z (vI 8)) M9 fun g4I Q1 =>
 xcond g4I
 (oP E (iA 173 x4 (vI 0)) Q1 fun g4J T3 =>
 oP E (lA 2 g4J) T3 fun g4K U5 =>
 oP E (iA 173 x4 (vI 1)) U5 fun g4L W9 =>
 oP E (lA 2 g4L) W9 fun g4M S3 =>
 oP E (xCall (fC 115) [g4K, g4M]) S3 fun e1f Z1 =>
 oP E (eX e1f 0) Z1 fun g4N a0O =>
 oP E (eX e1f 1) a0O fun g4O Y4 =>
 j2 [g4N, g4O] Y4)
 (oP E (xBin .eql 3 (.tmp 31) (.const (vI 9)) b0Z (vI 9)) Q1 fun g4P Z4 =>
 xcond g4P
 (oP E (iA 173 x4 (vI 0)) Z4 fun g4Q a2e =>
 oP E (lA 2 g4Q) a2e fun g4R Y5 =>
 oP E (iA 173 x4 (vI 1)) Y5 fun g4S X0 =>
 oP E (lA 2 g4S) X0 fun g4T a0x =>
 oP E (xCall (fC 116) [g4R, g4T]) a0x fun e1g V9 =>
 oP E (eX e1g 0) V9 fun g4U a3y =>
 oP E (eX e1g 1) a3y fun g4V a5o =>
 j2 [g4U, g4V] a5o)
 (oP E (xBin .eql 3 (.tmp 31) (.const (vI 10)) b0Z (vI 10)) Z4 fun g4W a3M =>
 xcond g4W
 (oP E (iA 173 x4 (vI 0)) a3M fun g4X a5R =>
 oP E (lA 2 g4X) a5R fun g4Y a6V =>
 oP E (iA 173 x4 (vI 1)) a6V fun g4Z a0W =>
 oP E (lA 2 g4Z) a0W fun f2K Z5 =>
 oP E (xCall (fC 117) [g4Y, f2K]) Z5 fun d4B a0H =>
 oP E (eX d4B 0) a0H fun f2L a3D =>
 oP E (eX d4B 1) a3D fun f2M a6n =>
 j2 [f2L, f2M] a6n)
 (j2 [(vI 0), (vI 2)] a3M)))))))
def e1h (_x1 x4 x12 x13 x14 : Value) (w : World) (next3 : NT) (j1 : NT) (R : RT) (E : Pan) : Prop :=
 oP E (xBin .lss 3 (.tmp 14) (.tmp 13) x14 x13) w fun f2N a7f =>
 xcond f2N
 (oP E (iA 51 x12 x14) a7f fun f2O a0I =>
 oP E (lA 53 f2O) a0I fun f2P a6o =>
 oP E (xV (Instr.alloc 53 true (.tuple #[]))) a6o fun e1i a7V =>
 oP E (sA 53 e1i f2P) a7V fun _z_125 a8C =>
 oP E (lA 53 e1i) a8C fun f2Q a9y =>
 oP E (xCall (fC 67) [f2Q]) a9y fun d4C a7h =>
 oP E (eX d4C 0) a7h fun f2R a5a =>
 oP E (eX d4C 1) a5a fun f2S a5b =>
 oP E (xV (Op.unary .not f2S)) a5b fun f2T a7U =>
 xcond f2T
 (R (Value.tuple #[(vI 0), (vB false)]) a7U)
 (oP E (iA 173 x4 x14) a7U fun f2U a9x =>
 oP E (sA 2 f2U f2R) a9x fun _z_139 b0P =>
 oP E (xBin .add 3 (.tmp 14) (.const (vI 1)) x14 (vI 1)) b0P fun f2V b1V =>
 next3 [f2V] b1V))
 (j1 [] a7f)
def F69 (x0 : Value) (w : World) (R : RT) (E : Pan) : Prop :=
 oP E (xV (Instr.box 53 x0)) w fun q7 w_2 =>
 oP E (xV (Instr.alloc 173 true (.tuple #[]))) w_2 fun a1k w_4 =>
 xcut (fun _ a8B => d1L q7 a1k a8B R E) fun j1 =>
 oP E (fA 53 q7 3) w_4 fun f2W a7e =>
 oP E (lA 51 f2W) a7e fun d4D a0X =>
 oP E (xBuiltin .len #[51] 3 [false] [d4D]) a0X fun f2X a3d =>
 xloop [14] [(vI 0)] a3d fun τ_143 b1W next3 =>
 e1h q7 a1k d4D f2X (τ_143 14) b1W next3 j1 R E
noncomputable def c69 : Code := Tryz.f69.body.getD .skip
def h69 : Hint := (sQ (sQ (.cut [] (sQ (.block (.loop [14] (sQ (.seq (.cond .none .none) (.seq (.block (sQ (sQ (.seq (sQ (.cond (sQ .none) .none)) .none)))) .none)))))) (sQ (.cut [9, 10] (sQ (.block (sQ (.cond .none (sQ (.cond .none (sQ (.cond .none (sQ (.cond .none (sQ (.cond .none (sQ (.cond .none .none)))))))))))))) (sQ .none))))))
theorem g5a (x0 : Value) (w : World) (R : RT) (E : Pan) : F69 x0 w R E = callX Tryz.prog [.tmp 2, .tmp 3] c69 h69 [x0] w R E := by kernel_rfl
theorem g5b {x0 : Value} (h : F69 x0 w R E) : Cv Tryz.prog 69 #[x0] w R E := by
 refine i7 (args := [x0]) (c := c69) (h := h69) (rs := [.tmp 2, .tmp 3]) Tryz.func69 (by kernel_rfl) (by kernel_rfl) (nB (by kernel_rfl)) (by kernel_rfl) (by kernel_rfl) (by kernel_rfl) ?_
 rw [← g5a]
 exact h
def F70 (x0 x1 : Value) (w : World) (R : RT) (E : Pan) : Prop :=
 oP E (xV (Instr.box 53 x0)) w fun U4 w_2 =>
 oP E (lA 53 U4) w_2 fun b9a w_4 =>
 oP E (xCall (fC 67) [b9a]) w_4 fun c5M w_6 =>
 oP E (eX c5M 0) w_6 fun b4w w_8 =>
 oP E (eX c5M 1) w_8 fun b7D o7 =>
 oP E (gsem (asB b7D) true (xBin .eql 2 (.tmp 14) (.tmp 15) (gval (asB b7D) true b4w) (gval (asB b7D) true x1))) o7 fun a7r p7 =>
 oP E (xPick b7D a7r (vB false)) p7 fun g5c o8 =>
 R g5c o8
noncomputable def c70 : Code := Tryz.f70.body.getD .skip
def h70 : Hint := (sQ (sQ (sQ .none)))
theorem g5d (x0 x1 : Value) (w : World) (R : RT) (E : Pan) : F70 x0 x1 w R E = callX Tryz.prog [.tmp 4] c70 h70 [x0, x1] w R E := by kernel_rfl
theorem g5e {x0 x1 : Value} (h : F70 x0 x1 w R E) : Cv Tryz.prog 70 #[x0, x1] w R E := by
 refine i7 (args := [x0, x1]) (c := c70) (h := h70) (rs := [.tmp 4]) Tryz.func70 (by kernel_rfl) (by kernel_rfl) (nB (by kernel_rfl)) (by kernel_rfl) (by kernel_rfl) (by kernel_rfl) ?_
 rw [← g5d]
 exact h
def d1M (x5 : Value) (w : World) (R : RT) (_E : Pan) : Prop :=
 ∀ _τ : Fr, (R x5 w)
def e1j (x1 x5 x8 x9 x10 : Value) (w : World) (next2 : NT) (j1 : NT) (_R : RT) (E : Pan) : Prop :=
 oP E (xBin .lss 3 (.tmp 10) (.tmp 9) x10 x9) w fun a4Z w_6 =>
 xcond a4Z
 (oP E (iA 57 x8 x10) w_6 fun a2Z w_8 =>
 oP E (lA 59 a2Z) w_8 fun a3b o7 =>
 oP E (xV (Instr.alloc 59 true (.tuple #[]))) o7 fun U1 p7 =>
 oP E (sA 59 U1 a3b) p7 fun _z_13 o8 =>
 oP E (lA 59 U1) o8 fun a3x r5 =>
 oP E (xCall x1 [a3x]) r5 fun a1D t8 =>
 oP E (xV (Instr.buildSlice 57 1 #[(0, a1D)])) t8 fun a1E t7 =>
 oP E (xBuiltin .append #[57, 57] 57 [false, false] [x5, a1E]) t7 fun a1F u6 =>
 oP E (xBin .add 3 (.tmp 10) (.const (vI 1)) x10 (vI 1)) u6 fun a1G v6 =>
 next2 [a1F, a1G] v6)
 (j1 [x5] w_6)
def F71 (x0 x1 : Value) (w : World) (R : RT) (E : Pan) : Prop :=
 xcut (fun l_1 w_2 => d1M (nth l_1 0) w_2 R E) fun j1 =>
 oP E (xBuiltin .len #[57] 3 [false] [x0]) w fun a0N w_4 =>
 xloop [5, 10] [(nS), (vI 0)] w_4 fun τ_25 y7 next2 =>
 e1j x1 (τ_25 5) x0 a0N (τ_25 10) y7 next2 j1 R E
noncomputable def c71 : Code := Tryz.f71.body.getD .skip
def h71 : Hint := (sQ (sQ (.cut [5] (sQ (.block (.loop [5, 10] (sQ (.seq (.cond .none .none) (.seq (.block (sQ .none)) .none)))))) (sQ .none))))
theorem g5f (x0 x1 : Value) (w : World) (R : RT) (E : Pan) : F71 x0 x1 w R E = callX Tryz.prog [.tmp 4] c71 h71 [x0, x1] w R E := by kernel_rfl
theorem g5g {x0 x1 : Value} (h : F71 x0 x1 w R E) : Cv Tryz.prog 71 #[x0, x1] w R E := by
 refine i7 (args := [x0, x1]) (c := c71) (h := h71) (rs := [.tmp 4]) Tryz.func71 (by kernel_rfl) (by kernel_rfl) (nB (by kernel_rfl)) (by kernel_rfl) (by kernel_rfl) (by kernel_rfl) ?_
 rw [← g5f]
 exact h
def F72 (x0 : Value) (w : World) (R : RT) (E : Pan) : Prop :=
 oP E (xV (Instr.alloc 59 true (.tuple #[]))) w fun U4 w_2 =>
 xcond x0
 (oP E (xV (Instr.build 59 #[(0, (vI 1))])) w_2 fun a1k w_4 =>
 oP E (sA 59 U4 a1k) w_4 fun _z_5 w_6 =>
 xcell Tryz.prog 59 U4 w_6 fun r_7 =>
 R r_7 w_6)
 (oP E (xV (Instr.build 59 #[(0, (vI 2))])) w_2 fun c8R w_9 =>
 oP E (sA 59 U4 c8R) w_9 fun _z_10 R7 =>
 xcell Tryz.prog 59 U4 R7 fun h8n =>
 R h8n R7)
noncomputable def c72 : Code := Tryz.f72.body.getD .skip
def h72 : Hint := (sQ (.seq (sQ (.cond (sQ .none) .none)) (sQ .none)))
theorem g5h (x0 : Value) (w : World) (R : RT) (E : Pan) : F72 x0 w R E = callX Tryz.prog [.cell 2 59] c72 h72 [x0] w R E := by kernel_rfl
theorem g5i {x0 : Value} (h : F72 x0 w R E) : Cv Tryz.prog 72 #[x0] w R E := by
 refine i7 (args := [x0]) (c := c72) (h := h72) (rs := [.cell 2 59]) Tryz.func72 (by kernel_rfl) (by kernel_rfl) (nB (by kernel_rfl)) (by kernel_rfl) (by kernel_rfl) (by kernel_rfl) ?_
 rw [← g5h]
 exact h
def d1N (x3 x6 x7 x23 : Value) (w : World) (R : RT) (E : Pan) : Prop :=
 ∀ _τ : Fr, (xcond x23
 (oP E (lA 59 x7) w fun g5j a0q =>
 oP E (sA 59 x6 g5j) a0q fun _z_18 T2 =>
 xcell Tryz.prog 59 x6 T2 fun e5i =>
 R e5i T2)
 (oP E (lA 59 x3) w fun g5k u6 =>
 oP E (sA 59 x6 g5k) u6 fun _z_23 v6 =>
 xcell Tryz.prog 59 x6 v6 fun h8o =>
 R h8o v6))
def d1O (x1 x2 x3 x6 x7 x8 : Value) (w : World) (R : RT) (E : Pan) : Prop :=
 ∀ _τ : Fr, (oP E (fA 59 x7 0) w fun c4G w_6 =>
 oP E (lA 3 c4G) w_6 fun c7H w_8 =>
 oP E (xBin .eql 3 (.tmp 19) (.tmp 20) c7H x1) w_8 fun h3f o7 =>
 xcond h3f
 (oP E (lA 59 x8) o7 fun g5l p7 =>
 oP E (sA 59 x6 g5l) p7 fun _z_13 o8 =>
 xcell Tryz.prog 59 x6 o8 fun b0z =>
 R b0z o8)
 (xcut (fun c9V a2d => d1N x3 x6 x7 (nth c9V 0) a2d R E) fun j2 =>
 oP E (fA 59 x7 0) o7 fun g5m a9H =>
 oP E (lA 3 g5m) a9H fun g5n a8o =>
 oP E (xBin .eql 3 (.tmp 25) (.tmp 26) g5n x2) a8o fun e1k a7H =>
 xcond e1k
 (j2 [e1k] a7H)
 (oP E (fA 59 x8 0) a7H fun g5o a7c =>
 oP E (lA 3 g5o) a7c fun g5p b0u =>
 oP E (xBin .eql 3 (.tmp 29) (.tmp 30) g5p x1) b0u fun g5q b1B =>
 j2 [g5q] b1B)))
def F74 (x0 x1 x2 : Value) (w : World) (R : RT) (E : Pan) : Prop :=
 oP E (xV (Instr.box 59 x0)) w fun N0 w_2 =>
 oP E (xV (Instr.alloc 59 true (.tuple #[]))) w_2 fun a6W w_4 =>
 xcut (fun d7j b2O => d1O x1 x2 N0 a6W (nth d7j 0) (nth d7j.tail 0) b2O R E) fun j1 =>
 dX w_4 fun I0 =>
 qP Tryz.prog (fA 59 N0 3) fun b2c =>
 qP Tryz.prog (fA 59 N0 3) fun b1k =>
 qL Tryz.prog I0 (blk b2c) (lA 57 b2c) fun g5r =>
 qP Tryz.prog (iA 57 g5r (vI 0)) fun b6c =>
 qL Tryz.prog I0 (blk b6c) (lA 59 b6c) fun e1l =>
 qL Tryz.prog I0 (blk b1k) (lA 57 b1k) fun g5s =>
 qP Tryz.prog (iA 57 g5s (vI 1)) fun b1l =>
 qL Tryz.prog I0 (blk b1l) (lA 59 b1l) fun e1m =>
 (oP E (xV (Instr.alloc 59 true (.tuple #[]))) I0 fun c7I M2 =>
 keepX [(blk b1l), (blk b1k), (blk b6c), (blk b2c)] I0 M2 (opK Tryz.prog E (xV (Instr.alloc 59 true (.tuple #[]))) M2 fun c7J O0 =>
 keepX [(blk b1l), (blk b1k), (blk b6c), (blk b2c)] M2 O0 (opK Tryz.prog E (sA 59 c7I e1l) O0 fun _z_55 O8 =>
 keepX [(blk b1l), (blk b1k)] O0 O8 (opK Tryz.prog E (sA 59 c7J e1m) O8 fun _z_57 O9 =>
 keepX [] O8 O9 (j1 [c7I, c7J] O9))))) ∧
 (oP E (xV (Instr.alloc 59 true (.tuple #[]))) I0 fun e8i R8 =>
 keepX [(blk b1l), (blk b1k), (blk b6c), (blk b2c)] I0 R8 (opK Tryz.prog E (xV (Instr.alloc 59 true (.tuple #[]))) R8 fun e8j Q1 =>
 keepX [(blk b1l), (blk b1k), (blk b6c), (blk b2c)] R8 Q1 (opK Tryz.prog E (sA 59 e8j e1l) Q1 fun _z_63 T3 =>
 keepX [(blk b1l), (blk b1k)] Q1 T3 (opK Tryz.prog E (sA 59 e8i e1m) T3 fun _z_65 U5 =>
 keepX [] T3 U5 (j1 [e8j, e8i] U5)))))
noncomputable def c74 : Code := Tryz.f74.body.getD .skip
def h74 : Hint := (sQ (.cut [7, 8] (.reg [(0, 512, 8), (1, 1024, 512), (2, 2048, 1024), (4, 4096, 2048), (0, 8192, 8), (16, 16384, 8192), (32, 32768, 16384), (64, 65536, 32768), (0, 128, 0), (0, 256, 0), (783, 0, 4224), (2047, 0, 65792)] [170, 168, 170, 162, 170, 138, 170, 42, 170, 170, 160, 0] (.early 0 (.early 4 (.load 1 (.early 2 (.load 3 (.load 5 (.early 6 (.load 7 (.alt 8 (.step 9 (.step 10 (.step 11 .done))) (.step 9 (.step 8 (.step 10 (.step 11 .done)))))))))))))) (.seq (.block (sQ (.cond (sQ .none) (.cut [23] (sQ (.cond .none .none)) (.cond (sQ .none) .none))))) (sQ .none))))
theorem g5t (x0 x1 x2 : Value) (w : World) (R : RT) (E : Pan) : F74 x0 x1 x2 w R E = callX Tryz.prog [.cell 6 59] c74 h74 [x0, x1, x2] w R E := by kernel_rfl
theorem g5u {x0 x1 x2 : Value} (h : F74 x0 x1 x2 w R E) : Cv Tryz.prog 74 #[x0, x1, x2] w R E := by
 refine i7 (args := [x0, x1, x2]) (c := c74) (h := h74) (rs := [.cell 6 59]) Tryz.func74 (by kernel_rfl) (by kernel_rfl) (nB (by kernel_rfl)) (by kernel_rfl) (by kernel_rfl) (by kernel_rfl) ?_
 rw [← g5t]
 exact h
end Go.Proofs.YtnhkdkcgdcgmdaaGreatDoor
