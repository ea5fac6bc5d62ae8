/- The second reading of some of the program's functions, printed by gen2.py off the code; each is held against the code by the kernel. -/
import Derived.Test.YtnhkdkcgdcgmdaaGreatDoorProg
import Derived.Test.YtnhkdkcgdcgmdaaGreatDoorzUK0
import Derived.KernelRfl
import Derived.Test.YtnhkdkcgdcgmdaaGreatDoorzUGz
namespace Go.Proofs.YtnhkdkcgdcgmdaaGreatDoor
open Go.RowKit
set_option maxRecDepth 100000
variable {w : World} {R : RT} {E : Pan}
def F3 (x0 x1 : Value) (w : World) (R : RT) (E : Pan) : Prop :=
 oP E (xV (Instr.box 25 x0)) w fun X0 w_2 =>
 oP E (xCall (fC 8) []) w_2 fun a4S w_4 =>
 oP E (xV (Op.unary .not a4S)) w_4 fun a4k w_6 =>
 xcond a4k
 (R (vB false) w_6)
 (oP E (lA 25 X0) w_6 fun a2b w_8 =>
 oP E (xCall (fC 9) [a2b, x1]) w_8 fun a9v o9 =>
 oP E (eX a9v 0) o9 fun b1p p8 =>
 oP E (eX a9v 1) p8 fun c6y p6 =>
 oP E (xV (Instr.alloc 25 true (.tuple #[]))) p6 fun d5f q8 =>
 oP E (sA 25 d5f b1p) q8 fun _z_17 w5 =>
 oP E (lA 25 X0) w5 fun a4Q t8 =>
 oP E (xCall (fC 10) [a4Q, x1]) t8 fun d0F w9 =>
 oP E (eX d0F 0) w9 fun h9O v2 =>
 oP E (eX d0F 1) v2 fun d0E y8 =>
 oP E (xV (Instr.alloc 25 true (.tuple #[]))) y8 fun d4M B0 =>
 oP E (sA 25 d4M h9O) B0 fun _z_29 C0 =>
 oP E (xBin .neq 3 (.tmp 23) (.tmp 24) c6y d0E) C0 fun e0y C3 =>
 xcond e0y
 (R (vB false) C3)
 (oP E (xBin .neq 3 (.tmp 26) (.const (vI 0)) d0E (vI 0)) C3 fun h9P A6 =>
 xcond h9P
 (oP E (fA 25 d5f 0) A6 fun h9Q J6 =>
 oP E (lA 22 h9Q) J6 fun h9R C2 =>
 oP E (xBuiltin .len #[22] 3 [false] [h9R]) C2 fun h9S J7 =>
 oP E (xBin .eql 3 (.tmp 30) (.const (vI 0)) h9S (vI 0)) J7 fun c6z C7 =>
 oP E (gsem (asB c6z) true (fA 25 d5f 1)) C7 fun h9T D8 =>
 oP E (gsem (asB c6z) true (lA 23 h9T)) D8 fun h9U G8 =>
 oP E (gsem (asB c6z) true (xBuiltin .len #[23] 3 [false] [h9U])) G8 fun c2l L9 =>
 oP E (gsem (asB c6z) true (xBin .eql 3 (.tmp 35) (.const (vI 0)) c2l (vI 0))) L9 fun e0z M6 =>
 oP E (xPick c6z e0z (vB false)) M6 fun h9V P3 =>
 R h9V P3)
 (oP E (lA 25 d5f) A6 fun h9W N9 =>
 oP E (lA 25 d4M) N9 fun h9X P4 =>
 oP E (xCall (fC 11) [h9W, h9X]) P4 fun e0A P0 =>
 R e0A P0)))
noncomputable def c3 : Code := Tryz.f3.body.getD .skip
def h3 : Hint := (sQ (.seq (sQ (.cond (sQ .none) .none)) (sQ (sQ (.seq (sQ (.cond (sQ .none) .none)) (.seq (sQ (.cond (sQ .none) .none)) (sQ .none)))))))
theorem i8D (x0 x1 : Value) (w : World) (R : RT) (E : Pan) : F3 x0 x1 w R E = callX Tryz.prog [.tmp 4] c3 h3 [x0, x1] w R E := by kernel_rfl
theorem i8E {x0 x1 : Value} (h : F3 x0 x1 w R E) : Cv Tryz.prog 3 #[x0, x1] w R E := by
 refine i8 (args := [x0, x1]) (c := c3) (h := h3) (rs := [.tmp 4]) Tryz.func3 (by kernel_rfl) (by kernel_rfl) (nB (by kernel_rfl)) (by kernel_rfl) (by kernel_rfl) (by kernel_rfl) ?_
 rw [← i8D]
 exact h
def F4 (x0 : Value) (w : World) (R : RT) (E : Pan) : Prop :=
 oP E (xV (Instr.box 25 x0)) w fun q7 w_2 =>
 oP E (xCall (fC 8) []) w_2 fun b3c w_4 =>
 oP E (xV (Op.unary .not b3c)) w_4 fun c2O w_6 =>
 xcond c2O
 (R (vB false) w_6)
 (oP E (lA 25 q7) w_6 fun c7z w_8 =>
 oP E (xCall (fC 12) [c7z]) w_8 fun b7x o9 =>
 oP E (eX b7x 0) o9 fun d7g p8 =>
 oP E (eX b7x 1) p8 fun b8w p6 =>
 oP E (xV (Instr.alloc 25 true (.tuple #[]))) p6 fun c0F q8 =>
 oP E (sA 25 c0F d7g) q8 fun _z_17 w5 =>
 oP E (lA 25 q7) w5 fun a7V t8 =>
 oP E (xCall (fC 13) [a7V]) t8 fun a8K w9 =>
 oP E (eX a8K 0) w9 fun b4c v2 =>
 oP E (eX a8K 1) v2 fun a6E y8 =>
 oP E (xV (Instr.alloc 25 true (.tuple #[]))) y8 fun f8I B0 =>
 oP E (sA 25 f8I b4c) B0 fun _z_29 C0 =>
 oP E (xBin .neq 3 (.tmp 19) (.tmp 20) b8w a6E) C0 fun b2M C3 =>
 xcond b2M
 (R (vB false) C3)
 (oP E (xBin .neq 3 (.tmp 22) (.const (vI 0)) a6E (vI 0)) C3 fun c4Z A6 =>
 xcond c4Z
 (oP E (fA 25 c0F 0) A6 fun b8p J6 =>
 oP E (lA 22 b8p) J6 fun a7W C2 =>
 oP E (xBuiltin .len #[22] 3 [false] [a7W]) C2 fun b8q J7 =>
 oP E (xBin .eql 3 (.tmp 26) (.const (vI 0)) b8q (vI 0)) J7 fun a5M C7 =>
 oP E (gsem (asB a5M) true (fA 25 c0F 1)) C7 fun d6H D8 =>
 oP E (gsem (asB a5M) true (lA 23 d6H)) D8 fun d6I G8 =>
 oP E (gsem (asB a5M) true (xBuiltin .len #[23] 3 [false] [d6I])) G8 fun d6J L9 =>
 oP E (gsem (asB a5M) true (xBin .eql 3 (.tmp 31) (.const (vI 0)) d6J (vI 0))) L9 fun d6K M6 =>
 oP E (xPick a5M d6K (vB false)) M6 fun c5a P3 =>
 R c5a P3)
 (oP E (lA 25 c0F) A6 fun d6L N9 =>
 oP E (lA 25 f8I) N9 fun c5b P4 =>
 oP E (xCall (fC 11) [d6L, c5b]) P4 fun c5c P0 =>
 R c5c P0)))
noncomputable def c4 : Code := Tryz.f4.body.getD .skip
def h4 : Hint := (sQ (.seq (sQ (.cond (sQ .none) .none)) (sQ (sQ (.seq (sQ (.cond (sQ .none) .none)) (.seq (sQ (.cond (sQ .none) .none)) (sQ .none)))))))
def F8 (w : World) (R : RT) (E : Pan) : Prop :=
 oP E (xCall (fC 22) [(vI 1)]) w fun b4l w_2 =>
 oP E (xCall (fC 22) [(vI 2)]) w_2 fun b3c w_4 =>
 oP E (xV (Instr.buildSlice 51 2 #[(0, b4l), (1, b3c)])) w_4 fun c2O w_6 =>
 oP E (xV (Instr.build 53 #[(0, (vI 6)), (3, c2O)])) w_6 fun c8J w_8 =>
 oP E (xV (Instr.build 53 #[(0, (vI 2)), (2, (Value.string ⟨#[120]⟩))])) w_8 fun d1R o9 =>
 oP E (xV (Instr.buildSlice 51 2 #[(0, c8J), (1, d1R)])) o9 fun b4p p8 =>
 oP E (xV (Instr.build 53 #[(0, (vI 8)), (3, b4p)])) p8 fun c5o p6 =>
 oP E (xCall (fC 21) [c5o]) p6 fun b1o q8 =>
 oP E (eX b1o 0) q8 fun b4k w5 =>
 oP E (eX b1o 1) w5 fun a7V t8 =>
 oP E (xV (Instr.alloc 53 true (.tuple #[]))) t8 fun d1S w9 =>
 oP E (sA 53 d1S b4k) w9 fun _z_23 v2 =>
 oP E (xCall (fC 22) [(vI 1)]) v2 fun b0Q y8 =>
 oP E (xCall (fC 22) [(vI 2)]) y8 fun d7J B0 =>
 oP E (xV (Instr.buildSlice 51 2 #[(0, b0Q), (1, d7J)])) B0 fun c5A C0 =>
 oP E (xV (Instr.build 59 #[(0, (vI 3)), (1, (vI 1)), (2, c5A)])) C0 fun d7K C3 =>
 oP E (xCall (fC 23) [d7K]) C3 fun c1N A6 =>
 oP E (eX c1N 0) A6 fun c5B J6 =>
 oP E (eX c1N 1) J6 fun c5C C2 =>
 oP E (xV (Instr.alloc 59 true (.tuple #[]))) C2 fun f8J J7 =>
 oP E (sA 59 f8J c5B) J7 fun _z_41 C7 =>
 oP E (xBin .eql 27 (.tmp 24) (.const (vI 0)) a7V (vI 0)) C7 fun c5f D8 =>
 oP E (gsem (asB c5f) true (xBin .eql 27 (.tmp 27) (.const (vI 0)) (gval (asB c5f) true c5C) (vI 0))) D8 fun h9Y G8 =>
 oP E (xPick c5f h9Y (vB false)) G8 fun c2m L9 =>
 oP E (gsem (asB c2m) true (fA 53 d1S 0)) L9 fun d6P M6 =>
 oP E (gsem (asB c2m) true (lA 3 d6P)) M6 fun c4S P3 =>
 oP E (gsem (asB c2m) true (xBin .eql 3 (.tmp 32) (.const (vI 8)) c4S (vI 8))) P3 fun c4T N9 =>
 oP E (xPick c2m c4T (vB false)) N9 fun b8n P4 =>
 oP E (gsem (asB b8n) true (fA 53 d1S 3)) P4 fun c5c P0 =>
 oP E (gsem (asB b8n) true (lA 51 c5c)) P0 fun h9Z S4 =>
 oP E (gsem (asB b8n) true (xBuiltin .len #[51] 3 [false] [h9Z])) S4 fun i0a T6 =>
 oP E (gsem (asB b8n) true (xBin .eql 3 (.tmp 38) (.const (vI 2)) i0a (vI 2))) T6 fun i0b Q3 =>
 oP E (xPick b8n i0b (vB false)) Q3 fun b9L Z8 =>
 oP E (gsem (asB b9L) true (fA 53 d1S 3)) Z8 fun i0c Z9 =>
 oP E (gsem (asB b9L) true (lA 51 i0c)) Z9 fun i0d W9 =>
 oP E (gsem (asB b9L) true (iA 51 i0d (vI 0))) W9 fun i0e a0r =>
 oP E (gsem (asB b9L) true (fA 53 i0e 0)) a0r fun i0f a2L =>
 oP E (gsem (asB b9L) true (lA 3 i0f)) a2L fun d7M X6 =>
 oP E (gsem (asB b9L) true (xBin .eql 3 (.tmp 46) (.const (vI 1)) d7M (vI 1))) X6 fun i0g a2Z =>
 oP E (xPick b9L i0g (vB false)) a2Z fun b9M a3b =>
 oP E (gsem (asB b9M) true (fA 53 d1S 3)) a3b fun e0B a2o =>
 oP E (gsem (asB b9M) true (lA 51 e0B)) a2o fun i0h a0s =>
 oP E (gsem (asB b9M) true (iA 51 i0h (vI 0))) a0s fun i0i a2M =>
 oP E (gsem (asB b9M) true (fA 53 i0i 1)) a2M fun d7C a2p =>
 oP E (gsem (asB b9M) true (lA 2 d7C)) a2p fun d7D a3d =>
 oP E (gsem (asB b9M) true (xBin .eql 2 (.tmp 54) (.const (vI 3)) d7D (vI 3))) a3d fun d7E a3E =>
 oP E (xPick b9M d7E (vB false)) a3E fun d1T a1U =>
 oP E (gsem (asB d1T) true (fA 59 f8J 0)) a1U fun i0j a5T =>
 oP E (gsem (asB d1T) true (lA 3 i0j)) a5T fun i0k a6F =>
 oP E (gsem (asB d1T) true (xBin .eql 3 (.tmp 59) (.const (vI 1)) i0k (vI 1))) a6F fun i0l a1w =>
 oP E (xPick d1T i0l (vB false)) a1w fun g4L a2Y =>
 R g4L a2Y
noncomputable def c8 : Code := Tryz.f8.body.getD .skip
def h8 : Hint := (sQ (sQ (sQ (sQ .none))))
theorem i8F (w : World) (R : RT) (E : Pan) : F8  w R E = callX Tryz.prog [.tmp 0] c8 h8 [] w R E := by kernel_rfl
theorem i8G (h : F8  w R E) : Cv Tryz.prog 8 #[] w R E := by
 refine i8 (args := []) (c := c8) (h := h8) (rs := [.tmp 0]) Tryz.func8 (by kernel_rfl) (by kernel_rfl) (Nat.zero_le _) (by kernel_rfl) (by kernel_rfl) (by kernel_rfl) ?_
 rw [← i8F]
 exact h
def F9 (x0 x1 : Value) (w : World) (R : RT) (E : Pan) : Prop :=
 oP E (xV (Instr.box 25 x0)) w fun X0 w_2 =>
 oP E (xV (Instr.alloc 25 true (.tuple #[]))) w_2 fun a4v w_4 =>
 oP E (lA 25 X0) w_4 fun b5z w_6 =>
 oP E (xCall (fC 24) [b5z]) w_6 fun b2y w_8 =>
 oP E (xBin .neq 27 (.tmp 9) (.const (vI 0)) b2y (vI 0)) w_8 fun d1R o9 =>
 xcond d1R
 (oP E (xV (Instr.build 25 #[])) o9 fun b4p p8 =>
 oP E (sA 25 a4v b4p) p8 fun _z_13 p6 =>
 xcell Tryz.prog 25 a4v p6 fun b2Y =>
 R (Value.tuple #[b2Y, b2y]) p6)
 (oP E (xBin .lss 3 (.tmp 13) (.const (vI 0)) x1 (vI 0)) o9 fun e0C a0t =>
 oP E (gsem (asB e0C) false (xBin .gtr 3 (.tmp 16) (.const (vI 8)) (gval (asB e0C) false x1) (vI 8))) a0t fun i0m X1 =>
 oP E (xPick e0C (vB true) i0m) X1 fun i0n a3e =>
 xcond i0n
 (oP E (xV (Instr.build 25 #[])) a3e fun i0o a6X =>
 oP E (sA 25 a4v i0o) a6X fun _z_24 a9K =>
 xcell Tryz.prog 25 a4v a9K fun f6O =>
 R (Value.tuple #[f6O, (vI 290)]) a9K)
 (dX a3e fun a5U =>
 qP Tryz.prog (fA 25 X0 0) fun e0D =>
 qP Tryz.prog (fA 25 X0 1) fun f1T =>
 qL Tryz.prog a5U (blk e0D) (lA 22 e0D) fun i0p =>
 qL Tryz.prog a5U (blk f1T) (lA 23 f1T) fun i0q =>
 oP E (xCall (fC 26) [i0q, x1]) a5U fun i0r a9e =>
 keepX [(blk e0D)] a5U a9e (qP Tryz.prog (xV (Instr.build 25 #[(0, i0p), (1, i0r)])) fun i0s =>
 oP E (xCall (fC 25) [i0s]) a9e fun d1U J6 =>
 keepX [] a9e J6 (qP Tryz.prog (eX d1U 0) fun c2n =>
 qP Tryz.prog (eX d1U 1) fun e0E =>
 oP E (sA 25 a4v c2n) J6 fun _z_39 J7 =>
 keepX [] J6 J7 (xcell Tryz.prog 25 a4v J7 fun j4C =>
 R (Value.tuple #[j4C, e0E]) J7)))))
noncomputable def c9 : Code := Tryz.f9.body.getD .skip
def h9 : Hint := (sQ (.seq (sQ (sQ (.cond (sQ .none) .none))) (.seq (sQ (.cond (sQ .none) .none)) (.seq (.reg [(0, 1048576, 4), (1, 2097152, 1048576), (0, 4194304, 4), (4, 8388608, 4194304), (0, 16777216, 2), (24, 33554432, 25165824), (34, 67108864, 35651584), (96, 134217728, 67108864), (128, 268435456, 134217728), (128, 536870912, 134217728), (1023, 0, 268435472), (2047, 32, 536870912)] [10, 8, 10, 2, 10, 2, 10, 0, 10, 10, 0, 10] (.early 0 (.early 2 (.early 4 (.load 1 (.load 3 (.step 5 (.early 6 (.step 7 (.early 8 (.early 9 (.step 10 (.early 11 .done))))))))))))) .none))))
theorem i8H (x0 x1 : Value) (w : World) (R : RT) (E : Pan) : F9 x0 x1 w R E = callX Tryz.prog [.cell 4 25, .tmp 5] c9 h9 [x0, x1] w R E := by kernel_rfl
theorem i8I {x0 x1 : Value} (h : F9 x0 x1 w R E) : Cv Tryz.prog 9 #[x0, x1] w R E := by
 refine i8 (args := [x0, x1]) (c := c9) (h := h9) (rs := [.cell 4 25, .tmp 5]) Tryz.func9 (by kernel_rfl) (by kernel_rfl) (nB (by kernel_rfl)) (by kernel_rfl) (by kernel_rfl) (by kernel_rfl) ?_
 rw [← i8H]
 exact h
def e0F (x4 x6 x8 : Value) (w : World) (R : RT) (E : Pan) : Prop :=
 ∀ _τ : Fr, (oP E (xBin .neq 3 (.tmp 48) (.const (vI 0)) x6 (vI 0)) w fun e0G D8 =>
 xcond e0G
 (oP E (xV (Instr.build 25 #[])) D8 fun i0t G8 =>
 oP E (sA 25 x4 i0t) G8 fun _z_47 L9 =>
 xcell Tryz.prog 25 x4 L9 fun j4D =>
 R (Value.tuple #[j4D, x6]) L9)
 (oP E (lA 25 x8) D8 fun i0u b4f =>
 oP E (sA 25 x4 i0u) b4f fun _z_52 b3a =>
 xcell Tryz.prog 25 x4 b3a fun j4E =>
 R (Value.tuple #[j4E, (vI 0)]) b3a))
def e0H (x4 x7 x8 : Value) (w : World) (R : RT) (E : Pan) : Prop :=
 ∀ _τ : Fr, (oP E (lA 25 x8) w fun i0v J7 =>
 oP E (xCall (fC 27) [i0v]) J7 fun f1U C7 =>
 xcut (fun i0w P4 => e0F x4 (nth i0w 0) x8 P4 R E) fun j2 =>
 oP E (xNil x7) C7 fun e0A P0 =>
 oP E (fA 67 e0A 1) P0 fun i0x S4 =>
 oP E (lA 3 i0x) S4 fun i0y T6 =>
 oP E (xBin .lss 3 (.tmp 42) (.const (vI 0)) i0y (vI 0)) T6 fun e0I Q3 =>
 oP E (gsem (asB e0I) true (xBin .eql 3 (.tmp 45) (.const (vI 0)) (gval (asB e0I) true f1U) (vI 0))) Q3 fun i0z Z8 =>
 oP E (xPick e0I i0z (vB false)) Z8 fun d6c Z9 =>
 xcond d6c
 (j2 [(vI 33)] Z9)
 (j2 [f1U] Z9))
def F10 (x0 x1 : Value) (w : World) (R : RT) (E : Pan) : Prop :=
 oP E (xV (Instr.box 25 x0)) w fun X0 w_2 =>
 oP E (xV (Instr.alloc 25 true (.tuple #[]))) w_2 fun a4v w_4 =>
 oP E (lA 25 X0) w_4 fun d3h w_6 =>
 oP E (xCall (fC 27) [d3h]) w_6 fun c7z w_8 =>
 oP E (xBin .neq 3 (.tmp 11) (.const (vI 0)) c7z (vI 0)) w_8 fun c0t o9 =>
 xcond c0t
 (oP E (xV (Instr.build 25 #[])) o9 fun i0A p8 =>
 oP E (sA 25 a4v i0A) p8 fun _z_13 p6 =>
 xcell Tryz.prog 25 a4v p6 fun b2Y =>
 R (Value.tuple #[b2Y, c7z]) p6)
 (oP E (xBin .lss 3 (.tmp 15) (.const (vI 0)) x1 (vI 0)) o9 fun e0J a0t =>
 oP E (gsem (asB e0J) false (xBin .gtr 3 (.tmp 18) (.const (vI 8)) (gval (asB e0J) false x1) (vI 8))) a0t fun i0B X1 =>
 oP E (xPick e0J (vB true) i0B) X1 fun i0C a3e =>
 xcond i0C
 (oP E (xV (Instr.build 25 #[])) a3e fun i0D a6X =>
 oP E (sA 25 a4v i0D) a6X fun _z_24 a9K =>
 xcell Tryz.prog 25 a4v a9K fun f6O =>
 R (Value.tuple #[f6O, (vI 290)]) a9K)
 (oP E (fA 25 X0 0) a3e fun e0v B0 =>
 oP E (lA 22 e0v) B0 fun i0E C0 =>
 oP E (xBuiltin .len #[22] 3 [false] [i0E]) C0 fun e0y C3 =>
 oP E (xBin .sub 3 (.const (vI 4096)) (.tmp 25) (vI 4096) e0y) C3 fun i0F A6 =>
 oP E (xV (Instr.build 67 #[(0, x1), (1, i0F)])) A6 fun d1U J6 =>
 oP E (xV (Instr.box 67 d1U)) J6 fun c2n C2 =>
 xcut (fun j4F W9 => e0H a4v c2n (nth j4F 0) W9 R E) fun j1 =>
 dX C2 fun b2x =>
 qP Tryz.prog (fA 25 X0 0) fun c6A =>
 qP Tryz.prog (fA 25 X0 1) fun b9N =>
 qL Tryz.prog b2x (blk c6A) (lA 22 c6A) fun f1V =>
 qL Tryz.prog b2x (blk b9N) (lA 23 b9N) fun c6l =>
 (oP E (xBuiltin .append #[22, 22] 22 [true, false] [(nS), f1V]) b2x fun f1W c1c =>
 keepX [(blk b9N)] b2x c1c ((oP E (xCall (fC 28) [c2n, c6l]) c1c fun i0G a6Z =>
 keepX [] c1c a6Z (qP Tryz.prog (xV (Instr.build 25 #[(0, f1W), (1, i0G)])) fun i0H =>
 oP E (xV (Instr.alloc 25 true (.tuple #[]))) a6Z fun d4P a2o =>
 keepX [(blk b9N), (blk c6A)] a6Z a2o (opK Tryz.prog E (sA 25 d4P i0H) a2o fun _z_83 a0s =>
 keepX [] a2o a0s (j1 [d4P] a0s)))) ∧
 (oP E (xV (Instr.alloc 25 true (.tuple #[]))) c1c fun f8K a2M =>
 keepX [(blk b9N), (blk c6A)] c1c a2M (opK Tryz.prog E (xCall (fC 28) [c2n, c6l]) a2M fun i0I a2p =>
 keepX [] a2M a2p (qP Tryz.prog (xV (Instr.build 25 #[(0, f1W), (1, i0I)])) fun i0J =>
 oP E (sA 25 f8K i0J) a2p fun _z_90 c3g =>
 keepX [] a2p c3g (j1 [f8K] c3g)))))) ∧
 (oP E (xV (Instr.alloc 25 true (.tuple #[]))) b2x fun f8L d0d =>
 keepX [(blk b9N), (blk c6A)] b2x d0d (opK Tryz.prog E (xBuiltin .append #[22, 22] 22 [true, false] [(nS), f1V]) d0d fun i0K b6T =>
 keepX [(blk b9N)] d0d b6T (opK Tryz.prog E (xCall (fC 28) [c2n, c6l]) b6T fun i0L b9O =>
 keepX [] b6T b9O (qP Tryz.prog (xV (Instr.build 25 #[(0, i0K), (1, i0L)])) fun i0M =>
 oP E (sA 25 f8L i0M) b9O fun _z_99 a1w =>
 keepX [] b9O a1w (j1 [f8L] a1w)))))))
noncomputable def c10 : Code := Tryz.f10.body.getD .skip
def h10 : Hint := (sQ (sQ (.seq (sQ (.cond (sQ .none) .none)) (.seq (sQ (.cond (sQ .none) .none)) (sQ (.cut [8] (.reg [(0, 536870912, 4), (1, 1073741824, 536870912), (2, 2147483648, 1073741824), (0, 4294967296, 128), (0, 8589934592, 4), (16, 17179869184, 8589934592), (44, 34359738368, 21474836480), (68, 68719476736, 36507222016), (0, 256, 0), (511, 0, 68719476992)] [34, 32, 32, 34, 34, 2, 0, 34, 34, 0] (.early 0 (.early 3 (.early 4 (.load 1 (.load 5 (.alt 2 (.alt 6 (.early 7 (.step 8 (.step 9 .done))) (.step 8 (.step 6 (.early 7 (.step 9 .done))))) (.step 8 (.step 2 (.step 6 (.early 7 (.step 9 .done)))))))))))) (sQ (.cut [6] (sQ (.cond .none .none)) (.seq (sQ (.cond (sQ .none) .none)) (sQ .none))))))))))
theorem i0N (x0 x1 : Value) (w : World) (R : RT) (E : Pan) : F10 x0 x1 w R E = callX Tryz.prog [.cell 4 25, .tmp 5] c10 h10 [x0, x1] w R E := by kernel_rfl
theorem i0O {x0 x1 : Value} (h : F10 x0 x1 w R E) : Cv Tryz.prog 10 #[x0, x1] w R E := by
 refine i8 (args := [x0, x1]) (c := c10) (h := h10) (rs := [.cell 4 25, .tmp 5]) Tryz.func10 (by kernel_rfl) (by kernel_rfl) (nB (by kernel_rfl)) (by kernel_rfl) (by kernel_rfl) (by kernel_rfl) ?_
 rw [← i0N]
 exact h
def F21 (x0 : Value) (w : World) (R : RT) (E : Pan) : Prop :=
 oP E (xV (Instr.box 53 x0)) w fun q7 w_2 =>
 oP E (xV (Instr.alloc 53 true (.tuple #[]))) w_2 fun R3 w_4 =>
 oP E (lA 53 q7) w_4 fun b8G w_6 =>
 oP E (xCall (fC 39) [b8G]) w_6 fun a8t w_8 =>
 oP E (xBin .neq 27 (.tmp 7) (.const (vI 0)) a8t (vI 0)) w_8 fun a5s o9 =>
 xcond a5s
 (oP E (xV (Instr.build 53 #[])) o9 fun a4M p8 =>
 oP E (sA 53 R3 a4M) p8 fun _z_13 p6 =>
 xcell Tryz.prog 53 R3 p6 fun b2Y =>
 R (Value.tuple #[b2Y, a8t]) p6)
 (oP E (lA 53 q7) o9 fun b8u a0t =>
 oP E (xCall (fC 40) [b8u]) a0t fun e0K X1 =>
 oP E (sA 53 R3 e0K) X1 fun _z_20 a3e =>
 xcell Tryz.prog 53 R3 a3e fun f6P =>
 R (Value.tuple #[f6P, (vI 0)]) a3e)
noncomputable def c21 : Code := Tryz.f21.body.getD .skip
def h21 : Hint := (sQ (.seq (sQ (sQ (.cond (sQ .none) .none))) (sQ .none)))
theorem i0P (x0 : Value) (w : World) (R : RT) (E : Pan) : F21 x0 w R E = callX Tryz.prog [.cell 2 53, .tmp 3] c21 h21 [x0] w R E := by kernel_rfl
theorem i0Q {x0 : Value} (h : F21 x0 w R E) : Cv Tryz.prog 21 #[x0] w R E := by
 refine i8 (args := [x0]) (c := c21) (h := h21) (rs := [.cell 2 53, .tmp 3]) Tryz.func21 (by kernel_rfl) (by kernel_rfl) (nB (by kernel_rfl)) (by kernel_rfl) (by kernel_rfl) (by kernel_rfl) ?_
 rw [← i0P]
 exact h
def F22 (x0 : Value) (w : World) (R : RT) (E : Pan) : Prop :=
 oP E (xV (Instr.alloc 53 true (.tuple #[]))) w fun X0 w_2 =>
 oP E (xV (Instr.build 53 #[(0, (vI 1)), (1, x0)])) w_2 fun a4v w_4 =>
 oP E (sA 53 X0 a4v) w_4 fun _z_5 w_6 =>
 xcell Tryz.prog 53 X0 w_6 fun r_7 =>
 R r_7 w_6
noncomputable def c22 : Code := Tryz.f22.body.getD .skip
def h22 : Hint := (sQ (sQ .none))
theorem i0R (x0 : Value) (w : World) (R : RT) (E : Pan) : F22 x0 w R E = callX Tryz.prog [.cell 2 53] c22 h22 [x0] w R E := by kernel_rfl
theorem i0S {x0 : Value} (h : F22 x0 w R E) : Cv Tryz.prog 22 #[x0] w R E := by
 refine i8 (args := [x0]) (c := c22) (h := h22) (rs := [.cell 2 53]) Tryz.func22 (by kernel_rfl) (by kernel_rfl) (nB (by kernel_rfl)) (by kernel_rfl) (by kernel_rfl) (by kernel_rfl) ?_
 rw [← i0R]
 exact h
def F23 (x0 : Value) (w : World) (R : RT) (E : Pan) : Prop :=
 oP E (xV (Instr.box 59 x0)) w fun q7 w_2 =>
 oP E (xV (Instr.alloc 59 true (.tuple #[]))) w_2 fun R3 w_4 =>
 oP E (lA 59 q7) w_4 fun b8G w_6 =>
 oP E (xCall (fC 41) [b8G]) w_6 fun a8t w_8 =>
 oP E (xBin .neq 27 (.tmp 7) (.const (vI 0)) a8t (vI 0)) w_8 fun a5s o9 =>
 xcond a5s
 (oP E (xV (Instr.build 59 #[])) o9 fun a4M p8 =>
 oP E (sA 59 R3 a4M) p8 fun _z_13 p6 =>
 xcell Tryz.prog 59 R3 p6 fun b2Y =>
 R (Value.tuple #[b2Y, a8t]) p6)
 (oP E (lA 59 q7) o9 fun b8u a0t =>
 oP E (xCall (fC 42) [b8u]) a0t fun e0K X1 =>
 oP E (sA 59 R3 e0K) X1 fun _z_20 a3e =>
 xcell Tryz.prog 59 R3 a3e fun f6P =>
 R (Value.tuple #[f6P, (vI 0)]) a3e)
noncomputable def c23 : Code := Tryz.f23.body.getD .skip
def h23 : Hint := (sQ (.seq (sQ (sQ (.cond (sQ .none) .none))) (sQ .none)))
theorem i0T (x0 : Value) (w : World) (R : RT) (E : Pan) : F23 x0 w R E = callX Tryz.prog [.cell 2 59, .tmp 3] c23 h23 [x0] w R E := by kernel_rfl
theorem i0U {x0 : Value} (h : F23 x0 w R E) : Cv Tryz.prog 23 #[x0] w R E := by
 refine i8 (args := [x0]) (c := c23) (h := h23) (rs := [.cell 2 59, .tmp 3]) Tryz.func23 (by kernel_rfl) (by kernel_rfl) (nB (by kernel_rfl)) (by kernel_rfl) (by kernel_rfl) (by kernel_rfl) ?_
 rw [← i0T]
 exact h
def e0L (x5 : Value) (w : World) (R : RT) (_E : Pan) : Prop :=
 ∀ _τ : Fr, (R x5 w)
def e0M (_x1 x5 _x11 _x12 x13 : Value) (w : World) (next2 : NT) (_R : RT) (E : Pan) : Prop :=
 ∀ _τ : Fr, (oP E (xBin .add 3 (.tmp 13) (.const (vI 1)) x13 (vI 1)) w fun i8J w_8 =>
 next2 [x5, i8J] w_8)
def e0N (_x1 x5 x8 _x11 _x12 _x13 : Value) (w : World) (j3 : NT) (_R : RT) (E : Pan) : Prop :=
 ∀ _τ : Fr, (oP E (lA 73 x8) w fun i0V b6S =>
 oP E (xV (Instr.buildSlice 23 1 #[(0, i0V)])) b6S fun i0W b4g =>
 oP E (xBuiltin .append #[23, 23] 23 [false, false] [x5, i0W]) b4g fun i0X b2w =>
 j3 [i0X] b2w)
def e0O (_x1 _x5 x7 x8 _x9 x10 _x11 _x12 _x13 _x37 x38 : Value) (w : World) (next5 : NT) (_R : RT) (E : Pan) : Prop :=
 ∀ _τ : Fr, (oP E (fA 73 x7 3) w fun i0Y b1n =>
 oP E (lA 57 i0Y) b1n fun d0u b4i =>
 oP E (xV (Instr.build 73 #[(0, (vI 3)), (3, d0u), (4, x10)])) b4i fun d6d b3b =>
 oP E (sA 73 x8 d6d) b3b fun _z_70 b2x =>
 oP E (xBin .add 3 (.tmp 38) (.const (vI 1)) x38 (vI 1)) b2x fun d0B c3p =>
 next5 [d0B] c3p)
def f1X (x1 x5 x7 x8 x9 x11 x12 x13 x37 x38 : Value) (w : World) (next5 : NT) (j4 : NT) (R : RT) (E : Pan) : Prop :=
 oP E (xBin .lss 3 (.tmp 38) (.tmp 37) x38 x37) w fun d6b b4h =>
 xcond d6b
 (xcut (fun h4E c0U => e0O x1 x5 x7 x8 x9 (nth h4E 0) x11 x12 x13 x37 x38 c0U next5 R E) fun j6 =>
 dX b4h fun X6 =>
 qL Tryz.prog X6 (blk x8) (lA 73 x8) fun f1Y =>
 (oP E (xBuiltin .append #[23, 23] 23 [true, false] [(nS), x9]) X6 fun i0Z a6Z =>
 keepX [(blk x8)] X6 a6Z (opK Tryz.prog E (xV (Instr.buildSlice 23 1 #[(0, f1Y)])) a6Z fun i1a b7n =>
 keepX [] a6Z b7n (opK Tryz.prog E (xBuiltin .append #[23, 23] 23 [false, false] [i0Z, i1a]) b7n fun i1b c1r =>
 keepX [] b7n c1r (j6 [i1b] c1r)))) ∧
 (oP E (xV (Instr.buildSlice 23 1 #[(0, f1Y)])) X6 fun i1c e0P =>
 keepX [] X6 e0P (opK Tryz.prog E (xBuiltin .append #[23, 23] 23 [true, false] [(nS), x9]) e0P fun i1d d3Q =>
 keepX [(blk x8)] e0P d3Q (opK Tryz.prog E (xBuiltin .append #[23, 23] 23 [false, false] [i1d, i1c]) d3Q fun i1e e0Q =>
 keepX [] d3Q e0Q (j6 [i1e] e0Q)))))
 (j4 [] b4h)
def f1Z (x1 x5 x11 x12 x13 : Value) (w : World) (next2 : NT) (j1 : NT) (R : RT) (E : Pan) : Prop :=
 oP E (xBin .lss 3 (.tmp 13) (.tmp 12) x13 x12) w fun b6i w_6 =>
 xcond b6i
 (xcut (fun l_9 o9 => e0M x1 (nth l_9 0) x11 x12 x13 o9 next2 R E) fun j3 =>
 oP E (iA 23 x11 x13) w_6 fun b1p p8 =>
 oP E (lA 73 b1p) p8 fun c6y p6 =>
 oP E (xV (Instr.alloc 73 true (.tuple #[]))) p6 fun b1g q8 =>
 oP E (sA 73 b1g c6y) q8 fun _z_17 w5 =>
 dX w5 fun X1 =>
 qP Tryz.prog (fA 73 b1g 4) fun f2a =>
 qP Tryz.prog (fA 73 b1g 5) fun c5n =>
 qL Tryz.prog X1 (blk f2a) (lA 23 f2a) fun d7P =>
 qL Tryz.prog X1 (blk c5n) (lA 23 c5n) fun c5j =>
 oP E (xCall (fC 26) [d7P, x1]) X1 fun i1f a9K =>
 keepX [(blk c5n)] X1 a9K (qP Tryz.prog (fA 73 b1g 4) fun i1g =>
 oP E (xCall (fC 26) [c5j, x1]) a9K fun i1h B0 =>
 keepX [] a9K B0 (opK Tryz.prog E (sA 23 i1g i1f) B0 fun _z_29 C0 =>
 keepX [] B0 C0 (qP Tryz.prog (fA 73 b1g 5) fun i1i =>
 oP E (sA 23 i1i i1h) C0 fun _z_32 a9e =>
 keepX [] C0 a9e (opK Tryz.prog E (fA 73 b1g 0) a9e fun i1j b6Q =>
 oP E (lA 3 i1j) b6Q fun i1k b2Z =>
 oP E (xBin .neq 3 (.tmp 28) (.const (vI 4)) i1k (vI 4)) b2Z fun e0E b6R =>
 xcond e0E
 (oP E (lA 73 b1g) b6R fun i1l c4X =>
 oP E (xV (Instr.buildSlice 23 1 #[(0, i1l)])) c4X fun i1m b5x =>
 oP E (xBuiltin .append #[23, 23] 23 [false, false] [x5, i1m]) b5x fun i1n c2K =>
 j3 [i1n] c2K)
 (dX b6R fun G8 =>
 qP Tryz.prog (fA 73 b1g 4) fun c2l =>
 qL Tryz.prog G8 (blk b1g) (lA 73 b1g) fun i1o =>
 qL Tryz.prog G8 (blk c2l) (lA 23 c2l) fun e0z =>
 oP E (xV (Instr.alloc 73 true (.tuple #[]))) G8 fun d0z b4f =>
 keepX [(blk c2l), (blk b1g)] G8 b4f (opK Tryz.prog E (sA 73 d0z i1o) b4f fun _z_52 b3a =>
 keepX [(blk c2l)] b4f b3a (xcut (fun _ b5y => e0N x1 x5 d0z x11 x12 x13 b5y j3 R E) fun j4 =>
 xloop [38] [(vI 0)] b3a fun τ_90 c3g next5 =>
 f1X x1 x5 b1g d0z e0z x11 x12 x13 x1 (τ_90 38) c3g next5 j4 R E))))))))
 (j1 [x5] w_6)
def F26 (x0 x1 : Value) (w : World) (R : RT) (E : Pan) : Prop :=
 xcut (fun l_1 w_2 => e0L (nth l_1 0) w_2 R E) fun j1 =>
 oP E (xBuiltin .len #[23] 3 [false] [x0]) w fun e3S w_4 =>
 xloop [5, 13] [(nS), (vI 0)] w_4 fun τ_92 d0d next2 =>
 f1Z x1 (τ_92 5) x0 e3S (τ_92 13) d0d next2 j1 R E
noncomputable def c26 : Code := Tryz.f26.body.getD .skip
def h26 : Hint := (sQ (sQ (.cut [5] (sQ (.block (.loop [5, 13] (sQ (.seq (.cond .none .none) (.cut [5] (.block (sQ (.seq (.reg [(0, 131072, 128), (1, 262144, 131072), (0, 524288, 2), (6, 1048576, 786432), (0, 2097152, 128), (16, 4194304, 2097152), (0, 8388608, 2), (104, 16777216, 12582912), (63, 33554432, 128), (447, 0, 34603008), (1023, 67108864, 128), (2047, 0, 83886080)] [34, 32, 34, 32, 34, 2, 34, 0, 34, 0, 34, 0] (.early 0 (.early 2 (.early 4 (.early 6 (.load 1 (.load 5 (.step 3 (.early 8 (.step 7 (.step 9 (.early 10 (.step 11 .done))))))))))))) (.seq (sQ (.cond (sQ .none) .none)) (.seq (.reg [(0, 17179869184, 128), (0, 34359738368, 128), (2, 68719476736, 34359738368), (0, 256, 0), (9, 0, 17179869440), (31, 512, 68719476736)] [4, 5, 1, 5, 4, 5] (.early 1 (.load 0 (.load 2 (.step 3 (.step 4 (.early 5 .done))))))) (.cut [] (sQ (.block (.loop [38] (sQ (.seq (.cond .none .none) (.seq (.block (.cut [10] (.reg [(0, 1099511627776, 512), (1, 2199023255552, 1099511627776), (0, 4398046511104, 256), (4, 8796093022208, 4398046511104), (10, 17592186044416, 10995116277760), (31, 1024, 17592186044416)] [4, 4, 0, 0, 0, 4] (.early 0 (.load 2 (.alt 1 (.step 3 (.step 4 (.early 5 .done))) (.step 3 (.step 1 (.step 4 (.early 5 .done)))))))) .none)) .none)))))) .none)))))) .none)))))) (sQ .none))))
theorem i1p (x0 x1 : Value) (w : World) (R : RT) (E : Pan) : F26 x0 x1 w R E = callX Tryz.prog [.tmp 4] c26 h26 [x0, x1] w R E := by kernel_rfl
theorem i1q {x0 x1 : Value} (h : F26 x0 x1 w R E) : Cv Tryz.prog 26 #[x0, x1] w R E := by
 refine i8 (args := [x0, x1]) (c := c26) (h := h26) (rs := [.tmp 4]) Tryz.func26 (by kernel_rfl) (by kernel_rfl) (nB (by kernel_rfl)) (by kernel_rfl) (by kernel_rfl) (by kernel_rfl) ?_
 rw [← i1p]
 exact h
def e0R (x5 : Value) (w : World) (R : RT) (_E : Pan) : Prop :=
 ∀ _τ : Fr, (R x5 w)
def f2b (x0 x1 x5 x6 : Value) (w : World) (next2 : NT) (j1 : NT) (_R : RT) (E : Pan) : Prop :=
 oP E (xBuiltin .len #[23] 3 [false] [x1]) w fun a4S w_4 =>
 oP E (xBin .lss 3 (.tmp 7) (.tmp 9) x6 a4S) w_4 fun a4k w_6 =>
 oP E (gsem (asB a4k) true (xNil (gval (asB a4k) true x0))) w_6 fun b4m w_8 =>
 oP E (gsem (asB a4k) true (fA 67 b4m 1)) w_8 fun a9v o9 =>
 oP E (gsem (asB a4k) true (lA 3 a9v)) o9 fun b1p p8 =>
 oP E (gsem (asB a4k) true (xBin .geq 3 (.tmp 15) (.const (vI 0)) b1p (vI 0))) p8 fun c6y p6 =>
 oP E (xPick a4k c6y (vB false)) p6 fun c5i q8 =>
 xcond c5i
 (dX q8 fun a0t =>
 qP Tryz.prog (iA 23 x1 x6) fun f2c =>
 qP Tryz.prog (xNil x0) fun i1r =>
 qP Tryz.prog (fA 67 i1r 0) fun f2d =>
 qL Tryz.prog a0t (blk f2c) (lA 73 f2c) fun d7t =>
 qL Tryz.prog a0t (blk f2d) (lA 3 f2d) fun i1s =>
 oP E (xCall (fC 51) [x0, d7t, i1s]) a0t fun e0S v2 =>
 keepX [] a0t v2 (opK Tryz.prog E (xV (Instr.buildSlice 23 1 #[(0, e0S)])) v2 fun c6m y8 =>
 keepX [] v2 y8 (opK Tryz.prog E (xBuiltin .append #[23, 23] 23 [false, false] [x5, c6m]) y8 fun i1t B0 =>
 keepX [] y8 B0 (opK Tryz.prog E (xBin .add 3 (.tmp 18) (.const (vI 1)) x6 (vI 1)) B0 fun c5A C0 =>
 next2 [i1t, c5A] C0))))
 (j1 [x5] q8)
def F28 (x0 x1 : Value) (w : World) (R : RT) (E : Pan) : Prop :=
 xcut (fun l_1 w_2 => e0R (nth l_1 0) w_2 R E) fun j1 =>
 xloop [5, 6] [(nS), (vI 0)] w fun τ_31 C3 next2 =>
 f2b x0 x1 (τ_31 5) (τ_31 6) C3 next2 j1 R E
noncomputable def c28 : Code := Tryz.f28.body.getD .skip
def h28 : Hint := (sQ (sQ (.cut [5] (sQ (.block (.loop [5, 6] (.seq (sQ (.cond .none .none)) (.seq (.block (.reg [(0, 1048576, 32), (0, 2097152, 1), (0, 4194304, 2), (0, 8388608, 64), (12, 16777216, 12582912), (16, 33554432, 16777216), (0, 67108864, 1), (64, 134217728, 67108864), (128, 268435456, 134217728), (256, 536870912, 268435456), (546, 1073741824, 572522496), (1024, 2147483648, 1073741824), (3073, 4294967296, 2148532224), (8191, 32, 4294967296)] [544, 544, 544, 544, 544, 512, 544, 544, 544, 32, 0, 0, 0, 544] (.early 0 (.early 1 (.early 2 (.early 3 (.early 4 (.early 6 (.early 7 (.early 8 (.load 5 (.load 9 (.step 10 (.step 11 (.step 12 (.early 13 .done)))))))))))))))) .none))))) (sQ .none))))
theorem i1u (x0 x1 : Value) (w : World) (R : RT) (E : Pan) : F28 x0 x1 w R E = callX Tryz.prog [.tmp 4] c28 h28 [x0, x1] w R E := by kernel_rfl
theorem i1v {x0 x1 : Value} (h : F28 x0 x1 w R E) : Cv Tryz.prog 28 #[x0, x1] w R E := by
 refine i8 (args := [x0, x1]) (c := c28) (h := h28) (rs := [.tmp 4]) Tryz.func28 (by kernel_rfl) (by kernel_rfl) (nB (by kernel_rfl)) (by kernel_rfl) (by kernel_rfl) (by kernel_rfl) ?_
 rw [← i1u]
 exact h
def e0T (x1 x2 : Value) (w : World) (R : RT) (E : Pan) : Prop :=
 ∀ _τ : Fr, (oP E (lA 53 x1) w fun i1w C7 =>
 oP E (sA 53 x2 i1w) C7 fun _z_43 D8 =>
 xcell Tryz.prog 53 x2 D8 fun j4G =>
 R j4G D8)
def e0U (x1 x2 : Value) (w : World) (j1 : NT) (R : RT) (E : Pan) : Prop :=
 ∀ _τ : Fr, (oP E (fA 53 x1 3) w fun i1x b3a =>
 oP E (lA 51 i1x) b3a fun i1y b6S =>
 oP E (iA 51 i1y (vI 1)) b6S fun i1z b4g =>
 oP E (lA 53 i1z) b4g fun i1A b2w =>
 oP E (xCall (fC 70) [i1A, (vI 1)]) b2w fun i1B b5y =>
 xcond i1B
 (oP E (fA 53 x1 3) b5y fun i1C b4h =>
 oP E (lA 51 i1C) b4h fun i1D b1n =>
 oP E (iA 51 i1D (vI 0)) b1n fun i1E b4i =>
 oP E (lA 53 i1E) b4i fun i1F b3b =>
 oP E (sA 53 x2 i1F) b3b fun _z_70 b2x =>
 xcell Tryz.prog 53 x2 b2x fun j4H =>
 R j4H b2x)
 (j1 [] b5y))
def e0V (x1 x2 x7 : Value) (w : World) (j1 : NT) (R : RT) (E : Pan) : Prop :=
 ∀ _τ : Fr, (oP E (fA 53 x1 3) w fun i1G X6 =>
 oP E (lA 51 i1G) X6 fun c1O a2Z =>
 oP E (iA 51 c1O (vI 1)) a2Z fun i1H a3b =>
 oP E (lA 53 i1H) a3b fun e0B a2o =>
 oP E (xCall (fC 70) [e0B, x7]) a2o fun d7N a0s =>
 xcond d7N
 (oP E (fA 53 x1 3) a0s fun d7O a2M =>
 oP E (lA 51 d7O) a2M fun i1I a2p =>
 oP E (iA 51 i1I (vI 0)) a2p fun i1J a3d =>
 oP E (lA 53 i1J) a3d fun i1K a3E =>
 oP E (sA 53 x2 i1K) a3E fun _z_93 a1U =>
 xcell Tryz.prog 53 x2 a1U fun j4I =>
 R j4I a1U)
 (j1 [] a0s))
def F40 (x0 : Value) (w : World) (R : RT) (E : Pan) : Prop :=
 oP E (xV (Instr.box 53 x0)) w fun q7 w_2 =>
 oP E (xV (Instr.alloc 53 true (.tuple #[]))) w_2 fun R3 w_4 =>
 oP E (fA 53 q7 3) w_4 fun c2O w_6 =>
 oP E (lA 51 c2O) w_6 fun c8J w_8 =>
 oP E (xCall (fC 66) [c8J, (fC 40)]) w_8 fun d1R o9 =>
 oP E (fA 53 q7 3) o9 fun b4p p8 =>
 oP E (sA 51 b4p d1R) p8 fun _z_13 p6 =>
 oP E (lA 53 q7) p6 fun b1o q8 =>
 oP E (xCall (fC 67) [b1o]) q8 fun b4k w5 =>
 oP E (eX b4k 0) w5 fun a7V t8 =>
 oP E (eX b4k 1) t8 fun a8K w9 =>
 xcond a8K
 (oP E (xCall (fC 68) [a7V]) w9 fun b8x v2 =>
 oP E (sA 53 R3 b8x) v2 fun _z_25 y8 =>
 xcell Tryz.prog 53 R3 y8 fun f6Q =>
 R f6Q y8)
 (oP E (lA 53 q7) w9 fun i1L a6Y =>
 oP E (xCall (fC 69) [i1L]) a6Y fun f2e b1m =>
 oP E (eX f2e 0) b1m fun i1M a9e =>
 oP E (eX f2e 1) a9e fun i1N b6Q =>
 xcond i1N
 (oP E (xCall (fC 68) [i1M]) b6Q fun i1O b2Z =>
 oP E (sA 53 R3 i1O) b2Z fun _z_38 b6R =>
 xcell Tryz.prog 53 R3 b6R fun j4J =>
 R j4J b6R)
 (xcut (fun _ b8v => e0T q7 R3 b8v R E) fun j1 =>
 oP E (fA 53 q7 0) b6Q fun i1P c0T =>
 oP E (lA 3 i1P) c0T fun d1V b4f =>
 xcut (fun _ a2L => e0U q7 R3 a2L j1 R E) fun j2 =>
 xcut (fun _ b9O => e0V q7 R3 (vI 0) b9O j1 R E) fun j3 =>
 oP E (xBin .eql 3 (.tmp 29) (.const (vI 6)) d1V (vI 6)) b4f fun i1Q d3M =>
 xcond i1Q
 (oP E (fA 53 q7 3) d3M fun g4M d5g =>
 oP E (lA 51 g4M) d5g fun g4N d1W =>
 oP E (iA 51 g4N (vI 0)) d1W fun g4O c2L =>
 oP E (lA 53 g4O) c2L fun g4P b4d =>
 oP E (xCall (fC 70) [g4P, (vI 0)]) b4d fun g4Q c7A =>
 xcond g4Q
 (oP E (fA 53 q7 3) c7A fun g4R d5h =>
 oP E (lA 51 g4R) d5h fun g4S e7K =>
 oP E (iA 51 g4S (vI 1)) e7K fun g4T d1X =>
 oP E (lA 53 g4T) d1X fun g4U b6h =>
 oP E (sA 53 R3 g4U) b6h fun _z_118 f8M =>
 xcell Tryz.prog 53 R3 f8M fun i8K =>
 R i8K f8M)
 (j3 [] c7A))
 (oP E (xBin .eql 3 (.tmp 29) (.const (vI 7)) d1V (vI 7)) d3M fun g4V a5w =>
 xcond g4V
 (j3 [] a5w)
 (oP E (xBin .eql 3 (.tmp 29) (.const (vI 8)) d1V (vI 8)) a5w fun g4W a9p =>
 xcond g4W
 (oP E (fA 53 q7 3) a9p fun g4X a8L =>
 oP E (lA 51 g4X) a8L fun g4Y b0a =>
 oP E (iA 51 g4Y (vI 0)) b0a fun g4Z a7k =>
 oP E (lA 53 g4Z) a7k fun g5a a7l =>
 oP E (xCall (fC 70) [g5a, (vI 1)]) a7l fun b6c a9t =>
 oP E (gsem (asB b6c) true (fA 53 q7 3)) a9t fun g5b b0b =>
 oP E (gsem (asB b6c) true (lA 51 g5b)) b0b fun g5c b0c =>
 oP E (gsem (asB b6c) true (iA 51 g5c (vI 1))) b0c fun g5d b1Z =>
 oP E (gsem (asB b6c) true (lA 53 g5d)) b1Z fun g5e b2a =>
 oP E (gsem (asB b6c) true (xCall (fC 70) [g5e, (vI 1)])) b2a fun g5f a9u =>
 oP E (gsem (asB b6c) true (xV (Op.unary .not g5f))) a9u fun g5g a6s =>
 oP E (xPick b6c g5g (vB false)) a6s fun g5h a9q =>
 xcond g5h
 (oP E (fA 53 q7 3) a9q fun g5i b4e =>
 oP E (lA 51 g5i) b4e fun g5j b2S =>
 oP E (iA 51 g5j (vI 1)) b2S fun g5k c2T =>
 oP E (lA 53 g5k) c2T fun g5l c6V =>
 oP E (sA 53 R3 g5l) c6V fun _z_157 c2U =>
 xcell Tryz.prog 53 R3 c2U fun i8L =>
 R i8L c2U)
 (j2 [] a9q))
 (oP E (xBin .eql 3 (.tmp 29) (.const (vI 9)) d1V (vI 9)) a9p fun g5m c2G =>
 xcond g5m
 (j2 [] c2G)
 (j1 [] c2G))))))
noncomputable def c40 : Code := Tryz.f40.body.getD .skip
def h40 : Hint := (sQ (sQ (.seq (sQ (sQ (.cond (sQ .none) .none))) (.seq (sQ (sQ (.cond (sQ .none) .none))) (sQ (.cut [] (sQ (.block (.cut [] (.block (.seq (.block (.cut [] (.block (.seq (.block (.seq (.seq (sQ (.cond .none .none)) (.seq (sQ (.cond .none .none)) (.seq (sQ (.cond .none .none)) (sQ (.cond .none .none))))) .none)) (sQ (.cond (sQ .none) .none)))) (.seq (sQ (.cond (sQ .none) .none)) .none))) (sQ (.cond (sQ .none) .none)))) (.seq (sQ (.cond (sQ .none) .none)) .none)))) (sQ .none)))))))
theorem i1R (x0 : Value) (w : World) (R : RT) (E : Pan) : F40 x0 w R E = callX Tryz.prog [.cell 2 53] c40 h40 [x0] w R E := by kernel_rfl
theorem i1S {x0 : Value} (h : F40 x0 w R E) : Cv Tryz.prog 40 #[x0] w R E := by
 refine i8 (args := [x0]) (c := c40) (h := h40) (rs := [.cell 2 53]) Tryz.func40 (by kernel_rfl) (by kernel_rfl) (nB (by kernel_rfl)) (by kernel_rfl) (by kernel_rfl) (by kernel_rfl) ?_
 rw [← i1R]
 exact h
def e0W (x1 x2 : Value) (w : World) (R : RT) (E : Pan) : Prop :=
 ∀ _τ : Fr, (oP E (lA 59 x1) w fun i1T a3e =>
 oP E (sA 59 x2 i1T) a3e fun _z_22 a6X =>
 xcell Tryz.prog 59 x2 a6X fun f6R =>
 R f6R a6X)
def F42 (x0 : Value) (w : World) (R : RT) (E : Pan) : Prop :=
 oP E (xV (Instr.box 59 x0)) w fun q7 w_2 =>
 oP E (xV (Instr.alloc 59 true (.tuple #[]))) w_2 fun R3 w_4 =>
 dX w_4 fun w_5 =>
 qP Tryz.prog (fA 59 q7 2) fun i1U =>
 qP Tryz.prog (fA 59 q7 3) fun b7y =>
 qL Tryz.prog w_5 (blk i1U) (lA 51 i1U) fun j4K =>
 qL Tryz.prog w_5 (blk b7y) (lA 57 b7y) fun c0t =>
 oP E (xCall (fC 66) [j4K, (fC 40)]) w_5 fun i1V S5 =>
 keepX [(blk b7y)] w_5 S5 (qP Tryz.prog (fA 59 q7 2) fun i1W =>
 oP E (xCall (fC 71) [c0t, (fC 42)]) S5 fun b8w p6 =>
 keepX [] S5 p6 (opK Tryz.prog E (sA 51 i1W i1V) p6 fun _z_15 q8 =>
 keepX [] p6 q8 (qP Tryz.prog (fA 59 q7 3) fun i1X =>
 oP E (sA 57 i1X b8w) q8 fun _z_18 X1 =>
 keepX [] q8 X1 (xcut (fun _ y8 => e0W q7 R3 y8 R E) fun j1 =>
 oP E (fA 59 q7 0) X1 fun i1Y B0 =>
 oP E (lA 3 i1Y) B0 fun d1Y C0 =>
 oP E (xBin .eql 3 (.tmp 17) (.const (vI 3)) d1Y (vI 3)) C0 fun d6S C3 =>
 xcond d6S
 (oP E (fA 59 q7 2) C3 fun c1N A6 =>
 oP E (lA 51 c1N) A6 fun c5B J6 =>
 oP E (iA 51 c5B (vI 0)) J6 fun c5C C2 =>
 oP E (lA 53 c5C) C2 fun d7L J7 =>
 oP E (xCall (fC 67) [d7L]) J7 fun f2f C7 =>
 oP E (eX f2f 0) C7 fun i1Z D8 =>
 oP E (eX f2f 1) D8 fun f2g G8 =>
 oP E (fA 59 q7 2) G8 fun c2m L9 =>
 oP E (lA 51 c2m) L9 fun i2a M6 =>
 oP E (iA 51 i2a (vI 1)) M6 fun i2b P3 =>
 oP E (lA 53 i2b) P3 fun i2c N9 =>
 oP E (xCall (fC 67) [i2c]) N9 fun f2h P4 =>
 oP E (eX f2h 0) P4 fun i2d P0 =>
 oP E (eX f2h 1) P0 fun i2e S4 =>
 oP E (xPick f2g (gval (asB f2g) true i2e) (vB false)) S4 fun i2f T6 =>
 xcond i2f
 (oP E (fA 59 q7 1) T6 fun i2g Q3 =>
 oP E (lA 3 i2g) Q3 fun i2h Z8 =>
 oP E (xCall (fC 73) [i2h, i1Z, i2d]) Z8 fun c5v Z9 =>
 oP E (xCall (fC 72) [c5v]) Z9 fun i2i W9 =>
 oP E (sA 59 R3 i2i) W9 fun _z_71 a0r =>
 xcell Tryz.prog 59 R3 a0r fun j4L =>
 R j4L a0r)
 (j1 [] T6))
 (oP E (xBin .eql 3 (.tmp 17) (.const (vI 4)) d1Y (vI 4)) C3 fun i2j c0U =>
 xcond i2j
 (oP E (fA 59 q7 3) c0U fun i2k c1c =>
 oP E (lA 57 i2k) c1c fun i2l a6Z =>
 oP E (iA 57 i2l (vI 0)) a6Z fun i2m b7n =>
 oP E (fA 59 i2m 0) b7n fun i2n c1r =>
 oP E (lA 3 i2n) c1r fun e0X e0P =>
 oP E (xBin .eql 3 (.tmp 53) (.const (vI 1)) e0X (vI 1)) e0P fun e0Y d3Q =>
 oP E (gsem (asB e0Y) false (xBin .eql 3 (.tmp 56) (.const (vI 2)) (gval (asB e0Y) false e0X) (vI 2))) d3Q fun i2o e0Q =>
 oP E (xPick e0Y (vB true) i2o) e0Q fun i2p c3g =>
 xcond i2p
 (oP E (xBin .eql 3 (.tmp 59) (.const (vI 2)) e0X (vI 2)) c3g fun i2q d0d =>
 oP E (xCall (fC 72) [i2q]) d0d fun i2r b6T =>
 oP E (sA 59 R3 i2r) b6T fun _z_96 b9O =>
 xcell Tryz.prog 59 R3 b9O fun j4M =>
 R j4M b9O)
 (j1 [] c3g))
 (oP E (xBin .eql 3 (.tmp 17) (.const (vI 5)) d1Y (vI 5)) c0U fun i2s a1w =>
 xcond i2s
 (oP E (lA 59 q7) a1w fun g5n a2Y =>
 oP E (xCall (fC 74) [g5n, (vI 1), (vI 2)]) a2Y fun g5o a4K =>
 oP E (sA 59 R3 g5o) a4K fun _z_105 a4L =>
 xcell Tryz.prog 59 R3 a4L fun i8M =>
 R i8M a4L)
 (oP E (xBin .eql 3 (.tmp 17) (.const (vI 6)) d1Y (vI 6)) a1w fun g5p c7A =>
 xcond g5p
 (oP E (lA 59 q7) c7A fun g5q d5h =>
 oP E (xCall (fC 74) [g5q, (vI 2), (vI 1)]) d5h fun g5r e7K =>
 oP E (sA 59 R3 g5r) e7K fun _z_114 d1X =>
 xcell Tryz.prog 59 R3 d1X fun i8N =>
 R i8N d1X)
 (j1 [] c7A))))))))
noncomputable def c42 : Code := Tryz.f42.body.getD .skip
def h42 : Hint := (sQ (.seq (.reg [(0, 256, 2), (1, 512, 256), (2, 1024, 512), (0, 2048, 2), (8, 4096, 2048), (20, 8192, 4096), (31, 16384, 2), (127, 0, 17408), (255, 32768, 2), (511, 0, 40960)] [18, 16, 16, 18, 2, 0, 18, 0, 18, 0] (.early 0 (.early 3 (.load 1 (.load 4 (.step 2 (.early 6 (.step 5 (.step 7 (.early 8 (.step 9 .done))))))))))) (.cut [] (sQ (.block (sQ (.cond (sQ (sQ (sQ (.cond (sQ .none) .none)))) (sQ (.cond (sQ (sQ (.cond (sQ .none) .none))) (sQ (.cond (sQ .none) (sQ (.cond (sQ .none) .none)))))))))) (sQ .none))))
theorem i2t (x0 : Value) (w : World) (R : RT) (E : Pan) : F42 x0 w R E = callX Tryz.prog [.cell 2 59] c42 h42 [x0] w R E := by kernel_rfl
theorem i2u {x0 : Value} (h : F42 x0 w R E) : Cv Tryz.prog 42 #[x0] w R E := by
 refine i8 (args := [x0]) (c := c42) (h := h42) (rs := [.cell 2 59]) Tryz.func42 (by kernel_rfl) (by kernel_rfl) (nB (by kernel_rfl)) (by kernel_rfl) (by kernel_rfl) (by kernel_rfl) ?_
 rw [← i2t]
 exact h
def e0Z (x6 x7 : Value) (w : World) (R : RT) (E : Pan) : Prop :=
 ∀ _τ : Fr, (oP E (lA 73 x7) w fun g5s N9 =>
 oP E (sA 73 x6 g5s) N9 fun _z_55 P4 =>
 xcell Tryz.prog 73 x6 P4 fun j4N =>
 R j4N P4)
def e1a (x0 x2 x4 x6 x7 : Value) (w : World) (R : RT) (E : Pan) : Prop :=
 ∀ _τ : Fr, (oP E (fA 73 x4 4) w fun i2v A6 =>
 oP E (lA 23 i2v) A6 fun i2w J6 =>
 oP E (xCall (fC 28) [x0, i2w]) J6 fun i2x C2 =>
 oP E (fA 73 x7 4) C2 fun i2y J7 =>
 oP E (sA 23 i2y i2x) J7 fun _z_41 C7 =>
 oP E (fA 73 x4 5) C7 fun i2z D8 =>
 oP E (lA 23 i2z) D8 fun i2A G8 =>
 oP E (xCall (fC 28) [x0, i2A]) G8 fun i2B L9 =>
 oP E (fA 73 x7 5) L9 fun i2C M6 =>
 oP E (sA 23 i2C i2B) M6 fun _z_51 P3 =>
 xcut (fun _ b2w => e0Z x6 x7 b2w R E) fun j3 =>
 oP E (fA 73 x4 0) P3 fun i2D b5y =>
 oP E (lA 3 i2D) b5y fun i2E b4h =>
 oP E (xBin .eql 3 (.tmp 97) (.const (vI 4)) i2E (vI 4)) b4h fun e1b b1n =>
 oP E (gsem (asB e1b) true (xBin .gtr 3 (.tmp 100) (.const (vI 0)) (gval (asB e1b) true x2) (vI 0))) b1n fun g5t b4i =>
 oP E (xPick e1b g5t (vB false)) b4i fun b8h b3b =>
 oP E (gsem (asB b8h) true (xNil (gval (asB b8h) true x0))) b3b fun g5u b2x =>
 oP E (gsem (asB b8h) true (fA 67 g5u 1)) b2x fun g5v c3p =>
 oP E (gsem (asB b8h) true (lA 3 g5v)) c3p fun g5w c0U =>
 oP E (gsem (asB b8h) true (xBin .geq 3 (.tmp 107) (.const (vI 0)) g5w (vI 0))) c0U fun g5x c1c =>
 oP E (xPick b8h g5x (vB false)) c1c fun g5y a6Z =>
 xcond g5y
 (oP E (fA 73 x7 0) a6Z fun g5z b7n =>
 oP E (sA 3 g5z (vI 3)) b7n fun _z_82 c1r =>
 dX c1r fun a0s =>
 qP Tryz.prog (fA 73 x7 4) fun c7B =>
 qP Tryz.prog (xBin .sub 3 (.tmp 115) (.const (vI 1)) x2 (vI 1)) fun g5A =>
 qL Tryz.prog a0s (blk c7B) (lA 23 c7B) fun g5B =>
 qL Tryz.prog a0s (blk x4) (lA 73 x4) fun g5C =>
 oP E (xCall (fC 51) [x0, g5C, g5A]) a0s fun g5D a3d =>
 keepX [(blk c7B)] a0s a3d (opK Tryz.prog E (xV (Instr.buildSlice 23 1 #[(0, g5D)])) a3d fun g5E a3E =>
 keepX [(blk c7B)] a3d a3E (opK Tryz.prog E (xBuiltin .append #[23, 23] 23 [false, false] [g5B, g5E]) a3E fun g5F a1U =>
 keepX [] a3E a1U (qP Tryz.prog (fA 73 x7 4) fun g5G =>
 oP E (sA 23 g5G g5F) a1U fun _z_96 b9O =>
 keepX [] a1U b9O (j3 [] b9O)))))
 (j3 [] a6Z))
def f2i (x0 _x2 x4 _x6 x7 x9 : Value) (w : World) (next4 : NT) (j2 : NT) (_R : RT) (E : Pan) : Prop :=
 oP E (fA 73 x4 2) w fun g5H d5g =>
 oP E (lA 51 g5H) d5g fun g5I d1W =>
 oP E (xBuiltin .len #[51] 3 [false] [g5I]) d1W fun g5J c2L =>
 oP E (xBin .lss 3 (.tmp 54) (.tmp 57) x9 g5J) c2L fun g5K b4d =>
 xcond g5K
 (dX b4d fun a4j =>
 qP Tryz.prog (xNil x0) fun g5L =>
 qP Tryz.prog (fA 67 g5L 1) fun d3R =>
 qP Tryz.prog (fA 73 x4 2) fun e3b =>
 qL Tryz.prog a4j (blk d3R) (lA 3 d3R) fun g5M =>
 qL Tryz.prog a4j (blk e3b) (lA 51 e3b) fun g5N =>
 qP Tryz.prog (iA 51 g5N x9) fun e3c =>
 qL Tryz.prog a4j (blk e3c) (lA 53 e3c) fun g5O =>
 oP E (xCall (fC 91) [g5O]) a4j fun g5P b6h =>
 keepX [(blk d3R)] a4j b6h (qP Tryz.prog (xBin .sub 3 (.tmp 65) (.tmp 71) g5M g5P) fun g5Q =>
 qP Tryz.prog (xNil x0) fun g5R =>
 qP Tryz.prog (fA 67 g5R 1) fun g5S =>
 oP E (sA 3 g5S g5Q) b6h fun _z_121 a5w =>
 keepX [] b6h a5w (dX a5w fun c7C =>
 qP Tryz.prog (fA 73 x7 2) fun c7D =>
 qP Tryz.prog (fA 73 x4 2) fun b5A =>
 qL Tryz.prog c7C (blk c7D) (lA 51 c7D) fun g5T =>
 qL Tryz.prog c7C (blk b5A) (lA 51 b5A) fun g5U =>
 qP Tryz.prog (iA 51 g5U x9) fun e3d =>
 qL Tryz.prog c7C (blk e3d) (lA 53 e3d) fun g5V =>
 oP E (xCall (fC 92) [g5V]) c7C fun g5W d1b =>
 keepX [(blk c7D)] c7C d1b (opK Tryz.prog E (xV (Instr.buildSlice 51 1 #[(0, g5W)])) d1b fun g5X b2R =>
 keepX [(blk c7D)] d1b b2R (opK Tryz.prog E (xBuiltin .append #[51, 51] 51 [false, false] [g5T, g5X]) b2R fun g5Y d1Z =>
 keepX [] b2R d1Z (qP Tryz.prog (fA 73 x7 2) fun g5Z =>
 oP E (sA 51 g5Z g5Y) d1Z fun _z_137 b0c =>
 keepX [] d1Z b0c (opK Tryz.prog E (xBin .add 3 (.tmp 59) (.const (vI 1)) x9 (vI 1)) b0c fun g6a b1Z =>
 next4 [g6a] b1Z)))))))
 (j2 [] b4d)
def e1c (x0 x2 x4 x6 x7 : Value) (w : World) (R : RT) (E : Pan) : Prop :=
 ∀ _τ : Fr, (xcut (fun _ d3M => e1a x0 x2 x4 x6 x7 d3M R E) fun j2 =>
 xloop [9] [(vI 0)] w fun τ_141 b2a next4 =>
 f2i x0 x2 x4 x6 x7 (τ_141 9) b2a next4 j2 R E)
def f2j (x0 _x2 x4 _x6 x7 x8 : Value) (w : World) (next5 : NT) (j1 : NT) (_R : RT) (E : Pan) : Prop :=
 oP E (fA 73 x4 3) w fun g6b a6s =>
 oP E (lA 57 g6b) a6s fun g6c a9q =>
 oP E (xBuiltin .len #[57] 3 [false] [g6c]) a9q fun g6d b4e =>
 oP E (xBin .lss 3 (.tmp 22) (.tmp 25) x8 g6d) b4e fun g6e b2S =>
 xcond g6e
 (dX b2S fun d2a =>
 qP Tryz.prog (xNil x0) fun g6f =>
 qP Tryz.prog (fA 67 g6f 1) fun d3S =>
 qP Tryz.prog (fA 73 x4 3) fun e3e =>
 qL Tryz.prog d2a (blk d3S) (lA 3 d3S) fun g6g =>
 qL Tryz.prog d2a (blk e3e) (lA 57 e3e) fun g6h =>
 qP Tryz.prog (iA 57 g6h x8) fun e3f =>
 qL Tryz.prog d2a (blk e3f) (lA 59 e3f) fun g6i =>
 oP E (xCall (fC 89) [g6i]) d2a fun g6j c7m =>
 keepX [(blk d3S)] d2a c7m (qP Tryz.prog (xBin .sub 3 (.tmp 33) (.tmp 39) g6g g6j) fun g6k =>
 qP Tryz.prog (xNil x0) fun g6l =>
 qP Tryz.prog (fA 67 g6l 1) fun g6m =>
 oP E (sA 3 g6m g6k) c7m fun _z_166 c2H =>
 keepX [] c7m c2H (dX c2H fun c0C =>
 qP Tryz.prog (fA 73 x7 3) fun c7E =>
 qP Tryz.prog (fA 73 x4 3) fun e3g =>
 qL Tryz.prog c0C (blk c7E) (lA 57 c7E) fun g6n =>
 qL Tryz.prog c0C (blk e3g) (lA 57 e3g) fun g6o =>
 qP Tryz.prog (iA 57 g6o x8) fun e3h =>
 qL Tryz.prog c0C (blk e3h) (lA 59 e3h) fun g6p =>
 oP E (xCall (fC 90) [g6p]) c0C fun g6q d1s =>
 keepX [(blk c7E)] c0C d1s (opK Tryz.prog E (xV (Instr.buildSlice 57 1 #[(0, g6q)])) d1s fun g6r c7l =>
 keepX [(blk c7E)] d1s c7l (opK Tryz.prog E (xBuiltin .append #[57, 57] 57 [false, false] [g6n, g6r]) c7l fun g6s d1t =>
 keepX [] c7l d1t (qP Tryz.prog (fA 73 x7 3) fun g6t =>
 oP E (sA 57 g6t g6s) d1t fun _z_182 e7L =>
 keepX [] d1t e7L (opK Tryz.prog E (xBin .add 3 (.tmp 27) (.const (vI 1)) x8 (vI 1)) e7L fun g6u f8N =>
 next5 [g6u] f8N)))))))
 (j1 [] b2S)
def F51 (x0 x1 x2 : Value) (w : World) (R : RT) (E : Pan) : Prop :=
 oP E (xV (Instr.box 73 x1)) w fun b0W w_2 =>
 oP E (xV (Instr.alloc 73 true (.tuple #[]))) w_2 fun b6U w_4 =>
 oP E (xNil x0) w_4 fun a4N w_6 =>
 oP E (fA 67 a4N 1) w_6 fun a2b w_8 =>
 oP E (lA 3 a2b) w_8 fun a4O o9 =>
 oP E (xBin .sub 3 (.tmp 13) (.const (vI 1)) a4O (vI 1)) o9 fun d7u p8 =>
 oP E (xNil x0) p8 fun b6v p6 =>
 oP E (fA 67 b6v 1) p6 fun a4P q8 =>
 oP E (sA 3 a4P d7u) q8 fun _z_17 w5 =>
 oP E (fA 73 b0W 0) w5 fun c5h t8 =>
 oP E (lA 3 c5h) t8 fun c6u w9 =>
 oP E (fA 73 b0W 1) w9 fun b8x v2 =>
 oP E (lA 9 b8x) v2 fun i2F y8 =>
 oP E (xV (Instr.build 73 #[(0, c6u), (1, i2F)])) y8 fun i2G B0 =>
 oP E (xV (Instr.alloc 73 true (.tuple #[]))) B0 fun e7M C0 =>
 oP E (sA 73 e7M i2G) C0 fun _z_31 C3 =>
 xcut (fun _ a9u => e1c x0 x2 b0W b6U e7M a9u R E) fun j1 =>
 xloop [8] [(vI 0)] C3 fun τ_186 f8O next5 =>
 f2j x0 x2 b0W b6U e7M (τ_186 8) f8O next5 j1 R E
noncomputable def c51 : Code := Tryz.f51.body.getD .skip
def h51 : Hint := (sQ (sQ (sQ (.cut [] (sQ (.block (.loop [8] (.seq (sQ (.cond .none .none)) (.seq (.block (.seq (.reg [(0, 536870912, 1), (0, 1073741824, 1), (2, 2147483648, 1073741824), (4, 4294967296, 2147483648), (8, 8589934592, 4294967296), (0, 17179869184, 16), (32, 34359738368, 17179869184), (0, 68719476736, 256), (192, 137438953472, 103079215104), (256, 274877906944, 137438953472), (512, 549755813888, 274877906944), (1040, 1099511627776, 558345748480), (4095, 2199023255552, 536870912), (8191, 4398046511104, 2199023255552), (12287, 0, 5497558138880)] [592, 592, 592, 592, 576, 592, 528, 592, 592, 80, 16, 592, 592, 592, 0] (.early 0 (.early 1 (.early 2 (.early 3 (.early 5 (.early 7 (.load 4 (.load 6 (.early 8 (.load 9 (.step 10 (.early 11 (.early 12 (.early 13 (.step 14 .done)))))))))))))))) (.reg [(0, 8796093022208, 128), (1, 17592186044416, 8796093022208), (0, 35184372088832, 16), (4, 70368744177664, 35184372088832), (0, 140737488355328, 256), (24, 281474976710656, 211106232532992), (32, 562949953421312, 281474976710656), (64, 1125899906842624, 562949953421312), (128, 2251799813685248, 1125899906842624), (386, 4503599627370496, 2269391999729664), (1023, 9007199254740992, 128), (2047, 0, 13510798882111488)] [74, 72, 74, 66, 74, 74, 10, 2, 2, 0, 74, 0] (.early 0 (.early 2 (.early 4 (.load 1 (.load 3 (.early 5 (.load 6 (.step 7 (.step 8 (.step 9 (.early 10 (.step 11 .done))))))))))))))) .none))))) (.cut [] (sQ (.block (.loop [9] (.seq (sQ (.cond .none .none)) (.seq (.block (.seq (.reg [(0, 2305843009213693952, 1), (0, 4611686018427387904, 1), (2, 9223372036854775808, 4611686018427387904), (4, 18446744073709551616, 9223372036854775808), (8, 36893488147419103232, 18446744073709551616), (0, 73786976294838206464, 16), (32, 147573952589676412928, 73786976294838206464), (0, 295147905179352825856, 512), (192, 590295810358705651712, 442721857769029238784), (256, 1180591620717411303424, 590295810358705651712), (512, 2361183241434822606848, 1180591620717411303424), (1040, 4722366482869645213696, 2398076729582241710080), (4095, 9444732965739290427392, 2305843009213693952), (8191, 18889465931478580854784, 9444732965739290427392), (12287, 0, 23611832414348226068480)] [592, 592, 592, 592, 576, 592, 528, 592, 592, 80, 16, 592, 592, 592, 0] (.early 0 (.early 1 (.early 2 (.early 3 (.early 5 (.early 7 (.load 4 (.load 6 (.early 8 (.load 9 (.step 10 (.early 11 (.early 12 (.early 13 (.step 14 .done)))))))))))))))) (.reg [(0, 37778931862957161709568, 128), (1, 75557863725914323419136, 37778931862957161709568), (0, 151115727451828646838272, 16), (4, 302231454903657293676544, 151115727451828646838272), (0, 604462909807314587353088, 512), (24, 1208925819614629174706176, 906694364710971881029632), (32, 2417851639229258349412352, 1208925819614629174706176), (64, 4835703278458516698824704, 2417851639229258349412352), (128, 9671406556917033397649408, 4835703278458516698824704), (386, 19342813113834066795298816, 9746964420642947721068544), (1023, 38685626227668133590597632, 128), (2047, 0, 58028439341502200385896448)] [74, 72, 74, 66, 74, 74, 10, 2, 2, 0, 74, 0] (.early 0 (.early 2 (.early 4 (.load 1 (.load 3 (.early 5 (.load 6 (.step 7 (.step 8 (.step 9 (.early 10 (.step 11 .done))))))))))))))) .none))))) (sQ (sQ (.cut [] (sQ (.cond (sQ (.reg [(0, 2596148429267413814265248164610048, 128), (1, 5192296858534827628530496329220096, 2596148429267413814265248164610048), (0, 10384593717069655257060992658440192, 1), (0, 20769187434139310514121985316880384, 16), (0, 41538374868278621028243970633760768, 4), (16, 83076749736557242056487941267521536, 41538374868278621028243970633760768), (44, 166153499473114484112975882535043072, 114230530887766207827670919242842112), (64, 332306998946228968225951765070086144, 166153499473114484112975882535043072), (194, 664613997892457936451903530140172288, 337499295804763795854482261399306240), (511, 1329227995784915872903807060280344576, 128), (1023, 0, 1993841993677373809355710590420516864)] [10, 8, 10, 2, 10, 10, 2, 2, 0, 10, 0] (.early 0 (.early 2 (.early 4 (.early 5 (.load 1 (.load 3 (.step 6 (.step 7 (.step 8 (.early 9 (.step 10 .done))))))))))))) .none)) (sQ .none)))))))))
theorem i2H (x0 x1 x2 : Value) (w : World) (R : RT) (E : Pan) : F51 x0 x1 x2 w R E = callX Tryz.prog [.cell 6 73] c51 h51 [x0, x1, x2] w R E := by kernel_rfl
theorem i2I {x0 x1 x2 : Value} (h : F51 x0 x1 x2 w R E) : Cv Tryz.prog 51 #[x0, x1, x2] w R E := by
 refine i8 (args := [x0, x1, x2]) (c := c51) (h := h51) (rs := [.cell 6 73]) Tryz.func51 (by kernel_rfl) (by kernel_rfl) (nB (by kernel_rfl)) (by kernel_rfl) (by kernel_rfl) (by kernel_rfl) ?_
 rw [← i2H]
 exact h
def e1d (x5 : Value) (w : World) (R : RT) (_E : Pan) : Prop :=
 ∀ _τ : Fr, (R x5 w)
def f2k (x1 x5 x8 x9 x10 : Value) (w : World) (next2 : NT) (j1 : NT) (_R : RT) (E : Pan) : Prop :=
 oP E (xBin .lss 3 (.tmp 10) (.tmp 9) x10 x9) w fun a4N w_6 =>
 xcond a4N
 (oP E (iA 51 x8 x10) w_6 fun a2b w_8 =>
 oP E (lA 53 a2b) w_8 fun a4O o9 =>
 oP E (xV (Instr.alloc 53 true (.tuple #[]))) o9 fun Y0 p8 =>
 oP E (sA 53 Y0 a4O) p8 fun _z_13 p6 =>
 oP E (lA 53 Y0) p6 fun a4P q8 =>
 oP E (xCall x1 [a4P]) q8 fun a6G w5 =>
 oP E (xV (Instr.buildSlice 51 1 #[(0, a6G)])) w5 fun a4Q t8 =>
 oP E (xBuiltin .append #[51, 51] 51 [false, false] [x5, a4Q]) t8 fun a6H w9 =>
 oP E (xBin .add 3 (.tmp 10) (.const (vI 1)) x10 (vI 1)) w9 fun a4R v2 =>
 next2 [a6H, a4R] v2)
 (j1 [x5] w_6)
def F66 (x0 x1 : Value) (w : World) (R : RT) (E : Pan) : Prop :=
 xcut (fun l_1 w_2 => e1d (nth l_1 0) w_2 R E) fun j1 =>
 oP E (xBuiltin .len #[51] 3 [false] [x0]) w fun a4S w_4 =>
 xloop [5, 10] [(nS), (vI 0)] w_4 fun τ_25 y8 next2 =>
 f2k x1 (τ_25 5) x0 a4S (τ_25 10) y8 next2 j1 R E
noncomputable def c66 : Code := Tryz.f66.body.getD .skip
def h66 : Hint := (sQ (sQ (.cut [5] (sQ (.block (.loop [5, 10] (sQ (.seq (.cond .none .none) (.seq (.block (sQ .none)) .none)))))) (sQ .none))))
theorem i2J (x0 x1 : Value) (w : World) (R : RT) (E : Pan) : F66 x0 x1 w R E = callX Tryz.prog [.tmp 4] c66 h66 [x0, x1] w R E := by kernel_rfl
theorem i2K {x0 x1 : Value} (h : F66 x0 x1 w R E) : Cv Tryz.prog 66 #[x0, x1] w R E := by
 refine i8 (args := [x0, x1]) (c := c66) (h := h66) (rs := [.tmp 4]) Tryz.func66 (by kernel_rfl) (by kernel_rfl) (nB (by kernel_rfl)) (by kernel_rfl) (by kernel_rfl) (by kernel_rfl) ?_
 rw [← i2J]
 exact h
def F67 (x0 : Value) (w : World) (R : RT) (E : Pan) : Prop :=
 oP E (xV (Instr.box 53 x0)) w fun q7 w_2 =>
 oP E (fA 53 q7 0) w_2 fun b8B w_4 =>
 oP E (lA 3 b8B) w_4 fun a7U w_6 =>
 oP E (xBin .eql 3 (.tmp 6) (.const (vI 1)) a7U (vI 1)) w_6 fun a9Z w_8 =>
 xcond a9Z
 (oP E (fA 53 q7 1) w_8 fun a5s o9 =>
 oP E (lA 2 a5s) o9 fun a4M p8 =>
 R (Value.tuple #[a4M, (vB true)]) p8)
 (oP E (fA 53 q7 0) w_8 fun b0P p6 =>
 oP E (lA 3 b0P) p6 fun b8o q8 =>
 oP E (xBin .eql 3 (.tmp 12) (.const (vI 5)) b8o (vI 5)) q8 fun a4g w5 =>
 oP E (gsem (asB a4g) true (fA 53 q7 3)) w5 fun a7V t8 =>
 oP E (gsem (asB a4g) true (lA 51 a7V)) t8 fun a8K w9 =>
 oP E (gsem (asB a4g) true (iA 51 a8K (vI 0))) w9 fun b4c v2 =>
 oP E (gsem (asB a4g) true (fA 53 b4c 0)) v2 fun a6E y8 =>
 oP E (gsem (asB a4g) true (lA 3 a6E)) y8 fun b1k B0 =>
 oP E (gsem (asB a4g) true (xBin .eql 3 (.tmp 19) (.const (vI 1)) b1k (vI 1))) B0 fun c4V C0 =>
 oP E (xPick a4g c4V (vB false)) C0 fun b2M C3 =>
 xcond b2M
 (oP E (fA 53 q7 3) C3 fun a9J A6 =>
 oP E (lA 51 a9J) A6 fun d6O J6 =>
 oP E (iA 51 d6O (vI 0)) J6 fun b0R C2 =>
 oP E (fA 53 b0R 1) C2 fun i2L J7 =>
 oP E (lA 2 i2L) J7 fun i2M C7 =>
 oP E (xV (Op.unary .neg i2M)) C7 fun i2N D8 =>
 R (Value.tuple #[i2N, (vB true)]) D8)
 (R (Value.tuple #[(vI 0), (vB false)]) C3))
noncomputable def c67 : Code := Tryz.f67.body.getD .skip
def h67 : Hint := (sQ (.seq (.block (sQ (.cond (sQ .none) (sQ (.cond (sQ .none) .none))))) (sQ .none)))
theorem i2O (x0 : Value) (w : World) (R : RT) (E : Pan) : F67 x0 w R E = callX Tryz.prog [.tmp 2, .tmp 3] c67 h67 [x0] w R E := by kernel_rfl
theorem i2P {x0 : Value} (h : F67 x0 w R E) : Cv Tryz.prog 67 #[x0] w R E := by
 refine i8 (args := [x0]) (c := c67) (h := h67) (rs := [.tmp 2, .tmp 3]) Tryz.func67 (by kernel_rfl) (by kernel_rfl) (nB (by kernel_rfl)) (by kernel_rfl) (by kernel_rfl) (by kernel_rfl) ?_
 rw [← i2O]
 exact h
def F68 (x0 : Value) (w : World) (R : RT) (E : Pan) : Prop :=
 oP E (xV (Instr.alloc 53 true (.tuple #[]))) w fun X0 w_2 =>
 oP E (xBin .lss 2 (.tmp 3) (.const (vI 0)) x0 (vI 0)) w_2 fun a4v w_4 =>
 xcond a4v
 (oP E (xV (Op.unary .neg x0)) w_4 fun a7U w_6 =>
 oP E (xV (Instr.build 53 #[(0, (vI 1)), (1, a7U)])) w_6 fun a9Z w_8 =>
 oP E (xV (Instr.buildSlice 51 1 #[(0, a9Z)])) w_8 fun a5s o9 =>
 oP E (xV (Instr.build 53 #[(0, (vI 5)), (3, a5s)])) o9 fun a4M p8 =>
 oP E (sA 53 X0 a4M) p8 fun _z_13 p6 =>
 xcell Tryz.prog 53 X0 p6 fun b2Y =>
 R b2Y p6)
 (oP E (xV (Instr.build 53 #[(0, (vI 1)), (1, x0)])) w_4 fun b8u a0t =>
 oP E (sA 53 X0 b8u) a0t fun _z_18 X1 =>
 xcell Tryz.prog 53 X0 X1 fun f6S =>
 R f6S X1)
noncomputable def c68 : Code := Tryz.f68.body.getD .skip
def h68 : Hint := (sQ (.seq (sQ (.cond (sQ .none) .none)) (sQ .none)))
theorem i2Q (x0 : Value) (w : World) (R : RT) (E : Pan) : F68 x0 w R E = callX Tryz.prog [.cell 2 53] c68 h68 [x0] w R E := by kernel_rfl
theorem i2R {x0 : Value} (h : F68 x0 w R E) : Cv Tryz.prog 68 #[x0] w R E := by
 refine i8 (args := [x0]) (c := c68) (h := h68) (rs := [.cell 2 53]) Tryz.func68 (by kernel_rfl) (by kernel_rfl) (nB (by kernel_rfl)) (by kernel_rfl) (by kernel_rfl) (by kernel_rfl) ?_
 rw [← i2Q]
 exact h
def e1e (x9 x10 : Value) (w : World) (R : RT) (E : Pan) : Prop :=
 ∀ _τ : Fr, (oP E (xBin .eql 3 (.tmp 91) (.const (vI 0)) x10 (vI 0)) w fun e7N w_6 =>
 oP E (gsem (asB e7N) true (xBin .neq 2 (.tmp 94) (.const (vI (-9223372036854775808))) (gval (asB e7N) true x9) (vI (-9223372036854775808)))) w_6 fun i8O w_8 =>
 oP E (xPick e7N i8O (vB false)) w_8 fun i8P o9 =>
 R (Value.tuple #[x9, i8P]) o9)
def e1f (x1 x4 : Value) (w : World) (R : RT) (E : Pan) : Prop :=
 ∀ _τ : Fr, (xcut (fun c8K p8 => e1e (nth c8K 0) (nth c8K.tail 0) p8 R E) fun j2 =>
 oP E (fA 53 x1 0) w fun i2S p6 =>
 oP E (lA 3 i2S) p6 fun b6u q8 =>
 oP E (xBin .eql 3 (.tmp 31) (.const (vI 5)) b6u (vI 5)) q8 fun c6k w5 =>
 xcond c6k
 (oP E (iA 173 x4 (vI 0)) w5 fun i2T t8 =>
 oP E (lA 2 i2T) t8 fun i2U w9 =>
 oP E (xCall (fC 112) [i2U]) w9 fun f2l v2 =>
 oP E (eX f2l 0) v2 fun i2V y8 =>
 oP E (eX f2l 1) y8 fun i2W B0 =>
 j2 [i2V, i2W] B0)
 (oP E (xBin .eql 3 (.tmp 31) (.const (vI 6)) b6u (vI 6)) w5 fun i2X C0 =>
 xcond i2X
 (oP E (iA 173 x4 (vI 0)) C0 fun d9J C3 =>
 oP E (lA 2 d9J) C3 fun d9K A6 =>
 oP E (iA 173 x4 (vI 1)) A6 fun i2Y J6 =>
 oP E (lA 2 i2Y) J6 fun i2Z C2 =>
 oP E (xCall (fC 113) [d9K, i2Z]) C2 fun f2m J7 =>
 oP E (eX f2m 0) J7 fun i3a C7 =>
 oP E (eX f2m 1) C7 fun e0G D8 =>
 j2 [i3a, e0G] D8)
 (oP E (xBin .eql 3 (.tmp 31) (.const (vI 7)) b6u (vI 7)) C0 fun d9Y G8 =>
 xcond d9Y
 (oP E (iA 173 x4 (vI 0)) G8 fun i3b L9 =>
 oP E (lA 2 i3b) L9 fun i3c M6 =>
 oP E (iA 173 x4 (vI 1)) M6 fun d9U P3 =>
 oP E (lA 2 d9U) P3 fun d9V N9 =>
 oP E (xCall (fC 114) [i3c, d9V]) N9 fun f2n P4 =>
 oP E (eX f2n 0) P4 fun i3d P0 =>
 oP E (eX f2n 1) P0 fun i3e S4 =>
 j2 [i3d, i3e] S4)
 (oP E (xBin .eql 3 (.tmp 31) (.const (vI 8)) b6u (vI 8)) G8 fun i3f T6 =>
 xcond i3f
 (oP E (iA 173 x4 (vI 0)) T6 fun d9L Q3 =>
 oP E (lA 2 d9L) Q3 fun d9M Z8 =>
 oP E (iA 173 x4 (vI 1)) Z8 fun i3g Z9 =>
 oP E (lA 2 i3g) Z9 fun d9C W9 =>
 oP E (xCall (fC 115) [d9M, d9C]) W9 fun d1z a0r =>
 oP E (eX d1z 0) a0r fun d9D a2L =>
 oP E (eX d1z 1) a2L fun b4j X6 =>
 j2 [d9D, b4j] X6)
 (oP E (xBin .eql 3 (.tmp 31) (.const (vI 9)) b6u (vI 9)) T6 fun i3h a2Z =>
 xcond i3h
 (oP E (iA 173 x4 (vI 0)) a2Z fun d9E a3b =>
 oP E (lA 2 d9E) a3b fun d9F a2o =>
 oP E (iA 173 x4 (vI 1)) a2o fun d9G a0s =>
 oP E (lA 2 d9G) a0s fun i3i a2M =>
 oP E (xCall (fC 116) [d9F, i3i]) a2M fun f2o a2p =>
 oP E (eX f2o 0) a2p fun i3j a3d =>
 oP E (eX f2o 1) a3d fun i3k a3E =>
 j2 [i3j, i3k] a3E)
 (oP E (xBin .eql 3 (.tmp 31) (.const (vI 10)) b6u (vI 10)) a2Z fun i3l a1U =>
 xcond i3l
 (oP E (iA 173 x4 (vI 0)) a1U fun i3m a5T =>
 oP E (lA 2 i3m) a5T fun i3n a6F =>
 oP E (iA 173 x4 (vI 1)) a6F fun i3o a1w =>
 oP E (lA 2 i3o) a1w fun g6v a2Y =>
 oP E (xCall (fC 117) [i3n, g6v]) a2Y fun e3i a4K =>
 oP E (eX e3i 0) a4K fun g6w a4L =>
 oP E (eX e3i 1) a4L fun g6x a4j =>
 j2 [g6w, g6x] a4j)
 (j2 [(vI 0), (vI 2)] a1U)))))))
def f2p (_x1 x4 x12 x13 x14 : Value) (w : World) (next3 : NT) (j1 : NT) (R : RT) (E : Pan) : Prop :=
 oP E (xBin .lss 3 (.tmp 14) (.tmp 13) x14 x13) w fun g6y a8M =>
 xcond g6y
 (oP E (iA 51 x12 x14) a8M fun d2U a8i =>
 oP E (lA 53 d2U) a8i fun b3N a5w =>
 oP E (xV (Instr.alloc 53 true (.tuple #[]))) a5w fun f2q a9p =>
 oP E (sA 53 f2q b3N) a9p fun _z_125 a8L =>
 oP E (lA 53 f2q) a8L fun g6z b0a =>
 oP E (xCall (fC 67) [g6z]) b0a fun e3j a7k =>
 oP E (eX e3j 0) a7k fun g6A a7l =>
 oP E (eX e3j 1) a7l fun g6B a9t =>
 oP E (xV (Op.unary .not g6B)) a9t fun g6C b0b =>
 xcond g6C
 (R (Value.tuple #[(vI 0), (vB false)]) b0b)
 (oP E (iA 173 x4 x14) b0b fun g6D b0c =>
 oP E (sA 2 g6D g6A) b0c fun _z_139 b1Z =>
 oP E (xBin .add 3 (.tmp 14) (.const (vI 1)) x14 (vI 1)) b1Z fun g6E b2a =>
 next3 [g6E] b2a))
 (j1 [] a8M)
def F69 (x0 : Value) (w : World) (R : RT) (E : Pan) : Prop :=
 oP E (xV (Instr.box 53 x0)) w fun q7 w_2 =>
 oP E (xV (Instr.alloc 173 true (.tuple #[]))) w_2 fun a4v w_4 =>
 xcut (fun _ a7m => e1f q7 a4v a7m R E) fun j1 =>
 oP E (fA 53 q7 3) w_4 fun g6F a9r =>
 oP E (lA 51 g6F) a9r fun e3k a7n =>
 oP E (xBuiltin .len #[51] 3 [false] [e3k]) a7n fun g6G a9s =>
 xloop [14] [(vI 0)] a9s fun τ_143 a9u next3 =>
 f2p q7 a4v e3k g6G (τ_143 14) a9u next3 j1 R E
noncomputable def c69 : Code := Tryz.f69.body.getD .skip
def h69 : Hint := (sQ (sQ (.cut [] (sQ (.block (.loop [14] (sQ (.seq (.cond .none .none) (.seq (.block (sQ (sQ (.seq (sQ (.cond (sQ .none) .none)) .none)))) .none)))))) (sQ (.cut [9, 10] (sQ (.block (sQ (.cond .none (sQ (.cond .none (sQ (.cond .none (sQ (.cond .none (sQ (.cond .none (sQ (.cond .none .none)))))))))))))) (sQ .none))))))
theorem i3p (x0 : Value) (w : World) (R : RT) (E : Pan) : F69 x0 w R E = callX Tryz.prog [.tmp 2, .tmp 3] c69 h69 [x0] w R E := by kernel_rfl
theorem i3q {x0 : Value} (h : F69 x0 w R E) : Cv Tryz.prog 69 #[x0] w R E := by
 refine i8 (args := [x0]) (c := c69) (h := h69) (rs := [.tmp 2, .tmp 3]) Tryz.func69 (by kernel_rfl) (by kernel_rfl) (nB (by kernel_rfl)) (by kernel_rfl) (by kernel_rfl) (by kernel_rfl) ?_
 rw [← i3p]
 exact h
def F70 (x0 x1 : Value) (w : World) (R : RT) (E : Pan) : Prop :=
 oP E (xV (Instr.box 53 x0)) w fun X0 w_2 =>
 oP E (lA 53 X0) w_2 fun c5t w_4 =>
 oP E (xCall (fC 67) [c5t]) w_4 fun d3h w_6 =>
 oP E (eX d3h 0) w_6 fun c7z w_8 =>
 oP E (eX d3h 1) w_8 fun b7x o9 =>
 oP E (gsem (asB b7x) true (xBin .eql 2 (.tmp 14) (.tmp 15) (gval (asB b7x) true c7z) (gval (asB b7x) true x1))) o9 fun a7Y p8 =>
 oP E (xPick b7x a7Y (vB false)) p8 fun d9l p6 =>
 R d9l p6
noncomputable def c70 : Code := Tryz.f70.body.getD .skip
def h70 : Hint := (sQ (sQ (sQ .none)))
theorem i3r (x0 x1 : Value) (w : World) (R : RT) (E : Pan) : F70 x0 x1 w R E = callX Tryz.prog [.tmp 4] c70 h70 [x0, x1] w R E := by kernel_rfl
theorem i3s {x0 x1 : Value} (h : F70 x0 x1 w R E) : Cv Tryz.prog 70 #[x0, x1] w R E := by
 refine i8 (args := [x0, x1]) (c := c70) (h := h70) (rs := [.tmp 4]) Tryz.func70 (by kernel_rfl) (by kernel_rfl) (nB (by kernel_rfl)) (by kernel_rfl) (by kernel_rfl) (by kernel_rfl) ?_
 rw [← i3r]
 exact h
def e1g (x5 : Value) (w : World) (R : RT) (_E : Pan) : Prop :=
 ∀ _τ : Fr, (R x5 w)
def f2r (x1 x5 x8 x9 x10 : Value) (w : World) (next2 : NT) (j1 : NT) (_R : RT) (E : Pan) : Prop :=
 oP E (xBin .lss 3 (.tmp 10) (.tmp 9) x10 x9) w fun a4N w_6 =>
 xcond a4N
 (oP E (iA 57 x8 x10) w_6 fun a2b w_8 =>
 oP E (lA 59 a2b) w_8 fun a4O o9 =>
 oP E (xV (Instr.alloc 59 true (.tuple #[]))) o9 fun Y0 p8 =>
 oP E (sA 59 Y0 a4O) p8 fun _z_13 p6 =>
 oP E (lA 59 Y0) p6 fun a4P q8 =>
 oP E (xCall x1 [a4P]) q8 fun a6G w5 =>
 oP E (xV (Instr.buildSlice 57 1 #[(0, a6G)])) w5 fun a4Q t8 =>
 oP E (xBuiltin .append #[57, 57] 57 [false, false] [x5, a4Q]) t8 fun a6H w9 =>
 oP E (xBin .add 3 (.tmp 10) (.const (vI 1)) x10 (vI 1)) w9 fun a4R v2 =>
 next2 [a6H, a4R] v2)
 (j1 [x5] w_6)
def F71 (x0 x1 : Value) (w : World) (R : RT) (E : Pan) : Prop :=
 xcut (fun l_1 w_2 => e1g (nth l_1 0) w_2 R E) fun j1 =>
 oP E (xBuiltin .len #[57] 3 [false] [x0]) w fun a4S w_4 =>
 xloop [5, 10] [(nS), (vI 0)] w_4 fun τ_25 y8 next2 =>
 f2r x1 (τ_25 5) x0 a4S (τ_25 10) y8 next2 j1 R E
noncomputable def c71 : Code := Tryz.f71.body.getD .skip
def h71 : Hint := (sQ (sQ (.cut [5] (sQ (.block (.loop [5, 10] (sQ (.seq (.cond .none .none) (.seq (.block (sQ .none)) .none)))))) (sQ .none))))
theorem i3t (x0 x1 : Value) (w : World) (R : RT) (E : Pan) : F71 x0 x1 w R E = callX Tryz.prog [.tmp 4] c71 h71 [x0, x1] w R E := by kernel_rfl
theorem i3u {x0 x1 : Value} (h : F71 x0 x1 w R E) : Cv Tryz.prog 71 #[x0, x1] w R E := by
 refine i8 (args := [x0, x1]) (c := c71) (h := h71) (rs := [.tmp 4]) Tryz.func71 (by kernel_rfl) (by kernel_rfl) (nB (by kernel_rfl)) (by kernel_rfl) (by kernel_rfl) (by kernel_rfl) ?_
 rw [← i3t]
 exact h
def F72 (x0 : Value) (w : World) (R : RT) (E : Pan) : Prop :=
 oP E (xV (Instr.alloc 59 true (.tuple #[]))) w fun X0 w_2 =>
 xcond x0
 (oP E (xV (Instr.build 59 #[(0, (vI 1))])) w_2 fun a4v w_4 =>
 oP E (sA 59 X0 a4v) w_4 fun _z_5 w_6 =>
 xcell Tryz.prog 59 X0 w_6 fun r_7 =>
 R r_7 w_6)
 (oP E (xV (Instr.build 59 #[(0, (vI 2))])) w_2 fun d6v w_9 =>
 oP E (sA 59 X0 d6v) w_9 fun _z_10 S5 =>
 xcell Tryz.prog 59 X0 S5 fun j4O =>
 R j4O S5)
noncomputable def c72 : Code := Tryz.f72.body.getD .skip
def h72 : Hint := (sQ (.seq (sQ (.cond (sQ .none) .none)) (sQ .none)))
theorem i3v (x0 : Value) (w : World) (R : RT) (E : Pan) : F72 x0 w R E = callX Tryz.prog [.cell 2 59] c72 h72 [x0] w R E := by kernel_rfl
theorem i3w {x0 : Value} (h : F72 x0 w R E) : Cv Tryz.prog 72 #[x0] w R E := by
 refine i8 (args := [x0]) (c := c72) (h := h72) (rs := [.cell 2 59]) Tryz.func72 (by kernel_rfl) (by kernel_rfl) (nB (by kernel_rfl)) (by kernel_rfl) (by kernel_rfl) (by kernel_rfl) ?_
 rw [← i3v]
 exact h
def e1h (x3 x6 x7 x23 : Value) (w : World) (R : RT) (E : Pan) : Prop :=
 ∀ _τ : Fr, (xcond x23
 (oP E (lA 59 x7) w fun i3x a0t =>
 oP E (sA 59 x6 i3x) a0t fun _z_18 X1 =>
 xcell Tryz.prog 59 x6 X1 fun f6S =>
 R f6S X1)
 (oP E (lA 59 x3) w fun i3y w9 =>
 oP E (sA 59 x6 i3y) w9 fun _z_23 v2 =>
 xcell Tryz.prog 59 x6 v2 fun j4P =>
 R j4P v2))
def e1i (x1 x2 x3 x6 x7 x8 : Value) (w : World) (R : RT) (E : Pan) : Prop :=
 ∀ _τ : Fr, (oP E (fA 59 x7 0) w fun i8Q w_6 =>
 oP E (lA 3 i8Q) w_6 fun i8R w_8 =>
 oP E (xBin .eql 3 (.tmp 19) (.tmp 20) i8R x1) w_8 fun i8S o9 =>
 xcond i8S
 (oP E (lA 59 x8) o9 fun i3z p8 =>
 oP E (sA 59 x6 i3z) p8 fun _z_13 p6 =>
 xcell Tryz.prog 59 x6 p6 fun b2Y =>
 R b2Y p6)
 (xcut (fun c2Y a5U => e1h x3 x6 x7 (nth c2Y 0) a5U R E) fun j2 =>
 oP E (fA 59 x7 0) o9 fun i3A a6Y =>
 oP E (lA 3 i3A) a6Y fun i3B b1m =>
 oP E (xBin .eql 3 (.tmp 25) (.tmp 26) i3B x2) b1m fun f2s a9e =>
 xcond f2s
 (j2 [f2s] a9e)
 (oP E (fA 59 x8 0) a9e fun i3C b6Q =>
 oP E (lA 3 i3C) b6Q fun i3D b2Z =>
 oP E (xBin .eql 3 (.tmp 29) (.tmp 30) i3D x1) b2Z fun i3E b6R =>
 j2 [i3E] b6R)))
def F74 (x0 x1 x2 : Value) (w : World) (R : RT) (E : Pan) : Prop :=
 oP E (xV (Instr.box 59 x0)) w fun b3A w_2 =>
 oP E (xV (Instr.alloc 59 true (.tuple #[]))) w_2 fun b6U w_4 =>
 xcut (fun c8U c4X => e1i x1 x2 b3A b6U (nth c8U 0) (nth c8U.tail 0) c4X R E) fun j1 =>
 dX w_4 fun C7 =>
 qP Tryz.prog (fA 59 b3A 3) fun c7F =>
 qP Tryz.prog (fA 59 b3A 3) fun b6F =>
 qL Tryz.prog C7 (blk c7F) (lA 57 c7F) fun i3F =>
 qP Tryz.prog (iA 57 i3F (vI 0)) fun c2o =>
 qL Tryz.prog C7 (blk c2o) (lA 59 c2o) fun f2t =>
 qL Tryz.prog C7 (blk b6F) (lA 57 b6F) fun i3G =>
 qP Tryz.prog (iA 57 i3G (vI 1)) fun b6G =>
 qL Tryz.prog C7 (blk b6G) (lA 59 b6G) fun f2u =>
 (oP E (xV (Instr.alloc 59 true (.tuple #[]))) C7 fun f8P P3 =>
 keepX [(blk b6G), (blk b6F), (blk c2o), (blk c7F)] C7 P3 (opK Tryz.prog E (xV (Instr.alloc 59 true (.tuple #[]))) P3 fun f8Q N9 =>
 keepX [(blk b6G), (blk b6F), (blk c2o), (blk c7F)] P3 N9 (opK Tryz.prog E (sA 59 f8P f2t) N9 fun _z_55 P4 =>
 keepX [(blk b6G), (blk b6F)] N9 P4 (opK Tryz.prog E (sA 59 f8Q f2u) P4 fun _z_57 P0 =>
 keepX [] P4 P0 (j1 [f8P, f8Q] P0))))) ∧
 (oP E (xV (Instr.alloc 59 true (.tuple #[]))) C7 fun f8R S4 =>
 keepX [(blk b6G), (blk b6F), (blk c2o), (blk c7F)] C7 S4 (opK Tryz.prog E (xV (Instr.alloc 59 true (.tuple #[]))) S4 fun f8S T6 =>
 keepX [(blk b6G), (blk b6F), (blk c2o), (blk c7F)] S4 T6 (opK Tryz.prog E (sA 59 f8S f2t) T6 fun _z_63 Q3 =>
 keepX [(blk b6G), (blk b6F)] T6 Q3 (opK Tryz.prog E (sA 59 f8R f2u) Q3 fun _z_65 Z8 =>
 keepX [] Q3 Z8 (j1 [f8S, f8R] Z8)))))
noncomputable def c74 : Code := Tryz.f74.body.getD .skip
def h74 : Hint := (sQ (.cut [7, 8] (.reg [(0, 512, 8), (1, 1024, 512), (2, 2048, 1024), (4, 4096, 2048), (0, 8192, 8), (16, 16384, 8192), (32, 32768, 16384), (64, 65536, 32768), (0, 128, 0), (0, 256, 0), (783, 0, 4224), (2047, 0, 65792)] [170, 168, 170, 162, 170, 138, 170, 42, 170, 170, 160, 0] (.early 0 (.early 4 (.load 1 (.early 2 (.load 3 (.load 5 (.early 6 (.load 7 (.alt 8 (.step 9 (.step 10 (.step 11 .done))) (.step 9 (.step 8 (.step 10 (.step 11 .done)))))))))))))) (.seq (.block (sQ (.cond (sQ .none) (.cut [23] (sQ (.cond .none .none)) (.cond (sQ .none) .none))))) (sQ .none))))
theorem i3H (x0 x1 x2 : Value) (w : World) (R : RT) (E : Pan) : F74 x0 x1 x2 w R E = callX Tryz.prog [.cell 6 59] c74 h74 [x0, x1, x2] w R E := by kernel_rfl
theorem i3I {x0 x1 x2 : Value} (h : F74 x0 x1 x2 w R E) : Cv Tryz.prog 74 #[x0, x1, x2] w R E := by
 refine i8 (args := [x0, x1, x2]) (c := c74) (h := h74) (rs := [.cell 6 59]) Tryz.func74 (by kernel_rfl) (by kernel_rfl) (nB (by kernel_rfl)) (by kernel_rfl) (by kernel_rfl) (by kernel_rfl) ?_
 rw [← i3H]
 exact h
def e1j (x3 : Value) (w : World) (R : RT) (_E : Pan) : Prop :=
 ∀ _τ : Fr, (R x3 w)
def f2v (x1 x3 x5 : Value) (w : World) (next3 : NT) (j2 : NT) (_R : RT) (E : Pan) : Prop :=
 oP E (fA 59 x1 3) w fun i8T w_6 =>
 oP E (lA 57 i8T) w_6 fun i8U w_8 =>
 oP E (xBuiltin .len #[57] 3 [false] [i8U]) w_8 fun e7u o9 =>
 oP E (xBin .lss 3 (.tmp 21) (.tmp 24) x5 e7u) o9 fun c2g p8 =>
 xcond c2g
 (oP E (fA 59 x1 3) p8 fun c6t p6 =>
 oP E (lA 57 c6t) p6 fun c2h q8 =>
 oP E (iA 57 c2h x5) q8 fun e0w w5 =>
 oP E (lA 59 e0w) w5 fun i3J t8 =>
 oP E (xCall (fC 89) [i3J]) t8 fun i3K w9 =>
 oP E (xBin .add 3 (.tmp 28) (.tmp 34) x3 i3K) w9 fun i3L v2 =>
 oP E (xBin .add 3 (.tmp 26) (.const (vI 1)) x5 (vI 1)) v2 fun i3M y8 =>
 next3 [i3L, i3M] y8)
 (j2 [x3] p8)
def e1k (x1 x3 : Value) (w : World) (R : RT) (E : Pan) : Prop :=
 ∀ _τ : Fr, (xcut (fun l_3 w_4 => e1j (nth l_3 0) w_4 R E) fun j2 =>
 xloop [3, 5] [x3, (vI 0)] w fun τ_27 B0 next3 =>
 f2v x1 (τ_27 3) (τ_27 5) B0 next3 j2 R E)
def f2w (x1 x3 x4 : Value) (w : World) (next4 : NT) (j1 : NT) (_R : RT) (E : Pan) : Prop :=
 oP E (fA 59 x1 2) w fun i8V C3 =>
 oP E (lA 51 i8V) C3 fun i8W A6 =>
 oP E (xBuiltin .len #[51] 3 [false] [i8W]) A6 fun i8X J6 =>
 oP E (xBin .lss 3 (.tmp 6) (.tmp 9) x4 i8X) J6 fun i3N C2 =>
 xcond i3N
 (oP E (fA 59 x1 2) C2 fun i3O J7 =>
 oP E (lA 51 i3O) J7 fun i3P C7 =>
 oP E (iA 51 i3P x4) C7 fun i3Q D8 =>
 oP E (lA 53 i3Q) D8 fun i3R G8 =>
 oP E (xCall (fC 91) [i3R]) G8 fun i3S L9 =>
 oP E (xBin .add 3 (.tmp 13) (.tmp 19) x3 i3S) L9 fun i3T M6 =>
 oP E (xBin .add 3 (.tmp 11) (.const (vI 1)) x4 (vI 1)) M6 fun i3U P3 =>
 next4 [i3T, i3U] P3)
 (j1 [x3] C2)
def F89 (x0 : Value) (w : World) (R : RT) (E : Pan) : Prop :=
 oP E (xV (Instr.box 59 x0)) w fun q7 w_2 =>
 xcut (fun c3D C0 => e1k q7 (nth c3D 0) C0 R E) fun j1 =>
 xloop [3, 4] [(vI 1), (vI 0)] w_2 fun τ_53 N9 next4 =>
 f2w q7 (τ_53 3) (τ_53 4) N9 next4 j1 R E
noncomputable def c89 : Code := Tryz.f89.body.getD .skip
def h89 : Hint := (sQ (sQ (.cut [3] (sQ (.block (.loop [3, 4] (.seq (sQ (.cond .none .none)) (.seq (.block .none) .none))))) (.cut [3] (sQ (.block (.loop [3, 5] (.seq (sQ (.cond .none .none)) (.seq (.block .none) .none))))) (sQ .none)))))
theorem i3V (x0 : Value) (w : World) (R : RT) (E : Pan) : F89 x0 w R E = callX Tryz.prog [.tmp 2] c89 h89 [x0] w R E := by kernel_rfl
theorem i3W {x0 : Value} (h : F89 x0 w R E) : Cv Tryz.prog 89 #[x0] w R E := by
 refine i8 (args := [x0]) (c := c89) (h := h89) (rs := [.tmp 2]) Tryz.func89 (by kernel_rfl) (by kernel_rfl) (nB (by kernel_rfl)) (by kernel_rfl) (by kernel_rfl) (by kernel_rfl) ?_
 rw [← i3V]
 exact h
def e1l (x3 : Value) (w : World) (R : RT) (_E : Pan) : Prop :=
 ∀ _τ : Fr, (R x3 w)
def f2x (x1 x3 x4 : Value) (w : World) (next2 : NT) (j1 : NT) (_R : RT) (E : Pan) : Prop :=
 oP E (fA 53 x1 3) w fun a7U w_6 =>
 oP E (lA 51 a7U) w_6 fun a9Z w_8 =>
 oP E (xBuiltin .len #[51] 3 [false] [a9Z]) w_8 fun a5s o9 =>
 oP E (xBin .lss 3 (.tmp 5) (.tmp 8) x4 a5s) o9 fun a4M p8 =>
 xcond a4M
 (oP E (fA 53 x1 3) p8 fun b8w p6 =>
 oP E (lA 51 b8w) p6 fun d7h q8 =>
 oP E (iA 51 d7h x4) q8 fun d7i w5 =>
 oP E (lA 53 d7i) w5 fun c5h t8 =>
 oP E (xCall (fC 91) [c5h]) t8 fun c6u w9 =>
 oP E (xBin .add 3 (.tmp 12) (.tmp 18) x3 c6u) w9 fun b8x v2 =>
 oP E (xBin .add 3 (.tmp 10) (.const (vI 1)) x4 (vI 1)) v2 fun i3X y8 =>
 next2 [b8x, i3X] y8)
 (j1 [x3] p8)
def F91 (x0 : Value) (w : World) (R : RT) (E : Pan) : Prop :=
 oP E (xV (Instr.box 53 x0)) w fun q7 w_2 =>
 xcut (fun l_3 w_4 => e1l (nth l_3 0) w_4 R E) fun j1 =>
 xloop [3, 4] [(vI 1), (vI 0)] w_2 fun τ_27 B0 next2 =>
 f2x q7 (τ_27 3) (τ_27 4) B0 next2 j1 R E
noncomputable def c91 : Code := Tryz.f91.body.getD .skip
def h91 : Hint := (sQ (sQ (.cut [3] (sQ (.block (.loop [3, 4] (.seq (sQ (.cond .none .none)) (.seq (.block .none) .none))))) (sQ .none))))
theorem i3Y (x0 : Value) (w : World) (R : RT) (E : Pan) : F91 x0 w R E = callX Tryz.prog [.tmp 2] c91 h91 [x0] w R E := by kernel_rfl
theorem i3Z {x0 : Value} (h : F91 x0 w R E) : Cv Tryz.prog 91 #[x0] w R E := by
 refine i8 (args := [x0]) (c := c91) (h := h91) (rs := [.tmp 2]) Tryz.func91 (by kernel_rfl) (by kernel_rfl) (nB (by kernel_rfl)) (by kernel_rfl) (by kernel_rfl) (by kernel_rfl) ?_
 rw [← i3Y]
 exact h
end Go.Proofs.YtnhkdkcgdcgmdaaGreatDoor
