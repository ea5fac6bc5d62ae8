/- The second reading of some of the program's functions, printed by gen2.py off the code; each is held against the code by the kernel. -/
import Derived.Test.YtnhkdkcgdcgmdaaGreatDoorProg
import Derived.Test.YtnhkdkcgdcgmdaaGreatDoorzPK0
import Derived.KernelRfl
import Derived.Test.YtnhkdkcgdcgmdaaGreatDoorzPGz
namespace Go.Proofs.YtnhkdkcgdcgmdaaGreatDoor
open Go.RowKit
set_option maxRecDepth 100000
variable {w : World} {R : RT} {E : Pan}
def h4H (x2 x3 x7 x10 : Value) (w : World) (R : RT) (E : Pan) : Prop :=
 ∀ _τ : Fr, (oP E (lA 25 x3) w fun g6C O8 =>
 oP E (xCall (fC 16) [g6C, x7, x2]) O8 fun e1N O9 =>
 oP E (eX e1N 0) O9 fun g6D R8 =>
 oP E (eX e1N 1) R8 fun _t95_61 Q1 =>
 oP E (xV (Instr.alloc 42 true (.tuple #[]))) Q1 fun e1O T3 =>
 oP E (sA 42 e1O g6D) T3 fun _z_65 U5 =>
 oP E (lA 42 e1O) U5 fun g6E W9 =>
 oP E (lA 42 x10) W9 fun g6F S3 =>
 oP E (xCall (fC 18) [g6E, g6F]) S3 fun g6G Z1 =>
 R g6G Z1)
def h4I (_x2 _x3 _x7 _x8 _x10 x13 : Value) (w : World) (next3 : NT) (_R : RT) (E : Pan) : Prop :=
 ∀ _τ : Fr, (oP E (xBin .add 3 (.tmp 70) (.const (vI 1)) x13 (vI 1)) w fun g6H X0 =>
 next3 [g6H] X0)
def h4J (_x2 _x3 _x7 x8 _x10 x13 x14 : Value) (w : World) (next5 : NT) (j4 : NT) (_R : RT) (E : Pan) : Prop :=
 oP E (fA 42 x8 5) w fun g6I V9 =>
 oP E (lA 40 g6I) V9 fun g6J a3y =>
 oP E (iA 40 g6J x13) a3y fun g6K a5o =>
 oP E (lA 37 g6K) a5o fun g6L a3M =>
 oP E (xBuiltin .len #[37] 3 [false] [g6L]) a3M fun g6M a5R =>
 oP E (xBin .lss 3 (.tmp 72) (.tmp 78) x14 g6M) a5R fun g6N a6V =>
 xcond g6N
 (oP E (fA 42 x8 5) a6V fun g6O a0W =>
 oP E (lA 40 g6O) a0W fun c6x Z5 =>
 oP E (iA 40 c6x x13) Z5 fun f3q a0H =>
 oP E (lA 37 f3q) a0H fun f3r a3D =>
 oP E (iA 37 f3r x14) a3D fun f3s a6n =>
 oP E (sA 2 f3s (vI 77)) a6n fun _z_109 a8B =>
 oP E (xBin .add 3 (.tmp 80) (.const (vI 1)) x14 (vI 1)) a8B fun c5C a7e =>
 next5 [c5C] a7e)
 (j4 [] a6V)
def h4K (x2 x3 x7 x8 x10 x13 : Value) (w : World) (next3 : NT) (j2 : NT) (R : RT) (E : Pan) : Prop :=
 oP E (fA 42 x8 5) w fun g6P Y4 =>
 oP E (lA 40 g6P) Y4 fun g6Q Z4 =>
 oP E (xBuiltin .len #[40] 3 [false] [g6Q]) Z4 fun g6R a2e =>
 oP E (xBin .lss 3 (.tmp 65) (.tmp 68) x13 g6R) a2e fun g6S Y5 =>
 xcond g6S
 (xcut (fun _ a0x => h4I x2 x3 x7 x8 x10 x13 a0x next3 R E) fun j4 =>
 xloop [14] [(vI 0)] Y5 fun τ_113 a0X next5 =>
 h4J x2 x3 x7 x8 x10 x13 (τ_113 14) a0X next5 j4 R E)
 (j2 [] Y5)
def h4L (x2 x3 x7 x8 x10 : Value) (w : World) (R : RT) (E : Pan) : Prop :=
 ∀ _τ : Fr, (xcut (fun _ a0O => h4H x2 x3 x7 x10 a0O R E) fun j2 =>
 xloop [13] [(vI 0)] w fun τ_115 a3d next3 =>
 h4K x2 x3 x7 x8 x10 (τ_115 13) a3d next3 j2 R E)
def h4M (_x2 _x3 _x7 x8 _x10 x12 : Value) (w : World) (next6 : NT) (j1 : NT) (_R : RT) (E : Pan) : Prop :=
 oP E (fA 42 x8 4) w fun f3t a0I =>
 oP E (lA 37 f3t) a0I fun f3u a6o =>
 oP E (xBuiltin .len #[37] 3 [false] [f3u]) a6o fun f3v a7V =>
 oP E (xBin .lss 3 (.tmp 54) (.tmp 57) x12 f3v) a7V fun f3w a8C =>
 xcond f3w
 (oP E (fA 42 x8 4) a8C fun f3x a9y =>
 oP E (lA 37 f3x) a9y fun f3y a7h =>
 oP E (iA 37 f3y x12) a7h fun f3z a5a =>
 oP E (sA 2 f3z (vI 77)) a5a fun _z_133 a5b =>
 oP E (xBin .add 3 (.tmp 59) (.const (vI 1)) x12 (vI 1)) a5b fun f3A a7U =>
 next6 [f3A] a7U)
 (j1 [] a8C)
def F5 (x0 x1 x2 : Value) (w : World) (R : RT) (E : Pan) : Prop :=
 oP E (xV (Instr.box 25 x0)) w fun N0 w_2 =>
 oP E (xCall (fC 14) []) w_2 fun c7E w_4 =>
 oP E (xV (Op.unary .not c7E)) w_4 fun c4G w_6 =>
 xcond c4G
 (R (vB false) w_6)
 (oP E (xCall (fC 15) [x1, x2]) w_6 fun c0X w_8 =>
 oP E (xV (Op.unary .not c0X)) w_8 fun h4N o7 =>
 xcond h4N
 (R (vB true) o7)
 (oP E (xBuiltin .append #[37, 37] 37 [true, false] [(nS), x1]) o7 fun b6p p7 =>
 oP E (lA 25 N0) p7 fun g6T o8 =>
 oP E (xCall (fC 16) [g6T, b6p, x2]) o8 fun e1P r5 =>
 oP E (eX e1P 0) r5 fun g6U t8 =>
 oP E (eX e1P 1) t8 fun g6V t7 =>
 oP E (xV (Instr.alloc 42 true (.tuple #[]))) t7 fun c8h u6 =>
 oP E (sA 42 c8h g6U) u6 fun _z_23 v6 =>
 oP E (lA 25 N0) v6 fun g6W y7 =>
 oP E (xCall (fC 17) [g6W, x1, x2]) y7 fun c0h C4 =>
 oP E (eX c0h 0) C4 fun g6X H7 =>
 oP E (eX c0h 1) H7 fun g6Y D6 =>
 oP E (xV (Instr.alloc 42 true (.tuple #[]))) D6 fun b6q A6 =>
 oP E (sA 42 b6q g6X) A6 fun _z_35 K5 =>
 oP E (xBin .neq 3 (.tmp 39) (.tmp 40) g6V g6Y) K5 fun c0i K0 =>
 oP E (gsem (asB c0i) false (lA 42 c8h)) K0 fun g6Z H9 =>
 oP E (gsem (asB c0i) false (lA 42 b6q)) H9 fun g7a I0 =>
 oP E (gsem (asB c0i) false (xCall (fC 18) [g6Z, g7a])) I0 fun g7b K6 =>
 oP E (gsem (asB c0i) false (xV (Op.unary .not g7b))) K6 fun g7c M9 =>
 oP E (xPick c0i (vB true) g7c) M9 fun c0j O1 =>
 oP E (gsem (asB c0j) false (xCall (fC 19) [(gval (asB c0j) false b6p), (gval (asB c0j) false x1)])) O1 fun g7d N8 =>
 oP E (gsem (asB c0j) false (xV (Op.unary .not g7d))) N8 fun g7e M2 =>
 oP E (xPick c0j (vB true) g7e) M2 fun g7f O0 =>
 xcond g7f
 (R (vB false) O0)
 (xcut (fun _ a7f => h4L x2 N0 b6p c8h b6q a7f R E) fun j1 =>
 xloop [12] [(vI 0)] O0 fun τ_137 a9x next6 =>
 h4M x2 N0 b6p c8h b6q (τ_137 12) a9x next6 j1 R E)))
noncomputable def c5 : Code := Tryz.f5.body.getD .skip
def h5 : Hint := (sQ (.seq (sQ (.cond (sQ .none) .none)) (.seq (sQ (.cond (sQ .none) .none)) (sQ (sQ (sQ (.seq (sQ (.cond (sQ .none) .none)) (.cut [] (sQ (.block (.loop [12] (.seq (sQ (.cond .none .none)) (.seq (.block .none) .none))))) (.cut [] (sQ (.block (.loop [13] (.seq (sQ (.cond .none .none)) (.cut [] (.block (sQ (.block (.loop [14] (.seq (sQ (.cond .none .none)) (.seq (.block .none) .none)))))) .none))))) (sQ (sQ .none)))))))))))
def F6 (x0 x1 x2 x3 : Value) (w : World) (R : RT) (E : Pan) : Prop :=
 oP E (xV (Instr.box 25 x0)) w fun b9b w_2 =>
 oP E (xCall (fC 8) []) w_2 fun h4O w_4 =>
 oP E (xV (Op.unary .not h4O)) w_4 fun c4l w_6 =>
 xcond c4l
 (R (vB false) w_6)
 (oP E (xBuiltin .len #[37] 3 [false] [x2]) w_6 fun d8z w_8 =>
 oP E (xBin .gtr 3 (.tmp 17) (.const (vI 2000)) d8z (vI 2000)) w_8 fun b7Y o7 =>
 oP E (gsem (asB b7Y) false (xBin .gtr 3 (.tmp 20) (.const (vI 2000)) (gval (asB b7Y) false x3) (vI 2000))) o7 fun c4Z p7 =>
 oP E (xPick b7Y (vB true) c4Z) p7 fun d2t o8 =>
 xcond d2t
 (R (vB true) o8)
 (oP E (lA 25 b9b) o8 fun d2u r5 =>
 oP E (xCall (fC 9) [d2u, x1]) r5 fun e1Q t8 =>
 oP E (eX e1Q 0) t8 fun d2v t7 =>
 oP E (eX e1Q 1) t7 fun g7g u6 =>
 oP E (xV (Instr.alloc 25 true (.tuple #[]))) u6 fun e8R v6 =>
 oP E (sA 25 e8R d2v) v6 fun _z_25 y7 =>
 oP E (lA 25 b9b) y7 fun d2w C4 =>
 oP E (xCall (fC 16) [d2w, x2, x3]) C4 fun e1R H7 =>
 oP E (eX e1R 0) H7 fun g7h D6 =>
 oP E (eX e1R 1) D6 fun g7i A6 =>
 oP E (xV (Instr.alloc 42 true (.tuple #[]))) A6 fun e1S K5 =>
 oP E (sA 42 e1S g7h) K5 fun _z_37 K0 =>
 oP E (xBin .neq 27 (.tmp 36) (.const (vI 0)) g7g (vI 0)) K0 fun a8x H9 =>
 oP E (gsem (asB a8x) false (xBin .neq 27 (.tmp 39) (.const (vI 0)) (gval (asB a8x) false g7i) (vI 0))) H9 fun g7j I0 =>
 oP E (xPick a8x (vB true) g7j) I0 fun g7k K6 =>
 xcond g7k
 (R (vB true) K6)
 (oP E (lA 25 e8R) K6 fun g7l M9 =>
 oP E (xCall (fC 16) [g7l, x2, x3]) M9 fun e1T O1 =>
 oP E (eX e1T 0) O1 fun g7m N8 =>
 oP E (eX e1T 1) N8 fun g7n M2 =>
 oP E (xV (Instr.alloc 42 true (.tuple #[]))) M2 fun e1U O0 =>
 oP E (sA 42 e1U g7m) O0 fun _z_55 O8 =>
 oP E (xBin .eql 27 (.tmp 49) (.const (vI 0)) g7n (vI 0)) O8 fun c5a O9 =>
 oP E (gsem (asB c5a) true (lA 42 e1S)) O9 fun g7o R8 =>
 oP E (gsem (asB c5a) true (lA 42 e1U)) R8 fun g7p Q1 =>
 oP E (gsem (asB c5a) true (xCall (fC 18) [g7o, g7p])) Q1 fun g7q T3 =>
 oP E (xPick c5a g7q (vB false)) T3 fun g7r U5 =>
 R g7r U5)))
noncomputable def c6 : Code := Tryz.f6.body.getD .skip
def h6 : Hint := (sQ (.seq (sQ (.cond (sQ .none) .none)) (.seq (sQ (.cond (sQ .none) .none)) (sQ (sQ (.seq (sQ (.cond (sQ .none) .none)) (sQ (sQ .none))))))))
theorem h4P (x0 x1 x2 x3 : Value) (w : World) (R : RT) (E : Pan) : F6 x0 x1 x2 x3 w R E = callX Tryz.prog [.tmp 8] c6 h6 [x0, x1, x2, x3] w R E := by kernel_rfl
theorem h4Q {x0 x1 x2 x3 : Value} (h : F6 x0 x1 x2 x3 w R E) : Cv Tryz.prog 6 #[x0, x1, x2, x3] w R E := by
 refine i7 (args := [x0, x1, x2, x3]) (c := c6) (h := h6) (rs := [.tmp 8]) Tryz.func6 (by kernel_rfl) (by kernel_rfl) (nB (by kernel_rfl)) (by kernel_rfl) (by kernel_rfl) (by kernel_rfl) ?_
 rw [← h4P]
 exact h
noncomputable def c7 : Code := Tryz.f7.body.getD .skip
def h7 : Hint := (sQ (.seq (sQ (.cond (sQ .none) .none)) (.seq (sQ (.cond (sQ .none) .none)) (sQ (sQ (.seq (sQ (.cond (sQ .none) .none)) (sQ (.seq (sQ (.cond (sQ .none) .none)) (.seq (sQ (.cond (sQ .none) .none)) (sQ .none))))))))))
def d2x (x6 x14 : Value) (w : World) (R : RT) (E : Pan) : Prop :=
 ∀ _τ : Fr, (oP E (lA 42 x14) w fun f3B Z1 =>
 oP E (sA 42 x6 f3B) Z1 fun _z_73 a0O =>
 xcell Tryz.prog 42 x6 a0O fun h9w =>
 R (Value.tuple #[h9w, (vI 0)]) a0O)
def e1V (_x6 _x10 _x14 _x89 _x90 x91 : Value) (w : World) (next3 : NT) (_R : RT) (E : Pan) : Prop :=
 ∀ _τ : Fr, (oP E (xBin .add 3 (.tmp 91) (.const (vI 1)) x91 (vI 1)) w fun f3C b9W =>
 next3 [f3C] b9W)
def d2y (x6 x10 x14 x89 x90 x91 : Value) (w : World) (next3 : NT) (j2 : NT) (R : RT) (E : Pan) : Prop :=
 oP E (xBin .lss 3 (.tmp 91) (.tmp 90) x91 x90) w fun g7s b9V =>
 xcond g7s
 (xcut (fun _ b3E => e1V x6 x10 x14 x89 x90 x91 b3E next3 R E) fun j4 =>
 oP E (iA 22 x89 x91) b9V fun g7t a8n =>
 oP E (lA 71 g7t) a8n fun g7u b7E =>
 oP E (xV (Instr.alloc 71 true (.tuple #[]))) b7E fun c5b a9P =>
 oP E (sA 71 c5b g7u) a9P fun _z_96 a7d =>
 oP E (fA 71 c5b 1) a7d fun g7v b7G =>
 oP E (lA 3 g7v) b7G fun f3D b7H =>
 oP E (xBin .gtr 3 (.tmp 96) (.const (vI 0)) f3D (vI 0)) b7H fun f3E b7I =>
 xcond f3E
 (dX b7I fun a0H =>
 qP Tryz.prog (fA 42 x14 5) fun c6y =>
 qP Tryz.prog (xNil x10) fun e6d =>
 qP Tryz.prog (fA 80 e6d 5) fun d2z =>
 qP Tryz.prog (fA 71 c5b 0) fun d2A =>
 qL Tryz.prog a0H (blk c6y) (lA 40 c6y) fun f3F =>
 qL Tryz.prog a0H (blk d2z) (lA 78 d2z) fun d2B =>
 qL Tryz.prog a0H (blk d2A) (lA 9 d2A) fun e6e =>
 qL Tryz.prog a0H (blk d2B) (xV (Instr.lookup 78 d2B e6e false)) fun e6f =>
 oP E (xV (Instr.buildSlice 40 1 #[(0, e6f)])) a0H fun e6g a0X =>
 keepX [(blk c6y)] a0H a0X (opK Tryz.prog E (xBuiltin .append #[40, 40] 40 [false, false] [f3F, e6g]) a0X fun e6h a3d =>
 keepX [] a0X a3d (qP Tryz.prog (fA 42 x14 5) fun e6i =>
 oP E (sA 40 e6i e6h) a3d fun _z_118 c4D =>
 keepX [] a3d c4D (j4 [] c4D))))
 (dX b7I fun a0I =>
 qP Tryz.prog (fA 42 x14 4) fun c3d =>
 qP Tryz.prog (xNil x10) fun e6j =>
 qP Tryz.prog (fA 80 e6j 4) fun d2C =>
 qP Tryz.prog (fA 71 c5b 0) fun d2D =>
 qL Tryz.prog a0I (blk c3d) (lA 37 c3d) fun e6k =>
 qL Tryz.prog a0I (blk d2C) (lA 77 d2C) fun d2E =>
 qL Tryz.prog a0I (blk d2D) (lA 9 d2D) fun e6l =>
 qL Tryz.prog a0I (blk d2E) (xV (Instr.lookup 77 d2E e6l false)) fun e6m =>
 qP Tryz.prog (xNil e6m) fun d2F =>
 qL Tryz.prog a0I (blk d2F) (lA 2 d2F) fun e6n =>
 oP E (xV (Instr.buildSlice 37 1 #[(0, e6n)])) a0I fun e6o a5a =>
 keepX [(blk c3d)] a0I a5a (opK Tryz.prog E (xBuiltin .append #[37, 37] 37 [false, false] [e6k, e6o]) a5a fun e6p a5b =>
 keepX [] a5a a5b (qP Tryz.prog (fA 42 x14 4) fun e6q =>
 oP E (sA 37 e6q e6p) a5b fun _z_136 e8S =>
 keepX [] a5b e8S (j4 [] e8S)))))
 (j2 [] b9V)
def e1W (x3 x6 x10 : Value) (w : World) (R : RT) (E : Pan) : Prop :=
 ∀ _τ : Fr, (oP E (fA 25 x3 1) w fun g7w M9 =>
 oP E (lA 23 g7w) M9 fun g7x O1 =>
 oP E (xCall (fC 34) [x10, g7x]) O1 fun g7y N8 =>
 oP E (xV (Instr.alloc 83 true (.tuple #[]))) N8 fun d2G M2 =>
 oP E (sA 83 d2G g7y) M2 fun _z_53 O0 =>
 dX O0 fun b1D =>
 qP Tryz.prog (fA 83 d2G 0) fun d2H =>
 qP Tryz.prog (fA 83 d2G 1) fun d2I =>
 qP Tryz.prog (xNil x10) fun g7z =>
 qP Tryz.prog (fA 80 g7z 1) fun d2J =>
 qP Tryz.prog (xNil x10) fun g7A =>
 qP Tryz.prog (fA 80 g7A 3) fun d2K =>
 qL Tryz.prog b1D (blk d2H) (lA 3 d2H) fun g7B =>
 qL Tryz.prog b1D (blk d2I) (lA 3 d2I) fun g7C =>
 qL Tryz.prog b1D (blk d2J) (lA 3 d2J) fun g7D =>
 qL Tryz.prog b1D (blk d2K) (lA 39 d2K) fun g7E =>
 qP Tryz.prog (xV (Instr.build 42 #[(0, g7B), (1, g7C), (2, g7D), (3, g7E)])) fun g7F =>
 oP E (xV (Instr.alloc 42 true (.tuple #[]))) b1D fun d2L W9 =>
 keepX [(blk d2K), (blk d2J), (blk d2I), (blk d2H)] b1D W9 (opK Tryz.prog E (sA 42 d2L g7F) W9 fun _z_69 S3 =>
 keepX [] W9 S3 (xcut (fun _ a9O => d2x x6 d2L a9O R E) fun j2 =>
 oP E (fA 25 x3 0) S3 fun d2M a5Y =>
 oP E (lA 22 d2M) a5Y fun c0k b5l =>
 oP E (xBuiltin .len #[22] 3 [false] [c0k]) b5l fun d2N b7F =>
 xloop [91] [(vI 0)] b7F fun τ_138 d8A next3 =>
 d2y x6 x10 d2L c0k d2N (τ_138 91) d8A next3 j2 R E)))
def e1X (_x3 _x6 _x10 _x45 _x46 x47 : Value) (w : World) (next5 : NT) (_R : RT) (E : Pan) : Prop :=
 ∀ _τ : Fr, (oP E (xBin .add 3 (.tmp 47) (.const (vI 1)) x47 (vI 1)) w fun f3G h4R =>
 next5 [f3G] h4R)
def e1Y (x3 x6 x10 x45 x46 x47 : Value) (w : World) (next5 : NT) (j1 : NT) (R : RT) (E : Pan) : Prop :=
 oP E (xBin .lss 3 (.tmp 47) (.tmp 46) x47 x46) w fun f3H e8T =>
 xcond f3H
 (xcut (fun _ h4S => e1X x3 x6 x10 x45 x46 x47 h4S next5 R E) fun j6 =>
 oP E (iA 22 x45 x47) e8T fun f3I h4T =>
 oP E (lA 71 f3I) h4T fun f3J h4U =>
 oP E (xV (Instr.alloc 71 true (.tuple #[]))) h4U fun b6r h4V =>
 oP E (sA 71 b6r f3J) h4V fun _z_160 c4E =>
 oP E (fA 71 b6r 1) c4E fun f3K h4W =>
 oP E (lA 3 f3K) h4W fun f3L h4X =>
 oP E (xBin .gtr 3 (.tmp 52) (.const (vI 0)) f3L (vI 0)) h4X fun f3M e8U =>
 xcond f3M
 (dX e8U fun b4C =>
 qP Tryz.prog (xNil x10) fun f3N =>
 qP Tryz.prog (fA 80 f3N 5) fun c6z =>
 qP Tryz.prog (fA 71 b6r 0) fun c6A =>
 qP Tryz.prog (fA 71 b6r 1) fun d4N =>
 qL Tryz.prog b4C (blk c6z) (lA 78 c6z) fun f3O =>
 qL Tryz.prog b4C (blk c6A) (lA 9 c6A) fun f3P =>
 qL Tryz.prog b4C (blk d4N) (lA 3 d4N) fun d4O =>
 oP E (xV (Instr.makeSlice 37 d4O d4O)) b4C fun f3Q d8B =>
 keepX [(blk c6A), (blk c6z)] b4C d8B (opK Tryz.prog E (xU (Instr.mapUpdate 78 f3O f3P f3Q)) d8B fun _z_178 e8V =>
 keepX [] d8B e8V (j6 [] e8V)))
 (dX e8U fun c8i =>
 qP Tryz.prog (xNil x10) fun f3R =>
 qP Tryz.prog (fA 80 f3R 4) fun c6B =>
 qP Tryz.prog (fA 71 b6r 0) fun c6C =>
 qL Tryz.prog c8i (blk c6B) (lA 77 c6B) fun f3S =>
 qL Tryz.prog c8i (blk c6C) (lA 9 c6C) fun f3T =>
 oP E (xV (Instr.alloc 2 true (.tuple #[]))) c8i fun f3U c7W =>
 keepX [(blk c6C), (blk c6B)] c8i c7W (opK Tryz.prog E (xU (Instr.mapUpdate 77 f3S f3T f3U)) c7W fun _z_188 e8W =>
 keepX [] c7W e8W (j6 [] e8W))))
 (j1 [] e8T)
def F16 (x0 x1 x2 : Value) (w : World) (R : RT) (E : Pan) : Prop :=
 oP E (xV (Instr.box 25 x0)) w fun N0 w_2 =>
 oP E (xV (Instr.alloc 42 true (.tuple #[]))) w_2 fun a6W w_4 =>
 oP E (lA 25 N0) w_4 fun c4G w_6 =>
 oP E (xCall (fC 33) [c4G]) w_6 fun c7H w_8 =>
 oP E (eX c7H 0) w_8 fun _t20_9 o7 =>
 oP E (eX c7H 1) o7 fun c4Z p7 =>
 oP E (xBin .neq 27 (.tmp 22) (.const (vI 0)) c4Z (vI 0)) p7 fun g7G o8 =>
 xcond g7G
 (oP E (xV (Instr.build 42 #[])) o8 fun d2u r5 =>
 oP E (sA 42 a6W d2u) r5 fun _z_17 t8 =>
 xcell Tryz.prog 42 a6W t8 fun e5U =>
 R (Value.tuple #[e5U, c4Z]) t8)
 (oP E (xBin .lss 3 (.tmp 26) (.const (vI 0)) x2 (vI 0)) o8 fun d2O Z3 =>
 oP E (gsem (asB d2O) false (xBin .gtr 3 (.tmp 29) (.const (vI 65536)) (gval (asB d2O) false x2) (vI 65536))) Z3 fun g7H a0y =>
 oP E (xPick d2O (vB true) g7H) a0y fun c5c a6m =>
 oP E (gsem (asB c5c) false (xBuiltin .len #[37] 3 [false] [(gval (asB c5c) false x1)])) a6m fun g7I a2d =>
 oP E (gsem (asB c5c) false (xBin .gtr 3 (.tmp 34) (.const (vI 65536)) g7I (vI 65536))) a2d fun g7J a9H =>
 oP E (xPick c5c (vB true) g7J) a9H fun g7K a8o =>
 xcond g7K
 (oP E (xV (Instr.build 42 #[])) a8o fun g7L a7H =>
 oP E (sA 42 a6W g7L) a7H fun _z_34 a7c =>
 xcell Tryz.prog 42 a6W a7c fun h9x =>
 R (Value.tuple #[h9x, (vI 80)]) a7c)
 (oP E (xV (Instr.makeMap 77 none)) a8o fun g7M K0 =>
 oP E (xV (Instr.makeMap 78 none)) K0 fun g7N H9 =>
 oP E (xV (Instr.build 80 #[(0, x2), (2, x1), (4, g7M), (5, g7N)])) H9 fun g7O I0 =>
 oP E (xV (Instr.box 80 g7O)) I0 fun e1Z K6 =>
 xcut (fun _ e8p => e1W N0 a6W e1Z e8p R E) fun j1 =>
 oP E (fA 25 N0 0) K6 fun f3V h4Y =>
 oP E (lA 22 f3V) h4Y fun d4P h4Z =>
 oP E (xBuiltin .len #[22] 3 [false] [d4P]) h4Z fun f3W e8H =>
 xloop [47] [(vI 0)] e8H fun τ_190 e8L next5 =>
 e1Y N0 a6W e1Z d4P f3W (τ_190 47) e8L next5 j1 R E))
noncomputable def c16 : Code := Tryz.f16.body.getD .skip
def h16 : Hint := (sQ (.seq (sQ (sQ (.cond (sQ .none) .none))) (.seq (sQ (.cond (sQ .none) .none)) (sQ (.cut [] (sQ (.block (.loop [47] (sQ (.seq (.cond .none .none) (.cut [] (.block (sQ (sQ (.cond (.reg [(0, 18014398509481984, 1024), (1, 36028797018963968, 18014398509481984), (2, 72057594037927936, 36028797018963968), (4, 144115188075855872, 72057594037927936), (0, 288230376151711744, 4096), (16, 576460752303423488, 288230376151711744), (0, 1152921504606846976, 4096), (64, 2305843009213693952, 1152921504606846976), (128, 4611686018427387904, 2305843009213693952), (511, 0, 5332261958806667264)] [168, 168, 168, 160, 168, 136, 168, 40, 40, 0] (.early 0 (.early 1 (.early 2 (.early 4 (.early 6 (.load 3 (.load 5 (.load 7 (.step 8 (.step 9 .done))))))))))) (.reg [(0, 9223372036854775808, 1024), (1, 18446744073709551616, 9223372036854775808), (2, 36893488147419103232, 18446744073709551616), (4, 73786976294838206464, 36893488147419103232), (0, 147573952589676412928, 4096), (16, 295147905179352825856, 147573952589676412928), (0, 590295810358705651712, 0), (127, 0, 959230691832896684032)] [40, 40, 40, 32, 40, 8, 40, 0] (.early 0 (.early 1 (.early 2 (.early 4 (.load 3 (.load 5 (.step 6 (.step 7 .done))))))))))))) .none)))))) (sQ (.seq (.reg [(0, 37778931862957161709568, 8192), (1, 75557863725914323419136, 37778931862957161709568), (0, 151115727451828646838272, 8192), (4, 302231454903657293676544, 151115727451828646838272), (0, 604462909807314587353088, 1024), (16, 1208925819614629174706176, 604462909807314587353088), (32, 2417851639229258349412352, 1208925819614629174706176), (64, 4835703278458516698824704, 2417851639229258349412352), (0, 9671406556917033397649408, 1024), (256, 19342813113834066795298816, 9671406556917033397649408), (512, 38685626227668133590597632, 19342813113834066795298816), (1024, 77371252455336267181195264, 38685626227668133590597632), (2186, 154742504910672534362390528, 82584745052424355497115648), (0, 16384, 0), (16383, 0, 154742504910672534362406912)] [2186, 2184, 2186, 2178, 2186, 2186, 2186, 2058, 2186, 2186, 2186, 138, 2186, 2186, 0] (.early 0 (.early 2 (.early 4 (.early 5 (.early 6 (.early 8 (.early 9 (.early 10 (.load 1 (.load 3 (.load 7 (.load 11 (.early 12 (.step 13 (.step 14 .done)))))))))))))))) (.cut [] (sQ (.block (.loop [91] (sQ (.seq (.cond .none .none) (.cut [] (.block (sQ (sQ (.cond (.reg [(0, 316912650057057350374175801344, 16384), (1, 633825300114114700748351602688, 316912650057057350374175801344), (0, 1267650600228229401496703205376, 1024), (4, 2535301200456458802993406410752, 1267650600228229401496703205376), (8, 5070602400912917605986812821504, 2535301200456458802993406410752), (16, 10141204801825835211973625643008, 5070602400912917605986812821504), (0, 20282409603651670423947251286016, 65536), (64, 40564819207303340847894502572032, 20282409603651670423947251286016), (160, 81129638414606681695789005144064, 50706024009129176059868128215040), (256, 162259276829213363391578010288128, 81129638414606681695789005144064), (514, 324518553658426726783156020576256, 162893102129327478092326361890816), (2047, 649037107316853453566312041152512, 16384), (4095, 0, 973555660975280180349468061728768)] [418, 416, 418, 418, 418, 386, 418, 290, 162, 2, 0, 418, 0] (.early 0 (.early 2 (.early 3 (.early 4 (.early 6 (.load 1 (.load 5 (.load 7 (.load 8 (.step 9 (.step 10 (.early 11 (.step 12 .done)))))))))))))) (.reg [(0, 1298074214633706907132624082305024, 16384), (1, 2596148429267413814265248164610048, 1298074214633706907132624082305024), (0, 5192296858534827628530496329220096, 1024), (4, 10384593717069655257060992658440192, 5192296858534827628530496329220096), (8, 20769187434139310514121985316880384, 10384593717069655257060992658440192), (16, 41538374868278621028243970633760768, 20769187434139310514121985316880384), (0, 83076749736557242056487941267521536, 65536), (64, 166153499473114484112975882535043072, 83076749736557242056487941267521536), (160, 332306998946228968225951765070086144, 207691874341393105141219853168803840), (256, 664613997892457936451903530140172288, 332306998946228968225951765070086144), (512, 1329227995784915872903807060280344576, 664613997892457936451903530140172288), (1024, 2658455991569831745807614120560689152, 1329227995784915872903807060280344576), (2050, 5316911983139663491615228241121378304, 2661052139999099159621879368725299200), (8191, 10633823966279326983230456482242756608, 16384), (16383, 0, 15950735949418990474845684723364134912)] [1442, 1440, 1442, 1442, 1442, 1410, 1442, 1314, 1186, 1442, 418, 2, 0, 1442, 0] (.early 0 (.early 2 (.early 3 (.early 4 (.early 6 (.load 1 (.load 5 (.load 7 (.load 8 (.early 9 (.load 10 (.step 11 (.step 12 (.early 13 (.step 14 .done)))))))))))))))))))) .none)))))) (sQ .none)))))))))
theorem g7P (x0 x1 x2 : Value) (w : World) (R : RT) (E : Pan) : F16 x0 x1 x2 w R E = callX Tryz.prog [.cell 6 42, .tmp 7] c16 h16 [x0, x1, x2] w R E := by kernel_rfl
theorem g7Q {x0 x1 x2 : Value} (h : F16 x0 x1 x2 w R E) : Cv Tryz.prog 16 #[x0, x1, x2] w R E := by
 refine i7 (args := [x0, x1, x2]) (c := c16) (h := h16) (rs := [.cell 6 42, .tmp 7]) Tryz.func16 (by kernel_rfl) (by kernel_rfl) (nB (by kernel_rfl)) (by kernel_rfl) (by kernel_rfl) (by kernel_rfl) ?_
 rw [← g7P]
 exact h
def d2P (w : World) (R : RT) (_E : Pan) : Prop :=
 ∀ _τ : Fr, (R (vB true) w)
def e2a (x2 x3 x6 : Value) (w : World) (next3 : NT) (j2 : NT) (R : RT) (E : Pan) : Prop :=
 oP E (fA 42 x2 5) w fun g7R V9 =>
 oP E (lA 40 g7R) V9 fun g7S a3y =>
 oP E (xBuiltin .len #[40] 3 [false] [g7S]) a3y fun g7T a5o =>
 oP E (xBin .lss 3 (.tmp 70) (.tmp 73) x6 g7T) a5o fun g7U a3M =>
 xcond g7U
 (dX a3M fun a9P =>
 qP Tryz.prog (fA 42 x2 5) fun e2b =>
 qP Tryz.prog (fA 42 x3 5) fun e2c =>
 qL Tryz.prog a9P (blk e2b) (lA 40 e2b) fun g7V =>
 qP Tryz.prog (iA 40 g7V x6) fun e2d =>
 qL Tryz.prog a9P (blk e2d) (lA 37 e2d) fun f3X =>
 qL Tryz.prog a9P (blk e2c) (lA 40 e2c) fun c6x =>
 qP Tryz.prog (iA 40 c6x x6) fun d4Q =>
 qL Tryz.prog a9P (blk d4Q) (lA 37 d4Q) fun f3Y =>
 oP E (xCall (fC 19) [f3X, f3Y]) a9P fun f3Z b4x =>
 keepX [] a9P b4x (qP Tryz.prog (xV (Op.unary .not f3Z)) fun f4a =>
 xcond f4a
 (R (vB false) b4x)
 (oP E (xBin .add 3 (.tmp 75) (.const (vI 1)) x6 (vI 1)) b4x fun f4b a6n =>
 next3 [f4b] a6n)))
 (j2 [] a3M)
def d2Q (x2 x3 : Value) (w : World) (R : RT) (E : Pan) : Prop :=
 ∀ _τ : Fr, (xcut (fun _ a0x => d2P a0x R E) fun j2 =>
 xloop [6] [(vI 0)] w fun τ_109 a8B next3 =>
 e2a x2 x3 (τ_109 6) a8B next3 j2 R E)
def e2e (x2 x3 x5 : Value) (w : World) (next4 : NT) (j1 : NT) (R : RT) (E : Pan) : Prop :=
 oP E (fA 42 x2 3) w fun f4c a0X =>
 oP E (lA 39 f4c) a0X fun f4d a3d =>
 oP E (xBuiltin .len #[39] 3 [false] [f4d]) a3d fun f4e a7f =>
 oP E (xBin .lss 3 (.tmp 52) (.tmp 55) x5 f4e) a7f fun f4f a0I =>
 xcond f4f
 (dX a0I fun b7Z =>
 qP Tryz.prog (fA 42 x2 3) fun d4R =>
 qP Tryz.prog (fA 42 x3 3) fun d4S =>
 qL Tryz.prog b7Z (blk d4R) (lA 39 d4R) fun f4g =>
 qP Tryz.prog (iA 39 f4g x5) fun d4T =>
 qL Tryz.prog b7Z (blk d4T) (lA 95 d4T) fun f4h =>
 qL Tryz.prog b7Z (blk d4S) (lA 39 d4S) fun f4i =>
 qP Tryz.prog (iA 39 f4i x5) fun d4U =>
 qL Tryz.prog b7Z (blk d4U) (lA 95 d4U) fun f4j =>
 qP Tryz.prog (xBin .neq 95 (.tmp 63) (.tmp 68) f4h f4j) fun f4k =>
 xcond f4k
 (R (vB false) b7Z)
 (oP E (xBin .add 3 (.tmp 57) (.const (vI 1)) x5 (vI 1)) b7Z fun f4l a5a =>
 next4 [f4l] a5a))
 (j1 [] a0I)
def F18 (x0 x1 : Value) (w : World) (R : RT) (E : Pan) : Prop :=
 oP E (xV (Instr.box 42 x0)) w fun U4 w_2 =>
 oP E (xV (Instr.box 42 x1)) w_2 fun a0p w_4 =>
 oP E (fA 42 U4 0) w_4 fun a8I w_6 =>
 oP E (lA 3 a8I) w_6 fun a6X w_8 =>
 oP E (fA 42 a0p 0) w_8 fun b9d o7 =>
 oP E (lA 3 b9d) o7 fun b8N p7 =>
 oP E (xBin .neq 3 (.tmp 8) (.tmp 10) a6X b8N) p7 fun a4Y o8 =>
 oP E (gsem (asB a4Y) false (fA 42 U4 1)) o8 fun a7s r5 =>
 oP E (gsem (asB a4Y) false (lA 3 a7s)) r5 fun a9v t8 =>
 oP E (gsem (asB a4Y) false (fA 42 a0p 1)) t8 fun a3v t7 =>
 oP E (gsem (asB a4Y) false (lA 3 a3v)) t7 fun a3W u6 =>
 oP E (gsem (asB a4Y) false (xBin .neq 3 (.tmp 14) (.tmp 16) a9v a3W)) u6 fun a7p v6 =>
 oP E (xPick a4Y (vB true) a7p) v6 fun a3w y7 =>
 oP E (gsem (asB a3w) false (fA 42 U4 2)) y7 fun g7W C4 =>
 oP E (gsem (asB a3w) false (lA 3 g7W)) C4 fun c9r H7 =>
 oP E (gsem (asB a3w) false (fA 42 a0p 2)) H7 fun c9s D6 =>
 oP E (gsem (asB a3w) false (lA 3 c9s)) D6 fun b9e A6 =>
 oP E (gsem (asB a3w) false (xBin .neq 3 (.tmp 21) (.tmp 23) c9r b9e)) A6 fun b2J K5 =>
 oP E (xPick a3w (vB true) b2J) K5 fun a0k K0 =>
 oP E (gsem (asB a0k) false (fA 42 U4 3)) K0 fun g7X H9 =>
 oP E (gsem (asB a0k) false (lA 39 g7X)) H9 fun g7Y I0 =>
 oP E (gsem (asB a0k) false (xBuiltin .len #[39] 3 [false] [g7Y])) I0 fun d0W K6 =>
 oP E (gsem (asB a0k) false (fA 42 a0p 3)) K6 fun d0X M9 =>
 oP E (gsem (asB a0k) false (lA 39 d0X)) M9 fun d0Y O1 =>
 oP E (gsem (asB a0k) false (xBuiltin .len #[39] 3 [false] [d0Y])) O1 fun d0Z N8 =>
 oP E (gsem (asB a0k) false (xBin .neq 3 (.tmp 29) (.tmp 32) d0W d0Z)) N8 fun b8Y M2 =>
 oP E (xPick a0k (vB true) b8Y) M2 fun a9N O0 =>
 oP E (gsem (asB a9N) false (fA 42 U4 4)) O0 fun g7Z O8 =>
 oP E (gsem (asB a9N) false (lA 37 g7Z)) O8 fun g8a O9 =>
 oP E (gsem (asB a9N) false (fA 42 a0p 4)) O9 fun g8b R8 =>
 oP E (gsem (asB a9N) false (lA 37 g8b)) R8 fun d1z Q1 =>
 oP E (gsem (asB a9N) false (xCall (fC 19) [g8a, d1z])) Q1 fun d1A T3 =>
 oP E (gsem (asB a9N) false (xV (Op.unary .not d1A))) T3 fun d1B U5 =>
 oP E (xPick a9N (vB true) d1B) U5 fun a8w W9 =>
 oP E (gsem (asB a8w) false (fA 42 U4 5)) W9 fun g8c S3 =>
 oP E (gsem (asB a8w) false (lA 40 g8c)) S3 fun g8d Z1 =>
 oP E (gsem (asB a8w) false (xBuiltin .len #[40] 3 [false] [g8d])) Z1 fun g8e a0O =>
 oP E (gsem (asB a8w) false (fA 42 a0p 5)) a0O fun d1t Y4 =>
 oP E (gsem (asB a8w) false (lA 40 d1t)) Y4 fun b1d Z4 =>
 oP E (gsem (asB a8w) false (xBuiltin .len #[40] 3 [false] [b1d])) Z4 fun d1u a2e =>
 oP E (gsem (asB a8w) false (xBin .neq 3 (.tmp 46) (.tmp 49) g8e d1u)) a2e fun b9R Y5 =>
 oP E (xPick a8w (vB true) b9R) Y5 fun d1b X0 =>
 xcond d1b
 (R (vB false) X0)
 (xcut (fun _ a7e => d2Q U4 a0p a7e R E) fun j1 =>
 xloop [5] [(vI 0)] X0 fun τ_133 a5b next4 =>
 e2e U4 a0p (τ_133 5) a5b next4 j1 R E)
noncomputable def c18 : Code := Tryz.f18.body.getD .skip
def h18 : Hint := (sQ (.seq (sQ (.cond (sQ .none) .none)) (.cut [] (sQ (.block (.loop [5] (.seq (sQ (.cond .none .none)) (.seq (.block (.seq (.reg [(0, 576460752303423488, 4), (1, 1152921504606846976, 576460752303423488), (0, 2305843009213693952, 32), (6, 4611686018427387904, 3458764513820540928), (8, 9223372036854775808, 4611686018427387904), (0, 18446744073709551616, 8), (32, 36893488147419103232, 18446744073709551616), (0, 73786976294838206464, 32), (192, 147573952589676412928, 110680464442257309696), (256, 295147905179352825856, 147573952589676412928), (528, 590295810358705651712, 304371277216207601664)] [594, 592, 594, 594, 578, 594, 530, 594, 594, 82, 594] (.early 0 (.early 2 (.early 5 (.early 7 (.load 1 (.early 3 (.load 4 (.load 6 (.early 8 (.load 9 (.early 10 .done)))))))))))) (.cond (sQ .none) .none))) .none))))) (.cut [] (sQ (.block (.loop [6] (.seq (sQ (.cond .none .none)) (.seq (.block (.seq (.reg [(0, 151115727451828646838272, 4), (1, 302231454903657293676544, 151115727451828646838272), (0, 604462909807314587353088, 64), (6, 1208925819614629174706176, 906694364710971881029632), (8, 2417851639229258349412352, 1208925819614629174706176), (0, 4835703278458516698824704, 8), (32, 9671406556917033397649408, 4835703278458516698824704), (0, 19342813113834066795298816, 64), (192, 38685626227668133590597632, 29014219670751100192948224), (256, 77371252455336267181195264, 38685626227668133590597632), (528, 154742504910672534362390528, 79789104094565525530607616), (1024, 309485009821345068724781056, 154742504910672534362390528)] [594, 592, 594, 594, 578, 594, 530, 594, 594, 82, 0, 594] (.early 0 (.early 2 (.early 5 (.early 7 (.load 1 (.early 3 (.load 4 (.load 6 (.early 8 (.load 9 (.step 10 (.early 11 .done))))))))))))) (.cond (sQ .none) .none))) .none))))) (sQ .none)))))
theorem g8f (x0 x1 : Value) (w : World) (R : RT) (E : Pan) : F18 x0 x1 w R E = callX Tryz.prog [.tmp 4] c18 h18 [x0, x1] w R E := by kernel_rfl
theorem g8g {x0 x1 : Value} (h : F18 x0 x1 w R E) : Cv Tryz.prog 18 #[x0, x1] w R E := by
 refine i7 (args := [x0, x1]) (c := c18) (h := h18) (rs := [.tmp 4]) Tryz.func18 (by kernel_rfl) (by kernel_rfl) (nB (by kernel_rfl)) (by kernel_rfl) (by kernel_rfl) (by kernel_rfl) ?_
 rw [← g8f]
 exact h
def d2R (w : World) (R : RT) (_E : Pan) : Prop :=
 ∀ _τ : Fr, (R (vB true) w)
def e2f (x0 x1 x5 : Value) (w : World) (next2 : NT) (j1 : NT) (R : RT) (E : Pan) : Prop :=
 oP E (xBuiltin .len #[37] 3 [false] [x0]) w fun a3b o7 =>
 oP E (xBin .lss 3 (.tmp 11) (.tmp 13) x5 a3b) o7 fun d2S p7 =>
 xcond d2S
 (dX p7 fun Z2 =>
 qP Tryz.prog (iA 37 x0 x5) fun e2g =>
 qP Tryz.prog (iA 37 x1 x5) fun c5d =>
 qL Tryz.prog Z2 (blk e2g) (lA 2 e2g) fun g8h =>
 qL Tryz.prog Z2 (blk c5d) (lA 2 c5d) fun d2T =>
 qP Tryz.prog (xBin .neq 2 (.tmp 20) (.tmp 24) g8h d2T) fun g8i =>
 xcond g8i
 (R (vB false) Z2)
 (oP E (xBin .add 3 (.tmp 15) (.const (vI 1)) x5 (vI 1)) Z2 fun g8j t7 =>
 next2 [g8j] t7))
 (j1 [] p7)
def F19 (x0 x1 : Value) (w : World) (R : RT) (E : Pan) : Prop :=
 oP E (xBuiltin .len #[37] 3 [false] [x0]) w fun a5p w_2 =>
 oP E (xBuiltin .len #[37] 3 [false] [x1]) w_2 fun a0N w_4 =>
 oP E (xBin .neq 3 (.tmp 7) (.tmp 9) a5p a0N) w_4 fun a2g w_6 =>
 xcond a2g
 (R (vB false) w_6)
 (xcut (fun _ w_8 => d2R w_8 R E) fun j1 =>
 xloop [5] [(vI 0)] w_6 fun τ_21 u6 next2 =>
 e2f x0 x1 (τ_21 5) u6 next2 j1 R E)
noncomputable def c19 : Code := Tryz.f19.body.getD .skip
def h19 : Hint := (sQ (.seq (sQ (.cond (sQ .none) .none)) (.cut [] (sQ (.block (.loop [5] (.seq (sQ (.cond .none .none)) (.seq (.block (.seq (.reg [(0, 131072, 1), (0, 262144, 32), (3, 524288, 393216), (4, 1048576, 524288), (0, 2097152, 2), (0, 4194304, 32), (48, 8388608, 6291456), (64, 16777216, 8388608), (136, 33554432, 17825792)] [136, 136, 136, 128, 136, 136, 136, 8, 136] (.early 0 (.early 1 (.early 2 (.early 4 (.early 5 (.early 6 (.load 3 (.load 7 (.early 8 .done)))))))))) (.cond (sQ .none) .none))) .none))))) (sQ .none))))
theorem g8k (x0 x1 : Value) (w : World) (R : RT) (E : Pan) : F19 x0 x1 w R E = callX Tryz.prog [.tmp 4] c19 h19 [x0, x1] w R E := by kernel_rfl
theorem g8l {x0 x1 : Value} (h : F19 x0 x1 w R E) : Cv Tryz.prog 19 #[x0, x1] w R E := by
 refine i7 (args := [x0, x1]) (c := c19) (h := h19) (rs := [.tmp 4]) Tryz.func19 (by kernel_rfl) (by kernel_rfl) (nB (by kernel_rfl)) (by kernel_rfl) (by kernel_rfl) (by kernel_rfl) ?_
 rw [← g8k]
 exact h
def e2h (x0 x6 x7 x8 : Value) (w : World) (next1 : NT) (R : RT) (E : Pan) : Prop :=
 oP E (xBin .lss 3 (.tmp 8) (.tmp 7) x8 x7) w fun a0N w_4 =>
 xcond a0N
 (oP E (iA 23 x6 x8) w_4 fun a2g w_6 =>
 oP E (lA 73 a2g) w_6 fun a9w w_8 =>
 oP E (xV (Instr.alloc 73 true (.tuple #[]))) w_8 fun d8x o7 =>
 oP E (sA 73 d8x a9w) o7 fun _z_11 p7 =>
 oP E (lA 73 d8x) p7 fun b9Q o8 =>
 oP E (xCall (fC 103) [x0, b9Q]) o8 fun _t14_15 r5 =>
 oP E (xBin .add 3 (.tmp 8) (.const (vI 1)) x8 (vI 1)) r5 fun d1y t8 =>
 next1 [d1y] t8)
 (R (Value.tuple #[]) w_4)
def F60 (x0 x1 : Value) (w : World) (R : RT) (E : Pan) : Prop :=
 oP E (xBuiltin .len #[23] 3 [false] [x1]) w fun a5p w_2 =>
 xloop [8] [(vI 0)] w_2 fun τ_19 t7 next1 =>
 e2h x0 x1 a5p (τ_19 8) t7 next1 R E
noncomputable def c60 : Code := Tryz.f60.body.getD .skip
def h60 : Hint := (sQ (.block (.loop [8] (sQ (.seq (.cond .none .none) (.seq (.block (sQ .none)) .none))))))
theorem g8m (x0 x1 : Value) (w : World) (R : RT) (E : Pan) : F60 x0 x1 w R E = callX Tryz.prog [] c60 h60 [x0, x1] w R E := by kernel_rfl
theorem g8n {x0 x1 : Value} (h : F60 x0 x1 w R E) : Cv Tryz.prog 60 #[x0, x1] w R E := by
 refine i7 (args := [x0, x1]) (c := c60) (h := h60) (rs := []) Tryz.func60 (by kernel_rfl) (by kernel_rfl) (nB (by kernel_rfl)) (by kernel_rfl) (by kernel_rfl) (by kernel_rfl) ?_
 rw [← g8m]
 exact h
def c6D (x0 x3 x4 : Value) (w : World) (R : RT) (E : Pan) : Prop :=
 ∀ _τ : Fr, (dX w fun a0y =>
 qP Tryz.prog (xNil x0) fun g8o =>
 qP Tryz.prog (fA 80 g8o 4) fun e2i =>
 qP Tryz.prog (fA 73 x3 1) fun e2j =>
 qL Tryz.prog a0y (blk e2i) (lA 77 e2i) fun c0h =>
 qL Tryz.prog a0y (blk e2j) (lA 9 e2j) fun g8p =>
 qL Tryz.prog a0y (blk c0h) (xV (Instr.lookup 77 c0h g8p false)) fun g8q =>
 qP Tryz.prog (xNil g8q) fun g8r =>
 oP E (sA 2 g8r x4) a0y fun _z_31 D6 =>
 keepX [] a0y D6 (R (Value.tuple #[]) D6))
def d4V (x0 x3 : Value) (w : World) (next2 : NT) (R : RT) (E : Pan) : Prop :=
 oP E (fA 73 x3 3) w fun f4m a3D =>
 oP E (lA 57 f4m) a3D fun f4n a6n =>
 oP E (iA 57 f4n (vI 0)) a6n fun f4o a8B =>
 oP E (lA 59 f4o) a8B fun f4p a7e =>
 oP E (xCall (fC 135) [x0, f4p]) a7e fun f4q a0X =>
 xcond f4q
 (oP E (fA 73 x3 4) a0X fun f4r a3d =>
 oP E (lA 23 f4r) a3d fun f4s a7f =>
 oP E (xCall (fC 60) [x0, f4s]) a7f fun _t90_119 a0I =>
 next2 [] a0I)
 (R (Value.tuple #[]) a0X)
def e6r (x0 x1 : Value) (w : World) (R : RT) (E : Pan) : Prop :=
 oP E (xV (Instr.box 73 x1)) w fun N0 w_2 =>
 oP E (fA 73 N0 0) w_2 fun a0N w_4 =>
 oP E (lA 3 a0N) w_4 fun a2g w_6 =>
 oP E (xBin .eql 3 (.tmp 10) (.const (vI 1)) a2g (vI 1)) w_6 fun a3e w_8 =>
 xcond a3e
 (oP E (fA 73 N0 2) w_8 fun c4i o7 =>
 oP E (lA 51 c4i) o7 fun d0J p7 =>
 oP E (iA 51 d0J (vI 0)) p7 fun c9i o8 =>
 oP E (lA 53 c9i) o8 fun c9j r5 =>
 oP E (xCall (fC 131) [x0, c9j]) r5 fun b5G t8 =>
 oP E (eX b5G 0) t8 fun d2U t7 =>
 oP E (eX b5G 1) t7 fun d2V u6 =>
 xcut (fun d0y A6 => c6D x0 N0 (nth d0y 0) A6 R E) fun j1 =>
 xcond d2V
 (oP E (xCall (fC 132) [x0]) u6 fun _t26_35 K5 =>
 j1 [d2U] K5)
 (oP E (fA 73 N0 2) u6 fun b1j K0 =>
 oP E (lA 51 b1j) K0 fun c9m H9 =>
 oP E (iA 51 c9m (vI 0)) H9 fun c9t I0 =>
 oP E (lA 53 c9t) I0 fun c9u K6 =>
 oP E (xCall (fC 133) [x0, c9u]) K6 fun c9v M9 =>
 j1 [c9v] M9))
 (oP E (xBin .eql 3 (.tmp 10) (.const (vI 2)) a2g (vI 2)) w_8 fun g8s O1 =>
 xcond g8s
 (oP E (fA 73 N0 2) O1 fun g8t N8 =>
 oP E (lA 51 g8t) N8 fun g8u M2 =>
 oP E (iA 51 g8u (vI 0)) M2 fun g8v O0 =>
 oP E (lA 53 g8v) O0 fun g8w O8 =>
 oP E (xCall (fC 133) [x0, g8w]) O8 fun g8x O9 =>
 oP E (fA 73 N0 2) O9 fun g8y R8 =>
 oP E (lA 51 g8y) R8 fun g8z Q1 =>
 oP E (iA 51 g8z (vI 1)) Q1 fun g8A T3 =>
 oP E (lA 53 g8A) T3 fun g8B U5 =>
 oP E (xCall (fC 133) [x0, g8B]) U5 fun g8C W9 =>
 oP E (fA 73 N0 1) W9 fun g8D S3 =>
 oP E (lA 9 g8D) S3 fun g8E Z1 =>
 oP E (xCall (fC 134) [x0, g8E, g8x]) Z1 fun g8F a0O =>
 oP E (xNil g8F) a0O fun g8G Y4 =>
 oP E (sA 2 g8G g8C) Y4 fun _z_77 Z4 =>
 R (Value.tuple #[]) Z4)
 (oP E (xBin .eql 3 (.tmp 10) (.const (vI 3)) a2g (vI 3)) O1 fun g8H a2e =>
 xcond g8H
 (oP E (fA 73 N0 3) a2e fun c0l Y5 =>
 oP E (lA 57 c0l) Y5 fun c0m X0 =>
 oP E (iA 57 c0m (vI 0)) X0 fun c0n a0x =>
 oP E (lA 59 c0n) a0x fun c0o V9 =>
 oP E (xCall (fC 135) [x0, c0o]) V9 fun g8I a3y =>
 xcond g8I
 (oP E (fA 73 N0 4) a3y fun g8J a5o =>
 oP E (lA 23 g8J) a5o fun g8K a3M =>
 oP E (xCall (fC 60) [x0, g8K]) a3M fun _t74_95 a5R =>
 R (Value.tuple #[]) a5R)
 (oP E (fA 73 N0 5) a3y fun g8L a6V =>
 oP E (lA 23 g8L) a6V fun g8M a0W =>
 oP E (xCall (fC 60) [x0, g8M]) a0W fun _t78_101 Z5 =>
 R (Value.tuple #[]) Z5))
 (oP E (xBin .eql 3 (.tmp 10) (.const (vI 4)) a2g (vI 4)) a2e fun f4t a0H =>
 xcond f4t
 (xloop [] [] a0H fun _ a6o next2 =>
 d4V x0 N0 a6o next2 R E)
 (oP E (xBin .eql 3 (.tmp 10) (.const (vI 6)) a2g (vI 6)) a0H fun f4u a7V =>
 xcond f4u
 (oP E (fA 73 N0 3) a7V fun f4v a8C =>
 oP E (lA 57 f4v) a8C fun f4w a9y =>
 oP E (iA 57 f4w (vI 0)) a9y fun f4x a7h =>
 oP E (lA 59 f4x) a7h fun f4y a5a =>
 oP E (xCall (fC 135) [x0, f4y]) a5a fun f4z a5b =>
 oP E (xV (Op.unary .not f4z)) a5b fun f4A a7U =>
 xcond f4A
 (oP E (xCall (fC 136) [x0, (vI 2), (vI 0)]) a7U fun _t101_137 a9x =>
 R (Value.tuple #[]) a9x)
 (R (Value.tuple #[]) a7U))
 (oP E (xBin .eql 3 (.tmp 10) (.const (vI 5)) a2g (vI 5)) a7V fun e6s b0P =>
 xcond e6s
 (oP E (fA 73 N0 3) b0P fun e6t b1V =>
 oP E (lA 57 e6t) b1V fun e6u b1W =>
 oP E (iA 57 e6u (vI 0)) b1W fun e6v b0Q =>
 oP E (lA 59 e6v) b0Q fun e6w b6Q =>
 oP E (xCall (fC 135) [x0, e6w]) b6Q fun d2W c3Y =>
 oP E (xCall (fC 132) [x0]) c3Y fun _t111_151 c0J =>
 oP E (xNil x0) c0J fun e6x c4b =>
 oP E (fA 80 e6x 3) c4b fun e6y c0M =>
 oP E (lA 39 e6y) c0M fun e6z b6R =>
 oP E (xV (Instr.build 95 #[(2, d2W)])) b6R fun e6A h5a =>
 oP E (xV (Instr.buildSlice 39 1 #[(0, e6A)])) h5a fun e6B e8J =>
 oP E (xBuiltin .append #[39, 39] 39 [false, false] [e6z, e6B]) e8J fun e6C h5b =>
 oP E (xNil x0) h5b fun e6D h5c =>
 oP E (fA 80 e6D 3) h5c fun e6E b4C =>
 oP E (sA 39 e6E e6C) b4C fun _z_169 h5d =>
 oP E (xV (Op.unary .not d2W)) h5d fun e6F d7F =>
 xcond e6F
 (oP E (xCall (fC 137) [x0, (vI 4)]) d7F fun _t126_173 h5e =>
 R (Value.tuple #[]) h5e)
 (R (Value.tuple #[]) d7F))
 (oP E (xCall (fC 132) [x0]) b0P fun _t12_175 h5f =>
 R (Value.tuple #[]) h5f))))))
noncomputable def g8N : Code := Tryz.f103.body.getD .skip
def g8O : Hint := (sQ (sQ (.block (sQ (.cond (sQ (.cut [4] (sQ (.cond .none .none)) (.reg [(0, 8589934592, 1), (1, 17179869184, 8589934592), (2, 34359738368, 17179869184), (4, 68719476736, 34359738368), (0, 137438953472, 8), (16, 274877906944, 137438953472), (40, 549755813888, 343597383680), (0, 1099511627776, 16), (255, 2199023255552, 549755813888), (511, 0, 3298534883328)] [104, 104, 104, 96, 104, 72, 40, 104, 104, 0] (.early 0 (.early 1 (.early 2 (.early 4 (.early 7 (.load 3 (.load 5 (.load 6 (.early 8 (.step 9 .done))))))))))))) (sQ (.cond (sQ (sQ .none)) (sQ (.cond (sQ (.cond .none .none)) (sQ (.cond (.block (.loop [] (.seq (sQ (.cond .none .none)) (.block .none)))) (sQ (.cond (sQ (.cond .none .none)) (sQ (.cond (sQ (sQ (sQ (sQ (.cond .none .none))))) .none)))))))))))))))
theorem f4B (x0 x1 : Value) (w : World) (R : RT) (E : Pan) : e6r x0 x1 w R E = callX Tryz.prog [] g8N g8O [x0, x1] w R E := by kernel_rfl
theorem f4C {x0 x1 : Value} (h : e6r x0 x1 w R E) : Cv Tryz.prog 103 #[x0, x1] w R E := by
 refine i7 (args := [x0, x1]) (c := g8N) (h := g8O) (rs := []) Tryz.func103 (by kernel_rfl) (by kernel_rfl) (nB (by kernel_rfl)) (by kernel_rfl) (by kernel_rfl) (by kernel_rfl) ?_
 rw [← f4B]
 exact h
def e6G (x0 x1 : Value) (w : World) (R : RT) (E : Pan) : Prop :=
 oP E (xV (Instr.box 53 x1)) w fun N0 w_2 =>
 oP E (fA 53 N0 0) w_2 fun a6W w_4 =>
 oP E (lA 3 a6W) w_4 fun a8I w_6 =>
 oP E (xBin .eql 3 (.tmp 7) (.const (vI 2)) a8I (vI 2)) w_6 fun a6X w_8 =>
 xcond a6X
 (dX w_8 fun w_9 =>
 qP Tryz.prog (xNil x0) fun d1x =>
 qP Tryz.prog (fA 80 d1x 4) fun a6R =>
 qP Tryz.prog (fA 53 N0 2) fun e2k =>
 qL Tryz.prog w_9 (blk a6R) (lA 77 a6R) fun b1b =>
 qL Tryz.prog w_9 (blk e2k) (lA 9 e2k) fun g8P =>
 qL Tryz.prog w_9 (blk b1b) (xV (Instr.lookup 77 b1b g8P false)) fun d2X =>
 qP Tryz.prog (xNil d2X) fun b6b =>
 qL Tryz.prog w_9 (blk b6b) (lA 2 b6b) fun a1D =>
 R (Value.tuple #[a1D, (vB true)]) w_9)
 (oP E (lA 53 N0) w_8 fun g8Q T2 =>
 oP E (xCall (fC 158) [g8Q]) T2 fun e2l Z3 =>
 oP E (eX e2l 0) Z3 fun g8R a0y =>
 oP E (eX e2l 1) a0y fun g8S a6m =>
 R (Value.tuple #[g8R, g8S]) a6m)
noncomputable def g8T : Code := Tryz.f131.body.getD .skip
def g8U : Hint := (sQ (.seq (sQ (.cond (.seq (.reg [(0, 512, 1), (1, 1024, 512), (2, 2048, 1024), (4, 4096, 2048), (0, 8192, 8), (16, 16384, 8192), (40, 32768, 20480), (64, 65536, 32768), (128, 131072, 65536), (511, 16, 131072), (1023, 32, 0)] [360, 360, 360, 352, 360, 328, 296, 360, 104, 360, 360] (.early 0 (.early 1 (.early 2 (.early 4 (.load 3 (.load 5 (.load 6 (.early 7 (.load 8 (.early 9 (.early 10 .done)))))))))))) .none) .none)) (sQ .none)))
theorem f4D (x0 x1 : Value) (w : World) (R : RT) (E : Pan) : e6G x0 x1 w R E = callX Tryz.prog [.tmp 4, .tmp 5] g8T g8U [x0, x1] w R E := by kernel_rfl
theorem f4E {x0 x1 : Value} (h : e6G x0 x1 w R E) : Cv Tryz.prog 131 #[x0, x1] w R E := by
 refine i7 (args := [x0, x1]) (c := g8T) (h := g8U) (rs := [.tmp 4, .tmp 5]) Tryz.func131 (by kernel_rfl) (by kernel_rfl) (nB (by kernel_rfl)) (by kernel_rfl) (by kernel_rfl) (by kernel_rfl) ?_
 rw [← f4D]
 exact h
def d4W (x0 : Value) (w : World) (R : RT) (E : Pan) : Prop :=
 ∀ _τ : Fr, (oP E (xNil x0) w fun c0H w_2 =>
 oP E (fA 80 c0H 0) w_2 fun a4b w_4 =>
 oP E (lA 3 a4b) w_4 fun a9t w_6 =>
 oP E (xBin .sub 3 (.tmp 12) (.const (vI 1)) a9t (vI 1)) w_6 fun a9u w_8 =>
 oP E (xNil x0) w_8 fun a5x o7 =>
 oP E (fA 80 a5x 0) o7 fun a5P p7 =>
 oP E (sA 3 a5P a9u) p7 fun _z_13 o8 =>
 oP E (xNil x0) o8 fun a5Q r5 =>
 oP E (fA 80 a5Q 1) r5 fun b8T t8 =>
 oP E (lA 3 b8T) t8 fun c9d t7 =>
 oP E (xBin .add 3 (.tmp 19) (.const (vI 1)) c9d (vI 1)) t7 fun b5H u6 =>
 oP E (xNil x0) u6 fun b9O v6 =>
 oP E (fA 80 b9O 1) v6 fun b1a y7 =>
 oP E (sA 3 b1a b5H) y7 fun _z_27 C4 =>
 R (Value.tuple #[]) C4)
def e6H (x0 : Value) (w : World) (R : RT) (E : Pan) : Prop :=
 xcut (fun _ H7 => d4W x0 H7 R E) fun j1 =>
 oP E (xNil x0) w fun h5g D6 =>
 oP E (fA 80 h5g 0) D6 fun h5h A6 =>
 oP E (lA 3 h5h) A6 fun h5i K5 =>
 oP E (xBin .eql 3 (.tmp 5) (.const (vI 0)) h5i (vI 0)) K5 fun h5j K0 =>
 xcond h5j
 (oP E (xCall (fC 136) [x0, (vI 1), (vI 0)]) K0 fun _t8_39 H9 =>
 j1 [] H9)
 (j1 [] K0)
noncomputable def g8V : Code := Tryz.f132.body.getD .skip
def g8W : Hint := (.cut [] (sQ (.cond .none .none)) (sQ .none))
theorem f4F (x0 : Value) (w : World) (R : RT) (E : Pan) : e6H x0 w R E = callX Tryz.prog [] g8V g8W [x0] w R E := by kernel_rfl
theorem f4G {x0 : Value} (h : e6H x0 w R E) : Cv Tryz.prog 132 #[x0] w R E := by
 refine i7 (args := [x0]) (c := g8V) (h := g8W) (rs := []) Tryz.func132 (by kernel_rfl) (by kernel_rfl) (nB (by kernel_rfl)) (by kernel_rfl) (by kernel_rfl) (by kernel_rfl) ?_
 rw [← f4F]
 exact h
def c6E (x0 x3 x7 : Value) (w : World) (R : RT) (E : Pan) : Prop :=
 ∀ _τ : Fr, (oP E (fA 53 x3 0) w fun g8X p7 =>
 oP E (lA 3 g8X) p7 fun c3O o8 =>
 oP E (xBin .eql 3 (.tmp 33) (.const (vI 3)) c3O (vI 3)) o8 fun g8Y r5 =>
 xcond g8Y
 (oP E (xCall (fC 159) [x0]) r5 fun g8Z t8 =>
 R g8Z t8)
 (oP E (xBin .eql 3 (.tmp 33) (.const (vI 4)) c3O (vI 4)) r5 fun g9a t7 =>
 xcond g9a
 (dX t7 fun Z3 =>
 qP Tryz.prog (fA 53 x3 2) fun e2m =>
 qP Tryz.prog (iA 37 x7 (vI 0)) fun e2n =>
 qL Tryz.prog Z3 (blk e2m) (lA 9 e2m) fun g9b =>
 qL Tryz.prog Z3 (blk e2n) (lA 2 e2n) fun g9c =>
 oP E (xCall (fC 134) [x0, g9b, g9c]) Z3 fun g9d a2d =>
 keepX [] Z3 a2d (qP Tryz.prog (xNil g9d) fun e2o =>
 qL Tryz.prog a2d (blk e2o) (lA 2 e2o) fun g9e =>
 R g9e a2d))
 (oP E (xCall (fC 132) [x0]) t7 fun _t50_30 a8o =>
 oP E (fA 53 x3 0) a8o fun g9f a7H =>
 oP E (lA 3 g9f) a7H fun c0p a7c =>
 oP E (xBin .eql 3 (.tmp 52) (.const (vI 5)) c0p (vI 5)) a7c fun g9g b0u =>
 xcond g9g
 (oP E (iA 37 x7 (vI 0)) b0u fun g9h b1B =>
 oP E (lA 2 g9h) b1B fun g9i b2O =>
 oP E (xCall (fC 112) [g9i]) b2O fun e2p b1w =>
 oP E (eX e2p 0) b1w fun g9j a8H =>
 oP E (eX e2p 1) a8H fun g9k b8X =>
 oP E (xCall (fC 160) [x0, g9j, g9k]) b8X fun g9l b0f =>
 R g9l b0f)
 (oP E (xBin .eql 3 (.tmp 52) (.const (vI 6)) c0p (vI 6)) b0u fun g9m a8Z =>
 xcond g9m
 (dX a8Z fun M2 =>
 qP Tryz.prog (iA 37 x7 (vI 0)) fun e2q =>
 qP Tryz.prog (iA 37 x7 (vI 1)) fun e2r =>
 qL Tryz.prog M2 (blk e2q) (lA 2 e2q) fun g9n =>
 qL Tryz.prog M2 (blk e2r) (lA 2 e2r) fun g9o =>
 oP E (xCall (fC 113) [g9n, g9o]) M2 fun e2s O9 =>
 keepX [] M2 O9 (qP Tryz.prog (eX e2s 0) fun g9p =>
 qP Tryz.prog (eX e2s 1) fun g9q =>
 oP E (xCall (fC 160) [x0, g9p, g9q]) O9 fun g9r Q1 =>
 keepX [] O9 Q1 (R g9r Q1)))
 (oP E (xBin .eql 3 (.tmp 52) (.const (vI 7)) c0p (vI 7)) a8Z fun g9s T3 =>
 xcond g9s
 (dX T3 fun b1x =>
 qP Tryz.prog (iA 37 x7 (vI 0)) fun e2t =>
 qP Tryz.prog (iA 37 x7 (vI 1)) fun e2u =>
 qL Tryz.prog b1x (blk e2t) (lA 2 e2t) fun g9t =>
 qL Tryz.prog b1x (blk e2u) (lA 2 e2u) fun g9u =>
 oP E (xCall (fC 114) [g9t, g9u]) b1x fun e2v a9a =>
 keepX [] b1x a9a (qP Tryz.prog (eX e2v 0) fun g9v =>
 qP Tryz.prog (eX e2v 1) fun g9w =>
 oP E (xCall (fC 160) [x0, g9v, g9w]) a9a fun g9x b9U =>
 keepX [] a9a b9U (R g9x b9U)))
 (oP E (xBin .eql 3 (.tmp 52) (.const (vI 8)) c0p (vI 8)) T3 fun g9y a9O =>
 xcond g9y
 (dX a9O fun Z4 =>
 qP Tryz.prog (iA 37 x7 (vI 0)) fun e2w =>
 qP Tryz.prog (iA 37 x7 (vI 1)) fun e2x =>
 qL Tryz.prog Z4 (blk e2w) (lA 2 e2w) fun g9z =>
 qL Tryz.prog Z4 (blk e2x) (lA 2 e2x) fun g9A =>
 oP E (xCall (fC 115) [g9z, g9A]) Z4 fun e2y X0 =>
 keepX [] Z4 X0 (qP Tryz.prog (eX e2y 0) fun g9B =>
 qP Tryz.prog (eX e2y 1) fun f4H =>
 oP E (xCall (fC 160) [x0, g9B, f4H]) X0 fun f4I V9 =>
 keepX [] X0 V9 (R f4I V9)))
 (oP E (xBin .eql 3 (.tmp 52) (.const (vI 9)) c0p (vI 9)) a9O fun f4J a3y =>
 xcond f4J
 (dX a3y fun a8n =>
 qP Tryz.prog (iA 37 x7 (vI 0)) fun d4X =>
 qP Tryz.prog (iA 37 x7 (vI 1)) fun d4Y =>
 qL Tryz.prog a8n (blk d4X) (lA 2 d4X) fun f4K =>
 qL Tryz.prog a8n (blk d4Y) (lA 2 d4Y) fun f4L =>
 oP E (xCall (fC 116) [f4K, f4L]) a8n fun d4Z a7d =>
 keepX [] a8n a7d (qP Tryz.prog (eX d4Z 0) fun f4M =>
 qP Tryz.prog (eX d4Z 1) fun f4N =>
 oP E (xCall (fC 160) [x0, f4M, f4N]) a7d fun e6I b7H =>
 keepX [] a7d b7H (R e6I b7H)))
 (dX a3y fun Z5 =>
 qP Tryz.prog (iA 37 x7 (vI 0)) fun d2Y =>
 qP Tryz.prog (iA 37 x7 (vI 1)) fun d2Z =>
 qL Tryz.prog Z5 (blk d2Y) (lA 2 d2Y) fun e6J =>
 qL Tryz.prog Z5 (blk d2Z) (lA 2 d2Z) fun e6K =>
 oP E (xCall (fC 117) [e6J, e6K]) Z5 fun d3a a6n =>
 keepX [] Z5 a6n (qP Tryz.prog (eX d3a 0) fun e6L =>
 qP Tryz.prog (eX d3a 1) fun e6M =>
 oP E (xCall (fC 160) [x0, e6L, e6M]) a6n fun e6N a7e =>
 keepX [] a6n a7e (R e6N a7e))))))))))
def d5a (x0 _x3 x7 x19 x20 x21 : Value) (w : World) (next2 : NT) (j1 : NT) (_R : RT) (E : Pan) : Prop :=
 oP E (xBin .lss 3 (.tmp 21) (.tmp 20) x21 x20) w fun f4O a6o =>
 xcond f4O
 (oP E (iA 51 x19 x21) a6o fun f4P a7V =>
 oP E (lA 53 f4P) a7V fun f4Q a8C =>
 oP E (xV (Instr.alloc 53 true (.tuple #[]))) a8C fun e2z a9y =>
 oP E (sA 53 e2z f4Q) a9y fun _z_129 a7h =>
 oP E (lA 53 e2z) a7h fun f4R a5a =>
 oP E (xCall (fC 133) [x0, f4R]) a5a fun f4S a5b =>
 oP E (xV (Instr.buildSlice 37 1 #[(0, f4S)])) a5b fun f4T a7U =>
 oP E (xBuiltin .append #[37, 37] 37 [false, false] [x7, f4T]) a7U fun f4U a9x =>
 oP E (xBin .add 3 (.tmp 21) (.const (vI 1)) x21 (vI 1)) a9x fun f4V b0P =>
 next2 [f4U, f4V] b0P)
 (j1 [x7] a6o)
def e6O (x0 x1 : Value) (w : World) (R : RT) (E : Pan) : Prop :=
 oP E (xV (Instr.box 53 x1)) w fun N0 w_2 =>
 oP E (lA 53 N0) w_2 fun c4A w_4 =>
 oP E (xCall (fC 131) [x0, c4A]) w_4 fun a9M w_6 =>
 oP E (eX a9M 0) w_6 fun a3e w_8 =>
 oP E (eX a9M 1) w_8 fun b4p o7 =>
 xcond b4p
 (R a3e o7)
 (xcut (fun h5k a0X => c6E x0 N0 (nth h5k 0) a0X R E) fun j1 =>
 oP E (fA 53 N0 3) o7 fun f4W a3d =>
 oP E (lA 51 f4W) a3d fun d5b a7f =>
 oP E (xBuiltin .len #[51] 3 [false] [d5b]) a7f fun f4X a0I =>
 xloop [7, 21] [(nS), (vI 0)] a0I fun τ_141 b1V next2 =>
 d5a x0 N0 (τ_141 7) d5b f4X (τ_141 21) b1V next2 j1 R E)
noncomputable def g9C : Code := Tryz.f133.body.getD .skip
def g9D : Hint := (sQ (.seq (sQ (sQ (.cond (sQ .none) .none))) (sQ (.cut [7] (sQ (.block (.loop [7, 21] (sQ (.seq (.cond .none .none) (.seq (.block (sQ .none)) .none)))))) (.seq (sQ (.block (sQ (.cond (sQ .none) (sQ (.cond (.seq (.reg [(0, 1099511627776, 1), (0, 2199023255552, 8), (2, 4398046511104, 2199023255552), (0, 8796093022208, 128), (8, 17592186044416, 8796093022208), (16, 35184372088832, 17592186044416), (37, 70368744177664, 40681930227712), (64, 140737488355328, 70368744177664), (128, 281474976710656, 140737488355328), (511, 16, 281474976710656)] [292, 292, 288, 292, 292, 260, 0, 292, 36, 292] (.early 0 (.early 1 (.early 3 (.early 4 (.load 2 (.load 5 (.step 6 (.early 7 (.load 8 (.early 9 .done))))))))))) .none) .none)))))) (sQ (.seq (sQ (.block (sQ (.cond (sQ .none) (sQ (.cond (.seq (.reg [(0, 36893488147419103232, 1), (0, 73786976294838206464, 128), (2, 147573952589676412928, 73786976294838206464), (4, 295147905179352825856, 147573952589676412928), (0, 590295810358705651712, 128), (16, 1180591620717411303424, 590295810358705651712), (32, 2361183241434822606848, 1180591620717411303424), (72, 4722366482869645213696, 2656331146614175432704), (128, 9444732965739290427392, 4722366482869645213696), (128, 18889465931478580854784, 4722366482869645213696), (897, 37778931862957161709568, 28371092385365290385408), (2047, 16, 37778931862957161709568)] [72, 72, 72, 64, 72, 72, 8, 0, 72, 72, 0, 72] (.early 0 (.early 1 (.early 2 (.early 4 (.early 5 (.load 3 (.load 6 (.step 7 (.early 8 (.early 9 (.step 10 (.early 11 .done))))))))))))) .none) (sQ (.cond (.seq (.reg [(0, 302231454903657293676544, 1), (0, 604462909807314587353088, 128), (2, 1208925819614629174706176, 604462909807314587353088), (4, 2417851639229258349412352, 1208925819614629174706176), (0, 4835703278458516698824704, 128), (16, 9671406556917033397649408, 4835703278458516698824704), (32, 19342813113834066795298816, 9671406556917033397649408), (72, 38685626227668133590597632, 21760664753063325144711168), (128, 77371252455336267181195264, 38685626227668133590597632), (128, 154742504910672534362390528, 38685626227668133590597632), (897, 309485009821345068724781056, 232415988820912458837262336), (2047, 16, 309485009821345068724781056)] [72, 72, 72, 64, 72, 72, 8, 0, 72, 72, 0, 72] (.early 0 (.early 1 (.early 2 (.early 4 (.early 5 (.load 3 (.load 6 (.step 7 (.early 8 (.early 9 (.step 10 (.early 11 .done))))))))))))) .none) (sQ (.cond (.seq (.reg [(0, 2475880078570760549798248448, 1), (0, 4951760157141521099596496896, 128), (2, 9903520314283042199192993792, 4951760157141521099596496896), (4, 19807040628566084398385987584, 9903520314283042199192993792), (0, 39614081257132168796771975168, 128), (16, 79228162514264337593543950336, 39614081257132168796771975168), (32, 158456325028528675187087900672, 79228162514264337593543950336), (72, 316912650057057350374175801344, 178263365657094759585473888256), (128, 633825300114114700748351602688, 316912650057057350374175801344), (128, 1267650600228229401496703205376, 316912650057057350374175801344), (897, 2535301200456458802993406410752, 1903951780420914862794853056512), (2047, 16, 2535301200456458802993406410752)] [72, 72, 72, 64, 72, 72, 8, 0, 72, 72, 0, 72] (.early 0 (.early 1 (.early 2 (.early 4 (.early 5 (.load 3 (.load 6 (.step 7 (.early 8 (.early 9 (.step 10 (.early 11 .done))))))))))))) .none) (sQ (.cond (.seq (.reg [(0, 20282409603651670423947251286016, 1), (0, 40564819207303340847894502572032, 128), (2, 81129638414606681695789005144064, 40564819207303340847894502572032), (4, 162259276829213363391578010288128, 81129638414606681695789005144064), (0, 324518553658426726783156020576256, 128), (16, 649037107316853453566312041152512, 324518553658426726783156020576256), (32, 1298074214633706907132624082305024, 649037107316853453566312041152512), (72, 2596148429267413814265248164610048, 1460333491462920270524202092593152), (128, 5192296858534827628530496329220096, 2596148429267413814265248164610048), (128, 10384593717069655257060992658440192, 2596148429267413814265248164610048), (897, 20769187434139310514121985316880384, 15597172985208134556015436238946304), (2047, 16, 20769187434139310514121985316880384)] [72, 72, 72, 64, 72, 72, 8, 0, 72, 72, 0, 72] (.early 0 (.early 1 (.early 2 (.early 4 (.early 5 (.load 3 (.load 6 (.step 7 (.early 8 (.early 9 (.step 10 (.early 11 .done))))))))))))) .none) .none)))))))))))) (.seq (.reg [(0, 41538374868278621028243970633760768, 1), (0, 83076749736557242056487941267521536, 128), (2, 166153499473114484112975882535043072, 83076749736557242056487941267521536), (4, 332306998946228968225951765070086144, 166153499473114484112975882535043072), (0, 664613997892457936451903530140172288, 128), (16, 1329227995784915872903807060280344576, 664613997892457936451903530140172288), (32, 2658455991569831745807614120560689152, 1329227995784915872903807060280344576), (72, 5316911983139663491615228241121378304, 2990762990516060714033565885630775296), (128, 10633823966279326983230456482242756608, 5316911983139663491615228241121378304), (128, 21267647932558653966460912964485513216, 5316911983139663491615228241121378304), (897, 42535295865117307932921825928971026432, 31943010273706259570719613417362030592), (2047, 16, 42535295865117307932921825928971026432)] [72, 72, 72, 64, 72, 72, 8, 0, 72, 72, 0, 72] (.early 0 (.early 1 (.early 2 (.early 4 (.early 5 (.load 3 (.load 6 (.step 7 (.early 8 (.early 9 (.step 10 (.early 11 .done))))))))))))) .none))))))))
theorem f4Y (x0 x1 : Value) (w : World) (R : RT) (E : Pan) : e6O x0 x1 w R E = callX Tryz.prog [.tmp 4] g9C g9D [x0, x1] w R E := by kernel_rfl
theorem f4Z {x0 x1 : Value} (h : e6O x0 x1 w R E) : Cv Tryz.prog 133 #[x0, x1] w R E := by
 refine i7 (args := [x0, x1]) (c := g9C) (h := g9D) (rs := [.tmp 4]) Tryz.func133 (by kernel_rfl) (by kernel_rfl) (nB (by kernel_rfl)) (by kernel_rfl) (by kernel_rfl) (by kernel_rfl) ?_
 rw [← f4Y]
 exact h
def d5c (x2 x7 : Value) (w : World) (R : RT) (E : Pan) : Prop :=
 ∀ _τ : Fr, (oP E (iA 37 x7 x2) w fun g9E p7 =>
 R g9E p7)
def e6P (x0 x1 x2 : Value) (w : World) (R : RT) (E : Pan) : Prop :=
 oP E (xCall (fC 132) [x0]) w fun _t9_1 w_2 =>
 oP E (xNil x0) w_2 fun a4b w_4 =>
 oP E (fA 80 a4b 5) w_4 fun a9t w_6 =>
 oP E (lA 78 a9t) w_6 fun a9u w_8 =>
 oP E (xV (Instr.lookup 78 a9u x1 false)) w_8 fun b4p o7 =>
 xcut (fun _ o8 => d5c x2 b4p o8 R E) fun j1 =>
 oP E (xBin .lss 2 (.tmp 16) (.const (vI 0)) x2 (vI 0)) o7 fun a5Q r5 =>
 oP E (gsem (asB a5Q) false (xBuiltin .len #[37] 3 [false] [(gval (asB a5Q) false b4p)])) r5 fun b5G t8 =>
 oP E (gsem (asB a5Q) false (xBin .geq 2 (.tmp 19) (.tmp 21) (gval (asB a5Q) false x2) b5G)) t8 fun d2U t7 =>
 oP E (xPick a5Q (vB true) d2U) t7 fun d2V u6 =>
 xcond d2V
 (oP E (xCall (fC 137) [x0, (vI 3)]) u6 fun _t25_23 v6 =>
 j1 [] v6)
 (j1 [] u6)
noncomputable def g9F : Code := Tryz.f134.body.getD .skip
def g9G : Hint := (sQ (sQ (sQ (.cut [] (sQ (.cond .none .none)) (sQ .none)))))
theorem f5a (x0 x1 x2 : Value) (w : World) (R : RT) (E : Pan) : e6P x0 x1 x2 w R E = callX Tryz.prog [.tmp 6] g9F g9G [x0, x1, x2] w R E := by kernel_rfl
theorem f5b {x0 x1 x2 : Value} (h : e6P x0 x1 x2 w R E) : Cv Tryz.prog 134 #[x0, x1, x2] w R E := by
 refine i7 (args := [x0, x1, x2]) (c := g9F) (h := g9G) (rs := [.tmp 6]) Tryz.func134 (by kernel_rfl) (by kernel_rfl) (nB (by kernel_rfl)) (by kernel_rfl) (by kernel_rfl) (by kernel_rfl) ?_
 rw [← f5a]
 exact h
def e6Q (x0 x1 : Value) (w : World) (R : RT) (E : Pan) : Prop :=
 oP E (xV (Instr.box 59 x1)) w fun N0 w_2 =>
 oP E (fA 59 N0 0) w_2 fun b0e w_4 =>
 oP E (lA 3 b0e) w_4 fun b5k w_6 =>
 oP E (xBin .eql 3 (.tmp 8) (.const (vI 4)) b5k (vI 4)) w_6 fun b4w w_8 =>
 xcond b4w
 (oP E (fA 59 N0 3) w_8 fun b0R o7 =>
 oP E (lA 57 b0R) o7 fun d1h p7 =>
 oP E (iA 57 d1h (vI 0)) p7 fun g9H o8 =>
 oP E (lA 59 g9H) o8 fun d2X r5 =>
 oP E (xCall (fC 135) [x0, d2X]) r5 fun g9I t8 =>
 oP E (xV (Op.unary .not g9I)) t8 fun g9J t7 =>
 R g9J t7)
 (oP E (xBin .eql 3 (.tmp 8) (.const (vI 5)) b5k (vI 5)) w_8 fun a1F u6 =>
 xcond a1F
 (oP E (fA 59 N0 3) u6 fun b9O v6 =>
 oP E (lA 57 b9O) v6 fun b1a y7 =>
 oP E (iA 57 b1a (vI 0)) y7 fun b3t C4 =>
 oP E (lA 59 b3t) C4 fun b9S H7 =>
 oP E (xCall (fC 135) [x0, b9S]) H7 fun a7G D6 =>
 oP E (gsem (asB a7G) true (fA 59 N0 3)) D6 fun c9f A6 =>
 oP E (gsem (asB a7G) true (lA 57 c9f)) A6 fun g9K K5 =>
 oP E (gsem (asB a7G) true (iA 57 g9K (vI 1))) K5 fun g9L K0 =>
 oP E (gsem (asB a7G) true (lA 59 g9L)) K0 fun g9M H9 =>
 oP E (gsem (asB a7G) true (xCall (fC 135) [(gval (asB a7G) true x0), g9M])) H9 fun g9N I0 =>
 oP E (xPick a7G g9N (vB false)) I0 fun d0T K6 =>
 R d0T K6)
 (oP E (xBin .eql 3 (.tmp 8) (.const (vI 6)) b5k (vI 6)) u6 fun g9O M9 =>
 xcond g9O
 (oP E (fA 59 N0 3) M9 fun c9g O1 =>
 oP E (lA 57 c9g) O1 fun g9P N8 =>
 oP E (iA 57 g9P (vI 0)) N8 fun g9Q M2 =>
 oP E (lA 59 g9Q) M2 fun g9R O0 =>
 oP E (xCall (fC 135) [x0, g9R]) O0 fun b3N O8 =>
 oP E (gsem (asB b3N) false (fA 59 N0 3)) O8 fun g9S O9 =>
 oP E (gsem (asB b3N) false (lA 57 g9S)) O9 fun d3b R8 =>
 oP E (gsem (asB b3N) false (iA 57 d3b (vI 1))) R8 fun g9T Q1 =>
 oP E (gsem (asB b3N) false (lA 59 g9T)) Q1 fun g9U T3 =>
 oP E (gsem (asB b3N) false (xCall (fC 135) [(gval (asB b3N) false x0), g9U])) T3 fun g9V U5 =>
 oP E (xPick b3N (vB true) g9V) U5 fun g9W W9 =>
 R g9W W9)
 (oP E (xBin .eql 3 (.tmp 8) (.const (vI 3)) b5k (vI 3)) M9 fun g9X S3 =>
 xcond g9X
 (oP E (fA 59 N0 2) S3 fun g9Y Z1 =>
 oP E (lA 51 g9Y) Z1 fun d3c a0O =>
 oP E (iA 51 d3c (vI 0)) a0O fun g9Z Y4 =>
 oP E (lA 53 g9Z) Y4 fun d3d Z4 =>
 oP E (xCall (fC 133) [x0, d3d]) Z4 fun h0a a2e =>
 oP E (fA 59 N0 2) a2e fun h0b Y5 =>
 oP E (lA 51 h0b) Y5 fun h0c X0 =>
 oP E (iA 51 h0c (vI 1)) X0 fun h0d a0x =>
 oP E (lA 53 h0d) a0x fun h0e V9 =>
 oP E (xCall (fC 133) [x0, h0e]) V9 fun h0f a3y =>
 oP E (xCall (fC 132) [x0]) a3y fun _t65_91 a5o =>
 oP E (fA 59 N0 1) a5o fun h0g a3M =>
 oP E (lA 3 h0g) a3M fun h0h a5R =>
 oP E (xCall (fC 73) [h0h, h0a, h0f]) a5R fun c9h a6V =>
 R c9h a6V)
 (oP E (xCall (fC 132) [x0]) S3 fun _t72_99 a0W =>
 oP E (fA 59 N0 0) a0W fun c5A Z5 =>
 oP E (lA 3 c5A) Z5 fun c5B a0H =>
 oP E (xBin .eql 3 (.tmp 74) (.const (vI 1)) c5B (vI 1)) a0H fun f5c a3D =>
 R f5c a3D))))
noncomputable def h0i : Code := Tryz.f135.body.getD .skip
def h0j : Hint := (sQ (.seq (sQ (.block (sQ (.cond (sQ .none) (sQ (.cond (sQ .none) (sQ (.cond (sQ .none) (sQ (.cond (sQ (sQ (sQ (sQ .none)))) .none)))))))))) (sQ (sQ .none))))
theorem f5d (x0 x1 : Value) (w : World) (R : RT) (E : Pan) : e6Q x0 x1 w R E = callX Tryz.prog [.tmp 4] h0i h0j [x0, x1] w R E := by kernel_rfl
theorem f5e {x0 x1 : Value} (h : e6Q x0 x1 w R E) : Cv Tryz.prog 135 #[x0, x1] w R E := by
 refine i7 (args := [x0, x1]) (c := h0i) (h := h0j) (rs := [.tmp 4]) Tryz.func135 (by kernel_rfl) (by kernel_rfl) (nB (by kernel_rfl)) (by kernel_rfl) (by kernel_rfl) (by kernel_rfl) ?_
 rw [← f5d]
 exact h
def e6R (_x0 x1 x2 : Value) (w : World) (R : RT) (E : Pan) : Prop :=
 oP E (xV (Instr.build 83 #[(0, x1), (1, x2)])) w fun b8V w_2 =>
 oP E (xV (Instr.makeInterface 83 b8V)) w_2 fun a0N w_4 =>
 oP E (xV (Instr.panic a0N)) w_4 fun _z_5 w_6 =>
 R (Value.tuple #[]) w_6
noncomputable def h0k : Code := Tryz.f136.body.getD .skip
def h0l : Hint := .none
theorem f5f (x0 x1 x2 : Value) (w : World) (R : RT) (E : Pan) : e6R x0 x1 x2 w R E = callX Tryz.prog [] h0k h0l [x0, x1, x2] w R E := by kernel_rfl
theorem f5g {x0 x1 x2 : Value} (h : e6R x0 x1 x2 w R E) : Cv Tryz.prog 136 #[x0, x1, x2] w R E := by
 refine i7 (args := [x0, x1, x2]) (c := h0k) (h := h0l) (rs := []) Tryz.func136 (by kernel_rfl) (by kernel_rfl) (nB (by kernel_rfl)) (by kernel_rfl) (by kernel_rfl) (by kernel_rfl) ?_
 rw [← f5f]
 exact h
def e6S (x0 x1 : Value) (w : World) (R : RT) (E : Pan) : Prop :=
 oP E (xBin .neq 3 (.tmp 4) (.const (vI 0)) x1 (vI 0)) w fun c2b w_2 =>
 xcond c2b
 (oP E (xCall (fC 136) [x0, (vI 3), x1]) w_2 fun _t8_3 w_4 =>
 R (Value.tuple #[]) w_4)
 (R (Value.tuple #[]) w_2)
noncomputable def h0m : Code := Tryz.f137.body.getD .skip
def h0n : Hint := (sQ (.cond .none .none))
theorem f5h (x0 x1 : Value) (w : World) (R : RT) (E : Pan) : e6S x0 x1 w R E = callX Tryz.prog [] h0m h0n [x0, x1] w R E := by kernel_rfl
theorem f5i {x0 x1 : Value} (h : e6S x0 x1 w R E) : Cv Tryz.prog 137 #[x0, x1] w R E := by
 refine i7 (args := [x0, x1]) (c := h0m) (h := h0n) (rs := []) Tryz.func137 (by kernel_rfl) (by kernel_rfl) (nB (by kernel_rfl)) (by kernel_rfl) (by kernel_rfl) (by kernel_rfl) ?_
 rw [← f5h]
 exact h
def d8C (x0 : Value) (w : World) (R : RT) (E : Pan) : Prop :=
 oP E (xV (Instr.box 53 x0)) w fun q7 w_2 =>
 oP E (fA 53 q7 0) w_2 fun b4T w_4 =>
 oP E (lA 3 b4T) w_4 fun a9s w_6 =>
 oP E (xBin .eql 3 (.tmp 6) (.const (vI 1)) a9s (vI 1)) w_6 fun b1v w_8 =>
 xcond b1v
 (oP E (fA 53 q7 1) w_8 fun a5n o7 =>
 oP E (lA 2 a5n) o7 fun a7g p7 =>
 R (Value.tuple #[a7g, (vB true)]) p7)
 (oP E (fA 53 q7 0) w_8 fun a4Y o8 =>
 oP E (lA 3 a4Y) o8 fun b2I r5 =>
 oP E (xBin .eql 3 (.tmp 12) (.const (vI 5)) b2I (vI 5)) r5 fun U7 t8 =>
 oP E (gsem (asB U7) true (fA 53 q7 3)) t8 fun a3v t7 =>
 oP E (gsem (asB U7) true (lA 51 a3v)) t7 fun a3W u6 =>
 oP E (gsem (asB U7) true (iA 51 a3W (vI 0))) u6 fun a7p v6 =>
 oP E (gsem (asB U7) true (fA 53 a7p 0)) v6 fun a3w y7 =>
 oP E (gsem (asB U7) true (lA 3 a3w)) y7 fun a7q C4 =>
 oP E (gsem (asB U7) true (xBin .eql 3 (.tmp 19) (.const (vI 1)) a7q (vI 1))) C4 fun b8O H7 =>
 oP E (xPick U7 b8O (vB false)) H7 fun a8r D6 =>
 xcond a8r
 (oP E (fA 53 q7 3) D6 fun a5N A6 =>
 oP E (lA 51 a5N) A6 fun d1F K5 =>
 oP E (iA 51 d1F (vI 0)) K5 fun d1G K0 =>
 oP E (fA 53 d1G 1) K0 fun d1H H9 =>
 oP E (lA 2 d1H) H9 fun d1I I0 =>
 oP E (xV (Op.unary .neg d1I)) I0 fun d1J K6 =>
 R (Value.tuple #[d1J, (vB true)]) K6)
 (R (Value.tuple #[(vI 0), (vB false)]) D6))
noncomputable def h0o : Code := Tryz.f158.body.getD .skip
def h0p : Hint := (sQ (.seq (.block (sQ (.cond (sQ .none) (sQ (.cond (sQ .none) .none))))) (sQ .none)))
theorem f5j (x0 : Value) (w : World) (R : RT) (E : Pan) : d8C x0 w R E = callX Tryz.prog [.tmp 2, .tmp 3] h0o h0p [x0] w R E := by kernel_rfl
theorem f5k {x0 : Value} (h : d8C x0 w R E) : Cv Tryz.prog 158 #[x0] w R E := by
 refine i7 (args := [x0]) (c := h0o) (h := h0p) (rs := [.tmp 2, .tmp 3]) Tryz.func158 (by kernel_rfl) (by kernel_rfl) (nB (by kernel_rfl)) (by kernel_rfl) (by kernel_rfl) (by kernel_rfl) ?_
 rw [← f5j]
 exact h
def d5d (x0 : Value) (w : World) (R : RT) (E : Pan) : Prop :=
 ∀ _τ : Fr, (oP E (xCall (fC 132) [x0]) w fun _t13_1 w_2 =>
 oP E (xNil x0) w_2 fun h5l w_4 =>
 oP E (fA 80 h5l 2) w_4 fun h5m w_6 =>
 oP E (lA 37 h5m) w_6 fun d8z w_8 =>
 oP E (iA 37 d8z (vI 0)) w_8 fun b7Y o7 =>
 oP E (lA 2 b7Y) o7 fun b1i p7 =>
 oP E (xNil x0) p7 fun d2t o8 =>
 oP E (fA 80 d2t 2) o8 fun c5d r5 =>
 oP E (lA 37 c5d) r5 fun d2T t8 =>
 oP E (xV (Instr.sliceAt 37 d2T (some (vI 1)) none none)) t8 fun h0q t7 =>
 oP E (xNil x0) t7 fun h0r u6 =>
 oP E (fA 80 h0r 2) u6 fun h0t v6 =>
 oP E (sA 37 h0t h0q) v6 fun _z_25 y7 =>
 oP E (xNil x0) y7 fun d2w C4 =>
 oP E (fA 80 d2w 3) C4 fun h0u H7 =>
 oP E (lA 39 h0u) H7 fun h0v D6 =>
 oP E (xV (Instr.build 95 #[(0, (vB true)), (1, b1i)])) D6 fun c9q A6 =>
 oP E (xV (Instr.buildSlice 39 1 #[(0, c9q)])) A6 fun d3e K5 =>
 oP E (xBuiltin .append #[39, 39] 39 [false, false] [h0v, d3e]) K5 fun d3f K0 =>
 oP E (xNil x0) K0 fun a8x H9 =>
 oP E (fA 80 a8x 3) H9 fun b6a I0 =>
 oP E (sA 39 b6a d3f) I0 fun _z_43 K6 =>
 R b1i K6)
def e6T (x0 : Value) (w : World) (R : RT) (E : Pan) : Prop :=
 xcut (fun _ M9 => d5d x0 M9 R E) fun j1 =>
 oP E (xNil x0) w fun h5n O1 =>
 oP E (fA 80 h5n 2) O1 fun h5o N8 =>
 oP E (lA 37 h5o) N8 fun c7I M2 =>
 oP E (xBuiltin .len #[37] 3 [false] [c7I]) M2 fun c7J O0 =>
 oP E (xBin .eql 3 (.tmp 8) (.const (vI 0)) c7J (vI 0)) O0 fun h5p O8 =>
 xcond h5p
 (oP E (xCall (fC 136) [x0, (vI 2), (vI 0)]) O8 fun _t11_57 O9 =>
 j1 [] O9)
 (j1 [] O8)
noncomputable def h0w : Code := Tryz.f159.body.getD .skip
def h0x : Hint := (sQ (.cut [] (sQ (.cond .none .none)) (sQ (sQ (sQ (sQ (sQ .none)))))))
theorem f5l (x0 : Value) (w : World) (R : RT) (E : Pan) : e6T x0 w R E = callX Tryz.prog [.tmp 2] h0w h0x [x0] w R E := by kernel_rfl
theorem f5m {x0 : Value} (h : e6T x0 w R E) : Cv Tryz.prog 159 #[x0] w R E := by
 refine i7 (args := [x0]) (c := h0w) (h := h0x) (rs := [.tmp 2]) Tryz.func159 (by kernel_rfl) (by kernel_rfl) (nB (by kernel_rfl)) (by kernel_rfl) (by kernel_rfl) (by kernel_rfl) ?_
 rw [← f5l]
 exact h
def e6U (x0 x1 x2 : Value) (w : World) (R : RT) (E : Pan) : Prop :=
 oP E (xCall (fC 137) [x0, x2]) w fun _t9_1 w_2 =>
 R x1 w_2
noncomputable def h0y : Code := Tryz.f160.body.getD .skip
def h0z : Hint := (sQ (sQ (sQ .none)))
theorem f5n (x0 x1 x2 : Value) (w : World) (R : RT) (E : Pan) : e6U x0 x1 x2 w R E = callX Tryz.prog [.tmp 6] h0y h0z [x0, x1, x2] w R E := by kernel_rfl
theorem f5o {x0 x1 x2 : Value} (h : e6U x0 x1 x2 w R E) : Cv Tryz.prog 160 #[x0, x1, x2] w R E := by
 refine i7 (args := [x0, x1, x2]) (c := h0y) (h := h0z) (rs := [.tmp 6]) Tryz.func160 (by kernel_rfl) (by kernel_rfl) (nB (by kernel_rfl)) (by kernel_rfl) (by kernel_rfl) (by kernel_rfl) ?_
 rw [← f5n]
 exact h
end Go.Proofs.YtnhkdkcgdcgmdaaGreatDoor
