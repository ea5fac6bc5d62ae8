/- The second reading of some of the program's functions, printed by gen2.py off the code; each is held against the code by the kernel. -/
import Derived.Test.YtnhkdkcgdcgmdaaGreatDoorProg
import Derived.Test.YtnhkdkcgdcgmdaaGreatDoorzFK0
import Derived.KernelRfl
import Derived.Test.YtnhkdkcgdcgmdaaGreatDoorzFGz
namespace Go.Proofs.YtnhkdkcgdcgmdaaGreatDoor
open Go.RowKit
set_option maxRecDepth 100000
variable {w : World} {R : RT} {E : Pan}
def e0c (w : World) (R : RT) (_E : Pan) : Prop :=
 ∀ _τ : Fr, (R (vB true) w)
def f5y (x2 x3 x5 : Value) (w : World) (next2 : NT) (j1 : NT) (R : RT) (E : Pan) : Prop :=
 oP E (fA 25 x2 0) w fun c8j N0 =>
 oP E (lA 22 c8j) N0 fun c8k K5 =>
 oP E (xBuiltin .len #[22] 3 [false] [c8k]) K5 fun c0k N4 =>
 oP E (xBin .lss 3 (.tmp 31) (.tmp 34) x5 c0k) N4 fun e0d L4 =>
 xcond e0d
 (dX L4 fun b1c =>
 qP Tryz.prog (fA 25 x2 0) fun f5z =>
 qP Tryz.prog (fA 25 x3 0) fun f5A =>
 qL Tryz.prog b1c (blk f5z) (lA 22 f5z) fun h5N =>
 qP Tryz.prog (iA 22 h5N x5) fun f5B =>
 qL Tryz.prog b1c (blk f5B) (lA 71 f5B) fun h5O =>
 qL Tryz.prog b1c (blk f5A) (lA 22 f5A) fun h5P =>
 qP Tryz.prog (iA 22 h5P x5) fun f5C =>
 qL Tryz.prog b1c (blk f5C) (lA 71 f5C) fun h5Q =>
 qP Tryz.prog (xBin .neq 71 (.tmp 42) (.tmp 47) h5O h5Q) fun h5R =>
 xcond h5R
 (R (vB false) b1c)
 (oP E (xBin .add 3 (.tmp 36) (.const (vI 1)) x5 (vI 1)) b1c fun e0e T7 =>
 next2 [e0e] T7))
 (j1 [] L4)
def F11 (x0 x1 : Value) (w : World) (R : RT) (E : Pan) : Prop :=
 oP E (xV (Instr.box 25 x0)) w fun U3 w_2 =>
 oP E (xV (Instr.box 25 x1)) w_2 fun a0o w_4 =>
 oP E (lA 25 U3) w_4 fun a8D w_6 =>
 oP E (xCall (fC 29) [a8D]) w_6 fun a7R w_8 =>
 oP E (xV (Op.unary .not a7R)) w_8 fun a6Z p5 =>
 oP E (gsem (asB a6Z) false (lA 25 a0o)) p5 fun b3T q8 =>
 oP E (gsem (asB a6Z) false (xCall (fC 29) [b3T])) q8 fun a9u p6 =>
 oP E (gsem (asB a6Z) false (xV (Op.unary .not a9u))) p6 fun b5v r8 =>
 oP E (xPick a6Z (vB true) b5v) r8 fun a3i s8 =>
 oP E (gsem (asB a3i) false (fA 25 U3 0)) s8 fun a4O r9 =>
 oP E (gsem (asB a3i) false (lA 22 a4O)) r9 fun a6d u7 =>
 oP E (gsem (asB a3i) false (xBuiltin .len #[22] 3 [false] [a6d])) u7 fun b5w u4 =>
 oP E (gsem (asB a3i) false (fA 25 a0o 0)) u4 fun a4P z2 =>
 oP E (gsem (asB a3i) false (lA 22 a4P)) z2 fun b2u B3 =>
 oP E (gsem (asB a3i) false (xBuiltin .len #[22] 3 [false] [b2u])) B3 fun c8l C4 =>
 oP E (gsem (asB a3i) false (xBin .neq 3 (.tmp 17) (.tmp 20) b5w c8l)) C4 fun b3U B6 =>
 oP E (xPick a3i (vB true) b3U) B6 fun b0B A6 =>
 oP E (gsem (asB b0B) false (fA 25 U3 1)) A6 fun c0l I7 =>
 oP E (gsem (asB b0B) false (lA 23 c0l)) I7 fun a8E C7 =>
 oP E (gsem (asB b0B) false (fA 25 a0o 1)) C7 fun c0m I4 =>
 oP E (gsem (asB b0B) false (lA 23 c0m)) I4 fun a6e E8 =>
 oP E (gsem (asB b0B) false (xCall (fC 30) [a8E, a6e])) E8 fun e0f E4 =>
 oP E (gsem (asB b0B) false (xV (Op.unary .not e0f))) E4 fun e0g N1 =>
 oP E (xPick b0B (vB true) e0g) N1 fun e0h M6 =>
 xcond e0h
 (R (vB false) M6)
 (xcut (fun _ L8 => e0c L8 R E) fun j1 =>
 xloop [5] [(vI 0)] M6 fun τ_71 Z0 next2 =>
 f5y U3 a0o (τ_71 5) Z0 next2 j1 R E)
noncomputable def c11 : Code := Tryz.f11.body.getD .skip
def h11 : Hint := (sQ (.seq (sQ (.cond (sQ .none) .none)) (.cut [] (sQ (.block (.loop [5] (.seq (sQ (.cond .none .none)) (.seq (.block (.seq (.reg [(0, 274877906944, 4), (1, 549755813888, 274877906944), (0, 1099511627776, 32), (6, 2199023255552, 1649267441664), (8, 4398046511104, 2199023255552), (0, 8796093022208, 8), (32, 17592186044416, 8796093022208), (0, 35184372088832, 32), (192, 70368744177664, 52776558133248), (256, 140737488355328, 70368744177664), (528, 281474976710656, 145135534866432)] [594, 592, 594, 594, 578, 594, 530, 594, 594, 82, 594] (.early 0 (.early 2 (.early 5 (.early 7 (.load 1 (.early 3 (.load 4 (.load 6 (.early 8 (.load 9 (.early 10 .done)))))))))))) (.cond (sQ .none) .none))) .none))))) (sQ .none))))
theorem h5S (x0 x1 : Value) (w : World) (R : RT) (E : Pan) : F11 x0 x1 w R E = callX Tryz.prog [.tmp 4] c11 h11 [x0, x1] w R E := by kernel_rfl
theorem h5T {x0 x1 : Value} (h : F11 x0 x1 w R E) : Cv Tryz.prog 11 #[x0, x1] w R E := by
 refine k3 (args := [x0, x1]) (c := c11) (h := h11) (rs := [.tmp 4]) Tryz.func11 (by kernel_rfl) (by kernel_rfl) (nB (by kernel_rfl)) (by kernel_rfl) (by kernel_rfl) (by kernel_rfl) ?_
 rw [← h5S]
 exact h
def F24 (x0 : Value) (w : World) (R : RT) (E : Pan) : Prop :=
 oP E (xV (Instr.box 25 x0)) w fun q7 w_2 =>
 oP E (lA 25 q7) w_2 fun a0o w_4 =>
 oP E (xCall (fC 43) [a0o]) w_4 fun a6l w_6 =>
 oP E (xNil a6l) w_6 fun a9T w_8 =>
 oP E (fA 101 a9T 2) w_8 fun b2v p5 =>
 oP E (lA 27 b2v) p5 fun X5 q8 =>
 R X5 q8
noncomputable def c24 : Code := Tryz.f24.body.getD .skip
def h24 : Hint := (sQ (sQ .none))
theorem h5U (x0 : Value) (w : World) (R : RT) (E : Pan) : F24 x0 w R E = callX Tryz.prog [.tmp 2] c24 h24 [x0] w R E := by kernel_rfl
theorem h5V {x0 : Value} (h : F24 x0 w R E) : Cv Tryz.prog 24 #[x0] w R E := by
 refine k3 (args := [x0]) (c := c24) (h := h24) (rs := [.tmp 2]) Tryz.func24 (by kernel_rfl) (by kernel_rfl) (nB (by kernel_rfl)) (by kernel_rfl) (by kernel_rfl) (by kernel_rfl) ?_
 rw [← h5U]
 exact h
def F29 (x0 : Value) (w : World) (R : RT) (E : Pan) : Prop :=
 oP E (xV (Instr.box 25 x0)) w fun q7 w_2 =>
 oP E (lA 25 q7) w_2 fun a0o w_4 =>
 oP E (xCall (fC 47) [a0o]) w_4 fun a6l w_6 =>
 oP E (xV (Instr.field 108 a6l 2)) w_6 fun a9T w_8 =>
 oP E (xBin .eql 3 (.tmp 5) (.const (vI 0)) a9T (vI 0)) w_8 fun b2v p5 =>
 R b2v p5
noncomputable def c29 : Code := Tryz.f29.body.getD .skip
def h29 : Hint := (sQ (sQ .none))
theorem h5W (x0 : Value) (w : World) (R : RT) (E : Pan) : F29 x0 w R E = callX Tryz.prog [.tmp 2] c29 h29 [x0] w R E := by kernel_rfl
theorem h5X {x0 : Value} (h : F29 x0 w R E) : Cv Tryz.prog 29 #[x0] w R E := by
 refine k3 (args := [x0]) (c := c29) (h := h29) (rs := [.tmp 2]) Tryz.func29 (by kernel_rfl) (by kernel_rfl) (nB (by kernel_rfl)) (by kernel_rfl) (by kernel_rfl) (by kernel_rfl) ?_
 rw [← h5W]
 exact h
def e0i (w : World) (R : RT) (_E : Pan) : Prop :=
 ∀ _τ : Fr, (R (vB true) w)
def e0j (_x0 _x1 x5 : Value) (w : World) (next2 : NT) (_R : RT) (E : Pan) : Prop :=
 ∀ _τ : Fr, (oP E (xBin .add 3 (.tmp 19) (.const (vI 1)) x5 (vI 1)) w fun c0n p6 =>
 next2 [c0n] p6)
def f5D (_x0 _x1 _x5 x6 x7 x9 : Value) (w : World) (next6 : NT) (j3 : NT) (R : RT) (E : Pan) : Prop :=
 oP E (fA 73 x6 2) w fun h5Y a1H =>
 oP E (lA 51 h5Y) a1H fun g6W a1I =>
 oP E (xBuiltin .len #[51] 3 [false] [g6W]) a1I fun g6X a3H =>
 oP E (xBin .lss 3 (.tmp 94) (.tmp 97) x9 g6X) a3H fun g6Y a3I =>
 xcond g6Y
 (dX a3I fun b2i =>
 qP Tryz.prog (fA 73 x6 2) fun e0k =>
 qP Tryz.prog (fA 73 x7 2) fun e0l =>
 qL Tryz.prog b2i (blk e0k) (lA 51 e0k) fun f8G =>
 qP Tryz.prog (iA 51 f8G x9) fun e0m =>
 qL Tryz.prog b2i (blk e0m) (lA 53 e0m) fun f8H =>
 qL Tryz.prog b2i (blk e0l) (lA 51 e0l) fun f8I =>
 qP Tryz.prog (iA 51 f8I x9) fun e0n =>
 qL Tryz.prog b2i (blk e0n) (lA 53 e0n) fun f8J =>
 oP E (xCall (fC 53) [f8H, f8J]) b2i fun f8K b5x =>
 keepX [] b2i b5x (qP Tryz.prog (xV (Op.unary .not f8K)) fun f8L =>
 xcond f8L
 (R (vB false) b5x)
 (oP E (xBin .add 3 (.tmp 99) (.const (vI 1)) x9 (vI 1)) b5x fun f8M a4j =>
 next6 [f8M] a4j)))
 (j3 [] a3I)
def e0o (x0 x1 x5 x6 x7 : Value) (w : World) (j3 : NT) (R : RT) (E : Pan) : Prop :=
 ∀ _τ : Fr, (xloop [9] [(vI 0)] w fun τ_121 a2J next6 =>
 f5D x0 x1 x5 x6 x7 (τ_121 9) a2J next6 j3 R E)
def f5E (_x0 _x1 _x5 x6 x7 x8 : Value) (w : World) (next7 : NT) (j5 : NT) (R : RT) (E : Pan) : Prop :=
 oP E (fA 73 x6 3) w fun g6Z a6J =>
 oP E (lA 57 g6Z) a6J fun g7a a7S =>
 oP E (xBuiltin .len #[57] 3 [false] [g7a]) a7S fun g7b a4Q =>
 oP E (xBin .lss 3 (.tmp 75) (.tmp 78) x8 g7b) a4Q fun g7c a4R =>
 xcond g7c
 (dX a4R fun b7O =>
 qP Tryz.prog (fA 73 x6 3) fun e6r =>
 qP Tryz.prog (fA 73 x7 3) fun e6s =>
 qL Tryz.prog b7O (blk e6r) (lA 57 e6r) fun g7d =>
 qP Tryz.prog (iA 57 g7d x8) fun e6t =>
 qL Tryz.prog b7O (blk e6t) (lA 59 e6t) fun g7e =>
 qL Tryz.prog b7O (blk e6s) (lA 57 e6s) fun g7f =>
 qP Tryz.prog (iA 57 g7f x8) fun e6u =>
 qL Tryz.prog b7O (blk e6u) (lA 59 e6u) fun d6p =>
 oP E (xCall (fC 52) [g7e, d6p]) b7O fun g7g e8c =>
 keepX [] b7O e8c (qP Tryz.prog (xV (Op.unary .not g7g)) fun g7h =>
 xcond g7h
 (R (vB false) e8c)
 (oP E (xBin .add 3 (.tmp 80) (.const (vI 1)) x8 (vI 1)) e8c fun g7i a5G =>
 next7 [g7i] a5G)))
 (j5 [] a4R)
def e0p (x0 x1 x5 x6 x7 : Value) (w : World) (j3 : NT) (R : RT) (E : Pan) : Prop :=
 ∀ _τ : Fr, (oP E (fA 73 x6 0) w fun e0q s8 =>
 oP E (lA 3 e0q) s8 fun h5Z r9 =>
 oP E (fA 73 x7 0) r9 fun h6a u7 =>
 oP E (lA 3 h6a) u7 fun h6b u4 =>
 oP E (xBin .neq 3 (.tmp 30) (.tmp 32) h5Z h6b) u4 fun c4q z2 =>
 oP E (gsem (asB c4q) false (fA 73 x6 1)) z2 fun h6c B3 =>
 oP E (gsem (asB c4q) false (lA 9 h6c)) B3 fun h6d C4 =>
 oP E (gsem (asB c4q) false (fA 73 x7 1)) C4 fun h6e B6 =>
 oP E (gsem (asB c4q) false (lA 9 h6e)) B6 fun h6f A6 =>
 oP E (gsem (asB c4q) false (xBin .neq 9 (.tmp 36) (.tmp 38) h6d h6f)) A6 fun h6g I7 =>
 oP E (xPick c4q (vB true) h6g) I7 fun b8o C7 =>
 oP E (gsem (asB b8o) false (fA 73 x6 3)) C7 fun c0o I4 =>
 oP E (gsem (asB b8o) false (lA 57 c0o)) I4 fun h6h E8 =>
 oP E (gsem (asB b8o) false (xBuiltin .len #[57] 3 [false] [h6h])) E8 fun h6i E4 =>
 oP E (gsem (asB b8o) false (fA 73 x7 3)) E4 fun h6j N1 =>
 oP E (gsem (asB b8o) false (lA 57 h6j)) N1 fun h6k M6 =>
 oP E (gsem (asB b8o) false (xBuiltin .len #[57] 3 [false] [h6k])) M6 fun h6l L8 =>
 oP E (gsem (asB b8o) false (xBin .neq 3 (.tmp 44) (.tmp 47) h6i h6l)) L8 fun h6m N0 =>
 oP E (xPick b8o (vB true) h6m) N0 fun b8p K5 =>
 oP E (gsem (asB b8p) false (fA 73 x6 2)) K5 fun h6n N4 =>
 oP E (gsem (asB b8p) false (lA 51 h6n)) N4 fun h6o L4 =>
 oP E (gsem (asB b8p) false (xBuiltin .len #[51] 3 [false] [h6o])) L4 fun h6p Q3 =>
 oP E (gsem (asB b8p) false (fA 73 x7 2)) Q3 fun h6q R5 =>
 oP E (gsem (asB b8p) false (lA 51 h6q)) R5 fun h6r Q5 =>
 oP E (gsem (asB b8p) false (xBuiltin .len #[51] 3 [false] [h6r])) Q5 fun h6s V0 =>
 oP E (gsem (asB b8p) false (xBin .neq 3 (.tmp 53) (.tmp 56) h6p h6s)) V0 fun h6t T2 =>
 oP E (xPick b8p (vB true) h6t) T2 fun c0p T7 =>
 oP E (gsem (asB c0p) false (fA 73 x6 4)) T7 fun h6u Z0 =>
 oP E (gsem (asB c0p) false (lA 23 h6u)) Z0 fun h6v Z1 =>
 oP E (gsem (asB c0p) false (fA 73 x7 4)) Z1 fun h6w Z2 =>
 oP E (gsem (asB c0p) false (lA 23 h6w)) Z2 fun h6x X1 =>
 oP E (gsem (asB c0p) false (xCall (fC 30) [h6v, h6x])) X1 fun h6y Y5 =>
 oP E (gsem (asB c0p) false (xV (Op.unary .not h6y))) Y5 fun h6z a0f =>
 oP E (xPick c0p (vB true) h6z) a0f fun c0q Z3 =>
 oP E (gsem (asB c0q) false (fA 73 x6 5)) Z3 fun h6A a0g =>
 oP E (gsem (asB c0q) false (lA 23 h6A)) a0g fun h6B Z4 =>
 oP E (gsem (asB c0q) false (fA 73 x7 5)) Z4 fun h6C a1Q =>
 oP E (gsem (asB c0q) false (lA 23 h6C)) a1Q fun h6D a2K =>
 oP E (gsem (asB c0q) false (xCall (fC 30) [h6B, h6D])) a2K fun h6E V4 =>
 oP E (gsem (asB c0q) false (xV (Op.unary .not h6E))) V4 fun h6F a3u =>
 oP E (xPick c0q (vB true) h6F) a3u fun h6G a6m =>
 xcond h6G
 (R (vB false) a6m)
 (xcut (fun _ a7o => e0o x0 x1 x5 x6 x7 a7o j3 R E) fun j5 =>
 xloop [8] [(vI 0)] a6m fun τ_147 b3h next7 =>
 f5E x0 x1 x5 x6 x7 (τ_147 8) b3h next7 j5 R E))
def f5F (x0 x1 x5 : Value) (w : World) (next2 : NT) (j1 : NT) (R : RT) (E : Pan) : Prop :=
 oP E (xBuiltin .len #[23] 3 [false] [x0]) w fun d3G p5 =>
 oP E (xBin .lss 3 (.tmp 15) (.tmp 17) x5 d3G) p5 fun e0r q8 =>
 xcond e0r
 (xcut (fun _ r8 => e0j x0 x1 x5 r8 next2 R E) fun j3 =>
 xcut (fun d8y b9o => e0p x0 x1 x5 (nth d8y 0) (nth d8y.tail 0) b9o j3 R E) fun j4 =>
 dX q8 fun b2j =>
 qP Tryz.prog (iA 23 x0 x5) fun b9V =>
 qP Tryz.prog (iA 23 x1 x5) fun b4Z =>
 qL Tryz.prog b2j (blk b9V) (lA 73 b9V) fun e6v =>
 qL Tryz.prog b2j (blk b4Z) (lA 73 b4Z) fun e6w =>
 (oP E (xV (Instr.alloc 73 true (.tuple #[]))) b2j fun f5G c2L =>
 keepX [(blk b4Z), (blk b9V)] b2j c2L (opK Tryz.prog E (xV (Instr.alloc 73 true (.tuple #[]))) c2L fun f5H c2M =>
 keepX [(blk b4Z), (blk b9V)] c2L c2M (opK Tryz.prog E (sA 73 f5G e6v) c2M fun _z_160 b5y =>
 keepX [(blk b4Z)] c2M b5y (opK Tryz.prog E (sA 73 f5H e6w) b5y fun _z_162 c9V =>
 keepX [] b5y c9V (j4 [f5G, f5H] c9V))))) ∧
 (oP E (xV (Instr.alloc 73 true (.tuple #[]))) b2j fun f5I a9v =>
 keepX [(blk b4Z), (blk b9V)] b2j a9v (opK Tryz.prog E (xV (Instr.alloc 73 true (.tuple #[]))) a9v fun f5J c9W =>
 keepX [(blk b4Z), (blk b9V)] a9v c9W (opK Tryz.prog E (sA 73 f5J e6v) c9W fun _z_168 d3H =>
 keepX [(blk b4Z)] c9W d3H (opK Tryz.prog E (sA 73 f5I e6w) d3H fun _z_170 d8z =>
 keepX [] d3H d8z (j4 [f5J, f5I] d8z))))))
 (j1 [] q8)
def F30 (x0 x1 : Value) (w : World) (R : RT) (E : Pan) : Prop :=
 oP E (xBuiltin .len #[23] 3 [false] [x0]) w fun e8d w_2 =>
 oP E (xBuiltin .len #[23] 3 [false] [x1]) w_2 fun c5w w_4 =>
 oP E (xBin .neq 3 (.tmp 11) (.tmp 13) e8d c5w) w_4 fun b4d w_6 =>
 xcond b4d
 (R (vB false) w_6)
 (xcut (fun _ w_8 => e0i w_8 R E) fun j1 =>
 xloop [5] [(vI 0)] w_6 fun τ_172 d3I next2 =>
 f5F x0 x1 (τ_172 5) d3I next2 j1 R E)
noncomputable def c30 : Code := Tryz.f30.body.getD .skip
def h30 : Hint := (sQ (.seq (sQ (.cond (sQ .none) .none)) (.cut [] (sQ (.block (.loop [5] (.seq (sQ (.cond .none .none)) (.cut [] (.block (.cut [6, 7] (.reg [(0, 2097152, 1), (0, 4194304, 32), (3, 8388608, 6291456), (4, 16777216, 8388608), (0, 33554432, 2), (0, 67108864, 32), (48, 134217728, 100663296), (64, 268435456, 134217728), (0, 64, 0), (0, 128, 0), (783, 0, 16777280), (2047, 0, 268435584)] [136, 136, 136, 128, 136, 136, 136, 8, 136, 136, 128, 0] (.early 0 (.early 1 (.early 2 (.early 4 (.early 5 (.early 6 (.load 3 (.load 7 (.alt 8 (.step 9 (.step 10 (.step 11 .done))) (.step 9 (.step 8 (.step 10 (.step 11 .done)))))))))))))) (.seq (sQ (.cond (sQ .none) .none)) (.cut [] (sQ (.block (.loop [8] (.seq (sQ (.cond .none .none)) (.seq (.block (.seq (.reg [(0, 4835703278458516698824704, 64), (1, 9671406556917033397649408, 4835703278458516698824704), (0, 19342813113834066795298816, 256), (6, 38685626227668133590597632, 29014219670751100192948224), (8, 77371252455336267181195264, 38685626227668133590597632), (0, 154742504910672534362390528, 128), (32, 309485009821345068724781056, 154742504910672534362390528), (0, 618970019642690137449562112, 256), (192, 1237940039285380274899124224, 928455029464035206174343168), (256, 2475880078570760549798248448, 1237940039285380274899124224), (528, 4951760157141521099596496896, 2553251331026096816979443712), (1024, 9903520314283042199192993792, 4951760157141521099596496896)] [594, 592, 594, 594, 578, 594, 530, 594, 594, 82, 0, 594] (.early 0 (.early 2 (.early 5 (.early 7 (.load 1 (.early 3 (.load 4 (.load 6 (.early 8 (.load 9 (.step 10 (.early 11 .done))))))))))))) (.cond (sQ .none) .none))) .none))))) (sQ (.block (.loop [9] (.seq (sQ (.cond .none .none)) (.seq (.block (.seq (.reg [(0, 2535301200456458802993406410752, 64), (1, 5070602400912917605986812821504, 2535301200456458802993406410752), (0, 10141204801825835211973625643008, 512), (6, 20282409603651670423947251286016, 15211807202738752817960438464512), (8, 40564819207303340847894502572032, 20282409603651670423947251286016), (0, 81129638414606681695789005144064, 128), (32, 162259276829213363391578010288128, 81129638414606681695789005144064), (0, 324518553658426726783156020576256, 512), (192, 649037107316853453566312041152512, 486777830487640090174734030864384), (256, 1298074214633706907132624082305024, 649037107316853453566312041152512), (528, 2596148429267413814265248164610048, 1338639033841010247980518584877056), (1024, 5192296858534827628530496329220096, 2596148429267413814265248164610048)] [594, 592, 594, 594, 578, 594, 530, 594, 594, 82, 0, 594] (.early 0 (.early 2 (.early 5 (.early 7 (.load 1 (.early 3 (.load 4 (.load 6 (.early 8 (.load 9 (.step 10 (.early 11 .done))))))))))))) (.cond (sQ .none) .none))) .none))))))))) .none))))) (sQ .none))))
theorem h6H (x0 x1 : Value) (w : World) (R : RT) (E : Pan) : F30 x0 x1 w R E = callX Tryz.prog [.tmp 4] c30 h30 [x0, x1] w R E := by kernel_rfl
theorem h6I {x0 x1 : Value} (h : F30 x0 x1 w R E) : Cv Tryz.prog 30 #[x0, x1] w R E := by
 refine k3 (args := [x0, x1]) (c := c30) (h := h30) (rs := [.tmp 4]) Tryz.func30 (by kernel_rfl) (by kernel_rfl) (nB (by kernel_rfl)) (by kernel_rfl) (by kernel_rfl) (by kernel_rfl) ?_
 rw [← h6H]
 exact h
def F39 (x0 : Value) (w : World) (R : RT) (E : Pan) : Prop :=
 oP E (xV (Instr.box 53 x0)) w fun q7 w_2 =>
 oP E (lA 53 q7) w_2 fun a0o w_4 =>
 oP E (xV (Instr.build 136 #[(0, a0o)])) w_4 fun a6l w_6 =>
 oP E (xV (Instr.makeInterface 136 a6l)) w_6 fun a9T w_8 =>
 oP E (xV (Instr.buildSlice 137 1 #[(0, a9T)])) w_8 fun b2v p5 =>
 oP E (xCall (fC 65) [b2v]) p5 fun X5 q8 =>
 oP E (xNil X5) q8 fun b9p p6 =>
 oP E (fA 101 b9p 2) p6 fun e8e r8 =>
 oP E (lA 27 e8e) r8 fun c0r s8 =>
 R c0r s8
noncomputable def c39 : Code := Tryz.f39.body.getD .skip
def h39 : Hint := (sQ (sQ .none))
theorem h6J (x0 : Value) (w : World) (R : RT) (E : Pan) : F39 x0 w R E = callX Tryz.prog [.tmp 2] c39 h39 [x0] w R E := by kernel_rfl
theorem h6K {x0 : Value} (h : F39 x0 w R E) : Cv Tryz.prog 39 #[x0] w R E := by
 refine k3 (args := [x0]) (c := c39) (h := h39) (rs := [.tmp 2]) Tryz.func39 (by kernel_rfl) (by kernel_rfl) (nB (by kernel_rfl)) (by kernel_rfl) (by kernel_rfl) (by kernel_rfl) ?_
 rw [← h6J]
 exact h
def F43 (x0 : Value) (w : World) (R : RT) (E : Pan) : Prop :=
 oP E (xV (Instr.box 25 x0)) w fun q7 w_2 =>
 dX w_2 fun w_3 =>
 qP Tryz.prog (fA 25 q7 0) fun d6q =>
 qP Tryz.prog (fA 25 q7 1) fun a8D =>
 qL Tryz.prog w_3 (blk d6q) (lA 22 d6q) fun k0G =>
 qL Tryz.prog w_3 (blk a8D) (lA 23 a8D) fun a7R =>
 oP E (xCall (fC 76) [k0G, (fC 77)]) w_3 fun d1T w_9 =>
 keepX [(blk a8D)] w_3 w_9 (opK Tryz.prog E (xCall (fC 78) [a7R, (fC 79)]) w_9 fun e8f P0 =>
 keepX [] w_9 P0 (opK Tryz.prog E (xV (Instr.buildSlice 179 2 #[(0, d1T), (1, e8f)])) P0 fun c5x a2s =>
 keepX [] P0 a2s (opK Tryz.prog E (xCall (fC 75) [c5x]) a2s fun e0s c0s =>
 keepX [] a2s c0s (opK Tryz.prog E (xCall (fC 65) [e0s]) c0s fun b5z a1B =>
 keepX [] c0s a1B (R b5z a1B)))))
noncomputable def c43 : Code := Tryz.f43.body.getD .skip
def h43 : Hint := (sQ (.seq (.reg [(0, 8, 2), (1, 16, 8), (2, 32, 16), (0, 64, 2), (8, 128, 64), (20, 256, 128), (36, 512, 288), (96, 1024, 512), (128, 2048, 1024), (511, 4, 2048)] [18, 16, 16, 18, 2, 0, 0, 0, 0, 18] (.early 0 (.early 3 (.load 1 (.load 4 (.step 2 (.step 5 (.step 6 (.step 7 (.step 8 (.early 9 .done))))))))))) .none))
theorem h6L (x0 : Value) (w : World) (R : RT) (E : Pan) : F43 x0 w R E = callX Tryz.prog [.tmp 2] c43 h43 [x0] w R E := by kernel_rfl
theorem h6M {x0 : Value} (h : F43 x0 w R E) : Cv Tryz.prog 43 #[x0] w R E := by
 refine k3 (args := [x0]) (c := c43) (h := h43) (rs := [.tmp 2]) Tryz.func43 (by kernel_rfl) (by kernel_rfl) (nB (by kernel_rfl)) (by kernel_rfl) (by kernel_rfl) (by kernel_rfl) ?_
 rw [← h6L]
 exact h
def e0t (x2 x3 : Value) (w : World) (R : RT) (E : Pan) : Prop :=
 ∀ _τ : Fr, (oP E (lA 108 x3) w fun e0u q8 =>
 oP E (sA 108 x2 e0u) q8 fun _z_13 p6 =>
 xcell Tryz.prog 108 x2 p6 fun b6R =>
 R b6R p6)
def f5K (x1 _x2 x3 x5 : Value) (w : World) (next3 : NT) (j2 : NT) (_R : RT) (E : Pan) : Prop :=
 oP E (fA 25 x1 1) w fun h6N a1R =>
 oP E (lA 23 h6N) a1R fun h6O a5B =>
 oP E (xBuiltin .len #[23] 3 [false] [h6O]) a5B fun h6P b0C =>
 oP E (xBin .lss 3 (.tmp 20) (.tmp 23) x5 h6P) b0C fun d3J b6S =>
 oP E (gsem (asB d3J) true (fA 108 x3 2)) b6S fun h6Q a3k =>
 oP E (gsem (asB d3J) true (lA 3 h6Q)) a3k fun h6R a4y =>
 oP E (gsem (asB d3J) true (xBin .eql 3 (.tmp 27) (.const (vI 0)) h6R (vI 0))) a4y fun h6S b2w =>
 oP E (xPick d3J h6S (vB false)) b2w fun h6T b6T =>
 xcond h6T
 (oP E (fA 25 x1 1) b6T fun h6U b6U =>
 oP E (lA 23 h6U) b6U fun h6V b2x =>
 oP E (iA 23 h6V x5) b2x fun h6W b8J =>
 oP E (lA 73 h6W) b8J fun h6X b8K =>
 oP E (xCall (fC 85) [x3, h6X, (vI 1)]) b8K fun _t37_42 b3E =>
 oP E (xBin .add 3 (.tmp 30) (.const (vI 1)) x5 (vI 1)) b3E fun h6Y c0t =>
 next3 [h6Y] c0t)
 (j2 [] b6T)
def e0v (x1 x2 x3 : Value) (w : World) (R : RT) (E : Pan) : Prop :=
 ∀ _τ : Fr, (xcut (fun _ a1B => e0t x2 x3 a1B R E) fun j2 =>
 xloop [5] [(vI 0)] w fun τ_46 b5A next3 =>
 f5K x1 x2 x3 (τ_46 5) b5A next3 j2 R E)
def f5L (x1 _x2 x3 x4 : Value) (w : World) (next4 : NT) (j1 : NT) (_R : RT) (E : Pan) : Prop :=
 oP E (fA 25 x1 0) w fun j3Y c8m =>
 oP E (lA 22 j3Y) c8m fun j3Z d6r =>
 oP E (xBuiltin .len #[22] 3 [false] [j3Z]) d6r fun h6Z c3w =>
 oP E (xBin .lss 3 (.tmp 7) (.tmp 10) x4 h6Z) c3w fun d3K c3x =>
 oP E (gsem (asB d3K) true (fA 108 x3 2)) c3x fun h7a b1c =>
 oP E (gsem (asB d3K) true (lA 3 h7a)) b1c fun h7b c3y =>
 oP E (gsem (asB d3K) true (xBin .eql 3 (.tmp 14) (.const (vI 0)) h7b (vI 0))) c3y fun h7c d6s =>
 oP E (xPick d3K h7c (vB false)) d6s fun h7d b4k =>
 xcond h7d
 (oP E (xCall (fC 84) [x3, (vI 1)]) b4k fun _t19_66 b8L =>
 oP E (xBin .add 3 (.tmp 17) (.const (vI 1)) x4 (vI 1)) b8L fun h7e b6V =>
 next4 [h7e] b6V)
 (j1 [] b4k)
def F47 (x0 : Value) (w : World) (R : RT) (E : Pan) : Prop :=
 oP E (xV (Instr.box 25 x0)) w fun q7 w_2 =>
 oP E (xV (Instr.alloc 108 true (.tuple #[]))) w_2 fun K6 w_4 =>
 oP E (xV (Instr.build 108 #[])) w_4 fun a8D w_6 =>
 oP E (xV (Instr.alloc 108 true (.tuple #[]))) w_6 fun d1U w_8 =>
 oP E (sA 108 d1U a8D) w_8 fun _z_9 p5 =>
 xcut (fun _ c5y => e0v q7 K6 d1U c5y R E) fun j1 =>
 xloop [4] [(vI 0)] p5 fun τ_70 d1V next4 =>
 f5L q7 K6 d1U (τ_70 4) d1V next4 j1 R E
noncomputable def c47 : Code := Tryz.f47.body.getD .skip
def h47 : Hint := (sQ (sQ (.cut [] (sQ (.block (.loop [4] (.seq (sQ (.cond .none .none)) (.seq (.block .none) .none))))) (.cut [] (sQ (.block (.loop [5] (.seq (sQ (.cond .none .none)) (.seq (.block .none) .none))))) (sQ .none)))))
theorem h7f (x0 : Value) (w : World) (R : RT) (E : Pan) : F47 x0 w R E = callX Tryz.prog [.cell 2 108] c47 h47 [x0] w R E := by kernel_rfl
theorem h7g {x0 : Value} (h : F47 x0 w R E) : Cv Tryz.prog 47 #[x0] w R E := by
 refine k3 (args := [x0]) (c := c47) (h := h47) (rs := [.cell 2 108]) Tryz.func47 (by kernel_rfl) (by kernel_rfl) (nB (by kernel_rfl)) (by kernel_rfl) (by kernel_rfl) (by kernel_rfl) ?_
 rw [← h7f]
 exact h
def e0w (w : World) (R : RT) (_E : Pan) : Prop :=
 ∀ _τ : Fr, (R (vB true) w)
def f5M (x2 x3 x6 : Value) (w : World) (next3 : NT) (j2 : NT) (R : RT) (E : Pan) : Prop :=
 oP E (fA 59 x2 3) w fun h7h R5 =>
 oP E (lA 57 h7h) R5 fun h7i Q5 =>
 oP E (xBuiltin .len #[57] 3 [false] [h7i]) Q5 fun h7j V0 =>
 oP E (xBin .lss 3 (.tmp 56) (.tmp 59) x6 h7j) V0 fun h7k T2 =>
 xcond h7k
 (dX T2 fun b6V =>
 qP Tryz.prog (fA 59 x2 3) fun f5N =>
 qP Tryz.prog (fA 59 x3 3) fun f5O =>
 qL Tryz.prog b6V (blk f5N) (lA 57 f5N) fun h7l =>
 qP Tryz.prog (iA 57 h7l x6) fun f5P =>
 qL Tryz.prog b6V (blk f5P) (lA 59 f5P) fun h7m =>
 qL Tryz.prog b6V (blk f5O) (lA 57 f5O) fun b5B =>
 qP Tryz.prog (iA 57 b5B x6) fun f5Q =>
 qL Tryz.prog b6V (blk f5Q) (lA 59 f5Q) fun e0x =>
 oP E (xCall (fC 52) [h7m, e0x]) b6V fun h7n b8M =>
 keepX [] b6V b8M (qP Tryz.prog (xV (Op.unary .not h7n)) fun h7o =>
 xcond h7o
 (R (vB false) b8M)
 (oP E (xBin .add 3 (.tmp 61) (.const (vI 1)) x6 (vI 1)) b8M fun h7p a0f =>
 next3 [h7p] a0f)))
 (j2 [] T2)
def e0y (x2 x3 : Value) (w : World) (R : RT) (E : Pan) : Prop :=
 ∀ _τ : Fr, (xcut (fun _ Q3 => e0w Q3 R E) fun j2 =>
 xloop [6] [(vI 0)] w fun τ_83 Z3 next3 =>
 f5M x2 x3 (τ_83 6) Z3 next3 j2 R E)
def f5R (x2 x3 x5 : Value) (w : World) (next4 : NT) (j1 : NT) (R : RT) (E : Pan) : Prop :=
 oP E (fA 59 x2 2) w fun h7q Z4 =>
 oP E (lA 51 h7q) Z4 fun h7r a1Q =>
 oP E (xBuiltin .len #[51] 3 [false] [h7r]) a1Q fun h7s a2K =>
 oP E (xBin .lss 3 (.tmp 37) (.tmp 40) x5 h7s) a2K fun h7t V4 =>
 xcond h7t
 (dX V4 fun c3z =>
 qP Tryz.prog (fA 59 x2 2) fun f5S =>
 qP Tryz.prog (fA 59 x3 2) fun f5T =>
 qL Tryz.prog c3z (blk f5S) (lA 51 f5S) fun h7u =>
 qP Tryz.prog (iA 51 h7u x5) fun f5U =>
 qL Tryz.prog c3z (blk f5U) (lA 53 f5U) fun g7j =>
 qL Tryz.prog c3z (blk f5T) (lA 51 f5T) fun g7k =>
 qP Tryz.prog (iA 51 g7k x5) fun e6x =>
 qL Tryz.prog c3z (blk e6x) (lA 53 e6x) fun g7l =>
 oP E (xCall (fC 53) [g7j, g7l]) c3z fun g7m b9q =>
 keepX [] c3z b9q (qP Tryz.prog (xV (Op.unary .not g7m)) fun g7n =>
 xcond g7n
 (R (vB false) b9q)
 (oP E (xBin .add 3 (.tmp 42) (.const (vI 1)) x5 (vI 1)) b9q fun d6t a7p =>
 next4 [d6t] a7p)))
 (j1 [] V4)
def F52 (x0 x1 : Value) (w : World) (R : RT) (E : Pan) : Prop :=
 oP E (xV (Instr.box 59 x0)) w fun U3 w_2 =>
 oP E (xV (Instr.box 59 x1)) w_2 fun a0o w_4 =>
 oP E (fA 59 U3 0) w_4 fun b2y w_6 =>
 oP E (lA 3 b2y) w_6 fun b1Z w_8 =>
 oP E (fA 59 a0o 0) w_8 fun b8N p5 =>
 oP E (lA 3 b8N) p5 fun b3T q8 =>
 oP E (xBin .neq 3 (.tmp 8) (.tmp 10) b1Z b3T) q8 fun a9u p6 =>
 oP E (gsem (asB a9u) false (fA 59 U3 1)) p6 fun b0D r8 =>
 oP E (gsem (asB a9u) false (lA 3 b0D)) r8 fun b2z s8 =>
 oP E (gsem (asB a9u) false (fA 59 a0o 1)) s8 fun a4O r9 =>
 oP E (gsem (asB a9u) false (lA 3 a4O)) r9 fun a6d u7 =>
 oP E (gsem (asB a9u) false (xBin .neq 3 (.tmp 14) (.tmp 16) b2z a6d)) u7 fun b5w u4 =>
 oP E (xPick a9u (vB true) b5w) u4 fun a4P z2 =>
 oP E (gsem (asB a4P) false (fA 59 U3 2)) z2 fun h7v B3 =>
 oP E (gsem (asB a4P) false (lA 51 h7v)) B3 fun e0z C4 =>
 oP E (gsem (asB a4P) false (xBuiltin .len #[51] 3 [false] [e0z])) C4 fun e0A B6 =>
 oP E (gsem (asB a4P) false (fA 59 a0o 2)) B6 fun c8n A6 =>
 oP E (gsem (asB a4P) false (lA 51 c8n)) A6 fun c0l I7 =>
 oP E (gsem (asB a4P) false (xBuiltin .len #[51] 3 [false] [c0l])) I7 fun a8E C7 =>
 oP E (gsem (asB a4P) false (xBin .neq 3 (.tmp 22) (.tmp 25) e0A a8E)) C7 fun c0m I4 =>
 oP E (xPick a4P (vB true) c0m) I4 fun a6e E8 =>
 oP E (gsem (asB a6e) false (fA 59 U3 3)) E8 fun e0B E4 =>
 oP E (gsem (asB a6e) false (lA 57 e0B)) E4 fun e0C N1 =>
 oP E (gsem (asB a6e) false (xBuiltin .len #[57] 3 [false] [e0C])) N1 fun e0D M6 =>
 oP E (gsem (asB a6e) false (fA 59 a0o 3)) M6 fun e0E L8 =>
 oP E (gsem (asB a6e) false (lA 57 e0E)) L8 fun c8o N0 =>
 oP E (gsem (asB a6e) false (xBuiltin .len #[57] 3 [false] [c8o])) N0 fun e0F K5 =>
 oP E (gsem (asB a6e) false (xBin .neq 3 (.tmp 31) (.tmp 34) e0D e0F)) K5 fun c8p N4 =>
 oP E (xPick a6e (vB true) c8p) N4 fun c8q L4 =>
 xcond c8q
 (R (vB false) L4)
 (xcut (fun _ a0g => e0y U3 a0o a0g R E) fun j1 =>
 xloop [5] [(vI 0)] L4 fun τ_109 a7T next4 =>
 f5R U3 a0o (τ_109 5) a7T next4 j1 R E)
noncomputable def c52 : Code := Tryz.f52.body.getD .skip
def h52 : Hint := (sQ (.seq (sQ (.cond (sQ .none) .none)) (.cut [] (sQ (.block (.loop [5] (.seq (sQ (.cond .none .none)) (.seq (.block (.seq (.reg [(0, 17592186044416, 4), (1, 35184372088832, 17592186044416), (0, 70368744177664, 32), (6, 140737488355328, 105553116266496), (8, 281474976710656, 140737488355328), (0, 562949953421312, 8), (32, 1125899906842624, 562949953421312), (0, 2251799813685248, 32), (192, 4503599627370496, 3377699720527872), (256, 9007199254740992, 4503599627370496), (528, 18014398509481984, 9288674231451648), (1024, 36028797018963968, 18014398509481984)] [594, 592, 594, 594, 578, 594, 530, 594, 594, 82, 0, 594] (.early 0 (.early 2 (.early 5 (.early 7 (.load 1 (.early 3 (.load 4 (.load 6 (.early 8 (.load 9 (.step 10 (.early 11 .done))))))))))))) (.cond (sQ .none) .none))) .none))))) (.cut [] (sQ (.block (.loop [6] (.seq (sQ (.cond .none .none)) (.seq (.block (.seq (.reg [(0, 9223372036854775808, 4), (1, 18446744073709551616, 9223372036854775808), (0, 36893488147419103232, 64), (6, 73786976294838206464, 55340232221128654848), (8, 147573952589676412928, 73786976294838206464), (0, 295147905179352825856, 8), (32, 590295810358705651712, 295147905179352825856), (0, 1180591620717411303424, 64), (192, 2361183241434822606848, 1770887431076116955136), (256, 4722366482869645213696, 2361183241434822606848), (528, 9444732965739290427392, 4869940435459321626624), (1024, 18889465931478580854784, 9444732965739290427392)] [594, 592, 594, 594, 578, 594, 530, 594, 594, 82, 0, 594] (.early 0 (.early 2 (.early 5 (.early 7 (.load 1 (.early 3 (.load 4 (.load 6 (.early 8 (.load 9 (.step 10 (.early 11 .done))))))))))))) (.cond (sQ .none) .none))) .none))))) (sQ .none)))))
theorem h7w (x0 x1 : Value) (w : World) (R : RT) (E : Pan) : F52 x0 x1 w R E = callX Tryz.prog [.tmp 4] c52 h52 [x0, x1] w R E := by kernel_rfl
theorem h7x {x0 x1 : Value} (h : F52 x0 x1 w R E) : Cv Tryz.prog 52 #[x0, x1] w R E := by
 refine k3 (args := [x0, x1]) (c := c52) (h := h52) (rs := [.tmp 4]) Tryz.func52 (by kernel_rfl) (by kernel_rfl) (nB (by kernel_rfl)) (by kernel_rfl) (by kernel_rfl) (by kernel_rfl) ?_
 rw [← h7w]
 exact h
def e0G (w : World) (R : RT) (_E : Pan) : Prop :=
 ∀ _τ : Fr, (R (vB true) w)
def f5V (x2 x3 x5 : Value) (w : World) (next2 : NT) (j1 : NT) (R : RT) (E : Pan) : Prop :=
 oP E (fA 53 x2 3) w fun e0d L4 =>
 oP E (lA 51 e0d) L4 fun h7y Q3 =>
 oP E (xBuiltin .len #[51] 3 [false] [h7y]) Q3 fun h7z R5 =>
 oP E (xBin .lss 3 (.tmp 34) (.tmp 37) x5 h7z) R5 fun h7A Q5 =>
 xcond h7A
 (dX Q5 fun b4k =>
 qP Tryz.prog (fA 53 x2 3) fun f5W =>
 qP Tryz.prog (fA 53 x3 3) fun f5X =>
 qL Tryz.prog b4k (blk f5W) (lA 51 f5W) fun h7B =>
 qP Tryz.prog (iA 51 h7B x5) fun f5Y =>
 qL Tryz.prog b4k (blk f5Y) (lA 53 f5Y) fun h7C =>
 qL Tryz.prog b4k (blk f5X) (lA 51 f5X) fun h7D =>
 qP Tryz.prog (iA 51 h7D x5) fun f5Z =>
 qL Tryz.prog b4k (blk f5Z) (lA 53 f5Z) fun h7E =>
 oP E (xCall (fC 53) [h7C, h7E]) b4k fun h7F d6u =>
 keepX [] b4k d6u (qP Tryz.prog (xV (Op.unary .not h7F)) fun h7G =>
 xcond h7G
 (R (vB false) d6u)
 (oP E (xBin .add 3 (.tmp 39) (.const (vI 1)) x5 (vI 1)) d6u fun h7H X1 =>
 next2 [h7H] X1)))
 (j1 [] Q5)
def F53 (x0 x1 : Value) (w : World) (R : RT) (E : Pan) : Prop :=
 oP E (xV (Instr.box 53 x0)) w fun U3 w_2 =>
 oP E (xV (Instr.box 53 x1)) w_2 fun a0o w_4 =>
 oP E (fA 53 U3 0) w_4 fun a8D w_6 =>
 oP E (lA 3 a8D) w_6 fun a7R w_8 =>
 oP E (fA 53 a0o 0) w_8 fun a6Z p5 =>
 oP E (lA 3 a6Z) p5 fun a4S q8 =>
 oP E (xBin .neq 3 (.tmp 7) (.tmp 9) a7R a4S) q8 fun a9w p6 =>
 oP E (gsem (asB a9w) false (fA 53 U3 1)) p6 fun b5v r8 =>
 oP E (gsem (asB a9w) false (lA 2 b5v)) r8 fun a3i s8 =>
 oP E (gsem (asB a9w) false (fA 53 a0o 1)) s8 fun e0H r9 =>
 oP E (gsem (asB a9w) false (lA 2 e0H)) r9 fun c8r u7 =>
 oP E (gsem (asB a9w) false (xBin .neq 2 (.tmp 13) (.tmp 15) a3i c8r)) u7 fun c0u u4 =>
 oP E (xPick a9w (vB true) c0u) u4 fun a9x z2 =>
 oP E (gsem (asB a9x) false (fA 53 U3 2)) z2 fun b2u B3 =>
 oP E (gsem (asB a9x) false (lA 9 b2u)) B3 fun c8l C4 =>
 oP E (gsem (asB a9x) false (fA 53 a0o 2)) C4 fun b3U B6 =>
 oP E (gsem (asB a9x) false (lA 9 b3U)) B6 fun b0B A6 =>
 oP E (gsem (asB a9x) false (xBin .neq 9 (.tmp 20) (.tmp 22) c8l b0B)) A6 fun e0I I7 =>
 oP E (xPick a9x (vB true) e0I) I7 fun b1S C7 =>
 oP E (gsem (asB b1S) false (fA 53 U3 3)) C7 fun c0m I4 =>
 oP E (gsem (asB b1S) false (lA 51 c0m)) I4 fun a6e E8 =>
 oP E (gsem (asB b1S) false (xBuiltin .len #[51] 3 [false] [a6e])) E8 fun e0f E4 =>
 oP E (gsem (asB b1S) false (fA 53 a0o 3)) E4 fun e0g N1 =>
 oP E (gsem (asB b1S) false (lA 51 e0g)) N1 fun e0h M6 =>
 oP E (gsem (asB b1S) false (xBuiltin .len #[51] 3 [false] [e0h])) M6 fun e0J L8 =>
 oP E (gsem (asB b1S) false (xBin .neq 3 (.tmp 28) (.tmp 31) e0f e0J)) L8 fun c8j N0 =>
 oP E (xPick b1S (vB true) c8j) N0 fun c8k K5 =>
 xcond c8k
 (R (vB false) K5)
 (xcut (fun _ N4 => e0G N4 R E) fun j1 =>
 xloop [5] [(vI 0)] K5 fun τ_79 Y5 next2 =>
 f5V U3 a0o (τ_79 5) Y5 next2 j1 R E)
noncomputable def c53 : Code := Tryz.f53.body.getD .skip
def h53 : Hint := (sQ (.seq (sQ (.cond (sQ .none) .none)) (.cut [] (sQ (.block (.loop [5] (.seq (sQ (.cond .none .none)) (.seq (.block (.seq (.reg [(0, 2199023255552, 4), (1, 4398046511104, 2199023255552), (0, 8796093022208, 32), (6, 17592186044416, 13194139533312), (8, 35184372088832, 17592186044416), (0, 70368744177664, 8), (32, 140737488355328, 70368744177664), (0, 281474976710656, 32), (192, 562949953421312, 422212465065984), (256, 1125899906842624, 562949953421312), (528, 2251799813685248, 1161084278931456), (1024, 4503599627370496, 2251799813685248)] [594, 592, 594, 594, 578, 594, 530, 594, 594, 82, 0, 594] (.early 0 (.early 2 (.early 5 (.early 7 (.load 1 (.early 3 (.load 4 (.load 6 (.early 8 (.load 9 (.step 10 (.early 11 .done))))))))))))) (.cond (sQ .none) .none))) .none))))) (sQ .none))))
theorem h7I (x0 x1 : Value) (w : World) (R : RT) (E : Pan) : F53 x0 x1 w R E = callX Tryz.prog [.tmp 4] c53 h53 [x0, x1] w R E := by kernel_rfl
theorem h7J {x0 x1 : Value} (h : F53 x0 x1 w R E) : Cv Tryz.prog 53 #[x0, x1] w R E := by
 refine k3 (args := [x0, x1]) (c := c53) (h := h53) (rs := [.tmp 4]) Tryz.func53 (by kernel_rfl) (by kernel_rfl) (nB (by kernel_rfl)) (by kernel_rfl) (by kernel_rfl) (by kernel_rfl) ?_
 rw [← h7I]
 exact h
def e0K (x3 : Value) (w : World) (R : RT) (E : Pan) : Prop :=
 ∀ _τ : Fr, (oP E (lA 102 x3) w fun b8q r8 =>
 R b8q r8)
def F65 (x0 : Value) (w : World) (R : RT) (E : Pan) : Prop :=
 oP E (xV (Instr.build 101 #[])) w fun b3F w_2 =>
 oP E (xV (Instr.box 101 b3F)) w_2 fun b1d w_4 =>
 oP E (xV (Instr.alloc 102 true (.tuple #[]))) w_4 fun c5z w_6 =>
 oP E (sA 102 c5z b1d) w_6 fun _z_7 w_8 =>
 oP E (xV (Instr.alloc 170 true (.tuple #[]))) w_8 fun f8N p5 =>
 oP E (xV (Instr.makeFunc (.func 110) #[] #[c5z, f8N])) p5 fun c5A q8 =>
 oP E (sA 170 f8N c5A) q8 fun _z_13 p6 =>
 xcut (fun _ s8 => e0K c5z s8 R E) fun j1 =>
 oP E (lA 170 f8N) p6 fun j4a r9 =>
 oP E (xCall j4a [x0, (vI 1)]) r9 fun d3L u7 =>
 oP E (xV (Op.unary .not d3L)) u7 fun e0L u4 =>
 xcond e0L
 (j1 [] u4)
 (oP E (lA 102 c5z) u4 fun e0M z2 =>
 oP E (xNil e0M) z2 fun c8s B3 =>
 oP E (fA 101 c8s 3) B3 fun c4r C4 =>
 oP E (lA 4 c4r) C4 fun c8t B6 =>
 xcond c8t
 (oP E (lA 102 c5z) B6 fun c0v A6 =>
 oP E (xNil c0v) A6 fun e0N I7 =>
 oP E (fA 101 e0N 2) I7 fun e0O C7 =>
 oP E (sA 27 e0O (vI 30)) C7 fun _z_39 I4 =>
 j1 [] I4)
 (oP E (lA 102 c5z) B6 fun e0P E8 =>
 oP E (xNil e0P) E8 fun c0w E4 =>
 oP E (fA 101 c0w 4) E4 fun h7K N1 =>
 oP E (lA 4 h7K) N1 fun h7L M6 =>
 xcond h7L
 (oP E (lA 102 c5z) M6 fun h7M L8 =>
 oP E (xNil h7M) L8 fun h7N N0 =>
 oP E (fA 101 h7N 2) N0 fun h7O K5 =>
 oP E (sA 27 h7O (vI 31)) K5 fun _z_55 N4 =>
 j1 [] N4)
 (j1 [] M6)))
noncomputable def c65 : Code := Tryz.f65.body.getD .skip
def h65 : Hint := (sQ (sQ (sQ (sQ (.cut [] (sQ (.block (sQ (.cond .none (sQ (.cond .none (sQ (.cond .none .none)))))))) (sQ .none))))))
theorem h7P (x0 : Value) (w : World) (R : RT) (E : Pan) : F65 x0 w R E = callX Tryz.prog [.tmp 2] c65 h65 [x0] w R E := by kernel_rfl
theorem h7Q {x0 : Value} (h : F65 x0 w R E) : Cv Tryz.prog 65 #[x0] w R E := by
 refine k3 (args := [x0]) (c := c65) (h := h65) (rs := [.tmp 2]) Tryz.func65 (by kernel_rfl) (by kernel_rfl) (nB (by kernel_rfl)) (by kernel_rfl) (by kernel_rfl) (by kernel_rfl) ?_
 rw [← h7P]
 exact h
def e0Q (x6 : Value) (w : World) (R : RT) (_E : Pan) : Prop :=
 ∀ _τ : Fr, (R x6 w)
def f6a (x6 x25 x26 x27 : Value) (w : World) (next3 : NT) (j2 : NT) (_R : RT) (E : Pan) : Prop :=
 oP E (xBin .lss 3 (.tmp 27) (.tmp 26) x27 x26) w fun j4b w_8 =>
 xcond j4b
 (oP E (iA 179 x25 x27) w_8 fun j4c p5 =>
 oP E (lA 137 j4c) p5 fun h7R q8 =>
 oP E (xBuiltin .append #[137, 137] 137 [false, false] [x6, h7R]) q8 fun e0R p6 =>
 oP E (xBin .add 3 (.tmp 27) (.const (vI 1)) x27 (vI 1)) p6 fun e0S r8 =>
 next3 [e0R, e0S] r8)
 (j2 [x6] w_8)
def e0T (x0 x3 : Value) (w : World) (R : RT) (E : Pan) : Prop :=
 ∀ _τ : Fr, (oP E (xCall (fC 119) [(nS), x3]) w fun j4d w_2 =>
 xcut (fun l_3 w_4 => e0Q (nth l_3 0) w_4 R E) fun j2 =>
 oP E (xBuiltin .len #[179] 3 [false] [x0]) w_2 fun e8g w_6 =>
 xloop [6, 27] [j4d, (vI 0)] w_6 fun τ_17 s8 next3 =>
 f6a (τ_17 6) x0 e8g (τ_17 27) s8 next3 j2 R E)
def e0U (_x0 x3 _x9 _x10 x11 : Value) (w : World) (next4 : NT) (_R : RT) (E : Pan) : Prop :=
 ∀ _τ : Fr, (oP E (xBin .add 3 (.tmp 11) (.const (vI 1)) x11 (vI 1)) w fun d3M z2 =>
 next4 [x3, d3M] z2)
def f6b (x0 x3 x9 x10 x11 : Value) (w : World) (next4 : NT) (j1 : NT) (R : RT) (E : Pan) : Prop :=
 oP E (xBin .lss 3 (.tmp 11) (.tmp 10) x11 x10) w fun e0V u4 =>
 xcond e0V
 (xcut (fun d6v B3 => e0U x0 (nth d6v 0) x9 x10 x11 B3 next4 R E) fun j5 =>
 oP E (iA 179 x9 x11) u4 fun h7S C4 =>
 oP E (lA 137 h7S) C4 fun h7T B6 =>
 oP E (xBuiltin .len #[137] 3 [false] [h7T]) B6 fun e0W A6 =>
 oP E (xBin .add 3 (.tmp 15) (.tmp 17) x3 e0W) A6 fun c8u I7 =>
 oP E (xBin .lss 3 (.tmp 19) (.const (vI 0)) c8u (vI 0)) I7 fun h7U C7 =>
 xcond h7U
 (oP E (xV (Instr.makeInterface 9 (Value.string ⟨#[108, 101, 110, 32, 111, 117, 116, 32, 111, 102, 32, 114, 97, 110, 103, 101]⟩))) C7 fun h7V I4 =>
 oP E (xV (Instr.panic h7V)) I4 fun _z_41 E8 =>
 j5 [c8u] E8)
 (j5 [c8u] C7))
 (j1 [x3] u4)
def F75 (x0 : Value) (w : World) (R : RT) (E : Pan) : Prop :=
 xcut (fun a8Y r9 => e0T x0 (nth a8Y 0) r9 R E) fun j1 =>
 oP E (xBuiltin .len #[179] 3 [false] [x0]) w fun h7W u7 =>
 xloop [3, 11] [(vI 0), (vI 0)] u7 fun τ_43 E4 next4 =>
 f6b x0 (τ_43 3) x0 h7W (τ_43 11) E4 next4 j1 R E
noncomputable def c75 : Code := Tryz.f75.body.getD .skip
def h75 : Hint := (sQ (sQ (.cut [3] (sQ (.block (.loop [3, 11] (sQ (.seq (.cond .none .none) (.cut [3] (.block (sQ (sQ (sQ (.cond .none .none))))) .none)))))) (sQ (.cut [6] (sQ (.block (.loop [6, 27] (sQ (.seq (.cond .none .none) (.seq (.block (sQ .none)) .none)))))) (sQ .none))))))
theorem h7X (x0 : Value) (w : World) (R : RT) (E : Pan) : F75 x0 w R E = callX Tryz.prog [.tmp 2] c75 h75 [x0] w R E := by kernel_rfl
theorem h7Y {x0 : Value} (h : F75 x0 w R E) : Cv Tryz.prog 75 #[x0] w R E := by
 refine k3 (args := [x0]) (c := c75) (h := h75) (rs := [.tmp 2]) Tryz.func75 (by kernel_rfl) (by kernel_rfl) (nB (by kernel_rfl)) (by kernel_rfl) (by kernel_rfl) (by kernel_rfl) ?_
 rw [← h7X]
 exact h
def e0X (x5 : Value) (w : World) (R : RT) (_E : Pan) : Prop :=
 ∀ _τ : Fr, (R x5 w)
def f6c (x1 x5 x8 x9 x10 : Value) (w : World) (next2 : NT) (j1 : NT) (_R : RT) (E : Pan) : Prop :=
 oP E (xBin .lss 3 (.tmp 10) (.tmp 9) x10 x9) w fun a4T w_6 =>
 xcond a4T
 (oP E (iA 22 x8 x10) w_6 fun a1J w_8 =>
 oP E (lA 71 a1J) w_8 fun a6K p5 =>
 oP E (xV (Instr.alloc 71 true (.tuple #[]))) p5 fun X5 q8 =>
 oP E (sA 71 X5 a6K) q8 fun _z_13 p6 =>
 oP E (lA 71 X5) p6 fun a7a r8 =>
 oP E (xCall x1 [a7a]) r8 fun a7b s8 =>
 oP E (xV (Instr.buildSlice 137 1 #[(0, a7b)])) s8 fun a4U r9 =>
 oP E (xBuiltin .append #[137, 137] 137 [false, false] [x5, a4U]) r9 fun a7c u7 =>
 oP E (xBin .add 3 (.tmp 10) (.const (vI 1)) x10 (vI 1)) u7 fun a4V u4 =>
 next2 [a7c, a4V] u4)
 (j1 [x5] w_6)
def F76 (x0 x1 : Value) (w : World) (R : RT) (E : Pan) : Prop :=
 xcut (fun l_1 w_2 => e0X (nth l_1 0) w_2 R E) fun j1 =>
 oP E (xBuiltin .len #[22] 3 [false] [x0]) w fun a6n w_4 =>
 xloop [5, 10] [(nS), (vI 0)] w_4 fun τ_25 z2 next2 =>
 f6c x1 (τ_25 5) x0 a6n (τ_25 10) z2 next2 j1 R E
noncomputable def c76 : Code := Tryz.f76.body.getD .skip
def h76 : Hint := (sQ (sQ (.cut [5] (sQ (.block (.loop [5, 10] (sQ (.seq (.cond .none .none) (.seq (.block (sQ .none)) .none)))))) (sQ .none))))
theorem h7Z (x0 x1 : Value) (w : World) (R : RT) (E : Pan) : F76 x0 x1 w R E = callX Tryz.prog [.tmp 4] c76 h76 [x0, x1] w R E := by kernel_rfl
theorem h8a {x0 x1 : Value} (h : F76 x0 x1 w R E) : Cv Tryz.prog 76 #[x0, x1] w R E := by
 refine k3 (args := [x0, x1]) (c := c76) (h := h76) (rs := [.tmp 4]) Tryz.func76 (by kernel_rfl) (by kernel_rfl) (nB (by kernel_rfl)) (by kernel_rfl) (by kernel_rfl) (by kernel_rfl) ?_
 rw [← h7Z]
 exact h
def F77 (x0 : Value) (w : World) (R : RT) (E : Pan) : Prop :=
 oP E (xV (Instr.box 71 x0)) w fun q7 w_2 =>
 oP E (lA 71 q7) w_2 fun a0o w_4 =>
 oP E (xV (Instr.build 182 #[(0, a0o)])) w_4 fun a6l w_6 =>
 oP E (xV (Instr.makeInterface 182 a6l)) w_6 fun a9T w_8 =>
 R a9T w_8
noncomputable def c77 : Code := Tryz.f77.body.getD .skip
def h77 : Hint := (sQ (sQ .none))
theorem h8b (x0 : Value) (w : World) (R : RT) (E : Pan) : F77 x0 w R E = callX Tryz.prog [.tmp 2] c77 h77 [x0] w R E := by kernel_rfl
theorem h8c {x0 : Value} (h : F77 x0 w R E) : Cv Tryz.prog 77 #[x0] w R E := by
 refine k3 (args := [x0]) (c := c77) (h := h77) (rs := [.tmp 2]) Tryz.func77 (by kernel_rfl) (by kernel_rfl) (nB (by kernel_rfl)) (by kernel_rfl) (by kernel_rfl) (by kernel_rfl) ?_
 rw [← h8b]
 exact h
def e0Y (x5 : Value) (w : World) (R : RT) (_E : Pan) : Prop :=
 ∀ _τ : Fr, (R x5 w)
def f6d (x1 x5 x8 x9 x10 : Value) (w : World) (next2 : NT) (j1 : NT) (_R : RT) (E : Pan) : Prop :=
 oP E (xBin .lss 3 (.tmp 10) (.tmp 9) x10 x9) w fun a4T w_6 =>
 xcond a4T
 (oP E (iA 23 x8 x10) w_6 fun a1J w_8 =>
 oP E (lA 73 a1J) w_8 fun a6K p5 =>
 oP E (xV (Instr.alloc 73 true (.tuple #[]))) p5 fun X5 q8 =>
 oP E (sA 73 X5 a6K) q8 fun _z_13 p6 =>
 oP E (lA 73 X5) p6 fun a7a r8 =>
 oP E (xCall x1 [a7a]) r8 fun a7b s8 =>
 oP E (xV (Instr.buildSlice 137 1 #[(0, a7b)])) s8 fun a4U r9 =>
 oP E (xBuiltin .append #[137, 137] 137 [false, false] [x5, a4U]) r9 fun a7c u7 =>
 oP E (xBin .add 3 (.tmp 10) (.const (vI 1)) x10 (vI 1)) u7 fun a4V u4 =>
 next2 [a7c, a4V] u4)
 (j1 [x5] w_6)
def F78 (x0 x1 : Value) (w : World) (R : RT) (E : Pan) : Prop :=
 xcut (fun l_1 w_2 => e0Y (nth l_1 0) w_2 R E) fun j1 =>
 oP E (xBuiltin .len #[23] 3 [false] [x0]) w fun a6n w_4 =>
 xloop [5, 10] [(nS), (vI 0)] w_4 fun τ_25 z2 next2 =>
 f6d x1 (τ_25 5) x0 a6n (τ_25 10) z2 next2 j1 R E
noncomputable def c78 : Code := Tryz.f78.body.getD .skip
def h78 : Hint := (sQ (sQ (.cut [5] (sQ (.block (.loop [5, 10] (sQ (.seq (.cond .none .none) (.seq (.block (sQ .none)) .none)))))) (sQ .none))))
theorem h8d (x0 x1 : Value) (w : World) (R : RT) (E : Pan) : F78 x0 x1 w R E = callX Tryz.prog [.tmp 4] c78 h78 [x0, x1] w R E := by kernel_rfl
theorem h8e {x0 x1 : Value} (h : F78 x0 x1 w R E) : Cv Tryz.prog 78 #[x0, x1] w R E := by
 refine k3 (args := [x0, x1]) (c := c78) (h := h78) (rs := [.tmp 4]) Tryz.func78 (by kernel_rfl) (by kernel_rfl) (nB (by kernel_rfl)) (by kernel_rfl) (by kernel_rfl) (by kernel_rfl) ?_
 rw [← h8d]
 exact h
def F79 (x0 : Value) (w : World) (R : RT) (E : Pan) : Prop :=
 oP E (xV (Instr.box 73 x0)) w fun q7 w_2 =>
 oP E (lA 73 q7) w_2 fun a0o w_4 =>
 oP E (xV (Instr.build 184 #[(0, a0o)])) w_4 fun a6l w_6 =>
 oP E (xV (Instr.makeInterface 184 a6l)) w_6 fun a9T w_8 =>
 R a9T w_8
noncomputable def c79 : Code := Tryz.f79.body.getD .skip
def h79 : Hint := (sQ (sQ .none))
theorem h8f (x0 : Value) (w : World) (R : RT) (E : Pan) : F79 x0 w R E = callX Tryz.prog [.tmp 2] c79 h79 [x0] w R E := by kernel_rfl
theorem h8g {x0 : Value} (h : F79 x0 w R E) : Cv Tryz.prog 79 #[x0] w R E := by
 refine k3 (args := [x0]) (c := c79) (h := h79) (rs := [.tmp 2]) Tryz.func79 (by kernel_rfl) (by kernel_rfl) (nB (by kernel_rfl)) (by kernel_rfl) (by kernel_rfl) (by kernel_rfl) ?_
 rw [← h8f]
 exact h
def F84 (x0 x1 : Value) (w : World) (R : RT) (E : Pan) : Prop :=
 oP E (xNil x0) w fun b3F w_2 =>
 oP E (fA 108 b3F 2) w_2 fun b1d w_4 =>
 oP E (lA 3 b1d) w_4 fun c5B w_6 =>
 oP E (xBin .neq 3 (.tmp 8) (.const (vI 0)) c5B (vI 0)) w_6 fun d1W w_8 =>
 xcond d1W
 (R (vB false) w_8)
 (oP E (xNil x0) w_8 fun b0j p5 =>
 oP E (fA 108 b0j 0) p5 fun e0Z q8 =>
 oP E (lA 3 e0Z) q8 fun c8v p6 =>
 oP E (xBin .eql 3 (.tmp 13) (.const (vI 4096)) c8v (vI 4096)) p6 fun h8h r8 =>
 xcond h8h
 (oP E (xNil x0) r8 fun h8i s8 =>
 oP E (fA 108 h8i 2) s8 fun h8j r9 =>
 oP E (sA 3 h8j (vI 33)) r9 fun _z_21 u7 =>
 R (vB false) u7)
 (oP E (xBin .gtr 3 (.tmp 18) (.const (vI 64)) x1 (vI 64)) r8 fun e1a u4 =>
 xcond e1a
 (oP E (xNil x0) u4 fun e1b z2 =>
 oP E (fA 108 e1b 2) z2 fun h8k B3 =>
 oP E (sA 3 h8k (vI 32)) B3 fun _z_29 C4 =>
 R (vB false) C4)
 (oP E (xNil x0) u4 fun h8l B6 =>
 oP E (fA 108 h8l 0) B6 fun h8m A6 =>
 oP E (lA 3 h8m) A6 fun h8n I7 =>
 oP E (xBin .add 3 (.tmp 26) (.const (vI 1)) h8n (vI 1)) I7 fun e1c C7 =>
 oP E (xNil x0) C7 fun c0x I4 =>
 oP E (fA 108 c0x 0) I4 fun h8o E8 =>
 oP E (sA 3 h8o e1c) E8 fun _z_43 E4 =>
 oP E (xNil x0) E4 fun e1d N1 =>
 oP E (fA 108 e1d 1) N1 fun e1e M6 =>
 oP E (lA 3 e1e) M6 fun e1f L8 =>
 oP E (xBuiltin .max #[3, 3] 3 [false, false] [e1f, x1]) L8 fun h8p N0 =>
 oP E (xNil x0) N0 fun h8q K5 =>
 oP E (fA 108 h8q 1) K5 fun h8r N4 =>
 oP E (sA 3 h8r h8p) N4 fun _z_57 L4 =>
 R (vB true) L4)))
noncomputable def c84 : Code := Tryz.f84.body.getD .skip
def h84 : Hint := (sQ (.seq (sQ (.cond (sQ .none) .none)) (.seq (sQ (.cond (sQ (sQ .none)) .none)) (.seq (sQ (.cond (sQ (sQ .none)) .none)) (sQ (sQ (sQ .none)))))))
theorem h8s (x0 x1 : Value) (w : World) (R : RT) (E : Pan) : F84 x0 x1 w R E = callX Tryz.prog [.tmp 4] c84 h84 [x0, x1] w R E := by kernel_rfl
theorem h8t {x0 x1 : Value} (h : F84 x0 x1 w R E) : Cv Tryz.prog 84 #[x0, x1] w R E := by
 refine k3 (args := [x0, x1]) (c := c84) (h := h84) (rs := [.tmp 4]) Tryz.func84 (by kernel_rfl) (by kernel_rfl) (nB (by kernel_rfl)) (by kernel_rfl) (by kernel_rfl) (by kernel_rfl) ?_
 rw [← h8s]
 exact h
def f6e (x0 x2 x4 x9 : Value) (w : World) (next4 : NT) (R : RT) (E : Pan) : Prop :=
 oP E (fA 73 x4 5) w fun j4e w_8 =>
 oP E (lA 23 j4e) w_8 fun j4f p5 =>
 oP E (xBuiltin .len #[23] 3 [false] [j4f]) p5 fun h8u q8 =>
 oP E (xBin .lss 3 (.tmp 83) (.tmp 86) x9 h8u) q8 fun c4s p6 =>
 oP E (gsem (asB c4s) true (xNil (gval (asB c4s) true x0))) p6 fun h8v r8 =>
 oP E (gsem (asB c4s) true (fA 108 h8v 2)) r8 fun h8w s8 =>
 oP E (gsem (asB c4s) true (lA 3 h8w)) s8 fun h8x r9 =>
 oP E (gsem (asB c4s) true (xBin .eql 3 (.tmp 92) (.const (vI 0)) h8x (vI 0))) r9 fun h8y u7 =>
 oP E (xPick c4s h8y (vB false)) u7 fun h8z u4 =>
 xcond h8z
 (oP E (fA 73 x4 5) u4 fun h8A z2 =>
 oP E (lA 23 h8A) z2 fun h8B B3 =>
 oP E (iA 23 h8B x9) B3 fun g7o C4 =>
 oP E (lA 73 g7o) C4 fun g7p B6 =>
 oP E (xBin .add 3 (.tmp 103) (.const (vI 1)) x2 (vI 1)) B6 fun g7q A6 =>
 oP E (xCall (fC 85) [x0, g7p, g7q]) A6 fun _t105_35 I7 =>
 oP E (xBin .add 3 (.tmp 95) (.const (vI 1)) x9 (vI 1)) I7 fun h8C C7 =>
 next4 [h8C] C7)
 (R (Value.tuple #[]) u4)
def e1g (x0 x2 x4 : Value) (w : World) (R : RT) (E : Pan) : Prop :=
 ∀ _τ : Fr, (xloop [9] [(vI 0)] w fun τ_39 I4 next4 =>
 f6e x0 x2 x4 (τ_39 9) I4 next4 R E)
def f6f (x0 x2 x4 x8 : Value) (w : World) (next5 : NT) (j3 : NT) (_R : RT) (E : Pan) : Prop :=
 oP E (fA 73 x4 4) w fun h8D E4 =>
 oP E (lA 23 h8D) E4 fun h8E N1 =>
 oP E (xBuiltin .len #[23] 3 [false] [h8E]) N1 fun h8F M6 =>
 oP E (xBin .lss 3 (.tmp 60) (.tmp 63) x8 h8F) M6 fun c4t L8 =>
 oP E (gsem (asB c4t) true (xNil (gval (asB c4t) true x0))) L8 fun h8G N0 =>
 oP E (gsem (asB c4t) true (fA 108 h8G 2)) N0 fun h8H K5 =>
 oP E (gsem (asB c4t) true (lA 3 h8H)) K5 fun h8I N4 =>
 oP E (gsem (asB c4t) true (xBin .eql 3 (.tmp 69) (.const (vI 0)) h8I (vI 0))) N4 fun h8J L4 =>
 oP E (xPick c4t h8J (vB false)) L4 fun h8K Q3 =>
 xcond h8K
 (oP E (fA 73 x4 4) Q3 fun h8L R5 =>
 oP E (lA 23 h8L) R5 fun h8M Q5 =>
 oP E (iA 23 h8M x8) Q5 fun h8N V0 =>
 oP E (lA 73 h8N) V0 fun h8O T2 =>
 oP E (xBin .add 3 (.tmp 80) (.const (vI 1)) x2 (vI 1)) T2 fun h8P T7 =>
 oP E (xCall (fC 85) [x0, h8O, h8P]) T7 fun _t82_71 Z0 =>
 oP E (xBin .add 3 (.tmp 72) (.const (vI 1)) x8 (vI 1)) Z0 fun h8Q Z1 =>
 next5 [h8Q] Z1)
 (j3 [] Q3)
def e1h (x0 x2 x4 : Value) (w : World) (R : RT) (E : Pan) : Prop :=
 ∀ _τ : Fr, (xcut (fun _ E8 => e1g x0 x2 x4 E8 R E) fun j3 =>
 xloop [8] [(vI 0)] w fun τ_75 Z2 next5 =>
 f6f x0 x2 x4 (τ_75 8) Z2 next5 j3 R E)
def f6g (x0 x2 x4 x7 : Value) (w : World) (next6 : NT) (j2 : NT) (_R : RT) (E : Pan) : Prop :=
 oP E (fA 73 x4 2) w fun h8R Y5 =>
 oP E (lA 51 h8R) Y5 fun h8S a0f =>
 oP E (xBuiltin .len #[51] 3 [false] [h8S]) a0f fun h8T Z3 =>
 oP E (xBin .lss 3 (.tmp 37) (.tmp 40) x7 h8T) Z3 fun c4u a0g =>
 oP E (gsem (asB c4u) true (xNil (gval (asB c4u) true x0))) a0g fun h8U Z4 =>
 oP E (gsem (asB c4u) true (fA 108 h8U 2)) Z4 fun h8V a1Q =>
 oP E (gsem (asB c4u) true (lA 3 h8V)) a1Q fun h8W a2K =>
 oP E (gsem (asB c4u) true (xBin .eql 3 (.tmp 46) (.const (vI 0)) h8W (vI 0))) a2K fun h8X V4 =>
 oP E (xPick c4u h8X (vB false)) V4 fun h8Y a3u =>
 xcond h8Y
 (oP E (fA 73 x4 2) a3u fun e1i a6m =>
 oP E (lA 51 e1i) a6m fun h8Z a1H =>
 oP E (iA 51 h8Z x7) a1H fun g7r a1I =>
 oP E (lA 53 g7r) a1I fun g7s a3H =>
 oP E (xBin .add 3 (.tmp 57) (.const (vI 1)) x2 (vI 1)) a3H fun g7t a3I =>
 oP E (xCall (fC 121) [x0, g7s, g7t]) a3I fun _t59_107 a7p =>
 oP E (xBin .add 3 (.tmp 49) (.const (vI 1)) x7 (vI 1)) a7p fun g7u a7T =>
 next6 [g7u] a7T)
 (j2 [] a3u)
def e1j (x0 x2 x4 : Value) (w : World) (R : RT) (E : Pan) : Prop :=
 ∀ _τ : Fr, (xcut (fun _ X1 => e1h x0 x2 x4 X1 R E) fun j2 =>
 xloop [7] [(vI 0)] w fun τ_111 b0k next6 =>
 f6g x0 x2 x4 (τ_111 7) b0k next6 j2 R E)
def f6h (x0 x2 x4 x6 : Value) (w : World) (next7 : NT) (j1 : NT) (_R : RT) (E : Pan) : Prop :=
 oP E (fA 73 x4 3) w fun g7v a9y =>
 oP E (lA 57 g7v) a9y fun g7w a6L =>
 oP E (xBuiltin .len #[57] 3 [false] [g7w]) a6L fun d6w a4j =>
 oP E (xBin .lss 3 (.tmp 14) (.tmp 17) x6 d6w) a4j fun b5a a2J =>
 oP E (gsem (asB b5a) true (xNil (gval (asB b5a) true x0))) a2J fun g7x a7o =>
 oP E (gsem (asB b5a) true (fA 108 g7x 2)) a7o fun g7y a6J =>
 oP E (gsem (asB b5a) true (lA 3 g7y)) a6J fun g7z a7S =>
 oP E (gsem (asB b5a) true (xBin .eql 3 (.tmp 23) (.const (vI 0)) g7z (vI 0))) a7S fun g7A a4Q =>
 oP E (xPick b5a g7A (vB false)) a4Q fun g7B a4R =>
 xcond g7B
 (oP E (fA 73 x4 3) a4R fun g7C a7q =>
 oP E (lA 57 g7C) a7q fun g7D a7r =>
 oP E (iA 57 g7D x6) a7r fun g7E b1e =>
 oP E (lA 59 g7E) b1e fun g7F b1f =>
 oP E (xBin .add 3 (.tmp 34) (.const (vI 1)) x2 (vI 1)) b1f fun g7G a4W =>
 oP E (xCall (fC 120) [x0, g7F, g7G]) a4W fun _t36_143 a5H =>
 oP E (xBin .add 3 (.tmp 26) (.const (vI 1)) x6 (vI 1)) a5H fun g7H a5G =>
 next7 [g7H] a5G)
 (j1 [] a4R)
def F85 (x0 x1 x2 : Value) (w : World) (R : RT) (E : Pan) : Prop :=
 oP E (xV (Instr.box 73 x1)) w fun b4l w_2 =>
 oP E (xCall (fC 84) [x0, x2]) w_2 fun c9X w_4 =>
 oP E (xV (Op.unary .not c9X)) w_4 fun b5C w_6 =>
 xcond b5C
 (R (Value.tuple #[]) w_6)
 (xcut (fun _ a8Q => e1j x0 x2 b4l a8Q R E) fun j1 =>
 xloop [6] [(vI 0)] w_6 fun τ_147 b3h next7 =>
 f6h x0 x2 b4l (τ_147 6) b3h next7 j1 R E)
noncomputable def c85 : Code := Tryz.f85.body.getD .skip
def h85 : Hint := (sQ (.seq (sQ (.cond .none .none)) (.cut [] (sQ (.block (.loop [6] (.seq (sQ (.cond .none .none)) (.seq (.block .none) .none))))) (.cut [] (sQ (.block (.loop [7] (.seq (sQ (.cond .none .none)) (.seq (.block .none) .none))))) (.cut [] (sQ (.block (.loop [8] (.seq (sQ (.cond .none .none)) (.seq (.block .none) .none))))) (sQ (.block (.loop [9] (.seq (sQ (.cond .none .none)) (.seq (.block .none) .none))))))))))
theorem h9a (x0 x1 x2 : Value) (w : World) (R : RT) (E : Pan) : F85 x0 x1 x2 w R E = callX Tryz.prog [] c85 h85 [x0, x1, x2] w R E := by kernel_rfl
theorem h9b {x0 x1 x2 : Value} (h : F85 x0 x1 x2 w R E) : Cv Tryz.prog 85 #[x0, x1, x2] w R E := by
 refine k3 (args := [x0, x1, x2]) (c := c85) (h := h85) (rs := []) Tryz.func85 (by kernel_rfl) (by kernel_rfl) (nB (by kernel_rfl)) (by kernel_rfl) (by kernel_rfl) (by kernel_rfl) ?_
 rw [← h9a]
 exact h
def d6x (w : World) (R : RT) (_E : Pan) : Prop :=
 ∀ _τ : Fr, (R (vB true) w)
def e6y (x1 x2 x3 x9 x10 x11 : Value) (w : World) (next2 : NT) (j1 : NT) (R : RT) (E : Pan) : Prop :=
 oP E (xBin .lss 3 (.tmp 11) (.tmp 10) x11 x10) w fun b1g w_6 =>
 xcond b1g
 (oP E (iA 137 x9 x11) w_6 fun a1K w_8 =>
 oP E (lA 150 a1K) w_8 fun b2k p5 =>
 dX p5 fun P0 =>
 qL Tryz.prog P0 (blk x2) (lA 102 x2) fun h9c =>
 oP E (xCall (fC 111) [h9c, b2k, x1]) P0 fun b2A p6 =>
 keepX [] P0 p6 (qP Tryz.prog (xV (Op.unary .not b2A)) fun b1T =>
 qP Tryz.prog (gsem (asB b1T) false (xBin .add 3 (.tmp 24) (.const (vI 1)) (gval (asB b1T) false x1) (vI 1))) fun h9d =>
 qL Tryz.prog p6 (blk x3) (gsem (asB b1T) false (lA 170 x3)) fun h9e =>
 oP E (gsem (asB b1T) false (xInvoke (gval (asB b1T) false b2k) "gnomon/tree.parts" [])) p6 fun h9f a1R =>
 keepX [(blk x3)] p6 a1R (opK Tryz.prog E (gsem (asB b1T) false (xCall h9e [h9f, h9d])) a1R fun h9g a5B =>
 keepX [] a1R a5B (qP Tryz.prog (gsem (asB b1T) false (xV (Op.unary .not h9g))) fun h9h =>
 qP Tryz.prog (xPick b1T (vB true) h9h) fun a7d =>
 xcond a7d
 (R (vB false) a5B)
 (oP E (xBin .add 3 (.tmp 11) (.const (vI 1)) x11 (vI 1)) a5B fun h9i b6S =>
 next2 [h9i] b6S)))))
 (j1 [] w_6)
def e8h (x0 x1 x2 x3 : Value) (w : World) (R : RT) (E : Pan) : Prop :=
 xcut (fun _ w_2 => d6x w_2 R E) fun j1 =>
 oP E (xBuiltin .len #[137] 3 [false] [x0]) w fun b5D w_4 =>
 xloop [11] [(vI 0)] w_4 fun τ_26 a3k next2 =>
 e6y x1 x2 x3 x0 b5D (τ_26 11) a3k next2 j1 R E
noncomputable def h9j : Code := Tryz.f110.body.getD .skip
def h9k : Hint := (sQ (.cut [] (sQ (.block (.loop [11] (sQ (.seq (.cond .none .none) (.seq (.block (sQ (.seq (.reg [(0, 32768, 4), (0, 65536, 256), (0, 131072, 2), (7, 262144, 229376), (8, 524288, 262144), (24, 1048576, 524288), (32, 2097152, 1048584), (32, 4194304, 1048832), (160, 8388608, 5242880), (32, 16777216, 1048578), (544, 33554432, 17825792), (1376, 67108864, 45088768), (2080, 134217728, 68157440), (4128, 268435456, 135266304)] [64, 65, 65, 0, 65, 65, 1, 65, 64, 65, 65, 0, 65, 65] (.early 1 (.early 2 (.load 0 (.step 3 (.early 4 (.early 5 (.early 7 (.early 9 (.early 10 (.load 6 (.step 8 (.step 11 (.early 12 (.early 13 .done))))))))))))))) (.cond (sQ .none) .none)))) .none)))))) (sQ .none)))
theorem g7I (x0 x1 x2 x3 : Value) (w : World) (R : RT) (E : Pan) : e8h x0 x1 x2 x3 w R E = callX Tryz.prog [.tmp 6] h9j h9k [x0, x1, x2, x3] w R E := by kernel_rfl
theorem g7J {x0 x1 x2 x3 : Value} (h : e8h x0 x1 x2 x3 w R E) : Cv Tryz.prog 110 #[x0, x1, x2, x3] w R E := by
 refine k3 (args := [x0, x1, x2, x3]) (c := h9j) (h := h9k) (rs := [.tmp 6]) Tryz.func110 (by kernel_rfl) (by kernel_rfl) (nB (by kernel_rfl)) (by kernel_rfl) (by kernel_rfl) (by kernel_rfl) ?_
 rw [← g7I]
 exact h
def d6y (w : World) (R : RT) (_E : Pan) : Prop :=
 ∀ _τ : Fr, (R (vB true) w)
def e8i (x0 x1 x2 : Value) (w : World) (R : RT) (E : Pan) : Prop :=
 oP E (xNil x0) w fun c2N w_2 =>
 oP E (fA 101 c2N 0) w_2 fun a4X w_4 =>
 oP E (lA 3 a4X) w_4 fun b1g w_6 =>
 oP E (xBin .add 3 (.tmp 12) (.const (vI 1)) b1g (vI 1)) w_6 fun a1K w_8 =>
 oP E (xNil x0) w_8 fun b2k p5 =>
 oP E (fA 101 b2k 0) p5 fun c0y q8 =>
 oP E (sA 3 c0y a1K) q8 fun _z_13 p6 =>
 oP E (xNil x0) p6 fun e1k r8 =>
 oP E (fA 101 e1k 0) r8 fun h9l s8 =>
 oP E (lA 3 h9l) s8 fun h9m r9 =>
 oP E (xBin .gtr 3 (.tmp 19) (.const (vI 4096)) h9m (vI 4096)) r9 fun d3N u7 =>
 xcond d3N
 (oP E (xNil x0) u7 fun e1l u4 =>
 oP E (fA 101 e1l 2) u4 fun h9n z2 =>
 oP E (sA 27 h9n (vI 33)) z2 fun _z_27 B3 =>
 R (vB false) B3)
 (oP E (xBin .gtr 3 (.tmp 24) (.const (vI 64)) x2 (vI 64)) u7 fun h9o C4 =>
 xcond h9o
 (oP E (xNil x0) C4 fun h9p B6 =>
 oP E (fA 101 h9p 2) B6 fun h9q A6 =>
 oP E (sA 27 h9q (vI 32)) A6 fun _z_35 I7 =>
 R (vB false) I7)
 (oP E (xNil x0) C4 fun h9r C7 =>
 oP E (fA 101 h9r 1) C7 fun h9s I4 =>
 oP E (lA 3 h9s) I4 fun h9t E8 =>
 oP E (xBuiltin .max #[3, 3] 3 [false, false] [h9t, x2]) E8 fun h9u E4 =>
 oP E (xNil x0) E4 fun h9v N1 =>
 oP E (fA 101 h9v 1) N1 fun h9w M6 =>
 oP E (sA 3 h9w h9u) M6 fun _z_49 L8 =>
 oP E (xNil x0) L8 fun h9x N0 =>
 oP E (fA 101 h9x 3) N0 fun h9y K5 =>
 oP E (lA 4 h9y) K5 fun d3O N4 =>
 oP E (gsem (asB d3O) false (xInvoke (gval (asB d3O) false x1) "gnomon/tree.form" [])) N4 fun h9z L4 =>
 oP E (gsem (asB d3O) false (xV (Op.unary .not h9z))) L4 fun h9A Q3 =>
 oP E (xPick d3O (vB true) h9A) Q3 fun h9B R5 =>
 oP E (xNil x0) R5 fun h9C Q5 =>
 oP E (fA 101 h9C 3) Q5 fun h9D V0 =>
 oP E (sA 4 h9D h9B) V0 fun _z_67 T2 =>
 xcut (fun _ T7 => d6y T7 R E) fun j1 =>
 oP E (xCall (fC 143) [x1]) T2 fun f6i Z0 =>
 oP E (eX f6i 0) Z0 fun c8w Z1 =>
 oP E (eX f6i 1) Z1 fun h9E Z2 =>
 xcond h9E
 (oP E (xNil x0) Z2 fun h9F X1 =>
 oP E (fA 101 h9F 4) X1 fun h9G Y5 =>
 oP E (lA 4 h9G) Y5 fun c0z a0f =>
 oP E (gsem (asB c0z) false (xCall (fC 144) [(gval (asB c0z) false c8w)])) a0f fun h9H Z3 =>
 oP E (gsem (asB c0z) false (xV (Op.unary .not h9H))) Z3 fun h9I a0g =>
 oP E (xPick c0z (vB true) h9I) a0g fun h9J Z4 =>
 oP E (xNil x0) Z4 fun h9K a1Q =>
 oP E (fA 101 h9K 4) a1Q fun h9L a2K =>
 oP E (sA 4 h9L h9J) a2K fun _z_93 V4 =>
 oP E (xNil x0) V4 fun h9M a3u =>
 oP E (fA 101 h9M 5) a3u fun h9N a6m =>
 oP E (lA 88 h9N) a6m fun h9O a1H =>
 oP E (xCall (fC 145) [h9O, c8w]) a1H fun g7K a1I =>
 oP E (xV (Op.unary .not g7K)) a1I fun g7L a3H =>
 xcond g7L
 (oP E (xNil x0) a3H fun g7M a3I =>
 oP E (fA 101 g7M 5) a3I fun g7N a7p =>
 oP E (lA 88 g7N) a7p fun g7O a7T =>
 oP E (xV (Instr.buildSlice 88 1 #[(0, c8w)])) a7T fun g7P b0k =>
 oP E (xBuiltin .append #[88, 88] 88 [false, false] [g7O, g7P]) b0k fun g7Q a8Q =>
 oP E (xNil x0) a8Q fun g7R a9y =>
 oP E (fA 101 g7R 5) a9y fun g7S a6L =>
 oP E (sA 88 g7S g7Q) a6L fun _z_119 a4j =>
 j1 [] a4j)
 (j1 [] a3H))
 (j1 [] Z2)))
noncomputable def h9P : Code := Tryz.f111.body.getD .skip
def h9Q : Hint := (sQ (.seq (sQ (sQ (.cond (sQ (sQ .none)) .none))) (.seq (sQ (.cond (sQ (sQ .none)) .none)) (sQ (sQ (.cut [] (sQ (sQ (.cond (sQ (sQ (.cond .none .none))) .none))) (sQ .none)))))))
theorem g7T (x0 x1 x2 : Value) (w : World) (R : RT) (E : Pan) : e8i x0 x1 x2 w R E = callX Tryz.prog [.tmp 6] h9P h9Q [x0, x1, x2] w R E := by kernel_rfl
theorem g7U {x0 x1 x2 : Value} (h : e8i x0 x1 x2 w R E) : Cv Tryz.prog 111 #[x0, x1, x2] w R E := by
 refine k3 (args := [x0, x1, x2]) (c := h9P) (h := h9Q) (rs := [.tmp 6]) Tryz.func111 (by kernel_rfl) (by kernel_rfl) (nB (by kernel_rfl)) (by kernel_rfl) (by kernel_rfl) (by kernel_rfl) ?_
 rw [← g7T]
 exact h
def d6z (x0 : Value) (w : World) (R : RT) (_E : Pan) : Prop :=
 ∀ _τ : Fr, (R x0 w)
def e6z (x0 x1 : Value) (w : World) (R : RT) (E : Pan) : Prop :=
 ∀ _τ : Fr, (xcut (fun l_1 w_2 => d6z (nth l_1 0) w_2 R E) fun j2 =>
 oP E (xBuiltin .cap #[137] 3 [false] [x0]) w fun b5D w_4 =>
 oP E (xBuiltin .len #[137] 3 [false] [x0]) w_4 fun b1g w_6 =>
 oP E (xBin .sub 3 (.tmp 10) (.tmp 12) b5D b1g) w_6 fun a1K w_8 =>
 oP E (xBin .sub 3 (.tmp 8) (.tmp 13) x1 a1K) w_8 fun b2k p5 =>
 oP E (xBin .gtr 3 (.tmp 15) (.const (vI 0)) b2k (vI 0)) p5 fun a4Y q8 =>
 xcond a4Y
 (oP E (xBuiltin .cap #[137] 3 [false] [x0]) q8 fun h9R p6 =>
 oP E (xV (Instr.sliceAt 137 x0 none (some h9R) none)) p6 fun c0A r8 =>
 oP E (xBuiltin .append #[137, 3] 137 [false, false] [c0A, b2k]) r8 fun c4v s8 =>
 oP E (xBuiltin .len #[137] 3 [false] [x0]) s8 fun c8x r9 =>
 oP E (xV (Instr.sliceAt 137 c4v none (some c8x) none)) r9 fun h9S u7 =>
 j2 [h9S] u7)
 (j2 [x0] q8))
def f8O (x0 x1 : Value) (w : World) (R : RT) (E : Pan) : Prop :=
 xcut (fun _ u4 => e6z x0 x1 u4 R E) fun j1 =>
 oP E (xBin .lss 3 (.tmp 5) (.const (vI 0)) x1 (vI 0)) w fun j4g z2 =>
 xcond j4g
 (oP E (xV (Instr.makeInterface 9 (Value.string ⟨#[99, 97, 110, 110, 111, 116, 32, 98, 101, 32, 110, 101, 103, 97, 116, 105, 118, 101]⟩))) z2 fun d8A B3 =>
 oP E (xV (Instr.panic d8A)) B3 fun _z_29 C4 =>
 j1 [] C4)
 (j1 [] z2)
noncomputable def h9T : Code := Tryz.f119.body.getD .skip
def h9U : Hint := (sQ (.cut [] (sQ (.cond .none .none)) (.cut [0] (sQ (sQ (.cond .none .none))) (sQ .none))))
theorem g7V (x0 x1 : Value) (w : World) (R : RT) (E : Pan) : f8O x0 x1 w R E = callX Tryz.prog [.tmp 4] h9T h9U [x0, x1] w R E := by kernel_rfl
theorem g7W {x0 x1 : Value} (h : f8O x0 x1 w R E) : Cv Tryz.prog 119 #[x0, x1] w R E := by
 refine k3 (args := [x0, x1]) (c := h9T) (h := h9U) (rs := [.tmp 4]) Tryz.func119 (by kernel_rfl) (by kernel_rfl) (nB (by kernel_rfl)) (by kernel_rfl) (by kernel_rfl) (by kernel_rfl) ?_
 rw [← g7V]
 exact h
def e6A (x0 x2 x4 x7 : Value) (w : World) (next2 : NT) (R : RT) (E : Pan) : Prop :=
 oP E (fA 59 x4 3) w fun j4h w_8 =>
 oP E (lA 57 j4h) w_8 fun j4i p5 =>
 oP E (xBuiltin .len #[57] 3 [false] [j4i]) p5 fun e0u q8 =>
 oP E (xBin .lss 3 (.tmp 35) (.tmp 38) x7 e0u) q8 fun c4w p6 =>
 oP E (gsem (asB c4w) true (xNil (gval (asB c4w) true x0))) p6 fun h9V r8 =>
 oP E (gsem (asB c4w) true (fA 108 h9V 2)) r8 fun d3P s8 =>
 oP E (gsem (asB c4w) true (lA 3 d3P)) s8 fun h9W r9 =>
 oP E (gsem (asB c4w) true (xBin .eql 3 (.tmp 44) (.const (vI 0)) h9W (vI 0))) r9 fun h9X u7 =>
 oP E (xPick c4w h9X (vB false)) u7 fun h9Y u4 =>
 xcond h9Y
 (oP E (fA 59 x4 3) u4 fun h9Z z2 =>
 oP E (lA 57 h9Z) z2 fun i0a B3 =>
 oP E (iA 57 i0a x7) B3 fun i0b C4 =>
 oP E (lA 59 i0b) C4 fun i0c B6 =>
 oP E (xBin .add 3 (.tmp 55) (.const (vI 1)) x2 (vI 1)) B6 fun i0d A6 =>
 oP E (xCall (fC 120) [x0, i0c, i0d]) A6 fun _t57_35 I7 =>
 oP E (xBin .add 3 (.tmp 47) (.const (vI 1)) x7 (vI 1)) I7 fun i0e C7 =>
 next2 [i0e] C7)
 (R (Value.tuple #[]) u4)
def d6A (x0 x2 x4 : Value) (w : World) (R : RT) (E : Pan) : Prop :=
 ∀ _τ : Fr, (xloop [7] [(vI 0)] w fun τ_39 I4 next2 =>
 e6A x0 x2 x4 (τ_39 7) I4 next2 R E)
def e6B (x0 x2 x4 x6 : Value) (w : World) (next3 : NT) (j1 : NT) (_R : RT) (E : Pan) : Prop :=
 oP E (fA 59 x4 2) w fun i0f E4 =>
 oP E (lA 51 i0f) E4 fun i0g N1 =>
 oP E (xBuiltin .len #[51] 3 [false] [i0g]) N1 fun i0h M6 =>
 oP E (xBin .lss 3 (.tmp 12) (.tmp 15) x6 i0h) M6 fun c4x L8 =>
 oP E (gsem (asB c4x) true (xNil (gval (asB c4x) true x0))) L8 fun d3Q N0 =>
 oP E (gsem (asB c4x) true (fA 108 d3Q 2)) N0 fun d3R K5 =>
 oP E (gsem (asB c4x) true (lA 3 d3R)) K5 fun d3S N4 =>
 oP E (gsem (asB c4x) true (xBin .eql 3 (.tmp 21) (.const (vI 0)) d3S (vI 0))) N4 fun d3T L4 =>
 oP E (xPick c4x d3T (vB false)) L4 fun d3U Q3 =>
 xcond d3U
 (oP E (fA 59 x4 2) Q3 fun i0i R5 =>
 oP E (lA 51 i0i) R5 fun i0j Q5 =>
 oP E (iA 51 i0j x6) Q5 fun i0k V0 =>
 oP E (lA 53 i0k) V0 fun i0l T2 =>
 oP E (xBin .add 3 (.tmp 32) (.const (vI 1)) x2 (vI 1)) T2 fun i0m T7 =>
 oP E (xCall (fC 121) [x0, i0l, i0m]) T7 fun _t34_71 Z0 =>
 oP E (xBin .add 3 (.tmp 24) (.const (vI 1)) x6 (vI 1)) Z0 fun i0n Z1 =>
 next3 [i0n] Z1)
 (j1 [] Q3)
def e8j (x0 x1 x2 : Value) (w : World) (R : RT) (E : Pan) : Prop :=
 oP E (xV (Instr.box 59 x1)) w fun b4l w_2 =>
 oP E (xCall (fC 84) [x0, x2]) w_2 fun b5D w_4 =>
 oP E (xV (Op.unary .not b5D)) w_4 fun a4T w_6 =>
 xcond a4T
 (R (Value.tuple #[]) w_6)
 (xcut (fun _ E8 => d6A x0 x2 b4l E8 R E) fun j1 =>
 xloop [6] [(vI 0)] w_6 fun τ_75 Z2 next3 =>
 e6B x0 x2 b4l (τ_75 6) Z2 next3 j1 R E)
noncomputable def i0o : Code := Tryz.f120.body.getD .skip
def i0p : Hint := (sQ (.seq (sQ (.cond .none .none)) (.cut [] (sQ (.block (.loop [6] (.seq (sQ (.cond .none .none)) (.seq (.block .none) .none))))) (sQ (.block (.loop [7] (.seq (sQ (.cond .none .none)) (.seq (.block .none) .none))))))))
theorem g7X (x0 x1 x2 : Value) (w : World) (R : RT) (E : Pan) : e8j x0 x1 x2 w R E = callX Tryz.prog [] i0o i0p [x0, x1, x2] w R E := by kernel_rfl
theorem g7Y {x0 x1 x2 : Value} (h : e8j x0 x1 x2 w R E) : Cv Tryz.prog 120 #[x0, x1, x2] w R E := by
 refine k3 (args := [x0, x1, x2]) (c := i0o) (h := i0p) (rs := []) Tryz.func120 (by kernel_rfl) (by kernel_rfl) (nB (by kernel_rfl)) (by kernel_rfl) (by kernel_rfl) (by kernel_rfl) ?_
 rw [← g7X]
 exact h
def e6C (x0 x2 x4 x6 : Value) (w : World) (next1 : NT) (R : RT) (E : Pan) : Prop :=
 oP E (fA 53 x4 3) w fun a1J w_8 =>
 oP E (lA 51 a1J) w_8 fun a6K p5 =>
 oP E (xBuiltin .len #[51] 3 [false] [a6K]) p5 fun i0q q8 =>
 oP E (xBin .lss 3 (.tmp 11) (.tmp 14) x6 i0q) q8 fun c4y p6 =>
 oP E (gsem (asB c4y) true (xNil (gval (asB c4y) true x0))) p6 fun e1m r8 =>
 oP E (gsem (asB c4y) true (fA 108 e1m 2)) r8 fun i0r s8 =>
 oP E (gsem (asB c4y) true (lA 3 i0r)) s8 fun i0s r9 =>
 oP E (gsem (asB c4y) true (xBin .eql 3 (.tmp 20) (.const (vI 0)) i0s (vI 0))) r9 fun i0t u7 =>
 oP E (xPick c4y i0t (vB false)) u7 fun e1l u4 =>
 xcond e1l
 (oP E (fA 53 x4 3) u4 fun e1n z2 =>
 oP E (lA 51 e1n) z2 fun e1o B3 =>
 oP E (iA 51 e1o x6) B3 fun i0u C4 =>
 oP E (lA 53 i0u) C4 fun i0v B6 =>
 oP E (xBin .add 3 (.tmp 31) (.const (vI 1)) x2 (vI 1)) B6 fun i0w A6 =>
 oP E (xCall (fC 121) [x0, i0v, i0w]) A6 fun _t33_35 I7 =>
 oP E (xBin .add 3 (.tmp 23) (.const (vI 1)) x6 (vI 1)) I7 fun b1S C7 =>
 next1 [b1S] C7)
 (R (Value.tuple #[]) u4)
def e8k (x0 x1 x2 : Value) (w : World) (R : RT) (E : Pan) : Prop :=
 oP E (xV (Instr.box 53 x1)) w fun b4l w_2 =>
 oP E (xCall (fC 84) [x0, x2]) w_2 fun a6n w_4 =>
 oP E (xV (Op.unary .not a6n)) w_4 fun a9z w_6 =>
 xcond a9z
 (R (Value.tuple #[]) w_6)
 (xloop [6] [(vI 0)] w_6 fun τ_39 I4 next1 =>
 e6C x0 x2 b4l (τ_39 6) I4 next1 R E)
noncomputable def i0x : Code := Tryz.f121.body.getD .skip
def i0y : Hint := (sQ (.seq (sQ (.cond .none .none)) (sQ (.block (.loop [6] (.seq (sQ (.cond .none .none)) (.seq (.block .none) .none)))))))
theorem g7Z (x0 x1 x2 : Value) (w : World) (R : RT) (E : Pan) : e8k x0 x1 x2 w R E = callX Tryz.prog [] i0x i0y [x0, x1, x2] w R E := by kernel_rfl
theorem g8a {x0 x1 x2 : Value} (h : e8k x0 x1 x2 w R E) : Cv Tryz.prog 121 #[x0, x1, x2] w R E := by
 refine k3 (args := [x0, x1, x2]) (c := i0x) (h := i0y) (rs := []) Tryz.func121 (by kernel_rfl) (by kernel_rfl) (nB (by kernel_rfl)) (by kernel_rfl) (by kernel_rfl) (by kernel_rfl) ?_
 rw [← g7Z]
 exact h
def e8l (x0 : Value) (w : World) (R : RT) (E : Pan) : Prop :=
 oP E (xV (Instr.typeAssert x0 150 182 true)) w fun c3A w_2 =>
 oP E (eX c3A 1) w_2 fun a6n w_4 =>
 oP E (eX c3A 0) w_4 fun a9z w_6 =>
 xcond a6n
 (oP E (xV (Instr.alloc 182 true (.tuple #[]))) w_6 fun e8m w_8 =>
 oP E (sA 182 e8m a9z) w_8 fun _z_9 p5 =>
 oP E (fA 182 e8m 0) p5 fun c0B q8 =>
 oP E (fA 71 c0B 0) q8 fun c8y p6 =>
 oP E (lA 9 c8y) p6 fun b0D r8 =>
 R (Value.tuple #[b0D, (vB true)]) r8)
 (oP E (xV (Instr.typeAssert x0 150 184 true)) w_6 fun b2z s8 =>
 oP E (eX b2z 1) s8 fun a4O r9 =>
 oP E (eX b2z 0) r9 fun a6d u7 =>
 xcond a4O
 (oP E (xV (Instr.alloc 184 true (.tuple #[]))) u7 fun d8B u4 =>
 oP E (sA 184 d8B a6d) u4 fun _z_25 z2 =>
 dX z2 fun a3k =>
 qP Tryz.prog (fA 184 d8B 0) fun e1p =>
 qP Tryz.prog (fA 73 e1p 1) fun c4r =>
 qP Tryz.prog (fA 184 d8B 0) fun i0z =>
 qP Tryz.prog (fA 73 i0z 0) fun b3U =>
 qL Tryz.prog a3k (blk c4r) (lA 9 c4r) fun i0A =>
 qL Tryz.prog a3k (blk b3U) (lA 3 b3U) fun b0B =>
 qP Tryz.prog (xBin .eql 3 (.tmp 22) (.const (vI 1)) b0B (vI 1)) fun c8z =>
 qP Tryz.prog (gsem (asB c8z) false (fA 184 d8B 0)) fun i0B =>
 qP Tryz.prog (gsem (asB c8z) false (fA 73 i0B 0)) fun f6j =>
 qL Tryz.prog a3k (blk f6j) (gsem (asB c8z) false (lA 3 f6j)) fun e1c =>
 qP Tryz.prog (gsem (asB c8z) false (xBin .eql 3 (.tmp 27) (.const (vI 2)) e1c (vI 2))) fun i0C =>
 qP Tryz.prog (xPick c8z (vB true) i0C) fun i0D =>
 R (Value.tuple #[i0A, i0D]) a3k)
 (oP E (xV (Instr.typeAssert x0 150 136 true)) u7 fun f6k b8K =>
 oP E (eX f6k 1) b8K fun i0E b3E =>
 oP E (eX f6k 0) b3E fun i0F c0t =>
 xcond i0E
 (oP E (xV (Instr.alloc 136 true (.tuple #[]))) c0t fun d8C b5A =>
 oP E (sA 136 d8C i0F) b5A fun _z_48 c5y =>
 dX c5y fun L8 =>
 qP Tryz.prog (fA 136 d8C 0) fun c8o =>
 qP Tryz.prog (fA 53 c8o 2) fun f6l =>
 qP Tryz.prog (fA 136 d8C 0) fun e1q =>
 qP Tryz.prog (fA 53 e1q 0) fun f6m =>
 qL Tryz.prog L8 (blk f6l) (lA 9 f6l) fun c8p =>
 qL Tryz.prog L8 (blk f6m) (lA 3 f6m) fun i0G =>
 qP Tryz.prog (xBin .eql 3 (.tmp 38) (.const (vI 2)) i0G (vI 2)) fun c8A =>
 qP Tryz.prog (gsem (asB c8A) false (fA 136 d8C 0)) fun i0H =>
 qP Tryz.prog (gsem (asB c8A) false (fA 53 i0H 0)) fun f6n =>
 qL Tryz.prog L8 (blk f6n) (gsem (asB c8A) false (lA 3 f6n)) fun i0I =>
 qP Tryz.prog (gsem (asB c8A) false (xBin .eql 3 (.tmp 43) (.const (vI 4)) i0I (vI 4))) fun i0J =>
 qP Tryz.prog (xPick c8A (vB true) i0J) fun i0K =>
 R (Value.tuple #[c8p, i0K]) L8)
 (R (Value.tuple #[(eS), (vB false)]) c0t)))
noncomputable def i0L : Code := Tryz.f143.body.getD .skip
def i0M : Hint := (sQ (.seq (sQ (.block (sQ (.cond (sQ (sQ .none)) (sQ (.cond (sQ (.seq (.reg [(0, 131072, 32), (1, 262144, 131072), (2, 524288, 262144), (0, 1048576, 32), (8, 2097152, 1048576), (16, 4194304, 2097152), (32, 8388608, 4194304), (64, 16777216, 8388608), (128, 33554432, 16777248), (384, 67108864, 50331648), (640, 134217728, 83886080), (1152, 268435456, 150994944), (2176, 536870912, 285212672), (135, 4, 524288), (16383, 8, 536870912)] [1060, 1060, 1056, 1060, 1060, 1028, 1060, 1060, 1060, 1060, 36, 1060, 1060, 1060, 1060] (.early 0 (.early 1 (.early 3 (.early 4 (.load 2 (.load 5 (.early 6 (.early 7 (.early 8 (.early 9 (.early 13 (.load 10 (.early 11 (.early 12 (.early 14 .done)))))))))))))))) .none)) (sQ (.cond (sQ (.seq (.reg [(0, 8589934592, 64), (1, 17179869184, 8589934592), (2, 34359738368, 17179869184), (0, 68719476736, 64), (8, 137438953472, 68719476736), (16, 274877906944, 137438953472), (32, 549755813888, 274877906944), (64, 1099511627776, 549755813888), (128, 2199023255552, 1099511627840), (384, 4398046511104, 3298534883328), (640, 8796093022208, 5497558138880), (1152, 17592186044416, 9895604649984), (2176, 35184372088832, 18691697672192), (135, 4, 34359738368), (16383, 8, 35184372088832)] [1060, 1060, 1056, 1060, 1060, 1028, 1060, 1060, 1060, 1060, 36, 1060, 1060, 1060, 1060] (.early 0 (.early 1 (.early 3 (.early 4 (.load 2 (.load 5 (.early 6 (.early 7 (.early 8 (.early 9 (.early 13 (.load 10 (.early 11 (.early 12 (.early 14 .done)))))))))))))))) .none)) .none)))))))) (sQ .none)))
theorem g8b (x0 : Value) (w : World) (R : RT) (E : Pan) : e8l x0 w R E = callX Tryz.prog [.tmp 2, .tmp 3] i0L i0M [x0] w R E := by kernel_rfl
theorem g8c {x0 : Value} (h : e8l x0 w R E) : Cv Tryz.prog 143 #[x0] w R E := by
 refine k3 (args := [x0]) (c := i0L) (h := i0M) (rs := [.tmp 2, .tmp 3]) Tryz.func143 (by kernel_rfl) (by kernel_rfl) (nB (by kernel_rfl)) (by kernel_rfl) (by kernel_rfl) (by kernel_rfl) ?_
 rw [← g8b]
 exact h
def d6B (w : World) (R : RT) (_E : Pan) : Prop :=
 ∀ _τ : Fr, (R (vB true) w)
def e6D (x21 : Value) (w : World) (next2 : NT) (j1 : NT) (R : RT) (E : Pan) : Prop :=
 oP E (xV (Instr.next x21 true 0)) w fun c8B u7 =>
 oP E (eX c8B 0) u7 fun c8C u4 =>
 xcond c8C
 (oP E (eX c8B 1) u4 fun i0N z2 =>
 oP E (eX c8B 2) z2 fun f6o B3 =>
 oP E (xCall (fC 165) [f6o]) B3 fun i0O C4 =>
 oP E (xV (Op.unary .not i0O)) C4 fun b8r B6 =>
 oP E (gsem (asB b8r) false (xBin .eql 3 (.tmp 30) (.const (vI 0)) (gval (asB b8r) false i0N) (vI 0))) B6 fun d3V A6 =>
 oP E (gsem (asB (gval (asB b8r) false d3V)) true (xCall (fC 166) [(gval (asB (gval (asB b8r) false d3V)) true f6o)])) A6 fun i0P I7 =>
 oP E (gsem (asB (gval (asB b8r) false d3V)) true (xBin .neq 3 (.tmp 34) (.const (vI 3)) i0P (vI 3))) I7 fun i0Q C7 =>
 oP E (gsem (asB b8r) false (xPick (gval (asB b8r) false d3V) i0Q (vB false))) C7 fun i0R I4 =>
 oP E (xPick b8r (vB true) i0R) I4 fun i0S E8 =>
 xcond i0S
 (R (vB false) E8)
 (next2 [] E8))
 (j1 [] u4)
def e8n (x0 : Value) (w : World) (R : RT) (E : Pan) : Prop :=
 oP E (xBin .eql 9 (.tmp 5) (.const (eS)) x0 (eS)) w fun b3F w_2 =>
 oP E (gsem (asB b3F) false (xCall (fC 162) [(gval (asB b3F) false x0)])) w_2 fun a6n w_4 =>
 oP E (gsem (asB b3F) false (xV (Op.unary .not a6n))) w_4 fun a9z w_6 =>
 oP E (xPick b3F (vB true) a9z) w_6 fun b9r w_8 =>
 oP E (gsem (asB b9r) false (xCall (fC 163) [(gval (asB b9r) false x0)])) w_8 fun b2k p5 =>
 oP E (xPick b9r (vB true) b2k) p5 fun c0y q8 =>
 oP E (gsem (asB c0y) false (xCall (fC 164) [(gval (asB c0y) false x0)])) q8 fun b2A p6 =>
 oP E (xPick c0y (vB true) b2A) p6 fun b1T r8 =>
 xcond b1T
 (R (vB false) r8)
 (xcut (fun _ s8 => d6B s8 R E) fun j1 =>
 oP E (xV (Instr.range 9 x0)) r8 fun e1r r9 =>
 xloop [] [] r9 fun _ E4 next2 =>
 e6D e1r E4 next2 j1 R E)
noncomputable def i0T : Code := Tryz.f144.body.getD .skip
def i0U : Hint := (sQ (.seq (sQ (.cond (sQ .none) .none)) (.cut [] (sQ (.block (.loop [] (sQ (.seq (.cond .none .none) (.block (sQ (sQ (.cond (sQ .none) .none))))))))) (sQ .none))))
theorem g8d (x0 : Value) (w : World) (R : RT) (E : Pan) : e8n x0 w R E = callX Tryz.prog [.tmp 2] i0T i0U [x0] w R E := by kernel_rfl
theorem g8e {x0 : Value} (h : e8n x0 w R E) : Cv Tryz.prog 144 #[x0] w R E := by
 refine k3 (args := [x0]) (c := i0T) (h := i0U) (rs := [.tmp 2]) Tryz.func144 (by kernel_rfl) (by kernel_rfl) (nB (by kernel_rfl)) (by kernel_rfl) (by kernel_rfl) (by kernel_rfl) ?_
 rw [← g8d]
 exact h
def e8o (x0 x1 : Value) (w : World) (R : RT) (E : Pan) : Prop :=
 oP E (xCall (fC 167) [x0, x1]) w fun a3X w_2 =>
 oP E (xBin .geq 3 (.tmp 7) (.const (vI 0)) a3X (vI 0)) w_2 fun b5E w_4 =>
 R b5E w_4
noncomputable def i0V : Code := Tryz.f145.body.getD .skip
def i0W : Hint := (sQ (sQ .none))
theorem g8f (x0 x1 : Value) (w : World) (R : RT) (E : Pan) : e8o x0 x1 w R E = callX Tryz.prog [.tmp 4] i0V i0W [x0, x1] w R E := by kernel_rfl
theorem g8g {x0 x1 : Value} (h : e8o x0 x1 w R E) : Cv Tryz.prog 145 #[x0, x1] w R E := by
 refine k3 (args := [x0, x1]) (c := i0V) (h := i0W) (rs := [.tmp 4]) Tryz.func145 (by kernel_rfl) (by kernel_rfl) (nB (by kernel_rfl)) (by kernel_rfl) (by kernel_rfl) (by kernel_rfl) ?_
 rw [← g8f]
 exact h
def e8p (x0 : Value) (w : World) (R : RT) (E : Pan) : Prop :=
 oP E (xCall (fC 169) [x0]) w fun b4l w_2 =>
 oP E (xBin .gtr 3 (.tmp 4) (.const (vI 32)) b4l (vI 32)) w_2 fun b6W w_4 =>
 R b6W w_4
noncomputable def i0X : Code := Tryz.f163.body.getD .skip
def i0Y : Hint := (sQ (sQ .none))
theorem g8h (x0 : Value) (w : World) (R : RT) (E : Pan) : e8p x0 w R E = callX Tryz.prog [.tmp 2] i0X i0Y [x0] w R E := by kernel_rfl
theorem g8i {x0 : Value} (h : e8p x0 w R E) : Cv Tryz.prog 163 #[x0] w R E := by
 refine k3 (args := [x0]) (c := i0X) (h := i0Y) (rs := [.tmp 2]) Tryz.func163 (by kernel_rfl) (by kernel_rfl) (nB (by kernel_rfl)) (by kernel_rfl) (by kernel_rfl) (by kernel_rfl) ?_
 rw [← g8h]
 exact h
def d6C (x4 : Value) (w : World) (R : RT) (_E : Pan) : Prop :=
 ∀ _τ : Fr, (xcond x4
 (R (vB true) w)
 (R (vB false) w))
def e8q (x0 : Value) (w : World) (R : RT) (E : Pan) : Prop :=
 xcut (fun l_1 w_2 => d6C (nth l_1 0) w_2 R E) fun j1 =>
 oP E (xBin .eql 9 (.tmp 3) (.const (Value.string ⟨#[118, 97, 114]⟩)) x0 (Value.string ⟨#[118, 97, 114]⟩)) w fun b6W w_4 =>
 xcond b6W
 (j1 [b6W] w_4)
 (oP E (xBin .eql 9 (.tmp 3) (.const (Value.string ⟨#[97, 114, 114, 97, 121]⟩)) x0 (Value.string ⟨#[97, 114, 114, 97, 121]⟩)) w_4 fun a8D w_6 =>
 xcond a8D
 (j1 [a8D] w_6)
 (oP E (xBin .eql 9 (.tmp 3) (.const (Value.string ⟨#[105, 102]⟩)) x0 (Value.string ⟨#[105, 102]⟩)) w_6 fun a7R w_8 =>
 xcond a7R
 (j1 [a7R] w_8)
 (oP E (xBin .eql 9 (.tmp 3) (.const (Value.string ⟨#[101, 108, 115, 101]⟩)) x0 (Value.string ⟨#[101, 108, 115, 101]⟩)) w_8 fun a6Z p5 =>
 xcond a6Z
 (j1 [a6Z] p5)
 (oP E (xBin .eql 9 (.tmp 3) (.const (Value.string ⟨#[119, 104, 105, 108, 101]⟩)) x0 (Value.string ⟨#[119, 104, 105, 108, 101]⟩)) p5 fun a4S q8 =>
 xcond a4S
 (j1 [a4S] q8)
 (oP E (xBin .eql 9 (.tmp 3) (.const (Value.string ⟨#[97, 115, 115, 101, 114, 116]⟩)) x0 (Value.string ⟨#[97, 115, 115, 101, 114, 116]⟩)) q8 fun a9w p6 =>
 xcond a9w
 (j1 [a9w] p6)
 (oP E (xBin .eql 9 (.tmp 3) (.const (Value.string ⟨#[97, 115, 115, 117, 109, 101]⟩)) x0 (Value.string ⟨#[97, 115, 115, 117, 109, 101]⟩)) p6 fun b5F r8 =>
 xcond b5F
 (j1 [b5F] r8)
 (oP E (xBin .eql 9 (.tmp 3) (.const (Value.string ⟨#[115, 107, 105, 112]⟩)) x0 (Value.string ⟨#[115, 107, 105, 112]⟩)) r8 fun b5G s8 =>
 xcond b5G
 (j1 [b5G] s8)
 (oP E (xBin .eql 9 (.tmp 3) (.const (Value.string ⟨#[105, 110, 112, 117, 116]⟩)) x0 (Value.string ⟨#[105, 110, 112, 117, 116]⟩)) s8 fun b2B r9 =>
 xcond b2B
 (j1 [b2B] r9)
 (oP E (xBin .eql 9 (.tmp 3) (.const (Value.string ⟨#[116, 114, 117, 101]⟩)) x0 (Value.string ⟨#[116, 114, 117, 101]⟩)) r9 fun b5H u7 =>
 xcond b5H
 (j1 [b5H] u7)
 (oP E (xBin .eql 9 (.tmp 3) (.const (Value.string ⟨#[102, 97, 108, 115, 101]⟩)) x0 (Value.string ⟨#[102, 97, 108, 115, 101]⟩)) u7 fun c8D u4 =>
 j1 [c8D] u4))))))))))
noncomputable def i0Z : Code := Tryz.f164.body.getD .skip
def i1a : Hint := (sQ (.seq (sQ (.block (.cut [4] (sQ (.cond .none (sQ (.cond .none (sQ (.cond .none (sQ (.cond .none (sQ (.cond .none (sQ (.cond .none (sQ (.cond .none (sQ (.cond .none (sQ (.cond .none (sQ (.cond .none .none)))))))))))))))))))) (.cond (sQ .none) .none)))) (sQ .none)))
theorem g8j (x0 : Value) (w : World) (R : RT) (E : Pan) : e8q x0 w R E = callX Tryz.prog [.tmp 2] i0Z i1a [x0] w R E := by kernel_rfl
theorem g8k {x0 : Value} (h : e8q x0 w R E) : Cv Tryz.prog 164 #[x0] w R E := by
 refine k3 (args := [x0]) (c := i0Z) (h := i1a) (rs := [.tmp 2]) Tryz.func164 (by kernel_rfl) (by kernel_rfl) (nB (by kernel_rfl)) (by kernel_rfl) (by kernel_rfl) (by kernel_rfl) ?_
 rw [← g8j]
 exact h
def e8r (x0 : Value) (w : World) (R : RT) (E : Pan) : Prop :=
 oP E (xCall (fC 166) [x0]) w fun d1X w_2 =>
 oP E (xBin .eql 3 (.tmp 6) (.const (vI 3)) d1X (vI 3)) w_2 fun b1d w_4 =>
 oP E (gsem (asB b1d) false (xBin .eql 3 (.tmp 9) (.const (vI 4)) (gval (asB b1d) false d1X) (vI 4))) w_4 fun a9z w_6 =>
 oP E (xPick b1d (vB true) a9z) w_6 fun b9r w_8 =>
 R b9r w_8
noncomputable def i1b : Code := Tryz.f165.body.getD .skip
def i1c : Hint := (sQ (sQ (sQ .none)))
theorem g8l (x0 : Value) (w : World) (R : RT) (E : Pan) : e8r x0 w R E = callX Tryz.prog [.tmp 2] i1b i1c [x0] w R E := by kernel_rfl
theorem g8m {x0 : Value} (h : e8r x0 w R E) : Cv Tryz.prog 165 #[x0] w R E := by
 refine k3 (args := [x0]) (c := i1b) (h := i1c) (rs := [.tmp 2]) Tryz.func165 (by kernel_rfl) (by kernel_rfl) (nB (by kernel_rfl)) (by kernel_rfl) (by kernel_rfl) (by kernel_rfl) ?_
 rw [← g8l]
 exact h
def d6D (x39 : Value) (w : World) (R : RT) (_E : Pan) : Prop :=
 ∀ _τ : Fr, (xcond x39
 (R (vI 3) w)
 (R (vI 6) w))
def d6E (x1 x31 : Value) (w : World) (R : RT) (E : Pan) : Prop :=
 ∀ _τ : Fr, (xcond x31
 (R (vI 6) w)
 (oP E (xV (Instr.makeFunc (.func 170) #[] #[x1])) w fun c9Y w_8 =>
 oP E (xCall c9Y [(Value.int .i32 48), (Value.int .i32 57)]) w_8 fun j4j p5 =>
 xcond j4j
 (R (vI 4) p5)
 (xcut (fun d1Y q8 => d6D (nth d1Y 0) q8 R E) fun j4 =>
 oP E (lA 21 x1) p5 fun i1d p6 =>
 oP E (xBin .eql 21 (.tmp 40) (.const (Value.int .i32 95)) i1d (Value.int .i32 95)) p6 fun f6p r8 =>
 xcond f6p
 (j4 [f6p] r8)
 (oP E (xCall c9Y [(Value.int .i32 97), (Value.int .i32 122)]) r8 fun d3P s8 =>
 xcond d3P
 (j4 [d3P] s8)
 (oP E (xCall c9Y [(Value.int .i32 65), (Value.int .i32 90)]) s8 fun f6q r9 =>
 xcond f6q
 (j4 [f6q] r9)
 (oP E (xCall c9Y [(Value.int .i32 192), (Value.int .i32 591)]) r9 fun f6r u7 =>
 xcond f6r
 (j4 [f6r] u7)
 (oP E (xCall c9Y [(Value.int .i32 913), (Value.int .i32 969)]) u7 fun f6s u4 =>
 xcond f6s
 (j4 [f6s] u4)
 (oP E (xCall c9Y [(Value.int .i32 1040), (Value.int .i32 1103)]) u4 fun i1e z2 =>
 j4 [i1e] z2))))))))
def d6F (x1 x4 x11 : Value) (w : World) (R : RT) (E : Pan) : Prop :=
 ∀ _τ : Fr, (xcond x11
 (R (vI 5) w)
 (xcut (fun d6v B3 => d6E x1 (nth d6v 0) B3 R E) fun j3 =>
 oP E (xBin .eql 21 (.tmp 4) (.const (Value.int .i32 215)) x4 (Value.int .i32 215)) w fun c8E C4 =>
 xcond c8E
 (j3 [c8E] C4)
 (oP E (xBin .eql 21 (.tmp 4) (.const (Value.int .i32 247)) x4 (Value.int .i32 247)) C4 fun f6t B6 =>
 xcond f6t
 (j3 [f6t] B6)
 (oP E (xBin .eql 21 (.tmp 4) (.const (Value.int .i32 930)) x4 (Value.int .i32 930)) B6 fun i1f A6 =>
 j3 [i1f] A6))))
def d6G (x1 x4 x5 : Value) (w : World) (R : RT) (E : Pan) : Prop :=
 ∀ _τ : Fr, (xcond x5
 (R (vI 1) w)
 (oP E (xBin .eql 21 (.tmp 4) (.const (Value.int .i32 10)) x4 (Value.int .i32 10)) w fun a9z w_6 =>
 xcond a9z
 (R (vI 2) w_6)
 (xcut (fun c5C I7 => d6F x1 x4 (nth c5C 0) I7 R E) fun j2 =>
 oP E (xBin .eql 21 (.tmp 4) (.const (Value.int .i32 59)) x4 (Value.int .i32 59)) w_6 fun f6u C7 =>
 xcond f6u
 (j2 [f6u] C7)
 (oP E (xBin .eql 21 (.tmp 4) (.const (Value.int .i32 44)) x4 (Value.int .i32 44)) C7 fun f6v I4 =>
 xcond f6v
 (j2 [f6v] I4)
 (oP E (xBin .eql 21 (.tmp 4) (.const (Value.int .i32 123)) x4 (Value.int .i32 123)) I4 fun f6w E8 =>
 xcond f6w
 (j2 [f6w] E8)
 (oP E (xBin .eql 21 (.tmp 4) (.const (Value.int .i32 125)) x4 (Value.int .i32 125)) E8 fun f6x E4 =>
 xcond f6x
 (j2 [f6x] E4)
 (oP E (xBin .eql 21 (.tmp 4) (.const (Value.int .i32 40)) x4 (Value.int .i32 40)) E4 fun f6y N1 =>
 xcond f6y
 (j2 [f6y] N1)
 (oP E (xBin .eql 21 (.tmp 4) (.const (Value.int .i32 41)) x4 (Value.int .i32 41)) N1 fun f6z M6 =>
 xcond f6z
 (j2 [f6z] M6)
 (oP E (xBin .eql 21 (.tmp 4) (.const (Value.int .i32 91)) x4 (Value.int .i32 91)) M6 fun f6A L8 =>
 xcond f6A
 (j2 [f6A] L8)
 (oP E (xBin .eql 21 (.tmp 4) (.const (Value.int .i32 93)) x4 (Value.int .i32 93)) L8 fun d3Q N0 =>
 xcond d3Q
 (j2 [d3Q] N0)
 (oP E (xBin .eql 21 (.tmp 4) (.const (Value.int .i32 61)) x4 (Value.int .i32 61)) N0 fun d3R K5 =>
 xcond d3R
 (j2 [d3R] K5)
 (oP E (xBin .eql 21 (.tmp 4) (.const (Value.int .i32 33)) x4 (Value.int .i32 33)) K5 fun d3S N4 =>
 xcond d3S
 (j2 [d3S] N4)
 (oP E (xBin .eql 21 (.tmp 4) (.const (Value.int .i32 60)) x4 (Value.int .i32 60)) N4 fun d3T L4 =>
 xcond d3T
 (j2 [d3T] L4)
 (oP E (xBin .eql 21 (.tmp 4) (.const (Value.int .i32 62)) x4 (Value.int .i32 62)) L4 fun d3U Q3 =>
 xcond d3U
 (j2 [d3U] Q3)
 (oP E (xBin .eql 21 (.tmp 4) (.const (Value.int .i32 43)) x4 (Value.int .i32 43)) Q3 fun f6B R5 =>
 xcond f6B
 (j2 [f6B] R5)
 (oP E (xBin .eql 21 (.tmp 4) (.const (Value.int .i32 45)) x4 (Value.int .i32 45)) R5 fun f6C Q5 =>
 xcond f6C
 (j2 [f6C] Q5)
 (oP E (xBin .eql 21 (.tmp 4) (.const (Value.int .i32 42)) x4 (Value.int .i32 42)) Q5 fun f6D V0 =>
 xcond f6D
 (j2 [f6D] V0)
 (oP E (xBin .eql 21 (.tmp 4) (.const (Value.int .i32 47)) x4 (Value.int .i32 47)) V0 fun f6E T2 =>
 xcond f6E
 (j2 [f6E] T2)
 (oP E (xBin .eql 21 (.tmp 4) (.const (Value.int .i32 37)) x4 (Value.int .i32 37)) T2 fun f6F T7 =>
 xcond f6F
 (j2 [f6F] T7)
 (oP E (xBin .eql 21 (.tmp 4) (.const (Value.int .i32 38)) x4 (Value.int .i32 38)) T7 fun f6G Z0 =>
 xcond f6G
 (j2 [f6G] Z0)
 (oP E (xBin .eql 21 (.tmp 4) (.const (Value.int .i32 124)) x4 (Value.int .i32 124)) Z0 fun i1g Z1 =>
 j2 [i1g] Z1)))))))))))))))))))))
def e8s (x0 : Value) (w : World) (R : RT) (E : Pan) : Prop :=
 oP E (xV (Instr.box 21 x0)) w fun q7 w_2 =>
 oP E (lA 21 q7) w_2 fun a8F w_4 =>
 xcut (fun i1h Z2 => d6G q7 a8F (nth i1h 0) Z2 R E) fun j1 =>
 oP E (xBin .eql 21 (.tmp 4) (.const (Value.int .i32 32)) a8F (Value.int .i32 32)) w_4 fun g4F X1 =>
 xcond g4F
 (j1 [g4F] X1)
 (oP E (xBin .eql 21 (.tmp 4) (.const (Value.int .i32 9)) a8F (Value.int .i32 9)) X1 fun g4G Y5 =>
 xcond g4G
 (j1 [g4G] Y5)
 (oP E (xBin .eql 21 (.tmp 4) (.const (Value.int .i32 13)) a8F (Value.int .i32 13)) Y5 fun j4k a0f =>
 j1 [j4k] a0f))
noncomputable def i1i : Code := Tryz.f166.body.getD .skip
def i1j : Hint := (sQ (.seq (sQ (.block (.cut [5] (sQ (.cond .none (sQ (.cond .none .none)))) (.cond (sQ .none) (sQ (.cond (sQ .none) (.cut [11] (sQ (.cond .none (sQ (.cond .none (sQ (.cond .none (sQ (.cond .none (sQ (.cond .none (sQ (.cond .none (sQ (.cond .none (sQ (.cond .none (sQ (.cond .none (sQ (.cond .none (sQ (.cond .none (sQ (.cond .none (sQ (.cond .none (sQ (.cond .none (sQ (.cond .none (sQ (.cond .none (sQ (.cond .none (sQ (.cond .none .none)))))))))))))))))))))))))))))))))))) (.cond (sQ .none) (.cut [31] (sQ (.cond .none (sQ (.cond .none .none)))) (.cond (sQ .none) .none)))))))))) (sQ (.seq (.block (sQ (.cond (sQ .none) (.cut [39] (sQ (.cond .none (sQ (.cond .none (sQ (.cond .none (sQ (.cond .none (sQ (.cond .none .none)))))))))) (.cond (sQ .none) .none))))) (sQ .none)))))
theorem g8n (x0 : Value) (w : World) (R : RT) (E : Pan) : e8s x0 w R E = callX Tryz.prog [.tmp 2] i1i i1j [x0] w R E := by kernel_rfl
theorem g8o {x0 : Value} (h : e8s x0 w R E) : Cv Tryz.prog 166 #[x0] w R E := by
 refine k3 (args := [x0]) (c := i1i) (h := i1j) (rs := [.tmp 2]) Tryz.func166 (by kernel_rfl) (by kernel_rfl) (nB (by kernel_rfl)) (by kernel_rfl) (by kernel_rfl) (by kernel_rfl) ?_
 rw [← g8n]
 exact h
def d6H (w : World) (R : RT) (_E : Pan) : Prop :=
 ∀ _τ : Fr, (R (vI (-1)) w)
def e6E (x0 x1 x7 x8 : Value) (w : World) (next2 : NT) (j1 : NT) (R : RT) (E : Pan) : Prop :=
 oP E (xBin .lss 3 (.tmp 8) (.tmp 7) x8 x7) w fun c5D w_6 =>
 xcond c5D
 (oP E (iA 88 x0 x8) w_6 fun a3J w_8 =>
 oP E (lA 9 a3J) w_8 fun c5E p5 =>
 oP E (xBin .eql 9 (.tmp 11) (.tmp 15) x1 c5E) p5 fun a4Y q8 =>
 xcond a4Y
 (R x8 q8)
 (oP E (xBin .add 3 (.tmp 8) (.const (vI 1)) x8 (vI 1)) q8 fun b2A p6 =>
 next2 [b2A] p6))
 (j1 [] w_6)
def e8t (x0 x1 : Value) (w : World) (R : RT) (E : Pan) : Prop :=
 xcut (fun _ w_2 => d6H w_2 R E) fun j1 =>
 oP E (xBuiltin .len #[88] 3 [false] [x0]) w fun b1d w_4 =>
 xloop [8] [(vI 0)] w_4 fun τ_15 r8 next2 =>
 e6E x0 x1 b1d (τ_15 8) r8 next2 j1 R E
noncomputable def i1k : Code := Tryz.f167.body.getD .skip
def i1l : Hint := (sQ (.cut [] (sQ (.block (.loop [8] (sQ (.seq (.cond .none .none) (.seq (.block (sQ (sQ (.cond (sQ .none) .none)))) .none)))))) (sQ .none)))
theorem g8p (x0 x1 : Value) (w : World) (R : RT) (E : Pan) : e8t x0 x1 w R E = callX Tryz.prog [.tmp 4] i1k i1l [x0, x1] w R E := by kernel_rfl
theorem g8q {x0 x1 : Value} (h : e8t x0 x1 w R E) : Cv Tryz.prog 167 #[x0, x1] w R E := by
 refine k3 (args := [x0, x1]) (c := i1k) (h := i1l) (rs := [.tmp 4]) Tryz.func167 (by kernel_rfl) (by kernel_rfl) (nB (by kernel_rfl)) (by kernel_rfl) (by kernel_rfl) (by kernel_rfl) ?_
 rw [← g8p]
 exact h
def d6I (x2 : Value) (w : World) (R : RT) (_E : Pan) : Prop :=
 ∀ _τ : Fr, (R x2 w)
def e6F (x2 x4 : Value) (w : World) (next2 : NT) (j1 : NT) (_R : RT) (E : Pan) : Prop :=
 oP E (xV (Instr.next x4 true 0)) w fun b6X w_6 =>
 oP E (eX b6X 0) w_6 fun a7G w_8 =>
 xcond a7G
 (oP E (xBin .add 3 (.tmp 7) (.const (vI 1)) x2 (vI 1)) w_8 fun a6Z p5 =>
 next2 [a6Z] p5)
 (j1 [x2] w_8)
def e8u (x0 : Value) (w : World) (R : RT) (E : Pan) : Prop :=
 xcut (fun l_1 w_2 => d6I (nth l_1 0) w_2 R E) fun j1 =>
 oP E (xV (Instr.range 9 x0)) w fun a8F w_4 =>
 xloop [2] [(vI 0)] w_4 fun τ_11 q8 next2 =>
 e6F (τ_11 2) a8F q8 next2 j1 R E
noncomputable def i1m : Code := Tryz.f169.body.getD .skip
def i1n : Hint := (sQ (.cut [2] (sQ (.block (.loop [2] (sQ (.seq (.cond .none .none) (.block .none)))))) (sQ .none)))
theorem g8r (x0 : Value) (w : World) (R : RT) (E : Pan) : e8u x0 w R E = callX Tryz.prog [.tmp 2] i1m i1n [x0] w R E := by kernel_rfl
theorem g8s {x0 : Value} (h : e8u x0 w R E) : Cv Tryz.prog 169 #[x0] w R E := by
 refine k3 (args := [x0]) (c := i1m) (h := i1n) (rs := [.tmp 2]) Tryz.func169 (by kernel_rfl) (by kernel_rfl) (nB (by kernel_rfl)) (by kernel_rfl) (by kernel_rfl) (by kernel_rfl) ?_
 rw [← g8r]
 exact h
def e8v (x0 x1 x2 : Value) (w : World) (R : RT) (E : Pan) : Prop :=
 oP E (lA 21 x2) w fun a3X w_2 =>
 oP E (xBin .leq 21 (.tmp 6) (.tmp 7) x0 a3X) w_2 fun b5E w_4 =>
 oP E (gsem (asB b5E) true (lA 21 x2)) w_4 fun a9z w_6 =>
 oP E (gsem (asB b5E) true (xBin .leq 21 (.tmp 10) (.tmp 11) a9z (gval (asB b5E) true x1))) w_6 fun a1J w_8 =>
 oP E (xPick b5E a1J (vB false)) w_8 fun a6K p5 =>
 R a6K p5
noncomputable def i1o : Code := Tryz.f170.body.getD .skip
def i1p : Hint := (sQ (sQ .none))
theorem g8t (x0 x1 x2 : Value) (w : World) (R : RT) (E : Pan) : e8v x0 x1 x2 w R E = callX Tryz.prog [.tmp 5] i1o i1p [x0, x1, x2] w R E := by kernel_rfl
theorem g8u {x0 x1 x2 : Value} (h : e8v x0 x1 x2 w R E) : Cv Tryz.prog 170 #[x0, x1, x2] w R E := by
 refine k3 (args := [x0, x1, x2]) (c := i1o) (h := i1p) (rs := [.tmp 5]) Tryz.func170 (by kernel_rfl) (by kernel_rfl) (nB (by kernel_rfl)) (by kernel_rfl) (by kernel_rfl) (by kernel_rfl) ?_
 rw [← g8t]
 exact h
def d6J (x3 x59 : Value) (w : World) (R : RT) (E : Pan) : Prop :=
 ∀ _τ : Fr, (xcond x59
 (oP E (xBin .eql 3 (.tmp 65) (.const (vI 2)) x3 (vI 2)) w fun i1q X1 =>
 R i1q X1)
 (R (vB false) w))
def d6K (x3 x38 x54 : Value) (w : World) (R : RT) (E : Pan) : Prop :=
 ∀ _τ : Fr, (xcond x54
 (oP E (xBin .eql 3 (.tmp 57) (.const (vI 1)) x3 (vI 1)) w fun i1r Z2 =>
 R i1r Z2)
 (xcut (fun b3G Y5 => d6J x3 (nth b3G 0) Y5 R E) fun j3 =>
 oP E (xBin .eql 3 (.tmp 38) (.const (vI 6)) x38 (vI 6)) w fun c0z a0f =>
 xcond c0z
 (j3 [c0z] a0f)
 (oP E (xBin .eql 3 (.tmp 38) (.const (vI 7)) x38 (vI 7)) a0f fun f6H Z3 =>
 xcond f6H
 (j3 [f6H] Z3)
 (oP E (xBin .eql 3 (.tmp 38) (.const (vI 8)) x38 (vI 8)) Z3 fun f6I a0g =>
 xcond f6I
 (j3 [f6I] a0g)
 (oP E (xBin .eql 3 (.tmp 38) (.const (vI 9)) x38 (vI 9)) a0g fun f6J Z4 =>
 xcond f6J
 (j3 [f6J] Z4)
 (oP E (xBin .eql 3 (.tmp 38) (.const (vI 10)) x38 (vI 10)) Z4 fun i1s a1Q =>
 j3 [i1s] a1Q))))))
def d6L (x3 x38 x49 : Value) (w : World) (R : RT) (E : Pan) : Prop :=
 ∀ _τ : Fr, (xcond x49
 (oP E (xBin .eql 3 (.tmp 52) (.const (vI 0)) x3 (vI 0)) w fun c8w Z1 =>
 R c8w Z1)
 (xcut (fun k0H a2K => d6K x3 x38 (nth k0H 0) a2K R E) fun j2 =>
 oP E (xBin .eql 3 (.tmp 38) (.const (vI 4)) x38 (vI 4)) w fun f6K V4 =>
 xcond f6K
 (j2 [f6K] V4)
 (oP E (xBin .eql 3 (.tmp 38) (.const (vI 5)) x38 (vI 5)) V4 fun i1t a3u =>
 j2 [i1t] a3u)))
def e8w (x0 : Value) (w : World) (R : RT) (E : Pan) : Prop :=
 oP E (xV (Instr.box 136 x0)) w fun q7 w_2 =>
 oP E (fA 136 q7 0) w_2 fun c5F w_4 =>
 oP E (fA 53 c5F 3) w_4 fun b2y w_6 =>
 oP E (lA 51 b2y) w_6 fun b1Z w_8 =>
 oP E (xBuiltin .len #[51] 3 [false] [b1Z]) w_8 fun b8N p5 =>
 oP E (lA 136 q7) p5 fun c0B q8 =>
 oP E (xV (Instr.makeInterface 136 c0B)) q8 fun c8y p6 =>
 oP E (xCall (fC 143) [c8y]) p6 fun b0D r8 =>
 oP E (eX b0D 0) r8 fun _t14_17 s8 =>
 oP E (eX b0D 1) s8 fun a4O r9 =>
 oP E (fA 136 q7 0) r9 fun a6d u7 =>
 oP E (fA 53 a6d 0) u7 fun b5w u4 =>
 oP E (lA 3 b5w) u4 fun a4P z2 =>
 oP E (xBin .neq 3 (.tmp 18) (.const (vI 1)) a4P (vI 1)) z2 fun b2u B3 =>
 oP E (gsem (asB b2u) true (fA 136 q7 0)) B3 fun e0z C4 =>
 oP E (gsem (asB b2u) true (fA 53 e0z 1)) C4 fun e0A B6 =>
 oP E (gsem (asB b2u) true (lA 2 e0A)) B6 fun c8n A6 =>
 oP E (gsem (asB b2u) true (xBin .neq 2 (.tmp 23) (.const (vI 0)) c8n (vI 0))) A6 fun c0l I7 =>
 oP E (xPick b2u c0l (vB false)) I7 fun a8E C7 =>
 oP E (gsem (asB a8E) false (xV (Op.unary .not (gval (asB a8E) false a4O)))) C7 fun c0x I4 =>
 oP E (gsem (asB (gval (asB a8E) false c0x)) true (fA 136 q7 0)) I4 fun i1u E8 =>
 oP E (gsem (asB (gval (asB a8E) false c0x)) true (fA 53 i1u 2)) E8 fun i1v E4 =>
 oP E (gsem (asB (gval (asB a8E) false c0x)) true (lA 9 i1v)) E4 fun e1d N1 =>
 oP E (gsem (asB (gval (asB a8E) false c0x)) true (xBin .neq 9 (.tmp 32) (.const (eS)) e1d (eS))) N1 fun e1e M6 =>
 oP E (gsem (asB a8E) false (xPick (gval (asB a8E) false c0x) e1e (vB false))) M6 fun e1f L8 =>
 oP E (xPick a8E (vB true) e1f) L8 fun i1w N0 =>
 xcond i1w
 (R (vB false) N0)
 (oP E (fA 136 q7 0) N0 fun e1q K5 =>
 oP E (fA 53 e1q 0) K5 fun i1x N4 =>
 oP E (lA 3 i1x) N4 fun d3W L4 =>
 oP E (xBin .eql 3 (.tmp 38) (.const (vI 1)) d3W (vI 1)) L4 fun i1y Q3 =>
 xcond i1y
 (oP E (fA 136 q7 0) Q3 fun i1z R5 =>
 oP E (fA 53 i1z 1) R5 fun i1A Q5 =>
 oP E (lA 2 i1A) Q5 fun i1B V0 =>
 oP E (xBin .geq 2 (.tmp 43) (.const (vI 0)) i1B (vI 0)) V0 fun c8F T2 =>
 oP E (gsem (asB c8F) true (xBin .eql 3 (.tmp 46) (.const (vI 0)) (gval (asB c8F) true b8N) (vI 0))) T2 fun i1C T7 =>
 oP E (xPick c8F i1C (vB false)) T7 fun i1D Z0 =>
 R i1D Z0)
 (xcut (fun e8x a6m => d6L b8N d3W (nth e8x 0) a6m R E) fun j1 =>
 oP E (xBin .eql 3 (.tmp 38) (.const (vI 2)) d3W (vI 2)) Q3 fun f6L a1H =>
 xcond f6L
 (j1 [f6L] a1H)
 (oP E (xBin .eql 3 (.tmp 38) (.const (vI 3)) d3W (vI 3)) a1H fun g8v a1I =>
 j1 [g8v] a1I)))
noncomputable def i1E : Code := Tryz.f187.body.getD .skip
def i1F : Hint := (sQ (sQ (sQ (.seq (sQ (.cond (sQ .none) .none)) (.seq (sQ (.block (sQ (.cond (sQ .none) (.cut [49] (sQ (.cond .none .none)) (.cond (sQ .none) (.cut [54] (sQ (.cond .none .none)) (.cond (sQ .none) (.cut [59] (sQ (.cond .none (sQ (.cond .none (sQ (.cond .none (sQ (.cond .none .none)))))))) (.cond (sQ .none) .none)))))))))) (sQ .none))))))
theorem g8w (x0 : Value) (w : World) (R : RT) (E : Pan) : e8w x0 w R E = callX Tryz.prog [.tmp 2] i1E i1F [x0] w R E := by kernel_rfl
theorem g8x {x0 : Value} (h : e8w x0 w R E) : Cv Tryz.prog 187 #[x0] w R E := by
 refine k3 (args := [x0]) (c := i1E) (h := i1F) (rs := [.tmp 2]) Tryz.func187 (by kernel_rfl) (by kernel_rfl) (nB (by kernel_rfl)) (by kernel_rfl) (by kernel_rfl) (by kernel_rfl) ?_
 rw [← g8w]
 exact h
def e8y (x0 : Value) (w : World) (R : RT) (E : Pan) : Prop :=
 oP E (xV (Instr.box 136 x0)) w fun q7 w_2 =>
 oP E (fA 136 q7 0) w_2 fun a0o w_4 =>
 oP E (fA 53 a0o 3) w_4 fun a6l w_6 =>
 oP E (lA 51 a6l) w_6 fun a9T w_8 =>
 oP E (xCall (fC 189) [a9T, (fC 190)]) w_8 fun b2v p5 =>
 R b2v p5
noncomputable def i1G : Code := Tryz.f188.body.getD .skip
def i1H : Hint := (sQ (sQ .none))
theorem g8y (x0 : Value) (w : World) (R : RT) (E : Pan) : e8y x0 w R E = callX Tryz.prog [.tmp 2] i1G i1H [x0] w R E := by kernel_rfl
theorem g8z {x0 : Value} (h : e8y x0 w R E) : Cv Tryz.prog 188 #[x0] w R E := by
 refine k3 (args := [x0]) (c := i1G) (h := i1H) (rs := [.tmp 2]) Tryz.func188 (by kernel_rfl) (by kernel_rfl) (nB (by kernel_rfl)) (by kernel_rfl) (by kernel_rfl) (by kernel_rfl) ?_
 rw [← g8y]
 exact h
def d6M (x5 : Value) (w : World) (R : RT) (_E : Pan) : Prop :=
 ∀ _τ : Fr, (R x5 w)
def e6G (x1 x5 x8 x9 x10 : Value) (w : World) (next2 : NT) (j1 : NT) (_R : RT) (E : Pan) : Prop :=
 oP E (xBin .lss 3 (.tmp 10) (.tmp 9) x10 x9) w fun a4T w_6 =>
 xcond a4T
 (oP E (iA 51 x8 x10) w_6 fun a1J w_8 =>
 oP E (lA 53 a1J) w_8 fun a6K p5 =>
 oP E (xV (Instr.alloc 53 true (.tuple #[]))) p5 fun X5 q8 =>
 oP E (sA 53 X5 a6K) q8 fun _z_13 p6 =>
 oP E (lA 53 X5) p6 fun a7a r8 =>
 oP E (xCall x1 [a7a]) r8 fun a7b s8 =>
 oP E (xV (Instr.buildSlice 137 1 #[(0, a7b)])) s8 fun a4U r9 =>
 oP E (xBuiltin .append #[137, 137] 137 [false, false] [x5, a4U]) r9 fun a7c u7 =>
 oP E (xBin .add 3 (.tmp 10) (.const (vI 1)) x10 (vI 1)) u7 fun a4V u4 =>
 next2 [a7c, a4V] u4)
 (j1 [x5] w_6)
def e8z (x0 x1 : Value) (w : World) (R : RT) (E : Pan) : Prop :=
 xcut (fun l_1 w_2 => d6M (nth l_1 0) w_2 R E) fun j1 =>
 oP E (xBuiltin .len #[51] 3 [false] [x0]) w fun a6n w_4 =>
 xloop [5, 10] [(nS), (vI 0)] w_4 fun τ_25 z2 next2 =>
 e6G x1 (τ_25 5) x0 a6n (τ_25 10) z2 next2 j1 R E
noncomputable def i1I : Code := Tryz.f189.body.getD .skip
def i1J : Hint := (sQ (sQ (.cut [5] (sQ (.block (.loop [5, 10] (sQ (.seq (.cond .none .none) (.seq (.block (sQ .none)) .none)))))) (sQ .none))))
theorem g8A (x0 x1 : Value) (w : World) (R : RT) (E : Pan) : e8z x0 x1 w R E = callX Tryz.prog [.tmp 4] i1I i1J [x0, x1] w R E := by kernel_rfl
theorem g8B {x0 x1 : Value} (h : e8z x0 x1 w R E) : Cv Tryz.prog 189 #[x0, x1] w R E := by
 refine k3 (args := [x0, x1]) (c := i1I) (h := i1J) (rs := [.tmp 4]) Tryz.func189 (by kernel_rfl) (by kernel_rfl) (nB (by kernel_rfl)) (by kernel_rfl) (by kernel_rfl) (by kernel_rfl) ?_
 rw [← g8A]
 exact h
def e8A (x0 : Value) (w : World) (R : RT) (E : Pan) : Prop :=
 oP E (xV (Instr.box 53 x0)) w fun q7 w_2 =>
 oP E (lA 53 q7) w_2 fun a0o w_4 =>
 oP E (xV (Instr.build 136 #[(0, a0o)])) w_4 fun a6l w_6 =>
 oP E (xV (Instr.makeInterface 136 a6l)) w_6 fun a9T w_8 =>
 R a9T w_8
noncomputable def i1K : Code := Tryz.f190.body.getD .skip
def i1L : Hint := (sQ (sQ .none))
theorem g8C (x0 : Value) (w : World) (R : RT) (E : Pan) : e8A x0 w R E = callX Tryz.prog [.tmp 2] i1K i1L [x0] w R E := by kernel_rfl
theorem g8D {x0 : Value} (h : e8A x0 w R E) : Cv Tryz.prog 190 #[x0] w R E := by
 refine k3 (args := [x0]) (c := i1K) (h := i1L) (rs := [.tmp 2]) Tryz.func190 (by kernel_rfl) (by kernel_rfl) (nB (by kernel_rfl)) (by kernel_rfl) (by kernel_rfl) (by kernel_rfl) ?_
 rw [← g8C]
 exact h
def d6N (x3 x50 : Value) (w : World) (R : RT) (E : Pan) : Prop :=
 ∀ _τ : Fr, (xcond x50
 (oP E (lA 236 x3) w fun e1s Z4 =>
 oP E (xV (Instr.build 236 #[(0, (vI 0)), (1, (vI 2))])) Z4 fun e1t a1Q =>
 oP E (xBin .eql 236 (.tmp 53) (.tmp 54) e1s e1t) a1Q fun e1u a2K =>
 R e1u a2K)
 (R (vB false) w))
def d6O (x3 x38 x39 : Value) (w : World) (R : RT) (E : Pan) : Prop :=
 ∀ _τ : Fr, (xcond x39
 (oP E (lA 236 x3) w fun i1M Z1 =>
 oP E (xV (Instr.build 236 #[])) Z1 fun i1N Z2 =>
 oP E (xBin .eql 236 (.tmp 42) (.tmp 43) i1M i1N) Z2 fun i1O X1 =>
 R i1O X1)
 (oP E (xBin .eql 3 (.tmp 38) (.const (vI 4)) x38 (vI 4)) w fun i1P Y5 =>
 xcond i1P
 (oP E (lA 236 x3) Y5 fun i1Q a0f =>
 oP E (xV (Instr.build 236 #[(0, (vI 0)), (1, (vI 1))])) a0f fun i1R Z3 =>
 oP E (xBin .eql 236 (.tmp 47) (.tmp 48) i1Q i1R) Z3 fun i1S a0g =>
 R i1S a0g)
 (xcut (fun e1v V4 => d6N x3 (nth e1v 0) V4 R E) fun j2 =>
 oP E (xBin .eql 3 (.tmp 38) (.const (vI 5)) x38 (vI 5)) Y5 fun f6M a3u =>
 xcond f6M
 (j2 [f6M] a3u)
 (oP E (xBin .eql 3 (.tmp 38) (.const (vI 6)) x38 (vI 6)) a3u fun e1i a6m =>
 j2 [e1i] a6m))))
def e8B (x0 : Value) (w : World) (R : RT) (E : Pan) : Prop :=
 oP E (xV (Instr.box 143 x0)) w fun q7 w_2 =>
 oP E (fA 143 q7 0) w_2 fun a8F w_4 =>
 oP E (fA 59 a8F 2) w_4 fun b6X w_6 =>
 oP E (lA 51 b6X) w_6 fun a7G w_8 =>
 oP E (xBuiltin .len #[51] 3 [false] [a7G]) w_8 fun d1Z p5 =>
 oP E (fA 143 q7 0) p5 fun c5A q8 =>
 oP E (fA 59 c5A 3) q8 fun c5G p6 =>
 oP E (lA 57 c5G) p6 fun c8G r8 =>
 oP E (xBuiltin .len #[57] 3 [false] [c8G]) r8 fun a7e s8 =>
 oP E (xV (Instr.build 236 #[(0, d1Z), (1, a7e)])) s8 fun b3V r9 =>
 oP E (xV (Instr.alloc 236 true (.tuple #[]))) r9 fun e8C u7 =>
 oP E (sA 236 e8C b3V) u7 fun _z_23 u4 =>
 oP E (fA 143 q7 0) u4 fun e1w z2 =>
 oP E (fA 59 e1w 0) z2 fun i1T B3 =>
 oP E (lA 3 i1T) B3 fun i1U C4 =>
 oP E (xBin .eql 3 (.tmp 15) (.const (vI 3)) i1U (vI 3)) C4 fun i1V B6 =>
 xcond i1V
 (oP E (fA 143 q7 0) B6 fun e0W A6 =>
 oP E (fA 59 e0W 1) A6 fun c8u I7 =>
 oP E (lA 3 c8u) I7 fun i1W C7 =>
 oP E (xBin .geq 3 (.tmp 19) (.const (vI 1)) i1W (vI 1)) C7 fun c8H I4 =>
 oP E (gsem (asB c8H) true (fA 143 q7 0)) I4 fun i1X E8 =>
 oP E (gsem (asB c8H) true (fA 59 i1X 1)) E8 fun i1Y E4 =>
 oP E (gsem (asB c8H) true (lA 3 i1Y)) E4 fun i1Z N1 =>
 oP E (gsem (asB c8H) true (xBin .leq 3 (.tmp 24) (.const (vI 6)) i1Z (vI 6))) N1 fun i2a M6 =>
 oP E (xPick c8H i2a (vB false)) M6 fun d3X L8 =>
 oP E (gsem (asB d3X) true (lA 236 e8C)) L8 fun c8I N0 =>
 oP E (gsem (asB d3X) true (xV (Instr.build 236 #[(0, (vI 2)), (1, (vI 0))]))) N0 fun i2b K5 =>
 oP E (gsem (asB d3X) true (xBin .eql 236 (.tmp 28) (.tmp 29) c8I i2b)) K5 fun i2c N4 =>
 oP E (xPick d3X i2c (vB false)) N4 fun i2d L4 =>
 R i2d L4)
 (oP E (fA 143 q7 0) B6 fun i2e Q3 =>
 oP E (fA 59 i2e 1) Q3 fun i2f R5 =>
 oP E (lA 3 i2f) R5 fun i2g Q5 =>
 oP E (xBin .neq 3 (.tmp 34) (.const (vI 0)) i2g (vI 0)) Q5 fun i2h V0 =>
 xcond i2h
 (R (vB false) V0)
 (oP E (fA 143 q7 0) V0 fun i2i T2 =>
 oP E (fA 59 i2i 0) T2 fun e0e T7 =>
 oP E (lA 3 e0e) T7 fun e1x Z0 =>
 xcut (fun f8P a1H => d6O e8C e1x (nth f8P 0) a1H R E) fun j1 =>
 oP E (xBin .eql 3 (.tmp 38) (.const (vI 1)) e1x (vI 1)) Z0 fun e6H a1I =>
 xcond e6H
 (j1 [e6H] a1I)
 (oP E (xBin .eql 3 (.tmp 38) (.const (vI 2)) e1x (vI 2)) a1I fun g8E a3H =>
 j1 [g8E] a3H)))
noncomputable def i2j : Code := Tryz.f191.body.getD .skip
def i2k : Hint := (sQ (sQ (.seq (sQ (.cond (sQ .none) .none)) (.seq (sQ (.cond (sQ .none) .none)) (.seq (sQ (.block (.cut [39] (sQ (.cond .none .none)) (.cond (sQ .none) (sQ (.cond (sQ .none) (.cut [50] (sQ (.cond .none .none)) (.cond (sQ .none) .none)))))))) (sQ .none))))))
theorem g8F (x0 : Value) (w : World) (R : RT) (E : Pan) : e8B x0 w R E = callX Tryz.prog [.tmp 2] i2j i2k [x0] w R E := by kernel_rfl
theorem g8G {x0 : Value} (h : e8B x0 w R E) : Cv Tryz.prog 191 #[x0] w R E := by
 refine k3 (args := [x0]) (c := i2j) (h := i2k) (rs := [.tmp 2]) Tryz.func191 (by kernel_rfl) (by kernel_rfl) (nB (by kernel_rfl)) (by kernel_rfl) (by kernel_rfl) (by kernel_rfl) ?_
 rw [← g8F]
 exact h
def e8D (x0 : Value) (w : World) (R : RT) (E : Pan) : Prop :=
 oP E (xV (Instr.box 143 x0)) w fun q7 w_2 =>
 dX w_2 fun w_3 =>
 qP Tryz.prog (fA 143 q7 0) fun d6q =>
 qP Tryz.prog (fA 59 d6q 2) fun a6l =>
 qP Tryz.prog (fA 143 q7 0) fun f8Q =>
 qP Tryz.prog (fA 59 f8Q 3) fun b1Z =>
 qL Tryz.prog w_3 (blk a6l) (lA 51 a6l) fun d1T =>
 qL Tryz.prog w_3 (blk b1Z) (lA 57 b1Z) fun b8N =>
 oP E (xCall (fC 189) [d1T, (fC 190)]) w_3 fun j4l P0 =>
 keepX [(blk b1Z)] w_3 P0 (opK Tryz.prog E (xCall (fC 193) [b8N, (fC 194)]) P0 fun i2l a2s =>
 keepX [] P0 a2s (opK Tryz.prog E (xV (Instr.buildSlice 179 2 #[(0, j4l), (1, i2l)])) a2s fun i2m c0s =>
 keepX [] a2s c0s (opK Tryz.prog E (xCall (fC 75) [i2m]) c0s fun i2n a1B =>
 keepX [] c0s a1B (R i2n a1B))))
noncomputable def i2o : Code := Tryz.f192.body.getD .skip
def i2p : Hint := (sQ (.seq (.reg [(0, 8, 2), (1, 16, 8), (2, 32, 16), (4, 64, 32), (0, 128, 2), (16, 256, 128), (32, 512, 256), (72, 1024, 512), (136, 2048, 1088), (384, 4096, 2048), (1023, 4, 4096)] [68, 68, 64, 64, 68, 68, 4, 0, 0, 0, 68] (.early 0 (.early 1 (.early 4 (.early 5 (.load 2 (.load 6 (.step 3 (.step 7 (.step 8 (.step 9 (.early 10 .done)))))))))))) .none))
theorem g8H (x0 : Value) (w : World) (R : RT) (E : Pan) : e8D x0 w R E = callX Tryz.prog [.tmp 2] i2o i2p [x0] w R E := by kernel_rfl
theorem g8I {x0 : Value} (h : e8D x0 w R E) : Cv Tryz.prog 192 #[x0] w R E := by
 refine k3 (args := [x0]) (c := i2o) (h := i2p) (rs := [.tmp 2]) Tryz.func192 (by kernel_rfl) (by kernel_rfl) (nB (by kernel_rfl)) (by kernel_rfl) (by kernel_rfl) (by kernel_rfl) ?_
 rw [← g8H]
 exact h
def d6P (x5 : Value) (w : World) (R : RT) (_E : Pan) : Prop :=
 ∀ _τ : Fr, (R x5 w)
def e6I (x1 x5 x8 x9 x10 : Value) (w : World) (next2 : NT) (j1 : NT) (_R : RT) (E : Pan) : Prop :=
 oP E (xBin .lss 3 (.tmp 10) (.tmp 9) x10 x9) w fun a4T w_6 =>
 xcond a4T
 (oP E (iA 57 x8 x10) w_6 fun a1J w_8 =>
 oP E (lA 59 a1J) w_8 fun a6K p5 =>
 oP E (xV (Instr.alloc 59 true (.tuple #[]))) p5 fun X5 q8 =>
 oP E (sA 59 X5 a6K) q8 fun _z_13 p6 =>
 oP E (lA 59 X5) p6 fun a7a r8 =>
 oP E (xCall x1 [a7a]) r8 fun a7b s8 =>
 oP E (xV (Instr.buildSlice 137 1 #[(0, a7b)])) s8 fun a4U r9 =>
 oP E (xBuiltin .append #[137, 137] 137 [false, false] [x5, a4U]) r9 fun a7c u7 =>
 oP E (xBin .add 3 (.tmp 10) (.const (vI 1)) x10 (vI 1)) u7 fun a4V u4 =>
 next2 [a7c, a4V] u4)
 (j1 [x5] w_6)
def e8E (x0 x1 : Value) (w : World) (R : RT) (E : Pan) : Prop :=
 xcut (fun l_1 w_2 => d6P (nth l_1 0) w_2 R E) fun j1 =>
 oP E (xBuiltin .len #[57] 3 [false] [x0]) w fun a6n w_4 =>
 xloop [5, 10] [(nS), (vI 0)] w_4 fun τ_25 z2 next2 =>
 e6I x1 (τ_25 5) x0 a6n (τ_25 10) z2 next2 j1 R E
noncomputable def i2q : Code := Tryz.f193.body.getD .skip
def i2r : Hint := (sQ (sQ (.cut [5] (sQ (.block (.loop [5, 10] (sQ (.seq (.cond .none .none) (.seq (.block (sQ .none)) .none)))))) (sQ .none))))
theorem g8J (x0 x1 : Value) (w : World) (R : RT) (E : Pan) : e8E x0 x1 w R E = callX Tryz.prog [.tmp 4] i2q i2r [x0, x1] w R E := by kernel_rfl
theorem g8K {x0 x1 : Value} (h : e8E x0 x1 w R E) : Cv Tryz.prog 193 #[x0, x1] w R E := by
 refine k3 (args := [x0, x1]) (c := i2q) (h := i2r) (rs := [.tmp 4]) Tryz.func193 (by kernel_rfl) (by kernel_rfl) (nB (by kernel_rfl)) (by kernel_rfl) (by kernel_rfl) (by kernel_rfl) ?_
 rw [← g8J]
 exact h
def e8F (x0 : Value) (w : World) (R : RT) (E : Pan) : Prop :=
 oP E (xV (Instr.box 59 x0)) w fun q7 w_2 =>
 oP E (lA 59 q7) w_2 fun a0o w_4 =>
 oP E (xV (Instr.build 143 #[(0, a0o)])) w_4 fun a6l w_6 =>
 oP E (xV (Instr.makeInterface 143 a6l)) w_6 fun a9T w_8 =>
 R a9T w_8
noncomputable def i2s : Code := Tryz.f194.body.getD .skip
def i2t : Hint := (sQ (sQ .none))
theorem g8L (x0 : Value) (w : World) (R : RT) (E : Pan) : e8F x0 w R E = callX Tryz.prog [.tmp 2] i2s i2t [x0] w R E := by kernel_rfl
theorem g8M {x0 : Value} (h : e8F x0 w R E) : Cv Tryz.prog 194 #[x0] w R E := by
 refine k3 (args := [x0]) (c := i2s) (h := i2t) (rs := [.tmp 2]) Tryz.func194 (by kernel_rfl) (by kernel_rfl) (nB (by kernel_rfl)) (by kernel_rfl) (by kernel_rfl) (by kernel_rfl) ?_
 rw [← g8L]
 exact h
def e8G (x0 : Value) (w : World) (R : RT) (E : Pan) : Prop :=
 oP E (xV (Instr.box 182 x0)) w fun q7 w_2 =>
 oP E (fA 182 q7 0) w_2 fun a0o w_4 =>
 oP E (fA 71 a0o 1) w_4 fun a6l w_6 =>
 oP E (lA 3 a6l) w_6 fun a9T w_8 =>
 oP E (xBin .geq 3 (.tmp 5) (.const (vI 0)) a9T (vI 0)) w_8 fun b2v p5 =>
 oP E (gsem (asB b2v) true (fA 182 q7 0)) p5 fun c5A q8 =>
 oP E (gsem (asB b2v) true (fA 71 c5A 1)) q8 fun c5G p6 =>
 oP E (gsem (asB b2v) true (lA 3 c5G)) p6 fun c8G r8 =>
 oP E (gsem (asB b2v) true (xBin .leq 3 (.tmp 10) (.const (vI 2147483647)) c8G (vI 2147483647))) r8 fun a7e s8 =>
 oP E (xPick b2v a7e (vB false)) s8 fun b3V r9 =>
 R b3V r9
noncomputable def i2u : Code := Tryz.f195.body.getD .skip
def i2v : Hint := (sQ (sQ .none))
theorem g8N (x0 : Value) (w : World) (R : RT) (E : Pan) : e8G x0 w R E = callX Tryz.prog [.tmp 2] i2u i2v [x0] w R E := by kernel_rfl
theorem g8O {x0 : Value} (h : e8G x0 w R E) : Cv Tryz.prog 195 #[x0] w R E := by
 refine k3 (args := [x0]) (c := i2u) (h := i2v) (rs := [.tmp 2]) Tryz.func195 (by kernel_rfl) (by kernel_rfl) (nB (by kernel_rfl)) (by kernel_rfl) (by kernel_rfl) (by kernel_rfl) ?_
 rw [← g8N]
 exact h
def e8H (x0 : Value) (w : World) (R : RT) (E : Pan) : Prop :=
 oP E (xV (Instr.box 182 x0)) w fun _t1_1 w_2 =>
 R (nS) w_2
noncomputable def i2w : Code := Tryz.f196.body.getD .skip
def i2x : Hint := (sQ (sQ .none))
theorem g8P (x0 : Value) (w : World) (R : RT) (E : Pan) : e8H x0 w R E = callX Tryz.prog [.tmp 2] i2w i2x [x0] w R E := by kernel_rfl
theorem g8Q {x0 : Value} (h : e8H x0 w R E) : Cv Tryz.prog 196 #[x0] w R E := by
 refine k3 (args := [x0]) (c := i2w) (h := i2x) (rs := [.tmp 2]) Tryz.func196 (by kernel_rfl) (by kernel_rfl) (nB (by kernel_rfl)) (by kernel_rfl) (by kernel_rfl) (by kernel_rfl) ?_
 rw [← g8P]
 exact h
def d6Q (x4 x5 x35 x83 : Value) (w : World) (R : RT) (E : Pan) : Prop :=
 ∀ _τ : Fr, (xcond x83
 (oP E (gsem (asB x5) true (lA 240 x4)) w fun g8R a7r =>
 oP E (gsem (asB x5) true (xV (Instr.build 240 #[(0, (vI 0)), (1, (vI 1))]))) a7r fun g8S b1e =>
 oP E (gsem (asB x5) true (xBin .eql 240 (.tmp 88) (.tmp 89) g8R g8S)) b1e fun g8T b1f =>
 oP E (xPick x5 g8T (vB false)) b1f fun d6p a4W =>
 R d6p a4W)
 (oP E (xBin .eql 3 (.tmp 35) (.const (vI 7)) x35 (vI 7)) w fun g8U a5H =>
 xcond g8U
 (oP E (gsem (asB x5) true (lA 240 x4)) a5H fun g8V a5G =>
 oP E (gsem (asB x5) true (xV (Instr.build 240 #[]))) a5G fun g8W b3h =>
 oP E (gsem (asB x5) true (xBin .eql 240 (.tmp 96) (.tmp 97) g8V g8W)) b3h fun g8X b9o =>
 oP E (xPick x5 g8X (vB false)) b9o fun g8Y c2O =>
 R g8Y c2O)
 (R (vB false) a5H)))
def e8I (x0 : Value) (w : World) (R : RT) (E : Pan) : Prop :=
 oP E (xV (Instr.box 184 x0)) w fun q7 w_2 =>
 oP E (fA 184 q7 0) w_2 fun c5F w_4 =>
 oP E (fA 73 c5F 4) w_4 fun b2y w_6 =>
 oP E (lA 23 b2y) w_6 fun b1Z w_8 =>
 oP E (xBuiltin .len #[23] 3 [false] [b1Z]) w_8 fun b8N p5 =>
 oP E (fA 184 q7 0) p5 fun b3T q8 =>
 oP E (fA 73 b3T 5) q8 fun a9u p6 =>
 oP E (lA 23 a9u) p6 fun b5v r8 =>
 oP E (xBuiltin .len #[23] 3 [false] [b5v]) r8 fun a3i s8 =>
 oP E (xBin .add 3 (.tmp 9) (.tmp 13) b8N a3i) s8 fun e0H r9 =>
 oP E (xBin .gtr 3 (.tmp 14) (.const (vI 0)) e0H (vI 0)) r9 fun c8r u7 =>
 oP E (fA 184 q7 0) u7 fun c0u u4 =>
 oP E (fA 73 c0u 2) u4 fun a9x z2 =>
 oP E (lA 51 a9x) z2 fun e1y B3 =>
 oP E (xBuiltin .len #[51] 3 [false] [e1y]) B3 fun e1z C4 =>
 oP E (fA 184 q7 0) C4 fun e1A B6 =>
 oP E (fA 73 e1A 3) B6 fun c4z A6 =>
 oP E (lA 57 c4z) A6 fun c8J I7 =>
 oP E (xBuiltin .len #[57] 3 [false] [c8J]) I7 fun c8K C7 =>
 oP E (xV (Instr.build 240 #[(0, e1z), (1, c8K)])) C7 fun e1B I4 =>
 oP E (xV (Instr.alloc 240 true (.tuple #[]))) I4 fun c9Z E8 =>
 oP E (sA 240 c9Z e1B) E8 fun _z_43 E4 =>
 oP E (fA 184 q7 0) E4 fun i2y N1 =>
 oP E (fA 73 i2y 1) N1 fun i2z M6 =>
 oP E (lA 9 i2z) M6 fun i2A L8 =>
 oP E (xBin .eql 9 (.tmp 27) (.const (eS)) i2A (eS)) L8 fun c8I N0 =>
 oP E (gsem (asB c8I) true (xV (Op.unary .not (gval (asB c8I) true c8r)))) N0 fun i2B K5 =>
 oP E (xPick c8I i2B (vB false)) K5 fun i2C N4 =>
 oP E (fA 184 q7 0) N4 fun i2D L4 =>
 oP E (fA 73 i2D 0) L4 fun i2E Q3 =>
 oP E (lA 3 i2E) Q3 fun c0C R5 =>
 oP E (xBin .eql 3 (.tmp 35) (.const (vI 1)) c0C (vI 1)) R5 fun i2F Q5 =>
 xcond i2F
 (oP E (xV (Op.unary .not c8r)) Q5 fun d3Y V0 =>
 oP E (gsem (asB d3Y) true (lA 240 c9Z)) V0 fun i2G T2 =>
 oP E (gsem (asB d3Y) true (xV (Instr.build 240 #[(0, (vI 1)), (1, (vI 0))]))) T2 fun i2H T7 =>
 oP E (gsem (asB d3Y) true (xBin .eql 240 (.tmp 41) (.tmp 42) i2G i2H)) T7 fun i2I Z0 =>
 oP E (xPick d3Y i2I (vB false)) Z0 fun i2J Z1 =>
 R i2J Z1)
 (oP E (xBin .eql 3 (.tmp 35) (.const (vI 2)) c0C (vI 2)) Q5 fun e1C Z2 =>
 xcond e1C
 (oP E (xV (Op.unary .not c8r)) Z2 fun c4A X1 =>
 oP E (gsem (asB c4A) true (lA 240 c9Z)) X1 fun i2K Y5 =>
 oP E (gsem (asB c4A) true (xV (Instr.build 240 #[(0, (vI 2)), (1, (vI 0))]))) Y5 fun i2L a0f =>
 oP E (gsem (asB c4A) true (xBin .eql 240 (.tmp 50) (.tmp 51) i2K i2L)) a0f fun e1D Z3 =>
 oP E (xPick c4A e1D (vB false)) Z3 fun e1E a0g =>
 R e1E a0g)
 (oP E (xBin .eql 3 (.tmp 35) (.const (vI 3)) c0C (vI 3)) Z2 fun i2M Z4 =>
 xcond i2M
 (oP E (fA 184 q7 0) Z4 fun i2N a1Q =>
 oP E (fA 73 i2N 1) a1Q fun i2O a2K =>
 oP E (lA 9 i2O) a2K fun i2P V4 =>
 oP E (xBin .eql 9 (.tmp 58) (.const (eS)) i2P (eS)) V4 fun d3Z a3u =>
 oP E (gsem (asB d3Z) true (lA 240 c9Z)) a3u fun i2Q a6m =>
 oP E (gsem (asB d3Z) true (xV (Instr.build 240 #[(0, (vI 0)), (1, (vI 1))]))) a6m fun i2R a1H =>
 oP E (gsem (asB d3Z) true (xBin .eql 240 (.tmp 61) (.tmp 62) i2Q i2R)) a1H fun g8Z a1I =>
 oP E (xPick d3Z g8Z (vB false)) a1I fun g9a a3H =>
 R g9a a3H)
 (oP E (xBin .eql 3 (.tmp 35) (.const (vI 4)) c0C (vI 4)) Z4 fun g9b a3I =>
 xcond g9b
 (oP E (fA 184 q7 0) a3I fun g9c a7p =>
 oP E (fA 73 g9c 1) a7p fun g9d a7T =>
 oP E (lA 9 g9d) a7T fun g9e b0k =>
 oP E (xBin .eql 9 (.tmp 69) (.const (eS)) g9e (eS)) b0k fun b9W a8Q =>
 oP E (gsem (asB b9W) true (fA 184 q7 0)) a8Q fun g9f a9y =>
 oP E (gsem (asB b9W) true (fA 73 g9f 5)) a9y fun g9g a6L =>
 oP E (gsem (asB b9W) true (lA 23 g9g)) a6L fun g9h a4j =>
 oP E (gsem (asB b9W) true (xBuiltin .len #[23] 3 [false] [g9h])) a4j fun g9i a2J =>
 oP E (gsem (asB b9W) true (xBin .eql 3 (.tmp 75) (.const (vI 0)) g9i (vI 0))) a2J fun g9j a7o =>
 oP E (xPick b9W g9j (vB false)) a7o fun d0a a6J =>
 oP E (gsem (asB d0a) true (lA 240 c9Z)) a6J fun g9k a7S =>
 oP E (gsem (asB d0a) true (xV (Instr.build 240 #[(0, (vI 0)), (1, (vI 1))]))) a7S fun g9l a4Q =>
 oP E (gsem (asB d0a) true (xBin .eql 240 (.tmp 79) (.tmp 80) g9k g9l)) a4Q fun g9m a4R =>
 oP E (xPick d0a g9m (vB false)) a4R fun g9n a7q =>
 R g9n a7q)
 (xcut (fun j4m c5H => d6Q c9Z i2C c0C (nth j4m 0) c5H R E) fun j1 =>
 oP E (xBin .eql 3 (.tmp 35) (.const (vI 5)) c0C (vI 5)) a3I fun e6J d0b =>
 xcond e6J
 (j1 [e6J] d0b)
 (oP E (xBin .eql 3 (.tmp 35) (.const (vI 6)) c0C (vI 6)) d0b fun g9o b7P =>
 j1 [g9o] b7P)))))
noncomputable def i2S : Code := Tryz.f197.body.getD .skip
def i2T : Hint := (sQ (sQ (sQ (sQ (.seq (sQ (.block (sQ (.cond (sQ .none) (sQ (.cond (sQ .none) (sQ (.cond (sQ .none) (sQ (.cond (sQ .none) (.cut [83] (sQ (.cond .none .none)) (.cond (sQ .none) (sQ (.cond (sQ .none) .none)))))))))))))) (sQ .none))))))
theorem g9p (x0 : Value) (w : World) (R : RT) (E : Pan) : e8I x0 w R E = callX Tryz.prog [.tmp 2] i2S i2T [x0] w R E := by kernel_rfl
theorem g9q {x0 : Value} (h : e8I x0 w R E) : Cv Tryz.prog 197 #[x0] w R E := by
 refine k3 (args := [x0]) (c := i2S) (h := i2T) (rs := [.tmp 2]) Tryz.func197 (by kernel_rfl) (by kernel_rfl) (nB (by kernel_rfl)) (by kernel_rfl) (by kernel_rfl) (by kernel_rfl) ?_
 rw [← g9p]
 exact h
def e8J (x0 : Value) (w : World) (R : RT) (E : Pan) : Prop :=
 oP E (xV (Instr.box 184 x0)) w fun q7 w_2 =>
 dX w_2 fun w_3 =>
 qP Tryz.prog (fA 184 q7 0) fun d6q =>
 qP Tryz.prog (fA 73 d6q 3) fun a6l =>
 qP Tryz.prog (fA 184 q7 0) fun f8Q =>
 qP Tryz.prog (fA 73 f8Q 2) fun b1Z =>
 qP Tryz.prog (fA 184 q7 0) fun j4n =>
 qP Tryz.prog (fA 73 j4n 4) fun d0c =>
 qP Tryz.prog (fA 184 q7 0) fun i2U =>
 qP Tryz.prog (fA 73 i2U 5) fun a4Y =>
 qL Tryz.prog w_3 (blk a6l) (lA 57 a6l) fun j4o =>
 qL Tryz.prog w_3 (blk b1Z) (lA 51 b1Z) fun c5G =>
 qL Tryz.prog w_3 (blk d0c) (lA 23 d0c) fun i2V =>
 qL Tryz.prog w_3 (blk a4Y) (lA 23 a4Y) fun e1k =>
 oP E (xCall (fC 193) [j4o, (fC 194)]) w_3 fun j4p a1B =>
 keepX [(blk a4Y), (blk d0c), (blk b1Z)] w_3 a1B (opK Tryz.prog E (xCall (fC 189) [c5G, (fC 190)]) a1B fun i2W a1R =>
 keepX [(blk a4Y), (blk d0c)] a1B a1R (opK Tryz.prog E (xCall (fC 78) [i2V, (fC 79)]) a1R fun i2X a5B =>
 keepX [(blk a4Y)] a1R a5B (opK Tryz.prog E (xCall (fC 78) [e1k, (fC 79)]) a5B fun i2Y b0C =>
 keepX [] a5B b0C (opK Tryz.prog E (xV (Instr.buildSlice 179 4 #[(0, j4p), (1, i2W), (2, i2X), (3, i2Y)])) b0C fun i2Z b6S =>
 keepX [] b0C b6S (opK Tryz.prog E (xCall (fC 75) [i2Z]) b6S fun i3a a3k =>
 keepX [] b6S a3k (R i3a a3k))))))
noncomputable def i3b : Code := Tryz.f198.body.getD .skip
def i3c : Hint := (sQ (.seq (.reg [(0, 8, 2), (1, 16, 8), (2, 32, 16), (4, 64, 32), (0, 128, 2), (16, 256, 128), (32, 512, 256), (72, 1024, 512), (0, 2048, 2), (256, 4096, 2048), (512, 8192, 4096), (1152, 16384, 8192), (0, 32768, 2), (4096, 65536, 32768), (8192, 131072, 65536), (18432, 262144, 131072), (34952, 524288, 279616), (98304, 1048576, 524288), (262143, 4, 1048576)] [17476, 17476, 17472, 17472, 17476, 17476, 17412, 17408, 17476, 17476, 16452, 16384, 17476, 17476, 1092, 0, 0, 0, 17476] (.early 0 (.early 1 (.early 4 (.early 5 (.early 8 (.early 9 (.early 12 (.early 13 (.load 2 (.load 6 (.load 10 (.load 14 (.step 3 (.step 7 (.step 11 (.step 15 (.step 16 (.step 17 (.early 18 .done)))))))))))))))))))) .none))
theorem g9r (x0 : Value) (w : World) (R : RT) (E : Pan) : e8J x0 w R E = callX Tryz.prog [.tmp 2] i3b i3c [x0] w R E := by kernel_rfl
theorem g9s {x0 : Value} (h : e8J x0 w R E) : Cv Tryz.prog 198 #[x0] w R E := by
 refine k3 (args := [x0]) (c := i3b) (h := i3c) (rs := [.tmp 2]) Tryz.func198 (by kernel_rfl) (by kernel_rfl) (nB (by kernel_rfl)) (by kernel_rfl) (by kernel_rfl) (by kernel_rfl) ?_
 rw [← g9r]
 exact h
end Go.Proofs.YtnhkdkcgdcgmdaaGreatDoor
