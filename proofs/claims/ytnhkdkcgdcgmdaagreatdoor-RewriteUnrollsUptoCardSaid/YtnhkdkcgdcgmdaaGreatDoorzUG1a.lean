/- The second reading of some of the program's functions, printed by gen2.py off the code; each is held against the code by the kernel. -/
import Derived.Test.YtnhkdkcgdcgmdaaGreatDoorProg
import Derived.Test.YtnhkdkcgdcgmdaaGreatDoorzUK0
import Derived.KernelRfl
import Derived.Test.YtnhkdkcgdcgmdaaGreatDoorzUGz
namespace Go.Proofs.YtnhkdkcgdcgmdaaGreatDoor
open Go.RowKit
set_option maxRecDepth 100000
variable {w : World} {R : RT} {E : Pan}
def d5Z (w : World) (R : RT) (_E : Pan) : Prop :=
 ∀ _τ : Fr, (R (vB true) w)
def e9Y (x2 x3 x5 : Value) (w : World) (next2 : NT) (j1 : NT) (R : RT) (E : Pan) : Prop :=
 oP E (fA 25 x2 0) w fun c4S P3 =>
 oP E (lA 22 c4S) P3 fun c4T N9 =>
 oP E (xBuiltin .len #[22] 3 [false] [c4T]) N9 fun b8n P4 =>
 oP E (xBin .lss 3 (.tmp 31) (.tmp 34) x5 b8n) P4 fun d6a P0 =>
 xcond d6a
 (dX P0 fun b2w =>
 qP Tryz.prog (fA 25 x2 0) fun e9Z =>
 qP Tryz.prog (fA 25 x3 0) fun f0a =>
 qL Tryz.prog b2w (blk e9Z) (lA 22 e9Z) fun d6b =>
 qP Tryz.prog (iA 22 d6b x5) fun f0b =>
 qL Tryz.prog b2w (blk f0b) (lA 71 f0b) fun g7u =>
 qL Tryz.prog b2w (blk f0a) (lA 22 f0a) fun g7v =>
 qP Tryz.prog (iA 22 g7v x5) fun d0u =>
 qL Tryz.prog b2w (blk d0u) (lA 71 d0u) fun d6c =>
 qP Tryz.prog (xBin .neq 71 (.tmp 42) (.tmp 47) g7u d6c) fun d6d =>
 xcond d6d
 (R (vB false) b2w)
 (oP E (xBin .add 3 (.tmp 36) (.const (vI 1)) x5 (vI 1)) b2w fun d6e W9 =>
 next2 [d6e] W9))
 (j1 [] P0)
def F11 (x0 x1 : Value) (w : World) (R : RT) (E : Pan) : Prop :=
 oP E (xV (Instr.box 25 x0)) w fun X0 w_2 =>
 oP E (xV (Instr.box 25 x1)) w_2 fun a0G w_4 =>
 oP E (lA 25 X0) w_4 fun a7U w_6 =>
 oP E (xCall (fC 29) [a7U]) w_6 fun a9Z w_8 =>
 oP E (xV (Op.unary .not a9Z)) w_8 fun a5s o9 =>
 oP E (gsem (asB a5s) false (lA 25 a0G)) o9 fun c4U p8 =>
 oP E (gsem (asB a5s) false (xCall (fC 29) [c4U])) p8 fun b0P p6 =>
 oP E (gsem (asB a5s) false (xV (Op.unary .not b0P))) p6 fun b8o q8 =>
 oP E (xPick a5s (vB true) b8o) q8 fun a4g w5 =>
 oP E (gsem (asB a4g) false (fA 25 X0 0)) w5 fun a7V t8 =>
 oP E (gsem (asB a4g) false (lA 22 a7V)) t8 fun a8K w9 =>
 oP E (gsem (asB a4g) false (xBuiltin .len #[22] 3 [false] [a8K])) w9 fun b4c v2 =>
 oP E (gsem (asB a4g) false (fA 25 a0G 0)) v2 fun a6E y8 =>
 oP E (gsem (asB a4g) false (lA 22 a6E)) y8 fun b1k B0 =>
 oP E (gsem (asB a4g) false (xBuiltin .len #[22] 3 [false] [b1k])) B0 fun c4V C0 =>
 oP E (gsem (asB a4g) false (xBin .neq 3 (.tmp 17) (.tmp 20) b4c c4V)) C0 fun b2M C3 =>
 oP E (xPick a4g (vB true) b2M) C3 fun a9J A6 =>
 oP E (gsem (asB a9J) false (fA 25 X0 1)) A6 fun b8p J6 =>
 oP E (gsem (asB a9J) false (lA 23 b8p)) J6 fun a7W C2 =>
 oP E (gsem (asB a9J) false (fA 25 a0G 1)) C2 fun b8q J7 =>
 oP E (gsem (asB a9J) false (lA 23 b8q)) J7 fun a5M C7 =>
 oP E (gsem (asB a9J) false (xCall (fC 30) [a7W, a5M])) C7 fun d6f D8 =>
 oP E (gsem (asB a9J) false (xV (Op.unary .not d6f))) D8 fun d6g G8 =>
 oP E (xPick a9J (vB true) d6g) G8 fun d6h L9 =>
 xcond d6h
 (R (vB false) L9)
 (xcut (fun _ M6 => d5Z M6 R E) fun j1 =>
 xloop [5] [(vI 0)] L9 fun τ_71 a0r next2 =>
 e9Y X0 a0G (τ_71 5) a0r next2 j1 R E)
noncomputable def c11 : Code := Tryz.f11.body.getD .skip
def h11 : Hint := (sQ (.seq (sQ (.cond (sQ .none) .none)) (.cut [] (sQ (.block (.loop [5] (.seq (sQ (.cond .none .none)) (.seq (.block (.seq (.reg [(0, 274877906944, 4), (1, 549755813888, 274877906944), (0, 1099511627776, 32), (6, 2199023255552, 1649267441664), (8, 4398046511104, 2199023255552), (0, 8796093022208, 8), (32, 17592186044416, 8796093022208), (0, 35184372088832, 32), (192, 70368744177664, 52776558133248), (256, 140737488355328, 70368744177664), (528, 281474976710656, 145135534866432)] [594, 592, 594, 594, 578, 594, 530, 594, 594, 82, 594] (.early 0 (.early 2 (.early 5 (.early 7 (.load 1 (.early 3 (.load 4 (.load 6 (.early 8 (.load 9 (.early 10 .done)))))))))))) (.cond (sQ .none) .none))) .none))))) (sQ .none))))
theorem g7w (x0 x1 : Value) (w : World) (R : RT) (E : Pan) : F11 x0 x1 w R E = callX Tryz.prog [.tmp 4] c11 h11 [x0, x1] w R E := by kernel_rfl
theorem g7x {x0 x1 : Value} (h : F11 x0 x1 w R E) : Cv Tryz.prog 11 #[x0, x1] w R E := by
 refine i8 (args := [x0, x1]) (c := c11) (h := h11) (rs := [.tmp 4]) Tryz.func11 (by kernel_rfl) (by kernel_rfl) (nB (by kernel_rfl)) (by kernel_rfl) (by kernel_rfl) (by kernel_rfl) ?_
 rw [← g7w]
 exact h
def F24 (x0 : Value) (w : World) (R : RT) (E : Pan) : Prop :=
 oP E (xV (Instr.box 25 x0)) w fun q7 w_2 =>
 oP E (lA 25 q7) w_2 fun a0G w_4 =>
 oP E (xCall (fC 43) [a0G]) w_4 fun a5S w_6 =>
 oP E (xNil a5S) w_6 fun a9d w_8 =>
 oP E (fA 101 a9d 2) w_8 fun b1l o9 =>
 oP E (lA 27 b1l) o9 fun Y0 p8 =>
 R Y0 p8
noncomputable def c24 : Code := Tryz.f24.body.getD .skip
def h24 : Hint := (sQ (sQ .none))
theorem g7y (x0 : Value) (w : World) (R : RT) (E : Pan) : F24 x0 w R E = callX Tryz.prog [.tmp 2] c24 h24 [x0] w R E := by kernel_rfl
theorem g7z {x0 : Value} (h : F24 x0 w R E) : Cv Tryz.prog 24 #[x0] w R E := by
 refine i8 (args := [x0]) (c := c24) (h := h24) (rs := [.tmp 2]) Tryz.func24 (by kernel_rfl) (by kernel_rfl) (nB (by kernel_rfl)) (by kernel_rfl) (by kernel_rfl) (by kernel_rfl) ?_
 rw [← g7y]
 exact h
def F29 (x0 : Value) (w : World) (R : RT) (E : Pan) : Prop :=
 oP E (xV (Instr.box 25 x0)) w fun q7 w_2 =>
 oP E (lA 25 q7) w_2 fun a0G w_4 =>
 oP E (xCall (fC 47) [a0G]) w_4 fun a5S w_6 =>
 oP E (xV (Instr.field 108 a5S 2)) w_6 fun a9d w_8 =>
 oP E (xBin .eql 3 (.tmp 5) (.const (vI 0)) a9d (vI 0)) w_8 fun b1l o9 =>
 R b1l o9
noncomputable def c29 : Code := Tryz.f29.body.getD .skip
def h29 : Hint := (sQ (sQ .none))
theorem g7A (x0 : Value) (w : World) (R : RT) (E : Pan) : F29 x0 w R E = callX Tryz.prog [.tmp 2] c29 h29 [x0] w R E := by kernel_rfl
theorem g7B {x0 : Value} (h : F29 x0 w R E) : Cv Tryz.prog 29 #[x0] w R E := by
 refine i8 (args := [x0]) (c := c29) (h := h29) (rs := [.tmp 2]) Tryz.func29 (by kernel_rfl) (by kernel_rfl) (nB (by kernel_rfl)) (by kernel_rfl) (by kernel_rfl) (by kernel_rfl) ?_
 rw [← g7A]
 exact h
def d6i (w : World) (R : RT) (_E : Pan) : Prop :=
 ∀ _τ : Fr, (R (vB true) w)
def d6j (_x0 _x1 x5 : Value) (w : World) (next2 : NT) (_R : RT) (E : Pan) : Prop :=
 ∀ _τ : Fr, (oP E (xBin .add 3 (.tmp 19) (.const (vI 1)) x5 (vI 1)) w fun c4W p6 =>
 next2 [c4W] p6)
def f0c (_x0 _x1 _x5 x6 x7 x9 : Value) (w : World) (next6 : NT) (j3 : NT) (R : RT) (E : Pan) : Prop :=
 oP E (fA 73 x6 2) w fun g7C a1w =>
 oP E (lA 51 g7C) a1w fun g0b a2Y =>
 oP E (xBuiltin .len #[51] 3 [false] [g0b]) a2Y fun g0c a4K =>
 oP E (xBin .lss 3 (.tmp 94) (.tmp 97) x9 g0c) a4K fun g0d a4L =>
 xcond g0d
 (dX a4L fun b4d =>
 qP Tryz.prog (fA 73 x6 2) fun d6k =>
 qP Tryz.prog (fA 73 x7 2) fun d6l =>
 qL Tryz.prog b4d (blk d6k) (lA 51 d6k) fun f3o =>
 qP Tryz.prog (iA 51 f3o x9) fun d6m =>
 qL Tryz.prog b4d (blk d6m) (lA 53 d6m) fun f3p =>
 qL Tryz.prog b4d (blk d6l) (lA 51 d6l) fun f3q =>
 qP Tryz.prog (iA 51 f3q x9) fun d6n =>
 qL Tryz.prog b4d (blk d6n) (lA 53 d6n) fun f3r =>
 oP E (xCall (fC 53) [f3p, f3r]) b4d fun f3s b6h =>
 keepX [] b4d b6h (qP Tryz.prog (xV (Op.unary .not f3s)) fun f3t =>
 xcond f3t
 (R (vB false) b6h)
 (oP E (xBin .add 3 (.tmp 99) (.const (vI 1)) x9 (vI 1)) b6h fun f3u a8i =>
 next6 [f3u] a8i)))
 (j3 [] a4L)
def d6o (x0 x1 x5 x6 x7 : Value) (w : World) (j3 : NT) (R : RT) (E : Pan) : Prop :=
 ∀ _τ : Fr, (xloop [9] [(vI 0)] w fun τ_121 a5w next6 =>
 f0c x0 x1 x5 x6 x7 (τ_121 9) a5w next6 j3 R E)
def f0d (_x0 _x1 _x5 x6 x7 x8 : Value) (w : World) (next7 : NT) (j5 : NT) (R : RT) (E : Pan) : Prop :=
 oP E (fA 73 x6 3) w fun g0e a8L =>
 oP E (lA 57 g0e) a8L fun g0f b0a =>
 oP E (xBuiltin .len #[57] 3 [false] [g0f]) b0a fun g0g a7k =>
 oP E (xBin .lss 3 (.tmp 75) (.tmp 78) x8 g0g) a7k fun g0h a7l =>
 xcond g0h
 (dX a7l fun b2R =>
 qP Tryz.prog (fA 73 x6 3) fun e2n =>
 qP Tryz.prog (fA 73 x7 3) fun e2o =>
 qL Tryz.prog b2R (blk e2n) (lA 57 e2n) fun g0i =>
 qP Tryz.prog (iA 57 g0i x8) fun e2p =>
 qL Tryz.prog b2R (blk e2p) (lA 59 e2p) fun g0j =>
 qL Tryz.prog b2R (blk e2o) (lA 57 e2o) fun g0k =>
 qP Tryz.prog (iA 57 g0k x8) fun e2q =>
 qL Tryz.prog b2R (blk e2q) (lA 59 e2q) fun d2Q =>
 oP E (xCall (fC 52) [g0j, d2Q]) b2R fun g0l d4K =>
 keepX [] b2R d4K (qP Tryz.prog (xV (Op.unary .not g0l)) fun g0m =>
 xcond g0m
 (R (vB false) d4K)
 (oP E (xBin .add 3 (.tmp 80) (.const (vI 1)) x8 (vI 1)) d4K fun g0n a6s =>
 next7 [g0n] a6s)))
 (j5 [] a7l)
def d6p (x0 x1 x5 x6 x7 : Value) (w : World) (j3 : NT) (R : RT) (E : Pan) : Prop :=
 ∀ _τ : Fr, (oP E (fA 73 x6 0) w fun g7D w5 =>
 oP E (lA 3 g7D) w5 fun g7E t8 =>
 oP E (fA 73 x7 0) t8 fun g7F w9 =>
 oP E (lA 3 g7F) w9 fun g7G v2 =>
 oP E (xBin .neq 3 (.tmp 30) (.tmp 32) g7E g7G) v2 fun c1H y8 =>
 oP E (gsem (asB c1H) false (fA 73 x6 1)) y8 fun g7H B0 =>
 oP E (gsem (asB c1H) false (lA 9 g7H)) B0 fun g7I C0 =>
 oP E (gsem (asB c1H) false (fA 73 x7 1)) C0 fun g7J C3 =>
 oP E (gsem (asB c1H) false (lA 9 g7J)) C3 fun g7K A6 =>
 oP E (gsem (asB c1H) false (xBin .neq 9 (.tmp 36) (.tmp 38) g7I g7K)) A6 fun g7L J6 =>
 oP E (xPick c1H (vB true) g7L) J6 fun b6s C2 =>
 oP E (gsem (asB b6s) false (fA 73 x6 3)) C2 fun g7M J7 =>
 oP E (gsem (asB b6s) false (lA 57 g7M)) J7 fun d6q C7 =>
 oP E (gsem (asB b6s) false (xBuiltin .len #[57] 3 [false] [d6q])) C7 fun d6r D8 =>
 oP E (gsem (asB b6s) false (fA 73 x7 3)) D8 fun d6s G8 =>
 oP E (gsem (asB b6s) false (lA 57 d6s)) G8 fun d6t L9 =>
 oP E (gsem (asB b6s) false (xBuiltin .len #[57] 3 [false] [d6t])) L9 fun g7N M6 =>
 oP E (gsem (asB b6s) false (xBin .neq 3 (.tmp 44) (.tmp 47) d6r g7N)) M6 fun g7O P3 =>
 oP E (xPick b6s (vB true) g7O) P3 fun b6t N9 =>
 oP E (gsem (asB b6t) false (fA 73 x6 2)) N9 fun g7P P4 =>
 oP E (gsem (asB b6t) false (lA 51 g7P)) P4 fun g7Q P0 =>
 oP E (gsem (asB b6t) false (xBuiltin .len #[51] 3 [false] [g7Q])) P0 fun g7R S4 =>
 oP E (gsem (asB b6t) false (fA 73 x7 2)) S4 fun g7S T6 =>
 oP E (gsem (asB b6t) false (lA 51 g7S)) T6 fun g7T Q3 =>
 oP E (gsem (asB b6t) false (xBuiltin .len #[51] 3 [false] [g7T])) Q3 fun g7U Z8 =>
 oP E (gsem (asB b6t) false (xBin .neq 3 (.tmp 53) (.tmp 56) g7R g7U)) Z8 fun g7V Z9 =>
 oP E (xPick b6t (vB true) g7V) Z9 fun b8r W9 =>
 oP E (gsem (asB b8r) false (fA 73 x6 4)) W9 fun g7W a0r =>
 oP E (gsem (asB b8r) false (lA 23 g7W)) a0r fun g7X a2L =>
 oP E (gsem (asB b8r) false (fA 73 x7 4)) a2L fun g7Y X6 =>
 oP E (gsem (asB b8r) false (lA 23 g7Y)) X6 fun g7Z a2Z =>
 oP E (gsem (asB b8r) false (xCall (fC 30) [g7X, g7Z])) a2Z fun g8a a3b =>
 oP E (gsem (asB b8r) false (xV (Op.unary .not g8a))) a3b fun g8b a2o =>
 oP E (xPick b8r (vB true) g8b) a2o fun b8s a0s =>
 oP E (gsem (asB b8s) false (fA 73 x6 5)) a0s fun g8c a2M =>
 oP E (gsem (asB b8s) false (lA 23 g8c)) a2M fun g8d a2p =>
 oP E (gsem (asB b8s) false (fA 73 x7 5)) a2p fun g8e a3d =>
 oP E (gsem (asB b8s) false (lA 23 g8e)) a3d fun g8f a3E =>
 oP E (gsem (asB b8s) false (xCall (fC 30) [g8d, g8f])) a3E fun g8g a1U =>
 oP E (gsem (asB b8s) false (xV (Op.unary .not g8g))) a1U fun g8h a5T =>
 oP E (xPick b8s (vB true) g8h) a5T fun g8i a6F =>
 xcond g8i
 (R (vB false) a6F)
 (xcut (fun _ a9p => d6o x0 x1 x5 x6 x7 a9p j3 R E) fun j5 =>
 xloop [8] [(vI 0)] a6F fun τ_147 a9q next7 =>
 f0d x0 x1 x5 x6 x7 (τ_147 8) a9q next7 j5 R E))
def f0e (x0 x1 x5 : Value) (w : World) (next2 : NT) (j1 : NT) (R : RT) (E : Pan) : Prop :=
 oP E (xBuiltin .len #[23] 3 [false] [x0]) w fun d0v o9 =>
 oP E (xBin .lss 3 (.tmp 15) (.tmp 17) x5 d0v) o9 fun d6u p8 =>
 xcond d6u
 (xcut (fun _ q8 => d6j x0 x1 x5 q8 next2 R E) fun j3 =>
 xcut (fun d4L b4e => d6p x0 x1 x5 (nth d4L 0) (nth d4L.tail 0) b4e j3 R E) fun j4 =>
 dX p8 fun c6R =>
 qP Tryz.prog (iA 23 x0 x5) fun b7W =>
 qP Tryz.prog (iA 23 x1 x5) fun b3M =>
 qL Tryz.prog c6R (blk b7W) (lA 73 b7W) fun e2r =>
 qL Tryz.prog c6R (blk b3M) (lA 73 b3M) fun e2s =>
 (oP E (xV (Instr.alloc 73 true (.tuple #[]))) c6R fun f0f d0w =>
 keepX [(blk b3M), (blk b7W)] c6R d0w (opK Tryz.prog E (xV (Instr.alloc 73 true (.tuple #[]))) d0w fun f0g e3L =>
 keepX [(blk b3M), (blk b7W)] d0w e3L (opK Tryz.prog E (sA 73 f0f e2r) e3L fun _z_160 c2G =>
 keepX [(blk b3M)] e3L c2G (opK Tryz.prog E (sA 73 f0g e2s) c2G fun _z_162 e3M =>
 keepX [] c2G e3M (j4 [f0f, f0g] e3M))))) ∧
 (oP E (xV (Instr.alloc 73 true (.tuple #[]))) c6R fun f0h e3N =>
 keepX [(blk b3M), (blk b7W)] c6R e3N (opK Tryz.prog E (xV (Instr.alloc 73 true (.tuple #[]))) e3N fun f0i c2H =>
 keepX [(blk b3M), (blk b7W)] e3N c2H (opK Tryz.prog E (sA 73 f0i e2r) c2H fun _z_168 e3O =>
 keepX [(blk b3M)] c2H e3O (opK Tryz.prog E (sA 73 f0h e2s) e3O fun _z_170 f7P =>
 keepX [] e3O f7P (j4 [f0i, f0h] f7P))))))
 (j1 [] p8)
def F30 (x0 x1 : Value) (w : World) (R : RT) (E : Pan) : Prop :=
 oP E (xBuiltin .len #[23] 3 [false] [x0]) w fun e3P w_2 =>
 oP E (xBuiltin .len #[23] 3 [false] [x1]) w_2 fun c2I w_4 =>
 oP E (xBin .neq 3 (.tmp 11) (.tmp 13) e3P c2I) w_4 fun b6i w_6 =>
 xcond b6i
 (R (vB false) w_6)
 (xcut (fun _ w_8 => d6i w_8 R E) fun j1 =>
 xloop [5] [(vI 0)] w_6 fun τ_172 f7Q next2 =>
 f0e x0 x1 (τ_172 5) f7Q next2 j1 R E)
noncomputable def c30 : Code := Tryz.f30.body.getD .skip
def h30 : Hint := (sQ (.seq (sQ (.cond (sQ .none) .none)) (.cut [] (sQ (.block (.loop [5] (.seq (sQ (.cond .none .none)) (.cut [] (.block (.cut [6, 7] (.reg [(0, 2097152, 1), (0, 4194304, 32), (3, 8388608, 6291456), (4, 16777216, 8388608), (0, 33554432, 2), (0, 67108864, 32), (48, 134217728, 100663296), (64, 268435456, 134217728), (0, 64, 0), (0, 128, 0), (783, 0, 16777280), (2047, 0, 268435584)] [136, 136, 136, 128, 136, 136, 136, 8, 136, 136, 128, 0] (.early 0 (.early 1 (.early 2 (.early 4 (.early 5 (.early 6 (.load 3 (.load 7 (.alt 8 (.step 9 (.step 10 (.step 11 .done))) (.step 9 (.step 8 (.step 10 (.step 11 .done)))))))))))))) (.seq (sQ (.cond (sQ .none) .none)) (.cut [] (sQ (.block (.loop [8] (.seq (sQ (.cond .none .none)) (.seq (.block (.seq (.reg [(0, 4835703278458516698824704, 64), (1, 9671406556917033397649408, 4835703278458516698824704), (0, 19342813113834066795298816, 256), (6, 38685626227668133590597632, 29014219670751100192948224), (8, 77371252455336267181195264, 38685626227668133590597632), (0, 154742504910672534362390528, 128), (32, 309485009821345068724781056, 154742504910672534362390528), (0, 618970019642690137449562112, 256), (192, 1237940039285380274899124224, 928455029464035206174343168), (256, 2475880078570760549798248448, 1237940039285380274899124224), (528, 4951760157141521099596496896, 2553251331026096816979443712), (1024, 9903520314283042199192993792, 4951760157141521099596496896)] [594, 592, 594, 594, 578, 594, 530, 594, 594, 82, 0, 594] (.early 0 (.early 2 (.early 5 (.early 7 (.load 1 (.early 3 (.load 4 (.load 6 (.early 8 (.load 9 (.step 10 (.early 11 .done))))))))))))) (.cond (sQ .none) .none))) .none))))) (sQ (.block (.loop [9] (.seq (sQ (.cond .none .none)) (.seq (.block (.seq (.reg [(0, 2535301200456458802993406410752, 64), (1, 5070602400912917605986812821504, 2535301200456458802993406410752), (0, 10141204801825835211973625643008, 512), (6, 20282409603651670423947251286016, 15211807202738752817960438464512), (8, 40564819207303340847894502572032, 20282409603651670423947251286016), (0, 81129638414606681695789005144064, 128), (32, 162259276829213363391578010288128, 81129638414606681695789005144064), (0, 324518553658426726783156020576256, 512), (192, 649037107316853453566312041152512, 486777830487640090174734030864384), (256, 1298074214633706907132624082305024, 649037107316853453566312041152512), (528, 2596148429267413814265248164610048, 1338639033841010247980518584877056), (1024, 5192296858534827628530496329220096, 2596148429267413814265248164610048)] [594, 592, 594, 594, 578, 594, 530, 594, 594, 82, 0, 594] (.early 0 (.early 2 (.early 5 (.early 7 (.load 1 (.early 3 (.load 4 (.load 6 (.early 8 (.load 9 (.step 10 (.early 11 .done))))))))))))) (.cond (sQ .none) .none))) .none))))))))) .none))))) (sQ .none))))
theorem g8j (x0 x1 : Value) (w : World) (R : RT) (E : Pan) : F30 x0 x1 w R E = callX Tryz.prog [.tmp 4] c30 h30 [x0, x1] w R E := by kernel_rfl
theorem g8k {x0 x1 : Value} (h : F30 x0 x1 w R E) : Cv Tryz.prog 30 #[x0, x1] w R E := by
 refine i8 (args := [x0, x1]) (c := c30) (h := h30) (rs := [.tmp 4]) Tryz.func30 (by kernel_rfl) (by kernel_rfl) (nB (by kernel_rfl)) (by kernel_rfl) (by kernel_rfl) (by kernel_rfl) ?_
 rw [← g8j]
 exact h
def F39 (x0 : Value) (w : World) (R : RT) (E : Pan) : Prop :=
 oP E (xV (Instr.box 53 x0)) w fun q7 w_2 =>
 oP E (lA 53 q7) w_2 fun a0G w_4 =>
 oP E (xV (Instr.build 136 #[(0, a0G)])) w_4 fun a5S w_6 =>
 oP E (xV (Instr.makeInterface 136 a5S)) w_6 fun a9d w_8 =>
 oP E (xV (Instr.buildSlice 137 1 #[(0, a9d)])) w_8 fun b1l o9 =>
 oP E (xCall (fC 65) [b1l]) o9 fun Y0 p8 =>
 oP E (xNil Y0) p8 fun b7w p6 =>
 oP E (fA 101 b7w 2) p6 fun e3Q q8 =>
 oP E (lA 27 e3Q) q8 fun b8t w5 =>
 R b8t w5
noncomputable def c39 : Code := Tryz.f39.body.getD .skip
def h39 : Hint := (sQ (sQ .none))
theorem g8l (x0 : Value) (w : World) (R : RT) (E : Pan) : F39 x0 w R E = callX Tryz.prog [.tmp 2] c39 h39 [x0] w R E := by kernel_rfl
theorem g8m {x0 : Value} (h : F39 x0 w R E) : Cv Tryz.prog 39 #[x0] w R E := by
 refine i8 (args := [x0]) (c := c39) (h := h39) (rs := [.tmp 2]) Tryz.func39 (by kernel_rfl) (by kernel_rfl) (nB (by kernel_rfl)) (by kernel_rfl) (by kernel_rfl) (by kernel_rfl) ?_
 rw [← g8l]
 exact h
def F43 (x0 : Value) (w : World) (R : RT) (E : Pan) : Prop :=
 oP E (xV (Instr.box 25 x0)) w fun q7 w_2 =>
 dX w_2 fun w_3 =>
 qP Tryz.prog (fA 25 q7 0) fun d2R =>
 qP Tryz.prog (fA 25 q7 1) fun a7U =>
 qL Tryz.prog w_3 (blk d2R) (lA 22 d2R) fun j1W =>
 qL Tryz.prog w_3 (blk a7U) (lA 23 a7U) fun a9Z =>
 oP E (xCall (fC 76) [j1W, (fC 77)]) w_3 fun d6v w_9 =>
 keepX [(blk a7U)] w_3 w_9 (opK Tryz.prog E (xCall (fC 78) [a9Z, (fC 79)]) w_9 fun i5L S5 =>
 keepX [] w_9 S5 (opK Tryz.prog E (xV (Instr.buildSlice 179 2 #[(0, d6v), (1, i5L)])) S5 fun d0x a3F =>
 keepX [] S5 a3F (opK Tryz.prog E (xCall (fC 75) [d0x]) a3F fun g8n c2J =>
 keepX [] a3F c2J (opK Tryz.prog E (xCall (fC 65) [g8n]) c2J fun b8u a0t =>
 keepX [] c2J a0t (R b8u a0t)))))
noncomputable def c43 : Code := Tryz.f43.body.getD .skip
def h43 : Hint := (sQ (.seq (.reg [(0, 8, 2), (1, 16, 8), (2, 32, 16), (0, 64, 2), (8, 128, 64), (20, 256, 128), (36, 512, 288), (96, 1024, 512), (128, 2048, 1024), (511, 4, 2048)] [18, 16, 16, 18, 2, 0, 0, 0, 0, 18] (.early 0 (.early 3 (.load 1 (.load 4 (.step 2 (.step 5 (.step 6 (.step 7 (.step 8 (.early 9 .done))))))))))) .none))
theorem g8o (x0 : Value) (w : World) (R : RT) (E : Pan) : F43 x0 w R E = callX Tryz.prog [.tmp 2] c43 h43 [x0] w R E := by kernel_rfl
theorem g8p {x0 : Value} (h : F43 x0 w R E) : Cv Tryz.prog 43 #[x0] w R E := by
 refine i8 (args := [x0]) (c := c43) (h := h43) (rs := [.tmp 2]) Tryz.func43 (by kernel_rfl) (by kernel_rfl) (nB (by kernel_rfl)) (by kernel_rfl) (by kernel_rfl) (by kernel_rfl) ?_
 rw [← g8o]
 exact h
def d6w (x2 x3 : Value) (w : World) (R : RT) (E : Pan) : Prop :=
 ∀ _τ : Fr, (oP E (lA 108 x3) w fun d6x p8 =>
 oP E (sA 108 x2 d6x) p8 fun _z_13 p6 =>
 xcell Tryz.prog 108 x2 p6 fun b2Y =>
 R b2Y p6)
def f0j (x1 _x2 x3 x5 : Value) (w : World) (next3 : NT) (j2 : NT) (_R : RT) (E : Pan) : Prop :=
 oP E (fA 25 x1 1) w fun g8q X1 =>
 oP E (lA 23 g8q) X1 fun g8r a3e =>
 oP E (xBuiltin .len #[23] 3 [false] [g8r]) a3e fun g8s a6X =>
 oP E (xBin .lss 3 (.tmp 20) (.tmp 23) x5 g8s) a6X fun d0y a9K =>
 oP E (gsem (asB d0y) true (fA 108 x3 2)) a9K fun g8t a5U =>
 oP E (gsem (asB d0y) true (lA 3 g8t)) a5U fun g8u a6Y =>
 oP E (gsem (asB d0y) true (xBin .eql 3 (.tmp 27) (.const (vI 0)) g8u (vI 0))) a6Y fun g8v b1m =>
 oP E (xPick d0y g8v (vB false)) b1m fun g8w a9e =>
 xcond g8w
 (oP E (fA 25 x1 1) a9e fun g8x b6Q =>
 oP E (lA 23 g8x) b6Q fun g8y b2Z =>
 oP E (iA 23 g8y x5) b2Z fun g8z b6R =>
 oP E (lA 73 g8z) b6R fun g8A c4X =>
 oP E (xCall (fC 85) [x3, g8A, (vI 1)]) c4X fun _t37_42 b5x =>
 oP E (xBin .add 3 (.tmp 30) (.const (vI 1)) x5 (vI 1)) b5x fun g8B c2K =>
 next3 [g8B] c2K)
 (j2 [] a9e)
def d6y (x1 x2 x3 : Value) (w : World) (R : RT) (E : Pan) : Prop :=
 ∀ _τ : Fr, (xcut (fun _ a0t => d6w x2 x3 a0t R E) fun j2 =>
 xloop [5] [(vI 0)] w fun τ_46 b8v next3 =>
 f0j x1 x2 x3 (τ_46 5) b8v next3 j2 R E)
def f0k (x1 _x2 x3 x4 : Value) (w : World) (next4 : NT) (j1 : NT) (_R : RT) (E : Pan) : Prop :=
 oP E (fA 25 x1 0) w fun d0z b4f =>
 oP E (lA 22 d0z) b4f fun i5M b3a =>
 oP E (xBuiltin .len #[22] 3 [false] [i5M]) b3a fun g8C b6S =>
 oP E (xBin .lss 3 (.tmp 7) (.tmp 10) x4 g8C) b6S fun d0A b4g =>
 oP E (gsem (asB d0A) true (fA 108 x3 2)) b4g fun d6z b2w =>
 oP E (gsem (asB d0A) true (lA 3 d6z)) b2w fun d6A b5y =>
 oP E (gsem (asB d0A) true (xBin .eql 3 (.tmp 14) (.const (vI 0)) d6A (vI 0))) b5y fun d6B b4h =>
 oP E (xPick d0A d6B (vB false)) b4h fun g8D b1n =>
 xcond g8D
 (oP E (xCall (fC 84) [x3, (vI 1)]) b1n fun _t19_66 b4i =>
 oP E (xBin .add 3 (.tmp 17) (.const (vI 1)) x4 (vI 1)) b4i fun g8E b3b =>
 next4 [g8E] b3b)
 (j1 [] b1n)
def F47 (x0 : Value) (w : World) (R : RT) (E : Pan) : Prop :=
 oP E (xV (Instr.box 25 x0)) w fun q7 w_2 =>
 oP E (xV (Instr.alloc 108 true (.tuple #[]))) w_2 fun R3 w_4 =>
 oP E (xV (Instr.build 108 #[])) w_4 fun a7U w_6 =>
 oP E (xV (Instr.alloc 108 true (.tuple #[]))) w_6 fun c8I w_8 =>
 oP E (sA 108 c8I a7U) w_8 fun _z_9 o9 =>
 xcut (fun _ c0T => d6y q7 R3 c8I c0T R E) fun j1 =>
 xloop [4] [(vI 0)] o9 fun τ_70 b2x next4 =>
 f0k q7 R3 c8I (τ_70 4) b2x next4 j1 R E
noncomputable def c47 : Code := Tryz.f47.body.getD .skip
def h47 : Hint := (sQ (sQ (.cut [] (sQ (.block (.loop [4] (.seq (sQ (.cond .none .none)) (.seq (.block .none) .none))))) (.cut [] (sQ (.block (.loop [5] (.seq (sQ (.cond .none .none)) (.seq (.block .none) .none))))) (sQ .none)))))
theorem g8F (x0 : Value) (w : World) (R : RT) (E : Pan) : F47 x0 w R E = callX Tryz.prog [.cell 2 108] c47 h47 [x0] w R E := by kernel_rfl
theorem g8G {x0 : Value} (h : F47 x0 w R E) : Cv Tryz.prog 47 #[x0] w R E := by
 refine i8 (args := [x0]) (c := c47) (h := h47) (rs := [.cell 2 108]) Tryz.func47 (by kernel_rfl) (by kernel_rfl) (nB (by kernel_rfl)) (by kernel_rfl) (by kernel_rfl) (by kernel_rfl) ?_
 rw [← g8F]
 exact h
def d6C (w : World) (R : RT) (_E : Pan) : Prop :=
 ∀ _τ : Fr, (R (vB true) w)
def f0l (x2 x3 x6 : Value) (w : World) (next3 : NT) (j2 : NT) (R : RT) (E : Pan) : Prop :=
 oP E (fA 59 x2 3) w fun g8H T6 =>
 oP E (lA 57 g8H) T6 fun g8I Q3 =>
 oP E (xBuiltin .len #[57] 3 [false] [g8I]) Q3 fun g8J Z8 =>
 oP E (xBin .lss 3 (.tmp 56) (.tmp 59) x6 g8J) Z8 fun g8K Z9 =>
 xcond g8K
 (dX Z9 fun b3b =>
 qP Tryz.prog (fA 59 x2 3) fun f0m =>
 qP Tryz.prog (fA 59 x3 3) fun f0n =>
 qL Tryz.prog b3b (blk f0m) (lA 57 f0m) fun g8L =>
 qP Tryz.prog (iA 57 g8L x6) fun f0o =>
 qL Tryz.prog b3b (blk f0o) (lA 59 f0o) fun g8M =>
 qL Tryz.prog b3b (blk f0n) (lA 57 f0n) fun b4j =>
 qP Tryz.prog (iA 57 b4j x6) fun f0p =>
 qL Tryz.prog b3b (blk f0p) (lA 59 f0p) fun d6D =>
 oP E (xCall (fC 52) [g8M, d6D]) b3b fun g8N a6Z =>
 keepX [] b3b a6Z (qP Tryz.prog (xV (Op.unary .not g8N)) fun g8O =>
 xcond g8O
 (R (vB false) a6Z)
 (oP E (xBin .add 3 (.tmp 61) (.const (vI 1)) x6 (vI 1)) a6Z fun g8P a2o =>
 next3 [g8P] a2o)))
 (j2 [] Z9)
def d6E (x2 x3 : Value) (w : World) (R : RT) (E : Pan) : Prop :=
 ∀ _τ : Fr, (xcut (fun _ S4 => d6C S4 R E) fun j2 =>
 xloop [6] [(vI 0)] w fun τ_83 a0s next3 =>
 f0l x2 x3 (τ_83 6) a0s next3 j2 R E)
def f0q (x2 x3 x5 : Value) (w : World) (next4 : NT) (j1 : NT) (R : RT) (E : Pan) : Prop :=
 oP E (fA 59 x2 2) w fun g8Q a2p =>
 oP E (lA 51 g8Q) a2p fun g8R a3d =>
 oP E (xBuiltin .len #[51] 3 [false] [g8R]) a3d fun g8S a3E =>
 oP E (xBin .lss 3 (.tmp 37) (.tmp 40) x5 g8S) a3E fun g8T a1U =>
 xcond g8T
 (dX a1U fun b6T =>
 qP Tryz.prog (fA 59 x2 2) fun f0r =>
 qP Tryz.prog (fA 59 x3 2) fun f0s =>
 qL Tryz.prog b6T (blk f0r) (lA 51 f0r) fun g8U =>
 qP Tryz.prog (iA 51 g8U x5) fun f0t =>
 qL Tryz.prog b6T (blk f0t) (lA 53 f0t) fun g0o =>
 qL Tryz.prog b6T (blk f0s) (lA 51 f0s) fun g0p =>
 qP Tryz.prog (iA 51 g0p x5) fun e2t =>
 qL Tryz.prog b6T (blk e2t) (lA 53 e2t) fun g0q =>
 oP E (xCall (fC 53) [g0o, g0q]) b6T fun g0r c2L =>
 keepX [] b6T c2L (qP Tryz.prog (xV (Op.unary .not g0r)) fun g0s =>
 xcond g0s
 (R (vB false) c2L)
 (oP E (xBin .add 3 (.tmp 42) (.const (vI 1)) x5 (vI 1)) c2L fun d2S a4j =>
 next4 [d2S] a4j)))
 (j1 [] a1U)
def F52 (x0 x1 : Value) (w : World) (R : RT) (E : Pan) : Prop :=
 oP E (xV (Instr.box 59 x0)) w fun X0 w_2 =>
 oP E (xV (Instr.box 59 x1)) w_2 fun a0G w_4 =>
 oP E (fA 59 X0 0) w_4 fun b5z w_6 =>
 oP E (lA 3 b5z) w_6 fun b2y w_8 =>
 oP E (fA 59 a0G 0) w_8 fun c4Y o9 =>
 oP E (lA 3 c4Y) o9 fun c4U p8 =>
 oP E (xBin .neq 3 (.tmp 8) (.tmp 10) b2y c4U) p8 fun b0P p6 =>
 oP E (gsem (asB b0P) false (fA 59 X0 1)) p6 fun b1o q8 =>
 oP E (gsem (asB b0P) false (lA 3 b1o)) q8 fun b4k w5 =>
 oP E (gsem (asB b0P) false (fA 59 a0G 1)) w5 fun a7V t8 =>
 oP E (gsem (asB b0P) false (lA 3 a7V)) t8 fun a8K w9 =>
 oP E (gsem (asB b0P) false (xBin .neq 3 (.tmp 14) (.tmp 16) b4k a8K)) w9 fun b4c v2 =>
 oP E (xPick b0P (vB true) b4c) v2 fun a6E y8 =>
 oP E (gsem (asB a6E) false (fA 59 X0 2)) y8 fun g8V B0 =>
 oP E (gsem (asB a6E) false (lA 51 g8V)) B0 fun d6F C0 =>
 oP E (gsem (asB a6E) false (xBuiltin .len #[51] 3 [false] [d6F])) C0 fun d6G C3 =>
 oP E (gsem (asB a6E) false (fA 59 a0G 2)) C3 fun c4Z A6 =>
 oP E (gsem (asB a6E) false (lA 51 c4Z)) A6 fun b8p J6 =>
 oP E (gsem (asB a6E) false (xBuiltin .len #[51] 3 [false] [b8p])) J6 fun a7W C2 =>
 oP E (gsem (asB a6E) false (xBin .neq 3 (.tmp 22) (.tmp 25) d6G a7W)) C2 fun b8q J7 =>
 oP E (xPick a6E (vB true) b8q) J7 fun a5M C7 =>
 oP E (gsem (asB a5M) false (fA 59 X0 3)) C7 fun d6H D8 =>
 oP E (gsem (asB a5M) false (lA 57 d6H)) D8 fun d6I G8 =>
 oP E (gsem (asB a5M) false (xBuiltin .len #[57] 3 [false] [d6I])) G8 fun d6J L9 =>
 oP E (gsem (asB a5M) false (fA 59 a0G 3)) L9 fun d6K M6 =>
 oP E (gsem (asB a5M) false (lA 57 d6K)) M6 fun c5a P3 =>
 oP E (gsem (asB a5M) false (xBuiltin .len #[57] 3 [false] [c5a])) P3 fun d6L N9 =>
 oP E (gsem (asB a5M) false (xBin .neq 3 (.tmp 31) (.tmp 34) d6J d6L)) N9 fun c5b P4 =>
 oP E (xPick a5M (vB true) c5b) P4 fun c5c P0 =>
 xcond c5c
 (R (vB false) P0)
 (xcut (fun _ a2M => d6E X0 a0G a2M R E) fun j1 =>
 xloop [5] [(vI 0)] P0 fun τ_109 a7m next4 =>
 f0q X0 a0G (τ_109 5) a7m next4 j1 R E)
noncomputable def c52 : Code := Tryz.f52.body.getD .skip
def h52 : Hint := (sQ (.seq (sQ (.cond (sQ .none) .none)) (.cut [] (sQ (.block (.loop [5] (.seq (sQ (.cond .none .none)) (.seq (.block (.seq (.reg [(0, 17592186044416, 4), (1, 35184372088832, 17592186044416), (0, 70368744177664, 32), (6, 140737488355328, 105553116266496), (8, 281474976710656, 140737488355328), (0, 562949953421312, 8), (32, 1125899906842624, 562949953421312), (0, 2251799813685248, 32), (192, 4503599627370496, 3377699720527872), (256, 9007199254740992, 4503599627370496), (528, 18014398509481984, 9288674231451648), (1024, 36028797018963968, 18014398509481984)] [594, 592, 594, 594, 578, 594, 530, 594, 594, 82, 0, 594] (.early 0 (.early 2 (.early 5 (.early 7 (.load 1 (.early 3 (.load 4 (.load 6 (.early 8 (.load 9 (.step 10 (.early 11 .done))))))))))))) (.cond (sQ .none) .none))) .none))))) (.cut [] (sQ (.block (.loop [6] (.seq (sQ (.cond .none .none)) (.seq (.block (.seq (.reg [(0, 9223372036854775808, 4), (1, 18446744073709551616, 9223372036854775808), (0, 36893488147419103232, 64), (6, 73786976294838206464, 55340232221128654848), (8, 147573952589676412928, 73786976294838206464), (0, 295147905179352825856, 8), (32, 590295810358705651712, 295147905179352825856), (0, 1180591620717411303424, 64), (192, 2361183241434822606848, 1770887431076116955136), (256, 4722366482869645213696, 2361183241434822606848), (528, 9444732965739290427392, 4869940435459321626624), (1024, 18889465931478580854784, 9444732965739290427392)] [594, 592, 594, 594, 578, 594, 530, 594, 594, 82, 0, 594] (.early 0 (.early 2 (.early 5 (.early 7 (.load 1 (.early 3 (.load 4 (.load 6 (.early 8 (.load 9 (.step 10 (.early 11 .done))))))))))))) (.cond (sQ .none) .none))) .none))))) (sQ .none)))))
theorem g8W (x0 x1 : Value) (w : World) (R : RT) (E : Pan) : F52 x0 x1 w R E = callX Tryz.prog [.tmp 4] c52 h52 [x0, x1] w R E := by kernel_rfl
theorem g8X {x0 x1 : Value} (h : F52 x0 x1 w R E) : Cv Tryz.prog 52 #[x0, x1] w R E := by
 refine i8 (args := [x0, x1]) (c := c52) (h := h52) (rs := [.tmp 4]) Tryz.func52 (by kernel_rfl) (by kernel_rfl) (nB (by kernel_rfl)) (by kernel_rfl) (by kernel_rfl) (by kernel_rfl) ?_
 rw [← g8W]
 exact h
def d6M (w : World) (R : RT) (_E : Pan) : Prop :=
 ∀ _τ : Fr, (R (vB true) w)
def f0u (x2 x3 x5 : Value) (w : World) (next2 : NT) (j1 : NT) (R : RT) (E : Pan) : Prop :=
 oP E (fA 53 x2 3) w fun d6a P0 =>
 oP E (lA 51 d6a) P0 fun g8Y S4 =>
 oP E (xBuiltin .len #[51] 3 [false] [g8Y]) S4 fun g8Z T6 =>
 oP E (xBin .lss 3 (.tmp 34) (.tmp 37) x5 g8Z) T6 fun g9a Q3 =>
 xcond g9a
 (dX Q3 fun b1n =>
 qP Tryz.prog (fA 53 x2 3) fun f0v =>
 qP Tryz.prog (fA 53 x3 3) fun f0w =>
 qL Tryz.prog b1n (blk f0v) (lA 51 f0v) fun g9b =>
 qP Tryz.prog (iA 51 g9b x5) fun f0x =>
 qL Tryz.prog b1n (blk f0x) (lA 53 f0x) fun g9c =>
 qL Tryz.prog b1n (blk f0w) (lA 51 f0w) fun g9d =>
 qP Tryz.prog (iA 51 g9d x5) fun d0B =>
 qL Tryz.prog b1n (blk d0B) (lA 53 d0B) fun g9e =>
 oP E (xCall (fC 53) [g9c, g9e]) b1n fun g9f c0U =>
 keepX [] b1n c0U (qP Tryz.prog (xV (Op.unary .not g9f)) fun g9g =>
 xcond g9g
 (R (vB false) c0U)
 (oP E (xBin .add 3 (.tmp 39) (.const (vI 1)) x5 (vI 1)) c0U fun g9h a2Z =>
 next2 [g9h] a2Z)))
 (j1 [] Q3)
def F53 (x0 x1 : Value) (w : World) (R : RT) (E : Pan) : Prop :=
 oP E (xV (Instr.box 53 x0)) w fun X0 w_2 =>
 oP E (xV (Instr.box 53 x1)) w_2 fun a0G w_4 =>
 oP E (fA 53 X0 0) w_4 fun a7U w_6 =>
 oP E (lA 3 a7U) w_6 fun a9Z w_8 =>
 oP E (fA 53 a0G 0) w_8 fun a5s o9 =>
 oP E (lA 3 a5s) o9 fun a4M p8 =>
 oP E (xBin .neq 3 (.tmp 7) (.tmp 9) a9Z a4M) p8 fun a7g p6 =>
 oP E (gsem (asB a7g) false (fA 53 X0 1)) p6 fun b8o q8 =>
 oP E (gsem (asB a7g) false (lA 2 b8o)) q8 fun a4g w5 =>
 oP E (gsem (asB a7g) false (fA 53 a0G 1)) w5 fun d6N t8 =>
 oP E (gsem (asB a7g) false (lA 2 d6N)) t8 fun c5d w9 =>
 oP E (gsem (asB a7g) false (xBin .neq 2 (.tmp 13) (.tmp 15) a4g c5d)) w9 fun c5e v2 =>
 oP E (xPick a7g (vB true) c5e) v2 fun b0Q y8 =>
 oP E (gsem (asB b0Q) false (fA 53 X0 2)) y8 fun b1k B0 =>
 oP E (gsem (asB b0Q) false (lA 9 b1k)) B0 fun c4V C0 =>
 oP E (gsem (asB b0Q) false (fA 53 a0G 2)) C0 fun b2M C3 =>
 oP E (gsem (asB b0Q) false (lA 9 b2M)) C3 fun a9J A6 =>
 oP E (gsem (asB b0Q) false (xBin .neq 9 (.tmp 20) (.tmp 22) c4V a9J)) A6 fun d6O J6 =>
 oP E (xPick b0Q (vB true) d6O) J6 fun b0R C2 =>
 oP E (gsem (asB b0R) false (fA 53 X0 3)) C2 fun b8q J7 =>
 oP E (gsem (asB b0R) false (lA 51 b8q)) J7 fun a5M C7 =>
 oP E (gsem (asB b0R) false (xBuiltin .len #[51] 3 [false] [a5M])) C7 fun d6f D8 =>
 oP E (gsem (asB b0R) false (fA 53 a0G 3)) D8 fun d6g G8 =>
 oP E (gsem (asB b0R) false (lA 51 d6g)) G8 fun d6h L9 =>
 oP E (gsem (asB b0R) false (xBuiltin .len #[51] 3 [false] [d6h])) L9 fun d6P M6 =>
 oP E (gsem (asB b0R) false (xBin .neq 3 (.tmp 28) (.tmp 31) d6f d6P)) M6 fun c4S P3 =>
 oP E (xPick b0R (vB true) c4S) P3 fun c4T N9 =>
 xcond c4T
 (R (vB false) N9)
 (xcut (fun _ P4 => d6M P4 R E) fun j1 =>
 xloop [5] [(vI 0)] N9 fun τ_79 a3b next2 =>
 f0u X0 a0G (τ_79 5) a3b next2 j1 R E)
noncomputable def c53 : Code := Tryz.f53.body.getD .skip
def h53 : Hint := (sQ (.seq (sQ (.cond (sQ .none) .none)) (.cut [] (sQ (.block (.loop [5] (.seq (sQ (.cond .none .none)) (.seq (.block (.seq (.reg [(0, 2199023255552, 4), (1, 4398046511104, 2199023255552), (0, 8796093022208, 32), (6, 17592186044416, 13194139533312), (8, 35184372088832, 17592186044416), (0, 70368744177664, 8), (32, 140737488355328, 70368744177664), (0, 281474976710656, 32), (192, 562949953421312, 422212465065984), (256, 1125899906842624, 562949953421312), (528, 2251799813685248, 1161084278931456), (1024, 4503599627370496, 2251799813685248)] [594, 592, 594, 594, 578, 594, 530, 594, 594, 82, 0, 594] (.early 0 (.early 2 (.early 5 (.early 7 (.load 1 (.early 3 (.load 4 (.load 6 (.early 8 (.load 9 (.step 10 (.early 11 .done))))))))))))) (.cond (sQ .none) .none))) .none))))) (sQ .none))))
theorem g9i (x0 x1 : Value) (w : World) (R : RT) (E : Pan) : F53 x0 x1 w R E = callX Tryz.prog [.tmp 4] c53 h53 [x0, x1] w R E := by kernel_rfl
theorem g9j {x0 x1 : Value} (h : F53 x0 x1 w R E) : Cv Tryz.prog 53 #[x0, x1] w R E := by
 refine i8 (args := [x0, x1]) (c := c53) (h := h53) (rs := [.tmp 4]) Tryz.func53 (by kernel_rfl) (by kernel_rfl) (nB (by kernel_rfl)) (by kernel_rfl) (by kernel_rfl) (by kernel_rfl) ?_
 rw [← g9i]
 exact h
def d6Q (x3 : Value) (w : World) (R : RT) (E : Pan) : Prop :=
 ∀ _τ : Fr, (oP E (lA 102 x3) w fun b6u q8 =>
 R b6u q8)
def F65 (x0 : Value) (w : World) (R : RT) (E : Pan) : Prop :=
 oP E (xV (Instr.build 101 #[])) w fun b4l w_2 =>
 oP E (xV (Instr.box 101 b4l)) w_2 fun b3c w_4 =>
 oP E (xV (Instr.alloc 102 true (.tuple #[]))) w_4 fun c2M w_6 =>
 oP E (sA 102 c2M b3c) w_6 fun _z_7 w_8 =>
 oP E (xV (Instr.alloc 170 true (.tuple #[]))) w_8 fun f3v o9 =>
 oP E (xV (Instr.makeFunc (.func 110) #[] #[c2M, f3v])) o9 fun c2N p8 =>
 oP E (sA 170 f3v c2N) p8 fun _z_13 p6 =>
 xcut (fun _ w5 => d6Q c2M w5 R E) fun j1 =>
 oP E (lA 170 f3v) p6 fun i5N t8 =>
 oP E (xCall i5N [x0, (vI 1)]) t8 fun d0C w9 =>
 oP E (xV (Op.unary .not d0C)) w9 fun g9k v2 =>
 xcond g9k
 (j1 [] v2)
 (oP E (lA 102 c2M) v2 fun g9l y8 =>
 oP E (xNil g9l) y8 fun d6R B0 =>
 oP E (fA 101 d6R 3) B0 fun d0D C0 =>
 oP E (lA 4 d0D) C0 fun d6S C3 =>
 xcond d6S
 (oP E (lA 102 c2M) C3 fun g9m A6 =>
 oP E (xNil g9m) A6 fun g9n J6 =>
 oP E (fA 101 g9n 2) J6 fun g9o C2 =>
 oP E (sA 27 g9o (vI 30)) C2 fun _z_39 J7 =>
 j1 [] J7)
 (oP E (lA 102 c2M) C3 fun g9p C7 =>
 oP E (xNil g9p) C7 fun c5f D8 =>
 oP E (fA 101 c5f 4) D8 fun d6T G8 =>
 oP E (lA 4 d6T) G8 fun d6U L9 =>
 xcond d6U
 (oP E (lA 102 c2M) L9 fun d6V M6 =>
 oP E (xNil d6V) M6 fun d6W P3 =>
 oP E (fA 101 d6W 2) P3 fun g9q N9 =>
 oP E (sA 27 g9q (vI 31)) N9 fun _z_55 P4 =>
 j1 [] P4)
 (j1 [] L9)))
noncomputable def c65 : Code := Tryz.f65.body.getD .skip
def h65 : Hint := (sQ (sQ (sQ (sQ (.cut [] (sQ (.block (sQ (.cond .none (sQ (.cond .none (sQ (.cond .none .none)))))))) (sQ .none))))))
theorem g9r (x0 : Value) (w : World) (R : RT) (E : Pan) : F65 x0 w R E = callX Tryz.prog [.tmp 2] c65 h65 [x0] w R E := by kernel_rfl
theorem g9s {x0 : Value} (h : F65 x0 w R E) : Cv Tryz.prog 65 #[x0] w R E := by
 refine i8 (args := [x0]) (c := c65) (h := h65) (rs := [.tmp 2]) Tryz.func65 (by kernel_rfl) (by kernel_rfl) (nB (by kernel_rfl)) (by kernel_rfl) (by kernel_rfl) (by kernel_rfl) ?_
 rw [← g9r]
 exact h
def d6X (x6 : Value) (w : World) (R : RT) (_E : Pan) : Prop :=
 ∀ _τ : Fr, (R x6 w)
def f0y (x6 x25 x26 x27 : Value) (w : World) (next3 : NT) (j2 : NT) (_R : RT) (E : Pan) : Prop :=
 oP E (xBin .lss 3 (.tmp 27) (.tmp 26) x27 x26) w fun i5O w_8 =>
 xcond i5O
 (oP E (iA 179 x25 x27) w_8 fun i5P o9 =>
 oP E (lA 137 i5P) o9 fun g9t p8 =>
 oP E (xBuiltin .append #[137, 137] 137 [false, false] [x6, g9t]) p8 fun d6Y p6 =>
 oP E (xBin .add 3 (.tmp 27) (.const (vI 1)) x27 (vI 1)) p6 fun d6Z q8 =>
 next3 [d6Y, d6Z] q8)
 (j2 [x6] w_8)
def d7a (x0 x3 : Value) (w : World) (R : RT) (E : Pan) : Prop :=
 ∀ _τ : Fr, (oP E (xCall (fC 119) [(nS), x3]) w fun i5Q w_2 =>
 xcut (fun l_3 w_4 => d6X (nth l_3 0) w_4 R E) fun j2 =>
 oP E (xBuiltin .len #[179] 3 [false] [x0]) w_2 fun e3R w_6 =>
 xloop [6, 27] [i5Q, (vI 0)] w_6 fun τ_17 w5 next3 =>
 f0y (τ_17 6) x0 e3R (τ_17 27) w5 next3 j2 R E)
def d7b (_x0 x3 _x9 _x10 x11 : Value) (w : World) (next4 : NT) (_R : RT) (E : Pan) : Prop :=
 ∀ _τ : Fr, (oP E (xBin .add 3 (.tmp 11) (.const (vI 1)) x11 (vI 1)) w fun d0E y8 =>
 next4 [x3, d0E] y8)
def f0z (x0 x3 x9 x10 x11 : Value) (w : World) (next4 : NT) (j1 : NT) (R : RT) (E : Pan) : Prop :=
 oP E (xBin .lss 3 (.tmp 11) (.tmp 10) x11 x10) w fun d7c v2 =>
 xcond d7c
 (xcut (fun d2T B0 => d7b x0 (nth d2T 0) x9 x10 x11 B0 next4 R E) fun j5 =>
 oP E (iA 179 x9 x11) v2 fun g9u C0 =>
 oP E (lA 137 g9u) C0 fun g9v C3 =>
 oP E (xBuiltin .len #[137] 3 [false] [g9v]) C3 fun d7d A6 =>
 oP E (xBin .add 3 (.tmp 15) (.tmp 17) x3 d7d) A6 fun c5g J6 =>
 oP E (xBin .lss 3 (.tmp 19) (.const (vI 0)) c5g (vI 0)) J6 fun g9w C2 =>
 xcond g9w
 (oP E (xV (Instr.makeInterface 9 (Value.string ⟨#[108, 101, 110, 32, 111, 117, 116, 32, 111, 102, 32, 114, 97, 110, 103, 101]⟩))) C2 fun g9x J7 =>
 oP E (xV (Instr.panic g9x)) J7 fun _z_41 C7 =>
 j5 [c5g] C7)
 (j5 [c5g] C2))
 (j1 [x3] v2)
def F75 (x0 : Value) (w : World) (R : RT) (E : Pan) : Prop :=
 xcut (fun a8s t8 => d7a x0 (nth a8s 0) t8 R E) fun j1 =>
 oP E (xBuiltin .len #[179] 3 [false] [x0]) w fun g9y w9 =>
 xloop [3, 11] [(vI 0), (vI 0)] w9 fun τ_43 D8 next4 =>
 f0z x0 (τ_43 3) x0 g9y (τ_43 11) D8 next4 j1 R E
noncomputable def c75 : Code := Tryz.f75.body.getD .skip
def h75 : Hint := (sQ (sQ (.cut [3] (sQ (.block (.loop [3, 11] (sQ (.seq (.cond .none .none) (.cut [3] (.block (sQ (sQ (sQ (.cond .none .none))))) .none)))))) (sQ (.cut [6] (sQ (.block (.loop [6, 27] (sQ (.seq (.cond .none .none) (.seq (.block (sQ .none)) .none)))))) (sQ .none))))))
theorem g9z (x0 : Value) (w : World) (R : RT) (E : Pan) : F75 x0 w R E = callX Tryz.prog [.tmp 2] c75 h75 [x0] w R E := by kernel_rfl
theorem g9A {x0 : Value} (h : F75 x0 w R E) : Cv Tryz.prog 75 #[x0] w R E := by
 refine i8 (args := [x0]) (c := c75) (h := h75) (rs := [.tmp 2]) Tryz.func75 (by kernel_rfl) (by kernel_rfl) (nB (by kernel_rfl)) (by kernel_rfl) (by kernel_rfl) (by kernel_rfl) ?_
 rw [← g9z]
 exact h
def d7e (x5 : Value) (w : World) (R : RT) (_E : Pan) : Prop :=
 ∀ _τ : Fr, (R x5 w)
def f0A (x1 x5 x8 x9 x10 : Value) (w : World) (next2 : NT) (j1 : NT) (_R : RT) (E : Pan) : Prop :=
 oP E (xBin .lss 3 (.tmp 10) (.tmp 9) x10 x9) w fun a4N w_6 =>
 xcond a4N
 (oP E (iA 22 x8 x10) w_6 fun a2b w_8 =>
 oP E (lA 71 a2b) w_8 fun a4O o9 =>
 oP E (xV (Instr.alloc 71 true (.tuple #[]))) o9 fun Y0 p8 =>
 oP E (sA 71 Y0 a4O) p8 fun _z_13 p6 =>
 oP E (lA 71 Y0) p6 fun a4P q8 =>
 oP E (xCall x1 [a4P]) q8 fun a6G w5 =>
 oP E (xV (Instr.buildSlice 137 1 #[(0, a6G)])) w5 fun a4Q t8 =>
 oP E (xBuiltin .append #[137, 137] 137 [false, false] [x5, a4Q]) t8 fun a6H w9 =>
 oP E (xBin .add 3 (.tmp 10) (.const (vI 1)) x10 (vI 1)) w9 fun a4R v2 =>
 next2 [a6H, a4R] v2)
 (j1 [x5] w_6)
def F76 (x0 x1 : Value) (w : World) (R : RT) (E : Pan) : Prop :=
 xcut (fun l_1 w_2 => d7e (nth l_1 0) w_2 R E) fun j1 =>
 oP E (xBuiltin .len #[22] 3 [false] [x0]) w fun a4S w_4 =>
 xloop [5, 10] [(nS), (vI 0)] w_4 fun τ_25 y8 next2 =>
 f0A x1 (τ_25 5) x0 a4S (τ_25 10) y8 next2 j1 R E
noncomputable def c76 : Code := Tryz.f76.body.getD .skip
def h76 : Hint := (sQ (sQ (.cut [5] (sQ (.block (.loop [5, 10] (sQ (.seq (.cond .none .none) (.seq (.block (sQ .none)) .none)))))) (sQ .none))))
theorem g9B (x0 x1 : Value) (w : World) (R : RT) (E : Pan) : F76 x0 x1 w R E = callX Tryz.prog [.tmp 4] c76 h76 [x0, x1] w R E := by kernel_rfl
theorem g9C {x0 x1 : Value} (h : F76 x0 x1 w R E) : Cv Tryz.prog 76 #[x0, x1] w R E := by
 refine i8 (args := [x0, x1]) (c := c76) (h := h76) (rs := [.tmp 4]) Tryz.func76 (by kernel_rfl) (by kernel_rfl) (nB (by kernel_rfl)) (by kernel_rfl) (by kernel_rfl) (by kernel_rfl) ?_
 rw [← g9B]
 exact h
def F77 (x0 : Value) (w : World) (R : RT) (E : Pan) : Prop :=
 oP E (xV (Instr.box 71 x0)) w fun q7 w_2 =>
 oP E (lA 71 q7) w_2 fun a0G w_4 =>
 oP E (xV (Instr.build 182 #[(0, a0G)])) w_4 fun a5S w_6 =>
 oP E (xV (Instr.makeInterface 182 a5S)) w_6 fun a9d w_8 =>
 R a9d w_8
noncomputable def c77 : Code := Tryz.f77.body.getD .skip
def h77 : Hint := (sQ (sQ .none))
theorem g9D (x0 : Value) (w : World) (R : RT) (E : Pan) : F77 x0 w R E = callX Tryz.prog [.tmp 2] c77 h77 [x0] w R E := by kernel_rfl
theorem g9E {x0 : Value} (h : F77 x0 w R E) : Cv Tryz.prog 77 #[x0] w R E := by
 refine i8 (args := [x0]) (c := c77) (h := h77) (rs := [.tmp 2]) Tryz.func77 (by kernel_rfl) (by kernel_rfl) (nB (by kernel_rfl)) (by kernel_rfl) (by kernel_rfl) (by kernel_rfl) ?_
 rw [← g9D]
 exact h
def d7f (x5 : Value) (w : World) (R : RT) (_E : Pan) : Prop :=
 ∀ _τ : Fr, (R x5 w)
def f0B (x1 x5 x8 x9 x10 : Value) (w : World) (next2 : NT) (j1 : NT) (_R : RT) (E : Pan) : Prop :=
 oP E (xBin .lss 3 (.tmp 10) (.tmp 9) x10 x9) w fun a4N w_6 =>
 xcond a4N
 (oP E (iA 23 x8 x10) w_6 fun a2b w_8 =>
 oP E (lA 73 a2b) w_8 fun a4O o9 =>
 oP E (xV (Instr.alloc 73 true (.tuple #[]))) o9 fun Y0 p8 =>
 oP E (sA 73 Y0 a4O) p8 fun _z_13 p6 =>
 oP E (lA 73 Y0) p6 fun a4P q8 =>
 oP E (xCall x1 [a4P]) q8 fun a6G w5 =>
 oP E (xV (Instr.buildSlice 137 1 #[(0, a6G)])) w5 fun a4Q t8 =>
 oP E (xBuiltin .append #[137, 137] 137 [false, false] [x5, a4Q]) t8 fun a6H w9 =>
 oP E (xBin .add 3 (.tmp 10) (.const (vI 1)) x10 (vI 1)) w9 fun a4R v2 =>
 next2 [a6H, a4R] v2)
 (j1 [x5] w_6)
def F78 (x0 x1 : Value) (w : World) (R : RT) (E : Pan) : Prop :=
 xcut (fun l_1 w_2 => d7f (nth l_1 0) w_2 R E) fun j1 =>
 oP E (xBuiltin .len #[23] 3 [false] [x0]) w fun a4S w_4 =>
 xloop [5, 10] [(nS), (vI 0)] w_4 fun τ_25 y8 next2 =>
 f0B x1 (τ_25 5) x0 a4S (τ_25 10) y8 next2 j1 R E
noncomputable def c78 : Code := Tryz.f78.body.getD .skip
def h78 : Hint := (sQ (sQ (.cut [5] (sQ (.block (.loop [5, 10] (sQ (.seq (.cond .none .none) (.seq (.block (sQ .none)) .none)))))) (sQ .none))))
theorem g9F (x0 x1 : Value) (w : World) (R : RT) (E : Pan) : F78 x0 x1 w R E = callX Tryz.prog [.tmp 4] c78 h78 [x0, x1] w R E := by kernel_rfl
theorem g9G {x0 x1 : Value} (h : F78 x0 x1 w R E) : Cv Tryz.prog 78 #[x0, x1] w R E := by
 refine i8 (args := [x0, x1]) (c := c78) (h := h78) (rs := [.tmp 4]) Tryz.func78 (by kernel_rfl) (by kernel_rfl) (nB (by kernel_rfl)) (by kernel_rfl) (by kernel_rfl) (by kernel_rfl) ?_
 rw [← g9F]
 exact h
def F79 (x0 : Value) (w : World) (R : RT) (E : Pan) : Prop :=
 oP E (xV (Instr.box 73 x0)) w fun q7 w_2 =>
 oP E (lA 73 q7) w_2 fun a0G w_4 =>
 oP E (xV (Instr.build 184 #[(0, a0G)])) w_4 fun a5S w_6 =>
 oP E (xV (Instr.makeInterface 184 a5S)) w_6 fun a9d w_8 =>
 R a9d w_8
noncomputable def c79 : Code := Tryz.f79.body.getD .skip
def h79 : Hint := (sQ (sQ .none))
theorem g9H (x0 : Value) (w : World) (R : RT) (E : Pan) : F79 x0 w R E = callX Tryz.prog [.tmp 2] c79 h79 [x0] w R E := by kernel_rfl
theorem g9I {x0 : Value} (h : F79 x0 w R E) : Cv Tryz.prog 79 #[x0] w R E := by
 refine i8 (args := [x0]) (c := c79) (h := h79) (rs := [.tmp 2]) Tryz.func79 (by kernel_rfl) (by kernel_rfl) (nB (by kernel_rfl)) (by kernel_rfl) (by kernel_rfl) (by kernel_rfl) ?_
 rw [← g9H]
 exact h
def F84 (x0 x1 : Value) (w : World) (R : RT) (E : Pan) : Prop :=
 oP E (xNil x0) w fun b4l w_2 =>
 oP E (fA 108 b4l 2) w_2 fun b3c w_4 =>
 oP E (lA 3 b3c) w_4 fun c2O w_6 =>
 oP E (xBin .neq 3 (.tmp 8) (.const (vI 0)) c2O (vI 0)) w_6 fun c8J w_8 =>
 xcond c8J
 (R (vB false) w_8)
 (oP E (xNil x0) w_8 fun b7x o9 =>
 oP E (fA 108 b7x 0) o9 fun d7g p8 =>
 oP E (lA 3 d7g) p8 fun b8w p6 =>
 oP E (xBin .eql 3 (.tmp 13) (.const (vI 4096)) b8w (vI 4096)) p6 fun d7h q8 =>
 xcond d7h
 (oP E (xNil x0) q8 fun d7i w5 =>
 oP E (fA 108 d7i 2) w5 fun c5h t8 =>
 oP E (sA 3 c5h (vI 33)) t8 fun _z_21 w9 =>
 R (vB false) w9)
 (oP E (xBin .gtr 3 (.tmp 18) (.const (vI 64)) x1 (vI 64)) q8 fun b8x v2 =>
 xcond b8x
 (oP E (xNil x0) v2 fun d7j y8 =>
 oP E (fA 108 d7j 2) y8 fun g9J B0 =>
 oP E (sA 3 g9J (vI 32)) B0 fun _z_29 C0 =>
 R (vB false) C0)
 (oP E (xNil x0) v2 fun g9K C3 =>
 oP E (fA 108 g9K 0) C3 fun g9L A6 =>
 oP E (lA 3 g9L) A6 fun g9M J6 =>
 oP E (xBin .add 3 (.tmp 26) (.const (vI 1)) g9M (vI 1)) J6 fun d7k C2 =>
 oP E (xNil x0) C2 fun b8y J7 =>
 oP E (fA 108 b8y 0) J7 fun g9N C7 =>
 oP E (sA 3 g9N d7k) C7 fun _z_43 D8 =>
 oP E (xNil x0) D8 fun d7l G8 =>
 oP E (fA 108 d7l 1) G8 fun d7m L9 =>
 oP E (lA 3 d7m) L9 fun d7n M6 =>
 oP E (xBuiltin .max #[3, 3] 3 [false, false] [d7n, x1]) M6 fun g9O P3 =>
 oP E (xNil x0) P3 fun g9P N9 =>
 oP E (fA 108 g9P 1) N9 fun g9Q P4 =>
 oP E (sA 3 g9Q g9O) P4 fun _z_57 P0 =>
 R (vB true) P0)))
noncomputable def c84 : Code := Tryz.f84.body.getD .skip
def h84 : Hint := (sQ (.seq (sQ (.cond (sQ .none) .none)) (.seq (sQ (.cond (sQ (sQ .none)) .none)) (.seq (sQ (.cond (sQ (sQ .none)) .none)) (sQ (sQ (sQ .none)))))))
theorem g9R (x0 x1 : Value) (w : World) (R : RT) (E : Pan) : F84 x0 x1 w R E = callX Tryz.prog [.tmp 4] c84 h84 [x0, x1] w R E := by kernel_rfl
theorem g9S {x0 x1 : Value} (h : F84 x0 x1 w R E) : Cv Tryz.prog 84 #[x0, x1] w R E := by
 refine i8 (args := [x0, x1]) (c := c84) (h := h84) (rs := [.tmp 4]) Tryz.func84 (by kernel_rfl) (by kernel_rfl) (nB (by kernel_rfl)) (by kernel_rfl) (by kernel_rfl) (by kernel_rfl) ?_
 rw [← g9R]
 exact h
def f0C (x0 x2 x4 x9 : Value) (w : World) (next4 : NT) (R : RT) (E : Pan) : Prop :=
 oP E (fA 73 x4 5) w fun i5R w_8 =>
 oP E (lA 23 i5R) w_8 fun i5S o9 =>
 oP E (xBuiltin .len #[23] 3 [false] [i5S]) o9 fun g9T p8 =>
 oP E (xBin .lss 3 (.tmp 83) (.tmp 86) x9 g9T) p8 fun c1I p6 =>
 oP E (gsem (asB c1I) true (xNil (gval (asB c1I) true x0))) p6 fun g9U q8 =>
 oP E (gsem (asB c1I) true (fA 108 g9U 2)) q8 fun g9V w5 =>
 oP E (gsem (asB c1I) true (lA 3 g9V)) w5 fun g9W t8 =>
 oP E (gsem (asB c1I) true (xBin .eql 3 (.tmp 92) (.const (vI 0)) g9W (vI 0))) t8 fun g9X w9 =>
 oP E (xPick c1I g9X (vB false)) w9 fun g9Y v2 =>
 xcond g9Y
 (oP E (fA 73 x4 5) v2 fun g9Z y8 =>
 oP E (lA 23 g9Z) y8 fun h0a B0 =>
 oP E (iA 23 h0a x9) B0 fun g0t C0 =>
 oP E (lA 73 g0t) C0 fun g0u C3 =>
 oP E (xBin .add 3 (.tmp 103) (.const (vI 1)) x2 (vI 1)) C3 fun g0v A6 =>
 oP E (xCall (fC 85) [x0, g0u, g0v]) A6 fun _t105_35 J6 =>
 oP E (xBin .add 3 (.tmp 95) (.const (vI 1)) x9 (vI 1)) J6 fun h0b C2 =>
 next4 [h0b] C2)
 (R (Value.tuple #[]) v2)
def d7o (x0 x2 x4 : Value) (w : World) (R : RT) (E : Pan) : Prop :=
 ∀ _τ : Fr, (xloop [9] [(vI 0)] w fun τ_39 J7 next4 =>
 f0C x0 x2 x4 (τ_39 9) J7 next4 R E)
def f0D (x0 x2 x4 x8 : Value) (w : World) (next5 : NT) (j3 : NT) (_R : RT) (E : Pan) : Prop :=
 oP E (fA 73 x4 4) w fun h0c D8 =>
 oP E (lA 23 h0c) D8 fun h0d G8 =>
 oP E (xBuiltin .len #[23] 3 [false] [h0d]) G8 fun h0e L9 =>
 oP E (xBin .lss 3 (.tmp 60) (.tmp 63) x8 h0e) L9 fun c1J M6 =>
 oP E (gsem (asB c1J) true (xNil (gval (asB c1J) true x0))) M6 fun h0f P3 =>
 oP E (gsem (asB c1J) true (fA 108 h0f 2)) P3 fun h0g N9 =>
 oP E (gsem (asB c1J) true (lA 3 h0g)) N9 fun h0h P4 =>
 oP E (gsem (asB c1J) true (xBin .eql 3 (.tmp 69) (.const (vI 0)) h0h (vI 0))) P4 fun h0i P0 =>
 oP E (xPick c1J h0i (vB false)) P0 fun h0j S4 =>
 xcond h0j
 (oP E (fA 73 x4 4) S4 fun h0k T6 =>
 oP E (lA 23 h0k) T6 fun h0l Q3 =>
 oP E (iA 23 h0l x8) Q3 fun h0m Z8 =>
 oP E (lA 73 h0m) Z8 fun h0n Z9 =>
 oP E (xBin .add 3 (.tmp 80) (.const (vI 1)) x2 (vI 1)) Z9 fun h0o W9 =>
 oP E (xCall (fC 85) [x0, h0n, h0o]) W9 fun _t82_71 a0r =>
 oP E (xBin .add 3 (.tmp 72) (.const (vI 1)) x8 (vI 1)) a0r fun h0p a2L =>
 next5 [h0p] a2L)
 (j3 [] S4)
def d7p (x0 x2 x4 : Value) (w : World) (R : RT) (E : Pan) : Prop :=
 ∀ _τ : Fr, (xcut (fun _ C7 => d7o x0 x2 x4 C7 R E) fun j3 =>
 xloop [8] [(vI 0)] w fun τ_75 X6 next5 =>
 f0D x0 x2 x4 (τ_75 8) X6 next5 j3 R E)
def f0E (x0 x2 x4 x7 : Value) (w : World) (next6 : NT) (j2 : NT) (_R : RT) (E : Pan) : Prop :=
 oP E (fA 73 x4 2) w fun h0q a3b =>
 oP E (lA 51 h0q) a3b fun h0r a2o =>
 oP E (xBuiltin .len #[51] 3 [false] [h0r]) a2o fun h0t a0s =>
 oP E (xBin .lss 3 (.tmp 37) (.tmp 40) x7 h0t) a0s fun c1K a2M =>
 oP E (gsem (asB c1K) true (xNil (gval (asB c1K) true x0))) a2M fun h0u a2p =>
 oP E (gsem (asB c1K) true (fA 108 h0u 2)) a2p fun h0v a3d =>
 oP E (gsem (asB c1K) true (lA 3 h0v)) a3d fun h0w a3E =>
 oP E (gsem (asB c1K) true (xBin .eql 3 (.tmp 46) (.const (vI 0)) h0w (vI 0))) a3E fun h0x a1U =>
 oP E (xPick c1K h0x (vB false)) a1U fun h0y a5T =>
 xcond h0y
 (oP E (fA 73 x4 2) a5T fun d7q a6F =>
 oP E (lA 51 d7q) a6F fun h0z a1w =>
 oP E (iA 51 h0z x7) a1w fun g0w a2Y =>
 oP E (lA 53 g0w) a2Y fun g0x a4K =>
 oP E (xBin .add 3 (.tmp 57) (.const (vI 1)) x2 (vI 1)) a4K fun g0y a4L =>
 oP E (xCall (fC 121) [x0, g0x, g0y]) a4L fun _t59_107 a4j =>
 oP E (xBin .add 3 (.tmp 49) (.const (vI 1)) x7 (vI 1)) a4j fun g0z a7m =>
 next6 [g0z] a7m)
 (j2 [] a5T)
def d7r (x0 x2 x4 : Value) (w : World) (R : RT) (E : Pan) : Prop :=
 ∀ _τ : Fr, (xcut (fun _ a2Z => d7p x0 x2 x4 a2Z R E) fun j2 =>
 xloop [7] [(vI 0)] w fun τ_111 a9r next6 =>
 f0E x0 x2 x4 (τ_111 7) a9r next6 j2 R E)
def f0F (x0 x2 x4 x6 : Value) (w : World) (next7 : NT) (j1 : NT) (_R : RT) (E : Pan) : Prop :=
 oP E (fA 73 x4 3) w fun g0A a9s =>
 oP E (lA 57 g0A) a9s fun g0B a8M =>
 oP E (xBuiltin .len #[57] 3 [false] [g0B]) a8M fun d2U a8i =>
 oP E (xBin .lss 3 (.tmp 14) (.tmp 17) x6 d2U) a8i fun b3N a5w =>
 oP E (gsem (asB b3N) true (xNil (gval (asB b3N) true x0))) a5w fun g0C a9p =>
 oP E (gsem (asB b3N) true (fA 108 g0C 2)) a9p fun g0D a8L =>
 oP E (gsem (asB b3N) true (lA 3 g0D)) a8L fun g0E b0a =>
 oP E (gsem (asB b3N) true (xBin .eql 3 (.tmp 23) (.const (vI 0)) g0E (vI 0))) b0a fun g0F a7k =>
 oP E (xPick b3N g0F (vB false)) a7k fun g0G a7l =>
 xcond g0G
 (oP E (fA 73 x4 3) a7l fun g0H a9t =>
 oP E (lA 57 g0H) a9t fun g0I b0b =>
 oP E (iA 57 g0I x6) b0b fun g0J b0c =>
 oP E (lA 59 g0J) b0c fun g0K b1Z =>
 oP E (xBin .add 3 (.tmp 34) (.const (vI 1)) x2 (vI 1)) b1Z fun g0L b2a =>
 oP E (xCall (fC 120) [x0, g0K, g0L]) b2a fun _t36_143 a9u =>
 oP E (xBin .add 3 (.tmp 26) (.const (vI 1)) x6 (vI 1)) a9u fun g0M a6s =>
 next7 [g0M] a6s)
 (j1 [] a7l)
def F85 (x0 x1 x2 : Value) (w : World) (R : RT) (E : Pan) : Prop :=
 oP E (xV (Instr.box 73 x1)) w fun b0W w_2 =>
 oP E (xCall (fC 84) [x0, x2]) w_2 fun e3S w_4 =>
 oP E (xV (Op.unary .not e3S)) w_4 fun c2P w_6 =>
 xcond c2P
 (R (Value.tuple #[]) w_6)
 (xcut (fun _ a7n => d7r x0 x2 b0W a7n R E) fun j1 =>
 xloop [6] [(vI 0)] w_6 fun τ_147 a9q next7 =>
 f0F x0 x2 b0W (τ_147 6) a9q next7 j1 R E)
noncomputable def c85 : Code := Tryz.f85.body.getD .skip
def h85 : Hint := (sQ (.seq (sQ (.cond .none .none)) (.cut [] (sQ (.block (.loop [6] (.seq (sQ (.cond .none .none)) (.seq (.block .none) .none))))) (.cut [] (sQ (.block (.loop [7] (.seq (sQ (.cond .none .none)) (.seq (.block .none) .none))))) (.cut [] (sQ (.block (.loop [8] (.seq (sQ (.cond .none .none)) (.seq (.block .none) .none))))) (sQ (.block (.loop [9] (.seq (sQ (.cond .none .none)) (.seq (.block .none) .none))))))))))
theorem h0A (x0 x1 x2 : Value) (w : World) (R : RT) (E : Pan) : F85 x0 x1 x2 w R E = callX Tryz.prog [] c85 h85 [x0, x1, x2] w R E := by kernel_rfl
theorem h0B {x0 x1 x2 : Value} (h : F85 x0 x1 x2 w R E) : Cv Tryz.prog 85 #[x0, x1, x2] w R E := by
 refine i8 (args := [x0, x1, x2]) (c := c85) (h := h85) (rs := []) Tryz.func85 (by kernel_rfl) (by kernel_rfl) (nB (by kernel_rfl)) (by kernel_rfl) (by kernel_rfl) (by kernel_rfl) ?_
 rw [← h0A]
 exact h
def d2V (w : World) (R : RT) (_E : Pan) : Prop :=
 ∀ _τ : Fr, (R (vB true) w)
def e2u (x1 x2 x3 x9 x10 x11 : Value) (w : World) (next2 : NT) (j1 : NT) (R : RT) (E : Pan) : Prop :=
 oP E (xBin .lss 3 (.tmp 11) (.tmp 10) x11 x10) w fun c2Q w_6 =>
 xcond c2Q
 (oP E (iA 137 x9 x11) w_6 fun b4m w_8 =>
 oP E (lA 150 b4m) w_8 fun a9v o9 =>
 dX o9 fun S5 =>
 qL Tryz.prog S5 (blk x2) (lA 102 x2) fun h0C =>
 oP E (xCall (fC 111) [h0C, a9v, x1]) S5 fun b8z p6 =>
 keepX [] S5 p6 (qP Tryz.prog (xV (Op.unary .not b8z)) fun b2N =>
 qP Tryz.prog (gsem (asB b2N) false (xBin .add 3 (.tmp 24) (.const (vI 1)) (gval (asB b2N) false x1) (vI 1))) fun h0D =>
 qL Tryz.prog p6 (blk x3) (gsem (asB b2N) false (lA 170 x3)) fun h0E =>
 oP E (gsem (asB b2N) false (xInvoke (gval (asB b2N) false a9v) "gnomon/tree.parts" [])) p6 fun h0F X1 =>
 keepX [(blk x3)] p6 X1 (opK Tryz.prog E (gsem (asB b2N) false (xCall h0E [h0F, h0D])) X1 fun h0G a3e =>
 keepX [] X1 a3e (qP Tryz.prog (gsem (asB b2N) false (xV (Op.unary .not h0G))) fun h0H =>
 qP Tryz.prog (xPick b2N (vB true) h0H) fun a7X =>
 xcond a7X
 (R (vB false) a3e)
 (oP E (xBin .add 3 (.tmp 11) (.const (vI 1)) x11 (vI 1)) a3e fun h0I a9K =>
 next2 [h0I] a9K)))))
 (j1 [] w_6)
def e3T (x0 x1 x2 x3 : Value) (w : World) (R : RT) (E : Pan) : Prop :=
 xcut (fun _ w_2 => d2V w_2 R E) fun j1 =>
 oP E (xBuiltin .len #[137] 3 [false] [x0]) w fun b4n w_4 =>
 xloop [11] [(vI 0)] w_4 fun τ_26 a5U next2 =>
 e2u x1 x2 x3 x0 b4n (τ_26 11) a5U next2 j1 R E
noncomputable def h0J : Code := Tryz.f110.body.getD .skip
def h0K : Hint := (sQ (.cut [] (sQ (.block (.loop [11] (sQ (.seq (.cond .none .none) (.seq (.block (sQ (.seq (.reg [(0, 32768, 4), (0, 65536, 256), (0, 131072, 2), (7, 262144, 229376), (8, 524288, 262144), (24, 1048576, 524288), (32, 2097152, 1048584), (32, 4194304, 1048832), (160, 8388608, 5242880), (32, 16777216, 1048578), (544, 33554432, 17825792), (1376, 67108864, 45088768), (2080, 134217728, 68157440), (4128, 268435456, 135266304)] [64, 65, 65, 0, 65, 65, 1, 65, 64, 65, 65, 0, 65, 65] (.early 1 (.early 2 (.load 0 (.step 3 (.early 4 (.early 5 (.early 7 (.early 9 (.early 10 (.load 6 (.step 8 (.step 11 (.early 12 (.early 13 .done))))))))))))))) (.cond (sQ .none) .none)))) .none)))))) (sQ .none)))
theorem g0N (x0 x1 x2 x3 : Value) (w : World) (R : RT) (E : Pan) : e3T x0 x1 x2 x3 w R E = callX Tryz.prog [.tmp 6] h0J h0K [x0, x1, x2, x3] w R E := by kernel_rfl
theorem g0O {x0 x1 x2 x3 : Value} (h : e3T x0 x1 x2 x3 w R E) : Cv Tryz.prog 110 #[x0, x1, x2, x3] w R E := by
 refine i8 (args := [x0, x1, x2, x3]) (c := h0J) (h := h0K) (rs := [.tmp 6]) Tryz.func110 (by kernel_rfl) (by kernel_rfl) (nB (by kernel_rfl)) (by kernel_rfl) (by kernel_rfl) (by kernel_rfl) ?_
 rw [← g0N]
 exact h
def d2W (w : World) (R : RT) (_E : Pan) : Prop :=
 ∀ _τ : Fr, (R (vB true) w)
def e3U (x0 x1 x2 : Value) (w : World) (R : RT) (E : Pan) : Prop :=
 oP E (xNil x0) w fun c6S w_2 =>
 oP E (fA 101 c6S 0) w_2 fun b4o w_4 =>
 oP E (lA 3 b4o) w_4 fun c2Q w_6 =>
 oP E (xBin .add 3 (.tmp 12) (.const (vI 1)) c2Q (vI 1)) w_6 fun b4m w_8 =>
 oP E (xNil x0) w_8 fun a9v o9 =>
 oP E (fA 101 a9v 0) o9 fun b1p p8 =>
 oP E (sA 3 b1p b4m) p8 fun _z_13 p6 =>
 oP E (xNil x0) p6 fun c5i q8 =>
 oP E (fA 101 c5i 0) q8 fun h0L w5 =>
 oP E (lA 3 h0L) w5 fun h0M t8 =>
 oP E (xBin .gtr 3 (.tmp 19) (.const (vI 4096)) h0M (vI 4096)) t8 fun d0F w9 =>
 xcond d0F
 (oP E (xNil x0) w9 fun c5j v2 =>
 oP E (fA 101 c5j 2) v2 fun h0N y8 =>
 oP E (sA 27 h0N (vI 33)) y8 fun _z_27 B0 =>
 R (vB false) B0)
 (oP E (xBin .gtr 3 (.tmp 24) (.const (vI 64)) x2 (vI 64)) w9 fun h0O C0 =>
 xcond h0O
 (oP E (xNil x0) C0 fun h0P C3 =>
 oP E (fA 101 h0P 2) C3 fun h0Q A6 =>
 oP E (sA 27 h0Q (vI 32)) A6 fun _z_35 J6 =>
 R (vB false) J6)
 (oP E (xNil x0) C0 fun h0R C2 =>
 oP E (fA 101 h0R 1) C2 fun h0S J7 =>
 oP E (lA 3 h0S) J7 fun h0T C7 =>
 oP E (xBuiltin .max #[3, 3] 3 [false, false] [h0T, x2]) C7 fun h0U D8 =>
 oP E (xNil x0) D8 fun h0V G8 =>
 oP E (fA 101 h0V 1) G8 fun h0W L9 =>
 oP E (sA 3 h0W h0U) L9 fun _z_49 M6 =>
 oP E (xNil x0) M6 fun h0X P3 =>
 oP E (fA 101 h0X 3) P3 fun h0Y N9 =>
 oP E (lA 4 h0Y) N9 fun d0G P4 =>
 oP E (gsem (asB d0G) false (xInvoke (gval (asB d0G) false x1) "gnomon/tree.form" [])) P4 fun h0Z P0 =>
 oP E (gsem (asB d0G) false (xV (Op.unary .not h0Z))) P0 fun h1a S4 =>
 oP E (xPick d0G (vB true) h1a) S4 fun h1b T6 =>
 oP E (xNil x0) T6 fun h1c Q3 =>
 oP E (fA 101 h1c 3) Q3 fun h1d Z8 =>
 oP E (sA 4 h1d h1b) Z8 fun _z_67 Z9 =>
 xcut (fun _ W9 => d2W W9 R E) fun j1 =>
 oP E (xCall (fC 143) [x1]) Z9 fun f0G a0r =>
 oP E (eX f0G 0) a0r fun c5k a2L =>
 oP E (eX f0G 1) a2L fun h1e X6 =>
 xcond h1e
 (oP E (xNil x0) X6 fun h1f a2Z =>
 oP E (fA 101 h1f 4) a2Z fun h1g a3b =>
 oP E (lA 4 h1g) a3b fun b8A a2o =>
 oP E (gsem (asB b8A) false (xCall (fC 144) [(gval (asB b8A) false c5k)])) a2o fun h1h a0s =>
 oP E (gsem (asB b8A) false (xV (Op.unary .not h1h))) a0s fun h1i a2M =>
 oP E (xPick b8A (vB true) h1i) a2M fun h1j a2p =>
 oP E (xNil x0) a2p fun h1k a3d =>
 oP E (fA 101 h1k 4) a3d fun h1l a3E =>
 oP E (sA 4 h1l h1j) a3E fun _z_93 a1U =>
 oP E (xNil x0) a1U fun h1m a5T =>
 oP E (fA 101 h1m 5) a5T fun h1n a6F =>
 oP E (lA 88 h1n) a6F fun h1o a1w =>
 oP E (xCall (fC 145) [h1o, c5k]) a1w fun g0P a2Y =>
 oP E (xV (Op.unary .not g0P)) a2Y fun g0Q a4K =>
 xcond g0Q
 (oP E (xNil x0) a4K fun g0R a4L =>
 oP E (fA 101 g0R 5) a4L fun g0S a4j =>
 oP E (lA 88 g0S) a4j fun g0T a7m =>
 oP E (xV (Instr.buildSlice 88 1 #[(0, c5k)])) a7m fun g0U a9r =>
 oP E (xBuiltin .append #[88, 88] 88 [false, false] [g0T, g0U]) a9r fun g0V a7n =>
 oP E (xNil x0) a7n fun g0W a9s =>
 oP E (fA 101 g0W 5) a9s fun g0X a8M =>
 oP E (sA 88 g0X g0V) a8M fun _z_119 a8i =>
 j1 [] a8i)
 (j1 [] a4K))
 (j1 [] X6)))
noncomputable def h1p : Code := Tryz.f111.body.getD .skip
def h1q : Hint := (sQ (.seq (sQ (sQ (.cond (sQ (sQ .none)) .none))) (.seq (sQ (.cond (sQ (sQ .none)) .none)) (sQ (sQ (.cut [] (sQ (sQ (.cond (sQ (sQ (.cond .none .none))) .none))) (sQ .none)))))))
theorem g0Y (x0 x1 x2 : Value) (w : World) (R : RT) (E : Pan) : e3U x0 x1 x2 w R E = callX Tryz.prog [.tmp 6] h1p h1q [x0, x1, x2] w R E := by kernel_rfl
theorem g0Z {x0 x1 x2 : Value} (h : e3U x0 x1 x2 w R E) : Cv Tryz.prog 111 #[x0, x1, x2] w R E := by
 refine i8 (args := [x0, x1, x2]) (c := h1p) (h := h1q) (rs := [.tmp 6]) Tryz.func111 (by kernel_rfl) (by kernel_rfl) (nB (by kernel_rfl)) (by kernel_rfl) (by kernel_rfl) (by kernel_rfl) ?_
 rw [← g0Y]
 exact h
def d2X (x0 : Value) (w : World) (R : RT) (_E : Pan) : Prop :=
 ∀ _τ : Fr, (R x0 w)
def e2v (x0 x1 : Value) (w : World) (R : RT) (E : Pan) : Prop :=
 ∀ _τ : Fr, (xcut (fun l_1 w_2 => d2X (nth l_1 0) w_2 R E) fun j2 =>
 oP E (xBuiltin .cap #[137] 3 [false] [x0]) w fun b4n w_4 =>
 oP E (xBuiltin .len #[137] 3 [false] [x0]) w_4 fun c2Q w_6 =>
 oP E (xBin .sub 3 (.tmp 10) (.tmp 12) b4n c2Q) w_6 fun b4m w_8 =>
 oP E (xBin .sub 3 (.tmp 8) (.tmp 13) x1 b4m) w_8 fun a9v o9 =>
 oP E (xBin .gtr 3 (.tmp 15) (.const (vI 0)) a9v (vI 0)) o9 fun a7Y p8 =>
 xcond a7Y
 (oP E (xBuiltin .cap #[137] 3 [false] [x0]) p8 fun h1r p6 =>
 oP E (xV (Instr.sliceAt 137 x0 none (some h1r) none)) p6 fun c5l q8 =>
 oP E (xBuiltin .append #[137, 3] 137 [false, false] [c5l, a9v]) q8 fun d7s w5 =>
 oP E (xBuiltin .len #[137] 3 [false] [x0]) w5 fun c5m t8 =>
 oP E (xV (Instr.sliceAt 137 d7s none (some c5m) none)) t8 fun d7t w9 =>
 j2 [d7t] w9)
 (j2 [x0] p8))
def f3w (x0 x1 : Value) (w : World) (R : RT) (E : Pan) : Prop :=
 xcut (fun _ v2 => e2v x0 x1 v2 R E) fun j1 =>
 oP E (xBin .lss 3 (.tmp 5) (.const (vI 0)) x1 (vI 0)) w fun i5T y8 =>
 xcond i5T
 (oP E (xV (Instr.makeInterface 9 (Value.string ⟨#[99, 97, 110, 110, 111, 116, 32, 98, 101, 32, 110, 101, 103, 97, 116, 105, 118, 101]⟩))) y8 fun d4M B0 =>
 oP E (xV (Instr.panic d4M)) B0 fun _z_29 C0 =>
 j1 [] C0)
 (j1 [] y8)
noncomputable def h1s : Code := Tryz.f119.body.getD .skip
def h1t : Hint := (sQ (.cut [] (sQ (.cond .none .none)) (.cut [0] (sQ (sQ (.cond .none .none))) (sQ .none))))
theorem g1a (x0 x1 : Value) (w : World) (R : RT) (E : Pan) : f3w x0 x1 w R E = callX Tryz.prog [.tmp 4] h1s h1t [x0, x1] w R E := by kernel_rfl
theorem g1b {x0 x1 : Value} (h : f3w x0 x1 w R E) : Cv Tryz.prog 119 #[x0, x1] w R E := by
 refine i8 (args := [x0, x1]) (c := h1s) (h := h1t) (rs := [.tmp 4]) Tryz.func119 (by kernel_rfl) (by kernel_rfl) (nB (by kernel_rfl)) (by kernel_rfl) (by kernel_rfl) (by kernel_rfl) ?_
 rw [← g1a]
 exact h
def e2w (x0 x2 x4 x7 : Value) (w : World) (next2 : NT) (R : RT) (E : Pan) : Prop :=
 oP E (fA 59 x4 3) w fun i5U w_8 =>
 oP E (lA 57 i5U) w_8 fun i5V o9 =>
 oP E (xBuiltin .len #[57] 3 [false] [i5V]) o9 fun d6x p8 =>
 oP E (xBin .lss 3 (.tmp 35) (.tmp 38) x7 d6x) p8 fun c1L p6 =>
 oP E (gsem (asB c1L) true (xNil (gval (asB c1L) true x0))) p6 fun h1u q8 =>
 oP E (gsem (asB c1L) true (fA 108 h1u 2)) q8 fun d0H w5 =>
 oP E (gsem (asB c1L) true (lA 3 d0H)) w5 fun h1v t8 =>
 oP E (gsem (asB c1L) true (xBin .eql 3 (.tmp 44) (.const (vI 0)) h1v (vI 0))) t8 fun h1w w9 =>
 oP E (xPick c1L h1w (vB false)) w9 fun h1x v2 =>
 xcond h1x
 (oP E (fA 59 x4 3) v2 fun h1y y8 =>
 oP E (lA 57 h1y) y8 fun h1z B0 =>
 oP E (iA 57 h1z x7) B0 fun h1A C0 =>
 oP E (lA 59 h1A) C0 fun h1B C3 =>
 oP E (xBin .add 3 (.tmp 55) (.const (vI 1)) x2 (vI 1)) C3 fun h1C A6 =>
 oP E (xCall (fC 120) [x0, h1B, h1C]) A6 fun _t57_35 J6 =>
 oP E (xBin .add 3 (.tmp 47) (.const (vI 1)) x7 (vI 1)) J6 fun h1D C2 =>
 next2 [h1D] C2)
 (R (Value.tuple #[]) v2)
def d2Y (x0 x2 x4 : Value) (w : World) (R : RT) (E : Pan) : Prop :=
 ∀ _τ : Fr, (xloop [7] [(vI 0)] w fun τ_39 J7 next2 =>
 e2w x0 x2 x4 (τ_39 7) J7 next2 R E)
def e2x (x0 x2 x4 x6 : Value) (w : World) (next3 : NT) (j1 : NT) (_R : RT) (E : Pan) : Prop :=
 oP E (fA 59 x4 2) w fun h1E D8 =>
 oP E (lA 51 h1E) D8 fun h1F G8 =>
 oP E (xBuiltin .len #[51] 3 [false] [h1F]) G8 fun h1G L9 =>
 oP E (xBin .lss 3 (.tmp 12) (.tmp 15) x6 h1G) L9 fun c1M M6 =>
 oP E (gsem (asB c1M) true (xNil (gval (asB c1M) true x0))) M6 fun d0I P3 =>
 oP E (gsem (asB c1M) true (fA 108 d0I 2)) P3 fun d0J N9 =>
 oP E (gsem (asB c1M) true (lA 3 d0J)) N9 fun d0K P4 =>
 oP E (gsem (asB c1M) true (xBin .eql 3 (.tmp 21) (.const (vI 0)) d0K (vI 0))) P4 fun d0L P0 =>
 oP E (xPick c1M d0L (vB false)) P0 fun d0M S4 =>
 xcond d0M
 (oP E (fA 59 x4 2) S4 fun h1H T6 =>
 oP E (lA 51 h1H) T6 fun h1I Q3 =>
 oP E (iA 51 h1I x6) Q3 fun h1J Z8 =>
 oP E (lA 53 h1J) Z8 fun h1K Z9 =>
 oP E (xBin .add 3 (.tmp 32) (.const (vI 1)) x2 (vI 1)) Z9 fun h1L W9 =>
 oP E (xCall (fC 121) [x0, h1K, h1L]) W9 fun _t34_71 a0r =>
 oP E (xBin .add 3 (.tmp 24) (.const (vI 1)) x6 (vI 1)) a0r fun h1M a2L =>
 next3 [h1M] a2L)
 (j1 [] S4)
def e3V (x0 x1 x2 : Value) (w : World) (R : RT) (E : Pan) : Prop :=
 oP E (xV (Instr.box 59 x1)) w fun b0W w_2 =>
 oP E (xCall (fC 84) [x0, x2]) w_2 fun b4n w_4 =>
 oP E (xV (Op.unary .not b4n)) w_4 fun a4N w_6 =>
 xcond a4N
 (R (Value.tuple #[]) w_6)
 (xcut (fun _ C7 => d2Y x0 x2 b0W C7 R E) fun j1 =>
 xloop [6] [(vI 0)] w_6 fun τ_75 X6 next3 =>
 e2x x0 x2 b0W (τ_75 6) X6 next3 j1 R E)
noncomputable def h1N : Code := Tryz.f120.body.getD .skip
def h1O : Hint := (sQ (.seq (sQ (.cond .none .none)) (.cut [] (sQ (.block (.loop [6] (.seq (sQ (.cond .none .none)) (.seq (.block .none) .none))))) (sQ (.block (.loop [7] (.seq (sQ (.cond .none .none)) (.seq (.block .none) .none))))))))
theorem g1c (x0 x1 x2 : Value) (w : World) (R : RT) (E : Pan) : e3V x0 x1 x2 w R E = callX Tryz.prog [] h1N h1O [x0, x1, x2] w R E := by kernel_rfl
theorem g1d {x0 x1 x2 : Value} (h : e3V x0 x1 x2 w R E) : Cv Tryz.prog 120 #[x0, x1, x2] w R E := by
 refine i8 (args := [x0, x1, x2]) (c := h1N) (h := h1O) (rs := []) Tryz.func120 (by kernel_rfl) (by kernel_rfl) (nB (by kernel_rfl)) (by kernel_rfl) (by kernel_rfl) (by kernel_rfl) ?_
 rw [← g1c]
 exact h
def e2y (x0 x2 x4 x6 : Value) (w : World) (next1 : NT) (R : RT) (E : Pan) : Prop :=
 oP E (fA 53 x4 3) w fun a2b w_8 =>
 oP E (lA 51 a2b) w_8 fun a4O o9 =>
 oP E (xBuiltin .len #[51] 3 [false] [a4O]) o9 fun d7u p8 =>
 oP E (xBin .lss 3 (.tmp 11) (.tmp 14) x6 d7u) p8 fun b6v p6 =>
 oP E (gsem (asB b6v) true (xNil (gval (asB b6v) true x0))) p6 fun d7v q8 =>
 oP E (gsem (asB b6v) true (fA 108 d7v 2)) q8 fun h1P w5 =>
 oP E (gsem (asB b6v) true (lA 3 h1P)) w5 fun h1Q t8 =>
 oP E (gsem (asB b6v) true (xBin .eql 3 (.tmp 20) (.const (vI 0)) h1Q (vI 0))) t8 fun c5n w9 =>
 oP E (xPick b6v c5n (vB false)) w9 fun c5j v2 =>
 xcond c5j
 (oP E (fA 53 x4 3) v2 fun d7w y8 =>
 oP E (lA 51 d7w) y8 fun d7x B0 =>
 oP E (iA 51 d7x x6) B0 fun h1R C0 =>
 oP E (lA 53 h1R) C0 fun h1S C3 =>
 oP E (xBin .add 3 (.tmp 31) (.const (vI 1)) x2 (vI 1)) C3 fun h1T A6 =>
 oP E (xCall (fC 121) [x0, h1S, h1T]) A6 fun _t33_35 J6 =>
 oP E (xBin .add 3 (.tmp 23) (.const (vI 1)) x6 (vI 1)) J6 fun b0R C2 =>
 next1 [b0R] C2)
 (R (Value.tuple #[]) v2)
def e3W (x0 x1 x2 : Value) (w : World) (R : RT) (E : Pan) : Prop :=
 oP E (xV (Instr.box 53 x1)) w fun b0W w_2 =>
 oP E (xCall (fC 84) [x0, x2]) w_2 fun a4S w_4 =>
 oP E (xV (Op.unary .not a4S)) w_4 fun a4k w_6 =>
 xcond a4k
 (R (Value.tuple #[]) w_6)
 (xloop [6] [(vI 0)] w_6 fun τ_39 J7 next1 =>
 e2y x0 x2 b0W (τ_39 6) J7 next1 R E)
noncomputable def h1U : Code := Tryz.f121.body.getD .skip
def h1V : Hint := (sQ (.seq (sQ (.cond .none .none)) (sQ (.block (.loop [6] (.seq (sQ (.cond .none .none)) (.seq (.block .none) .none)))))))
theorem g1e (x0 x1 x2 : Value) (w : World) (R : RT) (E : Pan) : e3W x0 x1 x2 w R E = callX Tryz.prog [] h1U h1V [x0, x1, x2] w R E := by kernel_rfl
theorem g1f {x0 x1 x2 : Value} (h : e3W x0 x1 x2 w R E) : Cv Tryz.prog 121 #[x0, x1, x2] w R E := by
 refine i8 (args := [x0, x1, x2]) (c := h1U) (h := h1V) (rs := []) Tryz.func121 (by kernel_rfl) (by kernel_rfl) (nB (by kernel_rfl)) (by kernel_rfl) (by kernel_rfl) (by kernel_rfl) ?_
 rw [← g1e]
 exact h
def e3X (x0 : Value) (w : World) (R : RT) (E : Pan) : Prop :=
 oP E (xV (Instr.typeAssert x0 150 182 true)) w fun d2Z w_2 =>
 oP E (eX d2Z 1) w_2 fun a4S w_4 =>
 oP E (eX d2Z 0) w_4 fun a4k w_6 =>
 xcond a4S
 (oP E (xV (Instr.alloc 182 true (.tuple #[]))) w_6 fun e3Y w_8 =>
 oP E (sA 182 e3Y a4k) w_8 fun _z_9 o9 =>
 oP E (fA 182 e3Y 0) o9 fun b4p p8 =>
 oP E (fA 71 b4p 0) p8 fun c5o p6 =>
 oP E (lA 9 c5o) p6 fun b1o q8 =>
 R (Value.tuple #[b1o, (vB true)]) q8)
 (oP E (xV (Instr.typeAssert x0 150 184 true)) w_6 fun b4k w5 =>
 oP E (eX b4k 1) w5 fun a7V t8 =>
 oP E (eX b4k 0) t8 fun a8K w9 =>
 xcond a7V
 (oP E (xV (Instr.alloc 184 true (.tuple #[]))) w9 fun d4N v2 =>
 oP E (sA 184 d4N a8K) v2 fun _z_25 y8 =>
 dX y8 fun a5U =>
 qP Tryz.prog (fA 184 d4N 0) fun h1W =>
 qP Tryz.prog (fA 73 h1W 1) fun d0D =>
 qP Tryz.prog (fA 184 d4N 0) fun h1X =>
 qP Tryz.prog (fA 73 h1X 0) fun b2M =>
 qL Tryz.prog a5U (blk d0D) (lA 9 d0D) fun h1Y =>
 qL Tryz.prog a5U (blk b2M) (lA 3 b2M) fun a9J =>
 qP Tryz.prog (xBin .eql 3 (.tmp 22) (.const (vI 1)) a9J (vI 1)) fun c5p =>
 qP Tryz.prog (gsem (asB c5p) false (fA 184 d4N 0)) fun h1Z =>
 qP Tryz.prog (gsem (asB c5p) false (fA 73 h1Z 0)) fun f0H =>
 qL Tryz.prog a5U (blk f0H) (gsem (asB c5p) false (lA 3 f0H)) fun d7k =>
 qP Tryz.prog (gsem (asB c5p) false (xBin .eql 3 (.tmp 27) (.const (vI 2)) d7k (vI 2))) fun h2a =>
 qP Tryz.prog (xPick c5p (vB true) h2a) fun h2b =>
 R (Value.tuple #[h1Y, h2b]) a5U)
 (oP E (xV (Instr.typeAssert x0 150 136 true)) w9 fun f0I c4X =>
 oP E (eX f0I 1) c4X fun h2c b5x =>
 oP E (eX f0I 0) b5x fun h2d c2K =>
 xcond h2c
 (oP E (xV (Instr.alloc 136 true (.tuple #[]))) c2K fun d4O b8v =>
 oP E (sA 136 d4O h2d) b8v fun _z_48 c0T =>
 dX c0T fun M6 =>
 qP Tryz.prog (fA 136 d4O 0) fun c5a =>
 qP Tryz.prog (fA 53 c5a 2) fun f0J =>
 qP Tryz.prog (fA 136 d4O 0) fun d7y =>
 qP Tryz.prog (fA 53 d7y 0) fun f0K =>
 qL Tryz.prog M6 (blk f0J) (lA 9 f0J) fun c5b =>
 qL Tryz.prog M6 (blk f0K) (lA 3 f0K) fun h2e =>
 qP Tryz.prog (xBin .eql 3 (.tmp 38) (.const (vI 2)) h2e (vI 2)) fun c5q =>
 qP Tryz.prog (gsem (asB c5q) false (fA 136 d4O 0)) fun h2f =>
 qP Tryz.prog (gsem (asB c5q) false (fA 53 h2f 0)) fun f0L =>
 qL Tryz.prog M6 (blk f0L) (gsem (asB c5q) false (lA 3 f0L)) fun h2g =>
 qP Tryz.prog (gsem (asB c5q) false (xBin .eql 3 (.tmp 43) (.const (vI 4)) h2g (vI 4))) fun h2h =>
 qP Tryz.prog (xPick c5q (vB true) h2h) fun h2i =>
 R (Value.tuple #[c5b, h2i]) M6)
 (R (Value.tuple #[(eS), (vB false)]) c2K)))
noncomputable def h2j : Code := Tryz.f143.body.getD .skip
def h2k : Hint := (sQ (.seq (sQ (.block (sQ (.cond (sQ (sQ .none)) (sQ (.cond (sQ (.seq (.reg [(0, 131072, 32), (1, 262144, 131072), (2, 524288, 262144), (0, 1048576, 32), (8, 2097152, 1048576), (16, 4194304, 2097152), (32, 8388608, 4194304), (64, 16777216, 8388608), (128, 33554432, 16777248), (384, 67108864, 50331648), (640, 134217728, 83886080), (1152, 268435456, 150994944), (2176, 536870912, 285212672), (135, 4, 524288), (16383, 8, 536870912)] [1060, 1060, 1056, 1060, 1060, 1028, 1060, 1060, 1060, 1060, 36, 1060, 1060, 1060, 1060] (.early 0 (.early 1 (.early 3 (.early 4 (.load 2 (.load 5 (.early 6 (.early 7 (.early 8 (.early 9 (.early 13 (.load 10 (.early 11 (.early 12 (.early 14 .done)))))))))))))))) .none)) (sQ (.cond (sQ (.seq (.reg [(0, 8589934592, 64), (1, 17179869184, 8589934592), (2, 34359738368, 17179869184), (0, 68719476736, 64), (8, 137438953472, 68719476736), (16, 274877906944, 137438953472), (32, 549755813888, 274877906944), (64, 1099511627776, 549755813888), (128, 2199023255552, 1099511627840), (384, 4398046511104, 3298534883328), (640, 8796093022208, 5497558138880), (1152, 17592186044416, 9895604649984), (2176, 35184372088832, 18691697672192), (135, 4, 34359738368), (16383, 8, 35184372088832)] [1060, 1060, 1056, 1060, 1060, 1028, 1060, 1060, 1060, 1060, 36, 1060, 1060, 1060, 1060] (.early 0 (.early 1 (.early 3 (.early 4 (.load 2 (.load 5 (.early 6 (.early 7 (.early 8 (.early 9 (.early 13 (.load 10 (.early 11 (.early 12 (.early 14 .done)))))))))))))))) .none)) .none)))))))) (sQ .none)))
theorem g1g (x0 : Value) (w : World) (R : RT) (E : Pan) : e3X x0 w R E = callX Tryz.prog [.tmp 2, .tmp 3] h2j h2k [x0] w R E := by kernel_rfl
theorem g1h {x0 : Value} (h : e3X x0 w R E) : Cv Tryz.prog 143 #[x0] w R E := by
 refine i8 (args := [x0]) (c := h2j) (h := h2k) (rs := [.tmp 2, .tmp 3]) Tryz.func143 (by kernel_rfl) (by kernel_rfl) (nB (by kernel_rfl)) (by kernel_rfl) (by kernel_rfl) (by kernel_rfl) ?_
 rw [← g1g]
 exact h
def d3a (w : World) (R : RT) (_E : Pan) : Prop :=
 ∀ _τ : Fr, (R (vB true) w)
def e2z (x21 : Value) (w : World) (next2 : NT) (j1 : NT) (R : RT) (E : Pan) : Prop :=
 oP E (xV (Instr.next x21 true 0)) w fun c5r w9 =>
 oP E (eX c5r 0) w9 fun c5s v2 =>
 xcond c5s
 (oP E (eX c5r 1) v2 fun h2l y8 =>
 oP E (eX c5r 2) y8 fun f0M B0 =>
 oP E (xCall (fC 165) [f0M]) B0 fun h2m C0 =>
 oP E (xV (Op.unary .not h2m)) C0 fun b6w C3 =>
 oP E (gsem (asB b6w) false (xBin .eql 3 (.tmp 30) (.const (vI 0)) (gval (asB b6w) false h2l) (vI 0))) C3 fun d0N A6 =>
 oP E (gsem (asB (gval (asB b6w) false d0N)) true (xCall (fC 166) [(gval (asB (gval (asB b6w) false d0N)) true f0M)])) A6 fun h2n J6 =>
 oP E (gsem (asB (gval (asB b6w) false d0N)) true (xBin .neq 3 (.tmp 34) (.const (vI 3)) h2n (vI 3))) J6 fun h2o C2 =>
 oP E (gsem (asB b6w) false (xPick (gval (asB b6w) false d0N) h2o (vB false))) C2 fun h2p J7 =>
 oP E (xPick b6w (vB true) h2p) J7 fun h2q C7 =>
 xcond h2q
 (R (vB false) C7)
 (next2 [] C7))
 (j1 [] v2)
def e3Z (x0 : Value) (w : World) (R : RT) (E : Pan) : Prop :=
 oP E (xBin .eql 9 (.tmp 5) (.const (eS)) x0 (eS)) w fun b4l w_2 =>
 oP E (gsem (asB b4l) false (xCall (fC 162) [(gval (asB b4l) false x0)])) w_2 fun a4S w_4 =>
 oP E (gsem (asB b4l) false (xV (Op.unary .not a4S))) w_4 fun a4k w_6 =>
 oP E (xPick b4l (vB true) a4k) w_6 fun b7y w_8 =>
 oP E (gsem (asB b7y) false (xCall (fC 163) [(gval (asB b7y) false x0)])) w_8 fun a9v o9 =>
 oP E (xPick b7y (vB true) a9v) o9 fun b1p p8 =>
 oP E (gsem (asB b1p) false (xCall (fC 164) [(gval (asB b1p) false x0)])) p8 fun b8z p6 =>
 oP E (xPick b1p (vB true) b8z) p6 fun b2N q8 =>
 xcond b2N
 (R (vB false) q8)
 (xcut (fun _ w5 => d3a w5 R E) fun j1 =>
 oP E (xV (Instr.range 9 x0)) q8 fun d7z t8 =>
 xloop [] [] t8 fun _ D8 next2 =>
 e2z d7z D8 next2 j1 R E)
noncomputable def h2r : Code := Tryz.f144.body.getD .skip
def h2s : Hint := (sQ (.seq (sQ (.cond (sQ .none) .none)) (.cut [] (sQ (.block (.loop [] (sQ (.seq (.cond .none .none) (.block (sQ (sQ (.cond (sQ .none) .none))))))))) (sQ .none))))
theorem g1i (x0 : Value) (w : World) (R : RT) (E : Pan) : e3Z x0 w R E = callX Tryz.prog [.tmp 2] h2r h2s [x0] w R E := by kernel_rfl
theorem g1j {x0 : Value} (h : e3Z x0 w R E) : Cv Tryz.prog 144 #[x0] w R E := by
 refine i8 (args := [x0]) (c := h2r) (h := h2s) (rs := [.tmp 2]) Tryz.func144 (by kernel_rfl) (by kernel_rfl) (nB (by kernel_rfl)) (by kernel_rfl) (by kernel_rfl) (by kernel_rfl) ?_
 rw [← g1i]
 exact h
def e4a (x0 x1 : Value) (w : World) (R : RT) (E : Pan) : Prop :=
 oP E (xCall (fC 167) [x0, x1]) w fun b0d w_2 =>
 oP E (xBin .geq 3 (.tmp 7) (.const (vI 0)) b0d (vI 0)) w_2 fun c5t w_4 =>
 R c5t w_4
noncomputable def h2t : Code := Tryz.f145.body.getD .skip
def h2u : Hint := (sQ (sQ .none))
theorem g1k (x0 x1 : Value) (w : World) (R : RT) (E : Pan) : e4a x0 x1 w R E = callX Tryz.prog [.tmp 4] h2t h2u [x0, x1] w R E := by kernel_rfl
theorem g1l {x0 x1 : Value} (h : e4a x0 x1 w R E) : Cv Tryz.prog 145 #[x0, x1] w R E := by
 refine i8 (args := [x0, x1]) (c := h2t) (h := h2u) (rs := [.tmp 4]) Tryz.func145 (by kernel_rfl) (by kernel_rfl) (nB (by kernel_rfl)) (by kernel_rfl) (by kernel_rfl) (by kernel_rfl) ?_
 rw [← g1k]
 exact h
def e4b (x0 : Value) (w : World) (R : RT) (E : Pan) : Prop :=
 oP E (xCall (fC 169) [x0]) w fun b0W w_2 =>
 oP E (xBin .gtr 3 (.tmp 4) (.const (vI 32)) b0W (vI 32)) w_2 fun b8B w_4 =>
 R b8B w_4
noncomputable def h2v : Code := Tryz.f163.body.getD .skip
def h2w : Hint := (sQ (sQ .none))
theorem g1m (x0 : Value) (w : World) (R : RT) (E : Pan) : e4b x0 w R E = callX Tryz.prog [.tmp 2] h2v h2w [x0] w R E := by kernel_rfl
theorem g1n {x0 : Value} (h : e4b x0 w R E) : Cv Tryz.prog 163 #[x0] w R E := by
 refine i8 (args := [x0]) (c := h2v) (h := h2w) (rs := [.tmp 2]) Tryz.func163 (by kernel_rfl) (by kernel_rfl) (nB (by kernel_rfl)) (by kernel_rfl) (by kernel_rfl) (by kernel_rfl) ?_
 rw [← g1m]
 exact h
def d3b (x4 : Value) (w : World) (R : RT) (_E : Pan) : Prop :=
 ∀ _τ : Fr, (xcond x4
 (R (vB true) w)
 (R (vB false) w))
def e4c (x0 : Value) (w : World) (R : RT) (E : Pan) : Prop :=
 xcut (fun l_1 w_2 => d3b (nth l_1 0) w_2 R E) fun j1 =>
 oP E (xBin .eql 9 (.tmp 3) (.const (Value.string ⟨#[118, 97, 114]⟩)) x0 (Value.string ⟨#[118, 97, 114]⟩)) w fun b8B w_4 =>
 xcond b8B
 (j1 [b8B] w_4)
 (oP E (xBin .eql 9 (.tmp 3) (.const (Value.string ⟨#[97, 114, 114, 97, 121]⟩)) x0 (Value.string ⟨#[97, 114, 114, 97, 121]⟩)) w_4 fun a7U w_6 =>
 xcond a7U
 (j1 [a7U] w_6)
 (oP E (xBin .eql 9 (.tmp 3) (.const (Value.string ⟨#[105, 102]⟩)) x0 (Value.string ⟨#[105, 102]⟩)) w_6 fun a9Z w_8 =>
 xcond a9Z
 (j1 [a9Z] w_8)
 (oP E (xBin .eql 9 (.tmp 3) (.const (Value.string ⟨#[101, 108, 115, 101]⟩)) x0 (Value.string ⟨#[101, 108, 115, 101]⟩)) w_8 fun a5s o9 =>
 xcond a5s
 (j1 [a5s] o9)
 (oP E (xBin .eql 9 (.tmp 3) (.const (Value.string ⟨#[119, 104, 105, 108, 101]⟩)) x0 (Value.string ⟨#[119, 104, 105, 108, 101]⟩)) o9 fun a4M p8 =>
 xcond a4M
 (j1 [a4M] p8)
 (oP E (xBin .eql 9 (.tmp 3) (.const (Value.string ⟨#[97, 115, 115, 101, 114, 116]⟩)) x0 (Value.string ⟨#[97, 115, 115, 101, 114, 116]⟩)) p8 fun a7g p6 =>
 xcond a7g
 (j1 [a7g] p6)
 (oP E (xBin .eql 9 (.tmp 3) (.const (Value.string ⟨#[97, 115, 115, 117, 109, 101]⟩)) x0 (Value.string ⟨#[97, 115, 115, 117, 109, 101]⟩)) p6 fun b8C q8 =>
 xcond b8C
 (j1 [b8C] q8)
 (oP E (xBin .eql 9 (.tmp 3) (.const (Value.string ⟨#[115, 107, 105, 112]⟩)) x0 (Value.string ⟨#[115, 107, 105, 112]⟩)) q8 fun b8D w5 =>
 xcond b8D
 (j1 [b8D] w5)
 (oP E (xBin .eql 9 (.tmp 3) (.const (Value.string ⟨#[105, 110, 112, 117, 116]⟩)) x0 (Value.string ⟨#[105, 110, 112, 117, 116]⟩)) w5 fun b8E t8 =>
 xcond b8E
 (j1 [b8E] t8)
 (oP E (xBin .eql 9 (.tmp 3) (.const (Value.string ⟨#[116, 114, 117, 101]⟩)) x0 (Value.string ⟨#[116, 114, 117, 101]⟩)) t8 fun b8F w9 =>
 xcond b8F
 (j1 [b8F] w9)
 (oP E (xBin .eql 9 (.tmp 3) (.const (Value.string ⟨#[102, 97, 108, 115, 101]⟩)) x0 (Value.string ⟨#[102, 97, 108, 115, 101]⟩)) w9 fun d7A v2 =>
 j1 [d7A] v2))))))))))
noncomputable def h2x : Code := Tryz.f164.body.getD .skip
def h2y : Hint := (sQ (.seq (sQ (.block (.cut [4] (sQ (.cond .none (sQ (.cond .none (sQ (.cond .none (sQ (.cond .none (sQ (.cond .none (sQ (.cond .none (sQ (.cond .none (sQ (.cond .none (sQ (.cond .none (sQ (.cond .none .none)))))))))))))))))))) (.cond (sQ .none) .none)))) (sQ .none)))
theorem g1o (x0 : Value) (w : World) (R : RT) (E : Pan) : e4c x0 w R E = callX Tryz.prog [.tmp 2] h2x h2y [x0] w R E := by kernel_rfl
theorem g1p {x0 : Value} (h : e4c x0 w R E) : Cv Tryz.prog 164 #[x0] w R E := by
 refine i8 (args := [x0]) (c := h2x) (h := h2y) (rs := [.tmp 2]) Tryz.func164 (by kernel_rfl) (by kernel_rfl) (nB (by kernel_rfl)) (by kernel_rfl) (by kernel_rfl) (by kernel_rfl) ?_
 rw [← g1o]
 exact h
def e4d (x0 : Value) (w : World) (R : RT) (E : Pan) : Prop :=
 oP E (xCall (fC 166) [x0]) w fun d7B w_2 =>
 oP E (xBin .eql 3 (.tmp 6) (.const (vI 3)) d7B (vI 3)) w_2 fun b3c w_4 =>
 oP E (gsem (asB b3c) false (xBin .eql 3 (.tmp 9) (.const (vI 4)) (gval (asB b3c) false d7B) (vI 4))) w_4 fun a4k w_6 =>
 oP E (xPick b3c (vB true) a4k) w_6 fun b7y w_8 =>
 R b7y w_8
noncomputable def h2z : Code := Tryz.f165.body.getD .skip
def h2A : Hint := (sQ (sQ (sQ .none)))
theorem g1q (x0 : Value) (w : World) (R : RT) (E : Pan) : e4d x0 w R E = callX Tryz.prog [.tmp 2] h2z h2A [x0] w R E := by kernel_rfl
theorem g1r {x0 : Value} (h : e4d x0 w R E) : Cv Tryz.prog 165 #[x0] w R E := by
 refine i8 (args := [x0]) (c := h2z) (h := h2A) (rs := [.tmp 2]) Tryz.func165 (by kernel_rfl) (by kernel_rfl) (nB (by kernel_rfl)) (by kernel_rfl) (by kernel_rfl) (by kernel_rfl) ?_
 rw [← g1q]
 exact h
def d3c (x39 : Value) (w : World) (R : RT) (_E : Pan) : Prop :=
 ∀ _τ : Fr, (xcond x39
 (R (vI 3) w)
 (R (vI 6) w))
def d3d (x1 x31 : Value) (w : World) (R : RT) (E : Pan) : Prop :=
 ∀ _τ : Fr, (xcond x31
 (R (vI 6) w)
 (oP E (xV (Instr.makeFunc (.func 170) #[] #[x1])) w fun c6T w_8 =>
 oP E (xCall c6T [(Value.int .i32 48), (Value.int .i32 57)]) w_8 fun i5W o9 =>
 xcond i5W
 (R (vI 4) o9)
 (xcut (fun c8K p8 => d3c (nth c8K 0) p8 R E) fun j4 =>
 oP E (lA 21 x1) o9 fun h2B p6 =>
 oP E (xBin .eql 21 (.tmp 40) (.const (Value.int .i32 95)) h2B (Value.int .i32 95)) p6 fun f0N q8 =>
 xcond f0N
 (j4 [f0N] q8)
 (oP E (xCall c6T [(Value.int .i32 97), (Value.int .i32 122)]) q8 fun d0H w5 =>
 xcond d0H
 (j4 [d0H] w5)
 (oP E (xCall c6T [(Value.int .i32 65), (Value.int .i32 90)]) w5 fun f0O t8 =>
 xcond f0O
 (j4 [f0O] t8)
 (oP E (xCall c6T [(Value.int .i32 192), (Value.int .i32 591)]) t8 fun f0P w9 =>
 xcond f0P
 (j4 [f0P] w9)
 (oP E (xCall c6T [(Value.int .i32 913), (Value.int .i32 969)]) w9 fun f0Q v2 =>
 xcond f0Q
 (j4 [f0Q] v2)
 (oP E (xCall c6T [(Value.int .i32 1040), (Value.int .i32 1103)]) v2 fun h2C y8 =>
 j4 [h2C] y8))))))))
def d3e (x1 x4 x11 : Value) (w : World) (R : RT) (E : Pan) : Prop :=
 ∀ _τ : Fr, (xcond x11
 (R (vI 5) w)
 (xcut (fun d2T B0 => d3d x1 (nth d2T 0) B0 R E) fun j3 =>
 oP E (xBin .eql 21 (.tmp 4) (.const (Value.int .i32 215)) x4 (Value.int .i32 215)) w fun c5u C0 =>
 xcond c5u
 (j3 [c5u] C0)
 (oP E (xBin .eql 21 (.tmp 4) (.const (Value.int .i32 247)) x4 (Value.int .i32 247)) C0 fun f0R C3 =>
 xcond f0R
 (j3 [f0R] C3)
 (oP E (xBin .eql 21 (.tmp 4) (.const (Value.int .i32 930)) x4 (Value.int .i32 930)) C3 fun h2D A6 =>
 j3 [h2D] A6))))
def d3f (x1 x4 x5 : Value) (w : World) (R : RT) (E : Pan) : Prop :=
 ∀ _τ : Fr, (xcond x5
 (R (vI 1) w)
 (oP E (xBin .eql 21 (.tmp 4) (.const (Value.int .i32 10)) x4 (Value.int .i32 10)) w fun a4k w_6 =>
 xcond a4k
 (R (vI 2) w_6)
 (xcut (fun c2R J6 => d3e x1 x4 (nth c2R 0) J6 R E) fun j2 =>
 oP E (xBin .eql 21 (.tmp 4) (.const (Value.int .i32 59)) x4 (Value.int .i32 59)) w_6 fun f0S C2 =>
 xcond f0S
 (j2 [f0S] C2)
 (oP E (xBin .eql 21 (.tmp 4) (.const (Value.int .i32 44)) x4 (Value.int .i32 44)) C2 fun f0T J7 =>
 xcond f0T
 (j2 [f0T] J7)
 (oP E (xBin .eql 21 (.tmp 4) (.const (Value.int .i32 123)) x4 (Value.int .i32 123)) J7 fun f0U C7 =>
 xcond f0U
 (j2 [f0U] C7)
 (oP E (xBin .eql 21 (.tmp 4) (.const (Value.int .i32 125)) x4 (Value.int .i32 125)) C7 fun f0V D8 =>
 xcond f0V
 (j2 [f0V] D8)
 (oP E (xBin .eql 21 (.tmp 4) (.const (Value.int .i32 40)) x4 (Value.int .i32 40)) D8 fun f0W G8 =>
 xcond f0W
 (j2 [f0W] G8)
 (oP E (xBin .eql 21 (.tmp 4) (.const (Value.int .i32 41)) x4 (Value.int .i32 41)) G8 fun f0X L9 =>
 xcond f0X
 (j2 [f0X] L9)
 (oP E (xBin .eql 21 (.tmp 4) (.const (Value.int .i32 91)) x4 (Value.int .i32 91)) L9 fun f0Y M6 =>
 xcond f0Y
 (j2 [f0Y] M6)
 (oP E (xBin .eql 21 (.tmp 4) (.const (Value.int .i32 93)) x4 (Value.int .i32 93)) M6 fun d0I P3 =>
 xcond d0I
 (j2 [d0I] P3)
 (oP E (xBin .eql 21 (.tmp 4) (.const (Value.int .i32 61)) x4 (Value.int .i32 61)) P3 fun d0J N9 =>
 xcond d0J
 (j2 [d0J] N9)
 (oP E (xBin .eql 21 (.tmp 4) (.const (Value.int .i32 33)) x4 (Value.int .i32 33)) N9 fun d0K P4 =>
 xcond d0K
 (j2 [d0K] P4)
 (oP E (xBin .eql 21 (.tmp 4) (.const (Value.int .i32 60)) x4 (Value.int .i32 60)) P4 fun d0L P0 =>
 xcond d0L
 (j2 [d0L] P0)
 (oP E (xBin .eql 21 (.tmp 4) (.const (Value.int .i32 62)) x4 (Value.int .i32 62)) P0 fun d0M S4 =>
 xcond d0M
 (j2 [d0M] S4)
 (oP E (xBin .eql 21 (.tmp 4) (.const (Value.int .i32 43)) x4 (Value.int .i32 43)) S4 fun f0Z T6 =>
 xcond f0Z
 (j2 [f0Z] T6)
 (oP E (xBin .eql 21 (.tmp 4) (.const (Value.int .i32 45)) x4 (Value.int .i32 45)) T6 fun f1a Q3 =>
 xcond f1a
 (j2 [f1a] Q3)
 (oP E (xBin .eql 21 (.tmp 4) (.const (Value.int .i32 42)) x4 (Value.int .i32 42)) Q3 fun f1b Z8 =>
 xcond f1b
 (j2 [f1b] Z8)
 (oP E (xBin .eql 21 (.tmp 4) (.const (Value.int .i32 47)) x4 (Value.int .i32 47)) Z8 fun f1c Z9 =>
 xcond f1c
 (j2 [f1c] Z9)
 (oP E (xBin .eql 21 (.tmp 4) (.const (Value.int .i32 37)) x4 (Value.int .i32 37)) Z9 fun f1d W9 =>
 xcond f1d
 (j2 [f1d] W9)
 (oP E (xBin .eql 21 (.tmp 4) (.const (Value.int .i32 38)) x4 (Value.int .i32 38)) W9 fun f1e a0r =>
 xcond f1e
 (j2 [f1e] a0r)
 (oP E (xBin .eql 21 (.tmp 4) (.const (Value.int .i32 124)) x4 (Value.int .i32 124)) a0r fun h2E a2L =>
 j2 [h2E] a2L)))))))))))))))))))))
def e4e (x0 : Value) (w : World) (R : RT) (E : Pan) : Prop :=
 oP E (xV (Instr.box 21 x0)) w fun q7 w_2 =>
 oP E (lA 21 q7) w_2 fun a4v w_4 =>
 xcut (fun j1X X6 => d3f q7 a4v (nth j1X 0) X6 R E) fun j1 =>
 oP E (xBin .eql 21 (.tmp 4) (.const (Value.int .i32 32)) a4v (Value.int .i32 32)) w_4 fun f7R a2Z =>
 xcond f7R
 (j1 [f7R] a2Z)
 (oP E (xBin .eql 21 (.tmp 4) (.const (Value.int .i32 9)) a4v (Value.int .i32 9)) a2Z fun f7S a3b =>
 xcond f7S
 (j1 [f7S] a3b)
 (oP E (xBin .eql 21 (.tmp 4) (.const (Value.int .i32 13)) a4v (Value.int .i32 13)) a3b fun d4P a2o =>
 j1 [d4P] a2o))
noncomputable def h2F : Code := Tryz.f166.body.getD .skip
def h2G : Hint := (sQ (.seq (sQ (.block (.cut [5] (sQ (.cond .none (sQ (.cond .none .none)))) (.cond (sQ .none) (sQ (.cond (sQ .none) (.cut [11] (sQ (.cond .none (sQ (.cond .none (sQ (.cond .none (sQ (.cond .none (sQ (.cond .none (sQ (.cond .none (sQ (.cond .none (sQ (.cond .none (sQ (.cond .none (sQ (.cond .none (sQ (.cond .none (sQ (.cond .none (sQ (.cond .none (sQ (.cond .none (sQ (.cond .none (sQ (.cond .none (sQ (.cond .none (sQ (.cond .none .none)))))))))))))))))))))))))))))))))))) (.cond (sQ .none) (.cut [31] (sQ (.cond .none (sQ (.cond .none .none)))) (.cond (sQ .none) .none)))))))))) (sQ (.seq (.block (sQ (.cond (sQ .none) (.cut [39] (sQ (.cond .none (sQ (.cond .none (sQ (.cond .none (sQ (.cond .none (sQ (.cond .none .none)))))))))) (.cond (sQ .none) .none))))) (sQ .none)))))
theorem g1s (x0 : Value) (w : World) (R : RT) (E : Pan) : e4e x0 w R E = callX Tryz.prog [.tmp 2] h2F h2G [x0] w R E := by kernel_rfl
theorem g1t {x0 : Value} (h : e4e x0 w R E) : Cv Tryz.prog 166 #[x0] w R E := by
 refine i8 (args := [x0]) (c := h2F) (h := h2G) (rs := [.tmp 2]) Tryz.func166 (by kernel_rfl) (by kernel_rfl) (nB (by kernel_rfl)) (by kernel_rfl) (by kernel_rfl) (by kernel_rfl) ?_
 rw [← g1s]
 exact h
def d3g (w : World) (R : RT) (_E : Pan) : Prop :=
 ∀ _τ : Fr, (R (vI (-1)) w)
def e2A (x0 x1 x7 x8 : Value) (w : World) (next2 : NT) (j1 : NT) (R : RT) (E : Pan) : Prop :=
 oP E (xBin .lss 3 (.tmp 8) (.tmp 7) x8 x7) w fun d3h w_6 =>
 xcond d3h
 (oP E (iA 88 x0 x8) w_6 fun a8N w_8 =>
 oP E (lA 9 a8N) w_8 fun d0O o9 =>
 oP E (xBin .eql 9 (.tmp 11) (.tmp 15) x1 d0O) o9 fun a7Y p8 =>
 xcond a7Y
 (R x8 p8)
 (oP E (xBin .add 3 (.tmp 8) (.const (vI 1)) x8 (vI 1)) p8 fun b8z p6 =>
 next2 [b8z] p6))
 (j1 [] w_6)
def e4f (x0 x1 : Value) (w : World) (R : RT) (E : Pan) : Prop :=
 xcut (fun _ w_2 => d3g w_2 R E) fun j1 =>
 oP E (xBuiltin .len #[88] 3 [false] [x0]) w fun b3c w_4 =>
 xloop [8] [(vI 0)] w_4 fun τ_15 q8 next2 =>
 e2A x0 x1 b3c (τ_15 8) q8 next2 j1 R E
noncomputable def h2H : Code := Tryz.f167.body.getD .skip
def h2I : Hint := (sQ (.cut [] (sQ (.block (.loop [8] (sQ (.seq (.cond .none .none) (.seq (.block (sQ (sQ (.cond (sQ .none) .none)))) .none)))))) (sQ .none)))
theorem g1u (x0 x1 : Value) (w : World) (R : RT) (E : Pan) : e4f x0 x1 w R E = callX Tryz.prog [.tmp 4] h2H h2I [x0, x1] w R E := by kernel_rfl
theorem g1v {x0 x1 : Value} (h : e4f x0 x1 w R E) : Cv Tryz.prog 167 #[x0, x1] w R E := by
 refine i8 (args := [x0, x1]) (c := h2H) (h := h2I) (rs := [.tmp 4]) Tryz.func167 (by kernel_rfl) (by kernel_rfl) (nB (by kernel_rfl)) (by kernel_rfl) (by kernel_rfl) (by kernel_rfl) ?_
 rw [← g1u]
 exact h
def d3i (x2 : Value) (w : World) (R : RT) (_E : Pan) : Prop :=
 ∀ _τ : Fr, (R x2 w)
def e2B (x2 x4 : Value) (w : World) (next2 : NT) (j1 : NT) (_R : RT) (E : Pan) : Prop :=
 oP E (xV (Instr.next x4 true 0)) w fun b8G w_6 =>
 oP E (eX b8G 0) w_6 fun a8t w_8 =>
 xcond a8t
 (oP E (xBin .add 3 (.tmp 7) (.const (vI 1)) x2 (vI 1)) w_8 fun a5s o9 =>
 next2 [a5s] o9)
 (j1 [x2] w_8)
def e4g (x0 : Value) (w : World) (R : RT) (E : Pan) : Prop :=
 xcut (fun l_1 w_2 => d3i (nth l_1 0) w_2 R E) fun j1 =>
 oP E (xV (Instr.range 9 x0)) w fun a4v w_4 =>
 xloop [2] [(vI 0)] w_4 fun τ_11 p8 next2 =>
 e2B (τ_11 2) a4v p8 next2 j1 R E
noncomputable def h2J : Code := Tryz.f169.body.getD .skip
def h2K : Hint := (sQ (.cut [2] (sQ (.block (.loop [2] (sQ (.seq (.cond .none .none) (.block .none)))))) (sQ .none)))
theorem g1w (x0 : Value) (w : World) (R : RT) (E : Pan) : e4g x0 w R E = callX Tryz.prog [.tmp 2] h2J h2K [x0] w R E := by kernel_rfl
theorem g1x {x0 : Value} (h : e4g x0 w R E) : Cv Tryz.prog 169 #[x0] w R E := by
 refine i8 (args := [x0]) (c := h2J) (h := h2K) (rs := [.tmp 2]) Tryz.func169 (by kernel_rfl) (by kernel_rfl) (nB (by kernel_rfl)) (by kernel_rfl) (by kernel_rfl) (by kernel_rfl) ?_
 rw [← g1w]
 exact h
def e4h (x0 x1 x2 : Value) (w : World) (R : RT) (E : Pan) : Prop :=
 oP E (lA 21 x2) w fun b0d w_2 =>
 oP E (xBin .leq 21 (.tmp 6) (.tmp 7) x0 b0d) w_2 fun c5t w_4 =>
 oP E (gsem (asB c5t) true (lA 21 x2)) w_4 fun a4k w_6 =>
 oP E (gsem (asB c5t) true (xBin .leq 21 (.tmp 10) (.tmp 11) a4k (gval (asB c5t) true x1))) w_6 fun a2b w_8 =>
 oP E (xPick c5t a2b (vB false)) w_8 fun a4O o9 =>
 R a4O o9
noncomputable def h2L : Code := Tryz.f170.body.getD .skip
def h2M : Hint := (sQ (sQ .none))
theorem g1y (x0 x1 x2 : Value) (w : World) (R : RT) (E : Pan) : e4h x0 x1 x2 w R E = callX Tryz.prog [.tmp 5] h2L h2M [x0, x1, x2] w R E := by kernel_rfl
theorem g1z {x0 x1 x2 : Value} (h : e4h x0 x1 x2 w R E) : Cv Tryz.prog 170 #[x0, x1, x2] w R E := by
 refine i8 (args := [x0, x1, x2]) (c := h2L) (h := h2M) (rs := [.tmp 5]) Tryz.func170 (by kernel_rfl) (by kernel_rfl) (nB (by kernel_rfl)) (by kernel_rfl) (by kernel_rfl) (by kernel_rfl) ?_
 rw [← g1y]
 exact h
def d3j (x3 x59 : Value) (w : World) (R : RT) (E : Pan) : Prop :=
 ∀ _τ : Fr, (xcond x59
 (oP E (xBin .eql 3 (.tmp 65) (.const (vI 2)) x3 (vI 2)) w fun h2N a2Z =>
 R h2N a2Z)
 (R (vB false) w))
def d3k (x3 x38 x54 : Value) (w : World) (R : RT) (E : Pan) : Prop :=
 ∀ _τ : Fr, (xcond x54
 (oP E (xBin .eql 3 (.tmp 57) (.const (vI 1)) x3 (vI 1)) w fun h2O X6 =>
 R h2O X6)
 (xcut (fun b2z a3b => d3j x3 (nth b2z 0) a3b R E) fun j3 =>
 oP E (xBin .eql 3 (.tmp 38) (.const (vI 6)) x38 (vI 6)) w fun b8A a2o =>
 xcond b8A
 (j3 [b8A] a2o)
 (oP E (xBin .eql 3 (.tmp 38) (.const (vI 7)) x38 (vI 7)) a2o fun f1f a0s =>
 xcond f1f
 (j3 [f1f] a0s)
 (oP E (xBin .eql 3 (.tmp 38) (.const (vI 8)) x38 (vI 8)) a0s fun f1g a2M =>
 xcond f1g
 (j3 [f1g] a2M)
 (oP E (xBin .eql 3 (.tmp 38) (.const (vI 9)) x38 (vI 9)) a2M fun f1h a2p =>
 xcond f1h
 (j3 [f1h] a2p)
 (oP E (xBin .eql 3 (.tmp 38) (.const (vI 10)) x38 (vI 10)) a2p fun h2P a3d =>
 j3 [h2P] a3d))))))
def d3l (x3 x38 x49 : Value) (w : World) (R : RT) (E : Pan) : Prop :=
 ∀ _τ : Fr, (xcond x49
 (oP E (xBin .eql 3 (.tmp 52) (.const (vI 0)) x3 (vI 0)) w fun c5k a2L =>
 R c5k a2L)
 (xcut (fun j1Y a3E => d3k x3 x38 (nth j1Y 0) a3E R E) fun j2 =>
 oP E (xBin .eql 3 (.tmp 38) (.const (vI 4)) x38 (vI 4)) w fun f1i a1U =>
 xcond f1i
 (j2 [f1i] a1U)
 (oP E (xBin .eql 3 (.tmp 38) (.const (vI 5)) x38 (vI 5)) a1U fun h2Q a5T =>
 j2 [h2Q] a5T)))
def e4i (x0 : Value) (w : World) (R : RT) (E : Pan) : Prop :=
 oP E (xV (Instr.box 136 x0)) w fun q7 w_2 =>
 oP E (fA 136 q7 0) w_2 fun b6U w_4 =>
 oP E (fA 53 b6U 3) w_4 fun b5z w_6 =>
 oP E (lA 51 b5z) w_6 fun b2y w_8 =>
 oP E (xBuiltin .len #[51] 3 [false] [b2y]) w_8 fun c4Y o9 =>
 oP E (lA 136 q7) o9 fun b4p p8 =>
 oP E (xV (Instr.makeInterface 136 b4p)) p8 fun c5o p6 =>
 oP E (xCall (fC 143) [c5o]) p6 fun b1o q8 =>
 oP E (eX b1o 0) q8 fun _t14_17 w5 =>
 oP E (eX b1o 1) w5 fun a7V t8 =>
 oP E (fA 136 q7 0) t8 fun a8K w9 =>
 oP E (fA 53 a8K 0) w9 fun b4c v2 =>
 oP E (lA 3 b4c) v2 fun a6E y8 =>
 oP E (xBin .neq 3 (.tmp 18) (.const (vI 1)) a6E (vI 1)) y8 fun b1k B0 =>
 oP E (gsem (asB b1k) true (fA 136 q7 0)) B0 fun d6F C0 =>
 oP E (gsem (asB b1k) true (fA 53 d6F 1)) C0 fun d6G C3 =>
 oP E (gsem (asB b1k) true (lA 2 d6G)) C3 fun c4Z A6 =>
 oP E (gsem (asB b1k) true (xBin .neq 2 (.tmp 23) (.const (vI 0)) c4Z (vI 0))) A6 fun b8p J6 =>
 oP E (xPick b1k b8p (vB false)) J6 fun a7W C2 =>
 oP E (gsem (asB a7W) false (xV (Op.unary .not (gval (asB a7W) false a7V)))) C2 fun b8y J7 =>
 oP E (gsem (asB (gval (asB a7W) false b8y)) true (fA 136 q7 0)) J7 fun h2R C7 =>
 oP E (gsem (asB (gval (asB a7W) false b8y)) true (fA 53 h2R 2)) C7 fun h2S D8 =>
 oP E (gsem (asB (gval (asB a7W) false b8y)) true (lA 9 h2S)) D8 fun d7l G8 =>
 oP E (gsem (asB (gval (asB a7W) false b8y)) true (xBin .neq 9 (.tmp 32) (.const (eS)) d7l (eS))) G8 fun d7m L9 =>
 oP E (gsem (asB a7W) false (xPick (gval (asB a7W) false b8y) d7m (vB false))) L9 fun d7n M6 =>
 oP E (xPick a7W (vB true) d7n) M6 fun h2T P3 =>
 xcond h2T
 (R (vB false) P3)
 (oP E (fA 136 q7 0) P3 fun d7y N9 =>
 oP E (fA 53 d7y 0) N9 fun h2U P4 =>
 oP E (lA 3 h2U) P4 fun d0P P0 =>
 oP E (xBin .eql 3 (.tmp 38) (.const (vI 1)) d0P (vI 1)) P0 fun h2V S4 =>
 xcond h2V
 (oP E (fA 136 q7 0) S4 fun h2W T6 =>
 oP E (fA 53 h2W 1) T6 fun h2X Q3 =>
 oP E (lA 2 h2X) Q3 fun h2Y Z8 =>
 oP E (xBin .geq 2 (.tmp 43) (.const (vI 0)) h2Y (vI 0)) Z8 fun c5v Z9 =>
 oP E (gsem (asB c5v) true (xBin .eql 3 (.tmp 46) (.const (vI 0)) (gval (asB c5v) true c4Y) (vI 0))) Z9 fun h2Z W9 =>
 oP E (xPick c5v h2Z (vB false)) W9 fun h3a a0r =>
 R h3a a0r)
 (xcut (fun f3x a6F => d3l c4Y d0P (nth f3x 0) a6F R E) fun j1 =>
 oP E (xBin .eql 3 (.tmp 38) (.const (vI 2)) d0P (vI 2)) S4 fun f1j a1w =>
 xcond f1j
 (j1 [f1j] a1w)
 (oP E (xBin .eql 3 (.tmp 38) (.const (vI 3)) d0P (vI 3)) a1w fun g1A a2Y =>
 j1 [g1A] a2Y)))
noncomputable def h3b : Code := Tryz.f187.body.getD .skip
def h3c : Hint := (sQ (sQ (sQ (.seq (sQ (.cond (sQ .none) .none)) (.seq (sQ (.block (sQ (.cond (sQ .none) (.cut [49] (sQ (.cond .none .none)) (.cond (sQ .none) (.cut [54] (sQ (.cond .none .none)) (.cond (sQ .none) (.cut [59] (sQ (.cond .none (sQ (.cond .none (sQ (.cond .none (sQ (.cond .none .none)))))))) (.cond (sQ .none) .none)))))))))) (sQ .none))))))
theorem g1B (x0 : Value) (w : World) (R : RT) (E : Pan) : e4i x0 w R E = callX Tryz.prog [.tmp 2] h3b h3c [x0] w R E := by kernel_rfl
theorem g1C {x0 : Value} (h : e4i x0 w R E) : Cv Tryz.prog 187 #[x0] w R E := by
 refine i8 (args := [x0]) (c := h3b) (h := h3c) (rs := [.tmp 2]) Tryz.func187 (by kernel_rfl) (by kernel_rfl) (nB (by kernel_rfl)) (by kernel_rfl) (by kernel_rfl) (by kernel_rfl) ?_
 rw [← g1B]
 exact h
def e4j (x0 : Value) (w : World) (R : RT) (E : Pan) : Prop :=
 oP E (xV (Instr.box 136 x0)) w fun q7 w_2 =>
 oP E (fA 136 q7 0) w_2 fun a0G w_4 =>
 oP E (fA 53 a0G 3) w_4 fun a5S w_6 =>
 oP E (lA 51 a5S) w_6 fun a9d w_8 =>
 oP E (xCall (fC 189) [a9d, (fC 190)]) w_8 fun b1l o9 =>
 R b1l o9
noncomputable def h3d : Code := Tryz.f188.body.getD .skip
def h3e : Hint := (sQ (sQ .none))
theorem g1D (x0 : Value) (w : World) (R : RT) (E : Pan) : e4j x0 w R E = callX Tryz.prog [.tmp 2] h3d h3e [x0] w R E := by kernel_rfl
theorem g1E {x0 : Value} (h : e4j x0 w R E) : Cv Tryz.prog 188 #[x0] w R E := by
 refine i8 (args := [x0]) (c := h3d) (h := h3e) (rs := [.tmp 2]) Tryz.func188 (by kernel_rfl) (by kernel_rfl) (nB (by kernel_rfl)) (by kernel_rfl) (by kernel_rfl) (by kernel_rfl) ?_
 rw [← g1D]
 exact h
def d3m (x5 : Value) (w : World) (R : RT) (_E : Pan) : Prop :=
 ∀ _τ : Fr, (R x5 w)
def e2C (x1 x5 x8 x9 x10 : Value) (w : World) (next2 : NT) (j1 : NT) (_R : RT) (E : Pan) : Prop :=
 oP E (xBin .lss 3 (.tmp 10) (.tmp 9) x10 x9) w fun a4N w_6 =>
 xcond a4N
 (oP E (iA 51 x8 x10) w_6 fun a2b w_8 =>
 oP E (lA 53 a2b) w_8 fun a4O o9 =>
 oP E (xV (Instr.alloc 53 true (.tuple #[]))) o9 fun Y0 p8 =>
 oP E (sA 53 Y0 a4O) p8 fun _z_13 p6 =>
 oP E (lA 53 Y0) p6 fun a4P q8 =>
 oP E (xCall x1 [a4P]) q8 fun a6G w5 =>
 oP E (xV (Instr.buildSlice 137 1 #[(0, a6G)])) w5 fun a4Q t8 =>
 oP E (xBuiltin .append #[137, 137] 137 [false, false] [x5, a4Q]) t8 fun a6H w9 =>
 oP E (xBin .add 3 (.tmp 10) (.const (vI 1)) x10 (vI 1)) w9 fun a4R v2 =>
 next2 [a6H, a4R] v2)
 (j1 [x5] w_6)
def e4k (x0 x1 : Value) (w : World) (R : RT) (E : Pan) : Prop :=
 xcut (fun l_1 w_2 => d3m (nth l_1 0) w_2 R E) fun j1 =>
 oP E (xBuiltin .len #[51] 3 [false] [x0]) w fun a4S w_4 =>
 xloop [5, 10] [(nS), (vI 0)] w_4 fun τ_25 y8 next2 =>
 e2C x1 (τ_25 5) x0 a4S (τ_25 10) y8 next2 j1 R E
noncomputable def h3f : Code := Tryz.f189.body.getD .skip
def h3g : Hint := (sQ (sQ (.cut [5] (sQ (.block (.loop [5, 10] (sQ (.seq (.cond .none .none) (.seq (.block (sQ .none)) .none)))))) (sQ .none))))
theorem g1F (x0 x1 : Value) (w : World) (R : RT) (E : Pan) : e4k x0 x1 w R E = callX Tryz.prog [.tmp 4] h3f h3g [x0, x1] w R E := by kernel_rfl
theorem g1G {x0 x1 : Value} (h : e4k x0 x1 w R E) : Cv Tryz.prog 189 #[x0, x1] w R E := by
 refine i8 (args := [x0, x1]) (c := h3f) (h := h3g) (rs := [.tmp 4]) Tryz.func189 (by kernel_rfl) (by kernel_rfl) (nB (by kernel_rfl)) (by kernel_rfl) (by kernel_rfl) (by kernel_rfl) ?_
 rw [← g1F]
 exact h
def e4l (x0 : Value) (w : World) (R : RT) (E : Pan) : Prop :=
 oP E (xV (Instr.box 53 x0)) w fun q7 w_2 =>
 oP E (lA 53 q7) w_2 fun a0G w_4 =>
 oP E (xV (Instr.build 136 #[(0, a0G)])) w_4 fun a5S w_6 =>
 oP E (xV (Instr.makeInterface 136 a5S)) w_6 fun a9d w_8 =>
 R a9d w_8
noncomputable def h3h : Code := Tryz.f190.body.getD .skip
def h3i : Hint := (sQ (sQ .none))
theorem g1H (x0 : Value) (w : World) (R : RT) (E : Pan) : e4l x0 w R E = callX Tryz.prog [.tmp 2] h3h h3i [x0] w R E := by kernel_rfl
theorem g1I {x0 : Value} (h : e4l x0 w R E) : Cv Tryz.prog 190 #[x0] w R E := by
 refine i8 (args := [x0]) (c := h3h) (h := h3i) (rs := [.tmp 2]) Tryz.func190 (by kernel_rfl) (by kernel_rfl) (nB (by kernel_rfl)) (by kernel_rfl) (by kernel_rfl) (by kernel_rfl) ?_
 rw [← g1H]
 exact h
def d3n (x3 x50 : Value) (w : World) (R : RT) (E : Pan) : Prop :=
 ∀ _τ : Fr, (xcond x50
 (oP E (lA 236 x3) w fun d7C a2p =>
 oP E (xV (Instr.build 236 #[(0, (vI 0)), (1, (vI 2))])) a2p fun d7D a3d =>
 oP E (xBin .eql 236 (.tmp 53) (.tmp 54) d7C d7D) a3d fun d7E a3E =>
 R d7E a3E)
 (R (vB false) w))
def d3o (x3 x38 x39 : Value) (w : World) (R : RT) (E : Pan) : Prop :=
 ∀ _τ : Fr, (xcond x39
 (oP E (lA 236 x3) w fun h3j a2L =>
 oP E (xV (Instr.build 236 #[])) a2L fun h3k X6 =>
 oP E (xBin .eql 236 (.tmp 42) (.tmp 43) h3j h3k) X6 fun h3l a2Z =>
 R h3l a2Z)
 (oP E (xBin .eql 3 (.tmp 38) (.const (vI 4)) x38 (vI 4)) w fun h3m a3b =>
 xcond h3m
 (oP E (lA 236 x3) a3b fun h3n a2o =>
 oP E (xV (Instr.build 236 #[(0, (vI 0)), (1, (vI 1))])) a2o fun h3o a0s =>
 oP E (xBin .eql 236 (.tmp 47) (.tmp 48) h3n h3o) a0s fun h3p a2M =>
 R h3p a2M)
 (xcut (fun d7F a1U => d3n x3 (nth d7F 0) a1U R E) fun j2 =>
 oP E (xBin .eql 3 (.tmp 38) (.const (vI 5)) x38 (vI 5)) a3b fun f1k a5T =>
 xcond f1k
 (j2 [f1k] a5T)
 (oP E (xBin .eql 3 (.tmp 38) (.const (vI 6)) x38 (vI 6)) a5T fun d7q a6F =>
 j2 [d7q] a6F))))
def e4m (x0 : Value) (w : World) (R : RT) (E : Pan) : Prop :=
 oP E (xV (Instr.box 143 x0)) w fun q7 w_2 =>
 oP E (fA 143 q7 0) w_2 fun a4v w_4 =>
 oP E (fA 59 a4v 2) w_4 fun b8G w_6 =>
 oP E (lA 51 b8G) w_6 fun a8t w_8 =>
 oP E (xBuiltin .len #[51] 3 [false] [a8t]) w_8 fun c8L o9 =>
 oP E (fA 143 q7 0) o9 fun c2N p8 =>
 oP E (fA 59 c2N 3) p8 fun c2S p6 =>
 oP E (lA 57 c2S) p6 fun c5w q8 =>
 oP E (xBuiltin .len #[57] 3 [false] [c5w]) q8 fun b6x w5 =>
 oP E (xV (Instr.build 236 #[(0, c8L), (1, b6x)])) w5 fun c5x t8 =>
 oP E (xV (Instr.alloc 236 true (.tuple #[]))) t8 fun e4n w9 =>
 oP E (sA 236 e4n c5x) w9 fun _z_23 v2 =>
 oP E (fA 143 q7 0) v2 fun d7G y8 =>
 oP E (fA 59 d7G 0) y8 fun h3q B0 =>
 oP E (lA 3 h3q) B0 fun h3r C0 =>
 oP E (xBin .eql 3 (.tmp 15) (.const (vI 3)) h3r (vI 3)) C0 fun h3s C3 =>
 xcond h3s
 (oP E (fA 143 q7 0) C3 fun d7d A6 =>
 oP E (fA 59 d7d 1) A6 fun c5g J6 =>
 oP E (lA 3 c5g) J6 fun h3t C2 =>
 oP E (xBin .geq 3 (.tmp 19) (.const (vI 1)) h3t (vI 1)) C2 fun c5y J7 =>
 oP E (gsem (asB c5y) true (fA 143 q7 0)) J7 fun h3u C7 =>
 oP E (gsem (asB c5y) true (fA 59 h3u 1)) C7 fun h3v D8 =>
 oP E (gsem (asB c5y) true (lA 3 h3v)) D8 fun h3w G8 =>
 oP E (gsem (asB c5y) true (xBin .leq 3 (.tmp 24) (.const (vI 6)) h3w (vI 6))) G8 fun h3x L9 =>
 oP E (xPick c5y h3x (vB false)) L9 fun d0Q M6 =>
 oP E (gsem (asB d0Q) true (lA 236 e4n)) M6 fun c5z P3 =>
 oP E (gsem (asB d0Q) true (xV (Instr.build 236 #[(0, (vI 2)), (1, (vI 0))]))) P3 fun h3y N9 =>
 oP E (gsem (asB d0Q) true (xBin .eql 236 (.tmp 28) (.tmp 29) c5z h3y)) N9 fun h3z P4 =>
 oP E (xPick d0Q h3z (vB false)) P4 fun h3A P0 =>
 R h3A P0)
 (oP E (fA 143 q7 0) C3 fun h3B S4 =>
 oP E (fA 59 h3B 1) S4 fun h3C T6 =>
 oP E (lA 3 h3C) T6 fun h3D Q3 =>
 oP E (xBin .neq 3 (.tmp 34) (.const (vI 0)) h3D (vI 0)) Q3 fun h3E Z8 =>
 xcond h3E
 (R (vB false) Z8)
 (oP E (fA 143 q7 0) Z8 fun h3F Z9 =>
 oP E (fA 59 h3F 0) Z9 fun d6e W9 =>
 oP E (lA 3 d6e) W9 fun d7H a0r =>
 xcut (fun d7I a1w => d3o e4n d7H (nth d7I 0) a1w R E) fun j1 =>
 oP E (xBin .eql 3 (.tmp 38) (.const (vI 1)) d7H (vI 1)) a0r fun e2D a2Y =>
 xcond e2D
 (j1 [e2D] a2Y)
 (oP E (xBin .eql 3 (.tmp 38) (.const (vI 2)) d7H (vI 2)) a2Y fun g1J a4K =>
 j1 [g1J] a4K)))
noncomputable def h3G : Code := Tryz.f191.body.getD .skip
def h3H : Hint := (sQ (sQ (.seq (sQ (.cond (sQ .none) .none)) (.seq (sQ (.cond (sQ .none) .none)) (.seq (sQ (.block (.cut [39] (sQ (.cond .none .none)) (.cond (sQ .none) (sQ (.cond (sQ .none) (.cut [50] (sQ (.cond .none .none)) (.cond (sQ .none) .none)))))))) (sQ .none))))))
theorem g1K (x0 : Value) (w : World) (R : RT) (E : Pan) : e4m x0 w R E = callX Tryz.prog [.tmp 2] h3G h3H [x0] w R E := by kernel_rfl
theorem g1L {x0 : Value} (h : e4m x0 w R E) : Cv Tryz.prog 191 #[x0] w R E := by
 refine i8 (args := [x0]) (c := h3G) (h := h3H) (rs := [.tmp 2]) Tryz.func191 (by kernel_rfl) (by kernel_rfl) (nB (by kernel_rfl)) (by kernel_rfl) (by kernel_rfl) (by kernel_rfl) ?_
 rw [← g1K]
 exact h
def e4o (x0 : Value) (w : World) (R : RT) (E : Pan) : Prop :=
 oP E (xV (Instr.box 143 x0)) w fun q7 w_2 =>
 dX w_2 fun w_3 =>
 qP Tryz.prog (fA 143 q7 0) fun d2R =>
 qP Tryz.prog (fA 59 d2R 2) fun a5S =>
 qP Tryz.prog (fA 143 q7 0) fun f3y =>
 qP Tryz.prog (fA 59 f3y 3) fun b2y =>
 qL Tryz.prog w_3 (blk a5S) (lA 51 a5S) fun d6v =>
 qL Tryz.prog w_3 (blk b2y) (lA 57 b2y) fun c4Y =>
 oP E (xCall (fC 189) [d6v, (fC 190)]) w_3 fun i5X S5 =>
 keepX [(blk b2y)] w_3 S5 (opK Tryz.prog E (xCall (fC 193) [c4Y, (fC 194)]) S5 fun h3I a3F =>
 keepX [] S5 a3F (opK Tryz.prog E (xV (Instr.buildSlice 179 2 #[(0, i5X), (1, h3I)])) a3F fun h3J c2J =>
 keepX [] a3F c2J (opK Tryz.prog E (xCall (fC 75) [h3J]) c2J fun h3K a0t =>
 keepX [] c2J a0t (R h3K a0t))))
noncomputable def h3L : Code := Tryz.f192.body.getD .skip
def h3M : Hint := (sQ (.seq (.reg [(0, 8, 2), (1, 16, 8), (2, 32, 16), (4, 64, 32), (0, 128, 2), (16, 256, 128), (32, 512, 256), (72, 1024, 512), (136, 2048, 1088), (384, 4096, 2048), (1023, 4, 4096)] [68, 68, 64, 64, 68, 68, 4, 0, 0, 0, 68] (.early 0 (.early 1 (.early 4 (.early 5 (.load 2 (.load 6 (.step 3 (.step 7 (.step 8 (.step 9 (.early 10 .done)))))))))))) .none))
theorem g1M (x0 : Value) (w : World) (R : RT) (E : Pan) : e4o x0 w R E = callX Tryz.prog [.tmp 2] h3L h3M [x0] w R E := by kernel_rfl
theorem g1N {x0 : Value} (h : e4o x0 w R E) : Cv Tryz.prog 192 #[x0] w R E := by
 refine i8 (args := [x0]) (c := h3L) (h := h3M) (rs := [.tmp 2]) Tryz.func192 (by kernel_rfl) (by kernel_rfl) (nB (by kernel_rfl)) (by kernel_rfl) (by kernel_rfl) (by kernel_rfl) ?_
 rw [← g1M]
 exact h
def d3p (x5 : Value) (w : World) (R : RT) (_E : Pan) : Prop :=
 ∀ _τ : Fr, (R x5 w)
def e2E (x1 x5 x8 x9 x10 : Value) (w : World) (next2 : NT) (j1 : NT) (_R : RT) (E : Pan) : Prop :=
 oP E (xBin .lss 3 (.tmp 10) (.tmp 9) x10 x9) w fun a4N w_6 =>
 xcond a4N
 (oP E (iA 57 x8 x10) w_6 fun a2b w_8 =>
 oP E (lA 59 a2b) w_8 fun a4O o9 =>
 oP E (xV (Instr.alloc 59 true (.tuple #[]))) o9 fun Y0 p8 =>
 oP E (sA 59 Y0 a4O) p8 fun _z_13 p6 =>
 oP E (lA 59 Y0) p6 fun a4P q8 =>
 oP E (xCall x1 [a4P]) q8 fun a6G w5 =>
 oP E (xV (Instr.buildSlice 137 1 #[(0, a6G)])) w5 fun a4Q t8 =>
 oP E (xBuiltin .append #[137, 137] 137 [false, false] [x5, a4Q]) t8 fun a6H w9 =>
 oP E (xBin .add 3 (.tmp 10) (.const (vI 1)) x10 (vI 1)) w9 fun a4R v2 =>
 next2 [a6H, a4R] v2)
 (j1 [x5] w_6)
def e4p (x0 x1 : Value) (w : World) (R : RT) (E : Pan) : Prop :=
 xcut (fun l_1 w_2 => d3p (nth l_1 0) w_2 R E) fun j1 =>
 oP E (xBuiltin .len #[57] 3 [false] [x0]) w fun a4S w_4 =>
 xloop [5, 10] [(nS), (vI 0)] w_4 fun τ_25 y8 next2 =>
 e2E x1 (τ_25 5) x0 a4S (τ_25 10) y8 next2 j1 R E
noncomputable def h3N : Code := Tryz.f193.body.getD .skip
def h3O : Hint := (sQ (sQ (.cut [5] (sQ (.block (.loop [5, 10] (sQ (.seq (.cond .none .none) (.seq (.block (sQ .none)) .none)))))) (sQ .none))))
theorem g1O (x0 x1 : Value) (w : World) (R : RT) (E : Pan) : e4p x0 x1 w R E = callX Tryz.prog [.tmp 4] h3N h3O [x0, x1] w R E := by kernel_rfl
theorem g1P {x0 x1 : Value} (h : e4p x0 x1 w R E) : Cv Tryz.prog 193 #[x0, x1] w R E := by
 refine i8 (args := [x0, x1]) (c := h3N) (h := h3O) (rs := [.tmp 4]) Tryz.func193 (by kernel_rfl) (by kernel_rfl) (nB (by kernel_rfl)) (by kernel_rfl) (by kernel_rfl) (by kernel_rfl) ?_
 rw [← g1O]
 exact h
def e4q (x0 : Value) (w : World) (R : RT) (E : Pan) : Prop :=
 oP E (xV (Instr.box 59 x0)) w fun q7 w_2 =>
 oP E (lA 59 q7) w_2 fun a0G w_4 =>
 oP E (xV (Instr.build 143 #[(0, a0G)])) w_4 fun a5S w_6 =>
 oP E (xV (Instr.makeInterface 143 a5S)) w_6 fun a9d w_8 =>
 R a9d w_8
noncomputable def h3P : Code := Tryz.f194.body.getD .skip
def h3Q : Hint := (sQ (sQ .none))
theorem g1Q (x0 : Value) (w : World) (R : RT) (E : Pan) : e4q x0 w R E = callX Tryz.prog [.tmp 2] h3P h3Q [x0] w R E := by kernel_rfl
theorem g1R {x0 : Value} (h : e4q x0 w R E) : Cv Tryz.prog 194 #[x0] w R E := by
 refine i8 (args := [x0]) (c := h3P) (h := h3Q) (rs := [.tmp 2]) Tryz.func194 (by kernel_rfl) (by kernel_rfl) (nB (by kernel_rfl)) (by kernel_rfl) (by kernel_rfl) (by kernel_rfl) ?_
 rw [← g1Q]
 exact h
def e4r (x0 : Value) (w : World) (R : RT) (E : Pan) : Prop :=
 oP E (xV (Instr.box 182 x0)) w fun q7 w_2 =>
 oP E (fA 182 q7 0) w_2 fun a0G w_4 =>
 oP E (fA 71 a0G 1) w_4 fun a5S w_6 =>
 oP E (lA 3 a5S) w_6 fun a9d w_8 =>
 oP E (xBin .geq 3 (.tmp 5) (.const (vI 0)) a9d (vI 0)) w_8 fun b1l o9 =>
 oP E (gsem (asB b1l) true (fA 182 q7 0)) o9 fun c2N p8 =>
 oP E (gsem (asB b1l) true (fA 71 c2N 1)) p8 fun c2S p6 =>
 oP E (gsem (asB b1l) true (lA 3 c2S)) p6 fun c5w q8 =>
 oP E (gsem (asB b1l) true (xBin .leq 3 (.tmp 10) (.const (vI 2147483647)) c5w (vI 2147483647))) q8 fun b6x w5 =>
 oP E (xPick b1l b6x (vB false)) w5 fun c5x t8 =>
 R c5x t8
noncomputable def h3R : Code := Tryz.f195.body.getD .skip
def h3S : Hint := (sQ (sQ .none))
theorem g1S (x0 : Value) (w : World) (R : RT) (E : Pan) : e4r x0 w R E = callX Tryz.prog [.tmp 2] h3R h3S [x0] w R E := by kernel_rfl
theorem g1T {x0 : Value} (h : e4r x0 w R E) : Cv Tryz.prog 195 #[x0] w R E := by
 refine i8 (args := [x0]) (c := h3R) (h := h3S) (rs := [.tmp 2]) Tryz.func195 (by kernel_rfl) (by kernel_rfl) (nB (by kernel_rfl)) (by kernel_rfl) (by kernel_rfl) (by kernel_rfl) ?_
 rw [← g1S]
 exact h
def e4s (x0 : Value) (w : World) (R : RT) (E : Pan) : Prop :=
 oP E (xV (Instr.box 182 x0)) w fun _t1_1 w_2 =>
 R (nS) w_2
noncomputable def h3T : Code := Tryz.f196.body.getD .skip
def h3U : Hint := (sQ (sQ .none))
theorem g1U (x0 : Value) (w : World) (R : RT) (E : Pan) : e4s x0 w R E = callX Tryz.prog [.tmp 2] h3T h3U [x0] w R E := by kernel_rfl
theorem g1V {x0 : Value} (h : e4s x0 w R E) : Cv Tryz.prog 196 #[x0] w R E := by
 refine i8 (args := [x0]) (c := h3T) (h := h3U) (rs := [.tmp 2]) Tryz.func196 (by kernel_rfl) (by kernel_rfl) (nB (by kernel_rfl)) (by kernel_rfl) (by kernel_rfl) (by kernel_rfl) ?_
 rw [← g1U]
 exact h
def d3q (x4 x5 x35 x83 : Value) (w : World) (R : RT) (E : Pan) : Prop :=
 ∀ _τ : Fr, (xcond x83
 (oP E (gsem (asB x5) true (lA 240 x4)) w fun g1W b0b =>
 oP E (gsem (asB x5) true (xV (Instr.build 240 #[(0, (vI 0)), (1, (vI 1))]))) b0b fun g1X b0c =>
 oP E (gsem (asB x5) true (xBin .eql 240 (.tmp 88) (.tmp 89) g1W g1X)) b0c fun g1Y b1Z =>
 oP E (xPick x5 g1Y (vB false)) b1Z fun d2Q b2a =>
 R d2Q b2a)
 (oP E (xBin .eql 3 (.tmp 35) (.const (vI 7)) x35 (vI 7)) w fun g1Z a9u =>
 xcond g1Z
 (oP E (gsem (asB x5) true (lA 240 x4)) a9u fun g2a a6s =>
 oP E (gsem (asB x5) true (xV (Instr.build 240 #[]))) a6s fun g2c a9q =>
 oP E (gsem (asB x5) true (xBin .eql 240 (.tmp 96) (.tmp 97) g2a g2c)) a9q fun g2d b4e =>
 oP E (xPick x5 g2d (vB false)) b4e fun g2e b2S =>
 R g2e b2S)
 (R (vB false) a9u)))
def e4t (x0 : Value) (w : World) (R : RT) (E : Pan) : Prop :=
 oP E (xV (Instr.box 184 x0)) w fun q7 w_2 =>
 oP E (fA 184 q7 0) w_2 fun b6U w_4 =>
 oP E (fA 73 b6U 4) w_4 fun b5z w_6 =>
 oP E (lA 23 b5z) w_6 fun b2y w_8 =>
 oP E (xBuiltin .len #[23] 3 [false] [b2y]) w_8 fun c4Y o9 =>
 oP E (fA 184 q7 0) o9 fun c4U p8 =>
 oP E (fA 73 c4U 5) p8 fun b0P p6 =>
 oP E (lA 23 b0P) p6 fun b8o q8 =>
 oP E (xBuiltin .len #[23] 3 [false] [b8o]) q8 fun a4g w5 =>
 oP E (xBin .add 3 (.tmp 9) (.tmp 13) c4Y a4g) w5 fun d6N t8 =>
 oP E (xBin .gtr 3 (.tmp 14) (.const (vI 0)) d6N (vI 0)) t8 fun c5d w9 =>
 oP E (fA 184 q7 0) w9 fun c5e v2 =>
 oP E (fA 73 c5e 2) v2 fun b0Q y8 =>
 oP E (lA 51 b0Q) y8 fun d7J B0 =>
 oP E (xBuiltin .len #[51] 3 [false] [d7J]) B0 fun c5A C0 =>
 oP E (fA 184 q7 0) C0 fun d7K C3 =>
 oP E (fA 73 d7K 3) C3 fun c1N A6 =>
 oP E (lA 57 c1N) A6 fun c5B J6 =>
 oP E (xBuiltin .len #[57] 3 [false] [c5B]) J6 fun c5C C2 =>
 oP E (xV (Instr.build 240 #[(0, c5A), (1, c5C)])) C2 fun d7L J7 =>
 oP E (xV (Instr.alloc 240 true (.tuple #[]))) J7 fun c6U C7 =>
 oP E (sA 240 c6U d7L) C7 fun _z_43 D8 =>
 oP E (fA 184 q7 0) D8 fun h3V G8 =>
 oP E (fA 73 h3V 1) G8 fun h3W L9 =>
 oP E (lA 9 h3W) L9 fun h3X M6 =>
 oP E (xBin .eql 9 (.tmp 27) (.const (eS)) h3X (eS)) M6 fun c5z P3 =>
 oP E (gsem (asB c5z) true (xV (Op.unary .not (gval (asB c5z) true c5d)))) P3 fun h3Y N9 =>
 oP E (xPick c5z h3Y (vB false)) N9 fun h3Z P4 =>
 oP E (fA 184 q7 0) P4 fun h4a P0 =>
 oP E (fA 73 h4a 0) P0 fun h4b S4 =>
 oP E (lA 3 h4b) S4 fun b8H T6 =>
 oP E (xBin .eql 3 (.tmp 35) (.const (vI 1)) b8H (vI 1)) T6 fun h4c Q3 =>
 xcond h4c
 (oP E (xV (Op.unary .not c5d)) Q3 fun d0R Z8 =>
 oP E (gsem (asB d0R) true (lA 240 c6U)) Z8 fun h4d Z9 =>
 oP E (gsem (asB d0R) true (xV (Instr.build 240 #[(0, (vI 1)), (1, (vI 0))]))) Z9 fun h4e W9 =>
 oP E (gsem (asB d0R) true (xBin .eql 240 (.tmp 41) (.tmp 42) h4d h4e)) W9 fun h4f a0r =>
 oP E (xPick d0R h4f (vB false)) a0r fun h4g a2L =>
 R h4g a2L)
 (oP E (xBin .eql 3 (.tmp 35) (.const (vI 2)) b8H (vI 2)) Q3 fun d7M X6 =>
 xcond d7M
 (oP E (xV (Op.unary .not c5d)) X6 fun c1O a2Z =>
 oP E (gsem (asB c1O) true (lA 240 c6U)) a2Z fun h4h a3b =>
 oP E (gsem (asB c1O) true (xV (Instr.build 240 #[(0, (vI 2)), (1, (vI 0))]))) a3b fun h4i a2o =>
 oP E (gsem (asB c1O) true (xBin .eql 240 (.tmp 50) (.tmp 51) h4h h4i)) a2o fun d7N a0s =>
 oP E (xPick c1O d7N (vB false)) a0s fun d7O a2M =>
 R d7O a2M)
 (oP E (xBin .eql 3 (.tmp 35) (.const (vI 3)) b8H (vI 3)) X6 fun h4j a2p =>
 xcond h4j
 (oP E (fA 184 q7 0) a2p fun h4k a3d =>
 oP E (fA 73 h4k 1) a3d fun h4l a3E =>
 oP E (lA 9 h4l) a3E fun h4m a1U =>
 oP E (xBin .eql 9 (.tmp 58) (.const (eS)) h4m (eS)) a1U fun d0S a5T =>
 oP E (gsem (asB d0S) true (lA 240 c6U)) a5T fun h4n a6F =>
 oP E (gsem (asB d0S) true (xV (Instr.build 240 #[(0, (vI 0)), (1, (vI 1))]))) a6F fun h4o a1w =>
 oP E (gsem (asB d0S) true (xBin .eql 240 (.tmp 61) (.tmp 62) h4n h4o)) a1w fun g2f a2Y =>
 oP E (xPick d0S g2f (vB false)) a2Y fun g2g a4K =>
 R g2g a4K)
 (oP E (xBin .eql 3 (.tmp 35) (.const (vI 4)) b8H (vI 4)) a2p fun g2h a4L =>
 xcond g2h
 (oP E (fA 184 q7 0) a4L fun g2i a4j =>
 oP E (fA 73 g2i 1) a4j fun g2j a7m =>
 oP E (lA 9 g2j) a7m fun g2k a9r =>
 oP E (xBin .eql 9 (.tmp 69) (.const (eS)) g2k (eS)) a9r fun b7X a7n =>
 oP E (gsem (asB b7X) true (fA 184 q7 0)) a7n fun g2l a9s =>
 oP E (gsem (asB b7X) true (fA 73 g2l 5)) a9s fun g2m a8M =>
 oP E (gsem (asB b7X) true (lA 23 g2m)) a8M fun g2n a8i =>
 oP E (gsem (asB b7X) true (xBuiltin .len #[23] 3 [false] [g2n])) a8i fun g2o a5w =>
 oP E (gsem (asB b7X) true (xBin .eql 3 (.tmp 75) (.const (vI 0)) g2o (vI 0))) a5w fun g2p a9p =>
 oP E (xPick b7X g2p (vB false)) a9p fun b5A a8L =>
 oP E (gsem (asB b5A) true (lA 240 c6U)) a8L fun g2q b0a =>
 oP E (gsem (asB b5A) true (xV (Instr.build 240 #[(0, (vI 0)), (1, (vI 1))]))) b0a fun g2r a7k =>
 oP E (gsem (asB b5A) true (xBin .eql 240 (.tmp 79) (.tmp 80) g2q g2r)) a7k fun g2s a7l =>
 oP E (xPick b5A g2s (vB false)) a7l fun g2t a9t =>
 R g2t a9t)
 (xcut (fun d0T c2T => d3q c6U h3Z b8H (nth d0T 0) c2T R E) fun j1 =>
 oP E (xBin .eql 3 (.tmp 35) (.const (vI 5)) b8H (vI 5)) a4L fun e2F c6V =>
 xcond e2F
 (j1 [e2F] c6V)
 (oP E (xBin .eql 3 (.tmp 35) (.const (vI 6)) b8H (vI 6)) c6V fun g2u c2U =>
 j1 [g2u] c2U)))))
noncomputable def h4p : Code := Tryz.f197.body.getD .skip
def h4q : Hint := (sQ (sQ (sQ (sQ (.seq (sQ (.block (sQ (.cond (sQ .none) (sQ (.cond (sQ .none) (sQ (.cond (sQ .none) (sQ (.cond (sQ .none) (.cut [83] (sQ (.cond .none .none)) (.cond (sQ .none) (sQ (.cond (sQ .none) .none)))))))))))))) (sQ .none))))))
theorem g2v (x0 : Value) (w : World) (R : RT) (E : Pan) : e4t x0 w R E = callX Tryz.prog [.tmp 2] h4p h4q [x0] w R E := by kernel_rfl
theorem g2w {x0 : Value} (h : e4t x0 w R E) : Cv Tryz.prog 197 #[x0] w R E := by
 refine i8 (args := [x0]) (c := h4p) (h := h4q) (rs := [.tmp 2]) Tryz.func197 (by kernel_rfl) (by kernel_rfl) (nB (by kernel_rfl)) (by kernel_rfl) (by kernel_rfl) (by kernel_rfl) ?_
 rw [← g2v]
 exact h
def e4u (x0 : Value) (w : World) (R : RT) (E : Pan) : Prop :=
 oP E (xV (Instr.box 184 x0)) w fun q7 w_2 =>
 dX w_2 fun w_3 =>
 qP Tryz.prog (fA 184 q7 0) fun d2R =>
 qP Tryz.prog (fA 73 d2R 3) fun a5S =>
 qP Tryz.prog (fA 184 q7 0) fun f3y =>
 qP Tryz.prog (fA 73 f3y 2) fun b2y =>
 qP Tryz.prog (fA 184 q7 0) fun i5Y =>
 qP Tryz.prog (fA 73 i5Y 4) fun c0t =>
 qP Tryz.prog (fA 184 q7 0) fun h4r =>
 qP Tryz.prog (fA 73 h4r 5) fun a7Y =>
 qL Tryz.prog w_3 (blk a5S) (lA 57 a5S) fun i5Z =>
 qL Tryz.prog w_3 (blk b2y) (lA 51 b2y) fun c2S =>
 qL Tryz.prog w_3 (blk c0t) (lA 23 c0t) fun h4s =>
 qL Tryz.prog w_3 (blk a7Y) (lA 23 a7Y) fun c5i =>
 oP E (xCall (fC 193) [i5Z, (fC 194)]) w_3 fun i6a a0t =>
 keepX [(blk a7Y), (blk c0t), (blk b2y)] w_3 a0t (opK Tryz.prog E (xCall (fC 189) [c2S, (fC 190)]) a0t fun h4t X1 =>
 keepX [(blk a7Y), (blk c0t)] a0t X1 (opK Tryz.prog E (xCall (fC 78) [h4s, (fC 79)]) X1 fun h4u a3e =>
 keepX [(blk a7Y)] X1 a3e (opK Tryz.prog E (xCall (fC 78) [c5i, (fC 79)]) a3e fun d7P a6X =>
 keepX [] a3e a6X (opK Tryz.prog E (xV (Instr.buildSlice 179 4 #[(0, i6a), (1, h4t), (2, h4u), (3, d7P)])) a6X fun h4v a9K =>
 keepX [] a6X a9K (opK Tryz.prog E (xCall (fC 75) [h4v]) a9K fun h4w a5U =>
 keepX [] a9K a5U (R h4w a5U))))))
noncomputable def h4x : Code := Tryz.f198.body.getD .skip
def h4y : Hint := (sQ (.seq (.reg [(0, 8, 2), (1, 16, 8), (2, 32, 16), (4, 64, 32), (0, 128, 2), (16, 256, 128), (32, 512, 256), (72, 1024, 512), (0, 2048, 2), (256, 4096, 2048), (512, 8192, 4096), (1152, 16384, 8192), (0, 32768, 2), (4096, 65536, 32768), (8192, 131072, 65536), (18432, 262144, 131072), (34952, 524288, 279616), (98304, 1048576, 524288), (262143, 4, 1048576)] [17476, 17476, 17472, 17472, 17476, 17476, 17412, 17408, 17476, 17476, 16452, 16384, 17476, 17476, 1092, 0, 0, 0, 17476] (.early 0 (.early 1 (.early 4 (.early 5 (.early 8 (.early 9 (.early 12 (.early 13 (.load 2 (.load 6 (.load 10 (.load 14 (.step 3 (.step 7 (.step 11 (.step 15 (.step 16 (.step 17 (.early 18 .done)))))))))))))))))))) .none))
theorem g2x (x0 : Value) (w : World) (R : RT) (E : Pan) : e4u x0 w R E = callX Tryz.prog [.tmp 2] h4x h4y [x0] w R E := by kernel_rfl
theorem g2y {x0 : Value} (h : e4u x0 w R E) : Cv Tryz.prog 198 #[x0] w R E := by
 refine i8 (args := [x0]) (c := h4x) (h := h4y) (rs := [.tmp 2]) Tryz.func198 (by kernel_rfl) (by kernel_rfl) (nB (by kernel_rfl)) (by kernel_rfl) (by kernel_rfl) (by kernel_rfl) ?_
 rw [← g2x]
 exact h
end Go.Proofs.YtnhkdkcgdcgmdaaGreatDoor
