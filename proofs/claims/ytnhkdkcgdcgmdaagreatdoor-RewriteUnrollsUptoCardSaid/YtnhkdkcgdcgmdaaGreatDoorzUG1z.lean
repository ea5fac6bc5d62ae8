/- The second reading of some of the program's functions, printed by gen2.py off the code; each is held against the code by the kernel. -/
import Derived.Test.YtnhkdkcgdcgmdaaGreatDoorProg
import Derived.Test.YtnhkdkcgdcgmdaaGreatDoorzUK0
import Derived.KernelRfl
import Derived.Test.YtnhkdkcgdcgmdaaGreatDoorzUGz
namespace Go.Proofs.YtnhkdkcgdcgmdaaGreatDoor
open Go.RowKit
set_option maxRecDepth 100000
variable {w : World} {R : RT} {E : Pan}
def d9h (x4 : Value) (w : World) (R : RT) (E : Pan) : Prop :=
 ∀ _τ : Fr, (oP E (lA 111 x4) w fun h5o B0 =>
 oP E (xCall (fC 50) [h5o]) B0 fun h5p C0 =>
 R h5p C0)
def f1D (x1 x4 x6 : Value) (w : World) (next3 : NT) (j2 : NT) (_R : RT) (E : Pan) : Prop :=
 oP E (fA 25 x1 1) w fun h5q A6 =>
 oP E (lA 23 h5q) A6 fun h5r J6 =>
 oP E (xBuiltin .len #[23] 3 [false] [h5r]) J6 fun h5s C2 =>
 oP E (xBin .lss 3 (.tmp 50) (.tmp 53) x6 h5s) C2 fun d9i J7 =>
 oP E (gsem (asB d9i) true (fA 111 x4 0)) J7 fun h5t C7 =>
 oP E (gsem (asB d9i) true (lA 4 h5t)) C7 fun h5u D8 =>
 oP E (xPick d9i h5u (vB false)) D8 fun h5v G8 =>
 xcond h5v
 (oP E (fA 25 x1 1) G8 fun h5w L9 =>
 oP E (lA 23 h5w) L9 fun h5x M6 =>
 oP E (iA 23 h5x x6) M6 fun h5y P3 =>
 oP E (lA 73 h5y) P3 fun h5z N9 =>
 oP E (xCall (fC 49) [x4, h5z]) N9 fun _t66_55 P4 =>
 oP E (xBin .add 3 (.tmp 59) (.const (vI 1)) x6 (vI 1)) P4 fun d9j P0 =>
 next3 [d9j] P0)
 (j2 [] G8)
def d9k (x1 x4 : Value) (w : World) (R : RT) (E : Pan) : Prop :=
 ∀ _τ : Fr, (xcut (fun _ C3 => d9h x4 C3 R E) fun j2 =>
 xloop [6] [(vI 0)] w fun τ_59 S4 next3 =>
 f1D x1 x4 (τ_59 6) S4 next3 j2 R E)
def f1E (x1 x4 x5 : Value) (w : World) (next4 : NT) (j1 : NT) (_R : RT) (E : Pan) : Prop :=
 oP E (fA 25 x1 0) w fun h5A Q3 =>
 oP E (lA 22 h5A) Q3 fun h5B Z8 =>
 oP E (xBuiltin .len #[22] 3 [false] [h5B]) Z8 fun h5C Z9 =>
 oP E (xBin .lss 3 (.tmp 15) (.tmp 18) x5 h5C) Z9 fun h5D W9 =>
 xcond h5D
 (oP E (fA 111 x4 0) W9 fun h5E a0r =>
 oP E (lA 4 h5E) a0r fun b6C a2L =>
 oP E (gsem (asB b6C) true (fA 25 x1 0)) a2L fun h5F X6 =>
 oP E (gsem (asB b6C) true (lA 22 h5F)) X6 fun h5G a2Z =>
 oP E (gsem (asB b6C) true (iA 22 h5G (gval (asB b6C) true x5))) a2Z fun h5H a3b =>
 oP E (gsem (asB b6C) true (fA 71 h5H 1)) a3b fun h5I a2o =>
 oP E (gsem (asB b6C) true (lA 3 h5I)) a2o fun h5J a0s =>
 oP E (gsem (asB b6C) true (xBin .geq 3 (.tmp 30) (.const (vI 0)) h5J (vI 0))) a0s fun h5K a2M =>
 oP E (xPick b6C h5K (vB false)) a2M fun b6D a2p =>
 oP E (gsem (asB b6D) true (fA 25 x1 0)) a2p fun h5L a3d =>
 oP E (gsem (asB b6D) true (lA 22 h5L)) a3d fun h5M a3E =>
 oP E (gsem (asB b6D) true (iA 22 h5M (gval (asB b6D) true x5))) a3E fun h5N a1U =>
 oP E (gsem (asB b6D) true (fA 71 h5N 1)) a1U fun h5O a5T =>
 oP E (gsem (asB b6D) true (lA 3 h5O)) a5T fun h5P a6F =>
 oP E (gsem (asB b6D) true (xBin .leq 3 (.tmp 39) (.const (vI 2147483647)) h5P (vI 2147483647))) a6F fun h5Q a1w =>
 oP E (xPick b6D h5Q (vB false)) a1w fun g2N a2Y =>
 oP E (fA 111 x4 0) a2Y fun g2O a4K =>
 oP E (sA 4 g2O g2N) a4K fun _z_105 a4L =>
 oP E (fA 25 x1 0) a4L fun d2S a4j =>
 oP E (lA 22 d2S) a4j fun g2P a7m =>
 oP E (iA 22 g2P x5) a7m fun g2Q a9r =>
 oP E (fA 71 g2Q 0) a9r fun g2R a7n =>
 oP E (lA 9 g2R) a7n fun g2S a9s =>
 oP E (xCall (fC 48) [x4, g2S, (vB true)]) a9s fun _t49_117 a8M =>
 oP E (xBin .add 3 (.tmp 20) (.const (vI 1)) x5 (vI 1)) a8M fun g2T a8i =>
 next4 [g2T] a8i)
 (j1 [] W9)
def F27 (x0 : Value) (w : World) (R : RT) (E : Pan) : Prop :=
 oP E (xV (Instr.box 25 x0)) w fun q7 w_2 =>
 oP E (lA 25 q7) w_2 fun b3c w_4 =>
 oP E (xCall (fC 47) [b3c]) w_4 fun c2O w_6 =>
 oP E (xV (Instr.alloc 108 true (.tuple #[]))) w_6 fun c8I w_8 =>
 oP E (sA 108 c8I c2O) w_8 fun _z_9 o9 =>
 oP E (fA 108 c8I 2) o9 fun a4M p8 =>
 oP E (lA 3 a4M) p8 fun a7g p6 =>
 oP E (xBin .neq 3 (.tmp 10) (.const (vI 0)) a7g (vI 0)) p6 fun b8C q8 =>
 xcond b8C
 (oP E (fA 108 c8I 2) q8 fun b8D w5 =>
 oP E (lA 3 b8D) w5 fun b8E t8 =>
 R b8E t8)
 (oP E (xV (Instr.build 111 #[(0, (vB true)), (1, (vB true))])) q8 fun b8F w9 =>
 oP E (xV (Instr.alloc 111 true (.tuple #[]))) w9 fun e5W v2 =>
 oP E (sA 111 e5W b8F) v2 fun _z_25 y8 =>
 xcut (fun _ T6 => d9k q7 e5W T6 R E) fun j1 =>
 xloop [5] [(vI 0)] y8 fun τ_121 a5w next4 =>
 f1E q7 e5W (τ_121 5) a5w next4 j1 R E)
noncomputable def c27 : Code := Tryz.f27.body.getD .skip
def h27 : Hint := (sQ (sQ (.seq (sQ (.cond (sQ .none) .none)) (sQ (.cut [] (sQ (.block (.loop [5] (.seq (sQ (.cond .none .none)) (.seq (.block (sQ .none)) .none))))) (.cut [] (sQ (.block (.loop [6] (.seq (sQ (.cond .none .none)) (.seq (.block .none) .none))))) (sQ .none)))))))
theorem h5R (x0 : Value) (w : World) (R : RT) (E : Pan) : F27 x0 w R E = callX Tryz.prog [.tmp 2] c27 h27 [x0] w R E := by kernel_rfl
theorem h5S {x0 : Value} (h : F27 x0 w R E) : Cv Tryz.prog 27 #[x0] w R E := by
 refine i8 (args := [x0]) (c := c27) (h := h27) (rs := [.tmp 2]) Tryz.func27 (by kernel_rfl) (by kernel_rfl) (nB (by kernel_rfl)) (by kernel_rfl) (by kernel_rfl) (by kernel_rfl) ?_
 rw [← h5R]
 exact h
def F41 (x0 : Value) (w : World) (R : RT) (E : Pan) : Prop :=
 oP E (xV (Instr.box 59 x0)) w fun q7 w_2 =>
 oP E (lA 59 q7) w_2 fun a0G w_4 =>
 oP E (xV (Instr.build 143 #[(0, a0G)])) w_4 fun a5S w_6 =>
 oP E (xV (Instr.makeInterface 143 a5S)) w_6 fun a9d w_8 =>
 oP E (xV (Instr.buildSlice 137 1 #[(0, a9d)])) w_8 fun b1l o9 =>
 oP E (xCall (fC 65) [b1l]) o9 fun Y0 p8 =>
 oP E (xNil Y0) p8 fun b7w p6 =>
 oP E (fA 101 b7w 2) p6 fun e3Q q8 =>
 oP E (lA 27 e3Q) q8 fun b8t w5 =>
 R b8t w5
noncomputable def c41 : Code := Tryz.f41.body.getD .skip
def h41 : Hint := (sQ (sQ .none))
theorem h5T (x0 : Value) (w : World) (R : RT) (E : Pan) : F41 x0 w R E = callX Tryz.prog [.tmp 2] c41 h41 [x0] w R E := by kernel_rfl
theorem h5U {x0 : Value} (h : F41 x0 w R E) : Cv Tryz.prog 41 #[x0] w R E := by
 refine i8 (args := [x0]) (c := c41) (h := h41) (rs := [.tmp 2]) Tryz.func41 (by kernel_rfl) (by kernel_rfl) (nB (by kernel_rfl)) (by kernel_rfl) (by kernel_rfl) (by kernel_rfl) ?_
 rw [← h5T]
 exact h
def F48 (x0 x1 x2 : Value) (w : World) (R : RT) (E : Pan) : Prop :=
 oP E (xV (Op.unary .not x2)) w fun b0d w_2 =>
 xcond b0d
 (oP E (xNil x0) w_2 fun b4n w_4 =>
 oP E (fA 111 b4n 0) w_4 fun a4N w_6 =>
 oP E (lA 4 a4N) w_6 fun a2b w_8 =>
 oP E (gsem (asB a2b) true (xBin .eql 9 (.tmp 14) (.const (eS)) (gval (asB a2b) true x1) (eS))) w_8 fun d0O o9 =>
 oP E (xPick a2b d0O (vB false)) o9 fun a7Y p8 =>
 oP E (xNil x0) p8 fun d9l p6 =>
 oP E (fA 111 d9l 0) p6 fun d7v q8 =>
 oP E (sA 4 d7v a7Y) q8 fun _z_17 w5 =>
 R (Value.tuple #[]) w5)
 (oP E (xNil x0) w_2 fun d7z t8 =>
 oP E (fA 111 d7z 1) t8 fun c5r w9 =>
 oP E (lA 4 c5r) w9 fun c5s v2 =>
 oP E (gsem (asB c5s) true (xCall (fC 86) [(gval (asB c5s) true x1)])) v2 fun d7w y8 =>
 oP E (xPick c5s d7w (vB false)) y8 fun d7x B0 =>
 oP E (xNil x0) B0 fun h5V C0 =>
 oP E (fA 111 h5V 1) C0 fun h5W C3 =>
 oP E (sA 4 h5W d7x) C3 fun _z_33 A6 =>
 R (Value.tuple #[]) A6)
noncomputable def c48 : Code := Tryz.f48.body.getD .skip
def h48 : Hint := (.seq (sQ (.cond (sQ .none) .none)) .none)
theorem h5X (x0 x1 x2 : Value) (w : World) (R : RT) (E : Pan) : F48 x0 x1 x2 w R E = callX Tryz.prog [] c48 h48 [x0, x1, x2] w R E := by kernel_rfl
theorem h5Y {x0 x1 x2 : Value} (h : F48 x0 x1 x2 w R E) : Cv Tryz.prog 48 #[x0, x1, x2] w R E := by
 refine i8 (args := [x0, x1, x2]) (c := c48) (h := h48) (rs := []) Tryz.func48 (by kernel_rfl) (by kernel_rfl) (nB (by kernel_rfl)) (by kernel_rfl) (by kernel_rfl) (by kernel_rfl) ?_
 rw [← h5X]
 exact h
def f1F (x0 x3 x9 : Value) (w : World) (next5 : NT) (R : RT) (E : Pan) : Prop :=
 oP E (fA 73 x3 5) w fun g2U a1w =>
 oP E (lA 23 g2U) a1w fun f5u a2Y =>
 oP E (xBuiltin .len #[23] 3 [false] [f5u]) a2Y fun f5v a4K =>
 oP E (xBin .lss 3 (.tmp 146) (.tmp 149) x9 f5v) a4K fun b9u a4L =>
 oP E (gsem (asB b9u) true (xNil (gval (asB b9u) true x0))) a4L fun f5w a4j =>
 oP E (gsem (asB b9u) true (fA 111 f5w 0)) a4j fun f5x a7m =>
 oP E (gsem (asB b9u) true (lA 4 f5x)) a7m fun f5y a9r =>
 oP E (xPick b9u f5y (vB false)) a9r fun f5z a7n =>
 xcond f5z
 (oP E (fA 73 x3 5) a7n fun f5A a9s =>
 oP E (lA 23 f5A) a9s fun f5B a8M =>
 oP E (iA 23 f5B x9) a8M fun f5C a8i =>
 oP E (lA 73 f5C) a8i fun f5D a5w =>
 oP E (xCall (fC 49) [x0, f5D]) a5w fun _t165_123 a9p =>
 oP E (xBin .add 3 (.tmp 157) (.const (vI 1)) x9 (vI 1)) a9p fun f5E a8L =>
 next5 [f5E] a8L)
 (R (Value.tuple #[]) a7n)
def d9m (x0 x3 : Value) (w : World) (R : RT) (E : Pan) : Prop :=
 ∀ _τ : Fr, (xloop [9] [(vI 0)] w fun τ_127 b0a next5 =>
 f1F x0 x3 (τ_127 9) b0a next5 R E)
def f1G (x0 x3 x8 : Value) (w : World) (next6 : NT) (j4 : NT) (_R : RT) (E : Pan) : Prop :=
 oP E (fA 73 x3 4) w fun f5F a7l =>
 oP E (lA 23 f5F) a7l fun f5G a9t =>
 oP E (xBuiltin .len #[23] 3 [false] [f5G]) a9t fun f5H b0b =>
 oP E (xBin .lss 3 (.tmp 126) (.tmp 129) x8 f5H) b0b fun b9v b0c =>
 oP E (gsem (asB b9v) true (xNil (gval (asB b9v) true x0))) b0c fun f5I b1Z =>
 oP E (gsem (asB b9v) true (fA 111 f5I 0)) b1Z fun f5J b2a =>
 oP E (gsem (asB b9v) true (lA 4 f5J)) b2a fun f5K a9u =>
 oP E (xPick b9v f5K (vB false)) a9u fun f5L a6s =>
 xcond f5L
 (oP E (fA 73 x3 4) a6s fun f5M a9q =>
 oP E (lA 23 f5M) a9q fun f5N b4e =>
 oP E (iA 23 f5N x8) b4e fun f5O b2S =>
 oP E (lA 73 f5O) b2S fun f5P c2T =>
 oP E (xCall (fC 49) [x0, f5P]) c2T fun _t145_155 c6V =>
 oP E (xBin .add 3 (.tmp 137) (.const (vI 1)) x8 (vI 1)) c6V fun f5Q c2U =>
 next6 [f5Q] c2U)
 (j4 [] a6s)
def d9n (x0 x3 : Value) (w : World) (R : RT) (E : Pan) : Prop :=
 ∀ _τ : Fr, (xcut (fun _ a7k => d9m x0 x3 a7k R E) fun j4 =>
 xloop [8] [(vI 0)] w fun τ_159 f8e next6 =>
 f1G x0 x3 (τ_159 8) f8e next6 j4 R E)
def f1H (x0 x3 x7 : Value) (w : World) (next7 : NT) (j3 : NT) (_R : RT) (E : Pan) : Prop :=
 oP E (fA 73 x3 2) w fun f5R e5u =>
 oP E (lA 51 f5R) e5u fun f5S f8f =>
 oP E (xBuiltin .len #[51] 3 [false] [f5S]) f8f fun f5T c0C =>
 oP E (xBin .lss 3 (.tmp 106) (.tmp 109) x7 f5T) c0C fun b9w i6X =>
 oP E (gsem (asB b9w) true (xNil (gval (asB b9w) true x0))) i6X fun f5U f8g =>
 oP E (gsem (asB b9w) true (fA 111 f5U 0)) f8g fun f5V f8h =>
 oP E (gsem (asB b9w) true (lA 4 f5V)) f8h fun f5W d1s =>
 oP E (xPick b9w f5W (vB false)) d1s fun f5X c7l =>
 xcond f5X
 (oP E (fA 73 x3 2) c7l fun f5Y d1t =>
 oP E (lA 51 f5Y) d1t fun f5Z i6Y =>
 oP E (iA 51 f5Z x7) i6Y fun f6a f8i =>
 oP E (lA 53 f6a) f8i fun f6b i6Z =>
 oP E (xCall (fC 88) [x0, f6b]) i6Z fun _t125_187 f8j =>
 oP E (xBin .add 3 (.tmp 117) (.const (vI 1)) x7 (vI 1)) f8j fun f6c i7a =>
 next7 [f6c] i7a)
 (j3 [] c7l)
def d9o (x0 x3 : Value) (w : World) (R : RT) (E : Pan) : Prop :=
 ∀ _τ : Fr, (xcut (fun _ c7m => d9n x0 x3 c7m R E) fun j3 =>
 xloop [7] [(vI 0)] w fun τ_191 i7b next7 =>
 f1H x0 x3 (τ_191 7) i7b next7 j3 R E)
def f1I (x0 x3 x6 : Value) (w : World) (next8 : NT) (j2 : NT) (_R : RT) (E : Pan) : Prop :=
 oP E (fA 73 x3 3) w fun g2V f8k =>
 oP E (lA 57 g2V) f8k fun g2W f7Y =>
 oP E (xBuiltin .len #[57] 3 [false] [g2W]) f7Y fun g2X f8l =>
 oP E (xBin .lss 3 (.tmp 86) (.tmp 89) x6 g2X) f8l fun c2a i7c =>
 oP E (gsem (asB c2a) true (xNil (gval (asB c2a) true x0))) i7c fun g2Y i7d =>
 oP E (gsem (asB c2a) true (fA 111 g2Y 0)) i7d fun g2Z i7e =>
 oP E (gsem (asB c2a) true (lA 4 g2Z)) i7e fun g3a i7f =>
 oP E (xPick c2a g3a (vB false)) i7f fun g3b f8m =>
 xcond g3b
 (oP E (fA 73 x3 3) f8m fun f6d i7g =>
 oP E (lA 57 f6d) i7g fun f6e i7h =>
 oP E (iA 57 f6e x6) i7h fun f6f i7i =>
 oP E (lA 59 f6f) i7i fun f6g f8n =>
 oP E (xCall (fC 87) [x0, f6g]) f8n fun _t105_219 i7j =>
 oP E (xBin .add 3 (.tmp 97) (.const (vI 1)) x6 (vI 1)) i7j fun g3c i7k =>
 next8 [g3c] i7k)
 (j2 [] f8m)
def d9p (x0 x3 x4 x5 : Value) (w : World) (R : RT) (E : Pan) : Prop :=
 ∀ _τ : Fr, (oP E (fA 73 x3 1) w fun i7l w_4 =>
 oP E (lA 9 i7l) w_4 fun i7m w_6 =>
 oP E (fA 73 x3 0) w_6 fun i7n w_8 =>
 oP E (lA 3 i7n) w_8 fun i7o o9 =>
 oP E (xBin .eql 3 (.tmp 30) (.const (vI 1)) i7o (vI 1)) o9 fun d1u p8 =>
 oP E (gsem (asB d1u) false (fA 73 x3 0)) p8 fun d6Y p6 =>
 oP E (gsem (asB d1u) false (lA 3 d6Y)) p6 fun d6Z q8 =>
 oP E (gsem (asB d1u) false (xBin .eql 3 (.tmp 34) (.const (vI 2)) d6Z (vI 2))) q8 fun h5Z w5 =>
 oP E (xPick d1u (vB true) h5Z) w5 fun h6a t8 =>
 oP E (xCall (fC 48) [x0, i7m, h6a]) t8 fun _t37_21 w9 =>
 oP E (xNil x0) w9 fun h6b v2 =>
 oP E (fA 111 h6b 0) v2 fun h6c y8 =>
 oP E (lA 4 h6c) y8 fun c2b B0 =>
 oP E (gsem (asB c2b) true (fA 73 x3 2)) B0 fun h6d C0 =>
 oP E (gsem (asB c2b) true (lA 51 h6d)) C0 fun h6e C3 =>
 oP E (gsem (asB c2b) true (xBuiltin .len #[51] 3 [false] [h6e])) C3 fun h6f A6 =>
 oP E (gsem (asB c2b) true (xBin .eql 3 (.tmp 46) (.tmp 47) h6f (gval (asB c2b) true x4))) A6 fun h6g J6 =>
 oP E (xPick c2b h6g (vB false)) J6 fun c2c C2 =>
 oP E (gsem (asB c2c) true (fA 73 x3 3)) C2 fun h6h J7 =>
 oP E (gsem (asB c2c) true (lA 57 h6h)) J7 fun h6i C7 =>
 oP E (gsem (asB c2c) true (xBuiltin .len #[57] 3 [false] [h6i])) C7 fun h6j D8 =>
 oP E (gsem (asB c2c) true (xBin .eql 3 (.tmp 53) (.tmp 54) h6j (gval (asB c2c) true x5))) D8 fun h6k G8 =>
 oP E (xPick c2c h6k (vB false)) G8 fun a8h L9 =>
 oP E (gsem (asB a8h) true (fA 73 x3 4)) L9 fun h6l M6 =>
 oP E (gsem (asB a8h) true (lA 23 h6l)) M6 fun h6m P3 =>
 oP E (gsem (asB a8h) true (xBuiltin .len #[23] 3 [false] [h6m])) P3 fun h6n N9 =>
 oP E (gsem (asB a8h) true (xBin .eql 3 (.tmp 60) (.const (vI 0)) h6n (vI 0))) N9 fun d1v P4 =>
 oP E (gsem (asB (gval (asB a8h) true d1v)) false (fA 73 x3 0)) P4 fun d9q P0 =>
 oP E (gsem (asB (gval (asB a8h) true d1v)) false (lA 3 d9q)) P0 fun d9r S4 =>
 oP E (gsem (asB (gval (asB a8h) true d1v)) false (xBin .eql 3 (.tmp 64) (.const (vI 3)) d9r (vI 3))) S4 fun h6o T6 =>
 oP E (gsem (asB a8h) true (xPick (gval (asB a8h) true d1v) (vB true) h6o)) T6 fun d1w Q3 =>
 oP E (gsem (asB (gval (asB a8h) true d1w)) false (fA 73 x3 0)) Q3 fun h6p Z8 =>
 oP E (gsem (asB (gval (asB a8h) true d1w)) false (lA 3 h6p)) Z8 fun h6q Z9 =>
 oP E (gsem (asB (gval (asB a8h) true d1w)) false (xBin .eql 3 (.tmp 69) (.const (vI 4)) h6q (vI 4))) Z9 fun h6r W9 =>
 oP E (gsem (asB a8h) true (xPick (gval (asB a8h) true d1w) (vB true) h6r)) W9 fun h6s a0r =>
 oP E (xPick a8h h6s (vB false)) a0r fun b2Q a2L =>
 oP E (gsem (asB b2Q) true (fA 73 x3 5)) a2L fun h6t X6 =>
 oP E (gsem (asB b2Q) true (lA 23 h6t)) X6 fun h6u a2Z =>
 oP E (gsem (asB b2Q) true (xBuiltin .len #[23] 3 [false] [h6u])) a2Z fun h6v a3b =>
 oP E (gsem (asB b2Q) true (xBin .eql 3 (.tmp 76) (.const (vI 0)) h6v (vI 0))) a3b fun d1x a2o =>
 oP E (gsem (asB (gval (asB b2Q) true d1x)) false (fA 73 x3 0)) a2o fun h6w a0s =>
 oP E (gsem (asB (gval (asB b2Q) true d1x)) false (lA 3 h6w)) a0s fun h6x a2M =>
 oP E (gsem (asB (gval (asB b2Q) true d1x)) false (xBin .eql 3 (.tmp 80) (.const (vI 3)) h6x (vI 3))) a2M fun h6y a2p =>
 oP E (gsem (asB b2Q) true (xPick (gval (asB b2Q) true d1x) (vB true) h6y)) a2p fun d9s a3d =>
 oP E (xPick b2Q d9s (vB false)) a3d fun d9t a3E =>
 oP E (xNil x0) a3E fun h6z a1U =>
 oP E (fA 111 h6z 0) a1U fun h6A a5T =>
 oP E (sA 4 h6A d9t) a5T fun _z_97 a6F =>
 xcut (fun _ i7p => d9o x0 x3 i7p R E) fun j2 =>
 xloop [6] [(vI 0)] a6F fun τ_223 f8o next8 =>
 f1I x0 x3 (τ_223 6) f8o next8 j2 R E)
def d9u (x0 _x3 x4 x5 x11 x19 : Value) (w : World) (j1 : NT) (_R : RT) (E : Pan) : Prop :=
 ∀ _τ : Fr, (xcond x19
 (j1 [x4, (vI 1)] w)
 (oP E (xBin .eql 3 (.tmp 11) (.const (vI 7)) x11 (vI 7)) w fun g3d f8p =>
 xcond g3d
 (j1 [x4, x5] f8p)
 (oP E (xNil x0) f8p fun g3e i7q =>
 oP E (fA 111 g3e 0) i7q fun g3f i7r =>
 oP E (sA 4 g3f (vB false)) i7r fun _z_241 f8q =>
 j1 [x4, x5] f8q)))
def F49 (x0 x1 : Value) (w : World) (R : RT) (E : Pan) : Prop :=
 oP E (xV (Instr.box 73 x1)) w fun b3A w_2 =>
 xcut (fun f8r i7s => d9p x0 b3A (nth f8r 0) (nth f8r.tail 0) i7s R E) fun j1 =>
 oP E (fA 73 b3A 0) w_2 fun g3g i7t =>
 oP E (lA 3 g3g) i7t fun b5W i7u =>
 oP E (xBin .eql 3 (.tmp 11) (.const (vI 1)) b5W (vI 1)) i7u fun g3h f8s =>
 xcond g3h
 (j1 [(vI 1), (vI 0)] f8s)
 (oP E (xBin .eql 3 (.tmp 11) (.const (vI 2)) b5W (vI 2)) f8s fun g3i e5X =>
 xcond g3i
 (j1 [(vI 2), (vI 0)] e5X)
 (xcut (fun i7v i7w => d9u x0 b3A (vI 0) (vI 0) b5W (nth i7v 0) i7w j1 R E) fun j9 =>
 oP E (xBin .eql 3 (.tmp 11) (.const (vI 3)) b5W (vI 3)) e5X fun e2L f8t =>
 xcond e2L
 (j9 [e2L] f8t)
 (oP E (xBin .eql 3 (.tmp 11) (.const (vI 4)) b5W (vI 4)) f8t fun e2M f8u =>
 xcond e2M
 (j9 [e2M] f8u)
 (oP E (xBin .eql 3 (.tmp 11) (.const (vI 5)) b5W (vI 5)) f8u fun e2N f8v =>
 xcond e2N
 (j9 [e2N] f8v)
 (oP E (xBin .eql 3 (.tmp 11) (.const (vI 6)) b5W (vI 6)) f8v fun g3j i7x =>
 j9 [g3j] i7x)))))
noncomputable def c49 : Code := Tryz.f49.body.getD .skip
def h49 : Hint := (sQ (sQ (.cut [4, 5] (sQ (.block (sQ (.cond .none (sQ (.cond .none (.cut [19] (sQ (.cond .none (sQ (.cond .none (sQ (.cond .none .none)))))) (.cond .none (sQ (.cond .none .none)))))))))) (sQ (sQ (.cut [] (sQ (.block (.loop [6] (.seq (sQ (.cond .none .none)) (.seq (.block .none) .none))))) (.cut [] (sQ (.block (.loop [7] (.seq (sQ (.cond .none .none)) (.seq (.block .none) .none))))) (.cut [] (sQ (.block (.loop [8] (.seq (sQ (.cond .none .none)) (.seq (.block .none) .none))))) (sQ (.block (.loop [9] (.seq (sQ (.cond .none .none)) (.seq (.block .none) .none)))))))))))))
theorem h6B (x0 x1 : Value) (w : World) (R : RT) (E : Pan) : F49 x0 x1 w R E = callX Tryz.prog [] c49 h49 [x0, x1] w R E := by kernel_rfl
theorem h6C {x0 x1 : Value} (h : F49 x0 x1 w R E) : Cv Tryz.prog 49 #[x0, x1] w R E := by
 refine i8 (args := [x0, x1]) (c := c49) (h := h49) (rs := []) Tryz.func49 (by kernel_rfl) (by kernel_rfl) (nB (by kernel_rfl)) (by kernel_rfl) (by kernel_rfl) (by kernel_rfl) ?_
 rw [← h6B]
 exact h
def F50 (x0 : Value) (w : World) (R : RT) (E : Pan) : Prop :=
 oP E (xV (Instr.box 111 x0)) w fun q7 w_2 =>
 oP E (fA 111 q7 0) w_2 fun a0G w_4 =>
 oP E (lA 4 a0G) w_4 fun a5S w_6 =>
 oP E (xV (Op.unary .not a5S)) w_6 fun a9d w_8 =>
 xcond a9d
 (R (vI 30) w_8)
 (oP E (fA 111 q7 1) w_8 fun b1l o9 =>
 oP E (lA 4 b1l) o9 fun Y0 p8 =>
 oP E (xV (Op.unary .not Y0)) p8 fun b7w p6 =>
 xcond b7w
 (R (vI 31) p6)
 (R (vI 0) p6))
noncomputable def c50 : Code := Tryz.f50.body.getD .skip
def h50 : Hint := (sQ (.seq (sQ (.cond (sQ .none) .none)) (.seq (sQ (.cond (sQ .none) .none)) (sQ .none))))
theorem h6D (x0 : Value) (w : World) (R : RT) (E : Pan) : F50 x0 w R E = callX Tryz.prog [.tmp 2] c50 h50 [x0] w R E := by kernel_rfl
theorem h6E {x0 : Value} (h : F50 x0 w R E) : Cv Tryz.prog 50 #[x0] w R E := by
 refine i8 (args := [x0]) (c := c50) (h := h50) (rs := [.tmp 2]) Tryz.func50 (by kernel_rfl) (by kernel_rfl) (nB (by kernel_rfl)) (by kernel_rfl) (by kernel_rfl) (by kernel_rfl) ?_
 rw [← h6D]
 exact h
def d9v (x3 : Value) (w : World) (R : RT) (E : Pan) : Prop :=
 ∀ _τ : Fr, (oP E (xBin .leq 3 (.tmp 52) (.const (vI 32)) x3 (vI 32)) w fun h6F p6 =>
 R h6F p6)
def f1J (x0 x3 x4 : Value) (w : World) (next2 : NT) (j1 : NT) (R : RT) (E : Pan) : Prop :=
 oP E (xBuiltin .len #[9] 3 [false] [x0]) w fun d7s w5 =>
 oP E (xBin .lss 3 (.tmp 20) (.tmp 22) x4 d7s) w5 fun h6G t8 =>
 xcond h6G
 (oP E (xCall (fC 123) [x0, x4]) t8 fun c6f w9 =>
 oP E (eX c6f 0) w9 fun a7X v2 =>
 oP E (eX c6f 1) v2 fun h6H y8 =>
 oP E (eX c6f 2) y8 fun h6I B0 =>
 oP E (xCall (fC 124) [a7X]) B0 fun c5u C0 =>
 oP E (xV (Op.unary .not h6I)) C0 fun b1J C3 =>
 oP E (gsem (asB b1J) false (xBin .neq 3 (.tmp 36) (.const (vI 3)) (gval (asB b1J) false c5u) (vI 3))) C3 fun b9x A6 =>
 oP E (gsem (asB (gval (asB b1J) false b9x)) true (xBin .neq 3 (.tmp 39) (.const (vI 4)) (gval (asB (gval (asB b1J) false b9x)) true c5u) (vI 4))) A6 fun b1K J6 =>
 oP E (gsem (asB (gval (asB (gval (asB b1J) false b9x)) true b1K)) false (xBin .eql 3 (.tmp 42) (.const (vI 0)) (gval (asB (gval (asB (gval (asB b1J) false b9x)) true b1K)) false x3) (vI 0))) J6 fun c6g C2 =>
 oP E (gsem (asB (gval (asB b1J) false b9x)) true (xPick (gval (asB (gval (asB b1J) false b9x)) true b1K) (vB true) c6g)) C2 fun h6J J7 =>
 oP E (gsem (asB b1J) false (xPick (gval (asB b1J) false b9x) h6J (vB false))) J7 fun h6K C7 =>
 oP E (xPick b1J (vB true) h6K) C7 fun h6L D8 =>
 xcond h6L
 (R (vB false) D8)
 (oP E (xBin .add 3 (.tmp 47) (.const (vI 1)) x3 (vI 1)) D8 fun h6M G8 =>
 oP E (xBin .add 3 (.tmp 49) (.tmp 50) x4 h6H) G8 fun h6N L9 =>
 next2 [h6M, h6N] L9))
 (j1 [x3] t8)
def F86 (x0 : Value) (w : World) (R : RT) (E : Pan) : Prop :=
 oP E (xBin .eql 9 (.tmp 9) (.const (eS)) x0 (eS)) w fun c6S w_2 =>
 oP E (gsem (asB c6S) false (xBuiltin .len #[9] 3 [false] [(gval (asB c6S) false x0)])) w_2 fun c2I w_4 =>
 oP E (gsem (asB c6S) false (xBin .gtr 3 (.tmp 13) (.const (vI 128)) c2I (vI 128))) w_4 fun b6i w_6 =>
 oP E (xPick c6S (vB true) b6i) w_6 fun d1y w_8 =>
 oP E (gsem (asB d1y) false (xCall (fC 122) [(gval (asB d1y) false x0)])) w_8 fun i7y o9 =>
 oP E (xPick d1y (vB true) i7y) o9 fun c6h p8 =>
 xcond c6h
 (R (vB false) p8)
 (xcut (fun c5K q8 => d9v (nth c5K 0) q8 R E) fun j1 =>
 xloop [3, 4] [(vI 0), (vI 0)] p8 fun τ_49 M6 next2 =>
 f1J x0 (τ_49 3) (τ_49 4) M6 next2 j1 R E)
noncomputable def c86 : Code := Tryz.f86.body.getD .skip
def h86 : Hint := (sQ (.seq (sQ (.cond (sQ .none) .none)) (sQ (.cut [3] (sQ (.block (.loop [3, 4] (.seq (sQ (.cond .none .none)) (.block (sQ (sQ (.seq (sQ (.cond (sQ .none) .none)) (sQ .none))))))))) (sQ .none)))))
theorem h6O (x0 : Value) (w : World) (R : RT) (E : Pan) : F86 x0 w R E = callX Tryz.prog [.tmp 2] c86 h86 [x0] w R E := by kernel_rfl
theorem h6P {x0 : Value} (h : F86 x0 w R E) : Cv Tryz.prog 86 #[x0] w R E := by
 refine i8 (args := [x0]) (c := c86) (h := h86) (rs := [.tmp 2]) Tryz.func86 (by kernel_rfl) (by kernel_rfl) (nB (by kernel_rfl)) (by kernel_rfl) (by kernel_rfl) (by kernel_rfl) ?_
 rw [← h6O]
 exact h
def f1K (x0 x3 x8 : Value) (w : World) (next4 : NT) (R : RT) (E : Pan) : Prop :=
 oP E (fA 59 x3 3) w fun h6Q D8 =>
 oP E (lA 57 h6Q) D8 fun h6R G8 =>
 oP E (xBuiltin .len #[57] 3 [false] [h6R]) G8 fun h6S L9 =>
 oP E (xBin .lss 3 (.tmp 82) (.tmp 85) x8 h6S) L9 fun c6i M6 =>
 oP E (gsem (asB c6i) true (xNil (gval (asB c6i) true x0))) M6 fun h6T P3 =>
 oP E (gsem (asB c6i) true (fA 111 h6T 0)) P3 fun h6U N9 =>
 oP E (gsem (asB c6i) true (lA 4 h6U)) N9 fun h6V P4 =>
 oP E (xPick c6i h6V (vB false)) P4 fun h6W P0 =>
 xcond h6W
 (oP E (fA 59 x3 3) P0 fun h6X S4 =>
 oP E (lA 57 h6X) S4 fun h6Y T6 =>
 oP E (iA 57 h6Y x8) T6 fun h6Z Q3 =>
 oP E (lA 59 h6Z) Q3 fun g3k Z8 =>
 oP E (xCall (fC 87) [x0, g3k]) Z8 fun _t101_67 Z9 =>
 oP E (xBin .add 3 (.tmp 93) (.const (vI 1)) x8 (vI 1)) Z9 fun h7a W9 =>
 next4 [h7a] W9)
 (R (Value.tuple #[]) P0)
def d9w (x0 x3 : Value) (w : World) (R : RT) (E : Pan) : Prop :=
 ∀ _τ : Fr, (xloop [8] [(vI 0)] w fun τ_71 a0r next4 =>
 f1K x0 x3 (τ_71 8) a0r next4 R E)
def f1L (x0 x3 x7 : Value) (w : World) (next5 : NT) (j3 : NT) (_R : RT) (E : Pan) : Prop :=
 oP E (fA 59 x3 2) w fun h7b X6 =>
 oP E (lA 51 h7b) X6 fun h7c a2Z =>
 oP E (xBuiltin .len #[51] 3 [false] [h7c]) a2Z fun h7d a3b =>
 oP E (xBin .lss 3 (.tmp 62) (.tmp 65) x7 h7d) a3b fun c6j a2o =>
 oP E (gsem (asB c6j) true (xNil (gval (asB c6j) true x0))) a2o fun h7e a0s =>
 oP E (gsem (asB c6j) true (fA 111 h7e 0)) a0s fun h7f a2M =>
 oP E (gsem (asB c6j) true (lA 4 h7f)) a2M fun h7g a2p =>
 oP E (xPick c6j h7g (vB false)) a2p fun h7h a3d =>
 xcond h7h
 (oP E (fA 59 x3 2) a3d fun h7i a3E =>
 oP E (lA 51 h7i) a3E fun h7j a1U =>
 oP E (iA 51 h7j x7) a1U fun h7k a5T =>
 oP E (lA 53 h7k) a5T fun h7l a6F =>
 oP E (xCall (fC 88) [x0, h7l]) a6F fun _t81_99 a1w =>
 oP E (xBin .add 3 (.tmp 73) (.const (vI 1)) x7 (vI 1)) a1w fun g3l a2Y =>
 next5 [g3l] a2Y)
 (j3 [] a3d)
def d9x (x0 x3 x4 x5 x6 : Value) (w : World) (R : RT) (E : Pan) : Prop :=
 ∀ _τ : Fr, (oP E (xNil x0) w fun i7z o9 =>
 oP E (fA 111 i7z 0) o9 fun h7m p8 =>
 oP E (lA 4 h7m) p8 fun f1M p6 =>
 oP E (xPick f1M (gval (asB f1M) true x6) (vB false)) p6 fun c2d q8 =>
 oP E (gsem (asB c2d) true (fA 59 x3 2)) q8 fun h7n w5 =>
 oP E (gsem (asB c2d) true (lA 51 h7n)) w5 fun h7o t8 =>
 oP E (gsem (asB c2d) true (xBuiltin .len #[51] 3 [false] [h7o])) t8 fun d9y w9 =>
 oP E (gsem (asB c2d) true (xBin .eql 3 (.tmp 49) (.tmp 50) d9y (gval (asB c2d) true x4))) w9 fun h7p v2 =>
 oP E (xPick c2d h7p (vB false)) v2 fun c2e y8 =>
 oP E (gsem (asB c2e) true (fA 59 x3 3)) y8 fun h7q B0 =>
 oP E (gsem (asB c2e) true (lA 57 h7q)) B0 fun h7r C0 =>
 oP E (gsem (asB c2e) true (xBuiltin .len #[57] 3 [false] [h7r])) C0 fun h7s C3 =>
 oP E (gsem (asB c2e) true (xBin .eql 3 (.tmp 56) (.tmp 57) h7s (gval (asB c2e) true x5))) C3 fun h7t A6 =>
 oP E (xPick c2e h7t (vB false)) A6 fun h7u J6 =>
 oP E (xNil x0) J6 fun h7v C2 =>
 oP E (fA 111 h7v 0) C2 fun h7w J7 =>
 oP E (sA 4 h7w h7u) J7 fun _z_41 C7 =>
 xcut (fun _ a2L => d9w x0 x3 a2L R E) fun j3 =>
 xloop [7] [(vI 0)] C7 fun τ_103 a4K next5 =>
 f1L x0 x3 (τ_103 7) a4K next5 j3 R E)
def d9z (x0 x3 x4 x5 : Value) (w : World) (R : RT) (E : Pan) : Prop :=
 ∀ _τ : Fr, (oP E (fA 59 x3 1) w fun i7A w_4 =>
 oP E (lA 3 i7A) w_4 fun i7B w_6 =>
 oP E (xBin .eql 3 (.tmp 25) (.const (vI 0)) i7B (vI 0)) w_6 fun i7C w_8 =>
 xcut (fun e5Y a4L => d9x x0 x3 x4 x5 (nth e5Y 0) a4L R E) fun j2 =>
 oP E (fA 59 x3 0) w_8 fun g3m a4j =>
 oP E (lA 3 g3m) a4j fun g3n a7m =>
 oP E (xBin .eql 3 (.tmp 28) (.const (vI 3)) g3n (vI 3)) a7m fun g3o a9r =>
 xcond g3o
 (oP E (fA 59 x3 1) a9r fun g3p a7n =>
 oP E (lA 3 g3p) a7n fun g3q a9s =>
 oP E (xBin .geq 3 (.tmp 31) (.const (vI 1)) g3q (vI 1)) a9s fun c7n a8M =>
 oP E (gsem (asB c7n) true (fA 59 x3 1)) a8M fun g3r a8i =>
 oP E (gsem (asB c7n) true (lA 3 g3r)) a8i fun g3s a5w =>
 oP E (gsem (asB c7n) true (xBin .leq 3 (.tmp 35) (.const (vI 6)) g3s (vI 6))) a5w fun g3t a9p =>
 oP E (xPick c7n g3t (vB false)) a9p fun g3u a8L =>
 j2 [g3u] a8L)
 (j2 [i7C] a9r))
def d9A (x0 _x3 x4 x5 x21 : Value) (w : World) (j1 : NT) (_R : RT) (E : Pan) : Prop :=
 ∀ _τ : Fr, (xcond x21
 (j1 [x4, (vI 2)] w)
 (oP E (xNil x0) w fun g3v b0c =>
 oP E (fA 111 g3v 0) b0c fun g3w b1Z =>
 oP E (sA 4 g3w (vB false)) b1Z fun _z_141 b2a =>
 j1 [x4, x5] b2a))
def d9B (x0 x3 x4 x5 x10 x14 : Value) (w : World) (j1 : NT) (R : RT) (E : Pan) : Prop :=
 ∀ _τ : Fr, (xcond x14
 (j1 [x4, x5] w)
 (oP E (xBin .eql 3 (.tmp 10) (.const (vI 3)) x10 (vI 3)) w fun g3x a9t =>
 xcond g3x
 (j1 [(vI 2), x5] a9t)
 (oP E (xBin .eql 3 (.tmp 10) (.const (vI 4)) x10 (vI 4)) a9t fun g3y b0b =>
 xcond g3y
 (j1 [x4, (vI 1)] b0b)
 (xcut (fun i7D a9u => d9A x0 x3 x4 x5 (nth i7D 0) a9u j1 R E) fun j7 =>
 oP E (xBin .eql 3 (.tmp 10) (.const (vI 5)) x10 (vI 5)) b0b fun e2O a6s =>
 xcond e2O
 (j7 [e2O] a6s)
 (oP E (xBin .eql 3 (.tmp 10) (.const (vI 6)) x10 (vI 6)) a6s fun g3z a9q =>
 j7 [g3z] a9q)))))
def F87 (x0 x1 : Value) (w : World) (R : RT) (E : Pan) : Prop :=
 oP E (xV (Instr.box 59 x1)) w fun b3A w_2 =>
 xcut (fun e5Z b0a => d9z x0 b3A (nth e5Z 0) (nth e5Z.tail 0) b0a R E) fun j1 =>
 oP E (fA 59 b3A 0) w_2 fun h7x a7k =>
 oP E (lA 3 h7x) a7k fun d3H a7l =>
 xcut (fun d4L b4e => d9B x0 b3A (vI 0) (vI 0) d3H (nth d4L 0) b4e j1 R E) fun j6 =>
 oP E (xBin .eql 3 (.tmp 10) (.const (vI 1)) d3H (vI 1)) a7l fun e2P b2S =>
 xcond e2P
 (j6 [e2P] b2S)
 (oP E (xBin .eql 3 (.tmp 10) (.const (vI 2)) d3H (vI 2)) b2S fun g3A c2T =>
 j6 [g3A] c2T)
noncomputable def c87 : Code := Tryz.f87.body.getD .skip
def h87 : Hint := (sQ (sQ (.cut [4, 5] (sQ (.block (.cut [14] (sQ (.cond .none .none)) (.cond .none (sQ (.cond .none (sQ (.cond .none (.cut [21] (sQ (.cond .none .none)) (.cond .none .none)))))))))) (sQ (.cut [6] (sQ (.cond .none .none)) (sQ (.cut [] (sQ (.block (.loop [7] (.seq (sQ (.cond .none .none)) (.seq (.block .none) .none))))) (sQ (.block (.loop [8] (.seq (sQ (.cond .none .none)) (.seq (.block .none) .none))))))))))))
theorem h7y (x0 x1 : Value) (w : World) (R : RT) (E : Pan) : F87 x0 x1 w R E = callX Tryz.prog [] c87 h87 [x0, x1] w R E := by kernel_rfl
theorem h7z {x0 x1 : Value} (h : F87 x0 x1 w R E) : Cv Tryz.prog 87 #[x0, x1] w R E := by
 refine i8 (args := [x0, x1]) (c := c87) (h := h87) (rs := []) Tryz.func87 (by kernel_rfl) (by kernel_rfl) (nB (by kernel_rfl)) (by kernel_rfl) (by kernel_rfl) (by kernel_rfl) ?_
 rw [← h7y]
 exact h
def f1N (x0 x3 x5 : Value) (w : World) (next2 : NT) (R : RT) (E : Pan) : Prop :=
 oP E (fA 53 x3 3) w fun d9C W9 =>
 oP E (lA 51 d9C) W9 fun d1z a0r =>
 oP E (xBuiltin .len #[51] 3 [false] [d1z]) a0r fun d9D a2L =>
 oP E (xBin .lss 3 (.tmp 65) (.tmp 68) x5 d9D) a2L fun b4j X6 =>
 oP E (gsem (asB b4j) true (xNil (gval (asB b4j) true x0))) X6 fun d6D a2Z =>
 oP E (gsem (asB b4j) true (fA 111 d6D 0)) a2Z fun d9E a3b =>
 oP E (gsem (asB b4j) true (lA 4 d9E)) a3b fun d9F a2o =>
 oP E (xPick b4j d9F (vB false)) a2o fun d9G a0s =>
 xcond d9G
 (oP E (fA 53 x3 3) a0s fun h7A a2M =>
 oP E (lA 51 h7A) a2M fun h7B a2p =>
 oP E (iA 51 h7B x5) a2p fun d9s a3d =>
 oP E (lA 53 d9s) a3d fun d9t a3E =>
 oP E (xCall (fC 88) [x0, d9t]) a3E fun _t84_93 a1U =>
 oP E (xBin .add 3 (.tmp 76) (.const (vI 1)) x5 (vI 1)) a1U fun h7C a5T =>
 next2 [h7C] a5T)
 (R (Value.tuple #[]) a0s)
def d9H (x0 x3 x4 : Value) (w : World) (R : RT) (E : Pan) : Prop :=
 ∀ _τ : Fr, (oP E (fA 53 x3 2) w fun i7E w_4 =>
 oP E (lA 9 i7E) w_4 fun e3R w_6 =>
 oP E (fA 53 x3 0) w_6 fun i7F w_8 =>
 oP E (lA 3 i7F) w_8 fun i7G o9 =>
 oP E (xBin .eql 3 (.tmp 28) (.const (vI 2)) i7G (vI 2)) o9 fun d1A p8 =>
 oP E (gsem (asB d1A) false (fA 53 x3 0)) p8 fun h7D p6 =>
 oP E (gsem (asB d1A) false (lA 3 h7D)) p6 fun h7E q8 =>
 oP E (gsem (asB d1A) false (xBin .eql 3 (.tmp 32) (.const (vI 4)) h7E (vI 4))) q8 fun c6k w5 =>
 oP E (xPick d1A (vB true) c6k) w5 fun d9I t8 =>
 oP E (xCall (fC 48) [x0, e3R, d9I]) t8 fun _t35_21 w9 =>
 oP E (xNil x0) w9 fun h7F v2 =>
 oP E (fA 111 h7F 0) v2 fun h7G y8 =>
 oP E (lA 4 h7G) y8 fun c2f B0 =>
 oP E (gsem (asB c2f) true (fA 53 x3 3)) B0 fun h7H C0 =>
 oP E (gsem (asB c2f) true (lA 51 h7H)) C0 fun d9J C3 =>
 oP E (gsem (asB c2f) true (xBuiltin .len #[51] 3 [false] [d9J])) C3 fun d9K A6 =>
 oP E (gsem (asB c2f) true (xBin .eql 3 (.tmp 44) (.tmp 45) d9K (gval (asB c2f) true x4))) A6 fun h7I J6 =>
 oP E (xPick c2f h7I (vB false)) J6 fun a8T C2 =>
 oP E (gsem (asB a8T) true (fA 53 x3 1)) C2 fun h7J J7 =>
 oP E (gsem (asB a8T) true (lA 2 h7J)) J7 fun h7K C7 =>
 oP E (gsem (asB a8T) true (xBin .eql 2 (.tmp 50) (.const (vI 0)) h7K (vI 0))) C7 fun b4L D8 =>
 oP E (gsem (asB (gval (asB a8T) true b4L)) false (fA 53 x3 0)) D8 fun h7L G8 =>
 oP E (gsem (asB (gval (asB a8T) true b4L)) false (lA 3 h7L)) G8 fun h7M L9 =>
 oP E (gsem (asB (gval (asB a8T) true b4L)) false (xBin .eql 3 (.tmp 54) (.const (vI 1)) h7M (vI 1))) L9 fun d1B M6 =>
 oP E (gsem (asB (gval (asB (gval (asB a8T) true b4L)) false d1B)) true (fA 53 x3 1)) M6 fun h7N P3 =>
 oP E (gsem (asB (gval (asB (gval (asB a8T) true b4L)) false d1B)) true (lA 2 h7N)) P3 fun h7O N9 =>
 oP E (gsem (asB (gval (asB (gval (asB a8T) true b4L)) false d1B)) true (xBin .gtr 2 (.tmp 58) (.const (vI 0)) h7O (vI 0))) N9 fun h7P P4 =>
 oP E (gsem (asB (gval (asB a8T) true b4L)) false (xPick (gval (asB (gval (asB a8T) true b4L)) false d1B) h7P (vB false))) P4 fun d9j P0 =>
 oP E (gsem (asB a8T) true (xPick (gval (asB a8T) true b4L) (vB true) d9j)) P0 fun h7Q S4 =>
 oP E (xPick a8T h7Q (vB false)) S4 fun h7R T6 =>
 oP E (xNil x0) T6 fun d9L Q3 =>
 oP E (fA 111 d9L 0) Q3 fun d9M Z8 =>
 oP E (sA 4 d9M h7R) Z8 fun _z_67 Z9 =>
 xloop [5] [(vI 0)] Z9 fun τ_97 a6F next2 =>
 f1N x0 x3 (τ_97 5) a6F next2 R E)
def d9N (x0 _x3 x4 x18 : Value) (w : World) (j1 : NT) (_R : RT) (E : Pan) : Prop :=
 ∀ _τ : Fr, (xcond x18
 (j1 [(vI 2)] w)
 (oP E (xNil x0) w fun h7S a4L =>
 oP E (fA 111 h7S 0) a4L fun g3B a4j =>
 oP E (sA 4 g3B (vB false)) a4j fun _z_109 a7m =>
 j1 [x4] a7m))
def d9O (x0 x3 x4 x7 x15 : Value) (w : World) (j1 : NT) (R : RT) (E : Pan) : Prop :=
 ∀ _τ : Fr, (xcond x15
 (j1 [(vI 1)] w)
 (xcut (fun d1e a9r => d9N x0 x3 x4 (nth d1e 0) a9r j1 R E) fun j5 =>
 oP E (xBin .eql 3 (.tmp 7) (.const (vI 6)) x7 (vI 6)) w fun e2Q a7n =>
 xcond e2Q
 (j5 [e2Q] a7n)
 (oP E (xBin .eql 3 (.tmp 7) (.const (vI 7)) x7 (vI 7)) a7n fun e2R a9s =>
 xcond e2R
 (j5 [e2R] a9s)
 (oP E (xBin .eql 3 (.tmp 7) (.const (vI 8)) x7 (vI 8)) a9s fun e2S a8M =>
 xcond e2S
 (j5 [e2S] a8M)
 (oP E (xBin .eql 3 (.tmp 7) (.const (vI 9)) x7 (vI 9)) a8M fun e2T a8i =>
 xcond e2T
 (j5 [e2T] a8i)
 (oP E (xBin .eql 3 (.tmp 7) (.const (vI 10)) x7 (vI 10)) a8i fun g3C a5w =>
 j5 [g3C] a5w))))))
def d9P (x0 x3 x4 x7 x11 : Value) (w : World) (j1 : NT) (R : RT) (E : Pan) : Prop :=
 ∀ _τ : Fr, (xcond x11
 (j1 [x4] w)
 (xcut (fun i7H a9p => d9O x0 x3 x4 x7 (nth i7H 0) a9p j1 R E) fun j4 =>
 oP E (xBin .eql 3 (.tmp 7) (.const (vI 4)) x7 (vI 4)) w fun e2U a8L =>
 xcond e2U
 (j4 [e2U] a8L)
 (oP E (xBin .eql 3 (.tmp 7) (.const (vI 5)) x7 (vI 5)) a8L fun g3D b0a =>
 j4 [g3D] b0a)))
def F88 (x0 x1 : Value) (w : World) (R : RT) (E : Pan) : Prop :=
 oP E (xV (Instr.box 53 x1)) w fun b3A w_2 =>
 xcut (fun d7I a1w => d9H x0 b3A (nth d7I 0) a1w R E) fun j1 =>
 oP E (fA 53 b3A 0) w_2 fun h7T a2Y =>
 oP E (lA 3 h7T) a2Y fun d1C a4K =>
 xcut (fun i7I a7k => d9P x0 b3A (vI 0) d1C (nth i7I 0) a7k j1 R E) fun j3 =>
 oP E (xBin .eql 3 (.tmp 7) (.const (vI 1)) d1C (vI 1)) a4K fun e2V a7l =>
 xcond e2V
 (j3 [e2V] a7l)
 (oP E (xBin .eql 3 (.tmp 7) (.const (vI 2)) d1C (vI 2)) a7l fun e2W a9t =>
 xcond e2W
 (j3 [e2W] a9t)
 (oP E (xBin .eql 3 (.tmp 7) (.const (vI 3)) d1C (vI 3)) a9t fun g3E b0b =>
 j3 [g3E] b0b))
noncomputable def c88 : Code := Tryz.f88.body.getD .skip
def h88 : Hint := (sQ (sQ (.cut [4] (sQ (.block (.cut [11] (sQ (.cond .none (sQ (.cond .none .none)))) (.cond .none (.cut [15] (sQ (.cond .none .none)) (.cond .none (.cut [18] (sQ (.cond .none (sQ (.cond .none (sQ (.cond .none (sQ (.cond .none .none)))))))) (.cond .none .none)))))))) (sQ (sQ (sQ (.block (.loop [5] (.seq (sQ (.cond .none .none)) (.seq (.block .none) .none))))))))))
theorem h7U (x0 x1 : Value) (w : World) (R : RT) (E : Pan) : F88 x0 x1 w R E = callX Tryz.prog [] c88 h88 [x0, x1] w R E := by kernel_rfl
theorem h7V {x0 x1 : Value} (h : F88 x0 x1 w R E) : Cv Tryz.prog 88 #[x0, x1] w R E := by
 refine i8 (args := [x0, x1]) (c := c88) (h := h88) (rs := []) Tryz.func88 (by kernel_rfl) (by kernel_rfl) (nB (by kernel_rfl)) (by kernel_rfl) (by kernel_rfl) (by kernel_rfl) ?_
 rw [← h7U]
 exact h
def d3I (x4 : Value) (w : World) (R : RT) (_E : Pan) : Prop :=
 ∀ _τ : Fr, (xcond x4
 (R (vB true) w)
 (R (vB false) w))
def e6a (x0 : Value) (w : World) (R : RT) (E : Pan) : Prop :=
 xcut (fun l_1 w_2 => d3I (nth l_1 0) w_2 R E) fun j1 =>
 oP E (xBin .eql 9 (.tmp 3) (.const (Value.string ⟨#[118, 97, 114]⟩)) x0 (Value.string ⟨#[118, 97, 114]⟩)) w fun b8B w_4 =>
 xcond b8B
 (j1 [b8B] w_4)
 (oP E (xBin .eql 9 (.tmp 3) (.const (Value.string ⟨#[97, 114, 114, 97, 121]⟩)) x0 (Value.string ⟨#[97, 114, 114, 97, 121]⟩)) w_4 fun a7U w_6 =>
 xcond a7U
 (j1 [a7U] w_6)
 (oP E (xBin .eql 9 (.tmp 3) (.const (Value.string ⟨#[105, 102]⟩)) x0 (Value.string ⟨#[105, 102]⟩)) w_6 fun a9Z w_8 =>
 xcond a9Z
 (j1 [a9Z] w_8)
 (oP E (xBin .eql 9 (.tmp 3) (.const (Value.string ⟨#[101, 108, 115, 101]⟩)) x0 (Value.string ⟨#[101, 108, 115, 101]⟩)) w_8 fun a5s o9 =>
 xcond a5s
 (j1 [a5s] o9)
 (oP E (xBin .eql 9 (.tmp 3) (.const (Value.string ⟨#[119, 104, 105, 108, 101]⟩)) x0 (Value.string ⟨#[119, 104, 105, 108, 101]⟩)) o9 fun a4M p8 =>
 xcond a4M
 (j1 [a4M] p8)
 (oP E (xBin .eql 9 (.tmp 3) (.const (Value.string ⟨#[97, 115, 115, 101, 114, 116]⟩)) x0 (Value.string ⟨#[97, 115, 115, 101, 114, 116]⟩)) p8 fun a7g p6 =>
 xcond a7g
 (j1 [a7g] p6)
 (oP E (xBin .eql 9 (.tmp 3) (.const (Value.string ⟨#[97, 115, 115, 117, 109, 101]⟩)) x0 (Value.string ⟨#[97, 115, 115, 117, 109, 101]⟩)) p6 fun b8C q8 =>
 xcond b8C
 (j1 [b8C] q8)
 (oP E (xBin .eql 9 (.tmp 3) (.const (Value.string ⟨#[115, 107, 105, 112]⟩)) x0 (Value.string ⟨#[115, 107, 105, 112]⟩)) q8 fun b8D w5 =>
 xcond b8D
 (j1 [b8D] w5)
 (oP E (xBin .eql 9 (.tmp 3) (.const (Value.string ⟨#[105, 110, 112, 117, 116]⟩)) x0 (Value.string ⟨#[105, 110, 112, 117, 116]⟩)) w5 fun b8E t8 =>
 xcond b8E
 (j1 [b8E] t8)
 (oP E (xBin .eql 9 (.tmp 3) (.const (Value.string ⟨#[116, 114, 117, 101]⟩)) x0 (Value.string ⟨#[116, 114, 117, 101]⟩)) t8 fun b8F w9 =>
 xcond b8F
 (j1 [b8F] w9)
 (oP E (xBin .eql 9 (.tmp 3) (.const (Value.string ⟨#[102, 97, 108, 115, 101]⟩)) x0 (Value.string ⟨#[102, 97, 108, 115, 101]⟩)) w9 fun d7A v2 =>
 j1 [d7A] v2))))))))))
noncomputable def h7W : Code := Tryz.f122.body.getD .skip
def h7X : Hint := (sQ (.seq (sQ (.block (.cut [4] (sQ (.cond .none (sQ (.cond .none (sQ (.cond .none (sQ (.cond .none (sQ (.cond .none (sQ (.cond .none (sQ (.cond .none (sQ (.cond .none (sQ (.cond .none (sQ (.cond .none .none)))))))))))))))))))) (.cond (sQ .none) .none)))) (sQ .none)))
theorem g3F (x0 : Value) (w : World) (R : RT) (E : Pan) : e6a x0 w R E = callX Tryz.prog [.tmp 2] h7W h7X [x0] w R E := by kernel_rfl
theorem g3G {x0 : Value} (h : e6a x0 w R E) : Cv Tryz.prog 122 #[x0] w R E := by
 refine i8 (args := [x0]) (c := h7W) (h := h7X) (rs := [.tmp 2]) Tryz.func122 (by kernel_rfl) (by kernel_rfl) (nB (by kernel_rfl)) (by kernel_rfl) (by kernel_rfl) (by kernel_rfl) ?_
 rw [← g3F]
 exact h
def d3J (x8 x9 x10 : Value) (w : World) (R : RT) (E : Pan) : Prop :=
 ∀ _τ : Fr, (oP E (xBin .lss 3 (.tmp 84) (.tmp 85) x10 x9) w fun e6b w_6 =>
 oP E (gsem (asB e6b) false (xBin .gtr 3 (.tmp 88) (.const (vI 1114111)) (gval (asB e6b) false x10) (vI 1114111))) w_6 fun i7J w_8 =>
 oP E (xPick e6b (vB true) i7J) w_8 fun c3U o9 =>
 oP E (gsem (asB c3U) false (xBin .geq 3 (.tmp 92) (.const (vI 55296)) (gval (asB c3U) false x10) (vI 55296))) o9 fun d9Q p8 =>
 oP E (gsem (asB (gval (asB c3U) false d9Q)) true (xBin .lss 3 (.tmp 95) (.const (vI 57344)) (gval (asB (gval (asB c3U) false d9Q)) true x10) (vI 57344))) p8 fun h7Y p6 =>
 oP E (gsem (asB c3U) false (xPick (gval (asB c3U) false d9Q) h7Y (vB false))) p6 fun h7Z q8 =>
 oP E (xPick c3U (vB true) h7Z) q8 fun h8a w5 =>
 xcond h8a
 (R (Value.tuple #[(vI 65533), (vI 1), (vB false)]) w5)
 (R (Value.tuple #[x10, x8, (vB true)]) w5))
def e2X (x0 x1 x8 _x9 x10 x11 : Value) (w : World) (next3 : NT) (j2 : NT) (R : RT) (E : Pan) : Prop :=
 oP E (xBin .lss 3 (.tmp 47) (.tmp 48) x11 x8) w fun d9y w9 =>
 xcond d9y
 (oP E (xBin .add 3 (.tmp 52) (.tmp 53) x1 x11) w9 fun h8b v2 =>
 oP E (xBuiltin .len #[9] 3 [false] [x0]) v2 fun h8c y8 =>
 oP E (xBin .geq 3 (.tmp 54) (.tmp 56) h8b h8c) y8 fun b9y B0 =>
 oP E (gsem (asB b9y) false (xBin .add 3 (.tmp 60) (.tmp 61) (gval (asB b9y) false x1) (gval (asB b9y) false x11))) B0 fun h8d C0 =>
 oP E (gsem (asB b9y) false (xV (Instr.index 9 (gval (asB b9y) false x0) h8d))) C0 fun h8e C3 =>
 oP E (gsem (asB b9y) false (xBin .lss 5 (.tmp 63) (.const (Value.int .u8 128)) h8e (Value.int .u8 128))) C3 fun h8f A6 =>
 oP E (xPick b9y (vB true) h8f) A6 fun b9z J6 =>
 oP E (gsem (asB b9z) false (xBin .add 3 (.tmp 68) (.tmp 69) (gval (asB b9z) false x1) (gval (asB b9z) false x11))) J6 fun h8g C2 =>
 oP E (gsem (asB b9z) false (xV (Instr.index 9 (gval (asB b9z) false x0) h8g))) C2 fun h8h J7 =>
 oP E (gsem (asB b9z) false (xBin .geq 5 (.tmp 71) (.const (Value.int .u8 192)) h8h (Value.int .u8 192))) J7 fun h8i C7 =>
 oP E (xPick b9z (vB true) h8i) C7 fun h8j D8 =>
 xcond h8j
 (R (Value.tuple #[(vI 65533), (vI 1), (vB false)]) D8)
 (oP E (xBin .mul 3 (.const (vI 64)) (.tmp 74) (vI 64) x10) D8 fun h8k G8 =>
 oP E (xBin .add 3 (.tmp 77) (.tmp 78) x1 x11) G8 fun h8l L9 =>
 oP E (xV (Instr.index 9 x0 h8l)) L9 fun h8m M6 =>
 oP E (xV (convert 5 3 h8m)) M6 fun h8n P3 =>
 oP E (xBin .add 3 (.tmp 75) (.tmp 81) h8k h8n) P3 fun h8o N9 =>
 oP E (xBin .sub 3 (.tmp 82) (.const (vI 128)) h8o (vI 128)) N9 fun h8p P4 =>
 oP E (xBin .add 3 (.tmp 50) (.const (vI 1)) x11 (vI 1)) P4 fun h8q P0 =>
 next3 [h8p, h8q] P0))
 (j2 [x10] w9)
def d3K (x0 x1 x8 x9 x10 : Value) (w : World) (R : RT) (E : Pan) : Prop :=
 ∀ _τ : Fr, (xcut (fun a8s t8 => d3J x8 x9 (nth a8s 0) t8 R E) fun j2 =>
 xloop [10, 11] [x10, (vI 1)] w fun τ_59 S4 next3 =>
 e2X x0 x1 x8 x9 (τ_59 10) (τ_59 11) S4 next3 j2 R E)
def e6c (x0 x1 : Value) (w : World) (R : RT) (E : Pan) : Prop :=
 oP E (xV (Instr.index 9 x0 x1)) w fun i7K w_2 =>
 oP E (xV (convert 5 3 i7K)) w_2 fun b4M w_4 =>
 xcut (fun f6h T6 => d3K x0 x1 (nth f6h 0) (nth f6h.tail 0) (nth f6h.tail.tail 0) T6 R E) fun j1 =>
 oP E (xBin .lss 3 (.tmp 17) (.const (vI 128)) b4M (vI 128)) w_4 fun h8r Q3 =>
 xcond h8r
 (R (Value.tuple #[b4M, (vI 1), (vB true)]) Q3)
 (oP E (xBin .geq 3 (.tmp 21) (.const (vI 194)) b4M (vI 194)) Q3 fun d9R Z8 =>
 oP E (gsem (asB d9R) true (xBin .lss 3 (.tmp 24) (.const (vI 224)) (gval (asB d9R) true b4M) (vI 224))) Z8 fun h8s Z9 =>
 oP E (xPick d9R h8s (vB false)) Z9 fun h8t W9 =>
 xcond h8t
 (oP E (xBin .sub 3 (.tmp 27) (.const (vI 192)) b4M (vI 192)) W9 fun h8u a0r =>
 j1 [(vI 2), (vI 128), h8u] a0r)
 (oP E (xBin .geq 3 (.tmp 30) (.const (vI 224)) b4M (vI 224)) W9 fun d9S a2L =>
 oP E (gsem (asB d9S) true (xBin .lss 3 (.tmp 33) (.const (vI 240)) (gval (asB d9S) true b4M) (vI 240))) a2L fun c6l X6 =>
 oP E (xPick d9S c6l (vB false)) X6 fun h8v a2Z =>
 xcond h8v
 (oP E (xBin .sub 3 (.tmp 36) (.const (vI 224)) b4M (vI 224)) a2Z fun h8w a3b =>
 j1 [(vI 3), (vI 2048), h8w] a3b)
 (oP E (xBin .geq 3 (.tmp 39) (.const (vI 240)) b4M (vI 240)) a2Z fun d9T a2o =>
 oP E (gsem (asB d9T) true (xBin .lss 3 (.tmp 42) (.const (vI 245)) (gval (asB d9T) true b4M) (vI 245))) a2o fun h8x a0s =>
 oP E (xPick d9T h8x (vB false)) a0s fun h8y a2M =>
 xcond h8y
 (oP E (xBin .sub 3 (.tmp 45) (.const (vI 240)) b4M (vI 240)) a2M fun h8z a2p =>
 j1 [(vI 4), (vI 65536), h8z] a2p)
 (R (Value.tuple #[(vI 65533), (vI 1), (vB false)]) a2M))))
noncomputable def h8A : Code := Tryz.f123.body.getD .skip
def h8B : Hint := (sQ (sQ (sQ (.cut [8, 9, 10] (.block (sQ (.cond (sQ .none) (sQ (.cond .none (sQ (.cond .none (sQ (.cond .none (sQ .none)))))))))) (.cut [10] (sQ (.block (.loop [10, 11] (.seq (sQ (.cond .none .none)) (.seq (.block (.seq (sQ (.cond (sQ .none) .none)) .none)) .none))))) (.seq (sQ (.cond (sQ .none) .none)) (sQ .none)))))))
theorem g3H (x0 x1 : Value) (w : World) (R : RT) (E : Pan) : e6c x0 x1 w R E = callX Tryz.prog [.tmp 4, .tmp 5, .tmp 6] h8A h8B [x0, x1] w R E := by kernel_rfl
theorem g3I {x0 x1 : Value} (h : e6c x0 x1 w R E) : Cv Tryz.prog 123 #[x0, x1] w R E := by
 refine i8 (args := [x0, x1]) (c := h8A) (h := h8B) (rs := [.tmp 4, .tmp 5, .tmp 6]) Tryz.func123 (by kernel_rfl) (by kernel_rfl) (nB (by kernel_rfl)) (by kernel_rfl) (by kernel_rfl) (by kernel_rfl) ?_
 rw [← g3H]
 exact h
def d3L (w : World) (R : RT) (_E : Pan) : Prop :=
 ∀ _τ : Fr, (R (vI 6) w)
def e2Y (x0 x3 x4 : Value) (w : World) (next2 : NT) (j1 : NT) (R : RT) (E : Pan) : Prop :=
 oP E (xBuiltin .len #[9] 3 [false] [x3]) w fun d9U P3 =>
 oP E (xBin .lss 3 (.tmp 53) (.tmp 55) x4 d9U) P3 fun d9V N9 =>
 xcond d9V
 (oP E (xV (Instr.index 9 x3 x4)) N9 fun h8C P4 =>
 oP E (xV (convert 5 3 h8C)) P4 fun d9q P0 =>
 oP E (xBin .eql 3 (.tmp 59) (.tmp 63) x0 d9q) P0 fun d9r S4 =>
 xcond d9r
 (R (vI 5) S4)
 (oP E (xBin .add 3 (.tmp 57) (.const (vI 1)) x4 (vI 1)) S4 fun h8D T6 =>
 next2 [h8D] T6))
 (j1 [] N9)
def e6d (x0 : Value) (w : World) (R : RT) (E : Pan) : Prop :=
 oP E (xBin .eql 3 (.tmp 5) (.const (vI 32)) x0 (vI 32)) w fun b4l w_2 =>
 oP E (gsem (asB b4l) false (xBin .eql 3 (.tmp 8) (.const (vI 9)) (gval (asB b4l) false x0) (vI 9))) w_2 fun a4S w_4 =>
 oP E (xPick b4l (vB true) a4S) w_4 fun a4k w_6 =>
 oP E (gsem (asB a4k) false (xBin .eql 3 (.tmp 12) (.const (vI 13)) (gval (asB a4k) false x0) (vI 13))) w_6 fun b4m w_8 =>
 oP E (xPick a4k (vB true) b4m) w_8 fun a9v o9 =>
 xcond a9v
 (R (vI 1) o9)
 (oP E (xBin .eql 3 (.tmp 15) (.const (vI 10)) x0 (vI 10)) o9 fun a7Y p8 =>
 xcond a7Y
 (R (vI 2) p8)
 (oP E (xCall (fC 156) [x0, (vI 48), (vI 57)]) p8 fun b8z p6 =>
 xcond b8z
 (R (vI 4) p6)
 (oP E (xCall (fC 156) [x0, (vI 97), (vI 122)]) p6 fun c5l q8 =>
 oP E (gsem (asB c5l) false (xCall (fC 156) [(gval (asB c5l) false x0), (vI 65), (vI 90)])) q8 fun h8E w5 =>
 oP E (xPick c5l (vB true) h8E) w5 fun c5m t8 =>
 oP E (gsem (asB c5m) false (xBin .eql 3 (.tmp 26) (.const (vI 95)) (gval (asB c5m) false x0) (vI 95))) t8 fun c6f w9 =>
 oP E (xPick c5m (vB true) c6f) w9 fun a7X v2 =>
 oP E (gsem (asB a7X) false (xCall (fC 156) [(gval (asB a7X) false x0), (vI 192), (vI 591)])) v2 fun c6m y8 =>
 oP E (gsem (asB (gval (asB a7X) false c6m)) true (xBin .neq 3 (.tmp 33) (.const (vI 215)) (gval (asB (gval (asB a7X) false c6m)) true x0) (vI 215))) y8 fun h8F B0 =>
 oP E (gsem (asB a7X) false (xPick (gval (asB a7X) false c6m) h8F (vB false))) B0 fun d9W C0 =>
 oP E (gsem (asB (gval (asB a7X) false d9W)) true (xBin .neq 3 (.tmp 37) (.const (vI 247)) (gval (asB (gval (asB a7X) false d9W)) true x0) (vI 247))) C0 fun h8G C3 =>
 oP E (gsem (asB a7X) false (xPick (gval (asB a7X) false d9W) h8G (vB false))) C3 fun h8H A6 =>
 oP E (xPick a7X (vB true) h8H) A6 fun b1K J6 =>
 oP E (gsem (asB b1K) false (xCall (fC 156) [(gval (asB b1K) false x0), (vI 913), (vI 969)])) J6 fun c6g C2 =>
 oP E (gsem (asB (gval (asB b1K) false c6g)) true (xBin .neq 3 (.tmp 45) (.const (vI 930)) (gval (asB (gval (asB b1K) false c6g)) true x0) (vI 930))) C2 fun h8I J7 =>
 oP E (gsem (asB b1K) false (xPick (gval (asB b1K) false c6g) h8I (vB false))) J7 fun h8J C7 =>
 oP E (xPick b1K (vB true) h8J) C7 fun d9X D8 =>
 oP E (gsem (asB d9X) false (xCall (fC 156) [(gval (asB d9X) false x0), (vI 1040), (vI 1103)])) D8 fun d9Y G8 =>
 oP E (xPick d9X (vB true) d9Y) G8 fun h8K L9 =>
 xcond h8K
 (R (vI 3) L9)
 (xcut (fun _ M6 => d3L M6 R E) fun j1 =>
 xloop [4] [(vI 0)] L9 fun τ_63 Q3 next2 =>
 e2Y x0 (Value.string ⟨#[59, 44, 123, 125, 40, 41, 91, 93, 61, 33, 60, 62, 43, 45, 42, 47, 37, 38, 124]⟩) (τ_63 4) Q3 next2 j1 R E))))
noncomputable def h8L : Code := Tryz.f124.body.getD .skip
def h8M : Hint := (sQ (.seq (sQ (.cond (sQ .none) .none)) (.seq (sQ (.cond (sQ .none) .none)) (.seq (sQ (.cond (sQ .none) .none)) (.seq (sQ (.cond (sQ .none) .none)) (sQ (.cut [] (sQ (.block (.loop [4] (.seq (sQ (.cond .none .none)) (.seq (.block (sQ (.cond (sQ .none) .none))) .none))))) (sQ .none))))))))
theorem g3J (x0 : Value) (w : World) (R : RT) (E : Pan) : e6d x0 w R E = callX Tryz.prog [.tmp 2] h8L h8M [x0] w R E := by kernel_rfl
theorem g3K {x0 : Value} (h : e6d x0 w R E) : Cv Tryz.prog 124 #[x0] w R E := by
 refine i8 (args := [x0]) (c := h8L) (h := h8M) (rs := [.tmp 2]) Tryz.func124 (by kernel_rfl) (by kernel_rfl) (nB (by kernel_rfl)) (by kernel_rfl) (by kernel_rfl) (by kernel_rfl) ?_
 rw [← g3J]
 exact h
def e6e (x0 x1 x2 : Value) (w : World) (R : RT) (E : Pan) : Prop :=
 oP E (xBin .geq 3 (.tmp 7) (.tmp 8) x0 x1) w fun b2F w_2 =>
 oP E (gsem (asB b2F) true (xBin .leq 3 (.tmp 11) (.tmp 12) (gval (asB b2F) true x0) (gval (asB b2F) true x2))) w_2 fun c2I w_4 =>
 oP E (xPick b2F c2I (vB false)) w_4 fun b6i w_6 =>
 R b6i w_6
noncomputable def h8N : Code := Tryz.f156.body.getD .skip
def h8O : Hint := (sQ (sQ .none))
theorem g3L (x0 x1 x2 : Value) (w : World) (R : RT) (E : Pan) : e6e x0 x1 x2 w R E = callX Tryz.prog [.tmp 6] h8N h8O [x0, x1, x2] w R E := by kernel_rfl
theorem g3M {x0 x1 x2 : Value} (h : e6e x0 x1 x2 w R E) : Cv Tryz.prog 156 #[x0, x1, x2] w R E := by
 refine i8 (args := [x0, x1, x2]) (c := h8N) (h := h8O) (rs := [.tmp 6]) Tryz.func156 (by kernel_rfl) (by kernel_rfl) (nB (by kernel_rfl)) (by kernel_rfl) (by kernel_rfl) (by kernel_rfl) ?_
 rw [← g3L]
 exact h
end Go.Proofs.YtnhkdkcgdcgmdaaGreatDoor
