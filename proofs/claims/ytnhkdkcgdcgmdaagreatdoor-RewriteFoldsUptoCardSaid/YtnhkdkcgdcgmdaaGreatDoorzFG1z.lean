/- The second reading of some of the program's functions, printed by gen2.py off the code; each is held against the code by the kernel. -/
import Derived.Test.YtnhkdkcgdcgmdaaGreatDoorProg
import Derived.Test.YtnhkdkcgdcgmdaaGreatDoorzFK0
import Derived.KernelRfl
import Derived.Test.YtnhkdkcgdcgmdaaGreatDoorzFGz
namespace Go.Proofs.YtnhkdkcgdcgmdaaGreatDoor
open Go.RowKit
set_option maxRecDepth 100000
variable {w : World} {R : RT} {E : Pan}
def e2U (x4 : Value) (w : World) (R : RT) (E : Pan) : Prop :=
 ∀ _τ : Fr, (oP E (lA 111 x4) w fun i3E B3 =>
 oP E (xCall (fC 50) [i3E]) B3 fun i3F C4 =>
 R i3F C4)
def f7f (x1 x4 x6 : Value) (w : World) (next3 : NT) (j2 : NT) (_R : RT) (E : Pan) : Prop :=
 oP E (fA 25 x1 1) w fun i3G A6 =>
 oP E (lA 23 i3G) A6 fun i3H I7 =>
 oP E (xBuiltin .len #[23] 3 [false] [i3H]) I7 fun i3I C7 =>
 oP E (xBin .lss 3 (.tmp 50) (.tmp 53) x6 i3I) C7 fun e2V I4 =>
 oP E (gsem (asB e2V) true (fA 111 x4 0)) I4 fun i3J E8 =>
 oP E (gsem (asB e2V) true (lA 4 i3J)) E8 fun i3K E4 =>
 oP E (xPick e2V i3K (vB false)) E4 fun i3L N1 =>
 xcond i3L
 (oP E (fA 25 x1 1) N1 fun i3M M6 =>
 oP E (lA 23 i3M) M6 fun i3N L8 =>
 oP E (iA 23 i3N x6) L8 fun i3O N0 =>
 oP E (lA 73 i3O) N0 fun i3P K5 =>
 oP E (xCall (fC 49) [x4, i3P]) K5 fun _t66_55 N4 =>
 oP E (xBin .add 3 (.tmp 59) (.const (vI 1)) x6 (vI 1)) N4 fun e2W L4 =>
 next3 [e2W] L4)
 (j2 [] N1)
def e2X (x1 x4 : Value) (w : World) (R : RT) (E : Pan) : Prop :=
 ∀ _τ : Fr, (xcut (fun _ B6 => e2U x4 B6 R E) fun j2 =>
 xloop [6] [(vI 0)] w fun τ_59 Q3 next3 =>
 f7f x1 x4 (τ_59 6) Q3 next3 j2 R E)
def f7g (x1 x4 x5 : Value) (w : World) (next4 : NT) (j1 : NT) (_R : RT) (E : Pan) : Prop :=
 oP E (fA 25 x1 0) w fun i3Q Q5 =>
 oP E (lA 22 i3Q) Q5 fun i3R V0 =>
 oP E (xBuiltin .len #[22] 3 [false] [i3R]) V0 fun i3S T2 =>
 oP E (xBin .lss 3 (.tmp 15) (.tmp 18) x5 i3S) T2 fun i3T T7 =>
 xcond i3T
 (oP E (fA 111 x4 0) T7 fun i3U Z0 =>
 oP E (lA 4 i3U) Z0 fun b8w Z1 =>
 oP E (gsem (asB b8w) true (fA 25 x1 0)) Z1 fun e2Y Z2 =>
 oP E (gsem (asB b8w) true (lA 22 e2Y)) Z2 fun e2Z X1 =>
 oP E (gsem (asB b8w) true (iA 22 e2Z (gval (asB b8w) true x5))) X1 fun i3V Y5 =>
 oP E (gsem (asB b8w) true (fA 71 i3V 1)) Y5 fun i3W a0f =>
 oP E (gsem (asB b8w) true (lA 3 i3W)) a0f fun i3X Z3 =>
 oP E (gsem (asB b8w) true (xBin .geq 3 (.tmp 30) (.const (vI 0)) i3X (vI 0))) Z3 fun i3Y a0g =>
 oP E (xPick b8w i3Y (vB false)) a0g fun b8x Z4 =>
 oP E (gsem (asB b8x) true (fA 25 x1 0)) Z4 fun c9k a1Q =>
 oP E (gsem (asB b8x) true (lA 22 c9k)) a1Q fun i3Z a2K =>
 oP E (gsem (asB b8x) true (iA 22 i3Z (gval (asB b8x) true x5))) a2K fun i4a V4 =>
 oP E (gsem (asB b8x) true (fA 71 i4a 1)) V4 fun i4b a3u =>
 oP E (gsem (asB b8x) true (lA 3 i4b)) a3u fun i4c a6m =>
 oP E (gsem (asB b8x) true (xBin .leq 3 (.tmp 39) (.const (vI 2147483647)) i4c (vI 2147483647))) a6m fun i4d a1H =>
 oP E (xPick b8x i4d (vB false)) a1H fun g9H a1I =>
 oP E (fA 111 x4 0) a1I fun g9I a3H =>
 oP E (sA 4 g9I g9H) a3H fun _z_105 a3I =>
 oP E (fA 25 x1 0) a3I fun d6t a7p =>
 oP E (lA 22 d6t) a7p fun g9J a7T =>
 oP E (iA 22 g9J x5) a7T fun g9K b0k =>
 oP E (fA 71 g9K 0) b0k fun g9L a8Q =>
 oP E (lA 9 g9L) a8Q fun g9M a9y =>
 oP E (xCall (fC 48) [x4, g9M, (vB true)]) a9y fun _t49_117 a6L =>
 oP E (xBin .add 3 (.tmp 20) (.const (vI 1)) x5 (vI 1)) a6L fun g9N a4j =>
 next4 [g9N] a4j)
 (j1 [] T7)
def F27 (x0 : Value) (w : World) (R : RT) (E : Pan) : Prop :=
 oP E (xV (Instr.box 25 x0)) w fun q7 w_2 =>
 oP E (lA 25 q7) w_2 fun b1d w_4 =>
 oP E (xCall (fC 47) [b1d]) w_4 fun c5B w_6 =>
 oP E (xV (Instr.alloc 108 true (.tuple #[]))) w_6 fun d1U w_8 =>
 oP E (sA 108 d1U c5B) w_8 fun _z_9 p5 =>
 oP E (fA 108 d1U 2) p5 fun a4S q8 =>
 oP E (lA 3 a4S) q8 fun a9w p6 =>
 oP E (xBin .neq 3 (.tmp 10) (.const (vI 0)) a9w (vI 0)) p6 fun b5F r8 =>
 xcond b5F
 (oP E (fA 108 d1U 2) r8 fun b5G s8 =>
 oP E (lA 3 b5G) s8 fun b2B r9 =>
 R b2B r9)
 (oP E (xV (Instr.build 111 #[(0, (vB true)), (1, (vB true))])) r8 fun b5H u7 =>
 oP E (xV (Instr.alloc 111 true (.tuple #[]))) u7 fun f0f u4 =>
 oP E (sA 111 f0f b5H) u4 fun _z_25 z2 =>
 xcut (fun _ R5 => e2X q7 f0f R5 R E) fun j1 =>
 xloop [5] [(vI 0)] z2 fun τ_121 a2J next4 =>
 f7g q7 f0f (τ_121 5) a2J next4 j1 R E)
noncomputable def c27 : Code := Tryz.f27.body.getD .skip
def h27 : Hint := (sQ (sQ (.seq (sQ (.cond (sQ .none) .none)) (sQ (.cut [] (sQ (.block (.loop [5] (.seq (sQ (.cond .none .none)) (.seq (.block (sQ .none)) .none))))) (.cut [] (sQ (.block (.loop [6] (.seq (sQ (.cond .none .none)) (.seq (.block .none) .none))))) (sQ .none)))))))
theorem i4e (x0 : Value) (w : World) (R : RT) (E : Pan) : F27 x0 w R E = callX Tryz.prog [.tmp 2] c27 h27 [x0] w R E := by kernel_rfl
theorem i4f {x0 : Value} (h : F27 x0 w R E) : Cv Tryz.prog 27 #[x0] w R E := by
 refine k3 (args := [x0]) (c := c27) (h := h27) (rs := [.tmp 2]) Tryz.func27 (by kernel_rfl) (by kernel_rfl) (nB (by kernel_rfl)) (by kernel_rfl) (by kernel_rfl) (by kernel_rfl) ?_
 rw [← i4e]
 exact h
def F41 (x0 : Value) (w : World) (R : RT) (E : Pan) : Prop :=
 oP E (xV (Instr.box 59 x0)) w fun q7 w_2 =>
 oP E (lA 59 q7) w_2 fun a0o w_4 =>
 oP E (xV (Instr.build 143 #[(0, a0o)])) w_4 fun a6l w_6 =>
 oP E (xV (Instr.makeInterface 143 a6l)) w_6 fun a9T w_8 =>
 oP E (xV (Instr.buildSlice 137 1 #[(0, a9T)])) w_8 fun b2v p5 =>
 oP E (xCall (fC 65) [b2v]) p5 fun X5 q8 =>
 oP E (xNil X5) q8 fun b9p p6 =>
 oP E (fA 101 b9p 2) p6 fun e8e r8 =>
 oP E (lA 27 e8e) r8 fun c0r s8 =>
 R c0r s8
noncomputable def c41 : Code := Tryz.f41.body.getD .skip
def h41 : Hint := (sQ (sQ .none))
theorem i4g (x0 : Value) (w : World) (R : RT) (E : Pan) : F41 x0 w R E = callX Tryz.prog [.tmp 2] c41 h41 [x0] w R E := by kernel_rfl
theorem i4h {x0 : Value} (h : F41 x0 w R E) : Cv Tryz.prog 41 #[x0] w R E := by
 refine k3 (args := [x0]) (c := c41) (h := h41) (rs := [.tmp 2]) Tryz.func41 (by kernel_rfl) (by kernel_rfl) (nB (by kernel_rfl)) (by kernel_rfl) (by kernel_rfl) (by kernel_rfl) ?_
 rw [← i4g]
 exact h
def F48 (x0 x1 x2 : Value) (w : World) (R : RT) (E : Pan) : Prop :=
 oP E (xV (Op.unary .not x2)) w fun a3X w_2 =>
 xcond a3X
 (oP E (xNil x0) w_2 fun b5D w_4 =>
 oP E (fA 111 b5D 0) w_4 fun a4T w_6 =>
 oP E (lA 4 a4T) w_6 fun a1J w_8 =>
 oP E (gsem (asB a1J) true (xBin .eql 9 (.tmp 14) (.const (eS)) (gval (asB a1J) true x1) (eS))) w_8 fun c5E p5 =>
 oP E (xPick a1J c5E (vB false)) p5 fun a4Y q8 =>
 oP E (xNil x0) q8 fun c1q p6 =>
 oP E (fA 111 c1q 0) p6 fun e1m r8 =>
 oP E (sA 4 e1m a4Y) r8 fun _z_17 s8 =>
 R (Value.tuple #[]) s8)
 (oP E (xNil x0) w_2 fun e1r r9 =>
 oP E (fA 111 e1r 1) r9 fun c8B u7 =>
 oP E (lA 4 c8B) u7 fun c8C u4 =>
 oP E (gsem (asB c8C) true (xCall (fC 86) [(gval (asB c8C) true x1)])) u4 fun e1n z2 =>
 oP E (xPick c8C e1n (vB false)) z2 fun e1o B3 =>
 oP E (xNil x0) B3 fun i4i C4 =>
 oP E (fA 111 i4i 1) C4 fun i4j B6 =>
 oP E (sA 4 i4j e1o) B6 fun _z_33 A6 =>
 R (Value.tuple #[]) A6)
noncomputable def c48 : Code := Tryz.f48.body.getD .skip
def h48 : Hint := (.seq (sQ (.cond (sQ .none) .none)) .none)
theorem i4k (x0 x1 x2 : Value) (w : World) (R : RT) (E : Pan) : F48 x0 x1 x2 w R E = callX Tryz.prog [] c48 h48 [x0, x1, x2] w R E := by kernel_rfl
theorem i4l {x0 x1 x2 : Value} (h : F48 x0 x1 x2 w R E) : Cv Tryz.prog 48 #[x0, x1, x2] w R E := by
 refine k3 (args := [x0, x1, x2]) (c := c48) (h := h48) (rs := []) Tryz.func48 (by kernel_rfl) (by kernel_rfl) (nB (by kernel_rfl)) (by kernel_rfl) (by kernel_rfl) (by kernel_rfl) ?_
 rw [← i4k]
 exact h
def f7h (x0 x3 x9 : Value) (w : World) (next5 : NT) (R : RT) (E : Pan) : Prop :=
 oP E (fA 73 x3 5) w fun g9O a1H =>
 oP E (lA 23 g9O) a1H fun g0O a1I =>
 oP E (xBuiltin .len #[23] 3 [false] [g0O]) a1I fun g0P a3H =>
 oP E (xBin .lss 3 (.tmp 146) (.tmp 149) x9 g0P) a3H fun c1r a3I =>
 oP E (gsem (asB c1r) true (xNil (gval (asB c1r) true x0))) a3I fun g0Q a7p =>
 oP E (gsem (asB c1r) true (fA 111 g0Q 0)) a7p fun g0R a7T =>
 oP E (gsem (asB c1r) true (lA 4 g0R)) a7T fun g0S b0k =>
 oP E (xPick c1r g0S (vB false)) b0k fun g0T a8Q =>
 xcond g0T
 (oP E (fA 73 x3 5) a8Q fun g0U a9y =>
 oP E (lA 23 g0U) a9y fun g0V a6L =>
 oP E (iA 23 g0V x9) a6L fun g0W a4j =>
 oP E (lA 73 g0W) a4j fun g0X a2J =>
 oP E (xCall (fC 49) [x0, g0X]) a2J fun _t165_123 a7o =>
 oP E (xBin .add 3 (.tmp 157) (.const (vI 1)) x9 (vI 1)) a7o fun g0Y a6J =>
 next5 [g0Y] a6J)
 (R (Value.tuple #[]) a8Q)
def e3a (x0 x3 : Value) (w : World) (R : RT) (E : Pan) : Prop :=
 ∀ _τ : Fr, (xloop [9] [(vI 0)] w fun τ_127 a7S next5 =>
 f7h x0 x3 (τ_127 9) a7S next5 R E)
def f7i (x0 x3 x8 : Value) (w : World) (next6 : NT) (j4 : NT) (_R : RT) (E : Pan) : Prop :=
 oP E (fA 73 x3 4) w fun g0Z a4R =>
 oP E (lA 23 g0Z) a4R fun g1a a7q =>
 oP E (xBuiltin .len #[23] 3 [false] [g1a]) a7q fun g1b a7r =>
 oP E (xBin .lss 3 (.tmp 126) (.tmp 129) x8 g1b) a7r fun c1s b1e =>
 oP E (gsem (asB c1s) true (xNil (gval (asB c1s) true x0))) b1e fun g1c b1f =>
 oP E (gsem (asB c1s) true (fA 111 g1c 0)) b1f fun g1d a4W =>
 oP E (gsem (asB c1s) true (lA 4 g1d)) a4W fun g1e a5H =>
 oP E (xPick c1s g1e (vB false)) a5H fun g1f a5G =>
 xcond g1f
 (oP E (fA 73 x3 4) a5G fun g1g b3h =>
 oP E (lA 23 g1g) b3h fun g1h b9o =>
 oP E (iA 23 g1h x8) b9o fun g1i c2O =>
 oP E (lA 73 g1i) c2O fun g1j c5H =>
 oP E (xCall (fC 49) [x0, g1j]) c5H fun _t145_155 d0b =>
 oP E (xBin .add 3 (.tmp 137) (.const (vI 1)) x8 (vI 1)) d0b fun g1k b7P =>
 next6 [g1k] b7P)
 (j4 [] a5G)
def e3b (x0 x3 : Value) (w : World) (R : RT) (E : Pan) : Prop :=
 ∀ _τ : Fr, (xcut (fun _ a4Q => e3a x0 x3 a4Q R E) fun j4 =>
 xloop [8] [(vI 0)] w fun τ_159 f0g next6 =>
 f7i x0 x3 (τ_159 8) f0g next6 j4 R E)
def f7j (x0 x3 x7 : Value) (w : World) (next7 : NT) (j3 : NT) (_R : RT) (E : Pan) : Prop :=
 oP E (fA 73 x3 2) w fun g1l d0h =>
 oP E (lA 51 g1l) d0h fun g1m j5s =>
 oP E (xBuiltin .len #[51] 3 [false] [g1m]) j5s fun g1n f0h =>
 oP E (xBin .lss 3 (.tmp 106) (.tmp 109) x7 g1n) f0h fun c1t b7Y =>
 oP E (gsem (asB c1t) true (xNil (gval (asB c1t) true x0))) b7Y fun g1o d4s =>
 oP E (gsem (asB c1t) true (fA 111 g1o 0)) d4s fun g1p d8J =>
 oP E (gsem (asB c1t) true (lA 4 g1p)) d8J fun g1q f0i =>
 oP E (xPick c1t g1q (vB false)) f0i fun g1r d4t =>
 xcond g1r
 (oP E (fA 73 x3 2) d4t fun g1s f0j =>
 oP E (lA 51 g1s) f0j fun g1t f0k =>
 oP E (iA 51 g1t x7) f0k fun g1u c6G =>
 oP E (lA 53 g1u) c6G fun g1v c2W =>
 oP E (xCall (fC 88) [x0, g1v]) c2W fun _t125_187 b9B =>
 oP E (xBin .add 3 (.tmp 117) (.const (vI 1)) x7 (vI 1)) b9B fun g1w b5Z =>
 next7 [g1w] b5Z)
 (j3 [] d4t)
def e3c (x0 x3 : Value) (w : World) (R : RT) (E : Pan) : Prop :=
 ∀ _τ : Fr, (xcut (fun _ f0l => e3b x0 x3 f0l R E) fun j3 =>
 xloop [7] [(vI 0)] w fun τ_191 f0m next7 =>
 f7j x0 x3 (τ_191 7) f0m next7 j3 R E)
def f7k (x0 x3 x6 : Value) (w : World) (next8 : NT) (j2 : NT) (_R : RT) (E : Pan) : Prop :=
 oP E (fA 73 x3 3) w fun g9P b7Z =>
 oP E (lA 57 g9P) b7Z fun g9Q d8I =>
 oP E (xBuiltin .len #[57] 3 [false] [g9Q]) d8I fun g9R f0n =>
 oP E (xBin .lss 3 (.tmp 86) (.tmp 89) x6 g9R) f0n fun c4N c6H =>
 oP E (gsem (asB c4N) true (xNil (gval (asB c4N) true x0))) c6H fun g9S d4u =>
 oP E (gsem (asB c4N) true (fA 111 g9S 0)) d4u fun g9T d0u =>
 oP E (gsem (asB c4N) true (lA 4 g9T)) d0u fun g9U d4v =>
 oP E (xPick c4N g9U (vB false)) d4v fun g9V d0v =>
 xcond g9V
 (oP E (fA 73 x3 3) d0v fun g1x d0w =>
 oP E (lA 57 g1x) d0w fun g1y f0o =>
 oP E (iA 57 g1y x6) f0o fun g1z f0p =>
 oP E (lA 59 g1z) f0p fun g1A d8K =>
 oP E (xCall (fC 87) [x0, g1A]) d8K fun _t105_219 d0x =>
 oP E (xBin .add 3 (.tmp 97) (.const (vI 1)) x6 (vI 1)) d0x fun g9W b8a =>
 next8 [g9W] b8a)
 (j2 [] d0v)
def e3d (x0 x3 x4 x5 : Value) (w : World) (R : RT) (E : Pan) : Prop :=
 ∀ _τ : Fr, (oP E (fA 73 x3 1) w fun j5t w_4 =>
 oP E (lA 9 j5t) w_4 fun j5u w_6 =>
 oP E (fA 73 x3 0) w_6 fun j5v w_8 =>
 oP E (lA 3 j5v) w_8 fun j5w p5 =>
 oP E (xBin .eql 3 (.tmp 30) (.const (vI 1)) j5w (vI 1)) p5 fun d4w q8 =>
 oP E (gsem (asB d4w) false (fA 73 x3 0)) q8 fun e0R p6 =>
 oP E (gsem (asB d4w) false (lA 3 e0R)) p6 fun e0S r8 =>
 oP E (gsem (asB d4w) false (xBin .eql 3 (.tmp 34) (.const (vI 2)) e0S (vI 2))) r8 fun i4m s8 =>
 oP E (xPick d4w (vB true) i4m) s8 fun i4n r9 =>
 oP E (xCall (fC 48) [x0, j5u, i4n]) r9 fun _t37_21 u7 =>
 oP E (xNil x0) u7 fun e3e u4 =>
 oP E (fA 111 e3e 0) u4 fun d4x z2 =>
 oP E (lA 4 d4x) z2 fun b8y B3 =>
 oP E (gsem (asB b8y) true (fA 73 x3 2)) B3 fun i4o C4 =>
 oP E (gsem (asB b8y) true (lA 51 i4o)) C4 fun i4p B6 =>
 oP E (gsem (asB b8y) true (xBuiltin .len #[51] 3 [false] [i4p])) B6 fun i4q A6 =>
 oP E (gsem (asB b8y) true (xBin .eql 3 (.tmp 46) (.tmp 47) i4q (gval (asB b8y) true x4))) A6 fun i4r I7 =>
 oP E (xPick b8y i4r (vB false)) I7 fun c4O C7 =>
 oP E (gsem (asB c4O) true (fA 73 x3 3)) C7 fun i4s I4 =>
 oP E (gsem (asB c4O) true (lA 57 i4s)) I4 fun i4t E8 =>
 oP E (gsem (asB c4O) true (xBuiltin .len #[57] 3 [false] [i4t])) E8 fun i4u E4 =>
 oP E (gsem (asB c4O) true (xBin .eql 3 (.tmp 53) (.tmp 54) i4u (gval (asB c4O) true x5))) E4 fun i4v N1 =>
 oP E (xPick c4O i4v (vB false)) N1 fun a8N M6 =>
 oP E (gsem (asB a8N) true (fA 73 x3 4)) M6 fun i4w L8 =>
 oP E (gsem (asB a8N) true (lA 23 i4w)) L8 fun i4x N0 =>
 oP E (gsem (asB a8N) true (xBuiltin .len #[23] 3 [false] [i4x])) N0 fun i4y K5 =>
 oP E (gsem (asB a8N) true (xBin .eql 3 (.tmp 60) (.const (vI 0)) i4y (vI 0))) K5 fun d4y N4 =>
 oP E (gsem (asB (gval (asB a8N) true d4y)) false (fA 73 x3 0)) N4 fun e3f L4 =>
 oP E (gsem (asB (gval (asB a8N) true d4y)) false (lA 3 e3f)) L4 fun e3g Q3 =>
 oP E (gsem (asB (gval (asB a8N) true d4y)) false (xBin .eql 3 (.tmp 64) (.const (vI 3)) e3g (vI 3))) Q3 fun i4z R5 =>
 oP E (gsem (asB a8N) true (xPick (gval (asB a8N) true d4y) (vB true) i4z)) R5 fun d4z Q5 =>
 oP E (gsem (asB (gval (asB a8N) true d4z)) false (fA 73 x3 0)) Q5 fun i4A V0 =>
 oP E (gsem (asB (gval (asB a8N) true d4z)) false (lA 3 i4A)) V0 fun i4B T2 =>
 oP E (gsem (asB (gval (asB a8N) true d4z)) false (xBin .eql 3 (.tmp 69) (.const (vI 4)) i4B (vI 4))) T2 fun i4C T7 =>
 oP E (gsem (asB a8N) true (xPick (gval (asB a8N) true d4z) (vB true) i4C)) T7 fun i4D Z0 =>
 oP E (xPick a8N i4D (vB false)) Z0 fun b3Y Z1 =>
 oP E (gsem (asB b3Y) true (fA 73 x3 5)) Z1 fun i4E Z2 =>
 oP E (gsem (asB b3Y) true (lA 23 i4E)) Z2 fun i4F X1 =>
 oP E (gsem (asB b3Y) true (xBuiltin .len #[23] 3 [false] [i4F])) X1 fun i4G Y5 =>
 oP E (gsem (asB b3Y) true (xBin .eql 3 (.tmp 76) (.const (vI 0)) i4G (vI 0))) Y5 fun d4A a0f =>
 oP E (gsem (asB (gval (asB b3Y) true d4A)) false (fA 73 x3 0)) a0f fun i4H Z3 =>
 oP E (gsem (asB (gval (asB b3Y) true d4A)) false (lA 3 i4H)) Z3 fun i4I a0g =>
 oP E (gsem (asB (gval (asB b3Y) true d4A)) false (xBin .eql 3 (.tmp 80) (.const (vI 3)) i4I (vI 3))) a0g fun i4J Z4 =>
 oP E (gsem (asB b3Y) true (xPick (gval (asB b3Y) true d4A) (vB true) i4J)) Z4 fun e3h a1Q =>
 oP E (xPick b3Y e3h (vB false)) a1Q fun e3i a2K =>
 oP E (xNil x0) a2K fun i4K V4 =>
 oP E (fA 111 i4K 0) V4 fun i4L a3u =>
 oP E (sA 4 i4L e3i) a3u fun _z_97 a6m =>
 xcut (fun _ f0q => e3c x0 x3 f0q R E) fun j2 =>
 xloop [6] [(vI 0)] a6m fun τ_223 d8L next8 =>
 f7k x0 x3 (τ_223 6) d8L next8 j2 R E)
def e3j (x0 _x3 x4 x5 x11 x19 : Value) (w : World) (j1 : NT) (_R : RT) (E : Pan) : Prop :=
 ∀ _τ : Fr, (xcond x19
 (j1 [x4, (vI 1)] w)
 (oP E (xBin .eql 3 (.tmp 11) (.const (vI 7)) x11 (vI 7)) w fun g9X c2X =>
 xcond g9X
 (j1 [x4, x5] c2X)
 (oP E (xNil x0) c2X fun g9Y d4B =>
 oP E (fA 111 g9Y 0) d4B fun g9Z d0y =>
 oP E (sA 4 g9Z (vB false)) d0y fun _z_241 j5x =>
 j1 [x4, x5] j5x)))
def F49 (x0 x1 : Value) (w : World) (R : RT) (E : Pan) : Prop :=
 oP E (xV (Instr.box 73 x1)) w fun b4M w_2 =>
 xcut (fun g4P d8M => e3d x0 b4M (nth g4P 0) (nth g4P.tail 0) d8M R E) fun j1 =>
 oP E (fA 73 b4M 0) w_2 fun h0a f0r =>
 oP E (lA 3 h0a) f0r fun b7A f0s =>
 oP E (xBin .eql 3 (.tmp 11) (.const (vI 1)) b7A (vI 1)) f0s fun h0b d8N =>
 xcond h0b
 (j1 [(vI 1), (vI 0)] d8N)
 (oP E (xBin .eql 3 (.tmp 11) (.const (vI 2)) b7A (vI 2)) d8N fun h0c d8O =>
 xcond h0c
 (j1 [(vI 2), (vI 0)] d8O)
 (xcut (fun j5y g4Q => e3j x0 b4M (vI 0) (vI 0) b7A (nth j5y 0) g4Q j1 R E) fun j9 =>
 oP E (xBin .eql 3 (.tmp 11) (.const (vI 3)) b7A (vI 3)) d8O fun e6P g4R =>
 xcond e6P
 (j9 [e6P] g4R)
 (oP E (xBin .eql 3 (.tmp 11) (.const (vI 4)) b7A (vI 4)) g4R fun e6Q c6I =>
 xcond e6Q
 (j9 [e6Q] c6I)
 (oP E (xBin .eql 3 (.tmp 11) (.const (vI 5)) b7A (vI 5)) c6I fun e6R g4S =>
 xcond e6R
 (j9 [e6R] g4S)
 (oP E (xBin .eql 3 (.tmp 11) (.const (vI 6)) b7A (vI 6)) g4S fun h0d j5z =>
 j9 [h0d] j5z)))))
noncomputable def c49 : Code := Tryz.f49.body.getD .skip
def h49 : Hint := (sQ (sQ (.cut [4, 5] (sQ (.block (sQ (.cond .none (sQ (.cond .none (.cut [19] (sQ (.cond .none (sQ (.cond .none (sQ (.cond .none .none)))))) (.cond .none (sQ (.cond .none .none)))))))))) (sQ (sQ (.cut [] (sQ (.block (.loop [6] (.seq (sQ (.cond .none .none)) (.seq (.block .none) .none))))) (.cut [] (sQ (.block (.loop [7] (.seq (sQ (.cond .none .none)) (.seq (.block .none) .none))))) (.cut [] (sQ (.block (.loop [8] (.seq (sQ (.cond .none .none)) (.seq (.block .none) .none))))) (sQ (.block (.loop [9] (.seq (sQ (.cond .none .none)) (.seq (.block .none) .none)))))))))))))
theorem i4M (x0 x1 : Value) (w : World) (R : RT) (E : Pan) : F49 x0 x1 w R E = callX Tryz.prog [] c49 h49 [x0, x1] w R E := by kernel_rfl
theorem i4N {x0 x1 : Value} (h : F49 x0 x1 w R E) : Cv Tryz.prog 49 #[x0, x1] w R E := by
 refine k3 (args := [x0, x1]) (c := c49) (h := h49) (rs := []) Tryz.func49 (by kernel_rfl) (by kernel_rfl) (nB (by kernel_rfl)) (by kernel_rfl) (by kernel_rfl) (by kernel_rfl) ?_
 rw [← i4M]
 exact h
def F50 (x0 : Value) (w : World) (R : RT) (E : Pan) : Prop :=
 oP E (xV (Instr.box 111 x0)) w fun q7 w_2 =>
 oP E (fA 111 q7 0) w_2 fun a0o w_4 =>
 oP E (lA 4 a0o) w_4 fun a6l w_6 =>
 oP E (xV (Op.unary .not a6l)) w_6 fun a9T w_8 =>
 xcond a9T
 (R (vI 30) w_8)
 (oP E (fA 111 q7 1) w_8 fun b2v p5 =>
 oP E (lA 4 b2v) p5 fun X5 q8 =>
 oP E (xV (Op.unary .not X5)) q8 fun b9p p6 =>
 xcond b9p
 (R (vI 31) p6)
 (R (vI 0) p6))
noncomputable def c50 : Code := Tryz.f50.body.getD .skip
def h50 : Hint := (sQ (.seq (sQ (.cond (sQ .none) .none)) (.seq (sQ (.cond (sQ .none) .none)) (sQ .none))))
theorem i4O (x0 : Value) (w : World) (R : RT) (E : Pan) : F50 x0 w R E = callX Tryz.prog [.tmp 2] c50 h50 [x0] w R E := by kernel_rfl
theorem i4P {x0 : Value} (h : F50 x0 w R E) : Cv Tryz.prog 50 #[x0] w R E := by
 refine k3 (args := [x0]) (c := c50) (h := h50) (rs := [.tmp 2]) Tryz.func50 (by kernel_rfl) (by kernel_rfl) (nB (by kernel_rfl)) (by kernel_rfl) (by kernel_rfl) (by kernel_rfl) ?_
 rw [← i4O]
 exact h
def e3k (x3 : Value) (w : World) (R : RT) (E : Pan) : Prop :=
 ∀ _τ : Fr, (oP E (xBin .leq 3 (.tmp 52) (.const (vI 32)) x3 (vI 32)) w fun i4Q p6 =>
 R i4Q p6)
def f7l (x0 x3 x4 : Value) (w : World) (next2 : NT) (j1 : NT) (R : RT) (E : Pan) : Prop :=
 oP E (xBuiltin .len #[9] 3 [false] [x0]) w fun c4v s8 =>
 oP E (xBin .lss 3 (.tmp 20) (.tmp 22) x4 c4v) s8 fun e3l r9 =>
 xcond e3l
 (oP E (xCall (fC 123) [x0, x4]) r9 fun c1u u7 =>
 oP E (eX c1u 0) u7 fun a7d u4 =>
 oP E (eX c1u 1) u4 fun i4R z2 =>
 oP E (eX c1u 2) z2 fun i4S B3 =>
 oP E (xCall (fC 124) [a7d]) B3 fun c8E C4 =>
 oP E (xV (Op.unary .not i4S)) C4 fun b2T B6 =>
 oP E (gsem (asB b2T) false (xBin .neq 3 (.tmp 36) (.const (vI 3)) (gval (asB b2T) false c8E) (vI 3))) B6 fun b6a A6 =>
 oP E (gsem (asB (gval (asB b2T) false b6a)) true (xBin .neq 3 (.tmp 39) (.const (vI 4)) (gval (asB (gval (asB b2T) false b6a)) true c8E) (vI 4))) A6 fun a7Q I7 =>
 oP E (gsem (asB (gval (asB (gval (asB b2T) false b6a)) true a7Q)) false (xBin .eql 3 (.tmp 42) (.const (vI 0)) (gval (asB (gval (asB (gval (asB b2T) false b6a)) true a7Q)) false x3) (vI 0))) I7 fun c9l C7 =>
 oP E (gsem (asB (gval (asB b2T) false b6a)) true (xPick (gval (asB (gval (asB b2T) false b6a)) true a7Q) (vB true) c9l)) C7 fun i4T I4 =>
 oP E (gsem (asB b2T) false (xPick (gval (asB b2T) false b6a) i4T (vB false))) I4 fun c4P E8 =>
 oP E (xPick b2T (vB true) c4P) E8 fun c9m E4 =>
 xcond c9m
 (R (vB false) E4)
 (oP E (xBin .add 3 (.tmp 47) (.const (vI 1)) x3 (vI 1)) E4 fun i4U N1 =>
 oP E (xBin .add 3 (.tmp 49) (.tmp 50) x4 i4R) N1 fun i4V M6 =>
 next2 [i4U, i4V] M6))
 (j1 [x3] r9)
def F86 (x0 : Value) (w : World) (R : RT) (E : Pan) : Prop :=
 oP E (xBin .eql 9 (.tmp 9) (.const (eS)) x0 (eS)) w fun c2N w_2 =>
 oP E (gsem (asB c2N) false (xBuiltin .len #[9] 3 [false] [(gval (asB c2N) false x0)])) w_2 fun c5w w_4 =>
 oP E (gsem (asB c2N) false (xBin .gtr 3 (.tmp 13) (.const (vI 128)) c5w (vI 128))) w_4 fun b4d w_6 =>
 oP E (xPick c2N (vB true) b4d) w_6 fun c6J w_8 =>
 oP E (gsem (asB c6J) false (xCall (fC 122) [(gval (asB c6J) false x0)])) w_8 fun j5A p5 =>
 oP E (xPick c6J (vB true) j5A) p5 fun b8z q8 =>
 xcond b8z
 (R (vB false) q8)
 (xcut (fun c5X r8 => e3k (nth c5X 0) r8 R E) fun j1 =>
 xloop [3, 4] [(vI 0), (vI 0)] q8 fun τ_49 L8 next2 =>
 f7l x0 (τ_49 3) (τ_49 4) L8 next2 j1 R E)
noncomputable def c86 : Code := Tryz.f86.body.getD .skip
def h86 : Hint := (sQ (.seq (sQ (.cond (sQ .none) .none)) (sQ (.cut [3] (sQ (.block (.loop [3, 4] (.seq (sQ (.cond .none .none)) (.block (sQ (sQ (.seq (sQ (.cond (sQ .none) .none)) (sQ .none))))))))) (sQ .none)))))
theorem i4W (x0 : Value) (w : World) (R : RT) (E : Pan) : F86 x0 w R E = callX Tryz.prog [.tmp 2] c86 h86 [x0] w R E := by kernel_rfl
theorem i4X {x0 : Value} (h : F86 x0 w R E) : Cv Tryz.prog 86 #[x0] w R E := by
 refine k3 (args := [x0]) (c := c86) (h := h86) (rs := [.tmp 2]) Tryz.func86 (by kernel_rfl) (by kernel_rfl) (nB (by kernel_rfl)) (by kernel_rfl) (by kernel_rfl) (by kernel_rfl) ?_
 rw [← i4W]
 exact h
def f7m (x0 x3 x8 : Value) (w : World) (next4 : NT) (R : RT) (E : Pan) : Prop :=
 oP E (fA 59 x3 3) w fun i4Y E4 =>
 oP E (lA 57 i4Y) E4 fun i4Z N1 =>
 oP E (xBuiltin .len #[57] 3 [false] [i4Z]) N1 fun i5a M6 =>
 oP E (xBin .lss 3 (.tmp 82) (.tmp 85) x8 i5a) M6 fun c9n L8 =>
 oP E (gsem (asB c9n) true (xNil (gval (asB c9n) true x0))) L8 fun i5b N0 =>
 oP E (gsem (asB c9n) true (fA 111 i5b 0)) N0 fun i5c K5 =>
 oP E (gsem (asB c9n) true (lA 4 i5c)) K5 fun i5d N4 =>
 oP E (xPick c9n i5d (vB false)) N4 fun i5e L4 =>
 xcond i5e
 (oP E (fA 59 x3 3) L4 fun i5f Q3 =>
 oP E (lA 57 i5f) Q3 fun i5g R5 =>
 oP E (iA 57 i5g x8) R5 fun i5h Q5 =>
 oP E (lA 59 i5h) Q5 fun h0e V0 =>
 oP E (xCall (fC 87) [x0, h0e]) V0 fun _t101_67 T2 =>
 oP E (xBin .add 3 (.tmp 93) (.const (vI 1)) x8 (vI 1)) T2 fun i5i T7 =>
 next4 [i5i] T7)
 (R (Value.tuple #[]) L4)
def e3m (x0 x3 : Value) (w : World) (R : RT) (E : Pan) : Prop :=
 ∀ _τ : Fr, (xloop [8] [(vI 0)] w fun τ_71 Z0 next4 =>
 f7m x0 x3 (τ_71 8) Z0 next4 R E)
def f7n (x0 x3 x7 : Value) (w : World) (next5 : NT) (j3 : NT) (_R : RT) (E : Pan) : Prop :=
 oP E (fA 59 x3 2) w fun i5j Z2 =>
 oP E (lA 51 i5j) Z2 fun i5k X1 =>
 oP E (xBuiltin .len #[51] 3 [false] [i5k]) X1 fun i5l Y5 =>
 oP E (xBin .lss 3 (.tmp 62) (.tmp 65) x7 i5l) Y5 fun c9o a0f =>
 oP E (gsem (asB c9o) true (xNil (gval (asB c9o) true x0))) a0f fun i5m Z3 =>
 oP E (gsem (asB c9o) true (fA 111 i5m 0)) Z3 fun i5n a0g =>
 oP E (gsem (asB c9o) true (lA 4 i5n)) a0g fun i5o Z4 =>
 oP E (xPick c9o i5o (vB false)) Z4 fun i5p a1Q =>
 xcond i5p
 (oP E (fA 59 x3 2) a1Q fun i5q a2K =>
 oP E (lA 51 i5q) a2K fun i5r V4 =>
 oP E (iA 51 i5r x7) V4 fun i5s a3u =>
 oP E (lA 53 i5s) a3u fun i5t a6m =>
 oP E (xCall (fC 88) [x0, i5t]) a6m fun _t81_99 a1H =>
 oP E (xBin .add 3 (.tmp 73) (.const (vI 1)) x7 (vI 1)) a1H fun h0f a1I =>
 next5 [h0f] a1I)
 (j3 [] a1Q)
def e3n (x0 x3 x4 x5 x6 : Value) (w : World) (R : RT) (E : Pan) : Prop :=
 ∀ _τ : Fr, (oP E (xNil x0) w fun j5B p5 =>
 oP E (fA 111 j5B 0) p5 fun i5u q8 =>
 oP E (lA 4 i5u) q8 fun f7o p6 =>
 oP E (xPick f7o (gval (asB f7o) true x6) (vB false)) p6 fun c4Q r8 =>
 oP E (gsem (asB c4Q) true (fA 59 x3 2)) r8 fun i5v s8 =>
 oP E (gsem (asB c4Q) true (lA 51 i5v)) s8 fun i5w r9 =>
 oP E (gsem (asB c4Q) true (xBuiltin .len #[51] 3 [false] [i5w])) r9 fun e3o u7 =>
 oP E (gsem (asB c4Q) true (xBin .eql 3 (.tmp 49) (.tmp 50) e3o (gval (asB c4Q) true x4))) u7 fun i5x u4 =>
 oP E (xPick c4Q i5x (vB false)) u4 fun c4R z2 =>
 oP E (gsem (asB c4R) true (fA 59 x3 3)) z2 fun i5y B3 =>
 oP E (gsem (asB c4R) true (lA 57 i5y)) B3 fun i5z C4 =>
 oP E (gsem (asB c4R) true (xBuiltin .len #[57] 3 [false] [i5z])) C4 fun i5A B6 =>
 oP E (gsem (asB c4R) true (xBin .eql 3 (.tmp 56) (.tmp 57) i5A (gval (asB c4R) true x5))) B6 fun i5B A6 =>
 oP E (xPick c4R i5B (vB false)) A6 fun i5C I7 =>
 oP E (xNil x0) I7 fun i5D C7 =>
 oP E (fA 111 i5D 0) C7 fun i5E I4 =>
 oP E (sA 4 i5E i5C) I4 fun _z_41 E8 =>
 xcut (fun _ Z1 => e3m x0 x3 Z1 R E) fun j3 =>
 xloop [7] [(vI 0)] E8 fun τ_103 a3H next5 =>
 f7n x0 x3 (τ_103 7) a3H next5 j3 R E)
def e3p (x0 x3 x4 x5 : Value) (w : World) (R : RT) (E : Pan) : Prop :=
 ∀ _τ : Fr, (oP E (fA 59 x3 1) w fun j5C w_4 =>
 oP E (lA 3 j5C) w_4 fun j5D w_6 =>
 oP E (xBin .eql 3 (.tmp 25) (.const (vI 0)) j5D (vI 0)) w_6 fun j5E w_8 =>
 xcut (fun f0t a3I => e3n x0 x3 x4 x5 (nth f0t 0) a3I R E) fun j2 =>
 oP E (fA 59 x3 0) w_8 fun h0g a7p =>
 oP E (lA 3 h0g) a7p fun h0h a7T =>
 oP E (xBin .eql 3 (.tmp 28) (.const (vI 3)) h0h (vI 3)) a7T fun h0i b0k =>
 xcond h0i
 (oP E (fA 59 x3 1) b0k fun h0j a8Q =>
 oP E (lA 3 h0j) a8Q fun h0k a9y =>
 oP E (xBin .geq 3 (.tmp 31) (.const (vI 1)) h0k (vI 1)) a9y fun d0z a6L =>
 oP E (gsem (asB d0z) true (fA 59 x3 1)) a6L fun h0l a4j =>
 oP E (gsem (asB d0z) true (lA 3 h0l)) a4j fun h0m a2J =>
 oP E (gsem (asB d0z) true (xBin .leq 3 (.tmp 35) (.const (vI 6)) h0m (vI 6))) a2J fun h0n a7o =>
 oP E (xPick d0z h0n (vB false)) a7o fun h0o a6J =>
 j2 [h0o] a6J)
 (j2 [j5E] b0k))
def e3q (x0 _x3 x4 x5 x21 : Value) (w : World) (j1 : NT) (_R : RT) (E : Pan) : Prop :=
 ∀ _τ : Fr, (xcond x21
 (j1 [x4, (vI 2)] w)
 (oP E (xNil x0) w fun h0p b1e =>
 oP E (fA 111 h0p 0) b1e fun h0q b1f =>
 oP E (sA 4 h0q (vB false)) b1f fun _z_141 a4W =>
 j1 [x4, x5] a4W))
def e3r (x0 x3 x4 x5 x10 x14 : Value) (w : World) (j1 : NT) (R : RT) (E : Pan) : Prop :=
 ∀ _τ : Fr, (xcond x14
 (j1 [x4, x5] w)
 (oP E (xBin .eql 3 (.tmp 10) (.const (vI 3)) x10 (vI 3)) w fun h0r a7q =>
 xcond h0r
 (j1 [(vI 2), x5] a7q)
 (oP E (xBin .eql 3 (.tmp 10) (.const (vI 4)) x10 (vI 4)) a7q fun h0t a7r =>
 xcond h0t
 (j1 [x4, (vI 1)] a7r)
 (xcut (fun j5F a5H => e3q x0 x3 x4 x5 (nth j5F 0) a5H j1 R E) fun j7 =>
 oP E (xBin .eql 3 (.tmp 10) (.const (vI 5)) x10 (vI 5)) a7r fun e6S a5G =>
 xcond e6S
 (j7 [e6S] a5G)
 (oP E (xBin .eql 3 (.tmp 10) (.const (vI 6)) x10 (vI 6)) a5G fun h0u b3h =>
 j7 [h0u] b3h)))))
def F87 (x0 x1 : Value) (w : World) (R : RT) (E : Pan) : Prop :=
 oP E (xV (Instr.box 59 x1)) w fun b4M w_2 =>
 xcut (fun g4T a7S => e3p x0 b4M (nth g4T 0) (nth g4T.tail 0) a7S R E) fun j1 =>
 oP E (fA 59 b4M 0) w_2 fun i5F a4Q =>
 oP E (lA 3 i5F) a4Q fun d7o a4R =>
 xcut (fun d8y b9o => e3r x0 b4M (vI 0) (vI 0) d7o (nth d8y 0) b9o j1 R E) fun j6 =>
 oP E (xBin .eql 3 (.tmp 10) (.const (vI 1)) d7o (vI 1)) a4R fun e6T c2O =>
 xcond e6T
 (j6 [e6T] c2O)
 (oP E (xBin .eql 3 (.tmp 10) (.const (vI 2)) d7o (vI 2)) c2O fun h0v c5H =>
 j6 [h0v] c5H)
noncomputable def c87 : Code := Tryz.f87.body.getD .skip
def h87 : Hint := (sQ (sQ (.cut [4, 5] (sQ (.block (.cut [14] (sQ (.cond .none .none)) (.cond .none (sQ (.cond .none (sQ (.cond .none (.cut [21] (sQ (.cond .none .none)) (.cond .none .none)))))))))) (sQ (.cut [6] (sQ (.cond .none .none)) (sQ (.cut [] (sQ (.block (.loop [7] (.seq (sQ (.cond .none .none)) (.seq (.block .none) .none))))) (sQ (.block (.loop [8] (.seq (sQ (.cond .none .none)) (.seq (.block .none) .none))))))))))))
theorem i5G (x0 x1 : Value) (w : World) (R : RT) (E : Pan) : F87 x0 x1 w R E = callX Tryz.prog [] c87 h87 [x0, x1] w R E := by kernel_rfl
theorem i5H {x0 x1 : Value} (h : F87 x0 x1 w R E) : Cv Tryz.prog 87 #[x0, x1] w R E := by
 refine k3 (args := [x0, x1]) (c := c87) (h := h87) (rs := []) Tryz.func87 (by kernel_rfl) (by kernel_rfl) (nB (by kernel_rfl)) (by kernel_rfl) (by kernel_rfl) (by kernel_rfl) ?_
 rw [← i5G]
 exact h
def f7p (x0 x3 x5 : Value) (w : World) (next2 : NT) (R : RT) (E : Pan) : Prop :=
 oP E (fA 53 x3 3) w fun e3s T7 =>
 oP E (lA 51 e3s) T7 fun d4C Z0 =>
 oP E (xBuiltin .len #[51] 3 [false] [d4C]) Z0 fun e3t Z1 =>
 oP E (xBin .lss 3 (.tmp 65) (.tmp 68) x5 e3t) Z1 fun b5B Z2 =>
 oP E (gsem (asB b5B) true (xNil (gval (asB b5B) true x0))) Z2 fun e0x X1 =>
 oP E (gsem (asB b5B) true (fA 111 e0x 0)) X1 fun e3u Y5 =>
 oP E (gsem (asB b5B) true (lA 4 e3u)) Y5 fun e3v a0f =>
 oP E (xPick b5B e3v (vB false)) a0f fun e3w Z3 =>
 xcond e3w
 (oP E (fA 53 x3 3) Z3 fun i5I a0g =>
 oP E (lA 51 i5I) a0g fun i5J Z4 =>
 oP E (iA 51 i5J x5) Z4 fun e3h a1Q =>
 oP E (lA 53 e3h) a1Q fun e3i a2K =>
 oP E (xCall (fC 88) [x0, e3i]) a2K fun _t84_93 V4 =>
 oP E (xBin .add 3 (.tmp 76) (.const (vI 1)) x5 (vI 1)) V4 fun i5K a3u =>
 next2 [i5K] a3u)
 (R (Value.tuple #[]) Z3)
def e3x (x0 x3 x4 : Value) (w : World) (R : RT) (E : Pan) : Prop :=
 ∀ _τ : Fr, (oP E (fA 53 x3 2) w fun j5G w_4 =>
 oP E (lA 9 j5G) w_4 fun e8g w_6 =>
 oP E (fA 53 x3 0) w_6 fun j5H w_8 =>
 oP E (lA 3 j5H) w_8 fun j5I p5 =>
 oP E (xBin .eql 3 (.tmp 28) (.const (vI 2)) j5I (vI 2)) p5 fun d4D q8 =>
 oP E (gsem (asB d4D) false (fA 53 x3 0)) q8 fun i5L p6 =>
 oP E (gsem (asB d4D) false (lA 3 i5L)) p6 fun i5M r8 =>
 oP E (gsem (asB d4D) false (xBin .eql 3 (.tmp 32) (.const (vI 4)) i5M (vI 4))) r8 fun c9p s8 =>
 oP E (xPick d4D (vB true) c9p) s8 fun e3y r9 =>
 oP E (xCall (fC 48) [x0, e8g, e3y]) r9 fun _t35_21 u7 =>
 oP E (xNil x0) u7 fun i5N u4 =>
 oP E (fA 111 i5N 0) u4 fun i5O z2 =>
 oP E (lA 4 i5O) z2 fun c4S B3 =>
 oP E (gsem (asB c4S) true (fA 53 x3 3)) B3 fun i5P C4 =>
 oP E (gsem (asB c4S) true (lA 51 i5P)) C4 fun e3z B6 =>
 oP E (gsem (asB c4S) true (xBuiltin .len #[51] 3 [false] [e3z])) B6 fun e3A A6 =>
 oP E (gsem (asB c4S) true (xBin .eql 3 (.tmp 44) (.tmp 45) e3A (gval (asB c4S) true x4))) A6 fun i5Q I7 =>
 oP E (xPick c4S i5Q (vB false)) I7 fun a9G C7 =>
 oP E (gsem (asB a9G) true (fA 53 x3 1)) C7 fun i5R I4 =>
 oP E (gsem (asB a9G) true (lA 2 i5R)) I4 fun i5S E8 =>
 oP E (gsem (asB a9G) true (xBin .eql 2 (.tmp 50) (.const (vI 0)) i5S (vI 0))) E8 fun b6b E4 =>
 oP E (gsem (asB (gval (asB a9G) true b6b)) false (fA 53 x3 0)) E4 fun i5T N1 =>
 oP E (gsem (asB (gval (asB a9G) true b6b)) false (lA 3 i5T)) N1 fun i5U M6 =>
 oP E (gsem (asB (gval (asB a9G) true b6b)) false (xBin .eql 3 (.tmp 54) (.const (vI 1)) i5U (vI 1))) M6 fun d4E L8 =>
 oP E (gsem (asB (gval (asB (gval (asB a9G) true b6b)) false d4E)) true (fA 53 x3 1)) L8 fun i5V N0 =>
 oP E (gsem (asB (gval (asB (gval (asB a9G) true b6b)) false d4E)) true (lA 2 i5V)) N0 fun i5W K5 =>
 oP E (gsem (asB (gval (asB (gval (asB a9G) true b6b)) false d4E)) true (xBin .gtr 2 (.tmp 58) (.const (vI 0)) i5W (vI 0))) K5 fun i5X N4 =>
 oP E (gsem (asB (gval (asB a9G) true b6b)) false (xPick (gval (asB (gval (asB a9G) true b6b)) false d4E) i5X (vB false))) N4 fun e2W L4 =>
 oP E (gsem (asB a9G) true (xPick (gval (asB a9G) true b6b) (vB true) e2W)) L4 fun i5Y Q3 =>
 oP E (xPick a9G i5Y (vB false)) Q3 fun i5Z R5 =>
 oP E (xNil x0) R5 fun e3B Q5 =>
 oP E (fA 111 e3B 0) Q5 fun e3C V0 =>
 oP E (sA 4 e3C i5Z) V0 fun _z_67 T2 =>
 xloop [5] [(vI 0)] T2 fun τ_97 a6m next2 =>
 f7p x0 x3 (τ_97 5) a6m next2 R E)
def e3D (x0 _x3 x4 x18 : Value) (w : World) (j1 : NT) (_R : RT) (E : Pan) : Prop :=
 ∀ _τ : Fr, (xcond x18
 (j1 [(vI 2)] w)
 (oP E (xNil x0) w fun i6a a3I =>
 oP E (fA 111 i6a 0) a3I fun h0w a7p =>
 oP E (sA 4 h0w (vB false)) a7p fun _z_109 a7T =>
 j1 [x4] a7T))
def e3E (x0 x3 x4 x7 x15 : Value) (w : World) (j1 : NT) (R : RT) (E : Pan) : Prop :=
 ∀ _τ : Fr, (xcond x15
 (j1 [(vI 1)] w)
 (xcut (fun d4k b0k => e3D x0 x3 x4 (nth d4k 0) b0k j1 R E) fun j5 =>
 oP E (xBin .eql 3 (.tmp 7) (.const (vI 6)) x7 (vI 6)) w fun e6U a8Q =>
 xcond e6U
 (j5 [e6U] a8Q)
 (oP E (xBin .eql 3 (.tmp 7) (.const (vI 7)) x7 (vI 7)) a8Q fun e6V a9y =>
 xcond e6V
 (j5 [e6V] a9y)
 (oP E (xBin .eql 3 (.tmp 7) (.const (vI 8)) x7 (vI 8)) a9y fun e6W a6L =>
 xcond e6W
 (j5 [e6W] a6L)
 (oP E (xBin .eql 3 (.tmp 7) (.const (vI 9)) x7 (vI 9)) a6L fun e6X a4j =>
 xcond e6X
 (j5 [e6X] a4j)
 (oP E (xBin .eql 3 (.tmp 7) (.const (vI 10)) x7 (vI 10)) a4j fun h0x a2J =>
 j5 [h0x] a2J))))))
def e3F (x0 x3 x4 x7 x11 : Value) (w : World) (j1 : NT) (R : RT) (E : Pan) : Prop :=
 ∀ _τ : Fr, (xcond x11
 (j1 [x4] w)
 (xcut (fun j5J a7o => e3E x0 x3 x4 x7 (nth j5J 0) a7o j1 R E) fun j4 =>
 oP E (xBin .eql 3 (.tmp 7) (.const (vI 4)) x7 (vI 4)) w fun e6Y a6J =>
 xcond e6Y
 (j4 [e6Y] a6J)
 (oP E (xBin .eql 3 (.tmp 7) (.const (vI 5)) x7 (vI 5)) a6J fun h0y a7S =>
 j4 [h0y] a7S)))
def F88 (x0 x1 : Value) (w : World) (R : RT) (E : Pan) : Prop :=
 oP E (xV (Instr.box 53 x1)) w fun b4M w_2 =>
 xcut (fun f8P a1H => e3x x0 b4M (nth f8P 0) a1H R E) fun j1 =>
 oP E (fA 53 b4M 0) w_2 fun i6b a1I =>
 oP E (lA 3 i6b) a1I fun d4F a3H =>
 xcut (fun j5K a4Q => e3F x0 b4M (vI 0) d4F (nth j5K 0) a4Q j1 R E) fun j3 =>
 oP E (xBin .eql 3 (.tmp 7) (.const (vI 1)) d4F (vI 1)) a3H fun e6Z a4R =>
 xcond e6Z
 (j3 [e6Z] a4R)
 (oP E (xBin .eql 3 (.tmp 7) (.const (vI 2)) d4F (vI 2)) a4R fun e7a a7q =>
 xcond e7a
 (j3 [e7a] a7q)
 (oP E (xBin .eql 3 (.tmp 7) (.const (vI 3)) d4F (vI 3)) a7q fun h0z a7r =>
 j3 [h0z] a7r))
noncomputable def c88 : Code := Tryz.f88.body.getD .skip
def h88 : Hint := (sQ (sQ (.cut [4] (sQ (.block (.cut [11] (sQ (.cond .none (sQ (.cond .none .none)))) (.cond .none (.cut [15] (sQ (.cond .none .none)) (.cond .none (.cut [18] (sQ (.cond .none (sQ (.cond .none (sQ (.cond .none (sQ (.cond .none .none)))))))) (.cond .none .none)))))))) (sQ (sQ (sQ (.block (.loop [5] (.seq (sQ (.cond .none .none)) (.seq (.block .none) .none))))))))))
theorem i6c (x0 x1 : Value) (w : World) (R : RT) (E : Pan) : F88 x0 x1 w R E = callX Tryz.prog [] c88 h88 [x0, x1] w R E := by kernel_rfl
theorem i6d {x0 x1 : Value} (h : F88 x0 x1 w R E) : Cv Tryz.prog 88 #[x0, x1] w R E := by
 refine k3 (args := [x0, x1]) (c := c88) (h := h88) (rs := []) Tryz.func88 (by kernel_rfl) (by kernel_rfl) (nB (by kernel_rfl)) (by kernel_rfl) (by kernel_rfl) (by kernel_rfl) ?_
 rw [← i6c]
 exact h
def d7p (x4 : Value) (w : World) (R : RT) (_E : Pan) : Prop :=
 ∀ _τ : Fr, (xcond x4
 (R (vB true) w)
 (R (vB false) w))
def f0u (x0 : Value) (w : World) (R : RT) (E : Pan) : Prop :=
 xcut (fun l_1 w_2 => d7p (nth l_1 0) w_2 R E) fun j1 =>
 oP E (xBin .eql 9 (.tmp 3) (.const (Value.string ⟨#[118, 97, 114]⟩)) x0 (Value.string ⟨#[118, 97, 114]⟩)) w fun b6W w_4 =>
 xcond b6W
 (j1 [b6W] w_4)
 (oP E (xBin .eql 9 (.tmp 3) (.const (Value.string ⟨#[97, 114, 114, 97, 121]⟩)) x0 (Value.string ⟨#[97, 114, 114, 97, 121]⟩)) w_4 fun a8D w_6 =>
 xcond a8D
 (j1 [a8D] w_6)
 (oP E (xBin .eql 9 (.tmp 3) (.const (Value.string ⟨#[105, 102]⟩)) x0 (Value.string ⟨#[105, 102]⟩)) w_6 fun a7R w_8 =>
 xcond a7R
 (j1 [a7R] w_8)
 (oP E (xBin .eql 9 (.tmp 3) (.const (Value.string ⟨#[101, 108, 115, 101]⟩)) x0 (Value.string ⟨#[101, 108, 115, 101]⟩)) w_8 fun a6Z p5 =>
 xcond a6Z
 (j1 [a6Z] p5)
 (oP E (xBin .eql 9 (.tmp 3) (.const (Value.string ⟨#[119, 104, 105, 108, 101]⟩)) x0 (Value.string ⟨#[119, 104, 105, 108, 101]⟩)) p5 fun a4S q8 =>
 xcond a4S
 (j1 [a4S] q8)
 (oP E (xBin .eql 9 (.tmp 3) (.const (Value.string ⟨#[97, 115, 115, 101, 114, 116]⟩)) x0 (Value.string ⟨#[97, 115, 115, 101, 114, 116]⟩)) q8 fun a9w p6 =>
 xcond a9w
 (j1 [a9w] p6)
 (oP E (xBin .eql 9 (.tmp 3) (.const (Value.string ⟨#[97, 115, 115, 117, 109, 101]⟩)) x0 (Value.string ⟨#[97, 115, 115, 117, 109, 101]⟩)) p6 fun b5F r8 =>
 xcond b5F
 (j1 [b5F] r8)
 (oP E (xBin .eql 9 (.tmp 3) (.const (Value.string ⟨#[115, 107, 105, 112]⟩)) x0 (Value.string ⟨#[115, 107, 105, 112]⟩)) r8 fun b5G s8 =>
 xcond b5G
 (j1 [b5G] s8)
 (oP E (xBin .eql 9 (.tmp 3) (.const (Value.string ⟨#[105, 110, 112, 117, 116]⟩)) x0 (Value.string ⟨#[105, 110, 112, 117, 116]⟩)) s8 fun b2B r9 =>
 xcond b2B
 (j1 [b2B] r9)
 (oP E (xBin .eql 9 (.tmp 3) (.const (Value.string ⟨#[116, 114, 117, 101]⟩)) x0 (Value.string ⟨#[116, 114, 117, 101]⟩)) r9 fun b5H u7 =>
 xcond b5H
 (j1 [b5H] u7)
 (oP E (xBin .eql 9 (.tmp 3) (.const (Value.string ⟨#[102, 97, 108, 115, 101]⟩)) x0 (Value.string ⟨#[102, 97, 108, 115, 101]⟩)) u7 fun c8D u4 =>
 j1 [c8D] u4))))))))))
noncomputable def i6e : Code := Tryz.f122.body.getD .skip
def i6f : Hint := (sQ (.seq (sQ (.block (.cut [4] (sQ (.cond .none (sQ (.cond .none (sQ (.cond .none (sQ (.cond .none (sQ (.cond .none (sQ (.cond .none (sQ (.cond .none (sQ (.cond .none (sQ (.cond .none (sQ (.cond .none .none)))))))))))))))))))) (.cond (sQ .none) .none)))) (sQ .none)))
theorem h0A (x0 : Value) (w : World) (R : RT) (E : Pan) : f0u x0 w R E = callX Tryz.prog [.tmp 2] i6e i6f [x0] w R E := by kernel_rfl
theorem h0B {x0 : Value} (h : f0u x0 w R E) : Cv Tryz.prog 122 #[x0] w R E := by
 refine k3 (args := [x0]) (c := i6e) (h := i6f) (rs := [.tmp 2]) Tryz.func122 (by kernel_rfl) (by kernel_rfl) (nB (by kernel_rfl)) (by kernel_rfl) (by kernel_rfl) (by kernel_rfl) ?_
 rw [← h0A]
 exact h
def d7q (x8 x9 x10 : Value) (w : World) (R : RT) (E : Pan) : Prop :=
 ∀ _τ : Fr, (oP E (xBin .lss 3 (.tmp 84) (.tmp 85) x10 x9) w fun f0v w_6 =>
 oP E (gsem (asB f0v) false (xBin .gtr 3 (.tmp 88) (.const (vI 1114111)) (gval (asB f0v) false x10) (vI 1114111))) w_6 fun j5L w_8 =>
 oP E (xPick f0v (vB true) j5L) w_8 fun c6K p5 =>
 oP E (gsem (asB c6K) false (xBin .geq 3 (.tmp 92) (.const (vI 55296)) (gval (asB c6K) false x10) (vI 55296))) p5 fun e3G q8 =>
 oP E (gsem (asB (gval (asB c6K) false e3G)) true (xBin .lss 3 (.tmp 95) (.const (vI 57344)) (gval (asB (gval (asB c6K) false e3G)) true x10) (vI 57344))) q8 fun i6g p6 =>
 oP E (gsem (asB c6K) false (xPick (gval (asB c6K) false e3G) i6g (vB false))) p6 fun i6h r8 =>
 oP E (xPick c6K (vB true) i6h) r8 fun i6i s8 =>
 xcond i6i
 (R (Value.tuple #[(vI 65533), (vI 1), (vB false)]) s8)
 (R (Value.tuple #[x10, x8, (vB true)]) s8))
def e7b (x0 x1 x8 _x9 x10 x11 : Value) (w : World) (next3 : NT) (j2 : NT) (R : RT) (E : Pan) : Prop :=
 oP E (xBin .lss 3 (.tmp 47) (.tmp 48) x11 x8) w fun e3o u7 =>
 xcond e3o
 (oP E (xBin .add 3 (.tmp 52) (.tmp 53) x1 x11) u7 fun i6j u4 =>
 oP E (xBuiltin .len #[9] 3 [false] [x0]) u4 fun i6k z2 =>
 oP E (xBin .geq 3 (.tmp 54) (.tmp 56) i6j i6k) z2 fun c1v B3 =>
 oP E (gsem (asB c1v) false (xBin .add 3 (.tmp 60) (.tmp 61) (gval (asB c1v) false x1) (gval (asB c1v) false x11))) B3 fun i6l C4 =>
 oP E (gsem (asB c1v) false (xV (Instr.index 9 (gval (asB c1v) false x0) i6l))) C4 fun i6m B6 =>
 oP E (gsem (asB c1v) false (xBin .lss 5 (.tmp 63) (.const (Value.int .u8 128)) i6m (Value.int .u8 128))) B6 fun i6n A6 =>
 oP E (xPick c1v (vB true) i6n) A6 fun c1w I7 =>
 oP E (gsem (asB c1w) false (xBin .add 3 (.tmp 68) (.tmp 69) (gval (asB c1w) false x1) (gval (asB c1w) false x11))) I7 fun i6o C7 =>
 oP E (gsem (asB c1w) false (xV (Instr.index 9 (gval (asB c1w) false x0) i6o))) C7 fun i6p I4 =>
 oP E (gsem (asB c1w) false (xBin .geq 5 (.tmp 71) (.const (Value.int .u8 192)) i6p (Value.int .u8 192))) I4 fun i6q E8 =>
 oP E (xPick c1w (vB true) i6q) E8 fun i6r E4 =>
 xcond i6r
 (R (Value.tuple #[(vI 65533), (vI 1), (vB false)]) E4)
 (oP E (xBin .mul 3 (.const (vI 64)) (.tmp 74) (vI 64) x10) E4 fun i6s N1 =>
 oP E (xBin .add 3 (.tmp 77) (.tmp 78) x1 x11) N1 fun i6t M6 =>
 oP E (xV (Instr.index 9 x0 i6t)) M6 fun i6u L8 =>
 oP E (xV (convert 5 3 i6u)) L8 fun i6v N0 =>
 oP E (xBin .add 3 (.tmp 75) (.tmp 81) i6s i6v) N0 fun i6w K5 =>
 oP E (xBin .sub 3 (.tmp 82) (.const (vI 128)) i6w (vI 128)) K5 fun i6x N4 =>
 oP E (xBin .add 3 (.tmp 50) (.const (vI 1)) x11 (vI 1)) N4 fun i6y L4 =>
 next3 [i6x, i6y] L4))
 (j2 [x10] u7)
def d7r (x0 x1 x8 x9 x10 : Value) (w : World) (R : RT) (E : Pan) : Prop :=
 ∀ _τ : Fr, (xcut (fun a8Y r9 => d7q x8 x9 (nth a8Y 0) r9 R E) fun j2 =>
 xloop [10, 11] [x10, (vI 1)] w fun τ_59 Q3 next3 =>
 e7b x0 x1 x8 x9 (τ_59 10) (τ_59 11) Q3 next3 j2 R E)
def f0w (x0 x1 : Value) (w : World) (R : RT) (E : Pan) : Prop :=
 oP E (xV (Instr.index 9 x0 x1)) w fun j5M w_2 =>
 oP E (xV (convert 5 3 j5M)) w_2 fun b6c w_4 =>
 xcut (fun g1B R5 => d7r x0 x1 (nth g1B 0) (nth g1B.tail 0) (nth g1B.tail.tail 0) R5 R E) fun j1 =>
 oP E (xBin .lss 3 (.tmp 17) (.const (vI 128)) b6c (vI 128)) w_4 fun i6z Q5 =>
 xcond i6z
 (R (Value.tuple #[b6c, (vI 1), (vB true)]) Q5)
 (oP E (xBin .geq 3 (.tmp 21) (.const (vI 194)) b6c (vI 194)) Q5 fun e3H V0 =>
 oP E (gsem (asB e3H) true (xBin .lss 3 (.tmp 24) (.const (vI 224)) (gval (asB e3H) true b6c) (vI 224))) V0 fun i6A T2 =>
 oP E (xPick e3H i6A (vB false)) T2 fun i6B T7 =>
 xcond i6B
 (oP E (xBin .sub 3 (.tmp 27) (.const (vI 192)) b6c (vI 192)) T7 fun i6C Z0 =>
 j1 [(vI 2), (vI 128), i6C] Z0)
 (oP E (xBin .geq 3 (.tmp 30) (.const (vI 224)) b6c (vI 224)) T7 fun e3I Z1 =>
 oP E (gsem (asB e3I) true (xBin .lss 3 (.tmp 33) (.const (vI 240)) (gval (asB e3I) true b6c) (vI 240))) Z1 fun i6D Z2 =>
 oP E (xPick e3I i6D (vB false)) Z2 fun i6E X1 =>
 xcond i6E
 (oP E (xBin .sub 3 (.tmp 36) (.const (vI 224)) b6c (vI 224)) X1 fun i6F Y5 =>
 j1 [(vI 3), (vI 2048), i6F] Y5)
 (oP E (xBin .geq 3 (.tmp 39) (.const (vI 240)) b6c (vI 240)) X1 fun e3J a0f =>
 oP E (gsem (asB e3J) true (xBin .lss 3 (.tmp 42) (.const (vI 245)) (gval (asB e3J) true b6c) (vI 245))) a0f fun i6G Z3 =>
 oP E (xPick e3J i6G (vB false)) Z3 fun i6H a0g =>
 xcond i6H
 (oP E (xBin .sub 3 (.tmp 45) (.const (vI 240)) b6c (vI 240)) a0g fun i6I Z4 =>
 j1 [(vI 4), (vI 65536), i6I] Z4)
 (R (Value.tuple #[(vI 65533), (vI 1), (vB false)]) a0g))))
noncomputable def i6J : Code := Tryz.f123.body.getD .skip
def i6K : Hint := (sQ (sQ (sQ (.cut [8, 9, 10] (.block (sQ (.cond (sQ .none) (sQ (.cond .none (sQ (.cond .none (sQ (.cond .none (sQ .none)))))))))) (.cut [10] (sQ (.block (.loop [10, 11] (.seq (sQ (.cond .none .none)) (.seq (.block (.seq (sQ (.cond (sQ .none) .none)) .none)) .none))))) (.seq (sQ (.cond (sQ .none) .none)) (sQ .none)))))))
theorem h0C (x0 x1 : Value) (w : World) (R : RT) (E : Pan) : f0w x0 x1 w R E = callX Tryz.prog [.tmp 4, .tmp 5, .tmp 6] i6J i6K [x0, x1] w R E := by kernel_rfl
theorem h0D {x0 x1 : Value} (h : f0w x0 x1 w R E) : Cv Tryz.prog 123 #[x0, x1] w R E := by
 refine k3 (args := [x0, x1]) (c := i6J) (h := i6K) (rs := [.tmp 4, .tmp 5, .tmp 6]) Tryz.func123 (by kernel_rfl) (by kernel_rfl) (nB (by kernel_rfl)) (by kernel_rfl) (by kernel_rfl) (by kernel_rfl) ?_
 rw [← h0C]
 exact h
def d7s (w : World) (R : RT) (_E : Pan) : Prop :=
 ∀ _τ : Fr, (R (vI 6) w)
def e7c (x0 x3 x4 : Value) (w : World) (next2 : NT) (j1 : NT) (R : RT) (E : Pan) : Prop :=
 oP E (xBuiltin .len #[9] 3 [false] [x3]) w fun e3K N0 =>
 oP E (xBin .lss 3 (.tmp 53) (.tmp 55) x4 e3K) N0 fun e3L K5 =>
 xcond e3L
 (oP E (xV (Instr.index 9 x3 x4)) K5 fun i6L N4 =>
 oP E (xV (convert 5 3 i6L)) N4 fun e3f L4 =>
 oP E (xBin .eql 3 (.tmp 59) (.tmp 63) x0 e3f) L4 fun e3g Q3 =>
 xcond e3g
 (R (vI 5) Q3)
 (oP E (xBin .add 3 (.tmp 57) (.const (vI 1)) x4 (vI 1)) Q3 fun e3M R5 =>
 next2 [e3M] R5))
 (j1 [] K5)
def f0x (x0 : Value) (w : World) (R : RT) (E : Pan) : Prop :=
 oP E (xBin .eql 3 (.tmp 5) (.const (vI 32)) x0 (vI 32)) w fun b3F w_2 =>
 oP E (gsem (asB b3F) false (xBin .eql 3 (.tmp 8) (.const (vI 9)) (gval (asB b3F) false x0) (vI 9))) w_2 fun a6n w_4 =>
 oP E (xPick b3F (vB true) a6n) w_4 fun a9z w_6 =>
 oP E (gsem (asB a9z) false (xBin .eql 3 (.tmp 12) (.const (vI 13)) (gval (asB a9z) false x0) (vI 13))) w_6 fun a1K w_8 =>
 oP E (xPick a9z (vB true) a1K) w_8 fun b2k p5 =>
 xcond b2k
 (R (vI 1) p5)
 (oP E (xBin .eql 3 (.tmp 15) (.const (vI 10)) x0 (vI 10)) p5 fun a4Y q8 =>
 xcond a4Y
 (R (vI 2) q8)
 (oP E (xCall (fC 156) [x0, (vI 48), (vI 57)]) q8 fun b2A p6 =>
 xcond b2A
 (R (vI 4) p6)
 (oP E (xCall (fC 156) [x0, (vI 97), (vI 122)]) p6 fun c0A r8 =>
 oP E (gsem (asB c0A) false (xCall (fC 156) [(gval (asB c0A) false x0), (vI 65), (vI 90)])) r8 fun c1x s8 =>
 oP E (xPick c0A (vB true) c1x) s8 fun c8x r9 =>
 oP E (gsem (asB c8x) false (xBin .eql 3 (.tmp 26) (.const (vI 95)) (gval (asB c8x) false x0) (vI 95))) r9 fun c1u u7 =>
 oP E (xPick c8x (vB true) c1u) u7 fun a7d u4 =>
 oP E (gsem (asB a7d) false (xCall (fC 156) [(gval (asB a7d) false x0), (vI 192), (vI 591)])) u4 fun e3N z2 =>
 oP E (gsem (asB (gval (asB a7d) false e3N)) true (xBin .neq 3 (.tmp 33) (.const (vI 215)) (gval (asB (gval (asB a7d) false e3N)) true x0) (vI 215))) z2 fun i6M B3 =>
 oP E (gsem (asB a7d) false (xPick (gval (asB a7d) false e3N) i6M (vB false))) B3 fun e3O C4 =>
 oP E (gsem (asB (gval (asB a7d) false e3O)) true (xBin .neq 3 (.tmp 37) (.const (vI 247)) (gval (asB (gval (asB a7d) false e3O)) true x0) (vI 247))) C4 fun i6N B6 =>
 oP E (gsem (asB a7d) false (xPick (gval (asB a7d) false e3O) i6N (vB false))) B6 fun i6O A6 =>
 oP E (xPick a7d (vB true) i6O) A6 fun a7Q I7 =>
 oP E (gsem (asB a7Q) false (xCall (fC 156) [(gval (asB a7Q) false x0), (vI 913), (vI 969)])) I7 fun c9l C7 =>
 oP E (gsem (asB (gval (asB a7Q) false c9l)) true (xBin .neq 3 (.tmp 45) (.const (vI 930)) (gval (asB (gval (asB a7Q) false c9l)) true x0) (vI 930))) C7 fun i6P I4 =>
 oP E (gsem (asB a7Q) false (xPick (gval (asB a7Q) false c9l) i6P (vB false))) I4 fun i6Q E8 =>
 oP E (xPick a7Q (vB true) i6Q) E8 fun e3P E4 =>
 oP E (gsem (asB e3P) false (xCall (fC 156) [(gval (asB e3P) false x0), (vI 1040), (vI 1103)])) E4 fun e3Q N1 =>
 oP E (xPick e3P (vB true) e3Q) N1 fun e3R M6 =>
 xcond e3R
 (R (vI 3) M6)
 (xcut (fun _ L8 => d7s L8 R E) fun j1 =>
 xloop [4] [(vI 0)] M6 fun τ_63 Q5 next2 =>
 e7c x0 (Value.string ⟨#[59, 44, 123, 125, 40, 41, 91, 93, 61, 33, 60, 62, 43, 45, 42, 47, 37, 38, 124]⟩) (τ_63 4) Q5 next2 j1 R E))))
noncomputable def i6R : Code := Tryz.f124.body.getD .skip
def i6S : Hint := (sQ (.seq (sQ (.cond (sQ .none) .none)) (.seq (sQ (.cond (sQ .none) .none)) (.seq (sQ (.cond (sQ .none) .none)) (.seq (sQ (.cond (sQ .none) .none)) (sQ (.cut [] (sQ (.block (.loop [4] (.seq (sQ (.cond .none .none)) (.seq (.block (sQ (.cond (sQ .none) .none))) .none))))) (sQ .none))))))))
theorem h0E (x0 : Value) (w : World) (R : RT) (E : Pan) : f0x x0 w R E = callX Tryz.prog [.tmp 2] i6R i6S [x0] w R E := by kernel_rfl
theorem h0F {x0 : Value} (h : f0x x0 w R E) : Cv Tryz.prog 124 #[x0] w R E := by
 refine k3 (args := [x0]) (c := i6R) (h := i6S) (rs := [.tmp 2]) Tryz.func124 (by kernel_rfl) (by kernel_rfl) (nB (by kernel_rfl)) (by kernel_rfl) (by kernel_rfl) (by kernel_rfl) ?_
 rw [← h0E]
 exact h
def f0y (x0 x1 x2 : Value) (w : World) (R : RT) (E : Pan) : Prop :=
 oP E (xBin .geq 3 (.tmp 7) (.tmp 8) x0 x1) w fun a8j w_2 =>
 oP E (gsem (asB a8j) true (xBin .leq 3 (.tmp 11) (.tmp 12) (gval (asB a8j) true x0) (gval (asB a8j) true x2))) w_2 fun c5w w_4 =>
 oP E (xPick a8j c5w (vB false)) w_4 fun b4d w_6 =>
 R b4d w_6
noncomputable def i6T : Code := Tryz.f156.body.getD .skip
def i6U : Hint := (sQ (sQ .none))
theorem h0G (x0 x1 x2 : Value) (w : World) (R : RT) (E : Pan) : f0y x0 x1 x2 w R E = callX Tryz.prog [.tmp 6] i6T i6U [x0, x1, x2] w R E := by kernel_rfl
theorem h0H {x0 x1 x2 : Value} (h : f0y x0 x1 x2 w R E) : Cv Tryz.prog 156 #[x0, x1, x2] w R E := by
 refine k3 (args := [x0, x1, x2]) (c := i6T) (h := i6U) (rs := [.tmp 6]) Tryz.func156 (by kernel_rfl) (by kernel_rfl) (nB (by kernel_rfl)) (by kernel_rfl) (by kernel_rfl) (by kernel_rfl) ?_
 rw [← h0G]
 exact h
end Go.Proofs.YtnhkdkcgdcgmdaaGreatDoor
