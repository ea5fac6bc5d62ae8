/- The second reading of some of the program's functions, printed by gen2.py off the code; each is held against the code by the kernel. -/
import Derived.Test.YtnhkdkcgdcgmdaaDoorProg
import Derived.Test.YtnhkdkcgdcgmdaaDoorzLK0
import Derived.KernelRfl
import Derived.Test.YtnhkdkcgdcgmdaaDoorzLGz
namespace Go.Proofs.YtnhkdkcgdcgmdaaDoor
open Go.RowKit
set_option maxRecDepth 100000
variable {w : World} {R : RT} {E : Pan}
def F26 (x0 x1 : Value) (w : World) (R : RT) (E : Pan) : Prop :=
 oP E (xBin .add 2 (.tmp 7) (.tmp 8) x0 x1) w fun a8J w_2 =>
 oP E (xBin .lss 2 (.tmp 10) (.const (vI 0)) x0 (vI 0)) w_2 fun a0J w_4 =>
 oP E (xBin .lss 2 (.tmp 12) (.const (vI 0)) x1 (vI 0)) w_4 fun a3U w_6 =>
 oP E (xBin .eql 4 (.tmp 11) (.tmp 13) a0J a3U) w_6 fun S8 w_8 =>
 oP E (gsem (asB S8) true (xBin .lss 2 (.tmp 16) (.const (vI 0)) (gval (asB S8) true a8J) (vI 0))) w_8 fun b7W m8 =>
 oP E (gsem (asB S8) true (xBin .lss 2 (.tmp 18) (.const (vI 0)) (gval (asB S8) true x0) (vI 0))) m8 fun a6I o4 =>
 oP E (gsem (asB S8) true (xBin .neq 4 (.tmp 17) (.tmp 19) b7W a6I)) o4 fun a8K o2 =>
 oP E (xPick S8 a8K (vB false)) o2 fun b3H p5 =>
 xcond b3H
 (R (Value.tuple #[(vI 0), (vI 1)]) p5)
 (R (Value.tuple #[a8J, (vI 0)]) p5)
noncomputable def c26 : Code := Tryd.f26.body.getD .skip
def h26 : Hint := (sQ (sQ (.seq (sQ (.cond (sQ .none) .none)) (sQ .none))))
theorem e9g (x0 x1 : Value) (w : World) (R : RT) (E : Pan) : F26 x0 x1 w R E = callX Tryd.prog [.tmp 4, .tmp 5] c26 h26 [x0, x1] w R E := by kernel_rfl
theorem e9h {x0 x1 : Value} (h : F26 x0 x1 w R E) : Cv Tryd.prog 26 #[x0, x1] w R E := by
 refine i2 (args := [x0, x1]) (c := c26) (h := h26) (rs := [.tmp 4, .tmp 5]) Tryd.func26 (by kernel_rfl) (by kernel_rfl) (nB (by kernel_rfl)) (by kernel_rfl) (by kernel_rfl) (by kernel_rfl) ?_
 rw [← e9g]
 exact h
def F27 (x0 x1 : Value) (w : World) (R : RT) (E : Pan) : Prop :=
 oP E (xBin .sub 2 (.tmp 7) (.tmp 8) x0 x1) w fun a8J w_2 =>
 oP E (xBin .lss 2 (.tmp 10) (.const (vI 0)) x0 (vI 0)) w_2 fun a0J w_4 =>
 oP E (xBin .lss 2 (.tmp 12) (.const (vI 0)) x1 (vI 0)) w_4 fun a3U w_6 =>
 oP E (xBin .neq 4 (.tmp 11) (.tmp 13) a0J a3U) w_6 fun S8 w_8 =>
 oP E (gsem (asB S8) true (xBin .lss 2 (.tmp 16) (.const (vI 0)) (gval (asB S8) true a8J) (vI 0))) w_8 fun b7W m8 =>
 oP E (gsem (asB S8) true (xBin .lss 2 (.tmp 18) (.const (vI 0)) (gval (asB S8) true x0) (vI 0))) m8 fun a6I o4 =>
 oP E (gsem (asB S8) true (xBin .neq 4 (.tmp 17) (.tmp 19) b7W a6I)) o4 fun a8K o2 =>
 oP E (xPick S8 a8K (vB false)) o2 fun b3H p5 =>
 xcond b3H
 (R (Value.tuple #[(vI 0), (vI 1)]) p5)
 (R (Value.tuple #[a8J, (vI 0)]) p5)
noncomputable def c27 : Code := Tryd.f27.body.getD .skip
def h27 : Hint := (sQ (sQ (.seq (sQ (.cond (sQ .none) .none)) (sQ .none))))
theorem e9i (x0 x1 : Value) (w : World) (R : RT) (E : Pan) : F27 x0 x1 w R E = callX Tryd.prog [.tmp 4, .tmp 5] c27 h27 [x0, x1] w R E := by kernel_rfl
theorem e9j {x0 x1 : Value} (h : F27 x0 x1 w R E) : Cv Tryd.prog 27 #[x0, x1] w R E := by
 refine i2 (args := [x0, x1]) (c := c27) (h := h27) (rs := [.tmp 4, .tmp 5]) Tryd.func27 (by kernel_rfl) (by kernel_rfl) (nB (by kernel_rfl)) (by kernel_rfl) (by kernel_rfl) (by kernel_rfl) ?_
 rw [← e9i]
 exact h
def c3w (x0 x1 x6 x7 x8 : Value) (w : World) (R : RT) (E : Pan) : Prop :=
 ∀ _τ : Fr, (oP E (xBin .neq 96 (.tmp 24) (.const (Value.int .u64 0)) x6 (Value.int .u64 0)) w fun b7X o4 =>
 oP E (gsem (asB b7X) false (xBin .gtr 96 (.tmp 27) (.tmp 28) (gval (asB b7X) false x7) (gval (asB b7X) false x8))) o4 fun c3x o2 =>
 oP E (xPick b7X (vB true) c3x) o2 fun b7Y p5 =>
 xcond b7Y
 (R (Value.tuple #[(vI 0), (vI 1)]) p5)
 (oP E (xBin .mul 2 (.tmp 31) (.tmp 32) x0 x1) p5 fun e9k q7 =>
 R (Value.tuple #[e9k, (vI 0)]) q7))
def F28 (x0 x1 : Value) (w : World) (R : RT) (E : Pan) : Prop :=
 oP E (xCall (fC 48) [x0]) w fun c8e w_2 =>
 oP E (xCall (fC 48) [x1]) w_2 fun b7Z w_4 =>
 oP E (xCall (fC 47) [c8e, b7Z]) w_4 fun d7P w_6 =>
 oP E (eX d7P 0) w_6 fun c8f w_8 =>
 oP E (eX d7P 1) w_8 fun c8g m8 =>
 xcut (fun a3i q9 => c3w x0 x1 c8f c8g (nth a3i 0) q9 R E) fun j1 =>
 oP E (xBin .lss 2 (.tmp 17) (.const (vI 0)) x0 (vI 0)) m8 fun e9l t1 =>
 oP E (xBin .lss 2 (.tmp 19) (.const (vI 0)) x1 (vI 0)) t1 fun a5q u5 =>
 oP E (xBin .neq 4 (.tmp 18) (.tmp 20) e9l a5q) u5 fun e9m A7 =>
 xcond e9m
 (oP E (xBin .add 96 (.tmp 22) (.const (Value.int .u64 1)) (Value.int .u64 9223372036854775807) (Value.int .u64 1)) A7 fun b3I C3 =>
 j1 [b3I] C3)
 (j1 [(Value.int .u64 9223372036854775807)] A7)
noncomputable def c28 : Code := Tryd.f28.body.getD .skip
def h28 : Hint := (sQ (sQ (sQ (.cut [8] (sQ (.cond .none .none)) (.seq (sQ (.cond (sQ .none) .none)) (sQ .none))))))
theorem e9n (x0 x1 : Value) (w : World) (R : RT) (E : Pan) : F28 x0 x1 w R E = callX Tryd.prog [.tmp 4, .tmp 5] c28 h28 [x0, x1] w R E := by kernel_rfl
theorem e9o {x0 x1 : Value} (h : F28 x0 x1 w R E) : Cv Tryd.prog 28 #[x0, x1] w R E := by
 refine i2 (args := [x0, x1]) (c := c28) (h := h28) (rs := [.tmp 4, .tmp 5]) Tryd.func28 (by kernel_rfl) (by kernel_rfl) (nB (by kernel_rfl)) (by kernel_rfl) (by kernel_rfl) (by kernel_rfl) ?_
 rw [← e9n]
 exact h
def F29 (x0 x1 : Value) (w : World) (R : RT) (E : Pan) : Prop :=
 oP E (xCall (fC 49) [x0, x1]) w fun a8J w_2 =>
 oP E (xBin .neq 3 (.tmp 10) (.const (vI 0)) a8J (vI 0)) w_2 fun a0J w_4 =>
 xcond a0J
 (R (Value.tuple #[(vI 0), a8J]) w_4)
 (oP E (xBin .quo 2 (.tmp 13) (.tmp 14) x0 x1) w_4 fun b2i w_6 =>
 R (Value.tuple #[b2i, (vI 0)]) w_6)
noncomputable def c29 : Code := Tryd.f29.body.getD .skip
def h29 : Hint := (sQ (.seq (sQ (sQ (.cond (sQ .none) .none))) (sQ .none)))
theorem e9p (x0 x1 : Value) (w : World) (R : RT) (E : Pan) : F29 x0 x1 w R E = callX Tryd.prog [.tmp 4, .tmp 5] c29 h29 [x0, x1] w R E := by kernel_rfl
theorem e9q {x0 x1 : Value} (h : F29 x0 x1 w R E) : Cv Tryd.prog 29 #[x0, x1] w R E := by
 refine i2 (args := [x0, x1]) (c := c29) (h := h29) (rs := [.tmp 4, .tmp 5]) Tryd.func29 (by kernel_rfl) (by kernel_rfl) (nB (by kernel_rfl)) (by kernel_rfl) (by kernel_rfl) (by kernel_rfl) ?_
 rw [← e9p]
 exact h
def F30 (x0 x1 : Value) (w : World) (R : RT) (E : Pan) : Prop :=
 oP E (xCall (fC 49) [x0, x1]) w fun a8J w_2 =>
 oP E (xBin .neq 3 (.tmp 10) (.const (vI 0)) a8J (vI 0)) w_2 fun a0J w_4 =>
 xcond a0J
 (R (Value.tuple #[(vI 0), a8J]) w_4)
 (oP E (xBin .rem 2 (.tmp 13) (.tmp 14) x0 x1) w_4 fun b2i w_6 =>
 R (Value.tuple #[b2i, (vI 0)]) w_6)
noncomputable def c30 : Code := Tryd.f30.body.getD .skip
def h30 : Hint := (sQ (.seq (sQ (sQ (.cond (sQ .none) .none))) (sQ .none)))
theorem e9r (x0 x1 : Value) (w : World) (R : RT) (E : Pan) : F30 x0 x1 w R E = callX Tryd.prog [.tmp 4, .tmp 5] c30 h30 [x0, x1] w R E := by kernel_rfl
theorem e9s {x0 x1 : Value} (h : F30 x0 x1 w R E) : Cv Tryd.prog 30 #[x0, x1] w R E := by
 refine i2 (args := [x0, x1]) (c := c30) (h := h30) (rs := [.tmp 4, .tmp 5]) Tryd.func30 (by kernel_rfl) (by kernel_rfl) (nB (by kernel_rfl)) (by kernel_rfl) (by kernel_rfl) (by kernel_rfl) ?_
 rw [← e9r]
 exact h
def F47 (x0 x1 : Value) (w : World) (R : RT) (E : Pan) : Prop :=
 oP E (xBin .and 96 (.tmp 14) (.const (Value.int .u64 4294967295)) x0 (Value.int .u64 4294967295)) w fun d7Q w_2 =>
 oP E (xBin .shr 96 (.tmp 16) (.const (Value.int .u64 32)) x0 (Value.int .u64 32)) w_2 fun c1c w_4 =>
 oP E (xBin .and 96 (.tmp 18) (.const (Value.int .u64 4294967295)) x1 (Value.int .u64 4294967295)) w_4 fun d7R w_6 =>
 oP E (xBin .shr 96 (.tmp 20) (.const (Value.int .u64 32)) x1 (Value.int .u64 32)) w_6 fun c1d w_8 =>
 oP E (xBin .mul 96 (.tmp 22) (.tmp 23) d7Q d7R) w_8 fun f8J m8 =>
 oP E (xBin .mul 96 (.tmp 25) (.tmp 26) c1c d7R) m8 fun e9t o4 =>
 oP E (xBin .shr 96 (.tmp 28) (.const (Value.int .u64 32)) f8J (Value.int .u64 32)) o4 fun c3x o2 =>
 oP E (xBin .add 96 (.tmp 27) (.tmp 29) e9t c3x) o2 fun b7Y p5 =>
 oP E (xBin .and 96 (.tmp 31) (.const (Value.int .u64 4294967295)) b7Y (Value.int .u64 4294967295)) p5 fun e9u q7 =>
 oP E (xBin .shr 96 (.tmp 33) (.const (Value.int .u64 32)) b7Y (Value.int .u64 32)) q7 fun e9v q9 =>
 oP E (xBin .mul 96 (.tmp 36) (.tmp 37) d7Q c1d) q9 fun e9w t1 =>
 oP E (xBin .add 96 (.tmp 35) (.tmp 38) e9u e9w) t1 fun e9x u5 =>
 oP E (xBin .mul 96 (.tmp 40) (.tmp 41) c1c c1d) u5 fun e9y A7 =>
 oP E (xBin .add 96 (.tmp 42) (.tmp 43) e9y e9v) A7 fun e9z C3 =>
 oP E (xBin .shr 96 (.tmp 45) (.const (Value.int .u64 32)) e9x (Value.int .u64 32)) C3 fun e9A D8 =>
 oP E (xBin .add 96 (.tmp 44) (.tmp 46) e9z e9A) D8 fun e9B B9 =>
 oP E (xBin .mul 96 (.tmp 48) (.tmp 49) x0 x1) B9 fun e9C D2 =>
 R (Value.tuple #[e9B, e9C]) D2
noncomputable def c47 : Code := Tryd.f47.body.getD .skip
def h47 : Hint := (sQ (sQ (sQ (sQ (sQ (sQ (sQ (sQ (sQ (sQ (sQ (sQ .none))))))))))))
theorem e9D (x0 x1 : Value) (w : World) (R : RT) (E : Pan) : F47 x0 x1 w R E = callX Tryd.prog [.tmp 4, .tmp 5] c47 h47 [x0, x1] w R E := by kernel_rfl
theorem e9E {x0 x1 : Value} (h : F47 x0 x1 w R E) : Cv Tryd.prog 47 #[x0, x1] w R E := by
 refine i2 (args := [x0, x1]) (c := c47) (h := h47) (rs := [.tmp 4, .tmp 5]) Tryd.func47 (by kernel_rfl) (by kernel_rfl) (nB (by kernel_rfl)) (by kernel_rfl) (by kernel_rfl) (by kernel_rfl) ?_
 rw [← e9D]
 exact h
def F48 (x0 : Value) (w : World) (R : RT) (E : Pan) : Prop :=
 oP E (xBin .lss 2 (.tmp 3) (.const (vI 0)) x0 (vI 0)) w fun a6R w_2 =>
 xcond a6R
 (oP E (xV (convert 2 96 x0)) w_2 fun a3k w_4 =>
 oP E (xV (Op.unary .neg a3k)) w_4 fun a7Z w_6 =>
 R a7Z w_6)
 (oP E (xV (convert 2 96 x0)) w_2 fun d4O w_8 =>
 R d4O w_8)
noncomputable def c48 : Code := Tryd.f48.body.getD .skip
def h48 : Hint := (sQ (.seq (sQ (.cond (sQ .none) .none)) (sQ .none)))
theorem e9F (x0 : Value) (w : World) (R : RT) (E : Pan) : F48 x0 w R E = callX Tryd.prog [.tmp 2] c48 h48 [x0] w R E := by kernel_rfl
theorem e9G {x0 : Value} (h : F48 x0 w R E) : Cv Tryd.prog 48 #[x0] w R E := by
 refine i2 (args := [x0]) (c := c48) (h := h48) (rs := [.tmp 2]) Tryd.func48 (by kernel_rfl) (by kernel_rfl) (nB (by kernel_rfl)) (by kernel_rfl) (by kernel_rfl) (by kernel_rfl) ?_
 rw [← e9F]
 exact h
def F49 (x0 x1 : Value) (w : World) (R : RT) (E : Pan) : Prop :=
 oP E (xBin .eql 2 (.tmp 6) (.const (vI 0)) x1 (vI 0)) w fun a2B w_2 =>
 xcond a2B
 (R (vI 2) w_2)
 (oP E (xBin .eql 2 (.tmp 9) (.const (vI (-9223372036854775808))) x0 (vI (-9223372036854775808))) w_2 fun b1u w_4 =>
 oP E (gsem (asB b1u) true (xBin .eql 2 (.tmp 12) (.const (vI (-1))) (gval (asB b1u) true x1) (vI (-1)))) w_4 fun a3U w_6 =>
 oP E (xPick b1u a3U (vB false)) w_6 fun S8 w_8 =>
 xcond S8
 (R (vI 1) w_8)
 (R (vI 0) w_8))
noncomputable def c49 : Code := Tryd.f49.body.getD .skip
def h49 : Hint := (sQ (.seq (.block (sQ (.cond (sQ .none) (sQ (.cond (sQ .none) .none))))) (sQ .none)))
theorem e9H (x0 x1 : Value) (w : World) (R : RT) (E : Pan) : F49 x0 x1 w R E = callX Tryd.prog [.tmp 4] c49 h49 [x0, x1] w R E := by kernel_rfl
theorem e9I {x0 x1 : Value} (h : F49 x0 x1 w R E) : Cv Tryd.prog 49 #[x0, x1] w R E := by
 refine i2 (args := [x0, x1]) (c := c49) (h := h49) (rs := [.tmp 4]) Tryd.func49 (by kernel_rfl) (by kernel_rfl) (nB (by kernel_rfl)) (by kernel_rfl) (by kernel_rfl) (by kernel_rfl) ?_
 rw [← e9H]
 exact h
def F75 (x0 x1 x2 : Value) (w : World) (R : RT) (E : Pan) : Prop :=
 oP E (xBin .lss 3 (.tmp 7) (.const (vI 1)) x0 (vI 1)) w fun a9W w_2 =>
 oP E (gsem (asB a9W) false (xBin .gtr 3 (.tmp 10) (.const (vI 6)) (gval (asB a9W) false x0) (vI 6))) w_2 fun a0J w_4 =>
 oP E (xPick a9W (vB true) a0J) w_4 fun a5r w_6 =>
 xcond a5r
 (R (vB false) w_6)
 (oP E (xCall (fC 110) []) w_6 fun a5s w_8 =>
 oP E (xV (Instr.index 171 a5s x0)) w_8 fun a4x m8 =>
 oP E (xCall a4x [x1, x2]) m8 fun b3J o4 =>
 R b3J o4)
noncomputable def c75 : Code := Tryd.f75.body.getD .skip
def h75 : Hint := (sQ (.seq (sQ (.cond (sQ .none) .none)) (sQ .none)))
theorem e9J (x0 x1 x2 : Value) (w : World) (R : RT) (E : Pan) : F75 x0 x1 x2 w R E = callX Tryd.prog [.tmp 6] c75 h75 [x0, x1, x2] w R E := by kernel_rfl
theorem e9K {x0 x1 x2 : Value} (h : F75 x0 x1 x2 w R E) : Cv Tryd.prog 75 #[x0, x1, x2] w R E := by
 refine i2 (args := [x0, x1, x2]) (c := c75) (h := h75) (rs := [.tmp 6]) Tryd.func75 (by kernel_rfl) (by kernel_rfl) (nB (by kernel_rfl)) (by kernel_rfl) (by kernel_rfl) (by kernel_rfl) ?_
 rw [← e9J]
 exact h
def c8h (x0 : Value) (w : World) (R : RT) (E : Pan) : Prop :=
 oP E (xCall (fC 27) [(vI 0), x0]) w fun b1x w_2 =>
 oP E (eX b1x 0) w_2 fun a3k w_4 =>
 oP E (eX b1x 1) w_4 fun a7Z w_6 =>
 R (Value.tuple #[a3k, a7Z]) w_6
noncomputable def e9L : Code := Tryd.f101.body.getD .skip
def e9M : Hint := (sQ (sQ .none))
theorem e0M (x0 : Value) (w : World) (R : RT) (E : Pan) : c8h x0 w R E = callX Tryd.prog [.tmp 2, .tmp 3] e9L e9M [x0] w R E := by kernel_rfl
theorem e0N {x0 : Value} (h : c8h x0 w R E) : Cv Tryd.prog 101 #[x0] w R E := by
 refine i2 (args := [x0]) (c := e9L) (h := e9M) (rs := [.tmp 2, .tmp 3]) Tryd.func101 (by kernel_rfl) (by kernel_rfl) (nB (by kernel_rfl)) (by kernel_rfl) (by kernel_rfl) (by kernel_rfl) ?_
 rw [← e0M]
 exact h
def c8i (w : World) (R : RT) (E : Pan) : Prop :=
 oP E (xV (Instr.alloc 171 true (.tuple #[]))) w fun e9N w_2 =>
 oP E (xV (Instr.build 171 #[(0, (fC 123)), (1, (fC 124)), (2, (fC 125)), (3, (fC 126)), (4, (fC 127)), (5, (fC 128)), (6, (fC 129))])) w_2 fun g3q w_4 =>
 oP E (sA 171 e9N g3q) w_4 fun _z_5 w_6 =>
 xcell Tryd.prog 171 e9N w_6 fun r_7 =>
 R r_7 w_6
noncomputable def e9O : Code := Tryd.f110.body.getD .skip
def e9P : Hint := (sQ (sQ .none))
theorem e0O (w : World) (R : RT) (E : Pan) : c8i  w R E = callX Tryd.prog [.cell 0 171] e9O e9P [] w R E := by kernel_rfl
theorem e0P (h : c8i  w R E) : Cv Tryd.prog 110 #[] w R E := by
 refine i2 (args := []) (c := e9O) (h := e9P) (rs := [.cell 0 171]) Tryd.func110 (by kernel_rfl) (by kernel_rfl) (Nat.zero_le _) (by kernel_rfl) (by kernel_rfl) (by kernel_rfl) ?_
 rw [← e0O]
 exact h
def c8j (x0 x1 : Value) (w : World) (R : RT) (E : Pan) : Prop :=
 oP E (xBin .lss 2 (.tmp 5) (.tmp 6) x0 x1) w fun a2B w_2 =>
 R a2B w_2
noncomputable def e9Q : Code := Tryd.f124.body.getD .skip
def e9R : Hint := (sQ (sQ .none))
theorem e0Q (x0 x1 : Value) (w : World) (R : RT) (E : Pan) : c8j x0 x1 w R E = callX Tryd.prog [.tmp 4] e9Q e9R [x0, x1] w R E := by kernel_rfl
theorem e0R {x0 x1 : Value} (h : c8j x0 x1 w R E) : Cv Tryd.prog 124 #[x0, x1] w R E := by
 refine i2 (args := [x0, x1]) (c := e9Q) (h := e9R) (rs := [.tmp 4]) Tryd.func124 (by kernel_rfl) (by kernel_rfl) (nB (by kernel_rfl)) (by kernel_rfl) (by kernel_rfl) (by kernel_rfl) ?_
 rw [← e0Q]
 exact h
def c8k (x0 x1 : Value) (w : World) (R : RT) (E : Pan) : Prop :=
 oP E (xBin .leq 2 (.tmp 5) (.tmp 6) x0 x1) w fun a2B w_2 =>
 R a2B w_2
noncomputable def e9S : Code := Tryd.f125.body.getD .skip
def e9T : Hint := (sQ (sQ .none))
theorem e0S (x0 x1 : Value) (w : World) (R : RT) (E : Pan) : c8k x0 x1 w R E = callX Tryd.prog [.tmp 4] e9S e9T [x0, x1] w R E := by kernel_rfl
theorem e0T {x0 x1 : Value} (h : c8k x0 x1 w R E) : Cv Tryd.prog 125 #[x0, x1] w R E := by
 refine i2 (args := [x0, x1]) (c := e9S) (h := e9T) (rs := [.tmp 4]) Tryd.func125 (by kernel_rfl) (by kernel_rfl) (nB (by kernel_rfl)) (by kernel_rfl) (by kernel_rfl) (by kernel_rfl) ?_
 rw [← e0S]
 exact h
def c8l (x0 x1 : Value) (w : World) (R : RT) (E : Pan) : Prop :=
 oP E (xBin .eql 2 (.tmp 5) (.tmp 6) x0 x1) w fun a2B w_2 =>
 R a2B w_2
noncomputable def e9U : Code := Tryd.f126.body.getD .skip
def e9V : Hint := (sQ (sQ .none))
theorem e0U (x0 x1 : Value) (w : World) (R : RT) (E : Pan) : c8l x0 x1 w R E = callX Tryd.prog [.tmp 4] e9U e9V [x0, x1] w R E := by kernel_rfl
theorem e0V {x0 x1 : Value} (h : c8l x0 x1 w R E) : Cv Tryd.prog 126 #[x0, x1] w R E := by
 refine i2 (args := [x0, x1]) (c := e9U) (h := e9V) (rs := [.tmp 4]) Tryd.func126 (by kernel_rfl) (by kernel_rfl) (nB (by kernel_rfl)) (by kernel_rfl) (by kernel_rfl) (by kernel_rfl) ?_
 rw [← e0U]
 exact h
def c8m (x0 x1 : Value) (w : World) (R : RT) (E : Pan) : Prop :=
 oP E (xBin .neq 2 (.tmp 5) (.tmp 6) x0 x1) w fun a2B w_2 =>
 R a2B w_2
noncomputable def e9W : Code := Tryd.f127.body.getD .skip
def e9X : Hint := (sQ (sQ .none))
theorem e0W (x0 x1 : Value) (w : World) (R : RT) (E : Pan) : c8m x0 x1 w R E = callX Tryd.prog [.tmp 4] e9W e9X [x0, x1] w R E := by kernel_rfl
theorem e0X {x0 x1 : Value} (h : c8m x0 x1 w R E) : Cv Tryd.prog 127 #[x0, x1] w R E := by
 refine i2 (args := [x0, x1]) (c := e9W) (h := e9X) (rs := [.tmp 4]) Tryd.func127 (by kernel_rfl) (by kernel_rfl) (nB (by kernel_rfl)) (by kernel_rfl) (by kernel_rfl) (by kernel_rfl) ?_
 rw [← e0W]
 exact h
def c8n (x0 x1 : Value) (w : World) (R : RT) (E : Pan) : Prop :=
 oP E (xBin .gtr 2 (.tmp 5) (.tmp 6) x0 x1) w fun a2B w_2 =>
 R a2B w_2
noncomputable def e9Y : Code := Tryd.f128.body.getD .skip
def e9Z : Hint := (sQ (sQ .none))
theorem e0Y (x0 x1 : Value) (w : World) (R : RT) (E : Pan) : c8n x0 x1 w R E = callX Tryd.prog [.tmp 4] e9Y e9Z [x0, x1] w R E := by kernel_rfl
theorem e0Z {x0 x1 : Value} (h : c8n x0 x1 w R E) : Cv Tryd.prog 128 #[x0, x1] w R E := by
 refine i2 (args := [x0, x1]) (c := e9Y) (h := e9Z) (rs := [.tmp 4]) Tryd.func128 (by kernel_rfl) (by kernel_rfl) (nB (by kernel_rfl)) (by kernel_rfl) (by kernel_rfl) (by kernel_rfl) ?_
 rw [← e0Y]
 exact h
def c8o (x0 x1 : Value) (w : World) (R : RT) (E : Pan) : Prop :=
 oP E (xBin .geq 2 (.tmp 5) (.tmp 6) x0 x1) w fun a2B w_2 =>
 R a2B w_2
noncomputable def f0a : Code := Tryd.f129.body.getD .skip
def f0b : Hint := (sQ (sQ .none))
theorem e1a (x0 x1 : Value) (w : World) (R : RT) (E : Pan) : c8o x0 x1 w R E = callX Tryd.prog [.tmp 4] f0a f0b [x0, x1] w R E := by kernel_rfl
theorem e1b {x0 x1 : Value} (h : c8o x0 x1 w R E) : Cv Tryd.prog 129 #[x0, x1] w R E := by
 refine i2 (args := [x0, x1]) (c := f0a) (h := f0b) (rs := [.tmp 4]) Tryd.func129 (by kernel_rfl) (by kernel_rfl) (nB (by kernel_rfl)) (by kernel_rfl) (by kernel_rfl) (by kernel_rfl) ?_
 rw [← e1a]
 exact h
end Go.Proofs.YtnhkdkcgdcgmdaaDoor
