/- The second reading of some of the program's functions, printed by gen2.py off the code; each is held against the code by the kernel. -/
import Derived.Test.YtnhkdkcgdcgmdaaDoorProg
import Derived.Test.YtnhkdkcgdcgmdaaDoorzOK0
import Derived.KernelRfl
import Derived.Test.YtnhkdkcgdcgmdaaDoorzOGz
namespace Go.Proofs.YtnhkdkcgdcgmdaaDoor
open Go.RowKit
set_option maxRecDepth 100000
variable {w : World} {R : RT} {E : Pan}
def F26 (x0 x1 : Value) (w : World) (R : RT) (E : Pan) : Prop :=
 oP E (xBin .add 2 (.tmp 7) (.tmp 8) x0 x1) w fun b2V w_2 =>
 oP E (xBin .lss 2 (.tmp 10) (.const (vI 0)) x0 (vI 0)) w_2 fun a6g w_4 =>
 oP E (xBin .lss 2 (.tmp 12) (.const (vI 0)) x1 (vI 0)) w_4 fun b4g w_6 =>
 oP E (xBin .eql 4 (.tmp 11) (.tmp 13) a6g b4g) w_6 fun a4Q w_8 =>
 oP E (gsem (asB a4Q) true (xBin .lss 2 (.tmp 16) (.const (vI 0)) (gval (asB a4Q) true b2V) (vI 0))) w_8 fun d3K o7 =>
 oP E (gsem (asB a4Q) true (xBin .lss 2 (.tmp 18) (.const (vI 0)) (gval (asB a4Q) true x0) (vI 0))) o7 fun b8Z o4 =>
 oP E (gsem (asB a4Q) true (xBin .neq 4 (.tmp 17) (.tmp 19) d3K b8Z)) o4 fun a5L o8 =>
 oP E (xPick a4Q a5L (vB false)) o8 fun a7j s6 =>
 xcond a7j
 (R (Value.tuple #[(vI 0), (vI 1)]) s6)
 (R (Value.tuple #[b2V, (vI 0)]) s6)
noncomputable def c26 : Code := Tryd.f26.body.getD .skip
def h26 : Hint := (sQ (sQ (.seq (sQ (.cond (sQ .none) .none)) (sQ .none))))
theorem f4e (x0 x1 : Value) (w : World) (R : RT) (E : Pan) : F26 x0 x1 w R E = callX Tryd.prog [.tmp 4, .tmp 5] c26 h26 [x0, x1] w R E := by kernel_rfl
theorem f4f {x0 x1 : Value} (h : F26 x0 x1 w R E) : Cv Tryd.prog 26 #[x0, x1] w R E := by
 refine f8 (args := [x0, x1]) (c := c26) (h := h26) (rs := [.tmp 4, .tmp 5]) Tryd.func26 (by kernel_rfl) (by kernel_rfl) (nB (by kernel_rfl)) (by kernel_rfl) (by kernel_rfl) (by kernel_rfl) ?_
 rw [← f4e]
 exact h
def F27 (x0 x1 : Value) (w : World) (R : RT) (E : Pan) : Prop :=
 oP E (xBin .sub 2 (.tmp 7) (.tmp 8) x0 x1) w fun b2V w_2 =>
 oP E (xBin .lss 2 (.tmp 10) (.const (vI 0)) x0 (vI 0)) w_2 fun a6g w_4 =>
 oP E (xBin .lss 2 (.tmp 12) (.const (vI 0)) x1 (vI 0)) w_4 fun b4g w_6 =>
 oP E (xBin .neq 4 (.tmp 11) (.tmp 13) a6g b4g) w_6 fun a4Q w_8 =>
 oP E (gsem (asB a4Q) true (xBin .lss 2 (.tmp 16) (.const (vI 0)) (gval (asB a4Q) true b2V) (vI 0))) w_8 fun d3K o7 =>
 oP E (gsem (asB a4Q) true (xBin .lss 2 (.tmp 18) (.const (vI 0)) (gval (asB a4Q) true x0) (vI 0))) o7 fun b8Z o4 =>
 oP E (gsem (asB a4Q) true (xBin .neq 4 (.tmp 17) (.tmp 19) d3K b8Z)) o4 fun a5L o8 =>
 oP E (xPick a4Q a5L (vB false)) o8 fun a7j s6 =>
 xcond a7j
 (R (Value.tuple #[(vI 0), (vI 1)]) s6)
 (R (Value.tuple #[b2V, (vI 0)]) s6)
noncomputable def c27 : Code := Tryd.f27.body.getD .skip
def h27 : Hint := (sQ (sQ (.seq (sQ (.cond (sQ .none) .none)) (sQ .none))))
theorem f4g (x0 x1 : Value) (w : World) (R : RT) (E : Pan) : F27 x0 x1 w R E = callX Tryd.prog [.tmp 4, .tmp 5] c27 h27 [x0, x1] w R E := by kernel_rfl
theorem f4h {x0 x1 : Value} (h : F27 x0 x1 w R E) : Cv Tryd.prog 27 #[x0, x1] w R E := by
 refine f8 (args := [x0, x1]) (c := c27) (h := h27) (rs := [.tmp 4, .tmp 5]) Tryd.func27 (by kernel_rfl) (by kernel_rfl) (nB (by kernel_rfl)) (by kernel_rfl) (by kernel_rfl) (by kernel_rfl) ?_
 rw [← f4g]
 exact h
def c9t (x0 x1 x6 x7 x8 : Value) (w : World) (R : RT) (E : Pan) : Prop :=
 ∀ _τ : Fr, (oP E (xBin .neq 96 (.tmp 24) (.const (Value.int .u64 0)) x6 (Value.int .u64 0)) w fun c3q o4 =>
 oP E (gsem (asB c3q) false (xBin .gtr 96 (.tmp 27) (.tmp 28) (gval (asB c3q) false x7) (gval (asB c3q) false x8))) o4 fun c9u o8 =>
 oP E (xPick c3q (vB true) c9u) o8 fun c3r s6 =>
 xcond c3r
 (R (Value.tuple #[(vI 0), (vI 1)]) s6)
 (oP E (xBin .mul 2 (.tmp 31) (.tmp 32) x0 x1) s6 fun c9v v7 =>
 R (Value.tuple #[c9v, (vI 0)]) v7))
def F28 (x0 x1 : Value) (w : World) (R : RT) (E : Pan) : Prop :=
 oP E (xCall (fC 48) [x0]) w fun b1k w_2 =>
 oP E (xCall (fC 48) [x1]) w_2 fun b1l w_4 =>
 oP E (xCall (fC 47) [b1k, b1l]) w_4 fun b3T w_6 =>
 oP E (eX b3T 0) w_6 fun d3L w_8 =>
 oP E (eX b3T 1) w_8 fun b6e o7 =>
 xcut (fun a5M u1 => c9t x0 x1 d3L b6e (nth a5M 0) u1 R E) fun j1 =>
 oP E (xBin .lss 2 (.tmp 17) (.const (vI 0)) x0 (vI 0)) o7 fun b8e v8 =>
 oP E (xBin .lss 2 (.tmp 19) (.const (vI 0)) x1 (vI 0)) v8 fun a0U y6 =>
 oP E (xBin .neq 4 (.tmp 18) (.tmp 20) b8e a0U) y6 fun f4i z6 =>
 xcond f4i
 (oP E (xBin .add 96 (.tmp 22) (.const (Value.int .u64 1)) (Value.int .u64 9223372036854775807) (Value.int .u64 1)) z6 fun c9w E5 =>
 j1 [c9w] E5)
 (j1 [(Value.int .u64 9223372036854775807)] z6)
noncomputable def c28 : Code := Tryd.f28.body.getD .skip
def h28 : Hint := (sQ (sQ (sQ (.cut [8] (sQ (.cond .none .none)) (.seq (sQ (.cond (sQ .none) .none)) (sQ .none))))))
theorem f4j (x0 x1 : Value) (w : World) (R : RT) (E : Pan) : F28 x0 x1 w R E = callX Tryd.prog [.tmp 4, .tmp 5] c28 h28 [x0, x1] w R E := by kernel_rfl
theorem f4k {x0 x1 : Value} (h : F28 x0 x1 w R E) : Cv Tryd.prog 28 #[x0, x1] w R E := by
 refine f8 (args := [x0, x1]) (c := c28) (h := h28) (rs := [.tmp 4, .tmp 5]) Tryd.func28 (by kernel_rfl) (by kernel_rfl) (nB (by kernel_rfl)) (by kernel_rfl) (by kernel_rfl) (by kernel_rfl) ?_
 rw [← f4j]
 exact h
def F29 (x0 x1 : Value) (w : World) (R : RT) (E : Pan) : Prop :=
 oP E (xCall (fC 49) [x0, x1]) w fun b2V w_2 =>
 oP E (xBin .neq 3 (.tmp 10) (.const (vI 0)) b2V (vI 0)) w_2 fun a6g w_4 =>
 xcond a6g
 (R (Value.tuple #[(vI 0), b2V]) w_4)
 (oP E (xBin .quo 2 (.tmp 13) (.tmp 14) x0 x1) w_4 fun d3M w_6 =>
 R (Value.tuple #[d3M, (vI 0)]) w_6)
noncomputable def c29 : Code := Tryd.f29.body.getD .skip
def h29 : Hint := (sQ (.seq (sQ (sQ (.cond (sQ .none) .none))) (sQ .none)))
theorem f4l (x0 x1 : Value) (w : World) (R : RT) (E : Pan) : F29 x0 x1 w R E = callX Tryd.prog [.tmp 4, .tmp 5] c29 h29 [x0, x1] w R E := by kernel_rfl
theorem f4m {x0 x1 : Value} (h : F29 x0 x1 w R E) : Cv Tryd.prog 29 #[x0, x1] w R E := by
 refine f8 (args := [x0, x1]) (c := c29) (h := h29) (rs := [.tmp 4, .tmp 5]) Tryd.func29 (by kernel_rfl) (by kernel_rfl) (nB (by kernel_rfl)) (by kernel_rfl) (by kernel_rfl) (by kernel_rfl) ?_
 rw [← f4l]
 exact h
def F30 (x0 x1 : Value) (w : World) (R : RT) (E : Pan) : Prop :=
 oP E (xCall (fC 49) [x0, x1]) w fun b2V w_2 =>
 oP E (xBin .neq 3 (.tmp 10) (.const (vI 0)) b2V (vI 0)) w_2 fun a6g w_4 =>
 xcond a6g
 (R (Value.tuple #[(vI 0), b2V]) w_4)
 (oP E (xBin .rem 2 (.tmp 13) (.tmp 14) x0 x1) w_4 fun d3M w_6 =>
 R (Value.tuple #[d3M, (vI 0)]) w_6)
noncomputable def c30 : Code := Tryd.f30.body.getD .skip
def h30 : Hint := (sQ (.seq (sQ (sQ (.cond (sQ .none) .none))) (sQ .none)))
theorem f4n (x0 x1 : Value) (w : World) (R : RT) (E : Pan) : F30 x0 x1 w R E = callX Tryd.prog [.tmp 4, .tmp 5] c30 h30 [x0, x1] w R E := by kernel_rfl
theorem f4o {x0 x1 : Value} (h : F30 x0 x1 w R E) : Cv Tryd.prog 30 #[x0, x1] w R E := by
 refine f8 (args := [x0, x1]) (c := c30) (h := h30) (rs := [.tmp 4, .tmp 5]) Tryd.func30 (by kernel_rfl) (by kernel_rfl) (nB (by kernel_rfl)) (by kernel_rfl) (by kernel_rfl) (by kernel_rfl) ?_
 rw [← f4n]
 exact h
def F47 (x0 x1 : Value) (w : World) (R : RT) (E : Pan) : Prop :=
 oP E (xBin .and 96 (.tmp 14) (.const (Value.int .u64 4294967295)) x0 (Value.int .u64 4294967295)) w fun e2Y w_2 =>
 oP E (xBin .shr 96 (.tmp 16) (.const (Value.int .u64 32)) x0 (Value.int .u64 32)) w_2 fun e2Z w_4 =>
 oP E (xBin .and 96 (.tmp 18) (.const (Value.int .u64 4294967295)) x1 (Value.int .u64 4294967295)) w_4 fun e3a w_6 =>
 oP E (xBin .shr 96 (.tmp 20) (.const (Value.int .u64 32)) x1 (Value.int .u64 32)) w_6 fun c6r w_8 =>
 oP E (xBin .mul 96 (.tmp 22) (.tmp 23) e2Y e3a) w_8 fun g2i o7 =>
 oP E (xBin .mul 96 (.tmp 25) (.tmp 26) e2Z e3a) o7 fun f4p o4 =>
 oP E (xBin .shr 96 (.tmp 28) (.const (Value.int .u64 32)) g2i (Value.int .u64 32)) o4 fun c9u o8 =>
 oP E (xBin .add 96 (.tmp 27) (.tmp 29) f4p c9u) o8 fun c3r s6 =>
 oP E (xBin .and 96 (.tmp 31) (.const (Value.int .u64 4294967295)) c3r (Value.int .u64 4294967295)) s6 fun f4q v7 =>
 oP E (xBin .shr 96 (.tmp 33) (.const (Value.int .u64 32)) c3r (Value.int .u64 32)) v7 fun f4r u1 =>
 oP E (xBin .mul 96 (.tmp 36) (.tmp 37) e2Y c6r) u1 fun f4s v8 =>
 oP E (xBin .add 96 (.tmp 35) (.tmp 38) f4q f4s) v8 fun f4t y6 =>
 oP E (xBin .mul 96 (.tmp 40) (.tmp 41) e2Z c6r) y6 fun f4u z6 =>
 oP E (xBin .add 96 (.tmp 42) (.tmp 43) f4u f4r) z6 fun f4v E5 =>
 oP E (xBin .shr 96 (.tmp 45) (.const (Value.int .u64 32)) f4t (Value.int .u64 32)) E5 fun f4w E1 =>
 oP E (xBin .add 96 (.tmp 44) (.tmp 46) f4v f4w) E1 fun f4x E2 =>
 oP E (xBin .mul 96 (.tmp 48) (.tmp 49) x0 x1) E2 fun f4y E3 =>
 R (Value.tuple #[f4x, f4y]) E3
noncomputable def c47 : Code := Tryd.f47.body.getD .skip
def h47 : Hint := (sQ (sQ (sQ (sQ (sQ (sQ (sQ (sQ (sQ (sQ (sQ (sQ .none))))))))))))
theorem f4z (x0 x1 : Value) (w : World) (R : RT) (E : Pan) : F47 x0 x1 w R E = callX Tryd.prog [.tmp 4, .tmp 5] c47 h47 [x0, x1] w R E := by kernel_rfl
theorem f4A {x0 x1 : Value} (h : F47 x0 x1 w R E) : Cv Tryd.prog 47 #[x0, x1] w R E := by
 refine f8 (args := [x0, x1]) (c := c47) (h := h47) (rs := [.tmp 4, .tmp 5]) Tryd.func47 (by kernel_rfl) (by kernel_rfl) (nB (by kernel_rfl)) (by kernel_rfl) (by kernel_rfl) (by kernel_rfl) ?_
 rw [← f4z]
 exact h
def F48 (x0 : Value) (w : World) (R : RT) (E : Pan) : Prop :=
 oP E (xBin .lss 2 (.tmp 3) (.const (vI 0)) x0 (vI 0)) w fun c0Y w_2 =>
 xcond c0Y
 (oP E (xV (convert 2 96 x0)) w_2 fun b6k w_4 =>
 oP E (xV (Op.unary .neg b6k)) w_4 fun a8D w_6 =>
 R a8D w_6)
 (oP E (xV (convert 2 96 x0)) w_2 fun c9x w_8 =>
 R c9x w_8)
noncomputable def c48 : Code := Tryd.f48.body.getD .skip
def h48 : Hint := (sQ (.seq (sQ (.cond (sQ .none) .none)) (sQ .none)))
theorem f4B (x0 : Value) (w : World) (R : RT) (E : Pan) : F48 x0 w R E = callX Tryd.prog [.tmp 2] c48 h48 [x0] w R E := by kernel_rfl
theorem f4C {x0 : Value} (h : F48 x0 w R E) : Cv Tryd.prog 48 #[x0] w R E := by
 refine f8 (args := [x0]) (c := c48) (h := h48) (rs := [.tmp 2]) Tryd.func48 (by kernel_rfl) (by kernel_rfl) (nB (by kernel_rfl)) (by kernel_rfl) (by kernel_rfl) (by kernel_rfl) ?_
 rw [← f4B]
 exact h
def F49 (x0 x1 : Value) (w : World) (R : RT) (E : Pan) : Prop :=
 oP E (xBin .eql 2 (.tmp 6) (.const (vI 0)) x1 (vI 0)) w fun a6f w_2 =>
 xcond a6f
 (R (vI 2) w_2)
 (oP E (xBin .eql 2 (.tmp 9) (.const (vI (-9223372036854775808))) x0 (vI (-9223372036854775808))) w_2 fun b6i w_4 =>
 oP E (gsem (asB b6i) true (xBin .eql 2 (.tmp 12) (.const (vI (-1))) (gval (asB b6i) true x1) (vI (-1)))) w_4 fun b4g w_6 =>
 oP E (xPick b6i b4g (vB false)) w_6 fun a4Q w_8 =>
 xcond a4Q
 (R (vI 1) w_8)
 (R (vI 0) w_8))
noncomputable def c49 : Code := Tryd.f49.body.getD .skip
def h49 : Hint := (sQ (.seq (.block (sQ (.cond (sQ .none) (sQ (.cond (sQ .none) .none))))) (sQ .none)))
theorem f4D (x0 x1 : Value) (w : World) (R : RT) (E : Pan) : F49 x0 x1 w R E = callX Tryd.prog [.tmp 4] c49 h49 [x0, x1] w R E := by kernel_rfl
theorem f4E {x0 x1 : Value} (h : F49 x0 x1 w R E) : Cv Tryd.prog 49 #[x0, x1] w R E := by
 refine f8 (args := [x0, x1]) (c := c49) (h := h49) (rs := [.tmp 4]) Tryd.func49 (by kernel_rfl) (by kernel_rfl) (nB (by kernel_rfl)) (by kernel_rfl) (by kernel_rfl) (by kernel_rfl) ?_
 rw [← f4D]
 exact h
def F75 (x0 x1 x2 : Value) (w : World) (R : RT) (E : Pan) : Prop :=
 oP E (xBin .lss 3 (.tmp 7) (.const (vI 1)) x0 (vI 1)) w fun c4H w_2 =>
 oP E (gsem (asB c4H) false (xBin .gtr 3 (.tmp 10) (.const (vI 6)) (gval (asB c4H) false x0) (vI 6))) w_2 fun a6g w_4 =>
 oP E (xPick c4H (vB true) a6g) w_4 fun b6g w_6 =>
 xcond b6g
 (R (vB false) w_6)
 (oP E (xCall (fC 110) []) w_6 fun b6h w_8 =>
 oP E (xV (Instr.index 171 b6h x0)) w_8 fun d2E o7 =>
 oP E (xCall d2E [x1, x2]) o7 fun b1Z o4 =>
 R b1Z o4)
noncomputable def c75 : Code := Tryd.f75.body.getD .skip
def h75 : Hint := (sQ (.seq (sQ (.cond (sQ .none) .none)) (sQ .none)))
theorem f4F (x0 x1 x2 : Value) (w : World) (R : RT) (E : Pan) : F75 x0 x1 x2 w R E = callX Tryd.prog [.tmp 6] c75 h75 [x0, x1, x2] w R E := by kernel_rfl
theorem f4G {x0 x1 x2 : Value} (h : F75 x0 x1 x2 w R E) : Cv Tryd.prog 75 #[x0, x1, x2] w R E := by
 refine f8 (args := [x0, x1, x2]) (c := c75) (h := h75) (rs := [.tmp 6]) Tryd.func75 (by kernel_rfl) (by kernel_rfl) (nB (by kernel_rfl)) (by kernel_rfl) (by kernel_rfl) (by kernel_rfl) ?_
 rw [← f4F]
 exact h
def d3N (x0 : Value) (w : World) (R : RT) (E : Pan) : Prop :=
 oP E (xCall (fC 27) [(vI 0), x0]) w fun c7V w_2 =>
 oP E (eX c7V 0) w_2 fun b6k w_4 =>
 oP E (eX c7V 1) w_4 fun a8D w_6 =>
 R (Value.tuple #[b6k, a8D]) w_6
noncomputable def f4H : Code := Tryd.f101.body.getD .skip
def f4I : Hint := (sQ (sQ .none))
theorem e6l (x0 : Value) (w : World) (R : RT) (E : Pan) : d3N x0 w R E = callX Tryd.prog [.tmp 2, .tmp 3] f4H f4I [x0] w R E := by kernel_rfl
theorem e6m {x0 : Value} (h : d3N x0 w R E) : Cv Tryd.prog 101 #[x0] w R E := by
 refine f8 (args := [x0]) (c := f4H) (h := f4I) (rs := [.tmp 2, .tmp 3]) Tryd.func101 (by kernel_rfl) (by kernel_rfl) (nB (by kernel_rfl)) (by kernel_rfl) (by kernel_rfl) (by kernel_rfl) ?_
 rw [← e6l]
 exact h
def d3O (w : World) (R : RT) (E : Pan) : Prop :=
 oP E (xV (Instr.alloc 171 true (.tuple #[]))) w fun f4J w_2 =>
 oP E (xV (Instr.build 171 #[(0, (fC 123)), (1, (fC 124)), (2, (fC 125)), (3, (fC 126)), (4, (fC 127)), (5, (fC 128)), (6, (fC 129))])) w_2 fun g6g w_4 =>
 oP E (sA 171 f4J g6g) w_4 fun _z_5 w_6 =>
 xcell Tryd.prog 171 f4J w_6 fun r_7 =>
 R r_7 w_6
noncomputable def f4K : Code := Tryd.f110.body.getD .skip
def f4L : Hint := (sQ (sQ .none))
theorem e6n (w : World) (R : RT) (E : Pan) : d3O  w R E = callX Tryd.prog [.cell 0 171] f4K f4L [] w R E := by kernel_rfl
theorem e6o (h : d3O  w R E) : Cv Tryd.prog 110 #[] w R E := by
 refine f8 (args := []) (c := f4K) (h := f4L) (rs := [.cell 0 171]) Tryd.func110 (by kernel_rfl) (by kernel_rfl) (Nat.zero_le _) (by kernel_rfl) (by kernel_rfl) (by kernel_rfl) ?_
 rw [← e6n]
 exact h
def d3P (x0 x1 : Value) (w : World) (R : RT) (E : Pan) : Prop :=
 oP E (xBin .lss 2 (.tmp 5) (.tmp 6) x0 x1) w fun a6f w_2 =>
 R a6f w_2
noncomputable def f4M : Code := Tryd.f124.body.getD .skip
def f4N : Hint := (sQ (sQ .none))
theorem e6p (x0 x1 : Value) (w : World) (R : RT) (E : Pan) : d3P x0 x1 w R E = callX Tryd.prog [.tmp 4] f4M f4N [x0, x1] w R E := by kernel_rfl
theorem e6q {x0 x1 : Value} (h : d3P x0 x1 w R E) : Cv Tryd.prog 124 #[x0, x1] w R E := by
 refine f8 (args := [x0, x1]) (c := f4M) (h := f4N) (rs := [.tmp 4]) Tryd.func124 (by kernel_rfl) (by kernel_rfl) (nB (by kernel_rfl)) (by kernel_rfl) (by kernel_rfl) (by kernel_rfl) ?_
 rw [← e6p]
 exact h
def d3Q (x0 x1 : Value) (w : World) (R : RT) (E : Pan) : Prop :=
 oP E (xBin .leq 2 (.tmp 5) (.tmp 6) x0 x1) w fun a6f w_2 =>
 R a6f w_2
noncomputable def f4O : Code := Tryd.f125.body.getD .skip
def f4P : Hint := (sQ (sQ .none))
theorem e6r (x0 x1 : Value) (w : World) (R : RT) (E : Pan) : d3Q x0 x1 w R E = callX Tryd.prog [.tmp 4] f4O f4P [x0, x1] w R E := by kernel_rfl
theorem e6s {x0 x1 : Value} (h : d3Q x0 x1 w R E) : Cv Tryd.prog 125 #[x0, x1] w R E := by
 refine f8 (args := [x0, x1]) (c := f4O) (h := f4P) (rs := [.tmp 4]) Tryd.func125 (by kernel_rfl) (by kernel_rfl) (nB (by kernel_rfl)) (by kernel_rfl) (by kernel_rfl) (by kernel_rfl) ?_
 rw [← e6r]
 exact h
def d3R (x0 x1 : Value) (w : World) (R : RT) (E : Pan) : Prop :=
 oP E (xBin .eql 2 (.tmp 5) (.tmp 6) x0 x1) w fun a6f w_2 =>
 R a6f w_2
noncomputable def f4Q : Code := Tryd.f126.body.getD .skip
def f4R : Hint := (sQ (sQ .none))
theorem e6t (x0 x1 : Value) (w : World) (R : RT) (E : Pan) : d3R x0 x1 w R E = callX Tryd.prog [.tmp 4] f4Q f4R [x0, x1] w R E := by kernel_rfl
theorem e6u {x0 x1 : Value} (h : d3R x0 x1 w R E) : Cv Tryd.prog 126 #[x0, x1] w R E := by
 refine f8 (args := [x0, x1]) (c := f4Q) (h := f4R) (rs := [.tmp 4]) Tryd.func126 (by kernel_rfl) (by kernel_rfl) (nB (by kernel_rfl)) (by kernel_rfl) (by kernel_rfl) (by kernel_rfl) ?_
 rw [← e6t]
 exact h
def d3S (x0 x1 : Value) (w : World) (R : RT) (E : Pan) : Prop :=
 oP E (xBin .neq 2 (.tmp 5) (.tmp 6) x0 x1) w fun a6f w_2 =>
 R a6f w_2
noncomputable def f4S : Code := Tryd.f127.body.getD .skip
def f4T : Hint := (sQ (sQ .none))
theorem e6v (x0 x1 : Value) (w : World) (R : RT) (E : Pan) : d3S x0 x1 w R E = callX Tryd.prog [.tmp 4] f4S f4T [x0, x1] w R E := by kernel_rfl
theorem e6w {x0 x1 : Value} (h : d3S x0 x1 w R E) : Cv Tryd.prog 127 #[x0, x1] w R E := by
 refine f8 (args := [x0, x1]) (c := f4S) (h := f4T) (rs := [.tmp 4]) Tryd.func127 (by kernel_rfl) (by kernel_rfl) (nB (by kernel_rfl)) (by kernel_rfl) (by kernel_rfl) (by kernel_rfl) ?_
 rw [← e6v]
 exact h
def d3T (x0 x1 : Value) (w : World) (R : RT) (E : Pan) : Prop :=
 oP E (xBin .gtr 2 (.tmp 5) (.tmp 6) x0 x1) w fun a6f w_2 =>
 R a6f w_2
noncomputable def f4U : Code := Tryd.f128.body.getD .skip
def f4V : Hint := (sQ (sQ .none))
theorem e6x (x0 x1 : Value) (w : World) (R : RT) (E : Pan) : d3T x0 x1 w R E = callX Tryd.prog [.tmp 4] f4U f4V [x0, x1] w R E := by kernel_rfl
theorem e6y {x0 x1 : Value} (h : d3T x0 x1 w R E) : Cv Tryd.prog 128 #[x0, x1] w R E := by
 refine f8 (args := [x0, x1]) (c := f4U) (h := f4V) (rs := [.tmp 4]) Tryd.func128 (by kernel_rfl) (by kernel_rfl) (nB (by kernel_rfl)) (by kernel_rfl) (by kernel_rfl) (by kernel_rfl) ?_
 rw [← e6x]
 exact h
def d3U (x0 x1 : Value) (w : World) (R : RT) (E : Pan) : Prop :=
 oP E (xBin .geq 2 (.tmp 5) (.tmp 6) x0 x1) w fun a6f w_2 =>
 R a6f w_2
noncomputable def f4W : Code := Tryd.f129.body.getD .skip
def f4X : Hint := (sQ (sQ .none))
theorem e6z (x0 x1 : Value) (w : World) (R : RT) (E : Pan) : d3U x0 x1 w R E = callX Tryd.prog [.tmp 4] f4W f4X [x0, x1] w R E := by kernel_rfl
theorem e6A {x0 x1 : Value} (h : d3U x0 x1 w R E) : Cv Tryd.prog 129 #[x0, x1] w R E := by
 refine f8 (args := [x0, x1]) (c := f4W) (h := f4X) (rs := [.tmp 4]) Tryd.func129 (by kernel_rfl) (by kernel_rfl) (nB (by kernel_rfl)) (by kernel_rfl) (by kernel_rfl) (by kernel_rfl) ?_
 rw [← e6z]
 exact h
end Go.Proofs.YtnhkdkcgdcgmdaaDoor
