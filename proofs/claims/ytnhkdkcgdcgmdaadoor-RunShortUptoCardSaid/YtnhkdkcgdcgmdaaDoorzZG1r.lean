/- The second reading of some of the program's functions, printed by gen2.py off the code; each is held against the code by the kernel. -/
import Derived.Test.YtnhkdkcgdcgmdaaDoorProg
import Derived.Test.YtnhkdkcgdcgmdaaDoorzZK0
import Derived.KernelRfl
import Derived.Test.YtnhkdkcgdcgmdaaDoorzZGz
namespace Go.Proofs.YtnhkdkcgdcgmdaaDoor
open Go.RowKit
set_option maxRecDepth 100000
variable {w : World} {R : RT} {E : Pan}
def F26 (x0 x1 : Value) (w : World) (R : RT) (E : Pan) : Prop :=
 oP E (xBin .add 2 (.tmp 7) (.tmp 8) x0 x1) w fun a9e w_2 =>
 oP E (xBin .lss 2 (.tmp 10) (.const (vI 0)) x0 (vI 0)) w_2 fun a1j w_4 =>
 oP E (xBin .lss 2 (.tmp 12) (.const (vI 0)) x1 (vI 0)) w_4 fun a4r w_6 =>
 oP E (xBin .eql 4 (.tmp 11) (.tmp 13) a1j a4r) w_6 fun U2 w_8 =>
 oP E (gsem (asB U2) true (xBin .lss 2 (.tmp 16) (.const (vI 0)) (gval (asB U2) true a9e) (vI 0))) w_8 fun b8x o3 =>
 oP E (gsem (asB U2) true (xBin .lss 2 (.tmp 18) (.const (vI 0)) (gval (asB U2) true x0) (vI 0))) o3 fun a7c p8 =>
 oP E (gsem (asB U2) true (xBin .neq 4 (.tmp 17) (.tmp 19) b8x a7c)) p8 fun a9f o9 =>
 oP E (xPick U2 a9f (vB false)) o9 fun b4i q8 =>
 xcond b4i
 (R (Value.tuple #[(vI 0), (vI 1)]) q8)
 (R (Value.tuple #[a9e, (vI 0)]) q8)
noncomputable def c26 : Code := Tryd.f26.body.getD .skip
def h26 : Hint := (sQ (sQ (.seq (sQ (.cond (sQ .none) .none)) (sQ .none))))
theorem f1h (x0 x1 : Value) (w : World) (R : RT) (E : Pan) : F26 x0 x1 w R E = callX Tryd.prog [.tmp 4, .tmp 5] c26 h26 [x0, x1] w R E := by kernel_rfl
theorem f1i {x0 x1 : Value} (h : F26 x0 x1 w R E) : Cv Tryd.prog 26 #[x0, x1] w R E := by
 refine i8 (args := [x0, x1]) (c := c26) (h := h26) (rs := [.tmp 4, .tmp 5]) Tryd.func26 (by kernel_rfl) (by kernel_rfl) (nB (by kernel_rfl)) (by kernel_rfl) (by kernel_rfl) (by kernel_rfl) ?_
 rw [← f1h]
 exact h
def F27 (x0 x1 : Value) (w : World) (R : RT) (E : Pan) : Prop :=
 oP E (xBin .sub 2 (.tmp 7) (.tmp 8) x0 x1) w fun a9e w_2 =>
 oP E (xBin .lss 2 (.tmp 10) (.const (vI 0)) x0 (vI 0)) w_2 fun a1j w_4 =>
 oP E (xBin .lss 2 (.tmp 12) (.const (vI 0)) x1 (vI 0)) w_4 fun a4r w_6 =>
 oP E (xBin .neq 4 (.tmp 11) (.tmp 13) a1j a4r) w_6 fun U2 w_8 =>
 oP E (gsem (asB U2) true (xBin .lss 2 (.tmp 16) (.const (vI 0)) (gval (asB U2) true a9e) (vI 0))) w_8 fun b8x o3 =>
 oP E (gsem (asB U2) true (xBin .lss 2 (.tmp 18) (.const (vI 0)) (gval (asB U2) true x0) (vI 0))) o3 fun a7c p8 =>
 oP E (gsem (asB U2) true (xBin .neq 4 (.tmp 17) (.tmp 19) b8x a7c)) p8 fun a9f o9 =>
 oP E (xPick U2 a9f (vB false)) o9 fun b4i q8 =>
 xcond b4i
 (R (Value.tuple #[(vI 0), (vI 1)]) q8)
 (R (Value.tuple #[a9e, (vI 0)]) q8)
noncomputable def c27 : Code := Tryd.f27.body.getD .skip
def h27 : Hint := (sQ (sQ (.seq (sQ (.cond (sQ .none) .none)) (sQ .none))))
theorem f1j (x0 x1 : Value) (w : World) (R : RT) (E : Pan) : F27 x0 x1 w R E = callX Tryd.prog [.tmp 4, .tmp 5] c27 h27 [x0, x1] w R E := by kernel_rfl
theorem f1k {x0 x1 : Value} (h : F27 x0 x1 w R E) : Cv Tryd.prog 27 #[x0, x1] w R E := by
 refine i8 (args := [x0, x1]) (c := c27) (h := h27) (rs := [.tmp 4, .tmp 5]) Tryd.func27 (by kernel_rfl) (by kernel_rfl) (nB (by kernel_rfl)) (by kernel_rfl) (by kernel_rfl) (by kernel_rfl) ?_
 rw [← f1j]
 exact h
def c4w (x0 x1 x6 x7 x8 : Value) (w : World) (R : RT) (E : Pan) : Prop :=
 ∀ _τ : Fr, (oP E (xBin .neq 96 (.tmp 24) (.const (Value.int .u64 0)) x6 (Value.int .u64 0)) w fun b1e p8 =>
 oP E (gsem (asB b1e) false (xBin .gtr 96 (.tmp 27) (.tmp 28) (gval (asB b1e) false x7) (gval (asB b1e) false x8))) p8 fun c4x o9 =>
 oP E (xPick b1e (vB true) c4x) o9 fun b8y q8 =>
 xcond b8y
 (R (Value.tuple #[(vI 0), (vI 1)]) q8)
 (oP E (xBin .mul 2 (.tmp 31) (.tmp 32) x0 x1) q8 fun f1l r7 =>
 R (Value.tuple #[f1l, (vI 0)]) r7))
def F28 (x0 x1 : Value) (w : World) (R : RT) (E : Pan) : Prop :=
 oP E (xCall (fC 48) [x0]) w fun c9f w_2 =>
 oP E (xCall (fC 48) [x1]) w_2 fun b8z w_4 =>
 oP E (xCall (fC 47) [c9f, b8z]) w_4 fun d9l w_6 =>
 oP E (eX d9l 0) w_6 fun c9g w_8 =>
 oP E (eX d9l 1) w_8 fun c9h o3 =>
 xcut (fun a3D r9 => c4w x0 x1 c9g c9h (nth a3D 0) r9 R E) fun j1 =>
 oP E (xBin .lss 2 (.tmp 17) (.const (vI 0)) x0 (vI 0)) o3 fun f1m t8 =>
 oP E (xBin .lss 2 (.tmp 19) (.const (vI 0)) x1 (vI 0)) t8 fun a5N v6 =>
 oP E (xBin .neq 4 (.tmp 18) (.tmp 20) f1m a5N) v6 fun f1n A9 =>
 xcond f1n
 (oP E (xBin .add 96 (.tmp 22) (.const (Value.int .u64 1)) (Value.int .u64 9223372036854775807) (Value.int .u64 1)) A9 fun b4j C7 =>
 j1 [b4j] C7)
 (j1 [(Value.int .u64 9223372036854775807)] A9)
noncomputable def c28 : Code := Tryd.f28.body.getD .skip
def h28 : Hint := (sQ (sQ (sQ (.cut [8] (sQ (.cond .none .none)) (.seq (sQ (.cond (sQ .none) .none)) (sQ .none))))))
theorem f1o (x0 x1 : Value) (w : World) (R : RT) (E : Pan) : F28 x0 x1 w R E = callX Tryd.prog [.tmp 4, .tmp 5] c28 h28 [x0, x1] w R E := by kernel_rfl
theorem f1p {x0 x1 : Value} (h : F28 x0 x1 w R E) : Cv Tryd.prog 28 #[x0, x1] w R E := by
 refine i8 (args := [x0, x1]) (c := c28) (h := h28) (rs := [.tmp 4, .tmp 5]) Tryd.func28 (by kernel_rfl) (by kernel_rfl) (nB (by kernel_rfl)) (by kernel_rfl) (by kernel_rfl) (by kernel_rfl) ?_
 rw [← f1o]
 exact h
def F29 (x0 x1 : Value) (w : World) (R : RT) (E : Pan) : Prop :=
 oP E (xCall (fC 49) [x0, x1]) w fun a9e w_2 =>
 oP E (xBin .neq 3 (.tmp 10) (.const (vI 0)) a9e (vI 0)) w_2 fun a1j w_4 =>
 xcond a1j
 (R (Value.tuple #[(vI 0), a9e]) w_4)
 (oP E (xBin .quo 2 (.tmp 13) (.tmp 14) x0 x1) w_4 fun b2I w_6 =>
 R (Value.tuple #[b2I, (vI 0)]) w_6)
noncomputable def c29 : Code := Tryd.f29.body.getD .skip
def h29 : Hint := (sQ (.seq (sQ (sQ (.cond (sQ .none) .none))) (sQ .none)))
theorem f1q (x0 x1 : Value) (w : World) (R : RT) (E : Pan) : F29 x0 x1 w R E = callX Tryd.prog [.tmp 4, .tmp 5] c29 h29 [x0, x1] w R E := by kernel_rfl
theorem f1r {x0 x1 : Value} (h : F29 x0 x1 w R E) : Cv Tryd.prog 29 #[x0, x1] w R E := by
 refine i8 (args := [x0, x1]) (c := c29) (h := h29) (rs := [.tmp 4, .tmp 5]) Tryd.func29 (by kernel_rfl) (by kernel_rfl) (nB (by kernel_rfl)) (by kernel_rfl) (by kernel_rfl) (by kernel_rfl) ?_
 rw [← f1q]
 exact h
def F30 (x0 x1 : Value) (w : World) (R : RT) (E : Pan) : Prop :=
 oP E (xCall (fC 49) [x0, x1]) w fun a9e w_2 =>
 oP E (xBin .neq 3 (.tmp 10) (.const (vI 0)) a9e (vI 0)) w_2 fun a1j w_4 =>
 xcond a1j
 (R (Value.tuple #[(vI 0), a9e]) w_4)
 (oP E (xBin .rem 2 (.tmp 13) (.tmp 14) x0 x1) w_4 fun b2I w_6 =>
 R (Value.tuple #[b2I, (vI 0)]) w_6)
noncomputable def c30 : Code := Tryd.f30.body.getD .skip
def h30 : Hint := (sQ (.seq (sQ (sQ (.cond (sQ .none) .none))) (sQ .none)))
theorem f1s (x0 x1 : Value) (w : World) (R : RT) (E : Pan) : F30 x0 x1 w R E = callX Tryd.prog [.tmp 4, .tmp 5] c30 h30 [x0, x1] w R E := by kernel_rfl
theorem f1t {x0 x1 : Value} (h : F30 x0 x1 w R E) : Cv Tryd.prog 30 #[x0, x1] w R E := by
 refine i8 (args := [x0, x1]) (c := c30) (h := h30) (rs := [.tmp 4, .tmp 5]) Tryd.func30 (by kernel_rfl) (by kernel_rfl) (nB (by kernel_rfl)) (by kernel_rfl) (by kernel_rfl) (by kernel_rfl) ?_
 rw [← f1s]
 exact h
def F47 (x0 x1 : Value) (w : World) (R : RT) (E : Pan) : Prop :=
 oP E (xBin .and 96 (.tmp 14) (.const (Value.int .u64 4294967295)) x0 (Value.int .u64 4294967295)) w fun d9m w_2 =>
 oP E (xBin .shr 96 (.tmp 16) (.const (Value.int .u64 32)) x0 (Value.int .u64 32)) w_2 fun b5t w_4 =>
 oP E (xBin .and 96 (.tmp 18) (.const (Value.int .u64 4294967295)) x1 (Value.int .u64 4294967295)) w_4 fun b5u w_6 =>
 oP E (xBin .shr 96 (.tmp 20) (.const (Value.int .u64 32)) x1 (Value.int .u64 32)) w_6 fun c1K w_8 =>
 oP E (xBin .mul 96 (.tmp 22) (.tmp 23) d9m b5u) w_8 fun g0N o3 =>
 oP E (xBin .mul 96 (.tmp 25) (.tmp 26) b5t b5u) o3 fun f1u p8 =>
 oP E (xBin .shr 96 (.tmp 28) (.const (Value.int .u64 32)) g0N (Value.int .u64 32)) p8 fun c4x o9 =>
 oP E (xBin .add 96 (.tmp 27) (.tmp 29) f1u c4x) o9 fun b8y q8 =>
 oP E (xBin .and 96 (.tmp 31) (.const (Value.int .u64 4294967295)) b8y (Value.int .u64 4294967295)) q8 fun f1v r7 =>
 oP E (xBin .shr 96 (.tmp 33) (.const (Value.int .u64 32)) b8y (Value.int .u64 32)) r7 fun f1w r9 =>
 oP E (xBin .mul 96 (.tmp 36) (.tmp 37) d9m c1K) r9 fun f1x t8 =>
 oP E (xBin .add 96 (.tmp 35) (.tmp 38) f1v f1x) t8 fun f1y v6 =>
 oP E (xBin .mul 96 (.tmp 40) (.tmp 41) b5t c1K) v6 fun f1z A9 =>
 oP E (xBin .add 96 (.tmp 42) (.tmp 43) f1z f1w) A9 fun f1A C7 =>
 oP E (xBin .shr 96 (.tmp 45) (.const (Value.int .u64 32)) f1y (Value.int .u64 32)) C7 fun f1B D8 =>
 oP E (xBin .add 96 (.tmp 44) (.tmp 46) f1A f1B) D8 fun f1C C3 =>
 oP E (xBin .mul 96 (.tmp 48) (.tmp 49) x0 x1) C3 fun f1D D1 =>
 R (Value.tuple #[f1C, f1D]) D1
noncomputable def c47 : Code := Tryd.f47.body.getD .skip
def h47 : Hint := (sQ (sQ (sQ (sQ (sQ (sQ (sQ (sQ (sQ (sQ (sQ (sQ .none))))))))))))
theorem f1E (x0 x1 : Value) (w : World) (R : RT) (E : Pan) : F47 x0 x1 w R E = callX Tryd.prog [.tmp 4, .tmp 5] c47 h47 [x0, x1] w R E := by kernel_rfl
theorem f1F {x0 x1 : Value} (h : F47 x0 x1 w R E) : Cv Tryd.prog 47 #[x0, x1] w R E := by
 refine i8 (args := [x0, x1]) (c := c47) (h := h47) (rs := [.tmp 4, .tmp 5]) Tryd.func47 (by kernel_rfl) (by kernel_rfl) (nB (by kernel_rfl)) (by kernel_rfl) (by kernel_rfl) (by kernel_rfl) ?_
 rw [← f1E]
 exact h
def F48 (x0 : Value) (w : World) (R : RT) (E : Pan) : Prop :=
 oP E (xBin .lss 2 (.tmp 3) (.const (vI 0)) x0 (vI 0)) w fun a7m w_2 =>
 xcond a7m
 (oP E (xV (convert 2 96 x0)) w_2 fun a3E w_4 =>
 oP E (xV (Op.unary .neg a3E)) w_4 fun a8v w_6 =>
 R a8v w_6)
 (oP E (xV (convert 2 96 x0)) w_2 fun d5Z w_8 =>
 R d5Z w_8)
noncomputable def c48 : Code := Tryd.f48.body.getD .skip
def h48 : Hint := (sQ (.seq (sQ (.cond (sQ .none) .none)) (sQ .none)))
theorem f1G (x0 : Value) (w : World) (R : RT) (E : Pan) : F48 x0 w R E = callX Tryd.prog [.tmp 2] c48 h48 [x0] w R E := by kernel_rfl
theorem f1H {x0 : Value} (h : F48 x0 w R E) : Cv Tryd.prog 48 #[x0] w R E := by
 refine i8 (args := [x0]) (c := c48) (h := h48) (rs := [.tmp 2]) Tryd.func48 (by kernel_rfl) (by kernel_rfl) (nB (by kernel_rfl)) (by kernel_rfl) (by kernel_rfl) (by kernel_rfl) ?_
 rw [← f1G]
 exact h
def F49 (x0 x1 : Value) (w : World) (R : RT) (E : Pan) : Prop :=
 oP E (xBin .eql 2 (.tmp 6) (.const (vI 0)) x1 (vI 0)) w fun a2V w_2 =>
 xcond a2V
 (R (vI 2) w_2)
 (oP E (xBin .eql 2 (.tmp 9) (.const (vI (-9223372036854775808))) x0 (vI (-9223372036854775808))) w_2 fun b1S w_4 =>
 oP E (gsem (asB b1S) true (xBin .eql 2 (.tmp 12) (.const (vI (-1))) (gval (asB b1S) true x1) (vI (-1)))) w_4 fun a4r w_6 =>
 oP E (xPick b1S a4r (vB false)) w_6 fun U2 w_8 =>
 xcond U2
 (R (vI 1) w_8)
 (R (vI 0) w_8))
noncomputable def c49 : Code := Tryd.f49.body.getD .skip
def h49 : Hint := (sQ (.seq (.block (sQ (.cond (sQ .none) (sQ (.cond (sQ .none) .none))))) (sQ .none)))
theorem f1I (x0 x1 : Value) (w : World) (R : RT) (E : Pan) : F49 x0 x1 w R E = callX Tryd.prog [.tmp 4] c49 h49 [x0, x1] w R E := by kernel_rfl
theorem f1J {x0 x1 : Value} (h : F49 x0 x1 w R E) : Cv Tryd.prog 49 #[x0, x1] w R E := by
 refine i8 (args := [x0, x1]) (c := c49) (h := h49) (rs := [.tmp 4]) Tryd.func49 (by kernel_rfl) (by kernel_rfl) (nB (by kernel_rfl)) (by kernel_rfl) (by kernel_rfl) (by kernel_rfl) ?_
 rw [← f1I]
 exact h
def F75 (x0 x1 x2 : Value) (w : World) (R : RT) (E : Pan) : Prop :=
 oP E (xBin .lss 3 (.tmp 7) (.const (vI 1)) x0 (vI 1)) w fun b0u w_2 =>
 oP E (gsem (asB b0u) false (xBin .gtr 3 (.tmp 10) (.const (vI 6)) (gval (asB b0u) false x0) (vI 6))) w_2 fun a1j w_4 =>
 oP E (xPick b0u (vB true) a1j) w_4 fun a5O w_6 =>
 xcond a5O
 (R (vB false) w_6)
 (oP E (xCall (fC 110) []) w_6 fun a5P w_8 =>
 oP E (xV (Instr.index 171 a5P x0)) w_8 fun a4U o3 =>
 oP E (xCall a4U [x1, x2]) o3 fun b4k p8 =>
 R b4k p8)
noncomputable def c75 : Code := Tryd.f75.body.getD .skip
def h75 : Hint := (sQ (.seq (sQ (.cond (sQ .none) .none)) (sQ .none)))
theorem f1K (x0 x1 x2 : Value) (w : World) (R : RT) (E : Pan) : F75 x0 x1 x2 w R E = callX Tryd.prog [.tmp 6] c75 h75 [x0, x1, x2] w R E := by kernel_rfl
theorem f1L {x0 x1 x2 : Value} (h : F75 x0 x1 x2 w R E) : Cv Tryd.prog 75 #[x0, x1, x2] w R E := by
 refine i8 (args := [x0, x1, x2]) (c := c75) (h := h75) (rs := [.tmp 6]) Tryd.func75 (by kernel_rfl) (by kernel_rfl) (nB (by kernel_rfl)) (by kernel_rfl) (by kernel_rfl) (by kernel_rfl) ?_
 rw [← f1K]
 exact h
def c9i (x0 : Value) (w : World) (R : RT) (E : Pan) : Prop :=
 oP E (xCall (fC 27) [(vI 0), x0]) w fun b1V w_2 =>
 oP E (eX b1V 0) w_2 fun a3E w_4 =>
 oP E (eX b1V 1) w_4 fun a8v w_6 =>
 R (Value.tuple #[a3E, a8v]) w_6
noncomputable def f1M : Code := Tryd.f101.body.getD .skip
def f1N : Hint := (sQ (sQ .none))
theorem e2d (x0 : Value) (w : World) (R : RT) (E : Pan) : c9i x0 w R E = callX Tryd.prog [.tmp 2, .tmp 3] f1M f1N [x0] w R E := by kernel_rfl
theorem e2e {x0 : Value} (h : c9i x0 w R E) : Cv Tryd.prog 101 #[x0] w R E := by
 refine i8 (args := [x0]) (c := f1M) (h := f1N) (rs := [.tmp 2, .tmp 3]) Tryd.func101 (by kernel_rfl) (by kernel_rfl) (nB (by kernel_rfl)) (by kernel_rfl) (by kernel_rfl) (by kernel_rfl) ?_
 rw [← e2d]
 exact h
def c9j (w : World) (R : RT) (E : Pan) : Prop :=
 oP E (xV (Instr.alloc 171 true (.tuple #[]))) w fun f1O w_2 =>
 oP E (xV (Instr.build 171 #[(0, (fC 123)), (1, (fC 124)), (2, (fC 125)), (3, (fC 126)), (4, (fC 127)), (5, (fC 128)), (6, (fC 129))])) w_2 fun g5u w_4 =>
 oP E (sA 171 f1O g5u) w_4 fun _z_5 w_6 =>
 xcell Tryd.prog 171 f1O w_6 fun r_7 =>
 R r_7 w_6
noncomputable def f1P : Code := Tryd.f110.body.getD .skip
def f1Q : Hint := (sQ (sQ .none))
theorem e2f (w : World) (R : RT) (E : Pan) : c9j  w R E = callX Tryd.prog [.cell 0 171] f1P f1Q [] w R E := by kernel_rfl
theorem e2g (h : c9j  w R E) : Cv Tryd.prog 110 #[] w R E := by
 refine i8 (args := []) (c := f1P) (h := f1Q) (rs := [.cell 0 171]) Tryd.func110 (by kernel_rfl) (by kernel_rfl) (Nat.zero_le _) (by kernel_rfl) (by kernel_rfl) (by kernel_rfl) ?_
 rw [← e2f]
 exact h
def c9k (x0 x1 : Value) (w : World) (R : RT) (E : Pan) : Prop :=
 oP E (xBin .lss 2 (.tmp 5) (.tmp 6) x0 x1) w fun a2V w_2 =>
 R a2V w_2
noncomputable def f1R : Code := Tryd.f124.body.getD .skip
def f1S : Hint := (sQ (sQ .none))
theorem e2h (x0 x1 : Value) (w : World) (R : RT) (E : Pan) : c9k x0 x1 w R E = callX Tryd.prog [.tmp 4] f1R f1S [x0, x1] w R E := by kernel_rfl
theorem e2i {x0 x1 : Value} (h : c9k x0 x1 w R E) : Cv Tryd.prog 124 #[x0, x1] w R E := by
 refine i8 (args := [x0, x1]) (c := f1R) (h := f1S) (rs := [.tmp 4]) Tryd.func124 (by kernel_rfl) (by kernel_rfl) (nB (by kernel_rfl)) (by kernel_rfl) (by kernel_rfl) (by kernel_rfl) ?_
 rw [← e2h]
 exact h
def c9l (x0 x1 : Value) (w : World) (R : RT) (E : Pan) : Prop :=
 oP E (xBin .leq 2 (.tmp 5) (.tmp 6) x0 x1) w fun a2V w_2 =>
 R a2V w_2
noncomputable def f1T : Code := Tryd.f125.body.getD .skip
def f1U : Hint := (sQ (sQ .none))
theorem e2j (x0 x1 : Value) (w : World) (R : RT) (E : Pan) : c9l x0 x1 w R E = callX Tryd.prog [.tmp 4] f1T f1U [x0, x1] w R E := by kernel_rfl
theorem e2k {x0 x1 : Value} (h : c9l x0 x1 w R E) : Cv Tryd.prog 125 #[x0, x1] w R E := by
 refine i8 (args := [x0, x1]) (c := f1T) (h := f1U) (rs := [.tmp 4]) Tryd.func125 (by kernel_rfl) (by kernel_rfl) (nB (by kernel_rfl)) (by kernel_rfl) (by kernel_rfl) (by kernel_rfl) ?_
 rw [← e2j]
 exact h
def c9m (x0 x1 : Value) (w : World) (R : RT) (E : Pan) : Prop :=
 oP E (xBin .eql 2 (.tmp 5) (.tmp 6) x0 x1) w fun a2V w_2 =>
 R a2V w_2
noncomputable def f1V : Code := Tryd.f126.body.getD .skip
def f1W : Hint := (sQ (sQ .none))
theorem e2l (x0 x1 : Value) (w : World) (R : RT) (E : Pan) : c9m x0 x1 w R E = callX Tryd.prog [.tmp 4] f1V f1W [x0, x1] w R E := by kernel_rfl
theorem e2m {x0 x1 : Value} (h : c9m x0 x1 w R E) : Cv Tryd.prog 126 #[x0, x1] w R E := by
 refine i8 (args := [x0, x1]) (c := f1V) (h := f1W) (rs := [.tmp 4]) Tryd.func126 (by kernel_rfl) (by kernel_rfl) (nB (by kernel_rfl)) (by kernel_rfl) (by kernel_rfl) (by kernel_rfl) ?_
 rw [← e2l]
 exact h
def c9n (x0 x1 : Value) (w : World) (R : RT) (E : Pan) : Prop :=
 oP E (xBin .neq 2 (.tmp 5) (.tmp 6) x0 x1) w fun a2V w_2 =>
 R a2V w_2
noncomputable def f1X : Code := Tryd.f127.body.getD .skip
def f1Y : Hint := (sQ (sQ .none))
theorem e2n (x0 x1 : Value) (w : World) (R : RT) (E : Pan) : c9n x0 x1 w R E = callX Tryd.prog [.tmp 4] f1X f1Y [x0, x1] w R E := by kernel_rfl
theorem e2o {x0 x1 : Value} (h : c9n x0 x1 w R E) : Cv Tryd.prog 127 #[x0, x1] w R E := by
 refine i8 (args := [x0, x1]) (c := f1X) (h := f1Y) (rs := [.tmp 4]) Tryd.func127 (by kernel_rfl) (by kernel_rfl) (nB (by kernel_rfl)) (by kernel_rfl) (by kernel_rfl) (by kernel_rfl) ?_
 rw [← e2n]
 exact h
def c9o (x0 x1 : Value) (w : World) (R : RT) (E : Pan) : Prop :=
 oP E (xBin .gtr 2 (.tmp 5) (.tmp 6) x0 x1) w fun a2V w_2 =>
 R a2V w_2
noncomputable def f1Z : Code := Tryd.f128.body.getD .skip
def f2a : Hint := (sQ (sQ .none))
theorem e2p (x0 x1 : Value) (w : World) (R : RT) (E : Pan) : c9o x0 x1 w R E = callX Tryd.prog [.tmp 4] f1Z f2a [x0, x1] w R E := by kernel_rfl
theorem e2q {x0 x1 : Value} (h : c9o x0 x1 w R E) : Cv Tryd.prog 128 #[x0, x1] w R E := by
 refine i8 (args := [x0, x1]) (c := f1Z) (h := f2a) (rs := [.tmp 4]) Tryd.func128 (by kernel_rfl) (by kernel_rfl) (nB (by kernel_rfl)) (by kernel_rfl) (by kernel_rfl) (by kernel_rfl) ?_
 rw [← e2p]
 exact h
def c9p (x0 x1 : Value) (w : World) (R : RT) (E : Pan) : Prop :=
 oP E (xBin .geq 2 (.tmp 5) (.tmp 6) x0 x1) w fun a2V w_2 =>
 R a2V w_2
noncomputable def f2b : Code := Tryd.f129.body.getD .skip
def f2c : Hint := (sQ (sQ .none))
theorem e2r (x0 x1 : Value) (w : World) (R : RT) (E : Pan) : c9p x0 x1 w R E = callX Tryd.prog [.tmp 4] f2b f2c [x0, x1] w R E := by kernel_rfl
theorem e2s {x0 x1 : Value} (h : c9p x0 x1 w R E) : Cv Tryd.prog 129 #[x0, x1] w R E := by
 refine i8 (args := [x0, x1]) (c := f2b) (h := f2c) (rs := [.tmp 4]) Tryd.func129 (by kernel_rfl) (by kernel_rfl) (nB (by kernel_rfl)) (by kernel_rfl) (by kernel_rfl) (by kernel_rfl) ?_
 rw [← e2r]
 exact h
end Go.Proofs.YtnhkdkcgdcgmdaaDoor
