/- The second reading of some of the program's functions, printed by gen2.py off the code; each is held against the code by the kernel. -/
import Derived.Test.YtnhkdkcgdcgmdaaDoorProg
import Derived.Test.YtnhkdkcgdcgmdaaDoorzSK0
import Derived.KernelRfl
import Derived.Test.YtnhkdkcgdcgmdaaDoorzSGz
namespace Go.Proofs.YtnhkdkcgdcgmdaaDoor
open Go.RowKit
set_option maxRecDepth 100000
variable {w : World} {R : RT} {E : Pan}
def F26 (x0 x1 : Value) (w : World) (R : RT) (E : Pan) : Prop :=
 oP E (xBin .add 2 (.tmp 7) (.tmp 8) x0 x1) w fun a8F w_2 =>
 oP E (xBin .lss 2 (.tmp 10) (.const (vI 0)) x0 (vI 0)) w_2 fun a0J w_4 =>
 oP E (xBin .lss 2 (.tmp 12) (.const (vI 0)) x1 (vI 0)) w_4 fun a3W w_6 =>
 oP E (xBin .eql 4 (.tmp 11) (.tmp 13) a0J a3W) w_6 fun T5 w_8 =>
 oP E (gsem (asB T5) true (xBin .lss 2 (.tmp 16) (.const (vI 0)) (gval (asB T5) true a8F) (vI 0))) w_8 fun b7M m7 =>
 oP E (gsem (asB T5) true (xBin .lss 2 (.tmp 18) (.const (vI 0)) (gval (asB T5) true x0) (vI 0))) m7 fun a6H o4 =>
 oP E (gsem (asB T5) true (xBin .neq 4 (.tmp 17) (.tmp 19) b7M a6H)) o4 fun a8G o3 =>
 oP E (xPick T5 a8G (vB false)) o3 fun b3D p7 =>
 xcond b3D
 (R (Value.tuple #[(vI 0), (vI 1)]) p7)
 (R (Value.tuple #[a8F, (vI 0)]) p7)
noncomputable def c26 : Code := Tryd.f26.body.getD .skip
def h26 : Hint := (sQ (sQ (.seq (sQ (.cond (sQ .none) .none)) (sQ .none))))
theorem f0i (x0 x1 : Value) (w : World) (R : RT) (E : Pan) : F26 x0 x1 w R E = callX Tryd.prog [.tmp 4, .tmp 5] c26 h26 [x0, x1] w R E := by kernel_rfl
theorem f0j {x0 x1 : Value} (h : F26 x0 x1 w R E) : Cv Tryd.prog 26 #[x0, x1] w R E := by
 refine g8 (args := [x0, x1]) (c := c26) (h := h26) (rs := [.tmp 4, .tmp 5]) Tryd.func26 (by kernel_rfl) (by kernel_rfl) (nB (by kernel_rfl)) (by kernel_rfl) (by kernel_rfl) (by kernel_rfl) ?_
 rw [← f0i]
 exact h
def F27 (x0 x1 : Value) (w : World) (R : RT) (E : Pan) : Prop :=
 oP E (xBin .sub 2 (.tmp 7) (.tmp 8) x0 x1) w fun a8F w_2 =>
 oP E (xBin .lss 2 (.tmp 10) (.const (vI 0)) x0 (vI 0)) w_2 fun a0J w_4 =>
 oP E (xBin .lss 2 (.tmp 12) (.const (vI 0)) x1 (vI 0)) w_4 fun a3W w_6 =>
 oP E (xBin .neq 4 (.tmp 11) (.tmp 13) a0J a3W) w_6 fun T5 w_8 =>
 oP E (gsem (asB T5) true (xBin .lss 2 (.tmp 16) (.const (vI 0)) (gval (asB T5) true a8F) (vI 0))) w_8 fun b7M m7 =>
 oP E (gsem (asB T5) true (xBin .lss 2 (.tmp 18) (.const (vI 0)) (gval (asB T5) true x0) (vI 0))) m7 fun a6H o4 =>
 oP E (gsem (asB T5) true (xBin .neq 4 (.tmp 17) (.tmp 19) b7M a6H)) o4 fun a8G o3 =>
 oP E (xPick T5 a8G (vB false)) o3 fun b3D p7 =>
 xcond b3D
 (R (Value.tuple #[(vI 0), (vI 1)]) p7)
 (R (Value.tuple #[a8F, (vI 0)]) p7)
noncomputable def c27 : Code := Tryd.f27.body.getD .skip
def h27 : Hint := (sQ (sQ (.seq (sQ (.cond (sQ .none) .none)) (sQ .none))))
theorem f0k (x0 x1 : Value) (w : World) (R : RT) (E : Pan) : F27 x0 x1 w R E = callX Tryd.prog [.tmp 4, .tmp 5] c27 h27 [x0, x1] w R E := by kernel_rfl
theorem f0l {x0 x1 : Value} (h : F27 x0 x1 w R E) : Cv Tryd.prog 27 #[x0, x1] w R E := by
 refine g8 (args := [x0, x1]) (c := c27) (h := h27) (rs := [.tmp 4, .tmp 5]) Tryd.func27 (by kernel_rfl) (by kernel_rfl) (nB (by kernel_rfl)) (by kernel_rfl) (by kernel_rfl) (by kernel_rfl) ?_
 rw [← f0k]
 exact h
def c3B (x0 x1 x6 x7 x8 : Value) (w : World) (R : RT) (E : Pan) : Prop :=
 ∀ _τ : Fr, (oP E (xBin .neq 96 (.tmp 24) (.const (Value.int .u64 0)) x6 (Value.int .u64 0)) w fun b7N o4 =>
 oP E (gsem (asB b7N) false (xBin .gtr 96 (.tmp 27) (.tmp 28) (gval (asB b7N) false x7) (gval (asB b7N) false x8))) o4 fun c3C o3 =>
 oP E (xPick b7N (vB true) c3C) o3 fun b7O p7 =>
 xcond b7O
 (R (Value.tuple #[(vI 0), (vI 1)]) p7)
 (oP E (xBin .mul 2 (.tmp 31) (.tmp 32) x0 x1) p7 fun f0m p8 =>
 R (Value.tuple #[f0m, (vI 0)]) p8))
def F28 (x0 x1 : Value) (w : World) (R : RT) (E : Pan) : Prop :=
 oP E (xCall (fC 48) [x0]) w fun c8j w_2 =>
 oP E (xCall (fC 48) [x1]) w_2 fun b7P w_4 =>
 oP E (xCall (fC 47) [c8j, b7P]) w_4 fun d8M w_6 =>
 oP E (eX d8M 0) w_6 fun c8k w_8 =>
 oP E (eX d8M 1) w_8 fun c8l m7 =>
 xcut (fun a3h q7 => c3B x0 x1 c8k c8l (nth a3h 0) q7 R E) fun j1 =>
 oP E (xBin .lss 2 (.tmp 17) (.const (vI 0)) x0 (vI 0)) m7 fun f0n r8 =>
 oP E (xBin .lss 2 (.tmp 19) (.const (vI 0)) x1 (vI 0)) r8 fun a5w u1 =>
 oP E (xBin .neq 4 (.tmp 18) (.tmp 20) f0n a5w) u1 fun f0o z6 =>
 xcond f0o
 (oP E (xBin .add 96 (.tmp 22) (.const (Value.int .u64 1)) (Value.int .u64 9223372036854775807) (Value.int .u64 1)) z6 fun b3E C0 =>
 j1 [b3E] C0)
 (j1 [(Value.int .u64 9223372036854775807)] z6)
noncomputable def c28 : Code := Tryd.f28.body.getD .skip
def h28 : Hint := (sQ (sQ (sQ (.cut [8] (sQ (.cond .none .none)) (.seq (sQ (.cond (sQ .none) .none)) (sQ .none))))))
theorem f0p (x0 x1 : Value) (w : World) (R : RT) (E : Pan) : F28 x0 x1 w R E = callX Tryd.prog [.tmp 4, .tmp 5] c28 h28 [x0, x1] w R E := by kernel_rfl
theorem f0q {x0 x1 : Value} (h : F28 x0 x1 w R E) : Cv Tryd.prog 28 #[x0, x1] w R E := by
 refine g8 (args := [x0, x1]) (c := c28) (h := h28) (rs := [.tmp 4, .tmp 5]) Tryd.func28 (by kernel_rfl) (by kernel_rfl) (nB (by kernel_rfl)) (by kernel_rfl) (by kernel_rfl) (by kernel_rfl) ?_
 rw [← f0p]
 exact h
def F29 (x0 x1 : Value) (w : World) (R : RT) (E : Pan) : Prop :=
 oP E (xCall (fC 49) [x0, x1]) w fun a8F w_2 =>
 oP E (xBin .neq 3 (.tmp 10) (.const (vI 0)) a8F (vI 0)) w_2 fun a0J w_4 =>
 xcond a0J
 (R (Value.tuple #[(vI 0), a8F]) w_4)
 (oP E (xBin .quo 2 (.tmp 13) (.tmp 14) x0 x1) w_4 fun b2a w_6 =>
 R (Value.tuple #[b2a, (vI 0)]) w_6)
noncomputable def c29 : Code := Tryd.f29.body.getD .skip
def h29 : Hint := (sQ (.seq (sQ (sQ (.cond (sQ .none) .none))) (sQ .none)))
theorem f0r (x0 x1 : Value) (w : World) (R : RT) (E : Pan) : F29 x0 x1 w R E = callX Tryd.prog [.tmp 4, .tmp 5] c29 h29 [x0, x1] w R E := by kernel_rfl
theorem f0s {x0 x1 : Value} (h : F29 x0 x1 w R E) : Cv Tryd.prog 29 #[x0, x1] w R E := by
 refine g8 (args := [x0, x1]) (c := c29) (h := h29) (rs := [.tmp 4, .tmp 5]) Tryd.func29 (by kernel_rfl) (by kernel_rfl) (nB (by kernel_rfl)) (by kernel_rfl) (by kernel_rfl) (by kernel_rfl) ?_
 rw [← f0r]
 exact h
def F30 (x0 x1 : Value) (w : World) (R : RT) (E : Pan) : Prop :=
 oP E (xCall (fC 49) [x0, x1]) w fun a8F w_2 =>
 oP E (xBin .neq 3 (.tmp 10) (.const (vI 0)) a8F (vI 0)) w_2 fun a0J w_4 =>
 xcond a0J
 (R (Value.tuple #[(vI 0), a8F]) w_4)
 (oP E (xBin .rem 2 (.tmp 13) (.tmp 14) x0 x1) w_4 fun b2a w_6 =>
 R (Value.tuple #[b2a, (vI 0)]) w_6)
noncomputable def c30 : Code := Tryd.f30.body.getD .skip
def h30 : Hint := (sQ (.seq (sQ (sQ (.cond (sQ .none) .none))) (sQ .none)))
theorem f0t (x0 x1 : Value) (w : World) (R : RT) (E : Pan) : F30 x0 x1 w R E = callX Tryd.prog [.tmp 4, .tmp 5] c30 h30 [x0, x1] w R E := by kernel_rfl
theorem f0u {x0 x1 : Value} (h : F30 x0 x1 w R E) : Cv Tryd.prog 30 #[x0, x1] w R E := by
 refine g8 (args := [x0, x1]) (c := c30) (h := h30) (rs := [.tmp 4, .tmp 5]) Tryd.func30 (by kernel_rfl) (by kernel_rfl) (nB (by kernel_rfl)) (by kernel_rfl) (by kernel_rfl) (by kernel_rfl) ?_
 rw [← f0t]
 exact h
def F47 (x0 x1 : Value) (w : World) (R : RT) (E : Pan) : Prop :=
 oP E (xBin .and 96 (.tmp 14) (.const (Value.int .u64 4294967295)) x0 (Value.int .u64 4294967295)) w fun d8N w_2 =>
 oP E (xBin .shr 96 (.tmp 16) (.const (Value.int .u64 32)) x0 (Value.int .u64 32)) w_2 fun c1f w_4 =>
 oP E (xBin .and 96 (.tmp 18) (.const (Value.int .u64 4294967295)) x1 (Value.int .u64 4294967295)) w_4 fun d8O w_6 =>
 oP E (xBin .shr 96 (.tmp 20) (.const (Value.int .u64 32)) x1 (Value.int .u64 32)) w_6 fun c1g w_8 =>
 oP E (xBin .mul 96 (.tmp 22) (.tmp 23) d8N d8O) w_8 fun g0a m7 =>
 oP E (xBin .mul 96 (.tmp 25) (.tmp 26) c1f d8O) m7 fun f0v o4 =>
 oP E (xBin .shr 96 (.tmp 28) (.const (Value.int .u64 32)) g0a (Value.int .u64 32)) o4 fun c3C o3 =>
 oP E (xBin .add 96 (.tmp 27) (.tmp 29) f0v c3C) o3 fun b7O p7 =>
 oP E (xBin .and 96 (.tmp 31) (.const (Value.int .u64 4294967295)) b7O (Value.int .u64 4294967295)) p7 fun f0w p8 =>
 oP E (xBin .shr 96 (.tmp 33) (.const (Value.int .u64 32)) b7O (Value.int .u64 32)) p8 fun f0x q7 =>
 oP E (xBin .mul 96 (.tmp 36) (.tmp 37) d8N c1g) q7 fun f0y r8 =>
 oP E (xBin .add 96 (.tmp 35) (.tmp 38) f0w f0y) r8 fun f0z u1 =>
 oP E (xBin .mul 96 (.tmp 40) (.tmp 41) c1f c1g) u1 fun f0A z6 =>
 oP E (xBin .add 96 (.tmp 42) (.tmp 43) f0A f0x) z6 fun f0B C0 =>
 oP E (xBin .shr 96 (.tmp 45) (.const (Value.int .u64 32)) f0z (Value.int .u64 32)) C0 fun f0C D3 =>
 oP E (xBin .add 96 (.tmp 44) (.tmp 46) f0B f0C) D3 fun f0D B8 =>
 oP E (xBin .mul 96 (.tmp 48) (.tmp 49) x0 x1) B8 fun f0E C3 =>
 R (Value.tuple #[f0D, f0E]) C3
noncomputable def c47 : Code := Tryd.f47.body.getD .skip
def h47 : Hint := (sQ (sQ (sQ (sQ (sQ (sQ (sQ (sQ (sQ (sQ (sQ (sQ .none))))))))))))
theorem f0F (x0 x1 : Value) (w : World) (R : RT) (E : Pan) : F47 x0 x1 w R E = callX Tryd.prog [.tmp 4, .tmp 5] c47 h47 [x0, x1] w R E := by kernel_rfl
theorem f0G {x0 x1 : Value} (h : F47 x0 x1 w R E) : Cv Tryd.prog 47 #[x0, x1] w R E := by
 refine g8 (args := [x0, x1]) (c := c47) (h := h47) (rs := [.tmp 4, .tmp 5]) Tryd.func47 (by kernel_rfl) (by kernel_rfl) (nB (by kernel_rfl)) (by kernel_rfl) (by kernel_rfl) (by kernel_rfl) ?_
 rw [← f0F]
 exact h
def F48 (x0 : Value) (w : World) (R : RT) (E : Pan) : Prop :=
 oP E (xBin .lss 2 (.tmp 3) (.const (vI 0)) x0 (vI 0)) w fun b3f w_2 =>
 xcond b3f
 (oP E (xV (convert 2 96 x0)) w_2 fun a3j w_4 =>
 oP E (xV (Op.unary .neg a3j)) w_4 fun a7V w_6 =>
 R a7V w_6)
 (oP E (xV (convert 2 96 x0)) w_2 fun d5l w_8 =>
 R d5l w_8)
noncomputable def c48 : Code := Tryd.f48.body.getD .skip
def h48 : Hint := (sQ (.seq (sQ (.cond (sQ .none) .none)) (sQ .none)))
theorem f0H (x0 : Value) (w : World) (R : RT) (E : Pan) : F48 x0 w R E = callX Tryd.prog [.tmp 2] c48 h48 [x0] w R E := by kernel_rfl
theorem f0I {x0 : Value} (h : F48 x0 w R E) : Cv Tryd.prog 48 #[x0] w R E := by
 refine g8 (args := [x0]) (c := c48) (h := h48) (rs := [.tmp 2]) Tryd.func48 (by kernel_rfl) (by kernel_rfl) (nB (by kernel_rfl)) (by kernel_rfl) (by kernel_rfl) (by kernel_rfl) ?_
 rw [← f0H]
 exact h
def F49 (x0 x1 : Value) (w : World) (R : RT) (E : Pan) : Prop :=
 oP E (xBin .eql 2 (.tmp 6) (.const (vI 0)) x1 (vI 0)) w fun a2A w_2 =>
 xcond a2A
 (R (vI 2) w_2)
 (oP E (xBin .eql 2 (.tmp 9) (.const (vI (-9223372036854775808))) x0 (vI (-9223372036854775808))) w_2 fun b1j w_4 =>
 oP E (gsem (asB b1j) true (xBin .eql 2 (.tmp 12) (.const (vI (-1))) (gval (asB b1j) true x1) (vI (-1)))) w_4 fun a3W w_6 =>
 oP E (xPick b1j a3W (vB false)) w_6 fun T5 w_8 =>
 xcond T5
 (R (vI 1) w_8)
 (R (vI 0) w_8))
noncomputable def c49 : Code := Tryd.f49.body.getD .skip
def h49 : Hint := (sQ (.seq (.block (sQ (.cond (sQ .none) (sQ (.cond (sQ .none) .none))))) (sQ .none)))
theorem f0J (x0 x1 : Value) (w : World) (R : RT) (E : Pan) : F49 x0 x1 w R E = callX Tryd.prog [.tmp 4] c49 h49 [x0, x1] w R E := by kernel_rfl
theorem f0K {x0 x1 : Value} (h : F49 x0 x1 w R E) : Cv Tryd.prog 49 #[x0, x1] w R E := by
 refine g8 (args := [x0, x1]) (c := c49) (h := h49) (rs := [.tmp 4]) Tryd.func49 (by kernel_rfl) (by kernel_rfl) (nB (by kernel_rfl)) (by kernel_rfl) (by kernel_rfl) (by kernel_rfl) ?_
 rw [← f0J]
 exact h
def F75 (x0 x1 x2 : Value) (w : World) (R : RT) (E : Pan) : Prop :=
 oP E (xBin .lss 3 (.tmp 7) (.const (vI 1)) x0 (vI 1)) w fun a9S w_2 =>
 oP E (gsem (asB a9S) false (xBin .gtr 3 (.tmp 10) (.const (vI 6)) (gval (asB a9S) false x0) (vI 6))) w_2 fun a0J w_4 =>
 oP E (xPick a9S (vB true) a0J) w_4 fun a5x w_6 =>
 xcond a5x
 (R (vB false) w_6)
 (oP E (xCall (fC 110) []) w_6 fun a5y w_8 =>
 oP E (xV (Instr.index 171 a5y x0)) w_8 fun a4x m7 =>
 oP E (xCall a4x [x1, x2]) m7 fun b3F o4 =>
 R b3F o4)
noncomputable def c75 : Code := Tryd.f75.body.getD .skip
def h75 : Hint := (sQ (.seq (sQ (.cond (sQ .none) .none)) (sQ .none)))
theorem f0L (x0 x1 x2 : Value) (w : World) (R : RT) (E : Pan) : F75 x0 x1 x2 w R E = callX Tryd.prog [.tmp 6] c75 h75 [x0, x1, x2] w R E := by kernel_rfl
theorem f0M {x0 x1 x2 : Value} (h : F75 x0 x1 x2 w R E) : Cv Tryd.prog 75 #[x0, x1, x2] w R E := by
 refine g8 (args := [x0, x1, x2]) (c := c75) (h := h75) (rs := [.tmp 6]) Tryd.func75 (by kernel_rfl) (by kernel_rfl) (nB (by kernel_rfl)) (by kernel_rfl) (by kernel_rfl) (by kernel_rfl) ?_
 rw [← f0L]
 exact h
def c8m (x0 : Value) (w : World) (R : RT) (E : Pan) : Prop :=
 oP E (xCall (fC 27) [(vI 0), x0]) w fun b1m w_2 =>
 oP E (eX b1m 0) w_2 fun a3j w_4 =>
 oP E (eX b1m 1) w_4 fun a7V w_6 =>
 R (Value.tuple #[a3j, a7V]) w_6
noncomputable def f0N : Code := Tryd.f101.body.getD .skip
def f0O : Hint := (sQ (sQ .none))
theorem e1I (x0 : Value) (w : World) (R : RT) (E : Pan) : c8m x0 w R E = callX Tryd.prog [.tmp 2, .tmp 3] f0N f0O [x0] w R E := by kernel_rfl
theorem e1J {x0 : Value} (h : c8m x0 w R E) : Cv Tryd.prog 101 #[x0] w R E := by
 refine g8 (args := [x0]) (c := f0N) (h := f0O) (rs := [.tmp 2, .tmp 3]) Tryd.func101 (by kernel_rfl) (by kernel_rfl) (nB (by kernel_rfl)) (by kernel_rfl) (by kernel_rfl) (by kernel_rfl) ?_
 rw [← e1I]
 exact h
def c8n (w : World) (R : RT) (E : Pan) : Prop :=
 oP E (xV (Instr.alloc 171 true (.tuple #[]))) w fun f0P w_2 =>
 oP E (xV (Instr.build 171 #[(0, (fC 123)), (1, (fC 124)), (2, (fC 125)), (3, (fC 126)), (4, (fC 127)), (5, (fC 128)), (6, (fC 129))])) w_2 fun g4o w_4 =>
 oP E (sA 171 f0P g4o) w_4 fun _z_5 w_6 =>
 xcell Tryd.prog 171 f0P w_6 fun r_7 =>
 R r_7 w_6
noncomputable def f0Q : Code := Tryd.f110.body.getD .skip
def f0R : Hint := (sQ (sQ .none))
theorem e1K (w : World) (R : RT) (E : Pan) : c8n  w R E = callX Tryd.prog [.cell 0 171] f0Q f0R [] w R E := by kernel_rfl
theorem e1L (h : c8n  w R E) : Cv Tryd.prog 110 #[] w R E := by
 refine g8 (args := []) (c := f0Q) (h := f0R) (rs := [.cell 0 171]) Tryd.func110 (by kernel_rfl) (by kernel_rfl) (Nat.zero_le _) (by kernel_rfl) (by kernel_rfl) (by kernel_rfl) ?_
 rw [← e1K]
 exact h
def c8o (x0 x1 : Value) (w : World) (R : RT) (E : Pan) : Prop :=
 oP E (xBin .lss 2 (.tmp 5) (.tmp 6) x0 x1) w fun a2A w_2 =>
 R a2A w_2
noncomputable def f0S : Code := Tryd.f124.body.getD .skip
def f0T : Hint := (sQ (sQ .none))
theorem e1M (x0 x1 : Value) (w : World) (R : RT) (E : Pan) : c8o x0 x1 w R E = callX Tryd.prog [.tmp 4] f0S f0T [x0, x1] w R E := by kernel_rfl
theorem e1N {x0 x1 : Value} (h : c8o x0 x1 w R E) : Cv Tryd.prog 124 #[x0, x1] w R E := by
 refine g8 (args := [x0, x1]) (c := f0S) (h := f0T) (rs := [.tmp 4]) Tryd.func124 (by kernel_rfl) (by kernel_rfl) (nB (by kernel_rfl)) (by kernel_rfl) (by kernel_rfl) (by kernel_rfl) ?_
 rw [← e1M]
 exact h
def c8p (x0 x1 : Value) (w : World) (R : RT) (E : Pan) : Prop :=
 oP E (xBin .leq 2 (.tmp 5) (.tmp 6) x0 x1) w fun a2A w_2 =>
 R a2A w_2
noncomputable def f0U : Code := Tryd.f125.body.getD .skip
def f0V : Hint := (sQ (sQ .none))
theorem e1O (x0 x1 : Value) (w : World) (R : RT) (E : Pan) : c8p x0 x1 w R E = callX Tryd.prog [.tmp 4] f0U f0V [x0, x1] w R E := by kernel_rfl
theorem e1P {x0 x1 : Value} (h : c8p x0 x1 w R E) : Cv Tryd.prog 125 #[x0, x1] w R E := by
 refine g8 (args := [x0, x1]) (c := f0U) (h := f0V) (rs := [.tmp 4]) Tryd.func125 (by kernel_rfl) (by kernel_rfl) (nB (by kernel_rfl)) (by kernel_rfl) (by kernel_rfl) (by kernel_rfl) ?_
 rw [← e1O]
 exact h
def c8q (x0 x1 : Value) (w : World) (R : RT) (E : Pan) : Prop :=
 oP E (xBin .eql 2 (.tmp 5) (.tmp 6) x0 x1) w fun a2A w_2 =>
 R a2A w_2
noncomputable def f0W : Code := Tryd.f126.body.getD .skip
def f0X : Hint := (sQ (sQ .none))
theorem e1Q (x0 x1 : Value) (w : World) (R : RT) (E : Pan) : c8q x0 x1 w R E = callX Tryd.prog [.tmp 4] f0W f0X [x0, x1] w R E := by kernel_rfl
theorem e1R {x0 x1 : Value} (h : c8q x0 x1 w R E) : Cv Tryd.prog 126 #[x0, x1] w R E := by
 refine g8 (args := [x0, x1]) (c := f0W) (h := f0X) (rs := [.tmp 4]) Tryd.func126 (by kernel_rfl) (by kernel_rfl) (nB (by kernel_rfl)) (by kernel_rfl) (by kernel_rfl) (by kernel_rfl) ?_
 rw [← e1Q]
 exact h
def c8r (x0 x1 : Value) (w : World) (R : RT) (E : Pan) : Prop :=
 oP E (xBin .neq 2 (.tmp 5) (.tmp 6) x0 x1) w fun a2A w_2 =>
 R a2A w_2
noncomputable def f0Y : Code := Tryd.f127.body.getD .skip
def f0Z : Hint := (sQ (sQ .none))
theorem e1S (x0 x1 : Value) (w : World) (R : RT) (E : Pan) : c8r x0 x1 w R E = callX Tryd.prog [.tmp 4] f0Y f0Z [x0, x1] w R E := by kernel_rfl
theorem e1T {x0 x1 : Value} (h : c8r x0 x1 w R E) : Cv Tryd.prog 127 #[x0, x1] w R E := by
 refine g8 (args := [x0, x1]) (c := f0Y) (h := f0Z) (rs := [.tmp 4]) Tryd.func127 (by kernel_rfl) (by kernel_rfl) (nB (by kernel_rfl)) (by kernel_rfl) (by kernel_rfl) (by kernel_rfl) ?_
 rw [← e1S]
 exact h
def c8s (x0 x1 : Value) (w : World) (R : RT) (E : Pan) : Prop :=
 oP E (xBin .gtr 2 (.tmp 5) (.tmp 6) x0 x1) w fun a2A w_2 =>
 R a2A w_2
noncomputable def f1a : Code := Tryd.f128.body.getD .skip
def f1b : Hint := (sQ (sQ .none))
theorem e1U (x0 x1 : Value) (w : World) (R : RT) (E : Pan) : c8s x0 x1 w R E = callX Tryd.prog [.tmp 4] f1a f1b [x0, x1] w R E := by kernel_rfl
theorem e1V {x0 x1 : Value} (h : c8s x0 x1 w R E) : Cv Tryd.prog 128 #[x0, x1] w R E := by
 refine g8 (args := [x0, x1]) (c := f1a) (h := f1b) (rs := [.tmp 4]) Tryd.func128 (by kernel_rfl) (by kernel_rfl) (nB (by kernel_rfl)) (by kernel_rfl) (by kernel_rfl) (by kernel_rfl) ?_
 rw [← e1U]
 exact h
def c8t (x0 x1 : Value) (w : World) (R : RT) (E : Pan) : Prop :=
 oP E (xBin .geq 2 (.tmp 5) (.tmp 6) x0 x1) w fun a2A w_2 =>
 R a2A w_2
noncomputable def f1c : Code := Tryd.f129.body.getD .skip
def f1d : Hint := (sQ (sQ .none))
theorem e1W (x0 x1 : Value) (w : World) (R : RT) (E : Pan) : c8t x0 x1 w R E = callX Tryd.prog [.tmp 4] f1c f1d [x0, x1] w R E := by kernel_rfl
theorem e1X {x0 x1 : Value} (h : c8t x0 x1 w R E) : Cv Tryd.prog 129 #[x0, x1] w R E := by
 refine g8 (args := [x0, x1]) (c := f1c) (h := f1d) (rs := [.tmp 4]) Tryd.func129 (by kernel_rfl) (by kernel_rfl) (nB (by kernel_rfl)) (by kernel_rfl) (by kernel_rfl) (by kernel_rfl) ?_
 rw [← e1W]
 exact h
end Go.Proofs.YtnhkdkcgdcgmdaaDoor
