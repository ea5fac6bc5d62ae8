/- The second reading of some of the program's functions, printed by gen2.py off the code; each is held against the code by the kernel. -/
import Derived.Test.YtnhkdkcgdcgmdaaDoorProg
import Derived.Test.YtnhkdkcgdcgmdaaDoorzDK0
import Derived.KernelRfl
import Derived.Test.YtnhkdkcgdcgmdaaDoorzDGz
namespace Go.Proofs.YtnhkdkcgdcgmdaaDoor
open Go.RowKit
set_option maxRecDepth 100000
variable {w : World} {R : RT} {E : Pan}
def F26 (x0 x1 : Value) (w : World) (R : RT) (E : Pan) : Prop :=
 oP E (xBin .add 2 (.tmp 7) (.tmp 8) x0 x1) w fun a8o w_2 =>
 oP E (xBin .lss 2 (.tmp 10) (.const (vI 0)) x0 (vI 0)) w_2 fun a0x w_4 =>
 oP E (xBin .lss 2 (.tmp 12) (.const (vI 0)) x1 (vI 0)) w_4 fun a3F w_6 =>
 oP E (xBin .eql 4 (.tmp 11) (.tmp 13) a0x a3F) w_6 fun S2 w_8 =>
 oP E (gsem (asB S2) true (xBin .lss 2 (.tmp 16) (.const (vI 0)) (gval (asB S2) true a8o) (vI 0))) w_8 fun b7r m4 =>
 oP E (gsem (asB S2) true (xBin .lss 2 (.tmp 18) (.const (vI 0)) (gval (asB S2) true x0) (vI 0))) m4 fun a6t o0 =>
 oP E (gsem (asB S2) true (xBin .neq 4 (.tmp 17) (.tmp 19) b7r a6t)) o0 fun a8p m8 =>
 oP E (xPick S2 a8p (vB false)) m8 fun b3p o8 =>
 xcond b3p
 (R (Value.tuple #[(vI 0), (vI 1)]) o8)
 (R (Value.tuple #[a8o, (vI 0)]) o8)
noncomputable def c26 : Code := Tryd.f26.body.getD .skip
def h26 : Hint := (sQ (sQ (.seq (sQ (.cond (sQ .none) .none)) (sQ .none))))
theorem e8N (x0 x1 : Value) (w : World) (R : RT) (E : Pan) : F26 x0 x1 w R E = callX Tryd.prog [.tmp 4, .tmp 5] c26 h26 [x0, x1] w R E := by kernel_rfl
theorem e8O {x0 x1 : Value} (h : F26 x0 x1 w R E) : Cv Tryd.prog 26 #[x0, x1] w R E := by
 refine g8 (args := [x0, x1]) (c := c26) (h := h26) (rs := [.tmp 4, .tmp 5]) Tryd.func26 (by kernel_rfl) (by kernel_rfl) (nB (by kernel_rfl)) (by kernel_rfl) (by kernel_rfl) (by kernel_rfl) ?_
 rw [← e8N]
 exact h
def F27 (x0 x1 : Value) (w : World) (R : RT) (E : Pan) : Prop :=
 oP E (xBin .sub 2 (.tmp 7) (.tmp 8) x0 x1) w fun a8o w_2 =>
 oP E (xBin .lss 2 (.tmp 10) (.const (vI 0)) x0 (vI 0)) w_2 fun a0x w_4 =>
 oP E (xBin .lss 2 (.tmp 12) (.const (vI 0)) x1 (vI 0)) w_4 fun a3F w_6 =>
 oP E (xBin .neq 4 (.tmp 11) (.tmp 13) a0x a3F) w_6 fun S2 w_8 =>
 oP E (gsem (asB S2) true (xBin .lss 2 (.tmp 16) (.const (vI 0)) (gval (asB S2) true a8o) (vI 0))) w_8 fun b7r m4 =>
 oP E (gsem (asB S2) true (xBin .lss 2 (.tmp 18) (.const (vI 0)) (gval (asB S2) true x0) (vI 0))) m4 fun a6t o0 =>
 oP E (gsem (asB S2) true (xBin .neq 4 (.tmp 17) (.tmp 19) b7r a6t)) o0 fun a8p m8 =>
 oP E (xPick S2 a8p (vB false)) m8 fun b3p o8 =>
 xcond b3p
 (R (Value.tuple #[(vI 0), (vI 1)]) o8)
 (R (Value.tuple #[a8o, (vI 0)]) o8)
noncomputable def c27 : Code := Tryd.f27.body.getD .skip
def h27 : Hint := (sQ (sQ (.seq (sQ (.cond (sQ .none) .none)) (sQ .none))))
theorem e8P (x0 x1 : Value) (w : World) (R : RT) (E : Pan) : F27 x0 x1 w R E = callX Tryd.prog [.tmp 4, .tmp 5] c27 h27 [x0, x1] w R E := by kernel_rfl
theorem e8Q {x0 x1 : Value} (h : F27 x0 x1 w R E) : Cv Tryd.prog 27 #[x0, x1] w R E := by
 refine g8 (args := [x0, x1]) (c := c27) (h := h27) (rs := [.tmp 4, .tmp 5]) Tryd.func27 (by kernel_rfl) (by kernel_rfl) (nB (by kernel_rfl)) (by kernel_rfl) (by kernel_rfl) (by kernel_rfl) ?_
 rw [← e8P]
 exact h
def c3l (x0 x1 x6 x7 x8 : Value) (w : World) (R : RT) (E : Pan) : Prop :=
 ∀ _τ : Fr, (oP E (xBin .neq 96 (.tmp 24) (.const (Value.int .u64 0)) x6 (Value.int .u64 0)) w fun b7s o0 =>
 oP E (gsem (asB b7s) false (xBin .gtr 96 (.tmp 27) (.tmp 28) (gval (asB b7s) false x7) (gval (asB b7s) false x8))) o0 fun c3m m8 =>
 oP E (xPick b7s (vB true) c3m) m8 fun b7t o8 =>
 xcond b7t
 (R (Value.tuple #[(vI 0), (vI 1)]) o8)
 (oP E (xBin .mul 2 (.tmp 31) (.tmp 32) x0 x1) o8 fun e8R p6 =>
 R (Value.tuple #[e8R, (vI 0)]) p6))
def F28 (x0 x1 : Value) (w : World) (R : RT) (E : Pan) : Prop :=
 oP E (xCall (fC 48) [x0]) w fun c7H w_2 =>
 oP E (xCall (fC 48) [x1]) w_2 fun b7u w_4 =>
 oP E (xCall (fC 47) [c7H, b7u]) w_4 fun d7v w_6 =>
 oP E (eX d7v 0) w_6 fun c7I w_8 =>
 oP E (eX d7v 1) w_8 fun c7J m4 =>
 xcut (fun a2S p7 => c3l x0 x1 c7I c7J (nth a2S 0) p7 R E) fun j1 =>
 oP E (xBin .lss 2 (.tmp 17) (.const (vI 0)) x0 (vI 0)) m4 fun e8S q9 =>
 oP E (xBin .lss 2 (.tmp 19) (.const (vI 0)) x1 (vI 0)) q9 fun a5f t8 =>
 oP E (xBin .neq 4 (.tmp 18) (.tmp 20) e8S a5f) t8 fun e8T z8 =>
 xcond e8T
 (oP E (xBin .add 96 (.tmp 22) (.const (Value.int .u64 1)) (Value.int .u64 9223372036854775807) (Value.int .u64 1)) z8 fun b3q B9 =>
 j1 [b3q] B9)
 (j1 [(Value.int .u64 9223372036854775807)] z8)
noncomputable def c28 : Code := Tryd.f28.body.getD .skip
def h28 : Hint := (sQ (sQ (sQ (.cut [8] (sQ (.cond .none .none)) (.seq (sQ (.cond (sQ .none) .none)) (sQ .none))))))
theorem e8U (x0 x1 : Value) (w : World) (R : RT) (E : Pan) : F28 x0 x1 w R E = callX Tryd.prog [.tmp 4, .tmp 5] c28 h28 [x0, x1] w R E := by kernel_rfl
theorem e8V {x0 x1 : Value} (h : F28 x0 x1 w R E) : Cv Tryd.prog 28 #[x0, x1] w R E := by
 refine g8 (args := [x0, x1]) (c := c28) (h := h28) (rs := [.tmp 4, .tmp 5]) Tryd.func28 (by kernel_rfl) (by kernel_rfl) (nB (by kernel_rfl)) (by kernel_rfl) (by kernel_rfl) (by kernel_rfl) ?_
 rw [← e8U]
 exact h
def F29 (x0 x1 : Value) (w : World) (R : RT) (E : Pan) : Prop :=
 oP E (xCall (fC 49) [x0, x1]) w fun a8o w_2 =>
 oP E (xBin .neq 3 (.tmp 10) (.const (vI 0)) a8o (vI 0)) w_2 fun a0x w_4 =>
 xcond a0x
 (R (Value.tuple #[(vI 0), a8o]) w_4)
 (oP E (xBin .quo 2 (.tmp 13) (.tmp 14) x0 x1) w_4 fun b1L w_6 =>
 R (Value.tuple #[b1L, (vI 0)]) w_6)
noncomputable def c29 : Code := Tryd.f29.body.getD .skip
def h29 : Hint := (sQ (.seq (sQ (sQ (.cond (sQ .none) .none))) (sQ .none)))
theorem e8W (x0 x1 : Value) (w : World) (R : RT) (E : Pan) : F29 x0 x1 w R E = callX Tryd.prog [.tmp 4, .tmp 5] c29 h29 [x0, x1] w R E := by kernel_rfl
theorem e8X {x0 x1 : Value} (h : F29 x0 x1 w R E) : Cv Tryd.prog 29 #[x0, x1] w R E := by
 refine g8 (args := [x0, x1]) (c := c29) (h := h29) (rs := [.tmp 4, .tmp 5]) Tryd.func29 (by kernel_rfl) (by kernel_rfl) (nB (by kernel_rfl)) (by kernel_rfl) (by kernel_rfl) (by kernel_rfl) ?_
 rw [← e8W]
 exact h
def F30 (x0 x1 : Value) (w : World) (R : RT) (E : Pan) : Prop :=
 oP E (xCall (fC 49) [x0, x1]) w fun a8o w_2 =>
 oP E (xBin .neq 3 (.tmp 10) (.const (vI 0)) a8o (vI 0)) w_2 fun a0x w_4 =>
 xcond a0x
 (R (Value.tuple #[(vI 0), a8o]) w_4)
 (oP E (xBin .rem 2 (.tmp 13) (.tmp 14) x0 x1) w_4 fun b1L w_6 =>
 R (Value.tuple #[b1L, (vI 0)]) w_6)
noncomputable def c30 : Code := Tryd.f30.body.getD .skip
def h30 : Hint := (sQ (.seq (sQ (sQ (.cond (sQ .none) .none))) (sQ .none)))
theorem e8Y (x0 x1 : Value) (w : World) (R : RT) (E : Pan) : F30 x0 x1 w R E = callX Tryd.prog [.tmp 4, .tmp 5] c30 h30 [x0, x1] w R E := by kernel_rfl
theorem e8Z {x0 x1 : Value} (h : F30 x0 x1 w R E) : Cv Tryd.prog 30 #[x0, x1] w R E := by
 refine g8 (args := [x0, x1]) (c := c30) (h := h30) (rs := [.tmp 4, .tmp 5]) Tryd.func30 (by kernel_rfl) (by kernel_rfl) (nB (by kernel_rfl)) (by kernel_rfl) (by kernel_rfl) (by kernel_rfl) ?_
 rw [← e8Y]
 exact h
def F47 (x0 x1 : Value) (w : World) (R : RT) (E : Pan) : Prop :=
 oP E (xBin .and 96 (.tmp 14) (.const (Value.int .u64 4294967295)) x0 (Value.int .u64 4294967295)) w fun d7w w_2 =>
 oP E (xBin .shr 96 (.tmp 16) (.const (Value.int .u64 32)) x0 (Value.int .u64 32)) w_2 fun c0H w_4 =>
 oP E (xBin .and 96 (.tmp 18) (.const (Value.int .u64 4294967295)) x1 (Value.int .u64 4294967295)) w_4 fun d7x w_6 =>
 oP E (xBin .shr 96 (.tmp 20) (.const (Value.int .u64 32)) x1 (Value.int .u64 32)) w_6 fun c0I w_8 =>
 oP E (xBin .mul 96 (.tmp 22) (.tmp 23) d7w d7x) w_8 fun f8n m4 =>
 oP E (xBin .mul 96 (.tmp 25) (.tmp 26) c0H d7x) m4 fun e9a o0 =>
 oP E (xBin .shr 96 (.tmp 28) (.const (Value.int .u64 32)) f8n (Value.int .u64 32)) o0 fun c3m m8 =>
 oP E (xBin .add 96 (.tmp 27) (.tmp 29) e9a c3m) m8 fun b7t o8 =>
 oP E (xBin .and 96 (.tmp 31) (.const (Value.int .u64 4294967295)) b7t (Value.int .u64 4294967295)) o8 fun e9b p6 =>
 oP E (xBin .shr 96 (.tmp 33) (.const (Value.int .u64 32)) b7t (Value.int .u64 32)) p6 fun e9c p7 =>
 oP E (xBin .mul 96 (.tmp 36) (.tmp 37) d7w c0I) p7 fun e9d q9 =>
 oP E (xBin .add 96 (.tmp 35) (.tmp 38) e9b e9d) q9 fun e9e t8 =>
 oP E (xBin .mul 96 (.tmp 40) (.tmp 41) c0H c0I) t8 fun e9f z8 =>
 oP E (xBin .add 96 (.tmp 42) (.tmp 43) e9f e9c) z8 fun e9g B9 =>
 oP E (xBin .shr 96 (.tmp 45) (.const (Value.int .u64 32)) e9e (Value.int .u64 32)) B9 fun e9h D3 =>
 oP E (xBin .add 96 (.tmp 44) (.tmp 46) e9g e9h) D3 fun e9i B4 =>
 oP E (xBin .mul 96 (.tmp 48) (.tmp 49) x0 x1) B4 fun e9j C6 =>
 R (Value.tuple #[e9i, e9j]) C6
noncomputable def c47 : Code := Tryd.f47.body.getD .skip
def h47 : Hint := (sQ (sQ (sQ (sQ (sQ (sQ (sQ (sQ (sQ (sQ (sQ (sQ .none))))))))))))
theorem e9k (x0 x1 : Value) (w : World) (R : RT) (E : Pan) : F47 x0 x1 w R E = callX Tryd.prog [.tmp 4, .tmp 5] c47 h47 [x0, x1] w R E := by kernel_rfl
theorem e9l {x0 x1 : Value} (h : F47 x0 x1 w R E) : Cv Tryd.prog 47 #[x0, x1] w R E := by
 refine g8 (args := [x0, x1]) (c := c47) (h := h47) (rs := [.tmp 4, .tmp 5]) Tryd.func47 (by kernel_rfl) (by kernel_rfl) (nB (by kernel_rfl)) (by kernel_rfl) (by kernel_rfl) (by kernel_rfl) ?_
 rw [← e9k]
 exact h
def F48 (x0 : Value) (w : World) (R : RT) (E : Pan) : Prop :=
 oP E (xBin .lss 2 (.tmp 3) (.const (vI 0)) x0 (vI 0)) w fun a9z w_2 =>
 xcond a9z
 (oP E (xV (convert 2 96 x0)) w_2 fun a2V w_4 =>
 oP E (xV (Op.unary .neg a2V)) w_4 fun a7J w_6 =>
 R a7J w_6)
 (oP E (xV (convert 2 96 x0)) w_2 fun d4v w_8 =>
 R d4v w_8)
noncomputable def c48 : Code := Tryd.f48.body.getD .skip
def h48 : Hint := (sQ (.seq (sQ (.cond (sQ .none) .none)) (sQ .none)))
theorem e9m (x0 : Value) (w : World) (R : RT) (E : Pan) : F48 x0 w R E = callX Tryd.prog [.tmp 2] c48 h48 [x0] w R E := by kernel_rfl
theorem e9n {x0 : Value} (h : F48 x0 w R E) : Cv Tryd.prog 48 #[x0] w R E := by
 refine g8 (args := [x0]) (c := c48) (h := h48) (rs := [.tmp 2]) Tryd.func48 (by kernel_rfl) (by kernel_rfl) (nB (by kernel_rfl)) (by kernel_rfl) (by kernel_rfl) (by kernel_rfl) ?_
 rw [← e9m]
 exact h
def F49 (x0 x1 : Value) (w : World) (R : RT) (E : Pan) : Prop :=
 oP E (xBin .eql 2 (.tmp 6) (.const (vI 0)) x1 (vI 0)) w fun a2q w_2 =>
 xcond a2q
 (R (vI 2) w_2)
 (oP E (xBin .eql 2 (.tmp 9) (.const (vI (-9223372036854775808))) x0 (vI (-9223372036854775808))) w_2 fun b0V w_4 =>
 oP E (gsem (asB b0V) true (xBin .eql 2 (.tmp 12) (.const (vI (-1))) (gval (asB b0V) true x1) (vI (-1)))) w_4 fun a3F w_6 =>
 oP E (xPick b0V a3F (vB false)) w_6 fun S2 w_8 =>
 xcond S2
 (R (vI 1) w_8)
 (R (vI 0) w_8))
noncomputable def c49 : Code := Tryd.f49.body.getD .skip
def h49 : Hint := (sQ (.seq (.block (sQ (.cond (sQ .none) (sQ (.cond (sQ .none) .none))))) (sQ .none)))
theorem e9o (x0 x1 : Value) (w : World) (R : RT) (E : Pan) : F49 x0 x1 w R E = callX Tryd.prog [.tmp 4] c49 h49 [x0, x1] w R E := by kernel_rfl
theorem e9p {x0 x1 : Value} (h : F49 x0 x1 w R E) : Cv Tryd.prog 49 #[x0, x1] w R E := by
 refine g8 (args := [x0, x1]) (c := c49) (h := h49) (rs := [.tmp 4]) Tryd.func49 (by kernel_rfl) (by kernel_rfl) (nB (by kernel_rfl)) (by kernel_rfl) (by kernel_rfl) (by kernel_rfl) ?_
 rw [← e9o]
 exact h
def F75 (x0 x1 x2 : Value) (w : World) (R : RT) (E : Pan) : Prop :=
 oP E (xBin .lss 3 (.tmp 7) (.const (vI 1)) x0 (vI 1)) w fun a9y w_2 =>
 oP E (gsem (asB a9y) false (xBin .gtr 3 (.tmp 10) (.const (vI 6)) (gval (asB a9y) false x0) (vI 6))) w_2 fun a0x w_4 =>
 oP E (xPick a9y (vB true) a0x) w_4 fun a5g w_6 =>
 xcond a5g
 (R (vB false) w_6)
 (oP E (xCall (fC 110) []) w_6 fun a5h w_8 =>
 oP E (xV (Instr.index 171 a5h x0)) w_8 fun a4h m4 =>
 oP E (xCall a4h [x1, x2]) m4 fun b3r o0 =>
 R b3r o0)
noncomputable def c75 : Code := Tryd.f75.body.getD .skip
def h75 : Hint := (sQ (.seq (sQ (.cond (sQ .none) .none)) (sQ .none)))
theorem e9q (x0 x1 x2 : Value) (w : World) (R : RT) (E : Pan) : F75 x0 x1 x2 w R E = callX Tryd.prog [.tmp 6] c75 h75 [x0, x1, x2] w R E := by kernel_rfl
theorem e9r {x0 x1 x2 : Value} (h : F75 x0 x1 x2 w R E) : Cv Tryd.prog 75 #[x0, x1, x2] w R E := by
 refine g8 (args := [x0, x1, x2]) (c := c75) (h := h75) (rs := [.tmp 6]) Tryd.func75 (by kernel_rfl) (by kernel_rfl) (nB (by kernel_rfl)) (by kernel_rfl) (by kernel_rfl) (by kernel_rfl) ?_
 rw [← e9q]
 exact h
def c7K (x0 : Value) (w : World) (R : RT) (E : Pan) : Prop :=
 oP E (xCall (fC 27) [(vI 0), x0]) w fun b0Y w_2 =>
 oP E (eX b0Y 0) w_2 fun a2V w_4 =>
 oP E (eX b0Y 1) w_4 fun a7J w_6 =>
 R (Value.tuple #[a2V, a7J]) w_6
noncomputable def e9s : Code := Tryd.f101.body.getD .skip
def e9t : Hint := (sQ (sQ .none))
theorem e0p (x0 : Value) (w : World) (R : RT) (E : Pan) : c7K x0 w R E = callX Tryd.prog [.tmp 2, .tmp 3] e9s e9t [x0] w R E := by kernel_rfl
theorem e0q {x0 : Value} (h : c7K x0 w R E) : Cv Tryd.prog 101 #[x0] w R E := by
 refine g8 (args := [x0]) (c := e9s) (h := e9t) (rs := [.tmp 2, .tmp 3]) Tryd.func101 (by kernel_rfl) (by kernel_rfl) (nB (by kernel_rfl)) (by kernel_rfl) (by kernel_rfl) (by kernel_rfl) ?_
 rw [← e0p]
 exact h
def c7L (w : World) (R : RT) (E : Pan) : Prop :=
 oP E (xV (Instr.alloc 171 true (.tuple #[]))) w fun e9u w_2 =>
 oP E (xV (Instr.build 171 #[(0, (fC 123)), (1, (fC 124)), (2, (fC 125)), (3, (fC 126)), (4, (fC 127)), (5, (fC 128)), (6, (fC 129))])) w_2 fun g2O w_4 =>
 oP E (sA 171 e9u g2O) w_4 fun _z_5 w_6 =>
 xcell Tryd.prog 171 e9u w_6 fun r_7 =>
 R r_7 w_6
noncomputable def e9v : Code := Tryd.f110.body.getD .skip
def e9w : Hint := (sQ (sQ .none))
theorem e0r (w : World) (R : RT) (E : Pan) : c7L  w R E = callX Tryd.prog [.cell 0 171] e9v e9w [] w R E := by kernel_rfl
theorem e0s (h : c7L  w R E) : Cv Tryd.prog 110 #[] w R E := by
 refine g8 (args := []) (c := e9v) (h := e9w) (rs := [.cell 0 171]) Tryd.func110 (by kernel_rfl) (by kernel_rfl) (Nat.zero_le _) (by kernel_rfl) (by kernel_rfl) (by kernel_rfl) ?_
 rw [← e0r]
 exact h
def c7M (x0 x1 : Value) (w : World) (R : RT) (E : Pan) : Prop :=
 oP E (xBin .lss 2 (.tmp 5) (.tmp 6) x0 x1) w fun a2q w_2 =>
 R a2q w_2
noncomputable def e9x : Code := Tryd.f124.body.getD .skip
def e9y : Hint := (sQ (sQ .none))
theorem e0t (x0 x1 : Value) (w : World) (R : RT) (E : Pan) : c7M x0 x1 w R E = callX Tryd.prog [.tmp 4] e9x e9y [x0, x1] w R E := by kernel_rfl
theorem e0u {x0 x1 : Value} (h : c7M x0 x1 w R E) : Cv Tryd.prog 124 #[x0, x1] w R E := by
 refine g8 (args := [x0, x1]) (c := e9x) (h := e9y) (rs := [.tmp 4]) Tryd.func124 (by kernel_rfl) (by kernel_rfl) (nB (by kernel_rfl)) (by kernel_rfl) (by kernel_rfl) (by kernel_rfl) ?_
 rw [← e0t]
 exact h
def c7N (x0 x1 : Value) (w : World) (R : RT) (E : Pan) : Prop :=
 oP E (xBin .leq 2 (.tmp 5) (.tmp 6) x0 x1) w fun a2q w_2 =>
 R a2q w_2
noncomputable def e9z : Code := Tryd.f125.body.getD .skip
def e9A : Hint := (sQ (sQ .none))
theorem e0v (x0 x1 : Value) (w : World) (R : RT) (E : Pan) : c7N x0 x1 w R E = callX Tryd.prog [.tmp 4] e9z e9A [x0, x1] w R E := by kernel_rfl
theorem e0w {x0 x1 : Value} (h : c7N x0 x1 w R E) : Cv Tryd.prog 125 #[x0, x1] w R E := by
 refine g8 (args := [x0, x1]) (c := e9z) (h := e9A) (rs := [.tmp 4]) Tryd.func125 (by kernel_rfl) (by kernel_rfl) (nB (by kernel_rfl)) (by kernel_rfl) (by kernel_rfl) (by kernel_rfl) ?_
 rw [← e0v]
 exact h
def c7O (x0 x1 : Value) (w : World) (R : RT) (E : Pan) : Prop :=
 oP E (xBin .eql 2 (.tmp 5) (.tmp 6) x0 x1) w fun a2q w_2 =>
 R a2q w_2
noncomputable def e9B : Code := Tryd.f126.body.getD .skip
def e9C : Hint := (sQ (sQ .none))
theorem e0x (x0 x1 : Value) (w : World) (R : RT) (E : Pan) : c7O x0 x1 w R E = callX Tryd.prog [.tmp 4] e9B e9C [x0, x1] w R E := by kernel_rfl
theorem e0y {x0 x1 : Value} (h : c7O x0 x1 w R E) : Cv Tryd.prog 126 #[x0, x1] w R E := by
 refine g8 (args := [x0, x1]) (c := e9B) (h := e9C) (rs := [.tmp 4]) Tryd.func126 (by kernel_rfl) (by kernel_rfl) (nB (by kernel_rfl)) (by kernel_rfl) (by kernel_rfl) (by kernel_rfl) ?_
 rw [← e0x]
 exact h
def c7P (x0 x1 : Value) (w : World) (R : RT) (E : Pan) : Prop :=
 oP E (xBin .neq 2 (.tmp 5) (.tmp 6) x0 x1) w fun a2q w_2 =>
 R a2q w_2
noncomputable def e9D : Code := Tryd.f127.body.getD .skip
def e9E : Hint := (sQ (sQ .none))
theorem e0z (x0 x1 : Value) (w : World) (R : RT) (E : Pan) : c7P x0 x1 w R E = callX Tryd.prog [.tmp 4] e9D e9E [x0, x1] w R E := by kernel_rfl
theorem e0A {x0 x1 : Value} (h : c7P x0 x1 w R E) : Cv Tryd.prog 127 #[x0, x1] w R E := by
 refine g8 (args := [x0, x1]) (c := e9D) (h := e9E) (rs := [.tmp 4]) Tryd.func127 (by kernel_rfl) (by kernel_rfl) (nB (by kernel_rfl)) (by kernel_rfl) (by kernel_rfl) (by kernel_rfl) ?_
 rw [← e0z]
 exact h
def c7Q (x0 x1 : Value) (w : World) (R : RT) (E : Pan) : Prop :=
 oP E (xBin .gtr 2 (.tmp 5) (.tmp 6) x0 x1) w fun a2q w_2 =>
 R a2q w_2
noncomputable def e9F : Code := Tryd.f128.body.getD .skip
def e9G : Hint := (sQ (sQ .none))
theorem e0B (x0 x1 : Value) (w : World) (R : RT) (E : Pan) : c7Q x0 x1 w R E = callX Tryd.prog [.tmp 4] e9F e9G [x0, x1] w R E := by kernel_rfl
theorem e0C {x0 x1 : Value} (h : c7Q x0 x1 w R E) : Cv Tryd.prog 128 #[x0, x1] w R E := by
 refine g8 (args := [x0, x1]) (c := e9F) (h := e9G) (rs := [.tmp 4]) Tryd.func128 (by kernel_rfl) (by kernel_rfl) (nB (by kernel_rfl)) (by kernel_rfl) (by kernel_rfl) (by kernel_rfl) ?_
 rw [← e0B]
 exact h
def c7R (x0 x1 : Value) (w : World) (R : RT) (E : Pan) : Prop :=
 oP E (xBin .geq 2 (.tmp 5) (.tmp 6) x0 x1) w fun a2q w_2 =>
 R a2q w_2
noncomputable def e9H : Code := Tryd.f129.body.getD .skip
def e9I : Hint := (sQ (sQ .none))
theorem e0D (x0 x1 : Value) (w : World) (R : RT) (E : Pan) : c7R x0 x1 w R E = callX Tryd.prog [.tmp 4] e9H e9I [x0, x1] w R E := by kernel_rfl
theorem e0E {x0 x1 : Value} (h : c7R x0 x1 w R E) : Cv Tryd.prog 129 #[x0, x1] w R E := by
 refine g8 (args := [x0, x1]) (c := e9H) (h := e9I) (rs := [.tmp 4]) Tryd.func129 (by kernel_rfl) (by kernel_rfl) (nB (by kernel_rfl)) (by kernel_rfl) (by kernel_rfl) (by kernel_rfl) ?_
 rw [← e0D]
 exact h
end Go.Proofs.YtnhkdkcgdcgmdaaDoor
