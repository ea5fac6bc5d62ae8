/- The laws TextChecks, TextClasses: the program's answers are the reference's. -/
import Derived.Test.YtpdeflgmldomeaaDoorT7
import Derived.Laws.StructEq
import Derived.Laws.Tables
import Derived.Laws.Cover2
namespace Go.Proofs.YtpdeflgmldomeaaDoor
open Go.RowKit

theorem eqPlace (a b c d : Int) (w : World) : (Op.equalIn 10000 33 (.agg #[.int .i64 a, .int .i64 b]) (.agg #[.int .i64 c, .int .i64 d])).run Tryd.prog w = .ok (decide (a = c ∧ b = d)) w := by
  have u3 := Tryd.underlying3
  have a3 := Tryd.isAgg3
  have z3 := Tryd.sizeOf3
  have hS : Tryd.prog.underlying 33 = some (.struct (Tryd.prog.fieldsOf 33)) := by kernel_rfl
  rw [show (10000 : Nat) = 9999 + 1 from rfl, run_equalIn_agg w 9999 33 _ _ hS (by kernel_rfl)]
  simp only [Program.fieldsOf, Tryd.underlying33]
  go_simp
  by_cases h1 : a = c <;> by_cases h2 : b = d <;> simp [h1, h2]
section
variable {w : World} {K : Value → World → Prop}
theorem o_eqPlace (x y : Operand) (a b c d : Int) : opK Tryd.prog (xBin .eql 33 x y (.agg #[.int .i64 a, .int .i64 b]) (.agg #[.int .i64 c, .int .i64 d])) w K = K (.bool (decide (a = c ∧ b = d))) w := by
  unfold xBin
  refine opK_ok (s := do eqGuard .eql 33 x y (.agg #[.int .i64 a, .int .i64 b]) (.agg #[.int .i64 c, .int .i64 d]); binOp .eql 33 (.agg #[.int .i64 a, .int .i64 b]) (.agg #[.int .i64 c, .int .i64 d])) ?_
  rw [Sem.run_bind, run_eqGuard_agg w _ _ _ _ _ _ (by kernel_rfl), Result.andThen_ok, run_eql_struct, eqPlace]
  rfl
theorem o_neqPlace (x y : Operand) (a b c d : Int) : opK Tryd.prog (xBin .neq 33 x y (.agg #[.int .i64 a, .int .i64 b]) (.agg #[.int .i64 c, .int .i64 d])) w K = K (.bool (!decide (a = c ∧ b = d))) w := by
  unfold xBin
  refine opK_ok (s := do eqGuard .neq 33 x y (.agg #[.int .i64 a, .int .i64 b]) (.agg #[.int .i64 c, .int .i64 d]); binOp .neq 33 (.agg #[.int .i64 a, .int .i64 b]) (.agg #[.int .i64 c, .int .i64 d])) ?_
  rw [Sem.run_bind, run_eqGuard_agg w _ _ _ _ _ _ (by kernel_rfl), Result.andThen_ok, run_neq_struct, eqPlace]
  rfl
end

theorem known_chk : checkR ⟨#[97, 255]⟩ = .tuple #[.int .i64 1, .int .i64 11] := by
  unfold checkR
  rw [if_neg (by decide), show chkAt ⟨#[97, 255]⟩ 0 = some 1 by decide]
  rfl
theorem known_at : placeOf (atP ⟨#[97, 195, 169, 10, 98]⟩ 4) = .agg #[.int .i64 2, .int .i64 1] := by
  unfold placeOf
  rw [show atP ⟨#[97, 195, 169, 10, 98]⟩ 4 = (2, 1) by decide]
  rfl
theorem known_cls : cls 233 = 3 := cls_lt (by decide)

theorem known_ok (w : World) (hT : Tabs w) (R : Value → World → Prop) (h : ∀ w', Ext w w' → R (.bool true) w') : Cv Tryd.prog 8 #[] w R := by
  apply F8_ok
  unfold F8
  refine o_call_9 (check_ok _ w hT _ fun w1 h1 => ?_)
  rw [known_chk]
  simp (disch := first | omega | (simp only [sz_alloc, sz_row, sz_obj]; done) | (simp only [sz_alloc, sz_row, sz_obj]; omega)) only [opK_eql, opK_pick, asB_bool, gsem_11, gval_11, dec_t, cond_true, ext2_0, ext2_1]
  refine o_call_11 (class_ok _ _ _ fun w2 h2 => ?_)
  rw [known_cls]
  simp (disch := first | omega | (simp only [sz_alloc, sz_row, sz_obj]; done) | (simp only [sz_alloc, sz_row, sz_obj]; omega)) only [opK_eql, opK_pick, asB_bool, gsem_11, dec_t, cond_true, o_build_33_0_1]
  refine o_call_13 (at_ok _ _ _ _ (by decide) fun w3 h3 => ?_)
  rw [known_at]
  simp (disch := first | omega | (simp only [sz_alloc, sz_row, sz_obj]; done) | (simp only [sz_alloc, sz_row, sz_obj]; omega)) only [o_eqPlace]
  exact h _ ((h1.trans h2).trans h3)

theorem checks_ok (s : ByteArray) (w : World) (hT : Tabs w) (R : Value → World → Prop) (h : ∀ w', Ext w w' → R (.bool true) w') : Cv Tryd.prog 3 #[.string s] w R := by
  apply F3_ok
  unfold F3
  refine o_call_8 (known_ok w hT _ fun w1 h1 => ?_)
  simp (disch := first | omega | (simp only [sz_alloc, sz_row, sz_obj]; done) | (simp only [sz_alloc, sz_row, sz_obj]; omega)) only [opK_not, xcond_0, Bool.not_true]
  refine o_call_9 (check_ok s w1 (hT.ext h1) _ fun w2 h2 => ?_)
  obtain ⟨a, b, e⟩ : ∃ a b : Int, checkR s = .tuple #[.int .i64 a, .int .i64 b] := by
    unfold checkR
    split
    · exact ⟨_, _, rfl⟩
    · split <;> exact ⟨_, _, rfl⟩
  rw [e]
  simp (disch := first | omega | (simp only [sz_alloc, sz_row, sz_obj]; done) | (simp only [sz_alloc, sz_row, sz_obj]; omega)) only [ext2_0, ext2_1]
  refine o_call_10 (refCheck_ok s w2 _ ?_)
  rw [e]
  simp (disch := first | omega | (simp only [sz_alloc, sz_row, sz_obj]; done) | (simp only [sz_alloc, sz_row, sz_obj]; omega)) only [opK_eql, opK_pick, asB_bool, gsem_11, gval_11, dec_t, cond_true, ext2_0, ext2_1]
  exact h _ (h1.trans h2)

theorem classes_ok (r : Int) (hr : -2147483648 ≤ r ∧ r < 2147483648) (w : World) (hT : Tabs w) (R : Value → World → Prop) (h : ∀ w', Ext w w' → R (.bool true) w') : Cv Tryd.prog 4 #[.int .i32 r] w R := by
  apply F4_ok
  unfold F4
  refine o_call_8 (known_ok w hT _ fun w1 h1 => ?_)
  simp (disch := first | omega | (simp only [sz_alloc, sz_row, sz_obj]; done) | (simp only [sz_alloc, sz_row, sz_obj]; omega)) only [opK_pick, asB_bool, gsem_11, gval_11, cond_true, o_conv_21_3]
  refine o_call_11 (class_ok _ _ _ fun w2 h2 => ?_)
  refine o_call_12 (refClass_ok _ _ _ ?_)
  simp (disch := first | omega | (simp only [sz_alloc, sz_row, sz_obj]; done) | (simp only [sz_alloc, sz_row, sz_obj]; omega)) only [opK_eql, dec_t]
  exact h _ (h1.trans h2)
end Go.Proofs.YtpdeflgmldomeaaDoor
