/- The small functions about texts. -/
import Derived.Test.YtpdeflgmldomeaaDoorY1
import Derived.Test.YtpdeflgmldomeaaDoorT1
namespace Go.Proofs.YtpdeflgmldomeaaDoor
open Go.RowKit

def place (l c : Int) : Value := .agg #[.int .i64 l, .int .i64 c]

theorem first_ok (w : World) (R : Value → World → Prop) (h : ∀ w', Ext w w' → R (place 1 1) w') : Cv Tryd.prog 20 #[] w R := by
  apply F20_ok
  unfold F20
  repeat' (first | (simp (disch := first | omega | (simp only [sz_alloc, sz_row, sz_obj]; done) | (simp only [sz_alloc, sz_row, sz_obj]; omega)) only [hp_new, hp_row, rowPut_some, ldH_some, stH_some, spliced, cells_agg, List.size_toArray, List.length_cons, List.length_nil, Nat.reduceAdd, Nat.le_refl, true_and, List.drop_zero, List.drop_succ_cons, List.take_succ_cons, List.take_zero, List.drop_nil, List.take_nil, List.nil_append, List.append_nil, List.all_cons, List.all_nil, Value.oneCell', Bool.and_self, Nat.zero_add, o_alloc_33, o_build_33_0_1]) | refine o_store_33 rfl ?_ | refine o_cell_33 ?_)
  exact h _ (by repeat' (first | exact Ext.refl _ | assumption | refine Ext.row ?_ (by first | omega | (simp only [sz_alloc, sz_row, sz_obj]; done) | (simp only [sz_alloc, sz_row, sz_obj]; omega)) _ | refine Ext.obj ?_ (by first | omega | (simp only [sz_alloc, sz_row, sz_obj]; done) | (simp only [sz_alloc, sz_row, sz_obj]; omega)) _ | refine Ext.alloc ?_ _))
theorem next_ok (l c r : Int) (w : World) (R : Value → World → Prop) (hl : 0 ≤ l) (hl2 : l < 4611686018427387904) (hc : 0 ≤ c) (hc2 : c < 4611686018427387904)
    (h : ∀ w', Ext w w' → R (if r = 10 then place (l + 1) 1 else place l (c + 1)) w') : Cv Tryd.prog 23 #[place l c, .int .i32 r] w R := by
  apply F23_ok
  unfold F23 place
  by_cases hr : r = 10
  · repeat' (first | (simp (disch := first | omega | (simp only [sz_alloc, sz_row, sz_obj]; done) | (simp only [sz_alloc, sz_row, sz_obj]; omega)) only [opK_eql, opK_add, nth, xcond_1, dec_t, opK_box, hp_new, hp_old, hp_row, rowPut_some, sz_alloc, ldH_some, stH_some, spliced, cells_agg, List.size_toArray, List.length_cons, List.length_nil, Nat.reduceAdd, Nat.reduceLeDiff, Nat.le_refl, true_and, List.drop_zero, List.drop_succ_cons, List.take_succ_cons, List.take_zero, List.drop_nil, List.take_nil, List.nil_append, List.append_nil, List.all_cons, List.all_nil, Value.oneCell', Bool.and_self, Nat.zero_add, o_alloc_33, o_fa_33_0, o_build_33_0_1]) | refine o_load_3 ?_ | refine o_store_33 rfl ?_ | refine o_cell_33 ?_)
    rw [if_pos hr] at h
    exact h _ (by repeat' (first | exact Ext.refl _ | assumption | refine Ext.row ?_ (by first | omega | (simp only [sz_alloc, sz_row, sz_obj]; done) | (simp only [sz_alloc, sz_row, sz_obj]; omega)) _ | refine Ext.obj ?_ (by first | omega | (simp only [sz_alloc, sz_row, sz_obj]; done) | (simp only [sz_alloc, sz_row, sz_obj]; omega)) _ | refine Ext.alloc ?_ _))
  · repeat' (first | (simp (disch := first | omega | (simp only [sz_alloc, sz_row, sz_obj]; done) | (simp only [sz_alloc, sz_row, sz_obj]; omega)) only [opK_eql, opK_add, nth, xcond_0, dec_f, opK_box, hp_new, hp_old, hp_row, rowPut_some, sz_alloc, ldH_some, stH_some, spliced, cells_agg, List.size_toArray, List.length_cons, List.length_nil, Nat.reduceAdd, Nat.reduceLeDiff, Nat.le_refl, true_and, List.drop_zero, List.drop_succ_cons, List.take_succ_cons, List.take_zero, List.drop_nil, List.take_nil, List.nil_append, List.append_nil, List.all_cons, List.all_nil, Value.oneCell', Bool.and_self, Nat.zero_add, o_alloc_33, o_fa_33_0, o_build_33_0_1, o_fa_33_1]) | refine o_load_3 ?_ | refine o_store_33 rfl ?_ | refine o_cell_33 ?_)
    rw [if_neg hr] at h
    exact h _ (by repeat' (first | exact Ext.refl _ | assumption | refine Ext.row ?_ (by first | omega | (simp only [sz_alloc, sz_row, sz_obj]; done) | (simp only [sz_alloc, sz_row, sz_obj]; omega)) _ | refine Ext.obj ?_ (by first | omega | (simp only [sz_alloc, sz_row, sz_obj]; done) | (simp only [sz_alloc, sz_row, sz_obj]; omega)) _ | refine Ext.alloc ?_ _))

theorem between_ok (r lo hi : Int) (w : World) (R : Value → World → Prop) (h : R (.bool (decide (lo ≤ r ∧ r ≤ hi))) w) : Cv Tryd.prog 19 #[.int .i64 r, .int .i64 lo, .int .i64 hi] w R := by
  apply F19_ok
  unfold F19
  by_cases h1 : lo ≤ r <;> by_cases h2 : r ≤ hi <;> (simp (disch := omega) only [opK_leq, opK_geq, opK_pick, opK_pure, asB_bool, gsem_11, gsem_01, gval_11, gval_01, dec_t, dec_f, cond_true, cond_false]; simpa [h1, h2] using h)

theorem in_ok (lo hi r : Int) (g : Nat) (w : World) (R : Value → World → Prop) (hg : w.heap[g]? = some (.cells #[.int .i32 r] 21)) (h : R (.bool (decide (lo ≤ r ∧ r ≤ hi))) w) :
    Cv Tryd.prog 18 #[.int .i32 lo, .int .i32 hi, .pointer (some ⟨g, 0, none⟩)] w R := by
  apply F18_ok
  unfold F18
  by_cases h1 : lo ≤ r <;> by_cases h2 : r ≤ hi <;>
    (repeat' (first | (simp (disch := first | omega | (simp only [sz_alloc, sz_row, sz_obj]; done) | (simp only [sz_alloc, sz_row, sz_obj]; omega)) only [opK_leq, opK_pick, opK_pure, nth, asB_bool, gsem_11, gsem_01, gval_11, gval_01, dec_t, dec_f, cond_true, cond_false, ldH_some, List.size_toArray, List.length_cons, List.length_nil, Nat.le_refl, true_and, List.drop_zero, List.take_succ_cons, List.take_nil, Nat.zero_add, hg]) | refine o_load_21 ?_)) <;>
    simpa [h1, h2] using h

/-- the class of a rune -/
def isSp (r : Int) : Prop := r = 32 ∨ r = 9 ∨ r = 13
def isDg (r : Int) : Prop := 48 ≤ r ∧ r ≤ 57
def isLt (r : Int) : Prop := (97 ≤ r ∧ r ≤ 122) ∨ (65 ≤ r ∧ r ≤ 90) ∨ r = 95 ∨ (192 ≤ r ∧ r ≤ 591 ∧ r ≠ 215 ∧ r ≠ 247) ∨ (913 ≤ r ∧ r ≤ 969 ∧ r ≠ 930) ∨ (1040 ≤ r ∧ r ≤ 1103)
def isSign (r : Int) : Prop := r = 59 ∨ r = 44 ∨ r = 123 ∨ r = 125 ∨ r = 40 ∨ r = 41 ∨ r = 91 ∨ r = 93 ∨ r = 61 ∨ r = 33 ∨ r = 60 ∨ r = 62 ∨ r = 43 ∨ r = 45 ∨ r = 42 ∨ r = 47 ∨ r = 37 ∨ r = 38 ∨ r = 124
instance (r : Int) : Decidable (isSp r) := by unfold isSp; infer_instance
instance (r : Int) : Decidable (isDg r) := by unfold isDg; infer_instance
instance (r : Int) : Decidable (isLt r) := by unfold isLt; infer_instance
instance (r : Int) : Decidable (isSign r) := by unfold isSign; infer_instance
def cls (r : Int) : Int := if isSp r then 1 else if r = 10 then 2 else if isDg r then 4 else if isLt r then 3 else if isSign r then 5 else 6
theorem cls_sp {r : Int} (h : isSp r) : cls r = 1 := if_pos h
theorem cls_ln {r : Int} (h : r = 10) : cls r = 2 := by subst h; decide
theorem cls_dg {r : Int} (h : isDg r) : cls r = 4 := by
  unfold cls
  rw [if_neg (by unfold isSp; unfold isDg at h; omega), if_neg (by unfold isDg at h; omega), if_pos h]
theorem cls_lt {r : Int} (h : isLt r) : cls r = 3 := by
  unfold cls
  rw [if_neg (by unfold isSp; unfold isLt at h; omega), if_neg (by unfold isLt at h; omega), if_neg (by unfold isDg; unfold isLt at h; omega), if_pos h]
theorem cls_sign {r : Int} (h : isSign r) : cls r = 5 := by
  unfold isSign at h
  rcases h with h | h | h | h | h | h | h | h | h | h | h | h | h | h | h | h | h | h | h <;> subst h <;> decide
theorem cls_other {r : Int} (h1 : ¬ isSp r) (h2 : ¬ r = 10) (h3 : ¬ isDg r) (h4 : ¬ isLt r) (h5 : ¬ isSign r) : cls r = 6 := by
  unfold cls; rw [if_neg h1, if_neg h2, if_neg h3, if_neg h4, if_neg h5]
theorem cls_leaf {r c : Int} {w : World} {R : Value → World → Prop} (h : R (.int .i64 (cls r)) w) (e : cls r = c) : R (.int .i64 c) w := e ▸ h
def signs : ByteArray := ⟨#[59, 44, 123, 125, 40, 41, 91, 93, 61, 33, 60, 62, 43, 45, 42, 47, 37, 38, 124]⟩
theorem sign_at : ∀ k : Nat, k < 19 → ((signs.get! k).toNat : Int) = 59 ∨ ((signs.get! k).toNat : Int) = 44 ∨ ((signs.get! k).toNat : Int) = 123 ∨ ((signs.get! k).toNat : Int) = 125 ∨ ((signs.get! k).toNat : Int) = 40 ∨ ((signs.get! k).toNat : Int) = 41 ∨ ((signs.get! k).toNat : Int) = 91 ∨ ((signs.get! k).toNat : Int) = 93 ∨ ((signs.get! k).toNat : Int) = 61 ∨ ((signs.get! k).toNat : Int) = 33 ∨ ((signs.get! k).toNat : Int) = 60 ∨ ((signs.get! k).toNat : Int) = 62 ∨ ((signs.get! k).toNat : Int) = 43 ∨ ((signs.get! k).toNat : Int) = 45 ∨ ((signs.get! k).toNat : Int) = 42 ∨ ((signs.get! k).toNat : Int) = 47 ∨ ((signs.get! k).toNat : Int) = 37 ∨ ((signs.get! k).toNat : Int) = 38 ∨ ((signs.get! k).toNat : Int) = 124 := by decide
theorem sign_in (r : Int) (h : isSign r) : ∃ k, k < 19 ∧ ((signs.get! k).toNat : Int) = r := by
  unfold isSign at h
  rcases h with h | h | h | h | h | h | h | h | h | h | h | h | h | h | h | h | h | h | h
  · exact ⟨0, by decide, h ▸ by decide⟩
  · exact ⟨1, by decide, h ▸ by decide⟩
  · exact ⟨2, by decide, h ▸ by decide⟩
  · exact ⟨3, by decide, h ▸ by decide⟩
  · exact ⟨4, by decide, h ▸ by decide⟩
  · exact ⟨5, by decide, h ▸ by decide⟩
  · exact ⟨6, by decide, h ▸ by decide⟩
  · exact ⟨7, by decide, h ▸ by decide⟩
  · exact ⟨8, by decide, h ▸ by decide⟩
  · exact ⟨9, by decide, h ▸ by decide⟩
  · exact ⟨10, by decide, h ▸ by decide⟩
  · exact ⟨11, by decide, h ▸ by decide⟩
  · exact ⟨12, by decide, h ▸ by decide⟩
  · exact ⟨13, by decide, h ▸ by decide⟩
  · exact ⟨14, by decide, h ▸ by decide⟩
  · exact ⟨15, by decide, h ▸ by decide⟩
  · exact ⟨16, by decide, h ▸ by decide⟩
  · exact ⟨17, by decide, h ▸ by decide⟩
  · exact ⟨18, by decide, h ▸ by decide⟩

theorem refClass_loop (r : Int) (w : World) (R : Value → World → Prop) (h5 : isSign r → R (.int .i64 5) w) (h6 : ¬ isSign r → R (.int .i64 6) w) :
    xloop [4] [.int .i64 0] w fun τ w' next => F12_l2 (.int .i64 r) (.string signs) (τ 4) w' next (fun _ w'' => F12_j1 w'' R) R := by
  refine ⟨fun l w' => ∃ k : Nat, l = [.int .i64 k] ∧ w' = w ∧ k ≤ 19 ∧ ∀ j, j < k → ((signs.get! j).toNat : Int) ≠ r, fun l _ => (19 - intOf (nth l 0)).toNat, ⟨0, rfl, rfl, by omega, fun j hj => absurd hj (by omega)⟩, ?_⟩
  rintro τ w' ⟨k, hl, rfl, hk, hj⟩
  have e1 : τ 4 = .int .i64 k := by simpa using hl
  have hb := byte_lt signs k
  have hz : signs.size = 19 := rfl
  simp only [e1]
  unfold F12_l2
  by_cases hlt : k < 19
  · by_cases he : r = ((signs.get! k).toNat : Int)
    · simp (disch := omega) only [opK_lss, opK_eql, opK_add, nth, xcond_1, dec_t, Int.toNat_natCast, o_len_9, o_index_9, o_conv_5_3]
      exact h5 (he ▸ sign_at k hlt)
    · simp (disch := omega) only [opK_lss, opK_eql, opK_add, nth, xcond_1, xcond_0, dec_t, dec_f, Int.toNat_natCast, o_len_9, o_index_9, o_conv_5_3]
      refine ⟨⟨k + 1, by simp, trivial, by omega, fun j hjk => ?_⟩, by simp [intOf, nth, e1]; omega⟩
      by_cases e : j = k
      · subst e; exact fun hh => he hh.symm
      · exact hj j (by omega)
  · obtain rfl : k = 19 := by omega
    simp (disch := omega) only [opK_lss, opK_add, nth, xcond_0, dec_f, o_len_9]
    exact fun _ => h6 fun hs => by
      obtain ⟨j, hjk, hje⟩ := sign_in r hs
      exact hj j hjk hje

set_option maxHeartbeats 2000000 in
theorem refClass_ok (r : Int) (w : World) (R : Value → World → Prop) (h : R (.int .i64 (cls r)) w) : Cv Tryd.prog 12 #[.int .i64 r] w R := by
  apply F12_ok
  unfold F12
  have L : isLt r → R (.int .i64 3) w := fun hl => cls_leaf h (cls_lt hl)
  by_cases h1 : isSp r
  · have e := cls_leaf h (cls_sp h1)
    unfold isSp at h1
    repeat' (first | (simp (disch := first | omega | (simp only [sz_alloc, sz_row, sz_obj]; done) | (simp only [sz_alloc, sz_row, sz_obj]; omega)) only [opK_eql, opK_pick, opK_pure, xcut, asB_bool, gsem_10, gsem_00, gval_10, gval_00, xcond_1, xcond_0, dec_t, dec_f, cond_true, cond_false]) | with_reducible exact e | refine xcond_dec (fun _ => ?_) (fun _ => ?_) | refine opK_gdec (fun _ => ?_) (fun _ => ?_))
  by_cases h2 : r = 10
  · have e := cls_leaf h (cls_ln h2)
    simp (disch := first | omega | (simp only [sz_alloc, sz_row, sz_obj]; done) | (simp only [sz_alloc, sz_row, sz_obj]; omega)) only [opK_eql, opK_pick, xcut, asB_bool, gsem_00, gval_00, xcond_1, xcond_0, dec_t, dec_f, cond_false]
    exact e
  by_cases h3 : isDg r
  · have e := cls_leaf h (cls_dg h3)
    unfold isDg at h3
    unfold isSp at h1
    repeat' (first | (simp (disch := first | omega | (simp only [sz_alloc, sz_row, sz_obj]; done) | (simp only [sz_alloc, sz_row, sz_obj]; omega)) only [opK_eql, opK_pick, xcut, asB_bool, gsem_00, gval_00, xcond_1, xcond_0, dec_t, dec_f, cond_false]) | with_reducible exact e | (refine o_call_19 (between_ok _ _ _ _ _ ?_)))
  by_cases h4 : isLt r
  · have e := cls_leaf h (cls_lt h4)
    unfold isDg at h3
    unfold isSp at h1
    unfold isLt at h4
    clear h L
    rcases h4 with h4 | h4 | h4 | h4 | h4 | h4 <;>
    (repeat' (first | (simp (disch := first | omega | (simp only [sz_alloc, sz_row, sz_obj]; done) | (simp only [sz_alloc, sz_row, sz_obj]; omega)) only [opK_eql, opK_neq, opK_pick, opK_pure, xcut, asB_bool, asB_undef, gsem_11, gsem_10, gsem_01, gsem_00, gsem_n, gval_11, gval_10, gval_01, gval_00, gval_n, xcond_1, xcond_0, dec_t, dec_f, cond_true, cond_false]) | with_reducible exact e | (refine o_call_19 (between_ok _ _ _ _ _ ?_)) | refine xcond_dec (fun _ => ?_) (fun _ => ?_) | refine opK_gdec (fun _ => ?_) (fun _ => ?_)))
  · have e5 : isSign r → R (.int .i64 5) w := fun hs => cls_leaf h (cls_sign hs)
    have e6 : ¬ isSign r → R (.int .i64 6) w := fun hs => cls_leaf h (cls_other h1 h2 h3 h4 hs)
    unfold isDg at h3
    unfold isSp at h1
    unfold isLt at h4
    clear h L
    repeat' (first | (simp (disch := first | omega | (simp only [sz_alloc, sz_row, sz_obj]; done) | (simp only [sz_alloc, sz_row, sz_obj]; omega)) only [opK_eql, opK_neq, opK_pick, opK_pure, xcut, asB_bool, gsem_11, gsem_01, gsem_00, gval_11, gval_01, gval_00, xcond_0, dec_t, dec_f, cond_true, cond_false]) | (refine refClass_loop _ _ _ e5 e6) | (refine o_call_19 (between_ok _ _ _ _ _ ?_)) | refine xcond_dec (fun _ => ?_) (fun _ => ?_) | refine opK_gdec (fun _ => ?_) (fun _ => ?_))
end Go.Proofs.YtpdeflgmldomeaaDoor
