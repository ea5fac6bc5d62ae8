/- The law TextJoins walked. -/
import Derived.Test.YtpdeflgmldomeaaDoorT9
namespace Go.Proofs.YtpdeflgmldomeaaDoor
open Go.RowKit

theorem plc_bd (s : ByteArray) (n : Int) : ∀ (f p : Nat) (q : Int × Int), q.1 ≤ (plc s n f p q).1 ∧ (plc s n f p q).1 ≤ q.1 + f := by
  intro f
  induction f with
  | zero => intro p q; exact ⟨Int.le_refl _, by simp [plc]⟩
  | succ f ih =>
    intro p q
    unfold plc
    split
    · have := ih (p + (Utf8.decode s p).2) (nextP q (Utf8.decode s p).1)
      have h2 : q.1 ≤ (nextP q (Utf8.decode s p).1).1 ∧ (nextP q (Utf8.decode s p).1).1 ≤ q.1 + 1 := by
        unfold nextP
        split <;> simp <;> omega
      omega
    · omega
theorem atP_bd (s : ByteArray) (n : Int) : 1 ≤ (atP s n).1 ∧ (atP s n).1 ≤ 1 + s.size := by
  have := plc_bd s n (s.size - 0) 0 (1, 1)
  unfold atP plcAt
  simp only at this
  omega

theorem o_cat {w : World} {K : Value → World → Prop} (t : TypeId) (x y : Operand) (a b : ByteArray) (h : a.size + b.size ≤ 9223372036854775807) :
    opK Tryd.prog (xBin .add t x y (.string a) (.string b)) w K = K (.string (a ++ b)) w := by
  have : xBin .add t x y (.string a) (.string b) = xV (binOp .add t (.string a) (.string b)) := rfl
  rw [this]
  refine opK_ok ?_
  have e : binOp .add t (.string a) (.string b) = Op.stringOp .add a b := rfl
  rw [e]
  have : ¬ (((a.size + b.size : Nat) : Int) > IntKind.i64.max) := by
    rw [show IntKind.i64.max = 9223372036854775807 from rfl]
    omega
  simp only [Op.stringOp, if_neg this]
  rfl

set_option maxHeartbeats 2000000 in
theorem joins_ok (s t : ByteArray) (n : Int) (hs : s.size ≤ 1048576) (ht : t.size ≤ 1048576) (w : World) (hT : Tabs w) (R : Value → World → Prop) (h : ∀ w', Ext w w' → R (.bool true) w') :
    Cv Tryd.prog 6 #[.string s, .string t, .int .i64 n] w R := by
  apply F6_ok
  unfold F6
  refine o_call_8 (known_ok w hT _ fun w1 h1 => ?_)
  have hz : (⟨#[10]⟩ : ByteArray).size = 1 := rfl
  have hx := lineEnd_of s
  have hxs : (s ++ ⟨#[10]⟩).size = s.size + 1 := by rw [ByteArray.size_append, hz]
  simp only [opK_not, xcond_0, Bool.not_true, o_cat _ _ _ s ⟨#[10]⟩ (by omega), o_min, o_max, o_len_9]
  generalize (s ++ ⟨#[10]⟩) = x at hx hxs
  have hm : 0 ≤ (if (if (t.size : Int) < n then (t.size : Int) else n) > 0 then (if (t.size : Int) < n then (t.size : Int) else n) else 0) ∧
      (if (if (t.size : Int) < n then (t.size : Int) else n) > 0 then (if (t.size : Int) < n then (t.size : Int) else n) else 0) ≤ t.size := by
    split <;> split <;> omega
  generalize (if (if (t.size : Int) < n then (t.size : Int) else n) > 0 then (if (t.size : Int) < n then (t.size : Int) else n) else 0) = m at hm
  obtain ⟨hj1, hj2⟩ := atP_joins x t hx m hm.1
  have ba := atP_bd x x.size
  have bb := atP_bd t m
  refine o_call_13 (at_ok x _ _ _ (by omega) fun w2 h2 => ?_)
  refine o_call_13 (at_ok t _ _ _ (by omega) fun w3 h3 => ?_)
  simp (disch := omega) only [opK_add, o_cat]
  refine o_call_13 (at_ok (x ++ t) _ _ _ (by rw [ByteArray.size_append]; omega) fun w4 h4 => ?_)
  rw [hj2]
  generalize atP x x.size = q at hj1 ba
  generalize atP t m = r at bb
  obtain ⟨q1, q2⟩ := q
  obtain ⟨r1, r2⟩ := r
  simp only at hj1 ba bb
  subst hj1
  unfold placeOf place shift
  simp only
  repeat' (first | (simp (disch := first | omega | (simp only [sz_alloc, sz_row, sz_obj]; done) | (simp only [sz_alloc, sz_row, sz_obj]; omega)) only [opK_eql, opK_pick, opK_add, opK_sub, nth, asB_bool, gsem_11, dec_t, cond_true, hp_new, hp_old, hp_row, hp_far, rowPut_some, sz_alloc, ldH_some, stH_some, spliced, cells_agg, List.size_toArray, List.length_cons, List.length_nil, Nat.reduceAdd, Nat.reduceLeDiff, Nat.le_refl, true_and, List.drop_zero, List.drop_succ_cons, List.take_succ_cons, List.take_zero, List.drop_nil, List.take_nil, List.nil_append, List.append_nil, List.all_cons, List.all_nil, Value.oneCell', Bool.and_self, Nat.zero_add, o_alloc_33, o_fa_33_1, o_fa_33_0]) | with_reducible refine o_store_33 rfl ?_ | refine o_load_3 ?_)
  exact h _ (((h1.trans h2).trans h3).trans (h4.trans (by repeat' (first | exact Ext.refl _ | assumption | refine Ext.row ?_ (by first | omega | (simp only [sz_alloc, sz_row, sz_obj]; done) | (simp only [sz_alloc, sz_row, sz_obj]; omega)) _ | refine Ext.obj ?_ (by first | omega | (simp only [sz_alloc, sz_row, sz_obj]; done) | (simp only [sz_alloc, sz_row, sz_obj]; omega)) _ | refine Ext.alloc ?_ _))))
end Go.Proofs.YtpdeflgmldomeaaDoor
