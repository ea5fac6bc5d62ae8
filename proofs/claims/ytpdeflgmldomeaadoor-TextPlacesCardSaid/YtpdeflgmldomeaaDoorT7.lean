/- The program's own place of a byte: the reference's (the range over steps). -/
import Derived.Test.YtpdeflgmldomeaaDoorT6
namespace Go.Proofs.YtpdeflgmldomeaaDoor
open Go.RowKit

theorem steps_ok (s : ByteArray) (w : World) (R : Value → World → Prop) (h : R (.func (.func 25) #[] #[.pointer (some ⟨w.heap.size, 0, none⟩)]) (w.alloc (.cells #[.string s] 9))) :
    Cv Tryd.prog 21 #[.string s] w R := by
  apply F21_ok
  unfold F21
  simp only [opK_box, opK_makeFunc, cells_string]
  exact h

set_option maxHeartbeats 2000000 in
theorem at_ok (s : ByteArray) (n : Int) (w : World) (R : Value → World → Prop) (hs : s.size ≤ 4194304) (h : ∀ w', Ext w w' → R (placeOf (atP s n)) w') : Cv Tryd.prog 13 #[.string s, .int .i64 n] w R := by
  apply F13_ok
  unfold F13
  simp (disch := first | omega | (simp only [sz_alloc, sz_row, sz_obj]; done) | (simp only [sz_alloc, sz_row, sz_obj]; omega)) only [opK_box, sz_alloc, cells_int, o_alloc_33]
  refine o_call_20 (first_ok _ _ fun w1 he1 => ?_)
  have hE1 : Ext w w1 := by
    have h0 : Ext w ((w.alloc (.cells #[.int .i64 n] 3)).alloc (.cells #[.int .i64 0, .int .i64 0] 33)) := (by repeat' (first | exact Ext.refl _ | assumption | refine Ext.row ?_ (by first | omega | (simp only [sz_alloc, sz_row, sz_obj]; done) | (simp only [sz_alloc, sz_row, sz_obj]; omega)) _ | refine Ext.obj ?_ (by first | omega | (simp only [sz_alloc, sz_row, sz_obj]; done) | (simp only [sz_alloc, sz_row, sz_obj]; omega)) _ | refine Ext.alloc ?_ _))
    exact h0.trans (he1.mono (by simp only [sz_alloc]; omega))
  have hn1 : w1.heap[w.heap.size]? = some (.cells #[.int .i64 n] 3) := (he1.heap (by simp only [sz_alloc]; omega)).trans (by simp (disch := first | omega | (simp only [sz_alloc, sz_row, sz_obj]; done) | (simp only [sz_alloc, sz_row, sz_obj]; omega)) only [hp_new, hp_old])
  have hr1 : w1.heap[w.heap.size + 1]? = some (.cells #[.int .i64 0, .int .i64 0] 33) := (he1.heap (by simp only [sz_alloc]; omega)).trans (by simp (disch := first | omega | (simp only [sz_alloc, sz_row, sz_obj]; done) | (simp only [sz_alloc, sz_row, sz_obj]; omega)) only [hp_new])
  have hsz1 := hp_lt hr1
  clear he1
  unfold place
  repeat' (first | (simp (disch := first | omega | (simp only [sz_alloc, sz_row, sz_obj]; done) | (simp only [sz_alloc, sz_row, sz_obj]; omega)) only [hp_new, stH_some, spliced, cells_agg, List.size_toArray, List.length_cons, List.length_nil, Nat.reduceAdd, Nat.le_refl, true_and, List.drop_succ_cons, List.take_zero, List.drop_nil, List.nil_append, List.append_nil, List.all_cons, List.all_nil, Value.oneCell', Bool.and_self, Nat.zero_add]) | with_reducible refine o_store_33 rfl ?_ | refine o_load_3 ?_ | refine o_load_33 ?_)
  refine o_call_21 (steps_ok s _ _ ?_)
  have hE2 : Ext w (((w1.alloc (.cells #[.int .i64 0, .int .i64 0] 33)).setRow w1.heap.size #[.int .i64 1, .int .i64 1]).alloc (.cells #[.string s] 9)) := by
    have := hE1.size
    exact (by repeat' (first | exact Ext.refl _ | assumption | refine Ext.row ?_ (by first | omega | (simp only [sz_alloc, sz_row, sz_obj]; done) | (simp only [sz_alloc, sz_row, sz_obj]; omega)) _ | refine Ext.obj ?_ (by first | omega | (simp only [sz_alloc, sz_row, sz_obj]; done) | (simp only [sz_alloc, sz_row, sz_obj]; omega)) _ | refine Ext.alloc ?_ _))
  have hp2 : (((w1.alloc (.cells #[.int .i64 0, .int .i64 0] 33)).setRow w1.heap.size #[.int .i64 1, .int .i64 1]).alloc (.cells #[.string s] 9)).heap[w1.heap.size]? = some (.cells #[.int .i64 1, .int .i64 1] 33) := by
    simp (disch := first | omega | (simp only [sz_alloc, sz_row, sz_obj]; done) | (simp only [sz_alloc, sz_row, sz_obj]; omega)) only [hp_new, hp_old, hp_row, rowPut_some]
  have hs2 : (((w1.alloc (.cells #[.int .i64 0, .int .i64 0] 33)).setRow w1.heap.size #[.int .i64 1, .int .i64 1]).alloc (.cells #[.string s] 9)).heap[w1.heap.size + 1]? = some (.cells #[.string s] 9) := by
    simp (disch := first | omega | (simp only [sz_alloc, sz_row, sz_obj]; done) | (simp only [sz_alloc, sz_row, sz_obj]; omega)) only [hp_new]
  have hn2 : (((w1.alloc (.cells #[.int .i64 0, .int .i64 0] 33)).setRow w1.heap.size #[.int .i64 1, .int .i64 1]).alloc (.cells #[.string s] 9)).heap[w.heap.size]? = some (.cells #[.int .i64 n] 3) := by
    simp (disch := first | omega | (simp only [sz_alloc, sz_row, sz_obj]; done) | (simp only [sz_alloc, sz_row, sz_obj]; omega)) only [hp_old, hp_far, hn1]
  have hr2 : (((w1.alloc (.cells #[.int .i64 0, .int .i64 0] 33)).setRow w1.heap.size #[.int .i64 1, .int .i64 1]).alloc (.cells #[.string s] 9)).heap[w.heap.size + 1]? = some (.cells #[.int .i64 0, .int .i64 0] 33) := by
    simp (disch := first | omega | (simp only [sz_alloc, sz_row, sz_obj]; done) | (simp only [sz_alloc, sz_row, sz_obj]; omega)) only [hp_old, hp_far, hr1]
  have hz : (((w1.alloc (.cells #[.int .i64 0, .int .i64 0] 33)).setRow w1.heap.size #[.int .i64 1, .int .i64 1])).heap.size = w1.heap.size + 1 := by
    simp only [sz_alloc, sz_row]
  rw [hz]
  generalize (((w1.alloc (.cells #[.int .i64 0, .int .i64 0] 33)).setRow w1.heap.size #[.int .i64 1, .int .i64 1]).alloc (.cells #[.string s] 9)) = w2 at hE2 hp2 hs2 hn2 hr2
  have hg1 : w.heap.size + 1 < w1.heap.size := hsz1
  generalize w1.heap.size = g at hp2 hs2 hg1
  clear hE1 hn1 hr1 hsz1 hz
  have hl2 := hp_lt hs2
  have done : ∀ (W : World) (c : Obj), Ext w W → W.heap[w2.heap.size]? = some (.deferred (some [])) → W.heap[g]? = some (.cells #[.int .i64 (atP s n).1, .int .i64 (atP s n).2] 33) →
      W.heap[w.heap.size + 1]? = some (.cells #[.int .i64 0, .int .i64 0] 33) →
      F13_b1 (.pointer (some ⟨w.heap.size + 1, 0, none⟩)) (.pointer (some ⟨g, 0, none⟩)) (w2.heap.size :: []) (World.setObjAt W (w2.heap.size + 1) c) R := by
    intro W c hx hdm hg hr
    unfold F13_b1
    have l1 := hp_lt hdm
    have l2 := hp_lt hg
    have l3 := hp_lt hr
    refine o_load_33 ?_
    simp (disch := first | omega | (simp only [sz_alloc, sz_row, sz_obj]; done) | (simp only [sz_alloc, sz_row, sz_obj]; omega)) only [hp_objfar, ldH_some, List.size_toArray, List.length_cons, List.length_nil, Nat.reduceAdd, Nat.le_refl, true_and, List.drop_zero, List.take_succ_cons, List.take_nil, Nat.zero_add, hg]
    refine o_store_33 rfl ?_
    simp (disch := first | omega | (simp only [sz_alloc, sz_row, sz_obj]; done) | (simp only [sz_alloc, sz_row, sz_obj]; omega)) only [hp_objfar, stH_some, spliced, cells_agg, List.size_toArray, List.length_cons, List.length_nil, Nat.reduceAdd, Nat.le_refl, true_and, List.drop_succ_cons, List.take_zero, List.drop_nil, List.nil_append, List.append_nil, List.all_cons, List.all_nil, Value.oneCell', Bool.and_self, Nat.zero_add, hr]
    unfold closeM closeM
    refine ⟨by simp (disch := first | omega | (simp only [sz_alloc, sz_row, sz_obj]; done) | (simp only [sz_alloc, sz_row, sz_obj]; omega)) only [hp_far, hp_objfar, hdm], ?_⟩
    refine o_cell_33 ?_
    simp (disch := first | omega | (simp only [sz_alloc, sz_row, sz_obj]; done) | (simp only [sz_alloc, sz_row, sz_obj]; omega)) only [hp_row, hp_objfar, rowPut_some, ldH_some, List.size_toArray, List.length_cons, List.length_nil, Nat.reduceAdd, Nat.le_refl, true_and, List.drop_zero, List.take_succ_cons, List.take_nil, Nat.zero_add, hr]
    exact h _ (by repeat' (first | exact Ext.refl _ | assumption | refine Ext.row ?_ (by first | omega | (simp only [sz_alloc, sz_row, sz_obj]; done) | (simp only [sz_alloc, sz_row, sz_obj]; omega)) _ | refine Ext.obj ?_ (by first | omega | (simp only [sz_alloc, sz_row, sz_obj]; done) | (simp only [sz_alloc, sz_row, sz_obj]; omega)) _ | refine Ext.alloc ?_ _))
  refine xrange_of rfl (fun args w => Tryd.call25 args w) fun rec hround => ?_
  have hb : ((w2.alloc (.deferred (some []))).alloc (.loop (rec .ready none))).heap[g + 1]? = some (.cells #[.string s] 9) := by
    simp (disch := first | omega | (simp only [sz_alloc, sz_row, sz_obj]; done) | (simp only [sz_alloc, sz_row, sz_obj]; omega)) only [hp_old, hs2]
  refine steps_iter s hs (g + 1) _ _ hb
    (fun p q W => Ext w W ∧ W.heap[w2.heap.size]? = some (.deferred (some [])) ∧ W.heap[w2.heap.size + 1]? = some (.loop (rec .ready none)) ∧ W.heap[g]? = some (.cells #[.int .i64 q.1, .int .i64 q.2] 33) ∧
      W.heap[w.heap.size]? = some (.cells #[.int .i64 n] 3) ∧ W.heap[w.heap.size + 1]? = some (.cells #[.int .i64 0, .int .i64 0] 33) ∧ plcAt s n p q = atP s n)
    (fun W => Ext w W ∧ W.heap[w2.heap.size]? = some (.deferred (some [])) ∧ W.heap[w2.heap.size + 1]? = some (.loop (rec .done (some (.exit 0)))) ∧ W.heap[g]? = some (.cells #[.int .i64 (atP s n).1, .int .i64 (atP s n).2] 33) ∧
      W.heap[w.heap.size + 1]? = some (.cells #[.int .i64 0, .int .i64 0] 33)) _ ?_ ?_ ?_ ?_ ?_
  · rintro p q W W' ⟨h1, h2, h3, h4, h5, h6, h7⟩ hb
    have hk : ∀ {k o}, W.heap[k]? = some o → k < w2.heap.size + 2 → W'.heap[k]? = some o := @fun k o ho hlt => (hb.block k (by simp only [sz_alloc]; omega)).trans ho
    exact ⟨Below.trans h1 (Below.mono hb (by have := hE2.size; simp only [sz_alloc]; omega)), hk h2 (by omega), hk h3 (by omega), hk h4 (by omega), hk h5 (by omega), hk h6 (by omega), h7⟩
  · exact ⟨Ext.alloc (Ext.alloc hE2 _) _, by simp (disch := first | omega | (simp only [sz_alloc, sz_row, sz_obj]; done) | (simp only [sz_alloc, sz_row, sz_obj]; omega)) only [hp_new, hp_old], by simp (disch := first | omega | (simp only [sz_alloc, sz_row, sz_obj]; done) | (simp only [sz_alloc, sz_row, sz_obj]; omega)) only [hp_new], by simp (disch := first | omega | (simp only [sz_alloc, sz_row, sz_obj]; done) | (simp only [sz_alloc, sz_row, sz_obj]; omega)) only [hp_old, hp2],
      by simp (disch := first | omega | (simp only [sz_alloc, sz_row, sz_obj]; done) | (simp only [sz_alloc, sz_row, sz_obj]; omega)) only [hp_old, hn2], by simp (disch := first | omega | (simp only [sz_alloc, sz_row, sz_obj]; done) | (simp only [sz_alloc, sz_row, sz_obj]; omega)) only [hp_old, hr2], rfl⟩
  · rintro p q W hlt hsz ⟨h1, h2, h3, h4, h5, h6, h7⟩
    simp only [sz_alloc] at hsz ⊢
    refine hround _ W _ rfl h3 ?_
    unfold placeOf place
    have l2 := hp_lt h2
    have l3 := hp_lt h3
    have l4 := hp_lt h4
    have l5 := hp_lt h5
    have l6 := hp_lt h6
    repeat' (first | (simp (disch := first | omega | (simp only [sz_alloc, sz_row, sz_obj]; done) | (simp only [sz_alloc, sz_row, sz_obj]; omega)) only [nth, hp_new, stH_some, spliced, cells_agg, List.size_toArray, List.length_cons, List.length_nil, Nat.reduceAdd, Nat.le_refl, true_and, List.drop_succ_cons, List.take_zero, List.drop_nil, List.nil_append, List.append_nil, List.all_cons, List.all_nil, Value.oneCell', Bool.and_self, Nat.zero_add]) | with_reducible refine o_store_33 rfl ?_ | refine o_load_3 ?_ | refine o_load_33 ?_)
    refine ⟨by simp (disch := first | omega | (simp only [sz_alloc, sz_row, sz_obj]; done) | (simp only [sz_alloc, sz_row, sz_obj]; omega)) only [hp_old, hp_far, h3], ?_⟩
    have hE3 := h1
    by_cases hge : (n : Int) ≤ p
    · rw [plcAt_end s n p q (by omega)] at h7
      repeat' (first | (simp (disch := first | omega | (simp only [sz_alloc, sz_row, sz_obj]; done) | (simp only [sz_alloc, sz_row, sz_obj]; omega)) only [opK_geq, nth, xcond_1, dec_t, hp_old, hp_far, hp_objfar, ldH_some, List.size_toArray, List.length_cons, List.length_nil, Nat.le_refl, true_and, List.drop_zero, List.take_succ_cons, List.take_nil, Nat.zero_add, h5]) | with_reducible refine o_store_33 rfl ?_ | refine o_load_3 ?_ | refine o_load_33 ?_)
      refine ⟨by simp (disch := first | omega | (simp only [sz_alloc, sz_row, sz_obj]; done) | (simp only [sz_alloc, sz_row, sz_obj]; omega)) only [hp_obj], ⟨by simp only [sz_alloc, sz_row, sz_obj]; omega, fun k hk1 hk2 => by simp (disch := first | omega | (simp only [sz_alloc, sz_row, sz_obj]; done) | (simp only [sz_alloc, sz_row, sz_obj]; omega)) only [hp_old, hp_far, hp_objfar]⟩, .inr ⟨rfl, ?_⟩⟩
      have := h1.size
      exact ⟨(by repeat' (first | exact Ext.refl _ | assumption | refine Ext.row ?_ (by first | omega | (simp only [sz_alloc, sz_row, sz_obj]; done) | (simp only [sz_alloc, sz_row, sz_obj]; omega)) _ | refine Ext.obj ?_ (by first | omega | (simp only [sz_alloc, sz_row, sz_obj]; done) | (simp only [sz_alloc, sz_row, sz_obj]; omega)) _ | refine Ext.alloc ?_ _)), by simp (disch := first | omega | (simp only [sz_alloc, sz_row, sz_obj]; done) | (simp only [sz_alloc, sz_row, sz_obj]; omega)) only [hp_old, hp_far, hp_objfar, h2], by simp (disch := first | omega | (simp only [sz_alloc, sz_row, sz_obj]; done) | (simp only [sz_alloc, sz_row, sz_obj]; omega)) only [hp_obj], by simp (disch := first | omega | (simp only [sz_alloc, sz_row, sz_obj]; done) | (simp only [sz_alloc, sz_row, sz_obj]; omega)) only [hp_old, hp_far, hp_objfar, h4, ← h7], by simp (disch := first | omega | (simp only [sz_alloc, sz_row, sz_obj]; done) | (simp only [sz_alloc, sz_row, sz_obj]; omega)) only [hp_old, hp_far, hp_objfar, h6]⟩
    · rw [plcAt_step s n p q hlt (by omega)] at h7
      repeat' (first | (simp (disch := first | omega | (simp only [sz_alloc, sz_row, sz_obj]; done) | (simp only [sz_alloc, sz_row, sz_obj]; omega)) only [opK_geq, nth, xcond_0, dec_f, hp_new, hp_old, hp_row, hp_far, hp_objfar, rowPut_some, ldH_some, stH_some, spliced, cells_agg, List.size_toArray, List.length_cons, List.length_nil, Nat.reduceAdd, Nat.le_refl, true_and, List.drop_zero, List.drop_succ_cons, List.take_succ_cons, List.take_zero, List.drop_nil, List.take_nil, List.nil_append, List.append_nil, List.all_cons, List.all_nil, Value.oneCell', Bool.and_self, Nat.zero_add, h4, h5]) | with_reducible refine o_store_33 rfl ?_ | refine o_load_3 ?_ | refine o_load_33 ?_)
      refine ⟨by simp (disch := first | omega | (simp only [sz_alloc, sz_row, sz_obj]; done) | (simp only [sz_alloc, sz_row, sz_obj]; omega)) only [hp_far, hp_obj], ⟨by simp only [sz_alloc, sz_row, sz_obj]; omega, fun k hk1 hk2 => by simp (disch := first | omega | (simp only [sz_alloc, sz_row, sz_obj]; done) | (simp only [sz_alloc, sz_row, sz_obj]; omega)) only [hp_old, hp_far, hp_objfar]⟩, .inl ⟨rfl, ?_⟩⟩
      have := h1.size
      exact ⟨(by repeat' (first | exact Ext.refl _ | assumption | refine Ext.row ?_ (by first | omega | (simp only [sz_alloc, sz_row, sz_obj]; done) | (simp only [sz_alloc, sz_row, sz_obj]; omega)) _ | refine Ext.obj ?_ (by first | omega | (simp only [sz_alloc, sz_row, sz_obj]; done) | (simp only [sz_alloc, sz_row, sz_obj]; omega)) _ | refine Ext.alloc ?_ _)), by simp (disch := first | omega | (simp only [sz_alloc, sz_row, sz_obj]; done) | (simp only [sz_alloc, sz_row, sz_obj]; omega)) only [hp_old, hp_far, hp_objfar, h2], by simp (disch := first | omega | (simp only [sz_alloc, sz_row, sz_obj]; done) | (simp only [sz_alloc, sz_row, sz_obj]; omega)) only [hp_obj], by simp (disch := first | omega | (simp only [sz_alloc, sz_row, sz_obj]; done) | (simp only [sz_alloc, sz_row, sz_obj]; omega)) only [hp_old, hp_row, hp_far, hp_objfar, rowPut_some, h4], by simp (disch := first | omega | (simp only [sz_alloc, sz_row, sz_obj]; done) | (simp only [sz_alloc, sz_row, sz_obj]; omega)) only [hp_old, hp_far, hp_objfar, h5], by simp (disch := first | omega | (simp only [sz_alloc, sz_row, sz_obj]; done) | (simp only [sz_alloc, sz_row, sz_obj]; omega)) only [hp_old, hp_far, hp_objfar, h6], h7⟩
  · rintro q W ⟨h1, h2, h3, h4, h5, h6, h7⟩
    rw [plcAt_end s n s.size q (by omega)] at h7
    exact .inl ⟨h3, done W _ h1 h2 (h7 ▸ h4) h6⟩
  · rintro W ⟨h1, h2, h3, h4, h6⟩
    exact .inr (.inr ⟨0, h3, done W _ h1 h2 h4 h6⟩)
end Go.Proofs.YtpdeflgmldomeaaDoor
