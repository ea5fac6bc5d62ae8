/- The law TextPlaces walked. -/
import Derived.Test.YtpdeflgmldomeaaDoorT11
namespace Go.Proofs.YtpdeflgmldomeaaDoor
open Go.RowKit

theorem decode_small (s : ByteArray) (p : Nat) : (Utf8.decode s p).1 ≤ 4194304 := by
  rw [decode_N]
  unfold decN
  have h0 := UInt8.toNat_lt (s.get! p)
  repeat' split
  all_goals (simp only; omega)

/-- what stays as it is while the law ranges -/
structure Base (s : ByteArray) (w W : World) (g m : Nat) : Prop where
  ext : Ext w W
  text : W.heap[w.heap.size]? = some (.cells #[.string s] 9)
  res : W.heap[w.heap.size + 2]? = some (.cells #[.bool false] 4)
  clo : W.heap[g]? = some (.cells #[.string s] 9)
  mark : W.heap[m]? = some (.deferred (some []))
  lo : w.heap.size + 3 ≤ g
  lo2 : w.heap.size + 3 ≤ m
theorem Base.below {s : ByteArray} {w W W' : World} {g m B : Nat} (h : Base s w W g m) (hb : Below B W W') (hB : w.heap.size + 3 ≤ B) (hg : g < B) (hm : m < B) : Base s w W' g m :=
  ⟨Below.trans h.ext (hb.mono (by omega)), (hb.block _ (by omega)).trans h.text, (hb.block _ (by omega)).trans h.res, (hb.block _ hg).trans h.clo, (hb.block _ hm).trans h.mark, h.lo, h.lo2⟩

set_option maxHeartbeats 4000000 in
theorem rest2 (s : ByteArray) (hs : s.size ≤ 3000) (w W : World) (g m : Nat) (R : Value → World → Prop) (hb : Base s w W g m) (h : ∀ w', Ext w w' → R (.bool true) w') :
    F7_b1 (.pointer (some ⟨w.heap.size, 0, none⟩)) (.pointer (some ⟨w.heap.size + 2, 0, none⟩)) (.func (.func 22) #[] #[.pointer (some ⟨g, 0, none⟩)]) (m :: []) W R := by
  unfold F7_b1
  have lg := hp_lt hb.clo
  have lm := hp_lt hb.mark
  have lr := hp_lt hb.res
  have l0 := hb.lo
  have l1 := hb.lo2
  repeat' (first | (simp (disch := first | omega | (simp only [sz_alloc, sz_row, sz_obj]; done) | (simp only [sz_alloc, sz_row, sz_obj]; omega)) only [hp_new, sz_alloc, sz_row, stH_some, spliced, cells_int, List.size_toArray, List.length_cons, List.length_nil, Nat.le_refl, true_and, List.drop_succ_cons, List.take_zero, List.drop_nil, List.nil_append, List.append_nil, List.all_cons, List.all_nil, Value.oneCell', Bool.and_self, Nat.zero_add, o_alloc_3, o_alloc_33]) | with_reducible refine o_store_4 rfl ?_ | refine o_load_9 ?_ | refine o_store_3 rfl ?_ | refine o_load_3 ?_ | refine o_store_33 rfl ?_ | refine o_load_33 ?_)
  have hb2 : Base s w ((W.alloc (.cells #[.int .i64 0] 3)).setRow W.heap.size #[.int .i64 0]) g m :=
    hb.below (B := W.heap.size) (below_setRow (Below.alloc (Below.refl _ _) (Nat.le_refl _) _) (Nat.le_refl _) _) (by omega) lg lm
  have ha2 : ((W.alloc (.cells #[.int .i64 0] 3)).setRow W.heap.size #[.int .i64 0]).heap[W.heap.size]? = some (.cells #[.int .i64 0] 3) := by
    simp (disch := first | omega | (simp only [sz_alloc, sz_row, sz_obj]; done) | (simp only [sz_alloc, sz_row, sz_obj]; omega)) only [hp_new, hp_row, rowPut_some]
  have hz2 : ((W.alloc (.cells #[.int .i64 0] 3)).setRow W.heap.size #[.int .i64 0]).heap.size = W.heap.size + 1 := by simp only [sz_alloc, sz_row]
  generalize ((W.alloc (.cells #[.int .i64 0] 3)).setRow W.heap.size #[.int .i64 0]) = w2 at hb2 ha2 hz2
  generalize W.heap.size = a at *
  clear hb
  refine xrange_of rfl (fun args w => Tryd.call22 args w) fun rec hround => ?_
  simp only [hz2] at hround ⊢
  have hB : ((w2.alloc (.deferred (some []))).alloc (.loop (rec .ready none))).heap.size = a + 3 := by simp only [sz_alloc]; omega
  have hclo : ((w2.alloc (.deferred (some []))).alloc (.loop (rec .ready none))).heap[g]? = some (.cells #[.string s] 9) := by
    have := hb2.clo
    simp (disch := first | omega | (simp only [sz_alloc, sz_row, sz_obj]; done) | (simp only [sz_alloc, sz_row, sz_obj]; omega)) only [hp_old, this]
  refine places_iter s (by omega) g _ _ hclo
    (fun p q V => Base s w V g m ∧ V.heap[a + 1]? = some (.deferred (some [])) ∧ V.heap[a + 1 + 1]? = some (.loop (rec .ready none)) ∧ V.heap[a]? = some (.cells #[.int .i64 p] 3) ∧ (∀ N : Int, p ≤ N → atP s N = plcAt s N p q))
    (fun _ => False) _ ?_ ?_ ?_ ?_ ?_
  · rintro p q V V' ⟨h1, h2, h3, h4, h5⟩ hbl
    rw [hB] at hbl
    exact ⟨h1.below hbl (by omega) (by omega) (by omega), (hbl.block _ (by omega)).trans h2, (hbl.block _ (by omega)).trans h3, (hbl.block _ (by omega)).trans h4, h5⟩
  · refine ⟨hb2.below (B := a + 1) (Below.alloc (Below.alloc (Below.refl _ _) (by omega) _) (by simp only [sz_alloc]; omega) _) (by omega) (by omega) (by omega), ?_, ?_, ?_, fun N _ => rfl⟩
    · simp (disch := first | omega | (simp only [sz_alloc, sz_row, sz_obj]; done) | (simp only [sz_alloc, sz_row, sz_obj]; omega)) only [hp_new, hp_old]
    · simp (disch := first | omega | (simp only [sz_alloc, sz_row, sz_obj]; done) | (simp only [sz_alloc, sz_row, sz_obj]; omega)) only [hp_new]
    · simp (disch := first | omega | (simp only [sz_alloc, sz_row, sz_obj]; done) | (simp only [sz_alloc, sz_row, sz_obj]; omega)) only [hp_old, ha2]; rfl
  · rintro p q V hlt hsz ⟨h1, h2, h3, h4, h5⟩
    rw [hB] at hsz ⊢
    refine hround _ V _ rfl h3 ?_
    have hq : q = atP s p := ((h5 p (Int.le_refl _)).trans (plcAt_end s p p q (by omega))).symm
    have hd1 := decode_pos s p
    have hdd := decode_in s p hlt
    obtain ⟨hx, ht, hre, hcl, hmk, _, _⟩ := h1
    have hE := hx.size
    obtain ⟨q1, q2⟩ := q
    unfold placeOf place
    repeat' (first | (simp (disch := first | omega | (simp only [sz_alloc, sz_row, sz_obj]; done) | (simp only [sz_alloc, sz_row, sz_obj]; omega)) only [nth, hp_new, stH_some, spliced, cells_agg, List.size_toArray, List.length_cons, List.length_nil, Nat.reduceAdd, Nat.le_refl, true_and, List.drop_succ_cons, List.take_zero, List.drop_nil, List.nil_append, List.append_nil, List.all_cons, List.all_nil, Value.oneCell', Bool.and_self, Nat.zero_add]) | with_reducible refine o_store_4 rfl ?_ | refine o_load_9 ?_ | refine o_store_3 rfl ?_ | refine o_load_3 ?_ | refine o_store_33 rfl ?_ | refine o_load_33 ?_)
    refine ⟨by simp (disch := first | omega | (simp only [sz_alloc, sz_row, sz_obj]; done) | (simp only [sz_alloc, sz_row, sz_obj]; omega)) only [hp_old, hp_far, h3], ?_⟩
    have kx : Ext w (World.setObjAt ((V.alloc (.cells #[.int .i64 0, .int .i64 0] 33)).setRow V.heap.size #[.int .i64 q1, .int .i64 q2]) (a + 1 + 1) (.loop (rec .busy none))) := (by repeat' (first | exact Ext.refl _ | assumption | refine Ext.row ?_ (by first | omega | (simp only [sz_alloc, sz_row, sz_obj]; done) | (simp only [sz_alloc, sz_row, sz_obj]; omega)) _ | refine Ext.obj ?_ (by first | omega | (simp only [sz_alloc, sz_row, sz_obj]; done) | (simp only [sz_alloc, sz_row, sz_obj]; omega)) _ | refine Ext.alloc ?_ _))
    have kt : (World.setObjAt ((V.alloc (.cells #[.int .i64 0, .int .i64 0] 33)).setRow V.heap.size #[.int .i64 q1, .int .i64 q2]) (a + 1 + 1) (.loop (rec .busy none))).heap[w.heap.size]? = some (.cells #[.string s] 9) := by simp (disch := first | omega | (simp only [sz_alloc, sz_row, sz_obj]; done) | (simp only [sz_alloc, sz_row, sz_obj]; omega)) only [hp_old, hp_far, hp_objfar, ht]
    have kr : (World.setObjAt ((V.alloc (.cells #[.int .i64 0, .int .i64 0] 33)).setRow V.heap.size #[.int .i64 q1, .int .i64 q2]) (a + 1 + 1) (.loop (rec .busy none))).heap[w.heap.size + 2]? = some (.cells #[.bool false] 4) := by simp (disch := first | omega | (simp only [sz_alloc, sz_row, sz_obj]; done) | (simp only [sz_alloc, sz_row, sz_obj]; omega)) only [hp_old, hp_far, hp_objfar, hre]
    have kc : (World.setObjAt ((V.alloc (.cells #[.int .i64 0, .int .i64 0] 33)).setRow V.heap.size #[.int .i64 q1, .int .i64 q2]) (a + 1 + 1) (.loop (rec .busy none))).heap[g]? = some (.cells #[.string s] 9) := by simp (disch := first | omega | (simp only [sz_alloc, sz_row, sz_obj]; done) | (simp only [sz_alloc, sz_row, sz_obj]; omega)) only [hp_old, hp_far, hp_objfar, hcl]
    have km : (World.setObjAt ((V.alloc (.cells #[.int .i64 0, .int .i64 0] 33)).setRow V.heap.size #[.int .i64 q1, .int .i64 q2]) (a + 1 + 1) (.loop (rec .busy none))).heap[m]? = some (.deferred (some [])) := by simp (disch := first | omega | (simp only [sz_alloc, sz_row, sz_obj]; done) | (simp only [sz_alloc, sz_row, sz_obj]; omega)) only [hp_old, hp_far, hp_objfar, hmk]
    have k2 : (World.setObjAt ((V.alloc (.cells #[.int .i64 0, .int .i64 0] 33)).setRow V.heap.size #[.int .i64 q1, .int .i64 q2]) (a + 1 + 1) (.loop (rec .busy none))).heap[a + 1]? = some (.deferred (some [])) := by simp (disch := first | omega | (simp only [sz_alloc, sz_row, sz_obj]; done) | (simp only [sz_alloc, sz_row, sz_obj]; omega)) only [hp_old, hp_far, hp_objfar, h2]
    have k3 : (World.setObjAt ((V.alloc (.cells #[.int .i64 0, .int .i64 0] 33)).setRow V.heap.size #[.int .i64 q1, .int .i64 q2]) (a + 1 + 1) (.loop (rec .busy none))).heap[a + 1 + 1]? = some (.loop (rec .busy none)) := by simp (disch := first | omega | (simp only [sz_alloc, sz_row, sz_obj]; done) | (simp only [sz_alloc, sz_row, sz_obj]; omega)) only [hp_obj]
    have k4 : (World.setObjAt ((V.alloc (.cells #[.int .i64 0, .int .i64 0] 33)).setRow V.heap.size #[.int .i64 q1, .int .i64 q2]) (a + 1 + 1) (.loop (rec .busy none))).heap[a]? = some (.cells #[.int .i64 p] 3) := by simp (disch := first | omega | (simp only [sz_alloc, sz_row, sz_obj]; done) | (simp only [sz_alloc, sz_row, sz_obj]; omega)) only [hp_old, hp_far, hp_objfar, h4]
    have k5 : (World.setObjAt ((V.alloc (.cells #[.int .i64 0, .int .i64 0] 33)).setRow V.heap.size #[.int .i64 q1, .int .i64 q2]) (a + 1 + 1) (.loop (rec .busy none))).heap[V.heap.size]? = some (.cells #[.int .i64 q1, .int .i64 q2] 33) := by simp (disch := first | omega | (simp only [sz_alloc, sz_row, sz_obj]; done) | (simp only [sz_alloc, sz_row, sz_obj]; omega)) only [hp_new, hp_row, hp_objfar, rowPut_some]
    have ko : Own (a + 3) V (World.setObjAt ((V.alloc (.cells #[.int .i64 0, .int .i64 0] 33)).setRow V.heap.size #[.int .i64 q1, .int .i64 q2]) (a + 1 + 1) (.loop (rec .busy none))) :=
      ⟨by simp only [sz_alloc, sz_row, sz_obj]; omega, fun k hk1 hk2 => by simp (disch := first | omega | (simp only [sz_alloc, sz_row, sz_obj]; done) | (simp only [sz_alloc, sz_row, sz_obj]; omega)) only [hp_old, hp_far, hp_objfar]⟩
    have kz : V.heap.size < (World.setObjAt ((V.alloc (.cells #[.int .i64 0, .int .i64 0] 33)).setRow V.heap.size #[.int .i64 q1, .int .i64 q2]) (a + 1 + 1) (.loop (rec .busy none))).heap.size := by simp only [sz_alloc, sz_row, sz_obj]; omega
    generalize (World.setObjAt ((V.alloc (.cells #[.int .i64 0, .int .i64 0] 33)).setRow V.heap.size #[.int .i64 q1, .int .i64 q2]) (a + 1 + 1) (.loop (rec .busy none))) = V1 at kx kt kr kc km k2 k3 k4 k5 ko kz
    generalize V.heap.size = b at k5 kz hsz
    refine o_load_3 ?_
    simp (disch := first | omega | (simp only [sz_alloc, sz_row, sz_obj]; done) | (simp only [sz_alloc, sz_row, sz_obj]; omega)) only [ldH_some, List.size_toArray, List.length_cons, List.length_nil, Nat.le_refl, true_and, List.drop_zero, List.take_succ_cons, List.take_nil, Nat.zero_add, k4]
    refine o_load_9 ?_
    simp (disch := first | omega | (simp only [sz_alloc, sz_row, sz_obj]; done) | (simp only [sz_alloc, sz_row, sz_obj]; omega)) only [opK_geq, nth, xcond_0, dec_f, ldH_some, List.size_toArray, List.length_cons, List.length_nil, Nat.le_refl, true_and, List.drop_zero, List.take_succ_cons, List.take_nil, Nat.zero_add, o_len_9, o_len_9, kt]
    refine o_load_9 ?_
    simp (disch := first | omega | (simp only [sz_alloc, sz_row, sz_obj]; done) | (simp only [sz_alloc, sz_row, sz_obj]; omega)) only [ldH_some, List.size_toArray, List.length_cons, List.length_nil, Nat.le_refl, true_and, List.drop_zero, List.take_succ_cons, List.take_nil, Nat.zero_add, kt]
    refine o_load_3 ?_
    simp (disch := first | omega | (simp only [sz_alloc, sz_row, sz_obj]; done) | (simp only [sz_alloc, sz_row, sz_obj]; omega)) only [ldH_some, List.size_toArray, List.length_cons, List.length_nil, Nat.le_refl, true_and, List.drop_zero, List.take_succ_cons, List.take_nil, Nat.zero_add, k4]
    refine o_call_16 (rune_ok s p _ _ hlt (by omega) ?_)
    rw [refRune_decode]
    unfold RuneR
    simp only [ext3_0, ext3_1, ext3_2]
    refine qK_val (.int .i64 ((Utf8.decode s p).1 : Int)) (noCall_xV _) (fun V2 _ => by rw [o_conv_21_3 _ _ (by omega) (by have := decode_small s p; omega)]; exact ⟨rfl, rfl⟩) ?_
    refine qK_val (.bool false) (noCall_xBin _ _ _ _ _ _) (fun V2 _ => by rw [opK_neq, dec_f (by omega)]; exact ⟨rfl, rfl⟩) ?_
    simp only [asB_bool, gsem_00]
    have c4 : ∀ V2, Ext V1 V2 → V2.heap[a]? = some (.cells #[.int .i64 p] 3) := fun V2 hv => (hv.heap (by omega)).trans k4
    have c5 : ∀ V2, Ext V1 V2 → V2.heap[b]? = some (.cells #[.int .i64 q1, .int .i64 q2] 33) := fun V2 hv => (hv.heap (by omega)).trans k5
    have ct : ∀ V2, Ext V1 V2 → V2.heap[w.heap.size]? = some (.cells #[.string s] 9) := fun V2 hv => (hv.heap (by omega)).trans kt
    refine qK_val (.agg #[.int .i64 q1, .int .i64 q2]) (noCall_xV _) (fun V2 hv => by refine o_load_33 ?_; simp only [ldH_some, List.size_toArray, List.length_cons, List.length_nil, Nat.reduceAdd, Nat.le_refl, and_true, and_self, List.drop_zero, List.take_succ_cons, List.take_nil, Nat.zero_add, c5 V2 hv]) ?_
    refine qK_val (.string s) (noCall_xV _) (fun V2 hv => by refine o_load_9 ?_; simp only [ldH_some, List.size_toArray, List.length_cons, List.length_nil, Nat.le_refl, and_true, and_self, List.drop_zero, List.take_succ_cons, List.take_nil, Nat.zero_add, ct V2 hv, nth]) ?_
    refine qK_val (.int .i64 p) (noCall_xV _) (fun V2 hv => by refine o_load_3 ?_; simp only [ldH_some, List.size_toArray, List.length_cons, List.length_nil, Nat.le_refl, and_true, and_self, List.drop_zero, List.take_succ_cons, List.take_nil, Nat.zero_add, c4 V2 hv, nth]) ?_
    refine qK_call (.agg #[.int .i64 q1, .int .i64 q2]) (fun args w => Tryd.call14 args w) (fun V2 hv => refAt_ok s p V2 _ (by omega) fun V3 hv3 => ⟨by rw [← hq]; rfl, hv.trans hv3⟩) ?_
    refine qK_val (.bool false) (noCall_xBin _ _ _ _ _ _) (fun V2 _ => by rw [o_neqPlace]; exact ⟨by simp, rfl⟩) ?_
    refine qK_val (.bool false) (noCall_xPick _ _ _) (fun V2 _ => by simp only [opK_pick, cond_false, and_self]) ?_
    intro V2 hv
    simp only [xcond_0]
    have l5 : a < V2.heap.size := hp_lt (c4 V2 hv)
    refine o_load_3 ?_
    simp (disch := first | omega | (simp only [sz_alloc, sz_row, sz_obj]; done) | (simp only [sz_alloc, sz_row, sz_obj]; omega)) only [opK_add, nth, ldH_some, List.size_toArray, List.length_cons, List.length_nil, Nat.le_refl, true_and, List.drop_zero, List.take_succ_cons, List.take_nil, Nat.zero_add, c4 V2 hv]
    refine o_store_3 rfl ?_
    simp (disch := first | omega | (simp only [sz_alloc, sz_row, sz_obj]; done) | (simp only [sz_alloc, sz_row, sz_obj]; omega)) only [stH_some, spliced, cells_int, List.size_toArray, List.length_cons, List.length_nil, Nat.le_refl, true_and, List.drop_succ_cons, List.take_zero, List.drop_nil, List.nil_append, List.append_nil, List.all_cons, List.all_nil, Value.oneCell', Bool.and_self, Nat.zero_add, c4 V2 hv]
    have j3 : V2.heap[a + 1 + 1]? = some (.loop (rec .busy none)) := (hv.heap (hp_lt k3)).trans k3
    have j2 : V2.heap[a + 1]? = some (.deferred (some [])) := (hv.heap (hp_lt k2)).trans k2
    have jt := ct V2 hv
    have jr : V2.heap[w.heap.size + 2]? = some (.cells #[.bool false] 4) := (hv.heap (hp_lt kr)).trans kr
    have jc : V2.heap[g]? = some (.cells #[.string s] 9) := (hv.heap (hp_lt kc)).trans kc
    have jm : V2.heap[m]? = some (.deferred (some [])) := (hv.heap (hp_lt km)).trans km
    have l6 := hp_lt j3
    have hvz := hv.size
    refine ⟨by simp (disch := first | omega | (simp only [sz_alloc, sz_row, sz_obj]; done) | (simp only [sz_alloc, sz_row, sz_obj]; omega)) only [hp_far, j3], ⟨by have := ko.1; simp only [sz_row, sz_obj]; omega, fun k hk1 hk2 => ?_⟩, .inl ⟨rfl, ⟨?_, ?_, ?_, ?_, ?_, ‹_›, ‹_›⟩, ?_, ?_, ?_, fun N hN => ?_⟩⟩
    · have e1 := ko.2 k hk1 hk2
      have hk3 : k < V1.heap.size := by have := ko.1; omega
      have e2 := hv.heap hk3
      simp (disch := first | omega | (simp only [sz_alloc, sz_row, sz_obj]; done) | (simp only [sz_alloc, sz_row, sz_obj]; omega)) only [hp_far, hp_objfar]
      exact e2.trans e1
    · have := kx.trans (hv.mono (Nat.le_refl _))
      have hsz0 := kx.size
      exact (by repeat' (first | exact Ext.refl _ | assumption | refine Ext.row ?_ (by first | omega | (simp only [sz_alloc, sz_row, sz_obj]; done) | (simp only [sz_alloc, sz_row, sz_obj]; omega)) _ | refine Ext.obj ?_ (by first | omega | (simp only [sz_alloc, sz_row, sz_obj]; done) | (simp only [sz_alloc, sz_row, sz_obj]; omega)) _ | refine Ext.alloc ?_ _))
    · simp (disch := first | omega | (simp only [sz_alloc, sz_row, sz_obj]; done) | (simp only [sz_alloc, sz_row, sz_obj]; omega)) only [hp_far, hp_objfar, jt]
    · simp (disch := first | omega | (simp only [sz_alloc, sz_row, sz_obj]; done) | (simp only [sz_alloc, sz_row, sz_obj]; omega)) only [hp_far, hp_objfar, jr]
    · simp (disch := first | omega | (simp only [sz_alloc, sz_row, sz_obj]; done) | (simp only [sz_alloc, sz_row, sz_obj]; omega)) only [hp_far, hp_objfar, jc]
    · simp (disch := first | omega | (simp only [sz_alloc, sz_row, sz_obj]; done) | (simp only [sz_alloc, sz_row, sz_obj]; omega)) only [hp_far, hp_objfar, jm]
    · simp (disch := first | omega | (simp only [sz_alloc, sz_row, sz_obj]; done) | (simp only [sz_alloc, sz_row, sz_obj]; omega)) only [hp_far, hp_objfar, j2]
    · simp (disch := first | omega | (simp only [sz_alloc, sz_row, sz_obj]; done) | (simp only [sz_alloc, sz_row, sz_obj]; omega)) only [hp_obj]
    · simp (disch := first | omega | (simp only [sz_alloc, sz_row, sz_obj]; done) | (simp only [sz_alloc, sz_row, sz_obj]; omega)) only [hp_row, hp_objfar, rowPut_some, c4 V2 hv]
      rw [show ((p + (Utf8.decode s p).2 : Nat) : Int) = (p : Int) + ((Utf8.decode s p).2 : Int) by omega]
    · rw [h5 N (by omega), plcAt_step s N p _ hlt (by omega)]
  · rintro q V ⟨h1, h2, h3, h4, h5⟩
    refine .inl ⟨h3, ?_⟩
    unfold F7_b2
    obtain ⟨hx, ht, hre, hcl, hmk, _, _⟩ := h1
    have hE := hx.size
    have l2 := hp_lt h2
    have l3 := hp_lt h3
    repeat' (first | (simp (disch := first | omega | (simp only [sz_alloc, sz_row, sz_obj]; done) | (simp only [sz_alloc, sz_row, sz_obj]; omega)) only [opK_eql, nth, dec_t, hp_objfar, ldH_some, stH_some, spliced, cells_bool, List.size_toArray, List.length_cons, List.length_nil, Nat.le_refl, true_and, List.drop_zero, List.drop_succ_cons, List.take_succ_cons, List.take_zero, List.drop_nil, List.take_nil, List.nil_append, List.append_nil, List.all_cons, List.all_nil, Value.oneCell', Bool.and_self, Nat.zero_add, o_len_9, o_len_9, ht, hre, h4]) | with_reducible refine o_store_4 rfl ?_ | refine o_load_9 ?_ | refine o_store_3 rfl ?_ | refine o_load_3 ?_ | refine o_store_33 rfl ?_ | refine o_load_33 ?_)
    unfold closeM closeM closeM
    refine ⟨by simp (disch := first | omega | (simp only [sz_alloc, sz_row, sz_obj]; done) | (simp only [sz_alloc, sz_row, sz_obj]; omega)) only [hp_far, hp_objfar, h2], by simp (disch := first | omega | (simp only [sz_alloc, sz_row, sz_obj]; done) | (simp only [sz_alloc, sz_row, sz_obj]; omega)) only [hp_far, hp_objfar, hmk], ?_⟩
    refine o_cell_4 ?_
    simp (disch := first | omega | (simp only [sz_alloc, sz_row, sz_obj]; done) | (simp only [sz_alloc, sz_row, sz_obj]; omega)) only [hp_row, hp_objfar, rowPut_some, ldH_some, List.size_toArray, List.length_cons, List.length_nil, Nat.le_refl, true_and, List.drop_zero, List.take_succ_cons, List.take_nil, Nat.zero_add, hre]
    exact h _ (by repeat' (first | exact Ext.refl _ | assumption | refine Ext.row ?_ (by first | omega | (simp only [sz_alloc, sz_row, sz_obj]; done) | (simp only [sz_alloc, sz_row, sz_obj]; omega)) _ | refine Ext.obj ?_ (by first | omega | (simp only [sz_alloc, sz_row, sz_obj]; done) | (simp only [sz_alloc, sz_row, sz_obj]; omega)) _ | refine Ext.alloc ?_ _))
  · exact fun _ h => h.elim

set_option maxHeartbeats 4000000 in
theorem places_law (s : ByteArray) (n stop : Int) (w : World) (hT : Tabs w) (R : Value → World → Prop) (h : ∀ w', Ext w w' → R (.bool true) w') :
    Cv Tryd.prog 7 #[.string s, .int .i64 n, .int .i64 stop] w R := by
  apply F7_ok
  unfold F7
  simp (disch := first | omega | (simp only [sz_alloc, sz_row, sz_obj]; done) | (simp only [sz_alloc, sz_row, sz_obj]; omega)) only [opK_box, sz_alloc, cells_int, cells_string, o_alloc_4, o_alloc_3]
  have h0 : Ext w (((w.alloc (.cells #[.string s] 9)).alloc (.cells #[.int .i64 stop] 3)).alloc (.cells #[.bool false] 4)) := (by repeat' (first | exact Ext.refl _ | assumption | refine Ext.row ?_ (by first | omega | (simp only [sz_alloc, sz_row, sz_obj]; done) | (simp only [sz_alloc, sz_row, sz_obj]; omega)) _ | refine Ext.obj ?_ (by first | omega | (simp only [sz_alloc, sz_row, sz_obj]; done) | (simp only [sz_alloc, sz_row, sz_obj]; omega)) _ | refine Ext.alloc ?_ _))
  refine o_call_8 (known_ok _ (hT.ext h0) _ fun w1 h1 => ?_)
  have hE1 : Ext w w1 := h0.trans h1
  have t1 : w1.heap[w.heap.size]? = some (.cells #[.string s] 9) := (h1.heap (by simp only [sz_alloc]; omega)).trans (by simp (disch := first | omega | (simp only [sz_alloc, sz_row, sz_obj]; done) | (simp only [sz_alloc, sz_row, sz_obj]; omega)) only [hp_new, hp_old])
  have p1 : w1.heap[w.heap.size + 1]? = some (.cells #[.int .i64 stop] 3) := (h1.heap (by simp only [sz_alloc]; omega)).trans (by simp (disch := first | omega | (simp only [sz_alloc, sz_row, sz_obj]; done) | (simp only [sz_alloc, sz_row, sz_obj]; omega)) only [hp_new, hp_old])
  have r1 : w1.heap[w.heap.size + 2]? = some (.cells #[.bool false] 4) := (h1.heap (by simp only [sz_alloc]; omega)).trans (by simp (disch := first | omega | (simp only [sz_alloc, sz_row, sz_obj]; done) | (simp only [sz_alloc, sz_row, sz_obj]; omega)) only [hp_new])
  have lr1 := hp_lt r1
  clear h0 h1
  simp only [opK_not, xcond_0, Bool.not_true]
  refine o_load_9 ?_
  by_cases hs : s.size ≤ 3000
  · simp (disch := first | omega | (simp only [sz_alloc, sz_row, sz_obj]; done) | (simp only [sz_alloc, sz_row, sz_obj]; omega)) only [opK_gtr, nth, xcond_0, dec_f, ldH_some, List.size_toArray, List.length_cons, List.length_nil, Nat.le_refl, true_and, List.drop_zero, List.take_succ_cons, List.take_nil, Nat.zero_add, o_len_9, t1]
    refine qK_val (.string s) (noCall_xV _) (fun V2 hv => by refine o_load_9 ?_; simp only [ldH_some, List.size_toArray, List.length_cons, List.length_nil, Nat.le_refl, and_true, and_self, List.drop_zero, List.take_succ_cons, List.take_nil, Nat.zero_add, (hv.heap (show w.heap.size < w1.heap.size by omega)).trans t1, nth]) ?_
    refine qK_call (placeOf (atP s n)) (fun args w => Tryd.call13 args w) (fun V2 hv => at_ok s n V2 _ (by omega) fun V3 hv3 => ⟨rfl, hv.trans hv3⟩) ?_
    refine qK_val (.string s) (noCall_xV _) (fun V2 hv => by refine o_load_9 ?_; simp only [ldH_some, List.size_toArray, List.length_cons, List.length_nil, Nat.le_refl, and_true, and_self, List.drop_zero, List.take_succ_cons, List.take_nil, Nat.zero_add, (hv.heap (show w.heap.size < w1.heap.size by omega)).trans t1, nth]) ?_
    refine qK_call (placeOf (atP s n)) (fun args w => Tryd.call14 args w) (fun V2 hv => refAt_ok s n V2 _ (by omega) fun V3 hv3 => ⟨rfl, hv.trans hv3⟩) ?_
    unfold placeOf place
    refine qK_val (.bool false) (noCall_xBin _ _ _ _ _ _) (fun V2 _ => by rw [o_neqPlace]; exact ⟨by simp, rfl⟩) ?_
    intro w2 h2
    simp only [xcond_0]
    have hE2 := hE1.trans h2
    have t2 := (h2.heap (show w.heap.size < w1.heap.size by omega)).trans t1
    have p2 := (h2.heap (show w.heap.size + 1 < w1.heap.size by omega)).trans p1
    have r2 := (h2.heap (show w.heap.size + 2 < w1.heap.size by omega)).trans r1
    have lr2 := hp_lt r2
    clear t1 p1 r1 lr1 hE1 h2
    refine o_load_9 ?_
    simp (disch := first | omega | (simp only [sz_alloc, sz_row, sz_obj]; done) | (simp only [sz_alloc, sz_row, sz_obj]; omega)) only [ldH_some, List.size_toArray, List.length_cons, List.length_nil, Nat.le_refl, true_and, List.drop_zero, List.take_succ_cons, List.take_nil, Nat.zero_add, t2]
    refine o_call_15 (places_ok s _ _ ?_)
    repeat' (first | (simp (disch := first | omega | (simp only [sz_alloc, sz_row, sz_obj]; done) | (simp only [sz_alloc, sz_row, sz_obj]; omega)) only [hp_new, sz_alloc, sz_row, stH_some, spliced, cells_int, List.size_toArray, List.length_cons, List.length_nil, Nat.le_refl, true_and, List.drop_succ_cons, List.take_zero, List.drop_nil, List.nil_append, List.append_nil, List.all_cons, List.all_nil, Value.oneCell', Bool.and_self, Nat.zero_add]) | with_reducible refine o_store_4 rfl ?_ | refine o_load_9 ?_ | refine o_store_3 rfl ?_ | refine o_load_3 ?_ | refine o_store_33 rfl ?_ | refine o_load_33 ?_)
    have hE3 : Ext w (((w2.alloc (.cells #[.string s] 9)).alloc (.cells #[.int .i64 0] 3)).setRow (w2.heap.size + 1) #[.int .i64 0]) := by
      have := hE2.size
      exact (by repeat' (first | exact Ext.refl _ | assumption | refine Ext.row ?_ (by first | omega | (simp only [sz_alloc, sz_row, sz_obj]; done) | (simp only [sz_alloc, sz_row, sz_obj]; omega)) _ | refine Ext.obj ?_ (by first | omega | (simp only [sz_alloc, sz_row, sz_obj]; done) | (simp only [sz_alloc, sz_row, sz_obj]; omega)) _ | refine Ext.alloc ?_ _))
    have t3 : (((w2.alloc (.cells #[.string s] 9)).alloc (.cells #[.int .i64 0] 3)).setRow (w2.heap.size + 1) #[.int .i64 0]).heap[w.heap.size]? = some (.cells #[.string s] 9) := by simp (disch := first | omega | (simp only [sz_alloc, sz_row, sz_obj]; done) | (simp only [sz_alloc, sz_row, sz_obj]; omega)) only [hp_old, hp_far, t2]
    have p3 : (((w2.alloc (.cells #[.string s] 9)).alloc (.cells #[.int .i64 0] 3)).setRow (w2.heap.size + 1) #[.int .i64 0]).heap[w.heap.size + 1]? = some (.cells #[.int .i64 stop] 3) := by simp (disch := first | omega | (simp only [sz_alloc, sz_row, sz_obj]; done) | (simp only [sz_alloc, sz_row, sz_obj]; omega)) only [hp_old, hp_far, p2]
    have r3 : (((w2.alloc (.cells #[.string s] 9)).alloc (.cells #[.int .i64 0] 3)).setRow (w2.heap.size + 1) #[.int .i64 0]).heap[w.heap.size + 2]? = some (.cells #[.bool false] 4) := by simp (disch := first | omega | (simp only [sz_alloc, sz_row, sz_obj]; done) | (simp only [sz_alloc, sz_row, sz_obj]; omega)) only [hp_old, hp_far, r2]
    have c3 : (((w2.alloc (.cells #[.string s] 9)).alloc (.cells #[.int .i64 0] 3)).setRow (w2.heap.size + 1) #[.int .i64 0]).heap[w2.heap.size]? = some (.cells #[.string s] 9) := by simp (disch := first | omega | (simp only [sz_alloc, sz_row, sz_obj]; done) | (simp only [sz_alloc, sz_row, sz_obj]; omega)) only [hp_new, hp_old, hp_far]
    have k3 : (((w2.alloc (.cells #[.string s] 9)).alloc (.cells #[.int .i64 0] 3)).setRow (w2.heap.size + 1) #[.int .i64 0]).heap[w2.heap.size + 1]? = some (.cells #[.int .i64 0] 3) := by simp (disch := first | omega | (simp only [sz_alloc, sz_row, sz_obj]; done) | (simp only [sz_alloc, sz_row, sz_obj]; omega)) only [hp_new, hp_row, rowPut_some]
    have hz3 : (((w2.alloc (.cells #[.string s] 9)).alloc (.cells #[.int .i64 0] 3)).setRow (w2.heap.size + 1) #[.int .i64 0]).heap.size = w2.heap.size + 1 + 1 := by simp only [sz_alloc, sz_row]
    generalize (((w2.alloc (.cells #[.string s] 9)).alloc (.cells #[.int .i64 0] 3)).setRow (w2.heap.size + 1) #[.int .i64 0]) = w3 at hE3 t3 p3 r3 c3 k3 hz3
    clear t2 p2 r2 hE2
    generalize w2.heap.size = g at *
    refine xrange_of rfl (fun args w => Tryd.call22 args w) fun rec hround => ?_
    simp only [hz3] at hround ⊢
    have hB : ((w3.alloc (.deferred (some []))).alloc (.loop (rec .ready none))).heap.size = g + 1 + 1 + 2 := by simp only [sz_alloc]; omega
    have hclo : ((w3.alloc (.deferred (some []))).alloc (.loop (rec .ready none))).heap[g]? = some (.cells #[.string s] 9) := by
      simp (disch := first | omega | (simp only [sz_alloc, sz_row, sz_obj]; done) | (simp only [sz_alloc, sz_row, sz_obj]; omega)) only [hp_old, c3]
    have fin : ∀ (V : World) (o : Obj), Base s w V g (g + 1 + 1) → F7_b1 (.pointer (some ⟨w.heap.size, 0, none⟩)) (.pointer (some ⟨w.heap.size + 2, 0, none⟩)) (.func (.func 22) #[] #[.pointer (some ⟨g, 0, none⟩)]) ((g + 1 + 1) :: []) (World.setObjAt V (g + 1 + 1 + 1) o) R := by
      intro V o hb
      refine rest2 s hs w _ g _ R (hb.below (B := g + 1 + 1 + 1) (belowObj (Below.refl _ _) (Nat.le_refl _) o) (by omega) (by omega) (by omega)) h
    refine places_iter s (by omega) g _ _ hclo
      (fun p q V => Base s w V g (g + 1 + 1) ∧ V.heap[g + 1 + 1 + 1]? = some (.loop (rec .ready none)) ∧ (∃ j : Int, V.heap[g + 1]? = some (.cells #[.int .i64 j] 3) ∧ 0 ≤ j ∧ j ≤ p) ∧ V.heap[w.heap.size + 1]? = some (.cells #[.int .i64 stop] 3))
      (fun V => Base s w V g (g + 1 + 1) ∧ V.heap[g + 1 + 1 + 1]? = some (.loop (rec .done (some (.exit 0))))) _ ?_ ?_ ?_ ?_ ?_
    · rintro p q V V' ⟨h1, h3, ⟨j, h4, h5⟩, h6⟩ hbl
      rw [hB] at hbl
      exact ⟨h1.below hbl (by omega) (by omega) (by omega), (hbl.block _ (by omega)).trans h3, ⟨j, (hbl.block _ (by omega)).trans h4, h5⟩, (hbl.block _ (by omega)).trans h6⟩
    · have := hE3.size
      refine ⟨⟨Ext.alloc (Ext.alloc hE3 _) _, ?_, ?_, ?_, ?_, by omega, by omega⟩, ?_, ⟨0, ?_, by omega, by omega⟩, ?_⟩
      · simp (disch := first | omega | (simp only [sz_alloc, sz_row, sz_obj]; done) | (simp only [sz_alloc, sz_row, sz_obj]; omega)) only [hp_old, t3]
      · simp (disch := first | omega | (simp only [sz_alloc, sz_row, sz_obj]; done) | (simp only [sz_alloc, sz_row, sz_obj]; omega)) only [hp_old, r3]
      · simp (disch := first | omega | (simp only [sz_alloc, sz_row, sz_obj]; done) | (simp only [sz_alloc, sz_row, sz_obj]; omega)) only [hp_old, c3]
      · simp (disch := first | omega | (simp only [sz_alloc, sz_row, sz_obj]; done) | (simp only [sz_alloc, sz_row, sz_obj]; omega)) only [hp_new, hp_old]
      · simp (disch := first | omega | (simp only [sz_alloc, sz_row, sz_obj]; done) | (simp only [sz_alloc, sz_row, sz_obj]; omega)) only [hp_new]
      · simp (disch := first | omega | (simp only [sz_alloc, sz_row, sz_obj]; done) | (simp only [sz_alloc, sz_row, sz_obj]; omega)) only [hp_old, k3]
      · simp (disch := first | omega | (simp only [sz_alloc, sz_row, sz_obj]; done) | (simp only [sz_alloc, sz_row, sz_obj]; omega)) only [hp_old, p3]
    · rintro p q V hlt hsz ⟨h1, h3, ⟨j, h4, h5, h5b⟩, h6⟩
      rw [hB] at hsz ⊢
      refine hround _ V _ rfl h3 ?_
      have l3 := hp_lt h3
      have hd1 := decode_pos s p
      refine ⟨h3, ?_⟩
      by_cases hj : j = stop
      · repeat' (first | (simp (disch := first | omega | (simp only [sz_alloc, sz_row, sz_obj]; done) | (simp only [sz_alloc, sz_row, sz_obj]; omega)) only [opK_eql, nth, xcond_1, dec_t, hp_objfar, ldH_some, List.size_toArray, List.length_cons, List.length_nil, Nat.le_refl, true_and, List.drop_zero, List.take_succ_cons, List.take_nil, Nat.zero_add, h4, h6]) | with_reducible refine o_store_4 rfl ?_ | refine o_load_9 ?_ | refine o_store_3 rfl ?_ | refine o_load_3 ?_ | refine o_store_33 rfl ?_ | refine o_load_33 ?_)
        refine ⟨by simp (disch := first | omega | (simp only [sz_alloc, sz_row, sz_obj]; done) | (simp only [sz_alloc, sz_row, sz_obj]; omega)) only [hp_obj], ⟨by simp only [sz_obj]; omega, fun k hk1 hk2 => by simp (disch := first | omega | (simp only [sz_alloc, sz_row, sz_obj]; done) | (simp only [sz_alloc, sz_row, sz_obj]; omega)) only [hp_objfar]⟩, .inr ⟨rfl, ?_, ?_⟩⟩
        · exact h1.below (B := g + 1 + 1 + 1) (belowObj (belowObj (Below.refl _ _) (Nat.le_refl _) _) (Nat.le_refl _) _) (by have := h1.lo; omega) (by omega) (by omega)
        · simp (disch := first | omega | (simp only [sz_alloc, sz_row, sz_obj]; done) | (simp only [sz_alloc, sz_row, sz_obj]; omega)) only [hp_obj]
      · repeat' (first | (simp (disch := first | omega | (simp only [sz_alloc, sz_row, sz_obj]; done) | (simp only [sz_alloc, sz_row, sz_obj]; omega)) only [opK_eql, opK_add, nth, xcond_0, dec_f, hp_objfar, ldH_some, stH_some, spliced, cells_int, List.size_toArray, List.length_cons, List.length_nil, Nat.le_refl, true_and, List.drop_zero, List.drop_succ_cons, List.take_succ_cons, List.take_zero, List.drop_nil, List.take_nil, List.nil_append, List.append_nil, List.all_cons, List.all_nil, Value.oneCell', Bool.and_self, Nat.zero_add, h4, h6]) | with_reducible refine o_store_4 rfl ?_ | refine o_load_9 ?_ | refine o_store_3 rfl ?_ | refine o_load_3 ?_ | refine o_store_33 rfl ?_ | refine o_load_33 ?_)
        have lo1 := h1.lo
        have l1 := hp_lt h4
        refine ⟨by simp (disch := first | omega | (simp only [sz_alloc, sz_row, sz_obj]; done) | (simp only [sz_alloc, sz_row, sz_obj]; omega)) only [hp_far, hp_obj], ⟨by simp only [sz_obj, sz_row]; omega, fun k hk1 hk2 => by simp (disch := first | omega | (simp only [sz_alloc, sz_row, sz_obj]; done) | (simp only [sz_alloc, sz_row, sz_obj]; omega)) only [hp_far, hp_objfar]⟩, .inl ⟨rfl, ⟨?_, ?_, ?_, ?_, ?_, h1.lo, h1.lo2⟩, ?_, ⟨j + 1, ?_, by omega, by omega⟩, ?_⟩⟩
        · have := h1.ext
          have hz := this.size
          exact (by repeat' (first | exact Ext.refl _ | assumption | refine Ext.row ?_ (by first | omega | (simp only [sz_alloc, sz_row, sz_obj]; done) | (simp only [sz_alloc, sz_row, sz_obj]; omega)) _ | refine Ext.obj ?_ (by first | omega | (simp only [sz_alloc, sz_row, sz_obj]; done) | (simp only [sz_alloc, sz_row, sz_obj]; omega)) _ | refine Ext.alloc ?_ _))
        · have := h1.text
          simp (disch := first | omega | (simp only [sz_alloc, sz_row, sz_obj]; done) | (simp only [sz_alloc, sz_row, sz_obj]; omega)) only [hp_far, hp_objfar, this]
        · have := h1.res
          simp (disch := first | omega | (simp only [sz_alloc, sz_row, sz_obj]; done) | (simp only [sz_alloc, sz_row, sz_obj]; omega)) only [hp_far, hp_objfar, this]
        · have := h1.clo
          simp (disch := first | omega | (simp only [sz_alloc, sz_row, sz_obj]; done) | (simp only [sz_alloc, sz_row, sz_obj]; omega)) only [hp_far, hp_objfar, this]
        · have := h1.mark
          simp (disch := first | omega | (simp only [sz_alloc, sz_row, sz_obj]; done) | (simp only [sz_alloc, sz_row, sz_obj]; omega)) only [hp_far, hp_objfar, this]
        · simp (disch := first | omega | (simp only [sz_alloc, sz_row, sz_obj]; done) | (simp only [sz_alloc, sz_row, sz_obj]; omega)) only [hp_obj]
        · simp (disch := first | omega | (simp only [sz_alloc, sz_row, sz_obj]; done) | (simp only [sz_alloc, sz_row, sz_obj]; omega)) only [hp_row, hp_objfar, rowPut_some, h4]
        · simp (disch := first | omega | (simp only [sz_alloc, sz_row, sz_obj]; done) | (simp only [sz_alloc, sz_row, sz_obj]; omega)) only [hp_far, hp_objfar, h6]
    · rintro q V ⟨h1, h3, _, _⟩
      exact .inl ⟨h3, fin V _ h1⟩
    · rintro V ⟨h1, h3⟩
      exact .inr (.inr ⟨0, h3, fin V _ h1⟩)
  · simp (disch := first | omega | (simp only [sz_alloc, sz_row, sz_obj]; done) | (simp only [sz_alloc, sz_row, sz_obj]; omega)) only [opK_gtr, nth, xcond_1, dec_t, ldH_some, List.size_toArray, List.length_cons, List.length_nil, Nat.le_refl, true_and, List.drop_zero, List.take_succ_cons, List.take_nil, Nat.zero_add, o_len_9, t1]
    refine o_store_4 rfl ?_
    simp (disch := first | omega | (simp only [sz_alloc, sz_row, sz_obj]; done) | (simp only [sz_alloc, sz_row, sz_obj]; omega)) only [stH_some, spliced, cells_bool, List.size_toArray, List.length_cons, List.length_nil, Nat.le_refl, true_and, List.drop_succ_cons, List.take_zero, List.drop_nil, List.nil_append, List.append_nil, List.all_cons, List.all_nil, Value.oneCell', Bool.and_self, Nat.zero_add, r1]
    refine o_cell_4 ?_
    simp (disch := first | omega | (simp only [sz_alloc, sz_row, sz_obj]; done) | (simp only [sz_alloc, sz_row, sz_obj]; omega)) only [hp_row, rowPut_some, ldH_some, List.size_toArray, List.length_cons, List.length_nil, Nat.le_refl, true_and, List.drop_zero, List.take_succ_cons, List.take_nil, Nat.zero_add, r1]
    exact h _ (by repeat' (first | exact Ext.refl _ | assumption | refine Ext.row ?_ (by first | omega | (simp only [sz_alloc, sz_row, sz_obj]; done) | (simp only [sz_alloc, sz_row, sz_obj]; omega)) _ | refine Ext.obj ?_ (by first | omega | (simp only [sz_alloc, sz_row, sz_obj]; done) | (simp only [sz_alloc, sz_row, sz_obj]; omega)) _ | refine Ext.alloc ?_ _))
end Go.Proofs.YtpdeflgmldomeaaDoor
