/- The place of a byte: the reference's. -/
import Derived.Test.YtpdeflgmldomeaaDoorT4
namespace Go.Proofs.YtpdeflgmldomeaaDoor
open Go.RowKit

/-- the place behind the runes from p on that begin ahead of n -/
def nextP (q : Int × Int) (r : Nat) : Int × Int := if r = 10 then (q.1 + 1, 1) else (q.1, q.2 + 1)
def plc (s : ByteArray) (n : Int) : Nat → Nat → Int × Int → Int × Int
  | 0, _, q => q
  | f + 1, p, q => if p < s.size ∧ (p : Int) < n then plc s n f (p + (Utf8.decode s p).2) (nextP q (Utf8.decode s p).1) else q
theorem plc_any (s : ByteArray) (n : Int) : ∀ (f g p : Nat) (q : Int × Int), s.size - p ≤ f → s.size - p ≤ g → plc s n f p q = plc s n g p q := by
  intro f
  induction f with
  | zero =>
    intro g p q h1 h2
    cases g with
    | zero => rfl
    | succ g => simp [plc, show ¬ p < s.size by omega]
  | succ f ih =>
    intro g p q h1 h2
    cases g with
    | zero => simp [plc, show ¬ p < s.size by omega]
    | succ g =>
      simp only [plc]
      have := decode_pos s p
      split
      · exact ih g _ _ (by omega) (by omega)
      · rfl
def plcAt (s : ByteArray) (n : Int) (p : Nat) (q : Int × Int) : Int × Int := plc s n (s.size - p) p q
theorem plcAt_end (s : ByteArray) (n : Int) (p : Nat) (q : Int × Int) (h : ¬ (p < s.size ∧ (p : Int) < n)) : plcAt s n p q = q := by
  unfold plcAt
  cases hf : s.size - p with
  | zero => rfl
  | succ f => simp only [plc, if_neg h]
theorem plcAt_step (s : ByteArray) (n : Int) (p : Nat) (q : Int × Int) (h : p < s.size) (h2 : (p : Int) < n) : plcAt s n p q = plcAt s n (p + (Utf8.decode s p).2) (nextP q (Utf8.decode s p).1) := by
  unfold plcAt
  obtain ⟨f, hf⟩ : ∃ f, s.size - p = f + 1 := ⟨s.size - p - 1, by omega⟩
  have := decode_pos s p
  rw [hf]
  simp only [plc, h, h2, and_self, if_true]
  exact plc_any s n _ _ _ _ (by omega) (by omega)
def atP (s : ByteArray) (n : Int) : Int × Int := plcAt s n 0 (1, 1)
def placeOf (q : Int × Int) : Value := place q.1 q.2

theorem refAt_ok (s : ByteArray) (n : Int) (w : World) (R : Value → World → Prop) (hs : s.size ≤ 1048576) (h : ∀ w', Ext w w' → R (placeOf (atP s n)) w') : Cv Tryd.prog 14 #[.string s, .int .i64 n] w R := by
  apply F14_ok
  unfold F14
  repeat' (first | (simp (disch := first | omega | (simp only [sz_alloc, sz_row, sz_obj]; done) | (simp only [sz_alloc, sz_row, sz_obj]; omega)) only [xcut, hp_new, sz_alloc, stH_some, spliced, cells_agg, List.size_toArray, List.length_cons, List.length_nil, Nat.reduceAdd, Nat.le_refl, true_and, List.drop_succ_cons, List.take_zero, List.drop_nil, List.nil_append, List.append_nil, List.all_cons, List.all_nil, Value.oneCell', Bool.and_self, Nat.zero_add, o_alloc_33, o_build_33_0_1]) | with_reducible refine o_store_33 rfl ?_ | refine o_load_3 ?_ | refine o_store_3 rfl ?_ | refine o_load_33 ?_)
  have hx : Ext w (((w.alloc (.cells #[.int .i64 0, .int .i64 0] 33)).alloc (.cells #[.int .i64 0, .int .i64 0] 33)).setRow (w.heap.size + 1) #[.int .i64 1, .int .i64 1]) := (by repeat' (first | exact Ext.refl _ | assumption | refine Ext.row ?_ (by first | omega | (simp only [sz_alloc, sz_row, sz_obj]; done) | (simp only [sz_alloc, sz_row, sz_obj]; omega)) _ | refine Ext.obj ?_ (by first | omega | (simp only [sz_alloc, sz_row, sz_obj]; done) | (simp only [sz_alloc, sz_row, sz_obj]; omega)) _ | refine Ext.alloc ?_ _))
  have hr : (((w.alloc (.cells #[.int .i64 0, .int .i64 0] 33)).alloc (.cells #[.int .i64 0, .int .i64 0] 33)).setRow (w.heap.size + 1) #[.int .i64 1, .int .i64 1]).heap[w.heap.size]? = some (.cells #[.int .i64 0, .int .i64 0] 33) := by
    simp (disch := first | omega | (simp only [sz_alloc, sz_row, sz_obj]; done) | (simp only [sz_alloc, sz_row, sz_obj]; omega)) only [hp_new, hp_old, hp_far]
  have hp : (((w.alloc (.cells #[.int .i64 0, .int .i64 0] 33)).alloc (.cells #[.int .i64 0, .int .i64 0] 33)).setRow (w.heap.size + 1) #[.int .i64 1, .int .i64 1]).heap[w.heap.size + 1]? = some (.cells #[.int .i64 1, .int .i64 1] 33) := by
    simp (disch := first | omega | (simp only [sz_alloc, sz_row, sz_obj]; done) | (simp only [sz_alloc, sz_row, sz_obj]; omega)) only [hp_new, hp_row, rowPut_some]
  generalize ((w.alloc (.cells #[.int .i64 0, .int .i64 0] 33)).alloc (.cells #[.int .i64 0, .int .i64 0] 33)).setRow (w.heap.size + 1) #[.int .i64 1, .int .i64 1] = w1 at hx hr hp
  refine ⟨fun l w' => ∃ (p : Nat) (a b : Int), l = [.int .i64 p] ∧ Ext w w' ∧ w'.heap[w.heap.size]? = some (.cells #[.int .i64 0, .int .i64 0] 33) ∧
      w'.heap[w.heap.size + 1]? = some (.cells #[.int .i64 a, .int .i64 b] 33) ∧ 0 ≤ a ∧ a ≤ p + 1 ∧ 0 ≤ b ∧ b ≤ p + 1 ∧ p ≤ s.size ∧ plcAt s n p (a, b) = atP s n, fun l _ => s.size - (intOf (nth l 0)).toNat,
    ⟨0, 1, 1, rfl, hx, hr, hp, by omega, by omega, by omega, by omega, by omega, rfl⟩, ?_⟩
  rintro τ w' ⟨p, a, b, hl, he, h0, h1, ha, ha2, hb, hb2, hps, hq⟩
  have e1 : τ 6 = .int .i64 p := by simpa using hl
  simp only [e1]
  unfold F14_l2
  have hsz := hp_lt h1
  have done : ¬ (p < s.size ∧ (p : Int) < n) → F14_j1 (.pointer (some ⟨w.heap.size, 0, none⟩)) (.pointer (some ⟨w.heap.size + 1, 0, none⟩)) w' R := by
    intro hn _
    rw [plcAt_end s n p _ hn] at hq
    rw [← hq] at h
    repeat' (first | (simp (disch := first | omega | (simp only [sz_alloc, sz_row, sz_obj]; done) | (simp only [sz_alloc, sz_row, sz_obj]; omega)) only [hp_row, rowPut_some, ldH_some, stH_some, spliced, cells_agg, List.size_toArray, List.length_cons, List.length_nil, Nat.reduceAdd, Nat.le_refl, true_and, List.drop_zero, List.drop_succ_cons, List.take_succ_cons, List.take_zero, List.drop_nil, List.take_nil, List.nil_append, List.append_nil, List.all_cons, List.all_nil, Value.oneCell', Bool.and_self, Nat.zero_add, h0, h1]) | with_reducible refine o_store_33 rfl ?_ | refine o_load_3 ?_ | refine o_store_3 rfl ?_ | refine o_load_33 ?_ | refine o_cell_33 ?_)
    exact h _ (by repeat' (first | exact Ext.refl _ | assumption | refine Ext.row ?_ (by first | omega | (simp only [sz_alloc, sz_row, sz_obj]; done) | (simp only [sz_alloc, sz_row, sz_obj]; omega)) _ | refine Ext.obj ?_ (by first | omega | (simp only [sz_alloc, sz_row, sz_obj]; done) | (simp only [sz_alloc, sz_row, sz_obj]; omega)) _ | refine Ext.alloc ?_ _))
  by_cases hlt : p < s.size
  · by_cases hn : (p : Int) < n
    · rw [plcAt_step s n p _ hlt hn] at hq
      have hd := decode_in s p hlt
      have hd1 := decode_pos s p
      simp (disch := omega) only [opK_lss, opK_pick, xcut, asB_bool, gsem_11, gval_11, xcond_1, dec_t, cond_true, o_len_9, o_fa_33_1, o_fa_33_0]
      refine o_call_16 (rune_ok s p _ _ hlt (by omega) ?_)
      rw [refRune_decode]
      unfold RuneR
      by_cases h10 : (Utf8.decode s p).1 = 10
      · rw [nextP, if_pos h10] at hq
        repeat' (first | (simp (disch := first | omega | (simp only [sz_alloc, sz_row, sz_obj]; done) | (simp only [sz_alloc, sz_row, sz_obj]; omega)) only [opK_eql, opK_add, nth, xcond_1, dec_t, dec_f, Bool.not_false, ext3_0, ext3_1, ext3_2, setRow_setRow, hp_row, hp_far, rowPut_some, ldH_some, stH_some, spliced, cells_int, List.size_toArray, List.length_cons, List.length_nil, Nat.reduceAdd, Nat.reduceLeDiff, Nat.le_refl, true_and, List.drop_zero, List.drop_succ_cons, List.take_succ_cons, List.take_zero, List.drop_nil, List.take_nil, List.cons_append, List.nil_append, List.append_nil, List.all_cons, List.all_nil, Value.oneCell', Bool.and_self, Nat.zero_add, h0, h1]) | with_reducible refine o_store_33 rfl ?_ | refine o_load_3 ?_ | refine o_store_3 rfl ?_ | refine o_load_33 ?_ | (unfold F14_j3; intro _))
        exact ⟨⟨p + (Utf8.decode s p).2, a + 1, 1, by simp, (by repeat' (first | exact Ext.refl _ | assumption | refine Ext.row ?_ (by first | omega | (simp only [sz_alloc, sz_row, sz_obj]; done) | (simp only [sz_alloc, sz_row, sz_obj]; omega)) _ | refine Ext.obj ?_ (by first | omega | (simp only [sz_alloc, sz_row, sz_obj]; done) | (simp only [sz_alloc, sz_row, sz_obj]; omega)) _ | refine Ext.alloc ?_ _)), rfl, by omega, by omega, by omega, by omega, hd, hq⟩, by simp [intOf, nth, e1]; omega⟩
      · rw [nextP, if_neg h10] at hq
        repeat' (first | (simp (disch := first | omega | (simp only [sz_alloc, sz_row, sz_obj]; done) | (simp only [sz_alloc, sz_row, sz_obj]; omega)) only [opK_eql, opK_add, nth, xcond_0, dec_f, ext3_0, ext3_1, ext3_2, hp_row, hp_far, rowPut_some, ldH_some, stH_some, spliced, cells_int, List.size_toArray, List.length_cons, List.length_nil, Nat.reduceAdd, Nat.le_refl, true_and, List.drop_zero, List.drop_succ_cons, List.take_succ_cons, List.take_zero, List.drop_nil, List.take_nil, List.cons_append, List.nil_append, List.append_nil, List.all_cons, List.all_nil, Value.oneCell', Bool.and_self, Nat.zero_add, h0, h1]) | with_reducible refine o_store_33 rfl ?_ | refine o_load_3 ?_ | refine o_store_3 rfl ?_ | refine o_load_33 ?_ | (unfold F14_j3; intro _))
        exact ⟨⟨p + (Utf8.decode s p).2, a, b + 1, by simp, (by repeat' (first | exact Ext.refl _ | assumption | refine Ext.row ?_ (by first | omega | (simp only [sz_alloc, sz_row, sz_obj]; done) | (simp only [sz_alloc, sz_row, sz_obj]; omega)) _ | refine Ext.obj ?_ (by first | omega | (simp only [sz_alloc, sz_row, sz_obj]; done) | (simp only [sz_alloc, sz_row, sz_obj]; omega)) _ | refine Ext.alloc ?_ _)), rfl, by omega, by omega, by omega, by omega, hd, hq⟩, by simp [intOf, nth, e1]; omega⟩
    · simp (disch := omega) only [opK_lss, opK_pick, xcut, asB_bool, gsem_11, gval_11, xcond_0, dec_t, dec_f, cond_true, o_len_9, o_fa_33_1, o_fa_33_0]
      exact done (fun h => hn h.2)
  · simp (disch := omega) only [opK_lss, opK_pick, opK_pure, xcut, asB_bool, gsem_01, gval_01, xcond_0, dec_f, cond_false, o_len_9, o_fa_33_1, o_fa_33_0]
    exact done (fun h => hlt h.1)
end Go.Proofs.YtpdeflgmldomeaaDoor
