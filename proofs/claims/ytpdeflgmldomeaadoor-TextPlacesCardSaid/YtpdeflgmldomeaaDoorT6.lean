/- The program's own place of a byte: the reference's. -/
import Derived.Test.YtpdeflgmldomeaaDoorT5
import Derived.Test.YtpdeflgmldomeaaDoorG2
import Derived.Test.YtpdeflgmldomeaaDoorY2
namespace Go.Proofs.YtpdeflgmldomeaaDoor
open Go.RowKit

/-- what a round may turn: no block of the iterator's own -/
def Own (B : Nat) (W W' : World) : Prop := W.heap.size ≤ W'.heap.size ∧ ∀ k, B ≤ k → k < W.heap.size → W'.heap[k]? = W.heap[k]?

theorem belowObj {B : Nat} {a w : World} (h : Below B a w) {g : Nat} (hg : B ≤ g) (o : Obj) : Below B a (World.setObjAt w g o) :=
  ⟨h.os, h.tape, h.output, by simpa [World.setObjAt] using h.size, fun k hk => (hp_objfar (by omega)).trans (h.block k hk)⟩

theorem steps_iter (s : ByteArray) (hs : s.size ≤ 4194304) (b : Nat) (yld : Value) (w : World) (hb : w.heap[b]? = some (.cells #[.string s] 9)) (J : Nat → Int × Int → World → Prop) (D : World → Prop) (R : Value → World → Prop)
    (hJ : ∀ p q W W', J p q W → Below w.heap.size W W' → J p q W') (h0 : J 0 (1, 1) w)
    (hround : ∀ p q W, p < s.size → w.heap.size ≤ W.heap.size → J p q W →
      opY Tryd.prog (xCall yld [.int .i64 p, placeOf (nextP q (Utf8.decode s p).1)]) W fun v W' => Own w.heap.size W W' ∧
        ((v = .bool true ∧ J (p + (Utf8.decode s p).2) (nextP q (Utf8.decode s p).1) W') ∨ (v = .bool false ∧ D W')))
    (hn : ∀ q W, J s.size q W → R (.tuple #[]) W) (hd : ∀ W, D W → R (.tuple #[]) W) :
    Cv Tryd.prog 25 #[yld, .pointer (some ⟨b, 0, none⟩)] w R := by
  apply F25_ok
  unfold F25
  refine o_call_20 (first_ok _ _ fun w1 he1 => ?_)
  have hbl := hp_lt hb
  have hb1 := (he1.heap hbl).trans hb
  have hsz1 := he1.size
  unfold place
  repeat' (first | (simp (disch := first | omega | (simp only [sz_alloc, sz_row, sz_obj]; done) | (simp only [sz_alloc, sz_row, sz_obj]; omega)) only [nth, hp_new, hp_old, hp_far, sz_alloc, sz_row, ldH_some, stH_some, spliced, cells_agg, List.size_toArray, List.length_cons, List.length_nil, Nat.reduceAdd, Nat.le_refl, true_and, List.drop_zero, List.drop_succ_cons, List.take_succ_cons, List.take_zero, List.drop_nil, List.take_nil, List.nil_append, List.append_nil, List.all_cons, List.all_nil, Value.oneCell', Bool.and_self, Nat.zero_add, o_alloc_33, o_range_9, hb1]) | with_reducible refine o_store_33 rfl ?_ | refine o_load_9 ?_ | refine o_load_33 ?_)
  have hw2 : Below w.heap.size w (((w1.alloc (.cells #[.int .i64 0, .int .i64 0] 33)).setRow w1.heap.size #[.int .i64 1, .int .i64 1]).alloc (.stringIter s 0)) :=
    Below.alloc (below_setRow (Below.alloc he1 he1.size _) he1.size _) (by simp only [sz_alloc, sz_row]; omega) _
  have hp2 : (((w1.alloc (.cells #[.int .i64 0, .int .i64 0] 33)).setRow w1.heap.size #[.int .i64 1, .int .i64 1]).alloc (.stringIter s 0)).heap[w1.heap.size]? = some (.cells #[.int .i64 1, .int .i64 1] 33) := by
    simp (disch := first | omega | (simp only [sz_alloc, sz_row, sz_obj]; done) | (simp only [sz_alloc, sz_row, sz_obj]; omega)) only [hp_new, hp_old, hp_row, rowPut_some]
  have hi2 : (((w1.alloc (.cells #[.int .i64 0, .int .i64 0] 33)).setRow w1.heap.size #[.int .i64 1, .int .i64 1]).alloc (.stringIter s 0)).heap[w1.heap.size + 1]? = some (.stringIter s 0) := by
    simp (disch := first | omega | (simp only [sz_alloc, sz_row, sz_obj]; done) | (simp only [sz_alloc, sz_row, sz_obj]; omega)) only [hp_new]
  generalize (((w1.alloc (.cells #[.int .i64 0, .int .i64 0] 33)).setRow w1.heap.size #[.int .i64 1, .int .i64 1]).alloc (.stringIter s 0)) = w2 at hw2 hp2 hi2
  have hg : w.heap.size ≤ w1.heap.size := hsz1
  generalize w1.heap.size = g at hg hp2 hi2
  refine ⟨fun _ w' => ∃ (p : Nat) (a b : Int), J p (a, b) w' ∧ w.heap.size ≤ w'.heap.size ∧ w'.heap[g]? = some (.cells #[.int .i64 a, .int .i64 b] 33) ∧ w'.heap[g + 1]? = some (.stringIter s p) ∧
      0 ≤ a ∧ a ≤ p + 1 ∧ 0 ≤ b ∧ b ≤ p + 1 ∧ p ≤ s.size, fun _ w' => match w'.heap[g + 1]? with | some (.stringIter _ p) => s.size - p | _ => 0,
    ⟨0, 1, 1, hJ _ _ _ _ h0 hw2, hw2.size, hp2, hi2, by omega, by omega, by omega, by omega, by omega⟩, ?_⟩
  rintro τ w' ⟨p, a, c, hj, hsz, hp, hi, ha, ha2, hc, hc2, hps⟩
  unfold F25_l1
  have hgl := hp_lt hp
  have hil := hp_lt hi
  by_cases hlt : p < s.size
  · have hdd := decode_in s p hlt
    have hd1 := decode_pos s p
    rw [opK_next_more hi hlt]
    simp (disch := first | omega | (simp only [sz_alloc, sz_row, sz_obj]; done) | (simp only [sz_alloc, sz_row, sz_obj]; omega)) only [xcond_1, ext3_0, ext3_1, ext3_2]
    have hj3 := hJ _ _ _ _ hj (belowObj (Below.refl _ w') (show w.heap.size ≤ g + 1 by omega) (.stringIter s (p + (Utf8.decode s p).2)))
    have hp3 : (World.setObjAt w' (g + 1) (.stringIter s (p + (Utf8.decode s p).2))).heap[g]? = some (.cells #[.int .i64 a, .int .i64 c] 33) := (hp_objfar (by omega)).trans hp
    have hi3 : (World.setObjAt w' (g + 1) (.stringIter s (p + (Utf8.decode s p).2))).heap[g + 1]? = some (.stringIter s (p + (Utf8.decode s p).2)) := hp_obj rfl hil
    have hsz3 : w'.heap.size = (World.setObjAt w' (g + 1) (.stringIter s (p + (Utf8.decode s p).2))).heap.size := by simp only [sz_obj]
    generalize (World.setObjAt w' (g + 1) (.stringIter s (p + (Utf8.decode s p).2))) = w3 at hj3 hp3 hi3 hsz3
    refine o_load_33 ?_
    simp (disch := first | omega | (simp only [sz_alloc, sz_row, sz_obj]; done) | (simp only [sz_alloc, sz_row, sz_obj]; omega)) only [ldH_some, List.size_toArray, List.length_cons, List.length_nil, Nat.reduceAdd, Nat.le_refl, true_and, List.drop_zero, List.take_succ_cons, List.take_nil, Nat.zero_add, hp3]
    refine o_call_23 (next_ok a c _ _ _ ha (by omega) hc (by omega) fun w4 he4 => ?_)
    have e : (if ((Utf8.decode s p).1 : Int) = 10 then place (a + 1) 1 else place a (c + 1)) = placeOf (nextP (a, c) (Utf8.decode s p).1) := by
      unfold nextP placeOf
      by_cases h : (Utf8.decode s p).1 = 10
      · rw [if_pos (by omega), if_pos h]
      · rw [if_neg (by omega), if_neg h]
    rw [e]
    have hj4 := hJ _ _ _ _ hj3 (Below.mono he4 (by omega))
    have hp4 := (he4.heap (hp_lt hp3)).trans hp3
    have hi4 := (he4.heap (hp_lt hi3)).trans hi3
    have hsz4 := he4.size
    have hq : 0 ≤ (nextP (a, c) (Utf8.decode s p).1).1 ∧ (nextP (a, c) (Utf8.decode s p).1).1 ≤ p + (Utf8.decode s p).2 + 1 ∧ 0 ≤ (nextP (a, c) (Utf8.decode s p).1).2 ∧ (nextP (a, c) (Utf8.decode s p).1).2 ≤ p + (Utf8.decode s p).2 + 1 := by
      unfold nextP
      split <;> simp only <;> omega
    have hr := fun W => hround p (a, c) W hlt
    clear e
    generalize nextP (a, c) (Utf8.decode s p).1 = q at hq hr
    obtain ⟨a2, c2⟩ := q
    unfold placeOf place at hr ⊢
    simp only at hq hr ⊢
    refine o_store_33 rfl ?_
    simp (disch := first | omega | (simp only [sz_alloc, sz_row, sz_obj]; done) | (simp only [sz_alloc, sz_row, sz_obj]; omega)) only [stH_some, spliced, cells_agg, List.size_toArray, List.length_cons, List.length_nil, Nat.reduceAdd, Nat.le_refl, true_and, List.drop_succ_cons, List.take_zero, List.drop_nil, List.nil_append, List.append_nil, List.all_cons, List.all_nil, Value.oneCell', Bool.and_self, Nat.zero_add, hp4]
    have hj5 := hJ _ _ _ _ hj4 (below_setRow (Below.refl _ w4) hg #[.int .i64 a2, .int .i64 c2])
    have hgl4 := hp_lt hp4
    have hp5 : (w4.setRow g #[.int .i64 a2, .int .i64 c2]).heap[g]? = some (.cells #[.int .i64 a2, .int .i64 c2] 33) := by simp (disch := first | omega | (simp only [sz_alloc, sz_row, sz_obj]; done) | (simp only [sz_alloc, sz_row, sz_obj]; omega)) only [hp_row, rowPut_some, hp4]
    have hi5 : (w4.setRow g #[.int .i64 a2, .int .i64 c2]).heap[g + 1]? = some (.stringIter s (p + (Utf8.decode s p).2)) := by simp (disch := first | omega | (simp only [sz_alloc, sz_row, sz_obj]; done) | (simp only [sz_alloc, sz_row, sz_obj]; omega)) only [hp_far, hi4]
    have hsz5 : w.heap.size ≤ (w4.setRow g #[.int .i64 a2, .int .i64 c2]).heap.size := by simp only [sz_row]; omega
    generalize (w4.setRow g #[.int .i64 a2, .int .i64 c2]) = w5 at hj5 hp5 hi5 hsz5
    refine o_load_33 ?_
    simp (disch := first | omega | (simp only [sz_alloc, sz_row, sz_obj]; done) | (simp only [sz_alloc, sz_row, sz_obj]; omega)) only [ldH_some, List.size_toArray, List.length_cons, List.length_nil, Nat.reduceAdd, Nat.le_refl, true_and, List.drop_zero, List.take_succ_cons, List.take_nil, Nat.zero_add, hp5]
    refine opY_mono (hr w5 hsz5 hj5) ?_
    rintro v w6 ⟨ho, hv⟩
    have hp6 := (ho.2 g hg (hp_lt hp5)).trans hp5
    have hi6 := (ho.2 (g + 1) (by omega) (hp_lt hi5)).trans hi5
    rcases hv with ⟨rfl, hj6⟩ | ⟨rfl, hd6⟩
    · simp (disch := first | omega | (simp only [sz_alloc, sz_row, sz_obj]; done) | (simp only [sz_alloc, sz_row, sz_obj]; omega)) only [opK_not, xcond_0, Bool.not_true]
      exact ⟨⟨_, a2, c2, hj6, Nat.le_trans hsz5 ho.1, hp6, hi6, by omega, by omega, by omega, by omega, hdd⟩, by rw [hi6, hi]; show s.size - _ < s.size - _; omega⟩
    · simp (disch := first | omega | (simp only [sz_alloc, sz_row, sz_obj]; done) | (simp only [sz_alloc, sz_row, sz_obj]; omega)) only [opK_not, xcond_1, Bool.not_false]
      exact hd _ hd6
  · obtain rfl : p = s.size := by omega
    rw [opK_next_over hi (by omega)]
    simp (disch := first | omega | (simp only [sz_alloc, sz_row, sz_obj]; done) | (simp only [sz_alloc, sz_row, sz_obj]; omega)) only [xcond_0, ext1_0]
    exact hn _ _ hj
end Go.Proofs.YtpdeflgmldomeaaDoor
