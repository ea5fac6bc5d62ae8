/- The range over all places: what its rounds are handed. -/
import Derived.Test.YtpdeflgmldomeaaDoorT10
namespace Go.Proofs.YtpdeflgmldomeaaDoor
open Go.RowKit

theorem places_ok (s : ByteArray) (w : World) (R : Value → World → Prop) (h : R (.func (.func 22) #[] #[.pointer (some ⟨w.heap.size, 0, none⟩)]) (w.alloc (.cells #[.string s] 9))) :
    Cv Tryd.prog 15 #[.string s] w R := by
  apply F15_ok
  unfold F15
  simp only [opK_box, opK_makeFunc, cells_string]
  exact h

def NoCall (s : Sem Next) : Prop := ∀ (P : Program) (w : World) (f : FuncId) (a : Array Value) (w' : World), s.run P w ≠ .ok (.enter f a) w'
theorem noCall_xV (s : Sem Value) : NoCall (xV s) := by
  intro P w f a w' h
  unfold xV at h
  rw [Sem.run_bind] at h
  cases hs : s.run P w with
  | halt x w2 => rw [hs] at h; cases h
  | ok v w2 => rw [hs] at h; simp at h
theorem noCall_xBin (op : BinOp) (t : TypeId) (x y : Operand) (a b : Value) : NoCall (xBin op t x y a b) := noCall_xV (do eqGuard op t x y a b; binOp op t a b)
theorem noCall_xPick (c a b : Value) : NoCall (xPick c a b) := by
  intro P w f x w' h
  unfold xPick at h
  rw [Sem.run_bind] at h
  cases hs : (asBool c).run P w with
  | halt x w2 => rw [hs] at h; cases h
  | ok v w2 => rw [hs] at h; simp at h
theorem qK_val {P : Program} {w : World} {s : Sem Next} {K : Value → Prop} (v : Value) (hn : NoCall s) (h : ∀ w', Ext w w' → opK P s w' fun v' w'' => v' = v ∧ w'' = w') (hk : K v) : qK P w s K := by
  refine ⟨v, fun w' he => ?_, hk⟩
  have := h w' he
  have hn' := hn P w'
  unfold opK at this
  generalize s.run P w' = r at this hn' ⊢
  cases r with
  | halt x w2 => exact this.elim
  | ok n w2 =>
    cases n <;> simp only [Oper.quietUpon] at this ⊢
    case value u => exact ⟨this.2, this.1⟩
    case skip => exact ⟨this.2, this.1.symm⟩
    case enter f args => exact absurd rfl (hn' f args w2)
    all_goals exact this.elim
theorem qK_call {P : Program} {w : World} {K : Value → Prop} {f : FuncId} {args : List Value} (v : Value) (he : ∀ args w, (callFunc f args).run P w = .ok (.enter f args) w)
    (h : ∀ w', Ext w w' → Cv P f args.toArray w' fun v' w'' => v' = v ∧ Ext w w'') (hk : K v) : qK P w (xCall (.func (.func f) #[] #[]) args) K := by
  refine ⟨v, fun w' hx => ?_, hk⟩
  have : (xCall (.func (.func f) #[] #[]) args).run P w' = .ok (.enter f args.toArray) w' := by
    simp only [xCall, Deferred.ofValue, invoke, Sem.run_bind, Sem.run_pure, Result.andThen_ok, he, Array.empty_append, Array.append_empty]
  rw [this]
  exact ⟨rfl, Calls.mono (h w' hx) fun e w'' ⟨u, h1, h2, h3⟩ => ⟨by rw [h1, h2], h3⟩⟩

theorem places_iter (s : ByteArray) (hs : s.size ≤ 4194304) (b : Nat) (yld : Value) (w : World) (hb : w.heap[b]? = some (.cells #[.string s] 9)) (J : Nat → Int × Int → World → Prop) (D : World → Prop) (R : Value → World → Prop)
    (hJ : ∀ p q W W', J p q W → Below w.heap.size W W' → J p q W') (h0 : J 0 (1, 1) w)
    (hround : ∀ p q W, p < s.size → w.heap.size ≤ W.heap.size → J p q W →
      opY Tryd.prog (xCall yld [placeOf q, .int .i32 (Utf8.decode s p).1]) W fun v W' => Own w.heap.size W W' ∧
        ((v = .bool true ∧ J (p + (Utf8.decode s p).2) (nextP q (Utf8.decode s p).1) W') ∨ (v = .bool false ∧ D W')))
    (hn : ∀ q W, J s.size q W → R (.tuple #[]) W) (hd : ∀ W, D W → R (.tuple #[]) W) :
    Cv Tryd.prog 22 #[yld, .pointer (some ⟨b, 0, none⟩)] w R := by
  apply F22_ok
  unfold F22
  refine o_call_20 (first_ok _ _ fun w1 he1 => ?_)
  have hbl := hp_lt hb
  have hb1 := (he1.heap hbl).trans hb
  have hsz1 := he1.size
  unfold place
  repeat' (first | (simp (disch := first | omega | (simp only [sz_alloc, sz_row, sz_obj]; done) | (simp only [sz_alloc, sz_row, sz_obj]; omega)) only [nth, hp_new, hp_old, hp_far, sz_alloc, sz_row, ldH_some, stH_some, spliced, cells_agg, List.size_toArray, List.length_cons, List.length_nil, Nat.reduceAdd, Nat.le_refl, true_and, List.drop_zero, List.drop_succ_cons, List.take_succ_cons, List.take_zero, List.drop_nil, List.take_nil, List.nil_append, List.append_nil, List.all_cons, List.all_nil, Value.oneCell', Bool.and_self, Nat.zero_add, o_alloc_33, o_range_9, hb1]) | with_reducible refine o_store_33 rfl ?_ | refine o_load_9 ?_ | refine o_load_33 ?_)
  have hw2 : Below w.heap.size w (((w1.alloc (.cells #[.int .i64 0, .int .i64 0] 33)).setRow w1.heap.size #[.int .i64 1, .int .i64 1]).alloc (.stringIter s 0)) :=
    Below.alloc (below_setRow (Below.alloc he1 he1.size _) he1.size _) (by simp only [sz_alloc, sz_row]; omega) _
  have hp2 : (((w1.alloc (.cells #[.int .i64 0, .int .i64 0] 33)).setRow w1.heap.size #[.int .i64 1, .int .i64 1]).alloc (.stringIter s 0)).heap[w1.heap.size]? = some (.cells #[.int .i64 1, .int .i64 1] 33) := by
    simp (disch := first | omega | (simp only [sz_alloc, sz_row, sz_obj]; done) | (simp only [sz_alloc, sz_row, sz_obj]; omega)) only [hp_new, hp_old, hp_row, rowPut_some]
  have hi2 : (((w1.alloc (.cells #[.int .i64 0, .int .i64 0] 33)).setRow w1.heap.size #[.int .i64 1, .int .i64 1]).alloc (.stringIter s 0)).heap[w1.heap.size + 1]? = some (.stringIter s 0) := by
    simp (disch := first | omega | (simp only [sz_alloc, sz_row, sz_obj]; done) | (simp only [sz_alloc, sz_row, sz_obj]; omega)) only [hp_new]
  generalize (((w1.alloc (.cells #[.int .i64 0, .int .i64 0] 33)).setRow w1.heap.size #[.int .i64 1, .int .i64 1]).alloc (.stringIter s 0)) = w2 at hw2 hp2 hi2
  have hg : w.heap.size ≤ w1.heap.size := hsz1
  generalize w1.heap.size = g at hg hp2 hi2
  refine ⟨fun _ w' => ∃ (p : Nat) (a b : Int), J p (a, b) w' ∧ w.heap.size ≤ w'.heap.size ∧ w'.heap[g]? = some (.cells #[.int .i64 a, .int .i64 b] 33) ∧ w'.heap[g + 1]? = some (.stringIter s p) ∧
      0 ≤ a ∧ a ≤ p + 1 ∧ 0 ≤ b ∧ b ≤ p + 1 ∧ p ≤ s.size, fun _ w' => match w'.heap[g + 1]? with | some (.stringIter _ p) => s.size - p | _ => 0,
    ⟨0, 1, 1, hJ _ _ _ _ h0 hw2, hw2.size, hp2, hi2, by omega, by omega, by omega, by omega, by omega⟩, ?_⟩
  rintro τ w' ⟨p, a, c, hj, hsz, hp, hi, ha, ha2, hc, hc2, hps⟩
  unfold F22_l1
  have hgl := hp_lt hp
  have hil := hp_lt hi
  by_cases hlt : p < s.size
  · have hdd := decode_in s p hlt
    have hd1 := decode_pos s p
    rw [opK_next_more hi hlt]
    simp (disch := first | omega | (simp only [sz_alloc, sz_row, sz_obj]; done) | (simp only [sz_alloc, sz_row, sz_obj]; omega)) only [xcond_1, ext3_0, ext3_2]
    have hj3 := hJ _ _ _ _ hj (belowObj (Below.refl _ w') (show w.heap.size ≤ g + 1 by omega) (.stringIter s (p + (Utf8.decode s p).2)))
    have hp3 : (World.setObjAt w' (g + 1) (.stringIter s (p + (Utf8.decode s p).2))).heap[g]? = some (.cells #[.int .i64 a, .int .i64 c] 33) := (hp_objfar (by omega)).trans hp
    have hi3 : (World.setObjAt w' (g + 1) (.stringIter s (p + (Utf8.decode s p).2))).heap[g + 1]? = some (.stringIter s (p + (Utf8.decode s p).2)) := hp_obj rfl hil
    have hsz3 : w'.heap.size = (World.setObjAt w' (g + 1) (.stringIter s (p + (Utf8.decode s p).2))).heap.size := by simp only [sz_obj]
    generalize (World.setObjAt w' (g + 1) (.stringIter s (p + (Utf8.decode s p).2))) = w3 at hj3 hp3 hi3 hsz3
    refine o_load_33 ?_
    simp (disch := first | omega | (simp only [sz_alloc, sz_row, sz_obj]; done) | (simp only [sz_alloc, sz_row, sz_obj]; omega)) only [ldH_some, List.size_toArray, List.length_cons, List.length_nil, Nat.reduceAdd, Nat.le_refl, true_and, List.drop_zero, List.take_succ_cons, List.take_nil, Nat.zero_add, hp3]
    have hr := hround p (a, c) w3 hlt (by omega) hj3
    refine opY_mono hr ?_
    rintro v w6 ⟨ho, hv⟩
    have hp6 := (ho.2 g hg (hp_lt hp3)).trans hp3
    have hi6 := (ho.2 (g + 1) (by omega) (hp_lt hi3)).trans hi3
    have hsz6 := ho.1
    rcases hv with ⟨rfl, hj6⟩ | ⟨rfl, hd6⟩
    · simp (disch := first | omega | (simp only [sz_alloc, sz_row, sz_obj]; done) | (simp only [sz_alloc, sz_row, sz_obj]; omega)) only [opK_not, xcond_0, Bool.not_true]
      refine o_load_33 ?_
      simp (disch := first | omega | (simp only [sz_alloc, sz_row, sz_obj]; done) | (simp only [sz_alloc, sz_row, sz_obj]; omega)) only [ldH_some, List.size_toArray, List.length_cons, List.length_nil, Nat.reduceAdd, Nat.le_refl, true_and, List.drop_zero, List.take_succ_cons, List.take_nil, Nat.zero_add, hp6]
      refine o_call_23 (next_ok a c _ _ _ ha (by omega) hc (by omega) fun w4 he4 => ?_)
      have e : (if ((Utf8.decode s p).1 : Int) = 10 then place (a + 1) 1 else place a (c + 1)) = placeOf (nextP (a, c) (Utf8.decode s p).1) := by
        unfold nextP placeOf
        by_cases h : (Utf8.decode s p).1 = 10
        · rw [if_pos (by omega), if_pos h]
        · rw [if_neg (by omega), if_neg h]
      rw [e]
      have hj4 := hJ _ _ _ _ hj6 (Below.mono he4 (by omega))
      have hp4 := (he4.heap (hp_lt hp6)).trans hp6
      have hi4 := (he4.heap (hp_lt hi6)).trans hi6
      have hsz4 := he4.size
      have hq : 0 ≤ (nextP (a, c) (Utf8.decode s p).1).1 ∧ (nextP (a, c) (Utf8.decode s p).1).1 ≤ p + (Utf8.decode s p).2 + 1 ∧ 0 ≤ (nextP (a, c) (Utf8.decode s p).1).2 ∧ (nextP (a, c) (Utf8.decode s p).1).2 ≤ p + (Utf8.decode s p).2 + 1 := by
        unfold nextP
        split <;> simp only <;> omega
      clear e
      generalize nextP (a, c) (Utf8.decode s p).1 = q at hq hj4
      obtain ⟨a2, c2⟩ := q
      unfold placeOf place
      simp only at hq ⊢
      refine o_store_33 rfl ?_
      simp (disch := first | omega | (simp only [sz_alloc, sz_row, sz_obj]; done) | (simp only [sz_alloc, sz_row, sz_obj]; omega)) only [hp_row, hp_far, rowPut_some, sz_row, stH_some, spliced, cells_agg, List.size_toArray, List.length_cons, List.length_nil, Nat.reduceAdd, Nat.le_refl, true_and, List.drop_succ_cons, List.take_zero, List.drop_nil, List.nil_append, List.append_nil, List.all_cons, List.all_nil, Value.oneCell', Bool.and_self, Nat.zero_add, hp4]
      have hj5 := hJ _ _ _ _ hj4 (below_setRow (Below.refl _ w4) hg #[.int .i64 a2, .int .i64 c2])
      have hgl4 := hp_lt hp4
      have hp5 : (w4.setRow g #[.int .i64 a2, .int .i64 c2]).heap[g]? = some (.cells #[.int .i64 a2, .int .i64 c2] 33) := by simp (disch := first | omega | (simp only [sz_alloc, sz_row, sz_obj]; done) | (simp only [sz_alloc, sz_row, sz_obj]; omega)) only [hp_row, rowPut_some, hp4]
      have hi5 : (w4.setRow g #[.int .i64 a2, .int .i64 c2]).heap[g + 1]? = some (.stringIter s (p + (Utf8.decode s p).2)) := by simp (disch := first | omega | (simp only [sz_alloc, sz_row, sz_obj]; done) | (simp only [sz_alloc, sz_row, sz_obj]; omega)) only [hp_far, hi4]
      have hsz5 : w.heap.size ≤ (w4.setRow g #[.int .i64 a2, .int .i64 c2]).heap.size := by simp only [sz_row]; omega
      exact ⟨⟨_, a2, c2, hj5, by omega, rfl, hi4, by omega, by omega, by omega, by omega, hdd⟩, by rw [hi4, hi]; show s.size - _ < s.size - _; omega⟩
    · simp (disch := first | omega | (simp only [sz_alloc, sz_row, sz_obj]; done) | (simp only [sz_alloc, sz_row, sz_obj]; omega)) only [opK_not, xcond_1, Bool.not_false]
      exact hd _ hd6
  · obtain rfl : p = s.size := by omega
    rw [opK_next_over hi (by omega)]
    simp (disch := first | omega | (simp only [sz_alloc, sz_row, sz_obj]; done) | (simp only [sz_alloc, sz_row, sz_obj]; omega)) only [xcond_0, ext1_0]
    exact hn _ _ hj
end Go.Proofs.YtpdeflgmldomeaaDoor
