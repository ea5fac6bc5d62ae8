/- Folded again it is the same; forms, names, uses are kept; the law RewriteOnce. Plain, but for its end. -/
import Derived.Test.YtnhkdkcgdcgmdaaGreatDoorzRN7
import Derived.Test.YtnhkdkcgdcgmdaaGreatDoorzRQy
namespace Go.Proofs.YtnhkdkcgdcgmdaaGreatDoor
open Go.RowKit
set_option maxRecDepth 100000
set_option maxHeartbeats 2000000
theorem a5q : ∀ ts : List PT, formTs ts = true ↔ ∀ t ∈ ts, formT t = true
  | [] => by rw [formTs]; simp
  | t :: ts => by rw [formTs, Bool.and_eq_true, a5q ts]; simp
theorem U8 : ∀ ts : List PT, namesTs ts = true ↔ ∀ t ∈ ts, namesT t = true
  | [] => by rw [namesTs]; simp
  | t :: ts => by rw [namesTs, Bool.and_eq_true, U8 ts]; simp
theorem c1S : ∀ (ts : List PT) (x : Us), x ∈ uTs ts ↔ ∃ t ∈ ts, x ∈ uT t
  | [], x => by rw [uTs]; simp
  | t :: ts, x => by rw [uTs, List.mem_append, c1S ts]; simp
structure KeptN (t : PT) : Prop where
  form : formT t = true
  names : namesT t = true
  sm : Sm t
  fix : foldT t = t
theorem fixs {us : List PT} (h : ∀ t ∈ us, KeptN t) : us.map foldT = us := by
  induction us with
  | nil => rfl
  | cons t us ih => rw [List.map_cons, (h t List.mem_cons_self).fix, ih fun u hu => h u (List.mem_cons_of_mem _ hu)]
theorem c3V (k n : Int) (s : ByteArray) {us : List PT} (h : us.map foldT = us) : foldT (eN k n s us) = foldN k n s us := by
  unfold eN; rw [foldT, foldL, a3w, h]
theorem e8m (v : Int) : foldN 1 v ⟨#[]⟩ [] = plainT v := by
  unfold foldN eN
  rw [cst, if_pos rfl]
theorem e8n {v : Int} (h : o8 v) (hm : v ≠ -9223372036854775808) (hv : v < 0) : 0 ≤ IntKind.wrap .i64 (0 - v) ∧ IntKind.wrap .i64 (0 - IntKind.wrap .i64 (0 - v)) = v := by
  unfold o8 at h
  rw [a1H (a := 0 - v) ⟨by omega, by omega⟩, a1H (a := 0 - (0 - v)) ⟨by omega, by omega⟩]
  exact ⟨by omega, by omega⟩
theorem d4f {v : Int} (h : o8 v) (hv : 0 ≤ v) : KeptN (eN 1 v ⟨#[]⟩ []) := by
  refine ⟨?_, ?_, .mk ⟨(by decide : (⟨#[]⟩ : ByteArray).size ≤ sml), h⟩ (fun t ht => by cases ht), ?_⟩
  · unfold eN; rw [formT, formTs, Bool.and_true]
    show formE 1 v ⟨#[]⟩ 0 = true
    unfold formE
    simp [hv]
  · unfold eN; rw [namesT, namesTs, Bool.and_true]; rfl
  · rw [c3V _ _ _ rfl, e8m]
    unfold plainT; rw [if_neg (by omega)]
theorem e0H {v : Int} (h : o8 v) (hm : v ≠ -9223372036854775808) : KeptN (plainT v) := by
  by_cases hv : v < 0
  · obtain ⟨h1, h2⟩ := e8n h hm hv
    have kk := d4f (b5j (0 - v)) h1
    have e : plainT v = eN 5 0 ⟨#[]⟩ [eN 1 (IntKind.wrap .i64 (0 - v)) ⟨#[]⟩ []] := by unfold plainT; rw [if_pos hv]
    have ks : ∀ t ∈ [eN 1 (IntKind.wrap .i64 (0 - v)) ⟨#[]⟩ []], KeptN t := fun t ht => by rw [List.mem_singleton.1 ht]; exact kk
    refine ⟨?_, ?_, ?_, ?_⟩
    · rw [e, eN, formT, formTs, formTs, kk.form]; rfl
    · rw [e, eN, namesT, namesTs, namesTs, kk.names]; rfl
    · rw [e]; exact .mk ⟨(by decide : (⟨#[]⟩ : ByteArray).size ≤ sml), z64⟩ fun t ht => (ks t ht).sm
    · rw [e, c3V _ _ _ (fixs ks), ← e]
      have hc : cst (eN 5 0 ⟨#[]⟩ [eN 1 (IntKind.wrap .i64 (0 - v)) ⟨#[]⟩ []]) = some v := by
        unfold eN
        rw [cst, if_neg (by decide), if_pos rfl, kidC, if_pos rfl, h2]
      unfold foldN
      rw [hc]
  · have e : plainT v = eN 1 v ⟨#[]⟩ [] := by unfold plainT; rw [if_neg hv]
    rw [e]; exact d4f h (by omega)
theorem e0I (v : Int) : uT (plainT v) = [] := by
  unfold plainT eN
  split <;> simp [uT, uTs, useL]
def KeptR (l : Lab) (us : List PT) (r : PT) : Prop := KeptN r ∧ ∀ x ∈ uT r, x ∈ useL l ++ uTs us
theorem c8n {l : Lab} {us : List PT} {t : PT} (h : ∀ t ∈ us, KeptN t) (ht : t ∈ us) : KeptR l us t := ⟨h t ht, fun x hx => List.mem_append_right _ ((c1S _ _).2 ⟨t, ht, hx⟩)⟩
theorem e0J (k n : Int) (s : ByteArray) (us : List PT) : simpN k n s us = eN k n s us ∨ simpN k n s us ∈ us := by
  unfold simpN
  split
  · repeat' split
    all_goals simp
  · exact .inl rfl
theorem e3Q {r : Int × Int} {v : Int} (h : okR r = some v) : v ≠ -9223372036854775808 := by
  unfold okR at h
  split at h
  · rename_i hq; cases h; exact hq.2
  · cases h
theorem d5q {k : Int} {cs : List PT} {v : Int} (h : reck k cs = some v) : v ≠ -9223372036854775808 := by
  unfold reck at h
  split at h
  · split at h
    · obtain ⟨x, y, _, _, h3⟩ := b1l h; exact e3Q h3
    · cases h
  · split at h
    · obtain ⟨x, y, _, _, h3⟩ := b1l h; exact e3Q h3
    · cases h
  · cases h
theorem b8J {k n : Int} {s : ByteArray} {a : Nat} (h : formL (.expr k n s a) = true) (hk : k = 1) : 0 ≤ n := by
  have hF : formE k n s a = true := h
  subst hk
  unfold formE at hF
  split at hF
  · cases hF
  · simp at hF; exact hF.1
theorem d5r {k n : Int} {s : ByteArray} {a : Nat} {us : List PT} (hf : formL (.expr k n s us.length) = true) (hn : nameOk (.expr k n s us.length) = true) (hs : smL (.expr k n s us.length)) (hu : ∀ t ∈ us, KeptN t) (hau : ∀ t ∈ us, Ar t) : KeptR (.expr k n s a) us (foldN k n s us) := by
  have plain : ∀ {v : Int}, o8 v → v ≠ -9223372036854775808 → KeptR (.expr k n s a) us (plainT v) := fun h1 h2 => ⟨e0H h1 h2, fun x hx => by rw [e0I] at hx; cases hx⟩
  cases hc : cst (eN k n s us) with
  | some v =>
    have e : foldN k n s us = plainT v := by unfold foldN; rw [hc]
    rw [e]
    unfold eN at hc
    rw [cst] at hc
    split at hc
    · rename_i h1
      cases hc
      have := b8J hf h1
      exact plain hs.2 (by show n ≠ _; omega)
    · split at hc
      · unfold kidC at hc
        split at hc
        · rename_i k' n' s' a' cs' rest
          split at hc
          · rename_i h1
            cases hc
            have hk := hu (.mk (.expr k' n' s' a') cs') (by simp)
            have hf' := hk.form
            rw [formT, Bool.and_eq_true] at hf'
            have h0 := b8J hf'.1 h1
            have h6 : o8 n' := hk.sm.num.1
            refine plain (b5j _) ?_
            unfold o8 at h6
            rw [a1H ⟨by omega, by omega⟩]; omega
          · cases hc
        · cases hc
      · cases hc
  | none =>
    cases hr : reck k us with
    | some v =>
      have e : foldN k n s us = plainT v := by unfold foldN; rw [hc]; dsimp only; rw [hr]
      rw [e]
      exact plain (d6d hau hr) (d5q hr)
    | none =>
      have e : foldN k n s us = simpN k n s us := by unfold foldN; rw [hc]; dsimp only; rw [hr]
      rcases e0J k n s us with q | q
      · have e2 : foldN k n s us = eN k n s us := e.trans q
        rw [e2]
        refine ⟨⟨?_, ?_, .mk hs fun t ht => (hu t ht).sm, by rw [c3V _ _ _ (fixs hu), e2]⟩, fun x hx => ?_⟩
        · unfold eN; rw [formT, hf, (a5q us).2 fun t ht => (hu t ht).form]; rfl
        · unfold eN; rw [namesT, hn, (U8 us).2 fun t ht => (hu t ht).names]; rfl
        · unfold eN at hx; rw [uT] at hx; exact hx
      · rw [e]; exact c8n hu q
theorem e8o (b : Bool) : KeptN (truT b) := by
  refine ⟨by cases b <;> rfl, by cases b <;> rfl, .mk ⟨(by decide : (⟨#[]⟩ : ByteArray).size ≤ sml), z64⟩ (fun t ht => by cases ht), ?_⟩
  unfold truT
  rw [foldT, foldTs]
  cases b <;> rfl
theorem e8p (b : Bool) : uT (truT b) = [] := by unfold truT; rw [uT, uTs]; rfl
theorem c2r (k op : Int) (xs ps : List PT) : foldC k op xs ps = cN k op xs ps ∨ (∃ b, foldC k op xs ps = truT b) ∨ foldC k op xs ps ∈ ps := by
  have hj : ∀ (l d : Int), joinT l d (cN k op xs ps) ps = cN k op xs ps ∨ joinT l d (cN k op xs ps) ps ∈ ps := by
    intro l d
    unfold joinT
    split
    · repeat' split
      all_goals simp
    · exact .inl rfl
  unfold foldC
  repeat' split
  · unfold cmpT
    repeat' split
    all_goals first | exact .inr (.inl ⟨_, rfl⟩) | exact .inl rfl
  · unfold notT
    repeat' split
    all_goals first | exact .inr (.inl ⟨_, rfl⟩) | exact .inl rfl
  · exact (hj 1 2).elim .inl fun h => .inr (.inr h)
  · exact (hj 2 1).elim .inl fun h => .inr (.inr h)
  · exact .inl rfl
theorem d5s {k op : Int} {e p : Nat} {xs ps : List PT} (hf : formL (.cond k op xs.length ps.length) = true) (hu : ∀ t ∈ xs ++ ps, KeptN t) : KeptR (.cond k op e p) (xs ++ ps) (foldC k op xs ps) := by
  rcases c2r k op xs ps with q | ⟨b, q⟩ | q
  · rw [q]
    have h1 : xs.map foldT = xs := fixs fun t ht => hu t (List.mem_append_left _ ht)
    have h2 : ps.map foldT = ps := fixs fun t ht => hu t (List.mem_append_right _ ht)
    refine ⟨⟨?_, ?_, .mk ⟨(by decide : (⟨#[]⟩ : ByteArray).size ≤ sml), z64⟩ fun t ht => (hu t ht).sm, ?_⟩, fun x hx => ?_⟩
    · unfold cN; rw [formT, hf, (a5q _).2 fun t ht => (hu t ht).form]; rfl
    · unfold cN; rw [namesT, (U8 _).2 fun t ht => (hu t ht).names]; rfl
    · unfold cN; rw [a8p, h1, h2, q]; rfl
    · unfold cN at hx; rw [uT] at hx; exact hx
  · rw [q]; exact ⟨e8o b, fun x hx => by rw [e8p] at hx; cases hx⟩
  · exact c8n hu (List.mem_append_right _ q)
def KeptT (t r : PT) : Prop := KeptN r ∧ ∀ x ∈ uT r, x ∈ uT t
theorem b4z {f : PT → PT} {ts : List PT} (h : ∀ t ∈ ts, KeptT t (f t)) : (∀ u ∈ ts.map f, KeptN u) ∧ ∀ x ∈ uTs (ts.map f), x ∈ uTs ts := by
  refine ⟨fun u hu => ?_, fun x hx => ?_⟩
  · obtain ⟨t, ht, rfl⟩ := List.mem_map.1 hu; exact (h t ht).1
  · obtain ⟨u, hu, hxu⟩ := (c1S _ _).1 hx
    obtain ⟨t, ht, rfl⟩ := List.mem_map.1 hu
    exact (c1S _ _).2 ⟨t, ht, (h t ht).2 x hxu⟩
theorem keptE {t : PT} (ha : Ar t) : formT t = true → namesT t = true → Sm t → KeptT t (foldT t) := by
  induction ha with
  | @mk k n s a cs h1 h2 h3 ih =>
    intro hf hn hs
    rw [formT, Bool.and_eq_true] at hf
    rw [namesT, Bool.and_eq_true] at hn
    have hk := b4z (f := foldT) fun t ht => ih t ht (A8 hf.2 ht) ((U8 _).1 hn.2 t ht) (hs.num.2 t ht)
    rw [foldT, foldL, a3w]
    have hlen : (cs.map foldT).length = cs.length := List.length_map ..
    have hau : ∀ t ∈ cs.map foldT, Ar t := fun t ht => by obtain ⟨u, hu, rfl⟩ := List.mem_map.1 ht; exact a6r (h3 u hu)
    obtain ⟨h1, rfl⟩ := h1
    have hfa : formL (.expr k n s (cs.map foldT).length) = true := by rw [hlen]; exact hf.1
    have R := d5r (a := cs.length) hfa hn.1 (by cases hs with | mk q _ => exact q) hk.1 hau
    refine ⟨R.1, fun x hx => ?_⟩
    rw [uT]
    rcases List.mem_append.1 (R.2 x hx) with q | q
    · exact List.mem_append_left _ q
    · exact List.mem_append_right _ (hk.2 x q)
theorem keptC {t : PT} (ha : ArC t) : formT t = true → namesT t = true → Sm t → KeptT t (foldT t) := by
  induction ha with
  | @mk k op xs ps h1 h2 h3 ih =>
    intro hf hn hs
    rw [formT, Bool.and_eq_true] at hf
    rw [namesT, Bool.and_eq_true] at hn
    have m : ∀ t ∈ xs ++ ps, formT t = true ∧ namesT t = true ∧ Sm t := fun t ht => ⟨A8 hf.2 ht, (U8 _).1 hn.2 t ht, hs.num.2 t ht⟩
    have e1 := b4z (f := foldT) (ts := xs) fun t ht => keptE (h2 t ht) (m t (List.mem_append_left _ ht)).1 (m t (List.mem_append_left _ ht)).2.1 (m t (List.mem_append_left _ ht)).2.2
    have e2 := b4z (f := foldT) (ts := ps) fun t ht => ih t ht (m t (List.mem_append_right _ ht)).1 (m t (List.mem_append_right _ ht)).2.1 (m t (List.mem_append_right _ ht)).2.2
    rw [a8p]
    have R := d5s (k := k) (op := op) (e := xs.length) (p := ps.length) (xs := xs.map foldT) (ps := ps.map foldT) (by rw [List.length_map, List.length_map]; exact hf.1) fun t ht => (List.mem_append.1 ht).elim (e1.1 t) (e2.1 t)
    refine ⟨R.1, fun x hx => ?_⟩
    rw [uT]
    rcases List.mem_append.1 (R.2 x hx) with q | q
    · exact List.mem_append_left _ q
    · rw [a4C] at q
      refine List.mem_append_right _ ?_
      rw [a4C]
      exact List.mem_append.2 ((List.mem_append.1 q).elim (fun q => .inl (e1.2 x q)) fun q => .inr (e2.2 x q))
structure KeptS (rs : List PT) : Prop where
  form : ∀ r ∈ rs, formT r = true
  names : ∀ r ∈ rs, namesT r = true
  sm : ∀ r ∈ rs, Sm r
  fix : foldSs rs = rs
theorem KeptS.nil : KeptS [] := ⟨(fun r h => by cases h), (fun r h => by cases h), (fun r h => by cases h), rfl⟩
theorem KeptS.app {a b : List PT} (ha : KeptS a) (hb : KeptS b) : KeptS (a ++ b) :=
  ⟨fun r h => (List.mem_append.1 h).elim (ha.form r) (hb.form r), fun r h => (List.mem_append.1 h).elim (ha.names r) (hb.names r), fun r h => (List.mem_append.1 h).elim (ha.sm r) (hb.sm r), by rw [c5M, ha.fix, hb.fix]⟩
theorem keptSs {ts : List PT} (h : ∀ t ∈ ts, KeptS (foldA t) ∧ ∀ x ∈ uTs (foldA t), x ∈ uT t) : KeptS (foldSs ts) ∧ ∀ x ∈ uTs (foldSs ts), x ∈ uTs ts := by
  induction ts with
  | nil => exact ⟨KeptS.nil, fun x hx => hx⟩
  | cons t ts ih =>
    have h1 := h t List.mem_cons_self
    have h2 := ih fun u hu => h u (List.mem_cons_of_mem _ hu)
    have e : foldSs (t :: ts) = foldA t ++ foldSs ts := by unfold foldSs; rw [List.map_cons, List.flatten_cons]
    rw [e]
    refine ⟨h1.1.app h2.1, fun x hx => ?_⟩
    rw [a4C] at hx
    rw [uTs]
    exact List.mem_append.2 ((List.mem_append.1 hx).elim (fun q => .inl (h1.2 x q)) fun q => .inr (h2.2 x q))
theorem e0K {k : Int} {s : ByteArray} {e c t f t' f' : Nat} (h : formL (.stmt k s e c t f) = true) (ht : t = 0 → t' = 0) (hf : f = 0 → f' = 0) : formL (.stmt k s e c t' f') = true := by
  have h' : formS k s e c t f = true := h
  show formS k s e c t' f' = true
  unfold formS at h' ⊢
  have zz : (!decide (0 < (t : Int) + (f : Int))) = true → (!decide (0 < (t' : Int) + (f' : Int))) = true := by
    intro hq
    simp only [Bool.not_eq_true', decide_eq_false_iff_not] at hq ⊢
    have := ht (by omega); have := hf (by omega); omega
  by_cases k1 : k = 1
  · rw [if_pos k1, Bool.and_eq_true] at h' ⊢; exact ⟨zz h'.1, h'.2⟩
  · rw [if_neg k1] at h' ⊢
    by_cases k2 : k = 2
    · rw [if_pos k2, Bool.and_eq_true] at h' ⊢; exact ⟨zz h'.1, h'.2⟩
    · rw [if_neg k2] at h' ⊢
      by_cases k3 : k = 3
      · rw [if_pos k3] at h' ⊢; exact h'
      · rw [if_neg k3] at h' ⊢
        by_cases k4 : k = 4
        · rw [if_pos k4, Bool.and_eq_true, Bool.and_eq_true] at h' ⊢
          refine ⟨⟨h'.1.1, decide_eq_true ?_⟩, h'.2⟩
          have q := of_decide_eq_true h'.1.2
          have := hf (by omega); omega
        · rw [if_neg k4] at h' ⊢
          by_cases k5 : k = 5 ∨ k = 6
          · rw [if_pos k5, Bool.and_eq_true, Bool.and_eq_true] at h' ⊢; exact ⟨⟨h'.1.1, zz h'.1.2⟩, h'.2⟩
          · rw [if_neg k5] at h' ⊢
            by_cases k7 : k = 7
            · rw [if_pos k7, Bool.and_eq_true, Bool.and_eq_true] at h' ⊢; exact ⟨⟨h'.1.1, zz h'.1.2⟩, h'.2⟩
            · rw [if_neg k7] at h' ⊢; exact h'
theorem c6d {ts : List PT} (h : ts.length = 0) : (foldSs ts).length = 0 := by
  rw [List.length_eq_zero_iff.1 h]; rfl
theorem keptSt {t : PT} (ha : ArS t) : formT t = true → namesT t = true → Sm t → KeptS (foldA t) ∧ ∀ x ∈ uTs (foldA t), x ∈ uT t := by
  induction ha with
  | @mk k s ts us vs ws h1 h2 h3 h4 ih1 ih2 =>
    intro hf hn hs
    unfold sN at hf hn hs
    rw [formT, Bool.and_eq_true] at hf
    rw [namesT, Bool.and_eq_true] at hn
    have m : ∀ t ∈ us ++ (ts ++ (vs ++ ws)), formT t = true ∧ namesT t = true ∧ Sm t := fun t ht => ⟨A8 hf.2 ht, (U8 _).1 hn.2 t ht, hs.num.2 t ht⟩
    have e1 := b4z (f := foldT) (ts := us) fun t ht => by have q := m t (by simp [ht]); exact keptC (h2 t ht) q.1 q.2.1 q.2.2
    have e2 := b4z (f := foldT) (ts := ts) fun t ht => by have q := m t (by simp [ht]); exact keptE (h1 t ht) q.1 q.2.1 q.2.2
    have e3 := keptSs (ts := vs) fun t ht => by have q := m t (by simp [ht]); exact ih1 t ht q.1 q.2.1 q.2.2
    have e4 := keptSs (ts := ws) fun t ht => by have q := m t (by simp [ht]); exact ih2 t ht q.1 q.2.1 q.2.2
    have hu : uT (sN k s ts us vs ws) = useL (.stmt k s ts.length us.length vs.length ws.length) ++ (uTs us ++ (uTs ts ++ (uTs vs ++ uTs ws))) := by
      unfold sN; rw [uT, a4C, a4C, a4C]
    rw [hu, a8q]
    have hfix := fixs e1.1
    have hfix2 := fixs e2.1
    have hl1 : (us.map foldT).length = us.length := List.length_map ..
    have hl2 : (ts.map foldT).length = ts.length := List.length_map ..
    by_cases c1 : k = 7 ∨ (k = 6 ∧ asked 1 (us.map foldT) = true) ∨ (k = 4 ∧ asked 2 (us.map foldT) = true)
    · have e : ∀ vs' ws', foldStm k s (ts.map foldT) (us.map foldT) vs' ws' = [] := fun vs' ws' => by unfold foldStm; rw [if_pos c1]
      rw [e]; exact ⟨KeptS.nil, fun x hx => by cases hx⟩
    · by_cases c2 : k = 3 ∧ asked 1 (us.map foldT) = true
      · have e : ∀ vs' ws', foldStm k s (ts.map foldT) (us.map foldT) vs' ws' = vs' := fun vs' ws' => by unfold foldStm; rw [if_neg c1, if_pos c2]
        rw [e]; exact ⟨e3.1, fun x hx => by simp [e3.2 x hx]⟩
      · by_cases c3 : k = 3 ∧ asked 2 (us.map foldT) = true
        · have e : ∀ vs' ws', foldStm k s (ts.map foldT) (us.map foldT) vs' ws' = ws' := fun vs' ws' => by unfold foldStm; rw [if_neg c1, if_neg c2, if_pos c3]
          rw [e]; exact ⟨e4.1, fun x hx => by simp [e4.2 x hx]⟩
        · have e : ∀ vs' ws', foldStm k s (ts.map foldT) (us.map foldT) vs' ws' = [sN k s (ts.map foldT) (us.map foldT) vs' ws'] := fun vs' ws' => by unfold foldStm; rw [if_neg c1, if_neg c2, if_neg c3]
          rw [e]
          have hform := e0K (t' := (foldSs vs).length) (f' := (foldSs ws).length) hf.1 c6d c6d
          refine ⟨⟨fun r hr => ?_, fun r hr => ?_, fun r hr => ?_, ?_⟩, fun x hx => ?_⟩
          · rw [List.mem_singleton.1 hr]; unfold sN
            rw [formT, hl1, hl2, hform, a6S, a6S, a6S, (a5q _).2 fun t ht => (e1.1 t ht).form, (a5q _).2 fun t ht => (e2.1 t ht).form, (a5q _).2 e3.1.form, (a5q _).2 e4.1.form]; rfl
          · rw [List.mem_singleton.1 hr]; unfold sN
            have hno : nameOk (.stmt k s (ts.map foldT).length (us.map foldT).length (foldSs vs).length (foldSs ws).length) = true := hn.1
            rw [namesT, hno, a5G, a5G, a5G, (U8 _).2 fun t ht => (e1.1 t ht).names, (U8 _).2 fun t ht => (e2.1 t ht).names, (U8 _).2 e3.1.names, (U8 _).2 e4.1.names]; rfl
          · rw [List.mem_singleton.1 hr]
            refine .mk (by cases hs with | mk q _ => exact q) fun t ht => ?_
            rcases List.mem_append.1 ht with ht | ht
            · exact (e1.1 t ht).sm
            · rcases List.mem_append.1 ht with ht | ht
              · exact (e2.1 t ht).sm
              · exact (List.mem_append.1 ht).elim (e3.1.sm t) (e4.1.sm t)
          · rw [c5N, a8q, hfix, hfix2, e3.1.fix, e4.1.fix, e]
          · rw [uTs, uTs, List.append_nil] at hx
            unfold sN at hx
            rw [uT, a4C, a4C, a4C] at hx
            rcases List.mem_append.1 hx with q | q
            · exact List.mem_append_left _ q
            · refine List.mem_append_right _ ?_
              rcases List.mem_append.1 q with q | q
              · exact List.mem_append_left _ (e1.2 x q)
              · refine List.mem_append_right _ ?_
                rcases List.mem_append.1 q with q | q
                · exact List.mem_append_left _ (e2.2 x q)
                · exact List.mem_append_right _ (List.mem_append.2 ((List.mem_append.1 q).elim (fun q => .inl (e3.2 x q)) fun q => .inr (e4.2 x q)))
theorem keptP {q : PP} (ha : ∀ t ∈ q.body, ArS t ∧ formT t = true) (hsm : q.Sm) (h : toldS q.nodes = 0) : KeptS (foldSs q.body) ∧ (∀ x ∈ uTs (foldSs q.body), x ∈ uTs q.body) ∧ toldS q.fold.nodes = 0 ∧ q.fold.Sm ∧ q.fold.fold = q.fold := by
  have hi := (b4q _).1 h
  have hfew := e7L ha h
  have hnm := hi.2.2.2
  have hfm := hi.2.2.1
  unfold PP.nodes at hnm hfm
  rw [a5G, Bool.and_eq_true] at hnm
  rw [a6S, Bool.and_eq_true] at hfm
  have hk := keptSs fun t ht => keptSt (ha t ht).1 (ha t ht).2 ((U8 _).1 hnm.2 t ht) (hsm t (List.mem_append_right _ ht))
  refine ⟨hk.1, hk.2, (b4q _).2 ⟨by have := hfew.1; have := hfew.2.2; omega, hfew.2.1, ?_, ?_⟩, fun t ht => ?_, ?_⟩
  · unfold PP.nodes PP.fold
    rw [a6S, hfm.1, (a5q _).2 hk.1.form]; rfl
  · unfold PP.nodes PP.fold
    rw [a5G, hnm.1, (U8 _).2 hk.1.names]; rfl
  · exact (List.mem_append.1 ht).elim (fun q' => hsm t (List.mem_append_left _ q')) (hk.1.sm t)
  · show (⟨q.decls, foldSs (foldSs q.body)⟩ : PP) = ⟨q.decls, foldSs q.body⟩
    rw [hk.1.fix]
section
variable {H : Hp}
end
end Go.Proofs.YtnhkdkcgdcgmdaaGreatDoor
