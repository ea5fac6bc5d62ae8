/- The document's trees: whether two are the same; how many nodes, how deep. Contracts off the printed formulas. -/
import Derived.Test.YtnhkdkcgdcgmdaaDoorzRQ1
namespace Go.Proofs.YtnhkdkcgdcgmdaaDoor
open Go.RowKit
set_option maxRecDepth 100000
set_option maxHeartbeats 2000000
section
variable {H : Hp}
theorem b8T {ts us : List PT} (hl : ts.length = us.length) (hb : ts.length ≤ big) {Fin : Prop} {body : Int → Hp → (Int → Hp → Prop) → Prop}
    (h : ∀ (i : Int) (next : Int → Hp → Prop), 0 ≤ i → i ≤ ts.length → (∀ (t u : PT), ts[i.toNat]? = some t → us[i.toNat]? = some u → eqT t u = true → next (i + 1) H) → (¬ i < ts.length → eqTs ts us = true) → body i H next) : TL (0 : Int) H body := by
  refine a1Q (fun (i : Int) H' => 0 ≤ i ∧ i ≤ ts.length ∧ H' = H ∧ ∀ (j : Nat) (t u : PT), (j : Int) < i → ts[j]? = some t → us[j]? = some u → eqT t u = true) (fun i => (ts.length - i).toNat) ⟨by omega, by omega, rfl, fun j t u hj => by omega⟩ ?_
  rintro i H1 next ⟨i0, i1, rfl, hi⟩ hn
  refine h i next i0 i1 (fun t u ht hu he => ?_) fun hc => e2J hl fun j t u ht hu => hi j t u (by have := J4 ht; omega) ht hu
  have := J4 ht
  refine hn _ _ ⟨by omega, by omega, rfl, fun j t' u' hj ht' hu' => ?_⟩ (by omega)
  by_cases ej : j = i.toNat
  · subst ej
    rw [ht] at ht'; cases ht'
    rw [hu] at hu'; cases hu'
    exact he
  · exact hi j t' u' (by omega) ht' hu'
theorem b8U {e e' : a7} {t t' : PT} (he : EH H e t) (he' : EH H e' t') {K : Bool → Hp → Prop} (h : K (eqT t t') H) : E4 e e' H K := by
  induction he generalizing e' t' K with
  | @mk e xs ts hs hb hl _ ih =>
    cases he' with
    | @mk _ xs' ts' hs' hb' hl' hr' =>
      refine b0e _ _ ?_
      unfold V1
      have n1 := hs.1; have n2 := hs'.1
      rw [e2K] at h
      refine ⟨fun hc => ?_, fun hc => ?_⟩
      · have : (decide (e.b9 = e'.b9) && decide (e.g9 = e'.g9) && decide (e.g1 = e'.g1) && eqTs ts ts') = false := by
          by_cases hq : ts.length = ts'.length
          · have hq' : decide ((e.d8.n : Int) = (e'.d8.n : Int)) = true := decide_eq_true (by omega)
            rw [hq'] at hc
            generalize decide (e.b9 = e'.b9) = a at hc ⊢
            generalize decide (e.g9 = e'.g9) = b at hc ⊢
            generalize decide (e.g1 = e'.g1) = c at hc ⊢
            cases a <;> cases b <;> cases c <;> first | rfl | cases hc
          · rw [c2a hq, Bool.and_false]
        rw [this] at h; exact h
      · simp only [Bool.or_eq_false_iff, Bool.not_eq_false', decide_eq_true_eq] at hc
        obtain ⟨⟨⟨h1, h2⟩, h3⟩, h4⟩ := hc
        rw [decide_eq_true h1, decide_eq_true h2, decide_eq_true h3, Bool.true_and, Bool.true_and, Bool.true_and] at h
        refine b8T (ts := ts) (us := ts') (by omega) (by omega) (Fin := True) fun i next i0 i1 hn hf => ?_
        unfold Q9
        refine ⟨fun hc => ?_, fun hc => ?_⟩
        · obtain ⟨x, hx, hE⟩ := hs.get i0 hc
          obtain ⟨y, hy, hF⟩ := hs'.get i0 (show i < (e'.d8.n : Int) by omega)
          obtain ⟨t, ht⟩ := R3 (l := ts) (i := i.toNat) (by omega)
          obtain ⟨u, hu⟩ := R3 (l := ts') (i := i.toNat) (by omega)
          refine ⟨i0, hc, x, hE, i0, by omega, y, hF, ih _ x t hx ht (hr' _ y u hy hu) ⟨fun hq => ?_, fun hq => ?_⟩⟩
          · rw [c5t ht hu (by simpa using hq)] at h; exact h
          · rw [K3 i0 (by simp only [big] at hb; omega)]
            exact hn t u ht hu (by simpa using hq)
        · rw [hf (by omega)] at h
          unfold Q8; exact h
theorem c9L {e e' : d5} {t t' : PT} (he : CH H e t) (he' : CH H e' t') {K : Bool → Hp → Prop} (h : K (eqT t t') H) : C5 e e' H K := by
  induction he generalizing e' t' K with
  | @mk e xs ts ys us hs hb hr hc hcb hcl _ ih =>
    cases he' with
    | @mk _ xs' ts' ys' us' hs' hb' hr' hc' hcb' hcl' hcr' =>
      refine b0b _ _ ?_
      unfold U9
      have n1 := hs.1; have n2 := hs'.1; have n3 := hc.1; have n4 := hc'.1; have r1 := hr.1; have r2 := hr'.1
      rw [e2L] at h
      refine ⟨fun hq0 => ?_, fun hq0 => ?_⟩
      · have : (decide (e.b9 = e'.b9) && decide (e.fOp = e'.fOp) && eqTs ts ts' && eqTs us us') = false := by
          by_cases hq : ts.length = ts'.length
          · by_cases hq2 : us.length = us'.length
            · have hq' : decide ((e.g5.n : Int) = (e'.g5.n : Int)) = true := decide_eq_true (by omega)
              have hq2' : decide ((e.i7.n : Int) = (e'.i7.n : Int)) = true := decide_eq_true (by omega)
              rw [hq', hq2'] at hq0
              generalize decide (e.b9 = e'.b9) = a at hq0 ⊢
              generalize decide (e.fOp = e'.fOp) = b at hq0 ⊢
              cases a <;> cases b <;> first | rfl | cases hq0
            · rw [c2a hq2, Bool.and_false]
          · rw [c2a hq, Bool.and_false, Bool.false_and]
        rw [this] at h; exact h
      · simp only [Bool.or_eq_false_iff, Bool.not_eq_false', decide_eq_true_eq] at hq0
        obtain ⟨⟨⟨h1, h2⟩, h3⟩, h4⟩ := hq0
        rw [decide_eq_true h1, decide_eq_true h2, Bool.true_and, Bool.true_and] at h
        refine b8T (ts := ts) (us := ts') (by omega) (by omega) (Fin := True) fun i next i0 i1 hn hf => ?_
        unfold Q4
        refine ⟨fun hlt => ?_, fun hlt => ?_⟩
        · obtain ⟨x, hx, hE⟩ := hs.get i0 hlt
          obtain ⟨y, hy, hF⟩ := hs'.get i0 (show i < (e'.g5.n : Int) by omega)
          obtain ⟨t, ht⟩ := R3 (l := ts) (i := i.toNat) (by omega)
          obtain ⟨u, hu⟩ := R3 (l := ts') (i := i.toNat) (by omega)
          refine ⟨i0, hlt, x, hE, i0, by omega, y, hF, b8U (hr.2 _ x t hx ht) (hr'.2 _ y u hy hu) ⟨fun hq => ?_, fun hq => ?_⟩⟩
          · rw [c5t ht hu (by simpa using hq), Bool.false_and] at h; exact h
          · rw [K3 i0 (by simp only [big] at hb; omega)]
            exact hn t u ht hu (by simpa using hq)
        · rw [hf (by omega), Bool.true_and] at h
          clear hn hf next
          unfold Q3
          refine b8T (ts := us) (us := us') (by omega) (by omega) (Fin := True) fun i next i0 i1 hn hf => ?_
          unfold Q2
          refine ⟨fun hlt => ?_, fun hlt => ?_⟩
          · obtain ⟨x, hx, hE⟩ := hc.get i0 hlt
            obtain ⟨y, hy, hF⟩ := hc'.get i0 (show i < (e'.i7.n : Int) by omega)
            obtain ⟨t, ht⟩ := R3 (l := us) (i := i.toNat) (by omega)
            obtain ⟨u, hu⟩ := R3 (l := us') (i := i.toNat) (by omega)
            refine ⟨i0, hlt, x, hE, i0, by omega, y, hF, ih _ x t hx ht (hcr' _ y u hy hu) ⟨fun hq => ?_, fun hq => ?_⟩⟩
            · rw [c5t ht hu (by simpa using hq)] at h; exact h
            · rw [K3 i0 (by simp only [big] at hcb; omega)]
              exact hn t u ht hu (by simpa using hq)
          · rw [hf (by omega)] at h
            unfold Q1; exact h
abbrev W := g6
def wStep (s : W) (d : Int) : W := if s.fbad = 0 then (if s.fn = 4096 then ⟨s.fn, s.fdepth, 33⟩ else if 64 < d then ⟨s.fn, s.fdepth, 32⟩ else ⟨s.fn + 1, if d > s.fdepth then d else s.fdepth, 0⟩) else s
mutual
def wT : PT → Int → W → W
  | .mk _ cs, d, s => wTs cs (d + 1) (wStep s d)
def wTs : List PT → Int → W → W
  | [], _, s => s
  | t :: ts, d, s => wTs ts d (wT t d s)
end
def wok (s : W) : Prop := 0 ≤ s.fn ∧ s.fn ≤ 4096
theorem c2b {s : W} {d : Int} (h : wok s) : wok (wStep s d) := by
  unfold wStep
  repeat' split
  all_goals first | exact h | (unfold wok at h ⊢; dsimp only; omega)
mutual
theorem g9i : ∀ (t : PT) (d : Int) (s : W), wok s → wok (wT t d s)
  | .mk _ cs, d, s, h => by rw [wT]; exact c9M cs _ _ (c2b h)
theorem c9M : ∀ (ts : List PT) (d : Int) (s : W), wok s → wok (wTs ts d s)
  | [], _, s, h => by rw [wTs]; exact h
  | t :: ts, d, s, h => by rw [wTs]; exact c9M ts d _ (g9i t d s h)
end
mutual
theorem g0c : ∀ (t : PT) (d : Int) (s : W), s.fbad ≠ 0 → wT t d s = s
  | .mk _ cs, d, s, h => by
    have : wStep s d = s := by unfold wStep; rw [if_neg h]
    rw [wT, this]; exact b0f cs _ _ h
theorem b0f : ∀ (ts : List PT) (d : Int) (s : W), s.fbad ≠ 0 → wTs ts d s = s
  | [], _, s, h => by rw [wTs]
  | t :: ts, d, s, h => by rw [wTs, g0c t d s h]; exact b0f ts d s h
end
theorem b9M : ∀ (a b : List PT) (d : Int) (s : W), wTs (a ++ b) d s = wTs b d (wTs a d s)
  | [], b, d, s => by rw [List.nil_append, wTs]
  | t :: a, b, d, s => by rw [List.cons_append, wTs, wTs, b9M a b]
theorem g0d {ts : List PT} {i : Nat} {t : PT} (h : ts[i]? = some t) (d : Int) (s : W) : wTs (ts.take (i + 1)) d s = wT t d (wTs (ts.take i) d s) := by
  rw [N9 h, b9M, wTs, wTs]
theorem e9B {ts : List PT} {i : Nat} {d : Int} {s : W} (h : ts.length ≤ i ∨ (wTs (ts.take i) d s).fbad ≠ 0) : wTs (ts.take i) d s = wTs ts d s := by
  rcases h with h | h
  · rw [List.take_of_length_le h]
  · have := b9M (ts.take i) (ts.drop i) d s
    rw [List.take_append_drop, b0f _ _ _ h] at this
    exact this.symm
theorem d2B {s : W} {d : Int} (hs : wok s) {K : Bool → W → Hp → Prop} (h : K (decide ((wStep s d).fbad = 0)) (wStep s d) H) : S6 s d H K := by
  refine a9u _ _ ?_
  unfold T3
  unfold wok at hs
  unfold wStep at h
  refine ⟨fun hb => ?_, fun hb => ⟨fun h4 => ?_, fun h4 => ⟨fun h5 => ?_, fun h5 => ?_⟩⟩⟩
  · rw [if_neg hb, decide_eq_false hb] at h; exact h
  · rw [if_pos hb, if_pos h4] at h; exact h
  · rw [if_pos hb, if_neg h4, if_pos h5] at h; exact h
  · rw [if_pos hb, if_neg h4, if_neg h5] at h
    rw [K3 (by omega) (by omega), hb]; exact h
theorem d2C {s : W} {d : Int} (h : (wStep s d).fbad = 0) : d ≤ 64 := by
  unfold wStep at h
  split at h
  · split at h
    · cases h
    · split at h
      · cases h
      · omega
  · rename_i hb; exact (hb h).elim
theorem wloop {ts : List PT} {d : Int} {s1 : W} (ok1 : wok s1) {body : Int × W → Hp → (Int × W → Hp → Prop) → Prop}
    (hb : ∀ (i : Int) (s : W) (next : Int × W → Hp → Prop), 0 ≤ i → i ≤ ts.length → wok s → (∀ t, ts[i.toNat]? = some t → next (i + 1, wT t d s) H) → ((ts.length ≤ i ∨ s.fbad ≠ 0) → s = wTs ts d s1) → body (i, s) H next) : TL ((0, s1) : Int × W) H body := by
  refine a1Q (fun (q : Int × W) H' => 0 ≤ q.1 ∧ q.1 ≤ ts.length ∧ H' = H ∧ q.2 = wTs (ts.take q.1.toNat) d s1) (fun q => (ts.length - q.1).toNat) ⟨Int.le_refl _, by simp, rfl, by simp [wTs]⟩ ?_
  rintro ⟨i, s⟩ H1 next ⟨i0, i1, rfl, hs⟩ hn
  dsimp only at i0 i1 hs ⊢
  subst hs
  refine hb i _ next i0 i1 (c9M _ _ _ ok1) (fun t ht => ?_) fun he => e9B (by omega)
  have := J4 ht
  refine hn _ _ ⟨by show 0 ≤ i + 1; omega, by show i + 1 ≤ _; omega, rfl, ?_⟩ (by show (ts.length - (i + 1)).toNat < (ts.length - i).toNat; omega)
  show wT t d _ = wTs (ts.take (i + 1).toNat) d s1
  rw [show (i + 1).toNat = i.toNat + 1 by omega, g0d ht]
theorem c9N {i n : Int} {b : Int} : (decide (i < n) && decide (b = 0)) = decide (i < n ∧ b = 0) := by rw [Bool.eq_iff_iff]; simp
theorem b8V {e : a7} {t : PT} (he : EH H e t) {s : W} {d : Int} (hs : wok s) (d0 : 0 ≤ d) (d1 : d ≤ 65) {K : W → Hp → Prop} (h : K (wT t d s) H) : M0 s e d H K := by
  induction he generalizing s d K with
  | @mk e xs ts hsl hb hl _ ih =>
    refine a9v _ _ _ ?_
    unfold T4
    rw [wT] at h
    refine d2B hs ⟨fun hq => ?_, fun hq => ?_⟩
    · rw [b0f _ _ _ (by simpa using hq)] at h; exact h
    have hq' : (wStep s d).fbad = 0 := by simpa using hq
    have d64 := d2C hq'
    have ok1 := c2b (d := d) hs
    refine wloop (ts := ts) (d := d + 1) ok1 fun i s' next i0 i1 hok hn hf => ?_
    unfold O5
    rw [c9N]
    refine ⟨fun hc => ?_, fun hc => ?_⟩
    · have hc' := of_decide_eq_true hc
      dsimp only at hc'
      obtain ⟨x, hx, hE⟩ := hsl.get i0 hc'.1
      obtain ⟨t, ht⟩ := R3 (l := ts) (i := i.toNat) (by have := J4 hx; omega)
      refine ⟨i0, hc'.1, x, hE, ?_⟩
      rw [K3 (show 0 ≤ d by omega) (by omega), K3 i0 (by simp only [big] at hb; have := J4 hx; omega)]
      exact ih _ x t hx ht hok (by omega) (by omega) (hn t ht)
    · have hc' := of_decide_eq_false hc
      dsimp only at hc'
      have hfin := hf (by have := hsl.1; omega)
      rw [hfin]; exact h
theorem c9O {e : d5} {t : PT} (he : CH H e t) {s : W} {d : Int} (hs : wok s) (d0 : 0 ≤ d) (d1 : d ≤ 65) {K : W → Hp → Prop} (h : K (wT t d s) H) : S8 s e d H K := by
  induction he generalizing s d K with
  | @mk e xs ts ys us hsl hb hr hcl hcb hcl' _ ih =>
    refine a9t _ _ _ ?_
    unfold T1
    rw [wT] at h
    refine d2B hs ⟨fun hq => ?_, fun hq => ?_⟩
    · rw [b0f _ _ _ (by simpa using hq)] at h; exact h
    have hq' : (wStep s d).fbad = 0 := by simpa using hq
    have d64 := d2C hq'
    rw [b9M] at h
    have ok1 := c2b (d := d) hs
    refine wloop (ts := ts) (d := d + 1) ok1 fun i s' next i0 i1 hok hn hf => ?_
    unfold O3
    rw [c9N]
    refine ⟨fun hc => ?_, fun hc => ?_⟩
    · have hc' := of_decide_eq_true hc
      dsimp only at hc'
      obtain ⟨x, hx, hE⟩ := hsl.get i0 hc'.1
      obtain ⟨t, ht⟩ := R3 (l := ts) (i := i.toNat) (by have := J4 hx; have := hr.1; omega)
      refine ⟨i0, hc'.1, x, hE, ?_⟩
      rw [K3 (show 0 ≤ d by omega) (by omega), K3 i0 (by simp only [big] at hb; have := J4 hx; omega)]
      exact b8V (hr.2 _ x t hx ht) hok (by omega) (by omega) (hn t ht)
    · have hc' := of_decide_eq_false hc
      dsimp only at hc'
      have hfin := hf (by have := hsl.1; have := hr.1; omega)
      clear hn hf next
      rw [← hfin] at h
      clear hfin hc'
      unfold O2
      refine wloop (ts := us) (d := d + 1) hok fun i s' next i0 i1 hok hn hf => ?_
      unfold O1
      rw [c9N]
      refine ⟨fun hc => ?_, fun hc => ?_⟩
      · have hc' := of_decide_eq_true hc
        dsimp only at hc'
        obtain ⟨x, hx, hE⟩ := hcl.get i0 hc'.1
        obtain ⟨t, ht⟩ := R3 (l := us) (i := i.toNat) (by have := J4 hx; omega)
        refine ⟨i0, hc'.1, x, hE, ?_⟩
        rw [K3 (show 0 ≤ d by omega) (by omega), K3 i0 (by simp only [big] at hcb; have := J4 hx; omega)]
        exact ih _ x t hx ht hok (by omega) (by omega) (hn t ht)
      · have hc' := of_decide_eq_false hc
        dsimp only at hc'
        have hfin := hf (by have := hcl.1; omega)
        rw [hfin]; exact h
def dT (d : b0y) : PT := .mk (.decl d.a5W d.g1) []
def PP.nodes (q : PP) : List PT := q.decls.map dT ++ q.body
def w0S : W := ⟨0, 0, 0⟩
end
end Go.Proofs.YtnhkdkcgdcgmdaaDoor
