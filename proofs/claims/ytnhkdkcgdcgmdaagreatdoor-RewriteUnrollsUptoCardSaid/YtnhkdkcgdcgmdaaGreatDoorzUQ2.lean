/- The document's trees: whether two are the same; how many nodes, how deep. Contracts off the printed formulas. -/
import Derived.Test.YtnhkdkcgdcgmdaaGreatDoorzUQ1
namespace Go.Proofs.YtnhkdkcgdcgmdaaGreatDoor
open Go.RowKit
set_option maxRecDepth 100000
set_option maxHeartbeats 2000000
section
variable {H : Hp}
theorem b3R {ts us : List PT} (hl : ts.length = us.length) (hb : ts.length ≤ big) {Fin : Prop} {body : Int → Hp → (Int → Hp → Prop) → Prop}
    (h : ∀ (i : Int) (next : Int → Hp → Prop), 0 ≤ i → i ≤ ts.length → (∀ (t u : PT), ts[i.toNat]? = some t → us[i.toNat]? = some u → eqT t u = true → next (i + 1) H) → (¬ i < ts.length → eqTs ts us = true) → body i H next) : TL (0 : Int) H body := by
  refine U4 (fun (i : Int) H' => 0 ≤ i ∧ i ≤ ts.length ∧ H' = H ∧ ∀ (j : Nat) (t u : PT), (j : Int) < i → ts[j]? = some t → us[j]? = some u → eqT t u = true) (fun i => (ts.length - i).toNat) ⟨by omega, by omega, rfl, fun j t u hj => by omega⟩ ?_
  rintro i H1 next ⟨i0, i1, rfl, hi⟩ hn
  refine h i next i0 i1 (fun t u ht hu he => ?_) fun hc => f5f hl fun j t u ht hu => hi j t u (by have := C1 ht; omega) ht hu
  have := C1 ht
  refine hn _ _ ⟨by omega, by omega, rfl, fun j t' u' hj ht' hu' => ?_⟩ (by omega)
  by_cases ej : j = i.toNat
  · subst ej
    rw [ht] at ht'; cases ht'
    rw [hu] at hu'; cases hu'
    exact he
  · exact hi j t' u' (by omega) ht' hu'
theorem c6a {e e' : a8} {t t' : PT} (he : EH H e t) (he' : EH H e' t') {K : Bool → Hp → Prop} (h : K (eqT t t') H) : a0e e e' H K := by
  induction he generalizing e' t' K with
  | @mk e xs ts hs hb hl _ ih =>
    cases he' with
    | @mk _ xs' ts' hs' hb' hl' hr' =>
      refine b5S _ _ ?_
      unfold a3k
      have n1 := hs.1; have n2 := hs'.1
      rw [f5g] at h
      refine ⟨fun hc => ?_, fun hc => ?_⟩
      · have : (decide (e.b6 = e'.b6) && decide (e.o6 = e'.o6) && decide (e.f6 = e'.f6) && eqTs ts ts') = false := by
          by_cases hq : ts.length = ts'.length
          · have hq' : decide ((e.k9.n : Int) = (e'.k9.n : Int)) = true := decide_eq_true (by omega)
            rw [hq'] at hc
            generalize decide (e.b6 = e'.b6) = a at hc ⊢
            generalize decide (e.o6 = e'.o6) = b at hc ⊢
            generalize decide (e.f6 = e'.f6) = c at hc ⊢
            cases a <;> cases b <;> cases c <;> first | rfl | cases hc
          · rw [b5V hq, Bool.and_false]
        rw [this] at h; exact h
      · simp only [Bool.or_eq_false_iff, Bool.not_eq_false', decide_eq_true_eq] at hc
        obtain ⟨⟨⟨h1, h2⟩, h3⟩, h4⟩ := hc
        rw [decide_eq_true h1, decide_eq_true h2, decide_eq_true h3, Bool.true_and, Bool.true_and, Bool.true_and] at h
        refine b3R (ts := ts) (us := ts') (by omega) (by omega) (Fin := True) fun i next i0 i1 hn hf => ?_
        unfold a1B
        refine ⟨fun hc => ?_, fun hc => ?_⟩
        · obtain ⟨x, hx, hE⟩ := hs.get i0 hc
          obtain ⟨y, hy, hF⟩ := hs'.get i0 (show i < (e'.k9.n : Int) by omega)
          obtain ⟨t, ht⟩ := D9 (l := ts) (i := i.toNat) (by omega)
          obtain ⟨u, hu⟩ := D9 (l := ts') (i := i.toNat) (by omega)
          refine ⟨i0, hc, x, hE, i0, by omega, y, hF, ih _ x t hx ht (hr' _ y u hy hu) ⟨fun hq => ?_, fun hq => ?_⟩⟩
          · rw [b8f ht hu (by simpa using hq)] at h; exact h
          · rw [B5 i0 (by simp only [big] at hb; omega)]
            exact hn t u ht hu (by simpa using hq)
        · rw [hf (by omega)] at h
          unfold a1A; exact h
theorem d8V {e e' : b7} {t t' : PT} (he : CH H e t) (he' : CH H e' t') {K : Bool → Hp → Prop} (h : K (eqT t t') H) : a3g e e' H K := by
  induction he generalizing e' t' K with
  | @mk e xs ts ys us hs hb hr hc hcb hcl _ ih =>
    cases he' with
    | @mk _ xs' ts' ys' us' hs' hb' hr' hc' hcb' hcl' hcr' =>
      refine b5T _ _ ?_
      unfold a3l
      have n1 := hs.1; have n2 := hs'.1; have n3 := hc.1; have n4 := hc'.1; have r1 := hr.1; have r2 := hr'.1
      rw [f5h] at h
      refine ⟨fun hq0 => ?_, fun hq0 => ?_⟩
      · have : (decide (e.b6 = e'.b6) && decide (e.fOp = e'.fOp) && eqTs ts ts' && eqTs us us') = false := by
          by_cases hq : ts.length = ts'.length
          · by_cases hq2 : us.length = us'.length
            · have hq' : decide ((e.f5.n : Int) = (e'.f5.n : Int)) = true := decide_eq_true (by omega)
              have hq2' : decide ((e.o3.n : Int) = (e'.o3.n : Int)) = true := decide_eq_true (by omega)
              rw [hq', hq2'] at hq0
              generalize decide (e.b6 = e'.b6) = a at hq0 ⊢
              generalize decide (e.fOp = e'.fOp) = b at hq0 ⊢
              cases a <;> cases b <;> first | rfl | cases hq0
            · rw [b5V hq2, Bool.and_false]
          · rw [b5V hq, Bool.and_false, Bool.false_and]
        rw [this] at h; exact h
      · simp only [Bool.or_eq_false_iff, Bool.not_eq_false', decide_eq_true_eq] at hq0
        obtain ⟨⟨⟨h1, h2⟩, h3⟩, h4⟩ := hq0
        rw [decide_eq_true h1, decide_eq_true h2, Bool.true_and, Bool.true_and] at h
        refine b3R (ts := ts) (us := ts') (by omega) (by omega) (Fin := True) fun i next i0 i1 hn hf => ?_
        unfold a1F
        refine ⟨fun hlt => ?_, fun hlt => ?_⟩
        · obtain ⟨x, hx, hE⟩ := hs.get i0 hlt
          obtain ⟨y, hy, hF⟩ := hs'.get i0 (show i < (e'.f5.n : Int) by omega)
          obtain ⟨t, ht⟩ := D9 (l := ts) (i := i.toNat) (by omega)
          obtain ⟨u, hu⟩ := D9 (l := ts') (i := i.toNat) (by omega)
          refine ⟨i0, hlt, x, hE, i0, by omega, y, hF, c6a (hr.2 _ x t hx ht) (hr'.2 _ y u hy hu) ⟨fun hq => ?_, fun hq => ?_⟩⟩
          · rw [b8f ht hu (by simpa using hq), Bool.false_and] at h; exact h
          · rw [B5 i0 (by simp only [big] at hb; omega)]
            exact hn t u ht hu (by simpa using hq)
        · rw [hf (by omega), Bool.true_and] at h
          clear hn hf next
          unfold a1E
          refine b3R (ts := us) (us := us') (by omega) (by omega) (Fin := True) fun i next i0 i1 hn hf => ?_
          unfold a1D
          refine ⟨fun hlt => ?_, fun hlt => ?_⟩
          · obtain ⟨x, hx, hE⟩ := hc.get i0 hlt
            obtain ⟨y, hy, hF⟩ := hc'.get i0 (show i < (e'.o3.n : Int) by omega)
            obtain ⟨t, ht⟩ := D9 (l := us) (i := i.toNat) (by omega)
            obtain ⟨u, hu⟩ := D9 (l := us') (i := i.toNat) (by omega)
            refine ⟨i0, hlt, x, hE, i0, by omega, y, hF, ih _ x t hx ht (hcr' _ y u hy hu) ⟨fun hq => ?_, fun hq => ?_⟩⟩
            · rw [b8f ht hu (by simpa using hq)] at h; exact h
            · rw [B5 i0 (by simp only [big] at hcb; omega)]
              exact hn t u ht hu (by simpa using hq)
          · rw [hf (by omega)] at h
            unfold a1C; exact h
def StepP (H : Hp) (x : d6) (t : PT) : Prop := ∀ (y : d6) (u : PT), SH H y u → ∀ (s0 s1 : Sl) (i : Int) (n2 : Int → Hp → Prop) (K : Bool → Hp → Prop), (eqT t u = true → n2 (IntKind.wrap .i64 (i + 1)) H) → (eqT t u = false → K false H) → U2 s0 s1 i y x H n2 K
theorem b7k {sx sy : Sl} {xs ys : List d6} {ts us : List PT} (hx : SlH H 6 d9 sx xs) (hy : SlH H 6 d9 sy ys) (hb : xs.length ≤ big) (hl : xs.length = ts.length) (hl' : ys.length = us.length)
    (hr' : ∀ (i : Nat) (y : d6) (u : PT), ys[i]? = some y → us[i]? = some u → SH H y u) (ih : ∀ (i : Nat) (x : d6) (t : PT), xs[i]? = some x → ts[i]? = some t → StepP H x t) {K : Bool → Hp → Prop} (h : K (eqTs ts us) H) : M3 sx sy H K := by
  refine b5d _ _ ?_
  unfold a2y
  have n1 := hx.1; have n2 := hy.1
  refine ⟨fun hne => by rw [b5V (by omega)] at h; exact h, fun he => ?_⟩
  refine b3R (ts := ts) (us := us) (by omega) (by omega) (Fin := True) fun i next i0 i1 hn hf => ?_
  unfold a0M
  refine ⟨fun hlt => ?_, fun hlt => ?_⟩
  · obtain ⟨x, hxi, hE⟩ := hx.get i0 hlt
    obtain ⟨y, hyi, hF⟩ := hy.get i0 (show i < (sy.n : Int) by omega)
    obtain ⟨t, ht⟩ := D9 (l := ts) (i := i.toNat) (by omega)
    obtain ⟨u, hu⟩ := D9 (l := us) (i := i.toNat) (by omega)
    refine ⟨i0, hlt, x, hE, i0, by omega, y, hF, ih _ x t hxi ht y u (hr' _ y u hyi hu) _ _ _ _ _ (fun hq => ?_) fun hq => ?_⟩
    · rw [B5 i0 (by simp only [big] at hb; omega)]
      exact hn t u ht hu hq
    · rw [b8f ht hu hq] at h; exact h
  · rw [hf (by omega)] at h
    unfold a0L; exact h
theorem step_ok {x : d6} {t : PT} (hx : SH H x t) : StepP H x t := by
  induction hx with
  | @mk e xs ts ys us zs bs vs ws hs hb hr hc hcb hcr ha hab hal _ hbs hbb hbl _ iha ihb =>
    intro y0 u0 hy0 s0 s1 i n2 K h1 h0
    cases hy0 with
    | @mk _ xs' ts' ys' us' zs' bs' vs' ws' hs' hb' hr' hc' hcb' hcr' ha' hab' hal' har' hbs' hbb' hbl' hbr' =>
      unfold U2
      have m1 := hs.1; have m2 := hs'.1; have m3 := hc.1; have m4 := hc'.1; have r1 := hr.1; have r2 := hr'.1; have r3 := hcr.1; have r4 := hcr'.1
      rw [f5i] at h1 h0
      refine a8I (eqTs vs vs') (fun _ K' hk => b7k ha ha' hab hal hal' har' iha hk) ?_
      refine a8I (eqTs ws ws') (fun _ K' hk => b7k hbs hbs' hbb hbl hbl' hbr' ihb hk) ?_
      have lc : decide ((e.i4.n : Int) = (y0.i4.n : Int)) = decide (us.length = us'.length) := by rw [Bool.eq_iff_iff]; simp; omega
      have le : decide ((e.f5.n : Int) = (y0.f5.n : Int)) = decide (ts.length = ts'.length) := by rw [Bool.eq_iff_iff]; simp; omega
      rw [lc, le]
      have zc : decide (us.length = us'.length) = false → eqTs us us' = false := fun q => b5V (of_decide_eq_false q)
      have ze : decide (ts.length = ts'.length) = false → eqTs ts ts' = false := fun q => b5V (of_decide_eq_false q)
      refine ⟨fun hq => h0 ?_, fun hq => ?_⟩
      · generalize decide (e.b6 = y0.b6) = q1 at hq ⊢
        generalize decide (e.f6 = y0.f6) = q2 at hq ⊢
        generalize decide (us.length = us'.length) = q3 at hq zc ⊢
        generalize decide (ts.length = ts'.length) = q4 at hq ze ⊢
        generalize eqTs vs vs' = c at hq ⊢
        generalize eqTs ws ws' = d at hq ⊢
        generalize eqTs us us' = b at zc ⊢
        generalize eqTs ts ts' = a at ze ⊢
        cases q1
        · rfl
        cases q2
        · rfl
        cases q3
        · rw [zc rfl]; cases a <;> rfl
        cases q4
        · rw [ze rfl]; rfl
        cases a
        · rfl
        cases b
        · rfl
        cases c
        · rfl
        cases d
        · rfl
        cases hq
      · have g : decide (e.b6 = y0.b6) = true ∧ decide (e.f6 = y0.f6) = true ∧ us.length = us'.length ∧ ts.length = ts'.length ∧ eqTs vs vs' = true ∧ eqTs ws ws' = true := by
          rw [← decide_eq_true_iff (p := us.length = us'.length), ← decide_eq_true_iff (p := ts.length = ts'.length)]
          generalize decide (e.b6 = y0.b6) = q1 at hq ⊢
          generalize decide (e.f6 = y0.f6) = q2 at hq ⊢
          generalize decide (us.length = us'.length) = q3 at hq ⊢
          generalize decide (ts.length = ts'.length) = q4 at hq ⊢
          generalize eqTs vs vs' = c at hq ⊢
          generalize eqTs ws ws' = d at hq ⊢
          cases q1 <;> cases q2 <;> cases q3 <;> cases q4 <;> cases c <;> cases d <;> first | exact ⟨rfl, rfl, rfl, rfl, rfl, rfl⟩ | cases hq
        obtain ⟨g1, g2, g3, g4, g5, g6⟩ := g
        rw [g1, g2, g5, g6, Bool.true_and, Bool.and_true, Bool.and_true, Bool.true_and] at h1 h0
        refine b3R (ts := us) (us := us') (by omega) (by omega) (Fin := True) fun j next j0 j1 hn hf => ?_
        unfold Q5
        refine ⟨fun hlt => ?_, fun hlt => ?_⟩
        · obtain ⟨x, hx, hE⟩ := hc.get j0 hlt
          obtain ⟨y, hy, hF⟩ := hc'.get j0 (show j < (y0.i4.n : Int) by omega)
          obtain ⟨t, ht⟩ := D9 (l := us) (i := j.toNat) (by omega)
          obtain ⟨u, hu⟩ := D9 (l := us') (i := j.toNat) (by omega)
          refine ⟨j0, hlt, x, hE, j0, by omega, y, hF, d8V (hcr.2 _ x t hx ht) (hcr'.2 _ y u hy hu) ⟨fun hq => ?_, fun hq => ?_⟩⟩
          · exact h0 (by rw [b8f ht hu (by simpa using hq), Bool.and_false])
          · rw [B5 j0 (by simp only [big] at hcb; omega)]
            exact hn t u ht hu (by simpa using hq)
        · rw [hf (by omega), Bool.and_true] at h1 h0
          clear hn hf next
          unfold a0K
          refine b3R (ts := ts) (us := ts') (by omega) (by omega) (Fin := True) fun j next j0 j1 hn hf => ?_
          unfold a0J
          refine ⟨fun hlt => ?_, fun hlt => ?_⟩
          · obtain ⟨x, hx, hE⟩ := hs.get j0 hlt
            obtain ⟨y, hy, hF⟩ := hs'.get j0 (show j < (y0.f5.n : Int) by omega)
            obtain ⟨t, ht⟩ := D9 (l := ts) (i := j.toNat) (by omega)
            obtain ⟨u, hu⟩ := D9 (l := ts') (i := j.toNat) (by omega)
            refine ⟨j0, hlt, x, hE, j0, by omega, y, hF, c6a (hr.2 _ x t hx ht) (hr'.2 _ y u hy hu) ⟨fun hq => ?_, fun hq => ?_⟩⟩
            · exact h0 (b8f ht hu (by simpa using hq))
            · rw [B5 j0 (by simp only [big] at hb; omega)]
              exact hn t u ht hu (by simpa using hq)
          · unfold a0I
            exact h1 (hf (by omega))
theorem d4G {sx sy : Sl} {xs ys : List d6} {ts us : List PT} (hx : SlH H 6 d9 sx xs) (hy : SlH H 6 d9 sy ys) (hb : xs.length ≤ big) (hr : u4 (SH H) xs ts) (hr' : u4 (SH H) ys us) {K : Bool → Hp → Prop} (h : K (eqTs ts us) H) : M3 sx sy H K :=
  b7k hx hy hb hr.1 hr'.1 hr'.2 (fun i x t a b => step_ok (hr.2 i x t a b)) h
abbrev W := d5
def wStep (s : W) (d : Int) : W := if s.fbad = 0 then (if s.fn = 4096 then ⟨s.fn, s.fdepth, 33⟩ else if 64 < d then ⟨s.fn, s.fdepth, 32⟩ else ⟨s.fn + 1, if d > s.fdepth then d else s.fdepth, 0⟩) else s
mutual
def wT : PT → Int → W → W
  | .mk _ cs, d, s => wTs cs (d + 1) (wStep s d)
def wTs : List PT → Int → W → W
  | [], _, s => s
  | t :: ts, d, s => wTs ts d (wT t d s)
end
def wok (s : W) : Prop := 0 ≤ s.fn ∧ s.fn ≤ 4096
theorem b9t {s : W} {d : Int} (h : wok s) : wok (wStep s d) := by
  unfold wStep
  repeat' split
  all_goals first | exact h | (unfold wok at h ⊢; dsimp only; omega)
mutual
theorem i6V : ∀ (t : PT) (d : Int) (s : W), wok s → wok (wT t d s)
  | .mk _ cs, d, s, h => by rw [wT]; exact b4J cs _ _ (b9t h)
theorem b4J : ∀ (ts : List PT) (d : Int) (s : W), wok s → wok (wTs ts d s)
  | [], _, s, h => by rw [wTs]; exact h
  | t :: ts, d, s, h => by rw [wTs]; exact b4J ts d _ (i6V t d s h)
end
mutual
theorem h5m : ∀ (t : PT) (d : Int) (s : W), s.fbad ≠ 0 → wT t d s = s
  | .mk _ cs, d, s, h => by
    have : wStep s d = s := by unfold wStep; rw [if_neg h]
    rw [wT, this]; exact a3m cs _ _ h
theorem a3m : ∀ (ts : List PT) (d : Int) (s : W), s.fbad ≠ 0 → wTs ts d s = s
  | [], _, s, h => by rw [wTs]
  | t :: ts, d, s, h => by rw [wTs, h5m t d s h]; exact a3m ts d s h
end
theorem a8F : ∀ (a b : List PT) (d : Int) (s : W), wTs (a ++ b) d s = wTs b d (wTs a d s)
  | [], b, d, s => by rw [List.nil_append, wTs]
  | t :: a, b, d, s => by rw [List.cons_append, wTs, wTs, a8F a b]
theorem d8W {ts : List PT} {i : Nat} {t : PT} (h : ts[i]? = some t) (d : Int) (s : W) : wTs (ts.take (i + 1)) d s = wT t d (wTs (ts.take i) d s) := by
  rw [O2 h, a8F, wTs, wTs]
theorem d3E {ts : List PT} {i : Nat} {d : Int} {s : W} (h : ts.length ≤ i ∨ (wTs (ts.take i) d s).fbad ≠ 0) : wTs (ts.take i) d s = wTs ts d s := by
  rcases h with h | h
  · rw [List.take_of_length_le h]
  · have := a8F (ts.take i) (ts.drop i) d s
    rw [List.take_append_drop, a3m _ _ _ h] at this
    exact this.symm
theorem c7j {s : W} {d : Int} (hs : wok s) {K : Bool → W → Hp → Prop} (h : K (decide ((wStep s d).fbad = 0)) (wStep s d) H) : S8 s d H K := by
  refine b5i _ _ ?_
  unfold a2C
  unfold wok at hs
  unfold wStep at h
  refine ⟨fun hb => ?_, fun hb => ⟨fun h4 => ?_, fun h4 => ⟨fun h5 => ?_, fun h5 => ?_⟩⟩⟩
  · rw [if_neg hb, decide_eq_false hb] at h; exact h
  · rw [if_pos hb, if_pos h4] at h; exact h
  · rw [if_pos hb, if_neg h4, if_pos h5] at h; exact h
  · rw [if_pos hb, if_neg h4, if_neg h5] at h
    rw [B5 (by omega) (by omega), hb]; exact h
theorem d3F {s : W} {d : Int} (h : (wStep s d).fbad = 0) : d ≤ 64 := by
  unfold wStep at h
  split at h
  · split at h
    · cases h
    · split at h
      · cases h
      · omega
  · rename_i hb; exact (hb h).elim
theorem wloop {ts : List PT} {d : Int} {s1 : W} (ok1 : wok s1) {body : Int × W → Hp → (Int × W → Hp → Prop) → Prop}
    (hb : ∀ (i : Int) (s : W) (next : Int × W → Hp → Prop), 0 ≤ i → i ≤ ts.length → wok s → (∀ t, ts[i.toNat]? = some t → next (i + 1, wT t d s) H) → ((ts.length ≤ i ∨ s.fbad ≠ 0) → s = wTs ts d s1) → body (i, s) H next) : TL ((0, s1) : Int × W) H body := by
  refine U4 (fun (q : Int × W) H' => 0 ≤ q.1 ∧ q.1 ≤ ts.length ∧ H' = H ∧ q.2 = wTs (ts.take q.1.toNat) d s1) (fun q => (ts.length - q.1).toNat) ⟨Int.le_refl _, by simp, rfl, by simp [wTs]⟩ ?_
  rintro ⟨i, s⟩ H1 next ⟨i0, i1, rfl, hs⟩ hn
  dsimp only at i0 i1 hs ⊢
  subst hs
  refine hb i _ next i0 i1 (b4J _ _ _ ok1) (fun t ht => ?_) fun he => d3E (by omega)
  have := C1 ht
  refine hn _ _ ⟨by show 0 ≤ i + 1; omega, by show i + 1 ≤ _; omega, rfl, ?_⟩ (by show (ts.length - (i + 1)).toNat < (ts.length - i).toNat; omega)
  show wT t d _ = wTs (ts.take (i + 1).toNat) d s1
  rw [show (i + 1).toNat = i.toNat + 1 by omega, d8W ht]
theorem b4K {i n : Int} {b : Int} : (decide (i < n) && decide (b = 0)) = decide (i < n ∧ b = 0) := by rw [Bool.eq_iff_iff]; simp
theorem c6b {e : a8} {t : PT} (he : EH H e t) {s : W} {d : Int} (hs : wok s) (d0 : 0 ≤ d) (d1 : d ≤ 65) {K : W → Hp → Prop} (h : K (wT t d s) H) : Y8 s e d H K := by
  induction he generalizing s d K with
  | @mk e xs ts hsl hb hl _ ih =>
    refine b5e _ _ _ ?_
    unfold a2z
    rw [wT] at h
    refine c7j hs ⟨fun hq => ?_, fun hq => ?_⟩
    · rw [a3m _ _ _ (by simpa using hq)] at h; exact h
    have hq' : (wStep s d).fbad = 0 := by simpa using hq
    have d64 := d3F hq'
    have ok1 := b9t (d := d) hs
    refine wloop (ts := ts) (d := d + 1) ok1 fun i s' next i0 i1 hok hn hf => ?_
    unfold a0O
    rw [b4K]
    refine ⟨fun hc => ?_, fun hc => ?_⟩
    · have hc' := of_decide_eq_true hc
      dsimp only at hc'
      obtain ⟨x, hx, hE⟩ := hsl.get i0 hc'.1
      obtain ⟨t, ht⟩ := D9 (l := ts) (i := i.toNat) (by have := C1 hx; omega)
      refine ⟨i0, hc'.1, x, hE, ?_⟩
      rw [B5 (show 0 ≤ d by omega) (by omega), B5 i0 (by simp only [big] at hb; have := C1 hx; omega)]
      exact ih _ x t hx ht hok (by omega) (by omega) (hn t ht)
    · have hc' := of_decide_eq_false hc
      dsimp only at hc'
      have hfin := hf (by have := hsl.1; omega)
      rw [hfin]; exact h
theorem d8X {e : b7} {t : PT} (he : CH H e t) {s : W} {d : Int} (hs : wok s) (d0 : 0 ≤ d) (d1 : d ≤ 65) {K : W → Hp → Prop} (h : K (wT t d s) H) : a2t s e d H K := by
  induction he generalizing s d K with
  | @mk e xs ts ys us hsl hb hr hcl hcb hcl' _ ih =>
    refine b5f _ _ _ ?_
    unfold a2A
    rw [wT] at h
    refine c7j hs ⟨fun hq => ?_, fun hq => ?_⟩
    · rw [a3m _ _ _ (by simpa using hq)] at h; exact h
    have hq' : (wStep s d).fbad = 0 := by simpa using hq
    have d64 := d3F hq'
    rw [a8F] at h
    have ok1 := b9t (d := d) hs
    refine wloop (ts := ts) (d := d + 1) ok1 fun i s' next i0 i1 hok hn hf => ?_
    unfold a0R
    rw [b4K]
    refine ⟨fun hc => ?_, fun hc => ?_⟩
    · have hc' := of_decide_eq_true hc
      dsimp only at hc'
      obtain ⟨x, hx, hE⟩ := hsl.get i0 hc'.1
      obtain ⟨t, ht⟩ := D9 (l := ts) (i := i.toNat) (by have := C1 hx; have := hr.1; omega)
      refine ⟨i0, hc'.1, x, hE, ?_⟩
      rw [B5 (show 0 ≤ d by omega) (by omega), B5 i0 (by simp only [big] at hb; have := C1 hx; omega)]
      exact c6b (hr.2 _ x t hx ht) hok (by omega) (by omega) (hn t ht)
    · have hc' := of_decide_eq_false hc
      dsimp only at hc'
      have hfin := hf (by have := hsl.1; have := hr.1; omega)
      clear hn hf next
      rw [← hfin] at h
      clear hfin hc'
      unfold a0Q
      refine wloop (ts := us) (d := d + 1) hok fun i s' next i0 i1 hok hn hf => ?_
      unfold a0P
      rw [b4K]
      refine ⟨fun hc => ?_, fun hc => ?_⟩
      · have hc' := of_decide_eq_true hc
        dsimp only at hc'
        obtain ⟨x, hx, hE⟩ := hcl.get i0 hc'.1
        obtain ⟨t, ht⟩ := D9 (l := us) (i := i.toNat) (by have := C1 hx; omega)
        refine ⟨i0, hc'.1, x, hE, ?_⟩
        rw [B5 (show 0 ≤ d by omega) (by omega), B5 i0 (by simp only [big] at hcb; have := C1 hx; omega)]
        exact ih _ x t hx ht hok (by omega) (by omega) (hn t ht)
      · have hc' := of_decide_eq_false hc
        dsimp only at hc'
        have hfin := hf (by have := hcl.1; omega)
        rw [hfin]; exact h
theorem d8Y {e : d6} {t : PT} (he : SH H e t) {s : W} {d : Int} (hs : wok s) (d0 : 0 ≤ d) (d1 : d ≤ 65) {K : W → Hp → Prop} (h : K (wT t d s) H) : Y9 s e d H K := by
  induction he generalizing s d K with
  | @mk e xs ts ys us zs bs vs ws hsl hb hr hcl hcb hcr ha hab hal _ hbs hbb hbl _ iha ihb =>
    refine b5g _ _ _ ?_
    unfold a2B
    rw [wT] at h
    refine c7j hs ⟨fun hq => ?_, fun hq => ?_⟩
    · rw [a3m _ _ _ (by simpa using hq)] at h; exact h
    have hq' : (wStep s d).fbad = 0 := by simpa using hq
    have d64 := d3F hq'
    rw [a8F, a8F, a8F] at h
    have ok1 := b9t (d := d) hs
    refine wloop (ts := us) (d := d + 1) ok1 fun i s' next i0 i1 hok hn hf => ?_
    unfold a1b
    rw [b4K]
    refine ⟨fun hc => ?_, fun hc => ?_⟩
    · have hc' := of_decide_eq_true hc
      dsimp only at hc'
      obtain ⟨x, hx, hE⟩ := hcl.get i0 hc'.1
      obtain ⟨t, ht⟩ := D9 (l := us) (i := i.toNat) (by have := C1 hx; have := hcr.1; omega)
      refine ⟨i0, hc'.1, x, hE, ?_⟩
      rw [B5 (show 0 ≤ d by omega) (by omega), B5 i0 (by simp only [big] at hcb; have := C1 hx; omega)]
      exact d8X (hcr.2 _ x t hx ht) hok (by omega) (by omega) (hn t ht)
    · have hc' := of_decide_eq_false hc
      dsimp only at hc'
      have hfin := hf (by have := hcl.1; have := hcr.1; skip; omega)
      clear hn hf next
      rw [← hfin] at h
      clear hfin hc'
      unfold a0Z
      refine wloop (ts := ts) (d := d + 1) hok fun i s' next i0 i1 hok hn hf => ?_
      unfold a0X
      rw [b4K]
      refine ⟨fun hc => ?_, fun hc => ?_⟩
      · have hc' := of_decide_eq_true hc
        dsimp only at hc'
        obtain ⟨x, hx, hE⟩ := hsl.get i0 hc'.1
        obtain ⟨t, ht⟩ := D9 (l := ts) (i := i.toNat) (by have := C1 hx; have := hr.1; omega)
        refine ⟨i0, hc'.1, x, hE, ?_⟩
        rw [B5 (show 0 ≤ d by omega) (by omega), B5 i0 (by simp only [big] at hb; have := C1 hx; omega)]
        exact c6b (hr.2 _ x t hx ht) hok (by omega) (by omega) (hn t ht)
      · have hc' := of_decide_eq_false hc
        dsimp only at hc'
        have hfin := hf (by have := hsl.1; have := hr.1; skip; omega)
        clear hn hf next
        rw [← hfin] at h
        clear hfin hc'
        unfold a0W
        refine wloop (ts := vs) (d := d + 1) hok fun i s' next i0 i1 hok hn hf => ?_
        unfold a0V
        rw [b4K]
        refine ⟨fun hc => ?_, fun hc => ?_⟩
        · have hc' := of_decide_eq_true hc
          dsimp only at hc'
          obtain ⟨x, hx, hE⟩ := ha.get i0 hc'.1
          obtain ⟨t, ht⟩ := D9 (l := vs) (i := i.toNat) (by have := C1 hx; omega)
          refine ⟨i0, hc'.1, x, hE, ?_⟩
          rw [B5 (show 0 ≤ d by omega) (by omega), B5 i0 (by simp only [big] at hab; have := C1 hx; omega)]
          exact iha _ x t hx ht hok (by omega) (by omega) (hn t ht)
        · have hc' := of_decide_eq_false hc
          dsimp only at hc'
          have hfin := hf (by have := ha.1; skip; omega)
          clear hn hf next
          rw [← hfin] at h
          clear hfin hc'
          unfold a0T
          refine wloop (ts := ws) (d := d + 1) hok fun i s' next i0 i1 hok hn hf => ?_
          unfold a0S
          rw [b4K]
          refine ⟨fun hc => ?_, fun hc => ?_⟩
          · have hc' := of_decide_eq_true hc
            dsimp only at hc'
            obtain ⟨x, hx, hE⟩ := hbs.get i0 hc'.1
            obtain ⟨t, ht⟩ := D9 (l := ws) (i := i.toNat) (by have := C1 hx; omega)
            refine ⟨i0, hc'.1, x, hE, ?_⟩
            rw [B5 (show 0 ≤ d by omega) (by omega), B5 i0 (by simp only [big] at hbb; have := C1 hx; omega)]
            exact ihb _ x t hx ht hok (by omega) (by omega) (hn t ht)
          · have hc' := of_decide_eq_false hc
            dsimp only at hc'
            have hfin := hf (by have := hbs.1; skip; omega)
            rw [hfin]; exact h
def dT (d : E0) : PT := .mk (.decl d.a1Z d.f6) []
theorem g2B (d : E0) (n : Int) (s : W) : wT (dT d) n s = wStep s n := by unfold dT; rw [wT, wTs]
def PP.nodes (q : PP) : List PT := q.decls.map dT ++ q.body
def w0S : W := ⟨0, 0, 0⟩
theorem d4g {p : g7} {q : PP} (hp : PH H p q) {K : W → Hp → Prop} (h : K (wTs q.nodes 1 w0S) H) : a3S p H K := by
  refine b6W _ ?_
  unfold a3T
  obtain ⟨hd, hbd, xs, hsl, hb, hr⟩ := hp
  have n1 := hd.1; have n2 := hsl.1; have r1 := hr.1
  unfold PP.nodes at h
  rw [a8F] at h
  refine U4 (fun (z : Int × W × W) H' => 0 ≤ z.1 ∧ z.1 ≤ q.decls.length ∧ H' = H ∧ z.2.1 = wTs ((q.decls.map dT).take z.1.toNat) 1 w0S) (fun z => (q.decls.length - z.1).toNat) ⟨Int.le_refl _, by simp, rfl, by simp [wTs, w0S]⟩ ?_
  rintro ⟨i, s, s'⟩ H1 next ⟨i0, i1, rfl, hs⟩ hn
  dsimp only at i0 i1 hs ⊢
  subst hs
  unfold a2x
  rw [b4K]
  have ok0 : wok w0S := ⟨by decide, by decide⟩
  refine ⟨fun hc => ?_, fun hc => ?_⟩
  · have hc' := of_decide_eq_true hc
    refine c7j (b4J _ _ _ ok0) ?_
    obtain ⟨x, hx⟩ := D9 (l := q.decls) (i := i.toNat) (by omega)
    rw [B5 i0 (by simp only [big] at hbd; omega)]
    refine hn _ _ ⟨by show 0 ≤ i + 1; omega, by show i + 1 ≤ _; omega, rfl, ?_⟩ (by show (q.decls.length - (i + 1)).toNat < (q.decls.length - i).toNat; omega)
    show wStep _ 1 = wTs ((q.decls.map dT).take (i + 1).toNat) 1 w0S
    rw [show (i + 1).toNat = i.toNat + 1 by omega, d8W (t := dT x) (by rw [List.getElem?_map, hx]; rfl), g2B]
  · have hc' := of_decide_eq_false hc
    have hfin := d3E (ts := q.decls.map dT) (i := i.toNat) (d := 1) (s := w0S) (by
      by_cases h0 : (wTs ((q.decls.map dT).take i.toNat) 1 w0S).fbad = 0
      · left; rw [List.length_map]; omega
      · exact .inr h0)
    rw [hfin]
    clear hn hc hc' next
    unfold a2w
    have ok1 := b4J (q.decls.map dT) 1 _ ok0
    refine U4 (fun (z : Int × W × W) H' => 0 ≤ z.1 ∧ z.1 ≤ q.body.length ∧ H' = H1 ∧ z.2.1 = wTs (q.body.take z.1.toNat) 1 (wTs (q.decls.map dT) 1 w0S)) (fun z => (q.body.length - z.1).toNat) ⟨Int.le_refl _, by simp, rfl, by simp [wTs]⟩ ?_
    rintro ⟨j, s2, s3⟩ H2 next ⟨j0, j1, rfl, hs⟩ hn
    dsimp only at j0 j1 hs ⊢
    subst hs
    unfold a2v
    rw [b4K]
    refine ⟨fun hc => ?_, fun hc => ?_⟩
    · have hc' := of_decide_eq_true hc
      obtain ⟨x, hx, hE⟩ := hsl.get j0 hc'.1
      obtain ⟨t, ht⟩ := D9 (l := q.body) (i := j.toNat) (by have := C1 hx; omega)
      refine ⟨j0, hc'.1, x, hE, d8Y (hr.2 _ x t hx ht) (b4J _ _ _ ok1) (by decide) (by decide) ?_⟩
      rw [B5 j0 (by simp only [big] at hb; have := C1 hx; omega)]
      refine hn _ _ ⟨by show 0 ≤ j + 1; omega, by show j + 1 ≤ _; have := C1 ht; omega, rfl, ?_⟩ (by show (q.body.length - (j + 1)).toNat < (q.body.length - j).toNat; have := C1 ht; omega)
      show wT t 1 _ = wTs (q.body.take (j + 1).toNat) 1 _
      rw [show (j + 1).toNat = j.toNat + 1 by omega, d8W ht]
    · have hc' := of_decide_eq_false hc
      unfold a2u
      rw [d3E (ts := q.body) (i := j.toNat) (by
        by_cases h0 : (wTs (q.body.take j.toNat) 1 (wTs (q.decls.map dT) 1 w0S)).fbad = 0
        · left; omega
        · exact .inr h0)]
      exact h
theorem f1n {p : g7} {q : PP} (hp : PH H p q) {K : Bool → Hp → Prop} (h : K (decide ((wTs q.nodes 1 w0S).fbad = 0)) H) : a5y p H K := by
  refine c0a _ ?_
  unfold a5A
  exact d4g hp h
end
end Go.Proofs.YtnhkdkcgdcgmdaaGreatDoor
