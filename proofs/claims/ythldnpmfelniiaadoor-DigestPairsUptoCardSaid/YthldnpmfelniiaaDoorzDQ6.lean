/- Whether two programs are the same, by the program and by the document; what is known; the law. Contracts off the printed formulas. -/
import Derived.Test.YthldnpmfelniiaaDoorzDQ5
namespace Go.Proofs.YthldnpmfelniiaaDoor
open Go.RowKit
set_option maxRecDepth 100000
set_option maxHeartbeats 2000000
theorem d3N {α : Type} {q : Prop} [Decidable q] {call : (α → Hp → Prop) → Prop} {d : α} {H : Hp} {K : α → Hp → Prop} (v : α) (hc : q → ∀ K' : α → Hp → Prop, (∀ H', Hle H H' → K' v H') → call K') (h : ∀ H', Hle H H' → K (if q then v else d) H') : TG q call d H K :=
  ⟨fun hq => hc hq _ fun H' l => (by have := h H' l; rwa [if_pos hq] at this), fun hq => (by have := h H (Hle.refl _); rwa [if_neg hq] at this)⟩
open Classical in
noncomputable def eqD (a b : List A4) : Bool := decide (a = b)
theorem b8E {a b : List A4} : eqD a b = true ↔ a = b := by unfold eqD; simp
theorem c2Q {a b : List A4} : eqD a b = false ↔ a ≠ b := by unfold eqD; simp
noncomputable def eqS (q q' : PP) : Bool := ((fewP q && fewP q') && eqD q.decls q'.decls) && eqTs q.body q'.body
section
variable {H : Hp}
theorem e6B {sx sy : Sl} {xs ys : List g8} {ts us : List PT} (hx : SlH H 6 b8 sx xs) (hy : SlH H 6 b8 sy ys) (hb : xs.length ≤ big) (hr : E0 (SH H) xs ts) (hr' : E0 (SH H) ys us) {K : Bool → Hp → Prop} (h : K (eqTs ts us) H) : c5 sx sy H K :=
  b2P hx hy hb hr.1 hr'.1 (fun i x y t u hx hy ht hu K hK => c3C (hr.2 i x t hx ht) (hr'.2 i y u hy hu) hK) h
theorem d3c {sx sy : Sl} {xs ys : List A4} (hx : SlH H 2 k8 sx xs) (hy : SlH H 2 k8 sy ys) (hb : xs.length ≤ big) {K : Bool → Hp → Prop} (h : K (eqD xs ys) H) : A6 sx sy H K :=
  c2E hx hy hb ⟨fun e => by rw [b8E.2 e] at h; exact h, fun e => by rw [c2Q.2 e] at h; exact h⟩
theorem d3d (hT : TabsH H) {p p' : f6} {q q' : PP} (hp : PH H p q) (hsm : q.Sm) (hp' : PH H p' q') (hsm' : q'.Sm) {K : Bool → Hp → Prop} (h : ∀ H', Hle H H' → K (eqS q q') H') : a3L p p' H K := by
  refine b3a _ _ ?_
  unfold a1R
  refine b7q hT hp hsm fun H1 l1 => d3N (fewP q') (fun _ K' hk => b7q (hT.le l1) (hp'.le l1) hsm' hk) fun H2 l2 => ?_
  obtain ⟨hd, hbd, xs, hsl, hb, hr⟩ := hp.le (l1.trans l2)
  obtain ⟨hd', hbd', xs', hsl', hb', hr'⟩ := hp'.le (l1.trans l2)
  refine a1j (eqD q.decls q'.decls) (fun _ K' hk => d3c hd hd' hbd hk) ?_
  refine a1j (eqTs q.body q'.body) (fun _ K' hk => e6B hsl hsl' hb hr hr' hk) ?_
  have h' := h H2 (l1.trans l2)
  unfold eqS at h'
  generalize fewP q = a at h' ⊢
  generalize fewP q' = b at h' ⊢
  generalize eqD q.decls q'.decls = c at h' ⊢
  generalize eqTs q.body q'.body = d at h' ⊢
  cases a <;> cases b <;> cases c <;> cases d <;> exact h'
theorem c9R {p p' : f6} {q q' : PP} (hp : PH H p q) (hp' : PH H p' q') {K : Bool → Hp → Prop} (h : K (eqS q q') H) : a1o p p' H K := by
  refine a8k _ _ ?_
  unfold X5
  have few1 : decide ((wTs q.nodes 1 w0S).fbad = 0) = fewP q := rfl
  have few2 : decide ((wTs q'.nodes 1 w0S).fbad = 0) = fewP q' := rfl
  refine c9G hp (a1j (fewP q') (fun _ K' hk => c9G hp' hk) ?_)
  rw [few1]
  obtain ⟨hd, hbd, xs, hsl, hb, hr⟩ := hp
  obtain ⟨hd', hbd', xs', hsl', hb', hr'⟩ := hp'
  have n1 := hd.1; have n2 := hd'.1
  refine a1j (eqTs q.body q'.body) (fun _ K' hk => b9h hsl hsl' hb hr hr' hk) ?_
  have ld : decide ((p.o7.n : Int) = (p'.o7.n : Int)) = decide (q.decls.length = q'.decls.length) := by rw [Bool.eq_iff_iff]; simp; omega
  rw [ld]
  have zl : decide (q.decls.length = q'.decls.length) = false → eqD q.decls q'.decls = false := fun e => c2Q.2 fun e' => of_decide_eq_false e (by rw [e'])
  have fin : fewP q = true → fewP q' = true → q.decls.length = q'.decls.length → eqTs q.body q'.body = true → TL (0 : Int) H fun (s : Int) H n2 => E7 p' p s H n2 K := by
    intro e1 e2 e3 e4
    unfold eqS at h
    rw [e1, e2, e4, Bool.and_true, Bool.true_and, Bool.true_and] at h
    refine Z7 (fun (i : Int) H' => 0 ≤ i ∧ i ≤ q.decls.length ∧ H' = H ∧ ∀ (j : Nat) (t u : A4), (j : Int) < i → q.decls[j]? = some t → q'.decls[j]? = some u → t = u) (fun i => (q.decls.length - i).toNat) ⟨Int.le_refl _, by omega, rfl, fun j t u hj => by omega⟩ ?_
    rintro i H1 next ⟨i0, i1, rfl, hi⟩ hn
    unfold E7
    refine ⟨fun hc => ?_, fun hc => ?_⟩
    · obtain ⟨x, hx, hE⟩ := hd.get i0 hc
      obtain ⟨y, hy, hF⟩ := hd'.get i0 (show i < (p'.o7.n : Int) by omega)
      refine ⟨i0, hc, x, hE, i0, by omega, y, hF, fun hq => ?_, fun hq => ?_⟩
      · rw [c2Q.2 fun e => hq (by rw [e, hy] at hx; cases hx; exact ⟨rfl, rfl⟩)] at h; exact h
      · rw [y6 i0 (by simp only [big] at hbd; omega)]
        refine hn _ _ ⟨by omega, by omega, rfl, fun j t u hj ht hu => ?_⟩ (by omega)
        by_cases ej : j = i.toNat
        · subst ej
          rw [hx] at ht; cases ht
          rw [hy] at hu; cases hu
          cases x; cases y
          obtain ⟨h1, h2⟩ := hq
          dsimp only at h1 h2
          rw [h1, h2]
        · exact hi j t u (by omega) ht hu
    · unfold T8
      rw [b8E.2 (b7I e3 fun j t u ht hu => hi j t u (by have := t6 ht; omega) ht hu)] at h
      exact h
  unfold eqS at h
  generalize eqD q.decls q'.decls = c at h zl
  generalize hl : decide (q.decls.length = q'.decls.length) = l at zl ⊢
  generalize fewP q = a at h fin ⊢
  generalize fewP q' = b at h fin ⊢
  generalize eqTs q.body q'.body = d at h fin ⊢
  cases l
  · rw [zl rfl] at h
    cases a <;> cases b <;> cases d <;> exact ⟨fun _ => h, fun hc => (by cases hc)⟩
  · cases a <;> cases b <;> cases d <;> first
      | exact ⟨fun hc => (by cases hc), fun _ => fin rfl rfl (of_decide_eq_true hl) rfl⟩
      | (have h' : K false H := by cases c <;> exact h
         exact ⟨fun _ => h', fun hc => (by cases hc)⟩)
def xS : ByteArray := ⟨#[120]⟩
end
end Go.Proofs.YthldnpmfelniiaaDoor
