/- Whether two programs are the same, by the program and by the document; what is known; the law. Contracts off the printed formulas. -/
import Derived.Test.YtnhkdkcgdcgmdaaDoorzOQ5
namespace Go.Proofs.YtnhkdkcgdcgmdaaDoor
open Go.RowKit
set_option maxRecDepth 100000
set_option maxHeartbeats 2000000
theorem g2g {α : Type} {q : Prop} [Decidable q] {call : (α → Hp → Prop) → Prop} {d : α} {H : Hp} {K : α → Hp → Prop} (v : α) (hc : q → ∀ K' : α → Hp → Prop, (∀ H', Hle H H' → K' v H') → call K') (h : ∀ H', Hle H H' → K (if q then v else d) H') : TG q call d H K :=
  ⟨fun hq => hc hq _ fun H' l => (by have := h H' l; rwa [if_pos hq] at this), fun hq => (by have := h H (Hle.refl _); rwa [if_neg hq] at this)⟩
open Classical in
noncomputable def eqD (a b : List t1) : Bool := decide (a = b)
theorem d1N {a b : List t1} : eqD a b = true ↔ a = b := by unfold eqD; simp
theorem f4a {a b : List t1} : eqD a b = false ↔ a ≠ b := by unfold eqD; simp
noncomputable def eqS (q q' : PP) : Bool := ((fewP q && fewP q') && eqD q.decls q'.decls) && eqTs q.body q'.body
section
variable {H : Hp}
theorem f4b {sx sy : Sl} {xs ys : List b9} {ts us : List PT} (hx : SlH H 6 d8 sx xs) (hy : SlH H 6 d8 sy ys) (hb : xs.length ≤ big) (hr : u4 (SH H) xs ts) (hr' : u4 (SH H) ys us) {K : Bool → Hp → Prop} (h : K (eqTs ts us) H) : d9 sx sy H K :=
  b6Y hx hy hb hr.1 hr'.1 (fun i x y t u hx hy ht hu K hK => d1f (hr.2 i x t hx ht) (hr'.2 i y u hy hu) hK) h
theorem e1c {sx sy : Sl} {xs ys : List t1} (hx : SlH H 2 p6 sx xs) (hy : SlH H 2 p6 sy ys) (hb : xs.length ≤ big) {K : Bool → Hp → Prop} (h : K (eqD xs ys) H) : F1 sx sy H K :=
  c9j hx hy hb ⟨fun e => by rw [d1N.2 e] at h; exact h, fun e => by rw [f4a.2 e] at h; exact h⟩
theorem e1d (hT : TabsH H) {p p' : j6} {q q' : PP} (hp : PH H p q) (hsm : q.Sm) (hp' : PH H p' q') (hsm' : q'.Sm) {K : Bool → Hp → Prop} (h : ∀ H', Hle H H' → K (eqS q q') H') : a6X p p' H K := by
  refine b7K _ _ ?_
  unfold a4o
  refine c3o hT hp hsm fun H1 l1 => g2g (fewP q') (fun _ K' hk => c3o (hT.le l1) (hp'.le l1) hsm' hk) fun H2 l2 => ?_
  obtain ⟨hd, hbd, xs, hsl, hb, hr⟩ := hp.le (l1.trans l2)
  obtain ⟨hd', hbd', xs', hsl', hb', hr'⟩ := hp'.le (l1.trans l2)
  refine a2Q (eqD q.decls q'.decls) (fun _ K' hk => e1c hd hd' hbd hk) ?_
  refine a2Q (eqTs q.body q'.body) (fun _ K' hk => f4b hsl hsl' hb hr hr' hk) ?_
  have h' := h H2 (l1.trans l2)
  unfold eqS at h'
  generalize fewP q = a at h' ⊢
  generalize fewP q' = b at h' ⊢
  generalize eqD q.decls q'.decls = c at h' ⊢
  generalize eqTs q.body q'.body = d at h' ⊢
  cases a <;> cases b <;> cases c <;> cases d <;> exact h'
end
end Go.Proofs.YtnhkdkcgdcgmdaaDoor
