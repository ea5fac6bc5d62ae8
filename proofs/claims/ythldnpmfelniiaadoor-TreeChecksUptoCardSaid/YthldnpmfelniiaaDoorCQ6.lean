/- Whether two programs are the same, by the program and by the document; what is known; the law. Contracts off the printed formulas. -/
import Derived.Test.YthldnpmfelniiaaDoorCQ5
namespace Go.Proofs.YthldnpmfelniiaaDoor
open Go.RowKit
set_option maxRecDepth 100000
set_option maxHeartbeats 2000000
theorem d8W {α : Type} {q : Prop} [Decidable q] {call : (α → Hp → Prop) → Prop} {d : α} {H : Hp} {K : α → Hp → Prop} (v : α) (hc : q → ∀ K' : α → Hp → Prop, (∀ H', Hle H H' → K' v H') → call K') (h : ∀ H', Hle H H' → K (if q then v else d) H') : TG q call d H K :=
  ⟨fun hq => hc hq _ fun H' l => (by have := h H' l; rwa [if_pos hq] at this), fun hq => (by have := h H (Hle.refl _); rwa [if_neg hq] at this)⟩
open Classical in
noncomputable def eqD (a b : List B8) : Bool := decide (a = b)
theorem c8d {a b : List B8} : eqD a b = true ↔ a = b := by unfold eqD; simp
theorem f1E {a b : List B8} : eqD a b = false ↔ a ≠ b := by unfold eqD; simp
noncomputable def eqS (q q' : PP) : Bool := ((fewP q && fewP q') && eqD q.decls q'.decls) && eqTs q.body q'.body
section
variable {H : Hp}
theorem f1F {sx sy : Sl} {xs ys : List i4} {ts us : List PT} (hx : SlH H 6 d5 sx xs) (hy : SlH H 6 d5 sy ys) (hb : xs.length ≤ big) (hr : E4 (SH H) xs ts) (hr' : E4 (SH H) ys us) {K : Bool → Hp → Prop} (h : K (eqTs ts us) H) : d4 sx sy H K :=
  b5h hx hy hb hr.1 hr'.1 (fun i x y t u hx hy ht hu K hK => c7z (hr.2 i x t hx ht) (hr'.2 i y u hy hu) hK) h
theorem d6O {sx sy : Sl} {xs ys : List B8} (hx : SlH H 2 p7 sx xs) (hy : SlH H 2 p7 sy ys) (hb : xs.length ≤ big) {K : Bool → Hp → Prop} (h : K (eqD xs ys) H) : B9 sx sy H K :=
  c5D hx hy hb ⟨fun e => by rw [c8d.2 e] at h; exact h, fun e => by rw [f1E.2 e] at h; exact h⟩
theorem d6P (hT : TabsH H) {p p' : g5} {q q' : PP} (hp : PH H p q) (hsm : q.Sm) (hp' : PH H p' q') (hsm' : q'.Sm) {K : Bool → Hp → Prop} (h : ∀ H', Hle H H' → K (eqS q q') H') : a0l p p' H K := by
  refine b5E _ _ ?_
  unfold a3O
  refine c0l hT hp hsm fun H1 l1 => d8W (fewP q') (fun _ K' hk => c0l (hT.le l1) (hp'.le l1) hsm' hk) fun H2 l2 => ?_
  obtain ⟨hd, hbd, xs, hsl, hb, hr⟩ := hp.le (l1.trans l2)
  obtain ⟨hd', hbd', xs', hsl', hb', hr'⟩ := hp'.le (l1.trans l2)
  refine a2k (eqD q.decls q'.decls) (fun _ K' hk => d6O hd hd' hbd hk) ?_
  refine a2k (eqTs q.body q'.body) (fun _ K' hk => f1F hsl hsl' hb hr hr' hk) ?_
  have h' := h H2 (l1.trans l2)
  unfold eqS at h'
  generalize fewP q = a at h' ⊢
  generalize fewP q' = b at h' ⊢
  generalize eqD q.decls q'.decls = c at h' ⊢
  generalize eqTs q.body q'.body = d at h' ⊢
  cases a <;> cases b <;> cases c <;> cases d <;> exact h'
def xS : ByteArray := ⟨#[120]⟩
def oneVar : PT := .mk (.expr 2 0 xS 0) []
def oneNum : PT := .mk (.expr 1 1 ⟨#[]⟩ 0) []
def oneSum : PT := .mk (.expr 6 0 ⟨#[]⟩ 2) [oneVar, oneNum]
def oneP : PP := ⟨[⟨xS, 0⟩], [.mk (.stmt 1 xS 1 0 0 0) [oneSum]]⟩
theorem c0n {K : g5 → Hp → Prop} (h : ∀ (p : g5) (H' : Hp), Hle H H' → PH H' p oneP → K p H') : G2 H K := by
  refine b2s ?_
  unfold a1H
  intro s1 H1 l1 h1 _ s2 H2 l2 h2 _ s3 H3 l3 h3 _ s4 H4 l4 h4 _
  refine h _ H4 (l1.trans (l2.trans (l3.trans l4))) ⟨h3.le l4, by simp [oneP, big], _, h4, by simp [big], ?_⟩
  refine E4.one (R := SH H4) ?_
  have nilE : SlH H4 4 f4 ⟨none, 0, 0⟩ [] := SlH.nil _ _ _
  have nilC : SlH H4 4 f7 ⟨none, 0, 0⟩ [] := SlH.nil _ _ _
  have nilS : SlH H4 6 d5 ⟨none, 0, 0⟩ [] := SlH.nil _ _ _
  have eV : EH H4 ⟨2, 0, xS, ⟨none, 0, 0⟩⟩ oneVar := EH.mk (ts := []) nilE (Nat.zero_le _) rfl fun i x t hx => by simp at hx
  have eN : EH H4 ⟨1, 1, ⟨#[]⟩, ⟨none, 0, 0⟩⟩ oneNum := EH.mk (ts := []) nilE (Nat.zero_le _) rfl fun i x t hx => by simp at hx
  have eL := (E4.one (R := EH H4) eV).app (E4.one (R := EH H4) eN)
  have eS : EH H4 ⟨6, 0, ⟨#[]⟩, s1⟩ oneSum := EH.mk (ts := [oneVar, oneNum]) (h1.le (l2.trans (l3.trans l4))) (by simp [big]) rfl eL.2
  exact SH.mk (ts := [oneSum]) (us := []) (vs := []) (ws := []) (h2.le (l3.trans l4)) (by simp [big]) (E4.one eS) nilC (Nat.zero_le _) E4.nil nilS (Nat.zero_le _) rfl (fun i x t hx => by simp at hx) nilS (Nat.zero_le _) rfl (fun i x t hx => by simp at hx)
theorem c0o : oneP.Sm := by
  have hx : xS.size ≤ big := by decide
  have h0 : (⟨#[]⟩ : ByteArray).size ≤ big := by decide
  have a : Sm oneVar := .mk hx fun t ht => by cases ht
  have b : Sm oneNum := .mk h0 fun t ht => by cases ht
  have c : Sm oneSum := .mk h0 fun t ht => by
    rcases List.mem_cons.1 ht with e | ht
    · rw [e]; exact a
    · rcases List.mem_cons.1 ht with e | ht
      · rw [e]; exact b
      · cases ht
  intro t ht
  rcases List.mem_cons.1 ht with e | ht
  · rw [e]; exact .mk hx fun t ht => by cases ht
  · rcases List.mem_cons.1 ht with e | ht
    · rw [e]; exact .mk hx fun t ht => by
        rcases List.mem_cons.1 ht with e | ht
        · rw [e]; exact c
        · cases ht
    · cases ht
theorem d0J : allV oneP = (true, ⟨5, 3, 0, false, false, [xS]⟩) := by kernel_rfl
theorem f9o : vEnd (vTs [.mk (.expr 1 (-1) ⟨#[]⟩ 0) []] 1 v0) = 30 := by kernel_rfl
theorem e1O : fewP oneP = true := by
  rw [← c8c, d0J]; rfl
theorem f1G : eqS oneP oneP = true := by
  unfold eqS
  rw [e1O, c8d.2 rfl, b2b.2 rfl]; rfl
theorem d6Q (hT : TabsH H) {K : Bool → Hp → Prop} (h : ∀ H', Hle H H' → K true H') : a3b H K := by
  refine b0m ?_
  unfold a0Q
  refine c0n fun p1 H1 l1 hp1 => c5M (hT.le l1) hp1 c0o fun H2 l2 => ?_
  have l12 := l1.trans l2
  refine c0n fun p2 H3 l3 hp2 => c5N (hT.le (l12.trans l3)) hp2 c0o fun H4 l4 => ?_
  have l14 := l12.trans (l3.trans l4)
  have e0 : vEnd (allV oneP) = 0 := by rw [d0J]; rfl
  rw [e0, if_pos rfl, d0J]
  refine d8W 30 (fun _ K' hk => ?_) fun H5 l5 => ?_
  · refine e1L (hT.le l14) (t := .mk (.expr 1 (-1) ⟨#[]⟩ 0) []) (EH.mk (ts := []) (SlH.nil _ _ _) (Nat.zero_le _) rfl fun i x t hx => by simp at hx) (.mk (by decide) fun t ht => by cases ht) fun H' l => ?_
    rw [f9o]; exact hk H' l
  refine ⟨fun _ => c0n fun p3 H6 l6 hp3 => ⟨fun _ => c0n fun p4 H7 l7 hp4 => ⟨fun _ => d6P (hT.le (l14.trans (l5.trans (l6.trans l7)))) (hp3.le l7) c0o hp4 c0o fun H8 l8 => ?_, fun q => (q rfl).elim⟩, fun q => (q rfl).elim⟩, fun q => (q rfl).elim⟩
  rw [f1G]
  exact h H8 (l14.trans (l5.trans (l6.trans (l7.trans l8))))
end
end Go.Proofs.YthldnpmfelniiaaDoor
