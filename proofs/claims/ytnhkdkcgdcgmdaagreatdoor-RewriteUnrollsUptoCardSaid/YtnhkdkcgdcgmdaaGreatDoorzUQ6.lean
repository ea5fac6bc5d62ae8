/- Whether two programs are the same, by the program and by the document; what is known; the law. Contracts off the printed formulas. -/
import Derived.Test.YtnhkdkcgdcgmdaaGreatDoorzUQ5
namespace Go.Proofs.YtnhkdkcgdcgmdaaGreatDoor
open Go.RowKit
set_option maxRecDepth 100000
set_option maxHeartbeats 2000000
open Classical in
noncomputable def eqD (a b : List E0) : Bool := decide (a = b)
theorem e2K {a b : List E0} : eqD a b = true ↔ a = b := by unfold eqD; simp
theorem f1B {a b : List E0} : eqD a b = false ↔ a ≠ b := by unfold eqD; simp
noncomputable def eqS (q q' : PP) : Bool := ((fewP q && fewP q') && eqD q.decls q'.decls) && eqTs q.body q'.body
section
variable {H : Hp}
theorem f1C {p p' : g7} {q q' : PP} (hp : PH H p q) (hp' : PH H p' q') {K : Bool → Hp → Prop} (h : K (eqS q q') H) : a7r p p' H K := by
  refine b7D _ _ ?_
  unfold a4p
  have few1 : decide ((wTs q.nodes 1 w0S).fbad = 0) = fewP q := rfl
  have few2 : decide ((wTs q'.nodes 1 w0S).fbad = 0) = fewP q' := rfl
  refine f1n hp (a8I (fewP q') (fun _ K' hk => f1n hp' hk) ?_)
  rw [few1]
  obtain ⟨hd, hbd, xs, hsl, hb, hr⟩ := hp
  obtain ⟨hd', hbd', xs', hsl', hb', hr'⟩ := hp'
  have n1 := hd.1; have n2 := hd'.1
  refine a8I (eqTs q.body q'.body) (fun _ K' hk => d4G hsl hsl' hb hr hr' hk) ?_
  have ld : decide ((p.r5.n : Int) = (p'.r5.n : Int)) = decide (q.decls.length = q'.decls.length) := by rw [Bool.eq_iff_iff]; simp; omega
  rw [ld]
  have zl : decide (q.decls.length = q'.decls.length) = false → eqD q.decls q'.decls = false := fun e => f1B.2 fun e' => of_decide_eq_false e (by rw [e'])
  have fin : fewP q = true → fewP q' = true → q.decls.length = q'.decls.length → eqTs q.body q'.body = true → TL (0 : Int) H fun (s : Int) H n2 => Q6 p' p s H n2 K := by
    intro e1 e2 e3 e4
    unfold eqS at h
    rw [e1, e2, e4, Bool.and_true, Bool.true_and, Bool.true_and] at h
    refine U4 (fun (i : Int) H' => 0 ≤ i ∧ i ≤ q.decls.length ∧ H' = H ∧ ∀ (j : Nat) (t u : E0), (j : Int) < i → q.decls[j]? = some t → q'.decls[j]? = some u → t = u) (fun i => (q.decls.length - i).toNat) ⟨Int.le_refl _, by omega, rfl, fun j t u hj => by omega⟩ ?_
    rintro i H1 next ⟨i0, i1, rfl, hi⟩ hn
    unfold Q6
    refine ⟨fun hc => ?_, fun hc => ?_⟩
    · obtain ⟨x, hx, hE⟩ := hd.get i0 hc
      obtain ⟨y, hy, hF⟩ := hd'.get i0 (show i < (p'.r5.n : Int) by omega)
      refine ⟨i0, hc, x, hE, i0, by omega, y, hF, fun hq => ?_, fun hq => ?_⟩
      · rw [f1B.2 fun e => hq (by rw [e, hy] at hx; cases hx; exact ⟨rfl, rfl⟩)] at h; exact h
      · rw [B5 i0 (by simp only [big] at hbd; omega)]
        refine hn _ _ ⟨by omega, by omega, rfl, fun j t u hj ht hu => ?_⟩ (by omega)
        by_cases ej : j = i.toNat
        · subst ej
          rw [hx] at ht; cases ht
          rw [hy] at hu; cases hu
          cases x; cases y
          obtain ⟨h1, h2⟩ := hq
          dsimp only at h1 h2
          rw [h1, h2]
        · exact hi j t u (by omega) ht hu
    · unfold a3i
      rw [e2K.2 (e2l e3 fun j t u ht hu => hi j t u (by have := C1 ht; omega) ht hu)] at h
      exact h
  unfold eqS at h
  generalize eqD q.decls q'.decls = c at h zl
  generalize hl : decide (q.decls.length = q'.decls.length) = l at zl ⊢
  generalize fewP q = a at h fin ⊢
  generalize fewP q' = b at h fin ⊢
  generalize eqTs q.body q'.body = d at h fin ⊢
  cases l
  · rw [zl rfl] at h
    cases a <;> cases b <;> cases d <;> exact ⟨fun _ => h, fun hc => (by cases hc)⟩
  · cases a <;> cases b <;> cases d <;> first
      | exact ⟨fun hc => (by cases hc), fun _ => fin rfl rfl (of_decide_eq_true hl) rfl⟩
      | (have h' : K false H := by cases c <;> exact h
         exact ⟨fun _ => h', fun hc => (by cases hc)⟩)
end
end Go.Proofs.YtnhkdkcgdcgmdaaGreatDoor
