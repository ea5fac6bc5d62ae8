/- The laws WellExact, WellParts. Contracts off the printed formulas. -/
import Derived.Test.YtaokfhdinhimfaaDoorySQz
namespace Go.Proofs.YtaokfhdinhimfaaDoor
open Go.RowKit
set_option maxRecDepth 100000
set_option maxHeartbeats 2000000
section
variable {H : Hp}
theorem b3b (q : PP) (k : Int) : (ofS q k).length ≤ q.decls.length := by
  unfold ofS; split
  · exact List.length_filter_le _ _
  · exact Nat.zero_le _
theorem b8V (hT : TabsH H) {p : m6} {q : PP} (hp : PH H p q) (hsm : q.Sm) {K : Sl → Int → Hp → Prop} (h : ∀ s H', Hle H H' → SlH H' 1 v1 s ((ofS q 1).map (·.g7)) → K s (wellS q).2 H') : a4H p H K := by
  refine a8p _ ?_
  unfold a2J
  have hb := hp.bd
  simp only [big] at hb
  have hle := b3b q 1
  refine b8k hT hp hsm fun s1 H1 l1 hS1 _ => ?_
  have n1 := hS1.1
  refine P5 (fun (z : List ByteArray × Int) H' => 0 ≤ z.2 ∧ z.2 ≤ (ofS q 1).length ∧ H' = H1 ∧ z.1 = ((ofS q 1).take z.2.toNat).map (·.g7)) (fun z => ((ofS q 1).length - z.2).toNat) ⟨Int.le_refl _, by dsimp only; omega, rfl, rfl⟩ ?_
  rintro ⟨cs, i⟩ H2 next ⟨i0, i1, rfl, hcs⟩ hn
  dsimp only at i0 i1 hcs ⊢
  unfold V4
  refine ⟨fun c => ?_, fun c => ?_⟩
  · obtain ⟨x, hx, hE⟩ := hS1.get i0 (by omega)
    have hlt := E3 hx
    have hcl : cs.length ≤ (ofS q 1).length := by rw [hcs, List.length_map, List.length_take]; omega
    refine ⟨i0, by omega, x, hE, by simp only [List.length_cons, List.length_nil]; omega, ?_⟩
    rw [z6 i0 (by omega)]
    refine hn _ _ ⟨by dsimp only; omega, by dsimp only; omega, rfl, ?_⟩ (by dsimp only; omega)
    dsimp only
    rw [show (i + 1).toNat = i.toNat + 1 by omega, E6 hx, List.map_append, ← hcs]; rfl
  · unfold V3
    intro s2 H3 l3 hS3 _
    rw [hcs, List.take_of_length_le (by omega)] at hS3
    exact h s2 H3 (l1.trans l3) hS3
theorem b6o (hT : TabsH H) {p : m6} {q : PP} (hp : PH H p q) (hsm : q.Sm) {K : Sl → Int → Hp → Prop} (h : ∀ s H', Hle H H' → SlH H' 2 g9 s (ofS q 2) → K s (wellS q).2 H') : a3X p H K := by
  refine a7N _ ?_
  unfold a1R
  exact b8k hT hp hsm fun s1 H1 l1 hS1 _ => h s1 H1 l1 hS1
theorem a9F {q : PP} (h : (wellS q).2 = 0) (k : Int) : ofS q k = kF k q.decls := by unfold ofS; rw [if_pos h]
end
end Go.Proofs.YtaokfhdinhimfaaDoor
