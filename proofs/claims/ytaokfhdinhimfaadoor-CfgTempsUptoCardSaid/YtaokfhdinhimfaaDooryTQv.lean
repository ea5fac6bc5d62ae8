/- The laws WellExact, WellParts. Contracts off the printed formulas. -/
import Derived.Test.YtaokfhdinhimfaaDooryTQz
namespace Go.Proofs.YtaokfhdinhimfaaDoor
open Go.RowKit
set_option maxRecDepth 100000
set_option maxHeartbeats 2000000
section
variable {H : Hp}
theorem b0g (q : PP) (k : Int) : (ofS q k).length ≤ q.decls.length := by
  unfold ofS; split
  · exact List.length_filter_le _ _
  · exact Nat.zero_le _
theorem b5c (hT : TabsH H) {p : o8} {q : PP} (hp : PH H p q) (hsm : q.Sm) {K : Sl → Int → Hp → Prop} (h : ∀ s H', Hle H H' → SlH H' 1 r9 s ((ofS q 1).map (·.f0)) → K s (wellS q).2 H') : a2J p H K := by
  refine a6b _ ?_
  unfold a0Q
  have hb := hp.bd
  simp only [big] at hb
  have hle := b0g q 1
  refine b4p hT hp hsm fun s1 H1 l1 hS1 _ => ?_
  have n1 := hS1.1
  refine Y7 (fun (z : List ByteArray × Int) H' => 0 ≤ z.2 ∧ z.2 ≤ (ofS q 1).length ∧ H' = H1 ∧ z.1 = ((ofS q 1).take z.2.toNat).map (·.f0)) (fun z => ((ofS q 1).length - z.2).toNat) ⟨Int.le_refl _, by dsimp only; omega, rfl, rfl⟩ ?_
  rintro ⟨cs, i⟩ H2 next ⟨i0, i1, rfl, hcs⟩ hn
  dsimp only at i0 i1 hcs ⊢
  unfold R3
  refine ⟨fun c => ?_, fun c => ?_⟩
  · obtain ⟨x, hx, hE⟩ := hS1.get i0 (by omega)
    have hlt := D1 hx
    have hcl : cs.length ≤ (ofS q 1).length := by rw [hcs, List.length_map, List.length_take]; omega
    refine ⟨i0, by omega, x, hE, by simp only [List.length_cons, List.length_nil]; omega, ?_⟩
    rw [B0 i0 (by omega)]
    refine hn _ _ ⟨by dsimp only; omega, by dsimp only; omega, rfl, ?_⟩ (by dsimp only; omega)
    dsimp only
    rw [show (i + 1).toNat = i.toNat + 1 by omega, G2 hx, List.map_append, ← hcs]; rfl
  · unfold R2
    intro s2 H3 l3 hS3 _
    rw [hcs, List.take_of_length_le (by omega)] at hS3
    exact h s2 H3 (l1.trans l3) hS3
theorem b2M (hT : TabsH H) {p : o8} {q : PP} (hp : PH H p q) (hsm : q.Sm) {K : Sl → Int → Hp → Prop} (h : ∀ s H', Hle H H' → SlH H' 2 f7 s (ofS q 2) → K s (wellS q).2 H') : a1X p H K := by
  refine a5B _ ?_
  unfold a0s
  exact b4p hT hp hsm fun s1 H1 l1 hS1 _ => h s1 H1 l1 hS1
end
end Go.Proofs.YtaokfhdinhimfaaDoor
