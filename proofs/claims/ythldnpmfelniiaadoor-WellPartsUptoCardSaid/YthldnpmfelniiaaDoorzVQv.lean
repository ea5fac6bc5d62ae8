/- The laws WellExact, WellParts. Contracts off the printed formulas. -/
import Derived.Test.YthldnpmfelniiaaDoorzVQz
namespace Go.Proofs.YthldnpmfelniiaaDoor
open Go.RowKit
set_option maxRecDepth 100000
set_option maxHeartbeats 2000000
section
variable {H : Hp}
theorem d6K (q : PP) (k : Int) : (ofS q k).length ≤ q.decls.length := by
  unfold ofS; split
  · exact List.length_filter_le _ _
  · exact Nat.zero_le _
theorem c7m (hT : TabsH H) {p : i6} {q : PP} (hp : PH H p q) (hsm : q.Sm) {K : Sl → Int → Hp → Prop} (h : ∀ s H', Hle H H' → SlH H' 1 o8 s ((ofS q 1).map (·.c6)) → K s (wellS q).2 H') : a0I p H K := by
  refine a7Y _ ?_
  unfold V6
  have hb := hp.bd
  simp only [big] at hb
  have hle := d6K q 1
  refine c4I hT hp hsm fun s1 H1 l1 hS1 _ => ?_
  have n1 := hS1.1
  refine a0Q (fun (z : List ByteArray × Int) H' => 0 ≤ z.2 ∧ z.2 ≤ (ofS q 1).length ∧ H' = H1 ∧ z.1 = ((ofS q 1).take z.2.toNat).map (·.c6)) (fun z => ((ofS q 1).length - z.2).toNat) ⟨Int.le_refl _, by dsimp only; omega, rfl, rfl⟩ ?_
  rintro ⟨cs, i⟩ H2 next ⟨i0, i1, rfl, hcs⟩ hn
  dsimp only at i0 i1 hcs ⊢
  unfold R5
  refine ⟨fun c => ?_, fun c => ?_⟩
  · obtain ⟨x, hx, hE⟩ := hS1.get i0 (by omega)
    have hlt := E2 hx
    have hcl : cs.length ≤ (ofS q 1).length := by rw [hcs, List.length_map, List.length_take]; omega
    refine ⟨i0, by omega, x, hE, by simp only [List.length_cons, List.length_nil]; omega, ?_⟩
    rw [G3 i0 (by omega)]
    refine hn _ _ ⟨by dsimp only; omega, by dsimp only; omega, rfl, ?_⟩ (by dsimp only; omega)
    dsimp only
    rw [show (i + 1).toNat = i.toNat + 1 by omega, G4 hx, List.map_append, ← hcs]; rfl
  · unfold R4
    intro s2 H3 l3 hS3 _
    rw [hcs, List.take_of_length_le (by omega)] at hS3
    exact h s2 H3 (l1.trans l3) hS3
theorem c0W (hT : TabsH H) {p : i6} {q : PP} (hp : PH H p q) (hsm : q.Sm) {K : Sl → Int → Hp → Prop} (h : ∀ s H', Hle H H' → SlH H' 2 c7 s (ofS q 2) → K s (wellS q).2 H') : Z1 p H K := by
  refine a7a _ ?_
  unfold T1
  exact c4I hT hp hsm fun s1 H1 l1 hS1 _ => h s1 H1 l1 hS1
theorem c3P {q : PP} (h : (wellS q).2 = 0) (k : Int) : ofS q k = kF k q.decls := by unfold ofS; rw [if_pos h]
theorem b5o (hT : TabsH H) {p : i6} {q : PP} (hp : PH H p q) (hsm : q.Sm) (hcp : p.L8.n ≤ p.L8.c ∧ p.L1.n ≤ p.L1.c) {a b : Int} {X Y : Prop} (_ : X) (_ : Y) {K : Bool → Hp → Prop} (h : ∀ H', Hle H H' → K true H') : N8 p a b H K := by
  refine a2u _ _ _ ?_
  unfold J1
  refine c0Q hT fun H1 l1 => ⟨fun e => (by cases e), fun _ => ?_⟩
  refine a8C (hT.le l1) (hp.le l1) hsm fun H2 l2 => ?_
  have l12 := l1.trans l2
  refine ⟨fun _ => h H2 l12, fun hc => ?_⟩
  simp only [Bool.or_eq_false_iff, Bool.not_eq_false', decide_eq_true_eq, decide_eq_false_iff_not] at hc
  obtain ⟨⟨⟨he, ha⟩, hab⟩, hbn⟩ := hc
  refine c7m (hT.le l12) (hp.le l12) hsm fun s4 H4 l4 hS4 => ?_
  have l14 := l12.trans l4
  refine c0W (hT.le l14) (hp.le l14) hsm fun s5 H5 l5 hS5 => ?_
  have l15 := l14.trans l5
  have hp5 := hp.le l15
  obtain ⟨hd, hbd, xs, hsl, hxb, hr⟩ := hp5
  have nb1 := hsl.1
  have hlen := hr.1
  have hcap := hcp.2
  refine ⟨by omega, by omega, by omega, ?_⟩
  have hcut := hsl.cut (l := a.toNat) (h := b.toNat) (m := p.L1.c) (by omega) (by omega) (by omega)
  have hpr : PH H5 (i6.mk p.L8 (p.L1.cut a.toNat b.toNat p.L1.c 6)) ⟨q.decls, (q.body.take b.toNat).drop a.toNat⟩ := ⟨hd, hbd, (xs.take b.toNat).drop a.toNat, hcut, by rw [List.length_drop, List.length_take]; omega, by rw [List.length_drop, List.length_drop, List.length_take, List.length_take, hlen], fun i x t hx ht => by
    rw [List.getElem?_drop, List.getElem?_take] at hx ht
    split at hx
    · rename_i hlt
      rw [if_pos hlt] at ht
      exact hr.2 _ x t hx ht
    · cases hx⟩
  have hbody : q.body = (q.body.take b.toNat).take a.toNat ++ ((q.body.take b.toNat).drop a.toNat ++ q.body.drop b.toNat) := by
    rw [← List.append_assoc, List.take_append_drop, List.take_append_drop]
  have hsm' : PP.Sm ⟨q.decls, (q.body.take b.toNat).drop a.toNat⟩ := by
    intro t ht
    refine hsm t ?_
    unfold PP.nodes at ht ⊢
    rcases List.mem_append.1 ht with ht | ht
    · exact List.mem_append_left _ ht
    · exact List.mem_append_right _ (List.mem_of_mem_take (List.mem_of_mem_drop ht))
  refine a8C (hT.le l15) hpr hsm' fun H6 l6 => ?_
  have he' : (wellS ⟨q.decls, (q.body.take b.toNat).drop a.toNat⟩).2 = 0 := by
    refine c0S (a := (q.body.take b.toNat).take a.toNat) (c := q.body.drop b.toNat) ?_
    rw [← hbody]; exact he
  have e4 := hS4.1
  have e5 := hS5.1
  rw [c3P he] at e4 e5
  rw [List.length_map] at e4
  have hall := d6G q.decls
  have k1 : (kF 1 q.decls).length = nk q.decls 1 := rfl
  have k2 : (kF 2 q.decls).length = nk q.decls 2 := rfl
  have hn := hd.1
  have hbd' := hbd
  simp only [big] at hbd'
  have e6 : IntKind.wrap .i64 ((s4.n : Int) + (s5.n : Int)) = (p.L8.n : Int) := by
    rw [a1B ⟨by omega, by omega⟩]; omega
  rw [e6, he']
  simp only [decide_true, Bool.and_self]
  exact h H6 (l15.trans l6)
end
end Go.Proofs.YthldnpmfelniiaaDoor
