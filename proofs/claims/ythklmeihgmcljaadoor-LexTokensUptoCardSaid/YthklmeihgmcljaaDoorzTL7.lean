/- Tokens: what the statements share: tokens whose answer is kept, what is known, whether two answers are the same. -/
import Derived.Test.YthklmeihgmcljaaDoorzTL6
namespace Go.Proofs.YthklmeihgmcljaaDoor
open Go.RowKit
set_option maxRecDepth 100000
set_option maxHeartbeats 1000000
theorem known1 : tkS ⟨#[120, 49, 60, 61, 45, 53, 35, 99]⟩ = ([⟨1, ⟨#[120, 49]⟩, 0, (1, 1)⟩, ⟨4, ⟨#[60, 61]⟩, 0, (1, 3)⟩, ⟨4, ⟨#[45]⟩, 0, (1, 5)⟩, ⟨2, ⟨#[53]⟩, 5, (1, 6)⟩, ⟨5, ⟨#[]⟩, 0, (1, 9)⟩], (0, 0), 0) := by kernel_rfl
theorem a9A : tkS ⟨#[97, 32, 38, 32, 98]⟩ = ([], (1, 3), 20) := by kernel_rfl
section
variable {H : Hp} (hT : TabsH H) (hE : ErrH H)
include hT hE
theorem a1b {s : ByteArray} (hs4 : s.size ≤ 4194304) {K : Sl → a8 → Int → Hp → Prop} (h : ∀ (e : Sl) (H' : Hp), Hle H H' → SlH H' 5 b6 e ((tkS s).1.map tkv) → K e (plv (tkS s).2.1) (tkS s).2.2 H') : L0 s H K := fun w I =>
  Cv.mono (a2F hT hE hs4 w I) (fun _ _ ⟨_, _, J, e, F, hv, hf, hh, hr⟩ => by
    subst hf; subst hh
    obtain ⟨H2, J2, hl, hsl⟩ := J.freezeL hr (by decide)
    exact ⟨H2, [], J2, e, _, _, hv, rfl, h e H2 hl hsl⟩) fun _ _ ⟨_, _, _, q⟩ => q.elim
theorem a6R {K : Bool → Hp → Prop} (h : ∀ H', Hle H H' → K true H') : P5 H K := by
  refine X3 ?_
  unfold H7
  refine a1b hT hE (by decide) fun e H1 h1 hs1 => a1b (hT.le h1) (hE.le h1) (by decide) fun e2 H2 h2 _ => ?_
  rw [known1] at hs1 ⊢
  rw [a9A]
  have hs2 := hs1.le h2
  have hn : e.n = 5 := hs1.1
  refine ⟨_, fun _ => ⟨by decide, by omega, hs2.2 1 _ rfl⟩, _, fun _ => ⟨by decide, by omega, hs2.2 3 _ rfl⟩, _, fun _ => ⟨by decide, by omega, hs2.2 4 _ rfl⟩, ?_⟩
  rw [hn]
  exact h H2 (h1.trans h2)
end
section
variable {H : Hp}
theorem a4x {x y : Sl} {l : List a6} (hx : SlH H 5 b6 x l) (hy : SlH H 5 b6 y l) (hl : l.length ≤ big) {K : Bool → Hp → Prop} (h : K true H) : C1 x y H K := by
  refine Z1 _ _ ?_
  unfold K5
  have h1 : x.n = l.length := hx.1
  have h2 : y.n = l.length := hy.1
  simp only [big] at hl
  refine ⟨fun q => absurd (by rw [h1, h2]) q, fun _ => ?_⟩
  refine G4 (fun (z : Int) H' => H' = H ∧ ∃ i : Nat, z = i ∧ i ≤ l.length) (fun z => (l.length - z).toNat) ⟨rfl, 0, rfl, Nat.zero_le _⟩ ?_
  rintro z H1 next ⟨rfl, i, rfl, hi⟩ hk
  unfold A4
  refine ⟨fun c => ?_, fun _ => h⟩
  obtain ⟨a, ha⟩ := a2f (l := l) (i := i) (by omega)
  refine ⟨by omega, by omega, a, by have := hx.2 i a ha; exact this, by omega, by omega, a, by have := hy.2 i a ha; exact this, fun q => absurd ⟨rfl, rfl, rfl, rfl, rfl⟩ q, fun _ => ?_⟩
  rw [o4 ⟨by omega, by omega⟩]
  exact hk _ _ ⟨rfl, i + 1, rfl, by omega⟩ (by omega)
end
end Go.Proofs.YthklmeihgmcljaaDoor
