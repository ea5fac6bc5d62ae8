/- Tokens: what the statements share: tokens whose answer is kept, what is known, whether two answers are the same. -/
import Derived.Test.YthklmeihgmcljaaDoorzAL6
namespace Go.Proofs.YthklmeihgmcljaaDoor
open Go.RowKit
set_option maxRecDepth 100000
set_option maxHeartbeats 1000000
theorem known1 : tkS ⟨#[120, 49, 60, 61, 45, 53, 35, 99]⟩ = ([⟨1, ⟨#[120, 49]⟩, 0, (1, 1)⟩, ⟨4, ⟨#[60, 61]⟩, 0, (1, 3)⟩, ⟨4, ⟨#[45]⟩, 0, (1, 5)⟩, ⟨2, ⟨#[53]⟩, 5, (1, 6)⟩, ⟨5, ⟨#[]⟩, 0, (1, 9)⟩], (0, 0), 0) := by kernel_rfl
theorem a6K : tkS ⟨#[97, 32, 38, 32, 98]⟩ = ([], (1, 3), 20) := by kernel_rfl
section
variable {H : Hp} (hT : TabsH H) (hE : ErrH H)
include hT hE
theorem S3 {s : ByteArray} (hs4 : s.size ≤ 4194304) {K : Sl → b7 → Int → Hp → Prop} (h : ∀ (e : Sl) (H' : Hp), Hle H H' → SlH H' 5 b9 e ((tkS s).1.map tkv) → K e (plv (tkS s).2.1) (tkS s).2.2 H') : y5 s H K := fun w I =>
  Cv.mono (a3K hT hE hs4 w I) (fun _ _ ⟨_, _, J, e, F, hv, hf, hh, hr⟩ => by
    subst hf; subst hh
    obtain ⟨H2, J2, hl, hsl⟩ := J.freezeL hr (by decide)
    exact ⟨H2, [], J2, e, _, _, hv, rfl, h e H2 hl hsl⟩) fun _ _ ⟨_, _, _, q⟩ => q.elim
theorem a4o {K : Bool → Hp → Prop} (h : ∀ H', Hle H H' → K true H') : C2 H K := by
  refine Q1 ?_
  unfold C4
  refine S3 hT hE (by decide) fun e H1 h1 hs1 => S3 (hT.le h1) (hE.le h1) (by decide) fun e2 H2 h2 _ => ?_
  rw [known1] at hs1 ⊢
  rw [a6K]
  have hs2 := hs1.le h2
  have hn : e.n = 5 := hs1.1
  refine ⟨_, fun _ => ⟨by decide, by omega, hs2.2 1 _ rfl⟩, _, fun _ => ⟨by decide, by omega, hs2.2 3 _ rfl⟩, _, fun _ => ⟨by decide, by omega, hs2.2 4 _ rfl⟩, ?_⟩
  rw [hn]
  exact h H2 (h1.trans h2)
end
section
variable {H : Hp}
end
end Go.Proofs.YthklmeihgmcljaaDoor
