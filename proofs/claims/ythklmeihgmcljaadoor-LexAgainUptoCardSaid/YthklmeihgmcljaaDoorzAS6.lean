/- Thawing: what was frozen for a call is owned again behind it. No program in sight. -/
import Derived.Test.YthklmeihgmcljaaDoorzAS3
namespace Go.Proofs.YthklmeihgmcljaaDoor
open Go.RowKit
def subF (H : Hp) (F : Frag) : Hp := fun i => if F.any (fun p => p.1 == i) = true then none else H i
section
variable {w0 w w' : World} {ps : Nat → Prop} {H0 H H' : Hp} {Fs : List Frag} {F : Frag}
theorem a5e {p : Nat × Obj} (hp : p ∈ F) : subF H F p.1 = none := by
  unfold subF
  rw [if_pos (List.any_eq_true.2 ⟨p, hp, by simp⟩)]
theorem Z0 {i : Nat} (h : ∀ p ∈ F, p.1 ≠ i) : subF H F i = H i := by
  unfold subF
  rw [if_neg]
  intro q
  obtain ⟨p, hp, e⟩ := List.any_eq_true.1 q
  exact h p hp (by simpa using e)
theorem a2d : Hle (subF H F) H := fun i o h => by
  unfold subF at h
  split at h
  · cases h
  · exact h
theorem Inv.thaw (I : Inv w0 ps H0 H Fs w) (hF : ∀ p ∈ F, H p.1 = some p.2) (hn : (F.map (·.1)).Nodup) (hf : ∀ p ∈ F, ps p.1 ∨ w0.heap.size ≤ p.1) (h0 : ∀ p ∈ F, H0 p.1 = none) : Inv w0 ps H0 (subF H F) (F :: Fs) w := by
  have out : ∀ i, H i = none ∨ (∀ p ∈ F, p.1 ≠ i) → ∀ p ∈ F, H i = none → p.1 ≠ i := fun i _ p hp hi e => by
    subst e
    rw [hF p hp] at hi
    cases hi
  refine ⟨fun i o h => I.sub i o (a2d i o h), ?_, ?_, ?_, ?_, I.frame, I.mono, I.os, I.tape, I.output, ?_, ?_⟩
  · intro p hp
    rw [List.flatten_cons] at hp
    rcases List.mem_append.1 hp with hp | hp
    · exact I.sub _ _ (hF p hp)
    · exact I.own p hp
  · intro p hp
    rw [List.flatten_cons] at hp
    rcases List.mem_append.1 hp with hp | hp
    · exact a5e hp
    · cases h : subF H F p.1 with
      | none => rfl
      | some o => have := a2d _ _ h; rw [I.priv p hp] at this; cases this
  · rw [List.flatten_cons, List.map_append]
    refine List.nodup_append.2 ⟨hn, I.nodup, ?_⟩
    intro a ha b hb e
    subst e
    obtain ⟨p, hp, rfl⟩ := List.mem_map.1 ha
    obtain ⟨q, hq, e⟩ := List.mem_map.1 hb
    have := I.priv q hq
    rw [e, hF p hp] at this
    cases this
  · intro p hp
    rw [List.flatten_cons] at hp
    rcases List.mem_append.1 hp with hp | hp
    · exact hf p hp
    · exact I.fresh p hp
  · intro i o h
    rw [Z0 fun p hp e => by subst e; rw [h0 p hp] at h; cases h]
    exact I.le i o h
  · intro i hi hp
    rw [Z0 fun q hq e => by
      subst e
      rcases hf q hq with h | h
      · exact hp h
      · omega]
    exact I.back i hi hp
theorem Inv.again (I : Inv w0 ps H0 H (F :: Fs) w) (J : Inv w0 ps H0 H' Fs w') (l : Hle (addF H F) H') : Inv w0 ps H0 (subF H' F) (F :: Fs) w' ∧ Hle H (subF H' F) := by
  have nd := I.nodup
  rw [List.flatten_cons, List.map_append] at nd
  obtain ⟨n1, _, _⟩ := List.nodup_append.1 nd
  have hin : ∀ p ∈ F, p ∈ (F :: Fs).flatten := fun p hp => List.mem_append_left _ hp
  refine ⟨J.thaw (fun p hp => l _ _ (a1P n1 hp)) n1 (fun p hp => I.fresh p (hin p hp)) (fun p hp => ?_), fun i o h => ?_⟩
  · cases h : H0 p.1 with
    | none => rfl
    | some o => have := I.le _ _ h; rw [I.priv p (hin p hp)] at this; cases this
  · rw [Z0 fun p hp e => by subst e; rw [I.priv p (hin p hp)] at h; cases h]
    exact l _ _ (I.freeze.2.1 _ _ h)
end
end Go.Proofs.YthklmeihgmcljaaDoor
