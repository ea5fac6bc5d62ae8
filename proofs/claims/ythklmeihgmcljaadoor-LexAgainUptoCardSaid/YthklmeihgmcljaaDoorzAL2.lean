/- Tokens: the document's reader answers what the plain one does. Off the printed formulas. -/
import Derived.Test.YthklmeihgmcljaaDoorzAL1
namespace Go.Proofs.YthklmeihgmcljaaDoor
open Go.RowKit
set_option maxRecDepth 100000
set_option maxHeartbeats 1000000
abbrev plv (b : Int × Int) : b7 := b7.mk b.1 b.2
def Pl (a : Int × Int) (p : Nat) : Prop := 1 ≤ a.1 ∧ a.1 ≤ p + 1 ∧ 1 ≤ a.2 ∧ a.2 ≤ p + 1
section
variable {s : ByteArray}
theorem Pl.step {a : Int × Int} {p : Nat} (h : Pl a p) : Pl (stepP a (rn s p)) (p + wd s p) := by
  have := q7 s p
  unfold Pl at h ⊢
  unfold stepP
  split <;> (dsimp only; omega)
theorem Go2.pl {p q : Nat} {a b : Int × Int} (h : Go2 s p a q b) : Pl a p → Pl b q := by
  induction h with
  | refl => exact id
  | step _ _ ih => exact fun k => ih k.step
theorem Pl0 : Pl (1, 1) 0 := ⟨by decide, by decide, by decide, by decide⟩
theorem a4D {n : Nat} : ∀ {p : Nat} (a : Int × Int), s.size - p ≤ n → ∃ b, Go2 s p a (sk s p) b := by
  induction n with
  | zero => intro p a h; rw [G0 (.inl (by omega))]; exact ⟨a, .refl⟩
  | succ n ih =>
    intro p a h
    by_cases hp : p < s.size
    · by_cases c : by8 s p = 35
      · have h1 := a0f hp c
        have h2 := G6 (s := s) notNl _ p a (Nat.le_refl _)
        rw [← a2D _ p a (Nat.le_refl _)] at h2
        obtain ⟨b, hb⟩ := ih (p := nl s p) (Wr s notNl p a).2 (by omega)
        rw [X0 hp c]
        exact ⟨b, h2.trans hb⟩
      · by_cases d : blankS (rn s p) = true
        · have := q7 s p
          obtain ⟨b, hb⟩ := ih (p := p + wd s p) (stepP a (rn s p)) (by omega)
          rw [N7 hp c d]
          exact ⟨b, .step hp hb⟩
        · rw [G0 (.inr ⟨c, by simpa using d⟩)]; exact ⟨a, .refl⟩
    · rw [G0 (.inl hp)]; exact ⟨a, .refl⟩
theorem a0O {p : Nat} (hp : p ≤ s.size) : p ≤ sk s p ∧ sk s p ≤ s.size := by
  obtain ⟨b, h⟩ := a4D (s := s) (p := p) (0, 0) (Nat.le_refl _)
  exact ⟨h.le, h.size hp⟩
theorem a5R {n : Nat} : ∀ {p : Nat}, s.size - p ≤ n → sk s p < s.size → by8 s (sk s p) ≠ 35 ∧ blankS (rn s (sk s p)) = false := by
  induction n with
  | zero => intro p h k; rw [G0 (.inl (by omega))] at k; omega
  | succ n ih =>
    intro p h
    by_cases hp : p < s.size
    · by_cases c : by8 s p = 35
      · have h1 := a0f hp c
        rw [X0 hp c]
        exact ih (by omega)
      · by_cases d : blankS (rn s p) = true
        · have := q7 s p
          rw [N7 hp c d]
          exact ih (by omega)
        · intro _
          rw [G0 (.inr ⟨c, by simpa using d⟩)]
          exact ⟨c, by simpa using d⟩
    · intro k; rw [G0 (.inl hp)] at k; omega
theorem a3p {p : Nat} (a : Int × Int) (hp : p < s.size) (h : by8 s p < 128) : ∃ b, Go2 s p a (p + 1) b := by
  have := Go2.one (s := s) (a := a) hp
  rw [(G7 h).2] at this
  exact ⟨_, this⟩
theorem V8 {p : Nat} (h : classS (rn s p) = 5) : by8 s p < 128 := by
  refine a0e ?_
  unfold classS at h
  split at h
  · cases h
  · split at h
    · cases h
    · split at h
      · rename_i q; unfold signR at q; omega
      · split at h
        · cases h
        · split at h
          · cases h
          · split at h <;> cases h
theorem a1p {p : Nat} (a : Int × Int) (hp : p < s.size) (h : (oneO s p).err = 0) : ∃ b, Go2 s p a (oneO s p).stop b := by
  unfold oneO at h ⊢
  split at h
  · rename_i c
    rw [if_pos c]
    have g := G6 (s := s) goesS _ p (0, 0) (Nat.le_refl _)
    obtain ⟨b, hb⟩ : ∃ b, Go2 s p a (Wr s goesS p (0, 0)).1 b := by
      have := G6 (s := s) goesS _ p a (Nat.le_refl _)
      have e : (Wr s goesS p a).1 = (Wr s goesS p (0, 0)).1 := by
        have : ∀ (f q : Nat) (a b : Int × Int), (whl s goesS f q a).1 = (whl s goesS f q b).1 := by
          intro f
          induction f with
          | zero => intro q a b; rw [whl, whl]
          | succ f ih =>
            intro q a b
            rw [whl, whl]
            split
            · exact ih _ _ _
            · rfl
        exact this _ _ _ _
      rw [e] at this
      exact ⟨_, this⟩
    unfold wordO at h ⊢
    split at h
    · rename_i d; rw [if_pos d]; exact ⟨b, hb⟩
    · rename_i d
      rw [if_neg d]
      split at h
      · cases h
      · rename_i e; rw [if_neg e]; exact ⟨b, hb⟩
  · rename_i c
    rw [if_neg c]
    split at h
    · rename_i c2
      rw [if_pos c2]
      unfold numO at h ⊢
      split at h
      · cases h
      · rename_i d
        rw [if_neg d]
        have g := G6 (s := s) digitR _ p a (Nat.le_refl _)
        rw [(Q5 _ p 0 a (Nat.le_refl _)).2.2.2.2] at g
        exact ⟨_, g⟩
    · rename_i c2
      rw [if_neg c2]
      split at h
      · rename_i c3
        rw [if_pos c3]
        have ha := V8 c3
        obtain ⟨b, hb⟩ := a3p a hp ha
        unfold signO at h ⊢
        split at h
        · rename_i d
          rw [if_pos d]
          unfold two at d
          obtain ⟨b2, hb2⟩ := a3p (s := s) (p := p + 1) b d.1 (by omega)
          exact ⟨b2, hb.trans hb2⟩
        · rename_i d
          rw [if_neg d]
          split at h
          · cases h
          · rename_i e; rw [if_neg e]; exact ⟨b, hb⟩
      · cases h
theorem a5S {n : Nat} : ∀ {p q : Nat} (a : Int × Int), s.size - p ≤ n → chkAt s p = some q → q < s.size ∧ ∃ b, Go2 s p a q b := by
  induction n with
  | zero => intro p q a h k; rw [S0 s p (by omega)] at k; cases k
  | succ n ih =>
    intro p q a h k
    by_cases hp : p < s.size
    · rw [M5 s p hp] at k
      split at k
      · cases k; exact ⟨hp, a, .refl⟩
      · have := q7 s p
        obtain ⟨h1, b, h2⟩ := ih (stepP a (rn s p)) (by show s.size - (p + wd s p) ≤ n; omega) k
        exact ⟨h1, b, .step hp h2⟩
    · rw [S0 s p (by omega)] at k; cases k
end
section
variable {H : Hp} {s : ByteArray} (hs : s.size ≤ big)
include hs
end
end Go.Proofs.YthklmeihgmcljaaDoor
