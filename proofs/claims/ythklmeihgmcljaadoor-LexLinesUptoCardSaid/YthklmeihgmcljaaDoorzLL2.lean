/- Tokens: the document's reader answers what the plain one does. Off the printed formulas. -/
import Derived.Test.YthklmeihgmcljaaDoorzLL1
namespace Go.Proofs.YthklmeihgmcljaaDoor
open Go.RowKit
set_option maxRecDepth 100000
set_option maxHeartbeats 1000000
abbrev plv (b : Int × Int) : b6 := b6.mk b.1 b.2
def Pl (a : Int × Int) (p : Nat) : Prop := 1 ≤ a.1 ∧ a.1 ≤ p + 1 ∧ 1 ≤ a.2 ∧ a.2 ≤ p + 1
section
variable {s : ByteArray}
theorem Pl.step {a : Int × Int} {p : Nat} (h : Pl a p) : Pl (stepP a (rn s p)) (p + wd s p) := by
  have := q8 s p
  unfold Pl at h ⊢
  unfold stepP
  split <;> (dsimp only; omega)
theorem Go2.pl {p q : Nat} {a b : Int × Int} (h : Go2 s p a q b) : Pl a p → Pl b q := by
  induction h with
  | refl => exact id
  | step _ _ ih => exact fun k => ih k.step
theorem Pl0 : Pl (1, 1) 0 := ⟨by decide, by decide, by decide, by decide⟩
theorem a6K {n : Nat} : ∀ {p : Nat} (a : Int × Int), s.size - p ≤ n → ∃ b, Go2 s p a (sk s p) b := by
  induction n with
  | zero => intro p a h; rw [E3 (.inl (by omega))]; exact ⟨a, .refl⟩
  | succ n ih =>
    intro p a h
    by_cases hp : p < s.size
    · by_cases c : by8 s p = 35
      · have h1 := Z4 hp c
        have h2 := H9 (s := s) notNl _ p a (Nat.le_refl _)
        rw [← a2k _ p a (Nat.le_refl _)] at h2
        obtain ⟨b, hb⟩ := ih (p := nl s p) (Wr s notNl p a).2 (by omega)
        rw [V7 hp c]
        exact ⟨b, h2.trans hb⟩
      · by_cases d : blankS (rn s p) = true
        · have := q8 s p
          obtain ⟨b, hb⟩ := ih (p := p + wd s p) (stepP a (rn s p)) (by omega)
          rw [Q1 hp c d]
          exact ⟨b, .step hp hb⟩
        · rw [E3 (.inr ⟨c, by simpa using d⟩)]; exact ⟨a, .refl⟩
    · rw [E3 (.inl hp)]; exact ⟨a, .refl⟩
theorem a2m {p : Nat} (hp : p ≤ s.size) : p ≤ sk s p ∧ sk s p ≤ s.size := by
  obtain ⟨b, h⟩ := a6K (s := s) (p := p) (0, 0) (Nat.le_refl _)
  exact ⟨h.le, h.size hp⟩
theorem a5x {n : Nat} : ∀ {p : Nat}, s.size - p ≤ n → sk s p < s.size → by8 s (sk s p) ≠ 35 ∧ blankS (rn s (sk s p)) = false := by
  induction n with
  | zero => intro p h k; rw [E3 (.inl (by omega))] at k; omega
  | succ n ih =>
    intro p h
    by_cases hp : p < s.size
    · by_cases c : by8 s p = 35
      · have h1 := Z4 hp c
        rw [V7 hp c]
        exact ih (by omega)
      · by_cases d : blankS (rn s p) = true
        · have := q8 s p
          rw [Q1 hp c d]
          exact ih (by omega)
        · intro _
          rw [E3 (.inr ⟨c, by simpa using d⟩)]
          exact ⟨c, by simpa using d⟩
    · intro k; rw [E3 (.inl hp)] at k; omega
theorem a2X {p : Nat} (a : Int × Int) (hp : p < s.size) (h : by8 s p < 128) : ∃ b, Go2 s p a (p + 1) b := by
  have := Go2.one (s := s) (a := a) hp
  rw [(K9 h).2] at this
  exact ⟨_, this⟩
theorem a0w {p : Nat} (h : classS (rn s p) = 5) : by8 s p < 128 := by
  refine Z3 ?_
  unfold classS at h
  split at h
  · cases h
  · split at h
    · cases h
    · split at h
      · rename_i q; unfold signR at q; omega
      · split at h
        · cases h
        · split at h
          · cases h
          · split at h <;> cases h
theorem a5y {p : Nat} (a : Int × Int) (hp : p < s.size) (h : (oneO s p).err = 0) : ∃ b, Go2 s p a (oneO s p).stop b := by
  unfold oneO at h ⊢
  split at h
  · rename_i c
    rw [if_pos c]
    have g := H9 (s := s) goesS _ p (0, 0) (Nat.le_refl _)
    obtain ⟨b, hb⟩ : ∃ b, Go2 s p a (Wr s goesS p (0, 0)).1 b := by
      have := H9 (s := s) goesS _ p a (Nat.le_refl _)
      have e : (Wr s goesS p a).1 = (Wr s goesS p (0, 0)).1 := by
        have : ∀ (f q : Nat) (a b : Int × Int), (whl s goesS f q a).1 = (whl s goesS f q b).1 := by
          intro f
          induction f with
          | zero => intro q a b; rw [whl, whl]
          | succ f ih =>
            intro q a b
            rw [whl, whl]
            split
            · exact ih _ _ _
            · rfl
        exact this _ _ _ _
      rw [e] at this
      exact ⟨_, this⟩
    unfold wordO at h ⊢
    split at h
    · rename_i d; rw [if_pos d]; exact ⟨b, hb⟩
    · rename_i d
      rw [if_neg d]
      split at h
      · cases h
      · rename_i e; rw [if_neg e]; exact ⟨b, hb⟩
  · rename_i c
    rw [if_neg c]
    split at h
    · rename_i c2
      rw [if_pos c2]
      unfold numO at h ⊢
      split at h
      · cases h
      · rename_i d
        rw [if_neg d]
        have g := H9 (s := s) digitR _ p a (Nat.le_refl _)
        rw [(V8 _ p 0 a (Nat.le_refl _)).2.2.2.2] at g
        exact ⟨_, g⟩
    · rename_i c2
      rw [if_neg c2]
      split at h
      · rename_i c3
        rw [if_pos c3]
        have ha := a0w c3
        obtain ⟨b, hb⟩ := a2X a hp ha
        unfold signO at h ⊢
        split at h
        · rename_i d
          rw [if_pos d]
          unfold two at d
          obtain ⟨b2, hb2⟩ := a2X (s := s) (p := p + 1) b d.1 (by omega)
          exact ⟨b2, hb.trans hb2⟩
        · rename_i d
          rw [if_neg d]
          split at h
          · cases h
          · rename_i e; rw [if_neg e]; exact ⟨b, hb⟩
      · cases h
theorem a5z {n : Nat} : ∀ {p q : Nat} (a : Int × Int), s.size - p ≤ n → chkAt s p = some q → q < s.size ∧ ∃ b, Go2 s p a q b := by
  induction n with
  | zero => intro p q a h k; rw [Q4 s p (by omega)] at k; cases k
  | succ n ih =>
    intro p q a h k
    by_cases hp : p < s.size
    · rw [S3 s p hp] at k
      split at k
      · cases k; exact ⟨hp, a, .refl⟩
      · have := q8 s p
        obtain ⟨h1, b, h2⟩ := ih (stepP a (rn s p)) (by show s.size - (p + wd s p) ≤ n; omega) k
        exact ⟨h1, b, .step hp h2⟩
    · rw [Q4 s p (by omega)] at k; cases k
end
section
variable {H : Hp} {s : ByteArray} (hs : s.size ≤ big)
include hs
end
end Go.Proofs.YthklmeihgmcljaaDoor
