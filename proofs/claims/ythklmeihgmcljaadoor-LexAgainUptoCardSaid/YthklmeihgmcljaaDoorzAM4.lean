/- Tokens: how many runes a piece has; the plain reader of tokens. No program in sight. -/
import Derived.Test.YthklmeihgmcljaaDoorzAM3
namespace Go.Proofs.YthklmeihgmcljaaDoor
open Go.RowKit
set_option maxRecDepth 100000
set_option maxHeartbeats 1000000
section
variable (s : ByteArray)
def cntF (is : Int → Bool) : Nat → Nat → Nat → Nat
  | 0, _, n => n
  | f + 1, p, n => if p < s.size ∧ is (rn s p) = true then cntF is f (p + wd s p) (n + 1) else n
theorem a1o (is : Int → Bool) : ∀ (f g p n : Nat), s.size - p ≤ f → s.size - p ≤ g → cntF s is f p n = cntF s is g p n
  | 0, 0, _, _, _, _ => rfl
  | 0, g + 1, p, n, h, _ => by rw [cntF, cntF, if_neg (by omega)]
  | f + 1, 0, p, n, _, h => by rw [cntF, cntF, if_neg (by omega)]
  | f + 1, g + 1, p, n, h, h' => by
    rw [cntF, cntF]
    have := q7 s p
    split
    · rw [a1o is f g _ _ (by omega) (by omega)]
    · rfl
def cnt (is : Int → Bool) (p n : Nat) : Nat := cntF s is (s.size - p) p n
variable {s}
theorem Y8 {is : Int → Bool} {p n : Nat} (hp : p < s.size) (hi : is (rn s p) = true) : cnt s is p n = cnt s is (p + wd s p) (n + 1) := by
  have := q7 s p
  obtain ⟨m, hm⟩ : ∃ m, s.size - p = m + 1 := ⟨s.size - p - 1, by omega⟩
  unfold cnt
  rw [hm, cntF, if_pos ⟨hp, hi⟩, a1o s is m (s.size - (p + wd s p)) _ _ (by omega) (by omega)]
theorem T8 {is : Int → Bool} {p n : Nat} (h : ¬ (p < s.size ∧ is (rn s p) = true)) : cnt s is p n = n := by
  unfold cnt
  cases s.size - p with
  | zero => rw [cntF]
  | succ f => rw [cntF, if_neg h]
theorem Go2.size {p q : Nat} {a b : Int × Int} (h : Go2 s p a q b) (hp : p ≤ s.size) : q ≤ s.size := by
  induction h with
  | refl => exact hp
  | step hq _ ih => exact ih (O4 hq)
theorem a0D {is : Int → Bool} {p e : Nat} : ∀ (n q m : Nat) (a : Int × Int), s.size - q ≤ n → p ≤ q → q ≤ s.size → (Wr s is q a).1 = e → (runes (s.extract p e) (e - q) (q - p)).length + m = cnt s is q m
  | 0, q, m, a, h, h1, h2, he => by
    rw [u0 (by omega)] at he
    dsimp only at he
    subst he
    rw [T8 (by omega), Nat.sub_self, runes]
    exact Nat.zero_add _
  | n + 1, q, m, a, h, h1, h2, he => by
    by_cases c : q < s.size ∧ is (rn s q) = true
    · have hw := q7 s q
      have hl := O4 c.1
      rw [B7 c.1 c.2] at he
      have hg := G6 (s := s) is _ (q + wd s q) (stepP a (rn s q)) (Nat.le_refl _)
      have h3 := hg.le
      have h4 := hg.size hl
      rw [he] at h3 h4
      have ih := a0D (p := p) n (q + wd s q) (m + 1) _ (by omega) (by omega) hl he
      have hz : (s.extract p e).size = e - p := A5 (by omega) h4
      have hd : Utf8.decode (s.extract p e) (q - p) = Utf8.decode s q := by
        have := a0g (s := s) (p := p) (e := e) (i := q - p) h4 (by omega) (by rw [show p + (q - p) = q by omega]; exact h3)
        rw [this, show p + (q - p) = q by omega]
      obtain ⟨k, hk⟩ : ∃ k, e - q = k + 1 := ⟨e - q - 1, by omega⟩
      rw [Y8 c.1 c.2, ← ih, hk, runes, if_pos (by omega), hd, List.length_cons]
      rw [show q - p + (Utf8.decode s q).2 = q + wd s q - p by show q - p + wd s q = _; omega]
      rw [V5 (s.extract p e) k (e - (q + wd s q)) _ (by omega) (by omega)]
      omega
    · rw [u0 c] at he
      dsimp only at he
      subst he
      rw [T8 c, Nat.sub_self, runes]
      exact Nat.zero_add _
theorem a1J {is : Int → Bool} {p : Nat} {a : Int × Int} (hp : p ≤ s.size) : (runesOf (s.extract p (Wr s is p a).1)).length = cnt s is p 0 := by
  have hg := G6 (s := s) is _ p a (Nat.le_refl _)
  have hz := A5 hg.le (hg.size hp)
  have := a0D (s := s) (is := is) (p := p) (e := (Wr s is p a).1) _ p 0 a (Nat.le_refl _) (Nat.le_refl _) hp rfl
  rw [Nat.sub_self] at this
  unfold runesOf
  rw [hz]
  exact this
end
end Go.Proofs.YthklmeihgmcljaaDoor
