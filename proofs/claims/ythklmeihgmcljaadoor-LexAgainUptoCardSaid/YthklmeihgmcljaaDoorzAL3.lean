/- Tokens: the document's numbers, signs, tokens. Off the printed formulas. -/
import Derived.Test.YthklmeihgmcljaaDoorzAL2
namespace Go.Proofs.YthklmeihgmcljaaDoor
open Go.RowKit
set_option maxRecDepth 100000
set_option maxHeartbeats 1000000
abbrev tokO (o : On) : a6 := a6.mk o.kind o.text o.num (b7.mk 0 0)
abbrev tkv (t : Tk) : a6 := a6.mk t.kind t.text t.num (plv t.at_)
theorem w8 {a : Int} (h0 : 0 ≤ a) (h1 : a < 256) : IntKind.wrap .u8 a = a := by
  simp [IntKind.wrap, IntKind.bits, IntKind.signed]; omega
section
variable {s : ByteArray}
theorem a4E {p v : Nat} (hp : p ≤ s.size) : p ≤ (dg s p v).1 ∧ (dg s p v).1 ≤ s.size := by
  have h := Q5 (s := s) _ p v (0, 0) (Nat.le_refl _)
  have := h.2.1
  exact ⟨h.1, by omega⟩
theorem a7j {p : Nat} (h : p + 2 ≤ s.size) : s.extract p (p + 2) = ⟨#[s.get! p, s.get! (p + 1)]⟩ := by
  apply ByteArray.ext
  apply Array.toList_inj.1
  rw [ByteArray.data_extract, Array.toList_extract, List.extract_eq_take_drop, N9 (by omega), N9 (by omega), show p + 2 - p = 2 by omega]
  rfl
theorem a1q {p : Nat} (h : p + 2 ≤ s.size) (x y : UInt8) : s.extract p (p + 2) = ⟨#[x, y]⟩ ↔ by8 s p = x.toNat ∧ by8 s (p + 1) = y.toNat := by
  rw [a7j h]
  unfold by8
  rw [UInt8.toNat_inj, UInt8.toNat_inj]
  constructor
  · intro e
    injection e with e
    have e := congrArg Array.toList e
    injection e with e1 e2
    injection e2 with e2 _
    exact ⟨e1, e2⟩
  · rintro ⟨e1, e2⟩; rw [e1, e2]
end
section
variable {H : Hp} {s : ByteArray} (hs : s.size ≤ big)
include hs
end
section
variable {H : Hp} {s : ByteArray} (hs : s.size ≤ big)
include hs
end
section
variable {s : ByteArray}
theorem R8 {p : Nat} (hp : p < s.size) (h : (oneO s p).err = 0) : p < (oneO s p).stop ∧ (oneO s p).stop ≤ s.size := by
  obtain ⟨b, g⟩ := a1p (0, 0) hp h
  refine ⟨?_, g.size (by omega)⟩
  have hw := q7 s p
  rcases Nat.lt_or_ge p (oneO s p).stop with q | q
  · exact q
  exfalso
  unfold oneO at h q
  split at h
  · rename_i c
    rw [if_pos c] at q
    have e := B7 (s := s) (is := goesS) (a := (0, 0)) hp (by unfold goesS; rw [decide_eq_true c]; rfl)
    have g2 := (G6 (s := s) goesS _ (p + wd s p) (stepP (0, 0) (rn s p)) (Nat.le_refl _)).le
    unfold wordO at h q
    split at h
    · rename_i d; rw [if_pos d, e] at q; dsimp only at q; omega
    · rename_i d
      rw [if_neg d] at q
      split at h
      · cases h
      · rename_i d2; rw [if_neg d2, e] at q; dsimp only at q; omega
  · rename_i c
    rw [if_neg c] at q
    split at h
    · rename_i c2
      rw [if_pos c2] at q
      unfold numO at h q
      split at h
      · cases h
      · rename_i d
        rw [if_neg d] at q
        dsimp only at q
        have hd := S1.1 (show digitR (rn s p) = true by unfold digitR; rw [decide_eq_true c2])
        have ha := a0e (s := s) (p := p) (by omega)
        have hr := (G7 ha).1
        rw [X1 hp (by omega)] at q
        have := (a4E (s := s) (p := p + 1) (v := 0 * 10 + (by8 s p - 48)) (by omega)).1
        omega
    · rename_i c2
      rw [if_neg c2] at q
      split at h
      · rename_i c3
        rw [if_pos c3] at q
        unfold signO at h q
        split at h
        · rename_i d; rw [if_pos d] at q; dsimp only at q; omega
        · rename_i d
          rw [if_neg d] at q
          split at h
          · cases h
          · rename_i d2; rw [if_neg d2] at q; dsimp only at q; omega
      · cases h
theorem a4W : ∀ (f g p : Nat) (a : Int × Int) (out : List Tk), s.size + 1 - p ≤ f → s.size + 1 - p ≤ g → p ≤ s.size → tkF s f p a out = tkF s g p a out := by
  intro f
  induction f with
  | zero => intro g p a out h1 h2 hp; omega
  | succ f ih =>
    intro g p a out h1 h2 hp
    cases g with
    | zero => omega
    | succ g =>
      rw [tkF, tkF]
      obtain ⟨k1, k2⟩ := a0O hp
      split
      · rfl
      · rename_i c
        split
        · rfl
        · split
          · rfl
          · rename_i c2
            have := R8 (p := sk s p) (by omega) (Classical.byContradiction fun x => c2 x)
            exact ih _ _ _ _ (by omega) (by omega) (by omega)
end
section
variable {H : Hp} {s : ByteArray} (hs : s.size ≤ big)
include hs
end
end Go.Proofs.YthklmeihgmcljaaDoor
