/- LexLines: behind so many line feeds and so many blanks a name stands at that place. -/
import Derived.Test.YthklmeihgmcljaaDoorzAL7
namespace Go.Proofs.YthklmeihgmcljaaDoor
open Go.RowKit
set_option maxRecDepth 100000
set_option maxHeartbeats 1000000
def Dr (s : ByteArray) (p : Nat) (l : List UInt8) : Prop := s.data.toList.drop p = l
section
variable {s : ByteArray}
theorem Dr.cons {p : Nat} {c : UInt8} {l : List UInt8} (h : Dr s p (c :: l)) : p < s.size ∧ s.get! p = c ∧ Dr s (p + 1) l := by
  unfold Dr at h ⊢
  have hp : p < s.size := by
    rcases Nat.lt_or_ge p s.size with q | q
    · exact q
    · rw [List.drop_eq_nil_of_le (by rw [Array.length_toList]; exact q)] at h; cases h
  rw [N9 hp] at h
  injection h with h1 h2
  exact ⟨hp, h1, h2⟩
theorem Dr.app {p : Nat} : ∀ (l r : List UInt8) {p : Nat}, Dr s p (l ++ r) → Dr s (p + l.length) r
  | [], _, _, h => h
  | c :: l, r, p, h => by
    have := Dr.app (p := p) l r h.cons.2.2
    rw [List.length_cons, show p + (l.length + 1) = p + 1 + l.length by omega]
    exact this
theorem Dr.nil {p : Nat} (h : Dr s p []) : s.size ≤ p := by
  unfold Dr at h
  have := congrArg List.length h
  rw [List.length_drop, Array.length_toList, List.length_nil] at this
  have e : s.data.size = s.size := rfl
  omega
theorem Dr.le {p : Nat} {l : List UInt8} (h : Dr s p l) (hp : p ≤ s.size) : p + l.length = s.size := by
  unfold Dr at h
  have := congrArg List.length h
  rw [List.length_drop, Array.length_toList] at this
  have e : s.data.size = s.size := rfl
  omega
theorem Dr.asc {p : Nat} {c : UInt8} {l : List UInt8} (h : Dr s p (c :: l)) (hc : c.toNat < 128) : rn s p = (c.toNat : Int) ∧ wd s p = 1 := by
  have h1 := h.cons.2.1
  have := G7 (s := s) (p := p) (by unfold by8; rw [h1]; exact hc)
  unfold by8 at this
  rw [h1] at this
  exact this
theorem chkN {p : Nat} (hp : p < s.size) (h : rn s p ≠ 65533) : chkAt s p = chkAt s (p + wd s p) := by
  rw [M5 s p hp, if_neg (fun x => h (by show ((Utf8.decode s p).1 : Int) = 65533; rw [x.1]; rfl))]
end
theorem Z1 (a b : List UInt8) : (⟨a.toArray⟩ ++ ⟨b.toArray⟩ : ByteArray) = ⟨(a ++ b).toArray⟩ := by
  apply ByteArray.ext
  simp [ByteArray.data_append]
theorem a1A (l : List UInt8) : (⟨l.toArray⟩ : ByteArray).size = l.length := by show l.toArray.size = _; simp
section
variable {s : ByteArray}
end
section
variable {H : Hp}
end
end Go.Proofs.YthklmeihgmcljaaDoor
