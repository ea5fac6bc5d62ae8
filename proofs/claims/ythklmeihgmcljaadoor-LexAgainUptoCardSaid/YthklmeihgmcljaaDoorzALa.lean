/- LexNumbers: a number's digits are read as it. The document's digits by hand off the reading. -/
import Derived.Laws.BytesString
import Derived.Test.YthklmeihgmcljaaDoorzAL7
namespace Go.Proofs.YthklmeihgmcljaaDoor
open Go.RowKit
set_option maxRecDepth 100000
set_option maxHeartbeats 1000000
section
variable {w0 w : World} {ps : Nat → Prop} {H0 H : Hp} {Fs : List Frag}
end
section
variable {H : Hp}
end
section
variable {s : ByteArray}
theorem a6L {e : Nat} (he : e ≤ s.size) (hx : ¬ (e < s.size ∧ 48 ≤ by8 s e ∧ by8 s e ≤ 57)) : ∀ (n p v : Nat), e - p ≤ n → p ≤ e → (∀ q, p ≤ q → q < e → 48 ≤ by8 s q ∧ by8 s q ≤ 57) → (dg s p v).1 = e := by
  intro n
  induction n with
  | zero =>
    intro p v h hp _
    obtain rfl : p = e := by omega
    rw [X2 hx]
  | succ n ih =>
    intro p v h hp ha
    by_cases c : p = e
    · subst c; rw [X2 hx]
    · rw [X1 (by omega) (ha p (Nat.le_refl _) (by omega))]
      exact ih _ _ (by omega) (by omega) fun q hq => ha q (by omega)
end
section
variable {n : Nat}
end
section
variable {H : Hp}
end
end Go.Proofs.YthklmeihgmcljaaDoor
