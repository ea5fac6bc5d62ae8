/- Tokens: what the document's functions on runes and blanks answer. Off the printed formulas. -/
import Derived.Test.YthklmeihgmcljaaDoorzAM5
namespace Go.Proofs.YthklmeihgmcljaaDoor
open Go.RowKit
set_option maxRecDepth 100000
set_option maxHeartbeats 1000000
section
variable {H : Hp}
theorem a4V (a b : Nat) (h : a + b ≤ 4398046511104) : IntKind.wrap .i64 ((a : Int) + (b : Int)) = ((a + b : Nat) : Int) := by
  rw [J3 ⟨by omega, by omega⟩]; omega
end
end Go.Proofs.YthklmeihgmcljaaDoor
