/- Folding: the document's expressions, both's conditions; the law RewriteParts. Contracts off the printed formulas. -/
import Derived.Test.YtnhkdkcgdcgmdaaGreatDoorzUQg
namespace Go.Proofs.YtnhkdkcgdcgmdaaGreatDoor
open Go.RowKit
set_option maxRecDepth 100000
set_option maxHeartbeats 2000000
section
variable {H : Hp}
theorem f2F (t : PT) : (cstP t).2 = true ↔ cst t ≠ none := by
  unfold cstP; cases cst t <;> simp
theorem f2G (t : PT) : (cstP t).1 = argV (cst t) := by unfold cstP argV; cases cst t <;> rfl
end
end Go.Proofs.YtnhkdkcgdcgmdaaGreatDoor
