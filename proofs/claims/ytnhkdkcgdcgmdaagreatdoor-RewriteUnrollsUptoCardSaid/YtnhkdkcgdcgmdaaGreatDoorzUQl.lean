/- Folding of statements: the plain law; how many nodes, how deep. Plain. -/
import Derived.Test.YtnhkdkcgdcgmdaaGreatDoorzUQi
import Derived.Test.YtnhkdkcgdcgmdaaGreatDoorzUQk
namespace Go.Proofs.YtnhkdkcgdcgmdaaGreatDoor
open Go.RowKit
set_option maxRecDepth 100000
set_option maxHeartbeats 2000000
def sN (k : Int) (s : ByteArray) (ts us vs ws : List PT) : PT := .mk (.stmt k s ts.length us.length vs.length ws.length) (us ++ (ts ++ (vs ++ ws)))
inductive ArS : PT → Prop
  | mk {k : Int} {s : ByteArray} {ts us vs ws : List PT} : (∀ t ∈ ts, Ar t) → (∀ t ∈ us, ArC t) → (∀ t ∈ vs, ArS t) → (∀ t ∈ ws, ArS t) → ArS (sN k s ts us vs ws)
theorem i5D (t : PT) : 1 ≤ cT t := by cases t; rw [cT]; omega
theorem a7P : ∀ ts : List PT, ts.length ≤ cTs ts
  | [] => Nat.zero_le _
  | t :: ts => by rw [cTs, List.length_cons]; have := i5D t; have := a7P ts; omega
section
variable {H : Hp}
end
end Go.Proofs.YtnhkdkcgdcgmdaaGreatDoor
