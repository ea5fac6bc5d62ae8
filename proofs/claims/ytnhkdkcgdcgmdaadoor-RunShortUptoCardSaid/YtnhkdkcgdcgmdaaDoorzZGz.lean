/- Shorter words for the readings. -/
import Derived.Test.YtnhkdkcgdcgmdaaDoorProg
import Derived.Test.YtnhkdkcgdcgmdaaDoorzZK0
namespace Go.Proofs.YtnhkdkcgdcgmdaaDoor
open Go.RowKit
abbrev oP (E : Pan) (s : Sem Next) (w : World) (K : Value → World → Prop) : Prop := opK Tryd.prog E s w K
abbrev RT := Value → World → Prop
abbrev NT := List Value → World → Prop
abbrev lA (t : TypeId) (p : Value) : Sem Next := xV (Instr.loadAt t p)
abbrev fA (t : TypeId) (p : Value) (i : Nat) : Sem Next := xV (Instr.fieldAt t p i)
abbrev iA (t : TypeId) (p i : Value) : Sem Next := xV (Instr.indexAt t p i)
abbrev eX (v : Value) (i : Nat) : Sem Next := xV (Instr.extract v i)
abbrev sA (t : TypeId) (p v : Value) : Sem Next := xU (Instr.storeAt t p v)
abbrev vB (b : Bool) : Value := Value.bool b
abbrev fC (n : Nat) : Value := Value.func (.func n) #[] #[]
theorem nB {n m : Nat} (h : Nat.ble n m = true) : n ≤ m := Nat.le_of_ble_eq_true h
abbrev vI (n : Int) : Value := Value.int .i64 n
abbrev nS : Value := Value.slice none 0 0
abbrev eS : Value := Value.string ⟨#[]⟩
abbrev sQ (h : Hint) : Hint := .seq .none h
end Go.Proofs.YtnhkdkcgdcgmdaaDoor
