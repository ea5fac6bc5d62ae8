/-
  DERIVED. GIVEN WITH THE SEED: THE CARDS: each row of YtnhdnncbjddmjaaGreatDoorRows.lean that lists a variable, with what it lists TIED to the program's text (the seventh form; the later family's looks); each row that meets fmt, with fmt's text TOLD by the authors' own Lean function (tested against real Go, not proved from fmt's source: count such statements apart). THE CARD IS WHAT COUNTS. Prove the row's statement (the work); the ties are given (YtnhdnncbjddmjaaGreatDoorTie.lean); close each card by the builder's one call (the guide's Derived/Test/ToyasCard.lean, 'card_holds'). Laid BY PROGRAM, IN A SANDBOX (cutbox-door.mjs). By AI agents, Wed Nov 11 2026. No macro, syntax, notation, axiom, sorry.
-/
import Derived.Test.YtnhdnncbjddmjaaGreatDoorRows
import GoSem.ClaimSeven
namespace Go.Proofs.YtnhdnncbjddmjaaGreatDoor
namespace Rows

/-- THE TIED CARD OF 'gnomonlaw5.PrintExact'. -/
def printExactCard : Claim7 := { stood := { row := printExactRow, standIns := [], harness := (true, "2f05f0602d53956f428e8870345475744db21f7ba2c18519840b455e1fca0cfd"), looks := true }, kinds := [], alts := [], laidByText := true, laidKinds := [.data, .data, .data, .data, .pinned], laidTests := true, laidLooks := .later }
def PrintExactCardSaid : Prop := Claim7.holds Tryz.pinned (.plain (OpenSpec.ofChange printExactSpec)) printExactCard

/-- THE SECOND FORM's CARD OF 'gnomonlaw5.PrintExact'. -/
def printExactUptoCard : Claim7 := { stood := { row := printExactUptoRow, standIns := [], harness := (true, "2f05f0602d53956f428e8870345475744db21f7ba2c18519840b455e1fca0cfd"), looks := true }, kinds := [], alts := [], laidByText := true, laidKinds := [.data, .data, .data, .data, .pinned], laidTests := true, laidLooks := .later }
def PrintExactUptoCardSaid : Prop := Claim7.holds Tryz.pinned (.plain (OpenSpec.upto printExactSpec)) printExactUptoCard
end Rows
end Go.Proofs.YtnhdnncbjddmjaaGreatDoor
