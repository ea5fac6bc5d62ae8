/-
  DERIVED. GIVEN WITH THE SEED: THE CARDS: each row of YthaaobpfbgcfiaaGreatDoorRows.lean that lists a variable, with what it lists TIED to the program's text (the seventh form; the later family's looks); each row that meets fmt, with fmt's text TOLD by the authors' own Lean function (tested against real Go, not proved from fmt's source: count such statements apart). THE CARD IS WHAT COUNTS. Prove the row's statement (the work); the ties are given (YthaaobpfbgcfiaaGreatDoorTie.lean); close each card by the builder's one call (the guide's Derived/Test/ToyasCard.lean, 'card_holds'). Laid BY PROGRAM, IN A SANDBOX (cutbox-door.mjs). By AI agents, Wed Nov 11 2026. No macro, syntax, notation, axiom, sorry.
-/
import Derived.Test.YthaaobpfbgcfiaaGreatDoorRows
import GoSem.ClaimSeven
namespace Go.Proofs.YthaaobpfbgcfiaaGreatDoor
namespace Rows

/-- THE TIED CARD OF 'gnomonlaw10.StepSame'. -/
def stepSameCard : Claim7 := { stood := { row := stepSameRow, standIns := [], harness := (true, "84c074fb3dcded1829b32b6686f849720423446db99640e09a835bac8050edb5"), looks := true }, kinds := [], alts := [], laidByText := true, laidKinds := [.data, .pinned], laidTests := true, laidLooks := .later }
def StepSameCardSaid : Prop := Claim7.holds Tryz.pinned (.plain (OpenSpec.ofChange stepSameSpec)) stepSameCard

/-- THE SECOND FORM's CARD OF 'gnomonlaw10.StepSame'. -/
def stepSameUptoCard : Claim7 := { stood := { row := stepSameUptoRow, standIns := [], harness := (true, "84c074fb3dcded1829b32b6686f849720423446db99640e09a835bac8050edb5"), looks := true }, kinds := [], alts := [], laidByText := true, laidKinds := [.data, .pinned], laidTests := true, laidLooks := .later }
def StepSameUptoCardSaid : Prop := Claim7.holds Tryz.pinned (.plain (OpenSpec.upto stepSameSpec)) stepSameUptoCard
end Rows
end Go.Proofs.YthaaobpfbgcfiaaGreatDoor
