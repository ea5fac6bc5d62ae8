/-
  DERIVED. GIVEN WITH THE SEED: THE CARDS: each row of YtpgelfheccpejaaDoorRows.lean that lists a variable, with what it lists TIED to the program's text (the seventh form; the later family's looks); each row that meets fmt, with fmt's text TOLD by the authors' own Lean function (tested against real Go, not proved from fmt's source: count such statements apart). THE CARD IS WHAT COUNTS. Prove the row's statement (the work); the ties are given (YtpgelfheccpejaaDoorTie.lean); close each card by the builder's one call (the guide's Derived/Test/ToyasCard.lean, 'card_holds'). Laid BY PROGRAM, IN A SANDBOX (cutbox-door.mjs). By AI agents, Wed Nov 11 2026. No macro, syntax, notation, axiom, sorry.
-/
import Derived.Test.YtpgelfheccpejaaDoorRows
import GoSem.ClaimSeven
namespace Go.Proofs.YtpgelfheccpejaaDoor
namespace Rows

/-- THE TIED CARD OF 'gnomonlaw3.TreeCopies'. -/
def treeCopiesCard : Claim7 := { stood := { row := treeCopiesRow, standIns := [], harness := (true, "6bcde861f1351af36d36742eb09c07347c9ac05c1312fdc6e6df46b8035f07db"), looks := true }, kinds := [], alts := [], laidByText := true, laidKinds := [.data, .pinned], laidTests := true, laidLooks := .later }
def TreeCopiesCardSaid : Prop := Claim7.holds Tryd.pinned (.plain (OpenSpec.ofChange treeCopiesSpec)) treeCopiesCard

/-- THE SECOND FORM's CARD OF 'gnomonlaw3.TreeCopies'. -/
def treeCopiesUptoCard : Claim7 := { stood := { row := treeCopiesUptoRow, standIns := [], harness := (true, "6bcde861f1351af36d36742eb09c07347c9ac05c1312fdc6e6df46b8035f07db"), looks := true }, kinds := [], alts := [], laidByText := true, laidKinds := [.data, .pinned], laidTests := true, laidLooks := .later }
def TreeCopiesUptoCardSaid : Prop := Claim7.holds Tryd.pinned (.plain (OpenSpec.upto treeCopiesSpec)) treeCopiesUptoCard
end Rows
end Go.Proofs.YtpgelfheccpejaaDoor
