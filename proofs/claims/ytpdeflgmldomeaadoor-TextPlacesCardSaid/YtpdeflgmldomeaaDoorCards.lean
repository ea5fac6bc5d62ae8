/-
  DERIVED. GIVEN WITH THE SEED: THE CARDS: each row of YtpdeflgmldomeaaDoorRows.lean that lists a variable, with what it lists TIED to the program's text (the seventh form; the later family's looks); each row that meets fmt, with fmt's text TOLD by the authors' own Lean function (tested against real Go, not proved from fmt's source: count such statements apart). THE CARD IS WHAT COUNTS. Prove the row's statement (the work); the ties are given (YtpdeflgmldomeaaDoorTie.lean); close each card by the builder's one call (the guide's Derived/Test/ToyasCard.lean, 'card_holds'). Laid BY PROGRAM, IN A SANDBOX (cutbox-door.mjs). By AI agents, Wed Nov 11 2026. No macro, syntax, notation, axiom, sorry.
-/
import Derived.Test.YtpdeflgmldomeaaDoorRows
import GoSem.ClaimSeven
namespace Go.Proofs.YtpdeflgmldomeaaDoor
namespace Rows

/-- THE TIED CARD OF 'gnomonlaw1.TextChecks'. -/
def textChecksCard : Claim7 := { stood := { row := textChecksRow, standIns := [], harness := (true, "a378bbc241c52549f8b5a06c1f98e31a5158e4de6a99ebaa95c8e1d48d7ec1e9"), looks := false }, kinds := [], alts := [], laidByText := true, laidKinds := [.data, .pinned], laidTests := true, laidLooks := .later }
def TextChecksCardSaid : Prop := Claim7.holds Tryd.pinned (.plain (OpenSpec.ofChange textChecksSpec)) textChecksCard

/-- THE TIED CARD OF 'gnomonlaw1.TextClasses'. -/
def textClassesCard : Claim7 := { stood := { row := textClassesRow, standIns := [], harness := (true, "a378bbc241c52549f8b5a06c1f98e31a5158e4de6a99ebaa95c8e1d48d7ec1e9"), looks := false }, kinds := [], alts := [], laidByText := true, laidKinds := [.data, .pinned], laidTests := true, laidLooks := .later }
def TextClassesCardSaid : Prop := Claim7.holds Tryd.pinned (.plain (OpenSpec.ofChange textClassesSpec)) textClassesCard

/-- THE TIED CARD OF 'gnomonlaw1.TextOn'. -/
def textOnCard : Claim7 := { stood := { row := textOnRow, standIns := [], harness := (true, "a378bbc241c52549f8b5a06c1f98e31a5158e4de6a99ebaa95c8e1d48d7ec1e9"), looks := false }, kinds := [], alts := [], laidByText := true, laidKinds := [.data, .pinned], laidTests := true, laidLooks := .later }
def TextOnCardSaid : Prop := Claim7.holds Tryd.pinned (.plain (OpenSpec.ofChange textOnSpec)) textOnCard

/-- THE TIED CARD OF 'gnomonlaw1.TextJoins'. -/
def textJoinsCard : Claim7 := { stood := { row := textJoinsRow, standIns := [], harness := (true, "a378bbc241c52549f8b5a06c1f98e31a5158e4de6a99ebaa95c8e1d48d7ec1e9"), looks := false }, kinds := [], alts := [], laidByText := true, laidKinds := [.data, .pinned], laidTests := true, laidLooks := .later }
def TextJoinsCardSaid : Prop := Claim7.holds Tryd.pinned (.plain (OpenSpec.ofChange textJoinsSpec)) textJoinsCard

/-- THE TIED CARD OF 'gnomonlaw1.TextPlaces'. -/
def textPlacesCard : Claim7 := { stood := { row := textPlacesRow, standIns := [], harness := (true, "a378bbc241c52549f8b5a06c1f98e31a5158e4de6a99ebaa95c8e1d48d7ec1e9"), looks := false }, kinds := [], alts := [], laidByText := true, laidKinds := [.data, .pinned], laidTests := true, laidLooks := .later }
def TextPlacesCardSaid : Prop := Claim7.holds Tryd.pinned (.plain (OpenSpec.ofChange textPlacesSpec)) textPlacesCard

/-- THE SECOND FORM's CARD OF 'gnomonlaw1.TextChecks'. -/
def textChecksUptoCard : Claim7 := { stood := { row := textChecksUptoRow, standIns := [], harness := (true, "a378bbc241c52549f8b5a06c1f98e31a5158e4de6a99ebaa95c8e1d48d7ec1e9"), looks := false }, kinds := [], alts := [], laidByText := true, laidKinds := [.data, .pinned], laidTests := true, laidLooks := .later }
def TextChecksUptoCardSaid : Prop := Claim7.holds Tryd.pinned (.plain (OpenSpec.upto textChecksSpec)) textChecksUptoCard

/-- THE SECOND FORM's CARD OF 'gnomonlaw1.TextClasses'. -/
def textClassesUptoCard : Claim7 := { stood := { row := textClassesUptoRow, standIns := [], harness := (true, "a378bbc241c52549f8b5a06c1f98e31a5158e4de6a99ebaa95c8e1d48d7ec1e9"), looks := false }, kinds := [], alts := [], laidByText := true, laidKinds := [.data, .pinned], laidTests := true, laidLooks := .later }
def TextClassesUptoCardSaid : Prop := Claim7.holds Tryd.pinned (.plain (OpenSpec.upto textClassesSpec)) textClassesUptoCard

/-- THE SECOND FORM's CARD OF 'gnomonlaw1.TextOn'. -/
def textOnUptoCard : Claim7 := { stood := { row := textOnUptoRow, standIns := [], harness := (true, "a378bbc241c52549f8b5a06c1f98e31a5158e4de6a99ebaa95c8e1d48d7ec1e9"), looks := false }, kinds := [], alts := [], laidByText := true, laidKinds := [.data, .pinned], laidTests := true, laidLooks := .later }
def TextOnUptoCardSaid : Prop := Claim7.holds Tryd.pinned (.plain (OpenSpec.upto textOnSpec)) textOnUptoCard

/-- THE SECOND FORM's CARD OF 'gnomonlaw1.TextJoins'. -/
def textJoinsUptoCard : Claim7 := { stood := { row := textJoinsUptoRow, standIns := [], harness := (true, "a378bbc241c52549f8b5a06c1f98e31a5158e4de6a99ebaa95c8e1d48d7ec1e9"), looks := false }, kinds := [], alts := [], laidByText := true, laidKinds := [.data, .pinned], laidTests := true, laidLooks := .later }
def TextJoinsUptoCardSaid : Prop := Claim7.holds Tryd.pinned (.plain (OpenSpec.upto textJoinsSpec)) textJoinsUptoCard

/-- THE SECOND FORM's CARD OF 'gnomonlaw1.TextPlaces'. -/
def textPlacesUptoCard : Claim7 := { stood := { row := textPlacesUptoRow, standIns := [], harness := (true, "a378bbc241c52549f8b5a06c1f98e31a5158e4de6a99ebaa95c8e1d48d7ec1e9"), looks := false }, kinds := [], alts := [], laidByText := true, laidKinds := [.data, .pinned], laidTests := true, laidLooks := .later }
def TextPlacesUptoCardSaid : Prop := Claim7.holds Tryd.pinned (.plain (OpenSpec.upto textPlacesSpec)) textPlacesUptoCard
end Rows
end Go.Proofs.YtpdeflgmldomeaaDoor
