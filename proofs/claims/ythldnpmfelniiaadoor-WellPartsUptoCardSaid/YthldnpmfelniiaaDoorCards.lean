/-
  DERIVED. GIVEN WITH THE SEED: THE CARDS: each row of YthldnpmfelniiaaDoorRows.lean that lists a variable, with what it lists TIED to the program's text (the seventh form; the later family's looks); each row that meets fmt, with fmt's text TOLD by the authors' own Lean function (tested against real Go, not proved from fmt's source: count such statements apart). THE CARD IS WHAT COUNTS. Prove the row's statement (the work); the ties are given (YthldnpmfelniiaaDoorTie.lean); close each card by the builder's one call (the guide's Derived/Test/ToyasCard.lean, 'card_holds'). Laid BY PROGRAM, IN A SANDBOX (cutbox-door.mjs). By AI agents, Wed Nov 11 2026. No macro, syntax, notation, axiom, sorry.
-/
import Derived.Test.YthldnpmfelniiaaDoorRows
import GoSem.ClaimSeven
namespace Go.Proofs.YthldnpmfelniiaaDoor
namespace Rows

/-- THE TIED CARD OF 'gnomonlaw3.TreeEquals'. -/
def treeEqualsCard : Claim7 := { stood := { row := treeEqualsRow, standIns := [], harness := (true, "c16226ef42058a033f21566d690f162bcff834843a0cc84a1e5b69feacb47466"), looks := true }, kinds := [], alts := [], laidByText := true, laidKinds := [.data, .pinned], laidTests := true, laidLooks := .later }
def TreeEqualsCardSaid : Prop := Claim7.holds Tryd.pinned (.plain (OpenSpec.ofChange treeEqualsSpec)) treeEqualsCard

/-- THE TIED CARD OF 'gnomonlaw3.TreeParts'. -/
def treePartsCard : Claim7 := { stood := { row := treePartsRow, standIns := [], harness := (true, "c16226ef42058a033f21566d690f162bcff834843a0cc84a1e5b69feacb47466"), looks := true }, kinds := [], alts := [], laidByText := true, laidKinds := [.data, .pinned], laidTests := true, laidLooks := .later }
def TreePartsCardSaid : Prop := Claim7.holds Tryd.pinned (.plain (OpenSpec.ofChange treePartsSpec)) treePartsCard

/-- THE TIED CARD OF 'gnomonlaw20.DigestSteps'. -/
def digestStepsCard : Claim7 := { stood := { row := digestStepsRow, standIns := [], harness := (true, "c16226ef42058a033f21566d690f162bcff834843a0cc84a1e5b69feacb47466"), looks := true }, kinds := [], alts := [], laidByText := true, laidKinds := [.data, .pinned], laidTests := true, laidLooks := .later }
def DigestStepsCardSaid : Prop := Claim7.holds Tryd.pinned (.plain (OpenSpec.ofChange digestStepsSpec)) digestStepsCard

/-- THE TIED CARD OF 'gnomonlaw3.TreeChecks'. -/
def treeChecksCard : Claim7 := { stood := { row := treeChecksRow, standIns := [], harness := (true, "c16226ef42058a033f21566d690f162bcff834843a0cc84a1e5b69feacb47466"), looks := true }, kinds := [], alts := [], laidByText := true, laidKinds := [.data, .pinned], laidTests := true, laidLooks := .later }
def TreeChecksCardSaid : Prop := Claim7.holds Tryd.pinned (.plain (OpenSpec.ofChange treeChecksSpec)) treeChecksCard

/-- THE TIED CARD OF 'gnomonlaw20.DigestExact'. -/
def digestExactCard : Claim7 := { stood := { row := digestExactRow, standIns := [], harness := (true, "c16226ef42058a033f21566d690f162bcff834843a0cc84a1e5b69feacb47466"), looks := true }, kinds := [], alts := [], laidByText := true, laidKinds := [.data, .pinned], laidTests := true, laidLooks := .later }
def DigestExactCardSaid : Prop := Claim7.holds Tryd.pinned (.plain (OpenSpec.ofChange digestExactSpec)) digestExactCard

/-- THE TIED CARD OF 'gnomonlaw20.DigestLengths'. -/
def digestLengthsCard : Claim7 := { stood := { row := digestLengthsRow, standIns := [], harness := (true, "c16226ef42058a033f21566d690f162bcff834843a0cc84a1e5b69feacb47466"), looks := true }, kinds := [], alts := [], laidByText := true, laidKinds := [.data, .pinned], laidTests := true, laidLooks := .later }
def DigestLengthsCardSaid : Prop := Claim7.holds Tryd.pinned (.plain (OpenSpec.ofChange digestLengthsSpec)) digestLengthsCard

/-- THE TIED CARD OF 'gnomonlaw6.WellTurned'. -/
def wellTurnedCard : Claim7 := { stood := { row := wellTurnedRow, standIns := [], harness := (true, "c16226ef42058a033f21566d690f162bcff834843a0cc84a1e5b69feacb47466"), looks := true }, kinds := [], alts := [], laidByText := true, laidKinds := [.data, .pinned], laidTests := true, laidLooks := .later }
def WellTurnedCardSaid : Prop := Claim7.holds Tryd.pinned (.plain (OpenSpec.ofChange wellTurnedSpec)) wellTurnedCard

/-- THE TIED CARD OF 'gnomonlaw3.TreeCopies'. -/
def treeCopiesCard : Claim7 := { stood := { row := treeCopiesRow, standIns := [], harness := (true, "c16226ef42058a033f21566d690f162bcff834843a0cc84a1e5b69feacb47466"), looks := true }, kinds := [], alts := [], laidByText := true, laidKinds := [.data, .pinned], laidTests := true, laidLooks := .later }
def TreeCopiesCardSaid : Prop := Claim7.holds Tryd.pinned (.plain (OpenSpec.ofChange treeCopiesSpec)) treeCopiesCard

/-- THE TIED CARD OF 'gnomonlaw20.DigestPairs'. -/
def digestPairsCard : Claim7 := { stood := { row := digestPairsRow, standIns := [], harness := (true, "c16226ef42058a033f21566d690f162bcff834843a0cc84a1e5b69feacb47466"), looks := true }, kinds := [], alts := [], laidByText := true, laidKinds := [.data, .pinned], laidTests := true, laidLooks := .later }
def DigestPairsCardSaid : Prop := Claim7.holds Tryd.pinned (.plain (OpenSpec.ofChange digestPairsSpec)) digestPairsCard

/-- THE TIED CARD OF 'gnomonlaw6.WellExact'. -/
def wellExactCard : Claim7 := { stood := { row := wellExactRow, standIns := [], harness := (true, "c16226ef42058a033f21566d690f162bcff834843a0cc84a1e5b69feacb47466"), looks := true }, kinds := [], alts := [], laidByText := true, laidKinds := [.data, .pinned], laidTests := true, laidLooks := .later }
def WellExactCardSaid : Prop := Claim7.holds Tryd.pinned (.plain (OpenSpec.ofChange wellExactSpec)) wellExactCard

/-- THE TIED CARD OF 'gnomonlaw6.WellParts'. -/
def wellPartsCard : Claim7 := { stood := { row := wellPartsRow, standIns := [], harness := (true, "c16226ef42058a033f21566d690f162bcff834843a0cc84a1e5b69feacb47466"), looks := true }, kinds := [], alts := [], laidByText := true, laidKinds := [.data, .pinned], laidTests := true, laidLooks := .later }
def WellPartsCardSaid : Prop := Claim7.holds Tryd.pinned (.plain (OpenSpec.ofChange wellPartsSpec)) wellPartsCard

/-- THE SECOND FORM's CARD OF 'gnomonlaw3.TreeEquals'. -/
def treeEqualsUptoCard : Claim7 := { stood := { row := treeEqualsUptoRow, standIns := [], harness := (true, "c16226ef42058a033f21566d690f162bcff834843a0cc84a1e5b69feacb47466"), looks := true }, kinds := [], alts := [], laidByText := true, laidKinds := [.data, .pinned], laidTests := true, laidLooks := .later }
def TreeEqualsUptoCardSaid : Prop := Claim7.holds Tryd.pinned (.plain (OpenSpec.upto treeEqualsSpec)) treeEqualsUptoCard

/-- THE SECOND FORM's CARD OF 'gnomonlaw3.TreeParts'. -/
def treePartsUptoCard : Claim7 := { stood := { row := treePartsUptoRow, standIns := [], harness := (true, "c16226ef42058a033f21566d690f162bcff834843a0cc84a1e5b69feacb47466"), looks := true }, kinds := [], alts := [], laidByText := true, laidKinds := [.data, .pinned], laidTests := true, laidLooks := .later }
def TreePartsUptoCardSaid : Prop := Claim7.holds Tryd.pinned (.plain (OpenSpec.upto treePartsSpec)) treePartsUptoCard

/-- THE SECOND FORM's CARD OF 'gnomonlaw20.DigestSteps'. -/
def digestStepsUptoCard : Claim7 := { stood := { row := digestStepsUptoRow, standIns := [], harness := (true, "c16226ef42058a033f21566d690f162bcff834843a0cc84a1e5b69feacb47466"), looks := true }, kinds := [], alts := [], laidByText := true, laidKinds := [.data, .pinned], laidTests := true, laidLooks := .later }
def DigestStepsUptoCardSaid : Prop := Claim7.holds Tryd.pinned (.plain (OpenSpec.upto digestStepsSpec)) digestStepsUptoCard

/-- THE SECOND FORM's CARD OF 'gnomonlaw3.TreeChecks'. -/
def treeChecksUptoCard : Claim7 := { stood := { row := treeChecksUptoRow, standIns := [], harness := (true, "c16226ef42058a033f21566d690f162bcff834843a0cc84a1e5b69feacb47466"), looks := true }, kinds := [], alts := [], laidByText := true, laidKinds := [.data, .pinned], laidTests := true, laidLooks := .later }
def TreeChecksUptoCardSaid : Prop := Claim7.holds Tryd.pinned (.plain (OpenSpec.upto treeChecksSpec)) treeChecksUptoCard

/-- THE SECOND FORM's CARD OF 'gnomonlaw20.DigestExact'. -/
def digestExactUptoCard : Claim7 := { stood := { row := digestExactUptoRow, standIns := [], harness := (true, "c16226ef42058a033f21566d690f162bcff834843a0cc84a1e5b69feacb47466"), looks := true }, kinds := [], alts := [], laidByText := true, laidKinds := [.data, .pinned], laidTests := true, laidLooks := .later }
def DigestExactUptoCardSaid : Prop := Claim7.holds Tryd.pinned (.plain (OpenSpec.upto digestExactSpec)) digestExactUptoCard

/-- THE SECOND FORM's CARD OF 'gnomonlaw20.DigestLengths'. -/
def digestLengthsUptoCard : Claim7 := { stood := { row := digestLengthsUptoRow, standIns := [], harness := (true, "c16226ef42058a033f21566d690f162bcff834843a0cc84a1e5b69feacb47466"), looks := true }, kinds := [], alts := [], laidByText := true, laidKinds := [.data, .pinned], laidTests := true, laidLooks := .later }
def DigestLengthsUptoCardSaid : Prop := Claim7.holds Tryd.pinned (.plain (OpenSpec.upto digestLengthsSpec)) digestLengthsUptoCard

/-- THE SECOND FORM's CARD OF 'gnomonlaw6.WellTurned'. -/
def wellTurnedUptoCard : Claim7 := { stood := { row := wellTurnedUptoRow, standIns := [], harness := (true, "c16226ef42058a033f21566d690f162bcff834843a0cc84a1e5b69feacb47466"), looks := true }, kinds := [], alts := [], laidByText := true, laidKinds := [.data, .pinned], laidTests := true, laidLooks := .later }
def WellTurnedUptoCardSaid : Prop := Claim7.holds Tryd.pinned (.plain (OpenSpec.upto wellTurnedSpec)) wellTurnedUptoCard

/-- THE SECOND FORM's CARD OF 'gnomonlaw3.TreeCopies'. -/
def treeCopiesUptoCard : Claim7 := { stood := { row := treeCopiesUptoRow, standIns := [], harness := (true, "c16226ef42058a033f21566d690f162bcff834843a0cc84a1e5b69feacb47466"), looks := true }, kinds := [], alts := [], laidByText := true, laidKinds := [.data, .pinned], laidTests := true, laidLooks := .later }
def TreeCopiesUptoCardSaid : Prop := Claim7.holds Tryd.pinned (.plain (OpenSpec.upto treeCopiesSpec)) treeCopiesUptoCard

/-- THE SECOND FORM's CARD OF 'gnomonlaw20.DigestPairs'. -/
def digestPairsUptoCard : Claim7 := { stood := { row := digestPairsUptoRow, standIns := [], harness := (true, "c16226ef42058a033f21566d690f162bcff834843a0cc84a1e5b69feacb47466"), looks := true }, kinds := [], alts := [], laidByText := true, laidKinds := [.data, .pinned], laidTests := true, laidLooks := .later }
def DigestPairsUptoCardSaid : Prop := Claim7.holds Tryd.pinned (.plain (OpenSpec.upto digestPairsSpec)) digestPairsUptoCard

/-- THE SECOND FORM's CARD OF 'gnomonlaw6.WellExact'. -/
def wellExactUptoCard : Claim7 := { stood := { row := wellExactUptoRow, standIns := [], harness := (true, "c16226ef42058a033f21566d690f162bcff834843a0cc84a1e5b69feacb47466"), looks := true }, kinds := [], alts := [], laidByText := true, laidKinds := [.data, .pinned], laidTests := true, laidLooks := .later }
def WellExactUptoCardSaid : Prop := Claim7.holds Tryd.pinned (.plain (OpenSpec.upto wellExactSpec)) wellExactUptoCard

/-- THE SECOND FORM's CARD OF 'gnomonlaw6.WellParts'. -/
def wellPartsUptoCard : Claim7 := { stood := { row := wellPartsUptoRow, standIns := [], harness := (true, "c16226ef42058a033f21566d690f162bcff834843a0cc84a1e5b69feacb47466"), looks := true }, kinds := [], alts := [], laidByText := true, laidKinds := [.data, .pinned], laidTests := true, laidLooks := .later }
def WellPartsUptoCardSaid : Prop := Claim7.holds Tryd.pinned (.plain (OpenSpec.upto wellPartsSpec)) wellPartsUptoCard
end Rows
end Go.Proofs.YthldnpmfelniiaaDoor
