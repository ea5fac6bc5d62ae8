/-
  DERIVED. GIVEN WITH THE SEED: THE CARDS: each row of YtnhkdkcgdcgmdaaDoorRows.lean that lists a variable, with what it lists TIED to the program's text (the seventh form; the later family's looks); each row that meets fmt, with fmt's text TOLD by the authors' own Lean function (tested against real Go, not proved from fmt's source: count such statements apart). THE CARD IS WHAT COUNTS. Prove the row's statement (the work); the ties are given (YtnhkdkcgdcgmdaaDoorTie.lean); close each card by the builder's one call (the guide's Derived/Test/ToyasCard.lean, 'card_holds'). Laid BY PROGRAM, IN A SANDBOX (cutbox-door.mjs). By AI agents, Wed Nov 11 2026. No macro, syntax, notation, axiom, sorry.
-/
import Derived.Test.YtnhkdkcgdcgmdaaDoorRows
import GoSem.ClaimSeven
namespace Go.Proofs.YtnhkdkcgdcgmdaaDoor
namespace Rows

/-- THE TIED CARD OF 'gnomonlaw29.RewriteParts'. -/
def rewritePartsCard : Claim7 := { stood := { row := rewritePartsRow, standIns := [], harness := (true, "31bace3f43b4e5090ad4125419a6703a0aa0ab6ba90845118a2b0c478a82d6bc"), looks := true }, kinds := [], alts := [], laidByText := true, laidKinds := [.data, .pinned], laidTests := true, laidLooks := .later }
def RewritePartsCardSaid : Prop := Claim7.holds Tryd.pinned (.plain (OpenSpec.ofChange rewritePartsSpec)) rewritePartsCard

/-- THE TIED CARD OF 'gnomonlaw8.RunOn'. -/
def runOnCard : Claim7 := { stood := { row := runOnRow, standIns := [], harness := (true, "31bace3f43b4e5090ad4125419a6703a0aa0ab6ba90845118a2b0c478a82d6bc"), looks := true }, kinds := [], alts := [], laidByText := true, laidKinds := [.data, .pinned], laidTests := true, laidLooks := .later }
def RunOnCardSaid : Prop := Claim7.holds Tryd.pinned (.plain (OpenSpec.ofChange runOnSpec)) runOnCard

/-- THE TIED CARD OF 'gnomonlaw8.RunLoops'. -/
def runLoopsCard : Claim7 := { stood := { row := runLoopsRow, standIns := [], harness := (true, "31bace3f43b4e5090ad4125419a6703a0aa0ab6ba90845118a2b0c478a82d6bc"), looks := true }, kinds := [], alts := [], laidByText := true, laidKinds := [.data, .pinned], laidTests := true, laidLooks := .later }
def RunLoopsCardSaid : Prop := Claim7.holds Tryd.pinned (.plain (OpenSpec.ofChange runLoopsSpec)) runLoopsCard

/-- THE TIED CARD OF 'gnomonlaw8.RunDoes'. -/
def runDoesCard : Claim7 := { stood := { row := runDoesRow, standIns := [], harness := (true, "31bace3f43b4e5090ad4125419a6703a0aa0ab6ba90845118a2b0c478a82d6bc"), looks := true }, kinds := [], alts := [], laidByText := true, laidKinds := [.data, .pinned], laidTests := true, laidLooks := .later }
def RunDoesCardSaid : Prop := Claim7.holds Tryd.pinned (.plain (OpenSpec.ofChange runDoesSpec)) runDoesCard

/-- THE TIED CARD OF 'gnomonlaw8.RunStores'. -/
def runStoresCard : Claim7 := { stood := { row := runStoresRow, standIns := [], harness := (true, "31bace3f43b4e5090ad4125419a6703a0aa0ab6ba90845118a2b0c478a82d6bc"), looks := true }, kinds := [], alts := [], laidByText := true, laidKinds := [.data, .pinned], laidTests := true, laidLooks := .later }
def RunStoresCardSaid : Prop := Claim7.holds Tryd.pinned (.plain (OpenSpec.ofChange runStoresSpec)) runStoresCard

/-- THE TIED CARD OF 'gnomonlaw8.RunShort'. -/
def runShortCard : Claim7 := { stood := { row := runShortRow, standIns := [], harness := (true, "31bace3f43b4e5090ad4125419a6703a0aa0ab6ba90845118a2b0c478a82d6bc"), looks := true }, kinds := [], alts := [], laidByText := true, laidKinds := [.data, .pinned], laidTests := true, laidLooks := .later }
def RunShortCardSaid : Prop := Claim7.holds Tryd.pinned (.plain (OpenSpec.ofChange runShortSpec)) runShortCard

/-- THE TIED CARD OF 'gnomonlaw29.RewriteOnce'. -/
def rewriteOnceCard : Claim7 := { stood := { row := rewriteOnceRow, standIns := [], harness := (true, "31bace3f43b4e5090ad4125419a6703a0aa0ab6ba90845118a2b0c478a82d6bc"), looks := true }, kinds := [], alts := [], laidByText := true, laidKinds := [.data, .pinned], laidTests := true, laidLooks := .later }
def RewriteOnceCardSaid : Prop := Claim7.holds Tryd.pinned (.plain (OpenSpec.ofChange rewriteOnceSpec)) rewriteOnceCard

/-- THE SECOND FORM's CARD OF 'gnomonlaw29.RewriteParts'. -/
def rewritePartsUptoCard : Claim7 := { stood := { row := rewritePartsUptoRow, standIns := [], harness := (true, "31bace3f43b4e5090ad4125419a6703a0aa0ab6ba90845118a2b0c478a82d6bc"), looks := true }, kinds := [], alts := [], laidByText := true, laidKinds := [.data, .pinned], laidTests := true, laidLooks := .later }
def RewritePartsUptoCardSaid : Prop := Claim7.holds Tryd.pinned (.plain (OpenSpec.upto rewritePartsSpec)) rewritePartsUptoCard

/-- THE SECOND FORM's CARD OF 'gnomonlaw8.RunOn'. -/
def runOnUptoCard : Claim7 := { stood := { row := runOnUptoRow, standIns := [], harness := (true, "31bace3f43b4e5090ad4125419a6703a0aa0ab6ba90845118a2b0c478a82d6bc"), looks := true }, kinds := [], alts := [], laidByText := true, laidKinds := [.data, .pinned], laidTests := true, laidLooks := .later }
def RunOnUptoCardSaid : Prop := Claim7.holds Tryd.pinned (.plain (OpenSpec.upto runOnSpec)) runOnUptoCard

/-- THE SECOND FORM's CARD OF 'gnomonlaw8.RunLoops'. -/
def runLoopsUptoCard : Claim7 := { stood := { row := runLoopsUptoRow, standIns := [], harness := (true, "31bace3f43b4e5090ad4125419a6703a0aa0ab6ba90845118a2b0c478a82d6bc"), looks := true }, kinds := [], alts := [], laidByText := true, laidKinds := [.data, .pinned], laidTests := true, laidLooks := .later }
def RunLoopsUptoCardSaid : Prop := Claim7.holds Tryd.pinned (.plain (OpenSpec.upto runLoopsSpec)) runLoopsUptoCard

/-- THE SECOND FORM's CARD OF 'gnomonlaw8.RunDoes'. -/
def runDoesUptoCard : Claim7 := { stood := { row := runDoesUptoRow, standIns := [], harness := (true, "31bace3f43b4e5090ad4125419a6703a0aa0ab6ba90845118a2b0c478a82d6bc"), looks := true }, kinds := [], alts := [], laidByText := true, laidKinds := [.data, .pinned], laidTests := true, laidLooks := .later }
def RunDoesUptoCardSaid : Prop := Claim7.holds Tryd.pinned (.plain (OpenSpec.upto runDoesSpec)) runDoesUptoCard

/-- THE SECOND FORM's CARD OF 'gnomonlaw8.RunStores'. -/
def runStoresUptoCard : Claim7 := { stood := { row := runStoresUptoRow, standIns := [], harness := (true, "31bace3f43b4e5090ad4125419a6703a0aa0ab6ba90845118a2b0c478a82d6bc"), looks := true }, kinds := [], alts := [], laidByText := true, laidKinds := [.data, .pinned], laidTests := true, laidLooks := .later }
def RunStoresUptoCardSaid : Prop := Claim7.holds Tryd.pinned (.plain (OpenSpec.upto runStoresSpec)) runStoresUptoCard

/-- THE SECOND FORM's CARD OF 'gnomonlaw8.RunShort'. -/
def runShortUptoCard : Claim7 := { stood := { row := runShortUptoRow, standIns := [], harness := (true, "31bace3f43b4e5090ad4125419a6703a0aa0ab6ba90845118a2b0c478a82d6bc"), looks := true }, kinds := [], alts := [], laidByText := true, laidKinds := [.data, .pinned], laidTests := true, laidLooks := .later }
def RunShortUptoCardSaid : Prop := Claim7.holds Tryd.pinned (.plain (OpenSpec.upto runShortSpec)) runShortUptoCard

/-- THE SECOND FORM's CARD OF 'gnomonlaw29.RewriteOnce'. -/
def rewriteOnceUptoCard : Claim7 := { stood := { row := rewriteOnceUptoRow, standIns := [], harness := (true, "31bace3f43b4e5090ad4125419a6703a0aa0ab6ba90845118a2b0c478a82d6bc"), looks := true }, kinds := [], alts := [], laidByText := true, laidKinds := [.data, .pinned], laidTests := true, laidLooks := .later }
def RewriteOnceUptoCardSaid : Prop := Claim7.holds Tryd.pinned (.plain (OpenSpec.upto rewriteOnceSpec)) rewriteOnceUptoCard
end Rows
end Go.Proofs.YtnhkdkcgdcgmdaaDoor
