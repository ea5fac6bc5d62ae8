/-
  DERIVED. GIVEN WITH THE SEED: THE CARDS: each row of YthklmeihgmcljaaGreatDoorRows.lean that lists a variable, with what it lists TIED to the program's text (the seventh form; the later family's looks); each row that meets fmt, with fmt's text TOLD by the authors' own Lean function (tested against real Go, not proved from fmt's source: count such statements apart). THE CARD IS WHAT COUNTS. Prove the row's statement (the work); the ties are given (YthklmeihgmcljaaGreatDoorTie.lean); close each card by the builder's one call (the guide's Derived/Test/ToyasCard.lean, 'card_holds'). Laid BY PROGRAM, IN A SANDBOX (cutbox-door.mjs). By AI agents, Wed Nov 11 2026. No macro, syntax, notation, axiom, sorry.
-/
import Derived.Test.YthklmeihgmcljaaGreatDoorRows
import GoSem.ClaimSeven
namespace Go.Proofs.YthklmeihgmcljaaGreatDoor
namespace Rows

/-- THE TIED CARD OF 'gnomonlaw4.ParseExact'. -/
def parseExactCard : Claim7 := { stood := { row := parseExactRow, standIns := [], harness := (true, "405bd974ce71fde801f6ea83b2239557e5c91347fc9d083d5443de86b4fcf5b3"), looks := true }, kinds := [], alts := [], laidByText := true, laidKinds := [.data, .data, .data, .data, .sentinel, .sentinel, .pinned], laidTests := true, laidLooks := .later }
def ParseExactCardSaid : Prop := Claim7.holds Tryz.pinned (.plain (OpenSpec.ofChange parseExactSpec)) parseExactCard

/-- THE TIED CARD OF 'gnomonlaw4.ParseNested'. -/
def parseNestedCard : Claim7 := { stood := { row := parseNestedRow, standIns := [], harness := (true, "405bd974ce71fde801f6ea83b2239557e5c91347fc9d083d5443de86b4fcf5b3"), looks := true }, kinds := [], alts := [], laidByText := true, laidKinds := [.data, .data, .data, .data, .sentinel, .sentinel, .pinned], laidTests := true, laidLooks := .later }
def ParseNestedCardSaid : Prop := Claim7.holds Tryz.pinned (.plain (OpenSpec.ofChange parseNestedSpec)) parseNestedCard

/-- THE TIED CARD OF 'gnomonlaw4.ParseChains'. -/
def parseChainsCard : Claim7 := { stood := { row := parseChainsRow, standIns := [], harness := (true, "405bd974ce71fde801f6ea83b2239557e5c91347fc9d083d5443de86b4fcf5b3"), looks := true }, kinds := [], alts := [], laidByText := true, laidKinds := [.data, .data, .data, .data, .sentinel, .sentinel, .pinned], laidTests := true, laidLooks := .later }
def ParseChainsCardSaid : Prop := Claim7.holds Tryz.pinned (.plain (OpenSpec.ofChange parseChainsSpec)) parseChainsCard

/-- THE TIED CARD OF 'gnomonlaw4.ParseParts'. -/
def parsePartsCard : Claim7 := { stood := { row := parsePartsRow, standIns := [], harness := (true, "405bd974ce71fde801f6ea83b2239557e5c91347fc9d083d5443de86b4fcf5b3"), looks := true }, kinds := [], alts := [], laidByText := true, laidKinds := [.data, .data, .data, .data, .sentinel, .sentinel, .pinned], laidTests := true, laidLooks := .later }
def ParsePartsCardSaid : Prop := Claim7.holds Tryz.pinned (.plain (OpenSpec.ofChange parsePartsSpec)) parsePartsCard

/-- THE TIED CARD OF 'gnomonlaw4.ParseTakes'. -/
def parseTakesCard : Claim7 := { stood := { row := parseTakesRow, standIns := [], harness := (true, "405bd974ce71fde801f6ea83b2239557e5c91347fc9d083d5443de86b4fcf5b3"), looks := true }, kinds := [], alts := [], laidByText := true, laidKinds := [.data, .data, .data, .data, .sentinel, .sentinel, .pinned], laidTests := true, laidLooks := .later }
def ParseTakesCardSaid : Prop := Claim7.holds Tryz.pinned (.plain (OpenSpec.ofChange parseTakesSpec)) parseTakesCard

/-- THE SECOND FORM's CARD OF 'gnomonlaw4.ParseExact'. -/
def parseExactUptoCard : Claim7 := { stood := { row := parseExactUptoRow, standIns := [], harness := (true, "405bd974ce71fde801f6ea83b2239557e5c91347fc9d083d5443de86b4fcf5b3"), looks := true }, kinds := [], alts := [], laidByText := true, laidKinds := [.data, .data, .data, .data, .sentinel, .sentinel, .pinned], laidTests := true, laidLooks := .later }
def ParseExactUptoCardSaid : Prop := Claim7.holds Tryz.pinned (.plain (OpenSpec.upto parseExactSpec)) parseExactUptoCard

/-- THE SECOND FORM's CARD OF 'gnomonlaw4.ParseNested'. -/
def parseNestedUptoCard : Claim7 := { stood := { row := parseNestedUptoRow, standIns := [], harness := (true, "405bd974ce71fde801f6ea83b2239557e5c91347fc9d083d5443de86b4fcf5b3"), looks := true }, kinds := [], alts := [], laidByText := true, laidKinds := [.data, .data, .data, .data, .sentinel, .sentinel, .pinned], laidTests := true, laidLooks := .later }
def ParseNestedUptoCardSaid : Prop := Claim7.holds Tryz.pinned (.plain (OpenSpec.upto parseNestedSpec)) parseNestedUptoCard

/-- THE SECOND FORM's CARD OF 'gnomonlaw4.ParseChains'. -/
def parseChainsUptoCard : Claim7 := { stood := { row := parseChainsUptoRow, standIns := [], harness := (true, "405bd974ce71fde801f6ea83b2239557e5c91347fc9d083d5443de86b4fcf5b3"), looks := true }, kinds := [], alts := [], laidByText := true, laidKinds := [.data, .data, .data, .data, .sentinel, .sentinel, .pinned], laidTests := true, laidLooks := .later }
def ParseChainsUptoCardSaid : Prop := Claim7.holds Tryz.pinned (.plain (OpenSpec.upto parseChainsSpec)) parseChainsUptoCard

/-- THE SECOND FORM's CARD OF 'gnomonlaw4.ParseParts'. -/
def parsePartsUptoCard : Claim7 := { stood := { row := parsePartsUptoRow, standIns := [], harness := (true, "405bd974ce71fde801f6ea83b2239557e5c91347fc9d083d5443de86b4fcf5b3"), looks := true }, kinds := [], alts := [], laidByText := true, laidKinds := [.data, .data, .data, .data, .sentinel, .sentinel, .pinned], laidTests := true, laidLooks := .later }
def ParsePartsUptoCardSaid : Prop := Claim7.holds Tryz.pinned (.plain (OpenSpec.upto parsePartsSpec)) parsePartsUptoCard

/-- THE SECOND FORM's CARD OF 'gnomonlaw4.ParseTakes'. -/
def parseTakesUptoCard : Claim7 := { stood := { row := parseTakesUptoRow, standIns := [], harness := (true, "405bd974ce71fde801f6ea83b2239557e5c91347fc9d083d5443de86b4fcf5b3"), looks := true }, kinds := [], alts := [], laidByText := true, laidKinds := [.data, .data, .data, .data, .sentinel, .sentinel, .pinned], laidTests := true, laidLooks := .later }
def ParseTakesUptoCardSaid : Prop := Claim7.holds Tryz.pinned (.plain (OpenSpec.upto parseTakesSpec)) parseTakesUptoCard
end Rows
end Go.Proofs.YthklmeihgmcljaaGreatDoor
