/-
  DERIVED. GIVEN WITH THE SEED: THE CARDS: each row of YtaokfhdinhimfaaDoorRows.lean that lists a variable, with what it lists TIED to the program's text (the seventh form; the later family's looks); each row that meets fmt, with fmt's text TOLD by the authors' own Lean function (tested against real Go, not proved from fmt's source: count such statements apart). THE CARD IS WHAT COUNTS. Prove the row's statement (the work); the ties are given (YtaokfhdinhimfaaDoorTie.lean); close each card by the builder's one call (the guide's Derived/Test/ToyasCard.lean, 'card_holds'). Laid BY PROGRAM, IN A SANDBOX (cutbox-door.mjs). By AI agents, Wed Nov 11 2026. No macro, syntax, notation, axiom, sorry.
-/
import Derived.Test.YtaokfhdinhimfaaDoorRows
import GoSem.ClaimSeven
namespace Go.Proofs.YtaokfhdinhimfaaDoor
namespace Rows

/-- THE TIED CARD OF 'gnomonlaw9.CfgTemps'. -/
def cfgTempsCard : Claim7 := { stood := { row := cfgTempsRow, standIns := [], harness := (true, "cc55f9f5c1d2d690b660829ccae9f43cf678dfbcdadd6da426670306a2f52164"), looks := true }, kinds := [], alts := [], laidByText := true, laidKinds := [.data, .pinned], laidTests := true, laidLooks := .later }
def CfgTempsCardSaid : Prop := Claim7.holds Tryd.pinned (.plain (OpenSpec.ofChange cfgTempsSpec)) cfgTempsCard

/-- THE TIED CARD OF 'gnomonlaw9.CfgAsserts'. -/
def cfgAssertsCard : Claim7 := { stood := { row := cfgAssertsRow, standIns := [], harness := (true, "cc55f9f5c1d2d690b660829ccae9f43cf678dfbcdadd6da426670306a2f52164"), looks := true }, kinds := [], alts := [], laidByText := true, laidKinds := [.data, .pinned], laidTests := true, laidLooks := .later }
def CfgAssertsCardSaid : Prop := Claim7.holds Tryd.pinned (.plain (OpenSpec.ofChange cfgAssertsSpec)) cfgAssertsCard

/-- THE TIED CARD OF 'gnomonlaw9.CfgSkips'. -/
def cfgSkipsCard : Claim7 := { stood := { row := cfgSkipsRow, standIns := [], harness := (true, "cc55f9f5c1d2d690b660829ccae9f43cf678dfbcdadd6da426670306a2f52164"), looks := true }, kinds := [], alts := [], laidByText := true, laidKinds := [.data, .pinned], laidTests := true, laidLooks := .later }
def CfgSkipsCardSaid : Prop := Claim7.holds Tryd.pinned (.plain (OpenSpec.ofChange cfgSkipsSpec)) cfgSkipsCard

/-- THE SECOND FORM's CARD OF 'gnomonlaw9.CfgTemps'. -/
def cfgTempsUptoCard : Claim7 := { stood := { row := cfgTempsUptoRow, standIns := [], harness := (true, "cc55f9f5c1d2d690b660829ccae9f43cf678dfbcdadd6da426670306a2f52164"), looks := true }, kinds := [], alts := [], laidByText := true, laidKinds := [.data, .pinned], laidTests := true, laidLooks := .later }
def CfgTempsUptoCardSaid : Prop := Claim7.holds Tryd.pinned (.plain (OpenSpec.upto cfgTempsSpec)) cfgTempsUptoCard

/-- THE SECOND FORM's CARD OF 'gnomonlaw9.CfgAsserts'. -/
def cfgAssertsUptoCard : Claim7 := { stood := { row := cfgAssertsUptoRow, standIns := [], harness := (true, "cc55f9f5c1d2d690b660829ccae9f43cf678dfbcdadd6da426670306a2f52164"), looks := true }, kinds := [], alts := [], laidByText := true, laidKinds := [.data, .pinned], laidTests := true, laidLooks := .later }
def CfgAssertsUptoCardSaid : Prop := Claim7.holds Tryd.pinned (.plain (OpenSpec.upto cfgAssertsSpec)) cfgAssertsUptoCard

/-- THE SECOND FORM's CARD OF 'gnomonlaw9.CfgSkips'. -/
def cfgSkipsUptoCard : Claim7 := { stood := { row := cfgSkipsUptoRow, standIns := [], harness := (true, "cc55f9f5c1d2d690b660829ccae9f43cf678dfbcdadd6da426670306a2f52164"), looks := true }, kinds := [], alts := [], laidByText := true, laidKinds := [.data, .pinned], laidTests := true, laidLooks := .later }
def CfgSkipsUptoCardSaid : Prop := Claim7.holds Tryd.pinned (.plain (OpenSpec.upto cfgSkipsSpec)) cfgSkipsUptoCard
end Rows
end Go.Proofs.YtaokfhdinhimfaaDoor
