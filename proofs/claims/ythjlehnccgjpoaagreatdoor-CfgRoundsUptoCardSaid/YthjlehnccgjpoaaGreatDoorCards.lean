/-
  DERIVED. GIVEN WITH THE SEED: THE CARDS: each row of YthjlehnccgjpoaaGreatDoorRows.lean that lists a variable, with what it lists TIED to the program's text (the seventh form; the later family's looks); each row that meets fmt, with fmt's text TOLD by the authors' own Lean function (tested against real Go, not proved from fmt's source: count such statements apart). THE CARD IS WHAT COUNTS. Prove the row's statement (the work); the ties are given (YthjlehnccgjpoaaGreatDoorTie.lean); close each card by the builder's one call (the guide's Derived/Test/ToyasCard.lean, 'card_holds'). Laid BY PROGRAM, IN A SANDBOX (cutbox-door.mjs). By AI agents, Wed Nov 11 2026. No macro, syntax, notation, axiom, sorry.
-/
import Derived.Test.YthjlehnccgjpoaaGreatDoorRows
import GoSem.ClaimSeven
namespace Go.Proofs.YthjlehnccgjpoaaGreatDoor
namespace Rows

/-- THE TIED CARD OF 'gnomonlaw9.CfgRounds'. -/
def cfgRoundsCard : Claim7 := { stood := { row := cfgRoundsRow, standIns := [], harness := (true, "f57f0dac2f53ce166fe2a0e5f688a49d5cc3a621094f63e9bfd4317839c297df"), looks := true }, kinds := [], alts := [], laidByText := true, laidKinds := [.data, .data, .data, .data, .sentinel, .sentinel, .pinned], laidTests := true, laidLooks := .later }
def CfgRoundsCardSaid : Prop := Claim7.holds Tryz.pinned (.plain (OpenSpec.ofChange cfgRoundsSpec)) cfgRoundsCard

/-- THE SECOND FORM's CARD OF 'gnomonlaw9.CfgRounds'. -/
def cfgRoundsUptoCard : Claim7 := { stood := { row := cfgRoundsUptoRow, standIns := [], harness := (true, "f57f0dac2f53ce166fe2a0e5f688a49d5cc3a621094f63e9bfd4317839c297df"), looks := true }, kinds := [], alts := [], laidByText := true, laidKinds := [.data, .data, .data, .data, .sentinel, .sentinel, .pinned], laidTests := true, laidLooks := .later }
def CfgRoundsUptoCardSaid : Prop := Claim7.holds Tryz.pinned (.plain (OpenSpec.upto cfgRoundsSpec)) cfgRoundsUptoCard
end Rows
end Go.Proofs.YthjlehnccgjpoaaGreatDoor
