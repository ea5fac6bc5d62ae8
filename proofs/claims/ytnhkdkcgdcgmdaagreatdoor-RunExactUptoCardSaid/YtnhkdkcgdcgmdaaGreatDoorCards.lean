/-
  DERIVED. GIVEN WITH THE SEED: THE CARDS: each row of YtnhkdkcgdcgmdaaGreatDoorRows.lean that lists a variable, with what it lists TIED to the program's text (the seventh form; the later family's looks); each row that meets fmt, with fmt's text TOLD by the authors' own Lean function (tested against real Go, not proved from fmt's source: count such statements apart). THE CARD IS WHAT COUNTS. Prove the row's statement (the work); the ties are given (YtnhkdkcgdcgmdaaGreatDoorTie.lean); close each card by the builder's one call (the guide's Derived/Test/ToyasCard.lean, 'card_holds'). Laid BY PROGRAM, IN A SANDBOX (cutbox-door.mjs). By AI agents, Wed Nov 11 2026. No macro, syntax, notation, axiom, sorry.
-/
import Derived.Test.YtnhkdkcgdcgmdaaGreatDoorRows
import GoSem.ClaimSeven
namespace Go.Proofs.YtnhkdkcgdcgmdaaGreatDoor
namespace Rows

/-- THE TIED CARD OF 'gnomonlaw29.RewriteUnrolls'. -/
def rewriteUnrollsCard : Claim7 := { stood := { row := rewriteUnrollsRow, standIns := [], harness := (true, "cb5041bf7c2529c2b7a86344d9656c7755363b32027c5af859d2906bbaa62b45"), looks := true }, kinds := [], alts := [], laidByText := true, laidKinds := [.data, .pinned], laidTests := true, laidLooks := .later }
def RewriteUnrollsCardSaid : Prop := Claim7.holds Tryz.pinned (.plain (OpenSpec.ofChange rewriteUnrollsSpec)) rewriteUnrollsCard

/-- THE TIED CARD OF 'gnomonlaw29.RewriteFolds'. -/
def rewriteFoldsCard : Claim7 := { stood := { row := rewriteFoldsRow, standIns := [], harness := (true, "cb5041bf7c2529c2b7a86344d9656c7755363b32027c5af859d2906bbaa62b45"), looks := true }, kinds := [], alts := [], laidByText := true, laidKinds := [.data, .pinned], laidTests := true, laidLooks := .later }
def RewriteFoldsCardSaid : Prop := Claim7.holds Tryz.pinned (.plain (OpenSpec.ofChange rewriteFoldsSpec)) rewriteFoldsCard

/-- THE TIED CARD OF 'gnomonlaw8.RunExact'. -/
def runExactCard : Claim7 := { stood := { row := runExactRow, standIns := [], harness := (true, "cb5041bf7c2529c2b7a86344d9656c7755363b32027c5af859d2906bbaa62b45"), looks := true }, kinds := [], alts := [], laidByText := true, laidKinds := [.data, .pinned], laidTests := true, laidLooks := .later }
def RunExactCardSaid : Prop := Claim7.holds Tryz.pinned (.plain (OpenSpec.ofChange runExactSpec)) runExactCard

/-- THE TIED CARD OF 'gnomonlaw29.RewriteLoops'. -/
def rewriteLoopsCard : Claim7 := { stood := { row := rewriteLoopsRow, standIns := [], harness := (true, "cb5041bf7c2529c2b7a86344d9656c7755363b32027c5af859d2906bbaa62b45"), looks := true }, kinds := [], alts := [], laidByText := true, laidKinds := [.data, .pinned], laidTests := true, laidLooks := .later }
def RewriteLoopsCardSaid : Prop := Claim7.holds Tryz.pinned (.plain (OpenSpec.ofChange rewriteLoopsSpec)) rewriteLoopsCard

/-- THE TIED CARD OF 'gnomonlaw29.RewriteRuns'. -/
def rewriteRunsCard : Claim7 := { stood := { row := rewriteRunsRow, standIns := [], harness := (true, "cb5041bf7c2529c2b7a86344d9656c7755363b32027c5af859d2906bbaa62b45"), looks := true }, kinds := [], alts := [], laidByText := true, laidKinds := [.data, .pinned], laidTests := true, laidLooks := .later }
def RewriteRunsCardSaid : Prop := Claim7.holds Tryz.pinned (.plain (OpenSpec.ofChange rewriteRunsSpec)) rewriteRunsCard

/-- THE SECOND FORM's CARD OF 'gnomonlaw29.RewriteUnrolls'. -/
def rewriteUnrollsUptoCard : Claim7 := { stood := { row := rewriteUnrollsUptoRow, standIns := [], harness := (true, "cb5041bf7c2529c2b7a86344d9656c7755363b32027c5af859d2906bbaa62b45"), looks := true }, kinds := [], alts := [], laidByText := true, laidKinds := [.data, .pinned], laidTests := true, laidLooks := .later }
def RewriteUnrollsUptoCardSaid : Prop := Claim7.holds Tryz.pinned (.plain (OpenSpec.upto rewriteUnrollsSpec)) rewriteUnrollsUptoCard

/-- THE SECOND FORM's CARD OF 'gnomonlaw29.RewriteFolds'. -/
def rewriteFoldsUptoCard : Claim7 := { stood := { row := rewriteFoldsUptoRow, standIns := [], harness := (true, "cb5041bf7c2529c2b7a86344d9656c7755363b32027c5af859d2906bbaa62b45"), looks := true }, kinds := [], alts := [], laidByText := true, laidKinds := [.data, .pinned], laidTests := true, laidLooks := .later }
def RewriteFoldsUptoCardSaid : Prop := Claim7.holds Tryz.pinned (.plain (OpenSpec.upto rewriteFoldsSpec)) rewriteFoldsUptoCard

/-- THE SECOND FORM's CARD OF 'gnomonlaw8.RunExact'. -/
def runExactUptoCard : Claim7 := { stood := { row := runExactUptoRow, standIns := [], harness := (true, "cb5041bf7c2529c2b7a86344d9656c7755363b32027c5af859d2906bbaa62b45"), looks := true }, kinds := [], alts := [], laidByText := true, laidKinds := [.data, .pinned], laidTests := true, laidLooks := .later }
def RunExactUptoCardSaid : Prop := Claim7.holds Tryz.pinned (.plain (OpenSpec.upto runExactSpec)) runExactUptoCard

/-- THE SECOND FORM's CARD OF 'gnomonlaw29.RewriteLoops'. -/
def rewriteLoopsUptoCard : Claim7 := { stood := { row := rewriteLoopsUptoRow, standIns := [], harness := (true, "cb5041bf7c2529c2b7a86344d9656c7755363b32027c5af859d2906bbaa62b45"), looks := true }, kinds := [], alts := [], laidByText := true, laidKinds := [.data, .pinned], laidTests := true, laidLooks := .later }
def RewriteLoopsUptoCardSaid : Prop := Claim7.holds Tryz.pinned (.plain (OpenSpec.upto rewriteLoopsSpec)) rewriteLoopsUptoCard

/-- THE SECOND FORM's CARD OF 'gnomonlaw29.RewriteRuns'. -/
def rewriteRunsUptoCard : Claim7 := { stood := { row := rewriteRunsUptoRow, standIns := [], harness := (true, "cb5041bf7c2529c2b7a86344d9656c7755363b32027c5af859d2906bbaa62b45"), looks := true }, kinds := [], alts := [], laidByText := true, laidKinds := [.data, .pinned], laidTests := true, laidLooks := .later }
def RewriteRunsUptoCardSaid : Prop := Claim7.holds Tryz.pinned (.plain (OpenSpec.upto rewriteRunsSpec)) rewriteRunsUptoCard
end Rows
end Go.Proofs.YtnhkdkcgdcgmdaaGreatDoor
