/-
  DERIVED. GIVEN WITH THE SEED: THE CARDS: each row of YthklmeihgmcljaaDoorRows.lean that lists a variable, with what it lists TIED to the program's text (the seventh form; the later family's looks); each row that meets fmt, with fmt's text TOLD by the authors' own Lean function (tested against real Go, not proved from fmt's source: count such statements apart). THE CARD IS WHAT COUNTS. Prove the row's statement (the work); the ties are given (YthklmeihgmcljaaDoorTie.lean); close each card by the builder's one call (the guide's Derived/Test/ToyasCard.lean, 'card_holds'). Laid BY PROGRAM, IN A SANDBOX (cutbox-door.mjs). By AI agents, Wed Nov 11 2026. No macro, syntax, notation, axiom, sorry.
-/
import Derived.Test.YthklmeihgmcljaaDoorRows
import GoSem.ClaimSeven
namespace Go.Proofs.YthklmeihgmcljaaDoor
namespace Rows

/-- THE TIED CARD OF 'gnomonlaw2.LexTokens'. -/
def lexTokensCard : Claim7 := { stood := { row := lexTokensRow, standIns := [], harness := (true, "134cce9c28548cb641c864421d63f2c04ad052dca04546a935de11d611975ac1"), looks := true }, kinds := [], alts := [], laidByText := true, laidKinds := [.data, .data, .data, .data, .sentinel, .sentinel, .pinned], laidTests := true, laidLooks := .later }
def LexTokensCardSaid : Prop := Claim7.holds Tryd.pinned (.plain (OpenSpec.ofChange lexTokensSpec)) lexTokensCard

/-- THE TIED CARD OF 'gnomonlaw2.LexAgain'. -/
def lexAgainCard : Claim7 := { stood := { row := lexAgainRow, standIns := [], harness := (true, "134cce9c28548cb641c864421d63f2c04ad052dca04546a935de11d611975ac1"), looks := true }, kinds := [], alts := [], laidByText := true, laidKinds := [.data, .data, .data, .data, .sentinel, .sentinel, .pinned], laidTests := true, laidLooks := .later }
def LexAgainCardSaid : Prop := Claim7.holds Tryd.pinned (.plain (OpenSpec.ofChange lexAgainSpec)) lexAgainCard

/-- THE TIED CARD OF 'gnomonlaw2.LexNumbers'. -/
def lexNumbersCard : Claim7 := { stood := { row := lexNumbersRow, standIns := [], harness := (true, "134cce9c28548cb641c864421d63f2c04ad052dca04546a935de11d611975ac1"), looks := true }, kinds := [], alts := [], laidByText := true, laidKinds := [.data, .data, .data, .data, .sentinel, .sentinel, .pinned], laidTests := true, laidLooks := .later }
def LexNumbersCardSaid : Prop := Claim7.holds Tryd.pinned (.plain (OpenSpec.ofChange lexNumbersSpec)) lexNumbersCard

/-- THE TIED CARD OF 'gnomonlaw2.LexLines'. -/
def lexLinesCard : Claim7 := { stood := { row := lexLinesRow, standIns := [], harness := (true, "134cce9c28548cb641c864421d63f2c04ad052dca04546a935de11d611975ac1"), looks := true }, kinds := [], alts := [], laidByText := true, laidKinds := [.data, .data, .data, .data, .sentinel, .sentinel, .pinned], laidTests := true, laidLooks := .later }
def LexLinesCardSaid : Prop := Claim7.holds Tryd.pinned (.plain (OpenSpec.ofChange lexLinesSpec)) lexLinesCard

/-- THE TIED CARD OF 'gnomonlaw2.LexWords'. -/
def lexWordsCard : Claim7 := { stood := { row := lexWordsRow, standIns := [], harness := (true, "134cce9c28548cb641c864421d63f2c04ad052dca04546a935de11d611975ac1"), looks := true }, kinds := [], alts := [], laidByText := true, laidKinds := [.data, .data, .data, .data, .sentinel, .sentinel, .pinned], laidTests := true, laidLooks := .later }
def LexWordsCardSaid : Prop := Claim7.holds Tryd.pinned (.plain (OpenSpec.ofChange lexWordsSpec)) lexWordsCard

/-- THE SECOND FORM's CARD OF 'gnomonlaw2.LexTokens'. -/
def lexTokensUptoCard : Claim7 := { stood := { row := lexTokensUptoRow, standIns := [], harness := (true, "134cce9c28548cb641c864421d63f2c04ad052dca04546a935de11d611975ac1"), looks := true }, kinds := [], alts := [], laidByText := true, laidKinds := [.data, .data, .data, .data, .sentinel, .sentinel, .pinned], laidTests := true, laidLooks := .later }
def LexTokensUptoCardSaid : Prop := Claim7.holds Tryd.pinned (.plain (OpenSpec.upto lexTokensSpec)) lexTokensUptoCard

/-- THE SECOND FORM's CARD OF 'gnomonlaw2.LexAgain'. -/
def lexAgainUptoCard : Claim7 := { stood := { row := lexAgainUptoRow, standIns := [], harness := (true, "134cce9c28548cb641c864421d63f2c04ad052dca04546a935de11d611975ac1"), looks := true }, kinds := [], alts := [], laidByText := true, laidKinds := [.data, .data, .data, .data, .sentinel, .sentinel, .pinned], laidTests := true, laidLooks := .later }
def LexAgainUptoCardSaid : Prop := Claim7.holds Tryd.pinned (.plain (OpenSpec.upto lexAgainSpec)) lexAgainUptoCard

/-- THE SECOND FORM's CARD OF 'gnomonlaw2.LexNumbers'. -/
def lexNumbersUptoCard : Claim7 := { stood := { row := lexNumbersUptoRow, standIns := [], harness := (true, "134cce9c28548cb641c864421d63f2c04ad052dca04546a935de11d611975ac1"), looks := true }, kinds := [], alts := [], laidByText := true, laidKinds := [.data, .data, .data, .data, .sentinel, .sentinel, .pinned], laidTests := true, laidLooks := .later }
def LexNumbersUptoCardSaid : Prop := Claim7.holds Tryd.pinned (.plain (OpenSpec.upto lexNumbersSpec)) lexNumbersUptoCard

/-- THE SECOND FORM's CARD OF 'gnomonlaw2.LexLines'. -/
def lexLinesUptoCard : Claim7 := { stood := { row := lexLinesUptoRow, standIns := [], harness := (true, "134cce9c28548cb641c864421d63f2c04ad052dca04546a935de11d611975ac1"), looks := true }, kinds := [], alts := [], laidByText := true, laidKinds := [.data, .data, .data, .data, .sentinel, .sentinel, .pinned], laidTests := true, laidLooks := .later }
def LexLinesUptoCardSaid : Prop := Claim7.holds Tryd.pinned (.plain (OpenSpec.upto lexLinesSpec)) lexLinesUptoCard

/-- THE SECOND FORM's CARD OF 'gnomonlaw2.LexWords'. -/
def lexWordsUptoCard : Claim7 := { stood := { row := lexWordsUptoRow, standIns := [], harness := (true, "134cce9c28548cb641c864421d63f2c04ad052dca04546a935de11d611975ac1"), looks := true }, kinds := [], alts := [], laidByText := true, laidKinds := [.data, .data, .data, .data, .sentinel, .sentinel, .pinned], laidTests := true, laidLooks := .later }
def LexWordsUptoCardSaid : Prop := Claim7.holds Tryd.pinned (.plain (OpenSpec.upto lexWordsSpec)) lexWordsUptoCard
end Rows
end Go.Proofs.YthklmeihgmcljaaDoor
