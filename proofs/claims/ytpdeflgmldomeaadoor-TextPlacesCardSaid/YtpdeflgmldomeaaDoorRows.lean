/-
  NARROWER THAN 'FOR EVERY INPUT', by the rows' own cells (each row's printed sentence says how): TextChecks: laid · TextClasses: laid · TextOn: laid · TextJoins: laid · TextPlaces: laid.
  DERIVED. THE GIVEN ROWS OF THIS SEAT. 5 by the template 'for every input the law returns true; each argument reads behind the call as it read before'; 0 by the template 'total and deterministic' (their statements: YtpdeflgmldomeaaDoorTotals.lean).
  GIVEN WITH THE SEED: the statements are not yours to turn. If you find one false, say at which input.
  Laid BY PROGRAM, IN A SANDBOX (cutbox-rows.mjs): the forced cells as the released guide's own fill.sh prints them over the translation 9efe09346a7c6636… (all of the seat's roots in one cut). By AI agents, Wed Nov 11 2026. No macro, syntax, notation, axiom, sorry.
-/
import Derived.Test.YtpdeflgmldomeaaDoorChecked
import GoSem.PinnedTables
import GoSem.Claim
import GoSem.ClaimJoined
import GoSem.ClaimMapViews
import Derived.JoinedTies
import Derived.KernelRfl
namespace Go.Proofs.YtpdeflgmldomeaaDoor
/- THE CELL 'sum', in the pinned program and in every row, IS THE sha256 OF THE DUMP (.gsa) THAT YtpdeflgmldomeaaDoorProg.lean LOADS. Nothing in Lean hashes anything: it is a label: what it is worth is what the hold of that sum in a sandbox is worth. -/
noncomputable def Tryd.pinned : Pinned := { name := "ytpdeflgmldomeaadoor", sum := "9efe09346a7c66361b64c207bcdcbbc79c6ff005f6a4467caa39bce38b1787c3", checked := Tryd.checked }
namespace Rows
def none {H : Type} : Left H := { results := [], args := [] }

/- WHAT THE LISTED PACKAGE-LEVEL VARIABLES READ AS WHEN THE CALL BEGINS. Each datum BY PROGRAM (the guide's laid-datum.mjs) off the statement by which the dump's own 'gosem.cut.vars' lays the variable. In a bare row this is a premise. The card (YtpdeflgmldomeaaDoorCards.lean) ties it to the program's text. -/
def laid_unicode_utf8_acceptRanges {H : Type} : DataW H := .agg [.agg [.lit (.int .u8 128), .lit (.int .u8 191)], .agg [.lit (.int .u8 160), .lit (.int .u8 191)], .agg [.lit (.int .u8 128), .lit (.int .u8 159)], .agg [.lit (.int .u8 144), .lit (.int .u8 191)], .agg [.lit (.int .u8 128), .lit (.int .u8 143)], .agg [.lit (.int .u8 0), .lit (.int .u8 0)], .agg [.lit (.int .u8 0), .lit (.int .u8 0)], .agg [.lit (.int .u8 0), .lit (.int .u8 0)], .agg [.lit (.int .u8 0), .lit (.int .u8 0)], .agg [.lit (.int .u8 0), .lit (.int .u8 0)], .agg [.lit (.int .u8 0), .lit (.int .u8 0)], .agg [.lit (.int .u8 0), .lit (.int .u8 0)], .agg [.lit (.int .u8 0), .lit (.int .u8 0)], .agg [.lit (.int .u8 0), .lit (.int .u8 0)], .agg [.lit (.int .u8 0), .lit (.int .u8 0)], .agg [.lit (.int .u8 0), .lit (.int .u8 0)]]
/-- One of Go's own tables, pinned by name: the form's constant. -/
def laid_unicode_utf8_first : DataW Unit := Go.Pinned.utf8First

/-- 'gnomonlaw1.TextChecks': WHATEVER THE INPUT: true; the input reads as it did. -/
def textChecksSpec : ChangeSpec := { name := "textChecks", fn := fun _ => fun
  | [d] => { results := [.lit (.bool true)], args := [d] }
  | _ => none }
def textChecksRow : OpenClaim := { program := "ytpdeflgmldomeaadoor", sum := "9efe09346a7c66361b64c207bcdcbbc79c6ff005f6a4467caa39bce38b1787c3", func := "gnomon/gnomonlaw1.TextChecks", spec := "textChecks", unfollowed := true, recurses := true, named := ["unicode/utf8.first", "unicode/utf8.acceptRanges"], apart := false, laid := [("unicode/utf8.acceptRanges", laid_unicode_utf8_acceptRanges), ("unicode/utf8.first", laid_unicode_utf8_first)] }
def TextChecksSaid : Prop := textChecksRow.holds Tryd.pinned (OpenSpec.ofChange textChecksSpec)

/-- ITS FALSE NEIGHBOUR: 'it returns false'. Refute it at one input. -/
def textChecksWrong : ChangeSpec := { name := "textChecks", fn := fun _ => fun
  | [d] => { results := [.lit (.bool false)], args := [d] }
  | _ => none }
def TextChecksWrongFalsely : Prop := textChecksRow.holds Tryd.pinned (OpenSpec.ofChange textChecksWrong)

/-- 'gnomonlaw1.TextClasses': WHATEVER THE INPUT: true; the input reads as it did. -/
def textClassesSpec : ChangeSpec := { name := "textClasses", fn := fun _ => fun
  | [d] => { results := [.lit (.bool true)], args := [d] }
  | _ => none }
def textClassesRow : OpenClaim := { program := "ytpdeflgmldomeaadoor", sum := "9efe09346a7c66361b64c207bcdcbbc79c6ff005f6a4467caa39bce38b1787c3", func := "gnomon/gnomonlaw1.TextClasses", spec := "textClasses", unfollowed := true, recurses := true, named := ["unicode/utf8.first", "unicode/utf8.acceptRanges"], apart := false, laid := [("unicode/utf8.acceptRanges", laid_unicode_utf8_acceptRanges), ("unicode/utf8.first", laid_unicode_utf8_first)] }
def TextClassesSaid : Prop := textClassesRow.holds Tryd.pinned (OpenSpec.ofChange textClassesSpec)

/-- ITS FALSE NEIGHBOUR: 'it returns false'. Refute it at one input. -/
def textClassesWrong : ChangeSpec := { name := "textClasses", fn := fun _ => fun
  | [d] => { results := [.lit (.bool false)], args := [d] }
  | _ => none }
def TextClassesWrongFalsely : Prop := textClassesRow.holds Tryd.pinned (OpenSpec.ofChange textClassesWrong)

/-- 'gnomonlaw1.TextOn': WHATEVER THE INPUT: true; the input reads as it did. -/
def textOnSpec : ChangeSpec := { name := "textOn", fn := fun _ => fun
  | [d1, d2, d3] => { results := [.lit (.bool true)], args := [d1, d2, d3] }
  | _ => none }
def textOnRow : OpenClaim := { program := "ytpdeflgmldomeaadoor", sum := "9efe09346a7c66361b64c207bcdcbbc79c6ff005f6a4467caa39bce38b1787c3", func := "gnomon/gnomonlaw1.TextOn", spec := "textOn", unfollowed := true, recurses := true, named := ["unicode/utf8.first", "unicode/utf8.acceptRanges"], apart := false, laid := [("unicode/utf8.acceptRanges", laid_unicode_utf8_acceptRanges), ("unicode/utf8.first", laid_unicode_utf8_first)] }
def TextOnSaid : Prop := textOnRow.holds Tryd.pinned (OpenSpec.ofChange textOnSpec)

/-- ITS FALSE NEIGHBOUR: 'it returns false'. Refute it at one input. -/
def textOnWrong : ChangeSpec := { name := "textOn", fn := fun _ => fun
  | [d1, d2, d3] => { results := [.lit (.bool false)], args := [d1, d2, d3] }
  | _ => none }
def TextOnWrongFalsely : Prop := textOnRow.holds Tryd.pinned (OpenSpec.ofChange textOnWrong)

/-- 'gnomonlaw1.TextJoins': WHATEVER THE INPUT: true; the input reads as it did. -/
def textJoinsSpec : ChangeSpec := { name := "textJoins", fn := fun _ => fun
  | [d1, d2, d3] => { results := [.lit (.bool true)], args := [d1, d2, d3] }
  | _ => none }
def textJoinsRow : OpenClaim := { program := "ytpdeflgmldomeaadoor", sum := "9efe09346a7c66361b64c207bcdcbbc79c6ff005f6a4467caa39bce38b1787c3", func := "gnomon/gnomonlaw1.TextJoins", spec := "textJoins", unfollowed := true, recurses := true, named := ["unicode/utf8.first", "unicode/utf8.acceptRanges"], apart := false, laid := [("unicode/utf8.acceptRanges", laid_unicode_utf8_acceptRanges), ("unicode/utf8.first", laid_unicode_utf8_first)] }
def TextJoinsSaid : Prop := textJoinsRow.holds Tryd.pinned (OpenSpec.ofChange textJoinsSpec)

/-- ITS FALSE NEIGHBOUR: 'it returns false'. Refute it at one input. -/
def textJoinsWrong : ChangeSpec := { name := "textJoins", fn := fun _ => fun
  | [d1, d2, d3] => { results := [.lit (.bool false)], args := [d1, d2, d3] }
  | _ => none }
def TextJoinsWrongFalsely : Prop := textJoinsRow.holds Tryd.pinned (OpenSpec.ofChange textJoinsWrong)

/-- 'gnomonlaw1.TextPlaces': WHATEVER THE INPUT: true; the input reads as it did. -/
def textPlacesSpec : ChangeSpec := { name := "textPlaces", fn := fun _ => fun
  | [d1, d2, d3] => { results := [.lit (.bool true)], args := [d1, d2, d3] }
  | _ => none }
def textPlacesRow : OpenClaim := { program := "ytpdeflgmldomeaadoor", sum := "9efe09346a7c66361b64c207bcdcbbc79c6ff005f6a4467caa39bce38b1787c3", func := "gnomon/gnomonlaw1.TextPlaces", spec := "textPlaces", unfollowed := true, recurses := true, named := ["unicode/utf8.first", "unicode/utf8.acceptRanges"], apart := false, laid := [("unicode/utf8.acceptRanges", laid_unicode_utf8_acceptRanges), ("unicode/utf8.first", laid_unicode_utf8_first)] }
def TextPlacesSaid : Prop := textPlacesRow.holds Tryd.pinned (OpenSpec.ofChange textPlacesSpec)

/-- ITS FALSE NEIGHBOUR: 'it returns false'. Refute it at one input. -/
def textPlacesWrong : ChangeSpec := { name := "textPlaces", fn := fun _ => fun
  | [d1, d2, d3] => { results := [.lit (.bool false)], args := [d1, d2, d3] }
  | _ => none }
def TextPlacesWrongFalsely : Prop := textPlacesRow.holds Tryd.pinned (OpenSpec.ofChange textPlacesWrong)

/- THE SECOND FORM. 'bulk': how many values and letters a reading holds, each counted each time it is reached (what is shared counts as often as it is met; a slice's spare places count too). A statement '..UptoSaid' is the law's where the arguments, and the package variables that the reading takes, are together of bulk at most 1048576: NARROWER than '..Said'. Prove '..Said' where nothing that the law and all that it calls make is longer than what came in: it says more and counts as full. Else prove '..UptoSaid'. A law counts once. -/
mutual
def uptoBulk {H : Type} : DataW H → Nat
  | .lit (.string bytes) => bytes.length + 1
  | .lit _ => 1
  | .nil => 1
  | .ptr d => uptoBulk d + 1
  | .slice elems spare => uptoBulkAll elems + uptoBulkAll spare + 1
  | .agg parts => uptoBulkAll parts + 1
  | .iface _ d => uptoBulk d + 1
  | .map entries => uptoBulkEntries entries + 1
  | .held _ => 1
def uptoBulkAll {H : Type} : List (DataW H) → Nat
  | [] => 0
  | d :: r => uptoBulk d + uptoBulkAll r
def uptoBulkEntries {H : Type} : List (Lit × DataW H) → Nat
  | [] => 0
  | x :: r => uptoBulkEntry x + uptoBulkEntries r
def uptoBulkEntry {H : Type} : Lit × DataW H → Nat
  | (.string bytes, d) => bytes.length + uptoBulk d + 1
  | (_, d) => uptoBulk d + 1
 end
def uptoSmall : (H : Type) → List (DataW H) → Bool := fun _ ds => decide (uptoBulkAll ds ≤ 1048576)
def OpenSpec.upto (s : _root_.Go.ChangeSpec) : _root_.Go.OpenSpec := { _root_.Go.OpenSpec.ofChange s with cond := some uptoSmall }

/-- 'gnomonlaw1.TextChecks', WHERE WHAT IT READS IS OF BULK AT MOST 1048576: true; the input reads as it did. -/
def textChecksUptoRow : OpenClaim := { program := "ytpdeflgmldomeaadoor", sum := "9efe09346a7c66361b64c207bcdcbbc79c6ff005f6a4467caa39bce38b1787c3", func := "gnomon/gnomonlaw1.TextChecks", spec := "textChecks", unfollowed := true, recurses := true, named := ["unicode/utf8.first", "unicode/utf8.acceptRanges"], apart := false, laid := [("unicode/utf8.acceptRanges", laid_unicode_utf8_acceptRanges), ("unicode/utf8.first", laid_unicode_utf8_first)], narrowed := true }
def TextChecksUptoSaid : Prop := textChecksUptoRow.holds Tryd.pinned (OpenSpec.upto textChecksSpec)

/-- 'gnomonlaw1.TextClasses', WHERE WHAT IT READS IS OF BULK AT MOST 1048576: true; the input reads as it did. -/
def textClassesUptoRow : OpenClaim := { program := "ytpdeflgmldomeaadoor", sum := "9efe09346a7c66361b64c207bcdcbbc79c6ff005f6a4467caa39bce38b1787c3", func := "gnomon/gnomonlaw1.TextClasses", spec := "textClasses", unfollowed := true, recurses := true, named := ["unicode/utf8.first", "unicode/utf8.acceptRanges"], apart := false, laid := [("unicode/utf8.acceptRanges", laid_unicode_utf8_acceptRanges), ("unicode/utf8.first", laid_unicode_utf8_first)], narrowed := true }
def TextClassesUptoSaid : Prop := textClassesUptoRow.holds Tryd.pinned (OpenSpec.upto textClassesSpec)

/-- 'gnomonlaw1.TextOn', WHERE WHAT IT READS IS OF BULK AT MOST 1048576: true; the input reads as it did. -/
def textOnUptoRow : OpenClaim := { program := "ytpdeflgmldomeaadoor", sum := "9efe09346a7c66361b64c207bcdcbbc79c6ff005f6a4467caa39bce38b1787c3", func := "gnomon/gnomonlaw1.TextOn", spec := "textOn", unfollowed := true, recurses := true, named := ["unicode/utf8.first", "unicode/utf8.acceptRanges"], apart := false, laid := [("unicode/utf8.acceptRanges", laid_unicode_utf8_acceptRanges), ("unicode/utf8.first", laid_unicode_utf8_first)], narrowed := true }
def TextOnUptoSaid : Prop := textOnUptoRow.holds Tryd.pinned (OpenSpec.upto textOnSpec)

/-- 'gnomonlaw1.TextJoins', WHERE WHAT IT READS IS OF BULK AT MOST 1048576: true; the input reads as it did. -/
def textJoinsUptoRow : OpenClaim := { program := "ytpdeflgmldomeaadoor", sum := "9efe09346a7c66361b64c207bcdcbbc79c6ff005f6a4467caa39bce38b1787c3", func := "gnomon/gnomonlaw1.TextJoins", spec := "textJoins", unfollowed := true, recurses := true, named := ["unicode/utf8.first", "unicode/utf8.acceptRanges"], apart := false, laid := [("unicode/utf8.acceptRanges", laid_unicode_utf8_acceptRanges), ("unicode/utf8.first", laid_unicode_utf8_first)], narrowed := true }
def TextJoinsUptoSaid : Prop := textJoinsUptoRow.holds Tryd.pinned (OpenSpec.upto textJoinsSpec)

/-- 'gnomonlaw1.TextPlaces', WHERE WHAT IT READS IS OF BULK AT MOST 1048576: true; the input reads as it did. -/
def textPlacesUptoRow : OpenClaim := { program := "ytpdeflgmldomeaadoor", sum := "9efe09346a7c66361b64c207bcdcbbc79c6ff005f6a4467caa39bce38b1787c3", func := "gnomon/gnomonlaw1.TextPlaces", spec := "textPlaces", unfollowed := true, recurses := true, named := ["unicode/utf8.first", "unicode/utf8.acceptRanges"], apart := false, laid := [("unicode/utf8.acceptRanges", laid_unicode_utf8_acceptRanges), ("unicode/utf8.first", laid_unicode_utf8_first)], narrowed := true }
def TextPlacesUptoSaid : Prop := textPlacesUptoRow.holds Tryd.pinned (OpenSpec.upto textPlacesSpec)

end Rows
end Go.Proofs.YtpdeflgmldomeaaDoor
