/-
  NARROWER THAN 'FOR EVERY INPUT', by the rows' own cells (each row's printed sentence says how): RewriteUnrolls: loops, laid · RewriteFolds: loops, laid · RunExact: loops, laid · RewriteLoops: loops, laid · RewriteRuns: loops, laid.
  DERIVED. THE GIVEN ROWS OF THIS SEAT. 5 by the template 'for every input the law returns true; each argument reads behind the call as it read before'; 0 by the template 'total and deterministic' (their statements: YtnhkdkcgdcgmdaaGreatDoorTotals.lean).
  GIVEN WITH THE SEED: the statements are not yours to turn. If you find one false, say at which input.
  Laid BY PROGRAM, IN A SANDBOX (cutbox-rows.mjs): the forced cells as the released guide's own fill.sh prints them over the translation 0972b09643465747… (all of the seat's roots in one cut). By AI agents, Wed Nov 11 2026. No macro, syntax, notation, axiom, sorry.
-/
import Derived.Test.YtnhkdkcgdcgmdaaGreatDoorChecked
import GoSem.PinnedTables
import GoSem.Claim
import GoSem.ClaimJoined
import GoSem.ClaimMapViews
import Derived.JoinedTies
import Derived.KernelRfl
namespace Go.Proofs.YtnhkdkcgdcgmdaaGreatDoor
/- THE CELL 'sum', in the pinned program and in every row, IS THE sha256 OF THE DUMP (.gsa) THAT YtnhkdkcgdcgmdaaGreatDoorProg.lean LOADS. Nothing in Lean hashes anything: it is a label: what it is worth is what the hold of that sum in a sandbox is worth. -/
noncomputable def Tryz.pinned : Pinned := { name := "ytnhkdkcgdcgmdaagreatdoor", sum := "0972b0964346574795e9b597fa16f0baad8f0f8ccdbb40152438617bdeb55465", checked := Tryz.checked }
namespace Rows
def none {H : Type} : Left H := { results := [], args := [] }

/- WHAT THE LISTED PACKAGE-LEVEL VARIABLES READ AS WHEN THE CALL BEGINS. Each datum BY PROGRAM (the guide's laid-datum.mjs) off the statement by which the dump's own 'gosem.cut.vars' lays the variable. In a bare row this is a premise. The card (YtnhkdkcgdcgmdaaGreatDoorCards.lean) ties it to the program's text. -/
def laid_unicode_utf8_acceptRanges {H : Type} : DataW H := .agg [.agg [.lit (.int .u8 128), .lit (.int .u8 191)], .agg [.lit (.int .u8 160), .lit (.int .u8 191)], .agg [.lit (.int .u8 128), .lit (.int .u8 159)], .agg [.lit (.int .u8 144), .lit (.int .u8 191)], .agg [.lit (.int .u8 128), .lit (.int .u8 143)], .agg [.lit (.int .u8 0), .lit (.int .u8 0)], .agg [.lit (.int .u8 0), .lit (.int .u8 0)], .agg [.lit (.int .u8 0), .lit (.int .u8 0)], .agg [.lit (.int .u8 0), .lit (.int .u8 0)], .agg [.lit (.int .u8 0), .lit (.int .u8 0)], .agg [.lit (.int .u8 0), .lit (.int .u8 0)], .agg [.lit (.int .u8 0), .lit (.int .u8 0)], .agg [.lit (.int .u8 0), .lit (.int .u8 0)], .agg [.lit (.int .u8 0), .lit (.int .u8 0)], .agg [.lit (.int .u8 0), .lit (.int .u8 0)], .agg [.lit (.int .u8 0), .lit (.int .u8 0)]]
/-- One of Go's own tables, pinned by name: the form's constant. -/
def laid_unicode_utf8_first : DataW Unit := Go.Pinned.utf8First

/-- 'gnomonlaw29.RewriteUnrolls': WHATEVER THE INPUT: true; the input reads as it did. -/
def rewriteUnrollsSpec : ChangeSpec := { name := "rewriteUnrolls", fn := fun _ => fun
  | [d1, d2] => { results := [.lit (.bool true)], args := [d1, d2] }
  | _ => none }
def rewriteUnrollsRow : OpenClaim := { program := "ytnhkdkcgdcgmdaagreatdoor", sum := "0972b0964346574795e9b597fa16f0baad8f0f8ccdbb40152438617bdeb55465", func := "gnomon/gnomonlaw29.RewriteUnrolls", spec := "rewriteUnrolls", unfollowed := true, recurses := true, named := ["unicode/utf8.first", "unicode/utf8.acceptRanges"], loops := true, apart := false, laid := [("unicode/utf8.acceptRanges", laid_unicode_utf8_acceptRanges), ("unicode/utf8.first", laid_unicode_utf8_first)] }
def RewriteUnrollsSaid : Prop := rewriteUnrollsRow.holds Tryz.pinned (OpenSpec.ofChange rewriteUnrollsSpec)

/-- ITS FALSE NEIGHBOUR: 'it returns false'. Refute it at one input. -/
def rewriteUnrollsWrong : ChangeSpec := { name := "rewriteUnrolls", fn := fun _ => fun
  | [d1, d2] => { results := [.lit (.bool false)], args := [d1, d2] }
  | _ => none }
def RewriteUnrollsWrongFalsely : Prop := rewriteUnrollsRow.holds Tryz.pinned (OpenSpec.ofChange rewriteUnrollsWrong)

/-- 'gnomonlaw29.RewriteFolds': WHATEVER THE INPUT: true; the input reads as it did. -/
def rewriteFoldsSpec : ChangeSpec := { name := "rewriteFolds", fn := fun _ => fun
  | [d] => { results := [.lit (.bool true)], args := [d] }
  | _ => none }
def rewriteFoldsRow : OpenClaim := { program := "ytnhkdkcgdcgmdaagreatdoor", sum := "0972b0964346574795e9b597fa16f0baad8f0f8ccdbb40152438617bdeb55465", func := "gnomon/gnomonlaw29.RewriteFolds", spec := "rewriteFolds", unfollowed := true, recurses := true, named := ["unicode/utf8.first", "unicode/utf8.acceptRanges"], loops := true, apart := false, laid := [("unicode/utf8.acceptRanges", laid_unicode_utf8_acceptRanges), ("unicode/utf8.first", laid_unicode_utf8_first)] }
def RewriteFoldsSaid : Prop := rewriteFoldsRow.holds Tryz.pinned (OpenSpec.ofChange rewriteFoldsSpec)

/-- ITS FALSE NEIGHBOUR: 'it returns false'. Refute it at one input. -/
def rewriteFoldsWrong : ChangeSpec := { name := "rewriteFolds", fn := fun _ => fun
  | [d] => { results := [.lit (.bool false)], args := [d] }
  | _ => none }
def RewriteFoldsWrongFalsely : Prop := rewriteFoldsRow.holds Tryz.pinned (OpenSpec.ofChange rewriteFoldsWrong)

/-- 'gnomonlaw8.RunExact': WHATEVER THE INPUT: true; the input reads as it did. -/
def runExactSpec : ChangeSpec := { name := "runExact", fn := fun _ => fun
  | [d1, d2, d3] => { results := [.lit (.bool true)], args := [d1, d2, d3] }
  | _ => none }
def runExactRow : OpenClaim := { program := "ytnhkdkcgdcgmdaagreatdoor", sum := "0972b0964346574795e9b597fa16f0baad8f0f8ccdbb40152438617bdeb55465", func := "gnomon/gnomonlaw8.RunExact", spec := "runExact", unfollowed := true, recurses := true, named := ["unicode/utf8.first", "unicode/utf8.acceptRanges"], loops := true, apart := false, laid := [("unicode/utf8.acceptRanges", laid_unicode_utf8_acceptRanges), ("unicode/utf8.first", laid_unicode_utf8_first)] }
def RunExactSaid : Prop := runExactRow.holds Tryz.pinned (OpenSpec.ofChange runExactSpec)

/-- ITS FALSE NEIGHBOUR: 'it returns false'. Refute it at one input. -/
def runExactWrong : ChangeSpec := { name := "runExact", fn := fun _ => fun
  | [d1, d2, d3] => { results := [.lit (.bool false)], args := [d1, d2, d3] }
  | _ => none }
def RunExactWrongFalsely : Prop := runExactRow.holds Tryz.pinned (OpenSpec.ofChange runExactWrong)

/-- 'gnomonlaw29.RewriteLoops': WHATEVER THE INPUT: true; the input reads as it did. -/
def rewriteLoopsSpec : ChangeSpec := { name := "rewriteLoops", fn := fun _ => fun
  | [d1, d2, d3, d4] => { results := [.lit (.bool true)], args := [d1, d2, d3, d4] }
  | _ => none }
def rewriteLoopsRow : OpenClaim := { program := "ytnhkdkcgdcgmdaagreatdoor", sum := "0972b0964346574795e9b597fa16f0baad8f0f8ccdbb40152438617bdeb55465", func := "gnomon/gnomonlaw29.RewriteLoops", spec := "rewriteLoops", unfollowed := true, recurses := true, named := ["unicode/utf8.first", "unicode/utf8.acceptRanges"], loops := true, apart := false, laid := [("unicode/utf8.acceptRanges", laid_unicode_utf8_acceptRanges), ("unicode/utf8.first", laid_unicode_utf8_first)] }
def RewriteLoopsSaid : Prop := rewriteLoopsRow.holds Tryz.pinned (OpenSpec.ofChange rewriteLoopsSpec)

/-- ITS FALSE NEIGHBOUR: 'it returns false'. Refute it at one input. -/
def rewriteLoopsWrong : ChangeSpec := { name := "rewriteLoops", fn := fun _ => fun
  | [d1, d2, d3, d4] => { results := [.lit (.bool false)], args := [d1, d2, d3, d4] }
  | _ => none }
def RewriteLoopsWrongFalsely : Prop := rewriteLoopsRow.holds Tryz.pinned (OpenSpec.ofChange rewriteLoopsWrong)

/-- 'gnomonlaw29.RewriteRuns': WHATEVER THE INPUT: true; the input reads as it did. -/
def rewriteRunsSpec : ChangeSpec := { name := "rewriteRuns", fn := fun _ => fun
  | [d1, d2, d3] => { results := [.lit (.bool true)], args := [d1, d2, d3] }
  | _ => none }
def rewriteRunsRow : OpenClaim := { program := "ytnhkdkcgdcgmdaagreatdoor", sum := "0972b0964346574795e9b597fa16f0baad8f0f8ccdbb40152438617bdeb55465", func := "gnomon/gnomonlaw29.RewriteRuns", spec := "rewriteRuns", unfollowed := true, recurses := true, named := ["unicode/utf8.first", "unicode/utf8.acceptRanges"], loops := true, apart := false, laid := [("unicode/utf8.acceptRanges", laid_unicode_utf8_acceptRanges), ("unicode/utf8.first", laid_unicode_utf8_first)] }
def RewriteRunsSaid : Prop := rewriteRunsRow.holds Tryz.pinned (OpenSpec.ofChange rewriteRunsSpec)

/-- ITS FALSE NEIGHBOUR: 'it returns false'. Refute it at one input. -/
def rewriteRunsWrong : ChangeSpec := { name := "rewriteRuns", fn := fun _ => fun
  | [d1, d2, d3] => { results := [.lit (.bool false)], args := [d1, d2, d3] }
  | _ => none }
def RewriteRunsWrongFalsely : Prop := rewriteRunsRow.holds Tryz.pinned (OpenSpec.ofChange rewriteRunsWrong)

/- THE SECOND FORM. 'bulk': how many values and letters a reading holds, each counted each time it is reached (what is shared counts as often as it is met; a slice's spare places count too). A statement '..UptoSaid' is the law's where the arguments, and the package variables that the reading takes, are together of bulk at most 1048576: NARROWER than '..Said'. Prove '..Said' where nothing that the law and all that it calls make is longer than what came in: it says more and counts as full. Else prove '..UptoSaid'. A law counts once. -/
mutual
def uptoBulk {H : Type} : DataW H → Nat
  | .lit (.string bytes) => bytes.length + 1
  | .lit _ => 1
  | .nil => 1
  | .ptr d => uptoBulk d + 1
  | .slice elems spare => uptoBulkAll elems + uptoBulkAll spare + 1
  | .agg parts => uptoBulkAll parts + 1
  | .iface _ d => uptoBulk d + 1
  | .map entries => uptoBulkEntries entries + 1
  | .held _ => 1
def uptoBulkAll {H : Type} : List (DataW H) → Nat
  | [] => 0
  | d :: r => uptoBulk d + uptoBulkAll r
def uptoBulkEntries {H : Type} : List (Lit × DataW H) → Nat
  | [] => 0
  | x :: r => uptoBulkEntry x + uptoBulkEntries r
def uptoBulkEntry {H : Type} : Lit × DataW H → Nat
  | (.string bytes, d) => bytes.length + uptoBulk d + 1
  | (_, d) => uptoBulk d + 1
 end
def uptoSmall : (H : Type) → List (DataW H) → Bool := fun _ ds => decide (uptoBulkAll ds ≤ 1048576)
def OpenSpec.upto (s : _root_.Go.ChangeSpec) : _root_.Go.OpenSpec := { _root_.Go.OpenSpec.ofChange s with cond := some uptoSmall }

/-- 'gnomonlaw29.RewriteUnrolls', WHERE WHAT IT READS IS OF BULK AT MOST 1048576: true; the input reads as it did. -/
def rewriteUnrollsUptoRow : OpenClaim := { program := "ytnhkdkcgdcgmdaagreatdoor", sum := "0972b0964346574795e9b597fa16f0baad8f0f8ccdbb40152438617bdeb55465", func := "gnomon/gnomonlaw29.RewriteUnrolls", spec := "rewriteUnrolls", unfollowed := true, recurses := true, named := ["unicode/utf8.first", "unicode/utf8.acceptRanges"], loops := true, apart := false, laid := [("unicode/utf8.acceptRanges", laid_unicode_utf8_acceptRanges), ("unicode/utf8.first", laid_unicode_utf8_first)], narrowed := true }
def RewriteUnrollsUptoSaid : Prop := rewriteUnrollsUptoRow.holds Tryz.pinned (OpenSpec.upto rewriteUnrollsSpec)

/-- 'gnomonlaw29.RewriteFolds', WHERE WHAT IT READS IS OF BULK AT MOST 1048576: true; the input reads as it did. -/
def rewriteFoldsUptoRow : OpenClaim := { program := "ytnhkdkcgdcgmdaagreatdoor", sum := "0972b0964346574795e9b597fa16f0baad8f0f8ccdbb40152438617bdeb55465", func := "gnomon/gnomonlaw29.RewriteFolds", spec := "rewriteFolds", unfollowed := true, recurses := true, named := ["unicode/utf8.first", "unicode/utf8.acceptRanges"], loops := true, apart := false, laid := [("unicode/utf8.acceptRanges", laid_unicode_utf8_acceptRanges), ("unicode/utf8.first", laid_unicode_utf8_first)], narrowed := true }
def RewriteFoldsUptoSaid : Prop := rewriteFoldsUptoRow.holds Tryz.pinned (OpenSpec.upto rewriteFoldsSpec)

/-- 'gnomonlaw8.RunExact', WHERE WHAT IT READS IS OF BULK AT MOST 1048576: true; the input reads as it did. -/
def runExactUptoRow : OpenClaim := { program := "ytnhkdkcgdcgmdaagreatdoor", sum := "0972b0964346574795e9b597fa16f0baad8f0f8ccdbb40152438617bdeb55465", func := "gnomon/gnomonlaw8.RunExact", spec := "runExact", unfollowed := true, recurses := true, named := ["unicode/utf8.first", "unicode/utf8.acceptRanges"], loops := true, apart := false, laid := [("unicode/utf8.acceptRanges", laid_unicode_utf8_acceptRanges), ("unicode/utf8.first", laid_unicode_utf8_first)], narrowed := true }
def RunExactUptoSaid : Prop := runExactUptoRow.holds Tryz.pinned (OpenSpec.upto runExactSpec)

/-- 'gnomonlaw29.RewriteLoops', WHERE WHAT IT READS IS OF BULK AT MOST 1048576: true; the input reads as it did. -/
def rewriteLoopsUptoRow : OpenClaim := { program := "ytnhkdkcgdcgmdaagreatdoor", sum := "0972b0964346574795e9b597fa16f0baad8f0f8ccdbb40152438617bdeb55465", func := "gnomon/gnomonlaw29.RewriteLoops", spec := "rewriteLoops", unfollowed := true, recurses := true, named := ["unicode/utf8.first", "unicode/utf8.acceptRanges"], loops := true, apart := false, laid := [("unicode/utf8.acceptRanges", laid_unicode_utf8_acceptRanges), ("unicode/utf8.first", laid_unicode_utf8_first)], narrowed := true }
def RewriteLoopsUptoSaid : Prop := rewriteLoopsUptoRow.holds Tryz.pinned (OpenSpec.upto rewriteLoopsSpec)

/-- 'gnomonlaw29.RewriteRuns', WHERE WHAT IT READS IS OF BULK AT MOST 1048576: true; the input reads as it did. -/
def rewriteRunsUptoRow : OpenClaim := { program := "ytnhkdkcgdcgmdaagreatdoor", sum := "0972b0964346574795e9b597fa16f0baad8f0f8ccdbb40152438617bdeb55465", func := "gnomon/gnomonlaw29.RewriteRuns", spec := "rewriteRuns", unfollowed := true, recurses := true, named := ["unicode/utf8.first", "unicode/utf8.acceptRanges"], loops := true, apart := false, laid := [("unicode/utf8.acceptRanges", laid_unicode_utf8_acceptRanges), ("unicode/utf8.first", laid_unicode_utf8_first)], narrowed := true }
def RewriteRunsUptoSaid : Prop := rewriteRunsUptoRow.holds Tryz.pinned (OpenSpec.upto rewriteRunsSpec)

end Rows
end Go.Proofs.YtnhkdkcgdcgmdaaGreatDoor
