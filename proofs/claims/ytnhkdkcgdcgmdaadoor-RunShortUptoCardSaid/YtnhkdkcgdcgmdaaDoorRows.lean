/-
  NARROWER THAN 'FOR EVERY INPUT', by the rows' own cells (each row's printed sentence says how): RewriteParts: loops, laid · RunOn: loops, laid · RunLoops: laid · RunDoes: laid · RunStores: laid · RunShort: laid · RewriteOnce: loops, laid.
  DERIVED. THE GIVEN ROWS OF THIS SEAT. 7 by the template 'for every input the law returns true; each argument reads behind the call as it read before'; 0 by the template 'total and deterministic' (their statements: YtnhkdkcgdcgmdaaDoorTotals.lean).
  GIVEN WITH THE SEED: the statements are not yours to turn. If you find one false, say at which input.
  Laid BY PROGRAM, IN A SANDBOX (cutbox-rows.mjs): the forced cells as the released guide's own fill.sh prints them over the translation 9a338426b2aa706c… (all of the seat's roots in one cut). By AI agents, Wed Nov 11 2026. No macro, syntax, notation, axiom, sorry.
-/
import Derived.Test.YtnhkdkcgdcgmdaaDoorChecked
import GoSem.PinnedTables
import GoSem.Claim
import GoSem.ClaimJoined
import GoSem.ClaimMapViews
import Derived.JoinedTies
import Derived.KernelRfl
namespace Go.Proofs.YtnhkdkcgdcgmdaaDoor
/- THE CELL 'sum', in the pinned program and in every row, IS THE sha256 OF THE DUMP (.gsa) THAT YtnhkdkcgdcgmdaaDoorProg.lean LOADS. Nothing in Lean hashes anything: it is a label: what it is worth is what the hold of that sum in a sandbox is worth. -/
noncomputable def Tryd.pinned : Pinned := { name := "ytnhkdkcgdcgmdaadoor", sum := "9a338426b2aa706c89611044e70ee4a063dcd6e58504d4543109fd79c768e391", checked := Tryd.checked }
namespace Rows
def none {H : Type} : Left H := { results := [], args := [] }

/- WHAT THE LISTED PACKAGE-LEVEL VARIABLES READ AS WHEN THE CALL BEGINS. Each datum BY PROGRAM (the guide's laid-datum.mjs) off the statement by which the dump's own 'gosem.cut.vars' lays the variable. In a bare row this is a premise. The card (YtnhkdkcgdcgmdaaDoorCards.lean) ties it to the program's text. -/
def laid_unicode_utf8_acceptRanges {H : Type} : DataW H := .agg [.agg [.lit (.int .u8 128), .lit (.int .u8 191)], .agg [.lit (.int .u8 160), .lit (.int .u8 191)], .agg [.lit (.int .u8 128), .lit (.int .u8 159)], .agg [.lit (.int .u8 144), .lit (.int .u8 191)], .agg [.lit (.int .u8 128), .lit (.int .u8 143)], .agg [.lit (.int .u8 0), .lit (.int .u8 0)], .agg [.lit (.int .u8 0), .lit (.int .u8 0)], .agg [.lit (.int .u8 0), .lit (.int .u8 0)], .agg [.lit (.int .u8 0), .lit (.int .u8 0)], .agg [.lit (.int .u8 0), .lit (.int .u8 0)], .agg [.lit (.int .u8 0), .lit (.int .u8 0)], .agg [.lit (.int .u8 0), .lit (.int .u8 0)], .agg [.lit (.int .u8 0), .lit (.int .u8 0)], .agg [.lit (.int .u8 0), .lit (.int .u8 0)], .agg [.lit (.int .u8 0), .lit (.int .u8 0)], .agg [.lit (.int .u8 0), .lit (.int .u8 0)]]
/-- One of Go's own tables, pinned by name: the form's constant. -/
def laid_unicode_utf8_first : DataW Unit := Go.Pinned.utf8First

/-- 'gnomonlaw29.RewriteParts': WHATEVER THE INPUT: true; the input reads as it did. -/
def rewritePartsSpec : ChangeSpec := { name := "rewriteParts", fn := fun _ => fun
  | [d1, d2] => { results := [.lit (.bool true)], args := [d1, d2] }
  | _ => none }
def rewritePartsRow : OpenClaim := { program := "ytnhkdkcgdcgmdaadoor", sum := "9a338426b2aa706c89611044e70ee4a063dcd6e58504d4543109fd79c768e391", func := "gnomon/gnomonlaw29.RewriteParts", spec := "rewriteParts", unfollowed := true, recurses := true, named := ["unicode/utf8.first", "unicode/utf8.acceptRanges"], loops := true, apart := false, laid := [("unicode/utf8.acceptRanges", laid_unicode_utf8_acceptRanges), ("unicode/utf8.first", laid_unicode_utf8_first)] }
def RewritePartsSaid : Prop := rewritePartsRow.holds Tryd.pinned (OpenSpec.ofChange rewritePartsSpec)

/-- ITS FALSE NEIGHBOUR: 'it returns false'. Refute it at one input. -/
def rewritePartsWrong : ChangeSpec := { name := "rewriteParts", fn := fun _ => fun
  | [d1, d2] => { results := [.lit (.bool false)], args := [d1, d2] }
  | _ => none }
def RewritePartsWrongFalsely : Prop := rewritePartsRow.holds Tryd.pinned (OpenSpec.ofChange rewritePartsWrong)

/-- 'gnomonlaw8.RunOn': WHATEVER THE INPUT: true; the input reads as it did. -/
def runOnSpec : ChangeSpec := { name := "runOn", fn := fun _ => fun
  | [d1, d2, d3, d4] => { results := [.lit (.bool true)], args := [d1, d2, d3, d4] }
  | _ => none }
def runOnRow : OpenClaim := { program := "ytnhkdkcgdcgmdaadoor", sum := "9a338426b2aa706c89611044e70ee4a063dcd6e58504d4543109fd79c768e391", func := "gnomon/gnomonlaw8.RunOn", spec := "runOn", unfollowed := true, recurses := true, named := ["unicode/utf8.first", "unicode/utf8.acceptRanges"], loops := true, apart := false, laid := [("unicode/utf8.acceptRanges", laid_unicode_utf8_acceptRanges), ("unicode/utf8.first", laid_unicode_utf8_first)] }
def RunOnSaid : Prop := runOnRow.holds Tryd.pinned (OpenSpec.ofChange runOnSpec)

/-- ITS FALSE NEIGHBOUR: 'it returns false'. Refute it at one input. -/
def runOnWrong : ChangeSpec := { name := "runOn", fn := fun _ => fun
  | [d1, d2, d3, d4] => { results := [.lit (.bool false)], args := [d1, d2, d3, d4] }
  | _ => none }
def RunOnWrongFalsely : Prop := runOnRow.holds Tryd.pinned (OpenSpec.ofChange runOnWrong)

/-- 'gnomonlaw8.RunLoops': WHATEVER THE INPUT: true; the input reads as it did. -/
def runLoopsSpec : ChangeSpec := { name := "runLoops", fn := fun _ => fun
  | [d1, d2] => { results := [.lit (.bool true)], args := [d1, d2] }
  | _ => none }
def runLoopsRow : OpenClaim := { program := "ytnhkdkcgdcgmdaadoor", sum := "9a338426b2aa706c89611044e70ee4a063dcd6e58504d4543109fd79c768e391", func := "gnomon/gnomonlaw8.RunLoops", spec := "runLoops", unfollowed := true, recurses := true, named := ["unicode/utf8.first", "unicode/utf8.acceptRanges"], apart := false, laid := [("unicode/utf8.acceptRanges", laid_unicode_utf8_acceptRanges), ("unicode/utf8.first", laid_unicode_utf8_first)] }
def RunLoopsSaid : Prop := runLoopsRow.holds Tryd.pinned (OpenSpec.ofChange runLoopsSpec)

/-- ITS FALSE NEIGHBOUR: 'it returns false'. Refute it at one input. -/
def runLoopsWrong : ChangeSpec := { name := "runLoops", fn := fun _ => fun
  | [d1, d2] => { results := [.lit (.bool false)], args := [d1, d2] }
  | _ => none }
def RunLoopsWrongFalsely : Prop := runLoopsRow.holds Tryd.pinned (OpenSpec.ofChange runLoopsWrong)

/-- 'gnomonlaw8.RunDoes': WHATEVER THE INPUT: true; the input reads as it did. -/
def runDoesSpec : ChangeSpec := { name := "runDoes", fn := fun _ => fun
  | [d1, d2, d3] => { results := [.lit (.bool true)], args := [d1, d2, d3] }
  | _ => none }
def runDoesRow : OpenClaim := { program := "ytnhkdkcgdcgmdaadoor", sum := "9a338426b2aa706c89611044e70ee4a063dcd6e58504d4543109fd79c768e391", func := "gnomon/gnomonlaw8.RunDoes", spec := "runDoes", unfollowed := true, recurses := true, named := ["unicode/utf8.first", "unicode/utf8.acceptRanges"], apart := false, laid := [("unicode/utf8.acceptRanges", laid_unicode_utf8_acceptRanges), ("unicode/utf8.first", laid_unicode_utf8_first)] }
def RunDoesSaid : Prop := runDoesRow.holds Tryd.pinned (OpenSpec.ofChange runDoesSpec)

/-- ITS FALSE NEIGHBOUR: 'it returns false'. Refute it at one input. -/
def runDoesWrong : ChangeSpec := { name := "runDoes", fn := fun _ => fun
  | [d1, d2, d3] => { results := [.lit (.bool false)], args := [d1, d2, d3] }
  | _ => none }
def RunDoesWrongFalsely : Prop := runDoesRow.holds Tryd.pinned (OpenSpec.ofChange runDoesWrong)

/-- 'gnomonlaw8.RunStores': WHATEVER THE INPUT: true; the input reads as it did. -/
def runStoresSpec : ChangeSpec := { name := "runStores", fn := fun _ => fun
  | [d1, d2, d3, d4] => { results := [.lit (.bool true)], args := [d1, d2, d3, d4] }
  | _ => none }
def runStoresRow : OpenClaim := { program := "ytnhkdkcgdcgmdaadoor", sum := "9a338426b2aa706c89611044e70ee4a063dcd6e58504d4543109fd79c768e391", func := "gnomon/gnomonlaw8.RunStores", spec := "runStores", unfollowed := true, recurses := true, named := ["unicode/utf8.first", "unicode/utf8.acceptRanges"], apart := false, laid := [("unicode/utf8.acceptRanges", laid_unicode_utf8_acceptRanges), ("unicode/utf8.first", laid_unicode_utf8_first)] }
def RunStoresSaid : Prop := runStoresRow.holds Tryd.pinned (OpenSpec.ofChange runStoresSpec)

/-- ITS FALSE NEIGHBOUR: 'it returns false'. Refute it at one input. -/
def runStoresWrong : ChangeSpec := { name := "runStores", fn := fun _ => fun
  | [d1, d2, d3, d4] => { results := [.lit (.bool false)], args := [d1, d2, d3, d4] }
  | _ => none }
def RunStoresWrongFalsely : Prop := runStoresRow.holds Tryd.pinned (OpenSpec.ofChange runStoresWrong)

/-- 'gnomonlaw8.RunShort': WHATEVER THE INPUT: true; the input reads as it did. -/
def runShortSpec : ChangeSpec := { name := "runShort", fn := fun _ => fun
  | [d1, d2, d3, d4] => { results := [.lit (.bool true)], args := [d1, d2, d3, d4] }
  | _ => none }
def runShortRow : OpenClaim := { program := "ytnhkdkcgdcgmdaadoor", sum := "9a338426b2aa706c89611044e70ee4a063dcd6e58504d4543109fd79c768e391", func := "gnomon/gnomonlaw8.RunShort", spec := "runShort", unfollowed := true, recurses := true, named := ["unicode/utf8.first", "unicode/utf8.acceptRanges"], apart := false, laid := [("unicode/utf8.acceptRanges", laid_unicode_utf8_acceptRanges), ("unicode/utf8.first", laid_unicode_utf8_first)] }
def RunShortSaid : Prop := runShortRow.holds Tryd.pinned (OpenSpec.ofChange runShortSpec)

/-- ITS FALSE NEIGHBOUR: 'it returns false'. Refute it at one input. -/
def runShortWrong : ChangeSpec := { name := "runShort", fn := fun _ => fun
  | [d1, d2, d3, d4] => { results := [.lit (.bool false)], args := [d1, d2, d3, d4] }
  | _ => none }
def RunShortWrongFalsely : Prop := runShortRow.holds Tryd.pinned (OpenSpec.ofChange runShortWrong)

/-- 'gnomonlaw29.RewriteOnce': WHATEVER THE INPUT: true; the input reads as it did. -/
def rewriteOnceSpec : ChangeSpec := { name := "rewriteOnce", fn := fun _ => fun
  | [d] => { results := [.lit (.bool true)], args := [d] }
  | _ => none }
def rewriteOnceRow : OpenClaim := { program := "ytnhkdkcgdcgmdaadoor", sum := "9a338426b2aa706c89611044e70ee4a063dcd6e58504d4543109fd79c768e391", func := "gnomon/gnomonlaw29.RewriteOnce", spec := "rewriteOnce", unfollowed := true, recurses := true, named := ["unicode/utf8.first", "unicode/utf8.acceptRanges"], loops := true, apart := false, laid := [("unicode/utf8.acceptRanges", laid_unicode_utf8_acceptRanges), ("unicode/utf8.first", laid_unicode_utf8_first)] }
def RewriteOnceSaid : Prop := rewriteOnceRow.holds Tryd.pinned (OpenSpec.ofChange rewriteOnceSpec)

/-- ITS FALSE NEIGHBOUR: 'it returns false'. Refute it at one input. -/
def rewriteOnceWrong : ChangeSpec := { name := "rewriteOnce", fn := fun _ => fun
  | [d] => { results := [.lit (.bool false)], args := [d] }
  | _ => none }
def RewriteOnceWrongFalsely : Prop := rewriteOnceRow.holds Tryd.pinned (OpenSpec.ofChange rewriteOnceWrong)

/- THE SECOND FORM. 'bulk': how many values and letters a reading holds, each counted each time it is reached (what is shared counts as often as it is met; a slice's spare places count too). A statement '..UptoSaid' is the law's where the arguments, and the package variables that the reading takes, are together of bulk at most 1048576: NARROWER than '..Said'. Prove '..Said' where nothing that the law and all that it calls make is longer than what came in: it says more and counts as full. Else prove '..UptoSaid'. A law counts once. -/
mutual
def uptoBulk {H : Type} : DataW H → Nat
  | .lit (.string bytes) => bytes.length + 1
  | .lit _ => 1
  | .nil => 1
  | .ptr d => uptoBulk d + 1
  | .slice elems spare => uptoBulkAll elems + uptoBulkAll spare + 1
  | .agg parts => uptoBulkAll parts + 1
  | .iface _ d => uptoBulk d + 1
  | .map entries => uptoBulkEntries entries + 1
  | .held _ => 1
def uptoBulkAll {H : Type} : List (DataW H) → Nat
  | [] => 0
  | d :: r => uptoBulk d + uptoBulkAll r
def uptoBulkEntries {H : Type} : List (Lit × DataW H) → Nat
  | [] => 0
  | x :: r => uptoBulkEntry x + uptoBulkEntries r
def uptoBulkEntry {H : Type} : Lit × DataW H → Nat
  | (.string bytes, d) => bytes.length + uptoBulk d + 1
  | (_, d) => uptoBulk d + 1
 end
def uptoSmall : (H : Type) → List (DataW H) → Bool := fun _ ds => decide (uptoBulkAll ds ≤ 1048576)
def OpenSpec.upto (s : _root_.Go.ChangeSpec) : _root_.Go.OpenSpec := { _root_.Go.OpenSpec.ofChange s with cond := some uptoSmall }

/-- 'gnomonlaw29.RewriteParts', WHERE WHAT IT READS IS OF BULK AT MOST 1048576: true; the input reads as it did. -/
def rewritePartsUptoRow : OpenClaim := { program := "ytnhkdkcgdcgmdaadoor", sum := "9a338426b2aa706c89611044e70ee4a063dcd6e58504d4543109fd79c768e391", func := "gnomon/gnomonlaw29.RewriteParts", spec := "rewriteParts", unfollowed := true, recurses := true, named := ["unicode/utf8.first", "unicode/utf8.acceptRanges"], loops := true, apart := false, laid := [("unicode/utf8.acceptRanges", laid_unicode_utf8_acceptRanges), ("unicode/utf8.first", laid_unicode_utf8_first)], narrowed := true }
def RewritePartsUptoSaid : Prop := rewritePartsUptoRow.holds Tryd.pinned (OpenSpec.upto rewritePartsSpec)

/-- 'gnomonlaw8.RunOn', WHERE WHAT IT READS IS OF BULK AT MOST 1048576: true; the input reads as it did. -/
def runOnUptoRow : OpenClaim := { program := "ytnhkdkcgdcgmdaadoor", sum := "9a338426b2aa706c89611044e70ee4a063dcd6e58504d4543109fd79c768e391", func := "gnomon/gnomonlaw8.RunOn", spec := "runOn", unfollowed := true, recurses := true, named := ["unicode/utf8.first", "unicode/utf8.acceptRanges"], loops := true, apart := false, laid := [("unicode/utf8.acceptRanges", laid_unicode_utf8_acceptRanges), ("unicode/utf8.first", laid_unicode_utf8_first)], narrowed := true }
def RunOnUptoSaid : Prop := runOnUptoRow.holds Tryd.pinned (OpenSpec.upto runOnSpec)

/-- 'gnomonlaw8.RunLoops', WHERE WHAT IT READS IS OF BULK AT MOST 1048576: true; the input reads as it did. -/
def runLoopsUptoRow : OpenClaim := { program := "ytnhkdkcgdcgmdaadoor", sum := "9a338426b2aa706c89611044e70ee4a063dcd6e58504d4543109fd79c768e391", func := "gnomon/gnomonlaw8.RunLoops", spec := "runLoops", unfollowed := true, recurses := true, named := ["unicode/utf8.first", "unicode/utf8.acceptRanges"], apart := false, laid := [("unicode/utf8.acceptRanges", laid_unicode_utf8_acceptRanges), ("unicode/utf8.first", laid_unicode_utf8_first)], narrowed := true }
def RunLoopsUptoSaid : Prop := runLoopsUptoRow.holds Tryd.pinned (OpenSpec.upto runLoopsSpec)

/-- 'gnomonlaw8.RunDoes', WHERE WHAT IT READS IS OF BULK AT MOST 1048576: true; the input reads as it did. -/
def runDoesUptoRow : OpenClaim := { program := "ytnhkdkcgdcgmdaadoor", sum := "9a338426b2aa706c89611044e70ee4a063dcd6e58504d4543109fd79c768e391", func := "gnomon/gnomonlaw8.RunDoes", spec := "runDoes", unfollowed := true, recurses := true, named := ["unicode/utf8.first", "unicode/utf8.acceptRanges"], apart := false, laid := [("unicode/utf8.acceptRanges", laid_unicode_utf8_acceptRanges), ("unicode/utf8.first", laid_unicode_utf8_first)], narrowed := true }
def RunDoesUptoSaid : Prop := runDoesUptoRow.holds Tryd.pinned (OpenSpec.upto runDoesSpec)

/-- 'gnomonlaw8.RunStores', WHERE WHAT IT READS IS OF BULK AT MOST 1048576: true; the input reads as it did. -/
def runStoresUptoRow : OpenClaim := { program := "ytnhkdkcgdcgmdaadoor", sum := "9a338426b2aa706c89611044e70ee4a063dcd6e58504d4543109fd79c768e391", func := "gnomon/gnomonlaw8.RunStores", spec := "runStores", unfollowed := true, recurses := true, named := ["unicode/utf8.first", "unicode/utf8.acceptRanges"], apart := false, laid := [("unicode/utf8.acceptRanges", laid_unicode_utf8_acceptRanges), ("unicode/utf8.first", laid_unicode_utf8_first)], narrowed := true }
def RunStoresUptoSaid : Prop := runStoresUptoRow.holds Tryd.pinned (OpenSpec.upto runStoresSpec)

/-- 'gnomonlaw8.RunShort', WHERE WHAT IT READS IS OF BULK AT MOST 1048576: true; the input reads as it did. -/
def runShortUptoRow : OpenClaim := { program := "ytnhkdkcgdcgmdaadoor", sum := "9a338426b2aa706c89611044e70ee4a063dcd6e58504d4543109fd79c768e391", func := "gnomon/gnomonlaw8.RunShort", spec := "runShort", unfollowed := true, recurses := true, named := ["unicode/utf8.first", "unicode/utf8.acceptRanges"], apart := false, laid := [("unicode/utf8.acceptRanges", laid_unicode_utf8_acceptRanges), ("unicode/utf8.first", laid_unicode_utf8_first)], narrowed := true }
def RunShortUptoSaid : Prop := runShortUptoRow.holds Tryd.pinned (OpenSpec.upto runShortSpec)

/-- 'gnomonlaw29.RewriteOnce', WHERE WHAT IT READS IS OF BULK AT MOST 1048576: true; the input reads as it did. -/
def rewriteOnceUptoRow : OpenClaim := { program := "ytnhkdkcgdcgmdaadoor", sum := "9a338426b2aa706c89611044e70ee4a063dcd6e58504d4543109fd79c768e391", func := "gnomon/gnomonlaw29.RewriteOnce", spec := "rewriteOnce", unfollowed := true, recurses := true, named := ["unicode/utf8.first", "unicode/utf8.acceptRanges"], loops := true, apart := false, laid := [("unicode/utf8.acceptRanges", laid_unicode_utf8_acceptRanges), ("unicode/utf8.first", laid_unicode_utf8_first)], narrowed := true }
def RewriteOnceUptoSaid : Prop := rewriteOnceUptoRow.holds Tryd.pinned (OpenSpec.upto rewriteOnceSpec)

end Rows
end Go.Proofs.YtnhkdkcgdcgmdaaDoor
