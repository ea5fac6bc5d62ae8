/-
  NARROWER THAN 'FOR EVERY INPUT', by the rows' own cells (each row's printed sentence says how): TreeEquals: loops, laid · TreeParts: loops, laid · DigestSteps: laid · TreeChecks: loops, laid · DigestExact: loops, laid · DigestLengths: loops, laid · WellTurned: loops, laid · TreeCopies: loops, laid · DigestPairs: loops, laid · WellExact: loops, laid · WellParts: loops, laid.
  DERIVED. THE GIVEN ROWS OF THIS SEAT. 11 by the template 'for every input the law returns true; each argument reads behind the call as it read before'; 0 by the template 'total and deterministic' (their statements: YthldnpmfelniiaaDoorTotals.lean).
  GIVEN WITH THE SEED: the statements are not yours to turn. If you find one false, say at which input.
  Laid BY PROGRAM, IN A SANDBOX (cutbox-rows.mjs): the forced cells as the released guide's own fill.sh prints them over the translation f92948c2d5d5698e… (all of the seat's roots in one cut). By AI agents, Wed Nov 11 2026. No macro, syntax, notation, axiom, sorry.
-/
import Derived.Test.YthldnpmfelniiaaDoorChecked
import GoSem.PinnedTables
import GoSem.Claim
import GoSem.ClaimJoined
import GoSem.ClaimMapViews
import Derived.JoinedTies
import Derived.KernelRfl
namespace Go.Proofs.YthldnpmfelniiaaDoor
/- THE CELL 'sum', in the pinned program and in every row, IS THE sha256 OF THE DUMP (.gsa) THAT YthldnpmfelniiaaDoorProg.lean LOADS. Nothing in Lean hashes anything: it is a label: what it is worth is what the hold of that sum in a sandbox is worth. -/
noncomputable def Tryd.pinned : Pinned := { name := "ythldnpmfelniiaadoor", sum := "f92948c2d5d5698edd2f66c50b0599141f36b928ca3a7522882cdf1f430a2cdb", checked := Tryd.checked }
namespace Rows
def none {H : Type} : Left H := { results := [], args := [] }

/- WHAT THE LISTED PACKAGE-LEVEL VARIABLES READ AS WHEN THE CALL BEGINS. Each datum BY PROGRAM (the guide's laid-datum.mjs) off the statement by which the dump's own 'gosem.cut.vars' lays the variable. In a bare row this is a premise. The card (YthldnpmfelniiaaDoorCards.lean) ties it to the program's text. -/
def laid_unicode_utf8_acceptRanges {H : Type} : DataW H := .agg [.agg [.lit (.int .u8 128), .lit (.int .u8 191)], .agg [.lit (.int .u8 160), .lit (.int .u8 191)], .agg [.lit (.int .u8 128), .lit (.int .u8 159)], .agg [.lit (.int .u8 144), .lit (.int .u8 191)], .agg [.lit (.int .u8 128), .lit (.int .u8 143)], .agg [.lit (.int .u8 0), .lit (.int .u8 0)], .agg [.lit (.int .u8 0), .lit (.int .u8 0)], .agg [.lit (.int .u8 0), .lit (.int .u8 0)], .agg [.lit (.int .u8 0), .lit (.int .u8 0)], .agg [.lit (.int .u8 0), .lit (.int .u8 0)], .agg [.lit (.int .u8 0), .lit (.int .u8 0)], .agg [.lit (.int .u8 0), .lit (.int .u8 0)], .agg [.lit (.int .u8 0), .lit (.int .u8 0)], .agg [.lit (.int .u8 0), .lit (.int .u8 0)], .agg [.lit (.int .u8 0), .lit (.int .u8 0)], .agg [.lit (.int .u8 0), .lit (.int .u8 0)]]
/-- One of Go's own tables, pinned by name: the form's constant. -/
def laid_unicode_utf8_first : DataW Unit := Go.Pinned.utf8First

/-- 'gnomonlaw3.TreeEquals': WHATEVER THE INPUT: true; the input reads as it did. -/
def treeEqualsSpec : ChangeSpec := { name := "treeEquals", fn := fun _ => fun
  | [d1, d2] => { results := [.lit (.bool true)], args := [d1, d2] }
  | _ => none }
def treeEqualsRow : OpenClaim := { program := "ythldnpmfelniiaadoor", sum := "f92948c2d5d5698edd2f66c50b0599141f36b928ca3a7522882cdf1f430a2cdb", func := "gnomon/gnomonlaw3.TreeEquals", spec := "treeEquals", unfollowed := true, recurses := true, named := ["unicode/utf8.first", "unicode/utf8.acceptRanges"], loops := true, apart := false, laid := [("unicode/utf8.acceptRanges", laid_unicode_utf8_acceptRanges), ("unicode/utf8.first", laid_unicode_utf8_first)] }
def TreeEqualsSaid : Prop := treeEqualsRow.holds Tryd.pinned (OpenSpec.ofChange treeEqualsSpec)

/-- ITS FALSE NEIGHBOUR: 'it returns false'. Refute it at one input. -/
def treeEqualsWrong : ChangeSpec := { name := "treeEquals", fn := fun _ => fun
  | [d1, d2] => { results := [.lit (.bool false)], args := [d1, d2] }
  | _ => none }
def TreeEqualsWrongFalsely : Prop := treeEqualsRow.holds Tryd.pinned (OpenSpec.ofChange treeEqualsWrong)

/-- 'gnomonlaw3.TreeParts': WHATEVER THE INPUT: true; the input reads as it did. -/
def treePartsSpec : ChangeSpec := { name := "treeParts", fn := fun _ => fun
  | [d1, d2] => { results := [.lit (.bool true)], args := [d1, d2] }
  | _ => none }
def treePartsRow : OpenClaim := { program := "ythldnpmfelniiaadoor", sum := "f92948c2d5d5698edd2f66c50b0599141f36b928ca3a7522882cdf1f430a2cdb", func := "gnomon/gnomonlaw3.TreeParts", spec := "treeParts", unfollowed := true, recurses := true, named := ["unicode/utf8.first", "unicode/utf8.acceptRanges"], loops := true, apart := false, laid := [("unicode/utf8.acceptRanges", laid_unicode_utf8_acceptRanges), ("unicode/utf8.first", laid_unicode_utf8_first)] }
def TreePartsSaid : Prop := treePartsRow.holds Tryd.pinned (OpenSpec.ofChange treePartsSpec)

/-- ITS FALSE NEIGHBOUR: 'it returns false'. Refute it at one input. -/
def treePartsWrong : ChangeSpec := { name := "treeParts", fn := fun _ => fun
  | [d1, d2] => { results := [.lit (.bool false)], args := [d1, d2] }
  | _ => none }
def TreePartsWrongFalsely : Prop := treePartsRow.holds Tryd.pinned (OpenSpec.ofChange treePartsWrong)

/-- 'gnomonlaw20.DigestSteps': WHATEVER THE INPUT: true; the input reads as it did. -/
def digestStepsSpec : ChangeSpec := { name := "digestSteps", fn := fun _ => fun
  | [d1, d2] => { results := [.lit (.bool true)], args := [d1, d2] }
  | _ => none }
def digestStepsRow : OpenClaim := { program := "ythldnpmfelniiaadoor", sum := "f92948c2d5d5698edd2f66c50b0599141f36b928ca3a7522882cdf1f430a2cdb", func := "gnomon/gnomonlaw20.DigestSteps", spec := "digestSteps", unfollowed := true, recurses := true, named := ["unicode/utf8.first", "unicode/utf8.acceptRanges"], apart := false, laid := [("unicode/utf8.acceptRanges", laid_unicode_utf8_acceptRanges), ("unicode/utf8.first", laid_unicode_utf8_first)] }
def DigestStepsSaid : Prop := digestStepsRow.holds Tryd.pinned (OpenSpec.ofChange digestStepsSpec)

/-- ITS FALSE NEIGHBOUR: 'it returns false'. Refute it at one input. -/
def digestStepsWrong : ChangeSpec := { name := "digestSteps", fn := fun _ => fun
  | [d1, d2] => { results := [.lit (.bool false)], args := [d1, d2] }
  | _ => none }
def DigestStepsWrongFalsely : Prop := digestStepsRow.holds Tryd.pinned (OpenSpec.ofChange digestStepsWrong)

/-- 'gnomonlaw3.TreeChecks': WHATEVER THE INPUT: true; the input reads as it did. -/
def treeChecksSpec : ChangeSpec := { name := "treeChecks", fn := fun _ => fun
  | [d] => { results := [.lit (.bool true)], args := [d] }
  | _ => none }
def treeChecksRow : OpenClaim := { program := "ythldnpmfelniiaadoor", sum := "f92948c2d5d5698edd2f66c50b0599141f36b928ca3a7522882cdf1f430a2cdb", func := "gnomon/gnomonlaw3.TreeChecks", spec := "treeChecks", unfollowed := true, recurses := true, named := ["unicode/utf8.first", "unicode/utf8.acceptRanges"], loops := true, apart := false, laid := [("unicode/utf8.acceptRanges", laid_unicode_utf8_acceptRanges), ("unicode/utf8.first", laid_unicode_utf8_first)] }
def TreeChecksSaid : Prop := treeChecksRow.holds Tryd.pinned (OpenSpec.ofChange treeChecksSpec)

/-- ITS FALSE NEIGHBOUR: 'it returns false'. Refute it at one input. -/
def treeChecksWrong : ChangeSpec := { name := "treeChecks", fn := fun _ => fun
  | [d] => { results := [.lit (.bool false)], args := [d] }
  | _ => none }
def TreeChecksWrongFalsely : Prop := treeChecksRow.holds Tryd.pinned (OpenSpec.ofChange treeChecksWrong)

/-- 'gnomonlaw20.DigestExact': WHATEVER THE INPUT: true; the input reads as it did. -/
def digestExactSpec : ChangeSpec := { name := "digestExact", fn := fun _ => fun
  | [d1, d2] => { results := [.lit (.bool true)], args := [d1, d2] }
  | _ => none }
def digestExactRow : OpenClaim := { program := "ythldnpmfelniiaadoor", sum := "f92948c2d5d5698edd2f66c50b0599141f36b928ca3a7522882cdf1f430a2cdb", func := "gnomon/gnomonlaw20.DigestExact", spec := "digestExact", unfollowed := true, recurses := true, named := ["unicode/utf8.first", "unicode/utf8.acceptRanges"], loops := true, apart := false, laid := [("unicode/utf8.acceptRanges", laid_unicode_utf8_acceptRanges), ("unicode/utf8.first", laid_unicode_utf8_first)] }
def DigestExactSaid : Prop := digestExactRow.holds Tryd.pinned (OpenSpec.ofChange digestExactSpec)

/-- ITS FALSE NEIGHBOUR: 'it returns false'. Refute it at one input. -/
def digestExactWrong : ChangeSpec := { name := "digestExact", fn := fun _ => fun
  | [d1, d2] => { results := [.lit (.bool false)], args := [d1, d2] }
  | _ => none }
def DigestExactWrongFalsely : Prop := digestExactRow.holds Tryd.pinned (OpenSpec.ofChange digestExactWrong)

/-- 'gnomonlaw20.DigestLengths': WHATEVER THE INPUT: true; the input reads as it did. -/
def digestLengthsSpec : ChangeSpec := { name := "digestLengths", fn := fun _ => fun
  | [d] => { results := [.lit (.bool true)], args := [d] }
  | _ => none }
def digestLengthsRow : OpenClaim := { program := "ythldnpmfelniiaadoor", sum := "f92948c2d5d5698edd2f66c50b0599141f36b928ca3a7522882cdf1f430a2cdb", func := "gnomon/gnomonlaw20.DigestLengths", spec := "digestLengths", unfollowed := true, recurses := true, named := ["unicode/utf8.first", "unicode/utf8.acceptRanges"], loops := true, apart := false, laid := [("unicode/utf8.acceptRanges", laid_unicode_utf8_acceptRanges), ("unicode/utf8.first", laid_unicode_utf8_first)] }
def DigestLengthsSaid : Prop := digestLengthsRow.holds Tryd.pinned (OpenSpec.ofChange digestLengthsSpec)

/-- ITS FALSE NEIGHBOUR: 'it returns false'. Refute it at one input. -/
def digestLengthsWrong : ChangeSpec := { name := "digestLengths", fn := fun _ => fun
  | [d] => { results := [.lit (.bool false)], args := [d] }
  | _ => none }
def DigestLengthsWrongFalsely : Prop := digestLengthsRow.holds Tryd.pinned (OpenSpec.ofChange digestLengthsWrong)

/-- 'gnomonlaw6.WellTurned': WHATEVER THE INPUT: true; the input reads as it did. -/
def wellTurnedSpec : ChangeSpec := { name := "wellTurned", fn := fun _ => fun
  | [d] => { results := [.lit (.bool true)], args := [d] }
  | _ => none }
def wellTurnedRow : OpenClaim := { program := "ythldnpmfelniiaadoor", sum := "f92948c2d5d5698edd2f66c50b0599141f36b928ca3a7522882cdf1f430a2cdb", func := "gnomon/gnomonlaw6.WellTurned", spec := "wellTurned", unfollowed := true, recurses := true, named := ["unicode/utf8.first", "unicode/utf8.acceptRanges"], loops := true, apart := false, laid := [("unicode/utf8.acceptRanges", laid_unicode_utf8_acceptRanges), ("unicode/utf8.first", laid_unicode_utf8_first)] }
def WellTurnedSaid : Prop := wellTurnedRow.holds Tryd.pinned (OpenSpec.ofChange wellTurnedSpec)

/-- ITS FALSE NEIGHBOUR: 'it returns false'. Refute it at one input. -/
def wellTurnedWrong : ChangeSpec := { name := "wellTurned", fn := fun _ => fun
  | [d] => { results := [.lit (.bool false)], args := [d] }
  | _ => none }
def WellTurnedWrongFalsely : Prop := wellTurnedRow.holds Tryd.pinned (OpenSpec.ofChange wellTurnedWrong)

/-- 'gnomonlaw3.TreeCopies': WHATEVER THE INPUT: true; the input reads as it did. -/
def treeCopiesSpec : ChangeSpec := { name := "treeCopies", fn := fun _ => fun
  | [d] => { results := [.lit (.bool true)], args := [d] }
  | _ => none }
def treeCopiesRow : OpenClaim := { program := "ythldnpmfelniiaadoor", sum := "f92948c2d5d5698edd2f66c50b0599141f36b928ca3a7522882cdf1f430a2cdb", func := "gnomon/gnomonlaw3.TreeCopies", spec := "treeCopies", unfollowed := true, recurses := true, named := ["unicode/utf8.first", "unicode/utf8.acceptRanges"], loops := true, apart := false, laid := [("unicode/utf8.acceptRanges", laid_unicode_utf8_acceptRanges), ("unicode/utf8.first", laid_unicode_utf8_first)] }
def TreeCopiesSaid : Prop := treeCopiesRow.holds Tryd.pinned (OpenSpec.ofChange treeCopiesSpec)

/-- ITS FALSE NEIGHBOUR: 'it returns false'. Refute it at one input. -/
def treeCopiesWrong : ChangeSpec := { name := "treeCopies", fn := fun _ => fun
  | [d] => { results := [.lit (.bool false)], args := [d] }
  | _ => none }
def TreeCopiesWrongFalsely : Prop := treeCopiesRow.holds Tryd.pinned (OpenSpec.ofChange treeCopiesWrong)

/-- 'gnomonlaw20.DigestPairs': WHATEVER THE INPUT: true; the input reads as it did. -/
def digestPairsSpec : ChangeSpec := { name := "digestPairs", fn := fun _ => fun
  | [d1, d2] => { results := [.lit (.bool true)], args := [d1, d2] }
  | _ => none }
def digestPairsRow : OpenClaim := { program := "ythldnpmfelniiaadoor", sum := "f92948c2d5d5698edd2f66c50b0599141f36b928ca3a7522882cdf1f430a2cdb", func := "gnomon/gnomonlaw20.DigestPairs", spec := "digestPairs", unfollowed := true, recurses := true, named := ["unicode/utf8.first", "unicode/utf8.acceptRanges"], loops := true, apart := false, laid := [("unicode/utf8.acceptRanges", laid_unicode_utf8_acceptRanges), ("unicode/utf8.first", laid_unicode_utf8_first)] }
def DigestPairsSaid : Prop := digestPairsRow.holds Tryd.pinned (OpenSpec.ofChange digestPairsSpec)

/-- ITS FALSE NEIGHBOUR: 'it returns false'. Refute it at one input. -/
def digestPairsWrong : ChangeSpec := { name := "digestPairs", fn := fun _ => fun
  | [d1, d2] => { results := [.lit (.bool false)], args := [d1, d2] }
  | _ => none }
def DigestPairsWrongFalsely : Prop := digestPairsRow.holds Tryd.pinned (OpenSpec.ofChange digestPairsWrong)

/-- 'gnomonlaw6.WellExact': WHATEVER THE INPUT: true; the input reads as it did. -/
def wellExactSpec : ChangeSpec := { name := "wellExact", fn := fun _ => fun
  | [d] => { results := [.lit (.bool true)], args := [d] }
  | _ => none }
def wellExactRow : OpenClaim := { program := "ythldnpmfelniiaadoor", sum := "f92948c2d5d5698edd2f66c50b0599141f36b928ca3a7522882cdf1f430a2cdb", func := "gnomon/gnomonlaw6.WellExact", spec := "wellExact", unfollowed := true, recurses := true, named := ["unicode/utf8.first", "unicode/utf8.acceptRanges"], loops := true, apart := false, laid := [("unicode/utf8.acceptRanges", laid_unicode_utf8_acceptRanges), ("unicode/utf8.first", laid_unicode_utf8_first)] }
def WellExactSaid : Prop := wellExactRow.holds Tryd.pinned (OpenSpec.ofChange wellExactSpec)

/-- ITS FALSE NEIGHBOUR: 'it returns false'. Refute it at one input. -/
def wellExactWrong : ChangeSpec := { name := "wellExact", fn := fun _ => fun
  | [d] => { results := [.lit (.bool false)], args := [d] }
  | _ => none }
def WellExactWrongFalsely : Prop := wellExactRow.holds Tryd.pinned (OpenSpec.ofChange wellExactWrong)

/-- 'gnomonlaw6.WellParts': WHATEVER THE INPUT: true; the input reads as it did. -/
def wellPartsSpec : ChangeSpec := { name := "wellParts", fn := fun _ => fun
  | [d1, d2, d3] => { results := [.lit (.bool true)], args := [d1, d2, d3] }
  | _ => none }
def wellPartsRow : OpenClaim := { program := "ythldnpmfelniiaadoor", sum := "f92948c2d5d5698edd2f66c50b0599141f36b928ca3a7522882cdf1f430a2cdb", func := "gnomon/gnomonlaw6.WellParts", spec := "wellParts", unfollowed := true, recurses := true, named := ["unicode/utf8.first", "unicode/utf8.acceptRanges"], loops := true, apart := false, laid := [("unicode/utf8.acceptRanges", laid_unicode_utf8_acceptRanges), ("unicode/utf8.first", laid_unicode_utf8_first)] }
def WellPartsSaid : Prop := wellPartsRow.holds Tryd.pinned (OpenSpec.ofChange wellPartsSpec)

/-- ITS FALSE NEIGHBOUR: 'it returns false'. Refute it at one input. -/
def wellPartsWrong : ChangeSpec := { name := "wellParts", fn := fun _ => fun
  | [d1, d2, d3] => { results := [.lit (.bool false)], args := [d1, d2, d3] }
  | _ => none }
def WellPartsWrongFalsely : Prop := wellPartsRow.holds Tryd.pinned (OpenSpec.ofChange wellPartsWrong)

/- THE SECOND FORM. 'bulk': how many values and letters a reading holds, each counted each time it is reached (what is shared counts as often as it is met; a slice's spare places count too). A statement '..UptoSaid' is the law's where the arguments, and the package variables that the reading takes, are together of bulk at most 1048576: NARROWER than '..Said'. Prove '..Said' where nothing that the law and all that it calls make is longer than what came in: it says more and counts as full. Else prove '..UptoSaid'. A law counts once. -/
mutual
def uptoBulk {H : Type} : DataW H → Nat
  | .lit (.string bytes) => bytes.length + 1
  | .lit _ => 1
  | .nil => 1
  | .ptr d => uptoBulk d + 1
  | .slice elems spare => uptoBulkAll elems + uptoBulkAll spare + 1
  | .agg parts => uptoBulkAll parts + 1
  | .iface _ d => uptoBulk d + 1
  | .map entries => uptoBulkEntries entries + 1
  | .held _ => 1
def uptoBulkAll {H : Type} : List (DataW H) → Nat
  | [] => 0
  | d :: r => uptoBulk d + uptoBulkAll r
def uptoBulkEntries {H : Type} : List (Lit × DataW H) → Nat
  | [] => 0
  | x :: r => uptoBulkEntry x + uptoBulkEntries r
def uptoBulkEntry {H : Type} : Lit × DataW H → Nat
  | (.string bytes, d) => bytes.length + uptoBulk d + 1
  | (_, d) => uptoBulk d + 1
 end
def uptoSmall : (H : Type) → List (DataW H) → Bool := fun _ ds => decide (uptoBulkAll ds ≤ 1048576)
def OpenSpec.upto (s : _root_.Go.ChangeSpec) : _root_.Go.OpenSpec := { _root_.Go.OpenSpec.ofChange s with cond := some uptoSmall }

/-- 'gnomonlaw3.TreeEquals', WHERE WHAT IT READS IS OF BULK AT MOST 1048576: true; the input reads as it did. -/
def treeEqualsUptoRow : OpenClaim := { program := "ythldnpmfelniiaadoor", sum := "f92948c2d5d5698edd2f66c50b0599141f36b928ca3a7522882cdf1f430a2cdb", func := "gnomon/gnomonlaw3.TreeEquals", spec := "treeEquals", unfollowed := true, recurses := true, named := ["unicode/utf8.first", "unicode/utf8.acceptRanges"], loops := true, apart := false, laid := [("unicode/utf8.acceptRanges", laid_unicode_utf8_acceptRanges), ("unicode/utf8.first", laid_unicode_utf8_first)], narrowed := true }
def TreeEqualsUptoSaid : Prop := treeEqualsUptoRow.holds Tryd.pinned (OpenSpec.upto treeEqualsSpec)

/-- 'gnomonlaw3.TreeParts', WHERE WHAT IT READS IS OF BULK AT MOST 1048576: true; the input reads as it did. -/
def treePartsUptoRow : OpenClaim := { program := "ythldnpmfelniiaadoor", sum := "f92948c2d5d5698edd2f66c50b0599141f36b928ca3a7522882cdf1f430a2cdb", func := "gnomon/gnomonlaw3.TreeParts", spec := "treeParts", unfollowed := true, recurses := true, named := ["unicode/utf8.first", "unicode/utf8.acceptRanges"], loops := true, apart := false, laid := [("unicode/utf8.acceptRanges", laid_unicode_utf8_acceptRanges), ("unicode/utf8.first", laid_unicode_utf8_first)], narrowed := true }
def TreePartsUptoSaid : Prop := treePartsUptoRow.holds Tryd.pinned (OpenSpec.upto treePartsSpec)

/-- 'gnomonlaw20.DigestSteps', WHERE WHAT IT READS IS OF BULK AT MOST 1048576: true; the input reads as it did. -/
def digestStepsUptoRow : OpenClaim := { program := "ythldnpmfelniiaadoor", sum := "f92948c2d5d5698edd2f66c50b0599141f36b928ca3a7522882cdf1f430a2cdb", func := "gnomon/gnomonlaw20.DigestSteps", spec := "digestSteps", unfollowed := true, recurses := true, named := ["unicode/utf8.first", "unicode/utf8.acceptRanges"], apart := false, laid := [("unicode/utf8.acceptRanges", laid_unicode_utf8_acceptRanges), ("unicode/utf8.first", laid_unicode_utf8_first)], narrowed := true }
def DigestStepsUptoSaid : Prop := digestStepsUptoRow.holds Tryd.pinned (OpenSpec.upto digestStepsSpec)

/-- 'gnomonlaw3.TreeChecks', WHERE WHAT IT READS IS OF BULK AT MOST 1048576: true; the input reads as it did. -/
def treeChecksUptoRow : OpenClaim := { program := "ythldnpmfelniiaadoor", sum := "f92948c2d5d5698edd2f66c50b0599141f36b928ca3a7522882cdf1f430a2cdb", func := "gnomon/gnomonlaw3.TreeChecks", spec := "treeChecks", unfollowed := true, recurses := true, named := ["unicode/utf8.first", "unicode/utf8.acceptRanges"], loops := true, apart := false, laid := [("unicode/utf8.acceptRanges", laid_unicode_utf8_acceptRanges), ("unicode/utf8.first", laid_unicode_utf8_first)], narrowed := true }
def TreeChecksUptoSaid : Prop := treeChecksUptoRow.holds Tryd.pinned (OpenSpec.upto treeChecksSpec)

/-- 'gnomonlaw20.DigestExact', WHERE WHAT IT READS IS OF BULK AT MOST 1048576: true; the input reads as it did. -/
def digestExactUptoRow : OpenClaim := { program := "ythldnpmfelniiaadoor", sum := "f92948c2d5d5698edd2f66c50b0599141f36b928ca3a7522882cdf1f430a2cdb", func := "gnomon/gnomonlaw20.DigestExact", spec := "digestExact", unfollowed := true, recurses := true, named := ["unicode/utf8.first", "unicode/utf8.acceptRanges"], loops := true, apart := false, laid := [("unicode/utf8.acceptRanges", laid_unicode_utf8_acceptRanges), ("unicode/utf8.first", laid_unicode_utf8_first)], narrowed := true }
def DigestExactUptoSaid : Prop := digestExactUptoRow.holds Tryd.pinned (OpenSpec.upto digestExactSpec)

/-- 'gnomonlaw20.DigestLengths', WHERE WHAT IT READS IS OF BULK AT MOST 1048576: true; the input reads as it did. -/
def digestLengthsUptoRow : OpenClaim := { program := "ythldnpmfelniiaadoor", sum := "f92948c2d5d5698edd2f66c50b0599141f36b928ca3a7522882cdf1f430a2cdb", func := "gnomon/gnomonlaw20.DigestLengths", spec := "digestLengths", unfollowed := true, recurses := true, named := ["unicode/utf8.first", "unicode/utf8.acceptRanges"], loops := true, apart := false, laid := [("unicode/utf8.acceptRanges", laid_unicode_utf8_acceptRanges), ("unicode/utf8.first", laid_unicode_utf8_first)], narrowed := true }
def DigestLengthsUptoSaid : Prop := digestLengthsUptoRow.holds Tryd.pinned (OpenSpec.upto digestLengthsSpec)

/-- 'gnomonlaw6.WellTurned', WHERE WHAT IT READS IS OF BULK AT MOST 1048576: true; the input reads as it did. -/
def wellTurnedUptoRow : OpenClaim := { program := "ythldnpmfelniiaadoor", sum := "f92948c2d5d5698edd2f66c50b0599141f36b928ca3a7522882cdf1f430a2cdb", func := "gnomon/gnomonlaw6.WellTurned", spec := "wellTurned", unfollowed := true, recurses := true, named := ["unicode/utf8.first", "unicode/utf8.acceptRanges"], loops := true, apart := false, laid := [("unicode/utf8.acceptRanges", laid_unicode_utf8_acceptRanges), ("unicode/utf8.first", laid_unicode_utf8_first)], narrowed := true }
def WellTurnedUptoSaid : Prop := wellTurnedUptoRow.holds Tryd.pinned (OpenSpec.upto wellTurnedSpec)

/-- 'gnomonlaw3.TreeCopies', WHERE WHAT IT READS IS OF BULK AT MOST 1048576: true; the input reads as it did. -/
def treeCopiesUptoRow : OpenClaim := { program := "ythldnpmfelniiaadoor", sum := "f92948c2d5d5698edd2f66c50b0599141f36b928ca3a7522882cdf1f430a2cdb", func := "gnomon/gnomonlaw3.TreeCopies", spec := "treeCopies", unfollowed := true, recurses := true, named := ["unicode/utf8.first", "unicode/utf8.acceptRanges"], loops := true, apart := false, laid := [("unicode/utf8.acceptRanges", laid_unicode_utf8_acceptRanges), ("unicode/utf8.first", laid_unicode_utf8_first)], narrowed := true }
def TreeCopiesUptoSaid : Prop := treeCopiesUptoRow.holds Tryd.pinned (OpenSpec.upto treeCopiesSpec)

/-- 'gnomonlaw20.DigestPairs', WHERE WHAT IT READS IS OF BULK AT MOST 1048576: true; the input reads as it did. -/
def digestPairsUptoRow : OpenClaim := { program := "ythldnpmfelniiaadoor", sum := "f92948c2d5d5698edd2f66c50b0599141f36b928ca3a7522882cdf1f430a2cdb", func := "gnomon/gnomonlaw20.DigestPairs", spec := "digestPairs", unfollowed := true, recurses := true, named := ["unicode/utf8.first", "unicode/utf8.acceptRanges"], loops := true, apart := false, laid := [("unicode/utf8.acceptRanges", laid_unicode_utf8_acceptRanges), ("unicode/utf8.first", laid_unicode_utf8_first)], narrowed := true }
def DigestPairsUptoSaid : Prop := digestPairsUptoRow.holds Tryd.pinned (OpenSpec.upto digestPairsSpec)

/-- 'gnomonlaw6.WellExact', WHERE WHAT IT READS IS OF BULK AT MOST 1048576: true; the input reads as it did. -/
def wellExactUptoRow : OpenClaim := { program := "ythldnpmfelniiaadoor", sum := "f92948c2d5d5698edd2f66c50b0599141f36b928ca3a7522882cdf1f430a2cdb", func := "gnomon/gnomonlaw6.WellExact", spec := "wellExact", unfollowed := true, recurses := true, named := ["unicode/utf8.first", "unicode/utf8.acceptRanges"], loops := true, apart := false, laid := [("unicode/utf8.acceptRanges", laid_unicode_utf8_acceptRanges), ("unicode/utf8.first", laid_unicode_utf8_first)], narrowed := true }
def WellExactUptoSaid : Prop := wellExactUptoRow.holds Tryd.pinned (OpenSpec.upto wellExactSpec)

/-- 'gnomonlaw6.WellParts', WHERE WHAT IT READS IS OF BULK AT MOST 1048576: true; the input reads as it did. -/
def wellPartsUptoRow : OpenClaim := { program := "ythldnpmfelniiaadoor", sum := "f92948c2d5d5698edd2f66c50b0599141f36b928ca3a7522882cdf1f430a2cdb", func := "gnomon/gnomonlaw6.WellParts", spec := "wellParts", unfollowed := true, recurses := true, named := ["unicode/utf8.first", "unicode/utf8.acceptRanges"], loops := true, apart := false, laid := [("unicode/utf8.acceptRanges", laid_unicode_utf8_acceptRanges), ("unicode/utf8.first", laid_unicode_utf8_first)], narrowed := true }
def WellPartsUptoSaid : Prop := wellPartsUptoRow.holds Tryd.pinned (OpenSpec.upto wellPartsSpec)

end Rows
end Go.Proofs.YthldnpmfelniiaaDoor
