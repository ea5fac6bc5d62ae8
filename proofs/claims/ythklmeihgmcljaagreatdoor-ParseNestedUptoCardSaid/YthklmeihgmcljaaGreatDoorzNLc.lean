/- What the rows of texts share: the tables and the error that the rows list hold what the walks ask; a world for the witness. -/
import Derived.Test.YthklmeihgmcljaaGreatDoorCards
import Derived.Test.YthklmeihgmcljaaGreatDoorTie
import Derived.ShutString
import Derived.Deep.DeepHandedRow
import Derived.Lib.LaidU8T
import Derived.Lay
import Derived.ChangeMaps5
import Derived.Stop.LaidErr
import Derived.Test.YthklmeihgmcljaaGreatDoorzNL7
import Derived.Test.YthklmeihgmcljaaGreatDoorzNO
namespace Go.Proofs.YthklmeihgmcljaaGreatDoor
open Go.ChangeShapes Go.WideShapes Go.ChangeAt Go.RowKit Go.Shelf
theorem own : ownKnob Tryz.prog.godebug = none := by kernel_rfl
theorem laidOut : laidOutB Tryz.prog = true := by kernel_rfl
abbrev listed : List (String × DataW Unit) := [("math/bits.deBruijn32tab", Rows.laid_math_bits_deBruijn32tab), ("math/bits.deBruijn64tab", Rows.laid_math_bits_deBruijn64tab), ("internal/strconv.uint64pow10", Rows.laid_internal_strconv_uint64pow10), ("unicode/utf8.acceptRanges", Rows.laid_unicode_utf8_acceptRanges), ("strconv.ErrRange", Rows.laid_strconv_ErrRange), ("strconv.ErrSyntax", Rows.laid_strconv_ErrSyntax), ("unicode/utf8.first", Rows.laid_unicode_utf8_first)]
theorem u8x : U8Extra Tryz.prog Tryz.a9M := ⟨by kernel_rfl, by kernel_rfl, by kernel_rfl, by kernel_rfl, by kernel_rfl, by kernel_rfl, by kernel_rfl⟩
theorem firstEq : Rows.laid_unicode_utf8_first = Lib.firstData := by kernel_rfl
theorem acceptEq : (Rows.laid_unicode_utf8_acceptRanges : DataW Unit) = Lib.acceptData := by kernel_rfl
theorem starE : "*" ++ "errors.errorString" = "*errors.errorString" := by decide
theorem rowE (u : TypeId) (h : Tryz.prog.typeName? 3 u = some "*errors.errorString") : u = 228 :=
 typeName_ptr_named (nm := "errors.errorString") (by rw [starE]; kernel_rfl) (by kernel_rfl) (by decide) u (by rw [starE]; exact h)
def ErrW (W : World) : Prop := ∃ (tp : TypeId) (x : Value), W.cell? ⟨3, 0, none⟩ = some (.iface tp x)
theorem b4l {W : World} (h : laidMetH Tryz.prog listed W) : Lib.Utf8Tabs 0 1 W ∧ ErrW W := by
 rw [MakeChecks.laidMetH_plain _ _ _ (by kernel_rfl)] at h
 refine ⟨utf8Tabs_of_readsT (U8Types.of196 Tryz.b5A) u8x (firstEq ▸ Lib.laidMet.reads h (.tail _ (.tail _ (.tail _ (.tail _ (.tail _ (.tail _ (.head _)))))))) (acceptEq ▸ Lib.laidMet.reads h (.tail _ (.tail _ (.tail _ (.head _))))), ?_⟩
 have hg : Tryz.prog.globalNamed "strconv.ErrRange" = some 3 := by kernel_rfl
 obtain ⟨a0, s0, hv0, -, -, -⟩ := laid_sentinel h.tail.tail.tail.tail hg (show (Tryz.prog.globals[3]?).map (·.type) = some 200 by kernel_rfl) Tryz.underlying200 rowE Tryz.underlying228 Tryz.underlying230 rfl rfl Tryz.underlying9 (by kernel_rfl) (by kernel_rfl)
 exact ⟨_, _, by have h0 := World.var?_cell hg hv0 0; simpa using h0⟩
theorem a5Q {W w : World} (s : Sub (hpW W) w) {a : Addr} {v : Value} (h : W.cell? a = some v) : w.cell? a = some v := by
 have hb : ∀ o, W.heap[a.block]? = some o → w.heap[a.block]? = some o := fun o h => s _ o h
 unfold World.cell? at h ⊢
 cases hq : W.heap[a.block]? with
 | none => rw [hq] at h; cases h
 | some o => rw [hq] at h; rw [hb o hq]; exact h
theorem b9f {W : World} (h : Lib.Utf8Tabs 0 1 W) : TabsH (hpW W) := fun w s =>
 ⟨fun c hc => a5Q s (h.1 c hc), fun i hi => ⟨a5Q s (h.2 i hi).1, a5Q s (h.2 i hi).2⟩⟩
theorem c1B {W : World} (h : ErrW W) : ErrH (hpW W) := by
 obtain ⟨tp, x, h⟩ := h
 exact ⟨tp, x, fun w s => a5Q s h⟩
noncomputable def wit (os : Os) : World := World.laidAll Tryz.prog os listed
theorem c1C (os : Os) (args : Array Value) : laidMetH Tryz.prog listed ((wit os).forCall (fun _ _ => 0) ⟨#[], args, []⟩).memory := by
 rw [MakeChecks.laidMetH_plain _ _ _ (by kernel_rfl)]
 exact laidMet_laidAll _ (by kernel_rfl) (by kernel_rfl)
theorem c1D {H : Type} {enc : TypeId × Value → H} {f : FuncId} {fn : Func} {s : OpenSpec} {conds : List PathCond} (os : Os) (args : Array Value)
  (hsh : ((wit os).forCall (fun _ _ => 0) ⟨#[], args, []⟩).Shaped Tryz.prog)
  (hok : Input.okWideB Tryz.checked.prog ((wit os).forCall (fun _ _ => 0) ⟨#[], args, []⟩) f ⟨#[], args, []⟩ = true)
  (hrow : s.preRow enc Tryz.checked.prog fn conds false listed ((wit os).forCall (fun _ _ => 0) ⟨#[], args, []⟩).memory args) :
  ∃ (w : World) (tape : Tape) (i : Input), w.os = os ∧ (w.forCall tape i).Shaped Tryz.checked.prog ∧ i.vars = [] ∧ Input.okWide Tryz.checked.prog (w.forCall tape i) .any w.heap.size f i ∧
   s.preRow enc Tryz.checked.prog fn conds false listed (w.forCall tape i).memory i.args ∧ ({} : Assume).holds Tryz.checked.prog (lone (Frame.enter Tryz.checked.prog f i.args .normal) [] (w.forCall tape i)) :=
 ⟨wit os, fun _ _ => 0, ⟨#[], args, []⟩, World.laidAll_os _ _ _, hsh, (Input.okWide_of_okWideB (base := 0) hok).1, (Input.okWide_of_okWideB hok).2, hrow, by
  simp only [Assume.holds]
  exact ⟨by simp, by simp, fun _ => Modest.zero, by simp, by simp⟩⟩
end Go.Proofs.YthklmeihgmcljaaGreatDoor
