/- What the rows of texts share: the tables that the rows list hold what the walks ask; a world for the witness. -/
import Derived.Test.YtnhdnncbjddmjaaGreatDoorCards
import Derived.Test.YtnhdnncbjddmjaaGreatDoorTie
import Derived.ShutString
import Derived.Deep.DeepHandedRow
import Derived.Lib.LaidU8T
import Derived.Lib.LaidTab
import Derived.Lay
import Derived.ChangeMaps5
import Derived.Stop.LaidErr
import Derived.Test.YtnhdnncbjddmjaaGreatDooryEI2
import Derived.Test.YtnhdnncbjddmjaaGreatDooryEO
namespace Go.Proofs.YtnhdnncbjddmjaaGreatDoor
open Go.ChangeShapes Go.WideShapes Go.ChangeAt Go.RowKit Go.Shelf
theorem own:ownKnob Tryz.prog.godebug=none:=by kernel_rfl
theorem laidOut:laidOutB Tryz.prog=true:=by kernel_rfl
abbrev listed : List (String × DataW Unit) := [("math/bits.deBruijn32tab", Rows.laid_math_bits_deBruijn32tab), ("math/bits.deBruijn64tab", Rows.laid_math_bits_deBruijn64tab), ("internal/strconv.uint64pow10", Rows.laid_internal_strconv_uint64pow10), ("unicode/utf8.acceptRanges", Rows.laid_unicode_utf8_acceptRanges), ("unicode/utf8.first", Rows.laid_unicode_utf8_first)]
theorem u8x:U8Extra Tryz.prog Tryz.a8A:=⟨by kernel_rfl,by kernel_rfl,by kernel_rfl,by kernel_rfl,by kernel_rfl,by kernel_rfl,by kernel_rfl⟩
theorem firstEq:Rows.laid_unicode_utf8_first=Lib.firstData:=by kernel_rfl
theorem acceptEq:(Rows.laid_unicode_utf8_acceptRanges:DataW Unit)=Lib.acceptData:=by kernel_rfl
theorem powEq:(Rows.laid_internal_strconv_uint64pow10:DataW Unit)=Lib.tabData .u64 Lib.pow10Tab:=by kernel_rfl
theorem b2q {W : World} (h : laidMetH Tryz.prog listed W) : Lib.Utf8Tabs 1 2 W ∧ Lib.TabIs Tryz.prog W "internal/strconv.uint64pow10" .u64 Lib.pow10Tab := by
 rw [MakeChecks.laidMetH_plain _ _ _ (by kernel_rfl)] at h
 refine ⟨utf8Tabs_of_readsT (U8Types.of196 Tryz.b2W) u8x (firstEq ▸ Lib.laidMet.reads h (.tail _ (.tail _ (.tail _ (.tail _ (.head _)))))) (acceptEq ▸ Lib.laidMet.reads h (.tail _ (.tail _ (.tail _ (.head _))))),?_⟩
 have h2:=h.tail.tail
 rw [powEq] at h2
 exact Lib.tabIs_of_head (g:=0) (by kernel_rfl) (show (Tryz.prog.globals[0]?).map (·.type)=some 148 by kernel_rfl) Tryz.underlying148 Tryz.underlying127 (by kernel_rfl) (by kernel_rfl) h2
theorem a6E{W w:World}(s:Sub (hpW W) w){a:Addr}{v:Value}(h:W.cell? a=some v):w.cell? a=some v:=by
 have hb:∀o,W.heap[a.block]? = some o→w.heap[a.block]? = some o:=fun o h=>s _ o h
 unfold World.cell? at h ⊢
 cases hq:W.heap[a.block]? with
 | none=>rw [hq] at h;cases h
 | some o=>rw [hq] at h;rw [hb o hq];exact h
theorem b6j{W:World}(h:Lib.Utf8Tabs 1 2 W):TabsH (hpW W):=fun w s=>
 ⟨fun c hc=>a6E s (h.1 c hc),fun i hi=>⟨a6E s (h.2 i hi).1,a6E s (h.2 i hi).2⟩⟩
theorem b7N {W : World} (h : Lib.TabIs Tryz.prog W "internal/strconv.uint64pow10" .u64 Lib.pow10Tab) : PowH (hpW W) := fun w s => by
 unfold Lib.TabIs World.var? at h ⊢
 rw [show Tryz.prog.globalNamed "internal/strconv.uint64pow10" = some 0 by kernel_rfl] at h ⊢
 simp only [Option.bind_some] at h ⊢
 cases hq:W.heap[0]? with
 | none=>rw [hq] at h;cases h
 | some o=>rw [hq] at h;rw [s 0 o hq];exact h
noncomputable def wit(os:Os):World:=World.laidAll Tryz.prog os listed
theorem b7O(os:Os)(args:Array Value):laidMetH Tryz.prog listed ((wit os).forCall (fun _ _=>0) ⟨#[],args,[]⟩).memory:=by
 rw [MakeChecks.laidMetH_plain _ _ _ (by kernel_rfl)]
 exact laidMet_laidAll _ (by kernel_rfl) (by kernel_rfl)
theorem b7P{H:Type}{enc:TypeId×Value→H}{f:FuncId}{fn:Func}{s:OpenSpec}{conds:List PathCond}(os:Os)(args:Array Value)
  (hsh:((wit os).forCall (fun _ _=>0) ⟨#[],args,[]⟩).Shaped Tryz.prog)
  (hok:Input.okWideB Tryz.checked.prog ((wit os).forCall (fun _ _=>0) ⟨#[],args,[]⟩) f ⟨#[],args,[]⟩=true)
  (hrow:s.preRow enc Tryz.checked.prog fn conds false listed ((wit os).forCall (fun _ _=>0) ⟨#[],args,[]⟩).memory args):
  ∃(w:World)(tape:Tape)(i:Input),w.os=os∧(w.forCall tape i).Shaped Tryz.checked.prog∧i.vars=[]∧Input.okWide Tryz.checked.prog (w.forCall tape i) .any w.heap.size f i∧
   s.preRow enc Tryz.checked.prog fn conds false listed (w.forCall tape i).memory i.args∧({}:Assume).holds Tryz.checked.prog (lone (Frame.enter Tryz.checked.prog f i.args .normal) [] (w.forCall tape i)):=
 ⟨wit os,fun _ _=>0,⟨#[],args,[]⟩,World.laidAll_os _ _ _,hsh,(Input.okWide_of_okWideB (base:=0) hok).1,(Input.okWide_of_okWideB hok).2,hrow,by
  simp only [Assume.holds]
  exact ⟨by simp,by simp,fun _=>Modest.zero,by simp,by simp⟩⟩
end Go.Proofs.YtnhdnncbjddmjaaGreatDoor
