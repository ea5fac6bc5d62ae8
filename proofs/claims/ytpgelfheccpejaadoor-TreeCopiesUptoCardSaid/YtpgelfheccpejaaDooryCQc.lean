/- What the rows of the trees share: the tables that the rows list hold what the walks ask; a world for the witness. -/
import Derived.Test.YtpgelfheccpejaaDoorCards
import Derived.Test.YtpgelfheccpejaaDoorTie
import Derived.ShutString
import Derived.Deep.DeepHandedRow
import Derived.Lib.LaidU8T
import Derived.Lay
import Derived.ChangeMaps5
import Derived.Test.YtpgelfheccpejaaDooryCQ3
import Derived.Test.YtpgelfheccpejaaDooryCO
namespace Go.Proofs.YtpgelfheccpejaaDoor
open Go.ChangeShapes Go.WideShapes Go.ChangeAt Go.RowKit Go.Shelf
theorem own:ownKnob Tryd.prog.godebug=none:=by kernel_rfl
theorem laidOut:laidOutB Tryd.prog=true:=by kernel_rfl
abbrev listed : List (String × DataW Unit) := [("unicode/utf8.acceptRanges", Rows.laid_unicode_utf8_acceptRanges), ("unicode/utf8.first", Rows.laid_unicode_utf8_first)]
theorem u8x:U8Extra Tryd.prog Tryd.a8B:=⟨by kernel_rfl,by kernel_rfl,by kernel_rfl,by kernel_rfl,by kernel_rfl,by kernel_rfl,by kernel_rfl⟩
theorem firstEq:Rows.laid_unicode_utf8_first=Lib.firstData:=by kernel_rfl
theorem acceptEq:(Rows.laid_unicode_utf8_acceptRanges:DataW Unit)=Lib.acceptData:=by kernel_rfl
theorem b2A{W:World}(h:laidMetH Tryd.prog listed W):Lib.Utf8Tabs 0 1 W:=by
 rw [MakeChecks.laidMetH_plain _ _ _ (by kernel_rfl)] at h
 exact utf8Tabs_of_readsT (U8Types.of196 Tryd.b2Z) u8x (firstEq ▸ Lib.laidMet.reads h (.tail _ (.head _))) (acceptEq ▸ Lib.laidMet.reads h (.head _))
theorem a6F{W w:World}(s:Sub (hpW W) w){a:Addr}{v:Value}(h:W.cell? a=some v):w.cell? a=some v:=by
 have hb:∀o,W.heap[a.block]? = some o→w.heap[a.block]? = some o:=fun o h=>s _ o h
 unfold World.cell? at h ⊢
 cases hq:W.heap[a.block]? with
 | none=>rw [hq] at h;cases h
 | some o=>rw [hq] at h;rw [hb o hq];exact h
theorem b6n{W:World}(h:Lib.Utf8Tabs 0 1 W):TabsH (hpW W):=fun w s=>
 ⟨fun c hc=>a6F s (h.1 c hc),fun i hi=>⟨a6F s (h.2 i hi).1,a6F s (h.2 i hi).2⟩⟩
noncomputable def wit(os:Os):World:=World.laidAll Tryd.prog os listed
theorem b7u(os:Os)(args:Array Value):laidMetH Tryd.prog listed ((wit os).forCall (fun _ _=>0) ⟨#[],args,[]⟩).memory:=by
 rw [MakeChecks.laidMetH_plain _ _ _ (by kernel_rfl)]
 exact laidMet_laidAll _ (by kernel_rfl) (by kernel_rfl)
theorem b7v{H:Type}{enc:TypeId×Value→H}{f:FuncId}{fn:Func}{s:OpenSpec}{conds:List PathCond}(os:Os)(args:Array Value)
  (hsh:((wit os).forCall (fun _ _=>0) ⟨#[],args,[]⟩).Shaped Tryd.prog)
  (hok:Input.okWideB Tryd.checked.prog ((wit os).forCall (fun _ _=>0) ⟨#[],args,[]⟩) f ⟨#[],args,[]⟩=true)
  (hrow:s.preRow enc Tryd.checked.prog fn conds false listed ((wit os).forCall (fun _ _=>0) ⟨#[],args,[]⟩).memory args):
  ∃(w:World)(tape:Tape)(i:Input),w.os=os∧(w.forCall tape i).Shaped Tryd.checked.prog∧i.vars=[]∧Input.okWide Tryd.checked.prog (w.forCall tape i) .any w.heap.size f i∧
   s.preRow enc Tryd.checked.prog fn conds false listed (w.forCall tape i).memory i.args∧({}:Assume).holds Tryd.checked.prog (lone (Frame.enter Tryd.checked.prog f i.args .normal) [] (w.forCall tape i)):=
 ⟨wit os,fun _ _=>0,⟨#[],args,[]⟩,World.laidAll_os _ _ _,hsh,(Input.okWide_of_okWideB (base:=0) hok).1,(Input.okWide_of_okWideB hok).2,hrow,by
  simp only [Assume.holds]
  exact ⟨by simp,by simp,fun _=>Modest.zero,by simp,by simp⟩⟩
end Go.Proofs.YtpgelfheccpejaaDoor
