/- Printing: numbers: the library's decimal numerals and the document's; blanks. -/
import Derived.Lib.ItoaLen
import Derived.Laws.IdiomStrings
import Derived.Test.YtoflkliecagjcaaGreatDooryBI1
namespace Go.Proofs.YtoflkliecagjcaaGreatDoor
open Go.RowKit
set_option maxRecDepth 100000
set_option maxHeartbeats 1000000
def PowH (H : Hp) : Prop := ∀ w : World, Sub H w → Lib.TabIs Tryz.prog w "internal/strconv.uint64pow10" .u64 Lib.pow10Tab
theorem PowH.le{H H':Hp}(h:PowH H)(l:Hle H H'):PowH H':=fun w s=>h w fun i o e=>s i o (l i o e)
theorem below_grow(w:World)(k:Nat)(os:Array Obj):Below w.heap.size w (Go.Sort.grow (w.drewN k) os):=by
 refine ⟨rfl,rfl,rfl,?_,fun i hi=>?_⟩
 ·show w.heap.size≤(w.heap++os).size
  rw [Array.size_append];omega
 ·show (w.heap++os)[i]? = _
  rw [Array.getElem?_append_left hi]
def itS(n:Int):ByteArray:=⟨(Lib.itoa n).toArray⟩
theorem d4w(n:Int):(itS n).data.toList=Lib.itoa n:=rfl
theorem c7G{n:Int}(h0:0≤n)(h1:n≤9223372036854775807):(itS n).size≤21:=by
 have:=Lib.itoa_length_le n (by omega) h1
 show (Lib.itoa n).toArray.size≤21
 rw [List.size_toArray];exact this
section
variable {H:Hp}
theorem d3k(hP:PowH H){n:Int}(h0:0≤n)(h1:n≤9223372036854775807){K:ByteArray→Hp→Prop}(h:K (itS n) H):a7g n 10 H K:=by
 intro w I
 refine Calls.mono (Tryz.strconv_FormatInt_10 n (by omega) h1 w (hP w I.sub)) fun e w' hb=>?_
 obtain ⟨rfl,k,os,rfl⟩:=hb
 exact ⟨H,[],I.of_below (below_grow w k os),_,rfl,rfl,h⟩
theorem c9i(hP:PowH H){n:Int}(h0:0≤n)(h1:n≤9223372036854775807){K:ByteArray→Hp→Prop}(h:K (itS n) H):b0B n H K:=by
 intro w I
 refine Calls.mono (Tryz.strconv_Itoa n (by omega) h1 w (hP w I.sub)) fun e w' hb=>?_
 obtain ⟨rfl,k,os,rfl⟩:=hb
 exact ⟨H,[],I.of_below (below_grow w k os),_,rfl,rfl,h⟩
theorem d3l{s:ByteArray}{c:Nat}(hc:s.size*c≤140737488355328)(hc2:c≤9223372036854775807){K:ByteArray→Hp→Prop}(h:K ⟨(Lib.repeatL s.data.toList c).toArray⟩ H):b3Y s c H K:=by
 intro w I
 refine Calls.mono (Tryz.strings_Repeat s c w hc2 hc) fun e w' hb=>?_
 obtain ⟨rfl,hb⟩:=hb
 exact ⟨H,[],I.of_below hb,_,rfl,rfl,h⟩
end
end Go.Proofs.YtoflkliecagjcaaGreatDoor
