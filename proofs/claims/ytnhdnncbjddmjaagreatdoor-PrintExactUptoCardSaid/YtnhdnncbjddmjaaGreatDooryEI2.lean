/- Printing: numbers: the library's decimal numerals and the document's; blanks. -/
import Derived.Lib.ItoaLen
import Derived.Laws.IdiomStrings
import Derived.Test.YtnhdnncbjddmjaaGreatDooryEI1
namespace Go.Proofs.YtnhdnncbjddmjaaGreatDoor
open Go.RowKit
set_option maxRecDepth 100000
set_option maxHeartbeats 1000000
def PowH (H : Hp) : Prop := ∀ w : World, Sub H w → Lib.TabIs Tryz.prog w "internal/strconv.uint64pow10" .u64 Lib.pow10Tab
theorem PowH.le{H H':Hp}(h:PowH H)(l:Hle H H'):PowH H':=fun w s=>h w fun i o e=>s i o (l i o e)
theorem below_grow(w:World)(k:Nat)(os:Array Obj):Below w.heap.size w (Go.Sort.grow (w.drewN k) os):=by
 refine ⟨rfl,rfl,rfl,?_,fun i hi=>?_⟩
 ·show w.heap.size≤(w.heap++os).size
  rw [Array.size_append];omega
 ·show (w.heap++os)[i]? = _
  rw [Array.getElem?_append_left hi]
def itS(n:Int):ByteArray:=⟨(Lib.itoa n).toArray⟩
theorem c0E(n:Int):(itS n).data.toList=Lib.itoa n:=rfl
theorem b6I{n:Int}(h0:0≤n)(h1:n≤9223372036854775807):(itS n).size≤21:=by
 have:=Lib.itoa_length_le n (by omega) h1
 show (Lib.itoa n).toArray.size≤21
 rw [List.size_toArray];exact this
section
variable {H:Hp}
theorem c0e(hP:PowH H){n:Int}(h0:0≤n)(h1:n≤9223372036854775807){K:ByteArray→Hp→Prop}(h:K (itS n) H):a4E n 10 H K:=by
 intro w I
 refine Calls.mono (Tryz.strconv_FormatInt_10 n (by omega) h1 w (hP w I.sub)) fun e w' hb=>?_
 obtain ⟨rfl,k,os,rfl⟩:=hb
 exact ⟨H,[],I.of_below (below_grow w k os),_,rfl,rfl,h⟩
theorem b7M(hP:PowH H){n:Int}(h0:0≤n)(h1:n≤9223372036854775807){K:ByteArray→Hp→Prop}(h:K (itS n) H):a6K n H K:=by
 intro w I
 refine Calls.mono (Tryz.strconv_Itoa n (by omega) h1 w (hP w I.sub)) fun e w' hb=>?_
 obtain ⟨rfl,k,os,rfl⟩:=hb
 exact ⟨H,[],I.of_below (below_grow w k os),_,rfl,rfl,h⟩
theorem c0f{s:ByteArray}{c:Nat}(hc:s.size*c≤140737488355328)(hc2:c≤9223372036854775807){K:ByteArray→Hp→Prop}(h:K ⟨(Lib.repeatL s.data.toList c).toArray⟩ H):a8K s c H K:=by
 intro w I
 refine Calls.mono (Tryz.strings_Repeat s c w hc2 hc) fun e w' hb=>?_
 obtain ⟨rfl,hb⟩:=hb
 exact ⟨H,[],I.of_below hb,_,rfl,rfl,h⟩
theorem b2p{n:Nat}:Lib.decDigits n=(if n < 10 then [] else Lib.decDigits (n / 10))++[UInt8.ofNat (48+n % 10)]:=by
 rw [Lib.decDigits]
 split
 ·rename_i h;rw [Nat.mod_eq_of_lt h];rfl
 ·rfl
theorem wrap_u8{a:Int}(h0:0≤a)(h1:a < 256):IntKind.wrap .u8 a=a:=by
 show a % 256=a
 exact Int.emod_eq_of_lt h0 h1
theorem b0j{n:Int}(h0:0≤n)(h1:n≤9223372036854775807){K:ByteArray→Hp→Prop}(h:∀H',Hle H H'→K (itS n) H'):a0h n H K:=by
 refine Ct.of fun w0 w ps0 H0 R E I hR=>b8p ?_
 unfold F16
 refine a7 (q9 _ _ _ _ _ _) ?_
 refine a2C (fun c=>by omega) fun _=>?_
 have hit:itS n=⟨(Lib.decDigits n.toNat).toArray⟩:=by unfold itS Lib.itoa;rw [if_neg (by omega)]
 refine a1B (J:=fun m l w=>∃(u:Nat)(t:List UInt8)(H1:Hp),m=u∧l=[vi u,.string ⟨t.toArray⟩]∧(u:Int)≤n∧t.length≤20∧u < 10 ^ (20-t.length)∧Inv w0 ps0 H0 H1 [] w∧Hle H H1∧Lib.decDigits u++t=Lib.decDigits n.toNat) ⟨_,n.toNat,[],H,rfl,by rw [Int.toNat_of_nonneg h0],by omega,by simp,?_,I,Hle.refl _,List.append_nil _⟩ ?_
 ·show n.toNat < 100000000000000000000
  omega
 rintro u τ w next ⟨_,t,H1,rfl,hl,hu,ht,hp,I,l,hd⟩ hn
 simp only [List.map_cons,List.map_nil,List.cons.injEq,and_true] at hl
 simp only [hl.1,hl.2]
 unfold b4u
 refine a7 (b8c _ _ _ _ _ _ (by decide)) ?_
 refine a7 (o4 _ _ _ _ _ _) ?_
 refine a7 (b4m _ _) ?_
 have hr:Int.tmod (u:Int) 10=((u % 10:Nat):Int):=by rw [Int.tmod_eq_emod_of_nonneg (by omega)];rfl
 have hw:IntKind.wrap .u8 (IntKind.wrap .i64 (48+Int.tmod (u:Int) 10))=((UInt8.ofNat (48+u % 10)).toNat:Int):=by
  rw [hr,F0 ⟨by omega,by omega⟩,wrap_u8 (by omega) (by omega),UInt8.toNat_ofNat']
  omega
 rw [hw]
 refine W0 (e:=5) (c:=k9) (xs:=[((UInt8.ofNat (48+u % 10)).toNat:Int)]) I (b6X _) rfl rfl a6Z a7a (nb rfl) fun s F w1 hr1 I1 _=>?_
 obtain ⟨g,arr,ha,hF⟩:=hr1.addr (i:=0) rfl
 have hat:=hr1.atW I1 ha (i:=0) rfl
 have hsn:s.n=1:=hr1.2.1
 obtain ⟨sa,sn,sc⟩:=s
 dsimp only at ha hsn
 subst ha hsn
 refine N4 (run_convert_bytes_back w1 40 9 5 ⟨g,0,none⟩ sc [UInt8.ofNat (48+u % 10)] Tryz.underlying40 Tryz.underlying5 Tryz.underlying9 fun j hj=>?_) ?_
 ·have:j=0:=by simp at hj;omega
  subst this
  obtain ⟨arr',t',fr',q1,q2,q3⟩:=hat
  have e0:arr'[0]? = some (.int .u8 ((UInt8.ofNat (48+u % 10)).toNat:Int)):=by
   have:=congrArg (·[0]?) q3
   simpa using this
  simp [World.cell?,Addr.add,q1,e0]
 have hpow:∀k,1≤k→k≤20→u < 10 ^ k→u / 10 < 10 ^ (k-1):=fun k hk _ hlt=>by
  obtain ⟨j,rfl⟩:∃j,k=j+1:=⟨k-1,by omega⟩
  rw [Nat.add_sub_cancel]
  rw [Nat.pow_succ] at hlt
  exact Nat.div_lt_of_lt_mul (by omega)
 have ht1:t.length < 20∨u=0:=by
  by_cases c:t.length=20
  ·rw [c] at hp;right;simpa using hp
  ·left;omega
 refine a7 (A5 _ _ _ _ _ ?_) ?_
 ·show 1+t.toArray.size≤_
  rw [List.size_toArray];omega
 refine a7 (b8b _ _ _ _ _ _ (by decide)) ?_
 have hq:IntKind.wrap .i64 (Int.tdiv (u:Int) 10)=((u / 10:Nat):Int):=by
  rw [Int.tdiv_eq_ediv_of_nonneg (by omega),show (u:Int) / 10=((u / 10:Nat):Int) from rfl,F0 ⟨by omega,by omega⟩]
 rw [hq]
 have hcat:((⟨([UInt8.ofNat (48+u % 10)]).toArray⟩:ByteArray)++⟨t.toArray⟩)=⟨(UInt8.ofNat (48+u % 10)::t).toArray⟩:=by
  apply ByteArray.ext
  simp
 rw [hcat]
 refine a7 (d2 _ _ _ _ _ _) ?_
 refine a2C (fun c=>?_) fun c=>?_
 ·have hu9:u < 10:=by omega
  refine hR _ H1 [] _ I1.drop ⟨_,rfl,rfl,?_⟩
  rw [b2p,if_pos hu9,List.nil_append] at hd
  rw [show (⟨(UInt8.ofNat (48+u % 10)::t).toArray⟩:ByteArray)=itS n by rw [hit,← hd];rfl]
  exact h H1 l
 ·have hu9:¬u < 10:=by omega
  rcases ht1 with ht1 | ht1
  ·refine hn _ _ _ (show u / 10 < u by omega) ⟨u / 10,UInt8.ofNat (48+u % 10)::t,H1,rfl,rfl,by omega,by rw [List.length_cons];omega,?_,I1.drop,l,?_⟩
   ·rw [List.length_cons,show 20-(t.length+1)=20-t.length-1 by omega]
    exact hpow _ (by omega) (by omega) hp
   ·rw [b2p,if_neg hu9] at hd
    rw [←hd,List.append_assoc];rfl
  ·omega
end
end Go.Proofs.YtnhdnncbjddmjaaGreatDoor
