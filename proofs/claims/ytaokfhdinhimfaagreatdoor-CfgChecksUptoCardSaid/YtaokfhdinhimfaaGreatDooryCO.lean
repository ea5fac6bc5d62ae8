/- Arguments opened: what the reading of slices and structures says of the memory's blocks. -/
import Derived.Test.YtaokfhdinhimfaaGreatDoorRows
import Derived.Deep.Slices
import Derived.Carry
import Derived.ReadAgain
import Derived.ProofKit
import Derived.OpenShut
import Derived.JoinedCond
import Derived.Test.YtaokfhdinhimfaaGreatDooryCS3
namespace Go.Proofs.YtaokfhdinhimfaaGreatDoor
open Go.RowKit Go.ChangeShapes
section
variable {Hd:Type}
theorem c3s(d:DataW Hd):1≤Rows.uptoBulk d:=by
 cases d with
 | lit l=>cases l<;>simp [Rows.uptoBulk]
 | nil=>simp [Rows.uptoBulk]
 | ptr d=>simp [Rows.uptoBulk]
 | slice a b=>simp [Rows.uptoBulk]
 | agg a=>simp [Rows.uptoBulk]
 | iface t d=>simp [Rows.uptoBulk]
 | map a=>simp [Rows.uptoBulk]
 | held h=>simp [Rows.uptoBulk]
theorem b4k{d:DataW Hd}:∀{l:List (DataW Hd)},d∈l→Rows.uptoBulk d≤Rows.uptoBulkAll l
 | x::r,h=>by
  simp only [Rows.uptoBulkAll]
  rcases List.mem_cons.1 h with rfl | h
  ·omega
  ·have:=b4k h;omega
theorem b7A:∀l:List (DataW Hd),l.length≤Rows.uptoBulkAll l
 | []=>by simp
 | x::r=>by
  have:=c3s x;have:=b7A r
  simp only [Rows.uptoBulkAll,List.length_cons];omega
variable {enc:TypeId×Value→Hd}{P:Program}{W:World}
abbrev hpW(W:World):Hp:=fun i=>W.heap[i]?
theorem add_block(a:Addr)(n:Nat):(a.add n).block=a.block:=by unfold Addr.add;split<;>rfl
theorem b9R(a:Addr)(n:Nat):(a.add n).off=a.off+n:=by unfold Addr.add;split<;>simp_all
theorem b9S{a:Addr}{v:Value}(h:W.cell? a=some v):∃c t fr,W.heap[a.block]? = some (.cells c t fr)∧a.spot=none∧c[a.off]? = some v:=by
 unfold World.cell? at h
 split at h
 ·rename_i c t fr hb
  split at h
  ·cases h
  ·rename_i hs
   exact ⟨c,t,fr,hb,by simpa using hs,h⟩
 ·cases h
theorem c9F{a:Addr}{k sz:Nat}{cs:List Value}(h0:0 < sz)(h:W.cells? 0 (a.add k) sz=some cs):AtH (hpW W) a.block (a.off+k) cs∧(k=0→a.spot=none):=by
 obtain ⟨_,hl,hg⟩:=World.cells?_some h
 have get:∀i,i < sz→∃v,cs[i]? = some v∧W.cell? ((a.add k).add i)=some v:=fun i hi=>by
  have hi':i < cs.length:=by omega
  exact ⟨cs[i],List.getElem?_eq_getElem hi',by rw [hg i hi,List.getElem?_eq_getElem hi']⟩
 obtain ⟨v0,hv0,hc0⟩:=get 0 h0
 obtain ⟨c,t,fr,hb,hs,_⟩:=b9S hc0
 rw [add_block,add_block] at hb
 have cells:∀i,i < sz→c[a.off+k+i]? = cs[i]?:=fun i hi=>by
  obtain ⟨v,hv,hc⟩:=get i hi
  obtain ⟨c',t',fr',hb',_,hg'⟩:=b9S hc
  rw [add_block,add_block,hb] at hb'
  cases hb'
  rw [b9R,b9R] at hg'
  rw [hg',hv]
 refine ⟨⟨c,t,fr,hb,?_,?_⟩,fun hk=>?_⟩
 ·obtain ⟨v,hv,_⟩:=get (sz-1) (by omega)
  have:=cells (sz-1) (by omega)
  rw [hv] at this
  have:=(Array.getElem?_eq_some_iff.1 this).1
  omega
 ·refine List.ext_getElem? fun i=>?_
  rw [List.getElem?_take]
  split
  ·rename_i hi
   rw [List.getElem?_drop,Array.getElem?_toList]
   exact cells i (by omega)
  ·rw [List.getElem?_eq_none (by omega)]
 ·subst hk
  have e:(a.add 0).add 0=a:=rfl
  rw [e] at hs;exact hs
theorem b5B{α:Type}{t e:TypeId}{sz:Nat}(ht:P.underlying t=some (.slice e))(hs:P.cellsOf e=sz)(h0:0 < sz)(cf:α→List Value)(Good:α→DataW Hd→Prop)
  (oe:∀n cs x,DataW.trod enc P W 0 (fun _=>true) true n e cs=some x→∃a,cs=cf a∧Good a x.1) {n:Nat} {cs:List Value} {x:DataW Hd×List MemPlace}
  (h:DataW.trod enc P W 0 (fun _=>true) true n t cs=some x):
  ∃(s:Sl)(xs:List α),cs=[.slice s.a s.n s.c]∧SlH (hpW W) sz cf s xs∧s.n≤s.c∧xs.length≤Rows.uptoBulk x.1∧∀a∈xs,∃y,Good a y∧Rows.uptoBulk y≤Rows.uptoBulk x.1:=by
 rcases Deep.open_slice ht h with ⟨rfl,rfl⟩ | ⟨a,len,cap,m,n',D,Pl,rfl,_,hl,_,hm,rfl,hx⟩
 ·exact ⟨⟨none,0,0⟩,[],rfl,SlH.nil _ _ _,Nat.le_refl _,Nat.zero_le _,fun a h=>by cases h⟩
 simp only [if_true] at hm
 subst hm
 rw [hs] at hx
 have key:∀k,k≤len→∃xs:List α,xs.length=k∧∀i b,xs[i]? = some b→AtH (hpW W) a.block (a.off+i*sz) (cf b)∧(i=0→a.spot=none)∧Good b (D i):=by
  intro k
  induction k with
  | zero=>exact fun _=>⟨[],rfl,fun i b h=>by simp at h⟩
  | succ k ih=>
   intro hk
   obtain ⟨xs,hxl,hxs⟩:=ih (by omega)
   obtain ⟨cs',h1,h2⟩:=hx k (by omega)
   obtain ⟨b,rfl,hb⟩:=oe _ _ _ h2
   obtain ⟨hA,hsp⟩:=c9F h0 h1
   refine ⟨xs++[b],by simp [hxl],fun i c hc=>?_⟩
   by_cases hi:i < xs.length
   ·rw [List.getElem?_append_left hi] at hc;exact hxs i c hc
   ·rw [List.getElem?_append_right (by omega)] at hc
    have:i-xs.length=0:=by
     by_cases hz:i-xs.length=0
     ·exact hz
     ·rw [List.getElem?_eq_none (by simp;omega)] at hc;cases hc
    rw [this] at hc
    simp at hc;subst hc
    obtain rfl:i=k:=by omega
    exact ⟨hA,fun hz=>hsp (by rw [hz];simp),hb⟩
 obtain ⟨xs,hxl,hxs⟩:=key len (Nat.le_refl _)
 have hbl:len≤Rows.uptoBulkAll ((List.range len).map D):=by have:=b7A ((List.range len).map D);simpa using this
 refine ⟨⟨some a,len,_⟩,xs,rfl,⟨hxl.symm,fun i b hb=>?_⟩,hl,?_,fun b hb=>?_⟩
 ·obtain ⟨hA,_,_⟩:=hxs i b hb
  have hi:i < len:=by rw [←hxl];exact (List.getElem?_eq_some_iff.1 hb).1
  have hsp:a.spot=none:=by
   have h00:0 < xs.length:=by omega
   exact (hxs 0 xs[0] (List.getElem?_eq_getElem h00)).2.1 rfl
  refine ⟨a.block,a.off,?_,?_⟩
  ·show some a=_
   cases a;simp at hsp;subst hsp;rfl
  ·rw [Int.toNat_natCast];exact hA
 ·show xs.length≤Rows.uptoBulk (.slice _ _)
  simp only [Rows.uptoBulk]
  omega
 ·obtain ⟨i,hi,rfl⟩:=List.mem_iff_getElem.1 hb
  obtain ⟨_,_,hg⟩:=hxs i _ (List.getElem?_eq_getElem hi)
  refine ⟨D i,hg,?_⟩
  have:=b4k (List.mem_map.2 ⟨i,List.mem_range.2 (by omega),rfl⟩:D i∈(List.range len).map D)
  show _≤Rows.uptoBulk (.slice _ _)
  simp only [Rows.uptoBulk]
  omega
theorem b7B{t:TypeId}{fs:Array Field}(ht:P.underlying t=some (.struct fs)){r:Reach}{b:Nat}{v:Value}(hv:Value.okWide P W r b t v):v=.agg v.cells:=by
 unfold Value.okWide at hv
 rw [ht] at hv
 obtain ⟨cs,rfl,_⟩:=hv
 rfl
theorem a8Z{t:TypeId}{fs:Array Field}(ht:P.underlying t=some (.struct fs)){n:Nat}{cs:List Value}{x:DataW Hd×List MemPlace}(h:DataW.trod enc P W 0 (fun _=>true) true n t cs=some x):
  cs.length=P.cellsOf t∧∃m,∀(i:Nat)(f:Field),fs[i]? = some f→∃y,DataW.trod enc P W 0 (fun _=>true) true m f.type ((cs.drop f.offset).take (P.cellsOf f.type))=some y∧Rows.uptoBulk y.1≤Rows.uptoBulk x.1:=by
 obtain ⟨xs,m,_,rfl,hl,hxl,hg⟩:=DataW.trod_struct ht h
 refine ⟨hl,m,fun i f hf=>?_⟩
 have hi:i < xs.length:=by rw [hxl];exact (Array.getElem?_eq_some_iff.1 hf).1
 refine ⟨xs[i],by rw [hg i f hf,List.getElem?_eq_getElem hi],?_⟩
 have:=b4k (List.mem_map.2 ⟨xs[i],List.getElem_mem hi,rfl⟩:xs[i].1∈xs.map (·.1))
 show _≤Rows.uptoBulk (.agg _)
 simp only [Rows.uptoBulk]
 omega
theorem c0A{t:TypeId}{v:Value}{d:DataW Hd}{ps:List MemPlace}(h:DataW.Trod enc P W 0 (fun _=>true) true t v d ps):∃n,DataW.trod enc P W 0 (fun _=>true) true n t v.cells.toList=some (d,ps):=h
theorem c5y{t:TypeId}(ht:P.underlying t=some (.int .i64)){n:Nat}{cs:List Value}{x:DataW Hd×List MemPlace}(h:DataW.trod enc P W 0 (fun _=>true) true n t cs=some x):∃z:Int,cs=[.int .i64 z]∧-9223372036854775808≤z∧z≤9223372036854775807:=by
 obtain ⟨z,rfl,_,hw⟩:=DataW.trod_int ht h
 have:=bounds_i64 hw
 exact ⟨z,rfl,this⟩
theorem b4M{t:TypeId}(ht:P.underlying t=some .string){n:Nat}{cs:List Value}{x:DataW Hd×List MemPlace}(h:DataW.trod enc P W 0 (fun _=>true) true n t cs=some x):∃s:ByteArray,cs=[.string s]∧s.size < Rows.uptoBulk x.1:=by
 obtain ⟨s,rfl,rfl,_⟩:=DataW.trod_string ht h
 refine ⟨s,rfl,?_⟩
 show s.data.toList.length < Rows.uptoBulk (DataW.lit (H:=Hd) (.string s.data.toList))
 simp [Rows.uptoBulk]
theorem c3t{f:FuncId}{args:Array Value}{W:World}{Q:Value→Hp→List Frag→Prop}(h:Ct P f args.toList (hpW W) [] Q noQE):Calls P f args W fun e W'=>∃v H' Fo,e=.returned v∧Below W.heap.size W W'∧Q v H' Fo:=by
 have hs:=h W (by
  have:=Inv.start W
  refine ⟨this.sub,this.own,this.priv,this.nodup,fun p hp=>(by cases hp),fun i hi _=>rfl,this.mono,rfl,rfl,rfl,Hle.refl _,fun i _ _=>rfl⟩)
 refine Calls.mono hs fun e W' r=>?_
 cases e with
 | returned v=>
  obtain ⟨H',Fo,I,q⟩:=r
  exact ⟨v,H',Fo,rfl,⟨I.os,I.tape,I.output,I.mono,fun k hk=>I.frame k hk (fun ⟨p,hp,_⟩=>by cases hp)⟩,q⟩
 | panicked c=>
  obtain ⟨H',Fo,I,q⟩:=r
  cases q
 | outgrown=>cases r
end
end Go.Proofs.YtaokfhdinhimfaaGreatDoor
