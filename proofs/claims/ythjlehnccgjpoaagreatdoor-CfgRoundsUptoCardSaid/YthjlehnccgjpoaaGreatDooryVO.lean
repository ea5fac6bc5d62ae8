/- Lemmas. -/
import Derived.Test.YthjlehnccgjpoaaGreatDoorRows
import Derived.Deep.Slices
import Derived.Carry
import Derived.ReadAgain
import Derived.ProofKit
import Derived.OpenShut
import Derived.JoinedCond
import Derived.Test.YthjlehnccgjpoaaGreatDooryVB
namespace Go.Proofs.YthjlehnccgjpoaaGreatDoor
open Go.RowKit Go.ChangeShapes
section
variable {Hd:Type}
theorem b7F(d:DataW Hd):1<=Rows.uptoBulk d:=by
 cases d with
 | lit l=>cases l<;>simp [Rows.uptoBulk]
 | nil=>simp [Rows.uptoBulk]
 | ptr d=>simp [Rows.uptoBulk]
 | slice a b=>simp [Rows.uptoBulk]
 | agg a=>simp [Rows.uptoBulk]
 | iface t d=>simp [Rows.uptoBulk]
 | map a=>simp [Rows.uptoBulk]
 | held h=>simp [Rows.uptoBulk]
theorem c1w{d:DataW Hd}:∀{l:List (DataW Hd)},d∈l->Rows.uptoBulk d<=Rows.uptoBulkAll l
 | x::r,h=>by
  simp only [Rows.uptoBulkAll]
  rcases List.mem_cons.1 h with rfl | h
  ·omega
  ·have:=c1w h;omega
theorem c5V:∀l:List (DataW Hd),l.length<=Rows.uptoBulkAll l
 | []=>by simp
 | x::r=>by
  have:=b7F x;have:=c5V r
  simp only [Rows.uptoBulkAll,List.length_cons];omega
variable {enc:TypeId×Value->Hd}{P:Program}{W:World}
abbrev hpW(W:World):Hp:=λi=>W.heap[i]?
theorem add_block(a:Addr)(n:Nat):(a.add n).block=a.block:=by unfold Addr.add;split<;>rfl
theorem c8M(a:Addr)(n:Nat):(a.add n).off=a.off+n:=by unfold Addr.add;split<;>simp_all
theorem c8N{a:Addr}{v:Value}(h:W.cell? a=some v):∃c t fr,W.heap[a.block]? = some (.cells c t fr)/\a.spot=none/\c[a.off]? = some v:=by
 unfold World.cell? at h
 split at h
 ·rename_i c t fr hb
  split at h
  ·cases h
  ·rename_i hs
   exact ⟨c,t,fr,hb,by simpa using hs,h⟩
 ·cases h
theorem e5M{a:Addr}{k sz:Nat}{cs:List Value}(h0:0 < sz)(h:W.cells? 0 (a.add k) sz=some cs):AtH (hpW W) a.block (a.off+k) cs/\(k=0->a.spot=none):=by
 obtain ⟨_,hl,hg⟩:=World.cells?_some h
 have get:∀i,i < sz->∃v,cs[i]? = some v/\W.cell? ((a.add k).add i)=some v:=λi hi=>by
  have hi':i < cs.length:=by omega
  exact ⟨cs[i],List.getElem?_eq_getElem hi',by rw [hg i hi,List.getElem?_eq_getElem hi']⟩
 obtain ⟨v0,hv0,hc0⟩:=get 0 h0
 obtain ⟨c,t,fr,hb,hs,_⟩:=c8N hc0
 rw [add_block,add_block] at hb
 have cells:∀i,i < sz->c[a.off+k+i]? = cs[i]?:=λi hi=>by
  obtain ⟨v,hv,hc⟩:=get i hi
  obtain ⟨c',t',fr',hb',_,hg'⟩:=c8N hc
  rw [add_block,add_block,hb] at hb'
  cases hb'
  rw [c8M,c8M] at hg'
  rw [hg',hv]
 refine ⟨⟨c,t,fr,hb,?_,?_⟩,λhk=>?_⟩
 ·obtain ⟨v,hv,_⟩:=get (sz-1) (by omega)
  have:=cells (sz-1) (by omega)
  rw [hv] at this
  have:=(Array.getElem?_eq_some_iff.1 this).1
  omega
 ·refine List.ext_getElem? λi=>?_
  rw [List.getElem?_take]
  split
  ·rename_i hi
   rw [List.getElem?_drop,Array.getElem?_toList]
   exact cells i (by omega)
  ·rw [List.getElem?_eq_none (by omega)]
 ·subst hk
  have e:(a.add 0).add 0=a:=rfl
  rw [e] at hs;exact hs
theorem c8d{t e:TypeId}(ht:P.underlying t=some (.slice e)){r:Reach}{b:Nat}{v:Value}(hv:Value.okWide P W r b t v):v.cells.toList=[v]:=by
 unfold Value.okWide at hv
 rw [ht] at hv
 simp only [Cell.okWide,Cell.ok,ht] at hv
 cases v<;>first | rfl | exact hv.elim
theorem c5W{t:TypeId}{fs:Array Field}(ht:P.underlying t=some (.struct fs)){r:Reach}{b:Nat}{v:Value}(hv:Value.okWide P W r b t v):v=.agg v.cells:=by
 unfold Value.okWide at hv
 rw [ht] at hv
 obtain ⟨cs,rfl,_⟩:=hv
 rfl
theorem c2n{t:TypeId}{v:Value}{d:DataW Hd}{ps:List MemPlace}(h:DataW.Trod enc P W 0 (λ_=>true) true t v d ps):∃n,DataW.trod enc P W 0 (λ_=>true) true n t v.cells.toList=some (d,ps):=h
theorem c8O{t:TypeId}(ht:P.underlying t=some (.int .i64)){n:Nat}{cs:List Value}{x:DataW Hd×List MemPlace}(h:DataW.trod enc P W 0 (λ_=>true) true n t cs=some x):∃z:Int,cs=[.int .i64 z]/\-9223372036854775808<=z/\z<=9223372036854775807:=by
 obtain ⟨z,rfl,_,hw⟩:=DataW.trod_int ht h
 have:=bounds_i64 hw
 exact ⟨z,rfl,this⟩
theorem d0y{t:TypeId}(ht:P.underlying t=some .string){n:Nat}{cs:List Value}{x:DataW Hd×List MemPlace}(h:DataW.trod enc P W 0 (λ_=>true) true n t cs=some x):∃s:BA,cs=[.string s]/\s.size < Rows.uptoBulk x.1:=by
 obtain ⟨s,rfl,rfl,_⟩:=DataW.trod_string ht h
 refine ⟨s,rfl,?_⟩
 show s.data.toList.length < Rows.uptoBulk (DataW.lit (H:=Hd) (.string s.data.toList))
 simp [Rows.uptoBulk]
theorem d5h{f:FuncId}{args:Array Value}{W:World}{Q:Value->Hp->List Frag->Prop}(h:Ct P f args.toList (hpW W) [] Q noQE):Calls P f args W λe W'=>∃v H' Fo,e=.returned v/\Below W.heap.size W W'/\Q v H' Fo:=by
 have hs:=h W (by
  have:=Inv.start W
  refine ⟨this.sub,this.own,this.priv,this.nodup,λp hp=>(by cases hp),λi hi _=>rfl,this.mono,rfl,rfl,rfl,Hle.refl _,λi _ _=>rfl⟩)
 refine Calls.mono hs λe W' r=>?_
 cases e with
 | returned v=>
  obtain ⟨H',Fo,I,q⟩:=r
  exact ⟨v,H',Fo,rfl,⟨I.os,I.tape,I.output,I.mono,λk hk=>I.frame k hk (λ⟨p,hp,_⟩=>by cases hp)⟩,q⟩
 | panicked c=>
  obtain ⟨H',Fo,I,q⟩:=r
  cases q
 | outgrown=>cases r
end
end Go.Proofs.YthjlehnccgjpoaaGreatDoor
