/- What is known of graphs; asserts: as many edges pass and fail. Contracts off the printed formulas. -/
import Derived.Test.YtaokfhdinhimfaaGreatDooryCH5
namespace Go.Proofs.YtaokfhdinhimfaaGreatDoor
open Go.RowKit
set_option maxRecDepth 100000
set_option maxHeartbeats 2000000
section
variable {H:Hp}
def sk1:PT:=.mk (.stmt 7 ⟨#[]⟩ 0 0 0 0) []
def kn9:PP:=⟨[],[sk1]⟩
theorem c9B:loE kn9=0∧loS kn9=⟨2,0,[bareE 0 1 1]⟩∧exS kn9=1:=⟨by kernel_rfl,by kernel_rfl,by kernel_rfl⟩
theorem c9C:kn9.Sm:=by
 intro t ht
 rcases List.mem_cons.1 ht with e | ht
 ·rw [e];exact .mk (by decide) fun t ht=>by cases ht
 ·cases ht
theorem c9D(H:Hp):SH H (u5.mk 7 ⟨#[]⟩ (Sl.mk none 0 0) (Sl.mk none 0 0) (Sl.mk none 0 0) (Sl.mk none 0 0)) sk1:=
 SH.mk (ts:=[]) (us:=[]) (vs:=[]) (ws:=[]) (s:=u5.mk 7 ⟨#[]⟩ (Sl.mk none 0 0) (Sl.mk none 0 0) (Sl.mk none 0 0) (Sl.mk none 0 0)) (SlH.nil _ _ _) (Nat.zero_le _) J9.nil (SlH.nil _ _ _) (Nat.zero_le _) J9.nil (SlH.nil _ _ _) (Nat.zero_le _) rfl (fun i x t h=>by simp at h) (SlH.nil _ _ _) (Nat.zero_le _) rfl (fun i x t h=>by simp at h)
theorem c3k(hT:TabsH H){K:Bool→Hp→Prop}(h:∀H',Hle H H'→K true H'):a2w H K:=by
 refine a9m ?_
 unfold a2P
 intro s H1 l1 hS _
 obtain ⟨k1,k2,k3⟩:=c9B
 refine c4s (hT.le l1) (q:=kn9) ⟨SlH.nil _ _ _,Nat.zero_le _,_,hS,by simp [big],J9.one (c9D _)⟩ c9C (fun e=>(e k1).elim) fun _ c H2 l2 hc=>?_
 obtain ⟨F,hrow,hF,_⟩:=hc.e
 have he:=hrow.frozen (by decide) hF
 rw [k2] at he
 have hn:c.m4.n=1:=he.1
 refine ⟨bareE 0 1 1,fun _=>⟨by omega,by omega,he.2 0 _ rfl⟩,?_⟩
 have e1:c.c6=2:=by rw [hc.p,k2]
 have e2:c.p9=1:=by rw [hc.x,k3]
 have:=h H2 (l1.trans l2)
 simpa [e1,e2,hn] using this
def cnt(k:Int)(es:List Ed):Nat:=(es.filter fun e=>decide (e.d3=k)).length
structure Sc (g g':Gr):Prop where
 e:∀k:Int,k=13∨k=14→cnt k g'.es=cnt k g.es
theorem Sc.trans{a b c:Gr}(h:Sc a b)(k:Sc b c):Sc a c:=⟨fun n hn=>(k.e n hn).trans (h.e n hn)⟩
theorem Sc.same{a b:Gr}(h:b.es=a.es):Sc a b:=⟨fun n _=>by rw [h]⟩
structure Nc (f:Fs):Prop where
 into:∀dst a b d g,Sc g (f.into dst a b d g)
 co:∀a b c g,Sc g (f.co a b c g)
def lbA:Lab→Nat
 | .stmt k _ _ _ _ _=>if k=5 then 1 else 0
 | _=>0
mutual
def aT:PT→Nat
 | .mk l cs=>lbA l+aTs cs
def aTs:List PT→Nat
 | []=>0
 | t::ts=>aT t+aTs ts
end
theorem c0q:∀a b:List PT,aTs (a++b)=aTs a+aTs b
 | [],b=>by rw [List.nil_append,aTs,Nat.zero_add]
 | t::a,b=>by rw [List.cons_append,aTs,aTs,c0q a b,Nat.add_assoc]
theorem b7n:∀{ts:List PT}(_:∀t∈ts,aT t=0),aTs ts=0
 | [],_=>by rw [aTs]
 | t::ts,h=>by rw [aTs,h t (List.mem_cons_self ..),b7n fun u hu=>h u (List.mem_cons_of_mem _ hu)]
theorem b6u{α:Type}{R:α→PT→Prop}{xs:List α}{ts:List PT}{P:PT→Prop}(hl:xs.length=ts.length)(h:∀(i:Nat)(x:α)(t:PT),xs[i]? = some x→ts[i]? = some t→P t):∀t∈ts,P t:=fun t ht=>by
 obtain ⟨i,hi,rfl⟩:=List.mem_iff_getElem.1 ht
 exact h i xs[i] _ (List.getElem?_eq_getElem (by omega)) (List.getElem?_eq_getElem hi)
theorem EH.a0{e:q8}{t:PT}(h:EH H e t):aT t=0:=by
 induction h with
 | mk _ _ hl _ ih=>rw [aT,b7n (b6u (R:=fun _ _=>True) hl ih)];rfl
theorem CH.a0{e:v2}{t:PT}(h:CH H e t):aT t=0:=by
 induction h with
 | mk _ _ hr _ _ hl _ ih=>
  rw [aT,c0q,b7n (b6u (R:=fun _ _=>True) hl ih),b7n (b6u (R:=fun _ _=>True) hr.1 fun i x t hx ht=>(hr.2 i x t hx ht).a0)];rfl
structure Ac (n:Nat) (g g':Gr):Prop where
 e:∀k:Int,k=13∨k=14→cnt k g'.es=cnt k g.es+n
theorem Ac.trans{n m:Nat}{a b c:Gr}(h:Ac n a b)(k:Ac m b c):Ac (n+m) a c:=⟨fun i hi=>by rw [k.e i hi,h.e i hi,Nat.add_assoc]⟩
theorem Sc.ac{a b:Gr}(h:Sc a b):Ac 0 a b:=⟨fun k hk=>by rw [h.e k hk];rfl⟩
theorem Ac.same{n m:Nat}{a b:Gr}(h:Ac n a b)(e:n=m):Ac m a b:=by rw [←e];exact h
end
end Go.Proofs.YtaokfhdinhimfaaGreatDoor
