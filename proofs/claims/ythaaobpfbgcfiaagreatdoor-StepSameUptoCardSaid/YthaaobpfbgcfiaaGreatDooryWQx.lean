/- Well programs: uses gathered, the check; the law WellTurned. Contracts off the printed formulas. -/
import Derived.Test.YthaaobpfbgcfiaaGreatDooryWQw
namespace Go.Proofs.YthaaobpfbgcfiaaGreatDoor
open Go.RowKit
set_option maxRecDepth 100000
set_option maxHeartbeats 2000000
abbrev Wu:=g8
def asU(u:Us):Int:=if u.b6o=true then 2 else 1
def toW(u:Us):Wu:=⟨u.f8,asU u⟩
def gT(t:PT):List Wu:=(uT t).map toW
def gTs(ts:List PT):List Wu:=(uTs ts).map toW
theorem d1R{ts:List PT}{i:Nat}{t:PT}(h:ts[i]? = some t):gTs (ts.take (i+1))=gTs (ts.take i)++gT t:=by unfold gTs gT;rw [c3S h,List.map_append]
theorem b4r(a b:List PT):gTs (a++b)=gTs a++gTs b:=by unfold gTs;rw [b4q,List.map_append]
theorem d1S(t:PT):(gT t).length=(uT t).length:=by unfold gT;rw [List.length_map]
theorem b4s(ts:List PT):(gTs ts).length=(uTs ts).length:=by unfold gTs;rw [List.length_map]
theorem b7S(l:Lab)(cs:List PT):gT (.mk l cs)=(useL l).map toW++gTs cs:=by unfold gT gTs;rw [uT,List.map_append]
theorem b4t{ts:List PT}{i:Nat}{t:PT}(h:ts[i]? = some t):(gTs (ts.take i)).length+(gT t).length≤(gTs ts).length:=by
 rw [b4s,d1S,b4s];exact d3o h
theorem b3c{n:Nat}(h:n+1≤big){u:Wu}:(n+([u]:List Wu).length)*25≤140737488355328:=by
 simp only [big] at h;simp only [List.length_cons,List.length_nil];omega
section
variable {H:Hp}
theorem vloop{ts:List PT}{out:List Wu}{body:Int×List Wu→Hp→(Int×List Wu→Hp→Prop)→Prop}
  (hb:∀(i:Int)(cs:List Wu)(next:Int×List Wu→Hp→Prop),0≤i→i≤ts.length→cs=out++gTs (ts.take i.toNat)→(∀t,ts[i.toNat]? = some t→next (i+1,cs++gT t) H)→(ts.length≤i→cs=out++gTs ts)→body (i,cs) H next):TL ((0,out):Int×List Wu) H body:=by
 refine Z2 (fun(q:Int×List Wu) H'=>0≤q.1∧q.1≤ts.length∧H'=H∧q.2=out++gTs (ts.take q.1.toNat)) (fun q=>(ts.length-q.1).toNat) ⟨Int.le_refl _,by simp,rfl,by simp [gTs,uTs]⟩ ?_
 rintro ⟨i,cs⟩ H1 next ⟨i0,i1,rfl,hs⟩ hn
 dsimp only at i0 i1 hs ⊢
 refine hb i cs next i0 i1 hs (fun t ht=>?_) fun he=>?_
 ·have:=C3 ht
  refine hn _ _ ⟨by dsimp only;omega,by dsimp only;omega,rfl,?_⟩ (by dsimp only;omega)
  dsimp only
  rw [show (i+1).toNat=i.toNat+1 by omega,d1R ht,hs,List.append_assoc]
 ·rw [hs,List.take_of_length_le (by omega)]
theorem b9a{e:q8}{t:PT}(he:EH H e t){z:p7}{out:List Wu}(hb:out.length+(gT t).length≤big){K:p7→List Wu→Hp→Prop}(h:∀z,K z (out++gT t) H):T2 z out e H K:=by
 induction he generalizing z out K with
 | @mk e xs ts hs hxb hl _ ih=>
  refine a9J _ _ _ ?_
  have hn:(e.D9.n:Int)=(ts.length:Int):=by have:=hs.1;omega
  rw [b7S,List.length_append] at hb
  have go:∀out':List Wu,out'=out++(useL (.expr e.b8 e.s8 e.f8 ts.length)).map toW→M7 out' e H K:=by
   rintro out' rfl
   unfold M7
   rw [hn]
   refine vloop (ts:=ts) fun i cs next i0 i1 hcs hk hf=>?_
   unfold a0Q
   dsimp only
   refine ⟨fun hc=>?_,fun hc=>?_⟩
   ·obtain ⟨x,hx,hE⟩:=hs.get i0 (show i < (e.D9.n:Int) by omega)
    obtain ⟨t,ht⟩:=y7 (l:=ts) (i:=i.toNat) (by have:=C3 hx;omega)
    have:=b4t ht
    refine ⟨i0,by omega,x,hE,ih _ x t hx ht (by rw [hcs,List.length_append,List.length_append];omega) fun z=>?_⟩
    rw [D6 i0 (by simp only [big] at hxb;have:=C3 hx;omega)]
    exact hk t ht
   ·rw [hf (by omega),List.append_assoc]
    have:=h (p7.mk (Sl.mk none 0 0))
    rw [b7S] at this;exact this
  unfold a4T
  refine ⟨fun h2=>?_,fun h2=>⟨fun h4=>?_,fun h4=>go _ ?_⟩⟩
  ·have e2:(useL (.expr e.b8 e.s8 e.f8 ts.length)).map toW=[⟨e.f8,1⟩]:=by
    simp only [useL]
    rw [h2];rfl
   rw [e2] at hb
   exact ⟨b3c (by simp only [List.length_cons,List.length_nil] at hb;omega),go _ (by rw [e2])⟩
  ·have e2:(useL (.expr e.b8 e.s8 e.f8 ts.length)).map toW=[⟨e.f8,2⟩]:=by
    simp only [useL]
    rw [h4];rfl
   rw [e2] at hb
   exact ⟨b3c (by simp only [List.length_cons,List.length_nil] at hb;omega),go _ (by rw [e2])⟩
  ·have e2:(useL (.expr e.b8 e.s8 e.f8 ts.length)).map toW=[]:=by
    simp only [useL]
    rw [decide_eq_false h2,decide_eq_false h4];rfl
   rw [e2,List.append_nil]
theorem c5n{e:y9}{t:PT}(he:CH H e t){z:p7}{out:List Wu}(hb:out.length+(gT t).length≤big){K:p7→List Wu→Hp→Prop}(h:∀z,K z (out++gT t) H):Z8 z out e H K:=by
 induction he generalizing z out K with
 | @mk e xs ts ys us hs hxb hr hc hcb hcl _ ih=>
  refine a9K _ _ _ ?_
  have r0:=hr.1
  have hn:(e.t7.n:Int)=(ts.length:Int):=by have:=hs.1;omega
  have hm:(e.C7.n:Int)=(us.length:Int):=by have:=hc.1;omega
  have eg:gT (.mk (.cond e.b8 e.fOp ts.length us.length) (ts++us))=gTs ts++gTs us:=by rw [b7S,b4r];rfl
  rw [eg,List.length_append] at hb
  unfold a4U
  rw [hn]
  refine vloop (ts:=ts) fun i cs next i0 i1 hcs hk hf=>?_
  unfold a0U
  dsimp only
  refine ⟨fun hq=>?_,fun hq=>?_⟩
  ·obtain ⟨x,hx,hE⟩:=hs.get i0 (show i < (e.t7.n:Int) by omega)
   obtain ⟨t,ht⟩:=y7 (l:=ts) (i:=i.toNat) (by have:=C3 hx;omega)
   have:=b4t ht
   refine ⟨i0,by omega,x,hE,b9a (hr.2 _ x t hx ht) (by rw [hcs,List.length_append];omega) fun z=>?_⟩
   rw [D6 i0 (by simp only [big] at hxb;have:=C3 hx;omega)]
   exact hk t ht
  ·rw [hf (by omega)]
   clear hk hf next hcs cs hq
   unfold a0T
   rw [hm]
   refine vloop (ts:=us) fun i cs next i0 i1 hcs hk hf=>?_
   unfold a0S
   dsimp only
   refine ⟨fun hq=>?_,fun hq=>?_⟩
   ·obtain ⟨x,hx,hE⟩:=hc.get i0 (show i < (e.C7.n:Int) by omega)
    obtain ⟨t,ht⟩:=y7 (l:=us) (i:=i.toNat) (by have:=C3 hx;omega)
    have:=b4t ht
    refine ⟨i0,by omega,x,hE,ih _ x t hx ht (by rw [hcs,List.length_append,List.length_append];omega) fun z=>?_⟩
    rw [D6 i0 (by simp only [big] at hcb;have:=C3 hx;omega)]
    exact hk t ht
   ·rw [hf (by omega),List.append_assoc]
    have:=h (p7.mk (Sl.mk none 0 0))
    rw [eg] at this;exact this
def StW(H:Hp)(x:B4)(t:PT):Prop:=∀(s10:Sl)(s11 i:Int)(cs:List Wu)(n1:Int×List Wu→Hp→Prop)(K:p7→List Wu→Hp→Prop),cs.length+(gTs t.kids).length≤big→n1 (IntKind.wrap .i64 (i+1),cs++gTs t.kids) H→M1 s10 s11 i cs x H n1 K
theorem b3V{s:Sl}{xs:List B4}{ts:List PT}(hs:SlH H 6 p8 s xs)(hxb:xs.length≤big)(hl:xs.length=ts.length)(hr:∀(i:Nat)(x:B4)(t:PT),xs[i]? = some x→ts[i]? = some t→SH H x t)(ih:∀(i:Nat)(x:B4)(t:PT),xs[i]? = some x→ts[i]? = some t→StW H x t)
  {z:p7} {out:List Wu} (hb:out.length+(gTs ts).length≤big) {K:p7→List Wu→Hp→Prop} (h:∀z,K z (out++gTs ts) H):Q9 z out s H K:=by
 refine a9c _ _ _ ?_
 unfold a4t
 have n1:=hs.1
 refine vloop (ts:=ts) fun i cs next i0 i1 hcs hk hf=>?_
 unfold a0A
 dsimp only
 refine ⟨fun hq=>?_,fun hq=>?_⟩
 ·obtain ⟨x,hx,hE⟩:=hs.get i0 hq
  obtain ⟨t,ht⟩:=y7 (l:=ts) (i:=i.toNat) (by have:=C3 hx;omega)
  have hin:=b4t ht
  have hut:gT t=(useL t.lab).map toW++gTs t.kids:=by cases t;rw [b7S];rfl
  rw [hut,List.length_append] at hin
  have hlab:useL t.lab=if (decide (x.b8=1)||decide (x.b8=2))=true then [⟨x.f8,decide (x.b8=2)⟩] else []:=by
   cases hr _ x t hx ht;rfl
  have hcl:cs.length=out.length+(gTs (ts.take i.toNat)).length:=by rw [hcs,List.length_append]
  have hkt:=hk t ht
  rw [hut,← List.append_assoc,← D6 i0 (by simp only [big] at hxb;have:=C3 hx;omega)] at hkt
  refine ⟨i0,hq,x,hE,fun h1=>?_,fun h1=>⟨fun h2=>?_,fun h2=>?_⟩⟩
  ·have e2:(useL t.lab).map toW=[⟨x.f8,1⟩]:=by rw [hlab,h1];rfl
   rw [e2] at hin hkt
   simp only [List.length_cons,List.length_nil] at hin
   exact ⟨b3c (by omega),ih _ x t hx ht _ _ _ _ _ _ (by simp only [List.length_append,List.length_cons,List.length_nil];omega) hkt⟩
  ·have e2:(useL t.lab).map toW=[⟨x.f8,2⟩]:=by rw [hlab,h2];rfl
   rw [e2] at hin hkt
   simp only [List.length_cons,List.length_nil] at hin
   exact ⟨b3c (by omega),ih _ x t hx ht _ _ _ _ _ _ (by simp only [List.length_append,List.length_cons,List.length_nil];omega) hkt⟩
  ·have e2:(useL t.lab).map toW=[]:=by rw [hlab,decide_eq_false h1,decide_eq_false h2];rfl
   rw [e2] at hin hkt
   rw [List.append_nil] at hkt
   exact ih _ x t hx ht _ _ _ _ _ _ (by simp only [List.length_nil] at hin;omega) hkt
 ·rw [hf (by omega)]
  exact h _
theorem d1T{x:B4}{t:PT}(hx:SH H x t):StW H x t:=by
 induction hx with
 | @mk e xs ts ys us zs bs vs ws hs hb hr hc hcb hcr ha hab hal har hbs hbb hbl hbr iha ihb=>
  intro s10 s11 i9 cs0 n1 K hlen h
  change n1 (_,cs0++gTs (us++(ts++(vs++ws)))) H at h
  change cs0.length+(gTs (us++(ts++(vs++ws)))).length≤big at hlen
  rw [b4r,b4r,b4r] at h hlen
  simp only [List.length_append] at hlen
  have r0:=hr.1
  have r1:=hcr.1
  unfold M1
  refine vloop (ts:=us) fun i cs next i0 i1 hcs hk hf=>?_
  unfold a0z
  dsimp only
  refine ⟨fun hq=>?_,fun hq=>?_⟩
  ·obtain ⟨x,hx,hE⟩:=hc.get i0 hq
   obtain ⟨t,ht⟩:=y7 (l:=us) (i:=i.toNat) (by have:=C3 hx;omega)
   have:=b4t ht
   refine ⟨i0,hq,x,hE,c5n (hcr.2 _ x t hx ht) (by rw [hcs,List.length_append];omega) fun z=>?_⟩
   rw [D6 i0 (by simp only [big] at hcb;have:=C3 hx;omega)]
   exact hk t ht
  ·rw [hf (by have:=hc.1;omega)]
   clear hk hf next hcs cs hq
   unfold a0y
   refine vloop (ts:=ts) fun i cs next i0 i1 hcs hk hf=>?_
   unfold a0x
   dsimp only
   refine ⟨fun hq=>?_,fun hq=>?_⟩
   ·obtain ⟨x,hx,hE⟩:=hs.get i0 hq
    obtain ⟨t,ht⟩:=y7 (l:=ts) (i:=i.toNat) (by have:=C3 hx;omega)
    have:=b4t ht
    refine ⟨i0,hq,x,hE,b9a (hr.2 _ x t hx ht) (by rw [hcs,List.length_append,List.length_append];omega) fun z=>?_⟩
    rw [D6 i0 (by simp only [big] at hb;have:=C3 hx;omega)]
    exact hk t ht
   ·rw [hf (by have:=hs.1;omega)]
    unfold a0w
    refine b3V ha hab hal har iha (by simp only [List.length_append];omega) fun z=>?_
    refine b3V hbs hbb hbl hbr ihb (by simp only [List.length_append];omega) fun z=>?_
    unfold a0v
    simp only [List.append_assoc]
    exact h
end
def useT(ds:List j7):List Us→ByteArray×Int
 | []=>(⟨#[]⟩,0)
 | u::r=>if kOf ds u.f8=asU u then useT ds r else if kOf ds u.f8=0 then (u.f8,63) else (u.f8,64)
def wellS(q:PP):ByteArray×Int:=
 if toldS q.nodes=0 then (match declT [] q.decls with | some r=>r | none=>useT q.decls (uTs q.body)) else (⟨#[]⟩,toldS q.nodes)
theorem b7B(ds:List j7)(l:List Us)(h:∀u∈l,kOf ds u.f8=asU u)(r:List Us):useT ds (l++r)=useT ds r:=by
 induction l with
 | nil=>rfl
 | cons u l ih=>
  rw [List.cons_append,useT,if_pos (h u List.mem_cons_self)]
  exact ih fun v hv=>h v (List.mem_cons_of_mem _ hv)
section
variable {H:Hp}
theorem c0T(hT:TabsH H){p:z8}{q:PP}(hp:PH H p q)(hsm:q.Sm){K:ByteArray→Int→Hp→Prop}(h:∀H',Hle H H'→K (wellS q).1 (wellS q).2 H'):a7S p H K:=by
 refine b3o _ ?_
 unfold a7X
 unfold wellS at h
 refine c5c hT hp hsm fun H1 l1=>?_
 rw [show vEnd (allV q)=toldS q.nodes from c8n _]
 refine ⟨fun hne=>by have:=h H1 l1;rw [if_neg hne] at this;exact this,fun h0=>?_⟩
 rw [if_pos h0] at h
 have hcnt:=c8s (c5i h0).1
 have hul:=b6U q.body
 have hcb:cTs q.body≤4096:=by unfold PP.nodes at hcnt;rw [a9W] at hcnt;omega
 obtain ⟨hd,hbd,xs,hsl,hxb,hr⟩:=hp.le l1
 refine b9Y hd hbd (fun n e hde=>⟨fun hne=>?_,fun he0=>?_⟩) fun hdn x H2 kvs l2 hM hkv=>⟨fun e=>(e rfl).elim,fun _=>?_⟩
 ·have:=h H1 l1;rw [hde] at this;exact this
 ·exfalso
  have:∀(l pre:List j7),declT pre l=some (n,e)→e≠0:=by
   intro l
   induction l with
   | nil=>intro pre hq;rw [declT] at hq;cases hq
   | cons d l ih=>
    intro pre hq
    rw [declT] at hq
    split at hq
    ·cases hq;decide
    ·split at hq
     ·cases hq;decide
     ·split at hq
      ·cases hq;decide
      ·exact ih _ hq
  exact this _ _ hde he0
 ·rw [hdn] at h
  dsimp only at h
  have l12:=l1.trans l2
  refine b3V (hsl.le l2) hxb hr.1 (fun i x t a b=>SH.le l2 (hr.2 i x t a b)) (fun i x t a b=>d1T (SH.le l2 (hr.2 i x t a b))) (by rw [b4s];simp only [List.length_nil,big];omega) fun z=>?_
  rw [List.nil_append]
  have gl:=b4s q.body
  refine Z2 (fun(z:Int×ByteArray×Int) H'=>z.1=0∧z.2.1=⟨#[]⟩∧0≤z.2.2∧z.2.2≤(uTs q.body).length∧H'=H2∧∀u∈(uTs q.body).take z.2.2.toNat,kOf q.decls u.f8=asU u) (fun z=>((uTs q.body).length-z.2.2).toNat) ⟨rfl,rfl,Int.le_refl _,by dsimp only;omega,rfl,fun u hu=>by simp at hu⟩ ?_
  rintro ⟨a,b,i⟩ H3 next ⟨ha,hb,i0,i1,rfl,hi⟩ hk
  dsimp only at ha hb i0 i1 hi ⊢
  subst ha;subst hb
  unfold a6H
  refine ⟨fun hq=>?_,fun hq=>?_⟩
  ·obtain ⟨u,hu⟩:=y7 (l:=uTs q.body) (i:=i.toNat) (by omega)
   have hlt:=C3 hu
   have hg:(gTs q.body)[i.toNat]? = some (toW u):=by unfold gTs;rw [List.getElem?_map,hu];rfl
   have hdrop:(uTs q.body).drop i.toNat=u::(uTs q.body).drop (i.toNat+1):=by
    rw [List.drop_eq_getElem_cons hlt];congr 1
    rw [List.getElem?_eq_getElem hlt] at hu;exact Option.some.inj hu
   have hall:useT q.decls (uTs q.body)=useT q.decls (u::(uTs q.body).drop (i.toNat+1)):=by
    have:=b7B q.decls ((uTs q.body).take i.toNat) hi ((uTs q.body).drop i.toNat)
    rw [List.take_append_drop,hdrop] at this;exact this
   have h':=h H3 l12
   rw [hall,useT] at h'
   refine ⟨i0,toW u,hg,kvs,hM,?_⟩
   show ((lk u.f8 kvs).getD 0=asU u→_)∧(¬((lk u.f8 kvs).getD 0=asU u)→((lk u.f8 kvs).getD 0=0→_)∧(¬((lk u.f8 kvs).getD 0=0)→_))
   rw [hkv]
   refine ⟨fun e=>?_,fun e=>⟨fun e2=>?_,fun e2=>?_⟩⟩
   ·rw [D6 i0 (by omega)]
    refine hk _ _ ⟨rfl,rfl,by dsimp only;omega,by dsimp only;omega,rfl,fun v hv=>?_⟩ (by dsimp only;omega)
    dsimp only at hv
    rw [show (i+1).toNat=i.toNat+1 by omega,L0 hu] at hv
    rcases List.mem_append.1 hv with hv | hv
    ·exact hi v hv
    ·rw [List.mem_singleton.1 hv];exact e
   ·rw [if_neg e,if_pos e2] at h';exact h'
   ·rw [if_neg e,if_neg e2] at h';exact h'
  ·have h':=h H3 l12
   have:=b7B q.decls (uTs q.body) (by rw [List.take_of_length_le (by omega)] at hi;exact hi) []
   rw [List.append_nil] at this
   rw [this] at h'
   exact h'
end
def DeclOk(l:List j7):Prop:=(l.map (·.f8)).Nodup∧(∀d∈l,d.C1≤1024)∧nk l 1≤32∧nk l 2≤16
theorem b7C:∀(r pre:List j7),DeclOk pre→(declT pre r=none↔DeclOk (pre++r))
 | [],pre,h=>by rw [declT,List.append_nil];exact ⟨fun _=>h,fun _=>rfl⟩
 | d::r,pre,h=>by
  have hd:=b1z d
  obtain ⟨h1,h2,h3,h4⟩:=h
  rw [declT]
  by_cases c1:hasN pre d.f8=true
  ·rw [if_pos c1]
   refine ⟨(fun e=>by cases e),fun e=>?_⟩
   exfalso
   have:=e.1
   rw [List.map_append,List.map_cons,List.nodup_append] at this
   exact this.2.2 d.f8 (a2S.1 c1) d.f8 List.mem_cons_self rfl
  ·rw [if_neg c1]
   by_cases c2:1024 < d.C1
   ·rw [if_pos c2]
    refine ⟨(fun e=>by cases e),fun e=>?_⟩
    have:=e.2.1 d (List.mem_append_right _ List.mem_cons_self)
    omega
   ·rw [if_neg c2]
    by_cases c3:lim (kindD d) < nk (pre++[d]) (kindD d)
    ·rw [if_pos c3]
     refine ⟨(fun e=>by cases e),fun e=>?_⟩
     exfalso
     have e':nk (pre++d::r) (kindD d)≤lim (kindD d):=by
      rcases hd with q | q
      ·rw [q];exact e.2.2.1
      ·rw [q];exact e.2.2.2
     rw [show pre++d::r=(pre++[d])++r by simp,b1T] at e'
     omega
    ·rw [if_neg c3]
     have hpre:DeclOk (pre++[d]):=by
      refine ⟨?_,?_,?_,?_⟩
      ·rw [List.map_append,List.nodup_append]
       refine ⟨h1,by simp,fun a ha b hb e=>?_⟩
       rw [List.map_cons,List.map_nil,List.mem_singleton] at hb
       rw [e,hb] at ha
       exact c1 (a2S.2 ha)
      ·intro x hx
       rcases List.mem_append.1 hx with hx | hx
       ·exact h2 x hx
       ·rw [List.mem_singleton.1 hx];omega
      ·rcases hd with q | q
       ·rw [q] at c3;simp only [lim] at c3
        rw [if_neg (by decide)] at c3;omega
       ·rw [b1T,b3U,q,if_neg (by decide)];omega
      ·rcases hd with q | q
       ·rw [b1T,b3U,q,if_neg (by decide)];omega
       ·rw [q] at c3;simp only [lim] at c3
        rw [if_pos (by decide)] at c3;omega
     rw [b7C r (pre++[d]) hpre,show pre++d::r=(pre++[d])++r by simp]
theorem b9b(l:List j7):declT [] l=none↔DeclOk l:=b7C l [] ⟨List.nodup_nil,(fun d h=>by cases h),Nat.zero_le _,Nat.zero_le _⟩
theorem nz{n:Int}(h:n≠0){s:ByteArray}:((s,n):ByteArray×Int).2≠0:=h
theorem c5o{l pre:List j7}{r:ByteArray×Int}(h:declT pre l=some r):r.2≠0:=by
 induction l generalizing pre with
 | nil=>rw [declT] at h;cases h
 | cons d l ih=>
  rw [declT] at h
  split at h
  ·cases h;exact nz (by decide)
  ·split at h
   ·cases h;exact nz (by decide)
   ·split at h
    ·cases h;exact nz (by decide)
    ·exact ih h
section
variable {H:Hp}
end
end Go.Proofs.YthaaobpfbgcfiaaGreatDoor
