/- Which names a program has; the document's check of a program, its size, its names. The law TreeChecks. -/
import Derived.Test.YtnhdnncbjddmjaaGreatDooryEQ8
namespace Go.Proofs.YtnhdnncbjddmjaaGreatDoor
open Go.RowKit
set_option maxRecDepth 100000
set_option maxHeartbeats 2000000
structure Us where
 f4:ByteArray
 c1i:Bool
mutual
def cT:PT→Nat
 | .mk _ cs=>1+cTs cs
def cTs:List PT→Nat
 | []=>0
 | t::ts=>cT t+cTs ts
end
theorem a6R:∀a b:List PT,cTs (a++b)=cTs a+cTs b
 | [],b=>by rw [List.nil_append,cTs,Nat.zero_add]
 | t::a,b=>by rw [List.cons_append,cTs,cTs,a6R a b,Nat.add_assoc]
mutual
theorem b5q:∀(t:PT)(d:Int)(s:W),(wT t d s).fbad=0→(wT t d s).fn=s.fn+cT t
 | .mk l cs,d,s,h=>by
  rw [wT] at h ⊢
  rw [b3a cs _ _ h,cT]
  have hb:(wStep s d).fbad=0:=by
   by_cases hq:(wStep s d).fbad=0
   ·exact hq
   ·rw [a0T _ _ _ hq] at h;exact h
  unfold wStep at hb ⊢
  split at hb
  ·rename_i h1
   rw [if_pos h1]
   split at hb
   ·cases hb
   ·rename_i h2
    rw [if_neg h2]
    split at hb
    ·cases hb
    ·rename_i h3
     rw [if_neg h3];dsimp only;omega
  ·rename_i h1;exact (h1 hb).elim
theorem b3a:∀(ts:List PT)(d:Int)(s:W),(wTs ts d s).fbad=0→(wTs ts d s).fn=s.fn+cTs ts
 | [],d,s,h=>by rw [wTs,cTs];simp
 | t::ts,d,s,h=>by
  rw [wTs] at h ⊢
  rw [b3a ts _ _ h,cTs]
  have hb:(wT t d s).fbad=0:=by
   by_cases hq:(wT t d s).fbad=0
   ·exact hq
   ·rw [a0T _ _ _ hq] at h;exact h
  rw [b5q t d s hb];omega
end
inductive Nd:PT→Prop
 | mk {l:Lab} {cs:List PT}:(∀z s,l≠.decl z s)→(∀t∈cs,Nd t)→Nd (.mk l cs)
theorem a6h{α:Type}{R:α→PT→Prop}{xs:List α}{ts:List PT}(hl:xs.length=ts.length)(h:∀(i:Nat)(x:α)(t:PT),xs[i]? = some x→ts[i]? = some t→Nd t):∀t∈ts,Nd t:=fun t ht=>by
 obtain ⟨i,hi⟩:=List.mem_iff_getElem?.1 ht
 obtain ⟨x,hx⟩:=A0 (l:=xs) (i:=i) (by rw [hl];exact t8 hi)
 exact h i x t hx hi
theorem a9i{a b:List PT}(ha:∀t∈a,Nd t)(hb:∀t∈b,Nd t):∀t∈a++b,Nd t:=fun t h=>(List.mem_append.1 h).elim (ha t) (hb t)
theorem EH.nd{H:Hp}{e:d8}{t:PT}(h:EH H e t):Nd t:=by
 induction h with
 | mk hs hb hl _ ih=>exact .mk (fun z s e=>by cases e) (a6h (R:=EH H) hl ih)
theorem CH.nd{H:Hp}{e:f9}{t:PT}(h:CH H e t):Nd t:=by
 induction h with
 | mk hs hb hr hc hcb hl _ ih=>exact .mk (fun z s e=>by cases e) (a9i (a6h (R:=EH H) hr.1 fun i x t a b=>(hr.2 i x t a b).nd) (a6h (R:=CH H) hl ih))
theorem SH.nd{H:Hp}{e:i6}{t:PT}(h:SH H e t):Nd t:=by
 induction h with
 | mk hs hb hr hc hcb hcr ha hab hal _ hbs hbb hbl _ ih1 ih2=>
  exact .mk (fun z s e=>by cases e) (a9i (a6h (R:=CH H) hcr.1 fun i x t a b=>(hcr.2 i x t a b).nd) (a9i (a6h (R:=EH H) hr.1 fun i x t a b=>(hr.2 i x t a b).nd) (a9i (a6h (R:=SH H) hal ih1) (a6h (R:=SH H) hbl ih2))))
section
variable {H:Hp}
theorem b6g{e:i6}{t:PT}(he:SH H e t){f:Fm}{K:Fm→Hp→Prop}(h:∀y,FR f (formT t) (namesT t) y→K y H):K0 f e H K:=by
 induction he generalizing f K with
 | @mk e xs ts ys us zs bs vs ws hs hb hr hc hcb hcr ha hab hal har hbs hbb hbl hbr iha ihb=>
  refine a4w _ _ ?_
  have r0:=hr.1
  have r1:=hcr.1
  have n1:(e.f0.n:Int)=(ts.length:Int):=by have:=hs.1;omega
  have n2:(e.m7.n:Int)=(us.length:Int):=by have:=hc.1;omega
  have n3:(e.D1.n:Int)=(vs.length:Int):=by have:=ha.1;omega
  have n4:(e.A6.n:Int)=(ws.length:Int):=by have:=hbs.1;omega
  have fin:∀(i:Int)(s:Fm)(n:Int)(m:Nat),n=(m:Int)→(decide (i < n)&&s.fok)=false→((m:Int)≤i∨s.fok=false):=by
   intro i s n m hn hc
   by_cases hlt:i < n
   ·right
    cases hq:s.fok
    ·rfl
    ·rw [hq,decide_eq_true hlt] at hc;cases hc
   ·left;omega
  have j1:∀(e' c':Int)(f':Fm),f'.fnames=f.fnames→(((((f'.fok&&((decide (e.b8=1)||decide (e.b8=2))||decide (e.f4=⟨#[]⟩)))&&decide ((ts.length:Int)=e'))&&decide ((us.length:Int)=c'))&&((decide ((vs.length:Int)=0)||decide (e.b8=3))||decide (e.b8=4)))&&(decide ((ws.length:Int)=0)||decide (e.b8=3)))=(f.fok&&formS e.b8 e.f4 (ts.length:Int) (us.length:Int) (vs.length:Int) (ws.length:Int))→q6 e' c' e f' H K:=by
   intro e' c' f' hf heq
   unfold q6
   refine a8O ?_
   refine floop (ts:=us) fun i s next i0 i1 hk hf'=>?_
   unfold S3
   refine ⟨fun hq=>?_,fun hq=>?_⟩
   ·obtain ⟨hq1,hq2⟩:=a3W.1 hq
    obtain ⟨x,hx,hE⟩:=hc.get i0 hq1
    obtain ⟨t,ht⟩:=A0 (l:=us) (i:=i.toNat) (by have:=t8 hx;omega)
    refine ⟨i0,hq1,x,hE,b6e (hcr.2 _ x t hx ht) fun y hy=>?_⟩
    rw [u5 i0 (by simp only [big] at hcb;have:=t8 hx;omega)]
    exact hk t ht hq2 y hy
   ·have hfin:=hf' (fin i s _ _ n2 hq)
    have F1:FR f (formS e.b8 e.f4 (ts.length:Int) (us.length:Int) (vs.length:Int) (ws.length:Int)&&formTs us) (nameOk (.stmt e.b8 e.f4 ts.length us.length vs.length ws.length)&&namesTs us) s:=by
     refine FR.trans (g:=⟨_,_⟩) ⟨?_,fun _=>?_⟩ hfin
     ·show (((((f'.fok&&_)&&decide ((e.f0.n:Int)=e'))&&decide ((e.m7.n:Int)=c'))&&((decide ((e.D1.n:Int)=0)||_)||_))&&(decide ((e.A6.n:Int)=0)||_))=_
      rw [n1,n2,n3,n4];exact heq
     ·show (f'.fnames&&_)=_
      rw [hf];rfl
    clear hk hf' next hq hfin
    unfold M2
    refine floop (ts:=ts) fun i s2 next i0 i1 hk hf'=>?_
    unfold S2
    refine ⟨fun hq=>?_,fun hq=>?_⟩
    ·obtain ⟨hq1,hq2⟩:=a3W.1 hq
     obtain ⟨x,hx,hE⟩:=hs.get i0 hq1
     obtain ⟨t,ht⟩:=A0 (l:=ts) (i:=i.toNat) (by have:=t8 hx;omega)
     refine ⟨i0,hq1,x,hE,b2n (hr.2 _ x t hx ht) fun y hy=>?_⟩
     rw [u5 i0 (by simp only [big] at hb;have:=t8 hx;omega)]
     exact hk t ht hq2 y hy
    ·have F2:=F1.trans (hf' (fin i s2 _ _ n1 hq))
     clear hk hf' next hq
     unfold M1
     refine floop (ts:=vs) fun i s3 next i0 i1 hk hf'=>?_
     unfold S1
     refine ⟨fun hq=>?_,fun hq=>?_⟩
     ·obtain ⟨hq1,hq2⟩:=a3W.1 hq
      obtain ⟨x,hx,hE⟩:=ha.get i0 hq1
      obtain ⟨t,ht⟩:=A0 (l:=vs) (i:=i.toNat) (by have:=t8 hx;omega)
      refine ⟨i0,hq1,x,hE,iha _ x t hx ht fun y hy=>?_⟩
      rw [u5 i0 (by simp only [big] at hab;have:=t8 hx;omega)]
      exact hk t ht hq2 y hy
     ·have F3:=F2.trans (hf' (fin i s3 _ _ n3 hq))
      clear hk hf' next hq
      unfold M0
      refine floop (ts:=ws) fun i s4 next i0 i1 hk hf'=>?_
      unfold R9
      refine ⟨fun hq=>?_,fun hq=>?_⟩
      ·obtain ⟨hq1,hq2⟩:=a3W.1 hq
       obtain ⟨x,hx,hE⟩:=hbs.get i0 hq1
       obtain ⟨t,ht⟩:=A0 (l:=ws) (i:=i.toNat) (by have:=t8 hx;omega)
       refine ⟨i0,hq1,x,hE,ihb _ x t hx ht fun y hy=>?_⟩
       rw [u5 i0 (by simp only [big] at hbb;have:=t8 hx;omega)]
       exact hk t ht hq2 y hy
      ·have F4:=F3.trans (hf' (fin i s4 _ _ n4 hq))
       refine h _ ?_
       rw [formT,namesT,M9,M9,M9,a1S,a1S,a1S]
       simp only [Bool.and_assoc] at F4 ⊢
       exact F4
  have eqv:∀(e' c':Int),(e.b8=1∧e'=1∧c'=0∨e.b8=2∧e'=2∧c'=0∨(e.b8=3∨e.b8=4∨e.b8=5∨e.b8=6)∧e'=0∧c'=1∨e.b8=7∧e'=0∧c'=0)→(((((f.fok&&((decide (e.b8=1)||decide (e.b8=2))||decide (e.f4=⟨#[]⟩)))&&decide ((ts.length:Int)=e'))&&decide ((us.length:Int)=c'))&&((decide ((vs.length:Int)=0)||decide (e.b8=3))||decide (e.b8=4)))&&(decide ((ws.length:Int)=0)||decide (e.b8=3)))=(f.fok&&formS e.b8 e.f4 (ts.length:Int) (us.length:Int) (vs.length:Int) (ws.length:Int)):=by
   intro e' c' hk
   simp only [Bool.and_assoc]
   congr 1
   rw [Bool.eq_iff_iff]
   generalize (ts.length:Int)=a
   generalize (us.length:Int)=b
   have hv:(0:Int)≤(vs.length:Int):=by omega
   have hw:(0:Int)≤(ws.length:Int):=by omega
   generalize (vs.length:Int)=c at hv ⊢
   generalize (ws.length:Int)=d at hw ⊢
   generalize e.b8=k at hk ⊢
   by_cases hsn:e.f4=⟨#[]⟩
   all_goals
    unfold formS
    rcases hk with ⟨rfl,rfl,rfl⟩ | ⟨rfl,rfl,rfl⟩ | ⟨rfl | rfl | rfl | rfl,rfl,rfl⟩ | ⟨rfl,rfl,rfl⟩<;>simp [hsn]<;>omega
  have no:¬(e.b8=1∨e.b8=2∨e.b8=3∨e.b8=4∨e.b8=5∨e.b8=6∨e.b8=7)→formS e.b8 e.f4 (ts.length:Int) (us.length:Int) (vs.length:Int) (ws.length:Int)=false:=by
   intro hk
   unfold formS
   rw [if_neg (by omega),if_neg (by omega),if_neg (by omega),if_neg (by omega),if_neg (by omega),if_neg (by omega)]
  have j9:∀b:Bool,(b=true↔(e.b8=3∨e.b8=4∨e.b8=5∨e.b8=6))→¬(e.b8=1∨e.b8=2)→u1 0 0 e.b8 b e f H K:=by
   intro b hq hno
   unfold u1
   refine ⟨fun q=>j1 0 1 f rfl (eqv 0 1 (.inr (.inr (.inl ⟨hq.1 q,rfl,rfl⟩)))),fun q=>⟨fun e7=>j1 0 0 f rfl (eqv 0 0 (.inr (.inr (.inr ⟨e7,rfl,rfl⟩)))),fun e7=>j1 0 0 _ rfl ?_⟩⟩
   have:=mt hq.2 (by rw [q];decide)
   rw [no (by omega),Bool.and_false];rfl
  unfold W6
  refine ⟨fun e1=>j1 1 0 f rfl (eqv 1 0 (.inl ⟨e1,rfl,rfl⟩)),fun e1=>⟨fun e2=>j1 2 0 f rfl (eqv 2 0 (.inr (.inl ⟨e2,rfl,rfl⟩))),fun e2=>⟨fun e3=>j9 _ ?_ (by omega),fun e3=>⟨fun e4=>j9 _ ?_ (by omega),fun e4=>⟨fun e5=>j9 _ ?_ (by omega),fun e5=>j9 _ ?_ (by omega)⟩⟩⟩⟩⟩<;>(rw [decide_eq_true_eq];omega)
theorem b5r{p:l9}{q:PP}(hp:PH H p q){K:Int→Hp→Prop}(h:K (toldS q.nodes) H):a0C p H K:=by
 refine a5v _ ?_
 unfold a0L
 refine b4Z hp ⟨fun hb=>?_,fun hb=>?_⟩
 ·unfold toldS at h
  rw [if_neg hb] at h;exact h
 obtain ⟨hd,hbd,xs,hsl,hxb,hr⟩:=hp
 have n1:=hd.1;have n2:=hsl.1;have r0:=hr.1
 refine Q9 (fun(z:Int×Fm) H'=>0≤z.1∧z.1≤q.decls.length∧H'=H∧FR ⟨true,true⟩ (formTs ((q.decls.map dT).take z.1.toNat)) (namesTs ((q.decls.map dT).take z.1.toNat)) z.2) (fun z=>(q.decls.length-z.1).toNat) ⟨Int.le_refl _,by simp,rfl,by simpa [formTs,namesTs] using FR.refl ⟨true,true⟩⟩ ?_
 rintro ⟨i,s⟩ H1 next ⟨i0,i1,rfl,hs⟩ hn
 dsimp only at i0 i1 hs ⊢
 unfold Y8
 refine ⟨fun hq=>?_,fun hq=>?_⟩
 ·obtain ⟨x,hx,hE⟩:=hd.get i0 hq
  have hlt:=t8 hx
  have hx':(q.decls.map dT)[i.toNat]? = some (dT x):=by rw [List.getElem?_map,hx];rfl
  refine ⟨x,fun _=>⟨i0,hq,hE⟩,x,fun _=>⟨i0,hq,hE⟩,i0,hq,x,hE,a8O ?_⟩
  rw [u5 i0 (by simp only [big] at hbd;omega)]
  refine hn _ _ ⟨by dsimp only;omega,by dsimp only;omega,rfl,?_⟩ (by dsimp only;omega)
  dsimp only
  rw [show (i+1).toNat=i.toNat+1 by omega,b0h hx',a9h hx']
  refine hs.trans ⟨?_,fun _=>?_⟩
  ·unfold dT
   rw [formT,formTs]
   show (((s.fok&&_)&&_)&&(true||_))=(s.fok&&((_&&_)&&true))
   simp only [Bool.true_or,Bool.and_true,Bool.and_assoc]
  ·unfold dT
   rw [namesT,namesTs]
   show (s.fnames&&(if true=true then nameS x.f4 else true))=_
   unfold nameOk nameL
   rw [Bool.and_true]
 ·rw [List.take_of_length_le (by rw [List.length_map];omega)] at hs
  clear hn next
  unfold P4
  refine floop (ts:=q.body) fun j s2 next j0 j1 hk hf'=>?_
  unfold Y7
  refine ⟨fun hq=>?_,fun hq=>?_⟩
  ·obtain ⟨hq1,hq2⟩:=a3W.1 hq
   obtain ⟨x,hx,hE⟩:=hsl.get j0 hq1
   obtain ⟨t,ht⟩:=A0 (l:=q.body) (i:=j.toNat) (by have:=t8 hx;omega)
   refine ⟨j0,hq1,x,hE,b6g (hr.2 _ x t hx ht) fun y hy=>?_⟩
   rw [u5 j0 (by simp only [big] at hxb;have:=t8 hx;omega)]
   exact hk t ht hq2 y hy
  ·have hfin:=hs.trans (hf' (by
    by_cases hlt:j < (p.Z1.n:Int)
    ·right
     cases hqq:s2.fok
     ·rfl
     ·dsimp only at hq;rw [hqq,decide_eq_true hlt] at hq;cases hq
    ·left;omega))
   rw [←M9,← a1S] at hfin
   unfold P3
   refine b6f ?_
   have:=b7J (ts:=q.nodes) hfin hb
   rw [this];exact h
end
end Go.Proofs.YtnhdnncbjddmjaaGreatDoor
