/- The document's copy of a program. Contracts off the printed formulas (lifted with NEWS=1). -/
import Derived.Test.YtpgelfheccpejaaDooryCY1
namespace Go.Proofs.YtpgelfheccpejaaDoor
open Go.RowKit
set_option maxRecDepth 100000
set_option maxHeartbeats 2000000
def RCopE(t:PT):Prop:=∀(H:Hp)(e:b8)(K:b8→Hp→Prop),EH H e t→(∀y H',Hle H H'→EH H' y t→K y H')→O6 e H K
def RCopC(t:PT):Prop:=∀(H:Hp)(e:b9)(K:b9→Hp→Prop),CH H e t→(∀y H',Hle H H'→CH H' y t→K y H')→T5 e H K
theorem rcopE{t:PT}(ht:Tr t):RCopE t:=by
 induction ht with
 | @mk l cs _ ih=>
  intro H e K he h
  refine a4L _ ?_
  unfold a0t
  cases he with
  | @mk _ xs _ hs hb hl hr=>
   have n1:=hs.1
   have hb':=hb
   simp only [big] at hb'
   refine N1 (fun(z:Int×Int×Int×ByteArray×List b8×b8) H'=>0≤z.1∧z.1≤xs.length∧Hle H H'∧z.2.1=e.b7∧z.2.2.1=e.M8∧z.2.2.2.1=e.f4∧q7 (EH H') z.2.2.2.2.1 (cs.take z.1.toNat)) (fun z=>(xs.length-z.1).toNat) ⟨Int.le_refl _,by dsimp only;omega,Hle.refl _,rfl,rfl,rfl,q7.nil⟩ ?_
   rintro ⟨i,a0,a1,a2,ys,e6⟩ H1 next ⟨i0,i1,l1,e0,e1,e2,hcs⟩ hk
   dsimp only at i0 i1 l1 e0 e1 e2 hcs ⊢
   subst e0;subst e1;subst e2
   unfold R5
   have hcl:ys.length≤xs.length:=by rw [hcs.1,List.length_take];omega
   refine ⟨fun q=>?_,fun q=>?_⟩
   ·obtain ⟨x,hx,hE⟩:=(hs.le l1).get i0 (by omega)
    obtain ⟨t,ht⟩:=A7 (l:=cs) (i:=i.toNat) (by have:=t7 hx;omega)
    refine ⟨i0,by omega,x,hE,ih t (List.mem_of_getElem? ht) H1 x _ ((hr _ x t hx ht).le l1) fun y H2 l2 hy=>⟨by simp only [List.length_cons,List.length_nil];omega,?_⟩⟩
    rw [r7 i0 (by omega)]
    refine hk _ _ ⟨by dsimp only;omega,by dsimp only;omega,l1.trans l2,rfl,rfl,rfl,?_⟩ (by dsimp only;omega)
    dsimp only
    rw [show (i+1).toNat=i.toNat+1 by omega,M6 ht]
    exact (hcs.mono fun _ _=>EH.le l2).app (q7.one hy)
   ·unfold R4
    intro r H2 l2 hS _
    rw [List.take_of_length_le (by omega)] at hcs
    exact h _ H2 (l1.trans l2) (EH.mk (e:=⟨e.b7,e.M8,e.f4,r⟩) hS (by simp only [big];omega) (hcs.mono fun _ _=>EH.le l2).1 (hcs.mono fun _ _=>EH.le l2).2)
theorem rcopC{t:PT}(ht:Tr t):RCopC t:=by
 induction ht with
 | @mk l cs _ ih=>
  intro H e K he h
  refine a4R _ ?_
  unfold a0w
  cases he with
  | @mk _ xs es ys ps hs hb hr hc hcb hcl hcr=>
   have n1:=hs.1
   have n2:=hc.1
   have hb':=hb
   have hcb':=hcb
   simp only [big] at hb' hcb'
   have hlen:=hr.1
   refine N1 (fun(z:Int×Int×Int×List b8×List b9×b9) H'=>0≤z.1∧z.1≤xs.length∧Hle H H'∧z.2.1=e.b7∧z.2.2.1=e.fOp∧q7 (EH H') z.2.2.2.1 (es.take z.1.toNat)∧z.2.2.2.2.1=[]) (fun z=>(xs.length-z.1).toNat) ⟨Int.le_refl _,by dsimp only;omega,Hle.refl _,rfl,rfl,q7.nil,rfl⟩ ?_
   rintro ⟨i,a0,a1,xs1,ys0,e6⟩ H1 next ⟨i0,i1,l1,e0,e1,hcs,e2⟩ hk
   dsimp only at i0 i1 l1 e0 e1 hcs e2 ⊢
   subst e0;subst e1;subst e2
   unfold R9
   have hcl1:xs1.length≤xs.length:=by rw [hcs.1,List.length_take];omega
   refine ⟨fun q=>?_,fun q=>?_⟩
   ·obtain ⟨x,hx,hE⟩:=(hs.le l1).get i0 (by omega)
    obtain ⟨t,ht,hxt⟩:=hr.get hx
    refine ⟨i0,by omega,x,hE,rcopE (tr t) H1 x _ (hxt.le l1) fun y H2 l2 hy=>⟨by simp only [List.length_cons,List.length_nil];omega,?_⟩⟩
    rw [r7 i0 (by omega)]
    refine hk _ _ ⟨by dsimp only;omega,by dsimp only;omega,l1.trans l2,rfl,rfl,?_,rfl⟩ (by dsimp only;omega)
    dsimp only
    rw [show (i+1).toNat=i.toNat+1 by omega,M6 ht]
    exact (hcs.mono fun _ _=>EH.le l2).app (q7.one hy)
   ·rw [List.take_of_length_le (by omega)] at hcs
    clear hk next
    unfold R8
    refine N1 (fun(z:Int×Int×Int×List b9×b9) H'=>0≤z.1∧z.1≤ys.length∧Hle H1 H'∧z.2.1=e.b7∧z.2.2.1=e.fOp∧q7 (CH H') z.2.2.2.1 (ps.take z.1.toNat)) (fun z=>(ys.length-z.1).toNat) ⟨Int.le_refl _,by dsimp only;omega,Hle.refl _,rfl,rfl,q7.nil⟩ ?_
    rintro ⟨j,a0,a1,ys1,e7⟩ H2 next ⟨j0,j1,l2,e0,e1,hds⟩ hk
    dsimp only at j0 j1 l2 e0 e1 hds ⊢
    subst e0;subst e1
    have l12:=l1.trans l2
    unfold R7
    have hcl2:ys1.length≤ys.length:=by rw [hds.1,List.length_take];omega
    refine ⟨fun q2=>?_,fun q2=>?_⟩
    ·obtain ⟨x,hx,hE⟩:=(hc.le l12).get j0 (by omega)
     obtain ⟨t,ht⟩:=A7 (l:=ps) (i:=j.toNat) (by have:=t7 hx;omega)
     refine ⟨j0,by omega,x,hE,ih t (List.mem_append_right _ (List.mem_of_getElem? ht)) H2 x _ ((hcr _ x t hx ht).le l12) fun y H3 l3 hy=>⟨by simp only [List.length_cons,List.length_nil];omega,?_⟩⟩
     rw [r7 j0 (by omega)]
     refine hk _ _ ⟨by dsimp only;omega,by dsimp only;omega,l2.trans l3,rfl,rfl,?_⟩ (by dsimp only;omega)
     dsimp only
     rw [show (j+1).toNat=j.toNat+1 by omega,M6 ht]
     exact (hds.mono fun _ _=>CH.le l3).app (q7.one hy)
    ·rw [List.take_of_length_le (by omega)] at hds
     unfold R6
     intro s3 H3 l3 hS3 _ s4 H4 l4 hS4 _
     have l34:=l3.trans l4
     exact h _ H4 (l12.trans l34) (CH.mk (c:=⟨e.b7,e.fOp,s3,s4⟩) (hS3.le l4) (by simp only [big];omega) (hcs.mono fun _ _=>EH.le (l2.trans l34)) hS4 (by simp only [big];omega) (hds.mono fun _ _=>CH.le l34).1 (hds.mono fun _ _=>CH.le l34).2)
mutual
def hT:PT→Nat
 | .mk _ cs=>hTs cs+1
def hTs:List PT→Nat
 | []=>0
 | t::ts=>hT t+hTs ts
end
theorem a8p:∀{ts:List PT}{t:PT},t∈ts→hT t≤hTs ts
 | c::cs,t,h=>by
  rw [hTs]
  rcases List.mem_cons.1 h with rfl | h
  ·omega
  ·have:=a8p h;omega
def RCopB(n:Nat):Prop:=∀(H:Hp)(s:Sl)(xs:List c6)(ts:List PT)(K:Sl→Hp→Prop),(∀t∈ts,hT t≤n)→SlH H 6 c5 s xs→xs.length≤big→q7 (SH H) xs ts→(∀s' ys H',Hle H H'→SlH H' 6 c5 s' ys→ys.length≤big→q7 (SH H') ys ts→K s' H')→N9 s H K
theorem rcopB:∀n,RCopB n:=by
 intro n
 induction n with
 | zero=>
  intro H s xs ts K hn hs hb hr h
  refine a2v _ ?_
  unfold T0
  have n1:=hs.1
  obtain rfl:ts=[]:=by
   cases ts with
   | nil=>rfl
   | cons t ts=>
    have:=hn t (by simp)
    obtain ⟨l,cs⟩:=t
    rw [hT] at this;omega
  have hlen:=hr.1
  rw [List.length_nil] at hlen
  refine N1 (fun(z:List c6×Int) H'=>z=([],0)∧H'=H) (fun z=>0) ⟨rfl,rfl⟩ ?_
  rintro z H1 next ⟨rfl,rfl⟩ hk
  dsimp only
  unfold L0
  refine ⟨fun q=>by omega,fun _=>?_⟩
  unfold K9
  intro s2 H2 l2 hS2 _
  exact h s2 [] H2 l2 hS2 (by simp) q7.nil
 | succ n ih=>
  intro H s xs ts K hn hs hb hr h
  refine a2v _ ?_
  unfold T0
  have n1:=hs.1
  have hb':=hb
  simp only [big] at hb'
  have hlen:=hr.1
  refine N1 (fun(z:List c6×Int) H'=>0≤z.2∧z.2≤xs.length∧Hle H H'∧q7 (SH H') z.1 (ts.take z.2.toNat)) (fun z=>(xs.length-z.2).toNat) ⟨Int.le_refl _,by dsimp only;omega,Hle.refl _,q7.nil⟩ ?_
  rintro ⟨cs,i⟩ H1 next ⟨i0,i1,l1,hcs⟩ hk
  dsimp only at i0 i1 l1 hcs ⊢
  unfold L0
  have hcl:cs.length≤xs.length:=by rw [hcs.1,List.length_take];omega
  refine ⟨fun q=>?_,fun q=>?_⟩
  ·obtain ⟨x,hx,hE⟩:=(hs.le l1).get i0 (by omega)
   obtain ⟨t,ht,hxt⟩:=hr.get hx
   have hth:=hn t (List.mem_of_getElem? ht)
   refine ⟨i0,by omega,x,hE,?_⟩
   have hxt1:=hxt.le l1
   have done:∀y H2,Hle H1 H2→SH H2 y t→(cs.length+([y]:List c6).length)*121≤140737488355328∧K8 s (cs++[y]) i H2 next K:=fun y H2 l2 hy=>by
    refine ⟨by simp only [List.length_cons,List.length_nil];omega,?_⟩
    unfold K8
    rw [r7 i0 (by omega)]
    refine hk _ _ ⟨by dsimp only;omega,by dsimp only;omega,l1.trans l2,?_⟩ (by dsimp only;omega)
    dsimp only
    rw [show (i+1).toNat=i.toNat+1 by omega,M6 ht]
    exact (hcs.mono fun _ _=>SH.le l2).app (q7.one hy)
   cases hxt1 with
   | @mk _ ex es cy us zs bs vs ws he heb her hc hcb hcr ha hab hal har hbs hbb hbl hbr=>
    rw [hT] at hth
    refine ih H1 x.B1 zs vs _ (fun v hv=>by have:=a8p (ts:=us++(es++(vs++ws))) (t:=v) (by simp [hv]);omega) ha hab ⟨hal,har⟩ fun s1 ys1 H2 l2 hS1 hb1 hr1=>?_
    refine ih H2 x.A8 bs ws _ (fun v hv=>by have:=a8p (ts:=us++(es++(vs++ws))) (t:=v) (by simp [hv]);omega) (hbs.le l2) hbb ⟨hbl,fun i x t a b=>SH.le l2 (hbr i x t a b)⟩ fun s2 ys2 H3 l3 hS2 hb2 hr2=>?_
    have l23:=l2.trans l3
    have n2:=hc.1
    have n3:=he.1
    have hcb':=hcb
    have heb':=heb
    simp only [big] at hcb' heb'
    unfold Q5
    refine N1 (fun(z:Int×Int×ByteArray×List b9×Sl×Sl) H'=>0≤z.1∧z.1≤cy.length∧Hle H3 H'∧z.2.1=x.b7∧z.2.2.1=x.f4∧z.2.2.2.2.1=s1∧z.2.2.2.2.2=s2∧q7 (CH H') z.2.2.2.1 (us.take z.1.toNat)) (fun z=>(cy.length-z.1).toNat) ⟨Int.le_refl _,by dsimp only;omega,Hle.refl _,rfl,rfl,rfl,rfl,q7.nil⟩ ?_
    rintro ⟨k,a0,a1,ys3,a2,a3⟩ H4 next4 ⟨k0,k1,l4,e0,e1,e2,e3,hds⟩ hk4
    dsimp only at k0 k1 l4 e0 e1 e2 e3 hds ⊢
    subst e0;subst e1;subst e2;subst e3
    have l14:=l23.trans l4
    have hcl2:ys3.length≤cy.length:=by rw [hds.1,List.length_take];omega
    unfold Q4
    refine ⟨i0,by omega,x,hE.le l14,fun q2=>?_,fun q2=>?_⟩
    ·obtain ⟨c,hcx,hEc⟩:=(hc.le l14).get k0 (by omega)
     obtain ⟨u,hu,hcu⟩:=hcr.get hcx
     refine ⟨k0,by omega,c,hEc,rcopC (tr u) H4 c _ (hcu.le l14) fun y H5 l5 hy=>⟨by simp only [List.length_cons,List.length_nil];omega,?_⟩⟩
     rw [r7 k0 (by omega)]
     refine hk4 _ _ ⟨by dsimp only;omega,by dsimp only;omega,l4.trans l5,rfl,rfl,rfl,rfl,?_⟩ (by dsimp only;omega)
     dsimp only
     rw [show (k+1).toNat=k.toNat+1 by omega,M6 hu]
     exact (hds.mono fun _ _=>CH.le l5).app (q7.one hy)
    ·rw [List.take_of_length_le (by have:=hcr.1;omega)] at hds
     clear hk4 next4
     unfold Q3
     refine N1 (fun(z:Int×Int×ByteArray×List b8×Sl×Sl) H'=>0≤z.1∧z.1≤ex.length∧Hle H4 H'∧z.2.1=x.b7∧z.2.2.1=x.f4∧z.2.2.2.2.1=a2∧z.2.2.2.2.2=a3∧q7 (EH H') z.2.2.2.1 (es.take z.1.toNat)) (fun z=>(ex.length-z.1).toNat) ⟨Int.le_refl _,by dsimp only;omega,Hle.refl _,rfl,rfl,rfl,rfl,q7.nil⟩ ?_
     rintro ⟨m,b0,b1,ys4,b2,b3⟩ H5 next5 ⟨m0,m1,l5,f0,f1,f2,f3,hfs⟩ hk5
     dsimp only at m0 m1 l5 f0 f1 f2 f3 hfs ⊢
     subst f0;subst f1;subst f2;subst f3
     have l15:=l14.trans l5
     have hcl3:ys4.length≤ex.length:=by rw [hfs.1,List.length_take];omega
     unfold Q2
     refine ⟨i0,by omega,x,hE.le l15,fun q3=>?_,fun q3=>?_⟩
     ·obtain ⟨c,hcx,hEc⟩:=(he.le l15).get m0 (by omega)
      obtain ⟨u,hu,hcu⟩:=her.get hcx
      refine ⟨m0,by omega,c,hEc,rcopE (tr u) H5 c _ (hcu.le l15) fun y H6 l6 hy=>⟨by simp only [List.length_cons,List.length_nil];omega,?_⟩⟩
      rw [r7 m0 (by omega)]
      refine hk5 _ _ ⟨by dsimp only;omega,by dsimp only;omega,l5.trans l6,rfl,rfl,rfl,rfl,?_⟩ (by dsimp only;omega)
      dsimp only
      rw [show (m+1).toNat=m.toNat+1 by omega,M6 hu]
      exact (hfs.mono fun _ _=>EH.le l6).app (q7.one hy)
     ·rw [List.take_of_length_le (by have:=her.1;omega)] at hfs
      unfold Q1
      intro s3 H6 l6 hS3 _ s4 H7 l7 hS4 _
      have l67:=l6.trans l7
      have l57:=l5.trans l67
      have l37:=l4.trans l57
      exact done ⟨x.b7,x.f4,s3,s4,b2,b3⟩ H7 (l15.trans l67) (SH.mk (s:=⟨x.b7,x.f4,s3,s4,b2,b3⟩) (hS3.le l7) (by simp only [big];omega) (hfs.mono fun _ _=>EH.le l67) hS4 (by simp only [big];omega) (hds.mono fun _ _=>CH.le l57) (hS1.le (l3.trans l37)) hb1 hr1.1 (fun i x t a b=>SH.le (l3.trans l37) (hr1.2 i x t a b)) (hS2.le l37) hb2 hr2.1 (fun i x t a b=>SH.le l37 (hr2.2 i x t a b)))
  ·unfold K9
   intro s2 H2 l2 hS2 _
   rw [List.take_of_length_le (by omega)] at hcs
   exact h s2 cs H2 (l1.trans l2) hS2 (by simp only [big];omega) (hcs.mono fun _ _=>SH.le l2)
theorem b6x{H:Hp}{p:d4}{q:PP}(hp:PH H p q){K:d4→Hp→Prop}(h:∀y H',Hle H H'→PH H' y q→K y H'):a3p p H K:=by
 refine a5Q _ ?_
 unfold a1G
 obtain ⟨hd,hbd,xs,hsl,hxb,hr⟩:=hp
 have hbd':=hbd
 simp only [big] at hbd'
 refine ⟨q.decls,hd,by simp only [List.length_nil];omega,rcopB (hTs q.body) H p.M7 xs q.body _ (fun t ht=>a8p ht) hsl hxb hr fun s' ys H1 l1 hS hb1 hr1=>?_⟩
 intro s2 H2 l2 hS2 _
 exact h _ H2 (l1.trans l2) ⟨hS2,hbd,ys,hS.le l2,hb1,hr1.mono fun _ _=>SH.le l2⟩
end Go.Proofs.YtpgelfheccpejaaDoor
