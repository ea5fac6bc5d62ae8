/- The law of copies. By hand where the copy is written over. -/
import Derived.Test.YtpgelfheccpejaaDooryCY3
import Derived.Test.YtpgelfheccpejaaDooryCY4
namespace Go.Proofs.YtpgelfheccpejaaDoor
open Go.RowKit
set_option maxRecDepth 100000
set_option maxHeartbeats 2000000
theorem b6z{H:Hp}{e:c6}{t:PT}(he:SH H e t){f:Fm}{K:Fm→Hp→Prop}(h:∀y,FR f (formT t) (namesT t) y→K y H):N6 f e H K:=by
 induction he generalizing f K with
 | @mk e xs ts ys us zs bs vs ws hs hb hr hc hcb hcr ha hab hal har hbs hbb hbl hbr iha ihb=>
  refine a4y _ _ ?_
  have r0:=hr.1
  have r1:=hcr.1
  have n1:(e.d5.n:Int)=(ts.length:Int):=by have:=hs.1;omega
  have n2:(e.m8.n:Int)=(us.length:Int):=by have:=hc.1;omega
  have n3:(e.B1.n:Int)=(vs.length:Int):=by have:=ha.1;omega
  have n4:(e.A8.n:Int)=(ws.length:Int):=by have:=hbs.1;omega
  have fin:∀(i:Int)(s:Fm)(n:Int)(m:Nat),n=(m:Int)→(decide (i < n)&&s.fok)=false→((m:Int)≤i∨s.fok=false):=by
   intro i s n m hn hc
   by_cases hlt:i < n
   ·right
    cases hq:s.fok
    ·rfl
    ·rw [hq,decide_eq_true hlt] at hc;cases hc
   ·left;omega
  have j1:∀(e' c':Int)(f':Fm),f'.fnames=f.fnames→(((((f'.fok&&((decide (e.b7=1)||decide (e.b7=2))||decide (e.f4=⟨#[]⟩)))&&decide ((ts.length:Int)=e'))&&decide ((us.length:Int)=c'))&&((decide ((vs.length:Int)=0)||decide (e.b7=3))||decide (e.b7=4)))&&(decide ((ws.length:Int)=0)||decide (e.b7=3)))=(f.fok&&formS e.b7 e.f4 (ts.length:Int) (us.length:Int) (vs.length:Int) (ws.length:Int))→t8 e' c' e f' H K:=by
   intro e' c' f' hf heq
   unfold t8
   refine a8M ?_
   refine floop (ts:=us) fun i s next i0 i1 hk hf'=>?_
   unfold V6
   refine ⟨fun hq=>?_,fun hq=>?_⟩
   ·obtain ⟨hq1,hq2⟩:=a4l.1 hq
    obtain ⟨x,hx,hE⟩:=hc.get i0 hq1
    obtain ⟨t,ht⟩:=A7 (l:=us) (i:=i.toNat) (by have:=t7 hx;omega)
    refine ⟨i0,hq1,x,hE,b6u (hcr.2 _ x t hx ht) fun y hy=>?_⟩
    rw [r7 i0 (by simp only [big] at hcb;have:=t7 hx;omega)]
    exact hk t ht hq2 y hy
   ·have hfin:=hf' (fin i s _ _ n2 hq)
    have F1:FR f (formS e.b7 e.f4 (ts.length:Int) (us.length:Int) (vs.length:Int) (ws.length:Int)&&formTs us) (nameOk (.stmt e.b7 e.f4 ts.length us.length vs.length ws.length)&&namesTs us) s:=by
     refine FR.trans (g:=⟨_,_⟩) ⟨?_,fun _=>?_⟩ hfin
     ·show (((((f'.fok&&_)&&decide ((e.d5.n:Int)=e'))&&decide ((e.m8.n:Int)=c'))&&((decide ((e.B1.n:Int)=0)||_)||_))&&(decide ((e.A8.n:Int)=0)||_))=_
      rw [n1,n2,n3,n4];exact heq
     ·show (f'.fnames&&_)=_
      rw [hf];rfl
    clear hk hf' next hq hfin
    unfold P5
    refine floop (ts:=ts) fun i s2 next i0 i1 hk hf'=>?_
    unfold V5
    refine ⟨fun hq=>?_,fun hq=>?_⟩
    ·obtain ⟨hq1,hq2⟩:=a4l.1 hq
     obtain ⟨x,hx,hE⟩:=hs.get i0 hq1
     obtain ⟨t,ht⟩:=A7 (l:=ts) (i:=i.toNat) (by have:=t7 hx;omega)
     refine ⟨i0,hq1,x,hE,b2E (hr.2 _ x t hx ht) fun y hy=>?_⟩
     rw [r7 i0 (by simp only [big] at hb;have:=t7 hx;omega)]
     exact hk t ht hq2 y hy
    ·have F2:=F1.trans (hf' (fin i s2 _ _ n1 hq))
     clear hk hf' next hq
     unfold P4
     refine floop (ts:=vs) fun i s3 next i0 i1 hk hf'=>?_
     unfold V4
     refine ⟨fun hq=>?_,fun hq=>?_⟩
     ·obtain ⟨hq1,hq2⟩:=a4l.1 hq
      obtain ⟨x,hx,hE⟩:=ha.get i0 hq1
      obtain ⟨t,ht⟩:=A7 (l:=vs) (i:=i.toNat) (by have:=t7 hx;omega)
      refine ⟨i0,hq1,x,hE,iha _ x t hx ht fun y hy=>?_⟩
      rw [r7 i0 (by simp only [big] at hab;have:=t7 hx;omega)]
      exact hk t ht hq2 y hy
     ·have F3:=F2.trans (hf' (fin i s3 _ _ n3 hq))
      clear hk hf' next hq
      unfold P3
      refine floop (ts:=ws) fun i s4 next i0 i1 hk hf'=>?_
      unfold V3
      refine ⟨fun hq=>?_,fun hq=>?_⟩
      ·obtain ⟨hq1,hq2⟩:=a4l.1 hq
       obtain ⟨x,hx,hE⟩:=hbs.get i0 hq1
       obtain ⟨t,ht⟩:=A7 (l:=ws) (i:=i.toNat) (by have:=t7 hx;omega)
       refine ⟨i0,hq1,x,hE,ihb _ x t hx ht fun y hy=>?_⟩
       rw [r7 i0 (by simp only [big] at hbb;have:=t7 hx;omega)]
       exact hk t ht hq2 y hy
      ·have F4:=F3.trans (hf' (fin i s4 _ _ n4 hq))
       refine h _ ?_
       rw [formT,namesT,a2f,a2f,a2f,a2u,a2u,a2u]
       simp only [Bool.and_assoc] at F4 ⊢
       exact F4
  have eqv:∀(e' c':Int),(e.b7=1∧e'=1∧c'=0∨e.b7=2∧e'=2∧c'=0∨(e.b7=3∨e.b7=4∨e.b7=5∨e.b7=6)∧e'=0∧c'=1∨e.b7=7∧e'=0∧c'=0)→(((((f.fok&&((decide (e.b7=1)||decide (e.b7=2))||decide (e.f4=⟨#[]⟩)))&&decide ((ts.length:Int)=e'))&&decide ((us.length:Int)=c'))&&((decide ((vs.length:Int)=0)||decide (e.b7=3))||decide (e.b7=4)))&&(decide ((ws.length:Int)=0)||decide (e.b7=3)))=(f.fok&&formS e.b7 e.f4 (ts.length:Int) (us.length:Int) (vs.length:Int) (ws.length:Int)):=by
   intro e' c' hk
   simp only [Bool.and_assoc]
   congr 1
   rw [Bool.eq_iff_iff]
   generalize (ts.length:Int)=a
   generalize (us.length:Int)=b
   have hv:(0:Int)≤(vs.length:Int):=by omega
   have hw:(0:Int)≤(ws.length:Int):=by omega
   generalize (vs.length:Int)=c at hv ⊢
   generalize (ws.length:Int)=d at hw ⊢
   generalize e.b7=k at hk ⊢
   by_cases hsn:e.f4=⟨#[]⟩
   all_goals
    unfold formS
    rcases hk with ⟨rfl,rfl,rfl⟩ | ⟨rfl,rfl,rfl⟩ | ⟨rfl | rfl | rfl | rfl,rfl,rfl⟩ | ⟨rfl,rfl,rfl⟩<;>simp [hsn]<;>omega
  have no:¬(e.b7=1∨e.b7=2∨e.b7=3∨e.b7=4∨e.b7=5∨e.b7=6∨e.b7=7)→formS e.b7 e.f4 (ts.length:Int) (us.length:Int) (vs.length:Int) (ws.length:Int)=false:=by
   intro hk
   unfold formS
   rw [if_neg (by omega),if_neg (by omega),if_neg (by omega),if_neg (by omega),if_neg (by omega),if_neg (by omega)]
  have j9:∀b:Bool,(b=true↔(e.b7=3∨e.b7=4∨e.b7=5∨e.b7=6))→¬(e.b7=1∨e.b7=2)→A5 0 0 e.b7 b e f H K:=by
   intro b hq hno
   unfold A5
   refine ⟨fun q=>j1 0 1 f rfl (eqv 0 1 (.inr (.inr (.inl ⟨hq.1 q,rfl,rfl⟩)))),fun q=>⟨fun e7=>j1 0 0 f rfl (eqv 0 0 (.inr (.inr (.inr ⟨e7,rfl,rfl⟩)))),fun e7=>j1 0 0 _ rfl ?_⟩⟩
   have:=mt hq.2 (by rw [q];decide)
   rw [no (by omega),Bool.and_false];rfl
  unfold Z4
  refine ⟨fun e1=>j1 1 0 f rfl (eqv 1 0 (.inl ⟨e1,rfl,rfl⟩)),fun e1=>⟨fun e2=>j1 2 0 f rfl (eqv 2 0 (.inr (.inl ⟨e2,rfl,rfl⟩))),fun e2=>⟨fun e3=>j9 _ ?_ (by omega),fun e3=>⟨fun e4=>j9 _ ?_ (by omega),fun e4=>⟨fun e5=>j9 _ ?_ (by omega),fun e5=>j9 _ ?_ (by omega)⟩⟩⟩⟩⟩<;>(rw [decide_eq_true_eq];omega)
theorem b5L{H:Hp}{p:d4}{q:PP}(hp:PH H p q){K:Int→Hp→Prop}(h:K (toldS q.nodes) H):a3h p H K:=by
 refine a5z _ ?_
 unfold a1s
 refine a9Q hp ⟨fun hb=>?_,fun hb=>?_⟩
 ·unfold toldS at h
  rw [if_neg hb] at h;exact h
 obtain ⟨hd,hbd,xs,hsl,hxb,hr⟩:=hp
 have n1:=hd.1;have n2:=hsl.1;have r0:=hr.1
 refine N1 (fun(z:Int×Fm) H'=>0≤z.1∧z.1≤q.decls.length∧H'=H∧FR ⟨true,true⟩ (formTs ((q.decls.map dT).take z.1.toNat)) (namesTs ((q.decls.map dT).take z.1.toNat)) z.2) (fun z=>(q.decls.length-z.1).toNat) ⟨Int.le_refl _,by simp,rfl,by simpa [formTs,namesTs] using FR.refl ⟨true,true⟩⟩ ?_
 rintro ⟨i,s⟩ H1 next ⟨i0,i1,rfl,hs⟩ hn
 dsimp only at i0 i1 hs ⊢
 unfold a0A
 refine ⟨fun hq=>?_,fun hq=>?_⟩
 ·obtain ⟨x,hx,hE⟩:=hd.get i0 hq
  have hlt:=t7 hx
  have hx':(q.decls.map dT)[i.toNat]? = some (dT x):=by rw [List.getElem?_map,hx];rfl
  refine ⟨x,fun _=>⟨i0,hq,hE⟩,x,fun _=>⟨i0,hq,hE⟩,i0,hq,x,hE,a8M ?_⟩
  rw [r7 i0 (by simp only [big] at hbd;omega)]
  refine hn _ _ ⟨by dsimp only;omega,by dsimp only;omega,rfl,?_⟩ (by dsimp only;omega)
  dsimp only
  rw [show (i+1).toNat=i.toNat+1 by omega,b0c hx',a9n hx']
  refine hs.trans ⟨?_,fun _=>?_⟩
  ·unfold dT
   rw [formT,formTs]
   show (((s.fok&&_)&&_)&&(true||_))=(s.fok&&((_&&_)&&true))
   simp only [Bool.true_or,Bool.and_true,Bool.and_assoc]
  ·unfold dT
   rw [namesT,namesTs]
   show (s.fnames&&(if true=true then nameS x.f4 else true))=_
   unfold nameOk nameL
   rw [Bool.and_true]
 ·rw [List.take_of_length_le (by rw [List.length_map];omega)] at hs
  clear hn next
  unfold U2
  refine floop (ts:=q.body) fun j s2 next j0 j1 hk hf'=>?_
  unfold a0z
  refine ⟨fun hq=>?_,fun hq=>?_⟩
  ·obtain ⟨hq1,hq2⟩:=a4l.1 hq
   obtain ⟨x,hx,hE⟩:=hsl.get j0 hq1
   obtain ⟨t,ht⟩:=A7 (l:=q.body) (i:=j.toNat) (by have:=t7 hx;omega)
   refine ⟨j0,hq1,x,hE,b6z (hr.2 _ x t hx ht) fun y hy=>?_⟩
   rw [r7 j0 (by simp only [big] at hxb;have:=t7 hx;omega)]
   exact hk t ht hq2 y hy
  ·have hfin:=hs.trans (hf' (by
    by_cases hlt:j < (p.M7.n:Int)
    ·right
     cases hqq:s2.fok
     ·rfl
     ·dsimp only at hq;rw [hqq,decide_eq_true hlt] at hq;cases hq
    ·left;omega))
   rw [←a2f,← a2u] at hfin
   unfold U1
   refine b6v ?_
   have:=b7G (ts:=q.nodes) hfin hb
   rw [this];exact h
theorem b6A{q:PP}(h:toldS q.nodes=0):fewP q=true:=by
 unfold toldS at h
 unfold fewP
 by_cases c:(wTs q.nodes 1 w0S).fbad=0
 ·exact decide_eq_true c
 ·rw [if_neg c] at h;exact absurd h c
theorem b6B{q:PP}(h:toldS q.nodes=0):eqS q q=true:=by
 unfold eqS
 rw [b6A h,a8o.2 rfl,a4W.2 rfl];rfl
theorem b7M{w0 w w':World}{ps:Nat→Prop}{H0 H H':Hp}{Fs Fs':List Frag}{F:Frag}(I:Inv w0 ps H0 H Fs w)(J:Inv w0 ps H0 H' Fs' w')(l:Hle H H')(hF:∀p∈F,H' p.1=some p.2)(hn:∀p∈F,H p.1=none)(nd:(F.map (·.1)).Nodup):Inv w0 ps H0 (subF H' F) (F::Fs') w'∧Hle H (subF H' F):=by
 refine ⟨J.thaw hF nd (fun p hp=>?_) (fun p hp=>?_),fun i o h=>?_⟩
 ·by_cases a:ps p.1
  ·exact .inl a
  ·refine .inr (Nat.le_of_not_lt fun b=>?_)
   have h1:=J.back p.1 b a
   rw [hF p hp] at h1
   have:=I.le _ _ h1.symm
   rw [hn p hp] at this;cases this
 ·cases h:H0 p.1 with
  | none=>rfl
  | some o=>have:=I.le _ _ h;rw [hn p hp] at this;cases this
 ·rw [a8N fun p hp e=>by subst e;rw [hn p hp] at h;cases h]
  exact l _ _ h
section
variable {H:Hp}{q:PP}{p:d4}
theorem b0p(hT:TabsH H)(hp:PH H p q)(hsm:q.Sm){K:Bool→Hp→Prop}(h:∀H',Hle H H'→K true H'):a2d p H K:=by
 refine Ct.of fun w0 w ps0 H0 R E I hR=>b9Q ?_
 unfold F3
 refine B2 I (cs:=f5 p) rfl fun ga w1 I1 k1=>?_
 refine d7 (Fi:=[]) Tryd.call4 (b6p hT (K:=fun r H'=>r=true) fun H' l=>rfl) I1 ?_
 rintro _ H1 Fo w2 I2 l2 k2 ⟨_,rfl,rfl,rfl⟩
 refine a6 (G1 _) ?_
 refine a3A (fun c=>by cases c) fun _=>?_
 refine b6 (lW Tryd.isAgg25 Tryd.sizeOf25 rfl I2) ?_
 refine d7 (Fi:=[]) Tryd.call5 (b7J (hT.le l2) (hp.le l2) hsm (K:=fun y e H'=>e=toldS q.nodes∧((toldS q.nodes≠0∧y=⟨⟨none,0,0⟩,⟨none,0,0⟩⟩)∨(toldS q.nodes=0∧PH H' y q∧NewS H1 H' 45 2 y.B3∧NewS H1 H' 49 6 y.M7∧∃zs,SlH H' 6 c5 y.M7 zs∧∀z∈zs,NSt H1 H' z))) (fun y H' l e a b c d=>⟨e.symm,.inr ⟨e,a,b,c,d⟩⟩) fun H' l e=>⟨rfl,.inl ⟨e,rfl⟩⟩) I2 ?_
 rintro _ H3 Fo w3 I3 l3 k3 ⟨y,e,rfl,rfl,rfl,hy⟩
 have l13:=l2.trans l3
 refine a6 (B8 _ _ _ rfl) ?_
 refine a6 (B8 _ _ _ rfl) ?_
 refine u4 I3 Tryd.zeroValue25 (cs:=f5 ⟨⟨none,0,0⟩,⟨none,0,0⟩⟩) rfl fun gb w4 I4 k4=>?_
 refine D5 I4 Tryd.sizeOf25 (vs:=f5 y) fun w5 I5 _=>?_
 refine b6 (lW Tryd.isAgg25 Tryd.sizeOf25 rfl (I5.bring 1)) ?_
 refine d7 (Fi:=[]) Tryd.call6 (b5L (hp.le l13) (K:=fun r H'=>r=toldS q.nodes∧H'=H3) ⟨rfl,rfl⟩) I5 ?_
 rintro _ H6 Fo w6 I6 l6 k6 ⟨_,rfl,rfl,rfl,rfl⟩
 refine a6 (G6 _ _ _ _ _ _) ?_
 refine a9t (fun c=>absurd rfl c) fun _=>?_
 refine a6 (G6 _ _ _ _ _ _) ?_
 refine a9t (fun c=>?_) fun c=>?_
 ·obtain ⟨_,rfl⟩ | ⟨c',_⟩:=hy
  ·refine a6 L1 ?_
   refine b6 (l1 Tryd.isAgg22 I6 rfl) ?_
   refine a6 (a0K _ _ _) ?_
   refine a6 (v:=Value.bool true) (d8 _ _ _ _ _ _) ?_
   refine a5l (fun _=>a6 L2 ?_) (fun h=>absurd rfl h)
   refine a5l (fun _=>b6 (l1 Tryd.isAgg23 I6 rfl) ?_) (fun h=>absurd rfl h)
   refine a5l (fun _=>a6 (J6 _ _ _) ?_) (fun h=>absurd rfl h)
   refine a5l (fun _=>a6 (v:=Value.bool true) (d8 _ _ _ _ _ _) ?_) (fun h=>absurd rfl h)
   refine a6 (a7S _ _ _) ?_
   exact hR _ _ _ _ I6.drop.drop ⟨true,rfl,rfl,h _ l13⟩
  ·exact absurd c' c
 ·obtain ⟨c',_⟩ | ⟨_,hpy,hnd,hnb,zs,hzs,hnz⟩:=hy
  ·exact absurd c c'
  have es:=b6B c
  refine b6 (lW Tryd.isAgg25 Tryd.sizeOf25 rfl (I6.bring 1)) ?_
  refine b6 (lW Tryd.isAgg25 Tryd.sizeOf25 rfl I6) ?_
  refine d7 (Fi:=[]) Tryd.call7 (a9Z (hp.le l13) hpy (K:=fun r H'=>r=eqS q q∧H'=H6) ⟨rfl,rfl⟩) I6 ?_
  rintro _ H7 Fo w7 I7 l7 k7 ⟨_,rfl,rfl,rfl,rfl⟩
  rw [es]
  refine a6 (G1 _) ?_
  refine a5l (fun _=>b6 (lW Tryd.isAgg25 Tryd.sizeOf25 rfl (I7.bring 1)) ?_) (fun h=>absurd rfl h)
  refine a5l (fun _=>b6 (lW Tryd.isAgg25 Tryd.sizeOf25 rfl I7) ?_) (fun h=>absurd rfl h)
  refine a5l (fun _=>d7 (Fi:=[]) Tryd.call8 (b2C (hT.le l13) (hp.le l13) hsm hpy hsm (K:=fun r H'=>r=eqS q q) fun H' l=>rfl) I7 ?_) (fun h=>absurd rfl h)
  rintro _ H8 Fo w8 I8 l8 k8 ⟨_,rfl,rfl,rfl⟩
  rw [es]
  refine a5l (fun _=>a6 (G1 _) ?_) (fun h=>absurd rfl h)
  refine a6 (a7S _ _ _) ?_
  refine a3A (fun c=>by cases c) fun _=>?_
  have hlt:∀g o,H8 g=some o→g < w8.heap.size:=fun g o hg=>I8.Hlt hg
  have l18:Hle H1 H8:=l3.trans l8
  obtain ⟨J,lb⟩:=b7M (F:=newF H1 H8 w8.heap.size) I2 I8 l18 (fun p hp=>(b3e hp).2) (fun p hp=>(b3e hp).1) (a9p _ _ _)
  refine b6 (lW Tryd.isAgg25 Tryd.sizeOf25 rfl (J.bring 2)) ?_
  refine d7 (Fi:=[]) Tryd.call9 (b6x (hp.le (l2.trans lb)) (K:=fun u H'=>PH H' u q) fun u H' l hu=>hu) J ?_
  rintro _ H9 Fo w9 I9 l9 k9 ⟨u,rfl,rfl,hu⟩
  refine u4 I9 Tryd.zeroValue25 (cs:=f5 ⟨⟨none,0,0⟩,⟨none,0,0⟩⟩) rfl fun gl w10 I10 k10=>?_
  refine D5 I10 Tryd.sizeOf25 (vs:=f5 u) fun w11 I11 _=>?_
  refine b6 (lW Tryd.isAgg25 Tryd.sizeOf25 rfl (I11.bring 2)) ?_
  have hsp:SpC (newF H1 H8 w8.heap.size) y:=by
   obtain ⟨hd,hbd,xs,hsl,hxb,hr⟩:=hpy
   exact b5K hlt (by rw [hd.1];exact hbd) (by rw [hsl.1];exact hxb) (hnd.le l8) (hnb.le l8) (hzs.le l8) fun z hz=>(hnz z hz).le l8
  refine d7 (Fi:=[newF H1 H8 w8.heap.size]) Tryd.call10 (hsp H9 _ (Sp.refl _)) (I11.bring 1) ?_
  rintro _ H12 Fo w12 I12 l12 k12 ⟨rfl,F',rfl,_⟩
  have l112:=l2.trans (lb.trans (l9.trans l12))
  refine b6 (lW Tryd.isAgg25 Tryd.sizeOf25 rfl (I12.bring 3)) ?_
  refine b6 (lW Tryd.isAgg25 Tryd.sizeOf25 rfl (I12.bring 1)) ?_
  refine d7 (Fi:=[]) Tryd.call7 (a9Z (hp.le l112) (hu.le l12) (K:=fun r H'=>r=eqS q q∧H'=H12) ⟨rfl,rfl⟩) I12 ?_
  rintro _ H13 Fo w13 I13 l13' k13 ⟨_,rfl,rfl,rfl,rfl⟩
  rw [es]
  exact hR _ _ _ _ I13.drop.drop.drop.drop ⟨true,rfl,rfl,h _ l112⟩
end
end Go.Proofs.YtpgelfheccpejaaDoor
