/- Typed formulas of the program's functions, and the theorems that the contracts follow from them; printed by lift.py off the code. -/
import Derived.Test.YtaokfhdinhimfaaGreatDooryLV1
namespace Go.Proofs.YtaokfhdinhimfaaGreatDoor
open Go.RowKit
set_option maxRecDepth 100000
set_option maxHeartbeats 2000000
def a3U(a:m3)(b:m3)(H:Hp)(K:Bool→Hp→Prop):Prop:=
 K true H
def a3V(d:m3)(c:m3)(q8:Int)(H:Hp)(n2:Int→Hp→Prop)(K:Bool→Hp→Prop):Prop:=
 (q8 < (c.R3.n:Int)→
 (0:Int)≤q8∧(q8:Int) < c.R3.n∧∃a:c7,EltH H c.R3 q8 10 (i6 a)∧
 (0:Int)≤q8∧(q8:Int) < d.R3.n∧∃b:c7,EltH H d.R3 q8 10 (i6 b)∧
 (¬(a.O0=b.O0∧a.fTo=b.fTo∧a.c8=b.c8∧a.a1O=b.a1O∧a.S3=b.S3∧a.fOp=b.fOp∧a.fA.B7=b.fA.B7∧a.fA.s7=b.fA.s7∧a.fB.B7=b.fB.B7∧a.fB.s7=b.fB.s7)→
 K false H)∧
 (a.O0=b.O0∧a.fTo=b.fTo∧a.c8=b.c8∧a.a1O=b.a1O∧a.S3=b.S3∧a.fOp=b.fOp∧a.fA.B7=b.fA.B7∧a.fA.s7=b.fA.s7∧a.fB.B7=b.fB.B7∧a.fB.s7=b.fB.s7→
 n2 (IntKind.wrap .i64 (q8+1)) H))∧
 (¬(q8 < (c.R3.n:Int))→
 a3U d c H K)
def a5K(x0:m3)(x1:m3)(H:Hp)(K:Bool→Hp→Prop):Prop:=
 a4q x0.p7 x1.p7 H (fun a b=>
 TG (((!a)||(!decide (x0.q9=x1.q9)))=false) (a4r x0.o9 x1.o9 b) false b (fun(c:Bool)(d:Hp)=>
 (((((((!a)||(!decide (x0.q9=x1.q9)))||(!c))||(!decide (x0.p5=x1.p5)))||(!decide (x0.u5=x1.u5)))||(!decide ((x0.R3.n:Int)=(x1.R3.n:Int))))=true→
 K false d)∧
 (((((((!a)||(!decide (x0.q9=x1.q9)))||(!c))||(!decide (x0.p5=x1.p5)))||(!decide (x0.u5=x1.u5)))||(!decide ((x0.R3.n:Int)=(x1.R3.n:Int))))=false→
 TL (0:Int) d fun(s:Int) H n2=>a3V x1 x0 s H n2 K)))
theorem b2e(x0 x1){H K}(h:a5K x0 x1 H K):a7T x0 x1 H K:=by
 refine Ct.of fun w0 w ps0 H0 R E I hR=>d2j ?_
 unfold a5K at h
 unfold F8
 refine A9 I (cs:=(z6 x0)) rfl fun l ad r ae=>?_
 refine A9 r (cs:=(z6 x1)) rfl fun m af f ag=>?_
 refine c5 a4p (c6 (l1 Tryz.isAgg27 (f.bring 1) rfl) (c5 a4p (c6 (l1 Tryz.isAgg27 f rfl) ?_)))
 refine f0 Tryz.call31 h f ?_
 rintro _ _ _ ah c _ _ ⟨ai,rfl,rfl,h⟩
 refine c5 (T1 _) ?_
 refine c5 (Pu.g fun a=>by with_reducible exact a6u) ?_
 refine c6 (Ld.g fun a=>by simp only [i4 a];exact (l1 Tryz.isAgg3 (c.bring 1) rfl)) ?_
 refine c5 (Pu.g fun a=>by with_reducible exact a6u) ?_
 refine c6 (Ld.g fun a=>by simp only [i4 a];exact (l1 Tryz.isAgg3 c rfl)) ?_
 refine c5 (Pu.g fun a=>by simp only [i4 a];with_reducible exact pNe) ?_
 refine c5 (L8 _ _) ?_
 refine c5 (Pu.g fun a=>by with_reducible exact a8O) ?_
 refine c6 (Ld.g fun a=>by simp only [i4 a];exact (l1 Tryz.isAgg22 (c.bring 1) rfl)) ?_
 refine c5 (Pu.g fun a=>by with_reducible exact a8O) ?_
 refine c6 (Ld.g fun a=>by simp only [i4 a];exact (l1 Tryz.isAgg22 c rfl)) ?_
 refine a6N [] (fun e:Bool=>(vB e)) h c (fun n h=>?_) fun e i s b o p h=>?_
 ·have a:=n
  simp only [i4 a]
  refine f0 Tryz.call32 h c ?_
  rintro _ i _ s b p o ⟨e,rfl,rfl,h⟩
  exact ⟨e,i,rfl,b,o,p,h⟩
 refine c5 (Pu.g fun a=>by simp only [i4 a];with_reducible exact (T1 _)) ?_
 refine c5 (L8 _ _) ?_
 refine c5 (Pu.g fun a=>by with_reducible exact a2b) ?_
 refine c6 (Ld.g fun a=>by simp only [i4 a];exact (l1 Tryz.isAgg3 (b.bring 1) rfl)) ?_
 refine c5 (Pu.g fun a=>by with_reducible exact a2b) ?_
 refine c6 (Ld.g fun a=>by simp only [i4 a];exact (l1 Tryz.isAgg3 b rfl)) ?_
 refine c5 (Pu.g fun a=>by simp only [i4 a];with_reducible exact pNe) ?_
 refine c5 (L8 _ _) ?_
 refine c5 (Pu.g fun a=>by with_reducible exact a5V) ?_
 refine c6 (Ld.g fun a=>by simp only [i4 a];exact (l1 Tryz.isAgg3 (b.bring 1) rfl)) ?_
 refine c5 (Pu.g fun a=>by with_reducible exact a5V) ?_
 refine c6 (Ld.g fun a=>by simp only [i4 a];exact (l1 Tryz.isAgg3 b rfl)) ?_
 refine c5 (Pu.g fun a=>by simp only [i4 a];with_reducible exact pNe) ?_
 refine c5 (L8 _ _) ?_
 refine c5 (Pu.g fun a=>by with_reducible exact W8) ?_
 refine c6 (Ld.g fun a=>by simp only [i4 a];exact (l1 Tryz.isAgg28 (b.bring 1) rfl)) ?_
 refine c5 (Pu.g fun a=>by simp only [i4 a];with_reducible exact (a9Z _ _ _)) ?_
 refine c5 (Pu.g fun a=>by with_reducible exact W8) ?_
 refine c6 (Ld.g fun a=>by simp only [i4 a];exact (l1 Tryz.isAgg28 b rfl)) ?_
 refine c5 (Pu.g fun a=>by simp only [i4 a];with_reducible exact (a9Z _ _ _)) ?_
 refine c5 (Pu.g fun a=>by simp only [i4 a];with_reducible exact pNe) ?_
 refine c5 (L8 _ _) ?_
 refine m8 h (fun _ h=>?_) (fun _ h=>?_)
 ·exact hR _ i _ _ b.drop.drop ⟨false,rfl,rfl,h⟩
 ·have hj1:∀H w (_:Inv w0 ps0 H0 H [bx m 30 (z6 x1),bx l 30 (z6 x0)] w) (_:a3U x1 x0 H K),c2L w R E:=by
   intro H w I h
   unfold c2L
   intro _
   unfold a3U at h
   exact hR _ H _ _ I.drop.drop ⟨true,rfl,rfl,h⟩
  refine o6 fun j1 hx1=>?_
  refine C9 (σ:=Int) (fun q8=>[(vi q8)]) (fun q8=>[bx m 30 (z6 x1),bx l 30 (z6 x0)]) h rfl ((b.bring 1).bring 1) ?_
  rintro q8 H aj w next2 n2 q I h hn2
  simp only [List.map_cons,List.map_nil,List.cons.injEq,and_true] at q
  have e5:=q
  simp only [e5]
  unfold c6B
  unfold a3V at h
  refine c5 W8 (c6 (l1 Tryz.isAgg28 (I.bring 1) rfl) (c5 (a9Z _ _ _) (c5 pLs ?_)))
  refine d9 h (fun _ h=>?_) (fun _ h=>?_)
  ·refine Q9 I fun ak d=>?_
   refine g8 W8 ?_
   refine g8 W8 ?_
   refine p6 (l1 Tryz.isAgg28 (d.bring 1) rfl) ?_
   obtain ⟨t,u,v,j,h⟩:=h
   obtain ⟨al,am,y,j⟩:=j
   refine g8 (b3o y _ _ _ _ t u) ?_
   refine p6 (ldA (vs:=(i6 v)) Tryz.isAgg40 Tryz.sizeOf40 rfl (d.atH j)) ?_
   refine p6 (l1 Tryz.isAgg28 d rfl) ?_
   obtain ⟨z,aa,ab,k,h⟩:=h
   obtain ⟨an,ao,ac,k⟩:=k
   refine g8 (b3o ac _ _ _ _ z aa) ?_
   refine p6 (ldA (vs:=(i6 ab)) Tryz.isAgg40 Tryz.sizeOf40 rfl (d.atH k)) ?_
   refine g8 (c5H _ _ _ _ _ _ _ _ _ _ _ _ _ _ _ _ _ _ _ _ _ _) ?_
   refine a3P h (fun _ h=>?_) (fun _ h=>?_)
   ·exact hR _ H _ _ d.drop.drop ⟨false,rfl,rfl,h⟩
   ·refine c5 pAd ?_
    exact hn2 (IntKind.wrap .i64 (q8+1)) _ _ h ((d.bring 1).bring 1)
  ·exact hx1 _ _ (hj1 H _ ((I.bring 1).bring 1) h)
def Y5(a7I:(List d8))(a:f8)(H:Hp)(K:(List d8)→Hp→Prop):Prop:=
 K a7I H
def Y6(a:f8)(a1p:(List d8))(a2E:Int)(H:Hp)(n3:((List d8)×Int)→Hp→Prop)(K:(List d8)→Hp→Prop):Prop:=
 (a2E < (a.u1.n:Int)→
 (0:Int)≤a2E∧(a2E:Int) < a.u1.n∧∃b:f8,EltH H a.u1 a2E 4 (d7 b)∧
 U9 a1p b H (fun c d=>
 n3 (c,(IntKind.wrap .i64 (a2E+1))) d))∧
 (¬(a2E < (a.u1.n:Int))→
 Y5 a1p a H K)
def N5(a3L:(List d8))(a:f8)(H:Hp)(K:(List d8)→Hp→Prop):Prop:=
 TL ((a3L,0):(List d8)×Int) H fun(s:(List d8)×Int) H n3=>Y6 a s.1 s.2 H n3 K
def a2W(x0:(List d8))(x1:f8)(H:Hp)(K:(List d8)→Hp→Prop):Prop:=
 (((decide (x1.c8=2))||(decide (x1.c8=4)))=true→
 (x0.length+([(d8.mk x1.f6 (decide (x1.c8=4)))]:List d8).length)*25≤140737488355328∧
 N5 (x0++[(d8.mk x1.f6 (decide (x1.c8=4)))]) x1 H K)∧
 (((decide (x1.c8=2))||(decide (x1.c8=4)))=false→
 N5 x0 x1 H K)
theorem a9A(x0 x1){H K}(h:a2W x0 x1 H K):U9 x0 x1 H K:=by
 intro sx0 Fx0 hx0
 refine Ct.of fun w0 w ps0 H0 R E I hR=>c7w ?_
 unfold a2W at h
 unfold d0E
 refine A9 I (cs:=(d7 x1)) rfl fun j am f an=>?_
 have hj1:∀(a3L:(List d8))(a7j:Sl)(Fs0j1:Frag) H w (_:RowL 105 2 p9 a7j a3L Fs0j1) (_:Inv w0 ps0 H0 H [bx j 123 (d7 x1),Fs0j1] w) (_:N5 a3L x1 H K),b7c (vs a7j) (Value.pointer (some ⟨j,0,none⟩)) w R E:=by
  intro a3L a7j Fs0j1 H w b6e I h
  unfold b7c
  intro _
  unfold N5 at h
  have hj2:∀(a7I:(List d8))(b0H:Sl)(Fs0j2:Frag) H w (_:RowL 105 2 p9 b0H a7I Fs0j2) (_:Inv w0 ps0 H0 H [bx j 123 (d7 x1),Fs0j2] w) (_:Y5 a7I x1 H K),b7b (vs b0H) w R E:=by
   intro a7I b0H Fs0j2 H w c2M I h
   unfold b7b
   intro _
   unfold Y5 at h
   exact hR _ H _ _ I.drop ⟨a7I,b0H,Fs0j2,rfl,rfl,c2M,h⟩
  refine o6 fun j2 hx2=>?_
  obtain ⟨k,i,q,r⟩:=h
  refine L5 (J:=fun n l w=>∃(s:(List d8)×Int)(H:Hp)(a8U:Sl)(Fs0l3:Frag),n=i s∧l=(match s with | (a1p,a2E)=>[(vs a8U),(vi a2E)])∧(match s with | (a1p,a2E)=>RowL 105 2 p9 a8U a1p Fs0l3)∧(match s with | (a1p,a2E)=>Inv w0 ps0 H0 H [bx j 123 (d7 x1),Fs0l3] w)∧k s H) ⟨_,(a3L,0),H,a7j,Fs0j1,rfl,rfl,b6e,((I.bring 1).bring 1),q⟩ ?_
  rintro ao ap w next3 ⟨⟨a1p,a2E⟩,H,a8U,Fs0l3,rfl,m,b3v,I,t⟩ hn3
  dsimp only at m I b3v
  simp only [List.map_cons,List.map_nil,List.cons.injEq,and_true] at m
  obtain ⟨e0,e5⟩:=m
  simp only [e0,e5]
  obtain ⟨n3,hm3,h⟩:∃n3:((List d8)×Int)→Hp→Prop,(∀s' H',n3 s' H'→k s' H'∧i s' < i (a1p,a2E))∧Y6 x1 a1p a2E H n3 K:=⟨_,fun _ _ h=>h,r (a1p,a2E) H (fun s' H'=>k s' H'∧i s' < i (a1p,a2E)) t (fun _ _ a b=>⟨a,b⟩)⟩
  unfold c1D
  unfold Y6 at h
  refine c5 C3 (c6 (l1 Tryz.isAgg57 I rfl) (c5 (P7 _ _ _) (c5 pLs ?_)))
  refine d9 h (fun _ h=>?_) (fun _ h=>?_)
  ·refine c5 C3 (c6 (l1 Tryz.isAgg57 I rfl) ?_)
   obtain ⟨u,v,y,o,h⟩:=h
   obtain ⟨aq,ar,z,o⟩:=o
   refine c5 (A0 z _ _ _ _ u v) (c6 (ldA (vs:=(d7 y)) Tryz.isAgg123 Tryz.sizeOf123 rfl (I.atH o)) ?_)
   refine f0 Tryz.call106 (h a8U Fs0l3 b3v) (I.bring 1) ?_
   rintro _ aa _ au ab _ _ ⟨ac,ad,ae,rfl,rfl,af,h⟩
   refine c5 pAd ?_
   exact hn3 _ _ _ (hm3 _ _ h).2 ⟨(ac,(IntKind.wrap .i64 (a2E+1))),aa,ad,ae,rfl,rfl,af,(ab.bring 1),(hm3 _ _ h).1⟩
  ·exact hx2 _ _ (hj2 a1p a8U Fs0l3 H _ b3v ((I.bring 1).bring 1) h)
 refine o6 fun j1 hx1=>?_
 refine c5 C2 (c6 (l1 Tryz.isAgg3 f rfl) (c5 pEq ?_))
 refine c5 (Pu.g fun d=>by with_reducible exact C2) ?_
 refine c6 (Ld.g fun d=>by simp only [i4 d];exact (l1 Tryz.isAgg3 f rfl)) ?_
 refine c5 (Pu.g fun d=>by simp only [i4 d];with_reducible exact pEq) ?_
 refine c5 (L8 _ _) ?_
 refine m8 h (fun _ h=>?_) (fun _ h=>?_)
 ·refine c5 a1V (c6 (l1 Tryz.isAgg9 f rfl) (c5 C2 (c6 (l1 Tryz.isAgg3 f rfl) (c5 pEq ?_))))
  refine c5 (b2Q _ _) ?_
  refine a3v (e:=105) (c:=p9) (xs:=[(d8.mk x1.f6 (decide (x1.c8=4)))]) f (b9l _ _) rfl rfl a6X a6Y (nb rfl) fun av aw ax ag p ay=>?_
  obtain ⟨ah,h⟩:=h
  refine c1r (s:=sx0) (xs:=x0) (p.bring 2) hx0 (ag.srcO ((p.bring 2).bring 1)) ah fun ai aj az ak al ba=>?_
  exact hx1 _ _ (hj1 (x0++[(d8.mk x1.f6 (decide (x1.c8=4)))]) ai aj H _ ak ((al.bring 1).drop.bring 1) h)
 ·exact hx1 _ _ (hj1 x0 sx0 Fx0 H _ hx0 ((f.bring 1).bring 1) h)
def Y7(a7I:(List d8))(a:j8)(H:Hp)(K:(List d8)→Hp→Prop):Prop:=
 K a7I H
def Y8(a:j8)(a1p:(List d8))(W1:Int)(H:Hp)(n3:((List d8)×Int)→Hp→Prop)(K:(List d8)→Hp→Prop):Prop:=
 (W1 < (a.r7.n:Int)→
 (0:Int)≤W1∧(W1:Int) < a.r7.n∧∃b:j8,EltH H a.r7 W1 4 (f7 b)∧
 a0F a1p b H (fun c d=>
 n3 (c,(IntKind.wrap .i64 (W1+1))) d))∧
 (¬(W1 < (a.r7.n:Int))→
 Y7 a1p a H K)
def Y9(a3L:(List d8))(a:j8)(H:Hp)(K:(List d8)→Hp→Prop):Prop:=
 TL ((a3L,0):(List d8)×Int) H fun(s:(List d8)×Int) H n3=>Y8 a s.1 s.2 H n3 K
def Z1(a:j8)(a8n:(List d8))(S6:Int)(H:Hp)(n4:((List d8)×Int)→Hp→Prop)(K:(List d8)→Hp→Prop):Prop:=
 (S6 < (a.l7.n:Int)→
 (0:Int)≤S6∧(S6:Int) < a.l7.n∧∃b:f8,EltH H a.l7 S6 4 (d7 b)∧
 U9 a8n b H (fun c d=>
 n4 (c,(IntKind.wrap .i64 (S6+1))) d))∧
 (¬(S6 < (a.l7.n:Int))→
 Y9 a8n a H K)
def a2X(x0:(List d8))(x1:j8)(H:Hp)(K:(List d8)→Hp→Prop):Prop:=
 TL ((x0,0):(List d8)×Int) H fun(s:(List d8)×Int) H n4=>Z1 x1 s.1 s.2 H n4 K
theorem a9B(x0 x1){H K}(h:a2X x0 x1 H K):a0F x0 x1 H K:=by
 intro sx0 Fx0 hx0
 refine Ct.of fun w0 w ps0 H0 R E I hR=>c7v ?_
 unfold a2X at h
 unfold d0D
 refine A9 I (cs:=(f7 x1)) rfl fun c au o av=>?_
 have hj1:∀(a3L:(List d8))(a7j:Sl)(Fs0j1:Frag) H w (_:RowL 105 2 p9 a7j a3L Fs0j1) (_:Inv w0 ps0 H0 H [bx c 131 (f7 x1),Fs0j1] w) (_:Y9 a3L x1 H K),b7a (vs a7j) (Value.pointer (some ⟨c,0,none⟩)) w R E:=by
  intro a3L a7j Fs0j1 H w b6e I h
  unfold b7a
  intro _
  unfold Y9 at h
  have hj2:∀(a7I:(List d8))(b0H:Sl)(Fs0j2:Frag) H w (_:RowL 105 2 p9 b0H a7I Fs0j2) (_:Inv w0 ps0 H0 H [bx c 131 (f7 x1),Fs0j2] w) (_:Y7 a7I x1 H K),b6Z (vs b0H) w R E:=by
   intro a7I b0H Fs0j2 H w c2M I h
   unfold b6Z
   intro _
   unfold Y7 at h
   exact hR _ H _ _ I.drop ⟨a7I,b0H,Fs0j2,rfl,rfl,c2M,h⟩
  refine o6 fun j2 hx2=>?_
  obtain ⟨f,d,p,q⟩:=h
  refine L5 (J:=fun n l w=>∃(s:(List d8)×Int)(H:Hp)(a8U:Sl)(Fs0l3:Frag),n=d s∧l=(match s with | (a1p,W1)=>[(vs a8U),(vi W1)])∧(match s with | (a1p,W1)=>RowL 105 2 p9 a8U a1p Fs0l3)∧(match s with | (a1p,W1)=>Inv w0 ps0 H0 H [bx c 131 (f7 x1),Fs0l3] w)∧f s H) ⟨_,(a3L,0),H,a7j,Fs0j1,rfl,rfl,b6e,((I.bring 1).bring 1),p⟩ ?_
  rintro aw ax w next3 ⟨⟨a1p,W1⟩,H,a8U,Fs0l3,rfl,g,b3v,I,r⟩ hn3
  dsimp only at g I b3v
  simp only [List.map_cons,List.map_nil,List.cons.injEq,and_true] at g
  obtain ⟨e0,e6⟩:=g
  simp only [e0,e6]
  obtain ⟨n3,hm3,h⟩:∃n3:((List d8)×Int)→Hp→Prop,(∀s' H',n3 s' H'→f s' H'∧d s' < d (a1p,W1))∧Y8 x1 a1p W1 H n3 K:=⟨_,fun _ _ h=>h,q (a1p,W1) H (fun s' H'=>f s' H'∧d s' < d (a1p,W1)) r (fun _ _ a b=>⟨a,b⟩)⟩
  unfold c1B
  unfold Y8 at h
  refine c5 J7 (c6 (l1 Tryz.isAgg58 I rfl) (c5 (a0B _ _ _) (c5 pLs ?_)))
  refine d9 h (fun _ h=>?_) (fun _ h=>?_)
  ·refine c5 J7 (c6 (l1 Tryz.isAgg58 I rfl) ?_)
   obtain ⟨t,u,v,i,h⟩:=h
   obtain ⟨ay,az,y,i⟩:=i
   refine c5 (L0 y _ _ _ _ t u) (c6 (ldA (vs:=(f7 v)) Tryz.isAgg131 Tryz.sizeOf131 rfl (I.atH i)) ?_)
   refine f0 Tryz.call105 (h a8U Fs0l3 b3v) (I.bring 1) ?_
   rintro _ z _ ba aa _ _ ⟨ab,ac,ad,rfl,rfl,ae,h⟩
   refine c5 pAd ?_
   exact hn3 _ _ _ (hm3 _ _ h).2 ⟨(ab,(IntKind.wrap .i64 (W1+1))),z,ac,ad,rfl,rfl,ae,(aa.bring 1),(hm3 _ _ h).1⟩
  ·exact hx2 _ _ (hj2 a1p a8U Fs0l3 H _ b3v ((I.bring 1).bring 1) h)
 refine o6 fun j1 hx1=>?_
 obtain ⟨j,e,af,ag⟩:=h
 refine L5 (J:=fun n l w=>∃(s:(List d8)×Int)(H:Hp)(b6f:Sl)(Fs0l4:Frag),n=e s∧l=(match s with | (a8n,S6)=>[(vs b6f),(vi S6)])∧(match s with | (a8n,S6)=>RowL 105 2 p9 b6f a8n Fs0l4)∧(match s with | (a8n,S6)=>Inv w0 ps0 H0 H [bx c 131 (f7 x1),Fs0l4] w)∧j s H) ⟨_,(x0,0),H,sx0,Fx0,rfl,rfl,hx0,((o.bring 1).bring 1),af⟩ ?_
 rintro bb bc w next4 ⟨⟨a8n,S6⟩,H,b6f,Fs0l4,rfl,k,c2N,I,ah⟩ hn4
 dsimp only at k I c2N
 simp only [List.map_cons,List.map_nil,List.cons.injEq,and_true] at k
 obtain ⟨e0,e5⟩:=k
 simp only [e0,e5]
 obtain ⟨n4,hm4,h⟩:∃n4:((List d8)×Int)→Hp→Prop,(∀s' H',n4 s' H'→j s' H'∧e s' < e (a8n,S6))∧Z1 x1 a8n S6 H n4 K:=⟨_,fun _ _ h=>h,ag (a8n,S6) H (fun s' H'=>j s' H'∧e s' < e (a8n,S6)) ah (fun _ _ a b=>⟨a,b⟩)⟩
 unfold c1C
 unfold Z1 at h
 refine c5 P6 (c6 (l1 Tryz.isAgg57 I rfl) (c5 (P7 _ _ _) (c5 pLs ?_)))
 refine d9 h (fun _ h=>?_) (fun _ h=>?_)
 ·refine c5 P6 (c6 (l1 Tryz.isAgg57 I rfl) ?_)
  obtain ⟨ai,aj,ak,m,h⟩:=h
  obtain ⟨bd,be,al,m⟩:=m
  refine c5 (A0 al _ _ _ _ ai aj) (c6 (ldA (vs:=(d7 ak)) Tryz.isAgg123 Tryz.sizeOf123 rfl (I.atH m)) ?_)
  refine f0 Tryz.call106 (h b6f Fs0l4 c2N) (I.bring 1) ?_
  rintro _ am _ bf an _ _ ⟨ao,ap,aq,rfl,rfl,ar,h⟩
  refine c5 pAd ?_
  exact hn4 _ _ _ (hm4 _ _ h).2 ⟨(ao,(IntKind.wrap .i64 (S6+1))),am,ap,aq,rfl,rfl,ar,(an.bring 1),(hm4 _ _ h).1⟩
 ·exact hx1 _ _ (hj1 a8n b6f Fs0l4 H _ c2N ((I.bring 1).bring 1) h)
def a2F(x0:d3)(H:Hp)(K:Int→Hp→Prop):Prop:=
 ((!x0.fok)=true→
 K 30 H)∧
 ((!x0.fok)=false→
 ((!x0.fnames)=true→
 K 31 H)∧
 ((!x0.fnames)=false→
 K 0 H))
theorem a9k(x0){H K}(h:a2F x0 H K):a2D x0 H K:=by
 refine Ct.of fun w0 w ps0 H0 R E I hR=>c9Z ?_
 unfold a2F at h
 unfold F75
 refine A9 I (cs:=(o5 x0)) rfl fun b c a d=>?_
 refine c5 J8 (c6 (l1 Tryz.isAgg4 a rfl) (c5 (T1 _) ?_))
 refine m8 h (fun _ h=>?_) (fun _ h=>?_)
 ·exact hR _ H _ _ a.drop ⟨30,rfl,rfl,h⟩
 ·refine c5 b2u (c6 (l1 Tryz.isAgg4 a rfl) (c5 (T1 _) ?_))
  refine m8 h (fun _ h=>?_) (fun _ h=>?_)
  ·exact hR _ H _ _ a.drop ⟨31,rfl,rfl,h⟩
  ·exact hR _ H _ _ a.drop ⟨0,rfl,rfl,h⟩
def a1s(a:j8)(b1p:Int)(a4y:d3)(H:Hp)(n4:(Int×d3)→Hp→Prop)(K:d3→Hp→Prop):Prop:=
 (((decide (b1p < (a.r7.n:Int)))&&a4y.fok)=true→
 (0:Int)≤b1p∧(b1p:Int) < a.r7.n∧∃b:j8,EltH H a.r7 b1p 4 (f7 b)∧
 a0k a4y b H (fun c d=>
 n4 ((IntKind.wrap .i64 (b1p+1)),c) d))∧
 (((decide (b1p < (a.r7.n:Int)))&&a4y.fok)=false→
 K a4y H)
def X1(a3t:d3)(a:j8)(H:Hp)(K:d3→Hp→Prop):Prop:=
 TL ((0,a3t):Int×d3) H fun(s:Int×d3) H n4=>a1s a s.1 s.2 H n4 K
def a1t(a:j8)(b1q:Int)(a0g:d3)(H:Hp)(n5:(Int×d3)→Hp→Prop)(K:d3→Hp→Prop):Prop:=
 (((decide (b1q < (a.l7.n:Int)))&&a0g.fok)=true→
 (0:Int)≤b1q∧(b1q:Int) < a.l7.n∧∃b:f8,EltH H a.l7 b1q 4 (d7 b)∧
 T3 a0g b H (fun c d=>
 n5 ((IntKind.wrap .i64 (b1q+1)),c) d))∧
 (((decide (b1q < (a.l7.n:Int)))&&a0g.fok)=false→
 X1 a0g a H K)
def M0(b3w:Int)(d3L:Int)(c0l:Bool)(a:j8)(a7k:d3)(H:Hp)(K:d3→Hp→Prop):Prop:=
 TL ((0,(d3.mk (((a7k.fok&&c0l)&&(decide ((a.l7.n:Int)=b3w)))&&(decide ((a.r7.n:Int)=d3L))) a7k.fnames)):Int×d3) H fun(s:Int×d3) H n5=>a1t a s.1 s.2 H n5 K
def B8(u7:Int)(a3B:Int)(a:j8)(V6:d3)(H:Hp)(K:d3→Hp→Prop):Prop:=
 (a.c8=3→
 M0 u7 a3B ((decide (1≤a.fOp))&&(decide (a.fOp≤6))) a V6 H K)∧
 (¬(a.c8=3)→
 M0 u7 a3B (decide (a.fOp=0)) a V6 H K)
def M1(d1v:Int)(d3M:Int)(b4N:Bool)(a:j8)(c6C:d3)(H:Hp)(K:d3→Hp→Prop):Prop:=
 (b4N=true→
 B8 d1v 2 a c6C H K)∧
 (b4N=false→
 B8 d1v d3M a (d3.mk false c6C.fnames) H K)
def M2(c2O:Int)(b7J:Int)(b2n:Int)(b4O:Bool)(a:j8)(b6g:d3)(H:Hp)(K:d3→Hp→Prop):Prop:=
 (b4O=true→
 B8 c2O b7J a b6g H K)∧
 (b4O=false→
 (b2n=3→
 B8 2 b7J a b6g H K)∧
 (¬(b2n=3)→
 (b2n=4→
 B8 c2O 1 a b6g H K)∧
 (¬(b2n=4)→
 (b2n=5→
 M1 c2O b7J (decide (b2n=5)) a b6g H K)∧
 (¬(b2n=5)→
 M1 c2O b7J (decide (b2n=6)) a b6g H K))))
def a2G(x0:d3)(x1:j8)(H:Hp)(K:d3→Hp→Prop):Prop:=
 (x1.c8=1→
 M2 0 0 x1.c8 (decide (x1.c8=1)) x1 x0 H K)∧
 (¬(x1.c8=1)→
 M2 0 0 x1.c8 (decide (x1.c8=2)) x1 x0 H K)
theorem a9l(x0 x1){H K}(h:a2G x0 x1 H K):a0k x0 x1 H K:=by
 intro g0
 refine Ct.of fun w0 w ps0 H0 R E I hR=>c7t ?_
 unfold a2G at h
 unfold d0B
 refine A9 I (cs:=(f7 x1)) rfl fun b z c aa=>?_
 have hj1:∀(u7:Int)(a3B:Int)(V6:d3) H w (_:Inv w0 ps0 H0 H [bx b 131 (f7 x1),bx g0 136 (o5 V6)] w) (_:B8 u7 a3B x1 V6 H K),b6S (Value.pointer (some ⟨g0,0,none⟩)) (Value.pointer (some ⟨b,0,none⟩)) (vi u7) (vi a3B) w R E:=by
  intro u7 a3B V6 H w I h
  unfold b6S
  intro _
  unfold B8 at h
  refine c5 a1W (c6 (l1 Tryz.isAgg3 I rfl) (c5 pEq ?_))
  have hj2:∀(c0l:Bool) H w (_:Inv w0 ps0 H0 H [bx b 131 (f7 x1),bx g0 136 (o5 V6)] w) (_:M0 u7 a3B c0l x1 V6 H K),b6R (Value.pointer (some ⟨g0,0,none⟩)) (Value.pointer (some ⟨b,0,none⟩)) (vi u7) (vi a3B) (vB c0l) w R E:=by
   intro c0l H w I h
   unfold b6R
   intro _
   unfold M0 at h
   refine c5 (m2 _) (c5 J8 (c6 (l1 Tryz.isAgg4 (I.bring 1) rfl) ?_))
   simp only [z7]
   refine c5 (y9 _ _) ?_
   refine c5 (Pu.g fun a=>by with_reducible exact P6) ?_
   refine c6 (Ld.g fun a=>by simp only [i4 a];exact (l1 Tryz.isAgg57 I rfl)) ?_
   refine c5 (Pu.g fun a=>by simp only [i4 a];with_reducible exact (P7 _ _ _)) ?_
   simp only [z7]
   refine c5 (Pu.g fun a=>by simp only [i4 a];with_reducible exact pEq) ?_
   refine c5 (y9 _ _) ?_
   refine c5 (Pu.g fun a=>by with_reducible exact J7) ?_
   refine c6 (Ld.g fun a=>by simp only [i4 a];exact (l1 Tryz.isAgg58 I rfl)) ?_
   refine c5 (Pu.g fun a=>by simp only [i4 a];with_reducible exact (a0B _ _ _)) ?_
   simp only [z7]
   refine c5 (Pu.g fun a=>by simp only [i4 a];with_reducible exact pEq) ?_
   refine c5 (y9 _ _) (c5 (m2 _) (c5 J8 ?_))
   refine C4 (I.bring 1) Tryz.sizeOf4 fun ab j ac=>?_
   have hj3:∀(a3t:d3) H w (_:Inv w0 ps0 H0 H [bx g0 136 (o5 a3t),bx b 131 (f7 x1)] w) (_:X1 a3t x1 H K),b6Q (Value.pointer (some ⟨g0,0,none⟩)) (Value.pointer (some ⟨b,0,none⟩)) w R E:=by
    intro a3t H w I h
    unfold b6Q
    intro _
    unfold X1 at h
    refine C9 (σ:=Int×d3) (fun (b1p,a4y)=>[(vi b1p)]) (fun (b1p,a4y)=>[bx g0 136 (o5 a4y),bx b 131 (f7 x1)]) h rfl ((I.bring 1).bring 1) ?_
    rintro ⟨b1p,a4y⟩ H ad w next4 n4 d I h hn4
    dsimp only at d I h
    simp only [List.map_cons,List.map_nil,List.cons.injEq,and_true] at d
    have e8:=d
    simp only [e8]
    unfold c1y
    unfold a1s at h
    refine c5 J7 (c6 (l1 Tryz.isAgg58 (I.bring 1) rfl) (c5 (a0B _ _ _) (c5 pLs ?_)))
    simp only [z7]
    refine c5 (Pu.g fun a=>by simp only [i4 a];with_reducible exact (m2 _)) ?_
    refine c5 (Pu.g fun a=>by simp only [i4 a];with_reducible exact J8) ?_
    refine c6 (Ld.g fun a=>by simp only [i4 a];exact (l1 Tryz.isAgg4 I rfl)) ?_
    refine c5 (y9 _ _) ?_
    refine m8 h (fun _ h=>?_) (fun _ h=>?_)
    ·refine c5 J7 (c6 (l1 Tryz.isAgg58 (I.bring 1) rfl) ?_)
     obtain ⟨k,l,m,e,h⟩:=h
     obtain ⟨ae,af,n,e⟩:=e
     refine c5 (L0 n _ _ _ _ k l) (c6 (ldA (vs:=(f7 m)) Tryz.isAgg131 Tryz.sizeOf131 rfl (I.atH e)) ?_)
     refine f0 Tryz.call103 (h g0) I ?_
     rintro _ _ _ ag o _ _ ⟨p,rfl,rfl,h⟩
     refine c5 pAd ?_
     exact hn4 ((IntKind.wrap .i64 (b1p+1)),p) _ _ h ((o.bring 1).bring 1)
    ·exact hR _ H _ _ (I.bring 1).drop ⟨a4y,rfl,rfl,h⟩
   refine o6 fun j3 hx3=>?_
   refine C9 (σ:=Int×d3) (fun (b1q,a0g)=>[(vi b1q)]) (fun (b1q,a0g)=>[bx g0 136 (o5 a0g),bx b 131 (f7 x1)]) h rfl ((j.bring 1).bring 1) ?_
   rintro ⟨b1q,a0g⟩ H ah w next5 n5 f I h hn5
   dsimp only at f I h
   simp only [List.map_cons,List.map_nil,List.cons.injEq,and_true] at f
   have e7:=f
   simp only [e7]
   unfold c1z
   unfold a1t at h
   refine c5 P6 (c6 (l1 Tryz.isAgg57 (I.bring 1) rfl) (c5 (P7 _ _ _) (c5 pLs ?_)))
   simp only [z7]
   refine c5 (Pu.g fun a=>by simp only [i4 a];with_reducible exact (m2 _)) ?_
   refine c5 (Pu.g fun a=>by simp only [i4 a];with_reducible exact J8) ?_
   refine c6 (Ld.g fun a=>by simp only [i4 a];exact (l1 Tryz.isAgg4 I rfl)) ?_
   refine c5 (y9 _ _) ?_
   refine m8 h (fun _ h=>?_) (fun _ h=>?_)
   ·refine c5 P6 (c6 (l1 Tryz.isAgg57 (I.bring 1) rfl) ?_)
    obtain ⟨q,r,s,i,h⟩:=h
    obtain ⟨ai,aj,t,i⟩:=i
    refine c5 (A0 t _ _ _ _ q r) (c6 (ldA (vs:=(d7 s)) Tryz.isAgg123 Tryz.sizeOf123 rfl (I.atH i)) ?_)
    refine f0 Tryz.call104 (h g0) I ?_
    rintro _ _ _ ak u _ _ ⟨v,rfl,rfl,h⟩
    refine c5 pAd ?_
    exact hn5 ((IntKind.wrap .i64 (b1q+1)),v) _ _ h ((u.bring 1).bring 1)
   ·exact hx3 _ _ (hj3 a0g H _ ((I.bring 1).bring 1) h)
  refine o6 fun j2 hx2=>?_
  refine c5 a6d (c6 (l1 Tryz.isAgg3 I rfl) (c5 pEq ?_))
  refine d9 h (fun _ h=>?_) (fun _ h=>?_)
  ·refine c5 a1W (c6 (l1 Tryz.isAgg3 I rfl) (c5 pGe ?_))
   refine c5 (Pu.g fun a=>by with_reducible exact a1W) ?_
   refine c6 (Ld.g fun a=>by simp only [i4 a];exact (l1 Tryz.isAgg3 I rfl)) ?_
   refine c5 (Pu.g fun a=>by simp only [i4 a];with_reducible exact pLe) ?_
   refine c5 (y9 _ _) ?_
   exact hx2 _ _ (hj2 ((decide (1≤x1.fOp))&&(decide (x1.fOp≤6))) H _ ((I.bring 1).bring 1) h)
  ·exact hx2 _ _ (hj2 (decide (x1.fOp=0)) H _ ((I.bring 1).bring 1) h)
 refine o6 fun j1 hx1=>?_
 refine c5 a6d (c6 (l1 Tryz.isAgg3 c rfl) ?_)
 have hj6:∀(b4O:Bool) H w (_:Inv w0 ps0 H0 H [bx b 131 (f7 x1),bx g0 136 (o5 x0)] w) (_:M2 0 0 x1.c8 b4O x1 x0 H K),b6U (Value.pointer (some ⟨g0,0,none⟩)) (Value.pointer (some ⟨b,0,none⟩)) (vi 0) (vi 0) (vi x1.c8) (vB b4O) w j1 R E:=by
  intro b4O H w I h
  unfold b6U
  intro _
  unfold M2 at h
  refine m8 h (fun _ h=>?_) (fun _ h=>?_)
  ·exact hx1 _ _ (hj1 0 0 x0 H _ ((I.bring 1).bring 1) h)
  ·refine c5 pEq ?_
   refine d9 h (fun _ h=>?_) (fun _ h=>?_)
   ·exact hx1 _ _ (hj1 2 0 x0 H _ ((I.bring 1).bring 1) h)
   ·refine c5 pEq ?_
    refine d9 h (fun _ h=>?_) (fun _ h=>?_)
    ·exact hx1 _ _ (hj1 0 1 x0 H _ ((I.bring 1).bring 1) h)
    ·have hj7:∀(b4N:Bool) H w (_:Inv w0 ps0 H0 H [bx b 131 (f7 x1),bx g0 136 (o5 x0)] w) (_:M1 0 0 b4N x1 x0 H K),b6T (Value.pointer (some ⟨g0,0,none⟩)) (Value.pointer (some ⟨b,0,none⟩)) (vi 0) (vi 0) (vB b4N) w j1 R E:=by
      intro b4N H w I h
      unfold b6T
      intro _
      unfold M1 at h
      refine m8 h (fun _ h=>?_) (fun _ h=>?_)
      ·exact hx1 _ _ (hj1 0 2 x0 H _ ((I.bring 1).bring 1) h)
      ·refine c5 (m2 _) (c5 J8 ?_)
       refine C4 (I.bring 1) Tryz.sizeOf4 fun al y am=>?_
       exact hx1 _ _ (hj1 0 0 (d3.mk false x0.fnames) H _ (y.bring 1) h)
     refine o6 fun j7 hx7=>?_
     refine c5 pEq ?_
     refine d9 h (fun _ h=>?_) (fun _ h=>?_)
     ·exact hx7 _ _ (hj7 (decide (x1.c8=5)) H _ ((I.bring 1).bring 1) h)
     ·refine c5 pEq ?_
      exact hx7 _ _ (hj7 (decide (x1.c8=6)) H _ ((I.bring 1).bring 1) h)
 refine o6 fun j6 hx6=>?_
 refine c5 pEq ?_
 refine d9 h (fun _ h=>?_) (fun _ h=>?_)
 ·exact hx6 _ _ (hj6 (decide (x1.c8=1)) H _ ((c.bring 1).bring 1) h)
 ·refine c5 pEq ?_
  exact hx6 _ _ (hj6 (decide (x1.c8=2)) H _ ((c.bring 1).bring 1) h)
def a2H(x0:d4)(x1:Int)(H:Hp)(K:Bool→d4→Hp→Prop):Prop:=
 (¬(x0.fbad=0)→
 K false x0 H)∧
 (x0.fbad=0→
 (x0.fn=4096→
 K false (d4.mk x0.fn x0.fdepth 33) H)∧
 (¬(x0.fn=4096)→
 (64 < x1→
 K false (d4.mk x0.fn x0.fdepth 32) H)∧
 (¬(64 < x1)→
 K true (d4.mk (IntKind.wrap .i64 (x0.fn+1)) (if x1 > x0.fdepth then x1 else x0.fdepth) x0.fbad) H)))
theorem a9m(x0 x1){H K}(h:a2H x0 x1 H K):P0 x0 x1 H K:=by
 intro g0
 refine Ct.of fun w0 w ps0 H0 R E I hR=>c7q ?_
 unfold a2H at h
 unfold d0y
 refine c5 (m2 _) (c5 V5 (c6 (l1 Tryz.isAgg3 I rfl) (c5 pNe ?_)))
 refine a3P h (fun _ h=>?_) (fun _ h=>?_)
 ·exact hR _ H _ _ I ⟨false,x0,rfl,rfl,h⟩
 ·refine c5 (m2 _) (c5 b2w (c6 (l1 Tryz.isAgg3 I rfl) (c5 pEq ?_)))
  refine d9 h (fun _ h=>?_) (fun _ h=>?_)
  ·refine c5 (m2 _) (c5 V5 ?_)
   refine C4 I Tryz.sizeOf3 fun e b f=>?_
   exact hR _ H _ _ b ⟨false,(d4.mk x0.fn x0.fdepth 33),rfl,rfl,h⟩
  ·refine c5 pGt ?_
   refine d9 h (fun _ h=>?_) (fun _ h=>?_)
   ·refine c5 (m2 _) (c5 V5 ?_)
    refine C4 I Tryz.sizeOf3 fun g c i=>?_
    exact hR _ H _ _ c ⟨false,(d4.mk x0.fn x0.fdepth 32),rfl,rfl,h⟩
   ·refine c5 (m2 _) (c5 b2w (c6 (l1 Tryz.isAgg3 I rfl) (c5 pAd (c5 (m2 _) ?_))))
    refine c5 b2w ?_
    refine C4 I Tryz.sizeOf3 fun j a k=>?_
    refine c5 (m2 _) (c5 b5u (c6 (l1 Tryz.isAgg3 a rfl) (c5 (a8e _ _ _ _ _) (c5 (m2 _) ?_))))
    refine c5 b5u ?_
    refine C4 a Tryz.sizeOf3 fun l d m=>?_
    exact hR _ H _ _ d ⟨true,(d4.mk (IntKind.wrap .i64 (x0.fn+1)) (if x1 > x0.fdepth then x1 else x0.fdepth) x0.fbad),rfl,rfl,h⟩
def a1u(a6e:Int)(a:j8)(a5m:Int)(a4z:d4)(H:Hp)(n2:(Int×d4)→Hp→Prop)(K:d4→Hp→Prop):Prop:=
 (((decide (a5m < (a.r7.n:Int)))&&(decide (a4z.fbad=0)))=true→
 (0:Int)≤a5m∧(a5m:Int) < a.r7.n∧∃b:j8,EltH H a.r7 a5m 4 (f7 b)∧
 a0l a4z b (IntKind.wrap .i64 (a6e+1)) H (fun c d=>
 n2 ((IntKind.wrap .i64 (a5m+1)),c) d))∧
 (((decide (a5m < (a.r7.n:Int)))&&(decide (a4z.fbad=0)))=false→
 K a4z H)
def X2(b0r:Int)(V6:d4)(a:j8)(H:Hp)(K:d4→Hp→Prop):Prop:=
 TL ((0,V6):Int×d4) H fun(s:Int×d4) H n2=>a1u b0r a s.1 s.2 H n2 K
def a1v(c2P:Int)(a:j8)(W1:Int)(b0I:d4)(H:Hp)(n3:(Int×d4)→Hp→Prop)(K:d4→Hp→Prop):Prop:=
 (((decide (W1 < (a.l7.n:Int)))&&(decide (b0I.fbad=0)))=true→
 (0:Int)≤W1∧(W1:Int) < a.l7.n∧∃b:f8,EltH H a.l7 W1 4 (d7 b)∧
 T5 b0I b (IntKind.wrap .i64 (c2P+1)) H (fun c d=>
 n3 ((IntKind.wrap .i64 (W1+1)),c) d))∧
 (((decide (W1 < (a.l7.n:Int)))&&(decide (b0I.fbad=0)))=false→
 X2 c2P b0I a H K)
def a2I(x0:d4)(x1:j8)(x2:Int)(H:Hp)(K:d4→Hp→Prop):Prop:=
 P0 x0 x2 H (fun a b c=>
 ((!a)=true→
 K b c)∧
 ((!a)=false→
 TL ((0,b):Int×d4) c fun(s:Int×d4) H n3=>a1v x2 x1 s.1 s.2 H n3 K))
theorem a9n(x0 x1 x2){H K}(h:a2I x0 x1 x2 H K):a0l x0 x1 x2 H K:=by
 intro g0
 refine Ct.of fun w0 w ps0 H0 R E I hR=>c7C ?_
 unfold a2I at h
 unfold d0K
 refine A9 I (cs:=(f7 x1)) rfl fun b aa j ab=>?_
 refine f0 Tryz.call100 (h g0) (j.bring 1) ?_
 rintro _ k _ ac i _ _ ⟨ad,l,rfl,rfl,h⟩
 refine c5 (T1 _) ?_
 refine m8 h (fun _ h=>?_) (fun _ h=>?_)
 ·exact hR _ k _ _ (i.bring 1).drop ⟨l,rfl,rfl,h⟩
 ·have hj1:∀(V6:d4) H w (_:Inv w0 ps0 H0 H [bx g0 133 (o7 V6),bx b 131 (f7 x1)] w) (_:X2 x2 V6 x1 H K),b7f (Value.pointer (some ⟨g0,0,none⟩)) (vi x2) (Value.pointer (some ⟨b,0,none⟩)) w R E:=by
   intro V6 H w I h
   unfold b7f
   intro _
   unfold X2 at h
   refine C9 (σ:=Int×d4) (fun (a5m,a4z)=>[(vi a5m)]) (fun (a5m,a4z)=>[bx g0 133 (o7 a4z),bx b 131 (f7 x1)]) h rfl ((I.bring 1).bring 1) ?_
   rintro ⟨a5m,a4z⟩ H ae w next2 n2 c I h hn2
   dsimp only at c I h
   simp only [List.map_cons,List.map_nil,List.cons.injEq,and_true] at c
   have e7:=c
   simp only [e7]
   unfold c1H
   unfold a1u at h
   refine c5 J7 (c6 (l1 Tryz.isAgg58 (I.bring 1) rfl) (c5 (a0B _ _ _) (c5 pLs ?_)))
   simp only [z7]
   refine c5 (Pu.g fun a=>by simp only [i4 a];with_reducible exact (m2 _)) ?_
   refine c5 (Pu.g fun a=>by simp only [i4 a];with_reducible exact V5) ?_
   refine c6 (Ld.g fun a=>by simp only [i4 a];exact (l1 Tryz.isAgg3 I rfl)) ?_
   refine c5 (Pu.g fun a=>by simp only [i4 a];with_reducible exact pEq) ?_
   refine c5 (y9 _ _) ?_
   refine m8 h (fun _ h=>?_) (fun _ h=>?_)
   ·refine c5 J7 (c6 (l1 Tryz.isAgg58 (I.bring 1) rfl) ?_)
    obtain ⟨m,n,o,d,h⟩:=h
    obtain ⟨af,ag,p,d⟩:=d
    refine c5 (L0 p _ _ _ _ m n) (c6 (ldA (vs:=(f7 o)) Tryz.isAgg131 Tryz.sizeOf131 rfl (I.atH d)) (c5 pAd ?_))
    refine f0 Tryz.call112 (h g0) I ?_
    rintro _ _ _ ah q _ _ ⟨r,rfl,rfl,h⟩
    refine c5 pAd ?_
    exact hn2 ((IntKind.wrap .i64 (a5m+1)),r) _ _ h ((q.bring 1).bring 1)
   ·exact hR _ H _ _ (I.bring 1).drop ⟨a4z,rfl,rfl,h⟩
  refine o6 fun j1 hx1=>?_
  refine C9 (σ:=Int×d4) (fun (W1,b0I)=>[(vi W1)]) (fun (W1,b0I)=>[bx g0 133 (o7 b0I),bx b 131 (f7 x1)]) h rfl ((i.bring 1).bring 1) ?_
  rintro ⟨W1,b0I⟩ H ai w next3 n3 e I h hn3
  dsimp only at e I h
  simp only [List.map_cons,List.map_nil,List.cons.injEq,and_true] at e
  have e6:=e
  simp only [e6]
  unfold c1I
  unfold a1v at h
  refine c5 P6 (c6 (l1 Tryz.isAgg57 (I.bring 1) rfl) (c5 (P7 _ _ _) (c5 pLs ?_)))
  simp only [z7]
  refine c5 (Pu.g fun a=>by simp only [i4 a];with_reducible exact (m2 _)) ?_
  refine c5 (Pu.g fun a=>by simp only [i4 a];with_reducible exact V5) ?_
  refine c6 (Ld.g fun a=>by simp only [i4 a];exact (l1 Tryz.isAgg3 I rfl)) ?_
  refine c5 (Pu.g fun a=>by simp only [i4 a];with_reducible exact pEq) ?_
  refine c5 (y9 _ _) ?_
  refine m8 h (fun _ h=>?_) (fun _ h=>?_)
  ·refine c5 P6 (c6 (l1 Tryz.isAgg57 (I.bring 1) rfl) ?_)
   obtain ⟨s,t,u,f,h⟩:=h
   obtain ⟨aj,ak,v,f⟩:=f
   refine c5 (A0 v _ _ _ _ s t) (c6 (ldA (vs:=(d7 u)) Tryz.isAgg123 Tryz.sizeOf123 rfl (I.atH f)) (c5 pAd ?_))
   refine f0 Tryz.call113 (h g0) I ?_
   rintro _ _ _ al y _ _ ⟨z,rfl,rfl,h⟩
   refine c5 pAd ?_
   exact hn3 ((IntKind.wrap .i64 (W1+1)),z) _ _ h ((y.bring 1).bring 1)
  ·exact hx1 _ _ (hj1 b0I H _ ((I.bring 1).bring 1) h)
def a1w(d3N:Int)(a:i8)(a8t:Int)(a4y:d4)(H:Hp)(n4:(Int×d4)→Hp→Prop)(K:d4→Hp→Prop):Prop:=
 (((decide (a8t < (a.L2.n:Int)))&&(decide (a4y.fbad=0)))=true→
 (0:Int)≤a8t∧(a8t:Int) < a.L2.n∧∃b:i8,EltH H a.L2 a8t 6 (g7 b)∧
 T6 a4y b (IntKind.wrap .i64 (d3N+1)) H (fun c d=>
 n4 ((IntKind.wrap .i64 (a8t+1)),c) d))∧
 (((decide (a8t < (a.L2.n:Int)))&&(decide (a4y.fbad=0)))=false→
 K a4y H)
def X3(d3O:Int)(a3t:d4)(a:i8)(H:Hp)(K:d4→Hp→Prop):Prop:=
 TL ((0,a3t):Int×d4) H fun(s:Int×d4) H n4=>a1w d3O a s.1 s.2 H n4 K
def a1x(d1w:Int)(a:i8)(b1r:Int)(a0g:d4)(H:Hp)(n5:(Int×d4)→Hp→Prop)(K:d4→Hp→Prop):Prop:=
 (((decide (b1r < (a.K5.n:Int)))&&(decide (a0g.fbad=0)))=true→
 (0:Int)≤b1r∧(b1r:Int) < a.K5.n∧∃b:i8,EltH H a.K5 b1r 6 (g7 b)∧
 T6 a0g b (IntKind.wrap .i64 (d1w+1)) H (fun c d=>
 n5 ((IntKind.wrap .i64 (b1r+1)),c) d))∧
 (((decide (b1r < (a.K5.n:Int)))&&(decide (a0g.fbad=0)))=false→
 X3 d1w a0g a H K)
def X4(d3P:Int)(a7k:d4)(a:i8)(H:Hp)(K:d4→Hp→Prop):Prop:=
 TL ((0,a7k):Int×d4) H fun(s:Int×d4) H n5=>a1x d3P a s.1 s.2 H n5 K
def a1y(d1x:Int)(a:i8)(b1s:Int)(a4A:d4)(H:Hp)(n6:(Int×d4)→Hp→Prop)(K:d4→Hp→Prop):Prop:=
 (((decide (b1s < (a.l7.n:Int)))&&(decide (a4A.fbad=0)))=true→
 (0:Int)≤b1s∧(b1s:Int) < a.l7.n∧∃b:f8,EltH H a.l7 b1s 4 (d7 b)∧
 T5 a4A b (IntKind.wrap .i64 (d1x+1)) H (fun c d=>
 n6 ((IntKind.wrap .i64 (b1s+1)),c) d))∧
 (((decide (b1s < (a.l7.n:Int)))&&(decide (a4A.fbad=0)))=false→
 X4 d1x a4A a H K)
def X5(b0r:Int)(V6:d4)(a:i8)(H:Hp)(K:d4→Hp→Prop):Prop:=
 TL ((0,V6):Int×d4) H fun(s:Int×d4) H n6=>a1y b0r a s.1 s.2 H n6 K
def a1z(d1y:Int)(a:i8)(b1t:Int)(a4B:d4)(H:Hp)(n7:(Int×d4)→Hp→Prop)(K:d4→Hp→Prop):Prop:=
 (((decide (b1t < (a.r9.n:Int)))&&(decide (a4B.fbad=0)))=true→
 (0:Int)≤b1t∧(b1t:Int) < a.r9.n∧∃b:j8,EltH H a.r9 b1t 4 (f7 b)∧
 a0l a4B b (IntKind.wrap .i64 (d1y+1)) H (fun c d=>
 n7 ((IntKind.wrap .i64 (b1t+1)),c) d))∧
 (((decide (b1t < (a.r9.n:Int)))&&(decide (a4B.fbad=0)))=false→
 X5 d1y a4B a H K)
def a2J(x0:d4)(x1:i8)(x2:Int)(H:Hp)(K:d4→Hp→Prop):Prop:=
 P0 x0 x2 H (fun a b c=>
 ((!a)=true→
 K b c)∧
 ((!a)=false→
 TL ((0,b):Int×d4) c fun(s:Int×d4) H n7=>a1z x2 x1 s.1 s.2 H n7 K))
theorem a9o(x0 x1 x2){H K}(h:a2J x0 x1 x2 H K):T6 x0 x1 x2 H K:=by
 intro g0
 refine Ct.of fun w0 w ps0 H0 R E I hR=>c7r ?_
 unfold a2J at h
 unfold d0z
 refine A9 I (cs:=(g7 x1)) rfl fun b aq n ar=>?_
 refine f0 Tryz.call100 (h g0) (n.bring 1) ?_
 rintro _ o _ au m _ _ ⟨av,p,rfl,rfl,h⟩
 refine c5 (T1 _) ?_
 refine m8 h (fun _ h=>?_) (fun _ h=>?_)
 ·exact hR _ o _ _ (m.bring 1).drop ⟨p,rfl,rfl,h⟩
 ·have hj1:∀(V6:d4) H w (_:Inv w0 ps0 H0 H [bx g0 133 (o7 V6),bx b 60 (g7 x1)] w) (_:X5 x2 V6 x1 H K),b6O (Value.pointer (some ⟨g0,0,none⟩)) (vi x2) (Value.pointer (some ⟨b,0,none⟩)) w R E:=by
   intro V6 H w I h
   unfold b6O
   intro _
   unfold X5 at h
   have hj2:∀(a7k:d4) H w (_:Inv w0 ps0 H0 H [bx g0 133 (o7 a7k),bx b 60 (g7 x1)] w) (_:X4 x2 a7k x1 H K),b6N (Value.pointer (some ⟨g0,0,none⟩)) (vi x2) (Value.pointer (some ⟨b,0,none⟩)) w R E:=by
    intro a7k H w I h
    unfold b6N
    intro _
    unfold X4 at h
    have hj3:∀(a3t:d4) H w (_:Inv w0 ps0 H0 H [bx g0 133 (o7 a3t),bx b 60 (g7 x1)] w) (_:X3 x2 a3t x1 H K),b6M (Value.pointer (some ⟨g0,0,none⟩)) (vi x2) (Value.pointer (some ⟨b,0,none⟩)) w R E:=by
     intro a3t H w I h
     unfold b6M
     intro _
     unfold X3 at h
     refine C9 (σ:=Int×d4) (fun (a8t,a4y)=>[(vi a8t)]) (fun (a8t,a4y)=>[bx g0 133 (o7 a4y),bx b 60 (g7 x1)]) h rfl ((I.bring 1).bring 1) ?_
     rintro ⟨a8t,a4y⟩ H aw w next4 n4 c I h hn4
     dsimp only at c I h
     simp only [List.map_cons,List.map_nil,List.cons.injEq,and_true] at c
     have e9:=c
     simp only [e9]
     unfold c1t
     unfold a1w at h
     refine c5 W9 (c6 (l1 Tryz.isAgg23 (I.bring 1) rfl) (c5 (L3 _ _ _) (c5 pLs ?_)))
     simp only [z7]
     refine c5 (Pu.g fun a=>by simp only [i4 a];with_reducible exact (m2 _)) ?_
     refine c5 (Pu.g fun a=>by simp only [i4 a];with_reducible exact V5) ?_
     refine c6 (Ld.g fun a=>by simp only [i4 a];exact (l1 Tryz.isAgg3 I rfl)) ?_
     refine c5 (Pu.g fun a=>by simp only [i4 a];with_reducible exact pEq) ?_
     refine c5 (y9 _ _) ?_
     refine m8 h (fun _ h=>?_) (fun _ h=>?_)
     ·refine c5 W9 (c6 (l1 Tryz.isAgg23 (I.bring 1) rfl) ?_)
      obtain ⟨q,r,s,d,h⟩:=h
      obtain ⟨ax,ay,t,d⟩:=d
      refine c5 (a3Q t _ _ _ _ q r) (c6 (ldA (vs:=(g7 s)) Tryz.isAgg60 Tryz.sizeOf60 rfl (I.atH d)) (c5 pAd ?_))
      refine f0 Tryz.call101 (h g0) I ?_
      rintro _ _ _ az u _ _ ⟨v,rfl,rfl,h⟩
      refine c5 pAd ?_
      exact hn4 ((IntKind.wrap .i64 (a8t+1)),v) _ _ h ((u.bring 1).bring 1)
     ·exact hR _ H _ _ (I.bring 1).drop ⟨a4y,rfl,rfl,h⟩
    refine o6 fun j3 hx3=>?_
    refine C9 (σ:=Int×d4) (fun (b1r,a0g)=>[(vi b1r)]) (fun (b1r,a0g)=>[bx g0 133 (o7 a0g),bx b 60 (g7 x1)]) h rfl ((I.bring 1).bring 1) ?_
    rintro ⟨b1r,a0g⟩ H ba w next5 n5 e I h hn5
    dsimp only at e I h
    simp only [List.map_cons,List.map_nil,List.cons.injEq,and_true] at e
    have e8:=e
    simp only [e8]
    unfold c1u
    unfold a1x at h
    refine c5 Q7 (c6 (l1 Tryz.isAgg23 (I.bring 1) rfl) (c5 (L3 _ _ _) (c5 pLs ?_)))
    simp only [z7]
    refine c5 (Pu.g fun a=>by simp only [i4 a];with_reducible exact (m2 _)) ?_
    refine c5 (Pu.g fun a=>by simp only [i4 a];with_reducible exact V5) ?_
    refine c6 (Ld.g fun a=>by simp only [i4 a];exact (l1 Tryz.isAgg3 I rfl)) ?_
    refine c5 (Pu.g fun a=>by simp only [i4 a];with_reducible exact pEq) ?_
    refine c5 (y9 _ _) ?_
    refine m8 h (fun _ h=>?_) (fun _ h=>?_)
    ·refine c5 Q7 (c6 (l1 Tryz.isAgg23 (I.bring 1) rfl) ?_)
     obtain ⟨y,z,aa,f,h⟩:=h
     obtain ⟨bb,bc,ab,f⟩:=f
     refine c5 (a3Q ab _ _ _ _ y z) (c6 (ldA (vs:=(g7 aa)) Tryz.isAgg60 Tryz.sizeOf60 rfl (I.atH f)) (c5 pAd ?_))
     refine f0 Tryz.call101 (h g0) I ?_
     rintro _ _ _ bd ac _ _ ⟨ad,rfl,rfl,h⟩
     refine c5 pAd ?_
     exact hn5 ((IntKind.wrap .i64 (b1r+1)),ad) _ _ h ((ac.bring 1).bring 1)
    ·exact hx3 _ _ (hj3 a0g H _ ((I.bring 1).bring 1) h)
   refine o6 fun j2 hx2=>?_
   refine C9 (σ:=Int×d4) (fun (b1s,a4A)=>[(vi b1s)]) (fun (b1s,a4A)=>[bx g0 133 (o7 a4A),bx b 60 (g7 x1)]) h rfl ((I.bring 1).bring 1) ?_
   rintro ⟨b1s,a4A⟩ H be w next6 n6 i I h hn6
   dsimp only at i I h
   simp only [List.map_cons,List.map_nil,List.cons.injEq,and_true] at i
   have e7:=i
   simp only [e7]
   unfold c1v
   unfold a1y at h
   refine c5 N3 (c6 (l1 Tryz.isAgg57 (I.bring 1) rfl) (c5 (P7 _ _ _) (c5 pLs ?_)))
   simp only [z7]
   refine c5 (Pu.g fun a=>by simp only [i4 a];with_reducible exact (m2 _)) ?_
   refine c5 (Pu.g fun a=>by simp only [i4 a];with_reducible exact V5) ?_
   refine c6 (Ld.g fun a=>by simp only [i4 a];exact (l1 Tryz.isAgg3 I rfl)) ?_
   refine c5 (Pu.g fun a=>by simp only [i4 a];with_reducible exact pEq) ?_
   refine c5 (y9 _ _) ?_
   refine m8 h (fun _ h=>?_) (fun _ h=>?_)
   ·refine c5 N3 (c6 (l1 Tryz.isAgg57 (I.bring 1) rfl) ?_)
    obtain ⟨ae,af,ag,j,h⟩:=h
    obtain ⟨bf,bg,ah,j⟩:=j
    refine c5 (A0 ah _ _ _ _ ae af) (c6 (ldA (vs:=(d7 ag)) Tryz.isAgg123 Tryz.sizeOf123 rfl (I.atH j)) (c5 pAd ?_))
    refine f0 Tryz.call113 (h g0) I ?_
    rintro _ _ _ bh ai _ _ ⟨aj,rfl,rfl,h⟩
    refine c5 pAd ?_
    exact hn6 ((IntKind.wrap .i64 (b1s+1)),aj) _ _ h ((ai.bring 1).bring 1)
   ·exact hx2 _ _ (hj2 a4A H _ ((I.bring 1).bring 1) h)
  refine o6 fun j1 hx1=>?_
  refine C9 (σ:=Int×d4) (fun (b1t,a4B)=>[(vi b1t)]) (fun (b1t,a4B)=>[bx g0 133 (o7 a4B),bx b 60 (g7 x1)]) h rfl ((m.bring 1).bring 1) ?_
  rintro ⟨b1t,a4B⟩ H bi w next7 n7 k I h hn7
  dsimp only at k I h
  simp only [List.map_cons,List.map_nil,List.cons.injEq,and_true] at k
  have e6:=k
  simp only [e6]
  unfold c1w
  unfold a1z at h
  refine c5 O2 (c6 (l1 Tryz.isAgg58 (I.bring 1) rfl) (c5 (a0B _ _ _) (c5 pLs ?_)))
  simp only [z7]
  refine c5 (Pu.g fun a=>by simp only [i4 a];with_reducible exact (m2 _)) ?_
  refine c5 (Pu.g fun a=>by simp only [i4 a];with_reducible exact V5) ?_
  refine c6 (Ld.g fun a=>by simp only [i4 a];exact (l1 Tryz.isAgg3 I rfl)) ?_
  refine c5 (Pu.g fun a=>by simp only [i4 a];with_reducible exact pEq) ?_
  refine c5 (y9 _ _) ?_
  refine m8 h (fun _ h=>?_) (fun _ h=>?_)
  ·refine c5 O2 (c6 (l1 Tryz.isAgg58 (I.bring 1) rfl) ?_)
   obtain ⟨ak,al,am,l,h⟩:=h
   obtain ⟨bj,bk,an,l⟩:=l
   refine c5 (L0 an _ _ _ _ ak al) (c6 (ldA (vs:=(f7 am)) Tryz.isAgg131 Tryz.sizeOf131 rfl (I.atH l)) (c5 pAd ?_))
   refine f0 Tryz.call112 (h g0) I ?_
   rintro _ _ _ bl ao _ _ ⟨ap,rfl,rfl,h⟩
   refine c5 pAd ?_
   exact hn7 ((IntKind.wrap .i64 (b1t+1)),ap) _ _ h ((ao.bring 1).bring 1)
  ·exact hx1 _ _ (hj1 a4B H _ ((I.bring 1).bring 1) h)
def Q1(b2D:Int)(b4o:Int)(c2Q:Int)(a:i7)(d:m6)(H:Hp)(n4:(Int×Int×Int)→Hp→Prop)(K:ByteArray→Int→Hp→Prop):Prop:=
 (0:Int)≤c2Q∧(c2Q:Int)≤d.E4.c∧
 a2i (d.E4.cut 0 (c2Q:Int).toNat d.E4.c 2) a.f6 H (fun e b=>
 (0≤e→
 K a.f6 60 b)∧
 (¬(0≤e)→
 (1024 < a.N2→
 K a.f6 61 b)∧
 (¬(1024 < a.N2)→
 (((decide (32 < b2D))||(decide (16 < b4o)))=true→
 K a.f6 62 b)∧
 (((decide (32 < b2D))||(decide (16 < b4o)))=false→
 n4 (b2D,b4o,(IntKind.wrap .i64 (c2Q+1))) b))))
def a0G(a:m6)(H:Hp)(K:ByteArray→Int→Hp→Prop):Prop:=
 K ⟨#[]⟩ 0 H
def a2Y(a4C:Sl)(c:m6)(a2l:Int)(H:Hp)(n3:Int→Hp→Prop)(K:ByteArray→Int→Hp→Prop):Prop:=
 (a2l < (a4C.n:Int)→
 (0:Int)≤a2l∧(a2l:Int) < a4C.n∧∃a:d8,EltH H a4C a2l 2 (p9 a)∧
 a2i c.E4 a.f6 H (fun b d=>
 (b < 0→
 K a.f6 63 d)∧
 (¬(b < 0)→
 (0:Int)≤b∧(b:Int) < c.E4.n∧∃e:i7,EltH d c.E4 b 2 (i5 e)∧
 (((decide (0 < e.N2)) != a.b0C)=true→
 K a.f6 64 d)∧
 (((decide (0 < e.N2)) != a.b0C)=false→
 n3 (IntKind.wrap .i64 (a2l+1)) d))))∧
 (¬(a2l < (a4C.n:Int))→
 a0G c H K)
def a0H(a:m6)(H:Hp)(K:ByteArray→Int→Hp→Prop):Prop:=
 a5i a H (fun b c=>
 TL (0:Int) c fun(s:Int) H n3=>a2Y b a s H n3 K)
def a2Z(a:m6)(S6:Int)(b4p:Int)(a8V:Int)(H:Hp)(n4:(Int×Int×Int)→Hp→Prop)(K:ByteArray→Int→Hp→Prop):Prop:=
 (a8V < (a.E4.n:Int)→
 (0:Int)≤a8V∧(a8V:Int) < a.E4.n∧∃b:i7,EltH H a.E4 a8V 2 (i5 b)∧
 (b.N2=0→
 Q1 (IntKind.wrap .i64 (S6+1)) b4p a8V b a H n4 K)∧
 (¬(b.N2=0)→
 Q1 S6 (IntKind.wrap .i64 (b4p+1)) a8V b a H n4 K))∧
 (¬(a8V < (a.E4.n:Int))→
 a0H a H K)
def a4D(x0:m6)(H:Hp)(K:ByteArray→Int→Hp→Prop):Prop:=
 a4t x0 H (fun a b=>
 (¬(a=0)→
 K ⟨#[]⟩ a b)∧
 (a=0→
 TL ((0,0,0):Int×Int×Int) b fun(s:Int×Int×Int) H n4=>a2Z x0 s.1 s.2.1 s.2.2 H n4 K))
theorem b0J(x0){H K}(h:a4D x0 H K):a4u x0 H K:=by
 refine Ct.of fun w0 w ps0 H0 R E I hR=>c9t ?_
 unfold a4D at h
 unfold F25
 refine A9 I (cs:=(m5 x0)) rfl fun c au aa av=>?_
 refine c6 (lW Tryz.isAgg25 Tryz.sizeOf25 rfl aa) ?_
 refine f0 Tryz.call46 h aa ?_
 rintro _ af _ aw ab _ _ ⟨ag,rfl,rfl,h⟩
 refine c5 pNe ?_
 refine a3P h (fun _ h=>?_) (fun _ h=>?_)
 ·exact hR _ af _ _ ab.drop ⟨⟨#[]⟩,ag,rfl,rfl,h⟩
 ·have hj1:∀H w (_:Inv w0 ps0 H0 H [bx c 25 (m5 x0)] w) (_:a0H x0 H K),b9u (Value.pointer (some ⟨c,0,none⟩)) w R E:=by
   intro H w I h
   unfold b9u
   intro _
   unfold a0H at h
   refine c6 (lW Tryz.isAgg25 Tryz.sizeOf25 rfl I) ?_
   refine f0 Tryz.call48 h I ?_
   rintro _ _ _ ax ah _ _ ⟨ay,rfl,rfl,h⟩
   have hj2:∀H w (_:Inv w0 ps0 H0 H [bx c 25 (m5 x0)] w) (_:a0G x0 H K),b9t w R E:=by
    intro H w I h
    unfold b9t
    intro _
    unfold a0G at h
    exact hR _ H _ _ I.drop ⟨⟨#[]⟩,0,rfl,rfl,h⟩
   refine o6 fun j2 hx2=>?_
   refine C9 (σ:=Int) (fun a2l=>[(vi a2l)]) (fun a2l=>[bx c 25 (m5 x0)]) h rfl ah ?_
   rintro a2l H az w next3 n3 ac I h hn3
   simp only [List.map_cons,List.map_nil,List.cons.injEq,and_true] at ac
   have e10:=ac
   simp only [e10]
   unfold c4b
   unfold a2Y at h
   refine c5 (c2y _ _ _) (c5 pLs ?_)
   refine d9 h (fun _ h=>?_) (fun _ h=>?_)
   ·refine Q9 I fun ba o=>?_
    refine g8 P3 ?_
    obtain ⟨j,l,e,f,h⟩:=h
    obtain ⟨bb,bc,m,f⟩:=f
    refine g8 (b2l m _ _ _ _ j l) ?_
    refine g8 b2t ?_
    refine p6 (l1 Tryz.isAgg22 o rfl) ?_
    refine p6 (ld1 (v:=(Value.string e.f6)) Tryz.isAgg9 ((o.atH f).sub (k:=0) (n:=1) (nb rfl))) ?_
    refine f0 Tryz.call47 h o ?_
    rintro _ ad _ bd p q _ ⟨be,rfl,rfl,h⟩
    refine c5 pLs ?_
    refine d9 h (fun _ h=>?_) (fun _ h=>?_)
    ·refine c5 (b2l m _ _ _ _ j l) (c5 b2t (c6 (ld1 (v:=(Value.string e.f6)) Tryz.isAgg9 ((p.atH (f.le q)).sub (k:=0) (n:=1) (nb rfl))) ?_))
     exact hR _ ad _ _ p.drop ⟨e.f6,63,rfl,rfl,h⟩
    ·refine Q9 p fun bf i=>?_
     refine g8 P3 ?_
     refine g8 (b2l m _ _ _ _ j l) ?_
     refine g8 c0Y ?_
     refine p6 (l1 Tryz.isAgg22 i rfl) ?_
     obtain ⟨ai,aj,ak,r,h⟩:=h
     obtain ⟨bg,bh,al,r⟩:=r
     refine g8 (U7 al _ _ _ _ ai aj) ?_
     refine g8 a2f ?_
     refine p6 (ld1 (v:=(vi ak.N2)) Tryz.isAgg3 ((i.atH r).sub (k:=1) (n:=1) (nb rfl))) ?_
     refine g8 pGt ?_
     refine p6 (ld1 (v:=(vB e.b0C)) Tryz.isAgg4 ((i.atH (f.le q)).sub (k:=1) (n:=1) (nb rfl))) ?_
     refine g8 (c5F _ _ _ _) ?_
     refine m8 h (fun _ h=>?_) (fun _ h=>?_)
     ·refine c5 (b2l m _ _ _ _ j l) (c5 b2t (c6 (ld1 (v:=(Value.string e.f6)) Tryz.isAgg9 ((i.atH (f.le q)).sub (k:=0) (n:=1) (nb rfl))) ?_))
      exact hR _ ad _ _ i.drop ⟨e.f6,64,rfl,rfl,h⟩
     ·refine c5 pAd ?_
      exact hn3 (IntKind.wrap .i64 (a2l+1)) _ _ h i
   ·exact hx2 _ _ (hj2 H _ I h)
  refine o6 fun j1 hx1=>?_
  refine C9 (σ:=Int×Int×Int) (fun (S6,b4p,a8V)=>[(vi S6),(vi b4p),(vi a8V)]) (fun (S6,b4p,a8V)=>[bx c 25 (m5 x0)]) h rfl ab ?_
  rintro ⟨S6,b4p,a8V⟩ H bi w next4 n4 s I h hn4
  dsimp only at s I h
  simp only [List.map_cons,List.map_nil,List.cons.injEq,and_true] at s
  obtain ⟨e5,e6,e7⟩:=s
  simp only [e5,e6,e7]
  unfold c4c
  unfold a2Z at h
  refine c5 P3 (c6 (l1 Tryz.isAgg22 I rfl) (c5 (a0V _ _ _) (c5 pLs ?_)))
  refine d9 h (fun _ h=>?_) (fun _ h=>?_)
  ·refine c5 P3 (c6 (l1 Tryz.isAgg22 I rfl) ?_)
   obtain ⟨am,an,d,t,h⟩:=h
   obtain ⟨bj,bk,ao,t⟩:=t
   refine c5 (U7 ao _ _ _ _ am an) (c6 (ldA (vs:=(i5 d)) Tryz.isAgg70 Tryz.sizeOf70 rfl (I.atH t)) ?_)
   refine u4 I Tryz.zeroValue70 (cs:=[(eS),(vi 0)]) rfl fun ae bl ap bm=>?_
   refine y6 ap Tryz.sizeOf70 (vs:=(i5 d)) fun bn u bo=>?_
   have hj5:∀(b2D:Int)(b4o:Int) H w (_:Inv w0 ps0 H0 H [bx ae 70 (i5 d),bx c 25 (m5 x0)] w) (_:Q1 b2D b4o a8V d x0 H n4 K),b9v (Value.pointer (some ⟨c,0,none⟩)) (vi b2D) (vi b4o) (vi a8V) (Value.pointer (some ⟨ae,0,none⟩)) w next4 R E:=by
    intro b2D b4o H w I h
    unfold b9v
    intro _
    unfold Q1 at h
    refine Q9 I fun bp y=>?_
    refine g8 P3 ?_
    refine g8 T8 ?_
    refine p6 (l1 Tryz.isAgg22 (y.bring 1) rfl) ?_
    obtain ⟨aq,ar,h⟩:=h
    refine g8 (b3j Tryz.underlying22 Tryz.sizeOf70 x0.E4 aq ar) ?_
    refine p6 (l1 Tryz.isAgg9 y rfl) ?_
    refine f0 Tryz.call47 h y ?_
    rintro _ z _ bq b _ _ ⟨br,rfl,rfl,h⟩
    refine g8 pGe ?_
    refine d9 h (fun _ h=>?_) (fun _ h=>?_)
    ·refine c5 T8 (c6 (l1 Tryz.isAgg9 b rfl) ?_)
     exact hR _ z _ _ b.drop.drop ⟨d.f6,60,rfl,rfl,h⟩
    ·refine c5 a2f (c6 (l1 Tryz.isAgg3 b rfl) (c5 pGt ?_))
     refine d9 h (fun _ h=>?_) (fun _ h=>?_)
     ·refine c5 T8 (c6 (l1 Tryz.isAgg9 b rfl) ?_)
      exact hR _ z _ _ b.drop.drop ⟨d.f6,61,rfl,rfl,h⟩
     ·refine c5 pGt ?_
      simp only [z7]
      refine c5 (Pu.g fun a=>by simp only [i4 a];with_reducible exact pGt) ?_
      refine c5 (L8 _ _) ?_
      refine m8 h (fun _ h=>?_) (fun _ h=>?_)
      ·refine c5 T8 (c6 (l1 Tryz.isAgg9 b rfl) ?_)
       exact hR _ z _ _ b.drop.drop ⟨d.f6,62,rfl,rfl,h⟩
      ·refine c5 pAd ?_
       exact hn4 (b2D,b4o,(IntKind.wrap .i64 (a8V+1))) _ _ h b.drop
   refine o6 fun j5 hx5=>?_
   refine c5 a2f (c6 (l1 Tryz.isAgg3 u rfl) (c5 pEq ?_))
   refine d9 h (fun _ h=>?_) (fun _ h=>?_)
   ·refine c5 pAd ?_
    exact hx5 _ _ (hj5 (IntKind.wrap .i64 (S6+1)) b4p H _ ((u.bring 1).bring 1) h)
   ·refine c5 pAd ?_
    exact hx5 _ _ (hj5 S6 (IntKind.wrap .i64 (b4p+1)) H _ ((u.bring 1).bring 1) h)
  ·exact hx1 _ _ (hj1 H _ I h)
def C6(s8:Sl)(t6:Int)(t7:Sl)(r8:Int)(t8:Int)(y8:(List c7))(v6:Bool)(H:Hp)(K:Int→d6→(List c7)→Hp→Prop):Prop:=
 K (IntKind.wrap .i64 (r8-1)) (d6.mk (m3.mk s8 t6 t7 r8 t8 (Sl.mk none 0 0)) v6) y8 H
def a1P(x0:d6)(a:(List c7))(H:Hp)(K:Int→d6→(List c7)→Hp→Prop):Prop:=
 (4096 < (IntKind.wrap .i64 (x0.fc.p5+1))→
 C6 x0.fc.p7 x0.fc.q9 x0.fc.o9 (IntKind.wrap .i64 (x0.fc.p5+1)) x0.fc.u5 a true H K)∧
 (¬(4096 < (IntKind.wrap .i64 (x0.fc.p5+1)))→
 C6 x0.fc.p7 x0.fc.q9 x0.fc.o9 (IntKind.wrap .i64 (x0.fc.p5+1)) x0.fc.u5 a x0.fgreat H K)
theorem a8H(x0 a){H K}(h:a1P x0 a H K):A4 x0 a H K:=by
 intro g0 c d e
 refine Ct.of fun w0 w ps0 H0 R E I hR=>c9w ?_
 unfold a1P at h
 unfold F28
 refine c5 (m2 _) (c5 O1 (c5 a2b (c6 (l1 Tryz.isAgg3 I rfl) (c5 pAd ?_))))
 refine c5 (m2 _) (c5 O1 (c5 a2b ?_))
 refine C4 I Tryz.sizeOf3 fun g b i=>?_
 have hj1:∀(s8:Sl)(t6:Int)(t7:Sl)(r8:Int)(t8:Int)(v6:Bool) H w (_:Inv w0 ps0 H0 H [bx g0 77 [(vs s8),(vi t6),(vs t7),(vi r8),(vi t8),(vs c),(vB v6)],d] w) (_:C6 s8 t6 t7 r8 t8 a v6 H K),b9A (Value.pointer (some ⟨g0,0,none⟩)) w R E:=by
  intro s8 t6 t7 r8 t8 v6 H w I h
  unfold b9A
  intro _
  unfold C6 at h
  refine c5 (m2 _) (c5 O1 (c5 a2b (c6 (l1 Tryz.isAgg3 I rfl) (c5 pSu ?_))))
  exact hR _ H _ _ ((I.bring 1).bring 1) ⟨(IntKind.wrap .i64 (r8-1)),(d6.mk (m3.mk s8 t6 t7 r8 t8 (Sl.mk none 0 0)) v6),a,c,d,rfl,rfl,e,h⟩
 refine o6 fun j1 hx1=>?_
 refine c5 (m2 _) (c5 O1 (c5 a2b (c6 (l1 Tryz.isAgg3 b rfl) (c5 pGt ?_))))
 refine d9 h (fun _ h=>?_) (fun _ h=>?_)
 ·refine c5 (m2 _) (c5 a5W ?_)
  refine C4 b Tryz.sizeOf4 fun j f k=>?_
  exact hx1 _ _ (hj1 x0.fc.p7 x0.fc.q9 x0.fc.o9 (IntKind.wrap .i64 (x0.fc.p5+1)) x0.fc.u5 true H _ ((f.bring 1).bring 1) h)
 ·exact hx1 _ _ (hj1 x0.fc.p7 x0.fc.q9 x0.fc.o9 (IntKind.wrap .i64 (x0.fc.p5+1)) x0.fc.u5 x0.fgreat H _ ((b.bring 1).bring 1) h)
def a1h(x0:d6)(b:(List c7))(x1:f8)(x2:Int)(x3:Int)(H:Hp)(K:m4→Int→d6→(List c7)→Hp→Prop):Prop:=
 X0 (d5 x0) b x1 H (fun f c d=>
 ((c||x0.fgreat)=true→
 K f x2 (d5 x0) b d)∧
 ((c||x0.fgreat)=false→
 A4 (d5 x0) b d (fun e a g i=>
 a0e (d6.mk (m3.mk a.fc.p7 (if (IntKind.wrap .i64 (x3+1)) > a.fc.q9 then IntKind.wrap .i64 (x3+1) else a.fc.q9) a.fc.o9 a.fc.p5 a.fc.u5 (Sl.mk none 0 0)) a.fgreat) g x1 (IntKind.wrap .i64 ((a.fc.p7.n:Int)+x3)) x2 e x3 i (fun j k l=>
 K (m4.mk (IntKind.wrap .i64 ((a.fc.p7.n:Int)+x3)) 0) e (d5 j) k l))))
theorem a8h(x0 c x1 x2 x3){H K}(h:a1h x0 c x1 x2 x3 H K):v8 x0 c x1 x2 x3 H K:=by
 intro g0 d e f
 refine Ct.of fun w0 w ps0 H0 R E I hR=>d0h ?_
 unfold a1h at h
 unfold F83
 refine A9 I (cs:=(d7 x1)) rfl fun ai aj q ak=>?_
 refine u4 q Tryz.zeroValue38 (cs:=[(vi 0),(vi 0)]) rfl fun al am k an=>?_
 refine c6 (lW Tryz.isAgg123 Tryz.sizeOf123 rfl (k.bring 1)) ?_
 refine f0 Tryz.call79 (h g0 d e f) ((k.bring 3).bring 3) ?_
 rintro _ r _ ao s _ _ ⟨i,t,rfl,rfl,h⟩
 refine c5 (m0 _ _ _ rfl) (c5 (m0 _ _ (vB t) rfl) ?_)
 refine u4 s Tryz.zeroValue38 (cs:=[(vi 0),(vi 0)]) rfl fun ap aq u ar=>?_
 refine y6 u Tryz.sizeOf38 (vs:=(m7 i)) fun au b av=>?_
 simp only [z7]
 refine c5 (Pu.g fun a=>by simp only [i4 a];with_reducible exact (m2 _)) ?_
 refine c5 (Pu.g fun a=>by simp only [i4 a];with_reducible exact a5W) ?_
 refine c6 (Ld.g fun a=>by simp only [i4 a];exact (l1 Tryz.isAgg4 (b.bring 1) rfl)) ?_
 refine c5 (L8 _ _) ?_
 refine m8 h (fun _ h=>?_) (fun _ h=>?_)
 ·refine c6 (lW Tryz.isAgg38 Tryz.sizeOf38 rfl b) ?_
  refine y6 (b.bring 3) Tryz.sizeOf38 (vs:=(m7 i)) fun aw l ax=>?_
  refine Q0 Tryz.isAgg38 Tryz.sizeOf38 rfl l ?_
  exact hR _ r _ _ (((l.drop.drop.bring 2).drop.bring 1).bring 1) ⟨i,x2,(d5 x0),c,d,e,rfl,rfl,f,h⟩
 ·refine f0 Tryz.call28 (h g0 d e f) ((b.bring 2).bring 2) ?_
  rintro _ _ _ ay m _ _ ⟨v,o,az,y,z,rfl,rfl,aa,h⟩
  refine c5 (m2 _) (c5 O1 (c5 a6u (c6 (l1 Tryz.isAgg3 m rfl) (c5 pAd ?_))))
  refine c5 (a8e _ _ _ _ _) (c5 (m2 _) (c5 O1 (c5 a6u ?_)))
  refine C4 m Tryz.sizeOf3 fun ba j bb=>?_
  refine c5 (m2 _) (c5 O1 (c5 a4p (c6 (l1 Tryz.isAgg27 j rfl) (c5 (a4Z _ _ _) ?_))))
  refine c5 pAd (c6 (lW Tryz.isAgg123 Tryz.sizeOf123 rfl (j.bring 4)) ?_)
  refine f0 Tryz.call80 (h g0 y z aa) ((j.bring 1).bring 1) ?_
  rintro _ ab _ bc ac _ _ ⟨ad,ae,af,ag,rfl,rfl,ah,h⟩
  refine c5 (a4X _) ?_
  refine y6 (ac.bring 3) Tryz.sizeOf38 (vs:=[(vi (IntKind.wrap .i64 ((o.fc.p7.n:Int)+x3))),(vi 0)]) fun bd p be=>?_
  refine Q0 Tryz.isAgg38 Tryz.sizeOf38 rfl p ?_
  exact hR _ ab _ _ ((((p.drop.bring 2).drop.bring 2).drop.bring 1).bring 1) ⟨(m4.mk (IntKind.wrap .i64 ((o.fc.p7.n:Int)+x3)) 0),v,(d5 ad),ae,af,ag,rfl,rfl,ah,h⟩
def a1Q(x0:d6)(a:(List c7))(x1:Sl)(x2:Int)(x3:Int)(H:Hp)(K:d6→(List c7)→Hp→Prop):Prop:=
 (0 < (x1.n:Int)→
 Y3 (d5 x0) a x1 x2 x3 H (fun b c d=>
 K (d5 b) c d))∧
 (¬(0 < (x1.n:Int))→
 K (d5 x0) a H)
theorem a8I(x0 a x1 x2 x3){H K}(h:a1Q x0 a x1 x2 x3 H K):R5 x0 a x1 x2 x3 H K:=by
 intro g0 b c d
 refine Ct.of fun w0 w ps0 H0 R E I hR=>d0l ?_
 unfold a1Q at h
 unfold F87
 refine c5 (L3 _ _ _) (c5 pGt ?_)
 refine d9 h (fun _ h=>?_) (fun _ h=>?_)
 ·refine f0 Tryz.call29 (h g0 b c d) ((I.bring 1).bring 1) ?_
  rintro _ e _ m f _ _ ⟨g,i,j,k,rfl,rfl,l,h⟩
  exact hR _ e _ _ ((f.bring 1).bring 1) ⟨(d5 g),i,j,k,rfl,rfl,l,h⟩
 ·exact hR _ H _ _ ((I.bring 1).bring 1) ⟨(d5 x0),a,b,c,rfl,rfl,d,h⟩
def a2m(x0:d6)(a:(List c7))(x1:i8)(x2:Int)(x3:Int)(H:Hp)(K:d6→(List c7)→Hp→Prop):Prop:=
 (x1.c8=7→
 D1 1 x2 x3 H (fun aa ab=>
 z2 (d5 x0) a aa ab (fun ac ad ae=>
 K (d5 ac) ad ae)))∧
 (¬(x1.c8=7)→
 (x1.c8=1→
 (0:Int)≤0∧(0:Int) < x1.l7.n∧∃d:f8,EltH H x1.l7 0 4 (d7 d)∧
 X0 (d5 x0) a d H (fun af f g=>
 ((!f)=true→
 O3 (d5 x0) a x1.f6 g (fun ag ah=>
 a0e (d5 x0) a d ag x2 x3 0 ah (fun ai aj ak=>
 K (d5 ai) aj ak)))∧
 ((!f)=false→
 D1 2 x2 x3 g (fun b al=>
 O3 (d5 x0) a x1.f6 al (fun am an=>
 z2 (d5 x0) a (c7.mk b.O0 b.fTo b.c8 am b.S3 b.fOp af b.fB) an (fun ao ap aq=>
 K (d5 ao) ap aq))))))∧
 (¬(x1.c8=1)→
 (x1.c8=2→
 D1 11 x2 x3 H (fun c ar=>
 R4 (d5 x0) a x1.f6 ar (fun au i=>
 (0:Int)≤0∧(0:Int) < x1.l7.n∧∃e:f8,EltH i x1.l7 0 4 (d7 e)∧
 v8 (d5 x0) a e x2 0 i (fun av aw ax ay j=>
 (0:Int)≤1∧(1:Int) < x1.l7.n∧∃k:f8,EltH j x1.l7 1 4 (d7 k)∧
 C5 e 0 j (fun az ba=>
 v8 (d5 ax) ay k aw az ba (fun bb bc bd be bf=>
 z2 (d5 bd) be (c7.mk bc c.fTo c.c8 c.a1O au c.fOp av bb) bf (fun bg bh bi=>
 K (d5 bg) bh bi)))))))∧
 (¬(x1.c8=2)→
 (x1.c8=3→
 Q5 (d5 x0) a x1.K5 x3 H (fun l bj bk bl=>
 Q5 (d5 bj) bk x1.L2 x3 bl (fun m bm bn o=>
 (0:Int)≤0∧(0:Int) < x1.r9.n∧∃p:j8,EltH o x1.r9 0 4 (f7 p)∧
 A7 (d5 bm) bn p x2 l m o (fun bo bp bq=>
 R5 (d5 bo) bp x1.K5 l x3 bq (fun br bs bt=>
 R5 (d5 br) bs x1.L2 m x3 bt (fun bu bv bw=>
 K (d5 bu) bv bw))))))∧
 (¬(x1.c8=3)→
 (x1.c8=4→
 Q5 (d5 x0) a x1.K5 x2 H (fun q bz ca r=>
 (0:Int)≤0∧(0:Int) < x1.r9.n∧∃s:j8,EltH r x1.r9 0 4 (f7 s)∧
 A7 (d5 bz) ca s x2 q x3 r (fun cb cc cd=>
 R5 (d5 cb) cc x1.K5 q x2 cd (fun ce cf cg=>
 K (d5 ce) cf cg))))∧
 (¬(x1.c8=4)→
 (x1.c8=5→
 A4 (d5 x0) a H (fun t ch ci cj=>
 A4 (d5 ch) ci cj (fun u ck cl v=>
 (0:Int)≤0∧(0:Int) < x1.r9.n∧∃y:j8,EltH v x1.r9 0 4 (f7 y)∧
 A7 (d5 ck) cl y x2 t u v (fun cm cn co=>
 D1 13 t x3 co (fun cp cq=>
 z2 (d5 cm) cn cp cq (fun cr cs ct=>
 D1 14 u x3 ct (fun cu cv=>
 z2 (d5 cr) cs cu cv (fun cw cx cy=>
 K (d5 cw) cx cy))))))))∧
 (¬(x1.c8=5)→
 (x1.c8=6→
 (0:Int)≤0∧(0:Int) < x1.r9.n∧∃z:j8,EltH H x1.r9 0 4 (f7 z)∧
 A7 (d5 x0) a z x2 x3 x0.fc.u5 H (fun cz da db=>
 K (d5 cz) da db))∧
 (¬(x1.c8=6)→
 K (d5 x0) a H)))))))
theorem a8W(x0 s x1 x2 x3){H K}(h:a2m x0 s x1 x2 x3 H K):a2k x0 s x1 x2 x3 H K:=by
 intro g0 b c e
 refine Ct.of fun w0 w ps0 H0 R E I hR=>c9G ?_
 unfold a2m at h
 unfold F49
 refine A9 I (cs:=(g7 x1)) rfl fun ag gr f gs=>?_
 refine c5 T7 (c6 (l1 Tryz.isAgg3 f rfl) (c5 pEq ?_))
 refine d9 h (fun _ h=>?_) (fun _ h=>?_)
 ·refine f0 Tryz.call78 h f ?_
  rintro _ _ _ gt bg _ _ ⟨gu,rfl,rfl,h⟩
  refine f0 Tryz.call77 (h g0 b c e) ((bg.bring 2).bring 2) ?_
  rintro _ bh _ gv bi _ _ ⟨bj,bk,bl,bm,rfl,rfl,bn,h⟩
  exact hR _ bh _ _ (((bi.bring 2).drop.bring 1).bring 1) ⟨(d5 bj),bk,bl,bm,rfl,rfl,bn,h⟩
 ·refine c5 pEq ?_
  refine d9 h (fun _ h=>?_) (fun _ h=>?_)
  ·refine c5 N3 (c6 (l1 Tryz.isAgg57 f rfl) ?_)
   obtain ⟨ah,ai,aj,l,h⟩:=h
   obtain ⟨gw,gx,ak,l⟩:=l
   refine c5 (A0 ak _ _ _ _ ah ai) (c6 (ldA (vs:=(d7 aj)) Tryz.isAgg123 Tryz.sizeOf123 rfl (f.atH l)) ?_)
   refine f0 Tryz.call79 (h g0 b c e) ((f.bring 2).bring 2) ?_
   rintro _ _ _ gy bo t _ ⟨k,bp,rfl,rfl,h⟩
   refine c5 (m0 _ _ _ rfl) (c5 (m0 _ _ (vB bp) rfl) ?_)
   refine u4 bo Tryz.zeroValue38 (cs:=[(vi 0),(vi 0)]) rfl fun bq gz br ha=>?_
   refine y6 br Tryz.sizeOf38 (vs:=(m7 k)) fun hb al hc=>?_
   refine c5 (T1 _) ?_
   refine m8 h (fun _ h=>?_) (fun _ h=>?_)
   ·refine Q9 al fun hd j=>?_
    refine g8 N3 ?_
    refine g8 a0E ?_
    refine p6 (l1 Tryz.isAgg57 (j.bring 3) rfl) ?_
    refine g8 (A0 ak _ _ _ _ ah ai) ?_
    refine p6 (ldA (vs:=(d7 aj)) Tryz.isAgg123 Tryz.sizeOf123 rfl (j.atH (l.le t))) ?_
    refine p6 (l1 Tryz.isAgg9 (j.bring 3) rfl) ?_
    refine f0 Tryz.call81 (h g0 b c e) ((j.bring 2).bring 2) ?_
    rintro _ _ _ he bs _ am ⟨hf,rfl,rfl,h⟩
    refine ⟨(am _ (j.a1f (l.le t)) ((Inv.self (Fi:=[bx g0 77 (o3 x0 b),c]) (Fr:=[bx bq 38 (m7 k),bx ag 60 (g7 x1)]) ((j.bring 2).bring 2)).a2T (l.le t))),(am _ (j.bring 3).lt1 (Inv.U6 (Fi:=[bx g0 77 (o3 x0 b),c]) (((j.bring 3).bring 3).bring 3))),?_⟩
    refine f0 Tryz.call80 (h g0 b c e) ((bs.bring 1).bring 1) ?_
    rintro _ bt _ hg bu _ _ ⟨bv,bw,bz,ca,rfl,rfl,cb,h⟩
    exact hR _ bt _ _ ((((bu.bring 2).drop.bring 2).drop.bring 1).bring 1) ⟨(d5 bv),bw,bz,ca,rfl,rfl,cb,h⟩
   ·refine f0 Tryz.call78 h al ?_
    rintro _ _ _ hh cc _ _ ⟨d,rfl,rfl,h⟩
    refine u4 cc Tryz.zeroValue40 (cs:=[(vi 0),(vi 0),(vi 0),(vi 0),(vi 0),(vi 0),(vi 0),(vi 0),(vi 0),(vi 0)]) rfl fun hi hj cd hk=>?_
    refine y6 cd Tryz.sizeOf40 (vs:=(i6 d)) fun hl an hm=>?_
    refine c5 a0E (c6 (l1 Tryz.isAgg9 (an.bring 4) rfl) ?_)
    refine f0 Tryz.call81 (h g0 b c e) ((an.bring 3).bring 3) ?_
    rintro _ _ _ hn ce _ _ ⟨ao,rfl,rfl,h⟩
    refine c5 b0D ?_
    refine C4 (ce.bring 2) Tryz.sizeOf3 fun ho ap hp=>?_
    refine c6 (lW Tryz.isAgg38 Tryz.sizeOf38 rfl (ap.bring 3)) (c5 a2d ?_)
    refine W5 ap Tryz.sizeOf38 (vs:=(m7 k)) (cs':=[(vi d.O0),(vi d.fTo),(vi d.c8),(vi ao),(vi d.S3),(vi d.fOp),(vi k.B7),(vi k.s7),(vi d.fB.B7),(vi d.fB.s7)]) rfl rfl (nb rfl) rfl rfl fun hq aq hr=>?_
    refine c6 (ldA Tryz.isAgg40 Tryz.sizeOf40 rfl (aq.at1 (o:=0) (vs:=[(vi d.O0),(vi d.fTo),(vi d.c8),(vi ao),(vi d.S3),(vi d.fOp),(vi k.B7),(vi k.s7),(vi d.fB.B7),(vi d.fB.s7)]) (nb rfl) rfl)) ?_
    refine f0 Tryz.call77 (h g0 b c e) ((aq.bring 2).bring 2) ?_
    rintro _ cf _ hs cg _ _ ⟨ch,ci,cj,ck,rfl,rfl,cl,h⟩
    exact hR _ cf _ _ (((((cg.bring 2).drop.bring 2).drop.bring 2).drop.bring 1).bring 1) ⟨(d5 ch),ci,cj,ck,rfl,rfl,cl,h⟩
  ·refine c5 pEq ?_
   refine d9 h (fun _ h=>?_) (fun _ h=>?_)
   ·refine f0 Tryz.call78 h f ?_
    rintro _ _ _ ht cm _ _ ⟨a,rfl,rfl,h⟩
    refine u4 cm Tryz.zeroValue40 (cs:=[(vi 0),(vi 0),(vi 0),(vi 0),(vi 0),(vi 0),(vi 0),(vi 0),(vi 0),(vi 0)]) rfl fun cn hu co hv=>?_
    refine y6 co Tryz.sizeOf40 (vs:=(i6 a)) fun hw ar hx=>?_
    refine c5 a0E (c6 (l1 Tryz.isAgg9 (ar.bring 1) rfl) ?_)
    refine f0 Tryz.call82 (h g0 b c e) ((ar.bring 3).bring 3) ?_
    rintro _ _ _ hy cp _ _ ⟨p,rfl,rfl,h⟩
    refine c5 b0E ?_
    refine C4 (cp.bring 2) Tryz.sizeOf3 fun hz u ia=>?_
    refine c5 N3 (c6 (l1 Tryz.isAgg57 (u.bring 3) rfl) ?_)
    obtain ⟨au,av,aw,q,h⟩:=h
    obtain ⟨ib,ic,ax,q⟩:=q
    refine c5 (A0 ax _ _ _ _ au av) (c6 (ldA (vs:=(d7 aw)) Tryz.isAgg123 Tryz.sizeOf123 rfl (u.atH q)) ?_)
    refine f0 Tryz.call83 (h g0 b c e) ((u.bring 2).bring 2) ?_
    rintro _ _ _ id cq cr _ ⟨i,v,ct,ie,ay,az,rfl,rfl,cu,h⟩
    refine c5 (m0 _ _ _ rfl) (c5 (m0 _ _ (vi v) rfl) (c5 a2d ?_))
    refine W5 (cq.bring 2) Tryz.sizeOf38 (vs:=(m7 i)) (cs':=[(vi a.O0),(vi a.fTo),(vi a.c8),(vi a.a1O),(vi p),(vi a.fOp),(vi i.B7),(vi i.s7),(vi a.fB.B7),(vi a.fB.s7)]) rfl rfl (nb rfl) rfl rfl fun ig cv ih=>?_
    refine c5 a2e ?_
    refine C4 cv Tryz.sizeOf3 fun ii cw ij=>?_
    refine Q9 cw fun ik g=>?_
    refine g8 N3 ?_
    refine g8 a2e ?_
    refine g8 N3 ?_
    refine p6 (l1 Tryz.isAgg57 (g.bring 3) rfl) ?_
    obtain ⟨cx,cy,cz,m,h⟩:=h
    obtain ⟨il,im,da,m⟩:=m
    refine g8 (A0 da _ _ _ _ cx cy) ?_
    refine p6 (ldA (vs:=(d7 cz)) Tryz.isAgg123 Tryz.sizeOf123 rfl (g.atH m)) ?_
    refine p6 (l1 Tryz.isAgg3 g rfl) ?_
    refine p6 (l1 Tryz.isAgg57 (g.bring 3) rfl) ?_
    refine g8 (A0 ax _ _ _ _ au av) ?_
    refine p6 (ldA (vs:=(d7 aw)) Tryz.isAgg123 Tryz.sizeOf123 rfl (g.atH (q.le cr))) ?_
    refine f0 Tryz.call84 h g ?_
    rintro _ _ _ io db _ y ⟨ip,rfl,rfl,h⟩
    refine ⟨(y _ g.lt1 (Inv.U6 (Fi:=[]) g)),(y _ (g.a1f m) ((Inv.self (Fi:=[]) (Fr:=[bx cn 40 [(vi v),(vi a.fTo),(vi a.c8),(vi a.a1O),(vi p),(vi a.fOp),(vi i.B7),(vi i.s7),(vi a.fB.B7),(vi a.fB.s7)],bx g0 77 (o3 ct ay),az,bx ag 60 (g7 x1)]) g).a2T m)),(y _ (g.bring 3).lt1 (Inv.U6 (Fi:=[]) (g.bring 3))),?_⟩
    refine f0 Tryz.call83 (h g0 ay az cu) ((db.bring 2).bring 2) ?_
    rintro _ _ _ iq dc _ _ ⟨n,ba,ir,it,dd,de,rfl,rfl,df,h⟩
    refine g8 (m0 _ _ _ rfl) ?_
    refine g8 (m0 _ _ (vi ba) rfl) ?_
    refine g8 a7F ?_
    refine W5 (dc.bring 2) Tryz.sizeOf38 (vs:=(m7 n)) (cs':=[(vi v),(vi a.fTo),(vi a.c8),(vi a.a1O),(vi p),(vi a.fOp),(vi i.B7),(vi i.s7),(vi n.B7),(vi n.s7)]) rfl rfl (nb rfl) rfl rfl fun iu dg iv=>?_
    refine g8 a2e ?_
    refine C4 dg Tryz.sizeOf3 fun iw bb ix=>?_
    refine c6 (ldA Tryz.isAgg40 Tryz.sizeOf40 rfl (bb.at1 (o:=0) (vs:=[(vi ba),(vi a.fTo),(vi a.c8),(vi a.a1O),(vi p),(vi a.fOp),(vi i.B7),(vi i.s7),(vi n.B7),(vi n.s7)]) (nb rfl) rfl)) ?_
    refine f0 Tryz.call77 (h g0 dd de df) ((bb.bring 2).bring 2) ?_
    rintro _ dh _ iy di _ _ ⟨dj,dk,dl,dm,rfl,rfl,dn,h⟩
    exact hR _ dh _ _ ((((di.bring 2).drop.bring 2).drop.bring 1).bring 1) ⟨(d5 dj),dk,dl,dm,rfl,rfl,dn,h⟩
   ·refine c5 pEq ?_
    refine d9 h (fun _ h=>?_) (fun _ h=>?_)
    ·refine c5 Q7 (c6 (l1 Tryz.isAgg23 f rfl) ?_)
     refine f0 Tryz.call85 (h g0 b c e) ((f.bring 2).bring 2) ?_
     rintro _ _ _ iz bc _ _ ⟨ja,jb,jc,dp,dq,rfl,rfl,dr,h⟩
     refine c5 W9 (c6 (l1 Tryz.isAgg23 (bc.bring 2) rfl) ?_)
     refine f0 Tryz.call85 (h g0 dp dq dr) ((bc.bring 1).bring 1) ?_
     rintro _ _ _ jd z _ _ ⟨je,jf,jg,ds,dt,rfl,rfl,du,h⟩
     refine c5 O2 (c6 (l1 Tryz.isAgg58 (z.bring 2) rfl) ?_)
     obtain ⟨dv,dw,dx,aa,h⟩:=h
     obtain ⟨jh,ji,dy,aa⟩:=aa
     refine c5 (L0 dy _ _ _ _ dv dw) (c6 (ldA (vs:=(f7 dx)) Tryz.isAgg131 Tryz.sizeOf131 rfl (z.atH aa)) ?_)
     refine f0 Tryz.call86 (h g0 ds dt du) ((z.bring 1).bring 1) ?_
     rintro _ _ _ jj bd _ _ ⟨jk,jl,dz,ea,rfl,rfl,eb,h⟩
     refine c5 Q7 (c6 (l1 Tryz.isAgg23 (bd.bring 2) rfl) ?_)
     refine f0 Tryz.call87 (h g0 dz ea eb) ((bd.bring 1).bring 1) ?_
     rintro _ _ _ jm be _ _ ⟨jn,jo,ec,ed,rfl,rfl,ee,h⟩
     refine c5 W9 (c6 (l1 Tryz.isAgg23 (be.bring 2) rfl) ?_)
     refine f0 Tryz.call87 (h g0 ec ed ee) ((be.bring 1).bring 1) ?_
     rintro _ ef _ jp eg _ _ ⟨eh,ei,ej,ek,rfl,rfl,el,h⟩
     exact hR _ ef _ _ (((eg.bring 2).drop.bring 1).bring 1) ⟨(d5 eh),ei,ej,ek,rfl,rfl,el,h⟩
    ·refine c5 pEq ?_
     refine d9 h (fun _ h=>?_) (fun _ h=>?_)
     ·refine c5 Q7 (c6 (l1 Tryz.isAgg23 f rfl) ?_)
      refine f0 Tryz.call85 (h g0 b c e) ((f.bring 2).bring 2) ?_
      rintro _ _ _ jq ab _ _ ⟨jr,js,jt,em,en,rfl,rfl,eo,h⟩
      refine c5 O2 (c6 (l1 Tryz.isAgg58 (ab.bring 2) rfl) ?_)
      obtain ⟨ep,eq,er,ac,h⟩:=h
      obtain ⟨ju,jv,es,ac⟩:=ac
      refine c5 (L0 es _ _ _ _ ep eq) (c6 (ldA (vs:=(f7 er)) Tryz.isAgg131 Tryz.sizeOf131 rfl (ab.atH ac)) ?_)
      refine f0 Tryz.call86 (h g0 em en eo) ((ab.bring 1).bring 1) ?_
      rintro _ _ _ jw bf _ _ ⟨jx,jy,et,eu,rfl,rfl,ev,h⟩
      refine c5 Q7 (c6 (l1 Tryz.isAgg23 (bf.bring 2) rfl) ?_)
      refine f0 Tryz.call87 (h g0 et eu ev) ((bf.bring 1).bring 1) ?_
      rintro _ ew _ jz ex _ _ ⟨ey,ez,fa,fb,rfl,rfl,fc,h⟩
      exact hR _ ew _ _ (((ex.bring 2).drop.bring 1).bring 1) ⟨(d5 ey),ez,fa,fb,rfl,rfl,fc,h⟩
     ·refine c5 pEq ?_
      refine d9 h (fun _ h=>?_) (fun _ h=>?_)
      ·refine f0 Tryz.call28 (h g0 b c e) ((f.bring 2).bring 2) ?_
       rintro _ _ _ ka fd _ _ ⟨kb,kc,kd,fe,ff,rfl,rfl,fg,h⟩
       refine f0 Tryz.call28 (h g0 fe ff fg) ((fd.bring 1).bring 1) ?_
       rintro _ _ _ ke ad _ _ ⟨kf,kg,kh,fh,fi,rfl,rfl,fj,h⟩
       refine c5 O2 (c6 (l1 Tryz.isAgg58 (ad.bring 2) rfl) ?_)
       obtain ⟨fk,fl,fm,ae,h⟩:=h
       obtain ⟨ki,kj,fn,ae⟩:=ae
       refine c5 (L0 fn _ _ _ _ fk fl) (c6 (ldA (vs:=(f7 fm)) Tryz.isAgg131 Tryz.sizeOf131 rfl (ad.atH ae)) ?_)
       refine f0 Tryz.call86 (h g0 fh fi fj) ((ad.bring 1).bring 1) ?_
       rintro _ _ _ kk fo _ _ ⟨kl,km,fp,fq,rfl,rfl,fs,h⟩
       refine f0 Tryz.call78 h fo ?_
       rintro _ _ _ kn ft _ _ ⟨ko,rfl,rfl,h⟩
       refine f0 Tryz.call77 (h g0 fp fq fs) ((ft.bring 1).bring 1) ?_
       rintro _ _ _ kp fu _ _ ⟨kq,kr,fv,fw,rfl,rfl,fx,h⟩
       refine f0 Tryz.call78 h fu ?_
       rintro _ _ _ ks fy _ _ ⟨kt,rfl,rfl,h⟩
       refine f0 Tryz.call77 (h g0 fv fw fx) ((fy.bring 1).bring 1) ?_
       rintro _ fz _ ku ga _ _ ⟨gb,gc,gd,ge,rfl,rfl,gf,h⟩
       exact hR _ fz _ _ (((ga.bring 2).drop.bring 1).bring 1) ⟨(d5 gb),gc,gd,ge,rfl,rfl,gf,h⟩
      ·refine c5 pEq ?_
       refine d9 h (fun _ h=>?_) (fun _ h=>?_)
       ·refine Q9 f fun kv r=>?_
        refine g8 O2 ?_
        refine g8 (m2 _) ?_
        refine g8 O1 ?_
        refine g8 a5V ?_
        refine p6 (l1 Tryz.isAgg58 r rfl) ?_
        obtain ⟨gg,gh,gi,af,h⟩:=h
        obtain ⟨kw,kx,gj,af⟩:=af
        refine g8 (L0 gj _ _ _ _ gg gh) ?_
        refine p6 (ldA (vs:=(f7 gi)) Tryz.isAgg131 Tryz.sizeOf131 rfl (r.atH af)) ?_
        refine p6 (l1 Tryz.isAgg3 (r.bring 1) rfl) ?_
        refine f0 Tryz.call86 (h g0 b c e) ((r.bring 2).bring 2) ?_
        rintro _ gk _ ky gl _ _ ⟨gm,gn,go,gp,rfl,rfl,gq,h⟩
        exact hR _ gk _ _ (((gl.bring 2).drop.bring 1).bring 1) ⟨(d5 gm),gn,go,gp,rfl,rfl,gq,h⟩
       ·exact hR _ H _ _ ((f.drop.bring 1).bring 1) ⟨(d5 x0),s,b,c,rfl,rfl,e,h⟩
def a3W(x0:f9)(a:(List c7))(H:Hp)(K:Int→f9→(List c7)→Hp→Prop):Prop:=
 K (IntKind.wrap .i64 ((IntKind.wrap .i64 (x0.fc.p5+1))-1)) (f9.mk (m3.mk x0.fc.p7 x0.fc.q9 x0.fc.o9 (IntKind.wrap .i64 (x0.fc.p5+1)) x0.fc.u5 (Sl.mk none 0 0)) x0.fvars x0.farrays) a H
theorem b0s(x0 a){H K}(h:a3W x0 a H K):E7 x0 a H K:=by
 intro g0 c d e
 refine Ct.of fun w0 w ps0 H0 R E I hR=>c9r ?_
 unfold a3W at h
 unfold F23
 refine c5 (m2 _) (c5 T9 (c5 a2b (c6 (l1 Tryz.isAgg3 I rfl) (c5 pAd ?_))))
 refine c5 (m2 _) (c5 T9 (c5 a2b ?_))
 refine C4 I Tryz.sizeOf3 fun f b g=>?_
 refine c5 (m2 _) (c5 T9 (c5 a2b (c6 (l1 Tryz.isAgg3 b rfl) (c5 pSu ?_))))
 exact hR _ H _ _ ((b.bring 1).bring 1) ⟨(IntKind.wrap .i64 ((IntKind.wrap .i64 (x0.fc.p5+1))-1)),(f9.mk (m3.mk x0.fc.p7 x0.fc.q9 x0.fc.o9 (IntKind.wrap .i64 (x0.fc.p5+1)) x0.fc.u5 (Sl.mk none 0 0)) x0.fvars x0.farrays),a,c,d,rfl,rfl,e,h⟩
def a3X(x0:f9)(f:(List c7))(x1:f8)(H:Hp)(K:m4→Bool→Hp→Prop):Prop:=
 (x1.c8=1→
 K (m4.mk (-1) x1.s7) true H)∧
 (¬(x1.c8=1)→
 ∃a:f8,((decide (x1.c8=5))=true→(0:Int)≤0∧(0:Int) < x1.u1.n∧EltH H x1.u1 0 4 (d7 a))∧
 (((decide (x1.c8=5))&&(decide (a.c8=1)))=true→
 (0:Int)≤0∧(0:Int) < x1.u1.n∧∃b:f8,EltH H x1.u1 0 4 (d7 b)∧
 K (m4.mk (-1) (IntKind.wrap .i64 (0-b.s7))) true H)∧
 (((decide (x1.c8=5))&&(decide (a.c8=1)))=false→
 (x1.c8=2→
 ∃c:List (ByteArray×Int),MapH H (fun s:ByteArray=>Value.string s) (fun n:Int=>Value.int .i64 n) x0.fvars c∧
 K (m4.mk ((lk x1.f6 c).getD 0) 0) true H)∧
 (¬(x1.c8=2)→
 a2h H (fun d e=>
 K d false e))))
theorem b0t(x0 j x1){H K}(h:a3X x0 j x1 H K):a1o x0 j x1 H K:=by
 intro g0 ad ae af
 refine Ct.of fun w0 w ps0 H0 R E I hR=>d0u ?_
 unfold a3X at h
 unfold F96
 refine A9 I (cs:=(d7 x1)) rfl fun ag ah s ai=>?_
 refine u4 s Tryz.zeroValue38 (cs:=[(vi 0),(vi 0)]) rfl fun aj ak c al=>?_
 refine c5 C2 (c6 (l1 Tryz.isAgg3 (c.bring 1) rfl) (c5 pEq ?_))
 refine d9 h (fun _ h=>?_) (fun _ h=>?_)
 ·refine c5 a4Y (c6 (l1 Tryz.isAgg2 (c.bring 1) rfl) (c5 (a8l _ _) ?_))
  refine y6 c Tryz.sizeOf38 (vs:=[(vi (-1)),(vi x1.s7)]) fun am l an=>?_
  refine Q0 Tryz.isAgg38 Tryz.sizeOf38 rfl l ?_
  exact hR _ H _ _ ((l.drop.drop.bring 1).bring 1) ⟨(m4.mk (-1) x1.s7),true,rfl,rfl,h⟩
 ·refine c5 C2 (c6 (l1 Tryz.isAgg3 (c.bring 1) rfl) (c5 pEq ?_))
  refine c5 (Pu.g fun a=>by with_reducible exact C3) ?_
  refine c6 (Ld.g fun a=>by simp only [i4 a];exact (l1 Tryz.isAgg57 (c.bring 1) rfl)) ?_
  obtain ⟨e,b,h⟩:=h
  obtain ⟨ao,ap,b⟩:=b4K b
  refine c5 (Pu.g fun hb=>by have a:=hb;simp only [i4 a];with_reducible exact (A0 (b hb).2.2.1 _ _ _ _ (b hb).1 (b hb).2.1)) ?_
  refine c5 (Pu.g fun a=>by simp only [i4 a];with_reducible exact C2) ?_
  refine c6 (Ld.g fun hb=>by have a:=hb;simp only [i4 a];exact (ld1 (v:=(vi e.c8)) Tryz.isAgg3 ((c.atH (b hb).2.2.2).sub (k:=0) (n:=1) (nb rfl)))) ?_
  refine c5 (Pu.g fun a=>by simp only [i4 a];with_reducible exact pEq) ?_
  refine c5 (y9 _ _) ?_
  refine m8 h (fun _ h=>?_) (fun _ h=>?_)
  ·refine c5 C3 (c6 (l1 Tryz.isAgg57 (c.bring 1) rfl) ?_)
   obtain ⟨t,u,f,i,h⟩:=h
   obtain ⟨aq,ar,y,i⟩:=i
   refine c5 (A0 y _ _ _ _ t u) (c5 a4Y (c6 (ld1 (v:=(vi f.s7)) Tryz.isAgg2 ((c.atH i).sub (k:=1) (n:=1) (nb rfl))) (c5 (c3F _ _) (c5 (a8l _ _) ?_))))
   refine y6 c Tryz.sizeOf38 (vs:=[(vi (-1)),(vi (IntKind.wrap .i64 (0-f.s7)))]) fun au m av=>?_
   refine Q0 Tryz.isAgg38 Tryz.sizeOf38 rfl m ?_
   exact hR _ H _ _ ((m.drop.drop.bring 1).bring 1) ⟨(m4.mk (-1) (IntKind.wrap .i64 (0-f.s7))),true,rfl,rfl,h⟩
  ·refine c5 C2 (c6 (l1 Tryz.isAgg3 (c.bring 1) rfl) (c5 pEq ?_))
   refine d9 h (fun _ h=>?_) (fun _ h=>?_)
   ·refine Q9 c fun aw d=>?_
    refine g8 (m2 _) ?_
    refine g8 b3q ?_
    refine g8 a1V ?_
    refine p6 (l1 Tryz.isAgg66 (d.bring 2) rfl) ?_
    refine p6 (l1 Tryz.isAgg9 (d.bring 1) rfl) ?_
    obtain ⟨o,aa,h⟩:=h
    refine b3n (keyS Tryz.underlying9) Tryz.underlying66 (z:=0) Tryz.zeroValue3 d aa x1.f6 ?_
    refine g8 (a4X _) ?_
    refine y6 d Tryz.sizeOf38 (vs:=[(vi ((lk x1.f6 o).getD 0)),(vi 0)]) fun ax p ay=>?_
    refine Q0 Tryz.isAgg38 Tryz.sizeOf38 rfl p ?_
    exact hR _ H _ _ ((p.drop.drop.bring 1).bring 1) ⟨(m4.mk ((lk x1.f6 o).getD 0) 0),true,rfl,rfl,h⟩
   ·refine f0 Tryz.call58 h c ?_
    rintro _ ab _ az ac _ _ ⟨q,rfl,rfl,h⟩
    refine y6 ac Tryz.sizeOf38 (vs:=(m7 q)) fun ba r bb=>?_
    refine Q0 Tryz.isAgg38 Tryz.sizeOf38 rfl r ?_
    exact hR _ ab _ _ ((r.drop.drop.bring 1).bring 1) ⟨q,false,rfl,rfl,h⟩
def b0A(x0:Int)(x1:Int)(x2:Int)(H:Hp)(K:c7→Hp→Prop):Prop:=
 a2h H (fun a b=>
 a2h b (fun c d=>
 K (c7.mk x0 x1 x2 (-1) (-1) 0 a c) d))
theorem b5n(x0 x1 x2){H K}(h:b0A x0 x1 x2 H K):O9 x0 x1 x2 H K:=by
 refine Ct.of fun w0 w ps0 H0 R E I hR=>c9R ?_
 unfold b0A at h
 unfold F67
 refine u4 I Tryz.zeroValue40 (cs:=[(vi 0),(vi 0),(vi 0),(vi 0),(vi 0),(vi 0),(vi 0),(vi 0),(vi 0),(vi 0)]) rfl fun i j d k=>?_
 refine f0 Tryz.call58 h d ?_
 rintro _ _ _ l e _ _ ⟨a,rfl,rfl,h⟩
 refine f0 Tryz.call58 h e ?_
 rintro _ f _ m g _ _ ⟨b,rfl,rfl,h⟩
 refine c5 (a7S _ _ _ _ _ _ _ _ _) ?_
 refine y6 g Tryz.sizeOf40 (vs:=[(vi x0),(vi x1),(vi x2),(vi (-1)),(vi (-1)),(vi 0),(vi a.B7),(vi a.s7),(vi b.B7),(vi b.s7)]) fun n c o=>?_
 refine Q0 Tryz.isAgg40 Tryz.sizeOf40 rfl c ?_
 exact hR _ f _ _ c.drop ⟨(c7.mk x0 x1 x2 (-1) (-1) 0 a b),rfl,rfl,h⟩
def a6x(x0:i7)(H:Hp)(K:f5→Hp→Prop):Prop:=
 K (f5.O5 (a0D.mk x0)) H
theorem b3x(x0){H K}(h:a6x x0 H K):a8Q x0 H K:=by
 refine Ct.of fun w0 w ps0 H0 R E I hR=>c7K ?_
 unfold a6x at h
 unfold d0S
 refine A9 I (cs:=(i5 x0)) rfl fun b c a d=>?_
 refine c6 (lW Tryz.isAgg70 Tryz.sizeOf70 rfl a) (c5 (b9n _ _) (c5 (b6J (a0D.mk x0)) ?_))
 exact hR _ H _ _ a.drop ⟨(f5.O5 (a0D.mk x0)),rfl,rfl,h⟩
def D5(a2o:(List f5))(H:Hp)(K:Sl→Hp→Prop):Prop:=
 ∀(N4:Sl)(a:Hp),Hle H a→SlH a 1 v7 N4 a2o→N4.n≤N4.c→
 K N4 a
def D6(a4E:Sl)(a5n:Int)(B9:(List f5))(u6:Int)(H:Hp)(n2:((List f5)×Int)→Hp→Prop)(K:Sl→Hp→Prop):Prop:=
 (u6 < a5n→
 (0:Int)≤u6∧(u6:Int) < a4E.n∧∃a:i7,EltH H a4E u6 2 (i5 a)∧
 a8Q a H (fun b c=>
 (B9.length+([b]:List f5).length)*17≤140737488355328∧
 n2 ((B9++[b]),(IntKind.wrap .i64 (u6+1))) c))∧
 (¬(u6 < a5n)→
 D5 B9 H K)
def M3(x0:Sl)(H:Hp)(K:Sl→Hp→Prop):Prop:=
 TL (([],0):(List f5)×Int) H fun(s:(List f5)×Int) H n2=>D6 x0 (x0.n:Int) s.1 s.2 H n2 K
theorem a3b(x0){H K}(h:M3 x0 H K):L9 x0 H K:=by
 refine Ct.of fun w0 w ps0 H0 R E I hR=>c7J ?_
 unfold M3 at h
 unfold d0R
 have hj1:∀(a2o:(List f5))(N4:Sl)(Fs5j1:Frag) H w (_:RowL 182 1 v7 N4 a2o Fs5j1) (_:Inv w0 ps0 H0 H [Fs5j1] w) (_:D5 a2o H K),b7o (vs N4) w R E:=by
  intro a2o N4 Fs5j1 H w b3y I h
  unfold b7o
  intro _
  unfold D5 at h
  obtain ⟨j,q,r,t,u⟩:=Inv.freezeC I b3y (by decide)
  replace h:=h N4 j r t u
  exact hR _ j _ _ q ⟨N4,rfl,rfl,h⟩
 refine o6 fun j1 hx1=>?_
 refine c5 (a0V _ _ _) ?_
 obtain ⟨f,d,v,y⟩:=h
 refine L5 (J:=fun n l w=>∃(s:(List f5)×Int)(H:Hp)(a2p:Sl)(Fs5l2:Frag),n=d s∧l=(match s with | (B9,u6)=>[(vs a2p),(vi u6)])∧(match s with | (B9,u6)=>RowL 182 1 v7 a2p B9 Fs5l2)∧(match s with | (B9,u6)=>Inv w0 ps0 H0 H [Fs5l2] w)∧f s H) ⟨_,([],0),H,(Sl.mk none 0 0),[],rfl,rfl,(RowL.nil U8 a0b),I.nil,v⟩ ?_
 rintro am an w next2 ⟨⟨B9,u6⟩,H,a2p,Fs5l2,rfl,g,a6y,I,z⟩ hn2
 dsimp only at g I a6y
 simp only [List.map_cons,List.map_nil,List.cons.injEq,and_true] at g
 obtain ⟨e5,e10⟩:=g
 simp only [e5,e10]
 obtain ⟨n2,hm2,h⟩:∃n2:((List f5)×Int)→Hp→Prop,(∀s' H',n2 s' H'→f s' H'∧d s' < d (B9,u6))∧D6 x0 (x0.n:Int) B9 u6 H n2 K:=⟨_,fun _ _ h=>h,y (B9,u6) H (fun s' H'=>f s' H'∧d s' < d (B9,u6)) z (fun _ _ a b=>⟨a,b⟩)⟩
 unfold c1O
 unfold D6 at h
 refine c5 pLs ?_
 refine d9 h (fun _ h=>?_) (fun _ h=>?_)
 ·obtain ⟨aa,ab,k,i,h⟩:=h
  obtain ⟨ao,ap,ac,i⟩:=i
  refine c5 (U7 ac _ _ _ _ aa ab) (c6 (ldA (vs:=(i5 k)) Tryz.isAgg70 Tryz.sizeOf70 rfl (I.atH i)) ?_)
  refine u4 I Tryz.zeroValue70 (cs:=[(eS),(vi 0)]) rfl fun aq ar ad au=>?_
  refine y6 ad Tryz.sizeOf70 (vs:=(i5 k)) fun av m aw=>?_
  refine c6 (lW Tryz.isAgg70 Tryz.sizeOf70 rfl m) ?_
  refine f0 Tryz.call120 h m ?_
  rintro _ ae _ ax af _ _ ⟨o,rfl,rfl,h⟩
  refine a3v (e:=182) (c:=v7) (xs:=[o]) af (b3u _) rfl rfl U8 a0b (nb rfl) fun ay az ba ag p bb=>?_
  obtain ⟨ah,h⟩:=h
  refine b2S (s:=a2p) (xs:=B9) (p.bring 2) a6y (ag.srcO ((p.bring 2).bring 1)) ah fun ai aj bc ak al bd=>?_
  refine c5 pAd ?_
  exact hn2 _ _ _ (hm2 _ _ h).2 ⟨((B9++[o]),(IntKind.wrap .i64 (u6+1))),ae,ai,aj,rfl,rfl,ak,((al.bring 1).drop.bring 1).drop,(hm2 _ _ h).1⟩
 ·exact hx1 _ _ (hj1 B9 a2p Fs5l2 H _ a6y I h)
def G7(b4P:Bool)(a:Int)(H:Hp)(K:Int→Hp→Prop):Prop:=
 (b4P=true→
 K 3 H)∧
 (b4P=false→
 K 6 H)
def S7(b4Q:Bool)(a:Int)(H:Hp)(K:Int→Hp→Prop):Prop:=
 (b4Q=true→
 K 6 H)∧
 (b4Q=false→
 O4 48 57 a H (fun g b=>
 (g=true→
 K 4 b)∧
 (g=false→
 (a=95→
 G7 (decide (a=95)) a b K)∧
 (¬(a=95)→
 O4 97 122 a b (fun c i=>
 (c=true→
 G7 c a i K)∧
 (c=false→
 O4 65 90 a i (fun d j=>
 (d=true→
 G7 d a j K)∧
 (d=false→
 O4 192 591 a j (fun e k=>
 (e=true→
 G7 e a k K)∧
 (e=false→
 O4 913 969 a k (fun f l=>
 (f=true→
 G7 f a l K)∧
 (f=false→
 O4 1040 1103 a l (fun m n=>
 G7 m a n K)))))))))))))
def p8(b3w:Int)(b3z:Bool)(a:Int)(H:Hp)(K:Int→Hp→Prop):Prop:=
 (b3z=true→
 K 5 H)∧
 (b3z=false→
 (b3w=215→
 S7 (decide (b3w=215)) a H K)∧
 (¬(b3w=215)→
 (b3w=247→
 S7 (decide (b3w=247)) a H K)∧
 (¬(b3w=247)→
 S7 (decide (b3w=930)) a H K)))
def S8(u7:Int)(a3B:Bool)(a:Int)(H:Hp)(K:Int→Hp→Prop):Prop:=
 (a3B=true→
 K 1 H)∧
 (a3B=false→
 (u7=10→
 K 2 H)∧
 (¬(u7=10)→
 (u7=59→
 p8 u7 (decide (u7=59)) a H K)∧
 (¬(u7=59)→
 (u7=44→
 p8 u7 (decide (u7=44)) a H K)∧
 (¬(u7=44)→
 (u7=123→
 p8 u7 (decide (u7=123)) a H K)∧
 (¬(u7=123)→
 (u7=125→
 p8 u7 (decide (u7=125)) a H K)∧
 (¬(u7=125)→
 (u7=40→
 p8 u7 (decide (u7=40)) a H K)∧
 (¬(u7=40)→
 (u7=41→
 p8 u7 (decide (u7=41)) a H K)∧
 (¬(u7=41)→
 (u7=91→
 p8 u7 (decide (u7=91)) a H K)∧
 (¬(u7=91)→
 (u7=93→
 p8 u7 (decide (u7=93)) a H K)∧
 (¬(u7=93)→
 (u7=61→
 p8 u7 (decide (u7=61)) a H K)∧
 (¬(u7=61)→
 (u7=33→
 p8 u7 (decide (u7=33)) a H K)∧
 (¬(u7=33)→
 (u7=60→
 p8 u7 (decide (u7=60)) a H K)∧
 (¬(u7=60)→
 (u7=62→
 p8 u7 (decide (u7=62)) a H K)∧
 (¬(u7=62)→
 (u7=43→
 p8 u7 (decide (u7=43)) a H K)∧
 (¬(u7=43)→
 (u7=45→
 p8 u7 (decide (u7=45)) a H K)∧
 (¬(u7=45)→
 (u7=42→
 p8 u7 (decide (u7=42)) a H K)∧
 (¬(u7=42)→
 (u7=47→
 p8 u7 (decide (u7=47)) a H K)∧
 (¬(u7=47)→
 (u7=37→
 p8 u7 (decide (u7=37)) a H K)∧
 (¬(u7=37)→
 (u7=38→
 p8 u7 (decide (u7=38)) a H K)∧
 (¬(u7=38)→
 p8 u7 (decide (u7=124)) a H K))))))))))))))))))))
def a7c(x0:Int)(H:Hp)(K:Int→Hp→Prop):Prop:=
 (x0=32→
 S8 x0 (decide (x0=32)) x0 H K)∧
 (¬(x0=32)→
 (x0=9→
 S8 x0 (decide (x0=9)) x0 H K)∧
 (¬(x0=9)→
 S8 x0 (decide (x0=13)) x0 H K))
theorem b4d(x0){H K}(h:a7c x0 H K):a5E x0 H K:=by
 refine Ct.of fun w0 w ps0 H0 R E I hR=>c7X ?_
 unfold a7c at h
 unfold d1f
 refine A9 I (cs:=[(Value.int .i32 x0)]) rfl fun a u b v=>?_
 refine c6 (l1 Tryz.isAgg21 b rfl) ?_
 have hj1:∀(a3B:Bool) H w (_:Inv w0 ps0 H0 H [bx a 21 [(Value.int .i32 x0)]] w) (_:S8 x0 a3B x0 H K),b7y (Value.pointer (some ⟨a,0,none⟩)) (Value.int .i32 x0) (vB a3B) w R E:=by
  intro a3B H w I h
  unfold b7y
  intro _
  unfold S8 at h
  refine m8 h (fun _ h=>?_) (fun _ h=>?_)
  ·exact hR _ H _ _ I.drop ⟨1,rfl,rfl,h⟩
  ·refine c5 pEq ?_
   refine d9 h (fun _ h=>?_) (fun _ h=>?_)
   ·exact hR _ H _ _ I.drop ⟨2,rfl,rfl,h⟩
   ·have hj2:∀(b3z:Bool) H w (_:Inv w0 ps0 H0 H [bx a 21 [(Value.int .i32 x0)]] w) (_:p8 x0 b3z x0 H K),b7x (Value.pointer (some ⟨a,0,none⟩)) (Value.int .i32 x0) (vB b3z) w R E:=by
     intro b3z H w I h
     unfold b7x
     intro _
     unfold p8 at h
     refine m8 h (fun _ h=>?_) (fun _ h=>?_)
     ·exact hR _ H _ _ I.drop ⟨5,rfl,rfl,h⟩
     ·have hj3:∀(b4Q:Bool) H w (_:Inv w0 ps0 H0 H [bx a 21 [(Value.int .i32 x0)]] w) (_:S7 b4Q x0 H K),b7w (Value.pointer (some ⟨a,0,none⟩)) (vB b4Q) w R E:=by
       intro b4Q H w I h
       unfold b7w
       intro _
       unfold S7 at h
       refine m8 h (fun _ h=>?_) (fun _ h=>?_)
       ·exact hR _ H _ _ I.drop ⟨6,rfl,rfl,h⟩
       ·refine c5 (a9T _ _ _) ?_
        refine a8M (cap:=[(Value.pointer (some ⟨a,0,none⟩))]) Tryz.call138 (h a) I ?_
        rintro _ d _ y c _ _ ⟨z,rfl,rfl,h⟩
        refine m8 h (fun _ h=>?_) (fun _ h=>?_)
        ·exact hR _ d _ _ c.drop ⟨4,rfl,rfl,h⟩
        ·have hj4:∀(b4P:Bool) H w (_:Inv w0 ps0 H0 H [bx a 21 [(Value.int .i32 x0)]] w) (_:G7 b4P x0 H K),b7v (vB b4P) w R E:=by
          intro b4P H w I h
          unfold b7v
          intro _
          unfold G7 at h
          refine m8 h (fun _ h=>?_) (fun _ h=>?_)
          ·exact hR _ H _ _ I.drop ⟨3,rfl,rfl,h⟩
          ·exact hR _ H _ _ I.drop ⟨6,rfl,rfl,h⟩
         refine o6 fun j4 hx4=>?_
         refine c6 (l1 Tryz.isAgg21 c rfl) (c5 pEq ?_)
         refine d9 h (fun _ h=>?_) (fun _ h=>?_)
         ·exact hx4 _ _ (hj4 (decide (x0=95)) d _ c h)
         ·refine a8M (cap:=[(Value.pointer (some ⟨a,0,none⟩))]) Tryz.call138 (h a) c ?_
          rintro _ j _ aa e _ _ ⟨k,rfl,rfl,h⟩
          refine m8 h (fun _ h=>?_) (fun _ h=>?_)
          ·exact hx4 _ _ (hj4 k j _ e h)
          ·refine a8M (cap:=[(Value.pointer (some ⟨a,0,none⟩))]) Tryz.call138 (h a) e ?_
           rintro _ l _ ab f _ _ ⟨m,rfl,rfl,h⟩
           refine m8 h (fun _ h=>?_) (fun _ h=>?_)
           ·exact hx4 _ _ (hj4 m l _ f h)
           ·refine a8M (cap:=[(Value.pointer (some ⟨a,0,none⟩))]) Tryz.call138 (h a) f ?_
            rintro _ n _ ac g _ _ ⟨o,rfl,rfl,h⟩
            refine m8 h (fun _ h=>?_) (fun _ h=>?_)
            ·exact hx4 _ _ (hj4 o n _ g h)
            ·refine a8M (cap:=[(Value.pointer (some ⟨a,0,none⟩))]) Tryz.call138 (h a) g ?_
             rintro _ p _ ad i _ _ ⟨q,rfl,rfl,h⟩
             refine m8 h (fun _ h=>?_) (fun _ h=>?_)
             ·exact hx4 _ _ (hj4 q p _ i h)
             ·refine a8M (cap:=[(Value.pointer (some ⟨a,0,none⟩))]) Tryz.call138 (h a) i ?_
              rintro _ r _ ae s _ _ ⟨t,rfl,rfl,h⟩
              exact hx4 _ _ (hj4 t r _ s h)
      refine o6 fun j3 hx3=>?_
      refine c5 pEq ?_
      refine d9 h (fun _ h=>?_) (fun _ h=>?_)
      ·exact hx3 _ _ (hj3 (decide (x0=215)) H _ I h)
      ·refine c5 pEq ?_
       refine d9 h (fun _ h=>?_) (fun _ h=>?_)
       ·exact hx3 _ _ (hj3 (decide (x0=247)) H _ I h)
       ·refine c5 pEq ?_
        exact hx3 _ _ (hj3 (decide (x0=930)) H _ I h)
    refine o6 fun j2 hx2=>?_
    refine c5 pEq ?_
    refine d9 h (fun _ h=>?_) (fun _ h=>?_)
    ·exact hx2 _ _ (hj2 (decide (x0=59)) H _ I h)
    ·refine c5 pEq ?_
     refine d9 h (fun _ h=>?_) (fun _ h=>?_)
     ·exact hx2 _ _ (hj2 (decide (x0=44)) H _ I h)
     ·refine c5 pEq ?_
      refine d9 h (fun _ h=>?_) (fun _ h=>?_)
      ·exact hx2 _ _ (hj2 (decide (x0=123)) H _ I h)
      ·refine c5 pEq ?_
       refine d9 h (fun _ h=>?_) (fun _ h=>?_)
       ·exact hx2 _ _ (hj2 (decide (x0=125)) H _ I h)
       ·refine c5 pEq ?_
        refine d9 h (fun _ h=>?_) (fun _ h=>?_)
        ·exact hx2 _ _ (hj2 (decide (x0=40)) H _ I h)
        ·refine c5 pEq ?_
         refine d9 h (fun _ h=>?_) (fun _ h=>?_)
         ·exact hx2 _ _ (hj2 (decide (x0=41)) H _ I h)
         ·refine c5 pEq ?_
          refine d9 h (fun _ h=>?_) (fun _ h=>?_)
          ·exact hx2 _ _ (hj2 (decide (x0=91)) H _ I h)
          ·refine c5 pEq ?_
           refine d9 h (fun _ h=>?_) (fun _ h=>?_)
           ·exact hx2 _ _ (hj2 (decide (x0=93)) H _ I h)
           ·refine c5 pEq ?_
            refine d9 h (fun _ h=>?_) (fun _ h=>?_)
            ·exact hx2 _ _ (hj2 (decide (x0=61)) H _ I h)
            ·refine c5 pEq ?_
             refine d9 h (fun _ h=>?_) (fun _ h=>?_)
             ·exact hx2 _ _ (hj2 (decide (x0=33)) H _ I h)
             ·refine c5 pEq ?_
              refine d9 h (fun _ h=>?_) (fun _ h=>?_)
              ·exact hx2 _ _ (hj2 (decide (x0=60)) H _ I h)
              ·refine c5 pEq ?_
               refine d9 h (fun _ h=>?_) (fun _ h=>?_)
               ·exact hx2 _ _ (hj2 (decide (x0=62)) H _ I h)
               ·refine c5 pEq ?_
                refine d9 h (fun _ h=>?_) (fun _ h=>?_)
                ·exact hx2 _ _ (hj2 (decide (x0=43)) H _ I h)
                ·refine c5 pEq ?_
                 refine d9 h (fun _ h=>?_) (fun _ h=>?_)
                 ·exact hx2 _ _ (hj2 (decide (x0=45)) H _ I h)
                 ·refine c5 pEq ?_
                  refine d9 h (fun _ h=>?_) (fun _ h=>?_)
                  ·exact hx2 _ _ (hj2 (decide (x0=42)) H _ I h)
                  ·refine c5 pEq ?_
                   refine d9 h (fun _ h=>?_) (fun _ h=>?_)
                   ·exact hx2 _ _ (hj2 (decide (x0=47)) H _ I h)
                   ·refine c5 pEq ?_
                    refine d9 h (fun _ h=>?_) (fun _ h=>?_)
                    ·exact hx2 _ _ (hj2 (decide (x0=37)) H _ I h)
                    ·refine c5 pEq ?_
                     refine d9 h (fun _ h=>?_) (fun _ h=>?_)
                     ·exact hx2 _ _ (hj2 (decide (x0=38)) H _ I h)
                     ·refine c5 pEq ?_
                      exact hx2 _ _ (hj2 (decide (x0=124)) H _ I h)
 refine o6 fun j1 hx1=>?_
 refine c5 pEq ?_
 refine d9 h (fun _ h=>?_) (fun _ h=>?_)
 ·exact hx1 _ _ (hj1 (decide (x0=32)) H _ b h)
 ·refine c5 pEq ?_
  refine d9 h (fun _ h=>?_) (fun _ h=>?_)
  ·exact hx1 _ _ (hj1 (decide (x0=9)) H _ b h)
  ·refine c5 pEq ?_
   exact hx1 _ _ (hj1 (decide (x0=13)) H _ b h)
def G8(b1g:Int)(v6:Int)(V2:Int)(b1h:Bool)(b1i:Bool)(a9C:(List ByteArray))(H:Hp)(K:Bool→o4→(List ByteArray)→Hp→Prop):Prop:=
 K true (o4.mk b1g v6 V2 b1h b1i (Sl.mk none 0 0)) a9C H
def a3Y(x0:o4)(a:(List ByteArray))(x1:f5)(x2:Int)(H:Hp)(K:Bool→o4→(List ByteArray)→Hp→Prop):Prop:=
 (4096 < (IntKind.wrap .i64 (x0.fnodes+1))→
 K false (o4.mk (IntKind.wrap .i64 (x0.fnodes+1)) x0.fdepth 33 x0.fform x0.fnamed (Sl.mk none 0 0)) a H)∧
 (¬(4096 < (IntKind.wrap .i64 (x0.fnodes+1)))→
 (64 < x2→
 K false (o4.mk (IntKind.wrap .i64 (x0.fnodes+1)) x0.fdepth 32 x0.fform x0.fnamed (Sl.mk none 0 0)) a H)∧
 (¬(64 < x2)→
 TG (x0.fform=false) (a6w x1 H) false H (fun(c:Bool)(j:Hp)=>
 a3A x1 j (fun b e d=>
 (e=true→
 TG (x0.fnamed=false) (a6j b d) false d (fun(f:Bool)(k:Hp)=>
 Y4 a b k (fun g i=>
 ((!g)=true→
 (a.length+([b]:List ByteArray).length)*17≤140737488355328∧
 G8 (IntKind.wrap .i64 (x0.fnodes+1)) (if x2 > x0.fdepth then x2 else x0.fdepth) x0.fe (x0.fform||(!c)) (x0.fnamed||(!f)) (a++[b]) i K)∧
 ((!g)=false→
 G8 (IntKind.wrap .i64 (x0.fnodes+1)) (if x2 > x0.fdepth then x2 else x0.fdepth) x0.fe (x0.fform||(!c)) (x0.fnamed||(!f)) a i K))))∧
 (e=false→
 G8 (IntKind.wrap .i64 (x0.fnodes+1)) (if x2 > x0.fdepth then x2 else x0.fdepth) x0.fe (x0.fform||(!c)) x0.fnamed a d K)))))
theorem b0u(x0 b x1 x2){H K}(h:a3Y x0 b x1 x2 H K):a3T x0 b x1 x2 H K:=by
 intro g0 k l m
 refine Ct.of fun w0 w ps0 H0 R E I hR=>c7P ?_
 unfold a3Y at h
 unfold d0X
 refine c5 (m2 _) (c5 b2x (c6 (l1 Tryz.isAgg3 I rfl) (c5 pAd (c5 (m2 _) ?_))))
 refine c5 b2x ?_
 refine C4 I Tryz.sizeOf3 fun ba p bb=>?_
 refine c5 (m2 _) (c5 b2x (c6 (l1 Tryz.isAgg3 p rfl) (c5 pGt ?_)))
 refine d9 h (fun _ h=>?_) (fun _ h=>?_)
 ·refine c5 (m2 _) (c5 a8f ?_)
  refine C4 p Tryz.sizeOf31 fun bc an bd=>?_
  exact hR _ H _ _ ((an.bring 1).bring 1) ⟨false,(o4.mk (IntKind.wrap .i64 (x0.fnodes+1)) x0.fdepth 33 x0.fform x0.fnamed (Sl.mk none 0 0)),b,k,l,rfl,rfl,m,h⟩
 ·refine c5 pGt ?_
  refine d9 h (fun _ h=>?_) (fun _ h=>?_)
  ·refine c5 (m2 _) (c5 a8f ?_)
   refine C4 p Tryz.sizeOf31 fun be ao bf=>?_
   exact hR _ H _ _ ((ao.bring 1).bring 1) ⟨false,(o4.mk (IntKind.wrap .i64 (x0.fnodes+1)) x0.fdepth 32 x0.fform x0.fnamed (Sl.mk none 0 0)),b,k,l,rfl,rfl,m,h⟩
  ·refine c5 (m2 _) (c5 b5v (c6 (l1 Tryz.isAgg3 p rfl) (c5 (a8e _ _ _ _ _) (c5 (m2 _) ?_))))
   refine c5 b5v ?_
   refine C4 p Tryz.sizeOf3 fun ae z bg=>?_
   refine c5 (m2 _) (c5 b2y (c6 (l1 Tryz.isAgg4 z rfl) ?_))
   simp only [z7]
   refine b5Y (D:=fun af t=>∃(d:Bool)(n:Hp),af=(gv x0.fform false (vB d))∧(Inv w0 ps0 H0 n [bx g0 169 [(vi (IntKind.wrap .i64 (x0.fnodes+1))),(vi (if x2 > x0.fdepth then x2 else x0.fdepth)),(vi x0.fe),(vB x0.fform),(vB x0.fnamed),(vs k)],l] t)∧(∀i,i < ae.heap.size→¬inF [] i→t.heap[i]? = ae.heap[i]?)∧Hle H n∧(a3A x1 n (fun(j:ByteArray)(u:Bool)(q:Hp)=>
 (u=true→
 TG (x0.fnamed=false) (a6j j q) false q (fun(f:Bool)(v:Hp)=>
 Y4 b j v (fun(aa:Bool)(r:Hp)=>
 ((!aa)=true→
 (b.length+([j]:List ByteArray).length)*17≤140737488355328∧
 G8 (IntKind.wrap .i64 (x0.fnodes+1)) (if x2 > x0.fdepth then x2 else x0.fdepth) x0.fe (x0.fform||(!d)) (x0.fnamed||(!f)) (b++[j]) r K)∧
 ((!aa)=false→
 G8 (IntKind.wrap .i64 (x0.fnodes+1)) (if x2 > x0.fdepth then x2 else x0.fdepth) x0.fe (x0.fform||(!d)) (x0.fnamed||(!f)) b r K))))∧
 (u=false→
 G8 (IntKind.wrap .i64 (x0.fnodes+1)) (if x2 > x0.fdepth then x2 else x0.fdepth) x0.fe (x0.fform||(!d)) x0.fnamed b q K)))) (fun o=>?_) (fun o=>?_) ?_
   ·replace h:=h.1 o
    have a:=o
    simp only [i4 a]
    refine b2V z h (fun d n t ab ag ah h=>?_)
    exact ⟨d,n,by rfl,ab,ah,ag,h⟩
   ·exact ⟨false,H,by rw [b8V o],z,fun _ _ _=>rfl,Hle.refl _,h.2 o⟩
   ·clear h
    rintro af t ⟨d,n,rfl,ab,ah,ag,h⟩
    refine c5 (Pu.g fun a=>by simp only [i4 a];with_reducible exact (T1 _)) ?_
    refine c5 (L8 _ _) (c5 (m2 _) (c5 b2y ?_))
    refine C4 ab Tryz.sizeOf4 fun bh ap bi=>?_
    have hj1:∀(b1g:Int)(v6:Int)(V2:Int)(b1h:Bool)(b1i:Bool)(a9C:(List ByteArray))(b3A:Sl)(b3B:Frag) H w (_:RowL 9 1 v2 b3A a9C b3B) (_:Inv w0 ps0 H0 H [bx g0 169 [(vi b1g),(vi v6),(vi V2),(vB b1h),(vB b1i),(vs b3A)],b3B] w) (_:G8 b1g v6 V2 b1h b1i a9C H K),b7r w R E:=by
     intro b1g v6 V2 b1h b1i a9C b3A b3B H w c5K I h
     unfold b7r
     intro _
     unfold G8 at h
     exact hR _ H _ _ ((I.bring 1).bring 1) ⟨true,(o4.mk b1g v6 V2 b1h b1i (Sl.mk none 0 0)),a9C,b3A,b3B,rfl,rfl,c5K,h⟩
    refine o6 fun j1 hx1=>?_
    refine f0 Tryz.call127 h ap ?_
    rintro _ q _ bj y _ _ ⟨j,u,rfl,rfl,h⟩
    refine c5 (m0 _ _ (Value.string j) rfl) (c5 (m0 _ _ (vB u) rfl) ?_)
    refine m8 h (fun _ h=>?_) (fun _ h=>?_)
    ·refine c5 (m2 _) (c5 b2z (c6 (l1 Tryz.isAgg4 y rfl) ?_))
     simp only [z7]
     refine a6N [] (fun f:Bool=>(vB f)) h y (fun ai h=>?_) fun f v aq ac aj ak h=>?_
     ·have a:=ai
      simp only [i4 a]
      refine f0 Tryz.call128 h y ?_
      rintro _ v _ aq ac ak aj ⟨f,rfl,rfl,h⟩
      exact ⟨f,v,rfl,ac,aj,ak,h⟩
     refine c5 (Pu.g fun a=>by simp only [i4 a];with_reducible exact (T1 _)) ?_
     refine c5 (L8 _ _) (c5 (m2 _) (c5 b2z ?_))
     refine C4 ac Tryz.sizeOf4 fun bk al bl=>?_
     refine c5 (m2 _) (c5 b2A (c6 (l1 Tryz.isAgg27 al rfl) ?_))
     refine f0 Tryz.call129 (h k l m) (al.bring 1) ?_
     rintro _ r _ bm ad _ _ ⟨aa,rfl,rfl,h⟩
     refine c5 (T1 _) ?_
     refine m8 h (fun _ h=>?_) (fun _ h=>?_)
     ·refine c5 (m2 _) (c5 b2A (c6 (l1 Tryz.isAgg27 (ad.bring 1) rfl) ?_))
      refine a3v (e:=9) (c:=v2) (xs:=[j]) ad (b6H _) rfl rfl a6V a6W (nb rfl) fun bn bo bp ar am bq=>?_
      obtain ⟨au,h⟩:=h
      refine b9k (s:=k) (xs:=b) (am.bring 1) m (ar.srcO ((am.bring 1).bring 1)) au fun av aw br ax ay bs=>?_
      refine c5 (m2 _) (c5 b2A ?_)
      refine C4 ((ay.bring 1).drop.bring 1) Tryz.sizeOf27 fun bt az bu=>?_
      exact hx1 _ _ (hj1 (IntKind.wrap .i64 (x0.fnodes+1)) (if x2 > x0.fdepth then x2 else x0.fdepth) x0.fe (x0.fform||(!d)) (x0.fnamed||(!f)) (b++[j]) av aw r _ ax ((az.bring 1).bring 1) h)
     ·exact hx1 _ _ (hj1 (IntKind.wrap .i64 (x0.fnodes+1)) (if x2 > x0.fdepth then x2 else x0.fdepth) x0.fe (x0.fform||(!d)) (x0.fnamed||(!f)) b k l r _ m (ad.bring 1) h)
    ·exact hx1 _ _ (hj1 (IntKind.wrap .i64 (x0.fnodes+1)) (if x2 > x0.fdepth then x2 else x0.fdepth) x0.fe (x0.fform||(!d)) x0.fnamed b k l q _ m ((y.bring 1).bring 1) h)
def a1i(b7K:Int)(a8X:ByteArray)(a:(List g9))(b:m6)(H:Hp)(K:ByteArray→Int→Hp→Prop):Prop:=
 K a8X b7K H
def a6f(q8:(Option Nat))(b6h:(List g9))(b6i:Int)(c:m6)(a5m:Int)(a5n:ByteArray)(a0I:Int)(H:Hp)(n2:(Int×ByteArray×Int)→Hp→Prop)(K:ByteArray→Int→Hp→Prop):Prop:=
 (a0I < b6i→
 (0:Int)≤a0I∧∃a:g9,(b6h)[(a0I:Int).toNat]? = some a∧
 ∃b:List (ByteArray×Int),MapH H (fun s:ByteArray=>Value.string s) (fun n:Int=>Value.int .i64 n) q8 b∧
 (((lk a.fname b).getD 0)=a.fas→
 n2 (a5m,a5n,(IntKind.wrap .i64 (a0I+1))) H)∧
 (¬(((lk a.fname b).getD 0)=a.fas)→
 (((lk a.fname b).getD 0)=0→
 a1i 63 a.fname b6h c H K)∧
 (¬(((lk a.fname b).getD 0)=0)→
 a1i 64 a.fname b6h c H K)))∧
 (¬(a0I < b6i)→
 a1i a5m a5n b6h c H K)
def a7d(x0:m6)(H:Hp)(K:ByteArray→Int→Hp→Prop):Prop:=
 a7b x0 H (fun b c=>
 (¬(b=0)→
 K ⟨#[]⟩ b c)∧
 (b=0→
 a8g x0.E4 c (fun f g a d=>
 (¬(a=0)→
 K g a d)∧
 (a=0→
 Y2 (m9.mk (Sl.mk none 0 0)) [] x0.a1l d (fun j e i=>
 TL ((a,⟨#[]⟩,0):Int×ByteArray×Int) i fun(s:Int×ByteArray×Int) H n2=>a6f f e (e.length:Int) x0 s.1 s.2.1 s.2.2 H n2 K)))))
theorem b4e(x0){H K}(h:a7d x0 H K):a9v x0 H K:=by
 refine Ct.of fun w0 w ps0 H0 R E I hR=>c9L ?_
 unfold a7d at h
 unfold F61
 refine A9 I (cs:=(m5 x0)) rfl fun j ad k ae=>?_
 refine c6 (lW Tryz.isAgg25 Tryz.sizeOf25 rfl k) ?_
 refine f0 Tryz.call92 h k ?_
 rintro _ u _ af d _ _ ⟨v,rfl,rfl,h⟩
 refine c5 pNe ?_
 refine a3P h (fun _ h=>?_) (fun _ h=>?_)
 ·exact hR _ u _ _ d.drop ⟨⟨#[]⟩,v,rfl,rfl,h⟩
 ·refine c5 P3 (c6 (l1 Tryz.isAgg22 d rfl) ?_)
  refine f0 Tryz.call93 h d ?_
  rintro _ y _ ag l _ _ ⟨ah,m,n,rfl,rfl,h⟩
  refine c5 (m0 _ _ _ rfl) (c5 (m0 _ _ (Value.string m) rfl) (c5 (m0 _ _ (vi n) rfl) (c5 pNe ?_)))
  refine a3P h (fun _ h=>?_) (fun _ h=>?_)
  ·exact hR _ y _ _ l.drop ⟨m,n,rfl,rfl,h⟩
  ·refine c5 (c2A) ?_
   refine A9 l (cs:=[(nS)]) rfl fun f ai o aj=>?_
   refine c5 a1m (c6 (l1 Tryz.isAgg23 (o.bring 1) rfl) ?_)
   refine f0 Tryz.call94 (h f (Sl.mk none 0 0) ([]) (RowL.nil (e:=158) a6R a6S)) (o.nil.bring 1) ?_
   rintro _ _ _ ak p _ _ ⟨al,aa,q,r,rfl,rfl,c,h⟩
   have hj1:∀(b7K:Int)(a8X:ByteArray) H w (_:Inv w0 ps0 H0 H [bx f 155 [(vs q)],bx j 25 (m5 x0),r] w) (_:a1i b7K a8X aa x0 H K),b9K (vi b7K) (Value.string a8X) w R E:=by
    intro b7K a8X H w I h
    unfold b9K
    intro _
    unfold a1i at h
    exact hR _ H _ _ I.drop.drop.drop ⟨a8X,b7K,rfl,rfl,h⟩
   refine o6 fun j1 hx1=>?_
   refine c5 (m2 _) (c5 a3r (c6 (l1 Tryz.isAgg153 p rfl) (c5 (a7B Tryz.underlying153 c) ?_)))
   refine C9 (σ:=Int×ByteArray×Int) (fun (a5m,a5n,a0I)=>[(vi a5m),(Value.string a5n),(vi a0I)]) (fun (a5m,a5n,a0I)=>[bx f 155 [(vs q)],bx j 25 (m5 x0),r]) h rfl (((p.bring 1).bring 2).bring 2) ?_
   rintro ⟨a5m,a5n,a0I⟩ H am w next2 n2 g I h hn2
   dsimp only at g I h
   simp only [List.map_cons,List.map_nil,List.cons.injEq,and_true] at g
   obtain ⟨e7,e9,e39⟩:=g
   simp only [e7,e9,e39]
   unfold c4o
   unfold a6f at h
   refine c5 pLs ?_
   refine d9 h (fun _ h=>?_) (fun _ h=>?_)
   ·obtain ⟨s,b,i,h⟩:=h
    obtain ⟨an,ao,t,ap⟩:=c.addr i
    refine c5 (c3V t _ _ _ _ s (c.lt s i)) (c6 (ldA (vs:=(B3 b)) Tryz.isAgg158 Tryz.sizeOf158 rfl (c.atW (I.bring 2) t i)) ?_)
    refine u4 I Tryz.zeroValue158 (cs:=[(eS),(vi 0)]) rfl fun aq ar ab au=>?_
    refine y6 ab Tryz.sizeOf158 (vs:=(B3 b)) fun av a aw=>?_
    refine c5 b2v (c6 (l1 Tryz.isAgg9 a rfl) ?_)
    obtain ⟨ax,ac,h⟩:=h
    refine c5E (keyS Tryz.underlying9) Tryz.underlying66 (z:=0) Tryz.zeroValue3 a ac b.fname ?_
    refine c5 c0Z (c6 (l1 Tryz.isAgg3 a rfl) (c5 pEq ?_))
    refine d9 h (fun _ h=>?_) (fun _ h=>?_)
    ·refine c5 pAd ?_
     exact hn2 (a5m,a5n,(IntKind.wrap .i64 (a0I+1))) _ _ h (((a.drop.bring 2).bring 2).bring 2)
    ·refine c5 pEq ?_
     refine d9 h (fun _ h=>?_) (fun _ h=>?_)
     ·refine c5 b2v (c6 (l1 Tryz.isAgg9 a rfl) ?_)
      exact hx1 _ _ (hj1 63 b.fname H _ (((a.drop.bring 2).bring 2).bring 2) h)
     ·refine c5 b2v (c6 (l1 Tryz.isAgg9 a rfl) ?_)
      exact hx1 _ _ (hj1 64 b.fname H _ (((a.drop.bring 2).bring 2).bring 2) h)
   ·exact hx1 _ _ (hj1 a5m a5n H _ (((I.bring 2).bring 2).bring 2) h)
def a5o(x0:a0D)(H:Hp)(K:Sl→Hp→Prop):Prop:=
 K (Sl.mk none 0 0) H
theorem b1u(x0){H K}(h:a5o x0 H K):a7q x0 H K:=by
 refine Ct.of fun w0 w ps0 H0 R E I hR=>c8c ?_
 unfold a5o at h
 unfold d1k
 refine A9 I (cs:=(i5 x0.a1J)) rfl fun b c a d=>?_
 exact hR _ H _ _ a.drop ⟨(Sl.mk none 0 0),rfl,rfl,h⟩
def a6z(x0:f8)(H:Hp)(K:f5→Hp→Prop):Prop:=
 K (f5.K7 (P2.mk x0)) H
theorem b3C(x0){H K}(h:a6z x0 H K):a8T x0 H K:=by
 refine Ct.of fun w0 w ps0 H0 R E I hR=>c8i ?_
 unfold a6z at h
 unfold d1q
 refine A9 I (cs:=(d7 x0)) rfl fun b c a d=>?_
 refine c6 (lW Tryz.isAgg123 Tryz.sizeOf123 rfl a) (c5 (b9q _ _ _ _ _ _) (c5 (b2T (P2.mk x0)) ?_))
 exact hR _ H _ _ a.drop ⟨(f5.K7 (P2.mk x0)),rfl,rfl,h⟩
def a5p(x0:W6)(H:Hp)(K:Sl→Hp→Prop):Prop:=
 E8 x0.m1.r9 H (fun d e=>
 B2 x0.m1.l7 e (fun f g=>
 B1 x0.m1.K5 g (fun i j=>
 B1 x0.m1.L2 j (fun k l=>
 ∀(a:Sl)(b:Hp),Hle l b→SlH b 1 csl a [d,f,i,k]→a.n≤a.c→
 E3 a b (fun m o=>
 K m o)))))
theorem b1v(x0){H K}(h:a5p x0 H K):a7r x0 H K:=by
 refine Ct.of fun w0 w ps0 H0 R E I hR=>c8e ?_
 unfold a5p at h
 unfold d1m
 refine A9 I (cs:=(g7 x0.m1)) rfl fun ad ae i af=>?_
 refine Q9 i fun ag a=>?_
 refine g8 R0 ?_
 refine g8 O2 ?_
 refine g8 R0 ?_
 refine g8 N3 ?_
 refine g8 R0 ?_
 refine g8 Q7 ?_
 refine g8 R0 ?_
 refine g8 W9 ?_
 refine p6 (l1 Tryz.isAgg58 a rfl) ?_
 refine p6 (l1 Tryz.isAgg57 a rfl) ?_
 refine p6 (l1 Tryz.isAgg23 a rfl) ?_
 refine p6 (l1 Tryz.isAgg23 a rfl) ?_
 refine f0 Tryz.call159 h a ?_
 rintro _ ah _ ai b _ d ⟨j,rfl,rfl,h⟩
 refine ⟨(d _ a.lt1 (Inv.U6 (Fi:=[]) a)),(d _ a.lt1 (Inv.U6 (Fi:=[]) a)),(d _ a.lt1 (Inv.U6 (Fi:=[]) a)),?_⟩
 refine f0 Tryz.call161 h b ?_
 rintro _ aj _ ak f _ g ⟨k,rfl,rfl,h⟩
 refine ⟨(g _ b.lt1 (Inv.U6 (Fi:=[]) b)),(g _ b.lt1 (Inv.U6 (Fi:=[]) b)),?_⟩
 refine f0 Tryz.call121 h f ?_
 rintro _ _ _ al l _ m ⟨n,rfl,rfl,h⟩
 refine ⟨(m _ f.lt1 (Inv.U6 (Fi:=[]) f)),?_⟩
 refine f0 Tryz.call121 h l ?_
 rintro _ _ _ am o _ _ ⟨p,rfl,rfl,h⟩
 refine a3v (e:=179) (c:=csl) (xs:=[j,k,n,p]) o (c5J _ _ _ _ _ _ _ _ _ _ _ _) rfl rfl b8C b8D (nb rfl) fun q an ao r s ap=>?_
 obtain ⟨t,u,v,y,z⟩:=Inv.freezeC s r (by decide)
 replace h:=h q t v y z
 refine f0 Tryz.call118 h u ?_
 rintro _ aa _ aq ab _ _ ⟨ac,rfl,rfl,h⟩
 exact hR _ aa _ _ ab.drop ⟨ac,rfl,rfl,h⟩
def a5q(x0:W7)(H:Hp)(K:Sl→Hp→Prop):Prop:=
 B2 x0.s6.l7 H (fun d e=>
 E8 x0.s6.r7 e (fun f g=>
 ∀(a:Sl)(b:Hp),Hle g b→SlH b 1 csl a [d,f]→a.n≤a.c→
 E3 a b (fun i j=>
 K i j)))
theorem b1w(x0){H K}(h:a5q x0 H K):a7t x0 H K:=by
 refine Ct.of fun w0 w ps0 H0 R E I hR=>c8m ?_
 unfold a5q at h
 unfold d1u
 refine A9 I (cs:=(f7 x0.s6)) rfl fun v y b z=>?_
 refine Q9 b fun aa a=>?_
 refine g8 a3s ?_
 refine g8 P6 ?_
 refine g8 a3s ?_
 refine g8 J7 ?_
 refine p6 (l1 Tryz.isAgg57 a rfl) ?_
 refine p6 (l1 Tryz.isAgg58 a rfl) ?_
 refine f0 Tryz.call161 h a ?_
 rintro _ _ _ ab d _ f ⟨g,rfl,rfl,h⟩
 refine ⟨(f _ a.lt1 (Inv.U6 (Fi:=[]) a)),?_⟩
 refine f0 Tryz.call159 h d ?_
 rintro _ _ _ ac i _ _ ⟨j,rfl,rfl,h⟩
 refine a3v (e:=179) (c:=csl) (xs:=[g,j]) i (b9m _ _ _ _ _ _) rfl rfl b8C b8D (nb rfl) fun k ad ae l m af=>?_
 obtain ⟨n,o,p,q,r⟩:=Inv.freezeC m l (by decide)
 replace h:=h k n p q r
 refine f0 Tryz.call118 h o ?_
 rintro _ s _ ag t _ _ ⟨u,rfl,rfl,h⟩
 exact hR _ s _ _ t.drop ⟨u,rfl,rfl,h⟩
end Go.Proofs.YtaokfhdinhimfaaGreatDoor
