/- Typed formulas of the program's functions, and the theorems that the contracts follow from them; printed by lift.py off the code. -/
import Derived.Test.YtaokfhdinhimfaaGreatDooryLV1
namespace Go.Proofs.YtaokfhdinhimfaaGreatDoor
open Go.RowKit
set_option maxRecDepth 100000
set_option maxHeartbeats 2000000
def a4M(H:Hp)(K:Bool→Hp→Prop):Prop:=
 ∀(d:Sl)(e:Hp),Hle H e→SlH e 6 g7 d [(i8.mk 7 ⟨#[]⟩ (Sl.mk none 0 0) (Sl.mk none 0 0) (Sl.mk none 0 0) (Sl.mk none 0 0))]→d.n≤d.c→
 a7p (m6.mk (Sl.mk none 0 0) d) e (fun b f g=>
 ∃a:c7,(((((decide (f=0))&&(decide (b.p5=2)))&&(decide (b.u5=1)))&&(decide ((b.R3.n:Int)=1)))=true→(0:Int)≤0∧(0:Int) < b.R3.n∧EltH g b.R3 0 10 (i6 a))∧
 K (((((decide (f=0))&&(decide (b.p5=2)))&&(decide (b.u5=1)))&&(decide ((b.R3.n:Int)=1)))&&(decide (a.O0=0∧a.fTo=1∧a.c8=1∧a.a1O=(-1)∧a.S3=(-1)∧a.fOp=0∧a.fA.B7=(-1)∧a.fA.s7=0∧a.fB.B7=(-1)∧a.fB.s7=0))) g)
theorem b0S{H K}(h:a4M H K):a7h H K:=by
 refine Ct.of fun w0 w ps0 H0 R E I hR=>d2g ?_
 unfold a4M at h
 unfold F5
 refine c5 (c0W _) ?_
 refine a3v (e:=60) (c:=g7) (xs:=[(i8.mk 7 ⟨#[]⟩ (Sl.mk none 0 0) (Sl.mk none 0 0) (Sl.mk none 0 0) (Sl.mk none 0 0))]) I (c7j _ _ _ _ _ _ _ _ _ _ _ _ _ _) rfl rfl b8x b8y (nb rfl) fun k y z l m aa=>?_
 refine c5 (c0X _ _ _) ?_
 obtain ⟨o,p,q,r,s⟩:=Inv.freezeC m l (by decide)
 replace h:=h k o q r s
 refine f0 Tryz.call6 h p ?_
 rintro _ t _ ab u _ _ ⟨i,j,rfl,rfl,h⟩
 refine c5 (m0 _ _ _ rfl) (c5 (m0 _ _ (vi j) rfl) ?_)
 refine u4 u Tryz.zeroValue30 (cs:=[(nS),(vi 0),(nS),(vi 0),(vi 0),(nS)]) rfl fun ac ad v ae=>?_
 refine y6 v Tryz.sizeOf30 (vs:=(z6 i)) fun af d ag=>?_
 refine c5 pEq ?_
 refine c5 (Pu.g fun a=>by with_reducible exact a2b) ?_
 refine c6 (Ld.g fun a=>by simp only [i4 a];exact (l1 Tryz.isAgg3 d rfl)) ?_
 refine c5 (Pu.g fun a=>by simp only [i4 a];with_reducible exact pEq) ?_
 refine c5 (y9 _ _) ?_
 refine c5 (Pu.g fun a=>by with_reducible exact a5V) ?_
 refine c6 (Ld.g fun a=>by simp only [i4 a];exact (l1 Tryz.isAgg3 d rfl)) ?_
 refine c5 (Pu.g fun a=>by simp only [i4 a];with_reducible exact pEq) ?_
 refine c5 (y9 _ _) ?_
 refine c5 (Pu.g fun a=>by with_reducible exact W8) ?_
 refine c6 (Ld.g fun a=>by simp only [i4 a];exact (l1 Tryz.isAgg28 d rfl)) ?_
 refine c5 (Pu.g fun a=>by simp only [i4 a];with_reducible exact (a9Z _ _ _)) ?_
 refine c5 (Pu.g fun a=>by simp only [i4 a];with_reducible exact pEq) ?_
 refine c5 (y9 _ _) ?_
 refine c5 (Pu.g fun a=>by with_reducible exact W8) ?_
 refine c6 (Ld.g fun a=>by simp only [i4 a];exact (l1 Tryz.isAgg28 d rfl)) ?_
 obtain ⟨f,b,h⟩:=h
 obtain ⟨ah,ai,b⟩:=b4K b
 refine c5 (Pu.g fun hb=>by have a:=hb;simp only [i4 a];with_reducible exact (b3o (b hb).2.2.1 _ _ _ _ (b hb).1 (b hb).2.1)) ?_
 refine c6 (Ld.g fun hb=>by have a:=hb;simp only [i4 a];exact (ldA (vs:=(i6 f)) Tryz.isAgg40 Tryz.sizeOf40 rfl (d.atH (b hb).2.2.2))) ?_
 refine c5 (Pu.g fun a=>by with_reducible exact (a4X _)) ?_
 refine c5 (Pu.g fun a=>by with_reducible exact (a4X _)) ?_
 refine c5 (Pu.g fun a=>by simp only [i4 a];with_reducible exact (b2O _ _ _ _ _ _ _ _)) ?_
 refine c5 (Pu.g fun a=>by simp only [i4 a];with_reducible exact (c5G _ _ _ _ _ _ _ _ _ _ _ _ _ _ _ _ _ _ _ _ _ _)) ?_
 refine c5 (y9 _ _) ?_
 exact hR _ t _ _ d.drop ⟨(((((decide (j=0))&&(decide (i.p5=2)))&&(decide (i.u5=1)))&&(decide ((i.R3.n:Int)=1)))&&(decide (f.O0=0∧f.fTo=1∧f.c8=1∧f.a1O=(-1)∧f.S3=(-1)∧f.fOp=0∧f.fA.B7=(-1)∧f.fA.s7=0∧f.fB.B7=(-1)∧f.fB.s7=0))),rfl,rfl,h⟩
def a5v(H:Hp)(K:m4→Hp→Prop):Prop:=
 K (m4.mk (-1) 0) H
theorem b1B{H K}(h:a5v H K):a2g H K:=by
 refine Ct.of fun w0 w ps0 H0 R E I hR=>d0p ?_
 unfold a5v at h
 unfold F91
 refine u4 I Tryz.zeroValue38 (cs:=[(vi 0),(vi 0)]) rfl fun c d b e=>?_
 refine c5 (a4X _) ?_
 refine y6 b Tryz.sizeOf38 (vs:=[(vi (-1)),(vi 0)]) fun f a g=>?_
 refine Q0 Tryz.isAgg38 Tryz.sizeOf38 rfl a ?_
 exact hR _ H _ _ a.drop ⟨(m4.mk (-1) 0),rfl,rfl,h⟩
def b1C(x0:Int)(H:Hp)(K:Int→Hp→Prop):Prop:=
 (((decide (x0 < 1))||(decide (6 < x0)))=true→
 K 0 H)∧
 (((decide (x0 < 1))||(decide (6 < x0)))=false→
 (0:Int)≤x0∧(x0:Int) < 7∧
 K (([0,6,5,4,3,2,1]:List Int).getD (x0:Int).toNat 0) H)
theorem b5H(x0){H K}(h:b1C x0 H K):a8r x0 H K:=by
 refine Ct.of fun w0 w ps0 H0 R E I hR=>c9K ?_
 unfold b1C at h
 unfold F59
 refine c5 pLs ?_
 simp only [z7]
 refine c5 (Pu.g fun a=>by simp only [i4 a];with_reducible exact pGt) ?_
 refine c5 (L8 _ _) ?_
 refine m8 h (fun _ h=>?_) (fun _ h=>?_)
 ·exact hR _ H _ _ I ⟨0,rfl,rfl,h⟩
 ·refine c5 (b1o _ _ _ _ _ _ _) ?_
  obtain ⟨b,c,h⟩:=h
  refine c5 (c2z _ _ _ _ _ _ _ _ _ b c) ?_
  exact hR _ H _ _ I ⟨(([0,6,5,4,3,2,1]:List Int).getD (x0:Int).toNat 0),rfl,rfl,h⟩
def a0P(H:Hp)(K:Bool→Hp→Prop):Prop:=
 K true H
def a3k(a2q:Sl)(a1j:Sl)(q8:Int)(H:Hp)(n2:Int→Hp→Prop)(K:Bool→Hp→Prop):Prop:=
 (q8 < (a2q.n:Int)→
 (0:Int)≤q8∧(q8:Int) < a2q.n∧∃a:i7,EltH H a2q q8 2 (i5 a)∧
 (0:Int)≤q8∧(q8:Int) < a1j.n∧∃b:i7,EltH H a1j q8 2 (i5 b)∧
 (¬(a.f6=b.f6∧a.N2=b.N2)→
 K false H)∧
 (a.f6=b.f6∧a.N2=b.N2→
 n2 (IntKind.wrap .i64 (q8+1)) H))∧
 (¬(q8 < (a2q.n:Int))→
 a0P H K)
def a4N(x0:Sl)(x1:Sl)(H:Hp)(K:Bool→Hp→Prop):Prop:=
 (¬((x0.n:Int)=(x1.n:Int))→
 K false H)∧
 ((x0.n:Int)=(x1.n:Int)→
 TL (0:Int) H fun(s:Int) H n2=>a3k x0 x1 s H n2 K)
theorem b0T(x0 x1){H K}(h:a4N x0 x1 H K):a4r x0 x1 H K:=by
 refine Ct.of fun w0 w ps0 H0 R E I hR=>c9A ?_
 unfold a4N at h
 unfold F32
 refine c5 (a0V _ _ _) (c5 (a0V _ _ _) (c5 pNe ?_))
 refine a3P h (fun _ h=>?_) (fun _ h=>?_)
 ·exact hR _ H _ _ I ⟨false,rfl,rfl,h⟩
 ·have hj1:∀H w (_:Inv w0 ps0 H0 H [] w) (_:a0P H K),b9D w R E:=by
   intro H w I h
   unfold b9D
   intro _
   unfold a0P at h
   exact hR _ H _ _ I ⟨true,rfl,rfl,h⟩
  refine o6 fun j1 hx1=>?_
  refine C9 (σ:=Int) (fun q8=>[(vi q8)]) (fun q8=>[]) h rfl I ?_
  rintro q8 H n w next2 n2 d I h hn2
  simp only [List.map_cons,List.map_nil,List.cons.injEq,and_true] at d
  have e5:=d
  simp only [e5]
  unfold c4i
  unfold a3k at h
  refine c5 (a0V _ _ _) (c5 pLs ?_)
  refine d9 h (fun _ h=>?_) (fun _ h=>?_)
  ·refine Q9 I fun o a=>?_
   obtain ⟨e,f,g,b,h⟩:=h
   obtain ⟨p,q,i,b⟩:=b
   refine g8 (U7 i _ _ _ _ e f) ?_
   obtain ⟨j,k,l,c,h⟩:=h
   obtain ⟨r,s,m,c⟩:=c
   refine g8 (U7 m _ _ _ _ j k) ?_
   refine p6 (ldA (vs:=(i5 g)) Tryz.isAgg70 Tryz.sizeOf70 rfl (a.atH b)) ?_
   refine p6 (ldA (vs:=(i5 l)) Tryz.isAgg70 Tryz.sizeOf70 rfl (a.atH c)) ?_
   refine g8 (c5I _ _ _ _ _ _) ?_
   refine a3P h (fun _ h=>?_) (fun _ h=>?_)
   ·exact hR _ H _ _ a ⟨false,rfl,rfl,h⟩
   ·refine c5 pAd ?_
    exact hn2 (IntKind.wrap .i64 (q8+1)) _ _ h a
  ·exact hx1 _ _ (hj1 H _ I h)
def a2K(x0:f8)(x1:Int)(H:Hp)(K:Int→Hp→Prop):Prop:=
 C5 x0 x1 H (fun c a=>
 (c=x1→
 K 0 a)∧
 (¬(c=x1)→
 ((x0.u1.n:Int)=1→
 (0:Int)≤0∧(0:Int) < x0.u1.n∧∃d:f8,EltH a x0.u1 0 4 (d7 d)∧
 A6 d x1 a (fun i j=>
 K i j))∧
 (¬((x0.u1.n:Int)=1)→
 ((x0.u1.n:Int)=2→
 (0:Int)≤0∧(0:Int) < x0.u1.n∧∃b:f8,EltH a x0.u1 0 4 (d7 b)∧
 (0:Int)≤1∧(1:Int) < x0.u1.n∧∃e:f8,EltH a x0.u1 1 4 (d7 e)∧
 A6 b x1 a (fun f k=>
 C5 b x1 k (fun l m=>
 A6 e l m (fun g o=>
 K (if g > f then g else f) o))))∧
 (¬((x0.u1.n:Int)=2)→
 K 0 a))))
theorem a9p(x0 x1){H K}(h:a2K x0 x1 H K):a0i x0 x1 H K:=by
 refine Ct.of fun w0 w ps0 H0 R E I hR=>d0m ?_
 unfold a2K at h
 unfold F88
 refine A9 I (cs:=(d7 x0)) rfl fun g aj j ak=>?_
 refine c6 (lW Tryz.isAgg123 Tryz.sizeOf123 rfl j) ?_
 refine f0 Tryz.call84 h j ?_
 rintro _ k _ al b _ _ ⟨am,rfl,rfl,h⟩
 refine c5 pEq ?_
 refine d9 h (fun _ h=>?_) (fun _ h=>?_)
 ·exact hR _ k _ _ b.drop ⟨0,rfl,rfl,h⟩
 ·refine c5 C3 (c6 (l1 Tryz.isAgg57 b rfl) (c5 (P7 _ _ _) (c5 pEq ?_)))
  refine d9 h (fun _ h=>?_) (fun _ h=>?_)
  ·refine c5 C3 (c6 (l1 Tryz.isAgg57 b rfl) ?_)
   obtain ⟨t,u,v,i,h⟩:=h
   obtain ⟨an,ao,y,i⟩:=i
   refine c5 (A0 y _ _ _ _ t u) (c6 (ldA (vs:=(d7 v)) Tryz.isAgg123 Tryz.sizeOf123 rfl (b.atH i)) ?_)
   refine f0 Tryz.call89 h b ?_
   rintro _ z _ ap aa _ _ ⟨ab,rfl,rfl,h⟩
   exact hR _ z _ _ aa.drop ⟨ab,rfl,rfl,h⟩
  ·refine c5 pEq ?_
   refine d9 h (fun _ h=>?_) (fun _ h=>?_)
   ·refine Q9 b fun aq a=>?_
    refine g8 C3 ?_
    refine g8 C3 ?_
    refine g8 C3 ?_
    refine p6 (l1 Tryz.isAgg57 a rfl) ?_
    obtain ⟨l,m,n,d,h⟩:=h
    obtain ⟨ar,au,o,d⟩:=d
    refine g8 (A0 o _ _ _ _ l m) ?_
    refine p6 (ldA (vs:=(d7 n)) Tryz.isAgg123 Tryz.sizeOf123 rfl (a.atH d)) ?_
    refine p6 (l1 Tryz.isAgg57 a rfl) ?_
    obtain ⟨ac,ad,ae,c,h⟩:=h
    obtain ⟨av,aw,af,c⟩:=c
    refine g8 (A0 af _ _ _ _ ac ad) ?_
    refine p6 (ldA (vs:=(d7 ae)) Tryz.isAgg123 Tryz.sizeOf123 rfl (a.atH c)) ?_
    refine p6 (l1 Tryz.isAgg57 a rfl) ?_
    refine g8 (A0 o _ _ _ _ l m) ?_
    refine p6 (ldA (vs:=(d7 n)) Tryz.isAgg123 Tryz.sizeOf123 rfl (a.atH d)) ?_
    refine f0 Tryz.call89 h a ?_
    rintro _ _ _ ax e p f ⟨q,rfl,rfl,h⟩
    refine ⟨(f _ (a.a1f d) ((Inv.self (Fi:=[]) (Fr:=[bx g 123 (d7 x0)]) a).a2T d)),(f _ a.lt1 (Inv.U6 (Fi:=[]) a)),(f _ (a.a1f c) ((Inv.self (Fi:=[]) (Fr:=[bx g 123 (d7 x0)]) a).a2T c)),(f _ a.lt1 (Inv.U6 (Fi:=[]) a)),?_⟩
    refine f0 Tryz.call84 h e ?_
    rintro _ ay _ az ag _ r ⟨ba,rfl,rfl,h⟩
    refine ⟨(r _ (e.a1f (c.le p)) ((Inv.self (Fi:=[]) (Fr:=[bx g 123 (d7 x0)]) e).a2T (c.le p))),(r _ e.lt1 (Inv.U6 (Fi:=[]) e)),?_⟩
    refine f0 Tryz.call89 h ag ?_
    rintro _ ah _ bb ai _ _ ⟨s,rfl,rfl,h⟩
    refine g8 (a8e _ _ _ _ _) ?_
    exact hR _ ah _ _ ai.drop ⟨(if s > q then s else q),rfl,rfl,h⟩
   ·exact hR _ k _ _ b.drop ⟨0,rfl,rfl,h⟩
def X6(a9K:Int)(a:j8)(H:Hp)(K:Int→Hp→Prop):Prop:=
 K a9K H
def X7(a:j8)(a8Z:Int)(b1D:Int)(H:Hp)(n3:(Int×Int)→Hp→Prop)(K:Int→Hp→Prop):Prop:=
 (b1D < (a.r7.n:Int)→
 (0:Int)≤b1D∧(b1D:Int) < a.r7.n∧∃b:j8,EltH H a.r7 b1D 4 (f7 b)∧
 a0j b H (fun c d=>
 n3 ((if c > a8Z then c else a8Z),(IntKind.wrap .i64 (b1D+1))) d))∧
 (¬(b1D < (a.r7.n:Int))→
 X6 a8Z a H K)
def J5(a0d:Int)(a:j8)(H:Hp)(K:Int→Hp→Prop):Prop:=
 TL ((a0d,0):Int×Int) H fun(s:Int×Int) H n3=>X7 a s.1 s.2 H n3 K
def a2L(x0:j8)(H:Hp)(K:Int→Hp→Prop):Prop:=
 (x0.c8=3→
 (0:Int)≤0∧(0:Int) < x0.l7.n∧∃a:f8,EltH H x0.l7 0 4 (d7 a)∧
 (0:Int)≤1∧(1:Int) < x0.l7.n∧∃b:f8,EltH H x0.l7 1 4 (d7 b)∧
 A6 a 0 H (fun c e=>
 C5 a 0 e (fun f g=>
 A6 b f g (fun d i=>
 J5 (if d > c then d else c) x0 i K))))∧
 (¬(x0.c8=3)→
 J5 0 x0 H K)
theorem a9q(x0){H K}(h:a2L x0 H K):a0j x0 H K:=by
 refine Ct.of fun w0 w ps0 H0 R E I hR=>d0o ?_
 unfold a2L at h
 unfold F90
 refine A9 I (cs:=(f7 x0)) rfl fun b ah g ai=>?_
 have hj1:∀(a0d:Int) H w (_:Inv w0 ps0 H0 H [bx b 131 (f7 x0)] w) (_:J5 a0d x0 H K),c0e (Value.pointer (some ⟨b,0,none⟩)) (vi a0d) w R E:=by
  intro a0d H w I h
  unfold c0e
  intro _
  unfold J5 at h
  have hj2:∀(a9K:Int) H w (_:Inv w0 ps0 H0 H [bx b 131 (f7 x0)] w) (_:X6 a9K x0 H K),c0d (vi a9K) w R E:=by
   intro a9K H w I h
   unfold c0d
   intro _
   unfold X6 at h
   exact hR _ H _ _ I.drop ⟨a9K,rfl,rfl,h⟩
  refine o6 fun j2 hx2=>?_
  refine C9 (σ:=Int×Int) (fun (a8Z,b1D)=>[(vi a8Z),(vi b1D)]) (fun (a8Z,b1D)=>[bx b 131 (f7 x0)]) h rfl I ?_
  rintro ⟨a8Z,b1D⟩ H aj w next3 n3 i I h hn3
  dsimp only at i I h
  simp only [List.map_cons,List.map_nil,List.cons.injEq,and_true] at i
  obtain ⟨e3,e4⟩:=i
  simp only [e3,e4]
  unfold c4C
  unfold X7 at h
  refine c5 J7 (c6 (l1 Tryz.isAgg58 I rfl) (c5 (a0B _ _ _) (c5 pLs ?_)))
  refine d9 h (fun _ h=>?_) (fun _ h=>?_)
  ·refine c5 J7 (c6 (l1 Tryz.isAgg58 I rfl) ?_)
   obtain ⟨t,u,v,j,h⟩:=h
   obtain ⟨ak,al,y,j⟩:=j
   refine c5 (L0 y _ _ _ _ t u) (c6 (ldA (vs:=(f7 v)) Tryz.isAgg131 Tryz.sizeOf131 rfl (I.atH j)) ?_)
   refine f0 Tryz.call90 h I ?_
   rintro _ _ _ am z _ _ ⟨k,rfl,rfl,h⟩
   refine c5 (a8e _ _ _ _ _) (c5 pAd ?_)
   exact hn3 ((if k > a8Z then k else a8Z),(IntKind.wrap .i64 (b1D+1))) _ _ h z
  ·exact hx2 _ _ (hj2 a8Z H _ I h)
 refine o6 fun j1 hx1=>?_
 refine c5 a6d (c6 (l1 Tryz.isAgg3 g rfl) (c5 pEq ?_))
 refine d9 h (fun _ h=>?_) (fun _ h=>?_)
 ·refine Q9 g fun an a=>?_
  refine g8 P6 ?_
  refine g8 P6 ?_
  refine g8 P6 ?_
  refine p6 (l1 Tryz.isAgg57 a rfl) ?_
  obtain ⟨l,m,n,d,h⟩:=h
  obtain ⟨ao,ap,o,d⟩:=d
  refine g8 (A0 o _ _ _ _ l m) ?_
  refine p6 (ldA (vs:=(d7 n)) Tryz.isAgg123 Tryz.sizeOf123 rfl (a.atH d)) ?_
  refine p6 (l1 Tryz.isAgg57 a rfl) ?_
  obtain ⟨aa,ab,ac,c,h⟩:=h
  obtain ⟨aq,ar,ad,c⟩:=c
  refine g8 (A0 ad _ _ _ _ aa ab) ?_
  refine p6 (ldA (vs:=(d7 ac)) Tryz.isAgg123 Tryz.sizeOf123 rfl (a.atH c)) ?_
  refine p6 (l1 Tryz.isAgg57 a rfl) ?_
  refine g8 (A0 o _ _ _ _ l m) ?_
  refine p6 (ldA (vs:=(d7 n)) Tryz.isAgg123 Tryz.sizeOf123 rfl (a.atH d)) ?_
  refine f0 Tryz.call89 h a ?_
  rintro _ _ _ au e p f ⟨q,rfl,rfl,h⟩
  refine ⟨(f _ (a.a1f d) ((Inv.self (Fi:=[]) (Fr:=[bx b 131 (f7 x0)]) a).a2T d)),(f _ a.lt1 (Inv.U6 (Fi:=[]) a)),(f _ (a.a1f c) ((Inv.self (Fi:=[]) (Fr:=[bx b 131 (f7 x0)]) a).a2T c)),(f _ a.lt1 (Inv.U6 (Fi:=[]) a)),?_⟩
  refine f0 Tryz.call84 h e ?_
  rintro _ _ _ av ae _ r ⟨aw,rfl,rfl,h⟩
  refine ⟨(r _ (e.a1f (c.le p)) ((Inv.self (Fi:=[]) (Fr:=[bx b 131 (f7 x0)]) e).a2T (c.le p))),(r _ e.lt1 (Inv.U6 (Fi:=[]) e)),?_⟩
  refine f0 Tryz.call89 h ae ?_
  rintro _ af _ ax ag _ _ ⟨s,rfl,rfl,h⟩
  refine g8 (a8e _ _ _ _ _) ?_
  exact hx1 _ _ (hj1 (if s > q then s else q) af _ ag h)
 ·exact hx1 _ _ (hj1 0 H _ g h)
def V7(d4j:Sl)(b4s:Int)(b3D:Int)(H:Hp)(n2:(Int×Int)→Hp→Prop)(K:Int→Hp→Prop):Prop:=
 n2 (b4s,(IntKind.wrap .i64 (b3D+1))) H
def B4(d3Q:Sl)(b0w:Int)(b5I:Int)(b:i8)(H:Hp)(n2:(Int×Int)→Hp→Prop)(K:Int→Hp→Prop):Prop:=
 S4 b.K5 H (fun a d=>
 S4 b.L2 d (fun c e=>
 V7 d3Q (if c > (if a > b0w then a else b0w) then c else (if a > b0w then a else b0w)) b5I e n2 K))
def P8(d3R:Sl)(d3S:Int)(a:i8)(b2F:Int)(b1E:Int)(H:Hp)(n2:(Int×Int)→Hp→Prop)(n5:(Int×Int)→Hp→Prop)(K:Int→Hp→Prop):Prop:=
 (b1E < (a.r9.n:Int)→
 (0:Int)≤b1E∧(b1E:Int) < a.r9.n∧∃b:j8,EltH H a.r9 b1E 4 (f7 b)∧
 a0j b H (fun c d=>
 n5 ((if c > b2F then c else b2F),(IntKind.wrap .i64 (b1E+1))) d))∧
 (¬(b1E < (a.r9.n:Int))→
 B4 d3R b2F d3S a H n2 K)
def V8(a0d:Int)(H:Hp)(K:Int→Hp→Prop):Prop:=
 K a0d H
def P9(a2q:Sl)(a0h:Int)(B6:Int)(H:Hp)(n2:(Int×Int)→Hp→Prop)(K:Int→Hp→Prop):Prop:=
 (B6 < (a2q.n:Int)→
 (0:Int)≤B6∧(B6:Int) < a2q.n∧∃a:i8,EltH H a2q B6 6 (g7 a)∧
 (a.c8=1→
 (0:Int)≤0∧(0:Int) < a.l7.n∧∃d:f8,EltH H a.l7 0 4 (d7 d)∧
 a0i d 0 H (fun e i=>
 B4 a2q (if e > a0h then e else a0h) B6 a i n2 K))∧
 (¬(a.c8=1)→
 (a.c8=2→
 (0:Int)≤0∧(0:Int) < a.l7.n∧∃c:f8,EltH H a.l7 0 4 (d7 c)∧
 (0:Int)≤1∧(1:Int) < a.l7.n∧∃f:f8,EltH H a.l7 1 4 (d7 f)∧
 A6 c 0 H (fun b j=>
 C5 c 0 j (fun k l=>
 A6 f k l (fun g m=>
 B4 a2q (if g > (if b > a0h then b else a0h) then g else (if b > a0h then b else a0h)) B6 a m n2 K))))∧
 (¬(a.c8=2)→
 TL ((a0h,0):Int×Int) H fun(s:Int×Int) H n5=>P8 a2q B6 a s.1 s.2 H n2 n5 K)))∧
 (¬(B6 < (a2q.n:Int))→
 V8 a0h H K)
def a2r(x0:Sl)(H:Hp)(K:Int→Hp→Prop):Prop:=
 TL ((0,0):Int×Int) H fun(s:Int×Int) H n2=>P9 x0 s.1 s.2 H n2 K
theorem a9a(x0){H K}(h:a2r x0 H K):S4 x0 H K:=by
 refine Ct.of fun w0 w ps0 H0 R E I hR=>c9H ?_
 unfold a2r at h
 unfold F50
 have hj1:∀(a0d:Int) H w (_:Inv w0 ps0 H0 H [] w) (_:V8 a0d H K),b9H (vi a0d) w R E:=by
  intro a0d H w I h
  unfold b9H
  intro _
  unfold V8 at h
  exact hR _ H _ _ I ⟨a0d,rfl,rfl,h⟩
 refine o6 fun j1 hx1=>?_
 refine C9 (σ:=Int×Int) (fun (a0h,B6)=>[(vi a0h),(vi B6)]) (fun (a0h,B6)=>[]) h rfl I ?_
 rintro ⟨a0h,B6⟩ H bf w next2 n2 m I h hn2
 dsimp only at m I h
 simp only [List.map_cons,List.map_nil,List.cons.injEq,and_true] at m
 obtain ⟨e3,e4⟩:=m
 simp only [e3,e4]
 unfold c4n
 unfold P9 at h
 refine c5 (L3 _ _ _) (c5 pLs ?_)
 refine d9 h (fun _ h=>?_) (fun _ h=>?_)
 ·have hj3:∀(b4s:Int) H w (_:Inv w0 ps0 H0 H [] w) (_:V7 x0 b4s B6 H n2 K),b9I (vs x0) (vi b4s) (vi B6) w next2 R E:=by
   intro b4s H w I h
   unfold b9I
   intro _
   unfold V7 at h
   refine c5 pAd ?_
   exact hn2 (b4s,(IntKind.wrap .i64 (B6+1))) _ _ h I
  refine o6 fun j3 hx3=>?_
  obtain ⟨ad,ae,b,n,h⟩:=h
  obtain ⟨bg,bh,af,n⟩:=n
  refine c5 (a3Q af _ _ _ _ ad ae) (c6 (ldA (vs:=(g7 b)) Tryz.isAgg60 Tryz.sizeOf60 rfl (I.atH n)) ?_)
  refine u4 I Tryz.zeroValue60 (cs:=[(vi 0),(eS),(nS),(nS),(nS),(nS)]) rfl fun d bi ag bj=>?_
  refine y6 ag Tryz.sizeOf60 (vs:=(g7 b)) fun bk e bl=>?_
  have hj4:∀(b0w:Int) H w (_:Inv w0 ps0 H0 H [bx d 60 (g7 b)] w) (_:B4 x0 b0w B6 b H n2 K),b9J (vs x0) (vi b0w) (vi B6) (Value.pointer (some ⟨d,0,none⟩)) w j3 R E:=by
   intro b0w H w I h
   unfold b9J
   intro _
   unfold B4 at h
   refine Q9 I fun bm g=>?_
   refine g8 Q7 ?_
   refine g8 W9 ?_
   refine p6 (l1 Tryz.isAgg23 g rfl) ?_
   refine p6 (l1 Tryz.isAgg23 g rfl) ?_
   refine f0 Tryz.call50 h g ?_
   rintro _ _ _ bn ah _ ai ⟨j,rfl,rfl,h⟩
   refine ⟨(ai _ g.lt1 (Inv.U6 (Fi:=[]) g)),?_⟩
   refine f0 Tryz.call50 h ah ?_
   rintro _ aj _ bo ak _ _ ⟨r,rfl,rfl,h⟩
   refine g8 (c1p _ _ _ _ _ _) ?_
   exact hx3 _ _ (hj3 (if r > (if j > b0w then j else b0w) then r else (if j > b0w then j else b0w)) aj _ ak.drop h)
  refine o6 fun j4 hx4=>?_
  refine c5 T7 (c6 (l1 Tryz.isAgg3 e rfl) (c5 pEq ?_))
  refine d9 h (fun _ h=>?_) (fun _ h=>?_)
  ·refine c5 N3 (c6 (l1 Tryz.isAgg57 e rfl) ?_)
   obtain ⟨al,am,an,o,h⟩:=h
   obtain ⟨bp,bq,ao,o⟩:=o
   refine c5 (A0 ao _ _ _ _ al am) (c6 (ldA (vs:=(d7 an)) Tryz.isAgg123 Tryz.sizeOf123 rfl (e.atH o)) ?_)
   refine f0 Tryz.call88 h e ?_
   rintro _ ap _ br aq _ _ ⟨s,rfl,rfl,h⟩
   refine c5 (a8e _ _ _ _ _) ?_
   exact hx4 _ _ (hj4 (if s > a0h then s else a0h) ap _ aq h)
  ·refine c5 pEq ?_
   refine d9 h (fun _ h=>?_) (fun _ h=>?_)
   ·refine Q9 e fun bs a=>?_
    refine g8 N3 ?_
    refine g8 N3 ?_
    refine g8 N3 ?_
    refine p6 (l1 Tryz.isAgg57 a rfl) ?_
    obtain ⟨t,u,v,f,h⟩:=h
    obtain ⟨bt,bu,y,f⟩:=f
    refine g8 (A0 y _ _ _ _ t u) ?_
    refine p6 (ldA (vs:=(d7 v)) Tryz.isAgg123 Tryz.sizeOf123 rfl (a.atH f)) ?_
    refine p6 (l1 Tryz.isAgg57 a rfl) ?_
    obtain ⟨ar,au,av,c,h⟩:=h
    obtain ⟨bv,bw,aw,c⟩:=c
    refine g8 (A0 aw _ _ _ _ ar au) ?_
    refine p6 (ldA (vs:=(d7 av)) Tryz.isAgg123 Tryz.sizeOf123 rfl (a.atH c)) ?_
    refine p6 (l1 Tryz.isAgg57 a rfl) ?_
    refine g8 (A0 y _ _ _ _ t u) ?_
    refine p6 (ldA (vs:=(d7 v)) Tryz.isAgg123 Tryz.sizeOf123 rfl (a.atH f)) ?_
    refine f0 Tryz.call89 h a ?_
    rintro _ _ _ bz i z k ⟨l,rfl,rfl,h⟩
    refine ⟨(k _ (a.a1f f) ((Inv.self (Fi:=[]) (Fr:=[bx d 60 (g7 b)]) a).a2T f)),(k _ a.lt1 (Inv.U6 (Fi:=[]) a)),(k _ (a.a1f c) ((Inv.self (Fi:=[]) (Fr:=[bx d 60 (g7 b)]) a).a2T c)),(k _ a.lt1 (Inv.U6 (Fi:=[]) a)),?_⟩
    refine f0 Tryz.call84 h i ?_
    rintro _ _ _ ca ax _ aa ⟨cb,rfl,rfl,h⟩
    refine ⟨(aa _ (i.a1f (c.le z)) ((Inv.self (Fi:=[]) (Fr:=[bx d 60 (g7 b)]) i).a2T (c.le z))),(aa _ i.lt1 (Inv.U6 (Fi:=[]) i)),?_⟩
    refine f0 Tryz.call89 h ax ?_
    rintro _ ay _ cc az _ _ ⟨ab,rfl,rfl,h⟩
    refine g8 (c1p _ _ _ _ _ _) ?_
    exact hx4 _ _ (hj4 (if ab > (if l > a0h then l else a0h) then ab else (if l > a0h then l else a0h)) ay _ az h)
   ·refine C9 (σ:=Int×Int) (fun (b2F,b1E)=>[(vi b2F),(vi b1E)]) (fun (b2F,b1E)=>[bx d 60 (g7 b)]) h rfl e ?_
    rintro ⟨b2F,b1E⟩ H cd w next5 n5 p I h hn5
    dsimp only at p I h
    simp only [List.map_cons,List.map_nil,List.cons.injEq,and_true] at p
    obtain ⟨e3,e6⟩:=p
    simp only [e3,e6]
    unfold c4m
    unfold P8 at h
    refine c5 O2 (c6 (l1 Tryz.isAgg58 I rfl) (c5 (a0B _ _ _) (c5 pLs ?_)))
    refine d9 h (fun _ h=>?_) (fun _ h=>?_)
    ·refine c5 O2 (c6 (l1 Tryz.isAgg58 I rfl) ?_)
     obtain ⟨ba,bb,bc,q,h⟩:=h
     obtain ⟨ce,cf,bd,q⟩:=q
     refine c5 (L0 bd _ _ _ _ ba bb) (c6 (ldA (vs:=(f7 bc)) Tryz.isAgg131 Tryz.sizeOf131 rfl (I.atH q)) ?_)
     refine f0 Tryz.call90 h I ?_
     rintro _ _ _ cg be _ _ ⟨ac,rfl,rfl,h⟩
     refine c5 (a8e _ _ _ _ _) (c5 pAd ?_)
     exact hn5 ((if ac > b2F then ac else b2F),(IntKind.wrap .i64 (b1E+1))) _ _ h be
    ·exact hx4 _ _ (hj4 b2F H _ I h)
 ·exact hx1 _ _ (hj1 a0h H _ I h)
def a0X(H:Hp)(K:Int→Hp→Prop):Prop:=
 K (-1) H
def a3E(a2q:Sl)(a1j:ByteArray)(q8:Int)(H:Hp)(n2:Int→Hp→Prop)(K:Int→Hp→Prop):Prop:=
 (q8 < (a2q.n:Int)→
 (0:Int)≤q8∧(q8:Int) < a2q.n∧∃a:i7,EltH H a2q q8 2 (i5 a)∧
 (a.f6=a1j→
 K q8 H)∧
 (¬(a.f6=a1j)→
 n2 (IntKind.wrap .i64 (q8+1)) H))∧
 (¬(q8 < (a2q.n:Int))→
 a0X H K)
def a5w(x0:Sl)(x1:ByteArray)(H:Hp)(K:Int→Hp→Prop):Prop:=
 TL (0:Int) H fun(s:Int) H n2=>a3E x0 x1 s H n2 K
theorem b1F(x0 x1){H K}(h:a5w x0 x1 H K):a2i x0 x1 H K:=by
 refine Ct.of fun w0 w ps0 H0 R E I hR=>c9E ?_
 unfold a5w at h
 unfold F47
 have hj1:∀H w (_:Inv w0 ps0 H0 H [] w) (_:a0X H K),b9G w R E:=by
  intro H w I h
  unfold b9G
  intro _
  unfold a0X at h
  exact hR _ H _ _ I ⟨(-1),rfl,rfl,h⟩
 refine o6 fun j1 hx1=>?_
 refine C9 (σ:=Int) (fun q8=>[(vi q8)]) (fun q8=>[]) h rfl I ?_
 rintro q8 H g w next2 n2 b I h hn2
 simp only [List.map_cons,List.map_nil,List.cons.injEq,and_true] at b
 have e5:=b
 simp only [e5]
 unfold c4l
 unfold a3E at h
 refine c5 (a0V _ _ _) (c5 pLs ?_)
 refine d9 h (fun _ h=>?_) (fun _ h=>?_)
 ·obtain ⟨c,d,e,a,h⟩:=h
  obtain ⟨i,j,f,a⟩:=a
  refine c5 (U7 f _ _ _ _ c d) (c5 T8 (c6 (ld1 (v:=(Value.string e.f6)) Tryz.isAgg9 ((I.atH a).sub (k:=0) (n:=1) (nb rfl))) (c5 (P4 _ _ _ _ _) ?_)))
  refine d9 h (fun _ h=>?_) (fun _ h=>?_)
  ·exact hR _ H _ _ I ⟨q8,rfl,rfl,h⟩
  ·refine c5 pAd ?_
   exact hn2 (IntKind.wrap .i64 (q8+1)) _ _ h I
 ·exact hx1 _ _ (hj1 H _ I h)
def Z3(b4W:(List d8))(d4k:Sl)(d3T:Int)(H:Hp)(n2:((List d8)×Int)→Hp→Prop)(K:(List d8)→Hp→Prop):Prop:=
 n2 (b4W,(IntKind.wrap .i64 (d3T+1))) H
def Z4(b6l:(List d8))(d3U:Sl)(b7J:Int)(a:i8)(H:Hp)(n2:((List d8)×Int)→Hp→Prop)(K:(List d8)→Hp→Prop):Prop:=
 V0 b6l a.K5 H (fun b c=>
 V0 b a.L2 c (fun d e=>
 Z3 d d3U b7J e n2 K))
def Z5(d3V:Sl)(d3W:Int)(a:i8)(a8o:(List d8))(a8b:Int)(H:Hp)(n2:((List d8)×Int)→Hp→Prop)(n7:((List d8)×Int)→Hp→Prop)(K:(List d8)→Hp→Prop):Prop:=
 (a8b < (a.l7.n:Int)→
 (0:Int)≤a8b∧(a8b:Int) < a.l7.n∧∃b:f8,EltH H a.l7 a8b 4 (d7 b)∧
 U9 a8o b H (fun c d=>
 n7 (c,(IntKind.wrap .i64 (a8b+1))) d))∧
 (¬(a8b < (a.l7.n:Int))→
 Z4 a8o d3V d3W a H n2 K)
def Z6(b4X:(List d8))(d3X:Sl)(b2D:Int)(a:i8)(H:Hp)(n2:((List d8)×Int)→Hp→Prop)(K:(List d8)→Hp→Prop):Prop:=
 TL ((b4X,0):(List d8)×Int) H fun(s:(List d8)×Int) H n7=>Z5 d3X b2D a s.1 s.2 H n2 n7 K
def Z7(d3Y:Sl)(d3Z:Int)(a:i8)(a8p:(List d8))(a8c:Int)(H:Hp)(n2:((List d8)×Int)→Hp→Prop)(n8:((List d8)×Int)→Hp→Prop)(K:(List d8)→Hp→Prop):Prop:=
 (a8c < (a.r9.n:Int)→
 (0:Int)≤a8c∧(a8c:Int) < a.r9.n∧∃b:j8,EltH H a.r9 a8c 4 (f7 b)∧
 a0F a8p b H (fun c d=>
 n8 (c,(IntKind.wrap .i64 (a8c+1))) d))∧
 (¬(a8c < (a.r9.n:Int))→
 Z6 a8p d3Y d3Z a H n2 K)
def N6(b4Y:(List d8))(d4a:Sl)(d4b:Int)(a:i8)(H:Hp)(n2:((List d8)×Int)→Hp→Prop)(K:(List d8)→Hp→Prop):Prop:=
 TL ((b4Y,0):(List d8)×Int) H fun(s:(List d8)×Int) H n8=>Z7 d4a d4b a s.1 s.2 H n2 n8 K
def Z8(a3L:(List d8))(H:Hp)(K:(List d8)→Hp→Prop):Prop:=
 K a3L H
def Z9(a1j:Sl)(a4K:(List d8))(q8:Int)(H:Hp)(n2:((List d8)×Int)→Hp→Prop)(K:(List d8)→Hp→Prop):Prop:=
 (q8 < (a1j.n:Int)→
 (0:Int)≤q8∧(q8:Int) < a1j.n∧∃a:i8,EltH H a1j q8 6 (g7 a)∧
 (((decide (a.c8=1))||(decide (a.c8=2)))=true→
 (a4K.length+([(d8.mk a.f6 (decide (a.c8=2)))]:List d8).length)*25≤140737488355328∧
 N6 (a4K++[(d8.mk a.f6 (decide (a.c8=2)))]) a1j q8 a H n2 K)∧
 (((decide (a.c8=1))||(decide (a.c8=2)))=false→
 N6 a4K a1j q8 a H n2 K))∧
 (¬(q8 < (a1j.n:Int))→
 Z8 a4K H K)
def a3l(x0:(List d8))(x1:Sl)(H:Hp)(K:(List d8)→Hp→Prop):Prop:=
 TL ((x0,0):(List d8)×Int) H fun(s:(List d8)×Int) H n2=>Z9 x1 s.1 s.2 H n2 K
theorem a9L(x0 x1){H K}(h:a3l x0 x1 H K):V0 x0 x1 H K:=by
 intro sx0 Fx0 hx0
 refine Ct.of fun w0 w ps0 H0 R E I hR=>d0a ?_
 unfold a3l at h
 unfold F76
 have hj1:∀(a3L:(List d8))(a7j:Sl)(Fs0j1:Frag) H w (_:RowL 105 2 p9 a7j a3L Fs0j1) (_:Inv w0 ps0 H0 H [Fs0j1] w) (_:Z8 a3L H K),b9T (vs a7j) w R E:=by
  intro a3L a7j Fs0j1 H w b6e I h
  unfold b9T
  intro _
  unfold Z8 at h
  exact hR _ H _ _ I ⟨a3L,a7j,Fs0j1,rfl,rfl,b6e,h⟩
 refine o6 fun j1 hx1=>?_
 obtain ⟨p,k,ad,ae⟩:=h
 refine L5 (J:=fun n l w=>∃(s:(List d8)×Int)(H:Hp)(b4Z:Sl)(Fs0l2:Frag),n=k s∧l=(match s with | (a4K,q8)=>[(vs b4Z),(vi q8)])∧(match s with | (a4K,q8)=>RowL 105 2 p9 b4Z a4K Fs0l2)∧(match s with | (a4K,q8)=>Inv w0 ps0 H0 H [Fs0l2] w)∧p s H) ⟨_,(x0,0),H,sx0,Fx0,rfl,rfl,hx0,I,ad⟩ ?_
 rintro cd ce w next2 ⟨⟨a4K,q8⟩,H,b4Z,Fs0l2,rfl,q,b8E,I,af⟩ hn2
 dsimp only at q I b8E
 simp only [List.map_cons,List.map_nil,List.cons.injEq,and_true] at q
 obtain ⟨e0,e5⟩:=q
 simp only [e0,e5]
 obtain ⟨n2,hm2,h⟩:∃n2:((List d8)×Int)→Hp→Prop,(∀s' H',n2 s' H'→p s' H'∧k s' < k (a4K,q8))∧Z9 x1 a4K q8 H n2 K:=⟨_,fun _ _ h=>h,ae (a4K,q8) H (fun s' H'=>p s' H'∧k s' < k (a4K,q8)) af (fun _ _ a b=>⟨a,b⟩)⟩
 unfold c4z
 unfold Z9 at h
 refine c5 (L3 _ _ _) (c5 pLs ?_)
 refine d9 h (fun _ h=>?_) (fun _ h=>?_)
 ·have hj3:∀(b4W:(List d8))(b8F:Sl)(Fs0j3:Frag) H w (_:RowL 105 2 p9 b8F b4W Fs0j3) (_:Inv w0 ps0 H0 H [Fs0j3] w) (_:Z3 b4W x1 q8 H n2 K),b9U (vs b8F) (vs x1) (vi q8) w next2 R E:=by
   intro b4W b8F Fs0j3 H w d2r I h
   unfold b9U
   intro _
   unfold Z3 at h
   refine c5 pAd ?_
   exact hn2 _ _ _ (hm2 _ _ h).2 ⟨(b4W,(IntKind.wrap .i64 (q8+1))),H,b8F,Fs0j3,rfl,rfl,d2r,I,(hm2 _ _ h).1⟩
  refine o6 fun j3 hx3=>?_
  obtain ⟨ag,ah,f,r,h⟩:=h
  obtain ⟨cf,cg,ai,r⟩:=r
  refine c5 (a3Q ai _ _ _ _ ag ah) (c6 (ldA (vs:=(g7 f)) Tryz.isAgg60 Tryz.sizeOf60 rfl (I.atH r)) ?_)
  refine u4 I Tryz.zeroValue60 (cs:=[(vi 0),(eS),(nS),(nS),(nS),(nS)]) rfl fun i ch aj ci=>?_
  refine y6 aj Tryz.sizeOf60 (vs:=(g7 f)) fun cj j ck=>?_
  have hj4:∀(b4Y:(List d8))(b8G:Sl)(Fs0j4:Frag) H w (_:RowL 105 2 p9 b8G b4Y Fs0j4) (_:Inv w0 ps0 H0 H [bx i 60 (g7 f),Fs0j4] w) (_:N6 b4Y x1 q8 f H n2 K),b9X (vs b8G) (vs x1) (vi q8) (Value.pointer (some ⟨i,0,none⟩)) w j3 R E:=by
   intro b4Y b8G Fs0j4 H w d2s I h
   unfold b9X
   intro _
   unfold N6 at h
   have hj5:∀(b4X:(List d8))(b8H:Sl)(Fs0j5:Frag) H w (_:RowL 105 2 p9 b8H b4X Fs0j5) (_:Inv w0 ps0 H0 H [bx i 60 (g7 f),Fs0j5] w) (_:Z6 b4X x1 q8 f H n2 K),b9W (vs b8H) (vs x1) (vi q8) (Value.pointer (some ⟨i,0,none⟩)) w j3 R E:=by
    intro b4X b8H Fs0j5 H w d2t I h
    unfold b9W
    intro _
    unfold Z6 at h
    have hj6:∀(b6l:(List d8))(b8I:Sl)(Fs0j6:Frag) H w (_:RowL 105 2 p9 b8I b6l Fs0j6) (_:Inv w0 ps0 H0 H [bx i 60 (g7 f),Fs0j6] w) (_:Z4 b6l x1 q8 f H n2 K),b9V (vs b8I) (vs x1) (vi q8) (Value.pointer (some ⟨i,0,none⟩)) w j3 R E:=by
     intro b6l b8I Fs0j6 H w d2u I h
     unfold b9V
     intro _
     unfold Z4 at h
     refine c5 Q7 (c6 (l1 Tryz.isAgg23 I rfl) ?_)
     refine f0 Tryz.call76 (h b8I Fs0j6 d2u) (I.bring 1) ?_
     rintro _ _ _ cl ab _ _ ⟨cm,ak,al,rfl,rfl,am,h⟩
     refine c5 W9 (c6 (l1 Tryz.isAgg23 (ab.bring 1) rfl) ?_)
     refine f0 Tryz.call76 (h ak al am) ab ?_
     rintro _ an _ cn ao _ _ ⟨ap,aq,ar,rfl,rfl,au,h⟩
     exact hx3 _ _ (hj3 ap aq ar an _ au (ao.bring 1).drop h)
    refine o6 fun j6 hx6=>?_
    obtain ⟨t,m,av,aw⟩:=h
    refine L5 (J:=fun n l w=>∃(s:(List d8)×Int)(H:Hp)(b6m:Sl)(Fs0l7:Frag),n=m s∧l=(match s with | (a8o,a8b)=>[(vs b6m),(vi a8b)])∧(match s with | (a8o,a8b)=>RowL 105 2 p9 b6m a8o Fs0l7)∧(match s with | (a8o,a8b)=>Inv w0 ps0 H0 H [bx i 60 (g7 f),Fs0l7] w)∧t s H) ⟨_,(b4X,0),H,b8H,Fs0j5,rfl,rfl,d2t,((I.bring 1).bring 1),av⟩ ?_
    rintro co cp w next7 ⟨⟨a8o,a8b⟩,H,b6m,Fs0l7,rfl,u,c2U,I,ax⟩ hn7
    dsimp only at u I c2U
    simp only [List.map_cons,List.map_nil,List.cons.injEq,and_true] at u
    obtain ⟨e0,e8⟩:=u
    simp only [e0,e8]
    obtain ⟨n7,hm7,h⟩:∃n7:((List d8)×Int)→Hp→Prop,(∀s' H',n7 s' H'→t s' H'∧m s' < m (a8o,a8b))∧Z5 x1 q8 f a8o a8b H n2 n7 K:=⟨_,fun _ _ h=>h,aw (a8o,a8b) H (fun s' H'=>t s' H'∧m s' < m (a8o,a8b)) ax (fun _ _ a b=>⟨a,b⟩)⟩
    unfold c4x
    unfold Z5 at h
    refine c5 N3 (c6 (l1 Tryz.isAgg57 I rfl) (c5 (P7 _ _ _) (c5 pLs ?_)))
    refine d9 h (fun _ h=>?_) (fun _ h=>?_)
    ·refine c5 N3 (c6 (l1 Tryz.isAgg57 I rfl) ?_)
     obtain ⟨ay,az,ba,v,h⟩:=h
     obtain ⟨cq,cr,bb,v⟩:=v
     refine c5 (A0 bb _ _ _ _ ay az) (c6 (ldA (vs:=(d7 ba)) Tryz.isAgg123 Tryz.sizeOf123 rfl (I.atH v)) ?_)
     refine f0 Tryz.call106 (h b6m Fs0l7 c2U) (I.bring 1) ?_
     rintro _ bc _ ct bd _ _ ⟨be,bf,bg,rfl,rfl,bh,h⟩
     refine c5 pAd ?_
     exact hn7 _ _ _ (hm7 _ _ h).2 ⟨(be,(IntKind.wrap .i64 (a8b+1))),bc,bf,bg,rfl,rfl,bh,(bd.bring 1),(hm7 _ _ h).1⟩
    ·exact hx6 _ _ (hj6 a8o b6m Fs0l7 H _ c2U ((I.bring 1).bring 1) h)
   refine o6 fun j5 hx5=>?_
   obtain ⟨y,o,bi,bj⟩:=h
   refine L5 (J:=fun n l w=>∃(s:(List d8)×Int)(H:Hp)(b6n:Sl)(Fs0l8:Frag),n=o s∧l=(match s with | (a8p,a8c)=>[(vs b6n),(vi a8c)])∧(match s with | (a8p,a8c)=>RowL 105 2 p9 b6n a8p Fs0l8)∧(match s with | (a8p,a8c)=>Inv w0 ps0 H0 H [bx i 60 (g7 f),Fs0l8] w)∧y s H) ⟨_,(b4Y,0),H,b8G,Fs0j4,rfl,rfl,d2s,((I.bring 1).bring 1),bi⟩ ?_
   rintro cu cv w next8 ⟨⟨a8p,a8c⟩,H,b6n,Fs0l8,rfl,z,c2V,I,bk⟩ hn8
   dsimp only at z I c2V
   simp only [List.map_cons,List.map_nil,List.cons.injEq,and_true] at z
   obtain ⟨e0,e7⟩:=z
   simp only [e0,e7]
   obtain ⟨n8,hm8,h⟩:∃n8:((List d8)×Int)→Hp→Prop,(∀s' H',n8 s' H'→y s' H'∧o s' < o (a8p,a8c))∧Z7 x1 q8 f a8p a8c H n2 n8 K:=⟨_,fun _ _ h=>h,bj (a8p,a8c) H (fun s' H'=>y s' H'∧o s' < o (a8p,a8c)) bk (fun _ _ a b=>⟨a,b⟩)⟩
   unfold c4y
   unfold Z7 at h
   refine c5 O2 (c6 (l1 Tryz.isAgg58 I rfl) (c5 (a0B _ _ _) (c5 pLs ?_)))
   refine d9 h (fun _ h=>?_) (fun _ h=>?_)
   ·refine c5 O2 (c6 (l1 Tryz.isAgg58 I rfl) ?_)
    obtain ⟨bl,bm,bn,aa,h⟩:=h
    obtain ⟨cw,cx,bo,aa⟩:=aa
    refine c5 (L0 bo _ _ _ _ bl bm) (c6 (ldA (vs:=(f7 bn)) Tryz.isAgg131 Tryz.sizeOf131 rfl (I.atH aa)) ?_)
    refine f0 Tryz.call105 (h b6n Fs0l8 c2V) (I.bring 1) ?_
    rintro _ bp _ cy bq _ _ ⟨br,bs,bt,rfl,rfl,bu,h⟩
    refine c5 pAd ?_
    exact hn8 _ _ _ (hm8 _ _ h).2 ⟨(br,(IntKind.wrap .i64 (a8c+1))),bp,bs,bt,rfl,rfl,bu,(bq.bring 1),(hm8 _ _ h).1⟩
   ·exact hx5 _ _ (hj5 a8p b6n Fs0l8 H _ c2V ((I.bring 1).bring 1) h)
  refine o6 fun j4 hx4=>?_
  refine c5 T7 (c6 (l1 Tryz.isAgg3 j rfl) (c5 pEq ?_))
  refine c5 (Pu.g fun d=>by with_reducible exact T7) ?_
  refine c6 (Ld.g fun d=>by simp only [i4 d];exact (l1 Tryz.isAgg3 j rfl)) ?_
  refine c5 (Pu.g fun d=>by simp only [i4 d];with_reducible exact pEq) ?_
  refine c5 (L8 _ _) ?_
  refine m8 h (fun _ h=>?_) (fun _ h=>?_)
  ·refine c5 a0E (c6 (l1 Tryz.isAgg9 j rfl) (c5 T7 (c6 (l1 Tryz.isAgg3 j rfl) (c5 pEq ?_))))
   refine c5 (b2Q _ _) ?_
   refine a3v (e:=105) (c:=p9) (xs:=[(d8.mk f.f6 (decide (f.c8=2)))]) j (b9l _ _) rfl rfl a6X a6Y (nb rfl) fun cz da db bv ac dc=>?_
   obtain ⟨bw,h⟩:=h
   refine c1r (s:=b4Z) (xs:=a4K) (ac.bring 2) b8E (bv.srcO ((ac.bring 2).bring 1)) bw fun bz ca dd cb cc de=>?_
   exact hx4 _ _ (hj4 (a4K++[(d8.mk f.f6 (decide (f.c8=2)))]) bz ca H _ cb ((cc.bring 1).drop.bring 1) h)
  ·exact hx4 _ _ (hj4 a4K b4Z Fs0l2 H _ b8E ((j.bring 1).bring 1) h)
 ·exact hx1 _ _ (hj1 a4K b4Z Fs0l2 H _ b8E I h)
def a0Y(d4c:Int)(d1z:Int)(a6F:Int)(H:Hp)(K:Int→Int→Bool→Hp→Prop):Prop:=
 ((((decide (a6F < d1z))||(decide (1114111 < a6F)))||((decide (55296≤a6F))&&(decide (a6F < 57344))))=true→
 K 65533 1 false H)∧
 ((((decide (a6F < d1z))||(decide (1114111 < a6F)))||((decide (55296≤a6F))&&(decide (a6F < 57344))))=false→
 K a6F d4c true H)
def a3F(a9M:ByteArray)(a5N:Int)(c5L:Int)(a4C:Int)(a2l:Int)(N9:Int)(H:Hp)(n3:(Int×Int)→Hp→Prop)(K:Int→Int→Bool→Hp→Prop):Prop:=
 (N9 < c5L→
 ((decide ((a9M.size:Int)≤(IntKind.wrap .i64 (a5N+N9))))=false→(0:Int)≤IntKind.wrap .i64 (a5N+N9)∧IntKind.wrap .i64 (a5N+N9) < (a9M.size:Int))∧
 (((decide ((a9M.size:Int)≤(IntKind.wrap .i64 (a5N+N9))))||(decide (((a9M.get! (IntKind.wrap .i64 (a5N+N9):Int).toNat).toNat:Int) < 128)))=false→(0:Int)≤IntKind.wrap .i64 (a5N+N9)∧IntKind.wrap .i64 (a5N+N9) < (a9M.size:Int))∧
 ((((decide ((a9M.size:Int)≤(IntKind.wrap .i64 (a5N+N9))))||(decide (((a9M.get! (IntKind.wrap .i64 (a5N+N9):Int).toNat).toNat:Int) < 128)))||(decide (192≤((a9M.get! (IntKind.wrap .i64 (a5N+N9):Int).toNat).toNat:Int))))=true→
 K 65533 1 false H)∧
 ((((decide ((a9M.size:Int)≤(IntKind.wrap .i64 (a5N+N9))))||(decide (((a9M.get! (IntKind.wrap .i64 (a5N+N9):Int).toNat).toNat:Int) < 128)))||(decide (192≤((a9M.get! (IntKind.wrap .i64 (a5N+N9):Int).toNat).toNat:Int))))=false→
 (0:Int)≤IntKind.wrap .i64 (a5N+N9)∧IntKind.wrap .i64 (a5N+N9) < (a9M.size:Int)∧
 n3 ((IntKind.wrap .i64 ((IntKind.wrap .i64 ((IntKind.wrap .i64 (64*a2l))+(IntKind.wrap .i64 ((a9M.get! (IntKind.wrap .i64 (a5N+N9):Int).toNat).toNat:Int))))-128)),(IntKind.wrap .i64 (N9+1))) H))∧
 (¬(N9 < c5L)→
 a0Y c5L a4C a2l H K)
def N8(c2W:ByteArray)(b7L:Int)(b4t:Int)(a8X:Int)(b6o:Int)(H:Hp)(K:Int→Int→Bool→Hp→Prop):Prop:=
 TL ((b6o,1):Int×Int) H fun(s:Int×Int) H n3=>a3F c2W b7L b4t a8X s.1 s.2 H n3 K
def a5x(x0:ByteArray)(x1:Int)(H:Hp)(K:Int→Int→Bool→Hp→Prop):Prop:=
 (0:Int)≤x1∧x1 < (x0.size:Int)∧
 ((IntKind.wrap .i64 ((x0.get! (x1:Int).toNat).toNat:Int)) < 128→
 K (IntKind.wrap .i64 ((x0.get! (x1:Int).toNat).toNat:Int)) 1 true H)∧
 (¬((IntKind.wrap .i64 ((x0.get! (x1:Int).toNat).toNat:Int)) < 128)→
 (((decide (194≤(IntKind.wrap .i64 ((x0.get! (x1:Int).toNat).toNat:Int))))&&(decide ((IntKind.wrap .i64 ((x0.get! (x1:Int).toNat).toNat:Int)) < 224)))=true→
 N8 x0 x1 2 128 (IntKind.wrap .i64 ((IntKind.wrap .i64 ((x0.get! (x1:Int).toNat).toNat:Int))-192)) H K)∧
 (((decide (194≤(IntKind.wrap .i64 ((x0.get! (x1:Int).toNat).toNat:Int))))&&(decide ((IntKind.wrap .i64 ((x0.get! (x1:Int).toNat).toNat:Int)) < 224)))=false→
 (((decide (224≤(IntKind.wrap .i64 ((x0.get! (x1:Int).toNat).toNat:Int))))&&(decide ((IntKind.wrap .i64 ((x0.get! (x1:Int).toNat).toNat:Int)) < 240)))=true→
 N8 x0 x1 3 2048 (IntKind.wrap .i64 ((IntKind.wrap .i64 ((x0.get! (x1:Int).toNat).toNat:Int))-224)) H K)∧
 (((decide (224≤(IntKind.wrap .i64 ((x0.get! (x1:Int).toNat).toNat:Int))))&&(decide ((IntKind.wrap .i64 ((x0.get! (x1:Int).toNat).toNat:Int)) < 240)))=false→
 (((decide (240≤(IntKind.wrap .i64 ((x0.get! (x1:Int).toNat).toNat:Int))))&&(decide ((IntKind.wrap .i64 ((x0.get! (x1:Int).toNat).toNat:Int)) < 245)))=true→
 N8 x0 x1 4 65536 (IntKind.wrap .i64 ((IntKind.wrap .i64 ((x0.get! (x1:Int).toNat).toNat:Int))-240)) H K)∧
 (((decide (240≤(IntKind.wrap .i64 ((x0.get! (x1:Int).toNat).toNat:Int))))&&(decide ((IntKind.wrap .i64 ((x0.get! (x1:Int).toNat).toNat:Int)) < 245)))=false→
 K 65533 1 false H))))
theorem b1G(x0 x1){H K}(h:a5x x0 x1 H K):a5j x0 x1 H K:=by
 refine Ct.of fun w0 w ps0 H0 R E I hR=>c7F ?_
 unfold a5x at h
 unfold d0N
 obtain ⟨i,j,h⟩:=h
 refine c5 (b2R _ _ _ i j) (c5 (b4n _ _) ?_)
 have hj1:∀(b4t:Int)(a8X:Int)(b6o:Int) H w (_:Inv w0 ps0 H0 H [] w) (_:N8 x0 x1 b4t a8X b6o H K),b7i (Value.string x0) (vi x1) (vi b4t) (vi a8X) (vi b6o) w R E:=by
  intro b4t a8X b6o H w I h
  unfold b7i
  intro _
  unfold N8 at h
  have hj2:∀(a6F:Int) H w (_:Inv w0 ps0 H0 H [] w) (_:a0Y b4t a8X a6F H K),b7h (vi b4t) (vi a8X) (vi a6F) w R E:=by
   intro a6F H w I h
   unfold b7h
   intro _
   unfold a0Y at h
   refine c5 pLs ?_
   simp only [z7]
   refine c5 (Pu.g fun a=>by simp only [i4 a];with_reducible exact pGt) ?_
   refine c5 (L8 _ _) ?_
   simp only [z7]
   refine c5 (Pu.g fun a=>by simp only [i4 a];with_reducible exact pGe) ?_
   simp only [a7g,b2M]
   refine c5 (Pu.e (a1d _ _ _) (Pu.g fun hb=>by obtain ⟨a,b⟩:=a4o hb;simp only [i4 hb];with_reducible exact pLs)) ?_
   refine c5 (Pu.g fun a=>by simp only [i4 a,a9Y a];with_reducible exact (y9 _ _)) ?_
   refine c5 (L8 _ _) ?_
   refine m8 h (fun _ h=>?_) (fun _ h=>?_)
   ·exact hR _ H _ _ I ⟨65533,1,false,rfl,rfl,h⟩
   ·exact hR _ H _ _ I ⟨a6F,b4t,true,rfl,rfl,h⟩
  refine o6 fun j2 hx2=>?_
  refine C9 (σ:=Int×Int) (fun (a2l,N9)=>[(vi a2l),(vi N9)]) (fun (a2l,N9)=>[]) h rfl I ?_
  rintro ⟨a2l,N9⟩ H m w next3 n3 f I h hn3
  dsimp only at f I h
  simp only [List.map_cons,List.map_nil,List.cons.injEq,and_true] at f
  obtain ⟨e10,e11⟩:=f
  simp only [e10,e11]
  unfold c1K
  unfold a3F at h
  refine c5 pLs ?_
  refine d9 h (fun _ h=>?_) (fun _ h=>?_)
  ·refine c5 pAd (c5 (b3t _) (c5 pGe ?_))
   simp only [z7]
   refine c5 (Pu.g fun a=>by simp only [i4 a];with_reducible exact pAd) ?_
   obtain ⟨c,h⟩:=h
   refine c5 (Pu.g fun hb=>by have a:=hb;simp only [i4 a];with_reducible exact (b2R _ _ _ (c hb).1 (c hb).2)) ?_
   refine c5 (Pu.g fun a=>by simp only [i4 a];with_reducible exact pLs) ?_
   refine c5 (L8 _ _) ?_
   simp only [z7]
   refine c5 (Pu.g fun a=>by simp only [i4 a];with_reducible exact pAd) ?_
   obtain ⟨d,h⟩:=h
   refine c5 (Pu.g fun hb=>by have a:=hb;simp only [i4 a];with_reducible exact (b2R _ _ _ (d hb).1 (d hb).2)) ?_
   refine c5 (Pu.g fun a=>by simp only [i4 a];with_reducible exact pGe) ?_
   refine c5 (L8 _ _) ?_
   refine m8 h (fun _ h=>?_) (fun _ h=>?_)
   ·exact hR _ H _ _ I ⟨65533,1,false,rfl,rfl,h⟩
   ·refine c5 pMu (c5 pAd ?_)
    obtain ⟨k,l,h⟩:=h
    refine c5 (b2R _ _ _ k l) (c5 (b4n _ _) (c5 pAd (c5 pSu (c5 pAd ?_))))
    exact hn3 ((IntKind.wrap .i64 ((IntKind.wrap .i64 ((IntKind.wrap .i64 (64*a2l))+(IntKind.wrap .i64 ((x0.get! (IntKind.wrap .i64 (x1+N9):Int).toNat).toNat:Int))))-128)),(IntKind.wrap .i64 (N9+1))) _ _ h I
  ·exact hx2 _ _ (hj2 a2l H _ I h)
 refine o6 fun j1 hx1=>?_
 refine c5 pLs ?_
 refine d9 h (fun _ h=>?_) (fun _ h=>?_)
 ·exact hR _ H _ _ I ⟨(IntKind.wrap .i64 ((x0.get! (x1:Int).toNat).toNat:Int)),1,true,rfl,rfl,h⟩
 ·refine c5 pGe ?_
  simp only [z7]
  refine c5 (Pu.g fun a=>by simp only [i4 a];with_reducible exact pLs) ?_
  refine c5 (y9 _ _) ?_
  refine m8 h (fun _ h=>?_) (fun _ h=>?_)
  ·refine c5 pSu ?_
   exact hx1 _ _ (hj1 2 128 (IntKind.wrap .i64 ((IntKind.wrap .i64 ((x0.get! (x1:Int).toNat).toNat:Int))-192)) H _ I h)
  ·refine c5 pGe ?_
   simp only [z7]
   refine c5 (Pu.g fun a=>by simp only [i4 a];with_reducible exact pLs) ?_
   refine c5 (y9 _ _) ?_
   refine m8 h (fun _ h=>?_) (fun _ h=>?_)
   ·refine c5 pSu ?_
    exact hx1 _ _ (hj1 3 2048 (IntKind.wrap .i64 ((IntKind.wrap .i64 ((x0.get! (x1:Int).toNat).toNat:Int))-224)) H _ I h)
   ·refine c5 pGe ?_
    simp only [z7]
    refine c5 (Pu.g fun a=>by simp only [i4 a];with_reducible exact pLs) ?_
    refine c5 (y9 _ _) ?_
    refine m8 h (fun _ h=>?_) (fun _ h=>?_)
    ·refine c5 pSu ?_
     exact hx1 _ _ (hj1 4 65536 (IntKind.wrap .i64 ((IntKind.wrap .i64 ((x0.get! (x1:Int).toNat).toNat:Int))-240)) H _ I h)
    ·exact hR _ H _ _ I ⟨65533,1,false,rfl,rfl,h⟩
def o0(u7:Bool)(H:Hp)(K:Bool→Hp→Prop):Prop:=
 (u7=true→
 K true H)∧
 (u7=false→
 K false H)
def a5y(x0:ByteArray)(H:Hp)(K:Bool→Hp→Prop):Prop:=
 (x0=⟨#[118,97,114]⟩→
 o0 (decide (x0=⟨#[118,97,114]⟩)) H K)∧
 (¬(x0=⟨#[118,97,114]⟩)→
 (x0=⟨#[97,114,114,97,121]⟩→
 o0 (decide (x0=⟨#[97,114,114,97,121]⟩)) H K)∧
 (¬(x0=⟨#[97,114,114,97,121]⟩)→
 (x0=⟨#[105,102]⟩→
 o0 (decide (x0=⟨#[105,102]⟩)) H K)∧
 (¬(x0=⟨#[105,102]⟩)→
 (x0=⟨#[101,108,115,101]⟩→
 o0 (decide (x0=⟨#[101,108,115,101]⟩)) H K)∧
 (¬(x0=⟨#[101,108,115,101]⟩)→
 (x0=⟨#[119,104,105,108,101]⟩→
 o0 (decide (x0=⟨#[119,104,105,108,101]⟩)) H K)∧
 (¬(x0=⟨#[119,104,105,108,101]⟩)→
 (x0=⟨#[97,115,115,101,114,116]⟩→
 o0 (decide (x0=⟨#[97,115,115,101,114,116]⟩)) H K)∧
 (¬(x0=⟨#[97,115,115,101,114,116]⟩)→
 (x0=⟨#[97,115,115,117,109,101]⟩→
 o0 (decide (x0=⟨#[97,115,115,117,109,101]⟩)) H K)∧
 (¬(x0=⟨#[97,115,115,117,109,101]⟩)→
 (x0=⟨#[115,107,105,112]⟩→
 o0 (decide (x0=⟨#[115,107,105,112]⟩)) H K)∧
 (¬(x0=⟨#[115,107,105,112]⟩)→
 (x0=⟨#[105,110,112,117,116]⟩→
 o0 (decide (x0=⟨#[105,110,112,117,116]⟩)) H K)∧
 (¬(x0=⟨#[105,110,112,117,116]⟩)→
 (x0=⟨#[116,114,117,101]⟩→
 o0 (decide (x0=⟨#[116,114,117,101]⟩)) H K)∧
 (¬(x0=⟨#[116,114,117,101]⟩)→
 o0 (decide (x0=⟨#[102,97,108,115,101]⟩)) H K))))))))))
theorem b1H(x0){H K}(h:a5y x0 H K):a5k x0 H K:=by
 refine Ct.of fun w0 w ps0 H0 R E I hR=>c7E ?_
 unfold a5y at h
 unfold d0M
 have hj1:∀(u7:Bool) H w (_:Inv w0 ps0 H0 H [] w) (_:o0 u7 H K),b7g (vB u7) w R E:=by
  intro u7 H w I h
  unfold b7g
  intro _
  unfold o0 at h
  refine m8 h (fun _ h=>?_) (fun _ h=>?_)
  ·exact hR _ H _ _ I ⟨true,rfl,rfl,h⟩
  ·exact hR _ H _ _ I ⟨false,rfl,rfl,h⟩
 refine o6 fun j1 hx1=>?_
 refine c5 (P4 _ _ _ _ _) ?_
 refine d9 h (fun _ h=>?_) (fun _ h=>?_)
 ·exact hx1 _ _ (hj1 (decide (x0=⟨#[118,97,114]⟩)) H _ I h)
 ·refine c5 (P4 _ _ _ _ _) ?_
  refine d9 h (fun _ h=>?_) (fun _ h=>?_)
  ·exact hx1 _ _ (hj1 (decide (x0=⟨#[97,114,114,97,121]⟩)) H _ I h)
  ·refine c5 (P4 _ _ _ _ _) ?_
   refine d9 h (fun _ h=>?_) (fun _ h=>?_)
   ·exact hx1 _ _ (hj1 (decide (x0=⟨#[105,102]⟩)) H _ I h)
   ·refine c5 (P4 _ _ _ _ _) ?_
    refine d9 h (fun _ h=>?_) (fun _ h=>?_)
    ·exact hx1 _ _ (hj1 (decide (x0=⟨#[101,108,115,101]⟩)) H _ I h)
    ·refine c5 (P4 _ _ _ _ _) ?_
     refine d9 h (fun _ h=>?_) (fun _ h=>?_)
     ·exact hx1 _ _ (hj1 (decide (x0=⟨#[119,104,105,108,101]⟩)) H _ I h)
     ·refine c5 (P4 _ _ _ _ _) ?_
      refine d9 h (fun _ h=>?_) (fun _ h=>?_)
      ·exact hx1 _ _ (hj1 (decide (x0=⟨#[97,115,115,101,114,116]⟩)) H _ I h)
      ·refine c5 (P4 _ _ _ _ _) ?_
       refine d9 h (fun _ h=>?_) (fun _ h=>?_)
       ·exact hx1 _ _ (hj1 (decide (x0=⟨#[97,115,115,117,109,101]⟩)) H _ I h)
       ·refine c5 (P4 _ _ _ _ _) ?_
        refine d9 h (fun _ h=>?_) (fun _ h=>?_)
        ·exact hx1 _ _ (hj1 (decide (x0=⟨#[115,107,105,112]⟩)) H _ I h)
        ·refine c5 (P4 _ _ _ _ _) ?_
         refine d9 h (fun _ h=>?_) (fun _ h=>?_)
         ·exact hx1 _ _ (hj1 (decide (x0=⟨#[105,110,112,117,116]⟩)) H _ I h)
         ·refine c5 (P4 _ _ _ _ _) ?_
          refine d9 h (fun _ h=>?_) (fun _ h=>?_)
          ·exact hx1 _ _ (hj1 (decide (x0=⟨#[116,114,117,101]⟩)) H _ I h)
          ·refine c5 (P4 _ _ _ _ _) ?_
           exact hx1 _ _ (hj1 (decide (x0=⟨#[102,97,108,115,101]⟩)) H _ I h)
def a1C(d4d:Int)(a:f8)(b1I:Int)(b0U:d4)(H:Hp)(n1:(Int×d4)→Hp→Prop)(K:d4→Hp→Prop):Prop:=
 (((decide (b1I < (a.u1.n:Int)))&&(decide (b0U.fbad=0)))=true→
 (0:Int)≤b1I∧(b1I:Int) < a.u1.n∧∃b:f8,EltH H a.u1 b1I 4 (d7 b)∧
 T5 b0U b (IntKind.wrap .i64 (d4d+1)) H (fun c d=>
 n1 ((IntKind.wrap .i64 (b1I+1)),c) d))∧
 (((decide (b1I < (a.u1.n:Int)))&&(decide (b0U.fbad=0)))=false→
 K b0U H)
def a2M(x0:d4)(x1:f8)(x2:Int)(H:Hp)(K:d4→Hp→Prop):Prop:=
 P0 x0 x2 H (fun a b c=>
 ((!a)=true→
 K b c)∧
 ((!a)=false→
 TL ((0,b):Int×d4) c fun(s:Int×d4) H n1=>a1C x2 x1 s.1 s.2 H n1 K))
theorem a9r(x0 x1 x2){H K}(h:a2M x0 x1 x2 H K):T5 x0 x1 x2 H K:=by
 intro g0
 refine Ct.of fun w0 w ps0 H0 R E I hR=>c7D ?_
 unfold a2M at h
 unfold d0L
 refine A9 I (cs:=(d7 x1)) rfl fun e q f r=>?_
 refine f0 Tryz.call100 (h g0) (f.bring 1) ?_
 rintro _ i _ s d _ _ ⟨t,j,rfl,rfl,h⟩
 refine c5 (T1 _) ?_
 refine m8 h (fun _ h=>?_) (fun _ h=>?_)
 ·exact hR _ i _ _ (d.bring 1).drop ⟨j,rfl,rfl,h⟩
 ·refine C9 (σ:=Int×d4) (fun (b1I,b0U)=>[(vi b1I)]) (fun (b1I,b0U)=>[bx g0 133 (o7 b0U),bx e 123 (d7 x1)]) h rfl ((d.bring 1).bring 1) ?_
  rintro ⟨b1I,b0U⟩ H u w next1 n1 b I h hn1
  dsimp only at b I h
  simp only [List.map_cons,List.map_nil,List.cons.injEq,and_true] at b
  have e6:=b
  simp only [e6]
  unfold c1J
  unfold a1C at h
  refine c5 C3 (c6 (l1 Tryz.isAgg57 (I.bring 1) rfl) (c5 (P7 _ _ _) (c5 pLs ?_)))
  simp only [z7]
  refine c5 (Pu.g fun a=>by simp only [i4 a];with_reducible exact (m2 _)) ?_
  refine c5 (Pu.g fun a=>by simp only [i4 a];with_reducible exact V5) ?_
  refine c6 (Ld.g fun a=>by simp only [i4 a];exact (l1 Tryz.isAgg3 I rfl)) ?_
  refine c5 (Pu.g fun a=>by simp only [i4 a];with_reducible exact pEq) ?_
  refine c5 (y9 _ _) ?_
  refine m8 h (fun _ h=>?_) (fun _ h=>?_)
  ·refine c5 C3 (c6 (l1 Tryz.isAgg57 (I.bring 1) rfl) ?_)
   obtain ⟨k,l,m,c,h⟩:=h
   obtain ⟨v,y,n,c⟩:=c
   refine c5 (A0 n _ _ _ _ k l) (c6 (ldA (vs:=(d7 m)) Tryz.isAgg123 Tryz.sizeOf123 rfl (I.atH c)) (c5 pAd ?_))
   refine f0 Tryz.call113 (h g0) I ?_
   rintro _ _ _ z o _ _ ⟨p,rfl,rfl,h⟩
   refine c5 pAd ?_
   exact hn1 ((IntKind.wrap .i64 (b1I+1)),p) _ _ h ((o.bring 1).bring 1)
  ·exact hR _ H _ _ (I.bring 1).drop ⟨b0U,rfl,rfl,h⟩
def a0p(a:d4)(b:d4)(c:m6)(H:Hp)(K:d4→Hp→Prop):Prop:=
 K a H
def a2N(a:m6)(a2E:Int)(b:d4)(c:d4)(H:Hp)(n3:(Int×d4×d4)→Hp→Prop)(K:d4→Hp→Prop):Prop:=
 (((decide (a2E < (a.a1l.n:Int)))&&(decide (b.fbad=0)))=true→
 (0:Int)≤a2E∧(a2E:Int) < a.a1l.n∧∃d:i8,EltH H a.a1l a2E 6 (g7 d)∧
 T6 b d 1 H (fun e f=>
 n3 ((IntKind.wrap .i64 (a2E+1)),e,c) f))∧
 (((decide (a2E < (a.a1l.n:Int)))&&(decide (b.fbad=0)))=false→
 a0p b c a H K)
def a0q(a:d4)(b:d4)(c:m6)(H:Hp)(K:d4→Hp→Prop):Prop:=
 TL ((0,a,b):Int×d4×d4) H fun(s:Int×d4×d4) H n3=>a2N c s.1 s.2.1 s.2.2 H n3 K
def a2O(b:m6)(b4u:Int)(a:d4)(c:d4)(H:Hp)(n4:(Int×d4×d4)→Hp→Prop)(K:d4→Hp→Prop):Prop:=
 (((decide (b4u < (b.E4.n:Int)))&&(decide (a.fbad=0)))=true→
 P0 a 1 H (fun f d e=>
 n4 ((IntKind.wrap .i64 (b4u+1)),d,c) e))∧
 (((decide (b4u < (b.E4.n:Int)))&&(decide (a.fbad=0)))=false→
 a0q a c b H K)
def a4g(x0:m6)(H:Hp)(K:d4→Hp→Prop):Prop:=
 TL ((0,(d4.mk 0 0 0),(d4.mk 0 0 0)):Int×d4×d4) H fun(s:Int×d4×d4) H n4=>a2O x0 s.1 s.2.1 s.2.2 H n4 K
theorem b0x(x0){H K}(h:a4g x0 H K):a3R x0 H K:=by
 refine Ct.of fun w0 w ps0 H0 R E I hR=>c9W ?_
 unfold a4g at h
 unfold F72
 refine A9 I (cs:=(m5 x0)) rfl fun d ag s ah=>?_
 refine u4 s Tryz.zeroValue133 (cs:=[(vi 0),(vi 0),(vi 0)]) rfl fun c ai t aj=>?_
 refine c5 (c2B) ?_
 refine u4 t Tryz.zeroValue133 (cs:=[(vi 0),(vi 0),(vi 0)]) rfl fun b ak u al=>?_
 refine y6 u Tryz.sizeOf133 (vs:=[(vi 0),(vi 0),(vi 0)]) fun am v an=>?_
 have hj1:∀(l:d4)(m:d4) H w (_:Inv w0 ps0 H0 H [bx b 133 (o7 l),bx c 133 (o7 m),bx d 25 (m5 x0)] w) (_:a0q l m x0 H K),b9N (Value.pointer (some ⟨d,0,none⟩)) (Value.pointer (some ⟨c,0,none⟩)) (Value.pointer (some ⟨b,0,none⟩)) w R E:=by
  intro l m H w I h
  unfold b9N
  intro _
  unfold a0q at h
  have hj2:∀(e:d4)(n:d4) H w (_:Inv w0 ps0 H0 H [bx b 133 (o7 e),bx c 133 (o7 n),bx d 25 (m5 x0)] w) (_:a0p e n x0 H K),b9M (Value.pointer (some ⟨c,0,none⟩)) (Value.pointer (some ⟨b,0,none⟩)) w R E:=by
   intro e n H w I h
   unfold b9M
   intro _
   unfold a0p at h
   refine c6 (lW Tryz.isAgg133 Tryz.sizeOf133 rfl I) ?_
   refine y6 (I.bring 1) Tryz.sizeOf133 (vs:=(o7 e)) fun ao r ap=>?_
   refine Q0 Tryz.isAgg133 Tryz.sizeOf133 rfl r ?_
   exact hR _ H _ _ r.drop.drop.drop ⟨e,rfl,rfl,h⟩
  refine o6 fun j2 hx2=>?_
  refine C9 (σ:=Int×d4×d4) (fun (a2E,j,f)=>[(vi a2E)]) (fun (a2E,j,f)=>[bx b 133 (o7 j),bx c 133 (o7 f),bx d 25 (m5 x0)]) h rfl (((I.bring 2).bring 2).bring 2) ?_
  rintro ⟨a2E,j,f⟩ H aq w next3 n3 o I h hn3
  dsimp only at o I h
  simp only [List.map_cons,List.map_nil,List.cons.injEq,and_true] at o
  have e5:=o
  simp only [e5]
  unfold c4r
  unfold a2N at h
  refine c5 a1m (c6 (l1 Tryz.isAgg23 (I.bring 2) rfl) (c5 (L3 _ _ _) (c5 pLs ?_)))
  refine c5 (Pu.g fun a=>by with_reducible exact V5) ?_
  refine c6 (Ld.g fun a=>by simp only [i4 a];exact (l1 Tryz.isAgg3 I rfl)) ?_
  refine c5 (Pu.g fun a=>by simp only [i4 a];with_reducible exact pEq) ?_
  refine c5 (y9 _ _) ?_
  refine m8 h (fun _ h=>?_) (fun _ h=>?_)
  ·refine c5 a1m (c6 (l1 Tryz.isAgg23 (I.bring 2) rfl) ?_)
   obtain ⟨y,z,aa,p,h⟩:=h
   obtain ⟨ar,au,ab,p⟩:=p
   refine c5 (a3Q ab _ _ _ _ y z) (c6 (ldA (vs:=(g7 aa)) Tryz.isAgg60 Tryz.sizeOf60 rfl (I.atH p)) ?_)
   refine f0 Tryz.call101 (h b) I ?_
   rintro _ _ _ av ac _ _ ⟨ad,rfl,rfl,h⟩
   refine c5 pAd ?_
   exact hn3 ((IntKind.wrap .i64 (a2E+1)),ad,f) _ _ h (((ac.bring 2).bring 2).bring 2)
  ·exact hx2 _ _ (hj2 j f H _ (((I.bring 2).bring 2).bring 2) h)
 refine o6 fun j1 hx1=>?_
 refine C9 (σ:=Int×d4×d4) (fun (b4u,k,i)=>[(vi b4u)]) (fun (b4u,k,i)=>[bx b 133 (o7 k),bx c 133 (o7 i),bx d 25 (m5 x0)]) h rfl (((v.bring 2).bring 2).bring 2) ?_
 rintro ⟨b4u,k,i⟩ H aw w next4 n4 q I h hn4
 dsimp only at q I h
 simp only [List.map_cons,List.map_nil,List.cons.injEq,and_true] at q
 have e4:=q
 simp only [e4]
 unfold c4s
 unfold a2O at h
 refine c5 P3 (c6 (l1 Tryz.isAgg22 (I.bring 2) rfl) (c5 (a0V _ _ _) (c5 pLs ?_)))
 refine c5 (Pu.g fun a=>by with_reducible exact V5) ?_
 refine c6 (Ld.g fun a=>by simp only [i4 a];exact (l1 Tryz.isAgg3 I rfl)) ?_
 refine c5 (Pu.g fun a=>by simp only [i4 a];with_reducible exact pEq) ?_
 refine c5 (y9 _ _) ?_
 refine m8 h (fun _ h=>?_) (fun _ h=>?_)
 ·refine f0 Tryz.call100 (h b) I ?_
  rintro _ _ _ ax ae _ _ ⟨ay,af,rfl,rfl,h⟩
  refine c5 pAd ?_
  exact hn4 ((IntKind.wrap .i64 (b4u+1)),af,i) _ _ h (((ae.bring 2).bring 2).bring 2)
 ·exact hx1 _ _ (hj1 k i H _ (((I.bring 2).bring 2).bring 2) h)
def Q8(a7J:(List ByteArray))(b3D:Int)(a:m6)(H:Hp)(n2:((List ByteArray)×Int)→Hp→Prop)(K:Sl→Hp→Prop):Prop:=
 n2 (a7J,(IntKind.wrap .i64 (b3D+1))) H
def a0Z(a8Y:(List ByteArray))(b:m6)(H:Hp)(K:Sl→Hp→Prop):Prop:=
 ∀(a3u:Sl)(a:Hp),Hle H a→SlH a 1 v2 a3u a8Y→a3u.n≤a3u.c→
 K a3u a
def a1b(a:m6)(S5:(List ByteArray))(B6:Int)(H:Hp)(n2:((List ByteArray)×Int)→Hp→Prop)(K:Sl→Hp→Prop):Prop:=
 (B6 < (a.E4.n:Int)→
 (0:Int)≤B6∧(B6:Int) < a.E4.n∧∃b:i7,EltH H a.E4 B6 2 (i5 b)∧
 (b.N2=0→
 (S5.length+([b.f6]:List ByteArray).length)*17≤140737488355328∧
 Q8 (S5++[b.f6]) B6 a H n2 K)∧
 (¬(b.N2=0)→
 Q8 S5 B6 a H n2 K))∧
 (¬(B6 < (a.E4.n:Int))→
 a0Z S5 a H K)
def a5z(x0:m6)(H:Hp)(K:Sl→Hp→Prop):Prop:=
 TL (([],0):(List ByteArray)×Int) H fun(s:(List ByteArray)×Int) H n2=>a1b x0 s.1 s.2 H n2 K
theorem b1J(x0){H K}(h:a5z x0 H K):a5l x0 H K:=by
 refine Ct.of fun w0 w ps0 H0 R E I hR=>c9u ?_
 unfold a5z at h
 unfold F26
 refine A9 I (cs:=(m5 x0)) rfl fun f al u am=>?_
 have hj1:∀(a8Y:(List ByteArray))(a3u:Sl)(Fs3j1:Frag) H w (_:RowL 9 1 v2 a3u a8Y Fs3j1) (_:Inv w0 ps0 H0 H [bx f 25 (m5 x0),Fs3j1] w) (_:a0Z a8Y x0 H K),b9w (vs a3u) w R E:=by
  intro a8Y a3u Fs3j1 H w c2R I h
  unfold b9w
  intro _
  unfold a0Z at h
  obtain ⟨o,y,z,aa,ab⟩:=Inv.freezeC (I.bring 1) c2R (by decide)
  replace h:=h a3u o z aa ab
  exact hR _ o _ _ y.drop ⟨a3u,rfl,rfl,h⟩
 refine o6 fun j1 hx1=>?_
 obtain ⟨j,d,ac,ad⟩:=h
 refine L5 (J:=fun n l w=>∃(s:(List ByteArray)×Int)(H:Hp)(a7K:Sl)(Fs3l2:Frag),n=d s∧l=(match s with | (S5,B6)=>[(vs a7K),(vi B6)])∧(match s with | (S5,B6)=>RowL 9 1 v2 a7K S5 Fs3l2)∧(match s with | (S5,B6)=>Inv w0 ps0 H0 H [bx f 25 (m5 x0),Fs3l2] w)∧j s H) ⟨_,([],0),H,(Sl.mk none 0 0),[],rfl,rfl,(RowL.nil a6V a6W),(u.nil.bring 1),ac⟩ ?_
 rintro an ao w next2 ⟨⟨S5,B6⟩,H,a7K,Fs3l2,rfl,m,b0N,I,ae⟩ hn2
 dsimp only at m I b0N
 simp only [List.map_cons,List.map_nil,List.cons.injEq,and_true] at m
 obtain ⟨e3,e4⟩:=m
 simp only [e3,e4]
 obtain ⟨n2,hm2,h⟩:∃n2:((List ByteArray)×Int)→Hp→Prop,(∀s' H',n2 s' H'→j s' H'∧d s' < d (S5,B6))∧a1b x0 S5 B6 H n2 K:=⟨_,fun _ _ h=>h,ad (S5,B6) H (fun s' H'=>j s' H'∧d s' < d (S5,B6)) ae (fun _ _ a b=>⟨a,b⟩)⟩
 unfold c4d
 unfold a1b at h
 refine c5 P3 (c6 (l1 Tryz.isAgg22 I rfl) (c5 (a0V _ _ _) (c5 pLs ?_)))
 refine d9 h (fun _ h=>?_) (fun _ h=>?_)
 ·have hj3:∀(a7J:(List ByteArray))(b0O:Sl)(Fs3j3:Frag) H w (_:RowL 9 1 v2 b0O a7J Fs3j3) (_:Inv w0 ps0 H0 H [bx f 25 (m5 x0),Fs3j3] w) (_:Q8 a7J B6 x0 H n2 K),b9x (Value.pointer (some ⟨f,0,none⟩)) (vs b0O) (vi B6) w next2 R E:=by
   intro a7J b0O Fs3j3 H w c2S I h
   unfold b9x
   intro _
   unfold Q8 at h
   refine c5 pAd ?_
   exact hn2 _ _ _ (hm2 _ _ h).2 ⟨(a7J,(IntKind.wrap .i64 (B6+1))),H,b0O,Fs3j3,rfl,rfl,c2S,((I.bring 1).bring 1),(hm2 _ _ h).1⟩
  refine o6 fun j3 hx3=>?_
  refine c5 P3 (c6 (l1 Tryz.isAgg22 I rfl) ?_)
  obtain ⟨p,q,g,i,h⟩:=h
  obtain ⟨ap,aq,r,i⟩:=i
  refine c5 (U7 r _ _ _ _ p q) (c5 a2f (c6 (ld1 (v:=(vi g.N2)) Tryz.isAgg3 ((I.atH i).sub (k:=1) (n:=1) (nb rfl))) (c5 pEq ?_)))
  refine d9 h (fun _ h=>?_) (fun _ h=>?_)
  ·refine c5 P3 (c6 (l1 Tryz.isAgg22 I rfl) (c5 (U7 r _ _ _ _ p q) (c5 T8 (c6 (ld1 (v:=(Value.string g.f6)) Tryz.isAgg9 ((I.atH i).sub (k:=0) (n:=1) (nb rfl))) ?_))))
   refine a3v (e:=9) (c:=v2) (xs:=[g.f6]) I (b6H _) rfl rfl a6V a6W (nb rfl) fun ar au av af t aw=>?_
   obtain ⟨ag,h⟩:=h
   refine b9k (s:=a7K) (xs:=S5) (t.bring 2) b0N (af.srcO ((t.bring 2).bring 1)) ag fun ah ai ax aj ak ay=>?_
   exact hx3 _ _ (hj3 (S5++[g.f6]) ah ai H _ aj ((ak.bring 1).drop.bring 1) h)
  ·exact hx3 _ _ (hj3 S5 a7K Fs3l2 H _ b0N ((I.bring 1).bring 1) h)
 ·exact hx1 _ _ (hj1 S5 a7K Fs3l2 H _ b0N ((I.bring 1).bring 1) h)
def a4O(x0:Int)(x1:Int)(x2:Int)(H:Hp)(K:c7→Hp→Prop):Prop:=
 a2g H (fun a b=>
 a2g b (fun c d=>
 K (c7.mk x1 x2 x0 (-1) (-1) 0 a c) d))
theorem b0V(x0 x1 x2){H K}(h:a4O x0 x1 x2 H K):D1 x0 x1 x2 H K:=by
 refine Ct.of fun w0 w ps0 H0 R E I hR=>d0c ?_
 unfold a4O at h
 unfold F78
 refine u4 I Tryz.zeroValue40 (cs:=[(vi 0),(vi 0),(vi 0),(vi 0),(vi 0),(vi 0),(vi 0),(vi 0),(vi 0),(vi 0)]) rfl fun i j d k=>?_
 refine f0 Tryz.call91 h d ?_
 rintro _ _ _ l e _ _ ⟨a,rfl,rfl,h⟩
 refine f0 Tryz.call91 h e ?_
 rintro _ f _ m g _ _ ⟨b,rfl,rfl,h⟩
 refine c5 (a7S _ _ _ _ _ _ _ _ _) ?_
 refine y6 g Tryz.sizeOf40 (vs:=[(vi x1),(vi x2),(vi x0),(vi (-1)),(vi (-1)),(vi 0),(vi a.B7),(vi a.s7),(vi b.B7),(vi b.s7)]) fun n c o=>?_
 refine Q0 Tryz.isAgg40 Tryz.sizeOf40 rfl c ?_
 exact hR _ f _ _ c.drop ⟨(c7.mk x1 x2 x0 (-1) (-1) 0 a b),rfl,rfl,h⟩
def U0(s8:Sl)(t6:Int)(t7:Sl)(r8:Int)(t8:Int)(y8:(List c7))(v6:Bool)(H:Hp)(K:Int→Hp→Prop):Prop:=
 K (-1) H
def a0U(a1j:ByteArray)(C7:Sl)(G3:Int)(C8:Sl)(G4:Int)(G5:Int)(D3:(List c7))(M5:Bool)(q8:Int)(H:Hp)(n2:Int→Hp→Prop)(K:Int→Hp→Prop):Prop:=
 (q8 < (C8.n:Int)→
 (0:Int)≤q8∧(q8:Int) < C8.n∧∃a:i7,EltH H C8 q8 2 (i5 a)∧
 (a.f6=a1j→
 K q8 H)∧
 (¬(a.f6=a1j)→
 n2 (IntKind.wrap .i64 (q8+1)) H))∧
 (¬(q8 < (C8.n:Int))→
 U0 C7 G3 C8 G4 G5 D3 M5 H K)
def a1S(x0:d6)(a:(List c7))(x1:ByteArray)(H:Hp)(K:Int→Hp→Prop):Prop:=
 TL (0:Int) H fun(s:Int) H n2=>a0U x1 x0.fc.p7 x0.fc.q9 x0.fc.o9 x0.fc.p5 x0.fc.u5 a x0.fgreat s H n2 K
theorem a8J(x0 a x1){H K}(h:a1S x0 a x1 H K):R4 x0 a x1 H K:=by
 intro g0 c d l
 refine Ct.of fun w0 w ps0 H0 R E I hR=>d0g ?_
 unfold a1S at h
 unfold F82
 have hj1:∀H w (_:Inv w0 ps0 H0 H [bx g0 77 (o3 x0 c),d] w) (_:U0 x0.fc.p7 x0.fc.q9 x0.fc.o9 x0.fc.p5 x0.fc.u5 a x0.fgreat H K),c0b w R E:=by
  intro H w I h
  unfold c0b
  intro _
  unfold U0 at h
  exact hR _ H _ _ ((I.bring 1).bring 1) ⟨(-1),rfl,rfl,h⟩
 refine o6 fun j1 hx1=>?_
 refine C9 (σ:=Int) (fun q8=>[(vi q8)]) (fun q8=>[bx g0 77 (o3 x0 c),d]) h rfl ((I.bring 1).bring 1) ?_
 rintro q8 H m w next2 n2 e I h hn2
 simp only [List.map_cons,List.map_nil,List.cons.injEq,and_true] at e
 have e5:=e
 simp only [e5]
 unfold c4B
 unfold a0U at h
 refine c5 (m2 _) (c5 O1 (c5 a8O (c6 (l1 Tryz.isAgg22 I rfl) (c5 (a0V _ _ _) ?_))))
 refine c5 pLs ?_
 refine d9 h (fun _ h=>?_) (fun _ h=>?_)
 ·refine c5 (m2 _) (c5 O1 (c5 a8O (c6 (l1 Tryz.isAgg22 I rfl) ?_)))
  obtain ⟨f,g,i,b,h⟩:=h
  obtain ⟨o,p,j,b⟩:=b
  refine c5 (U7 j _ _ _ _ f g) (c5 T8 (c6 (ld1 (v:=(Value.string i.f6)) Tryz.isAgg9 ((I.atH b).sub (k:=0) (n:=1) (nb rfl))) (c5 (P4 _ _ _ _ _) ?_)))
  refine d9 h (fun _ h=>?_) (fun _ h=>?_)
  ·exact hR _ H _ _ ((I.bring 1).bring 1) ⟨q8,rfl,rfl,h⟩
  ·refine c5 pAd ?_
   exact hn2 (IntKind.wrap .i64 (q8+1)) _ _ h ((I.bring 1).bring 1)
 ·exact hx1 _ _ (hj1 H _ ((I.bring 1).bring 1) h)
def Q2(b:Sl)(i:Int)(j:Sl)(k:Int)(l:Int)(m:(List c7))(f:Bool)(p:m3)(o:m6)(H:Hp)(K:m3→Int→Hp→Prop):Prop:=
 a7i o H (fun g d=>
 (64 < (IntKind.wrap .i64 ((b.n:Int)+g))→
 K (m3.mk (Sl.mk none 0 0) 0 (Sl.mk none 0 0) 0 0 (Sl.mk none 0 0)) 90 d)∧
 (¬(64 < (IntKind.wrap .i64 ((b.n:Int)+g)))→
 (f=true→
 K (m3.mk (Sl.mk none 0 0) 0 (Sl.mk none 0 0) 0 0 (Sl.mk none 0 0)) 91 d)∧
 (f=false→
 ∀(a:Sl)(e:Hp),Hle d e→SlH e 10 i6 a m→a.n≤a.c→
 K (m3.mk b i j k l a) 0 e)))
def a4P(x0:m6)(H:Hp)(K:m3→Int→Hp→Prop):Prop:=
 a4u x0 H (fun s d e=>
 (¬(d=0)→
 K (m3.mk (Sl.mk none 0 0) 0 (Sl.mk none 0 0) 0 0 (Sl.mk none 0 0)) d e)∧
 (d=0→
 a5l x0 e (fun i j=>
 a3S x0 j (fun k l=>
 A4 (d6.mk (m3.mk i 0 k 0 0 (Sl.mk none 0 0)) false) [] l (fun t a f g=>
 (0 < (x0.a1l.n:Int)→
 A4 (d5 a) f g (fun m c o p=>
 Y3 (d6.mk (m3.mk c.fc.p7 c.fc.q9 c.fc.o9 c.fc.p5 m (Sl.mk none 0 0)) c.fgreat) o x0.a1l 0 1 p (fun b q r=>
 Q2 b.fc.p7 b.fc.q9 b.fc.o9 b.fc.p5 b.fc.u5 q b.fgreat (m3.mk (Sl.mk none 0 0) 0 (Sl.mk none 0 0) 0 0 (Sl.mk none 0 0)) x0 r K)))∧
 (¬(0 < (x0.a1l.n:Int))→
 Q2 a.fc.p7 a.fc.q9 a.fc.o9 a.fc.p5 a.fc.u5 f a.fgreat (m3.mk (Sl.mk none 0 0) 0 (Sl.mk none 0 0) 0 0 (Sl.mk none 0 0)) x0 g K))))))
theorem b0W(x0){H K}(h:a4P x0 H K):a4v x0 H K:=by
 refine Ct.of fun w0 w ps0 H0 R E I hR=>d2i ?_
 unfold a4P at h
 unfold F7
 refine A9 I (cs:=(m5 x0)) rfl fun v bo ao bp=>?_
 refine u4 ao Tryz.zeroValue30 (cs:=[(nS),(vi 0),(nS),(vi 0),(vi 0),(nS)]) rfl fun y bq z br=>?_
 refine c6 (lW Tryz.isAgg25 Tryz.sizeOf25 rfl (z.bring 1)) ?_
 refine f0 Tryz.call25 h z ?_
 rintro _ ap _ bs aa _ _ ⟨aq,ab,rfl,rfl,h⟩
 refine c5 (m0 _ _ (Value.string aq) rfl) (c5 (m0 _ _ (vi ab) rfl) (c5 pNe ?_))
 refine a3P h (fun _ h=>?_) (fun _ h=>?_)
 ·refine c5 (a8A) ?_
  refine y6 aa Tryz.sizeOf30 (vs:=[(nS),(vi 0),(nS),(vi 0),(vi 0),(nS)]) fun bt ac bu=>?_
  refine Q0 Tryz.isAgg30 Tryz.sizeOf30 rfl ac ?_
  exact hR _ ap _ _ ac.drop.drop ⟨(m3.mk (Sl.mk none 0 0) 0 (Sl.mk none 0 0) 0 0 (Sl.mk none 0 0)),ab,rfl,rfl,h⟩
 ·refine c5 (c3N) ?_
  refine A9 aa (cs:=[(nS),(vi 0),(nS),(vi 0),(vi 0),(nS),(vB false)]) rfl fun m bv ad bw=>?_
  refine c6 (lW Tryz.isAgg25 Tryz.sizeOf25 rfl (ad.bring 2)) ?_
  refine f0 Tryz.call26 h ad ?_
  rintro _ _ _ bz ar _ _ ⟨ca,rfl,rfl,h⟩
  refine c5 (m2 _) (c5 O1 (c5 a4p ?_))
  refine C4 ar Tryz.sizeOf27 fun cb ae cc=>?_
  refine c6 (lW Tryz.isAgg25 Tryz.sizeOf25 rfl (ae.bring 2)) ?_
  refine f0 Tryz.call27 h ae ?_
  rintro _ _ _ cd au _ _ ⟨ce,rfl,rfl,h⟩
  refine c5 (m2 _) (c5 O1 (c5 a8O ?_))
  refine C4 au Tryz.sizeOf22 fun cf av cg=>?_
  refine f0 Tryz.call28 (h m (Sl.mk none 0 0) ([]) (RowL.nil (e:=40) a6O a6P)) (av.nil.bring 1) ?_
  rintro _ aw _ ch r _ _ ⟨ci,d,ax,af,ag,rfl,rfl,ah,h⟩
  have hj1:∀(f:Sl)(g:Int)(i:Sl)(j:Int)(k:Int)(s:(List c7))(t:Bool)(b:Sl)(u:Frag) H w (_:RowL 40 10 i6 b s u) (_:Inv w0 ps0 H0 H [bx m 77 [(vs f),(vi g),(vs i),(vi j),(vi k),(vs b),(vB t)],bx y 30 [(Value.slice (m3.mk (Sl.mk none 0 0) 0 (Sl.mk none 0 0) 0 0 (Sl.mk none 0 0)).p7.a (m3.mk (Sl.mk none 0 0) 0 (Sl.mk none 0 0) 0 0 (Sl.mk none 0 0)).p7.n (m3.mk (Sl.mk none 0 0) 0 (Sl.mk none 0 0) 0 0 (Sl.mk none 0 0)).p7.c),(vi (m3.mk (Sl.mk none 0 0) 0 (Sl.mk none 0 0) 0 0 (Sl.mk none 0 0)).q9),(Value.slice (m3.mk (Sl.mk none 0 0) 0 (Sl.mk none 0 0) 0 0 (Sl.mk none 0 0)).o9.a (m3.mk (Sl.mk none 0 0) 0 (Sl.mk none 0 0) 0 0 (Sl.mk none 0 0)).o9.n (m3.mk (Sl.mk none 0 0) 0 (Sl.mk none 0 0) 0 0 (Sl.mk none 0 0)).o9.c),(vi (m3.mk (Sl.mk none 0 0) 0 (Sl.mk none 0 0) 0 0 (Sl.mk none 0 0)).p5),(vi (m3.mk (Sl.mk none 0 0) 0 (Sl.mk none 0 0) 0 0 (Sl.mk none 0 0)).u5),(Value.slice (m3.mk (Sl.mk none 0 0) 0 (Sl.mk none 0 0) 0 0 (Sl.mk none 0 0)).R3.a (m3.mk (Sl.mk none 0 0) 0 (Sl.mk none 0 0) 0 0 (Sl.mk none 0 0)).R3.n (m3.mk (Sl.mk none 0 0) 0 (Sl.mk none 0 0) 0 0 (Sl.mk none 0 0)).R3.c)],bx v 25 (m5 x0),u] w) (_:Q2 f g i j k s t (m3.mk (Sl.mk none 0 0) 0 (Sl.mk none 0 0) 0 0 (Sl.mk none 0 0)) x0 H K),c2K (Value.pointer (some ⟨v,0,none⟩)) (Value.pointer (some ⟨y,0,none⟩)) (Value.pointer (some ⟨m,0,none⟩)) w R E:=by
   intro f g i j k s t b u H w ay I h
   unfold c2K
   intro _
   unfold Q2 at h
   refine Q9 I fun cj p=>?_
   refine g8 (m2 _) ?_
   refine g8 O1 ?_
   refine g8 a4p ?_
   refine p6 (l1 Tryz.isAgg27 p rfl) ?_
   refine g8 (a4Z _ _ _) ?_
   refine p6 (lW Tryz.isAgg25 Tryz.sizeOf25 rfl (p.bring 2)) ?_
   refine f0 Tryz.call30 h p ?_
   rintro _ ai _ ck q _ az ⟨cl,rfl,rfl,h⟩
   refine ⟨(az _ p.lt1 (Inv.U6 (Fi:=[]) p)),?_⟩
   refine g8 pAd ?_
   refine g8 pGt ?_
   refine d9 h (fun _ h=>?_) (fun _ h=>?_)
   ·refine c5 (a8A) ?_
    refine y6 (q.bring 1) Tryz.sizeOf30 (vs:=[(nS),(vi 0),(nS),(vi 0),(vi 0),(nS)]) fun cm aj cn=>?_
    refine Q0 Tryz.isAgg30 Tryz.sizeOf30 rfl aj ?_
    exact hR _ ai _ _ aj.drop.drop.drop.drop ⟨(m3.mk (Sl.mk none 0 0) 0 (Sl.mk none 0 0) 0 0 (Sl.mk none 0 0)),90,rfl,rfl,h⟩
   ·refine c5 (m2 _) (c5 a5W (c6 (l1 Tryz.isAgg4 q rfl) ?_))
    refine m8 h (fun _ h=>?_) (fun _ h=>?_)
    ·refine c5 (a8A) ?_
     refine y6 (q.bring 1) Tryz.sizeOf30 (vs:=[(nS),(vi 0),(nS),(vi 0),(vi 0),(nS)]) fun co ak cp=>?_
     refine Q0 Tryz.isAgg30 Tryz.sizeOf30 rfl ak ?_
     exact hR _ ai _ _ ak.drop.drop.drop.drop ⟨(m3.mk (Sl.mk none 0 0) 0 (Sl.mk none 0 0) 0 0 (Sl.mk none 0 0)),91,rfl,rfl,h⟩
    ·refine c5 (m2 _) (c5 O1 (c6 (ldA Tryz.isAgg30 Tryz.sizeOf30 rfl (q.at1 (o:=0) (vs:=[(vs f),(vi g),(vs i),(vi j),(vi k),(vs b)]) (nb rfl) rfl)) ?_))
     refine y6 (q.bring 1) Tryz.sizeOf30 (vs:=[(vs f),(vi g),(vs i),(vi j),(vi k),(vs b)]) fun cq al cr=>?_
     refine Q0 Tryz.isAgg30 Tryz.sizeOf30 rfl al ?_
     obtain ⟨am,ba,bb,bc,bd⟩:=Inv.freezeC (al.bring 3) ay (by decide)
     replace h:=h b am bb bc bd
     exact hR _ am _ _ ba.drop.drop.drop ⟨(m3.mk f g i j k b),0,rfl,rfl,h⟩
  refine o6 fun j1 hx1=>?_
  refine c5 a1m (c6 (l1 Tryz.isAgg23 (r.bring 3) rfl) (c5 (L3 _ _ _) (c5 pGt ?_)))
  refine d9 h (fun _ h=>?_) (fun _ h=>?_)
  ·refine f0 Tryz.call28 (h m af ag ah) ((r.bring 1).bring 1) ?_
   rintro _ _ _ ct be _ _ ⟨cu,cv,cw,bf,bg,rfl,rfl,bh,h⟩
   refine c5 (m2 _) (c5 O1 (c5 a5V ?_))
   refine C4 be Tryz.sizeOf3 fun cx an cy=>?_
   refine c5 a1m (c6 (l1 Tryz.isAgg23 (an.bring 3) rfl) ?_)
   refine f0 Tryz.call29 (h m bf bg bh) ((an.bring 1).bring 1) ?_
   rintro _ bi _ cz bj _ _ ⟨l,bk,bl,bm,rfl,rfl,bn,h⟩
   exact hx1 _ _ (hj1 l.fc.p7 l.fc.q9 l.fc.o9 l.fc.p5 l.fc.u5 bk l.fgreat bl bm bi _ bn ((((bj.bring 1).bring 3).bring 3).bring 3) h)
  ·exact hx1 _ _ (hj1 d.fc.p7 d.fc.q9 d.fc.o9 d.fc.p5 d.fc.u5 ax d.fgreat af ag aw _ ah ((((r.bring 1).bring 3).bring 3).bring 3) h)
def a4Q(x0:f9)(a:(List c7))(x1:Int)(H:Hp)(K:Int→f9→(List c7)→Hp→Prop):Prop:=
 K (IntKind.wrap .i64 ((x0.fc.p7.n:Int)+x1)) (f9.mk (m3.mk x0.fc.p7 (if (IntKind.wrap .i64 (x1+1)) > x0.fc.q9 then IntKind.wrap .i64 (x1+1) else x0.fc.q9) x0.fc.o9 x0.fc.p5 x0.fc.u5 (Sl.mk none 0 0)) x0.fvars x0.farrays) a H
theorem b0X(x0 a x1){H K}(h:a4Q x0 a x1 H K):a4w x0 a x1 H K:=by
 intro g0 c d e
 refine Ct.of fun w0 w ps0 H0 R E I hR=>c7B ?_
 unfold a4Q at h
 unfold d0J
 refine c5 (m2 _) (c5 T9 (c5 a6u (c6 (l1 Tryz.isAgg3 I rfl) (c5 pAd ?_))))
 refine c5 (a8e _ _ _ _ _) (c5 (m2 _) (c5 T9 (c5 a6u ?_)))
 refine C4 I Tryz.sizeOf3 fun f b g=>?_
 refine c5 (m2 _) (c5 T9 (c5 a4p (c6 (l1 Tryz.isAgg27 b rfl) (c5 (a4Z _ _ _) ?_))))
 refine c5 pAd ?_
 exact hR _ H _ _ ((b.bring 1).bring 1) ⟨(IntKind.wrap .i64 ((x0.fc.p7.n:Int)+x1)),(f9.mk (m3.mk x0.fc.p7 (if (IntKind.wrap .i64 (x1+1)) > x0.fc.q9 then IntKind.wrap .i64 (x1+1) else x0.fc.q9) x0.fc.o9 x0.fc.p5 x0.fc.u5 (Sl.mk none 0 0)) x0.fvars x0.farrays),a,c,d,rfl,rfl,e,h⟩
def a3G(x0:f9)(a:(List c7))(x1:m4)(x2:Int)(H:Hp)(K:Int→Hp→Prop):Prop:=
 ((x0.fc.p7.n:Int)≤x1.B7→
 K (IntKind.wrap .i64 (x2+1)) H)∧
 (¬((x0.fc.p7.n:Int)≤x1.B7)→
 K x2 H)
theorem b0h(x0 b x1 x2){H K}(h:a3G x0 b x1 x2 H K):a3y x0 b x1 x2 H K:=by
 intro g0 d e f
 refine Ct.of fun w0 w ps0 H0 R E I hR=>d0x ?_
 unfold a3G at h
 unfold F99
 refine A9 I (cs:=(m7 x1)) rfl fun g i c j=>?_
 refine Q9 c fun k a=>?_
 refine g8 b6c ?_
 refine g8 (m2 _) ?_
 refine g8 T9 ?_
 refine g8 a4p ?_
 refine p6 (l1 Tryz.isAgg3 a rfl) ?_
 refine p6 (l1 Tryz.isAgg27 (a.bring 1) rfl) ?_
 refine g8 (a4Z _ _ _) ?_
 refine g8 pGe ?_
 refine d9 h (fun _ h=>?_) (fun _ h=>?_)
 ·refine c5 pAd ?_
  exact hR _ H _ _ ((a.drop.bring 1).bring 1) ⟨(IntKind.wrap .i64 (x2+1)),rfl,rfl,h⟩
 ·exact hR _ H _ _ ((a.drop.bring 1).bring 1) ⟨x2,rfl,rfl,h⟩
def a5A(x0:f9)(g:(List c7))(x1:Sl)(x2:Int)(x3:Int)(H:Hp)(K:m4→m4→Int→f9→(List c7)→Hp→Prop):Prop:=
 (0:Int)≤0∧(0:Int) < x1.n∧∃a:f8,EltH H x1 0 4 (d7 a)∧
 V1 (f4 x0) g a x2 x3 H (fun b i c d e=>
 (0:Int)≤1∧(1:Int) < x1.n∧∃f:f8,EltH e x1 1 4 (d7 f)∧
 a3y (f4 c) d b x3 e (fun j k=>
 V1 (f4 c) d f i j k (fun l m o p q=>
 K b l m (f4 o) p q)))
theorem b1K(x0 k x1 x2 x3){H K}(h:a5A x0 k x1 x2 x3 H K):a0C x0 k x1 x2 x3 H K:=by
 intro g0 o p q
 refine Ct.of fun w0 w ps0 H0 R E I hR=>c9S ?_
 unfold a5A at h
 unfold F68
 refine u4 I Tryz.zeroValue38 (cs:=[(vi 0),(vi 0)]) rfl fun r aw s ax=>?_
 refine u4 s Tryz.zeroValue38 (cs:=[(vi 0),(vi 0)]) rfl fun t ay l az=>?_
 obtain ⟨u,v,y,e,h⟩:=h
 obtain ⟨ba,bb,z,e⟩:=e
 refine c5 (A0 z _ _ _ _ u v) (c6 (ldA (vs:=(d7 y)) Tryz.isAgg123 Tryz.sizeOf123 rfl (l.atH e)) ?_)
 refine f0 Tryz.call98 (h g0 o p q) ((l.bring 3).bring 3) ?_
 rintro _ _ _ bc aa _ _ ⟨c,ab,ac,bd,f,g,rfl,rfl,m,h⟩
 refine c5 (m0 _ _ _ rfl) (c5 (m0 _ _ (vi ab) rfl) ?_)
 refine y6 (aa.bring 3) Tryz.sizeOf38 (vs:=(m7 c)) fun be ad bf=>?_
 refine Q9 ad fun bg a=>?_
 obtain ⟨ae,af,ag,b,h⟩:=h
 obtain ⟨bh,bi,ah,b⟩:=b
 refine g8 (A0 ah _ _ _ _ ae af) ?_
 refine p6 (ldA (vs:=(d7 ag)) Tryz.isAgg123 Tryz.sizeOf123 rfl (a.atH b)) ?_
 refine p6 (lW Tryz.isAgg38 Tryz.sizeOf38 rfl a) ?_
 refine f0 Tryz.call99 (h g0 f g m) ((a.bring 2).bring 2) ?_
 rintro _ _ _ bj ai _ aj ⟨bk,rfl,rfl,h⟩
 refine ⟨(aj _ (a.a1f b) ((Inv.self (Fi:=[bx g0 68 (r5 ac f),g]) (Fr:=[bx r 38 (m7 c),bx t 38 [(vi 0),(vi 0)]]) ((a.bring 2).bring 2)).a2T b)),?_⟩
 refine f0 Tryz.call98 (h g0 f g m) ((ai.bring 1).bring 1) ?_
 rintro _ ak _ bl al _ _ ⟨i,n,am,an,ao,ap,rfl,rfl,aq,h⟩
 refine g8 (m0 _ _ _ rfl) ?_
 refine g8 (m0 _ _ (vi n) rfl) ?_
 refine y6 (al.bring 3) Tryz.sizeOf38 (vs:=(m7 i)) fun bm ar bn=>?_
 refine Q9 ar fun bo d=>?_
 refine p6 (lW Tryz.isAgg38 Tryz.sizeOf38 rfl (d.bring 3)) ?_
 refine p6 (lW Tryz.isAgg38 Tryz.sizeOf38 rfl d) ?_
 refine y6 (d.bring 3) Tryz.sizeOf38 (vs:=(m7 c)) fun bp au av=>?_
 refine ⟨(av _ (Inv.b8X (d.bring 3))),?_⟩
 refine y6 (au.bring 1) Tryz.sizeOf38 (vs:=(m7 i)) fun bq j br=>?_
 refine Q0 Tryz.isAgg38 Tryz.sizeOf38 rfl (j.bring 1) ?_
 refine Q0 Tryz.isAgg38 Tryz.sizeOf38 rfl j ?_
 exact hR _ ak _ _ ((j.drop.drop.bring 1).bring 1) ⟨c,i,n,(f4 am),an,ao,ap,rfl,rfl,aq,h⟩
def a4R(x0:f9)(a:(List c7))(x1:i8)(x2:Int)(x3:Int)(H:Hp)(K:f9→(List c7)→Hp→Prop):Prop:=
 (x1.c8=1→
 ∃c:List (ByteArray×Int),MapH H (fun s:ByteArray=>Value.string s) (fun n:Int=>Value.int .i64 n) x0.fvars c∧
 (0:Int)≤0∧(0:Int) < x1.l7.n∧∃d:f8,EltH H x1.l7 0 4 (d7 d)∧
 a3z (f4 x0) a ((lk x1.f6 c).getD 0) d x2 x3 H (fun v y z=>
 K (f4 v) y z))∧
 (¬(x1.c8=1)→
 (x1.c8=2→
 O9 x2 x3 11 H (fun b e=>
 ∃f:List (ByteArray×Int),MapH e (fun s:ByteArray=>Value.string s) (fun n:Int=>Value.int .i64 n) x0.farrays f∧
 a0C (f4 x0) a x1.l7 x2 0 e (fun aa ab ac ad ae af=>
 B5 (f4 ad) ae (c7.mk ac b.fTo b.c8 b.a1O ((lk x1.f6 f).getD 0) b.fOp aa ab) af (fun ag ah ai=>
 K (f4 ag) ah ai))))∧
 (¬(x1.c8=2)→
 (x1.c8=3→
 W3 (f4 x0) a x1.K5 x3 H (fun g aj ak al=>
 W3 (f4 aj) ak x1.L2 x3 al (fun i am an j=>
 (0:Int)≤0∧(0:Int) < x1.r9.n∧∃k:j8,EltH j x1.r9 0 4 (f7 k)∧
 D2 (f4 am) an k x2 g i j (fun ao ap aq=>
 R6 (f4 ao) ap x1.K5 g x3 aq (fun ar au av=>
 R6 (f4 ar) au x1.L2 i x3 av (fun aw ax ay=>
 K (f4 aw) ax ay))))))∧
 (¬(x1.c8=3)→
 (x1.c8=4→
 W3 (f4 x0) a x1.K5 x2 H (fun l az ba m=>
 (0:Int)≤0∧(0:Int) < x1.r9.n∧∃o:j8,EltH m x1.r9 0 4 (f7 o)∧
 D2 (f4 az) ba o x2 l x3 m (fun bb bc bd=>
 R6 (f4 bb) bc x1.K5 l x2 bd (fun be bf bg=>
 K (f4 be) bf bg))))∧
 (¬(x1.c8=4)→
 (x1.c8=5→
 E7 (f4 x0) a H (fun p bh bi bj=>
 E7 (f4 bh) bi bj (fun q bk bl r=>
 (0:Int)≤0∧(0:Int) < x1.r9.n∧∃t:j8,EltH r x1.r9 0 4 (f7 t)∧
 D2 (f4 bk) bl t x2 p q r (fun bm bn bo=>
 O9 p x3 13 bo (fun bp bq=>
 B5 (f4 bm) bn bp bq (fun br bs bt=>
 O9 q x3 14 bt (fun bu bv=>
 B5 (f4 br) bs bu bv (fun bw bz ca=>
 K (f4 bw) bz ca))))))))∧
 (¬(x1.c8=5)→
 (x1.c8=6→
 (0:Int)≤0∧(0:Int) < x1.r9.n∧∃u:j8,EltH H x1.r9 0 4 (f7 u)∧
 D2 (f4 x0) a u x2 x3 x0.fc.u5 H (fun cb cc cd=>
 K (f4 cb) cc cd))∧
 (¬(x1.c8=6)→
 O9 x2 x3 1 H (fun ce cf=>
 B5 (f4 x0) a ce cf (fun cg ch ci=>
 K (f4 cg) ch ci))))))))
theorem b0Y(x0 v x1 x2 x3){H K}(h:a4R x0 v x1 x2 x3 H K):a4x x0 v x1 x2 x3 H K:=by
 intro g0 c d e
 refine Ct.of fun w0 w ps0 H0 R E I hR=>c9C ?_
 unfold a4R at h
 unfold F45
 refine A9 I (cs:=(g7 x1)) rfl fun ey ez b fa=>?_
 refine c5 T7 (c6 (l1 Tryz.isAgg3 b rfl) (c5 pEq ?_))
 refine d9 h (fun _ h=>?_) (fun _ h=>?_)
 ·refine Q9 b fun fb g=>?_
  refine g8 (m2 _) ?_
  refine g8 b3q ?_
  refine g8 a0E ?_
  refine g8 N3 ?_
  refine p6 (l1 Tryz.isAgg66 (g.bring 1) rfl) ?_
  refine p6 (l1 Tryz.isAgg9 g rfl) ?_
  obtain ⟨fc,ag,h⟩:=h
  refine b3n (keyS Tryz.underlying9) Tryz.underlying66 (z:=0) Tryz.zeroValue3 g ag x1.f6 ?_
  refine p6 (l1 Tryz.isAgg57 g rfl) ?_
  obtain ⟨ah,ai,aj,l,h⟩:=h
  obtain ⟨fd,fe,ak,l⟩:=l
  refine g8 (A0 ak _ _ _ _ ah ai) ?_
  refine p6 (ldA (vs:=(d7 aj)) Tryz.isAgg123 Tryz.sizeOf123 rfl (g.atH l)) ?_
  refine f0 Tryz.call66 (h g0 c d e) ((g.bring 2).bring 2) ?_
  rintro _ al _ ff am _ _ ⟨an,ao,ap,aq,rfl,rfl,ar,h⟩
  exact hR _ al _ _ (((am.bring 2).drop.bring 1).bring 1) ⟨(f4 an),ao,ap,aq,rfl,rfl,ar,h⟩
 ·refine c5 pEq ?_
  refine d9 h (fun _ h=>?_) (fun _ h=>?_)
  ·refine f0 Tryz.call67 h b ?_
   rintro _ _ _ fg au _ _ ⟨a,rfl,rfl,h⟩
   refine u4 au Tryz.zeroValue40 (cs:=[(vi 0),(vi 0),(vi 0),(vi 0),(vi 0),(vi 0),(vi 0),(vi 0),(vi 0),(vi 0)]) rfl fun fh fi av fj=>?_
   refine y6 av Tryz.sizeOf40 (vs:=(i6 a)) fun fk aw fl=>?_
   refine Q9 aw fun fm j=>?_
   refine g8 (m2 _) ?_
   refine g8 b3r ?_
   refine g8 a0E ?_
   refine p6 (l1 Tryz.isAgg66 (j.bring 2) rfl) ?_
   refine p6 (l1 Tryz.isAgg9 (j.bring 1) rfl) ?_
   obtain ⟨m,ax,h⟩:=h
   refine b3n (keyS Tryz.underlying9) Tryz.underlying66 (z:=0) Tryz.zeroValue3 j ax x1.f6 ?_
   refine g8 b0E ?_
   refine C4 j Tryz.sizeOf3 fun fn y fo=>?_
   refine c5 N3 (c6 (l1 Tryz.isAgg57 (y.bring 1) rfl) ?_)
   refine f0 Tryz.call68 (h g0 c d e) ((y.bring 3).bring 3) ?_
   rintro _ _ _ fp ay _ _ ⟨f,i,aa,fq,fs,az,ba,rfl,rfl,bb,h⟩
   refine c5 (m0 _ _ _ rfl) (c5 (m0 _ _ _ rfl) (c5 (m0 _ _ (vi aa) rfl) (c5 a2d ?_)))
   refine W5 (ay.bring 2) Tryz.sizeOf38 (vs:=(m7 f)) (cs':=[(vi a.O0),(vi a.fTo),(vi a.c8),(vi a.a1O),(vi ((lk x1.f6 m).getD 0)),(vi a.fOp),(vi f.B7),(vi f.s7),(vi a.fB.B7),(vi a.fB.s7)]) rfl rfl (nb rfl) rfl rfl fun ft bc fu=>?_
   refine c5 a7F ?_
   refine W5 bc Tryz.sizeOf38 (vs:=(m7 i)) (cs':=[(vi a.O0),(vi a.fTo),(vi a.c8),(vi a.a1O),(vi ((lk x1.f6 m).getD 0)),(vi a.fOp),(vi f.B7),(vi f.s7),(vi i.B7),(vi i.s7)]) rfl rfl (nb rfl) rfl rfl fun fv bd fw=>?_
   refine c5 a2e ?_
   refine C4 bd Tryz.sizeOf3 fun fx ab fy=>?_
   refine c6 (ldA Tryz.isAgg40 Tryz.sizeOf40 rfl (ab.at1 (o:=0) (vs:=[(vi aa),(vi a.fTo),(vi a.c8),(vi a.a1O),(vi ((lk x1.f6 m).getD 0)),(vi a.fOp),(vi f.B7),(vi f.s7),(vi i.B7),(vi i.s7)]) (nb rfl) rfl)) ?_
   refine f0 Tryz.call69 (h g0 az ba bb) ((ab.bring 2).bring 2) ?_
   rintro _ be _ fz bf _ _ ⟨bg,bh,bi,bj,rfl,rfl,bk,h⟩
   exact hR _ be _ _ ((((bf.bring 2).drop.bring 2).drop.bring 1).bring 1) ⟨(f4 bg),bh,bi,bj,rfl,rfl,bk,h⟩
  ·refine c5 pEq ?_
   refine d9 h (fun _ h=>?_) (fun _ h=>?_)
   ·refine c5 Q7 (c6 (l1 Tryz.isAgg23 b rfl) ?_)
    refine f0 Tryz.call70 (h g0 c d e) ((b.bring 2).bring 2) ?_
    rintro _ _ _ ga ac _ _ ⟨gb,gc,gd,bl,bm,rfl,rfl,bn,h⟩
    refine c5 W9 (c6 (l1 Tryz.isAgg23 (ac.bring 2) rfl) ?_)
    refine f0 Tryz.call70 (h g0 bl bm bn) ((ac.bring 1).bring 1) ?_
    rintro _ _ _ ge n _ _ ⟨gf,gg,gh,bo,bp,rfl,rfl,bq,h⟩
    refine c5 O2 (c6 (l1 Tryz.isAgg58 (n.bring 2) rfl) ?_)
    obtain ⟨br,bs,bt,p,h⟩:=h
    obtain ⟨gi,gj,bu,p⟩:=p
    refine c5 (L0 bu _ _ _ _ br bs) (c6 (ldA (vs:=(f7 bt)) Tryz.isAgg131 Tryz.sizeOf131 rfl (n.atH p)) ?_)
    refine f0 Tryz.call71 (h g0 bo bp bq) ((n.bring 1).bring 1) ?_
    rintro _ _ _ gk ad _ _ ⟨gl,gm,bv,bw,rfl,rfl,bz,h⟩
    refine c5 Q7 (c6 (l1 Tryz.isAgg23 (ad.bring 2) rfl) ?_)
    refine f0 Tryz.call24 (h g0 bv bw bz) ((ad.bring 1).bring 1) ?_
    rintro _ _ _ gn ae _ _ ⟨go,gp,ca,cb,rfl,rfl,cc,h⟩
    refine c5 W9 (c6 (l1 Tryz.isAgg23 (ae.bring 2) rfl) ?_)
    refine f0 Tryz.call24 (h g0 ca cb cc) ((ae.bring 1).bring 1) ?_
    rintro _ cd _ gq ce _ _ ⟨cf,cg,ch,ci,rfl,rfl,cj,h⟩
    exact hR _ cd _ _ (((ce.bring 2).drop.bring 1).bring 1) ⟨(f4 cf),cg,ch,ci,rfl,rfl,cj,h⟩
   ·refine c5 pEq ?_
    refine d9 h (fun _ h=>?_) (fun _ h=>?_)
    ·refine c5 Q7 (c6 (l1 Tryz.isAgg23 b rfl) ?_)
     refine f0 Tryz.call70 (h g0 c d e) ((b.bring 2).bring 2) ?_
     rintro _ _ _ gr q _ _ ⟨gs,gt,gu,ck,cl,rfl,rfl,cm,h⟩
     refine c5 O2 (c6 (l1 Tryz.isAgg58 (q.bring 2) rfl) ?_)
     obtain ⟨cn,co,cp,r,h⟩:=h
     obtain ⟨gv,gw,cq,r⟩:=r
     refine c5 (L0 cq _ _ _ _ cn co) (c6 (ldA (vs:=(f7 cp)) Tryz.isAgg131 Tryz.sizeOf131 rfl (q.atH r)) ?_)
     refine f0 Tryz.call71 (h g0 ck cl cm) ((q.bring 1).bring 1) ?_
     rintro _ _ _ gx af _ _ ⟨gy,gz,cr,ct,rfl,rfl,cu,h⟩
     refine c5 Q7 (c6 (l1 Tryz.isAgg23 (af.bring 2) rfl) ?_)
     refine f0 Tryz.call24 (h g0 cr ct cu) ((af.bring 1).bring 1) ?_
     rintro _ cv _ ha cw _ _ ⟨cx,cy,cz,da,rfl,rfl,db,h⟩
     exact hR _ cv _ _ (((cw.bring 2).drop.bring 1).bring 1) ⟨(f4 cx),cy,cz,da,rfl,rfl,db,h⟩
    ·refine c5 pEq ?_
     refine d9 h (fun _ h=>?_) (fun _ h=>?_)
     ·refine f0 Tryz.call23 (h g0 c d e) ((b.bring 2).bring 2) ?_
      rintro _ _ _ hb dc _ _ ⟨hc,hd,he,dd,de,rfl,rfl,df,h⟩
      refine f0 Tryz.call23 (h g0 dd de df) ((dc.bring 1).bring 1) ?_
      rintro _ _ _ hf s _ _ ⟨hg,hh,hi,dg,dh,rfl,rfl,di,h⟩
      refine c5 O2 (c6 (l1 Tryz.isAgg58 (s.bring 2) rfl) ?_)
      obtain ⟨dj,dk,dl,t,h⟩:=h
      obtain ⟨hj,hk,dm,t⟩:=t
      refine c5 (L0 dm _ _ _ _ dj dk) (c6 (ldA (vs:=(f7 dl)) Tryz.isAgg131 Tryz.sizeOf131 rfl (s.atH t)) ?_)
      refine f0 Tryz.call71 (h g0 dg dh di) ((s.bring 1).bring 1) ?_
      rintro _ _ _ hl dn _ _ ⟨hm,hn,dp,dq,rfl,rfl,dr,h⟩
      refine f0 Tryz.call67 h dn ?_
      rintro _ _ _ ho ds _ _ ⟨hp,rfl,rfl,h⟩
      refine f0 Tryz.call69 (h g0 dp dq dr) ((ds.bring 1).bring 1) ?_
      rintro _ _ _ hq dt _ _ ⟨hr,hs,du,dv,rfl,rfl,dw,h⟩
      refine f0 Tryz.call67 h dt ?_
      rintro _ _ _ ht dx _ _ ⟨hu,rfl,rfl,h⟩
      refine f0 Tryz.call69 (h g0 du dv dw) ((dx.bring 1).bring 1) ?_
      rintro _ dy _ hv dz _ _ ⟨ea,eb,ec,ed,rfl,rfl,ee,h⟩
      exact hR _ dy _ _ (((dz.bring 2).drop.bring 1).bring 1) ⟨(f4 ea),eb,ec,ed,rfl,rfl,ee,h⟩
     ·refine c5 pEq ?_
      refine d9 h (fun _ h=>?_) (fun _ h=>?_)
      ·refine Q9 b fun hw k=>?_
       refine g8 O2 ?_
       refine g8 (m2 _) ?_
       refine g8 T9 ?_
       refine g8 a5V ?_
       refine p6 (l1 Tryz.isAgg58 k rfl) ?_
       obtain ⟨ef,eg,eh,u,h⟩:=h
       obtain ⟨hx,hy,ei,u⟩:=u
       refine g8 (L0 ei _ _ _ _ ef eg) ?_
       refine p6 (ldA (vs:=(f7 eh)) Tryz.isAgg131 Tryz.sizeOf131 rfl (k.atH u)) ?_
       refine p6 (l1 Tryz.isAgg3 (k.bring 1) rfl) ?_
       refine f0 Tryz.call71 (h g0 c d e) ((k.bring 2).bring 2) ?_
       rintro _ ej _ hz ek _ _ ⟨el,em,en,eo,rfl,rfl,ep,h⟩
       exact hR _ ej _ _ (((ek.bring 2).drop.bring 1).bring 1) ⟨(f4 el),em,en,eo,rfl,rfl,ep,h⟩
      ·refine f0 Tryz.call67 h b ?_
       rintro _ _ _ ia eq _ _ ⟨ib,rfl,rfl,h⟩
       refine f0 Tryz.call69 (h g0 c d e) ((eq.bring 2).bring 2) ?_
       rintro _ er _ ic es _ _ ⟨et,eu,ev,ew,rfl,rfl,ex,h⟩
       exact hR _ er _ _ (((es.bring 2).drop.bring 1).bring 1) ⟨(f4 et),eu,ev,ew,rfl,rfl,ex,h⟩
def a6G(x0:i8)(H:Hp)(K:f5→Hp→Prop):Prop:=
 K (f5.L6 (W6.mk x0)) H
theorem b3G(x0){H K}(h:a6G x0 H K):a8R x0 H K:=by
 refine Ct.of fun w0 w ps0 H0 R E I hR=>c7M ?_
 unfold a6G at h
 unfold d0U
 refine A9 I (cs:=(g7 x0)) rfl fun b c a d=>?_
 refine c6 (lW Tryz.isAgg60 Tryz.sizeOf60 rfl a) (c5 (b9o _ _ _ _ _ _ _ _ _ _ _ _ _ _) (c5 (b6K (W6.mk x0)) ?_))
 exact hR _ H _ _ a.drop ⟨(f5.L6 (W6.mk x0)),rfl,rfl,h⟩
def H9(d4l:Sl)(b7M:Int)(d4m:Sl)(c6H:Int)(c2X:Int)(H:Hp)(n4:(Int×Int)→Hp→Prop)(K:Sl→Hp→Prop):Prop:=
 n4 (b7M,(IntKind.wrap .i64 (c2X+1))) H
def I0(b6p:(List f5))(H:Hp)(K:Sl→Hp→Prop):Prop:=
 ∀(a9V:Sl)(a:Hp),Hle H a→SlH a 1 v7 a9V b6p→a9V.n≤a9V.c→
 K a9V a
def J0(c6I:Sl)(c6J:Int)(a6H:(List f5))(a6m:Int)(H:Hp)(n3:((List f5)×Int)→Hp→Prop)(K:Sl→Hp→Prop):Prop:=
 (a6m < c6J→
 (0:Int)≤a6m∧(a6m:Int) < c6I.n∧∃b:Sl,EltH H c6I a6m 1 [(vs b)]∧
 ∃a:List f5,SlH H 1 v7 b a∧(a6H.length+a.length)*17≤140737488355328∧
 n3 ((a6H++a),(IntKind.wrap .i64 (a6m+1))) H)∧
 (¬(a6m < c6J)→
 I0 a6H H K)
def J1(c2W:Sl)(a0d:Int)(H:Hp)(K:Sl→Hp→Prop):Prop:=
 W4 a0d H (fun a b=>
 TL ((a,0):(List f5)×Int) b fun(s:(List f5)×Int) H n3=>J0 c2W (c2W.n:Int) s.1 s.2 H n3 K)
def O7(d1A:Sl)(a8t:Sl)(c2Y:Int)(b2G:Int)(a7N:Int)(H:Hp)(n4:(Int×Int)→Hp→Prop)(K:Sl→Hp→Prop):Prop:=
 (a7N < c2Y→
 (0:Int)≤a7N∧(a7N:Int) < a8t.n∧∃a:Sl,EltH H a8t a7N 1 [(vs a)]∧
 ((IntKind.wrap .i64 (b2G+(a.n:Int))) < 0→
 False)∧
 (¬((IntKind.wrap .i64 (b2G+(a.n:Int))) < 0)→
 H9 d1A (IntKind.wrap .i64 (b2G+(a.n:Int))) a8t c2Y a7N H n4 K))∧
 (¬(a7N < c2Y)→
 J1 d1A b2G H K)
def Q3(x0:Sl)(H:Hp)(K:Sl→Hp→Prop):Prop:=
 TL ((0,0):Int×Int) H fun(s:Int×Int) H n4=>O7 x0 x0 (x0.n:Int) s.1 s.2 H n4 K
theorem a5e(x0){H K}(h:Q3 x0 H K):E3 x0 H K:=by
 refine Ct.of fun w0 w ps0 H0 R E I hR=>c7I ?_
 unfold Q3 at h
 unfold d0Q
 have hj1:∀(a0d:Int) H w (_:Inv w0 ps0 H0 H [] w) (_:J1 x0 a0d H K),b7m (vs x0) (vi a0d) w R E:=by
  intro a0d H w I h
  unfold b7m
  intro _
  unfold J1 at h
  refine f0 Tryz.call126 h I ?_
  rintro _ m _ au o _ _ ⟨p,q,r,rfl,rfl,t,h⟩
  have hj2:∀(b6p:(List f5))(a9V:Sl)(Fs6j2:Frag) H w (_:RowL 182 1 v7 a9V b6p Fs6j2) (_:Inv w0 ps0 H0 H [Fs6j2] w) (_:I0 b6p H K),b7l (vs a9V) w R E:=by
   intro b6p a9V Fs6j2 H w d2v I h
   unfold b7l
   intro _
   unfold I0 at h
   obtain ⟨j,u,y,z,aa⟩:=Inv.freezeC I d2v (by decide)
   replace h:=h a9V j y z aa
   exact hR _ j _ _ u ⟨a9V,rfl,rfl,h⟩
  refine o6 fun j2 hx2=>?_
  refine c5 (b6d _ _ _) ?_
  obtain ⟨d,c,ab,ac⟩:=h
  refine L5 (J:=fun n l w=>∃(s:(List f5)×Int)(H:Hp)(b6q:Sl)(Fs6l3:Frag),n=c s∧l=(match s with | (a6H,a6m)=>[(vs b6q),(vi a6m)])∧(match s with | (a6H,a6m)=>RowL 182 1 v7 b6q a6H Fs6l3)∧(match s with | (a6H,a6m)=>Inv w0 ps0 H0 H [Fs6l3] w)∧d s H) ⟨_,(p,0),m,q,r,rfl,rfl,t,o,ab⟩ ?_
  rintro av aw w next3 ⟨⟨a6H,a6m⟩,H,b6q,Fs6l3,rfl,e,c2Z,I,ad⟩ hn3
  dsimp only at e I c2Z
  simp only [List.map_cons,List.map_nil,List.cons.injEq,and_true] at e
  obtain ⟨e6,e27⟩:=e
  simp only [e6,e27]
  obtain ⟨n3,hm3,h⟩:∃n3:((List f5)×Int)→Hp→Prop,(∀s' H',n3 s' H'→d s' H'∧c s' < c (a6H,a6m))∧J0 x0 (x0.n:Int) a6H a6m H n3 K:=⟨_,fun _ _ h=>h,ac (a6H,a6m) H (fun s' H'=>d s' H'∧c s' < c (a6H,a6m)) ad (fun _ _ a b=>⟨a,b⟩)⟩
  unfold c1M
  unfold J0 at h
  refine c5 pLs ?_
  refine d9 h (fun _ h=>?_) (fun _ h=>?_)
  ·obtain ⟨ae,af,ag,f,h⟩:=h
   obtain ⟨ax,ay,ah,f⟩:=f
   refine c5 (b8f ah _ _ _ _ ae af) (c6 (ld1 (v:=(vs ag)) Tryz.isAgg179 (I.atH f)) ?_)
   obtain ⟨ai,aj,h⟩:=h
   obtain ⟨ak,h⟩:=h
   refine b2S (s:=b6q) (xs:=a6H) I c2Z (SlH.src I aj U8) ak fun al am az an ao ba=>?_
   refine c5 pAd ?_
   exact hn3 _ _ _ (hm3 _ _ h).2 ⟨((a6H++ai),(IntKind.wrap .i64 (a6m+1))),H,al,am,rfl,rfl,an,ao,(hm3 _ _ h).1⟩
  ·exact hx2 _ _ (hj2 a6H b6q Fs6l3 H _ c2Z I h)
 refine o6 fun j1 hx1=>?_
 refine c5 (b6d _ _ _) ?_
 refine C9 (σ:=Int×Int) (fun (b2G,a7N)=>[(vi b2G),(vi a7N)]) (fun (b2G,a7N)=>[]) h rfl I ?_
 rintro ⟨b2G,a7N⟩ H bb w next4 n4 g I h hn4
 dsimp only at g I h
 simp only [List.map_cons,List.map_nil,List.cons.injEq,and_true] at g
 obtain ⟨e3,e11⟩:=g
 simp only [e3,e11]
 unfold c1N
 unfold O7 at h
 refine c5 pLs ?_
 refine d9 h (fun _ h=>?_) (fun _ h=>?_)
 ·have hj5:∀(b7M:Int) H w (_:Inv w0 ps0 H0 H [] w) (_:H9 x0 b7M x0 (x0.n:Int) a7N H n4 K),b7n (vs x0) (vi b7M) (vs x0) (vi (x0.n:Int)) (vi a7N) w next4 R E:=by
   intro b7M H w I h
   unfold b7n
   intro _
   unfold H9 at h
   refine c5 pAd ?_
   exact hn4 (b7M,(IntKind.wrap .i64 (a7N+1))) _ _ h I
  refine o6 fun j5 hx5=>?_
  obtain ⟨ap,aq,k,i,h⟩:=h
  obtain ⟨bc,bd,ar,i⟩:=i
  refine c5 (b8f ar _ _ _ _ ap aq) (c6 (ld1 (v:=(vs k)) Tryz.isAgg179 (I.atH i)) (c5 (b0G _ _ _) (c5 pAd (c5 pLs ?_))))
  refine d9 h (fun _ h=>?_) (fun _ h=>?_)
  ·refine c5 (c3X _) ?_
   exact h.elim
  ·exact hx5 _ _ (hj5 (IntKind.wrap .i64 (b2G+(k.n:Int))) H _ I h)
 ·exact hx1 _ _ (hj1 b2G H _ I h)
def a1T(x0:(List ByteArray))(x1:ByteArray)(H:Hp)(K:Bool→Hp→Prop):Prop:=
 a2V x0 x1 H (fun a b=>
 K (decide (0≤a)) b)
theorem a8K(x0 x1){H K}(h:a1T x0 x1 H K):Y4 x0 x1 H K:=by
 intro sx0 Fx0 hx0
 refine Ct.of fun w0 w ps0 H0 R E I hR=>c7T ?_
 unfold a1T at h
 unfold d1b
 refine f0 Tryz.call135 (h sx0 Fx0 hx0) I ?_
 rintro _ a _ d b _ _ ⟨c,rfl,rfl,h⟩
 refine c5 pGe ?_
 exact hR _ a _ _ b ⟨(decide (0≤c)),rfl,rfl,h⟩
def a0Q(c6K:Sl)(b6i:Int)(d:f8)(a0I:Int)(O6:(List g9))(H:Hp)(n2:(Int×(List g9))→Hp→Prop)(K:m9→(List g9)→Hp→Prop):Prop:=
 (a0I < b6i→
 (0:Int)≤a0I∧(a0I:Int) < c6K.n∧∃a:f8,EltH H c6K a0I 4 (d7 a)∧
 a0f (m9.mk (Sl.mk none 0 0)) O6 a H (fun e b c=>
 n2 ((IntKind.wrap .i64 (a0I+1)),b) c))∧
 (¬(a0I < b6i)→
 K (m9.mk (Sl.mk none 0 0)) O6 H)
def M6(a3j:(List g9))(a:f8)(H:Hp)(K:m9→(List g9)→Hp→Prop):Prop:=
 TL ((0,a3j):Int×(List g9)) H fun(s:Int×(List g9)) H n2=>a0Q a.u1 (a.u1.n:Int) a s.1 s.2 H n2 K
def a4S(x0:m9)(a:(List g9))(x1:f8)(H:Hp)(K:m9→(List g9)→Hp→Prop):Prop:=
 (x1.c8=2→
 (a.length+([(g9.mk x1.f6 1)]:List g9).length)*25≤140737488355328∧
 M6 (a++[(g9.mk x1.f6 1)]) x1 H K)∧
 (¬(x1.c8=2)→
 (x1.c8=4→
 (a.length+([(g9.mk x1.f6 2)]:List g9).length)*25≤140737488355328∧
 M6 (a++[(g9.mk x1.f6 2)]) x1 H K)∧
 (¬(x1.c8=4)→
 M6 a x1 H K))
theorem b0Z(x0 d x1){H K}(h:a4S x0 d x1 H K):a0f x0 d x1 H K:=by
 intro g0 k ab m
 refine Ct.of fun w0 w ps0 H0 R E I hR=>c7z ?_
 unfold a4S at h
 unfold d0H
 refine A9 I (cs:=(d7 x1)) rfl fun o bf g bg=>?_
 have hj1:∀(a3j:(List g9))(a6C:Sl)(a6D:Frag) H w (_:RowL 158 2 B3 a6C a3j a6D) (_:Inv w0 ps0 H0 H [bx g0 155 [(vs a6C)],bx o 123 (d7 x1),a6D] w) (_:M6 a3j x1 H K),b7e (Value.pointer (some ⟨g0,0,none⟩)) (Value.pointer (some ⟨o,0,none⟩)) w R E:=by
  intro a3j a6C a6D H w b5F I h
  unfold b7e
  intro _
  unfold M6 at h
  refine c5 C3 (c6 (l1 Tryz.isAgg57 (I.bring 1) rfl) (c5 (P7 _ _ _) ?_))
  obtain ⟨p,f,ac,ad⟩:=h
  refine L5 (J:=fun n l w=>∃(s:Int×(List g9))(H:Hp)(a5t:Sl)(a5u:Frag),n=f s∧l=(match s with | (a0I,O6)=>[(vi a0I)])∧(match s with | (a0I,O6)=>RowL 158 2 B3 a5t O6 a5u)∧(match s with | (a0I,O6)=>Inv w0 ps0 H0 H [bx g0 155 [(vs a5t)],bx o 123 (d7 x1),a5u] w)∧p s H) ⟨_,(0,a3j),H,a6C,a6D,rfl,rfl,b5F,(((I.bring 2).bring 2).bring 2),ac⟩ ?_
  rintro bh bi w next2 ⟨⟨a0I,O6⟩,H,a5t,a5u,rfl,q,a8w,I,ae⟩ hn2
  dsimp only at q I a8w
  simp only [List.map_cons,List.map_nil,List.cons.injEq,and_true] at q
  have e39:=q
  simp only [e39]
  obtain ⟨n2,hm2,h⟩:∃n2:(Int×(List g9))→Hp→Prop,(∀s' H',n2 s' H'→p s' H'∧f s' < f (a0I,O6))∧a0Q x1.u1 (x1.u1.n:Int) x1 a0I O6 H n2 K:=⟨_,fun _ _ h=>h,ad (a0I,O6) H (fun s' H'=>p s' H'∧f s' < f (a0I,O6)) ae (fun _ _ a b=>⟨a,b⟩)⟩
  unfold c1G
  unfold a0Q at h
  refine c5 pLs ?_
  refine d9 h (fun _ h=>?_) (fun _ h=>?_)
  ·obtain ⟨af,ag,t,r,h⟩:=h
   obtain ⟨bj,bk,ah,r⟩:=r
   refine c5 (A0 ah _ _ _ _ af ag) (c6 (ldA (vs:=(d7 t)) Tryz.isAgg123 Tryz.sizeOf123 rfl (I.atH r)) ?_)
   refine u4 I Tryz.zeroValue123 (cs:=[(vi 0),(vi 0),(eS),(nS)]) rfl fun bl bm ai bn=>?_
   refine y6 ai Tryz.sizeOf123 (vs:=(d7 t)) fun bo u bp=>?_
   refine c6 (lW Tryz.isAgg123 Tryz.sizeOf123 rfl u) ?_
   refine f0 Tryz.call109 (h g0 a5t a5u a8w) ((u.bring 3).bring 2) ?_
   rintro _ aj _ bq ak _ _ ⟨br,al,am,an,rfl,rfl,ao,h⟩
   refine c5 pAd ?_
   exact hn2 _ _ _ (hm2 _ _ h).2 ⟨((IntKind.wrap .i64 (a0I+1)),al),aj,am,an,rfl,rfl,ao,((((ak.bring 2).drop.bring 1).bring 2).bring 2),(hm2 _ _ h).1⟩
  ·exact hR _ H _ _ (((I.bring 1).drop.bring 1).bring 1) ⟨(m9.mk (Sl.mk none 0 0)),O6,a5t,a5u,rfl,rfl,a8w,h⟩
 refine o6 fun j1 hx1=>?_
 refine c5 C2 (c6 (l1 Tryz.isAgg3 g rfl) (c5 pEq ?_))
 refine d9 h (fun _ h=>?_) (fun _ h=>?_)
 ·refine Q9 g fun bs i=>?_
  refine g8 (m2 _) ?_
  refine g8 a3r ?_
  refine g8 a1V ?_
  refine p6 (l1 Tryz.isAgg153 (i.bring 1) rfl) ?_
  refine p6 (l1 Tryz.isAgg9 i rfl) ?_
  refine g8 (a7G _ _) ?_
  refine a3v (e:=158) (c:=B3) (xs:=[(g9.mk x1.f6 1)]) i (b3s _ _) rfl rfl a6R a6S (nb rfl) fun bt bu bv ap v aq=>?_
  refine ⟨(aq _ (i.bring 1).lt1),?_⟩
  obtain ⟨ar,h⟩:=h
  refine b4M (s:=k) (xs:=d) (v.bring 3) m (ap.srcO ((v.bring 3).bring 1)) ar fun y au bw av aw bz=>?_
  refine g8 (m2 _) ?_
  refine g8 a3r ?_
  refine y6 ((aw.bring 1).drop.bring 2) Tryz.sizeOf153 (vs:=[(vs y)]) fun ca ax cb=>?_
  exact hx1 _ _ (hj1 (d++[(g9.mk x1.f6 1)]) y au H _ av (((ax.bring 1).bring 2).bring 2) h)
 ·refine c5 pEq ?_
  refine d9 h (fun _ h=>?_) (fun _ h=>?_)
  ·refine Q9 g fun cc j=>?_
   refine g8 (m2 _) ?_
   refine g8 a3r ?_
   refine g8 a1V ?_
   refine p6 (l1 Tryz.isAgg153 (j.bring 1) rfl) ?_
   refine p6 (l1 Tryz.isAgg9 j rfl) ?_
   refine g8 (a7G _ _) ?_
   refine a3v (e:=158) (c:=B3) (xs:=[(g9.mk x1.f6 2)]) j (b3s _ _) rfl rfl a6R a6S (nb rfl) fun cd ce cf ay z az=>?_
   refine ⟨(az _ (j.bring 1).lt1),?_⟩
   obtain ⟨ba,h⟩:=h
   refine b4M (s:=k) (xs:=d) (z.bring 3) m (ay.srcO ((z.bring 3).bring 1)) ba fun aa bb cg bc bd ch=>?_
   refine g8 (m2 _) ?_
   refine g8 a3r ?_
   refine y6 ((bd.bring 1).drop.bring 2) Tryz.sizeOf153 (vs:=[(vs aa)]) fun ci be cj=>?_
   exact hx1 _ _ (hj1 (d++[(g9.mk x1.f6 2)]) aa bb H _ bc (((be.bring 1).bring 2).bring 2) h)
  ·exact hx1 _ _ (hj1 d k ab H _ m (((g.bring 2).bring 1).bring 2) h)
def a0r(a6F:Sl)(b3z:Int)(d2w:Int)(a9N:(List g9))(H:Hp)(n1:(Int×(List g9))→Hp→Prop)(K:m9→(List g9)→Hp→Prop):Prop:=
 n1 ((IntKind.wrap .i64 (d2w+1)),a9N) H
def a0s(c6H:Sl)(c2X:Int)(d2x:Int)(b1L:(List g9))(a:i8)(H:Hp)(n1:(Int×(List g9))→Hp→Prop)(K:m9→(List g9)→Hp→Prop):Prop:=
 Y2 (m9.mk (Sl.mk none 0 0)) b1L a.K5 H (fun f b c=>
 Y2 (m9.mk (Sl.mk none 0 0)) b a.L2 c (fun g d e=>
 a0r c6H c2X d2x d e n1 K))
def a0t(d2y:Sl)(d2z:Int)(d2A:Int)(c6L:Sl)(c6M:Int)(b:i8)(a6n:Int)(a4h:(List g9))(H:Hp)(n1:(Int×(List g9))→Hp→Prop)(n6:(Int×(List g9))→Hp→Prop)(K:m9→(List g9)→Hp→Prop):Prop:=
 (a6n < c6M→
 (0:Int)≤a6n∧(a6n:Int) < c6L.n∧∃a:f8,EltH H c6L a6n 4 (d7 a)∧
 a0f (m9.mk (Sl.mk none 0 0)) a4h a H (fun e c d=>
 n6 ((IntKind.wrap .i64 (a6n+1)),c) d))∧
 (¬(a6n < c6M)→
 a0s d2y d2z d2A a4h b H n1 K)
def a0u(d2B:Sl)(d2C:Int)(d2D:Int)(a9O:(List g9))(a:i8)(H:Hp)(n1:(Int×(List g9))→Hp→Prop)(K:m9→(List g9)→Hp→Prop):Prop:=
 TL ((0,a9O):Int×(List g9)) H fun(s:Int×(List g9)) H n6=>a0t d2B d2C d2D a.l7 (a.l7.n:Int) a s.1 s.2 H n1 n6 K
def a0v(d2E:Sl)(d2F:Int)(d2G:Int)(c6N:Sl)(c6O:Int)(b:i8)(a6o:Int)(a4i:(List g9))(H:Hp)(n1:(Int×(List g9))→Hp→Prop)(n7:(Int×(List g9))→Hp→Prop)(K:m9→(List g9)→Hp→Prop):Prop:=
 (a6o < c6O→
 (0:Int)≤a6o∧(a6o:Int) < c6N.n∧∃a:j8,EltH H c6N a6o 4 (f7 a)∧
 a1L (m9.mk (Sl.mk none 0 0)) a4i a H (fun e c d=>
 n7 ((IntKind.wrap .i64 (a6o+1)),c) d))∧
 (¬(a6o < c6O)→
 a0u d2E d2F d2G a4i b H n1 K)
def L4(d2H:Sl)(b2q:Int)(d2I:Int)(a9P:(List g9))(a:i8)(H:Hp)(n1:(Int×(List g9))→Hp→Prop)(K:m9→(List g9)→Hp→Prop):Prop:=
 TL ((0,a9P):Int×(List g9)) H fun(s:Int×(List g9)) H n7=>a0v d2H b2q d2I a.r9 (a.r9.n:Int) a s.1 s.2 H n1 n7 K
def a0w(b6r:Sl)(b6s:Int)(a0x:Int)(S9:(List g9))(H:Hp)(n1:(Int×(List g9))→Hp→Prop)(K:m9→(List g9)→Hp→Prop):Prop:=
 (a0x < b6s→
 (0:Int)≤a0x∧(a0x:Int) < b6r.n∧∃a:i8,EltH H b6r a0x 6 (g7 a)∧
 (a.c8=1→
 (S9.length+([(g9.mk a.f6 1)]:List g9).length)*25≤140737488355328∧
 L4 b6r b6s a0x (S9++[(g9.mk a.f6 1)]) a H n1 K)∧
 (¬(a.c8=1)→
 (a.c8=2→
 (S9.length+([(g9.mk a.f6 2)]:List g9).length)*25≤140737488355328∧
 L4 b6r b6s a0x (S9++[(g9.mk a.f6 2)]) a H n1 K)∧
 (¬(a.c8=2)→
 L4 b6r b6s a0x S9 a H n1 K)))∧
 (¬(a0x < b6s)→
 K (m9.mk (Sl.mk none 0 0)) S9 H)
def a4j(x0:m9)(a:(List g9))(x1:Sl)(H:Hp)(K:m9→(List g9)→Hp→Prop):Prop:=
 TL ((0,a):Int×(List g9)) H fun(s:Int×(List g9)) H n1=>a0w x1 (x1.n:Int) s.1 s.2 H n1 K
theorem b0y(x0 p x1){H K}(h:a4j x0 p x1 H K):Y2 x0 p x1 H K:=by
 intro g0 al am an
 refine Ct.of fun w0 w ps0 H0 R E I hR=>d0s ?_
 unfold a4j at h
 unfold F94
 refine c5 (L3 _ _ _) ?_
 obtain ⟨q,g,ao,ap⟩:=h
 refine L5 (J:=fun n l w=>∃(s:Int×(List g9))(H:Hp)(a8x:Sl)(b1M:Frag),n=g s∧l=(match s with | (a0x,S9)=>[(vi a0x)])∧(match s with | (a0x,S9)=>RowL 158 2 B3 a8x S9 b1M)∧(match s with | (a0x,S9)=>Inv w0 ps0 H0 H [bx g0 155 [(vs a8x)],b1M] w)∧q s H) ⟨_,(0,p),H,al,am,rfl,rfl,an,((I.bring 1).bring 1),ao⟩ ?_
 rintro cx cy w next1 ⟨⟨a0x,S9⟩,H,a8x,b1M,rfl,r,b1N,I,aq⟩ hn1
 dsimp only at r I b1N
 simp only [List.map_cons,List.map_nil,List.cons.injEq,and_true] at r
 have e12:=r
 simp only [e12]
 obtain ⟨n1,hm1,h⟩:∃n1:(Int×(List g9))→Hp→Prop,(∀s' H',n1 s' H'→q s' H'∧g s' < g (a0x,S9))∧a0w x1 (x1.n:Int) a0x S9 H n1 K:=⟨_,fun _ _ h=>h,ap (a0x,S9) H (fun s' H'=>q s' H'∧g s' < g (a0x,S9)) aq (fun _ _ a b=>⟨a,b⟩)⟩
 unfold c4H
 unfold a0w at h
 refine c5 pLs ?_
 refine d9 h (fun _ h=>?_) (fun _ h=>?_)
 ·have hj2:∀(a9N:(List g9))(b3H:Sl)(b3I:Frag) H w (_:RowL 158 2 B3 b3H a9N b3I) (_:Inv w0 ps0 H0 H [bx g0 155 [(vs b3H)],b3I] w) (_:a0r x1 (x1.n:Int) a0x a9N H n1 K),c0f (Value.pointer (some ⟨g0,0,none⟩)) (vs x1) (vi (x1.n:Int)) (vi a0x) w next1 R E:=by
   intro a9N b3H b3I H w c5M I h
   unfold c0f
   intro _
   unfold a0r at h
   refine c5 pAd ?_
   exact hn1 _ _ _ (hm1 _ _ h).2 ⟨((IntKind.wrap .i64 (a0x+1)),a9N),H,b3H,b3I,rfl,rfl,c5M,((I.bring 1).bring 1),(hm1 _ _ h).1⟩
  refine o6 fun j2 hx2=>?_
  obtain ⟨ar,au,d,t,h⟩:=h
  obtain ⟨cz,da,av,t⟩:=t
  refine c5 (a3Q av _ _ _ _ ar au) (c6 (ldA (vs:=(g7 d)) Tryz.isAgg60 Tryz.sizeOf60 rfl (I.atH t)) ?_)
  refine u4 I Tryz.zeroValue60 (cs:=[(vi 0),(eS),(nS),(nS),(nS),(nS)]) rfl fun f db aw dc=>?_
  refine y6 aw Tryz.sizeOf60 (vs:=(g7 d)) fun dd k de=>?_
  have hj3:∀(a9P:(List g9))(b3J:Sl)(b3K:Frag) H w (_:RowL 158 2 B3 b3J a9P b3K) (_:Inv w0 ps0 H0 H [bx g0 155 [(vs b3J)],bx f 60 (g7 d),b3K] w) (_:L4 x1 (x1.n:Int) a0x a9P d H n1 K),c0i (Value.pointer (some ⟨g0,0,none⟩)) (Value.pointer (some ⟨f,0,none⟩)) (vs x1) (vi (x1.n:Int)) (vi a0x) w j2 R E:=by
   intro a9P b3J b3K H w c5N I h
   unfold c0i
   intro _
   unfold L4 at h
   have hj4:∀(a9O:(List g9))(b3L:Sl)(b3M:Frag) H w (_:RowL 158 2 B3 b3L a9O b3M) (_:Inv w0 ps0 H0 H [bx g0 155 [(vs b3L)],bx f 60 (g7 d),b3M] w) (_:a0u x1 (x1.n:Int) a0x a9O d H n1 K),c0h (Value.pointer (some ⟨g0,0,none⟩)) (Value.pointer (some ⟨f,0,none⟩)) (vs x1) (vi (x1.n:Int)) (vi a0x) w j2 R E:=by
    intro a9O b3L b3M H w c5O I h
    unfold c0h
    intro _
    unfold a0u at h
    have hj5:∀(b1L:(List g9))(b3N:Sl)(b3O:Frag) H w (_:RowL 158 2 B3 b3N b1L b3O) (_:Inv w0 ps0 H0 H [bx g0 155 [(vs b3N)],bx f 60 (g7 d),b3O] w) (_:a0s x1 (x1.n:Int) a0x b1L d H n1 K),c0g (Value.pointer (some ⟨g0,0,none⟩)) (Value.pointer (some ⟨f,0,none⟩)) (vs x1) (vi (x1.n:Int)) (vi a0x) w j2 R E:=by
     intro b1L b3N b3O H w c5P I h
     unfold c0g
     intro _
     unfold a0s at h
     refine c5 Q7 (c6 (l1 Tryz.isAgg23 (I.bring 1) rfl) ?_)
     refine f0 Tryz.call94 (h g0 b3N b3O c5P) ((I.bring 2).bring 1) ?_
     rintro _ _ _ df ac _ _ ⟨dg,dh,ax,ay,rfl,rfl,az,h⟩
     refine c5 W9 (c6 (l1 Tryz.isAgg23 (ac.bring 2) rfl) ?_)
     refine f0 Tryz.call94 (h g0 ax ay az) ((ac.bring 1).bring 1) ?_
     rintro _ ba _ di bb _ _ ⟨dj,bc,bd,be,rfl,rfl,bf,h⟩
     exact hx2 _ _ (hj2 bc bd be ba _ bf (((bb.bring 2).drop.bring 1).bring 1) h)
    refine o6 fun j5 hx5=>?_
    refine c5 N3 (c6 (l1 Tryz.isAgg57 (I.bring 1) rfl) (c5 (P7 _ _ _) ?_))
    obtain ⟨u,i,bg,bh⟩:=h
    refine L5 (J:=fun n l w=>∃(s:Int×(List g9))(H:Hp)(b1O:Sl)(b1P:Frag),n=i s∧l=(match s with | (a6n,a4h)=>[(vi a6n)])∧(match s with | (a6n,a4h)=>RowL 158 2 B3 b1O a4h b1P)∧(match s with | (a6n,a4h)=>Inv w0 ps0 H0 H [bx g0 155 [(vs b1O)],bx f 60 (g7 d),b1P] w)∧u s H) ⟨_,(0,a9O),H,b3L,b3M,rfl,rfl,c5O,(((I.bring 2).bring 2).bring 2),bg⟩ ?_
    rintro dk dl w next6 ⟨⟨a6n,a4h⟩,H,b1O,b1P,rfl,v,b5J,I,bi⟩ hn6
    dsimp only at v I b5J
    simp only [List.map_cons,List.map_nil,List.cons.injEq,and_true] at v
    have e60:=v
    simp only [e60]
    obtain ⟨n6,hm6,h⟩:∃n6:(Int×(List g9))→Hp→Prop,(∀s' H',n6 s' H'→u s' H'∧i s' < i (a6n,a4h))∧a0t x1 (x1.n:Int) a0x d.l7 (d.l7.n:Int) d a6n a4h H n1 n6 K:=⟨_,fun _ _ h=>h,bh (a6n,a4h) H (fun s' H'=>u s' H'∧i s' < i (a6n,a4h)) bi (fun _ _ a b=>⟨a,b⟩)⟩
    unfold c4F
    unfold a0t at h
    refine c5 pLs ?_
    refine d9 h (fun _ h=>?_) (fun _ h=>?_)
    ·obtain ⟨bj,bk,ad,y,h⟩:=h
     obtain ⟨dm,dn,bl,y⟩:=y
     refine c5 (A0 bl _ _ _ _ bj bk) (c6 (ldA (vs:=(d7 ad)) Tryz.isAgg123 Tryz.sizeOf123 rfl (I.atH y)) ?_)
     refine u4 I Tryz.zeroValue123 (cs:=[(vi 0),(vi 0),(eS),(nS)]) rfl fun dp dq bm dr=>?_
     refine y6 bm Tryz.sizeOf123 (vs:=(d7 ad)) fun ds ae dt=>?_
     refine c6 (lW Tryz.isAgg123 Tryz.sizeOf123 rfl ae) ?_
     refine f0 Tryz.call109 (h g0 b1O b1P b5J) ((ae.bring 3).bring 2) ?_
     rintro _ bn _ du bo _ _ ⟨dv,bp,bq,br,rfl,rfl,bs,h⟩
     refine c5 pAd ?_
     exact hn6 _ _ _ (hm6 _ _ h).2 ⟨((IntKind.wrap .i64 (a6n+1)),bp),bn,bq,br,rfl,rfl,bs,((((bo.bring 2).drop.bring 1).bring 2).bring 2),(hm6 _ _ h).1⟩
    ·exact hx5 _ _ (hj5 a4h b1O b1P H _ b5J (((I.bring 2).bring 2).bring 2) h)
   refine o6 fun j4 hx4=>?_
   refine c5 O2 (c6 (l1 Tryz.isAgg58 (I.bring 1) rfl) (c5 (a0B _ _ _) ?_))
   obtain ⟨z,j,bt,bu⟩:=h
   refine L5 (J:=fun n l w=>∃(s:Int×(List g9))(H:Hp)(b1Q:Sl)(b1R:Frag),n=j s∧l=(match s with | (a6o,a4i)=>[(vi a6o)])∧(match s with | (a6o,a4i)=>RowL 158 2 B3 b1Q a4i b1R)∧(match s with | (a6o,a4i)=>Inv w0 ps0 H0 H [bx g0 155 [(vs b1Q)],bx f 60 (g7 d),b1R] w)∧z s H) ⟨_,(0,a9P),H,b3J,b3K,rfl,rfl,c5N,(((I.bring 2).bring 2).bring 2),bt⟩ ?_
   rintro dw dx w next7 ⟨⟨a6o,a4i⟩,H,b1Q,b1R,rfl,aa,b5K,I,bv⟩ hn7
   dsimp only at aa I b5K
   simp only [List.map_cons,List.map_nil,List.cons.injEq,and_true] at aa
   have e49:=aa
   simp only [e49]
   obtain ⟨n7,hm7,h⟩:∃n7:(Int×(List g9))→Hp→Prop,(∀s' H',n7 s' H'→z s' H'∧j s' < j (a6o,a4i))∧a0v x1 (x1.n:Int) a0x d.r9 (d.r9.n:Int) d a6o a4i H n1 n7 K:=⟨_,fun _ _ h=>h,bu (a6o,a4i) H (fun s' H'=>z s' H'∧j s' < j (a6o,a4i)) bv (fun _ _ a b=>⟨a,b⟩)⟩
   unfold c4G
   unfold a0v at h
   refine c5 pLs ?_
   refine d9 h (fun _ h=>?_) (fun _ h=>?_)
   ·obtain ⟨bw,bz,af,ab,h⟩:=h
    obtain ⟨dy,dz,ca,ab⟩:=ab
    refine c5 (L0 ca _ _ _ _ bw bz) (c6 (ldA (vs:=(f7 af)) Tryz.isAgg131 Tryz.sizeOf131 rfl (I.atH ab)) ?_)
    refine u4 I Tryz.zeroValue131 (cs:=[(vi 0),(vi 0),(nS),(nS)]) rfl fun ea eb cb ec=>?_
    refine y6 cb Tryz.sizeOf131 (vs:=(f7 af)) fun ed ag ee=>?_
    refine c6 (lW Tryz.isAgg131 Tryz.sizeOf131 rfl ag) ?_
    refine f0 Tryz.call108 (h g0 b1Q b1R b5K) ((ag.bring 3).bring 2) ?_
    rintro _ cc _ ef cd _ _ ⟨eg,ce,cf,cg,rfl,rfl,ch,h⟩
    refine c5 pAd ?_
    exact hn7 _ _ _ (hm7 _ _ h).2 ⟨((IntKind.wrap .i64 (a6o+1)),ce),cc,cf,cg,rfl,rfl,ch,((((cd.bring 2).drop.bring 1).bring 2).bring 2),(hm7 _ _ h).1⟩
   ·exact hx4 _ _ (hj4 a4i b1Q b1R H _ b5K (((I.bring 2).bring 2).bring 2) h)
  refine o6 fun j3 hx3=>?_
  refine c5 T7 (c6 (l1 Tryz.isAgg3 k rfl) (c5 pEq ?_))
  refine d9 h (fun _ h=>?_) (fun _ h=>?_)
  ·refine Q9 k fun eh m=>?_
   refine g8 (m2 _) ?_
   refine g8 a3r ?_
   refine g8 a0E ?_
   refine p6 (l1 Tryz.isAgg153 (m.bring 1) rfl) ?_
   refine p6 (l1 Tryz.isAgg9 m rfl) ?_
   refine g8 (a7G _ _) ?_
   refine a3v (e:=158) (c:=B3) (xs:=[(g9.mk d.f6 1)]) m (b3s _ _) rfl rfl a6R a6S (nb rfl) fun ei ej ek ci ah cj=>?_
   refine ⟨(cj _ (m.bring 1).lt1),?_⟩
   obtain ⟨ck,h⟩:=h
   refine b4M (s:=a8x) (xs:=S9) (ah.bring 3) b1N (ci.srcO ((ah.bring 3).bring 1)) ck fun ai cl el cm cn em=>?_
   refine g8 (m2 _) ?_
   refine g8 a3r ?_
   refine y6 ((cn.bring 1).drop.bring 2) Tryz.sizeOf153 (vs:=[(vs ai)]) fun en co eo=>?_
   exact hx3 _ _ (hj3 (S9++[(g9.mk d.f6 1)]) ai cl H _ cm (((co.bring 1).bring 2).bring 2) h)
  ·refine c5 pEq ?_
   refine d9 h (fun _ h=>?_) (fun _ h=>?_)
   ·refine Q9 k fun ep o=>?_
    refine g8 (m2 _) ?_
    refine g8 a3r ?_
    refine g8 a0E ?_
    refine p6 (l1 Tryz.isAgg153 (o.bring 1) rfl) ?_
    refine p6 (l1 Tryz.isAgg9 o rfl) ?_
    refine g8 (a7G _ _) ?_
    refine a3v (e:=158) (c:=B3) (xs:=[(g9.mk d.f6 2)]) o (b3s _ _) rfl rfl a6R a6S (nb rfl) fun eq er es cp aj cq=>?_
    refine ⟨(cq _ (o.bring 1).lt1),?_⟩
    obtain ⟨cr,h⟩:=h
    refine b4M (s:=a8x) (xs:=S9) (aj.bring 3) b1N (cp.srcO ((aj.bring 3).bring 1)) cr fun ak ct et cu cv eu=>?_
    refine g8 (m2 _) ?_
    refine g8 a3r ?_
    refine y6 ((cv.bring 1).drop.bring 2) Tryz.sizeOf153 (vs:=[(vs ak)]) fun ev cw ew=>?_
    exact hx3 _ _ (hj3 (S9++[(g9.mk d.f6 2)]) ak ct H _ cu (((cw.bring 1).bring 2).bring 2) h)
   ·exact hx3 _ _ (hj3 S9 a8x b1M H _ b1N (((k.bring 2).bring 1).bring 2) h)
 ·exact hR _ H _ _ ((I.bring 1).bring 1) ⟨(m9.mk (Sl.mk none 0 0)),S9,a8x,b1M,rfl,rfl,b1N,h⟩
def a5B(x0:P2)(H:Hp)(K:Sl→Hp→Prop):Prop:=
 B2 x0.y7.u1 H (fun a b=>
 K a b)
theorem b1S(x0){H K}(h:a5B x0 H K):a7s x0 H K:=by
 refine Ct.of fun w0 w ps0 H0 R E I hR=>c8k ?_
 unfold a5B at h
 unfold d1s
 refine A9 I (cs:=(d7 x0.y7)) rfl fun e f a g=>?_
 refine c5 a1X (c5 C3 (c6 (l1 Tryz.isAgg57 a rfl) ?_))
 refine f0 Tryz.call161 h a ?_
 rintro _ b _ i c _ _ ⟨d,rfl,rfl,h⟩
 exact hR _ b _ _ c.drop ⟨d,rfl,rfl,h⟩
end Go.Proofs.YtaokfhdinhimfaaGreatDoor
