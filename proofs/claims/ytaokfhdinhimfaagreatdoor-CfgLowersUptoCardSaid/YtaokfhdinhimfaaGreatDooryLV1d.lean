/- Typed formulas of the program's functions, and the theorems that the contracts follow from them; printed by lift.py off the code. -/
import Derived.Test.YtaokfhdinhimfaaGreatDooryLV1
namespace Go.Proofs.YtaokfhdinhimfaaGreatDoor
open Go.RowKit
set_option maxRecDepth 100000
set_option maxHeartbeats 2000000
def a5O(x0:Int)(H:Hp)(K:Int→Hp→Prop):Prop:=
 (x0=1→
 K 6 H)∧
 (¬(x0=1)→
 (x0=2→
 K 5 H)∧
 (¬(x0=2)→
 (x0=3→
 K 4 H)∧
 (¬(x0=3)→
 (x0=4→
 K 3 H)∧
 (¬(x0=4)→
 (x0=5→
 K 2 H)∧
 (¬(x0=5)→
 (x0=6→
 K 1 H)∧
 (¬(x0=6)→
 K 0 H))))))
theorem b2h(x0){H K}(h:a5O x0 H K):a5G x0 H K:=by
 refine Ct.of fun w0 w ps0 H0 R E I hR=>c9I ?_
 unfold a5O at h
 unfold F52
 refine c5 pEq ?_
 refine d9 h (fun _ h=>?_) (fun _ h=>?_)
 ·exact hR _ H _ _ I ⟨6,rfl,rfl,h⟩
 ·refine c5 pEq ?_
  refine d9 h (fun _ h=>?_) (fun _ h=>?_)
  ·exact hR _ H _ _ I ⟨5,rfl,rfl,h⟩
  ·refine c5 pEq ?_
   refine d9 h (fun _ h=>?_) (fun _ h=>?_)
   ·exact hR _ H _ _ I ⟨4,rfl,rfl,h⟩
   ·refine c5 pEq ?_
    refine d9 h (fun _ h=>?_) (fun _ h=>?_)
    ·exact hR _ H _ _ I ⟨3,rfl,rfl,h⟩
    ·refine c5 pEq ?_
     refine d9 h (fun _ h=>?_) (fun _ h=>?_)
     ·exact hR _ H _ _ I ⟨2,rfl,rfl,h⟩
     ·refine c5 pEq ?_
      refine d9 h (fun _ h=>?_) (fun _ h=>?_)
      ·exact hR _ H _ _ I ⟨1,rfl,rfl,h⟩
      ·exact hR _ H _ _ I ⟨0,rfl,rfl,h⟩
def a9b(H:Hp)(K:m4→Hp→Prop):Prop:=
 K (m4.mk (-1) 0) H
theorem b3P{H K}(h:a9b H K):a2h H K:=by
 refine Ct.of fun w0 w ps0 H0 R E I hR=>c9J ?_
 unfold a9b at h
 unfold F58
 refine u4 I Tryz.zeroValue38 (cs:=[(vi 0),(vi 0)]) rfl fun c d b e=>?_
 refine c5 (a4X _) ?_
 refine y6 b Tryz.sizeOf38 (vs:=[(vi (-1)),(vi 0)]) fun f a g=>?_
 refine Q0 Tryz.isAgg38 Tryz.sizeOf38 rfl a ?_
 exact hR _ H _ _ a.drop ⟨(m4.mk (-1) 0),rfl,rfl,h⟩
def a0R(H:Hp)(K:Bool→Hp→Prop):Prop:=
 K true H
def a3m(a2q:Sl)(a1j:Sl)(q8:Int)(H:Hp)(n2:Int→Hp→Prop)(K:Bool→Hp→Prop):Prop:=
 (q8 < (a2q.n:Int)→
 (0:Int)≤q8∧(q8:Int) < a2q.n∧∃a:ByteArray,EltH H a2q q8 1 [(Value.string a)]∧
 (0:Int)≤q8∧(q8:Int) < a1j.n∧∃b:ByteArray,EltH H a1j q8 1 [(Value.string b)]∧
 (¬(a=b)→
 K false H)∧
 (a=b→
 n2 (IntKind.wrap .i64 (q8+1)) H))∧
 (¬(q8 < (a2q.n:Int))→
 a0R H K)
def a4T(x0:Sl)(x1:Sl)(H:Hp)(K:Bool→Hp→Prop):Prop:=
 (¬((x0.n:Int)=(x1.n:Int))→
 K false H)∧
 ((x0.n:Int)=(x1.n:Int)→
 TL (0:Int) H fun(s:Int) H n2=>a3m x0 x1 s H n2 K)
theorem b1a(x0 x1){H K}(h:a4T x0 x1 H K):a4q x0 x1 H K:=by
 refine Ct.of fun w0 w ps0 H0 R E I hR=>c9z ?_
 unfold a4T at h
 unfold F31
 refine c5 (a4Z _ _ _) (c5 (a4Z _ _ _) (c5 pNe ?_))
 refine a3P h (fun _ h=>?_) (fun _ h=>?_)
 ·exact hR _ H _ _ I ⟨false,rfl,rfl,h⟩
 ·have hj1:∀H w (_:Inv w0 ps0 H0 H [] w) (_:a0R H K),b9C w R E:=by
   intro H w I h
   unfold b9C
   intro _
   unfold a0R at h
   exact hR _ H _ _ I ⟨true,rfl,rfl,h⟩
  refine o6 fun j1 hx1=>?_
  refine C9 (σ:=Int) (fun q8=>[(vi q8)]) (fun q8=>[]) h rfl I ?_
  rintro q8 H n w next2 n2 d I h hn2
  simp only [List.map_cons,List.map_nil,List.cons.injEq,and_true] at d
  have e5:=d
  simp only [e5]
  unfold c4h
  unfold a3m at h
  refine c5 (a4Z _ _ _) (c5 pLs ?_)
  refine d9 h (fun _ h=>?_) (fun _ h=>?_)
  ·refine Q9 I fun o a=>?_
   obtain ⟨e,f,g,b,h⟩:=h
   obtain ⟨p,q,i,b⟩:=b
   refine g8 (b1n i _ _ _ _ e f) ?_
   obtain ⟨j,k,l,c,h⟩:=h
   obtain ⟨r,s,m,c⟩:=c
   refine g8 (b1n m _ _ _ _ j k) ?_
   refine p6 (ld1 (v:=(Value.string g)) Tryz.isAgg9 (a.atH b)) ?_
   refine p6 (ld1 (v:=(Value.string l)) Tryz.isAgg9 (a.atH c)) ?_
   refine g8 (c3G _ _ _ _ _) ?_
   refine a3P h (fun _ h=>?_) (fun _ h=>?_)
   ·exact hR _ H _ _ a ⟨false,rfl,rfl,h⟩
   ·refine c5 pAd ?_
    exact hn2 (IntKind.wrap .i64 (q8+1)) _ _ h a
  ·exact hx1 _ _ (hj1 H _ I h)
def a5C(x0:f8)(x1:Int)(H:Hp)(K:Int→Hp→Prop):Prop:=
 ∃a:f8,((!((decide (x0.c8=1))||(decide (x0.c8=2)))&&(decide (x0.c8=5)))=true→(0:Int)≤0∧(0:Int) < x0.u1.n∧EltH H x0.u1 0 4 (d7 a))∧
 ((((decide (x0.c8=1))||(decide (x0.c8=2)))||((decide (x0.c8=5))&&(decide (a.c8=1))))=true→
 K x1 H)∧
 ((((decide (x0.c8=1))||(decide (x0.c8=2)))||((decide (x0.c8=5))&&(decide (a.c8=1))))=false→
 K (IntKind.wrap .i64 (x1+1)) H)
theorem b1T(x0 x1){H K}(h:a5C x0 x1 H K):C5 x0 x1 H K:=by
 refine Ct.of fun w0 w ps0 H0 R E I hR=>d0i ?_
 unfold a5C at h
 unfold F84
 refine A9 I (cs:=(d7 x0)) rfl fun i j d l=>?_
 refine c5 C2 (c6 (l1 Tryz.isAgg3 d rfl) (c5 pEq ?_))
 refine c5 (Pu.g fun a=>by with_reducible exact C2) ?_
 refine c6 (Ld.g fun a=>by simp only [i4 a];exact (l1 Tryz.isAgg3 d rfl)) ?_
 refine c5 (Pu.g fun a=>by simp only [i4 a];with_reducible exact pEq) ?_
 refine c5 (L8 _ _) ?_
 refine c5 (Pu.g fun a=>by with_reducible exact C2) ?_
 refine c6 (Ld.g fun a=>by simp only [i4 a];exact (l1 Tryz.isAgg3 d rfl)) ?_
 refine c5 (Pu.g fun a=>by simp only [i4 a];with_reducible exact pEq) ?_
 simp only [z7,a7g]
 refine c5 (Pu.e (a1d _ _ _) (Pu.g fun hb=>by obtain ⟨a,b⟩:=a4o hb;with_reducible exact C3)) ?_
 refine c6 (Ld.e (a1d _ _ _) (Ld.g fun hb=>by obtain ⟨a,b⟩:=a4o hb;simp only [i4 hb];exact (l1 Tryz.isAgg57 d rfl))) ?_
 obtain ⟨f,c,h⟩:=h
 obtain ⟨m,o,c⟩:=b4K c
 refine c5 (Pu.e (a1d _ _ _) (Pu.g fun hb=>by obtain ⟨a,b⟩:=a4o hb;simp only [i4 hb];with_reducible exact (A0 (c hb).2.2.1 _ _ _ _ (c hb).1 (c hb).2.1))) ?_
 refine c5 (Pu.e (a1d _ _ _) (Pu.g fun hb=>by obtain ⟨a,b⟩:=a4o hb;simp only [i4 hb];with_reducible exact C2)) ?_
 refine c6 (Ld.e (a1d _ _ _) (Ld.g fun hb=>by obtain ⟨a,b⟩:=a4o hb;simp only [i4 hb];exact (ld1 (v:=(vi f.c8)) Tryz.isAgg3 ((d.atH (c hb).2.2.2).sub (k:=0) (n:=1) (nb rfl))))) ?_
 refine c5 (Pu.e (a1d _ _ _) (Pu.g fun hb=>by obtain ⟨a,b⟩:=a4o hb;simp only [i4 hb];with_reducible exact pEq)) ?_
 refine c5 (Pu.g fun a=>by simp only [i4 a,a9Y a];with_reducible exact (y9 _ _)) ?_
 refine c5 (L8 _ _) ?_
 refine m8 h (fun _ h=>?_) (fun _ h=>?_)
 ·exact hR _ H _ _ d.drop ⟨x1,rfl,rfl,h⟩
 ·refine c5 pAd ?_
  exact hR _ H _ _ d.drop ⟨(IntKind.wrap .i64 (x1+1)),rfl,rfl,h⟩
def a2s(x0:f8)(x1:Int)(H:Hp)(K:Int→Hp→Prop):Prop:=
 C5 x0 x1 H (fun a b=>
 (a=x1→
 K 0 b)∧
 (¬(a=x1)→
 a0i x0 x1 b (fun c d=>
 K (if c > (IntKind.wrap .i64 (x1+1)) then c else IntKind.wrap .i64 (x1+1)) d)))
theorem a9c(x0 x1){H K}(h:a2s x0 x1 H K):A6 x0 x1 H K:=by
 refine Ct.of fun w0 w ps0 H0 R E I hR=>d0n ?_
 unfold a2s at h
 unfold F89
 refine A9 I (cs:=(d7 x0)) rfl fun g i b j=>?_
 refine c6 (lW Tryz.isAgg123 Tryz.sizeOf123 rfl b) ?_
 refine f0 Tryz.call84 h b ?_
 rintro _ d _ k a _ _ ⟨l,rfl,rfl,h⟩
 refine c5 pEq ?_
 refine d9 h (fun _ h=>?_) (fun _ h=>?_)
 ·exact hR _ d _ _ a.drop ⟨0,rfl,rfl,h⟩
 ·refine c5 pAd (c6 (lW Tryz.isAgg123 Tryz.sizeOf123 rfl a) ?_)
  refine f0 Tryz.call88 h a ?_
  rintro _ e _ m f _ _ ⟨c,rfl,rfl,h⟩
  refine c5 (a8e _ _ _ _ _) ?_
  exact hR _ e _ _ f.drop ⟨(if c > (IntKind.wrap .i64 (x1+1)) then c else IntKind.wrap .i64 (x1+1)),rfl,rfl,h⟩
def a2P(x0:d3)(x1:ByteArray)(x2:Bool)(H:Hp)(K:d3→Hp→Prop):Prop:=
 ((!x2)=true→
 K (d3.mk (x0.fok&&(decide (x1=⟨#[]⟩))) x0.fnames) H)∧
 ((!x2)=false→
 TG (x0.fnames=true) (a2j x1 H) false H (fun(a:Bool)(b:Hp)=>
 K (d3.mk x0.fok (x0.fnames&&a)) b))
theorem a9s(x0 x1 x2){H K}(h:a2P x0 x1 x2 H K):T2 x0 x1 x2 H K:=by
 intro g0
 refine Ct.of fun w0 w ps0 H0 R E I hR=>c9X ?_
 unfold a2P at h
 unfold F73
 refine c5 (T1 _) ?_
 refine m8 h (fun _ h=>?_) (fun _ h=>?_)
 ·refine c5 (m2 _) (c5 J8 (c6 (l1 Tryz.isAgg4 I rfl) ?_))
  simp only [z7]
  refine c5 (Pu.g fun a=>by simp only [i4 a];with_reducible exact (P4 _ _ _ _ _)) ?_
  refine c5 (y9 _ _) (c5 (m2 _) (c5 J8 ?_))
  refine C4 I Tryz.sizeOf4 fun m j n=>?_
  exact hR _ H _ _ j ⟨(d3.mk (x0.fok&&(decide (x1=⟨#[]⟩))) x0.fnames),rfl,rfl,h⟩
 ·refine c5 (m2 _) (c5 b2u (c6 (l1 Tryz.isAgg4 I rfl) ?_))
  simp only [z7]
  refine a6N [] (fun b:Bool=>(vB b)) h I (fun e h=>?_) fun b c k d f i h=>?_
  ·have a:=e
   simp only [i4 a]
   refine f0 Tryz.call102 h I ?_
   rintro _ c _ k d i f ⟨b,rfl,rfl,h⟩
   exact ⟨b,c,rfl,d,f,i,h⟩
  refine c5 (y9 _ _) (c5 (m2 _) (c5 b2u ?_))
  refine C4 d Tryz.sizeOf4 fun o l p=>?_
  exact hR _ c _ _ l ⟨(d3.mk x0.fok (x0.fnames&&b)),rfl,rfl,h⟩
def a1D(a:f8)(q8:Int)(a4z:d3)(H:Hp)(n2:(Int×d3)→Hp→Prop)(K:d3→Hp→Prop):Prop:=
 (((decide (q8 < (a.u1.n:Int)))&&a4z.fok)=true→
 (0:Int)≤q8∧(q8:Int) < a.u1.n∧∃b:f8,EltH H a.u1 q8 4 (d7 b)∧
 T3 a4z b H (fun c d=>
 n2 ((IntKind.wrap .i64 (q8+1)),c) d))∧
 (((decide (q8 < (a.u1.n:Int)))&&a4z.fok)=false→
 K a4z H)
def E5(u7:Int)(a:f8)(V6:d3)(H:Hp)(K:d3→Hp→Prop):Prop:=
 T2 V6 a.f6 ((decide (a.c8=2))||(decide (a.c8=4))) H (fun b c=>
 TL ((0,(d3.mk ((b.fok&&(decide ((a.u1.n:Int)=u7)))&&((decide (a.s7=0))||((decide (a.c8=1))&&(decide (0 < a.s7))))) b.fnames)):Int×d3) c fun(s:Int×d3) H n2=>a1D a s.1 s.2 H n2 K)
def C0(d4e:Int)(b5a:Bool)(a:f8)(c6P:d3)(H:Hp)(K:d3→Hp→Prop):Prop:=
 (b5a=true→
 E5 2 a c6P H K)∧
 (b5a=false→
 E5 d4e a (d3.mk false c6P.fnames) H K)
def M7(b5I:Int)(a9Q:Int)(b5b:Bool)(a:f8)(a8q:d3)(H:Hp)(K:d3→Hp→Prop):Prop:=
 (b5b=true→
 E5 1 a a8q H K)∧
 (b5b=false→
 (a9Q=6→
 C0 b5I (decide (a9Q=6)) a a8q H K)∧
 (¬(a9Q=6)→
 (a9Q=7→
 C0 b5I (decide (a9Q=7)) a a8q H K)∧
 (¬(a9Q=7)→
 (a9Q=8→
 C0 b5I (decide (a9Q=8)) a a8q H K)∧
 (¬(a9Q=8)→
 (a9Q=9→
 C0 b5I (decide (a9Q=9)) a a8q H K)∧
 (¬(a9Q=9)→
 C0 b5I (decide (a9Q=10)) a a8q H K)))))
def J6(b3D:Int)(b7N:Int)(b2q:Bool)(a:f8)(a3t:d3)(H:Hp)(K:d3→Hp→Prop):Prop:=
 (b2q=true→
 E5 b3D a a3t H K)∧
 (b2q=false→
 (b7N=4→
 M7 b3D b7N (decide (b7N=4)) a a3t H K)∧
 (¬(b7N=4)→
 M7 b3D b7N (decide (b7N=5)) a a3t H K))
def a2Q(x0:d3)(x1:f8)(H:Hp)(K:d3→Hp→Prop):Prop:=
 (x1.c8=1→
 J6 0 x1.c8 (decide (x1.c8=1)) x1 x0 H K)∧
 (¬(x1.c8=1)→
 (x1.c8=2→
 J6 0 x1.c8 (decide (x1.c8=2)) x1 x0 H K)∧
 (¬(x1.c8=2)→
 J6 0 x1.c8 (decide (x1.c8=3)) x1 x0 H K))
theorem a9t(x0 x1){H K}(h:a2Q x0 x1 H K):T3 x0 x1 H K:=by
 intro g0
 refine Ct.of fun w0 w ps0 H0 R E I hR=>c7u ?_
 unfold a2Q at h
 unfold d0C
 refine A9 I (cs:=(d7 x1)) rfl fun i u j v=>?_
 have hj1:∀(u7:Int)(V6:d3) H w (_:Inv w0 ps0 H0 H [bx i 123 (d7 x1),bx g0 136 (o5 V6)] w) (_:E5 u7 x1 V6 H K),b6V (Value.pointer (some ⟨g0,0,none⟩)) (Value.pointer (some ⟨i,0,none⟩)) (vi u7) w R E:=by
  intro u7 V6 H w I h
  unfold b6V
  intro _
  unfold E5 at h
  refine c5 a1V (c6 (l1 Tryz.isAgg9 I rfl) (c5 C2 (c6 (l1 Tryz.isAgg3 I rfl) (c5 pEq ?_))))
  refine c5 (Pu.g fun a=>by with_reducible exact C2) ?_
  refine c6 (Ld.g fun a=>by simp only [i4 a];exact (l1 Tryz.isAgg3 I rfl)) ?_
  refine c5 (Pu.g fun a=>by simp only [i4 a];with_reducible exact pEq) ?_
  refine c5 (L8 _ _) ?_
  refine f0 Tryz.call73 (h g0) (I.bring 1) ?_
  rintro _ y _ z f _ _ ⟨aa,rfl,rfl,h⟩
  refine c5 (m2 _) (c5 J8 (c6 (l1 Tryz.isAgg4 f rfl) ?_))
  refine c5 (Pu.g fun a=>by with_reducible exact C3) ?_
  refine c6 (Ld.g fun a=>by simp only [i4 a];exact (l1 Tryz.isAgg57 (f.bring 1) rfl)) ?_
  refine c5 (Pu.g fun a=>by simp only [i4 a];with_reducible exact (P7 _ _ _)) ?_
  simp only [z7]
  refine c5 (Pu.g fun a=>by simp only [i4 a];with_reducible exact pEq) ?_
  refine c5 (y9 _ _) ?_
  refine c5 (Pu.g fun a=>by with_reducible exact a4Y) ?_
  refine c6 (Ld.g fun a=>by simp only [i4 a];exact (l1 Tryz.isAgg2 (f.bring 1) rfl)) ?_
  refine c5 (Pu.g fun a=>by simp only [i4 a];with_reducible exact pEq) ?_
  simp only [z7,a7g,c3H]
  refine c5 (Pu.e (a3K _ _ _) (Pu.g fun hb=>by obtain ⟨a,b⟩:=a5U hb;with_reducible exact C2)) ?_
  refine c6 (Ld.e (a3K _ _ _) (Ld.g fun hb=>by obtain ⟨a,b⟩:=a5U hb;simp only [i4 hb];exact (l1 Tryz.isAgg3 (f.bring 1) rfl))) ?_
  refine c5 (Pu.e (a3K _ _ _) (Pu.g fun hb=>by obtain ⟨a,b⟩:=a5U hb;simp only [i4 hb];with_reducible exact pEq)) ?_
  simp only [a7g]
  refine c5 (Pu.e (b6E _ _ _) (Pu.g fun hb=>by obtain ⟨d,c⟩:=c2u hb;obtain ⟨a,b⟩:=a5U d;with_reducible exact a4Y)) ?_
  refine c6 (Ld.e (b6E _ _ _) (Ld.g fun hb=>by obtain ⟨d,c⟩:=c2u hb;obtain ⟨a,b⟩:=a5U d;simp only [i4 hb];exact (l1 Tryz.isAgg2 (f.bring 1) rfl))) ?_
  refine c5 (Pu.e (b6E _ _ _) (Pu.g fun hb=>by obtain ⟨d,c⟩:=c2u hb;obtain ⟨a,b⟩:=a5U d;simp only [i4 hb];with_reducible exact pGt)) ?_
  refine c5 (Pu.e (a3K _ _ _) (Pu.g fun hb=>by obtain ⟨a,b⟩:=a5U hb;simp only [i4 hb,c9g hb];with_reducible exact (y9 _ _))) ?_
  refine c5 (Pu.g fun a=>by simp only [i4 a,b4k a];with_reducible exact (L8 _ _)) ?_
  refine c5 (y9 _ _) (c5 (m2 _) (c5 J8 ?_))
  refine C4 f Tryz.sizeOf4 fun ab m ac=>?_
  refine C9 (σ:=Int×d3) (fun (q8,a4z)=>[(vi q8)]) (fun (q8,a4z)=>[bx g0 136 (o5 a4z),bx i 123 (d7 x1)]) h rfl ((m.bring 1).bring 1) ?_
  rintro ⟨q8,a4z⟩ H ad w next2 n2 k I h hn2
  dsimp only at k I h
  simp only [List.map_cons,List.map_nil,List.cons.injEq,and_true] at k
  have e5:=k
  simp only [e5]
  unfold c1A
  unfold a1D at h
  refine c5 C3 (c6 (l1 Tryz.isAgg57 (I.bring 1) rfl) (c5 (P7 _ _ _) (c5 pLs ?_)))
  simp only [z7]
  refine c5 (Pu.g fun a=>by simp only [i4 a];with_reducible exact (m2 _)) ?_
  refine c5 (Pu.g fun a=>by simp only [i4 a];with_reducible exact J8) ?_
  refine c6 (Ld.g fun a=>by simp only [i4 a];exact (l1 Tryz.isAgg4 I rfl)) ?_
  refine c5 (y9 _ _) ?_
  refine m8 h (fun _ h=>?_) (fun _ h=>?_)
  ·refine c5 C3 (c6 (l1 Tryz.isAgg57 (I.bring 1) rfl) ?_)
   obtain ⟨n,o,p,l,h⟩:=h
   obtain ⟨ae,af,q,l⟩:=l
   refine c5 (A0 q _ _ _ _ n o) (c6 (ldA (vs:=(d7 p)) Tryz.isAgg123 Tryz.sizeOf123 rfl (I.atH l)) ?_)
   refine f0 Tryz.call104 (h g0) I ?_
   rintro _ _ _ ag r _ _ ⟨s,rfl,rfl,h⟩
   refine c5 pAd ?_
   exact hn2 ((IntKind.wrap .i64 (q8+1)),s) _ _ h ((r.bring 1).bring 1)
  ·exact hR _ H _ _ (I.bring 1).drop ⟨a4z,rfl,rfl,h⟩
 refine o6 fun j1 hx1=>?_
 refine c5 C2 (c6 (l1 Tryz.isAgg3 j rfl) ?_)
 have hj3:∀(b2q:Bool) H w (_:Inv w0 ps0 H0 H [bx i 123 (d7 x1),bx g0 136 (o5 x0)] w) (_:J6 0 x1.c8 b2q x1 x0 H K),b6Y (Value.pointer (some ⟨g0,0,none⟩)) (Value.pointer (some ⟨i,0,none⟩)) (vi 0) (vi x1.c8) (vB b2q) w j1 R E:=by
  intro b2q H w I h
  unfold b6Y
  intro _
  unfold J6 at h
  refine m8 h (fun _ h=>?_) (fun _ h=>?_)
  ·exact hx1 _ _ (hj1 0 x0 H _ ((I.bring 1).bring 1) h)
  ·have hj4:∀(b5b:Bool) H w (_:Inv w0 ps0 H0 H [bx i 123 (d7 x1),bx g0 136 (o5 x0)] w) (_:M7 0 x1.c8 b5b x1 x0 H K),b6X (Value.pointer (some ⟨g0,0,none⟩)) (Value.pointer (some ⟨i,0,none⟩)) (vi 0) (vi x1.c8) (vB b5b) w j1 R E:=by
    intro b5b H w I h
    unfold b6X
    intro _
    unfold M7 at h
    refine m8 h (fun _ h=>?_) (fun _ h=>?_)
    ·exact hx1 _ _ (hj1 1 x0 H _ ((I.bring 1).bring 1) h)
    ·have hj5:∀(b5a:Bool) H w (_:Inv w0 ps0 H0 H [bx i 123 (d7 x1),bx g0 136 (o5 x0)] w) (_:C0 0 b5a x1 x0 H K),b6W (Value.pointer (some ⟨g0,0,none⟩)) (Value.pointer (some ⟨i,0,none⟩)) (vi 0) (vB b5a) w j1 R E:=by
      intro b5a H w I h
      unfold b6W
      intro _
      unfold C0 at h
      refine m8 h (fun _ h=>?_) (fun _ h=>?_)
      ·exact hx1 _ _ (hj1 2 x0 H _ ((I.bring 1).bring 1) h)
      ·refine c5 (m2 _) (c5 J8 ?_)
       refine C4 (I.bring 1) Tryz.sizeOf4 fun ah t ai=>?_
       exact hx1 _ _ (hj1 0 (d3.mk false x0.fnames) H _ (t.bring 1) h)
     refine o6 fun j5 hx5=>?_
     refine c5 pEq ?_
     refine d9 h (fun _ h=>?_) (fun _ h=>?_)
     ·exact hx5 _ _ (hj5 (decide (x1.c8=6)) H _ ((I.bring 1).bring 1) h)
     ·refine c5 pEq ?_
      refine d9 h (fun _ h=>?_) (fun _ h=>?_)
      ·exact hx5 _ _ (hj5 (decide (x1.c8=7)) H _ ((I.bring 1).bring 1) h)
      ·refine c5 pEq ?_
       refine d9 h (fun _ h=>?_) (fun _ h=>?_)
       ·exact hx5 _ _ (hj5 (decide (x1.c8=8)) H _ ((I.bring 1).bring 1) h)
       ·refine c5 pEq ?_
        refine d9 h (fun _ h=>?_) (fun _ h=>?_)
        ·exact hx5 _ _ (hj5 (decide (x1.c8=9)) H _ ((I.bring 1).bring 1) h)
        ·refine c5 pEq ?_
         exact hx5 _ _ (hj5 (decide (x1.c8=10)) H _ ((I.bring 1).bring 1) h)
   refine o6 fun j4 hx4=>?_
   refine c5 pEq ?_
   refine d9 h (fun _ h=>?_) (fun _ h=>?_)
   ·exact hx4 _ _ (hj4 (decide (x1.c8=4)) H _ ((I.bring 1).bring 1) h)
   ·refine c5 pEq ?_
    exact hx4 _ _ (hj4 (decide (x1.c8=5)) H _ ((I.bring 1).bring 1) h)
 refine o6 fun j3 hx3=>?_
 refine c5 pEq ?_
 refine d9 h (fun _ h=>?_) (fun _ h=>?_)
 ·exact hx3 _ _ (hj3 (decide (x1.c8=1)) H _ ((j.bring 1).bring 1) h)
 ·refine c5 pEq ?_
  refine d9 h (fun _ h=>?_) (fun _ h=>?_)
  ·exact hx3 _ _ (hj3 (decide (x1.c8=2)) H _ ((j.bring 1).bring 1) h)
  ·refine c5 pEq ?_
   exact hx3 _ _ (hj3 (decide (x1.c8=3)) H _ ((j.bring 1).bring 1) h)
def a1E(a:i8)(b1U:Int)(a0g:d3)(H:Hp)(n5:(Int×d3)→Hp→Prop)(K:d3→Hp→Prop):Prop:=
 (((decide (b1U < (a.L2.n:Int)))&&a0g.fok)=true→
 (0:Int)≤b1U∧(b1U:Int) < a.L2.n∧∃b:i8,EltH H a.L2 b1U 6 (g7 b)∧
 T4 a0g b H (fun c d=>
 n5 ((IntKind.wrap .i64 (b1U+1)),c) d))∧
 (((decide (b1U < (a.L2.n:Int)))&&a0g.fok)=false→
 K a0g H)
def X8(a8q:d3)(a:i8)(H:Hp)(K:d3→Hp→Prop):Prop:=
 TL ((0,a8q):Int×d3) H fun(s:Int×d3) H n5=>a1E a s.1 s.2 H n5 K
def a1F(a:i8)(b1V:Int)(a4A:d3)(H:Hp)(n6:(Int×d3)→Hp→Prop)(K:d3→Hp→Prop):Prop:=
 (((decide (b1V < (a.K5.n:Int)))&&a4A.fok)=true→
 (0:Int)≤b1V∧(b1V:Int) < a.K5.n∧∃b:i8,EltH H a.K5 b1V 6 (g7 b)∧
 T4 a4A b H (fun c d=>
 n6 ((IntKind.wrap .i64 (b1V+1)),c) d))∧
 (((decide (b1V < (a.K5.n:Int)))&&a4A.fok)=false→
 X8 a4A a H K)
def X9(a3t:d3)(a:i8)(H:Hp)(K:d3→Hp→Prop):Prop:=
 TL ((0,a3t):Int×d3) H fun(s:Int×d3) H n6=>a1F a s.1 s.2 H n6 K
def a1G(a:i8)(b1W:Int)(a4B:d3)(H:Hp)(n7:(Int×d3)→Hp→Prop)(K:d3→Hp→Prop):Prop:=
 (((decide (b1W < (a.l7.n:Int)))&&a4B.fok)=true→
 (0:Int)≤b1W∧(b1W:Int) < a.l7.n∧∃b:f8,EltH H a.l7 b1W 4 (d7 b)∧
 T3 a4B b H (fun c d=>
 n7 ((IntKind.wrap .i64 (b1W+1)),c) d))∧
 (((decide (b1W < (a.l7.n:Int)))&&a4B.fok)=false→
 X9 a4B a H K)
def Y0(a7k:d3)(a:i8)(H:Hp)(K:d3→Hp→Prop):Prop:=
 TL ((0,a7k):Int×d3) H fun(s:Int×d3) H n7=>a1G a s.1 s.2 H n7 K
def a1H(a:i8)(b1X:Int)(b1b:d3)(H:Hp)(n8:(Int×d3)→Hp→Prop)(K:d3→Hp→Prop):Prop:=
 (((decide (b1X < (a.r9.n:Int)))&&b1b.fok)=true→
 (0:Int)≤b1X∧(b1X:Int) < a.r9.n∧∃b:j8,EltH H a.r9 b1X 4 (f7 b)∧
 a0k b1b b H (fun c d=>
 n8 ((IntKind.wrap .i64 (b1X+1)),c) d))∧
 (((decide (b1X < (a.r9.n:Int)))&&b1b.fok)=false→
 Y0 b1b a H K)
def C1(u7:Int)(a3B:Int)(a:i8)(V6:d3)(H:Hp)(K:d3→Hp→Prop):Prop:=
 T2 V6 a.f6 ((decide (a.c8=1))||(decide (a.c8=2))) H (fun b c=>
 TL ((0,(d3.mk ((((b.fok&&(decide ((a.l7.n:Int)=u7)))&&(decide ((a.r9.n:Int)=a3B)))&&(((decide ((a.K5.n:Int)=0))||(decide (a.c8=3)))||(decide (a.c8=4))))&&((decide ((a.L2.n:Int)=0))||(decide (a.c8=3)))) b.fnames)):Int×d3) c fun(s:Int×d3) H n8=>a1H a s.1 s.2 H n8 K)
def E6(c5Q:Int)(d1B:Int)(c6Q:Int)(b5c:Bool)(a:i8)(c3a:d3)(H:Hp)(K:d3→Hp→Prop):Prop:=
 (b5c=true→
 C1 c5Q 1 a c3a H K)∧
 (b5c=false→
 (c6Q=7→
 C1 c5Q d1B a c3a H K)∧
 (¬(c6Q=7)→
 C1 c5Q d1B a (d3.mk false c3a.fnames) H K))
def a2R(x0:d3)(x1:i8)(H:Hp)(K:d3→Hp→Prop):Prop:=
 (x1.c8=1→
 C1 1 0 x1 x0 H K)∧
 (¬(x1.c8=1)→
 (x1.c8=2→
 C1 2 0 x1 x0 H K)∧
 (¬(x1.c8=2)→
 (x1.c8=3→
 E6 0 0 x1.c8 (decide (x1.c8=3)) x1 x0 H K)∧
 (¬(x1.c8=3)→
 (x1.c8=4→
 E6 0 0 x1.c8 (decide (x1.c8=4)) x1 x0 H K)∧
 (¬(x1.c8=4)→
 (x1.c8=5→
 E6 0 0 x1.c8 (decide (x1.c8=5)) x1 x0 H K)∧
 (¬(x1.c8=5)→
 E6 0 0 x1.c8 (decide (x1.c8=6)) x1 x0 H K)))))
theorem a9u(x0 x1){H K}(h:a2R x0 x1 H K):T4 x0 x1 H K:=by
 intro g0
 refine Ct.of fun w0 w ps0 H0 R E I hR=>c9Y ?_
 unfold a2R at h
 unfold F74
 refine A9 I (cs:=(g7 x1)) rfl fun d au f av=>?_
 have hj1:∀(u7:Int)(a3B:Int)(V6:d3) H w (_:Inv w0 ps0 H0 H [bx d 60 (g7 x1),bx g0 136 (o5 V6)] w) (_:C1 u7 a3B x1 V6 H K),b9R (Value.pointer (some ⟨g0,0,none⟩)) (Value.pointer (some ⟨d,0,none⟩)) (vi u7) (vi a3B) w R E:=by
  intro u7 a3B V6 H w I h
  unfold b9R
  intro _
  unfold C1 at h
  refine c5 a0E (c6 (l1 Tryz.isAgg9 I rfl) (c5 T7 (c6 (l1 Tryz.isAgg3 I rfl) (c5 pEq ?_))))
  refine c5 (Pu.g fun a=>by with_reducible exact T7) ?_
  refine c6 (Ld.g fun a=>by simp only [i4 a];exact (l1 Tryz.isAgg3 I rfl)) ?_
  refine c5 (Pu.g fun a=>by simp only [i4 a];with_reducible exact pEq) ?_
  refine c5 (L8 _ _) ?_
  refine f0 Tryz.call73 (h g0) (I.bring 1) ?_
  rintro _ _ _ aw c _ _ ⟨ax,rfl,rfl,h⟩
  refine c5 (m2 _) (c5 J8 (c6 (l1 Tryz.isAgg4 c rfl) ?_))
  refine c5 (Pu.g fun a=>by with_reducible exact N3) ?_
  refine c6 (Ld.g fun a=>by simp only [i4 a];exact (l1 Tryz.isAgg57 (c.bring 1) rfl)) ?_
  refine c5 (Pu.g fun a=>by simp only [i4 a];with_reducible exact (P7 _ _ _)) ?_
  simp only [z7]
  refine c5 (Pu.g fun a=>by simp only [i4 a];with_reducible exact pEq) ?_
  refine c5 (y9 _ _) ?_
  refine c5 (Pu.g fun a=>by with_reducible exact O2) ?_
  refine c6 (Ld.g fun a=>by simp only [i4 a];exact (l1 Tryz.isAgg58 (c.bring 1) rfl)) ?_
  refine c5 (Pu.g fun a=>by simp only [i4 a];with_reducible exact (a0B _ _ _)) ?_
  simp only [z7]
  refine c5 (Pu.g fun a=>by simp only [i4 a];with_reducible exact pEq) ?_
  refine c5 (y9 _ _) ?_
  refine c5 (Pu.g fun a=>by with_reducible exact Q7) ?_
  refine c6 (Ld.g fun a=>by simp only [i4 a];exact (l1 Tryz.isAgg23 (c.bring 1) rfl)) ?_
  refine c5 (Pu.g fun a=>by simp only [i4 a];with_reducible exact (L3 _ _ _)) ?_
  refine c5 (Pu.g fun a=>by simp only [i4 a];with_reducible exact pEq) ?_
  simp only [z7,a7g]
  refine c5 (Pu.e (a3K _ _ _) (Pu.g fun hb=>by obtain ⟨a,b⟩:=a5U hb;with_reducible exact T7)) ?_
  refine c6 (Ld.e (a3K _ _ _) (Ld.g fun hb=>by obtain ⟨a,b⟩:=a5U hb;simp only [i4 hb];exact (l1 Tryz.isAgg3 (c.bring 1) rfl))) ?_
  refine c5 (Pu.e (a3K _ _ _) (Pu.g fun hb=>by obtain ⟨a,b⟩:=a5U hb;simp only [i4 hb];with_reducible exact pEq)) ?_
  refine c5 (Pu.g fun a=>by simp only [i4 a,b4k a];with_reducible exact (L8 _ _)) ?_
  simp only [a7g]
  refine c5 (Pu.e (a3K _ _ _) (Pu.g fun hb=>by obtain ⟨a,b⟩:=a5U hb;with_reducible exact T7)) ?_
  refine c6 (Ld.e (a3K _ _ _) (Ld.g fun hb=>by obtain ⟨a,b⟩:=a5U hb;simp only [i4 hb];exact (l1 Tryz.isAgg3 (c.bring 1) rfl))) ?_
  refine c5 (Pu.e (a3K _ _ _) (Pu.g fun hb=>by obtain ⟨a,b⟩:=a5U hb;simp only [i4 hb];with_reducible exact pEq)) ?_
  refine c5 (Pu.g fun a=>by simp only [i4 a,b4k a];with_reducible exact (L8 _ _)) ?_
  refine c5 (y9 _ _) ?_
  refine c5 (Pu.g fun a=>by with_reducible exact W9) ?_
  refine c6 (Ld.g fun a=>by simp only [i4 a];exact (l1 Tryz.isAgg23 (c.bring 1) rfl)) ?_
  refine c5 (Pu.g fun a=>by simp only [i4 a];with_reducible exact (L3 _ _ _)) ?_
  refine c5 (Pu.g fun a=>by simp only [i4 a];with_reducible exact pEq) ?_
  simp only [z7,a7g]
  refine c5 (Pu.e (a3K _ _ _) (Pu.g fun hb=>by obtain ⟨a,b⟩:=a5U hb;with_reducible exact T7)) ?_
  refine c6 (Ld.e (a3K _ _ _) (Ld.g fun hb=>by obtain ⟨a,b⟩:=a5U hb;simp only [i4 hb];exact (l1 Tryz.isAgg3 (c.bring 1) rfl))) ?_
  refine c5 (Pu.e (a3K _ _ _) (Pu.g fun hb=>by obtain ⟨a,b⟩:=a5U hb;simp only [i4 hb];with_reducible exact pEq)) ?_
  refine c5 (Pu.g fun a=>by simp only [i4 a,b4k a];with_reducible exact (L8 _ _)) ?_
  refine c5 (y9 _ _) (c5 (m2 _) (c5 J8 ?_))
  refine C4 c Tryz.sizeOf4 fun ay q az=>?_
  have hj2:∀(a7k:d3) H w (_:Inv w0 ps0 H0 H [bx g0 136 (o5 a7k),bx d 60 (g7 x1)] w) (_:Y0 a7k x1 H K),b9Q (Value.pointer (some ⟨g0,0,none⟩)) (Value.pointer (some ⟨d,0,none⟩)) w R E:=by
   intro a7k H w I h
   unfold b9Q
   intro _
   unfold Y0 at h
   have hj3:∀(a3t:d3) H w (_:Inv w0 ps0 H0 H [bx g0 136 (o5 a3t),bx d 60 (g7 x1)] w) (_:X9 a3t x1 H K),b9P (Value.pointer (some ⟨g0,0,none⟩)) (Value.pointer (some ⟨d,0,none⟩)) w R E:=by
    intro a3t H w I h
    unfold b9P
    intro _
    unfold X9 at h
    have hj4:∀(a8q:d3) H w (_:Inv w0 ps0 H0 H [bx g0 136 (o5 a8q),bx d 60 (g7 x1)] w) (_:X8 a8q x1 H K),b9O (Value.pointer (some ⟨g0,0,none⟩)) (Value.pointer (some ⟨d,0,none⟩)) w R E:=by
     intro a8q H w I h
     unfold b9O
     intro _
     unfold X8 at h
     refine C9 (σ:=Int×d3) (fun (b1U,a0g)=>[(vi b1U)]) (fun (b1U,a0g)=>[bx g0 136 (o5 a0g),bx d 60 (g7 x1)]) h rfl ((I.bring 1).bring 1) ?_
     rintro ⟨b1U,a0g⟩ H ba w next5 n5 i I h hn5
     dsimp only at i I h
     simp only [List.map_cons,List.map_nil,List.cons.injEq,and_true] at i
     have e9:=i
     simp only [e9]
     unfold c4t
     unfold a1E at h
     refine c5 W9 (c6 (l1 Tryz.isAgg23 (I.bring 1) rfl) (c5 (L3 _ _ _) (c5 pLs ?_)))
     simp only [z7]
     refine c5 (Pu.g fun a=>by simp only [i4 a];with_reducible exact (m2 _)) ?_
     refine c5 (Pu.g fun a=>by simp only [i4 a];with_reducible exact J8) ?_
     refine c6 (Ld.g fun a=>by simp only [i4 a];exact (l1 Tryz.isAgg4 I rfl)) ?_
     refine c5 (y9 _ _) ?_
     refine m8 h (fun _ h=>?_) (fun _ h=>?_)
     ·refine c5 W9 (c6 (l1 Tryz.isAgg23 (I.bring 1) rfl) ?_)
      obtain ⟨r,s,t,j,h⟩:=h
      obtain ⟨bb,bc,u,j⟩:=j
      refine c5 (a3Q u _ _ _ _ r s) (c6 (ldA (vs:=(g7 t)) Tryz.isAgg60 Tryz.sizeOf60 rfl (I.atH j)) ?_)
      refine f0 Tryz.call74 (h g0) I ?_
      rintro _ _ _ bd v _ _ ⟨y,rfl,rfl,h⟩
      refine c5 pAd ?_
      exact hn5 ((IntKind.wrap .i64 (b1U+1)),y) _ _ h ((v.bring 1).bring 1)
     ·exact hR _ H _ _ (I.bring 1).drop ⟨a0g,rfl,rfl,h⟩
    refine o6 fun j4 hx4=>?_
    refine C9 (σ:=Int×d3) (fun (b1V,a4A)=>[(vi b1V)]) (fun (b1V,a4A)=>[bx g0 136 (o5 a4A),bx d 60 (g7 x1)]) h rfl ((I.bring 1).bring 1) ?_
    rintro ⟨b1V,a4A⟩ H be w next6 n6 k I h hn6
    dsimp only at k I h
    simp only [List.map_cons,List.map_nil,List.cons.injEq,and_true] at k
    have e8:=k
    simp only [e8]
    unfold c4u
    unfold a1F at h
    refine c5 Q7 (c6 (l1 Tryz.isAgg23 (I.bring 1) rfl) (c5 (L3 _ _ _) (c5 pLs ?_)))
    simp only [z7]
    refine c5 (Pu.g fun a=>by simp only [i4 a];with_reducible exact (m2 _)) ?_
    refine c5 (Pu.g fun a=>by simp only [i4 a];with_reducible exact J8) ?_
    refine c6 (Ld.g fun a=>by simp only [i4 a];exact (l1 Tryz.isAgg4 I rfl)) ?_
    refine c5 (y9 _ _) ?_
    refine m8 h (fun _ h=>?_) (fun _ h=>?_)
    ·refine c5 Q7 (c6 (l1 Tryz.isAgg23 (I.bring 1) rfl) ?_)
     obtain ⟨z,aa,ab,l,h⟩:=h
     obtain ⟨bf,bg,ac,l⟩:=l
     refine c5 (a3Q ac _ _ _ _ z aa) (c6 (ldA (vs:=(g7 ab)) Tryz.isAgg60 Tryz.sizeOf60 rfl (I.atH l)) ?_)
     refine f0 Tryz.call74 (h g0) I ?_
     rintro _ _ _ bh ad _ _ ⟨ae,rfl,rfl,h⟩
     refine c5 pAd ?_
     exact hn6 ((IntKind.wrap .i64 (b1V+1)),ae) _ _ h ((ad.bring 1).bring 1)
    ·exact hx4 _ _ (hj4 a4A H _ ((I.bring 1).bring 1) h)
   refine o6 fun j3 hx3=>?_
   refine C9 (σ:=Int×d3) (fun (b1W,a4B)=>[(vi b1W)]) (fun (b1W,a4B)=>[bx g0 136 (o5 a4B),bx d 60 (g7 x1)]) h rfl ((I.bring 1).bring 1) ?_
   rintro ⟨b1W,a4B⟩ H bi w next7 n7 m I h hn7
   dsimp only at m I h
   simp only [List.map_cons,List.map_nil,List.cons.injEq,and_true] at m
   have e7:=m
   simp only [e7]
   unfold c4v
   unfold a1G at h
   refine c5 N3 (c6 (l1 Tryz.isAgg57 (I.bring 1) rfl) (c5 (P7 _ _ _) (c5 pLs ?_)))
   simp only [z7]
   refine c5 (Pu.g fun a=>by simp only [i4 a];with_reducible exact (m2 _)) ?_
   refine c5 (Pu.g fun a=>by simp only [i4 a];with_reducible exact J8) ?_
   refine c6 (Ld.g fun a=>by simp only [i4 a];exact (l1 Tryz.isAgg4 I rfl)) ?_
   refine c5 (y9 _ _) ?_
   refine m8 h (fun _ h=>?_) (fun _ h=>?_)
   ·refine c5 N3 (c6 (l1 Tryz.isAgg57 (I.bring 1) rfl) ?_)
    obtain ⟨af,ag,ah,n,h⟩:=h
    obtain ⟨bj,bk,ai,n⟩:=n
    refine c5 (A0 ai _ _ _ _ af ag) (c6 (ldA (vs:=(d7 ah)) Tryz.isAgg123 Tryz.sizeOf123 rfl (I.atH n)) ?_)
    refine f0 Tryz.call104 (h g0) I ?_
    rintro _ _ _ bl aj _ _ ⟨ak,rfl,rfl,h⟩
    refine c5 pAd ?_
    exact hn7 ((IntKind.wrap .i64 (b1W+1)),ak) _ _ h ((aj.bring 1).bring 1)
   ·exact hx3 _ _ (hj3 a4B H _ ((I.bring 1).bring 1) h)
  refine o6 fun j2 hx2=>?_
  refine C9 (σ:=Int×d3) (fun (b1X,b1b)=>[(vi b1X)]) (fun (b1X,b1b)=>[bx g0 136 (o5 b1b),bx d 60 (g7 x1)]) h rfl ((q.bring 1).bring 1) ?_
  rintro ⟨b1X,b1b⟩ H bm w next8 n8 o I h hn8
  dsimp only at o I h
  simp only [List.map_cons,List.map_nil,List.cons.injEq,and_true] at o
  have e6:=o
  simp only [e6]
  unfold c4w
  unfold a1H at h
  refine c5 O2 (c6 (l1 Tryz.isAgg58 (I.bring 1) rfl) (c5 (a0B _ _ _) (c5 pLs ?_)))
  simp only [z7]
  refine c5 (Pu.g fun a=>by simp only [i4 a];with_reducible exact (m2 _)) ?_
  refine c5 (Pu.g fun a=>by simp only [i4 a];with_reducible exact J8) ?_
  refine c6 (Ld.g fun a=>by simp only [i4 a];exact (l1 Tryz.isAgg4 I rfl)) ?_
  refine c5 (y9 _ _) ?_
  refine m8 h (fun _ h=>?_) (fun _ h=>?_)
  ·refine c5 O2 (c6 (l1 Tryz.isAgg58 (I.bring 1) rfl) ?_)
   obtain ⟨al,am,an,p,h⟩:=h
   obtain ⟨bn,bo,ao,p⟩:=p
   refine c5 (L0 ao _ _ _ _ al am) (c6 (ldA (vs:=(f7 an)) Tryz.isAgg131 Tryz.sizeOf131 rfl (I.atH p)) ?_)
   refine f0 Tryz.call103 (h g0) I ?_
   rintro _ _ _ bp ap _ _ ⟨aq,rfl,rfl,h⟩
   refine c5 pAd ?_
   exact hn8 ((IntKind.wrap .i64 (b1X+1)),aq) _ _ h ((ap.bring 1).bring 1)
  ·exact hx2 _ _ (hj2 b1b H _ ((I.bring 1).bring 1) h)
 refine o6 fun j1 hx1=>?_
 refine c5 T7 (c6 (l1 Tryz.isAgg3 f rfl) (c5 pEq ?_))
 refine d9 h (fun _ h=>?_) (fun _ h=>?_)
 ·exact hx1 _ _ (hj1 1 0 x0 H _ ((f.bring 1).bring 1) h)
 ·refine c5 pEq ?_
  refine d9 h (fun _ h=>?_) (fun _ h=>?_)
  ·exact hx1 _ _ (hj1 2 0 x0 H _ ((f.bring 1).bring 1) h)
  ·have hj9:∀(b5c:Bool) H w (_:Inv w0 ps0 H0 H [bx d 60 (g7 x1),bx g0 136 (o5 x0)] w) (_:E6 0 0 x1.c8 b5c x1 x0 H K),b9S (Value.pointer (some ⟨g0,0,none⟩)) (Value.pointer (some ⟨d,0,none⟩)) (vi 0) (vi 0) (vi x1.c8) (vB b5c) w j1 R E:=by
    intro b5c H w I h
    unfold b9S
    intro _
    unfold E6 at h
    refine m8 h (fun _ h=>?_) (fun _ h=>?_)
    ·exact hx1 _ _ (hj1 0 1 x0 H _ ((I.bring 1).bring 1) h)
    ·refine c5 pEq ?_
     refine d9 h (fun _ h=>?_) (fun _ h=>?_)
     ·exact hx1 _ _ (hj1 0 0 x0 H _ ((I.bring 1).bring 1) h)
     ·refine c5 (m2 _) (c5 J8 ?_)
      refine C4 (I.bring 1) Tryz.sizeOf4 fun bq ar br=>?_
      exact hx1 _ _ (hj1 0 0 (d3.mk false x0.fnames) H _ (ar.bring 1) h)
   refine o6 fun j9 hx9=>?_
   refine c5 pEq ?_
   refine d9 h (fun _ h=>?_) (fun _ h=>?_)
   ·exact hx9 _ _ (hj9 (decide (x1.c8=3)) H _ ((f.bring 1).bring 1) h)
   ·refine c5 pEq ?_
    refine d9 h (fun _ h=>?_) (fun _ h=>?_)
    ·exact hx9 _ _ (hj9 (decide (x1.c8=4)) H _ ((f.bring 1).bring 1) h)
    ·refine c5 pEq ?_
     refine d9 h (fun _ h=>?_) (fun _ h=>?_)
     ·exact hx9 _ _ (hj9 (decide (x1.c8=5)) H _ ((f.bring 1).bring 1) h)
     ·refine c5 pEq ?_
      exact hx9 _ _ (hj9 (decide (x1.c8=6)) H _ ((f.bring 1).bring 1) h)
def D4(s8:Sl)(t6:Int)(t7:Sl)(r8:Int)(t8:Int)(y8:(List c7))(v6:Bool)(a:c7)(H:Hp)(K:d6→(List c7)→Hp→Prop):Prop:=
 ((!v6)=true→
 (y8.length+([a]:List c7).length)*81≤140737488355328∧
 K (d6.mk (m3.mk s8 t6 t7 r8 t8 (Sl.mk none 0 0)) v6) (y8++[a]) H)∧
 ((!v6)=false→
 K (d6.mk (m3.mk s8 t6 t7 r8 t8 (Sl.mk none 0 0)) v6) y8 H)
def a2t(x0:d6)(a:(List c7))(x1:c7)(H:Hp)(K:d6→(List c7)→Hp→Prop):Prop:=
 ((a.length:Int)=8192→
 D4 x0.fc.p7 x0.fc.q9 x0.fc.o9 x0.fc.p5 x0.fc.u5 a true x1 H K)∧
 (¬((a.length:Int)=8192)→
 D4 x0.fc.p7 x0.fc.q9 x0.fc.o9 x0.fc.p5 x0.fc.u5 a x0.fgreat x1 H K)
theorem a9d(x0 a x1){H K}(h:a2t x0 a x1 H K):z2 x0 a x1 H K:=by
 intro g0 d i f
 refine Ct.of fun w0 w ps0 H0 R E I hR=>d0b ?_
 unfold a2t at h
 unfold F77
 refine A9 I (cs:=(i6 x1)) rfl fun j v g y=>?_
 have hj1:∀(s8:Sl)(t6:Int)(t7:Sl)(r8:Int)(t8:Int)(v6:Bool) H w (_:Inv w0 ps0 H0 H [bx g0 77 [(vs s8),(vi t6),(vs t7),(vi r8),(vi t8),(vs d),(vB v6)],bx j 40 (i6 x1),i] w) (_:D4 s8 t6 t7 r8 t8 a v6 x1 H K),b9Y (Value.pointer (some ⟨g0,0,none⟩)) (Value.pointer (some ⟨j,0,none⟩)) w R E:=by
  intro s8 t6 t7 r8 t8 v6 H w I h
  unfold b9Y
  intro _
  unfold D4 at h
  refine c5 (m2 _) (c5 a5W (c6 (l1 Tryz.isAgg4 I rfl) (c5 (T1 _) ?_)))
  refine m8 h (fun _ h=>?_) (fun _ h=>?_)
  ·refine Q9 I fun z b=>?_
   refine g8 (m2 _) ?_
   refine g8 O1 ?_
   refine g8 W8 ?_
   refine p6 (l1 Tryz.isAgg28 b rfl) ?_
   refine p6 (lW Tryz.isAgg40 Tryz.sizeOf40 rfl (b.bring 1)) ?_
   refine a3v (e:=40) (c:=i6) (xs:=[x1]) b (c1q _ _ _ _ _ _ _ _ _ _) rfl rfl a6O a6P (nb rfl) fun aa ab ac l k m=>?_
   refine ⟨(m _ b.lt1),?_⟩
   obtain ⟨n,h⟩:=h
   refine c3S (s:=d) (xs:=a) (k.bring 3) f (l.srcO ((k.bring 3).bring 1)) n fun o p ad q r ae=>?_
   refine g8 (m2 _) ?_
   refine g8 O1 ?_
   refine g8 W8 ?_
   refine C4 ((r.bring 1).drop.bring 1) Tryz.sizeOf28 fun af t ag=>?_
   exact hR _ H _ _ (((t.bring 2).drop.bring 1).bring 1) ⟨(d6.mk (m3.mk s8 t6 t7 r8 t8 (Sl.mk none 0 0)) v6),(a++[x1]),o,p,rfl,rfl,q,h⟩
  ·exact hR _ H _ _ (((I.bring 1).drop.bring 1).bring 1) ⟨(d6.mk (m3.mk s8 t6 t7 r8 t8 (Sl.mk none 0 0)) v6),a,d,i,rfl,rfl,f,h⟩
 refine o6 fun j1 hx1=>?_
 refine c5 (m2 _) (c5 O1 (c5 W8 (c6 (l1 Tryz.isAgg28 (g.bring 1) rfl) (c5 (a7B Tryz.underlying28 f) ?_))))
 refine c5 pEq ?_
 refine d9 h (fun _ h=>?_) (fun _ h=>?_)
 ·refine c5 (m2 _) (c5 a5W ?_)
  refine C4 (g.bring 1) Tryz.sizeOf4 fun ah u ai=>?_
  exact hx1 _ _ (hj1 x0.fc.p7 x0.fc.q9 x0.fc.o9 x0.fc.p5 x0.fc.u5 true H _ (((u.bring 2).bring 2).bring 2) h)
 ·exact hx1 _ _ (hj1 x0.fc.p7 x0.fc.q9 x0.fc.o9 x0.fc.p5 x0.fc.u5 x0.fgreat H _ (((g.bring 2).bring 1).bring 2) h)
def V9(s8:Sl)(t6:Int)(t7:Sl)(r8:Int)(t8:Int)(y8:(List c7))(v6:Bool)(H:Hp)(K:Int→Hp→Prop):Prop:=
 K (-1) H
def a1k(a1j:ByteArray)(C7:Sl)(G3:Int)(C8:Sl)(G4:Int)(G5:Int)(D3:(List c7))(M5:Bool)(q8:Int)(H:Hp)(n2:Int→Hp→Prop)(K:Int→Hp→Prop):Prop:=
 (q8 < (C7.n:Int)→
 (0:Int)≤q8∧(q8:Int) < C7.n∧∃a:ByteArray,EltH H C7 q8 1 [(Value.string a)]∧
 (a=a1j→
 K q8 H)∧
 (¬(a=a1j)→
 n2 (IntKind.wrap .i64 (q8+1)) H))∧
 (¬(q8 < (C7.n:Int))→
 V9 C7 G3 C8 G4 G5 D3 M5 H K)
def a2u(x0:d6)(a:(List c7))(x1:ByteArray)(H:Hp)(K:Int→Hp→Prop):Prop:=
 TL (0:Int) H fun(s:Int) H n2=>a1k x1 x0.fc.p7 x0.fc.q9 x0.fc.o9 x0.fc.p5 x0.fc.u5 a x0.fgreat s H n2 K
theorem a9e(x0 a x1){H K}(h:a2u x0 a x1 H K):O3 x0 a x1 H K:=by
 intro g0 c d k
 refine Ct.of fun w0 w ps0 H0 R E I hR=>d0f ?_
 unfold a2u at h
 unfold F81
 have hj1:∀H w (_:Inv w0 ps0 H0 H [bx g0 77 (o3 x0 c),d] w) (_:V9 x0.fc.p7 x0.fc.q9 x0.fc.o9 x0.fc.p5 x0.fc.u5 a x0.fgreat H K),c0a w R E:=by
  intro H w I h
  unfold c0a
  intro _
  unfold V9 at h
  exact hR _ H _ _ ((I.bring 1).bring 1) ⟨(-1),rfl,rfl,h⟩
 refine o6 fun j1 hx1=>?_
 refine C9 (σ:=Int) (fun q8=>[(vi q8)]) (fun q8=>[bx g0 77 (o3 x0 c),d]) h rfl ((I.bring 1).bring 1) ?_
 rintro q8 H l w next2 n2 e I h hn2
 simp only [List.map_cons,List.map_nil,List.cons.injEq,and_true] at e
 have e5:=e
 simp only [e5]
 unfold c4A
 unfold a1k at h
 refine c5 (m2 _) (c5 O1 (c5 a4p (c6 (l1 Tryz.isAgg27 I rfl) (c5 (a4Z _ _ _) ?_))))
 refine c5 pLs ?_
 refine d9 h (fun _ h=>?_) (fun _ h=>?_)
 ·refine c5 (m2 _) (c5 O1 (c5 a4p (c6 (l1 Tryz.isAgg27 I rfl) ?_)))
  obtain ⟨f,g,i,b,h⟩:=h
  obtain ⟨m,n,j,b⟩:=b
  refine c5 (b1n j _ _ _ _ f g) (c6 (ld1 (v:=(Value.string i)) Tryz.isAgg9 (I.atH b)) (c5 (P4 _ _ _ _ _) ?_))
  refine d9 h (fun _ h=>?_) (fun _ h=>?_)
  ·exact hR _ H _ _ ((I.bring 1).bring 1) ⟨q8,rfl,rfl,h⟩
  ·refine c5 pAd ?_
   exact hn2 (IntKind.wrap .i64 (q8+1)) _ _ h ((I.bring 1).bring 1)
 ·exact hx1 _ _ (hj1 H _ ((I.bring 1).bring 1) h)
def A5(a:c7)(e:f8)(s8:Sl)(t6:Int)(t7:Sl)(r8:Int)(t8:Int)(y8:(List c7))(v6:Bool)(H:Hp)(K:d6→(List c7)→Hp→Prop):Prop:=
 z2 (d6.mk (m3.mk s8 t6 t7 r8 t8 (Sl.mk none 0 0)) v6) y8 a H (fun b c d=>
 K (d5 b) c d)
def a2v(x0:d6)(b:(List c7))(x1:f8)(x2:Int)(x3:Int)(x4:Int)(x5:Int)(H:Hp)(K:d6→(List c7)→Hp→Prop):Prop:=
 (x0.fgreat=true→
 K (d5 x0) b H)∧
 (x0.fgreat=false→
 D1 0 x3 x4 H (fun a c=>
 (x1.c8=3→
 A5 (c7.mk a.O0 a.fTo 9 x2 a.S3 a.fOp a.fA a.fB) x1 x0.fc.p7 x0.fc.q9 x0.fc.o9 x0.fc.p5 x0.fc.u5 b x0.fgreat c K)∧
 (¬(x1.c8=3)→
 (x1.c8=4→
 R4 (d5 x0) b x1.f6 c (fun o i=>
 (0:Int)≤0∧(0:Int) < x1.u1.n∧∃j:f8,EltH i x1.u1 0 4 (d7 j)∧
 v8 (d5 x0) b j x3 x5 i (fun p q d r s=>
 A5 (c7.mk q a.fTo 10 x2 o a.fOp p a.fB) x1 d.fc.p7 d.fc.q9 d.fc.o9 d.fc.p5 d.fc.u5 r d.fgreat s K)))∧
 (¬(x1.c8=4)→
 (x1.c8=5→
 (0:Int)≤0∧(0:Int) < x1.u1.n∧∃k:f8,EltH c x1.u1 0 4 (d7 k)∧
 v8 (d5 x0) b k x3 x5 c (fun t u e v y=>
 A5 (c7.mk u a.fTo 3 x2 a.S3 a.fOp t a.fB) x1 e.fc.p7 e.fc.q9 e.fc.o9 e.fc.p5 e.fc.u5 v e.fgreat y K))∧
 (¬(x1.c8=5)→
 (0:Int)≤0∧(0:Int) < x1.u1.n∧∃g:f8,EltH c x1.u1 0 4 (d7 g)∧
 v8 (d5 x0) b g x3 x5 c (fun z aa ab ac l=>
 (0:Int)≤1∧(1:Int) < x1.u1.n∧∃m:f8,EltH l x1.u1 1 4 (d7 m)∧
 C5 g x5 l (fun ad ae=>
 v8 (d5 ab) ac m aa ad ae (fun af ag f ah ai=>
 A5 (c7.mk ag a.fTo (IntKind.wrap .i64 ((IntKind.wrap .i64 (4+x1.c8))-6)) x2 a.S3 a.fOp z af) x1 f.fc.p7 f.fc.q9 f.fc.o9 f.fc.p5 f.fc.u5 ah f.fgreat ai K))))))))
theorem a9f(x0 m x1 x2 x3 x4 x5){H K}(h:a2v x0 m x1 x2 x3 x4 x5 H K):a0e x0 m x1 x2 x3 x4 x5 H K:=by
 intro g0 d e f
 refine Ct.of fun w0 w ps0 H0 R E I hR=>d0e ?_
 unfold a2v at h
 unfold F80
 refine A9 I (cs:=(d7 x1)) rfl fun ad cy r cz=>?_
 refine c5 (m2 _) (c5 a5W (c6 (l1 Tryz.isAgg4 (r.bring 1) rfl) ?_))
 refine m8 h (fun _ h=>?_) (fun _ h=>?_)
 ·exact hR _ H _ _ ((r.drop.bring 1).bring 1) ⟨(d5 x0),m,d,e,rfl,rfl,f,h⟩
 ·refine f0 Tryz.call78 h r ?_
  rintro _ ap _ da aq _ _ ⟨a,rfl,rfl,h⟩
  refine u4 aq Tryz.zeroValue40 (cs:=[(vi 0),(vi 0),(vi 0),(vi 0),(vi 0),(vi 0),(vi 0),(vi 0),(vi 0),(vi 0)]) rfl fun s db ar dc=>?_
  refine y6 ar Tryz.sizeOf40 (vs:=(i6 a)) fun dd au de=>?_
  refine c5 b0D ?_
  refine C4 au Tryz.sizeOf3 fun df g dg=>?_
  have hj1:∀(t:c7)(s8:Sl)(t6:Int)(t7:Sl)(r8:Int)(t8:Int)(y8:(List c7))(v6:Bool)(J2:Sl)(J4:Frag) H w (_:RowL 40 10 i6 J2 y8 J4) (_:Inv w0 ps0 H0 H [bx s 40 (i6 t),bx ad 123 (d7 x1),bx g0 77 [(vs s8),(vi t6),(vs t7),(vi r8),(vi t8),(vs J2),(vB v6)],J4] w) (_:A5 t x1 s8 t6 t7 r8 t8 y8 v6 H K),b9Z (Value.pointer (some ⟨g0,0,none⟩)) (Value.pointer (some ⟨s,0,none⟩)) w R E:=by
   intro t s8 t6 t7 r8 t8 y8 v6 J2 J4 H w a4U I h
   unfold b9Z
   intro _
   unfold A5 at h
   refine c6 (lW Tryz.isAgg40 Tryz.sizeOf40 rfl I) ?_
   refine f0 Tryz.call77 (h g0 J2 J4 a4U) ((I.bring 3).bring 3) ?_
   rintro _ av _ dh aw _ _ ⟨ax,ay,az,ba,rfl,rfl,bb,h⟩
   exact hR _ av _ _ ((((aw.bring 2).drop.bring 2).drop.bring 1).bring 1) ⟨(d5 ax),ay,az,ba,rfl,rfl,bb,h⟩
  refine o6 fun j1 hx1=>?_
  refine c5 C2 (c6 (l1 Tryz.isAgg3 (g.bring 1) rfl) (c5 pEq ?_))
  refine d9 h (fun _ h=>?_) (fun _ h=>?_)
  ·refine c5 a8N ?_
   refine C4 g Tryz.sizeOf3 fun di bc dj=>?_
   exact hx1 _ _ (hj1 (c7.mk a.O0 a.fTo 9 x2 a.S3 a.fOp a.fA a.fB) x0.fc.p7 x0.fc.q9 x0.fc.o9 x0.fc.p5 x0.fc.u5 m x0.fgreat d e ap _ f ((((bc.bring 3).bring 3).bring 3).bring 3) h)
  ·refine c5 pEq ?_
   refine d9 h (fun _ h=>?_) (fun _ h=>?_)
   ·refine c5 a8N ?_
    refine C4 g Tryz.sizeOf3 fun dk ae dl=>?_
    refine c5 a1V (c6 (l1 Tryz.isAgg9 (ae.bring 1) rfl) ?_)
    refine f0 Tryz.call82 (h g0 d e f) ((ae.bring 3).bring 3) ?_
    rintro _ _ _ dm bd _ _ ⟨af,rfl,rfl,h⟩
    refine c5 b0E ?_
    refine C4 (bd.bring 2) Tryz.sizeOf3 fun dn u dp=>?_
    refine c5 C3 (c6 (l1 Tryz.isAgg57 (u.bring 3) rfl) ?_)
    obtain ⟨be,bf,bg,v,h⟩:=h
    obtain ⟨dq,dr,bh,v⟩:=v
    refine c5 (A0 bh _ _ _ _ be bf) (c6 (ldA (vs:=(d7 bg)) Tryz.isAgg123 Tryz.sizeOf123 rfl (u.atH v)) ?_)
    refine f0 Tryz.call83 (h g0 d e f) ((u.bring 2).bring 2) ?_
    rintro _ bi _ ds bj _ _ ⟨n,ag,i,bk,bl,bm,rfl,rfl,bn,h⟩
    refine c5 (m0 _ _ _ rfl) (c5 (m0 _ _ (vi ag) rfl) (c5 a2d ?_))
    refine W5 (bj.bring 2) Tryz.sizeOf38 (vs:=(m7 n)) (cs':=[(vi a.O0),(vi a.fTo),(vi 10),(vi x2),(vi af),(vi a.fOp),(vi n.B7),(vi n.s7),(vi a.fB.B7),(vi a.fB.s7)]) rfl rfl (nb rfl) rfl rfl fun dt bo du=>?_
    refine c5 a2e ?_
    refine C4 bo Tryz.sizeOf3 fun dv bp dw=>?_
    exact hx1 _ _ (hj1 (c7.mk ag a.fTo 10 x2 af a.fOp n a.fB) i.fc.p7 i.fc.q9 i.fc.o9 i.fc.p5 i.fc.u5 bk i.fgreat bl bm bi _ bn ((((bp.bring 2).bring 2).bring 3).bring 3) h)
   ·refine c5 pEq ?_
    refine d9 h (fun _ h=>?_) (fun _ h=>?_)
    ·refine c5 a8N ?_
     refine C4 g Tryz.sizeOf3 fun dx y dy=>?_
     refine c5 C3 (c6 (l1 Tryz.isAgg57 (y.bring 1) rfl) ?_)
     obtain ⟨bq,br,bs,z,h⟩:=h
     obtain ⟨dz,ea,bt,z⟩:=z
     refine c5 (A0 bt _ _ _ _ bq br) (c6 (ldA (vs:=(d7 bs)) Tryz.isAgg123 Tryz.sizeOf123 rfl (y.atH z)) ?_)
     refine f0 Tryz.call83 (h g0 d e f) ((y.bring 3).bring 3) ?_
     rintro _ bu _ eb bv _ _ ⟨o,ah,j,bw,bz,ca,rfl,rfl,cb,h⟩
     refine c5 (m0 _ _ _ rfl) (c5 (m0 _ _ (vi ah) rfl) (c5 a2d ?_))
     refine W5 (bv.bring 2) Tryz.sizeOf38 (vs:=(m7 o)) (cs':=[(vi a.O0),(vi a.fTo),(vi 3),(vi x2),(vi a.S3),(vi a.fOp),(vi o.B7),(vi o.s7),(vi a.fB.B7),(vi a.fB.s7)]) rfl rfl (nb rfl) rfl rfl fun ec cc ed=>?_
     refine c5 a2e ?_
     refine C4 cc Tryz.sizeOf3 fun ee cd ef=>?_
     exact hx1 _ _ (hj1 (c7.mk ah a.fTo 3 x2 a.S3 a.fOp o a.fB) j.fc.p7 j.fc.q9 j.fc.o9 j.fc.p5 j.fc.u5 bw j.fgreat bz ca bu _ cb ((((cd.bring 2).bring 2).bring 3).bring 3) h)
    ·refine c5 C2 (c6 (l1 Tryz.isAgg3 (g.bring 1) rfl) (c5 pAd (c5 pSu (c5 a8N ?_))))
     refine C4 g Tryz.sizeOf3 fun eg aa eh=>?_
     refine c5 C3 (c6 (l1 Tryz.isAgg57 (aa.bring 1) rfl) ?_)
     obtain ⟨ai,aj,ak,p,h⟩:=h
     obtain ⟨ei,ej,al,p⟩:=p
     refine c5 (A0 al _ _ _ _ ai aj) (c6 (ldA (vs:=(d7 ak)) Tryz.isAgg123 Tryz.sizeOf123 rfl (aa.atH p)) ?_)
     refine f0 Tryz.call83 (h g0 d e f) ((aa.bring 3).bring 3) ?_
     rintro _ _ _ ek ce cf _ ⟨c,ab,cg,el,am,an,rfl,rfl,ch,h⟩
     refine c5 (m0 _ _ _ rfl) (c5 (m0 _ _ (vi ab) rfl) (c5 a2d ?_))
     refine W5 (ce.bring 2) Tryz.sizeOf38 (vs:=(m7 c)) (cs':=[(vi a.O0),(vi a.fTo),(vi (IntKind.wrap .i64 ((IntKind.wrap .i64 (4+x1.c8))-6))),(vi x2),(vi a.S3),(vi a.fOp),(vi c.B7),(vi c.s7),(vi a.fB.B7),(vi a.fB.s7)]) rfl rfl (nb rfl) rfl rfl fun em ci en=>?_
     refine c5 a2e ?_
     refine C4 ci Tryz.sizeOf3 fun eo cj ep=>?_
     refine Q9 cj fun eq b=>?_
     refine g8 C3 ?_
     refine g8 a2e ?_
     refine g8 C3 ?_
     refine p6 (l1 Tryz.isAgg57 (b.bring 3) rfl) ?_
     obtain ⟨ck,cl,cm,l,h⟩:=h
     obtain ⟨er,es,cn,l⟩:=l
     refine g8 (A0 cn _ _ _ _ ck cl) ?_
     refine p6 (ldA (vs:=(d7 cm)) Tryz.isAgg123 Tryz.sizeOf123 rfl (b.atH l)) ?_
     refine p6 (l1 Tryz.isAgg3 b rfl) ?_
     refine p6 (l1 Tryz.isAgg57 (b.bring 3) rfl) ?_
     refine g8 (A0 al _ _ _ _ ai aj) ?_
     refine p6 (ldA (vs:=(d7 ak)) Tryz.isAgg123 Tryz.sizeOf123 rfl (b.atH (p.le cf))) ?_
     refine f0 Tryz.call84 h b ?_
     rintro _ _ _ et co _ ac ⟨eu,rfl,rfl,h⟩
     refine ⟨(ac _ b.lt1 (Inv.U6 (Fi:=[]) b)),(ac _ (b.a1f l) ((Inv.self (Fi:=[]) (Fr:=[bx s 40 [(vi ab),(vi a.fTo),(vi (IntKind.wrap .i64 ((IntKind.wrap .i64 (4+x1.c8))-6))),(vi x2),(vi a.S3),(vi a.fOp),(vi c.B7),(vi c.s7),(vi a.fB.B7),(vi a.fB.s7)],bx g0 77 (o3 cg am),an,bx ad 123 (d7 x1)]) b).a2T l)),(ac _ (b.bring 3).lt1 (Inv.U6 (Fi:=[]) (b.bring 3))),?_⟩
     refine f0 Tryz.call83 (h g0 am an ch) ((co.bring 2).bring 2) ?_
     rintro _ cp _ ev cq _ _ ⟨q,ao,k,cr,ct,cu,rfl,rfl,cv,h⟩
     refine g8 (m0 _ _ _ rfl) ?_
     refine g8 (m0 _ _ (vi ao) rfl) ?_
     refine g8 a7F ?_
     refine W5 (cq.bring 2) Tryz.sizeOf38 (vs:=(m7 q)) (cs':=[(vi ab),(vi a.fTo),(vi (IntKind.wrap .i64 ((IntKind.wrap .i64 (4+x1.c8))-6))),(vi x2),(vi a.S3),(vi a.fOp),(vi c.B7),(vi c.s7),(vi q.B7),(vi q.s7)]) rfl rfl (nb rfl) rfl rfl fun ew cw ex=>?_
     refine g8 a2e ?_
     refine C4 cw Tryz.sizeOf3 fun ey cx ez=>?_
     exact hx1 _ _ (hj1 (c7.mk ao a.fTo (IntKind.wrap .i64 ((IntKind.wrap .i64 (4+x1.c8))-6)) x2 a.S3 a.fOp c q) k.fc.p7 k.fc.q9 k.fc.o9 k.fc.p5 k.fc.u5 cr k.fgreat ct cu cp _ cv ((((cx.bring 2).bring 2).bring 3).bring 3) h)
def W0(a0d:Int)(u7:Int)(b6t:Int)(b:m4)(s8:Sl)(t6:Int)(t7:Sl)(r8:Int)(t8:Int)(y8:(List c7))(v6:Bool)(c:m4)(d:j8)(H:Hp)(K:d6→(List c7)→Hp→Prop):Prop:=
 D1 12 b6t a0d H (fun a e=>
 z2 (d6.mk (m3.mk s8 t6 t7 r8 t8 (Sl.mk none 0 0)) v6) y8 (c7.mk a.O0 a.fTo a.c8 a.a1O a.S3 d.fOp c b) e (fun f g i=>
 a5G d.fOp i (fun j k=>
 z2 (d5 f) g (c7.mk a.O0 u7 a.c8 a.a1O a.S3 j c b) k (fun l m n=>
 K (d5 l) m n))))
def a2w(x0:d6)(a:(List c7))(x1:j8)(x2:Int)(x3:Int)(x4:Int)(H:Hp)(K:d6→(List c7)→Hp→Prop):Prop:=
 (x0.fgreat=true→
 K (d5 x0) a H)∧
 (x0.fgreat=false→
 (x1.c8=1→
 D1 1 x2 x3 H (fun s t=>
 z2 (d5 x0) a s t (fun u v y=>
 K (d5 u) v y)))∧
 (¬(x1.c8=1)→
 (x1.c8=2→
 D1 1 x2 x4 H (fun z aa=>
 z2 (d5 x0) a z aa (fun ab ac ad=>
 K (d5 ab) ac ad)))∧
 (¬(x1.c8=2)→
 (x1.c8=4→
 (0:Int)≤0∧(0:Int) < x1.r7.n∧∃d:j8,EltH H x1.r7 0 4 (f7 d)∧
 A7 (d5 x0) a d x2 x4 x3 H (fun ae af ag=>
 K (d5 ae) af ag))∧
 (¬(x1.c8=4)→
 (x1.c8=5→
 A4 (d5 x0) a H (fun e ah ai f=>
 (0:Int)≤0∧(0:Int) < x1.r7.n∧∃g:j8,EltH f x1.r7 0 4 (f7 g)∧
 A7 (d5 ah) ai g x2 e x4 f (fun aj ak i=>
 (0:Int)≤1∧(1:Int) < x1.r7.n∧∃j:j8,EltH i x1.r7 1 4 (f7 j)∧
 A7 (d5 aj) ak j e x3 x4 i (fun al am an=>
 K (d5 al) am an))))∧
 (¬(x1.c8=5)→
 (x1.c8=6→
 A4 (d5 x0) a H (fun k ao ap l=>
 (0:Int)≤0∧(0:Int) < x1.r7.n∧∃m:j8,EltH l x1.r7 0 4 (f7 m)∧
 A7 (d5 ao) ap m x2 x3 k l (fun aq ar o=>
 (0:Int)≤1∧(1:Int) < x1.r7.n∧∃p:j8,EltH o x1.r7 1 4 (f7 p)∧
 A7 (d5 aq) ar p k x3 x4 o (fun au av aw=>
 K (d5 au) av aw))))∧
 (¬(x1.c8=6)→
 (x1.c8=3→
 (0:Int)≤0∧(0:Int) < x1.l7.n∧∃c:f8,EltH H x1.l7 0 4 (d7 c)∧
 v8 (d5 x0) a c x2 0 H (fun ax ay az ba q=>
 (0:Int)≤1∧(1:Int) < x1.l7.n∧∃r:f8,EltH q x1.l7 1 4 (d7 r)∧
 C5 c 0 q (fun bb bc=>
 v8 (d5 az) ba r ay bb bc (fun bd be b bf bg=>
 W0 x3 x4 be bd b.fc.p7 b.fc.q9 b.fc.o9 b.fc.p5 b.fc.u5 bf b.fgreat ax x1 bg K))))∧
 (¬(x1.c8=3)→
 K (d5 x0) a H)))))))
theorem a9g(x0 u x1 x2 x3 x4){H K}(h:a2w x0 u x1 x2 x3 x4 H K):A7 x0 u x1 x2 x3 x4 H K:=by
 intro g0 g i j
 refine Ct.of fun w0 w ps0 H0 R E I hR=>d0k ?_
 unfold a2w at h
 unfold F86
 refine A9 I (cs:=(f7 x1)) rfl fun v gf b gg=>?_
 refine c5 (m2 _) (c5 a5W (c6 (l1 Tryz.isAgg4 (b.bring 1) rfl) ?_))
 refine m8 h (fun _ h=>?_) (fun _ h=>?_)
 ·exact hR _ H _ _ ((b.drop.bring 1).bring 1) ⟨(d5 x0),u,g,i,rfl,rfl,j,h⟩
 ·refine c5 a6d (c6 (l1 Tryz.isAgg3 b rfl) (c5 pEq ?_))
  refine d9 h (fun _ h=>?_) (fun _ h=>?_)
  ·refine f0 Tryz.call78 h b ?_
   rintro _ _ _ gh bm _ _ ⟨gi,rfl,rfl,h⟩
   refine f0 Tryz.call77 (h g0 g i j) ((bm.bring 2).bring 2) ?_
   rintro _ bn _ gj bo _ _ ⟨bp,bq,br,bs,rfl,rfl,bt,h⟩
   exact hR _ bn _ _ (((bo.bring 2).drop.bring 1).bring 1) ⟨(d5 bp),bq,br,bs,rfl,rfl,bt,h⟩
  ·refine c5 pEq ?_
   refine d9 h (fun _ h=>?_) (fun _ h=>?_)
   ·refine f0 Tryz.call78 h b ?_
    rintro _ _ _ gk bu _ _ ⟨gl,rfl,rfl,h⟩
    refine f0 Tryz.call77 (h g0 g i j) ((bu.bring 2).bring 2) ?_
    rintro _ bv _ gm bw _ _ ⟨bz,ca,cb,cc,rfl,rfl,cd,h⟩
    exact hR _ bv _ _ (((bw.bring 2).drop.bring 1).bring 1) ⟨(d5 bz),ca,cb,cc,rfl,rfl,cd,h⟩
   ·refine c5 pEq ?_
    refine d9 h (fun _ h=>?_) (fun _ h=>?_)
    ·refine c5 J7 (c6 (l1 Tryz.isAgg58 b rfl) ?_)
     obtain ⟨ce,cf,cg,ae,h⟩:=h
     obtain ⟨gn,go,ch,ae⟩:=ae
     refine c5 (L0 ch _ _ _ _ ce cf) (c6 (ldA (vs:=(f7 cg)) Tryz.isAgg131 Tryz.sizeOf131 rfl (b.atH ae)) ?_)
     refine f0 Tryz.call86 (h g0 g i j) ((b.bring 2).bring 2) ?_
     rintro _ ci _ gp cj _ _ ⟨ck,cl,cm,cn,rfl,rfl,co,h⟩
     exact hR _ ci _ _ (((cj.bring 2).drop.bring 1).bring 1) ⟨(d5 ck),cl,cm,cn,rfl,rfl,co,h⟩
    ·refine c5 pEq ?_
     refine d9 h (fun _ h=>?_) (fun _ h=>?_)
     ·refine f0 Tryz.call28 (h g0 g i j) ((b.bring 2).bring 2) ?_
      rintro _ _ _ gq af _ _ ⟨gr,gs,gt,cp,cq,rfl,rfl,cr,h⟩
      refine c5 J7 (c6 (l1 Tryz.isAgg58 (af.bring 2) rfl) ?_)
      obtain ⟨ct,cu,cv,ag,h⟩:=h
      obtain ⟨gu,gv,cw,ag⟩:=ag
      refine c5 (L0 cw _ _ _ _ ct cu) (c6 (ldA (vs:=(f7 cv)) Tryz.isAgg131 Tryz.sizeOf131 rfl (af.atH ag)) ?_)
      refine f0 Tryz.call86 (h g0 cp cq cr) ((af.bring 1).bring 1) ?_
      rintro _ _ _ gw ah _ _ ⟨gx,gy,cx,cy,rfl,rfl,cz,h⟩
      refine c5 J7 (c6 (l1 Tryz.isAgg58 (ah.bring 2) rfl) ?_)
      obtain ⟨da,db,dc,ai,h⟩:=h
      obtain ⟨gz,ha,dd,ai⟩:=ai
      refine c5 (L0 dd _ _ _ _ da db) (c6 (ldA (vs:=(f7 dc)) Tryz.isAgg131 Tryz.sizeOf131 rfl (ah.atH ai)) ?_)
      refine f0 Tryz.call86 (h g0 cx cy cz) ((ah.bring 1).bring 1) ?_
      rintro _ de _ hb df _ _ ⟨dg,dh,di,dj,rfl,rfl,dk,h⟩
      exact hR _ de _ _ (((df.bring 2).drop.bring 1).bring 1) ⟨(d5 dg),dh,di,dj,rfl,rfl,dk,h⟩
     ·refine c5 pEq ?_
      refine d9 h (fun _ h=>?_) (fun _ h=>?_)
      ·refine f0 Tryz.call28 (h g0 g i j) ((b.bring 2).bring 2) ?_
       rintro _ _ _ hc aj _ _ ⟨hd,he,hf,dl,dm,rfl,rfl,dn,h⟩
       refine c5 J7 (c6 (l1 Tryz.isAgg58 (aj.bring 2) rfl) ?_)
       obtain ⟨dp,dq,dr,ak,h⟩:=h
       obtain ⟨hg,hh,ds,ak⟩:=ak
       refine c5 (L0 ds _ _ _ _ dp dq) (c6 (ldA (vs:=(f7 dr)) Tryz.isAgg131 Tryz.sizeOf131 rfl (aj.atH ak)) ?_)
       refine f0 Tryz.call86 (h g0 dl dm dn) ((aj.bring 1).bring 1) ?_
       rintro _ _ _ hi al _ _ ⟨hj,hk,dt,du,rfl,rfl,dv,h⟩
       refine c5 J7 (c6 (l1 Tryz.isAgg58 (al.bring 2) rfl) ?_)
       obtain ⟨dw,dx,dy,am,h⟩:=h
       obtain ⟨hl,hm,dz,am⟩:=am
       refine c5 (L0 dz _ _ _ _ dw dx) (c6 (ldA (vs:=(f7 dy)) Tryz.isAgg131 Tryz.sizeOf131 rfl (al.atH am)) ?_)
       refine f0 Tryz.call86 (h g0 dt du dv) ((al.bring 1).bring 1) ?_
       rintro _ ea _ hn eb _ _ ⟨ec,ed,ee,ef,rfl,rfl,eg,h⟩
       exact hR _ ea _ _ (((eb.bring 2).drop.bring 1).bring 1) ⟨(d5 ec),ed,ee,ef,rfl,rfl,eg,h⟩
      ·refine c5 pEq ?_
       refine d9 h (fun _ h=>?_) (fun _ h=>?_)
       ·refine c5 P6 (c6 (l1 Tryz.isAgg57 b rfl) ?_)
        obtain ⟨ap,aq,ar,k,h⟩:=h
        obtain ⟨ho,hp,au,k⟩:=k
        refine c5 (A0 au _ _ _ _ ap aq) (c6 (ldA (vs:=(d7 ar)) Tryz.isAgg123 Tryz.sizeOf123 rfl (b.atH k)) ?_)
        refine f0 Tryz.call83 (h g0 g i j) ((b.bring 2).bring 2) ?_
        rintro _ _ _ hq eh y _ ⟨c,ei,av,hr,q,r,rfl,rfl,an,h⟩
        refine c5 (m0 _ _ _ rfl) (c5 (m0 _ _ (vi ei) rfl) ?_)
        refine u4 eh Tryz.zeroValue38 (cs:=[(vi 0),(vi 0)]) rfl fun z hs ej ht=>?_
        refine y6 ej Tryz.sizeOf38 (vs:=(m7 c)) fun hu ek hv=>?_
        have hj1:∀(b6t:Int)(e:m4)(s8:Sl)(t6:Int)(t7:Sl)(r8:Int)(t8:Int)(y8:(List c7))(v6:Bool)(J2:Sl)(J4:Frag)(ao:Nat) H w (_:RowL 40 10 i6 J2 y8 J4) (_:Inv w0 ps0 H0 H [bx ao 38 (m7 e),bx g0 77 [(vs s8),(vi t6),(vs t7),(vi r8),(vi t8),(vs J2),(vB v6)],bx z 38 (m7 c),bx v 131 (f7 x1),J4] w) (_:W0 x3 x4 b6t e s8 t6 t7 r8 t8 y8 v6 c x1 H K),c0c (Value.pointer (some ⟨g0,0,none⟩)) (vi x3) (vi x4) (Value.pointer (some ⟨v,0,none⟩)) (Value.pointer (some ⟨z,0,none⟩)) (Value.pointer (some ⟨ao,0,none⟩)) (vi b6t) w R E:=by
         intro b6t e s8 t6 t7 r8 t8 y8 v6 J2 J4 ao H w a4U I h
         unfold c0c
         intro _
         unfold W0 at h
         refine f0 Tryz.call78 h I ?_
         rintro _ _ _ hw el _ _ ⟨a,rfl,rfl,h⟩
         refine u4 el Tryz.zeroValue40 (cs:=[(vi 0),(vi 0),(vi 0),(vi 0),(vi 0),(vi 0),(vi 0),(vi 0),(vi 0),(vi 0)]) rfl fun hx hy em hz=>?_
         refine y6 em Tryz.sizeOf40 (vs:=(i6 a)) fun ia aw ib=>?_
         refine c5 a1W (c6 (l1 Tryz.isAgg3 (aw.bring 4) rfl) (c5 b0F ?_))
         refine C4 aw Tryz.sizeOf3 fun ic ax id=>?_
         refine c6 (lW Tryz.isAgg38 Tryz.sizeOf38 rfl (ax.bring 3)) (c5 a2d ?_)
         refine W5 ax Tryz.sizeOf38 (vs:=(m7 c)) (cs':=[(vi a.O0),(vi a.fTo),(vi a.c8),(vi a.a1O),(vi a.S3),(vi x1.fOp),(vi c.B7),(vi c.s7),(vi a.fB.B7),(vi a.fB.s7)]) rfl rfl (nb rfl) rfl rfl fun ie ay ig=>?_
         refine c6 (lW Tryz.isAgg38 Tryz.sizeOf38 rfl (ay.bring 1)) (c5 a7F ?_)
         refine W5 ay Tryz.sizeOf38 (vs:=(m7 e)) (cs':=[(vi a.O0),(vi a.fTo),(vi a.c8),(vi a.a1O),(vi a.S3),(vi x1.fOp),(vi c.B7),(vi c.s7),(vi e.B7),(vi e.s7)]) rfl rfl (nb rfl) rfl rfl fun ih az ii=>?_
         refine c6 (ldA Tryz.isAgg40 Tryz.sizeOf40 rfl (az.at1 (o:=0) (vs:=[(vi a.O0),(vi a.fTo),(vi a.c8),(vi a.a1O),(vi a.S3),(vi x1.fOp),(vi c.B7),(vi c.s7),(vi e.B7),(vi e.s7)]) (nb rfl) rfl)) ?_
         refine f0 Tryz.call77 (h g0 J2 J4 a4U) ((az.bring 5).bring 3) ?_
         rintro _ _ _ ij en _ _ ⟨ik,il,eo,ep,rfl,rfl,eq,h⟩
         refine c5 b6b ?_
         refine C4 (en.bring 2) Tryz.sizeOf3 fun im ba io=>?_
         refine c5 a1W (c6 (l1 Tryz.isAgg3 (ba.bring 5) rfl) ?_)
         refine f0 Tryz.call52 h ba ?_
         rintro _ _ _ ip er _ _ ⟨es,rfl,rfl,h⟩
         refine c5 b0F ?_
         refine C4 er Tryz.sizeOf3 fun iq bb ir=>?_
         refine c6 (ldA Tryz.isAgg40 Tryz.sizeOf40 rfl (bb.at1 (o:=0) (vs:=[(vi a.O0),(vi x4),(vi a.c8),(vi a.a1O),(vi a.S3),(vi es),(vi c.B7),(vi c.s7),(vi e.B7),(vi e.s7)]) (nb rfl) rfl)) ?_
         refine f0 Tryz.call77 (h g0 eo ep eq) ((bb.bring 2).bring 2) ?_
         rintro _ et _ it eu _ _ ⟨ev,ew,ex,ey,rfl,rfl,ez,h⟩
         exact hR _ et _ _ ((((((eu.bring 2).drop.bring 2).drop.bring 2).drop.bring 2).drop.bring 1).bring 1) ⟨(d5 ev),ew,ex,ey,rfl,rfl,ez,h⟩
        refine o6 fun j1 hx1=>?_
        refine Q9 ek fun iu d=>?_
        refine g8 P6 ?_
        refine g8 P6 ?_
        refine p6 (l1 Tryz.isAgg57 (d.bring 3) rfl) ?_
        obtain ⟨fa,fb,fd,f,h⟩:=h
        obtain ⟨iv,iw,fe,f⟩:=f
        refine g8 (A0 fe _ _ _ _ fa fb) ?_
        refine p6 (ldA (vs:=(d7 fd)) Tryz.isAgg123 Tryz.sizeOf123 rfl (d.atH f)) ?_
        refine p6 (l1 Tryz.isAgg57 (d.bring 3) rfl) ?_
        refine g8 (A0 au _ _ _ _ ap aq) ?_
        refine p6 (ldA (vs:=(d7 ar)) Tryz.isAgg123 Tryz.sizeOf123 rfl (d.atH (k.le y))) ?_
        refine ⟨?_,?_⟩
        ·refine f0 Tryz.call84 h d ?_
         rintro _ _ _ ix l aa bc ⟨iy,rfl,rfl,h⟩
         refine ⟨(bc _ (d.a1f f) ((Inv.self (Fi:=[]) (Fr:=[bx z 38 (m7 c),bx g0 77 (o3 av q),r,bx v 131 (f7 x1)]) d).a2T f)),(bc _ (d.bring 3).lt1 (Inv.U6 (Fi:=[]) (d.bring 3))),?_⟩
         refine ⟨?_,?_⟩
         ·refine f0 Tryz.call83 (h g0 q r an) ((l.bring 2).bring 2) ?_
          rintro _ ff _ iz s bd _ ⟨be,bf,m,fg,fh,fi,rfl,rfl,fj,h⟩
          refine g8 (m0 _ _ _ rfl) ?_
          refine g8 (m0 _ _ (vi bf) rfl) ?_
          refine u4 s Tryz.zeroValue38 (cs:=[(vi 0),(vi 0)]) rfl fun fk ja fl ab=>?_
          refine ⟨(ab _ (s.a1f (k.le (Hle.trans y (Hle.trans aa bd))))),(ab _ (s.bring 3).lt1),(ab _ (s.a1f (f.le (Hle.trans aa bd)))),(ab _ (s.bring 3).lt1),?_⟩
          refine y6 fl Tryz.sizeOf38 (vs:=(m7 be)) fun jb fm jc=>?_
          exact hx1 _ _ (hj1 bf be m.fc.p7 m.fc.q9 m.fc.o9 m.fc.p5 m.fc.u5 fg m.fgreat fh fi fk ff _ fj (((((fm.bring 2).bring 4).bring 4).bring 4).bring 4) h)
         ·refine u4 l Tryz.zeroValue38 (cs:=[(vi 0),(vi 0)]) rfl fun fn jd fo ac=>?_
          refine ⟨(ac _ (l.a1f (k.le (Hle.trans y aa)))),(ac _ (l.bring 3).lt1),(ac _ (l.a1f (f.le aa))),(ac _ (l.bring 3).lt1),?_⟩
          refine f0 Tryz.call83 (h g0 q r an) ((fo.bring 3).bring 3) ?_
          rintro _ fp _ je fq _ _ ⟨bg,bh,n,fs,ft,fu,rfl,rfl,fv,h⟩
          refine g8 (m0 _ _ _ rfl) ?_
          refine g8 (m0 _ _ (vi bh) rfl) ?_
          refine y6 (fq.bring 2) Tryz.sizeOf38 (vs:=(m7 bg)) fun jf fw jg=>?_
          exact hx1 _ _ (hj1 bh bg n.fc.p7 n.fc.q9 n.fc.o9 n.fc.p5 n.fc.u5 fs n.fgreat ft fu fn fp _ fv (((((fw.bring 2).bring 4).bring 4).bring 4).bring 4) h)
        ·refine u4 d Tryz.zeroValue38 (cs:=[(vi 0),(vi 0)]) rfl fun bi jh t ad=>?_
         refine ⟨(ad _ (d.a1f (k.le y))),(ad _ (d.bring 3).lt1),(ad _ (d.a1f f)),(ad _ (d.bring 3).lt1),?_⟩
         refine f0 Tryz.call84 h t ?_
         rintro _ _ _ ji fx _ bj ⟨jj,rfl,rfl,h⟩
         refine ⟨(bj _ (t.a1f f) ((Inv.self (Fi:=[]) (Fr:=[bx bi 38 [(vi 0),(vi 0)],bx z 38 (m7 c),bx g0 77 (o3 av q),r,bx v 131 (f7 x1)]) t).a2T f)),(bj _ (t.bring 4).lt1 (Inv.U6 (Fi:=[]) (t.bring 4))),?_⟩
         refine f0 Tryz.call83 (h g0 q r an) ((fx.bring 3).bring 3) ?_
         rintro _ fy _ jk fz _ _ ⟨bk,bl,p,ga,gb,gc,rfl,rfl,gd,h⟩
         refine g8 (m0 _ _ _ rfl) ?_
         refine g8 (m0 _ _ (vi bl) rfl) ?_
         refine y6 (fz.bring 2) Tryz.sizeOf38 (vs:=(m7 bk)) fun jl ge jm=>?_
         exact hx1 _ _ (hj1 bl bk p.fc.p7 p.fc.q9 p.fc.o9 p.fc.p5 p.fc.u5 ga p.fgreat gb gc bi fy _ gd (((((ge.bring 2).bring 4).bring 4).bring 4).bring 4) h)
       ·exact hR _ H _ _ ((b.drop.bring 1).bring 1) ⟨(d5 x0),u,g,i,rfl,rfl,j,h⟩
def U1(a1j:Sl)(b6u:(List Int))(a6e:Int)(u6:Int)(C7:Sl)(G3:Int)(C8:Sl)(G4:Int)(G5:Int)(D3:(List c7))(M5:Bool)(H:Hp)(n2:(Int×Int×Sl×Int×Sl×Int×Int×(List c7)×Bool)→Hp→Prop)(K:d6→(List c7)→Hp→Prop):Prop:=
 (((decide (u6 < (a1j.n:Int)))&&(!M5))=true→
 (0:Int)≤u6∧(u6:Int) < a1j.n∧∃b:i8,EltH H a1j u6 6 (g7 b)∧
 (0:Int)≤u6∧∃c:Int,(b6u)[(u6:Int).toNat]? = some c∧
 a2k (d6.mk (m3.mk C7 G3 C8 G4 G5 (Sl.mk none 0 0)) M5) D3 b a6e c H (fun a e f=>
 (0:Int)≤u6∧∃d:Int,(b6u)[(u6:Int).toNat]? = some d∧
 n2 (d,(IntKind.wrap .i64 (u6+1)),a.fc.p7,a.fc.q9,a.fc.o9,a.fc.p5,a.fc.u5,e,a.fgreat) f))∧
 (((decide (u6 < (a1j.n:Int)))&&(!M5))=false→
 K (d6.mk (m3.mk C7 G3 C8 G4 G5 (Sl.mk none 0 0)) M5) D3 H)
def U2(b7L:Sl)(b0r:Int)(a0d:Int)(a5X:(List Int))(s8:Sl)(t6:Int)(t7:Sl)(r8:Int)(t8:Int)(y8:(List c7))(v6:Bool)(H:Hp)(K:d6→(List c7)→Hp→Prop):Prop:=
 (a5X.length+([a0d]:List Int).length)*9≤140737488355328∧
 TL ((b0r,0,s8,t6,t7,r8,t8,y8,v6):Int×Int×Sl×Int×Sl×Int×Int×(List c7)×Bool) H fun(s:Int×Int×Sl×Int×Sl×Int×Int×(List c7)×Bool) H n2=>U1 b7L (a5X++[a0d]) s.1 s.2.1 s.2.2.1 s.2.2.2.1 s.2.2.2.2.1 s.2.2.2.2.2.1 s.2.2.2.2.2.2.1 s.2.2.2.2.2.2.2.1 s.2.2.2.2.2.2.2.2 H n2 K
def U3(a5N:Sl)(c2P:Int)(a8Z:Int)(U4:(List Int))(a4C:Int)(J9:Sl)(K0:Int)(K1:Sl)(K3:Int)(K4:Int)(E9:(List c7))(Q4:Bool)(H:Hp)(n3:((List Int)×Int×Sl×Int×Sl×Int×Int×(List c7)×Bool)→Hp→Prop)(K:d6→(List c7)→Hp→Prop):Prop:=
 (a4C < (a5N.n:Int)→
 A4 (d6.mk (m3.mk J9 K0 K1 K3 K4 (Sl.mk none 0 0)) Q4) E9 H (fun b a c d=>
 (U4.length+([b]:List Int).length)*9≤140737488355328∧
 n3 ((U4++[b]),(IntKind.wrap .i64 (a4C+1)),a.fc.p7,a.fc.q9,a.fc.o9,a.fc.p5,a.fc.u5,c,a.fgreat) d))∧
 (¬(a4C < (a5N.n:Int))→
 U2 a5N c2P a8Z U4 J9 K0 K1 K3 K4 E9 Q4 H K)
def a1U(x0:d6)(a:(List c7))(x1:Sl)(x2:Int)(x3:Int)(H:Hp)(K:d6→(List c7)→Hp→Prop):Prop:=
 TL (([],1,x0.fc.p7,x0.fc.q9,x0.fc.o9,x0.fc.p5,x0.fc.u5,a,x0.fgreat):(List Int)×Int×Sl×Int×Sl×Int×Int×(List c7)×Bool) H fun(s:(List Int)×Int×Sl×Int×Sl×Int×Int×(List c7)×Bool) H n3=>U3 x1 x2 x3 s.1 s.2.1 s.2.2.1 s.2.2.2.1 s.2.2.2.2.1 s.2.2.2.2.2.1 s.2.2.2.2.2.2.1 s.2.2.2.2.2.2.2.1 s.2.2.2.2.2.2.2.2 H n3 K
theorem a8L(x0 o x1 x2 x3){H K}(h:a1U x0 o x1 x2 x3 H K):Y3 x0 o x1 x2 x3 H K:=by
 intro g0 ak al am
 refine Ct.of fun w0 w ps0 H0 R E I hR=>c9x ?_
 unfold a1U at h
 unfold F29
 have hj1:∀(a5X:(List Int))(s8:Sl)(t6:Int)(t7:Sl)(r8:Int)(t8:Int)(y8:(List c7))(v6:Bool)(b1c:Sl)(Fs8j1:Frag)(J2:Sl)(J4:Frag) H w (_:RowL 3 1 a4n b1c a5X Fs8j1) (_:RowL 40 10 i6 J2 y8 J4) (_:Inv w0 ps0 H0 H [bx g0 77 [(vs s8),(vi t6),(vs t7),(vi r8),(vi t8),(vs J2),(vB v6)],Fs8j1,J4] w) (_:U2 x1 x2 x3 a5X s8 t6 t7 r8 t8 y8 v6 H K),b9B (Value.pointer (some ⟨g0,0,none⟩)) (vs x1) (vi x2) (vi x3) (vs b1c) w R E:=by
  intro a5X s8 t6 t7 r8 t8 y8 v6 b1c Fs8j1 J2 J4 H w c3b a4U I h
  unfold b9B
  intro _
  unfold U2 at h
  refine a3v (e:=3) (c:=a4n) (xs:=[x3]) I (b2P _) rfl rfl a9y a9z (nb rfl) fun bv bw bz an ab ca=>?_
  obtain ⟨ao,h⟩:=h
  refine b6a (s:=b1c) (xs:=a5X) (ab.bring 2) c3b (an.srcO ((ab.bring 2).bring 1)) ao fun cb ap cc f aq cd=>?_
  obtain ⟨p,k,ar,au⟩:=h
  refine L5 (J:=fun n l w=>∃(s:Int×Int×Sl×Int×Sl×Int×Int×(List c7)×Bool)(H:Hp)(a2x:Sl)(a2y:Frag),n=k s∧l=(match s with | (a6e,u6,C7,G3,C8,G4,G5,D3,M5)=>[(vi a6e),(vi u6)])∧(match s with | (a6e,u6,C7,G3,C8,G4,G5,D3,M5)=>RowL 40 10 i6 a2x D3 a2y)∧(match s with | (a6e,u6,C7,G3,C8,G4,G5,D3,M5)=>Inv w0 ps0 H0 H [bx g0 77 [(vs C7),(vi G3),(vs C8),(vi G4),(vi G5),(vs a2x),(vB M5)],ap,a2y] w)∧p s H) ⟨_,(x2,0,s8,t6,t7,r8,t8,y8,v6),H,J2,J4,rfl,rfl,a4U,((((aq.bring 1).drop.bring 2).bring 1).bring 2),ar⟩ ?_
  rintro ce cf w next2 ⟨⟨a6e,u6,C7,G3,C8,G4,G5,D3,M5⟩,H,a2x,a2y,rfl,q,a6I,I,av⟩ hn2
  dsimp only at q I a6I
  simp only [List.map_cons,List.map_nil,List.cons.injEq,and_true] at q
  obtain ⟨e2,e10⟩:=q
  simp only [e2,e10]
  obtain ⟨n2,hm2,h⟩:∃n2:(Int×Int×Sl×Int×Sl×Int×Int×(List c7)×Bool)→Hp→Prop,(∀s' H',n2 s' H'→p s' H'∧k s' < k (a6e,u6,C7,G3,C8,G4,G5,D3,M5))∧U1 x1 (a5X++[x3]) a6e u6 C7 G3 C8 G4 G5 D3 M5 H n2 K:=⟨_,fun _ _ h=>h,au (a6e,u6,C7,G3,C8,G4,G5,D3,M5) H (fun s' H'=>p s' H'∧k s' < k (a6e,u6,C7,G3,C8,G4,G5,D3,M5)) av (fun _ _ a b=>⟨a,b⟩)⟩
  unfold c4f
  unfold U1 at h
  refine c5 (L3 _ _ _) (c5 pLs ?_)
  simp only [z7]
  refine c5 (Pu.g fun d=>by simp only [i4 d];with_reducible exact (m2 _)) ?_
  refine c5 (Pu.g fun d=>by simp only [i4 d];with_reducible exact a5W) ?_
  refine c6 (Ld.g fun d=>by simp only [i4 d];exact (l1 Tryz.isAgg4 I rfl)) ?_
  refine c5 (Pu.g fun d=>by simp only [i4 d];with_reducible exact (T1 _)) ?_
  refine c5 (y9 _ _) ?_
  refine m8 h (fun _ h=>?_) (fun _ h=>?_)
  ·refine Q9 I fun cg r=>?_
   obtain ⟨aw,ax,ay,t,h⟩:=h
   obtain ⟨ch,ci,az,t⟩:=t
   refine g8 (a3Q az _ _ _ _ aw ax) ?_
   obtain ⟨ac,ba,u,h⟩:=h
   obtain ⟨cj,ck,ad,cl⟩:=f.addr u
   refine g8 (b3p ad _ _ _ _ ac (f.lt ac u)) ?_
   refine p6 (ldA (vs:=(g7 ay)) Tryz.isAgg60 Tryz.sizeOf60 rfl (r.atH t)) ?_
   refine p6 (ld1 (v:=(vi ba)) Tryz.isAgg3 (f.atW (r.bring 1) ad u)) ?_
   refine f0 Tryz.call49 (h g0 a2x a2y a6I) ((r.bring 2).bring 1) ?_
   rintro _ bb _ cm ae _ _ ⟨i,bc,bd,be,rfl,rfl,bf,h⟩
   obtain ⟨af,ag,y,h⟩:=h
   obtain ⟨cn,co,ah,cp⟩:=f.addr y
   refine c5 (b3p ah _ _ _ _ af (f.lt af y)) (c6 (ld1 (v:=(vi ag)) Tryz.isAgg3 (f.atW (ae.bring 2) ah y)) (c5 pAd ?_))
   exact hn2 _ _ _ (hm2 _ _ h).2 ⟨(ag,(IntKind.wrap .i64 (u6+1)),i.fc.p7,i.fc.q9,i.fc.o9,i.fc.p5,i.fc.u5,bc,i.fgreat),bb,bd,be,rfl,rfl,bf,(((ae.bring 1).bring 2).bring 2),(hm2 _ _ h).1⟩
  ·exact hR _ H _ _ (((I.bring 1).drop.bring 1).bring 1) ⟨(d6.mk (m3.mk C7 G3 C8 G4 G5 (Sl.mk none 0 0)) M5),D3,a2x,a2y,rfl,rfl,a6I,h⟩
 refine o6 fun j1 hx1=>?_
 obtain ⟨z,m,bg,bh⟩:=h
 refine L5 (J:=fun n l w=>∃(s:(List Int)×Int×Sl×Int×Sl×Int×Int×(List c7)×Bool)(H:Hp)(a9h:Sl)(Fs8l3:Frag)(a2z:Sl)(a2A:Frag),n=m s∧l=(match s with | (U4,a4C,J9,K0,K1,K3,K4,E9,Q4)=>[(vs a9h),(vi a4C)])∧(match s with | (U4,a4C,J9,K0,K1,K3,K4,E9,Q4)=>RowL 3 1 a4n a9h U4 Fs8l3)∧(match s with | (U4,a4C,J9,K0,K1,K3,K4,E9,Q4)=>RowL 40 10 i6 a2z E9 a2A)∧(match s with | (U4,a4C,J9,K0,K1,K3,K4,E9,Q4)=>Inv w0 ps0 H0 H [bx g0 77 [(vs J9),(vi K0),(vs K1),(vi K3),(vi K4),(vs a2z),(vB Q4)],Fs8l3,a2A] w)∧z s H) ⟨_,([],1,x0.fc.p7,x0.fc.q9,x0.fc.o9,x0.fc.p5,x0.fc.u5,o,x0.fgreat),H,(Sl.mk none 0 0),[],ak,al,rfl,rfl,(RowL.nil a9y a9z),am,(((I.nil.bring 2).bring 1).bring 2),bg⟩ ?_
 rintro cq cr w next3 ⟨⟨U4,a4C,J9,K0,K1,K3,K4,E9,Q4⟩,H,a9h,Fs8l3,a2z,a2A,rfl,aa,b3Q,a6J,I,bi⟩ hn3
 dsimp only at aa I b3Q a6J
 simp only [List.map_cons,List.map_nil,List.cons.injEq,and_true] at aa
 obtain ⟨e8,e9⟩:=aa
 simp only [e8,e9]
 obtain ⟨n3,hm3,h⟩:∃n3:((List Int)×Int×Sl×Int×Sl×Int×Int×(List c7)×Bool)→Hp→Prop,(∀s' H',n3 s' H'→z s' H'∧m s' < m (U4,a4C,J9,K0,K1,K3,K4,E9,Q4))∧U3 x1 x2 x3 U4 a4C J9 K0 K1 K3 K4 E9 Q4 H n3 K:=⟨_,fun _ _ h=>h,bh (U4,a4C,J9,K0,K1,K3,K4,E9,Q4) H (fun s' H'=>z s' H'∧m s' < m (U4,a4C,J9,K0,K1,K3,K4,E9,Q4)) bi (fun _ _ a b=>⟨a,b⟩)⟩
 unfold c4g
 unfold U3 at h
 refine c5 (L3 _ _ _) (c5 pLs ?_)
 refine d9 h (fun _ h=>?_) (fun _ h=>?_)
 ·refine f0 Tryz.call28 (h g0 a2z a2A a6J) ((I.bring 2).bring 1) ?_
  rintro _ bj _ cs bk _ _ ⟨ai,j,bl,bm,bn,rfl,rfl,bo,h⟩
  refine a3v (e:=3) (c:=a4n) (xs:=[ai]) bk (b2P _) rfl rfl a9y a9z (nb rfl) fun ct cu cv bp aj cw=>?_
  obtain ⟨bq,h⟩:=h
  refine b6a (s:=a9h) (xs:=U4) (aj.bring 3) b3Q (bp.srcO ((aj.bring 3).bring 1)) bq fun br bs cx bt bu cy=>?_
  refine c5 pAd ?_
  exact hn3 _ _ _ (hm3 _ _ h).2 ⟨((U4++[ai]),(IntKind.wrap .i64 (a4C+1)),j.fc.p7,j.fc.q9,j.fc.o9,j.fc.p5,j.fc.u5,bl,j.fgreat),bj,br,bs,bm,bn,rfl,rfl,bt,bo,((((bu.bring 1).drop.bring 2).bring 1).bring 2),(hm3 _ _ h).1⟩
 ·exact hx1 _ _ (hj1 U4 J9 K0 K1 K3 K4 E9 Q4 a9h Fs8l3 a2z a2A H _ b3Q a6J (((I.bring 2).bring 2).bring 2) h)
def a6K(x0:m6)(H:Hp)(K:Sl→Int→Hp→Prop):Prop:=
 a8s x0 2 H (fun a b c=>
 K a b c)
theorem b3R(x0){H K}(h:a6K x0 H K):a8P x0 H K:=by
 refine Ct.of fun w0 w ps0 H0 R E I hR=>c9q ?_
 unfold a6K at h
 unfold F22
 refine A9 I (cs:=(m5 x0)) rfl fun f g a i=>?_
 refine c6 (lW Tryz.isAgg25 Tryz.sizeOf25 rfl a) ?_
 refine f0 Tryz.call44 h a ?_
 rintro _ c _ j d _ _ ⟨e,b,rfl,rfl,h⟩
 refine c5 (m0 _ _ _ rfl) (c5 (m0 _ _ (vi b) rfl) ?_)
 exact hR _ c _ _ d.drop ⟨e,b,rfl,rfl,h⟩
def V3(a:c7)(b0i:Sl)(b0j:Int)(b0k:Sl)(b0l:Int)(b0m:Int)(c3c:(List c7))(b2X:(Option Nat))(b2Y:(Option Nat))(e:f8)(H:Hp)(K:f9→(List c7)→Hp→Prop):Prop:=
 B5 (f9.mk (m3.mk b0i b0j b0k b0l b0m (Sl.mk none 0 0)) b2X b2Y) c3c a H (fun b c d=>
 K (f4 b) c d)
def M8(a:c7)(s8:Sl)(t6:Int)(t7:Sl)(r8:Int)(t8:Int)(y8:(List c7))(v6:(Option Nat))(V2:(Option Nat))(b:f8)(H:Hp)(K:f9→(List c7)→Hp→Prop):Prop:=
 (b.c8=4→
 ∃c:List (ByteArray×Int),MapH H (fun s:ByteArray=>Value.string s) (fun n:Int=>Value.int .i64 n) V2 c∧
 V3 (c7.mk a.O0 a.fTo a.c8 a.a1O ((lk b.f6 c).getD 0) a.fOp a.fA a.fB) s8 t6 t7 r8 t8 y8 v6 V2 b H K)∧
 (¬(b.c8=4)→
 V3 a s8 t6 t7 r8 t8 y8 v6 V2 b H K)
def a4V(x0:f9)(e:(List c7))(x1:f8)(x2:Int)(x3:Int)(x4:Int)(x5:Int)(H:Hp)(K:f9→(List c7)→Hp→Prop):Prop:=
 a6Z x1.c8 H (fun g i=>
 O9 x3 x4 g i (fun a d=>
 ((x1.u1.n:Int)=1→
 (0:Int)≤0∧(0:Int) < x1.u1.n∧∃f:f8,EltH d x1.u1 0 4 (d7 f)∧
 V1 (f4 x0) e f x3 x5 d (fun j k b l m=>
 M8 (c7.mk k a.fTo a.c8 x2 a.S3 a.fOp j a.fB) b.fc.p7 b.fc.q9 b.fc.o9 b.fc.p5 b.fc.u5 l b.fvars b.farrays x1 m K))∧
 (¬((x1.u1.n:Int)=1)→
 ((x1.u1.n:Int)=2→
 a0C (f4 x0) e x1.u1 x3 x5 d (fun o p q c r s=>
 M8 (c7.mk q a.fTo a.c8 x2 a.S3 a.fOp o p) c.fc.p7 c.fc.q9 c.fc.o9 c.fc.p5 c.fc.u5 r c.fvars c.farrays x1 s K))∧
 (¬((x1.u1.n:Int)=2)→
 M8 (c7.mk a.O0 a.fTo a.c8 x2 a.S3 a.fOp a.fA a.fB) x0.fc.p7 x0.fc.q9 x0.fc.o9 x0.fc.p5 x0.fc.u5 e x0.fvars x0.farrays x1 d K))))
theorem b1d(x0 l x1 x2 x3 x4 x5){H K}(h:a4V x0 l x1 x2 x3 x4 x5 H K):a1K x0 l x1 x2 x3 x4 x5 H K:=by
 intro g0 m n o
 refine Ct.of fun w0 w ps0 H0 R E I hR=>d0v ?_
 unfold a4V at h
 unfold F97
 refine A9 I (cs:=(d7 x1)) rfl fun p bk s bl=>?_
 refine c5 C2 (c6 (l1 Tryz.isAgg3 s rfl) ?_)
 refine f0 Tryz.call110 h s ?_
 rintro _ bm _ bn v _ _ ⟨bo,rfl,rfl,h⟩
 refine f0 Tryz.call67 h v ?_
 rintro _ y _ bp aa _ _ ⟨a,rfl,rfl,h⟩
 refine u4 aa Tryz.zeroValue40 (cs:=[(vi 0),(vi 0),(vi 0),(vi 0),(vi 0),(vi 0),(vi 0),(vi 0),(vi 0),(vi 0)]) rfl fun g bq ab br=>?_
 refine y6 ab Tryz.sizeOf40 (vs:=(i6 a)) fun bs ac bt=>?_
 refine c5 b0D ?_
 refine C4 ac Tryz.sizeOf3 fun bu c bv=>?_
 have hj1:∀(b:c7)(s8:Sl)(t6:Int)(t7:Sl)(r8:Int)(t8:Int)(y8:(List c7))(v6:(Option Nat))(V2:(Option Nat))(J2:Sl)(J4:Frag) H w (_:RowL 40 10 i6 J2 y8 J4) (_:Inv w0 ps0 H0 H [bx g 40 (i6 b),bx g0 68 [(vs s8),(vi t6),(vs t7),(vi r8),(vi t8),(vs J2),(Value.map v6),(Value.map V2)],bx p 123 (d7 x1),J4] w) (_:M8 b s8 t6 t7 r8 t8 y8 v6 V2 x1 H K),c0k (Value.pointer (some ⟨g0,0,none⟩)) (Value.pointer (some ⟨p,0,none⟩)) (Value.pointer (some ⟨g,0,none⟩)) w R E:=by
  intro b s8 t6 t7 r8 t8 y8 v6 V2 J2 J4 H w a4U I h
  unfold c0k
  intro _
  unfold M8 at h
  have hj2:∀(q:c7)(b0i:Sl)(b0j:Int)(b0k:Sl)(b0l:Int)(b0m:Int)(b2X:(Option Nat))(b2Y:(Option Nat)) H w (_:Inv w0 ps0 H0 H [bx g 40 (i6 q),bx g0 68 [(vs b0i),(vi b0j),(vs b0k),(vi b0l),(vi b0m),(vs J2),(Value.map b2X),(Value.map b2Y)],bx p 123 (d7 x1),J4] w) (_:V3 q b0i b0j b0k b0l b0m y8 b2X b2Y x1 H K),c0j (Value.pointer (some ⟨g0,0,none⟩)) (Value.pointer (some ⟨g,0,none⟩)) w R E:=by
   intro q b0i b0j b0k b0l b0m b2X b2Y H w I h
   unfold c0j
   intro _
   unfold V3 at h
   refine c6 (lW Tryz.isAgg40 Tryz.sizeOf40 rfl I) ?_
   refine f0 Tryz.call69 (h g0 J2 J4 a4U) ((I.bring 3).bring 2) ?_
   rintro _ ad _ bw ae _ _ ⟨af,ag,ah,ai,rfl,rfl,aj,h⟩
   exact hR _ ad _ _ ((((ae.bring 2).drop.bring 2).drop.bring 1).bring 1) ⟨(f4 af),ag,ah,ai,rfl,rfl,aj,h⟩
  refine o6 fun j2 hx2=>?_
  refine c5 C2 (c6 (l1 Tryz.isAgg3 (I.bring 2) rfl) (c5 pEq ?_))
  refine d9 h (fun _ h=>?_) (fun _ h=>?_)
  ·refine Q9 I fun bz i=>?_
   refine g8 (m2 _) ?_
   refine g8 b3r ?_
   refine g8 a1V ?_
   refine p6 (l1 Tryz.isAgg66 (i.bring 1) rfl) ?_
   refine p6 (l1 Tryz.isAgg9 (i.bring 2) rfl) ?_
   obtain ⟨ak,al,h⟩:=h
   refine b3n (keyS Tryz.underlying9) Tryz.underlying66 (z:=0) Tryz.zeroValue3 i al x1.f6 ?_
   refine g8 b0E ?_
   refine C4 i Tryz.sizeOf3 fun ca am cb=>?_
   exact hx2 _ _ (hj2 (c7.mk b.O0 b.fTo b.c8 b.a1O ((lk x1.f6 ak).getD 0) b.fOp b.fA b.fB) s8 t6 t7 r8 t8 v6 V2 H _ ((((am.bring 3).bring 3).bring 3).bring 3) h)
  ·exact hx2 _ _ (hj2 b s8 t6 t7 r8 t8 v6 V2 H _ ((((I.bring 3).bring 3).bring 3).bring 3) h)
 refine o6 fun j1 hx1=>?_
 refine c5 C3 (c6 (l1 Tryz.isAgg57 (c.bring 1) rfl) (c5 (P7 _ _ _) (c5 pEq ?_)))
 refine d9 h (fun _ h=>?_) (fun _ h=>?_)
 ·refine c5 C3 (c6 (l1 Tryz.isAgg57 (c.bring 1) rfl) ?_)
  obtain ⟨an,ao,ap,r,h⟩:=h
  obtain ⟨cc,cd,aq,r⟩:=r
  refine c5 (A0 aq _ _ _ _ an ao) (c6 (ldA (vs:=(d7 ap)) Tryz.isAgg123 Tryz.sizeOf123 rfl (c.atH r)) ?_)
  refine f0 Tryz.call98 (h g0 m n o) ((c.bring 3).bring 3) ?_
  rintro _ ar _ ce au _ _ ⟨j,t,d,av,aw,ax,rfl,rfl,ay,h⟩
  refine c5 (m0 _ _ _ rfl) (c5 (m0 _ _ (vi t) rfl) (c5 a2d ?_))
  refine W5 (au.bring 2) Tryz.sizeOf38 (vs:=(m7 j)) (cs':=[(vi a.O0),(vi a.fTo),(vi a.c8),(vi x2),(vi a.S3),(vi a.fOp),(vi j.B7),(vi j.s7),(vi a.fB.B7),(vi a.fB.s7)]) rfl rfl (nb rfl) rfl rfl fun cf az cg=>?_
  refine c5 a2e ?_
  refine C4 az Tryz.sizeOf3 fun ch ba ci=>?_
  exact hx1 _ _ (hj1 (c7.mk t a.fTo a.c8 x2 a.S3 a.fOp j a.fB) d.fc.p7 d.fc.q9 d.fc.o9 d.fc.p5 d.fc.u5 av d.fvars d.farrays aw ax ar _ ay ((((ba.bring 2).bring 3).bring 3).bring 3) h)
 ·refine c5 pEq ?_
  refine d9 h (fun _ h=>?_) (fun _ h=>?_)
  ·refine c5 C3 (c6 (l1 Tryz.isAgg57 (c.bring 1) rfl) ?_)
   refine f0 Tryz.call68 (h g0 m n o) ((c.bring 3).bring 3) ?_
   rintro _ bb _ cj bc _ _ ⟨f,k,u,e,bd,be,bf,rfl,rfl,bg,h⟩
   refine c5 (m0 _ _ _ rfl) (c5 (m0 _ _ _ rfl) (c5 (m0 _ _ (vi u) rfl) (c5 a2d ?_)))
   refine W5 (bc.bring 2) Tryz.sizeOf38 (vs:=(m7 f)) (cs':=[(vi a.O0),(vi a.fTo),(vi a.c8),(vi x2),(vi a.S3),(vi a.fOp),(vi f.B7),(vi f.s7),(vi a.fB.B7),(vi a.fB.s7)]) rfl rfl (nb rfl) rfl rfl fun ck bh cl=>?_
   refine c5 a7F ?_
   refine W5 bh Tryz.sizeOf38 (vs:=(m7 k)) (cs':=[(vi a.O0),(vi a.fTo),(vi a.c8),(vi x2),(vi a.S3),(vi a.fOp),(vi f.B7),(vi f.s7),(vi k.B7),(vi k.s7)]) rfl rfl (nb rfl) rfl rfl fun cm bi cn=>?_
   refine c5 a2e ?_
   refine C4 bi Tryz.sizeOf3 fun co bj cp=>?_
   exact hx1 _ _ (hj1 (c7.mk u a.fTo a.c8 x2 a.S3 a.fOp f k) e.fc.p7 e.fc.q9 e.fc.o9 e.fc.p5 e.fc.u5 bd e.fvars e.farrays be bf bb _ bg ((((bj.bring 2).bring 3).bring 3).bring 3) h)
  ·exact hx1 _ _ (hj1 (c7.mk a.O0 a.fTo a.c8 x2 a.S3 a.fOp a.fA a.fB) x0.fc.p7 x0.fc.q9 x0.fc.o9 x0.fc.p5 x0.fc.u5 l x0.fvars x0.farrays m n y _ o ((((c.bring 3).bring 2).bring 3).bring 3) h)
def a3H(x0:f9)(b:(List c7))(x1:Int)(x2:f8)(x3:Int)(x4:Int)(H:Hp)(K:f9→(List c7)→Hp→Prop):Prop:=
 a1o (f4 x0) b x2 H (fun e c d=>
 ((!c)=true→
 a1K (f4 x0) b x2 x1 x3 x4 0 d (fun f g i=>
 K (f4 f) g i))∧
 ((!c)=false→
 O9 x3 x4 2 d (fun a j=>
 B5 (f4 x0) b (c7.mk a.O0 a.fTo a.c8 x1 a.S3 a.fOp e a.fB) j (fun k l m=>
 K (f4 k) l m))))
theorem b0n(x0 i x1 x2 x3 x4){H K}(h:a3H x0 i x1 x2 x3 x4 H K):a3z x0 i x1 x2 x3 x4 H K:=by
 intro g0 c d e
 refine Ct.of fun w0 w ps0 H0 R E I hR=>c9Q ?_
 unfold a3H at h
 unfold F66
 refine A9 I (cs:=(d7 x2)) rfl fun ak al j am=>?_
 refine c6 (lW Tryz.isAgg123 Tryz.sizeOf123 rfl j) ?_
 refine f0 Tryz.call96 (h g0 c d e) ((j.bring 2).bring 2) ?_
 rintro _ _ _ an l _ _ ⟨b,m,rfl,rfl,h⟩
 refine c5 (m0 _ _ _ rfl) (c5 (m0 _ _ (vB m) rfl) ?_)
 refine u4 l Tryz.zeroValue38 (cs:=[(vi 0),(vi 0)]) rfl fun ao ap n aq=>?_
 refine y6 n Tryz.sizeOf38 (vs:=(m7 b)) fun ar f au=>?_
 refine c5 (T1 _) ?_
 refine m8 h (fun _ h=>?_) (fun _ h=>?_)
 ·refine c6 (lW Tryz.isAgg123 Tryz.sizeOf123 rfl (f.bring 3)) ?_
  refine f0 Tryz.call97 (h g0 c d e) ((f.bring 2).bring 2) ?_
  rintro _ p _ av q _ _ ⟨r,s,t,u,rfl,rfl,v,h⟩
  exact hR _ p _ _ ((((q.bring 2).drop.bring 2).drop.bring 1).bring 1) ⟨(f4 r),s,t,u,rfl,rfl,v,h⟩
 ·refine f0 Tryz.call67 h f ?_
  rintro _ _ _ aw y _ _ ⟨a,rfl,rfl,h⟩
  refine u4 y Tryz.zeroValue40 (cs:=[(vi 0),(vi 0),(vi 0),(vi 0),(vi 0),(vi 0),(vi 0),(vi 0),(vi 0),(vi 0)]) rfl fun ax ay z az=>?_
  refine y6 z Tryz.sizeOf40 (vs:=(i6 a)) fun ba aa bb=>?_
  refine Q9 aa fun bc g=>?_
  refine g8 b0D ?_
  refine p6 (lW Tryz.isAgg38 Tryz.sizeOf38 rfl (g.bring 1)) ?_
  refine C4 g Tryz.sizeOf3 fun bd ab ac=>?_
  refine ⟨(ac _ (Inv.b8X ((g.bring 1).bring 1))),?_⟩
  refine g8 a2d ?_
  refine W5 ab Tryz.sizeOf38 (vs:=(m7 b)) (cs':=[(vi a.O0),(vi a.fTo),(vi a.c8),(vi x1),(vi a.S3),(vi a.fOp),(vi b.B7),(vi b.s7),(vi a.fB.B7),(vi a.fB.s7)]) rfl rfl (nb rfl) rfl rfl fun be k bf=>?_
  refine c6 (ldA Tryz.isAgg40 Tryz.sizeOf40 rfl (k.at1 (o:=0) (vs:=[(vi a.O0),(vi a.fTo),(vi a.c8),(vi x1),(vi a.S3),(vi a.fOp),(vi b.B7),(vi b.s7),(vi a.fB.B7),(vi a.fB.s7)]) (nb rfl) rfl)) ?_
  refine f0 Tryz.call69 (h g0 c d e) ((k.bring 3).bring 3) ?_
  rintro _ ad _ bg ae _ _ ⟨af,ag,ah,ai,rfl,rfl,aj,h⟩
  exact hR _ ad _ _ (((((ae.bring 2).drop.bring 2).drop.bring 2).drop.bring 1).bring 1) ⟨(f4 af),ag,ah,ai,rfl,rfl,aj,h⟩
def a0y(b6u:(List Int))(c6R:Sl)(c6S:Int)(a3O:Int)(C7:Sl)(G3:Int)(C8:Sl)(G4:Int)(G5:Int)(D3:(List c7))(M5:(Option Nat))(a5R:(Option Nat))(H:Hp)(n2:(Int×Sl×Int×Sl×Int×Int×(List c7)×(Option Nat)×(Option Nat))→Hp→Prop)(K:f9→(List c7)→Hp→Prop):Prop:=
 (a3O < c6S→
 (0:Int)≤a3O∧(a3O:Int) < c6R.n∧∃b:i8,EltH H c6R a3O 6 (g7 b)∧
 (0:Int)≤a3O∧∃c:Int,(b6u)[(a3O:Int).toNat]? = some c∧
 (0:Int)≤IntKind.wrap .i64 (a3O+1)∧∃d:Int,(b6u)[(IntKind.wrap .i64 (a3O+1):Int).toNat]? = some d∧
 a4x (f9.mk (m3.mk C7 G3 C8 G4 G5 (Sl.mk none 0 0)) M5 a5R) D3 b c d H (fun a e f=>
 n2 ((IntKind.wrap .i64 (a3O+1)),a.fc.p7,a.fc.q9,a.fc.o9,a.fc.p5,a.fc.u5,e,a.fvars,a.farrays) f))∧
 (¬(a3O < c6S)→
 K (f9.mk (m3.mk C7 G3 C8 G4 G5 (Sl.mk none 0 0)) M5 a5R) D3 H)
def a0z(b7L:Sl)(a0d:Int)(a5X:(List Int))(s8:Sl)(t6:Int)(t7:Sl)(r8:Int)(t8:Int)(y8:(List c7))(v6:(Option Nat))(V2:(Option Nat))(H:Hp)(K:f9→(List c7)→Hp→Prop):Prop:=
 (a5X.length+([a0d]:List Int).length)*9≤140737488355328∧
 TL ((0,s8,t6,t7,r8,t8,y8,v6,V2):Int×Sl×Int×Sl×Int×Int×(List c7)×(Option Nat)×(Option Nat)) H fun(s:Int×Sl×Int×Sl×Int×Int×(List c7)×(Option Nat)×(Option Nat)) H n2=>a0y (a5X++[a0d]) b7L (b7L.n:Int) s.1 s.2.1 s.2.2.1 s.2.2.2.1 s.2.2.2.2.1 s.2.2.2.2.2.1 s.2.2.2.2.2.2.1 s.2.2.2.2.2.2.2.1 s.2.2.2.2.2.2.2.2 H n2 K
def a0A(a5N:Sl)(a8Z:Int)(c6T:Int)(U4:(List Int))(a7l:Int)(J9:Sl)(K0:Int)(K1:Sl)(K3:Int)(K4:Int)(E9:(List c7))(Q4:(Option Nat))(a5f:(Option Nat))(H:Hp)(n3:((List Int)×Int×Sl×Int×Sl×Int×Int×(List c7)×(Option Nat)×(Option Nat))→Hp→Prop)(K:f9→(List c7)→Hp→Prop):Prop:=
 (a7l < c6T→
 E7 (f9.mk (m3.mk J9 K0 K1 K3 K4 (Sl.mk none 0 0)) Q4 a5f) E9 H (fun b a c d=>
 (U4.length+([b]:List Int).length)*9≤140737488355328∧
 n3 ((U4++[b]),(IntKind.wrap .i64 (a7l+1)),a.fc.p7,a.fc.q9,a.fc.o9,a.fc.p5,a.fc.u5,c,a.fvars,a.farrays) d))∧
 (¬(a7l < c6T)→
 a0z a5N a8Z U4 J9 K0 K1 K3 K4 E9 Q4 a5f H K)
def a4k(x0:f9)(a:(List c7))(x1:Sl)(x2:Int)(x3:Int)(H:Hp)(K:f9→(List c7)→Hp→Prop):Prop:=
 ((x1.n:Int)=0→
 K (f4 x0) a H)∧
 (¬((x1.n:Int)=0)→
 TL (([x2],0,x0.fc.p7,x0.fc.q9,x0.fc.o9,x0.fc.p5,x0.fc.u5,a,x0.fvars,x0.farrays):(List Int)×Int×Sl×Int×Sl×Int×Int×(List c7)×(Option Nat)×(Option Nat)) H fun(s:(List Int)×Int×Sl×Int×Sl×Int×Int×(List c7)×(Option Nat)×(Option Nat)) H n3=>a0A x1 x3 (IntKind.wrap .i64 ((x1.n:Int)-1)) s.1 s.2.1 s.2.2.1 s.2.2.2.1 s.2.2.2.2.1 s.2.2.2.2.2.1 s.2.2.2.2.2.2.1 s.2.2.2.2.2.2.2.1 s.2.2.2.2.2.2.2.2.1 s.2.2.2.2.2.2.2.2.2 H n3 K)
theorem b0z(x0 k x1 x2 x3){H K}(h:a4k x0 k x1 x2 x3 H K):R6 x0 k x1 x2 x3 H K:=by
 intro g0 z aa ab
 refine Ct.of fun w0 w ps0 H0 R E I hR=>c9s ?_
 unfold a4k at h
 unfold F24
 refine c5 (L3 _ _ _) (c5 pEq ?_)
 refine d9 h (fun _ h=>?_) (fun _ h=>?_)
 ·exact hR _ H _ _ ((I.bring 1).bring 1) ⟨(f4 x0),k,z,aa,rfl,rfl,ab,h⟩
 ·refine a3v (e:=3) (c:=a4n) (xs:=[x2]) I (b2P _) rfl rfl a9y a9z (nb rfl) fun ak al cb am an cc=>?_
  have hj1:∀(a5X:(List Int))(s8:Sl)(t6:Int)(t7:Sl)(r8:Int)(t8:Int)(y8:(List c7))(v6:(Option Nat))(V2:(Option Nat))(b1c:Sl)(Fs8j1:Frag)(J2:Sl)(J4:Frag) H w (_:RowL 3 1 a4n b1c a5X Fs8j1) (_:RowL 40 10 i6 J2 y8 J4) (_:Inv w0 ps0 H0 H [bx g0 68 [(vs s8),(vi t6),(vs t7),(vi r8),(vi t8),(vs J2),(Value.map v6),(Value.map V2)],Fs8j1,J4] w) (_:a0z x1 x3 a5X s8 t6 t7 r8 t8 y8 v6 V2 H K),b9s (Value.pointer (some ⟨g0,0,none⟩)) (vs x1) (vi x3) (vs b1c) w R E:=by
   intro a5X s8 t6 t7 r8 t8 y8 v6 V2 b1c Fs8j1 J2 J4 H w c3b a4U I h
   unfold b9s
   intro _
   unfold a0z at h
   refine a3v (e:=3) (c:=a4n) (xs:=[x3]) I (b2P _) rfl rfl a9y a9z (nb rfl) fun cd ce cf ao ac cg=>?_
   obtain ⟨ap,h⟩:=h
   refine b6a (s:=b1c) (xs:=a5X) (ac.bring 2) c3b (ao.srcO ((ac.bring 2).bring 1)) ap fun ch aq ci g ar cj=>?_
   refine c5 (L3 _ _ _) ?_
   obtain ⟨o,i,au,av⟩:=h
   refine L5 (J:=fun n l w=>∃(s:Int×Sl×Int×Sl×Int×Int×(List c7)×(Option Nat)×(Option Nat))(H:Hp)(a2x:Sl)(a2y:Frag),n=i s∧l=(match s with | (a3O,C7,G3,C8,G4,G5,D3,M5,a5R)=>[(vi a3O)])∧(match s with | (a3O,C7,G3,C8,G4,G5,D3,M5,a5R)=>RowL 40 10 i6 a2x D3 a2y)∧(match s with | (a3O,C7,G3,C8,G4,G5,D3,M5,a5R)=>Inv w0 ps0 H0 H [bx g0 68 [(vs C7),(vi G3),(vs C8),(vi G4),(vi G5),(vs a2x),(Value.map M5),(Value.map a5R)],aq,a2y] w)∧o s H) ⟨_,(0,s8,t6,t7,r8,t8,y8,v6,V2),H,J2,J4,rfl,rfl,a4U,((((ar.bring 1).drop.bring 2).bring 1).bring 2),au⟩ ?_
   rintro ck cl w next2 ⟨⟨a3O,C7,G3,C8,G4,G5,D3,M5,a5R⟩,H,a2x,a2y,rfl,p,a6I,I,aw⟩ hn2
   dsimp only at p I a6I
   simp only [List.map_cons,List.map_nil,List.cons.injEq,and_true] at p
   have e33:=p
   simp only [e33]
   obtain ⟨n2,hm2,h⟩:∃n2:(Int×Sl×Int×Sl×Int×Int×(List c7)×(Option Nat)×(Option Nat))→Hp→Prop,(∀s' H',n2 s' H'→o s' H'∧i s' < i (a3O,C7,G3,C8,G4,G5,D3,M5,a5R))∧a0y (a5X++[x3]) x1 (x1.n:Int) a3O C7 G3 C8 G4 G5 D3 M5 a5R H n2 K:=⟨_,fun _ _ h=>h,av (a3O,C7,G3,C8,G4,G5,D3,M5,a5R) H (fun s' H'=>o s' H'∧i s' < i (a3O,C7,G3,C8,G4,G5,D3,M5,a5R)) aw (fun _ _ a b=>⟨a,b⟩)⟩
   unfold c3Z
   unfold a0y at h
   refine c5 pLs ?_
   refine d9 h (fun _ h=>?_) (fun _ h=>?_)
   ·obtain ⟨ax,ay,ad,q,h⟩:=h
    obtain ⟨cm,cn,az,q⟩:=q
    refine c5 (a3Q az _ _ _ _ ax ay) (c6 (ldA (vs:=(g7 ad)) Tryz.isAgg60 Tryz.sizeOf60 rfl (I.atH q)) ?_)
    refine u4 I Tryz.zeroValue60 (cs:=[(vi 0),(eS),(nS),(nS),(nS),(nS)]) rfl fun co cp ba cq=>?_
    refine y6 ba Tryz.sizeOf60 (vs:=(g7 ad)) fun cr bb ct=>?_
    refine Q9 bb fun cu m=>?_
    obtain ⟨ae,bc,r,h⟩:=h
    obtain ⟨cv,cw,af,cx⟩:=g.addr r
    refine g8 (b3p af _ _ _ _ ae (g.lt ae r)) ?_
    refine g8 pAd ?_
    obtain ⟨ag,bd,t,h⟩:=h
    obtain ⟨cy,cz,ah,da⟩:=g.addr t
    refine g8 (b3p ah _ _ _ _ ag (g.lt ag t)) ?_
    refine p6 (lW Tryz.isAgg60 Tryz.sizeOf60 rfl m) ?_
    refine p6 (ld1 (v:=(vi bc)) Tryz.isAgg3 (g.atW (m.bring 2) af r)) ?_
    refine p6 (ld1 (v:=(vi bd)) Tryz.isAgg3 (g.atW (m.bring 2) ah t)) ?_
    refine f0 Tryz.call45 (h g0 a2x a2y a6I) ((m.bring 3).bring 2) ?_
    rintro _ be _ db bf _ _ ⟨d,bg,bh,bi,rfl,rfl,bj,h⟩
    refine c5 pAd ?_
    exact hn2 _ _ _ (hm2 _ _ h).2 ⟨((IntKind.wrap .i64 (a3O+1)),d.fc.p7,d.fc.q9,d.fc.o9,d.fc.p5,d.fc.u5,bg,d.fvars,d.farrays),be,bh,bi,rfl,rfl,bj,((((bf.bring 2).drop.bring 1).bring 2).bring 2),(hm2 _ _ h).1⟩
   ·exact hR _ H _ _ (((I.bring 1).drop.bring 1).bring 1) ⟨(f9.mk (m3.mk C7 G3 C8 G4 G5 (Sl.mk none 0 0)) M5 a5R),D3,a2x,a2y,rfl,rfl,a6I,h⟩
  refine o6 fun j1 hx1=>?_
  refine c5 (L3 _ _ _) (c5 pSu ?_)
  obtain ⟨u,j,bk,bl⟩:=h
  refine L5 (J:=fun n l w=>∃(s:(List Int)×Int×Sl×Int×Sl×Int×Int×(List c7)×(Option Nat)×(Option Nat))(H:Hp)(a9h:Sl)(Fs8l3:Frag)(a2z:Sl)(a2A:Frag),n=j s∧l=(match s with | (U4,a7l,J9,K0,K1,K3,K4,E9,Q4,a5f)=>[(vs a9h),(vi a7l)])∧(match s with | (U4,a7l,J9,K0,K1,K3,K4,E9,Q4,a5f)=>RowL 3 1 a4n a9h U4 Fs8l3)∧(match s with | (U4,a7l,J9,K0,K1,K3,K4,E9,Q4,a5f)=>RowL 40 10 i6 a2z E9 a2A)∧(match s with | (U4,a7l,J9,K0,K1,K3,K4,E9,Q4,a5f)=>Inv w0 ps0 H0 H [bx g0 68 [(vs J9),(vi K0),(vs K1),(vi K3),(vi K4),(vs a2z),(Value.map Q4),(Value.map a5f)],Fs8l3,a2A] w)∧u s H) ⟨_,([x2],0,x0.fc.p7,x0.fc.q9,x0.fc.o9,x0.fc.p5,x0.fc.u5,k,x0.fvars,x0.farrays),H,ak,al,z,aa,rfl,rfl,am,ab,(((an.bring 2).bring 1).bring 2),bk⟩ ?_
  rintro dc dd w next3 ⟨⟨U4,a7l,J9,K0,K1,K3,K4,E9,Q4,a5f⟩,H,a9h,Fs8l3,a2z,a2A,rfl,y,b3Q,a6J,I,bm⟩ hn3
  dsimp only at y I b3Q a6J
  simp only [List.map_cons,List.map_nil,List.cons.injEq,and_true] at y
  obtain ⟨e8,e19⟩:=y
  simp only [e8,e19]
  obtain ⟨n3,hm3,h⟩:∃n3:((List Int)×Int×Sl×Int×Sl×Int×Int×(List c7)×(Option Nat)×(Option Nat))→Hp→Prop,(∀s' H',n3 s' H'→u s' H'∧j s' < j (U4,a7l,J9,K0,K1,K3,K4,E9,Q4,a5f))∧a0A x1 x3 (IntKind.wrap .i64 ((x1.n:Int)-1)) U4 a7l J9 K0 K1 K3 K4 E9 Q4 a5f H n3 K:=⟨_,fun _ _ h=>h,bl (U4,a7l,J9,K0,K1,K3,K4,E9,Q4,a5f) H (fun s' H'=>u s' H'∧j s' < j (U4,a7l,J9,K0,K1,K3,K4,E9,Q4,a5f)) bm (fun _ _ a b=>⟨a,b⟩)⟩
  unfold c4a
  unfold a0A at h
  refine c5 pLs ?_
  refine d9 h (fun _ h=>?_) (fun _ h=>?_)
  ·refine f0 Tryz.call23 (h g0 a2z a2A a6J) ((I.bring 2).bring 1) ?_
   rintro _ bn _ de bo _ _ ⟨ai,f,bp,bq,br,rfl,rfl,bs,h⟩
   refine a3v (e:=3) (c:=a4n) (xs:=[ai]) bo (b2P _) rfl rfl a9y a9z (nb rfl) fun df dg dh bt aj di=>?_
   obtain ⟨bu,h⟩:=h
   refine b6a (s:=a9h) (xs:=U4) (aj.bring 3) b3Q (bt.srcO ((aj.bring 3).bring 1)) bu fun bv bw dj bz ca dk=>?_
   refine c5 pAd ?_
   exact hn3 _ _ _ (hm3 _ _ h).2 ⟨((U4++[ai]),(IntKind.wrap .i64 (a7l+1)),f.fc.p7,f.fc.q9,f.fc.o9,f.fc.p5,f.fc.u5,bp,f.fvars,f.farrays),bn,bv,bw,bq,br,rfl,rfl,bz,bs,((((ca.bring 1).drop.bring 2).bring 1).bring 2),(hm3 _ _ h).1⟩
  ·exact hx1 _ _ (hj1 U4 J9 K0 K1 K3 K4 E9 Q4 a5f a9h Fs8l3 a2z a2A H _ b3Q a6J (((I.bring 2).bring 2).bring 2) h)
def a7v(x0:f5)(H:Hp)(K:ByteArray→Bool→Hp→Prop):Prop:=
 (x0.a7C=true→
 K x0.a5c.a1J.f6 true H)∧
 (x0.a7C=false→
 (x0.a7D=true→
 K x0.z8.m1.f6 ((decide (x0.z8.m1.c8=1))||(decide (x0.z8.m1.c8=2))) H)∧
 (x0.a7D=false→
 (x0.a7E=true→
 K x0.L1.y7.f6 ((decide (x0.L1.y7.c8=2))||(decide (x0.L1.y7.c8=4))) H)∧
 (x0.a7E=false→
 K ⟨#[]⟩ false H)))
theorem b4v(x0){H K}(h:a7v x0 H K):a3A x0 H K:=by
 refine Ct.of fun w0 w ps0 H0 R E I hR=>c7R ?_
 unfold a7v at h
 unfold d0Z
 refine c5 (b8z x0) (c5 (m0 _ _ (vB x0.a7C) rfl) (c5 (m0 _ _ _ rfl) ?_))
 refine m8 h (fun _ h=>?_) (fun _ h=>?_)
 ·refine u4 I Tryz.zeroValue195 (cs:=[(eS),(vi 0)]) rfl fun n o e q=>?_
  refine y6 e Tryz.sizeOf195 (vs:=[(Value.string x0.a5c.a1J.f6),(vi x0.a5c.a1J.N2)]) fun r d s=>?_
  refine c5 b2B (c5 T8 (c6 (l1 Tryz.isAgg9 d rfl) ?_))
  exact hR _ H _ _ d.drop ⟨x0.a5c.a1J.f6,true,rfl,rfl,h⟩
 ·refine c5 (b8A x0) (c5 (m0 _ _ (vB x0.a7D) rfl) (c5 (m0 _ _ _ rfl) ?_))
  refine m8 h (fun _ h=>?_) (fun _ h=>?_)
  ·refine u4 I Tryz.zeroValue197 (cs:=[(vi 0),(eS),(nS),(nS),(nS),(nS)]) rfl fun f t i u=>?_
   refine y6 i Tryz.sizeOf197 (vs:=[(vi x0.z8.m1.c8),(Value.string x0.z8.m1.f6),(vs x0.z8.m1.l7),(vs x0.z8.m1.r9),(vs x0.z8.m1.K5),(vs x0.z8.m1.L2)]) fun v j y=>?_
   refine Q9 j fun z b=>?_
   refine g8 R0 ?_
   refine g8 a0E ?_
   refine g8 R0 ?_
   refine g8 T7 ?_
   refine p6 (l1 Tryz.isAgg9 b rfl) ?_
   refine p6 (l1 Tryz.isAgg3 b rfl) ?_
   refine g8 pEq ?_
   refine g8 (Pu.g fun a=>by with_reducible exact R0) ?_
   refine g8 (Pu.g fun a=>by simp only [i4 a];with_reducible exact T7) ?_
   refine c9d (p:=(Value.pointer (some ⟨f,0,none⟩))) rfl (Ld.g fun a=>by simp only [i4 a];exact (l1 Tryz.isAgg3 b rfl)) ?_
   refine g8 (Pu.g fun a=>by simp only [i4 a];with_reducible exact pEq) ?_
   refine g8 (L8 _ _) ?_
   exact hR _ H _ _ b.drop ⟨x0.z8.m1.f6,((decide (x0.z8.m1.c8=1))||(decide (x0.z8.m1.c8=2))),rfl,rfl,h⟩
  ·refine c5 (b8B x0) (c5 (m0 _ _ (vB x0.a7E) rfl) (c5 (m0 _ _ _ rfl) ?_))
   refine m8 h (fun _ h=>?_) (fun _ h=>?_)
   ·refine u4 I Tryz.zeroValue202 (cs:=[(vi 0),(vi 0),(eS),(nS)]) rfl fun k aa l ab=>?_
    refine y6 l Tryz.sizeOf202 (vs:=[(vi x0.L1.y7.c8),(vi x0.L1.y7.s7),(Value.string x0.L1.y7.f6),(vs x0.L1.y7.u1)]) fun ac m ad=>?_
    refine Q9 m fun ae c=>?_
    refine g8 a1X ?_
    refine g8 a1V ?_
    refine g8 a1X ?_
    refine g8 C2 ?_
    refine p6 (l1 Tryz.isAgg9 c rfl) ?_
    refine p6 (l1 Tryz.isAgg3 c rfl) ?_
    refine g8 pEq ?_
    refine g8 (Pu.g fun a=>by with_reducible exact a1X) ?_
    refine g8 (Pu.g fun a=>by simp only [i4 a];with_reducible exact C2) ?_
    refine c9d (p:=(Value.pointer (some ⟨k,0,none⟩))) rfl (Ld.g fun a=>by simp only [i4 a];exact (l1 Tryz.isAgg3 c rfl)) ?_
    refine g8 (Pu.g fun a=>by simp only [i4 a];with_reducible exact pEq) ?_
    refine g8 (L8 _ _) ?_
    exact hR _ H _ _ c.drop ⟨x0.L1.y7.f6,((decide (x0.L1.y7.c8=2))||(decide (x0.L1.y7.c8=4))),rfl,rfl,h⟩
   ·exact hR _ H _ _ I ⟨⟨#[]⟩,false,rfl,rfl,h⟩
def a7e(x0:Int)(H:Hp)(K:Bool→Hp→Prop):Prop:=
 a5E x0 H (fun a b=>
 K ((decide (a=3))||(decide (a=4))) b)
theorem b4g(x0){H K}(h:a7e x0 H K):a7a x0 H K:=by
 refine Ct.of fun w0 w ps0 H0 R E I hR=>c7W ?_
 unfold a7e at h
 unfold d1e
 refine f0 Tryz.call134 h I ?_
 rintro _ c _ e d _ _ ⟨b,rfl,rfl,h⟩
 refine c5 pEq ?_
 simp only [z7]
 refine c5 (Pu.g fun a=>by simp only [i4 a];with_reducible exact pEq) ?_
 refine c5 (L8 _ _) ?_
 exact hR _ c _ _ d ⟨((decide (b=3))||(decide (b=4))),rfl,rfl,h⟩
def T0(b0r:Int)(H:Hp)(K:Int→Hp→Prop):Prop:=
 K b0r H
def a0S(b:ByteArray)(a6e:Int)(a:Nat)(H:Hp)(n2:(Int×Nat)→Hp→Prop)(K:Int→Hp→Prop):Prop:=
 (a < b.size→
 n2 ((IntKind.wrap .i64 (a6e+1)),(a+(Utf8.decode b a).2)) H)∧
 (¬(a < b.size)→
 T0 a6e H K)
def a1I(x0:ByteArray)(H:Hp)(K:Int→Hp→Prop):Prop:=
 TL ((0,0):Int×Nat) H fun(s:Int×Nat) H n2=>a0S x0 s.1 s.2 H n2 K
theorem a8y(x0){H K}(h:a1I x0 H K):a1r x0 H K:=by
 refine Ct.of fun w0 w ps0 H0 R E I hR=>c7Z ?_
 unfold a1I at h
 unfold d1h
 have hj1:∀(b0r:Int) H w (_:Inv w0 ps0 H0 H [] w) (_:T0 b0r H K),b7A (vi b0r) w R E:=by
  intro b0r H w I h
  unfold b7A
  intro _
  unfold T0 at h
  exact hR _ H _ _ I ⟨b0r,rfl,rfl,h⟩
 refine o6 fun j1 hx1=>?_
 refine c1o Tryz.underlying9 x0 I fun d i f j=>?_
 refine C9 (σ:=Int×Nat) (fun (a6e,a)=>[(vi a6e)]) (fun (a6e,a)=>[itf d x0 a]) h rfl f ?_
 rintro ⟨a6e,a⟩ H k w next2 n2 b I h hn2
 dsimp only at b I h
 simp only [List.map_cons,List.map_nil,List.cons.injEq,and_true] at b
 have e2:=b
 simp only [e2]
 unfold c1U
 unfold a0S at h
 refine c3K I (fun c l g m=>?_) (fun c=>?_)
 ·replace h:=h.1 c
  refine c5 (m0 _ _ (vB true) rfl) ?_
  refine a5b (fun e=>?_) (fun e=>by cases e)
  refine c5 pAd ?_
  exact hn2 ((IntKind.wrap .i64 (a6e+1)),(a+(Utf8.decode x0 a).2)) _ _ h g
 ·replace h:=h.2 c
  refine c5 (m0 _ _ (vB false) rfl) ?_
  refine a5b (fun e=>by cases e) (fun e=>?_)
  exact hx1 _ _ (hj1 a6e H _ I.drop h)
def a6L(H:Hp)(K:Bool→Hp→Prop):Prop:=
 K true H
def a4W(b:ByteArray)(a:Nat)(H:Hp)(n2:Nat→Hp→Prop)(K:Bool→Hp→Prop):Prop:=
 (a < b.size→
 a7a ((Utf8.decode b a).1:Int) H (fun c d=>
 TG ((!(!c)&&(decide (((a:Nat):Int)=0)))=true) (a5E ((Utf8.decode b a).1:Int) d) 0 d (fun(e:Int)(f:Hp)=>
 (((!c)||((decide (((a:Nat):Int)=0))&&(!decide (e=3))))=true→
 K false f)∧
 (((!c)||((decide (((a:Nat):Int)=0))&&(!decide (e=3))))=false→
 n2 (a+(Utf8.decode b a).2) f))))∧
 (¬(a < b.size)→
 a6L H K)
def a8d(x0:ByteArray)(H:Hp)(K:Bool→Hp→Prop):Prop:=
 TG ((decide (x0=⟨#[]⟩))=false) (a6T x0 H) false H (fun(a:Bool)(c:Hp)=>
 TG (((decide (x0=⟨#[]⟩))||(!a))=false) (a7V x0 c) false c (fun(b:Bool)(d:Hp)=>
 TG ((((decide (x0=⟨#[]⟩))||(!a))||b)=false) (a7W x0 d) false d (fun(e:Bool)(f:Hp)=>
 (((((decide (x0=⟨#[]⟩))||(!a))||b)||e)=true→
 K false f)∧
 (((((decide (x0=⟨#[]⟩))||(!a))||b)||e)=false→
 TL (0:Nat) f fun(s:Nat) H n2=>a4W x0 s H n2 K))))
theorem b5r(x0){H K}(h:a8d x0 H K):a6j x0 H K:=by
 refine Ct.of fun w0 w ps0 H0 R E I hR=>c7S ?_
 unfold a8d at h
 unfold d1a
 refine c5 (P4 _ _ _ _ _) ?_
 simp only [z7]
 refine a6N [] (fun d:Bool=>(vB d)) h I (fun r h=>?_) fun d s ai f t u h=>?_
 ·have a:=r
  simp only [i4 a]
  refine f0 Tryz.call130 h I ?_
  rintro _ s _ ai f u t ⟨d,rfl,rfl,h⟩
  exact ⟨d,s,rfl,f,t,u,h⟩
 refine c5 (Pu.g fun a=>by simp only [i4 a];with_reducible exact (T1 _)) ?_
 refine c5 (L8 _ _) ?_
 simp only [z7]
 refine a6N [] (fun i:Bool=>(vB i)) h f (fun v h=>?_) fun i y aj j z aa h=>?_
 ·have a:=v
  simp only [i4 a]
  refine f0 Tryz.call131 h f ?_
  rintro _ y _ aj j aa z ⟨i,rfl,rfl,h⟩
  exact ⟨i,y,rfl,j,z,aa,h⟩
 refine c5 (L8 _ _) ?_
 simp only [z7]
 refine a6N [] (fun k:Bool=>(vB k)) h j (fun ab h=>?_) fun k o ak l ac ad h=>?_
 ·have a:=ab
  simp only [i4 a]
  refine f0 Tryz.call132 h j ?_
  rintro _ o _ ak l ad ac ⟨k,rfl,rfl,h⟩
  exact ⟨k,o,rfl,l,ac,ad,h⟩
 refine c5 (L8 _ _) ?_
 refine m8 h (fun _ h=>?_) (fun _ h=>?_)
 ·exact hR _ o _ _ l ⟨false,rfl,rfl,h⟩
 ·have hj1:∀H w (_:Inv w0 ps0 H0 H [] w) (_:a6L H K),b7t w R E:=by
   intro H w I h
   unfold b7t
   intro _
   unfold a6L at h
   exact hR _ H _ _ I ⟨true,rfl,rfl,h⟩
  refine o6 fun j1 hx1=>?_
  refine c1o Tryz.underlying9 x0 l fun al aq am ar=>?_
  refine C9 (σ:=Nat) (fun c=>[]) (fun c=>[itf al x0 c]) h rfl am ?_
  rintro c H au w next2 n2 an I h hn2
  clear an
  unfold c1S
  unfold a4W at h
  refine c3K I (fun p av ao aw=>?_) (fun p=>?_)
  ·replace h:=h.1 p
   refine c5 (m0 _ _ (vB true) rfl) ?_
   refine a5b (fun e=>?_) (fun e=>by cases e)
   refine c5 (m0 _ _ (vi ((c:Nat):Int)) rfl) (c5 (m0 _ _ (Value.int .i32 ((Utf8.decode x0 c).1:Int)) rfl) ?_)
   refine f0 Tryz.call133 h ao ?_
   rintro _ _ _ ax ae _ _ ⟨ay,rfl,rfl,h⟩
   refine c5 (T1 _) ?_
   simp only [z7]
   refine c5 (Pu.g fun a=>by simp only [i4 a];with_reducible exact pEq) ?_
   simp only [a7g,b2M]
   refine d1X (a1d _ _ _) ?_
   refine a6N [] (fun m:Int=>(vi m)) h ae (fun af h=>?_) fun m q ap n ag ah h=>?_
   ·obtain ⟨a,b⟩:=a4o af
    simp only [i4 af]
    refine f0 Tryz.call134 h ae ?_
    rintro _ q _ ap n ah ag ⟨m,rfl,rfl,h⟩
    exact ⟨m,q,rfl,n,ag,ah,h⟩
   refine c5 (Pu.e (a1d _ _ _) (Pu.g fun hb=>by obtain ⟨a,b⟩:=a4o hb;simp only [i4 hb];with_reducible exact pNe)) ?_
   refine c5 (Pu.g fun a=>by simp only [i4 a,a9Y a];with_reducible exact (y9 _ _)) ?_
   refine c5 (L8 _ _) ?_
   refine m8 h (fun _ h=>?_) (fun _ h=>?_)
   ·exact hR _ q _ _ n.drop ⟨false,rfl,rfl,h⟩
   ·exact hn2 (c+(Utf8.decode x0 c).2) _ _ h n
  ·replace h:=h.2 p
   refine c5 (m0 _ _ (vB false) rfl) ?_
   refine a5b (fun e=>by cases e) (fun e=>?_)
   exact hx1 _ _ (hj1 H _ I.drop h)
def a7f(x0:m6)(H:Hp)(K:Int→Hp→Prop):Prop:=
 a7X x0 H (fun a b=>
 K a.fe b)
theorem b4h(x0){H K}(h:a7f x0 H K):a7b x0 H K:=by
 refine Ct.of fun w0 w ps0 H0 R E I hR=>d0q ?_
 unfold a7f at h
 unfold F92
 refine A9 I (cs:=(m5 x0)) rfl fun e f a g=>?_
 refine c6 (lW Tryz.isAgg25 Tryz.sizeOf25 rfl a) ?_
 refine f0 Tryz.call107 h a ?_
 rintro _ c _ i b _ _ ⟨d,j,rfl,rfl,h⟩
 refine c5 (m2 _) (c5 a8f (c6 (l1 Tryz.isAgg31 b rfl) ?_))
 exact hR _ c _ _ b.drop.drop ⟨d.fe,rfl,rfl,h⟩
def a7w(x0:i7)(H:Hp)(K:Int→Hp→Prop):Prop:=
 (0 < x0.N2→
 K 2 H)∧
 (¬(0 < x0.N2)→
 K 1 H)
theorem b4w(x0){H K}(h:a7w x0 H K):b0c x0 H K:=by
 refine Ct.of fun w0 w ps0 H0 R E I hR=>c9P ?_
 unfold a7w at h
 unfold F65
 refine A9 I (cs:=(i5 x0)) rfl fun b c a d=>?_
 refine c5 a2f (c6 (l1 Tryz.isAgg3 a rfl) (c5 pGt ?_))
 refine d9 h (fun _ h=>?_) (fun _ h=>?_)
 ·exact hR _ H _ _ a.drop ⟨2,rfl,rfl,h⟩
 ·exact hR _ H _ _ a.drop ⟨1,rfl,rfl,h⟩
def a5P(x0:a0D)(H:Hp)(K:Bool→Hp→Prop):Prop:=
 K ((decide (0≤x0.a1J.N2))&&(decide (x0.a1J.N2≤2147483647))) H
theorem b2i(x0){H K}(h:a5P x0 H K):a7U x0 H K:=by
 refine Ct.of fun w0 w ps0 H0 R E I hR=>c8b ?_
 unfold a5P at h
 unfold d1j
 refine A9 I (cs:=(i5 x0.a1J)) rfl fun c d b e=>?_
 refine c5 b2B (c5 a2f (c6 (l1 Tryz.isAgg3 b rfl) (c5 pGe ?_)))
 refine c5 (Pu.g fun a=>by with_reducible exact b2B) ?_
 refine c5 (Pu.g fun a=>by simp only [i4 a];with_reducible exact a2f) ?_
 refine c6 (Ld.g fun a=>by simp only [i4 a];exact (l1 Tryz.isAgg3 b rfl)) ?_
 refine c5 (Pu.g fun a=>by simp only [i4 a];with_reducible exact pLe) ?_
 refine c5 (y9 _ _) ?_
 exact hR _ H _ _ b.drop ⟨((decide (0≤x0.a1J.N2))&&(decide (x0.a1J.N2≤2147483647))),rfl,rfl,h⟩
def S2(a3B:Bool)(c6U:Int)(b5d:Bool)(a:B0)(b:W6)(H:Hp)(K:Bool→Hp→Prop):Prop:=
 (b5d=true→
 K (a3B&&(decide (a.fexprs=0∧a.fconds=1))) H)∧
 (b5d=false→
 (c6U=7→
 K (a3B&&(decide (a.fexprs=0∧a.fconds=0))) H)∧
 (¬(c6U=7)→
 K false H))
def a5Q(x0:W6)(H:Hp)(K:Bool→Hp→Prop):Prop:=
 (x0.m1.c8=1→
 K ((!(decide (0 < (IntKind.wrap .i64 ((x0.m1.K5.n:Int)+(x0.m1.L2.n:Int))))))&&(decide ((x0.m1.l7.n:Int)=1∧(x0.m1.r9.n:Int)=0))) H)∧
 (¬(x0.m1.c8=1)→
 (x0.m1.c8=2→
 K ((!(decide (0 < (IntKind.wrap .i64 ((x0.m1.K5.n:Int)+(x0.m1.L2.n:Int))))))&&(decide ((x0.m1.l7.n:Int)=2∧(x0.m1.r9.n:Int)=0))) H)∧
 (¬(x0.m1.c8=2)→
 (x0.m1.c8=3→
 K ((decide (x0.m1.f6=⟨#[]⟩))&&(decide ((x0.m1.l7.n:Int)=0∧(x0.m1.r9.n:Int)=1))) H)∧
 (¬(x0.m1.c8=3)→
 (x0.m1.c8=4→
 K (((decide (x0.m1.f6=⟨#[]⟩))&&(decide ((x0.m1.L2.n:Int)=0)))&&(decide ((x0.m1.l7.n:Int)=0∧(x0.m1.r9.n:Int)=1))) H)∧
 (¬(x0.m1.c8=4)→
 (x0.m1.c8=5→
 S2 ((decide (x0.m1.f6=⟨#[]⟩))&&(!(decide (0 < (IntKind.wrap .i64 ((x0.m1.K5.n:Int)+(x0.m1.L2.n:Int))))))) x0.m1.c8 (decide (x0.m1.c8=5)) (B0.mk (x0.m1.l7.n:Int) (x0.m1.r9.n:Int)) x0 H K)∧
 (¬(x0.m1.c8=5)→
 S2 ((decide (x0.m1.f6=⟨#[]⟩))&&(!(decide (0 < (IntKind.wrap .i64 ((x0.m1.K5.n:Int)+(x0.m1.L2.n:Int))))))) x0.m1.c8 (decide (x0.m1.c8=6)) (B0.mk (x0.m1.l7.n:Int) (x0.m1.r9.n:Int)) x0 H K)))))
theorem b2j(x0){H K}(h:a5Q x0 H K):a5H x0 H K:=by
 refine Ct.of fun w0 w ps0 H0 R E I hR=>c8d ?_
 unfold a5Q at h
 unfold d1l
 refine A9 I (cs:=(g7 x0.m1)) rfl fun e i c j=>?_
 refine c5 R0 (c5 Q7 (c6 (l1 Tryz.isAgg23 c rfl) (c5 (L3 _ _ _) (c5 R0 ?_))))
 refine c5 W9 (c6 (l1 Tryz.isAgg23 c rfl) (c5 (L3 _ _ _) (c5 pAd (c5 pGt ?_))))
 refine c5 R0 (c5 N3 (c6 (l1 Tryz.isAgg57 c rfl) (c5 (P7 _ _ _) (c5 R0 ?_))))
 refine c5 O2 (c6 (l1 Tryz.isAgg58 c rfl) (c5 (a0B _ _ _) (c5 (a5d _ _) ?_)))
 refine u4 c Tryz.zeroValue230 (cs:=[(vi 0),(vi 0)]) rfl fun d k f l=>?_
 refine y6 f Tryz.sizeOf230 (vs:=[(vi (x0.m1.l7.n:Int)),(vi (x0.m1.r9.n:Int))]) fun m b p=>?_
 refine c5 R0 (c5 a0E (c6 (l1 Tryz.isAgg9 (b.bring 1) rfl) (c5 (P4 _ _ _ _ _) ?_)))
 simp only [z7]
 refine c5 (Pu.g fun a=>by simp only [i4 a];with_reducible exact (T1 _)) ?_
 refine c5 (y9 _ _) (c5 R0 (c5 T7 (c6 (l1 Tryz.isAgg3 (b.bring 1) rfl) (c5 pEq ?_))))
 refine d9 h (fun _ h=>?_) (fun _ h=>?_)
 ·refine c5 (T1 _) ?_
  refine c6 (Ld.g fun a=>by exact (ldA Tryz.isAgg230 Tryz.sizeOf230 rfl (b.at1 (o:=0) (vs:=[(vi (x0.m1.l7.n:Int)),(vi (x0.m1.r9.n:Int))]) (nb rfl) rfl))) ?_
  refine c5 (Pu.g fun a=>by with_reducible exact (a5d _ _)) ?_
  refine c5 (Pu.g fun a=>by simp only [i4 a];with_reducible exact (a8B _ _ _ _ _ _)) ?_
  refine c5 (y9 _ _) ?_
  exact hR _ H _ _ b.drop.drop ⟨((!(decide (0 < (IntKind.wrap .i64 ((x0.m1.K5.n:Int)+(x0.m1.L2.n:Int))))))&&(decide ((x0.m1.l7.n:Int)=1∧(x0.m1.r9.n:Int)=0))),rfl,rfl,h⟩
 ·refine c5 pEq ?_
  refine d9 h (fun _ h=>?_) (fun _ h=>?_)
  ·refine c5 (T1 _) ?_
   refine c6 (Ld.g fun a=>by exact (ldA Tryz.isAgg230 Tryz.sizeOf230 rfl (b.at1 (o:=0) (vs:=[(vi (x0.m1.l7.n:Int)),(vi (x0.m1.r9.n:Int))]) (nb rfl) rfl))) ?_
   refine c5 (Pu.g fun a=>by with_reducible exact (a5d _ _)) ?_
   refine c5 (Pu.g fun a=>by simp only [i4 a];with_reducible exact (a8B _ _ _ _ _ _)) ?_
   refine c5 (y9 _ _) ?_
   exact hR _ H _ _ b.drop.drop ⟨((!(decide (0 < (IntKind.wrap .i64 ((x0.m1.K5.n:Int)+(x0.m1.L2.n:Int))))))&&(decide ((x0.m1.l7.n:Int)=2∧(x0.m1.r9.n:Int)=0))),rfl,rfl,h⟩
  ·refine c5 pEq ?_
   refine d9 h (fun _ h=>?_) (fun _ h=>?_)
   ·refine c5 R0 (c5 a0E (c6 (l1 Tryz.isAgg9 (b.bring 1) rfl) (c5 (P4 _ _ _ _ _) ?_)))
    refine c6 (Ld.g fun a=>by exact (ldA Tryz.isAgg230 Tryz.sizeOf230 rfl (b.at1 (o:=0) (vs:=[(vi (x0.m1.l7.n:Int)),(vi (x0.m1.r9.n:Int))]) (nb rfl) rfl))) ?_
    refine c5 (Pu.g fun a=>by with_reducible exact (a5d _ _)) ?_
    refine c5 (Pu.g fun a=>by simp only [i4 a];with_reducible exact (a8B _ _ _ _ _ _)) ?_
    refine c5 (y9 _ _) ?_
    exact hR _ H _ _ b.drop.drop ⟨((decide (x0.m1.f6=⟨#[]⟩))&&(decide ((x0.m1.l7.n:Int)=0∧(x0.m1.r9.n:Int)=1))),rfl,rfl,h⟩
   ·refine c5 pEq ?_
    refine d9 h (fun _ h=>?_) (fun _ h=>?_)
    ·refine c5 R0 (c5 a0E (c6 (l1 Tryz.isAgg9 (b.bring 1) rfl) (c5 (P4 _ _ _ _ _) ?_)))
     refine c5 (Pu.g fun a=>by with_reducible exact R0) ?_
     refine c5 (Pu.g fun a=>by simp only [i4 a];with_reducible exact W9) ?_
     refine c6 (Ld.g fun a=>by simp only [i4 a];exact (l1 Tryz.isAgg23 (b.bring 1) rfl)) ?_
     refine c5 (Pu.g fun a=>by simp only [i4 a];with_reducible exact (L3 _ _ _)) ?_
     refine c5 (Pu.g fun a=>by simp only [i4 a];with_reducible exact pEq) ?_
     refine c5 (y9 _ _) ?_
     refine c6 (Ld.g fun a=>by exact (ldA Tryz.isAgg230 Tryz.sizeOf230 rfl (b.at1 (o:=0) (vs:=[(vi (x0.m1.l7.n:Int)),(vi (x0.m1.r9.n:Int))]) (nb rfl) rfl))) ?_
     refine c5 (Pu.g fun a=>by with_reducible exact (a5d _ _)) ?_
     refine c5 (Pu.g fun a=>by simp only [i4 a];with_reducible exact (a8B _ _ _ _ _ _)) ?_
     refine c5 (y9 _ _) ?_
     exact hR _ H _ _ b.drop.drop ⟨(((decide (x0.m1.f6=⟨#[]⟩))&&(decide ((x0.m1.L2.n:Int)=0)))&&(decide ((x0.m1.l7.n:Int)=0∧(x0.m1.r9.n:Int)=1))),rfl,rfl,h⟩
    ·have hj1:∀(b5d:Bool) H w (_:Inv w0 ps0 H0 H [bx d 230 [(vi (B0.mk (x0.m1.l7.n:Int) (x0.m1.r9.n:Int)).fexprs),(vi (B0.mk (x0.m1.l7.n:Int) (x0.m1.r9.n:Int)).fconds)],bx e 197 (g7 x0.m1)] w) (_:S2 ((decide (x0.m1.f6=⟨#[]⟩))&&(!(decide (0 < (IntKind.wrap .i64 ((x0.m1.K5.n:Int)+(x0.m1.L2.n:Int))))))) x0.m1.c8 b5d (B0.mk (x0.m1.l7.n:Int) (x0.m1.r9.n:Int)) x0 H K),b7B (Value.pointer (some ⟨d,0,none⟩)) (vB ((decide (x0.m1.f6=⟨#[]⟩))&&(!(decide (0 < (IntKind.wrap .i64 ((x0.m1.K5.n:Int)+(x0.m1.L2.n:Int)))))))) (vi x0.m1.c8) (vB b5d) w R E:=by
      intro b5d H w I h
      unfold b7B
      intro _
      unfold S2 at h
      refine m8 h (fun _ h=>?_) (fun _ h=>?_)
      ·refine c6 (Ld.g fun a=>by exact (ldA Tryz.isAgg230 Tryz.sizeOf230 rfl (I.at1 (o:=0) (vs:=[(vi (B0.mk (x0.m1.l7.n:Int) (x0.m1.r9.n:Int)).fexprs),(vi (B0.mk (x0.m1.l7.n:Int) (x0.m1.r9.n:Int)).fconds)]) (nb rfl) rfl))) ?_
       refine c5 (Pu.g fun a=>by with_reducible exact (a5d _ _)) ?_
       refine c5 (Pu.g fun a=>by simp only [i4 a];with_reducible exact (a8B _ _ _ _ _ _)) ?_
       refine c5 (y9 _ _) ?_
       exact hR _ H _ _ I.drop.drop ⟨(((decide (x0.m1.f6=⟨#[]⟩))&&(!(decide (0 < (IntKind.wrap .i64 ((x0.m1.K5.n:Int)+(x0.m1.L2.n:Int)))))))&&(decide ((B0.mk (x0.m1.l7.n:Int) (x0.m1.r9.n:Int)).fexprs=0∧(B0.mk (x0.m1.l7.n:Int) (x0.m1.r9.n:Int)).fconds=1))),rfl,rfl,h⟩
      ·refine c5 pEq ?_
       refine d9 h (fun _ h=>?_) (fun _ h=>?_)
       ·refine c6 (Ld.g fun a=>by exact (ldA Tryz.isAgg230 Tryz.sizeOf230 rfl (I.at1 (o:=0) (vs:=[(vi (B0.mk (x0.m1.l7.n:Int) (x0.m1.r9.n:Int)).fexprs),(vi (B0.mk (x0.m1.l7.n:Int) (x0.m1.r9.n:Int)).fconds)]) (nb rfl) rfl))) ?_
        refine c5 (Pu.g fun a=>by with_reducible exact (c2E)) ?_
        refine c5 (Pu.g fun a=>by simp only [i4 a];with_reducible exact (a8B _ _ _ _ _ _)) ?_
        refine c5 (y9 _ _) ?_
        exact hR _ H _ _ I.drop.drop ⟨(((decide (x0.m1.f6=⟨#[]⟩))&&(!(decide (0 < (IntKind.wrap .i64 ((x0.m1.K5.n:Int)+(x0.m1.L2.n:Int)))))))&&(decide ((B0.mk (x0.m1.l7.n:Int) (x0.m1.r9.n:Int)).fexprs=0∧(B0.mk (x0.m1.l7.n:Int) (x0.m1.r9.n:Int)).fconds=0))),rfl,rfl,h⟩
       ·exact hR _ H _ _ I.drop.drop ⟨false,rfl,rfl,h⟩
     refine o6 fun j1 hx1=>?_
     refine c5 pEq ?_
     refine d9 h (fun _ h=>?_) (fun _ h=>?_)
     ·exact hx1 _ _ (hj1 (decide (x0.m1.c8=5)) H _ ((b.bring 1).bring 1) h)
     ·refine c5 pEq ?_
      exact hx1 _ _ (hj1 (decide (x0.m1.c8=6)) H _ ((b.bring 1).bring 1) h)
def D9(a2o:(List f5))(H:Hp)(K:Sl→Hp→Prop):Prop:=
 ∀(N4:Sl)(a:Hp),Hle H a→SlH a 1 v7 N4 a2o→N4.n≤N4.c→
 K N4 a
def E0(a4E:Sl)(a5n:Int)(B9:(List f5))(u6:Int)(H:Hp)(n2:((List f5)×Int)→Hp→Prop)(K:Sl→Hp→Prop):Prop:=
 (u6 < a5n→
 (0:Int)≤u6∧(u6:Int) < a4E.n∧∃a:j8,EltH H a4E u6 4 (f7 a)∧
 a8S a H (fun b c=>
 (B9.length+([b]:List f5).length)*17≤140737488355328∧
 n2 ((B9++[b]),(IntKind.wrap .i64 (u6+1))) c))∧
 (¬(u6 < a5n)→
 D9 B9 H K)
def M9(x0:Sl)(H:Hp)(K:Sl→Hp→Prop):Prop:=
 TL (([],0):(List f5)×Int) H fun(s:(List f5)×Int) H n2=>E0 x0 (x0.n:Int) s.1 s.2 H n2 K
theorem a3o(x0){H K}(h:M9 x0 H K):E8 x0 H K:=by
 refine Ct.of fun w0 w ps0 H0 R E I hR=>c8f ?_
 unfold M9 at h
 unfold d1n
 have hj1:∀(a2o:(List f5))(N4:Sl)(Fs5j1:Frag) H w (_:RowL 182 1 v7 N4 a2o Fs5j1) (_:Inv w0 ps0 H0 H [Fs5j1] w) (_:D9 a2o H K),b7C (vs N4) w R E:=by
  intro a2o N4 Fs5j1 H w b3y I h
  unfold b7C
  intro _
  unfold D9 at h
  obtain ⟨j,q,r,t,u⟩:=Inv.freezeC I b3y (by decide)
  replace h:=h N4 j r t u
  exact hR _ j _ _ q ⟨N4,rfl,rfl,h⟩
 refine o6 fun j1 hx1=>?_
 refine c5 (a0B _ _ _) ?_
 obtain ⟨f,d,v,y⟩:=h
 refine L5 (J:=fun n l w=>∃(s:(List f5)×Int)(H:Hp)(a2p:Sl)(Fs5l2:Frag),n=d s∧l=(match s with | (B9,u6)=>[(vs a2p),(vi u6)])∧(match s with | (B9,u6)=>RowL 182 1 v7 a2p B9 Fs5l2)∧(match s with | (B9,u6)=>Inv w0 ps0 H0 H [Fs5l2] w)∧f s H) ⟨_,([],0),H,(Sl.mk none 0 0),[],rfl,rfl,(RowL.nil U8 a0b),I.nil,v⟩ ?_
 rintro am an w next2 ⟨⟨B9,u6⟩,H,a2p,Fs5l2,rfl,g,a6y,I,z⟩ hn2
 dsimp only at g I a6y
 simp only [List.map_cons,List.map_nil,List.cons.injEq,and_true] at g
 obtain ⟨e5,e10⟩:=g
 simp only [e5,e10]
 obtain ⟨n2,hm2,h⟩:∃n2:((List f5)×Int)→Hp→Prop,(∀s' H',n2 s' H'→f s' H'∧d s' < d (B9,u6))∧E0 x0 (x0.n:Int) B9 u6 H n2 K:=⟨_,fun _ _ h=>h,y (B9,u6) H (fun s' H'=>f s' H'∧d s' < d (B9,u6)) z (fun _ _ a b=>⟨a,b⟩)⟩
 unfold c1V
 unfold E0 at h
 refine c5 pLs ?_
 refine d9 h (fun _ h=>?_) (fun _ h=>?_)
 ·obtain ⟨aa,ab,k,i,h⟩:=h
  obtain ⟨ao,ap,ac,i⟩:=i
  refine c5 (L0 ac _ _ _ _ aa ab) (c6 (ldA (vs:=(f7 k)) Tryz.isAgg131 Tryz.sizeOf131 rfl (I.atH i)) ?_)
  refine u4 I Tryz.zeroValue131 (cs:=[(vi 0),(vi 0),(nS),(nS)]) rfl fun aq ar ad au=>?_
  refine y6 ad Tryz.sizeOf131 (vs:=(f7 k)) fun av m aw=>?_
  refine c6 (lW Tryz.isAgg131 Tryz.sizeOf131 rfl m) ?_
  refine f0 Tryz.call160 h m ?_
  rintro _ ae _ ax af _ _ ⟨o,rfl,rfl,h⟩
  refine a3v (e:=182) (c:=v7) (xs:=[o]) af (b3u _) rfl rfl U8 a0b (nb rfl) fun ay az ba ag p bb=>?_
  obtain ⟨ah,h⟩:=h
  refine b2S (s:=a2p) (xs:=B9) (p.bring 2) a6y (ag.srcO ((p.bring 2).bring 1)) ah fun ai aj bc ak al bd=>?_
  refine c5 pAd ?_
  exact hn2 _ _ _ (hm2 _ _ h).2 ⟨((B9++[o]),(IntKind.wrap .i64 (u6+1))),ae,ai,aj,rfl,rfl,ak,((al.bring 1).drop.bring 1).drop,(hm2 _ _ h).1⟩
 ·exact hx1 _ _ (hj1 B9 a2p Fs5l2 H _ a6y I h)
def E1(a2o:(List f5))(H:Hp)(K:Sl→Hp→Prop):Prop:=
 ∀(N4:Sl)(a:Hp),Hle H a→SlH a 1 v7 N4 a2o→N4.n≤N4.c→
 K N4 a
def E2(a4E:Sl)(a5n:Int)(B9:(List f5))(u6:Int)(H:Hp)(n2:((List f5)×Int)→Hp→Prop)(K:Sl→Hp→Prop):Prop:=
 (u6 < a5n→
 (0:Int)≤u6∧(u6:Int) < a4E.n∧∃a:f8,EltH H a4E u6 4 (d7 a)∧
 a8T a H (fun b c=>
 (B9.length+([b]:List f5).length)*17≤140737488355328∧
 n2 ((B9++[b]),(IntKind.wrap .i64 (u6+1))) c))∧
 (¬(u6 < a5n)→
 E1 B9 H K)
def N0(x0:Sl)(H:Hp)(K:Sl→Hp→Prop):Prop:=
 TL (([],0):(List f5)×Int) H fun(s:(List f5)×Int) H n2=>E2 x0 (x0.n:Int) s.1 s.2 H n2 K
theorem a3p(x0){H K}(h:N0 x0 H K):B2 x0 H K:=by
 refine Ct.of fun w0 w ps0 H0 R E I hR=>c8h ?_
 unfold N0 at h
 unfold d1p
 have hj1:∀(a2o:(List f5))(N4:Sl)(Fs5j1:Frag) H w (_:RowL 182 1 v7 N4 a2o Fs5j1) (_:Inv w0 ps0 H0 H [Fs5j1] w) (_:E1 a2o H K),b7D (vs N4) w R E:=by
  intro a2o N4 Fs5j1 H w b3y I h
  unfold b7D
  intro _
  unfold E1 at h
  obtain ⟨j,q,r,t,u⟩:=Inv.freezeC I b3y (by decide)
  replace h:=h N4 j r t u
  exact hR _ j _ _ q ⟨N4,rfl,rfl,h⟩
 refine o6 fun j1 hx1=>?_
 refine c5 (P7 _ _ _) ?_
 obtain ⟨f,d,v,y⟩:=h
 refine L5 (J:=fun n l w=>∃(s:(List f5)×Int)(H:Hp)(a2p:Sl)(Fs5l2:Frag),n=d s∧l=(match s with | (B9,u6)=>[(vs a2p),(vi u6)])∧(match s with | (B9,u6)=>RowL 182 1 v7 a2p B9 Fs5l2)∧(match s with | (B9,u6)=>Inv w0 ps0 H0 H [Fs5l2] w)∧f s H) ⟨_,([],0),H,(Sl.mk none 0 0),[],rfl,rfl,(RowL.nil U8 a0b),I.nil,v⟩ ?_
 rintro am an w next2 ⟨⟨B9,u6⟩,H,a2p,Fs5l2,rfl,g,a6y,I,z⟩ hn2
 dsimp only at g I a6y
 simp only [List.map_cons,List.map_nil,List.cons.injEq,and_true] at g
 obtain ⟨e5,e10⟩:=g
 simp only [e5,e10]
 obtain ⟨n2,hm2,h⟩:∃n2:((List f5)×Int)→Hp→Prop,(∀s' H',n2 s' H'→f s' H'∧d s' < d (B9,u6))∧E2 x0 (x0.n:Int) B9 u6 H n2 K:=⟨_,fun _ _ h=>h,y (B9,u6) H (fun s' H'=>f s' H'∧d s' < d (B9,u6)) z (fun _ _ a b=>⟨a,b⟩)⟩
 unfold c1W
 unfold E2 at h
 refine c5 pLs ?_
 refine d9 h (fun _ h=>?_) (fun _ h=>?_)
 ·obtain ⟨aa,ab,k,i,h⟩:=h
  obtain ⟨ao,ap,ac,i⟩:=i
  refine c5 (A0 ac _ _ _ _ aa ab) (c6 (ldA (vs:=(d7 k)) Tryz.isAgg123 Tryz.sizeOf123 rfl (I.atH i)) ?_)
  refine u4 I Tryz.zeroValue123 (cs:=[(vi 0),(vi 0),(eS),(nS)]) rfl fun aq ar ad au=>?_
  refine y6 ad Tryz.sizeOf123 (vs:=(d7 k)) fun av m aw=>?_
  refine c6 (lW Tryz.isAgg123 Tryz.sizeOf123 rfl m) ?_
  refine f0 Tryz.call162 h m ?_
  rintro _ ae _ ax af _ _ ⟨o,rfl,rfl,h⟩
  refine a3v (e:=182) (c:=v7) (xs:=[o]) af (b3u _) rfl rfl U8 a0b (nb rfl) fun ay az ba ag p bb=>?_
  obtain ⟨ah,h⟩:=h
  refine b2S (s:=a2p) (xs:=B9) (p.bring 2) a6y (ag.srcO ((p.bring 2).bring 1)) ah fun ai aj bc ak al bd=>?_
  refine c5 pAd ?_
  exact hn2 _ _ _ (hm2 _ _ h).2 ⟨((B9++[o]),(IntKind.wrap .i64 (u6+1))),ae,ai,aj,rfl,rfl,ak,((al.bring 1).drop.bring 1).drop,(hm2 _ _ h).1⟩
 ·exact hx1 _ _ (hj1 B9 a2p Fs5l2 H _ a6y I h)
end Go.Proofs.YtaokfhdinhimfaaGreatDoor
