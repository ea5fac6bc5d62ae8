/- Typed formulas of the program's functions, and the theorems that the contracts follow from them; printed by lift.py off the code. -/
import Derived.Test.YtnhdnncbjddmjaaGreatDooryEV1
namespace Go.Proofs.YtnhdnncbjddmjaaGreatDoor
open Go.RowKit
set_option maxRecDepth 100000
set_option maxHeartbeats 2000000
def a2V(x0:c6)(H:Hp)(K:ByteArray→Bool→Hp→Prop):Prop:=
 (x0.a3l=true→
 K x0.a0Q.T7.f4 true H)∧
 (x0.a3l=false→
 (x0.a3m=true→
 K x0.o5.d6.f4 ((decide (x0.o5.d6.b8=1))||(decide (x0.o5.d6.b8=2))) H)∧
 (x0.a3m=false→
 (x0.a3k=true→
 K x0.B0.m8.f4 ((decide (x0.B0.m8.b8=2))||(decide (x0.B0.m8.b8=4))) H)∧
 (x0.a3k=false→
 K ⟨#[]⟩ false H)))
theorem a7O(x0){H K}(h:a2V x0 H K):Z7 x0 H K:=by
 refine Ct.of fun w0 w ps0 H0 R E I hR=>b9q ?_
 unfold a2V at h
 unfold F80
 refine a7 (b0R x0) (a7 (v8 _ _ (vB x0.a3l) rfl) (a7 (v8 _ _ _ rfl) ?_))
 refine g6 h (fun _ h=>?_) (fun _ h=>?_)
 ·refine L1 I Tryz.zeroValue118 (cs:=[(eS),(vi 0)]) rfl fun n o e q=>?_
  refine U3 e Tryz.sizeOf118 (vs:=[(Value.string x0.a0Q.T7.f4),(vi x0.a0Q.T7.L3)]) fun r d s=>?_
  refine a7 a6x (a7 a3o (b9 (l1 Tryz.isAgg9 d rfl) ?_))
  exact hR _ H _ _ d.drop ⟨x0.a0Q.T7.f4,true,rfl,rfl,h⟩
 ·refine a7 (b0S x0) (a7 (v8 _ _ (vB x0.a3m) rfl) (a7 (v8 _ _ _ rfl) ?_))
  refine g6 h (fun _ h=>?_) (fun _ h=>?_)
  ·refine L1 I Tryz.zeroValue120 (cs:=[(vi 0),(eS),(nS),(nS),(nS),(nS)]) rfl fun f t i u=>?_
   refine U3 i Tryz.sizeOf120 (vs:=[(vi x0.o5.d6.b8),(Value.string x0.o5.d6.f4),(vs x0.o5.d6.f0),(vs x0.o5.d6.m7),(vs x0.o5.d6.D1),(vs x0.o5.d6.A6)]) fun v j y=>?_
   refine V9 j fun z b=>?_
   refine f6 G7 ?_
   refine f6 a0y ?_
   refine f6 G7 ?_
   refine f6 U5 ?_
   refine l8 (l1 Tryz.isAgg9 b rfl) ?_
   refine l8 (l1 Tryz.isAgg3 b rfl) ?_
   refine f6 pEq ?_
   refine f6 (Pu.g fun a=>by with_reducible exact G7) ?_
   refine f6 (Pu.g fun a=>by simp only [d9 a];with_reducible exact U5) ?_
   refine b7Y (p:=(Value.pointer (some ⟨f,0,none⟩))) rfl (Ld.g fun a=>by simp only [d9 a];exact (l1 Tryz.isAgg3 b rfl)) ?_
   refine f6 (Pu.g fun a=>by simp only [d9 a];with_reducible exact pEq) ?_
   refine f6 (K7 _ _) ?_
   exact hR _ H _ _ b.drop ⟨x0.o5.d6.f4,((decide (x0.o5.d6.b8=1))||(decide (x0.o5.d6.b8=2))),rfl,rfl,h⟩
  ·refine a7 (b2F x0) (a7 (v8 _ _ (vB x0.a3k) rfl) (a7 (v8 _ _ _ rfl) ?_))
   refine g6 h (fun _ h=>?_) (fun _ h=>?_)
   ·refine L1 I Tryz.zeroValue85 (cs:=[(vi 0),(vi 0),(eS),(nS)]) rfl fun k aa l ab=>?_
    refine U3 l Tryz.sizeOf85 (vs:=[(vi x0.B0.m8.b8),(vi x0.B0.m8.a0w),(Value.string x0.B0.m8.f4),(vs x0.B0.m8.r5)]) fun ac m ad=>?_
    refine V9 m fun ae c=>?_
    refine f6 Z3 ?_
    refine f6 a2j ?_
    refine f6 Z3 ?_
    refine f6 L8 ?_
    refine l8 (l1 Tryz.isAgg9 c rfl) ?_
    refine l8 (l1 Tryz.isAgg3 c rfl) ?_
    refine f6 pEq ?_
    refine f6 (Pu.g fun a=>by with_reducible exact Z3) ?_
    refine f6 (Pu.g fun a=>by simp only [d9 a];with_reducible exact L8) ?_
    refine b7Y (p:=(Value.pointer (some ⟨k,0,none⟩))) rfl (Ld.g fun a=>by simp only [d9 a];exact (l1 Tryz.isAgg3 c rfl)) ?_
    refine f6 (Pu.g fun a=>by simp only [d9 a];with_reducible exact pEq) ?_
    refine f6 (K7 _ _) ?_
    exact hR _ H _ _ c.drop ⟨x0.B0.m8.f4,((decide (x0.B0.m8.b8=2))||(decide (x0.B0.m8.b8=4))),rfl,rfl,h⟩
   ·exact hR _ H _ _ I ⟨⟨#[]⟩,false,rfl,rfl,h⟩
def Q2(K5:Int)(H:Hp)(K:Int→Hp→Prop):Prop:=
 K K5 H
def Q3(a2b:Int)(H:Hp)(K:Int→Hp→Prop):Prop:=
 Q2 (IntKind.wrap .i64 (a2b-1)) H K
def L0(a7P:Int)(H:Hp)(K:Int→Hp→Prop):Prop:=
 Q3 (IntKind.wrap .i64 (a7P-1)) H K
def D2(a6z:Int)(b3B:Int)(a9D:Bool)(H:Hp)(K:Int→Hp→Prop):Prop:=
 (a9D=true→
 L0 a6z H K)∧
 (a9D=false→
 (b3B=5→
 Q3 a6z H K)∧
 (¬(b3B=5)→
 Q2 a6z H K))
def G6(b3C:Int)(a3E:Int)(a9E:Bool)(H:Hp)(K:Int→Hp→Prop):Prop:=
 (a9E=true→
 L0 (IntKind.wrap .i64 (b3C-1)) H K)∧
 (a9E=false→
 (a3E=8→
 D2 b3C a3E (decide (a3E=8)) H K)∧
 (¬(a3E=8)→
 (a3E=9→
 D2 b3C a3E (decide (a3E=9)) H K)∧
 (¬(a3E=9)→
 D2 b3C a3E (decide (a3E=10)) H K)))
def a2W(x0:Int)(H:Hp)(K:Int→Hp→Prop):Prop:=
 (x0=6→
 G6 4 x0 (decide (x0=6)) H K)∧
 (¬(x0=6)→
 G6 4 x0 (decide (x0=7)) H K)
theorem a5Q(x0){H K}(h:a2W x0 H K):U8 x0 H K:=by
 refine Ct.of fun w0 w ps0 H0 R E I hR=>b8J ?_
 unfold a2W at h
 unfold F37
 have hj1:∀(K5:Int) H w (_:Inv w0 ps0 H0 H [] w) (_:Q2 K5 H K),b1k (vi K5) w R E:=by
  intro K5 H w I h
  unfold b1k
  intro _
  unfold Q2 at h
  exact hR _ H _ _ I ⟨K5,rfl,rfl,h⟩
 refine k8 fun j1 hx1=>?_
 have hj2:∀(a2b:Int) H w (_:Inv w0 ps0 H0 H [] w) (_:Q3 a2b H K),b1l (vi a2b) w j1 R E:=by
  intro a2b H w I h
  unfold b1l
  intro _
  unfold Q3 at h
  refine a7 pSu ?_
  exact hx1 _ _ (hj1 (IntKind.wrap .i64 (a2b-1)) H _ I h)
 refine k8 fun j2 hx2=>?_
 have hj3:∀(a7P:Int) H w (_:Inv w0 ps0 H0 H [] w) (_:L0 a7P H K),b1m (vi a7P) w j2 R E:=by
  intro a7P H w I h
  unfold b1m
  intro _
  unfold L0 at h
  refine a7 pSu ?_
  exact hx2 _ _ (hj2 (IntKind.wrap .i64 (a7P-1)) H _ I h)
 refine k8 fun j3 hx3=>?_
 have hj4:∀(a9E:Bool) H w (_:Inv w0 ps0 H0 H [] w) (_:G6 4 x0 a9E H K),b1o (vi 4) (vi x0) (vB a9E) w j3 j2 j1 R E:=by
  intro a9E H w I h
  unfold b1o
  intro _
  unfold G6 at h
  refine g6 h (fun _ h=>?_) (fun _ h=>?_)
  ·refine a7 pSu ?_
   exact hx3 _ _ (hj3 (IntKind.wrap .i64 (4-1)) H _ I h)
  ·have hj5:∀(a9D:Bool) H w (_:Inv w0 ps0 H0 H [] w) (_:D2 4 x0 a9D H K),b1n (vi 4) (vi x0) (vB a9D) w j3 j2 j1 R E:=by
    intro a9D H w I h
    unfold b1n
    intro _
    unfold D2 at h
    refine g6 h (fun _ h=>?_) (fun _ h=>?_)
    ·exact hx3 _ _ (hj3 4 H _ I h)
    ·refine a7 pEq ?_
     refine c8 h (fun _ h=>?_) (fun _ h=>?_)
     ·exact hx2 _ _ (hj2 4 H _ I h)
     ·exact hx1 _ _ (hj1 4 H _ I h)
   refine k8 fun j5 hx5=>?_
   refine a7 pEq ?_
   refine c8 h (fun _ h=>?_) (fun _ h=>?_)
   ·exact hx5 _ _ (hj5 (decide (x0=8)) H _ I h)
   ·refine a7 pEq ?_
    refine c8 h (fun _ h=>?_) (fun _ h=>?_)
    ·exact hx5 _ _ (hj5 (decide (x0=9)) H _ I h)
    ·refine a7 pEq ?_
     exact hx5 _ _ (hj5 (decide (x0=10)) H _ I h)
 refine k8 fun j4 hx4=>?_
 refine a7 pEq ?_
 refine c8 h (fun _ h=>?_) (fun _ h=>?_)
 ·exact hx4 _ _ (hj4 (decide (x0=6)) H _ I h)
 ·refine a7 pEq ?_
  exact hx4 _ _ (hj4 (decide (x0=7)) H _ I h)
def W7(x0:c5)(b:(List Int))(x1:ByteArray)(H:Hp)(K:Int→Value→c5→(List Int)→Hp→Prop):Prop:=
 a2d (f2 x0) b H (fun c a d=>
 ((a:List Int).length+x1.size)*2≤140737488355328∧
 K (x1.size:Int) Value.nilIface (f2 c) (a++(sbytes x1)) d)
theorem a4x(x0 a x1){H K}(h:W7 x0 a x1 H K):W1 x0 a x1 H K:=by
 intro g0 e f g
 refine Ct.of fun w0 w ps0 H0 R E I hR=>b8R ?_
 unfold W7 at h
 unfold F47
 refine d3 Tryz.call68 (h g0 e f g) ((I.bring 1).bring 1) ?_
 rintro _ i _ t c _ _ ⟨j,d,k,u,rfl,rfl,l,h⟩
 refine a7 (g7 _) (a7 a4c (b9 (l1 Tryz.isAgg40 c rfl) ?_))
 obtain ⟨m,h⟩:=h
 refine b4l (s:=k) (xs:=d) (b:=x1) (c.bring 1) l m fun n o v p q y=>?_
 refine a7 (g7 _) (a7 a4c ?_)
 refine P9 (q.bring 1) Tryz.sizeOf40 fun z r aa=>?_
 refine a7 (a2P _) ?_
 exact hR _ i _ _ ((r.bring 1).bring 1) ⟨(x1.size:Int),Value.nilIface,(f2 j),(d++(sbytes x1)),n,o,rfl,rfl,p,h⟩
def a2o(x0:G4)(H:Hp)(K:c6→Hp→Prop):Prop:=
 K (c6.D5 (O7.mk x0)) H
theorem a7j(x0){H K}(h:a2o x0 H K):a4f x0 H K:=by
 refine Ct.of fun w0 w ps0 H0 R E I hR=>b8O ?_
 unfold a2o at h
 unfold F43
 refine y7 I (cs:=(u7 x0)) rfl fun b c a d=>?_
 refine b9 (lW Tryz.isAgg46 Tryz.sizeOf46 rfl a) (a7 (b0P _ _) (a7 (b0n (O7.mk x0)) ?_))
 exact hR _ H _ _ a.drop ⟨(c6.D5 (O7.mk x0)),rfl,rfl,h⟩
def s7(V2:(List c6))(H:Hp)(K:Sl→Hp→Prop):Prop:=
 ∀(E4:Sl)(a:Hp),Hle H a→SlH a 1 l7 E4 V2→NewS H a 92 1 E4→
 K E4 a
def s8(a0E:Sl)(a4j:Int)(p9:(List c6))(p5:Int)(H:Hp)(n2:((List c6)×Int)→Hp→Prop)(K:Sl→Hp→Prop):Prop:=
 (p5 < a4j→
 (0:Int)≤p5∧(p5:Int) < a0E.n∧∃a:G4,EltH H a0E p5 2 (u7 a)∧
 a4f a H (fun b c=>
 (p9.length+([b]:List c6).length)*17≤140737488355328∧
 n2 ((p9++[b]),(IntKind.wrap .i64 (p5+1))) c))∧
 (¬(p5 < a4j)→
 s7 p9 H K)
def C4(x0:Sl)(H:Hp)(K:Sl→Hp→Prop):Prop:=
 TL (([],0):(List c6)×Int) H fun(s:(List c6)×Int) H n2=>s8 x0 (x0.n:Int) s.1 s.2 H n2 K
theorem Y5(x0){H K}(h:C4 x0 H K):C0 x0 H K:=by
 refine Ct.of fun w0 w ps0 H0 R E I hR=>b8N ?_
 unfold C4 at h
 unfold F42
 have hj1:∀(V2:(List c6))(E4:Sl)(Fs5j1:Frag) H w (_:RowL 92 1 l7 E4 V2 Fs5j1) (_:Inv w0 ps0 H0 H [Fs5j1] w) (_:s7 V2 H K),b1s (vs E4) w R E:=by
  intro V2 E4 Fs5j1 H w a7i I h
  unfold b1s
  intro _
  unfold s7 at h
  obtain ⟨j,q,r,t,u⟩:=Inv.freezeN I a7i (by decide)
  replace h:=h E4 j r t u
  exact hR _ j _ _ q ⟨E4,rfl,rfl,h⟩
 refine k8 fun j1 hx1=>?_
 refine a7 (a4V _ _ _) ?_
 obtain ⟨f,d,v,y⟩:=h
 refine a1B (J:=fun n l w=>∃(s:(List c6)×Int)(H:Hp)(V3:Sl)(Fs5l2:Frag),n=d s∧l=(match s with | (p9,p5)=>[(vs V3),(vi p5)])∧(match s with | (p9,p5)=>RowL 92 1 l7 V3 p9 Fs5l2)∧(match s with | (p9,p5)=>Inv w0 ps0 H0 H [Fs5l2] w)∧f s H) ⟨_,([],0),H,(Sl.mk none 0 0),[],rfl,rfl,(RowL.nil G9 K4),I.nil,v⟩ ?_
 rintro am an w next2 ⟨⟨p9,p5⟩,H,V3,Fs5l2,rfl,g,a2m,I,z⟩ hn2
 dsimp only at g I a2m
 simp only [List.map_cons,List.map_nil,List.cons.injEq,and_true] at g
 obtain ⟨e5,e10⟩:=g
 simp only [e5,e10]
 obtain ⟨n2,hm2,h⟩:∃n2:((List c6)×Int)→Hp→Prop,(∀s' H',n2 s' H'→f s' H'∧d s' < d (p9,p5))∧s8 x0 (x0.n:Int) p9 p5 H n2 K:=⟨_,fun _ _ h=>h,y (p9,p5) H (fun s' H'=>f s' H'∧d s' < d (p9,p5)) z (fun _ _ a b=>⟨a,b⟩)⟩
 unfold b4G
 unfold s8 at h
 refine a7 pLs ?_
 refine c8 h (fun _ h=>?_) (fun _ h=>?_)
 ·obtain ⟨aa,ab,k,i,h⟩:=h
  obtain ⟨ao,ap,ac,i⟩:=i
  refine a7 (a4I ac _ _ _ _ aa ab) (b9 (ldA (vs:=(u7 k)) Tryz.isAgg46 Tryz.sizeOf46 rfl (I.atH i)) ?_)
  refine L1 I Tryz.zeroValue46 (cs:=[(eS),(vi 0)]) rfl fun aq ar ad au=>?_
  refine U3 ad Tryz.sizeOf46 (vs:=(u7 k)) fun av m aw=>?_
  refine b9 (lW Tryz.isAgg46 Tryz.sizeOf46 rfl m) ?_
  refine d3 Tryz.call43 h m ?_
  rintro _ ae _ ax af _ _ ⟨o,rfl,rfl,h⟩
  refine W0 (e:=92) (c:=l7) (xs:=[o]) af (a6H _) rfl rfl G9 K4 (nb rfl) fun ay az ba ag p bb=>?_
  obtain ⟨ah,h⟩:=h
  refine a7K (s:=V3) (xs:=p9) (p.bring 2) a2m (ag.srcO ((p.bring 2).bring 1)) ah fun ai aj bc ak al bd=>?_
  refine a7 pAd ?_
  exact hn2 _ _ _ (hm2 _ _ h).2 ⟨((p9++[o]),(IntKind.wrap .i64 (p5+1))),ae,ai,aj,rfl,rfl,ak,((al.bring 1).drop.bring 1).drop,(hm2 _ _ h).1⟩
 ·exact hx1 _ _ (hj1 p9 V3 Fs5l2 H _ a2m I h)
def y8(c1j:Sl)(a6z:Int)(c1k:Sl)(c1g:Int)(c0w:Int)(H:Hp)(n4:(Int×Int)→Hp→Prop)(K:Sl→Hp→Prop):Prop:=
 n4 (a6z,(IntKind.wrap .i64 (c0w+1))) H
def y9(a9b:(List c6))(H:Hp)(K:Sl→Hp→Prop):Prop:=
 ∀(a5t:Sl)(a:Hp),Hle H a→SlH a 1 l7 a5t a9b→NewS H a 92 1 a5t→
 K a5t a
def z6(b6y:Sl)(b6z:Int)(a2p:(List c6))(a1U:Int)(H:Hp)(n3:((List c6)×Int)→Hp→Prop)(K:Sl→Hp→Prop):Prop:=
 (a1U < b6z→
 (0:Int)≤a1U∧(a1U:Int) < b6y.n∧∃b:Sl,EltH H b6y a1U 1 [(vs b)]∧
 ∃a:List c6,SlH H 1 l7 b a∧(a2p.length+a.length)*17≤140737488355328∧
 n3 ((a2p++a),(IntKind.wrap .i64 (a1U+1))) H)∧
 (¬(a1U < b6z)→
 y9 a2p H K)
def z7(b3D:Sl)(K5:Int)(H:Hp)(K:Sl→Hp→Prop):Prop:=
 K9 K5 H (fun a b=>
 TL ((a,0):(List c6)×Int) b fun(s:(List c6)×Int) H n3=>z6 b3D (b3D.n:Int) s.1 s.2 H n3 K)
def D8(b9P:Sl)(a3P:Sl)(b3E:Int)(a6A:Int)(a3t:Int)(H:Hp)(n4:(Int×Int)→Hp→Prop)(K:Sl→Hp→Prop):Prop:=
 (a3t < b3E→
 (0:Int)≤a3t∧(a3t:Int) < a3P.n∧∃a:Sl,EltH H a3P a3t 1 [(vs a)]∧
 ((IntKind.wrap .i64 (a6A+(a.n:Int))) < 0→
 False)∧
 (¬((IntKind.wrap .i64 (a6A+(a.n:Int))) < 0)→
 y8 b9P (IntKind.wrap .i64 (a6A+(a.n:Int))) a3P b3E a3t H n4 K))∧
 (¬(a3t < b3E)→
 z7 b9P a6A H K)
def E8(x0:Sl)(H:Hp)(K:Sl→Hp→Prop):Prop:=
 TL ((0,0):Int×Int) H fun(s:Int×Int) H n4=>D8 x0 x0 (x0.n:Int) s.1 s.2 H n4 K
theorem a0S(x0){H K}(h:E8 x0 H K):t7 x0 H K:=by
 refine Ct.of fun w0 w ps0 H0 R E I hR=>b8M ?_
 unfold E8 at h
 unfold F41
 have hj1:∀(K5:Int) H w (_:Inv w0 ps0 H0 H [] w) (_:z7 x0 K5 H K),b1q (vs x0) (vi K5) w R E:=by
  intro K5 H w I h
  unfold b1q
  intro _
  unfold z7 at h
  refine d3 Tryz.call64 h I ?_
  rintro _ m _ au o _ _ ⟨p,q,r,rfl,rfl,t,h⟩
  have hj2:∀(a9b:(List c6))(a5t:Sl)(Fs6j2:Frag) H w (_:RowL 92 1 l7 a5t a9b Fs6j2) (_:Inv w0 ps0 H0 H [Fs6j2] w) (_:y9 a9b H K),b1p (vs a5t) w R E:=by
   intro a9b a5t Fs6j2 H w c0x I h
   unfold b1p
   intro _
   unfold y9 at h
   obtain ⟨j,u,y,z,aa⟩:=Inv.freezeN I c0x (by decide)
   replace h:=h a5t j y z aa
   exact hR _ j _ _ u ⟨a5t,rfl,rfl,h⟩
  refine k8 fun j2 hx2=>?_
  refine a7 (a9a _ _ _) ?_
  obtain ⟨d,c,ab,ac⟩:=h
  refine a1B (J:=fun n l w=>∃(s:(List c6)×Int)(H:Hp)(a9c:Sl)(Fs6l3:Frag),n=c s∧l=(match s with | (a2p,a1U)=>[(vs a9c),(vi a1U)])∧(match s with | (a2p,a1U)=>RowL 92 1 l7 a9c a2p Fs6l3)∧(match s with | (a2p,a1U)=>Inv w0 ps0 H0 H [Fs6l3] w)∧d s H) ⟨_,(p,0),m,q,r,rfl,rfl,t,o,ab⟩ ?_
  rintro av aw w next3 ⟨⟨a2p,a1U⟩,H,a9c,Fs6l3,rfl,e,b3F,I,ad⟩ hn3
  dsimp only at e I b3F
  simp only [List.map_cons,List.map_nil,List.cons.injEq,and_true] at e
  obtain ⟨e6,e27⟩:=e
  simp only [e6,e27]
  obtain ⟨n3,hm3,h⟩:∃n3:((List c6)×Int)→Hp→Prop,(∀s' H',n3 s' H'→d s' H'∧c s' < c (a2p,a1U))∧z6 x0 (x0.n:Int) a2p a1U H n3 K:=⟨_,fun _ _ h=>h,ac (a2p,a1U) H (fun s' H'=>d s' H'∧c s' < c (a2p,a1U)) ad (fun _ _ a b=>⟨a,b⟩)⟩
  unfold b4E
  unfold z6 at h
  refine a7 pLs ?_
  refine c8 h (fun _ h=>?_) (fun _ h=>?_)
  ·obtain ⟨ae,af,ag,f,h⟩:=h
   obtain ⟨ax,ay,ah,f⟩:=f
   refine a7 (a9W ah _ _ _ _ ae af) (b9 (ld1 (v:=(vs ag)) Tryz.isAgg86 (I.atH f)) ?_)
   obtain ⟨ai,aj,h⟩:=h
   obtain ⟨ak,h⟩:=h
   refine a7K (s:=a9c) (xs:=a2p) I b3F (SlH.src I aj G9) ak fun al am az an ao ba=>?_
   refine a7 pAd ?_
   exact hn3 _ _ _ (hm3 _ _ h).2 ⟨((a2p++ai),(IntKind.wrap .i64 (a1U+1))),H,al,am,rfl,rfl,an,ao,(hm3 _ _ h).1⟩
  ·exact hx2 _ _ (hj2 a2p a9c Fs6l3 H _ b3F I h)
 refine k8 fun j1 hx1=>?_
 refine a7 (a9a _ _ _) ?_
 refine B2 (σ:=Int×Int) (fun (a6A,a3t)=>[(vi a6A),(vi a3t)]) (fun (a6A,a3t)=>[]) h rfl I ?_
 rintro ⟨a6A,a3t⟩ H bb w next4 n4 g I h hn4
 dsimp only at g I h
 simp only [List.map_cons,List.map_nil,List.cons.injEq,and_true] at g
 obtain ⟨e3,e11⟩:=g
 simp only [e3,e11]
 unfold b4F
 unfold D8 at h
 refine a7 pLs ?_
 refine c8 h (fun _ h=>?_) (fun _ h=>?_)
 ·have hj5:∀(a6z:Int) H w (_:Inv w0 ps0 H0 H [] w) (_:y8 x0 a6z x0 (x0.n:Int) a3t H n4 K),b1r (vs x0) (vi a6z) (vs x0) (vi (x0.n:Int)) (vi a3t) w next4 R E:=by
   intro a6z H w I h
   unfold b1r
   intro _
   unfold y8 at h
   refine a7 pAd ?_
   exact hn4 (a6z,(IntKind.wrap .i64 (a3t+1))) _ _ h I
  refine k8 fun j5 hx5=>?_
  obtain ⟨ap,aq,k,i,h⟩:=h
  obtain ⟨bc,bd,ar,i⟩:=i
  refine a7 (a9W ar _ _ _ _ ap aq) (b9 (ld1 (v:=(vs k)) Tryz.isAgg86 (I.atH i)) (a7 (a6q _ _ _) (a7 pAd (a7 pLs ?_))))
  refine c8 h (fun _ h=>?_) (fun _ h=>?_)
  ·refine a7 (b4p _) ?_
   exact h.elim
  ·exact hx5 _ _ (hj5 (IntKind.wrap .i64 (a6A+(k.n:Int))) H _ I h)
 ·exact hx1 _ _ (hj1 a6A H _ I h)
def a2F(x0:l9)(H:Hp)(K:Int→Hp→Prop):Prop:=
 a3B x0 H (fun a b=>
 K a.fe b)
theorem a7B(x0){H K}(h:a2F x0 H K):a2E x0 H K:=by
 refine Ct.of fun w0 w ps0 H0 R E I hR=>c0u ?_
 unfold a2F at h
 unfold F8
 refine y7 I (cs:=(o8 x0)) rfl fun e f a g=>?_
 refine b9 (lW Tryz.isAgg25 Tryz.sizeOf25 rfl a) ?_
 refine d3 Tryz.call20 h a ?_
 rintro _ c _ i b _ _ ⟨d,j,rfl,rfl,h⟩
 refine a7 (g7 _) (a7 a3r (b9 (l1 Tryz.isAgg27 b rfl) ?_))
 exact hR _ c _ _ b.drop.drop ⟨d.fe,rfl,rfl,h⟩
def P7(a:(Option Addr))(b:(List Int))(c:Int)(i:l9)(H:Hp)(K:ByteArray→Int→Hp→Prop):Prop:=
 R1 (c5.mk (r6.mk a (Sl.mk none 0 0)) c) b H (fun d e=>
 (d=true→
 K ⟨#[]⟩ 50 e)∧
 (d=false→
 a0V (c5.mk (r6.mk a (Sl.mk none 0 0)) c) b e (fun f j k g=>
 K f 0 g)))
def X6(b6A:Sl)(b6B:Int)(f:l9)(a1V:Int)(a:(Option Addr))(b:(List Int))(c:Int)(H:Hp)(n3:(Int×(Option Addr)×(List Int)×Int)→Hp→Prop)(K:ByteArray→Int→Hp→Prop):Prop:=
 (a1V < b6B→
 (0:Int)≤a1V∧(a1V:Int) < b6A.n∧∃d:i6,EltH H b6A a1V 6 (d7 d)∧
 R2 (c5.mk (r6.mk a (Sl.mk none 0 0)) c) b d H (fun e g i=>
 n3 ((IntKind.wrap .i64 (a1V+1)),e.A9.faddr,g,e.fdeep) i))∧
 (¬(a1V < b6B)→
 P7 a b c f H K)
def L2(a7k:Sl)(c1h:Int)(c0y:Int)(a:(Option Addr))(b:(List Int))(c:Int)(d:l9)(H:Hp)(n4:(Int×(Option Addr)×(List Int)×Int)→Hp→Prop)(K:ByteArray→Int→Hp→Prop):Prop:=
 n4 ((IntKind.wrap .i64 (c0y+1)),a,b,c) H
def P8(b:(Option Addr))(c:(List Int))(d:Int)(a:l9)(H:Hp)(K:ByteArray→Int→Hp→Prop):Prop:=
 TL ((0,b,c,d):Int×(Option Addr)×(List Int)×Int) H fun(s:Int×(Option Addr)×(List Int)×Int) H n3=>X6 a.Z1 (a.Z1.n:Int) a s.1 s.2.1 s.2.2.1 s.2.2.2 H n3 K
def X7(b0t:Sl)(b0u:Int)(d:l9)(a0J:Int)(e:(Option Addr))(f:(List Int))(g:Int)(H:Hp)(n4:(Int×(Option Addr)×(List Int)×Int)→Hp→Prop)(K:ByteArray→Int→Hp→Prop):Prop:=
 (a0J < b0u→
 (0:Int)≤a0J∧(a0J:Int) < b0t.n∧∃a:G4,EltH H b0t a0J 2 (u7 a)∧
 (a.L3=0→
 ∀(i:Sl)(b:Hp),Hle H b→SlH b 1 j8 i [⟨#[118,97,114,32]⟩,a.f4,⟨#[59]⟩]→NewS H b 9 1 i→
 Z8 (c5.mk (r6.mk e (Sl.mk none 0 0)) g) f i b (fun k o p=>
 L2 b0t b0u a0J k.A9.faddr o k.fdeep d p n4 K))∧
 (¬(a.L3=0)→
 a6K a.L3 H (fun q l=>
 ∀(j:Sl)(c:Hp),Hle l c→SlH c 1 j8 j [⟨#[97,114,114,97,121,32]⟩,a.f4,⟨#[91]⟩,q,⟨#[93,59]⟩]→NewS l c 9 1 j→
 Z8 (c5.mk (r6.mk e (Sl.mk none 0 0)) g) f j c (fun m r s=>
 L2 b0t b0u a0J m.A9.faddr r m.fdeep d s n4 K))))∧
 (¬(a0J < b0u)→
 P8 e f g d H K)
def a2q(x0:l9)(H:Hp)(K:ByteArray→Int→Hp→Prop):Prop:=
 a2E x0 H (fun a b=>
 (¬(a=0)→
 K ⟨#[]⟩ a b)∧
 (a=0→
 TL ((0,none,[],0):Int×(Option Addr)×(List Int)×Int) b fun(s:Int×(Option Addr)×(List Int)×Int) H n4=>X7 x0.G1 (x0.G1.n:Int) x0 s.1 s.2.1 s.2.2.1 s.2.2.2 H n4 K))
theorem a7l(x0){H K}(h:a2q x0 H K):a2k x0 H K:=by
 refine Ct.of fun w0 w ps0 H0 R E I hR=>c0r ?_
 unfold a2q at h
 unfold F5
 refine y7 I (cs:=(o8 x0)) rfl fun o dv ba dw=>?_
 refine b9 (lW Tryz.isAgg25 Tryz.sizeOf25 rfl ba) ?_
 refine d3 Tryz.call8 h ba ?_
 rintro _ bb _ dx bc _ _ ⟨bl,rfl,rfl,h⟩
 refine a7 pNe ?_
 refine a4H h (fun _ h=>?_) (fun _ h=>?_)
 ·exact hR _ bb _ _ bc.drop ⟨⟨#[]⟩,bl,rfl,rfl,h⟩
 ·refine a7 (a9V) ?_
  refine y7 bc (cs:=[(Value.pointer none),(nS),(vi 0)]) rfl fun d dy bd dz=>?_
  have hj1:∀(ab:(Option Addr))(ac:(List Int))(ad:Int)(ae:Sl)(af:Frag) H w (_:RowL 5 1 k9 ae ac af) (_:Inv w0 ps0 H0 H [bx d 44 [(adv d ab),(vs ae),(vi ad)],bx o 25 (o8 x0),af] w) (_:P8 ab ac ad x0 H K),b3w (Value.pointer (some ⟨o,0,none⟩)) (Value.pointer (some ⟨d,0,none⟩)) w R E:=by
   intro ab ac ad ae af H w bm I h
   unfold b3w
   intro _
   unfold P8 at h
   have hj2:∀(ao:(Option Addr))(ap:(List Int))(aq:Int)(r:Sl)(t:Frag) H w (_:RowL 5 1 k9 r ap t) (_:Inv w0 ps0 H0 H [bx d 44 [(adv d ao),(vs r),(vi aq)],bx o 25 (o8 x0),t] w) (_:P7 ao ap aq x0 H K),b3v (Value.pointer (some ⟨d,0,none⟩)) w R E:=by
    intro ao ap aq r t H w be I h
    unfold b3v
    intro _
    unfold P7 at h
    refine d3 Tryz.call12 (h d r t be) ((I.bring 2).bring 1) ?_
    rintro _ bn _ ea bf _ _ ⟨eb,rfl,rfl,h⟩
    refine g6 h (fun _ h=>?_) (fun _ h=>?_)
    ·exact hR _ bn _ _ bf.drop.drop.drop ⟨⟨#[]⟩,50,rfl,rfl,h⟩
    ·refine a7 (g7 _) (a7 a5o ?_)
     refine d3 Tryz.call13 (h d r t be) ((bf.bring 1).bring 1) ?_
     rintro _ bo _ ec bp _ _ ⟨bq,ed,ee,ef,eg,rfl,rfl,eh,h⟩
     exact hR _ bo _ _ bp.drop.drop.drop ⟨bq,0,rfl,rfl,h⟩
   refine k8 fun j2 hx2=>?_
   refine a7 a2i (b9 (l1 Tryz.isAgg23 (I.bring 1) rfl) (a7 (K8 _ _ _) ?_))
   obtain ⟨ar,u,br,bs⟩:=h
   refine a1B (J:=fun n l w=>∃(s:Int×(Option Addr)×(List Int)×Int)(H:Hp)(v:Sl)(y:Frag),n=u s∧l=(match s with | (a1V,f,g,i)=>[(vi a1V)])∧(match s with | (a1V,f,g,i)=>RowL 5 1 k9 v g y)∧(match s with | (a1V,f,g,i)=>Inv w0 ps0 H0 H [bx d 44 [(adv d f),(vs v),(vi i)],bx o 25 (o8 x0),y] w)∧ar s H) ⟨_,(0,ab,ac,ad),H,ae,af,rfl,rfl,bm,(((I.bring 2).bring 2).bring 2),br⟩ ?_
   rintro ei ej w next3 ⟨⟨a1V,f,g,i⟩,H,v,y,rfl,au,av,I,bt⟩ hn3
   dsimp only at au I av
   simp only [List.map_cons,List.map_nil,List.cons.injEq,and_true] at au
   have e44:=au
   simp only [e44]
   obtain ⟨n3,hm3,h⟩:∃n3:(Int×(Option Addr)×(List Int)×Int)→Hp→Prop,(∀s' H',n3 s' H'→ar s' H'∧u s' < u (a1V,f,g,i))∧X6 x0.Z1 (x0.Z1.n:Int) x0 a1V f g i H n3 K:=⟨_,fun _ _ h=>h,bs (a1V,f,g,i) H (fun s' H'=>ar s' H'∧u s' < u (a1V,f,g,i)) bt (fun _ _ a b=>⟨a,b⟩)⟩
   unfold b6u
   unfold X6 at h
   refine a7 pLs ?_
   refine c8 h (fun _ h=>?_) (fun _ h=>?_)
   ·obtain ⟨bu,bv,bg,aw,h⟩:=h
    obtain ⟨ek,el,bw,aw⟩:=aw
    refine a7 (a1P bw _ _ _ _ bu bv) (b9 (ldA (vs:=(d7 bg)) Tryz.isAgg51 Tryz.sizeOf51 rfl (I.atH aw)) ?_)
    refine L1 I Tryz.zeroValue51 (cs:=[(vi 0),(eS),(nS),(nS),(nS),(nS)]) rfl fun em en bz eo=>?_
    refine U3 bz Tryz.sizeOf51 (vs:=(d7 bg)) fun ep bh eq=>?_
    refine b9 (lW Tryz.isAgg51 Tryz.sizeOf51 rfl bh) ?_
    refine d3 Tryz.call11 (h d v y av) ((bh.bring 3).bring 2) ?_
    rintro _ ca _ er cb _ _ ⟨bi,cc,cd,ce,rfl,rfl,cf,h⟩
    refine a7 pAd ?_
    exact hn3 _ _ _ (hm3 _ _ h).2 ⟨((IntKind.wrap .i64 (a1V+1)),bi.A9.faddr,cc,bi.fdeep),ca,cd,ce,rfl,rfl,cf,((((cb.bring 2).drop.bring 1).bring 2).bring 2),(hm3 _ _ h).1⟩
   ·exact hx2 _ _ (hj2 f g i v y H _ av (((I.bring 2).bring 2).bring 2) h)
  refine k8 fun j1 hx1=>?_
  refine a7 a0x (b9 (l1 Tryz.isAgg22 (bd.bring 1) rfl) (a7 (a4V _ _ _) ?_))
  obtain ⟨ax,z,cg,ch⟩:=h
  refine a1B (J:=fun n l w=>∃(s:Int×(Option Addr)×(List Int)×Int)(H:Hp)(p:Sl)(q:Frag),n=z s∧l=(match s with | (a0J,j,k,m)=>[(vi a0J)])∧(match s with | (a0J,j,k,m)=>RowL 5 1 k9 p k q)∧(match s with | (a0J,j,k,m)=>Inv w0 ps0 H0 H [bx d 44 [(adv d j),(vs p),(vi m)],bx o 25 (o8 x0),q] w)∧ax s H) ⟨_,(0,none,[],0),bb,(Sl.mk none 0 0),[],rfl,rfl,(RowL.nil a6Z a7a),((bd.nil.bring 2).bring 2),cg⟩ ?_
  rintro es et w next4 ⟨⟨a0J,j,k,m⟩,H,p,q,rfl,ay,ag,I,ci⟩ hn4
  dsimp only at ay I ag
  simp only [List.map_cons,List.map_nil,List.cons.injEq,and_true] at ay
  have e20:=ay
  simp only [e20]
  obtain ⟨n4,hm4,h⟩:∃n4:(Int×(Option Addr)×(List Int)×Int)→Hp→Prop,(∀s' H',n4 s' H'→ax s' H'∧z s' < z (a0J,j,k,m))∧X7 x0.G1 (x0.G1.n:Int) x0 a0J j k m H n4 K:=⟨_,fun _ _ h=>h,ch (a0J,j,k,m) H (fun s' H'=>ax s' H'∧z s' < z (a0J,j,k,m)) ci (fun _ _ a b=>⟨a,b⟩)⟩
  unfold b6v
  unfold X7 at h
  refine a7 pLs ?_
  refine c8 h (fun _ h=>?_) (fun _ h=>?_)
  ·have hj5:∀(ah:(Option Addr))(ai:(List Int))(aj:Int)(ak:Sl)(al:Frag) H w (_:RowL 5 1 k9 ak ai al) (_:Inv w0 ps0 H0 H [bx d 44 [(adv d ah),(vs ak),(vi aj)],bx o 25 (o8 x0),al] w) (_:L2 x0.G1 (x0.G1.n:Int) a0J ah ai aj x0 H n4 K),b3x (Value.pointer (some ⟨o,0,none⟩)) (Value.pointer (some ⟨d,0,none⟩)) (vs x0.G1) (vi (x0.G1.n:Int)) (vi a0J) w next4 R E:=by
    intro ah ai aj ak al H w cj I h
    unfold b3x
    intro _
    unfold L2 at h
    refine a7 pAd ?_
    exact hn4 _ _ _ (hm4 _ _ h).2 ⟨((IntKind.wrap .i64 (a0J+1)),ah,ai,aj),H,ak,al,rfl,rfl,cj,(((I.bring 2).bring 2).bring 2),(hm4 _ _ h).1⟩
   refine k8 fun j5 hx5=>?_
   obtain ⟨ck,cl,am,az,h⟩:=h
   obtain ⟨eu,ev,cm,az⟩:=az
   refine a7 (a4I cm _ _ _ _ ck cl) (b9 (ldA (vs:=(u7 am)) Tryz.isAgg46 Tryz.sizeOf46 rfl (I.atH az)) ?_)
   refine L1 I Tryz.zeroValue46 (cs:=[(eS),(vi 0)]) rfl fun ew ex cn ey=>?_
   refine U3 cn Tryz.sizeOf46 (vs:=(u7 am)) fun ez an fa=>?_
   refine a7 a1J (b9 (l1 Tryz.isAgg3 an rfl) (a7 pEq ?_))
   refine c8 h (fun _ h=>?_) (fun _ h=>?_)
   ·refine a7 a3o (b9 (l1 Tryz.isAgg9 an rfl) ?_)
    refine W0 (e:=9) (c:=j8) (xs:=[⟨#[118,97,114,32]⟩,am.f4,⟨#[59]⟩]) an (a9r _ _ _) rfl rfl D6 D7 (nb rfl) fun co fb fc cp cq fd=>?_
    obtain ⟨cr,ct,cu,cv,cw⟩:=Inv.freezeN cq cp (by decide)
    replace h:=h co cr cu cv cw
    refine d3 Tryz.call9 (h d p q ag) ((ct.bring 3).bring 2) ?_
    rintro _ cx _ fe cy _ _ ⟨bj,cz,da,db,rfl,rfl,dc,h⟩
    exact hx5 _ _ (hj5 bj.A9.faddr cz bj.fdeep da db cx _ dc ((((cy.bring 2).drop.bring 1).bring 2).bring 2) h)
   ·refine V9 an fun ff aa=>?_
    refine f6 a3o ?_
    refine f6 a1J ?_
    refine l8 (l1 Tryz.isAgg9 aa rfl) ?_
    refine l8 (l1 Tryz.isAgg3 aa rfl) ?_
    refine d3 Tryz.call10 h aa ?_
    rintro _ _ _ fg dd _ de ⟨df,rfl,rfl,h⟩
    refine ⟨(de _ aa.lt1 (Inv.E0 (Fi:=[]) aa)),?_⟩
    refine W0 (e:=9) (c:=j8) (xs:=[⟨#[97,114,114,97,121,32]⟩,am.f4,⟨#[91]⟩,df,⟨#[93,59]⟩]) dd (b6W _ _ _ _ _) rfl rfl D6 D7 (nb rfl) fun dg fh fi dh di fj=>?_
    obtain ⟨dj,dk,dl,dm,dn⟩:=Inv.freezeN di dh (by decide)
    replace h:=h dg dj dl dm dn
    refine d3 Tryz.call9 (h d p q ag) ((dk.bring 3).bring 2) ?_
    rintro _ dp _ fk dq _ _ ⟨bk,dr,ds,dt,rfl,rfl,du,h⟩
    exact hx5 _ _ (hj5 bk.A9.faddr dr bk.fdeep ds dt dp _ du ((((dq.bring 2).drop.bring 1).bring 2).bring 2) h)
  ·exact hx1 _ _ (hj1 j k m p q H _ ag (((I.bring 2).bring 2).bring 2) h)
def a2B(x0:ByteArray)(x1:Bool)(x2:ByteArray)(x3:ByteArray)(H:Hp)(K:ByteArray→Hp→Prop):Prop:=
 (x1=true→
 x2.size+x0.size≤9223372036854775807∧
 (x2++x0).size+x3.size≤9223372036854775807∧
 K ((x2++x0)++x3) H)∧
 (x1=false→
 K x0 H)
theorem a5g(x0 x1 x2 x3){H K}(h:a2B x0 x1 x2 x3 H K):B1 x0 x1 x2 x3 H K:=by
 refine Ct.of fun w0 w ps0 H0 R E I hR=>b8Z ?_
 unfold a2B at h
 unfold F56
 refine g6 h (fun _ h=>?_) (fun _ h=>?_)
 ·obtain ⟨a,h⟩:=h
  refine a7 (A5 _ _ _ x2 x0 a) ?_
  obtain ⟨b,h⟩:=h
  refine a7 (A5 _ _ _ (x2++x0) x3 b) ?_
  exact hR _ H _ _ I ⟨((x2++x0)++x3),rfl,rfl,h⟩
 ·exact hR _ H _ _ I ⟨x0,rfl,rfl,h⟩
def a1f(x0:d8)(H:Hp)(K:ByteArray→Hp→Prop):Prop:=
 (x0.b8=1→
 a0h x0.a0w H (fun k l=>
 K k l))∧
 (¬(x0.b8=1)→
 (x0.b8=2→
 K x0.f4 H)∧
 (¬(x0.b8=2)→
 (x0.b8=3→
 K ⟨#[105,110,112,117,116]⟩ H)∧
 (¬(x0.b8=3)→
 (x0.b8=4→
 x0.f4.size+(⟨#[91]⟩:ByteArray).size≤9223372036854775807∧
 (0:Int)≤0∧(0:Int) < x0.r5.n∧∃f:d8,EltH H x0.r5 0 4 (c7 f)∧
 o9 f H (fun a m=>
 (x0.f4++(⟨#[91]⟩:ByteArray)).size+a.size≤9223372036854775807∧
 ((x0.f4++(⟨#[91]⟩:ByteArray))++a).size+(⟨#[93]⟩:ByteArray).size≤9223372036854775807∧
 K (((x0.f4++(⟨#[91]⟩:ByteArray))++a)++(⟨#[93]⟩:ByteArray)) m))∧
 (¬(x0.b8=4)→
 (x0.b8=5→
 (0:Int)≤0∧(0:Int) < x0.r5.n∧∃b:d8,EltH H x0.r5 0 4 (c7 b)∧
 o9 b H (fun o p=>
 E3 b p (fun q r=>
 B1 o (decide (q < 3)) ⟨#[40]⟩ ⟨#[41]⟩ r (fun g s=>
 (⟨#[45]⟩:ByteArray).size+g.size≤9223372036854775807∧
 K ((⟨#[45]⟩:ByteArray)++g) s))))∧
 (¬(x0.b8=5)→
 (0:Int)≤0∧(0:Int) < x0.r5.n∧∃c:d8,EltH H x0.r5 0 4 (c7 c)∧
 o9 c H (fun t u=>
 E3 c u (fun v y=>
 E3 x0 y (fun z aa=>
 B1 t (decide (v < z)) ⟨#[40]⟩ ⟨#[41]⟩ aa (fun d i=>
 (0:Int)≤1∧(1:Int) < x0.r5.n∧∃e:d8,EltH i x0.r5 1 4 (c7 e)∧
 o9 e i (fun ab ac=>
 E3 e ac (fun ad ae=>
 E3 x0 ae (fun af ag=>
 B1 ab (decide (ad≤af)) ⟨#[40]⟩ ⟨#[41]⟩ ag (fun j ah=>
 (0:Int)≤IntKind.wrap .i64 (x0.b8-6)∧(IntKind.wrap .i64 (x0.b8-6):Int) < 5∧
 d.size+(([⟨#[32,43,32]⟩,⟨#[32,45,32]⟩,⟨#[32,42,32]⟩,⟨#[32,47,32]⟩,⟨#[32,37,32]⟩]:List ByteArray).getD (IntKind.wrap .i64 (x0.b8-6):Int).toNat ⟨#[]⟩).size≤9223372036854775807∧
 (d++(([⟨#[32,43,32]⟩,⟨#[32,45,32]⟩,⟨#[32,42,32]⟩,⟨#[32,47,32]⟩,⟨#[32,37,32]⟩]:List ByteArray).getD (IntKind.wrap .i64 (x0.b8-6):Int).toNat ⟨#[]⟩)).size+j.size≤9223372036854775807∧
 K ((d++(([⟨#[32,43,32]⟩,⟨#[32,45,32]⟩,⟨#[32,42,32]⟩,⟨#[32,47,32]⟩,⟨#[32,37,32]⟩]:List ByteArray).getD (IntKind.wrap .i64 (x0.b8-6):Int).toNat ⟨#[]⟩))++j) ah)))))))))))))
theorem a5R(x0){H K}(h:a1f x0 H K):o9 x0 H K:=by
 refine Ct.of fun w0 w ps0 H0 R E I hR=>b8G ?_
 unfold a1f at h
 unfold F34
 refine y7 I (cs:=(c7 x0)) rfl fun j bv c bw=>?_
 refine a7 L8 (b9 (l1 Tryz.isAgg3 c rfl) (a7 pEq ?_))
 refine c8 h (fun _ h=>?_) (fun _ h=>?_)
 ·refine a7 a3q (b9 (l1 Tryz.isAgg2 c rfl) ?_)
  refine d3 Tryz.call16 h c ?_
  rintro _ ap _ bz aq _ _ ⟨ar,rfl,rfl,h⟩
  exact hR _ ap _ _ aq.drop ⟨ar,rfl,rfl,h⟩
 ·refine a7 pEq ?_
  refine c8 h (fun _ h=>?_) (fun _ h=>?_)
  ·refine a7 a2j (b9 (l1 Tryz.isAgg9 c rfl) ?_)
   exact hR _ H _ _ c.drop ⟨x0.f4,rfl,rfl,h⟩
  ·refine a7 pEq ?_
   refine c8 h (fun _ h=>?_) (fun _ h=>?_)
   ·exact hR _ H _ _ c.drop ⟨⟨#[105,110,112,117,116]⟩,rfl,rfl,h⟩
   ·refine a7 pEq ?_
    refine c8 h (fun _ h=>?_) (fun _ h=>?_)
    ·refine V9 c fun ca e=>?_
     refine f6 a2j ?_
     refine f6 G3 ?_
     refine l8 (l1 Tryz.isAgg9 e rfl) ?_
     obtain ⟨au,h⟩:=h
     refine f6 (A5 _ _ _ x0.f4 ⟨#[91]⟩ au) ?_
     refine l8 (l1 Tryz.isAgg34 e rfl) ?_
     obtain ⟨av,aw,ax,k,h⟩:=h
     obtain ⟨cb,cc,ay,k⟩:=k
     refine f6 (B3 ay _ _ _ _ av aw) ?_
     refine l8 (ldA (vs:=(c7 ax)) Tryz.isAgg36 Tryz.sizeOf36 rfl (e.atH k)) ?_
     refine d3 Tryz.call34 h e ?_
     rintro _ az _ cd ba _ bb ⟨m,rfl,rfl,h⟩
     refine ⟨(bb _ e.lt1 (Inv.E0 (Fi:=[]) e)),?_⟩
     obtain ⟨bc,h⟩:=h
     refine f6 (A5 _ _ _ (x0.f4++(⟨#[91]⟩:ByteArray)) m bc) ?_
     obtain ⟨bd,h⟩:=h
     refine f6 (A5 _ _ _ ((x0.f4++(⟨#[91]⟩:ByteArray))++m) ⟨#[93]⟩ bd) ?_
     exact hR _ az _ _ ba.drop ⟨(((x0.f4++(⟨#[91]⟩:ByteArray))++m)++(⟨#[93]⟩:ByteArray)),rfl,rfl,h⟩
    ·refine a7 pEq ?_
     refine c8 h (fun _ h=>?_) (fun _ h=>?_)
     ·refine V9 c fun ce d=>?_
      refine f6 G3 ?_
      refine f6 G3 ?_
      refine l8 (l1 Tryz.isAgg34 d rfl) ?_
      obtain ⟨u,y,z,f,h⟩:=h
      obtain ⟨cf,cg,aa,f⟩:=f
      refine f6 (B3 aa _ _ _ _ u y) ?_
      refine l8 (ldA (vs:=(c7 z)) Tryz.isAgg36 Tryz.sizeOf36 rfl (d.atH f)) ?_
      refine l8 (l1 Tryz.isAgg34 d rfl) ?_
      refine f6 (B3 aa _ _ _ _ u y) ?_
      refine l8 (ldA (vs:=(c7 z)) Tryz.isAgg36 Tryz.sizeOf36 rfl (d.atH f)) ?_
      refine d3 Tryz.call34 h d ?_
      rintro _ _ _ ch be _ ab ⟨ci,rfl,rfl,h⟩
      refine ⟨(ab _ (d.a3Z f) ((Inv.self (Fi:=[]) (Fr:=[bx j 36 (c7 x0)]) d).a3h f)),(ab _ d.lt1 (Inv.E0 (Fi:=[]) d)),?_⟩
      refine d3 Tryz.call57 h be ?_
      rintro _ _ _ cj bf _ _ ⟨ck,rfl,rfl,h⟩
      refine f6 pLs ?_
      refine d3 Tryz.call56 h bf ?_
      rintro _ bg _ cl bh _ _ ⟨ac,rfl,rfl,h⟩
      obtain ⟨bi,h⟩:=h
      refine f6 (A5 _ _ _ ⟨#[45]⟩ ac bi) ?_
      exact hR _ bg _ _ bh.drop ⟨((⟨#[45]⟩:ByteArray)++ac),rfl,rfl,h⟩
     ·refine a7 (a4e _ _ _ _ _) ?_
      refine L1 c Tryz.zeroValue109 (cs:=[(eS),(eS),(eS),(eS),(eS)]) rfl fun ad cm bj cn=>?_
      refine U3 bj Tryz.sizeOf109 (vs:=[(Value.string ⟨#[32,43,32]⟩),(Value.string ⟨#[32,45,32]⟩),(Value.string ⟨#[32,42,32]⟩),(Value.string ⟨#[32,47,32]⟩),(Value.string ⟨#[32,37,32]⟩)]) fun co bk cp=>?_
      refine V9 bk fun cq a=>?_
      refine f6 G3 ?_
      refine f6 G3 ?_
      refine l8 (l1 Tryz.isAgg34 (a.bring 1) rfl) ?_
      obtain ⟨ae,af,ag,g,h⟩:=h
      obtain ⟨cr,ct,ah,g⟩:=g
      refine f6 (B3 ah _ _ _ _ ae af) ?_
      refine l8 (ldA (vs:=(c7 ag)) Tryz.isAgg36 Tryz.sizeOf36 rfl (a.atH g)) ?_
      refine l8 (l1 Tryz.isAgg34 (a.bring 1) rfl) ?_
      refine f6 (B3 ah _ _ _ _ ae af) ?_
      refine l8 (ldA (vs:=(c7 ag)) Tryz.isAgg36 Tryz.sizeOf36 rfl (a.atH g)) ?_
      refine l8 (lW Tryz.isAgg36 Tryz.sizeOf36 rfl (a.bring 1)) ?_
      refine d3 Tryz.call34 h a ?_
      rintro _ _ _ cu o _ p ⟨cv,rfl,rfl,h⟩
      refine ⟨(p _ (a.bring 1).lt1 (Inv.E0 (Fi:=[]) (a.bring 1))),(p _ (a.a3Z g) ((Inv.self (Fi:=[]) (Fr:=[bx ad 109 [(Value.string ⟨#[32,43,32]⟩),(Value.string ⟨#[32,45,32]⟩),(Value.string ⟨#[32,42,32]⟩),(Value.string ⟨#[32,47,32]⟩),(Value.string ⟨#[32,37,32]⟩)],bx j 36 (c7 x0)]) a).a3h g)),(p _ (a.bring 1).lt1 (Inv.E0 (Fi:=[]) (a.bring 1))),?_⟩
      refine d3 Tryz.call57 h o ?_
      rintro _ _ _ cw bl _ bm ⟨cx,rfl,rfl,h⟩
      refine ⟨(bm _ (o.bring 1).lt1 (Inv.E0 (Fi:=[]) (o.bring 1))),?_⟩
      refine d3 Tryz.call57 h bl ?_
      rintro _ _ _ cy bn _ _ ⟨cz,rfl,rfl,h⟩
      refine f6 pLs ?_
      refine d3 Tryz.call56 h bn ?_
      rintro _ _ _ da bo _ _ ⟨q,rfl,rfl,h⟩
      refine V9 bo fun db b=>?_
      refine f6 G3 ?_
      refine f6 G3 ?_
      refine l8 (l1 Tryz.isAgg34 (b.bring 1) rfl) ?_
      obtain ⟨ai,aj,ak,i,h⟩:=h
      obtain ⟨dc,dd,al,i⟩:=i
      refine f6 (B3 al _ _ _ _ ai aj) ?_
      refine l8 (ldA (vs:=(c7 ak)) Tryz.isAgg36 Tryz.sizeOf36 rfl (b.atH i)) ?_
      refine l8 (l1 Tryz.isAgg34 (b.bring 1) rfl) ?_
      refine f6 (B3 al _ _ _ _ ai aj) ?_
      refine l8 (ldA (vs:=(c7 ak)) Tryz.isAgg36 Tryz.sizeOf36 rfl (b.atH i)) ?_
      refine l8 (lW Tryz.isAgg36 Tryz.sizeOf36 rfl (b.bring 1)) ?_
      refine d3 Tryz.call34 h b ?_
      rintro _ _ _ de r _ s ⟨df,rfl,rfl,h⟩
      refine ⟨(s _ (b.bring 1).lt1 (Inv.E0 (Fi:=[]) (b.bring 1))),(s _ (b.a3Z i) ((Inv.self (Fi:=[]) (Fr:=[bx ad 109 [(Value.string ⟨#[32,43,32]⟩),(Value.string ⟨#[32,45,32]⟩),(Value.string ⟨#[32,42,32]⟩),(Value.string ⟨#[32,47,32]⟩),(Value.string ⟨#[32,37,32]⟩)],bx j 36 (c7 x0)]) b).a3h i)),(s _ (b.bring 1).lt1 (Inv.E0 (Fi:=[]) (b.bring 1))),?_⟩
      refine d3 Tryz.call57 h r ?_
      rintro _ _ _ dg bp _ bq ⟨dh,rfl,rfl,h⟩
      refine ⟨(bq _ (r.bring 1).lt1 (Inv.E0 (Fi:=[]) (r.bring 1))),?_⟩
      refine d3 Tryz.call57 h bp ?_
      rintro _ _ _ di br _ _ ⟨dj,rfl,rfl,h⟩
      refine f6 pLe ?_
      refine d3 Tryz.call56 h br ?_
      rintro _ bs _ dk t _ _ ⟨am,rfl,rfl,h⟩
      refine a7 L8 (b9 (l1 Tryz.isAgg3 (t.bring 1) rfl) (a7 pSu ?_))
      obtain ⟨an,ao,h⟩:=h
      refine a7 (b3p _ _ an ao) (b9 (ld1 (v:=(Value.string (([⟨#[32,43,32]⟩,⟨#[32,45,32]⟩,⟨#[32,42,32]⟩,⟨#[32,47,32]⟩,⟨#[32,37,32]⟩]:List ByteArray).getD (IntKind.wrap .i64 (x0.b8-6):Int).toNat ⟨#[]⟩))) Tryz.isAgg9 (Inv.b4h (n:=5) (l:=[⟨#[32,43,32]⟩,⟨#[32,45,32]⟩,⟨#[32,42,32]⟩,⟨#[32,47,32]⟩,⟨#[32,37,32]⟩]) t rfl rfl an ao)) ?_)
      obtain ⟨bt,h⟩:=h
      refine a7 (A5 _ _ _ q (([⟨#[32,43,32]⟩,⟨#[32,45,32]⟩,⟨#[32,42,32]⟩,⟨#[32,47,32]⟩,⟨#[32,37,32]⟩]:List ByteArray).getD (IntKind.wrap .i64 (x0.b8-6):Int).toNat ⟨#[]⟩) bt) ?_
      obtain ⟨bu,h⟩:=h
      refine a7 (A5 _ _ _ (q++(([⟨#[32,43,32]⟩,⟨#[32,45,32]⟩,⟨#[32,42,32]⟩,⟨#[32,47,32]⟩,⟨#[32,37,32]⟩]:List ByteArray).getD (IntKind.wrap .i64 (x0.b8-6):Int).toNat ⟨#[]⟩)) am bu) ?_
      exact hR _ bs _ _ t.drop.drop ⟨((q++(([⟨#[32,43,32]⟩,⟨#[32,45,32]⟩,⟨#[32,42,32]⟩,⟨#[32,47,32]⟩,⟨#[32,37,32]⟩]:List ByteArray).getD (IntKind.wrap .i64 (x0.b8-6):Int).toNat ⟨#[]⟩))++am),rfl,rfl,h⟩
def a2X(x0:Int)(H:Hp)(K:ByteArray→Hp→Prop):Prop:=
 (0:Int)≤IntKind.wrap .i64 (x0-1)∧(IntKind.wrap .i64 (x0-1):Int) < 6∧
 K (([⟨#[60]⟩,⟨#[60,61]⟩,⟨#[61,61]⟩,⟨#[33,61]⟩,⟨#[62]⟩,⟨#[62,61]⟩]:List ByteArray).getD (IntKind.wrap .i64 (x0-1):Int).toNat ⟨#[]⟩) H
theorem a5S(x0){H K}(h:a2X x0 H K):a0W x0 H K:=by
 refine Ct.of fun w0 w ps0 H0 R E I hR=>b9b ?_
 unfold a2X at h
 unfold F58
 refine a7 (a3L _ _ _ _ _ _) ?_
 refine L1 I Tryz.zeroValue132 (cs:=[(eS),(eS),(eS),(eS),(eS),(eS)]) rfl fun e f d g=>?_
 refine U3 d Tryz.sizeOf132 (vs:=[(Value.string ⟨#[60]⟩),(Value.string ⟨#[60,61]⟩),(Value.string ⟨#[61,61]⟩),(Value.string ⟨#[33,61]⟩),(Value.string ⟨#[62]⟩),(Value.string ⟨#[62,61]⟩)]) fun i a j=>?_
 refine a7 pSu ?_
 obtain ⟨b,c,h⟩:=h
 refine a7 (b3s _ _ b c) (b9 (ld1 (v:=(Value.string (([⟨#[60]⟩,⟨#[60,61]⟩,⟨#[61,61]⟩,⟨#[33,61]⟩,⟨#[62]⟩,⟨#[62,61]⟩]:List ByteArray).getD (IntKind.wrap .i64 (x0-1):Int).toNat ⟨#[]⟩))) Tryz.isAgg9 (Inv.b4h (n:=6) (l:=[⟨#[60]⟩,⟨#[60,61]⟩,⟨#[61,61]⟩,⟨#[33,61]⟩,⟨#[62]⟩,⟨#[62,61]⟩]) a rfl rfl b c)) ?_)
 exact hR _ H _ _ a.drop ⟨(([⟨#[60]⟩,⟨#[60,61]⟩,⟨#[61,61]⟩,⟨#[33,61]⟩,⟨#[62]⟩,⟨#[62,61]⟩]:List ByteArray).getD (IntKind.wrap .i64 (x0-1):Int).toNat ⟨#[]⟩),rfl,rfl,h⟩
def k7(c1l:Sl)(b9Q:Int)(a8L:Int)(Z5:d4)(H:Hp)(n1:(Int×d4)→Hp→Prop)(K:d4→Hp→Prop):Prop:=
 n1 ((IntKind.wrap .i64 (a8L+1)),Z5) H
def B5(c0X:Sl)(b3G:Int)(b5J:Int)(P1:d4)(c:i6)(H:Hp)(n1:(Int×d4)→Hp→Prop)(K:d4→Hp→Prop):Prop:=
 m0 P1 b3G ⟨#[125]⟩ H (fun a b=>
 k7 c0X b3G b5J a b n1 K)
def Q8(a4K:Sl)(a1g:Int)(N1:Int)(O2:d4)(H:Hp)(n1:(Int×d4)→Hp→Prop)(K:d4→Hp→Prop):Prop:=
 (((decide (N1 < (a4K.n:Int)))&&(decide ((O2.fs.size:Int)≤65536)))=true→
 (0:Int)≤N1∧(N1:Int) < a4K.n∧∃a:i6,EltH H a4K N1 6 (d7 a)∧
 (a.b8=1→
 a.f4.size+(⟨#[32,61,32]⟩:ByteArray).size≤9223372036854775807∧
 (0:Int)≤0∧(0:Int) < a.f0.n∧∃j:d8,EltH H a.f0 0 4 (c7 j)∧
 o9 j H (fun c t=>
 (a.f4++(⟨#[32,61,32]⟩:ByteArray)).size+c.size≤9223372036854775807∧
 ((a.f4++(⟨#[32,61,32]⟩:ByteArray))++c).size+(⟨#[59]⟩:ByteArray).size≤9223372036854775807∧
 m0 O2 a1g (((a.f4++(⟨#[32,61,32]⟩:ByteArray))++c)++(⟨#[59]⟩:ByteArray)) t (fun u v=>
 k7 a4K a1g N1 u v n1 K)))∧
 (¬(a.b8=1)→
 (a.b8=2→
 a.f4.size+(⟨#[91]⟩:ByteArray).size≤9223372036854775807∧
 (0:Int)≤0∧(0:Int) < a.f0.n∧∃k:d8,EltH H a.f0 0 4 (c7 k)∧
 (0:Int)≤1∧(1:Int) < a.f0.n∧∃l:d8,EltH H a.f0 1 4 (c7 l)∧
 o9 k H (fun b y=>
 (a.f4++(⟨#[91]⟩:ByteArray)).size+b.size≤9223372036854775807∧
 ((a.f4++(⟨#[91]⟩:ByteArray))++b).size+(⟨#[93,32,61,32]⟩:ByteArray).size≤9223372036854775807∧
 o9 l y (fun d z=>
 (((a.f4++(⟨#[91]⟩:ByteArray))++b)++(⟨#[93,32,61,32]⟩:ByteArray)).size+d.size≤9223372036854775807∧
 ((((a.f4++(⟨#[91]⟩:ByteArray))++b)++(⟨#[93,32,61,32]⟩:ByteArray))++d).size+(⟨#[59]⟩:ByteArray).size≤9223372036854775807∧
 m0 O2 a1g (((((a.f4++(⟨#[91]⟩:ByteArray))++b)++(⟨#[93,32,61,32]⟩:ByteArray))++d)++(⟨#[59]⟩:ByteArray)) z (fun aa ab=>
 k7 a4K a1g N1 aa ab n1 K))))∧
 (¬(a.b8=2)→
 (a.b8=5→
 (0:Int)≤0∧(0:Int) < a.m7.n∧∃m:f9,EltH H a.m7 0 4 (c9 m)∧
 u0 m H (fun e ac=>
 (⟨#[97,115,115,101,114,116,32]⟩:ByteArray).size+e.size≤9223372036854775807∧
 ((⟨#[97,115,115,101,114,116,32]⟩:ByteArray)++e).size+(⟨#[59]⟩:ByteArray).size≤9223372036854775807∧
 m0 O2 a1g (((⟨#[97,115,115,101,114,116,32]⟩:ByteArray)++e)++(⟨#[59]⟩:ByteArray)) ac (fun ad ae=>
 k7 a4K a1g N1 ad ae n1 K)))∧
 (¬(a.b8=5)→
 (a.b8=6→
 (0:Int)≤0∧(0:Int) < a.m7.n∧∃o:f9,EltH H a.m7 0 4 (c9 o)∧
 u0 o H (fun f af=>
 (⟨#[97,115,115,117,109,101,32]⟩:ByteArray).size+f.size≤9223372036854775807∧
 ((⟨#[97,115,115,117,109,101,32]⟩:ByteArray)++f).size+(⟨#[59]⟩:ByteArray).size≤9223372036854775807∧
 m0 O2 a1g (((⟨#[97,115,115,117,109,101,32]⟩:ByteArray)++f)++(⟨#[59]⟩:ByteArray)) af (fun ag ah=>
 k7 a4K a1g N1 ag ah n1 K)))∧
 (¬(a.b8=6)→
 (a.b8=7→
 m0 O2 a1g ⟨#[115,107,105,112,59]⟩ H (fun ai aj=>
 k7 a4K a1g N1 ai aj n1 K))∧
 (¬(a.b8=7)→
 (a.b8=4→
 (0:Int)≤0∧(0:Int) < a.m7.n∧∃p:f9,EltH H a.m7 0 4 (c9 p)∧
 u0 p H (fun g ak=>
 (⟨#[119,104,105,108,101,32]⟩:ByteArray).size+g.size≤9223372036854775807∧
 ((⟨#[119,104,105,108,101,32]⟩:ByteArray)++g).size+(⟨#[32,123]⟩:ByteArray).size≤9223372036854775807∧
 m0 O2 a1g (((⟨#[119,104,105,108,101,32]⟩:ByteArray)++g)++(⟨#[32,123]⟩:ByteArray)) ak (fun al am=>
 u9 al a.D1 (IntKind.wrap .i64 (a1g+1)) am (fun an ao=>
 m0 an a1g ⟨#[125]⟩ ao (fun ap aq=>
 k7 a4K a1g N1 ap aq n1 K)))))∧
 (¬(a.b8=4)→
 (a.b8=3→
 (0:Int)≤0∧(0:Int) < a.m7.n∧∃q:f9,EltH H a.m7 0 4 (c9 q)∧
 u0 q H (fun i ar=>
 (⟨#[105,102,32]⟩:ByteArray).size+i.size≤9223372036854775807∧
 ((⟨#[105,102,32]⟩:ByteArray)++i).size+(⟨#[32,123]⟩:ByteArray).size≤9223372036854775807∧
 m0 O2 a1g (((⟨#[105,102,32]⟩:ByteArray)++i)++(⟨#[32,123]⟩:ByteArray)) ar (fun au av=>
 u9 au a.D1 (IntKind.wrap .i64 (a1g+1)) av (fun r s=>
 (0 < (a.A6.n:Int)→
 m0 r a1g ⟨#[125,32,101,108,115,101,32,123]⟩ s (fun aw ax=>
 u9 aw a.A6 (IntKind.wrap .i64 (a1g+1)) ax (fun ay az=>
 B5 a4K a1g N1 ay a az n1 K)))∧
 (¬(0 < (a.A6.n:Int))→
 B5 a4K a1g N1 r a s n1 K)))))∧
 (¬(a.b8=3)→
 k7 a4K a1g N1 O2 H n1 K))))))))∧
 (((decide (N1 < (a4K.n:Int)))&&(decide ((O2.fs.size:Int)≤65536)))=false→
 K O2 H)
def V4(x0:d4)(x1:Sl)(x2:Int)(H:Hp)(K:d4→Hp→Prop):Prop:=
 TL ((0,x0):Int×d4) H fun(s:Int×d4) H n1=>Q8 x1 x2 s.1 s.2 H n1 K
theorem a4k(x0 x1 x2){H K}(h:V4 x0 x1 x2 H K):u9 x0 x1 x2 H K:=by
 intro g0
 refine Ct.of fun w0 w ps0 H0 R E I hR=>b8q ?_
 unfold V4 at h
 unfold F17
 refine B2 (σ:=Int×d4) (fun (N1,O2)=>[(vi N1)]) (fun (N1,O2)=>[bx g0 57 [(Value.string O2.fs)]]) h rfl I ?_
 rintro ⟨N1,O2⟩ H dr w next1 n1 j I h hn1
 dsimp only at j I h
 simp only [List.map_cons,List.map_nil,List.cons.injEq,and_true] at j
 have e6:=j
 simp only [e6]
 unfold b4v
 unfold Q8 at h
 refine a7 (K8 _ _ _) (a7 pLs ?_)
 simp only [o6]
 refine a7 (Pu.g fun a=>by simp only [d9 a];with_reducible exact (g7 _)) ?_
 refine a7 (Pu.g fun a=>by simp only [d9 a];with_reducible exact a3p) ?_
 refine b9 (Ld.g fun a=>by simp only [d9 a];exact (l1 Tryz.isAgg9 I rfl)) ?_
 refine a7 (Pu.g fun a=>by simp only [d9 a];with_reducible exact (a2P _)) ?_
 refine a7 (Pu.g fun a=>by simp only [d9 a];with_reducible exact pLe) ?_
 refine a7 (o7 _ _) ?_
 refine g6 h (fun _ h=>?_) (fun _ h=>?_)
 ·have hj2:∀(Z5:d4) H w (_:Inv w0 ps0 H0 H [bx g0 57 [(Value.string Z5.fs)]] w) (_:k7 x1 x2 N1 Z5 H n1 K),b0Y (Value.pointer (some ⟨g0,0,none⟩)) (vs x1) (vi x2) (vi N1) w next1 R E:=by
   intro Z5 H w I h
   unfold b0Y
   intro _
   unfold k7 at h
   refine a7 pAd ?_
   exact hn1 ((IntKind.wrap .i64 (N1+1)),Z5) _ _ h I
  refine k8 fun j2 hx2=>?_
  obtain ⟨ag,ah,c,k,h⟩:=h
  obtain ⟨ds,dt,ai,k⟩:=k
  refine a7 (a1P ai _ _ _ _ ag ah) (b9 (ldA (vs:=(d7 c)) Tryz.isAgg51 Tryz.sizeOf51 rfl (I.atH k)) ?_)
  refine L1 I Tryz.zeroValue51 (cs:=[(vi 0),(eS),(nS),(nS),(nS),(nS)]) rfl fun u du aj dv=>?_
  refine U3 aj Tryz.sizeOf51 (vs:=(d7 c)) fun dw b dx=>?_
  refine a7 U5 (b9 (l1 Tryz.isAgg3 b rfl) (a7 pEq ?_))
  refine c8 h (fun _ h=>?_) (fun _ h=>?_)
  ·refine V9 b fun dy e=>?_
   refine f6 a0y ?_
   refine f6 O8 ?_
   refine l8 (l1 Tryz.isAgg9 e rfl) ?_
   obtain ⟨ak,h⟩:=h
   refine f6 (A5 _ _ _ c.f4 ⟨#[32,61,32]⟩ ak) ?_
   refine l8 (l1 Tryz.isAgg34 e rfl) ?_
   obtain ⟨al,am,an,l,h⟩:=h
   obtain ⟨dz,ea,ao,l⟩:=l
   refine f6 (B3 ao _ _ _ _ al am) ?_
   refine l8 (ldA (vs:=(c7 an)) Tryz.isAgg36 Tryz.sizeOf36 rfl (e.atH l)) ?_
   refine d3 Tryz.call34 h e ?_
   rintro _ _ _ eb ap _ aq ⟨v,rfl,rfl,h⟩
   refine ⟨(aq _ e.lt1 (Inv.E0 (Fi:=[]) e)),?_⟩
   obtain ⟨ar,h⟩:=h
   refine f6 (A5 _ _ _ (c.f4++(⟨#[32,61,32]⟩:ByteArray)) v ar) ?_
   obtain ⟨au,h⟩:=h
   refine f6 (A5 _ _ _ ((c.f4++(⟨#[32,61,32]⟩:ByteArray))++v) ⟨#[59]⟩ au) ?_
   refine d3 Tryz.call15 (h g0) (ap.bring 1) ?_
   rintro _ av _ ec aw _ _ ⟨ax,rfl,rfl,h⟩
   exact hx2 _ _ (hj2 ax av _ (aw.bring 1).drop h)
  ·refine a7 pEq ?_
   refine c8 h (fun _ h=>?_) (fun _ h=>?_)
   ·refine V9 b fun ed d=>?_
    refine f6 a0y ?_
    refine f6 O8 ?_
    refine f6 O8 ?_
    refine l8 (l1 Tryz.isAgg9 d rfl) ?_
    obtain ⟨ay,h⟩:=h
    refine f6 (A5 _ _ _ c.f4 ⟨#[91]⟩ ay) ?_
    refine l8 (l1 Tryz.isAgg34 d rfl) ?_
    obtain ⟨az,ba,bb,m,h⟩:=h
    obtain ⟨ee,ef,bc,m⟩:=m
    refine f6 (B3 bc _ _ _ _ az ba) ?_
    refine l8 (ldA (vs:=(c7 bb)) Tryz.isAgg36 Tryz.sizeOf36 rfl (d.atH m)) ?_
    refine l8 (l1 Tryz.isAgg34 d rfl) ?_
    obtain ⟨bd,be,bf,f,h⟩:=h
    obtain ⟨eg,eh,bg,f⟩:=f
    refine f6 (B3 bg _ _ _ _ bd be) ?_
    refine l8 (ldA (vs:=(c7 bf)) Tryz.isAgg36 Tryz.sizeOf36 rfl (d.atH f)) ?_
    refine d3 Tryz.call34 h d ?_
    rintro _ _ _ ei n _ o ⟨i,rfl,rfl,h⟩
    refine ⟨(o _ (d.a3Z f) ((Inv.self (Fi:=[]) (Fr:=[bx u 51 (d7 c),bx g0 57 [(Value.string O2.fs)]]) d).a3h f)),(o _ d.lt1 (Inv.E0 (Fi:=[]) d)),(o _ d.lt1 (Inv.E0 (Fi:=[]) d)),?_⟩
    obtain ⟨bh,h⟩:=h
    refine f6 (A5 _ _ _ (c.f4++(⟨#[91]⟩:ByteArray)) i bh) ?_
    obtain ⟨bi,h⟩:=h
    refine f6 (A5 _ _ _ ((c.f4++(⟨#[91]⟩:ByteArray))++i) ⟨#[93,32,61,32]⟩ bi) ?_
    refine d3 Tryz.call34 h n ?_
    rintro _ _ _ ej bj _ bk ⟨y,rfl,rfl,h⟩
    refine ⟨(bk _ n.lt1 (Inv.E0 (Fi:=[]) n)),?_⟩
    obtain ⟨bl,h⟩:=h
    refine f6 (A5 _ _ _ (((c.f4++(⟨#[91]⟩:ByteArray))++i)++(⟨#[93,32,61,32]⟩:ByteArray)) y bl) ?_
    obtain ⟨bm,h⟩:=h
    refine f6 (A5 _ _ _ ((((c.f4++(⟨#[91]⟩:ByteArray))++i)++(⟨#[93,32,61,32]⟩:ByteArray))++y) ⟨#[59]⟩ bm) ?_
    refine d3 Tryz.call15 (h g0) (bj.bring 1) ?_
    rintro _ bn _ ek bo _ _ ⟨bp,rfl,rfl,h⟩
    exact hx2 _ _ (hj2 bp bn _ (bo.bring 1).drop h)
   ·refine a7 pEq ?_
    refine c8 h (fun _ h=>?_) (fun _ h=>?_)
    ·refine a7 L6 (b9 (l1 Tryz.isAgg49 b rfl) ?_)
     obtain ⟨bq,br,bs,p,h⟩:=h
     obtain ⟨el,em,bt,p⟩:=p
     refine a7 (G8 bt _ _ _ _ bq br) (b9 (ldA (vs:=(c9 bs)) Tryz.isAgg71 Tryz.sizeOf71 rfl (b.atH p)) ?_)
     refine d3 Tryz.call35 h b ?_
     rintro _ _ _ en bu _ _ ⟨z,rfl,rfl,h⟩
     obtain ⟨bv,h⟩:=h
     refine a7 (A5 _ _ _ ⟨#[97,115,115,101,114,116,32]⟩ z bv) ?_
     obtain ⟨bw,h⟩:=h
     refine a7 (A5 _ _ _ ((⟨#[97,115,115,101,114,116,32]⟩:ByteArray)++z) ⟨#[59]⟩ bw) ?_
     refine d3 Tryz.call15 (h g0) (bu.bring 1) ?_
     rintro _ bz _ eo ca _ _ ⟨cb,rfl,rfl,h⟩
     exact hx2 _ _ (hj2 cb bz _ (ca.bring 1).drop h)
    ·refine a7 pEq ?_
     refine c8 h (fun _ h=>?_) (fun _ h=>?_)
     ·refine a7 L6 (b9 (l1 Tryz.isAgg49 b rfl) ?_)
      obtain ⟨cc,cd,ce,q,h⟩:=h
      obtain ⟨ep,eq,cf,q⟩:=q
      refine a7 (G8 cf _ _ _ _ cc cd) (b9 (ldA (vs:=(c9 ce)) Tryz.isAgg71 Tryz.sizeOf71 rfl (b.atH q)) ?_)
      refine d3 Tryz.call35 h b ?_
      rintro _ _ _ er cg _ _ ⟨aa,rfl,rfl,h⟩
      obtain ⟨ch,h⟩:=h
      refine a7 (A5 _ _ _ ⟨#[97,115,115,117,109,101,32]⟩ aa ch) ?_
      obtain ⟨ci,h⟩:=h
      refine a7 (A5 _ _ _ ((⟨#[97,115,115,117,109,101,32]⟩:ByteArray)++aa) ⟨#[59]⟩ ci) ?_
      refine d3 Tryz.call15 (h g0) (cg.bring 1) ?_
      rintro _ cj _ es ck _ _ ⟨cl,rfl,rfl,h⟩
      exact hx2 _ _ (hj2 cl cj _ (ck.bring 1).drop h)
     ·refine a7 pEq ?_
      refine c8 h (fun _ h=>?_) (fun _ h=>?_)
      ·refine d3 Tryz.call15 (h g0) (b.bring 1) ?_
       rintro _ cm _ et cn _ _ ⟨co,rfl,rfl,h⟩
       exact hx2 _ _ (hj2 co cm _ (cn.bring 1).drop h)
      ·refine a7 pEq ?_
       refine c8 h (fun _ h=>?_) (fun _ h=>?_)
       ·refine a7 L6 (b9 (l1 Tryz.isAgg49 b rfl) ?_)
        obtain ⟨cp,cq,cr,r,h⟩:=h
        obtain ⟨eu,ev,ct,r⟩:=r
        refine a7 (G8 ct _ _ _ _ cp cq) (b9 (ldA (vs:=(c9 cr)) Tryz.isAgg71 Tryz.sizeOf71 rfl (b.atH r)) ?_)
        refine d3 Tryz.call35 h b ?_
        rintro _ _ _ ew cu _ _ ⟨ab,rfl,rfl,h⟩
        obtain ⟨cv,h⟩:=h
        refine a7 (A5 _ _ _ ⟨#[119,104,105,108,101,32]⟩ ab cv) ?_
        obtain ⟨cw,h⟩:=h
        refine a7 (A5 _ _ _ ((⟨#[119,104,105,108,101,32]⟩:ByteArray)++ab) ⟨#[32,123]⟩ cw) ?_
        refine d3 Tryz.call15 (h g0) (cu.bring 1) ?_
        rintro _ _ _ ex ac _ _ ⟨ey,rfl,rfl,h⟩
        refine a7 U6 (b9 (l1 Tryz.isAgg23 (ac.bring 1) rfl) (a7 pAd ?_))
        refine d3 Tryz.call17 (h g0) ac ?_
        rintro _ _ _ ez cx _ _ ⟨fa,rfl,rfl,h⟩
        refine d3 Tryz.call15 (h g0) cx ?_
        rintro _ cy _ fb cz _ _ ⟨da,rfl,rfl,h⟩
        exact hx2 _ _ (hj2 da cy _ (cz.bring 1).drop h)
       ·refine a7 pEq ?_
        refine c8 h (fun _ h=>?_) (fun _ h=>?_)
        ·refine a7 L6 (b9 (l1 Tryz.isAgg49 b rfl) ?_)
         obtain ⟨db,dc,dd,s,h⟩:=h
         obtain ⟨fc,fd,de,s⟩:=s
         refine a7 (G8 de _ _ _ _ db dc) (b9 (ldA (vs:=(c9 dd)) Tryz.isAgg71 Tryz.sizeOf71 rfl (b.atH s)) ?_)
         refine d3 Tryz.call35 h b ?_
         rintro _ _ _ fe df _ _ ⟨ad,rfl,rfl,h⟩
         obtain ⟨dg,h⟩:=h
         refine a7 (A5 _ _ _ ⟨#[105,102,32]⟩ ad dg) ?_
         obtain ⟨dh,h⟩:=h
         refine a7 (A5 _ _ _ ((⟨#[105,102,32]⟩:ByteArray)++ad) ⟨#[32,123]⟩ dh) ?_
         refine d3 Tryz.call15 (h g0) (df.bring 1) ?_
         rintro _ _ _ ff ae _ _ ⟨fg,rfl,rfl,h⟩
         refine a7 U6 (b9 (l1 Tryz.isAgg23 (ae.bring 1) rfl) (a7 pAd ?_))
         refine d3 Tryz.call17 (h g0) ae ?_
         rintro _ di _ fh t _ _ ⟨dj,rfl,rfl,h⟩
         have hj3:∀(P1:d4) H w (_:Inv w0 ps0 H0 H [bx g0 57 [(Value.string P1.fs)],bx u 51 (d7 c)] w) (_:B5 x1 x2 N1 P1 c H n1 K),b0Z (Value.pointer (some ⟨g0,0,none⟩)) (vs x1) (vi x2) (vi N1) w j2 R E:=by
          intro P1 H w I h
          unfold b0Z
          intro _
          unfold B5 at h
          refine d3 Tryz.call15 (h g0) I ?_
          rintro _ dk _ fi dl _ _ ⟨dm,rfl,rfl,h⟩
          exact hx2 _ _ (hj2 dm dk _ (dl.bring 1).drop h)
         refine k8 fun j3 hx3=>?_
         refine a7 R0 (b9 (l1 Tryz.isAgg23 (t.bring 1) rfl) (a7 (K8 _ _ _) (a7 pGt ?_)))
         refine c8 h (fun _ h=>?_) (fun _ h=>?_)
         ·refine d3 Tryz.call15 (h g0) t ?_
          rintro _ _ _ fj af _ _ ⟨fk,rfl,rfl,h⟩
          refine a7 R0 (b9 (l1 Tryz.isAgg23 (af.bring 1) rfl) (a7 pAd ?_))
          refine d3 Tryz.call17 (h g0) af ?_
          rintro _ dn _ fl dp _ _ ⟨dq,rfl,rfl,h⟩
          exact hx3 _ _ (hj3 dq dn _ ((dp.bring 1).bring 1) h)
         ·exact hx3 _ _ (hj3 dj di _ ((t.bring 1).bring 1) h)
        ·exact hx2 _ _ (hj2 O2 H _ b.drop h)
 ·exact hR _ H _ _ I ⟨O2,rfl,rfl,h⟩
def a2e(x0:Int)(x1:Int)(x2:Int)(H:Hp)(K:Bool→Hp→Prop):Prop:=
 K ((decide (x1≤x0))&&(decide (x0≤x2))) H
theorem a4W(x0 x1 x2){H K}(h:a2e x0 x1 x2 H K):A7 x0 x1 x2 H K:=by
 refine Ct.of fun w0 w ps0 H0 R E I hR=>b9u ?_
 unfold a2e at h
 unfold F94
 refine a7 pGe ?_
 simp only [o6]
 refine a7 (Pu.g fun a=>by simp only [d9 a];with_reducible exact pLe) ?_
 refine a7 (o7 _ _) ?_
 exact hR _ H _ _ I ⟨((decide (x1≤x0))&&(decide (x0≤x2))),rfl,rfl,h⟩
def V5(x0:l9)(H:Hp)(K:Bool→Hp→Prop):Prop:=
 a0A H (fun a b=>
 ((!a)=true→
 K false b)∧
 ((!a)=false→
 a2k x0 b (fun c d e=>
 a0D x0 e (fun f g i=>
 K ((decide (c=f))&&(decide (d=g))) i))))
theorem a4l(x0){H K}(h:V5 x0 H K):V0 x0 H K:=by
 refine Ct.of fun w0 w ps0 H0 R E I hR=>c0p ?_
 unfold V5 at h
 unfold F3
 refine y7 I (cs:=(o8 x0)) rfl fun n o j p=>?_
 refine d3 Tryz.call4 h j ?_
 rintro _ k _ q b _ _ ⟨r,rfl,rfl,h⟩
 refine a7 (T5 _) ?_
 refine g6 h (fun _ h=>?_) (fun _ h=>?_)
 ·exact hR _ k _ _ b.drop ⟨false,rfl,rfl,h⟩
 ·refine b9 (lW Tryz.isAgg25 Tryz.sizeOf25 rfl b) ?_
  refine d3 Tryz.call5 h b ?_
  rintro _ _ _ s c _ _ ⟨d,e,rfl,rfl,h⟩
  refine a7 (v8 _ _ (Value.string d) rfl) (a7 (v8 _ _ (vi e) rfl) (b9 (lW Tryz.isAgg25 Tryz.sizeOf25 rfl c) ?_))
  refine d3 Tryz.call6 h c ?_
  rintro _ l _ t m _ _ ⟨f,i,rfl,rfl,h⟩
  refine a7 (v8 _ _ (Value.string f) rfl) (a7 (v8 _ _ (vi i) rfl) (a7 (E9 _ _ _ _ _) ?_))
  simp only [o6]
  refine a7 (Pu.g fun a=>by simp only [d9 a];with_reducible exact pEq) ?_
  refine a7 (o7 _ _) ?_
  exact hR _ l _ _ m.drop ⟨((decide (d=f))&&(decide (e=i))),rfl,rfl,h⟩
def z8(a7P:Int)(a8b:Bool)(a:B6)(H:Hp)(K:Bool→Hp→Prop):Prop:=
 (a8b=true→
 K (decide (a7P=2)) H)∧
 (a8b=false→
 K false H)
def H9(a2b:Int)(a3u:Int)(a8c:Bool)(a:B6)(H:Hp)(K:Bool→Hp→Prop):Prop:=
 (a8c=true→
 K (decide (a2b=1)) H)∧
 (a8c=false→
 (a3u=6→
 z8 a2b (decide (a3u=6)) a H K)∧
 (¬(a3u=6)→
 (a3u=7→
 z8 a2b (decide (a3u=7)) a H K)∧
 (¬(a3u=7)→
 (a3u=8→
 z8 a2b (decide (a3u=8)) a H K)∧
 (¬(a3u=8)→
 (a3u=9→
 z8 a2b (decide (a3u=9)) a H K)∧
 (¬(a3u=9)→
 z8 a2b (decide (a3u=10)) a H K)))))
def I0(K5:Int)(a3v:Int)(a8d:Bool)(a:B6)(H:Hp)(K:Bool→Hp→Prop):Prop:=
 (a8d=true→
 K (decide (K5=0)) H)∧
 (a8d=false→
 (a3v=4→
 H9 K5 a3v (decide (a3v=4)) a H K)∧
 (¬(a3v=4)→
 H9 K5 a3v (decide (a3v=5)) a H K))
def a1y(x0:B6)(H:Hp)(K:Bool→Hp→Prop):Prop:=
 Z7 (c6.v1 x0) H (fun c b a=>
 ((((!decide (x0.m8.b8=1))&&(!decide (x0.m8.a0w=0)))||((!b)&&(!decide (x0.m8.f4=⟨#[]⟩))))=true→
 K false a)∧
 ((((!decide (x0.m8.b8=1))&&(!decide (x0.m8.a0w=0)))||((!b)&&(!decide (x0.m8.f4=⟨#[]⟩))))=false→
 (x0.m8.b8=1→
 K ((decide (0≤x0.m8.a0w))&&(decide ((x0.m8.r5.n:Int)=0))) a)∧
 (¬(x0.m8.b8=1)→
 (x0.m8.b8=2→
 I0 (x0.m8.r5.n:Int) x0.m8.b8 (decide (x0.m8.b8=2)) x0 a K)∧
 (¬(x0.m8.b8=2)→
 I0 (x0.m8.r5.n:Int) x0.m8.b8 (decide (x0.m8.b8=3)) x0 a K))))
theorem a6k(x0){H K}(h:a1y x0 H K):a1s x0 H K:=by
 refine Ct.of fun w0 w ps0 H0 R E I hR=>b7d ?_
 unfold a1y at h
 unfold b9C
 refine y7 I (cs:=(c7 x0.m8)) rfl fun f l i m=>?_
 refine a7 Z3 (a7 G3 (b9 (l1 Tryz.isAgg34 i rfl) (a7 (T6 _ _ _) (b9 (lW Tryz.isAgg85 Tryz.sizeOf85 rfl i) ?_))))
 refine a7 (a5I x0) ?_
 refine d3 Tryz.call80 h i ?_
 rintro _ d _ o c _ _ ⟨j,k,rfl,rfl,h⟩
 refine a7 (v8 _ _ (Value.string j) rfl) (a7 (v8 _ _ (vB k) rfl) (a7 Z3 (a7 L8 (b9 (l1 Tryz.isAgg3 c rfl) ?_))))
 refine a7 pNe ?_
 refine a7 (Pu.g fun a=>by with_reducible exact Z3) ?_
 refine a7 (Pu.g fun a=>by simp only [d9 a];with_reducible exact a3q) ?_
 refine b9 (Ld.g fun a=>by simp only [d9 a];exact (l1 Tryz.isAgg2 c rfl)) ?_
 refine a7 (Pu.g fun a=>by simp only [d9 a];with_reducible exact pNe) ?_
 refine a7 (o7 _ _) ?_
 simp only [o6]
 refine a7 (Pu.g fun a=>by simp only [d9 a];with_reducible exact (T5 _)) ?_
 simp only [a3j]
 refine a7 (Pu.e (a1C _ _ _) (Pu.g fun hb=>by obtain ⟨a,b⟩:=a3i hb;with_reducible exact Z3)) ?_
 refine a7 (Pu.e (a1C _ _ _) (Pu.g fun hb=>by obtain ⟨a,b⟩:=a3i hb;simp only [d9 hb];with_reducible exact a2j)) ?_
 refine b9 (Ld.e (a1C _ _ _) (Ld.g fun hb=>by obtain ⟨a,b⟩:=a3i hb;simp only [d9 hb];exact (l1 Tryz.isAgg9 c rfl))) ?_
 refine a7 (Pu.e (a1C _ _ _) (Pu.g fun hb=>by obtain ⟨a,b⟩:=a3i hb;simp only [d9 hb];with_reducible exact (b8a _ _ _ _ _))) ?_
 refine a7 (Pu.g fun a=>by simp only [d9 a,a5H a];with_reducible exact (o7 _ _)) ?_
 refine a7 (K7 _ _) ?_
 refine g6 h (fun _ h=>?_) (fun _ h=>?_)
 ·exact hR _ d _ _ c.drop ⟨false,rfl,rfl,h⟩
 ·refine a7 Z3 (a7 L8 (b9 (l1 Tryz.isAgg3 c rfl) (a7 pEq ?_)))
  refine c8 h (fun _ h=>?_) (fun _ h=>?_)
  ·refine a7 Z3 (a7 a3q (b9 (l1 Tryz.isAgg2 c rfl) (a7 pGe ?_)))
   simp only [o6]
   refine a7 (Pu.g fun a=>by simp only [d9 a];with_reducible exact pEq) ?_
   refine a7 (o7 _ _) ?_
   exact hR _ d _ _ c.drop ⟨((decide (0≤x0.m8.a0w))&&(decide ((x0.m8.r5.n:Int)=0))),rfl,rfl,h⟩
  ·have hj1:∀(a8d:Bool) H w (_:Inv w0 ps0 H0 H [bx f 85 (c7 x0.m8)] w) (_:I0 (x0.m8.r5.n:Int) x0.m8.b8 a8d x0 H K),a9w (vi (x0.m8.r5.n:Int)) (vi x0.m8.b8) (vB a8d) w R E:=by
    intro a8d H w I h
    unfold a9w
    intro _
    unfold I0 at h
    refine g6 h (fun _ h=>?_) (fun _ h=>?_)
    ·refine a7 pEq ?_
     exact hR _ H _ _ I.drop ⟨(decide ((x0.m8.r5.n:Int)=0)),rfl,rfl,h⟩
    ·have hj2:∀(a8c:Bool) H w (_:Inv w0 ps0 H0 H [bx f 85 (c7 x0.m8)] w) (_:H9 (x0.m8.r5.n:Int) x0.m8.b8 a8c x0 H K),a9v (vi (x0.m8.r5.n:Int)) (vi x0.m8.b8) (vB a8c) w R E:=by
      intro a8c H w I h
      unfold a9v
      intro _
      unfold H9 at h
      refine g6 h (fun _ h=>?_) (fun _ h=>?_)
      ·refine a7 pEq ?_
       exact hR _ H _ _ I.drop ⟨(decide ((x0.m8.r5.n:Int)=1)),rfl,rfl,h⟩
      ·have hj3:∀(a8b:Bool) H w (_:Inv w0 ps0 H0 H [bx f 85 (c7 x0.m8)] w) (_:z8 (x0.m8.r5.n:Int) a8b x0 H K),a9u (vi (x0.m8.r5.n:Int)) (vB a8b) w R E:=by
        intro a8b H w I h
        unfold a9u
        intro _
        unfold z8 at h
        refine g6 h (fun _ h=>?_) (fun _ h=>?_)
        ·refine a7 pEq ?_
         exact hR _ H _ _ I.drop ⟨(decide ((x0.m8.r5.n:Int)=2)),rfl,rfl,h⟩
        ·exact hR _ H _ _ I.drop ⟨false,rfl,rfl,h⟩
       refine k8 fun j3 hx3=>?_
       refine a7 pEq ?_
       refine c8 h (fun _ h=>?_) (fun _ h=>?_)
       ·exact hx3 _ _ (hj3 (decide (x0.m8.b8=6)) H _ I h)
       ·refine a7 pEq ?_
        refine c8 h (fun _ h=>?_) (fun _ h=>?_)
        ·exact hx3 _ _ (hj3 (decide (x0.m8.b8=7)) H _ I h)
        ·refine a7 pEq ?_
         refine c8 h (fun _ h=>?_) (fun _ h=>?_)
         ·exact hx3 _ _ (hj3 (decide (x0.m8.b8=8)) H _ I h)
         ·refine a7 pEq ?_
          refine c8 h (fun _ h=>?_) (fun _ h=>?_)
          ·exact hx3 _ _ (hj3 (decide (x0.m8.b8=9)) H _ I h)
          ·refine a7 pEq ?_
           exact hx3 _ _ (hj3 (decide (x0.m8.b8=10)) H _ I h)
     refine k8 fun j2 hx2=>?_
     refine a7 pEq ?_
     refine c8 h (fun _ h=>?_) (fun _ h=>?_)
     ·exact hx2 _ _ (hj2 (decide (x0.m8.b8=4)) H _ I h)
     ·refine a7 pEq ?_
      exact hx2 _ _ (hj2 (decide (x0.m8.b8=5)) H _ I h)
   refine k8 fun j1 hx1=>?_
   refine a7 pEq ?_
   refine c8 h (fun _ h=>?_) (fun _ h=>?_)
   ·exact hx1 _ _ (hj1 (decide (x0.m8.b8=2)) d _ c h)
   ·refine a7 pEq ?_
    exact hx1 _ _ (hj1 (decide (x0.m8.b8=3)) d _ c h)
def s9(V2:(List c6))(H:Hp)(K:Sl→Hp→Prop):Prop:=
 ∀(E4:Sl)(a:Hp),Hle H a→SlH a 1 l7 E4 V2→NewS H a 92 1 E4→
 K E4 a
def t6(a0E:Sl)(a4j:Int)(p9:(List c6))(p5:Int)(H:Hp)(n2:((List c6)×Int)→Hp→Prop)(K:Sl→Hp→Prop):Prop:=
 (p5 < a4j→
 (0:Int)≤p5∧(p5:Int) < a0E.n∧∃a:f9,EltH H a0E p5 4 (c9 a)∧
 a4i a H (fun b c=>
 (p9.length+([b]:List c6).length)*17≤140737488355328∧
 n2 ((p9++[b]),(IntKind.wrap .i64 (p5+1))) c))∧
 (¬(p5 < a4j)→
 s9 p9 H K)
def C5(x0:Sl)(H:Hp)(K:Sl→Hp→Prop):Prop:=
 TL (([],0):(List c6)×Int) H fun(s:(List c6)×Int) H n2=>t6 x0 (x0.n:Int) s.1 s.2 H n2 K
theorem Y6(x0){H K}(h:C5 x0 H K):u6 x0 H K:=by
 refine Ct.of fun w0 w ps0 H0 R E I hR=>b7l ?_
 unfold C5 at h
 unfold b9K
 have hj1:∀(V2:(List c6))(E4:Sl)(Fs5j1:Frag) H w (_:RowL 92 1 l7 E4 V2 Fs5j1) (_:Inv w0 ps0 H0 H [Fs5j1] w) (_:s9 V2 H K),a9z (vs E4) w R E:=by
  intro V2 E4 Fs5j1 H w a7i I h
  unfold a9z
  intro _
  unfold s9 at h
  obtain ⟨j,q,r,t,u⟩:=Inv.freezeN I a7i (by decide)
  replace h:=h E4 j r t u
  exact hR _ j _ _ q ⟨E4,rfl,rfl,h⟩
 refine k8 fun j1 hx1=>?_
 refine a7 (a1K _ _ _) ?_
 obtain ⟨f,d,v,y⟩:=h
 refine a1B (J:=fun n l w=>∃(s:(List c6)×Int)(H:Hp)(V3:Sl)(Fs5l2:Frag),n=d s∧l=(match s with | (p9,p5)=>[(vs V3),(vi p5)])∧(match s with | (p9,p5)=>RowL 92 1 l7 V3 p9 Fs5l2)∧(match s with | (p9,p5)=>Inv w0 ps0 H0 H [Fs5l2] w)∧f s H) ⟨_,([],0),H,(Sl.mk none 0 0),[],rfl,rfl,(RowL.nil G9 K4),I.nil,v⟩ ?_
 rintro am an w next2 ⟨⟨p9,p5⟩,H,V3,Fs5l2,rfl,g,a2m,I,z⟩ hn2
 dsimp only at g I a2m
 simp only [List.map_cons,List.map_nil,List.cons.injEq,and_true] at g
 obtain ⟨e5,e10⟩:=g
 simp only [e5,e10]
 obtain ⟨n2,hm2,h⟩:∃n2:((List c6)×Int)→Hp→Prop,(∀s' H',n2 s' H'→f s' H'∧d s' < d (p9,p5))∧t6 x0 (x0.n:Int) p9 p5 H n2 K:=⟨_,fun _ _ h=>h,y (p9,p5) H (fun s' H'=>f s' H'∧d s' < d (p9,p5)) z (fun _ _ a b=>⟨a,b⟩)⟩
 unfold b2V
 unfold t6 at h
 refine a7 pLs ?_
 refine c8 h (fun _ h=>?_) (fun _ h=>?_)
 ·obtain ⟨aa,ab,k,i,h⟩:=h
  obtain ⟨ao,ap,ac,i⟩:=i
  refine a7 (G8 ac _ _ _ _ aa ab) (b9 (ldA (vs:=(c9 k)) Tryz.isAgg71 Tryz.sizeOf71 rfl (I.atH i)) ?_)
  refine L1 I Tryz.zeroValue71 (cs:=[(vi 0),(vi 0),(nS),(nS)]) rfl fun aq ar ad au=>?_
  refine U3 ad Tryz.sizeOf71 (vs:=(c9 k)) fun av m aw=>?_
  refine b9 (lW Tryz.isAgg71 Tryz.sizeOf71 rfl m) ?_
  refine d3 Tryz.call133 h m ?_
  rintro _ ae _ ax af _ _ ⟨o,rfl,rfl,h⟩
  refine W0 (e:=92) (c:=l7) (xs:=[o]) af (a6H _) rfl rfl G9 K4 (nb rfl) fun ay az ba ag p bb=>?_
  obtain ⟨ah,h⟩:=h
  refine a7K (s:=V3) (xs:=p9) (p.bring 2) a2m (ag.srcO ((p.bring 2).bring 1)) ah fun ai aj bc ak al bd=>?_
  refine a7 pAd ?_
  exact hn2 _ _ _ (hm2 _ _ h).2 ⟨((p9++[o]),(IntKind.wrap .i64 (p5+1))),ae,ai,aj,rfl,rfl,ak,((al.bring 1).drop.bring 1).drop,(hm2 _ _ h).1⟩
 ·exact hx1 _ _ (hj1 p9 V3 Fs5l2 H _ a2m I h)
def J0(a8e:Bool)(a:g9)(b:L5)(H:Hp)(K:Bool→Hp→Prop):Prop:=
 (a8e=true→
 K (decide (a.fexprs=0∧a.fparts=2)) H)∧
 (a8e=false→
 K false H)
def J1(a3v:Int)(a8f:Bool)(a:g9)(b:L5)(H:Hp)(K:Bool→Hp→Prop):Prop:=
 (a8f=true→
 K (decide (a.fexprs=0∧a.fparts=0)) H)∧
 (a8f=false→
 (a3v=4→
 K (decide (a.fexprs=0∧a.fparts=1)) H)∧
 (¬(a3v=4)→
 (a3v=5→
 J0 (decide (a3v=5)) a b H K)∧
 (¬(a3v=5)→
 J0 (decide (a3v=6)) a b H K)))
def a1z(x0:L5)(H:Hp)(K:Bool→Hp→Prop):Prop:=
 (x0.k6.b8=3→
 K (((decide (1≤x0.k6.fOp))&&(decide (x0.k6.fOp≤6)))&&(decide ((x0.k6.f0.n:Int)=2∧(x0.k6.o0.n:Int)=0))) H)∧
 (¬(x0.k6.b8=3)→
 (¬(x0.k6.fOp=0)→
 K false H)∧
 (x0.k6.fOp=0→
 (x0.k6.b8=1→
 J1 x0.k6.b8 (decide (x0.k6.b8=1)) (g9.mk (x0.k6.f0.n:Int) (x0.k6.o0.n:Int)) x0 H K)∧
 (¬(x0.k6.b8=1)→
 J1 x0.k6.b8 (decide (x0.k6.b8=2)) (g9.mk (x0.k6.f0.n:Int) (x0.k6.o0.n:Int)) x0 H K)))
theorem a6l(x0){H K}(h:a1z x0 H K):a1u x0 H K:=by
 refine Ct.of fun w0 w ps0 H0 R E I hR=>b7n ?_
 unfold a1z at h
 unfold b9M
 refine y7 I (cs:=(c9 x0.k6)) rfl fun e i d j=>?_
 refine a7 Z4 (a7 U7 (b9 (l1 Tryz.isAgg34 d rfl) (a7 (T6 _ _ _) (a7 Z4 ?_))))
 refine a7 K3 (b9 (l1 Tryz.isAgg49 d rfl) (a7 (a1K _ _ _) (a7 (a3s _ _) ?_)))
 refine L1 d Tryz.zeroValue187 (cs:=[(vi 0),(vi 0)]) rfl fun c k f l=>?_
 refine U3 f Tryz.sizeOf187 (vs:=[(vi (x0.k6.f0.n:Int)),(vi (x0.k6.o0.n:Int))]) fun m b p=>?_
 refine a7 Z4 (a7 Z2 (b9 (l1 Tryz.isAgg3 (b.bring 1) rfl) (a7 pEq ?_)))
 refine c8 h (fun _ h=>?_) (fun _ h=>?_)
 ·refine a7 Z4 (a7 a1L (b9 (l1 Tryz.isAgg3 (b.bring 1) rfl) (a7 pGe ?_)))
  refine a7 (Pu.g fun a=>by with_reducible exact Z4) ?_
  refine a7 (Pu.g fun a=>by simp only [d9 a];with_reducible exact a1L) ?_
  refine b9 (Ld.g fun a=>by simp only [d9 a];exact (l1 Tryz.isAgg3 (b.bring 1) rfl)) ?_
  refine a7 (Pu.g fun a=>by simp only [d9 a];with_reducible exact pLe) ?_
  refine a7 (o7 _ _) ?_
  refine b9 (Ld.g fun a=>by exact (ldA Tryz.isAgg187 Tryz.sizeOf187 rfl (b.at1 (o:=0) (vs:=[(vi (x0.k6.f0.n:Int)),(vi (x0.k6.o0.n:Int))]) (nb rfl) rfl))) ?_
  refine a7 (Pu.g fun a=>by with_reducible exact (a3s _ _)) ?_
  refine a7 (Pu.g fun a=>by simp only [d9 a];with_reducible exact (a6r _ _ _ _ _ _)) ?_
  refine a7 (o7 _ _) ?_
  exact hR _ H _ _ b.drop.drop ⟨(((decide (1≤x0.k6.fOp))&&(decide (x0.k6.fOp≤6)))&&(decide ((x0.k6.f0.n:Int)=2∧(x0.k6.o0.n:Int)=0))),rfl,rfl,h⟩
 ·refine a7 Z4 (a7 a1L (b9 (l1 Tryz.isAgg3 (b.bring 1) rfl) (a7 pNe ?_)))
  refine a4H h (fun _ h=>?_) (fun _ h=>?_)
  ·exact hR _ H _ _ b.drop.drop ⟨false,rfl,rfl,h⟩
  ·refine a7 Z4 (a7 Z2 (b9 (l1 Tryz.isAgg3 (b.bring 1) rfl) ?_))
   have hj1:∀(a8f:Bool) H w (_:Inv w0 ps0 H0 H [bx c 187 [(vi (g9.mk (x0.k6.f0.n:Int) (x0.k6.o0.n:Int)).fexprs),(vi (g9.mk (x0.k6.f0.n:Int) (x0.k6.o0.n:Int)).fparts)],bx e 185 (c9 x0.k6)] w) (_:J1 x0.k6.b8 a8f (g9.mk (x0.k6.f0.n:Int) (x0.k6.o0.n:Int)) x0 H K),a9B (Value.pointer (some ⟨c,0,none⟩)) (vi x0.k6.b8) (vB a8f) w R E:=by
    intro a8f H w I h
    unfold a9B
    intro _
    unfold J1 at h
    refine g6 h (fun _ h=>?_) (fun _ h=>?_)
    ·refine b9 (ldA Tryz.isAgg187 Tryz.sizeOf187 rfl (I.at1 (o:=0) (vs:=[(vi (g9.mk (x0.k6.f0.n:Int) (x0.k6.o0.n:Int)).fexprs),(vi (g9.mk (x0.k6.f0.n:Int) (x0.k6.o0.n:Int)).fparts)]) (nb rfl) rfl)) (a7 (b3u) (a7 (a6r _ _ _ _ _ _) ?_))
     exact hR _ H _ _ I.drop.drop ⟨(decide ((g9.mk (x0.k6.f0.n:Int) (x0.k6.o0.n:Int)).fexprs=0∧(g9.mk (x0.k6.f0.n:Int) (x0.k6.o0.n:Int)).fparts=0)),rfl,rfl,h⟩
    ·refine a7 pEq ?_
     refine c8 h (fun _ h=>?_) (fun _ h=>?_)
     ·refine b9 (ldA Tryz.isAgg187 Tryz.sizeOf187 rfl (I.at1 (o:=0) (vs:=[(vi (g9.mk (x0.k6.f0.n:Int) (x0.k6.o0.n:Int)).fexprs),(vi (g9.mk (x0.k6.f0.n:Int) (x0.k6.o0.n:Int)).fparts)]) (nb rfl) rfl)) (a7 (a3s _ _) (a7 (a6r _ _ _ _ _ _) ?_))
      exact hR _ H _ _ I.drop.drop ⟨(decide ((g9.mk (x0.k6.f0.n:Int) (x0.k6.o0.n:Int)).fexprs=0∧(g9.mk (x0.k6.f0.n:Int) (x0.k6.o0.n:Int)).fparts=1)),rfl,rfl,h⟩
     ·have hj2:∀(a8e:Bool) H w (_:Inv w0 ps0 H0 H [bx c 187 [(vi (g9.mk (x0.k6.f0.n:Int) (x0.k6.o0.n:Int)).fexprs),(vi (g9.mk (x0.k6.f0.n:Int) (x0.k6.o0.n:Int)).fparts)],bx e 185 (c9 x0.k6)] w) (_:J0 a8e (g9.mk (x0.k6.f0.n:Int) (x0.k6.o0.n:Int)) x0 H K),a9A (Value.pointer (some ⟨c,0,none⟩)) (vB a8e) w R E:=by
       intro a8e H w I h
       unfold a9A
       intro _
       unfold J0 at h
       refine g6 h (fun _ h=>?_) (fun _ h=>?_)
       ·refine b9 (ldA Tryz.isAgg187 Tryz.sizeOf187 rfl (I.at1 (o:=0) (vs:=[(vi (g9.mk (x0.k6.f0.n:Int) (x0.k6.o0.n:Int)).fexprs),(vi (g9.mk (x0.k6.f0.n:Int) (x0.k6.o0.n:Int)).fparts)]) (nb rfl) rfl)) (a7 (a3s _ _) (a7 (a6r _ _ _ _ _ _) ?_))
        exact hR _ H _ _ I.drop.drop ⟨(decide ((g9.mk (x0.k6.f0.n:Int) (x0.k6.o0.n:Int)).fexprs=0∧(g9.mk (x0.k6.f0.n:Int) (x0.k6.o0.n:Int)).fparts=2)),rfl,rfl,h⟩
       ·exact hR _ H _ _ I.drop.drop ⟨false,rfl,rfl,h⟩
      refine k8 fun j2 hx2=>?_
      refine a7 pEq ?_
      refine c8 h (fun _ h=>?_) (fun _ h=>?_)
      ·exact hx2 _ _ (hj2 (decide (x0.k6.b8=5)) H _ ((I.bring 1).bring 1) h)
      ·refine a7 pEq ?_
       exact hx2 _ _ (hj2 (decide (x0.k6.b8=6)) H _ ((I.bring 1).bring 1) h)
   refine k8 fun j1 hx1=>?_
   refine a7 pEq ?_
   refine c8 h (fun _ h=>?_) (fun _ h=>?_)
   ·exact hx1 _ _ (hj1 (decide (x0.k6.b8=1)) H _ ((b.bring 1).bring 1) h)
   ·refine a7 pEq ?_
    exact hx1 _ _ (hj1 (decide (x0.k6.b8=2)) H _ ((b.bring 1).bring 1) h)
def a1h(x0:L5)(H:Hp)(K:Sl→Hp→Prop):Prop:=
 p8 x0.k6.f0 H (fun d e=>
 u6 x0.k6.o0 e (fun f c=>
 ∀(b:Sl)(a:Hp),Hle c a→SlH a 1 csl b [d,f]→NewS c a 86 1 b→
 t7 b a (fun g i=>
 K g i)))
theorem a5T(x0){H K}(h:a1h x0 H K):a2U x0 H K:=by
 refine Ct.of fun w0 w ps0 H0 R E I hR=>b7o ?_
 unfold a1h at h
 unfold b9N
 refine y7 I (cs:=(c9 x0.k6)) rfl fun v y b z=>?_
 refine V9 b fun aa a=>?_
 refine f6 Z4 ?_
 refine f6 U7 ?_
 refine f6 Z4 ?_
 refine f6 K3 ?_
 refine l8 (l1 Tryz.isAgg34 a rfl) ?_
 refine l8 (l1 Tryz.isAgg49 a rfl) ?_
 refine d3 Tryz.call126 h a ?_
 rintro _ _ _ ab d _ f ⟨g,rfl,rfl,h⟩
 refine ⟨(f _ a.lt1 (Inv.E0 (Fi:=[]) a)),?_⟩
 refine d3 Tryz.call132 h d ?_
 rintro _ _ _ ac i _ _ ⟨j,rfl,rfl,h⟩
 refine W0 (e:=86) (c:=csl) (xs:=[g,j]) i (b0O _ _ _ _ _ _) rfl rfl b0r b0s (nb rfl) fun k ad ae l m af=>?_
 obtain ⟨n,o,p,q,r⟩:=Inv.freezeN m l (by decide)
 replace h:=h k n p q r
 refine d3 Tryz.call41 h o ?_
 rintro _ s _ ag t _ _ ⟨u,rfl,rfl,h⟩
 exact hR _ s _ _ t.drop ⟨u,rfl,rfl,h⟩
end Go.Proofs.YtnhdnncbjddmjaaGreatDoor
