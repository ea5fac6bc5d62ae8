/- Typed formulas of the program's functions, and the theorems that the contracts follow from them; printed by lift.py off the code. -/
import Derived.Test.YtpgelfheccpejaaDooryCV1
namespace Go.Proofs.YtpgelfheccpejaaDoor
open Go.RowKit
set_option maxRecDepth 100000
set_option maxHeartbeats 2000000
def C0(b3B:Sl)(a9D:Int)(c0N:Sl)(c0L:Int)(c0e:Int)(H:Hp)(n4:(Int×Int)→Hp→Prop)(K:Sl→Hp→Prop):Prop:=
 n4 (a9D,(IntKind.wrap .i64 (c0e+1))) H
def C1(a9e:(List c8))(H:Hp)(K:Sl→Hp→Prop):Prop:=
 ∀(a5x:Sl)(a:Hp),Hle H a→SlH a 1 o0 a5x a9e→NewS H a 91 1 a5x→
 K a5x a
def C2(b6M:Sl)(b6N:Int)(a2M:(List c8))(a2x:Int)(H:Hp)(n3:((List c8)×Int)→Hp→Prop)(K:Sl→Hp→Prop):Prop:=
 (a2x < b6N→
 (0:Int)≤a2x∧(a2x:Int) < b6M.n∧∃b:Sl,EltH H b6M a2x 1 [(vs b)]∧
 ∃a:List c8,SlH H 1 o0 b a∧(a2M.length+a.length)*17≤140737488355328∧
 n3 ((a2M++a),(IntKind.wrap .i64 (a2x+1))) H)∧
 (¬(a2x < b6N)→
 C1 a2M H K)
def C3(b3G:Sl)(a3U:Int)(H:Hp)(K:Sl→Hp→Prop):Prop:=
 O8 a3U H (fun a b=>
 TL ((a,0):(List c8)×Int) b fun(s:(List c8)×Int) H n3=>C2 b3G (b3G.n:Int) s.1 s.2 H n3 K)
def J5(b9E:Sl)(a4e:Sl)(b3H:Int)(a6C:Int)(a3K:Int)(H:Hp)(n4:(Int×Int)→Hp→Prop)(K:Sl→Hp→Prop):Prop:=
 (a3K < b3H→
 (0:Int)≤a3K∧(a3K:Int) < a4e.n∧∃a:Sl,EltH H a4e a3K 1 [(vs a)]∧
 ((IntKind.wrap .i64 (a6C+(a.n:Int))) < 0→
 False)∧
 (¬((IntKind.wrap .i64 (a6C+(a.n:Int))) < 0)→
 C0 b9E (IntKind.wrap .i64 (a6C+(a.n:Int))) a4e b3H a3K H n4 K))∧
 (¬(a3K < b3H)→
 C3 b9E a6C H K)
def K5(x0:Sl)(H:Hp)(K:Sl→Hp→Prop):Prop:=
 TL ((0,0):Int×Int) H fun(s:Int×Int) H n4=>J5 x0 x0 (x0.n:Int) s.1 s.2 H n4 K
theorem a1w(x0){H K}(h:K5 x0 H K):A4 x0 H K:=by
 refine Ct.of fun w0 w ps0 H0 R E I hR=>b8R ?_
 unfold K5 at h
 unfold F49
 have hj1:∀(a3U:Int) H w (_:Inv w0 ps0 H0 H [] w) (_:C3 x0 a3U H K),b1H (vs x0) (vi a3U) w R E:=by
  intro a3U H w I h
  unfold b1H
  intro _
  unfold C3 at h
  refine d7 Tryd.call61 h I ?_
  rintro _ m _ au o _ _ ⟨p,q,r,rfl,rfl,t,h⟩
  have hj2:∀(a9e:(List c8))(a5x:Sl)(Fs6j2:Frag) H w (_:RowL 91 1 o0 a5x a9e Fs6j2) (_:Inv w0 ps0 H0 H [Fs6j2] w) (_:C1 a9e H K),b1G (vs a5x) w R E:=by
   intro a9e a5x Fs6j2 H w c0f I h
   unfold b1G
   intro _
   unfold C1 at h
   obtain ⟨j,u,y,z,aa⟩:=Inv.freezeN I c0f (by decide)
   replace h:=h a5x j y z aa
   exact hR _ j _ _ u ⟨a5x,rfl,rfl,h⟩
  refine m7 fun j2 hx2=>?_
  refine a6 (a9b _ _ _) ?_
  obtain ⟨d,c,ab,ac⟩:=h
  refine T1 (J:=fun n l w=>∃(s:(List c8)×Int)(H:Hp)(a9f:Sl)(Fs6l3:Frag),n=c s∧l=(match s with | (a2M,a2x)=>[(vs a9f),(vi a2x)])∧(match s with | (a2M,a2x)=>RowL 91 1 o0 a9f a2M Fs6l3)∧(match s with | (a2M,a2x)=>Inv w0 ps0 H0 H [Fs6l3] w)∧d s H) ⟨_,(p,0),m,q,r,rfl,rfl,t,o,ab⟩ ?_
  rintro av aw w next3 ⟨⟨a2M,a2x⟩,H,a9f,Fs6l3,rfl,e,b3I,I,ad⟩ hn3
  dsimp only at e I b3I
  simp only [List.map_cons,List.map_nil,List.cons.injEq,and_true] at e
  obtain ⟨e6,e27⟩:=e
  simp only [e6,e27]
  obtain ⟨n3,hm3,h⟩:∃n3:((List c8)×Int)→Hp→Prop,(∀s' H',n3 s' H'→d s' H'∧c s' < c (a2M,a2x))∧C2 x0 (x0.n:Int) a2M a2x H n3 K:=⟨_,fun _ _ h=>h,ac (a2M,a2x) H (fun s' H'=>d s' H'∧c s' < c (a2M,a2x)) ad (fun _ _ a b=>⟨a,b⟩)⟩
  unfold b5c
  unfold C2 at h
  refine a6 pLs ?_
  refine d3 h (fun _ h=>?_) (fun _ h=>?_)
  ·obtain ⟨ae,af,ag,f,h⟩:=h
   obtain ⟨ax,ay,ah,f⟩:=f
   refine a6 (a9P ah _ _ _ _ ae af) (b6 (ld1 (v:=(vs ag)) Tryd.isAgg72 (I.atH f)) ?_)
   obtain ⟨ai,aj,h⟩:=h
   obtain ⟨ak,h⟩:=h
   refine a7H (s:=a9f) (xs:=a2M) I b3I (SlH.src I aj L9) ak fun al am az an ao ba=>?_
   refine a6 pAd ?_
   exact hn3 _ _ _ (hm3 _ _ h).2 ⟨((a2M++ai),(IntKind.wrap .i64 (a2x+1))),H,al,am,rfl,rfl,an,ao,(hm3 _ _ h).1⟩
  ·exact hx2 _ _ (hj2 a2M a9f Fs6l3 H _ b3I I h)
 refine m7 fun j1 hx1=>?_
 refine a6 (a9b _ _ _) ?_
 refine y6 (σ:=Int×Int) (fun (a6C,a3K)=>[(vi a6C),(vi a3K)]) (fun (a6C,a3K)=>[]) h rfl I ?_
 rintro ⟨a6C,a3K⟩ H bb w next4 n4 g I h hn4
 dsimp only at g I h
 simp only [List.map_cons,List.map_nil,List.cons.injEq,and_true] at g
 obtain ⟨e3,e11⟩:=g
 simp only [e3,e11]
 unfold b5d
 unfold J5 at h
 refine a6 pLs ?_
 refine d3 h (fun _ h=>?_) (fun _ h=>?_)
 ·have hj5:∀(a9D:Int) H w (_:Inv w0 ps0 H0 H [] w) (_:C0 x0 a9D x0 (x0.n:Int) a3K H n4 K),b1I (vs x0) (vi a9D) (vs x0) (vi (x0.n:Int)) (vi a3K) w next4 R E:=by
   intro a9D H w I h
   unfold b1I
   intro _
   unfold C0 at h
   refine a6 pAd ?_
   exact hn4 (a9D,(IntKind.wrap .i64 (a3K+1))) _ _ h I
  refine m7 fun j5 hx5=>?_
  obtain ⟨ap,aq,k,i,h⟩:=h
  obtain ⟨bc,bd,ar,i⟩:=i
  refine a6 (a9P ar _ _ _ _ ap aq) (b6 (ld1 (v:=(vs k)) Tryd.isAgg72 (I.atH i)) (a6 (a6h _ _ _) (a6 pAd (a6 pLs ?_))))
  refine d3 h (fun _ h=>?_) (fun _ h=>?_)
  ·refine a6 (b4n _) ?_
   exact h.elim
  ·exact hx5 _ _ (hj5 (IntKind.wrap .i64 (a6C+(k.n:Int))) H _ I h)
 ·exact hx1 _ _ (hj1 a6C H _ I h)
def a3v(x0:c8)(H:Hp)(K:ByteArray→Bool→Hp→Prop):Prop:=
 (x0.a3E=true→
 K x0.a1u.X2.f4 true H)∧
 (x0.a3E=false→
 (x0.a3F=true→
 K x0.q8.d6.f4 ((decide (x0.q8.d6.b7=1))||(decide (x0.q8.d6.b7=2))) H)∧
 (x0.a3F=false→
 (x0.a3D=true→
 K x0.D2.p9.f4 ((decide (x0.D2.p9.b7=2))||(decide (x0.D2.p9.b7=4))) H)∧
 (x0.a3D=false→
 K ⟨#[]⟩ false H)))
theorem a7L(x0){H K}(h:a3v x0 H K):a0N x0 H K:=by
 refine Ct.of fun w0 w ps0 H0 R E I hR=>b9e ?_
 unfold a3v at h
 unfold F62
 refine a6 (b0M x0) (a6 (B8 _ _ (vB x0.a3E) rfl) (a6 (B8 _ _ _ rfl) ?_))
 refine f7 h (fun _ h=>?_) (fun _ h=>?_)
 ·refine u4 I Tryd.zeroValue108 (cs:=[(eS),(vi 0)]) rfl fun n o e q=>?_
  refine D5 e Tryd.sizeOf108 (vs:=[(Value.string x0.a1u.X2.f4),(vi x0.a1u.X2.X1)]) fun r d s=>?_
  refine a6 a6r (a6 a8W (b6 (l1 Tryd.isAgg9 d rfl) ?_))
  exact hR _ H _ _ d.drop ⟨x0.a1u.X2.f4,true,rfl,rfl,h⟩
 ·refine a6 (b0N x0) (a6 (B8 _ _ (vB x0.a3F) rfl) (a6 (B8 _ _ _ rfl) ?_))
  refine f7 h (fun _ h=>?_) (fun _ h=>?_)
  ·refine u4 I Tryd.zeroValue110 (cs:=[(vi 0),(eS),(nS),(nS),(nS),(nS)]) rfl fun f t i u=>?_
   refine D5 i Tryd.sizeOf110 (vs:=[(vi x0.q8.d6.b7),(Value.string x0.q8.d6.f4),(vs x0.q8.d6.d5),(vs x0.q8.d6.m8),(vs x0.q8.d6.B1),(vs x0.q8.d6.A8)]) fun v j y=>?_
   refine a0l j fun z b=>?_
   refine g8 L4 ?_
   refine g8 a0C ?_
   refine g8 L4 ?_
   refine g8 S4 ?_
   refine r6 (l1 Tryd.isAgg9 b rfl) ?_
   refine r6 (l1 Tryd.isAgg3 b rfl) ?_
   refine g8 pEq ?_
   refine g8 (Pu.g fun a=>by with_reducible exact L4) ?_
   refine g8 (Pu.g fun a=>by simp only [d2 a];with_reducible exact S4) ?_
   refine b7P (p:=(Value.pointer (some ⟨f,0,none⟩))) rfl (Ld.g fun a=>by simp only [d2 a];exact (l1 Tryd.isAgg3 b rfl)) ?_
   refine g8 (Pu.g fun a=>by simp only [d2 a];with_reducible exact pEq) ?_
   refine g8 (D3 _ _) ?_
   exact hR _ H _ _ b.drop ⟨x0.q8.d6.f4,((decide (x0.q8.d6.b7=1))||(decide (x0.q8.d6.b7=2))),rfl,rfl,h⟩
  ·refine a6 (b2M x0) (a6 (B8 _ _ (vB x0.a3D) rfl) (a6 (B8 _ _ _ rfl) ?_))
   refine f7 h (fun _ h=>?_) (fun _ h=>?_)
   ·refine u4 I Tryd.zeroValue71 (cs:=[(vi 0),(vi 0),(eS),(nS)]) rfl fun k aa l ab=>?_
    refine D5 l Tryd.sizeOf71 (vs:=[(vi x0.D2.p9.b7),(vi x0.D2.p9.M8),(Value.string x0.D2.p9.f4),(vs x0.D2.p9.v7)]) fun ac m ad=>?_
    refine a0l m fun ae c=>?_
    refine g8 a0E ?_
    refine g8 a2b ?_
    refine g8 a0E ?_
    refine g8 T3 ?_
    refine r6 (l1 Tryd.isAgg9 c rfl) ?_
    refine r6 (l1 Tryd.isAgg3 c rfl) ?_
    refine g8 pEq ?_
    refine g8 (Pu.g fun a=>by with_reducible exact a0E) ?_
    refine g8 (Pu.g fun a=>by simp only [d2 a];with_reducible exact T3) ?_
    refine b7P (p:=(Value.pointer (some ⟨k,0,none⟩))) rfl (Ld.g fun a=>by simp only [d2 a];exact (l1 Tryd.isAgg3 c rfl)) ?_
    refine g8 (Pu.g fun a=>by simp only [d2 a];with_reducible exact pEq) ?_
    refine g8 (D3 _ _) ?_
    exact hR _ H _ _ c.drop ⟨x0.D2.p9.f4,((decide (x0.D2.p9.b7=2))||(decide (x0.D2.p9.b7=4))),rfl,rfl,h⟩
   ·exact hR _ H _ _ I ⟨⟨#[]⟩,false,rfl,rfl,h⟩
def S1(H:Hp)(K:Int→Hp→Prop):Prop:=
 K (-1) H
def X9(c0g:(List ByteArray))(a2l:ByteArray)(a4u:Int)(U3:Int)(H:Hp)(n2:Int→Hp→Prop)(K:Int→Hp→Prop):Prop:=
 (U3 < a4u→
 (0:Int)≤U3∧∃a:ByteArray,(c0g)[(U3:Int).toNat]? = some a∧
 (a2l=a→
 K U3 H)∧
 (¬(a2l=a)→
 n2 (IntKind.wrap .i64 (U3+1)) H))∧
 (¬(U3 < a4u)→
 S1 H K)
def a0y(x0:(List ByteArray))(x1:ByteArray)(H:Hp)(K:Int→Hp→Prop):Prop:=
 TL (0:Int) H fun(s:Int) H n2=>X9 x0 x1 (x0.length:Int) s H n2 K
theorem a4S(x0 x1){H K}(h:a0y x0 x1 H K):a0p x0 x1 H K:=by
 intro sx0 Fx0 hx0
 refine Ct.of fun w0 w ps0 H0 R E I hR=>b9m ?_
 unfold a0y at h
 unfold F71
 have hj1:∀H w (_:Inv w0 ps0 H0 H [Fx0] w) (_:S1 H K),b1Z w R E:=by
  intro H w I h
  unfold b1Z
  intro _
  unfold S1 at h
  exact hR _ H _ _ I ⟨(-1),rfl,rfl,h⟩
 refine m7 fun j1 hx1=>?_
 refine a6 (b3r Tryd.underlying66 hx0) ?_
 refine y6 (σ:=Int) (fun U3=>[(vi U3)]) (fun U3=>[Fx0]) h rfl I ?_
 rintro U3 H f w next2 n2 b I h hn2
 simp only [List.map_cons,List.map_nil,List.cons.injEq,and_true] at b
 have e8:=b
 simp only [e8]
 unfold b5o
 unfold X9 at h
 refine a6 pLs ?_
 refine d3 h (fun _ h=>?_) (fun _ h=>?_)
 ·obtain ⟨c,e,a,h⟩:=h
  obtain ⟨g,i,d,j⟩:=hx0.addr a
  refine a6 (b5T d _ _ _ _ c (hx0.lt c a)) (b6 (ld1 (v:=(Value.string e)) Tryd.isAgg9 (hx0.atW I d a)) (a6 (K6 _ _ _ _ _) ?_))
  refine d3 h (fun _ h=>?_) (fun _ h=>?_)
  ·exact hR _ H _ _ I ⟨U3,rfl,rfl,h⟩
  ·refine a6 pAd ?_
   exact hn2 (IntKind.wrap .i64 (U3+1)) _ _ h I
 ·exact hx1 _ _ (hj1 H _ I h)
def B7(a5A:Int)(a5B:Int)(a5C:Int)(a5D:Bool)(a5E:Bool)(a4T:(List ByteArray))(H:Hp)(K:Bool→f8→(List ByteArray)→Hp→Prop):Prop:=
 K true (f8.mk a5A a5B a5C a5D a5E (Sl.mk none 0 0)) a4T H
def a1b(x0:f8)(a:(List ByteArray))(x1:c8)(x2:Int)(H:Hp)(K:Bool→f8→(List ByteArray)→Hp→Prop):Prop:=
 (4096 < (IntKind.wrap .i64 (x0.fnodes+1))→
 K false (f8.mk (IntKind.wrap .i64 (x0.fnodes+1)) x0.fdepth 33 x0.fform x0.fnamed (Sl.mk none 0 0)) a H)∧
 (¬(4096 < (IntKind.wrap .i64 (x0.fnodes+1)))→
 (64 < x2→
 K false (f8.mk (IntKind.wrap .i64 (x0.fnodes+1)) x0.fdepth 32 x0.fform x0.fnamed (Sl.mk none 0 0)) a H)∧
 (¬(64 < x2)→
 TG (x0.fform=false) (a2G x1 H) false H (fun(c:Bool)(j:Hp)=>
 a0N x1 j (fun b e d=>
 (e=true→
 TG (x0.fnamed=false) (a2w b d) false d (fun(f:Bool)(k:Hp)=>
 R0 a b k (fun g i=>
 ((!g)=true→
 (a.length+([b]:List ByteArray).length)*17≤140737488355328∧
 B7 (IntKind.wrap .i64 (x0.fnodes+1)) (if x2 > x0.fdepth then x2 else x0.fdepth) x0.fe (x0.fform||(!c)) (x0.fnamed||(!f)) (a++[b]) i K)∧
 ((!g)=false→
 B7 (IntKind.wrap .i64 (x0.fnodes+1)) (if x2 > x0.fdepth then x2 else x0.fdepth) x0.fe (x0.fform||(!c)) (x0.fnamed||(!f)) a i K))))∧
 (e=false→
 B7 (IntKind.wrap .i64 (x0.fnodes+1)) (if x2 > x0.fdepth then x2 else x0.fdepth) x0.fe (x0.fform||(!c)) x0.fnamed a d K)))))
theorem a5i(x0 b x1 x2){H K}(h:a1b x0 b x1 x2 H K):a0T x0 b x1 x2 H K:=by
 intro g0 k l m
 refine Ct.of fun w0 w ps0 H0 R E I hR=>b8X ?_
 unfold a1b at h
 unfold F55
 refine a6 (o9 _) (a6 a5p (b6 (l1 Tryd.isAgg3 I rfl) (a6 pAd (a6 (o9 _) ?_))))
 refine a6 a5p ?_
 refine N2 I Tryd.sizeOf3 fun ba p bb=>?_
 refine a6 (o9 _) (a6 a5p (b6 (l1 Tryd.isAgg3 p rfl) (a6 pGt ?_)))
 refine d3 h (fun _ h=>?_) (fun _ h=>?_)
 ·refine a6 (o9 _) (a6 a0D ?_)
  refine N2 p Tryd.sizeOf27 fun bc an bd=>?_
  exact hR _ H _ _ ((an.bring 1).bring 1) ⟨false,(f8.mk (IntKind.wrap .i64 (x0.fnodes+1)) x0.fdepth 33 x0.fform x0.fnamed (Sl.mk none 0 0)),b,k,l,rfl,rfl,m,h⟩
 ·refine a6 pGt ?_
  refine d3 h (fun _ h=>?_) (fun _ h=>?_)
  ·refine a6 (o9 _) (a6 a0D ?_)
   refine N2 p Tryd.sizeOf27 fun be ao bf=>?_
   exact hR _ H _ _ ((ao.bring 1).bring 1) ⟨false,(f8.mk (IntKind.wrap .i64 (x0.fnodes+1)) x0.fdepth 32 x0.fform x0.fnamed (Sl.mk none 0 0)),b,k,l,rfl,rfl,m,h⟩
  ·refine a6 (o9 _) (a6 a6X (b6 (l1 Tryd.isAgg3 p rfl) (a6 (b4d _ _ _ _ _) (a6 (o9 _) ?_))))
   refine a6 a6X ?_
   refine N2 p Tryd.sizeOf3 fun ae z bg=>?_
   refine a6 (o9 _) (a6 a6Z (b6 (l1 Tryd.isAgg4 z rfl) ?_))
   simp only [q9]
   refine a8V (D:=fun af t=>∃(d:Bool)(n:Hp),af=(gv x0.fform false (vB d))∧(Inv w0 ps0 H0 n [bx g0 68 [(vi (IntKind.wrap .i64 (x0.fnodes+1))),(vi (if x2 > x0.fdepth then x2 else x0.fdepth)),(vi x0.fe),(vB x0.fform),(vB x0.fnamed),(vs k)],l] t)∧(∀i,i < ae.heap.size→¬inF [] i→t.heap[i]? = ae.heap[i]?)∧Hle H n∧(a0N x1 n (fun(j:ByteArray)(u:Bool)(q:Hp)=>
 (u=true→
 TG (x0.fnamed=false) (a2w j q) false q (fun(f:Bool)(v:Hp)=>
 R0 b j v (fun(aa:Bool)(r:Hp)=>
 ((!aa)=true→
 (b.length+([j]:List ByteArray).length)*17≤140737488355328∧
 B7 (IntKind.wrap .i64 (x0.fnodes+1)) (if x2 > x0.fdepth then x2 else x0.fdepth) x0.fe (x0.fform||(!d)) (x0.fnamed||(!f)) (b++[j]) r K)∧
 ((!aa)=false→
 B7 (IntKind.wrap .i64 (x0.fnodes+1)) (if x2 > x0.fdepth then x2 else x0.fdepth) x0.fe (x0.fform||(!d)) (x0.fnamed||(!f)) b r K))))∧
 (u=false→
 B7 (IntKind.wrap .i64 (x0.fnodes+1)) (if x2 > x0.fdepth then x2 else x0.fdepth) x0.fe (x0.fform||(!d)) x0.fnamed b q K)))) (fun o=>?_) (fun o=>?_) ?_
   ·replace h:=h.1 o
    have a:=o
    simp only [d2 a]
    refine a6M z h (fun d n t ab ag ah h=>?_)
    exact ⟨d,n,by rfl,ab,ah,ag,h⟩
   ·exact ⟨false,H,by rw [b0A o],z,fun _ _ _=>rfl,Hle.refl _,h.2 o⟩
   ·clear h
    rintro af t ⟨d,n,rfl,ab,ah,ag,h⟩
    refine a6 (Pu.g fun a=>by simp only [d2 a];with_reducible exact (G1 _)) ?_
    refine a6 (D3 _ _) (a6 (o9 _) (a6 a6Z ?_))
    refine N2 ab Tryd.sizeOf4 fun bh ap bi=>?_
    have hj1:∀(a5A:Int)(a5B:Int)(a5C:Int)(a5D:Bool)(a5E:Bool)(a4T:(List ByteArray))(a7i:Sl)(a7j:Frag) H w (_:RowL 9 1 L3 a7i a4T a7j) (_:Inv w0 ps0 H0 H [bx g0 68 [(vi a5A),(vi a5B),(vi a5C),(vB a5D),(vB a5E),(vs a7i)],a7j] w) (_:B7 a5A a5B a5C a5D a5E a4T H K),b1M w R E:=by
     intro a5A a5B a5C a5D a5E a4T a7i a7j H w b5Z I h
     unfold b1M
     intro _
     unfold B7 at h
     exact hR _ H _ _ ((I.bring 1).bring 1) ⟨true,(f8.mk a5A a5B a5C a5D a5E (Sl.mk none 0 0)),a4T,a7i,a7j,rfl,rfl,b5Z,h⟩
    refine m7 fun j1 hx1=>?_
    refine d7 Tryd.call62 h ap ?_
    rintro _ q _ bj y _ _ ⟨j,u,rfl,rfl,h⟩
    refine a6 (B8 _ _ (Value.string j) rfl) (a6 (B8 _ _ (vB u) rfl) ?_)
    refine f7 h (fun _ h=>?_) (fun _ h=>?_)
    ·refine a6 (o9 _) (a6 a7a (b6 (l1 Tryd.isAgg4 y rfl) ?_))
     simp only [q9]
     refine M5 [] (fun f:Bool=>(vB f)) h y (fun ai h=>?_) fun f v aq ac aj ak h=>?_
     ·have a:=ai
      simp only [d2 a]
      refine d7 Tryd.call63 h y ?_
      rintro _ v _ aq ac ak aj ⟨f,rfl,rfl,h⟩
      exact ⟨f,v,rfl,ac,aj,ak,h⟩
     refine a6 (Pu.g fun a=>by simp only [d2 a];with_reducible exact (G1 _)) ?_
     refine a6 (D3 _ _) (a6 (o9 _) (a6 a7a ?_))
     refine N2 ac Tryd.sizeOf4 fun bk al bl=>?_
     refine a6 (o9 _) (a6 a7b (b6 (l1 Tryd.isAgg66 al rfl) ?_))
     refine d7 Tryd.call64 (h k l m) (al.bring 1) ?_
     rintro _ r _ bm ad _ _ ⟨aa,rfl,rfl,h⟩
     refine a6 (G1 _) ?_
     refine f7 h (fun _ h=>?_) (fun _ h=>?_)
     ·refine a6 (o9 _) (a6 a7b (b6 (l1 Tryd.isAgg66 (ad.bring 1) rfl) ?_))
      refine a1y (e:=9) (c:=L3) (xs:=[j]) ad (b7e _) rfl rfl a8y a8z (nb rfl) fun bn bo bp ar am bq=>?_
      obtain ⟨au,h⟩:=h
      refine b8d (s:=k) (xs:=b) (am.bring 1) m (ar.srcO ((am.bring 1).bring 1)) au fun av aw br ax ay bs=>?_
      refine a6 (o9 _) (a6 a7b ?_)
      refine N2 ((ay.bring 1).drop.bring 1) Tryd.sizeOf66 fun bt az bu=>?_
      exact hx1 _ _ (hj1 (IntKind.wrap .i64 (x0.fnodes+1)) (if x2 > x0.fdepth then x2 else x0.fdepth) x0.fe (x0.fform||(!d)) (x0.fnamed||(!f)) (b++[j]) av aw r _ ax ((az.bring 1).bring 1) h)
     ·exact hx1 _ _ (hj1 (IntKind.wrap .i64 (x0.fnodes+1)) (if x2 > x0.fdepth then x2 else x0.fdepth) x0.fe (x0.fform||(!d)) (x0.fnamed||(!f)) b k l r _ m (ad.bring 1) h)
    ·exact hx1 _ _ (hj1 (IntKind.wrap .i64 (x0.fnodes+1)) (if x2 > x0.fdepth then x2 else x0.fdepth) x0.fe (x0.fform||(!d)) x0.fnamed b k l q _ m ((y.bring 1).bring 1) h)
def a3e(x0:d4)(H:Hp)(K:Int→Int→Hp→Prop):Prop:=
 a1d x0 H (fun a b=>
 (¬(a.fe=0)→
 K 0 a.fe b)∧
 (a.fe=0→
 K a.fnodes 0 b))
theorem a7z(x0){H K}(h:a3e x0 H K):a2W x0 H K:=by
 refine Ct.of fun w0 w ps0 H0 R E I hR=>b8h ?_
 unfold a3e at h
 unfold F13
 refine B2 I (cs:=(f5 x0)) rfl fun f g b i=>?_
 refine b6 (lW Tryd.isAgg25 Tryd.sizeOf25 rfl b) ?_
 refine d7 Tryd.call30 h b ?_
 rintro _ c _ j a _ _ ⟨d,k,rfl,rfl,h⟩
 refine a6 (o9 _) (a6 a0D (b6 (l1 Tryd.isAgg27 a rfl) (a6 pNe ?_)))
 refine a0m h (fun _ h=>?_) (fun _ h=>?_)
 ·refine a0l a fun l e=>?_
  refine g8 (o9 _) ?_
  refine g8 a0D ?_
  refine r6 (l1 Tryd.isAgg27 e rfl) ?_
  exact hR _ c _ _ e.drop.drop ⟨0,d.fe,rfl,rfl,h⟩
 ·refine a6 (o9 _) (a6 a5p (b6 (l1 Tryd.isAgg3 a rfl) ?_))
  exact hR _ c _ _ a.drop.drop ⟨d.fnodes,0,rfl,rfl,h⟩
def a3f(x0:d4)(x1:d4)(H:Hp)(K:Bool→Hp→Prop):Prop:=
 a0S x0 H (fun a c=>
 TG (a=true) (a0S x1 c) false c (fun(b:Bool)(d:Hp)=>
 TG ((a&&b)=true) (D9 x0.B3 x1.B3 d) false d (fun(e:Bool)(f:Hp)=>
 TG (((a&&b)&&e)=true) (d9 x0.M7 x1.M7 f) false f (fun(g:Bool)(i:Hp)=>
 K (((a&&b)&&e)&&g) i))))
theorem a7A(x0 x1){H K}(h:a3f x0 x1 H K):a2X x0 x1 H K:=by
 refine Ct.of fun w0 w ps0 H0 R E I hR=>b9V ?_
 unfold a3f at h
 unfold F8
 refine B2 I (cs:=(f5 x0)) rfl fun ae af z ag=>?_
 refine B2 z (cs:=(f5 x1)) rfl fun ah ai l aj=>?_
 refine b6 (lW Tryd.isAgg25 Tryd.sizeOf25 rfl (l.bring 1)) ?_
 refine d7 Tryd.call25 h l ?_
 rintro _ _ _ ak d _ _ ⟨aa,rfl,rfl,h⟩
 refine b6 (Ld.g fun a=>by exact (lW Tryd.isAgg25 Tryd.sizeOf25 rfl d)) ?_
 refine M5 [] (fun e:Bool=>(vB e)) h d (fun m h=>?_) fun e n ab b o p h=>?_
 ·have a:=m
  simp only [d2 a]
  refine d7 Tryd.call25 h d ?_
  rintro _ n _ ab b p o ⟨e,rfl,rfl,h⟩
  exact ⟨e,n,rfl,b,o,p,h⟩
 refine a6 (m9 _ _) ?_
 refine a6 (Pu.g fun a=>by with_reducible exact L1) ?_
 refine b6 (Ld.g fun a=>by simp only [d2 a];exact (l1 Tryd.isAgg22 (b.bring 1) rfl)) ?_
 refine a6 (Pu.g fun a=>by with_reducible exact L1) ?_
 refine b6 (Ld.g fun a=>by simp only [d2 a];exact (l1 Tryd.isAgg22 b rfl)) ?_
 refine M5 [] (fun f:Bool=>(vB f)) h b (fun q h=>?_) fun f r ac c s t h=>?_
 ·have a:=q
  simp only [d2 a]
  refine d7 Tryd.call26 h b ?_
  rintro _ r _ ac c t s ⟨f,rfl,rfl,h⟩
  exact ⟨f,r,rfl,c,s,t,h⟩
 refine a6 (m9 _ _) ?_
 refine a6 (Pu.g fun a=>by with_reducible exact L2) ?_
 refine b6 (Ld.g fun a=>by simp only [d2 a];exact (l1 Tryd.isAgg23 (c.bring 1) rfl)) ?_
 refine a6 (Pu.g fun a=>by with_reducible exact L2) ?_
 refine b6 (Ld.g fun a=>by simp only [d2 a];exact (l1 Tryd.isAgg23 c rfl)) ?_
 refine M5 [] (fun i:Bool=>(vB i)) h c (fun u h=>?_) fun i j ad k v y h=>?_
 ·have a:=u
  simp only [d2 a]
  refine d7 Tryd.call27 h c ?_
  rintro _ j _ ad k y v ⟨i,rfl,rfl,h⟩
  exact ⟨i,j,rfl,k,v,y,h⟩
 refine a6 (m9 _ _) ?_
 exact hR _ j _ _ k.drop.drop ⟨(((aa&&e)&&f)&&i),rfl,rfl,h⟩
def L8(x0:Sl)(H:Hp)(K:Sl→Hp→Prop):Prop:=
 (x0.a.isNone=true→
 K (Sl.mk none 0 0) H)∧
 (x0.a.isNone=false→
 ∃c:List s7,SlH H 2 j8 x0 c∧(([]:List s7).length+c.length)*25≤140737488355328∧
 ∀(d:Sl)(b:Hp),Hle H b→SlH b 2 j8 d c→NewS H b 45 2 d→
 K d b)
theorem a1W(x0){H K}(h:L8 x0 H K):L5 x0 H K:=by
 refine Ct.of fun w0 w ps0 H0 R E I hR=>b8k ?_
 unfold L8 at h
 unfold F16
 refine a6 (b2K _ _ x0) ?_
 refine f7 h (fun _ h=>?_) (fun _ h=>?_)
 ·exact hR _ H _ _ I ⟨(Sl.mk none 0 0),rfl,rfl,h⟩
 ·refine a1y (e:=45) (c:=j8) (xs:=[]) I (b7d) rfl rfl a2P a5g (nb rfl) fun g q r i a t=>?_
  obtain ⟨u,j,h⟩:=h
  obtain ⟨k,h⟩:=h
  refine b4j (s:=g) (xs:=[]) a i (SlH.src a j a2P) k fun b v y d l z=>?_
  simp only [List.nil_append] at d
  obtain ⟨f,m,n,o,p⟩:=Inv.freezeN l d (by decide)
  replace h:=h b f n o p
  exact hR _ f _ _ m ⟨b,rfl,rfl,h⟩
def v2(J1:(List b9))(H:Hp)(K:Sl→Hp→Prop):Prop:=
 ∀(s6:Sl)(a:Hp),Hle H a→SlH a 4 c9 s6 J1→NewS H a 77 4 s6→
 K s6 a
def v6(U3:Sl)(a1B:Int)(i5:(List b9))(i4:Int)(H:Hp)(n2:((List b9)×Int)→Hp→Prop)(K:Sl→Hp→Prop):Prop:=
 (i4 < a1B→
 (0:Int)≤i4∧(i4:Int) < U3.n∧∃a:b9,EltH H U3 i4 4 (c9 a)∧
 a2i a H (fun b c=>
 (i5.length+([b]:List b9).length)*65≤140737488355328∧
 n2 ((i5++[b]),(IntKind.wrap .i64 (i4+1))) c))∧
 (¬(i4 < a1B)→
 v2 i5 H K)
def D1(x0:Sl)(H:Hp)(K:Sl→Hp→Prop):Prop:=
 TL (([],0):(List b9)×Int) H fun(s:(List b9)×Int) H n2=>v6 x0 (x0.n:Int) s.1 s.2 H n2 K
theorem Y7(x0){H K}(h:D1 x0 H K):v8 x0 H K:=by
 refine Ct.of fun w0 w ps0 H0 R E I hR=>b8C ?_
 unfold D1 at h
 unfold F34
 have hj1:∀(J1:(List b9))(s6:Sl)(Fs5j1:Frag) H w (_:RowL 77 4 c9 s6 J1 Fs5j1) (_:Inv w0 ps0 H0 H [Fs5j1] w) (_:v2 J1 H K),b1k (vs s6) w R E:=by
  intro J1 s6 Fs5j1 H w a3H I h
  unfold b1k
  intro _
  unfold v2 at h
  obtain ⟨j,q,r,t,u⟩:=Inv.freezeN I a3H (by decide)
  replace h:=h s6 j r t u
  exact hR _ j _ _ q ⟨s6,rfl,rfl,h⟩
 refine m7 fun j1 hx1=>?_
 refine a6 (K2 _ _ _) ?_
 obtain ⟨f,d,v,y⟩:=h
 refine T1 (J:=fun n l w=>∃(s:(List b9)×Int)(H:Hp)(J2:Sl)(Fs5l2:Frag),n=d s∧l=(match s with | (i5,i4)=>[(vs J2),(vi i4)])∧(match s with | (i5,i4)=>RowL 77 4 c9 J2 i5 Fs5l2)∧(match s with | (i5,i4)=>Inv w0 ps0 H0 H [Fs5l2] w)∧f s H) ⟨_,([],0),H,(Sl.mk none 0 0),[],rfl,rfl,(RowL.nil Y8 Y9),I.nil,v⟩ ?_
 rintro am an w next2 ⟨⟨i5,i4⟩,H,J2,Fs5l2,rfl,g,T6,I,z⟩ hn2
 dsimp only at g I T6
 simp only [List.map_cons,List.map_nil,List.cons.injEq,and_true] at g
 obtain ⟨e5,e10⟩:=g
 simp only [e5,e10]
 obtain ⟨n2,hm2,h⟩:∃n2:((List b9)×Int)→Hp→Prop,(∀s' H',n2 s' H'→f s' H'∧d s' < d (i5,i4))∧v6 x0 (x0.n:Int) i5 i4 H n2 K:=⟨_,fun _ _ h=>h,y (i5,i4) H (fun s' H'=>f s' H'∧d s' < d (i5,i4)) z (fun _ _ a b=>⟨a,b⟩)⟩
 unfold b4L
 unfold v6 at h
 refine a6 pLs ?_
 refine d3 h (fun _ h=>?_) (fun _ h=>?_)
 ·obtain ⟨aa,ab,k,i,h⟩:=h
  obtain ⟨ao,ap,ac,i⟩:=i
  refine a6 (Y2 ac _ _ _ _ aa ab) (b6 (ldA (vs:=(c9 k)) Tryd.isAgg77 Tryd.sizeOf77 rfl (I.atH i)) ?_)
  refine u4 I Tryd.zeroValue77 (cs:=[(vi 0),(vi 0),(nS),(nS)]) rfl fun aq ar ad au=>?_
  refine D5 ad Tryd.sizeOf77 (vs:=(c9 k)) fun av m aw=>?_
  refine b6 (lW Tryd.isAgg77 Tryd.sizeOf77 rfl m) ?_
  refine d7 Tryd.call35 h m ?_
  rintro _ ae _ ax af _ _ ⟨o,rfl,rfl,h⟩
  refine a1y (e:=77) (c:=c9) (xs:=[o]) af (a9y _ _ _ _ _ _ _ _) rfl rfl Y8 Y9 (nb rfl) fun ay az ba ag p bb=>?_
  obtain ⟨ah,h⟩:=h
  refine b0I (s:=J2) (xs:=i5) (p.bring 2) T6 (ag.srcO ((p.bring 2).bring 1)) ah fun ai aj bc ak al bd=>?_
  refine a6 pAd ?_
  exact hn2 _ _ _ (hm2 _ _ h).2 ⟨((i5++[o]),(IntKind.wrap .i64 (i4+1))),ae,ai,aj,rfl,rfl,ak,((al.bring 1).drop.bring 1).drop,(hm2 _ _ h).1⟩
 ·exact hx1 _ _ (hj1 i5 J2 Fs5l2 H _ T6 I h)
def a3w(x0:d4)(H:Hp)(K:d4→Int→Hp→Prop):Prop:=
 a1L x0 H (fun a b=>
 (¬(a=0)→
 K (d4.mk (Sl.mk none 0 0) (Sl.mk none 0 0)) a b)∧
 (a=0→
 L5 x0.B3 b (fun c d=>
 r9 x0.M7 d (fun e f=>
 K (d4.mk c e) 0 f))))
theorem a7M(x0){H K}(h:a3w x0 H K):a4Y x0 H K:=by
 refine Ct.of fun w0 w ps0 H0 R E I hR=>b9S ?_
 unfold a3w at h
 unfold F5
 refine B2 I (cs:=(f5 x0)) rfl fun p q i r=>?_
 refine u4 i Tryd.zeroValue25 (cs:=[(nS),(nS)]) rfl fun s t b u=>?_
 refine b6 (lW Tryd.isAgg25 Tryd.sizeOf25 rfl (b.bring 1)) ?_
 refine d7 Tryd.call15 h b ?_
 rintro _ j _ v c _ _ ⟨k,rfl,rfl,h⟩
 refine a6 pNe ?_
 refine a0m h (fun _ h=>?_) (fun _ h=>?_)
 ·refine a6 (b4i) ?_
  refine D5 c Tryd.sizeOf25 (vs:=[(nS),(nS)]) fun y d z=>?_
  refine a2T Tryd.isAgg25 Tryd.sizeOf25 rfl d ?_
  exact hR _ j _ _ d.drop.drop ⟨(d4.mk (Sl.mk none 0 0) (Sl.mk none 0 0)),k,rfl,rfl,h⟩
 ·refine a0l c fun aa a=>?_
  refine g8 L1 ?_
  refine g8 L2 ?_
  refine r6 (l1 Tryd.isAgg22 (a.bring 1) rfl) ?_
  refine r6 (l1 Tryd.isAgg23 (a.bring 1) rfl) ?_
  refine d7 Tryd.call16 h a ?_
  rintro _ _ _ ab l _ m ⟨e,rfl,rfl,h⟩
  refine ⟨(m _ (a.bring 1).lt1 (Inv.Y0 (Fi:=[]) (a.bring 1))),?_⟩
  refine d7 Tryd.call17 h l ?_
  rintro _ n _ ac o _ _ ⟨f,rfl,rfl,h⟩
  refine g8 (a5f _ _ _ _ _ _) ?_
  refine D5 o Tryd.sizeOf25 (vs:=[(vs e),(vs f)]) fun ad g ae=>?_
  refine a2T Tryd.isAgg25 Tryd.sizeOf25 rfl g ?_
  exact hR _ n _ _ g.drop.drop ⟨(d4.mk e f),0,rfl,rfl,h⟩
def a0e(x0:a7)(H:Hp)(K:Int→Hp→Prop):Prop:=
 ((!x0.fok)=true→
 K 30 H)∧
 ((!x0.fok)=false→
 ((!x0.fnames)=true→
 K 31 H)∧
 ((!x0.fnames)=false→
 K 0 H))
theorem a4D(x0){H K}(h:a0e x0 H K):Z1 x0 H K:=by
 refine Ct.of fun w0 w ps0 H0 R E I hR=>b8q ?_
 unfold a0e at h
 unfold F22
 refine B2 I (cs:=(f9 x0)) rfl fun b c a d=>?_
 refine a6 D7 (b6 (l1 Tryd.isAgg4 a rfl) (a6 (G1 _) ?_))
 refine f7 h (fun _ h=>?_) (fun _ h=>?_)
 ·exact hR _ H _ _ a.drop ⟨30,rfl,rfl,h⟩
 ·refine a6 a6W (b6 (l1 Tryd.isAgg4 a rfl) (a6 (G1 _) ?_))
  refine f7 h (fun _ h=>?_) (fun _ h=>?_)
  ·exact hR _ H _ _ a.drop ⟨31,rfl,rfl,h⟩
  ·exact hR _ H _ _ a.drop ⟨0,rfl,rfl,h⟩
def U5(c0C:Int)(b9F:Int)(a3l:Int)(H:Hp)(K:Int→Int→Bool→Hp→Prop):Prop:=
 ((((decide (a3l < b9F))||(decide (1114111 < a3l)))||((decide (55296≤a3l))&&(decide (a3l < 57344))))=true→
 K 65533 1 false H)∧
 ((((decide (a3l < b9F))||(decide (1114111 < a3l)))||((decide (55296≤a3l))&&(decide (a3l < 57344))))=false→
 K a3l c0C true H)
def a0Q(a4U:ByteArray)(a3X:Int)(b6a:Int)(c0D:Int)(a6p:Int)(V0:Int)(H:Hp)(n3:(Int×Int)→Hp→Prop)(K:Int→Int→Bool→Hp→Prop):Prop:=
 (V0 < b6a→
 ((decide ((a4U.size:Int)≤(IntKind.wrap .i64 (a3X+V0))))=false→(0:Int)≤IntKind.wrap .i64 (a3X+V0)∧IntKind.wrap .i64 (a3X+V0) < (a4U.size:Int))∧
 (((decide ((a4U.size:Int)≤(IntKind.wrap .i64 (a3X+V0))))||(decide (((a4U.get! (IntKind.wrap .i64 (a3X+V0):Int).toNat).toNat:Int) < 128)))=false→(0:Int)≤IntKind.wrap .i64 (a3X+V0)∧IntKind.wrap .i64 (a3X+V0) < (a4U.size:Int))∧
 ((((decide ((a4U.size:Int)≤(IntKind.wrap .i64 (a3X+V0))))||(decide (((a4U.get! (IntKind.wrap .i64 (a3X+V0):Int).toNat).toNat:Int) < 128)))||(decide (192≤((a4U.get! (IntKind.wrap .i64 (a3X+V0):Int).toNat).toNat:Int))))=true→
 K 65533 1 false H)∧
 ((((decide ((a4U.size:Int)≤(IntKind.wrap .i64 (a3X+V0))))||(decide (((a4U.get! (IntKind.wrap .i64 (a3X+V0):Int).toNat).toNat:Int) < 128)))||(decide (192≤((a4U.get! (IntKind.wrap .i64 (a3X+V0):Int).toNat).toNat:Int))))=false→
 (0:Int)≤IntKind.wrap .i64 (a3X+V0)∧IntKind.wrap .i64 (a3X+V0) < (a4U.size:Int)∧
 n3 ((IntKind.wrap .i64 ((IntKind.wrap .i64 ((IntKind.wrap .i64 (64*a6p))+(IntKind.wrap .i64 ((a4U.get! (IntKind.wrap .i64 (a3X+V0):Int).toNat).toNat:Int))))-128)),(IntKind.wrap .i64 (V0+1))) H))∧
 (¬(V0 < b6a)→
 U5 b6a c0D a6p H K)
def G2(b3G:ByteArray)(c0E:Int)(a7N:Int)(a8K:Int)(a9g:Int)(H:Hp)(K:Int→Int→Bool→Hp→Prop):Prop:=
 TL ((a9g,1):Int×Int) H fun(s:Int×Int) H n3=>a0Q b3G c0E a7N a8K s.1 s.2 H n3 K
def a1I(x0:ByteArray)(x1:Int)(H:Hp)(K:Int→Int→Bool→Hp→Prop):Prop:=
 (0:Int)≤x1∧x1 < (x0.size:Int)∧
 ((IntKind.wrap .i64 ((x0.get! (x1:Int).toNat).toNat:Int)) < 128→
 K (IntKind.wrap .i64 ((x0.get! (x1:Int).toNat).toNat:Int)) 1 true H)∧
 (¬((IntKind.wrap .i64 ((x0.get! (x1:Int).toNat).toNat:Int)) < 128)→
 (((decide (194≤(IntKind.wrap .i64 ((x0.get! (x1:Int).toNat).toNat:Int))))&&(decide ((IntKind.wrap .i64 ((x0.get! (x1:Int).toNat).toNat:Int)) < 224)))=true→
 G2 x0 x1 2 128 (IntKind.wrap .i64 ((IntKind.wrap .i64 ((x0.get! (x1:Int).toNat).toNat:Int))-192)) H K)∧
 (((decide (194≤(IntKind.wrap .i64 ((x0.get! (x1:Int).toNat).toNat:Int))))&&(decide ((IntKind.wrap .i64 ((x0.get! (x1:Int).toNat).toNat:Int)) < 224)))=false→
 (((decide (224≤(IntKind.wrap .i64 ((x0.get! (x1:Int).toNat).toNat:Int))))&&(decide ((IntKind.wrap .i64 ((x0.get! (x1:Int).toNat).toNat:Int)) < 240)))=true→
 G2 x0 x1 3 2048 (IntKind.wrap .i64 ((IntKind.wrap .i64 ((x0.get! (x1:Int).toNat).toNat:Int))-224)) H K)∧
 (((decide (224≤(IntKind.wrap .i64 ((x0.get! (x1:Int).toNat).toNat:Int))))&&(decide ((IntKind.wrap .i64 ((x0.get! (x1:Int).toNat).toNat:Int)) < 240)))=false→
 (((decide (240≤(IntKind.wrap .i64 ((x0.get! (x1:Int).toNat).toNat:Int))))&&(decide ((IntKind.wrap .i64 ((x0.get! (x1:Int).toNat).toNat:Int)) < 245)))=true→
 G2 x0 x1 4 65536 (IntKind.wrap .i64 ((IntKind.wrap .i64 ((x0.get! (x1:Int).toNat).toNat:Int))-240)) H K)∧
 (((decide (240≤(IntKind.wrap .i64 ((x0.get! (x1:Int).toNat).toNat:Int))))&&(decide ((IntKind.wrap .i64 ((x0.get! (x1:Int).toNat).toNat:Int)) < 245)))=false→
 K 65533 1 false H))))
theorem a5U(x0 x1){H K}(h:a1I x0 x1 H K):a1z x0 x1 H K:=by
 refine Ct.of fun w0 w ps0 H0 R E I hR=>b9b ?_
 unfold a1I at h
 unfold F59
 obtain ⟨i,j,h⟩:=h
 refine a6 (a6K _ _ _ i j) (a6 (a7I _ _) ?_)
 have hj1:∀(a7N:Int)(a8K:Int)(a9g:Int) H w (_:Inv w0 ps0 H0 H [] w) (_:G2 x0 x1 a7N a8K a9g H K),b1Q (Value.string x0) (vi x1) (vi a7N) (vi a8K) (vi a9g) w R E:=by
  intro a7N a8K a9g H w I h
  unfold b1Q
  intro _
  unfold G2 at h
  have hj2:∀(a3l:Int) H w (_:Inv w0 ps0 H0 H [] w) (_:U5 a7N a8K a3l H K),b1P (vi a7N) (vi a8K) (vi a3l) w R E:=by
   intro a3l H w I h
   unfold b1P
   intro _
   unfold U5 at h
   refine a6 pLs ?_
   simp only [q9]
   refine a6 (Pu.g fun a=>by simp only [d2 a];with_reducible exact pGt) ?_
   refine a6 (D3 _ _) ?_
   simp only [q9]
   refine a6 (Pu.g fun a=>by simp only [d2 a];with_reducible exact pGe) ?_
   simp only [a3C,a6H]
   refine a6 (Pu.e (a1Y _ _ _) (Pu.g fun hb=>by obtain ⟨a,b⟩:=a3B hb;simp only [d2 hb];with_reducible exact pLs)) ?_
   refine a6 (Pu.g fun a=>by simp only [d2 a,a5I a];with_reducible exact (m9 _ _)) ?_
   refine a6 (D3 _ _) ?_
   refine f7 h (fun _ h=>?_) (fun _ h=>?_)
   ·exact hR _ H _ _ I ⟨65533,1,false,rfl,rfl,h⟩
   ·exact hR _ H _ _ I ⟨a3l,a7N,true,rfl,rfl,h⟩
  refine m7 fun j2 hx2=>?_
  refine y6 (σ:=Int×Int) (fun (a6p,V0)=>[(vi a6p),(vi V0)]) (fun (a6p,V0)=>[]) h rfl I ?_
  rintro ⟨a6p,V0⟩ H m w next3 n3 f I h hn3
  dsimp only at f I h
  simp only [List.map_cons,List.map_nil,List.cons.injEq,and_true] at f
  obtain ⟨e10,e11⟩:=f
  simp only [e10,e11]
  unfold b5k
  unfold a0Q at h
  refine a6 pLs ?_
  refine d3 h (fun _ h=>?_) (fun _ h=>?_)
  ·refine a6 pAd (a6 (a7c _) (a6 pGe ?_))
   simp only [q9]
   refine a6 (Pu.g fun a=>by simp only [d2 a];with_reducible exact pAd) ?_
   obtain ⟨c,h⟩:=h
   refine a6 (Pu.g fun hb=>by have a:=hb;simp only [d2 a];with_reducible exact (a6K _ _ _ (c hb).1 (c hb).2)) ?_
   refine a6 (Pu.g fun a=>by simp only [d2 a];with_reducible exact pLs) ?_
   refine a6 (D3 _ _) ?_
   simp only [q9]
   refine a6 (Pu.g fun a=>by simp only [d2 a];with_reducible exact pAd) ?_
   obtain ⟨d,h⟩:=h
   refine a6 (Pu.g fun hb=>by have a:=hb;simp only [d2 a];with_reducible exact (a6K _ _ _ (d hb).1 (d hb).2)) ?_
   refine a6 (Pu.g fun a=>by simp only [d2 a];with_reducible exact pGe) ?_
   refine a6 (D3 _ _) ?_
   refine f7 h (fun _ h=>?_) (fun _ h=>?_)
   ·exact hR _ H _ _ I ⟨65533,1,false,rfl,rfl,h⟩
   ·refine a6 pMu (a6 pAd ?_)
    obtain ⟨k,l,h⟩:=h
    refine a6 (a6K _ _ _ k l) (a6 (a7I _ _) (a6 pAd (a6 pSu (a6 pAd ?_))))
    exact hn3 ((IntKind.wrap .i64 ((IntKind.wrap .i64 ((IntKind.wrap .i64 (64*a6p))+(IntKind.wrap .i64 ((x0.get! (IntKind.wrap .i64 (x1+V0):Int).toNat).toNat:Int))))-128)),(IntKind.wrap .i64 (V0+1))) _ _ h I
  ·exact hx2 _ _ (hj2 a6p H _ I h)
 refine m7 fun j1 hx1=>?_
 refine a6 pLs ?_
 refine d3 h (fun _ h=>?_) (fun _ h=>?_)
 ·exact hR _ H _ _ I ⟨(IntKind.wrap .i64 ((x0.get! (x1:Int).toNat).toNat:Int)),1,true,rfl,rfl,h⟩
 ·refine a6 pGe ?_
  simp only [q9]
  refine a6 (Pu.g fun a=>by simp only [d2 a];with_reducible exact pLs) ?_
  refine a6 (m9 _ _) ?_
  refine f7 h (fun _ h=>?_) (fun _ h=>?_)
  ·refine a6 pSu ?_
   exact hx1 _ _ (hj1 2 128 (IntKind.wrap .i64 ((IntKind.wrap .i64 ((x0.get! (x1:Int).toNat).toNat:Int))-192)) H _ I h)
  ·refine a6 pGe ?_
   simp only [q9]
   refine a6 (Pu.g fun a=>by simp only [d2 a];with_reducible exact pLs) ?_
   refine a6 (m9 _ _) ?_
   refine f7 h (fun _ h=>?_) (fun _ h=>?_)
   ·refine a6 pSu ?_
    exact hx1 _ _ (hj1 3 2048 (IntKind.wrap .i64 ((IntKind.wrap .i64 ((x0.get! (x1:Int).toNat).toNat:Int))-224)) H _ I h)
   ·refine a6 pGe ?_
    simp only [q9]
    refine a6 (Pu.g fun a=>by simp only [d2 a];with_reducible exact pLs) ?_
    refine a6 (m9 _ _) ?_
    refine f7 h (fun _ h=>?_) (fun _ h=>?_)
    ·refine a6 pSu ?_
     exact hx1 _ _ (hj1 4 65536 (IntKind.wrap .i64 ((IntKind.wrap .i64 ((x0.get! (x1:Int).toNat).toNat:Int))-240)) H _ I h)
    ·exact hR _ H _ _ I ⟨65533,1,false,rfl,rfl,h⟩
def W5(a:b8)(C5:Int)(a1o:a7)(H:Hp)(n2:(Int×a7)→Hp→Prop)(K:a7→Hp→Prop):Prop:=
 (((decide (C5 < (a.v7.n:Int)))&&a1o.fok)=true→
 (0:Int)≤C5∧(C5:Int) < a.v7.n∧∃b:b8,EltH H a.v7 C5 4 (c7 b)∧
 N5 a1o b H (fun c d=>
 n2 ((IntKind.wrap .i64 (C5+1)),c) d))∧
 (((decide (C5 < (a.v7.n:Int)))&&a1o.fok)=false→
 K a1o H)
def A6(o2:Int)(a:b8)(O7:a7)(H:Hp)(K:a7→Hp→Prop):Prop:=
 N4 O7 a.f4 ((decide (a.b7=2))||(decide (a.b7=4))) H (fun b c=>
 TL ((0,(a7.mk ((b.fok&&(decide ((a.v7.n:Int)=o2)))&&((decide (a.M8=0))||((decide (a.b7=1))&&(decide (0 < a.M8))))) b.fnames)):Int×a7) c fun(s:Int×a7) H n2=>W5 a s.1 s.2 H n2 K)
def u2(b5X:Int)(a8g:Bool)(a:b8)(b6O:a7)(H:Hp)(K:a7→Hp→Prop):Prop:=
 (a8g=true→
 A6 2 a b6O H K)∧
 (a8g=false→
 A6 b5X a (a7.mk false b6O.fnames) H K)
def E8(a8J:Int)(a4V:Int)(a8h:Bool)(a:b8)(a3Z:a7)(H:Hp)(K:a7→Hp→Prop):Prop:=
 (a8h=true→
 A6 1 a a3Z H K)∧
 (a8h=false→
 (a4V=6→
 u2 a8J (decide (a4V=6)) a a3Z H K)∧
 (¬(a4V=6)→
 (a4V=7→
 u2 a8J (decide (a4V=7)) a a3Z H K)∧
 (¬(a4V=7)→
 (a4V=8→
 u2 a8J (decide (a4V=8)) a a3Z H K)∧
 (¬(a4V=8)→
 (a4V=9→
 u2 a8J (decide (a4V=9)) a a3Z H K)∧
 (¬(a4V=9)→
 u2 a8J (decide (a4V=10)) a a3Z H K)))))
def C4(b2j:Int)(a9E:Int)(a8i:Bool)(a:b8)(a0J:a7)(H:Hp)(K:a7→Hp→Prop):Prop:=
 (a8i=true→
 A6 b2j a a0J H K)∧
 (a8i=false→
 (a9E=4→
 E8 b2j a9E (decide (a9E=4)) a a0J H K)∧
 (¬(a9E=4)→
 E8 b2j a9E (decide (a9E=5)) a a0J H K))
def a0f(x0:a7)(x1:b8)(H:Hp)(K:a7→Hp→Prop):Prop:=
 (x1.b7=1→
 C4 0 x1.b7 (decide (x1.b7=1)) x1 x0 H K)∧
 (¬(x1.b7=1)→
 (x1.b7=2→
 C4 0 x1.b7 (decide (x1.b7=2)) x1 x0 H K)∧
 (¬(x1.b7=2)→
 C4 0 x1.b7 (decide (x1.b7=3)) x1 x0 H K))
theorem a4E(x0 x1){H K}(h:a0f x0 x1 H K):N5 x0 x1 H K:=by
 intro g0
 refine Ct.of fun w0 w ps0 H0 R E I hR=>b8I ?_
 unfold a0f at h
 unfold F40
 refine B2 I (cs:=(c7 x1)) rfl fun i u j v=>?_
 have hj1:∀(o2:Int)(O7:a7) H w (_:Inv w0 ps0 H0 H [bx i 41 (c7 x1),bx g0 55 (f9 O7)] w) (_:A6 o2 x1 O7 H K),b1u (Value.pointer (some ⟨g0,0,none⟩)) (Value.pointer (some ⟨i,0,none⟩)) (vi o2) w R E:=by
  intro o2 O7 H w I h
  unfold b1u
  intro _
  unfold A6 at h
  refine a6 a2b (b6 (l1 Tryd.isAgg9 I rfl) (a6 T3 (b6 (l1 Tryd.isAgg3 I rfl) (a6 pEq ?_))))
  refine a6 (Pu.g fun a=>by with_reducible exact T3) ?_
  refine b6 (Ld.g fun a=>by simp only [d2 a];exact (l1 Tryd.isAgg3 I rfl)) ?_
  refine a6 (Pu.g fun a=>by simp only [d2 a];with_reducible exact pEq) ?_
  refine a6 (D3 _ _) ?_
  refine d7 Tryd.call20 (h g0) (I.bring 1) ?_
  rintro _ _ _ y f _ _ ⟨z,rfl,rfl,h⟩
  refine a6 (o9 _) (a6 D7 (b6 (l1 Tryd.isAgg4 f rfl) ?_))
  refine a6 (Pu.g fun a=>by with_reducible exact I0) ?_
  refine b6 (Ld.g fun a=>by simp only [d2 a];exact (l1 Tryd.isAgg39 (f.bring 1) rfl)) ?_
  refine a6 (Pu.g fun a=>by simp only [d2 a];with_reducible exact (B0 _ _ _)) ?_
  simp only [q9]
  refine a6 (Pu.g fun a=>by simp only [d2 a];with_reducible exact pEq) ?_
  refine a6 (m9 _ _) ?_
  refine a6 (Pu.g fun a=>by with_reducible exact a1f) ?_
  refine b6 (Ld.g fun a=>by simp only [d2 a];exact (l1 Tryd.isAgg2 (f.bring 1) rfl)) ?_
  refine a6 (Pu.g fun a=>by simp only [d2 a];with_reducible exact pEq) ?_
  simp only [q9,a3C,b4f]
  refine a6 (Pu.e (a0R _ _ _) (Pu.g fun hb=>by obtain ⟨a,b⟩:=a1Z hb;with_reducible exact T3)) ?_
  refine b6 (Ld.e (a0R _ _ _) (Ld.g fun hb=>by obtain ⟨a,b⟩:=a1Z hb;simp only [d2 hb];exact (l1 Tryd.isAgg3 (f.bring 1) rfl))) ?_
  refine a6 (Pu.e (a0R _ _ _) (Pu.g fun hb=>by obtain ⟨a,b⟩:=a1Z hb;simp only [d2 hb];with_reducible exact pEq)) ?_
  simp only [a3C]
  refine a6 (Pu.e (a9u _ _ _) (Pu.g fun hb=>by obtain ⟨d,c⟩:=b3q hb;obtain ⟨a,b⟩:=a1Z d;with_reducible exact a1f)) ?_
  refine b6 (Ld.e (a9u _ _ _) (Ld.g fun hb=>by obtain ⟨d,c⟩:=b3q hb;obtain ⟨a,b⟩:=a1Z d;simp only [d2 hb];exact (l1 Tryd.isAgg2 (f.bring 1) rfl))) ?_
  refine a6 (Pu.e (a9u _ _ _) (Pu.g fun hb=>by obtain ⟨d,c⟩:=b3q hb;obtain ⟨a,b⟩:=a1Z d;simp only [d2 hb];with_reducible exact pGt)) ?_
  refine a6 (Pu.e (a0R _ _ _) (Pu.g fun hb=>by obtain ⟨a,b⟩:=a1Z hb;simp only [d2 hb,b7R hb];with_reducible exact (m9 _ _))) ?_
  refine a6 (Pu.g fun a=>by simp only [d2 a,a7D a];with_reducible exact (D3 _ _)) ?_
  refine a6 (m9 _ _) (a6 (o9 _) (a6 D7 ?_))
  refine N2 f Tryd.sizeOf4 fun aa m ab=>?_
  refine y6 (σ:=Int×a7) (fun (C5,a1o)=>[(vi C5)]) (fun (C5,a1o)=>[bx g0 55 (f9 a1o),bx i 41 (c7 x1)]) h rfl ((m.bring 1).bring 1) ?_
  rintro ⟨C5,a1o⟩ H ac w next2 n2 k I h hn2
  dsimp only at k I h
  simp only [List.map_cons,List.map_nil,List.cons.injEq,and_true] at k
  have e5:=k
  simp only [e5]
  unfold b4T
  unfold W5 at h
  refine a6 I0 (b6 (l1 Tryd.isAgg39 (I.bring 1) rfl) (a6 (B0 _ _ _) (a6 pLs ?_)))
  simp only [q9]
  refine a6 (Pu.g fun a=>by simp only [d2 a];with_reducible exact (o9 _)) ?_
  refine a6 (Pu.g fun a=>by simp only [d2 a];with_reducible exact D7) ?_
  refine b6 (Ld.g fun a=>by simp only [d2 a];exact (l1 Tryd.isAgg4 I rfl)) ?_
  refine a6 (m9 _ _) ?_
  refine f7 h (fun _ h=>?_) (fun _ h=>?_)
  ·refine a6 I0 (b6 (l1 Tryd.isAgg39 (I.bring 1) rfl) ?_)
   obtain ⟨n,o,p,l,h⟩:=h
   obtain ⟨ad,ae,q,l⟩:=l
   refine a6 (O3 q _ _ _ _ n o) (b6 (ldA (vs:=(c7 p)) Tryd.isAgg41 Tryd.sizeOf41 rfl (I.atH l)) ?_)
   refine d7 Tryd.call40 (h g0) I ?_
   rintro _ _ _ af r _ _ ⟨s,rfl,rfl,h⟩
   refine a6 pAd ?_
   exact hn2 ((IntKind.wrap .i64 (C5+1)),s) _ _ h ((r.bring 1).bring 1)
  ·exact hR _ H _ _ (I.bring 1).drop ⟨a1o,rfl,rfl,h⟩
 refine m7 fun j1 hx1=>?_
 refine a6 T3 (b6 (l1 Tryd.isAgg3 j rfl) ?_)
 have hj3:∀(a8i:Bool) H w (_:Inv w0 ps0 H0 H [bx i 41 (c7 x1),bx g0 55 (f9 x0)] w) (_:C4 0 x1.b7 a8i x1 x0 H K),b1x (Value.pointer (some ⟨g0,0,none⟩)) (Value.pointer (some ⟨i,0,none⟩)) (vi 0) (vi x1.b7) (vB a8i) w j1 R E:=by
  intro a8i H w I h
  unfold b1x
  intro _
  unfold C4 at h
  refine f7 h (fun _ h=>?_) (fun _ h=>?_)
  ·exact hx1 _ _ (hj1 0 x0 H _ ((I.bring 1).bring 1) h)
  ·have hj4:∀(a8h:Bool) H w (_:Inv w0 ps0 H0 H [bx i 41 (c7 x1),bx g0 55 (f9 x0)] w) (_:E8 0 x1.b7 a8h x1 x0 H K),b1w (Value.pointer (some ⟨g0,0,none⟩)) (Value.pointer (some ⟨i,0,none⟩)) (vi 0) (vi x1.b7) (vB a8h) w j1 R E:=by
    intro a8h H w I h
    unfold b1w
    intro _
    unfold E8 at h
    refine f7 h (fun _ h=>?_) (fun _ h=>?_)
    ·exact hx1 _ _ (hj1 1 x0 H _ ((I.bring 1).bring 1) h)
    ·have hj5:∀(a8g:Bool) H w (_:Inv w0 ps0 H0 H [bx i 41 (c7 x1),bx g0 55 (f9 x0)] w) (_:u2 0 a8g x1 x0 H K),b1v (Value.pointer (some ⟨g0,0,none⟩)) (Value.pointer (some ⟨i,0,none⟩)) (vi 0) (vB a8g) w j1 R E:=by
      intro a8g H w I h
      unfold b1v
      intro _
      unfold u2 at h
      refine f7 h (fun _ h=>?_) (fun _ h=>?_)
      ·exact hx1 _ _ (hj1 2 x0 H _ ((I.bring 1).bring 1) h)
      ·refine a6 (o9 _) (a6 D7 ?_)
       refine N2 (I.bring 1) Tryd.sizeOf4 fun ag t ah=>?_
       exact hx1 _ _ (hj1 0 (a7.mk false x0.fnames) H _ (t.bring 1) h)
     refine m7 fun j5 hx5=>?_
     refine a6 pEq ?_
     refine d3 h (fun _ h=>?_) (fun _ h=>?_)
     ·exact hx5 _ _ (hj5 (decide (x1.b7=6)) H _ ((I.bring 1).bring 1) h)
     ·refine a6 pEq ?_
      refine d3 h (fun _ h=>?_) (fun _ h=>?_)
      ·exact hx5 _ _ (hj5 (decide (x1.b7=7)) H _ ((I.bring 1).bring 1) h)
      ·refine a6 pEq ?_
       refine d3 h (fun _ h=>?_) (fun _ h=>?_)
       ·exact hx5 _ _ (hj5 (decide (x1.b7=8)) H _ ((I.bring 1).bring 1) h)
       ·refine a6 pEq ?_
        refine d3 h (fun _ h=>?_) (fun _ h=>?_)
        ·exact hx5 _ _ (hj5 (decide (x1.b7=9)) H _ ((I.bring 1).bring 1) h)
        ·refine a6 pEq ?_
         exact hx5 _ _ (hj5 (decide (x1.b7=10)) H _ ((I.bring 1).bring 1) h)
   refine m7 fun j4 hx4=>?_
   refine a6 pEq ?_
   refine d3 h (fun _ h=>?_) (fun _ h=>?_)
   ·exact hx4 _ _ (hj4 (decide (x1.b7=4)) H _ ((I.bring 1).bring 1) h)
   ·refine a6 pEq ?_
    exact hx4 _ _ (hj4 (decide (x1.b7=5)) H _ ((I.bring 1).bring 1) h)
 refine m7 fun j3 hx3=>?_
 refine a6 pEq ?_
 refine d3 h (fun _ h=>?_) (fun _ h=>?_)
 ·exact hx3 _ _ (hj3 (decide (x1.b7=1)) H _ ((j.bring 1).bring 1) h)
 ·refine a6 pEq ?_
  refine d3 h (fun _ h=>?_) (fun _ h=>?_)
  ·exact hx3 _ _ (hj3 (decide (x1.b7=2)) H _ ((j.bring 1).bring 1) h)
  ·refine a6 pEq ?_
   exact hx3 _ _ (hj3 (decide (x1.b7=3)) H _ ((j.bring 1).bring 1) h)
def a0g(x0:a8)(x1:Int)(H:Hp)(K:Bool→a8→Hp→Prop):Prop:=
 (¬(x0.fbad=0)→
 K false x0 H)∧
 (x0.fbad=0→
 (x0.fn=4096→
 K false (a8.mk x0.fn x0.fdepth 33) H)∧
 (¬(x0.fn=4096)→
 (64 < x1→
 K false (a8.mk x0.fn x0.fdepth 32) H)∧
 (¬(64 < x1)→
 K true (a8.mk (IntKind.wrap .i64 (x0.fn+1)) (if x1 > x0.fdepth then x1 else x0.fdepth) x0.fbad) H)))
theorem a4F(x0 x1){H K}(h:a0g x0 x1 H K):J8 x0 x1 H K:=by
 intro g0
 refine Ct.of fun w0 w ps0 H0 R E I hR=>b8E ?_
 unfold a0g at h
 unfold F36
 refine a6 (o9 _) (a6 S3 (b6 (l1 Tryd.isAgg3 I rfl) (a6 pNe ?_)))
 refine a0m h (fun _ h=>?_) (fun _ h=>?_)
 ·exact hR _ H _ _ I ⟨false,x0,rfl,rfl,h⟩
 ·refine a6 (o9 _) (a6 a6Y (b6 (l1 Tryd.isAgg3 I rfl) (a6 pEq ?_)))
  refine d3 h (fun _ h=>?_) (fun _ h=>?_)
  ·refine a6 (o9 _) (a6 S3 ?_)
   refine N2 I Tryd.sizeOf3 fun e b f=>?_
   exact hR _ H _ _ b ⟨false,(a8.mk x0.fn x0.fdepth 33),rfl,rfl,h⟩
  ·refine a6 pGt ?_
   refine d3 h (fun _ h=>?_) (fun _ h=>?_)
   ·refine a6 (o9 _) (a6 S3 ?_)
    refine N2 I Tryd.sizeOf3 fun g c i=>?_
    exact hR _ H _ _ c ⟨false,(a8.mk x0.fn x0.fdepth 32),rfl,rfl,h⟩
   ·refine a6 (o9 _) (a6 a6Y (b6 (l1 Tryd.isAgg3 I rfl) (a6 pAd (a6 (o9 _) ?_))))
    refine a6 a6Y ?_
    refine N2 I Tryd.sizeOf3 fun j a k=>?_
    refine a6 (o9 _) (a6 a8Y (b6 (l1 Tryd.isAgg3 a rfl) (a6 (b4d _ _ _ _ _) (a6 (o9 _) ?_))))
    refine a6 a8Y ?_
    refine N2 a Tryd.sizeOf3 fun l d m=>?_
    exact hR _ H _ _ d ⟨true,(a8.mk (IntKind.wrap .i64 (x0.fn+1)) (if x1 > x0.fdepth then x1 else x0.fdepth) x0.fbad),rfl,rfl,h⟩
def W6(c0F:Int)(a:b8)(a5V:Int)(a5y:a8)(H:Hp)(n1:(Int×a8)→Hp→Prop)(K:a8→Hp→Prop):Prop:=
 (((decide (a5V < (a.v7.n:Int)))&&(decide (a5y.fbad=0)))=true→
 (0:Int)≤a5V∧(a5V:Int) < a.v7.n∧∃b:b8,EltH H a.v7 a5V 4 (c7 b)∧
 N7 a5y b (IntKind.wrap .i64 (c0F+1)) H (fun c d=>
 n1 ((IntKind.wrap .i64 (a5V+1)),c) d))∧
 (((decide (a5V < (a.v7.n:Int)))&&(decide (a5y.fbad=0)))=false→
 K a5y H)
def a0h(x0:a8)(x1:b8)(x2:Int)(H:Hp)(K:a8→Hp→Prop):Prop:=
 J8 x0 x2 H (fun a b c=>
 ((!a)=true→
 K b c)∧
 ((!a)=false→
 TL ((0,b):Int×a8) c fun(s:Int×a8) H n1=>W6 x2 x1 s.1 s.2 H n1 K))
theorem a4G(x0 x1 x2){H K}(h:a0h x0 x1 x2 H K):N7 x0 x1 x2 H K:=by
 intro g0
 refine Ct.of fun w0 w ps0 H0 R E I hR=>b8Z ?_
 unfold a0h at h
 unfold F57
 refine B2 I (cs:=(c7 x1)) rfl fun e q f r=>?_
 refine d7 Tryd.call36 (h g0) (f.bring 1) ?_
 rintro _ i _ s d _ _ ⟨t,j,rfl,rfl,h⟩
 refine a6 (G1 _) ?_
 refine f7 h (fun _ h=>?_) (fun _ h=>?_)
 ·exact hR _ i _ _ (d.bring 1).drop ⟨j,rfl,rfl,h⟩
 ·refine y6 (σ:=Int×a8) (fun (a5V,a5y)=>[(vi a5V)]) (fun (a5V,a5y)=>[bx g0 52 (g9 a5y),bx e 41 (c7 x1)]) h rfl ((d.bring 1).bring 1) ?_
  rintro ⟨a5V,a5y⟩ H u w next1 n1 b I h hn1
  dsimp only at b I h
  simp only [List.map_cons,List.map_nil,List.cons.injEq,and_true] at b
  have e6:=b
  simp only [e6]
  unfold b5j
  unfold W6 at h
  refine a6 I0 (b6 (l1 Tryd.isAgg39 (I.bring 1) rfl) (a6 (B0 _ _ _) (a6 pLs ?_)))
  simp only [q9]
  refine a6 (Pu.g fun a=>by simp only [d2 a];with_reducible exact (o9 _)) ?_
  refine a6 (Pu.g fun a=>by simp only [d2 a];with_reducible exact S3) ?_
  refine b6 (Ld.g fun a=>by simp only [d2 a];exact (l1 Tryd.isAgg3 I rfl)) ?_
  refine a6 (Pu.g fun a=>by simp only [d2 a];with_reducible exact pEq) ?_
  refine a6 (m9 _ _) ?_
  refine f7 h (fun _ h=>?_) (fun _ h=>?_)
  ·refine a6 I0 (b6 (l1 Tryd.isAgg39 (I.bring 1) rfl) ?_)
   obtain ⟨k,l,m,c,h⟩:=h
   obtain ⟨v,y,n,c⟩:=c
   refine a6 (O3 n _ _ _ _ k l) (b6 (ldA (vs:=(c7 m)) Tryd.isAgg41 Tryd.sizeOf41 rfl (I.atH c)) (a6 pAd ?_))
   refine d7 Tryd.call57 (h g0) I ?_
   rintro _ _ _ z o _ _ ⟨p,rfl,rfl,h⟩
   refine a6 pAd ?_
   exact hn1 ((IntKind.wrap .i64 (a5V+1)),p) _ _ h ((o.bring 1).bring 1)
  ·exact hR _ H _ _ (I.bring 1).drop ⟨a5y,rfl,rfl,h⟩
def W7(c0G:Int)(a:c6)(a4e:Int)(a1q:a8)(H:Hp)(n4:(Int×a8)→Hp→Prop)(K:a8→Hp→Prop):Prop:=
 (((decide (a4e < (a.A8.n:Int)))&&(decide (a1q.fbad=0)))=true→
 (0:Int)≤a4e∧(a4e:Int) < a.A8.n∧∃b:c6,EltH H a.A8 a4e 6 (c5 b)∧
 N8 a1q b (IntKind.wrap .i64 (c0G+1)) H (fun c d=>
 n4 ((IntKind.wrap .i64 (a4e+1)),c) d))∧
 (((decide (a4e < (a.A8.n:Int)))&&(decide (a1q.fbad=0)))=false→
 K a1q H)
def Q6(c0H:Int)(a0J:a8)(a:c6)(H:Hp)(K:a8→Hp→Prop):Prop:=
 TL ((0,a0J):Int×a8) H fun(s:Int×a8) H n4=>W7 c0H a s.1 s.2 H n4 K
def W8(b9G:Int)(a:c6)(a5W:Int)(S5:a8)(H:Hp)(n5:(Int×a8)→Hp→Prop)(K:a8→Hp→Prop):Prop:=
 (((decide (a5W < (a.B1.n:Int)))&&(decide (S5.fbad=0)))=true→
 (0:Int)≤a5W∧(a5W:Int) < a.B1.n∧∃b:c6,EltH H a.B1 a5W 6 (c5 b)∧
 N8 S5 b (IntKind.wrap .i64 (b9G+1)) H (fun c d=>
 n5 ((IntKind.wrap .i64 (a5W+1)),c) d))∧
 (((decide (a5W < (a.B1.n:Int)))&&(decide (S5.fbad=0)))=false→
 Q6 b9G S5 a H K)
def Q7(c0I:Int)(a3j:a8)(a:c6)(H:Hp)(K:a8→Hp→Prop):Prop:=
 TL ((0,a3j):Int×a8) H fun(s:Int×a8) H n5=>W8 c0I a s.1 s.2 H n5 K
def W9(b9H:Int)(a:c6)(a5X:Int)(a1k:a8)(H:Hp)(n6:(Int×a8)→Hp→Prop)(K:a8→Hp→Prop):Prop:=
 (((decide (a5X < (a.d5.n:Int)))&&(decide (a1k.fbad=0)))=true→
 (0:Int)≤a5X∧(a5X:Int) < a.d5.n∧∃b:b8,EltH H a.d5 a5X 4 (c7 b)∧
 N7 a1k b (IntKind.wrap .i64 (b9H+1)) H (fun c d=>
 n6 ((IntKind.wrap .i64 (a5X+1)),c) d))∧
 (((decide (a5X < (a.d5.n:Int)))&&(decide (a1k.fbad=0)))=false→
 Q7 b9H a1k a H K)
def Q8(a6z:Int)(O7:a8)(a:c6)(H:Hp)(K:a8→Hp→Prop):Prop:=
 TL ((0,O7):Int×a8) H fun(s:Int×a8) H n6=>W9 a6z a s.1 s.2 H n6 K
def X0(b9I:Int)(a:c6)(a5Y:Int)(a1l:a8)(H:Hp)(n7:(Int×a8)→Hp→Prop)(K:a8→Hp→Prop):Prop:=
 (((decide (a5Y < (a.m8.n:Int)))&&(decide (a1l.fbad=0)))=true→
 (0:Int)≤a5Y∧(a5Y:Int) < a.m8.n∧∃b:b9,EltH H a.m8 a5Y 4 (c9 b)∧
 S7 a1l b (IntKind.wrap .i64 (b9I+1)) H (fun c d=>
 n7 ((IntKind.wrap .i64 (a5Y+1)),c) d))∧
 (((decide (a5Y < (a.m8.n:Int)))&&(decide (a1l.fbad=0)))=false→
 Q8 b9I a1l a H K)
def a0i(x0:a8)(x1:c6)(x2:Int)(H:Hp)(K:a8→Hp→Prop):Prop:=
 J8 x0 x2 H (fun a b c=>
 ((!a)=true→
 K b c)∧
 ((!a)=false→
 TL ((0,b):Int×a8) c fun(s:Int×a8) H n7=>X0 x2 x1 s.1 s.2 H n7 K))
theorem a4H(x0 x1 x2){H K}(h:a0i x0 x1 x2 H K):N8 x0 x1 x2 H K:=by
 intro g0
 refine Ct.of fun w0 w ps0 H0 R E I hR=>b8F ?_
 unfold a0i at h
 unfold F37
 refine B2 I (cs:=(c5 x1)) rfl fun b aq n ar=>?_
 refine d7 Tryd.call36 (h g0) (n.bring 1) ?_
 rintro _ o _ au m _ _ ⟨av,p,rfl,rfl,h⟩
 refine a6 (G1 _) ?_
 refine f7 h (fun _ h=>?_) (fun _ h=>?_)
 ·exact hR _ o _ _ (m.bring 1).drop ⟨p,rfl,rfl,h⟩
 ·have hj1:∀(O7:a8) H w (_:Inv w0 ps0 H0 H [bx g0 52 (g9 O7),bx b 49 (c5 x1)] w) (_:Q8 x2 O7 x1 H K),b1n (Value.pointer (some ⟨g0,0,none⟩)) (vi x2) (Value.pointer (some ⟨b,0,none⟩)) w R E:=by
   intro O7 H w I h
   unfold b1n
   intro _
   unfold Q8 at h
   have hj2:∀(a3j:a8) H w (_:Inv w0 ps0 H0 H [bx g0 52 (g9 a3j),bx b 49 (c5 x1)] w) (_:Q7 x2 a3j x1 H K),b1m (Value.pointer (some ⟨g0,0,none⟩)) (vi x2) (Value.pointer (some ⟨b,0,none⟩)) w R E:=by
    intro a3j H w I h
    unfold b1m
    intro _
    unfold Q7 at h
    have hj3:∀(a0J:a8) H w (_:Inv w0 ps0 H0 H [bx g0 52 (g9 a0J),bx b 49 (c5 x1)] w) (_:Q6 x2 a0J x1 H K),b1l (Value.pointer (some ⟨g0,0,none⟩)) (vi x2) (Value.pointer (some ⟨b,0,none⟩)) w R E:=by
     intro a0J H w I h
     unfold b1l
     intro _
     unfold Q6 at h
     refine y6 (σ:=Int×a8) (fun (a4e,a1q)=>[(vi a4e)]) (fun (a4e,a1q)=>[bx g0 52 (g9 a1q),bx b 49 (c5 x1)]) h rfl ((I.bring 1).bring 1) ?_
     rintro ⟨a4e,a1q⟩ H aw w next4 n4 c I h hn4
     dsimp only at c I h
     simp only [List.map_cons,List.map_nil,List.cons.injEq,and_true] at c
     have e9:=c
     simp only [e9]
     unfold b4M
     unfold W7 at h
     refine a6 O0 (b6 (l1 Tryd.isAgg23 (I.bring 1) rfl) (a6 (J6 _ _ _) (a6 pLs ?_)))
     simp only [q9]
     refine a6 (Pu.g fun a=>by simp only [d2 a];with_reducible exact (o9 _)) ?_
     refine a6 (Pu.g fun a=>by simp only [d2 a];with_reducible exact S3) ?_
     refine b6 (Ld.g fun a=>by simp only [d2 a];exact (l1 Tryd.isAgg3 I rfl)) ?_
     refine a6 (Pu.g fun a=>by simp only [d2 a];with_reducible exact pEq) ?_
     refine a6 (m9 _ _) ?_
     refine f7 h (fun _ h=>?_) (fun _ h=>?_)
     ·refine a6 O0 (b6 (l1 Tryd.isAgg23 (I.bring 1) rfl) ?_)
      obtain ⟨q,r,s,d,h⟩:=h
      obtain ⟨ax,ay,t,d⟩:=d
      refine a6 (J4 t _ _ _ _ q r) (b6 (ldA (vs:=(c5 s)) Tryd.isAgg49 Tryd.sizeOf49 rfl (I.atH d)) (a6 pAd ?_))
      refine d7 Tryd.call37 (h g0) I ?_
      rintro _ _ _ az u _ _ ⟨v,rfl,rfl,h⟩
      refine a6 pAd ?_
      exact hn4 ((IntKind.wrap .i64 (a4e+1)),v) _ _ h ((u.bring 1).bring 1)
     ·exact hR _ H _ _ (I.bring 1).drop ⟨a1q,rfl,rfl,h⟩
    refine m7 fun j3 hx3=>?_
    refine y6 (σ:=Int×a8) (fun (a5W,S5)=>[(vi a5W)]) (fun (a5W,S5)=>[bx g0 52 (g9 S5),bx b 49 (c5 x1)]) h rfl ((I.bring 1).bring 1) ?_
    rintro ⟨a5W,S5⟩ H ba w next5 n5 e I h hn5
    dsimp only at e I h
    simp only [List.map_cons,List.map_nil,List.cons.injEq,and_true] at e
    have e8:=e
    simp only [e8]
    unfold b4N
    unfold W8 at h
    refine a6 P2 (b6 (l1 Tryd.isAgg23 (I.bring 1) rfl) (a6 (J6 _ _ _) (a6 pLs ?_)))
    simp only [q9]
    refine a6 (Pu.g fun a=>by simp only [d2 a];with_reducible exact (o9 _)) ?_
    refine a6 (Pu.g fun a=>by simp only [d2 a];with_reducible exact S3) ?_
    refine b6 (Ld.g fun a=>by simp only [d2 a];exact (l1 Tryd.isAgg3 I rfl)) ?_
    refine a6 (Pu.g fun a=>by simp only [d2 a];with_reducible exact pEq) ?_
    refine a6 (m9 _ _) ?_
    refine f7 h (fun _ h=>?_) (fun _ h=>?_)
    ·refine a6 P2 (b6 (l1 Tryd.isAgg23 (I.bring 1) rfl) ?_)
     obtain ⟨y,z,aa,f,h⟩:=h
     obtain ⟨bb,bc,ab,f⟩:=f
     refine a6 (J4 ab _ _ _ _ y z) (b6 (ldA (vs:=(c5 aa)) Tryd.isAgg49 Tryd.sizeOf49 rfl (I.atH f)) (a6 pAd ?_))
     refine d7 Tryd.call37 (h g0) I ?_
     rintro _ _ _ bd ac _ _ ⟨ad,rfl,rfl,h⟩
     refine a6 pAd ?_
     exact hn5 ((IntKind.wrap .i64 (a5W+1)),ad) _ _ h ((ac.bring 1).bring 1)
    ·exact hx3 _ _ (hj3 S5 H _ ((I.bring 1).bring 1) h)
   refine m7 fun j2 hx2=>?_
   refine y6 (σ:=Int×a8) (fun (a5X,a1k)=>[(vi a5X)]) (fun (a5X,a1k)=>[bx g0 52 (g9 a1k),bx b 49 (c5 x1)]) h rfl ((I.bring 1).bring 1) ?_
   rintro ⟨a5X,a1k⟩ H be w next6 n6 i I h hn6
   dsimp only at i I h
   simp only [List.map_cons,List.map_nil,List.cons.injEq,and_true] at i
   have e7:=i
   simp only [e7]
   unfold b4O
   unfold W9 at h
   refine a6 D8 (b6 (l1 Tryd.isAgg39 (I.bring 1) rfl) (a6 (B0 _ _ _) (a6 pLs ?_)))
   simp only [q9]
   refine a6 (Pu.g fun a=>by simp only [d2 a];with_reducible exact (o9 _)) ?_
   refine a6 (Pu.g fun a=>by simp only [d2 a];with_reducible exact S3) ?_
   refine b6 (Ld.g fun a=>by simp only [d2 a];exact (l1 Tryd.isAgg3 I rfl)) ?_
   refine a6 (Pu.g fun a=>by simp only [d2 a];with_reducible exact pEq) ?_
   refine a6 (m9 _ _) ?_
   refine f7 h (fun _ h=>?_) (fun _ h=>?_)
   ·refine a6 D8 (b6 (l1 Tryd.isAgg39 (I.bring 1) rfl) ?_)
    obtain ⟨ae,af,ag,j,h⟩:=h
    obtain ⟨bf,bg,ah,j⟩:=j
    refine a6 (O3 ah _ _ _ _ ae af) (b6 (ldA (vs:=(c7 ag)) Tryd.isAgg41 Tryd.sizeOf41 rfl (I.atH j)) (a6 pAd ?_))
    refine d7 Tryd.call57 (h g0) I ?_
    rintro _ _ _ bh ai _ _ ⟨aj,rfl,rfl,h⟩
    refine a6 pAd ?_
    exact hn6 ((IntKind.wrap .i64 (a5X+1)),aj) _ _ h ((ai.bring 1).bring 1)
   ·exact hx2 _ _ (hj2 a1k H _ ((I.bring 1).bring 1) h)
  refine m7 fun j1 hx1=>?_
  refine y6 (σ:=Int×a8) (fun (a5Y,a1l)=>[(vi a5Y)]) (fun (a5Y,a1l)=>[bx g0 52 (g9 a1l),bx b 49 (c5 x1)]) h rfl ((m.bring 1).bring 1) ?_
  rintro ⟨a5Y,a1l⟩ H bi w next7 n7 k I h hn7
  dsimp only at k I h
  simp only [List.map_cons,List.map_nil,List.cons.injEq,and_true] at k
  have e6:=k
  simp only [e6]
  unfold b4P
  unfold X0 at h
  refine a6 G7 (b6 (l1 Tryd.isAgg47 (I.bring 1) rfl) (a6 (K2 _ _ _) (a6 pLs ?_)))
  simp only [q9]
  refine a6 (Pu.g fun a=>by simp only [d2 a];with_reducible exact (o9 _)) ?_
  refine a6 (Pu.g fun a=>by simp only [d2 a];with_reducible exact S3) ?_
  refine b6 (Ld.g fun a=>by simp only [d2 a];exact (l1 Tryd.isAgg3 I rfl)) ?_
  refine a6 (Pu.g fun a=>by simp only [d2 a];with_reducible exact pEq) ?_
  refine a6 (m9 _ _) ?_
  refine f7 h (fun _ h=>?_) (fun _ h=>?_)
  ·refine a6 G7 (b6 (l1 Tryd.isAgg47 (I.bring 1) rfl) ?_)
   obtain ⟨ak,al,am,l,h⟩:=h
   obtain ⟨bj,bk,an,l⟩:=l
   refine a6 (Y2 an _ _ _ _ ak al) (b6 (ldA (vs:=(c9 am)) Tryd.isAgg77 Tryd.sizeOf77 rfl (I.atH l)) (a6 pAd ?_))
   refine d7 Tryd.call56 (h g0) I ?_
   rintro _ _ _ bl ao _ _ ⟨ap,rfl,rfl,h⟩
   refine a6 pAd ?_
   exact hn7 ((IntKind.wrap .i64 (a5Y+1)),ap) _ _ h ((ao.bring 1).bring 1)
  ·exact hx1 _ _ (hj1 a1l H _ ((I.bring 1).bring 1) h)
def U1(a:a7)(d:a8)(e:d4)(H:Hp)(K:Int→Hp→Prop):Prop:=
 Z1 a H (fun b c=>
 K b c)
def a0z(d:a8)(a:d4)(Q9:Int)(b:a7)(H:Hp)(n3:(Int×a7)→Hp→Prop)(K:Int→Hp→Prop):Prop:=
 (((decide (Q9 < (a.M7.n:Int)))&&b.fok)=true→
 (0:Int)≤Q9∧(Q9:Int) < a.M7.n∧∃c:c6,EltH H a.M7 Q9 6 (c5 c)∧
 N6 b c H (fun e f=>
 n3 ((IntKind.wrap .i64 (Q9+1)),e) f))∧
 (((decide (Q9 < (a.M7.n:Int)))&&b.fok)=false→
 U1 b d a H K)
def U2(a:a7)(b:a8)(c:d4)(H:Hp)(K:Int→Hp→Prop):Prop:=
 TL ((0,a):Int×a7) H fun(s:Int×a7) H n3=>a0z b c s.1 s.2 H n3 K
def a0A(f:a8)(a:d4)(U7:Int)(b:a7)(H:Hp)(n4:(Int×a7)→Hp→Prop)(K:Int→Hp→Prop):Prop:=
 (U7 < (a.B3.n:Int)→
 ∃c:s7,(b.fok=true→(0:Int)≤U7∧(U7:Int) < a.B3.n∧EltH H a.B3 U7 2 (j8 c))∧
 ∃d:s7,((b.fok&&(decide (0≤c.X1)))=true→(0:Int)≤U7∧(U7:Int) < a.B3.n∧EltH H a.B3 U7 2 (j8 d))∧
 (0:Int)≤U7∧(U7:Int) < a.B3.n∧∃e:s7,EltH H a.B3 U7 2 (j8 e)∧
 N4 (a7.mk ((b.fok&&(decide (0≤c.X1)))&&(decide (d.X1≤2147483647))) b.fnames) e.f4 true H (fun g i=>
 n4 ((IntKind.wrap .i64 (U7+1)),g) i))∧
 (¬(U7 < (a.B3.n:Int))→
 U2 b f a H K)
def a1s(x0:d4)(H:Hp)(K:Int→Hp→Prop):Prop:=
 U9 x0 H (fun a b=>
 (¬(a.fbad=0)→
 K a.fbad b)∧
 (a.fbad=0→
 TL ((0,(a7.mk true true)):Int×a7) b fun(s:Int×a7) H n4=>a0A a x0 s.1 s.2 H n4 K))
theorem a5z(x0){H K}(h:a1s x0 H K):a3h x0 H K:=by
 refine Ct.of fun w0 w ps0 H0 R E I hR=>b9T ?_
 unfold a1s at h
 unfold F6
 refine B2 I (cs:=(f5 x0)) rfl fun f ax aa ay=>?_
 refine b6 (lW Tryd.isAgg25 Tryd.sizeOf25 rfl aa) ?_
 refine d7 Tryd.call19 h aa ?_
 rintro _ ab _ az ac _ _ ⟨d,rfl,rfl,h⟩
 refine u4 ac Tryd.zeroValue52 (cs:=[(vi 0),(vi 0),(vi 0)]) rfl fun i ba ad bb=>?_
 refine D5 ad Tryd.sizeOf52 (vs:=(g9 d)) fun bc j bd=>?_
 refine a6 S3 (b6 (l1 Tryd.isAgg3 j rfl) (a6 pNe ?_))
 refine a0m h (fun _ h=>?_) (fun _ h=>?_)
 ·refine a6 S3 (b6 (l1 Tryd.isAgg3 j rfl) ?_)
  exact hR _ ab _ _ j.drop.drop ⟨d.fbad,rfl,rfl,h⟩
 ·refine a6 (b0g _ _) ?_
  refine u4 j Tryd.zeroValue55 (cs:=[(vB false),(vB false)]) rfl fun e be ae bf=>?_
  refine D5 ae Tryd.sizeOf55 (vs:=[(vB true),(vB true)]) fun bg af bh=>?_
  have hj1:∀(o:a7) H w (_:Inv w0 ps0 H0 H [bx e 55 (f9 o),bx i 52 (g9 d),bx f 25 (f5 x0)] w) (_:U2 o d x0 H K),b3y (Value.pointer (some ⟨f,0,none⟩)) (Value.pointer (some ⟨e,0,none⟩)) w R E:=by
   intro o H w I h
   unfold b3y
   intro _
   unfold U2 at h
   have hj2:∀(p:a7) H w (_:Inv w0 ps0 H0 H [bx e 55 (f9 p),bx i 52 (g9 d),bx f 25 (f5 x0)] w) (_:U1 p d x0 H K),b3x (Value.pointer (some ⟨e,0,none⟩)) w R E:=by
    intro p H w I h
    unfold b3x
    intro _
    unfold U1 at h
    refine b6 (lW Tryd.isAgg55 Tryd.sizeOf55 rfl I) ?_
    refine d7 Tryd.call22 h I ?_
    rintro _ ag _ bi ah _ _ ⟨ai,rfl,rfl,h⟩
    exact hR _ ag _ _ ah.drop.drop.drop ⟨ai,rfl,rfl,h⟩
   refine m7 fun j2 hx2=>?_
   refine y6 (σ:=Int×a7) (fun (Q9,l)=>[(vi Q9)]) (fun (Q9,l)=>[bx e 55 (f9 l),bx i 52 (g9 d),bx f 25 (f5 x0)]) h rfl (((I.bring 2).bring 2).bring 2) ?_
   rintro ⟨Q9,l⟩ H bj w next3 n3 q I h hn3
   dsimp only at q I h
   simp only [List.map_cons,List.map_nil,List.cons.injEq,and_true] at q
   have e6:=q
   simp only [e6]
   unfold b6F
   unfold a0z at h
   refine a6 L2 (b6 (l1 Tryd.isAgg23 (I.bring 2) rfl) (a6 (J6 _ _ _) (a6 pLs ?_)))
   refine a6 (Pu.g fun a=>by with_reducible exact D7) ?_
   refine b6 (Ld.g fun a=>by simp only [d2 a];exact (l1 Tryd.isAgg4 I rfl)) ?_
   refine a6 (m9 _ _) ?_
   refine f7 h (fun _ h=>?_) (fun _ h=>?_)
   ·refine a6 L2 (b6 (l1 Tryd.isAgg23 (I.bring 2) rfl) ?_)
    obtain ⟨aj,ak,al,r,h⟩:=h
    obtain ⟨bk,bl,am,r⟩:=r
    refine a6 (J4 am _ _ _ _ aj ak) (b6 (ldA (vs:=(c5 al)) Tryd.isAgg49 Tryd.sizeOf49 rfl (I.atH r)) ?_)
    refine d7 Tryd.call21 (h e) I ?_
    rintro _ _ _ bm an _ _ ⟨ao,rfl,rfl,h⟩
    refine a6 pAd ?_
    exact hn3 ((IntKind.wrap .i64 (Q9+1)),ao) _ _ h (((an.bring 2).bring 2).bring 2)
   ·exact hx2 _ _ (hj2 l H _ (((I.bring 2).bring 2).bring 2) h)
  refine m7 fun j1 hx1=>?_
  refine y6 (σ:=Int×a7) (fun (U7,m)=>[(vi U7)]) (fun (U7,m)=>[bx e 55 (f9 m),bx i 52 (g9 d),bx f 25 (f5 x0)]) h rfl (((af.bring 2).bring 2).bring 2) ?_
  rintro ⟨U7,m⟩ H bn w next4 n4 s I h hn4
  dsimp only at s I h
  simp only [List.map_cons,List.map_nil,List.cons.injEq,and_true] at s
  have e5:=s
  simp only [e5]
  unfold b6G
  unfold a0A at h
  refine a6 L1 (b6 (l1 Tryd.isAgg22 (I.bring 2) rfl) (a6 (a0K _ _ _) (a6 pLs ?_)))
  refine d3 h (fun _ h=>?_) (fun _ h=>?_)
  ·refine a6 D7 (b6 (l1 Tryd.isAgg4 I rfl) ?_)
   refine a6 (Pu.g fun a=>by with_reducible exact L1) ?_
   refine b6 (Ld.g fun a=>by simp only [d2 a];exact (l1 Tryd.isAgg22 (I.bring 2) rfl)) ?_
   simp only [q9]
   obtain ⟨t,b,h⟩:=h
   obtain ⟨bo,bp,b⟩:=b6E b
   refine a6 (Pu.g fun hb=>by have a:=hb;simp only [d2 a];with_reducible exact (a2F (b hb).2.2.1 _ _ _ _ (b hb).1 (b hb).2.1)) ?_
   refine a6 (Pu.g fun a=>by simp only [d2 a];with_reducible exact a5o) ?_
   refine b6 (Ld.g fun hb=>by have a:=hb;simp only [d2 a];exact (ld1 (v:=(vi t.X1)) Tryd.isAgg3 ((I.atH (b hb).2.2.2).sub (k:=1) (n:=1) (nb rfl)))) ?_
   refine a6 (Pu.g fun a=>by simp only [d2 a];with_reducible exact pGe) ?_
   refine a6 (m9 _ _) ?_
   refine a6 (Pu.g fun a=>by with_reducible exact L1) ?_
   refine b6 (Ld.g fun a=>by simp only [d2 a];exact (l1 Tryd.isAgg22 (I.bring 2) rfl)) ?_
   simp only [q9]
   obtain ⟨u,c,h⟩:=h
   obtain ⟨bq,br,c⟩:=b6E c
   refine a6 (Pu.g fun hb=>by have a:=hb;simp only [d2 a];with_reducible exact (a2F (c hb).2.2.1 _ _ _ _ (c hb).1 (c hb).2.1)) ?_
   refine a6 (Pu.g fun a=>by simp only [d2 a];with_reducible exact a5o) ?_
   refine b6 (Ld.g fun hb=>by have a:=hb;simp only [d2 a];exact (ld1 (v:=(vi u.X1)) Tryd.isAgg3 ((I.atH (c hb).2.2.2).sub (k:=1) (n:=1) (nb rfl)))) ?_
   refine a6 (Pu.g fun a=>by simp only [d2 a];with_reducible exact pLe) ?_
   refine a6 (m9 _ _) (a6 D7 ?_)
   refine N2 I Tryd.sizeOf4 fun bs y bt=>?_
   refine a6 L1 (b6 (l1 Tryd.isAgg22 (y.bring 2) rfl) ?_)
   obtain ⟨ap,aq,ar,z,h⟩:=h
   obtain ⟨bu,bv,au,z⟩:=z
   refine a6 (a2F au _ _ _ _ ap aq) (a6 a8W (b6 (ld1 (v:=(Value.string ar.f4)) Tryd.isAgg9 ((y.atH z).sub (k:=0) (n:=1) (nb rfl))) ?_))
   refine d7 Tryd.call20 (h e) y ?_
   rintro _ _ _ bw av _ _ ⟨aw,rfl,rfl,h⟩
   refine a6 pAd ?_
   exact hn4 ((IntKind.wrap .i64 (U7+1)),aw) _ _ h (((av.bring 2).bring 2).bring 2)
  ·exact hx1 _ _ (hj1 m H _ (((I.bring 2).bring 2).bring 2) h)
def z8(J1:(List c8))(H:Hp)(K:Sl→Hp→Prop):Prop:=
 ∀(s6:Sl)(a:Hp),Hle H a→SlH a 1 o0 s6 J1→NewS H a 91 1 s6→
 K s6 a
def A0(U3:Sl)(a1B:Int)(i5:(List c8))(i4:Int)(H:Hp)(n2:((List c8)×Int)→Hp→Prop)(K:Sl→Hp→Prop):Prop:=
 (i4 < a1B→
 (0:Int)≤i4∧(i4:Int) < U3.n∧∃a:b8,EltH H U3 i4 4 (c7 a)∧
 a4s a H (fun b c=>
 (i5.length+([b]:List c8).length)*17≤140737488355328∧
 n2 ((i5++[b]),(IntKind.wrap .i64 (i4+1))) c))∧
 (¬(i4 < a1B)→
 z8 i5 H K)
def E9(x0:Sl)(H:Hp)(K:Sl→Hp→Prop):Prop:=
 TL (([],0):(List c8)×Int) H fun(s:(List c8)×Int) H n2=>A0 x0 (x0.n:Int) s.1 s.2 H n2 K
theorem a0B(x0){H K}(h:E9 x0 H K):t6 x0 H K:=by
 refine Ct.of fun w0 w ps0 H0 R E I hR=>b9r ?_
 unfold E9 at h
 unfold F93
 have hj1:∀(J1:(List c8))(s6:Sl)(Fs5j1:Frag) H w (_:RowL 91 1 o0 s6 J1 Fs5j1) (_:Inv w0 ps0 H0 H [Fs5j1] w) (_:z8 J1 H K),b2e (vs s6) w R E:=by
  intro J1 s6 Fs5j1 H w a3H I h
  unfold b2e
  intro _
  unfold z8 at h
  obtain ⟨j,q,r,t,u⟩:=Inv.freezeN I a3H (by decide)
  replace h:=h s6 j r t u
  exact hR _ j _ _ q ⟨s6,rfl,rfl,h⟩
 refine m7 fun j1 hx1=>?_
 refine a6 (B0 _ _ _) ?_
 obtain ⟨f,d,v,y⟩:=h
 refine T1 (J:=fun n l w=>∃(s:(List c8)×Int)(H:Hp)(J2:Sl)(Fs5l2:Frag),n=d s∧l=(match s with | (i5,i4)=>[(vs J2),(vi i4)])∧(match s with | (i5,i4)=>RowL 91 1 o0 J2 i5 Fs5l2)∧(match s with | (i5,i4)=>Inv w0 ps0 H0 H [Fs5l2] w)∧f s H) ⟨_,([],0),H,(Sl.mk none 0 0),[],rfl,rfl,(RowL.nil L9 O4),I.nil,v⟩ ?_
 rintro am an w next2 ⟨⟨i5,i4⟩,H,J2,Fs5l2,rfl,g,T6,I,z⟩ hn2
 dsimp only at g I T6
 simp only [List.map_cons,List.map_nil,List.cons.injEq,and_true] at g
 obtain ⟨e5,e10⟩:=g
 simp only [e5,e10]
 obtain ⟨n2,hm2,h⟩:∃n2:((List c8)×Int)→Hp→Prop,(∀s' H',n2 s' H'→f s' H'∧d s' < d (i5,i4))∧A0 x0 (x0.n:Int) i5 i4 H n2 K:=⟨_,fun _ _ h=>h,y (i5,i4) H (fun s' H'=>f s' H'∧d s' < d (i5,i4)) z (fun _ _ a b=>⟨a,b⟩)⟩
 unfold b5q
 unfold A0 at h
 refine a6 pLs ?_
 refine d3 h (fun _ h=>?_) (fun _ h=>?_)
 ·obtain ⟨aa,ab,k,i,h⟩:=h
  obtain ⟨ao,ap,ac,i⟩:=i
  refine a6 (O3 ac _ _ _ _ aa ab) (b6 (ldA (vs:=(c7 k)) Tryd.isAgg41 Tryd.sizeOf41 rfl (I.atH i)) ?_)
  refine u4 I Tryd.zeroValue41 (cs:=[(vi 0),(vi 0),(eS),(nS)]) rfl fun aq ar ad au=>?_
  refine D5 ad Tryd.sizeOf41 (vs:=(c7 k)) fun av m aw=>?_
  refine b6 (lW Tryd.isAgg41 Tryd.sizeOf41 rfl m) ?_
  refine d7 Tryd.call94 h m ?_
  rintro _ ae _ ax af _ _ ⟨o,rfl,rfl,h⟩
  refine a1y (e:=91) (c:=o0) (xs:=[o]) af (a6J _) rfl rfl L9 O4 (nb rfl) fun ay az ba ag p bb=>?_
  obtain ⟨ah,h⟩:=h
  refine a7H (s:=J2) (xs:=i5) (p.bring 2) T6 (ag.srcO ((p.bring 2).bring 1)) ah fun ai aj bc ak al bd=>?_
  refine a6 pAd ?_
  exact hn2 _ _ _ (hm2 _ _ h).2 ⟨((i5++[o]),(IntKind.wrap .i64 (i4+1))),ae,ai,aj,rfl,rfl,ak,((al.bring 1).drop.bring 1).drop,(hm2 _ _ h).1⟩
 ·exact hx1 _ _ (hj1 i5 J2 Fs5l2 H _ T6 I h)
def a2N(x0:b9)(H:Hp)(K:c8→Hp→Prop):Prop:=
 K (c8.K1 (P1.mk x0)) H
theorem a7k(x0){H K}(h:a2N x0 H K):a4t x0 H K:=by
 refine Ct.of fun w0 w ps0 H0 R E I hR=>b7h ?_
 unfold a2N at h
 unfold b9y
 refine B2 I (cs:=(c9 x0)) rfl fun b c a d=>?_
 refine b6 (lW Tryd.isAgg77 Tryd.sizeOf77 rfl a) (a6 (b0O _ _ _ _ _ _ _ _) (a6 (b0n (P1.mk x0)) ?_))
 exact hR _ H _ _ a.drop ⟨(c8.K1 (P1.mk x0)),rfl,rfl,h⟩
def M3(a8j:Bool)(a:i8)(b:P1)(H:Hp)(K:Bool→Hp→Prop):Prop:=
 (a8j=true→
 K (decide (a.fexprs=0∧a.fparts=2)) H)∧
 (a8j=false→
 K false H)
def M4(a3J:Int)(a8k:Bool)(a:i8)(b:P1)(H:Hp)(K:Bool→Hp→Prop):Prop:=
 (a8k=true→
 K (decide (a.fexprs=0∧a.fparts=0)) H)∧
 (a8k=false→
 (a3J=4→
 K (decide (a.fexprs=0∧a.fparts=1)) H)∧
 (¬(a3J=4)→
 (a3J=5→
 M3 (decide (a3J=5)) a b H K)∧
 (¬(a3J=5)→
 M3 (decide (a3J=6)) a b H K)))
def a1X(x0:P1)(H:Hp)(K:Bool→Hp→Prop):Prop:=
 (x0.m6.b7=3→
 K (((decide (1≤x0.m6.fOp))&&(decide (x0.m6.fOp≤6)))&&(decide ((x0.m6.d5.n:Int)=2∧(x0.m6.q6.n:Int)=0))) H)∧
 (¬(x0.m6.b7=3)→
 (¬(x0.m6.fOp=0)→
 K false H)∧
 (x0.m6.fOp=0→
 (x0.m6.b7=1→
 M4 x0.m6.b7 (decide (x0.m6.b7=1)) (i8.mk (x0.m6.d5.n:Int) (x0.m6.q6.n:Int)) x0 H K)∧
 (¬(x0.m6.b7=1)→
 M4 x0.m6.b7 (decide (x0.m6.b7=2)) (i8.mk (x0.m6.d5.n:Int) (x0.m6.q6.n:Int)) x0 H K)))
theorem a6f(x0){H K}(h:a1X x0 H K):a1P x0 H K:=by
 refine Ct.of fun w0 w ps0 H0 R E I hR=>b7i ?_
 unfold a1X at h
 unfold b9z
 refine B2 I (cs:=(c9 x0.m6)) rfl fun e i d j=>?_
 refine a6 a0F (a6 G8 (b6 (l1 Tryd.isAgg39 d rfl) (a6 (B0 _ _ _) (a6 a0F ?_))))
 refine a6 G9 (b6 (l1 Tryd.isAgg47 d rfl) (a6 (K2 _ _ _) (a6 (a3G _ _) ?_)))
 refine u4 d Tryd.zeroValue152 (cs:=[(vi 0),(vi 0)]) rfl fun c k f l=>?_
 refine D5 f Tryd.sizeOf152 (vs:=[(vi (x0.m6.d5.n:Int)),(vi (x0.m6.q6.n:Int))]) fun m b p=>?_
 refine a6 a0F (a6 a1e (b6 (l1 Tryd.isAgg3 (b.bring 1) rfl) (a6 pEq ?_)))
 refine d3 h (fun _ h=>?_) (fun _ h=>?_)
 ·refine a6 a0F (a6 Y3 (b6 (l1 Tryd.isAgg3 (b.bring 1) rfl) (a6 pGe ?_)))
  refine a6 (Pu.g fun a=>by with_reducible exact a0F) ?_
  refine a6 (Pu.g fun a=>by simp only [d2 a];with_reducible exact Y3) ?_
  refine b6 (Ld.g fun a=>by simp only [d2 a];exact (l1 Tryd.isAgg3 (b.bring 1) rfl)) ?_
  refine a6 (Pu.g fun a=>by simp only [d2 a];with_reducible exact pLe) ?_
  refine a6 (m9 _ _) ?_
  refine b6 (Ld.g fun a=>by exact (ldA Tryd.isAgg152 Tryd.sizeOf152 rfl (b.at1 (o:=0) (vs:=[(vi (x0.m6.d5.n:Int)),(vi (x0.m6.q6.n:Int))]) (nb rfl) rfl))) ?_
  refine a6 (Pu.g fun a=>by with_reducible exact (a3G _ _)) ?_
  refine a6 (Pu.g fun a=>by simp only [d2 a];with_reducible exact (a6i _ _ _ _ _ _)) ?_
  refine a6 (m9 _ _) ?_
  exact hR _ H _ _ b.drop.drop ⟨(((decide (1≤x0.m6.fOp))&&(decide (x0.m6.fOp≤6)))&&(decide ((x0.m6.d5.n:Int)=2∧(x0.m6.q6.n:Int)=0))),rfl,rfl,h⟩
 ·refine a6 a0F (a6 Y3 (b6 (l1 Tryd.isAgg3 (b.bring 1) rfl) (a6 pNe ?_)))
  refine a0m h (fun _ h=>?_) (fun _ h=>?_)
  ·exact hR _ H _ _ b.drop.drop ⟨false,rfl,rfl,h⟩
  ·refine a6 a0F (a6 a1e (b6 (l1 Tryd.isAgg3 (b.bring 1) rfl) ?_))
   have hj1:∀(a8k:Bool) H w (_:Inv w0 ps0 H0 H [bx c 152 [(vi (i8.mk (x0.m6.d5.n:Int) (x0.m6.q6.n:Int)).fexprs),(vi (i8.mk (x0.m6.d5.n:Int) (x0.m6.q6.n:Int)).fparts)],bx e 149 (c9 x0.m6)] w) (_:M4 x0.m6.b7 a8k (i8.mk (x0.m6.d5.n:Int) (x0.m6.q6.n:Int)) x0 H K),a9A (Value.pointer (some ⟨c,0,none⟩)) (vi x0.m6.b7) (vB a8k) w R E:=by
    intro a8k H w I h
    unfold a9A
    intro _
    unfold M4 at h
    refine f7 h (fun _ h=>?_) (fun _ h=>?_)
    ·refine b6 (ldA Tryd.isAgg152 Tryd.sizeOf152 rfl (I.at1 (o:=0) (vs:=[(vi (i8.mk (x0.m6.d5.n:Int) (x0.m6.q6.n:Int)).fexprs),(vi (i8.mk (x0.m6.d5.n:Int) (x0.m6.q6.n:Int)).fparts)]) (nb rfl) rfl)) (a6 (b3w) (a6 (a6i _ _ _ _ _ _) ?_))
     exact hR _ H _ _ I.drop.drop ⟨(decide ((i8.mk (x0.m6.d5.n:Int) (x0.m6.q6.n:Int)).fexprs=0∧(i8.mk (x0.m6.d5.n:Int) (x0.m6.q6.n:Int)).fparts=0)),rfl,rfl,h⟩
    ·refine a6 pEq ?_
     refine d3 h (fun _ h=>?_) (fun _ h=>?_)
     ·refine b6 (ldA Tryd.isAgg152 Tryd.sizeOf152 rfl (I.at1 (o:=0) (vs:=[(vi (i8.mk (x0.m6.d5.n:Int) (x0.m6.q6.n:Int)).fexprs),(vi (i8.mk (x0.m6.d5.n:Int) (x0.m6.q6.n:Int)).fparts)]) (nb rfl) rfl)) (a6 (a3G _ _) (a6 (a6i _ _ _ _ _ _) ?_))
      exact hR _ H _ _ I.drop.drop ⟨(decide ((i8.mk (x0.m6.d5.n:Int) (x0.m6.q6.n:Int)).fexprs=0∧(i8.mk (x0.m6.d5.n:Int) (x0.m6.q6.n:Int)).fparts=1)),rfl,rfl,h⟩
     ·have hj2:∀(a8j:Bool) H w (_:Inv w0 ps0 H0 H [bx c 152 [(vi (i8.mk (x0.m6.d5.n:Int) (x0.m6.q6.n:Int)).fexprs),(vi (i8.mk (x0.m6.d5.n:Int) (x0.m6.q6.n:Int)).fparts)],bx e 149 (c9 x0.m6)] w) (_:M3 a8j (i8.mk (x0.m6.d5.n:Int) (x0.m6.q6.n:Int)) x0 H K),a9z (Value.pointer (some ⟨c,0,none⟩)) (vB a8j) w R E:=by
       intro a8j H w I h
       unfold a9z
       intro _
       unfold M3 at h
       refine f7 h (fun _ h=>?_) (fun _ h=>?_)
       ·refine b6 (ldA Tryd.isAgg152 Tryd.sizeOf152 rfl (I.at1 (o:=0) (vs:=[(vi (i8.mk (x0.m6.d5.n:Int) (x0.m6.q6.n:Int)).fexprs),(vi (i8.mk (x0.m6.d5.n:Int) (x0.m6.q6.n:Int)).fparts)]) (nb rfl) rfl)) (a6 (a3G _ _) (a6 (a6i _ _ _ _ _ _) ?_))
        exact hR _ H _ _ I.drop.drop ⟨(decide ((i8.mk (x0.m6.d5.n:Int) (x0.m6.q6.n:Int)).fexprs=0∧(i8.mk (x0.m6.d5.n:Int) (x0.m6.q6.n:Int)).fparts=2)),rfl,rfl,h⟩
       ·exact hR _ H _ _ I.drop.drop ⟨false,rfl,rfl,h⟩
      refine m7 fun j2 hx2=>?_
      refine a6 pEq ?_
      refine d3 h (fun _ h=>?_) (fun _ h=>?_)
      ·exact hx2 _ _ (hj2 (decide (x0.m6.b7=5)) H _ ((I.bring 1).bring 1) h)
      ·refine a6 pEq ?_
       exact hx2 _ _ (hj2 (decide (x0.m6.b7=6)) H _ ((I.bring 1).bring 1) h)
   refine m7 fun j1 hx1=>?_
   refine a6 pEq ?_
   refine d3 h (fun _ h=>?_) (fun _ h=>?_)
   ·exact hx1 _ _ (hj1 (decide (x0.m6.b7=1)) H _ ((b.bring 1).bring 1) h)
   ·refine a6 pEq ?_
    exact hx1 _ _ (hj1 (decide (x0.m6.b7=2)) H _ ((b.bring 1).bring 1) h)
def a1J(x0:P1)(H:Hp)(K:Sl→Hp→Prop):Prop:=
 t6 x0.m6.d5 H (fun d e=>
 A9 x0.m6.q6 e (fun f c=>
 ∀(b:Sl)(a:Hp),Hle c a→SlH a 1 csl b [d,f]→NewS c a 72 1 b→
 A4 b a (fun g i=>
 K g i)))
theorem a5Z(x0){H K}(h:a1J x0 H K):a3t x0 H K:=by
 refine Ct.of fun w0 w ps0 H0 R E I hR=>b7j ?_
 unfold a1J at h
 unfold b9A
 refine B2 I (cs:=(c9 x0.m6)) rfl fun v y b z=>?_
 refine a0l b fun aa a=>?_
 refine g8 a0F ?_
 refine g8 G8 ?_
 refine g8 a0F ?_
 refine g8 G9 ?_
 refine r6 (l1 Tryd.isAgg39 a rfl) ?_
 refine r6 (l1 Tryd.isAgg47 a rfl) ?_
 refine d7 Tryd.call93 h a ?_
 rintro _ _ _ ab d _ f ⟨g,rfl,rfl,h⟩
 refine ⟨(f _ a.lt1 (Inv.Y0 (Fi:=[]) a)),?_⟩
 refine d7 Tryd.call99 h d ?_
 rintro _ _ _ ac i _ _ ⟨j,rfl,rfl,h⟩
 refine a1y (e:=72) (c:=csl) (xs:=[g,j]) i (b0J _ _ _ _ _ _) rfl rfl b0q b0r (nb rfl) fun k ad ae l m af=>?_
 obtain ⟨n,o,p,q,r⟩:=Inv.freezeN m l (by decide)
 replace h:=h k n p q r
 refine d7 Tryd.call49 h o ?_
 rintro _ s _ ag t _ _ ⟨u,rfl,rfl,h⟩
 exact hR _ s _ _ t.drop ⟨u,rfl,rfl,h⟩
end Go.Proofs.YtpgelfheccpejaaDoor
