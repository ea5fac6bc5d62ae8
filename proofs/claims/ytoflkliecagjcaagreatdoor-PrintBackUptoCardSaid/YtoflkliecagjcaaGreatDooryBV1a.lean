/- Typed formulas of the program's functions, and the theorems that the contracts follow from them; printed by lift.py off the code. -/
import Derived.Test.YtoflkliecagjcaaGreatDooryBV1
namespace Go.Proofs.YtoflkliecagjcaaGreatDoor
open Go.RowKit
set_option maxRecDepth 100000
set_option maxHeartbeats 2000000
def H9(V5:(List d8))(H:Hp)(K:Sl→Hp→Prop):Prop:=
 ∀(G1:Sl)(a:Hp),Hle H a→SlH a 1 s8 G1 V5→G1.n≤G1.c→
 K G1 a
def I0(E0:Sl)(a4S:Int)(v7:(List d8))(u4:Int)(H:Hp)(n2:((List d8)×Int)→Hp→Prop)(K:Sl→Hp→Prop):Prop:=
 (u4 < a4S→
 (0:Int)≤u4∧(u4:Int) < E0.n∧∃a:i6,EltH H E0 u4 2 (u1 a)∧
 a6H a H (fun b c=>
 (v7.length+([b]:List d8).length)*17≤140737488355328∧
 n2 ((v7++[b]),(IntKind.wrap .i64 (u4+1))) c))∧
 (¬(u4 < a4S)→
 H9 v7 H K)
def S3(x0:Sl)(H:Hp)(K:Sl→Hp→Prop):Prop:=
 TL (([],0):(List d8)×Int) H fun(s:(List d8)×Int) H n2=>I0 x0 (x0.n:Int) s.1 s.2 H n2 K
theorem a0Z(x0){H K}(h:S3 x0 H K):L2 x0 H K:=by
 refine Ct.of fun w0 w ps0 H0 R E I hR=>d1f ?_
 have hj1:∀(V5:(List d8))(G1:Sl)(Fs5j1:Frag) H w (_:RowL 107 1 s8 G1 V5 Fs5j1) (_:Inv w0 ps0 H0 H [Fs5j1] w) (_:H9 V5 H K),c3u (vs G1) w R E:=by
  intro V5 G1 Fs5j1 H w a8W I h
  intro _
  obtain ⟨j,q,r,t,u⟩:=Inv.freezeC I a8W (by decide)
  replace h:=h G1 j r t u
  exact hR _ j _ _ q ⟨_,rfl,rfl,h⟩
 refine u2 fun j1 hx1=>?_
 refine a7 (a7Z _ _ _) ?_
 obtain ⟨f,d,v,y⟩:=h
 refine R1 (J:=fun n l w=>∃(s:(List d8)×Int)(H:Hp)(V6:Sl)(Fs5l2:Frag),n=d s∧l=(match s with | (v7,u4)=>[(vs V6),(vi u4)])∧(match s with | (v7,u4)=>RowL 107 1 s8 V6 v7 Fs5l2)∧(match s with | (v7,u4)=>Inv w0 ps0 H0 H [Fs5l2] w)∧f s H) ⟨_,([],0),H,(Sl.mk none 0 0),[],rfl,rfl,(RowL.nil Q1 S1),I.nil,v⟩ ?_
 rintro am an w next2 ⟨⟨v7,u4⟩,H,V6,Fs5l2,rfl,g,a2g,I,z⟩ hn2
 dsimp only at g I a2g
 simp only [List.map_cons,List.map_nil,List.cons.injEq,and_true] at g
 obtain ⟨e5,e10⟩:=g
 simp only [e5,e10]
 obtain ⟨n2,hm2,h⟩:∃n2:((List d8)×Int)→Hp→Prop,(∀s' H',n2 s' H'→f s' H'∧d s' < d (v7,u4))∧I0 x0 (x0.n:Int) v7 u4 H n2 K:=⟨_,fun _ _ h=>h,y (v7,u4) H (fun s' H'=>f s' H'∧d s' < d (v7,u4)) z (fun _ _ a b=>⟨a,b⟩)⟩
 refine a7 pLs ?_
 refine j7 h (fun _ h=>?_) (fun _ h=>?_)
 ·obtain ⟨aa,ab,k,i,h⟩:=h
  obtain ⟨ao,ap,ac,i⟩:=i
  refine a7 (b0Y ac _ _ _ _ aa ab) (b8 (ldA (vs:=(u1 k)) Tryz.isAgg49 Tryz.sizeOf49 rfl (I.atH i)) ?_)
  refine r7 I Tryz.zeroValue49 (cs:=[(eS),(vi 0)]) rfl fun aq ar ad au=>?_
  refine A9 ad Tryz.sizeOf49 (vs:=(u1 k)) fun av m aw=>?_
  refine b8 (lW Tryz.isAgg49 Tryz.sizeOf49 rfl m) ?_
  refine g6 Tryz.call53 h m ?_
  rintro _ ae _ ax af _ _ ⟨o,rfl,rfl,h⟩
  refine O4 (e:=107) (c:=s8) (xs:=[o]) af (a9p _) rfl rfl Q1 S1 (nb rfl) fun ay az ba ag p bb=>?_
  obtain ⟨ah,h⟩:=h
  refine b0z (s:=V6) (xs:=v7) (p.bring 2) a2g (ag.srcO ((p.bring 2).bring 1)) ah fun ai aj bc ak al bd=>?_
  refine a7 pAd ?_
  exact hn2 _ _ _ (hm2 _ _ h).2 ⟨((v7++[o]),(IntKind.wrap .i64 (u4+1))),ae,ai,aj,rfl,rfl,ak,((al.bring 1).drop.bring 1).drop,(hm2 _ _ h).1⟩
 ·exact hx1 _ _ (hj1 v7 V6 Fs5l2 H _ a2g I h)
def N2(d6L:Sl)(b0l:Int)(d6M:Sl)(d6H:Int)(d4e:Int)(H:Hp)(n4:(Int×Int)→Hp→Prop)(K:Sl→Hp→Prop):Prop:=
 n4 (b0l,(IntKind.wrap .i64 (d4e+1))) H
def N3(b4U:(List d8))(H:Hp)(K:Sl→Hp→Prop):Prop:=
 ∀(a8X:Sl)(a:Hp),Hle H a→SlH a 1 s8 a8X b4U→a8X.n≤a8X.c→
 K a8X a
def N4(c7r:Sl)(c7s:Int)(a4g:(List d8))(a3F:Int)(H:Hp)(n3:((List d8)×Int)→Hp→Prop)(K:Sl→Hp→Prop):Prop:=
 (a3F < c7s→
 (0:Int)≤a3F∧(a3F:Int) < c7r.n∧∃b:Sl,EltH H c7r a3F 1 [(vs b)]∧
 ∃a:List d8,SlH H 1 s8 b a∧(a4g.length+a.length)*17≤140737488355328∧
 n3 ((a4g++a),(IntKind.wrap .i64 (a3F+1))) H)∧
 (¬(a3F < c7s)→
 N3 a4g H K)
def N5(d1Z:Sl)(a3v:Int)(H:Hp)(K:Sl→Hp→Prop):Prop:=
 S7 a3v H (fun a b=>
 TL ((a,0):(List d8)×Int) b fun(s:(List d8)×Int) H n3=>N4 d1Z (d1Z.n:Int) s.1 s.2 H n3 K)
def T8(d2a:Sl)(c5C:Sl)(c1Q:Int)(b0m:Int)(a5u:Int)(H:Hp)(n4:(Int×Int)→Hp→Prop)(K:Sl→Hp→Prop):Prop:=
 (a5u < c1Q→
 (0:Int)≤a5u∧(a5u:Int) < c5C.n∧∃a:Sl,EltH H c5C a5u 1 [(vs a)]∧
 ((IntKind.wrap .i64 (b0m+(a.n:Int))) < 0→
 False)∧
 (¬((IntKind.wrap .i64 (b0m+(a.n:Int))) < 0)→
 N2 d2a (IntKind.wrap .i64 (b0m+(a.n:Int))) c5C c1Q a5u H n4 K))∧
 (¬(a5u < c1Q)→
 N5 d2a b0m H K)
def V9(x0:Sl)(H:Hp)(K:Sl→Hp→Prop):Prop:=
 TL ((0,0):Int×Int) H fun(s:Int×Int) H n4=>T8 x0 x0 (x0.n:Int) s.1 s.2 H n4 K
theorem a2t(x0){H K}(h:V9 x0 H K):D1 x0 H K:=by
 refine Ct.of fun w0 w ps0 H0 R E I hR=>d1d ?_
 have hj1:∀(a3v:Int) H w (_:Inv w0 ps0 H0 H [] w) (_:N5 x0 a3v H K),c3s (vs x0) (vi a3v) w R E:=by
  intro a3v H w I h
  intro _
  refine g6 Tryz.call78 h I ?_
  rintro _ m _ au o _ _ ⟨p,q,r,rfl,rfl,t,h⟩
  have hj2:∀(b4U:(List d8))(a8X:Sl)(Fs6j2:Frag) H w (_:RowL 107 1 s8 a8X b4U Fs6j2) (_:Inv w0 ps0 H0 H [Fs6j2] w) (_:N3 b4U H K),c3r (vs a8X) w R E:=by
   intro b4U a8X Fs6j2 H w d4f I h
   intro _
   obtain ⟨j,u,y,z,aa⟩:=Inv.freezeC I d4f (by decide)
   replace h:=h a8X j y z aa
   exact hR _ j _ _ u ⟨_,rfl,rfl,h⟩
  refine u2 fun j2 hx2=>?_
  refine a7 (b4P _ _ _) ?_
  obtain ⟨d,c,ab,ac⟩:=h
  refine R1 (J:=fun n l w=>∃(s:(List d8)×Int)(H:Hp)(b4V:Sl)(Fs6l3:Frag),n=c s∧l=(match s with | (a4g,a3F)=>[(vs b4V),(vi a3F)])∧(match s with | (a4g,a3F)=>RowL 107 1 s8 b4V a4g Fs6l3)∧(match s with | (a4g,a3F)=>Inv w0 ps0 H0 H [Fs6l3] w)∧d s H) ⟨_,(p,0),m,q,r,rfl,rfl,t,o,ab⟩ ?_
  rintro av aw w next3 ⟨⟨a4g,a3F⟩,H,b4V,Fs6l3,rfl,e,c1R,I,ad⟩ hn3
  dsimp only at e I c1R
  simp only [List.map_cons,List.map_nil,List.cons.injEq,and_true] at e
  obtain ⟨e6,e27⟩:=e
  simp only [e6,e27]
  obtain ⟨n3,hm3,h⟩:∃n3:((List d8)×Int)→Hp→Prop,(∀s' H',n3 s' H'→d s' H'∧c s' < c (a4g,a3F))∧N4 x0 (x0.n:Int) a4g a3F H n3 K:=⟨_,fun _ _ h=>h,ac (a4g,a3F) H (fun s' H'=>d s' H'∧c s' < c (a4g,a3F)) ad (fun _ _ a b=>⟨a,b⟩)⟩
  refine a7 pLs ?_
  refine j7 h (fun _ h=>?_) (fun _ h=>?_)
  ·obtain ⟨ae,af,ag,f,h⟩:=h
   obtain ⟨ax,ay,ah,f⟩:=f
   refine a7 (b6B ah _ _ _ _ ae af) (b8 (ld1 (v:=(vs ag)) Tryz.isAgg101 (I.atH f)) ?_)
   obtain ⟨ai,aj,h⟩:=h
   obtain ⟨ak,h⟩:=h
   refine b0z (s:=b4V) (xs:=a4g) I c1R (SlH.src I aj Q1) ak fun al am az an ao ba=>?_
   refine a7 pAd ?_
   exact hn3 _ _ _ (hm3 _ _ h).2 ⟨((a4g++ai),(IntKind.wrap .i64 (a3F+1))),H,al,am,rfl,rfl,an,ao,(hm3 _ _ h).1⟩
  ·exact hx2 _ _ (hj2 a4g b4V Fs6l3 H _ c1R I h)
 refine u2 fun j1 hx1=>?_
 refine a7 (b4P _ _ _) ?_
 refine a2x (σ:=Int×Int) (fun (b0m,a5u)=>[(vi b0m),(vi a5u)]) (fun (b0m,a5u)=>[]) h rfl I ?_
 rintro ⟨b0m,a5u⟩ H bb w next4 n4 g I h hn4
 dsimp only at g I h
 simp only [List.map_cons,List.map_nil,List.cons.injEq,and_true] at g
 obtain ⟨e3,e11⟩:=g
 simp only [e3,e11]
 refine a7 pLs ?_
 refine j7 h (fun _ h=>?_) (fun _ h=>?_)
 ·have hj5:∀(b0l:Int) H w (_:Inv w0 ps0 H0 H [] w) (_:N2 x0 b0l x0 (x0.n:Int) a5u H n4 K),c3t (vs x0) (vi b0l) (vs x0) (vi (x0.n:Int)) (vi a5u) w next4 R E:=by
   intro b0l H w I h
   intro _
   refine a7 pAd ?_
   exact hn4 (b0l,(IntKind.wrap .i64 (a5u+1))) _ _ h I
  refine u2 fun j5 hx5=>?_
  obtain ⟨ap,aq,k,i,h⟩:=h
  obtain ⟨bc,bd,ar,i⟩:=i
  refine a7 (b6B ar _ _ _ _ ap aq) (b8 (ld1 (v:=(vs k)) Tryz.isAgg101 (I.atH i)) (a7 (a8V _ _ _) (a7 pAd (a7 pLs ?_))))
  refine j7 h (fun _ h=>?_) (fun _ h=>?_)
  ·refine a7 (c2U _) ?_
   exact h.elim
  ·exact hx5 _ _ (hj5 (IntKind.wrap .i64 (b0m+(k.n:Int))) H _ I h)
 ·exact hx1 _ _ (hj1 b0m H _ I h)
def a8c(x0:d8)(H:Hp)(K:ByteArray→Bool→Hp→Prop):Prop:=
 (x0.a5j=true→
 K x0.a2r.a0I.o8 true H)∧
 (x0.a5j=false→
 (x0.a5k=true→
 K x0.z6.m0.o8 ((decide (x0.z6.m0.d6=1))||(decide (x0.z6.m0.d6=2))) H)∧
 (x0.a5k=false→
 (x0.a5i=true→
 K x0.H8.y7.o8 ((decide (x0.H8.y7.d6=2))||(decide (x0.H8.y7.d6=4))) H)∧
 (x0.a5i=false→
 K ⟨#[]⟩ false H)))
theorem b2j(x0){H K}(h:a8c x0 H K):a1w x0 H K:=by
 refine Ct.of fun w0 w ps0 H0 R E I hR=>c8e ?_
 refine a7 (b7q x0) (a7 (j9 _ _ (vB x0.a5j) rfl) (a7 (j9 _ _ _ rfl) ?_))
 refine p6 h (fun _ h=>?_) (fun _ h=>?_)
 ·refine r7 I Tryz.zeroValue143 (cs:=[(eS),(vi 0)]) rfl fun n o e q=>?_
  refine A9 e Tryz.sizeOf143 (vs:=[(Value.string x0.a2r.a0I.o8),(vi x0.a2r.a0I.D4)]) fun r d s=>?_
  refine a7 b0j (a7 b0Z (b8 (l1 Tryz.isAgg9 d rfl) ?_))
  exact hR _ H _ _ d.drop ⟨x0.a2r.a0I.o8,true,rfl,rfl,h⟩
 ·refine a7 (b7r x0) (a7 (j9 _ _ (vB x0.a5k) rfl) (a7 (j9 _ _ _ rfl) ?_))
  refine p6 h (fun _ h=>?_) (fun _ h=>?_)
  ·refine r7 I Tryz.zeroValue145 (cs:=[(vi 0),(eS),(nS),(nS),(nS),(nS)]) rfl fun f t i u=>?_
   refine A9 i Tryz.sizeOf145 (vs:=[(vi x0.z6.m0.d6),(Value.string x0.z6.m0.o8),(vs x0.z6.m0.p7),(vs x0.z6.m0.C0),(vs x0.z6.m0.P5),(vs x0.z6.m0.O6)]) fun v j y=>?_
   refine T1 j fun z b=>?_
   refine o0 P2 ?_
   refine o0 a2d ?_
   refine o0 P2 ?_
   refine o0 W9 ?_
   refine u7 (l1 Tryz.isAgg9 b rfl) ?_
   refine u7 (l1 Tryz.isAgg3 b rfl) ?_
   refine o0 pEq ?_
   refine o0 (Pu.g fun a=>by with_reducible exact P2) ?_
   refine o0 (Pu.g fun a=>by simp only [o9 a];with_reducible exact W9) ?_
   refine c9U (p:=(Value.pointer (some ⟨f,0,none⟩))) rfl (Ld.g fun a=>by simp only [o9 a];exact (l1 Tryz.isAgg3 b rfl)) ?_
   refine o0 (Pu.g fun a=>by simp only [o9 a];with_reducible exact pEq) ?_
   refine o0 (R9 _ _) ?_
   exact hR _ H _ _ b.drop ⟨x0.z6.m0.o8,((decide (x0.z6.m0.d6=1))||(decide (x0.z6.m0.d6=2))),rfl,rfl,h⟩
  ·refine a7 (b7s x0) (a7 (j9 _ _ (vB x0.a5i) rfl) (a7 (j9 _ _ _ rfl) ?_))
   refine p6 h (fun _ h=>?_) (fun _ h=>?_)
   ·refine r7 I Tryz.zeroValue100 (cs:=[(vi 0),(vi 0),(eS),(nS)]) rfl fun k aa l ab=>?_
    refine A9 l Tryz.sizeOf100 (vs:=[(vi x0.H8.y7.d6),(vi x0.H8.y7.M4),(Value.string x0.H8.y7.o8),(vs x0.H8.y7.N8)]) fun ac m ad=>?_
    refine T1 m fun ae c=>?_
    refine o0 a0d ?_
    refine o0 a5n ?_
    refine o0 a0d ?_
    refine o0 a1i ?_
    refine u7 (l1 Tryz.isAgg9 c rfl) ?_
    refine u7 (l1 Tryz.isAgg3 c rfl) ?_
    refine o0 pEq ?_
    refine o0 (Pu.g fun a=>by with_reducible exact a0d) ?_
    refine o0 (Pu.g fun a=>by simp only [o9 a];with_reducible exact a1i) ?_
    refine c9U (p:=(Value.pointer (some ⟨k,0,none⟩))) rfl (Ld.g fun a=>by simp only [o9 a];exact (l1 Tryz.isAgg3 c rfl)) ?_
    refine o0 (Pu.g fun a=>by simp only [o9 a];with_reducible exact pEq) ?_
    refine o0 (R9 _ _) ?_
    exact hR _ H _ _ c.drop ⟨x0.H8.y7.o8,((decide (x0.H8.y7.d6=2))||(decide (x0.H8.y7.d6=4))),rfl,rfl,h⟩
   ·exact hR _ H _ _ I ⟨⟨#[]⟩,false,rfl,rfl,h⟩
def b0D(x0:Int)(x1:Int)(x2:Int)(H:Hp)(K:Bool→Hp→Prop):Prop:=
 K ((decide (x0≤x2))&&(decide (x2≤x1))) H
theorem b0E(x0 x1 x2){H K}(h:b0D x0 x1 x2 H K):M9 x0 x1 x2 H K:=by
 intro g2
 refine Ct.of fun w0 w ps0 H0 R E I hR=>c8k ?_
 refine b8 (l1 Tryz.isAgg21 I rfl) (a7 pLe ?_)
 refine b8 (Ld.g fun a=>by exact (l1 Tryz.isAgg21 I rfl)) ?_
 simp only [E5]
 refine a7 (Pu.g fun a=>by simp only [o9 a];with_reducible exact pLe) ?_
 refine a7 (D9 _ _) ?_
 exact hR _ H _ _ I ⟨_,rfl,rfl,h⟩
def a7k(x0:Int)(H:Hp)(K:Bool→Hp→Prop):Prop:=
 R8 x0 H (fun a b=>
 K ((decide (a=3))||(decide (a=4))) b)
theorem b1Q(x0){H K}(h:a7k x0 H K):a2J x0 H K:=by
 refine Ct.of fun w0 w ps0 H0 R E I hR=>c8m ?_
 refine g6 Tryz.call93 h I ?_
 rintro _ c _ e d _ _ ⟨b,rfl,rfl,h⟩
 refine a7 pEq ?_
 simp only [E5]
 refine a7 (Pu.g fun a=>by simp only [o9 a];with_reducible exact pEq) ?_
 refine a7 (R9 _ _) ?_
 exact hR _ c _ _ d ⟨_,rfl,rfl,h⟩
def a2h(a7u:Int)(a7v:Int)(a7w:Int)(a7x:Bool)(a7y:Bool)(a6p:(List ByteArray))(H:Hp)(K:Bool→m7→(List ByteArray)→Hp→Prop):Prop:=
 K true (m7.mk a7u a7v a7w a7x a7y (Sl.mk none 0 0)) a6p H
def a2i(a3L:Int)(a4S:Sl)(u4:Int)(a2L:Int)(a1T:Int)(a1U:Int)(a1V:Int)(a1W:Bool)(a1X:Bool)(a0u:(List ByteArray))(H:Hp)(n2:(Int×Int×Int×Int×Bool×Bool×(List ByteArray))→Hp→Prop)(K:Bool→m7→(List ByteArray)→Hp→Prop):Prop:=
 (a2L < u4→
 (0:Int)≤a2L∧(a2L:Int) < a4S.n∧∃c:d8,EltH H a4S a2L 1 [(G6 c)]∧
 a1O (m7.mk a1T a1U a1V a1W a1X (Sl.mk none 0 0)) a0u c a3L H (fun b d e f=>
 TG ((!b)=false) (a3K c f) (Sl.mk none 0 0) f (fun(j:Sl)(g:Hp)=>
 TG ((!b)=false) (fun k_=>Y4 j (IntKind.wrap .i64 (a3L+1)) (a0g d) e g fun k l m H_=>k_ (k,l,m) H_) (false,(a0g d),e) g (fun(a:Bool×m7×(List ByteArray))(i:Hp)=>
 (((!b)||(!a.1))=true→
 K false (m7.mk (a.2.1.fnodes) (a.2.1.fdepth) (a.2.1.fe) (a.2.1.fform) (a.2.1.fnamed) (Sl.mk none 0 0)) a.2.2 i)∧
 (((!b)||(!a.1))=false→
 n2 ((IntKind.wrap .i64 (a2L+1)),(a.2.1.fnodes),(a.2.1.fdepth),(a.2.1.fe),(a.2.1.fform),(a.2.1.fnamed),a.2.2) i)))))∧
 (¬(a2L < u4)→
 a2h a1T a1U a1V a1W a1X a0u H K)
def a5R(x0:Sl)(x1:Int)(x2:m7)(a:(List ByteArray))(H:Hp)(K:Bool→m7→(List ByteArray)→Hp→Prop):Prop:=
 TL ((0,x2.fnodes,x2.fdepth,x2.fe,x2.fform,x2.fnamed,a):Int×Int×Int×Int×Bool×Bool×(List ByteArray)) H fun(s:Int×Int×Int×Int×Bool×Bool×(List ByteArray)) H n2=>a2i x1 x0 (x0.n:Int) s.1 s.2.1 s.2.2.1 s.2.2.2.1 s.2.2.2.2.1 s.2.2.2.2.2.1 s.2.2.2.2.2.2 H n2 K
theorem b0n(x0 x1 x2 ai){H K}(h:a5R x0 x1 x2 ai H K):Y4 x0 x1 x2 ai H K:=by
 intro g2 g2b g3 az ba bb
 refine Ct.of fun w0 w ps0 H0 R E I hR=>d1D ?_
 have hj1:∀(a7u:Int)(a7v:Int)(a7w:Int)(a7x:Bool)(a7y:Bool)(a6p:(List ByteArray))(a9Y:Sl)(a9Z:Frag) H w (_:RowL 9 1 q6 a9Y a6p a9Z) (_:Inv w0 ps0 H0 H [bx g2 70 [(Value.pointer (some ⟨g2b,0,none⟩))],bx g2b 69 [(vi a7u),(vi a7v),(vi a7w),(vB a7x),(vB a7y),(vs a9Y)],bx g3 135 [(Value.func (.func 74) #[] #[(Value.pointer (some ⟨g2,0,none⟩)),(Value.pointer (some ⟨g3,0,none⟩))])],a9Z] w) (_:a2h a7u a7v a7w a7x a7y a6p H K),c3D w R E:=by
  intro a7u a7v a7w a7x a7y a6p a9Y a9Z H w c3P I h
  intro _
  exact hR _ H _ _ ((((I.bring 2).bring 3).bring 3).bring 3) ⟨true,(m7.mk a7u a7v a7w a7x a7y (Sl.mk none 0 0)),a6p,a9Y,a9Z,rfl,rfl,c3P,h⟩
 refine u2 fun j1 hx1=>?_
 refine a7 (a8V _ _ _) ?_
 obtain ⟨aj,z,bc,bd⟩:=h
 refine R1 (J:=fun n l w=>∃(s:Int×Int×Int×Int×Bool×Bool×(List ByteArray))(H:Hp)(a8d:Sl)(a8e:Frag),n=z s∧l=(match s with | (a2L,a1T,a1U,a1V,a1W,a1X,a0u)=>[(vi a2L)])∧(match s with | (a2L,a1T,a1U,a1V,a1W,a1X,a0u)=>RowL 9 1 q6 a8d a0u a8e)∧(match s with | (a2L,a1T,a1U,a1V,a1W,a1X,a0u)=>Inv w0 ps0 H0 H [bx g2 70 [(Value.pointer (some ⟨g2b,0,none⟩))],bx g2b 69 [(vi a1T),(vi a1U),(vi a1V),(vB a1W),(vB a1X),(vs a8d)],bx g3 135 [(Value.func (.func 74) #[] #[(Value.pointer (some ⟨g2,0,none⟩)),(Value.pointer (some ⟨g3,0,none⟩))])],a8e] w)∧aj s H) ⟨_,(0,x2.fnodes,x2.fdepth,x2.fe,x2.fform,x2.fnamed,ai),H,az,ba,rfl,rfl,bb,((((I.bring 2).bring 3).bring 3).bring 3),bc⟩ ?_
 rintro bj bk w next2 ⟨⟨a2L,a1T,a1U,a1V,a1W,a1X,a0u⟩,H,a8d,a8e,rfl,ak,b2k,I,be⟩ hn2
 dsimp only at ak I b2k
 simp only [List.map_cons,List.map_nil,List.cons.injEq,and_true] at ak
 have e11:=ak
 simp only [e11]
 obtain ⟨n2,hm2,h⟩:∃n2:(Int×Int×Int×Int×Bool×Bool×(List ByteArray))→Hp→Prop,(∀s' H',n2 s' H'→aj s' H'∧z s' < z (a2L,a1T,a1U,a1V,a1W,a1X,a0u))∧a2i x1 x0 (x0.n:Int) a2L a1T a1U a1V a1W a1X a0u H n2 K:=⟨_,fun _ _ h=>h,bd (a2L,a1T,a1U,a1V,a1W,a1X,a0u) H (fun s' H'=>aj s' H'∧z s' < z (a2L,a1T,a1U,a1V,a1W,a1X,a0u)) be (fun _ _ a b=>⟨a,b⟩)⟩
 refine a7 pLs ?_
 refine j7 h (fun _ h=>?_) (fun _ h=>?_)
 ·obtain ⟨bf,bg,bh,al,h⟩:=h
  obtain ⟨bl,bm,bi,al⟩:=al
  refine a7 (c2T bi _ _ _ _ bf bg) (b8 (ld1 (v:=(G6 bh)) Tryz.isAgg107 (I.atH al)) ?_)
  refine T1 I fun bn ao=>?_
  refine u7 (l1 Tryz.isAgg70 ao rfl) ?_
  refine g6 Tryz.call75 (h g2b a8d a8e b2k) ((ao.bring 3).bring 2) ?_
  rintro _ ap _ aq o _ _ ⟨p,aa,am,ac,ad,rfl,rfl,ar,h⟩
  refine o0 (T6 _) ?_
  simp only [E5]
  refine o0 (Pu.g fun c=>by simp only [o9 c];with_reducible exact pAd) ?_
  refine u7 (Ld.g fun c=>by exact (l1 Tryz.isAgg135 (o.bring 3) rfl)) ?_
  refine b2e (D:=fun au u=>∃(ab:Sl)(k:Hp),au=(gv (!p) false (vs ab))∧(Inv w0 ps0 H0 k [bx g2b 69 (a0U aa ac),ad,bx g2 70 [(Value.pointer (some ⟨g2b,0,none⟩))],bx g3 135 [(Value.func (.func 74) #[] #[(Value.pointer (some ⟨g2,0,none⟩)),(Value.pointer (some ⟨g3,0,none⟩))])]] u)∧(∀i,i < aq.heap.size→¬inF [] i→u.heap[i]? = aq.heap[i]?)∧Hle ap k∧(TG ((!p)=false) (fun k_=>Y4 ab (IntKind.wrap .i64 (x1+1)) (a0g aa) am k fun m d j H_=>k_ (m,d,j) H_) (false,(a0g aa),am) k (fun(e:Bool×m7×(List ByteArray))(f:Hp)=>
 (((!p)||(!e.1))=true→
 K false (m7.mk (e.2.1.fnodes) (e.2.1.fdepth) (e.2.1.fe) (e.2.1.fform) (e.2.1.fnamed) (Sl.mk none 0 0)) e.2.2 f)∧
 (((!p)||(!e.1))=false→
 n2 ((IntKind.wrap .i64 (a2L+1)),(e.2.1.fnodes),(e.2.1.fdepth),(e.2.1.fe),(e.2.1.fform),(e.2.1.fnamed),e.2.2) f)))) (fun y=>?_) (fun y=>?_) ?_
  ·replace h:=h.1 y
   have c:=y
   simp only [o9 c]
   refine b0k o h (fun ab k u ae av an h=>?_)
   exact ⟨ab,k,by rfl,ae,an,av,h⟩
  ·exact ⟨(Sl.mk none 0 0),ap,by rw [b5N y],o,fun _ _ _=>rfl,Hle.refl _,h.2 y⟩
  ·clear h
   rintro au u ⟨ab,k,rfl,ae,an,av,h⟩
   refine ⟨(an _ (o.bring 3).lt1 (Inv.a1Y (Fi:=[]) (o.bring 3))),?_⟩
   refine b2e (D:=fun aw af=>∃(m:Bool)(d:m7)(j:(List ByteArray))(f:Hp)(q:Sl)(r:Frag),aw=(gv (!p) false (vB m))∧(RowL 9 1 q6 q j r)∧(Inv w0 ps0 H0 f [bx g2 70 [(Value.pointer (some ⟨g2b,0,none⟩))],bx g2b 69 (a0U d q),r,bx g3 135 [(Value.func (.func 74) #[] #[(Value.pointer (some ⟨g2,0,none⟩)),(Value.pointer (some ⟨g3,0,none⟩))])]] af)∧(∀i,i < u.heap.size→¬inF [bx g2 70 [(Value.pointer (some ⟨g2b,0,none⟩))],bx g2b 69 (a0U aa ac),ad,bx g3 135 [(Value.func (.func 74) #[] #[(Value.pointer (some ⟨g2,0,none⟩)),(Value.pointer (some ⟨g3,0,none⟩))])]] i→af.heap[i]? = u.heap[i]?)∧Hle k f∧((((!p)||(!m))=true→
 K false (a0g d) j f)∧
 (((!p)||(!m))=false→
 n2 ((IntKind.wrap .i64 (a2L+1)),d.fnodes,d.fdepth,d.fe,d.fform,d.fnamed,j) f))) (fun t=>?_) (fun t=>?_) ?_
   ·replace h:=h.1 t
    have c:=t
    simp only [o9 c]
    refine a5O (cap:=[(Value.pointer (some ⟨g2,0,none⟩)),(Value.pointer (some ⟨g3,0,none⟩))]) Tryz.call74 (h g2 g2b g3 ac ad ar) ((((ae.bring 3).bring 2).bring 2).bring 3) ?_
    rintro _ f _ af ag ax ay ⟨m,d,j,q,r,rfl,rfl,ah,h⟩
    exact ⟨m,d,j,f,q,r,by rfl,ah,ag,ay,ax,h⟩
   ·exact ⟨false,(a0g aa),am,k,ac,ad,by rw [b5N t],ar,((((ae.bring 3).bring 2).bring 2).bring 3),fun _ _ _=>rfl,Hle.refl _,h.2 t⟩
   ·clear h
    rintro aw af ⟨m,d,j,f,q,r,rfl,ah,ag,ay,ax,h⟩
    refine o0 (Pu.g fun c=>by simp only [o9 c];with_reducible exact (T6 _)) ?_
    refine o0 (R9 _ _) ?_
    refine p6 h (fun _ h=>?_) (fun _ h=>?_)
    ·exact hR _ f _ _ ((((ag.bring 3).bring 3).bring 3).bring 3) ⟨false,(a0g d),j,q,r,rfl,rfl,ah,h⟩
    ·refine a7 pAd ?_
     exact hn2 _ _ _ (hm2 _ _ h).2 ⟨((IntKind.wrap .i64 (a2L+1)),d.fnodes,d.fdepth,d.fe,d.fform,d.fnamed,j),f,q,r,rfl,rfl,ah,((((ag.bring 2).bring 3).bring 3).bring 3),(hm2 _ _ h).1⟩
 ·exact hx1 _ _ (hj1 a1T a1U a1V a1W a1X a0u a8d a8e H _ b2k ((((I.bring 3).bring 3).bring 3).bring 3) h)
def a5S(x0:i7)(x1:i7)(H:Hp)(K:Bool→Hp→Prop):Prop:=
 TG (((decide (x0.d6=x1.d6))&&(decide (x0.fOp=x1.fOp)))=true) (m9 x0.p7 x1.p7 H) false H (fun(a:Bool)(b:Hp)=>
 TG ((((decide (x0.d6=x1.d6))&&(decide (x0.fOp=x1.fOp)))&&a)=true) (q7 x0.E6 x1.E6 b) false b (fun(c:Bool)(d:Hp)=>
 K ((((decide (x0.d6=x1.d6))&&(decide (x0.fOp=x1.fOp)))&&a)&&c) d))
theorem b0o(x0 x1){H K}(h:a5S x0 x1 H K):a1l x0 x1 H K:=by
 refine Ct.of fun w0 w ps0 H0 R E I hR=>d0W ?_
 refine E9 I (cs:=(g7 x0)) rfl fun t u q v=>?_
 refine E9 q (cs:=(g7 x1)) rfl fun y z b aa=>?_
 refine a7 a4d (b8 (l1 Tryz.isAgg3 (b.bring 1) rfl) (a7 a4d (b8 (l1 Tryz.isAgg3 b rfl) (a7 pEq ?_))))
 refine a7 (Pu.g fun a=>by with_reducible exact a5r) ?_
 refine b8 (Ld.g fun a=>by simp only [o9 a];exact (l1 Tryz.isAgg3 (b.bring 1) rfl)) ?_
 refine a7 (Pu.g fun a=>by with_reducible exact a5r) ?_
 refine b8 (Ld.g fun a=>by simp only [o9 a];exact (l1 Tryz.isAgg3 b rfl)) ?_
 refine a7 (Pu.g fun a=>by simp only [o9 a];with_reducible exact pEq) ?_
 refine a7 (D9 _ _) ?_
 refine a7 (Pu.g fun a=>by with_reducible exact a5s) ?_
 refine b8 (Ld.g fun a=>by simp only [o9 a];exact (l1 Tryz.isAgg37 (b.bring 1) rfl)) ?_
 refine a7 (Pu.g fun a=>by with_reducible exact a5s) ?_
 refine b8 (Ld.g fun a=>by simp only [o9 a];exact (l1 Tryz.isAgg37 b rfl)) ?_
 refine M3 [] (fun d:Bool=>(vB d)) h b (fun a h=>by simp only [o9 a];exact N9 Tryz.call42 h b) fun d k r c l m h=>?_
 refine a7 (D9 _ _) ?_
 refine a7 (Pu.g fun a=>by with_reducible exact a4e) ?_
 refine b8 (Ld.g fun a=>by simp only [o9 a];exact (l1 Tryz.isAgg52 (c.bring 1) rfl)) ?_
 refine a7 (Pu.g fun a=>by with_reducible exact a4e) ?_
 refine b8 (Ld.g fun a=>by simp only [o9 a];exact (l1 Tryz.isAgg52 c rfl)) ?_
 refine M3 [] (fun e:Bool=>(vB e)) h c (fun a h=>by simp only [o9 a];exact N9 Tryz.call44 h c) fun e f s i o p h=>?_
 refine a7 (D9 _ _) ?_
 exact hR _ f _ _ i.drop.drop ⟨_,rfl,rfl,h⟩
def a8f(x0:f8)(H:Hp)(K:Int→Hp→Prop):Prop:=
 ∀(a:Sl)(b:Hp),Hle H b→SlH b 1 s8 a [(d8.G3 (L4.mk x0))]→a.n≤a.c→
 a2e a b (fun d e=>
 K d.fe e)
theorem b2l(x0){H K}(h:a8f x0 H K):a4L x0 H K:=by
 refine Ct.of fun w0 w ps0 H0 R E I hR=>d0w ?_
 refine E9 I (cs:=(f7 x0)) rfl fun p q a r=>?_
 refine b8 (lW Tryz.isAgg39 Tryz.sizeOf39 rfl a) (a7 (b2h _ _ _ _ _ _) (a7 (a7s (L4.mk x0)) ?_))
 refine O4 (e:=107) (c:=s8) (xs:=[(d8.G3 (L4.mk x0))]) a (a9p _) rfl rfl Q1 S1 (nb rfl) fun d s t f g u=>?_
 obtain ⟨i,j,k,l,m⟩:=Inv.freezeC g f (by decide)
 replace h:=h d i k l m
 refine g6 Tryz.call46 h j ?_
 rintro _ n _ v b _ _ ⟨o,y,rfl,rfl,h⟩
 refine a7 (q9 _) (a7 a5o (b8 (l1 Tryz.isAgg27 b rfl) ?_))
 exact hR _ n _ _ b.drop.drop ⟨_,rfl,rfl,h⟩
def a3z(x0:c7)(b:(List Int))(x1:ByteArray)(H:Hp)(K:Int→Value→c7→(List Int)→Hp→Prop):Prop:=
 a3V (l7 x0) b H (fun c a d=>
 ((a:List Int).length+x1.size)*2≤140737488355328∧
 K (x1.size:Int) Value.nilIface (l7 c) (a++(sbytes x1)) d)
theorem a7e(x0 a x1){H K}(h:a3z x0 a x1 H K):a0A x0 a x1 H K:=by
 intro g0 e f g
 refine Ct.of fun w0 w ps0 H0 R E I hR=>d1k ?_
 refine g6 Tryz.call82 (h g0 e f g) ((I.bring 1).bring 1) ?_
 rintro _ i _ t c _ _ ⟨j,d,k,u,rfl,rfl,l,h⟩
 refine a7 (q9 _) (a7 a6D (b8 (l1 Tryz.isAgg43 c rfl) ?_))
 obtain ⟨m,h⟩:=h
 refine c2P (s:=k) (xs:=d) (b:=x1) (c.bring 1) l m fun n o v p q y=>?_
 refine a7 (q9 _) (a7 a6D ?_)
 refine N7 (q.bring 1) Tryz.sizeOf43 fun z r aa=>?_
 refine a7 (a6g _) ?_
 exact hR _ i _ _ ((r.bring 1).bring 1) ⟨(x1.size:Int),Value.nilIface,(l7 j),(d++(sbytes x1)),n,o,rfl,rfl,p,h⟩
def a9O(x0:Int)(H:Hp)(K:ByteArray→Hp→Prop):Prop:=
 (0:Int)≤IntKind.wrap .i64 (x0-6)∧(IntKind.wrap .i64 (x0-6):Int) < 5∧
 K (([⟨#[43]⟩,⟨#[45]⟩,⟨#[42]⟩,⟨#[47]⟩,⟨#[37]⟩]:List ByteArray).getD (IntKind.wrap .i64 (x0-6):Int).toNat ⟨#[]⟩) H
theorem a9P(x0){H K}(h:a9O x0 H K):a2P x0 H K:=by
 refine Ct.of fun w0 w ps0 H0 R E I hR=>d1a ?_
 refine a7 (b1f _ _ _ _ _) (a7 pSu ?_)
 obtain ⟨a,b,h⟩:=h
 refine a7 (c1K _ _ _ _ _ _ _ a b) ?_
 exact hR _ H _ _ I ⟨_,rfl,rfl,h⟩
def a0l [PanQ] (V5:(List d9)) (C7:a8) (H:Hp) (K:Sl→a8→Hp→Prop):Prop:=
 ∀(G1:Sl)(a:Hp),Hle H a→SlH a 6 k7 G1 V5→G1.n≤G1.c→
 K G1 C7 a
def a0m [PanQ] (a3L:Int) (v7:(List d9)) (V7:a8) (H:Hp) (n2:((List d9)×a8)→Hp→Prop) (K:Sl→a8→Hp→Prop):Prop:=
 t7 V7 ⟨#[125]⟩ H (fun b a c=>
 ((!b)=true→
 O7 a c (fun e f=>
 C8 a (IntKind.wrap .i64 (a3L+1)) e f (fun g=>
 T7 a (IntKind.wrap .i64 (a3L+1)) g (fun d i j=>
 (v7.length+([d]:List d9).length)*121≤140737488355328∧
 n2 ((v7++[d]),i) j))))∧
 ((!b)=false→
 a0l v7 a c K))
def a3W [PanQ] (x0:a8) (x1:Int) (H:Hp) (K:Sl→a8→Hp→Prop):Prop:=
 C4 x0 ⟨#[123]⟩ H (fun a b=>
 TL (([],a):(List d9)×a8) b fun(s:(List d9)×a8) H n2=>a0m x1 s.1 s.2 H n2 K)
theorem a8g [PanQ] (x0:a8) (x1:Int) {H:Hp} {K:Sl→a8→Hp→Prop} (h:a3W x0 x1 H K):S9 x0 x1 H K:=by
 intro g0
 refine Ct.ofE fun w0 w ps0 H0 R E I hR hE=>d1B ?_
 refine z7 hE Tryz.call67 (h g0) I ?_
 rintro _ o _ ao p _ _ ⟨q,rfl,rfl,h⟩
 have hj1:∀(V5:(List d9))(C7:a8)(G1:Sl)(Fs5j1:Frag) H w (_:RowL 54 6 k7 G1 V5 Fs5j1) (_:Inv w0 ps0 H0 H [bx g0 86 (b9 C7),Fs5j1] w) (_:a0l V5 C7 H K),c3C (vs G1) w R E:=by
  intro V5 C7 G1 Fs5j1 H w a8W I h
  intro _
  obtain ⟨i,r,t,u,v⟩:=Inv.freezeC (I.bring 1) a8W (by decide)
  replace h:=h G1 i t u v
  exact hR _ i _ _ r ⟨G1,C7,rfl,rfl,h⟩
 refine u2 fun j1 hx1=>?_
 obtain ⟨f,d,y,z⟩:=h
 refine R1 (J:=fun n l w=>∃(s:(List d9)×a8)(H:Hp)(V6:Sl)(Fs5l2:Frag),n=d s∧l=(match s with | (v7,V7)=>[(vs V6)])∧(match s with | (v7,V7)=>RowL 54 6 k7 V6 v7 Fs5l2)∧(match s with | (v7,V7)=>Inv w0 ps0 H0 H [bx g0 86 (b9 V7),Fs5l2] w)∧f s H) ⟨_,([],q),o,(Sl.mk none 0 0),[],rfl,rfl,(RowL.nil a6b a6c),(p.nil.bring 1),y⟩ ?_
 rintro ap aq w next2 ⟨⟨v7,V7⟩,H,V6,Fs5l2,rfl,g,a2g,I,aa⟩ hn2
 dsimp only at g I a2g
 simp only [List.map_cons,List.map_nil,List.cons.injEq,and_true] at g
 have e5:=g
 simp only [e5]
 obtain ⟨n2,hm2,h⟩:∃n2:((List d9)×a8)→Hp→Prop,(∀s' H',n2 s' H'→f s' H'∧d s' < d (v7,V7))∧a0m x1 v7 V7 H n2 K:=⟨_,fun _ _ h=>h,z (v7,V7) H (fun s' H'=>f s' H'∧d s' < d (v7,V7)) aa (fun _ _ a b=>⟨a,b⟩)⟩
 refine g6 Tryz.call69 (h g0) I ?_
 rintro _ ab _ ar j _ _ ⟨au,ac,rfl,rfl,h⟩
 refine a7 (T6 _) ?_
 refine p6 h (fun _ h=>?_) (fun _ h=>?_)
 ·refine a7 pAd ?_
  refine g6 Tryz.call40 (h g0) j ?_
  rintro _ _ _ av ad _ _ ⟨aw,rfl,rfl,h⟩
  refine z7 hE Tryz.call39 (h g0) ad ?_
  rintro _ _ _ ax ae _ _ ⟨rfl,rfl,h⟩
  refine a7 pAd ?_
  refine z7 hE Tryz.call41 (h g0) ae ?_
  rintro _ af _ ay ag _ _ ⟨k,ah,rfl,rfl,h⟩
  refine O4 (e:=54) (c:=k7) (xs:=[k]) ag (c0n _ _ _ _ _ _ _ _ _ _ _ _ _ _) rfl rfl a6b a6c (nb rfl) fun az ba bb ai m bc=>?_
  obtain ⟨aj,h⟩:=h
  refine c2R (s:=V6) (xs:=v7) (m.bring 2) a2g (ai.srcO ((m.bring 2).bring 1)) aj fun ak al bd am an be=>?_
  exact hn2 _ _ _ (hm2 _ _ h).2 ⟨((v7++[k]),ah),af,ak,al,rfl,rfl,am,((an.bring 1).drop.bring 1),(hm2 _ _ h).1⟩
 ·exact hx1 _ _ (hj1 v7 ac V6 Fs5l2 ab _ a2g ((j.bring 1).bring 1) h)
def R4 [PanQ] (d:Int) (e:ByteArray) (f:Sl) (g:(List i7)) (i:Sl) (j:Sl) (b2P:a8) (k:b7) (l:d9) (H:Hp) (K:d9→a8→Hp→Prop):Prop:=
 ∀(a:Sl)(b:Hp),Hle H b→SlH b 4 g7 a g→a.n≤a.c→
 K (d9.mk d e f a i j) b2P b
def K6 [PanQ] (f:Int) (g:ByteArray) (i:(List f8)) (j:(List i7)) (k:Sl) (l:Sl) (C7:a8) (p:b7) (q:d9) (H:Hp) (K:d9→a8→Hp→Prop):Prop:=
 C4 C7 ⟨#[59]⟩ H (fun m o=>
 ∀(a:Sl)(d:Hp),Hle o d→SlH d 4 f7 a i→a.n≤a.c→
 ∀(b:Sl)(e:Hp),Hle d e→SlH e 4 g7 b j→b.n≤b.c→
 K (d9.mk f g a b k l) m e)
def R5 [PanQ] (d5W:Int) (c:Int) (d:ByteArray) (a:(List f8)) (e:(List i7)) (f:Sl) (g:Sl) (a4E:a8) (i:b7) (j:d9) (H:Hp) (K:d9→a8→Hp→Prop):Prop:=
 C4 a4E ⟨#[61]⟩ H (fun k l=>
 Q2 k d5W l (fun b m n=>
 (a.length+([b]:List f8).length)*57≤140737488355328∧
 K6 c d (a++[b]) e f g m i j n K))
def a4q [PanQ] (x0:a8) (x1:Int) (H:Hp) (K:d9→a8→Hp→Prop):Prop:=
 Q3 x0 H (fun a b d=>
 (a.d6=1→
 t7 b ⟨#[91]⟩ d (fun g i j=>
 (g=true→
 S8 i x1 ⟨#[93]⟩ j (fun k r s=>
 (([]:List f8).length+([k]:List f8).length)*57≤140737488355328∧
 R5 x1 2 a.E1 [k] [] (Sl.mk none 0 0) (Sl.mk none 0 0) r a (d9.mk 0 ⟨#[]⟩ (Sl.mk none 0 0) (Sl.mk none 0 0) (Sl.mk none 0 0) (Sl.mk none 0 0)) s K))∧
 (g=false→
 R5 x1 1 a.E1 [] [] (Sl.mk none 0 0) (Sl.mk none 0 0) i a (d9.mk 0 ⟨#[]⟩ (Sl.mk none 0 0) (Sl.mk none 0 0) (Sl.mk none 0 0) (Sl.mk none 0 0)) j K)))∧
 (¬(a.d6=1)→
 (a.E1=⟨#[105,102]⟩→
 N1 b x1 d (fun l t u=>
 S9 t x1 u (fun m v y=>
 t7 v ⟨#[101,108,115,101]⟩ y (fun o p q=>
 (o=true→
 S9 p x1 q (fun z aa ab=>
 R4 3 ⟨#[]⟩ (Sl.mk none 0 0) [l] m z aa a (d9.mk 0 ⟨#[]⟩ (Sl.mk none 0 0) (Sl.mk none 0 0) (Sl.mk none 0 0) (Sl.mk none 0 0)) ab K))∧
 (o=false→
 R4 3 ⟨#[]⟩ (Sl.mk none 0 0) [l] m (Sl.mk none 0 0) p a (d9.mk 0 ⟨#[]⟩ (Sl.mk none 0 0) (Sl.mk none 0 0) (Sl.mk none 0 0) (Sl.mk none 0 0)) q K)))))∧
 (¬(a.E1=⟨#[105,102]⟩)→
 (a.E1=⟨#[119,104,105,108,101]⟩→
 N1 b x1 d (fun ac ad ae=>
 S9 ad x1 ae (fun af ag ah=>
 ∀(e:Sl)(f:Hp),Hle ah f→SlH f 4 g7 e [ac]→e.n≤e.c→
 K (d9.mk 4 ⟨#[]⟩ (Sl.mk none 0 0) e af (Sl.mk none 0 0)) ag f)))∧
 (¬(a.E1=⟨#[119,104,105,108,101]⟩)→
 (a.E1=⟨#[97,115,115,101,114,116]⟩→
 N1 b x1 d (fun ai aj ak=>
 K6 5 ⟨#[]⟩ [] [ai] (Sl.mk none 0 0) (Sl.mk none 0 0) aj a (d9.mk 0 ⟨#[]⟩ (Sl.mk none 0 0) (Sl.mk none 0 0) (Sl.mk none 0 0) (Sl.mk none 0 0)) ak K))∧
 (¬(a.E1=⟨#[97,115,115,101,114,116]⟩)→
 (a.E1=⟨#[97,115,115,117,109,101]⟩→
 N1 b x1 d (fun al am an=>
 K6 6 ⟨#[]⟩ [] [al] (Sl.mk none 0 0) (Sl.mk none 0 0) am a (d9.mk 0 ⟨#[]⟩ (Sl.mk none 0 0) (Sl.mk none 0 0) (Sl.mk none 0 0) (Sl.mk none 0 0)) an K))∧
 (¬(a.E1=⟨#[97,115,115,117,109,101]⟩)→
 K6 7 ⟨#[]⟩ [] [] (Sl.mk none 0 0) (Sl.mk none 0 0) b a (d9.mk 0 ⟨#[]⟩ (Sl.mk none 0 0) (Sl.mk none 0 0) (Sl.mk none 0 0) (Sl.mk none 0 0)) d K))))))
theorem a8s [PanQ] (x0:a8) (x1:Int) {H:Hp} {K:d9→a8→Hp→Prop} (h:a4q x0 x1 H K):T7 x0 x1 H K:=by
 intro g0
 refine Ct.ofE fun w0 w ps0 H0 R E I hR hE=>d0Q ?_
 refine r7 I Tryz.zeroValue54 (cs:=[(vi 0),(eS),(nS),(nS),(nS),(nS)]) rfl fun i fp br fq=>?_
 refine r7 br Tryz.zeroValue54 (cs:=[(vi 0),(eS),(nS),(nS),(nS),(nS)]) rfl fun j fs bs ft=>?_
 refine z7 hE Tryz.call68 (h g0) (bs.bring 2) ?_
 rintro _ bt _ fu bu _ _ ⟨d,bv,rfl,rfl,h⟩
 refine r7 bu Tryz.zeroValue88 (cs:=[(vi 0),(eS),(vi 0),(vi 0),(vi 0)]) rfl fun al fv bw fw=>?_
 refine A9 bw Tryz.sizeOf88 (vs:=(g8 d)) fun fx b fy=>?_
 have hj1:∀(k:Int)(l:ByteArray)(am:(List f8))(an:(List i7))(m:Sl)(p:Sl)(C7:a8)(f:Sl)(ao:Frag)(g:Sl)(ap:Frag) H w (_:RowL 39 4 f7 f am ao) (_:RowL 75 4 g7 g an ap) (_:Inv w0 ps0 H0 H [bx j 54 [(vi k),(Value.string l),(vs f),(vs g),(vs m),(vs p)],bx g0 86 (b9 C7),bx al 88 (g8 d),bx i 54 [(vi (d9.mk 0 ⟨#[]⟩ (Sl.mk none 0 0) (Sl.mk none 0 0) (Sl.mk none 0 0) (Sl.mk none 0 0)).d6),(Value.string (d9.mk 0 ⟨#[]⟩ (Sl.mk none 0 0) (Sl.mk none 0 0) (Sl.mk none 0 0) (Sl.mk none 0 0)).o8),(Value.slice (d9.mk 0 ⟨#[]⟩ (Sl.mk none 0 0) (Sl.mk none 0 0) (Sl.mk none 0 0) (Sl.mk none 0 0)).p7.a (d9.mk 0 ⟨#[]⟩ (Sl.mk none 0 0) (Sl.mk none 0 0) (Sl.mk none 0 0) (Sl.mk none 0 0)).p7.n (d9.mk 0 ⟨#[]⟩ (Sl.mk none 0 0) (Sl.mk none 0 0) (Sl.mk none 0 0) (Sl.mk none 0 0)).p7.c),(Value.slice (d9.mk 0 ⟨#[]⟩ (Sl.mk none 0 0) (Sl.mk none 0 0) (Sl.mk none 0 0) (Sl.mk none 0 0)).C0.a (d9.mk 0 ⟨#[]⟩ (Sl.mk none 0 0) (Sl.mk none 0 0) (Sl.mk none 0 0) (Sl.mk none 0 0)).C0.n (d9.mk 0 ⟨#[]⟩ (Sl.mk none 0 0) (Sl.mk none 0 0) (Sl.mk none 0 0) (Sl.mk none 0 0)).C0.c),(Value.slice (d9.mk 0 ⟨#[]⟩ (Sl.mk none 0 0) (Sl.mk none 0 0) (Sl.mk none 0 0) (Sl.mk none 0 0)).P5.a (d9.mk 0 ⟨#[]⟩ (Sl.mk none 0 0) (Sl.mk none 0 0) (Sl.mk none 0 0) (Sl.mk none 0 0)).P5.n (d9.mk 0 ⟨#[]⟩ (Sl.mk none 0 0) (Sl.mk none 0 0) (Sl.mk none 0 0) (Sl.mk none 0 0)).P5.c),(Value.slice (d9.mk 0 ⟨#[]⟩ (Sl.mk none 0 0) (Sl.mk none 0 0) (Sl.mk none 0 0) (Sl.mk none 0 0)).O6.a (d9.mk 0 ⟨#[]⟩ (Sl.mk none 0 0) (Sl.mk none 0 0) (Sl.mk none 0 0) (Sl.mk none 0 0)).O6.n (d9.mk 0 ⟨#[]⟩ (Sl.mk none 0 0) (Sl.mk none 0 0) (Sl.mk none 0 0) (Sl.mk none 0 0)).O6.c)],ao,ap] w) (_:K6 k l am an m p C7 d (d9.mk 0 ⟨#[]⟩ (Sl.mk none 0 0) (Sl.mk none 0 0) (Sl.mk none 0 0) (Sl.mk none 0 0)) H K),c3g (Value.pointer (some ⟨g0,0,none⟩)) (Value.pointer (some ⟨i,0,none⟩)) (Value.pointer (some ⟨j,0,none⟩)) w R E:=by
  intro k l am an m p C7 f ao g ap H w bz ca I h
  intro _
  refine z7 hE Tryz.call67 (h g0) (I.bring 1) ?_
  rintro _ _ _ fz av _ _ ⟨cb,rfl,rfl,h⟩
  refine b8 (ldA Tryz.isAgg54 Tryz.sizeOf54 rfl ((av.bring 1).at1 (o:=0) (vs:=[(vi k),(Value.string l),(vs f),(vs g),(vs m),(vs p)]) (nb rfl) rfl)) ?_
  refine A9 (av.bring 3) Tryz.sizeOf54 (vs:=[(vi k),(Value.string l),(vs f),(vs g),(vs m),(vs p)]) fun ga aw gb=>?_
  refine M2 Tryz.isAgg54 Tryz.sizeOf54 rfl aw ?_
  obtain ⟨cc,cd,ce,cf,cg⟩:=Inv.freezeC (aw.bring 4) bz (by decide)
  replace h:=h f cc ce cf cg
  obtain ⟨ax,ch,ci,cj,ck⟩:=Inv.freezeC (cd.bring 4) ca (by decide)
  replace h:=h g ax ci cj ck
  exact hR _ ax _ _ ((ch.drop.bring 1).drop.bring 1).drop ⟨(d9.mk k l f g m p),cb,rfl,rfl,h⟩
 refine u2 fun j1 hx1=>?_
 refine a7 a4c (b8 (l1 Tryz.isAgg3 b rfl) (a7 pEq ?_))
 refine j7 h (fun _ h=>?_) (fun _ h=>?_)
 ·refine T1 b fun gc aq=>?_
  refine o0 X1 ?_
  refine o0 W9 ?_
  refine u7 (l1 Tryz.isAgg9 aq rfl) ?_
  refine N7 (aq.bring 2) Tryz.sizeOf3 fun gd cl cm=>?_
  refine ⟨(cm _ (Inv.d4G (aq.bring 2))),?_⟩
  refine o0 a2d ?_
  refine N7 cl Tryz.sizeOf9 fun ge cn gf=>?_
  have hj2:∀(aa:Int)(ab:ByteArray)(y:(List f8))(ac:(List i7))(ad:Sl)(ae:Sl)(a4E:a8)(af:Sl)(ar:Frag)(ag:Sl)(ah:Frag) H w (_:RowL 39 4 f7 af y ar) (_:RowL 75 4 g7 ag ac ah) (_:Inv w0 ps0 H0 H [bx j 54 [(vi aa),(Value.string ab),(vs af),(vs ag),(vs ad),(vs ae)],bx g0 86 (b9 a4E),bx al 88 (g8 d),bx i 54 [(vi (d9.mk 0 ⟨#[]⟩ (Sl.mk none 0 0) (Sl.mk none 0 0) (Sl.mk none 0 0) (Sl.mk none 0 0)).d6),(Value.string (d9.mk 0 ⟨#[]⟩ (Sl.mk none 0 0) (Sl.mk none 0 0) (Sl.mk none 0 0) (Sl.mk none 0 0)).o8),(Value.slice (d9.mk 0 ⟨#[]⟩ (Sl.mk none 0 0) (Sl.mk none 0 0) (Sl.mk none 0 0) (Sl.mk none 0 0)).p7.a (d9.mk 0 ⟨#[]⟩ (Sl.mk none 0 0) (Sl.mk none 0 0) (Sl.mk none 0 0) (Sl.mk none 0 0)).p7.n (d9.mk 0 ⟨#[]⟩ (Sl.mk none 0 0) (Sl.mk none 0 0) (Sl.mk none 0 0) (Sl.mk none 0 0)).p7.c),(Value.slice (d9.mk 0 ⟨#[]⟩ (Sl.mk none 0 0) (Sl.mk none 0 0) (Sl.mk none 0 0) (Sl.mk none 0 0)).C0.a (d9.mk 0 ⟨#[]⟩ (Sl.mk none 0 0) (Sl.mk none 0 0) (Sl.mk none 0 0) (Sl.mk none 0 0)).C0.n (d9.mk 0 ⟨#[]⟩ (Sl.mk none 0 0) (Sl.mk none 0 0) (Sl.mk none 0 0) (Sl.mk none 0 0)).C0.c),(Value.slice (d9.mk 0 ⟨#[]⟩ (Sl.mk none 0 0) (Sl.mk none 0 0) (Sl.mk none 0 0) (Sl.mk none 0 0)).P5.a (d9.mk 0 ⟨#[]⟩ (Sl.mk none 0 0) (Sl.mk none 0 0) (Sl.mk none 0 0) (Sl.mk none 0 0)).P5.n (d9.mk 0 ⟨#[]⟩ (Sl.mk none 0 0) (Sl.mk none 0 0) (Sl.mk none 0 0) (Sl.mk none 0 0)).P5.c),(Value.slice (d9.mk 0 ⟨#[]⟩ (Sl.mk none 0 0) (Sl.mk none 0 0) (Sl.mk none 0 0) (Sl.mk none 0 0)).O6.a (d9.mk 0 ⟨#[]⟩ (Sl.mk none 0 0) (Sl.mk none 0 0) (Sl.mk none 0 0) (Sl.mk none 0 0)).O6.n (d9.mk 0 ⟨#[]⟩ (Sl.mk none 0 0) (Sl.mk none 0 0) (Sl.mk none 0 0) (Sl.mk none 0 0)).O6.c)],ar,ah] w) (_:R5 x1 aa ab y ac ad ae a4E d (d9.mk 0 ⟨#[]⟩ (Sl.mk none 0 0) (Sl.mk none 0 0) (Sl.mk none 0 0) (Sl.mk none 0 0)) H K),c3h (Value.pointer (some ⟨g0,0,none⟩)) (vi x1) (Value.pointer (some ⟨i,0,none⟩)) (Value.pointer (some ⟨j,0,none⟩)) w j1 R E:=by
   intro aa ab y ac ad ae a4E af ar ag ah H w co cp I h
   intro _
   refine z7 hE Tryz.call67 (h g0) (I.bring 1) ?_
   rintro _ _ _ gg cq _ _ ⟨cr,rfl,rfl,h⟩
   refine T1 cq fun gh ai=>?_
   refine o0 a0h ?_
   refine u7 (l1 Tryz.isAgg37 (ai.bring 1) rfl) ?_
   refine z7 hE Tryz.call71 (h g0) ai ?_
   rintro _ ct _ gi ay _ cu ⟨az,cv,rfl,rfl,h⟩
   refine ⟨(cu _ (ai.bring 1).lt1 (Inv.a1Y (Fi:=[bx g0 86 (b9 cr)]) ((ai.bring 1).bring 1))),?_⟩
   refine O4 (e:=39) (c:=f7) (xs:=[az]) ay (b2O _ _ _ _ _ _) rfl rfl P9 Q0 (nb rfl) fun gj gk gl cw ba cx=>?_
   refine ⟨(cx _ (ay.bring 1).lt1),?_⟩
   obtain ⟨cy,h⟩:=h
   refine c2Q (s:=af) (xs:=y) (ba.bring 5) co (cw.srcO ((ba.bring 5).bring 1)) cy fun cz da gm db dc gn=>?_
   refine o0 a0h ?_
   refine N7 ((dc.bring 1).drop.bring 2) Tryz.sizeOf37 fun go dd gp=>?_
   exact hx1 _ _ (hj1 aa ab (y++[az]) ac ad ae cv cz da ag ah ct _ db cp ((((((dd.bring 5).bring 2).bring 5).bring 5).bring 5).bring 5) h)
  refine u2 fun j2 hx2=>?_
  refine g6 Tryz.call69 (h g0) (cn.bring 2) ?_
  rintro _ de _ gq bb _ _ ⟨gr,bc,rfl,rfl,h⟩
  refine p6 h (fun _ h=>?_) (fun _ h=>?_)
  ·refine a7 W9 ?_
   refine N7 (bb.bring 1) Tryz.sizeOf3 fun gs df gt=>?_
   refine T1 df fun gu aj=>?_
   refine o0 a0h ?_
   refine u7 (l1 Tryz.isAgg37 aj rfl) ?_
   refine z7 hE Tryz.call70 (h g0) (aj.bring 1) ?_
   rintro _ dg _ gv bd _ dh ⟨be,di,rfl,rfl,h⟩
   refine ⟨(dh _ aj.lt1 (Inv.a1Y (Fi:=[bx g0 86 (b9 bc)]) (aj.bring 1))),?_⟩
   refine O4 (e:=39) (c:=f7) (xs:=[be]) bd (b2O _ _ _ _ _ _) rfl rfl P9 Q0 (nb rfl) fun gw gx gy dj bf dk=>?_
   refine ⟨(dk _ (bd.bring 1).lt1),?_⟩
   obtain ⟨dl,h⟩:=h
   refine c2Q (s:=⟨none,0,0⟩) (xs:=[]) bf.nil (RowL.nil P9 Q0) (dj.srcO (bf.nil.bring 1)) dl fun dm dn gz bg dp ha=>?_
   simp only [List.nil_append] at bg
   refine o0 a0h ?_
   refine N7 ((dp.bring 1).drop.bring 2) Tryz.sizeOf37 fun hb dq hc=>?_
   exact hx2 _ _ (hj2 2 d.E1 [be] [] (Sl.mk none 0 0) (Sl.mk none 0 0) di dm dn (Sl.mk none 0 0) [] dg _ bg (RowL.nil Y8 Y9) (((((dq.nil.bring 2).bring 5).bring 5).bring 5).bring 5) h)
  ·exact hx2 _ _ (hj2 1 d.E1 [] [] (Sl.mk none 0 0) (Sl.mk none 0 0) bc (Sl.mk none 0 0) [] (Sl.mk none 0 0) [] de _ (RowL.nil P9 Q0) (RowL.nil Y8 Y9) (((((bb.nil.nil.bring 1).bring 5).bring 5).bring 4).bring 5) h)
 ·refine a7 X1 (b8 (l1 Tryz.isAgg9 b rfl) (a7 (R3 _ _ _ _ _) ?_))
  refine j7 h (fun _ h=>?_) (fun _ h=>?_)
  ·refine z7 hE Tryz.call72 (h g0) (b.bring 1) ?_
   rintro _ _ _ hd dr _ _ ⟨bh,he,rfl,rfl,h⟩
   refine O4 (e:=75) (c:=g7) (xs:=[bh]) dr (b0y _ _ _ _ _ _ _ _) rfl rfl Y8 Y9 (nb rfl) fun z ds hf dt du hg=>?_
   refine a7 W9 ?_
   refine N7 (du.bring 3) Tryz.sizeOf3 fun hh dv hi=>?_
   refine a7 Z0 ?_
   refine N7 dv Tryz.sizeOf52 fun hj dw hk=>?_
   refine z7 hE Tryz.call73 (h g0) (dw.bring 2) ?_
   rintro _ _ _ hl dx _ _ ⟨bi,hm,rfl,rfl,h⟩
   refine a7 a3g ?_
   refine N7 (dx.bring 1) Tryz.sizeOf23 fun hn dy ho=>?_
   have hj3:∀(q:Int)(r:ByteArray)(t:Sl)(u:Sl)(v:Sl)(b2P:a8) H w (_:Inv w0 ps0 H0 H [bx j 54 [(vi q),(Value.string r),(vs t),(vs z),(vs u),(vs v)],bx g0 86 (b9 b2P),bx al 88 (g8 d),bx i 54 [(vi (d9.mk 0 ⟨#[]⟩ (Sl.mk none 0 0) (Sl.mk none 0 0) (Sl.mk none 0 0) (Sl.mk none 0 0)).d6),(Value.string (d9.mk 0 ⟨#[]⟩ (Sl.mk none 0 0) (Sl.mk none 0 0) (Sl.mk none 0 0) (Sl.mk none 0 0)).o8),(Value.slice (d9.mk 0 ⟨#[]⟩ (Sl.mk none 0 0) (Sl.mk none 0 0) (Sl.mk none 0 0) (Sl.mk none 0 0)).p7.a (d9.mk 0 ⟨#[]⟩ (Sl.mk none 0 0) (Sl.mk none 0 0) (Sl.mk none 0 0) (Sl.mk none 0 0)).p7.n (d9.mk 0 ⟨#[]⟩ (Sl.mk none 0 0) (Sl.mk none 0 0) (Sl.mk none 0 0) (Sl.mk none 0 0)).p7.c),(Value.slice (d9.mk 0 ⟨#[]⟩ (Sl.mk none 0 0) (Sl.mk none 0 0) (Sl.mk none 0 0) (Sl.mk none 0 0)).C0.a (d9.mk 0 ⟨#[]⟩ (Sl.mk none 0 0) (Sl.mk none 0 0) (Sl.mk none 0 0) (Sl.mk none 0 0)).C0.n (d9.mk 0 ⟨#[]⟩ (Sl.mk none 0 0) (Sl.mk none 0 0) (Sl.mk none 0 0) (Sl.mk none 0 0)).C0.c),(Value.slice (d9.mk 0 ⟨#[]⟩ (Sl.mk none 0 0) (Sl.mk none 0 0) (Sl.mk none 0 0) (Sl.mk none 0 0)).P5.a (d9.mk 0 ⟨#[]⟩ (Sl.mk none 0 0) (Sl.mk none 0 0) (Sl.mk none 0 0) (Sl.mk none 0 0)).P5.n (d9.mk 0 ⟨#[]⟩ (Sl.mk none 0 0) (Sl.mk none 0 0) (Sl.mk none 0 0) (Sl.mk none 0 0)).P5.c),(Value.slice (d9.mk 0 ⟨#[]⟩ (Sl.mk none 0 0) (Sl.mk none 0 0) (Sl.mk none 0 0) (Sl.mk none 0 0)).O6.a (d9.mk 0 ⟨#[]⟩ (Sl.mk none 0 0) (Sl.mk none 0 0) (Sl.mk none 0 0) (Sl.mk none 0 0)).O6.n (d9.mk 0 ⟨#[]⟩ (Sl.mk none 0 0) (Sl.mk none 0 0) (Sl.mk none 0 0) (Sl.mk none 0 0)).O6.c)],ds] w) (_:R4 q r t ([bh]) u v b2P d (d9.mk 0 ⟨#[]⟩ (Sl.mk none 0 0) (Sl.mk none 0 0) (Sl.mk none 0 0) (Sl.mk none 0 0)) H K),c3i (Value.pointer (some ⟨i,0,none⟩)) (Value.pointer (some ⟨j,0,none⟩)) w R E:=by
    intro q r t u v b2P H w I h
    intro _
    refine b8 (ldA Tryz.isAgg54 Tryz.sizeOf54 rfl (I.at1 (o:=0) (vs:=[(vi q),(Value.string r),(vs t),(vs z),(vs u),(vs v)]) (nb rfl) rfl)) ?_
    refine A9 (I.bring 3) Tryz.sizeOf54 (vs:=[(vi q),(Value.string r),(vs t),(vs z),(vs u),(vs v)]) fun hp bj hq=>?_
    refine M2 Tryz.isAgg54 Tryz.sizeOf54 rfl bj ?_
    obtain ⟨bk,dz,ea,eb,ec⟩:=Inv.freezeC (bj.bring 4) dt (by decide)
    replace h:=h z bk ea eb ec
    exact hR _ bk _ _ (dz.drop.drop.bring 1).drop ⟨(d9.mk q r t z u v),b2P,rfl,rfl,h⟩
   refine u2 fun j3 hx3=>?_
   refine g6 Tryz.call69 (h g0) (dy.bring 1) ?_
   rintro _ ed _ hr bl _ _ ⟨hs,ee,rfl,rfl,h⟩
   refine p6 h (fun _ h=>?_) (fun _ h=>?_)
   ·refine z7 hE Tryz.call73 (h g0) bl ?_
    rintro _ ef _ ht eg _ _ ⟨eh,ei,rfl,rfl,h⟩
    refine a7 a3h ?_
    refine N7 (eg.bring 1) Tryz.sizeOf23 fun hu ej hv=>?_
    exact hx3 _ _ (hj3 3 ⟨#[]⟩ (Sl.mk none 0 0) bi eh ei ef _ (((((ej.bring 2).bring 4).bring 4).bring 4).bring 4) h)
   ·exact hx3 _ _ (hj3 3 ⟨#[]⟩ (Sl.mk none 0 0) bi (Sl.mk none 0 0) ee ed _ (((((bl.bring 2).bring 4).bring 4).bring 3).bring 4) h)
  ·refine a7 X1 (b8 (l1 Tryz.isAgg9 b rfl) (a7 (R3 _ _ _ _ _) ?_))
   refine j7 h (fun _ h=>?_) (fun _ h=>?_)
   ·refine z7 hE Tryz.call72 (h g0) (b.bring 1) ?_
    rintro _ _ _ hw ek _ _ ⟨el,hx,rfl,rfl,h⟩
    refine O4 (e:=75) (c:=g7) (xs:=[el]) ek (b0y _ _ _ _ _ _ _ _) rfl rfl Y8 Y9 (nb rfl) fun ak hy hz em en ia=>?_
    refine a7 W9 ?_
    refine N7 (en.bring 3) Tryz.sizeOf3 fun ib eo ic=>?_
    refine a7 Z0 ?_
    refine N7 eo Tryz.sizeOf52 fun id ep ie=>?_
    refine z7 hE Tryz.call73 (h g0) (ep.bring 2) ?_
    rintro _ _ _ ig eq _ _ ⟨au,er,rfl,rfl,h⟩
    refine a7 a3g ?_
    refine N7 (eq.bring 1) Tryz.sizeOf23 fun ih bm ii=>?_
    refine b8 (ldA Tryz.isAgg54 Tryz.sizeOf54 rfl (bm.at1 (o:=0) (vs:=[(vi 4),(eS),(nS),(vs ak),(vs au),(nS)]) (nb rfl) rfl)) ?_
    refine A9 (bm.bring 4) Tryz.sizeOf54 (vs:=[(vi 4),(eS),(nS),(vs ak),(vs au),(nS)]) fun ij bn ik=>?_
    refine M2 Tryz.isAgg54 Tryz.sizeOf54 rfl bn ?_
    obtain ⟨bo,es,et,eu,ev⟩:=Inv.freezeC (bn.bring 3) em (by decide)
    replace h:=h ak bo et eu ev
    exact hR _ bo _ _ (es.drop.drop.bring 1).drop ⟨(d9.mk 4 ⟨#[]⟩ (Sl.mk none 0 0) ak au (Sl.mk none 0 0)),er,rfl,rfl,h⟩
   ·refine a7 X1 (b8 (l1 Tryz.isAgg9 b rfl) (a7 (R3 _ _ _ _ _) ?_))
    refine j7 h (fun _ h=>?_) (fun _ h=>?_)
    ·refine z7 hE Tryz.call72 (h g0) (b.bring 1) ?_
     rintro _ ew _ il ex _ _ ⟨bp,ey,rfl,rfl,h⟩
     refine O4 (e:=75) (c:=g7) (xs:=[bp]) ex (b0y _ _ _ _ _ _ _ _) rfl rfl Y8 Y9 (nb rfl) fun ez fa im fb fc io=>?_
     refine a7 W9 ?_
     refine N7 (fc.bring 3) Tryz.sizeOf3 fun ip fd iq=>?_
     refine a7 Z0 ?_
     refine N7 fd Tryz.sizeOf52 fun ir fe it=>?_
     exact hx1 _ _ (hj1 5 ⟨#[]⟩ [] [bp] (Sl.mk none 0 0) (Sl.mk none 0 0) ey (Sl.mk none 0 0) [] ez fa ew _ (RowL.nil P9 Q0) fb ((((((fe.nil.bring 2).bring 1).bring 5).bring 5).bring 5).bring 5) h)
    ·refine a7 X1 (b8 (l1 Tryz.isAgg9 b rfl) (a7 (R3 _ _ _ _ _) ?_))
     refine j7 h (fun _ h=>?_) (fun _ h=>?_)
     ·refine z7 hE Tryz.call72 (h g0) (b.bring 1) ?_
      rintro _ ff _ iu fg _ _ ⟨bq,fh,rfl,rfl,h⟩
      refine O4 (e:=75) (c:=g7) (xs:=[bq]) fg (b0y _ _ _ _ _ _ _ _) rfl rfl Y8 Y9 (nb rfl) fun fi fj iv fk fl iw=>?_
      refine a7 W9 ?_
      refine N7 (fl.bring 3) Tryz.sizeOf3 fun ix fm iy=>?_
      refine a7 Z0 ?_
      refine N7 fm Tryz.sizeOf52 fun iz fn ja=>?_
      exact hx1 _ _ (hj1 6 ⟨#[]⟩ [] [bq] (Sl.mk none 0 0) (Sl.mk none 0 0) fh (Sl.mk none 0 0) [] fi fj ff _ (RowL.nil P9 Q0) fk ((((((fn.nil.bring 2).bring 1).bring 5).bring 5).bring 5).bring 5) h)
     ·refine a7 W9 ?_
      refine N7 (b.bring 2) Tryz.sizeOf3 fun jb fo jc=>?_
      exact hx1 _ _ (hj1 7 ⟨#[]⟩ [] [] (Sl.mk none 0 0) (Sl.mk none 0 0) bv (Sl.mk none 0 0) [] (Sl.mk none 0 0) [] bt _ (RowL.nil P9 Q0) (RowL.nil Y8 Y9) (((((fo.nil.nil.bring 1).bring 5).bring 4).bring 5).bring 5) h)
def W3 [PanQ] (C7:a8) (d:b7) (H:Hp) (K:b7→a8→Hp→Prop):Prop:=
 Q3 C7 H (fun a b c=>
 K a b c)
def a8t [PanQ] (x0:a8) (x1:Int) (H:Hp) (K:b7→a8→Hp→Prop):Prop:=
 B0 x0 H (fun a b=>
 (¬(a.d6=x1)→
 D7 x0 b (fun c=>
 W3 x0 (b7.mk 0 ⟨#[]⟩ 0 (c8.mk 0 0)) c K))∧
 (a.d6=x1→
 W3 x0 (b7.mk 0 ⟨#[]⟩ 0 (c8.mk 0 0)) b K))
theorem a8u [PanQ] (x0:a8) (x1:Int) {H:Hp} {K:b7→a8→Hp→Prop} (h:a8t x0 x1 H K):a1P x0 x1 H K:=by
 intro g0
 refine Ct.ofE fun w0 w ps0 H0 R E I hR hE=>d1t ?_
 refine r7 I Tryz.zeroValue88 (cs:=[(vi 0),(eS),(vi 0),(vi 0),(vi 0)]) rfl fun a m e n=>?_
 have hj1:∀H w (_:Inv w0 ps0 H0 H [bx g0 86 (b9 x0),bx a 88 [(vi (b7.mk 0 ⟨#[]⟩ 0 (c8.mk 0 0)).d6),(Value.string (b7.mk 0 ⟨#[]⟩ 0 (c8.mk 0 0)).E1),(vi (b7.mk 0 ⟨#[]⟩ 0 (c8.mk 0 0)).M4),(vi (b7.mk 0 ⟨#[]⟩ 0 (c8.mk 0 0)).fAt.M8),(vi (b7.mk 0 ⟨#[]⟩ 0 (c8.mk 0 0)).fAt.V1)]] w) (_:W3 x0 (b7.mk 0 ⟨#[]⟩ 0 (c8.mk 0 0)) H K),c3A (Value.pointer (some ⟨g0,0,none⟩)) (Value.pointer (some ⟨a,0,none⟩)) w R E:=by
  intro H w I h
  intro _
  refine z7 hE Tryz.call68 (h g0) I ?_
  rintro _ f _ o g _ _ ⟨b,i,rfl,rfl,h⟩
  refine A9 (g.bring 1) Tryz.sizeOf88 (vs:=(g8 b)) fun p c q=>?_
  refine M2 Tryz.isAgg88 Tryz.sizeOf88 rfl c ?_
  exact hR _ f _ _ c.drop ⟨b,i,rfl,rfl,h⟩
 refine u2 fun j1 hx1=>?_
 refine g6 Tryz.call35 (h g0) (e.bring 1) ?_
 rintro _ j _ r d _ _ ⟨s,rfl,rfl,h⟩
 refine a7 a7R (a7 pNe ?_)
 refine a0S h (fun _ h=>?_) (fun _ h=>?_)
 ·refine z7 hE Tryz.call36 (h g0) d ?_
  rintro _ k _ t l _ _ ⟨rfl,rfl,h⟩
  exact hx1 _ _ (hj1 k _ ((l.bring 1).bring 1) h)
 ·exact hx1 _ _ (hj1 j _ ((d.bring 1).bring 1) h)
def a7z(x0:Int)(H:Hp)(K:Bool→Hp→Prop):Prop:=
 K (!decide (x0=10)) H
theorem a7A(x0){H K}(h:a7z x0 H K):a0W x0 H K:=by
 refine Ct.of fun w0 w ps0 H0 R E I hR=>d1P ?_
 refine a7 pNe ?_
 exact hR _ H _ _ I ⟨_,rfl,rfl,h⟩
def D2(Y6:Int)(t6:ByteArray)(p8:Int)(y9:c8)(C9:(List b7))(H:Hp)(K:ByteArray→d7→(List b7)→Hp→Prop):Prop:=
 (0:Int)≤Y6∧(Y6:Int)≤p8∧(p8:Int)≤t6.size∧
 K (t6.extract (Y6:Int).toNat (p8:Int).toNat) (d7.mk t6 p8 y9 (Sl.mk none 0 0)) C9 H
def D3(b3Z:Int)(Q8:Int)(C6:Bool)(s7:ByteArray)(p5:Int)(r8:c8)(p9:(List b7))(H:Hp)(n2:(Int×Bool×ByteArray×Int×c8×(List b7))→Hp→Prop)(K:ByteArray→d7→(List b7)→Hp→Prop):Prop:=
 TG (C6=true) (a2J Q8 H) false H (fun(b:Bool)(c:Hp)=>
 ((C6&&b)=true→
 G9 (d7.mk s7 p5 r8 (Sl.mk none 0 0)) p9 c (fun a d e=>
 D5 (y8 a) d e (fun f g i=>
 n2 (f,g,a.fs,a.fn,a.fat,d) i)))∧
 ((C6&&b)=false→
 D2 b3Z s7 p5 r8 p9 c K))
def P7(x0:d7)(a:(List b7))(H:Hp)(K:ByteArray→d7→(List b7)→Hp→Prop):Prop:=
 D5 (y8 x0) a H (fun b c d=>
 TL ((b,c,x0.fs,x0.fn,x0.fat,a):Int×Bool×ByteArray×Int×c8×(List b7)) d fun(s:Int×Bool×ByteArray×Int×c8×(List b7)) H n2=>D3 x0.fn s.1 s.2.1 s.2.2.1 s.2.2.2.1 s.2.2.2.2.1 s.2.2.2.2.2 H n2 K)
theorem a2T(x0 f){H K}(h:P7 x0 f H K):P6 x0 f H K:=by
 intro g0 o p q
 refine Ct.of fun w0 w ps0 H0 R E I hR=>b4T ?_
 unfold P7 at h
 unfold F94
 refine a7 (q9 _) (a7 W7 (b8 (l1 Tryz.isAgg3 I rfl) ?_))
 have hj1:∀(t6:ByteArray)(p8:Int)(y9:c8)(C9:(List b7))(T3:Sl)(N6:Frag) H w (_:RowL 88 5 g8 T3 C9 N6) (_:Inv w0 ps0 H0 H [bx g0 123 [(Value.string t6),(vi p8),(vi y9.M8),(vi y9.V1),(vs T3)],N6] w) (_:D2 x0.fn t6 p8 y9 C9 H K),a6G (Value.pointer (some ⟨g0,0,none⟩)) (vi x0.fn) w R E:=by
  intro t6 p8 y9 C9 T3 N6 H w a3w I h
  unfold a6G
  intro _
  unfold D2 at h
  refine T1 I fun au g=>?_
  refine o0 (q9 _) ?_
  refine o0 a5P ?_
  refine o0 (q9 _) ?_
  refine o0 W7 ?_
  refine u7 (l1 Tryz.isAgg9 g rfl) ?_
  refine u7 (l1 Tryz.isAgg3 g rfl) ?_
  obtain ⟨af,ag,ah,h⟩:=h
  refine o0 (b0W t6 Tryz.underlying9 af ag ah) ?_
  exact hR _ H _ _ ((g.bring 1).bring 1) ⟨(t6.extract (x0.fn:Int).toNat (p8:Int).toNat),(d7.mk t6 p8 y9 (Sl.mk none 0 0)),C9,T3,N6,rfl,rfl,a3w,h⟩
 refine u2 fun j1 hx1=>?_
 refine g6 Tryz.call64 (h g0 o p q) ((I.bring 1).bring 1) ?_
 rintro _ ai _ av aj _ _ ⟨r,t,rfl,rfl,h⟩
 refine a7 (j9 _ _ (Value.int .i32 r) rfl) (a7 (j9 _ _ (vB t) rfl) ?_)
 obtain ⟨i,c,ak,al⟩:=h
 refine R1 (J:=fun n l w=>∃(s:Int×Bool×ByteArray×Int×c8×(List b7))(H:Hp)(O8:Sl)(E8:Frag),n=c s∧l=(match s with | (Q8,C6,s7,p5,r8,p9)=>[(Value.int .i32 Q8),(vB C6)])∧(match s with | (Q8,C6,s7,p5,r8,p9)=>RowL 88 5 g8 O8 p9 E8)∧(match s with | (Q8,C6,s7,p5,r8,p9)=>Inv w0 ps0 H0 H [bx g0 123 [(Value.string s7),(vi p5),(vi r8.M8),(vi r8.V1),(vs O8)],E8] w)∧i s H) ⟨_,(r,t,x0.fs,x0.fn,x0.fat,f),ai,o,p,rfl,rfl,q,((aj.bring 1).bring 1),ak⟩ ?_
 rintro aw ax w next2 ⟨⟨Q8,C6,s7,p5,r8,p9⟩,H,O8,E8,rfl,j,Q9,I,am⟩ hn2
 dsimp only at j I Q9
 simp only [List.map_cons,List.map_nil,List.cons.injEq,and_true] at j
 obtain ⟨e6,e7⟩:=j
 simp only [e6,e7]
 obtain ⟨n2,hm2,h⟩:∃n2:(Int×Bool×ByteArray×Int×c8×(List b7))→Hp→Prop,(∀s' H',n2 s' H'→i s' H'∧c s' < c (Q8,C6,s7,p5,r8,p9))∧D3 x0.fn Q8 C6 s7 p5 r8 p9 H n2 K:=⟨_,fun _ _ h=>h,al (Q8,C6,s7,p5,r8,p9) H (fun s' H'=>i s' H'∧c s' < c (Q8,C6,s7,p5,r8,p9)) am (fun _ _ a b=>⟨a,b⟩)⟩
 unfold b2i
 unfold D3 at h
 simp only [E5]
 refine M3 [] (fun d:Bool=>(vB d)) h I (fun z h=>by simp only [o9 z];exact N9 Tryz.call126 h I) fun d k an e v y h=>?_
 refine a7 (D9 _ _) ?_
 refine p6 h (fun _ h=>?_) (fun _ h=>?_)
 ·refine g6 Tryz.call125 (h g0 O8 E8 Q9) ((e.bring 1).bring 1) ?_
  rintro _ ay _ az ao _ _ ⟨m,ap,aa,ab,rfl,rfl,ac,h⟩
  refine g6 Tryz.call64 (h g0 aa ab ac) ((ao.bring 1).bring 1) ?_
  rintro _ aq _ ba ar _ _ ⟨ad,ae,rfl,rfl,h⟩
  refine a7 (j9 _ _ (Value.int .i32 ad) rfl) (a7 (j9 _ _ (vB ae) rfl) ?_)
  exact hn2 _ _ _ (hm2 _ _ h).2 ⟨(ad,ae,m.fs,m.fn,m.fat,ap),aq,aa,ab,rfl,rfl,ac,((ar.bring 1).bring 1),(hm2 _ _ h).1⟩
 ·exact hx1 _ _ (hj1 s7 p5 r8 p9 O8 E8 k _ Q9 ((e.bring 1).bring 1) h)
def z8(Y6:Int)(t6:ByteArray)(p8:Int)(y9:c8)(C9:(List b7))(H:Hp)(K:ByteArray→d7→(List b7)→Hp→Prop):Prop:=
 (0:Int)≤Y6∧(Y6:Int)≤p8∧(p8:Int)≤t6.size∧
 K (t6.extract (Y6:Int).toNat (p8:Int).toNat) (d7.mk t6 p8 y9 (Sl.mk none 0 0)) C9 H
def A0(b3Z:Int)(Q8:Int)(C6:Bool)(s7:ByteArray)(p5:Int)(r8:c8)(p9:(List b7))(H:Hp)(n2:(Int×Bool×ByteArray×Int×c8×(List b7))→Hp→Prop)(K:ByteArray→d7→(List b7)→Hp→Prop):Prop:=
 TG (C6=true) (a0Y Q8 H) false H (fun(b:Bool)(c:Hp)=>
 ((C6&&b)=true→
 G9 (d7.mk s7 p5 r8 (Sl.mk none 0 0)) p9 c (fun a d e=>
 D5 (y8 a) d e (fun f g i=>
 n2 (f,g,a.fs,a.fn,a.fat,d) i)))∧
 ((C6&&b)=false→
 z8 b3Z s7 p5 r8 p9 c K))
def L9(x0:d7)(a:(List b7))(H:Hp)(K:ByteArray→d7→(List b7)→Hp→Prop):Prop:=
 D5 (y8 x0) a H (fun b c d=>
 TL ((b,c,x0.fs,x0.fn,x0.fat,a):Int×Bool×ByteArray×Int×c8×(List b7)) d fun(s:Int×Bool×ByteArray×Int×c8×(List b7)) H n2=>A0 x0.fn s.1 s.2.1 s.2.2.1 s.2.2.2.1 s.2.2.2.2.1 s.2.2.2.2.2 H n2 K)
theorem a1o(x0 f){H K}(h:L9 x0 f H K):L8 x0 f H K:=by
 intro g0 o p q
 refine Ct.of fun w0 w ps0 H0 R E I hR=>b4T ?_
 unfold L9 at h
 unfold F94
 refine a7 (q9 _) (a7 W7 (b8 (l1 Tryz.isAgg3 I rfl) ?_))
 have hj1:∀(t6:ByteArray)(p8:Int)(y9:c8)(C9:(List b7))(T3:Sl)(N6:Frag) H w (_:RowL 88 5 g8 T3 C9 N6) (_:Inv w0 ps0 H0 H [bx g0 123 [(Value.string t6),(vi p8),(vi y9.M8),(vi y9.V1),(vs T3)],N6] w) (_:z8 x0.fn t6 p8 y9 C9 H K),a6G (Value.pointer (some ⟨g0,0,none⟩)) (vi x0.fn) w R E:=by
  intro t6 p8 y9 C9 T3 N6 H w a3w I h
  unfold a6G
  intro _
  unfold z8 at h
  refine T1 I fun au g=>?_
  refine o0 (q9 _) ?_
  refine o0 a5P ?_
  refine o0 (q9 _) ?_
  refine o0 W7 ?_
  refine u7 (l1 Tryz.isAgg9 g rfl) ?_
  refine u7 (l1 Tryz.isAgg3 g rfl) ?_
  obtain ⟨af,ag,ah,h⟩:=h
  refine o0 (b0W t6 Tryz.underlying9 af ag ah) ?_
  exact hR _ H _ _ ((g.bring 1).bring 1) ⟨(t6.extract (x0.fn:Int).toNat (p8:Int).toNat),(d7.mk t6 p8 y9 (Sl.mk none 0 0)),C9,T3,N6,rfl,rfl,a3w,h⟩
 refine u2 fun j1 hx1=>?_
 refine g6 Tryz.call64 (h g0 o p q) ((I.bring 1).bring 1) ?_
 rintro _ ai _ av aj _ _ ⟨r,t,rfl,rfl,h⟩
 refine a7 (j9 _ _ (Value.int .i32 r) rfl) (a7 (j9 _ _ (vB t) rfl) ?_)
 obtain ⟨i,c,ak,al⟩:=h
 refine R1 (J:=fun n l w=>∃(s:Int×Bool×ByteArray×Int×c8×(List b7))(H:Hp)(O8:Sl)(E8:Frag),n=c s∧l=(match s with | (Q8,C6,s7,p5,r8,p9)=>[(Value.int .i32 Q8),(vB C6)])∧(match s with | (Q8,C6,s7,p5,r8,p9)=>RowL 88 5 g8 O8 p9 E8)∧(match s with | (Q8,C6,s7,p5,r8,p9)=>Inv w0 ps0 H0 H [bx g0 123 [(Value.string s7),(vi p5),(vi r8.M8),(vi r8.V1),(vs O8)],E8] w)∧i s H) ⟨_,(r,t,x0.fs,x0.fn,x0.fat,f),ai,o,p,rfl,rfl,q,((aj.bring 1).bring 1),ak⟩ ?_
 rintro aw ax w next2 ⟨⟨Q8,C6,s7,p5,r8,p9⟩,H,O8,E8,rfl,j,Q9,I,am⟩ hn2
 dsimp only at j I Q9
 simp only [List.map_cons,List.map_nil,List.cons.injEq,and_true] at j
 obtain ⟨e6,e7⟩:=j
 simp only [e6,e7]
 obtain ⟨n2,hm2,h⟩:∃n2:(Int×Bool×ByteArray×Int×c8×(List b7))→Hp→Prop,(∀s' H',n2 s' H'→i s' H'∧c s' < c (Q8,C6,s7,p5,r8,p9))∧A0 x0.fn Q8 C6 s7 p5 r8 p9 H n2 K:=⟨_,fun _ _ h=>h,al (Q8,C6,s7,p5,r8,p9) H (fun s' H'=>i s' H'∧c s' < c (Q8,C6,s7,p5,r8,p9)) am (fun _ _ a b=>⟨a,b⟩)⟩
 unfold b2i
 unfold A0 at h
 simp only [E5]
 refine M3 [] (fun d:Bool=>(vB d)) h I (fun z h=>by simp only [o9 z];exact N9 Tryz.call129 h I) fun d k an e v y h=>?_
 refine a7 (D9 _ _) ?_
 refine p6 h (fun _ h=>?_) (fun _ h=>?_)
 ·refine g6 Tryz.call125 (h g0 O8 E8 Q9) ((e.bring 1).bring 1) ?_
  rintro _ _ _ ay ao _ _ ⟨m,ap,aa,ab,rfl,rfl,ac,h⟩
  refine g6 Tryz.call64 (h g0 aa ab ac) ((ao.bring 1).bring 1) ?_
  rintro _ aq _ az ar _ _ ⟨ad,ae,rfl,rfl,h⟩
  refine a7 (j9 _ _ (Value.int .i32 ad) rfl) (a7 (j9 _ _ (vB ae) rfl) ?_)
  exact hn2 _ _ _ (hm2 _ _ h).2 ⟨(ad,ae,m.fs,m.fn,m.fat,ap),aq,aa,ab,rfl,rfl,ac,((ar.bring 1).bring 1),(hm2 _ _ h).1⟩
 ·exact hx1 _ _ (hj1 s7 p5 r8 p9 O8 E8 k _ Q9 ((e.bring 1).bring 1) h)
def a8h(H:Hp)(K:b7→Int→Hp→Prop):Prop:=
 K (b7.mk 0 ⟨#[]⟩ 0 (c8.mk 0 0)) 20 H
theorem a8i{H K}(h:a8h H K):a8b H K:=by
 refine Ct.of fun w0 w ps0 H0 R E I hR=>c7X ?_
 refine r7 I Tryz.zeroValue88 (cs:=[(vi 0),(eS),(vi 0),(vi 0),(vi 0)]) rfl fun c d b e=>?_
 refine a7 (b6C) ?_
 refine A9 b Tryz.sizeOf88 (vs:=[(vi 0),(eS),(vi 0),(vi 0),(vi 0)]) fun f a g=>?_
 refine M2 Tryz.isAgg88 Tryz.sizeOf88 rfl a ?_
 exact hR _ H _ _ a.drop ⟨(b7.mk 0 ⟨#[]⟩ 0 (c8.mk 0 0)),20,rfl,rfl,h⟩
def a6x(x0:a8)(H:Hp)(K:Bool→Hp→Prop):Prop:=
 E7 x0 H (fun a d=>
 TG (a=false) (r9 x0 ⟨#[116,114,117,101]⟩ d) false d (fun(b:Bool)(e:Hp)=>
 TG ((a||b)=false) (r9 x0 ⟨#[102,97,108,115,101]⟩ e) false e (fun(c:Bool)(f:Hp)=>
 TG (((a||b)||c)=false) (r9 x0 ⟨#[33]⟩ f) false f (fun(g:Bool)(i:Hp)=>
 TG ((((a||b)||c)||g)=false) (r9 x0 ⟨#[91]⟩ i) false i (fun(j:Bool)(k:Hp)=>
 K ((((a||b)||c)||g)||j) k)))))
theorem a6y(x0){H K}(h:a6x x0 H K):P3 x0 H K:=by
 intro g0
 refine Ct.of fun w0 w ps0 H0 R E I hR=>c8t ?_
 refine g6 Tryz.call101 (h g0) I ?_
 rintro _ _ _ ai l _ _ ⟨ad,rfl,rfl,h⟩
 simp only [E5]
 refine M3 [bx g0 86 (b9 x0)] (fun b:Bool=>(vB b)) h l (fun a h=>by simp only [o9 a];exact N9 Tryz.call37 (h g0) l) fun b n ae f o p h=>?_
 refine a7 (R9 _ _) ?_
 simp only [E5]
 refine M3 [bx g0 86 (b9 x0)] (fun c:Bool=>(vB c)) h f (fun a h=>by simp only [o9 a];exact N9 Tryz.call37 (h g0) f) fun c r af g s t h=>?_
 refine a7 (R9 _ _) ?_
 simp only [E5]
 refine M3 [bx g0 86 (b9 x0)] (fun d:Bool=>(vB d)) h g (fun a h=>by simp only [o9 a];exact N9 Tryz.call37 (h g0) g) fun d v ag i y z h=>?_
 refine a7 (R9 _ _) ?_
 simp only [E5]
 refine M3 [bx g0 86 (b9 x0)] (fun e:Bool=>(vB e)) h i (fun a h=>by simp only [o9 a];exact N9 Tryz.call37 (h g0) i) fun e j ah k ab ac h=>?_
 refine a7 (R9 _ _) ?_
 exact hR _ j _ _ k ⟨_,rfl,rfl,h⟩
def W4 [PanQ] (b1g:Int) (C7:a8) (o:f8) (H:Hp) (K:f8→a8→Hp→Prop):Prop:=
 Q3 C7 H (fun a e f=>
 (a.d6=2→
 K (f8.mk 1 a.M4 ⟨#[]⟩ (Sl.mk none 0 0)) e f)∧
 (¬(a.d6=2)→
 t7 e ⟨#[91]⟩ f (fun g i j=>
 ((!g)=true→
 K (f8.mk 2 0 a.E1 (Sl.mk none 0 0)) i j)∧
 ((!g)=false→
 S8 i b1g ⟨#[93]⟩ j (fun k l m=>
 ∀(b:Sl)(d:Hp),Hle m d→SlH d 4 f7 b [k]→b.n≤b.c→
 K (f8.mk 4 0 a.E1 b) l d)))))
def a4r [PanQ] (x0:a8) (x1:Int) (H:Hp) (K:f8→a8→Hp→Prop):Prop:=
 E7 x0 H (fun e f=>
 ((!e)=true→
 D7 x0 f (fun q=>
 W4 x1 x0 (f8.mk 0 0 ⟨#[]⟩ (Sl.mk none 0 0)) q K))∧
 ((!e)=false→
 t7 x0 ⟨#[45]⟩ f (fun g a i=>
 (g=true→
 E7 a i (fun r s=>
 C8 a (IntKind.wrap .i64 (x1+1)) r s (fun t=>
 Q5 a (IntKind.wrap .i64 (x1+1)) t (fun u v y=>
 ∀(b:Sl)(d:Hp),Hle y d→SlH d 4 f7 b [u]→b.n≤b.c→
 K (f8.mk 5 0 ⟨#[]⟩ b) v d))))∧
 (g=false→
 t7 a ⟨#[40]⟩ i (fun j k l=>
 (j=true→
 S8 k x1 ⟨#[41]⟩ l (fun z aa ab=>
 K z aa ab))∧
 (j=false→
 t7 k ⟨#[105,110,112,117,116]⟩ l (fun m o p=>
 (m=true→
 K (f8.mk 3 0 ⟨#[]⟩ (Sl.mk none 0 0)) o p)∧
 (m=false→
 W4 x1 o (f8.mk 0 0 ⟨#[]⟩ (Sl.mk none 0 0)) p K))))))))
theorem a8v [PanQ] (x0:a8) (x1:Int) {H:Hp} {K:f8→a8→Hp→Prop} (h:a4r x0 x1 H K):Q5 x0 x1 H K:=by
 intro g0
 refine Ct.ofE fun w0 w ps0 H0 R E I hR hE=>c8s ?_
 refine r7 I Tryz.zeroValue39 (cs:=[(vi 0),(vi 0),(eS),(nS)]) rfl fun k bn af bo=>?_
 have hj1:∀(C7:a8) H w (_:Inv w0 ps0 H0 H [bx g0 86 (b9 C7),bx k 39 [(vi (f8.mk 0 0 ⟨#[]⟩ (Sl.mk none 0 0)).d6),(vi (f8.mk 0 0 ⟨#[]⟩ (Sl.mk none 0 0)).M4),(Value.string (f8.mk 0 0 ⟨#[]⟩ (Sl.mk none 0 0)).o8),(Value.slice (f8.mk 0 0 ⟨#[]⟩ (Sl.mk none 0 0)).N8.a (f8.mk 0 0 ⟨#[]⟩ (Sl.mk none 0 0)).N8.n (f8.mk 0 0 ⟨#[]⟩ (Sl.mk none 0 0)).N8.c)]] w) (_:W4 x1 C7 (f8.mk 0 0 ⟨#[]⟩ (Sl.mk none 0 0)) H K),c0w (Value.pointer (some ⟨g0,0,none⟩)) (vi x1) (Value.pointer (some ⟨k,0,none⟩)) w R E:=by
  intro C7 H w I h
  intro _
  refine z7 hE Tryz.call68 (h g0) I ?_
  rintro _ ag _ bp ah _ _ ⟨b,ai,rfl,rfl,h⟩
  refine r7 ah Tryz.zeroValue88 (cs:=[(vi 0),(eS),(vi 0),(vi 0),(vi 0)]) rfl fun bq br aj bs=>?_
  refine A9 aj Tryz.sizeOf88 (vs:=(g8 b)) fun bt d bu=>?_
  refine a7 a4c (b8 (l1 Tryz.isAgg3 d rfl) (a7 pEq ?_))
  refine j7 h (fun _ h=>?_) (fun _ h=>?_)
  ·refine a7 a8U (b8 (l1 Tryz.isAgg2 d rfl) (a7 (a5Z _ _) ?_))
   refine A9 (d.bring 2) Tryz.sizeOf39 (vs:=[(vi 1),(vi b.M4),(eS),(nS)]) fun bv l bw=>?_
   refine M2 Tryz.isAgg39 Tryz.sizeOf39 rfl l ?_
   exact hR _ ag _ _ l.drop.drop ⟨(f8.mk 1 b.M4 ⟨#[]⟩ (Sl.mk none 0 0)),ai,rfl,rfl,h⟩
  ·refine g6 Tryz.call69 (h g0) (d.bring 1) ?_
   rintro _ ak _ bz g _ _ ⟨ca,m,rfl,rfl,h⟩
   refine a7 (T6 _) ?_
   refine p6 h (fun _ h=>?_) (fun _ h=>?_)
   ·refine a7 X1 (b8 (l1 Tryz.isAgg9 (g.bring 1) rfl) (a7 (b7t _ _) ?_))
    refine A9 (g.bring 2) Tryz.sizeOf39 (vs:=[(vi 2),(vi 0),(Value.string b.E1),(nS)]) fun cb o cc=>?_
    refine M2 Tryz.isAgg39 Tryz.sizeOf39 rfl o ?_
    exact hR _ ak _ _ (o.drop.bring 1).drop ⟨(f8.mk 2 0 b.E1 (Sl.mk none 0 0)),m,rfl,rfl,h⟩
   ·refine T1 g fun cd f=>?_
    refine o0 X1 ?_
    refine u7 (l1 Tryz.isAgg9 (f.bring 1) rfl) ?_
    refine z7 hE Tryz.call70 (h g0) f ?_
    rintro _ _ _ ce p _ al ⟨am,an,rfl,rfl,h⟩
    refine ⟨(al _ (f.bring 1).lt1 (Inv.a1Y (Fi:=[bx g0 86 (b9 m)]) ((f.bring 1).bring 1))),?_⟩
    refine O4 (e:=39) (c:=f7) (xs:=[am]) p (b2O _ _ _ _ _ _) rfl rfl P9 Q0 (nb rfl) fun i cf cg ao ap aq=>?_
    refine ⟨(aq _ (p.bring 1).lt1),?_⟩
    refine o0 (b4S _ _ _ _ _) ?_
    refine A9 (ap.bring 3) Tryz.sizeOf39 (vs:=[(vi 4),(vi 0),(Value.string b.E1),(vs i)]) fun ch q ci=>?_
    refine M2 Tryz.isAgg39 Tryz.sizeOf39 rfl q ?_
    obtain ⟨r,ar,au,av,aw⟩:=Inv.freezeC (q.bring 1) ao (by decide)
    replace h:=h i r au av aw
    exact hR _ r _ _ (ar.drop.bring 1).drop ⟨(f8.mk 4 0 b.E1 i),an,rfl,rfl,h⟩
 refine u2 fun j1 hx1=>?_
 refine g6 Tryz.call101 (h g0) (af.bring 1) ?_
 rintro _ _ _ cj s _ _ ⟨ck,rfl,rfl,h⟩
 refine a7 (T6 _) ?_
 refine p6 h (fun _ h=>?_) (fun _ h=>?_)
 ·refine z7 hE Tryz.call36 (h g0) s ?_
  rintro _ ax _ cl ay _ _ ⟨rfl,rfl,h⟩
  exact hx1 _ _ (hj1 x0 ax _ ((ay.bring 1).bring 1) h)
 ·refine g6 Tryz.call69 (h g0) s ?_
  rintro _ _ _ cm t _ _ ⟨cn,co,rfl,rfl,h⟩
  refine p6 h (fun _ h=>?_) (fun _ h=>?_)
  ·refine a7 pAd ?_
   refine g6 Tryz.call101 (h g0) t ?_
   rintro _ _ _ cp az _ _ ⟨cq,rfl,rfl,h⟩
   refine z7 hE Tryz.call39 (h g0) az ?_
   rintro _ _ _ cr ba _ _ ⟨rfl,rfl,h⟩
   refine a7 pAd ?_
   refine z7 hE Tryz.call132 (h g0) ba ?_
   rintro _ _ _ ct bb _ _ ⟨bc,bd,rfl,rfl,h⟩
   refine O4 (e:=39) (c:=f7) (xs:=[bc]) bb (b2O _ _ _ _ _ _) rfl rfl P9 Q0 (nb rfl) fun j cu cv be bf cw=>?_
   refine a7 (a6a _ _ _ _) ?_
   refine A9 (bf.bring 2) Tryz.sizeOf39 (vs:=[(vi 5),(vi 0),(eS),(vs j)]) fun cx u cy=>?_
   refine M2 Tryz.isAgg39 Tryz.sizeOf39 rfl u ?_
   obtain ⟨v,bg,bh,bi,bj⟩:=Inv.freezeC (u.bring 1) be (by decide)
   replace h:=h j v bh bi bj
   exact hR _ v _ _ bg.drop ⟨(f8.mk 5 0 ⟨#[]⟩ j),bd,rfl,rfl,h⟩
  ·refine g6 Tryz.call69 (h g0) t ?_
   rintro _ _ _ cz y _ _ ⟨da,db,rfl,rfl,h⟩
   refine p6 h (fun _ h=>?_) (fun _ h=>?_)
   ·refine z7 hE Tryz.call70 (h g0) y ?_
    rintro _ bk _ dc bl _ _ ⟨z,bm,rfl,rfl,h⟩
    refine A9 (bl.bring 1) Tryz.sizeOf39 (vs:=(f7 z)) fun dd aa de=>?_
    refine M2 Tryz.isAgg39 Tryz.sizeOf39 rfl aa ?_
    exact hR _ bk _ _ aa.drop ⟨z,bm,rfl,rfl,h⟩
   ·refine g6 Tryz.call69 (h g0) y ?_
    rintro _ ab _ df ac _ _ ⟨dg,ad,rfl,rfl,h⟩
    refine p6 h (fun _ h=>?_) (fun _ h=>?_)
    ·refine a7 (b9P _) ?_
     refine A9 (ac.bring 1) Tryz.sizeOf39 (vs:=[(vi 3),(vi 0),(eS),(nS)]) fun dh ae di=>?_
     refine M2 Tryz.isAgg39 Tryz.sizeOf39 rfl ae ?_
     exact hR _ ab _ _ ae.drop ⟨(f8.mk 3 0 ⟨#[]⟩ (Sl.mk none 0 0)),ad,rfl,rfl,h⟩
    ·exact hx1 _ _ (hj1 ad ab _ ((ac.bring 1).bring 1) h)
def a6L(x0:f8)(H:Hp)(K:d8→Hp→Prop):Prop:=
 K (d8.G3 (L4.mk x0)) H
theorem b1h(x0){H K}(h:a6L x0 H K):a6J x0 H K:=by
 refine Ct.of fun w0 w ps0 H0 R E I hR=>c8E ?_
 refine E9 I (cs:=(f7 x0)) rfl fun b c a d=>?_
 refine b8 (lW Tryz.isAgg39 Tryz.sizeOf39 rfl a) (a7 (b2h _ _ _ _ _ _) (a7 (a7s (L4.mk x0)) ?_))
 exact hR _ H _ _ a.drop ⟨_,rfl,rfl,h⟩
def J0(V5:(List d8))(H:Hp)(K:Sl→Hp→Prop):Prop:=
 ∀(G1:Sl)(a:Hp),Hle H a→SlH a 1 s8 G1 V5→G1.n≤G1.c→
 K G1 a
def J5(E0:Sl)(a4S:Int)(v7:(List d8))(u4:Int)(H:Hp)(n2:((List d8)×Int)→Hp→Prop)(K:Sl→Hp→Prop):Prop:=
 (u4 < a4S→
 (0:Int)≤u4∧(u4:Int) < E0.n∧∃a:f8,EltH H E0 u4 4 (f7 a)∧
 a6J a H (fun b c=>
 (v7.length+([b]:List d8).length)*17≤140737488355328∧
 n2 ((v7++[b]),(IntKind.wrap .i64 (u4+1))) c))∧
 (¬(u4 < a4S)→
 J0 v7 H K)
def S4(x0:Sl)(H:Hp)(K:Sl→Hp→Prop):Prop:=
 TL (([],0):(List d8)×Int) H fun(s:(List d8)×Int) H n2=>J5 x0 (x0.n:Int) s.1 s.2 H n2 K
theorem a1b(x0){H K}(h:S4 x0 H K):B2 x0 H K:=by
 refine Ct.of fun w0 w ps0 H0 R E I hR=>c8D ?_
 have hj1:∀(V5:(List d8))(G1:Sl)(Fs5j1:Frag) H w (_:RowL 107 1 s8 G1 V5 Fs5j1) (_:Inv w0 ps0 H0 H [Fs5j1] w) (_:J0 V5 H K),c0D (vs G1) w R E:=by
  intro V5 G1 Fs5j1 H w a8W I h
  intro _
  obtain ⟨j,q,r,t,u⟩:=Inv.freezeC I a8W (by decide)
  replace h:=h G1 j r t u
  exact hR _ j _ _ q ⟨_,rfl,rfl,h⟩
 refine u2 fun j1 hx1=>?_
 refine a7 (a4K _ _ _) ?_
 obtain ⟨f,d,v,y⟩:=h
 refine R1 (J:=fun n l w=>∃(s:(List d8)×Int)(H:Hp)(V6:Sl)(Fs5l2:Frag),n=d s∧l=(match s with | (v7,u4)=>[(vs V6),(vi u4)])∧(match s with | (v7,u4)=>RowL 107 1 s8 V6 v7 Fs5l2)∧(match s with | (v7,u4)=>Inv w0 ps0 H0 H [Fs5l2] w)∧f s H) ⟨_,([],0),H,(Sl.mk none 0 0),[],rfl,rfl,(RowL.nil Q1 S1),I.nil,v⟩ ?_
 rintro am an w next2 ⟨⟨v7,u4⟩,H,V6,Fs5l2,rfl,g,a2g,I,z⟩ hn2
 dsimp only at g I a2g
 simp only [List.map_cons,List.map_nil,List.cons.injEq,and_true] at g
 obtain ⟨e5,e10⟩:=g
 simp only [e5,e10]
 obtain ⟨n2,hm2,h⟩:∃n2:((List d8)×Int)→Hp→Prop,(∀s' H',n2 s' H'→f s' H'∧d s' < d (v7,u4))∧J5 x0 (x0.n:Int) v7 u4 H n2 K:=⟨_,fun _ _ h=>h,y (v7,u4) H (fun s' H'=>f s' H'∧d s' < d (v7,u4)) z (fun _ _ a b=>⟨a,b⟩)⟩
 refine a7 pLs ?_
 refine j7 h (fun _ h=>?_) (fun _ h=>?_)
 ·obtain ⟨aa,ab,k,i,h⟩:=h
  obtain ⟨ao,ap,ac,i⟩:=i
  refine a7 (a1N ac _ _ _ _ aa ab) (b8 (ldA (vs:=(f7 k)) Tryz.isAgg39 Tryz.sizeOf39 rfl (I.atH i)) ?_)
  refine r7 I Tryz.zeroValue39 (cs:=[(vi 0),(vi 0),(eS),(nS)]) rfl fun aq ar ad au=>?_
  refine A9 ad Tryz.sizeOf39 (vs:=(f7 k)) fun av m aw=>?_
  refine b8 (lW Tryz.isAgg39 Tryz.sizeOf39 rfl m) ?_
  refine g6 Tryz.call173 h m ?_
  rintro _ ae _ ax af _ _ ⟨o,rfl,rfl,h⟩
  refine O4 (e:=107) (c:=s8) (xs:=[o]) af (a9p _) rfl rfl Q1 S1 (nb rfl) fun ay az ba ag p bb=>?_
  obtain ⟨ah,h⟩:=h
  refine b0z (s:=V6) (xs:=v7) (p.bring 2) a2g (ag.srcO ((p.bring 2).bring 1)) ah fun ai aj bc ak al bd=>?_
  refine a7 pAd ?_
  exact hn2 _ _ _ (hm2 _ _ h).2 ⟨((v7++[o]),(IntKind.wrap .i64 (u4+1))),ae,ai,aj,rfl,rfl,ak,((al.bring 1).drop.bring 1).drop,(hm2 _ _ h).1⟩
 ·exact hx1 _ _ (hj1 v7 V6 Fs5l2 H _ a2g I h)
def a5F(x0:Y7)(H:Hp)(K:Bool→Hp→Prop):Prop:=
 K ((decide (0≤x0.a0I.D4))&&(decide (x0.a0I.D4≤2147483647))) H
theorem a9Q(x0){H K}(h:a5F x0 H K):a5E x0 H K:=by
 refine Ct.of fun w0 w ps0 H0 R E I hR=>c8F ?_
 refine E9 I (cs:=(u1 x0.a0I)) rfl fun c d b e=>?_
 refine a7 b0j (a7 a6C (b8 (l1 Tryz.isAgg3 b rfl) (a7 pGe ?_)))
 refine a7 (Pu.g fun a=>by with_reducible exact b0j) ?_
 refine a7 (Pu.g fun a=>by simp only [o9 a];with_reducible exact a6C) ?_
 refine b8 (Ld.g fun a=>by simp only [o9 a];exact (l1 Tryz.isAgg3 b rfl)) ?_
 refine a7 (Pu.g fun a=>by simp only [o9 a];with_reducible exact pLe) ?_
 refine a7 (D9 _ _) ?_
 exact hR _ H _ _ b.drop ⟨_,rfl,rfl,h⟩
def a4T(x0:Y7)(H:Hp)(K:Sl→Hp→Prop):Prop:=
 K (Sl.mk none 0 0) H
theorem a9s(x0){H K}(h:a4T x0 H K):a4P x0 H K:=by
 refine Ct.of fun w0 w ps0 H0 R E I hR=>c8G ?_
 refine E9 I (cs:=(u1 x0.a0I)) rfl fun b c a d=>?_
 exact hR _ H _ _ a.drop ⟨_,rfl,rfl,h⟩
def a4U(x0:V3)(H:Hp)(K:Sl→Hp→Prop):Prop:=
 B2 x0.u6.p7 H (fun d e=>
 D8 x0.u6.E6 e (fun f g=>
 ∀(a:Sl)(b:Hp),Hle g b→SlH b 1 csl a [d,f]→a.n≤a.c→
 D1 a b (fun i j=>
 K i j)))
theorem a9t(x0){H K}(h:a4U x0 H K):a4R x0 H K:=by
 refine Ct.of fun w0 w ps0 H0 R E I hR=>c8N ?_
 refine E9 I (cs:=(g7 x0.u6)) rfl fun v y b z=>?_
 refine T1 b fun aa a=>?_
 refine o0 a1j ?_
 refine o0 a5s ?_
 refine o0 a1j ?_
 refine o0 a4e ?_
 refine u7 (l1 Tryz.isAgg37 a rfl) ?_
 refine u7 (l1 Tryz.isAgg52 a rfl) ?_
 refine g6 Tryz.call172 h a ?_
 rintro _ _ _ ab d _ f ⟨g,rfl,rfl,h⟩
 refine ⟨(f _ a.lt1 (Inv.a1Y (Fi:=[]) a)),?_⟩
 refine g6 Tryz.call178 h d ?_
 rintro _ _ _ ac i _ _ ⟨j,rfl,rfl,h⟩
 refine O4 (e:=101) (c:=csl) (xs:=[g,j]) i (b8d _ _ _ _ _ _) rfl rfl b7z b7A (nb rfl) fun k ad ae l m af=>?_
 obtain ⟨n,o,p,q,r⟩:=Inv.freezeC m l (by decide)
 replace h:=h k n p q r
 refine g6 Tryz.call51 h o ?_
 rintro _ s _ ag t _ _ ⟨u,rfl,rfl,h⟩
 exact hR _ s _ _ t.drop ⟨u,rfl,rfl,h⟩
end Go.Proofs.YtoflkliecagjcaaGreatDoor
