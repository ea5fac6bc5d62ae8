/- Typed formulas of the program's functions, and the theorems that the contracts follow from them; printed by lift.py off the code. -/
import Derived.Test.YtoflkliecagjcaaGreatDooryBV1
namespace Go.Proofs.YtoflkliecagjcaaGreatDoor
open Go.RowKit
set_option maxRecDepth 100000
set_option maxHeartbeats 2000000
def a6R(x0:i6)(H:Hp)(K:d8→Hp→Prop):Prop:=
 K (d8.O1 (Y7.mk x0)) H
theorem b1n(x0){H K}(h:a6R x0 H K):a6H x0 H K:=by
 refine Ct.of fun w0 w ps0 H0 R E I hR=>d1g ?_
 refine E9 I (cs:=(u1 x0)) rfl fun b c a d=>?_
 refine b8 (lW Tryz.isAgg49 Tryz.sizeOf49 rfl a) (a7 (b8e _ _) (a7 (b5P (Y7.mk x0)) ?_))
 exact hR _ H _ _ a.drop ⟨_,rfl,rfl,h⟩
def a6S(x0:d9)(H:Hp)(K:d8→Hp→Prop):Prop:=
 K (d8.L5 (V2.mk x0)) H
theorem b1o(x0){H K}(h:a6S x0 H K):a6I x0 H K:=by
 refine Ct.of fun w0 w ps0 H0 R E I hR=>d1j ?_
 refine E9 I (cs:=(k7 x0)) rfl fun b c a d=>?_
 refine b8 (lW Tryz.isAgg54 Tryz.sizeOf54 rfl a) (a7 (b8f _ _ _ _ _ _ _ _ _ _ _ _ _ _) (a7 (b5Q (V2.mk x0)) ?_))
 exact hR _ H _ _ a.drop ⟨_,rfl,rfl,h⟩
def X4(b8l:Int)(H:Hp)(K:Int→Hp→Prop):Prop:=
 K b8l H
def a1H(b:ByteArray)(b2n:Int)(a:Nat)(H:Hp)(n2:(Int×Nat)→Hp→Prop)(K:Int→Hp→Prop):Prop:=
 (a < b.size→
 n2 ((IntKind.wrap .i64 (b2n+1)),(a+(Utf8.decode b a).2)) H)∧
 (¬(a < b.size)→
 X4 b2n H K)
def a2A(x0:ByteArray)(H:Hp)(K:Int→Hp→Prop):Prop:=
 TL ((0,0):Int×Nat) H fun(s:Int×Nat) H n2=>a1H x0 s.1 s.2 H n2 K
theorem a6l(x0){H K}(h:a2A x0 H K):Z8 x0 H K:=by
 refine Ct.of fun w0 w ps0 H0 R E I hR=>c8z ?_
 have hj1:∀(b8l:Int) H w (_:Inv w0 ps0 H0 H [] w) (_:X4 b8l H K),c0z (vi b8l) w R E:=by
  intro b8l H w I h
  intro _
  exact hR _ H _ _ I ⟨_,rfl,rfl,h⟩
 refine u2 fun j1 hx1=>?_
 refine b2L Tryz.underlying9 x0 I fun d i f j=>?_
 refine a2x (σ:=Int×Nat) (fun (b2n,a)=>[(vi b2n)]) (fun (b2n,a)=>[itf d x0 a]) h rfl f ?_
 rintro ⟨b2n,a⟩ H k w next2 n2 b I h hn2
 dsimp only at b I h
 simp only [List.map_cons,List.map_nil,List.cons.injEq,and_true] at b
 have e2:=b
 simp only [e2]
 refine b4K I (fun c l g m=>?_) (fun c=>?_)
 ·replace h:=h.1 c
  refine a7 (j9 _ _ (vB true) rfl) ?_
  refine W8 (fun e=>?_) (fun e=>by cases e)
  refine a7 pAd ?_
  exact hn2 ((IntKind.wrap .i64 (b2n+1)),(a+(Utf8.decode x0 a).2)) _ _ h g
 ·replace h:=h.2 c
  refine a7 (j9 _ _ (vB false) rfl) ?_
  refine W8 (fun e=>by cases e) (fun e=>?_)
  exact hx1 _ _ (hj1 b2n H _ I.drop h)
def a0b(H:Hp)(K:Int→Hp→Prop):Prop:=
 K (-1) H
def a2O(d4h:(List ByteArray))(a3L:ByteArray)(C6:Int)(E0:Int)(H:Hp)(n2:Int→Hp→Prop)(K:Int→Hp→Prop):Prop:=
 (E0 < C6→
 (0:Int)≤E0∧∃a:ByteArray,(d4h)[(E0:Int).toNat]? = some a∧
 (a3L=a→
 K E0 H)∧
 (¬(a3L=a)→
 n2 (IntKind.wrap .i64 (E0+1)) H))∧
 (¬(E0 < C6)→
 a0b H K)
def a3O(x0:(List ByteArray))(x1:ByteArray)(H:Hp)(K:Int→Hp→Prop):Prop:=
 TL (0:Int) H fun(s:Int) H n2=>a2O x0 x1 (x0.length:Int) s H n2 K
theorem a7D(x0 x1){H K}(h:a3O x0 x1 H K):a0V x0 x1 H K:=by
 intro sx0 Fx0 hx0
 refine Ct.of fun w0 w ps0 H0 R E I hR=>c8x ?_
 have hj1:∀H w (_:Inv w0 ps0 H0 H [Fx0] w) (_:a0b H K),c0y w R E:=by
  intro H w I h
  intro _
  exact hR _ H _ _ I ⟨_,rfl,rfl,h⟩
 refine u2 fun j1 hx1=>?_
 refine a7 (a8R Tryz.underlying67 hx0) ?_
 refine a2x (σ:=Int) (fun E0=>[(vi E0)]) (fun E0=>[Fx0]) h rfl I ?_
 rintro E0 H f w next2 n2 b I h hn2
 simp only [List.map_cons,List.map_nil,List.cons.injEq,and_true] at b
 have e8:=b
 simp only [e8]
 refine a7 pLs ?_
 refine j7 h (fun _ h=>?_) (fun _ h=>?_)
 ·obtain ⟨c,e,a,h⟩:=h
  obtain ⟨g,i,d,j⟩:=hx0.addr a
  refine a7 (b3X d _ _ _ _ c (hx0.lt c a)) (b8 (ld1 (v:=(Value.string e)) Tryz.isAgg9 (hx0.atW I d a)) (a7 (R3 _ _ _ _ _) ?_))
  refine j7 h (fun _ h=>?_) (fun _ h=>?_)
  ·exact hR _ H _ _ I ⟨_,rfl,rfl,h⟩
  ·refine a7 pAd ?_
   exact hn2 (IntKind.wrap .i64 (E0+1)) _ _ h I
 ·exact hx1 _ _ (hj1 H _ I h)
def a8P(x0:g9)(H:Hp)(K:m7→Hp→Prop):Prop:=
 L2 x0.a0f H (fun d e=>
 B1 x0.a5h e (fun f g=>
 ∀(a:Sl)(b:Hp),Hle g b→SlH b 1 csl a [d,f]→a.n≤a.c→
 D1 a b (fun i j=>
 a2e i j (fun k l=>
 K k l))))
theorem b3z(x0){H K}(h:a8P x0 H K):a5J x0 H K:=by
 refine Ct.of fun w0 w ps0 H0 R E I hR=>d0y ?_
 refine E9 I (cs:=(o7 x0)) rfl fun z aa b ab=>?_
 refine T1 b fun ac a=>?_
 refine o0 a5l ?_
 refine o0 a5m ?_
 refine u7 (l1 Tryz.isAgg22 a rfl) ?_
 refine u7 (l1 Tryz.isAgg23 a rfl) ?_
 refine g6 Tryz.call52 h a ?_
 rintro _ _ _ ad d _ f ⟨g,rfl,rfl,h⟩
 refine ⟨(f _ a.lt1 (Inv.a1Y (Fi:=[]) a)),?_⟩
 refine g6 Tryz.call54 h d ?_
 rintro _ _ _ ae i _ _ ⟨j,rfl,rfl,h⟩
 refine O4 (e:=101) (c:=csl) (xs:=[g,j]) i (b8d _ _ _ _ _ _) rfl rfl b7z b7A (nb rfl) fun k af ag l m ah=>?_
 obtain ⟨n,o,p,q,r⟩:=Inv.freezeC m l (by decide)
 replace h:=h k n p q r
 refine g6 Tryz.call51 h o ?_
 rintro _ _ _ ai s _ _ ⟨aj,rfl,rfl,h⟩
 refine g6 Tryz.call46 h s ?_
 rintro _ t _ ak u _ _ ⟨v,y,rfl,rfl,h⟩
 exact hR _ t _ _ (u.bring 1).drop ⟨v,y,rfl,rfl,h⟩
def a5W(x0:f8)(x1:f8)(H:Hp)(K:Bool→Hp→Prop):Prop:=
 TG ((((decide (x0.d6=x1.d6))&&(decide (x0.M4=x1.M4)))&&(decide (x0.o8=x1.o8)))=true) (m9 x0.N8 x1.N8 H) false H (fun(a:Bool)(b:Hp)=>
 K ((((decide (x0.d6=x1.d6))&&(decide (x0.M4=x1.M4)))&&(decide (x0.o8=x1.o8)))&&a) b)
theorem b0r(x0 x1){H K}(h:a5W x0 x1 H K):a1k x0 x1 H K:=by
 refine Ct.of fun w0 w ps0 H0 R E I hR=>d0T ?_
 refine E9 I (cs:=(f7 x0)) rfl fun m n k o=>?_
 refine E9 k (cs:=(f7 x1)) rfl fun p q b r=>?_
 refine a7 a1i (b8 (l1 Tryz.isAgg3 (b.bring 1) rfl) (a7 a1i (b8 (l1 Tryz.isAgg3 b rfl) (a7 pEq ?_))))
 refine a7 (Pu.g fun a=>by with_reducible exact a6E) ?_
 refine b8 (Ld.g fun a=>by simp only [o9 a];exact (l1 Tryz.isAgg2 (b.bring 1) rfl)) ?_
 refine a7 (Pu.g fun a=>by with_reducible exact a6E) ?_
 refine b8 (Ld.g fun a=>by simp only [o9 a];exact (l1 Tryz.isAgg2 b rfl)) ?_
 refine a7 (Pu.g fun a=>by simp only [o9 a];with_reducible exact pEq) ?_
 refine a7 (D9 _ _) ?_
 refine a7 (Pu.g fun a=>by with_reducible exact a5n) ?_
 refine b8 (Ld.g fun a=>by simp only [o9 a];exact (l1 Tryz.isAgg9 (b.bring 1) rfl)) ?_
 refine a7 (Pu.g fun a=>by with_reducible exact a5n) ?_
 refine b8 (Ld.g fun a=>by simp only [o9 a];exact (l1 Tryz.isAgg9 b rfl)) ?_
 refine a7 (Pu.g fun a=>by simp only [o9 a];with_reducible exact (R3 _ _ _ _ _)) ?_
 refine a7 (D9 _ _) ?_
 refine a7 (Pu.g fun a=>by with_reducible exact a3f) ?_
 refine b8 (Ld.g fun a=>by simp only [o9 a];exact (l1 Tryz.isAgg37 (b.bring 1) rfl)) ?_
 refine a7 (Pu.g fun a=>by with_reducible exact a3f) ?_
 refine b8 (Ld.g fun a=>by simp only [o9 a];exact (l1 Tryz.isAgg37 b rfl)) ?_
 refine M3 [] (fun c:Bool=>(vB c)) h b (fun a h=>by simp only [o9 a];exact N9 Tryz.call42 h b) fun c d l e i j h=>?_
 refine a7 (D9 _ _) ?_
 exact hR _ d _ _ e.drop.drop ⟨_,rfl,rfl,h⟩
def B8(H:Hp)(K:Bool→Hp→Prop):Prop:=
 K true H
def B9(a3L:Sl)(Z5:Sl)(b0a:Int)(L1:Int)(H:Hp)(n2:Int→Hp→Prop)(K:Bool→Hp→Prop):Prop:=
 (L1 < b0a→
 (0:Int)≤L1∧(L1:Int) < Z5.n∧∃a:i7,EltH H Z5 L1 4 (g7 a)∧
 (0:Int)≤L1∧(L1:Int) < a3L.n∧∃b:i7,EltH H a3L L1 4 (g7 b)∧
 a1l a b H (fun c d=>
 ((!c)=true→
 K false d)∧
 ((!c)=false→
 n2 (IntKind.wrap .i64 (L1+1)) d)))∧
 (¬(L1 < b0a)→
 B8 H K)
def C3(x0:Sl)(x1:Sl)(H:Hp)(K:Bool→Hp→Prop):Prop:=
 (¬((x0.n:Int)=(x1.n:Int))→
 K false H)∧
 ((x0.n:Int)=(x1.n:Int)→
 TL (0:Int) H fun(s:Int) H n2=>B9 x1 x0 (x0.n:Int) s H n2 K)
theorem M7(x0 x1){H K}(h:C3 x0 x1 H K):q7 x0 x1 H K:=by
 refine Ct.of fun w0 w ps0 H0 R E I hR=>d0V ?_
 refine a7 (a6n _ _ _) (a7 (a6n _ _ _) (a7 pNe ?_))
 refine a0S h (fun _ h=>?_) (fun _ h=>?_)
 ·exact hR _ H _ _ I ⟨_,rfl,rfl,h⟩
 ·have hj1:∀H w (_:Inv w0 ps0 H0 H [] w) (_:B8 H K),c3k w R E:=by
   intro H w I h
   intro _
   exact hR _ H _ _ I ⟨_,rfl,rfl,h⟩
  refine u2 fun j1 hx1=>?_
  refine a7 (a6n _ _ _) ?_
  refine a2x (σ:=Int) (fun L1=>[(vi L1)]) (fun L1=>[]) h rfl I ?_
  rintro L1 H s w next2 n2 d I h hn2
  simp only [List.map_cons,List.map_nil,List.cons.injEq,and_true] at d
  have e17:=d
  simp only [e17]
  refine a7 pLs ?_
  refine j7 h (fun _ h=>?_) (fun _ h=>?_)
  ·obtain ⟨j,k,e,a,h⟩:=h
   obtain ⟨t,u,l,a⟩:=a
   refine a7 (a3u l _ _ _ _ j k) (b8 (ldA (vs:=(g7 e)) Tryz.isAgg75 Tryz.sizeOf75 rfl (I.atH a)) ?_)
   refine r7 I Tryz.zeroValue75 (cs:=[(vi 0),(vi 0),(nS),(nS)]) rfl fun v y m z=>?_
   refine A9 m Tryz.sizeOf75 (vs:=(g7 e)) fun aa f ab=>?_
   obtain ⟨n,o,g,b,h⟩:=h
   obtain ⟨ac,ad,p,b⟩:=b
   refine a7 (a3u p _ _ _ _ n o) (b8 (ldA (vs:=(g7 g)) Tryz.isAgg75 Tryz.sizeOf75 rfl (f.atH b)) ?_)
   refine r7 f Tryz.zeroValue75 (cs:=[(vi 0),(vi 0),(nS),(nS)]) rfl fun ae af q ag=>?_
   refine A9 q Tryz.sizeOf75 (vs:=(g7 g)) fun ah c ai=>?_
   refine b8 (lW Tryz.isAgg75 Tryz.sizeOf75 rfl (c.bring 1)) (b8 (lW Tryz.isAgg75 Tryz.sizeOf75 rfl c) ?_)
   refine g6 Tryz.call45 h c ?_
   rintro _ r _ aj i _ _ ⟨ak,rfl,rfl,h⟩
   refine a7 (T6 _) ?_
   refine p6 h (fun _ h=>?_) (fun _ h=>?_)
   ·exact hR _ r _ _ i.drop.drop ⟨_,rfl,rfl,h⟩
   ·refine a7 pAd ?_
    exact hn2 (IntKind.wrap .i64 (L1+1)) _ _ h i.drop.drop
  ·exact hx1 _ _ (hj1 H _ I h)
def a1f(d2c:Sl)(d2d:Int)(a5K:Int)(W6:(Option Addr))(T4:(List Int))(N0:Int)(H:Hp)(n1:(Int×(Option Addr)×(List Int)×Int)→Hp→Prop)(K:c7→(List Int)→Hp→Prop):Prop:=
 (a5K < d2d→
 (0:Int)≤a5K∧(a5K:Int) < d2c.n∧∃a:ByteArray,EltH H d2c a5K 1 [(Value.string a)]∧
 Z1 (c7.mk (C5.mk W6 (Sl.mk none 0 0)) N0) T4 H (fun b c=>
 (b=true→
 K (c7.mk (C5.mk W6 (Sl.mk none 0 0)) N0) T4 c)∧
 (b=false→
 a0A (c7.mk (C5.mk W6 (Sl.mk none 0 0)) N0) T4 a c (fun g i d e f=>
 n1 ((IntKind.wrap .i64 (a5K+1)),d.G8.faddr,e,d.fdeep) f))))∧
 (¬(a5K < d2d)→
 K (c7.mk (C5.mk W6 (Sl.mk none 0 0)) N0) T4 H)
def a4H(x0:c7)(a:(List Int))(x1:Sl)(H:Hp)(K:c7→(List Int)→Hp→Prop):Prop:=
 TL ((0,x0.G8.faddr,a,x0.fdeep):Int×(Option Addr)×(List Int)×Int) H fun(s:Int×(Option Addr)×(List Int)×Int) H n1=>a1f x1 (x1.n:Int) s.1 s.2.1 s.2.2.1 s.2.2.2 H n1 K
theorem a9c(x0 d x1){H K}(h:a4H x0 d x1 H K):v6 x0 d x1 H K:=by
 intro g0 k m o
 refine Ct.of fun w0 w ps0 H0 R E I hR=>d0C ?_
 refine a7 (b6A _ _ _) ?_
 obtain ⟨e,c,p,q⟩:=h
 refine R1 (J:=fun n l w=>∃(s:Int×(Option Addr)×(List Int)×Int)(H:Hp)(a4i:Sl)(a4j:Frag),n=c s∧l=(match s with | (a5K,W6,T4,N0)=>[(vi a5K)])∧(match s with | (a5K,W6,T4,N0)=>RowL 5 1 t8 a4i T4 a4j)∧(match s with | (a5K,W6,T4,N0)=>Inv w0 ps0 H0 H [bx g0 47 [(adv g0 W6),(vs a4i),(vi N0)],a4j] w)∧e s H) ⟨_,(0,x0.G8.faddr,d,x0.fdeep),H,k,m,rfl,rfl,o,((I.bring 1).bring 1),p⟩ ?_
 rintro ah ai w next1 ⟨⟨a5K,W6,T4,N0⟩,H,a4i,a4j,rfl,f,a6T,I,r⟩ hn1
 dsimp only at f I a6T
 simp only [List.map_cons,List.map_nil,List.cons.injEq,and_true] at f
 have e8:=f
 simp only [e8]
 obtain ⟨n1,hm1,h⟩:∃n1:(Int×(Option Addr)×(List Int)×Int)→Hp→Prop,(∀s' H',n1 s' H'→e s' H'∧c s' < c (a5K,W6,T4,N0))∧a1f x1 (x1.n:Int) a5K W6 T4 N0 H n1 K:=⟨_,fun _ _ h=>h,q (a5K,W6,T4,N0) H (fun s' H'=>e s' H'∧c s' < c (a5K,W6,T4,N0)) r (fun _ _ a b=>⟨a,b⟩)⟩
 refine a7 pLs ?_
 refine j7 h (fun _ h=>?_) (fun _ h=>?_)
 ·obtain ⟨t,u,y,g,h⟩:=h
  obtain ⟨aj,ak,z,g⟩:=g
  refine a7 (b3X z _ _ _ _ t u) (b8 (ld1 (v:=(Value.string y)) Tryz.isAgg9 (I.atH g)) ?_)
  refine g6 Tryz.call13 (h g0 a4i a4j a6T) ((I.bring 1).bring 1) ?_
  rintro _ aa _ al i _ _ ⟨am,rfl,rfl,h⟩
  refine p6 h (fun _ h=>?_) (fun _ h=>?_)
  ·exact hR _ aa _ _ ((i.bring 1).bring 1) ⟨(c7.mk (C5.mk W6 (Sl.mk none 0 0)) N0),T4,a4i,a4j,rfl,rfl,a6T,h⟩
  ·refine a7 (q9 _) (a7 a8T ?_)
   refine g6 Tryz.call57 (h g0 a4i a4j a6T) ((i.bring 1).bring 1) ?_
   rintro _ ab _ an ac _ _ ⟨ao,ap,j,ad,ae,af,rfl,rfl,ag,h⟩
   refine a7 pAd ?_
   exact hn1 _ _ _ (hm1 _ _ h).2 ⟨((IntKind.wrap .i64 (a5K+1)),j.G8.faddr,ad,j.fdeep),ab,ae,af,rfl,rfl,ag,((ac.bring 1).bring 1),(hm1 _ _ h).1⟩
 ·exact hR _ H _ _ ((I.bring 1).bring 1) ⟨(c7.mk (C5.mk W6 (Sl.mk none 0 0)) N0),T4,a4i,a4j,rfl,rfl,a6T,h⟩
def a4w(x0:c7)(b:(List Int))(x1:f8)(H:Hp)(K:c7→(List Int)→Hp→Prop):Prop:=
 a0i x1.d6 H (fun l a=>
 (x1.d6=1→
 a7g x1.M4 10 a (fun ad ae=>
 ∀(d:Sl)(m:Hp),Hle ae m→SlH m 1 q6 d [ad]→d.n≤d.c→
 v6 (l7 x0) b d m (fun af ag ah=>
 K (l7 af) ag ah)))∧
 (¬(x1.d6=1)→
 (x1.d6=2→
 ∀(e:Sl)(o:Hp),Hle a o→SlH o 1 q6 e [x1.o8]→e.n≤e.c→
 v6 (l7 x0) b e o (fun ai aj ak=>
 K (l7 ai) aj ak))∧
 (¬(x1.d6=2)→
 (x1.d6=3→
 ∀(f:Sl)(p:Hp),Hle a p→SlH p 1 q6 f [⟨#[105,110,112,117,116]⟩]→f.n≤f.c→
 v6 (l7 x0) b f p (fun al am an=>
 K (l7 al) am an))∧
 (¬(x1.d6=3)→
 (x1.d6=4→
 ∀(g:Sl)(q:Hp),Hle a q→SlH q 1 q6 g [x1.o8,⟨#[91]⟩]→g.n≤g.c→
 v6 (l7 x0) b g q (fun ao ap u=>
 (0:Int)≤0∧(0:Int) < x1.N8.n∧∃v:f8,EltH u x1.N8 0 4 (f7 v)∧
 D6 (l7 ao) ap v u (fun aq ar au=>
 ∀(i:Sl)(r:Hp),Hle au r→SlH r 1 q6 i [⟨#[93]⟩]→i.n≤i.c→
 v6 (l7 aq) ar i r (fun av aw ax=>
 K (l7 av) aw ax))))∧
 (¬(x1.d6=4)→
 (x1.d6=5→
 ∀(j:Sl)(s:Hp),Hle a s→SlH s 1 q6 j [⟨#[45]⟩]→j.n≤j.c→
 v6 (l7 x0) b j s (fun ay az y=>
 (0:Int)≤0∧(0:Int) < x1.N8.n∧∃z:f8,EltH y x1.N8 0 4 (f7 z)∧
 Z9 (l7 ay) az z l y (fun ba bb bc=>
 K (l7 ba) bb bc)))∧
 (¬(x1.d6=5)→
 (0:Int)≤0∧(0:Int) < x1.N8.n∧∃aa:f8,EltH a x1.N8 0 4 (f7 aa)∧
 Z9 (l7 x0) b aa l a (fun bd be bf=>
 a2P x1.d6 bf (fun bg bh=>
 ∀(k:Sl)(t:Hp),Hle bh t→SlH t 1 q6 k [⟨#[32]⟩,bg,⟨#[32]⟩]→k.n≤k.c→
 v6 (l7 bd) be k t (fun bi bj ab=>
 (0:Int)≤1∧(1:Int) < x1.N8.n∧∃ac:f8,EltH ab x1.N8 1 4 (f7 ac)∧
 Z9 (l7 bi) bj ac (IntKind.wrap .i64 (l+1)) ab (fun bk bl bm=>
 K (l7 bk) bl bm))))))))))
theorem a8C(x0 o x1){H K}(h:a4w x0 o x1 H K):D6 x0 o x1 H K:=by
 intro g0 b d f
 refine Ct.of fun w0 w ps0 H0 R E I hR=>d0x ?_
 refine E9 I (cs:=(f7 x1)) rfl fun fd fe p ff=>?_
 refine a7 a1i (b8 (l1 Tryz.isAgg3 p rfl) ?_)
 refine g6 Tryz.call47 h p ?_
 rintro _ _ _ fg a _ _ ⟨fh,rfl,rfl,h⟩
 refine a7 a1i (b8 (l1 Tryz.isAgg3 a rfl) (a7 pEq ?_))
 refine j7 h (fun _ h=>?_) (fun _ h=>?_)
 ·refine a7 a6E (b8 (l1 Tryz.isAgg2 a rfl) ?_)
  refine g6 Tryz.call48 h a ?_
  rintro _ _ _ fi r _ _ ⟨s,rfl,rfl,h⟩
  refine O4 (e:=9) (c:=q6) (xs:=[s]) r (X0 _) rfl rfl K8 K9 (nb rfl) fun t fj fk u v fl=>?_
  obtain ⟨y,z,aa,ab,ac⟩:=Inv.freezeC v u (by decide)
  replace h:=h t y aa ab ac
  refine g6 Tryz.call26 (h g0 b d f) ((z.bring 2).bring 2) ?_
  rintro _ ad _ fm ae _ _ ⟨af,ag,ah,ai,rfl,rfl,aj,h⟩
  exact hR _ ad _ _ (((ae.bring 2).drop.bring 1).bring 1) ⟨(l7 af),ag,ah,ai,rfl,rfl,aj,h⟩
 ·refine a7 pEq ?_
  refine j7 h (fun _ h=>?_) (fun _ h=>?_)
  ·refine a7 a5n (b8 (l1 Tryz.isAgg9 a rfl) ?_)
   refine O4 (e:=9) (c:=q6) (xs:=[x1.o8]) a (X0 _) rfl rfl K8 K9 (nb rfl) fun ak fn fo al am fp=>?_
   obtain ⟨an,ao,ap,aq,ar⟩:=Inv.freezeC am al (by decide)
   replace h:=h ak an ap aq ar
   refine g6 Tryz.call26 (h g0 b d f) ((ao.bring 2).bring 2) ?_
   rintro _ au _ fq av _ _ ⟨aw,ax,ay,az,rfl,rfl,ba,h⟩
   exact hR _ au _ _ (((av.bring 2).drop.bring 1).bring 1) ⟨(l7 aw),ax,ay,az,rfl,rfl,ba,h⟩
  ·refine a7 pEq ?_
   refine j7 h (fun _ h=>?_) (fun _ h=>?_)
   ·refine O4 (e:=9) (c:=q6) (xs:=[⟨#[105,110,112,117,116]⟩]) a (X0 _) rfl rfl K8 K9 (nb rfl) fun bb fs ft bc bd fu=>?_
    obtain ⟨be,bf,bg,bh,bi⟩:=Inv.freezeC bd bc (by decide)
    replace h:=h bb be bg bh bi
    refine g6 Tryz.call26 (h g0 b d f) ((bf.bring 2).bring 2) ?_
    rintro _ bj _ fv bk _ _ ⟨bl,bm,bn,bo,rfl,rfl,bp,h⟩
    exact hR _ bj _ _ (((bk.bring 2).drop.bring 1).bring 1) ⟨(l7 bl),bm,bn,bo,rfl,rfl,bp,h⟩
   ·refine a7 pEq ?_
    refine j7 h (fun _ h=>?_) (fun _ h=>?_)
    ·refine a7 a5n (b8 (l1 Tryz.isAgg9 a rfl) ?_)
     refine O4 (e:=9) (c:=q6) (xs:=[x1.o8,⟨#[91]⟩]) a (b0w _ _) rfl rfl K8 K9 (nb rfl) fun bq fw fx br bs fy=>?_
     obtain ⟨bt,bu,bv,bw,bz⟩:=Inv.freezeC bs br (by decide)
     replace h:=h bq bt bv bw bz
     refine g6 Tryz.call26 (h g0 b d f) ((bu.bring 2).bring 2) ?_
     rintro _ _ _ fz g _ _ ⟨ga,gb,ca,cb,rfl,rfl,cc,h⟩
     refine a7 a3f (b8 (l1 Tryz.isAgg37 (g.bring 2) rfl) ?_)
     obtain ⟨cd,ce,cf,i,h⟩:=h
     obtain ⟨gc,gd,cg,i⟩:=i
     refine a7 (a1N cg _ _ _ _ cd ce) (b8 (ldA (vs:=(f7 cf)) Tryz.isAgg39 Tryz.sizeOf39 rfl (g.atH i)) ?_)
     refine g6 Tryz.call22 (h g0 ca cb cc) ((g.bring 1).bring 1) ?_
     rintro _ _ _ ge ch _ _ ⟨gf,gg,ci,cj,rfl,rfl,ck,h⟩
     refine O4 (e:=9) (c:=q6) (xs:=[⟨#[93]⟩]) ch (X0 _) rfl rfl K8 K9 (nb rfl) fun cl gh gi cm cn gj=>?_
     obtain ⟨co,cp,cq,cr,ct⟩:=Inv.freezeC cn cm (by decide)
     replace h:=h cl co cq cr ct
     refine g6 Tryz.call26 (h g0 ci cj ck) ((cp.bring 1).bring 1) ?_
     rintro _ cu _ gk cv _ _ ⟨cw,cx,cy,cz,rfl,rfl,da,h⟩
     exact hR _ cu _ _ (((cv.bring 2).drop.bring 1).bring 1) ⟨(l7 cw),cx,cy,cz,rfl,rfl,da,h⟩
    ·refine a7 pEq ?_
     refine j7 h (fun _ h=>?_) (fun _ h=>?_)
     ·refine O4 (e:=9) (c:=q6) (xs:=[⟨#[45]⟩]) a (X0 _) rfl rfl K8 K9 (nb rfl) fun db gl gm dc dd gn=>?_
      obtain ⟨de,df,dg,dh,di⟩:=Inv.freezeC dd dc (by decide)
      replace h:=h db de dg dh di
      refine g6 Tryz.call26 (h g0 b d f) ((df.bring 2).bring 2) ?_
      rintro _ _ _ go j _ _ ⟨gp,gq,dj,dk,rfl,rfl,dl,h⟩
      refine a7 a3f (b8 (l1 Tryz.isAgg37 (j.bring 2) rfl) ?_)
      obtain ⟨dm,dn,dp,k,h⟩:=h
      obtain ⟨gr,gs,dq,k⟩:=k
      refine a7 (a1N dq _ _ _ _ dm dn) (b8 (ldA (vs:=(f7 dp)) Tryz.isAgg39 Tryz.sizeOf39 rfl (j.atH k)) ?_)
      refine g6 Tryz.call49 (h g0 dj dk dl) ((j.bring 1).bring 1) ?_
      rintro _ dr _ gt ds _ _ ⟨dt,du,dv,dw,rfl,rfl,dx,h⟩
      exact hR _ dr _ _ (((ds.bring 2).drop.bring 1).bring 1) ⟨(l7 dt),du,dv,dw,rfl,rfl,dx,h⟩
     ·refine a7 a3f (b8 (l1 Tryz.isAgg37 a rfl) ?_)
      obtain ⟨dy,dz,ea,l,h⟩:=h
      obtain ⟨gu,gv,eb,l⟩:=l
      refine a7 (a1N eb _ _ _ _ dy dz) (b8 (ldA (vs:=(f7 ea)) Tryz.isAgg39 Tryz.sizeOf39 rfl (a.atH l)) ?_)
      refine g6 Tryz.call49 (h g0 b d f) ((a.bring 2).bring 2) ?_
      rintro _ _ _ gw q _ _ ⟨gx,gy,ec,ed,rfl,rfl,ee,h⟩
      refine a7 a1i (b8 (l1 Tryz.isAgg3 (q.bring 2) rfl) ?_)
      refine g6 Tryz.call50 h q ?_
      rintro _ _ _ gz ef _ _ ⟨eg,rfl,rfl,h⟩
      refine O4 (e:=9) (c:=q6) (xs:=[⟨#[32]⟩,eg,⟨#[32]⟩]) ef (b2N _ _ _) rfl rfl K8 K9 (nb rfl) fun eh ha hb ei ej hc=>?_
      obtain ⟨ek,el,em,en,eo⟩:=Inv.freezeC ej ei (by decide)
      replace h:=h eh ek em en eo
      refine g6 Tryz.call26 (h g0 ec ed ee) ((el.bring 1).bring 1) ?_
      rintro _ _ _ hd m _ _ ⟨he,hf,ep,eq,rfl,rfl,er,h⟩
      refine a7 a3f (b8 (l1 Tryz.isAgg37 (m.bring 2) rfl) ?_)
      obtain ⟨es,et,eu,n,h⟩:=h
      obtain ⟨hg,hh,ev,n⟩:=n
      refine a7 (a1N ev _ _ _ _ es et) (b8 (ldA (vs:=(f7 eu)) Tryz.isAgg39 Tryz.sizeOf39 rfl (m.atH n)) (a7 pAd ?_))
      refine g6 Tryz.call49 (h g0 ep eq er) ((m.bring 1).bring 1) ?_
      rintro _ ew _ hi ex _ _ ⟨ey,ez,fa,fb,rfl,rfl,fc,h⟩
      exact hR _ ew _ _ (((ex.bring 2).drop.bring 1).bring 1) ⟨(l7 ey),ez,fa,fb,rfl,rfl,fc,h⟩
def a8D [PanQ] (x0:a8) (x1:ByteArray) (H:Hp) (K:a8→Hp→Prop):Prop:=
 t7 x0 x1 H (fun b a c=>
 ((!b)=true→
 D7 a c (fun d=>
 K a d))∧
 ((!b)=false→
 K a c))
theorem a8E [PanQ] (x0:a8) (x1:ByteArray) {H:Hp} {K:a8→Hp→Prop} (h:a8D x0 x1 H K):C4 x0 x1 H K:=by
 intro g0
 refine Ct.ofE fun w0 w ps0 H0 R E I hR hE=>d1u ?_
 refine g6 Tryz.call69 (h g0) I ?_
 rintro _ c _ f a _ _ ⟨g,b,rfl,rfl,h⟩
 refine a7 (T6 _) ?_
 refine p6 h (fun _ h=>?_) (fun _ h=>?_)
 ·refine z7 hE Tryz.call36 (h g0) a ?_
  rintro _ d _ i e _ _ ⟨rfl,rfl,h⟩
  exact hR _ d _ _ e ⟨b,rfl,rfl,h⟩
 ·exact hR _ c _ _ a ⟨b,rfl,rfl,h⟩
def a0C [PanQ] (C7:a8) (a:b7) (b:b7) (H:Hp) (K:b7→a8→Hp→Prop):Prop:=
 K a (a8.mk C7.fl (IntKind.wrap .i64 (C7.fn+1))) H
def a8F [PanQ] (x0:a8) (H:Hp) (K:b7→a8→Hp→Prop):Prop:=
 B0 x0 H (fun a b=>
 (a.d6=5→
 D7 x0 b (fun c=>
 a0C x0 a (b7.mk 0 ⟨#[]⟩ 0 (c8.mk 0 0)) c K))∧
 (¬(a.d6=5)→
 a0C x0 a (b7.mk 0 ⟨#[]⟩ 0 (c8.mk 0 0)) b K))
theorem a8G [PanQ] (x0:a8) {H:Hp} {K:b7→a8→Hp→Prop} (h:a8F x0 H K):Q3 x0 H K:=by
 intro g0
 refine Ct.ofE fun w0 w ps0 H0 R E I hR hE=>d1v ?_
 refine r7 I Tryz.zeroValue88 (cs:=[(vi 0),(eS),(vi 0),(vi 0),(vi 0)]) rfl fun c n g o=>?_
 refine g6 Tryz.call35 (h g0) (g.bring 1) ?_
 rintro _ i _ p j _ _ ⟨a,rfl,rfl,h⟩
 refine r7 j Tryz.zeroValue88 (cs:=[(vi 0),(eS),(vi 0),(vi 0),(vi 0)]) rfl fun d q k r=>?_
 refine A9 k Tryz.sizeOf88 (vs:=(g8 a)) fun s b t=>?_
 have hj1:∀H w (_:Inv w0 ps0 H0 H [bx g0 86 (b9 x0),bx d 88 (g8 a),bx c 88 [(vi (b7.mk 0 ⟨#[]⟩ 0 (c8.mk 0 0)).d6),(Value.string (b7.mk 0 ⟨#[]⟩ 0 (c8.mk 0 0)).E1),(vi (b7.mk 0 ⟨#[]⟩ 0 (c8.mk 0 0)).M4),(vi (b7.mk 0 ⟨#[]⟩ 0 (c8.mk 0 0)).fAt.M8),(vi (b7.mk 0 ⟨#[]⟩ 0 (c8.mk 0 0)).fAt.V1)]] w) (_:a0C x0 a (b7.mk 0 ⟨#[]⟩ 0 (c8.mk 0 0)) H K),c3B (Value.pointer (some ⟨g0,0,none⟩)) (Value.pointer (some ⟨c,0,none⟩)) (Value.pointer (some ⟨d,0,none⟩)) w R E:=by
  intro H w I h
  intro _
  refine a7 (q9 _) (a7 a4b (b8 (l1 Tryz.isAgg3 I rfl) (a7 pAd (a7 (q9 _) ?_))))
  refine a7 a4b ?_
  refine N7 I Tryz.sizeOf3 fun u e v=>?_
  refine b8 (lW Tryz.isAgg88 Tryz.sizeOf88 rfl (e.bring 1)) ?_
  refine A9 (e.bring 2) Tryz.sizeOf88 (vs:=(g8 a)) fun y f z=>?_
  refine M2 Tryz.isAgg88 Tryz.sizeOf88 rfl f ?_
  exact hR _ H _ _ (f.drop.bring 1).drop ⟨a,(a8.mk x0.fl (IntKind.wrap .i64 (x0.fn+1))),rfl,rfl,h⟩
 refine u2 fun j1 hx1=>?_
 refine a7 a4c (b8 (l1 Tryz.isAgg3 b rfl) (a7 pEq ?_))
 refine j7 h (fun _ h=>?_) (fun _ h=>?_)
 ·refine z7 hE Tryz.call36 (h g0) (b.bring 1) ?_
  rintro _ l _ aa m _ _ ⟨rfl,rfl,h⟩
  exact hx1 _ _ (hj1 l _ (((m.bring 2).bring 2).bring 2) h)
 ·exact hx1 _ _ (hj1 i _ (((b.bring 2).bring 1).bring 2) h)
def a3X [PanQ] (x0:a8) (x1:Int) (x2:ByteArray) (H:Hp) (K:f8→a8→Hp→Prop):Prop:=
 E7 x0 H (fun a b=>
 C8 x0 (IntKind.wrap .i64 (x1+1)) a b (fun c=>
 Q2 x0 (IntKind.wrap .i64 (x1+1)) c (fun d e f=>
 C4 e x2 f (fun g i=>
 K d g i))))
theorem a8l [PanQ] (x0:a8) (x1:Int) (x2:ByteArray) {H:Hp} {K:f8→a8→Hp→Prop} (h:a3X x0 x1 x2 H K):S8 x0 x1 x2 H K:=by
 intro g0
 refine Ct.ofE fun w0 w ps0 H0 R E I hR hE=>d1x ?_
 refine r7 I Tryz.zeroValue39 (cs:=[(vi 0),(vi 0),(eS),(nS)]) rfl fun m n d o=>?_
 refine a7 pAd ?_
 refine g6 Tryz.call101 (h g0) (d.bring 1) ?_
 rintro _ p _ q e _ _ ⟨r,rfl,rfl,h⟩
 refine z7 hE Tryz.call39 (h g0) e ?_
 rintro _ _ _ s f _ _ ⟨rfl,rfl,h⟩
 refine a7 pAd ?_
 refine z7 hE Tryz.call71 (h g0) f ?_
 rintro _ _ _ t g _ _ ⟨a,u,rfl,rfl,h⟩
 refine r7 g Tryz.zeroValue39 (cs:=[(vi 0),(vi 0),(eS),(nS)]) rfl fun v y i z=>?_
 refine A9 i Tryz.sizeOf39 (vs:=(f7 a)) fun aa j ab=>?_
 refine z7 hE Tryz.call67 (h g0) (j.bring 1) ?_
 rintro _ k _ ac b _ _ ⟨l,rfl,rfl,h⟩
 refine b8 (lW Tryz.isAgg39 Tryz.sizeOf39 rfl (b.bring 1)) ?_
 refine A9 (b.bring 2) Tryz.sizeOf39 (vs:=(f7 a)) fun ad c ae=>?_
 refine M2 Tryz.isAgg39 Tryz.sizeOf39 rfl c ?_
 exact hR _ k _ _ (c.drop.bring 1).drop ⟨a,l,rfl,rfl,h⟩
def R6 [PanQ] (C7:a8) (a:i6) (d:i6) (H:Hp) (K:i6→a8→Hp→Prop):Prop:=
 C4 C7 ⟨#[59]⟩ H (fun b c=>
 K a b c)
def W5 [PanQ] (a4E:a8) (a:i6) (b:i6) (H:Hp) (K:i6→a8→Hp→Prop):Prop:=
 Q3 a4E H (fun c d e=>
 C4 d ⟨#[93]⟩ e (fun f g=>
 R6 f (i6.mk a.o8 c.M4) b g K))
def a8H [PanQ] (x0:a8) (H:Hp) (K:i6→a8→Hp→Prop):Prop:=
 r9 x0 ⟨#[97,114,114,97,121]⟩ H (fun d i=>
 a1P (a8.mk x0.fl (IntKind.wrap .i64 (x0.fn+1))) 1 i (fun c e f=>
 (d=true→
 C4 e ⟨#[91]⟩ f (fun b j=>
 B0 b j (fun a g=>
 ((((!decide (a.d6=2))||(decide (a.M4 < 1)))||(decide (2147483647 < a.M4)))=true→
 D7 b g (fun k=>
 W5 b (i6.mk c.E1 0) (i6.mk ⟨#[]⟩ 0) k K))∧
 ((((!decide (a.d6=2))||(decide (a.M4 < 1)))||(decide (2147483647 < a.M4)))=false→
 W5 b (i6.mk c.E1 0) (i6.mk ⟨#[]⟩ 0) g K))))∧
 (d=false→
 R6 e (i6.mk c.E1 0) (i6.mk ⟨#[]⟩ 0) f K)))
theorem a8I [PanQ] (x0:a8) {H:Hp} {K:i6→a8→Hp→Prop} (h:a8H x0 H K):a1Q x0 H K:=by
 intro g0
 refine Ct.ofE fun w0 w ps0 H0 R E I hR hE=>d0N ?_
 refine r7 I Tryz.zeroValue49 (cs:=[(eS),(vi 0)]) rfl fun e ak n al=>?_
 refine g6 Tryz.call37 (h g0) (n.bring 1) ?_
 rintro _ _ _ am i _ _ ⟨an,rfl,rfl,h⟩
 refine a7 (q9 _) (a7 a4b (b8 (l1 Tryz.isAgg3 i rfl) (a7 pAd (a7 (q9 _) ?_))))
 refine a7 a4b ?_
 refine N7 i Tryz.sizeOf3 fun ao o ap=>?_
 refine z7 hE Tryz.call66 (h g0) o ?_
 rintro _ p _ aq q _ _ ⟨c,r,rfl,rfl,h⟩
 refine a7 b9K (a7 (b9L _) ?_)
 refine r7 q Tryz.zeroValue49 (cs:=[(eS),(vi 0)]) rfl fun f ar s au=>?_
 refine A9 s Tryz.sizeOf49 (vs:=[(Value.string c.E1),(vi 0)]) fun av j aw=>?_
 have hj1:∀(C7:a8)(d:i6) H w (_:Inv w0 ps0 H0 H [bx g0 86 (b9 C7),bx f 49 (u1 d),bx e 49 [(Value.string (i6.mk ⟨#[]⟩ 0).o8),(vi (i6.mk ⟨#[]⟩ 0).D4)]] w) (_:R6 C7 d (i6.mk ⟨#[]⟩ 0) H K),c3d (Value.pointer (some ⟨g0,0,none⟩)) (Value.pointer (some ⟨e,0,none⟩)) (Value.pointer (some ⟨f,0,none⟩)) w R E:=by
  intro C7 d H w I h
  intro _
  refine z7 hE Tryz.call67 (h g0) I ?_
  rintro _ t _ ax k _ _ ⟨u,rfl,rfl,h⟩
  refine b8 (lW Tryz.isAgg49 Tryz.sizeOf49 rfl (k.bring 1)) ?_
  refine A9 (k.bring 2) Tryz.sizeOf49 (vs:=(u1 d)) fun ay l az=>?_
  refine M2 Tryz.isAgg49 Tryz.sizeOf49 rfl l ?_
  exact hR _ t _ _ (l.drop.bring 1).drop ⟨d,u,rfl,rfl,h⟩
 refine u2 fun j1 hx1=>?_
 refine p6 h (fun _ h=>?_) (fun _ h=>?_)
 ·refine z7 hE Tryz.call67 (h g0) (j.bring 1) ?_
  rintro _ _ _ ba v _ _ ⟨m,rfl,rfl,h⟩
  have hj2:∀H w (_:Inv w0 ps0 H0 H [bx g0 86 (b9 m),bx f 49 [(Value.string (i6.mk c.E1 0).o8),(vi (i6.mk c.E1 0).D4)],bx e 49 [(Value.string (i6.mk ⟨#[]⟩ 0).o8),(vi (i6.mk ⟨#[]⟩ 0).D4)]] w) (_:W5 m (i6.mk c.E1 0) (i6.mk ⟨#[]⟩ 0) H K),c3e (Value.pointer (some ⟨g0,0,none⟩)) (Value.pointer (some ⟨e,0,none⟩)) (Value.pointer (some ⟨f,0,none⟩)) w j1 R E:=by
   intro H w I h
   intro _
   refine z7 hE Tryz.call68 (h g0) I ?_
   rintro _ _ _ bb y _ _ ⟨z,bc,rfl,rfl,h⟩
   refine a7 b9M (a7 a6C ?_)
   refine N7 (y.bring 1) Tryz.sizeOf3 fun bd aa be=>?_
   refine z7 hE Tryz.call67 (h g0) (aa.bring 1) ?_
   rintro _ ab _ bf ac _ _ ⟨ad,rfl,rfl,h⟩
   exact hx1 _ _ (hj1 ad (i6.mk (i6.mk c.E1 0).o8 z.M4) ab _ (((ac.bring 2).bring 2).bring 2) h)
  refine u2 fun j2 hx2=>?_
  refine g6 Tryz.call35 (h g0) v ?_
  rintro _ ae _ bg af _ _ ⟨ag,rfl,rfl,h⟩
  refine r7 af Tryz.zeroValue88 (cs:=[(vi 0),(eS),(vi 0),(vi 0),(vi 0)]) rfl fun bh bi ah bj=>?_
  refine A9 ah Tryz.sizeOf88 (vs:=(g8 ag)) fun bk b bl=>?_
  refine a7 a4c (b8 (l1 Tryz.isAgg3 b rfl) (a7 pNe ?_))
  refine a7 (Pu.g fun a=>by with_reducible exact a8U) ?_
  refine b8 (Ld.g fun a=>by simp only [o9 a];exact (l1 Tryz.isAgg2 b rfl)) ?_
  refine a7 (Pu.g fun a=>by simp only [o9 a];with_reducible exact pLs) ?_
  refine a7 (R9 _ _) ?_
  refine a7 (Pu.g fun a=>by with_reducible exact a8U) ?_
  refine b8 (Ld.g fun a=>by simp only [o9 a];exact (l1 Tryz.isAgg2 b rfl)) ?_
  refine a7 (Pu.g fun a=>by simp only [o9 a];with_reducible exact pGt) ?_
  refine a7 (R9 _ _) ?_
  refine p6 h (fun _ h=>?_) (fun _ h=>?_)
  ·refine z7 hE Tryz.call36 (h g0) (b.bring 1) ?_
   rintro _ ai _ bm aj _ _ ⟨rfl,rfl,h⟩
   exact hx2 _ _ (hj2 ai _ ((((aj.bring 1).drop.bring 2).bring 2).bring 2) h)
  ·exact hx2 _ _ (hj2 ae _ (((b.drop.bring 2).bring 2).bring 2) h)
 ·exact hx1 _ _ (hj1 r (i6.mk c.E1 0) p _ (((j.bring 2).bring 1).bring 2) h)
def a0D [PanQ] (a4E:a8) (f:(List i6)) (g:(List d9)) (i:g9) (H:Hp) (K:g9→a8→Hp→Prop):Prop:=
 ∀(a:Sl)(d:Hp),Hle H d→SlH d 2 u1 a f→a.n≤a.c→
 ∀(b:Sl)(e:Hp),Hle d e→SlH e 6 k7 b g→b.n≤b.c→
 K (g9.mk a b) a4E e
def a0E [PanQ] (f:(List i6)) (a3H:a8) (a:(List d9)) (b:g9) (H:Hp) (n3:(a8×(List d9)×g9)→Hp→Prop) (K:g9→a8→Hp→Prop):Prop:=
 B0 a3H H (fun c d=>
 (¬(c.d6=5)→
 O7 a3H d (fun g i=>
 C8 a3H 1 g i (fun j=>
 T7 a3H 1 j (fun e k l=>
 (a.length+([e]:List d9).length)*121≤140737488355328∧
 n3 (k,(a++[e]),b) l))))∧
 (c.d6=5→
 a0D a3H f a b d K))
def a0F [PanQ] (C7:a8) (a:(List i6)) (b:(List d9)) (c:g9) (H:Hp) (K:g9→a8→Hp→Prop):Prop:=
 TL ((C7,b,c):a8×(List d9)×g9) H fun(s:a8×(List d9)×g9) H n3=>a0E a s.1 s.2.1 s.2.2 H n3 K
def a0G [PanQ] (a:(List i6)) (c:(List d9)) (d:g9) (a3k:a8) (H:Hp) (n4:((List i6)×(List d9)×g9×a8)→Hp→Prop) (K:g9→a8→Hp→Prop):Prop:=
 r9 a3k ⟨#[118,97,114]⟩ H (fun b e=>
 TG (b=false) (r9 a3k ⟨#[97,114,114,97,121]⟩ e) false e (fun(f:Bool)(g:Hp)=>
 ((b||f)=true→
 a1Q a3k g (fun i j k=>
 (a.length+([i]:List i6).length)*25≤140737488355328∧
 n4 ((a++[i]),c,d,j) k))∧
 ((b||f)=false→
 a0F a3k a c d g K)))
def a4x [PanQ] (x0:a8) (H:Hp) (K:g9→a8→Hp→Prop):Prop:=
 TL (([],[],(g9.mk (Sl.mk none 0 0) (Sl.mk none 0 0)),x0):(List i6)×(List d9)×g9×a8) H fun(s:(List i6)×(List d9)×g9×a8) H n4=>a0G s.1 s.2.1 s.2.2.1 s.2.2.2 H n4 K
theorem a8J [PanQ] (x0:a8) {H:Hp} {K:g9→a8→Hp→Prop} (h:a4x x0 H K):a1R x0 H K:=by
 intro g0
 refine Ct.ofE fun w0 w ps0 H0 R E I hR hE=>d0p ?_
 refine r7 I Tryz.zeroValue25 (cs:=[(nS),(nS)]) rfl fun p dn bp dp=>?_
 refine r7 bp Tryz.zeroValue25 (cs:=[(nS),(nS)]) rfl fun q dq bq dr=>?_
 have hj1:∀(C7:a8)(r:(List i6))(ac:(List d9))(ad:g9)(j:Sl)(t:Frag)(ae:Sl)(af:Frag) H w (_:RowL 49 2 u1 j r t) (_:RowL 54 6 k7 ae ac af) (_:Inv w0 ps0 H0 H [bx g0 86 (b9 C7),bx q 25 [(vs j),(vs ae)],bx p 25 (o7 ad),t,af] w) (_:a0F C7 r ac ad H K),c2X (Value.pointer (some ⟨g0,0,none⟩)) (Value.pointer (some ⟨p,0,none⟩)) (Value.pointer (some ⟨q,0,none⟩)) w R E:=by
  intro C7 r ac ad j t ae af H w br bs I h
  intro _
  have hj2:∀(a4E:a8)(am:(List i6))(an:(List d9))(ao:g9)(ap:Frag)(m:Sl)(aq:Frag) H w (_:RowL 49 2 u1 j am ap) (_:RowL 54 6 k7 m an aq) (_:Inv w0 ps0 H0 H [bx g0 86 (b9 a4E),bx q 25 [(vs j),(vs m)],bx p 25 (o7 ao),ap,aq] w) (_:a0D a4E am an ao H K),c2W (Value.pointer (some ⟨p,0,none⟩)) (Value.pointer (some ⟨q,0,none⟩)) w R E:=by
   intro a4E am an ao ap m aq H w bt bu I h
   intro _
   refine b8 (ldA Tryz.isAgg25 Tryz.sizeOf25 rfl ((I.bring 1).at1 (o:=0) (vs:=[(vs j),(vs m)]) (nb rfl) rfl)) ?_
   refine A9 (I.bring 2) Tryz.sizeOf25 (vs:=[(vs j),(vs m)]) fun ds az dt=>?_
   refine M2 Tryz.isAgg25 Tryz.sizeOf25 rfl az ?_
   obtain ⟨bv,bw,bz,ca,cb⟩:=Inv.freezeC (az.bring 3) bt (by decide)
   replace h:=h j bv bz ca cb
   obtain ⟨ba,cc,cd,ce,cf⟩:=Inv.freezeC (bw.bring 3) bu (by decide)
   replace h:=h m ba cd ce cf
   exact hR _ ba _ _ (cc.drop.bring 1).drop ⟨(g9.mk j m),a4E,rfl,rfl,h⟩
  refine u2 fun j2 hx2=>?_
  obtain ⟨ar,u,cg,ch⟩:=h
  refine R1 (J:=fun n l w=>∃(s:a8×(List d9)×g9)(H:Hp)(v:Sl)(ag:Frag),n=u s∧l=(match s with | (a3H,f,k)=>[])∧(match s with | (a3H,f,k)=>RowL 54 6 k7 v f ag)∧(match s with | (a3H,f,k)=>Inv w0 ps0 H0 H [bx g0 86 (b9 a3H),bx q 25 [(vs j),(vs v)],bx p 25 (o7 k),t,ag] w)∧ar s H) ⟨_,(C7,ac,ad),H,ae,af,rfl,rfl,bs,(((((I.bring 4).bring 4).bring 4).bring 4).bring 4),cg⟩ ?_
  rintro du dv w next3 ⟨⟨a3H,f,k⟩,H,v,ag,rfl,bb,au,I,ci⟩ hn3
  dsimp only at bb I au
  clear bb
  obtain ⟨n3,hm3,h⟩:∃n3:(a8×(List d9)×g9)→Hp→Prop,(∀s' H',n3 s' H'→ar s' H'∧u s' < u (a3H,f,k))∧a0E r a3H f k H n3 K:=⟨_,fun _ _ h=>h,ch (a3H,f,k) H (fun s' H'=>ar s' H'∧u s' < u (a3H,f,k)) ci (fun _ _ a b=>⟨a,b⟩)⟩
  refine g6 Tryz.call35 (h g0) I ?_
  rintro _ cj _ dw bc _ _ ⟨dx,rfl,rfl,h⟩
  refine a7 a7R (a7 pNe ?_)
  refine a0S h (fun _ h=>?_) (fun _ h=>?_)
  ·refine g6 Tryz.call40 (h g0) bc ?_
   rintro _ _ _ dy ck _ _ ⟨dz,rfl,rfl,h⟩
   refine z7 hE Tryz.call39 (h g0) ck ?_
   rintro _ _ _ ea cl _ _ ⟨rfl,rfl,h⟩
   refine T1 cl fun eb ah=>?_
   refine o0 a5m ?_
   refine u7 (l1 Tryz.isAgg23 (ah.bring 1) rfl) ?_
   refine z7 hE Tryz.call41 (h g0) ah ?_
   rintro _ cm _ ec bd _ cn ⟨be,co,rfl,rfl,h⟩
   refine ⟨(cn _ (ah.bring 1).lt1 (Inv.a1Y (Fi:=[bx g0 86 (b9 a3H)]) ((ah.bring 1).bring 1))),?_⟩
   refine O4 (e:=54) (c:=k7) (xs:=[be]) bd (c0n _ _ _ _ _ _ _ _ _ _ _ _ _ _) rfl rfl a6b a6c (nb rfl) fun ed ee ef cp bf cq=>?_
   refine ⟨(cq _ (bd.bring 1).lt1),?_⟩
   obtain ⟨cr,h⟩:=h
   refine c2R (s:=v) (xs:=f) (bf.bring 5) au (cp.srcO ((bf.bring 5).bring 1)) cr fun ct cu eg cv cw eh=>?_
   refine o0 a5m ?_
   refine N7 ((cw.bring 1).drop.bring 2) Tryz.sizeOf23 fun ei cx ej=>?_
   exact hn3 _ _ _ (hm3 _ _ h).2 ⟨(co,(f++[be]),k),cm,ct,cu,rfl,rfl,cv,(((((cx.bring 1).bring 4).bring 4).bring 3).bring 4),(hm3 _ _ h).1⟩
  ·exact hx2 _ _ (hj2 a3H r f k t v ag cj _ br au (((((bc.bring 4).bring 4).bring 4).bring 4).bring 4) h)
 refine u2 fun j1 hx1=>?_
 obtain ⟨av,y,cy,cz⟩:=h
 refine R1 (J:=fun n l w=>∃(s:(List i6)×(List d9)×g9×a8)(H:Hp)(z:Sl)(ai:Frag)(aa:Sl)(ab:Frag),n=y s∧l=(match s with | (d,g,i,a3k)=>[])∧(match s with | (d,g,i,a3k)=>RowL 49 2 u1 z d ai)∧(match s with | (d,g,i,a3k)=>RowL 54 6 k7 aa g ab)∧(match s with | (d,g,i,a3k)=>Inv w0 ps0 H0 H [bx q 25 [(vs z),(vs aa)],bx p 25 (o7 i),bx g0 86 (b9 a3k),ai,ab] w)∧av s H) ⟨_,([],[],(g9.mk (Sl.mk none 0 0) (Sl.mk none 0 0)),x0),H,(Sl.mk none 0 0),[],(Sl.mk none 0 0),[],rfl,rfl,(RowL.nil b1N b1O),(RowL.nil a6b a6c),((((bq.nil.nil.bring 1).bring 4).bring 4).bring 4),cy⟩ ?_
 rintro ek el w next4 ⟨⟨d,g,i,a3k⟩,H,z,ai,aa,ab,rfl,bg,aw,ax,I,da⟩ hn4
 dsimp only at bg I aw ax
 clear bg
 obtain ⟨n4,hm4,h⟩:∃n4:((List i6)×(List d9)×g9×a8)→Hp→Prop,(∀s' H',n4 s' H'→av s' H'∧y s' < y (d,g,i,a3k))∧a0G d g i a3k H n4 K:=⟨_,fun _ _ h=>h,cz (d,g,i,a3k) H (fun s' H'=>av s' H'∧y s' < y (d,g,i,a3k)) da (fun _ _ a b=>⟨a,b⟩)⟩
 refine g6 Tryz.call37 (h g0) (I.bring 2) ?_
 rintro _ _ _ em bh _ _ ⟨en,rfl,rfl,h⟩
 simp only [E5]
 refine M3 [bx g0 86 (b9 a3k)] (fun aj:Bool=>(vB aj)) h bh (fun bl h=>by simp only [o9 bl];exact N9 Tryz.call37 (h g0) bh) fun aj ay db ak bj bk h=>?_
 refine a7 (R9 _ _) ?_
 refine p6 h (fun _ h=>?_) (fun _ h=>?_)
 ·refine T1 ak fun eo al=>?_
  refine o0 a5l ?_
  refine u7 (l1 Tryz.isAgg22 (al.bring 1) rfl) ?_
  refine z7 hE Tryz.call38 (h g0) al ?_
  rintro _ dc _ ep bm _ dd ⟨bn,de,rfl,rfl,h⟩
  refine ⟨(dd _ (al.bring 1).lt1 (Inv.a1Y (Fi:=[bx g0 86 (b9 a3k)]) ((al.bring 1).bring 1))),?_⟩
  refine O4 (e:=49) (c:=u1) (xs:=[bn]) bm (c7T _ _) rfl rfl b1N b1O (nb rfl) fun eq er es df bo dg=>?_
  refine ⟨(dg _ (bm.bring 1).lt1),?_⟩
  obtain ⟨dh,h⟩:=h
  refine d0c (s:=z) (xs:=d) (bo.bring 4) aw (df.srcO ((bo.bring 4).bring 1)) dh fun di dj et dk dl eu=>?_
  refine o0 a5l ?_
  refine N7 ((dl.bring 1).drop.bring 2) Tryz.sizeOf22 fun ev dm ew=>?_
  exact hn4 _ _ _ (hm4 _ _ h).2 ⟨((d++[bn]),g,i,de),dc,di,dj,aa,ab,rfl,rfl,dk,ax,(((((dm.bring 4).bring 2).bring 3).bring 4).bring 4),(hm4 _ _ h).1⟩
 ·exact hx1 _ _ (hj1 a3k d g i z ai aa ab ay _ aw ax (((((ak.bring 4).bring 4).bring 4).bring 4).bring 4) h)
def a0p(a0v:(Option Addr))(a3l:(List Int))(p8:Int)(H:Hp)(K:c7→(List Int)→Hp→Prop):Prop:=
 K (c7.mk (C5.mk a0v (Sl.mk none 0 0)) (IntKind.wrap .i64 (p8-1))) a3l H
def a0q(a3i:Sl)(c7x:Int)(Z5:Int)(a0w:(Option Addr))(Z6:(List Int))(p5:Int)(H:Hp)(n2:(Int×(Option Addr)×(List Int)×Int)→Hp→Prop)(K:c7→(List Int)→Hp→Prop):Prop:=
 (Z5 < c7x→
 (0:Int)≤Z5∧(Z5:Int) < a3i.n∧∃a:d9,EltH H a3i Z5 6 (k7 a)∧
 Z2 (c7.mk (C5.mk a0w (Sl.mk none 0 0)) p5) Z6 a H (fun b c d=>
 n2 ((IntKind.wrap .i64 (Z5+1)),b.G8.faddr,c,b.fdeep) d))∧
 (¬(Z5 < c7x)→
 a0p a0w Z6 p5 H K)
def a3Y(x0:c7)(a:(List Int))(x1:Sl)(H:Hp)(K:c7→(List Int)→Hp→Prop):Prop:=
 TL ((0,x0.G8.faddr,a,(IntKind.wrap .i64 (x0.fdeep+1))):Int×(Option Addr)×(List Int)×Int) H fun(s:Int×(Option Addr)×(List Int)×Int) H n2=>a0q x1 (x1.n:Int) s.1 s.2.1 s.2.2.1 s.2.2.2 H n2 K
theorem a8m(x0 d x1){H K}(h:a3Y x0 d x1 H K):Y0 x0 d x1 H K:=by
 intro g0 m o p
 refine Ct.of fun w0 w ps0 H0 R E I hR=>d0H ?_
 refine a7 (q9 _) (a7 a6F (b8 (l1 Tryz.isAgg3 I rfl) (a7 pAd (a7 (q9 _) ?_))))
 refine a7 a6F ?_
 refine N7 I Tryz.sizeOf3 fun ai q aj=>?_
 have hj1:∀(a0v:(Option Addr))(a3l:(List Int))(p8:Int)(a9d:Sl)(a9e:Frag) H w (_:RowL 5 1 t8 a9d a3l a9e) (_:Inv w0 ps0 H0 H [bx g0 47 [(adv g0 a0v),(vs a9d),(vi p8)],a9e] w) (_:a0p a0v a3l p8 H K),c3a (Value.pointer (some ⟨g0,0,none⟩)) w R E:=by
  intro a0v a3l p8 a9d a9e H w c1T I h
  intro _
  refine a7 (q9 _) (a7 a6F (b8 (l1 Tryz.isAgg3 I rfl) (a7 pSu (a7 (q9 _) ?_))))
  refine a7 a6F ?_
  refine N7 I Tryz.sizeOf3 fun ak r al=>?_
  exact hR _ H _ _ ((r.bring 1).bring 1) ⟨(c7.mk (C5.mk a0v (Sl.mk none 0 0)) (IntKind.wrap .i64 (p8-1))),a3l,a9d,a9e,rfl,rfl,c1T,h⟩
 refine u2 fun j1 hx1=>?_
 refine a7 (a2m _ _ _) ?_
 obtain ⟨e,c,t,u⟩:=h
 refine R1 (J:=fun n l w=>∃(s:Int×(Option Addr)×(List Int)×Int)(H:Hp)(a6U:Sl)(a6V:Frag),n=c s∧l=(match s with | (Z5,a0w,Z6,p5)=>[(vi Z5)])∧(match s with | (Z5,a0w,Z6,p5)=>RowL 5 1 t8 a6U Z6 a6V)∧(match s with | (Z5,a0w,Z6,p5)=>Inv w0 ps0 H0 H [bx g0 47 [(adv g0 a0w),(vs a6U),(vi p5)],a6V] w)∧e s H) ⟨_,(0,x0.G8.faddr,d,(IntKind.wrap .i64 (x0.fdeep+1))),H,m,o,rfl,rfl,p,((q.bring 1).bring 1),t⟩ ?_
 rintro am an w next2 ⟨⟨Z5,a0w,Z6,p5⟩,H,a6U,a6V,rfl,f,b1p,I,v⟩ hn2
 dsimp only at f I b1p
 simp only [List.map_cons,List.map_nil,List.cons.injEq,and_true] at f
 have e15:=f
 simp only [e15]
 obtain ⟨n2,hm2,h⟩:∃n2:(Int×(Option Addr)×(List Int)×Int)→Hp→Prop,(∀s' H',n2 s' H'→e s' H'∧c s' < c (Z5,a0w,Z6,p5))∧a0q x1 (x1.n:Int) Z5 a0w Z6 p5 H n2 K:=⟨_,fun _ _ h=>h,u (Z5,a0w,Z6,p5) H (fun s' H'=>e s' H'∧c s' < c (Z5,a0w,Z6,p5)) v (fun _ _ a b=>⟨a,b⟩)⟩
 refine a7 pLs ?_
 refine j7 h (fun _ h=>?_) (fun _ h=>?_)
 ·obtain ⟨y,z,i,g,h⟩:=h
  obtain ⟨ao,ap,aa,g⟩:=g
  refine a7 (a9o aa _ _ _ _ y z) (b8 (ldA (vs:=(k7 i)) Tryz.isAgg54 Tryz.sizeOf54 rfl (I.atH g)) ?_)
  refine r7 I Tryz.zeroValue54 (cs:=[(vi 0),(eS),(nS),(nS),(nS),(nS)]) rfl fun aq ar ab au=>?_
  refine A9 ab Tryz.sizeOf54 (vs:=(k7 i)) fun av j aw=>?_
  refine b8 (lW Tryz.isAgg54 Tryz.sizeOf54 rfl j) ?_
  refine g6 Tryz.call12 (h g0 a6U a6V b1p) ((j.bring 2).bring 2) ?_
  rintro _ ac _ ax ad _ _ ⟨k,ae,af,ag,rfl,rfl,ah,h⟩
  refine a7 pAd ?_
  exact hn2 _ _ _ (hm2 _ _ h).2 ⟨((IntKind.wrap .i64 (Z5+1)),k.G8.faddr,ae,k.fdeep),ac,af,ag,rfl,rfl,ah,(((ad.bring 2).drop.bring 1).bring 1),(hm2 _ _ h).1⟩
 ·exact hx1 _ _ (hj1 a0w Z6 p5 a6U a6V H _ b1p ((I.bring 1).bring 1) h)
def R7(A4:Int)(Y6:ByteArray)(a:i7)(a0v:(Option Addr))(a3l:(List Int))(p8:Int)(H:Hp)(K:c7→(List Int)→Hp→Prop):Prop:=
 (0:Int)≤0∧(0:Int) < a.E6.n∧∃e:i7,EltH H a.E6 0 4 (g7 e)∧
 Z3 (c7.mk (C5.mk a0v (Sl.mk none 0 0)) p8) a3l e A4 H (fun i j k=>
 ∀(b:Sl)(d:Hp),Hle k d→SlH d 1 q6 b [Y6]→b.n≤b.c→
 v6 (l7 i) j b d (fun l m f=>
 (0:Int)≤1∧(1:Int) < a.E6.n∧∃g:i7,EltH f a.E6 1 4 (g7 g)∧
 Z3 (l7 l) m g (IntKind.wrap .i64 (A4+1)) f (fun o p q=>
 K (l7 o) p q)))
def a4y(x0:c7)(b:(List Int))(x1:i7)(H:Hp)(K:c7→(List Int)→Hp→Prop):Prop:=
 a0j x1.d6 H (fun i a=>
 (x1.d6=1→
 ∀(d:Sl)(j:Hp),Hle a j→SlH j 1 q6 d [⟨#[116,114,117,101]⟩]→d.n≤d.c→
 v6 (l7 x0) b d j (fun t u v=>
 K (l7 t) u v))∧
 (¬(x1.d6=1)→
 (x1.d6=2→
 ∀(e:Sl)(k:Hp),Hle a k→SlH k 1 q6 e [⟨#[102,97,108,115,101]⟩]→e.n≤e.c→
 v6 (l7 x0) b e k (fun y z aa=>
 K (l7 y) z aa))∧
 (¬(x1.d6=2)→
 (x1.d6=3→
 (0:Int)≤0∧(0:Int) < x1.p7.n∧∃o:f8,EltH a x1.p7 0 4 (f7 o)∧
 D6 (l7 x0) b o a (fun ab ac ad=>
 (0:Int)≤IntKind.wrap .i64 (x1.fOp-1)∧(IntKind.wrap .i64 (x1.fOp-1):Int) < 6∧
 ∀(f:Sl)(l:Hp),Hle ad l→SlH l 1 q6 f [⟨#[32]⟩,([⟨#[60]⟩,⟨#[60,61]⟩,⟨#[61,61]⟩,⟨#[33,61]⟩,⟨#[62]⟩,⟨#[62,61]⟩]:List ByteArray).getD (IntKind.wrap .i64 (x1.fOp-1):Int).toNat ⟨#[]⟩,⟨#[32]⟩]→f.n≤f.c→
 v6 (l7 ab) ac f l (fun ae af p=>
 (0:Int)≤1∧(1:Int) < x1.p7.n∧∃q:f8,EltH p x1.p7 1 4 (f7 q)∧
 D6 (l7 ae) af q p (fun ag ah ai=>
 K (l7 ag) ah ai))))∧
 (¬(x1.d6=3)→
 (x1.d6=4→
 ∀(g:Sl)(m:Hp),Hle a m→SlH m 1 q6 g [⟨#[33]⟩]→g.n≤g.c→
 v6 (l7 x0) b g m (fun aj ak r=>
 (0:Int)≤0∧(0:Int) < x1.E6.n∧∃s:i7,EltH r x1.E6 0 4 (g7 s)∧
 Z3 (l7 aj) ak s i r (fun al am an=>
 K (l7 al) am an)))∧
 (¬(x1.d6=4)→
 (x1.d6=6→
 R7 i ⟨#[32,124,124,32]⟩ x1 x0.G8.faddr b x0.fdeep a K)∧
 (¬(x1.d6=6)→
 R7 i ⟨#[32,38,38,32]⟩ x1 x0.G8.faddr b x0.fdeep a K))))))
theorem a8K(x0 g x1){H K}(h:a4y x0 g x1 H K):Q4 x0 g x1 H K:=by
 intro g0 b d f
 refine Ct.of fun w0 w ps0 H0 R E I hR=>d1m ?_
 refine E9 I (cs:=(g7 x1)) rfl fun q em r en=>?_
 refine a7 a4d (b8 (l1 Tryz.isAgg3 r rfl) ?_)
 refine g6 Tryz.call87 h r ?_
 rintro _ s _ eo a _ _ ⟨t,rfl,rfl,h⟩
 have hj1:∀(Y6:ByteArray)(a0v:(Option Addr))(p8:Int) H w (_:Inv w0 ps0 H0 H [bx q 75 (g7 x1),bx g0 47 [(adv g0 a0v),(vs b),(vi p8)],d] w) (_:R7 t Y6 x1 a0v g p8 H K),c3w (Value.pointer (some ⟨g0,0,none⟩)) (Value.pointer (some ⟨q,0,none⟩)) (vi t) (Value.string Y6) w R E:=by
  intro Y6 a0v p8 H w I h
  intro _
  refine a7 a4e (b8 (l1 Tryz.isAgg52 I rfl) ?_)
  obtain ⟨v,y,z,i,h⟩:=h
  obtain ⟨ep,eq,aa,i⟩:=i
  refine a7 (a3u aa _ _ _ _ v y) (b8 (ldA (vs:=(g7 z)) Tryz.isAgg75 Tryz.sizeOf75 rfl (I.atH i)) ?_)
  refine g6 Tryz.call88 (h g0 b d f) ((I.bring 2).bring 2) ?_
  rintro _ _ _ er ab _ _ ⟨es,et,ac,ad,rfl,rfl,ae,h⟩
  refine O4 (e:=9) (c:=q6) (xs:=[Y6]) ab (X0 _) rfl rfl K8 K9 (nb rfl) fun af eu ev ag ah ew=>?_
  obtain ⟨ai,aj,ak,al,am⟩:=Inv.freezeC ah ag (by decide)
  replace h:=h af ai ak al am
  refine g6 Tryz.call26 (h g0 ac ad ae) ((aj.bring 1).bring 1) ?_
  rintro _ _ _ ex j _ _ ⟨ey,ez,an,ao,rfl,rfl,ap,h⟩
  refine a7 a4e (b8 (l1 Tryz.isAgg52 (j.bring 2) rfl) ?_)
  obtain ⟨aq,ar,au,k,h⟩:=h
  obtain ⟨fa,fb,av,k⟩:=k
  refine a7 (a3u av _ _ _ _ aq ar) (b8 (ldA (vs:=(g7 au)) Tryz.isAgg75 Tryz.sizeOf75 rfl (j.atH k)) (a7 pAd ?_))
  refine g6 Tryz.call88 (h g0 an ao ap) ((j.bring 1).bring 1) ?_
  rintro _ aw _ fc ax _ _ ⟨ay,az,ba,bb,rfl,rfl,bc,h⟩
  exact hR _ aw _ _ (((ax.bring 2).drop.bring 1).bring 1) ⟨(l7 ay),az,ba,bb,rfl,rfl,bc,h⟩
 refine u2 fun j1 hx1=>?_
 refine a7 a4d (b8 (l1 Tryz.isAgg3 a rfl) (a7 pEq ?_))
 refine j7 h (fun _ h=>?_) (fun _ h=>?_)
 ·refine O4 (e:=9) (c:=q6) (xs:=[⟨#[116,114,117,101]⟩]) a (X0 _) rfl rfl K8 K9 (nb rfl) fun bd fd fe be bf ff=>?_
  obtain ⟨bg,bh,bi,bj,bk⟩:=Inv.freezeC bf be (by decide)
  replace h:=h bd bg bi bj bk
  refine g6 Tryz.call26 (h g0 b d f) ((bh.bring 2).bring 2) ?_
  rintro _ bl _ fg bm _ _ ⟨bn,bo,bp,bq,rfl,rfl,br,h⟩
  exact hR _ bl _ _ (((bm.bring 2).drop.bring 1).bring 1) ⟨(l7 bn),bo,bp,bq,rfl,rfl,br,h⟩
 ·refine a7 pEq ?_
  refine j7 h (fun _ h=>?_) (fun _ h=>?_)
  ·refine O4 (e:=9) (c:=q6) (xs:=[⟨#[102,97,108,115,101]⟩]) a (X0 _) rfl rfl K8 K9 (nb rfl) fun bs fh fi bt bu fj=>?_
   obtain ⟨bv,bw,bz,ca,cb⟩:=Inv.freezeC bu bt (by decide)
   replace h:=h bs bv bz ca cb
   refine g6 Tryz.call26 (h g0 b d f) ((bw.bring 2).bring 2) ?_
   rintro _ cc _ fk cd _ _ ⟨ce,cf,cg,ch,rfl,rfl,ci,h⟩
   exact hR _ cc _ _ (((cd.bring 2).drop.bring 1).bring 1) ⟨(l7 ce),cf,cg,ch,rfl,rfl,ci,h⟩
  ·refine a7 pEq ?_
   refine j7 h (fun _ h=>?_) (fun _ h=>?_)
   ·refine a7 a5s (b8 (l1 Tryz.isAgg37 a rfl) ?_)
    obtain ⟨cj,ck,cl,l,h⟩:=h
    obtain ⟨fl,fm,cm,l⟩:=l
    refine a7 (a1N cm _ _ _ _ cj ck) (b8 (ldA (vs:=(f7 cl)) Tryz.isAgg39 Tryz.sizeOf39 rfl (a.atH l)) ?_)
    refine g6 Tryz.call22 (h g0 b d f) ((a.bring 2).bring 2) ?_
    rintro _ _ _ fn u _ _ ⟨fo,fp,cn,co,rfl,rfl,cp,h⟩
    refine a7 (a5Q _ _ _ _ _ _) (a7 a5r (b8 (l1 Tryz.isAgg3 (u.bring 2) rfl) (a7 pSu ?_)))
    obtain ⟨cq,cr,h⟩:=h
    refine a7 (b4Q _ _ _ _ _ _ _ _ cq cr) ?_
    refine O4 (e:=9) (c:=q6) (xs:=[⟨#[32]⟩,([⟨#[60]⟩,⟨#[60,61]⟩,⟨#[61,61]⟩,⟨#[33,61]⟩,⟨#[62]⟩,⟨#[62,61]⟩]:List ByteArray).getD (IntKind.wrap .i64 (x1.fOp-1):Int).toNat ⟨#[]⟩,⟨#[32]⟩]) u (b2N _ _ _) rfl rfl K8 K9 (nb rfl) fun ct fq fs cu cv ft=>?_
    obtain ⟨cw,cx,cy,cz,da⟩:=Inv.freezeC cv cu (by decide)
    replace h:=h ct cw cy cz da
    refine g6 Tryz.call26 (h g0 cn co cp) ((cx.bring 1).bring 1) ?_
    rintro _ _ _ fu m _ _ ⟨fv,fw,db,dc,rfl,rfl,dd,h⟩
    refine a7 a5s (b8 (l1 Tryz.isAgg37 (m.bring 2) rfl) ?_)
    obtain ⟨de,df,dg,n,h⟩:=h
    obtain ⟨fx,fy,dh,n⟩:=n
    refine a7 (a1N dh _ _ _ _ de df) (b8 (ldA (vs:=(f7 dg)) Tryz.isAgg39 Tryz.sizeOf39 rfl (m.atH n)) ?_)
    refine g6 Tryz.call22 (h g0 db dc dd) ((m.bring 1).bring 1) ?_
    rintro _ di _ fz dj _ _ ⟨dk,dl,dm,dn,rfl,rfl,dp,h⟩
    exact hR _ di _ _ (((dj.bring 2).drop.bring 1).bring 1) ⟨(l7 dk),dl,dm,dn,rfl,rfl,dp,h⟩
   ·refine a7 pEq ?_
    refine j7 h (fun _ h=>?_) (fun _ h=>?_)
    ·refine O4 (e:=9) (c:=q6) (xs:=[⟨#[33]⟩]) a (X0 _) rfl rfl K8 K9 (nb rfl) fun dq ga gb dr ds gc=>?_
     obtain ⟨dt,du,dv,dw,dx⟩:=Inv.freezeC ds dr (by decide)
     replace h:=h dq dt dv dw dx
     refine g6 Tryz.call26 (h g0 b d f) ((du.bring 2).bring 2) ?_
     rintro _ _ _ gd o _ _ ⟨ge,gf,dy,dz,rfl,rfl,ea,h⟩
     refine a7 a4e (b8 (l1 Tryz.isAgg52 (o.bring 2) rfl) ?_)
     obtain ⟨eb,ec,ed,p,h⟩:=h
     obtain ⟨gg,gh,ee,p⟩:=p
     refine a7 (a3u ee _ _ _ _ eb ec) (b8 (ldA (vs:=(g7 ed)) Tryz.isAgg75 Tryz.sizeOf75 rfl (o.atH p)) ?_)
     refine g6 Tryz.call88 (h g0 dy dz ea) ((o.bring 1).bring 1) ?_
     rintro _ ef _ gi eg _ _ ⟨eh,ei,ej,ek,rfl,rfl,el,h⟩
     exact hR _ ef _ _ (((eg.bring 2).drop.bring 1).bring 1) ⟨(l7 eh),ei,ej,ek,rfl,rfl,el,h⟩
    ·refine a7 pEq ?_
     refine j7 h (fun _ h=>?_) (fun _ h=>?_)
     ·exact hx1 _ _ (hj1 ⟨#[32,124,124,32]⟩ x0.G8.faddr x0.fdeep s _ (((a.bring 2).bring 2).bring 2) h)
     ·exact hx1 _ _ (hj1 ⟨#[32,38,38,32]⟩ x0.G8.faddr x0.fdeep s _ (((a.bring 2).bring 2).bring 2) h)
def a2B(x0:ByteArray)(x1:ByteArray)(H:Hp)(K:Bool→Hp→Prop):Prop:=
 ((decide ((x1.size:Int)≤(x0.size:Int)))=true→(0:Int)≤(x1.size:Int)∧((x1.size:Int):Int)≤x0.size)∧
 K ((decide ((x1.size:Int)≤(x0.size:Int)))&&(decide ((x0.extract 0 ((x1.size:Int):Int).toNat)=x1))) H
theorem a6m(x0 x1){H K}(h:a2B x0 x1 H K):a2z x0 x1 H K:=by
 refine Ct.of fun w0 w ps0 H0 R E I hR=>c8i ?_
 refine a7 (a6g _) (a7 (a6g _) (a7 pGe ?_))
 simp only [E5]
 refine a7 (Pu.g fun a=>by simp only [o9 a];with_reducible exact (a6g _)) ?_
 obtain ⟨b,h⟩:=h
 refine a7 (Pu.g fun hb=>by have a:=hb;simp only [o9 a];with_reducible exact (c0j x0 Tryz.underlying9 (b hb).1 (b hb).2)) ?_
 refine a7 (Pu.g fun a=>by simp only [o9 a];with_reducible exact (R3 _ _ _ _ _)) ?_
 refine a7 (D9 _ _) ?_
 exact hR _ H _ _ I ⟨_,rfl,rfl,h⟩
def a7q(x0:ByteArray)(x1:ByteArray)(H:Hp)(K:Bool→Hp→Prop):Prop:=
 a2z x0 x1 H (fun a b=>
 K a b)
theorem b1W(x0 x1){H K}(h:a7q x0 x1 H K):a2K x0 x1 H K:=by
 refine Ct.of fun w0 w ps0 H0 R E I hR=>d1I ?_
 refine g6 Tryz.call112 h I ?_
 rintro _ a _ d b _ _ ⟨c,rfl,rfl,h⟩
 exact hR _ a _ _ b ⟨c,rfl,rfl,h⟩
def a3P(x0:Int)(H:Hp)(K:Bool→Hp→Prop):Prop:=
 R8 x0 H (fun a b=>
 K ((decide (a=1))||(decide (a=2))) b)
theorem a7E(x0){H K}(h:a3P x0 H K):a0X x0 H K:=by
 refine Ct.of fun w0 w ps0 H0 R E I hR=>d1M ?_
 refine g6 Tryz.call93 h I ?_
 rintro _ c _ e d _ _ ⟨b,rfl,rfl,h⟩
 refine a7 pEq ?_
 simp only [E5]
 refine a7 (Pu.g fun a=>by simp only [o9 a];with_reducible exact pEq) ?_
 refine a7 (R9 _ _) ?_
 exact hR _ c _ _ d ⟨_,rfl,rfl,h⟩
def A7(Y6:Int)(t6:ByteArray)(p8:Int)(y9:c8)(C9:(List b7))(H:Hp)(K:ByteArray→d7→(List b7)→Hp→Prop):Prop:=
 (0:Int)≤Y6∧(Y6:Int)≤p8∧(p8:Int)≤t6.size∧
 K (t6.extract (Y6:Int).toNat (p8:Int).toNat) (d7.mk t6 p8 y9 (Sl.mk none 0 0)) C9 H
def A8(b3Z:Int)(Q8:Int)(C6:Bool)(s7:ByteArray)(p5:Int)(r8:c8)(p9:(List b7))(H:Hp)(n2:(Int×Bool×ByteArray×Int×c8×(List b7))→Hp→Prop)(K:ByteArray→d7→(List b7)→Hp→Prop):Prop:=
 TG (C6=true) (a0X Q8 H) false H (fun(b:Bool)(c:Hp)=>
 ((C6&&b)=true→
 G9 (d7.mk s7 p5 r8 (Sl.mk none 0 0)) p9 c (fun a d e=>
 D5 (y8 a) d e (fun f g i=>
 n2 (f,g,a.fs,a.fn,a.fat,d) i)))∧
 ((C6&&b)=false→
 A7 b3Z s7 p5 r8 p9 c K))
def M1(x0:d7)(a:(List b7))(H:Hp)(K:ByteArray→d7→(List b7)→Hp→Prop):Prop:=
 D5 (y8 x0) a H (fun b c d=>
 TL ((b,c,x0.fs,x0.fn,x0.fat,a):Int×Bool×ByteArray×Int×c8×(List b7)) d fun(s:Int×Bool×ByteArray×Int×c8×(List b7)) H n2=>A8 x0.fn s.1 s.2.1 s.2.2.1 s.2.2.2.1 s.2.2.2.2.1 s.2.2.2.2.2 H n2 K)
theorem a1q(x0 f){H K}(h:M1 x0 f H K):E2 x0 f H K:=by
 intro g0 o p q
 refine Ct.of fun w0 w ps0 H0 R E I hR=>b4T ?_
 unfold M1 at h
 unfold F94
 refine a7 (q9 _) (a7 W7 (b8 (l1 Tryz.isAgg3 I rfl) ?_))
 have hj1:∀(t6:ByteArray)(p8:Int)(y9:c8)(C9:(List b7))(T3:Sl)(N6:Frag) H w (_:RowL 88 5 g8 T3 C9 N6) (_:Inv w0 ps0 H0 H [bx g0 123 [(Value.string t6),(vi p8),(vi y9.M8),(vi y9.V1),(vs T3)],N6] w) (_:A7 x0.fn t6 p8 y9 C9 H K),a6G (Value.pointer (some ⟨g0,0,none⟩)) (vi x0.fn) w R E:=by
  intro t6 p8 y9 C9 T3 N6 H w a3w I h
  unfold a6G
  intro _
  unfold A7 at h
  refine T1 I fun au g=>?_
  refine o0 (q9 _) ?_
  refine o0 a5P ?_
  refine o0 (q9 _) ?_
  refine o0 W7 ?_
  refine u7 (l1 Tryz.isAgg9 g rfl) ?_
  refine u7 (l1 Tryz.isAgg3 g rfl) ?_
  obtain ⟨af,ag,ah,h⟩:=h
  refine o0 (b0W t6 Tryz.underlying9 af ag ah) ?_
  exact hR _ H _ _ ((g.bring 1).bring 1) ⟨(t6.extract (x0.fn:Int).toNat (p8:Int).toNat),(d7.mk t6 p8 y9 (Sl.mk none 0 0)),C9,T3,N6,rfl,rfl,a3w,h⟩
 refine u2 fun j1 hx1=>?_
 refine g6 Tryz.call64 (h g0 o p q) ((I.bring 1).bring 1) ?_
 rintro _ ai _ av aj _ _ ⟨r,t,rfl,rfl,h⟩
 refine a7 (j9 _ _ (Value.int .i32 r) rfl) (a7 (j9 _ _ (vB t) rfl) ?_)
 obtain ⟨i,c,ak,al⟩:=h
 refine R1 (J:=fun n l w=>∃(s:Int×Bool×ByteArray×Int×c8×(List b7))(H:Hp)(O8:Sl)(E8:Frag),n=c s∧l=(match s with | (Q8,C6,s7,p5,r8,p9)=>[(Value.int .i32 Q8),(vB C6)])∧(match s with | (Q8,C6,s7,p5,r8,p9)=>RowL 88 5 g8 O8 p9 E8)∧(match s with | (Q8,C6,s7,p5,r8,p9)=>Inv w0 ps0 H0 H [bx g0 123 [(Value.string s7),(vi p5),(vi r8.M8),(vi r8.V1),(vs O8)],E8] w)∧i s H) ⟨_,(r,t,x0.fs,x0.fn,x0.fat,f),ai,o,p,rfl,rfl,q,((aj.bring 1).bring 1),ak⟩ ?_
 rintro aw ax w next2 ⟨⟨Q8,C6,s7,p5,r8,p9⟩,H,O8,E8,rfl,j,Q9,I,am⟩ hn2
 dsimp only at j I Q9
 simp only [List.map_cons,List.map_nil,List.cons.injEq,and_true] at j
 obtain ⟨e6,e7⟩:=j
 simp only [e6,e7]
 obtain ⟨n2,hm2,h⟩:∃n2:(Int×Bool×ByteArray×Int×c8×(List b7))→Hp→Prop,(∀s' H',n2 s' H'→i s' H'∧c s' < c (Q8,C6,s7,p5,r8,p9))∧A8 x0.fn Q8 C6 s7 p5 r8 p9 H n2 K:=⟨_,fun _ _ h=>h,al (Q8,C6,s7,p5,r8,p9) H (fun s' H'=>i s' H'∧c s' < c (Q8,C6,s7,p5,r8,p9)) am (fun _ _ a b=>⟨a,b⟩)⟩
 unfold b2i
 unfold A8 at h
 simp only [E5]
 refine M3 [] (fun d:Bool=>(vB d)) h I (fun z h=>by simp only [o9 z];exact N9 Tryz.call92 h I) fun d k an e v y h=>?_
 refine a7 (D9 _ _) ?_
 refine p6 h (fun _ h=>?_) (fun _ h=>?_)
 ·refine g6 Tryz.call125 (h g0 O8 E8 Q9) ((e.bring 1).bring 1) ?_
  rintro _ _ _ ay ao _ _ ⟨m,ap,aa,ab,rfl,rfl,ac,h⟩
  refine g6 Tryz.call64 (h g0 aa ab ac) ((ao.bring 1).bring 1) ?_
  rintro _ aq _ az ar _ _ ⟨ad,ae,rfl,rfl,h⟩
  refine a7 (j9 _ _ (Value.int .i32 ad) rfl) (a7 (j9 _ _ (vB ae) rfl) ?_)
  exact hn2 _ _ _ (hm2 _ _ h).2 ⟨(ad,ae,m.fs,m.fn,m.fat,ap),aq,aa,ab,rfl,rfl,ac,((ar.bring 1).bring 1),(hm2 _ _ h).1⟩
 ·exact hx1 _ _ (hj1 s7 p5 r8 p9 O8 E8 k _ Q9 ((e.bring 1).bring 1) h)
def a0H(a2u:ByteArray)(N0:Int)(a1I:c8)(a1g:(List b7))(H:Hp)(n1:(ByteArray×Int×c8×(List b7))→Hp→Prop)(K:d7→(List b7)→Hp→Prop):Prop:=
 S2 (d7.mk a2u N0 a1I (Sl.mk none 0 0)) a1g H (fun d e=>
 a2K d ⟨#[35]⟩ e (fun b c=>
 (b=true→
 L6 (d7.mk a2u N0 a1I (Sl.mk none 0 0)) a1g c (fun l f g i=>
 E2 (y8 f) g i (fun m a j k=>
 n1 (a.fs,a.fn,a.fat,j) k)))∧
 (b=false→
 K (d7.mk a2u N0 a1I (Sl.mk none 0 0)) a1g c)))
def a4z(x0:d7)(b:(List b7))(H:Hp)(K:d7→(List b7)→Hp→Prop):Prop:=
 E2 (y8 x0) b H (fun e a c d=>
 TL ((a.fs,a.fn,a.fat,c):ByteArray×Int×c8×(List b7)) d fun(s:ByteArray×Int×c8×(List b7)) H n1=>a0H s.1 s.2.1 s.2.2.1 s.2.2.2 H n1 K)
theorem a8L(x0 g){H K}(h:a4z x0 g H K):Z4 x0 g H K:=by
 intro g0 k m o
 refine Ct.of fun w0 w ps0 H0 R E I hR=>d1q ?_
 refine g6 Tryz.call94 (h g0 k m o) ((I.bring 1).bring 1) ?_
 rintro _ p _ an q _ _ ⟨ao,d,r,t,u,rfl,rfl,v,h⟩
 obtain ⟨e,c,y,z⟩:=h
 refine R1 (J:=fun n l w=>∃(s:ByteArray×Int×c8×(List b7))(H:Hp)(a7F:Sl)(a7G:Frag),n=c s∧l=(match s with | (a2u,N0,a1I,a1g)=>[])∧(match s with | (a2u,N0,a1I,a1g)=>RowL 88 5 g8 a7F a1g a7G)∧(match s with | (a2u,N0,a1I,a1g)=>Inv w0 ps0 H0 H [bx g0 123 [(Value.string a2u),(vi N0),(vi a1I.M8),(vi a1I.V1),(vs a7F)],a7G] w)∧e s H) ⟨_,(d.fs,d.fn,d.fat,r),p,t,u,rfl,rfl,v,((q.bring 1).bring 1),y⟩ ?_
 rintro ap aq w next1 ⟨⟨a2u,N0,a1I,a1g⟩,H,a7F,a7G,rfl,i,b1q,I,aa⟩ hn1
 dsimp only at i I b1q
 clear i
 obtain ⟨n1,hm1,h⟩:∃n1:(ByteArray×Int×c8×(List b7))→Hp→Prop,(∀s' H',n1 s' H'→e s' H'∧c s' < c (a2u,N0,a1I,a1g))∧a0H a2u N0 a1I a1g H n1 K:=⟨_,fun _ _ h=>h,z (a2u,N0,a1I,a1g) H (fun s' H'=>e s' H'∧c s' < c (a2u,N0,a1I,a1g)) aa (fun _ _ a b=>⟨a,b⟩)⟩
 refine g6 Tryz.call95 (h g0 a7F a7G b1q) ((I.bring 1).bring 1) ?_
 rintro _ _ _ ar ab _ _ ⟨au,rfl,rfl,h⟩
 refine g6 Tryz.call80 h ab ?_
 rintro _ ac _ av j _ _ ⟨aw,rfl,rfl,h⟩
 refine p6 h (fun _ h=>?_) (fun _ h=>?_)
 ·refine g6 Tryz.call94 (h g0 a7F a7G b1q) ((j.bring 1).bring 1) ?_
  rintro _ _ _ ax ad _ _ ⟨ay,az,ba,ae,af,rfl,rfl,ag,h⟩
  refine g6 Tryz.call94 (h g0 ae af ag) ((ad.bring 1).bring 1) ?_
  rintro _ ah _ bb ai _ _ ⟨bc,f,aj,ak,al,rfl,rfl,am,h⟩
  exact hn1 _ _ _ (hm1 _ _ h).2 ⟨(f.fs,f.fn,f.fat,aj),ah,ak,al,rfl,rfl,am,((ai.bring 1).bring 1),(hm1 _ _ h).1⟩
 ·exact hR _ ac _ _ ((j.bring 1).bring 1) ⟨(d7.mk a2u N0 a1I (Sl.mk none 0 0)),a1g,a7F,a7G,rfl,rfl,b1q,h⟩
def a3m(a:a1u)(C7:a8)(H:Hp)(K:Int→a8→Hp→Prop):Prop:=
 K 0 C7 H
def a3o(E0:Sl)(a4S:Int)(a:a1u)(u4:Int)(V7:a8)(H:Hp)(n2:(Int×a8)→Hp→Prop)(K:Int→a8→Hp→Prop):Prop:=
 (u4 < a4S→
 (0:Int)≤u4∧(u4:Int) < E0.n∧∃c:ByteArray,EltH H E0 u4 1 [(Value.string c)]∧
 t7 V7 c H (fun d e b=>
 (d=true→
 (0:Int)≤u4∧(u4:Int) < a.fkinds.n∧∃f:Int,EltH b a.fkinds u4 1 [(vi f)]∧
 K f e b)∧
 (d=false→
 n2 ((IntKind.wrap .i64 (u4+1)),e) b)))∧
 (¬(u4 < a4S)→
 a3m a V7 H K)
def a3Z(x0:a8)(x1:a1u)(H:Hp)(K:Int→a8→Hp→Prop):Prop:=
 TL ((0,x0):Int×a8) H fun(s:Int×a8) H n2=>a3o x1.fsigns (x1.fsigns.n:Int) x1 s.1 s.2 H n2 K
theorem a8n(x0 x1){H K}(h:a3Z x0 x1 H K):a1x x0 x1 H K:=by
 intro g0
 refine Ct.of fun w0 w ps0 H0 R E I hR=>c8r ?_
 refine E9 I (cs:=(U8 x1)) rfl fun e r f s=>?_
 have hj1:∀(C7:a8) H w (_:Inv w0 ps0 H0 H [bx e 171 (U8 x1),bx g0 86 (b9 C7)] w) (_:a3m x1 C7 H K),c0v w R E:=by
  intro C7 H w I h
  intro _
  exact hR _ H _ _ I.drop ⟨0,C7,rfl,rfl,h⟩
 refine u2 fun j1 hx1=>?_
 refine a7 b9N (b8 (l1 Tryz.isAgg67 f rfl) (a7 (b6A _ _ _) ?_))
 refine a2x (σ:=Int×a8) (fun (u4,V7)=>[(vi u4)]) (fun (u4,V7)=>[bx e 171 (U8 x1),bx g0 86 (b9 V7)]) h rfl ((f.bring 1).bring 1) ?_
 rintro ⟨u4,V7⟩ H t w next2 n2 b I h hn2
 dsimp only at b I h
 simp only [List.map_cons,List.map_nil,List.cons.injEq,and_true] at b
 have e10:=b
 simp only [e10]
 refine a7 pLs ?_
 refine j7 h (fun _ h=>?_) (fun _ h=>?_)
 ·obtain ⟨j,k,l,c,h⟩:=h
  obtain ⟨u,y,m,c⟩:=c
  refine a7 (b3X m _ _ _ _ j k) (b8 (ld1 (v:=(Value.string l)) Tryz.isAgg9 (I.atH c)) ?_)
  refine g6 Tryz.call69 (h g0) (I.bring 1) ?_
  rintro _ n _ z a _ _ ⟨aa,g,rfl,rfl,h⟩
  refine p6 h (fun _ h=>?_) (fun _ h=>?_)
  ·refine a7 b9O (b8 (l1 Tryz.isAgg169 (a.bring 1) rfl) ?_)
   obtain ⟨o,p,i,d,h⟩:=h
   obtain ⟨ab,ac,q,d⟩:=d
   refine a7 (c2V q _ _ _ _ o p) (b8 (ld1 (v:=(vi i)) Tryz.isAgg3 (a.atH d)) ?_)
   exact hR _ n _ _ (a.bring 1).drop ⟨i,g,rfl,rfl,h⟩
  ·refine a7 pAd ?_
   exact hn2 ((IntKind.wrap .i64 (u4+1)),g) _ _ h (a.bring 1)
 ·exact hx1 _ _ (hj1 V7 H _ ((I.bring 1).bring 1) h)
def K5(b2m:Int)(b2W:Bool)(a:L4)(H:Hp)(K:Bool→Hp→Prop):Prop:=
 (b2W=true→
 K (decide (b2m=2)) H)∧
 (b2W=false→
 K false H)
def U2(a3M:Int)(a5w:Int)(b2X:Bool)(a:L4)(H:Hp)(K:Bool→Hp→Prop):Prop:=
 (b2X=true→
 K (decide (a3M=1)) H)∧
 (b2X=false→
 (a5w=6→
 K5 a3M (decide (a5w=6)) a H K)∧
 (¬(a5w=6)→
 (a5w=7→
 K5 a3M (decide (a5w=7)) a H K)∧
 (¬(a5w=7)→
 (a5w=8→
 K5 a3M (decide (a5w=8)) a H K)∧
 (¬(a5w=8)→
 (a5w=9→
 K5 a3M (decide (a5w=9)) a H K)∧
 (¬(a5w=9)→
 K5 a3M (decide (a5w=10)) a H K)))))
def U3(a3v:Int)(a5v:Int)(b2Y:Bool)(a:L4)(H:Hp)(K:Bool→Hp→Prop):Prop:=
 (b2Y=true→
 K (decide (a3v=0)) H)∧
 (b2Y=false→
 (a5v=4→
 U2 a3v a5v (decide (a5v=4)) a H K)∧
 (¬(a5v=4)→
 U2 a3v a5v (decide (a5v=5)) a H K))
def a5I(x0:L4)(H:Hp)(K:Bool→Hp→Prop):Prop:=
 a1w (d8.G3 x0) H (fun c b a=>
 ((((!decide (x0.y7.d6=1))&&(!decide (x0.y7.M4=0)))||((!b)&&(!decide (x0.y7.o8=⟨#[]⟩))))=true→
 K false a)∧
 ((((!decide (x0.y7.d6=1))&&(!decide (x0.y7.M4=0)))||((!b)&&(!decide (x0.y7.o8=⟨#[]⟩))))=false→
 (x0.y7.d6=1→
 K ((decide (0≤x0.y7.M4))&&(decide ((x0.y7.N8.n:Int)=0))) a)∧
 (¬(x0.y7.d6=1)→
 (x0.y7.d6=2→
 U3 (x0.y7.N8.n:Int) x0.y7.d6 (decide (x0.y7.d6=2)) x0 a K)∧
 (¬(x0.y7.d6=2)→
 U3 (x0.y7.N8.n:Int) x0.y7.d6 (decide (x0.y7.d6=3)) x0 a K))))
theorem a9T(x0){H K}(h:a5I x0 H K):a2Q x0 H K:=by
 refine Ct.of fun w0 w ps0 H0 R E I hR=>c8A ?_
 refine E9 I (cs:=(f7 x0.y7)) rfl fun f l i m=>?_
 refine a7 a0d (a7 a3f (b8 (l1 Tryz.isAgg37 i rfl) (a7 (a4K _ _ _) (b8 (lW Tryz.isAgg100 Tryz.sizeOf100 rfl i) ?_))))
 refine a7 (a7s x0) ?_
 refine g6 Tryz.call107 h i ?_
 rintro _ d _ o c _ _ ⟨j,k,rfl,rfl,h⟩
 refine a7 (j9 _ _ (Value.string j) rfl) (a7 (j9 _ _ (vB k) rfl) (a7 a0d (a7 a1i (b8 (l1 Tryz.isAgg3 c rfl) ?_))))
 refine a7 pNe ?_
 refine a7 (Pu.g fun a=>by with_reducible exact a0d) ?_
 refine a7 (Pu.g fun a=>by simp only [o9 a];with_reducible exact a6E) ?_
 refine b8 (Ld.g fun a=>by simp only [o9 a];exact (l1 Tryz.isAgg2 c rfl)) ?_
 refine a7 (Pu.g fun a=>by simp only [o9 a];with_reducible exact pNe) ?_
 refine a7 (D9 _ _) ?_
 simp only [E5]
 refine a7 (Pu.g fun a=>by simp only [o9 a];with_reducible exact (T6 _)) ?_
 simp only [b4J]
 refine a7 (Pu.e (a2X _ _ _) (Pu.g fun hb=>by obtain ⟨a,b⟩:=a5Y hb;with_reducible exact a0d)) ?_
 refine a7 (Pu.e (a2X _ _ _) (Pu.g fun hb=>by obtain ⟨a,b⟩:=a5Y hb;simp only [o9 hb];with_reducible exact a5n)) ?_
 refine b8 (Ld.e (a2X _ _ _) (Ld.g fun hb=>by obtain ⟨a,b⟩:=a5Y hb;simp only [o9 hb];exact (l1 Tryz.isAgg9 c rfl))) ?_
 refine a7 (Pu.e (a2X _ _ _) (Pu.g fun hb=>by obtain ⟨a,b⟩:=a5Y hb;simp only [o9 hb];with_reducible exact (c9W _ _ _ _ _))) ?_
 refine a7 (Pu.g fun a=>by simp only [o9 a,b4I a];with_reducible exact (D9 _ _)) ?_
 refine a7 (R9 _ _) ?_
 refine p6 h (fun _ h=>?_) (fun _ h=>?_)
 ·exact hR _ d _ _ c.drop ⟨_,rfl,rfl,h⟩
 ·refine a7 a0d (a7 a1i (b8 (l1 Tryz.isAgg3 c rfl) (a7 pEq ?_)))
  refine j7 h (fun _ h=>?_) (fun _ h=>?_)
  ·refine a7 a0d (a7 a6E (b8 (l1 Tryz.isAgg2 c rfl) (a7 pGe ?_)))
   simp only [E5]
   refine a7 (Pu.g fun a=>by simp only [o9 a];with_reducible exact pEq) ?_
   refine a7 (D9 _ _) ?_
   exact hR _ d _ _ c.drop ⟨_,rfl,rfl,h⟩
  ·have hj1:∀(b2Y:Bool) H w (_:Inv w0 ps0 H0 H [bx f 100 (f7 x0.y7)] w) (_:U3 (x0.y7.N8.n:Int) x0.y7.d6 b2Y x0 H K),c0C (vi (x0.y7.N8.n:Int)) (vi x0.y7.d6) (vB b2Y) w R E:=by
    intro b2Y H w I h
    intro _
    refine p6 h (fun _ h=>?_) (fun _ h=>?_)
    ·refine a7 pEq ?_
     exact hR _ H _ _ I.drop ⟨_,rfl,rfl,h⟩
    ·have hj2:∀(b2X:Bool) H w (_:Inv w0 ps0 H0 H [bx f 100 (f7 x0.y7)] w) (_:U2 (x0.y7.N8.n:Int) x0.y7.d6 b2X x0 H K),c0B (vi (x0.y7.N8.n:Int)) (vi x0.y7.d6) (vB b2X) w R E:=by
      intro b2X H w I h
      intro _
      refine p6 h (fun _ h=>?_) (fun _ h=>?_)
      ·refine a7 pEq ?_
       exact hR _ H _ _ I.drop ⟨_,rfl,rfl,h⟩
      ·have hj3:∀(b2W:Bool) H w (_:Inv w0 ps0 H0 H [bx f 100 (f7 x0.y7)] w) (_:K5 (x0.y7.N8.n:Int) b2W x0 H K),c0A (vi (x0.y7.N8.n:Int)) (vB b2W) w R E:=by
        intro b2W H w I h
        intro _
        refine p6 h (fun _ h=>?_) (fun _ h=>?_)
        ·refine a7 pEq ?_
         exact hR _ H _ _ I.drop ⟨_,rfl,rfl,h⟩
        ·exact hR _ H _ _ I.drop ⟨_,rfl,rfl,h⟩
       refine u2 fun j3 hx3=>?_
       refine a7 pEq ?_
       refine j7 h (fun _ h=>?_) (fun _ h=>?_)
       ·exact hx3 _ _ (hj3 (decide (x0.y7.d6=6)) H _ I h)
       ·refine a7 pEq ?_
        refine j7 h (fun _ h=>?_) (fun _ h=>?_)
        ·exact hx3 _ _ (hj3 (decide (x0.y7.d6=7)) H _ I h)
        ·refine a7 pEq ?_
         refine j7 h (fun _ h=>?_) (fun _ h=>?_)
         ·exact hx3 _ _ (hj3 (decide (x0.y7.d6=8)) H _ I h)
         ·refine a7 pEq ?_
          refine j7 h (fun _ h=>?_) (fun _ h=>?_)
          ·exact hx3 _ _ (hj3 (decide (x0.y7.d6=9)) H _ I h)
          ·refine a7 pEq ?_
           exact hx3 _ _ (hj3 (decide (x0.y7.d6=10)) H _ I h)
     refine u2 fun j2 hx2=>?_
     refine a7 pEq ?_
     refine j7 h (fun _ h=>?_) (fun _ h=>?_)
     ·exact hx2 _ _ (hj2 (decide (x0.y7.d6=4)) H _ I h)
     ·refine a7 pEq ?_
      exact hx2 _ _ (hj2 (decide (x0.y7.d6=5)) H _ I h)
   refine u2 fun j1 hx1=>?_
   refine a7 pEq ?_
   refine j7 h (fun _ h=>?_) (fun _ h=>?_)
   ·exact hx1 _ _ (hj1 (decide (x0.y7.d6=2)) d _ c h)
   ·refine a7 pEq ?_
    exact hx1 _ _ (hj1 (decide (x0.y7.d6=3)) d _ c h)
def a6W(x0:i7)(H:Hp)(K:d8→Hp→Prop):Prop:=
 K (d8.P1 (V3.mk x0)) H
theorem b1r(x0){H K}(h:a6W x0 H K):a6K x0 H K:=by
 refine Ct.of fun w0 w ps0 H0 R E I hR=>c8L ?_
 refine E9 I (cs:=(g7 x0)) rfl fun b c a d=>?_
 refine b8 (lW Tryz.isAgg75 Tryz.sizeOf75 rfl a) (a7 (b8g _ _ _ _ _ _ _ _) (a7 (b5R (V3.mk x0)) ?_))
 exact hR _ H _ _ a.drop ⟨_,rfl,rfl,h⟩
end Go.Proofs.YtoflkliecagjcaaGreatDoor
