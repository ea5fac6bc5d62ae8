/- Lemmas. -/
import Derived.Test.YthjlehnccgjpoaaGreatDooryVV1
namespace Go.Proofs.YthjlehnccgjpoaaGreatDoor
open Tryz Go.RowKit
set_option maxRecDepth 100000
set_option maxHeartbeats 2000000
def O9(aa:(List j8))(H)(K:KT Sl):=
 ∀(N5:Sl)(a:Hp),Hle H a->SlH a 1 C0 N5 aa->N5.n<=N5.c->
 K N5 a
def P0(M5:Sl)(aa:Int)(C6:(List j8))(B8:Int)(H)(n2:KT ((List j8)×Int))(K:KT Sl):=
 (B8 < aa->
 (0:Int)<=B8/\(B8:Int) < M5.n/\∃a:j9,EltH H M5 B8 2 (q6 a)/\
 b1k a H (λb c=>
 (C6.length+([b]:List j8).length)*17<=140737488355328/\
 n2 ((C6++[b]),(IntKind.wrap .i64 (B8+1))) c))/\
 (¬(B8 < aa)->
 O9 C6 H K)
def Y6(x0:Sl)(H)(K:KT Sl):=
 TL (([],0):(List j8)×Int) H λ(s:(List j8)×Int) H n2=>P0 x0 (x0.n:Int) s.1 s.2 H n2 K
theorem a3r(x0){H K}(h:Y6 x0 H K):Q6 x0 H K:=by
 refine Ct.of λw0 w ps0 H0 R E I hR=>e3s ?_
 have hj1:∀bf N5 Fs5j1 H w,RowL 149 1 C0 N5 bf Fs5j1->Inv w0 ps0 H0 H [Fs5j1] w->O9 bf H K->d3e (vs N5) w R E:=by
  intro bf N5 Fs5j1 H w bg I h
  intro _
  obtain ⟨j,q,r,t,u⟩:=Inv.freezeC I bg (by decide)
  replace h:=h N5 j r t u
  exact hr1 hR q h
 refine u7 λj1 hx1=>c7 (a3U _ _ _) ?_
 obtain ⟨f,d,v,y⟩:=h
 refine G6 (J:=λn l w=>∃(s:(List j8)×Int)(H:Hp)(bh:Sl)(Fs5l2:Frag),n=d s/\l=(match s with | (C6,B8)=>[(vs bh),(vi B8)])/\(match s with | (C6,B8)=>RowL 149 1 C0 bh C6 Fs5l2)/\(match s with | (C6,B8)=>Inv w0 ps0 H0 H [Fs5l2] w)/\f s H) ⟨_,([],0),H,sN,[],rfl,rfl,(RowL.nil Y3 a0x),I.nil,v⟩ ?_
 rintro am an w next2 ⟨⟨C6,B8⟩,H,bh,Fs5l2,rfl,g,bi,I,z⟩ hn2
 obtain ⟨e5,e10⟩:=lE2 g
 simp only [e5,e10]
 obtain ⟨n2,hm2,h⟩:=tlA (B:=λn2=>P0 x0 (x0.n:Int) C6 B8 H n2 K) (y (C6,B8) H) z
 refine c7 pLs (j7 h (λ_ h=>?_) (λ_ h=>?_))
 ·obtain ⟨aa,ab,k,i,h⟩:=h
  obtain ⟨ao,ap,ac,i⟩:=i
  refine c7 (a5l ac _ _ _ _ aa ab) (d7 (ldA (vs:=(q6 k)) isAgg65 sizeOf65 rfl (I.atH i)) ?_)
  refine r8 I zeroValue65 rfl λaq ar ad au=>v8 ad sizeOf65 (vs:=(q6 k)) λav m aw=>d7 (lW isAgg65 sizeOf65 rfl m) (oc1 call76 h m λo ae ax af h=>?_)
  refine O0 (e:=149) (c:=C0) (xs:=[o]) af (b7U _) rfl rfl Y3 a0x (nb rfl) λay az ba ag p bb=>?_
  obtain ⟨ah,h⟩:=h
  exact b6U (s:=bh) (xs:=C6) (p.bring 2) bi (ag.srcO ((p.bring 2).bring 1)) ah λai aj bc ak al bd=>c7 pAd (hn2 _ _ _ (hm2 _ _ h).2 ⟨((C6++[o]),(IntKind.wrap .i64 (B8+1))),ae,ai,aj,rfl,rfl,ak,((al.bring 1).drop.bring 1).drop,(hm2 _ _ h).1⟩)
 ·exact hx1 _ _ (hj1 _ _ _ H _ bi I h)
def b1p(x0)(H)(K:KT j8):=
 K (j8.Q8 (a0D.mk x0)) H
theorem b7V(x0){H K}(h:b1p x0 H K):b1l x0 H K:=by
 refine Ct.of λw0 w ps0 H0 R E I hR=>e3w (D3 I rfl λb c a d=>?_)
 refine d7 (lW isAgg55 sizeOf55 rfl a) (c7 (c6n _ _ _ _ _ _ _ _ _ _ _ _ _ _) (c7 (c3L (a0D.mk x0)) ?_))
 exact hr1 hR a.drop h
def S5(_:Sl)(ab:Int)(_:Sl)(_:Int)(ag:Int)(H)(n4:KT (Int×Int))(_:KT Sl):=
 n4 (ab,(IntKind.wrap .i64 (ag+1))) H
def S6(aa:(List j8))(H)(K:KT Sl):=
 ∀(ab:Sl)(a:Hp),Hle H a->SlH a 1 C0 ab aa->ab.n<=ab.c->
 K ab a
def S7(aa:Sl)(ab:Int)(ad:(List j8))(ae:Int)(H)(n3:KT ((List j8)×Int))(K:KT Sl):=
 (ae < ab->
 (0:Int)<=ae/\(ae:Int) < aa.n/\∃b:Sl,EltH H aa ae 1 [(vs b)]/\
 ∃a:List j8,SlH H 1 C0 b a/\(ad.length+a.length)*17<=140737488355328/\
 n3 ((ad++a),(IntKind.wrap .i64 (ae+1))) H)/\
 (¬(ae < ab)->
 S6 ad H K)
def S8(aa:Sl)(ab:Int)(H)(K:KT Sl):=
 Z0 ab H (λa b=>
 TL ((a,0):(List j8)×Int) b λ(s:(List j8)×Int) H n3=>S7 aa (aa.n:Int) s.1 s.2 H n3 K)
def a0o(aa)(ab:Sl)(ad:Int)(ae:Int)(ag:Int)(H)(n4:KT (Int×Int))(K:KT Sl):=
 (ag < ad->
 (0:Int)<=ag/\(ag:Int) < ab.n/\∃a:Sl,EltH H ab ag 1 [(vs a)]/\
 ((IntKind.wrap .i64 (ae+(a.n:Int))) < 0->
 False)/\
 (¬((IntKind.wrap .i64 (ae+(a.n:Int))) < 0)->
 S5 aa (IntKind.wrap .i64 (ae+(a.n:Int))) ab ad ag H n4 K))/\
 (¬(ag < ad)->
 S8 aa ae H K)
def a0M(x0:Sl)(H)(K:KT Sl):=
 TL ((0,0):Int×Int) H λ(s:Int×Int) H n4=>a0o x0 x0 (x0.n:Int) s.1 s.2 H n4 K
theorem a5e(x0){H K}(h:a0M x0 H K):L3 x0 H K:=by
 refine Ct.of λw0 w ps0 H0 R E I hR=>e3q ?_
 have hj1:∀bf H w,Inv w0 ps0 H0 H [] w->S8 x0 bf H K->d3c (vs x0) (vi bf) w R E:=by
  intro bf H w I h
  intro _
  refine f7 call110 h I ?_
  rintro _ m _ au o _ _ ⟨p,q,r,rfl,rfl,t,h⟩
  have hj2:∀bg bh Fs6j2 H w,RowL 149 1 C0 bh bg Fs6j2->Inv w0 ps0 H0 H [Fs6j2] w->S6 bg H K->d3b (vs bh) w R E:=by
   intro bg bh Fs6j2 H w bi I h
   intro _
   obtain ⟨j,u,y,z,aa⟩:=Inv.freezeC I bi (by decide)
   replace h:=h bh j y z aa
   exact hr1 hR u h
  refine u7 λj2 hx2=>c7 (c2q _ _ _) ?_
  obtain ⟨d,c,ab,ac⟩:=h
  refine G6 (J:=λn l w=>∃(s:(List j8)×Int)(H:Hp)(bj:Sl)(Fs6l3:Frag),n=c s/\l=(match s with | (bk,bm)=>[(vs bj),(vi bm)])/\(match s with | (bk,bm)=>RowL 149 1 C0 bj bk Fs6l3)/\(match s with | (bk,bm)=>Inv w0 ps0 H0 H [Fs6l3] w)/\d s H) ⟨_,(p,0),m,q,r,rfl,rfl,t,o,ab⟩ ?_
  rintro av aw w next3 ⟨⟨bk,bm⟩,H,bj,Fs6l3,rfl,e,bn,I,ad⟩ hn3
  obtain ⟨e6,e27⟩:=lE2 e
  simp only [e6,e27]
  obtain ⟨n3,hm3,h⟩:=tlA (B:=λn3=>S7 x0 (x0.n:Int) bk bm H n3 K) (ac (bk,bm) H) ad
  refine c7 pLs (j7 h (λ_ h=>?_) (λ_ h=>?_))
  ·obtain ⟨ae,af,ag,f,h⟩:=h
   obtain ⟨ax,ay,ah,f⟩:=f
   refine c7 (c4I ah _ _ _ _ ae af) (d7 (ld1 (v:=(vs ag)) isAgg146 (I.atH f)) ?_)
   obtain ⟨ai,aj,h⟩:=h
   obtain ⟨ak,h⟩:=h
   exact b6U (s:=bj) (xs:=bk) I bn (SlH.src I aj Y3) ak λal am az an ao ba=>c7 pAd (hn3 _ _ _ (hm3 _ _ h).2 ⟨((bk++ai),(IntKind.wrap .i64 (bm+1))),H,al,am,rfl,rfl,an,ao,(hm3 _ _ h).1⟩)
  ·exact hx2 _ _ (hj2 _ _ _ H _ bn I h)
 refine u7 λj1 hx1=>c7 (c2q _ _ _) (a2f (σ:=Int×Int) (λ(bo,bp)=>[(vi bo),(vi bp)]) (λ(bo,bp)=>[]) h rfl I ?_)
 rintro ⟨bo,bp⟩ H bb w next4 n4 g I h hn4
 obtain ⟨e3,e11⟩:=lE2 g
 simp only [e3,e11]
 refine c7 pLs (j7 h (λ_ h=>?_) (λ_ h=>?_))
 ·have hj5:∀bq H w,Inv w0 ps0 H0 H [] w->S5 x0 bq x0 (x0.n:Int) bp H n4 K->d3d (vs x0) (vi bq) (vs x0) (vi (x0.n:Int)) (vi bp) w next4 R E:=by
   intro bq H w I h
   intro _
   exact c7 pAd (hn4 (bq,(IntKind.wrap .i64 (bp+1))) _ _ h I)
  refine u7 λj5 hx5=>?_
  obtain ⟨ap,aq,k,i,h⟩:=h
  obtain ⟨bc,bd,ar,i⟩:=i
  refine c7 (c4I ar _ _ _ _ ap aq) (d7 (ld1 (v:=(vs k)) isAgg146 (I.atH i)) (c7 (b4A _ _ _) (c7 pAd (c7 pLs ?_))))
  refine j7 h (λ_ h=>?_) (λ_ h=>?_)
  ·exact c7 (d2x _) h.elim
  ·exact hx5 _ _ (hj5 _ H _ I h)
 ·exact hx1 _ _ (hj1 _ H _ I h)
def b1Z(x0:Int)(H)(K:KT Bool):=
 X8 x0 H (λa b=>
 K ((decide (a=3))||(decide (a=4))) b)
theorem b8U(x0){H K}(h:b1Z x0 H K):a5D x0 H K:=by
 refine Ct.of λw0 w ps0 H0 R E I hR=>d9H (oc1 call127 h I λb c e d h=>?_)
 refine c7 pEq ?_
 simp only [K6]
 refine c7 (Pu.g λa=>by simp only [p6 a];with_reducible exact pEq) ?_
 exact c7 (M6 _ _) (hR _ c _ _ d ⟨_,rfl,rfl,h⟩)
def a2d(H)(K:KT Int):=
 K (-1) H
def a5G(aa:(List BA))(ab:BA)(G4:Int)(M5:Int)(H)(n2:KT Int)(K:KT Int):=
 (M5 < G4->
 (0:Int)<=M5/\∃a:BA,(aa)[(M5:Int).toNat]? = some a/\
 (ab=a->
 K M5 H)/\
 (¬(ab=a)->
 n2 (IntKind.wrap .i64 (M5+1)) H))/\
 (¬(M5 < G4)->
 a2d H K)
def a6D(x0:(List BA))(x1:BA)(H)(K:KT Int):=
 TL (0:Int) H λ(s:Int) H n2=>a5G x0 x1 (x0.length:Int) s H n2 K
theorem b2j(x0 x1){H K}(h:a6D x0 x1 H K):a3m x0 x1 H K:=by
 intro sx0 Fx0 hx0
 refine Ct.of λw0 w ps0 H0 R E I hR=>d9S ?_
 have hj1:∀H w,Inv w0 ps0 H0 H [Fx0] w->a2d H K->c9y w R E:=by
  intro H w I h
  intro _
  exact hR _ H _ _ I ⟨_,rfl,rfl,h⟩
 refine u7 λj1 hx1=>c7 (a4E underlying28 hx0) (a2f (σ:=Int) (λM5=>[(vi M5)]) (λM5=>[Fx0]) h rfl I ?_)
 rintro M5 H f w next2 n2 b I h hn2
 have b:=lE1 b
 have e8:=b
 simp only [e8]
 refine c7 pLs (j7 h (λ_ h=>?_) (λ_ h=>?_))
 ·obtain ⟨c,e,a,h⟩:=h
  obtain ⟨g,i,d,j⟩:=hx0.addr a
  refine c7 (b2h d _ _ _ _ c (hx0.lt c a)) (d7 (ld1 (v:=(wS e)) isAgg9 (hx0.atW I d a)) (c7 (a0C _ _ _ _ _) ?_))
  refine j7 h (λ_ h=>?_) (λ_ h=>?_)
  ·exact hR _ H _ _ I ⟨_,rfl,rfl,h⟩
  ·exact c7 pAd (hn2 (IntKind.wrap .i64 (M5+1)) _ _ h I)
 ·exact hx1 _ _ (hj1 H _ I h)
def a5H(x0:(List BA))(x1:BA)(H)(K:KT Bool):=
 a3m x0 x1 H (λa b=>
 K (decide (0<=a)) b)
theorem b0Z(x0 x1){H K}(h:a5H x0 x1 H K):a0v x0 x1 H K:=by
 intro sx0 Fx0 hx0
 refine Ct.of λw0 w ps0 H0 R E I hR=>d9B (f7 call174 (h sx0 Fx0 hx0) I ?_)
 rintro _ a _ d b _ _ ⟨c,rfl,rfl,h⟩
 exact c7 pGe (hR _ a _ _ b ⟨_,rfl,rfl,h⟩)
def Q0(B5:Int)(u5:Int)(A9:Int)(aa:Bool)(ab:Bool)(ad:(List BA))(H)(K:Bool->v6->(List BA)->Hp->Prop):=
 K true (v6.mk B5 u5 A9 aa ab sN) ad H
def a8b(x0:v6)(a:(List BA))(x1)(x2:Int)(H)(K:Bool->v6->(List BA)->Hp->Prop):=
 (4096 < (IntKind.wrap .i64 (x0.fnodes+1))->
 K false (v6.mk (IntKind.wrap .i64 (x0.fnodes+1)) x0.fdepth 33 x0.fform x0.fnamed sN) a H)/\
 (¬(4096 < (IntKind.wrap .i64 (x0.fnodes+1)))->
 (64 < x2->
 K false (v6.mk (IntKind.wrap .i64 (x0.fnodes+1)) x0.fdepth 32 x0.fform x0.fnamed sN) a H)/\
 (¬(64 < x2)->
 TG (x0.fform=false) (a7B x1 H) false H (λ(c:Bool)(j:Hp)=>
 a3W x1 j (λb e d=>
 (e=true->
 TG (x0.fnamed=false) (a6q b d) false d (λ(f:Bool)(k:Hp)=>
 a0v a b k (λg i=>
 ((!g)=true->
 (a.length+([b]:List BA).length)*17<=140737488355328/\
 Q0 (IntKind.wrap .i64 (x0.fnodes+1)) (if x2 > x0.fdepth then x2 else x0.fdepth) x0.fe (x0.fform||(!c)) (x0.fnamed||(!f)) (a++[b]) i K)/\
 ((!g)=false->
 Q0 (IntKind.wrap .i64 (x0.fnodes+1)) (if x2 > x0.fdepth then x2 else x0.fdepth) x0.fe (x0.fform||(!c)) (x0.fnamed||(!f)) a i K))))/\
 (e=false->
 Q0 (IntKind.wrap .i64 (x0.fnodes+1)) (if x2 > x0.fdepth then x2 else x0.fdepth) x0.fe (x0.fform||(!c)) x0.fnamed a d K)))))
theorem b3J(x0 b x1 x2){H K}(h:a8b x0 b x1 x2 H K):a4q x0 b x1 x2 H K:=by
 intro g0 k l m
 refine Ct.of λw0 w ps0 H0 R E I hR=>d8T (c7 (t7 _) (c7 b6z (d7 (l1 isAgg3 I rfl) (c7 pAd (c7 (t7 _) ?_)))))
 refine c7 b6z (K0 I sizeOf3 λba p bb=>?_)
 refine c7 (t7 _) (c7 b6z (d7 (l1 isAgg3 p rfl) (c7 pGt ?_)))
 refine j7 h (λ_ h=>?_) (λ_ h=>?_)
 ·refine c7 (t7 _) (c7 b0r ?_)
  exact K0 p sizeOf32 λbc an bd=>hR _ H _ _ ((an.bring 1).bring 1) ⟨false,(v6.mk (IntKind.wrap .i64 (x0.fnodes+1)) x0.fdepth 33 x0.fform x0.fnamed sN),b,k,l,rfl,rfl,m,h⟩
 ·refine c7 pGt (j7 h (λ_ h=>?_) (λ_ h=>?_))
  ·refine c7 (t7 _) (c7 b0r ?_)
   exact K0 p sizeOf32 λbe ao bf=>hR _ H _ _ ((ao.bring 1).bring 1) ⟨false,(v6.mk (IntKind.wrap .i64 (x0.fnodes+1)) x0.fdepth 32 x0.fform x0.fnamed sN),b,k,l,rfl,rfl,m,h⟩
  ·refine c7 (t7 _) (c7 c1e (d7 (l1 isAgg3 p rfl) (c7 (d1Z _ _ _ _ _) (c7 (t7 _) ?_))))
   refine c7 c1e (K0 p sizeOf3 λae z bg=>?_)
   refine c7 (t7 _) (c7 b6A (d7 (l1 isAgg4 z rfl) ?_))
   simp only [K6]
   refine b9j (D:=λaf t=>∃(d:Bool)(n:Hp),af=(gv x0.fform false (vB d))/\(Inv w0 ps0 H0 n [bx g0 106 [(vi (IntKind.wrap .i64 (x0.fnodes+1))),(vi (if x2 > x0.fdepth then x2 else x0.fdepth)),(vi x0.fe),(vB x0.fform),(vB x0.fnamed),(vs k)],l] t)/\(∀i,i < ae.heap.size->¬inF [] i->t.heap[i]? = ae.heap[i]?)/\Hle H n/\(a3W x1 n (λ(j:BA)(u:Bool)(q:Hp)=>
 (u=true->
 TG (x0.fnamed=false) (a6q j q) false q (λ(f:Bool)(v:Hp)=>
 a0v b j v (λ(aa:Bool)(r:Hp)=>
 ((!aa)=true->
 (b.length+([j]:List BA).length)*17<=140737488355328/\
 Q0 (IntKind.wrap .i64 (x0.fnodes+1)) (if x2 > x0.fdepth then x2 else x0.fdepth) x0.fe (x0.fform||(!d)) (x0.fnamed||(!f)) (b++[j]) r K)/\
 ((!aa)=false->
 Q0 (IntKind.wrap .i64 (x0.fnodes+1)) (if x2 > x0.fdepth then x2 else x0.fdepth) x0.fe (x0.fform||(!d)) (x0.fnamed||(!f)) b r K))))/\
 (u=false->
 Q0 (IntKind.wrap .i64 (x0.fnodes+1)) (if x2 > x0.fdepth then x2 else x0.fdepth) x0.fe (x0.fform||(!d)) x0.fnamed b q K)))) (λo=>?_) (λo=>?_) ?_
   ·replace h:=h.1 o
    have a:=o
    simp only [p6 a]
    refine b7b z h (λd n t ab ag ah h=>?_)
    exact ⟨d,n,by rfl,ab,ah,ag,h⟩
   ·exact ⟨false,H,by rw [c1s o],z,λ_ _ _=>rfl,Hle.refl _,h.2 o⟩
   ·clear h
    rintro af t ⟨d,n,rfl,ab,ah,ag,h⟩
    refine c7 (Pu.g λa=>by simp only [p6 a];with_reducible exact (R5 _)) ?_
    refine c7 (M6 _ _) (c7 (t7 _) (c7 b6A ?_))
    refine K0 ab sizeOf4 λbh ap bi=>?_
    have hj1:∀B5 u5 A9 ai bw bz ca cc H w,RowL 9 1 v7 ca bz cc->Inv w0 ps0 H0 H [bx g0 106 [(vi B5),(vi u5),(vi A9),(vB ai),(vB bw),(vs ca)],cc] w->Q0 B5 u5 A9 ai bw bz H K->c9e w R E:=by
     intro B5 u5 A9 ai bw bz ca cc H w cd I h
     intro _
     exact hR _ H _ _ ((I.bring 1).bring 1) ⟨true,(v6.mk B5 u5 A9 ai bw sN),bz,ca,cc,rfl,rfl,cd,h⟩
    refine u7 λj1 hx1=>f7 call145 h ap ?_
    rintro _ q _ bj y _ _ ⟨j,u,rfl,rfl,h⟩
    refine c7 (m7 _ _ (wS j) rfl) (c7 (m7 _ _ (vB u) rfl) ?_)
    refine t6 h (λ_ h=>?_) (λ_ h=>?_)
    ·refine c7 (t7 _) (c7 b6B (d7 (l1 isAgg4 y rfl) ?_))
     simp only [K6]
     refine Q4 [] (λf:Bool=>(vB f)) h y (λa h=>by simp only [p6 a];exact R6 call146 h y) λf v aq ac aj ak h=>?_
     refine c7 (Pu.g λa=>by simp only [p6 a];with_reducible exact (R5 _)) ?_
     refine c7 (M6 _ _) (c7 (t7 _) (c7 b6B ?_))
     refine K0 ac sizeOf4 λbk al bl=>c7 (t7 _) (c7 b6C (d7 (l1 isAgg28 al rfl) ?_))
     refine f7 call147 (h k l m) (al.bring 1) ?_
     rintro _ r _ bm ad _ _ ⟨aa,rfl,rfl,h⟩
     refine c7 (R5 _) (t6 h (λ_ h=>?_) (λ_ h=>?_))
     ·refine c7 (t7 _) (c7 b6C (d7 (l1 isAgg28 (ad.bring 1) rfl) ?_))
      refine O0 (e:=9) (c:=v7) (xs:=[j]) ad (a0L _) rfl rfl N6 N7 (nb rfl) λbn bo bp ar am bq=>?_
      obtain ⟨au,h⟩:=h
      refine d2o (s:=k) (xs:=b) (am.bring 1) m (ar.srcO ((am.bring 1).bring 1)) au λav aw br ax ay bs=>c7 (t7 _) (c7 b6C ?_)
      exact K0 ((ay.bring 1).drop.bring 1) sizeOf28 λbt az bu=>hx1 _ _ (hj1 _ _ _ _ _ _ _ _ r _ ax ((az.bring 1).bring 1) h)
     ·exact hx1 _ _ (hj1 _ _ _ _ _ b k l r _ m (ad.bring 1) h)
    ·exact hx1 _ _ (hj1 _ _ _ _ _ b k l q _ m ((y.bring 1).bring 1) h)
def b4k(x0:o8)(H)(K:KT v6):=
 Q6 x0.a2h H (λd e=>
 G7 x0.a7s e (λf g=>
 ∀(a:Sl)(b:Hp),Hle g b->SlH b 1 csl a [d,f]->a.n<=a.c->
 L3 a b (λi j=>
 a7x i j (λk l=>
 K k l))))
theorem c0T(x0){H K}(h:b4k x0 H K):b0m x0 H K:=by
 refine Ct.of λw0 w ps0 H0 R E I hR=>e2H (D3 I rfl λz aa b ab=>?_)
 refine L6 b λac a=>g8 a9I (g8 a7u ?_)
 refine s7 (l1 isAgg22 a rfl) (s7 (l1 isAgg23 a rfl) ?_)
 refine f7 call75 h a ?_
 rintro _ _ _ ad d _ f ⟨g,rfl,rfl,h⟩
 refine ⟨(f _ a.lt1 (Inv.V1 (Fi:=[]) a)),?_⟩
 refine oc1 call77 h d λj _ ae i h=>O0 (e:=146) (c:=csl) (xs:=[g,j]) i (c6l _ _ _ _ _ _) rfl rfl c0f c0g (nb rfl) λk af ag l m ah=>?_
 obtain ⟨n,o,p,q,r⟩:=Inv.freezeC m l (by decide)
 replace h:=h k n p q r
 refine oc1 call74 h o λaj _ ai s h=>f7 call73 h s ?_
 rintro _ t _ ak u _ _ ⟨v,y,rfl,rfl,h⟩
 exact hR _ t _ _ (u.bring 1).drop ⟨v,y,rfl,rfl,h⟩
def a7D(a:d8)(b:d8)(H)(K:KT Bool):=
 TG (((((decide (b.d9=12))&&(decide (a.d9=12)))&&(decide (b.fA.K3=a.fA.K3/\b.fA.A6=a.fA.A6)))&&(decide (b.fB.K3=a.fB.K3/\b.fB.A6=a.fB.A6)))=true) (a5m b.fOp H) 0 H (λ(c:Int)(d:Hp)=>
 K (((((decide (b.d9=12))&&(decide (a.d9=12)))&&(decide (b.fA.K3=a.fA.K3/\b.fA.A6=a.fA.A6)))&&(decide (b.fB.K3=a.fB.K3/\b.fB.A6=a.fB.A6)))&&(decide (a.fOp=c))) d)
def b4l(x0:Sl)(H)(K:KT Bool):=
 ((x0.n:Int)=0->
 K true H)/\
 (¬((x0.n:Int)=0)->
 ((x0.n:Int)=1->
 (0:Int)<=0/\(0:Int) < x0.n/\∃a:d8,EltH H x0 0 10 (p7 a)/\
 K (!decide (a.d9=12)) H)/\
 (¬((x0.n:Int)=1)->
 ((x0.n:Int)=2->
 (0:Int)<=0/\(0:Int) < x0.n/\∃b:d8,EltH H x0 0 10 (p7 b)/\
 (0:Int)<=1/\(1:Int) < x0.n/\∃c:d8,EltH H x0 1 10 (p7 c)/\
 a7D c b H K)/\
 (¬((x0.n:Int)=2)->
 K false H)))
theorem c0U(x0){H K}(h:b4l x0 H K):b0n x0 H K:=by
 refine Ct.of λw0 w ps0 H0 R E I hR=>e2f (c7 (a5X _ _ _) (c7 pEq ?_))
 refine j7 h (λ_ h=>?_) (λ_ h=>?_)
 ·exact hr1 hR I h
 ·refine c7 pEq (j7 h (λ_ h=>?_) (λ_ h=>?_))
  ·obtain ⟨ak,al,ab,s,h⟩:=h
   obtain ⟨bg,bh,am,s⟩:=s
   refine c7 (a5k am _ _ _ _ ak al) (c7 a9J (d7 (ld1 (v:=(vi ab.d9)) isAgg3 ((I.atH s).sub (k:=2) (n:=1) (nb rfl))) (c7 pNe ?_)))
   exact hr1 hR I h
  ·refine c7 pEq (j7 h (λ_ h=>?_) (λ_ h=>?_))
   ·have hj1:∀c d f l H w,Inv w0 ps0 H0 H [bx f 43 (p7 c),bx l 43 (p7 d)] w->a7D c d H K->d2D (pt l) (pt f) w R E:=by
     intro c d f l H w I h
     intro _
     refine L6 I λbi b=>g8 a9J (s7 (l1 isAgg3 (b.bring 1) rfl) ?_)
     refine g8 pEq (g8 (Pu.g λa=>by with_reducible exact a9J) ?_)
     refine a2E (p:=(Value.pointer (some ⟨f,2,none⟩))) rfl (Ld.g λa=>by simp only [p6 a];exact (l1 isAgg3 b rfl)) ?_
     refine g8 (Pu.g λa=>by simp only [p6 a];with_reducible exact pEq) ?_
     refine g8 (M3 _ _) (g8 (Pu.g λa=>by with_reducible exact a4I) ?_)
     refine g8 (Pu.g λa=>by with_reducible exact a4I) ?_
     refine a2E (p:=(Value.pointer (some ⟨l,6,none⟩))) rfl (Ld.g λa=>by simp only [p6 a];exact (ldA isAgg41 sizeOf41 rfl ((b.bring 1).at1 (o:=6) (vs:=(A0 d.fA)) (nb rfl) rfl))) ?_
     refine a2E (p:=(Value.pointer (some ⟨f,6,none⟩))) rfl (Ld.g λa=>by simp only [p6 a];exact (ldA isAgg41 sizeOf41 rfl (b.at1 (o:=6) (vs:=(A0 c.fA)) (nb rfl) rfl))) ?_
     refine g8 (Pu.g λa=>by simp only [p6 a];with_reducible exact (b7J _ _ _ _ _ _)) ?_
     refine g8 (M3 _ _) (g8 (Pu.g λa=>by with_reducible exact a7v) ?_)
     refine g8 (Pu.g λa=>by with_reducible exact a7v) ?_
     refine a2E (p:=(Value.pointer (some ⟨l,8,none⟩))) rfl (Ld.g λa=>by simp only [p6 a];exact (ldA isAgg41 sizeOf41 rfl ((b.bring 1).at1 (o:=8) (vs:=(A0 d.fB)) (nb rfl) rfl))) ?_
     refine a2E (p:=(Value.pointer (some ⟨f,8,none⟩))) rfl (Ld.g λa=>by simp only [p6 a];exact (ldA isAgg41 sizeOf41 rfl (b.at1 (o:=8) (vs:=(A0 c.fB)) (nb rfl) rfl))) ?_
     refine g8 (Pu.g λa=>by simp only [p6 a];with_reducible exact (b7J _ _ _ _ _ _)) ?_
     refine g8 (M3 _ _) (g8 (Pu.g λa=>by with_reducible exact a7w) ?_)
     refine g8 (Pu.g λa=>by with_reducible exact a7w) ?_
     refine a2E (p:=(Value.pointer (some ⟨f,5,none⟩))) rfl (Ld.g λa=>by simp only [p6 a];exact (l1 isAgg3 b rfl)) ?_
     refine a2E (p:=(Value.pointer (some ⟨l,5,none⟩))) rfl (Ld.g λa=>by simp only [p6 a];exact (l1 isAgg3 (b.bring 1) rfl)) ?_
     refine Q4 [] (λm:Int=>(vi m)) h b (λa h=>by simp only [p6 a];exact R6 call41 h b) λm t an u y ad h=>?_
     refine ⟨(a8W (p:=(Value.pointer (some ⟨f,5,none⟩))) rfl (y _ b.lt1 (Inv.V1 (Fi:=[]) b))),?_⟩
     refine g8 (Pu.g λa=>by simp only [p6 a];with_reducible exact pEq) ?_
     exact g8 (M3 _ _) (hR _ t _ _ u.drop.drop ⟨_,rfl,rfl,h⟩)
    refine u7 λj1 hx1=>L6 I λbj i=>?_
    obtain ⟨ao,ap,q,j,h⟩:=h
    obtain ⟨bk,bl,aq,j⟩:=j
    refine g8 (a5k aq _ _ _ _ ao ap) ?_
    obtain ⟨ar,au,r,e,h⟩:=h
    obtain ⟨bm,bn,av,e⟩:=e
    refine g8 (a5k av _ _ _ _ ar au) (s7 (ldA (vs:=(p7 q)) isAgg43 sizeOf43 rfl (i.atH j)) ?_)
    refine s7 (ldA (vs:=(p7 r)) isAgg43 sizeOf43 rfl (i.atH e)) ⟨?_,?_⟩
    ·refine r8 i zeroValue43 rfl λaw bo z ae=>⟨(ae _ (i.b1d e)),(ae _ (i.b1d j)),?_⟩
     refine r8 z zeroValue43 rfl λax bp af ag=>⟨(ag _ (z.b1d e)),(ag _ (z.b1d j)),?_⟩
     refine v8 (af.bring 1) sizeOf43 (vs:=(p7 q)) λbq ay az=>⟨(az _ (Inv.e1A (af.bring 1) e)),?_⟩
     exact v8 (ay.bring 1) sizeOf43 (vs:=(p7 r)) λbr ba bs=>hx1 _ _ (hj1 r q _ _ H _ ((ba.bring 1).bring 1) h)
    ·refine r8 i zeroValue43 rfl λbb bt aa ah=>⟨(ah _ (i.b1d e)),(ah _ (i.b1d j)),?_⟩
     refine r8 aa zeroValue43 rfl λbc bu ai aj=>⟨(aj _ (aa.b1d e)),(aj _ (aa.b1d j)),?_⟩
     refine v8 ai sizeOf43 (vs:=(p7 q)) λbv bd be=>⟨(be _ (Inv.e1A ai e)),?_⟩
     exact v8 (bd.bring 1) sizeOf43 (vs:=(p7 r)) λbw bf bz=>hx1 _ _ (hj1 r q _ _ H _ ((bf.bring 1).bring 1) h)
   ·exact hr1 hR I h
def T1(a)(_:r7)(H)(K:KT r7):=
 K a H
def T2(aa:Int)(ab:Bool)(a:r7)(b)(H)(K:KT r7):=
 (ab=true->
 T1 (r7.mk true a.farr a.fop a.fa true) b H K)/\
 (ab=false->
 (aa=9->
 K (r7.mk true false false false false) H)/\
 (¬(aa=9)->
 (aa=10->
 T1 (r7.mk true true a.fop a.fa a.fb) b H K)/\
 (¬(aa=10)->
 (aa=11->
 T1 (r7.mk a.fdst true a.fop a.fa true) b H K)/\
 (¬(aa=11)->
 (aa=12->
 T1 (r7.mk a.fdst a.farr true a.fa true) b H K)/\
 (¬(aa=12)->
 K (r7.mk false false false false false) H)))))
def a1l(aa:Int)(ab:Bool)(a:r7)(b)(H)(K:KT r7):=
 (ab=true->
 T1 (r7.mk true a.farr a.fop a.fa a.fb) b H K)/\
 (ab=false->
 (aa=4->
 T2 aa (decide (aa=4)) a b H K)/\
 (¬(aa=4)->
 (aa=5->
 T2 aa (decide (aa=5)) a b H K)/\
 (¬(aa=5)->
 (aa=6->
 T2 aa (decide (aa=6)) a b H K)/\
 (¬(aa=6)->
 (aa=7->
 T2 aa (decide (aa=7)) a b H K)/\
 (¬(aa=7)->
 T2 aa (decide (aa=8)) a b H K)))))
def b1s(x0:Int)(H)(K:KT r7):=
 (x0=2->
 a1l x0 (decide (x0=2)) (r7.mk false false false true false) (r7.mk false false false false false) H K)/\
 (¬(x0=2)->
 a1l x0 (decide (x0=3)) (r7.mk false false false true false) (r7.mk false false false false false) H K)
theorem b7Y(x0){H K}(h:b1s x0 H K):a7A x0 H K:=by
 refine Ct.of λw0 w ps0 H0 R E I hR=>e2A (r8 I zeroValue99 (cs:=[(vB false),(vB false),(vB false),(vB false),(vB false)]) rfl λa t i u=>?_)
 refine c7 (c8j _) (r8 i zeroValue99 (cs:=[(vB false),(vB false),(vB false),(vB false),(vB false)]) rfl λb v j y=>?_)
 refine v8 j sizeOf99 (vs:=[(vB false),(vB false),(vB false),(vB true),(vB false)]) λz d aa=>?_
 have hj1:∀c H w,Inv w0 ps0 H0 H [bx b 99 (b1j c),bx a 99 [(vB (r7.mk false false false false false).fdst),(vB (r7.mk false false false false false).farr),(vB (r7.mk false false false false false).fop),(vB (r7.mk false false false false false).fa),(vB (r7.mk false false false false false).fb)]] w->T1 c (r7.mk false false false false false) H K->d2L (pt a) (pt b) w R E:=by
  intro c H w I h
  intro _
  refine d7 (lW isAgg99 sizeOf99 rfl I) (v8 (I.bring 1) sizeOf99 (vs:=(b1j c)) λab e ac=>?_)
  exact D9 isAgg99 sizeOf99 rfl e (hR _ H _ _ e.drop.drop ⟨c,rfl,rfl,h⟩)
 refine u7 λj1 hx1=>?_
 have hj2:∀bb H w,Inv w0 ps0 H0 H [bx b 99 [(vB (r7.mk false false false true false).fdst),(vB (r7.mk false false false true false).farr),(vB (r7.mk false false false true false).fop),(vB (r7.mk false false false true false).fa),(vB (r7.mk false false false true false).fb)],bx a 99 [(vB (r7.mk false false false false false).fdst),(vB (r7.mk false false false false false).farr),(vB (r7.mk false false false false false).fop),(vB (r7.mk false false false false false).fa),(vB (r7.mk false false false false false).fb)]] w->a1l x0 bb (r7.mk false false false true false) (r7.mk false false false false false) H K->d2N (pt a) (pt b) (vi x0) (vB bb) w j1 R E:=by
  intro bb H w I h
  intro _
  refine t6 h (λ_ h=>?_) (λ_ h=>?_)
  ·refine c7 b4y (K0 I sizeOf4 λad k ae=>?_)
   exact hx1 _ _ (hj1 (r7.mk true (r7.mk false false false true false).farr (r7.mk false false false true false).fop (r7.mk false false false true false).fa (r7.mk false false false true false).fb) H _ ((k.bring 1).bring 1) h)
  ·have hj3:∀bc H w,Inv w0 ps0 H0 H [bx b 99 [(vB (r7.mk false false false true false).fdst),(vB (r7.mk false false false true false).farr),(vB (r7.mk false false false true false).fop),(vB (r7.mk false false false true false).fa),(vB (r7.mk false false false true false).fb)],bx a 99 [(vB (r7.mk false false false false false).fdst),(vB (r7.mk false false false false false).farr),(vB (r7.mk false false false false false).fop),(vB (r7.mk false false false false false).fa),(vB (r7.mk false false false false false).fb)]] w->T2 x0 bc (r7.mk false false false true false) (r7.mk false false false false false) H K->d2M (pt a) (pt b) (vi x0) (vB bc) w j1 R E:=by
    intro bc H w I h
    intro _
    refine t6 h (λ_ h=>?_) (λ_ h=>?_)
    ·refine c7 b4y (K0 I sizeOf4 λaf l ag=>?_)
     refine c7 b4z (K0 l sizeOf4 λah m ai=>?_)
     exact hx1 _ _ (hj1 (r7.mk true (r7.mk false false false true false).farr (r7.mk false false false true false).fop (r7.mk false false false true false).fa true) H _ ((m.bring 1).bring 1) h)
    ·refine c7 pEq (j7 h (λ_ h=>?_) (λ_ h=>?_))
     ·refine c7 (c8k _) (v8 (I.bring 1) sizeOf99 (vs:=[(vB true),(vB false),(vB false),(vB false),(vB false)]) λaj f ak=>?_)
      exact D9 isAgg99 sizeOf99 rfl f (hR _ H _ _ f.drop.drop ⟨_,rfl,rfl,h⟩)
     ·refine c7 pEq (j7 h (λ_ h=>?_) (λ_ h=>?_))
      ·refine c7 b4y (K0 I sizeOf4 λal n am=>?_)
       refine c7 b7O (K0 n sizeOf4 λan o ao=>?_)
       exact hx1 _ _ (hj1 (r7.mk true true (r7.mk false false false true false).fop (r7.mk false false false true false).fa (r7.mk false false false true false).fb) H _ ((o.bring 1).bring 1) h)
      ·refine c7 pEq (j7 h (λ_ h=>?_) (λ_ h=>?_))
       ·refine c7 b7O (K0 I sizeOf4 λap p aq=>?_)
        refine c7 b4z (K0 p sizeOf4 λar q au=>?_)
        exact hx1 _ _ (hj1 (r7.mk (r7.mk false false false true false).fdst true (r7.mk false false false true false).fop (r7.mk false false false true false).fa true) H _ ((q.bring 1).bring 1) h)
       ·refine c7 pEq (j7 h (λ_ h=>?_) (λ_ h=>?_))
        ·refine c7 c2p (K0 I sizeOf4 λav r aw=>?_)
         refine c7 b4z (K0 r sizeOf4 λax s ay=>?_)
         exact hx1 _ _ (hj1 (r7.mk (r7.mk false false false true false).fdst (r7.mk false false false true false).farr true (r7.mk false false false true false).fa true) H _ ((s.bring 1).bring 1) h)
        ·refine c7 (d2t) (v8 (I.bring 1) sizeOf99 (vs:=[(vB false),(vB false),(vB false),(vB false),(vB false)]) λaz g ba=>?_)
         exact D9 isAgg99 sizeOf99 rfl g (hR _ H _ _ g.drop.drop ⟨_,rfl,rfl,h⟩)
   refine u7 λj3 hx3=>c7 pEq (j7 h (λ_ h=>?_) (λ_ h=>?_))
   ·exact hx3 _ _ (hj3 (decide (x0=4)) H _ ((I.bring 1).bring 1) h)
   ·refine c7 pEq (j7 h (λ_ h=>?_) (λ_ h=>?_))
    ·exact hx3 _ _ (hj3 (decide (x0=5)) H _ ((I.bring 1).bring 1) h)
    ·refine c7 pEq (j7 h (λ_ h=>?_) (λ_ h=>?_))
     ·exact hx3 _ _ (hj3 (decide (x0=6)) H _ ((I.bring 1).bring 1) h)
     ·refine c7 pEq (j7 h (λ_ h=>?_) (λ_ h=>?_))
      ·exact hx3 _ _ (hj3 (decide (x0=7)) H _ ((I.bring 1).bring 1) h)
      ·exact c7 pEq (hx3 _ _ (hj3 (decide (x0=8)) H _ ((I.bring 1).bring 1) h))
 refine u7 λj2 hx2=>c7 pEq (j7 h (λ_ h=>?_) (λ_ h=>?_))
 ·exact hx2 _ _ (hj2 (decide (x0=2)) H _ ((d.bring 1).bring 1) h)
 ·exact c7 pEq (hx2 _ _ (hj2 (decide (x0=3)) H _ ((d.bring 1).bring 1) h))
def a9i(x0:p8)(x1:d8)(H)(K:KT Bool):=
 a0S x0 x1.D6 H (λf g=>
 TG ((!f)=false) (a0S x0 x1.fTo g) false g (λ(i:Bool)(j:Hp)=>
 ((((((!f)||(!i))||(decide (x1.D6=x0.C2.K8)))||(decide (x1.d9 < 1)))||(decide (14 < x1.d9)))=true->
 K false j)/\
 ((((((!f)||(!i))||(decide (x1.D6=x0.C2.K8)))||(decide (x1.d9 < 1)))||(decide (14 < x1.d9)))=false->
 a7A x1.d9 j (λd v=>
 a1r x0 x1.a4F v (λy z=>
 a1N d.fdst y (decide (x1.a4F=(-1))) z (λa k=>
 TG (a=true) (a5n x0 x1.a1q k) false k (λ(aa:Bool)(l:Hp)=>
 TG (a=true) (a1N d.farr aa (decide (x1.a1q=(-1))) l) false l (λ(b:Bool)(m:Hp)=>
 TG ((a&&b)=true) (a1N d.fop ((decide (1<=x1.fOp))&&(decide (x1.fOp<=6))) (decide (x1.fOp=0)) m) false m (λ(c:Bool)(n:Hp)=>
 TG (((a&&b)&&c)=true) (a1F x0 x1.fA n) false n (λ(ab:Bool)(o:Hp)=>
 TG (((a&&b)&&c)=true) (a0b o) (z6.mk 0 0) o (λ(p:z6)(q:Hp)=>
 TG (((a&&b)&&c)=true) (a1N d.fa ab (decide (x1.fA.K3=p.K3/\x1.fA.A6=p.A6)) q) false q (λ(e:Bool)(r:Hp)=>
 TG ((((a&&b)&&c)&&e)=true) (a1F x0 x1.fB r) false r (λ(ac:Bool)(s:Hp)=>
 TG ((((a&&b)&&c)&&e)=true) (a0b s) (z6.mk 0 0) s (λ(t:z6)(u:Hp)=>
 TG ((((a&&b)&&c)&&e)=true) (a1N d.fb ac (decide (x1.fB.K3=t.K3/\x1.fB.A6=t.A6)) u) false u (λ(ad:Bool)(ae:Hp)=>
 K ((((a&&b)&&c)&&e)&&ad) ae)))))))))))))))
theorem b5h(x0 x1){H K}(h:a9i x0 x1 H K):a5o x0 x1 H K:=by
 refine Ct.of λw0 w ps0 H0 R E I hR=>e2e (D3 I rfl λcu cv cc cw=>?_)
 refine D3 cc rfl λk cx am cy=>d7 (lW isAgg69 sizeOf69 rfl (am.bring 1)) (c7 a3E (d7 (l1 isAgg3 am rfl) ?_))
 refine oc1 call17 h am λda _ cz n h=>c7 (R5 _) (d7 (Ld.g λa=>by exact (lW isAgg69 sizeOf69 rfl (n.bring 1))) ?_)
 refine c7 (Pu.g λa=>by with_reducible exact a7t) ?_
 refine d7 (Ld.g λa=>by simp only [p6 a];exact (l1 isAgg3 n rfl)) ?_
 refine Q4 [] (λy:Bool=>(vB y)) h n (λa h=>by simp only [p6 a];exact R6 call17 h n) λy an cd i ar au h=>?_
 refine c7 (Pu.g λa=>by simp only [p6 a];with_reducible exact (R5 _)) ?_
 refine c7 (M6 _ _) (c7 (Pu.g λa=>by with_reducible exact a3E) ?_)
 refine d7 (Ld.g λa=>by simp only [p6 a];exact (l1 isAgg3 i rfl)) ?_
 refine c7 (Pu.g λa=>by with_reducible exact b1g) ?_
 refine c7 (Pu.g λa=>by simp only [p6 a];with_reducible exact a5W) ?_
 refine d7 (Ld.g λa=>by simp only [p6 a];exact (l1 isAgg3 (i.bring 1) rfl)) ?_
 refine c7 (Pu.g λa=>by simp only [p6 a];with_reducible exact pEq) ?_
 refine c7 (M6 _ _) (c7 (Pu.g λa=>by with_reducible exact a9J) ?_)
 refine d7 (Ld.g λa=>by simp only [p6 a];exact (l1 isAgg3 i rfl)) ?_
 refine c7 (Pu.g λa=>by simp only [p6 a];with_reducible exact pLs) ?_
 refine c7 (M6 _ _) (c7 (Pu.g λa=>by with_reducible exact a9J) ?_)
 refine d7 (Ld.g λa=>by simp only [p6 a];exact (l1 isAgg3 i rfl)) ?_
 refine c7 (Pu.g λa=>by simp only [p6 a];with_reducible exact pGt) ?_
 refine c7 (M6 _ _) (t6 h (λ_ h=>?_) (λ_ h=>?_))
 ·exact hr1 hR i.drop.drop h
 ·refine c7 a9J (d7 (l1 isAgg3 i rfl) ?_)
  refine oc1 call35 h i λcf _ db ce h=>r8 ce zeroValue99 rfl λl dc cg dd=>v8 cg sizeOf99 (vs:=(b1j cf)) λde ch df=>L6 ch λdg m=>g8 b4y (g8 b4v ?_)
  refine g8 b4v (s7 (l1 isAgg4 m rfl) ?_)
  refine s7 (lW isAgg69 sizeOf69 rfl (m.bring 2)) (s7 (l1 isAgg3 (m.bring 1) rfl) ?_)
  refine s7 (l1 isAgg3 (m.bring 1) rfl) (g8 pEq ?_)
  refine f7 call37 h m ?_
  rintro _ _ _ dh ci _ av ⟨di,rfl,rfl,h⟩
  refine ⟨(av _ (m.bring 1).lt1 (Inv.V1 (Fi:=[]) (m.bring 1))),(av _ m.lt1 (Inv.V1 (Fi:=[]) m)),?_⟩
  refine oc1 call36 h ci λcj _ dj f h=>g8 (Pu.g λa=>by with_reducible exact b7O) (g8 (Pu.g λa=>by with_reducible exact b4x) ?_)
  refine g8 (Pu.g λa=>by with_reducible exact b4x) ?_
  refine a2E (p:=(Value.pointer (some ⟨l,1,none⟩))) rfl (Ld.g λa=>by simp only [p6 a];exact (l1 isAgg4 f rfl)) ?_
  refine s7 (Ld.g λa=>by exact (lW isAgg69 sizeOf69 rfl (f.bring 2))) ?_
  refine a2E (p:=(Value.pointer (some ⟨k,4,none⟩))) rfl (Ld.g λa=>by simp only [p6 a];exact (l1 isAgg3 (f.bring 1) rfl)) ?_
  refine a2E (p:=(Value.pointer (some ⟨k,4,none⟩))) rfl (Ld.g λa=>by simp only [p6 a];exact (l1 isAgg3 (f.bring 1) rfl)) ?_
  refine g8 (Pu.g λa=>by simp only [p6 a];with_reducible exact pEq) ?_
  refine Q4 [] (λz:Bool=>(vB z)) h f (λa h=>by simp only [p6 a];exact R6 call38 h f) λz ax ck aa ab ay h=>?_
  refine ⟨(a8W (p:=(Value.pointer (some ⟨k,4,none⟩))) rfl (ab _ (f.bring 1).lt1 (Inv.V1 (Fi:=[]) (f.bring 1)))),(a8W (p:=(Value.pointer (some ⟨l,1,none⟩))) rfl (ab _ f.lt1 (Inv.V1 (Fi:=[]) f))),?_⟩
  refine Q4 [] (λs:Bool=>(vB s)) h aa (λa h=>by simp only [p6 a];exact R6 call36 h aa) λs ba cl j bb bc h=>?_
  refine g8 (M3 _ _) (g8 (Pu.g λa=>by with_reducible exact c2p) ?_)
  refine g8 (Pu.g λa=>by with_reducible exact a7w) (g8 (Pu.g λa=>by with_reducible exact a7w) ?_)
  refine a2E (p:=(Value.pointer (some ⟨l,2,none⟩))) rfl (Ld.g λa=>by simp only [p6 a];exact (l1 isAgg4 j rfl)) ?_
  refine a2E (p:=(Value.pointer (some ⟨k,5,none⟩))) rfl (Ld.g λa=>by simp only [p6 a];exact (l1 isAgg3 (j.bring 1) rfl)) ?_
  refine g8 (Pu.g λa=>by simp only [p6 a];with_reducible exact pGe) ?_
  simp only [K6,c0e]
  refine g8 (Pu.e (c3E _ _ _) (Pu.g λhb=>by obtain ⟨a,b⟩:=d0w hb;with_reducible exact a7w)) ?_
  refine e6Z (c3E _ _ _) rfl (a2E (p:=(Value.pointer (some ⟨k,5,none⟩))) rfl (Ld.g λhb=>by obtain ⟨a,b⟩:=d0w hb;simp only [p6 hb];exact (l1 isAgg3 (j.bring 1) rfl)) ?_)
  refine g8 (Pu.e (c3E _ _ _) (Pu.g λhb=>by obtain ⟨a,b⟩:=d0w hb;simp only [p6 hb];with_reducible exact pLe)) ?_
  refine g8 (Pu.g λa=>by simp only [p6 a,e1z a];with_reducible exact (M3 _ _)) ?_
  refine a2E (p:=(Value.pointer (some ⟨k,5,none⟩))) rfl (Ld.g λa=>by simp only [p6 a];exact (l1 isAgg3 (j.bring 1) rfl)) ?_
  refine g8 (Pu.g λa=>by simp only [p6 a];with_reducible exact pEq) ?_
  refine Q4 [] (λt:Bool=>(vB t)) h j (λa h=>by simp only [p6 a];exact R6 call36 h j) λt be cm c bf bg h=>?_
  refine g8 (M3 _ _) (g8 (Pu.g λa=>by with_reducible exact d0B) ?_)
  refine g8 (Pu.g λa=>by with_reducible exact a4I) (g8 (Pu.g λa=>by with_reducible exact a4I) ?_)
  refine a2E (p:=(Value.pointer (some ⟨l,3,none⟩))) rfl (Ld.g λa=>by simp only [p6 a];exact (l1 isAgg4 c rfl)) ?_
  refine s7 (Ld.g λa=>by exact (lW isAgg69 sizeOf69 rfl (c.bring 2))) ?_
  refine a2E (p:=(Value.pointer (some ⟨k,6,none⟩))) rfl (Ld.g λa=>by simp only [p6 a];exact (ldA isAgg41 sizeOf41 rfl ((c.bring 1).at1 (o:=6) (vs:=(A0 x1.fA)) (nb rfl) rfl))) ?_
  refine a2E (p:=(Value.pointer (some ⟨k,6,none⟩))) rfl (Ld.g λa=>by simp only [p6 a];exact (ldA isAgg41 sizeOf41 rfl ((c.bring 1).at1 (o:=6) (vs:=(A0 x1.fA)) (nb rfl) rfl))) ?_
  refine Q4 [] (λac:Bool=>(vB ac)) h c (λa h=>by simp only [p6 a];exact R6 call39 h c) λac bi cn q ad bj h=>?_
  refine ⟨(a8W (p:=(Value.pointer (some ⟨k,6,none⟩))) rfl (ad _ (c.bring 1).lt1 (Inv.V1 (Fi:=[]) (c.bring 1)))),(a8W (p:=(Value.pointer (some ⟨l,3,none⟩))) rfl (ad _ c.lt1 (Inv.V1 (Fi:=[]) c))),?_⟩
  refine Q4 [] (λae:z6=>(yG (A0 ae))) h q (λ_ h=>R6 call40 h q) λae bl co af ag bm h=>⟨(a8W (p:=(Value.pointer (some ⟨k,6,none⟩))) rfl (ag _ (q.bring 1).lt1 (Inv.V1 (Fi:=[]) (q.bring 1)))),(a8W (p:=(Value.pointer (some ⟨l,3,none⟩))) rfl (ag _ q.lt1 (Inv.V1 (Fi:=[]) q))),?_⟩
  refine g8 (Pu.g λa=>by simp only [p6 a];with_reducible exact (b7J _ _ _ _ _ _)) ?_
  refine Q4 [] (λu:Bool=>(vB u)) h af (λa h=>by simp only [p6 a];exact R6 call36 h af) λu bo cp d bp bq h=>?_
  refine g8 (M3 _ _) (g8 (Pu.g λa=>by with_reducible exact b4z) ?_)
  refine g8 (Pu.g λa=>by with_reducible exact a7v) (g8 (Pu.g λa=>by with_reducible exact a7v) ?_)
  refine a2E (p:=(Value.pointer (some ⟨l,4,none⟩))) rfl (Ld.g λa=>by simp only [p6 a];exact (l1 isAgg4 d rfl)) ?_
  refine s7 (Ld.g λa=>by exact (lW isAgg69 sizeOf69 rfl (d.bring 2))) ?_
  refine a2E (p:=(Value.pointer (some ⟨k,8,none⟩))) rfl (Ld.g λa=>by simp only [p6 a];exact (ldA isAgg41 sizeOf41 rfl ((d.bring 1).at1 (o:=8) (vs:=(A0 x1.fB)) (nb rfl) rfl))) ?_
  refine a2E (p:=(Value.pointer (some ⟨k,8,none⟩))) rfl (Ld.g λa=>by simp only [p6 a];exact (ldA isAgg41 sizeOf41 rfl ((d.bring 1).at1 (o:=8) (vs:=(A0 x1.fB)) (nb rfl) rfl))) ?_
  refine Q4 [] (λah:Bool=>(vB ah)) h d (λa h=>by simp only [p6 a];exact R6 call39 h d) λah bs cq r ai bt h=>?_
  refine ⟨(a8W (p:=(Value.pointer (some ⟨k,8,none⟩))) rfl (ai _ (d.bring 1).lt1 (Inv.V1 (Fi:=[]) (d.bring 1)))),(a8W (p:=(Value.pointer (some ⟨l,4,none⟩))) rfl (ai _ d.lt1 (Inv.V1 (Fi:=[]) d))),?_⟩
  refine Q4 [] (λaj:z6=>(yG (A0 aj))) h r (λ_ h=>R6 call40 h r) λaj bv cr ak al bw h=>⟨(a8W (p:=(Value.pointer (some ⟨k,8,none⟩))) rfl (al _ (r.bring 1).lt1 (Inv.V1 (Fi:=[]) (r.bring 1)))),(a8W (p:=(Value.pointer (some ⟨l,4,none⟩))) rfl (al _ r.lt1 (Inv.V1 (Fi:=[]) r))),?_⟩
  refine g8 (Pu.g λa=>by simp only [p6 a];with_reducible exact (b7J _ _ _ _ _ _)) ?_
  refine Q4 [] (λv:Bool=>(vB v)) h ak (λa h=>by simp only [p6 a];exact R6 call36 h ak) λv ao ct ap ca cb h=>?_
  exact g8 (M3 _ _) (hR _ ao _ _ ap.drop.drop.drop ⟨_,rfl,rfl,h⟩)
def a7E(aa:(List (List Int)))(_:s6)(H)(K:KT Sl):=
 ∀(a:Sl)(b:Hp),Hle H b->SlHH b 1 K4 a aa->a.n<=a.c->
 K a b
def a7F(B8:Sl)(aa:Int)(c:s6)(ab:(List (List Int)))(ad:Int)(H:Hp)(n2:KT ((List (List Int))×Int))(K:KT Sl):=
 (ad < aa->
 (0:Int)<=ad/\(ad:Int) < B8.n/\∃a:d8,EltH H B8 ad 10 (p7 a)/\
 (0:Int)<=a.D6/\∃b:List Int,(ab)[(a.D6:Int).toNat]? = some b/\
 (b.length+([ad]:List Int).length)*9<=140737488355328/\
 n2 ((ab.set (a.D6:Int).toNat (b++[ad])),(IntKind.wrap .i64 (ad+1))) H)/\
 (¬(ad < aa)->
 a7E ab c H K)
def b4m(x0:s6)(H)(K:KT Sl):=
 (0:Int)<=x0.i7/\x0.i7*25<=140737488355328/\
 TL (((List.replicate (x0.i7:Int).toNat ([]:List Int)),0):(List (List Int))×Int) H λ(s:(List (List Int))×Int) H n2=>a7F x0.E1 (x0.E1.n:Int) x0 s.1 s.2 H n2 K
theorem c0V(x0){H K}(h:b4m x0 H K):a6r x0 H K:=by
 refine Ct.of λw0 w ps0 H0 R E I hR=>e2h (D3 I rfl λz bm aa bn=>?_)
 refine c7 O6 (d7 (l1 isAgg3 aa rfl) ?_)
 obtain ⟨ag,ah,h⟩:=h
 refine e1K aa ag ah λg ai bo aj ab bp=>?_
 have hj1:∀cs Fs3j1 H w,RowsL 26 3 1 K4 g cs Fs3j1->Inv w0 ps0 H0 H [bx z 31 (r9 x0),Fs3j1] w->a7E cs x0 H K->d2E (vs g) w R E:=by
  intro cs Fs3j1 H w ct I h
  intro _
  obtain ⟨ac,ak,al,am,an⟩:=Inv.freezeLL (I.bring 1) ct (by decide)
  replace h:=h g ac al am an
  exact hr1 hR ak.drop h
 refine u7 λj1 hx1=>c7 X9 (d7 (l1 isAgg29 (ab.bring 1) rfl) (c7 (a5X _ _ _) ?_))
 obtain ⟨o,i,ao,ap⟩:=h
 refine G6 (J:=λn l w=>∃(s:(List (List Int))×Int)(H:Hp)(Fs3l2:Frag),n=i s/\l=(match s with | (cu,cv)=>[(vi cv)])/\(match s with | (cu,cv)=>RowsL 26 3 1 K4 g cu Fs3l2)/\(match s with | (cu,cv)=>Inv w0 ps0 H0 H [bx z 31 (r9 x0),Fs3l2] w)/\o s H) ⟨_,((List.replicate (x0.i7:Int).toNat ([]:List Int)),0),H,ai,rfl,rfl,(RowsL.made (e:=3) a3k a3l aj),(ab.bring 1),ao⟩ ?_
 rintro bq br w next2 ⟨⟨cu,cv⟩,H,Fs3l2,rfl,p,cw,I,aq⟩ hn2
 have p:=lE1 p
 have e12:=p
 simp only [e12]
 obtain ⟨n2,hm2,h⟩:=tlA (B:=λn2=>a7F x0.E1 (x0.E1.n:Int) x0 cu cv H n2 K) (ap (cu,cv) H) aq
 refine c7 pLs (j7 h (λ_ h=>?_) (λ_ h=>?_))
 ·obtain ⟨ar,au,q,r,h⟩:=h
  obtain ⟨bs,bt,av,r⟩:=r
  refine c7 (a5k av _ _ _ _ ar au) (d7 (ldA (vs:=(p7 q)) isAgg43 sizeOf43 rfl (I.atH r)) ?_)
  refine r8 I zeroValue43 rfl λbu bv aw bw=>v8 aw sizeOf43 (vs:=(p7 q)) λbz ax ca=>L6 ax λcb t=>g8 a3E (g8 a3E ?_)
  refine s7 (l1 isAgg3 t rfl) (s7 (l1 isAgg3 t rfl) ?_)
  obtain ⟨k,ad,ay,h⟩:=h
  obtain ⟨cc,ae,cd,ce,az,d,f,ba,bb,cf,j⟩:=RowsL.open_ cw (t.bring 2) ay
  obtain ⟨cg,ch,u,ci⟩:=d.addr f
  refine g8 (b7K u _ _ _ _ k (d.lt k f)) (s7 (ld1 (v:=(vs ae)) isAgg26 (d.atW j u f)) ?_)
  refine O0 (e:=3) (c:=K4) (xs:=[cv]) j (b2g _) rfl rfl a3k a3l (nb rfl) λcj ck cl bc m y=>⟨(y _ (RowL.d2d d j u)),(y _ (j.bring 3).lt1),(y _ (j.bring 3).lt1),?_⟩
  obtain ⟨bd,h⟩:=h
  refine b6Q (s:=ae) (xs:=ad) (m.bring 2) ba (bc.srcO ((m.bring 2).bring 1)) bd λbe bf cm bg bh bi=>⟨(bi _ ((m.bring 2).bring 4).lt1 (Inv.c5U (((m.bring 2).bring 4).bring 1))),?_⟩
  obtain ⟨cn,co,af,cp⟩:=d.addr f
  refine g8 (b7K af _ _ _ _ k (d.lt k f)) (a9D (x:=be) ((bh.bring 1).drop.bring 1) d af (List.getElem?_eq_some_iff.1 f).1 sizeOf26 rfl λbj cq bk bl cr=>?_)
  exact c7 pAd (hn2 _ _ _ (hm2 _ _ h).2 ⟨((cu.set (q.D6:Int).toNat (ad++[cv])),(IntKind.wrap .i64 (cv+1))),H,(bj++(bf++az)),rfl,rfl,(RowsL.d2c bk bg bb),(((((bl.bring 2).bring 2).bring 2).d6Z.bring 1).drop.bring 1),(hm2 _ _ h).1⟩)
 ·exact hx1 _ _ (hj1 _ _ H _ cw ((I.bring 1).bring 1) h)
def a4b(aa:(List Int))(ab:Int)(ad:Int)(H)(n1:KT ((List Int)×Int×Int))(K:KT (List Int)):=
 (ab < ad->
 (0:Int)<=ad/\∃a:Int,(aa)[(ad:Int).toNat]? = some a/\
 (0:Int)<=ab/\∃b:Int,(aa)[(ab:Int).toNat]? = some b/\
 (0:Int)<=ab/\∃c:Int,(aa)[(ab:Int).toNat]? = some c/\
 (0:Int)<=ad/\∃d:Int,(aa.set (ab:Int).toNat a)[(ad:Int).toNat]? = some d/\
 n1 (((aa.set (ab:Int).toNat a).set (ad:Int).toNat b),(IntKind.wrap .i64 (ab+1)),(IntKind.wrap .i64 (ad-1))) H)/\
 (¬(ab < ad)->
 K aa H)
def a9j(x0:(List Int))(H)(K:KT (List Int)):=
 TL ((x0,0,(IntKind.wrap .i64 ((x0.length:Int)-1))):(List Int)×Int×Int) H λ(s:(List Int)×Int×Int) H n1=>a4b s.1 s.2.1 s.2.2 H n1 K
theorem b5i(x0){H K}(h:a9j x0 H K):a5p x0 H K:=by
 intro sx0 Fx0 hx0
 refine Ct.of λw0 w ps0 H0 R E I hR=>e2z (c7 (a4E underlying26 hx0) (c7 pSu ?_))
 obtain ⟨d,c,ac,ad⟩:=h
 refine G6 (J:=λn l w=>∃(s:(List Int)×Int×Int)(H:Hp)(Fs0l1:Frag),n=c s/\l=(match s with | (bh,bi,bj)=>[(vi bi),(vi bj)])/\(match s with | (bh,bi,bj)=>RowL 3 1 K4 sx0 bh Fs0l1)/\(match s with | (bh,bi,bj)=>Inv w0 ps0 H0 H [Fs0l1] w)/\d s H) ⟨_,(x0,0,(IntKind.wrap .i64 ((x0.length:Int)-1))),H,Fx0,rfl,rfl,hx0,I,ac⟩ ?_
 rintro aj ak w next1 ⟨⟨bh,bi,bj⟩,H,Fs0l1,rfl,e,bk,I,ae⟩ hn1
 obtain ⟨e2,e3⟩:=lE2 e
 simp only [e2,e3]
 obtain ⟨n1,hm1,h⟩:=tlA (B:=λn1=>a4b bh bi bj H n1 K) (ad (bh,bi,bj) H) ae
 refine c7 pLs (j7 h (λ_ h=>?_) (λ_ h=>?_))
 ·refine L6 I λal f=>?_
  obtain ⟨q,g,i,h⟩:=h
  obtain ⟨am,an,r,ao⟩:=bk.addr i
  refine g8 (a0R r _ _ _ _ q (bk.lt q i)) ?_
  obtain ⟨t,j,k,h⟩:=h
  obtain ⟨ap,aq,u,ar⟩:=bk.addr k
  refine g8 (a0R u _ _ _ _ t (bk.lt t k)) (s7 (ld1 (v:=(vi g)) isAgg3 (bk.atW f r i)) ?_)
  refine s7 (ld1 (v:=(vi j)) isAgg3 (bk.atW f u k)) ?_
  obtain ⟨y,au,m,h⟩:=h
  obtain ⟨av,aw,z,ax⟩:=bk.addr m
  refine g8 (a0R z _ _ _ _ y (bk.lt y m)) (a9D (x:=g) f bk z (List.getElem?_eq_some_iff.1 m).1 sizeOf3 rfl λay az o af ba=>?_)
  obtain ⟨aa,bb,p,h⟩:=h
  obtain ⟨bc,bd,ab,be⟩:=o.addr p
  refine g8 (a0R ab _ _ _ _ aa (o.lt aa p)) (a9D (x:=j) af o ab (List.getElem?_eq_some_iff.1 p).1 sizeOf3 rfl λag bf ah ai bg=>?_)
  refine c7 pAd (c7 pSu ?_)
  exact hn1 _ _ _ (hm1 _ _ h).2 ⟨(((bh.set (bi:Int).toNat g).set (bj:Int).toNat j),(IntKind.wrap .i64 (bi+1)),(IntKind.wrap .i64 (bj-1))),H,ag,rfl,rfl,ah,ai,(hm1 _ _ h).1⟩
 ·exact hR _ H _ _ I ⟨bh,Fs0l1,rfl,rfl,bk,h⟩
def b8V(x0:Int)(H)(K:KT Int):=
 (0:Int)<=x0/\(x0:Int) < 11/\
 K (([0,0,0,9,10,3,4,5,6,7,8]:List Int).getD (x0:Int).toNat 0) H
theorem b8W(x0){H K}(h:b8V x0 H K):a8A x0 H K:=by
 refine Ct.of λw0 w ps0 H0 R E I hR=>d9w (c7 (b2U _ _ _ _ _ _ _ _) ?_)
 obtain ⟨a,b,h⟩:=h
 exact c7 (d0J _ _ _ _ _ _ _ _ _ _ _ _ _ a b) (hR _ H _ _ I ⟨_,rfl,rfl,h⟩)
def a6F(x0)(a:(List d8))(x1)(x2:Int)(x3:Int)(H)(K:z6->Int->m0->(List d8)->Hp->Prop):=
 a1G (j6 x0) a x1 H (λf b c=>
 (b=true->
 K f x2 (j6 x0) a c)/\
 (b=false->
 M1 (j6 x0) a c (λd g i j=>
 a4O (j6 g) i x3 j (λe k l m=>
 a1Y (j6 k) l x1 e x2 d x3 m (λn o p=>
 K (z6.mk e 0) d (j6 n) o p)))))
theorem b2l(x0 b x1 x2 x3){H K}(h:a6F x0 b x1 x2 x3 H K):Y4 x0 b x1 x2 x3 H K:=by
 intro g0 c d e
 refine Ct.of λw0 w ps0 H0 R E I hR=>d8P (D3 I rfl λal am n an=>?_)
 refine r8 n zeroValue41 rfl λao ap j aq=>d7 (lW isAgg112 sizeOf112 rfl (j.bring 1)) (f7 call104 (h g0 c d e) ((j.bring 3).bring 3) ?_)
 rintro _ p _ ar q _ _ ⟨f,r,rfl,rfl,h⟩
 refine c7 (m7 _ _ _ rfl) (c7 (m7 _ _ (vB r) rfl) ?_)
 refine r8 q zeroValue41 rfl λau av s aw=>v8 s sizeOf41 (vs:=(A0 f)) λax g ay=>t6 h (λ_ h=>?_) (λ_ h=>?_)
 ·refine d7 (lW isAgg41 sizeOf41 rfl g) (v8 (g.bring 3) sizeOf41 (vs:=(A0 f)) λaz k ba=>?_)
  exact D9 isAgg41 sizeOf41 rfl k (hR _ p _ _ (((k.drop.drop.bring 2).drop.bring 1).bring 1) ⟨f,x2,(j6 x0),b,c,d,rfl,rfl,e,h⟩)
 ·refine f7 call14 (h g0 c d e) ((g.bring 2).bring 2) ?_
  rintro _ _ _ bb t _ _ ⟨u,bc,bd,v,y,rfl,rfl,z,h⟩
  refine f7 call144 (h g0 v y z) ((t.bring 1).bring 1) ?_
  rintro _ _ _ be aa _ _ ⟨a,bf,bg,ab,ac,rfl,rfl,ad,h⟩
  refine c7 (b0p _) (r8 aa zeroValue41 rfl λbh bi ae bj=>?_)
  refine v8 ae sizeOf41 (vs:=[(vi a),(vi 0)]) λbk i bl=>d7 (lW isAgg112 sizeOf112 rfl (i.bring 5)) (c7 b4w (d7 (l1 isAgg3 i rfl) ?_))
  refine f7 call105 (h g0 ab ac ad) ((i.bring 2).bring 2) ?_
  rintro _ af _ bm l _ _ ⟨ag,ah,ai,aj,rfl,rfl,ak,h⟩
  refine d7 (ldA isAgg41 sizeOf41 rfl ((l.bring 2).at1 (o:=0) (vs:=[(vi a),(vi 0)]) (nb rfl) rfl)) (v8 (l.bring 4) sizeOf41 (vs:=[(vi a),(vi 0)]) λbn m bo=>?_)
  exact D9 isAgg41 sizeOf41 rfl m (hR _ af _ _ (((((m.drop.bring 2).drop.bring 2).drop.bring 2).drop.bring 1).bring 1) ⟨(z6.mk a 0),u,(j6 ag),ah,ai,aj,rfl,rfl,ak,h⟩)
def a9k(x0)(g:(List d8))(x1:Sl)(x2:Int)(x3:Int)(H)(K:z6->z6->Int->m0->(List d8)->Hp->Prop):=
 (0:Int)<=0/\(0:Int) < x1.n/\∃a:l9,EltH H x1 0 4 (g9 a)/\
 Y4 (j6 x0) g a x2 x3 H (λb i c d e=>
 (0:Int)<=1/\(1:Int) < x1.n/\∃f:l9,EltH e x1 1 4 (g9 f)/\
 a3X (j6 c) d b x3 e (λj k=>
 Y4 (j6 c) d f i j k (λl m o p q=>
 K b l m (j6 o) p q)))
theorem b5j(x0 k x1 x2 x3){H K}(h:a9k x0 k x1 x2 x3 H K):a0T x0 k x1 x2 x3 H K:=by
 intro g0 o p q
 refine Ct.of λw0 w ps0 H0 R E I hR=>e3j (r8 I zeroValue41 rfl λr aw s ax=>?_)
 refine r8 s zeroValue41 rfl λt ay l az=>?_
 obtain ⟨u,v,y,e,h⟩:=h
 obtain ⟨ba,bb,z,e⟩:=e
 refine c7 (Z7 z _ _ _ _ u v) (d7 (ldA (vs:=(g9 y)) isAgg112 sizeOf112 rfl (l.atH e)) ?_)
 refine f7 call106 (h g0 o p q) ((l.bring 3).bring 3) ?_
 rintro _ _ _ bc aa _ _ ⟨c,ab,ac,bd,f,g,rfl,rfl,m,h⟩
 refine c7 (m7 _ _ _ rfl) (c7 (m7 _ _ (vi ab) rfl) ?_)
 refine v8 (aa.bring 3) sizeOf41 (vs:=(A0 c)) λbe ad bf=>L6 ad λbg a=>?_
 obtain ⟨ae,af,ag,b,h⟩:=h
 obtain ⟨bh,bi,ah,b⟩:=b
 refine g8 (Z7 ah _ _ _ _ ae af) (s7 (ldA (vs:=(g9 ag)) isAgg112 sizeOf112 rfl (a.atH b)) ?_)
 refine s7 (lW isAgg41 sizeOf41 rfl a) (f7 call107 (h g0 f g m) ((a.bring 2).bring 2) ?_)
 rintro _ _ _ bj ai _ aj ⟨bk,rfl,rfl,h⟩
 refine ⟨(aj _ (a.b1d b) ((Inv.self (Fi:=[bx g0 63 (A8 ac f),g]) (Fr:=[bx r 41 (A0 c),bx t 41 [(vi 0),(vi 0)]]) ((a.bring 2).bring 2)).c8I b)),?_⟩
 refine f7 call106 (h g0 f g m) ((ai.bring 1).bring 1) ?_
 rintro _ ak _ bl al _ _ ⟨i,n,am,an,ao,ap,rfl,rfl,aq,h⟩
 refine g8 (m7 _ _ _ rfl) (g8 (m7 _ _ (vi n) rfl) ?_)
 refine v8 (al.bring 3) sizeOf41 (vs:=(A0 i)) λbm ar bn=>L6 ar λbo d=>s7 (lW isAgg41 sizeOf41 rfl (d.bring 3)) (s7 (lW isAgg41 sizeOf41 rfl d) ?_)
 refine v8 (d.bring 3) sizeOf41 (vs:=(A0 c)) λbp au av=>⟨(av _ (Inv.c3F (d.bring 3))),?_⟩
 refine v8 (au.bring 1) sizeOf41 (vs:=(A0 i)) λbq j br=>D9 isAgg41 sizeOf41 rfl (j.bring 1) (D9 isAgg41 sizeOf41 rfl j ?_)
 exact hR _ ak _ _ ((j.drop.drop.bring 1).bring 1) ⟨c,i,n,(j6 am),an,ao,ap,rfl,rfl,aq,h⟩
def a7g(x0)(a:(List d8))(x1:Sl)(x2:Int)(H)(K:Int->m0->(List d8)->Hp->Prop):=
 ((x1.n:Int)=0->
 K x2 (j6 x0) a H)/\
 (¬((x1.n:Int)=0)->
 M1 (j6 x0) a H (λb c d e=>
 K b (j6 c) d e))
theorem b3a(x0 a x1 x2){H K}(h:a7g x0 a x1 x2 H K):Z1 x0 a x1 x2 H K:=by
 intro g0 b c d
 refine Ct.of λw0 w ps0 H0 R E I hR=>e3l (c7 (a1P _ _ _) (c7 pEq ?_))
 refine j7 h (λ_ h=>?_) (λ_ h=>?_)
 ·exact hR _ H _ _ ((I.bring 1).bring 1) ⟨x2,(j6 x0),a,b,c,rfl,rfl,d,h⟩
 ·refine f7 call14 (h g0 b c d) ((I.bring 1).bring 1) ?_
  rintro _ e _ n f _ _ ⟨g,i,j,k,l,rfl,rfl,m,h⟩
  exact hR _ e _ _ ((f.bring 1).bring 1) ⟨g,(j6 i),j,k,l,rfl,rfl,m,h⟩
def a8c(x0:c8)(H)(K:KT d6):=
 (0:Int)<=x0.fn/\(x0.fn:Int) < x0.fl.n/\∃a:d6,EltH H x0.fl x0.fn 5 (m8 a)/\
 K a H
theorem b3K(x0){H K}(h:a8c x0 H K):G5 x0 H K:=by
 intro g0
 refine Ct.of λw0 w ps0 H0 R E I hR=>e2U (r8 I zeroValue127 rfl λj k e l=>?_)
 refine L6 e λm a=>g8 (t7 _) (g8 c8h ?_)
 refine g8 (t7 _) (g8 a6i ?_)
 refine s7 (l1 isAgg118 (a.bring 1) rfl) (s7 (l1 isAgg3 (a.bring 1) rfl) ?_)
 obtain ⟨f,g,b,c,h⟩:=h
 obtain ⟨n,o,i,c⟩:=c
 refine g8 (d2p i _ _ _ _ f g) (s7 (ldA (vs:=(m8 b)) isAgg127 sizeOf127 rfl (a.atH c)) ?_)
 exact v8 a sizeOf127 (vs:=(m8 b)) λp d q=>D9 isAgg127 sizeOf127 rfl d (hR _ H _ _ d.drop ⟨b,rfl,rfl,h⟩)
def b4D(x0:c8)(x1:BA)(H)(K:Bool->c8->Hp->Prop):=
 B0 x0 x1 H (λa b=>
 ((!a)=true->
 K false x0 b)/\
 ((!a)=false->
 K true (c8.mk x0.fl (IntKind.wrap .i64 (x0.fn+1))) b))
theorem b4E(x0 x1){H K}(h:b4D x0 x1 H K):B6 x0 x1 H K:=by
 intro g0
 refine Ct.of λw0 w ps0 H0 R E I hR=>e3M (f7 call57 (h g0) I ?_)
 rintro _ b _ d a _ _ ⟨e,rfl,rfl,h⟩
 refine c7 (R5 _) (t6 h (λ_ h=>?_) (λ_ h=>?_))
 ·exact hR _ b _ _ a ⟨_,_,rfl,rfl,h⟩
 ·refine c7 (t7 _) (c7 a6i (d7 (l1 isAgg3 a rfl) (c7 pAd (c7 (t7 _) ?_))))
  refine c7 a6i (K0 a sizeOf3 λf c g=>?_)
  exact hR _ b _ _ c ⟨_,_,rfl,rfl,h⟩
def b0I(x0)(H)(K:KT Bool):=
 G5 x0 H (λa c=>
 TG (((decide (a.d9=1))||(decide (a.d9=2)))=false) (B0 x0 ⟨#[45]⟩ c) false c (λ(b:Bool)(d:Hp)=>
 TG ((((decide (a.d9=1))||(decide (a.d9=2)))||b)=false) (B0 x0 ⟨#[105,110,112,117,116]⟩ d) false d (λ(e:Bool)(f:Hp)=>
 TG (((((decide (a.d9=1))||(decide (a.d9=2)))||b)||e)=false) (B0 x0 ⟨#[40]⟩ f) false f (λ(g:Bool)(i:Hp)=>
 K (((((decide (a.d9=1))||(decide (a.d9=2)))||b)||e)||g) i))))
theorem b0J(x0){H K}(h:b0I x0 H K):N1 x0 H K:=by
 intro g0
 refine Ct.of λw0 w ps0 H0 R E I hR=>d9l (f7 call55 (h g0) I ?_)
 rintro _ _ _ ac k _ _ ⟨l,rfl,rfl,h⟩
 refine c7 b1h (c7 pEq ?_)
 simp only [K6]
 refine c7 (Pu.g λa=>by simp only [p6 a];with_reducible exact pEq) ?_
 refine c7 (M6 _ _) ?_
 simp only [K6]
 refine Q4 [bx g0 125 (f9 x0)] (λb:Bool=>(vB b)) h k (λa h=>by simp only [p6 a];exact R6 call57 (h g0) k) λb n z e o p h=>?_
 refine c7 (M6 _ _) ?_
 simp only [K6]
 refine Q4 [bx g0 125 (f9 x0)] (λc:Bool=>(vB c)) h e (λa h=>by simp only [p6 a];exact R6 call57 (h g0) e) λc r aa f s t h=>?_
 refine c7 (M6 _ _) ?_
 simp only [K6]
 refine Q4 [bx g0 125 (f9 x0)] (λd:Bool=>(vB d)) h f (λa h=>by simp only [p6 a];exact R6 call57 (h g0) f) λd i ab j v y h=>?_
 exact c7 (M6 _ _) (hR _ i _ _ j ⟨_,rfl,rfl,h⟩)
def a4c(aa:Int)(H)(K:KT Int):=
 K aa H
def a4d(aa:Int)(H)(K:KT Int):=
 a4c (IntKind.wrap .i64 (aa-1)) H K
def a1t(aa:Int)(H)(K:KT Int):=
 a4d (IntKind.wrap .i64 (aa-1)) H K
def U8(aa:Int)(ab:Int)(ad:Bool)(H)(K:KT Int):=
 (ad=true->
 a1t aa H K)/\
 (ad=false->
 (ab=5->
 a4d aa H K)/\
 (¬(ab=5)->
 a4c aa H K))
def Z4(aa:Int)(ab:Int)(ad:Bool)(H)(K:KT Int):=
 (ad=true->
 a1t (IntKind.wrap .i64 (aa-1)) H K)/\
 (ad=false->
 (ab=8->
 U8 aa ab (decide (ab=8)) H K)/\
 (¬(ab=8)->
 (ab=9->
 U8 aa ab (decide (ab=9)) H K)/\
 (¬(ab=9)->
 U8 aa ab (decide (ab=10)) H K)))
def b5k(x0:Int)(H)(K:KT Int):=
 (x0=6->
 Z4 4 x0 (decide (x0=6)) H K)/\
 (¬(x0=6)->
 Z4 4 x0 (decide (x0=7)) H K)
theorem b5l(x0){H K}(h:b5k x0 H K):a2l x0 H K:=by
 refine Ct.of λw0 w ps0 H0 R E I hR=>e3y ?_
 have hj1:∀aa H w,Inv w0 ps0 H0 H [] w->a4c aa H K->d3g (vi aa) w R E:=by
  intro aa H w I h
  intro _
  exact hr1 hR I h
 refine u7 λj1 hx1=>?_
 have hj2:∀ab H w,Inv w0 ps0 H0 H [] w->a4d ab H K->d3h (vi ab) w j1 R E:=by
  intro ab H w I h
  intro _
  exact c7 pSu (hx1 _ _ (hj1 _ H _ I h))
 refine u7 λj2 hx2=>?_
 have hj3:∀ad H w,Inv w0 ps0 H0 H [] w->a1t ad H K->d3i (vi ad) w j2 R E:=by
  intro ad H w I h
  intro _
  exact c7 pSu (hx2 _ _ (hj2 _ H _ I h))
 refine u7 λj3 hx3=>?_
 have hj4:∀ae H w,Inv w0 ps0 H0 H [] w->Z4 4 x0 ae H K->d3k (vi 4) (vi x0) (vB ae) w j3 j2 j1 R E:=by
  intro ae H w I h
  intro _
  refine t6 h (λ_ h=>?_) (λ_ h=>?_)
  ·exact c7 pSu (hx3 _ _ (hj3 _ H _ I h))
  ·have hj5:∀ag H w,Inv w0 ps0 H0 H [] w->U8 4 x0 ag H K->d3j (vi 4) (vi x0) (vB ag) w j3 j2 j1 R E:=by
    intro ag H w I h
    intro _
    refine t6 h (λ_ h=>?_) (λ_ h=>?_)
    ·exact hx3 _ _ (hj3 4 H _ I h)
    ·refine c7 pEq (j7 h (λ_ h=>?_) (λ_ h=>?_))
     ·exact hx2 _ _ (hj2 4 H _ I h)
     ·exact hx1 _ _ (hj1 4 H _ I h)
   refine u7 λj5 hx5=>c7 pEq (j7 h (λ_ h=>?_) (λ_ h=>?_))
   ·exact hx5 _ _ (hj5 _ H _ I h)
   ·refine c7 pEq (j7 h (λ_ h=>?_) (λ_ h=>?_))
    ·exact hx5 _ _ (hj5 _ H _ I h)
    ·exact c7 pEq (hx5 _ _ (hj5 _ H _ I h))
 refine u7 λj4 hx4=>c7 pEq (j7 h (λ_ h=>?_) (λ_ h=>?_))
 ·exact hx4 _ _ (hj4 _ H _ I h)
 ·exact c7 pEq (hx4 _ _ (hj4 _ H _ I h))
def a3s(aa:Sl)(ab:Int)(_:l9)(ad:Int)(S9:(List m9))(H)(n2:KT (Int×(List m9)))(K:u4->(List m9)->Hp->Prop):=
 (ad < ab->
 (0:Int)<=ad/\(ad:Int) < aa.n/\∃a:l9,EltH H aa ad 4 (g9 a)/\
 a0F (u4.mk sN) S9 a H (λ_ b c=>
 n2 ((IntKind.wrap .i64 (ad+1)),b) c))/\
 (¬(ad < ab)->
 K (u4.mk sN) S9 H)
def U0(aa:(List m9))(a:l9)(H)(K:u4->(List m9)->Hp->Prop):=
 TL ((0,aa):Int×(List m9)) H λ(s:Int×(List m9)) H n2=>a3s a.L8 (a.L8.n:Int) a s.1 s.2 H n2 K
def a8D(_:u4)(a:(List m9))(x1:l9)(H)(K:u4->(List m9)->Hp->Prop):=
 (x1.d9=2->
 (a.length+([(m9.mk x1.o7 1)]:List m9).length)*25<=140737488355328/\
 U0 (a++[(m9.mk x1.o7 1)]) x1 H K)/\
 (¬(x1.d9=2)->
 (x1.d9=4->
 (a.length+([(m9.mk x1.o7 2)]:List m9).length)*25<=140737488355328/\
 U0 (a++[(m9.mk x1.o7 2)]) x1 H K)/\
 (¬(x1.d9=4)->
 U0 a x1 H K))
theorem b4F(x0 d x1){H K}(h:a8D x0 d x1 H K):a0F x0 d x1 H K:=by
 intro g0 k ab m
 refine Ct.of λw0 w ps0 H0 R E I hR=>d9v (D3 I rfl λo bf g bg=>?_)
 have hj1:∀ck cl cm H w,RowL 186 2 G9 cl ck cm->Inv w0 ps0 H0 H [bx g0 184 [(vs cl)],bx o 112 (g9 x1),cm] w->U0 ck x1 H K->c9s (pt g0) (pt o) w R E:=by
  intro ck cl cm H w cn I h
  intro _
  refine c7 a0Z (d7 (l1 isAgg52 (I.bring 1) rfl) (c7 (a7e _ _ _) ?_))
  obtain ⟨p,f,ac,ad⟩:=h
  refine G6 (J:=λn l w=>∃(s:Int×(List m9))(H:Hp)(cp:Sl)(cq:Frag),n=f s/\l=(match s with | (cr,S9)=>[(vi cr)])/\(match s with | (cr,S9)=>RowL 186 2 G9 cp S9 cq)/\(match s with | (cr,S9)=>Inv w0 ps0 H0 H [bx g0 184 [(vs cp)],bx o 112 (g9 x1),cq] w)/\p s H) ⟨_,(0,ck),H,cl,cm,rfl,rfl,cn,(((I.bring 2).bring 2).bring 2),ac⟩ ?_
  rintro bh bi w next2 ⟨⟨cr,S9⟩,H,cp,cq,rfl,q,cs,I,ae⟩ hn2
  have q:=lE1 q
  have e39:=q
  simp only [e39]
  obtain ⟨n2,hm2,h⟩:=tlA (B:=λn2=>a3s x1.L8 (x1.L8.n:Int) x1 cr S9 H n2 K) (ad (cr,S9) H) ae
  refine c7 pLs (j7 h (λ_ h=>?_) (λ_ h=>?_))
  ·obtain ⟨af,ag,t,r,h⟩:=h
   obtain ⟨bj,bk,ah,r⟩:=r
   refine c7 (Z7 ah _ _ _ _ af ag) (d7 (ldA (vs:=(g9 t)) isAgg112 sizeOf112 rfl (I.atH r)) ?_)
   refine r8 I zeroValue112 rfl λbl bm ai bn=>v8 ai sizeOf112 (vs:=(g9 t)) λbo u bp=>d7 (lW isAgg112 sizeOf112 rfl u) (f7 call142 (h g0 cp cq cs) ((u.bring 3).bring 2) ?_)
   rintro _ aj _ bq ak _ _ ⟨br,al,am,an,rfl,rfl,ao,h⟩
   exact c7 pAd (hn2 _ _ _ (hm2 _ _ h).2 ⟨((IntKind.wrap .i64 (cr+1)),al),aj,am,an,rfl,rfl,ao,((((ak.bring 2).drop.bring 1).bring 2).bring 2),(hm2 _ _ h).1⟩)
  ·exact hR _ H _ _ (((I.bring 1).drop.bring 1).bring 1) ⟨(u4.mk sN),S9,cp,cq,rfl,rfl,cs,h⟩
 refine u7 λj1 hx1=>c7 W7 (d7 (l1 isAgg3 g rfl) (c7 pEq ?_))
 refine j7 h (λ_ h=>?_) (λ_ h=>?_)
 ·refine L6 g λbs i=>g8 (t7 _) (g8 a3G ?_)
  refine g8 a4Y (s7 (l1 isAgg182 (i.bring 1) rfl) ?_)
  refine s7 (l1 isAgg9 i rfl) (g8 (a9M _ _) ?_)
  refine O0 (e:=186) (c:=G9) (xs:=[(m9.mk x1.o7 1)]) i (b7S _ _) rfl rfl a7X a7Y (nb rfl) λbt bu bv ap v aq=>⟨(aq _ (i.bring 1).lt1),?_⟩
  obtain ⟨ar,h⟩:=h
  refine c0k (s:=k) (xs:=d) (v.bring 3) m (ap.srcO ((v.bring 3).bring 1)) ar λy au bw av aw bz=>g8 (t7 _) (g8 a3G ?_)
  exact v8 ((aw.bring 1).drop.bring 2) sizeOf182 (vs:=[(vs y)]) λca ax cb=>hx1 _ _ (hj1 _ y _ H _ av (((ax.bring 1).bring 2).bring 2) h)
 ·refine c7 pEq (j7 h (λ_ h=>?_) (λ_ h=>?_))
  ·refine L6 g λcc j=>g8 (t7 _) (g8 a3G ?_)
   refine g8 a4Y (s7 (l1 isAgg182 (j.bring 1) rfl) ?_)
   refine s7 (l1 isAgg9 j rfl) (g8 (a9M _ _) ?_)
   refine O0 (e:=186) (c:=G9) (xs:=[(m9.mk x1.o7 2)]) j (b7S _ _) rfl rfl a7X a7Y (nb rfl) λcd ce cf ay z az=>⟨(az _ (j.bring 1).lt1),?_⟩
   obtain ⟨ba,h⟩:=h
   refine c0k (s:=k) (xs:=d) (z.bring 3) m (ay.srcO ((z.bring 3).bring 1)) ba λaa bb cg bc bd ch=>g8 (t7 _) (g8 a3G ?_)
   exact v8 ((bd.bring 1).drop.bring 2) sizeOf182 (vs:=[(vs aa)]) λci be cj=>hx1 _ _ (hj1 _ _ _ H _ bc (((be.bring 1).bring 2).bring 2) h)
  ·exact hx1 _ _ (hj1 d k _ H _ m (((g.bring 2).bring 1).bring 2) h)
def a2H(_:Sl)(_:Int)(ad:Int)(ae:(List m9))(H)(n1:KT (Int×(List m9)))(_:u4->(List m9)->Hp->Prop):=
 n1 ((IntKind.wrap .i64 (ad+1)),ae) H
def a2I(aa)(ab:Int)(ad:Int)(ae:(List m9))(a:i6)(H)(n1:KT (Int×(List m9)))(K:u4->(List m9)->Hp->Prop):=
 a0m (u4.mk sN) ae a.T5 H (λ_ b c=>
 a0m (u4.mk sN) b a.T6 c (λ_ d e=>
 a2H aa ab ad d e n1 K))
def a2J(aa)(ab:Int)(ad:Int)(ae:Sl)(ag:Int)(b)(ah:Int)(ai:(List m9))(H)(n1:KT (Int×(List m9)))(n6:KT (Int×(List m9)))(K:u4->(List m9)->Hp->Prop):=
 (ah < ag->
 (0:Int)<=ah/\(ah:Int) < ae.n/\∃a:l9,EltH H ae ah 4 (g9 a)/\
 a0F (u4.mk sN) ai a H (λ_ c d=>
 n6 ((IntKind.wrap .i64 (ah+1)),c) d))/\
 (¬(ah < ag)->
 a2I aa ab ad ai b H n1 K)
def a2K(aa)(ab:Int)(ad:Int)(ae:(List m9))(a:i6)(H)(n1:KT (Int×(List m9)))(K:u4->(List m9)->Hp->Prop):=
 TL ((0,ae):Int×(List m9)) H λ(s:Int×(List m9)) H n6=>a2J aa ab ad a.z7 (a.z7.n:Int) a s.1 s.2 H n1 n6 K
def a2L(aa)(ab:Int)(ad:Int)(ae:Sl)(ag:Int)(b)(ah:Int)(ai:(List m9))(H)(n1:KT (Int×(List m9)))(n7:KT (Int×(List m9)))(K:u4->(List m9)->Hp->Prop):=
 (ah < ag->
 (0:Int)<=ah/\(ah:Int) < ae.n/\∃a:p5,EltH H ae ah 4 (l7 a)/\
 a2b (u4.mk sN) ai a H (λ_ c d=>
 n7 ((IntKind.wrap .i64 (ah+1)),c) d))/\
 (¬(ah < ag)->
 a2K aa ab ad ai b H n1 K)
def T4(aa)(ab:Int)(ad:Int)(ae:(List m9))(a:i6)(H)(n1:KT (Int×(List m9)))(K:u4->(List m9)->Hp->Prop):=
 TL ((0,ae):Int×(List m9)) H λ(s:Int×(List m9)) H n7=>a2L aa ab ad a.D4 (a.D4.n:Int) a s.1 s.2 H n1 n7 K
def a2M(aa:Sl)(ab:Int)(ad:Int)(W8:(List m9))(H)(n1:KT (Int×(List m9)))(K:u4->(List m9)->Hp->Prop):=
 (ad < ab->
 (0:Int)<=ad/\(ad:Int) < aa.n/\∃a:i6,EltH H aa ad 6 (q9 a)/\
 (a.d9=1->
 (W8.length+([(m9.mk a.o7 1)]:List m9).length)*25<=140737488355328/\
 T4 aa ab ad (W8++[(m9.mk a.o7 1)]) a H n1 K)/\
 (¬(a.d9=1)->
 (a.d9=2->
 (W8.length+([(m9.mk a.o7 2)]:List m9).length)*25<=140737488355328/\
 T4 aa ab ad (W8++[(m9.mk a.o7 2)]) a H n1 K)/\
 (¬(a.d9=2)->
 T4 aa ab ad W8 a H n1 K)))/\
 (¬(ad < ab)->
 K (u4.mk sN) W8 H)
def a8d(_:u4)(a:(List m9))(x1:Sl)(H)(K:u4->(List m9)->Hp->Prop):=
 TL ((0,a):Int×(List m9)) H λ(s:Int×(List m9)) H n1=>a2M x1 (x1.n:Int) s.1 s.2 H n1 K
theorem b3L(x0 p x1){H K}(h:a8d x0 p x1 H K):a0m x0 p x1 H K:=by
 intro g0 al am an
 refine Ct.of λw0 w ps0 H0 R E I hR=>d8L (c7 (a1P _ _ _) ?_)
 obtain ⟨q,g,ao,ap⟩:=h
 refine G6 (J:=λn l w=>∃(s:Int×(List m9))(H:Hp)(cs:Sl)(ey:Frag),n=g s/\l=(match s with | (ez,W8)=>[(vi ez)])/\(match s with | (ez,W8)=>RowL 186 2 G9 cs W8 ey)/\(match s with | (ez,W8)=>Inv w0 ps0 H0 H [bx g0 184 [(vs cs)],ey] w)/\q s H) ⟨_,(0,p),H,al,am,rfl,rfl,an,((I.bring 1).bring 1),ao⟩ ?_
 rintro cx cy w next1 ⟨⟨ez,W8⟩,H,cs,ey,rfl,r,fd,I,aq⟩ hn1
 have r:=lE1 r
 have e12:=r
 simp only [e12]
 obtain ⟨n1,hm1,h⟩:=tlA (B:=λn1=>a2M x1 (x1.n:Int) ez W8 H n1 K) (ap (ez,W8) H) aq
 refine c7 pLs (j7 h (λ_ h=>?_) (λ_ h=>?_))
 ·have hj2:∀ff fg fh H w,RowL 186 2 G9 fg ff fh->Inv w0 ps0 H0 H [bx g0 184 [(vs fg)],fh] w->a2H x1 (x1.n:Int) ez ff H n1 K->c8V (pt g0) (vs x1) (vi (x1.n:Int)) (vi ez) w next1 R E:=by
   intro ff fg fh H w fi I h
   intro _
   exact c7 pAd (hn1 _ _ _ (hm1 _ _ h).2 ⟨((IntKind.wrap .i64 (ez+1)),ff),H,fg,fh,rfl,rfl,fi,((I.bring 1).bring 1),(hm1 _ _ h).1⟩)
  refine u7 λj2 hx2=>?_
  obtain ⟨ar,au,d,t,h⟩:=h
  obtain ⟨cz,da,av,t⟩:=t
  refine c7 (b5d av _ _ _ _ ar au) (d7 (ldA (vs:=(q9 d)) isAgg55 sizeOf55 rfl (I.atH t)) ?_)
  refine r8 I zeroValue55 rfl λf db aw dc=>v8 aw sizeOf55 (vs:=(q9 d)) λdd k de=>?_
  have hj3:∀fj fk fm H w,RowL 186 2 G9 fk fj fm->Inv w0 ps0 H0 H [bx g0 184 [(vs fk)],bx f 55 (q9 d),fm] w->T4 x1 (x1.n:Int) ez fj d H n1 K->c8Y (pt g0) (pt f) (vs x1) (vi (x1.n:Int)) (vi ez) w j2 R E:=by
   intro fj fk fm H w fo I h
   intro _
   have hj4:∀fp fq fr H w,RowL 186 2 G9 fq fp fr->Inv w0 ps0 H0 H [bx g0 184 [(vs fq)],bx f 55 (q9 d),fr] w->a2K x1 (x1.n:Int) ez fp d H n1 K->c8X (pt g0) (pt f) (vs x1) (vi (x1.n:Int)) (vi ez) w j2 R E:=by
    intro fp fq fr H w ft I h
    intro _
    have hj5:∀fu fv fw H w,RowL 186 2 G9 fv fu fw->Inv w0 ps0 H0 H [bx g0 184 [(vs fv)],bx f 55 (q9 d),fw] w->a2I x1 (x1.n:Int) ez fu d H n1 K->c8W (pt g0) (pt f) (vs x1) (vi (x1.n:Int)) (vi ez) w j2 R E:=by
     intro fu fv fw H w fy I h
     intro _
     refine c7 a2k (d7 (l1 isAgg23 (I.bring 1) rfl) ?_)
     refine f7 call102 (h g0 fv fw fy) ((I.bring 2).bring 1) ?_
     rintro _ _ _ df ac _ _ ⟨dg,dh,ax,ay,rfl,rfl,az,h⟩
     refine c7 a4J (d7 (l1 isAgg23 (ac.bring 2) rfl) ?_)
     refine f7 call102 (h g0 ax ay az) ((ac.bring 1).bring 1) ?_
     rintro _ ba _ di bb _ _ ⟨dj,bc,bd,be,rfl,rfl,bf,h⟩
     exact hx2 _ _ (hj2 _ _ _ ba _ bf (((bb.bring 2).drop.bring 1).bring 1) h)
    refine u7 λj5 hx5=>c7 a1A (d7 (l1 isAgg52 (I.bring 1) rfl) (c7 (a7e _ _ _) ?_))
    obtain ⟨u,i,bg,bh⟩:=h
    refine G6 (J:=λn l w=>∃(s:Int×(List m9))(H:Hp)(fz:Sl)(ga:Frag),n=i s/\l=(match s with | (gb,gc)=>[(vi gb)])/\(match s with | (gb,gc)=>RowL 186 2 G9 fz gc ga)/\(match s with | (gb,gc)=>Inv w0 ps0 H0 H [bx g0 184 [(vs fz)],bx f 55 (q9 d),ga] w)/\u s H) ⟨_,(0,fp),H,fq,fr,rfl,rfl,ft,(((I.bring 2).bring 2).bring 2),bg⟩ ?_
    rintro dk dl w next6 ⟨⟨gb,gc⟩,H,fz,ga,rfl,v,gd,I,bi⟩ hn6
    have v:=lE1 v
    have e60:=v
    simp only [e60]
    obtain ⟨n6,hm6,h⟩:=tlA (B:=λn6=>a2J x1 (x1.n:Int) ez d.z7 (d.z7.n:Int) d gb gc H n1 n6 K) (bh (gb,gc) H) bi
    refine c7 pLs (j7 h (λ_ h=>?_) (λ_ h=>?_))
    ·obtain ⟨bj,bk,ad,y,h⟩:=h
     obtain ⟨dm,dn,bl,y⟩:=y
     refine c7 (Z7 bl _ _ _ _ bj bk) (d7 (ldA (vs:=(g9 ad)) isAgg112 sizeOf112 rfl (I.atH y)) ?_)
     refine r8 I zeroValue112 rfl λdp dq bm dr=>v8 bm sizeOf112 (vs:=(g9 ad)) λds ae dt=>d7 (lW isAgg112 sizeOf112 rfl ae) (f7 call142 (h g0 fz ga gd) ((ae.bring 3).bring 2) ?_)
     rintro _ bn _ du bo _ _ ⟨dv,bp,bq,br,rfl,rfl,bs,h⟩
     exact c7 pAd (hn6 _ _ _ (hm6 _ _ h).2 ⟨((IntKind.wrap .i64 (gb+1)),bp),bn,bq,br,rfl,rfl,bs,((((bo.bring 2).drop.bring 1).bring 2).bring 2),(hm6 _ _ h).1⟩)
    ·exact hx5 _ _ (hj5 _ _ _ H _ gd (((I.bring 2).bring 2).bring 2) h)
   refine u7 λj4 hx4=>c7 Z8 (d7 (l1 isAgg53 (I.bring 1) rfl) (c7 (b2T _ _ _) ?_))
   obtain ⟨z,j,bt,bu⟩:=h
   refine G6 (J:=λn l w=>∃(s:Int×(List m9))(H:Hp)(gf:Sl)(gg:Frag),n=j s/\l=(match s with | (gh,gi)=>[(vi gh)])/\(match s with | (gh,gi)=>RowL 186 2 G9 gf gi gg)/\(match s with | (gh,gi)=>Inv w0 ps0 H0 H [bx g0 184 [(vs gf)],bx f 55 (q9 d),gg] w)/\z s H) ⟨_,(0,fj),H,fk,fm,rfl,rfl,fo,(((I.bring 2).bring 2).bring 2),bt⟩ ?_
   rintro dw dx w next7 ⟨⟨gh,gi⟩,H,gf,gg,rfl,aa,gj,I,bv⟩ hn7
   have aa:=lE1 aa
   have e49:=aa
   simp only [e49]
   obtain ⟨n7,hm7,h⟩:=tlA (B:=λn7=>a2L x1 (x1.n:Int) ez d.D4 (d.D4.n:Int) d gh gi H n1 n7 K) (bu (gh,gi) H) bv
   refine c7 pLs (j7 h (λ_ h=>?_) (λ_ h=>?_))
   ·obtain ⟨bw,bz,af,ab,h⟩:=h
    obtain ⟨dy,dz,ca,ab⟩:=ab
    refine c7 (Z9 ca _ _ _ _ bw bz) (d7 (ldA (vs:=(l7 af)) isAgg115 sizeOf115 rfl (I.atH ab)) ?_)
    refine r8 I zeroValue115 rfl λea eb cb ec=>v8 cb sizeOf115 (vs:=(l7 af)) λed ag ee=>d7 (lW isAgg115 sizeOf115 rfl ag) (f7 call141 (h g0 gf gg gj) ((ag.bring 3).bring 2) ?_)
    rintro _ cc _ ef cd _ _ ⟨eg,ce,cf,cg,rfl,rfl,ch,h⟩
    exact c7 pAd (hn7 _ _ _ (hm7 _ _ h).2 ⟨((IntKind.wrap .i64 (gh+1)),ce),cc,cf,cg,rfl,rfl,ch,((((cd.bring 2).drop.bring 1).bring 2).bring 2),(hm7 _ _ h).1⟩)
   ·exact hx4 _ _ (hj4 _ _ _ H _ gj (((I.bring 2).bring 2).bring 2) h)
  refine u7 λj3 hx3=>c7 a1d (d7 (l1 isAgg3 k rfl) (c7 pEq ?_))
  refine j7 h (λ_ h=>?_) (λ_ h=>?_)
  ·refine L6 k λeh m=>g8 (t7 _) (g8 a3G ?_)
   refine g8 a2j (s7 (l1 isAgg182 (m.bring 1) rfl) ?_)
   refine s7 (l1 isAgg9 m rfl) (g8 (a9M _ _) ?_)
   refine O0 (e:=186) (c:=G9) (xs:=[(m9.mk d.o7 1)]) m (b7S _ _) rfl rfl a7X a7Y (nb rfl) λei ej ek ci ah cj=>⟨(cj _ (m.bring 1).lt1),?_⟩
   obtain ⟨ck,h⟩:=h
   refine c0k (s:=cs) (xs:=W8) (ah.bring 3) fd (ci.srcO ((ah.bring 3).bring 1)) ck λai cl el cm cn em=>g8 (t7 _) (g8 a3G ?_)
   exact v8 ((cn.bring 1).drop.bring 2) sizeOf182 (vs:=[(vs ai)]) λen co eo=>hx3 _ _ (hj3 _ _ _ H _ cm (((co.bring 1).bring 2).bring 2) h)
  ·refine c7 pEq (j7 h (λ_ h=>?_) (λ_ h=>?_))
   ·refine L6 k λep o=>g8 (t7 _) (g8 a3G ?_)
    refine g8 a2j (s7 (l1 isAgg182 (o.bring 1) rfl) ?_)
    refine s7 (l1 isAgg9 o rfl) (g8 (a9M _ _) ?_)
    refine O0 (e:=186) (c:=G9) (xs:=[(m9.mk d.o7 2)]) o (b7S _ _) rfl rfl a7X a7Y (nb rfl) λeq er es cp aj cq=>⟨(cq _ (o.bring 1).lt1),?_⟩
    obtain ⟨cr,h⟩:=h
    refine c0k (s:=cs) (xs:=W8) (aj.bring 3) fd (cp.srcO ((aj.bring 3).bring 1)) cr λak ct et cu cv eu=>g8 (t7 _) (g8 a3G ?_)
    exact v8 ((cv.bring 1).drop.bring 2) sizeOf182 (vs:=[(vs ak)]) λev cw ew=>hx3 _ _ (hj3 _ _ _ H _ cu (((cw.bring 1).bring 2).bring 2) h)
   ·exact hx3 _ _ (hj3 _ _ _ H _ fd (((k.bring 2).bring 1).bring 2) h)
 ·exact hR _ H _ _ ((I.bring 1).bring 1) ⟨(u4.mk sN),W8,cs,ey,rfl,rfl,fd,h⟩
def b3b(x0:j9)(H)(K:KT Int):=
 (0 < x0.D2->
 K 2 H)/\
 (¬(0 < x0.D2)->
 K 1 H)
theorem b9t(x0){H K}(h:b3b x0 H K):b2W x0 H K:=by
 refine Ct.of λw0 w ps0 H0 R E I hR=>e3g (D3 I rfl λb c a d=>?_)
 refine c7 a4H (d7 (l1 isAgg3 a rfl) (c7 pGt ?_))
 refine j7 h (λ_ h=>?_) (λ_ h=>?_)
 ·exact hr1 hR a.drop h
 ·exact hr1 hR a.drop h
def a5t(x0:BA)(x1:BA)(H)(K:KT Bool):=
 ((decide ((x1.size:Int)<=(x0.size:Int)))=true->(0:Int)<=(x1.size:Int)/\((x1.size:Int):Int)<=x0.size)/\
 K ((decide ((x1.size:Int)<=(x0.size:Int)))&&(decide ((x0.extract 0 ((x1.size:Int):Int).toNat)=x1))) H
theorem b0M(x0 x1){H K}(h:a5t x0 x1 H K):a5q x0 x1 H K:=by
 refine Ct.of λw0 w ps0 H0 R E I hR=>d9C (c7 (b0F _) (c7 (b0F _) (c7 pGe ?_)))
 simp only [K6]
 refine c7 (Pu.g λa=>by simp only [p6 a];with_reducible exact (b0F _)) ?_
 obtain ⟨b,h⟩:=h
 refine c7 (Pu.g λhb=>by have a:=hb;simp only [p6 a];with_reducible exact (c8K x0 underlying9 (b hb).1 (b hb).2)) ?_
 refine c7 (Pu.g λa=>by simp only [p6 a];with_reducible exact (a0C _ _ _ _ _)) ?_
 exact c7 (M3 _ _) (hR _ H _ _ I ⟨_,rfl,rfl,h⟩)
def b2a(x0:BA)(x1:BA)(H)(K:KT Bool):=
 a5q x0 x1 H (λa b=>
 K a b)
theorem b8X(x0 x1){H K}(h:b2a x0 x1 H K):a5E x0 x1 H K:=by
 refine Ct.of λw0 w ps0 H0 R E I hR=>d8V (oc1 call150 h I λc a d b h=>?_)
 exact hr1 hR b h
def b3c(H)(K:d6->Int->Hp->Prop):=
 K (d6.mk 0 ⟨#[]⟩ 0 (f8.mk 0 0)) 20 H
theorem b3d{H K}(h:b3c H K):b2Y H K:=by
 refine Ct.of λw0 w ps0 H0 R E I hR=>d9k (r8 I zeroValue127 (cs:=[(vi 0),(eS),(vi 0),(vi 0),(vi 0)]) rfl λc d b e=>?_)
 refine c7 (c2s) (v8 b sizeOf127 (vs:=[(vi 0),(eS),(vi 0),(vi 0),(vi 0)]) λf a g=>?_)
 exact D9 isAgg127 sizeOf127 rfl a (hR _ H _ _ a.drop ⟨(d6.mk 0 ⟨#[]⟩ 0 (f8.mk 0 0)),20,rfl,rfl,h⟩)
def a1f [PanQ] (aa:Int) (L0:c8) (_:p5) (H:Hp) (K:p5->c8->Hp->Prop):=
 V7 L0 aa H (λd e f=>
 a2o e f (λg i j=>
 V7 i aa j (λk l m=>
 ∀(a:Sl)(b:Hp),Hle m b->SlH b 4 g9 a [d,k]->a.n<=a.c->
 K (p5.mk 3 g a sN) l b)))
def a8E [PanQ] (x0:c8) (x1:Int) (H:Hp) (K:p5->c8->Hp->Prop):=
 V2 x0 H (λf g=>
 ((!f)=true->
 M2 x0 g (λt=>
 a1f x1 x0 (p5.mk 0 0 sN sN) t K))/\
 ((!f)=false->
 B6 x0 ⟨#[116,114,117,101]⟩ g (λi j k=>
 (i=true->
 K (p5.mk 1 0 sN sN) j k)/\
 (i=false->
 B6 j ⟨#[102,97,108,115,101]⟩ k (λl m o=>
 (l=true->
 K (p5.mk 2 0 sN sN) m o)/\
 (l=false->
 B6 m ⟨#[33]⟩ o (λp a q=>
 (p=true->
 V2 a q (λu v=>
 L1 a (IntKind.wrap .i64 (x1+1)) u v (λy=>
 a0G a (IntKind.wrap .i64 (x1+1)) y (λz aa ab=>
 ∀(b:Sl)(e:Hp),Hle ab e->SlH e 4 l7 b [z]->b.n<=b.c->
 K (p5.mk 4 0 sN b) aa e))))/\
 (p=false->
 B6 a ⟨#[91]⟩ q (λr d s=>
 (r=true->
 V2 d s (λac ad=>
 L1 d (IntKind.wrap .i64 (x1+1)) ac ad (λae=>
 S4 d (IntKind.wrap .i64 (x1+1)) ae (λaf ag ah=>
 K5 ag ⟨#[93]⟩ ah (λai aj=>
 K af ai aj)))))/\
 (r=false->
 a1f x1 d (p5.mk 0 0 sN sN) s K))))))))))
theorem b4G [PanQ] (x0:c8) (x1:Int) {H:Hp} {K:p5->c8->Hp->Prop} (h:a8E x0 x1 H K):a0G x0 x1 H K:=by
 intro g0
 refine Ct.ofE λw0 w ps0 H0 R E I hR hE=>d9q (r8 I zeroValue115 rfl λi bt ab bu=>?_)
 have hj1:∀L0 H w,Inv w0 ps0 H0 H [bx g0 125 (f9 L0),bx i 115 [(vi (p5.mk 0 0 sN sN).d9),(vi (p5.mk 0 0 sN sN).fOp),(vs (p5.mk 0 0 sN sN).z7),(vs (p5.mk 0 0 sN sN).E9)]] w->a1f x1 L0 (p5.mk 0 0 sN sN) H K->c9q (pt g0) (vi x1) (pt i) w R E:=by
  intro L0 H w I h
  intro _
  refine D8 hE call98 (h g0) I ?_
  rintro _ bv _ bw ac _ _ ⟨j,bz,rfl,rfl,h⟩
  refine r8 ac zeroValue112 rfl λca cb ad cc=>v8 ad sizeOf112 (vs:=(g9 j)) λcd ae ce=>D8 hE call172 (h g0) (ae.bring 1) ?_
  rintro _ _ _ cf af _ _ ⟨k,ag,rfl,rfl,h⟩
  refine L6 af λcg b=>s7 (lW isAgg112 sizeOf112 rfl (b.bring 1)) (D8 hE call98 (h g0) b ?_)
  rintro _ _ _ ch ah _ ai ⟨aj,ak,rfl,rfl,h⟩
  refine ⟨(ai _ (b.bring 1).lt1 (Inv.V1 (Fi:=[bx g0 125 (f9 ag)]) ((b.bring 1).bring 1))),?_⟩
  refine O0 (e:=112) (c:=g9) (xs:=[j,aj]) ah (c8R _ _ _ _ _ _ _ _ _ _ _ _) rfl rfl a0j a0k (nb rfl) λd ci cj al am ck=>g8 (c1y _ _ _ _ _) (v8 (am.bring 3) sizeOf115 (vs:=[(vi 3),(vi k),(vs d),(nS)]) λcl l cm=>?_)
  refine D9 isAgg115 sizeOf115 rfl l ?_
  obtain ⟨m,an,ao,ap,aq⟩:=Inv.freezeC (l.bring 1) al (by decide)
  replace h:=h d m ao ap aq
  exact hR _ m _ _ (an.drop.bring 1).drop ⟨_,_,rfl,rfl,h⟩
 refine u7 λj1 hx1=>f7 call171 (h g0) (ab.bring 1) ?_
 rintro _ cn _ co o _ _ ⟨cp,rfl,rfl,h⟩
 refine c7 (R5 _) (t6 h (λ_ h=>?_) (λ_ h=>?_))
 ·refine D8 hE call56 (h g0) o ?_
  rintro _ ar _ cq au _ _ ⟨rfl,rfl,h⟩
  exact hx1 _ _ (hj1 _ ar _ ((au.bring 1).bring 1) h)
 ·refine f7 call96 (h g0) o ?_
  rintro _ av _ cr p _ _ ⟨ct,aw,rfl,rfl,h⟩
  refine t6 h (λ_ h=>?_) (λ_ h=>?_)
  ·refine c7 (b9q _) (v8 (p.bring 1) sizeOf115 (vs:=[(vi 1),(vi 0),(nS),(nS)]) λcu q cv=>?_)
   exact D9 isAgg115 sizeOf115 rfl q (hR _ av _ _ q.drop ⟨_,_,rfl,rfl,h⟩)
  ·refine f7 call96 (h g0) p ?_
   rintro _ ax _ cw r _ _ ⟨cx,ay,rfl,rfl,h⟩
   refine t6 h (λ_ h=>?_) (λ_ h=>?_)
   ·refine c7 (b9q _) (v8 (r.bring 1) sizeOf115 (vs:=[(vi 2),(vi 0),(nS),(nS)]) λcy s cz=>?_)
    exact D9 isAgg115 sizeOf115 rfl s (hR _ ax _ _ s.drop ⟨_,_,rfl,rfl,h⟩)
   ·refine f7 call96 (h g0) r ?_
    rintro _ _ _ da t _ _ ⟨db,dc,rfl,rfl,h⟩
    refine t6 h (λ_ h=>?_) (λ_ h=>?_)
    ·refine c7 pAd (f7 call171 (h g0) t ?_)
     rintro _ _ _ dd az _ _ ⟨de,rfl,rfl,h⟩
     refine D8 hE call59 (h g0) az ?_
     rintro _ _ _ df ba _ _ ⟨rfl,rfl,h⟩
     refine c7 pAd (D8 hE call140 (h g0) ba ?_)
     rintro _ _ _ dg bb _ _ ⟨bc,bd,rfl,rfl,h⟩
     refine O0 (e:=115) (c:=l7) (xs:=[bc]) bb (b6T _ _ _ _ _ _ _ _) rfl rfl a1B a1C (nb rfl) λf dh di be bf dj=>c7 (b6V _ _ _ _) (v8 (bf.bring 2) sizeOf115 (vs:=[(vi 4),(vi 0),(nS),(vs f)]) λdk u dl=>?_)
     refine D9 isAgg115 sizeOf115 rfl u ?_
     obtain ⟨v,bg,bh,bi,bj⟩:=Inv.freezeC (u.bring 1) be (by decide)
     replace h:=h f v bh bi bj
     exact hR _ v _ _ bg.drop ⟨_,_,rfl,rfl,h⟩
    ·refine f7 call96 (h g0) t ?_
     rintro _ bk _ dm y _ _ ⟨dn,bl,rfl,rfl,h⟩
     refine t6 h (λ_ h=>?_) (λ_ h=>?_)
     ·refine c7 pAd (f7 call171 (h g0) y ?_)
      rintro _ _ _ dp bm _ _ ⟨dq,rfl,rfl,h⟩
      refine D8 hE call59 (h g0) bm ?_
      rintro _ _ _ dr bn _ _ ⟨rfl,rfl,h⟩
      refine c7 pAd (D8 hE call99 (h g0) bn ?_)
      rintro _ _ _ ds bo _ _ ⟨g,dt,rfl,rfl,h⟩
      refine r8 bo zeroValue115 rfl λdu dv bp dw=>v8 bp sizeOf115 (vs:=(l7 g)) λdx bq dy=>D8 hE call94 (h g0) (bq.bring 1) ?_
      rintro _ br _ dz z _ _ ⟨bs,rfl,rfl,h⟩
      refine d7 (lW isAgg115 sizeOf115 rfl (z.bring 1)) (v8 (z.bring 2) sizeOf115 (vs:=(l7 g)) λea aa eb=>?_)
      exact D9 isAgg115 sizeOf115 rfl aa (hR _ br _ _ (aa.drop.bring 1).drop ⟨g,_,rfl,rfl,h⟩)
     ·exact hx1 _ _ (hj1 _ bk _ ((y.bring 1).bring 1) h)
def a0O [PanQ] (aa:Int) (L0:c8) (_:l9) (H:Hp) (K:l9->c8->Hp->Prop):=
 V8 L0 H (λa e f=>
 (a.d9=2->
 K (l9.mk 1 a.A6 ⟨#[]⟩ sN) e f)/\
 (¬(a.d9=2)->
 B6 e ⟨#[91]⟩ f (λg i j=>
 ((!g)=true->
 K (l9.mk 2 0 a.N9 sN) i j)/\
 ((!g)=false->
 Z2 i aa ⟨#[93]⟩ j (λk l m=>
 ∀(b:Sl)(d:Hp),Hle m d->SlH d 4 g9 b [k]->b.n<=b.c->
 K (l9.mk 4 0 a.N9 b) l d)))))
def a8e [PanQ] (x0:c8) (x1:Int) (H:Hp) (K:l9->c8->Hp->Prop):=
 N1 x0 H (λe f=>
 ((!e)=true->
 M2 x0 f (λq=>
 a0O x1 x0 (l9.mk 0 0 ⟨#[]⟩ sN) q K))/\
 ((!e)=false->
 B6 x0 ⟨#[45]⟩ f (λg a i=>
 (g=true->
 N1 a i (λr s=>
 L1 a (IntKind.wrap .i64 (x1+1)) r s (λt=>
 W0 a (IntKind.wrap .i64 (x1+1)) t (λu v y=>
 ∀(b:Sl)(d:Hp),Hle y d->SlH d 4 g9 b [u]->b.n<=b.c->
 K (l9.mk 5 0 ⟨#[]⟩ b) v d))))/\
 (g=false->
 B6 a ⟨#[40]⟩ i (λj k l=>
 (j=true->
 Z2 k x1 ⟨#[41]⟩ l (λz aa ab=>
 K z aa ab))/\
 (j=false->
 B6 k ⟨#[105,110,112,117,116]⟩ l (λm o p=>
 (m=true->
 K (l9.mk 3 0 ⟨#[]⟩ sN) o p)/\
 (m=false->
 a0O x1 o (l9.mk 0 0 ⟨#[]⟩ sN) p K))))))))
theorem b3N [PanQ] (x0:c8) (x1:Int) {H:Hp} {K:l9->c8->Hp->Prop} (h:a8e x0 x1 H K):W0 x0 x1 H K:=by
 intro g0
 refine Ct.ofE λw0 w ps0 H0 R E I hR hE=>d9N (r8 I zeroValue112 (cs:=[(vi 0),(vi 0),(eS),(nS)]) rfl λk bn af bo=>?_)
 have hj1:∀L0 H w,Inv w0 ps0 H0 H [bx g0 125 (f9 L0),bx k 112 [(vi (l9.mk 0 0 ⟨#[]⟩ sN).d9),(vi (l9.mk 0 0 ⟨#[]⟩ sN).A6),(wS (l9.mk 0 0 ⟨#[]⟩ sN).o7),(vs (l9.mk 0 0 ⟨#[]⟩ sN).L8)]] w->a0O x1 L0 (l9.mk 0 0 ⟨#[]⟩ sN) H K->c9w (pt g0) (vi x1) (pt k) w R E:=by
  intro L0 H w I h
  intro _
  refine D8 hE call95 (h g0) I ?_
  rintro _ ag _ bp ah _ _ ⟨b,ai,rfl,rfl,h⟩
  refine r8 ah zeroValue127 (cs:=[(vi 0),(eS),(vi 0),(vi 0),(vi 0)]) rfl λbq br aj bs=>v8 aj sizeOf127 (vs:=(m8 b)) λbt d bu=>c7 a6j (d7 (l1 isAgg3 d rfl) (c7 pEq ?_))
  refine j7 h (λ_ h=>?_) (λ_ h=>?_)
  ·refine c7 b2M (d7 (l1 isAgg2 d rfl) (c7 (c3M _ _) ?_))
   exact v8 (d.bring 2) sizeOf112 (vs:=[(vi 1),(vi b.A6),(eS),(nS)]) λbv l bw=>D9 isAgg112 sizeOf112 rfl l (hR _ ag _ _ l.drop.drop ⟨(l9.mk 1 b.A6 ⟨#[]⟩ sN),ai,rfl,rfl,h⟩)
  ·refine f7 call96 (h g0) (d.bring 1) ?_
   rintro _ ak _ bz g _ _ ⟨ca,m,rfl,rfl,h⟩
   refine c7 (R5 _) (t6 h (λ_ h=>?_) (λ_ h=>?_))
   ·refine c7 a0w (d7 (l1 isAgg9 (g.bring 1) rfl) (c7 (c3N _ _) ?_))
    exact v8 (g.bring 2) sizeOf112 (vs:=[(vi 2),(vi 0),(wS b.N9),(nS)]) λcb o cc=>D9 isAgg112 sizeOf112 rfl o (hR _ ak _ _ (o.drop.bring 1).drop ⟨(l9.mk 2 0 b.N9 sN),m,rfl,rfl,h⟩)
   ·refine L6 g λcd f=>g8 a0w (s7 (l1 isAgg9 (f.bring 1) rfl) ?_)
    refine D8 hE call97 (h g0) f ?_
    rintro _ _ _ ce p _ al ⟨am,an,rfl,rfl,h⟩
    refine ⟨(al _ (f.bring 1).lt1 (Inv.V1 (Fi:=[bx g0 125 (f9 m)]) ((f.bring 1).bring 1))),?_⟩
    refine O0 (e:=112) (c:=g9) (xs:=[am]) p (c0j _ _ _ _ _ _) rfl rfl a0j a0k (nb rfl) λi cf cg ao ap aq=>⟨(aq _ (p.bring 1).lt1),?_⟩
    refine g8 (c1z _ _ _ _ _) (v8 (ap.bring 3) sizeOf112 (vs:=[(vi 4),(vi 0),(wS b.N9),(vs i)]) λch q ci=>?_)
    refine D9 isAgg112 sizeOf112 rfl q ?_
    obtain ⟨r,ar,au,av,aw⟩:=Inv.freezeC (q.bring 1) ao (by decide)
    replace h:=h i r au av aw
    exact hR _ r _ _ (ar.drop.bring 1).drop ⟨(l9.mk 4 0 b.N9 i),an,rfl,rfl,h⟩
 refine u7 λj1 hx1=>f7 call135 (h g0) (af.bring 1) ?_
 rintro _ _ _ cj s _ _ ⟨ck,rfl,rfl,h⟩
 refine c7 (R5 _) (t6 h (λ_ h=>?_) (λ_ h=>?_))
 ·refine D8 hE call56 (h g0) s ?_
  rintro _ ax _ cl ay _ _ ⟨rfl,rfl,h⟩
  exact hx1 _ _ (hj1 x0 ax _ ((ay.bring 1).bring 1) h)
 ·refine f7 call96 (h g0) s ?_
  rintro _ _ _ cm t _ _ ⟨cn,co,rfl,rfl,h⟩
  refine t6 h (λ_ h=>?_) (λ_ h=>?_)
  ·refine c7 pAd (f7 call135 (h g0) t ?_)
   rintro _ _ _ cp az _ _ ⟨cq,rfl,rfl,h⟩
   refine D8 hE call59 (h g0) az ?_
   rintro _ _ _ cr ba _ _ ⟨rfl,rfl,h⟩
   refine c7 pAd (D8 hE call170 (h g0) ba ?_)
   rintro _ _ _ ct bb _ _ ⟨bc,bd,rfl,rfl,h⟩
   refine O0 (e:=112) (c:=g9) (xs:=[bc]) bb (c0j _ _ _ _ _ _) rfl rfl a0j a0k (nb rfl) λj cu cv be bf cw=>c7 (b6W _ _ _ _) (v8 (bf.bring 2) sizeOf112 (vs:=[(vi 5),(vi 0),(eS),(vs j)]) λcx u cy=>?_)
   refine D9 isAgg112 sizeOf112 rfl u ?_
   obtain ⟨v,bg,bh,bi,bj⟩:=Inv.freezeC (u.bring 1) be (by decide)
   replace h:=h j v bh bi bj
   exact hR _ v _ _ bg.drop ⟨(l9.mk 5 0 ⟨#[]⟩ j),bd,rfl,rfl,h⟩
  ·refine f7 call96 (h g0) t ?_
   rintro _ _ _ cz y _ _ ⟨da,db,rfl,rfl,h⟩
   refine t6 h (λ_ h=>?_) (λ_ h=>?_)
   ·refine D8 hE call97 (h g0) y ?_
    rintro _ bk _ dc bl _ _ ⟨z,bm,rfl,rfl,h⟩
    exact v8 (bl.bring 1) sizeOf112 (vs:=(g9 z)) λdd aa de=>D9 isAgg112 sizeOf112 rfl aa (hR _ bk _ _ aa.drop ⟨z,bm,rfl,rfl,h⟩)
   ·refine f7 call96 (h g0) y ?_
    rintro _ ab _ df ac _ _ ⟨dg,ad,rfl,rfl,h⟩
    refine t6 h (λ_ h=>?_) (λ_ h=>?_)
    ·refine c7 (c6q _) (v8 (ac.bring 1) sizeOf112 (vs:=[(vi 3),(vi 0),(eS),(nS)]) λdh ae di=>?_)
     exact D9 isAgg112 sizeOf112 rfl ae (hR _ ab _ _ ae.drop ⟨(l9.mk 3 0 ⟨#[]⟩ sN),ad,rfl,rfl,h⟩)
    ·exact hx1 _ _ (hj1 ad ab _ ((ac.bring 1).bring 1) h)
def P1(aa:(List j8))(H)(K:KT Sl):=
 ∀(N5:Sl)(a:Hp),Hle H a->SlH a 1 C0 N5 aa->N5.n<=N5.c->
 K N5 a
def P2(M5:Sl)(aa:Int)(C6:(List j8))(B8:Int)(H)(n2:KT ((List j8)×Int))(K:KT Sl):=
 (B8 < aa->
 (0:Int)<=B8/\(B8:Int) < M5.n/\∃a:p5,EltH H M5 B8 4 (l7 a)/\
 b1n a H (λb c=>
 (C6.length+([b]:List j8).length)*17<=140737488355328/\
 n2 ((C6++[b]),(IntKind.wrap .i64 (B8+1))) c))/\
 (¬(B8 < aa)->
 P1 C6 H K)
def Y7(x0:Sl)(H)(K:KT Sl):=
 TL (([],0):(List j8)×Int) H λ(s:(List j8)×Int) H n2=>P2 x0 (x0.n:Int) s.1 s.2 H n2 K
theorem a3u(x0){H K}(h:Y7 x0 H K):M4 x0 H K:=by
 refine Ct.of λw0 w ps0 H0 R E I hR=>d9Y ?_
 have hj1:∀bf N5 Fs5j1 H w,RowL 149 1 C0 N5 bf Fs5j1->Inv w0 ps0 H0 H [Fs5j1] w->P1 bf H K->c9A (vs N5) w R E:=by
  intro bf N5 Fs5j1 H w bg I h
  intro _
  obtain ⟨j,q,r,t,u⟩:=Inv.freezeC I bg (by decide)
  replace h:=h N5 j r t u
  exact hr1 hR q h
 refine u7 λj1 hx1=>c7 (b2T _ _ _) ?_
 obtain ⟨f,d,v,y⟩:=h
 refine G6 (J:=λn l w=>∃(s:(List j8)×Int)(H:Hp)(bh:Sl)(Fs5l2:Frag),n=d s/\l=(match s with | (C6,B8)=>[(vs bh),(vi B8)])/\(match s with | (C6,B8)=>RowL 149 1 C0 bh C6 Fs5l2)/\(match s with | (C6,B8)=>Inv w0 ps0 H0 H [Fs5l2] w)/\f s H) ⟨_,([],0),H,sN,[],rfl,rfl,(RowL.nil Y3 a0x),I.nil,v⟩ ?_
 rintro am an w next2 ⟨⟨C6,B8⟩,H,bh,Fs5l2,rfl,g,bi,I,z⟩ hn2
 obtain ⟨e5,e10⟩:=lE2 g
 simp only [e5,e10]
 obtain ⟨n2,hm2,h⟩:=tlA (B:=λn2=>P2 x0 (x0.n:Int) C6 B8 H n2 K) (y (C6,B8) H) z
 refine c7 pLs (j7 h (λ_ h=>?_) (λ_ h=>?_))
 ·obtain ⟨aa,ab,k,i,h⟩:=h
  obtain ⟨ao,ap,ac,i⟩:=i
  refine c7 (Z9 ac _ _ _ _ aa ab) (d7 (ldA (vs:=(l7 k)) isAgg115 sizeOf115 rfl (I.atH i)) ?_)
  refine r8 I zeroValue115 rfl λaq ar ad au=>v8 ad sizeOf115 (vs:=(l7 k)) λav m aw=>d7 (lW isAgg115 sizeOf115 rfl m) (oc1 call213 h m λo ae ax af h=>?_)
  refine O0 (e:=149) (c:=C0) (xs:=[o]) af (b7U _) rfl rfl Y3 a0x (nb rfl) λay az ba ag p bb=>?_
  obtain ⟨ah,h⟩:=h
  exact b6U (s:=bh) (xs:=C6) (p.bring 2) bi (ag.srcO ((p.bring 2).bring 1)) ah λai aj bc ak al bd=>c7 pAd (hn2 _ _ _ (hm2 _ _ h).2 ⟨((C6++[o]),(IntKind.wrap .i64 (B8+1))),ae,ai,aj,rfl,rfl,ak,((al.bring 1).drop.bring 1).drop,(hm2 _ _ h).1⟩)
 ·exact hx1 _ _ (hj1 _ _ _ H _ bi I h)
def a9l(x0:a0D)(H)(K:KT Sl):=
 M4 x0.t8.D4 H (λd e=>
 G8 x0.t8.z7 e (λf g=>
 G7 x0.t8.T5 g (λi j=>
 G7 x0.t8.T6 j (λk l=>
 ∀(a:Sl)(b:Hp),Hle l b->SlH b 1 csl a [d,f,i,k]->a.n<=a.c->
 L3 a b (λm o=>
 K m o)))))
theorem b5t(x0){H K}(h:a9l x0 H K):a9f x0 H K:=by
 refine Ct.of λw0 w ps0 H0 R E I hR=>d9W (D3 I rfl λad ae i af=>?_)
 refine L6 i λag a=>g8 V0 (g8 Z8 ?_)
 refine g8 V0 (g8 a1A ?_)
 refine g8 V0 (g8 a2k ?_)
 refine g8 V0 (g8 a4J ?_)
 refine s7 (l1 isAgg53 a rfl) (s7 (l1 isAgg52 a rfl) ?_)
 refine s7 (l1 isAgg23 a rfl) (s7 (l1 isAgg23 a rfl) ?_)
 refine f7 call212 h a ?_
 rintro _ _ _ ah b _ d ⟨j,rfl,rfl,h⟩
 refine ⟨(d _ a.lt1 (Inv.V1 (Fi:=[]) a)),(d _ a.lt1 (Inv.V1 (Fi:=[]) a)),(d _ a.lt1 (Inv.V1 (Fi:=[]) a)),?_⟩
 refine f7 call214 h b ?_
 rintro _ _ _ ai f _ g ⟨k,rfl,rfl,h⟩
 refine ⟨(g _ b.lt1 (Inv.V1 (Fi:=[]) b)),(g _ b.lt1 (Inv.V1 (Fi:=[]) b)),?_⟩
 refine f7 call77 h f ?_
 rintro _ _ _ aj l _ m ⟨n,rfl,rfl,h⟩
 refine ⟨(m _ f.lt1 (Inv.V1 (Fi:=[]) f)),?_⟩
 refine oc1 call77 h l λp _ ak o h=>O0 (e:=146) (c:=csl) (xs:=[j,k,n,p]) o (d5o _ _ _ _ _ _ _ _ _ _ _ _) rfl rfl c0f c0g (nb rfl) λq al am r s an=>?_
 obtain ⟨t,u,v,y,z⟩:=Inv.freezeC s r (by decide)
 replace h:=h q t v y z
 exact oc1 call74 h u λac aa ao ab h=>hr1 hR ab.drop h
def a0p(aa:Bool)(a:C7)(_:a0E)(H)(K:KT Bool):=
 (aa=true->
 K (decide (a.fexprs=0/\a.fparts=2)) H)/\
 (aa=false->
 K false H)
def a0q(aa:Int)(ab:Bool)(a:C7)(b)(H)(K:KT Bool):=
 (ab=true->
 K (decide (a.fexprs=0/\a.fparts=0)) H)/\
 (ab=false->
 (aa=4->
 K (decide (a.fexprs=0/\a.fparts=1)) H)/\
 (¬(aa=4)->
 (aa=5->
 a0p (decide (aa=5)) a b H K)/\
 (¬(aa=5)->
 a0p (decide (aa=6)) a b H K)))
def b0h(x0:a0E)(H)(K:KT Bool):=
 (x0.C3.d9=3->
 K (((decide (1<=x0.C3.fOp))&&(decide (x0.C3.fOp<=6)))&&(decide ((x0.C3.z7.n:Int)=2/\(x0.C3.E9.n:Int)=0))) H)/\
 (¬(x0.C3.d9=3)->
 (¬(x0.C3.fOp=0)->
 K false H)/\
 (x0.C3.fOp=0->
 (x0.C3.d9=1->
 a0q x0.C3.d9 (decide (x0.C3.d9=1)) (C7.mk (x0.C3.z7.n:Int) (x0.C3.E9.n:Int)) x0 H K)/\
 (¬(x0.C3.d9=1)->
 a0q x0.C3.d9 (decide (x0.C3.d9=2)) (C7.mk (x0.C3.z7.n:Int) (x0.C3.E9.n:Int)) x0 H K)))
theorem b5Y(x0){H K}(h:b0h x0 H K):a5M x0 H K:=by
 refine Ct.of λw0 w ps0 H0 R E I hR=>e0f (D3 I rfl λe i d j=>?_)
 refine c7 a3H (c7 a8u (d7 (l1 isAgg52 d rfl) (c7 (a7e _ _ _) (c7 a3H ?_))))
 refine c7 a1v (d7 (l1 isAgg53 d rfl) (c7 (b2T _ _ _) (c7 (a9O _ _) ?_)))
 refine r8 d zeroValue302 rfl λc k f l=>v8 f sizeOf302 (vs:=[(vi (x0.C3.z7.n:Int)),(vi (x0.C3.E9.n:Int))]) λm b p=>c7 a3H (c7 a8t (d7 (l1 isAgg3 (b.bring 1) rfl) (c7 pEq ?_)))
 refine j7 h (λ_ h=>?_) (λ_ h=>?_)
 ·refine c7 a3H (c7 a8v (d7 (l1 isAgg3 (b.bring 1) rfl) (c7 pGe ?_)))
  refine c7 (Pu.g λa=>by with_reducible exact a3H) ?_
  refine c7 (Pu.g λa=>by simp only [p6 a];with_reducible exact a8v) ?_
  refine d7 (Ld.g λa=>by simp only [p6 a];exact (l1 isAgg3 (b.bring 1) rfl)) ?_
  refine c7 (Pu.g λa=>by simp only [p6 a];with_reducible exact pLe) ?_
  refine c7 (M3 _ _) (d7 (Ld.g λa=>by exact (ldA isAgg302 sizeOf302 rfl (b.at1 (o:=0) (vs:=[(vi (x0.C3.z7.n:Int)),(vi (x0.C3.E9.n:Int))]) (nb rfl) rfl))) ?_)
  refine c7 (Pu.g λa=>by with_reducible exact (a9O _ _)) ?_
  refine c7 (Pu.g λa=>by simp only [p6 a];with_reducible exact (b6j _ _ _ _ _ _)) ?_
  exact c7 (M3 _ _) (hR _ H _ _ b.drop.drop ⟨_,rfl,rfl,h⟩)
 ·refine c7 a3H (c7 a8v (d7 (l1 isAgg3 (b.bring 1) rfl) (c7 pNe ?_)))
  refine a1L h (λ_ h=>?_) (λ_ h=>?_)
  ·exact hr1 hR b.drop.drop h
  ·refine c7 a3H (c7 a8t (d7 (l1 isAgg3 (b.bring 1) rfl) ?_))
   have hj1:∀aa H w,Inv w0 ps0 H0 H [bx c 302 [(vi (C7.mk (x0.C3.z7.n:Int) (x0.C3.E9.n:Int)).fexprs),(vi (C7.mk (x0.C3.z7.n:Int) (x0.C3.E9.n:Int)).fparts)],bx e 300 (l7 x0.C3)] w->a0q x0.C3.d9 aa (C7.mk (x0.C3.z7.n:Int) (x0.C3.E9.n:Int)) x0 H K->c9G (pt c) (vi x0.C3.d9) (vB aa) w R E:=by
    intro aa H w I h
    intro _
    refine t6 h (λ_ h=>?_) (λ_ h=>?_)
    ·refine d7 (ldA isAgg302 sizeOf302 rfl (I.at1 (o:=0) (vs:=[(vi (C7.mk (x0.C3.z7.n:Int) (x0.C3.E9.n:Int)).fexprs),(vi (C7.mk (x0.C3.z7.n:Int) (x0.C3.E9.n:Int)).fparts)]) (nb rfl) rfl)) (c7 (d0L) (c7 (b6j _ _ _ _ _ _) ?_))
     exact hr1 hR I.drop.drop h
    ·refine c7 pEq (j7 h (λ_ h=>?_) (λ_ h=>?_))
     ·refine d7 (ldA isAgg302 sizeOf302 rfl (I.at1 (o:=0) (vs:=[(vi (C7.mk (x0.C3.z7.n:Int) (x0.C3.E9.n:Int)).fexprs),(vi (C7.mk (x0.C3.z7.n:Int) (x0.C3.E9.n:Int)).fparts)]) (nb rfl) rfl)) (c7 (a9O _ _) (c7 (b6j _ _ _ _ _ _) ?_))
      exact hr1 hR I.drop.drop h
     ·have hj2:∀ab H w,Inv w0 ps0 H0 H [bx c 302 [(vi (C7.mk (x0.C3.z7.n:Int) (x0.C3.E9.n:Int)).fexprs),(vi (C7.mk (x0.C3.z7.n:Int) (x0.C3.E9.n:Int)).fparts)],bx e 300 (l7 x0.C3)] w->a0p ab (C7.mk (x0.C3.z7.n:Int) (x0.C3.E9.n:Int)) x0 H K->c9F (pt c) (vB ab) w R E:=by
       intro ab H w I h
       intro _
       refine t6 h (λ_ h=>?_) (λ_ h=>?_)
       ·refine d7 (ldA isAgg302 sizeOf302 rfl (I.at1 (o:=0) (vs:=[(vi (C7.mk (x0.C3.z7.n:Int) (x0.C3.E9.n:Int)).fexprs),(vi (C7.mk (x0.C3.z7.n:Int) (x0.C3.E9.n:Int)).fparts)]) (nb rfl) rfl)) (c7 (a9O _ _) (c7 (b6j _ _ _ _ _ _) ?_))
        exact hr1 hR I.drop.drop h
       ·exact hr1 hR I.drop.drop h
      refine u7 λj2 hx2=>c7 pEq (j7 h (λ_ h=>?_) (λ_ h=>?_))
      ·exact hx2 _ _ (hj2 _ H _ ((I.bring 1).bring 1) h)
      ·exact c7 pEq (hx2 _ _ (hj2 _ H _ ((I.bring 1).bring 1) h))
   refine u7 λj1 hx1=>c7 pEq (j7 h (λ_ h=>?_) (λ_ h=>?_))
   ·exact hx1 _ _ (hj1 _ H _ ((b.bring 1).bring 1) h)
   ·exact c7 pEq (hx1 _ _ (hj1 _ H _ ((b.bring 1).bring 1) h))
end Go.Proofs.YthjlehnccgjpoaaGreatDoor
