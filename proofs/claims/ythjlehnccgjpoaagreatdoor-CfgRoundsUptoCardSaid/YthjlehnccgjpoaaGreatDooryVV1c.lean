/- Lemmas. -/
import Derived.Test.YthjlehnccgjpoaaGreatDooryVV1
namespace Go.Proofs.YthjlehnccgjpoaaGreatDoor
open Tryz Go.RowKit
set_option maxRecDepth 100000
set_option maxHeartbeats 2000000
def b1u(x0)(H)(K:KT j8):=
 K (j8.T7 (a1z.mk x0)) H
theorem b8i(x0){H K}(h:b1u x0 H K):b1k x0 H K:=by
 refine Ct.of λw0 w ps0 H0 R E I hR=>e3t (D3 I rfl λb c a d=>?_)
 refine d7 (lW isAgg65 sizeOf65 rfl a) (c7 (c6m _ _) (c7 (c3K (a1z.mk x0)) ?_))
 exact hr1 hR a.drop h
def b3e(x0:j8)(H)(K:BA->Bool->Hp->Prop):=
 (x0.a9E=true->
 K x0.a5c.a2W.o7 true H)/\
 (x0.a9E=false->
 (x0.a9F=true->
 K x0.D5.t8.o7 ((decide (x0.D5.t8.d9=1))||(decide (x0.D5.t8.d9=2))) H)/\
 (x0.a9F=false->
 (x0.a9G=true->
 K x0.O8.C8.o7 ((decide (x0.O8.C8.d9=2))||(decide (x0.O8.C8.d9=4))) H)/\
 (x0.a9G=false->
 K ⟨#[]⟩ false H)))
theorem b9u(x0){H K}(h:b3e x0 H K):a3W x0 H K:=by
 refine Ct.of λw0 w ps0 H0 R E I hR=>d9y (c7 (c5m x0) (c7 (m7 _ _ (vB x0.a9E) rfl) (c7 (m7 _ _ _ rfl) ?_)))
 refine t6 h (λ_ h=>?_) (λ_ h=>?_)
 ·refine r8 I zeroValue200 (cs:=[(eS),(vi 0)]) rfl λn o e q=>v8 e sizeOf200 (vs:=[(wS x0.a5c.a2W.o7),(vi x0.a5c.a2W.D2)]) λr d s=>c7 b6D (c7 a3F (d7 (l1 isAgg9 d rfl) ?_))
  exact hR _ H _ _ d.drop ⟨x0.a5c.a2W.o7,true,rfl,rfl,h⟩
 ·refine c7 (c5n x0) (c7 (m7 _ _ (vB x0.a9F) rfl) (c7 (m7 _ _ _ rfl) ?_))
  refine t6 h (λ_ h=>?_) (λ_ h=>?_)
  ·refine r8 I zeroValue202 (cs:=[(vi 0),(eS),(nS),(nS),(nS),(nS)]) rfl λf t i u=>v8 i sizeOf202 (vs:=[(vi x0.D5.t8.d9),(wS x0.D5.t8.o7),(vs x0.D5.t8.z7),(vs x0.D5.t8.D4),(vs x0.D5.t8.T5),(vs x0.D5.t8.T6)]) λv j y=>L6 j λz b=>g8 V0 (g8 a2j ?_)
   refine g8 V0 (g8 a1d ?_)
   refine s7 (l1 isAgg9 b rfl) (s7 (l1 isAgg3 b rfl) ?_)
   refine g8 pEq (g8 (Pu.g λa=>by with_reducible exact V0) ?_)
   refine g8 (Pu.g λa=>by simp only [p6 a];with_reducible exact a1d) ?_
   refine a2E (p:=(pt f)) rfl (Ld.g λa=>by simp only [p6 a];exact (l1 isAgg3 b rfl)) ?_
   refine g8 (Pu.g λa=>by simp only [p6 a];with_reducible exact pEq) ?_
   exact g8 (M6 _ _) (hR _ H _ _ b.drop ⟨x0.D5.t8.o7,((decide (x0.D5.t8.d9=1))||(decide (x0.D5.t8.d9=2))),rfl,rfl,h⟩)
  ·refine c7 (c5o x0) (c7 (m7 _ _ (vB x0.a9G) rfl) (c7 (m7 _ _ _ rfl) ?_))
   refine t6 h (λ_ h=>?_) (λ_ h=>?_)
   ·refine r8 I zeroValue253 (cs:=[(vi 0),(vi 0),(eS),(nS)]) rfl λk aa l ab=>v8 l sizeOf253 (vs:=[(vi x0.O8.C8.d9),(vi x0.O8.C8.A6),(wS x0.O8.C8.o7),(vs x0.O8.C8.L8)]) λac m ad=>L6 m λae c=>g8 a2e (g8 a4Y ?_)
    refine g8 a2e (g8 W7 ?_)
    refine s7 (l1 isAgg9 c rfl) (s7 (l1 isAgg3 c rfl) ?_)
    refine g8 pEq (g8 (Pu.g λa=>by with_reducible exact a2e) ?_)
    refine g8 (Pu.g λa=>by simp only [p6 a];with_reducible exact W7) ?_
    refine a2E (p:=(pt k)) rfl (Ld.g λa=>by simp only [p6 a];exact (l1 isAgg3 c rfl)) ?_
    refine g8 (Pu.g λa=>by simp only [p6 a];with_reducible exact pEq) ?_
    exact g8 (M6 _ _) (hR _ H _ _ c.drop ⟨x0.O8.C8.o7,((decide (x0.O8.C8.d9=2))||(decide (x0.O8.C8.d9=4))),rfl,rfl,h⟩)
   ·exact hR _ H _ _ I ⟨⟨#[]⟩,false,rfl,rfl,h⟩
def b4n(x0:BA)(H)(K:KT Bool):=
 a1M x0 H (λa b=>
 K (decide (32 < a)) b)
theorem c0W(x0){H K}(h:b4n x0 H K):a6o x0 H K:=by
 refine Ct.of λw0 w ps0 H0 R E I hR=>d9J (oc1 call178 h I λc a d b h=>?_)
 exact c7 pGt (hR _ a _ _ b ⟨_,rfl,rfl,h⟩)
def V4(d:Int)(e:Int)(f:Int)(g:Bool)(i:Bool)(j:(List BA))(H)(K:KT v6):=
 ∀(a:Sl)(b:Hp),Hle H b->SlH b 1 v7 a j->a.n<=a.c->
 K (v6.mk d e f g i a) b
def b1v(x0)(H)(K:KT v6):=
 a1w x0 1 (v6.mk 0 0 0 false false sN) [] H (λd a b c=>
 ((!d)=true->
 V4 a.fnodes a.fdepth a.fe a.fform a.fnamed b c K)/\
 ((!d)=false->
 (a.fform=true->
 V4 a.fnodes a.fdepth 30 a.fform a.fnamed b c K)/\
 (a.fform=false->
 (a.fnamed=true->
 V4 a.fnodes a.fdepth 31 a.fform a.fnamed b c K)/\
 (a.fnamed=false->
 V4 a.fnodes a.fdepth a.fe a.fform a.fnamed b c K))))
theorem b8j(x0){H K}(h:b1v x0 H K):a7x x0 H K:=by
 refine Ct.of λw0 w ps0 H0 R E I hR=>e3n (c7 (d0F) ?_)
 refine D3 I rfl λd aj y ak=>r8 y zeroValue107 rfl λc al z am=>v8 z sizeOf107 (vs:=[(pt d)]) λan aa ao=>r8 aa zeroValue194 rfl λf ap ab aq=>c7 (Q7 _ _ _) (v8 ab sizeOf194 (vs:=[(Value.func (.func 108) #[] #[(pt c),(pt f)])]) λar u au=>?_)
 have hj1:∀i j k l m s g t H w,RowL 9 1 v7 g s t->Inv w0 ps0 H0 H [bx c 107 [(pt d)],bx d 106 [(vi i),(vi j),(vi k),(vB l),(vB m),(vs g)],bx f 194 [(Value.func (.func 108) #[] #[(pt c),(pt f)])],t] w->V4 i j k l m s H K->d3a (pt c) w R E:=by
  intro i j k l m s g t H w ac I h
  intro _
  refine d7 (l1 isAgg107 I rfl) ?_
  obtain ⟨v,ad,ae,af,ag⟩:=Inv.freezeC (I.bring 3) ac (by decide)
  replace h:=h g v ae af ag
  exact hR _ v _ _ (ad.drop.bring 1).drop ⟨_,d,rfl,rfl,h⟩
 refine u7 λj1 hx1=>d7 (l1 isAgg194 u rfl) (a7R (cap:=[(pt c),(pt f)]) call108 (h c d f sN ([]) (RowL.nil (e:=9) N6 N7)) ((((u.nil.bring 1).bring 1).bring 3).bring 3) ?_)
 rintro _ n _ av b _ _ ⟨aw,a,o,p,q,rfl,rfl,r,h⟩
 refine c7 (R5 _) (t6 h (λ_ h=>?_) (λ_ h=>?_))
 ·exact hx1 _ _ (hj1 _ _ _ _ _ o p q n _ r ((((b.bring 2).bring 3).bring 3).bring 3) h)
 ·refine d7 (l1 isAgg107 b rfl) (c7 (t7 _) (c7 b6A (d7 (l1 isAgg4 (b.bring 1) rfl) ?_)))
  refine t6 h (λ_ h=>?_) (λ_ h=>?_)
  ·refine d7 (l1 isAgg107 b rfl) (c7 (t7 _) (c7 b0r ?_))
   exact K0 (b.bring 1) sizeOf32 λax ah ay=>hx1 _ _ (hj1 _ _ _ _ _ o p q n _ r ((((ah.bring 2).bring 3).bring 2).bring 3) h)
  ·refine d7 (l1 isAgg107 b rfl) (c7 (t7 _) (c7 b6B (d7 (l1 isAgg4 (b.bring 1) rfl) ?_)))
   refine t6 h (λ_ h=>?_) (λ_ h=>?_)
   ·refine d7 (l1 isAgg107 b rfl) (c7 (t7 _) (c7 b0r ?_))
    exact K0 (b.bring 1) sizeOf32 λaz ai ba=>hx1 _ _ (hj1 _ _ _ _ _ o p q n _ r ((((ai.bring 2).bring 3).bring 2).bring 3) h)
   ·exact hx1 _ _ (hj1 _ _ _ _ _ o p q n _ r ((((b.bring 2).bring 3).bring 3).bring 3) h)
def a3v(H)(K:KT Bool):=
 K true H
def a6H(aa:Sl)(ab:Sl)(Q5:Int)(H)(n2:KT Int)(K:KT Bool):=
 (Q5 < (aa.n:Int)->
 (0:Int)<=Q5/\(Q5:Int) < aa.n/\∃a:BA,EltH H aa Q5 1 [(wS a)]/\
 (0:Int)<=Q5/\(Q5:Int) < ab.n/\∃b:BA,EltH H ab Q5 1 [(wS b)]/\
 (¬(a=b)->
 K false H)/\
 (a=b->
 n2 (IntKind.wrap .i64 (Q5+1)) H))/\
 (¬(Q5 < (aa.n:Int))->
 a3v H K)
def a8F(x0:Sl)(x1:Sl)(H)(K:KT Bool):=
 (¬((x0.n:Int)=(x1.n:Int))->
 K false H)/\
 ((x0.n:Int)=(x1.n:Int)->
 TL (0:Int) H λ(s:Int) H n2=>a6H x0 x1 s H n2 K)
theorem b4H(x0 x1){H K}(h:a8F x0 x1 H K):a4K x0 x1 H K:=by
 refine Ct.of λw0 w ps0 H0 R E I hR=>e2r (c7 (a3T _ _ _) (c7 (a3T _ _ _) (c7 pNe ?_)))
 refine a1L h (λ_ h=>?_) (λ_ h=>?_)
 ·exact hr1 hR I h
 ·have hj1:∀H w,Inv w0 ps0 H0 H [] w->a3v H K->d2H w R E:=by
   intro H w I h
   intro _
   exact hr1 hR I h
  refine u7 λj1 hx1=>a2f (σ:=Int) (λQ5=>[(vi Q5)]) (λQ5=>[]) h rfl I ?_
  rintro Q5 H n w next2 n2 d I h hn2
  have d:=lE1 d
  have e5:=d
  simp only [e5]
  refine c7 (a3T _ _ _) (c7 pLs ?_)
  refine j7 h (λ_ h=>?_) (λ_ h=>?_)
  ·refine L6 I λo a=>?_
   obtain ⟨e,f,g,b,h⟩:=h
   obtain ⟨p,q,i,b⟩:=b
   refine g8 (b2h i _ _ _ _ e f) ?_
   obtain ⟨j,k,l,c,h⟩:=h
   obtain ⟨r,s,m,c⟩:=c
   refine g8 (b2h m _ _ _ _ j k) (s7 (ld1 (v:=(wS g)) isAgg9 (a.atH b)) ?_)
   refine s7 (ld1 (v:=(wS l)) isAgg9 (a.atH c)) (g8 (d2a _ _ _ _ _) ?_)
   refine a1L h (λ_ h=>?_) (λ_ h=>?_)
   ·exact hr1 hR a h
   ·exact c7 pAd (hn2 (IntKind.wrap .i64 (Q5+1)) _ _ h a)
  ·exact hx1 _ _ (hj1 H _ I h)
def a3w(H)(K:KT Bool):=
 K true H
def a6I(aa:Sl)(ab:Sl)(Q5:Int)(H)(n2:KT Int)(K:KT Bool):=
 (Q5 < (aa.n:Int)->
 (0:Int)<=Q5/\(Q5:Int) < aa.n/\∃a:j9,EltH H aa Q5 2 (q6 a)/\
 (0:Int)<=Q5/\(Q5:Int) < ab.n/\∃b:j9,EltH H ab Q5 2 (q6 b)/\
 (¬(a.o7=b.o7/\a.D2=b.D2)->
 K false H)/\
 (a.o7=b.o7/\a.D2=b.D2->
 n2 (IntKind.wrap .i64 (Q5+1)) H))/\
 (¬(Q5 < (aa.n:Int))->
 a3w H K)
def a8G(x0:Sl)(x1:Sl)(H)(K:KT Bool):=
 (¬((x0.n:Int)=(x1.n:Int))->
 K false H)/\
 ((x0.n:Int)=(x1.n:Int)->
 TL (0:Int) H λ(s:Int) H n2=>a6I x0 x1 s H n2 K)
theorem b4I(x0 x1){H K}(h:a8G x0 x1 H K):a4L x0 x1 H K:=by
 refine Ct.of λw0 w ps0 H0 R E I hR=>e2t (c7 (a3U _ _ _) (c7 (a3U _ _ _) (c7 pNe ?_)))
 refine a1L h (λ_ h=>?_) (λ_ h=>?_)
 ·exact hr1 hR I h
 ·have hj1:∀H w,Inv w0 ps0 H0 H [] w->a3w H K->d2I w R E:=by
   intro H w I h
   intro _
   exact hr1 hR I h
  refine u7 λj1 hx1=>a2f (σ:=Int) (λQ5=>[(vi Q5)]) (λQ5=>[]) h rfl I ?_
  rintro Q5 H n w next2 n2 d I h hn2
  have d:=lE1 d
  have e5:=d
  simp only [e5]
  refine c7 (a3U _ _ _) (c7 pLs ?_)
  refine j7 h (λ_ h=>?_) (λ_ h=>?_)
  ·refine L6 I λo a=>?_
   obtain ⟨e,f,g,b,h⟩:=h
   obtain ⟨p,q,i,b⟩:=b
   refine g8 (a5l i _ _ _ _ e f) ?_
   obtain ⟨j,k,l,c,h⟩:=h
   obtain ⟨r,s,m,c⟩:=c
   refine g8 (a5l m _ _ _ _ j k) (s7 (ldA (vs:=(q6 g)) isAgg65 sizeOf65 rfl (a.atH b)) ?_)
   refine s7 (ldA (vs:=(q6 l)) isAgg65 sizeOf65 rfl (a.atH c)) (g8 (d5n _ _ _ _ _ _) ?_)
   refine a1L h (λ_ h=>?_) (λ_ h=>?_)
   ·exact hr1 hR a h
   ·exact c7 pAd (hn2 (IntKind.wrap .i64 (Q5+1)) _ _ h a)
  ·exact hx1 _ _ (hj1 H _ I h)
def b5u(x0:Bool)(x1:Bool)(x2:Bool)(H)(K:KT Bool):=
 (x0=true->
 K x1 H)/\
 (x0=false->
 K x2 H)
theorem c1E(x0 x1 x2){H K}(h:b5u x0 x1 x2 H K):a1N x0 x1 x2 H K:=by
 refine Ct.of λw0 w ps0 H0 R E I hR=>e2B (t6 h (λ_ h=>?_) (λ_ h=>?_))
 ·exact hr1 hR I h
 ·exact hr1 hR I h
def a9n(x0:p8)(x1:Int)(H)(K:KT Bool):=
 K ((decide (0<=x1))&&(decide (x1 < (x0.C2.C1.n:Int)))) H
theorem b5v(x0 x1){H K}(h:a9n x0 x1 H K):a5n x0 x1 H K:=by
 refine Ct.of λw0 w ps0 H0 R E I hR=>e2D (D3 I rfl λc d b e=>?_)
 refine c7 pGe ?_
 simp only [K6]
 refine c7 (Pu.g λa=>by with_reducible exact b1g) ?_
 refine c7 (Pu.g λa=>by simp only [p6 a];with_reducible exact b1e) ?_
 refine d7 (Ld.g λa=>by simp only [p6 a];exact (l1 isAgg22 b rfl)) ?_
 refine c7 (Pu.g λa=>by simp only [p6 a];with_reducible exact (a3U _ _ _)) ?_
 refine c7 (Pu.g λa=>by simp only [p6 a];with_reducible exact pLs) ?_
 exact c7 (M3 _ _) (hR _ H _ _ b.drop ⟨_,rfl,rfl,h⟩)
def a1R(_:Int)(ab:Int)(a:(List Int))(_:(List Bool))(_:Sl)(_:s6)(H)(n2:KT (Int×(List Int)))(_:Sl->Int->Hp->Prop):=
 n2 ((IntKind.wrap .i64 (ab+1)),a) H
def a6J(_:(List Bool))(_:Sl)(_:s6)(d:(List Int))(H)(K:Sl->Int->Hp->Prop):=
 ∀(a:Sl)(b:Hp),Hle H b->SlH b 1 K4 a d->a.n<=a.c->
 K a 0 b
def a6K(aa:Int)(a:(List Bool))(c)(d)(ab:Int)(b:(List Int))(H)(n2:KT (Int×(List Int)))(K:Sl->Int->Hp->Prop):=
 (ab < aa->
 (0:Int)<=ab/\∃e:Bool,(a)[(ab:Int).toNat]? = some e/\
 ((!e)=true->
 (b.length+([ab]:List Int).length)*9<=140737488355328/\
 a1R aa ab (b++[ab]) a c d H n2 K)/\
 ((!e)=false->
 a1R aa ab b a c d H n2 K))/\
 (¬(ab < aa)->
 a6J a c d b H K)
def b3f(x0:s6)(H)(K:Sl->Int->Hp->Prop):=
 a1Q x0 H (λa b=>
 (¬(a=0)->
 K sN a b)/\
 (a=0->
 a6r x0 b (λc d=>
 (0:Int)<=x0.i7/\x0.i7*2<=140737488355328/\
 a4N 0 sN (List.replicate (x0.i7:Int).toNat false) c x0 sN [] d (λ_ y0__71 _ y1__71 e=>
 a5p y1__71 e (λf g=>
 TL ((0,f):Int×(List Int)) g λ(s:Int×(List Int)) H n2=>a6K x0.i7 y0__71 c x0 s.1 s.2 H n2 K)))))
theorem b9v(x0){H K}(h:b3f x0 H K):a9a x0 H K:=by
 refine Ct.of λw0 w ps0 H0 R E I hR=>e2c (D3 I rfl λi cc ag cd=>?_)
 refine d7 (lW isAgg31 sizeOf31 rfl ag) (oc1 call7 h ag λau ar ce aa h=>?_)
 refine c7 pNe (a1L h (λ_ h=>?_) (λ_ h=>?_))
 ·exact hR _ ar _ _ aa.drop ⟨_,_,rfl,rfl,h⟩
 ·refine d7 (lW isAgg31 sizeOf31 rfl aa) (oc1 call20 h aa λm cf cg av h=>?_)
  refine r8 av zeroValue74 rfl λj ch aw ci=>v8 aw sizeOf74 (vs:=[(vs m)]) λcj ah ck=>c7 O6 (d7 (l1 isAgg3 (ah.bring 1) rfl) ?_)
  obtain ⟨ax,ay,h⟩:=h
  refine c6b ah ax ay λai az cl ba bb cm=>r8 bb zeroValue38 rfl λg cn bc co=>v8 bc sizeOf38 (vs:=[(vs ai)]) λcp bd cq=>r8 bd zeroValue26 rfl λf cr be ct=>r8 be zeroValue96 rfl λk cu bf cv=>c7 (Q7 _ _ _) (v8 bf sizeOf96 (vs:=[(Value.func (.func 33) #[] #[(pt g),(pt j),(pt i),(pt k),(pt f)])]) λcw aj cx=>?_)
  refine d7 (l1 isAgg96 aj rfl) (a7R (cap:=[(pt g),(pt j),(pt i),(pt k),(pt f)]) call33 (h g j i k f ai az sN ([]) ba (RowL.nil (e:=3) a3k a3l)) ((((((aj.nil.bring 2).bring 2).bring 6).bring 6).bring 6).bring 6) ?_)
  rintro _ _ _ cy ak _ _ ⟨cz,y0__71,da,y1__71,sy0__71,Fy0__71,sy1__71,Fy1__71,rfl,rfl,hy0__71,hy1__71,h⟩
  refine d7 (l1 isAgg26 (ak.bring 5) rfl) (f7 call34 (h sy1__71 Fy1__71 hy1__71) (ak.bring 6) ?_)
  rintro _ bg _ db al _ _ ⟨bh,bi,rfl,rfl,bj,h⟩
  have hj1:∀ab p ac H w,RowL 3 1 K4 p ab ac->Inv w0 ps0 H0 H [bx g 38 [(vs sy0__71)],bx j 74 [(vs m)],bx i 31 (r9 x0),bx k 96 [(Value.func (.func 33) #[] #[(pt g),(pt j),(pt i),(pt k),(pt f)])],bx f 26 [(vs p)],Fy0__71,ac] w->a6J y0__71 m x0 ab H K->d2B (pt f) w R E:=by
   intro ab p ac H w bk I h
   intro _
   refine d7 (l1 isAgg26 (I.bring 4) rfl) ?_
   obtain ⟨am,bl,bm,bn,bo⟩:=Inv.freezeC (I.bring 6) bk (by decide)
   replace h:=h p am bm bn bo
   exact hR _ am _ _ bl.drop.drop.drop.drop.drop.drop ⟨p,0,rfl,rfl,h⟩
  refine u7 λj1 hx1=>c7 O6 (d7 (l1 isAgg3 (al.bring 4) rfl) ?_)
  obtain ⟨ad,q,bp,bq⟩:=h
  refine G6 (J:=λn l w=>∃(s:Int×(List Int))(H:Hp)(o:Sl)(r:Frag),n=q s/\l=(match s with | (cs,d)=>[(vi cs)])/\(match s with | (cs,d)=>RowL 3 1 K4 o d r)/\(match s with | (cs,d)=>Inv w0 ps0 H0 H [bx g 38 [(vs sy0__71)],bx j 74 [(vs m)],bx i 31 (r9 x0),bx k 96 [(Value.func (.func 33) #[] #[(pt g),(pt j),(pt i),(pt k),(pt f)])],bx f 26 [(vs o)],Fy0__71,r] w)/\ad s H) ⟨_,(0,bh),bg,sy1__71,bi,rfl,rfl,bj,((((((al.bring 2).bring 6).bring 6).bring 6).bring 6).bring 6),bp⟩ ?_
  rintro dc dd w next2 ⟨⟨cs,d⟩,H,o,r,rfl,ae,t,I,br⟩ hn2
  have ae:=lE1 ae
  have e27:=ae
  simp only [e27]
  obtain ⟨n2,hm2,h⟩:=tlA (B:=λn2=>a6K x0.i7 y0__71 m x0 cs d H n2 K) (bq (cs,d) H) br
  refine c7 pLs (j7 h (λ_ h=>?_) (λ_ h=>?_))
  ·have hj3:∀u y z H w,RowL 3 1 K4 y u z->Inv w0 ps0 H0 H [bx f 26 [(vs y)],bx g 38 [(vs sy0__71)],bx j 74 [(vs m)],bx i 31 (r9 x0),bx k 96 [(Value.func (.func 33) #[] #[(pt g),(pt j),(pt i),(pt k),(pt f)])],Fy0__71,z] w->a1R x0.i7 cs u y0__71 m x0 H n2 K->d2C (pt g) (pt f) (vi x0.i7) (vi cs) w next2 R E:=by
    intro u y z H w bs I h
    intro _
    exact c7 pAd (hn2 _ _ _ (hm2 _ _ h).2 ⟨((IntKind.wrap .i64 (cs+1)),u),H,y,z,rfl,rfl,bs,(((((((I.bring 6).bring 6).bring 2).bring 6).bring 6).bring 6).bring 6),(hm2 _ _ h).1⟩)
   refine u7 λj3 hx3=>d7 (l1 isAgg38 I rfl) ?_
   obtain ⟨an,bt,af,h⟩:=h
   obtain ⟨de,df,ao,dg⟩:=hy0__71.addr af
   refine c7 (a8Y ao _ _ _ _ an (hy0__71.lt an af)) (d7 (ld1 (v:=(vB bt)) isAgg4 (hy0__71.atW (I.bring 5) ao af)) (c7 (R5 _) ?_))
   refine t6 h (λ_ h=>?_) (λ_ h=>?_)
   ·refine d7 (l1 isAgg26 (I.bring 4) rfl) (O0 (e:=3) (c:=K4) (xs:=[cs]) I (b2g _) rfl rfl a3k a3l (nb rfl) λdh di dj bu ap dk=>?_)
    obtain ⟨bv,h⟩:=h
    exact b6Q (s:=o) (xs:=d) (ap.bring 7) t (bu.srcO ((ap.bring 7).bring 1)) bv λaq bw dl bz ca dm=>v8 ((ca.bring 1).drop.bring 5) sizeOf26 (vs:=[(vs aq)]) λdn cb dp=>hx3 _ _ (hj3 _ _ _ H _ bz (((((((cb.bring 1).bring 6).bring 6).bring 6).bring 6).bring 6).bring 6) h)
   ·exact hx3 _ _ (hj3 d o r H _ t (((((((I.bring 6).bring 6).bring 5).bring 5).bring 5).bring 5).bring 6) h)
  ·exact hx1 _ _ (hj1 d o r H _ t (((((((I.bring 6).bring 6).bring 6).bring 6).bring 6).bring 6).bring 6) h)
def a1S(_:(List Bool))(ab:(List Int))(_:Int)(ae:Int)(_:s6)(H)(n4:KT ((List Int)×Int))(_:Sl->Int->Hp->Prop):=
 n4 (ab,(IntKind.wrap .i64 (ae+1))) H
def a6L(aa:(List Int))(_:s6)(H)(K:Sl->Int->Hp->Prop):=
 ∀(ab:Sl)(a:Hp),Hle H a->SlH a 1 K4 ab aa->ab.n<=ab.c->
 K ab 0 a
def a6M(aa:(List Bool))(ab:Int)(a)(ad:(List Int))(ae:Int)(H)(n4:KT ((List Int)×Int))(K:Sl->Int->Hp->Prop):=
 (ae < ab->
 (0:Int)<=ae/\∃b:Bool,(aa)[(ae:Int).toNat]? = some b/\
 (b=true->
 (ad.length+([ae]:List Int).length)*9<=140737488355328/\
 a1S aa (ad++[ae]) ab ae a H n4 K)/\
 (b=false->
 a1S aa ad ab ae a H n4 K))/\
 (¬(ae < ab)->
 a6L ad a H K)
def a6N(aa:(List Bool))(a:s6)(H)(K:Sl->Int->Hp->Prop):=
 TL (([],0):(List Int)×Int) H λ(s:(List Int)×Int) H n4=>a6M aa a.i7 a s.1 s.2 H n4 K
def a6O(aa:(List Int))(ab:Sl)(ad:Int)(e)(ae:(List Bool))(ag:Int)(H)(n6:KT ((List Bool)×Int))(K:Sl->Int->Hp->Prop):=
 (ag < ad->
 (0:Int)<=ag/\(ag:Int) < ab.n/\∃a:d8,EltH H ab ag 10 (p7 a)/\
 (0:Int)<=a.fTo/\∃b:Bool,(ae)[(a.fTo:Int).toNat]? = some b/\
 ∃c:Int,(b=false->(0:Int)<=a.D6/\(aa)[(a.D6:Int).toNat]? = some c)/\
 ∃d:Int,(b=false->(0:Int)<=a.fTo/\(aa)[(a.fTo:Int).toNat]? = some d)/\
 (0:Int)<=a.fTo/\∃f:Bool,(ae)[(a.fTo:Int).toNat]? = some f/\
 n6 ((ae.set (a.fTo:Int).toNat (b||(decide (d<=c)))),(IntKind.wrap .i64 (ag+1))) H)/\
 (¬(ag < ad)->
 a6N ae e H K)
def a6P(aa:(List Int))(a:s6)(H)(K:Sl->Int->Hp->Prop):=
 (0:Int)<=a.i7/\a.i7*2<=140737488355328/\
 TL (((List.replicate (a.i7:Int).toNat false),0):(List Bool)×Int) H λ(s:(List Bool)×Int) H n6=>a6O aa a.E1 (a.E1.n:Int) a s.1 s.2 H n6 K
def a6Q(aa:Sl)(ab:Int)(b)(ad:(List Int))(ae:Int)(H)(n7:KT ((List Int)×Int))(K:Sl->Int->Hp->Prop):=
 (ae < ab->
 (0:Int)<=ae/\(ae:Int) < aa.n/\∃a:Int,EltH H aa ae 1 [(vi a)]/\
 (0:Int)<=a/\∃c:Int,(ad)[(a:Int).toNat]? = some c/\
 n7 ((ad.set (a:Int).toNat ae),(IntKind.wrap .i64 (ae+1))) H)/\
 (¬(ae < ab)->
 a6P ad b H K)
def b3g(x0:s6)(H)(K:Sl->Int->Hp->Prop):=
 a1Q x0 H (λa b=>
 (¬(a=0)->
 K sN a b)/\
 (a=0->
 a9a x0 b (λc _ d=>
 (0:Int)<=x0.i7/\x0.i7*9<=140737488355328/\
 TL (((List.replicate (x0.i7:Int).toNat 0),0):(List Int)×Int) d λ(s:(List Int)×Int) H n7=>a6Q c (c.n:Int) x0 s.1 s.2 H n7 K)))
theorem b9x(x0){H K}(h:b3g x0 H K):a9b x0 H K:=by
 refine Ct.of λw0 w ps0 H0 R E I hR=>e5Y (D3 I rfl λk dg ao dh=>?_)
 refine d7 (lW isAgg31 sizeOf31 rfl ao) (oc1 call7 h ao λbh bg di z h=>?_)
 refine c7 pNe (a1L h (λ_ h=>?_) (λ_ h=>?_))
 ·exact hR _ bg _ _ z.drop ⟨_,_,rfl,rfl,h⟩
 ·refine d7 (lW isAgg31 sizeOf31 rfl z) (f7 call16 h z ?_)
  rintro _ bi _ dj ap _ _ ⟨aq,bj,rfl,rfl,h⟩
  refine c7 (m7 _ _ _ rfl) (c7 (m7 _ _ (vi bj) rfl) (c7 O6 (d7 (l1 isAgg3 ap rfl) ?_)))
  obtain ⟨bk,bl,h⟩:=h
  refine e1E ap bk bl λaa bm dk bn bo dl=>?_
  have hj1:∀cs Fs7j1 H w,RowL 3 1 K4 aa cs Fs7j1->Inv w0 ps0 H0 H [bx k 31 (r9 x0),Fs7j1] w->a6P cs x0 H K->d7n (pt k) (vs aa) w R E:=by
   intro cs Fs7j1 H w fd I h
   intro _
   refine c7 O6 (d7 (l1 isAgg3 I rfl) ?_)
   obtain ⟨bp,bq,h⟩:=h
   refine c6b I bp bq λy br dm bs ar dn=>?_
   have hj2:∀ff Fs10j2 H w,RowL 4 1 a5S y ff Fs10j2->Inv w0 ps0 H0 H [bx k 31 (r9 x0),Fs10j2] w->a6N ff x0 H K->d7m (pt k) (vs y) w R E:=by
    intro ff Fs10j2 H w fg I h
    intro _
    have hj3:∀fh fi Fs13j3 H w,RowL 3 1 K4 fi fh Fs13j3->Inv w0 ps0 H0 H [bx k 31 (r9 x0),Fs13j3] w->a6L fh x0 H K->d7k (vs fi) w R E:=by
     intro fh fi Fs13j3 H w fj I h
     intro _
     obtain ⟨au,bt,bu,bv,bw⟩:=Inv.freezeC (I.bring 1) fj (by decide)
     replace h:=h fi au bu bv bw
     exact hR _ au _ _ bt.drop ⟨_,0,rfl,rfl,h⟩
    refine u7 λj3 hx3=>c7 O6 (d7 (l1 isAgg3 I rfl) ?_)
    obtain ⟨ab,q,bz,ca⟩:=h
    refine G6 (J:=λn l w=>∃(s:(List Int)×Int)(H:Hp)(fk:Sl)(Fs13l4:Frag),n=q s/\l=(match s with | (fm,fo)=>[(vs fk),(vi fo)])/\(match s with | (fm,fo)=>RowL 3 1 K4 fk fm Fs13l4)/\(match s with | (fm,fo)=>Inv w0 ps0 H0 H [bx k 31 (r9 x0),Fs10j2,Fs13l4] w)/\ab s H) ⟨_,([],0),H,sN,[],rfl,rfl,(RowL.nil a3k a3l),((I.nil.bring 2).bring 2),bz⟩ ?_
    rintro dp dq w next4 ⟨⟨fm,fo⟩,H,fk,Fs13l4,rfl,ac,fp,I,cb⟩ hn4
    obtain ⟨e13,e75⟩:=lE2 ac
    simp only [e13,e75]
    obtain ⟨n4,hm4,h⟩:=tlA (B:=λn4=>a6M ff x0.i7 x0 fm fo H n4 K) (ca (fm,fo) H) cb
    refine c7 pLs (j7 h (λ_ h=>?_) (λ_ h=>?_))
    ·have hj5:∀fq fr Fs13j5 H w,RowL 3 1 K4 fr fq Fs13j5->Inv w0 ps0 H0 H [bx k 31 (r9 x0),Fs10j2,Fs13j5] w->a1S ff fq x0.i7 fo x0 H n4 K->d7l (vs y) (vs fr) (vi x0.i7) (vi fo) w next4 R E:=by
      intro fq fr Fs13j5 H w ft I h
      intro _
      exact c7 pAd (hn4 _ _ _ (hm4 _ _ h).2 ⟨(fq,(IntKind.wrap .i64 (fo+1))),H,fr,Fs13j5,rfl,rfl,ft,(((I.bring 2).bring 2).bring 2),(hm4 _ _ h).1⟩)
     refine u7 λj5 hx5=>?_
     obtain ⟨av,cc,ad,h⟩:=h
     obtain ⟨dr,ds,aw,dt⟩:=fg.addr ad
     refine c7 (a8Y aw _ _ _ _ av (fg.lt av ad)) (d7 (ld1 (v:=(vB cc)) isAgg4 (fg.atW (I.bring 1) aw ad)) ?_)
     refine t6 h (λ_ h=>?_) (λ_ h=>?_)
     ·refine O0 (e:=3) (c:=K4) (xs:=[fo]) I (b2g _) rfl rfl a3k a3l (nb rfl) λdu dv dw cd ax dx=>?_
      obtain ⟨ce,h⟩:=h
      exact b6Q (s:=fk) (xs:=fm) (ax.bring 3) fp (cd.srcO ((ax.bring 3).bring 1)) ce λcf cg dy ch ci dz=>hx5 _ _ (hj5 _ _ _ H _ ch (((ci.bring 1).drop.bring 2).bring 2) h)
     ·exact hx5 _ _ (hj5 _ _ _ H _ fp (((I.bring 2).bring 2).bring 2) h)
    ·exact hx3 _ _ (hj3 _ _ _ H _ fp (((I.bring 1).drop.bring 1).bring 1) h)
   refine u7 λj2 hx2=>c7 X9 (d7 (l1 isAgg29 (ar.bring 1) rfl) (c7 (a5X _ _ _) ?_))
   obtain ⟨ae,r,cj,ck⟩:=h
   refine G6 (J:=λn l w=>∃(s:(List Bool)×Int)(H:Hp)(Fs10l6:Frag),n=r s/\l=(match s with | (fu,fv)=>[(vi fv)])/\(match s with | (fu,fv)=>RowL 4 1 a5S y fu Fs10l6)/\(match s with | (fu,fv)=>Inv w0 ps0 H0 H [bx k 31 (r9 x0),Fs7j1,Fs10l6] w)/\ae s H) ⟨_,((List.replicate (x0.i7:Int).toNat false),0),H,br,rfl,rfl,bs,((ar.bring 2).bring 2),cj⟩ ?_
   rintro ea eb w next6 ⟨⟨fu,fv⟩,H,Fs10l6,rfl,af,fw,I,cl⟩ hn6
   have af:=lE1 af
   have e46:=af
   simp only [e46]
   obtain ⟨n6,hm6,h⟩:=tlA (B:=λn6=>a6O cs x0.E1 (x0.E1.n:Int) x0 fu fv H n6 K) (ck (fu,fv) H) cl
   refine c7 pLs (j7 h (λ_ h=>?_) (λ_ h=>?_))
   ·obtain ⟨cm,cn,t,ag,h⟩:=h
    obtain ⟨ec,ed,co,ag⟩:=ag
    refine c7 (a5k co _ _ _ _ cm cn) (d7 (ldA (vs:=(p7 t)) isAgg43 sizeOf43 rfl (I.atH ag)) ?_)
    refine r8 I zeroValue43 rfl λay ee cp ef=>v8 cp sizeOf43 (vs:=(p7 t)) λeg cq eh=>L6 cq λei j=>g8 a7t (g8 a7t ?_)
    refine s7 (l1 isAgg3 j rfl) (s7 (l1 isAgg3 j rfl) ?_)
    obtain ⟨az,ah,ai,h⟩:=h
    obtain ⟨ej,ek,ba,el⟩:=fw.addr ai
    refine g8 (a8Y ba _ _ _ _ az (fw.lt az ai)) (s7 (ld1 (v:=(vB ah)) isAgg4 (fw.atW (j.bring 3) ba ai)) ?_)
    simp only [K6]
    refine g8 (Pu.g λd=>by with_reducible exact a3E) (g8 (Pu.g λd=>by with_reducible exact a7t) ?_)
    refine a2E (p:=(pt ay)) rfl (Ld.g λd=>by simp only [p6 d];exact (l1 isAgg3 j rfl)) ?_
    obtain ⟨m,f,h⟩:=h
    obtain ⟨cr,f⟩:=d7a fd f
    refine g8 (Pu.g λhb=>by have d:=hb;simp only [p6 d];with_reducible exact (a0R (f hb).2.2 _ _ _ _ (f hb).1 (fd.lt (f hb).1 (f hb).2.1))) ?_
    refine a2E (p:=(Value.pointer (some ⟨cr,0+(t.D6:Int).toNat*1,none⟩))) rfl (Ld.g λhb=>by have d:=hb;simp only [p6 d];with_reducible exact (ld1 (v:=(vi m)) isAgg3 (fd.atW (j.bring 2) (f hb).2.2 (f hb).2.1))) ?_
    refine a2E (p:=(Value.pointer (some ⟨ay,1,none⟩))) rfl (Ld.g λd=>by simp only [p6 d];exact (l1 isAgg3 j rfl)) ?_
    obtain ⟨o,i,h⟩:=h
    obtain ⟨ct,i⟩:=d7a fd i
    refine g8 (Pu.g λhb=>by have d:=hb;simp only [p6 d];with_reducible exact (a0R (i hb).2.2 _ _ _ _ (i hb).1 (fd.lt (i hb).1 (i hb).2.1))) ?_
    refine a2E (p:=(Value.pointer (some ⟨ct,0+(t.fTo:Int).toNat*1,none⟩))) rfl (Ld.g λhb=>by have d:=hb;simp only [p6 d];with_reducible exact (ld1 (v:=(vi o)) isAgg3 (fd.atW (j.bring 2) (i hb).2.2 (i hb).2.1))) ?_
    refine g8 (Pu.g λd=>by simp only [p6 d];with_reducible exact pGe) ?_
    refine g8 (M6 _ _) ?_
    obtain ⟨bb,em,aj,h⟩:=h
    obtain ⟨en,eo,bc,ep⟩:=fw.addr aj
    refine g8 (a8Y bc _ _ _ _ bb (fw.lt bb aj)) (a9D (x:=(ah||(decide (o<=m)))) (j.bring 3) fw bc (List.getElem?_eq_some_iff.1 aj).1 sizeOf4 rfl λcu eq cv cw er=>?_)
    exact c7 pAd (hn6 _ _ _ (hm6 _ _ h).2 ⟨((fu.set (t.fTo:Int).toNat (ah||(decide (o<=m)))),(IntKind.wrap .i64 (fv+1))),H,cu,rfl,rfl,cv,(((cw.bring 1).drop.bring 2).bring 2),(hm6 _ _ h).1⟩)
   ·exact hx2 _ _ (hj2 _ _ H _ fw (((I.bring 1).drop.bring 1).bring 1) h)
  refine u7 λj1 hx1=>c7 (a8X _ _ _) ?_
  obtain ⟨ak,u,cx,cy⟩:=h
  refine G6 (J:=λn l w=>∃(s:(List Int)×Int)(H:Hp)(Fs7l7:Frag),n=u s/\l=(match s with | (fy,fz)=>[(vi fz)])/\(match s with | (fy,fz)=>RowL 3 1 K4 aa fy Fs7l7)/\(match s with | (fy,fz)=>Inv w0 ps0 H0 H [bx k 31 (r9 x0),Fs7l7] w)/\ak s H) ⟨_,((List.replicate (x0.i7:Int).toNat 0),0),bi,bm,rfl,rfl,bn,(bo.bring 1),cx⟩ ?_
  rintro es et w next7 ⟨⟨fy,fz⟩,H,Fs7l7,rfl,al,ga,I,cz⟩ hn7
  have al:=lE1 al
  have e30:=al
  simp only [e30]
  obtain ⟨n7,hm7,h⟩:=tlA (B:=λn7=>a6Q aq (aq.n:Int) x0 fy fz H n7 K) (cy (fy,fz) H) cz
  refine c7 pLs (j7 h (λ_ h=>?_) (λ_ h=>?_))
  ·obtain ⟨da,db,bd,am,h⟩:=h
   obtain ⟨eu,ev,dc,am⟩:=am
   refine c7 (a0R dc _ _ _ _ da db) (d7 (ld1 (v:=(vi bd)) isAgg3 (I.atH am)) ?_)
   obtain ⟨be,ew,an,h⟩:=h
   obtain ⟨ex,ey,bf,ez⟩:=ga.addr an
   refine c7 (a0R bf _ _ _ _ be (ga.lt be an)) (a9D (x:=fz) (I.bring 1) ga bf (List.getElem?_eq_some_iff.1 an).1 sizeOf3 rfl λdd fa de df fb=>?_)
   exact c7 pAd (hn7 _ _ _ (hm7 _ _ h).2 ⟨((fy.set (bd:Int).toNat fz),(IntKind.wrap .i64 (fz+1))),H,dd,rfl,rfl,de,(df.bring 1),(hm7 _ _ h).1⟩)
  ·exact hx1 _ _ (hj1 _ _ H _ ga ((I.bring 1).bring 1) h)
def a6R(aa:Int)(ab:(List BA))(_:o8)(H)(K:Sl->Int->Hp->Prop):=
 ∀(ad:Sl)(a:Hp),Hle H a->SlH a 1 v7 ad ab->ad.n<=ad.c->
 K ad aa a
def a6S(Q5:Int)(aa:Sl)(ab:Int)(b)(ad:(List BA))(ae:Int)(H)(n2:KT ((List BA)×Int))(K:Sl->Int->Hp->Prop):=
 (ae < ab->
 (0:Int)<=ae/\(ae:Int) < aa.n/\∃a:j9,EltH H aa ae 2 (q6 a)/\
 (ad.length+([a.o7]:List BA).length)*17<=140737488355328/\
 n2 ((ad++[a.o7]),(IntKind.wrap .i64 (ae+1))) H)/\
 (¬(ae < ab)->
 a6R Q5 ad b H K)
def b3i(x0)(H)(K:Sl->Int->Hp->Prop):=
 b0H x0 1 H (λa b c=>
 TL (([],0):(List BA)×Int) c λ(s:(List BA)×Int) H n2=>a6S b a (a.n:Int) x0 s.1 s.2 H n2 K)
theorem b9y(x0){H K}(h:b3i x0 H K):b2V x0 H K:=by
 refine Ct.of λw0 w ps0 H0 R E I hR=>e1V (D3 I rfl λm ap o aq=>?_)
 refine d7 (lW isAgg25 sizeOf25 rfl o) (f7 call31 h o ?_)
 rintro _ u _ ar v _ _ ⟨p,d,rfl,rfl,h⟩
 refine c7 (m7 _ _ _ rfl) (c7 (m7 _ _ (vi d) rfl) ?_)
 have hj1:∀bj bk Fs6j1 H w,RowL 9 1 v7 bk bj Fs6j1->Inv w0 ps0 H0 H [bx m 25 (q7 x0),Fs6j1] w->a6R d bj x0 H K->d2z (vi d) (vs bk) w R E:=by
  intro bj bk Fs6j1 H w bm I h
  intro _
  obtain ⟨q,y,z,aa,ab⟩:=Inv.freezeC (I.bring 1) bm (by decide)
  replace h:=h bk q z aa ab
  exact hR _ q _ _ y.drop ⟨_,d,rfl,rfl,h⟩
 refine u7 λj1 hx1=>c7 (a3U _ _ _) ?_
 obtain ⟨i,f,ac,ad⟩:=h
 refine G6 (J:=λn l w=>∃(s:(List BA)×Int)(H:Hp)(bn:Sl)(Fs6l2:Frag),n=f s/\l=(match s with | (bo,bp)=>[(vs bn),(vi bp)])/\(match s with | (bo,bp)=>RowL 9 1 v7 bn bo Fs6l2)/\(match s with | (bo,bp)=>Inv w0 ps0 H0 H [bx m 25 (q7 x0),Fs6l2] w)/\i s H) ⟨_,([],0),u,sN,[],rfl,rfl,(RowL.nil N6 N7),(v.nil.bring 1),ac⟩ ?_
 rintro au av w next2 ⟨⟨bo,bp⟩,H,bn,Fs6l2,rfl,j,bq,I,ae⟩ hn2
 obtain ⟨e6,e16⟩:=lE2 j
 simp only [e6,e16]
 obtain ⟨n2,hm2,h⟩:=tlA (B:=λn2=>a6S d p (p.n:Int) x0 bo bp H n2 K) (ad (bo,bp) H) ae
 refine c7 pLs (j7 h (λ_ h=>?_) (λ_ h=>?_))
 ·obtain ⟨af,ag,g,k,h⟩:=h
  obtain ⟨aw,ax,ah,k⟩:=k
  refine c7 (a5l ah _ _ _ _ af ag) (d7 (ldA (vs:=(q6 g)) isAgg65 sizeOf65 rfl (I.atH k)) ?_)
  refine r8 I zeroValue65 rfl λay az ai ba=>v8 ai sizeOf65 (vs:=(q6 g)) λbb r bc=>c7 a3F (d7 (l1 isAgg9 r rfl) ?_)
  refine O0 (e:=9) (c:=v7) (xs:=[g.o7]) r (a0L _) rfl rfl N6 N7 (nb rfl) λbd be bf aj t bg=>?_
  obtain ⟨ak,h⟩:=h
  exact d2o (s:=bn) (xs:=bo) (t.bring 3) bq (aj.srcO ((t.bring 3).bring 1)) ak λal am bh an ao bi=>c7 pAd (hn2 _ _ _ (hm2 _ _ h).2 ⟨((bo++[g.o7]),(IntKind.wrap .i64 (bp+1))),H,al,am,rfl,rfl,an,(((ao.bring 1).drop.bring 1).drop.bring 1),(hm2 _ _ h).1⟩)
 ·exact hx1 _ _ (hj1 _ _ _ H _ bq ((I.bring 1).bring 1) h)
def a8f(x0:m0)(a:(List d8))(H)(K:Int->m0->(List d8)->Hp->Prop):=
 K (IntKind.wrap .i64 ((IntKind.wrap .i64 (x0.fc.i7+1))-1)) (m0.mk (s6.mk x0.fc.E0 x0.fc.D7 x0.fc.C1 (IntKind.wrap .i64 (x0.fc.i7+1)) x0.fc.K8 sN) x0.fvars x0.farrays) a H
theorem b3O(x0 a){H K}(h:a8f x0 a H K):M1 x0 a H K:=by
 intro g0 c d e
 refine Ct.of λw0 w ps0 H0 R E I hR=>e1X (c7 (t7 _) (c7 Y0 (c7 O6 (d7 (l1 isAgg3 I rfl) (c7 pAd ?_)))))
 refine c7 (t7 _) (c7 Y0 (c7 O6 ?_))
 refine K0 I sizeOf3 λf b g=>c7 (t7 _) (c7 Y0 (c7 O6 (d7 (l1 isAgg3 b rfl) (c7 pSu ?_))))
 exact hR _ H _ _ ((b.bring 1).bring 1) ⟨(IntKind.wrap .i64 ((IntKind.wrap .i64 (x0.fc.i7+1))-1)),(m0.mk (s6.mk x0.fc.E0 x0.fc.D7 x0.fc.C1 (IntKind.wrap .i64 (x0.fc.i7+1)) x0.fc.K8 sN) x0.fvars x0.farrays),a,c,d,rfl,rfl,e,h⟩
def a8I(x0:m0)(a:(List d8))(x1:Int)(H)(K:Int->m0->(List d8)->Hp->Prop):=
 K (IntKind.wrap .i64 ((x0.fc.E0.n:Int)+x1)) (m0.mk (s6.mk x0.fc.E0 (if (IntKind.wrap .i64 (x1+1)) > x0.fc.D7 then IntKind.wrap .i64 (x1+1) else x0.fc.D7) x0.fc.C1 x0.fc.i7 x0.fc.K8 sN) x0.fvars x0.farrays) a H
theorem b4J(x0 a x1){H K}(h:a8I x0 a x1 H K):a4O x0 a x1 H K:=by
 intro g0 c d e
 refine Ct.of λw0 w ps0 H0 R E I hR=>d9x (c7 (t7 _) (c7 Y0 (c7 a4G (d7 (l1 isAgg3 I rfl) (c7 pAd ?_)))))
 refine c7 (d1Z _ _ _ _ _) (c7 (t7 _) (c7 Y0 (c7 a4G ?_)))
 refine K0 I sizeOf3 λf b g=>c7 (t7 _) (c7 Y0 (c7 a9H (d7 (l1 isAgg28 b rfl) (c7 (a3T _ _ _) ?_))))
 exact c7 pAd (hR _ H _ _ ((b.bring 1).bring 1) ⟨(IntKind.wrap .i64 ((x0.fc.E0.n:Int)+x1)),(m0.mk (s6.mk x0.fc.E0 (if (IntKind.wrap .i64 (x1+1)) > x0.fc.D7 then IntKind.wrap .i64 (x1+1) else x0.fc.D7) x0.fc.C1 x0.fc.i7 x0.fc.K8 sN) x0.fvars x0.farrays),a,c,d,rfl,rfl,e,h⟩)
def a7h(x0:m0)(_:(List d8))(x1:z6)(x2:Int)(H)(K:KT Int):=
 ((x0.fc.E0.n:Int)<=x1.K3->
 K (IntKind.wrap .i64 (x2+1)) H)/\
 (¬((x0.fc.E0.n:Int)<=x1.K3)->
 K x2 H)
theorem b3j(x0 b x1 x2){H K}(h:a7h x0 b x1 x2 H K):a3X x0 b x1 x2 H K:=by
 intro g0 d e f
 refine Ct.of λw0 w ps0 H0 R E I hR=>d8Q (D3 I rfl λg i c j=>?_)
 refine L6 c λk a=>g8 b4w (g8 (t7 _) ?_)
 refine g8 Y0 (g8 a9H ?_)
 refine s7 (l1 isAgg3 a rfl) (s7 (l1 isAgg28 (a.bring 1) rfl) ?_)
 refine g8 (a3T _ _ _) (g8 pGe ?_)
 refine j7 h (λ_ h=>?_) (λ_ h=>?_)
 ·exact c7 pAd (hR _ H _ _ ((a.drop.bring 1).bring 1) ⟨_,rfl,rfl,h⟩)
 ·exact hR _ H _ _ ((a.drop.bring 1).bring 1) ⟨_,rfl,rfl,h⟩
def a2N [PanQ] (L0:c8) (a:d6) (_:d6) (H:Hp) (K:d6->c8->Hp->Prop):=
 K a (c8.mk L0.fl (IntKind.wrap .i64 (L0.fn+1))) H
def b3P [PanQ] (x0:c8) (H:Hp) (K:d6->c8->Hp->Prop):=
 G5 x0 H (λa b=>
 (a.d9=5->
 M2 x0 b (λc=>
 a2N x0 a (d6.mk 0 ⟨#[]⟩ 0 (f8.mk 0 0)) c K))/\
 (¬(a.d9=5)->
 a2N x0 a (d6.mk 0 ⟨#[]⟩ 0 (f8.mk 0 0)) b K))
theorem b3Q [PanQ] (x0:c8) {H:Hp} {K:d6->c8->Hp->Prop} (h:b3P x0 H K):V8 x0 H K:=by
 intro g0
 refine Ct.ofE λw0 w ps0 H0 R E I hR hE=>e3L (r8 I zeroValue127 rfl λc n g o=>?_)
 refine f7 call55 (h g0) (g.bring 1) ?_
 rintro _ i _ p j _ _ ⟨a,rfl,rfl,h⟩
 refine r8 j zeroValue127 rfl λd q k r=>v8 k sizeOf127 (vs:=(m8 a)) λs b t=>?_
 have hj1:∀H w,Inv w0 ps0 H0 H [bx g0 125 (f9 x0),bx d 127 (m8 a),bx c 127 [(vi (d6.mk 0 ⟨#[]⟩ 0 (f8.mk 0 0)).d9),(wS (d6.mk 0 ⟨#[]⟩ 0 (f8.mk 0 0)).N9),(vi (d6.mk 0 ⟨#[]⟩ 0 (f8.mk 0 0)).A6),(vi (d6.mk 0 ⟨#[]⟩ 0 (f8.mk 0 0)).fAt.Q3),(vi (d6.mk 0 ⟨#[]⟩ 0 (f8.mk 0 0)).fAt.Z6)]] w->a2N x0 a (d6.mk 0 ⟨#[]⟩ 0 (f8.mk 0 0)) H K->d3q (pt g0) (pt c) (pt d) w R E:=by
  intro H w I h
  intro _
  refine c7 (t7 _) (c7 a6i (d7 (l1 isAgg3 I rfl) (c7 pAd (c7 (t7 _) ?_))))
  refine c7 a6i (K0 I sizeOf3 λu e v=>?_)
  refine d7 (lW isAgg127 sizeOf127 rfl (e.bring 1)) (v8 (e.bring 2) sizeOf127 (vs:=(m8 a)) λy f z=>?_)
  exact D9 isAgg127 sizeOf127 rfl f (hR _ H _ _ (f.drop.bring 1).drop ⟨a,_,rfl,rfl,h⟩)
 refine u7 λj1 hx1=>c7 a6j (d7 (l1 isAgg3 b rfl) (c7 pEq ?_))
 refine j7 h (λ_ h=>?_) (λ_ h=>?_)
 ·refine D8 hE call56 (h g0) (b.bring 1) ?_
  rintro _ l _ aa m _ _ ⟨rfl,rfl,h⟩
  exact hx1 _ _ (hj1 l _ (((m.bring 2).bring 2).bring 2) h)
 ·exact hx1 _ _ (hj1 i _ (((b.bring 2).bring 1).bring 2) h)
def X4 [PanQ] (d:Int) (e:BA) (f:Sl) (g:(List p5)) (i:Sl) (j:Sl) (aa:c8) (_:d6) (_:i6) (H:Hp) (K:i6->c8->Hp->Prop):=
 ∀(a:Sl)(b:Hp),Hle H b->SlH b 4 l7 a g->a.n<=a.c->
 K (i6.mk d e f a i j) aa b
def Q1 [PanQ] (f:Int) (g:BA) (i:(List l9)) (j:(List p5)) (k:Sl) (l:Sl) (L0:c8) (_:d6) (_:i6) (H:Hp) (K:i6->c8->Hp->Prop):=
 K5 L0 ⟨#[59]⟩ H (λm o=>
 ∀(a:Sl)(d:Hp),Hle o d->SlH d 4 g9 a i->a.n<=a.c->
 ∀(b:Sl)(e:Hp),Hle d e->SlH e 4 l7 b j->b.n<=b.c->
 K (i6.mk f g a b k l) m e)
def X5 [PanQ] (aa:Int) (c:Int) (d:BA) (a:(List l9)) (e:(List p5)) (f:Sl) (g:Sl) (ab:c8) (i:d6) (j:i6) (H:Hp) (K:i6->c8->Hp->Prop):=
 K5 ab ⟨#[61]⟩ H (λk l=>
 V7 k aa l (λb m n=>
 (a.length+([b]:List l9).length)*57<=140737488355328/\
 Q1 c d (a++[b]) e f g m i j n K))
def a8g [PanQ] (x0:c8) (x1:Int) (H:Hp) (K:i6->c8->Hp->Prop):=
 V8 x0 H (λa b d=>
 (a.d9=1->
 B6 b ⟨#[91]⟩ d (λg i j=>
 (g=true->
 Z2 i x1 ⟨#[93]⟩ j (λk r s=>
 (([]:List l9).length+([k]:List l9).length)*57<=140737488355328/\
 X5 x1 2 a.N9 [k] [] sN sN r a (i6.mk 0 ⟨#[]⟩ sN sN sN sN) s K))/\
 (g=false->
 X5 x1 1 a.N9 [] [] sN sN i a (i6.mk 0 ⟨#[]⟩ sN sN sN sN) j K)))/\
 (¬(a.d9=1)->
 (a.N9=⟨#[105,102]⟩->
 S4 b x1 d (λl t u=>
 Z3 t x1 u (λm v y=>
 B6 v ⟨#[101,108,115,101]⟩ y (λo p q=>
 (o=true->
 Z3 p x1 q (λz aa ab=>
 X4 3 ⟨#[]⟩ sN [l] m z aa a (i6.mk 0 ⟨#[]⟩ sN sN sN sN) ab K))/\
 (o=false->
 X4 3 ⟨#[]⟩ sN [l] m sN p a (i6.mk 0 ⟨#[]⟩ sN sN sN sN) q K)))))/\
 (¬(a.N9=⟨#[105,102]⟩)->
 (a.N9=⟨#[119,104,105,108,101]⟩->
 S4 b x1 d (λac ad ae=>
 Z3 ad x1 ae (λaf ag ah=>
 ∀(e:Sl)(f:Hp),Hle ah f->SlH f 4 l7 e [ac]->e.n<=e.c->
 K (i6.mk 4 ⟨#[]⟩ sN e af sN) ag f)))/\
 (¬(a.N9=⟨#[119,104,105,108,101]⟩)->
 (a.N9=⟨#[97,115,115,101,114,116]⟩->
 S4 b x1 d (λai aj ak=>
 Q1 5 ⟨#[]⟩ [] [ai] sN sN aj a (i6.mk 0 ⟨#[]⟩ sN sN sN sN) ak K))/\
 (¬(a.N9=⟨#[97,115,115,101,114,116]⟩)->
 (a.N9=⟨#[97,115,115,117,109,101]⟩->
 S4 b x1 d (λal am an=>
 Q1 6 ⟨#[]⟩ [] [al] sN sN am a (i6.mk 0 ⟨#[]⟩ sN sN sN sN) an K))/\
 (¬(a.N9=⟨#[97,115,115,117,109,101]⟩)->
 Q1 7 ⟨#[]⟩ [] [] sN sN b a (i6.mk 0 ⟨#[]⟩ sN sN sN sN) d K))))))
theorem b3R [PanQ] (x0:c8) (x1:Int) {H:Hp} {K:i6->c8->Hp->Prop} (h:a8g x0 x1 H K):a0l x0 x1 H K:=by
 intro g0
 refine Ct.ofE λw0 w ps0 H0 R E I hR hE=>e3a (r8 I zeroValue55 (cs:=[(vi 0),(eS),(nS),(nS),(nS),(nS)]) rfl λi fp br fq=>?_)
 refine r8 br zeroValue55 (cs:=[(vi 0),(eS),(nS),(nS),(nS),(nS)]) rfl λj fs bs ft=>D8 hE call95 (h g0) (bs.bring 2) ?_
 rintro _ bt _ fu bu _ _ ⟨d,bv,rfl,rfl,h⟩
 refine r8 bu zeroValue127 (cs:=[(vi 0),(eS),(vi 0),(vi 0),(vi 0)]) rfl λal fv bw fw=>v8 bw sizeOf127 (vs:=(m8 d)) λfx b fy=>?_
 have hj1:∀k l am an m p L0 f ao g ap H w,RowL 112 4 g9 f am ao->RowL 115 4 l7 g an ap->Inv w0 ps0 H0 H [bx j 55 [(vi k),(wS l),(vs f),(vs g),(vs m),(vs p)],bx g0 125 (f9 L0),bx al 127 (m8 d),bx i 55 [(vi (i6.mk 0 ⟨#[]⟩ sN sN sN sN).d9),(wS (i6.mk 0 ⟨#[]⟩ sN sN sN sN).o7),(vs (i6.mk 0 ⟨#[]⟩ sN sN sN sN).z7),(vs (i6.mk 0 ⟨#[]⟩ sN sN sN sN).D4),(vs (i6.mk 0 ⟨#[]⟩ sN sN sN sN).T5),(vs (i6.mk 0 ⟨#[]⟩ sN sN sN sN).T6)],ao,ap] w->Q1 k l am an m p L0 d (i6.mk 0 ⟨#[]⟩ sN sN sN sN) H K->d2U (pt g0) (pt i) (pt j) w R E:=by
  intro k l am an m p L0 f ao g ap H w bz ca I h
  intro _
  refine D8 hE call94 (h g0) (I.bring 1) ?_
  rintro _ _ _ fz av _ _ ⟨cb,rfl,rfl,h⟩
  refine d7 (ldA isAgg55 sizeOf55 rfl ((av.bring 1).at1 (o:=0) (vs:=[(vi k),(wS l),(vs f),(vs g),(vs m),(vs p)]) (nb rfl) rfl)) (v8 (av.bring 3) sizeOf55 (vs:=[(vi k),(wS l),(vs f),(vs g),(vs m),(vs p)]) λga aw gb=>?_)
  refine D9 isAgg55 sizeOf55 rfl aw ?_
  obtain ⟨cc,cd,ce,cf,cg⟩:=Inv.freezeC (aw.bring 4) bz (by decide)
  replace h:=h f cc ce cf cg
  obtain ⟨ax,ch,ci,cj,ck⟩:=Inv.freezeC (cd.bring 4) ca (by decide)
  replace h:=h g ax ci cj ck
  exact hR _ ax _ _ ((ch.drop.bring 1).drop.bring 1).drop ⟨(i6.mk k l f g m p),cb,rfl,rfl,h⟩
 refine u7 λj1 hx1=>c7 a6j (d7 (l1 isAgg3 b rfl) (c7 pEq ?_))
 refine j7 h (λ_ h=>?_) (λ_ h=>?_)
 ·refine L6 b λgc aq=>g8 a0w (g8 a1d ?_)
  refine s7 (l1 isAgg9 aq rfl) (K0 (aq.bring 2) sizeOf3 λgd cl cm=>?_)
  refine ⟨(cm _ (Inv.c3F (aq.bring 2))),?_⟩
  refine g8 a2j (K0 cl sizeOf9 λge cn gf=>?_)
  have hj2:∀aa ab y ac ad ae fr af ar ag ah H w,RowL 112 4 g9 af y ar->RowL 115 4 l7 ag ac ah->Inv w0 ps0 H0 H [bx j 55 [(vi aa),(wS ab),(vs af),(vs ag),(vs ad),(vs ae)],bx g0 125 (f9 fr),bx al 127 (m8 d),bx i 55 [(vi (i6.mk 0 ⟨#[]⟩ sN sN sN sN).d9),(wS (i6.mk 0 ⟨#[]⟩ sN sN sN sN).o7),(vs (i6.mk 0 ⟨#[]⟩ sN sN sN sN).z7),(vs (i6.mk 0 ⟨#[]⟩ sN sN sN sN).D4),(vs (i6.mk 0 ⟨#[]⟩ sN sN sN sN).T5),(vs (i6.mk 0 ⟨#[]⟩ sN sN sN sN).T6)],ar,ah] w->X5 x1 aa ab y ac ad ae fr d (i6.mk 0 ⟨#[]⟩ sN sN sN sN) H K->d2V (pt g0) (vi x1) (pt i) (pt j) w j1 R E:=by
   intro aa ab y ac ad ae fr af ar ag ah H w co cp I h
   intro _
   refine D8 hE call94 (h g0) (I.bring 1) ?_
   rintro _ _ _ gg cq _ _ ⟨cr,rfl,rfl,h⟩
   refine L6 cq λgh ai=>g8 a1A (s7 (l1 isAgg52 (ai.bring 1) rfl) ?_)
   refine D8 hE call98 (h g0) ai ?_
   rintro _ ct _ gi ay _ cu ⟨az,cv,rfl,rfl,h⟩
   refine ⟨(cu _ (ai.bring 1).lt1 (Inv.V1 (Fi:=[bx g0 125 (f9 cr)]) ((ai.bring 1).bring 1))),?_⟩
   refine O0 (e:=112) (c:=g9) (xs:=[az]) ay (c0j _ _ _ _ _ _) rfl rfl a0j a0k (nb rfl) λgj gk gl cw ba cx=>⟨(cx _ (ay.bring 1).lt1),?_⟩
   obtain ⟨cy,h⟩:=h
   refine d2r (s:=af) (xs:=y) (ba.bring 5) co (cw.srcO ((ba.bring 5).bring 1)) cy λcz da gm db dc gn=>g8 a1A (K0 ((dc.bring 1).drop.bring 2) sizeOf52 λgo dd gp=>?_)
   exact hx1 _ _ (hj1 aa ab (y++[az]) ac ad ae cv cz da ag ah ct _ db cp ((((((dd.bring 5).bring 2).bring 5).bring 5).bring 5).bring 5) h)
  refine u7 λj2 hx2=>f7 call96 (h g0) (cn.bring 2) ?_
  rintro _ de _ gq bb _ _ ⟨gr,bc,rfl,rfl,h⟩
  refine t6 h (λ_ h=>?_) (λ_ h=>?_)
  ·refine c7 a1d (K0 (bb.bring 1) sizeOf3 λgs df gt=>?_)
   refine L6 df λgu aj=>g8 a1A (s7 (l1 isAgg52 aj rfl) ?_)
   refine D8 hE call97 (h g0) (aj.bring 1) ?_
   rintro _ dg _ gv bd _ dh ⟨be,di,rfl,rfl,h⟩
   refine ⟨(dh _ aj.lt1 (Inv.V1 (Fi:=[bx g0 125 (f9 bc)]) (aj.bring 1))),?_⟩
   refine O0 (e:=112) (c:=g9) (xs:=[be]) bd (c0j _ _ _ _ _ _) rfl rfl a0j a0k (nb rfl) λgw gx gy dj bf dk=>⟨(dk _ (bd.bring 1).lt1),?_⟩
   obtain ⟨dl,h⟩:=h
   refine d2r (s:=⟨none,0,0⟩) (xs:=[]) bf.nil (RowL.nil a0j a0k) (dj.srcO (bf.nil.bring 1)) dl λdm dn gz bg dp ha=>?_
   simp only [List.nil_append] at bg
   refine g8 a1A (K0 ((dp.bring 1).drop.bring 2) sizeOf52 λhb dq hc=>?_)
   exact hx2 _ _ (hj2 2 d.N9 [be] [] sN sN di dm dn sN [] dg _ bg (RowL.nil a1B a1C) (((((dq.nil.bring 2).bring 5).bring 5).bring 5).bring 5) h)
  ·exact hx2 _ _ (hj2 1 d.N9 [] [] sN sN bc sN [] sN [] de _ (RowL.nil a0j a0k) (RowL.nil a1B a1C) (((((bb.nil.nil.bring 1).bring 5).bring 5).bring 4).bring 5) h)
 ·refine c7 a0w (d7 (l1 isAgg9 b rfl) (c7 (a0C _ _ _ _ _) ?_))
  refine j7 h (λ_ h=>?_) (λ_ h=>?_)
  ·refine D8 hE call99 (h g0) (b.bring 1) ?_
   rintro _ _ _ hd dr _ _ ⟨bh,he,rfl,rfl,h⟩
   refine O0 (e:=115) (c:=l7) (xs:=[bh]) dr (b6T _ _ _ _ _ _ _ _) rfl rfl a1B a1C (nb rfl) λz ds hf dt du hg=>c7 a1d (K0 (du.bring 3) sizeOf3 λhh dv hi=>?_)
   refine c7 Z8 (K0 dv sizeOf53 λhj dw hk=>?_)
   refine D8 hE call100 (h g0) (dw.bring 2) ?_
   rintro _ _ _ hl dx _ _ ⟨bi,hm,rfl,rfl,h⟩
   refine c7 a2k (K0 (dx.bring 1) sizeOf23 λhn dy ho=>?_)
   have hj3:∀q r t u v jd H w,Inv w0 ps0 H0 H [bx j 55 [(vi q),(wS r),(vs t),(vs z),(vs u),(vs v)],bx g0 125 (f9 jd),bx al 127 (m8 d),bx i 55 [(vi (i6.mk 0 ⟨#[]⟩ sN sN sN sN).d9),(wS (i6.mk 0 ⟨#[]⟩ sN sN sN sN).o7),(vs (i6.mk 0 ⟨#[]⟩ sN sN sN sN).z7),(vs (i6.mk 0 ⟨#[]⟩ sN sN sN sN).D4),(vs (i6.mk 0 ⟨#[]⟩ sN sN sN sN).T5),(vs (i6.mk 0 ⟨#[]⟩ sN sN sN sN).T6)],ds] w->X4 q r t ([bh]) u v jd d (i6.mk 0 ⟨#[]⟩ sN sN sN sN) H K->d2W (pt i) (pt j) w R E:=by
    intro q r t u v jd H w I h
    intro _
    refine d7 (ldA isAgg55 sizeOf55 rfl (I.at1 (o:=0) (vs:=[(vi q),(wS r),(vs t),(vs z),(vs u),(vs v)]) (nb rfl) rfl)) (v8 (I.bring 3) sizeOf55 (vs:=[(vi q),(wS r),(vs t),(vs z),(vs u),(vs v)]) λhp bj hq=>?_)
    refine D9 isAgg55 sizeOf55 rfl bj ?_
    obtain ⟨bk,dz,ea,eb,ec⟩:=Inv.freezeC (bj.bring 4) dt (by decide)
    replace h:=h z bk ea eb ec
    exact hR _ bk _ _ (dz.drop.drop.bring 1).drop ⟨(i6.mk q r t z u v),jd,rfl,rfl,h⟩
   refine u7 λj3 hx3=>f7 call96 (h g0) (dy.bring 1) ?_
   rintro _ ed _ hr bl _ _ ⟨hs,ee,rfl,rfl,h⟩
   refine t6 h (λ_ h=>?_) (λ_ h=>?_)
   ·refine D8 hE call100 (h g0) bl ?_
    rintro _ ef _ ht eg _ _ ⟨eh,ei,rfl,rfl,h⟩
    refine c7 a4J (K0 (eg.bring 1) sizeOf23 λhu ej hv=>?_)
    exact hx3 _ _ (hj3 3 ⟨#[]⟩ sN bi eh ei ef _ (((((ej.bring 2).bring 4).bring 4).bring 4).bring 4) h)
   ·exact hx3 _ _ (hj3 3 ⟨#[]⟩ sN bi sN ee ed _ (((((bl.bring 2).bring 4).bring 4).bring 3).bring 4) h)
  ·refine c7 a0w (d7 (l1 isAgg9 b rfl) (c7 (a0C _ _ _ _ _) ?_))
   refine j7 h (λ_ h=>?_) (λ_ h=>?_)
   ·refine D8 hE call99 (h g0) (b.bring 1) ?_
    rintro _ _ _ hw ek _ _ ⟨el,hx,rfl,rfl,h⟩
    refine O0 (e:=115) (c:=l7) (xs:=[el]) ek (b6T _ _ _ _ _ _ _ _) rfl rfl a1B a1C (nb rfl) λak hy hz em en ia=>c7 a1d (K0 (en.bring 3) sizeOf3 λib eo ic=>?_)
    refine c7 Z8 (K0 eo sizeOf53 λid ep ie=>?_)
    refine D8 hE call100 (h g0) (ep.bring 2) ?_
    rintro _ _ _ ig eq _ _ ⟨au,er,rfl,rfl,h⟩
    refine c7 a2k (K0 (eq.bring 1) sizeOf23 λih bm ii=>?_)
    refine d7 (ldA isAgg55 sizeOf55 rfl (bm.at1 (o:=0) (vs:=[(vi 4),(eS),(nS),(vs ak),(vs au),(nS)]) (nb rfl) rfl)) (v8 (bm.bring 4) sizeOf55 (vs:=[(vi 4),(eS),(nS),(vs ak),(vs au),(nS)]) λij bn ik=>?_)
    refine D9 isAgg55 sizeOf55 rfl bn ?_
    obtain ⟨bo,es,et,eu,ev⟩:=Inv.freezeC (bn.bring 3) em (by decide)
    replace h:=h ak bo et eu ev
    exact hR _ bo _ _ (es.drop.drop.bring 1).drop ⟨(i6.mk 4 ⟨#[]⟩ sN ak au sN),er,rfl,rfl,h⟩
   ·refine c7 a0w (d7 (l1 isAgg9 b rfl) (c7 (a0C _ _ _ _ _) ?_))
    refine j7 h (λ_ h=>?_) (λ_ h=>?_)
    ·refine D8 hE call99 (h g0) (b.bring 1) ?_
     rintro _ ew _ il ex _ _ ⟨bp,ey,rfl,rfl,h⟩
     refine O0 (e:=115) (c:=l7) (xs:=[bp]) ex (b6T _ _ _ _ _ _ _ _) rfl rfl a1B a1C (nb rfl) λez fa im fb fc io=>c7 a1d (K0 (fc.bring 3) sizeOf3 λip fd iq=>?_)
     refine c7 Z8 (K0 fd sizeOf53 λir fe it=>?_)
     exact hx1 _ _ (hj1 5 ⟨#[]⟩ [] [bp] sN sN ey sN [] ez fa ew _ (RowL.nil a0j a0k) fb ((((((fe.nil.bring 2).bring 1).bring 5).bring 5).bring 5).bring 5) h)
    ·refine c7 a0w (d7 (l1 isAgg9 b rfl) (c7 (a0C _ _ _ _ _) ?_))
     refine j7 h (λ_ h=>?_) (λ_ h=>?_)
     ·refine D8 hE call99 (h g0) (b.bring 1) ?_
      rintro _ ff _ iu fg _ _ ⟨bq,fh,rfl,rfl,h⟩
      refine O0 (e:=115) (c:=l7) (xs:=[bq]) fg (b6T _ _ _ _ _ _ _ _) rfl rfl a1B a1C (nb rfl) λfi fj iv fk fl iw=>c7 a1d (K0 (fl.bring 3) sizeOf3 λix fm iy=>?_)
      refine c7 Z8 (K0 fm sizeOf53 λiz fn ja=>?_)
      exact hx1 _ _ (hj1 6 ⟨#[]⟩ [] [bq] sN sN fh sN [] fi fj ff _ (RowL.nil a0j a0k) fk ((((((fn.nil.bring 2).bring 1).bring 5).bring 5).bring 5).bring 5) h)
     ·refine c7 a1d (K0 (b.bring 2) sizeOf3 λjb fo jc=>?_)
      exact hx1 _ _ (hj1 7 ⟨#[]⟩ [] [] sN sN bv sN [] sN [] bt _ (RowL.nil a0j a0k) (RowL.nil a1B a1C) (((((fo.nil.nil.bring 1).bring 5).bring 4).bring 5).bring 5) h)
def a2O [PanQ] (aa:c8) (f:(List j9)) (g:(List i6)) (_:o8) (H:Hp) (K:o8->c8->Hp->Prop):=
 ∀(a:Sl)(d:Hp),Hle H d->SlH d 2 q6 a f->a.n<=a.c->
 ∀(b:Sl)(e:Hp),Hle d e->SlH e 6 q9 b g->b.n<=b.c->
 K (o8.mk a b) aa e
def a2P [PanQ] (f:(List j9)) (aa:c8) (a:(List i6)) (b:o8) (H:Hp) (n3:KT (c8×(List i6)×o8)) (K:o8->c8->Hp->Prop):=
 G5 aa H (λc d=>
 (¬(c.d9=5)->
 U2 aa d (λg i=>
 L1 aa 1 g i (λj=>
 a0l aa 1 j (λe k l=>
 (a.length+([e]:List i6).length)*121<=140737488355328/\
 n3 (k,(a++[e]),b) l))))/\
 (c.d9=5->
 a2O aa f a b d K))
def a2Q [PanQ] (L0:c8) (a:(List j9)) (b:(List i6)) (c:o8) (H:Hp) (K:o8->c8->Hp->Prop):=
 TL ((L0,b,c):c8×(List i6)×o8) H λ(s:c8×(List i6)×o8) H n3=>a2P a s.1 s.2.1 s.2.2 H n3 K
def a2R [PanQ] (a:(List j9)) (c:(List i6)) (d:o8) (aa:c8) (H:Hp) (n4:KT ((List j9)×(List i6)×o8×c8)) (K:o8->c8->Hp->Prop):=
 B0 aa ⟨#[118,97,114]⟩ H (λb e=>
 TG (b=false) (B0 aa ⟨#[97,114,114,97,121]⟩ e) false e (λ(f:Bool)(g:Hp)=>
 ((b||f)=true->
 a4s aa g (λi j k=>
 (a.length+([i]:List j9).length)*25<=140737488355328/\
 n4 ((a++[i]),c,d,j) k))/\
 ((b||f)=false->
 a2Q aa a c d g K)))
def a8h [PanQ] (x0:c8) (H:Hp) (K:o8->c8->Hp->Prop):=
 TL (([],[],(o8.mk sN sN),x0):(List j9)×(List i6)×o8×c8) H λ(s:(List j9)×(List i6)×o8×c8) H n4=>a2R s.1 s.2.1 s.2.2.1 s.2.2.2 H n4 K
theorem b3S [PanQ] (x0:c8) {H:Hp} {K:o8->c8->Hp->Prop} (h:a8h x0 H K):a4t x0 H K:=by
 intro g0
 refine Ct.ofE λw0 w ps0 H0 R E I hR hE=>e2p (r8 I zeroValue25 rfl λp dn bp dp=>?_)
 refine r8 bp zeroValue25 rfl λq dq bq dr=>?_
 have hj1:∀L0 r ac ad j t ae af H w,RowL 65 2 q6 j r t->RowL 55 6 q9 ae ac af->Inv w0 ps0 H0 H [bx g0 125 (f9 L0),bx q 25 [(vs j),(vs ae)],bx p 25 (q7 ad),t,af] w->a2Q L0 r ac ad H K->d2G (pt g0) (pt p) (pt q) w R E:=by
  intro L0 r ac ad j t ae af H w br bs I h
  intro _
  have hj2:∀bi am an ao ap m aq H w,RowL 65 2 q6 j am ap->RowL 55 6 q9 m an aq->Inv w0 ps0 H0 H [bx g0 125 (f9 bi),bx q 25 [(vs j),(vs m)],bx p 25 (q7 ao),ap,aq] w->a2O bi am an ao H K->d2F (pt p) (pt q) w R E:=by
   intro bi am an ao ap m aq H w bt bu I h
   intro _
   refine d7 (ldA isAgg25 sizeOf25 rfl ((I.bring 1).at1 (o:=0) (vs:=[(vs j),(vs m)]) (nb rfl) rfl)) (v8 (I.bring 2) sizeOf25 (vs:=[(vs j),(vs m)]) λds az dt=>?_)
   refine D9 isAgg25 sizeOf25 rfl az ?_
   obtain ⟨bv,bw,bz,ca,cb⟩:=Inv.freezeC (az.bring 3) bt (by decide)
   replace h:=h j bv bz ca cb
   obtain ⟨ba,cc,cd,ce,cf⟩:=Inv.freezeC (bw.bring 3) bu (by decide)
   replace h:=h m ba cd ce cf
   exact hR _ ba _ _ (cc.drop.bring 1).drop ⟨_,_,rfl,rfl,h⟩
  refine u7 λj2 hx2=>?_
  obtain ⟨ar,u,cg,ch⟩:=h
  refine G6 (J:=λn l w=>∃(s:c8×(List i6)×o8)(H:Hp)(v:Sl)(ag:Frag),n=u s/\l=(match s with | (cs,f,k)=>[])/\(match s with | (cs,f,k)=>RowL 55 6 q9 v f ag)/\(match s with | (cs,f,k)=>Inv w0 ps0 H0 H [bx g0 125 (f9 cs),bx q 25 [(vs j),(vs v)],bx p 25 (q7 k),t,ag] w)/\ar s H) ⟨_,(L0,ac,ad),H,ae,af,rfl,rfl,bs,(((((I.bring 4).bring 4).bring 4).bring 4).bring 4),cg⟩ ?_
  rintro du dv w next3 ⟨⟨cs,f,k⟩,H,v,ag,rfl,bb,au,I,ci⟩ hn3
  clear bb
  obtain ⟨n3,hm3,h⟩:=tlA (B:=λn3=>a2P r cs f k H n3 K) (ch (cs,f,k) H) ci
  refine f7 call55 (h g0) I ?_
  rintro _ cj _ dw bc _ _ ⟨dx,rfl,rfl,h⟩
  refine c7 b1h (c7 pNe ?_)
  refine a1L h (λ_ h=>?_) (λ_ h=>?_)
  ·refine f7 call60 (h g0) bc ?_
   rintro _ _ _ dy ck _ _ ⟨dz,rfl,rfl,h⟩
   refine D8 hE call59 (h g0) ck ?_
   rintro _ _ _ ea cl _ _ ⟨rfl,rfl,h⟩
   refine L6 cl λeb ah=>g8 a7u (s7 (l1 isAgg23 (ah.bring 1) rfl) ?_)
   refine D8 hE call61 (h g0) ah ?_
   rintro _ cm _ ec bd _ cn ⟨be,co,rfl,rfl,h⟩
   refine ⟨(cn _ (ah.bring 1).lt1 (Inv.V1 (Fi:=[bx g0 125 (f9 cs)]) ((ah.bring 1).bring 1))),?_⟩
   refine O0 (e:=55) (c:=q9) (xs:=[be]) bd (c3I _ _ _ _ _ _ _ _ _ _ _ _ _ _) rfl rfl a7S a7T (nb rfl) λed ee ef cp bf cq=>⟨(cq _ (bd.bring 1).lt1),?_⟩
   obtain ⟨cr,h⟩:=h
   refine d2s (s:=v) (xs:=f) (bf.bring 5) au (cp.srcO ((bf.bring 5).bring 1)) cr λct cu eg cv cw eh=>g8 a7u (K0 ((cw.bring 1).drop.bring 2) sizeOf23 λei cx ej=>?_)
   exact hn3 _ _ _ (hm3 _ _ h).2 ⟨(co,(f++[be]),k),cm,ct,cu,rfl,rfl,cv,(((((cx.bring 1).bring 4).bring 4).bring 3).bring 4),(hm3 _ _ h).1⟩
  ·exact hx2 _ _ (hj2 _ r f k t v _ cj _ br au (((((bc.bring 4).bring 4).bring 4).bring 4).bring 4) h)
 refine u7 λj1 hx1=>?_
 obtain ⟨av,y,cy,cz⟩:=h
 refine G6 (J:=λn l w=>∃(s:(List j9)×(List i6)×o8×c8)(H:Hp)(z:Sl)(ai:Frag)(aa:Sl)(ab:Frag),n=y s/\l=(match s with | (d,g,i,ey)=>[])/\(match s with | (d,g,i,ey)=>RowL 65 2 q6 z d ai)/\(match s with | (d,g,i,ey)=>RowL 55 6 q9 aa g ab)/\(match s with | (d,g,i,ey)=>Inv w0 ps0 H0 H [bx q 25 [(vs z),(vs aa)],bx p 25 (q7 i),bx g0 125 (f9 ey),ai,ab] w)/\av s H) ⟨_,([],[],(o8.mk sN sN),x0),H,sN,[],sN,[],rfl,rfl,(RowL.nil a7W b0B),(RowL.nil a7S a7T),((((bq.nil.nil.bring 1).bring 4).bring 4).bring 4),cy⟩ ?_
 rintro ek el w next4 ⟨⟨d,g,i,ey⟩,H,z,ai,aa,ab,rfl,bg,aw,ax,I,da⟩ hn4
 clear bg
 obtain ⟨n4,hm4,h⟩:=tlA (B:=λn4=>a2R d g i ey H n4 K) (cz (d,g,i,ey) H) da
 refine f7 call57 (h g0) (I.bring 2) ?_
 rintro _ _ _ em bh _ _ ⟨en,rfl,rfl,h⟩
 simp only [K6]
 refine Q4 [bx g0 125 (f9 ey)] (λaj:Bool=>(vB aj)) h bh (λbl h=>by simp only [p6 bl];exact R6 call57 (h g0) bh) λaj ay db ak bj bk h=>?_
 refine c7 (M6 _ _) (t6 h (λ_ h=>?_) (λ_ h=>?_))
 ·refine L6 ak λeo al=>g8 a9I (s7 (l1 isAgg22 (al.bring 1) rfl) ?_)
  refine D8 hE call58 (h g0) al ?_
  rintro _ dc _ ep bm _ dd ⟨bn,de,rfl,rfl,h⟩
  refine ⟨(dd _ (al.bring 1).lt1 (Inv.V1 (Fi:=[bx g0 125 (f9 ey)]) ((al.bring 1).bring 1))),?_⟩
  refine O0 (e:=65) (c:=q6) (xs:=[bn]) bm (d8w _ _) rfl rfl a7W b0B (nb rfl) λeq er es df bo dg=>⟨(dg _ (bm.bring 1).lt1),?_⟩
  obtain ⟨dh,h⟩:=h
  refine d2q (s:=z) (xs:=d) (bo.bring 4) aw (df.srcO ((bo.bring 4).bring 1)) dh λdi dj et dk dl eu=>g8 a9I (K0 ((dl.bring 1).drop.bring 2) sizeOf22 λev dm ew=>?_)
  exact hn4 _ _ _ (hm4 _ _ h).2 ⟨((d++[bn]),g,i,de),dc,di,dj,aa,ab,rfl,rfl,dk,ax,(((((dm.bring 4).bring 2).bring 3).bring 4).bring 4),(hm4 _ _ h).1⟩
 ·exact hx1 _ _ (hj1 _ d g i z _ _ _ ay _ aw ax (((((ak.bring 4).bring 4).bring 4).bring 4).bring 4) h)
def a3x(aa:Sl)(ab:Int)(ad:Int)(ae)(ag:(List Int))(R9:Int)(H)(n1:KT (Int×(Option Addr)×(List Int)×Int))(K:g7->(List Int)->Hp->Prop):=
 (ad < ab->
 (0:Int)<=ad/\(ad:Int) < aa.n/\∃a:BA,EltH H aa ad 1 [(wS a)]/\
 a1D (g7.mk (L9.mk ae sN) R9) ag H (λb c=>
 (b=true->
 K (g7.mk (L9.mk ae sN) R9) ag c)/\
 (b=false->
 a2G (g7.mk (L9.mk ae sN) R9) ag a c (λ_ _ d e f=>
 n1 ((IntKind.wrap .i64 (ad+1)),d.O5.faddr,e,d.fdeep) f))))/\
 (¬(ad < ab)->
 K (g7.mk (L9.mk ae sN) R9) ag H)
def a8K(x0:g7)(a:(List Int))(x1:Sl)(H)(K:g7->(List Int)->Hp->Prop):=
 TL ((0,x0.O5.faddr,a,x0.fdeep):Int×(Option Addr)×(List Int)×Int) H λ(s:Int×(Option Addr)×(List Int)×Int) H n1=>a3x x1 (x1.n:Int) s.1 s.2.1 s.2.2.1 s.2.2.2 H n1 K
theorem b4K(x0 d x1){H K}(h:a8K x0 d x1 H K):C5 x0 d x1 H K:=by
 intro g0 k m o
 refine Ct.of λw0 w ps0 H0 R E I hR=>e2L (c7 (a3T _ _ _) ?_)
 obtain ⟨e,c,p,q⟩:=h
 refine G6 (J:=λn l w=>∃(s:Int×(Option Addr)×(List Int)×Int)(H:Hp)(aq:Sl)(ar:Frag),n=c s/\l=(match s with | (au,av,aw,R9)=>[(vi au)])/\(match s with | (au,av,aw,R9)=>RowL 5 1 B7 aq aw ar)/\(match s with | (au,av,aw,R9)=>Inv w0 ps0 H0 H [bx g0 83 [(adv g0 av),(vs aq),(vi R9)],ar] w)/\e s H) ⟨_,(0,x0.O5.faddr,d,x0.fdeep),H,k,m,rfl,rfl,o,((I.bring 1).bring 1),p⟩ ?_
 rintro ah ai w next1 ⟨⟨au,av,aw,R9⟩,H,aq,ar,rfl,f,ax,I,r⟩ hn1
 have f:=lE1 f
 have e8:=f
 simp only [e8]
 obtain ⟨n1,hm1,h⟩:=tlA (B:=λn1=>a3x x1 (x1.n:Int) au av aw R9 H n1 K) (q (au,av,aw,R9) H) r
 refine c7 pLs (j7 h (λ_ h=>?_) (λ_ h=>?_))
 ·obtain ⟨t,u,y,g,h⟩:=h
  obtain ⟨aj,ak,z,g⟩:=g
  refine c7 (b2h z _ _ _ _ t u) (d7 (ld1 (v:=(wS y)) isAgg9 (I.atH g)) ?_)
  refine f7 call25 (h g0 aq ar ax) ((I.bring 1).bring 1) ?_
  rintro _ aa _ al i _ _ ⟨am,rfl,rfl,h⟩
  refine t6 h (λ_ h=>?_) (λ_ h=>?_)
  ·exact hR _ aa _ _ ((i.bring 1).bring 1) ⟨(g7.mk (L9.mk av sN) R9),aw,aq,ar,rfl,rfl,ax,h⟩
  ·refine c7 (t7 _) (c7 b7L ?_)
   refine f7 call80 (h g0 aq ar ax) ((i.bring 1).bring 1) ?_
   rintro _ ab _ an ac _ _ ⟨ao,ap,j,ad,ae,af,rfl,rfl,ag,h⟩
   exact c7 pAd (hn1 _ _ _ (hm1 _ _ h).2 ⟨((IntKind.wrap .i64 (au+1)),j.O5.faddr,ad,j.fdeep),ab,ae,af,rfl,rfl,ag,((ac.bring 1).bring 1),(hm1 _ _ h).1⟩)
 ·exact hR _ H _ _ ((I.bring 1).bring 1) ⟨(g7.mk (L9.mk av sN) R9),aw,aq,ar,rfl,rfl,ax,h⟩
def a8i(x0)(b:(List Int))(x1:l9)(H)(K:g7->(List Int)->Hp->Prop):=
 a2l x1.d9 H (λl a=>
 (x1.d9=1->
 b1U x1.A6 10 a (λad ae=>
 ∀(d:Sl)(m:Hp),Hle ae m->SlH m 1 v7 d [ad]->d.n<=d.c->
 C5 (s8 x0) b d m (λaf ag ah=>
 K (s8 af) ag ah)))/\
 (¬(x1.d9=1)->
 (x1.d9=2->
 ∀(e:Sl)(o:Hp),Hle a o->SlH o 1 v7 e [x1.o7]->e.n<=e.c->
 C5 (s8 x0) b e o (λai aj ak=>
 K (s8 ai) aj ak))/\
 (¬(x1.d9=2)->
 (x1.d9=3->
 ∀(f:Sl)(p:Hp),Hle a p->SlH p 1 v7 f [⟨#[105,110,112,117,116]⟩]->f.n<=f.c->
 C5 (s8 x0) b f p (λal am an=>
 K (s8 al) am an))/\
 (¬(x1.d9=3)->
 (x1.d9=4->
 ∀(g:Sl)(q:Hp),Hle a q->SlH q 1 v7 g [x1.o7,⟨#[91]⟩]->g.n<=g.c->
 C5 (s8 x0) b g q (λao ap u=>
 (0:Int)<=0/\(0:Int) < x1.L8.n/\∃v:l9,EltH u x1.L8 0 4 (g9 v)/\
 N0 (s8 ao) ap v u (λaq ar au=>
 ∀(i:Sl)(r:Hp),Hle au r->SlH r 1 v7 i [⟨#[93]⟩]->i.n<=i.c->
 C5 (s8 aq) ar i r (λav aw ax=>
 K (s8 av) aw ax))))/\
 (¬(x1.d9=4)->
 (x1.d9=5->
 ∀(j:Sl)(s:Hp),Hle a s->SlH s 1 v7 j [⟨#[45]⟩]->j.n<=j.c->
 C5 (s8 x0) b j s (λay az y=>
 (0:Int)<=0/\(0:Int) < x1.L8.n/\∃z:l9,EltH y x1.L8 0 4 (g9 z)/\
 a1Z (s8 ay) az z l y (λba bb bc=>
 K (s8 ba) bb bc)))/\
 (¬(x1.d9=5)->
 (0:Int)<=0/\(0:Int) < x1.L8.n/\∃aa:l9,EltH a x1.L8 0 4 (g9 aa)/\
 a1Z (s8 x0) b aa l a (λbd be bf=>
 a5J x1.d9 bf (λbg bh=>
 ∀(k:Sl)(t:Hp),Hle bh t->SlH t 1 v7 k [⟨#[32]⟩,bg,⟨#[32]⟩]->k.n<=k.c->
 C5 (s8 bd) be k t (λbi bj ab=>
 (0:Int)<=1/\(1:Int) < x1.L8.n/\∃ac:l9,EltH ab x1.L8 1 4 (g9 ac)/\
 a1Z (s8 bi) bj ac (IntKind.wrap .i64 (l+1)) ab (λbk bl bm=>
 K (s8 bk) bl bm))))))))))
theorem b3T(x0 o x1){H K}(h:a8i x0 o x1 H K):N0 x0 o x1 H K:=by
 intro g0 b d f
 refine Ct.of λw0 w ps0 H0 R E I hR=>e2N (D3 I rfl λfd fe p ff=>?_)
 refine c7 W7 (d7 (l1 isAgg3 p rfl) ?_)
 refine oc1 call82 h p λfh _ fg a h=>c7 W7 (d7 (l1 isAgg3 a rfl) (c7 pEq ?_))
 refine j7 h (λ_ h=>?_) (λ_ h=>?_)
 ·refine c7 b0q (d7 (l1 isAgg2 a rfl) ?_)
  refine oc1 call83 h a λs _ fi r h=>O0 (e:=9) (c:=v7) (xs:=[s]) r (a0L _) rfl rfl N6 N7 (nb rfl) λt fj fk u v fl=>?_
  obtain ⟨y,z,aa,ab,ac⟩:=Inv.freezeC v u (by decide)
  replace h:=h t y aa ab ac
  refine f7 call45 (h g0 b d f) ((z.bring 2).bring 2) ?_
  rintro _ ad _ fm ae _ _ ⟨af,ag,ah,ai,rfl,rfl,aj,h⟩
  exact hR _ ad _ _ (((ae.bring 2).drop.bring 1).bring 1) ⟨(s8 af),ag,ah,ai,rfl,rfl,aj,h⟩
 ·refine c7 pEq (j7 h (λ_ h=>?_) (λ_ h=>?_))
  ·refine c7 a4Y (d7 (l1 isAgg9 a rfl) ?_)
   refine O0 (e:=9) (c:=v7) (xs:=[x1.o7]) a (a0L _) rfl rfl N6 N7 (nb rfl) λak fn fo al am fp=>?_
   obtain ⟨an,ao,ap,aq,ar⟩:=Inv.freezeC am al (by decide)
   replace h:=h ak an ap aq ar
   refine f7 call45 (h g0 b d f) ((ao.bring 2).bring 2) ?_
   rintro _ au _ fq av _ _ ⟨aw,ax,ay,az,rfl,rfl,ba,h⟩
   exact hR _ au _ _ (((av.bring 2).drop.bring 1).bring 1) ⟨(s8 aw),ax,ay,az,rfl,rfl,ba,h⟩
  ·refine c7 pEq (j7 h (λ_ h=>?_) (λ_ h=>?_))
   ·refine O0 (e:=9) (c:=v7) (xs:=[⟨#[105,110,112,117,116]⟩]) a (a0L _) rfl rfl N6 N7 (nb rfl) λbb fs ft bc bd fu=>?_
    obtain ⟨be,bf,bg,bh,bi⟩:=Inv.freezeC bd bc (by decide)
    replace h:=h bb be bg bh bi
    refine f7 call45 (h g0 b d f) ((bf.bring 2).bring 2) ?_
    rintro _ bj _ fv bk _ _ ⟨bl,bm,bn,bo,rfl,rfl,bp,h⟩
    exact hR _ bj _ _ (((bk.bring 2).drop.bring 1).bring 1) ⟨(s8 bl),bm,bn,bo,rfl,rfl,bp,h⟩
   ·refine c7 pEq (j7 h (λ_ h=>?_) (λ_ h=>?_))
    ·refine c7 a4Y (d7 (l1 isAgg9 a rfl) ?_)
     refine O0 (e:=9) (c:=v7) (xs:=[x1.o7,⟨#[91]⟩]) a (b6S _ _) rfl rfl N6 N7 (nb rfl) λbq fw fx br bs fy=>?_
     obtain ⟨bt,bu,bv,bw,bz⟩:=Inv.freezeC bs br (by decide)
     replace h:=h bq bt bv bw bz
     refine f7 call45 (h g0 b d f) ((bu.bring 2).bring 2) ?_
     rintro _ _ _ fz g _ _ ⟨ga,gb,ca,cb,rfl,rfl,cc,h⟩
     refine c7 a0Z (d7 (l1 isAgg52 (g.bring 2) rfl) ?_)
     obtain ⟨cd,ce,cf,i,h⟩:=h
     obtain ⟨gc,gd,cg,i⟩:=i
     refine c7 (Z7 cg _ _ _ _ cd ce) (d7 (ldA (vs:=(g9 cf)) isAgg112 sizeOf112 rfl (g.atH i)) ?_)
     refine f7 call48 (h g0 ca cb cc) ((g.bring 1).bring 1) ?_
     rintro _ _ _ ge ch _ _ ⟨gf,gg,ci,cj,rfl,rfl,ck,h⟩
     refine O0 (e:=9) (c:=v7) (xs:=[⟨#[93]⟩]) ch (a0L _) rfl rfl N6 N7 (nb rfl) λcl gh gi cm cn gj=>?_
     obtain ⟨co,cp,cq,cr,ct⟩:=Inv.freezeC cn cm (by decide)
     replace h:=h cl co cq cr ct
     refine f7 call45 (h g0 ci cj ck) ((cp.bring 1).bring 1) ?_
     rintro _ cu _ gk cv _ _ ⟨cw,cx,cy,cz,rfl,rfl,da,h⟩
     exact hR _ cu _ _ (((cv.bring 2).drop.bring 1).bring 1) ⟨(s8 cw),cx,cy,cz,rfl,rfl,da,h⟩
    ·refine c7 pEq (j7 h (λ_ h=>?_) (λ_ h=>?_))
     ·refine O0 (e:=9) (c:=v7) (xs:=[⟨#[45]⟩]) a (a0L _) rfl rfl N6 N7 (nb rfl) λdb gl gm dc dd gn=>?_
      obtain ⟨de,df,dg,dh,di⟩:=Inv.freezeC dd dc (by decide)
      replace h:=h db de dg dh di
      refine f7 call45 (h g0 b d f) ((df.bring 2).bring 2) ?_
      rintro _ _ _ go j _ _ ⟨gp,gq,dj,dk,rfl,rfl,dl,h⟩
      refine c7 a0Z (d7 (l1 isAgg52 (j.bring 2) rfl) ?_)
      obtain ⟨dm,dn,dp,k,h⟩:=h
      obtain ⟨gr,gs,dq,k⟩:=k
      refine c7 (Z7 dq _ _ _ _ dm dn) (d7 (ldA (vs:=(g9 dp)) isAgg112 sizeOf112 rfl (j.atH k)) ?_)
      refine f7 call84 (h g0 dj dk dl) ((j.bring 1).bring 1) ?_
      rintro _ dr _ gt ds _ _ ⟨dt,du,dv,dw,rfl,rfl,dx,h⟩
      exact hR _ dr _ _ (((ds.bring 2).drop.bring 1).bring 1) ⟨(s8 dt),du,dv,dw,rfl,rfl,dx,h⟩
     ·refine c7 a0Z (d7 (l1 isAgg52 a rfl) ?_)
      obtain ⟨dy,dz,ea,l,h⟩:=h
      obtain ⟨gu,gv,eb,l⟩:=l
      refine c7 (Z7 eb _ _ _ _ dy dz) (d7 (ldA (vs:=(g9 ea)) isAgg112 sizeOf112 rfl (a.atH l)) ?_)
      refine f7 call84 (h g0 b d f) ((a.bring 2).bring 2) ?_
      rintro _ _ _ gw q _ _ ⟨gx,gy,ec,ed,rfl,rfl,ee,h⟩
      refine c7 W7 (d7 (l1 isAgg3 (q.bring 2) rfl) ?_)
      refine oc1 call85 h q λeg _ gz ef h=>O0 (e:=9) (c:=v7) (xs:=[⟨#[32]⟩,eg,⟨#[32]⟩]) ef (c0i _ _ _) rfl rfl N6 N7 (nb rfl) λeh ha hb ei ej hc=>?_
      obtain ⟨ek,el,em,en,eo⟩:=Inv.freezeC ej ei (by decide)
      replace h:=h eh ek em en eo
      refine f7 call45 (h g0 ec ed ee) ((el.bring 1).bring 1) ?_
      rintro _ _ _ hd m _ _ ⟨he,hf,ep,eq,rfl,rfl,er,h⟩
      refine c7 a0Z (d7 (l1 isAgg52 (m.bring 2) rfl) ?_)
      obtain ⟨es,et,eu,n,h⟩:=h
      obtain ⟨hg,hh,ev,n⟩:=n
      refine c7 (Z7 ev _ _ _ _ es et) (d7 (ldA (vs:=(g9 eu)) isAgg112 sizeOf112 rfl (m.atH n)) (c7 pAd ?_))
      refine f7 call84 (h g0 ep eq er) ((m.bring 1).bring 1) ?_
      rintro _ ew _ hi ex _ _ ⟨ey,ez,fa,fb,rfl,rfl,fc,h⟩
      exact hR _ ew _ _ (((ex.bring 2).drop.bring 1).bring 1) ⟨(s8 ey),ez,fa,fb,rfl,rfl,fc,h⟩
def a3y(aa:Sl)(ab:Int)(_:p5)(ad:Int)(S9:(List m9))(H)(n2:KT (Int×(List m9)))(K:u4->(List m9)->Hp->Prop):=
 (ad < ab->
 (0:Int)<=ad/\(ad:Int) < aa.n/\∃a:p5,EltH H aa ad 4 (l7 a)/\
 a2b (u4.mk sN) S9 a H (λ_ b c=>
 n2 ((IntKind.wrap .i64 (ad+1)),b) c))/\
 (¬(ad < ab)->
 K (u4.mk sN) S9 H)
def a3z(a:p5)(aa:(List m9))(H)(K:u4->(List m9)->Hp->Prop):=
 TL ((0,aa):Int×(List m9)) H λ(s:Int×(List m9)) H n2=>a3y a.E9 (a.E9.n:Int) a s.1 s.2 H n2 K
def a3A(aa:Sl)(ab:Int)(b)(ad:Int)(ae:(List m9))(H)(n3:KT (Int×(List m9)))(K:u4->(List m9)->Hp->Prop):=
 (ad < ab->
 (0:Int)<=ad/\(ad:Int) < aa.n/\∃a:l9,EltH H aa ad 4 (g9 a)/\
 a0F (u4.mk sN) ae a H (λ_ c d=>
 n3 ((IntKind.wrap .i64 (ad+1)),c) d))/\
 (¬(ad < ab)->
 a3z b ae H K)
def a8L(_:u4)(a:(List m9))(x1:p5)(H)(K:u4->(List m9)->Hp->Prop):=
 TL ((0,a):Int×(List m9)) H λ(s:Int×(List m9)) H n3=>a3A x1.z7 (x1.z7.n:Int) x1 s.1 s.2 H n3 K
theorem b4L(x0 f x1){H K}(h:a8L x0 f x1 H K):a2b x0 f x1 H K:=by
 intro g0 v y z
 refine Ct.of λw0 w ps0 H0 R E I hR=>d9t (D3 I rfl λe bc p bd=>?_)
 have hj1:∀cc cd ce H w,RowL 186 2 G9 cd cc ce->Inv w0 ps0 H0 H [bx e 115 (l7 x1),bx g0 184 [(vs cd)],ce] w->a3z x1 cc H K->c9r (pt g0) (pt e) w R E:=by
  intro cc cd ce H w cf I h
  intro _
  refine c7 a1v (d7 (l1 isAgg53 I rfl) (c7 (b2T _ _ _) ?_))
  obtain ⟨g,c,aa,ab⟩:=h
  refine G6 (J:=λn l w=>∃(s:Int×(List m9))(H:Hp)(cg:Sl)(ch:Frag),n=c s/\l=(match s with | (ci,S9)=>[(vi ci)])/\(match s with | (ci,S9)=>RowL 186 2 G9 cg S9 ch)/\(match s with | (ci,S9)=>Inv w0 ps0 H0 H [bx e 115 (l7 x1),bx g0 184 [(vs cg)],ch] w)/\g s H) ⟨_,(0,cc),H,cd,ce,rfl,rfl,cf,(((I.bring 2).bring 2).bring 2),aa⟩ ?_
  rintro be bf w next2 ⟨⟨ci,S9⟩,H,cg,ch,rfl,i,cj,I,ac⟩ hn2
  have i:=lE1 i
  have e22:=i
  simp only [e22]
  obtain ⟨n2,hm2,h⟩:=tlA (B:=λn2=>a3y x1.E9 (x1.E9.n:Int) x1 ci S9 H n2 K) (ab (ci,S9) H) ac
  refine c7 pLs (j7 h (λ_ h=>?_) (λ_ h=>?_))
  ·obtain ⟨ad,ae,q,j,h⟩:=h
   obtain ⟨bg,bh,af,j⟩:=j
   refine c7 (Z9 af _ _ _ _ ad ae) (d7 (ldA (vs:=(l7 q)) isAgg115 sizeOf115 rfl (I.atH j)) ?_)
   refine r8 I zeroValue115 rfl λbi bj ag bk=>v8 ag sizeOf115 (vs:=(l7 q)) λbl r bm=>d7 (lW isAgg115 sizeOf115 rfl r) (f7 call141 (h g0 cg ch cj) ((r.bring 3).bring 3) ?_)
   rintro _ ah _ bn ai _ _ ⟨bo,aj,ak,al,rfl,rfl,am,h⟩
   exact c7 pAd (hn2 _ _ _ (hm2 _ _ h).2 ⟨((IntKind.wrap .i64 (ci+1)),aj),ah,ak,al,rfl,rfl,am,((((ai.bring 2).drop.bring 1).bring 1).bring 2),(hm2 _ _ h).1⟩)
  ·exact hR _ H _ _ ((I.drop.bring 1).bring 1) ⟨(u4.mk sN),S9,cg,ch,rfl,rfl,cj,h⟩
 refine u7 λj1 hx1=>c7 a8u (d7 (l1 isAgg52 p rfl) (c7 (a7e _ _ _) ?_))
 obtain ⟨k,d,an,ao⟩:=h
 refine G6 (J:=λn l w=>∃(s:Int×(List m9))(H:Hp)(ck:Sl)(cl:Frag),n=d s/\l=(match s with | (cm,cn)=>[(vi cm)])/\(match s with | (cm,cn)=>RowL 186 2 G9 ck cn cl)/\(match s with | (cm,cn)=>Inv w0 ps0 H0 H [bx e 115 (l7 x1),bx g0 184 [(vs ck)],cl] w)/\k s H) ⟨_,(0,f),H,v,y,rfl,rfl,z,(((p.bring 2).bring 2).bring 2),an⟩ ?_
 rintro bp bq w next3 ⟨⟨cm,cn⟩,H,ck,cl,rfl,m,cp,I,ap⟩ hn3
 have m:=lE1 m
 have e11:=m
 simp only [e11]
 obtain ⟨n3,hm3,h⟩:=tlA (B:=λn3=>a3A x1.z7 (x1.z7.n:Int) x1 cm cn H n3 K) (ao (cm,cn) H) ap
 refine c7 pLs (j7 h (λ_ h=>?_) (λ_ h=>?_))
 ·obtain ⟨aq,ar,t,o,h⟩:=h
  obtain ⟨br,bs,au,o⟩:=o
  refine c7 (Z7 au _ _ _ _ aq ar) (d7 (ldA (vs:=(g9 t)) isAgg112 sizeOf112 rfl (I.atH o)) ?_)
  refine r8 I zeroValue112 rfl λbt bu av bv=>v8 av sizeOf112 (vs:=(g9 t)) λbw u bz=>d7 (lW isAgg112 sizeOf112 rfl u) (f7 call142 (h g0 ck cl cp) ((u.bring 3).bring 3) ?_)
  rintro _ aw _ ca ax _ _ ⟨cb,ay,az,ba,rfl,rfl,bb,h⟩
  exact c7 pAd (hn3 _ _ _ (hm3 _ _ h).2 ⟨((IntKind.wrap .i64 (cm+1)),ay),aw,az,ba,rfl,rfl,bb,((((ax.bring 2).drop.bring 1).bring 1).bring 2),(hm3 _ _ h).1⟩)
 ·exact hx1 _ _ (hj1 _ _ _ H _ cp (((I.bring 2).bring 2).bring 2) h)
def a3K(aa:Int)(ab:BA)(_:(List m9))(_:o8)(H)(K:BA->Int->Hp->Prop):=
 K ab aa H
def b0w(Q5)(aa:(List m9))(ab:Int)(c)(G4:Int)(ad:BA)(ae:Int)(H)(n2:KT (Int×BA×Int))(K:BA->Int->Hp->Prop):=
 (ae < ab->
 (0:Int)<=ae/\∃a:m9,(aa)[(ae:Int).toNat]? = some a/\
 ∃b:List (BA×Int),MapH H (λs:BA=>Value.string s) (λn:Int=>Value.int .i64 n) Q5 b/\
 (((lk a.fname b).getD 0)=a.fas->
 n2 (G4,ad,(IntKind.wrap .i64 (ae+1))) H)/\
 (¬(((lk a.fname b).getD 0)=a.fas)->
 (((lk a.fname b).getD 0)=0->
 a3K 63 a.fname aa c H K)/\
 (¬(((lk a.fname b).getD 0)=0)->
 a3K 64 a.fname aa c H K)))/\
 (¬(ae < ab)->
 a3K G4 ad aa c H K)
def b2b(x0:o8)(H)(K:BA->Int->Hp->Prop):=
 a3f x0 H (λb c=>
 (¬(b=0)->
 K ⟨#[]⟩ b c)/\
 (b=0->
 b0u x0.a2h c (λf g a d=>
 (¬(a=0)->
 K g a d)/\
 (a=0->
 a0m (u4.mk sN) [] x0.a7s d (λ_ e i=>
 TL ((a,⟨#[]⟩,0):Int×BA×Int) i λ(s:Int×BA×Int) H n2=>b0w f e (e.length:Int) x0 s.1 s.2.1 s.2.2 H n2 K)))))
theorem b8Y(x0){H K}(h:b2b x0 H K):b1W x0 H K:=by
 refine Ct.of λw0 w ps0 H0 R E I hR=>e3c (D3 I (cs:=(q7 x0)) rfl λj ad k ae=>?_)
 refine d7 (lW isAgg25 sizeOf25 rfl k) (oc1 call21 h k λv u af d h=>?_)
 refine c7 pNe (a1L h (λ_ h=>?_) (λ_ h=>?_))
 ·exact hR _ u _ _ d.drop ⟨⟨#[]⟩,v,rfl,rfl,h⟩
 ·refine c7 a9I (d7 (l1 isAgg22 d rfl) ?_)
  refine f7 call101 h d ?_
  rintro _ y _ ag l _ _ ⟨ah,m,n,rfl,rfl,h⟩
  refine c7 (m7 _ _ _ rfl) (c7 (m7 _ _ (wS m) rfl) (c7 (m7 _ _ (vi n) rfl) (c7 pNe ?_)))
  refine a1L h (λ_ h=>?_) (λ_ h=>?_)
  ·exact hR _ y _ _ l.drop ⟨m,n,rfl,rfl,h⟩
  ·refine c7 (d0E) (D3 l (cs:=[(nS)]) rfl λf ai o aj=>?_)
   refine c7 a7u (d7 (l1 isAgg23 (o.bring 1) rfl) ?_)
   refine f7 call102 (h f sN ([]) (RowL.nil (e:=186) a7X a7Y)) (o.nil.bring 1) ?_
   rintro _ _ _ ak p _ _ ⟨al,aa,q,r,rfl,rfl,c,h⟩
   have hj1:∀ay az H w,Inv w0 ps0 H0 H [bx f 184 [(vs q)],bx j 25 (q7 x0),r] w->a3K ay az aa x0 H K->d2X (vi ay) (wS az) w R E:=by
    intro ay az H w I h
    intro _
    exact hR _ H _ _ I.drop.drop.drop ⟨az,ay,rfl,rfl,h⟩
   refine u7 λj1 hx1=>c7 (t7 _) (c7 a3G (d7 (l1 isAgg182 p rfl) (c7 (a4E underlying182 c) ?_)))
   refine a2f (σ:=Int×BA×Int) (λ(G4,bb,bc)=>[(vi G4),(wS bb),(vi bc)]) (λ(G4,bb,bc)=>[bx f 184 [(vs q)],bx j 25 (q7 x0),r]) h rfl (((p.bring 1).bring 2).bring 2) ?_
   rintro ⟨G4,bb,bc⟩ H am w next2 n2 g I h hn2
   obtain ⟨e7,e9,e39⟩:=lE3 g
   simp only [e7,e9,e39]
   refine c7 pLs (j7 h (λ_ h=>?_) (λ_ h=>?_))
   ·obtain ⟨s,b,i,h⟩:=h
    obtain ⟨an,ao,t,ap⟩:=c.addr i
    refine c7 (d2v t _ _ _ _ s (c.lt s i)) (d7 (ldA (vs:=(G9 b)) isAgg186 sizeOf186 rfl (c.atW (I.bring 2) t i)) ?_)
    refine r8 I zeroValue186 (cs:=[(eS),(vi 0)]) rfl λaq ar ab au=>v8 ab sizeOf186 (vs:=(G9 b)) λav a aw=>c7 b6y (d7 (l1 isAgg9 a rfl) ?_)
    obtain ⟨ax,ac,h⟩:=h
    refine d5k (keyS underlying9) underlying61 (z:=0) zeroValue3 a ac b.fname (c7 c8l (d7 (l1 isAgg3 a rfl) (c7 pEq ?_)))
    refine j7 h (λ_ h=>?_) (λ_ h=>?_)
    ·exact c7 pAd (hn2 (G4,bb,(IntKind.wrap .i64 (bc+1))) _ _ h (((a.drop.bring 2).bring 2).bring 2))
    ·refine c7 pEq (j7 h (λ_ h=>?_) (λ_ h=>?_))
     ·refine c7 b6y (d7 (l1 isAgg9 a rfl) ?_)
      exact hx1 _ _ (hj1 63 b.fname H _ (((a.drop.bring 2).bring 2).bring 2) h)
     ·refine c7 b6y (d7 (l1 isAgg9 a rfl) ?_)
      exact hx1 _ _ (hj1 64 b.fname H _ (((a.drop.bring 2).bring 2).bring 2) h)
   ·exact hx1 _ _ (hj1 G4 bb H _ (((I.bring 2).bring 2).bring 2) h)
def a9o(x0:i8)(_:(List d6))(H)(K:KT BA):=
 (0:Int)<=x0.fn/\(x0.fn:Int)<=x0.fs.size/\
 K (x0.fs.extract (x0.fn:Int).toNat x0.fs.size) H
theorem b5z(x0 b){H K}(h:a9o x0 b H K):Y5 x0 b H K:=by
 intro g0 e f g
 refine Ct.of λw0 w ps0 H0 R E I hR=>d9e (L6 I λi a=>?_)
 refine g8 (t7 _) (g8 b0s ?_)
 refine g8 (t7 _) (g8 a1b ?_)
 refine s7 (l1 isAgg9 a rfl) (s7 (l1 isAgg3 a rfl) ?_)
 obtain ⟨c,d,h⟩:=h
 exact g8 (c8J x0.fs underlying9 c d) (hR _ H _ _ ((a.bring 1).bring 1) ⟨_,rfl,rfl,h⟩)
def a9p(x0:i8)(a:(List d6))(H)(K:i8->(List d6)->Hp->Prop):=
 Y5 (C9 x0) a H (λe f=>
 a1x e f (λb c d=>
 (b=10->
 K (i8.mk x0.fs (IntKind.wrap .i64 (x0.fn+c)) (f8.mk (IntKind.wrap .i64 (x0.fat.Q3+1)) 1) sN) a d)/\
 (¬(b=10)->
 K (i8.mk x0.fs (IntKind.wrap .i64 (x0.fn+c)) (f8.mk x0.fat.Q3 (IntKind.wrap .i64 (x0.fat.Z6+1))) sN) a d)))
theorem b5A(x0 a){H K}(h:a9p x0 a H K):O7 x0 a H K:=by
 intro g0 b d e
 refine Ct.of λw0 w ps0 H0 R E I hR=>d9G (f7 call129 (h g0 b d e) ((I.bring 1).bring 1) ?_)
 rintro _ _ _ n k _ _ ⟨o,rfl,rfl,h⟩
 refine f7 call123 h k ?_
 rintro _ g _ p i _ _ ⟨l,c,rfl,rfl,h⟩
 refine c7 (m7 _ _ (Value.int .i32 l) rfl) (c7 (m7 _ _ (vi c) rfl) (c7 (t7 _) (c7 a1b (d7 (l1 isAgg3 i rfl) ?_))))
 refine c7 pAd (c7 (t7 _) (c7 a1b ?_))
 refine K0 i sizeOf3 λq j r=>c7 (t7 _) (c7 a8w (c7 b7Q (d7 (l1 isAgg3 j rfl) (c7 pAd ?_))))
 refine c7 (t7 _) (c7 a8w (c7 b7Q ?_))
 refine K0 j sizeOf3 λs f t=>c7 pEq (j7 h (λ_ h=>?_) (λ_ h=>?_))
 ·refine c7 (t7 _) (c7 a8w (c7 b7R (d7 (l1 isAgg3 f rfl) (c7 pAd ?_))))
  refine c7 (b0C _ _) (c7 (t7 _) (c7 a8w ?_))
  exact H9 f sizeOf47 (vs:=[(vi (IntKind.wrap .i64 (x0.fat.Q3+1))),(vi 1)]) (cs':=[(wS x0.fs),(vi (IntKind.wrap .i64 (x0.fn+c))),(vi (IntKind.wrap .i64 (x0.fat.Q3+1))),(vi 1),(vs b)]) rfl rfl (nb rfl) rfl rfl λu m v=>hR _ g _ _ ((m.bring 1).bring 1) ⟨(i8.mk x0.fs (IntKind.wrap .i64 (x0.fn+c)) (f8.mk (IntKind.wrap .i64 (x0.fat.Q3+1)) 1) sN),a,b,d,rfl,rfl,e,h⟩
 ·exact hR _ g _ _ ((f.bring 1).bring 1) ⟨(i8.mk x0.fs (IntKind.wrap .i64 (x0.fn+c)) (f8.mk x0.fat.Q3 (IntKind.wrap .i64 (x0.fat.Z6+1))) sN),a,b,d,rfl,rfl,e,h⟩
def a4f(a)(B5:BA)(u5:Int)(A9)(L2:(List d6))(_:d6)(H)(K:d6->Int->i8->(List d6)->Hp->Prop):=
 K a 0 (i8.mk B5 u5 A9 sN) L2 H
def a9q(x0)(i:(List d6))(H)(K:d6->Int->i8->(List d6)->Hp->Prop):=
 V3 (C9 x0) i H (λb a c j=>
 a6p b j (λd e=>
 (d=true->
 a4f (d6.mk 3 b 0 (f8.mk 0 0)) a.fs a.fn a.fat c (d6.mk 0 ⟨#[]⟩ 0 (f8.mk 0 0)) e K)/\
 (d=false->
 a6o b e (λf g=>
 (f=true->
 K (d6.mk 1 b 0 (f8.mk 0 0)) 22 (C9 a) c g)/\
 (f=false->
 a4f (d6.mk 1 b 0 (f8.mk 0 0)) a.fs a.fn a.fat c (d6.mk 0 ⟨#[]⟩ 0 (f8.mk 0 0)) g K)))))
theorem b5B(x0 j){H K}(h:a9q x0 j H K):a9c x0 j H K:=by
 intro g0 s t u
 refine Ct.of λw0 w ps0 H0 R E I hR=>d9g (r8 I zeroValue127 (cs:=[(vi 0),(eS),(vi 0),(vi 0),(vi 0)]) rfl λk ac v ad=>?_)
 refine f7 call128 (h g0 s t u) ((v.bring 2).bring 2) ?_
 rintro _ _ _ ae y _ _ ⟨b,a,d,e,f,rfl,rfl,l,h⟩
 refine c7 (a9N _ _) (r8 y zeroValue127 (cs:=[(vi 0),(eS),(vi 0),(vi 0),(vi 0)]) rfl λm af z ag=>?_)
 refine v8 z sizeOf127 (vs:=[(vi 1),(wS b),(vi 0),(vi 0),(vi 0)]) λah n ai=>?_
 have hj1:∀c B5 u5(A9:f8)H w,Inv w0 ps0 H0 H [bx m 127 (m8 c),bx g0 167 [(wS B5),(vi u5),(vi A9.Q3),(vi A9.Z6),(vs e)],bx k 127 [(vi (d6.mk 0 ⟨#[]⟩ 0 (f8.mk 0 0)).d9),(wS (d6.mk 0 ⟨#[]⟩ 0 (f8.mk 0 0)).N9),(vi (d6.mk 0 ⟨#[]⟩ 0 (f8.mk 0 0)).A6),(vi (d6.mk 0 ⟨#[]⟩ 0 (f8.mk 0 0)).fAt.Q3),(vi (d6.mk 0 ⟨#[]⟩ 0 (f8.mk 0 0)).fAt.Z6)],f] w->a4f c B5 u5 A9 d (d6.mk 0 ⟨#[]⟩ 0 (f8.mk 0 0)) H K->c9m (pt k) (pt m) w R E:=by
  intro c B5 u5 A9 H w I h
  intro _
  refine d7 (lW isAgg127 sizeOf127 rfl I) (v8 (I.bring 2) sizeOf127 (vs:=(m8 c)) λaj p ak=>?_)
  exact D9 isAgg127 sizeOf127 rfl p (hR _ H _ _ ((p.drop.drop.bring 1).bring 1) ⟨c,0,(i8.mk B5 u5 A9 sN),d,e,f,rfl,rfl,l,h⟩)
 refine u7 λj1 hx1=>c7 a0w (d7 (l1 isAgg9 n rfl) ?_)
 refine oc1 call165 h n λam aa al g h=>t6 h (λ_ h=>?_) (λ_ h=>?_)
 ·refine c7 a6j (K0 g sizeOf3 λan ab ao=>?_)
  exact hx1 _ _ (hj1 (d6.mk 3 b 0 (f8.mk 0 0)) a.fs a.fn a.fat aa _ ((((ab.bring 2).bring 3).bring 3).bring 3) h)
 ·refine c7 a0w (d7 (l1 isAgg9 g rfl) ?_)
  refine oc1 call166 h g λaq q ap i h=>t6 h (λ_ h=>?_) (λ_ h=>?_)
  ·refine d7 (ldA isAgg127 sizeOf127 rfl (i.at1 (o:=0) (vs:=[(vi 1),(wS b),(vi 0),(vi 0),(vi 0)]) (nb rfl) rfl)) (v8 (i.bring 3) sizeOf127 (vs:=[(vi 1),(wS b),(vi 0),(vi 0),(vi 0)]) λar r au=>?_)
   exact D9 isAgg127 sizeOf127 rfl r (hR _ q _ _ ((r.drop.drop.bring 1).bring 1) ⟨(d6.mk 1 b 0 (f8.mk 0 0)),22,(C9 a),d,e,f,rfl,rfl,l,h⟩)
  ·exact hx1 _ _ (hj1 (d6.mk 1 b 0 (f8.mk 0 0)) a.fs a.fn a.fat q _ ((((i.bring 2).bring 3).bring 3).bring 3) h)
def a4g(_:d6)(B5:BA)(u5:Int)(A9)(L2:(List d6))(H)(K:d6->Int->i8->(List d6)->Hp->Prop):=
 Y5 (i8.mk B5 u5 A9 sN) L2 H (λa e=>
 (0:Int)<=1/\(1:Int)<=a.size/\
 O7 (i8.mk B5 u5 A9 sN) L2 e (λb c d=>
 (((decide ((a.extract 0 (1:Int).toNat)=⟨#[38]⟩))||(decide ((a.extract 0 (1:Int).toNat)=⟨#[124]⟩)))=true->
 K (d6.mk 0 ⟨#[]⟩ 0 (f8.mk 0 0)) 20 (C9 b) c d)/\
 (((decide ((a.extract 0 (1:Int).toNat)=⟨#[38]⟩))||(decide ((a.extract 0 (1:Int).toNat)=⟨#[124]⟩)))=false->
 K (d6.mk 4 (a.extract 0 (1:Int).toNat) 0 (f8.mk 0 0)) 0 (C9 b) c d)))
def a4h(G4:a3i)(M5:Int)(a)(B4:BA)(u6:Int)(z8)(A4:(List d6))(H)(n2:KT (Int×d6×BA×Int×f8×(List d6)))(K:d6->Int->i8->(List d6)->Hp->Prop):=
 (M5 < 6->
 (0:Int)<=M5/\(M5:Int) < 6/\
 Y5 (i8.mk B4 u6 z8 sN) A4 H (λd e=>
 a5E d (([G4.f0,G4.f1,G4.f2,G4.f3,G4.f4,G4.f5]:List BA).getD (M5:Int).toNat ⟨#[]⟩) e (λb c=>
 (b=true->
 O7 (i8.mk B4 u6 z8 sN) A4 c (λf g i=>
 O7 (C9 f) g i (λj k l=>
 K (d6.mk 4 (([G4.f0,G4.f1,G4.f2,G4.f3,G4.f4,G4.f5]:List BA).getD (M5:Int).toNat ⟨#[]⟩) 0 (f8.mk 0 0)) 0 (C9 j) k l)))/\
 (b=false->
 n2 ((IntKind.wrap .i64 (M5+1)),a,B4,u6,z8,A4) c))))/\
 (¬(M5 < 6)->
 a4g a B4 u6 z8 A4 H K)
def a9r(x0:i8)(a:(List d6))(H)(K:d6->Int->i8->(List d6)->Hp->Prop):=
 TL ((0,(d6.mk 0 ⟨#[]⟩ 0 (f8.mk 0 0)),x0.fs,x0.fn,x0.fat,a):Int×d6×BA×Int×f8×(List d6)) H λ(s:Int×d6×BA×Int×f8×(List d6)) H n2=>a4h (a3i.mk ⟨#[61,61]⟩ ⟨#[33,61]⟩ ⟨#[60,61]⟩ ⟨#[62,61]⟩ ⟨#[38,38]⟩ ⟨#[124,124]⟩) s.1 s.2.1 s.2.2.1 s.2.2.2.1 s.2.2.2.2.1 s.2.2.2.2.2 H n2 K
theorem b5C(x0 i){H K}(h:a9r x0 i H K):a9d x0 i H K:=by
 intro g0 e ae af
 refine Ct.of λw0 w ps0 H0 R E I hR=>d9j (r8 I zeroValue127 rfl λj be ag bf=>?_)
 have hj1:∀k B5 u5(A9:f8)L2 T0 H w,RowL 127 5 m8 e L2 T0->Inv w0 ps0 H0 H [bx j 127 (m8 k),bx g0 167 [(wS B5),(vi u5),(vi A9.Q3),(vi A9.Z6),(vs e)],T0] w->a4g k B5 u5 A9 L2 H K->c9n (pt g0) (pt j) w R E:=by
  intro k B5 u5 A9 L2 T0 H w ca I h
  intro _
  refine f7 call129 (h g0 e T0 ca) ((I.bring 2).bring 2) ?_
  rintro _ _ _ bg ah _ _ ⟨m,rfl,rfl,h⟩
  obtain ⟨ai,aj,h⟩:=h
  refine c7 (c8K m underlying9 ai aj) (f7 call163 (h g0 e T0 ca) ((ah.bring 1).bring 1) ?_)
  rintro _ q _ bh r _ _ ⟨t,u,v,y,rfl,rfl,z,h⟩
  refine c7 (a0C _ _ _ _ _) ?_
  simp only [K6]
  refine c7 (Pu.g λc=>by simp only [p6 c];with_reducible exact (a0C _ _ _ _ _)) ?_
  refine c7 (M6 _ _) (t6 h (λ_ h=>?_) (λ_ h=>?_))
  ·refine c7 (c2s) (v8 (r.bring 2) sizeOf127 (vs:=[(vi 0),(eS),(vi 0),(vi 0),(vi 0)]) λbi aa bj=>?_)
   exact D9 isAgg127 sizeOf127 rfl aa (hR _ q _ _ ((aa.drop.bring 1).bring 1) ⟨(d6.mk 0 ⟨#[]⟩ 0 (f8.mk 0 0)),20,(C9 t),u,v,y,rfl,rfl,z,h⟩)
  ·refine c7 (a9N _ _) (v8 (r.bring 2) sizeOf127 (vs:=[(vi 4),(wS (m.extract 0 (1:Int).toNat)),(vi 0),(vi 0),(vi 0)]) λbk ab bl=>?_)
   exact D9 isAgg127 sizeOf127 rfl ab (hR _ q _ _ ((ab.drop.bring 1).bring 1) ⟨(d6.mk 4 (m.extract 0 (1:Int).toNat) 0 (f8.mk 0 0)),0,(C9 t),u,v,y,rfl,rfl,z,h⟩)
 refine u7 λj1 hx1=>c7 (b0t _ _ _ _ _ _) ?_
 obtain ⟨o,f,ak,al⟩:=h
 refine G6 (J:=λn l w=>∃(s:Int×d6×BA×Int×f8×(List d6))(H:Hp)(N2:Frag),n=f s/\l=(match s with | (M5,d,B4,u6,z8,A4)=>[(vi M5)])/\(match s with | (M5,d,B4,u6,z8,A4)=>RowL 127 5 m8 e A4 N2)/\(match s with | (M5,d,B4,u6,z8,A4)=>Inv w0 ps0 H0 H [bx j 127 (m8 d),bx g0 167 [(wS B4),(vi u6),(vi z8.Q3),(vi z8.Z6),(vs e)],N2] w)/\o s H) ⟨_,(0,(d6.mk 0 ⟨#[]⟩ 0 (f8.mk 0 0)),x0.fs,x0.fn,x0.fat,i),H,ae,rfl,rfl,af,(((ag.bring 2).bring 2).bring 2),ak⟩ ?_
 rintro bm bn w next2 ⟨⟨M5,d,B4,u6,z8,A4⟩,H,N2,rfl,p,W9,I,am⟩ hn2
 have p:=lE1 p
 have e8:=p
 simp only [e8]
 obtain ⟨n2,hm2,h⟩:=tlA (B:=λn2=>a4h (a3i.mk ⟨#[61,61]⟩ ⟨#[33,61]⟩ ⟨#[60,61]⟩ ⟨#[62,61]⟩ ⟨#[38,38]⟩ ⟨#[124,124]⟩) M5 d B4 u6 z8 A4 H n2 K) (al (M5,d,B4,u6,z8,A4) H) am
 refine c7 pLs (j7 h (λ_ h=>?_) (λ_ h=>?_))
 ·obtain ⟨an,ao,h⟩:=h
  refine c7 (c2r _ _ _ _ _ _ _ _ an ao) (f7 call129 (h g0 e N2 W9) ((I.bring 2).bring 2) ?_)
  rintro _ _ _ bo ap _ _ ⟨bp,rfl,rfl,h⟩
  refine oc1 call112 h ap λbr aq bq ac h=>t6 h (λ_ h=>?_) (λ_ h=>?_)
  ·refine f7 call163 (h g0 e N2 W9) ((ac.bring 1).bring 1) ?_
   rintro _ _ _ bs ar _ _ ⟨bt,bu,au,av,rfl,rfl,aw,h⟩
   refine f7 call163 (h g0 au av aw) ((ar.bring 1).bring 1) ?_
   rintro _ ax _ bv ay _ _ ⟨az,ba,bb,bc,rfl,rfl,bd,h⟩
   refine c7 (a9N _ _) (v8 (ay.bring 2) sizeOf127 (vs:=[(vi 4),(wS (([(a3i.mk ⟨#[61,61]⟩ ⟨#[33,61]⟩ ⟨#[60,61]⟩ ⟨#[62,61]⟩ ⟨#[38,38]⟩ ⟨#[124,124]⟩).f0,(a3i.mk ⟨#[61,61]⟩ ⟨#[33,61]⟩ ⟨#[60,61]⟩ ⟨#[62,61]⟩ ⟨#[38,38]⟩ ⟨#[124,124]⟩).f1,(a3i.mk ⟨#[61,61]⟩ ⟨#[33,61]⟩ ⟨#[60,61]⟩ ⟨#[62,61]⟩ ⟨#[38,38]⟩ ⟨#[124,124]⟩).f2,(a3i.mk ⟨#[61,61]⟩ ⟨#[33,61]⟩ ⟨#[60,61]⟩ ⟨#[62,61]⟩ ⟨#[38,38]⟩ ⟨#[124,124]⟩).f3,(a3i.mk ⟨#[61,61]⟩ ⟨#[33,61]⟩ ⟨#[60,61]⟩ ⟨#[62,61]⟩ ⟨#[38,38]⟩ ⟨#[124,124]⟩).f4,(a3i.mk ⟨#[61,61]⟩ ⟨#[33,61]⟩ ⟨#[60,61]⟩ ⟨#[62,61]⟩ ⟨#[38,38]⟩ ⟨#[124,124]⟩).f5]:List BA).getD (M5:Int).toNat ⟨#[]⟩)),(vi 0),(vi 0),(vi 0)]) λbw ad bz=>?_)
   exact D9 isAgg127 sizeOf127 rfl ad (hR _ ax _ _ ((ad.drop.bring 1).bring 1) ⟨(d6.mk 4 (([(a3i.mk ⟨#[61,61]⟩ ⟨#[33,61]⟩ ⟨#[60,61]⟩ ⟨#[62,61]⟩ ⟨#[38,38]⟩ ⟨#[124,124]⟩).f0,(a3i.mk ⟨#[61,61]⟩ ⟨#[33,61]⟩ ⟨#[60,61]⟩ ⟨#[62,61]⟩ ⟨#[38,38]⟩ ⟨#[124,124]⟩).f1,(a3i.mk ⟨#[61,61]⟩ ⟨#[33,61]⟩ ⟨#[60,61]⟩ ⟨#[62,61]⟩ ⟨#[38,38]⟩ ⟨#[124,124]⟩).f2,(a3i.mk ⟨#[61,61]⟩ ⟨#[33,61]⟩ ⟨#[60,61]⟩ ⟨#[62,61]⟩ ⟨#[38,38]⟩ ⟨#[124,124]⟩).f3,(a3i.mk ⟨#[61,61]⟩ ⟨#[33,61]⟩ ⟨#[60,61]⟩ ⟨#[62,61]⟩ ⟨#[38,38]⟩ ⟨#[124,124]⟩).f4,(a3i.mk ⟨#[61,61]⟩ ⟨#[33,61]⟩ ⟨#[60,61]⟩ ⟨#[62,61]⟩ ⟨#[38,38]⟩ ⟨#[124,124]⟩).f5]:List BA).getD (M5:Int).toNat ⟨#[]⟩) 0 (f8.mk 0 0)),0,(C9 az),ba,bb,bc,rfl,rfl,bd,h⟩)
  ·exact c7 pAd (hn2 _ _ _ (hm2 _ _ h).2 ⟨((IntKind.wrap .i64 (M5+1)),d,B4,u6,z8,A4),aq,N2,rfl,rfl,W9,(((ac.bring 1).bring 1).bring 2),(hm2 _ _ h).1⟩)
 ·exact hx1 _ _ (hj1 d _ _ _ _ _ H _ W9 (((I.bring 2).bring 2).bring 2) h)
def a4Z [PanQ] (_:T9) (L0:c8) (H:Hp) (K:Int->c8->Hp->Prop):=
 M2 L0 H (λa=>
 K 0 L0 a)
def a5a [PanQ] (G4:T9) (c:T9) (M5:Int) (aa:c8) (H:Hp) (n2:KT (Int×c8)) (K:Int->c8->Hp->Prop):=
 (M5 < 7->
 (0:Int)<=M5/\(M5:Int) < 7/\
 TG ((decide (0 < M5))=true) (λk_=>B6 aa (([G4.f0,G4.f1,G4.f2,G4.f3,G4.f4,G4.f5,G4.f6]:List BA).getD (M5:Int).toNat ⟨#[]⟩) H λd e H_=>k_ (d,e) H_) (false,aa) H (λ(a:Bool×c8)(b:Hp)=>
 (((decide (0 < M5))&&a.1)=true->
 K M5 a.2 b)/\
 (((decide (0 < M5))&&a.1)=false->
 n2 ((IntKind.wrap .i64 (M5+1)),a.2) b)))/\
 (¬(M5 < 7)->
 a4Z c aa H K)
def a6b [PanQ] (x0:c8) (H:Hp) (K:Int->c8->Hp->Prop):=
 TL ((0,x0):Int×c8) H λ(s:Int×c8) H n2=>a5a (T9.mk ⟨#[]⟩ ⟨#[60]⟩ ⟨#[60,61]⟩ ⟨#[61,61]⟩ ⟨#[33,61]⟩ ⟨#[62]⟩ ⟨#[62,61]⟩) (T9.mk ⟨#[]⟩ ⟨#[60]⟩ ⟨#[60,61]⟩ ⟨#[61,61]⟩ ⟨#[33,61]⟩ ⟨#[62]⟩ ⟨#[62,61]⟩) s.1 s.2 H n2 K
theorem b1x [PanQ] (x0:c8) {H:Hp} {K:Int->c8->Hp->Prop} (h:a6b x0 H K):a2o x0 H K:=by
 intro g0
 refine Ct.ofE λw0 w ps0 H0 R E I hR hE=>d9Q (c7 (b5f _ _ _ _ _ _ _) ?_)
 refine r8 I zeroValue263 rfl λg v q y=>v8 q sizeOf263 (vs:=[(eS),(wS ⟨#[60]⟩),(wS ⟨#[60,61]⟩),(wS ⟨#[61,61]⟩),(wS ⟨#[33,61]⟩),(wS ⟨#[62]⟩),(wS ⟨#[62,61]⟩)]) λz k aa=>?_
 have hj1:∀L0 H w,Inv w0 ps0 H0 H [bx g 263 [(wS (T9.mk ⟨#[]⟩ ⟨#[60]⟩ ⟨#[60,61]⟩ ⟨#[61,61]⟩ ⟨#[33,61]⟩ ⟨#[62]⟩ ⟨#[62,61]⟩).f0),(wS (T9.mk ⟨#[]⟩ ⟨#[60]⟩ ⟨#[60,61]⟩ ⟨#[61,61]⟩ ⟨#[33,61]⟩ ⟨#[62]⟩ ⟨#[62,61]⟩).f1),(wS (T9.mk ⟨#[]⟩ ⟨#[60]⟩ ⟨#[60,61]⟩ ⟨#[61,61]⟩ ⟨#[33,61]⟩ ⟨#[62]⟩ ⟨#[62,61]⟩).f2),(wS (T9.mk ⟨#[]⟩ ⟨#[60]⟩ ⟨#[60,61]⟩ ⟨#[61,61]⟩ ⟨#[33,61]⟩ ⟨#[62]⟩ ⟨#[62,61]⟩).f3),(wS (T9.mk ⟨#[]⟩ ⟨#[60]⟩ ⟨#[60,61]⟩ ⟨#[61,61]⟩ ⟨#[33,61]⟩ ⟨#[62]⟩ ⟨#[62,61]⟩).f4),(wS (T9.mk ⟨#[]⟩ ⟨#[60]⟩ ⟨#[60,61]⟩ ⟨#[61,61]⟩ ⟨#[33,61]⟩ ⟨#[62]⟩ ⟨#[62,61]⟩).f5),(wS (T9.mk ⟨#[]⟩ ⟨#[60]⟩ ⟨#[60,61]⟩ ⟨#[61,61]⟩ ⟨#[33,61]⟩ ⟨#[62]⟩ ⟨#[62,61]⟩).f6)],bx g0 125 (f9 L0)] w->a4Z (T9.mk ⟨#[]⟩ ⟨#[60]⟩ ⟨#[60,61]⟩ ⟨#[61,61]⟩ ⟨#[33,61]⟩ ⟨#[62]⟩ ⟨#[62,61]⟩) L0 H K->c9x (pt g0) w R E:=by
  intro L0 H w I h
  intro _
  refine D8 hE call56 (h g0) (I.bring 1) ?_
  rintro _ r _ ab s _ _ ⟨rfl,rfl,h⟩
  exact hR _ r _ _ (s.bring 1).drop ⟨0,_,rfl,rfl,h⟩
 refine u7 λj1 hx1=>d7 (ldA isAgg263 sizeOf263 rfl (k.at1 (o:=0) (vs:=[(eS),(wS ⟨#[60]⟩),(wS ⟨#[60,61]⟩),(wS ⟨#[61,61]⟩),(wS ⟨#[33,61]⟩),(wS ⟨#[62]⟩),(wS ⟨#[62,61]⟩)]) (nb rfl) rfl)) (a2f (σ:=Int×c8) (λ(M5,ad)=>[(vi M5)]) (λ(M5,ad)=>[bx g 263 [(wS (T9.mk ⟨#[]⟩ ⟨#[60]⟩ ⟨#[60,61]⟩ ⟨#[61,61]⟩ ⟨#[33,61]⟩ ⟨#[62]⟩ ⟨#[62,61]⟩).f0),(wS (T9.mk ⟨#[]⟩ ⟨#[60]⟩ ⟨#[60,61]⟩ ⟨#[61,61]⟩ ⟨#[33,61]⟩ ⟨#[62]⟩ ⟨#[62,61]⟩).f1),(wS (T9.mk ⟨#[]⟩ ⟨#[60]⟩ ⟨#[60,61]⟩ ⟨#[61,61]⟩ ⟨#[33,61]⟩ ⟨#[62]⟩ ⟨#[62,61]⟩).f2),(wS (T9.mk ⟨#[]⟩ ⟨#[60]⟩ ⟨#[60,61]⟩ ⟨#[61,61]⟩ ⟨#[33,61]⟩ ⟨#[62]⟩ ⟨#[62,61]⟩).f3),(wS (T9.mk ⟨#[]⟩ ⟨#[60]⟩ ⟨#[60,61]⟩ ⟨#[61,61]⟩ ⟨#[33,61]⟩ ⟨#[62]⟩ ⟨#[62,61]⟩).f4),(wS (T9.mk ⟨#[]⟩ ⟨#[60]⟩ ⟨#[60,61]⟩ ⟨#[61,61]⟩ ⟨#[33,61]⟩ ⟨#[62]⟩ ⟨#[62,61]⟩).f5),(wS (T9.mk ⟨#[]⟩ ⟨#[60]⟩ ⟨#[60,61]⟩ ⟨#[61,61]⟩ ⟨#[33,61]⟩ ⟨#[62]⟩ ⟨#[62,61]⟩).f6)],bx g0 125 (f9 ad)]) h rfl ((k.bring 1).bring 1) ?_)
 rintro ⟨M5,ad⟩ H ac w next2 n2 j I h hn2
 have j:=lE1 j
 have e8:=j
 simp only [e8]
 refine c7 pLs (j7 h (λ_ h=>?_) (λ_ h=>?_))
 ·obtain ⟨t,u,h⟩:=h
  refine c7 (d0I _ _ _ _ _ _ _ _ _ t u) (c7 pGt ?_)
  simp only [K6]
  refine b9j (D:=λl e=>∃(d:Bool)(a:c8)(b:Hp),l=(gv (decide (0 < M5)) true (vB d))/\(Inv w0 ps0 H0 b [bx g0 125 (f9 a),bx g 263 [(wS (T9.mk ⟨#[]⟩ ⟨#[60]⟩ ⟨#[60,61]⟩ ⟨#[61,61]⟩ ⟨#[33,61]⟩ ⟨#[62]⟩ ⟨#[62,61]⟩).f0),(wS (T9.mk ⟨#[]⟩ ⟨#[60]⟩ ⟨#[60,61]⟩ ⟨#[61,61]⟩ ⟨#[33,61]⟩ ⟨#[62]⟩ ⟨#[62,61]⟩).f1),(wS (T9.mk ⟨#[]⟩ ⟨#[60]⟩ ⟨#[60,61]⟩ ⟨#[61,61]⟩ ⟨#[33,61]⟩ ⟨#[62]⟩ ⟨#[62,61]⟩).f2),(wS (T9.mk ⟨#[]⟩ ⟨#[60]⟩ ⟨#[60,61]⟩ ⟨#[61,61]⟩ ⟨#[33,61]⟩ ⟨#[62]⟩ ⟨#[62,61]⟩).f3),(wS (T9.mk ⟨#[]⟩ ⟨#[60]⟩ ⟨#[60,61]⟩ ⟨#[61,61]⟩ ⟨#[33,61]⟩ ⟨#[62]⟩ ⟨#[62,61]⟩).f4),(wS (T9.mk ⟨#[]⟩ ⟨#[60]⟩ ⟨#[60,61]⟩ ⟨#[61,61]⟩ ⟨#[33,61]⟩ ⟨#[62]⟩ ⟨#[62,61]⟩).f5),(wS (T9.mk ⟨#[]⟩ ⟨#[60]⟩ ⟨#[60,61]⟩ ⟨#[61,61]⟩ ⟨#[33,61]⟩ ⟨#[62]⟩ ⟨#[62,61]⟩).f6)]] e)/\(∀i,i < w.heap.size->¬inF [bx g0 125 (f9 ad)] i->e.heap[i]? = w.heap[i]?)/\Hle H b/\((((decide (0 < M5))&&d)=true->
 K M5 a b)/\
 (((decide (0 < M5))&&d)=false->
 n2 ((IntKind.wrap .i64 (M5+1)),a) b))) (λc=>?_) (λc=>?_) ?_
  ·replace h:=h.1 c
   have m:=c
   simp only [p6 m]
   refine f7 call96 (h g0) (I.bring 1) ?_
   rintro _ b _ e f n p ⟨d,a,rfl,rfl,h⟩
   exact ⟨d,a,b,by rfl,f,p,n,h⟩
  ·exact ⟨false,ad,H,by rw [c1s c],(I.bring 1),λ_ _ _=>rfl,Hle.refl _,h.2 c⟩
  ·clear h
   rintro l e ⟨d,a,b,rfl,f,p,n,h⟩
   refine c7 (M3 _ _) (t6 h (λ_ h=>?_) (λ_ h=>?_))
   ·exact hR _ b _ _ (f.bring 1).drop ⟨_,a,rfl,rfl,h⟩
   ·exact c7 pAd (hn2 ((IntKind.wrap .i64 (M5+1)),a) _ _ h (f.bring 1))
 ·exact hx1 _ _ (hj1 _ H _ ((I.bring 1).bring 1) h)
def b3k(x0:f8)(x1:Int)(H)(K:KT f8):=
 (x1=10->
 K (f8.mk (IntKind.wrap .i64 (x0.Q3+1)) 1) H)/\
 (¬(x1=10)->
 K (f8.mk x0.Q3 (IntKind.wrap .i64 (x0.Z6+1))) H)
theorem b9z(x0 x1){H K}(h:b3k x0 x1 H K):b2Z x0 x1 H K:=by
 refine Ct.of λw0 w ps0 H0 R E I hR=>d9E (D3 I rfl λe f d g=>?_)
 refine r8 d zeroValue47 rfl λi j a k=>c7 pEq (j7 h (λ_ h=>?_) (λ_ h=>?_))
 ·refine c7 b7R (d7 (l1 isAgg3 (a.bring 1) rfl) (c7 pAd (c7 (b0C _ _) ?_)))
  exact v8 a sizeOf47 (vs:=[(vi (IntKind.wrap .i64 (x0.Q3+1))),(vi 1)]) λl b m=>D9 isAgg47 sizeOf47 rfl b (hR _ H _ _ b.drop.drop ⟨_,rfl,rfl,h⟩)
 ·refine c7 b7R (d7 (l1 isAgg3 (a.bring 1) rfl) (c7 b7Q (d7 (l1 isAgg3 (a.bring 1) rfl) (c7 pAd ?_))))
  refine c7 (b0C _ _) (v8 a sizeOf47 (vs:=[(vi x0.Q3),(vi (IntKind.wrap .i64 (x0.Z6+1)))]) λn c o=>?_)
  exact D9 isAgg47 sizeOf47 rfl c (hR _ H _ _ c.drop.drop ⟨_,rfl,rfl,h⟩)
def a6c(_:a3S)(L0)(H)(K:Int->c8->Hp->Prop):=
 K 0 L0 H
def a6d(M5:Sl)(aa:Int)(a:a3S)(B8:Int)(ab)(H)(n2:KT (Int×c8))(K:Int->c8->Hp->Prop):=
 (B8 < aa->
 (0:Int)<=B8/\(B8:Int) < M5.n/\∃c:BA,EltH H M5 B8 1 [(wS c)]/\
 B6 ab c H (λd e b=>
 (d=true->
 (0:Int)<=B8/\(B8:Int) < a.fkinds.n/\∃f:Int,EltH b a.fkinds B8 1 [(vi f)]/\
 K f e b)/\
 (d=false->
 n2 ((IntKind.wrap .i64 (B8+1)),e) b)))/\
 (¬(B8 < aa)->
 a6c a ab H K)
def a7i(x0)(x1:a3S)(H)(K:Int->c8->Hp->Prop):=
 TL ((0,x0):Int×c8) H λ(s:Int×c8) H n2=>a6d x1.fsigns (x1.fsigns.n:Int) x1 s.1 s.2 H n2 K
theorem b3l(x0 x1){H K}(h:a7i x0 x1 H K):a3Z x0 x1 H K:=by
 intro g0
 refine Ct.of λw0 w ps0 H0 R E I hR=>d9M (D3 I rfl λe r f s=>?_)
 have hj1:∀L0 H w,Inv w0 ps0 H0 H [bx e 228 (a0y x1),bx g0 125 (f9 L0)] w->a6c x1 L0 H K->c9v w R E:=by
  intro L0 H w I h
  intro _
  exact hR _ H _ _ I.drop ⟨0,_,rfl,rfl,h⟩
 refine u7 λj1 hx1=>c7 c8n (d7 (l1 isAgg28 f rfl) (c7 (a3T _ _ _) ?_))
 refine a2f (σ:=Int×c8) (λ(B8,ad)=>[(vi B8)]) (λ(B8,ad)=>[bx e 228 (a0y x1),bx g0 125 (f9 ad)]) h rfl ((f.bring 1).bring 1) ?_
 rintro ⟨B8,ad⟩ H t w next2 n2 b I h hn2
 have b:=lE1 b
 have e10:=b
 simp only [e10]
 refine c7 pLs (j7 h (λ_ h=>?_) (λ_ h=>?_))
 ·obtain ⟨j,k,l,c,h⟩:=h
  obtain ⟨u,y,m,c⟩:=c
  refine c7 (b2h m _ _ _ _ j k) (d7 (ld1 (v:=(wS l)) isAgg9 (I.atH c)) ?_)
  refine f7 call96 (h g0) (I.bring 1) ?_
  rintro _ n _ z a _ _ ⟨aa,g,rfl,rfl,h⟩
  refine t6 h (λ_ h=>?_) (λ_ h=>?_)
  ·refine c7 c8o (d7 (l1 isAgg26 (a.bring 1) rfl) ?_)
   obtain ⟨o,p,i,d,h⟩:=h
   obtain ⟨ab,ac,q,d⟩:=d
   refine c7 (a0R q _ _ _ _ o p) (d7 (ld1 (v:=(vi i)) isAgg3 (a.atH d)) ?_)
   exact hR _ n _ _ (a.bring 1).drop ⟨i,g,rfl,rfl,h⟩
  ·exact c7 pAd (hn2 ((IntKind.wrap .i64 (B8+1)),g) _ _ h (a.bring 1))
 ·exact hx1 _ _ (hj1 _ H _ ((I.bring 1).bring 1) h)
def a0r(aa:Bool)(ab:Int)(ad:Bool)(a:N8)(_:a0D)(H)(K:KT Bool):=
 (ad=true->
 K (aa&&(decide (a.fexprs=0/\a.fconds=1))) H)/\
 (ad=false->
 (ab=7->
 K (aa&&(decide (a.fexprs=0/\a.fconds=0))) H)/\
 (¬(ab=7)->
 K false H))
def b0i(x0:a0D)(H)(K:KT Bool):=
 (x0.t8.d9=1->
 K ((!(decide (0 < (IntKind.wrap .i64 ((x0.t8.T5.n:Int)+(x0.t8.T6.n:Int))))))&&(decide ((x0.t8.z7.n:Int)=1/\(x0.t8.D4.n:Int)=0))) H)/\
 (¬(x0.t8.d9=1)->
 (x0.t8.d9=2->
 K ((!(decide (0 < (IntKind.wrap .i64 ((x0.t8.T5.n:Int)+(x0.t8.T6.n:Int))))))&&(decide ((x0.t8.z7.n:Int)=2/\(x0.t8.D4.n:Int)=0))) H)/\
 (¬(x0.t8.d9=2)->
 (x0.t8.d9=3->
 K ((decide (x0.t8.o7=⟨#[]⟩))&&(decide ((x0.t8.z7.n:Int)=0/\(x0.t8.D4.n:Int)=1))) H)/\
 (¬(x0.t8.d9=3)->
 (x0.t8.d9=4->
 K (((decide (x0.t8.o7=⟨#[]⟩))&&(decide ((x0.t8.T6.n:Int)=0)))&&(decide ((x0.t8.z7.n:Int)=0/\(x0.t8.D4.n:Int)=1))) H)/\
 (¬(x0.t8.d9=4)->
 (x0.t8.d9=5->
 a0r ((decide (x0.t8.o7=⟨#[]⟩))&&(!(decide (0 < (IntKind.wrap .i64 ((x0.t8.T5.n:Int)+(x0.t8.T6.n:Int))))))) x0.t8.d9 (decide (x0.t8.d9=5)) (N8.mk (x0.t8.z7.n:Int) (x0.t8.D4.n:Int)) x0 H K)/\
 (¬(x0.t8.d9=5)->
 a0r ((decide (x0.t8.o7=⟨#[]⟩))&&(!(decide (0 < (IntKind.wrap .i64 ((x0.t8.T5.n:Int)+(x0.t8.T6.n:Int))))))) x0.t8.d9 (decide (x0.t8.d9=6)) (N8.mk (x0.t8.z7.n:Int) (x0.t8.D4.n:Int)) x0 H K)))))
theorem b5Z(x0){H K}(h:b0i x0 H K):a5K x0 H K:=by
 refine Ct.of λw0 w ps0 H0 R E I hR=>d9V (D3 I rfl λe i c j=>?_)
 refine c7 V0 (c7 a2k (d7 (l1 isAgg23 c rfl) (c7 (a1P _ _ _) (c7 V0 ?_))))
 refine c7 a4J (d7 (l1 isAgg23 c rfl) (c7 (a1P _ _ _) (c7 pAd (c7 pGt ?_))))
 refine c7 V0 (c7 a1A (d7 (l1 isAgg52 c rfl) (c7 (a7e _ _ _) (c7 V0 ?_))))
 refine c7 Z8 (d7 (l1 isAgg53 c rfl) (c7 (b2T _ _ _) (c7 (a5d _ _) ?_)))
 refine r8 c zeroValue294 rfl λd k f l=>v8 f sizeOf294 (vs:=[(vi (x0.t8.z7.n:Int)),(vi (x0.t8.D4.n:Int))]) λm b p=>c7 V0 (c7 a2j (d7 (l1 isAgg9 (b.bring 1) rfl) (c7 (a0C _ _ _ _ _) ?_)))
 simp only [K6]
 refine c7 (Pu.g λa=>by simp only [p6 a];with_reducible exact (R5 _)) ?_
 refine c7 (M3 _ _) (c7 V0 (c7 a1d (d7 (l1 isAgg3 (b.bring 1) rfl) (c7 pEq ?_))))
 refine j7 h (λ_ h=>?_) (λ_ h=>?_)
 ·refine c7 (R5 _) (d7 (Ld.g λa=>by exact (ldA isAgg294 sizeOf294 rfl (b.at1 (o:=0) (vs:=[(vi (x0.t8.z7.n:Int)),(vi (x0.t8.D4.n:Int))]) (nb rfl) rfl))) ?_)
  refine c7 (Pu.g λa=>by with_reducible exact (a5d _ _)) ?_
  refine c7 (Pu.g λa=>by simp only [p6 a];with_reducible exact (b0S _ _ _ _ _ _)) ?_
  exact c7 (M3 _ _) (hR _ H _ _ b.drop.drop ⟨_,rfl,rfl,h⟩)
 ·refine c7 pEq (j7 h (λ_ h=>?_) (λ_ h=>?_))
  ·refine c7 (R5 _) (d7 (Ld.g λa=>by exact (ldA isAgg294 sizeOf294 rfl (b.at1 (o:=0) (vs:=[(vi (x0.t8.z7.n:Int)),(vi (x0.t8.D4.n:Int))]) (nb rfl) rfl))) ?_)
   refine c7 (Pu.g λa=>by with_reducible exact (a5d _ _)) ?_
   refine c7 (Pu.g λa=>by simp only [p6 a];with_reducible exact (b0S _ _ _ _ _ _)) ?_
   exact c7 (M3 _ _) (hR _ H _ _ b.drop.drop ⟨_,rfl,rfl,h⟩)
  ·refine c7 pEq (j7 h (λ_ h=>?_) (λ_ h=>?_))
   ·refine c7 V0 (c7 a2j (d7 (l1 isAgg9 (b.bring 1) rfl) (c7 (a0C _ _ _ _ _) ?_)))
    refine d7 (Ld.g λa=>by exact (ldA isAgg294 sizeOf294 rfl (b.at1 (o:=0) (vs:=[(vi (x0.t8.z7.n:Int)),(vi (x0.t8.D4.n:Int))]) (nb rfl) rfl))) (c7 (Pu.g λa=>by with_reducible exact (a5d _ _)) ?_)
    refine c7 (Pu.g λa=>by simp only [p6 a];with_reducible exact (b0S _ _ _ _ _ _)) ?_
    exact c7 (M3 _ _) (hR _ H _ _ b.drop.drop ⟨_,rfl,rfl,h⟩)
   ·refine c7 pEq (j7 h (λ_ h=>?_) (λ_ h=>?_))
    ·refine c7 V0 (c7 a2j (d7 (l1 isAgg9 (b.bring 1) rfl) (c7 (a0C _ _ _ _ _) ?_)))
     refine c7 (Pu.g λa=>by with_reducible exact V0) ?_
     refine c7 (Pu.g λa=>by simp only [p6 a];with_reducible exact a4J) ?_
     refine d7 (Ld.g λa=>by simp only [p6 a];exact (l1 isAgg23 (b.bring 1) rfl)) ?_
     refine c7 (Pu.g λa=>by simp only [p6 a];with_reducible exact (a1P _ _ _)) ?_
     refine c7 (Pu.g λa=>by simp only [p6 a];with_reducible exact pEq) ?_
     refine c7 (M3 _ _) (d7 (Ld.g λa=>by exact (ldA isAgg294 sizeOf294 rfl (b.at1 (o:=0) (vs:=[(vi (x0.t8.z7.n:Int)),(vi (x0.t8.D4.n:Int))]) (nb rfl) rfl))) ?_)
     refine c7 (Pu.g λa=>by with_reducible exact (a5d _ _)) ?_
     refine c7 (Pu.g λa=>by simp only [p6 a];with_reducible exact (b0S _ _ _ _ _ _)) ?_
     exact c7 (M3 _ _) (hR _ H _ _ b.drop.drop ⟨_,rfl,rfl,h⟩)
    ·have hj1:∀aa H w,Inv w0 ps0 H0 H [bx d 294 [(vi (N8.mk (x0.t8.z7.n:Int) (x0.t8.D4.n:Int)).fexprs),(vi (N8.mk (x0.t8.z7.n:Int) (x0.t8.D4.n:Int)).fconds)],bx e 202 (q9 x0.t8)] w->a0r ((decide (x0.t8.o7=⟨#[]⟩))&&(!(decide (0 < (IntKind.wrap .i64 ((x0.t8.T5.n:Int)+(x0.t8.T6.n:Int))))))) x0.t8.d9 aa (N8.mk (x0.t8.z7.n:Int) (x0.t8.D4.n:Int)) x0 H K->c9z (pt d) (vB ((decide (x0.t8.o7=⟨#[]⟩))&&(!(decide (0 < (IntKind.wrap .i64 ((x0.t8.T5.n:Int)+(x0.t8.T6.n:Int)))))))) (vi x0.t8.d9) (vB aa) w R E:=by
      intro aa H w I h
      intro _
      refine t6 h (λ_ h=>?_) (λ_ h=>?_)
      ·refine d7 (Ld.g λa=>by exact (ldA isAgg294 sizeOf294 rfl (I.at1 (o:=0) (vs:=[(vi (N8.mk (x0.t8.z7.n:Int) (x0.t8.D4.n:Int)).fexprs),(vi (N8.mk (x0.t8.z7.n:Int) (x0.t8.D4.n:Int)).fconds)]) (nb rfl) rfl))) (c7 (Pu.g λa=>by with_reducible exact (a5d _ _)) ?_)
       refine c7 (Pu.g λa=>by simp only [p6 a];with_reducible exact (b0S _ _ _ _ _ _)) ?_
       exact c7 (M3 _ _) (hR _ H _ _ I.drop.drop ⟨_,rfl,rfl,h⟩)
      ·refine c7 pEq (j7 h (λ_ h=>?_) (λ_ h=>?_))
       ·refine d7 (Ld.g λa=>by exact (ldA isAgg294 sizeOf294 rfl (I.at1 (o:=0) (vs:=[(vi (N8.mk (x0.t8.z7.n:Int) (x0.t8.D4.n:Int)).fexprs),(vi (N8.mk (x0.t8.z7.n:Int) (x0.t8.D4.n:Int)).fconds)]) (nb rfl) rfl))) (c7 (Pu.g λa=>by with_reducible exact (d0K)) ?_)
        refine c7 (Pu.g λa=>by simp only [p6 a];with_reducible exact (b0S _ _ _ _ _ _)) ?_
        exact c7 (M3 _ _) (hR _ H _ _ I.drop.drop ⟨_,rfl,rfl,h⟩)
       ·exact hr1 hR I.drop.drop h
     refine u7 λj1 hx1=>c7 pEq (j7 h (λ_ h=>?_) (λ_ h=>?_))
     ·exact hx1 _ _ (hj1 _ H _ ((b.bring 1).bring 1) h)
     ·exact c7 pEq (hx1 _ _ (hj1 _ H _ ((b.bring 1).bring 1) h))
def b1y(x0)(H)(K:KT j8):=
 K (j8.Q2 (U6.mk x0)) H
theorem b8k(x0){H K}(h:b1y x0 H K):b1o x0 H K:=by
 refine Ct.of λw0 w ps0 H0 R E I hR=>e0c (D3 I rfl λb c a d=>?_)
 refine d7 (lW isAgg112 sizeOf112 rfl a) (c7 (c6s _ _ _ _ _ _) (c7 (b6X (U6.mk x0)) ?_))
 exact hr1 hR a.drop h
def a9s(x0:U6)(H)(K:KT Sl):=
 G8 x0.C8.L8 H (λa b=>
 K a b)
theorem b5D(x0){H K}(h:a9s x0 H K):a9g x0 H K:=by
 refine Ct.of λw0 w ps0 H0 R E I hR=>e0e (D3 I rfl λe f a g=>?_)
 refine c7 a2e (c7 a0Z (d7 (l1 isAgg52 a rfl) ?_))
 exact oc1 call214 h a λd b i c h=>hr1 hR c.drop h
def a8j(x0)(a:(List Int))(H)(K:KT Bool):=
 a6B (s8 x0) a H (λb c=>
 K (decide (65536 < b)) c)
theorem b3U(x0 a){H K}(h:a8j x0 a H K):a1D x0 a H K:=by
 intro g0 b c d
 refine Ct.of λw0 w ps0 H0 R E I hR=>e2l (c7 (t7 _) (c7 b7L ?_))
 refine f7 call52 (h g0 b c d) ((I.bring 1).bring 1) ?_
 rintro _ e _ i f _ _ ⟨g,rfl,rfl,h⟩
 exact c7 pGt (hR _ e _ _ ((f.bring 1).bring 1) ⟨_,rfl,rfl,h⟩)
def b7e(x0:Int)(x1:Int)(x2:Int)(H)(K:KT Bool):=
 K ((decide (x0<=x2))&&(decide (x2<=x1))) H
theorem b7f(x0 x1 x2){H K}(h:b7e x0 x1 x2 H K):R8 x0 x1 x2 H K:=by
 intro g2
 refine Ct.of λw0 w ps0 H0 R E I hR=>d9F (d7 (l1 isAgg21 I rfl) (c7 pLe ?_))
 refine d7 (Ld.g λa=>by exact (l1 isAgg21 I rfl)) ?_
 simp only [K6]
 refine c7 (Pu.g λa=>by simp only [p6 a];with_reducible exact pLe) ?_
 exact c7 (M3 _ _) (hR _ H _ _ I ⟨_,rfl,rfl,h⟩)
def O3(aa:Bool)(_:Int)(H)(K:KT Int):=
 (aa=true->
 K 3 H)/\
 (aa=false->
 K 6 H)
def a0z(aa:Bool)(a:Int)(H)(K:KT Int):=
 (aa=true->
 K 6 H)/\
 (aa=false->
 R8 48 57 a H (λg b=>
 (g=true->
 K 4 b)/\
 (g=false->
 (a=95->
 O3 (decide (a=95)) a b K)/\
 (¬(a=95)->
 R8 97 122 a b (λc i=>
 (c=true->
 O3 c a i K)/\
 (c=false->
 R8 65 90 a i (λd j=>
 (d=true->
 O3 d a j K)/\
 (d=false->
 R8 192 591 a j (λe k=>
 (e=true->
 O3 e a k K)/\
 (e=false->
 R8 913 969 a k (λf l=>
 (f=true->
 O3 f a l K)/\
 (f=false->
 R8 1040 1103 a l (λm n=>
 O3 m a n K)))))))))))))
def A5(aa:Int)(ab:Bool)(a:Int)(H)(K:KT Int):=
 (ab=true->
 K 5 H)/\
 (ab=false->
 (aa=215->
 a0z (decide (aa=215)) a H K)/\
 (¬(aa=215)->
 (aa=247->
 a0z (decide (aa=247)) a H K)/\
 (¬(aa=247)->
 a0z (decide (aa=930)) a H K)))
def a0A(E2:Int)(aa:Bool)(a:Int)(H)(K:KT Int):=
 (aa=true->
 K 1 H)/\
 (aa=false->
 (E2=10->
 K 2 H)/\
 (¬(E2=10)->
 (E2=59->
 A5 E2 (decide (E2=59)) a H K)/\
 (¬(E2=59)->
 (E2=44->
 A5 E2 (decide (E2=44)) a H K)/\
 (¬(E2=44)->
 (E2=123->
 A5 E2 (decide (E2=123)) a H K)/\
 (¬(E2=123)->
 (E2=125->
 A5 E2 (decide (E2=125)) a H K)/\
 (¬(E2=125)->
 (E2=40->
 A5 E2 (decide (E2=40)) a H K)/\
 (¬(E2=40)->
 (E2=41->
 A5 E2 (decide (E2=41)) a H K)/\
 (¬(E2=41)->
 (E2=91->
 A5 E2 (decide (E2=91)) a H K)/\
 (¬(E2=91)->
 (E2=93->
 A5 E2 (decide (E2=93)) a H K)/\
 (¬(E2=93)->
 (E2=61->
 A5 E2 (decide (E2=61)) a H K)/\
 (¬(E2=61)->
 (E2=33->
 A5 E2 (decide (E2=33)) a H K)/\
 (¬(E2=33)->
 (E2=60->
 A5 E2 (decide (E2=60)) a H K)/\
 (¬(E2=60)->
 (E2=62->
 A5 E2 (decide (E2=62)) a H K)/\
 (¬(E2=62)->
 (E2=43->
 A5 E2 (decide (E2=43)) a H K)/\
 (¬(E2=43)->
 (E2=45->
 A5 E2 (decide (E2=45)) a H K)/\
 (¬(E2=45)->
 (E2=42->
 A5 E2 (decide (E2=42)) a H K)/\
 (¬(E2=42)->
 (E2=47->
 A5 E2 (decide (E2=47)) a H K)/\
 (¬(E2=47)->
 (E2=37->
 A5 E2 (decide (E2=37)) a H K)/\
 (¬(E2=37)->
 (E2=38->
 A5 E2 (decide (E2=38)) a H K)/\
 (¬(E2=38)->
 A5 E2 (decide (E2=124)) a H K))))))))))))))))))))
def b2c(x0:Int)(H)(K:KT Int):=
 (x0=32->
 a0A x0 (decide (x0=32)) x0 H K)/\
 (¬(x0=32)->
 (x0=9->
 a0A x0 (decide (x0=9)) x0 H K)/\
 (¬(x0=9)->
 a0A x0 (decide (x0=13)) x0 H K))
theorem b8Z(x0){H K}(h:b2c x0 H K):X8 x0 H K:=by
 refine Ct.of λw0 w ps0 H0 R E I hR=>d9d (D3 I rfl λa u b v=>?_)
 refine d7 (l1 isAgg21 b rfl) ?_
 have hj1:∀ag H w,Inv w0 ps0 H0 H [bx a 21 [(Value.int .i32 x0)]] w->a0A x0 ag x0 H K->c9l (pt a) (Value.int .i32 x0) (vB ag) w R E:=by
  intro ag H w I h
  intro _
  refine t6 h (λ_ h=>?_) (λ_ h=>?_)
  ·exact hr1 hR I.drop h
  ·refine c7 pEq (j7 h (λ_ h=>?_) (λ_ h=>?_))
   ·exact hr1 hR I.drop h
   ·have hj2:∀ah H w,Inv w0 ps0 H0 H [bx a 21 [(Value.int .i32 x0)]] w->A5 x0 ah x0 H K->c9k (pt a) (Value.int .i32 x0) (vB ah) w R E:=by
     intro ah H w I h
     intro _
     refine t6 h (λ_ h=>?_) (λ_ h=>?_)
     ·exact hr1 hR I.drop h
     ·have hj3:∀ai H w,Inv w0 ps0 H0 H [bx a 21 [(Value.int .i32 x0)]] w->a0z ai x0 H K->c9j (pt a) (vB ai) w R E:=by
       intro ai H w I h
       intro _
       refine t6 h (λ_ h=>?_) (λ_ h=>?_)
       ·exact hr1 hR I.drop h
       ·refine c7 (Q7 _ _ _) (a7R (cap:=[(pt a)]) call162 (h a) I ?_)
        rintro _ d _ y c _ _ ⟨z,rfl,rfl,h⟩
        refine t6 h (λ_ h=>?_) (λ_ h=>?_)
        ·exact hr1 hR c.drop h
        ·have hj4:∀aj H w,Inv w0 ps0 H0 H [bx a 21 [(Value.int .i32 x0)]] w->O3 aj x0 H K->c9i (vB aj) w R E:=by
          intro aj H w I h
          intro _
          refine t6 h (λ_ h=>?_) (λ_ h=>?_)
          ·exact hr1 hR I.drop h
          ·exact hr1 hR I.drop h
         refine u7 λj4 hx4=>d7 (l1 isAgg21 c rfl) (c7 pEq ?_)
         refine j7 h (λ_ h=>?_) (λ_ h=>?_)
         ·exact hx4 _ _ (hj4 _ d _ c h)
         ·refine a7R (cap:=[(pt a)]) call162 (h a) c ?_
          rintro _ j _ aa e _ _ ⟨k,rfl,rfl,h⟩
          refine t6 h (λ_ h=>?_) (λ_ h=>?_)
          ·exact hx4 _ _ (hj4 k j _ e h)
          ·refine a7R (cap:=[(pt a)]) call162 (h a) e ?_
           rintro _ l _ ab f _ _ ⟨m,rfl,rfl,h⟩
           refine t6 h (λ_ h=>?_) (λ_ h=>?_)
           ·exact hx4 _ _ (hj4 m l _ f h)
           ·refine a7R (cap:=[(pt a)]) call162 (h a) f ?_
            rintro _ n _ ac g _ _ ⟨o,rfl,rfl,h⟩
            refine t6 h (λ_ h=>?_) (λ_ h=>?_)
            ·exact hx4 _ _ (hj4 o n _ g h)
            ·refine a7R (cap:=[(pt a)]) call162 (h a) g ?_
             rintro _ p _ ad i _ _ ⟨q,rfl,rfl,h⟩
             refine t6 h (λ_ h=>?_) (λ_ h=>?_)
             ·exact hx4 _ _ (hj4 q p _ i h)
             ·refine a7R (cap:=[(pt a)]) call162 (h a) i ?_
              rintro _ r _ ae s _ _ ⟨t,rfl,rfl,h⟩
              exact hx4 _ _ (hj4 t r _ s h)
      refine u7 λj3 hx3=>c7 pEq (j7 h (λ_ h=>?_) (λ_ h=>?_))
      ·exact hx3 _ _ (hj3 _ H _ I h)
      ·refine c7 pEq (j7 h (λ_ h=>?_) (λ_ h=>?_))
       ·exact hx3 _ _ (hj3 _ H _ I h)
       ·exact c7 pEq (hx3 _ _ (hj3 _ H _ I h))
    refine u7 λj2 hx2=>c7 pEq (j7 h (λ_ h=>?_) (λ_ h=>?_))
    ·exact hx2 _ _ (hj2 _ H _ I h)
    ·refine c7 pEq (j7 h (λ_ h=>?_) (λ_ h=>?_))
     ·exact hx2 _ _ (hj2 _ H _ I h)
     ·refine c7 pEq (j7 h (λ_ h=>?_) (λ_ h=>?_))
      ·exact hx2 _ _ (hj2 _ H _ I h)
      ·refine c7 pEq (j7 h (λ_ h=>?_) (λ_ h=>?_))
       ·exact hx2 _ _ (hj2 _ H _ I h)
       ·refine c7 pEq (j7 h (λ_ h=>?_) (λ_ h=>?_))
        ·exact hx2 _ _ (hj2 _ H _ I h)
        ·refine c7 pEq (j7 h (λ_ h=>?_) (λ_ h=>?_))
         ·exact hx2 _ _ (hj2 _ H _ I h)
         ·refine c7 pEq (j7 h (λ_ h=>?_) (λ_ h=>?_))
          ·exact hx2 _ _ (hj2 _ H _ I h)
          ·refine c7 pEq (j7 h (λ_ h=>?_) (λ_ h=>?_))
           ·exact hx2 _ _ (hj2 _ H _ I h)
           ·refine c7 pEq (j7 h (λ_ h=>?_) (λ_ h=>?_))
            ·exact hx2 _ _ (hj2 _ H _ I h)
            ·refine c7 pEq (j7 h (λ_ h=>?_) (λ_ h=>?_))
             ·exact hx2 _ _ (hj2 _ H _ I h)
             ·refine c7 pEq (j7 h (λ_ h=>?_) (λ_ h=>?_))
              ·exact hx2 _ _ (hj2 _ H _ I h)
              ·refine c7 pEq (j7 h (λ_ h=>?_) (λ_ h=>?_))
               ·exact hx2 _ _ (hj2 _ H _ I h)
               ·refine c7 pEq (j7 h (λ_ h=>?_) (λ_ h=>?_))
                ·exact hx2 _ _ (hj2 _ H _ I h)
                ·refine c7 pEq (j7 h (λ_ h=>?_) (λ_ h=>?_))
                 ·exact hx2 _ _ (hj2 _ H _ I h)
                 ·refine c7 pEq (j7 h (λ_ h=>?_) (λ_ h=>?_))
                  ·exact hx2 _ _ (hj2 _ H _ I h)
                  ·refine c7 pEq (j7 h (λ_ h=>?_) (λ_ h=>?_))
                   ·exact hx2 _ _ (hj2 _ H _ I h)
                   ·refine c7 pEq (j7 h (λ_ h=>?_) (λ_ h=>?_))
                    ·exact hx2 _ _ (hj2 _ H _ I h)
                    ·refine c7 pEq (j7 h (λ_ h=>?_) (λ_ h=>?_))
                     ·exact hx2 _ _ (hj2 _ H _ I h)
                     ·exact c7 pEq (hx2 _ _ (hj2 _ H _ I h))
 refine u7 λj1 hx1=>c7 pEq (j7 h (λ_ h=>?_) (λ_ h=>?_))
 ·exact hx1 _ _ (hj1 _ H _ b h)
 ·refine c7 pEq (j7 h (λ_ h=>?_) (λ_ h=>?_))
  ·exact hx1 _ _ (hj1 _ H _ b h)
  ·exact c7 pEq (hx1 _ _ (hj1 _ H _ b h))
def B3(E2:Bool)(H)(K:KT Bool):=
 (E2=true->
 K true H)/\
 (E2=false->
 K false H)
def b4o(x0:BA)(H)(K:KT Bool):=
 (x0=⟨#[118,97,114]⟩->
 B3 (decide (x0=⟨#[118,97,114]⟩)) H K)/\
 (¬(x0=⟨#[118,97,114]⟩)->
 (x0=⟨#[97,114,114,97,121]⟩->
 B3 (decide (x0=⟨#[97,114,114,97,121]⟩)) H K)/\
 (¬(x0=⟨#[97,114,114,97,121]⟩)->
 (x0=⟨#[105,102]⟩->
 B3 (decide (x0=⟨#[105,102]⟩)) H K)/\
 (¬(x0=⟨#[105,102]⟩)->
 (x0=⟨#[101,108,115,101]⟩->
 B3 (decide (x0=⟨#[101,108,115,101]⟩)) H K)/\
 (¬(x0=⟨#[101,108,115,101]⟩)->
 (x0=⟨#[119,104,105,108,101]⟩->
 B3 (decide (x0=⟨#[119,104,105,108,101]⟩)) H K)/\
 (¬(x0=⟨#[119,104,105,108,101]⟩)->
 (x0=⟨#[97,115,115,101,114,116]⟩->
 B3 (decide (x0=⟨#[97,115,115,101,114,116]⟩)) H K)/\
 (¬(x0=⟨#[97,115,115,101,114,116]⟩)->
 (x0=⟨#[97,115,115,117,109,101]⟩->
 B3 (decide (x0=⟨#[97,115,115,117,109,101]⟩)) H K)/\
 (¬(x0=⟨#[97,115,115,117,109,101]⟩)->
 (x0=⟨#[115,107,105,112]⟩->
 B3 (decide (x0=⟨#[115,107,105,112]⟩)) H K)/\
 (¬(x0=⟨#[115,107,105,112]⟩)->
 (x0=⟨#[105,110,112,117,116]⟩->
 B3 (decide (x0=⟨#[105,110,112,117,116]⟩)) H K)/\
 (¬(x0=⟨#[105,110,112,117,116]⟩)->
 (x0=⟨#[116,114,117,101]⟩->
 B3 (decide (x0=⟨#[116,114,117,101]⟩)) H K)/\
 (¬(x0=⟨#[116,114,117,101]⟩)->
 B3 (decide (x0=⟨#[102,97,108,115,101]⟩)) H K))))))))))
theorem c0X(x0){H K}(h:b4o x0 H K):a6p x0 H K:=by
 refine Ct.of λw0 w ps0 H0 R E I hR=>d9I ?_
 have hj1:∀E2 H w,Inv w0 ps0 H0 H [] w->B3 E2 H K->c9u (vB E2) w R E:=by
  intro E2 H w I h
  intro _
  refine t6 h (λ_ h=>?_) (λ_ h=>?_)
  ·exact hr1 hR I h
  ·exact hr1 hR I h
 refine u7 λj1 hx1=>c7 (a0C _ _ _ _ _) (j7 h (λ_ h=>?_) (λ_ h=>?_))
 ·exact hx1 _ _ (hj1 _ H _ I h)
 ·refine c7 (a0C _ _ _ _ _) (j7 h (λ_ h=>?_) (λ_ h=>?_))
  ·exact hx1 _ _ (hj1 _ H _ I h)
  ·refine c7 (a0C _ _ _ _ _) (j7 h (λ_ h=>?_) (λ_ h=>?_))
   ·exact hx1 _ _ (hj1 _ H _ I h)
   ·refine c7 (a0C _ _ _ _ _) (j7 h (λ_ h=>?_) (λ_ h=>?_))
    ·exact hx1 _ _ (hj1 _ H _ I h)
    ·refine c7 (a0C _ _ _ _ _) (j7 h (λ_ h=>?_) (λ_ h=>?_))
     ·exact hx1 _ _ (hj1 _ H _ I h)
     ·refine c7 (a0C _ _ _ _ _) (j7 h (λ_ h=>?_) (λ_ h=>?_))
      ·exact hx1 _ _ (hj1 _ H _ I h)
      ·refine c7 (a0C _ _ _ _ _) (j7 h (λ_ h=>?_) (λ_ h=>?_))
       ·exact hx1 _ _ (hj1 _ H _ I h)
       ·refine c7 (a0C _ _ _ _ _) (j7 h (λ_ h=>?_) (λ_ h=>?_))
        ·exact hx1 _ _ (hj1 _ H _ I h)
        ·refine c7 (a0C _ _ _ _ _) (j7 h (λ_ h=>?_) (λ_ h=>?_))
         ·exact hx1 _ _ (hj1 _ H _ I h)
         ·refine c7 (a0C _ _ _ _ _) (j7 h (λ_ h=>?_) (λ_ h=>?_))
          ·exact hx1 _ _ (hj1 _ H _ I h)
          ·exact c7 (a0C _ _ _ _ _) (hx1 _ _ (hj1 _ H _ I h))
def b1z(H)(K:KT Bool):=
 K true H
def a7M(b:BA)(a:Nat)(H)(n2:KT Nat)(K:KT Bool):=
 (a < b.size->
 a5D ((Utf8.decode b a).1:Int) H (λc d=>
 TG ((!(!c)&&(decide (((a:Nat):Int)=0)))=true) (X8 ((Utf8.decode b a).1:Int) d) 0 d (λ(e:Int)(f:Hp)=>
 (((!c)||((decide (((a:Nat):Int)=0))&&(!decide (e=3))))=true->
 K false f)/\
 (((!c)||((decide (((a:Nat):Int)=0))&&(!decide (e=3))))=false->
 n2 (a+(Utf8.decode b a).2) f))))/\
 (¬(a < b.size)->
 b1z H K)
def b4p(x0:BA)(H)(K:KT Bool):=
 TG ((decide (x0=⟨#[]⟩))=false) (a7Z x0 H) false H (λ(a:Bool)(c:Hp)=>
 TG (((decide (x0=⟨#[]⟩))||(!a))=false) (a6o x0 c) false c (λ(b:Bool)(d:Hp)=>
 TG ((((decide (x0=⟨#[]⟩))||(!a))||b)=false) (a6p x0 d) false d (λ(e:Bool)(f:Hp)=>
 (((((decide (x0=⟨#[]⟩))||(!a))||b)||e)=true->
 K false f)/\
 (((((decide (x0=⟨#[]⟩))||(!a))||b)||e)=false->
 TL (0:Nat) f λ(s:Nat) H n2=>a7M x0 s H n2 K))))
theorem c0Y(x0){H K}(h:b4p x0 H K):a6q x0 H K:=by
 refine Ct.of λw0 w ps0 H0 R E I hR=>d9A (c7 (a0C _ _ _ _ _) ?_)
 simp only [K6]
 refine Q4 [] (λd:Bool=>(vB d)) h I (λa h=>by simp only [p6 a];exact R6 call173 h I) λd s ai f t u h=>?_
 refine c7 (Pu.g λa=>by simp only [p6 a];with_reducible exact (R5 _)) ?_
 refine c7 (M6 _ _) ?_
 simp only [K6]
 refine Q4 [] (λi:Bool=>(vB i)) h f (λa h=>by simp only [p6 a];exact R6 call166 h f) λi y aj j z aa h=>?_
 refine c7 (M6 _ _) ?_
 simp only [K6]
 refine Q4 [] (λk:Bool=>(vB k)) h j (λa h=>by simp only [p6 a];exact R6 call165 h j) λk o ak l ac ad h=>?_
 refine c7 (M6 _ _) (t6 h (λ_ h=>?_) (λ_ h=>?_))
 ·exact hr1 hR l h
 ·have hj1:∀H w,Inv w0 ps0 H0 H [] w->b1z H K->c9t w R E:=by
   intro H w I h
   intro _
   exact hr1 hR I h
  refine u7 λj1 hx1=>b6N underlying9 x0 l λal aq am ar=>a2f (σ:=Nat) (λc=>[]) (λc=>[itf al x0 c]) h rfl am ?_
  rintro c H au w next2 n2 an I h hn2
  clear an
  refine b9m I (λp av ao aw=>?_) (λp=>?_)
  ·replace h:=h.1 p
   refine c7 (m7 _ _ (vB true) rfl) (Z5 (λe=>?_) (λe=>by cases e))
   refine c7 (m7 _ _ (vi ((c:Nat):Int)) rfl) (c7 (m7 _ _ (Value.int .i32 ((Utf8.decode x0 c).1:Int)) rfl) ?_)
   refine oc1 call164 h ao λay _ ax ae h=>c7 (R5 _) ?_
   simp only [K6]
   refine c7 (Pu.g λa=>by simp only [p6 a];with_reducible exact pEq) ?_
   simp only [c0e,d2b]
   refine d6X (a3h _ _ _) (Q4 [] (λm:Int=>(vi m)) h ae (λaf h=>?_) λm q ap n ag ah h=>?_)
   ·obtain ⟨a,b⟩:=a7r af
    simp only [p6 af]
    refine f7 call127 h ae ?_
    rintro _ q _ ap n ah ag ⟨m,rfl,rfl,h⟩
    exact ⟨m,q,rfl,n,ag,ah,h⟩
   refine c7 (Pu.e (a3h _ _ _) (Pu.g λhb=>by obtain ⟨a,b⟩:=a7r hb;simp only [p6 hb];with_reducible exact pNe)) ?_
   refine c7 (Pu.g λa=>by simp only [p6 a,b9i a];with_reducible exact (M3 _ _)) ?_
   refine c7 (M6 _ _) (t6 h (λ_ h=>?_) (λ_ h=>?_))
   ·exact hr1 hR n.drop h
   ·exact hn2 (c+(Utf8.decode x0 c).2) _ _ h n
  ·replace h:=h.2 p
   refine c7 (m7 _ _ (vB false) rfl) (Z5 (λe=>by cases e) (λe=>?_))
   exact hx1 _ _ (hj1 H _ I.drop h)
def a3b(a)(b:(List Int))(c:Int)(_:o8)(H)(K:BA->Int->Hp->Prop):=
 a1D (g7.mk (L9.mk a sN) c) b H (λd e=>
 (d=true->
 K ⟨#[]⟩ 50 e)/\
 (d=false->
 a8Z (g7.mk (L9.mk a sN) c) b e (λf _ _ g=>
 K f 0 g)))
def a5N(aa:Sl)(ab:Int)(f)(ad:Int)(a)(b:(List Int))(c:Int)(H)(n3:KT (Int×(Option Addr)×(List Int)×Int))(K:BA->Int->Hp->Prop):=
 (ad < ab->
 (0:Int)<=ad/\(ad:Int) < aa.n/\∃d:i6,EltH H aa ad 6 (q9 d)/\
 a1E (g7.mk (L9.mk a sN) c) b d H (λe g i=>
 n3 ((IntKind.wrap .i64 (ad+1)),e.O5.faddr,g,e.fdeep) i))/\
 (¬(ad < ab)->
 a3b a b c f H K)
def a1m(_:Sl)(_:Int)(ad:Int)(a)(b:(List Int))(c:Int)(_:o8)(H)(n4:KT (Int×(Option Addr)×(List Int)×Int))(_:BA->Int->Hp->Prop):=
 n4 ((IntKind.wrap .i64 (ad+1)),a,b,c) H
def a3d(b)(c:(List Int))(d:Int)(a:o8)(H)(K:BA->Int->Hp->Prop):=
 TL ((0,b,c,d):Int×(Option Addr)×(List Int)×Int) H λ(s:Int×(Option Addr)×(List Int)×Int) H n3=>a5N a.a7s (a.a7s.n:Int) a s.1 s.2.1 s.2.2.1 s.2.2.2 H n3 K
def a5O(aa:Sl)(ab:Int)(e)(ad:Int)(f)(g:(List Int))(i:Int)(H)(n4:KT (Int×(Option Addr)×(List Int)×Int))(K:BA->Int->Hp->Prop):=
 (ad < ab->
 (0:Int)<=ad/\(ad:Int) < aa.n/\∃a:j9,EltH H aa ad 2 (q6 a)/\
 (a.D2=0->
 ∀(b:Sl)(j:Hp),Hle H j->SlH j 1 v7 b [⟨#[118,97,114,32]⟩,a.o7,⟨#[59]⟩]->b.n<=b.c->
 a3V (g7.mk (L9.mk f sN) i) g b j (λl o p=>
 a1m aa ab ad l.O5.faddr o l.fdeep e p n4 K))/\
 (¬(a.D2=0)->
 b7a a.D2 H (λq r=>
 ∀(d:Sl)(k:Hp),Hle r k->SlH k 1 v7 d [⟨#[97,114,114,97,121,32]⟩,a.o7,⟨#[91]⟩,q,⟨#[93,59]⟩]->d.n<=d.c->
 a3V (g7.mk (L9.mk f sN) i) g d k (λm s t=>
 a1m aa ab ad m.O5.faddr s m.fdeep e t n4 K))))/\
 (¬(ad < ab)->
 a3d f g i e H K)
def b1A(x0:o8)(H)(K:BA->Int->Hp->Prop):=
 a3f x0 H (λa b=>
 (¬(a=0)->
 K ⟨#[]⟩ a b)/\
 (a=0->
 TL ((0,none,[],0):Int×(Option Addr)×(List Int)×Int) b λ(s:Int×(Option Addr)×(List Int)×Int) H n4=>a5O x0.a2h (x0.a2h.n:Int) x0 s.1 s.2.1 s.2.2.1 s.2.2.2 H n4 K))
theorem b8l(x0){H K}(h:b1A x0 H K):a7y x0 H K:=by
 refine Ct.of λw0 w ps0 H0 R E I hR=>e6g (D3 I (cs:=(q7 x0)) rfl λo dv ba dw=>?_)
 refine d7 (lW isAgg25 sizeOf25 rfl ba) (oc1 call21 h ba λbl bb dx bc h=>?_)
 refine c7 pNe (a1L h (λ_ h=>?_) (λ_ h=>?_))
 ·exact hR _ bb _ _ bc.drop ⟨⟨#[]⟩,bl,rfl,rfl,h⟩
 ·refine c7 (d2n) (D3 bc (cs:=[(Value.pointer none),(nS),(vi 0)]) rfl λd dy bd dz=>?_)
  have hj1:∀ab ac ad ae af H w,RowL 5 1 B7 ae ac af->Inv w0 ps0 H0 H [bx d 83 [(adv d ab),(vs ae),(vi ad)],bx o 25 (q7 x0),af] w->a3d ab ac ad x0 H K->d7s (pt o) (pt d) w R E:=by
   intro ab ac ad ae af H w bm I h
   intro _
   have hj2:∀ao ap aq r t H w,RowL 5 1 B7 r ap t->Inv w0 ps0 H0 H [bx d 83 [(adv d ao),(vs r),(vi aq)],bx o 25 (q7 x0),t] w->a3b ao ap aq x0 H K->d7r (pt d) w R E:=by
    intro ao ap aq r t H w be I h
    intro _
    refine f7 call25 (h d r t be) ((I.bring 2).bring 1) ?_
    rintro _ bn _ ea bf _ _ ⟨eb,rfl,rfl,h⟩
    refine t6 h (λ_ h=>?_) (λ_ h=>?_)
    ·exact hR _ bn _ _ bf.drop.drop.drop ⟨⟨#[]⟩,50,rfl,rfl,h⟩
    ·refine c7 (t7 _) (c7 b7L ?_)
     refine f7 call26 (h d r t be) ((bf.bring 1).bring 1) ?_
     rintro _ bo _ ec bp _ _ ⟨bq,ed,ee,ef,eg,rfl,rfl,eh,h⟩
     exact hR _ bo _ _ bp.drop.drop.drop ⟨bq,0,rfl,rfl,h⟩
   refine u7 λj2 hx2=>c7 a7u (d7 (l1 isAgg23 (I.bring 1) rfl) (c7 (a1P _ _ _) ?_))
   obtain ⟨ar,u,br,bs⟩:=h
   refine G6 (J:=λn l w=>∃(s:Int×(Option Addr)×(List Int)×Int)(H:Hp)(v:Sl)(y:Frag),n=u s/\l=(match s with | (fm,f,g,i)=>[(vi fm)])/\(match s with | (fm,f,g,i)=>RowL 5 1 B7 v g y)/\(match s with | (fm,f,g,i)=>Inv w0 ps0 H0 H [bx d 83 [(adv d f),(vs v),(vi i)],bx o 25 (q7 x0),y] w)/\ar s H) ⟨_,(0,ab,ac,ad),H,ae,af,rfl,rfl,bm,(((I.bring 2).bring 2).bring 2),br⟩ ?_
   rintro ei ej w next3 ⟨⟨fm,f,g,i⟩,H,v,y,rfl,au,av,I,bt⟩ hn3
   have au:=lE1 au
   have e44:=au
   simp only [e44]
   obtain ⟨n3,hm3,h⟩:=tlA (B:=λn3=>a5N x0.a7s (x0.a7s.n:Int) x0 fm f g i H n3 K) (bs (fm,f,g,i) H) bt
   refine c7 pLs (j7 h (λ_ h=>?_) (λ_ h=>?_))
   ·obtain ⟨bu,bv,bg,aw,h⟩:=h
    obtain ⟨ek,el,bw,aw⟩:=aw
    refine c7 (b5d bw _ _ _ _ bu bv) (d7 (ldA (vs:=(q9 bg)) isAgg55 sizeOf55 rfl (I.atH aw)) ?_)
    refine r8 I zeroValue55 (cs:=[(vi 0),(eS),(nS),(nS),(nS),(nS)]) rfl λem en bz eo=>v8 bz sizeOf55 (vs:=(q9 bg)) λep bh eq=>d7 (lW isAgg55 sizeOf55 rfl bh) (f7 call24 (h d v y av) ((bh.bring 3).bring 2) ?_)
    rintro _ ca _ er cb _ _ ⟨bi,cc,cd,ce,rfl,rfl,cf,h⟩
    exact c7 pAd (hn3 _ _ _ (hm3 _ _ h).2 ⟨((IntKind.wrap .i64 (fm+1)),bi.O5.faddr,cc,bi.fdeep),ca,cd,ce,rfl,rfl,cf,((((cb.bring 2).drop.bring 1).bring 2).bring 2),(hm3 _ _ h).1⟩)
   ·exact hx2 _ _ (hj2 f g i v y H _ av (((I.bring 2).bring 2).bring 2) h)
  refine u7 λj1 hx1=>c7 a9I (d7 (l1 isAgg22 (bd.bring 1) rfl) (c7 (a3U _ _ _) ?_))
  obtain ⟨ax,z,cg,ch⟩:=h
  refine G6 (J:=λn l w=>∃(s:Int×(Option Addr)×(List Int)×Int)(H:Hp)(p:Sl)(q:Frag),n=z s/\l=(match s with | (fo,j,k,m)=>[(vi fo)])/\(match s with | (fo,j,k,m)=>RowL 5 1 B7 p k q)/\(match s with | (fo,j,k,m)=>Inv w0 ps0 H0 H [bx d 83 [(adv d j),(vs p),(vi m)],bx o 25 (q7 x0),q] w)/\ax s H) ⟨_,(0,none,[],0),bb,sN,[],rfl,rfl,(RowL.nil d0z d0A),((bd.nil.bring 2).bring 2),cg⟩ ?_
  rintro es et w next4 ⟨⟨fo,j,k,m⟩,H,p,q,rfl,ay,ag,I,ci⟩ hn4
  have ay:=lE1 ay
  have e20:=ay
  simp only [e20]
  obtain ⟨n4,hm4,h⟩:=tlA (B:=λn4=>a5O x0.a2h (x0.a2h.n:Int) x0 fo j k m H n4 K) (ch (fo,j,k,m) H) ci
  refine c7 pLs (j7 h (λ_ h=>?_) (λ_ h=>?_))
  ·have hj5:∀ah ai aj ak al H w,RowL 5 1 B7 ak ai al->Inv w0 ps0 H0 H [bx d 83 [(adv d ah),(vs ak),(vi aj)],bx o 25 (q7 x0),al] w->a1m x0.a2h (x0.a2h.n:Int) fo ah ai aj x0 H n4 K->d7t (pt o) (pt d) (vs x0.a2h) (vi (x0.a2h.n:Int)) (vi fo) w next4 R E:=by
    intro ah ai aj ak al H w cj I h
    intro _
    exact c7 pAd (hn4 _ _ _ (hm4 _ _ h).2 ⟨((IntKind.wrap .i64 (fo+1)),ah,ai,aj),H,ak,al,rfl,rfl,cj,(((I.bring 2).bring 2).bring 2),(hm4 _ _ h).1⟩)
   refine u7 λj5 hx5=>?_
   obtain ⟨ck,cl,am,az,h⟩:=h
   obtain ⟨eu,ev,cm,az⟩:=az
   refine c7 (a5l cm _ _ _ _ ck cl) (d7 (ldA (vs:=(q6 am)) isAgg65 sizeOf65 rfl (I.atH az)) ?_)
   refine r8 I zeroValue65 (cs:=[(eS),(vi 0)]) rfl λew ex cn ey=>v8 cn sizeOf65 (vs:=(q6 am)) λez an fa=>c7 a4H (d7 (l1 isAgg3 an rfl) (c7 pEq ?_))
   refine j7 h (λ_ h=>?_) (λ_ h=>?_)
   ·refine c7 a3F (d7 (l1 isAgg9 an rfl) ?_)
    refine O0 (e:=9) (c:=v7) (xs:=[⟨#[118,97,114,32]⟩,am.o7,⟨#[59]⟩]) an (c0i _ _ _) rfl rfl N6 N7 (nb rfl) λco fb fc cp cq fd=>?_
    obtain ⟨cr,ct,cu,cv,cw⟩:=Inv.freezeC cq cp (by decide)
    replace h:=h co cr cu cv cw
    refine f7 call22 (h d p q ag) ((ct.bring 3).bring 2) ?_
    rintro _ cx _ fe cy _ _ ⟨bj,cz,da,db,rfl,rfl,dc,h⟩
    exact hx5 _ _ (hj5 bj.O5.faddr cz bj.fdeep da db cx _ dc ((((cy.bring 2).drop.bring 1).bring 2).bring 2) h)
   ·refine L6 an λff aa=>g8 a3F (g8 a4H ?_)
    refine s7 (l1 isAgg9 aa rfl) (s7 (l1 isAgg3 aa rfl) ?_)
    refine f7 call23 h aa ?_
    rintro _ _ _ fg dd _ de ⟨df,rfl,rfl,h⟩
    refine ⟨(de _ aa.lt1 (Inv.V1 (Fi:=[]) aa)),?_⟩
    refine O0 (e:=9) (c:=v7) (xs:=[⟨#[97,114,114,97,121,32]⟩,am.o7,⟨#[91]⟩,df,⟨#[93,59]⟩]) dd (d8v _ _ _ _ _) rfl rfl N6 N7 (nb rfl) λdg fh fi dh di fj=>?_
    obtain ⟨dj,dk,dl,dm,dn⟩:=Inv.freezeC di dh (by decide)
    replace h:=h dg dj dl dm dn
    refine f7 call22 (h d p q ag) ((dk.bring 3).bring 2) ?_
    rintro _ dp _ fk dq _ _ ⟨bk,dr,ds,dt,rfl,rfl,du,h⟩
    exact hx5 _ _ (hj5 bk.O5.faddr dr bk.fdeep ds dt dp _ du ((((dq.bring 2).drop.bring 1).bring 2).bring 2) h)
  ·exact hx1 _ _ (hj1 j k m p q H _ ag (((I.bring 2).bring 2).bring 2) h)
def b1B(x0:BA)(H)(K:o8->f8->Int->Hp->Prop):=
 N4 x0 H (λa b c d=>
 K a b c d)
theorem b8m(x0){H K}(h:b1B x0 H K):a7z x0 H K:=by
 refine Ct.of λw0 w ps0 H0 R E I hR=>e1R (r8 I zeroValue25 rfl λk l e m=>?_)
 refine r8 e zeroValue47 rfl λn o f p=>f7 call27 h f ?_
 rintro _ g _ q i _ _ ⟨b,c,d,rfl,rfl,h⟩
 refine c7 (m7 _ _ _ rfl) (c7 (m7 _ _ _ rfl) (c7 (m7 _ _ (vi d) rfl) ?_))
 refine v8 (i.bring 1) sizeOf25 (vs:=(q7 b)) λr j s=>v8 (j.bring 1) sizeOf47 (vs:=(p9 c)) λt a u=>D9 isAgg25 sizeOf25 rfl (a.bring 1) (D9 isAgg47 sizeOf47 rfl a ?_)
 exact hR _ g _ _ a.drop.drop ⟨b,c,d,rfl,rfl,h⟩
def a9t(x0:p8)(x1:Int)(H)(K:KT Bool):=
 K ((decide (0<=x1))&&(decide (x1 < x0.C2.i7))) H
theorem b5E(x0 x1){H K}(h:a9t x0 x1 H K):a0S x0 x1 H K:=by
 refine Ct.of λw0 w ps0 H0 R E I hR=>e2d (D3 I rfl λc d b e=>?_)
 refine c7 pGe ?_
 simp only [K6]
 refine c7 (Pu.g λa=>by with_reducible exact b1g) ?_
 refine c7 (Pu.g λa=>by simp only [p6 a];with_reducible exact O6) ?_
 refine d7 (Ld.g λa=>by simp only [p6 a];exact (l1 isAgg3 b rfl)) ?_
 refine c7 (Pu.g λa=>by simp only [p6 a];with_reducible exact pLs) ?_
 exact c7 (M3 _ _) (hR _ H _ _ b.drop ⟨_,rfl,rfl,h⟩)
def a7j(x0:p8)(x1:Int)(H)(K:KT Bool):=
 K ((decide (0<=x1))&&(decide (x1 < (IntKind.wrap .i64 ((x0.C2.E0.n:Int)+x0.C2.D7))))) H
theorem b3m(x0 x1){H K}(h:a7j x0 x1 H K):a1r x0 x1 H K:=by
 refine Ct.of λw0 w ps0 H0 R E I hR=>e2C (D3 I rfl λc d b e=>?_)
 refine c7 pGe ?_
 simp only [K6]
 refine c7 (Pu.g λa=>by with_reducible exact b1g) ?_
 refine c7 (Pu.g λa=>by simp only [p6 a];with_reducible exact a9H) ?_
 refine d7 (Ld.g λa=>by simp only [p6 a];exact (l1 isAgg28 b rfl)) ?_
 refine c7 (Pu.g λa=>by simp only [p6 a];with_reducible exact (a3T _ _ _)) ?_
 refine c7 (Pu.g λa=>by with_reducible exact b1g) ?_
 refine c7 (Pu.g λa=>by simp only [p6 a];with_reducible exact a4G) ?_
 refine d7 (Ld.g λa=>by simp only [p6 a];exact (l1 isAgg3 b rfl)) ?_
 refine c7 (Pu.g λa=>by simp only [p6 a];with_reducible exact pAd) ?_
 refine c7 (Pu.g λa=>by simp only [p6 a];with_reducible exact pLs) ?_
 exact c7 (M3 _ _) (hR _ H _ _ b.drop ⟨_,rfl,rfl,h⟩)
def a8k(x0)(x1:z6)(H)(K:KT Bool):=
 TG ((decide (x1.K3=(-1)))=false) (a1r x0 x1.K3 H) false H (λ(a:Bool)(b:Hp)=>
 K ((decide (x1.K3=(-1)))||(a&&(decide (x1.A6=0)))) b)
theorem b3V(x0 x1){H K}(h:a8k x0 x1 H K):a1F x0 x1 H K:=by
 refine Ct.of λw0 w ps0 H0 R E I hR=>e2E (D3 I rfl λo p m q=>?_)
 refine D3 m rfl λr s c t=>c7 b4w (d7 (l1 isAgg3 c rfl) (c7 pEq ?_))
 refine d7 (Ld.g λa=>by exact (lW isAgg69 sizeOf69 rfl (c.bring 1))) (c7 (Pu.g λa=>by with_reducible exact b4w) ?_)
 refine d7 (Ld.g λa=>by simp only [p6 a];exact (l1 isAgg3 c rfl)) ?_
 refine Q4 [] (λf:Bool=>(vB f)) h c (λa h=>by simp only [p6 a];exact R6 call37 h c) λf i n d k l h=>?_
 simp only [K6,c0e]
 refine c7 (Pu.e (a3h _ _ _) (Pu.g λhb=>by obtain ⟨a,b⟩:=a7r hb;with_reducible exact d0C)) ?_
 refine d7 (Ld.e (a3h _ _ _) (Ld.g λhb=>by obtain ⟨a,b⟩:=a7r hb;simp only [p6 hb];exact (l1 isAgg2 d rfl))) ?_
 refine c7 (Pu.e (a3h _ _ _) (Pu.g λhb=>by obtain ⟨a,b⟩:=a7r hb;simp only [p6 hb];with_reducible exact pEq)) ?_
 refine c7 (Pu.g λa=>by simp only [p6 a,b9i a];with_reducible exact (M3 _ _)) ?_
 exact c7 (M6 _ _) (hR _ i _ _ d.drop.drop ⟨_,rfl,rfl,h⟩)
def b8n(H)(K:KT z6):=
 K (z6.mk (-1) 0) H
theorem b8o{H K}(h:b8n H K):a0b H K:=by
 refine Ct.of λw0 w ps0 H0 R E I hR=>e2F (r8 I zeroValue41 rfl λc d b e=>?_)
 refine c7 (b0p _) (v8 b sizeOf41 (vs:=[(vi (-1)),(vi 0)]) λf a g=>?_)
 exact D9 isAgg41 sizeOf41 rfl a (hR _ H _ _ a.drop ⟨_,rfl,rfl,h⟩)
def b5F(x0:s6)(x1:Int)(H)(K:Sl->Int->Hp->Prop):=
 a1Q x0 H (λa b=>
 (¬(a=0)->
 K sN a b)/\
 (a=0->
 (((decide (x1 < 0))||(decide (x0.i7<=x1)))=true->
 K sN 92 b)/\
 (((decide (x1 < 0))||(decide (x0.i7<=x1)))=false->
 a6r x0 b (λc d=>
 (0:Int)<=x1/\(x1:Int) < c.n/\∃e:Sl,EltH d c x1 1 [(vs e)]/\
 K e 0 d))))
theorem c1H(x0 x1){H K}(h:b5F x0 x1 H K):b0G x0 x1 H K:=by
 refine Ct.of λw0 w ps0 H0 R E I hR=>e6d (D3 I rfl λo p d q=>?_)
 refine d7 (lW isAgg31 sizeOf31 rfl d) (oc1 call7 h d λj e r b h=>?_)
 refine c7 pNe (a1L h (λ_ h=>?_) (λ_ h=>?_))
 ·exact hR _ e _ _ b.drop ⟨_,j,rfl,rfl,h⟩
 ·refine c7 pLs ?_
  simp only [K6]
  refine c7 (Pu.g λa=>by with_reducible exact O6) ?_
  refine d7 (Ld.g λa=>by simp only [p6 a];exact (l1 isAgg3 b rfl)) ?_
  refine c7 (Pu.g λa=>by simp only [p6 a];with_reducible exact pGe) ?_
  refine c7 (M6 _ _) (t6 h (λ_ h=>?_) (λ_ h=>?_))
  ·exact hR _ e _ _ b.drop ⟨_,_,rfl,rfl,h⟩
  ·refine d7 (lW isAgg31 sizeOf31 rfl b) (oc1 call20 h b λt k s f h=>?_)
   obtain ⟨l,m,i,c,h⟩:=h
   obtain ⟨u,y,n,c⟩:=c
   refine c7 (b7K n _ _ _ _ l m) (d7 (ld1 (v:=(vs i)) isAgg26 (f.atH c)) ?_)
   exact hR _ k _ _ f.drop ⟨i,0,rfl,rfl,h⟩
def a8M(H)(K:KT Bool):=
 ∀(d:Sl)(e:Hp),Hle H e->SlH e 6 q9 d [(i6.mk 7 ⟨#[]⟩ sN sN sN sN)]->d.n<=d.c->
 a5Y (o8.mk sN d) e (λb f g=>
 ∃a:d8,(((((decide (f=0))&&(decide (b.i7=2)))&&(decide (b.K8=1)))&&(decide ((b.E1.n:Int)=1)))=true->(0:Int)<=0/\(0:Int) < b.E1.n/\EltH g b.E1 0 10 (p7 a))/\
 K (((((decide (f=0))&&(decide (b.i7=2)))&&(decide (b.K8=1)))&&(decide ((b.E1.n:Int)=1)))&&(decide (a.D6=0/\a.fTo=1/\a.d9=1/\a.a4F=(-1)/\a.a1q=(-1)/\a.fOp=0/\a.fA.K3=(-1)/\a.fA.A6=0/\a.fB.K3=(-1)/\a.fB.A6=0))) g)
theorem b4M{H K}(h:a8M H K):a4M H K:=by
 refine Ct.of λw0 w ps0 H0 R E I hR=>e5T (c7 (c8e _) ?_)
 refine O0 (e:=55) (c:=q9) (xs:=[(i6.mk 7 ⟨#[]⟩ sN sN sN sN)]) I (c3I _ _ _ _ _ _ _ _ _ _ _ _ _ _) rfl rfl a7S a7T (nb rfl) λk y z l m aa=>c7 (c8f _ _ _) ?_
 obtain ⟨o,p,q,r,s⟩:=Inv.freezeC m l (by decide)
 replace h:=h k o q r s
 refine f7 call5 h p ?_
 rintro _ t _ ab u _ _ ⟨i,j,rfl,rfl,h⟩
 refine c7 (m7 _ _ _ rfl) (c7 (m7 _ _ (vi j) rfl) ?_)
 refine r8 u zeroValue31 rfl λac ad v ae=>v8 v sizeOf31 (vs:=(r9 i)) λaf d ag=>c7 pEq (c7 (Pu.g λa=>by with_reducible exact O6) ?_)
 refine d7 (Ld.g λa=>by simp only [p6 a];exact (l1 isAgg3 d rfl)) ?_
 refine c7 (Pu.g λa=>by simp only [p6 a];with_reducible exact pEq) ?_
 refine c7 (M3 _ _) (c7 (Pu.g λa=>by with_reducible exact a5W) ?_)
 refine d7 (Ld.g λa=>by simp only [p6 a];exact (l1 isAgg3 d rfl)) ?_
 refine c7 (Pu.g λa=>by simp only [p6 a];with_reducible exact pEq) ?_
 refine c7 (M3 _ _) (c7 (Pu.g λa=>by with_reducible exact X9) ?_)
 refine d7 (Ld.g λa=>by simp only [p6 a];exact (l1 isAgg29 d rfl)) ?_
 refine c7 (Pu.g λa=>by simp only [p6 a];with_reducible exact (a5X _ _ _)) ?_
 refine c7 (Pu.g λa=>by simp only [p6 a];with_reducible exact pEq) ?_
 refine c7 (M3 _ _) (c7 (Pu.g λa=>by with_reducible exact X9) ?_)
 refine d7 (Ld.g λa=>by simp only [p6 a];exact (l1 isAgg29 d rfl)) ?_
 obtain ⟨f,b,h⟩:=h
 obtain ⟨ah,ai,b⟩:=d6Y b
 refine c7 (Pu.g λhb=>by have a:=hb;simp only [p6 a];with_reducible exact (a5k (b hb).2.2.1 _ _ _ _ (b hb).1 (b hb).2.1)) ?_
 refine d7 (Ld.g λhb=>by have a:=hb;simp only [p6 a];exact (ldA (vs:=(p7 f)) isAgg43 sizeOf43 rfl (d.atH (b hb).2.2.2))) ?_
 refine c7 (Pu.g λa=>by with_reducible exact (b0p _)) (c7 (Pu.g λa=>by with_reducible exact (b0p _)) ?_)
 refine c7 (Pu.g λa=>by simp only [p6 a];with_reducible exact (b6P _ _ _ _ _ _ _ _)) ?_
 refine c7 (Pu.g λa=>by simp only [p6 a];with_reducible exact (d5l _ _ _ _ _ _ _ _ _ _ _ _ _ _ _ _ _ _ _ _ _ _)) ?_
 exact c7 (M3 _ _) (hR _ t _ _ d.drop ⟨_,rfl,rfl,h⟩)
def b1C(x0)(H)(K:Sl->Int->Hp->Prop):=
 b0H x0 2 H (λa b c=>
 K a b c)
theorem b8p(x0){H K}(h:b1C x0 H K):b1m x0 H K:=by
 refine Ct.of λw0 w ps0 H0 R E I hR=>e1W (D3 I rfl λf g a i=>?_)
 refine d7 (lW isAgg25 sizeOf25 rfl a) (f7 call31 h a ?_)
 rintro _ c _ j d _ _ ⟨e,b,rfl,rfl,h⟩
 refine c7 (m7 _ _ _ rfl) (c7 (m7 _ _ (vi b) rfl) ?_)
 exact hR _ c _ _ d.drop ⟨e,b,rfl,rfl,h⟩
def a1h(a)(aa)(ab:Int)(ad)(ae:Int)(ag:Int)(ah:(List d8))(ai)(aj)(_:l9)(H)(K:m0->(List d8)->Hp->Prop):=
 J0 (m0.mk (s6.mk aa ab ad ae ag sN) ai aj) ah a H (λb c d=>
 K (j6 b) c d)
def U1(a:d8)(M9)(aa:Int)(ab)(ad:Int)(ae:Int)(ag:(List d8))(u5)(A9)(b:l9)(H)(K:m0->(List d8)->Hp->Prop):=
 (b.d9=4->
 ∃c:List (BA×Int),MapH H (λs:BA=>Value.string s) (λn:Int=>Value.int .i64 n) A9 c/\
 a1h (d8.mk a.D6 a.fTo a.d9 a.a4F ((lk b.o7 c).getD 0) a.fOp a.fA a.fB) M9 aa ab ad ae ag u5 A9 b H K)/\
 (¬(b.d9=4)->
 a1h a M9 aa ab ad ae ag u5 A9 b H K)
def a8N(x0:m0)(e:(List d8))(x1:l9)(x2:Int)(x3:Int)(x4:Int)(x5:Int)(H)(K:m0->(List d8)->Hp->Prop):=
 a8A x1.d9 H (λg i=>
 T3 x3 x4 g i (λa d=>
 ((x1.L8.n:Int)=1->
 (0:Int)<=0/\(0:Int) < x1.L8.n/\∃f:l9,EltH d x1.L8 0 4 (g9 f)/\
 Y4 (j6 x0) e f x3 x5 d (λj k b l m=>
 U1 (d8.mk k a.fTo a.d9 x2 a.a1q a.fOp j a.fB) b.fc.E0 b.fc.D7 b.fc.C1 b.fc.i7 b.fc.K8 l b.fvars b.farrays x1 m K))/\
 (¬((x1.L8.n:Int)=1)->
 ((x1.L8.n:Int)=2->
 a0T (j6 x0) e x1.L8 x3 x5 d (λo p q c r s=>
 U1 (d8.mk q a.fTo a.d9 x2 a.a1q a.fOp o p) c.fc.E0 c.fc.D7 c.fc.C1 c.fc.i7 c.fc.K8 r c.fvars c.farrays x1 s K))/\
 (¬((x1.L8.n:Int)=2)->
 U1 (d8.mk a.D6 a.fTo a.d9 x2 a.a1q a.fOp a.fA a.fB) x0.fc.E0 x0.fc.D7 x0.fc.C1 x0.fc.i7 x0.fc.K8 e x0.fvars x0.farrays x1 d K))))
theorem b4N(x0 l x1 x2 x3 x4 x5){H K}(h:a8N x0 l x1 x2 x3 x4 x5 H K):a1Y x0 l x1 x2 x3 x4 x5 H K:=by
 intro g0 m n o
 refine Ct.of λw0 w ps0 H0 R E I hR=>d8O (D3 I (cs:=(g9 x1)) rfl λp bk s bl=>?_)
 refine c7 W7 (d7 (l1 isAgg3 s rfl) ?_)
 refine oc1 call143 h s λbo bm bn v h=>oc1 call68 h v λa y bp aa h=>r8 aa zeroValue43 (cs:=[(vi 0),(vi 0),(vi 0),(vi 0),(vi 0),(vi 0),(vi 0),(vi 0),(vi 0),(vi 0)]) rfl λg bq ab br=>v8 ab sizeOf43 (vs:=(p7 a)) λbs ac bt=>c7 b4v (K0 ac sizeOf3 λbu c bv=>?_)
 have hj1:∀b M9 cq cr ct cu cv u5 A9 cw cx H w,RowL 43 10 p7 cw cv cx->Inv w0 ps0 H0 H [bx g 43 (p7 b),bx g0 63 [(vs M9),(vi cq),(vs cr),(vi ct),(vi cu),(vs cw),(Value.map u5),(Value.map A9)],bx p 112 (g9 x1),cx] w->U1 b M9 cq cr ct cu cv u5 A9 x1 H K->c9c (pt g0) (pt p) (pt g) w R E:=by
  intro b M9 cq cr ct cu cv u5 A9 cw cx H w cy I h
  intro _
  have hj2:∀q da db dc dd de df dh H w,Inv w0 ps0 H0 H [bx g 43 (p7 q),bx g0 63 [(vs da),(vi db),(vs dc),(vi dd),(vi de),(vs cw),(Value.map df),(Value.map dh)],bx p 112 (g9 x1),cx] w->a1h q da db dc dd de cv df dh x1 H K->c9b (pt g0) (pt g) w R E:=by
   intro q da db dc dd de df dh H w I h
   intro _
   refine d7 (lW isAgg43 sizeOf43 rfl I) (f7 call70 (h g0 cw cx cy) ((I.bring 3).bring 2) ?_)
   rintro _ ad _ bw ae _ _ ⟨af,ag,ah,ai,rfl,rfl,aj,h⟩
   exact hR _ ad _ _ ((((ae.bring 2).drop.bring 2).drop.bring 1).bring 1) ⟨(j6 af),ag,ah,ai,rfl,rfl,aj,h⟩
  refine u7 λj2 hx2=>c7 W7 (d7 (l1 isAgg3 (I.bring 2) rfl) (c7 pEq ?_))
  refine j7 h (λ_ h=>?_) (λ_ h=>?_)
  ·refine L6 I λbz i=>g8 (t7 _) (g8 b7N ?_)
   refine g8 a4Y (s7 (l1 isAgg61 (i.bring 1) rfl) ?_)
   refine s7 (l1 isAgg9 (i.bring 2) rfl) ?_
   obtain ⟨ak,al,h⟩:=h
   refine b7I (keyS underlying9) underlying61 (z:=0) zeroValue3 i al x1.o7 (g8 b4x ?_)
   exact K0 i sizeOf3 λca am cb=>hx2 _ _ (hj2 (d8.mk b.D6 b.fTo b.d9 b.a4F ((lk x1.o7 ak).getD 0) b.fOp b.fA b.fB) M9 cq cr ct cu u5 A9 H _ ((((am.bring 3).bring 3).bring 3).bring 3) h)
  ·exact hx2 _ _ (hj2 b M9 cq cr ct cu u5 A9 H _ ((((I.bring 3).bring 3).bring 3).bring 3) h)
 refine u7 λj1 hx1=>c7 a0Z (d7 (l1 isAgg52 (c.bring 1) rfl) (c7 (a7e _ _ _) (c7 pEq ?_)))
 refine j7 h (λ_ h=>?_) (λ_ h=>?_)
 ·refine c7 a0Z (d7 (l1 isAgg52 (c.bring 1) rfl) ?_)
  obtain ⟨an,ao,ap,r,h⟩:=h
  obtain ⟨cc,cd,aq,r⟩:=r
  refine c7 (Z7 aq _ _ _ _ an ao) (d7 (ldA (vs:=(g9 ap)) isAgg112 sizeOf112 rfl (c.atH r)) ?_)
  refine f7 call106 (h g0 m n o) ((c.bring 3).bring 3) ?_
  rintro _ ar _ ce au _ _ ⟨j,t,d,av,aw,ax,rfl,rfl,ay,h⟩
  refine c7 (m7 _ _ _ rfl) (c7 (m7 _ _ (vi t) rfl) (c7 a4I ?_))
  refine H9 (au.bring 2) sizeOf41 (vs:=(A0 j)) (cs':=[(vi a.D6),(vi a.fTo),(vi a.d9),(vi x2),(vi a.a1q),(vi a.fOp),(vi j.K3),(vi j.A6),(vi a.fB.K3),(vi a.fB.A6)]) rfl rfl (nb rfl) rfl rfl λcf az cg=>c7 a3E (K0 az sizeOf3 λch ba ci=>?_)
  exact hx1 _ _ (hj1 (d8.mk t a.fTo a.d9 x2 a.a1q a.fOp j a.fB) d.fc.E0 d.fc.D7 d.fc.C1 d.fc.i7 d.fc.K8 av d.fvars d.farrays aw ax ar _ ay ((((ba.bring 2).bring 3).bring 3).bring 3) h)
 ·refine c7 pEq (j7 h (λ_ h=>?_) (λ_ h=>?_))
  ·refine c7 a0Z (d7 (l1 isAgg52 (c.bring 1) rfl) ?_)
   refine f7 call69 (h g0 m n o) ((c.bring 3).bring 3) ?_
   rintro _ bb _ cj bc _ _ ⟨f,k,u,e,bd,be,bf,rfl,rfl,bg,h⟩
   refine c7 (m7 _ _ _ rfl) (c7 (m7 _ _ _ rfl) (c7 (m7 _ _ (vi u) rfl) (c7 a4I ?_)))
   refine H9 (bc.bring 2) sizeOf41 (vs:=(A0 f)) (cs':=[(vi a.D6),(vi a.fTo),(vi a.d9),(vi x2),(vi a.a1q),(vi a.fOp),(vi f.K3),(vi f.A6),(vi a.fB.K3),(vi a.fB.A6)]) rfl rfl (nb rfl) rfl rfl λck bh cl=>c7 a7v (H9 bh sizeOf41 (vs:=(A0 k)) (cs':=[(vi a.D6),(vi a.fTo),(vi a.d9),(vi x2),(vi a.a1q),(vi a.fOp),(vi f.K3),(vi f.A6),(vi k.K3),(vi k.A6)]) rfl rfl (nb rfl) rfl rfl λcm bi cn=>?_)
   refine c7 a3E (K0 bi sizeOf3 λco bj cp=>?_)
   exact hx1 _ _ (hj1 (d8.mk u a.fTo a.d9 x2 a.a1q a.fOp f k) e.fc.E0 e.fc.D7 e.fc.C1 e.fc.i7 e.fc.K8 bd e.fvars e.farrays be bf bb _ bg ((((bj.bring 2).bring 3).bring 3).bring 3) h)
  ·exact hx1 _ _ (hj1 (d8.mk a.D6 a.fTo a.d9 x2 a.a1q a.fOp a.fA a.fB) x0.fc.E0 x0.fc.D7 x0.fc.C1 x0.fc.i7 x0.fc.K8 l x0.fvars x0.farrays m n y _ o ((((c.bring 3).bring 2).bring 3).bring 3) h)
def a7k(x0)(b:(List d8))(x1:Int)(x2)(x3:Int)(x4:Int)(H)(K:m0->(List d8)->Hp->Prop):=
 a1G (j6 x0) b x2 H (λe c d=>
 ((!c)=true->
 a1Y (j6 x0) b x2 x1 x3 x4 0 d (λf g i=>
 K (j6 f) g i))/\
 ((!c)=false->
 T3 x3 x4 2 d (λa j=>
 J0 (j6 x0) b (d8.mk a.D6 a.fTo a.d9 x1 a.a1q a.fOp e a.fB) j (λk l m=>
 K (j6 k) l m))))
theorem b3s(x0 i x1 x2 x3 x4){H K}(h:a7k x0 i x1 x2 x3 x4 H K):a3Y x0 i x1 x2 x3 x4 H K:=by
 intro g0 c d e
 refine Ct.of λw0 w ps0 H0 R E I hR=>e3h (D3 I rfl λak al j am=>?_)
 refine d7 (lW isAgg112 sizeOf112 rfl j) (f7 call104 (h g0 c d e) ((j.bring 2).bring 2) ?_)
 rintro _ an _ ao l _ _ ⟨b,m,rfl,rfl,h⟩
 refine c7 (m7 _ _ _ rfl) (c7 (m7 _ _ (vB m) rfl) ?_)
 refine r8 l zeroValue41 rfl λap aq n ar=>v8 n sizeOf41 (vs:=(A0 b)) λau f av=>c7 (R5 _) (t6 h (λ_ h=>?_) (λ_ h=>?_))
 ·refine d7 (lW isAgg112 sizeOf112 rfl (f.bring 3)) (f7 call105 (h g0 c d e) ((f.bring 2).bring 2) ?_)
  rintro _ p _ aw q _ _ ⟨r,s,t,u,rfl,rfl,v,h⟩
  exact hR _ p _ _ ((((q.bring 2).drop.bring 2).drop.bring 1).bring 1) ⟨(j6 r),s,t,u,rfl,rfl,v,h⟩
 ·refine oc1 call68 h f λa _ ax y h=>r8 y zeroValue43 rfl λay az z ba=>v8 z sizeOf43 (vs:=(p7 a)) λbb aa bc=>L6 aa λbd g=>g8 b4v (s7 (lW isAgg41 sizeOf41 rfl (g.bring 1)) ?_)
  refine K0 g sizeOf3 λbe ab ac=>⟨(ac _ (Inv.c3F ((g.bring 1).bring 1))),?_⟩
  refine g8 a4I (H9 ab sizeOf41 (vs:=(A0 b)) (cs':=[(vi a.D6),(vi a.fTo),(vi a.d9),(vi x1),(vi a.a1q),(vi a.fOp),(vi b.K3),(vi b.A6),(vi a.fB.K3),(vi a.fB.A6)]) rfl rfl (nb rfl) rfl rfl λbf k bg=>?_)
  refine d7 (ldA isAgg43 sizeOf43 rfl (k.at1 (o:=0) (vs:=[(vi a.D6),(vi a.fTo),(vi a.d9),(vi x1),(vi a.a1q),(vi a.fOp),(vi b.K3),(vi b.A6),(vi a.fB.K3),(vi a.fB.A6)]) (nb rfl) rfl)) (f7 call70 (h g0 c d e) ((k.bring 3).bring 3) ?_)
  rintro _ ad _ bh ae _ _ ⟨af,ag,ah,ai,rfl,rfl,aj,h⟩
  exact hR _ ad _ _ (((((ae.bring 2).drop.bring 2).drop.bring 2).drop.bring 1).bring 1) ⟨(j6 af),ag,ah,ai,rfl,rfl,aj,h⟩
def a8O(x0)(b:(List d8))(x1:p5)(x2:Int)(x3:Int)(x4:Int)(H)(K:m0->(List d8)->Hp->Prop):=
 (x1.d9=1->
 T3 x2 x3 1 H (λr s=>
 J0 (j6 x0) b r s (λt u v=>
 K (j6 t) u v)))/\
 (¬(x1.d9=1)->
 (x1.d9=2->
 T3 x2 x4 1 H (λy z=>
 J0 (j6 x0) b y z (λaa ab ac=>
 K (j6 aa) ab ac)))/\
 (¬(x1.d9=2)->
 (x1.d9=4->
 (0:Int)<=0/\(0:Int) < x1.E9.n/\∃c:p5,EltH H x1.E9 0 4 (l7 c)/\
 K9 (j6 x0) b c x2 x4 x3 H (λad ae af=>
 K (j6 ad) ae af))/\
 (¬(x1.d9=4)->
 (x1.d9=5->
 M1 (j6 x0) b H (λd ag ah e=>
 (0:Int)<=0/\(0:Int) < x1.E9.n/\∃f:p5,EltH e x1.E9 0 4 (l7 f)/\
 K9 (j6 ag) ah f x2 d x4 e (λai aj g=>
 (0:Int)<=1/\(1:Int) < x1.E9.n/\∃i:p5,EltH g x1.E9 1 4 (l7 i)/\
 K9 (j6 ai) aj i d x3 x4 g (λak al am=>
 K (j6 ak) al am))))/\
 (¬(x1.d9=5)->
 (x1.d9=6->
 M1 (j6 x0) b H (λj an ao k=>
 (0:Int)<=0/\(0:Int) < x1.E9.n/\∃l:p5,EltH k x1.E9 0 4 (l7 l)/\
 K9 (j6 an) ao l x2 x3 j k (λap aq m=>
 (0:Int)<=1/\(1:Int) < x1.E9.n/\∃o:p5,EltH m x1.E9 1 4 (l7 o)/\
 K9 (j6 ap) aq o j x3 x4 m (λar au av=>
 K (j6 ar) au av))))/\
 (¬(x1.d9=6)->
 a0T (j6 x0) b x1.z7 x2 0 H (λp q aw ax ay az=>
 T3 aw x3 12 az (λa ba=>
 J0 (j6 ax) ay (d8.mk a.D6 a.fTo a.d9 a.a4F a.a1q x1.fOp p q) ba (λbb bc bd=>
 a5m x1.fOp bd (λbe bf=>
 J0 (j6 bb) bc (d8.mk a.D6 x4 a.d9 a.a4F a.a1q be p q) bf (λbg bh bi=>
 K (j6 bg) bh bi))))))))))
theorem b4O(x0 t x1 x2 x3 x4){H K}(h:a8O x0 t x1 x2 x3 x4 H K):K9 x0 t x1 x2 x3 x4 H K:=by
 intro g0 e f g
 refine Ct.of λw0 w ps0 H0 R E I hR=>e3m (D3 I rfl λdz ea b eb=>?_)
 refine c7 a8t (d7 (l1 isAgg3 b rfl) (c7 pEq ?_))
 refine j7 h (λ_ h=>?_) (λ_ h=>?_)
 ·refine oc1 call68 h b λed _ ec ab h=>f7 call70 (h g0 e f g) ((ab.bring 2).bring 2) ?_
  rintro _ ac _ ee ad _ _ ⟨ae,af,ag,ah,rfl,rfl,ai,h⟩
  exact hR _ ac _ _ (((ad.bring 2).drop.bring 1).bring 1) ⟨(j6 ae),af,ag,ah,rfl,rfl,ai,h⟩
 ·refine c7 pEq (j7 h (λ_ h=>?_) (λ_ h=>?_))
  ·refine oc1 call68 h b λeg _ ef aj h=>f7 call70 (h g0 e f g) ((aj.bring 2).bring 2) ?_
   rintro _ ak _ eh al _ _ ⟨am,an,ao,ap,rfl,rfl,aq,h⟩
   exact hR _ ak _ _ (((al.bring 2).drop.bring 1).bring 1) ⟨(j6 am),an,ao,ap,rfl,rfl,aq,h⟩
  ·refine c7 pEq (j7 h (λ_ h=>?_) (λ_ h=>?_))
   ·refine c7 a1v (d7 (l1 isAgg53 b rfl) ?_)
    obtain ⟨ar,au,av,j,h⟩:=h
    obtain ⟨ei,ej,aw,j⟩:=j
    refine c7 (Z9 aw _ _ _ _ ar au) (d7 (ldA (vs:=(l7 av)) isAgg115 sizeOf115 rfl (b.atH j)) ?_)
    refine f7 call72 (h g0 e f g) ((b.bring 2).bring 2) ?_
    rintro _ ax _ ek ay _ _ ⟨az,ba,bb,bc,rfl,rfl,bd,h⟩
    exact hR _ ax _ _ (((ay.bring 2).drop.bring 1).bring 1) ⟨(j6 az),ba,bb,bc,rfl,rfl,bd,h⟩
   ·refine c7 pEq (j7 h (λ_ h=>?_) (λ_ h=>?_))
    ·refine f7 call14 (h g0 e f g) ((b.bring 2).bring 2) ?_
     rintro _ _ _ el k _ _ ⟨em,en,eo,be,bf,rfl,rfl,bg,h⟩
     refine c7 a1v (d7 (l1 isAgg53 (k.bring 2) rfl) ?_)
     obtain ⟨bh,bi,bj,l,h⟩:=h
     obtain ⟨ep,eq,bk,l⟩:=l
     refine c7 (Z9 bk _ _ _ _ bh bi) (d7 (ldA (vs:=(l7 bj)) isAgg115 sizeOf115 rfl (k.atH l)) ?_)
     refine f7 call72 (h g0 be bf bg) ((k.bring 1).bring 1) ?_
     rintro _ _ _ er m _ _ ⟨es,et,bl,bm,rfl,rfl,bn,h⟩
     refine c7 a1v (d7 (l1 isAgg53 (m.bring 2) rfl) ?_)
     obtain ⟨bo,bp,bq,n,h⟩:=h
     obtain ⟨eu,ev,br,n⟩:=n
     refine c7 (Z9 br _ _ _ _ bo bp) (d7 (ldA (vs:=(l7 bq)) isAgg115 sizeOf115 rfl (m.atH n)) ?_)
     refine f7 call72 (h g0 bl bm bn) ((m.bring 1).bring 1) ?_
     rintro _ bs _ ew bt _ _ ⟨bu,bv,bw,bz,rfl,rfl,ca,h⟩
     exact hR _ bs _ _ (((bt.bring 2).drop.bring 1).bring 1) ⟨(j6 bu),bv,bw,bz,rfl,rfl,ca,h⟩
    ·refine c7 pEq (j7 h (λ_ h=>?_) (λ_ h=>?_))
     ·refine f7 call14 (h g0 e f g) ((b.bring 2).bring 2) ?_
      rintro _ _ _ ex p _ _ ⟨ey,ez,fa,cb,cc,rfl,rfl,cd,h⟩
      refine c7 a1v (d7 (l1 isAgg53 (p.bring 2) rfl) ?_)
      obtain ⟨ce,cf,cg,q,h⟩:=h
      obtain ⟨fb,fc,ch,q⟩:=q
      refine c7 (Z9 ch _ _ _ _ ce cf) (d7 (ldA (vs:=(l7 cg)) isAgg115 sizeOf115 rfl (p.atH q)) ?_)
      refine f7 call72 (h g0 cb cc cd) ((p.bring 1).bring 1) ?_
      rintro _ _ _ fd r _ _ ⟨fe,ff,ci,cj,rfl,rfl,ck,h⟩
      refine c7 a1v (d7 (l1 isAgg53 (r.bring 2) rfl) ?_)
      obtain ⟨cl,cm,cn,s,h⟩:=h
      obtain ⟨fg,fh,co,s⟩:=s
      refine c7 (Z9 co _ _ _ _ cl cm) (d7 (ldA (vs:=(l7 cn)) isAgg115 sizeOf115 rfl (r.atH s)) ?_)
      refine f7 call72 (h g0 ci cj ck) ((r.bring 1).bring 1) ?_
      rintro _ cp _ fi cq _ _ ⟨cr,ct,cu,cv,rfl,rfl,cw,h⟩
      exact hR _ cp _ _ (((cq.bring 2).drop.bring 1).bring 1) ⟨(j6 cr),ct,cu,cv,rfl,rfl,cw,h⟩
     ·refine c7 a8u (d7 (l1 isAgg52 b rfl) ?_)
      refine f7 call69 (h g0 e f g) ((b.bring 2).bring 2) ?_
      rintro _ _ _ fj cx _ _ ⟨c,d,cy,fk,fl,cz,da,rfl,rfl,db,h⟩
      refine c7 (m7 _ _ _ rfl) (c7 (m7 _ _ _ rfl) (c7 (m7 _ _ (vi cy) rfl) ?_))
      refine r8 cx zeroValue41 rfl λfm fn dc fo=>r8 dc zeroValue41 rfl λfp fq dd fs=>v8 (dd.bring 1) sizeOf41 (vs:=(A0 c)) λft de fu=>v8 (de.bring 1) sizeOf41 (vs:=(A0 d)) λfv df fw=>oc1 call68 h df λa _ fx dg h=>r8 dg zeroValue43 rfl λfy fz dh ga=>v8 dh sizeOf43 (vs:=(p7 a)) λgb di gc=>L6 di λgd i=>g8 a8v (s7 (l1 isAgg3 (i.bring 5) rfl) ?_)
      refine g8 a7w (s7 (lW isAgg41 sizeOf41 rfl (i.bring 2)) ?_)
      refine s7 (lW isAgg41 sizeOf41 rfl (i.bring 1)) (K0 i sizeOf3 λge u v=>?_)
      refine ⟨(v _ (Inv.c3F ((i.bring 1).bring 1))),(v _ (Inv.c3F ((i.bring 2).bring 1))),?_⟩
      refine g8 a4I (H9 u sizeOf41 (vs:=(A0 c)) (cs':=[(vi a.D6),(vi a.fTo),(vi a.d9),(vi a.a4F),(vi a.a1q),(vi x1.fOp),(vi c.K3),(vi c.A6),(vi a.fB.K3),(vi a.fB.A6)]) rfl rfl (nb rfl) rfl rfl λgf dj dk=>?_)
      refine ⟨(dk _ (Inv.c3F ((u.bring 1).bring 1))),?_⟩
      refine g8 a7v (H9 dj sizeOf41 (vs:=(A0 d)) (cs':=[(vi a.D6),(vi a.fTo),(vi a.d9),(vi a.a4F),(vi a.a1q),(vi x1.fOp),(vi c.K3),(vi c.A6),(vi d.K3),(vi d.A6)]) rfl rfl (nb rfl) rfl rfl λgg y gh=>?_)
      refine d7 (ldA isAgg43 sizeOf43 rfl (y.at1 (o:=0) (vs:=[(vi a.D6),(vi a.fTo),(vi a.d9),(vi a.a4F),(vi a.a1q),(vi x1.fOp),(vi c.K3),(vi c.A6),(vi d.K3),(vi d.A6)]) (nb rfl) rfl)) (f7 call70 (h g0 cz da db) ((y.bring 4).bring 4) ?_)
      rintro _ _ _ gi z _ _ ⟨gj,gk,dl,dm,rfl,rfl,dn,h⟩
      refine c7 a8v (d7 (l1 isAgg3 (z.bring 5) rfl) ?_)
      refine oc1 call41 h z λdq _ gl dp h=>c7 a7t (K0 (dp.bring 2) sizeOf3 λgm dr gn=>?_)
      refine c7 a7w (K0 dr sizeOf3 λgo aa gp=>?_)
      refine d7 (ldA isAgg43 sizeOf43 rfl (aa.at1 (o:=0) (vs:=[(vi a.D6),(vi x4),(vi a.d9),(vi a.a4F),(vi a.a1q),(vi dq),(vi c.K3),(vi c.A6),(vi d.K3),(vi d.A6)]) (nb rfl) rfl)) (f7 call70 (h g0 dl dm dn) ((aa.bring 2).bring 2) ?_)
      rintro _ ds _ gq dt _ _ ⟨du,dv,dw,dx,rfl,rfl,dy,h⟩
      exact hR _ ds _ _ ((((((dt.bring 2).drop.bring 2).drop.bring 2).drop.bring 2).drop.bring 1).bring 1) ⟨(j6 du),dv,dw,dx,rfl,rfl,dy,h⟩
def a8P(x0:m0)(a:(List d8))(x1:i6)(x2:Int)(x3:Int)(H)(K:m0->(List d8)->Hp->Prop):=
 (x1.d9=1->
 ∃c:List (BA×Int),MapH H (λs:BA=>Value.string s) (λn:Int=>Value.int .i64 n) x0.fvars c/\
 (0:Int)<=0/\(0:Int) < x1.z7.n/\∃d:l9,EltH H x1.z7 0 4 (g9 d)/\
 a3Y (j6 x0) a ((lk x1.o7 c).getD 0) d x2 x3 H (λv y z=>
 K (j6 v) y z))/\
 (¬(x1.d9=1)->
 (x1.d9=2->
 T3 x2 x3 11 H (λb e=>
 ∃f:List (BA×Int),MapH e (λs:BA=>Value.string s) (λn:Int=>Value.int .i64 n) x0.farrays f/\
 a0T (j6 x0) a x1.z7 x2 0 e (λaa ab ac ad ae af=>
 J0 (j6 ad) ae (d8.mk ac b.fTo b.d9 b.a4F ((lk x1.o7 f).getD 0) b.fOp aa ab) af (λag ah ai=>
 K (j6 ag) ah ai))))/\
 (¬(x1.d9=2)->
 (x1.d9=3->
 Z1 (j6 x0) a x1.T5 x3 H (λg aj ak al=>
 Z1 (j6 aj) ak x1.T6 x3 al (λi am an j=>
 (0:Int)<=0/\(0:Int) < x1.D4.n/\∃k:p5,EltH j x1.D4 0 4 (l7 k)/\
 K9 (j6 am) an k x2 g i j (λao ap aq=>
 V6 (j6 ao) ap x1.T5 g x3 aq (λar au av=>
 V6 (j6 ar) au x1.T6 i x3 av (λaw ax ay=>
 K (j6 aw) ax ay))))))/\
 (¬(x1.d9=3)->
 (x1.d9=4->
 Z1 (j6 x0) a x1.T5 x2 H (λl az ba m=>
 (0:Int)<=0/\(0:Int) < x1.D4.n/\∃o:p5,EltH m x1.D4 0 4 (l7 o)/\
 K9 (j6 az) ba o x2 l x3 m (λbb bc bd=>
 V6 (j6 bb) bc x1.T5 l x2 bd (λbe bf bg=>
 K (j6 be) bf bg))))/\
 (¬(x1.d9=4)->
 (x1.d9=5->
 M1 (j6 x0) a H (λp bh bi bj=>
 M1 (j6 bh) bi bj (λq bk bl r=>
 (0:Int)<=0/\(0:Int) < x1.D4.n/\∃t:p5,EltH r x1.D4 0 4 (l7 t)/\
 K9 (j6 bk) bl t x2 p q r (λbm bn bo=>
 T3 p x3 13 bo (λbp bq=>
 J0 (j6 bm) bn bp bq (λbr bs bt=>
 T3 q x3 14 bt (λbu bv=>
 J0 (j6 br) bs bu bv (λbw bz ca=>
 K (j6 bw) bz ca))))))))/\
 (¬(x1.d9=5)->
 (x1.d9=6->
 (0:Int)<=0/\(0:Int) < x1.D4.n/\∃u:p5,EltH H x1.D4 0 4 (l7 u)/\
 K9 (j6 x0) a u x2 x3 x0.fc.K8 H (λcb cc cd=>
 K (j6 cb) cc cd))/\
 (¬(x1.d9=6)->
 T3 x2 x3 1 H (λce cf=>
 J0 (j6 x0) a ce cf (λcg ch ci=>
 K (j6 cg) ch ci))))))))
theorem b4P(x0 v x1 x2 x3){H K}(h:a8P x0 v x1 x2 x3 H K):a4P x0 v x1 x2 x3 H K:=by
 intro g0 c d e
 refine Ct.of λw0 w ps0 H0 R E I hR=>e2v (D3 I rfl λey ez b fa=>?_)
 refine c7 a1d (d7 (l1 isAgg3 b rfl) (c7 pEq ?_))
 refine j7 h (λ_ h=>?_) (λ_ h=>?_)
 ·refine L6 b λfb g=>g8 (t7 _) (g8 b7M ?_)
  refine g8 a2j (g8 a1A ?_)
  refine s7 (l1 isAgg61 (g.bring 1) rfl) (s7 (l1 isAgg9 g rfl) ?_)
  obtain ⟨fc,ag,h⟩:=h
  refine b7I (keyS underlying9) underlying61 (z:=0) zeroValue3 g ag x1.o7 (s7 (l1 isAgg52 g rfl) ?_)
  obtain ⟨ah,ai,aj,l,h⟩:=h
  obtain ⟨fd,fe,ak,l⟩:=l
  refine g8 (Z7 ak _ _ _ _ ah ai) (s7 (ldA (vs:=(g9 aj)) isAgg112 sizeOf112 rfl (g.atH l)) ?_)
  refine f7 call67 (h g0 c d e) ((g.bring 2).bring 2) ?_
  rintro _ al _ ff am _ _ ⟨an,ao,ap,aq,rfl,rfl,ar,h⟩
  exact hR _ al _ _ (((am.bring 2).drop.bring 1).bring 1) ⟨(j6 an),ao,ap,aq,rfl,rfl,ar,h⟩
 ·refine c7 pEq (j7 h (λ_ h=>?_) (λ_ h=>?_))
  ·refine oc1 call68 h b λa _ fg au h=>r8 au zeroValue43 rfl λfh fi av fj=>v8 av sizeOf43 (vs:=(p7 a)) λfk aw fl=>L6 aw λfm j=>g8 (t7 _) (g8 b7N ?_)
   refine g8 a2j (s7 (l1 isAgg61 (j.bring 2) rfl) ?_)
   refine s7 (l1 isAgg9 (j.bring 1) rfl) ?_
   obtain ⟨m,ax,h⟩:=h
   refine b7I (keyS underlying9) underlying61 (z:=0) zeroValue3 j ax x1.o7 (g8 b4x ?_)
   refine K0 j sizeOf3 λfn y fo=>c7 a1A (d7 (l1 isAgg52 (y.bring 1) rfl) ?_)
   refine f7 call69 (h g0 c d e) ((y.bring 3).bring 3) ?_
   rintro _ _ _ fp ay _ _ ⟨f,i,aa,fq,fs,az,ba,rfl,rfl,bb,h⟩
   refine c7 (m7 _ _ _ rfl) (c7 (m7 _ _ _ rfl) (c7 (m7 _ _ (vi aa) rfl) (c7 a4I ?_)))
   refine H9 (ay.bring 2) sizeOf41 (vs:=(A0 f)) (cs':=[(vi a.D6),(vi a.fTo),(vi a.d9),(vi a.a4F),(vi ((lk x1.o7 m).getD 0)),(vi a.fOp),(vi f.K3),(vi f.A6),(vi a.fB.K3),(vi a.fB.A6)]) rfl rfl (nb rfl) rfl rfl λft bc fu=>c7 a7v (H9 bc sizeOf41 (vs:=(A0 i)) (cs':=[(vi a.D6),(vi a.fTo),(vi a.d9),(vi a.a4F),(vi ((lk x1.o7 m).getD 0)),(vi a.fOp),(vi f.K3),(vi f.A6),(vi i.K3),(vi i.A6)]) rfl rfl (nb rfl) rfl rfl λfv bd fw=>?_)
   refine c7 a3E (K0 bd sizeOf3 λfx ab fy=>?_)
   refine d7 (ldA isAgg43 sizeOf43 rfl (ab.at1 (o:=0) (vs:=[(vi aa),(vi a.fTo),(vi a.d9),(vi a.a4F),(vi ((lk x1.o7 m).getD 0)),(vi a.fOp),(vi f.K3),(vi f.A6),(vi i.K3),(vi i.A6)]) (nb rfl) rfl)) (f7 call70 (h g0 az ba bb) ((ab.bring 2).bring 2) ?_)
   rintro _ be _ fz bf _ _ ⟨bg,bh,bi,bj,rfl,rfl,bk,h⟩
   exact hR _ be _ _ ((((bf.bring 2).drop.bring 2).drop.bring 1).bring 1) ⟨(j6 bg),bh,bi,bj,rfl,rfl,bk,h⟩
  ·refine c7 pEq (j7 h (λ_ h=>?_) (λ_ h=>?_))
   ·refine c7 a2k (d7 (l1 isAgg23 b rfl) ?_)
    refine f7 call71 (h g0 c d e) ((b.bring 2).bring 2) ?_
    rintro _ _ _ ga ac _ _ ⟨gb,gc,gd,bl,bm,rfl,rfl,bn,h⟩
    refine c7 a4J (d7 (l1 isAgg23 (ac.bring 2) rfl) ?_)
    refine f7 call71 (h g0 bl bm bn) ((ac.bring 1).bring 1) ?_
    rintro _ _ _ ge n _ _ ⟨gf,gg,gh,bo,bp,rfl,rfl,bq,h⟩
    refine c7 Z8 (d7 (l1 isAgg53 (n.bring 2) rfl) ?_)
    obtain ⟨br,bs,bt,p,h⟩:=h
    obtain ⟨gi,gj,bu,p⟩:=p
    refine c7 (Z9 bu _ _ _ _ br bs) (d7 (ldA (vs:=(l7 bt)) isAgg115 sizeOf115 rfl (n.atH p)) ?_)
    refine f7 call72 (h g0 bo bp bq) ((n.bring 1).bring 1) ?_
    rintro _ _ _ gk ad _ _ ⟨gl,gm,bv,bw,rfl,rfl,bz,h⟩
    refine c7 a2k (d7 (l1 isAgg23 (ad.bring 2) rfl) ?_)
    refine f7 call15 (h g0 bv bw bz) ((ad.bring 1).bring 1) ?_
    rintro _ _ _ gn ae _ _ ⟨go,gp,ca,cb,rfl,rfl,cc,h⟩
    refine c7 a4J (d7 (l1 isAgg23 (ae.bring 2) rfl) ?_)
    refine f7 call15 (h g0 ca cb cc) ((ae.bring 1).bring 1) ?_
    rintro _ cd _ gq ce _ _ ⟨cf,cg,ch,ci,rfl,rfl,cj,h⟩
    exact hR _ cd _ _ (((ce.bring 2).drop.bring 1).bring 1) ⟨(j6 cf),cg,ch,ci,rfl,rfl,cj,h⟩
   ·refine c7 pEq (j7 h (λ_ h=>?_) (λ_ h=>?_))
    ·refine c7 a2k (d7 (l1 isAgg23 b rfl) ?_)
     refine f7 call71 (h g0 c d e) ((b.bring 2).bring 2) ?_
     rintro _ _ _ gr q _ _ ⟨gs,gt,gu,ck,cl,rfl,rfl,cm,h⟩
     refine c7 Z8 (d7 (l1 isAgg53 (q.bring 2) rfl) ?_)
     obtain ⟨cn,co,cp,r,h⟩:=h
     obtain ⟨gv,gw,cq,r⟩:=r
     refine c7 (Z9 cq _ _ _ _ cn co) (d7 (ldA (vs:=(l7 cp)) isAgg115 sizeOf115 rfl (q.atH r)) ?_)
     refine f7 call72 (h g0 ck cl cm) ((q.bring 1).bring 1) ?_
     rintro _ _ _ gx af _ _ ⟨gy,gz,cr,ct,rfl,rfl,cu,h⟩
     refine c7 a2k (d7 (l1 isAgg23 (af.bring 2) rfl) ?_)
     refine f7 call15 (h g0 cr ct cu) ((af.bring 1).bring 1) ?_
     rintro _ cv _ ha cw _ _ ⟨cx,cy,cz,da,rfl,rfl,db,h⟩
     exact hR _ cv _ _ (((cw.bring 2).drop.bring 1).bring 1) ⟨(j6 cx),cy,cz,da,rfl,rfl,db,h⟩
    ·refine c7 pEq (j7 h (λ_ h=>?_) (λ_ h=>?_))
     ·refine f7 call14 (h g0 c d e) ((b.bring 2).bring 2) ?_
      rintro _ _ _ hb dc _ _ ⟨hc,hd,he,dd,de,rfl,rfl,df,h⟩
      refine f7 call14 (h g0 dd de df) ((dc.bring 1).bring 1) ?_
      rintro _ _ _ hf s _ _ ⟨hg,hh,hi,dg,dh,rfl,rfl,di,h⟩
      refine c7 Z8 (d7 (l1 isAgg53 (s.bring 2) rfl) ?_)
      obtain ⟨dj,dk,dl,t,h⟩:=h
      obtain ⟨hj,hk,dm,t⟩:=t
      refine c7 (Z9 dm _ _ _ _ dj dk) (d7 (ldA (vs:=(l7 dl)) isAgg115 sizeOf115 rfl (s.atH t)) ?_)
      refine f7 call72 (h g0 dg dh di) ((s.bring 1).bring 1) ?_
      rintro _ _ _ hl dn _ _ ⟨hm,hn,dp,dq,rfl,rfl,dr,h⟩
      refine oc1 call68 h dn λhp _ ho ds h=>f7 call70 (h g0 dp dq dr) ((ds.bring 1).bring 1) ?_
      rintro _ _ _ hq dt _ _ ⟨hr,hs,du,dv,rfl,rfl,dw,h⟩
      refine oc1 call68 h dt λhu _ ht dx h=>f7 call70 (h g0 du dv dw) ((dx.bring 1).bring 1) ?_
      rintro _ dy _ hv dz _ _ ⟨ea,eb,ec,ed,rfl,rfl,ee,h⟩
      exact hR _ dy _ _ (((dz.bring 2).drop.bring 1).bring 1) ⟨(j6 ea),eb,ec,ed,rfl,rfl,ee,h⟩
     ·refine c7 pEq (j7 h (λ_ h=>?_) (λ_ h=>?_))
      ·refine L6 b λhw k=>g8 Z8 (g8 (t7 _) ?_)
       refine g8 Y0 (g8 a5W ?_)
       refine s7 (l1 isAgg53 k rfl) ?_
       obtain ⟨ef,eg,eh,u,h⟩:=h
       obtain ⟨hx,hy,ei,u⟩:=u
       refine g8 (Z9 ei _ _ _ _ ef eg) (s7 (ldA (vs:=(l7 eh)) isAgg115 sizeOf115 rfl (k.atH u)) ?_)
       refine s7 (l1 isAgg3 (k.bring 1) rfl) (f7 call72 (h g0 c d e) ((k.bring 2).bring 2) ?_)
       rintro _ ej _ hz ek _ _ ⟨el,em,en,eo,rfl,rfl,ep,h⟩
       exact hR _ ej _ _ (((ek.bring 2).drop.bring 1).bring 1) ⟨(j6 el),em,en,eo,rfl,rfl,ep,h⟩
      ·refine oc1 call68 h b λib _ ia eq h=>f7 call70 (h g0 c d e) ((eq.bring 2).bring 2) ?_
       rintro _ er _ ic es _ _ ⟨et,eu,ev,ew,rfl,rfl,ex,h⟩
       exact hR _ er _ _ (((es.bring 2).drop.bring 1).bring 1) ⟨(j6 et),eu,ev,ew,rfl,rfl,ex,h⟩
def a2p [PanQ] (aa:Int) (L0:c8) (H:Hp) (K:Hp->Prop):=
 (40 < aa->
 G5 L0 H (λa _=>
 PanQ.q (Value.iface 122 (Value.agg #[(vi a.fAt.Q3),(vi a.fAt.Z6),(vi 41)]))))/\
 (¬(40 < aa)->
 K H)
def b3t [PanQ] (x0:c8) (x1:Int) (x2:Bool) (H:Hp) (K:Hp->Prop):=
 ((!x2)=true->
 M2 x0 H (λa=>
 a2p x1 x0 a K))/\
 ((!x2)=false->
 a2p x1 x0 H K)
theorem b3u [PanQ] (x0:c8) (x1:Int) (x2:Bool) {H:Hp} {K:Hp->Prop} (h:b3t x0 x1 x2 H K):L1 x0 x1 x2 H K:=by
 intro g0
 refine Ct.ofE λw0 w ps0 H0 R E I hR hE=>e2Y ?_
 have hj1:∀H w,Inv w0 ps0 H0 H [bx g0 125 (f9 x0)] w->a2p x1 x0 H K->d2T (pt g0) (vi x1) w R E:=by
  intro H w I h
  intro _
  refine c7 pGt (j7 h (λ_ h=>?_) (λ_ h=>?_))
  ·refine f7 call55 (h g0) I ?_
   rintro _ _ _ d a _ _ ⟨e,rfl,rfl,h⟩
   refine c7 b9o (c7 (b6R _ _ _) (c7 (b9p _ _ _) ?_))
   exact b6i (hE _ _ _ _ a ⟨_,rfl,h⟩)
  ·exact hR _ H _ _ I ⟨rfl,rfl,h⟩
 refine u7 λj1 hx1=>c7 (R5 _) (t6 h (λ_ h=>?_) (λ_ h=>?_))
 ·refine D8 hE call56 (h g0) I ?_
  rintro _ b _ f c _ _ ⟨rfl,rfl,h⟩
  exact hx1 _ _ (hj1 b _ c h)
 ·exact hx1 _ _ (hj1 H _ I h)
def a7l [PanQ] (x0:c8) (x1:Int) (x2:BA) (H:Hp) (K:l9->c8->Hp->Prop):=
 N1 x0 H (λa b=>
 L1 x0 (IntKind.wrap .i64 (x1+1)) a b (λc=>
 V7 x0 (IntKind.wrap .i64 (x1+1)) c (λd e f=>
 K5 e x2 f (λg i=>
 K d g i))))
theorem b3v [PanQ] (x0:c8) (x1:Int) (x2:BA) {H:Hp} {K:l9->c8->Hp->Prop} (h:a7l x0 x1 x2 H K):Z2 x0 x1 x2 H K:=by
 intro g0
 refine Ct.ofE λw0 w ps0 H0 R E I hR hE=>e3N (r8 I zeroValue112 rfl λm n d o=>?_)
 refine c7 pAd (f7 call135 (h g0) (d.bring 1) ?_)
 rintro _ _ _ p e _ _ ⟨q,rfl,rfl,h⟩
 refine D8 hE call59 (h g0) e ?_
 rintro _ _ _ r f _ _ ⟨rfl,rfl,h⟩
 refine c7 pAd (D8 hE call98 (h g0) f ?_)
 rintro _ _ _ s g _ _ ⟨a,t,rfl,rfl,h⟩
 refine r8 g zeroValue112 rfl λu v i y=>v8 i sizeOf112 (vs:=(g9 a)) λz j aa=>D8 hE call94 (h g0) (j.bring 1) ?_
 rintro _ k _ ab b _ _ ⟨l,rfl,rfl,h⟩
 refine d7 (lW isAgg112 sizeOf112 rfl (b.bring 1)) (v8 (b.bring 2) sizeOf112 (vs:=(g9 a)) λac c ad=>?_)
 exact D9 isAgg112 sizeOf112 rfl c (hR _ k _ _ (c.drop.bring 1).drop ⟨a,l,rfl,rfl,h⟩)
def a2q [PanQ] (aa:(List i6)) (L0:c8) (H:Hp) (K:Sl->c8->Hp->Prop):=
 ∀(N5:Sl)(a:Hp),Hle H a->SlH a 6 q9 N5 aa->N5.n<=N5.c->
 K N5 L0 a
def a2r [PanQ] (aa:Int) (C6:(List i6)) (ab:c8) (H:Hp) (n2:KT ((List i6)×c8)) (K:Sl->c8->Hp->Prop):=
 B6 ab ⟨#[125]⟩ H (λb a c=>
 ((!b)=true->
 U2 a c (λe f=>
 L1 a (IntKind.wrap .i64 (aa+1)) e f (λg=>
 a0l a (IntKind.wrap .i64 (aa+1)) g (λd i j=>
 (C6.length+([d]:List i6).length)*121<=140737488355328/\
 n2 ((C6++[d]),i) j))))/\
 ((!b)=false->
 a2q C6 a c K))
def a7m [PanQ] (x0:c8) (x1:Int) (H:Hp) (K:Sl->c8->Hp->Prop):=
 K5 x0 ⟨#[123]⟩ H (λa b=>
 TL (([],a):(List i6)×c8) b λ(s:(List i6)×c8) H n2=>a2r x1 s.1 s.2 H n2 K)
theorem b3w [PanQ] (x0:c8) (x1:Int) {H:Hp} {K:Sl->c8->Hp->Prop} (h:a7m x0 x1 H K):Z3 x0 x1 H K:=by
 intro g0
 refine Ct.ofE λw0 w ps0 H0 R E I hR hE=>d8G (D8 hE call94 (h g0) I ?_)
 rintro _ o _ ao p _ _ ⟨q,rfl,rfl,h⟩
 have hj1:∀bf L0 N5 Fs5j1 H w,RowL 55 6 q9 N5 bf Fs5j1->Inv w0 ps0 H0 H [bx g0 125 (f9 L0),Fs5j1] w->a2q bf L0 H K->c8S (vs N5) w R E:=by
  intro bf L0 N5 Fs5j1 H w bg I h
  intro _
  obtain ⟨i,r,t,u,v⟩:=Inv.freezeC (I.bring 1) bg (by decide)
  replace h:=h N5 i t u v
  exact hR _ i _ _ r ⟨_,_,rfl,rfl,h⟩
 refine u7 λj1 hx1=>?_
 obtain ⟨f,d,y,z⟩:=h
 refine G6 (J:=λn l w=>∃(s:(List i6)×c8)(H:Hp)(bh:Sl)(Fs5l2:Frag),n=d s/\l=(match s with | (C6,bi)=>[(vs bh)])/\(match s with | (C6,bi)=>RowL 55 6 q9 bh C6 Fs5l2)/\(match s with | (C6,bi)=>Inv w0 ps0 H0 H [bx g0 125 (f9 bi),Fs5l2] w)/\f s H) ⟨_,([],q),o,sN,[],rfl,rfl,(RowL.nil a7S a7T),(p.nil.bring 1),y⟩ ?_
 rintro ap aq w next2 ⟨⟨C6,bi⟩,H,bh,Fs5l2,rfl,g,bj,I,aa⟩ hn2
 have g:=lE1 g
 have e5:=g
 simp only [e5]
 obtain ⟨n2,hm2,h⟩:=tlA (B:=λn2=>a2r x1 C6 bi H n2 K) (z (C6,bi) H) aa
 refine f7 call96 (h g0) I ?_
 rintro _ ab _ ar j _ _ ⟨au,ac,rfl,rfl,h⟩
 refine c7 (R5 _) (t6 h (λ_ h=>?_) (λ_ h=>?_))
 ·refine c7 pAd (f7 call60 (h g0) j ?_)
  rintro _ _ _ av ad _ _ ⟨aw,rfl,rfl,h⟩
  refine D8 hE call59 (h g0) ad ?_
  rintro _ _ _ ax ae _ _ ⟨rfl,rfl,h⟩
  refine c7 pAd (D8 hE call61 (h g0) ae ?_)
  rintro _ af _ ay ag _ _ ⟨k,ah,rfl,rfl,h⟩
  refine O0 (e:=55) (c:=q9) (xs:=[k]) ag (c3I _ _ _ _ _ _ _ _ _ _ _ _ _ _) rfl rfl a7S a7T (nb rfl) λaz ba bb ai m bc=>?_
  obtain ⟨aj,h⟩:=h
  exact d2s (s:=bh) (xs:=C6) (m.bring 2) bj (ai.srcO ((m.bring 2).bring 1)) aj λak al bd am an be=>hn2 _ _ _ (hm2 _ _ h).2 ⟨((C6++[k]),ah),af,ak,al,rfl,rfl,am,((an.bring 1).drop.bring 1),(hm2 _ _ h).1⟩
 ·exact hx1 _ _ (hj1 _ _ _ _ ab _ bj ((j.bring 1).bring 1) h)
def X6 [PanQ] (L0:c8) (a:j9) (_:j9) (H:Hp) (K:j9->c8->Hp->Prop):=
 K5 L0 ⟨#[59]⟩ H (λb c=>
 K a b c)
def a0P [PanQ] (aa:c8) (a:j9) (b:j9) (H:Hp) (K:j9->c8->Hp->Prop):=
 V8 aa H (λc d e=>
 K5 d ⟨#[93]⟩ e (λf g=>
 X6 f (j9.mk a.o7 c.A6) b g K))
def b3W [PanQ] (x0:c8) (H:Hp) (K:j9->c8->Hp->Prop):=
 B0 x0 ⟨#[97,114,114,97,121]⟩ H (λd i=>
 a4r (c8.mk x0.fl (IntKind.wrap .i64 (x0.fn+1))) 1 i (λc e f=>
 (d=true->
 K5 e ⟨#[91]⟩ f (λb j=>
 G5 b j (λa g=>
 ((((!decide (a.d9=2))||(decide (a.A6 < 1)))||(decide (2147483647 < a.A6)))=true->
 M2 b g (λk=>
 a0P b (j9.mk c.N9 0) (j9.mk ⟨#[]⟩ 0) k K))/\
 ((((!decide (a.d9=2))||(decide (a.A6 < 1)))||(decide (2147483647 < a.A6)))=false->
 a0P b (j9.mk c.N9 0) (j9.mk ⟨#[]⟩ 0) g K))))/\
 (d=false->
 X6 e (j9.mk c.N9 0) (j9.mk ⟨#[]⟩ 0) f K)))
theorem b3X [PanQ] (x0:c8) {H:Hp} {K:j9->c8->Hp->Prop} (h:b3W x0 H K):a4s x0 H K:=by
 intro g0
 refine Ct.ofE λw0 w ps0 H0 R E I hR hE=>e2X (r8 I zeroValue65 (cs:=[(eS),(vi 0)]) rfl λe ak n al=>?_)
 refine f7 call57 (h g0) (n.bring 1) ?_
 rintro _ _ _ am i _ _ ⟨an,rfl,rfl,h⟩
 refine c7 (t7 _) (c7 a6i (d7 (l1 isAgg3 i rfl) (c7 pAd (c7 (t7 _) ?_))))
 refine c7 a6i (K0 i sizeOf3 λao o ap=>?_)
 refine D8 hE call93 (h g0) o ?_
 rintro _ p _ aq q _ _ ⟨c,r,rfl,rfl,h⟩
 refine c7 c6j (c7 (c8i _) ?_)
 refine r8 q zeroValue65 (cs:=[(eS),(vi 0)]) rfl λf ar s au=>v8 s sizeOf65 (vs:=[(wS c.N9),(vi 0)]) λav j aw=>?_
 have hj1:∀L0 d H w,Inv w0 ps0 H0 H [bx g0 125 (f9 L0),bx f 65 (q6 d),bx e 65 [(wS (j9.mk ⟨#[]⟩ 0).o7),(vi (j9.mk ⟨#[]⟩ 0).D2)]] w->X6 L0 d (j9.mk ⟨#[]⟩ 0) H K->d2R (pt g0) (pt e) (pt f) w R E:=by
  intro L0 d H w I h
  intro _
  refine D8 hE call94 (h g0) I ?_
  rintro _ t _ ax k _ _ ⟨u,rfl,rfl,h⟩
  refine d7 (lW isAgg65 sizeOf65 rfl (k.bring 1)) (v8 (k.bring 2) sizeOf65 (vs:=(q6 d)) λay l az=>?_)
  exact D9 isAgg65 sizeOf65 rfl l (hR _ t _ _ (l.drop.bring 1).drop ⟨d,u,rfl,rfl,h⟩)
 refine u7 λj1 hx1=>t6 h (λ_ h=>?_) (λ_ h=>?_)
 ·refine D8 hE call94 (h g0) (j.bring 1) ?_
  rintro _ _ _ ba v _ _ ⟨m,rfl,rfl,h⟩
  have hj2:∀H w,Inv w0 ps0 H0 H [bx g0 125 (f9 m),bx f 65 [(wS (j9.mk c.N9 0).o7),(vi (j9.mk c.N9 0).D2)],bx e 65 [(wS (j9.mk ⟨#[]⟩ 0).o7),(vi (j9.mk ⟨#[]⟩ 0).D2)]] w->a0P m (j9.mk c.N9 0) (j9.mk ⟨#[]⟩ 0) H K->d2S (pt g0) (pt e) (pt f) w j1 R E:=by
   intro H w I h
   intro _
   refine D8 hE call95 (h g0) I ?_
   rintro _ _ _ bb y _ _ ⟨z,bc,rfl,rfl,h⟩
   refine c7 c6k (c7 a4H ?_)
   refine K0 (y.bring 1) sizeOf3 λbd aa be=>D8 hE call94 (h g0) (aa.bring 1) ?_
   rintro _ ab _ bf ac _ _ ⟨ad,rfl,rfl,h⟩
   exact hx1 _ _ (hj1 ad (j9.mk (j9.mk c.N9 0).o7 z.A6) ab _ (((ac.bring 2).bring 2).bring 2) h)
  refine u7 λj2 hx2=>f7 call55 (h g0) v ?_
  rintro _ ae _ bg af _ _ ⟨ag,rfl,rfl,h⟩
  refine r8 af zeroValue127 (cs:=[(vi 0),(eS),(vi 0),(vi 0),(vi 0)]) rfl λbh bi ah bj=>v8 ah sizeOf127 (vs:=(m8 ag)) λbk b bl=>c7 a6j (d7 (l1 isAgg3 b rfl) (c7 pNe ?_))
  refine c7 (Pu.g λa=>by with_reducible exact b2M) ?_
  refine d7 (Ld.g λa=>by simp only [p6 a];exact (l1 isAgg2 b rfl)) ?_
  refine c7 (Pu.g λa=>by simp only [p6 a];with_reducible exact pLs) ?_
  refine c7 (M6 _ _) (c7 (Pu.g λa=>by with_reducible exact b2M) ?_)
  refine d7 (Ld.g λa=>by simp only [p6 a];exact (l1 isAgg2 b rfl)) ?_
  refine c7 (Pu.g λa=>by simp only [p6 a];with_reducible exact pGt) ?_
  refine c7 (M6 _ _) (t6 h (λ_ h=>?_) (λ_ h=>?_))
  ·refine D8 hE call56 (h g0) (b.bring 1) ?_
   rintro _ ai _ bm aj _ _ ⟨rfl,rfl,h⟩
   exact hx2 _ _ (hj2 ai _ ((((aj.bring 1).drop.bring 2).bring 2).bring 2) h)
  ·exact hx2 _ _ (hj2 ae _ (((b.drop.bring 2).bring 2).bring 2) h)
 ·exact hx1 _ _ (hj1 r (j9.mk c.N9 0) p _ (((j.bring 2).bring 1).bring 2) h)
def a4i(aa:Int)(H)(K:KT Int):=
 K aa H
def a4j(aa:Int)(H)(K:KT Int):=
 a4i (IntKind.wrap .i64 (aa-1)) H K
def b5G(x0:Int)(H)(K:KT Int):=
 (x0=6->
 a4j (IntKind.wrap .i64 (3-1)) H K)/\
 (¬(x0=6)->
 (x0=5->
 a4j 3 H K)/\
 (¬(x0=5)->
 a4i 3 H K))
theorem b5H(x0){H K}(h:b5G x0 H K):a2m x0 H K:=by
 refine Ct.of λw0 w ps0 H0 R E I hR=>d8Z ?_
 have hj1:∀aa H w,Inv w0 ps0 H0 H [] w->a4i aa H K->c9g (vi aa) w R E:=by
  intro aa H w I h
  intro _
  exact hr1 hR I h
 refine u7 λj1 hx1=>?_
 have hj2:∀ab H w,Inv w0 ps0 H0 H [] w->a4j ab H K->c9h (vi ab) w j1 R E:=by
  intro ab H w I h
  intro _
  exact c7 pSu (hx1 _ _ (hj1 _ H _ I h))
 refine u7 λj2 hx2=>c7 pEq (j7 h (λ_ h=>?_) (λ_ h=>?_))
 ·exact c7 pSu (hx2 _ _ (hj2 _ H _ I h))
 ·refine c7 pEq (j7 h (λ_ h=>?_) (λ_ h=>?_))
  ·exact hx2 _ _ (hj2 3 H _ I h)
  ·exact hx1 _ _ (hj1 3 H _ I h)
def E3(aa:Int)(B5:BA)(u5:Int)(A9)(L2:(List d6))(H)(K:BA->i8->(List d6)->Hp->Prop):=
 (0:Int)<=aa/\(aa:Int)<=u5/\(u5:Int)<=B5.size/\
 K (B5.extract (aa:Int).toNat (u5:Int).toNat) (i8.mk B5 u5 A9 sN) L2 H
def E4(Q5:Int)(X0:Int)(G4:Bool)(B4:BA)(u6:Int)(z8)(A4:(List d6))(H)(n2:KT (Int×Bool×BA×Int×f8×(List d6)))(K:BA->i8->(List d6)->Hp->Prop):=
 TG (G4=true) (a3o X0 H) false H (λ(b:Bool)(c:Hp)=>
 ((G4&&b)=true->
 O7 (i8.mk B4 u6 z8 sN) A4 c (λa d e=>
 M0 (C9 a) d e (λf g i=>
 n2 (f,g,a.fs,a.fn,a.fat,d) i)))/\
 ((G4&&b)=false->
 E3 Q5 B4 u6 z8 A4 c K))
def R1(x0:i8)(a:(List d6))(H)(K:BA->i8->(List d6)->Hp->Prop):=
 M0 (C9 x0) a H (λb c d=>
 TL ((b,c,x0.fs,x0.fn,x0.fat,a):Int×Bool×BA×Int×f8×(List d6)) d λ(s:Int×Bool×BA×Int×f8×(List d6)) H n2=>E4 x0.fn s.1 s.2.1 s.2.2.1 s.2.2.2.1 s.2.2.2.2.1 s.2.2.2.2.2 H n2 K)
theorem a3N(x0 f){H K}(h:R1 x0 f H K):Q9 x0 f H K:=by
 intro g0 o p q
 refine Ct.of λw0 w ps0 H0 R E I hR=>c0l ?_
 unfold R1 at h
 unfold c6v
 refine c7 (t7 _) (c7 a1b (d7 (l1 isAgg3 I rfl) ?_))
 have hj1:∀B5 u5(A9:f8)L2 bb T0 H w,RowL 127 5 m8 bb L2 T0->Inv w0 ps0 H0 H [bx g0 167 [(wS B5),(vi u5),(vi A9.Q3),(vi A9.Z6),(vs bb)],T0] w->E3 x0.fn B5 u5 A9 L2 H K->a9P (pt g0) (vi x0.fn) w R E:=by
  intro B5 u5 A9 L2 bb T0 H w bc I h
  unfold a9P
  intro _
  unfold E3 at h
  refine L6 I λau g=>g8 (t7 _) (g8 b0s ?_)
  refine g8 (t7 _) (g8 a1b ?_)
  refine s7 (l1 isAgg9 g rfl) (s7 (l1 isAgg3 g rfl) ?_)
  obtain ⟨af,ag,ah,h⟩:=h
  exact g8 (b7E B5 underlying9 af ag ah) (hR _ H _ _ ((g.bring 1).bring 1) ⟨(B5.extract (x0.fn:Int).toNat (u5:Int).toNat),(i8.mk B5 u5 A9 sN),L2,bb,T0,rfl,rfl,bc,h⟩)
 refine u7 λj1 hx1=>f7 call91 (h g0 o p q) ((I.bring 1).bring 1) ?_
 rintro _ ai _ av aj _ _ ⟨r,t,rfl,rfl,h⟩
 refine c7 (m7 _ _ (Value.int .i32 r) rfl) (c7 (m7 _ _ (vB t) rfl) ?_)
 obtain ⟨i,c,ak,al⟩:=h
 refine G6 (J:=λn l w=>∃(s:Int×Bool×BA×Int×f8×(List d6))(H:Hp)(U3:Sl)(N2:Frag),n=c s/\l=(match s with | (X0,G4,B4,u6,z8,A4)=>[(Value.int .i32 X0),(vB G4)])/\(match s with | (X0,G4,B4,u6,z8,A4)=>RowL 127 5 m8 U3 A4 N2)/\(match s with | (X0,G4,B4,u6,z8,A4)=>Inv w0 ps0 H0 H [bx g0 167 [(wS B4),(vi u6),(vi z8.Q3),(vi z8.Z6),(vs U3)],N2] w)/\i s H) ⟨_,(r,t,x0.fs,x0.fn,x0.fat,f),ai,o,p,rfl,rfl,q,((aj.bring 1).bring 1),ak⟩ ?_
 rintro aw ax w next2 ⟨⟨X0,G4,B4,u6,z8,A4⟩,H,U3,N2,rfl,j,W9,I,am⟩ hn2
 obtain ⟨e6,e7⟩:=lE2 j
 simp only [e6,e7]
 obtain ⟨n2,hm2,h⟩:=tlA (B:=λn2=>E4 x0.fn X0 G4 B4 u6 z8 A4 H n2 K) (al (X0,G4,B4,u6,z8,A4) H) am
 unfold b6Z
 unfold E4 at h
 simp only [K6]
 refine Q4 [] (λd:Bool=>(vB d)) h I (λz h=>by simp only [p6 z];exact R6 call130 h I) λd k an e v y h=>?_
 refine c7 (M3 _ _) (t6 h (λ_ h=>?_) (λ_ h=>?_))
 ·refine f7 call163 (h g0 U3 N2 W9) ((e.bring 1).bring 1) ?_
  rintro _ _ _ ay ao _ _ ⟨m,ap,aa,ab,rfl,rfl,ac,h⟩
  refine f7 call91 (h g0 aa ab ac) ((ao.bring 1).bring 1) ?_
  rintro _ aq _ az ar _ _ ⟨ad,ae,rfl,rfl,h⟩
  refine c7 (m7 _ _ (Value.int .i32 ad) rfl) (c7 (m7 _ _ (vB ae) rfl) ?_)
  exact hn2 _ _ _ (hm2 _ _ h).2 ⟨(ad,ae,m.fs,m.fn,m.fat,ap),aq,aa,ab,rfl,rfl,ac,((ar.bring 1).bring 1),(hm2 _ _ h).1⟩
 ·exact hx1 _ _ (hj1 B4 u6 z8 A4 U3 N2 k _ W9 ((e.bring 1).bring 1) h)
def a6T(x0:Int)(H)(K:KT Bool):=
 X8 x0 H (λa b=>
 K ((decide (a=1))||(decide (a=2))) b)
theorem b2p(x0){H K}(h:a6T x0 H K):a3p x0 H K:=by
 refine Ct.of λw0 w ps0 H0 R E I hR=>d9c (oc1 call127 h I λb c e d h=>?_)
 refine c7 pEq ?_
 simp only [K6]
 refine c7 (Pu.g λa=>by simp only [p6 a];with_reducible exact pEq) ?_
 exact c7 (M6 _ _) (hR _ c _ _ d ⟨_,rfl,rfl,h⟩)
def b9a(H)(K:KT f8):=
 K (f8.mk 1 1) H
theorem b9b{H K}(h:b9a H K):b1Y H K:=by
 refine Ct.of λw0 w ps0 H0 R E I hR=>d9b (r8 I zeroValue47 rfl λc d b e=>?_)
 refine c7 (b0C _ _) (v8 b sizeOf47 (vs:=[(vi 1),(vi 1)]) λf a g=>?_)
 exact D9 isAgg47 sizeOf47 rfl a (hR _ H _ _ a.drop ⟨_,rfl,rfl,h⟩)
def a6U(x0:Int)(H)(K:KT Bool):=
 X8 x0 H (λa b=>
 K (decide (a=4)) b)
theorem b2q(x0){H K}(h:a6U x0 H K):a3q x0 H K:=by
 refine Ct.of λw0 w ps0 H0 R E I hR=>d9K (oc1 call127 h I λc a d b h=>?_)
 exact c7 pEq (hR _ a _ _ b ⟨_,rfl,rfl,h⟩)
def E5(aa:Int)(B5:BA)(u5:Int)(A9)(L2:(List d6))(H)(K:BA->i8->(List d6)->Hp->Prop):=
 (0:Int)<=aa/\(aa:Int)<=u5/\(u5:Int)<=B5.size/\
 K (B5.extract (aa:Int).toNat (u5:Int).toNat) (i8.mk B5 u5 A9 sN) L2 H
def E6(Q5:Int)(X0:Int)(G4:Bool)(B4:BA)(u6:Int)(z8)(A4:(List d6))(H)(n2:KT (Int×Bool×BA×Int×f8×(List d6)))(K:BA->i8->(List d6)->Hp->Prop):=
 TG (G4=true) (a3q X0 H) false H (λ(b:Bool)(c:Hp)=>
 ((G4&&b)=true->
 O7 (i8.mk B4 u6 z8 sN) A4 c (λa d e=>
 M0 (C9 a) d e (λf g i=>
 n2 (f,g,a.fs,a.fn,a.fat,d) i)))/\
 ((G4&&b)=false->
 E5 Q5 B4 u6 z8 A4 c K))
def R3(x0:i8)(a:(List d6))(H)(K:BA->i8->(List d6)->Hp->Prop):=
 M0 (C9 x0) a H (λb c d=>
 TL ((b,c,x0.fs,x0.fn,x0.fat,a):Int×Bool×BA×Int×f8×(List d6)) d λ(s:Int×Bool×BA×Int×f8×(List d6)) H n2=>E6 x0.fn s.1 s.2.1 s.2.2.1 s.2.2.2.1 s.2.2.2.2.1 s.2.2.2.2.2 H n2 K)
theorem a3O(x0 f){H K}(h:R3 x0 f H K):R0 x0 f H K:=by
 intro g0 o p q
 refine Ct.of λw0 w ps0 H0 R E I hR=>c0l ?_
 unfold R3 at h
 unfold c6v
 refine c7 (t7 _) (c7 a1b (d7 (l1 isAgg3 I rfl) ?_))
 have hj1:∀B5 u5(A9:f8)L2 bb T0 H w,RowL 127 5 m8 bb L2 T0->Inv w0 ps0 H0 H [bx g0 167 [(wS B5),(vi u5),(vi A9.Q3),(vi A9.Z6),(vs bb)],T0] w->E5 x0.fn B5 u5 A9 L2 H K->a9P (pt g0) (vi x0.fn) w R E:=by
  intro B5 u5 A9 L2 bb T0 H w bc I h
  unfold a9P
  intro _
  unfold E5 at h
  refine L6 I λau g=>g8 (t7 _) (g8 b0s ?_)
  refine g8 (t7 _) (g8 a1b ?_)
  refine s7 (l1 isAgg9 g rfl) (s7 (l1 isAgg3 g rfl) ?_)
  obtain ⟨af,ag,ah,h⟩:=h
  exact g8 (b7E B5 underlying9 af ag ah) (hR _ H _ _ ((g.bring 1).bring 1) ⟨(B5.extract (x0.fn:Int).toNat (u5:Int).toNat),(i8.mk B5 u5 A9 sN),L2,bb,T0,rfl,rfl,bc,h⟩)
 refine u7 λj1 hx1=>f7 call91 (h g0 o p q) ((I.bring 1).bring 1) ?_
 rintro _ ai _ av aj _ _ ⟨r,t,rfl,rfl,h⟩
 refine c7 (m7 _ _ (Value.int .i32 r) rfl) (c7 (m7 _ _ (vB t) rfl) ?_)
 obtain ⟨i,c,ak,al⟩:=h
 refine G6 (J:=λn l w=>∃(s:Int×Bool×BA×Int×f8×(List d6))(H:Hp)(U3:Sl)(N2:Frag),n=c s/\l=(match s with | (X0,G4,B4,u6,z8,A4)=>[(Value.int .i32 X0),(vB G4)])/\(match s with | (X0,G4,B4,u6,z8,A4)=>RowL 127 5 m8 U3 A4 N2)/\(match s with | (X0,G4,B4,u6,z8,A4)=>Inv w0 ps0 H0 H [bx g0 167 [(wS B4),(vi u6),(vi z8.Q3),(vi z8.Z6),(vs U3)],N2] w)/\i s H) ⟨_,(r,t,x0.fs,x0.fn,x0.fat,f),ai,o,p,rfl,rfl,q,((aj.bring 1).bring 1),ak⟩ ?_
 rintro aw ax w next2 ⟨⟨X0,G4,B4,u6,z8,A4⟩,H,U3,N2,rfl,j,W9,I,am⟩ hn2
 obtain ⟨e6,e7⟩:=lE2 j
 simp only [e6,e7]
 obtain ⟨n2,hm2,h⟩:=tlA (B:=λn2=>E6 x0.fn X0 G4 B4 u6 z8 A4 H n2 K) (al (X0,G4,B4,u6,z8,A4) H) am
 unfold b6Z
 unfold E6 at h
 simp only [K6]
 refine Q4 [] (λd:Bool=>(vB d)) h I (λz h=>by simp only [p6 z];exact R6 call167 h I) λd k an e v y h=>?_
 refine c7 (M3 _ _) (t6 h (λ_ h=>?_) (λ_ h=>?_))
 ·refine f7 call163 (h g0 U3 N2 W9) ((e.bring 1).bring 1) ?_
  rintro _ _ _ ay ao _ _ ⟨m,ap,aa,ab,rfl,rfl,ac,h⟩
  refine f7 call91 (h g0 aa ab ac) ((ao.bring 1).bring 1) ?_
  rintro _ aq _ az ar _ _ ⟨ad,ae,rfl,rfl,h⟩
  refine c7 (m7 _ _ (Value.int .i32 ad) rfl) (c7 (m7 _ _ (vB ae) rfl) ?_)
  exact hn2 _ _ _ (hm2 _ _ h).2 ⟨(ad,ae,m.fs,m.fn,m.fat,ap),aq,aa,ab,rfl,rfl,ac,((ar.bring 1).bring 1),(hm2 _ _ h).1⟩
 ·exact hx1 _ _ (hj1 B4 u6 z8 A4 U3 N2 k _ W9 ((e.bring 1).bring 1) h)
def a8l(x0)(j:(List d6))(H)(K:d6->Int->i8->(List d6)->Hp->Prop):=
 R0 (C9 x0) j H (λa c d k=>
 b2X a 10 64 k (λl b m=>
 M0 (C9 c) d m (λn e f=>
 okI b/\
 ((!(!isNilI b)&&(decide (1 < (a.size:Int))))=true->(0:Int)<=0/\0 < (a.size:Int))/\
 TG ((!((!isNilI b)||((decide (1 < (a.size:Int)))&&(decide (((a.get! (0:Int).toNat).toNat:Int)=48))))&&e)=true) (X8 n f) 0 f (λ(g:Int)(i:Hp)=>
 ((((!isNilI b)||((decide (1 < (a.size:Int)))&&(decide (((a.get! (0:Int).toNat).toNat:Int)=48))))||(e&&(decide (g=3))))=true->
 K (d6.mk 2 a 0 (f8.mk 0 0)) 21 (C9 c) d i)/\
 ((((!isNilI b)||((decide (1 < (a.size:Int)))&&(decide (((a.get! (0:Int).toNat).toNat:Int)=48))))||(e&&(decide (g=3))))=false->
 K (d6.mk 2 a l (f8.mk 0 0)) 0 (C9 c) d i)))))
theorem b3Y(x0 q){H K}(h:a8l x0 q H K):a8a x0 q H K:=by
 intro g0 ac ad ae
 refine Ct.of λw0 w ps0 H0 R E I hR=>d9h (r8 I zeroValue127 rfl λao ap af aq=>?_)
 refine f7 call128 (h g0 ac ad ae) ((af.bring 2).bring 2) ?_
 rintro _ _ _ ar ag _ _ ⟨f,r,s,m,n,rfl,rfl,p,h⟩
 refine c7 (a9N _ _) (r8 ag zeroValue127 rfl λau av ah aw=>?_)
 refine v8 ah sizeOf127 (vs:=[(vi 2),(wS f),(vi 0),(vi 0),(vi 0)]) λax t ay=>c7 a0w (d7 (l1 isAgg9 t rfl) ?_)
 refine f7 call168 h t ?_
 rintro _ _ _ az ai _ _ ⟨j,aj,rfl,rfl,h⟩
 refine c7 (m7 _ _ (vi j) rfl) (c7 (m7 _ _ aj rfl) ?_)
 refine f7 call91 (h g0 m n p) ((ai.bring 2).bring 2) ?_
 rintro _ _ _ ba d _ _ ⟨ak,al,rfl,rfl,h⟩
 refine c7 (m7 _ _ (Value.int .i32 ak) rfl) (c7 (m7 _ _ (vB al) rfl) ?_)
 obtain ⟨am,h⟩:=h
 refine c7 (d0H _ am) (c7 (Pu.g λa=>by with_reducible exact a0w) ?_)
 refine d7 (Ld.g λa=>by simp only [p6 a];exact (l1 isAgg9 (d.bring 2) rfl)) ?_
 refine c7 (Pu.g λa=>by simp only [p6 a];with_reducible exact (b0F _)) ?_
 refine c7 (Pu.g λa=>by simp only [p6 a];with_reducible exact pGt) ?_
 simp only [K6,c0e]
 refine c7 (Pu.e (a3h _ _ _) (Pu.g λhb=>by obtain ⟨a,b⟩:=a7r hb;with_reducible exact a0w)) ?_
 refine d7 (Ld.e (a3h _ _ _) (Ld.g λhb=>by obtain ⟨a,b⟩:=a7r hb;simp only [p6 hb];exact (l1 isAgg9 (d.bring 2) rfl))) ?_
 obtain ⟨c,h⟩:=h
 refine c7 (Pu.e (a3h _ _ _) (Pu.g λhb=>by obtain ⟨a,b⟩:=a7r hb;simp only [p6 hb];with_reducible exact (d8B _ _ _ (c hb).1 (c hb).2))) ?_
 refine c7 (Pu.e (a3h _ _ _) (Pu.g λhb=>by obtain ⟨a,b⟩:=a7r hb;simp only [p6 hb];with_reducible exact pEq)) ?_
 refine c7 (Pu.g λa=>by simp only [p6 a,b9i a];with_reducible exact (M3 _ _)) ?_
 refine c7 (M6 _ _) ?_
 simp only [K6,c0e,d2b]
 refine d6X (a3h _ _ _) (Q4 [] (λk:Int=>(vi k)) h d (λu h=>?_) λk l an i v y h=>?_)
 ·obtain ⟨a,b⟩:=a7r u
  simp only [p6 u]
  refine f7 call127 h d ?_
  rintro _ l _ an i y v ⟨k,rfl,rfl,h⟩
  exact ⟨k,l,rfl,i,v,y,h⟩
 refine c7 (Pu.e (a3h _ _ _) (Pu.g λhb=>by obtain ⟨a,b⟩:=a7r hb;simp only [p6 hb];with_reducible exact pEq)) ?_
 refine c7 (Pu.g λa=>by simp only [p6 a,b9i a];with_reducible exact (M3 _ _)) ?_
 refine c7 (M6 _ _) (t6 h (λ_ h=>?_) (λ_ h=>?_))
 ·refine d7 (ldA isAgg127 sizeOf127 rfl ((i.bring 2).at1 (o:=0) (vs:=[(vi 2),(wS f),(vi 0),(vi 0),(vi 0)]) (nb rfl) rfl)) (v8 (i.bring 3) sizeOf127 (vs:=[(vi 2),(wS f),(vi 0),(vi 0),(vi 0)]) λbb z bc=>?_)
  exact D9 isAgg127 sizeOf127 rfl z (hR _ l _ _ (((z.drop.bring 2).drop.bring 1).bring 1) ⟨(d6.mk 2 f 0 (f8.mk 0 0)),21,(C9 r),s,m,n,rfl,rfl,p,h⟩)
 ·refine c7 b2M (K0 (i.bring 2) sizeOf2 λbd aa be=>?_)
  refine d7 (ldA isAgg127 sizeOf127 rfl (aa.at1 (o:=0) (vs:=[(vi 2),(wS f),(vi j),(vi 0),(vi 0)]) (nb rfl) rfl)) (v8 (aa.bring 3) sizeOf127 (vs:=[(vi 2),(wS f),(vi j),(vi 0),(vi 0)]) λbf ab bg=>?_)
  exact D9 isAgg127 sizeOf127 rfl ab (hR _ l _ _ ((ab.drop.drop.bring 1).bring 1) ⟨(d6.mk 2 f j (f8.mk 0 0)),0,(C9 r),s,m,n,rfl,rfl,p,h⟩)
def b1a(x0)(H)(K:KT Bool):=
 N1 x0 H (λa d=>
 TG (a=false) (B0 x0 ⟨#[116,114,117,101]⟩ d) false d (λ(b:Bool)(e:Hp)=>
 TG ((a||b)=false) (B0 x0 ⟨#[102,97,108,115,101]⟩ e) false e (λ(c:Bool)(f:Hp)=>
 TG (((a||b)||c)=false) (B0 x0 ⟨#[33]⟩ f) false f (λ(g:Bool)(i:Hp)=>
 TG ((((a||b)||c)||g)=false) (B0 x0 ⟨#[91]⟩ i) false i (λ(j:Bool)(k:Hp)=>
 K ((((a||b)||c)||g)||j) k)))))
theorem b1b(x0){H K}(h:b1a x0 H K):V2 x0 H K:=by
 intro g0
 refine Ct.of λw0 w ps0 H0 R E I hR=>d9O (f7 call135 (h g0) I ?_)
 rintro _ _ _ ai l _ _ ⟨ad,rfl,rfl,h⟩
 simp only [K6]
 refine Q4 [bx g0 125 (f9 x0)] (λb:Bool=>(vB b)) h l (λa h=>by simp only [p6 a];exact R6 call57 (h g0) l) λb n ae f o p h=>?_
 refine c7 (M6 _ _) ?_
 simp only [K6]
 refine Q4 [bx g0 125 (f9 x0)] (λc:Bool=>(vB c)) h f (λa h=>by simp only [p6 a];exact R6 call57 (h g0) f) λc r af g s t h=>?_
 refine c7 (M6 _ _) ?_
 simp only [K6]
 refine Q4 [bx g0 125 (f9 x0)] (λd:Bool=>(vB d)) h g (λa h=>by simp only [p6 a];exact R6 call57 (h g0) g) λd v ag i y z h=>?_
 refine c7 (M6 _ _) ?_
 simp only [K6]
 refine Q4 [bx g0 125 (f9 x0)] (λe:Bool=>(vB e)) h i (λa h=>by simp only [p6 a];exact R6 call57 (h g0) i) λe j ah k ab ac h=>?_
 exact c7 (M6 _ _) (hR _ j _ _ k ⟨_,rfl,rfl,h⟩)
def b0j(x0:a1z)(H)(K:KT Bool):=
 K ((decide (0<=x0.a2W.D2))&&(decide (x0.a2W.D2<=2147483647))) H
theorem b6a(x0){H K}(h:b0j x0 H K):b0g x0 H K:=by
 refine Ct.of λw0 w ps0 H0 R E I hR=>d9T (D3 I rfl λc d b e=>?_)
 refine c7 b6D (c7 a4H (d7 (l1 isAgg3 b rfl) (c7 pGe ?_)))
 refine c7 (Pu.g λa=>by with_reducible exact b6D) ?_
 refine c7 (Pu.g λa=>by simp only [p6 a];with_reducible exact a4H) ?_
 refine d7 (Ld.g λa=>by simp only [p6 a];exact (l1 isAgg3 b rfl)) ?_
 refine c7 (Pu.g λa=>by simp only [p6 a];with_reducible exact pLe) ?_
 exact c7 (M3 _ _) (hR _ H _ _ b.drop ⟨_,rfl,rfl,h⟩)
def a9u(_:a1z)(H)(K:KT Sl):=
 K sN H
theorem b5I(x0){H K}(h:a9u x0 H K):a9e x0 H K:=by
 refine Ct.of λw0 w ps0 H0 R E I hR=>d9U (D3 I rfl λb c a d=>?_)
 exact hr1 hR a.drop h
end Go.Proofs.YthjlehnccgjpoaaGreatDoor
