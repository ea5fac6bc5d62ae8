/- Lemmas. -/
import Derived.Test.YthjlehnccgjpoaaGreatDooryVV1a
import Derived.Test.YthjlehnccgjpoaaGreatDooryVV1c
namespace Go.Proofs.YthjlehnccgjpoaaGreatDoor
open Tryz Go.RowKit
set_option maxRecDepth 100000
set_option maxHeartbeats 2000000
def b7i(_:g7)(a:(List Int))(H)(K:KT Int):=
 K (a.length:Int) H
theorem b7j(x0 a){H K}(h:b7i x0 a H K):a6B x0 a H K:=by
 intro g0 c d b
 refine Ct.of λw0 w ps0 H0 R E I hR=>e2S (c7 (t7 _) (c7 b1f (d7 (l1 isAgg79 I rfl) (c7 (a4E underlying79 b) ?_))))
 exact hR _ H _ _ ((I.bring 1).bring 1) ⟨_,rfl,rfl,h⟩
def P3(aa:(List j8))(H)(K:KT Sl):=
 ∀(N5:Sl)(a:Hp),Hle H a->SlH a 1 C0 N5 aa->N5.n<=N5.c->
 K N5 a
def P4(M5:Sl)(aa:Int)(C6:(List j8))(B8:Int)(H)(n2:KT ((List j8)×Int))(K:KT Sl):=
 (B8 < aa->
 (0:Int)<=B8/\(B8:Int) < M5.n/\∃a:i6,EltH H M5 B8 6 (q9 a)/\
 b1l a H (λb c=>
 (C6.length+([b]:List j8).length)*17<=140737488355328/\
 n2 ((C6++[b]),(IntKind.wrap .i64 (B8+1))) c))/\
 (¬(B8 < aa)->
 P3 C6 H K)
def Y8(x0:Sl)(H)(K:KT Sl):=
 TL (([],0):(List j8)×Int) H λ(s:(List j8)×Int) H n2=>P4 x0 (x0.n:Int) s.1 s.2 H n2 K
theorem a3B(x0){H K}(h:Y8 x0 H K):G7 x0 H K:=by
 refine Ct.of λw0 w ps0 H0 R E I hR=>e3v ?_
 have hj1:∀bf N5 Fs5j1 H w,RowL 149 1 C0 N5 bf Fs5j1->Inv w0 ps0 H0 H [Fs5j1] w->P3 bf H K->d3f (vs N5) w R E:=by
  intro bf N5 Fs5j1 H w bg I h
  intro _
  obtain ⟨j,q,r,t,u⟩:=Inv.freezeC I bg (by decide)
  replace h:=h N5 j r t u
  exact hR _ j _ _ q ⟨_,rfl,rfl,h⟩
 refine u7 λj1 hx1=>c7 (a1P _ _ _) ?_
 obtain ⟨f,d,v,y⟩:=h
 refine G6 (J:=λn l w=>∃(s:(List j8)×Int)(H:Hp)(bh:Sl)(Fs5l2:Frag),n=d s/\l=(match s with | (C6,B8)=>[(vs bh),(vi B8)])/\(match s with | (C6,B8)=>RowL 149 1 C0 bh C6 Fs5l2)/\(match s with | (C6,B8)=>Inv w0 ps0 H0 H [Fs5l2] w)/\f s H) ⟨_,([],0),H,sN,[],rfl,rfl,(RowL.nil Y3 a0x),I.nil,v⟩ ?_
 rintro am an w next2 ⟨⟨C6,B8⟩,H,bh,Fs5l2,rfl,g,bi,I,z⟩ hn2
 obtain ⟨e5,e10⟩:=lE2 g
 simp only [e5,e10]
 obtain ⟨n2,hm2,h⟩:=tlA (B:=λn2=>P4 x0 (x0.n:Int) C6 B8 H n2 K) (y (C6,B8) H) z
 refine c7 pLs (j7 h (λ_ h=>?_) (λ_ h=>?_))
 ·obtain ⟨aa,ab,k,i,h⟩:=h
  obtain ⟨ao,ap,ac,i⟩:=i
  refine c7 (b5d ac _ _ _ _ aa ab) (d7 (ldA (vs:=(q9 k)) isAgg55 sizeOf55 rfl (I.atH i)) ?_)
  refine r8 I zeroValue55 rfl λaq ar ad au=>v8 ad sizeOf55 (vs:=(q9 k)) λav m aw=>d7 (lW isAgg55 sizeOf55 rfl m) (f7 call78 h m ?_)
  rintro _ ae _ ax af _ _ ⟨o,rfl,rfl,h⟩
  refine O0 (e:=149) (c:=C0) (xs:=[o]) af (b7U _) rfl rfl Y3 a0x (nb rfl) λay az ba ag p bb=>?_
  obtain ⟨ah,h⟩:=h
  exact b6U (s:=bh) (xs:=C6) (p.bring 2) bi (ag.srcO ((p.bring 2).bring 1)) ah λai aj bc ak al bd=>c7 pAd (hn2 _ _ _ (hm2 _ _ h).2 ⟨((C6++[o]),(IntKind.wrap .i64 (B8+1))),ae,ai,aj,rfl,rfl,ak,((al.bring 1).drop.bring 1).drop,(hm2 _ _ h).1⟩)
 ·exact hx1 _ _ (hj1 _ _ _ H _ bi I h)
def a1i(aa:Int)(H)(K:KT Int):=
 K aa H
def a4l(b:BA)(aa:Int)(a:Nat)(H)(n2:KT (Int×Nat))(K:KT Int):=
 (a < b.size->
 n2 ((IntKind.wrap .i64 (aa+1)),(a+(Utf8.decode b a).2)) H)/\
 (¬(a < b.size)->
 a1i aa H K)
def a5v(x0:BA)(H)(K:KT Int):=
 TL ((0,0):Int×Nat) H λ(s:Int×Nat) H n2=>a4l x0 s.1 s.2 H n2 K
theorem b0N(x0){H K}(h:a5v x0 H K):a1M x0 H K:=by
 refine Ct.of λw0 w ps0 H0 R E I hR=>e0i ?_
 have hj1:∀aa H w,Inv w0 ps0 H0 H [] w->a1i aa H K->c9H (vi aa) w R E:=by
  intro aa H w I h
  intro _
  exact hR _ H _ _ I ⟨_,rfl,rfl,h⟩
 refine u7 λj1 hx1=>b6N underlying9 x0 I λd i f j=>a2f (σ:=Int×Nat) (λ(ab,a)=>[(vi ab)]) (λ(ab,a)=>[itf d x0 a]) h rfl f ?_
 rintro ⟨ab,a⟩ H k w next2 n2 b I h hn2
 have b:=lE1 b
 have e2:=b
 simp only [e2]
 refine b9m I (λc l g m=>?_) (λc=>?_)
 ·replace h:=h.1 c
  refine c7 (m7 _ _ (vB true) rfl) (Z5 (λe=>?_) (λe=>by cases e))
  exact c7 pAd (hn2 ((IntKind.wrap .i64 (ab+1)),(a+(Utf8.decode x0 a).2)) _ _ h g)
 ·replace h:=h.2 c
  refine c7 (m7 _ _ (vB false) rfl) (Z5 (λe=>by cases e) (λe=>?_))
  exact hx1 _ _ (hj1 _ H _ I.drop h)
def a4W(aa:Int)(ab:Int)(ad:Int)(ae:Bool)(ag:Bool)(ah:(List BA))(H)(K:Bool->v6->(List BA)->Hp->Prop):=
 K true (v6.mk aa ab ad ae ag sN) ah H
def a4X(aa:Int)(ab:Sl)(B8:Int)(ad:Int)(ae:Int)(ag:Int)(ah:Int)(ai:Bool)(aj:Bool)(ak:(List BA))(H)(n2:KT (Int×Int×Int×Int×Bool×Bool×(List BA)))(K:Bool->v6->(List BA)->Hp->Prop):=
 (ad < B8->
 (0:Int)<=ad/\(ad:Int) < ab.n/\∃c:j8,EltH H ab ad 1 [(O2 c)]/\
 a4q (v6.mk ae ag ah ai aj sN) ak c aa H (λb d e f=>
 TG ((!b)=false) (a6C c f) sN f (λ(j:Sl)(g:Hp)=>
 TG ((!b)=false) (λk_=>a1w j (IntKind.wrap .i64 (aa+1)) (a2i d) e g λk l m H_=>k_ (k,l,m) H_) (false,(a2i d),e) g (λ(a:Bool×v6×(List BA))(i:Hp)=>
 (((!b)||(!a.1))=true->
 K false (v6.mk (a.2.1.fnodes) (a.2.1.fdepth) (a.2.1.fe) (a.2.1.fform) (a.2.1.fnamed) sN) a.2.2 i)/\
 (((!b)||(!a.1))=false->
 n2 ((IntKind.wrap .i64 (ad+1)),(a.2.1.fnodes),(a.2.1.fdepth),(a.2.1.fe),(a.2.1.fform),(a.2.1.fnamed),a.2.2) i)))))/\
 (¬(ad < B8)->
 a4W ae ag ah ai aj ak H K)
def b0x(x0:Sl)(x1:Int)(x2:v6)(a:(List BA))(H)(K:Bool->v6->(List BA)->Hp->Prop):=
 TL ((0,x2.fnodes,x2.fdepth,x2.fe,x2.fform,x2.fnamed,a):Int×Int×Int×Int×Bool×Bool×(List BA)) H λ(s:Int×Int×Int×Int×Bool×Bool×(List BA)) H n2=>a4X x1 x0 (x0.n:Int) s.1 s.2.1 s.2.2.1 s.2.2.2.1 s.2.2.2.2.1 s.2.2.2.2.2.1 s.2.2.2.2.2.2 H n2 K
theorem b6I(x0 x1 x2 ai){H K}(h:b0x x0 x1 x2 ai H K):a1w x0 x1 x2 ai H K:=by
 intro g2 bo g3 az ba bb
 refine Ct.of λw0 w ps0 H0 R E I hR=>d8S ?_
 have hj1:∀bp bq br bs bu bw bz ca H w,RowL 9 1 v7 bz bw ca->Inv w0 ps0 H0 H [bx g2 107 [(pt bo)],bx bo 106 [(vi bp),(vi bq),(vi br),(vB bs),(vB bu),(vs bz)],bx g3 194 [(Value.func (.func 108) #[] #[(pt g2),(pt g3)])],ca] w->a4W bp bq br bs bu bw H K->c9d w R E:=by
  intro bp bq br bs bu bw bz ca H w cc I h
  intro _
  exact hR _ H _ _ ((((I.bring 2).bring 3).bring 3).bring 3) ⟨true,(v6.mk bp bq br bs bu sN),bw,bz,ca,rfl,rfl,cc,h⟩
 refine u7 λj1 hx1=>c7 (b4A _ _ _) ?_
 obtain ⟨aj,z,bc,bd⟩:=h
 refine G6 (J:=λn l w=>∃(s:Int×Int×Int×Int×Bool×Bool×(List BA))(H:Hp)(cd:Sl)(ce:Frag),n=z s/\l=(match s with | (cf,cg,ch,ci,cj,ck,cl)=>[(vi cf)])/\(match s with | (cf,cg,ch,ci,cj,ck,cl)=>RowL 9 1 v7 cd cl ce)/\(match s with | (cf,cg,ch,ci,cj,ck,cl)=>Inv w0 ps0 H0 H [bx g2 107 [(pt bo)],bx bo 106 [(vi cg),(vi ch),(vi ci),(vB cj),(vB ck),(vs cd)],bx g3 194 [(Value.func (.func 108) #[] #[(pt g2),(pt g3)])],ce] w)/\aj s H) ⟨_,(0,x2.fnodes,x2.fdepth,x2.fe,x2.fform,x2.fnamed,ai),H,az,ba,rfl,rfl,bb,((((I.bring 2).bring 3).bring 3).bring 3),bc⟩ ?_
 rintro bj bk w next2 ⟨⟨cf,cg,ch,ci,cj,ck,cl⟩,H,cd,ce,rfl,ak,cm,I,be⟩ hn2
 have ak:=lE1 ak
 have e11:=ak
 simp only [e11]
 obtain ⟨n2,hm2,h⟩:=tlA (B:=λn2=>a4X x1 x0 (x0.n:Int) cf cg ch ci cj ck cl H n2 K) (bd (cf,cg,ch,ci,cj,ck,cl) H) be
 refine c7 pLs (j7 h (λ_ h=>?_) (λ_ h=>?_))
 ·obtain ⟨bf,bg,bh,al,h⟩:=h
  obtain ⟨bl,bm,bi,al⟩:=al
  refine c7 (d2w bi _ _ _ _ bf bg) (d7 (ld1 (v:=(O2 bh)) isAgg149 (I.atH al)) ?_)
  refine L6 I λbn ao=>s7 (l1 isAgg107 ao rfl) (f7 call109 (h bo cd ce cm) ((ao.bring 3).bring 2) ?_)
  rintro _ ap _ aq o _ _ ⟨p,aa,am,ac,ad,rfl,rfl,ar,h⟩
  refine g8 (R5 _) ?_
  simp only [K6]
  refine g8 (Pu.g λc=>by simp only [p6 c];with_reducible exact pAd) ?_
  refine s7 (Ld.g λc=>by exact (l1 isAgg194 (o.bring 3) rfl)) ?_
  refine b9j (D:=λau u=>∃(ab:Sl)(k:Hp),au=(gv (!p) false (vs ab))/\(Inv w0 ps0 H0 k [bx bo 106 (a3j aa ac),ad,bx g2 107 [(pt bo)],bx g3 194 [(Value.func (.func 108) #[] #[(pt g2),(pt g3)])]] u)/\(∀i,i < aq.heap.size->¬inF [] i->u.heap[i]? = aq.heap[i]?)/\Hle ap k/\(TG ((!p)=false) (λk_=>a1w ab (IntKind.wrap .i64 (x1+1)) (a2i aa) am k λm d j H_=>k_ (m,d,j) H_) (false,(a2i aa),am) k (λ(e:Bool×v6×(List BA))(f:Hp)=>
 (((!p)||(!e.1))=true->
 K false (v6.mk (e.2.1.fnodes) (e.2.1.fdepth) (e.2.1.fe) (e.2.1.fform) (e.2.1.fnamed) sN) e.2.2 f)/\
 (((!p)||(!e.1))=false->
 n2 ((IntKind.wrap .i64 (cf+1)),(e.2.1.fnodes),(e.2.1.fdepth),(e.2.1.fe),(e.2.1.fform),(e.2.1.fnamed),e.2.2) f)))) (λy=>?_) (λy=>?_) ?_
  ·replace h:=h.1 y
   have c:=y
   simp only [p6 c]
   refine b6E o h (λab k u ae av an h=>?_)
   exact ⟨ab,k,by rfl,ae,an,av,h⟩
  ·exact ⟨sN,ap,by rw [c1s y],o,λ_ _ _=>rfl,Hle.refl _,h.2 y⟩
  ·clear h
   rintro au u ⟨ab,k,rfl,ae,an,av,h⟩
   refine ⟨(an _ (o.bring 3).lt1 (Inv.V1 (Fi:=[]) (o.bring 3))),?_⟩
   refine b9j (D:=λaw af=>∃(m:Bool)(d:v6)(j:(List BA))(f:Hp)(q:Sl)(r:Frag),aw=(gv (!p) false (vB m))/\(RowL 9 1 v7 q j r)/\(Inv w0 ps0 H0 f [bx g2 107 [(pt bo)],bx bo 106 (a3j d q),r,bx g3 194 [(Value.func (.func 108) #[] #[(pt g2),(pt g3)])]] af)/\(∀i,i < u.heap.size->¬inF [bx g2 107 [(pt bo)],bx bo 106 (a3j aa ac),ad,bx g3 194 [(Value.func (.func 108) #[] #[(pt g2),(pt g3)])]] i->af.heap[i]? = u.heap[i]?)/\Hle k f/\((((!p)||(!m))=true->
 K false (a2i d) j f)/\
 (((!p)||(!m))=false->
 n2 ((IntKind.wrap .i64 (cf+1)),d.fnodes,d.fdepth,d.fe,d.fform,d.fnamed,j) f))) (λt=>?_) (λt=>?_) ?_
   ·replace h:=h.1 t
    have c:=t
    simp only [p6 c]
    refine a7R (cap:=[(pt g2),(pt g3)]) call108 (h g2 bo g3 ac ad ar) ((((ae.bring 3).bring 2).bring 2).bring 3) ?_
    rintro _ f _ af ag ax ay ⟨m,d,j,q,r,rfl,rfl,ah,h⟩
    exact ⟨m,d,j,f,q,r,by rfl,ah,ag,ay,ax,h⟩
   ·exact ⟨false,(a2i aa),am,k,ac,ad,by rw [c1s t],ar,((((ae.bring 3).bring 2).bring 2).bring 3),λ_ _ _=>rfl,Hle.refl _,h.2 t⟩
   ·clear h
    rintro aw af ⟨m,d,j,f,q,r,rfl,ah,ag,ay,ax,h⟩
    refine g8 (Pu.g λc=>by simp only [p6 c];with_reducible exact (R5 _)) ?_
    refine g8 (M6 _ _) (t6 h (λ_ h=>?_) (λ_ h=>?_))
    ·exact hR _ f _ _ ((((ag.bring 3).bring 3).bring 3).bring 3) ⟨false,(a2i d),j,q,r,rfl,rfl,ah,h⟩
    ·exact c7 pAd (hn2 _ _ _ (hm2 _ _ h).2 ⟨((IntKind.wrap .i64 (cf+1)),d.fnodes,d.fdepth,d.fe,d.fform,d.fnamed,j),f,q,r,rfl,rfl,ah,((((ag.bring 2).bring 3).bring 3).bring 3),(hm2 _ _ h).1⟩)
 ·exact hx1 _ _ (hj1 _ _ _ _ _ _ _ _ H _ cm ((((I.bring 3).bring 3).bring 3).bring 3) h)
def b2d(x0)(H)(K:KT Int):=
 b0m x0 H (λa b=>
 K a.fe b)
theorem b9c(x0){H K}(h:b2d x0 H K):a3f x0 H K:=by
 refine Ct.of λw0 w ps0 H0 R E I hR=>e2i (D3 I rfl λe f a g=>?_)
 refine d7 (lW isAgg25 sizeOf25 rfl a) (f7 call42 h a ?_)
 rintro _ c _ i b _ _ ⟨d,j,rfl,rfl,h⟩
 refine c7 (t7 _) (c7 b0r (d7 (l1 isAgg32 b rfl) ?_))
 exact hR _ c _ _ b.drop.drop ⟨_,rfl,rfl,h⟩
def a8m(_:s6)(_:s6)(H)(K:KT Bool):=
 K true H
def a8n(d:s6)(c:s6)(Q5:Int)(H)(n2:KT Int)(K:KT Bool):=
 (Q5 < (c.E1.n:Int)->
 (0:Int)<=Q5/\(Q5:Int) < c.E1.n/\∃a:d8,EltH H c.E1 Q5 10 (p7 a)/\
 (0:Int)<=Q5/\(Q5:Int) < d.E1.n/\∃b:d8,EltH H d.E1 Q5 10 (p7 b)/\
 (¬(a.D6=b.D6/\a.fTo=b.fTo/\a.d9=b.d9/\a.a4F=b.a4F/\a.a1q=b.a1q/\a.fOp=b.fOp/\a.fA.K3=b.fA.K3/\a.fA.A6=b.fA.A6/\a.fB.K3=b.fB.K3/\a.fB.A6=b.fB.A6)->
 K false H)/\
 (a.D6=b.D6/\a.fTo=b.fTo/\a.d9=b.d9/\a.a4F=b.a4F/\a.a1q=b.a1q/\a.fOp=b.fOp/\a.fA.K3=b.fA.K3/\a.fA.A6=b.fA.A6/\a.fB.K3=b.fB.K3/\a.fB.A6=b.fB.A6->
 n2 (IntKind.wrap .i64 (Q5+1)) H))/\
 (¬(Q5 < (c.E1.n:Int))->
 a8m d c H K)
def b0k(x0:s6)(x1:s6)(H)(K:KT Bool):=
 a4K x0.E0 x1.E0 H (λa b=>
 TG (((!a)||(!decide (x0.D7=x1.D7)))=false) (a4L x0.C1 x1.C1 b) false b (λ(c:Bool)(d:Hp)=>
 (((((((!a)||(!decide (x0.D7=x1.D7)))||(!c))||(!decide (x0.i7=x1.i7)))||(!decide (x0.K8=x1.K8)))||(!decide ((x0.E1.n:Int)=(x1.E1.n:Int))))=true->
 K false d)/\
 (((((((!a)||(!decide (x0.D7=x1.D7)))||(!c))||(!decide (x0.i7=x1.i7)))||(!decide (x0.K8=x1.K8)))||(!decide ((x0.E1.n:Int)=(x1.E1.n:Int))))=false->
 TL (0:Int) d λ(s:Int) H n2=>a8n x1 x0 s H n2 K)))
theorem b6b(x0 x1){H K}(h:b0k x0 x1 H K):a5I x0 x1 H K:=by
 refine Ct.of λw0 w ps0 H0 R E I hR=>e1T (D3 I rfl λl ad r ae=>?_)
 refine D3 r rfl λm af f ag=>c7 a9H (d7 (l1 isAgg28 (f.bring 1) rfl) (c7 a9H (d7 (l1 isAgg28 f rfl) ?_)))
 refine f7 call29 h f ?_
 rintro _ _ _ ah c _ _ ⟨ai,rfl,rfl,h⟩
 refine c7 (R5 _) (c7 (Pu.g λa=>by with_reducible exact a4G) ?_)
 refine d7 (Ld.g λa=>by simp only [p6 a];exact (l1 isAgg3 (c.bring 1) rfl)) ?_
 refine c7 (Pu.g λa=>by with_reducible exact a4G) ?_
 refine d7 (Ld.g λa=>by simp only [p6 a];exact (l1 isAgg3 c rfl)) ?_
 refine c7 (Pu.g λa=>by simp only [p6 a];with_reducible exact pNe) ?_
 refine c7 (M6 _ _) (c7 (Pu.g λa=>by with_reducible exact b1e) ?_)
 refine d7 (Ld.g λa=>by simp only [p6 a];exact (l1 isAgg22 (c.bring 1) rfl)) ?_
 refine c7 (Pu.g λa=>by with_reducible exact b1e) ?_
 refine d7 (Ld.g λa=>by simp only [p6 a];exact (l1 isAgg22 c rfl)) ?_
 refine Q4 [] (λe:Bool=>(vB e)) h c (λa h=>by simp only [p6 a];exact R6 call30 h c) λe i s b o p h=>?_
 refine c7 (Pu.g λa=>by simp only [p6 a];with_reducible exact (R5 _)) ?_
 refine c7 (M6 _ _) (c7 (Pu.g λa=>by with_reducible exact O6) ?_)
 refine d7 (Ld.g λa=>by simp only [p6 a];exact (l1 isAgg3 (b.bring 1) rfl)) ?_
 refine c7 (Pu.g λa=>by with_reducible exact O6) ?_
 refine d7 (Ld.g λa=>by simp only [p6 a];exact (l1 isAgg3 b rfl)) ?_
 refine c7 (Pu.g λa=>by simp only [p6 a];with_reducible exact pNe) ?_
 refine c7 (M6 _ _) (c7 (Pu.g λa=>by with_reducible exact a5W) ?_)
 refine d7 (Ld.g λa=>by simp only [p6 a];exact (l1 isAgg3 (b.bring 1) rfl)) ?_
 refine c7 (Pu.g λa=>by with_reducible exact a5W) ?_
 refine d7 (Ld.g λa=>by simp only [p6 a];exact (l1 isAgg3 b rfl)) ?_
 refine c7 (Pu.g λa=>by simp only [p6 a];with_reducible exact pNe) ?_
 refine c7 (M6 _ _) (c7 (Pu.g λa=>by with_reducible exact X9) ?_)
 refine d7 (Ld.g λa=>by simp only [p6 a];exact (l1 isAgg29 (b.bring 1) rfl)) ?_
 refine c7 (Pu.g λa=>by simp only [p6 a];with_reducible exact (a5X _ _ _)) ?_
 refine c7 (Pu.g λa=>by with_reducible exact X9) ?_
 refine d7 (Ld.g λa=>by simp only [p6 a];exact (l1 isAgg29 b rfl)) ?_
 refine c7 (Pu.g λa=>by simp only [p6 a];with_reducible exact (a5X _ _ _)) ?_
 refine c7 (Pu.g λa=>by simp only [p6 a];with_reducible exact pNe) ?_
 refine c7 (M6 _ _) (t6 h (λ_ h=>?_) (λ_ h=>?_))
 ·exact hR _ i _ _ b.drop.drop ⟨_,rfl,rfl,h⟩
 ·have hj1:∀H w,Inv w0 ps0 H0 H [bx m 31 (r9 x1),bx l 31 (r9 x0)] w->a8m x1 x0 H K->d2y w R E:=by
   intro H w I h
   intro _
   exact hR _ H _ _ I.drop.drop ⟨_,rfl,rfl,h⟩
  refine u7 λj1 hx1=>a2f (σ:=Int) (λQ5=>[(vi Q5)]) (λQ5=>[bx m 31 (r9 x1),bx l 31 (r9 x0)]) h rfl ((b.bring 1).bring 1) ?_
  rintro Q5 H aj w next2 n2 q I h hn2
  have q:=lE1 q
  have e5:=q
  simp only [e5]
  refine c7 X9 (d7 (l1 isAgg29 (I.bring 1) rfl) (c7 (a5X _ _ _) (c7 pLs ?_)))
  refine j7 h (λ_ h=>?_) (λ_ h=>?_)
  ·refine L6 I λak d=>g8 X9 (g8 X9 ?_)
   refine s7 (l1 isAgg29 (d.bring 1) rfl) ?_
   obtain ⟨t,u,v,j,h⟩:=h
   obtain ⟨al,am,y,j⟩:=j
   refine g8 (a5k y _ _ _ _ t u) (s7 (ldA (vs:=(p7 v)) isAgg43 sizeOf43 rfl (d.atH j)) ?_)
   refine s7 (l1 isAgg29 d rfl) ?_
   obtain ⟨z,aa,ab,k,h⟩:=h
   obtain ⟨an,ao,ac,k⟩:=k
   refine g8 (a5k ac _ _ _ _ z aa) (s7 (ldA (vs:=(p7 ab)) isAgg43 sizeOf43 rfl (d.atH k)) ?_)
   refine g8 (d5m _ _ _ _ _ _ _ _ _ _ _ _ _ _ _ _ _ _ _ _ _ _) (a1L h (λ_ h=>?_) (λ_ h=>?_))
   ·exact hR _ H _ _ d.drop.drop ⟨_,rfl,rfl,h⟩
   ·exact c7 pAd (hn2 (IntKind.wrap .i64 (Q5+1)) _ _ h ((d.bring 1).bring 1))
  ·exact hx1 _ _ (hj1 H _ ((I.bring 1).bring 1) h)
def b5J(x0:Int)(H)(K:KT Int):=
 (((decide (x0 < 1))||(decide (6 < x0)))=true->
 K 0 H)/\
 (((decide (x0 < 1))||(decide (6 < x0)))=false->
 (0:Int)<=x0/\(x0:Int) < 7/\
 K (([0,6,5,4,3,2,1]:List Int).getD (x0:Int).toNat 0) H)
theorem b5K(x0){H K}(h:b5J x0 H K):a5m x0 H K:=by
 refine Ct.of λw0 w ps0 H0 R E I hR=>e2G (c7 pLs ?_)
 simp only [K6]
 refine c7 (Pu.g λa=>by simp only [p6 a];with_reducible exact pGt) ?_
 refine c7 (M6 _ _) (t6 h (λ_ h=>?_) (λ_ h=>?_))
 ·exact hR _ H _ _ I ⟨0,rfl,rfl,h⟩
 ·refine c7 (b5e _ _ _ _ _ _ _) ?_
  obtain ⟨b,c,h⟩:=h
  exact c7 (d0D _ _ _ _ _ _ _ _ _ b c) (hR _ H _ _ I ⟨_,rfl,rfl,h⟩)
def a6V(_:p8)(_:s6)(H)(K:KT Int):=
 K 0 H
def b0U(aa:Sl)(ab:Int)(d)(e)(ad:Int)(H)(n4:KT Int)(K:KT Int):=
 (ad < ab->
 (0:Int)<=ad/\(ad:Int) < aa.n/\∃a:Sl,EltH H aa ad 1 [(vs a)]/\
 b0n a H (λb c=>
 ((!b)=true->
 K 92 c)/\
 ((!b)=false->
 n4 (IntKind.wrap .i64 (ad+1)) c)))/\
 (¬(ad < ab)->
 a6V d e H K)
def a6W(aa:(List (List d8)))(e)(d:s6)(H)(K:KT Int):=
 ∀(a:Sl)(b:Hp),Hle H b->SlHH b 10 p7 a aa->a.n<=a.c->
 TL (0:Int) b λ(s:Int) H n4=>b0U a d.i7 e d s H n4 K
def a6X(aa:Sl)(ab:Int)(c:p8)(f:s6)(ad:(List (List d8)))(ae:Int)(H:Hp)(n5:KT ((List (List d8))×Int))(K:KT Int):=
 (ae < ab->
 (0:Int)<=ae/\(ae:Int) < aa.n/\∃a:d8,EltH H aa ae 10 (p7 a)/\
 a5o c a H (λd e=>
 ((!d)=true->
 K 92 e)/\
 ((!d)=false->
 (0:Int)<=a.D6/\∃b:List d8,(ad)[(a.D6:Int).toNat]? = some b/\
 (b.length+([a]:List d8).length)*81<=140737488355328/\
 n5 ((ad.set (a.D6:Int).toNat (b++[a])),(IntKind.wrap .i64 (ae+1))) e)))/\
 (¬(ae < ab)->
 a6W ad c f H K)
def a6Y(a:s6)(H)(K:KT Int):=
 a0S (p8.mk a) a.K8 H (λb c=>
 ((!b)=true->
 K 92 c)/\
 ((!b)=false->
 (0:Int)<=a.i7/\a.i7*25<=140737488355328/\
 TL (((List.replicate (a.i7:Int).toNat ([]:List d8)),0):(List (List d8))×Int) c λ(s:(List (List d8))×Int) H n5=>a6X a.E1 (a.E1.n:Int) (p8.mk a) a s.1 s.2 H n5 K))
def b0V(aa:Sl)(ab:Int)(b)(ad:Int)(H)(n6:KT Int)(K:KT Int):=
 (ad < ab->
 (0:Int)<=ad/\(ad:Int) < aa.n/\∃a:j9,EltH H aa ad 2 (q6 a)/\
 (((decide (a.D2 < 1))||(decide (1024 < a.D2)))=true->
 K 92 H)/\
 (((decide (a.D2 < 1))||(decide (1024 < a.D2)))=false->
 n6 (IntKind.wrap .i64 (ad+1)) H))/\
 (¬(ad < ab)->
 a6Y b H K)
def b3z(x0:s6)(H)(K:KT Int):=
 ((((decide (x0.D7 < 0))||(decide (64 < x0.D7)))||(decide (64 < (IntKind.wrap .i64 ((x0.E0.n:Int)+x0.D7)))))=true->
 K 90 H)/\
 ((((decide (x0.D7 < 0))||(decide (64 < x0.D7)))||(decide (64 < (IntKind.wrap .i64 ((x0.E0.n:Int)+x0.D7)))))=false->
 ((((decide (x0.i7 < 1))||(decide (4096 < x0.i7)))||(decide (8192 < (x0.E1.n:Int))))=true->
 K 91 H)/\
 ((((decide (x0.i7 < 1))||(decide (4096 < x0.i7)))||(decide (8192 < (x0.E1.n:Int))))=false->
 (16 < (x0.C1.n:Int)->
 K 92 H)/\
 (¬(16 < (x0.C1.n:Int))->
 TL (0:Int) H λ(s:Int) H n6=>b0V x0.C1 (x0.C1.n:Int) x0 s H n6 K)))
theorem b9C(x0){H K}(h:b3z x0 H K):a1Q x0 H K:=by
 refine Ct.of λw0 w ps0 H0 R E I hR=>e6c (D3 I rfl λi co f cp=>?_)
 refine c7 a4G (d7 (l1 isAgg3 f rfl) (c7 pLs ?_))
 refine c7 (Pu.g λd=>by with_reducible exact a4G) ?_
 refine d7 (Ld.g λd=>by simp only [p6 d];exact (l1 isAgg3 f rfl)) ?_
 refine c7 (Pu.g λd=>by simp only [p6 d];with_reducible exact pGt) ?_
 refine c7 (M6 _ _) (c7 (Pu.g λd=>by with_reducible exact a9H) ?_)
 refine d7 (Ld.g λd=>by simp only [p6 d];exact (l1 isAgg28 f rfl)) ?_
 refine c7 (Pu.g λd=>by simp only [p6 d];with_reducible exact (a3T _ _ _)) ?_
 refine c7 (Pu.g λd=>by with_reducible exact a4G) ?_
 refine d7 (Ld.g λd=>by simp only [p6 d];exact (l1 isAgg3 f rfl)) ?_
 refine c7 (Pu.g λd=>by simp only [p6 d];with_reducible exact pAd) ?_
 refine c7 (Pu.g λd=>by simp only [p6 d];with_reducible exact pGt) ?_
 refine c7 (M6 _ _) (t6 h (λ_ h=>?_) (λ_ h=>?_))
 ·exact hR _ H _ _ f.drop ⟨_,rfl,rfl,h⟩
 ·refine c7 O6 (d7 (l1 isAgg3 f rfl) (c7 pLs ?_))
  refine c7 (Pu.g λd=>by with_reducible exact O6) ?_
  refine d7 (Ld.g λd=>by simp only [p6 d];exact (l1 isAgg3 f rfl)) ?_
  refine c7 (Pu.g λd=>by simp only [p6 d];with_reducible exact pGt) ?_
  refine c7 (M6 _ _) (c7 (Pu.g λd=>by with_reducible exact X9) ?_)
  refine d7 (Ld.g λd=>by simp only [p6 d];exact (l1 isAgg29 f rfl)) ?_
  refine c7 (Pu.g λd=>by simp only [p6 d];with_reducible exact (a5X _ _ _)) ?_
  refine c7 (Pu.g λd=>by simp only [p6 d];with_reducible exact pGt) ?_
  refine c7 (M6 _ _) (t6 h (λ_ h=>?_) (λ_ h=>?_))
  ·exact hR _ H _ _ f.drop ⟨_,rfl,rfl,h⟩
  ·refine c7 b1e (d7 (l1 isAgg22 f rfl) (c7 (a3U _ _ _) (c7 pGt ?_)))
   refine j7 h (λ_ h=>?_) (λ_ h=>?_)
   ·exact hR _ H _ _ f.drop ⟨_,rfl,rfl,h⟩
   ·have hj1:∀H w,Inv w0 ps0 H0 H [bx i 31 (r9 x0)] w->a6Y x0 H K->d7q (pt i) w R E:=by
     intro H w I h
     intro _
     refine d7 (lW isAgg31 sizeOf31 rfl I) (c7 (c8g _ _ _ _ _ _ _ _ _ _ _ _) ?_)
     refine r8 I zeroValue69 rfl λt cq ay cr=>v8 ay sizeOf69 (vs:=(r9 x0)) λct aa cu=>d7 (lW isAgg69 sizeOf69 rfl aa) (c7 a5W (d7 (l1 isAgg3 (aa.bring 1) rfl) ?_))
     refine f7 call17 h aa ?_
     rintro _ al _ cv ab _ _ ⟨cw,rfl,rfl,h⟩
     refine c7 (R5 _) (t6 h (λ_ h=>?_) (λ_ h=>?_))
     ·exact hR _ al _ _ ab.drop.drop ⟨_,rfl,rfl,h⟩
     ·refine c7 O6 (d7 (l1 isAgg3 (ab.bring 1) rfl) ?_)
      obtain ⟨az,ba,h⟩:=h
      refine e1G ab az ba λu bb cx bc am cy=>?_
      have hj2:∀cs Fs6j2 H w,RowsL 29 43 10 p7 u cs Fs6j2->Inv w0 ps0 H0 H [bx t 69 [(vs (p8.mk x0).C2.E0),(vi (p8.mk x0).C2.D7),(vs (p8.mk x0).C2.C1),(vi (p8.mk x0).C2.i7),(vi (p8.mk x0).C2.K8),(vs (p8.mk x0).C2.E1)],bx i 31 (r9 x0),Fs6j2] w->a6W cs (p8.mk x0) x0 H K->d7p (pt i) (vs u) w R E:=by
       intro cs Fs6j2 H w ep I h
       intro _
       have hj3:∀H w,Inv w0 ps0 H0 H [bx t 69 [(vs (p8.mk x0).C2.E0),(vi (p8.mk x0).C2.D7),(vs (p8.mk x0).C2.C1),(vi (p8.mk x0).C2.i7),(vi (p8.mk x0).C2.K8),(vs (p8.mk x0).C2.E1)],bx i 31 (r9 x0)] w->a6V (p8.mk x0) x0 H K->d7o w R E:=by
        intro H w I h
        intro _
        exact hR _ H _ _ I.drop.drop ⟨0,rfl,rfl,h⟩
       refine u7 λj3 hx3=>c7 O6 (d7 (l1 isAgg3 (I.bring 1) rfl) ?_)
       obtain ⟨bd,be,bf,bg,bh⟩:=Inv.freezeLL (I.bring 2) ep (by decide)
       replace h:=h u bd bf bg bh
       refine a2f (σ:=Int) (λet=>[(vi et)]) (λet=>[bx t 69 [(vs (p8.mk x0).C2.E0),(vi (p8.mk x0).C2.D7),(vs (p8.mk x0).C2.C1),(vi (p8.mk x0).C2.i7),(vi (p8.mk x0).C2.K8),(vs (p8.mk x0).C2.E1)],bx i 31 (r9 x0)]) h rfl ((be.bring 1).bring 1) ?_
       rintro et H cz w next4 n4 an I h hn4
       have an:=lE1 an
       have e100:=an
       simp only [e100]
       refine c7 pLs (j7 h (λ_ h=>?_) (λ_ h=>?_))
       ·obtain ⟨bi,bj,bk,ac,h⟩:=h
        obtain ⟨da,db,bl,ac⟩:=ac
        refine c7 (c1x bl _ _ _ _ bi bj) (d7 (ld1 (v:=(vs bk)) isAgg29 (I.atH ac)) ?_)
        refine f7 call19 h I ?_
        rintro _ bm _ dc ao _ _ ⟨dd,rfl,rfl,h⟩
        refine c7 (R5 _) (t6 h (λ_ h=>?_) (λ_ h=>?_))
        ·exact hR _ bm _ _ ao.drop.drop ⟨_,rfl,rfl,h⟩
        ·exact c7 pAd (hn4 (IntKind.wrap .i64 (et+1)) _ _ h ((ao.bring 1).bring 1))
       ·exact hx3 _ _ (hj3 H _ ((I.bring 1).bring 1) h)
      refine u7 λj2 hx2=>c7 X9 (d7 (l1 isAgg29 (am.bring 2) rfl) (c7 (a5X _ _ _) ?_))
      obtain ⟨ad,q,bn,bo⟩:=h
      refine G6 (J:=λn l w=>∃(s:(List (List d8))×Int)(H:Hp)(Fs6l5:Frag),n=q s/\l=(match s with | (eu,ew)=>[(vi ew)])/\(match s with | (eu,ew)=>RowsL 29 43 10 p7 u eu Fs6l5)/\(match s with | (eu,ew)=>Inv w0 ps0 H0 H [bx t 69 [(vs (p8.mk x0).C2.E0),(vi (p8.mk x0).C2.D7),(vs (p8.mk x0).C2.C1),(vi (p8.mk x0).C2.i7),(vi (p8.mk x0).C2.K8),(vs (p8.mk x0).C2.E1)],bx i 31 (r9 x0),Fs6l5] w)/\ad s H) ⟨_,((List.replicate (x0.i7:Int).toNat ([]:List d8)),0),al,bb,rfl,rfl,(RowsL.made (e:=43) a7U a7V bc),((am.bring 2).bring 2),bn⟩ ?_
      rintro de df w next5 ⟨⟨eu,ew⟩,H,Fs6l5,rfl,ae,ey,I,bp⟩ hn5
      have ae:=lE1 ae
      have e77:=ae
      simp only [e77]
      obtain ⟨n5,hm5,h⟩:=tlA (B:=λn5=>a6X x0.E1 (x0.E1.n:Int) (p8.mk x0) x0 eu ew H n5 K) (bo (eu,ew) H) bp
      refine c7 pLs (j7 h (λ_ h=>?_) (λ_ h=>?_))
      ·obtain ⟨bq,br,r,af,h⟩:=h
       obtain ⟨dg,dh,bs,af⟩:=af
       refine c7 (a5k bs _ _ _ _ bq br) (d7 (ldA (vs:=(p7 r)) isAgg43 sizeOf43 rfl (I.atH af)) ?_)
       refine r8 I zeroValue43 rfl λdi dj bt dk=>v8 bt sizeOf43 (vs:=(p7 r)) λdl ag dm=>d7 (ldA isAgg69 sizeOf69 rfl ((ag.bring 1).at1 (o:=0) (vs:=[(vs (p8.mk x0).C2.E0),(vi (p8.mk x0).C2.D7),(vs (p8.mk x0).C2.C1),(vi (p8.mk x0).C2.i7),(vi (p8.mk x0).C2.K8),(vs (p8.mk x0).C2.E1)]) (nb rfl) rfl)) (d7 (lW isAgg43 sizeOf43 rfl ag) ?_)
       refine f7 call18 h ag ?_
       rintro _ ap _ dn aq _ _ ⟨dp,rfl,rfl,h⟩
       refine c7 (R5 _) (t6 h (λ_ h=>?_) (λ_ h=>?_))
       ·exact hR _ ap _ _ aq.drop.drop.drop.drop ⟨_,rfl,rfl,h⟩
       ·refine L6 aq λdq ah=>g8 a3E (g8 a3E ?_)
        refine s7 (l1 isAgg3 ah rfl) (s7 (l1 isAgg3 ah rfl) ?_)
        obtain ⟨y,ar,bu,h⟩:=h
        obtain ⟨dr,au,ds,dt,bv,j,k,bw,bz,du,m⟩:=RowsL.open_ ey (ah.bring 3) bu
        obtain ⟨dv,dw,ai,dx⟩:=j.addr k
        refine g8 (c1x ai _ _ _ _ y (j.lt y k)) (s7 (ld1 (v:=(vs au)) isAgg29 (j.atW m ai k)) ?_)
        refine s7 (lW isAgg43 sizeOf43 rfl (m.bring 3)) (O0 (e:=43) (c:=p7) (xs:=[r]) m (c8P _ _ _ _ _ _ _ _ _ _) rfl rfl a7U a7V (nb rfl) λdy dz ea ca z aj=>?_)
        refine ⟨(aj _ (RowL.d2d j m ai)),(aj _ (m.bring 3).lt1),(aj _ (m.bring 3).lt1),?_⟩
        obtain ⟨cb,h⟩:=h
        refine d2m (s:=au) (xs:=ar) (z.bring 2) bw (ca.srcO ((z.bring 2).bring 1)) cb λcc cd eb ce cf cg=>⟨(cg _ ((z.bring 2).bring 4).lt1 (Inv.c5U (((z.bring 2).bring 4).bring 1))),?_⟩
        obtain ⟨ec,ed,av,ee⟩:=j.addr k
        refine g8 (c1x av _ _ _ _ y (j.lt y k)) (a9D (x:=cc) ((cf.bring 1).drop.bring 1) j av (List.getElem?_eq_some_iff.1 k).1 sizeOf29 rfl λch ef ci cj eg=>?_)
        exact c7 pAd (hn5 _ _ _ (hm5 _ _ h).2 ⟨((eu.set (r.D6:Int).toNat (ar++[r])),(IntKind.wrap .i64 (ew+1))),ap,(ch++(cd++bv)),rfl,rfl,(RowsL.d2c ci ce bz),((((((cj.bring 2).bring 2).bring 2).d6Z.bring 1).drop.bring 2).bring 2),(hm5 _ _ h).1⟩)
      ·exact hx2 _ _ (hj2 _ _ H _ ey (((I.bring 2).bring 2).bring 2) h)
    refine u7 λj1 hx1=>c7 b1e (d7 (l1 isAgg22 f rfl) (c7 (a3U _ _ _) ?_))
    refine a2f (σ:=Int) (λez=>[(vi ez)]) (λez=>[bx i 31 (r9 x0)]) h rfl f ?_
    rintro ez H eh w next6 n6 aw I h hn6
    have aw:=lE1 aw
    have e51:=aw
    simp only [e51]
    refine c7 pLs (j7 h (λ_ h=>?_) (λ_ h=>?_))
    ·obtain ⟨ck,cl,ax,ak,h⟩:=h
     obtain ⟨ei,ej,cm,ak⟩:=ak
     refine c7 (a5l cm _ _ _ _ ck cl) (d7 (ldA (vs:=(q6 ax)) isAgg65 sizeOf65 rfl (I.atH ak)) ?_)
     refine r8 I zeroValue65 rfl λek el cn em=>v8 cn sizeOf65 (vs:=(q6 ax)) λen p eo=>c7 a4H (d7 (l1 isAgg3 p rfl) (c7 pLs ?_))
     refine c7 (Pu.g λd=>by with_reducible exact a4H) ?_
     refine d7 (Ld.g λd=>by simp only [p6 d];exact (l1 isAgg3 p rfl)) ?_
     refine c7 (Pu.g λd=>by simp only [p6 d];with_reducible exact pGt) ?_
     refine c7 (M6 _ _) (t6 h (λ_ h=>?_) (λ_ h=>?_))
     ·exact hR _ H _ _ p.drop.drop ⟨_,rfl,rfl,h⟩
     ·exact c7 pAd (hn6 (IntKind.wrap .i64 (ez+1)) _ _ h p.drop)
    ·exact hx1 _ _ (hj1 H _ I h)
def a1o(_:Int)(_:Sl)(_:Int)(ae:Int)(ag:(List Bool))(_:Sl)(_:s6)(aj:(List Int))(H)(n2:KT (Int×(List Bool)×(List Int)))(_:Sl->(List Bool)->Sl->(List Int)->Hp->Prop):=
 n2 ((IntKind.wrap .i64 (ae+1)),ag,aj) H
def a5P(aa:Int)(ab:(List Bool))(_:Sl)(_:s6)(ag:(List Int))(H)(K:Sl->(List Bool)->Sl->(List Int)->Hp->Prop):=
 (ag.length+([aa]:List Int).length)*9<=140737488355328/\
 K sN ab sN (ag++[aa]) H
def a5Q(aa:Int)(ab:Sl)(ad:Int)(ae)(ag:s6)(ah:Int)(ai:(List Bool))(aj:(List Int))(H)(n2:KT (Int×(List Bool)×(List Int)))(K:Sl->(List Bool)->Sl->(List Int)->Hp->Prop):=
 (ah < ad->
 (0:Int)<=ah/\(ah:Int) < ab.n/\∃a:Int,EltH H ab ah 1 [(vi a)]/\
 (0:Int)<=a/\(a:Int) < ag.E1.n/\∃b:d8,EltH H ag.E1 a 10 (p7 b)/\
 (0:Int)<=b.fTo/\∃c:Bool,(ai)[(b.fTo:Int).toNat]? = some c/\
 ((!c)=true->
 a4N b.fTo sN ai ae ag sN aj H (λ_ y0__106 _ y1__106 d=>
 a1o aa ab ad ah y0__106 ae ag y1__106 d n2 K))/\
 ((!c)=false->
 a1o aa ab ad ah ai ae ag aj H n2 K))/\
 (¬(ah < ad)->
 a5P aa ai ae ag aj H K)
def b1E(x0:Int)(_:Sl)(x1_:(List Bool))(x2:Sl)(x3)(_:Sl)(x5_:(List Int))(H)(K:Sl->(List Bool)->Sl->(List Int)->Hp->Prop):=
 (0:Int)<=x0/\∃b:Bool,(x1_)[(x0:Int).toNat]? = some b/\
 (0:Int)<=x0/\(x0:Int) < x2.n/\∃a:Sl,EltH H x2 x0 1 [(vs a)]/\
 TL ((0,(x1_.set (x0:Int).toNat true),x5_):Int×(List Bool)×(List Int)) H λ(s:Int×(List Bool)×(List Int)) H n2=>a5Q x0 a (a.n:Int) x2 x3 s.1 s.2.1 s.2.2 H n2 K
theorem b8r(x0 x1 x1_ x2 x3 x5 x5_){H K}(h:b1E x0 x1 x1_ x2 x3 x5 x5_ H K):a4N x0 x1 x1_ x2 x3 x5 x5_ H K:=by
 intro g1 g2 g3 g4 g5 sx1_ Fx1_ sx5_ Fx5_ hx1_ hx5_
 refine Ct.of λw0 w ps0 H0 R E I hR=>e2x (d7 (l1 isAgg38 I rfl) ?_)
 obtain ⟨t,bd,g,h⟩:=h
 obtain ⟨be,bf,u,bg⟩:=hx1_.addr g
 refine c7 (a8Y u _ _ _ _ t (hx1_.lt t g)) (a9D (x:=true) (I.bring 1) hx1_ u (List.getElem?_eq_some_iff.1 g).1 sizeOf4 rfl λac bh ad i bi=>?_)
 have hj1:∀ch ci cj Fcp1j1 ck Fcp5j1 H w,RowL 4 1 a5S cj ch Fcp1j1->RowL 3 1 K4 ck ci Fcp5j1->Inv w0 ps0 H0 H [bx g1 38 [(vs cj)],bx g2 74 [(vs x2)],bx g3 31 (r9 x3),bx g4 96 [(Value.func (.func 33) #[] #[(pt g1),(pt g2),(pt g3),(pt g4),(pt g5)])],bx g5 26 [(vs ck)],Fcp1j1,Fcp5j1] w->a5P x0 ch x2 x3 ci H K->d2J (vi x0) (pt g5) w R E:=by
  intro ch ci cj Fcp1j1 ck Fcp5j1 H w cl cm I h
  intro _
  refine d7 (l1 isAgg26 (I.bring 4) rfl) (O0 (e:=3) (c:=K4) (xs:=[x0]) I (b2g _) rfl rfl a3k a3l (nb rfl) λbj bk bl ae y bm=>?_)
  obtain ⟨af,h⟩:=h
  exact b6Q (s:=ck) (xs:=ci) (y.bring 7) cm (ae.srcO ((y.bring 7).bring 1)) af λz ag bn ah ai bo=>v8 ((ai.bring 1).drop.bring 5) sizeOf26 (vs:=[(vs z)]) λbp aj bq=>hR _ H _ _ (((((((aj.bring 1).bring 1).bring 5).bring 5).bring 5).bring 6).bring 6) ⟨sN,ch,sN,(ci++[x0]),cj,Fcp1j1,z,ag,rfl,rfl,cl,ah,h⟩
 refine u7 λj1 hx1=>d7 (l1 isAgg74 (i.bring 2) rfl) ?_
 obtain ⟨ak,al,d,j,h⟩:=h
 obtain ⟨br,bs,am,j⟩:=j
 refine c7 (b7K am _ _ _ _ ak al) (d7 (ld1 (v:=(vs d)) isAgg26 (i.atH j)) (c7 (a8X _ _ _) ?_))
 obtain ⟨m,f,an,ao⟩:=h
 refine G6 (J:=λn l w=>∃(s:Int×(List Bool)×(List Int))(H:Hp)(cn:Sl)(Fcp1l2:Frag)(cp:Sl)(Fcp5l2:Frag),n=f s/\l=(match s with | (cq,cr,cs)=>[(vi cq)])/\(match s with | (cq,cr,cs)=>RowL 4 1 a5S cn cr Fcp1l2)/\(match s with | (cq,cr,cs)=>RowL 3 1 K4 cp cs Fcp5l2)/\(match s with | (cq,cr,cs)=>Inv w0 ps0 H0 H [bx g1 38 [(vs cn)],bx g2 74 [(vs x2)],bx g3 31 (r9 x3),bx g4 96 [(Value.func (.func 33) #[] #[(pt g1),(pt g2),(pt g3),(pt g4),(pt g5)])],bx g5 26 [(vs cp)],Fcp1l2,Fcp5l2] w)/\m s H) ⟨_,(0,(x1_.set (x0:Int).toNat true),x5_),H,sx1_,ac,sx5_,Fx5_,rfl,rfl,ad,hx5_,(((((((i.bring 6).bring 1).bring 6).bring 6).bring 6).bring 6).bring 6),an⟩ ?_
 rintro bt bu w next2 ⟨⟨cq,cr,cs⟩,H,cn,Fcp1l2,cp,Fcp5l2,rfl,o,ct,cu,I,ap⟩ hn2
 have o:=lE1 o
 have e18:=o
 simp only [e18]
 obtain ⟨n2,hm2,h⟩:=tlA (B:=λn2=>a5Q x0 d (d.n:Int) x2 x3 cq cr cs H n2 K) (ao (cq,cr,cs) H) ap
 refine c7 pLs (j7 h (λ_ h=>?_) (λ_ h=>?_))
 ·have hj3:∀cv cw cx Fcp1j3 cy Fcp5j3 H w,RowL 4 1 a5S cx cv Fcp1j3->RowL 3 1 K4 cy cw Fcp5j3->Inv w0 ps0 H0 H [bx g1 38 [(vs cx)],bx g2 74 [(vs x2)],bx g3 31 (r9 x3),bx g4 96 [(Value.func (.func 33) #[] #[(pt g1),(pt g2),(pt g3),(pt g4),(pt g5)])],bx g5 26 [(vs cy)],Fcp1j3,Fcp5j3] w->a1o x0 d (d.n:Int) cq cv x2 x3 cw H n2 K->d2K (vi x0) (pt g1) (pt g3) (pt g4) (pt g5) (vs d) (vi (d.n:Int)) (vi cq) w next2 R E:=by
   intro cv cw cx Fcp1j3 cy Fcp5j3 H w da db I h
   intro _
   exact c7 pAd (hn2 _ _ _ (hm2 _ _ h).2 ⟨((IntKind.wrap .i64 (cq+1)),cv,cw),H,cx,Fcp1j3,cy,Fcp5j3,rfl,rfl,da,db,(((((((I.bring 6).bring 6).bring 6).bring 6).bring 6).bring 6).bring 6),(hm2 _ _ h).1⟩)
  refine u7 λj3 hx3=>?_
  obtain ⟨aq,ar,au,p,h⟩:=h
  obtain ⟨bv,bw,av,p⟩:=p
  refine c7 (a0R av _ _ _ _ aq ar) (d7 (ld1 (v:=(vi au)) isAgg3 (I.atH p)) (c7 X9 (d7 (l1 isAgg29 (I.bring 2) rfl) ?_)))
  obtain ⟨aw,ax,ay,q,h⟩:=h
  obtain ⟨bz,ca,az,q⟩:=q
  refine c7 (a5k az _ _ _ _ aw ax) (c7 a7t (d7 (ld1 (v:=(vi ay.fTo)) isAgg3 ((I.atH q).sub (k:=1) (n:=1) (nb rfl))) (d7 (l1 isAgg38 I rfl) ?_)))
  obtain ⟨aa,ba,r,h⟩:=h
  obtain ⟨cb,cc,ab,cd⟩:=ct.addr r
  refine c7 (a8Y ab _ _ _ _ aa (ct.lt aa r)) (d7 (ld1 (v:=(vB ba)) isAgg4 (ct.atW (I.bring 5) ab r)) (c7 (R5 _) ?_))
  refine t6 h (λ_ h=>?_) (λ_ h=>?_)
  ·refine d7 (l1 isAgg96 (I.bring 3) rfl) (a7R (cap:=[(pt g1),(pt g2),(pt g3),(pt g4),(pt g5)]) call33 (h g1 g2 g3 g4 g5 cn Fcp1l2 cp Fcp5l2 ct cu) (((((((I.bring 6).bring 5).bring 5).bring 5).bring 5).bring 6).bring 6) ?_)
   rintro _ bb _ ce bc _ _ ⟨cf,y0__106,cg,y1__106,sy0__106,Fy0__106,sy1__106,Fy1__106,rfl,rfl,hy0__106,hy1__106,h⟩
   exact hx3 _ _ (hj3 _ _ _ _ _ _ bb _ hy0__106 hy1__106 (((((((bc.bring 6).bring 2).bring 6).bring 6).bring 6).bring 6).bring 6) h)
  ·exact hx3 _ _ (hj3 _ _ _ _ _ _ H _ ct cu (((((((I.bring 6).bring 6).bring 6).bring 6).bring 6).bring 6).bring 6) h)
 ·exact hx1 _ _ (hj1 _ _ _ _ _ _ H _ ct cu (((((((I.bring 6).bring 6).bring 6).bring 6).bring 6).bring 6).bring 6) h)
def U4(_:Sl)(_:(List Bool))(ad:Int)(ae:Int)(ag:Bool)(ah:Int)(a:s6)(_:o8)(H)(n3:KT (Int×Int×Bool×Int))(K:KT Bool):=
 (((decide (a.i7 < ae))&&(!ag))=true->
 K false H)/\
 (((decide (a.i7 < ae))&&(!ag))=false->
 n3 (ad,ae,ag,(IntKind.wrap .i64 (ah+1))) H)
def U5(aa)(ab:(List Bool))(ad:Int)(ae:Bool)(ag:Int)(ah:Sl)(ai:Int)(b:s6)(e)(H)(n3:KT (Int×Int×Bool×Int))(K:KT Bool):=
 (0:Int)<=ai/\(ai:Int) < ah.n/\∃c:Int,EltH H ah ai 1 [(vi c)]/\
 (0:Int)<=c/\(c:Int) < b.E1.n/\∃a:d8,EltH H b.E1 c 10 (p7 a)/\
 (0:Int)<=a.fTo/\∃d:Bool,(ab)[(a.fTo:Int).toNat]? = some d/\
 (d=true->
 U4 aa ab a.fTo (IntKind.wrap .i64 (ad+1)) true ag b e H n3 K)/\
 (d=false->
 U4 aa ab a.fTo (IntKind.wrap .i64 (ad+1)) ae ag b e H n3 K)
def N3(f)(g)(H)(K:KT Bool):=
 a7y g H (λi a j=>
 a7z i j (λk _ b c=>
 (((!decide (a=0))||(!decide (b=0)))=true->
 K true c)/\
 (((!decide (a=0))||(!decide (b=0)))=false->
 a5Y k c (λl d e=>
 TG ((decide (d=0))=true) (a5I f l e) false e (λ(m:Bool)(n:Hp)=>
 K ((decide (d=0))&&m) n)))))
def a5x(aa:Sl)(ab:(List Bool))(b)(d)(ad:Int)(ae:Int)(ag:Bool)(ah:Int)(H)(n3:KT (Int×Int×Bool×Int))(K:KT Bool):=
 (((decide (ah < (aa.n:Int)))&&(decide (ah < 2000)))=true->
 b0G b ad H (λa _ e=>
 ((a.n:Int)=0->
 N3 b d e K)/\
 (¬((a.n:Int)=0)->
 (0:Int)<=ah/\(ah:Int) < aa.n/\∃c:Int,EltH e aa ah 1 [(vi c)]/\
 ((a.n:Int):Int)≠0/\
 ((Int.tmod c (a.n:Int)) < 0->
 U5 aa ab ae ag ah a (IntKind.wrap .i64 ((Int.tmod c (a.n:Int))+(a.n:Int))) b d e n3 K)/\
 (¬((Int.tmod c (a.n:Int)) < 0)->
 U5 aa ab ae ag ah a (Int.tmod c (a.n:Int)) b d e n3 K))))/\
 (((decide (ah < (aa.n:Int)))&&(decide (ah < 2000)))=false->
 N3 b d H K)
def a0f(aa)(ab:(List Bool))(a)(b)(H)(K:KT Bool):=
 TL ((0,0,false,0):Int×Int×Bool×Int) H λ(s:Int×Int×Bool×Int) H n3=>a5x aa ab a b s.1 s.2.1 s.2.2.1 s.2.2.2 H n3 K
def a0g(aa)(ab:Sl)(b:s6)(c)(ad:(List Bool))(ae:Int)(H)(n6:KT ((List Bool)×Int))(K:KT Bool):=
 (ae < (ab.n:Int)->
 (0:Int)<=ae/\(ae:Int) < ab.n/\∃a:Int,EltH H ab ae 1 [(vi a)]/\
 (((decide (a < 0))||(decide (b.i7<=a)))=true->
 K false H)/\
 (((decide (a < 0))||(decide (b.i7<=a)))=false->
 (0:Int)<=a/\∃d:Bool,(ad)[(a:Int).toNat]? = some d/\
 n6 ((ad.set (a:Int).toNat true),(IntKind.wrap .i64 (ae+1))) H))/\
 (¬(ae < (ab.n:Int))->
 a0f aa ad b c H K)
def a6m(x0)(x1)(H)(K:KT Bool):=
 a4M H (λb c=>
 ((!b)=true->
 K false c)/\
 ((!b)=false->
 a5Y x0 c (λa d e=>
 (((!decide (d=0))||(decide (400 < a.i7)))=true->
 K true e)/\
 (((!decide (d=0))||(decide (400 < a.i7)))=false->
 a9b a e (λj f k=>
 a1Q a k (λg i=>
 (((!decide (g=0))||(!decide (f=0)))=true->
 K false i)/\
 (((!decide (g=0))||(!decide (f=0)))=false->
 (0:Int)<=a.i7/\a.i7*2<=140737488355328/\
 TL (((List.replicate (a.i7:Int).toNat false),0):(List Bool)×Int) i λ(s:(List Bool)×Int) H n6=>a0g x1 j a x0 s.1 s.2 H n6 K)))))))
theorem b1S(x0 x1){H K}(h:a6m x0 x1 H K):a2F x0 x1 H K:=by
 refine Ct.of λw0 w ps0 H0 R E I hR=>e5S (D3 I rfl λi dg bg dh=>?_)
 refine f7 call4 h bg ?_
 rintro _ bh _ di af _ _ ⟨dj,rfl,rfl,h⟩
 refine c7 (R5 _) (t6 h (λ_ h=>?_) (λ_ h=>?_))
 ·exact hR _ bh _ _ af.drop ⟨_,rfl,rfl,h⟩
 ·refine d7 (lW isAgg25 sizeOf25 rfl af) (f7 call5 h af ?_)
  rintro _ bi _ dk bj _ _ ⟨d,bk,rfl,rfl,h⟩
  refine c7 (m7 _ _ _ rfl) (c7 (m7 _ _ (vi bk) rfl) ?_)
  refine r8 bj zeroValue31 rfl λf dl bl dm=>v8 bl sizeOf31 (vs:=(r9 d)) λdn u dp=>c7 pNe (c7 (Pu.g λc=>by with_reducible exact O6) ?_)
  refine d7 (Ld.g λc=>by simp only [p6 c];exact (l1 isAgg3 u rfl)) ?_
  refine c7 (Pu.g λc=>by simp only [p6 c];with_reducible exact pGt) ?_
  refine c7 (M6 _ _) (t6 h (λ_ h=>?_) (λ_ h=>?_))
  ·exact hR _ bi _ _ u.drop.drop ⟨_,rfl,rfl,h⟩
  ·refine d7 (lW isAgg31 sizeOf31 rfl u) (f7 call6 h u ?_)
   rintro _ _ _ dq aw _ _ ⟨bm,bn,rfl,rfl,h⟩
   refine c7 (m7 _ _ _ rfl) (c7 (m7 _ _ (vi bn) rfl) (d7 (lW isAgg31 sizeOf31 rfl aw) ?_))
   refine f7 call7 h aw ?_
   rintro _ ax _ dr ag _ _ ⟨ds,rfl,rfl,h⟩
   refine c7 pNe ?_
   simp only [K6]
   refine c7 (Pu.g λc=>by simp only [p6 c];with_reducible exact pNe) ?_
   refine c7 (M6 _ _) (t6 h (λ_ h=>?_) (λ_ h=>?_))
   ·exact hR _ ax _ _ ag.drop.drop ⟨_,rfl,rfl,h⟩
   ·refine c7 O6 (d7 (l1 isAgg3 ag rfl) ?_)
    obtain ⟨bo,bp,h⟩:=h
    refine c6b ag bo bp λz bq dt br bs du=>?_
    have hj1:∀az Fs9j1 H w,RowL 4 1 a5S z az Fs9j1->Inv w0 ps0 H0 H [bx f 31 (r9 d),bx i 25 (q7 x0),Fs9j1] w->a0f x1 az d x0 H K->d7h (vs x1) (pt i) (pt f) (vs z) w R E:=by
     intro az Fs9j1 H w cs I h
     intro _
     have hj2:∀H w,Inv w0 ps0 H0 H [bx f 31 (r9 d),bx i 25 (q7 x0)] w->N3 d x0 H K->d7e (pt i) (pt f) w R E:=by
      intro H w I h
      intro _
      refine d7 (lW isAgg25 sizeOf25 rfl (I.bring 1)) (f7 call9 h I ?_)
      rintro _ _ _ dv bt _ _ ⟨bu,bv,rfl,rfl,h⟩
      refine c7 (m7 _ _ (wS bu) rfl) (c7 (m7 _ _ (vi bv) rfl) ?_)
      refine f7 call10 h bt ?_
      rintro _ bw _ dw bz _ _ ⟨ca,cb,cc,rfl,rfl,h⟩
      refine c7 (m7 _ _ _ rfl) (c7 (m7 _ _ _ rfl) (c7 (m7 _ _ (vi cc) rfl) ?_))
      refine r8 bz zeroValue25 rfl λdx dy cd dz=>r8 cd zeroValue47 rfl λea eb ce ec=>v8 (ce.bring 1) sizeOf25 (vs:=(q7 ca)) λed cf ee=>v8 (cf.bring 1) sizeOf47 (vs:=(p9 cb)) λef ah eg=>c7 pNe ?_
      simp only [K6]
      refine c7 (Pu.g λc=>by simp only [p6 c];with_reducible exact pNe) ?_
      refine c7 (M6 _ _) (t6 h (λ_ h=>?_) (λ_ h=>?_))
      ·exact hR _ bw _ _ ah.drop.drop.drop.drop ⟨_,rfl,rfl,h⟩
      ·refine d7 (lW isAgg25 sizeOf25 rfl (ah.bring 1)) (f7 call5 h ah ?_)
       rintro _ _ _ eh cg _ _ ⟨ch,ay,rfl,rfl,h⟩
       refine c7 (m7 _ _ _ rfl) (c7 (m7 _ _ (vi ay) rfl) ?_)
       refine r8 cg zeroValue31 rfl λei ej ci ek=>v8 ci sizeOf31 (vs:=(r9 ch)) λel o em=>c7 pEq (d7 (Ld.g λc=>by exact (lW isAgg31 sizeOf31 rfl (o.bring 3))) ?_)
       refine d7 (Ld.g λc=>by exact (lW isAgg31 sizeOf31 rfl o)) ?_
       refine Q4 [] (λaa:Bool=>(vB aa)) h o (λc h=>by simp only [p6 c];exact R6 call11 h o) λaa ai cj aj ba bb h=>?_
       exact c7 (M3 _ _) (hR _ ai _ _ aj.drop.drop.drop.drop.drop ⟨_,rfl,rfl,h⟩)
     refine u7 λj2 hx2=>a2f (σ:=Int×Int×Bool×Int) (λ(fi,fj,fk,fm)=>[(vi fi),(vi fj),(vB fk),(vi fm)]) (λ(fi,fj,fk,fm)=>[bx f 31 (r9 d),bx i 25 (q7 x0),Fs9j1]) h rfl (((I.bring 2).bring 2).bring 2) ?_
     rintro ⟨fi,fj,fk,fm⟩ H en w next3 n3 ak I h hn3
     obtain ⟨e11,e12,e13,e14⟩:=lE4 ak
     simp only [e11,e12,e13,e14]
     refine c7 (a8X _ _ _) (c7 pLs ?_)
     simp only [K6]
     refine c7 (Pu.g λc=>by simp only [p6 c];with_reducible exact pLs) ?_
     refine c7 (M3 _ _) (t6 h (λ_ h=>?_) (λ_ h=>?_))
     ·refine d7 (lW isAgg31 sizeOf31 rfl I) (f7 call8 h I ?_)
      rintro _ al _ eo ad _ _ ⟨ab,ck,rfl,rfl,h⟩
      refine c7 (m7 _ _ _ rfl) (c7 (m7 _ _ (vi ck) rfl) (c7 (a8X _ _ _) (c7 pEq ?_)))
      refine j7 h (λ_ h=>?_) (λ_ h=>?_)
      ·exact hx2 _ _ (hj2 al _ (((ad.bring 2).drop.bring 1).bring 1) h)
      ·obtain ⟨cl,cm,am,an,h⟩:=h
       obtain ⟨ep,eq,cn,an⟩:=an
       refine c7 (a0R cn _ _ _ _ cl cm) (d7 (ld1 (v:=(vi am)) isAgg3 (ad.atH an)) (c7 (a8X _ _ _) ?_))
       obtain ⟨co,h⟩:=h
       refine c7 (e1y _ _ _ _ _ _ co) ?_
       have hj4:∀fo H w,Inv w0 ps0 H0 H [bx f 31 (r9 d),bx i 25 (q7 x0),Fs9j1] w->U5 x1 az fj fk fm ab fo d x0 H n3 K->d7g (vs x1) (pt i) (pt f) (vs z) (vi fj) (vB fk) (vi fm) (vs ab) (vi fo) w next3 R E:=by
        intro fo H w I h
        intro _
        refine L6 I λer y=>g8 X9 ?_
        obtain ⟨cp,cq,cr,ao,h⟩:=h
        obtain ⟨es,et,ct,ao⟩:=ao
        refine g8 (a0R ct _ _ _ _ cp cq) (s7 (l1 isAgg29 y rfl) ?_)
        refine s7 (ld1 (v:=(vi cr)) isAgg3 (y.atH ao)) ?_
        obtain ⟨cu,cv,ae,ap,h⟩:=h
        obtain ⟨eu,ev,cw,ap⟩:=ap
        refine g8 (a5k cw _ _ _ _ cu cv) (g8 a7t ?_)
        refine s7 (ld1 (v:=(vi ae.fTo)) isAgg3 ((y.atH ap).sub (k:=1) (n:=1) (nb rfl))) (c7 pAd ?_)
        have hj5:∀fp H w,Inv w0 ps0 H0 H [bx f 31 (r9 d),bx i 25 (q7 x0),Fs9j1] w->U4 x1 az ae.fTo (IntKind.wrap .i64 (fj+1)) fp fm d x0 H n3 K->d7f (vs x1) (pt i) (pt f) (vs z) (vi ae.fTo) (vi (IntKind.wrap .i64 (fj+1))) (vB fp) (vi fm) w next3 R E:=by
         intro fp H w I h
         intro _
         refine c7 O6 (d7 (l1 isAgg3 I rfl) (c7 pGt ?_))
         simp only [K6]
         refine c7 (Pu.g λc=>by simp only [p6 c];with_reducible exact (R5 _)) ?_
         refine c7 (M3 _ _) (t6 h (λ_ h=>?_) (λ_ h=>?_))
         ·exact hR _ H _ _ I.drop.drop.drop ⟨_,rfl,rfl,h⟩
         ·exact c7 pAd (hn3 (ae.fTo,(IntKind.wrap .i64 (fj+1)),fp,(IntKind.wrap .i64 (fm+1))) _ _ h (((I.bring 2).bring 2).bring 2))
        refine u7 λj5 hx5=>?_
        obtain ⟨bc,cx,aq,h⟩:=h
        obtain ⟨ew,ex,bd,ey⟩:=cs.addr aq
        refine c7 (a8Y bd _ _ _ _ bc (cs.lt bc aq)) (d7 (ld1 (v:=(vB cx)) isAgg4 (cs.atW (y.bring 2) bd aq)) ?_)
        refine t6 h (λ_ h=>?_) (λ_ h=>?_)
        ·exact hx5 _ _ (hj5 _ H _ (((y.bring 2).bring 2).bring 2) h)
        ·exact hx5 _ _ (hj5 _ H _ (((y.bring 2).bring 2).bring 2) h)
       refine u7 λj4 hx4=>c7 pLs (j7 h (λ_ h=>?_) (λ_ h=>?_))
       ·refine c7 (a8X _ _ _) (c7 pAd ?_)
        exact hx4 _ _ (hj4 _ al _ (((ad.bring 2).bring 2).bring 2) h)
       ·exact hx4 _ _ (hj4 _ al _ (((ad.bring 2).bring 2).bring 2) h)
     ·exact hx2 _ _ (hj2 H _ (((I.bring 2).drop.bring 1).bring 1) h)
    refine u7 λj1 hx1=>?_
    obtain ⟨ar,ac,cy,cz⟩:=h
    refine G6 (J:=λn l w=>∃(s:(List Bool)×Int)(H:Hp)(Fs9l6:Frag),n=ac s/\l=(match s with | (fq,fr)=>[(vi fr)])/\(match s with | (fq,fr)=>RowL 4 1 a5S z fq Fs9l6)/\(match s with | (fq,fr)=>Inv w0 ps0 H0 H [bx f 31 (r9 d),bx i 25 (q7 x0),Fs9l6] w)/\ar s H) ⟨_,((List.replicate (d.i7:Int).toNat false),0),ax,bq,rfl,rfl,br,((bs.bring 2).bring 2),cy⟩ ?_
    rintro ez fa w next6 ⟨⟨fq,fr⟩,H,Fs9l6,rfl,au,ft,I,da⟩ hn6
    have au:=lE1 au
    have e10:=au
    simp only [e10]
    obtain ⟨n6,hm6,h⟩:=tlA (B:=λn6=>a0g x1 bm d x0 fq fr H n6 K) (cz (fq,fr) H) da
    refine c7 (a8X _ _ _) (c7 pLs ?_)
    refine j7 h (λ_ h=>?_) (λ_ h=>?_)
    ·refine L6 I λfb e=>?_
     obtain ⟨q,r,m,j,h⟩:=h
     obtain ⟨db,dc,t,j⟩:=j
     refine g8 (a0R t _ _ _ _ q r) (s7 (ld1 (v:=(vi m)) isAgg3 (e.atH j)) ?_)
     refine g8 pLs ?_
     simp only [K6]
     refine g8 (Pu.g λc=>by simp only [p6 c];exact (a0R t _ _ _ _ q r)) ?_
     refine g8 (Pu.g λc=>by with_reducible exact O6) ?_
     refine a2E (p:=(Value.pointer (some ⟨db,dc+(fr:Int).toNat*1,none⟩))) rfl (Ld.g λc=>by simp only [p6 c];with_reducible exact (ld1 (v:=(vi m)) isAgg3 (e.atH j))) ?_
     refine a2E (p:=(Value.pointer (some ⟨f,3,none⟩))) rfl (Ld.g λc=>by simp only [p6 c];exact (l1 isAgg3 e rfl)) ?_
     refine g8 (Pu.g λc=>by simp only [p6 c];with_reducible exact pGe) ?_
     refine g8 (M6 _ _) (t6 h (λ_ h=>?_) (λ_ h=>?_))
     ·exact hR _ H _ _ e.drop.drop.drop ⟨_,rfl,rfl,h⟩
     ·refine c7 (a0R t _ _ _ _ q r) (d7 (ld1 (v:=(vi m)) isAgg3 (e.atH j)) ?_)
      obtain ⟨be,fc,av,h⟩:=h
      obtain ⟨fd,fe,bf,ff⟩:=ft.addr av
      refine c7 (a8Y bf _ _ _ _ be (ft.lt be av)) (a9D (x:=true) (e.bring 2) ft bf (List.getElem?_eq_some_iff.1 av).1 sizeOf4 rfl λdd fg de df fh=>?_)
      exact c7 pAd (hn6 _ _ _ (hm6 _ _ h).2 ⟨((fq.set (m:Int).toNat true),(IntKind.wrap .i64 (fr+1))),H,dd,rfl,rfl,de,((df.bring 2).bring 2),(hm6 _ _ h).1⟩)
    ·exact hx1 _ _ (hj1 _ _ H _ ft (((I.bring 2).bring 2).bring 2) h)
def a8o(x0:m0)(_:(List d8))(x1:l9)(H)(K:z6->Bool->Hp->Prop):=
 (x1.d9=1->
 K (z6.mk (-1) x1.A6) true H)/\
 (¬(x1.d9=1)->
 ∃a:l9,((decide (x1.d9=5))=true->(0:Int)<=0/\(0:Int) < x1.L8.n/\EltH H x1.L8 0 4 (g9 a))/\
 (((decide (x1.d9=5))&&(decide (a.d9=1)))=true->
 (0:Int)<=0/\(0:Int) < x1.L8.n/\∃b:l9,EltH H x1.L8 0 4 (g9 b)/\
 K (z6.mk (-1) (IntKind.wrap .i64 (0-b.A6))) true H)/\
 (((decide (x1.d9=5))&&(decide (a.d9=1)))=false->
 (x1.d9=2->
 ∃c:List (BA×Int),MapH H (λs:BA=>Value.string s) (λn:Int=>Value.int .i64 n) x0.fvars c/\
 K (z6.mk ((lk x1.o7 c).getD 0) 0) true H)/\
 (¬(x1.d9=2)->
 a0b H (λd e=>
 K d false e))))
theorem b3Z(x0 j x1){H K}(h:a8o x0 j x1 H K):a1G x0 j x1 H K:=by
 intro g0 ad ae af
 refine Ct.of λw0 w ps0 H0 R E I hR=>d8N (D3 I rfl λag ah s ai=>?_)
 refine r8 s zeroValue41 rfl λaj ak c al=>c7 W7 (d7 (l1 isAgg3 (c.bring 1) rfl) (c7 pEq ?_))
 refine j7 h (λ_ h=>?_) (λ_ h=>?_)
 ·refine c7 b0q (d7 (l1 isAgg2 (c.bring 1) rfl) (c7 (b8T _ _) ?_))
  exact v8 c sizeOf41 (vs:=[(vi (-1)),(vi x1.A6)]) λam l an=>D9 isAgg41 sizeOf41 rfl l (hR _ H _ _ ((l.drop.drop.bring 1).bring 1) ⟨_,_,rfl,rfl,h⟩)
 ·refine c7 W7 (d7 (l1 isAgg3 (c.bring 1) rfl) (c7 pEq ?_))
  refine c7 (Pu.g λa=>by with_reducible exact a0Z) ?_
  refine d7 (Ld.g λa=>by simp only [p6 a];exact (l1 isAgg52 (c.bring 1) rfl)) ?_
  obtain ⟨e,b,h⟩:=h
  obtain ⟨ao,ap,b⟩:=d6Y b
  refine c7 (Pu.g λhb=>by have a:=hb;simp only [p6 a];with_reducible exact (Z7 (b hb).2.2.1 _ _ _ _ (b hb).1 (b hb).2.1)) ?_
  refine c7 (Pu.g λa=>by simp only [p6 a];with_reducible exact W7) ?_
  refine d7 (Ld.g λhb=>by have a:=hb;simp only [p6 a];exact (ld1 (v:=(vi e.d9)) isAgg3 ((c.atH (b hb).2.2.2).sub (k:=0) (n:=1) (nb rfl)))) ?_
  refine c7 (Pu.g λa=>by simp only [p6 a];with_reducible exact pEq) ?_
  refine c7 (M3 _ _) (t6 h (λ_ h=>?_) (λ_ h=>?_))
  ·refine c7 a0Z (d7 (l1 isAgg52 (c.bring 1) rfl) ?_)
   obtain ⟨t,u,f,i,h⟩:=h
   obtain ⟨aq,ar,y,i⟩:=i
   refine c7 (Z7 y _ _ _ _ t u) (c7 b0q (d7 (ld1 (v:=(vi f.A6)) isAgg2 ((c.atH i).sub (k:=1) (n:=1) (nb rfl))) (c7 (e1x _ _) (c7 (b8T _ _) ?_))))
   exact v8 c sizeOf41 (vs:=[(vi (-1)),(vi (IntKind.wrap .i64 (0-f.A6)))]) λau m av=>D9 isAgg41 sizeOf41 rfl m (hR _ H _ _ ((m.drop.drop.bring 1).bring 1) ⟨_,_,rfl,rfl,h⟩)
  ·refine c7 W7 (d7 (l1 isAgg3 (c.bring 1) rfl) (c7 pEq ?_))
   refine j7 h (λ_ h=>?_) (λ_ h=>?_)
   ·refine L6 c λaw d=>g8 (t7 _) (g8 b7M ?_)
    refine g8 a4Y (s7 (l1 isAgg61 (d.bring 2) rfl) ?_)
    refine s7 (l1 isAgg9 (d.bring 1) rfl) ?_
    obtain ⟨o,aa,h⟩:=h
    refine b7I (keyS underlying9) underlying61 (z:=0) zeroValue3 d aa x1.o7 (g8 (b0p _) ?_)
    exact v8 d sizeOf41 (vs:=[(vi ((lk x1.o7 o).getD 0)),(vi 0)]) λax p ay=>D9 isAgg41 sizeOf41 rfl p (hR _ H _ _ ((p.drop.drop.bring 1).bring 1) ⟨_,_,rfl,rfl,h⟩)
   ·refine f7 call40 h c ?_
    rintro _ ab _ az ac _ _ ⟨q,rfl,rfl,h⟩
    exact v8 ac sizeOf41 (vs:=(A0 q)) λba r bb=>D9 isAgg41 sizeOf41 rfl r (hR _ ab _ _ ((r.drop.drop.bring 1).bring 1) ⟨q,_,rfl,rfl,h⟩)
def a8S(x0)(a:(List d8))(x1)(H)(K:m0->(List d8)->Hp->Prop):=
 (a.length+([x1]:List d8).length)*81<=140737488355328/\
 K (j6 x0) (a++[x1]) H
theorem b4R(x0 a x1){H K}(h:a8S x0 a x1 H K):J0 x0 a x1 H K:=by
 intro g0 f r g
 refine Ct.of λw0 w ps0 H0 R E I hR=>e3k (D3 I rfl λt u i v=>?_)
 refine L6 i λy b=>g8 (t7 _) (g8 Y0 ?_)
 refine g8 X9 (s7 (l1 isAgg29 (b.bring 1) rfl) ?_)
 refine s7 (lW isAgg43 sizeOf43 rfl b) (O0 (e:=43) (c:=p7) (xs:=[x1]) b (c8P _ _ _ _ _ _ _ _ _ _) rfl rfl a7U a7V (nb rfl) λz aa ab j d k=>?_)
 refine ⟨(k _ (b.bring 1).lt1),?_⟩
 obtain ⟨l,h⟩:=h
 refine d2m (s:=f) (xs:=a) (d.bring 3) g (j.srcO ((d.bring 3).bring 1)) l λm n ac o p ad=>g8 (t7 _) (g8 Y0 ?_)
 refine g8 X9 (K0 ((p.bring 1).drop.bring 2) sizeOf29 λae q af=>?_)
 exact hR _ H _ _ (((q.bring 2).drop.bring 1).bring 1) ⟨(j6 x0),(a++[x1]),m,n,rfl,rfl,o,h⟩
def c0Z(x0:Int)(x1:Int)(x2:Int)(H)(K:KT d8):=
 a0b H (λa b=>
 a0b b (λc d=>
 K (d8.mk x0 x1 x2 (-1) (-1) 0 a c) d))
theorem c1a(x0 x1 x2){H K}(h:c0Z x0 x1 x2 H K):T3 x0 x1 x2 H K:=by
 refine Ct.of λw0 w ps0 H0 R E I hR=>e3i (r8 I zeroValue43 rfl λi j d k=>?_)
 refine f7 call40 h d ?_
 rintro _ _ _ l e _ _ ⟨a,rfl,rfl,h⟩
 refine f7 call40 h e ?_
 rintro _ f _ m g _ _ ⟨b,rfl,rfl,h⟩
 refine c7 (b5X _ _ _ _ _ _ _ _ _) (v8 g sizeOf43 (vs:=[(vi x0),(vi x1),(vi x2),(vi (-1)),(vi (-1)),(vi 0),(vi a.K3),(vi a.A6),(vi b.K3),(vi b.A6)]) λn c o=>?_)
 exact D9 isAgg43 sizeOf43 rfl c (hR _ f _ _ c.drop ⟨_,rfl,rfl,h⟩)
def a2S(aa:(List Int))(ab:Sl)(ad:Int)(ae:Int)(P8)(ag:Int)(ah)(ai:Int)(aj:Int)(ak:(List d8))(u6)(z8)(H)(n2:KT (Int×Sl×Int×Sl×Int×Int×(List d8)×(Option Nat)×(Option Nat)))(K:m0->(List d8)->Hp->Prop):=
 (ae < ad->
 (0:Int)<=ae/\(ae:Int) < ab.n/\∃b:i6,EltH H ab ae 6 (q9 b)/\
 (0:Int)<=ae/\∃c:Int,(aa)[(ae:Int).toNat]? = some c/\
 (0:Int)<=IntKind.wrap .i64 (ae+1)/\∃d:Int,(aa)[(IntKind.wrap .i64 (ae+1):Int).toNat]? = some d/\
 a4P (m0.mk (s6.mk P8 ag ah ai aj sN) u6 z8) ak b c d H (λa e f=>
 n2 ((IntKind.wrap .i64 (ae+1)),a.fc.E0,a.fc.D7,a.fc.C1,a.fc.i7,a.fc.K8,e,a.fvars,a.farrays) f))/\
 (¬(ae < ad)->
 K (m0.mk (s6.mk P8 ag ah ai aj sN) u6 z8) ak H)
def a2T(aa:Sl)(ab:Int)(ad:(List Int))(M9)(ae:Int)(ag)(ah:Int)(ai:Int)(aj:(List d8))(u5)(A9)(H)(K:m0->(List d8)->Hp->Prop):=
 (ad.length+([ab]:List Int).length)*9<=140737488355328/\
 TL ((0,M9,ae,ag,ah,ai,aj,u5,A9):Int×Sl×Int×Sl×Int×Int×(List d8)×(Option Nat)×(Option Nat)) H λ(s:Int×Sl×Int×Sl×Int×Int×(List d8)×(Option Nat)×(Option Nat)) H n2=>a2S (ad++[ab]) aa (aa.n:Int) s.1 s.2.1 s.2.2.1 s.2.2.2.1 s.2.2.2.2.1 s.2.2.2.2.2.1 s.2.2.2.2.2.2.1 s.2.2.2.2.2.2.2.1 s.2.2.2.2.2.2.2.2 H n2 K
def a2U(aa)(ab:Int)(ad:Int)(ae:(List Int))(ag:Int)(ah)(ai:Int)(aj)(ak:Int)(al:Int)(am:(List d8))(an)(ao)(H)(n3:KT ((List Int)×Int×Sl×Int×Sl×Int×Int×(List d8)×(Option Nat)×(Option Nat)))(K:m0->(List d8)->Hp->Prop):=
 (ag < ad->
 M1 (m0.mk (s6.mk ah ai aj ak al sN) an ao) am H (λb a c d=>
 (ae.length+([b]:List Int).length)*9<=140737488355328/\
 n3 ((ae++[b]),(IntKind.wrap .i64 (ag+1)),a.fc.E0,a.fc.D7,a.fc.C1,a.fc.i7,a.fc.K8,c,a.fvars,a.farrays) d))/\
 (¬(ag < ad)->
 a2T aa ab ae ah ai aj ak al am an ao H K)
def a8p(x0:m0)(a:(List d8))(x1:Sl)(x2:Int)(x3:Int)(H)(K:m0->(List d8)->Hp->Prop):=
 ((x1.n:Int)=0->
 K (j6 x0) a H)/\
 (¬((x1.n:Int)=0)->
 TL (([x2],0,x0.fc.E0,x0.fc.D7,x0.fc.C1,x0.fc.i7,x0.fc.K8,a,x0.fvars,x0.farrays):(List Int)×Int×Sl×Int×Sl×Int×Int×(List d8)×(Option Nat)×(Option Nat)) H λ(s:(List Int)×Int×Sl×Int×Sl×Int×Int×(List d8)×(Option Nat)×(Option Nat)) H n3=>a2U x1 x3 (IntKind.wrap .i64 ((x1.n:Int)-1)) s.1 s.2.1 s.2.2.1 s.2.2.2.1 s.2.2.2.2.1 s.2.2.2.2.2.1 s.2.2.2.2.2.2.1 s.2.2.2.2.2.2.2.1 s.2.2.2.2.2.2.2.2.1 s.2.2.2.2.2.2.2.2.2 H n3 K)
theorem b4a(x0 k x1 x2 x3){H K}(h:a8p x0 k x1 x2 x3 H K):V6 x0 k x1 x2 x3 H K:=by
 intro g0 z aa ab
 refine Ct.of λw0 w ps0 H0 R E I hR=>e2a (c7 (a1P _ _ _) (c7 pEq ?_))
 refine j7 h (λ_ h=>?_) (λ_ h=>?_)
 ·exact hR _ H _ _ ((I.bring 1).bring 1) ⟨(j6 x0),k,z,aa,rfl,rfl,ab,h⟩
 ·refine O0 (e:=3) (c:=K4) (xs:=[x2]) I (b2g _) rfl rfl a3k a3l (nb rfl) λak al cb am an cc=>?_
  have hj1:∀cs M9 dl dm dn dp dq u5 A9 dr Fs8j1 ds dt H w,RowL 3 1 K4 dr cs Fs8j1->RowL 43 10 p7 ds dq dt->Inv w0 ps0 H0 H [bx g0 63 [(vs M9),(vi dl),(vs dm),(vi dn),(vi dp),(vs ds),(Value.map u5),(Value.map A9)],Fs8j1,dt] w->a2T x1 x3 cs M9 dl dm dn dp dq u5 A9 H K->d2A (pt g0) (vs x1) (vi x3) (vs dr) w R E:=by
   intro cs M9 dl dm dn dp dq u5 A9 dr Fs8j1 ds dt H w du dv I h
   intro _
   refine O0 (e:=3) (c:=K4) (xs:=[x3]) I (b2g _) rfl rfl a3k a3l (nb rfl) λcd ce cf ao ac cg=>?_
   obtain ⟨ap,h⟩:=h
   refine b6Q (s:=dr) (xs:=cs) (ac.bring 2) du (ao.srcO ((ac.bring 2).bring 1)) ap λch aq ci g ar cj=>c7 (a1P _ _ _) ?_
   obtain ⟨o,i,au,av⟩:=h
   refine G6 (J:=λn l w=>∃(s:Int×Sl×Int×Sl×Int×Int×(List d8)×(Option Nat)×(Option Nat))(H:Hp)(dw:Sl)(dx:Frag),n=i s/\l=(match s with | (dy,P8,dz,ea,ec,ed,ee,u6,z8)=>[(vi dy)])/\(match s with | (dy,P8,dz,ea,ec,ed,ee,u6,z8)=>RowL 43 10 p7 dw ee dx)/\(match s with | (dy,P8,dz,ea,ec,ed,ee,u6,z8)=>Inv w0 ps0 H0 H [bx g0 63 [(vs P8),(vi dz),(vs ea),(vi ec),(vi ed),(vs dw),(Value.map u6),(Value.map z8)],aq,dx] w)/\o s H) ⟨_,(0,M9,dl,dm,dn,dp,dq,u5,A9),H,ds,dt,rfl,rfl,dv,((((ar.bring 1).drop.bring 2).bring 1).bring 2),au⟩ ?_
   rintro ck cl w next2 ⟨⟨dy,P8,dz,ea,ec,ed,ee,u6,z8⟩,H,dw,dx,rfl,p,ef,I,aw⟩ hn2
   have p:=lE1 p
   have e33:=p
   simp only [e33]
   obtain ⟨n2,hm2,h⟩:=tlA (B:=λn2=>a2S (cs++[x3]) x1 (x1.n:Int) dy P8 dz ea ec ed ee u6 z8 H n2 K) (av (dy,P8,dz,ea,ec,ed,ee,u6,z8) H) aw
   refine c7 pLs (j7 h (λ_ h=>?_) (λ_ h=>?_))
   ·obtain ⟨ax,ay,ad,q,h⟩:=h
    obtain ⟨cm,cn,az,q⟩:=q
    refine c7 (b5d az _ _ _ _ ax ay) (d7 (ldA (vs:=(q9 ad)) isAgg55 sizeOf55 rfl (I.atH q)) ?_)
    refine r8 I zeroValue55 rfl λco cp ba cq=>v8 ba sizeOf55 (vs:=(q9 ad)) λcr bb ct=>L6 bb λcu m=>?_
    obtain ⟨ae,bc,r,h⟩:=h
    obtain ⟨cv,cw,af,cx⟩:=g.addr r
    refine g8 (a0R af _ _ _ _ ae (g.lt ae r)) (g8 pAd ?_)
    obtain ⟨ag,bd,t,h⟩:=h
    obtain ⟨cy,cz,ah,da⟩:=g.addr t
    refine g8 (a0R ah _ _ _ _ ag (g.lt ag t)) (s7 (lW isAgg55 sizeOf55 rfl m) ?_)
    refine s7 (ld1 (v:=(vi bc)) isAgg3 (g.atW (m.bring 2) af r)) (s7 (ld1 (v:=(vi bd)) isAgg3 (g.atW (m.bring 2) ah t)) ?_)
    refine f7 call32 (h g0 dw dx ef) ((m.bring 3).bring 2) ?_
    rintro _ be _ db bf _ _ ⟨d,bg,bh,bi,rfl,rfl,bj,h⟩
    exact c7 pAd (hn2 _ _ _ (hm2 _ _ h).2 ⟨((IntKind.wrap .i64 (dy+1)),d.fc.E0,d.fc.D7,d.fc.C1,d.fc.i7,d.fc.K8,bg,d.fvars,d.farrays),be,bh,bi,rfl,rfl,bj,((((bf.bring 2).drop.bring 1).bring 2).bring 2),(hm2 _ _ h).1⟩)
   ·exact hR _ H _ _ (((I.bring 1).drop.bring 1).bring 1) ⟨(m0.mk (s6.mk P8 dz ea ec ed sN) u6 z8),ee,dw,dx,rfl,rfl,ef,h⟩
  refine u7 λj1 hx1=>c7 (a1P _ _ _) (c7 pSu ?_)
  obtain ⟨u,j,bk,bl⟩:=h
  refine G6 (J:=λn l w=>∃(s:(List Int)×Int×Sl×Int×Sl×Int×Int×(List d8)×(Option Nat)×(Option Nat))(H:Hp)(eg:Sl)(Fs8l3:Frag)(eh:Sl)(ei:Frag),n=j s/\l=(match s with | (ej,ek,em,en,eo,ep,et,eu,ew,ey)=>[(vs eg),(vi ek)])/\(match s with | (ej,ek,em,en,eo,ep,et,eu,ew,ey)=>RowL 3 1 K4 eg ej Fs8l3)/\(match s with | (ej,ek,em,en,eo,ep,et,eu,ew,ey)=>RowL 43 10 p7 eh eu ei)/\(match s with | (ej,ek,em,en,eo,ep,et,eu,ew,ey)=>Inv w0 ps0 H0 H [bx g0 63 [(vs em),(vi en),(vs eo),(vi ep),(vi et),(vs eh),(Value.map ew),(Value.map ey)],Fs8l3,ei] w)/\u s H) ⟨_,([x2],0,x0.fc.E0,x0.fc.D7,x0.fc.C1,x0.fc.i7,x0.fc.K8,k,x0.fvars,x0.farrays),H,ak,al,z,aa,rfl,rfl,am,ab,(((an.bring 2).bring 1).bring 2),bk⟩ ?_
  rintro dc dd w next3 ⟨⟨ej,ek,em,en,eo,ep,et,eu,ew,ey⟩,H,eg,Fs8l3,eh,ei,rfl,y,ez,fd,I,bm⟩ hn3
  obtain ⟨e8,e19⟩:=lE2 y
  simp only [e8,e19]
  obtain ⟨n3,hm3,h⟩:=tlA (B:=λn3=>a2U x1 x3 (IntKind.wrap .i64 ((x1.n:Int)-1)) ej ek em en eo ep et eu ew ey H n3 K) (bl (ej,ek,em,en,eo,ep,et,eu,ew,ey) H) bm
  refine c7 pLs (j7 h (λ_ h=>?_) (λ_ h=>?_))
  ·refine f7 call14 (h g0 eh ei fd) ((I.bring 2).bring 1) ?_
   rintro _ bn _ de bo _ _ ⟨ai,f,bp,bq,br,rfl,rfl,bs,h⟩
   refine O0 (e:=3) (c:=K4) (xs:=[ai]) bo (b2g _) rfl rfl a3k a3l (nb rfl) λdf dg dh bt aj di=>?_
   obtain ⟨bu,h⟩:=h
   exact b6Q (s:=eg) (xs:=ej) (aj.bring 3) ez (bt.srcO ((aj.bring 3).bring 1)) bu λbv bw dj bz ca dk=>c7 pAd (hn3 _ _ _ (hm3 _ _ h).2 ⟨((ej++[ai]),(IntKind.wrap .i64 (ek+1)),f.fc.E0,f.fc.D7,f.fc.C1,f.fc.i7,f.fc.K8,bp,f.fvars,f.farrays),bn,bv,bw,bq,br,rfl,rfl,bz,bs,((((ca.bring 1).drop.bring 2).bring 1).bring 2),(hm3 _ _ h).1⟩)
  ·exact hx1 _ _ (hj1 _ _ _ _ _ _ _ _ _ _ _ _ _ H _ ez fd (((I.bring 2).bring 2).bring 2) h)
def b5M(x0)(x1:BA)(H)(K:KT Bool):=
 G5 x0 H (λa b=>
 K (((decide (a.d9=3))||(decide (a.d9=4)))&&(decide (a.N9=x1))) b)
theorem b5N(x0 x1){H K}(h:b5M x0 x1 H K):B0 x0 x1 H K:=by
 intro g0
 refine Ct.of λw0 w ps0 H0 R E I hR=>e2W (f7 call55 (h g0) I ?_)
 rintro _ d _ i e _ _ ⟨c,rfl,rfl,h⟩
 refine r8 e zeroValue127 rfl λj k f l=>v8 f sizeOf127 (vs:=(m8 c)) λm b n=>c7 a6j (d7 (l1 isAgg3 b rfl) (c7 pEq ?_))
 refine c7 (Pu.g λa=>by with_reducible exact a6j) ?_
 refine d7 (Ld.g λa=>by simp only [p6 a];exact (l1 isAgg3 b rfl)) ?_
 refine c7 (Pu.g λa=>by simp only [p6 a];with_reducible exact pEq) ?_
 refine c7 (M6 _ _) (c7 (Pu.g λa=>by with_reducible exact a0w) ?_)
 refine d7 (Ld.g λa=>by simp only [p6 a];exact (l1 isAgg9 b rfl)) ?_
 simp only [K6]
 refine c7 (Pu.g λa=>by simp only [p6 a];with_reducible exact (a0C _ _ _ _ _)) ?_
 exact c7 (M3 _ _) (hR _ d _ _ b.drop ⟨_,rfl,rfl,h⟩)
def b0O(x0)(H)(K:KT Bool):=
 G5 x0 H (λa e=>
 TG ((decide (a.d9=1))=false) (B0 x0 ⟨#[105,102]⟩ e) false e (λ(b:Bool)(f:Hp)=>
 TG (((decide (a.d9=1))||b)=false) (B0 x0 ⟨#[119,104,105,108,101]⟩ f) false f (λ(c:Bool)(g:Hp)=>
 TG ((((decide (a.d9=1))||b)||c)=false) (B0 x0 ⟨#[97,115,115,101,114,116]⟩ g) false g (λ(d:Bool)(i:Hp)=>
 TG (((((decide (a.d9=1))||b)||c)||d)=false) (B0 x0 ⟨#[97,115,115,117,109,101]⟩ i) false i (λ(j:Bool)(k:Hp)=>
 TG ((((((decide (a.d9=1))||b)||c)||d)||j)=false) (B0 x0 ⟨#[115,107,105,112]⟩ k) false k (λ(l:Bool)(m:Hp)=>
 K ((((((decide (a.d9=1))||b)||c)||d)||j)||l) m))))))
theorem b0P(x0){H K}(h:b0O x0 H K):U2 x0 H K:=by
 intro g0
 refine Ct.of λw0 w ps0 H0 R E I hR=>e2Z (f7 call55 (h g0) I ?_)
 rintro _ ap _ aq n _ _ ⟨aj,rfl,rfl,h⟩
 refine c7 b1h (c7 pEq ?_)
 simp only [K6]
 refine Q4 [bx g0 125 (f9 x0)] (λb:Bool=>(vB b)) h n (λa h=>by simp only [p6 a];exact R6 call57 (h g0) n) λb p ak g q r h=>?_
 refine c7 (M6 _ _) ?_
 simp only [K6]
 refine Q4 [bx g0 125 (f9 x0)] (λc:Bool=>(vB c)) h g (λa h=>by simp only [p6 a];exact R6 call57 (h g0) g) λc t al i u v h=>?_
 refine c7 (M6 _ _) ?_
 simp only [K6]
 refine Q4 [bx g0 125 (f9 x0)] (λd:Bool=>(vB d)) h i (λa h=>by simp only [p6 a];exact R6 call57 (h g0) i) λd z am j aa ab h=>?_
 refine c7 (M6 _ _) ?_
 simp only [K6]
 refine Q4 [bx g0 125 (f9 x0)] (λe:Bool=>(vB e)) h j (λa h=>by simp only [p6 a];exact R6 call57 (h g0) j) λe ad an k ae af h=>?_
 refine c7 (M6 _ _) ?_
 simp only [K6]
 refine Q4 [bx g0 125 (f9 x0)] (λf:Bool=>(vB f)) h k (λa h=>by simp only [p6 a];exact R6 call57 (h g0) k) λf l ao m ah ai h=>?_
 exact c7 (M6 _ _) (hR _ l _ _ m ⟨_,rfl,rfl,h⟩)
def b4b [PanQ] (x0:c8) (H:Hp) (_:Hp->Prop):=
 G5 x0 H (λa _=>
 PanQ.q (Value.iface 122 (Value.agg #[(vi a.fAt.Q3),(vi a.fAt.Z6),(vi 40)])))
theorem b4c [PanQ] (x0:c8) {H:Hp} {K:Hp->Prop} (h:b4b x0 H K):M2 x0 H K:=by
 intro g0
 refine Ct.ofE λw0 w ps0 H0 R E I hR hE=>e2V (f7 call55 (h g0) I ?_)
 rintro _ b _ c a _ _ ⟨d,rfl,rfl,h⟩
 refine c7 b9o (c7 (b6R _ _ _) (c7 (b9p _ _ _) ?_))
 exact b6i (hE _ _ _ _ a ⟨_,rfl,h⟩)
def b4d [PanQ] (x0:c8) (x1:BA) (H:Hp) (K:KT c8):=
 B6 x0 x1 H (λb a c=>
 ((!b)=true->
 M2 a c (λd=>
 K a d))/\
 ((!b)=false->
 K a c))
theorem b4e [PanQ] (x0:c8) (x1:BA) {H:Hp} {K:KT c8} (h:b4d x0 x1 H K):K5 x0 x1 H K:=by
 intro g0
 refine Ct.ofE λw0 w ps0 H0 R E I hR hE=>e3K (f7 call96 (h g0) I ?_)
 rintro _ c _ f a _ _ ⟨g,b,rfl,rfl,h⟩
 refine c7 (R5 _) (t6 h (λ_ h=>?_) (λ_ h=>?_))
 ·refine D8 hE call56 (h g0) a ?_
  rintro _ d _ i e _ _ ⟨rfl,rfl,h⟩
  exact hR _ d _ _ e ⟨b,rfl,rfl,h⟩
 ·exact hR _ c _ _ a ⟨b,rfl,rfl,h⟩
def a0Q [PanQ] (L0:c8) (_:d6) (H:Hp) (K:d6->c8->Hp->Prop):=
 V8 L0 H (λa b c=>
 K a b c)
def b4f [PanQ] (x0:c8) (x1:Int) (H:Hp) (K:d6->c8->Hp->Prop):=
 G5 x0 H (λa b=>
 (¬(a.d9=x1)->
 M2 x0 b (λc=>
 a0Q x0 (d6.mk 0 ⟨#[]⟩ 0 (f8.mk 0 0)) c K))/\
 (a.d9=x1->
 a0Q x0 (d6.mk 0 ⟨#[]⟩ 0 (f8.mk 0 0)) b K))
theorem b4g [PanQ] (x0:c8) (x1:Int) {H:Hp} {K:d6->c8->Hp->Prop} (h:b4f x0 x1 H K):a4r x0 x1 H K:=by
 intro g0
 refine Ct.ofE λw0 w ps0 H0 R E I hR hE=>e3J (r8 I zeroValue127 rfl λa m e n=>?_)
 have hj1:∀H w,Inv w0 ps0 H0 H [bx g0 125 (f9 x0),bx a 127 [(vi (d6.mk 0 ⟨#[]⟩ 0 (f8.mk 0 0)).d9),(wS (d6.mk 0 ⟨#[]⟩ 0 (f8.mk 0 0)).N9),(vi (d6.mk 0 ⟨#[]⟩ 0 (f8.mk 0 0)).A6),(vi (d6.mk 0 ⟨#[]⟩ 0 (f8.mk 0 0)).fAt.Q3),(vi (d6.mk 0 ⟨#[]⟩ 0 (f8.mk 0 0)).fAt.Z6)]] w->a0Q x0 (d6.mk 0 ⟨#[]⟩ 0 (f8.mk 0 0)) H K->d3p (pt g0) (pt a) w R E:=by
  intro H w I h
  intro _
  refine D8 hE call95 (h g0) I ?_
  rintro _ f _ o g _ _ ⟨b,i,rfl,rfl,h⟩
  exact v8 (g.bring 1) sizeOf127 (vs:=(m8 b)) λp c q=>D9 isAgg127 sizeOf127 rfl c (hR _ f _ _ c.drop ⟨b,i,rfl,rfl,h⟩)
 refine u7 λj1 hx1=>f7 call55 (h g0) (e.bring 1) ?_
 rintro _ j _ r d _ _ ⟨s,rfl,rfl,h⟩
 refine c7 b1h (c7 pNe ?_)
 refine a1L h (λ_ h=>?_) (λ_ h=>?_)
 ·refine D8 hE call56 (h g0) d ?_
  rintro _ k _ t l _ _ ⟨rfl,rfl,h⟩
  exact hx1 _ _ (hj1 k _ ((l.bring 1).bring 1) h)
 ·exact hx1 _ _ (hj1 j _ ((d.bring 1).bring 1) h)
def a6n(x0)(b:(List Int))(x1:BA)(H)(K:Int->Value->g7->(List Int)->Hp->Prop):=
 a7f (s8 x0) b H (λc a d=>
 ((a:List Int).length+x1.size)*2<=140737488355328/\
 K (x1.size:Int) Value.nilIface (s8 c) (a++(sbytes x1)) d)
theorem b1T(x0 a x1){H K}(h:a6n x0 a x1 H K):a2G x0 a x1 H K:=by
 intro g0 e f g
 refine Ct.of λw0 w ps0 H0 R E I hR=>e3x (f7 call114 (h g0 e f g) ((I.bring 1).bring 1) ?_)
 rintro _ i _ t c _ _ ⟨j,d,k,u,rfl,rfl,l,h⟩
 refine c7 (t7 _) (c7 b1f (d7 (l1 isAgg79 c rfl) ?_))
 obtain ⟨m,h⟩:=h
 refine d2u (s:=k) (xs:=d) (b:=x1) (c.bring 1) l m λn o v p q y=>c7 (t7 _) (c7 b1f ?_)
 exact K0 (q.bring 1) sizeOf79 λz r aa=>c7 (b0F _) (hR _ i _ _ ((r.bring 1).bring 1) ⟨(x1.size:Int),Value.nilIface,(s8 j),(d++(sbytes x1)),n,o,rfl,rfl,p,h⟩)
def b6c(x0:Int)(H)(K:KT BA):=
 (0:Int)<=IntKind.wrap .i64 (x0-6)/\(IntKind.wrap .i64 (x0-6):Int) < 5/\
 K (([⟨#[43]⟩,⟨#[45]⟩,⟨#[42]⟩,⟨#[47]⟩,⟨#[37]⟩]:List BA).getD (IntKind.wrap .i64 (x0-6):Int).toNat ⟨#[]⟩) H
theorem b6d(x0){H K}(h:b6c x0 H K):a5J x0 H K:=by
 refine Ct.of λw0 w ps0 H0 R E I hR=>e3A (c7 (b7T _ _ _ _ _) (c7 pSu ?_))
 obtain ⟨a,b,h⟩:=h
 exact c7 (d0G _ _ _ _ _ _ _ a b) (hR _ H _ _ I ⟨_,rfl,rfl,h⟩)
def a2s(M9)(aa:(List Int))(u5:Int)(H)(K:g7->(List Int)->Hp->Prop):=
 K (g7.mk (L9.mk M9 sN) (IntKind.wrap .i64 (u5-1))) aa H
def a2t(aa:Sl)(ab:Int)(ad:Int)(P8)(ae:(List Int))(u6:Int)(H)(n2:KT (Int×(Option Addr)×(List Int)×Int))(K:g7->(List Int)->Hp->Prop):=
 (ad < ab->
 (0:Int)<=ad/\(ad:Int) < aa.n/\∃a:i6,EltH H aa ad 6 (q9 a)/\
 a1E (g7.mk (L9.mk P8 sN) u6) ae a H (λb c d=>
 n2 ((IntKind.wrap .i64 (ad+1)),b.O5.faddr,c,b.fdeep) d))/\
 (¬(ad < ab)->
 a2s P8 ae u6 H K)
def a7n(x0:g7)(a:(List Int))(x1:Sl)(H)(K:g7->(List Int)->Hp->Prop):=
 TL ((0,x0.O5.faddr,a,(IntKind.wrap .i64 (x0.fdeep+1))):Int×(Option Addr)×(List Int)×Int) H λ(s:Int×(Option Addr)×(List Int)×Int) H n2=>a2t x1 (x1.n:Int) s.1 s.2.1 s.2.2.1 s.2.2.2 H n2 K
theorem b3B(x0 d x1){H K}(h:a7n x0 d x1 H K):a1s x0 d x1 H K:=by
 intro g0 m o p
 refine Ct.of λw0 w ps0 H0 R E I hR=>e2R (c7 (t7 _) (c7 b1i (d7 (l1 isAgg3 I rfl) (c7 pAd (c7 (t7 _) ?_)))))
 refine c7 b1i (K0 I sizeOf3 λai q aj=>?_)
 have hj1:∀M9 ay u5 az bb H w,RowL 5 1 B7 az ay bb->Inv w0 ps0 H0 H [bx g0 83 [(adv g0 M9),(vs az),(vi u5)],bb] w->a2s M9 ay u5 H K->d2O (pt g0) w R E:=by
  intro M9 ay u5 az bb H w bc I h
  intro _
  refine c7 (t7 _) (c7 b1i (d7 (l1 isAgg3 I rfl) (c7 pSu (c7 (t7 _) ?_))))
  refine c7 b1i (K0 I sizeOf3 λak r al=>?_)
  exact hR _ H _ _ ((r.bring 1).bring 1) ⟨(g7.mk (L9.mk M9 sN) (IntKind.wrap .i64 (u5-1))),ay,az,bb,rfl,rfl,bc,h⟩
 refine u7 λj1 hx1=>c7 (a1P _ _ _) ?_
 obtain ⟨e,c,t,u⟩:=h
 refine G6 (J:=λn l w=>∃(s:Int×(Option Addr)×(List Int)×Int)(H:Hp)(bf:Sl)(bg:Frag),n=c s/\l=(match s with | (bh,P8,bi,u6)=>[(vi bh)])/\(match s with | (bh,P8,bi,u6)=>RowL 5 1 B7 bf bi bg)/\(match s with | (bh,P8,bi,u6)=>Inv w0 ps0 H0 H [bx g0 83 [(adv g0 P8),(vs bf),(vi u6)],bg] w)/\e s H) ⟨_,(0,x0.O5.faddr,d,(IntKind.wrap .i64 (x0.fdeep+1))),H,m,o,rfl,rfl,p,((q.bring 1).bring 1),t⟩ ?_
 rintro am an w next2 ⟨⟨bh,P8,bi,u6⟩,H,bf,bg,rfl,f,bj,I,v⟩ hn2
 have f:=lE1 f
 have e15:=f
 simp only [e15]
 obtain ⟨n2,hm2,h⟩:=tlA (B:=λn2=>a2t x1 (x1.n:Int) bh P8 bi u6 H n2 K) (u (bh,P8,bi,u6) H) v
 refine c7 pLs (j7 h (λ_ h=>?_) (λ_ h=>?_))
 ·obtain ⟨y,z,i,g,h⟩:=h
  obtain ⟨ao,ap,aa,g⟩:=g
  refine c7 (b5d aa _ _ _ _ y z) (d7 (ldA (vs:=(q9 i)) isAgg55 sizeOf55 rfl (I.atH g)) ?_)
  refine r8 I zeroValue55 rfl λaq ar ab au=>v8 ab sizeOf55 (vs:=(q9 i)) λav j aw=>d7 (lW isAgg55 sizeOf55 rfl j) (f7 call24 (h g0 bf bg bj) ((j.bring 2).bring 2) ?_)
  rintro _ ac _ ax ad _ _ ⟨k,ae,af,ag,rfl,rfl,ah,h⟩
  exact c7 pAd (hn2 _ _ _ (hm2 _ _ h).2 ⟨((IntKind.wrap .i64 (bh+1)),k.O5.faddr,ae,k.fdeep),ac,af,ag,rfl,rfl,ah,(((ad.bring 2).drop.bring 1).bring 1),(hm2 _ _ h).1⟩)
 ·exact hx1 _ _ (hj1 _ _ _ _ _ H _ bj ((I.bring 1).bring 1) h)
def X7(E2:Int)(aa:BA)(a:p5)(M9)(ab:(List Int))(u5:Int)(H)(K:g7->(List Int)->Hp->Prop):=
 (0:Int)<=0/\(0:Int) < a.E9.n/\∃e:p5,EltH H a.E9 0 4 (l7 e)/\
 a1H (g7.mk (L9.mk M9 sN) u5) ab e E2 H (λi j k=>
 ∀(b:Sl)(d:Hp),Hle k d->SlH d 1 v7 b [aa]->b.n<=b.c->
 C5 (s8 i) j b d (λl m f=>
 (0:Int)<=1/\(1:Int) < a.E9.n/\∃g:p5,EltH f a.E9 1 4 (l7 g)/\
 a1H (s8 l) m g (IntKind.wrap .i64 (E2+1)) f (λo p q=>
 K (s8 o) p q)))
def a8q(x0:g7)(b:(List Int))(x1:p5)(H)(K:g7->(List Int)->Hp->Prop):=
 a2m x1.d9 H (λi a=>
 (x1.d9=1->
 ∀(d:Sl)(j:Hp),Hle a j->SlH j 1 v7 d [⟨#[116,114,117,101]⟩]->d.n<=d.c->
 C5 (s8 x0) b d j (λt u v=>
 K (s8 t) u v))/\
 (¬(x1.d9=1)->
 (x1.d9=2->
 ∀(e:Sl)(k:Hp),Hle a k->SlH k 1 v7 e [⟨#[102,97,108,115,101]⟩]->e.n<=e.c->
 C5 (s8 x0) b e k (λy z aa=>
 K (s8 y) z aa))/\
 (¬(x1.d9=2)->
 (x1.d9=3->
 (0:Int)<=0/\(0:Int) < x1.z7.n/\∃o:l9,EltH a x1.z7 0 4 (g9 o)/\
 N0 (s8 x0) b o a (λab ac ad=>
 (0:Int)<=IntKind.wrap .i64 (x1.fOp-1)/\(IntKind.wrap .i64 (x1.fOp-1):Int) < 6/\
 ∀(f:Sl)(l:Hp),Hle ad l->SlH l 1 v7 f [⟨#[32]⟩,([⟨#[60]⟩,⟨#[60,61]⟩,⟨#[61,61]⟩,⟨#[33,61]⟩,⟨#[62]⟩,⟨#[62,61]⟩]:List BA).getD (IntKind.wrap .i64 (x1.fOp-1):Int).toNat ⟨#[]⟩,⟨#[32]⟩]->f.n<=f.c->
 C5 (s8 ab) ac f l (λae af p=>
 (0:Int)<=1/\(1:Int) < x1.z7.n/\∃q:l9,EltH p x1.z7 1 4 (g9 q)/\
 N0 (s8 ae) af q p (λag ah ai=>
 K (s8 ag) ah ai))))/\
 (¬(x1.d9=3)->
 (x1.d9=4->
 ∀(g:Sl)(m:Hp),Hle a m->SlH m 1 v7 g [⟨#[33]⟩]->g.n<=g.c->
 C5 (s8 x0) b g m (λaj ak r=>
 (0:Int)<=0/\(0:Int) < x1.E9.n/\∃s:p5,EltH r x1.E9 0 4 (l7 s)/\
 a1H (s8 aj) ak s i r (λal am an=>
 K (s8 al) am an)))/\
 (¬(x1.d9=4)->
 (x1.d9=6->
 X7 i ⟨#[32,124,124,32]⟩ x1 x0.O5.faddr b x0.fdeep a K)/\
 (¬(x1.d9=6)->
 X7 i ⟨#[32,38,38,32]⟩ x1 x0.O5.faddr b x0.fdeep a K))))))
theorem b4h(x0 g x1){H K}(h:a8q x0 g x1 H K):V9 x0 g x1 H K:=by
 intro g0 b d f
 refine Ct.of λw0 w ps0 H0 R E I hR=>e3C (D3 I rfl λq em r en=>?_)
 refine c7 a8t (d7 (l1 isAgg3 r rfl) ?_)
 refine f7 call121 h r ?_
 rintro _ s _ eo a _ _ ⟨t,rfl,rfl,h⟩
 have hj1:∀cs M9 u5 H w,Inv w0 ps0 H0 H [bx q 115 (l7 x1),bx g0 83 [(adv g0 M9),(vs b),(vi u5)],d] w->X7 t cs x1 M9 g u5 H K->d3l (pt g0) (pt q) (vi t) (wS cs) w R E:=by
  intro cs M9 u5 H w I h
  intro _
  refine c7 a1v (d7 (l1 isAgg53 I rfl) ?_)
  obtain ⟨v,y,z,i,h⟩:=h
  obtain ⟨ep,eq,aa,i⟩:=i
  refine c7 (Z9 aa _ _ _ _ v y) (d7 (ldA (vs:=(l7 z)) isAgg115 sizeOf115 rfl (I.atH i)) ?_)
  refine f7 call122 (h g0 b d f) ((I.bring 2).bring 2) ?_
  rintro _ _ _ er ab _ _ ⟨es,et,ac,ad,rfl,rfl,ae,h⟩
  refine O0 (e:=9) (c:=v7) (xs:=[cs]) ab (a0L _) rfl rfl N6 N7 (nb rfl) λaf eu ev ag ah ew=>?_
  obtain ⟨ai,aj,ak,al,am⟩:=Inv.freezeC ah ag (by decide)
  replace h:=h af ai ak al am
  refine f7 call45 (h g0 ac ad ae) ((aj.bring 1).bring 1) ?_
  rintro _ _ _ ex j _ _ ⟨ey,ez,an,ao,rfl,rfl,ap,h⟩
  refine c7 a1v (d7 (l1 isAgg53 (j.bring 2) rfl) ?_)
  obtain ⟨aq,ar,au,k,h⟩:=h
  obtain ⟨fa,fb,av,k⟩:=k
  refine c7 (Z9 av _ _ _ _ aq ar) (d7 (ldA (vs:=(l7 au)) isAgg115 sizeOf115 rfl (j.atH k)) (c7 pAd ?_))
  refine f7 call122 (h g0 an ao ap) ((j.bring 1).bring 1) ?_
  rintro _ aw _ fc ax _ _ ⟨ay,az,ba,bb,rfl,rfl,bc,h⟩
  exact hR _ aw _ _ (((ax.bring 2).drop.bring 1).bring 1) ⟨(s8 ay),az,ba,bb,rfl,rfl,bc,h⟩
 refine u7 λj1 hx1=>c7 a8t (d7 (l1 isAgg3 a rfl) (c7 pEq ?_))
 refine j7 h (λ_ h=>?_) (λ_ h=>?_)
 ·refine O0 (e:=9) (c:=v7) (xs:=[⟨#[116,114,117,101]⟩]) a (a0L _) rfl rfl N6 N7 (nb rfl) λbd fd fe be bf ff=>?_
  obtain ⟨bg,bh,bi,bj,bk⟩:=Inv.freezeC bf be (by decide)
  replace h:=h bd bg bi bj bk
  refine f7 call45 (h g0 b d f) ((bh.bring 2).bring 2) ?_
  rintro _ bl _ fg bm _ _ ⟨bn,bo,bp,bq,rfl,rfl,br,h⟩
  exact hR _ bl _ _ (((bm.bring 2).drop.bring 1).bring 1) ⟨(s8 bn),bo,bp,bq,rfl,rfl,br,h⟩
 ·refine c7 pEq (j7 h (λ_ h=>?_) (λ_ h=>?_))
  ·refine O0 (e:=9) (c:=v7) (xs:=[⟨#[102,97,108,115,101]⟩]) a (a0L _) rfl rfl N6 N7 (nb rfl) λbs fh fi bt bu fj=>?_
   obtain ⟨bv,bw,bz,ca,cb⟩:=Inv.freezeC bu bt (by decide)
   replace h:=h bs bv bz ca cb
   refine f7 call45 (h g0 b d f) ((bw.bring 2).bring 2) ?_
   rintro _ cc _ fk cd _ _ ⟨ce,cf,cg,ch,rfl,rfl,ci,h⟩
   exact hR _ cc _ _ (((cd.bring 2).drop.bring 1).bring 1) ⟨(s8 ce),cf,cg,ch,rfl,rfl,ci,h⟩
  ·refine c7 pEq (j7 h (λ_ h=>?_) (λ_ h=>?_))
   ·refine c7 a8u (d7 (l1 isAgg52 a rfl) ?_)
    obtain ⟨cj,ck,cl,l,h⟩:=h
    obtain ⟨fl,fm,cm,l⟩:=l
    refine c7 (Z7 cm _ _ _ _ cj ck) (d7 (ldA (vs:=(g9 cl)) isAgg112 sizeOf112 rfl (a.atH l)) ?_)
    refine f7 call48 (h g0 b d f) ((a.bring 2).bring 2) ?_
    rintro _ _ _ fn u _ _ ⟨fo,fp,cn,co,rfl,rfl,cp,h⟩
    refine c7 (b0t _ _ _ _ _ _) (c7 a8v (d7 (l1 isAgg3 (u.bring 2) rfl) (c7 pSu ?_)))
    obtain ⟨cq,cr,h⟩:=h
    refine c7 (c2r _ _ _ _ _ _ _ _ cq cr) (O0 (e:=9) (c:=v7) (xs:=[⟨#[32]⟩,([⟨#[60]⟩,⟨#[60,61]⟩,⟨#[61,61]⟩,⟨#[33,61]⟩,⟨#[62]⟩,⟨#[62,61]⟩]:List BA).getD (IntKind.wrap .i64 (x1.fOp-1):Int).toNat ⟨#[]⟩,⟨#[32]⟩]) u (c0i _ _ _) rfl rfl N6 N7 (nb rfl) λct fq fs cu cv ft=>?_)
    obtain ⟨cw,cx,cy,cz,da⟩:=Inv.freezeC cv cu (by decide)
    replace h:=h ct cw cy cz da
    refine f7 call45 (h g0 cn co cp) ((cx.bring 1).bring 1) ?_
    rintro _ _ _ fu m _ _ ⟨fv,fw,db,dc,rfl,rfl,dd,h⟩
    refine c7 a8u (d7 (l1 isAgg52 (m.bring 2) rfl) ?_)
    obtain ⟨de,df,dg,n,h⟩:=h
    obtain ⟨fx,fy,dh,n⟩:=n
    refine c7 (Z7 dh _ _ _ _ de df) (d7 (ldA (vs:=(g9 dg)) isAgg112 sizeOf112 rfl (m.atH n)) ?_)
    refine f7 call48 (h g0 db dc dd) ((m.bring 1).bring 1) ?_
    rintro _ di _ fz dj _ _ ⟨dk,dl,dm,dn,rfl,rfl,dp,h⟩
    exact hR _ di _ _ (((dj.bring 2).drop.bring 1).bring 1) ⟨(s8 dk),dl,dm,dn,rfl,rfl,dp,h⟩
   ·refine c7 pEq (j7 h (λ_ h=>?_) (λ_ h=>?_))
    ·refine O0 (e:=9) (c:=v7) (xs:=[⟨#[33]⟩]) a (a0L _) rfl rfl N6 N7 (nb rfl) λdq ga gb dr ds gc=>?_
     obtain ⟨dt,du,dv,dw,dx⟩:=Inv.freezeC ds dr (by decide)
     replace h:=h dq dt dv dw dx
     refine f7 call45 (h g0 b d f) ((du.bring 2).bring 2) ?_
     rintro _ _ _ gd o _ _ ⟨ge,gf,dy,dz,rfl,rfl,ea,h⟩
     refine c7 a1v (d7 (l1 isAgg53 (o.bring 2) rfl) ?_)
     obtain ⟨eb,ec,ed,p,h⟩:=h
     obtain ⟨gg,gh,ee,p⟩:=p
     refine c7 (Z9 ee _ _ _ _ eb ec) (d7 (ldA (vs:=(l7 ed)) isAgg115 sizeOf115 rfl (o.atH p)) ?_)
     refine f7 call122 (h g0 dy dz ea) ((o.bring 1).bring 1) ?_
     rintro _ ef _ gi eg _ _ ⟨eh,ei,ej,ek,rfl,rfl,el,h⟩
     exact hR _ ef _ _ (((eg.bring 2).drop.bring 1).bring 1) ⟨(s8 eh),ei,ej,ek,rfl,rfl,el,h⟩
    ·refine c7 pEq (j7 h (λ_ h=>?_) (λ_ h=>?_))
     ·exact hx1 _ _ (hj1 _ _ _ s _ (((a.bring 2).bring 2).bring 2) h)
     ·exact hx1 _ _ (hj1 _ _ _ s _ (((a.bring 2).bring 2).bring 2) h)
def b0y(H)(K:Int->Int->Hp->Prop):=
 K 0 0 H
def b0z(aa:BA)(b:BA)(a:Nat)(H)(n2:KT Nat)(K:Int->Int->Hp->Prop):=
 (a < b.size->
 (¬(((Utf8.decode b a).1:Int)=65533)->
 n2 (a+(Utf8.decode b a).2) H)/\
 (((Utf8.decode b a).1:Int)=65533->
 (0:Int)<=((a:Nat):Int)/\(((a:Nat):Int):Int)<=aa.size/\
 a1x (aa.extract (((a:Nat):Int):Int).toNat aa.size) H (λ_ c d=>
 (c=1->
 K ((a:Nat):Int) 11 d)/\
 (¬(c=1)->
 n2 (a+(Utf8.decode b a).2) d))))/\
 (¬(a < b.size)->
 b0y H K)
def b2e(x0:BA)(H)(K:Int->Int->Hp->Prop):=
 (65536 < (x0.size:Int)->
 K 0 10 H)/\
 (¬(65536 < (x0.size:Int))->
 TL (0:Nat) H λ(s:Nat) H n2=>b0z x0 x0 s H n2 K)
theorem b9d(x0){H K}(h:b2e x0 H K):b1X x0 H K:=by
 refine Ct.of λw0 w ps0 H0 R E I hR=>e3E (c7 (b0F _) (c7 pGt ?_))
 refine j7 h (λ_ h=>?_) (λ_ h=>?_)
 ·exact hR _ H _ _ I ⟨0,_,rfl,rfl,h⟩
 ·have hj1:∀H w,Inv w0 ps0 H0 H [] w->b0y H K->d3m w R E:=by
   intro H w I h
   intro _
   exact hR _ H _ _ I ⟨0,0,rfl,rfl,h⟩
  refine u7 λj1 hx1=>b6N underlying9 x0 I λf o g p=>a2f (σ:=Nat) (λa=>[]) (λa=>[itf f x0 a]) h rfl g ?_
  rintro a H q w next2 n2 i I h hn2
  clear i
  refine b9m I (λb r c s=>?_) (λb=>?_)
  ·replace h:=h.1 b
   refine c7 (m7 _ _ (vB true) rfl) (Z5 (λe=>?_) (λe=>by cases e))
   refine c7 (m7 _ _ (vi ((a:Nat):Int)) rfl) (c7 (m7 _ _ (Value.int .i32 ((Utf8.decode x0 a).1:Int)) rfl) (c7 pNe ?_))
   refine a1L h (λ_ h=>?_) (λ_ h=>?_)
   ·exact hn2 (a+(Utf8.decode x0 a).2) _ _ h c
   ·obtain ⟨j,k,h⟩:=h
    refine c7 (c8J x0 underlying9 j k) (f7 call123 h c ?_)
    rintro _ l _ t d _ _ ⟨m,n,rfl,rfl,h⟩
    refine c7 (m7 _ _ (Value.int .i32 m) rfl) (c7 (m7 _ _ (vi n) rfl) (c7 pEq ?_))
    refine j7 h (λ_ h=>?_) (λ_ h=>?_)
    ·exact hR _ l _ _ d.drop ⟨_,_,rfl,rfl,h⟩
    ·exact hn2 (a+(Utf8.decode x0 a).2) _ _ h d
  ·replace h:=h.2 b
   refine c7 (m7 _ _ (vB false) rfl) (Z5 (λe=>by cases e) (λe=>?_))
   exact hx1 _ _ (hj1 H _ I.drop h)
def b2w(x0:Int)(H)(K:KT Bool):=
 K (!decide (x0=10)) H
theorem b2x(x0){H K}(h:b2w x0 H K):a3o x0 H K:=by
 refine Ct.of λw0 w ps0 H0 R E I hR=>d9f (c7 pNe ?_)
 exact hR _ H _ _ I ⟨_,rfl,rfl,h⟩
def E7(aa:Int)(B5:BA)(u5:Int)(A9)(L2:(List d6))(H)(K:BA->i8->(List d6)->Hp->Prop):=
 (0:Int)<=aa/\(aa:Int)<=u5/\(u5:Int)<=B5.size/\
 K (B5.extract (aa:Int).toNat (u5:Int).toNat) (i8.mk B5 u5 A9 sN) L2 H
def E8(Q5:Int)(X0:Int)(G4:Bool)(B4:BA)(u6:Int)(z8)(A4:(List d6))(H)(n2:KT (Int×Bool×BA×Int×f8×(List d6)))(K:BA->i8->(List d6)->Hp->Prop):=
 TG (G4=true) (a3p X0 H) false H (λ(b:Bool)(c:Hp)=>
 ((G4&&b)=true->
 O7 (i8.mk B4 u6 z8 sN) A4 c (λa d e=>
 M0 (C9 a) d e (λf g i=>
 n2 (f,g,a.fs,a.fn,a.fat,d) i)))/\
 ((G4&&b)=false->
 E7 Q5 B4 u6 z8 A4 c K))
def R4(x0:i8)(a:(List d6))(H)(K:BA->i8->(List d6)->Hp->Prop):=
 M0 (C9 x0) a H (λb c d=>
 TL ((b,c,x0.fs,x0.fn,x0.fat,a):Int×Bool×BA×Int×f8×(List d6)) d λ(s:Int×Bool×BA×Int×f8×(List d6)) H n2=>E8 x0.fn s.1 s.2.1 s.2.2.1 s.2.2.2.1 s.2.2.2.2.1 s.2.2.2.2.2 H n2 K)
theorem a3P(x0 f){H K}(h:R4 x0 f H K):M7 x0 f H K:=by
 intro g0 o p q
 refine Ct.of λw0 w ps0 H0 R E I hR=>c0l ?_
 unfold R4 at h
 unfold c6v
 refine c7 (t7 _) (c7 a1b (d7 (l1 isAgg3 I rfl) ?_))
 have hj1:∀B5 u5(A9:f8)L2 bb T0 H w,RowL 127 5 m8 bb L2 T0->Inv w0 ps0 H0 H [bx g0 167 [(wS B5),(vi u5),(vi A9.Q3),(vi A9.Z6),(vs bb)],T0] w->E7 x0.fn B5 u5 A9 L2 H K->a9P (pt g0) (vi x0.fn) w R E:=by
  intro B5 u5 A9 L2 bb T0 H w bc I h
  unfold a9P
  intro _
  unfold E7 at h
  refine L6 I λau g=>g8 (t7 _) (g8 b0s ?_)
  refine g8 (t7 _) (g8 a1b ?_)
  refine s7 (l1 isAgg9 g rfl) (s7 (l1 isAgg3 g rfl) ?_)
  obtain ⟨af,ag,ah,h⟩:=h
  exact g8 (b7E B5 underlying9 af ag ah) (hR _ H _ _ ((g.bring 1).bring 1) ⟨(B5.extract (x0.fn:Int).toNat (u5:Int).toNat),(i8.mk B5 u5 A9 sN),L2,bb,T0,rfl,rfl,bc,h⟩)
 refine u7 λj1 hx1=>f7 call91 (h g0 o p q) ((I.bring 1).bring 1) ?_
 rintro _ ai _ av aj _ _ ⟨r,t,rfl,rfl,h⟩
 refine c7 (m7 _ _ (Value.int .i32 r) rfl) (c7 (m7 _ _ (vB t) rfl) ?_)
 obtain ⟨i,c,ak,al⟩:=h
 refine G6 (J:=λn l w=>∃(s:Int×Bool×BA×Int×f8×(List d6))(H:Hp)(U3:Sl)(N2:Frag),n=c s/\l=(match s with | (X0,G4,B4,u6,z8,A4)=>[(Value.int .i32 X0),(vB G4)])/\(match s with | (X0,G4,B4,u6,z8,A4)=>RowL 127 5 m8 U3 A4 N2)/\(match s with | (X0,G4,B4,u6,z8,A4)=>Inv w0 ps0 H0 H [bx g0 167 [(wS B4),(vi u6),(vi z8.Q3),(vi z8.Z6),(vs U3)],N2] w)/\i s H) ⟨_,(r,t,x0.fs,x0.fn,x0.fat,f),ai,o,p,rfl,rfl,q,((aj.bring 1).bring 1),ak⟩ ?_
 rintro aw ax w next2 ⟨⟨X0,G4,B4,u6,z8,A4⟩,H,U3,N2,rfl,j,W9,I,am⟩ hn2
 obtain ⟨e6,e7⟩:=lE2 j
 simp only [e6,e7]
 obtain ⟨n2,hm2,h⟩:=tlA (B:=λn2=>E8 x0.fn X0 G4 B4 u6 z8 A4 H n2 K) (al (X0,G4,B4,u6,z8,A4) H) am
 unfold b6Z
 unfold E8 at h
 simp only [K6]
 refine Q4 [] (λd:Bool=>(vB d)) h I (λz h=>by simp only [p6 z];exact R6 call126 h I) λd k an e v y h=>?_
 refine c7 (M3 _ _) (t6 h (λ_ h=>?_) (λ_ h=>?_))
 ·refine f7 call163 (h g0 U3 N2 W9) ((e.bring 1).bring 1) ?_
  rintro _ _ _ ay ao _ _ ⟨m,ap,aa,ab,rfl,rfl,ac,h⟩
  refine f7 call91 (h g0 aa ab ac) ((ao.bring 1).bring 1) ?_
  rintro _ aq _ az ar _ _ ⟨ad,ae,rfl,rfl,h⟩
  refine c7 (m7 _ _ (Value.int .i32 ad) rfl) (c7 (m7 _ _ (vB ae) rfl) ?_)
  exact hn2 _ _ _ (hm2 _ _ h).2 ⟨(ad,ae,m.fs,m.fn,m.fat,ap),aq,aa,ab,rfl,rfl,ac,((ar.bring 1).bring 1),(hm2 _ _ h).1⟩
 ·exact hx1 _ _ (hj1 B4 u6 z8 A4 U3 N2 k _ W9 ((e.bring 1).bring 1) h)
def a2V(aa:BA)(R9:Int)(ab)(ad:(List d6))(H)(n1:KT (BA×Int×f8×(List d6)))(K:i8->(List d6)->Hp->Prop):=
 Y5 (i8.mk aa R9 ab sN) ad H (λd e=>
 a5E d ⟨#[35]⟩ e (λb c=>
 (b=true->
 Q9 (i8.mk aa R9 ab sN) ad c (λ_ f g i=>
 M7 (C9 f) g i (λ_ a j k=>
 n1 (a.fs,a.fn,a.fat,j) k)))/\
 (b=false->
 K (i8.mk aa R9 ab sN) ad c)))
def a8r(x0)(b:(List d6))(H)(K:i8->(List d6)->Hp->Prop):=
 M7 (C9 x0) b H (λ_ a c d=>
 TL ((a.fs,a.fn,a.fat,c):BA×Int×f8×(List d6)) d λ(s:BA×Int×f8×(List d6)) H n1=>a2V s.1 s.2.1 s.2.2.1 s.2.2.2 H n1 K)
theorem b4i(x0 g){H K}(h:a8r x0 g H K):a1I x0 g H K:=by
 intro g0 k m o
 refine Ct.of λw0 w ps0 H0 R E I hR=>e3G (f7 call128 (h g0 k m o) ((I.bring 1).bring 1) ?_)
 rintro _ p _ an q _ _ ⟨ao,d,r,t,u,rfl,rfl,v,h⟩
 obtain ⟨e,c,y,z⟩:=h
 refine G6 (J:=λn l w=>∃(s:BA×Int×f8×(List d6))(H:Hp)(bf:Sl)(bg:Frag),n=c s/\l=(match s with | (bh,R9,bi,bj)=>[])/\(match s with | (bh,R9,bi,bj)=>RowL 127 5 m8 bf bj bg)/\(match s with | (bh,R9,bi,bj)=>Inv w0 ps0 H0 H [bx g0 167 [(wS bh),(vi R9),(vi bi.Q3),(vi bi.Z6),(vs bf)],bg] w)/\e s H) ⟨_,(d.fs,d.fn,d.fat,r),p,t,u,rfl,rfl,v,((q.bring 1).bring 1),y⟩ ?_
 rintro ap aq w next1 ⟨⟨bh,R9,bi,bj⟩,H,bf,bg,rfl,i,bk,I,aa⟩ hn1
 clear i
 obtain ⟨n1,hm1,h⟩:=tlA (B:=λn1=>a2V bh R9 bi bj H n1 K) (z (bh,R9,bi,bj) H) aa
 refine f7 call129 (h g0 bf bg bk) ((I.bring 1).bring 1) ?_
 rintro _ _ _ ar ab _ _ ⟨au,rfl,rfl,h⟩
 refine f7 call112 h ab ?_
 rintro _ ac _ av j _ _ ⟨aw,rfl,rfl,h⟩
 refine t6 h (λ_ h=>?_) (λ_ h=>?_)
 ·refine f7 call128 (h g0 bf bg bk) ((j.bring 1).bring 1) ?_
  rintro _ _ _ ax ad _ _ ⟨ay,az,ba,ae,af,rfl,rfl,ag,h⟩
  refine f7 call128 (h g0 ae af ag) ((ad.bring 1).bring 1) ?_
  rintro _ ah _ bb ai _ _ ⟨bc,f,aj,ak,al,rfl,rfl,am,h⟩
  exact hn1 _ _ _ (hm1 _ _ h).2 ⟨(f.fs,f.fn,f.fat,aj),ah,ak,al,rfl,rfl,am,((ai.bring 1).bring 1),(hm1 _ _ h).1⟩
 ·exact hR _ ac _ _ ((j.bring 1).bring 1) ⟨(i8.mk bh R9 bi sN),bj,bf,bg,rfl,rfl,bk,h⟩
def L4(aa:Int)(B5:BA)(u5:Int)(A9)(L2:(List d6))(H)(K:BA->i8->(List d6)->Hp->Prop):=
 (0:Int)<=aa/\(aa:Int)<=u5/\(u5:Int)<=B5.size/\
 K (B5.extract (aa:Int).toNat (u5:Int).toNat) (i8.mk B5 u5 A9 sN) L2 H
def L5(Q5:Int)(X0:Int)(G4:Bool)(B4:BA)(u6:Int)(z8)(A4:(List d6))(H)(n2:KT (Int×Bool×BA×Int×f8×(List d6)))(K:BA->i8->(List d6)->Hp->Prop):=
 TG (G4=true) (a5D X0 H) false H (λ(b:Bool)(c:Hp)=>
 ((G4&&b)=true->
 O7 (i8.mk B4 u6 z8 sN) A4 c (λa d e=>
 M0 (C9 a) d e (λf g i=>
 n2 (f,g,a.fs,a.fn,a.fat,d) i)))/\
 ((G4&&b)=false->
 L4 Q5 B4 u6 z8 A4 c K))
def V5(x0:i8)(a:(List d6))(H)(K:BA->i8->(List d6)->Hp->Prop):=
 M0 (C9 x0) a H (λb c d=>
 TL ((b,c,x0.fs,x0.fn,x0.fat,a):Int×Bool×BA×Int×f8×(List d6)) d λ(s:Int×Bool×BA×Int×f8×(List d6)) H n2=>L5 x0.fn s.1 s.2.1 s.2.2.1 s.2.2.2.1 s.2.2.2.2.1 s.2.2.2.2.2 H n2 K)
theorem a5R(x0 f){H K}(h:V5 x0 f H K):V3 x0 f H K:=by
 intro g0 o p q
 refine Ct.of λw0 w ps0 H0 R E I hR=>c0l ?_
 unfold V5 at h
 unfold c6v
 refine c7 (t7 _) (c7 a1b (d7 (l1 isAgg3 I rfl) ?_))
 have hj1:∀B5 u5(A9:f8)L2 bb T0 H w,RowL 127 5 m8 bb L2 T0->Inv w0 ps0 H0 H [bx g0 167 [(wS B5),(vi u5),(vi A9.Q3),(vi A9.Z6),(vs bb)],T0] w->L4 x0.fn B5 u5 A9 L2 H K->a9P (pt g0) (vi x0.fn) w R E:=by
  intro B5 u5 A9 L2 bb T0 H w bc I h
  unfold a9P
  intro _
  unfold L4 at h
  refine L6 I λau g=>g8 (t7 _) (g8 b0s ?_)
  refine g8 (t7 _) (g8 a1b ?_)
  refine s7 (l1 isAgg9 g rfl) (s7 (l1 isAgg3 g rfl) ?_)
  obtain ⟨af,ag,ah,h⟩:=h
  exact g8 (b7E B5 underlying9 af ag ah) (hR _ H _ _ ((g.bring 1).bring 1) ⟨(B5.extract (x0.fn:Int).toNat (u5:Int).toNat),(i8.mk B5 u5 A9 sN),L2,bb,T0,rfl,rfl,bc,h⟩)
 refine u7 λj1 hx1=>f7 call91 (h g0 o p q) ((I.bring 1).bring 1) ?_
 rintro _ ai _ av aj _ _ ⟨r,t,rfl,rfl,h⟩
 refine c7 (m7 _ _ (Value.int .i32 r) rfl) (c7 (m7 _ _ (vB t) rfl) ?_)
 obtain ⟨i,c,ak,al⟩:=h
 refine G6 (J:=λn l w=>∃(s:Int×Bool×BA×Int×f8×(List d6))(H:Hp)(U3:Sl)(N2:Frag),n=c s/\l=(match s with | (X0,G4,B4,u6,z8,A4)=>[(Value.int .i32 X0),(vB G4)])/\(match s with | (X0,G4,B4,u6,z8,A4)=>RowL 127 5 m8 U3 A4 N2)/\(match s with | (X0,G4,B4,u6,z8,A4)=>Inv w0 ps0 H0 H [bx g0 167 [(wS B4),(vi u6),(vi z8.Q3),(vi z8.Z6),(vs U3)],N2] w)/\i s H) ⟨_,(r,t,x0.fs,x0.fn,x0.fat,f),ai,o,p,rfl,rfl,q,((aj.bring 1).bring 1),ak⟩ ?_
 rintro aw ax w next2 ⟨⟨X0,G4,B4,u6,z8,A4⟩,H,U3,N2,rfl,j,W9,I,am⟩ hn2
 obtain ⟨e6,e7⟩:=lE2 j
 simp only [e6,e7]
 obtain ⟨n2,hm2,h⟩:=tlA (B:=λn2=>L5 x0.fn X0 G4 B4 u6 z8 A4 H n2 K) (al (X0,G4,B4,u6,z8,A4) H) am
 unfold b6Z
 unfold L5 at h
 simp only [K6]
 refine Q4 [] (λd:Bool=>(vB d)) h I (λz h=>by simp only [p6 z];exact R6 call164 h I) λd k an e v y h=>?_
 refine c7 (M3 _ _) (t6 h (λ_ h=>?_) (λ_ h=>?_))
 ·refine f7 call163 (h g0 U3 N2 W9) ((e.bring 1).bring 1) ?_
  rintro _ _ _ ay ao _ _ ⟨m,ap,aa,ab,rfl,rfl,ac,h⟩
  refine f7 call91 (h g0 aa ab ac) ((ao.bring 1).bring 1) ?_
  rintro _ aq _ az ar _ _ ⟨ad,ae,rfl,rfl,h⟩
  refine c7 (m7 _ _ (Value.int .i32 ad) rfl) (c7 (m7 _ _ (vB ae) rfl) ?_)
  exact hn2 _ _ _ (hm2 _ _ h).2 ⟨(ad,ae,m.fs,m.fn,m.fat,ap),aq,aa,ab,rfl,rfl,ac,((ar.bring 1).bring 1),(hm2 _ _ h).1⟩
 ·exact hx1 _ _ (hj1 B4 u6 z8 A4 U3 N2 k _ W9 ((e.bring 1).bring 1) h)
def b1M(x0)(H)(K:KT j8):=
 K (j8.U9 (a0E.mk x0)) H
theorem b8y(x0){H K}(h:b1M x0 H K):b1n x0 H K:=by
 refine Ct.of λw0 w ps0 H0 R E I hR=>d9Z (D3 I rfl λb c a d=>?_)
 refine d7 (lW isAgg115 sizeOf115 rfl a) (c7 (c6r _ _ _ _ _ _ _ _) (c7 (c3O (a0E.mk x0)) ?_))
 exact hR _ H _ _ a.drop ⟨_,rfl,rfl,h⟩
def P5(aa:(List j8))(H)(K:KT Sl):=
 ∀(N5:Sl)(a:Hp),Hle H a->SlH a 1 C0 N5 aa->N5.n<=N5.c->
 K N5 a
def P6(M5:Sl)(aa:Int)(C6:(List j8))(B8:Int)(H)(n2:KT ((List j8)×Int))(K:KT Sl):=
 (B8 < aa->
 (0:Int)<=B8/\(B8:Int) < M5.n/\∃a:l9,EltH H M5 B8 4 (g9 a)/\
 b1o a H (λb c=>
 (C6.length+([b]:List j8).length)*17<=140737488355328/\
 n2 ((C6++[b]),(IntKind.wrap .i64 (B8+1))) c))/\
 (¬(B8 < aa)->
 P5 C6 H K)
def Y9(x0:Sl)(H)(K:KT Sl):=
 TL (([],0):(List j8)×Int) H λ(s:(List j8)×Int) H n2=>P6 x0 (x0.n:Int) s.1 s.2 H n2 K
theorem a3D(x0){H K}(h:Y9 x0 H K):G8 x0 H K:=by
 refine Ct.of λw0 w ps0 H0 R E I hR=>e0b ?_
 have hj1:∀bf N5 Fs5j1 H w,RowL 149 1 C0 N5 bf Fs5j1->Inv w0 ps0 H0 H [Fs5j1] w->P5 bf H K->c9B (vs N5) w R E:=by
  intro bf N5 Fs5j1 H w bg I h
  intro _
  obtain ⟨j,q,r,t,u⟩:=Inv.freezeC I bg (by decide)
  replace h:=h N5 j r t u
  exact hR _ j _ _ q ⟨_,rfl,rfl,h⟩
 refine u7 λj1 hx1=>c7 (a7e _ _ _) ?_
 obtain ⟨f,d,v,y⟩:=h
 refine G6 (J:=λn l w=>∃(s:(List j8)×Int)(H:Hp)(bh:Sl)(Fs5l2:Frag),n=d s/\l=(match s with | (C6,B8)=>[(vs bh),(vi B8)])/\(match s with | (C6,B8)=>RowL 149 1 C0 bh C6 Fs5l2)/\(match s with | (C6,B8)=>Inv w0 ps0 H0 H [Fs5l2] w)/\f s H) ⟨_,([],0),H,sN,[],rfl,rfl,(RowL.nil Y3 a0x),I.nil,v⟩ ?_
 rintro am an w next2 ⟨⟨C6,B8⟩,H,bh,Fs5l2,rfl,g,bi,I,z⟩ hn2
 obtain ⟨e5,e10⟩:=lE2 g
 simp only [e5,e10]
 obtain ⟨n2,hm2,h⟩:=tlA (B:=λn2=>P6 x0 (x0.n:Int) C6 B8 H n2 K) (y (C6,B8) H) z
 refine c7 pLs (j7 h (λ_ h=>?_) (λ_ h=>?_))
 ·obtain ⟨aa,ab,k,i,h⟩:=h
  obtain ⟨ao,ap,ac,i⟩:=i
  refine c7 (Z7 ac _ _ _ _ aa ab) (d7 (ldA (vs:=(g9 k)) isAgg112 sizeOf112 rfl (I.atH i)) ?_)
  refine r8 I zeroValue112 rfl λaq ar ad au=>v8 ad sizeOf112 (vs:=(g9 k)) λav m aw=>d7 (lW isAgg112 sizeOf112 rfl m) (f7 call215 h m ?_)
  rintro _ ae _ ax af _ _ ⟨o,rfl,rfl,h⟩
  refine O0 (e:=149) (c:=C0) (xs:=[o]) af (b7U _) rfl rfl Y3 a0x (nb rfl) λay az ba ag p bb=>?_
  obtain ⟨ah,h⟩:=h
  exact b6U (s:=bh) (xs:=C6) (p.bring 2) bi (ag.srcO ((p.bring 2).bring 1)) ah λai aj bc ak al bd=>c7 pAd (hn2 _ _ _ (hm2 _ _ h).2 ⟨((C6++[o]),(IntKind.wrap .i64 (B8+1))),ae,ai,aj,rfl,rfl,ak,((al.bring 1).drop.bring 1).drop,(hm2 _ _ h).1⟩)
 ·exact hx1 _ _ (hj1 _ _ _ H _ bi I h)
def P9(aa:Int)(ab:Bool)(_:U6)(H)(K:KT Bool):=
 (ab=true->
 K (decide (aa=2)) H)/\
 (ab=false->
 K false H)
def a0s(aa:Int)(ab:Int)(ad:Bool)(a)(H)(K:KT Bool):=
 (ad=true->
 K (decide (aa=1)) H)/\
 (ad=false->
 (ab=6->
 P9 aa (decide (ab=6)) a H K)/\
 (¬(ab=6)->
 (ab=7->
 P9 aa (decide (ab=7)) a H K)/\
 (¬(ab=7)->
 (ab=8->
 P9 aa (decide (ab=8)) a H K)/\
 (¬(ab=8)->
 (ab=9->
 P9 aa (decide (ab=9)) a H K)/\
 (¬(ab=9)->
 P9 aa (decide (ab=10)) a H K)))))
def a0t(aa:Int)(ab:Int)(ad:Bool)(a)(H)(K:KT Bool):=
 (ad=true->
 K (decide (aa=0)) H)/\
 (ad=false->
 (ab=4->
 a0s aa ab (decide (ab=4)) a H K)/\
 (¬(ab=4)->
 a0s aa ab (decide (ab=5)) a H K))
def b0l(x0:U6)(H)(K:KT Bool):=
 a3W (j8.Q2 x0) H (λ_ b a=>
 ((((!decide (x0.C8.d9=1))&&(!decide (x0.C8.A6=0)))||((!b)&&(!decide (x0.C8.o7=⟨#[]⟩))))=true->
 K false a)/\
 ((((!decide (x0.C8.d9=1))&&(!decide (x0.C8.A6=0)))||((!b)&&(!decide (x0.C8.o7=⟨#[]⟩))))=false->
 (x0.C8.d9=1->
 K ((decide (0<=x0.C8.A6))&&(decide ((x0.C8.L8.n:Int)=0))) a)/\
 (¬(x0.C8.d9=1)->
 (x0.C8.d9=2->
 a0t (x0.C8.L8.n:Int) x0.C8.d9 (decide (x0.C8.d9=2)) x0 a K)/\
 (¬(x0.C8.d9=2)->
 a0t (x0.C8.L8.n:Int) x0.C8.d9 (decide (x0.C8.d9=3)) x0 a K))))
theorem b6e(x0){H K}(h:b0l x0 H K):a5L x0 H K:=by
 refine Ct.of λw0 w ps0 H0 R E I hR=>e0d (D3 I rfl λf l i m=>?_)
 refine c7 a2e (c7 a0Z (d7 (l1 isAgg52 i rfl) (c7 (a7e _ _ _) (d7 (lW isAgg253 sizeOf253 rfl i) ?_))))
 refine c7 (b6X x0) (f7 call145 h i ?_)
 rintro _ d _ o c _ _ ⟨j,k,rfl,rfl,h⟩
 refine c7 (m7 _ _ (wS j) rfl) (c7 (m7 _ _ (vB k) rfl) (c7 a2e (c7 W7 (d7 (l1 isAgg3 c rfl) ?_))))
 refine c7 pNe (c7 (Pu.g λa=>by with_reducible exact a2e) ?_)
 refine c7 (Pu.g λa=>by simp only [p6 a];with_reducible exact b0q) ?_
 refine d7 (Ld.g λa=>by simp only [p6 a];exact (l1 isAgg2 c rfl)) ?_
 refine c7 (Pu.g λa=>by simp only [p6 a];with_reducible exact pNe) ?_
 refine c7 (M3 _ _) ?_
 simp only [K6]
 refine c7 (Pu.g λa=>by simp only [p6 a];with_reducible exact (R5 _)) ?_
 simp only [c0e]
 refine c7 (Pu.e (a3h _ _ _) (Pu.g λhb=>by obtain ⟨a,b⟩:=a7r hb;with_reducible exact a2e)) ?_
 refine c7 (Pu.e (a3h _ _ _) (Pu.g λhb=>by obtain ⟨a,b⟩:=a7r hb;simp only [p6 hb];with_reducible exact a4Y)) ?_
 refine d7 (Ld.e (a3h _ _ _) (Ld.g λhb=>by obtain ⟨a,b⟩:=a7r hb;simp only [p6 hb];exact (l1 isAgg9 c rfl))) ?_
 refine c7 (Pu.e (a3h _ _ _) (Pu.g λhb=>by obtain ⟨a,b⟩:=a7r hb;simp only [p6 hb];with_reducible exact (d2a _ _ _ _ _))) ?_
 refine c7 (Pu.g λa=>by simp only [p6 a,b9i a];with_reducible exact (M3 _ _)) ?_
 refine c7 (M6 _ _) (t6 h (λ_ h=>?_) (λ_ h=>?_))
 ·exact hR _ d _ _ c.drop ⟨_,rfl,rfl,h⟩
 ·refine c7 a2e (c7 W7 (d7 (l1 isAgg3 c rfl) (c7 pEq ?_)))
  refine j7 h (λ_ h=>?_) (λ_ h=>?_)
  ·refine c7 a2e (c7 b0q (d7 (l1 isAgg2 c rfl) (c7 pGe ?_)))
   simp only [K6]
   refine c7 (Pu.g λa=>by simp only [p6 a];with_reducible exact pEq) ?_
   exact c7 (M3 _ _) (hR _ d _ _ c.drop ⟨_,rfl,rfl,h⟩)
  ·have hj1:∀aa H w,Inv w0 ps0 H0 H [bx f 253 (g9 x0.C8)] w->a0t (x0.C8.L8.n:Int) x0.C8.d9 aa x0 H K->c9E (vi (x0.C8.L8.n:Int)) (vi x0.C8.d9) (vB aa) w R E:=by
    intro aa H w I h
    intro _
    refine t6 h (λ_ h=>?_) (λ_ h=>?_)
    ·exact c7 pEq (hR _ H _ _ I.drop ⟨_,rfl,rfl,h⟩)
    ·have hj2:∀ab H w,Inv w0 ps0 H0 H [bx f 253 (g9 x0.C8)] w->a0s (x0.C8.L8.n:Int) x0.C8.d9 ab x0 H K->c9D (vi (x0.C8.L8.n:Int)) (vi x0.C8.d9) (vB ab) w R E:=by
      intro ab H w I h
      intro _
      refine t6 h (λ_ h=>?_) (λ_ h=>?_)
      ·exact c7 pEq (hR _ H _ _ I.drop ⟨_,rfl,rfl,h⟩)
      ·have hj3:∀ad H w,Inv w0 ps0 H0 H [bx f 253 (g9 x0.C8)] w->P9 (x0.C8.L8.n:Int) ad x0 H K->c9C (vi (x0.C8.L8.n:Int)) (vB ad) w R E:=by
        intro ad H w I h
        intro _
        refine t6 h (λ_ h=>?_) (λ_ h=>?_)
        ·exact c7 pEq (hR _ H _ _ I.drop ⟨_,rfl,rfl,h⟩)
        ·exact hR _ H _ _ I.drop ⟨_,rfl,rfl,h⟩
       refine u7 λj3 hx3=>c7 pEq (j7 h (λ_ h=>?_) (λ_ h=>?_))
       ·exact hx3 _ _ (hj3 _ H _ I h)
       ·refine c7 pEq (j7 h (λ_ h=>?_) (λ_ h=>?_))
        ·exact hx3 _ _ (hj3 _ H _ I h)
        ·refine c7 pEq (j7 h (λ_ h=>?_) (λ_ h=>?_))
         ·exact hx3 _ _ (hj3 _ H _ I h)
         ·refine c7 pEq (j7 h (λ_ h=>?_) (λ_ h=>?_))
          ·exact hx3 _ _ (hj3 _ H _ I h)
          ·exact c7 pEq (hx3 _ _ (hj3 _ H _ I h))
     refine u7 λj2 hx2=>c7 pEq (j7 h (λ_ h=>?_) (λ_ h=>?_))
     ·exact hx2 _ _ (hj2 _ H _ I h)
     ·exact c7 pEq (hx2 _ _ (hj2 _ H _ I h))
   refine u7 λj1 hx1=>c7 pEq (j7 h (λ_ h=>?_) (λ_ h=>?_))
   ·exact hx1 _ _ (hj1 _ d _ c h)
   ·exact c7 pEq (hx1 _ _ (hj1 _ d _ c h))
def a9w(x0:a0E)(H)(K:KT Sl):=
 G8 x0.C3.z7 H (λd e=>
 M4 x0.C3.E9 e (λf g=>
 ∀(a:Sl)(b:Hp),Hle g b->SlH b 1 csl a [d,f]->a.n<=a.c->
 L3 a b (λi j=>
 K i j)))
theorem b5O(x0){H K}(h:a9w x0 H K):a9h x0 H K:=by
 refine Ct.of λw0 w ps0 H0 R E I hR=>e0g (D3 I rfl λv y b z=>?_)
 refine L6 b λaa a=>g8 a3H (g8 a8u ?_)
 refine g8 a3H (g8 a1v ?_)
 refine s7 (l1 isAgg52 a rfl) (s7 (l1 isAgg53 a rfl) ?_)
 refine f7 call214 h a ?_
 rintro _ _ _ ab d _ f ⟨g,rfl,rfl,h⟩
 refine ⟨(f _ a.lt1 (Inv.V1 (Fi:=[]) a)),?_⟩
 refine f7 call212 h d ?_
 rintro _ _ _ ac i _ _ ⟨j,rfl,rfl,h⟩
 refine O0 (e:=146) (c:=csl) (xs:=[g,j]) i (c6l _ _ _ _ _ _) rfl rfl c0f c0g (nb rfl) λk ad ae l m af=>?_
 obtain ⟨n,o,p,q,r⟩:=Inv.freezeC m l (by decide)
 replace h:=h k n p q r
 refine f7 call74 h o ?_
 rintro _ s _ ag t _ _ ⟨u,rfl,rfl,h⟩
 exact hR _ s _ _ t.drop ⟨u,rfl,rfl,h⟩
open Go.RowKit
inductive Lab where
 | decl (size:Int) (name:BA)
 | stmt (kind:Int) (name:BA) (e c t f:Nat)
 | cond (kind op:Int) (e p:Nat)
 | expr (kind num:Int) (name:BA) (n:Nat)
inductive PT where
 | mk (l:Lab) (cs:List PT)
def PT.lab:PT->Lab | .mk l _=>l
def PT.kids:PT->List PT | .mk _ cs=>cs
abbrev big:Nat:=1099511627776
inductive EH (H:Hp):l9->PT->Prop
 | mk {e:l9} {xs:List l9} {ts:List PT}:SlH H 4 g9 e.L8 xs->xs.length<=big->xs.length=ts.length->(∀(i:Nat)(x:l9)(t:PT),xs[i]? = some x->ts[i]? = some t->EH H x t)->EH H e (.mk (.expr e.d9 e.A6 e.o7 ts.length) ts)
inductive CH (H:Hp):p5->PT->Prop
 | mk {c:p5} {xs:List l9} {ts:List PT} {ys:List p5} {us:List PT}:SlH H 4 g9 c.z7 xs->xs.length<=big->C4 (EH H) xs ts->SlH H 4 l7 c.E9 ys->ys.length<=big->ys.length=us.length->(∀(i:Nat)(x:p5)(t:PT),ys[i]? = some x->us[i]? = some t->CH H x t)->CH H c (.mk (.cond c.d9 c.fOp ts.length us.length) (ts++us))
inductive SH (H:Hp):i6->PT->Prop
 | mk {s:i6} {xs:List l9} {ts:List PT} {ys:List p5} {us:List PT} {zs bs:List i6} {vs ws:List PT}:SlH H 4 g9 s.z7 xs->xs.length<=big->C4 (EH H) xs ts->SlH H 4 l7 s.D4 ys->ys.length<=big->C4 (CH H) ys us->
   SlH H 6 q9 s.T5 zs->zs.length<=big->zs.length=vs.length->(∀(i:Nat)(x:i6)(t:PT),zs[i]? = some x->vs[i]? = some t->SH H x t)->
   SlH H 6 q9 s.T6 bs->bs.length<=big->bs.length=ws.length->(∀(i:Nat)(x:i6)(t:PT),bs[i]? = some x->ws[i]? = some t->SH H x t)->
   SH H s (.mk (.stmt s.d9 s.o7 ts.length us.length vs.length ws.length) (us++(ts++(vs++ws))))
theorem EH.le{H H':Hp}(l:Hle H H'){e:l9}{t:PT}(h:EH H e t):EH H' e t:=by
 induction h with
 | mk hs hb hl _ ih=>exact .mk (hs.le l) hb hl ih
theorem CH.le{H H':Hp}(l:Hle H H'){e:p5}{t:PT}(h:CH H e t):CH H' e t:=by
 induction h with
 | mk hs hb hr hy hc hl _ ih=>exact .mk (hs.le l) hb (hr.mono λ_ _=>EH.le l) (hy.le l) hc hl ih
theorem SH.le{H H':Hp}(l:Hle H H'){e:i6}{t:PT}(h:SH H e t):SH H' e t:=by
 induction h with
 | mk hs hb hr hy hc hrc ha hab hal _ hbs hbb hbl _ ih1 ih2=>exact .mk (hs.le l) hb (hr.mono λ_ _=>EH.le l) (hy.le l) hc (hrc.mono λ_ _=>CH.le l) (ha.le l) hab hal ih1 (hbs.le l) hbb hbl ih2
structure PP where
 decls:List j9
 body:List PT
structure PH (H:Hp) (p:o8) (q:PP):Prop where
 d:SlH H 2 q6 p.a2h q.decls
 bd:q.decls.length<=big
 b:∃xs,SlH H 6 q9 p.a7s xs/\xs.length<=big/\C4 (SH H) xs q.body
theorem PH.le{H H':Hp}{p:o8}{q:PP}(h:PH H p q)(l:Hle H H'):PH H' p q:=by
 obtain ⟨a,b,xs,c,d,e⟩:=h
 exact ⟨a.le l,b,xs,c.le l,d,e.mono λ_ _=>SH.le l⟩
section
variable {H:Hp}
end
section
variable {H:Hp}
structure W where
 fn:Int
 fdepth:Int
 fbad:Int
def wStep(s:W)(d:Int):W:=if s.fbad=0 then (if s.fn=4096 then ⟨s.fn,s.fdepth,33⟩ else if 64 < d then ⟨s.fn,s.fdepth,32⟩ else ⟨s.fn+1,if d > s.fdepth then d else s.fdepth,0⟩) else s
mutual
def wT:PT->Int->W->W
 | .mk _ cs,d,s=>wTs cs (d+1) (wStep s d)
def wTs:List PT->Int->W->W
 | [],_,s=>s
 | t::ts,d,s=>wTs ts d (wT t d s)
end
def wok(s:W):Prop:=0<=s.fn/\s.fn<=4096
theorem d5v{s:W}{d:Int}(h:wok s):wok (wStep s d):=by
 unfold wStep
 repeat' split
 all_goals first | exact h | (unfold wok at h ⊢;dsimp only;omega)
mutual
theorem e6B:∀(t:PT)(d:Int)(s:W),wok s->wok (wT t d s)
 | .mk _ cs,d,s,h=>by rw [wT];exact c6A cs _ _ (d5v h)
theorem c6A:∀(ts:List PT)(d:Int)(s:W),wok s->wok (wTs ts d s)
 | [],_,s,h=>by rw [wTs];exact h
 | t::ts,d,s,h=>by rw [wTs];exact c6A ts d _ (e6B t d s h)
end
mutual
theorem e4p:∀(t:PT)(d:Int)(s:W),s.fbad≠0->wT t d s=s
 | .mk _ cs,d,s,h=>by
  have:wStep s d=s:=by unfold wStep;rw [if_neg h]
  rw [wT,this];exact a9T cs _ _ h
theorem a9T:∀(ts:List PT)(d:Int)(s:W),s.fbad≠0->wTs ts d s=s
 | [],_,s,h=>by rw [wTs]
 | t::ts,d,s,h=>by rw [wTs,e4p t d s h];exact a9T ts d s h
end
def dT(d:j9):PT:=.mk (.decl d.D2 d.o7) []
def PP.nodes(q:PP):List PT:=q.decls.map dT++q.body
def w0S:W:=⟨0,0,0⟩
end
end Go.Proofs.YthjlehnccgjpoaaGreatDoor
