/- Typed formulas of the program's functions, and the theorems that the contracts follow from them; printed by lift.py off the code. -/
import Derived.Test.YthaaobpfbgcfiaaGreatDooryWV1
namespace Go.Proofs.YthaaobpfbgcfiaaGreatDoor
open Go.RowKit
set_option maxRecDepth 100000
set_option maxHeartbeats 2000000
def a6q(x0:Int)(x1:Int)(H:Hp)(K:Bool→Hp→Prop):Prop:=
 K (decide (x0=x1)) H
theorem b0Z(x0 x1){H K}(h:a6q x0 x1 H K):a6f x0 x1 H K:=by
 refine Ct.of fun w0 w ps0 H0 R E I hR=>c7r ?_
 refine b6 pEq ?_
 exact hR _ H _ _ I ⟨_,rfl,rfl,h⟩
def b0D(x0:Int)(x1:Int)(H:Hp)(K:Int→Int→Hp→Prop):Prop:=
 ((((decide (x0 < 0)) != (decide (x1 < 0)))&&((decide ((IntKind.wrap .i64 (x0-x1)) < 0)) != (decide (x0 < 0))))=true→
 K 0 1 H)∧
 ((((decide (x0 < 0)) != (decide (x1 < 0)))&&((decide ((IntKind.wrap .i64 (x0-x1)) < 0)) != (decide (x0 < 0))))=false→
 K (IntKind.wrap .i64 (x0-x1)) 0 H)
theorem b5k(x0 x1){H K}(h:b0D x0 x1 H K):a3W x0 x1 H K:=by
 refine Ct.of fun w0 w ps0 H0 R E I hR=>d0W ?_
 refine b6 pSu (b6 pLs (b6 pLs (b6 (b2x _ _ _ _) ?_)))
 simp only [J0]
 refine b6 (Pu.g fun a=>by simp only [j8 a];with_reducible exact pLs) ?_
 refine b6 (Pu.g fun a=>by simp only [j8 a];with_reducible exact pLs) ?_
 refine b6 (Pu.g fun a=>by simp only [j8 a];with_reducible exact (b2x _ _ _ _)) ?_
 refine b6 (E0 _ _) ?_
 refine u5 h (fun _ h=>?_) (fun _ h=>?_)
 ·exact hR _ H _ _ I ⟨0,1,rfl,rfl,h⟩
 ·exact hR _ H _ _ I ⟨(IntKind.wrap .i64 (x0-x1)),0,rfl,rfl,h⟩
def b0E(x0:Int)(H:Hp)(K:Int→Int→Hp→Prop):Prop:=
 a3W 0 x0 H (fun a b c=>
 K a b c)
theorem b5l(x0){H K}(h:b0E x0 H K):a6M x0 H K:=by
 refine Ct.of fun w0 w ps0 H0 R E I hR=>d0U ?_
 refine f9 Tryz.call71 h I ?_
 rintro _ c _ e d _ _ ⟨a,b,rfl,rfl,h⟩
 refine b6 (i5 _ _ (vi a) rfl) (b6 (i5 _ _ (vi b) rfl) ?_)
 exact hR _ c _ _ d ⟨a,b,rfl,rfl,h⟩
def a3L(x0:b9)(a:(List Int))(b:(List (List Int)))(c:(List d5))(x1:b7)(H:Hp)(K:Int→b9→(List Int)→(List (List Int))→(List d5)→Hp→Prop):Prop:=
 P2 (o4 x0) a b c x1 H (fun(d:Int)(e:b9)(f:(List Int))(g:(List (List Int)))(i:(List d5))(j:Hp)=>
 K d (o4 e) f g i j)
theorem a8D(x0 a b c x1){H K}(h:a3L x0 a b c x1 H K):V6 x0 a b c x1 H K:=by
 intro g0 e f g i j k l m n
 refine Ct.of fun w0 w ps0 H0 R E I hR=>d0i ?_
 refine z7 I (cs:=(d7 x1)) rfl fun ag ah d ai=>?_
 refine d4 (lW Tryz.isAgg49 Tryz.sizeOf49 rfl d) ?_
 refine f9 Tryz.call67 (h g0 e f g i j k l m n) ((((d.bring 4).bring 4).bring 4).bring 4) ?_
 rintro _ o _ aj p _ _ ⟨q,r,s,t,u,v,y,z,aa,ab,ac,rfl,rfl,ad,ae,af,h⟩
 exact hR _ o _ _ (((((p.bring 4).drop.bring 3).bring 3).bring 3).bring 3) ⟨q,(o4 r),s,t,u,v,y,z,aa,ab,ac,rfl,rfl,ad,ae,af,h⟩
def a5y(x0:b9)(a:(List Int))(b:(List (List Int)))(c:(List d5))(x1:b7)(H:Hp)(K:Int→b9→(List Int)→(List (List Int))→(List d5)→Hp→Prop):Prop:=
 X1 (o4 x0) a b c x1 H (fun(d:Int)(e:b9)(f:(List Int))(g:(List (List Int)))(i:(List d5))(j:Hp)=>
 K d (o4 e) f g i j)
theorem b0F(x0 a b c x1){H K}(h:a5y x0 a b c x1 H K):a0i x0 a b c x1 H K:=by
 intro g0 e f g i j k l m n
 refine Ct.of fun w0 w ps0 H0 R E I hR=>d0j ?_
 refine z7 I (cs:=(d7 x1)) rfl fun ag ah d ai=>?_
 refine d4 (lW Tryz.isAgg49 Tryz.sizeOf49 rfl d) ?_
 refine f9 Tryz.call67 (h g0 e f g i j k l m n) ((((d.bring 4).bring 4).bring 4).bring 4) ?_
 rintro _ o _ aj p _ _ ⟨q,r,s,t,u,v,y,z,aa,ab,ac,rfl,rfl,ad,ae,af,h⟩
 exact hR _ o _ _ (((((p.bring 4).drop.bring 3).bring 3).bring 3).bring 3) ⟨q,(o4 r),s,t,u,v,y,z,aa,ab,ac,rfl,rfl,ad,ae,af,h⟩
def a0H(c1E:Int)(c1I:Int)(d1G:Int)(b2Q:Int)(a4J:Int)(H:Hp)(K:Int→Int→Hp→Prop):Prop:=
 (((!decide (d1G=0))||(decide (a4J < b2Q)))=true→
 K 0 1 H)∧
 (((!decide (d1G=0))||(decide (a4J < b2Q)))=false→
 K (IntKind.wrap .i64 (c1E*c1I)) 0 H)
def b0G(x0:Int)(x1:Int)(H:Hp)(K:Int→Int→Hp→Prop):Prop:=
 a3f x0 H (fun d e=>
 a3f x1 e (fun f g=>
 a6u d f g (fun a b c=>
 (((decide (x0 < 0)) != (decide (x1 < 0)))=true→
 a0H x0 x1 a b (IntKind.wrap .u64 (9223372036854775807+1)) c K)∧
 (((decide (x0 < 0)) != (decide (x1 < 0)))=false→
 a0H x0 x1 a b 9223372036854775807 c K))))
theorem b5m(x0 x1){H K}(h:b0G x0 x1 H K):a6O x0 x1 H K:=by
 refine Ct.of fun w0 w ps0 H0 R E I hR=>d0X ?_
 refine f9 Tryz.call96 h I ?_
 rintro _ _ _ j f _ _ ⟨k,rfl,rfl,h⟩
 refine f9 Tryz.call96 h f ?_
 rintro _ _ _ l i _ _ ⟨m,rfl,rfl,h⟩
 refine f9 Tryz.call95 h i ?_
 rintro _ d _ n e _ _ ⟨b,c,rfl,rfl,h⟩
 refine b6 (i5 _ _ (Value.int .u64 b) rfl) (b6 (i5 _ _ (Value.int .u64 c) rfl) ?_)
 have hj1:∀(a4J:Int) H w (_:Inv w0 ps0 H0 H [] w) (_:a0H x0 x1 b c a4J H K),c3r (vi x0) (vi x1) (Value.int .u64 b) (Value.int .u64 c) (Value.int .u64 a4J) w R E:=by
  intro a4J H w I h
  intro _
  refine b6 pNe ?_
  simp only [J0]
  refine b6 (Pu.g fun a=>by simp only [j8 a];with_reducible exact pGt) ?_
  refine b6 (M2 _ _) ?_
  refine u5 h (fun _ h=>?_) (fun _ h=>?_)
  ·exact hR _ H _ _ I ⟨0,1,rfl,rfl,h⟩
  ·refine b6 pMu ?_
   exact hR _ H _ _ I ⟨(IntKind.wrap .i64 (x0*x1)),0,rfl,rfl,h⟩
 refine v6 fun j1 hx1=>?_
 refine b6 pLs (b6 pLs (b6 (b2x _ _ _ _) ?_))
 refine u5 h (fun _ h=>?_) (fun _ h=>?_)
 ·refine b6 pAd ?_
  exact hx1 _ _ (hj1 (IntKind.wrap .u64 (9223372036854775807+1)) d _ e h)
 ·exact hx1 _ _ (hj1 9223372036854775807 d _ e h)
def N7(a4J:Int)(r7:l9)(u9:Sl)(u7:Int)(B9:(List Int))(a2l:(List (List Int)))(D2:Sl)(a2m:(List d5))(a:b7)(H:Hp)(K:Int→b9→(List Int)→(List (List Int))→(List d5)→Hp→Prop):Prop:=
 K a4J (b9.mk r7 u9 u7 (Sl.mk none 0 0) (Sl.mk none 0 0) D2 (Sl.mk none 0 0)) B9 a2l a2m H
def X9(x0:b9)(a:(List Int))(b:(List (List Int)))(c:(List d5))(x1:b7)(H:Hp)(K:Int→b9→(List Int)→(List (List Int))→(List d5)→Hp→Prop):Prop:=
 r9 (o4 x0) a b c x1.fA H (fun f g=>
 r9 (o4 x0) a b c x1.fB g (fun i j=>
 a6O f i j (fun k d e=>
 (d=0→
 (0:Int)≤x1.D8∧∃l:Int,(a)[(x1.D8:Int).toNat]? = some l∧
 N7 d x0.fc x0.ffrom x0.fpoint (a.set (x1.D8:Int).toNat k) b x0.fscript c x1 e K)∧
 (¬(d=0)→
 N7 d x0.fc x0.ffrom x0.fpoint a b x0.fscript c x1 e K))))
theorem a3b(x0 i j k x1){H K}(h:X9 x0 i j k x1 H K):X3 x0 i j k x1 H K:=by
 intro g0 a l c d e f b n p
 refine Ct.of fun w0 w ps0 H0 R E I hR=>b1G ?_
 refine z7 I (cs:=(d7 x1)) rfl fun z ah aa ai=>?_
 refine C6 aa fun aj g=>?_
 refine d6 M3 ?_
 refine d6 Q6 ?_
 refine i8 (ldA Tryz.isAgg47 Tryz.sizeOf47 rfl (g.at1 (o:=6) (vs:=(m4 x1.fA)) (nb rfl) rfl)) ?_
 refine i8 (ldA Tryz.isAgg47 Tryz.sizeOf47 rfl (g.at1 (o:=8) (vs:=(m4 x1.fB)) (nb rfl) rfl)) ?_
 refine f9 Tryz.call45 (h g0 a l c d e f b n p) ((((g.bring 4).bring 4).bring 4).bring 4) ?_
 rintro _ _ _ ak ab _ ac ⟨al,rfl,rfl,h⟩
 refine ⟨(ac _ g.lt1 (Inv.E1 (Fi:=[bx g0 78 (m9 x0 a c e),l,d,f]) ((((g.bring 4).bring 4).bring 4).bring 4))),?_⟩
 refine f9 Tryz.call45 (h g0 a l c d e f b n p) ((((ab.bring 3).bring 3).bring 3).bring 3) ?_
 rintro _ _ _ am ad _ _ ⟨an,rfl,rfl,h⟩
 refine f9 Tryz.call72 h ad ?_
 rintro _ t _ ao u _ _ ⟨q,m,rfl,rfl,h⟩
 refine d6 (i5 _ _ (vi q) rfl) ?_
 refine d6 (i5 _ _ (vi m) rfl) ?_
 have hj1:∀(r7:l9)(u9:Sl)(u7:Int)(B9:(List Int))(D2:Sl)(E6:Frag) H w (_:RowL 2 1 i6 a B9 E6) (_:Inv w0 ps0 H0 H [bx g0 78 [(vs r7.o9),(vi r7.t8),(vs r7.m8),(vi r7.o7),(vi r7.B6),(vs r7.B5),(vs u9),(vi u7),(vs a),(vs c),(vs D2),(vs e)],bx z 49 (d7 x1),d,f,E6] w) (_:N7 m r7 u9 u7 B9 j D2 k x1 H K),b0j (vi m) w R E:=by
  intro r7 u9 u7 B9 D2 E6 H w a2o I h
  intro _
  exact hR _ H _ _ (((((I.bring 1).drop.bring 2).bring 2).bring 3).bring 3) ⟨m,(b9.mk r7 u9 u7 (Sl.mk none 0 0) (Sl.mk none 0 0) D2 (Sl.mk none 0 0)),B9,j,k,a,E6,c,d,e,f,rfl,rfl,a2o,n,p,h⟩
 refine v6 fun j1 hx1=>?_
 refine b6 pEq ?_
 refine g7 h (fun _ h=>?_) (fun _ h=>?_)
 ·refine C6 u fun ap r=>?_
  refine d6 (m7 _) ?_
  refine d6 a0h ?_
  refine d6 U8 ?_
  refine i8 (l1 Tryz.isAgg26 r rfl) ?_
  refine i8 (l1 Tryz.isAgg3 (r.bring 4) rfl) ?_
  obtain ⟨v,aq,s,h⟩:=h
  obtain ⟨ar,au,y,av⟩:=b.addr s
  refine d6 (E3 y _ _ _ _ v (b.lt v s)) ?_
  refine a1p (x:=q) (r.bring 1) b y (List.getElem?_eq_some_iff.1 s).1 Tryz.sizeOf2 rfl fun ae aw af ag ax=>?_
  exact hx1 _ _ (hj1 x0.fc x0.ffrom x0.fpoint (i.set (x1.D8:Int).toNat q) x0.fscript ae t _ af ((((ag.bring 3).bring 3).bring 4).bring 4) h)
 ·exact hx1 _ _ (hj1 x0.fc x0.ffrom x0.fpoint i x0.fscript l t _ b (((((u.bring 1).bring 3).bring 3).bring 4).bring 4) h)
def a7G(x0:Int)(x1:Int)(H:Hp)(K:Int→Hp→Prop):Prop:=
 (x1=0→
 K 2 H)∧
 (¬(x1=0)→
 (((decide (x0=(-9223372036854775808)))&&(decide (x1=(-1))))=true→
 K 1 H)∧
 (((decide (x0=(-9223372036854775808)))&&(decide (x1=(-1))))=false→
 K 0 H))
theorem b2R(x0 x1){H K}(h:a7G x0 x1 H K):a1N x0 x1 H K:=by
 refine Ct.of fun w0 w ps0 H0 R E I hR=>d1z ?_
 refine b6 pEq ?_
 refine g7 h (fun _ h=>?_) (fun _ h=>?_)
 ·exact hR _ H _ _ I ⟨2,rfl,rfl,h⟩
 ·refine b6 pEq ?_
  simp only [J0]
  refine b6 (Pu.g fun a=>by simp only [j8 a];with_reducible exact pEq) ?_
  refine b6 (E0 _ _) ?_
  refine u5 h (fun _ h=>?_) (fun _ h=>?_)
  ·exact hR _ H _ _ I ⟨1,rfl,rfl,h⟩
  ·exact hR _ H _ _ I ⟨0,rfl,rfl,h⟩
def a4R(x0:b9)(b:(List Int))(c:(List (List Int)))(e:(List d5))(x1:b7)(H:Hp)(K:Int→b9→(List Int)→(List (List Int))→(List d5)→Hp→Prop):Prop:=
 (0:Int)≤x1.P9∧∃d:List Int,(c)[(x1.P9:Int).toNat]? = some d∧
 r9 (o4 x0) b c e x1.fA H (fun a f=>
 (((decide (a < 0))||(decide ((d.length:Int)≤a)))=true→
 K 3 (o4 x0) b c e f)∧
 (((decide (a < 0))||(decide ((d.length:Int)≤a)))=false→
 (0:Int)≤a∧∃g:Int,(d)[(a:Int).toNat]? = some g∧
 (0:Int)≤x1.D8∧∃i:Int,(b)[(x1.D8:Int).toNat]? = some i∧
 K 0 (o4 x0) (b.set (x1.D8:Int).toNat g) c e f))
theorem a9I(x0 i j k x1){H K}(h:a4R x0 i j k x1 H K):Z5 x0 i j k x1 H K:=by
 intro g0 l u m ae n p d y z
 refine Ct.of fun w0 w ps0 H0 R E I hR=>d0p ?_
 refine z7 I (cs:=(d7 x1)) rfl fun ba bb af bc=>?_
 refine d4 (lW Tryz.isAgg49 Tryz.sizeOf49 rfl af) ?_
 refine q9 (cap:=[]) (fun args w=>Tryz.call75 args w) ?_
 refine c3s ?_
 refine z7 af (cs:=(d7 x1)) rfl fun bd be ar bf=>?_
 refine C6 ar fun bg q=>?_
 refine d6 M3 ?_
 refine d6 (m7 _) ?_
 refine d6 a7l ?_
 refine d6 a5S ?_
 refine i8 (ldA Tryz.isAgg47 Tryz.sizeOf47 rfl (q.at1 (o:=6) (vs:=(m4 x1.fA)) (nb rfl) rfl)) ?_
 refine i8 (l1 Tryz.isAgg30 (q.bring 2) rfl) ?_
 refine i8 (l1 Tryz.isAgg3 q rfl) ?_
 obtain ⟨ag,bh,ah,h⟩:=h
 obtain ⟨bi,au,ai,aj,ak,f,r,b,av,al,c⟩:=RowsL.open_ y (q.bring 4) ah
 obtain ⟨bj,bk,aa,bl⟩:=f.addr r
 refine d6 (b2o aa _ _ _ _ ag (f.lt ag r)) ?_
 refine i8 (ld1 (v:=(vs au)) Tryz.isAgg26 (f.atW c aa r)) ?_
 refine f9 Tryz.call45 (h g0 l u m (ai++(aj++ak)) n p d (RowsL.same (RowsL.b5J f r b av) ah) z) (((((((c.bring 2).bring 2).bring 2).a3e.bring 5).bring 1).bring 5).bring 5) ?_
 rintro _ am _ bm s _ aw ⟨bn,rfl,rfl,h⟩
 refine ⟨(RowL.keepF f aa c (s.bring 2).a6Y),(aw _ ((((c.bring 2).bring 2).bring 2).a3e.bring 1).lt1 (Inv.E1 (Fi:=[bx g0 78 (m9 x0 l m n),u,(ai++(aj++ak)),p]) ((((((((c.bring 2).bring 2).bring 2).a3e.bring 1).bring 5).bring 2).bring 5).bring 5))),((s.bring 0).hp1.trans ((((c.bring 2).bring 2).bring 2).a3e.bring 3).hp1.symm),?_⟩
 refine b6 pLs ?_
 simp only [J0]
 refine b6 (Pu.g fun a=>by simp only [j8 a];with_reducible exact (a3S Tryz.underlying26 b)) ?_
 refine b6 (Pu.g fun a=>by simp only [j8 a];with_reducible exact pGe) ?_
 refine b6 (M2 _ _) ?_
 refine u5 h (fun _ h=>?_) (fun _ h=>?_)
 ·refine b6 (b5P _ _) ?_
  refine N9 (fun e=>?_) (fun e=>by cases e)
  exact hR _ am _ _ (((((((((((s.bring 2).a6Y.bring 2).bring 2).bring 2).a3e.permF al).bring 4).drop.bring 4).drop.bring 3).bring 1).bring 3).bring 3) ⟨3,(o4 x0),i,j,k,l,u,m,ae,n,p,rfl,rfl,d,y,z,h⟩
 ·obtain ⟨an,ab,ac,h⟩:=h
  obtain ⟨bo,bp,ao,bq⟩:=b.addr ac
  refine b6 (E3 ao _ _ _ _ an (b.lt an ac)) (b6 (b5Q _ _ _) ?_)
  refine N9 (fun e=>by cases e) (fun e=>?_)
  refine C6 (s.bring 2).a6Y fun br t=>?_
  refine d6 (m7 _) ?_
  refine d6 a0h ?_
  refine d6 U8 ?_
  refine d6 (m7 _) ?_
  refine i8 (l1 Tryz.isAgg26 (t.bring 3) rfl) ?_
  refine i8 (l1 Tryz.isAgg3 (t.bring 7) rfl) ?_
  refine i8 (ld1 (v:=(vi ab)) Tryz.isAgg2 (b.atW (t.bring 1) ao ac)) ?_
  obtain ⟨ap,bs,ad,h⟩:=h
  obtain ⟨bt,bu,aq,bv⟩:=d.addr ad
  refine d6 (E3 aq _ _ _ _ ap (d.lt ap ad)) ?_
  refine a1p (x:=ab) (t.bring 4) d aq (List.getElem?_eq_some_iff.1 ad).1 Tryz.sizeOf2 rfl fun ax bw ay az bz=>?_
  exact hR _ am _ _ ((((((((((az.bring 3).bring 3).bring 3).a3e.permF al).bring 4).drop.bring 4).drop.bring 3).bring 1).bring 2).bring 3) ⟨0,(o4 x0),(i.set (x1.D8:Int).toNat ab),j,k,l,ax,m,ae,n,p,rfl,rfl,ay,y,z,h⟩
def a3M(x0:l7)(x1:Int)(H:Hp)(K:Bool→Hp→Prop):Prop:=
 K ((decide (0≤x1))&&(decide (x1 < (IntKind.wrap .i64 ((x0.y8.o9.n:Int)+x0.y8.t8))))) H
theorem a8E(x0 x1){H K}(h:a3M x0 x1 H K):V8 x0 x1 H K:=by
 refine Ct.of fun w0 w ps0 H0 R E I hR=>d0O ?_
 refine z7 I (cs:=(s7 x0.y8)) rfl fun c d b e=>?_
 refine b6 pGe ?_
 simp only [J0]
 refine b6 (Pu.g fun a=>by with_reducible exact a6E) ?_
 refine b6 (Pu.g fun a=>by simp only [j8 a];with_reducible exact a3U) ?_
 refine d4 (Ld.g fun a=>by simp only [j8 a];exact (l1 Tryz.isAgg36 b rfl)) ?_
 refine b6 (Pu.g fun a=>by simp only [j8 a];with_reducible exact (a2G _ _ _)) ?_
 refine b6 (Pu.g fun a=>by with_reducible exact a6E) ?_
 refine b6 (Pu.g fun a=>by simp only [j8 a];with_reducible exact a2F) ?_
 refine d4 (Ld.g fun a=>by simp only [j8 a];exact (l1 Tryz.isAgg3 b rfl)) ?_
 refine b6 (Pu.g fun a=>by simp only [j8 a];with_reducible exact pAd) ?_
 refine b6 (Pu.g fun a=>by simp only [j8 a];with_reducible exact pLs) ?_
 refine b6 (E0 _ _) ?_
 exact hR _ H _ _ b.drop ⟨_,rfl,rfl,h⟩
def a4w(x0:l7)(x1:o3)(H:Hp)(K:Bool→Hp→Prop):Prop:=
 TG ((decide (x1.A8=(-1)))=false) (V8 x0 x1.A8 H) false H (fun(a:Bool)(b:Hp)=>
 K ((decide (x1.A8=(-1)))||(a&&(decide (x1.s8=0)))) b)
theorem a9f(x0 x1){H K}(h:a4w x0 x1 H K):W8 x0 x1 H K:=by
 refine Ct.of fun w0 w ps0 H0 R E I hR=>d0Q ?_
 refine z7 I (cs:=(s7 x0.y8)) rfl fun o p m q=>?_
 refine z7 m (cs:=(m4 x1)) rfl fun r s c t=>?_
 refine b6 a5Q (d4 (l1 Tryz.isAgg3 c rfl) (b6 pEq ?_))
 refine d4 (Ld.g fun a=>by exact (lW Tryz.isAgg107 Tryz.sizeOf107 rfl (c.bring 1))) ?_
 refine b6 (Pu.g fun a=>by with_reducible exact a5Q) ?_
 refine d4 (Ld.g fun a=>by simp only [j8 a];exact (l1 Tryz.isAgg3 c rfl)) ?_
 refine V4 [] (fun f:Bool=>(vB f)) h c (fun a h=>by simp only [j8 a];exact V9 Tryz.call62 h c) fun f i n d k l h=>?_
 simp only [J0,b4f]
 refine b6 (Pu.e (a1o _ _ _) (Pu.g fun hb=>by obtain ⟨a,b⟩:=a4M hb;with_reducible exact b5O)) ?_
 refine d4 (Ld.e (a1o _ _ _) (Ld.g fun hb=>by obtain ⟨a,b⟩:=a4M hb;simp only [j8 hb];exact (l1 Tryz.isAgg2 d rfl))) ?_
 refine b6 (Pu.e (a1o _ _ _) (Pu.g fun hb=>by obtain ⟨a,b⟩:=a4M hb;simp only [j8 hb];with_reducible exact pEq)) ?_
 refine b6 (Pu.g fun a=>by simp only [j8 a,b5G a];with_reducible exact (E0 _ _)) ?_
 refine b6 (M2 _ _) ?_
 exact hR _ i _ _ d.drop.drop ⟨_,rfl,rfl,h⟩
def a3y(b5X:(List (List Int)))(d:l9)(H:Hp)(K:Sl→Hp→Prop):Prop:=
 ∀(a:Sl)(b:Hp),Hle H b→SlHH b 1 a1j a b5X→a.n≤a.c→
 K a b
def a3z(A9:Sl)(a1d:Int)(c:l9)(a4S:(List (List Int)))(a1s:Int)(H:Hp)(n2:((List (List Int))×Int)→Hp→Prop)(K:Sl→Hp→Prop):Prop:=
 (a1s < a1d→
 (0:Int)≤a1s∧(a1s:Int) < A9.n∧∃a:b7,EltH H A9 a1s 10 (d7 a)∧
 (0:Int)≤a.B3∧∃b:List Int,(a4S)[(a.B3:Int).toNat]? = some b∧
 (b.length+([a1s]:List Int).length)*9≤140737488355328∧
 n2 ((a4S.set (a.B3:Int).toNat (b++[a1s])),(IntKind.wrap .i64 (a1s+1))) H)∧
 (¬(a1s < a1d)→
 a3y a4S c H K)
def a8F(x0:l9)(H:Hp)(K:Sl→Hp→Prop):Prop:=
 (0:Int)≤x0.o7∧x0.o7*25≤140737488355328∧
 TL (((List.replicate (x0.o7:Int).toNat ([]:List Int)),0):(List (List Int))×Int) H fun(s:(List (List Int))×Int) H n2=>a3z x0.B5 (x0.B5.n:Int) x0 s.1 s.2 H n2 K
theorem b3M(x0){H K}(h:a8F x0 H K):a2J x0 H K:=by
 refine Ct.of fun w0 w ps0 H0 R E I hR=>c9P ?_
 refine z7 I (cs:=(s7 x0)) rfl fun z bm aa bn=>?_
 refine b6 a0Z (d4 (l1 Tryz.isAgg3 aa rfl) ?_)
 obtain ⟨ag,ah,h⟩:=h
 refine c9x aa ag ah fun g ai bo aj ab bp=>?_
 have hj1:∀(b5X:(List (List Int)))(Fs3j1:Frag)(H:Hp)(w:World)(_:RowsL 100 3 1 a1j g b5X Fs3j1)(_:Inv w0 ps0 H0 H [bx z 39 (s7 x0),Fs3j1] w)(_:a3y b5X x0 H K),c2Z (vs g) w R E:=by
  intro b5X Fs3j1 H w d3h I h
  intro _
  obtain ⟨ac,ak,al,am,an⟩:=Inv.freezeLL (I.bring 1) d3h (by decide)
  replace h:=h g ac al am an
  exact hR _ ac _ _ ak.drop ⟨g,rfl,rfl,h⟩
 refine v6 fun j1 hx1=>?_
 refine b6 a1I (d4 (l1 Tryz.isAgg37 (ab.bring 1) rfl) (b6 (b1d _ _ _) ?_))
 obtain ⟨o,i,ao,ap⟩:=h
 refine K7 (J:=fun n l w=>∃(s:(List (List Int))×Int)(H:Hp)(Fs3l2:Frag),n=i s∧l=(match s with | (a4S,a1s)=>[(vi a1s)])∧(match s with | (a4S,a1s)=>RowsL 100 3 1 a1j g a4S Fs3l2)∧(match s with | (a4S,a1s)=>Inv w0 ps0 H0 H [bx z 39 (s7 x0),Fs3l2] w)∧o s H) ⟨_,((List.replicate (x0.o7:Int).toNat ([]:List Int)),0),H,ai,rfl,rfl,(RowsL.made (e:=3) b0g b0h aj),(ab.bring 1),ao⟩ ?_
 rintro bq br w next2 ⟨⟨a4S,a1s⟩,H,Fs3l2,rfl,p,c1K,I,aq⟩ hn2
 dsimp only at p I c1K
 simp only [List.map_cons,List.map_nil,List.cons.injEq,and_true] at p
 have e12:=p
 simp only [e12]
 obtain ⟨n2,hm2,h⟩:∃n2:((List (List Int))×Int)→Hp→Prop,(∀s' H',n2 s' H'→o s' H'∧i s' < i (a4S,a1s))∧a3z x0.B5 (x0.B5.n:Int) x0 a4S a1s H n2 K:=⟨_,fun _ _ h=>h,ap (a4S,a1s) H (fun s' H'=>o s' H'∧i s' < i (a4S,a1s)) aq (fun _ _ a b=>⟨a,b⟩)⟩
 refine b6 pLs ?_
 refine g7 h (fun _ h=>?_) (fun _ h=>?_)
 ·obtain ⟨ar,au,q,r,h⟩:=h
  obtain ⟨bs,bt,av,r⟩:=r
  refine b6 (a5h av _ _ _ _ ar au) (d4 (ldA (vs:=(d7 q)) Tryz.isAgg49 Tryz.sizeOf49 rfl (I.atH r)) ?_)
  refine s6 I Tryz.zeroValue49 (cs:=[(vi 0),(vi 0),(vi 0),(vi 0),(vi 0),(vi 0),(vi 0),(vi 0),(vi 0),(vi 0)]) rfl fun bu bv aw bw=>?_
  refine A5 aw Tryz.sizeOf49 (vs:=(d7 q)) fun bz ax ca=>?_
  refine C6 ax fun cb t=>?_
  refine d6 a1M ?_
  refine d6 a1M ?_
  refine i8 (l1 Tryz.isAgg3 t rfl) ?_
  refine i8 (l1 Tryz.isAgg3 t rfl) ?_
  obtain ⟨k,ad,ay,h⟩:=h
  obtain ⟨cc,ae,cd,ce,az,d,f,ba,bb,cf,j⟩:=RowsL.open_ c1K (t.bring 2) ay
  obtain ⟨cg,ch,u,ci⟩:=d.addr f
  refine d6 (b5a u _ _ _ _ k (d.lt k f)) ?_
  refine i8 (ld1 (v:=(vs ae)) Tryz.isAgg100 (d.atW j u f)) ?_
  refine Y1 (e:=3) (c:=a1j) (xs:=[a1s]) j (b2r _) rfl rfl b0g b0h (nb rfl) fun cj ck cl bc m y=>?_
  refine ⟨(y _ (RowL.c2D d j u)),(y _ (j.bring 3).lt1),(y _ (j.bring 3).lt1),?_⟩
  obtain ⟨bd,h⟩:=h
  refine b6L (s:=ae) (xs:=ad) (m.bring 2) ba (bc.srcO ((m.bring 2).bring 1)) bd fun be bf cm bg bh bi=>?_
  refine ⟨(bi _ ((m.bring 2).bring 4).lt1 (Inv.b8l (((m.bring 2).bring 4).bring 1))),?_⟩
  obtain ⟨cn,co,af,cp⟩:=d.addr f
  refine d6 (b5a af _ _ _ _ k (d.lt k f)) ?_
  refine a1p (x:=be) ((bh.bring 1).drop.bring 1) d af (List.getElem?_eq_some_iff.1 f).1 Tryz.sizeOf100 rfl fun bj cq bk bl cr=>?_
  refine b6 pAd ?_
  exact hn2 _ _ _ (hm2 _ _ h).2 ⟨((a4S.set (q.B3:Int).toNat (ad++[a1s])),(IntKind.wrap .i64 (a1s+1))),H,(bj++(bf++az)),rfl,rfl,(RowsL.b8m bk bg bb),(((((bl.bring 2).bring 2).bring 2).a3e.bring 1).drop.bring 1),(hm2 _ _ h).1⟩
 ·exact hx1 _ _ (hj1 a4S Fs3l2 H _ c1K ((I.bring 1).bring 1) h)
def a4x(H:Hp)(K:Bool→Hp→Prop):Prop:=
 ∀(b:Sl)(e:Hp),Hle H e→SlH e 1 C8 b [⟨#[120]⟩]→b.n≤b.c→
 ∀(d:Sl)(f:Hp),Hle e f→SlH f 10 d7 d [(b7.mk 0 1 2 0 (-1) 0 (o3.mk (-1) 4) (o3.mk (-1) 0))]→d.n≤d.c→
 a1H (l9.mk b 0 (Sl.mk none 0 0) 2 1 d) (Sl.mk none 0 0) 5 f (fun a g i j=>
 ∃k:Int,((((((decide (i=0))&&(decide (g=1)))&&(decide (a.P0=2)))&&(decide (a.J8=1)))&&(decide ((a.o9.n:Int)=1)))=true→(0:Int)≤0∧(0:Int) < a.o9.n∧EltH j a.o9 0 1 [(vi k)])∧
 K ((((((decide (i=0))&&(decide (g=1)))&&(decide (a.P0=2)))&&(decide (a.J8=1)))&&(decide ((a.o9.n:Int)=1)))&&(decide (k=4))) j)
theorem a9g{H K}(h:a4x H K):a1v H K:=by
 refine Ct.of fun w0 w ps0 H0 R E I hR=>d2J ?_
 refine Y1 (e:=9) (c:=C8) (xs:=[⟨#[120]⟩]) I (b6J _) rfl rfl a6A a6B (nb rfl) fun j al am q r an=>?_
 refine b6 (a8X _ _) (b6 (a8o _) (b6 (b3j _ _ _ _ _ _ _) ?_))
 refine Y1 (e:=49) (c:=d7) (xs:=[(b7.mk 0 1 2 0 (-1) 0 (o3.mk (-1) 4) (o3.mk (-1) 0))]) r (b6K _ _ _ _ _ _ _ _ _ _) rfl rfl a2A a2B (nb rfl) fun k ao ap s t aq=>?_
 refine b6 (b4y _ _ _ _ _ _ _ _) ?_
 refine s6 t Tryz.zeroValue39 (cs:=[(nS),(vi 0),(nS),(vi 0),(vi 0),(nS)]) rfl fun ar au u av=>?_
 refine A5 u Tryz.sizeOf39 (vs:=[(vs j),(vi 0),(nS),(vi 2),(vi 1),(vs k)]) fun aw l ax=>?_
 refine d4 (ldA Tryz.isAgg39 Tryz.sizeOf39 rfl (l.at1 (o:=0) (vs:=[(vs j),(vi 0),(nS),(vi 2),(vi 1),(vs k)]) (nb rfl) rfl)) ?_
 obtain ⟨y,z,aa,ab,ac⟩:=Inv.freezeC (l.bring 2) q (by decide)
 replace h:=h j y aa ab ac
 obtain ⟨ad,ae,af,ag,ah⟩:=Inv.freezeC (z.bring 1) s (by decide)
 replace h:=h k ad af ag ah
 refine f9 Tryz.call8 h ae ?_
 rintro _ ai _ ay aj _ _ ⟨i,m,p,rfl,rfl,h⟩
 refine b6 (i5 _ _ _ rfl) (b6 (i5 _ _ (vi m) rfl) (b6 (i5 _ _ (vi p) rfl) ?_))
 refine s6 aj Tryz.zeroValue32 (cs:=[(vi 0),(vi 0),(vi 0),(nS),(nS),(nS)]) rfl fun az ba ak bb=>?_
 refine A5 ak Tryz.sizeOf32 (vs:=(q7 i)) fun bc d bd=>?_
 refine b6 pEq ?_
 simp only [J0]
 refine b6 (Pu.g fun a=>by simp only [j8 a];with_reducible exact pEq) ?_
 refine b6 (E0 _ _) ?_
 refine b6 (Pu.g fun a=>by with_reducible exact a5N) ?_
 refine d4 (Ld.g fun a=>by simp only [j8 a];exact (l1 Tryz.isAgg3 d rfl)) ?_
 refine b6 (Pu.g fun a=>by simp only [j8 a];with_reducible exact pEq) ?_
 refine b6 (E0 _ _) ?_
 refine b6 (Pu.g fun a=>by with_reducible exact a5O) ?_
 refine d4 (Ld.g fun a=>by simp only [j8 a];exact (l1 Tryz.isAgg3 d rfl)) ?_
 refine b6 (Pu.g fun a=>by simp only [j8 a];with_reducible exact pEq) ?_
 refine b6 (E0 _ _) ?_
 refine b6 (Pu.g fun a=>by with_reducible exact a3T) ?_
 refine d4 (Ld.g fun a=>by simp only [j8 a];exact (l1 Tryz.isAgg26 d rfl)) ?_
 refine b6 (Pu.g fun a=>by simp only [j8 a];with_reducible exact (a1T _ _ _)) ?_
 refine b6 (Pu.g fun a=>by simp only [j8 a];with_reducible exact pEq) ?_
 refine b6 (E0 _ _) ?_
 refine b6 (Pu.g fun a=>by with_reducible exact a3T) ?_
 refine d4 (Ld.g fun a=>by simp only [j8 a];exact (l1 Tryz.isAgg26 d rfl)) ?_
 obtain ⟨f,b,h⟩:=h
 obtain ⟨be,bf,b⟩:=b7P b
 refine b6 (Pu.g fun hb=>by have a:=hb;simp only [j8 a];with_reducible exact (E3 (b hb).2.2.1 _ _ _ _ (b hb).1 (b hb).2.1)) ?_
 refine d4 (Ld.g fun hb=>by have a:=hb;simp only [j8 a];with_reducible exact (ld1 (v:=(vi f)) Tryz.isAgg2 (d.atH (b hb).2.2.2))) ?_
 refine b6 (Pu.g fun a=>by simp only [j8 a];with_reducible exact pEq) ?_
 refine b6 (E0 _ _) ?_
 exact hR _ ai _ _ d.drop.drop ⟨_,rfl,rfl,h⟩
def a2L(a:f7)(b:f7)(H:Hp)(K:Bool→Hp→Prop):Prop:=
 K true H
def a2M(b:f7)(a:f7)(a7H:Int)(H:Hp)(n3:Int→Hp→Prop)(K:Bool→Hp→Prop):Prop:=
 (a7H < (a.m8.n:Int)→
 (0:Int)≤a7H∧(a7H:Int) < a.m8.n∧∃c:Sl,EltH H a.m8 a7H 1 [(vs c)]∧
 (0:Int)≤a7H∧(a7H:Int) < b.m8.n∧∃d:Sl,EltH H b.m8 a7H 1 [(vs d)]∧
 Z7 c d H (fun e f=>
 ((!e)=true→
 K false f)∧
 ((!e)=false→
 n3 (IntKind.wrap .i64 (a7H+1)) f)))∧
 (¬(a7H < (a.m8.n:Int))→
 a2L b a H K)
def a0l(a:f7)(b:f7)(H:Hp)(K:Bool→Hp→Prop):Prop:=
 TL (0:Int) H fun(s:Int) H n3=>a2M a b s H n3 K
def a2N(d:f7)(c:f7)(a7I:Int)(H:Hp)(n4:Int→Hp→Prop)(K:Bool→Hp→Prop):Prop:=
 (a7I < (c.K8.n:Int)→
 (0:Int)≤a7I∧(a7I:Int) < c.K8.n∧∃a:d5,EltH H c.K8 a7I 3 (m6 a)∧
 (0:Int)≤a7I∧(a7I:Int) < d.K8.n∧∃b:d5,EltH H d.K8 a7I 3 (m6 b)∧
 (¬(a.b3x=b.b3x∧a.s8=b.s8∧a.b5L=b.b5L)→
 K false H)∧
 (a.b3x=b.b3x∧a.s8=b.s8∧a.b5L=b.b5L→
 n4 (IntKind.wrap .i64 (a7I+1)) H))∧
 (¬(a7I < (c.K8.n:Int))→
 a0l d c H K)
def a3N(x0:f7)(x1:f7)(H:Hp)(K:Bool→Hp→Prop):Prop:=
 TG (((((!decide (x0.P0=x1.P0))||(!decide (x0.a0f=x1.a0f)))||(!decide (x0.J8=x1.J8)))||(!decide ((x0.K8.n:Int)=(x1.K8.n:Int))))=false) (Z7 x0.o9 x1.o9 H) false H (fun(a:Bool)(b:Hp)=>
 (((((((!decide (x0.P0=x1.P0))||(!decide (x0.a0f=x1.a0f)))||(!decide (x0.J8=x1.J8)))||(!decide ((x0.K8.n:Int)=(x1.K8.n:Int))))||(!a))||(!decide ((x0.m8.n:Int)=(x1.m8.n:Int))))=true→
 K false b)∧
 (((((((!decide (x0.P0=x1.P0))||(!decide (x0.a0f=x1.a0f)))||(!decide (x0.J8=x1.J8)))||(!decide ((x0.K8.n:Int)=(x1.K8.n:Int))))||(!a))||(!decide ((x0.m8.n:Int)=(x1.m8.n:Int))))=false→
 TL (0:Int) b fun(s:Int) H n4=>a2N x1 x0 s H n4 K))
theorem a8G(x0 x1){H K}(h:a3N x0 x1 H K):Q1 x0 x1 H K:=by
 refine Ct.of fun w0 w ps0 H0 R E I hR=>d2S ?_
 refine z7 I (cs:=(q7 x0)) rfl fun e ar y au=>?_
 refine z7 y (cs:=(q7 x1)) rfl fun f av b aw=>?_
 refine b6 a5N (d4 (l1 Tryz.isAgg3 (b.bring 1) rfl) (b6 a5N (d4 (l1 Tryz.isAgg3 b rfl) (b6 pNe ?_))))
 refine b6 (Pu.g fun a=>by with_reducible exact a9A) ?_
 refine d4 (Ld.g fun a=>by simp only [j8 a];exact (l1 Tryz.isAgg3 (b.bring 1) rfl)) ?_
 refine b6 (Pu.g fun a=>by with_reducible exact a9A) ?_
 refine d4 (Ld.g fun a=>by simp only [j8 a];exact (l1 Tryz.isAgg3 b rfl)) ?_
 refine b6 (Pu.g fun a=>by simp only [j8 a];with_reducible exact pNe) ?_
 refine b6 (M2 _ _) ?_
 refine b6 (Pu.g fun a=>by with_reducible exact a5O) ?_
 refine d4 (Ld.g fun a=>by simp only [j8 a];exact (l1 Tryz.isAgg3 (b.bring 1) rfl)) ?_
 refine b6 (Pu.g fun a=>by with_reducible exact a5O) ?_
 refine d4 (Ld.g fun a=>by simp only [j8 a];exact (l1 Tryz.isAgg3 b rfl)) ?_
 refine b6 (Pu.g fun a=>by simp only [j8 a];with_reducible exact pNe) ?_
 refine b6 (M2 _ _) ?_
 refine b6 (Pu.g fun a=>by with_reducible exact a5R) ?_
 refine d4 (Ld.g fun a=>by simp only [j8 a];exact (l1 Tryz.isAgg29 (b.bring 1) rfl)) ?_
 refine b6 (Pu.g fun a=>by simp only [j8 a];with_reducible exact (b3D _ _ _)) ?_
 refine b6 (Pu.g fun a=>by with_reducible exact a5R) ?_
 refine d4 (Ld.g fun a=>by simp only [j8 a];exact (l1 Tryz.isAgg29 b rfl)) ?_
 refine b6 (Pu.g fun a=>by simp only [j8 a];with_reducible exact (b3D _ _ _)) ?_
 refine b6 (Pu.g fun a=>by simp only [j8 a];with_reducible exact pNe) ?_
 refine b6 (M2 _ _) ?_
 refine b6 (Pu.g fun a=>by with_reducible exact a3T) ?_
 refine d4 (Ld.g fun a=>by simp only [j8 a];exact (l1 Tryz.isAgg26 (b.bring 1) rfl)) ?_
 refine b6 (Pu.g fun a=>by with_reducible exact a3T) ?_
 refine d4 (Ld.g fun a=>by simp only [j8 a];exact (l1 Tryz.isAgg26 b rfl)) ?_
 refine V4 [] (fun j:Bool=>(vB j)) h b (fun a h=>by simp only [j8 a];exact V9 Tryz.call20 h b) fun j k z c q r h=>?_
 refine b6 (Pu.g fun a=>by simp only [j8 a];with_reducible exact (O4 _)) ?_
 refine b6 (M2 _ _) ?_
 refine b6 (Pu.g fun a=>by with_reducible exact a2I) ?_
 refine d4 (Ld.g fun a=>by simp only [j8 a];exact (l1 Tryz.isAgg30 (c.bring 1) rfl)) ?_
 refine b6 (Pu.g fun a=>by simp only [j8 a];with_reducible exact (b3E _ _ _)) ?_
 refine b6 (Pu.g fun a=>by with_reducible exact a2I) ?_
 refine d4 (Ld.g fun a=>by simp only [j8 a];exact (l1 Tryz.isAgg30 c rfl)) ?_
 refine b6 (Pu.g fun a=>by simp only [j8 a];with_reducible exact (b3E _ _ _)) ?_
 refine b6 (Pu.g fun a=>by simp only [j8 a];with_reducible exact pNe) ?_
 refine b6 (M2 _ _) ?_
 refine u5 h (fun _ h=>?_) (fun _ h=>?_)
 ·exact hR _ k _ _ c.drop.drop ⟨_,rfl,rfl,h⟩
 ·have hj1:∀H w (_:Inv w0 ps0 H0 H [bx f 32 (q7 x1),bx e 32 (q7 x0)] w) (_:a0l x1 x0 H K),c6o (Value.pointer (some ⟨e,0,none⟩)) (Value.pointer (some ⟨f,0,none⟩)) w R E:=by
   intro H w I h
   intro _
   have hj2:∀H w (_:Inv w0 ps0 H0 H [bx f 32 (q7 x1),bx e 32 (q7 x0)] w) (_:a2L x1 x0 H K),c6n w R E:=by
    intro H w I h
    intro _
    exact hR _ H _ _ I.drop.drop ⟨_,rfl,rfl,h⟩
   refine v6 fun j2 hx2=>?_
   refine a2P (σ:=Int) (fun a7H=>[(vi a7H)]) (fun a7H=>[bx f 32 (q7 x1),bx e 32 (q7 x0)]) h rfl ((I.bring 1).bring 1) ?_
   rintro a7H H ax w next3 n3 s I h hn3
   simp only [List.map_cons,List.map_nil,List.cons.injEq,and_true] at s
   have e6:=s
   simp only [e6]
   refine b6 a2I (d4 (l1 Tryz.isAgg30 (I.bring 1) rfl) (b6 (b3E _ _ _) (b6 pLs ?_)))
   refine g7 h (fun _ h=>?_) (fun _ h=>?_)
   ·refine C6 I fun ay i=>?_
    refine d6 a2I ?_
    refine d6 a2I ?_
    refine i8 (l1 Tryz.isAgg30 (i.bring 1) rfl) ?_
    obtain ⟨aa,ab,ac,l,h⟩:=h
    obtain ⟨az,ba,ad,l⟩:=l
    refine d6 (b2o ad _ _ _ _ aa ab) ?_
    refine i8 (ld1 (v:=(vs ac)) Tryz.isAgg26 (i.atH l)) ?_
    refine i8 (l1 Tryz.isAgg30 i rfl) ?_
    obtain ⟨ae,af,ag,m,h⟩:=h
    obtain ⟨bb,bc,ah,m⟩:=m
    refine d6 (b2o ah _ _ _ _ ae af) ?_
    refine i8 (ld1 (v:=(vs ag)) Tryz.isAgg26 (i.atH m)) ?_
    refine f9 Tryz.call20 h i ?_
    rintro _ ai _ bd t _ _ ⟨be,rfl,rfl,h⟩
    refine d6 (O4 _) ?_
    refine u5 h (fun _ h=>?_) (fun _ h=>?_)
    ·exact hR _ ai _ _ t.drop.drop ⟨_,rfl,rfl,h⟩
    ·refine b6 pAd ?_
     exact hn3 (IntKind.wrap .i64 (a7H+1)) _ _ h ((t.bring 1).bring 1)
   ·exact hx2 _ _ (hj2 H _ ((I.bring 1).bring 1) h)
  refine v6 fun j1 hx1=>?_
  refine a2P (σ:=Int) (fun a7I=>[(vi a7I)]) (fun a7I=>[bx f 32 (q7 x1),bx e 32 (q7 x0)]) h rfl ((c.bring 1).bring 1) ?_
  rintro a7I H bf w next4 n4 u I h hn4
  simp only [List.map_cons,List.map_nil,List.cons.injEq,and_true] at u
  have e5:=u
  simp only [e5]
  refine b6 a5R (d4 (l1 Tryz.isAgg29 (I.bring 1) rfl) (b6 (b3D _ _ _) (b6 pLs ?_)))
  refine g7 h (fun _ h=>?_) (fun _ h=>?_)
  ·refine C6 I fun bg d=>?_
   refine d6 a5R ?_
   refine d6 a5R ?_
   refine i8 (l1 Tryz.isAgg29 (d.bring 1) rfl) ?_
   obtain ⟨aj,ak,al,n,h⟩:=h
   obtain ⟨bh,bi,am,n⟩:=n
   refine d6 (b8z am _ _ _ _ aj ak) ?_
   refine i8 (ldA (vs:=(m6 al)) Tryz.isAgg87 Tryz.sizeOf87 rfl (d.atH n)) ?_
   refine i8 (l1 Tryz.isAgg29 d rfl) ?_
   obtain ⟨an,ao,ap,o,h⟩:=h
   obtain ⟨bj,bk,aq,o⟩:=o
   refine d6 (b8z aq _ _ _ _ an ao) ?_
   refine i8 (ldA (vs:=(m6 ap)) Tryz.isAgg87 Tryz.sizeOf87 rfl (d.atH o)) ?_
   refine d6 (c4I _ _ _ _ _ _ _ _) ?_
   refine a2f h (fun _ h=>?_) (fun _ h=>?_)
   ·exact hR _ H _ _ d.drop.drop ⟨_,rfl,rfl,h⟩
   ·refine b6 pAd ?_
    exact hn4 (IntKind.wrap .i64 (a7I+1)) _ _ h ((d.bring 1).bring 1)
  ·exact hx1 _ _ (hj1 H _ ((I.bring 1).bring 1) h)
def a7V(x0:Int)(H:Hp)(K:Bool→Hp→Prop):Prop:=
 a2u x0 H (fun a b=>
 K ((decide (a=3))||(decide (a=4))) b)
theorem b3m(x0){H K}(h:a7V x0 H K):a4G x0 H K:=by
 refine Ct.of fun w0 w ps0 H0 R E I hR=>c7K ?_
 refine f9 Tryz.call120 h I ?_
 rintro _ c _ e d _ _ ⟨b,rfl,rfl,h⟩
 refine b6 pEq ?_
 simp only [J0]
 refine b6 (Pu.g fun a=>by simp only [j8 a];with_reducible exact pEq) ?_
 refine b6 (M2 _ _) ?_
 exact hR _ c _ _ d ⟨_,rfl,rfl,h⟩
def a0b(H:Hp)(K:Int→Hp→Prop):Prop:=
 K (-1) H
def a2v(d3i:(List ByteArray))(b3H:ByteArray)(b0H:Int)(a2q:Int)(H:Hp)(n2:Int→Hp→Prop)(K:Int→Hp→Prop):Prop:=
 (a2q < b0H→
 (0:Int)≤a2q∧∃a:ByteArray,(d3i)[(a2q:Int).toNat]? = some a∧
 (b3H=a→
 K a2q H)∧
 (¬(b3H=a)→
 n2 (IntKind.wrap .i64 (a2q+1)) H))∧
 (¬(a2q < b0H)→
 a0b H K)
def a3A(x0:(List ByteArray))(x1:ByteArray)(H:Hp)(K:Int→Hp→Prop):Prop:=
 TL (0:Int) H fun(s:Int) H n2=>a2v x0 x1 (x0.length:Int) s H n2 K
theorem a8i(x0 x1){H K}(h:a3A x0 x1 H K):a0M x0 x1 H K:=by
 intro sx0 Fx0 hx0
 refine Ct.of fun w0 w ps0 H0 R E I hR=>c7N ?_
 have hj1:∀H w (_:Inv w0 ps0 H0 H [Fx0] w) (_:a0b H K),c0A w R E:=by
  intro H w I h
  intro _
  exact hR _ H _ _ I ⟨_,rfl,rfl,h⟩
 refine v6 fun j1 hx1=>?_
 refine b6 (a3S Tryz.underlying36 hx0) ?_
 refine a2P (σ:=Int) (fun a2q=>[(vi a2q)]) (fun a2q=>[Fx0]) h rfl I ?_
 rintro a2q H f w next2 n2 b I h hn2
 simp only [List.map_cons,List.map_nil,List.cons.injEq,and_true] at b
 have e8:=b
 simp only [e8]
 refine b6 pLs ?_
 refine g7 h (fun _ h=>?_) (fun _ h=>?_)
 ·obtain ⟨c,e,a,h⟩:=h
  obtain ⟨g,i,d,j⟩:=hx0.addr a
  refine b6 (b8G d _ _ _ _ c (hx0.lt c a)) (d4 (ld1 (v:=(Value.string e)) Tryz.isAgg9 (hx0.atW I d a)) (b6 (a1F _ _ _ _ _) ?_))
  refine g7 h (fun _ h=>?_) (fun _ h=>?_)
  ·exact hR _ H _ _ I ⟨_,rfl,rfl,h⟩
  ·refine b6 pAd ?_
   exact hn2 (IntKind.wrap .i64 (a2q+1)) _ _ h I
 ·exact hx1 _ _ (hj1 H _ I h)
def a2w(x0:(List ByteArray))(x1:ByteArray)(H:Hp)(K:Bool→Hp→Prop):Prop:=
 a0M x0 x1 H (fun a b=>
 K (decide (0≤a)) b)
theorem a7j(x0 x1){H K}(h:a2w x0 x1 H K):R8 x0 x1 H K:=by
 intro sx0 Fx0 hx0
 refine Ct.of fun w0 w ps0 H0 R E I hR=>c7H ?_
 refine f9 Tryz.call121 (h sx0 Fx0 hx0) I ?_
 rintro _ a _ d b _ _ ⟨c,rfl,rfl,h⟩
 refine b6 pGe ?_
 exact hR _ a _ _ b ⟨_,rfl,rfl,h⟩
def a0Q(c6C:Sl)(b5Y:Int)(d:q8)(V1:Int)(L6:(List g8))(H:Hp)(n2:(Int×(List g8))→Hp→Prop)(K:p7→(List g8)→Hp→Prop):Prop:=
 (V1 < b5Y→
 (0:Int)≤V1∧(V1:Int) < c6C.n∧∃a:q8,EltH H c6C V1 4 (j9 a)∧
 T2 (p7.mk (Sl.mk none 0 0)) L6 a H (fun e b c=>
 n2 ((IntKind.wrap .i64 (V1+1)),b) c))∧
 (¬(V1 < b5Y)→
 K (p7.mk (Sl.mk none 0 0)) L6 H)
def M7(a0R:(List g8))(a:q8)(H:Hp)(K:p7→(List g8)→Hp→Prop):Prop:=
 TL ((0,a0R):Int×(List g8)) H fun(s:Int×(List g8)) H n2=>a0Q a.D9 (a.D9.n:Int) a s.1 s.2 H n2 K
def a4T(x0:p7)(a:(List g8))(x1:q8)(H:Hp)(K:p7→(List g8)→Hp→Prop):Prop:=
 (x1.b8=2→
 (a.length+([(g8.mk x1.f8 1)]:List g8).length)*25≤140737488355328∧
 M7 (a++[(g8.mk x1.f8 1)]) x1 H K)∧
 (¬(x1.b8=2)→
 (x1.b8=4→
 (a.length+([(g8.mk x1.f8 2)]:List g8).length)*25≤140737488355328∧
 M7 (a++[(g8.mk x1.f8 2)]) x1 H K)∧
 (¬(x1.b8=4)→
 M7 a x1 H K))
theorem a9J(x0 d x1){H K}(h:a4T x0 d x1 H K):T2 x0 d x1 H K:=by
 intro g0 k ab m
 refine Ct.of fun w0 w ps0 H0 R E I hR=>d0B ?_
 refine z7 I (cs:=(j9 x1)) rfl fun o bf g bg=>?_
 have hj1:∀(a0R:(List g8))(a4g:Sl)(a4h:Frag) H w (_:RowL 97 2 C2 a4g a0R a4h) (_:Inv w0 ps0 H0 H [bx g0 94 [(vs a4g)],bx o 125 (j9 x1),a4h] w) (_:M7 a0R x1 H K),c3k (Value.pointer (some ⟨g0,0,none⟩)) (Value.pointer (some ⟨o,0,none⟩)) w R E:=by
  intro a0R a4g a4h H w b5n I h
  intro _
  refine b6 W0 (d4 (l1 Tryz.isAgg101 (I.bring 1) rfl) (b6 (a1L _ _ _) ?_))
  obtain ⟨p,f,ac,ad⟩:=h
  refine K7 (J:=fun n l w=>∃(s:Int×(List g8))(H:Hp)(a2r:Sl)(a2s:Frag),n=f s∧l=(match s with | (V1,L6)=>[(vi V1)])∧(match s with | (V1,L6)=>RowL 97 2 C2 a2r L6 a2s)∧(match s with | (V1,L6)=>Inv w0 ps0 H0 H [bx g0 94 [(vs a2r)],bx o 125 (j9 x1),a2s] w)∧p s H) ⟨_,(0,a0R),H,a4g,a4h,rfl,rfl,b5n,(((I.bring 2).bring 2).bring 2),ac⟩ ?_
  rintro bh bi w next2 ⟨⟨V1,L6⟩,H,a2r,a2s,rfl,q,a6T,I,ae⟩ hn2
  dsimp only at q I a6T
  simp only [List.map_cons,List.map_nil,List.cons.injEq,and_true] at q
  have e39:=q
  simp only [e39]
  obtain ⟨n2,hm2,h⟩:∃n2:(Int×(List g8))→Hp→Prop,(∀s' H',n2 s' H'→p s' H'∧f s' < f (V1,L6))∧a0Q x1.D9 (x1.D9.n:Int) x1 V1 L6 H n2 K:=⟨_,fun _ _ h=>h,ad (V1,L6) H (fun s' H'=>p s' H'∧f s' < f (V1,L6)) ae (fun _ _ a b=>⟨a,b⟩)⟩
  refine b6 pLs ?_
  refine g7 h (fun _ h=>?_) (fun _ h=>?_)
  ·obtain ⟨af,ag,t,r,h⟩:=h
   obtain ⟨bj,bk,ah,r⟩:=r
   refine b6 (Q0 ah _ _ _ _ af ag) (d4 (ldA (vs:=(j9 t)) Tryz.isAgg125 Tryz.sizeOf125 rfl (I.atH r)) ?_)
   refine s6 I Tryz.zeroValue125 (cs:=[(vi 0),(vi 0),(eS),(nS)]) rfl fun bl bm ai bn=>?_
   refine A5 ai Tryz.sizeOf125 (vs:=(j9 t)) fun bo u bp=>?_
   refine d4 (lW Tryz.isAgg125 Tryz.sizeOf125 rfl u) ?_
   refine f9 Tryz.call49 (h g0 a2r a2s a6T) ((u.bring 3).bring 2) ?_
   rintro _ aj _ bq ak _ _ ⟨br,al,am,an,rfl,rfl,ao,h⟩
   refine b6 pAd ?_
   exact hn2 _ _ _ (hm2 _ _ h).2 ⟨((IntKind.wrap .i64 (V1+1)),al),aj,am,an,rfl,rfl,ao,((((ak.bring 2).drop.bring 1).bring 2).bring 2),(hm2 _ _ h).1⟩
  ·exact hR _ H _ _ (((I.bring 1).drop.bring 1).bring 1) ⟨(p7.mk (Sl.mk none 0 0)),L6,a2r,a2s,rfl,rfl,a6T,h⟩
 refine v6 fun j1 hx1=>?_
 refine b6 M6 (d4 (l1 Tryz.isAgg3 g rfl) (b6 pEq ?_))
 refine g7 h (fun _ h=>?_) (fun _ h=>?_)
 ·refine C6 g fun bs i=>?_
  refine d6 (m7 _) ?_
  refine d6 a1K ?_
  refine d6 a1W ?_
  refine i8 (l1 Tryz.isAgg92 (i.bring 1) rfl) ?_
  refine i8 (l1 Tryz.isAgg9 i rfl) ?_
  refine d6 (a6K _ _) ?_
  refine Y1 (e:=97) (c:=C2) (xs:=[(g8.mk x1.f8 1)]) i (b4g _ _) rfl rfl a4o a4p (nb rfl) fun bt bu bv ap v aq=>?_
  refine ⟨(aq _ (i.bring 1).lt1),?_⟩
  obtain ⟨ar,h⟩:=h
  refine b5R (s:=k) (xs:=d) (v.bring 3) m (ap.srcO ((v.bring 3).bring 1)) ar fun y au bw av aw bz=>?_
  refine d6 (m7 _) ?_
  refine d6 a1K ?_
  refine A5 ((aw.bring 1).drop.bring 2) Tryz.sizeOf92 (vs:=[(vs y)]) fun ca ax cb=>?_
  exact hx1 _ _ (hj1 (d++[(g8.mk x1.f8 1)]) y au H _ av (((ax.bring 1).bring 2).bring 2) h)
 ·refine b6 pEq ?_
  refine g7 h (fun _ h=>?_) (fun _ h=>?_)
  ·refine C6 g fun cc j=>?_
   refine d6 (m7 _) ?_
   refine d6 a1K ?_
   refine d6 a1W ?_
   refine i8 (l1 Tryz.isAgg92 (j.bring 1) rfl) ?_
   refine i8 (l1 Tryz.isAgg9 j rfl) ?_
   refine d6 (a6K _ _) ?_
   refine Y1 (e:=97) (c:=C2) (xs:=[(g8.mk x1.f8 2)]) j (b4g _ _) rfl rfl a4o a4p (nb rfl) fun cd ce cf ay z az=>?_
   refine ⟨(az _ (j.bring 1).lt1),?_⟩
   obtain ⟨ba,h⟩:=h
   refine b5R (s:=k) (xs:=d) (z.bring 3) m (ay.srcO ((z.bring 3).bring 1)) ba fun aa bb cg bc bd ch=>?_
   refine d6 (m7 _) ?_
   refine d6 a1K ?_
   refine A5 ((bd.bring 1).drop.bring 2) Tryz.sizeOf92 (vs:=[(vs aa)]) fun ci be cj=>?_
   exact hx1 _ _ (hj1 (d++[(g8.mk x1.f8 2)]) aa bb H _ bc (((be.bring 1).bring 2).bring 2) h)
  ·exact hx1 _ _ (hj1 d k ab H _ m (((g.bring 2).bring 1).bring 2) h)
def a0S(c6D:Sl)(c6E:Int)(d:y9)(a3m:Int)(L6:(List g8))(H:Hp)(n2:(Int×(List g8))→Hp→Prop)(K:p7→(List g8)→Hp→Prop):Prop:=
 (a3m < c6E→
 (0:Int)≤a3m∧(a3m:Int) < c6D.n∧∃a:y9,EltH H c6D a3m 4 (p5 a)∧
 Z8 (p7.mk (Sl.mk none 0 0)) L6 a H (fun e b c=>
 n2 ((IntKind.wrap .i64 (a3m+1)),b) c))∧
 (¬(a3m < c6E)→
 K (p7.mk (Sl.mk none 0 0)) L6 H)
def a0T(a:y9)(a0R:(List g8))(H:Hp)(K:p7→(List g8)→Hp→Prop):Prop:=
 TL ((0,a0R):Int×(List g8)) H fun(s:Int×(List g8)) H n2=>a0S a.C7 (a.C7.n:Int) a s.1 s.2 H n2 K
def a0U(d1H:Sl)(c6F:Int)(b:y9)(a3o:Int)(a1E:(List g8))(H:Hp)(n3:(Int×(List g8))→Hp→Prop)(K:p7→(List g8)→Hp→Prop):Prop:=
 (a3o < c6F→
 (0:Int)≤a3o∧(a3o:Int) < d1H.n∧∃a:q8,EltH H d1H a3o 4 (j9 a)∧
 T2 (p7.mk (Sl.mk none 0 0)) a1E a H (fun e c d=>
 n3 ((IntKind.wrap .i64 (a3o+1)),c) d))∧
 (¬(a3o < c6F)→
 a0T b a1E H K)
def a4U(x0:p7)(a:(List g8))(x1:y9)(H:Hp)(K:p7→(List g8)→Hp→Prop):Prop:=
 TL ((0,a):Int×(List g8)) H fun(s:Int×(List g8)) H n3=>a0U x1.t7 (x1.t7.n:Int) x1 s.1 s.2 H n3 K
theorem a9K(x0 f x1){H K}(h:a4U x0 f x1 H K):Z8 x0 f x1 H K:=by
 intro g0 v y z
 refine Ct.of fun w0 w ps0 H0 R E I hR=>d0z ?_
 refine z7 I (cs:=(p5 x1)) rfl fun e bc p bd=>?_
 have hj1:∀(a0R:(List g8))(a4g:Sl)(a4h:Frag) H w (_:RowL 97 2 C2 a4g a0R a4h) (_:Inv w0 ps0 H0 H [bx e 122 (p5 x1),bx g0 94 [(vs a4g)],a4h] w) (_:a0T x1 a0R H K),c3j (Value.pointer (some ⟨g0,0,none⟩)) (Value.pointer (some ⟨e,0,none⟩)) w R E:=by
  intro a0R a4g a4h H w b5n I h
  intro _
  refine b6 R9 (d4 (l1 Tryz.isAgg102 I rfl) (b6 (a7o _ _ _) ?_))
  obtain ⟨g,c,aa,ab⟩:=h
  refine K7 (J:=fun n l w=>∃(s:Int×(List g8))(H:Hp)(a2r:Sl)(a2s:Frag),n=c s∧l=(match s with | (a3m,L6)=>[(vi a3m)])∧(match s with | (a3m,L6)=>RowL 97 2 C2 a2r L6 a2s)∧(match s with | (a3m,L6)=>Inv w0 ps0 H0 H [bx e 122 (p5 x1),bx g0 94 [(vs a2r)],a2s] w)∧g s H) ⟨_,(0,a0R),H,a4g,a4h,rfl,rfl,b5n,(((I.bring 2).bring 2).bring 2),aa⟩ ?_
  rintro be bf w next2 ⟨⟨a3m,L6⟩,H,a2r,a2s,rfl,i,a6T,I,ac⟩ hn2
  dsimp only at i I a6T
  simp only [List.map_cons,List.map_nil,List.cons.injEq,and_true] at i
  have e22:=i
  simp only [e22]
  obtain ⟨n2,hm2,h⟩:∃n2:(Int×(List g8))→Hp→Prop,(∀s' H',n2 s' H'→g s' H'∧c s' < c (a3m,L6))∧a0S x1.C7 (x1.C7.n:Int) x1 a3m L6 H n2 K:=⟨_,fun _ _ h=>h,ab (a3m,L6) H (fun s' H'=>g s' H'∧c s' < c (a3m,L6)) ac (fun _ _ a b=>⟨a,b⟩)⟩
  refine b6 pLs ?_
  refine g7 h (fun _ h=>?_) (fun _ h=>?_)
  ·obtain ⟨ad,ae,q,j,h⟩:=h
   obtain ⟨bg,bh,af,j⟩:=j
   refine b6 (O6 af _ _ _ _ ad ae) (d4 (ldA (vs:=(p5 q)) Tryz.isAgg122 Tryz.sizeOf122 rfl (I.atH j)) ?_)
   refine s6 I Tryz.zeroValue122 (cs:=[(vi 0),(vi 0),(nS),(nS)]) rfl fun bi bj ag bk=>?_
   refine A5 ag Tryz.sizeOf122 (vs:=(p5 q)) fun bl r bm=>?_
   refine d4 (lW Tryz.isAgg122 Tryz.sizeOf122 rfl r) ?_
   refine f9 Tryz.call48 (h g0 a2r a2s a6T) ((r.bring 3).bring 3) ?_
   rintro _ ah _ bn ai _ _ ⟨bo,aj,ak,al,rfl,rfl,am,h⟩
   refine b6 pAd ?_
   exact hn2 _ _ _ (hm2 _ _ h).2 ⟨((IntKind.wrap .i64 (a3m+1)),aj),ah,ak,al,rfl,rfl,am,((((ai.bring 2).drop.bring 1).bring 1).bring 2),(hm2 _ _ h).1⟩
  ·exact hR _ H _ _ ((I.drop.bring 1).bring 1) ⟨(p7.mk (Sl.mk none 0 0)),L6,a2r,a2s,rfl,rfl,a6T,h⟩
 refine v6 fun j1 hx1=>?_
 refine b6 a4D (d4 (l1 Tryz.isAgg101 p rfl) (b6 (a1L _ _ _) ?_))
 obtain ⟨k,d,an,ao⟩:=h
 refine K7 (J:=fun n l w=>∃(s:Int×(List g8))(H:Hp)(b0I:Sl)(b0J:Frag),n=d s∧l=(match s with | (a3o,a1E)=>[(vi a3o)])∧(match s with | (a3o,a1E)=>RowL 97 2 C2 b0I a1E b0J)∧(match s with | (a3o,a1E)=>Inv w0 ps0 H0 H [bx e 122 (p5 x1),bx g0 94 [(vs b0I)],b0J] w)∧k s H) ⟨_,(0,f),H,v,y,rfl,rfl,z,(((p.bring 2).bring 2).bring 2),an⟩ ?_
 rintro bp bq w next3 ⟨⟨a3o,a1E⟩,H,b0I,b0J,rfl,m,b5o,I,ap⟩ hn3
 dsimp only at m I b5o
 simp only [List.map_cons,List.map_nil,List.cons.injEq,and_true] at m
 have e11:=m
 simp only [e11]
 obtain ⟨n3,hm3,h⟩:∃n3:(Int×(List g8))→Hp→Prop,(∀s' H',n3 s' H'→k s' H'∧d s' < d (a3o,a1E))∧a0U x1.t7 (x1.t7.n:Int) x1 a3o a1E H n3 K:=⟨_,fun _ _ h=>h,ao (a3o,a1E) H (fun s' H'=>k s' H'∧d s' < d (a3o,a1E)) ap (fun _ _ a b=>⟨a,b⟩)⟩
 refine b6 pLs ?_
 refine g7 h (fun _ h=>?_) (fun _ h=>?_)
 ·obtain ⟨aq,ar,t,o,h⟩:=h
  obtain ⟨br,bs,au,o⟩:=o
  refine b6 (Q0 au _ _ _ _ aq ar) (d4 (ldA (vs:=(j9 t)) Tryz.isAgg125 Tryz.sizeOf125 rfl (I.atH o)) ?_)
  refine s6 I Tryz.zeroValue125 (cs:=[(vi 0),(vi 0),(eS),(nS)]) rfl fun bt bu av bv=>?_
  refine A5 av Tryz.sizeOf125 (vs:=(j9 t)) fun bw u bz=>?_
  refine d4 (lW Tryz.isAgg125 Tryz.sizeOf125 rfl u) ?_
  refine f9 Tryz.call49 (h g0 b0I b0J b5o) ((u.bring 3).bring 3) ?_
  rintro _ aw _ ca ax _ _ ⟨cb,ay,az,ba,rfl,rfl,bb,h⟩
  refine b6 pAd ?_
  exact hn3 _ _ _ (hm3 _ _ h).2 ⟨((IntKind.wrap .i64 (a3o+1)),ay),aw,az,ba,rfl,rfl,bb,((((ax.bring 2).drop.bring 1).bring 1).bring 2),(hm3 _ _ h).1⟩
 ·exact hx1 _ _ (hj1 a1E b0I b0J H _ b5o (((I.bring 2).bring 2).bring 2) h)
def a4V(x0:f6)(a:(List b7))(x1:b7)(H:Hp)(K:f6→(List b7)→Hp→Prop):Prop:=
 (a.length+([x1]:List b7).length)*81≤140737488355328∧
 K (d8 x0) (a++[x1]) H
theorem a9L(x0 a x1){H K}(h:a4V x0 a x1 H K):C4 x0 a x1 H K:=by
 intro g0 f r g
 refine Ct.of fun w0 w ps0 H0 R E I hR=>d0J ?_
 refine z7 I (cs:=(d7 x1)) rfl fun t u i v=>?_
 refine C6 i fun y b=>?_
 refine d6 (m7 _) ?_
 refine d6 O7 ?_
 refine d6 a1I ?_
 refine i8 (l1 Tryz.isAgg37 (b.bring 1) rfl) ?_
 refine i8 (lW Tryz.isAgg49 Tryz.sizeOf49 rfl b) ?_
 refine Y1 (e:=49) (c:=d7) (xs:=[x1]) b (b6K _ _ _ _ _ _ _ _ _ _) rfl rfl a2A a2B (nb rfl) fun z aa ab j d k=>?_
 refine ⟨(k _ (b.bring 1).lt1),?_⟩
 obtain ⟨l,h⟩:=h
 refine c2P (s:=f) (xs:=a) (d.bring 3) g (j.srcO ((d.bring 3).bring 1)) l fun m n ac o p ad=>?_
 refine d6 (m7 _) ?_
 refine d6 O7 ?_
 refine d6 a1I ?_
 refine K2 ((p.bring 1).drop.bring 2) Tryz.sizeOf37 fun ae q af=>?_
 exact hR _ H _ _ (((q.bring 2).drop.bring 1).bring 1) ⟨(d8 x0),(a++[x1]),m,n,rfl,rfl,o,h⟩
def a4W(x0:f6)(a:(List b7))(x1:Int)(H:Hp)(K:Int→f6→(List b7)→Hp→Prop):Prop:=
 K (IntKind.wrap .i64 ((x0.fc.o9.n:Int)+x1)) (f6.mk (l9.mk x0.fc.o9 (if (IntKind.wrap .i64 (x1+1)) > x0.fc.t8 then IntKind.wrap .i64 (x1+1) else x0.fc.t8) x0.fc.m8 x0.fc.o7 x0.fc.B6 (Sl.mk none 0 0)) x0.fvars x0.farrays) a H
theorem a9M(x0 a x1){H K}(h:a4W x0 a x1 H K):a1O x0 a x1 H K:=by
 intro g0 c d e
 refine Ct.of fun w0 w ps0 H0 R E I hR=>c7D ?_
 refine b6 (m7 _) (b6 O7 (b6 a2F (d4 (l1 Tryz.isAgg3 I rfl) (b6 pAd ?_))))
 refine b6 (c2A _ _ _ _ _) (b6 (m7 _) (b6 O7 (b6 a2F ?_)))
 refine K2 I Tryz.sizeOf3 fun f b g=>?_
 refine b6 (m7 _) (b6 O7 (b6 a3U (d4 (l1 Tryz.isAgg36 b rfl) (b6 (a2G _ _ _) ?_))))
 refine b6 pAd ?_
 exact hR _ H _ _ ((b.bring 1).bring 1) ⟨(IntKind.wrap .i64 ((x0.fc.o9.n:Int)+x1)),(f6.mk (l9.mk x0.fc.o9 (if (IntKind.wrap .i64 (x1+1)) > x0.fc.t8 then IntKind.wrap .i64 (x1+1) else x0.fc.t8) x0.fc.m8 x0.fc.o7 x0.fc.B6 (Sl.mk none 0 0)) x0.fvars x0.farrays),a,c,d,rfl,rfl,e,h⟩
def V2(a:b7)(a8H:Sl)(a8I:Int)(a8J:Sl)(a8K:Int)(a8L:Int)(c1L:(List b7))(b1L:(Option Nat))(b1M:(Option Nat))(e:q8)(H:Hp)(K:f6→(List b7)→Hp→Prop):Prop:=
 C4 (f6.mk (l9.mk a8H a8I a8J a8K a8L (Sl.mk none 0 0)) b1L b1M) c1L a H (fun b c d=>
 K (d8 b) c d)
def M8(a:b7)(U0:Sl)(U1:Int)(U2:Sl)(U3:Int)(U4:Int)(T3:(List b7))(u9:(Option Nat))(u7:(Option Nat))(b:q8)(H:Hp)(K:f6→(List b7)→Hp→Prop):Prop:=
 (b.b8=4→
 ∃c:List (ByteArray×Int),MapH H (fun s:ByteArray=>Value.string s) (fun n:Int=>Value.int .i64 n) u7 c∧
 V2 (b7.mk a.B3 a.fTo a.b8 a.D8 ((lk b.f8 c).getD 0) a.fOp a.fA a.fB) U0 U1 U2 U3 U4 T3 u9 u7 b H K)∧
 (¬(b.b8=4)→
 V2 a U0 U1 U2 U3 U4 T3 u9 u7 b H K)
def a4X(x0:f6)(e:(List b7))(x1:q8)(x2:Int)(x3:Int)(x4:Int)(x5:Int)(H:Hp)(K:f6→(List b7)→Hp→Prop):Prop:=
 a4I x1.b8 H (fun g i=>
 M0 x3 x4 g i (fun a d=>
 ((x1.D9.n:Int)=1→
 (0:Int)≤0∧(0:Int) < x1.D9.n∧∃f:q8,EltH d x1.D9 0 4 (j9 f)∧
 P3 (d8 x0) e f x3 x5 d (fun j k b l m=>
 M8 (b7.mk k a.fTo a.b8 x2 a.P9 a.fOp j a.fB) b.fc.o9 b.fc.t8 b.fc.m8 b.fc.o7 b.fc.B6 l b.fvars b.farrays x1 m K))∧
 (¬((x1.D9.n:Int)=1)→
 ((x1.D9.n:Int)=2→
 T9 (d8 x0) e x1.D9 x3 x5 d (fun o p q c r s=>
 M8 (b7.mk q a.fTo a.b8 x2 a.P9 a.fOp o p) c.fc.o9 c.fc.t8 c.fc.m8 c.fc.o7 c.fc.B6 r c.fvars c.farrays x1 s K))∧
 (¬((x1.D9.n:Int)=2)→
 M8 (b7.mk a.B3 a.fTo a.b8 x2 a.P9 a.fOp a.fA a.fB) x0.fc.o9 x0.fc.t8 x0.fc.m8 x0.fc.o7 x0.fc.B6 e x0.fvars x0.farrays x1 d K))))
theorem a9N(x0 l x1 x2 x3 x4 x5){H K}(h:a4X x0 l x1 x2 x3 x4 x5 H K):Z9 x0 l x1 x2 x3 x4 x5 H K:=by
 intro g0 m n o
 refine Ct.of fun w0 w ps0 H0 R E I hR=>d1u ?_
 refine z7 I (cs:=(j9 x1)) rfl fun p bk s bl=>?_
 refine b6 M6 (d4 (l1 Tryz.isAgg3 s rfl) ?_)
 refine f9 Tryz.call111 h s ?_
 rintro _ _ _ bm v _ _ ⟨bn,rfl,rfl,h⟩
 refine f9 Tryz.call55 h v ?_
 rintro _ y _ bo aa _ _ ⟨a,rfl,rfl,h⟩
 refine s6 aa Tryz.zeroValue49 (cs:=[(vi 0),(vi 0),(vi 0),(vi 0),(vi 0),(vi 0),(vi 0),(vi 0),(vi 0),(vi 0)]) rfl fun g bp ab bq=>?_
 refine A5 ab Tryz.sizeOf49 (vs:=(d7 a)) fun br ac bs=>?_
 refine b6 U8 ?_
 refine K2 ac Tryz.sizeOf3 fun bt c bu=>?_
 have hj1:∀(b:b7)(U0:Sl)(U1:Int)(U2:Sl)(U3:Int)(U4:Int)(T3:(List b7))(u9:(Option Nat))(u7:(Option Nat))(a1e:Sl)(a1f:Frag) H w (_:RowL 49 10 d7 a1e T3 a1f) (_:Inv w0 ps0 H0 H [bx g 49 (d7 b),bx g0 70 [(vs U0),(vi U1),(vs U2),(vi U3),(vi U4),(vs a1e),(Value.map u9),(Value.map u7)],bx p 125 (j9 x1),a1f] w) (_:M8 b U0 U1 U2 U3 U4 T3 u9 u7 x1 H K),c3F (Value.pointer (some ⟨g0,0,none⟩)) (Value.pointer (some ⟨p,0,none⟩)) (Value.pointer (some ⟨g,0,none⟩)) w R E:=by
  intro b U0 U1 U2 U3 U4 T3 u9 u7 a1e a1f H w b2N I h
  intro _
  have hj2:∀(q:b7)(a8H:Sl)(a8I:Int)(a8J:Sl)(a8K:Int)(a8L:Int)(b1L:(Option Nat))(b1M:(Option Nat)) H w (_:Inv w0 ps0 H0 H [bx g 49 (d7 q),bx g0 70 [(vs a8H),(vi a8I),(vs a8J),(vi a8K),(vi a8L),(vs a1e),(Value.map b1L),(Value.map b1M)],bx p 125 (j9 x1),a1f] w) (_:V2 q a8H a8I a8J a8K a8L T3 b1L b1M x1 H K),c3E (Value.pointer (some ⟨g0,0,none⟩)) (Value.pointer (some ⟨g,0,none⟩)) w R E:=by
   intro q a8H a8I a8J a8K a8L b1L b1M H w I h
   intro _
   refine d4 (lW Tryz.isAgg49 Tryz.sizeOf49 rfl I) ?_
   refine f9 Tryz.call57 (h g0 a1e a1f b2N) ((I.bring 3).bring 2) ?_
   rintro _ ad _ bv ae _ _ ⟨af,ag,ah,ai,rfl,rfl,aj,h⟩
   exact hR _ ad _ _ ((((ae.bring 2).drop.bring 2).drop.bring 1).bring 1) ⟨(d8 af),ag,ah,ai,rfl,rfl,aj,h⟩
  refine v6 fun j2 hx2=>?_
  refine b6 M6 (d4 (l1 Tryz.isAgg3 (I.bring 2) rfl) (b6 pEq ?_))
  refine g7 h (fun _ h=>?_) (fun _ h=>?_)
  ·refine C6 I fun bw i=>?_
   refine d6 (m7 _) ?_
   refine d6 b2t ?_
   refine d6 a1W ?_
   refine i8 (l1 Tryz.isAgg68 (i.bring 1) rfl) ?_
   refine i8 (l1 Tryz.isAgg9 (i.bring 2) rfl) ?_
   obtain ⟨ak,al,h⟩:=h
   refine b2k (keyS Tryz.underlying9) Tryz.underlying68 (z:=0) Tryz.zeroValue3 i al x1.f8 ?_
   refine d6 a5S ?_
   refine K2 i Tryz.sizeOf3 fun bz am ca=>?_
   exact hx2 _ _ (hj2 (b7.mk b.B3 b.fTo b.b8 b.D8 ((lk x1.f8 ak).getD 0) b.fOp b.fA b.fB) U0 U1 U2 U3 U4 u9 u7 H _ ((((am.bring 3).bring 3).bring 3).bring 3) h)
  ·exact hx2 _ _ (hj2 b U0 U1 U2 U3 U4 u9 u7 H _ ((((I.bring 3).bring 3).bring 3).bring 3) h)
 refine v6 fun j1 hx1=>?_
 refine b6 W0 (d4 (l1 Tryz.isAgg101 (c.bring 1) rfl) (b6 (a1L _ _ _) (b6 pEq ?_)))
 refine g7 h (fun _ h=>?_) (fun _ h=>?_)
 ·refine b6 W0 (d4 (l1 Tryz.isAgg101 (c.bring 1) rfl) ?_)
  obtain ⟨an,ao,ap,r,h⟩:=h
  obtain ⟨cb,cc,aq,r⟩:=r
  refine b6 (Q0 aq _ _ _ _ an ao) (d4 (ldA (vs:=(j9 ap)) Tryz.isAgg125 Tryz.sizeOf125 rfl (c.atH r)) ?_)
  refine f9 Tryz.call93 (h g0 m n o) ((c.bring 3).bring 3) ?_
  rintro _ ar _ cd au _ _ ⟨j,t,d,av,aw,ax,rfl,rfl,ay,h⟩
  refine b6 (i5 _ _ _ rfl) (b6 (i5 _ _ (vi t) rfl) (b6 M3 ?_))
  refine E8 (au.bring 2) Tryz.sizeOf47 (vs:=(m4 j)) (cs':=[(vi a.B3),(vi a.fTo),(vi a.b8),(vi x2),(vi a.P9),(vi a.fOp),(vi j.A8),(vi j.s8),(vi a.fB.A8),(vi a.fB.s8)]) rfl rfl (nb rfl) rfl rfl fun ce az cf=>?_
  refine b6 a1M ?_
  refine K2 az Tryz.sizeOf3 fun cg ba ch=>?_
  exact hx1 _ _ (hj1 (b7.mk t a.fTo a.b8 x2 a.P9 a.fOp j a.fB) d.fc.o9 d.fc.t8 d.fc.m8 d.fc.o7 d.fc.B6 av d.fvars d.farrays aw ax ar _ ay ((((ba.bring 2).bring 3).bring 3).bring 3) h)
 ·refine b6 pEq ?_
  refine g7 h (fun _ h=>?_) (fun _ h=>?_)
  ·refine b6 W0 (d4 (l1 Tryz.isAgg101 (c.bring 1) rfl) ?_)
   refine f9 Tryz.call56 (h g0 m n o) ((c.bring 3).bring 3) ?_
   rintro _ bb _ ci bc _ _ ⟨f,k,u,e,bd,be,bf,rfl,rfl,bg,h⟩
   refine b6 (i5 _ _ _ rfl) (b6 (i5 _ _ _ rfl) (b6 (i5 _ _ (vi u) rfl) (b6 M3 ?_)))
   refine E8 (bc.bring 2) Tryz.sizeOf47 (vs:=(m4 f)) (cs':=[(vi a.B3),(vi a.fTo),(vi a.b8),(vi x2),(vi a.P9),(vi a.fOp),(vi f.A8),(vi f.s8),(vi a.fB.A8),(vi a.fB.s8)]) rfl rfl (nb rfl) rfl rfl fun cj bh ck=>?_
   refine b6 Q6 ?_
   refine E8 bh Tryz.sizeOf47 (vs:=(m4 k)) (cs':=[(vi a.B3),(vi a.fTo),(vi a.b8),(vi x2),(vi a.P9),(vi a.fOp),(vi f.A8),(vi f.s8),(vi k.A8),(vi k.s8)]) rfl rfl (nb rfl) rfl rfl fun cl bi cm=>?_
   refine b6 a1M ?_
   refine K2 bi Tryz.sizeOf3 fun cn bj co=>?_
   exact hx1 _ _ (hj1 (b7.mk u a.fTo a.b8 x2 a.P9 a.fOp f k) e.fc.o9 e.fc.t8 e.fc.m8 e.fc.o7 e.fc.B6 bd e.fvars e.farrays be bf bb _ bg ((((bj.bring 2).bring 3).bring 3).bring 3) h)
  ·exact hx1 _ _ (hj1 (b7.mk a.B3 a.fTo a.b8 x2 a.P9 a.fOp a.fA a.fB) x0.fc.o9 x0.fc.t8 x0.fc.m8 x0.fc.o7 x0.fc.B6 l x0.fvars x0.farrays m n y _ o ((((c.bring 3).bring 2).bring 3).bring 3) h)
def a4Y(x0:f6)(a:(List b7))(x1:B4)(x2:Int)(x3:Int)(H:Hp)(K:f6→(List b7)→Hp→Prop):Prop:=
 (x1.b8=1→
 ∃c:List (ByteArray×Int),MapH H (fun s:ByteArray=>Value.string s) (fun n:Int=>Value.int .i64 n) x0.fvars c∧
 (0:Int)≤0∧(0:Int) < x1.t7.n∧∃d:q8,EltH H x1.t7 0 4 (j9 d)∧
 a1m (d8 x0) a ((lk x1.f8 c).getD 0) d x2 x3 H (fun v y z=>
 K (d8 v) y z))∧
 (¬(x1.b8=1)→
 (x1.b8=2→
 M0 x2 x3 11 H (fun b e=>
 ∃f:List (ByteArray×Int),MapH e (fun s:ByteArray=>Value.string s) (fun n:Int=>Value.int .i64 n) x0.farrays f∧
 T9 (d8 x0) a x1.t7 x2 0 e (fun aa ab ac ad ae af=>
 C4 (d8 ad) ae (b7.mk ac b.fTo b.b8 b.D8 ((lk x1.f8 f).getD 0) b.fOp aa ab) af (fun ag ah ai=>
 K (d8 ag) ah ai))))∧
 (¬(x1.b8=2)→
 (x1.b8=3→
 Q3 (d8 x0) a x1.S8 x3 H (fun g aj ak al=>
 Q3 (d8 aj) ak x1.U7 x3 al (fun i am an j=>
 (0:Int)≤0∧(0:Int) < x1.D3.n∧∃k:y9,EltH j x1.D3 0 4 (p5 k)∧
 C9 (d8 am) an k x2 g i j (fun ao ap aq=>
 O0 (d8 ao) ap x1.S8 g x3 aq (fun ar au av=>
 O0 (d8 ar) au x1.U7 i x3 av (fun aw ax ay=>
 K (d8 aw) ax ay))))))∧
 (¬(x1.b8=3)→
 (x1.b8=4→
 Q3 (d8 x0) a x1.S8 x2 H (fun l az ba m=>
 (0:Int)≤0∧(0:Int) < x1.D3.n∧∃o:y9,EltH m x1.D3 0 4 (p5 o)∧
 C9 (d8 az) ba o x2 l x3 m (fun bb bc bd=>
 O0 (d8 bb) bc x1.S8 l x2 bd (fun be bf bg=>
 K (d8 be) bf bg))))∧
 (¬(x1.b8=4)→
 (x1.b8=5→
 D4 (d8 x0) a H (fun p bh bi bj=>
 D4 (d8 bh) bi bj (fun q bk bl r=>
 (0:Int)≤0∧(0:Int) < x1.D3.n∧∃t:y9,EltH r x1.D3 0 4 (p5 t)∧
 C9 (d8 bk) bl t x2 p q r (fun bm bn bo=>
 M0 p x3 13 bo (fun bp bq=>
 C4 (d8 bm) bn bp bq (fun br bs bt=>
 M0 q x3 14 bt (fun bu bv=>
 C4 (d8 br) bs bu bv (fun bw bz ca=>
 K (d8 bw) bz ca))))))))∧
 (¬(x1.b8=5)→
 (x1.b8=6→
 (0:Int)≤0∧(0:Int) < x1.D3.n∧∃u:y9,EltH H x1.D3 0 4 (p5 u)∧
 C9 (d8 x0) a u x2 x3 x0.fc.B6 H (fun cb cc cd=>
 K (d8 cb) cc cd))∧
 (¬(x1.b8=6)→
 M0 x2 x3 1 H (fun ce cf=>
 C4 (d8 x0) a ce cf (fun cg ch ci=>
 K (d8 cg) ch ci))))))))
theorem a9O(x0 v x1 x2 x3){H K}(h:a4Y x0 v x1 x2 x3 H K):a1P x0 v x1 x2 x3 H K:=by
 intro g0 c d e
 refine Ct.of fun w0 w ps0 H0 R E I hR=>d0c ?_
 refine z7 I (cs:=(p8 x1)) rfl fun ey ez b fa=>?_
 refine b6 a4C (d4 (l1 Tryz.isAgg3 b rfl) (b6 pEq ?_))
 refine g7 h (fun _ h=>?_) (fun _ h=>?_)
 ·refine C6 b fun fb g=>?_
  refine d6 (m7 _) ?_
  refine d6 b2s ?_
  refine d6 a0d ?_
  refine d6 a2Q ?_
  refine i8 (l1 Tryz.isAgg68 (g.bring 1) rfl) ?_
  refine i8 (l1 Tryz.isAgg9 g rfl) ?_
  obtain ⟨fc,ag,h⟩:=h
  refine b2k (keyS Tryz.underlying9) Tryz.underlying68 (z:=0) Tryz.zeroValue3 g ag x1.f8 ?_
  refine i8 (l1 Tryz.isAgg101 g rfl) ?_
  obtain ⟨ah,ai,aj,l,h⟩:=h
  obtain ⟨fd,fe,ak,l⟩:=l
  refine d6 (Q0 ak _ _ _ _ ah ai) ?_
  refine i8 (ldA (vs:=(j9 aj)) Tryz.isAgg125 Tryz.sizeOf125 rfl (g.atH l)) ?_
  refine f9 Tryz.call54 (h g0 c d e) ((g.bring 2).bring 2) ?_
  rintro _ al _ ff am _ _ ⟨an,ao,ap,aq,rfl,rfl,ar,h⟩
  exact hR _ al _ _ (((am.bring 2).drop.bring 1).bring 1) ⟨(d8 an),ao,ap,aq,rfl,rfl,ar,h⟩
 ·refine b6 pEq ?_
  refine g7 h (fun _ h=>?_) (fun _ h=>?_)
  ·refine f9 Tryz.call55 h b ?_
   rintro _ _ _ fg au _ _ ⟨a,rfl,rfl,h⟩
   refine s6 au Tryz.zeroValue49 (cs:=[(vi 0),(vi 0),(vi 0),(vi 0),(vi 0),(vi 0),(vi 0),(vi 0),(vi 0),(vi 0)]) rfl fun fh fi av fj=>?_
   refine A5 av Tryz.sizeOf49 (vs:=(d7 a)) fun fk aw fl=>?_
   refine C6 aw fun fm j=>?_
   refine d6 (m7 _) ?_
   refine d6 b2t ?_
   refine d6 a0d ?_
   refine i8 (l1 Tryz.isAgg68 (j.bring 2) rfl) ?_
   refine i8 (l1 Tryz.isAgg9 (j.bring 1) rfl) ?_
   obtain ⟨m,ax,h⟩:=h
   refine b2k (keyS Tryz.underlying9) Tryz.underlying68 (z:=0) Tryz.zeroValue3 j ax x1.f8 ?_
   refine d6 a5S ?_
   refine K2 j Tryz.sizeOf3 fun fn y fo=>?_
   refine b6 a2Q (d4 (l1 Tryz.isAgg101 (y.bring 1) rfl) ?_)
   refine f9 Tryz.call56 (h g0 c d e) ((y.bring 3).bring 3) ?_
   rintro _ _ _ fp ay _ _ ⟨f,i,aa,fq,fs,az,ba,rfl,rfl,bb,h⟩
   refine b6 (i5 _ _ _ rfl) (b6 (i5 _ _ _ rfl) (b6 (i5 _ _ (vi aa) rfl) (b6 M3 ?_)))
   refine E8 (ay.bring 2) Tryz.sizeOf47 (vs:=(m4 f)) (cs':=[(vi a.B3),(vi a.fTo),(vi a.b8),(vi a.D8),(vi ((lk x1.f8 m).getD 0)),(vi a.fOp),(vi f.A8),(vi f.s8),(vi a.fB.A8),(vi a.fB.s8)]) rfl rfl (nb rfl) rfl rfl fun ft bc fu=>?_
   refine b6 Q6 ?_
   refine E8 bc Tryz.sizeOf47 (vs:=(m4 i)) (cs':=[(vi a.B3),(vi a.fTo),(vi a.b8),(vi a.D8),(vi ((lk x1.f8 m).getD 0)),(vi a.fOp),(vi f.A8),(vi f.s8),(vi i.A8),(vi i.s8)]) rfl rfl (nb rfl) rfl rfl fun fv bd fw=>?_
   refine b6 a1M ?_
   refine K2 bd Tryz.sizeOf3 fun fx ab fy=>?_
   refine d4 (ldA Tryz.isAgg49 Tryz.sizeOf49 rfl (ab.at1 (o:=0) (vs:=[(vi aa),(vi a.fTo),(vi a.b8),(vi a.D8),(vi ((lk x1.f8 m).getD 0)),(vi a.fOp),(vi f.A8),(vi f.s8),(vi i.A8),(vi i.s8)]) (nb rfl) rfl)) ?_
   refine f9 Tryz.call57 (h g0 az ba bb) ((ab.bring 2).bring 2) ?_
   rintro _ be _ fz bf _ _ ⟨bg,bh,bi,bj,rfl,rfl,bk,h⟩
   exact hR _ be _ _ ((((bf.bring 2).drop.bring 2).drop.bring 1).bring 1) ⟨(d8 bg),bh,bi,bj,rfl,rfl,bk,h⟩
  ·refine b6 pEq ?_
   refine g7 h (fun _ h=>?_) (fun _ h=>?_)
   ·refine b6 a0Y (d4 (l1 Tryz.isAgg23 b rfl) ?_)
    refine f9 Tryz.call58 (h g0 c d e) ((b.bring 2).bring 2) ?_
    rintro _ _ _ ga ac _ _ ⟨gb,gc,gd,bl,bm,rfl,rfl,bn,h⟩
    refine b6 a2R (d4 (l1 Tryz.isAgg23 (ac.bring 2) rfl) ?_)
    refine f9 Tryz.call58 (h g0 bl bm bn) ((ac.bring 1).bring 1) ?_
    rintro _ _ _ ge n _ _ ⟨gf,gg,gh,bo,bp,rfl,rfl,bq,h⟩
    refine b6 a1V (d4 (l1 Tryz.isAgg102 (n.bring 2) rfl) ?_)
    obtain ⟨br,bs,bt,p,h⟩:=h
    obtain ⟨gi,gj,bu,p⟩:=p
    refine b6 (O6 bu _ _ _ _ br bs) (d4 (ldA (vs:=(p5 bt)) Tryz.isAgg122 Tryz.sizeOf122 rfl (n.atH p)) ?_)
    refine f9 Tryz.call59 (h g0 bo bp bq) ((n.bring 1).bring 1) ?_
    rintro _ _ _ gk ad _ _ ⟨gl,gm,bv,bw,rfl,rfl,bz,h⟩
    refine b6 a0Y (d4 (l1 Tryz.isAgg23 (ad.bring 2) rfl) ?_)
    refine f9 Tryz.call15 (h g0 bv bw bz) ((ad.bring 1).bring 1) ?_
    rintro _ _ _ gn ae _ _ ⟨go,gp,ca,cb,rfl,rfl,cc,h⟩
    refine b6 a2R (d4 (l1 Tryz.isAgg23 (ae.bring 2) rfl) ?_)
    refine f9 Tryz.call15 (h g0 ca cb cc) ((ae.bring 1).bring 1) ?_
    rintro _ cd _ gq ce _ _ ⟨cf,cg,ch,ci,rfl,rfl,cj,h⟩
    exact hR _ cd _ _ (((ce.bring 2).drop.bring 1).bring 1) ⟨(d8 cf),cg,ch,ci,rfl,rfl,cj,h⟩
   ·refine b6 pEq ?_
    refine g7 h (fun _ h=>?_) (fun _ h=>?_)
    ·refine b6 a0Y (d4 (l1 Tryz.isAgg23 b rfl) ?_)
     refine f9 Tryz.call58 (h g0 c d e) ((b.bring 2).bring 2) ?_
     rintro _ _ _ gr q _ _ ⟨gs,gt,gu,ck,cl,rfl,rfl,cm,h⟩
     refine b6 a1V (d4 (l1 Tryz.isAgg102 (q.bring 2) rfl) ?_)
     obtain ⟨cn,co,cp,r,h⟩:=h
     obtain ⟨gv,gw,cq,r⟩:=r
     refine b6 (O6 cq _ _ _ _ cn co) (d4 (ldA (vs:=(p5 cp)) Tryz.isAgg122 Tryz.sizeOf122 rfl (q.atH r)) ?_)
     refine f9 Tryz.call59 (h g0 ck cl cm) ((q.bring 1).bring 1) ?_
     rintro _ _ _ gx af _ _ ⟨gy,gz,cr,ct,rfl,rfl,cu,h⟩
     refine b6 a0Y (d4 (l1 Tryz.isAgg23 (af.bring 2) rfl) ?_)
     refine f9 Tryz.call15 (h g0 cr ct cu) ((af.bring 1).bring 1) ?_
     rintro _ cv _ ha cw _ _ ⟨cx,cy,cz,da,rfl,rfl,db,h⟩
     exact hR _ cv _ _ (((cw.bring 2).drop.bring 1).bring 1) ⟨(d8 cx),cy,cz,da,rfl,rfl,db,h⟩
    ·refine b6 pEq ?_
     refine g7 h (fun _ h=>?_) (fun _ h=>?_)
     ·refine f9 Tryz.call14 (h g0 c d e) ((b.bring 2).bring 2) ?_
      rintro _ _ _ hb dc _ _ ⟨hc,hd,he,dd,de,rfl,rfl,df,h⟩
      refine f9 Tryz.call14 (h g0 dd de df) ((dc.bring 1).bring 1) ?_
      rintro _ _ _ hf s _ _ ⟨hg,hh,hi,dg,dh,rfl,rfl,di,h⟩
      refine b6 a1V (d4 (l1 Tryz.isAgg102 (s.bring 2) rfl) ?_)
      obtain ⟨dj,dk,dl,t,h⟩:=h
      obtain ⟨hj,hk,dm,t⟩:=t
      refine b6 (O6 dm _ _ _ _ dj dk) (d4 (ldA (vs:=(p5 dl)) Tryz.isAgg122 Tryz.sizeOf122 rfl (s.atH t)) ?_)
      refine f9 Tryz.call59 (h g0 dg dh di) ((s.bring 1).bring 1) ?_
      rintro _ _ _ hl dn _ _ ⟨hm,hn,dp,dq,rfl,rfl,dr,h⟩
      refine f9 Tryz.call55 h dn ?_
      rintro _ _ _ ho ds _ _ ⟨hp,rfl,rfl,h⟩
      refine f9 Tryz.call57 (h g0 dp dq dr) ((ds.bring 1).bring 1) ?_
      rintro _ _ _ hq dt _ _ ⟨hr,hs,du,dv,rfl,rfl,dw,h⟩
      refine f9 Tryz.call55 h dt ?_
      rintro _ _ _ ht dx _ _ ⟨hu,rfl,rfl,h⟩
      refine f9 Tryz.call57 (h g0 du dv dw) ((dx.bring 1).bring 1) ?_
      rintro _ dy _ hv dz _ _ ⟨ea,eb,ec,ed,rfl,rfl,ee,h⟩
      exact hR _ dy _ _ (((dz.bring 2).drop.bring 1).bring 1) ⟨(d8 ea),eb,ec,ed,rfl,rfl,ee,h⟩
     ·refine b6 pEq ?_
      refine g7 h (fun _ h=>?_) (fun _ h=>?_)
      ·refine C6 b fun hw k=>?_
       refine d6 a1V ?_
       refine d6 (m7 _) ?_
       refine d6 O7 ?_
       refine d6 a5P ?_
       refine i8 (l1 Tryz.isAgg102 k rfl) ?_
       obtain ⟨ef,eg,eh,u,h⟩:=h
       obtain ⟨hx,hy,ei,u⟩:=u
       refine d6 (O6 ei _ _ _ _ ef eg) ?_
       refine i8 (ldA (vs:=(p5 eh)) Tryz.isAgg122 Tryz.sizeOf122 rfl (k.atH u)) ?_
       refine i8 (l1 Tryz.isAgg3 (k.bring 1) rfl) ?_
       refine f9 Tryz.call59 (h g0 c d e) ((k.bring 2).bring 2) ?_
       rintro _ ej _ hz ek _ _ ⟨el,em,en,eo,rfl,rfl,ep,h⟩
       exact hR _ ej _ _ (((ek.bring 2).drop.bring 1).bring 1) ⟨(d8 el),em,en,eo,rfl,rfl,ep,h⟩
      ·refine f9 Tryz.call55 h b ?_
       rintro _ _ _ ia eq _ _ ⟨ib,rfl,rfl,h⟩
       refine f9 Tryz.call57 (h g0 c d e) ((eq.bring 2).bring 2) ?_
       rintro _ er _ ic es _ _ ⟨et,eu,ev,ew,rfl,rfl,ex,h⟩
       exact hR _ er _ _ (((es.bring 2).drop.bring 1).bring 1) ⟨(d8 et),eu,ev,ew,rfl,rfl,ex,h⟩
def a7J(x0:q8)(H:Hp)(K:d9→Hp→Prop):Prop:=
 K (d9.K1 (M9.mk x0)) H
theorem b2S(x0){H K}(h:a7J x0 H K):a7v x0 H K:=by
 refine Ct.of fun w0 w ps0 H0 R E I hR=>c8a ?_
 refine z7 I (cs:=(j9 x0)) rfl fun b c a d=>?_
 refine d4 (lW Tryz.isAgg125 Tryz.sizeOf125 rfl a) (b6 (b8I _ _ _ _ _ _) (b6 (b1E (M9.mk x0)) ?_))
 exact hR _ H _ _ a.drop ⟨_,rfl,rfl,h⟩
def G9(a0j:(List d9))(H:Hp)(K:Sl→Hp→Prop):Prop:=
 ∀(M4:Sl)(a:Hp),Hle H a→SlH a 1 v8 M4 a0j→M4.n≤M4.c→
 K M4 a
def H7(a2q:Sl)(a2p:Int)(C5:(List d9))(A9:Int)(H:Hp)(n2:((List d9)×Int)→Hp→Prop)(K:Sl→Hp→Prop):Prop:=
 (A9 < a2p→
 (0:Int)≤A9∧(A9:Int) < a2q.n∧∃a:q8,EltH H a2q A9 4 (j9 a)∧
 a7v a H (fun b c=>
 (C5.length+([b]:List d9).length)*17≤140737488355328∧
 n2 ((C5++[b]),(IntKind.wrap .i64 (A9+1))) c))∧
 (¬(A9 < a2p)→
 G9 C5 H K)
def P7(x0:Sl)(H:Hp)(K:Sl→Hp→Prop):Prop:=
 TL (([],0):(List d9)×Int) H fun(s:(List d9)×Int) H n2=>H7 x0 (x0.n:Int) s.1 s.2 H n2 K
theorem a0V(x0){H K}(h:P7 x0 H K):B8 x0 H K:=by
 refine Ct.of fun w0 w ps0 H0 R E I hR=>c7Z ?_
 have hj1:∀(a0j:(List d9))(M4:Sl)(Fs5j1:Frag) H w (_:RowL 157 1 v8 M4 a0j Fs5j1) (_:Inv w0 ps0 H0 H [Fs5j1] w) (_:G9 a0j H K),c0E (vs M4) w R E:=by
  intro a0j M4 Fs5j1 H w b2C I h
  intro _
  obtain ⟨j,q,r,t,u⟩:=Inv.freezeC I b2C (by decide)
  replace h:=h M4 j r t u
  exact hR _ j _ _ q ⟨_,rfl,rfl,h⟩
 refine v6 fun j1 hx1=>?_
 refine b6 (a1L _ _ _) ?_
 obtain ⟨f,d,v,y⟩:=h
 refine K7 (J:=fun n l w=>∃(s:(List d9)×Int)(H:Hp)(a0k:Sl)(Fs5l2:Frag),n=d s∧l=(match s with | (C5,A9)=>[(vs a0k),(vi A9)])∧(match s with | (C5,A9)=>RowL 157 1 v8 a0k C5 Fs5l2)∧(match s with | (C5,A9)=>Inv w0 ps0 H0 H [Fs5l2] w)∧f s H) ⟨_,([],0),H,(Sl.mk none 0 0),[],rfl,rfl,(RowL.nil P1 S3),I.nil,v⟩ ?_
 rintro am an w next2 ⟨⟨C5,A9⟩,H,a0k,Fs5l2,rfl,g,a4e,I,z⟩ hn2
 dsimp only at g I a4e
 simp only [List.map_cons,List.map_nil,List.cons.injEq,and_true] at g
 obtain ⟨e5,e10⟩:=g
 simp only [e5,e10]
 obtain ⟨n2,hm2,h⟩:∃n2:((List d9)×Int)→Hp→Prop,(∀s' H',n2 s' H'→f s' H'∧d s' < d (C5,A9))∧H7 x0 (x0.n:Int) C5 A9 H n2 K:=⟨_,fun _ _ h=>h,y (C5,A9) H (fun s' H'=>f s' H'∧d s' < d (C5,A9)) z (fun _ _ a b=>⟨a,b⟩)⟩
 refine b6 pLs ?_
 refine g7 h (fun _ h=>?_) (fun _ h=>?_)
 ·obtain ⟨aa,ab,k,i,h⟩:=h
  obtain ⟨ao,ap,ac,i⟩:=i
  refine b6 (Q0 ac _ _ _ _ aa ab) (d4 (ldA (vs:=(j9 k)) Tryz.isAgg125 Tryz.sizeOf125 rfl (I.atH i)) ?_)
  refine s6 I Tryz.zeroValue125 (cs:=[(vi 0),(vi 0),(eS),(nS)]) rfl fun aq ar ad au=>?_
  refine A5 ad Tryz.sizeOf125 (vs:=(j9 k)) fun av m aw=>?_
  refine d4 (lW Tryz.isAgg125 Tryz.sizeOf125 rfl m) ?_
  refine f9 Tryz.call148 h m ?_
  rintro _ ae _ ax af _ _ ⟨o,rfl,rfl,h⟩
  refine Y1 (e:=157) (c:=v8) (xs:=[o]) af (b2z _) rfl rfl P1 S3 (nb rfl) fun ay az ba ag p bb=>?_
  obtain ⟨ah,h⟩:=h
  refine b1D (s:=a0k) (xs:=C5) (p.bring 2) a4e (ag.srcO ((p.bring 2).bring 1)) ah fun ai aj bc ak al bd=>?_
  refine b6 pAd ?_
  exact hn2 _ _ _ (hm2 _ _ h).2 ⟨((C5++[o]),(IntKind.wrap .i64 (A9+1))),ae,ai,aj,rfl,rfl,ak,((al.bring 1).drop.bring 1).drop,(hm2 _ _ h).1⟩
 ·exact hx1 _ _ (hj1 C5 a0k Fs5l2 H _ a4e I h)
def J9(d4T:Int)(b4j:Bool)(a:M9)(H:Hp)(K:Bool→Hp→Prop):Prop:=
 (b4j=true→
 K (decide (d4T=2)) H)∧
 (b4j=false→
 K false H)
def R5(b6S:Int)(a5W:Int)(b4k:Bool)(a:M9)(H:Hp)(K:Bool→Hp→Prop):Prop:=
 (b4k=true→
 K (decide (b6S=1)) H)∧
 (b4k=false→
 (a5W=6→
 J9 b6S (decide (a5W=6)) a H K)∧
 (¬(a5W=6)→
 (a5W=7→
 J9 b6S (decide (a5W=7)) a H K)∧
 (¬(a5W=7)→
 (a5W=8→
 J9 b6S (decide (a5W=8)) a H K)∧
 (¬(a5W=8)→
 (a5W=9→
 J9 b6S (decide (a5W=9)) a H K)∧
 (¬(a5W=9)→
 J9 b6S (decide (a5W=10)) a H K)))))
def R6(a9b:Int)(a5V:Int)(b4l:Bool)(a:M9)(H:Hp)(K:Bool→Hp→Prop):Prop:=
 (b4l=true→
 K (decide (a9b=0)) H)∧
 (b4l=false→
 (a5V=4→
 R5 a9b a5V (decide (a5V=4)) a H K)∧
 (¬(a5V=4)→
 R5 a9b a5V (decide (a5V=5)) a H K))
def a6r(x0:M9)(H:Hp)(K:Bool→Hp→Prop):Prop:=
 a1k (d9.K1 x0) H (fun c b a=>
 ((((!decide (x0.A6.b8=1))&&(!decide (x0.A6.s8=0)))||((!b)&&(!decide (x0.A6.f8=⟨#[]⟩))))=true→
 K false a)∧
 ((((!decide (x0.A6.b8=1))&&(!decide (x0.A6.s8=0)))||((!b)&&(!decide (x0.A6.f8=⟨#[]⟩))))=false→
 (x0.A6.b8=1→
 K ((decide (0≤x0.A6.s8))&&(decide ((x0.A6.D9.n:Int)=0))) a)∧
 (¬(x0.A6.b8=1)→
 (x0.A6.b8=2→
 R6 (x0.A6.D9.n:Int) x0.A6.b8 (decide (x0.A6.b8=2)) x0 a K)∧
 (¬(x0.A6.b8=2)→
 R6 (x0.A6.D9.n:Int) x0.A6.b8 (decide (x0.A6.b8=3)) x0 a K))))
theorem b1a(x0){H K}(h:a6r x0 H K):a2y x0 H K:=by
 refine Ct.of fun w0 w ps0 H0 R E I hR=>c8b ?_
 refine z7 I (cs:=(j9 x0.A6)) rfl fun f l i m=>?_
 refine b6 a0e (b6 W0 (d4 (l1 Tryz.isAgg101 i rfl) (b6 (a1L _ _ _) (d4 (lW Tryz.isAgg200 Tryz.sizeOf200 rfl i) ?_))))
 refine b6 (b1E x0) ?_
 refine f9 Tryz.call113 h i ?_
 rintro _ d _ o c _ _ ⟨j,k,rfl,rfl,h⟩
 refine b6 (i5 _ _ (Value.string j) rfl) (b6 (i5 _ _ (vB k) rfl) (b6 a0e (b6 M6 (d4 (l1 Tryz.isAgg3 c rfl) ?_))))
 refine b6 pNe ?_
 refine b6 (Pu.g fun a=>by with_reducible exact a0e) ?_
 refine b6 (Pu.g fun a=>by simp only [j8 a];with_reducible exact a4E) ?_
 refine d4 (Ld.g fun a=>by simp only [j8 a];exact (l1 Tryz.isAgg2 c rfl)) ?_
 refine b6 (Pu.g fun a=>by simp only [j8 a];with_reducible exact pNe) ?_
 refine b6 (E0 _ _) ?_
 simp only [J0]
 refine b6 (Pu.g fun a=>by simp only [j8 a];with_reducible exact (O4 _)) ?_
 simp only [b4f]
 refine b6 (Pu.e (a1o _ _ _) (Pu.g fun hb=>by obtain ⟨a,b⟩:=a4M hb;with_reducible exact a0e)) ?_
 refine b6 (Pu.e (a1o _ _ _) (Pu.g fun hb=>by obtain ⟨a,b⟩:=a4M hb;simp only [j8 hb];with_reducible exact a1W)) ?_
 refine d4 (Ld.e (a1o _ _ _) (Ld.g fun hb=>by obtain ⟨a,b⟩:=a4M hb;simp only [j8 hb];exact (l1 Tryz.isAgg9 c rfl))) ?_
 refine b6 (Pu.e (a1o _ _ _) (Pu.g fun hb=>by obtain ⟨a,b⟩:=a4M hb;simp only [j8 hb];with_reducible exact (c9e _ _ _ _ _))) ?_
 refine b6 (Pu.g fun a=>by simp only [j8 a,b5G a];with_reducible exact (E0 _ _)) ?_
 refine b6 (M2 _ _) ?_
 refine u5 h (fun _ h=>?_) (fun _ h=>?_)
 ·exact hR _ d _ _ c.drop ⟨_,rfl,rfl,h⟩
 ·refine b6 a0e (b6 M6 (d4 (l1 Tryz.isAgg3 c rfl) (b6 pEq ?_)))
  refine g7 h (fun _ h=>?_) (fun _ h=>?_)
  ·refine b6 a0e (b6 a4E (d4 (l1 Tryz.isAgg2 c rfl) (b6 pGe ?_)))
   simp only [J0]
   refine b6 (Pu.g fun a=>by simp only [j8 a];with_reducible exact pEq) ?_
   refine b6 (E0 _ _) ?_
   exact hR _ d _ _ c.drop ⟨_,rfl,rfl,h⟩
  ·have hj1:∀(b4l:Bool) H w (_:Inv w0 ps0 H0 H [bx f 200 (j9 x0.A6)] w) (_:R6 (x0.A6.D9.n:Int) x0.A6.b8 b4l x0 H K),c0H (vi (x0.A6.D9.n:Int)) (vi x0.A6.b8) (vB b4l) w R E:=by
    intro b4l H w I h
    intro _
    refine u5 h (fun _ h=>?_) (fun _ h=>?_)
    ·refine b6 pEq ?_
     exact hR _ H _ _ I.drop ⟨_,rfl,rfl,h⟩
    ·have hj2:∀(b4k:Bool) H w (_:Inv w0 ps0 H0 H [bx f 200 (j9 x0.A6)] w) (_:R5 (x0.A6.D9.n:Int) x0.A6.b8 b4k x0 H K),c0G (vi (x0.A6.D9.n:Int)) (vi x0.A6.b8) (vB b4k) w R E:=by
      intro b4k H w I h
      intro _
      refine u5 h (fun _ h=>?_) (fun _ h=>?_)
      ·refine b6 pEq ?_
       exact hR _ H _ _ I.drop ⟨_,rfl,rfl,h⟩
      ·have hj3:∀(b4j:Bool) H w (_:Inv w0 ps0 H0 H [bx f 200 (j9 x0.A6)] w) (_:J9 (x0.A6.D9.n:Int) b4j x0 H K),c0F (vi (x0.A6.D9.n:Int)) (vB b4j) w R E:=by
        intro b4j H w I h
        intro _
        refine u5 h (fun _ h=>?_) (fun _ h=>?_)
        ·refine b6 pEq ?_
         exact hR _ H _ _ I.drop ⟨_,rfl,rfl,h⟩
        ·exact hR _ H _ _ I.drop ⟨_,rfl,rfl,h⟩
       refine v6 fun j3 hx3=>?_
       refine b6 pEq ?_
       refine g7 h (fun _ h=>?_) (fun _ h=>?_)
       ·exact hx3 _ _ (hj3 (decide (x0.A6.b8=6)) H _ I h)
       ·refine b6 pEq ?_
        refine g7 h (fun _ h=>?_) (fun _ h=>?_)
        ·exact hx3 _ _ (hj3 (decide (x0.A6.b8=7)) H _ I h)
        ·refine b6 pEq ?_
         refine g7 h (fun _ h=>?_) (fun _ h=>?_)
         ·exact hx3 _ _ (hj3 (decide (x0.A6.b8=8)) H _ I h)
         ·refine b6 pEq ?_
          refine g7 h (fun _ h=>?_) (fun _ h=>?_)
          ·exact hx3 _ _ (hj3 (decide (x0.A6.b8=9)) H _ I h)
          ·refine b6 pEq ?_
           exact hx3 _ _ (hj3 (decide (x0.A6.b8=10)) H _ I h)
     refine v6 fun j2 hx2=>?_
     refine b6 pEq ?_
     refine g7 h (fun _ h=>?_) (fun _ h=>?_)
     ·exact hx2 _ _ (hj2 (decide (x0.A6.b8=4)) H _ I h)
     ·refine b6 pEq ?_
      exact hx2 _ _ (hj2 (decide (x0.A6.b8=5)) H _ I h)
   refine v6 fun j1 hx1=>?_
   refine b6 pEq ?_
   refine g7 h (fun _ h=>?_) (fun _ h=>?_)
   ·exact hx1 _ _ (hj1 (decide (x0.A6.b8=2)) d _ c h)
   ·refine b6 pEq ?_
    exact hx1 _ _ (hj1 (decide (x0.A6.b8=3)) d _ c h)
end Go.Proofs.YthaaobpfbgcfiaaGreatDoor
