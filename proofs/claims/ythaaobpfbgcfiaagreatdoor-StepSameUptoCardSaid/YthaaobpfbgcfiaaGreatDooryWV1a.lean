/- Typed formulas of the program's functions, and the theorems that the contracts follow from them; printed by lift.py off the code. -/
import Derived.Test.YthaaobpfbgcfiaaGreatDooryWV1
namespace Go.Proofs.YthaaobpfbgcfiaaGreatDoor
open Go.RowKit
set_option maxRecDepth 100000
set_option maxHeartbeats 2000000
def a6k(x0:Int)(x1:Int)(H:Hp)(K:Bool→Hp→Prop):Prop:=
 K (decide (x0 < x1)) H
theorem b0T(x0 x1){H K}(h:a6k x0 x1 H K):a6d x0 x1 H K:=by
 refine Ct.of fun w0 w ps0 H0 R E I hR=>d1A ?_
 refine b6 pLs ?_
 exact hR _ H _ _ I ⟨_,rfl,rfl,h⟩
def a6l(x0:Int)(x1:Int)(H:Hp)(K:Bool→Hp→Prop):Prop:=
 K (decide (x0≤x1)) H
theorem b0U(x0 x1){H K}(h:a6l x0 x1 H K):a6e x0 x1 H K:=by
 refine Ct.of fun w0 w ps0 H0 R E I hR=>c7q ?_
 refine b6 pLe ?_
 exact hR _ H _ _ I ⟨_,rfl,rfl,h⟩
def a6m(x0:Int)(x1:Int)(H:Hp)(K:Bool→Hp→Prop):Prop:=
 K (!decide (x0=x1)) H
theorem b0V(x0 x1){H K}(h:a6m x0 x1 H K):a6g x0 x1 H K:=by
 refine Ct.of fun w0 w ps0 H0 R E I hR=>c7s ?_
 refine b6 pNe ?_
 exact hR _ H _ _ I ⟨_,rfl,rfl,h⟩
def a3J(x0:b9)(a:(List Int))(b:(List (List Int)))(c:(List d5))(x1:b7)(H:Hp)(K:Int→b9→(List Int)→(List (List Int))→(List d5)→Hp→Prop):Prop:=
 K 0 (o4 x0) a b c H
theorem a8x(x0 a b c x1){H K}(h:a3J x0 a b c x1 H K):N0 x0 a b c x1 H K:=by
 intro g0 d e f g i j k l m
 refine Ct.of fun w0 w ps0 H0 R E I hR=>d0g ?_
 refine z7 I (cs:=(d7 x1)) rfl fun o p n q=>?_
 exact hR _ H _ _ ((((n.drop.bring 3).bring 3).bring 3).bring 3) ⟨0,(o4 x0),a,b,c,d,e,f,g,i,j,rfl,rfl,k,l,m,h⟩
def a2U(x0:Int)(x1:Int)(H:Hp)(K:Int→Int→Hp→Prop):Prop:=
 a6M x0 H (fun a b c=>
 K a b c)
theorem a7O(x0 x1){H K}(h:a2U x0 x1 H K):a2T x0 x1 H K:=by
 refine Ct.of fun w0 w ps0 H0 R E I hR=>d0T ?_
 refine f9 Tryz.call69 h I ?_
 rintro _ c _ e d _ _ ⟨a,b,rfl,rfl,h⟩
 refine b6 (i5 _ _ (vi a) rfl) (b6 (i5 _ _ (vi b) rfl) ?_)
 exact hR _ c _ _ d ⟨a,b,rfl,rfl,h⟩
def N3(a4J:Int)(r7:l9)(u9:Sl)(u7:Int)(B9:(List Int))(a2l:(List (List Int)))(D2:Sl)(a2m:(List d5))(a:b7)(H:Hp)(K:Int→b9→(List Int)→(List (List Int))→(List d5)→Hp→Prop):Prop:=
 K a4J (b9.mk r7 u9 u7 (Sl.mk none 0 0) (Sl.mk none 0 0) D2 (Sl.mk none 0 0)) B9 a2l a2m H
def X6(x0:b9)(a:(List Int))(b:(List (List Int)))(c:(List d5))(x1:b7)(H:Hp)(K:Int→b9→(List Int)→(List (List Int))→(List d5)→Hp→Prop):Prop:=
 r9 (o4 x0) a b c x1.fA H (fun f g=>
 r9 (o4 x0) a b c x1.fB g (fun i j=>
 a6N f i j (fun k d e=>
 (d=0→
 (0:Int)≤x1.D8∧∃l:Int,(a)[(x1.D8:Int).toNat]? = some l∧
 N3 d x0.fc x0.ffrom x0.fpoint (a.set (x1.D8:Int).toNat k) b x0.fscript c x1 e K)∧
 (¬(d=0)→
 N3 d x0.fc x0.ffrom x0.fpoint a b x0.fscript c x1 e K))))
theorem a2X(x0 i j k x1){H K}(h:X6 x0 i j k x1 H K):X1 x0 i j k x1 H K:=by
 intro g0 a l c d e f b n p
 refine Ct.of fun w0 w ps0 H0 R E I hR=>b1G ?_
 refine z7 I (cs:=(d7 x1)) rfl fun z ah aa ai=>?_
 refine C6 aa fun aj g=>?_
 refine d6 M3 ?_
 refine d6 Q6 ?_
 refine i8 (ldA Tryz.isAgg47 Tryz.sizeOf47 rfl (g.at1 (o:=6) (vs:=(m4 x1.fA)) (nb rfl) rfl)) ?_
 refine i8 (ldA Tryz.isAgg47 Tryz.sizeOf47 rfl (g.at1 (o:=8) (vs:=(m4 x1.fB)) (nb rfl) rfl)) ?_
 refine f9 Tryz.call45 (h g0 a l c d e f b n p) ((((g.bring 4).bring 4).bring 4).bring 4) ?_
 rintro _ _ _ ak ab _ ac ⟨al,rfl,rfl,h⟩
 refine ⟨(ac _ g.lt1 (Inv.E1 (Fi:=[bx g0 78 (m9 x0 a c e),l,d,f]) ((((g.bring 4).bring 4).bring 4).bring 4))),?_⟩
 refine f9 Tryz.call45 (h g0 a l c d e f b n p) ((((ab.bring 3).bring 3).bring 3).bring 3) ?_
 rintro _ _ _ am ad _ _ ⟨an,rfl,rfl,h⟩
 refine f9 Tryz.call70 h ad ?_
 rintro _ t _ ao u _ _ ⟨q,m,rfl,rfl,h⟩
 refine d6 (i5 _ _ (vi q) rfl) ?_
 refine d6 (i5 _ _ (vi m) rfl) ?_
 have hj1:∀(r7:l9)(u9:Sl)(u7:Int)(B9:(List Int))(D2:Sl)(E6:Frag) H w (_:RowL 2 1 i6 a B9 E6) (_:Inv w0 ps0 H0 H [bx g0 78 [(vs r7.o9),(vi r7.t8),(vs r7.m8),(vi r7.o7),(vi r7.B6),(vs r7.B5),(vs u9),(vi u7),(vs a),(vs c),(vs D2),(vs e)],bx z 49 (d7 x1),d,f,E6] w) (_:N3 m r7 u9 u7 B9 j D2 k x1 H K),b0j (vi m) w R E:=by
  intro r7 u9 u7 B9 D2 E6 H w a2o I h
  intro _
  exact hR _ H _ _ (((((I.bring 1).drop.bring 2).bring 2).bring 3).bring 3) ⟨m,(b9.mk r7 u9 u7 (Sl.mk none 0 0) (Sl.mk none 0 0) D2 (Sl.mk none 0 0)),B9,j,k,a,E6,c,d,e,f,rfl,rfl,a2o,n,p,h⟩
 refine v6 fun j1 hx1=>?_
 refine b6 pEq ?_
 refine g7 h (fun _ h=>?_) (fun _ h=>?_)
 ·refine C6 u fun ap r=>?_
  refine d6 (m7 _) ?_
  refine d6 a0h ?_
  refine d6 U8 ?_
  refine i8 (l1 Tryz.isAgg26 r rfl) ?_
  refine i8 (l1 Tryz.isAgg3 (r.bring 4) rfl) ?_
  obtain ⟨v,aq,s,h⟩:=h
  obtain ⟨ar,au,y,av⟩:=b.addr s
  refine d6 (E3 y _ _ _ _ v (b.lt v s)) ?_
  refine a1p (x:=q) (r.bring 1) b y (List.getElem?_eq_some_iff.1 s).1 Tryz.sizeOf2 rfl fun ae aw af ag ax=>?_
  exact hx1 _ _ (hj1 x0.fc x0.ffrom x0.fpoint (i.set (x1.D8:Int).toNat q) x0.fscript ae t _ af ((((ag.bring 3).bring 3).bring 4).bring 4) h)
 ·exact hx1 _ _ (hj1 x0.fc x0.ffrom x0.fpoint i x0.fscript l t _ b (((((u.bring 1).bring 3).bring 3).bring 4).bring 4) h)
def a2V(x0:b9)(a:(List Int))(b:(List (List Int)))(c:(List d5))(x1:b7)(H:Hp)(K:Int→b9→(List Int)→(List (List Int))→(List d5)→Hp→Prop):Prop:=
 X2 (o4 x0) a b c x1 H (fun(d:Int)(e:b9)(f:(List Int))(g:(List (List Int)))(i:(List d5))(j:Hp)=>
 K d (o4 e) f g i j)
theorem a7P(x0 a b c x1){H K}(h:a2V x0 a b c x1 H K):T5 x0 a b c x1 H K:=by
 intro g0 e f g i j k l m n
 refine Ct.of fun w0 w ps0 H0 R E I hR=>d0k ?_
 refine z7 I (cs:=(d7 x1)) rfl fun ag ah d ai=>?_
 refine d4 (lW Tryz.isAgg49 Tryz.sizeOf49 rfl d) ?_
 refine f9 Tryz.call67 (h g0 e f g i j k l m n) ((((d.bring 4).bring 4).bring 4).bring 4) ?_
 rintro _ o _ aj p _ _ ⟨q,r,s,t,u,v,y,z,aa,ab,ac,rfl,rfl,ad,ae,af,h⟩
 exact hR _ o _ _ (((((p.bring 4).drop.bring 3).bring 3).bring 3).bring 3) ⟨q,(o4 r),s,t,u,v,y,z,aa,ab,ac,rfl,rfl,ad,ae,af,h⟩
def a9m(x0:Int)(H:Hp)(K:Int→Hp→Prop):Prop:=
 (x0 < 0→
 K (IntKind.wrap .u64 (0-(IntKind.wrap .u64 x0))) H)∧
 (¬(x0 < 0)→
 K (IntKind.wrap .u64 x0) H)
theorem b4z(x0){H K}(h:a9m x0 H K):a3f x0 H K:=by
 refine Ct.of fun w0 w ps0 H0 R E I hR=>d1y ?_
 refine b6 pLs ?_
 refine g7 h (fun _ h=>?_) (fun _ h=>?_)
 ·refine b6 (b4N _ _) (b6 (b8g _ _) ?_)
  exact hR _ H _ _ I ⟨_,rfl,rfl,h⟩
 ·refine b6 (b4N _ _) ?_
  exact hR _ H _ _ I ⟨_,rfl,rfl,h⟩
def a9n(x0:Int)(x1:Int)(H:Hp)(K:Int→Int→Hp→Prop):Prop:=
 K (IntKind.wrap .u64 ((IntKind.wrap .u64 ((IntKind.wrap .u64 ((Int.fdiv x0 (2 ^ 32))*(Int.fdiv x1 (2 ^ 32))))+(Int.fdiv (IntKind.wrap .u64 ((IntKind.wrap .u64 ((Int.fdiv x0 (2 ^ 32))*(bandI .u64 x1 4294967295)))+(Int.fdiv (IntKind.wrap .u64 ((bandI .u64 x0 4294967295)*(bandI .u64 x1 4294967295))) (2 ^ 32)))) (2 ^ 32))))+(Int.fdiv (IntKind.wrap .u64 ((bandI .u64 (IntKind.wrap .u64 ((IntKind.wrap .u64 ((Int.fdiv x0 (2 ^ 32))*(bandI .u64 x1 4294967295)))+(Int.fdiv (IntKind.wrap .u64 ((bandI .u64 x0 4294967295)*(bandI .u64 x1 4294967295))) (2 ^ 32)))) 4294967295)+(IntKind.wrap .u64 ((bandI .u64 x0 4294967295)*(Int.fdiv x1 (2 ^ 32)))))) (2 ^ 32)))) (IntKind.wrap .u64 (x0*x1)) H
theorem b4A(x0 x1){H K}(h:a9n x0 x1 H K):a6u x0 x1 H K:=by
 refine Ct.of fun w0 w ps0 H0 R E I hR=>d1x ?_
 refine b6 (b6E _ _ _ _ _ _) ?_
 refine b6 (b3u _ _ _ _ _ _ _ (by decide) (by decide)) ?_
 refine b6 (b6E _ _ _ _ _ _) ?_
 refine b6 (b3u _ _ _ _ _ _ _ (by decide) (by decide)) ?_
 refine b6 pMu (b6 pMu ?_)
 refine b6 (b3u _ _ _ _ _ _ _ (by decide) (by decide)) ?_
 refine b6 pAd (b6 (b6E _ _ _ _ _ _) ?_)
 refine b6 (b3u _ _ _ _ _ _ _ (by decide) (by decide)) ?_
 refine b6 pMu (b6 pAd (b6 pMu (b6 pAd ?_)))
 refine b6 (b3u _ _ _ _ _ _ _ (by decide) (by decide)) ?_
 refine b6 pAd (b6 pMu ?_)
 exact hR _ H _ _ I ⟨(IntKind.wrap .u64 ((IntKind.wrap .u64 ((IntKind.wrap .u64 ((Int.fdiv x0 (2 ^ 32))*(Int.fdiv x1 (2 ^ 32))))+(Int.fdiv (IntKind.wrap .u64 ((IntKind.wrap .u64 ((Int.fdiv x0 (2 ^ 32))*(bandI .u64 x1 4294967295)))+(Int.fdiv (IntKind.wrap .u64 ((bandI .u64 x0 4294967295)*(bandI .u64 x1 4294967295))) (2 ^ 32)))) (2 ^ 32))))+(Int.fdiv (IntKind.wrap .u64 ((bandI .u64 (IntKind.wrap .u64 ((IntKind.wrap .u64 ((Int.fdiv x0 (2 ^ 32))*(bandI .u64 x1 4294967295)))+(Int.fdiv (IntKind.wrap .u64 ((bandI .u64 x0 4294967295)*(bandI .u64 x1 4294967295))) (2 ^ 32)))) 4294967295)+(IntKind.wrap .u64 ((bandI .u64 x0 4294967295)*(Int.fdiv x1 (2 ^ 32)))))) (2 ^ 32)))),(IntKind.wrap .u64 (x0*x1)),rfl,rfl,h⟩
def b5b(x0:Int)(x1:Int)(H:Hp)(K:Int→Int→Hp→Prop):Prop:=
 a1N x0 x1 H (fun a b=>
 (¬(a=0)→
 K 0 a b)∧
 (a=0→
 (x1:Int)≠0∧
 K (IntKind.wrap .i64 (Int.tdiv x0 x1)) 0 b))
theorem b5c(x0 x1){H K}(h:b5b x0 x1 H K):a6P x0 x1 H K:=by
 refine Ct.of fun w0 w ps0 H0 R E I hR=>d0Y ?_
 refine f9 Tryz.call97 h I ?_
 rintro _ a _ e b _ _ ⟨c,rfl,rfl,h⟩
 refine b6 pNe ?_
 refine a2f h (fun _ h=>?_) (fun _ h=>?_)
 ·exact hR _ a _ _ b ⟨0,c,rfl,rfl,h⟩
 ·obtain ⟨d,h⟩:=h
  refine b6 (c9h _ _ _ _ _ _ d) ?_
  exact hR _ a _ _ b ⟨(IntKind.wrap .i64 (Int.tdiv x0 x1)),0,rfl,rfl,h⟩
def b5d(x0:Int)(x1:Int)(H:Hp)(K:Int→Int→Hp→Prop):Prop:=
 a1N x0 x1 H (fun a b=>
 (¬(a=0)→
 K 0 a b)∧
 (a=0→
 (x1:Int)≠0∧
 K (Int.tmod x0 x1) 0 b))
theorem b5e(x0 x1){H K}(h:b5d x0 x1 H K):a6Q x0 x1 H K:=by
 refine Ct.of fun w0 w ps0 H0 R E I hR=>d0Z ?_
 refine f9 Tryz.call97 h I ?_
 rintro _ a _ e b _ _ ⟨c,rfl,rfl,h⟩
 refine b6 pNe ?_
 refine a2f h (fun _ h=>?_) (fun _ h=>?_)
 ·exact hR _ a _ _ b ⟨0,c,rfl,rfl,h⟩
 ·obtain ⟨d,h⟩:=h
  refine b6 (c9i _ _ _ _ _ _ d) ?_
  exact hR _ a _ _ b ⟨(Int.tmod x0 x1),0,rfl,rfl,h⟩
def N4(a4J:Int)(r7:l9)(u9:Sl)(u7:Int)(B9:(List Int))(a2l:(List (List Int)))(D2:Sl)(a2m:(List d5))(a:b7)(H:Hp)(K:Int→b9→(List Int)→(List (List Int))→(List d5)→Hp→Prop):Prop:=
 K a4J (b9.mk r7 u9 u7 (Sl.mk none 0 0) (Sl.mk none 0 0) D2 (Sl.mk none 0 0)) B9 a2l a2m H
def X7(x0:b9)(a:(List Int))(b:(List (List Int)))(c:(List d5))(x1:b7)(H:Hp)(K:Int→b9→(List Int)→(List (List Int))→(List d5)→Hp→Prop):Prop:=
 r9 (o4 x0) a b c x1.fA H (fun f g=>
 r9 (o4 x0) a b c x1.fB g (fun i j=>
 a6Q f i j (fun k d e=>
 (d=0→
 (0:Int)≤x1.D8∧∃l:Int,(a)[(x1.D8:Int).toNat]? = some l∧
 N4 d x0.fc x0.ffrom x0.fpoint (a.set (x1.D8:Int).toNat k) b x0.fscript c x1 e K)∧
 (¬(d=0)→
 N4 d x0.fc x0.ffrom x0.fpoint a b x0.fscript c x1 e K))))
theorem a2Y(x0 i j k x1){H K}(h:X7 x0 i j k x1 H K):X5 x0 i j k x1 H K:=by
 intro g0 a l c d e f b n p
 refine Ct.of fun w0 w ps0 H0 R E I hR=>b1G ?_
 refine z7 I (cs:=(d7 x1)) rfl fun z ah aa ai=>?_
 refine C6 aa fun aj g=>?_
 refine d6 M3 ?_
 refine d6 Q6 ?_
 refine i8 (ldA Tryz.isAgg47 Tryz.sizeOf47 rfl (g.at1 (o:=6) (vs:=(m4 x1.fA)) (nb rfl) rfl)) ?_
 refine i8 (ldA Tryz.isAgg47 Tryz.sizeOf47 rfl (g.at1 (o:=8) (vs:=(m4 x1.fB)) (nb rfl) rfl)) ?_
 refine f9 Tryz.call45 (h g0 a l c d e f b n p) ((((g.bring 4).bring 4).bring 4).bring 4) ?_
 rintro _ _ _ ak ab _ ac ⟨al,rfl,rfl,h⟩
 refine ⟨(ac _ g.lt1 (Inv.E1 (Fi:=[bx g0 78 (m9 x0 a c e),l,d,f]) ((((g.bring 4).bring 4).bring 4).bring 4))),?_⟩
 refine f9 Tryz.call45 (h g0 a l c d e f b n p) ((((ab.bring 3).bring 3).bring 3).bring 3) ?_
 rintro _ _ _ am ad _ _ ⟨an,rfl,rfl,h⟩
 refine f9 Tryz.call74 h ad ?_
 rintro _ t _ ao u _ _ ⟨q,m,rfl,rfl,h⟩
 refine d6 (i5 _ _ (vi q) rfl) ?_
 refine d6 (i5 _ _ (vi m) rfl) ?_
 have hj1:∀(r7:l9)(u9:Sl)(u7:Int)(B9:(List Int))(D2:Sl)(E6:Frag) H w (_:RowL 2 1 i6 a B9 E6) (_:Inv w0 ps0 H0 H [bx g0 78 [(vs r7.o9),(vi r7.t8),(vs r7.m8),(vi r7.o7),(vi r7.B6),(vs r7.B5),(vs u9),(vi u7),(vs a),(vs c),(vs D2),(vs e)],bx z 49 (d7 x1),d,f,E6] w) (_:N4 m r7 u9 u7 B9 j D2 k x1 H K),b0j (vi m) w R E:=by
  intro r7 u9 u7 B9 D2 E6 H w a2o I h
  intro _
  exact hR _ H _ _ (((((I.bring 1).drop.bring 2).bring 2).bring 3).bring 3) ⟨m,(b9.mk r7 u9 u7 (Sl.mk none 0 0) (Sl.mk none 0 0) D2 (Sl.mk none 0 0)),B9,j,k,a,E6,c,d,e,f,rfl,rfl,a2o,n,p,h⟩
 refine v6 fun j1 hx1=>?_
 refine b6 pEq ?_
 refine g7 h (fun _ h=>?_) (fun _ h=>?_)
 ·refine C6 u fun ap r=>?_
  refine d6 (m7 _) ?_
  refine d6 a0h ?_
  refine d6 U8 ?_
  refine i8 (l1 Tryz.isAgg26 r rfl) ?_
  refine i8 (l1 Tryz.isAgg3 (r.bring 4) rfl) ?_
  obtain ⟨v,aq,s,h⟩:=h
  obtain ⟨ar,au,y,av⟩:=b.addr s
  refine d6 (E3 y _ _ _ _ v (b.lt v s)) ?_
  refine a1p (x:=q) (r.bring 1) b y (List.getElem?_eq_some_iff.1 s).1 Tryz.sizeOf2 rfl fun ae aw af ag ax=>?_
  exact hx1 _ _ (hj1 x0.fc x0.ffrom x0.fpoint (i.set (x1.D8:Int).toNat q) x0.fscript ae t _ af ((((ag.bring 3).bring 3).bring 4).bring 4) h)
 ·exact hx1 _ _ (hj1 x0.fc x0.ffrom x0.fpoint i x0.fscript l t _ b (((((u.bring 1).bring 3).bring 3).bring 4).bring 4) h)
def a4N(x0:b9)(b:(List Int))(e:(List (List Int)))(d:(List d5))(x1:b7)(H:Hp)(K:Int→b9→(List Int)→(List (List Int))→(List d5)→Hp→Prop):Prop:=
 (0:Int)≤0∧(0:Int) < x0.fscript.n∧∃a:Int,EltH H x0.fscript 0 1 [(vi a)]∧
 (0:Int)≤1∧(1:Int)≤x0.fscript.n∧
 (0:Int)≤x1.D8∧∃f:Int,(b)[(x1.D8:Int).toNat]? = some f∧
 (d.length+([(d5.mk true a false)]:List d5).length)*25≤140737488355328∧
 K 0 (b9.mk x0.fc x0.ffrom x0.fpoint (Sl.mk none 0 0) (Sl.mk none 0 0) (x0.fscript.cut (1:Int).toNat x0.fscript.n x0.fscript.c 1) (Sl.mk none 0 0)) (b.set (x1.D8:Int).toNat a) e (d++[(d5.mk true a false)]) H
theorem a9E(x0 f g b x1){H K}(h:a4N x0 f g b x1 H K):Z4 x0 f g b x1 H K:=by
 intro g0 r aq t u y ar i z aa
 refine Ct.of fun w0 w ps0 H0 R E I hR=>d0o ?_
 refine z7 I (cs:=(d7 x1)) rfl fun au av d aw=>?_
 refine b6 (m7 _) (b6 a9z (d4 (l1 Tryz.isAgg26 (d.bring 1) rfl) ?_))
 obtain ⟨ab,ac,a,j,h⟩:=h
 obtain ⟨ax,ay,ad,j⟩:=j
 refine b6 (E3 ad _ _ _ _ ab ac) (d4 (ld1 (v:=(vi a)) Tryz.isAgg2 (d.atH j)) (b6 (m7 _) (b6 a9z (d4 (l1 Tryz.isAgg26 (d.bring 1) rfl) ?_))))
 obtain ⟨ae,af,h⟩:=h
 refine b6 (b4X Tryz.underlying26 Tryz.sizeOf2 x0.fscript ae af) (b6 (m7 _) (b6 a9z ?_))
 refine K2 (d.bring 1) Tryz.sizeOf26 fun az ag ba=>?_
 refine C6 ag fun bb k=>?_
 refine d6 (m7 _) ?_
 refine d6 a0h ?_
 refine d6 U8 ?_
 refine i8 (l1 Tryz.isAgg26 k rfl) ?_
 refine i8 (l1 Tryz.isAgg3 (k.bring 1) rfl) ?_
 obtain ⟨m,bc,l,h⟩:=h
 obtain ⟨bd,be,o,bf⟩:=i.addr l
 refine d6 (E3 o _ _ _ _ m (i.lt m l)) ?_
 refine a1p (x:=a) (k.bring 2) i o (List.getElem?_eq_some_iff.1 l).1 Tryz.sizeOf2 rfl fun ah bg ai p bh=>?_
 refine b6 (m7 _) (b6 a3V (d4 (l1 Tryz.isAgg29 (p.bring 1) rfl) (b6 (b3h _ _) ?_)))
 refine Y1 (e:=87) (c:=m6) (xs:=[(d5.mk true a false)]) p (b1C _ _ _) rfl rfl Y5 Y6 (nb rfl) fun bi bj bk aj q bl=>?_
 obtain ⟨ak,h⟩:=h
 refine b3C (s:=y) (xs:=b) (q.bring 5) aa (aj.srcO ((q.bring 5).bring 1)) ak fun al am bm an ao bn=>?_
 refine b6 (m7 _) (b6 a3V ?_)
 refine K2 ((ao.bring 1).drop.bring 2) Tryz.sizeOf29 fun bo ap bp=>?_
 exact hR _ H _ _ (((((ap.bring 3).drop.bring 1).bring 3).bring 3).bring 3) ⟨0,(b9.mk x0.fc x0.ffrom x0.fpoint (Sl.mk none 0 0) (Sl.mk none 0 0) (x0.fscript.cut (1:Int).toNat x0.fscript.n x0.fscript.c 1) (Sl.mk none 0 0)),(f.set (x1.D8:Int).toNat a),g,(b++[(d5.mk true a false)]),r,ah,t,u,al,am,rfl,rfl,ai,z,an,h⟩
def a4r(x0:b9)(b:(List Int))(c:(List (List Int)))(a:(List d5))(x1:b7)(H:Hp)(K:Int→b9→(List Int)→(List (List Int))→(List d5)→Hp→Prop):Prop:=
 (a.length+([(d5.mk false 0 true)]:List d5).length)*25≤140737488355328∧
 K 0 (o4 x0) b c (a++[(d5.mk false 0 true)]) H
theorem a8Z(x0 b d a x1){H K}(h:a4r x0 b d a x1 H K):W7 x0 b d a x1 H K:=by
 intro g0 i j k l m aa n o p
 refine Ct.of fun w0 w ps0 H0 R E I hR=>d0r ?_
 refine z7 I (cs:=(d7 x1)) rfl fun ab ac f ad=>?_
 refine b6 (m7 _) (b6 a3V (d4 (l1 Tryz.isAgg29 (f.bring 1) rfl) (b6 (b9S _) ?_)))
 refine Y1 (e:=87) (c:=m6) (xs:=[(d5.mk false 0 true)]) f (b1C _ _ _) rfl rfl Y5 Y6 (nb rfl) fun ae af ag q g ah=>?_
 obtain ⟨r,h⟩:=h
 refine b3C (s:=m) (xs:=a) (g.bring 5) p (q.srcO ((g.bring 5).bring 1)) r fun t u ai v y aj=>?_
 refine b6 (m7 _) (b6 a3V ?_)
 refine K2 ((y.bring 1).drop.bring 2) Tryz.sizeOf29 fun ak z al=>?_
 exact hR _ H _ _ (((((z.bring 2).drop.bring 1).bring 3).bring 3).bring 3) ⟨0,(o4 x0),b,d,(a++[(d5.mk false 0 true)]),i,j,k,l,t,u,rfl,rfl,n,o,v,h⟩
def a7T(H:Hp)(K:Hp→Prop):Prop:=
 K H
theorem b3k{H K}(h:a7T H K):a7R H K:=by
 refine Ct.of fun w0 w ps0 H0 R E I hR=>c9Q ?_
 refine s6 I Tryz.zeroValue81 (cs:=[Value.nilFunc,Value.nilFunc,Value.nilFunc,Value.nilFunc,Value.nilFunc,Value.nilFunc,Value.nilFunc,Value.nilFunc,Value.nilFunc,Value.nilFunc,Value.nilFunc,Value.nilFunc,Value.nilFunc,Value.nilFunc,Value.nilFunc]) rfl fun c d b e=>?_
 refine b6 a1G ?_
 refine A5 b Tryz.sizeOf81 (vs:=[Value.nilFunc,(fC 31),(fC 32),(fC 33),(fC 34),(fC 35),(fC 36),(fC 37),(fC 38),(fC 39),(fC 40),(fC 41),(fC 31),(fC 42),(fC 43)]) fun f a g=>?_
 refine Q4 Tryz.isAgg81 Tryz.sizeOf81 rfl a ?_
 exact hR _ H _ _ a.drop ⟨rfl,rfl,h⟩
def Q8(f:f7)(p:l9)(q:Sl)(k:Int)(l:(List Int))(m:(List (List Int)))(r:Sl)(o:(List d5))(s:f7)(a:l9)(H:Hp)(K:f7→Int→Int→Hp→Prop):Prop:=
 ∀(b:Sl)(g:Hp),Hle H g→SlH g 1 i6 b l→b.n≤b.c→
 (0:Int)≤(a.o9.n:Int)∧((a.o9.n:Int):Int)≤(a.o9.n:Int)∧((a.o9.n:Int):Int)≤b.c∧
 ∀(d:Sl)(i:Hp),Hle g i→SlH i 3 m6 d o→d.n≤d.c→
 ∀(e:Sl)(j:Hp),Hle i j→SlHH j 1 i6 e m→e.n≤e.c→
 K (f7.mk f.P0 f.a0f f.J8 d (b.cut 0 ((a.o9.n:Int):Int).toNat ((a.o9.n:Int):Int).toNat 1) e) k 0 j
def a4a(d1E:Int)(m:l9)(b:f7)(d:l9)(e:Sl)(f:Int)(g:(List Int))(i:(List (List Int)))(c:Sl)(j:(List d5))(q:f7)(H:Hp)(n4:(f7×l9×Sl×Int×(List Int)×(List (List Int))×Sl×(List d5)×f7)→Hp→Prop)(K:f7→Int→Int→Hp→Prop):Prop:=
 (b.P0=1→
 a2h (b9.mk d e f (Sl.mk none 0 0) (Sl.mk none 0 0) c (Sl.mk none 0 0)) g i j H (fun p s k=>
 ∃t:b7,((!s)=false→(0:Int)≤p∧(p:Int) < m.B5.n∧EltH k m.B5 p 10 (d7 t))∧
 (((!s)||((decide (t.b8=9))&&(decide ((c.n:Int)=0))))=true→
 Q8 (f7.mk 2 b.a0f b.J8 b.K8 b.o9 b.m8) d e f g i c j q m k K)∧
 (((!s)||((decide (t.b8=9))&&(decide ((c.n:Int)=0))))=false→
 (b.J8=d1E→
 Q8 b d e f g i c j q m k K)∧
 (¬(b.J8=d1E)→
 (0:Int)≤p∧(p:Int) < m.B5.n∧∃a:b7,EltH k m.B5 p 10 (d7 a)∧
 (0:Int)≤a.b8∧(a.b8:Int) < 15∧
 ∃l:Int→b9→(List Int)→(List (List Int))→(List d5)→Hp→Prop,(∀(r:Int)(o:b9)(u:(List Int))(v:(List (List Int)))(y:(List d5))(z:Hp),l r o u v y z→
 (¬(r=0)→
 Q8 (f7.mk 3 r (IntKind.wrap .i64 (b.J8+1)) b.K8 b.o9 b.m8) o.fc o.ffrom o.fpoint u v o.fscript y q m z K)∧
 (r=0→
 n4 ((f7.mk b.P0 r (IntKind.wrap .i64 (b.J8+1)) b.K8 b.o9 b.m8),o.fc,o.ffrom,a.fTo,u,v,o.fscript,y,q) z))∧¬((a.b8:Int)=0)∧((a.b8:Int)=1→N0 (b9.mk d e f (Sl.mk none 0 0) (Sl.mk none 0 0) c (Sl.mk none 0 0)) g i j a k l)∧((a.b8:Int)=2→W5 (b9.mk d e f (Sl.mk none 0 0) (Sl.mk none 0 0) c (Sl.mk none 0 0)) g i j a k l)∧((a.b8:Int)=3→V6 (b9.mk d e f (Sl.mk none 0 0) (Sl.mk none 0 0) c (Sl.mk none 0 0)) g i j a k l)∧((a.b8:Int)=4→a0i (b9.mk d e f (Sl.mk none 0 0) (Sl.mk none 0 0) c (Sl.mk none 0 0)) g i j a k l)∧((a.b8:Int)=5→T5 (b9.mk d e f (Sl.mk none 0 0) (Sl.mk none 0 0) c (Sl.mk none 0 0)) g i j a k l)∧((a.b8:Int)=6→T1 (b9.mk d e f (Sl.mk none 0 0) (Sl.mk none 0 0) c (Sl.mk none 0 0)) g i j a k l)∧((a.b8:Int)=7→V7 (b9.mk d e f (Sl.mk none 0 0) (Sl.mk none 0 0) c (Sl.mk none 0 0)) g i j a k l)∧((a.b8:Int)=8→Z3 (b9.mk d e f (Sl.mk none 0 0) (Sl.mk none 0 0) c (Sl.mk none 0 0)) g i j a k l)∧((a.b8:Int)=9→Z4 (b9.mk d e f (Sl.mk none 0 0) (Sl.mk none 0 0) c (Sl.mk none 0 0)) g i j a k l)∧((a.b8:Int)=10→Z5 (b9.mk d e f (Sl.mk none 0 0) (Sl.mk none 0 0) c (Sl.mk none 0 0)) g i j a k l)∧((a.b8:Int)=11→W6 (b9.mk d e f (Sl.mk none 0 0) (Sl.mk none 0 0) c (Sl.mk none 0 0)) g i j a k l)∧((a.b8:Int)=12→N0 (b9.mk d e f (Sl.mk none 0 0) (Sl.mk none 0 0) c (Sl.mk none 0 0)) g i j a k l)∧((a.b8:Int)=13→W7 (b9.mk d e f (Sl.mk none 0 0) (Sl.mk none 0 0) c (Sl.mk none 0 0)) g i j a k l)∧((a.b8:Int)=14→Z6 (b9.mk d e f (Sl.mk none 0 0) (Sl.mk none 0 0) c (Sl.mk none 0 0)) g i j a k l)))))∧
 (¬(b.P0=1)→
 Q8 b d e f g i c j q m H K)
def a1Q(d4P:Int)(a:l9)(b:Sl)(c:Int)(d:(List Int))(e:(List (List Int)))(f:Sl)(g:(List d5))(i:f7)(j:l9)(H:Hp)(K:f7→Int→Int→Hp→Prop):Prop:=
 a7R H (fun k=>
 TL (((f7.mk 1 0 0 (Sl.mk none 0 0) (Sl.mk none 0 0) (Sl.mk none 0 0)),a,b,c,d,e,f,g,i):f7×l9×Sl×Int×(List Int)×(List (List Int))×Sl×(List d5)×f7) k fun(s:f7×l9×Sl×Int×(List Int)×(List (List Int))×Sl×(List d5)×f7) H n4=>a4a d4P j s.1 s.2.1 s.2.2.1 s.2.2.2.1 s.2.2.2.2.1 s.2.2.2.2.2.1 s.2.2.2.2.2.2.1 s.2.2.2.2.2.2.2.1 s.2.2.2.2.2.2.2.2 H n4 K)
def a4b(d4Q:Int)(c6p:Sl)(c6q:Int)(i:(List Int))(j:(List d5))(k:l9)(a3h:Int)(c:l9)(d:Sl)(e:Int)(b:(List (List Int)))(f:Sl)(g:f7)(H:Hp)(n5:(Int×l9×Sl×Int×(List (List Int))×Sl×f7)→Hp→Prop)(K:f7→Int→Int→Hp→Prop):Prop:=
 (a3h < c6q→
 (0:Int)≤a3h∧(a3h:Int) < c6p.n∧∃a:j7,EltH H c6p a3h 2 (m3 a)∧
 (0:Int)≤a.C1∧a.C1*9≤140737488355328∧
 ((b:List (List Int)).length+([List.replicate (a.C1:Int).toNat 0]:List (List Int)).length)*25≤140737488355328∧
 n5 ((IntKind.wrap .i64 (a3h+1)),c,d,e,(b++[List.replicate (a.C1:Int).toNat 0]),f,g) H)∧
 (¬(a3h < c6q)→
 a1Q d4Q c d e i b f j g k H K)
def U9(b5f:Int)(b:l9)(c:Sl)(d:Int)(e:(List Int))(f:(List (List Int)))(g:Sl)(i:(List d5))(j:f7)(a:l9)(H:Hp)(K:f7→Int→Int→Hp→Prop):Prop:=
 TL ((0,b,c,d,f,g,j):Int×l9×Sl×Int×(List (List Int))×Sl×f7) H fun(s:Int×l9×Sl×Int×(List (List Int))×Sl×f7) H n5=>a4b b5f a.m8 (a.m8.n:Int) e i a s.1 s.2.1 s.2.2.1 s.2.2.2.1 s.2.2.2.2.1 s.2.2.2.2.2.1 s.2.2.2.2.2.2 H n5 K
def a9o(x0:l9)(x1:Sl)(x2:Int)(H:Hp)(K:f7→Int→Int→Hp→Prop):Prop:=
 a5j x0 H (fun b a=>
 (¬(b=0)→
 K (f7.mk 0 0 0 (Sl.mk none 0 0) (Sl.mk none 0 0) (Sl.mk none 0 0)) 0 b a)∧
 (b=0→
 ((((decide (x2 < 0))||(decide (65536 < x2)))||(decide (65536 < (x1.n:Int))))=true→
 K (f7.mk 0 0 0 (Sl.mk none 0 0) (Sl.mk none 0 0) (Sl.mk none 0 0)) 0 80 a)∧
 ((((decide (x2 < 0))||(decide (65536 < x2)))||(decide (65536 < (x1.n:Int))))=false→
 (a2J x0 a (fun c d=>
 (0:Int)≤IntKind.wrap .i64 ((x0.o9.n:Int)+x0.t8)∧(IntKind.wrap .i64 ((x0.o9.n:Int)+x0.t8))*9≤140737488355328∧
 U9 x2 x0 c 0 (List.replicate (IntKind.wrap .i64 ((x0.o9.n:Int)+x0.t8):Int).toNat 0) [] x1 [] (f7.mk 0 0 0 (Sl.mk none 0 0) (Sl.mk none 0 0) (Sl.mk none 0 0)) x0 d K))∧
 ((0:Int)≤IntKind.wrap .i64 ((x0.o9.n:Int)+x0.t8)∧(IntKind.wrap .i64 ((x0.o9.n:Int)+x0.t8))*9≤140737488355328∧
 a2J x0 a (fun e f=>
 U9 x2 x0 e 0 (List.replicate (IntKind.wrap .i64 ((x0.o9.n:Int)+x0.t8):Int).toNat 0) [] x1 [] (f7.mk 0 0 0 (Sl.mk none 0 0) (Sl.mk none 0 0) (Sl.mk none 0 0)) x0 f K)))))
theorem b4B(x0 x1 x2){H K}(h:a9o x0 x1 x2 H K):a1H x0 x1 x2 H K:=by
 refine Ct.of fun w0 w ps0 H0 R E I hR=>d2P ?_
 refine z7 I (cs:=(s7 x0)) rfl fun bs jp fe jq=>?_
 refine s6 fe Tryz.zeroValue32 (cs:=[(vi 0),(vi 0),(vi 0),(nS),(nS),(nS)]) rfl fun bt jr eh js=>?_
 refine d4 (lW Tryz.isAgg39 Tryz.sizeOf39 rfl (eh.bring 1)) ?_
 refine f9 Tryz.call16 h eh ?_
 rintro _ ei _ jt di _ _ ⟨ff,rfl,rfl,h⟩
 refine b6 pNe ?_
 refine a2f h (fun _ h=>?_) (fun _ h=>?_)
 ·refine b6 (b7n) ?_
  refine A5 di Tryz.sizeOf32 (vs:=[(vi 0),(vi 0),(vi 0),(nS),(nS),(nS)]) fun ju ej jv=>?_
  refine Q4 Tryz.isAgg32 Tryz.sizeOf32 rfl ej ?_
  exact hR _ ei _ _ ej.drop.drop ⟨(f7.mk 0 0 0 (Sl.mk none 0 0) (Sl.mk none 0 0) (Sl.mk none 0 0)),0,ff,rfl,rfl,h⟩
 ·refine b6 pLs ?_
  simp only [J0]
  refine b6 (Pu.g fun d=>by simp only [j8 d];with_reducible exact pGt) ?_
  refine b6 (M2 _ _) ?_
  simp only [J0]
  refine b6 (Pu.g fun d=>by simp only [j8 d];with_reducible exact (a1T _ _ _)) ?_
  refine b6 (Pu.g fun d=>by simp only [j8 d];with_reducible exact pGt) ?_
  refine b6 (M2 _ _) ?_
  refine u5 h (fun _ h=>?_) (fun _ h=>?_)
  ·refine b6 (b7n) ?_
   refine A5 di Tryz.sizeOf32 (vs:=[(vi 0),(vi 0),(vi 0),(nS),(nS),(nS)]) fun jw ek jx=>?_
   refine Q4 Tryz.isAgg32 Tryz.sizeOf32 rfl ek ?_
   exact hR _ ei _ _ ek.drop.drop ⟨(f7.mk 0 0 0 (Sl.mk none 0 0) (Sl.mk none 0 0) (Sl.mk none 0 0)),0,80,rfl,rfl,h⟩
  ·have hj1:∀(bu:l9)(cn:Sl)(co:Int)(cc:(List Int))(cp:(List (List Int)))(cq:Sl)(cd:(List d5))(ce:Sl)(cf:Frag)(cr:Sl)(ct:Frag)(cg:Sl)(ch:Frag)(j:Nat)(H:Hp)(w:World)(_:RowL 2 1 i6 ce cc cf)(_:RowsL 26 2 1 i6 cr cp ct)(_:RowL 87 3 m6 cg cd ch)(_:Inv w0 ps0 H0 H [bx j 78 [(vs bu.o9),(vi bu.t8),(vs bu.m8),(vi bu.o7),(vi bu.B6),(vs bu.B5),(vs cn),(vi co),(vs ce),(vs cr),(vs cq),(vs cg)],bx bt 32 [(vi (f7.mk 0 0 0 (Sl.mk none 0 0) (Sl.mk none 0 0) (Sl.mk none 0 0)).P0),(vi (f7.mk 0 0 0 (Sl.mk none 0 0) (Sl.mk none 0 0) (Sl.mk none 0 0)).a0f),(vi (f7.mk 0 0 0 (Sl.mk none 0 0) (Sl.mk none 0 0) (Sl.mk none 0 0)).J8),(Value.slice (f7.mk 0 0 0 (Sl.mk none 0 0) (Sl.mk none 0 0) (Sl.mk none 0 0)).K8.a (f7.mk 0 0 0 (Sl.mk none 0 0) (Sl.mk none 0 0) (Sl.mk none 0 0)).K8.n (f7.mk 0 0 0 (Sl.mk none 0 0) (Sl.mk none 0 0) (Sl.mk none 0 0)).K8.c),(Value.slice (f7.mk 0 0 0 (Sl.mk none 0 0) (Sl.mk none 0 0) (Sl.mk none 0 0)).o9.a (f7.mk 0 0 0 (Sl.mk none 0 0) (Sl.mk none 0 0) (Sl.mk none 0 0)).o9.n (f7.mk 0 0 0 (Sl.mk none 0 0) (Sl.mk none 0 0) (Sl.mk none 0 0)).o9.c),(Value.slice (f7.mk 0 0 0 (Sl.mk none 0 0) (Sl.mk none 0 0) (Sl.mk none 0 0)).m8.a (f7.mk 0 0 0 (Sl.mk none 0 0) (Sl.mk none 0 0) (Sl.mk none 0 0)).m8.n (f7.mk 0 0 0 (Sl.mk none 0 0) (Sl.mk none 0 0) (Sl.mk none 0 0)).m8.c)],bx bs 39 (s7 x0),cf,ct,ch] w)(_:U9 x2 bu cn co cc cp cq cd (f7.mk 0 0 0 (Sl.mk none 0 0) (Sl.mk none 0 0) (Sl.mk none 0 0)) x0 H K),c6m (vi x2) (Value.pointer (some ⟨bs,0,none⟩)) (Value.pointer (some ⟨bt,0,none⟩)) (Value.pointer (some ⟨j,0,none⟩)) w R E:=by
    intro bu cn co cc cp cq cd ce cf cr ct cg ch j H w fg fh fi I h
    intro _
    have hj2:∀(bv:l9)(cu:Sl)(cv:Int)(cw:(List (List Int)))(cx:Sl)(cy:f7)(cz:Sl)(da:Frag)(H:Hp)(w:World)(_:RowsL 26 2 1 i6 cz cw da)(_:Inv w0 ps0 H0 H [bx j 78 [(vs bv.o9),(vi bv.t8),(vs bv.m8),(vi bv.o7),(vi bv.B6),(vs bv.B5),(vs cu),(vi cv),(vs ce),(vs cz),(vs cx),(vs cg)],bx bt 32 (q7 cy),bx bs 39 (s7 x0),cf,ch,da] w)(_:a1Q x2 bv cu cv cc cw cx cd cy x0 H K),c6l (vi x2) (Value.pointer (some ⟨bs,0,none⟩)) (Value.pointer (some ⟨bt,0,none⟩)) (Value.pointer (some ⟨j,0,none⟩)) w R E:=by
     intro bv cu cv cw cx cy cz da H w fj I h
     intro _
     refine b6 (b9R _) ?_
     refine s6 I Tryz.zeroValue32 (cs:=[(vi 0),(vi 0),(vi 0),(nS),(nS),(nS)]) rfl fun db jy fk jz=>?_
     refine A5 fk Tryz.sizeOf32 (vs:=[(vi 1),(vi 0),(vi 0),(nS),(nS),(nS)]) fun ka fl kb=>?_
     refine f9 Tryz.call18 h fl ?_
     rintro _ fm _ kc fn _ _ ⟨rfl,rfl,h⟩
     refine s6 fn Tryz.zeroValue81 (cs:=[Value.nilFunc,Value.nilFunc,Value.nilFunc,Value.nilFunc,Value.nilFunc,Value.nilFunc,Value.nilFunc,Value.nilFunc,Value.nilFunc,Value.nilFunc,Value.nilFunc,Value.nilFunc,Value.nilFunc,Value.nilFunc,Value.nilFunc]) rfl fun dj kd fo ke=>?_
     refine A5 fo Tryz.sizeOf81 (vs:=[Value.nilFunc,(fC 31),(fC 32),(fC 33),(fC 34),(fC 35),(fC 36),(fC 37),(fC 38),(fC 39),(fC 40),(fC 41),(fC 31),(fC 42),(fC 43)]) fun kf fp kg=>?_
     have hj3:∀(bl:f7)(bw:l9)(dk:Sl)(dc:Int)(dl:(List Int))(dm:(List (List Int)))(dn:Sl)(dp:(List d5))(dq:f7)(bm:Sl)(dr:Frag)(bz:Sl)(ds:Frag)(ca:Sl)(dt:Frag)(H:Hp)(w:World)(_:RowL 2 1 i6 bm dl dr)(_:RowsL 26 2 1 i6 bz dm ds)(_:RowL 87 3 m6 ca dp dt)(_:Inv w0 ps0 H0 H [bx db 32 (q7 bl),bx j 78 [(vs bw.o9),(vi bw.t8),(vs bw.m8),(vi bw.o7),(vi bw.B6),(vs bw.B5),(vs dk),(vi dc),(vs bm),(vs bz),(vs dn),(vs ca)],bx dj 81 [Value.nilFunc,(fC 31),(fC 32),(fC 33),(fC 34),(fC 35),(fC 36),(fC 37),(fC 38),(fC 39),(fC 40),(fC 41),(fC 31),(fC 42),(fC 43)],bx bt 32 (q7 dq),bx bs 39 (s7 x0),dr,ds,dt] w)(_:Q8 bl bw dk dc dl dm dn dp dq x0 H K),c6k (Value.pointer (some ⟨bs,0,none⟩)) (Value.pointer (some ⟨bt,0,none⟩)) (Value.pointer (some ⟨j,0,none⟩)) (Value.pointer (some ⟨db,0,none⟩)) w R E:=by
      intro bl bw dk dc dl dm dn dp dq bm dr bz ds ca dt H w fq fs ft I h
      intro _
      refine C6 I fun kh cj=>?_
      refine d6 (m7 _) ?_
      refine d6 a3V ?_
      refine d6 (m7 _) ?_
      refine d6 a0h ?_
      refine d6 a3U ?_
      refine d6 a3U ?_
      refine d6 (m7 _) ?_
      refine d6 a7l ?_
      refine i8 (l1 Tryz.isAgg29 (cj.bring 1) rfl) ?_
      refine d6 a5R ?_
      refine i8 (l1 Tryz.isAgg26 (cj.bring 1) rfl) ?_
      refine i8 (l1 Tryz.isAgg36 (cj.bring 4) rfl) ?_
      refine d6 (a2G _ _ _) ?_
      refine i8 (l1 Tryz.isAgg36 (cj.bring 4) rfl) ?_
      refine d6 (a2G _ _ _) ?_
      obtain ⟨fu,ci,fv,fw,fx⟩:=Inv.freezeC (cj.bring 5) fq (by decide)
      replace h:=h bm fu fv fw fx
      obtain ⟨fy,fz,ga,h⟩:=h
      refine d6 (c2E Tryz.underlying26 Tryz.sizeOf2 bm fy fz ga) ?_
      refine i8 (l1 Tryz.isAgg30 (ci.bring 1) rfl) ?_
      refine K2 ci Tryz.sizeOf29 fun ki el dd=>?_
      refine ⟨(dd _ (Inv.b0f ((ci.bring 1).bring 1))),(dd _ (Inv.b0f ((ci.bring 4).bring 1))),(dd _ (Inv.b0f ((ci.bring 4).bring 1))),(dd _ (Inv.b0f ((ci.bring 1).bring 1))),?_⟩
      refine d6 a3T ?_
      refine K2 el Tryz.sizeOf26 fun kj gb gc=>?_
      refine ⟨(gc _ (Inv.b0f ((el.bring 1).bring 1))),?_⟩
      refine d6 a2I ?_
      refine K2 gb Tryz.sizeOf30 fun kk gd kl=>?_
      refine C6 gd fun km de=>?_
      refine d6 (m7 _) ?_
      refine d6 a9y ?_
      refine i8 (ldA Tryz.isAgg32 Tryz.sizeOf32 rfl (de.at1 (o:=0) (vs:=[(vi bl.P0),(vi bl.a0f),(vi bl.J8),(vs ca),(Value.slice (bm.cut 0 ((x0.o9.n:Int):Int).toNat ((x0.o9.n:Int):Int).toNat 1).a (bm.cut 0 ((x0.o9.n:Int):Int).toNat ((x0.o9.n:Int):Int).toNat 1).n (bm.cut 0 ((x0.o9.n:Int):Int).toNat ((x0.o9.n:Int):Int).toNat 1).c),(vs bz)]) (nb rfl) rfl)) ?_
      refine i8 (l1 Tryz.isAgg3 (de.bring 1) rfl) ?_
      refine A5 (de.bring 3) Tryz.sizeOf32 (vs:=[(vi bl.P0),(vi bl.a0f),(vi bl.J8),(vs ca),(Value.slice (bm.cut 0 ((x0.o9.n:Int):Int).toNat ((x0.o9.n:Int):Int).toNat 1).a (bm.cut 0 ((x0.o9.n:Int):Int).toNat ((x0.o9.n:Int):Int).toNat 1).n (bm.cut 0 ((x0.o9.n:Int):Int).toNat ((x0.o9.n:Int):Int).toNat 1).c),(vs bz)]) fun kn em ge=>?_
      refine ⟨(ge _ (Inv.b0f ((de.bring 1).bring 3))),?_⟩
      refine Q4 Tryz.isAgg32 Tryz.sizeOf32 rfl em ?_
      obtain ⟨gf,gg,gh,gi,gj⟩:=Inv.freezeC (em.bring 6) ft (by decide)
      replace h:=h ca gf gh gi gj
      obtain ⟨en,gk,gl,gm,gn⟩:=Inv.freezeLL (gg.bring 5) fs (by decide)
      replace h:=h bz en gl gm gn
      exact hR _ en _ _ gk.drop.drop.drop.drop.drop ⟨(f7.mk bl.P0 bl.a0f bl.J8 ca (bm.cut 0 ((x0.o9.n:Int):Int).toNat ((x0.o9.n:Int):Int).toNat 1) bz),dc,0,rfl,rfl,h⟩
     refine v6 fun j3 hx3=>?_
     obtain ⟨du,ck,go,gp⟩:=h
     refine K7 (J:=fun n l w=>∃(s:f7×l9×Sl×Int×(List Int)×(List (List Int))×Sl×(List d5)×f7)(H:Hp)(ao:Sl)(ap:Frag)(aq:Sl)(ar:Frag)(au:Sl)(av:Frag),n=ck s∧l=(match s with | (af,am,be,bf,bi,bj,bg,bk,bb)=>[])∧(match s with | (af,am,be,bf,bi,bj,bg,bk,bb)=>RowL 2 1 i6 ao bi ap)∧(match s with | (af,am,be,bf,bi,bj,bg,bk,bb)=>RowsL 26 2 1 i6 aq bj ar)∧(match s with | (af,am,be,bf,bi,bj,bg,bk,bb)=>RowL 87 3 m6 au bk av)∧(match s with | (af,am,be,bf,bi,bj,bg,bk,bb)=>Inv w0 ps0 H0 H [bx dj 81 [Value.nilFunc,(fC 31),(fC 32),(fC 33),(fC 34),(fC 35),(fC 36),(fC 37),(fC 38),(fC 39),(fC 40),(fC 41),(fC 31),(fC 42),(fC 43)],bx db 32 (q7 af),bx j 78 [(vs am.o9),(vi am.t8),(vs am.m8),(vi am.o7),(vi am.B6),(vs am.B5),(vs be),(vi bf),(vs ao),(vs aq),(vs bg),(vs au)],bx bt 32 (q7 bb),bx bs 39 (s7 x0),ap,ar,av] w)∧du s H) ⟨_,((f7.mk 1 0 0 (Sl.mk none 0 0) (Sl.mk none 0 0) (Sl.mk none 0 0)),bv,cu,cv,cc,cw,cx,cd,cy),fm,ce,cf,cz,da,cg,ch,rfl,rfl,fg,fj,fi,((((((((fp.bring 6).bring 7).bring 7).bring 7).bring 7).bring 7).bring 7).bring 7),go⟩ ?_
     rintro ko kp w next4 ⟨⟨af,am,be,bf,bi,bj,bg,bk,bb⟩,H,ao,ap,aq,ar,au,av,rfl,eo,aw,ax,ay,I,gq⟩ hn4
     dsimp only at eo I aw ax ay
     clear eo
     obtain ⟨n4,hm4,h⟩:∃n4:(f7×l9×Sl×Int×(List Int)×(List (List Int))×Sl×(List d5)×f7)→Hp→Prop,(∀s' H',n4 s' H'→du s' H'∧ck s' < ck (af,am,be,bf,bi,bj,bg,bk,bb))∧a4a x2 x0 af am be bf bi bj bg bk bb H n4 K:=⟨_,fun _ _ h=>h,gp (af,am,be,bf,bi,bj,bg,bk,bb) H (fun s' H'=>du s' H'∧ck s' < ck (af,am,be,bf,bi,bj,bg,bk,bb)) gq (fun _ _ a b=>⟨a,b⟩)⟩
     refine b6 a5N (d4 (l1 Tryz.isAgg3 (I.bring 1) rfl) (b6 pEq ?_))
     refine g7 h (fun _ h=>?_) (fun _ h=>?_)
     ·refine f9 Tryz.call19 (h j ao ap aq ar au av aw ax ay) ((((I.bring 7).bring 7).bring 7).bring 5) ?_
      rintro _ dv _ kq bc _ _ ⟨gr,gs,rfl,rfl,h⟩
      refine b6 (i5 _ _ (vi gr) rfl) (b6 (i5 _ _ (vB gs) rfl) (b6 (O4 _) ?_))
      refine b6 (Pu.g fun d=>by with_reducible exact a1I) ?_
      refine d4 (Ld.g fun d=>by simp only [j8 d];exact (l1 Tryz.isAgg37 (bc.bring 7) rfl)) ?_
      simp only [J0]
      obtain ⟨dw,an,h⟩:=h
      obtain ⟨kr,ks,an⟩:=b7P an
      refine b6 (Pu.g fun hb=>by have d:=hb;simp only [j8 d];with_reducible exact (a5h (an hb).2.2.1 _ _ _ _ (an hb).1 (an hb).2.1)) ?_
      refine b6 (Pu.g fun d=>by simp only [j8 d];with_reducible exact a1J) ?_
      refine d4 (Ld.g fun hb=>by have d:=hb;simp only [j8 d];exact (ld1 (v:=(vi dw.b8)) Tryz.isAgg3 ((bc.atH (an hb).2.2.2).sub (k:=2) (n:=1) (nb rfl)))) ?_
      refine b6 (Pu.g fun d=>by simp only [j8 d];with_reducible exact pEq) ?_
      simp only [b4f,c2B]
      refine b6 (Pu.e (a1o _ _ _) (Pu.g fun hb=>by obtain ⟨d,f⟩:=a4M hb;simp only [j8 hb];with_reducible exact (m7 _))) ?_
      refine b6 (Pu.e (a1o _ _ _) (Pu.g fun hb=>by obtain ⟨d,f⟩:=a4M hb;simp only [j8 hb];with_reducible exact a9z)) ?_
      refine d4 (Ld.e (a1o _ _ _) (Ld.g fun hb=>by obtain ⟨d,f⟩:=a4M hb;simp only [j8 hb];exact (l1 Tryz.isAgg26 bc rfl))) ?_
      refine b6 (Pu.e (a1o _ _ _) (Pu.g fun hb=>by obtain ⟨d,f⟩:=a4M hb;simp only [j8 hb];with_reducible exact (a1T _ _ _))) ?_
      refine b6 (Pu.e (a1o _ _ _) (Pu.g fun hb=>by obtain ⟨d,f⟩:=a4M hb;simp only [j8 hb];with_reducible exact pEq)) ?_
      refine b6 (Pu.g fun d=>by simp only [j8 d,b5G d];with_reducible exact (E0 _ _)) ?_
      refine b6 (M2 _ _) ?_
      refine u5 h (fun _ h=>?_) (fun _ h=>?_)
      ·refine b6 a5N ?_
       refine K2 (bc.bring 5) Tryz.sizeOf3 fun kt gt ku=>?_
       exact hx3 _ _ (hj3 (f7.mk 2 af.a0f af.J8 af.K8 af.o9 af.m8) am be bf bi bj bg bk bb ao ap aq ar au av dv _ aw ax ay ((((((((gt.bring 4).bring 4).bring 4).bring 7).bring 7).bring 7).bring 7).bring 7) h)
      ·refine b6 a5O (d4 (l1 Tryz.isAgg3 (bc.bring 5) rfl) (b6 pEq ?_))
       refine g7 h (fun _ h=>?_) (fun _ h=>?_)
       ·exact hx3 _ _ (hj3 af am be bf bi bj bg bk bb ao ap aq ar au av dv _ aw ax ay ((((((((bc.bring 3).bring 3).bring 3).bring 7).bring 7).bring 6).bring 6).bring 7) h)
       ·refine b6 a5O (d4 (l1 Tryz.isAgg3 (bc.bring 5) rfl) (b6 pAd (b6 a5O ?_)))
        refine K2 (bc.bring 5) Tryz.sizeOf3 fun kv dx kw=>?_
        refine b6 a1I (d4 (l1 Tryz.isAgg37 (dx.bring 7) rfl) ?_)
        obtain ⟨gu,gv,p,dy,h⟩:=h
        obtain ⟨kx,ky,gw,dy⟩:=dy
        refine b6 (a5h gw _ _ _ _ gu gv) (d4 (ldA (vs:=(d7 p)) Tryz.isAgg49 Tryz.sizeOf49 rfl (dx.atH dy)) ?_)
        refine s6 dx Tryz.zeroValue49 (cs:=[(vi 0),(vi 0),(vi 0),(vi 0),(vi 0),(vi 0),(vi 0),(vi 0),(vi 0),(vi 0)]) rfl fun gx kz gy la=>?_
        refine A5 gy Tryz.sizeOf49 (vs:=(d7 p)) fun lb gz lc=>?_
        refine C6 gz fun ep az=>?_
        refine d6 a1J ?_
        refine i8 (l1 Tryz.isAgg3 az rfl) ?_
        obtain ⟨eq,er,h⟩:=h
        refine d6 (c2L _ _ eq er) ?_
        refine i8 (ld1 (v:=(([Value.nilFunc,(fC 31),(fC 32),(fC 33),(fC 34),(fC 35),(fC 36),(fC 37),(fC 38),(fC 39),(fC 40),(fC 41),(fC 31),(fC 42),(fC 43)]:List Value).getD (p.b8:Int).toNat undef)) Tryz.isAgg80 ((az.bring 6).d3z (n:=15) rfl eq er)) ?_
        refine i8 (lW Tryz.isAgg49 Tryz.sizeOf49 rfl az) ?_
        obtain ⟨ha,hc,hd,he,hf,hg,hh,hi,hj,hk,hl,hm,hn,ho,hp,hq,hr⟩:=h
        refine c0j (D:=fun es ba=>∃(r:Int)(m:b9)(t:(List Int))(u:(List (List Int)))(y:(List d5))(z:Sl)(aa:Frag)(ab:Sl)(ac:Frag)(ad:Sl)(ae:Frag)(q:Hp),es=(vi r)∧(RowL 2 1 i6 z t aa)∧(RowsL 26 2 1 i6 ab u ac)∧(RowL 87 3 m6 ad y ae)∧(Inv w0 ps0 H0 q [bx j 78 (m9 m z ab ad),aa,ac,ae,bx gx 49 (d7 p),bx db 32 [(vi af.P0),(vi af.a0f),(vi (IntKind.wrap .i64 (af.J8+1))),(vs af.K8),(vs af.o9),(vs af.m8)],bx dj 81 [Value.nilFunc,(fC 31),(fC 32),(fC 33),(fC 34),(fC 35),(fC 36),(fC 37),(fC 38),(fC 39),(fC 40),(fC 41),(fC 31),(fC 42),(fC 43)],bx bt 32 (q7 bb),bx bs 39 (s7 x0)] ba)∧(∀i,i < ep.heap.size→¬inF [bx j 78 [(vs am.o9),(vi am.t8),(vs am.m8),(vi am.o7),(vi am.B6),(vs am.B5),(vs be),(vi bf),(vs ao),(vs aq),(vs bg),(vs au)],ap,ar,av] i→ba.heap[i]? = ep.heap[i]?)∧Hle dv q∧(ha r m t u y q)) ?_ ?_
        ·obtain e | e | e | e | e | e | e | e | e | e | e | e | e | e | e:=(by omega:(p.b8:Int)=0∨(p.b8:Int)=1∨(p.b8:Int)=2∨(p.b8:Int)=3∨(p.b8:Int)=4∨(p.b8:Int)=5∨(p.b8:Int)=6∨(p.b8:Int)=7∨(p.b8:Int)=8∨(p.b8:Int)=9∨(p.b8:Int)=10∨(p.b8:Int)=11∨(p.b8:Int)=12∨(p.b8:Int)=13∨(p.b8:Int)=14)
         ·exact (hd e).elim
         ·replace h:=he e
          refine a0E (s':=xCall (fC 31) [(Value.pointer (some ⟨j,0,none⟩)),(Value.agg (d7 p).toArray)]) (by rw [e];rfl) ?_
          refine f9 Tryz.call31 (h j ao ap aq ar au av aw ax ay) ((((az.bring 5).bring 5).bring 5).bring 5) ?_
          rintro _ q _ ba aj ak al ⟨r,m,t,u,y,z,aa,ab,ac,ad,ae,rfl,rfl,ag,ah,ai,h⟩
          exact ⟨r,m,t,u,y,z,aa,ab,ac,ad,ae,q,rfl,ag,ah,ai,aj,al,ak,h⟩
         ·replace h:=hf e
          refine a0E (s':=xCall (fC 32) [(Value.pointer (some ⟨j,0,none⟩)),(Value.agg (d7 p).toArray)]) (by rw [e];rfl) ?_
          refine f9 Tryz.call32 (h j ao ap aq ar au av aw ax ay) ((((az.bring 5).bring 5).bring 5).bring 5) ?_
          rintro _ q _ ba aj ak al ⟨r,m,t,u,y,z,aa,ab,ac,ad,ae,rfl,rfl,ag,ah,ai,h⟩
          exact ⟨r,m,t,u,y,z,aa,ab,ac,ad,ae,q,rfl,ag,ah,ai,aj,al,ak,h⟩
         ·replace h:=hg e
          refine a0E (s':=xCall (fC 33) [(Value.pointer (some ⟨j,0,none⟩)),(Value.agg (d7 p).toArray)]) (by rw [e];rfl) ?_
          refine f9 Tryz.call33 (h j ao ap aq ar au av aw ax ay) ((((az.bring 5).bring 5).bring 5).bring 5) ?_
          rintro _ q _ ba aj ak al ⟨r,m,t,u,y,z,aa,ab,ac,ad,ae,rfl,rfl,ag,ah,ai,h⟩
          exact ⟨r,m,t,u,y,z,aa,ab,ac,ad,ae,q,rfl,ag,ah,ai,aj,al,ak,h⟩
         ·replace h:=hh e
          refine a0E (s':=xCall (fC 34) [(Value.pointer (some ⟨j,0,none⟩)),(Value.agg (d7 p).toArray)]) (by rw [e];rfl) ?_
          refine f9 Tryz.call34 (h j ao ap aq ar au av aw ax ay) ((((az.bring 5).bring 5).bring 5).bring 5) ?_
          rintro _ q _ ba aj ak al ⟨r,m,t,u,y,z,aa,ab,ac,ad,ae,rfl,rfl,ag,ah,ai,h⟩
          exact ⟨r,m,t,u,y,z,aa,ab,ac,ad,ae,q,rfl,ag,ah,ai,aj,al,ak,h⟩
         ·replace h:=hi e
          refine a0E (s':=xCall (fC 35) [(Value.pointer (some ⟨j,0,none⟩)),(Value.agg (d7 p).toArray)]) (by rw [e];rfl) ?_
          refine f9 Tryz.call35 (h j ao ap aq ar au av aw ax ay) ((((az.bring 5).bring 5).bring 5).bring 5) ?_
          rintro _ q _ ba aj ak al ⟨r,m,t,u,y,z,aa,ab,ac,ad,ae,rfl,rfl,ag,ah,ai,h⟩
          exact ⟨r,m,t,u,y,z,aa,ab,ac,ad,ae,q,rfl,ag,ah,ai,aj,al,ak,h⟩
         ·replace h:=hj e
          refine a0E (s':=xCall (fC 36) [(Value.pointer (some ⟨j,0,none⟩)),(Value.agg (d7 p).toArray)]) (by rw [e];rfl) ?_
          refine f9 Tryz.call36 (h j ao ap aq ar au av aw ax ay) ((((az.bring 5).bring 5).bring 5).bring 5) ?_
          rintro _ q _ ba aj ak al ⟨r,m,t,u,y,z,aa,ab,ac,ad,ae,rfl,rfl,ag,ah,ai,h⟩
          exact ⟨r,m,t,u,y,z,aa,ab,ac,ad,ae,q,rfl,ag,ah,ai,aj,al,ak,h⟩
         ·replace h:=hk e
          refine a0E (s':=xCall (fC 37) [(Value.pointer (some ⟨j,0,none⟩)),(Value.agg (d7 p).toArray)]) (by rw [e];rfl) ?_
          refine f9 Tryz.call37 (h j ao ap aq ar au av aw ax ay) ((((az.bring 5).bring 5).bring 5).bring 5) ?_
          rintro _ q _ ba aj ak al ⟨r,m,t,u,y,z,aa,ab,ac,ad,ae,rfl,rfl,ag,ah,ai,h⟩
          exact ⟨r,m,t,u,y,z,aa,ab,ac,ad,ae,q,rfl,ag,ah,ai,aj,al,ak,h⟩
         ·replace h:=hl e
          refine a0E (s':=xCall (fC 38) [(Value.pointer (some ⟨j,0,none⟩)),(Value.agg (d7 p).toArray)]) (by rw [e];rfl) ?_
          refine f9 Tryz.call38 (h j ao ap aq ar au av aw ax ay) ((((az.bring 5).bring 5).bring 5).bring 5) ?_
          rintro _ q _ ba aj ak al ⟨r,m,t,u,y,z,aa,ab,ac,ad,ae,rfl,rfl,ag,ah,ai,h⟩
          exact ⟨r,m,t,u,y,z,aa,ab,ac,ad,ae,q,rfl,ag,ah,ai,aj,al,ak,h⟩
         ·replace h:=hm e
          refine a0E (s':=xCall (fC 39) [(Value.pointer (some ⟨j,0,none⟩)),(Value.agg (d7 p).toArray)]) (by rw [e];rfl) ?_
          refine f9 Tryz.call39 (h j ao ap aq ar au av aw ax ay) ((((az.bring 5).bring 5).bring 5).bring 5) ?_
          rintro _ q _ ba aj ak al ⟨r,m,t,u,y,z,aa,ab,ac,ad,ae,rfl,rfl,ag,ah,ai,h⟩
          exact ⟨r,m,t,u,y,z,aa,ab,ac,ad,ae,q,rfl,ag,ah,ai,aj,al,ak,h⟩
         ·replace h:=hn e
          refine a0E (s':=xCall (fC 40) [(Value.pointer (some ⟨j,0,none⟩)),(Value.agg (d7 p).toArray)]) (by rw [e];rfl) ?_
          refine f9 Tryz.call40 (h j ao ap aq ar au av aw ax ay) ((((az.bring 5).bring 5).bring 5).bring 5) ?_
          rintro _ q _ ba aj ak al ⟨r,m,t,u,y,z,aa,ab,ac,ad,ae,rfl,rfl,ag,ah,ai,h⟩
          exact ⟨r,m,t,u,y,z,aa,ab,ac,ad,ae,q,rfl,ag,ah,ai,aj,al,ak,h⟩
         ·replace h:=ho e
          refine a0E (s':=xCall (fC 41) [(Value.pointer (some ⟨j,0,none⟩)),(Value.agg (d7 p).toArray)]) (by rw [e];rfl) ?_
          refine f9 Tryz.call41 (h j ao ap aq ar au av aw ax ay) ((((az.bring 5).bring 5).bring 5).bring 5) ?_
          rintro _ q _ ba aj ak al ⟨r,m,t,u,y,z,aa,ab,ac,ad,ae,rfl,rfl,ag,ah,ai,h⟩
          exact ⟨r,m,t,u,y,z,aa,ab,ac,ad,ae,q,rfl,ag,ah,ai,aj,al,ak,h⟩
         ·replace h:=hp e
          refine a0E (s':=xCall (fC 31) [(Value.pointer (some ⟨j,0,none⟩)),(Value.agg (d7 p).toArray)]) (by rw [e];rfl) ?_
          refine f9 Tryz.call31 (h j ao ap aq ar au av aw ax ay) ((((az.bring 5).bring 5).bring 5).bring 5) ?_
          rintro _ q _ ba aj ak al ⟨r,m,t,u,y,z,aa,ab,ac,ad,ae,rfl,rfl,ag,ah,ai,h⟩
          exact ⟨r,m,t,u,y,z,aa,ab,ac,ad,ae,q,rfl,ag,ah,ai,aj,al,ak,h⟩
         ·replace h:=hq e
          refine a0E (s':=xCall (fC 42) [(Value.pointer (some ⟨j,0,none⟩)),(Value.agg (d7 p).toArray)]) (by rw [e];rfl) ?_
          refine f9 Tryz.call42 (h j ao ap aq ar au av aw ax ay) ((((az.bring 5).bring 5).bring 5).bring 5) ?_
          rintro _ q _ ba aj ak al ⟨r,m,t,u,y,z,aa,ab,ac,ad,ae,rfl,rfl,ag,ah,ai,h⟩
          exact ⟨r,m,t,u,y,z,aa,ab,ac,ad,ae,q,rfl,ag,ah,ai,aj,al,ak,h⟩
         ·replace h:=hr e
          refine a0E (s':=xCall (fC 43) [(Value.pointer (some ⟨j,0,none⟩)),(Value.agg (d7 p).toArray)]) (by rw [e];rfl) ?_
          refine f9 Tryz.call43 (h j ao ap aq ar au av aw ax ay) ((((az.bring 5).bring 5).bring 5).bring 5) ?_
          rintro _ q _ ba aj ak al ⟨r,m,t,u,y,z,aa,ab,ac,ad,ae,rfl,rfl,ag,ah,ai,h⟩
          exact ⟨r,m,t,u,y,z,aa,ab,ac,ad,ae,q,rfl,ag,ah,ai,aj,al,ak,h⟩
        ·rintro es ba ⟨r,m,t,u,y,z,aa,ab,ac,ad,ae,q,rfl,ag,ah,ai,aj,al,ak,h⟩
         replace h:=hc _ _ _ _ _ _ h
         refine d6 a9A ?_
         refine K2 (aj.bring 5) Tryz.sizeOf3 fun ld df le=>?_
         refine b6 a9A (d4 (l1 Tryz.isAgg3 df rfl) (b6 pNe ?_))
         refine a2f h (fun _ h=>?_) (fun _ h=>?_)
         ·refine b6 a5N ?_
          refine K2 df Tryz.sizeOf3 fun lf hs lg=>?_
          exact hx3 _ _ (hj3 (f7.mk 3 r (IntKind.wrap .i64 (af.J8+1)) af.K8 af.o9 af.m8) m.fc m.ffrom m.fpoint t u m.fscript y bb z aa ab ac ad ae q _ ag ah ai (((((((((hs.bring 5).drop.bring 4).bring 4).bring 4).bring 7).bring 7).bring 7).bring 7).bring 7) h)
         ·refine b6 b2n (d4 (l1 Tryz.isAgg3 (df.bring 5) rfl) (b6 (m7 _) (b6 a9y ?_)))
          refine K2 (df.bring 1) Tryz.sizeOf3 fun lh ht li=>?_
          exact hn4 _ _ _ (hm4 _ _ h).2 ⟨((f7.mk af.P0 r (IntKind.wrap .i64 (af.J8+1)) af.K8 af.o9 af.m8),m.fc,m.ffrom,p.fTo,t,u,m.fscript,y,bb),q,z,aa,ab,ac,ad,ae,rfl,rfl,ag,ah,ai,(((((((((ht.bring 5).drop.bring 4).bring 4).bring 4).bring 7).bring 7).bring 5).bring 6).bring 7),(hm4 _ _ h).1⟩
     ·exact hx3 _ _ (hj3 af am be bf bi bj bg bk bb ao ap aq ar au av H _ aw ax ay ((((((((I.bring 7).bring 7).bring 7).bring 7).bring 7).bring 5).bring 7).bring 7) h)
    refine v6 fun j2 hx2=>?_
    refine b6 a9x (d4 (l1 Tryz.isAgg22 (I.bring 2) rfl) (b6 (a1U _ _ _) ?_))
    obtain ⟨dz,cl,hu,hv⟩:=h
    refine K7 (J:=fun n l w=>∃(s:Int×l9×Sl×Int×(List (List Int))×Sl×f7)(H:Hp)(cm:Sl)(dg:Frag),n=cl s∧l=(match s with | (a3h,bd,bn,bo,bp,bq,br)=>[(vi a3h)])∧(match s with | (a3h,bd,bn,bo,bp,bq,br)=>RowsL 26 2 1 i6 cm bp dg)∧(match s with | (a3h,bd,bn,bo,bp,bq,br)=>Inv w0 ps0 H0 H [bx j 78 [(vs bd.o9),(vi bd.t8),(vs bd.m8),(vi bd.o7),(vi bd.B6),(vs bd.B5),(vs bn),(vi bo),(vs ce),(vs cm),(vs bq),(vs cg)],bx bt 32 (q7 br),bx bs 39 (s7 x0),cf,ch,dg] w)∧dz s H) ⟨_,(0,bu,cn,co,cp,cq,(f7.mk 0 0 0 (Sl.mk none 0 0) (Sl.mk none 0 0) (Sl.mk none 0 0))),H,cr,ct,rfl,rfl,fh,((((((I.bring 4).bring 5).bring 5).bring 5).bring 5).bring 5),hu⟩ ?_
    rintro lj lk w next5 ⟨⟨a3h,bd,bn,bo,bp,bq,br⟩,H,cm,dg,rfl,ea,eb,I,hw⟩ hn5
    dsimp only at ea I eb
    simp only [List.map_cons,List.map_nil,List.cons.injEq,and_true] at ea
    have e52:=ea
    simp only [e52]
    obtain ⟨n5,hm5,h⟩:∃n5:(Int×l9×Sl×Int×(List (List Int))×Sl×f7)→Hp→Prop,(∀s' H',n5 s' H'→dz s' H'∧cl s' < cl (a3h,bd,bn,bo,bp,bq,br))∧a4b x2 x0.m8 (x0.m8.n:Int) cc cd x0 a3h bd bn bo bp bq br H n5 K:=⟨_,fun _ _ h=>h,hv (a3h,bd,bn,bo,bp,bq,br) H (fun s' H'=>dz s' H'∧cl s' < cl (a3h,bd,bn,bo,bp,bq,br)) hw (fun _ _ a b=>⟨a,b⟩)⟩
    refine b6 pLs ?_
    refine g7 h (fun _ h=>?_) (fun _ h=>?_)
    ·obtain ⟨hx,hy,ec,ed,h⟩:=h
     obtain ⟨ll,lm,hz,ed⟩:=ed
     refine b6 (a2g hz _ _ _ _ hx hy) (d4 (ldA (vs:=(m3 ec)) Tryz.isAgg58 Tryz.sizeOf58 rfl (I.atH ed)) ?_)
     refine s6 I Tryz.zeroValue58 (cs:=[(eS),(vi 0)]) rfl fun ln lo ia lp=>?_
     refine A5 ia Tryz.sizeOf58 (vs:=(m3 ec)) fun lq ib lr=>?_
     refine C6 ib fun ls dh=>?_
     refine d6 (m7 _) ?_
     refine d6 a7l ?_
     refine d6 a0X ?_
     refine i8 (l1 Tryz.isAgg30 (dh.bring 1) rfl) ?_
     refine i8 (l1 Tryz.isAgg3 dh rfl) ?_
     obtain ⟨ic,id,h⟩:=h
     refine b8y dh ic id fun ie lt lu ig et ih=>?_
     refine ⟨(ih _ (dh.bring 1).lt1),?_⟩
     refine Y1 (e:=26) (c:=csl) (xs:=[ie]) et (c7k _ _ _) rfl rfl a9u a9v (nb rfl) fun lv lw lx ii ij ik=>?_
     refine ⟨(ik _ (et.bring 2).lt1),?_⟩
     obtain ⟨il,h⟩:=h
     obtain ⟨im,ly,io,ip,eu,iq⟩:=RowsL.split eb (((ij.bring 1).bring 1).d2E.bring 7)
     obtain ⟨lz,ma,ir,it,ev,ew⟩:=RowsL.split (RowsL.one ii ig) (iq.bring 2)
     refine c9r (s:=cm) (xs:=im) (ew.bring 2) ip (it.srcO ((ew.bring 2).bring 1)) (by rw [eu.len,ev.len];exact il) fun iu iv mb iw ix mc=>?_
     refine d6 (m7 _) ?_
     refine d6 a7l ?_
     refine K2 (((((ix.bring 1).drop.bring 1).bring 2).bring 2).a3e.bring 2) Tryz.sizeOf30 fun md iy me=>?_
     refine b6 pAd ?_
     exact hn5 _ _ _ (hm5 _ _ h).2 ⟨((IntKind.wrap .i64 (a3h+1)),bd,bn,bo,(bp++[List.replicate (ec.C1:Int).toNat 0]),bq,br),H,iu,(iv++(io++ir)),rfl,rfl,(RowsL.app iw eu ev),(((((((iy.bring 2).drop.bring 1).bring 5).bring 5).bring 5).bring 5).bring 5),(hm5 _ _ h).1⟩
    ·exact hx2 _ _ (hj2 bd bn bo bp bq br cm dg H _ eb ((((((I.bring 5).bring 5).bring 5).bring 5).bring 5).bring 5) h)
   refine v6 fun j1 hx1=>?_
   refine C6 di fun mf bh=>?_
   refine d6 a3U ?_
   refine d6 a2F ?_
   refine i8 (lW Tryz.isAgg39 Tryz.sizeOf39 rfl (bh.bring 1)) ?_
   refine i8 (lW Tryz.isAgg39 Tryz.sizeOf39 rfl (bh.bring 1)) ?_
   refine i8 (l1 Tryz.isAgg36 (bh.bring 1) rfl) ?_
   refine d6 (a2G _ _ _) ?_
   refine i8 (l1 Tryz.isAgg3 (bh.bring 1) rfl) ?_
   refine d6 pAd ?_
   refine ⟨?_,?_⟩
   ·replace h:=h.1
    refine f9 Tryz.call17 h bh ?_
    rintro _ iz _ mg ee _ ef ⟨ex,rfl,rfl,h⟩
    refine ⟨(ef _ (bh.bring 1).lt1 (Inv.E1 (Fi:=[]) (bh.bring 1))),(ef _ (bh.bring 1).lt1 (Inv.E1 (Fi:=[]) (bh.bring 1))),(ef _ (bh.bring 1).lt1 (Inv.E1 (Fi:=[]) (bh.bring 1))),?_⟩
    obtain ⟨ja,jb,h⟩:=h
    refine b8y ee ja jb fun ey jc mh jd je ez=>?_
    refine ⟨(ez _ (ee.bring 1).lt1),(ez _ (ee.bring 1).lt1),?_⟩
    refine d6 (a9l _ _ _ _ _ _ _ _ _ _ _ _ _ _ _ _ _ _ _ _ _) ?_
    refine z7 je (cs:=[(vs x0.o9),(vi x0.t8),(vs x0.m8),(vi x0.o7),(vi x0.B6),(vs x0.B5),(vs ex),(vi 0),(vs ey),(nS),(vs x1),(nS)]) rfl fun jf mi jg mj=>?_
    exact hx1 _ _ (hj1 x0 ex 0 (List.replicate (IntKind.wrap .i64 ((x0.o9.n:Int)+x0.t8):Int).toNat 0) [] x1 [] ey jc (Sl.mk none 0 0) [] (Sl.mk none 0 0) [] jf iz _ jd (RowsL.nil b2l b2m) (RowL.nil Y5 Y6) (((((jg.nil.nil.bring 1).bring 3).bring 5).bring 5).bring 5) h)
   ·replace h:=h.2
    obtain ⟨jh,ji,h⟩:=h
    refine b8y bh jh ji fun fa jj ml jk cb fb=>?_
    refine ⟨(fb _ (bh.bring 1).lt1),(fb _ (bh.bring 1).lt1),?_⟩
    refine f9 Tryz.call17 h cb ?_
    rintro _ jl _ mm jm _ eg ⟨fd,rfl,rfl,h⟩
    refine ⟨(eg _ (cb.bring 2).lt1 (Inv.E1 (Fi:=[]) (cb.bring 2))),(eg _ (cb.bring 2).lt1 (Inv.E1 (Fi:=[]) (cb.bring 2))),(eg _ (cb.bring 2).lt1 (Inv.E1 (Fi:=[]) (cb.bring 2))),?_⟩
    refine d6 (a9l _ _ _ _ _ _ _ _ _ _ _ _ _ _ _ _ _ _ _ _ _) ?_
    refine z7 jm (cs:=[(vs x0.o9),(vi x0.t8),(vs x0.m8),(vi x0.o7),(vi x0.B6),(vs x0.B5),(vs fd),(vi 0),(vs fa),(nS),(vs x1),(nS)]) rfl fun jn mn jo mo=>?_
    exact hx1 _ _ (hj1 x0 fd 0 (List.replicate (IntKind.wrap .i64 ((x0.o9.n:Int)+x0.t8):Int).toNat 0) [] x1 [] fa jj (Sl.mk none 0 0) [] (Sl.mk none 0 0) [] jn jl _ jk (RowsL.nil b2l b2m) (RowL.nil Y5 Y6) (((((jo.nil.nil.bring 1).bring 3).bring 5).bring 5).bring 5) h)
def a2W(x0:z8)(x1:Sl)(x2:Int)(H:Hp)(K:Bool→Hp→Prop):Prop:=
 a1v H (fun a b=>
 ((!a)=true→
 K false b)∧
 ((!a)=false→
 a5k x1 x2 b (fun c d=>
 ((!c)=true→
 K true d)∧
 ((!c)=false→
 b0k x0 x1 x2 d (fun k e l=>
 a5l x0 l (fun m f g=>
 (¬(f=0)→
 K true g)∧
 (f=0→
 a1H m x1 x2 g (fun n q i j=>
 TG ((decide (e=i))=true) (Q1 k n j) false j (fun(o:Bool)(p:Hp)=>
 K ((decide (e=i))&&o) p)))))))))
theorem a7Q(x0 x1 x2){H K}(h:a2W x0 x1 x2 H K):a0u x0 x1 x2 H K:=by
 refine Ct.of fun w0 w ps0 H0 R E I hR=>d2I ?_
 refine z7 I (cs:=(v7 x0)) rfl fun ai aj q ak=>?_
 refine f9 Tryz.call4 h q ?_
 rintro _ r _ al j _ _ ⟨am,rfl,rfl,h⟩
 refine b6 (O4 _) ?_
 refine u5 h (fun _ h=>?_) (fun _ h=>?_)
 ·exact hR _ r _ _ j.drop ⟨_,rfl,rfl,h⟩
 ·refine f9 Tryz.call5 h j ?_
  rintro _ s _ an d _ _ ⟨ao,rfl,rfl,h⟩
  refine b6 (O4 _) ?_
  refine u5 h (fun _ h=>?_) (fun _ h=>?_)
  ·exact hR _ s _ _ d.drop ⟨_,rfl,rfl,h⟩
  ·refine d4 (lW Tryz.isAgg25 Tryz.sizeOf25 rfl d) ?_
   refine f9 Tryz.call6 h d ?_
   rintro _ _ _ ap t _ _ ⟨u,k,rfl,rfl,h⟩
   refine b6 (i5 _ _ _ rfl) (b6 (i5 _ _ (vi k) rfl) ?_)
   refine s6 t Tryz.zeroValue32 (cs:=[(vi 0),(vi 0),(vi 0),(nS),(nS),(nS)]) rfl fun aq ar v au=>?_
   refine A5 v Tryz.sizeOf32 (vs:=(q7 u)) fun av l aw=>?_
   refine d4 (lW Tryz.isAgg25 Tryz.sizeOf25 rfl (l.bring 1)) ?_
   refine f9 Tryz.call7 h l ?_
   rintro _ y _ ax z _ _ ⟨aa,ab,rfl,rfl,h⟩
   refine b6 (i5 _ _ _ rfl) (b6 (i5 _ _ (vi ab) rfl) ?_)
   refine s6 z Tryz.zeroValue39 (cs:=[(nS),(vi 0),(nS),(vi 0),(vi 0),(nS)]) rfl fun ay az ac ba=>?_
   refine A5 ac Tryz.sizeOf39 (vs:=(s7 aa)) fun bb e bc=>?_
   refine b6 pNe ?_
   refine a2f h (fun _ h=>?_) (fun _ h=>?_)
   ·exact hR _ y _ _ e.drop.drop.drop ⟨_,rfl,rfl,h⟩
   ·refine d4 (lW Tryz.isAgg39 Tryz.sizeOf39 rfl e) ?_
    refine f9 Tryz.call8 h e ?_
    rintro _ _ _ bd ad _ _ ⟨ae,af,m,rfl,rfl,h⟩
    refine b6 (i5 _ _ _ rfl) (b6 (i5 _ _ (vi af) rfl) (b6 (i5 _ _ (vi m) rfl) ?_))
    refine s6 ad Tryz.zeroValue32 (cs:=[(vi 0),(vi 0),(vi 0),(nS),(nS),(nS)]) rfl fun be bf ag bg=>?_
    refine A5 ag Tryz.sizeOf32 (vs:=(q7 ae)) fun bh b bi=>?_
    refine b6 pEq ?_
    refine d4 (Ld.g fun a=>by exact (lW Tryz.isAgg32 Tryz.sizeOf32 rfl (b.bring 2))) ?_
    refine d4 (Ld.g fun a=>by exact (lW Tryz.isAgg32 Tryz.sizeOf32 rfl b)) ?_
    refine V4 [] (fun c:Bool=>(vB c)) h b (fun a h=>by simp only [j8 a];exact V9 Tryz.call9 h b) fun c f ah i o p h=>?_
    refine b6 (E0 _ _) ?_
    exact hR _ f _ _ i.drop.drop.drop.drop ⟨_,rfl,rfl,h⟩
def b1I(x0:Int)(x1:Int)(x2:Int)(H:Hp)(K:Bool→Hp→Prop):Prop:=
 K ((decide (x0≤x2))&&(decide (x2≤x1))) H
theorem b1J(x0 x1 x2){H K}(h:b1I x0 x1 x2 H K):L1 x0 x1 x2 H K:=by
 intro g2
 refine Ct.of fun w0 w ps0 H0 R E I hR=>c7Q ?_
 refine d4 (l1 Tryz.isAgg21 I rfl) (b6 pLe ?_)
 refine d4 (Ld.g fun a=>by exact (l1 Tryz.isAgg21 I rfl)) ?_
 simp only [J0]
 refine b6 (Pu.g fun a=>by simp only [j8 a];with_reducible exact pLe) ?_
 refine b6 (E0 _ _) ?_
 exact hR _ H _ _ I ⟨_,rfl,rfl,h⟩
def u6(C0:Bool)(H:Hp)(K:Bool→Hp→Prop):Prop:=
 (C0=true→
 K true H)∧
 (C0=false→
 K false H)
def a9p(x0:ByteArray)(H:Hp)(K:Bool→Hp→Prop):Prop:=
 (x0=⟨#[118,97,114]⟩→
 u6 (decide (x0=⟨#[118,97,114]⟩)) H K)∧
 (¬(x0=⟨#[118,97,114]⟩)→
 (x0=⟨#[97,114,114,97,121]⟩→
 u6 (decide (x0=⟨#[97,114,114,97,121]⟩)) H K)∧
 (¬(x0=⟨#[97,114,114,97,121]⟩)→
 (x0=⟨#[105,102]⟩→
 u6 (decide (x0=⟨#[105,102]⟩)) H K)∧
 (¬(x0=⟨#[105,102]⟩)→
 (x0=⟨#[101,108,115,101]⟩→
 u6 (decide (x0=⟨#[101,108,115,101]⟩)) H K)∧
 (¬(x0=⟨#[101,108,115,101]⟩)→
 (x0=⟨#[119,104,105,108,101]⟩→
 u6 (decide (x0=⟨#[119,104,105,108,101]⟩)) H K)∧
 (¬(x0=⟨#[119,104,105,108,101]⟩)→
 (x0=⟨#[97,115,115,101,114,116]⟩→
 u6 (decide (x0=⟨#[97,115,115,101,114,116]⟩)) H K)∧
 (¬(x0=⟨#[97,115,115,101,114,116]⟩)→
 (x0=⟨#[97,115,115,117,109,101]⟩→
 u6 (decide (x0=⟨#[97,115,115,117,109,101]⟩)) H K)∧
 (¬(x0=⟨#[97,115,115,117,109,101]⟩)→
 (x0=⟨#[115,107,105,112]⟩→
 u6 (decide (x0=⟨#[115,107,105,112]⟩)) H K)∧
 (¬(x0=⟨#[115,107,105,112]⟩)→
 (x0=⟨#[105,110,112,117,116]⟩→
 u6 (decide (x0=⟨#[105,110,112,117,116]⟩)) H K)∧
 (¬(x0=⟨#[105,110,112,117,116]⟩)→
 (x0=⟨#[116,114,117,101]⟩→
 u6 (decide (x0=⟨#[116,114,117,101]⟩)) H K)∧
 (¬(x0=⟨#[116,114,117,101]⟩)→
 u6 (decide (x0=⟨#[102,97,108,115,101]⟩)) H K))))))))))
theorem b4C(x0){H K}(h:a9p x0 H K):a6x x0 H K:=by
 refine Ct.of fun w0 w ps0 H0 R E I hR=>c7J ?_
 have hj1:∀(C0:Bool) H w (_:Inv w0 ps0 H0 H [] w) (_:u6 C0 H K),c0v (vB C0) w R E:=by
  intro C0 H w I h
  intro _
  refine u5 h (fun _ h=>?_) (fun _ h=>?_)
  ·exact hR _ H _ _ I ⟨_,rfl,rfl,h⟩
  ·exact hR _ H _ _ I ⟨_,rfl,rfl,h⟩
 refine v6 fun j1 hx1=>?_
 refine b6 (a1F _ _ _ _ _) ?_
 refine g7 h (fun _ h=>?_) (fun _ h=>?_)
 ·exact hx1 _ _ (hj1 (decide (x0=⟨#[118,97,114]⟩)) H _ I h)
 ·refine b6 (a1F _ _ _ _ _) ?_
  refine g7 h (fun _ h=>?_) (fun _ h=>?_)
  ·exact hx1 _ _ (hj1 (decide (x0=⟨#[97,114,114,97,121]⟩)) H _ I h)
  ·refine b6 (a1F _ _ _ _ _) ?_
   refine g7 h (fun _ h=>?_) (fun _ h=>?_)
   ·exact hx1 _ _ (hj1 (decide (x0=⟨#[105,102]⟩)) H _ I h)
   ·refine b6 (a1F _ _ _ _ _) ?_
    refine g7 h (fun _ h=>?_) (fun _ h=>?_)
    ·exact hx1 _ _ (hj1 (decide (x0=⟨#[101,108,115,101]⟩)) H _ I h)
    ·refine b6 (a1F _ _ _ _ _) ?_
     refine g7 h (fun _ h=>?_) (fun _ h=>?_)
     ·exact hx1 _ _ (hj1 (decide (x0=⟨#[119,104,105,108,101]⟩)) H _ I h)
     ·refine b6 (a1F _ _ _ _ _) ?_
      refine g7 h (fun _ h=>?_) (fun _ h=>?_)
      ·exact hx1 _ _ (hj1 (decide (x0=⟨#[97,115,115,101,114,116]⟩)) H _ I h)
      ·refine b6 (a1F _ _ _ _ _) ?_
       refine g7 h (fun _ h=>?_) (fun _ h=>?_)
       ·exact hx1 _ _ (hj1 (decide (x0=⟨#[97,115,115,117,109,101]⟩)) H _ I h)
       ·refine b6 (a1F _ _ _ _ _) ?_
        refine g7 h (fun _ h=>?_) (fun _ h=>?_)
        ·exact hx1 _ _ (hj1 (decide (x0=⟨#[115,107,105,112]⟩)) H _ I h)
        ·refine b6 (a1F _ _ _ _ _) ?_
         refine g7 h (fun _ h=>?_) (fun _ h=>?_)
         ·exact hx1 _ _ (hj1 (decide (x0=⟨#[105,110,112,117,116]⟩)) H _ I h)
         ·refine b6 (a1F _ _ _ _ _) ?_
          refine g7 h (fun _ h=>?_) (fun _ h=>?_)
          ·exact hx1 _ _ (hj1 (decide (x0=⟨#[116,114,117,101]⟩)) H _ I h)
          ·refine b6 (a1F _ _ _ _ _) ?_
           exact hx1 _ _ (hj1 (decide (x0=⟨#[102,97,108,115,101]⟩)) H _ I h)
def a7w(H:Hp)(K:Bool→Hp→Prop):Prop:=
 K true H
def a4c(b:ByteArray)(a:Nat)(H:Hp)(n2:Nat→Hp→Prop)(K:Bool→Hp→Prop):Prop:=
 (a < b.size→
 a4G ((Utf8.decode b a).1:Int) H (fun c d=>
 TG ((!(!c)&&(decide (((a:Nat):Int)=0)))=true) (a2u ((Utf8.decode b a).1:Int) d) 0 d (fun(e:Int)(f:Hp)=>
 (((!c)||((decide (((a:Nat):Int)=0))&&(!decide (e=3))))=true→
 K false f)∧
 (((!c)||((decide (((a:Nat):Int)=0))&&(!decide (e=3))))=false→
 n2 (a+(Utf8.decode b a).2) f))))∧
 (¬(a < b.size)→
 a7w H K)
def a9q(x0:ByteArray)(H:Hp)(K:Bool→Hp→Prop):Prop:=
 TG ((decide (x0=⟨#[]⟩))=false) (a4q x0 H) false H (fun(a:Bool)(c:Hp)=>
 TG (((decide (x0=⟨#[]⟩))||(!a))=false) (a6w x0 c) false c (fun(b:Bool)(d:Hp)=>
 TG ((((decide (x0=⟨#[]⟩))||(!a))||b)=false) (a6x x0 d) false d (fun(e:Bool)(f:Hp)=>
 (((((decide (x0=⟨#[]⟩))||(!a))||b)||e)=true→
 K false f)∧
 (((((decide (x0=⟨#[]⟩))||(!a))||b)||e)=false→
 TL (0:Nat) f fun(s:Nat) H n2=>a4c x0 s H n2 K))))
theorem b4D(x0){H K}(h:a9q x0 H K):a3g x0 H K:=by
 refine Ct.of fun w0 w ps0 H0 R E I hR=>c7G ?_
 refine b6 (a1F _ _ _ _ _) ?_
 simp only [J0]
 refine V4 [] (fun d:Bool=>(vB d)) h I (fun a h=>by simp only [j8 a];exact V9 Tryz.call116 h I) fun d s ai f t u h=>?_
 refine b6 (Pu.g fun a=>by simp only [j8 a];with_reducible exact (O4 _)) ?_
 refine b6 (M2 _ _) ?_
 simp only [J0]
 refine V4 [] (fun i:Bool=>(vB i)) h f (fun a h=>by simp only [j8 a];exact V9 Tryz.call117 h f) fun i y aj j z aa h=>?_
 refine b6 (M2 _ _) ?_
 simp only [J0]
 refine V4 [] (fun k:Bool=>(vB k)) h j (fun a h=>by simp only [j8 a];exact V9 Tryz.call118 h j) fun k o ak l ac ad h=>?_
 refine b6 (M2 _ _) ?_
 refine u5 h (fun _ h=>?_) (fun _ h=>?_)
 ·exact hR _ o _ _ l ⟨_,rfl,rfl,h⟩
 ·have hj1:∀H w (_:Inv w0 ps0 H0 H [] w) (_:a7w H K),c0u w R E:=by
   intro H w I h
   intro _
   exact hR _ H _ _ I ⟨_,rfl,rfl,h⟩
  refine v6 fun j1 hx1=>?_
  refine c0n Tryz.underlying9 x0 l fun al aq am ar=>?_
  refine a2P (σ:=Nat) (fun c=>[]) (fun c=>[itf al x0 c]) h rfl am ?_
  rintro c H au w next2 n2 an I h hn2
  clear an
  refine c2G I (fun p av ao aw=>?_) (fun p=>?_)
  ·replace h:=h.1 p
   refine b6 (i5 _ _ (vB true) rfl) ?_
   refine N9 (fun e=>?_) (fun e=>by cases e)
   refine b6 (i5 _ _ (vi ((c:Nat):Int)) rfl) (b6 (i5 _ _ (Value.int .i32 ((Utf8.decode x0 c).1:Int)) rfl) ?_)
   refine f9 Tryz.call119 h ao ?_
   rintro _ _ _ ax ae _ _ ⟨ay,rfl,rfl,h⟩
   refine b6 (O4 _) ?_
   simp only [J0]
   refine b6 (Pu.g fun a=>by simp only [j8 a];with_reducible exact pEq) ?_
   simp only [b4f,c2B]
   refine a0E (a1o _ _ _) ?_
   refine V4 [] (fun m:Int=>(vi m)) h ae (fun af h=>?_) fun m q ap n ag ah h=>?_
   ·obtain ⟨a,b⟩:=a4M af
    simp only [j8 af]
    refine f9 Tryz.call120 h ae ?_
    rintro _ q _ ap n ah ag ⟨m,rfl,rfl,h⟩
    exact ⟨m,q,rfl,n,ag,ah,h⟩
   refine b6 (Pu.e (a1o _ _ _) (Pu.g fun hb=>by obtain ⟨a,b⟩:=a4M hb;simp only [j8 hb];with_reducible exact pNe)) ?_
   refine b6 (Pu.g fun a=>by simp only [j8 a,b5G a];with_reducible exact (E0 _ _)) ?_
   refine b6 (M2 _ _) ?_
   refine u5 h (fun _ h=>?_) (fun _ h=>?_)
   ·exact hR _ q _ _ n.drop ⟨_,rfl,rfl,h⟩
   ·exact hn2 (c+(Utf8.decode x0 c).2) _ _ h n
  ·replace h:=h.2 p
   refine b6 (i5 _ _ (vB false) rfl) ?_
   refine N9 (fun e=>by cases e) (fun e=>?_)
   exact hx1 _ _ (hj1 H _ I.drop h)
def a1R(a8a:Int)(a8b:Int)(a8c:Int)(a8d:Bool)(a8e:Bool)(a7c:(List ByteArray))(H:Hp)(K:Bool→p9→(List ByteArray)→Hp→Prop):Prop:=
 K true (p9.mk a8a a8b a8c a8d a8e (Sl.mk none 0 0)) a7c H
def a1S(b3H:Int)(a2p:Sl)(A9:Int)(a1d:Int)(a1x:Int)(a1y:Int)(a1z:Int)(a1A:Bool)(a1B:Bool)(a0o:(List ByteArray))(H:Hp)(n2:(Int×Int×Int×Int×Bool×Bool×(List ByteArray))→Hp→Prop)(K:Bool→p9→(List ByteArray)→Hp→Prop):Prop:=
 (a1d < A9→
 (0:Int)≤a1d∧(a1d:Int) < a2p.n∧∃c:d9,EltH H a2p a1d 1 [(E4 c)]∧
 a1w (p9.mk a1x a1y a1z a1A a1B (Sl.mk none 0 0)) a0o c b3H H (fun b d e f=>
 TG ((!b)=false) (a3u c f) (Sl.mk none 0 0) f (fun(j:Sl)(g:Hp)=>
 TG ((!b)=false) (fun k_=>W2 j (IntKind.wrap .i64 (b3H+1)) (a0g d) e g fun k l m H_=>k_ (k,l,m) H_) (false,(a0g d),e) g (fun(a:Bool×p9×(List ByteArray))(i:Hp)=>
 (((!b)||(!a.1))=true→
 K false (p9.mk (a.2.1.fnodes) (a.2.1.fdepth) (a.2.1.fe) (a.2.1.fform) (a.2.1.fnamed) (Sl.mk none 0 0)) a.2.2 i)∧
 (((!b)||(!a.1))=false→
 n2 ((IntKind.wrap .i64 (a1d+1)),(a.2.1.fnodes),(a.2.1.fdepth),(a.2.1.fe),(a.2.1.fform),(a.2.1.fnamed),a.2.2) i)))))∧
 (¬(a1d < A9)→
 a1R a1x a1y a1z a1A a1B a0o H K)
def a6G(x0:Sl)(x1:Int)(x2:p9)(a:(List ByteArray))(H:Hp)(K:Bool→p9→(List ByteArray)→Hp→Prop):Prop:=
 TL ((0,x2.fnodes,x2.fdepth,x2.fe,x2.fform,x2.fnamed,a):Int×Int×Int×Int×Bool×Bool×(List ByteArray)) H fun(s:Int×Int×Int×Int×Bool×Bool×(List ByteArray)) H n2=>a1S x1 x0 (x0.n:Int) s.1 s.2.1 s.2.2.1 s.2.2.2.1 s.2.2.2.2.1 s.2.2.2.2.2.1 s.2.2.2.2.2.2 H n2 K
theorem b1u(x0 x1 x2 ai){H K}(h:a6G x0 x1 x2 ai H K):W2 x0 x1 x2 ai H K:=by
 intro g2 g2b g3 az ba bb
 refine Ct.of fun w0 w ps0 H0 R E I hR=>c7w ?_
 have hj1:∀(a8a:Int)(a8b:Int)(a8c:Int)(a8d:Bool)(a8e:Bool)(a7c:(List ByteArray))(b1f:Sl)(b1g:Frag) H w (_:RowL 9 1 C8 b1f a7c b1g) (_:Inv w0 ps0 H0 H [bx g2 117 [(Value.pointer (some ⟨g2b,0,none⟩))],bx g2b 116 [(vi a8a),(vi a8b),(vi a8c),(vB a8d),(vB a8e),(vs b1f)],bx g3 182 [(Value.func (.func 105) #[] #[(Value.pointer (some ⟨g2,0,none⟩)),(Value.pointer (some ⟨g3,0,none⟩))])],b1g] w) (_:a1R a8a a8b a8c a8d a8e a7c H K),c0q w R E:=by
  intro a8a a8b a8c a8d a8e a7c b1f b1g H w c3G I h
  intro _
  exact hR _ H _ _ ((((I.bring 2).bring 3).bring 3).bring 3) ⟨true,(p9.mk a8a a8b a8c a8d a8e (Sl.mk none 0 0)),a7c,b1f,b1g,rfl,rfl,c3G,h⟩
 refine v6 fun j1 hx1=>?_
 refine b6 (a9C _ _ _) ?_
 obtain ⟨aj,z,bc,bd⟩:=h
 refine K7 (J:=fun n l w=>∃(s:Int×Int×Int×Int×Bool×Bool×(List ByteArray))(H:Hp)(a8y:Sl)(a8z:Frag),n=z s∧l=(match s with | (a1d,a1x,a1y,a1z,a1A,a1B,a0o)=>[(vi a1d)])∧(match s with | (a1d,a1x,a1y,a1z,a1A,a1B,a0o)=>RowL 9 1 C8 a8y a0o a8z)∧(match s with | (a1d,a1x,a1y,a1z,a1A,a1B,a0o)=>Inv w0 ps0 H0 H [bx g2 117 [(Value.pointer (some ⟨g2b,0,none⟩))],bx g2b 116 [(vi a1x),(vi a1y),(vi a1z),(vB a1A),(vB a1B),(vs a8y)],bx g3 182 [(Value.func (.func 105) #[] #[(Value.pointer (some ⟨g2,0,none⟩)),(Value.pointer (some ⟨g3,0,none⟩))])],a8z] w)∧aj s H) ⟨_,(0,x2.fnodes,x2.fdepth,x2.fe,x2.fform,x2.fnamed,ai),H,az,ba,rfl,rfl,bb,((((I.bring 2).bring 3).bring 3).bring 3),bc⟩ ?_
 rintro bj bk w next2 ⟨⟨a1d,a1x,a1y,a1z,a1A,a1B,a0o⟩,H,a8y,a8z,rfl,ak,b3I,I,be⟩ hn2
 dsimp only at ak I b3I
 simp only [List.map_cons,List.map_nil,List.cons.injEq,and_true] at ak
 have e11:=ak
 simp only [e11]
 obtain ⟨n2,hm2,h⟩:∃n2:(Int×Int×Int×Int×Bool×Bool×(List ByteArray))→Hp→Prop,(∀s' H',n2 s' H'→aj s' H'∧z s' < z (a1d,a1x,a1y,a1z,a1A,a1B,a0o))∧a1S x1 x0 (x0.n:Int) a1d a1x a1y a1z a1A a1B a0o H n2 K:=⟨_,fun _ _ h=>h,bd (a1d,a1x,a1y,a1z,a1A,a1B,a0o) H (fun s' H'=>aj s' H'∧z s' < z (a1d,a1x,a1y,a1z,a1A,a1B,a0o)) be (fun _ _ a b=>⟨a,b⟩)⟩
 refine b6 pLs ?_
 refine g7 h (fun _ h=>?_) (fun _ h=>?_)
 ·obtain ⟨bf,bg,bh,al,h⟩:=h
  obtain ⟨bl,bm,bi,al⟩:=al
  refine b6 (c2Q bi _ _ _ _ bf bg) (d4 (ld1 (v:=(E4 bh)) Tryz.isAgg157 (I.atH al)) ?_)
  refine C6 I fun bn ao=>?_
  refine i8 (l1 Tryz.isAgg117 ao rfl) ?_
  refine f9 Tryz.call106 (h g2b a8y a8z b3I) ((ao.bring 3).bring 2) ?_
  rintro _ ap _ aq o _ _ ⟨p,aa,am,ac,ad,rfl,rfl,ar,h⟩
  refine d6 (O4 _) ?_
  simp only [J0]
  refine d6 (Pu.g fun c=>by simp only [j8 c];with_reducible exact pAd) ?_
  refine i8 (Ld.g fun c=>by exact (l1 Tryz.isAgg182 (o.bring 3) rfl)) ?_
  refine b5H (D:=fun au u=>∃(ab:Sl)(k:Hp),au=(gv (!p) false (vs ab))∧(Inv w0 ps0 H0 k [bx g2b 116 (a0L aa ac),ad,bx g2 117 [(Value.pointer (some ⟨g2b,0,none⟩))],bx g3 182 [(Value.func (.func 105) #[] #[(Value.pointer (some ⟨g2,0,none⟩)),(Value.pointer (some ⟨g3,0,none⟩))])]] u)∧(∀i,i < aq.heap.size→¬inF [] i→u.heap[i]? = aq.heap[i]?)∧Hle ap k∧(TG ((!p)=false) (fun k_=>W2 ab (IntKind.wrap .i64 (x1+1)) (a0g aa) am k fun m d j H_=>k_ (m,d,j) H_) (false,(a0g aa),am) k (fun(e:Bool×p9×(List ByteArray))(f:Hp)=>
 (((!p)||(!e.1))=true→
 K false (p9.mk (e.2.1.fnodes) (e.2.1.fdepth) (e.2.1.fe) (e.2.1.fform) (e.2.1.fnamed) (Sl.mk none 0 0)) e.2.2 f)∧
 (((!p)||(!e.1))=false→
 n2 ((IntKind.wrap .i64 (a1d+1)),(e.2.1.fnodes),(e.2.1.fdepth),(e.2.1.fe),(e.2.1.fform),(e.2.1.fnamed),e.2.2) f)))) (fun y=>?_) (fun y=>?_) ?_
  ·replace h:=h.1 y
   have c:=y
   simp only [j8 c]
   refine b1t o h (fun ab k u ae av an h=>?_)
   exact ⟨ab,k,by rfl,ae,an,av,h⟩
  ·exact ⟨(Sl.mk none 0 0),ap,by rw [b6D y],o,fun _ _ _=>rfl,Hle.refl _,h.2 y⟩
  ·clear h
   rintro au u ⟨ab,k,rfl,ae,an,av,h⟩
   refine ⟨(an _ (o.bring 3).lt1 (Inv.E1 (Fi:=[]) (o.bring 3))),?_⟩
   refine b5H (D:=fun aw af=>∃(m:Bool)(d:p9)(j:(List ByteArray))(f:Hp)(q:Sl)(r:Frag),aw=(gv (!p) false (vB m))∧(RowL 9 1 C8 q j r)∧(Inv w0 ps0 H0 f [bx g2 117 [(Value.pointer (some ⟨g2b,0,none⟩))],bx g2b 116 (a0L d q),r,bx g3 182 [(Value.func (.func 105) #[] #[(Value.pointer (some ⟨g2,0,none⟩)),(Value.pointer (some ⟨g3,0,none⟩))])]] af)∧(∀i,i < u.heap.size→¬inF [bx g2 117 [(Value.pointer (some ⟨g2b,0,none⟩))],bx g2b 116 (a0L aa ac),ad,bx g3 182 [(Value.func (.func 105) #[] #[(Value.pointer (some ⟨g2,0,none⟩)),(Value.pointer (some ⟨g3,0,none⟩))])]] i→af.heap[i]? = u.heap[i]?)∧Hle k f∧((((!p)||(!m))=true→
 K false (a0g d) j f)∧
 (((!p)||(!m))=false→
 n2 ((IntKind.wrap .i64 (a1d+1)),d.fnodes,d.fdepth,d.fe,d.fform,d.fnamed,j) f))) (fun t=>?_) (fun t=>?_) ?_
   ·replace h:=h.1 t
    have c:=t
    simp only [j8 c]
    refine a7k (cap:=[(Value.pointer (some ⟨g2,0,none⟩)),(Value.pointer (some ⟨g3,0,none⟩))]) Tryz.call105 (h g2 g2b g3 ac ad ar) ((((ae.bring 3).bring 2).bring 2).bring 3) ?_
    rintro _ f _ af ag ax ay ⟨m,d,j,q,r,rfl,rfl,ah,h⟩
    exact ⟨m,d,j,f,q,r,by rfl,ah,ag,ay,ax,h⟩
   ·exact ⟨false,(a0g aa),am,k,ac,ad,by rw [b6D t],ar,((((ae.bring 3).bring 2).bring 2).bring 3),fun _ _ _=>rfl,Hle.refl _,h.2 t⟩
   ·clear h
    rintro aw af ⟨m,d,j,f,q,r,rfl,ah,ag,ay,ax,h⟩
    refine d6 (Pu.g fun c=>by simp only [j8 c];with_reducible exact (O4 _)) ?_
    refine d6 (M2 _ _) ?_
    refine u5 h (fun _ h=>?_) (fun _ h=>?_)
    ·exact hR _ f _ _ ((((ag.bring 3).bring 3).bring 3).bring 3) ⟨false,(a0g d),j,q,r,rfl,rfl,ah,h⟩
    ·refine b6 pAd ?_
     exact hn2 _ _ _ (hm2 _ _ h).2 ⟨((IntKind.wrap .i64 (a1d+1)),d.fnodes,d.fdepth,d.fe,d.fform,d.fnamed,j),f,q,r,rfl,rfl,ah,((((ag.bring 2).bring 3).bring 3).bring 3),(hm2 _ _ h).1⟩
 ·exact hx1 _ _ (hj1 a1x a1y a1z a1A a1B a0o a8y a8z H _ b3I ((((I.bring 3).bring 3).bring 3).bring 3) h)
def N5(d:Int)(e:Int)(f:Int)(g:Bool)(i:Bool)(j:(List ByteArray))(H:Hp)(K:p9→Hp→Prop):Prop:=
 ∀(a:Sl)(b:Hp),Hle H b→SlH b 1 C8 a j→a.n≤a.c→
 K (p9.mk d e f g i a) b
def a7x(x0:Sl)(H:Hp)(K:p9→Hp→Prop):Prop:=
 W2 x0 1 (p9.mk 0 0 0 false false (Sl.mk none 0 0)) [] H (fun d a b c=>
 ((!d)=true→
 N5 a.fnodes a.fdepth a.fe a.fform a.fnamed b c K)∧
 ((!d)=false→
 (a.fform=true→
 N5 a.fnodes a.fdepth 30 a.fform a.fnamed b c K)∧
 (a.fform=false→
 (a.fnamed=true→
 N5 a.fnodes a.fdepth 31 a.fform a.fnamed b c K)∧
 (a.fnamed=false→
 N5 a.fnodes a.fdepth a.fe a.fform a.fnamed b c K))))
theorem b2A(x0){H K}(h:a7x x0 H K):a3Y x0 H K:=by
 refine Ct.of fun w0 w ps0 H0 R E I hR=>d1b ?_
 refine b6 (c1t) ?_
 refine z7 I (cs:=[(vi 0),(vi 0),(vi 0),(vB false),(vB false),(nS)]) rfl fun d aj y ak=>?_
 refine s6 y Tryz.zeroValue117 (cs:=[(Value.pointer none)]) rfl fun c al z am=>?_
 refine A5 z Tryz.sizeOf117 (vs:=[(Value.pointer (some ⟨d,0,none⟩))]) fun an aa ao=>?_
 refine s6 aa Tryz.zeroValue182 (cs:=[Value.nilFunc]) rfl fun f ap ab aq=>?_
 refine b6 (a6z _ _ _) ?_
 refine A5 ab Tryz.sizeOf182 (vs:=[(Value.func (.func 105) #[] #[(Value.pointer (some ⟨c,0,none⟩)),(Value.pointer (some ⟨f,0,none⟩))])]) fun ar u au=>?_
 have hj1:∀(i:Int)(j:Int)(k:Int)(l:Bool)(m:Bool)(s:(List ByteArray))(g:Sl)(t:Frag) H w (_:RowL 9 1 C8 g s t) (_:Inv w0 ps0 H0 H [bx c 117 [(Value.pointer (some ⟨d,0,none⟩))],bx d 116 [(vi i),(vi j),(vi k),(vB l),(vB m),(vs g)],bx f 182 [(Value.func (.func 105) #[] #[(Value.pointer (some ⟨c,0,none⟩)),(Value.pointer (some ⟨f,0,none⟩))])],t] w) (_:N5 i j k l m s H K),c3t (Value.pointer (some ⟨c,0,none⟩)) w R E:=by
  intro i j k l m s g t H w ac I h
  intro _
  refine d4 (l1 Tryz.isAgg117 I rfl) ?_
  obtain ⟨v,ad,ae,af,ag⟩:=Inv.freezeC (I.bring 3) ac (by decide)
  replace h:=h g v ae af ag
  exact hR _ v _ _ (ad.drop.bring 1).drop ⟨(p9.mk i j k l m g),d,rfl,rfl,h⟩
 refine v6 fun j1 hx1=>?_
 refine d4 (l1 Tryz.isAgg182 u rfl) ?_
 refine a7k (cap:=[(Value.pointer (some ⟨c,0,none⟩)),(Value.pointer (some ⟨f,0,none⟩))]) Tryz.call105 (h c d f (Sl.mk none 0 0) ([]) (RowL.nil (e:=9) a6A a6B)) ((((u.nil.bring 1).bring 1).bring 3).bring 3) ?_
 rintro _ n _ av b _ _ ⟨aw,a,o,p,q,rfl,rfl,r,h⟩
 refine b6 (O4 _) ?_
 refine u5 h (fun _ h=>?_) (fun _ h=>?_)
 ·exact hx1 _ _ (hj1 a.fnodes a.fdepth a.fe a.fform a.fnamed o p q n _ r ((((b.bring 2).bring 3).bring 3).bring 3) h)
 ·refine d4 (l1 Tryz.isAgg117 b rfl) (b6 (m7 _) (b6 b1p (d4 (l1 Tryz.isAgg4 (b.bring 1) rfl) ?_)))
  refine u5 h (fun _ h=>?_) (fun _ h=>?_)
  ·refine d4 (l1 Tryz.isAgg117 b rfl) (b6 (m7 _) (b6 a6D ?_))
   refine K2 (b.bring 1) Tryz.sizeOf33 fun ax ah ay=>?_
   exact hx1 _ _ (hj1 a.fnodes a.fdepth 30 a.fform a.fnamed o p q n _ r ((((ah.bring 2).bring 3).bring 2).bring 3) h)
  ·refine d4 (l1 Tryz.isAgg117 b rfl) (b6 (m7 _) (b6 b1q (d4 (l1 Tryz.isAgg4 (b.bring 1) rfl) ?_)))
   refine u5 h (fun _ h=>?_) (fun _ h=>?_)
   ·refine d4 (l1 Tryz.isAgg117 b rfl) (b6 (m7 _) (b6 a6D ?_))
    refine K2 (b.bring 1) Tryz.sizeOf33 fun az ai ba=>?_
    exact hx1 _ _ (hj1 a.fnodes a.fdepth 31 a.fform a.fnamed o p q n _ r ((((ai.bring 2).bring 3).bring 2).bring 3) h)
   ·exact hx1 _ _ (hj1 a.fnodes a.fdepth a.fe a.fform a.fnamed o p q n _ r ((((b.bring 2).bring 3).bring 3).bring 3) h)
def a7U(x0:z8)(H:Hp)(K:Int→Hp→Prop):Prop:=
 a6y x0 H (fun a b=>
 K a.fe b)
theorem b3l(x0){H K}(h:a7U x0 H K):a4H x0 H K:=by
 refine Ct.of fun w0 w ps0 H0 R E I hR=>c9U ?_
 refine z7 I (cs:=(v7 x0)) rfl fun e f a g=>?_
 refine d4 (lW Tryz.isAgg25 Tryz.sizeOf25 rfl a) ?_
 refine f9 Tryz.call46 h a ?_
 rintro _ c _ i b _ _ ⟨d,j,rfl,rfl,h⟩
 refine b6 (m7 _) (b6 a6D (d4 (l1 Tryz.isAgg33 b rfl) ?_))
 exact hR _ c _ _ b.drop.drop ⟨_,rfl,rfl,h⟩
def a4s(x0:f6)(f:(List b7))(x1:q8)(H:Hp)(K:o3→Bool→Hp→Prop):Prop:=
 (x1.b8=1→
 K (o3.mk (-1) x1.s8) true H)∧
 (¬(x1.b8=1)→
 ∃a:q8,((decide (x1.b8=5))=true→(0:Int)≤0∧(0:Int) < x1.D9.n∧EltH H x1.D9 0 4 (j9 a))∧
 (((decide (x1.b8=5))&&(decide (a.b8=1)))=true→
 (0:Int)≤0∧(0:Int) < x1.D9.n∧∃b:q8,EltH H x1.D9 0 4 (j9 b)∧
 K (o3.mk (-1) (IntKind.wrap .i64 (0-b.s8))) true H)∧
 (((decide (x1.b8=5))&&(decide (a.b8=1)))=false→
 (x1.b8=2→
 ∃c:List (ByteArray×Int),MapH H (fun s:ByteArray=>Value.string s) (fun n:Int=>Value.int .i64 n) x0.fvars c∧
 K (o3.mk ((lk x1.f8 c).getD 0) 0) true H)∧
 (¬(x1.b8=2)→
 Q7 H (fun d e=>
 K d false e))))
theorem a9a(x0 j x1){H K}(h:a4s x0 j x1 H K):W9 x0 j x1 H K:=by
 intro g0 ad ae af
 refine Ct.of fun w0 w ps0 H0 R E I hR=>d1t ?_
 refine z7 I (cs:=(j9 x1)) rfl fun ag ah s ai=>?_
 refine s6 s Tryz.zeroValue47 (cs:=[(vi 0),(vi 0)]) rfl fun aj ak c al=>?_
 refine b6 M6 (d4 (l1 Tryz.isAgg3 (c.bring 1) rfl) (b6 pEq ?_))
 refine g7 h (fun _ h=>?_) (fun _ h=>?_)
 ·refine b6 a4E (d4 (l1 Tryz.isAgg2 (c.bring 1) rfl) (b6 (a8X _ _) ?_))
  refine A5 c Tryz.sizeOf47 (vs:=[(vi (-1)),(vi x1.s8)]) fun am l an=>?_
  refine Q4 Tryz.isAgg47 Tryz.sizeOf47 rfl l ?_
  exact hR _ H _ _ ((l.drop.drop.bring 1).bring 1) ⟨(o3.mk (-1) x1.s8),true,rfl,rfl,h⟩
 ·refine b6 M6 (d4 (l1 Tryz.isAgg3 (c.bring 1) rfl) (b6 pEq ?_))
  refine b6 (Pu.g fun a=>by with_reducible exact W0) ?_
  refine d4 (Ld.g fun a=>by simp only [j8 a];exact (l1 Tryz.isAgg101 (c.bring 1) rfl)) ?_
  obtain ⟨e,b,h⟩:=h
  obtain ⟨ao,ap,b⟩:=b7P b
  refine b6 (Pu.g fun hb=>by have a:=hb;simp only [j8 a];with_reducible exact (Q0 (b hb).2.2.1 _ _ _ _ (b hb).1 (b hb).2.1)) ?_
  refine b6 (Pu.g fun a=>by simp only [j8 a];with_reducible exact M6) ?_
  refine d4 (Ld.g fun hb=>by have a:=hb;simp only [j8 a];exact (ld1 (v:=(vi e.b8)) Tryz.isAgg3 ((c.atH (b hb).2.2.2).sub (k:=0) (n:=1) (nb rfl)))) ?_
  refine b6 (Pu.g fun a=>by simp only [j8 a];with_reducible exact pEq) ?_
  refine b6 (E0 _ _) ?_
  refine u5 h (fun _ h=>?_) (fun _ h=>?_)
  ·refine b6 W0 (d4 (l1 Tryz.isAgg101 (c.bring 1) rfl) ?_)
   obtain ⟨t,u,f,i,h⟩:=h
   obtain ⟨aq,ar,y,i⟩:=i
   refine b6 (Q0 y _ _ _ _ t u) (b6 a4E (d4 (ld1 (v:=(vi f.s8)) Tryz.isAgg2 ((c.atH i).sub (k:=1) (n:=1) (nb rfl))) (b6 (b8g _ _) (b6 (a8X _ _) ?_))))
   refine A5 c Tryz.sizeOf47 (vs:=[(vi (-1)),(vi (IntKind.wrap .i64 (0-f.s8)))]) fun au m av=>?_
   refine Q4 Tryz.isAgg47 Tryz.sizeOf47 rfl m ?_
   exact hR _ H _ _ ((m.drop.drop.bring 1).bring 1) ⟨(o3.mk (-1) (IntKind.wrap .i64 (0-f.s8))),true,rfl,rfl,h⟩
  ·refine b6 M6 (d4 (l1 Tryz.isAgg3 (c.bring 1) rfl) (b6 pEq ?_))
   refine g7 h (fun _ h=>?_) (fun _ h=>?_)
   ·refine C6 c fun aw d=>?_
    refine d6 (m7 _) ?_
    refine d6 b2s ?_
    refine d6 a1W ?_
    refine i8 (l1 Tryz.isAgg68 (d.bring 2) rfl) ?_
    refine i8 (l1 Tryz.isAgg9 (d.bring 1) rfl) ?_
    obtain ⟨o,aa,h⟩:=h
    refine b2k (keyS Tryz.underlying9) Tryz.underlying68 (z:=0) Tryz.zeroValue3 d aa x1.f8 ?_
    refine d6 (a8o _) ?_
    refine A5 d Tryz.sizeOf47 (vs:=[(vi ((lk x1.f8 o).getD 0)),(vi 0)]) fun ax p ay=>?_
    refine Q4 Tryz.isAgg47 Tryz.sizeOf47 rfl p ?_
    exact hR _ H _ _ ((p.drop.drop.bring 1).bring 1) ⟨(o3.mk ((lk x1.f8 o).getD 0) 0),true,rfl,rfl,h⟩
   ·refine f9 Tryz.call65 h c ?_
    rintro _ ab _ az ac _ _ ⟨q,rfl,rfl,h⟩
    refine A5 ac Tryz.sizeOf47 (vs:=(m4 q)) fun ba r bb=>?_
    refine Q4 Tryz.isAgg47 Tryz.sizeOf47 rfl r ?_
    exact hR _ ab _ _ ((r.drop.drop.bring 1).bring 1) ⟨q,false,rfl,rfl,h⟩
def a6n(x0:W3)(H:Hp)(K:Bool→Hp→Prop):Prop:=
 K ((decide (0≤x0.a0G.C1))&&(decide (x0.a0G.C1≤2147483647))) H
theorem b0W(x0){H K}(h:a6n x0 H K):a6j x0 H K:=by
 refine Ct.of fun w0 w ps0 H0 R E I hR=>c7R ?_
 refine z7 I (cs:=(m3 x0.a0G)) rfl fun c d b e=>?_
 refine b6 b1s (b6 a0X (d4 (l1 Tryz.isAgg3 b rfl) (b6 pGe ?_)))
 refine b6 (Pu.g fun a=>by with_reducible exact b1s) ?_
 refine b6 (Pu.g fun a=>by simp only [j8 a];with_reducible exact a0X) ?_
 refine d4 (Ld.g fun a=>by simp only [j8 a];exact (l1 Tryz.isAgg3 b rfl)) ?_
 refine b6 (Pu.g fun a=>by simp only [j8 a];with_reducible exact pLe) ?_
 refine b6 (E0 _ _) ?_
 exact hR _ H _ _ b.drop ⟨_,rfl,rfl,h⟩
def a5r(x0:S9)(H:Hp)(K:Sl→Hp→Prop):Prop:=
 D5 x0.p6.D3 H (fun d e=>
 B8 x0.p6.t7 e (fun f g=>
 B7 x0.p6.S8 g (fun i j=>
 B7 x0.p6.U7 j (fun k l=>
 ∀(a:Sl)(b:Hp),Hle l b→SlH b 1 csl a [d,f,i,k]→a.n≤a.c→
 D1 a b (fun m o=>
 K m o)))))
theorem b0l(x0){H K}(h:a5r x0 H K):a5o x0 H K:=by
 refine Ct.of fun w0 w ps0 H0 R E I hR=>c7U ?_
 refine z7 I (cs:=(p8 x0.p6)) rfl fun ad ae i af=>?_
 refine C6 i fun ag a=>?_
 refine d6 N2 ?_
 refine d6 a1V ?_
 refine d6 N2 ?_
 refine d6 a2Q ?_
 refine d6 N2 ?_
 refine d6 a0Y ?_
 refine d6 N2 ?_
 refine d6 a2R ?_
 refine i8 (l1 Tryz.isAgg102 a rfl) ?_
 refine i8 (l1 Tryz.isAgg101 a rfl) ?_
 refine i8 (l1 Tryz.isAgg23 a rfl) ?_
 refine i8 (l1 Tryz.isAgg23 a rfl) ?_
 refine f9 Tryz.call145 h a ?_
 rintro _ ah _ ai b _ d ⟨j,rfl,rfl,h⟩
 refine ⟨(d _ a.lt1 (Inv.E1 (Fi:=[]) a)),(d _ a.lt1 (Inv.E1 (Fi:=[]) a)),(d _ a.lt1 (Inv.E1 (Fi:=[]) a)),?_⟩
 refine f9 Tryz.call147 h b ?_
 rintro _ aj _ ak f _ g ⟨k,rfl,rfl,h⟩
 refine ⟨(g _ b.lt1 (Inv.E1 (Fi:=[]) b)),(g _ b.lt1 (Inv.E1 (Fi:=[]) b)),?_⟩
 refine f9 Tryz.call81 h f ?_
 rintro _ _ _ al l _ m ⟨n,rfl,rfl,h⟩
 refine ⟨(m _ f.lt1 (Inv.E1 (Fi:=[]) f)),?_⟩
 refine f9 Tryz.call81 h l ?_
 rintro _ _ _ am o _ _ ⟨p,rfl,rfl,h⟩
 refine Y1 (e:=154) (c:=csl) (xs:=[j,k,n,p]) o (c4L _ _ _ _ _ _ _ _ _ _ _ _) rfl rfl a9u a9v (nb rfl) fun q an ao r s ap=>?_
 obtain ⟨t,u,v,y,z⟩:=Inv.freezeC s r (by decide)
 replace h:=h q t v y z
 refine f9 Tryz.call78 h u ?_
 rintro _ aa _ aq ab _ _ ⟨ac,rfl,rfl,h⟩
 exact hR _ aa _ _ ab.drop ⟨ac,rfl,rfl,h⟩
def a5s(x0:T0)(H:Hp)(K:Sl→Hp→Prop):Prop:=
 B8 x0.z6.t7 H (fun d e=>
 D5 x0.z6.C7 e (fun f g=>
 ∀(a:Sl)(b:Hp),Hle g b→SlH b 1 csl a [d,f]→a.n≤a.c→
 D1 a b (fun i j=>
 K i j)))
theorem b0m(x0){H K}(h:a5s x0 H K):a5q x0 H K:=by
 refine Ct.of fun w0 w ps0 H0 R E I hR=>c8e ?_
 refine z7 I (cs:=(p5 x0.z6)) rfl fun v y b z=>?_
 refine C6 b fun aa a=>?_
 refine d6 a1b ?_
 refine d6 a4D ?_
 refine d6 a1b ?_
 refine d6 R9 ?_
 refine i8 (l1 Tryz.isAgg101 a rfl) ?_
 refine i8 (l1 Tryz.isAgg102 a rfl) ?_
 refine f9 Tryz.call147 h a ?_
 rintro _ _ _ ab d _ f ⟨g,rfl,rfl,h⟩
 refine ⟨(f _ a.lt1 (Inv.E1 (Fi:=[]) a)),?_⟩
 refine f9 Tryz.call145 h d ?_
 rintro _ _ _ ac i _ _ ⟨j,rfl,rfl,h⟩
 refine Y1 (e:=154) (c:=csl) (xs:=[g,j]) i (b8B _ _ _ _ _ _) rfl rfl a9u a9v (nb rfl) fun k ad ae l m af=>?_
 obtain ⟨n,o,p,q,r⟩:=Inv.freezeC m l (by decide)
 replace h:=h k n p q r
 refine f9 Tryz.call78 h o ?_
 rintro _ s _ ag t _ _ ⟨u,rfl,rfl,h⟩
 exact hR _ s _ _ t.drop ⟨u,rfl,rfl,h⟩
end Go.Proofs.YthaaobpfbgcfiaaGreatDoor
