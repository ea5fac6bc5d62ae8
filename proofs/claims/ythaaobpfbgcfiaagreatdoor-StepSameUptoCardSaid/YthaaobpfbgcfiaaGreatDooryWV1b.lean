/- Typed formulas of the program's functions, and the theorems that the contracts follow from them; printed by lift.py off the code. -/
import Derived.Test.YthaaobpfbgcfiaaGreatDooryWV1
namespace Go.Proofs.YthaaobpfbgcfiaaGreatDoor
open Go.RowKit
set_option maxRecDepth 100000
set_option maxHeartbeats 2000000
def a6o(x0:Int)(x1:Int)(H:Hp)(K:Bool→Hp→Prop):Prop:=
 K (decide (x1≤x0)) H
theorem b0X(x0 x1){H K}(h:a6o x0 x1 H K):a6i x0 x1 H K:=by
 refine Ct.of fun w0 w ps0 H0 R E I hR=>c7u ?_
 refine b6 pGe ?_
 exact hR _ H _ _ I ⟨_,rfl,rfl,h⟩
def G4(a4J:Int)(r7:l9)(u9:Sl)(u7:Int)(B9:(List Int))(a2l:(List (List Int)))(D2:Sl)(a2m:(List d5))(a:b7)(H:Hp)(K:Int→b9→(List Int)→(List (List Int))→(List d5)→Hp→Prop):Prop:=
 K a4J (b9.mk r7 u9 u7 (Sl.mk none 0 0) (Sl.mk none 0 0) D2 (Sl.mk none 0 0)) B9 a2l a2m H
def P4(x0:b9)(a:(List Int))(b:(List (List Int)))(c:(List d5))(x1:b7)(H:Hp)(K:Int→b9→(List Int)→(List (List Int))→(List d5)→Hp→Prop):Prop:=
 r9 (o4 x0) a b c x1.fA H (fun f g=>
 r9 (o4 x0) a b c x1.fB g (fun i j=>
 a2T f i j (fun k d e=>
 (d=0→
 (0:Int)≤x1.D8∧∃l:Int,(a)[(x1.D8:Int).toNat]? = some l∧
 G4 d x0.fc x0.ffrom x0.fpoint (a.set (x1.D8:Int).toNat k) b x0.fscript c x1 e K)∧
 (¬(d=0)→
 G4 d x0.fc x0.ffrom x0.fpoint a b x0.fscript c x1 e K))))
theorem a0N(x0 i j k x1){H K}(h:P4 x0 i j k x1 H K):P2 x0 i j k x1 H K:=by
 intro g0 a l c d e f b n p
 refine Ct.of fun w0 w ps0 H0 R E I hR=>b1G ?_
 refine z7 I (cs:=(d7 x1)) rfl fun z ah aa ai=>?_
 refine C6 aa fun aj g=>?_
 refine d6 M3 ?_
 refine d6 Q6 ?_
 refine i8 (ldA Tryz.isAgg47 Tryz.sizeOf47 rfl (g.at1 (o:=6) (vs:=(m4 x1.fA)) (nb rfl) rfl)) ?_
 refine i8 (ldA Tryz.isAgg47 Tryz.sizeOf47 rfl (g.at1 (o:=8) (vs:=(m4 x1.fB)) (nb rfl) rfl)) ?_
 refine f9 Tryz.call45 (h g0 a l c d e f b n p) ((((g.bring 4).bring 4).bring 4).bring 4) ?_
 rintro _ _ _ ak ab _ ac ⟨al,rfl,rfl,h⟩
 refine ⟨(ac _ g.lt1 (Inv.E1 (Fi:=[bx g0 78 (m9 x0 a c e),l,d,f]) ((((g.bring 4).bring 4).bring 4).bring 4))),?_⟩
 refine f9 Tryz.call45 (h g0 a l c d e f b n p) ((((ab.bring 3).bring 3).bring 3).bring 3) ?_
 rintro _ _ _ am ad _ _ ⟨an,rfl,rfl,h⟩
 refine f9 Tryz.call68 h ad ?_
 rintro _ t _ ao u _ _ ⟨q,m,rfl,rfl,h⟩
 refine d6 (i5 _ _ (vi q) rfl) ?_
 refine d6 (i5 _ _ (vi m) rfl) ?_
 have hj1:∀(r7:l9)(u9:Sl)(u7:Int)(B9:(List Int))(D2:Sl)(E6:Frag) H w (_:RowL 2 1 i6 a B9 E6) (_:Inv w0 ps0 H0 H [bx g0 78 [(vs r7.o9),(vi r7.t8),(vs r7.m8),(vi r7.o7),(vi r7.B6),(vs r7.B5),(vs u9),(vi u7),(vs a),(vs c),(vs D2),(vs e)],bx z 49 (d7 x1),d,f,E6] w) (_:G4 m r7 u9 u7 B9 j D2 k x1 H K),b0j (vi m) w R E:=by
  intro r7 u9 u7 B9 D2 E6 H w a2o I h
  intro _
  exact hR _ H _ _ (((((I.bring 1).drop.bring 2).bring 2).bring 3).bring 3) ⟨m,(b9.mk r7 u9 u7 (Sl.mk none 0 0) (Sl.mk none 0 0) D2 (Sl.mk none 0 0)),B9,j,k,a,E6,c,d,e,f,rfl,rfl,a2o,n,p,h⟩
 refine v6 fun j1 hx1=>?_
 refine b6 pEq ?_
 refine g7 h (fun _ h=>?_) (fun _ h=>?_)
 ·refine C6 u fun ap r=>?_
  refine d6 (m7 _) ?_
  refine d6 a0h ?_
  refine d6 U8 ?_
  refine i8 (l1 Tryz.isAgg26 r rfl) ?_
  refine i8 (l1 Tryz.isAgg3 (r.bring 4) rfl) ?_
  obtain ⟨v,aq,s,h⟩:=h
  obtain ⟨ar,au,y,av⟩:=b.addr s
  refine d6 (E3 y _ _ _ _ v (b.lt v s)) ?_
  refine a1p (x:=q) (r.bring 1) b y (List.getElem?_eq_some_iff.1 s).1 Tryz.sizeOf2 rfl fun ae aw af ag ax=>?_
  exact hx1 _ _ (hj1 x0.fc x0.ffrom x0.fpoint (i.set (x1.D8:Int).toNat q) x0.fscript ae t _ af ((((ag.bring 3).bring 3).bring 4).bring 4) h)
 ·exact hx1 _ _ (hj1 x0.fc x0.ffrom x0.fpoint i x0.fscript l t _ b (((((u.bring 1).bring 3).bring 3).bring 4).bring 4) h)
def b0n(x0:Int)(x1:Int)(H:Hp)(K:Int→Int→Hp→Prop):Prop:=
 ((((decide (x0 < 0)) == (decide (x1 < 0)))&&((decide ((IntKind.wrap .i64 (x0+x1)) < 0)) != (decide (x0 < 0))))=true→
 K 0 1 H)∧
 ((((decide (x0 < 0)) == (decide (x1 < 0)))&&((decide ((IntKind.wrap .i64 (x0+x1)) < 0)) != (decide (x0 < 0))))=false→
 K (IntKind.wrap .i64 (x0+x1)) 0 H)
theorem b5g(x0 x1){H K}(h:b0n x0 x1 H K):a6N x0 x1 H K:=by
 refine Ct.of fun w0 w ps0 H0 R E I hR=>d0V ?_
 refine b6 pAd (b6 pLs (b6 pLs (b6 (c4K _ _ _ _) ?_)))
 simp only [J0]
 refine b6 (Pu.g fun a=>by simp only [j8 a];with_reducible exact pLs) ?_
 refine b6 (Pu.g fun a=>by simp only [j8 a];with_reducible exact pLs) ?_
 refine b6 (Pu.g fun a=>by simp only [j8 a];with_reducible exact (b2x _ _ _ _)) ?_
 refine b6 (E0 _ _) ?_
 refine u5 h (fun _ h=>?_) (fun _ h=>?_)
 ·exact hR _ H _ _ I ⟨0,1,rfl,rfl,h⟩
 ·exact hR _ H _ _ I ⟨(IntKind.wrap .i64 (x0+x1)),0,rfl,rfl,h⟩
def a2K(x0:b9)(a:(List Int))(b:(List (List Int)))(c:(List d5))(x1:b7)(H:Hp)(K:Int→b9→(List Int)→(List (List Int))→(List d5)→Hp→Prop):Prop:=
 X3 (o4 x0) a b c x1 H (fun(d:Int)(e:b9)(f:(List Int))(g:(List (List Int)))(i:(List d5))(j:Hp)=>
 K d (o4 e) f g i j)
theorem a7y(x0 a b c x1){H K}(h:a2K x0 a b c x1 H K):T1 x0 a b c x1 H K:=by
 intro g0 e f g i j k l m n
 refine Ct.of fun w0 w ps0 H0 R E I hR=>d0l ?_
 refine z7 I (cs:=(d7 x1)) rfl fun ag ah d ai=>?_
 refine d4 (lW Tryz.isAgg49 Tryz.sizeOf49 rfl d) ?_
 refine f9 Tryz.call67 (h g0 e f g i j k l m n) ((((d.bring 4).bring 4).bring 4).bring 4) ?_
 rintro _ o _ aj p _ _ ⟨q,r,s,t,u,v,y,z,aa,ab,ac,rfl,rfl,ad,ae,af,h⟩
 exact hR _ o _ _ (((((p.bring 4).drop.bring 3).bring 3).bring 3).bring 3) ⟨q,(o4 r),s,t,u,v,y,z,aa,ab,ac,rfl,rfl,ad,ae,af,h⟩
def N6(a4J:Int)(r7:l9)(u9:Sl)(u7:Int)(B9:(List Int))(a2l:(List (List Int)))(D2:Sl)(a2m:(List d5))(a:b7)(H:Hp)(K:Int→b9→(List Int)→(List (List Int))→(List d5)→Hp→Prop):Prop:=
 K a4J (b9.mk r7 u9 u7 (Sl.mk none 0 0) (Sl.mk none 0 0) D2 (Sl.mk none 0 0)) B9 a2l a2m H
def X8(x0:b9)(a:(List Int))(b:(List (List Int)))(c:(List d5))(x1:b7)(H:Hp)(K:Int→b9→(List Int)→(List (List Int))→(List d5)→Hp→Prop):Prop:=
 r9 (o4 x0) a b c x1.fA H (fun f g=>
 r9 (o4 x0) a b c x1.fB g (fun i j=>
 a6P f i j (fun k d e=>
 (d=0→
 (0:Int)≤x1.D8∧∃l:Int,(a)[(x1.D8:Int).toNat]? = some l∧
 N6 d x0.fc x0.ffrom x0.fpoint (a.set (x1.D8:Int).toNat k) b x0.fscript c x1 e K)∧
 (¬(d=0)→
 N6 d x0.fc x0.ffrom x0.fpoint a b x0.fscript c x1 e K))))
theorem a2Z(x0 i j k x1){H K}(h:X8 x0 i j k x1 H K):X4 x0 i j k x1 H K:=by
 intro g0 a l c d e f b n p
 refine Ct.of fun w0 w ps0 H0 R E I hR=>b1G ?_
 refine z7 I (cs:=(d7 x1)) rfl fun z ah aa ai=>?_
 refine C6 aa fun aj g=>?_
 refine d6 M3 ?_
 refine d6 Q6 ?_
 refine i8 (ldA Tryz.isAgg47 Tryz.sizeOf47 rfl (g.at1 (o:=6) (vs:=(m4 x1.fA)) (nb rfl) rfl)) ?_
 refine i8 (ldA Tryz.isAgg47 Tryz.sizeOf47 rfl (g.at1 (o:=8) (vs:=(m4 x1.fB)) (nb rfl) rfl)) ?_
 refine f9 Tryz.call45 (h g0 a l c d e f b n p) ((((g.bring 4).bring 4).bring 4).bring 4) ?_
 rintro _ _ _ ak ab _ ac ⟨al,rfl,rfl,h⟩
 refine ⟨(ac _ g.lt1 (Inv.E1 (Fi:=[bx g0 78 (m9 x0 a c e),l,d,f]) ((((g.bring 4).bring 4).bring 4).bring 4))),?_⟩
 refine f9 Tryz.call45 (h g0 a l c d e f b n p) ((((ab.bring 3).bring 3).bring 3).bring 3) ?_
 rintro _ _ _ am ad _ _ ⟨an,rfl,rfl,h⟩
 refine f9 Tryz.call73 h ad ?_
 rintro _ t _ ao u _ _ ⟨q,m,rfl,rfl,h⟩
 refine d6 (i5 _ _ (vi q) rfl) ?_
 refine d6 (i5 _ _ (vi m) rfl) ?_
 have hj1:∀(r7:l9)(u9:Sl)(u7:Int)(B9:(List Int))(D2:Sl)(E6:Frag) H w (_:RowL 2 1 i6 a B9 E6) (_:Inv w0 ps0 H0 H [bx g0 78 [(vs r7.o9),(vi r7.t8),(vs r7.m8),(vi r7.o7),(vi r7.B6),(vs r7.B5),(vs u9),(vi u7),(vs a),(vs c),(vs D2),(vs e)],bx z 49 (d7 x1),d,f,E6] w) (_:N6 m r7 u9 u7 B9 j D2 k x1 H K),b0j (vi m) w R E:=by
  intro r7 u9 u7 B9 D2 E6 H w a2o I h
  intro _
  exact hR _ H _ _ (((((I.bring 1).drop.bring 2).bring 2).bring 3).bring 3) ⟨m,(b9.mk r7 u9 u7 (Sl.mk none 0 0) (Sl.mk none 0 0) D2 (Sl.mk none 0 0)),B9,j,k,a,E6,c,d,e,f,rfl,rfl,a2o,n,p,h⟩
 refine v6 fun j1 hx1=>?_
 refine b6 pEq ?_
 refine g7 h (fun _ h=>?_) (fun _ h=>?_)
 ·refine C6 u fun ap r=>?_
  refine d6 (m7 _) ?_
  refine d6 a0h ?_
  refine d6 U8 ?_
  refine i8 (l1 Tryz.isAgg26 r rfl) ?_
  refine i8 (l1 Tryz.isAgg3 (r.bring 4) rfl) ?_
  obtain ⟨v,aq,s,h⟩:=h
  obtain ⟨ar,au,y,av⟩:=b.addr s
  refine d6 (E3 y _ _ _ _ v (b.lt v s)) ?_
  refine a1p (x:=q) (r.bring 1) b y (List.getElem?_eq_some_iff.1 s).1 Tryz.sizeOf2 rfl fun ae aw af ag ax=>?_
  exact hx1 _ _ (hj1 x0.fc x0.ffrom x0.fpoint (i.set (x1.D8:Int).toNat q) x0.fscript ae t _ af ((((ag.bring 3).bring 3).bring 4).bring 4) h)
 ·exact hx1 _ _ (hj1 x0.fc x0.ffrom x0.fpoint i x0.fscript l t _ b (((((u.bring 1).bring 3).bring 3).bring 4).bring 4) h)
def a4O(x0:b9)(a:(List Int))(b:(List (List Int)))(c:(List d5))(x1:b7)(H:Hp)(K:Int→b9→(List Int)→(List (List Int))→(List d5)→Hp→Prop):Prop:=
 X5 (o4 x0) a b c x1 H (fun(d:Int)(e:b9)(f:(List Int))(g:(List (List Int)))(i:(List d5))(j:Hp)=>
 K d (o4 e) f g i j)
theorem a9F(x0 a b c x1){H K}(h:a4O x0 a b c x1 H K):Z3 x0 a b c x1 H K:=by
 intro g0 e f g i j k l m n
 refine Ct.of fun w0 w ps0 H0 R E I hR=>d0n ?_
 refine z7 I (cs:=(d7 x1)) rfl fun ag ah d ai=>?_
 refine d4 (lW Tryz.isAgg49 Tryz.sizeOf49 rfl d) ?_
 refine f9 Tryz.call67 (h g0 e f g i j k l m n) ((((d.bring 4).bring 4).bring 4).bring 4) ?_
 rintro _ o _ aj p _ _ ⟨q,r,s,t,u,v,y,z,aa,ab,ac,rfl,rfl,ad,ae,af,h⟩
 exact hR _ o _ _ (((((p.bring 4).drop.bring 3).bring 3).bring 3).bring 3) ⟨q,(o4 r),s,t,u,v,y,z,aa,ab,ac,rfl,rfl,ad,ae,af,h⟩
def b0o(x0:Int)(H:Hp)(K:Int→Hp→Prop):Prop:=
 (((decide (x0 < 1))||(decide (6 < x0)))=true→
 K 0 H)∧
 (((decide (x0 < 1))||(decide (6 < x0)))=false→
 (0:Int)≤x0∧(x0:Int) < 7∧
 K (([0,6,5,4,3,2,1]:List Int).getD (x0:Int).toNat 0) H)
theorem b0p(x0){H K}(h:b0o x0 H K):a2i x0 H K:=by
 refine Ct.of fun w0 w ps0 H0 R E I hR=>d0S ?_
 refine b6 pLs ?_
 simp only [J0]
 refine b6 (Pu.g fun a=>by simp only [j8 a];with_reducible exact pGt) ?_
 refine b6 (M2 _ _) ?_
 refine u5 h (fun _ h=>?_) (fun _ h=>?_)
 ·exact hR _ H _ _ I ⟨0,rfl,rfl,h⟩
 ·refine b6 (b0i _ _ _ _ _ _ _) ?_
  obtain ⟨b,c,h⟩:=h
  refine b6 (c1s _ _ _ _ _ _ _ _ _ b c) ?_
  exact hR _ H _ _ I ⟨_,rfl,rfl,h⟩
def a4d(a:b7)(b:b7)(H:Hp)(K:Bool→Hp→Prop):Prop:=
 TG (((((decide (b.b8=12))&&(decide (a.b8=12)))&&(decide (b.fA.A8=a.fA.A8∧b.fA.s8=a.fA.s8)))&&(decide (b.fB.A8=a.fB.A8∧b.fB.s8=a.fB.s8)))=true) (a2i b.fOp H) 0 H (fun(c:Int)(d:Hp)=>
 K (((((decide (b.b8=12))&&(decide (a.b8=12)))&&(decide (b.fA.A8=a.fA.A8∧b.fA.s8=a.fA.s8)))&&(decide (b.fB.A8=a.fB.A8∧b.fB.s8=a.fB.s8)))&&(decide (a.fOp=c))) d)
def a9r(x0:Sl)(H:Hp)(K:Bool→Hp→Prop):Prop:=
 ((x0.n:Int)=0→
 K true H)∧
 (¬((x0.n:Int)=0)→
 ((x0.n:Int)=1→
 (0:Int)≤0∧(0:Int) < x0.n∧∃a:b7,EltH H x0 0 10 (d7 a)∧
 K (!decide (a.b8=12)) H)∧
 (¬((x0.n:Int)=1)→
 ((x0.n:Int)=2→
 (0:Int)≤0∧(0:Int) < x0.n∧∃b:b7,EltH H x0 0 10 (d7 b)∧
 (0:Int)≤1∧(1:Int) < x0.n∧∃c:b7,EltH H x0 1 10 (d7 c)∧
 a4d c b H K)∧
 (¬((x0.n:Int)=2)→
 K false H)))
theorem b4E(x0){H K}(h:a9r x0 H K):a6v x0 H K:=by
 refine Ct.of fun w0 w ps0 H0 R E I hR=>d0f ?_
 refine b6 (b1d _ _ _) (b6 pEq ?_)
 refine g7 h (fun _ h=>?_) (fun _ h=>?_)
 ·exact hR _ H _ _ I ⟨_,rfl,rfl,h⟩
 ·refine b6 pEq ?_
  refine g7 h (fun _ h=>?_) (fun _ h=>?_)
  ·obtain ⟨ak,al,ab,s,h⟩:=h
   obtain ⟨bg,bh,am,s⟩:=s
   refine b6 (a5h am _ _ _ _ ak al) (b6 a1J (d4 (ld1 (v:=(vi ab.b8)) Tryz.isAgg3 ((I.atH s).sub (k:=2) (n:=1) (nb rfl))) (b6 pNe ?_)))
   exact hR _ H _ _ I ⟨_,rfl,rfl,h⟩
  ·refine b6 pEq ?_
   refine g7 h (fun _ h=>?_) (fun _ h=>?_)
   ·have hj1:∀(c:b7)(d:b7)(f:Nat)(l:Nat) H w (_:Inv w0 ps0 H0 H [bx f 49 (d7 c),bx l 49 (d7 d)] w) (_:a4d c d H K),c3i (Value.pointer (some ⟨l,0,none⟩)) (Value.pointer (some ⟨f,0,none⟩)) w R E:=by
     intro c d f l H w I h
     intro _
     refine C6 I fun bi b=>?_
     refine d6 a1J ?_
     refine i8 (l1 Tryz.isAgg3 (b.bring 1) rfl) ?_
     refine d6 pEq ?_
     refine d6 (Pu.g fun a=>by with_reducible exact a1J) ?_
     refine a1u (p:=(Value.pointer (some ⟨f,2,none⟩))) rfl (Ld.g fun a=>by simp only [j8 a];exact (l1 Tryz.isAgg3 b rfl)) ?_
     refine d6 (Pu.g fun a=>by simp only [j8 a];with_reducible exact pEq) ?_
     refine d6 (E0 _ _) ?_
     refine d6 (Pu.g fun a=>by with_reducible exact M3) ?_
     refine d6 (Pu.g fun a=>by with_reducible exact M3) ?_
     refine a1u (p:=(Value.pointer (some ⟨l,6,none⟩))) rfl (Ld.g fun a=>by simp only [j8 a];exact (ldA Tryz.isAgg47 Tryz.sizeOf47 rfl ((b.bring 1).at1 (o:=6) (vs:=(m4 d.fA)) (nb rfl) rfl))) ?_
     refine a1u (p:=(Value.pointer (some ⟨f,6,none⟩))) rfl (Ld.g fun a=>by simp only [j8 a];exact (ldA Tryz.isAgg47 Tryz.sizeOf47 rfl (b.at1 (o:=6) (vs:=(m4 c.fA)) (nb rfl) rfl))) ?_
     refine d6 (Pu.g fun a=>by simp only [j8 a];with_reducible exact (b2w _ _ _ _ _ _)) ?_
     refine d6 (E0 _ _) ?_
     refine d6 (Pu.g fun a=>by with_reducible exact Q6) ?_
     refine d6 (Pu.g fun a=>by with_reducible exact Q6) ?_
     refine a1u (p:=(Value.pointer (some ⟨l,8,none⟩))) rfl (Ld.g fun a=>by simp only [j8 a];exact (ldA Tryz.isAgg47 Tryz.sizeOf47 rfl ((b.bring 1).at1 (o:=8) (vs:=(m4 d.fB)) (nb rfl) rfl))) ?_
     refine a1u (p:=(Value.pointer (some ⟨f,8,none⟩))) rfl (Ld.g fun a=>by simp only [j8 a];exact (ldA Tryz.isAgg47 Tryz.sizeOf47 rfl (b.at1 (o:=8) (vs:=(m4 c.fB)) (nb rfl) rfl))) ?_
     refine d6 (Pu.g fun a=>by simp only [j8 a];with_reducible exact (b2w _ _ _ _ _ _)) ?_
     refine d6 (E0 _ _) ?_
     refine d6 (Pu.g fun a=>by with_reducible exact a2H) ?_
     refine d6 (Pu.g fun a=>by with_reducible exact a2H) ?_
     refine a1u (p:=(Value.pointer (some ⟨f,5,none⟩))) rfl (Ld.g fun a=>by simp only [j8 a];exact (l1 Tryz.isAgg3 b rfl)) ?_
     refine a1u (p:=(Value.pointer (some ⟨l,5,none⟩))) rfl (Ld.g fun a=>by simp only [j8 a];exact (l1 Tryz.isAgg3 (b.bring 1) rfl)) ?_
     refine V4 [] (fun m:Int=>(vi m)) h b (fun a h=>by simp only [j8 a];exact V9 Tryz.call66 h b) fun m t an u y ad h=>?_
     refine ⟨(a2E (p:=(Value.pointer (some ⟨f,5,none⟩))) rfl (y _ b.lt1 (Inv.E1 (Fi:=[]) b))),?_⟩
     refine d6 (Pu.g fun a=>by simp only [j8 a];with_reducible exact pEq) ?_
     refine d6 (E0 _ _) ?_
     exact hR _ t _ _ u.drop.drop ⟨_,rfl,rfl,h⟩
    refine v6 fun j1 hx1=>?_
    refine C6 I fun bj i=>?_
    obtain ⟨ao,ap,q,j,h⟩:=h
    obtain ⟨bk,bl,aq,j⟩:=j
    refine d6 (a5h aq _ _ _ _ ao ap) ?_
    obtain ⟨ar,au,r,e,h⟩:=h
    obtain ⟨bm,bn,av,e⟩:=e
    refine d6 (a5h av _ _ _ _ ar au) ?_
    refine i8 (ldA (vs:=(d7 q)) Tryz.isAgg49 Tryz.sizeOf49 rfl (i.atH j)) ?_
    refine i8 (ldA (vs:=(d7 r)) Tryz.isAgg49 Tryz.sizeOf49 rfl (i.atH e)) ?_
    refine ⟨?_,?_⟩
    ·refine s6 i Tryz.zeroValue49 (cs:=[(vi 0),(vi 0),(vi 0),(vi 0),(vi 0),(vi 0),(vi 0),(vi 0),(vi 0),(vi 0)]) rfl fun aw bo z ae=>?_
     refine ⟨(ae _ (i.a5f e)),(ae _ (i.a5f j)),?_⟩
     refine s6 z Tryz.zeroValue49 (cs:=[(vi 0),(vi 0),(vi 0),(vi 0),(vi 0),(vi 0),(vi 0),(vi 0),(vi 0),(vi 0)]) rfl fun ax bp af ag=>?_
     refine ⟨(ag _ (z.a5f e)),(ag _ (z.a5f j)),?_⟩
     refine A5 (af.bring 1) Tryz.sizeOf49 (vs:=(d7 q)) fun bq ay az=>?_
     refine ⟨(az _ (Inv.c9m (af.bring 1) e)),?_⟩
     refine A5 (ay.bring 1) Tryz.sizeOf49 (vs:=(d7 r)) fun br ba bs=>?_
     exact hx1 _ _ (hj1 r q ax aw H _ ((ba.bring 1).bring 1) h)
    ·refine s6 i Tryz.zeroValue49 (cs:=[(vi 0),(vi 0),(vi 0),(vi 0),(vi 0),(vi 0),(vi 0),(vi 0),(vi 0),(vi 0)]) rfl fun bb bt aa ah=>?_
     refine ⟨(ah _ (i.a5f e)),(ah _ (i.a5f j)),?_⟩
     refine s6 aa Tryz.zeroValue49 (cs:=[(vi 0),(vi 0),(vi 0),(vi 0),(vi 0),(vi 0),(vi 0),(vi 0),(vi 0),(vi 0)]) rfl fun bc bu ai aj=>?_
     refine ⟨(aj _ (aa.a5f e)),(aj _ (aa.a5f j)),?_⟩
     refine A5 ai Tryz.sizeOf49 (vs:=(d7 q)) fun bv bd be=>?_
     refine ⟨(be _ (Inv.c9m ai e)),?_⟩
     refine A5 (bd.bring 1) Tryz.sizeOf49 (vs:=(d7 r)) fun bw bf bz=>?_
     exact hx1 _ _ (hj1 r q bb bc H _ ((bf.bring 1).bring 1) h)
   ·exact hR _ H _ _ I ⟨_,rfl,rfl,h⟩
def a5t(x0:l7)(x1:Int)(H:Hp)(K:Bool→Hp→Prop):Prop:=
 K ((decide (0≤x1))&&(decide (x1 < x0.y8.o7))) H
theorem b0q(x0 x1){H K}(h:a5t x0 x1 H K):T8 x0 x1 H K:=by
 refine Ct.of fun w0 w ps0 H0 R E I hR=>d0d ?_
 refine z7 I (cs:=(s7 x0.y8)) rfl fun c d b e=>?_
 refine b6 pGe ?_
 simp only [J0]
 refine b6 (Pu.g fun a=>by with_reducible exact a6E) ?_
 refine b6 (Pu.g fun a=>by simp only [j8 a];with_reducible exact a0Z) ?_
 refine d4 (Ld.g fun a=>by simp only [j8 a];exact (l1 Tryz.isAgg3 b rfl)) ?_
 refine b6 (Pu.g fun a=>by simp only [j8 a];with_reducible exact pLs) ?_
 refine b6 (E0 _ _) ?_
 exact hR _ H _ _ b.drop ⟨_,rfl,rfl,h⟩
def L8(a:m5)(b:m5)(H:Hp)(K:m5→Hp→Prop):Prop:=
 K a H
def L9(b3J:Int)(b1h:Bool)(a:m5)(b:m5)(H:Hp)(K:m5→Hp→Prop):Prop:=
 (b1h=true→
 L8 (m5.mk true a.farr a.fop a.fa true) b H K)∧
 (b1h=false→
 (b3J=9→
 K (m5.mk true false false false false) H)∧
 (¬(b3J=9)→
 (b3J=10→
 L8 (m5.mk true true a.fop a.fa a.fb) b H K)∧
 (¬(b3J=10)→
 (b3J=11→
 L8 (m5.mk a.fdst true a.fop a.fa true) b H K)∧
 (¬(b3J=11)→
 (b3J=12→
 L8 (m5.mk a.fdst a.farr true a.fa true) b H K)∧
 (¬(b3J=12)→
 K (m5.mk false false false false false) H)))))
def V5(a4K:Int)(b6Q:Bool)(a:m5)(b:m5)(H:Hp)(K:m5→Hp→Prop):Prop:=
 (b6Q=true→
 L8 (m5.mk true a.farr a.fop a.fa a.fb) b H K)∧
 (b6Q=false→
 (a4K=4→
 L9 a4K (decide (a4K=4)) a b H K)∧
 (¬(a4K=4)→
 (a4K=5→
 L9 a4K (decide (a4K=5)) a b H K)∧
 (¬(a4K=5)→
 (a4K=6→
 L9 a4K (decide (a4K=6)) a b H K)∧
 (¬(a4K=6)→
 (a4K=7→
 L9 a4K (decide (a4K=7)) a b H K)∧
 (¬(a4K=7)→
 L9 a4K (decide (a4K=8)) a b H K)))))
def a7z(x0:Int)(H:Hp)(K:m5→Hp→Prop):Prop:=
 (x0=2→
 V5 x0 (decide (x0=2)) (m5.mk false false false true false) (m5.mk false false false false false) H K)∧
 (¬(x0=2)→
 V5 x0 (decide (x0=3)) (m5.mk false false false true false) (m5.mk false false false false false) H K)
theorem b2B(x0){H K}(h:a7z x0 H K):a3X x0 H K:=by
 refine Ct.of fun w0 w ps0 H0 R E I hR=>d0M ?_
 refine s6 I Tryz.zeroValue139 (cs:=[(vB false),(vB false),(vB false),(vB false),(vB false)]) rfl fun a t i u=>?_
 refine b6 (b8C _) ?_
 refine s6 i Tryz.zeroValue139 (cs:=[(vB false),(vB false),(vB false),(vB false),(vB false)]) rfl fun b v j y=>?_
 refine A5 j Tryz.sizeOf139 (vs:=[(vB false),(vB false),(vB false),(vB true),(vB false)]) fun z d aa=>?_
 have hj1:∀(c:m5) H w (_:Inv w0 ps0 H0 H [bx b 139 (a7q c),bx a 139 [(vB (m5.mk false false false false false).fdst),(vB (m5.mk false false false false false).farr),(vB (m5.mk false false false false false).fop),(vB (m5.mk false false false false false).fa),(vB (m5.mk false false false false false).fb)]] w) (_:L8 c (m5.mk false false false false false) H K),c3o (Value.pointer (some ⟨a,0,none⟩)) (Value.pointer (some ⟨b,0,none⟩)) w R E:=by
  intro c H w I h
  intro _
  refine d4 (lW Tryz.isAgg139 Tryz.sizeOf139 rfl I) ?_
  refine A5 (I.bring 1) Tryz.sizeOf139 (vs:=(a7q c)) fun ab e ac=>?_
  refine Q4 Tryz.isAgg139 Tryz.sizeOf139 rfl e ?_
  exact hR _ H _ _ e.drop.drop ⟨c,rfl,rfl,h⟩
 refine v6 fun j1 hx1=>?_
 have hj2:∀(b6Q:Bool) H w (_:Inv w0 ps0 H0 H [bx b 139 [(vB (m5.mk false false false true false).fdst),(vB (m5.mk false false false true false).farr),(vB (m5.mk false false false true false).fop),(vB (m5.mk false false false true false).fa),(vB (m5.mk false false false true false).fb)],bx a 139 [(vB (m5.mk false false false false false).fdst),(vB (m5.mk false false false false false).farr),(vB (m5.mk false false false false false).fop),(vB (m5.mk false false false false false).fa),(vB (m5.mk false false false false false).fb)]] w) (_:V5 x0 b6Q (m5.mk false false false true false) (m5.mk false false false false false) H K),c3q (Value.pointer (some ⟨a,0,none⟩)) (Value.pointer (some ⟨b,0,none⟩)) (vi x0) (vB b6Q) w j1 R E:=by
  intro b6Q H w I h
  intro _
  refine u5 h (fun _ h=>?_) (fun _ h=>?_)
  ·refine b6 a8p ?_
   refine K2 I Tryz.sizeOf4 fun ad k ae=>?_
   exact hx1 _ _ (hj1 (m5.mk true (m5.mk false false false true false).farr (m5.mk false false false true false).fop (m5.mk false false false true false).fa (m5.mk false false false true false).fb) H _ ((k.bring 1).bring 1) h)
  ·have hj3:∀(b1h:Bool) H w (_:Inv w0 ps0 H0 H [bx b 139 [(vB (m5.mk false false false true false).fdst),(vB (m5.mk false false false true false).farr),(vB (m5.mk false false false true false).fop),(vB (m5.mk false false false true false).fa),(vB (m5.mk false false false true false).fb)],bx a 139 [(vB (m5.mk false false false false false).fdst),(vB (m5.mk false false false false false).farr),(vB (m5.mk false false false false false).fop),(vB (m5.mk false false false false false).fa),(vB (m5.mk false false false false false).fb)]] w) (_:L9 x0 b1h (m5.mk false false false true false) (m5.mk false false false false false) H K),c3p (Value.pointer (some ⟨a,0,none⟩)) (Value.pointer (some ⟨b,0,none⟩)) (vi x0) (vB b1h) w j1 R E:=by
    intro b1h H w I h
    intro _
    refine u5 h (fun _ h=>?_) (fun _ h=>?_)
    ·refine b6 a8p ?_
     refine K2 I Tryz.sizeOf4 fun af l ag=>?_
     refine b6 a8q ?_
     refine K2 l Tryz.sizeOf4 fun ah m ai=>?_
     exact hx1 _ _ (hj1 (m5.mk true (m5.mk false false false true false).farr (m5.mk false false false true false).fop (m5.mk false false false true false).fa true) H _ ((m.bring 1).bring 1) h)
    ·refine b6 pEq ?_
     refine g7 h (fun _ h=>?_) (fun _ h=>?_)
     ·refine b6 (b8D _) ?_
      refine A5 (I.bring 1) Tryz.sizeOf139 (vs:=[(vB true),(vB false),(vB false),(vB false),(vB false)]) fun aj f ak=>?_
      refine Q4 Tryz.isAgg139 Tryz.sizeOf139 rfl f ?_
      exact hR _ H _ _ f.drop.drop ⟨_,rfl,rfl,h⟩
     ·refine b6 pEq ?_
      refine g7 h (fun _ h=>?_) (fun _ h=>?_)
      ·refine b6 a8p ?_
       refine K2 I Tryz.sizeOf4 fun al n am=>?_
       refine b6 b1n ?_
       refine K2 n Tryz.sizeOf4 fun an o ao=>?_
       exact hx1 _ _ (hj1 (m5.mk true true (m5.mk false false false true false).fop (m5.mk false false false true false).fa (m5.mk false false false true false).fb) H _ ((o.bring 1).bring 1) h)
      ·refine b6 pEq ?_
       refine g7 h (fun _ h=>?_) (fun _ h=>?_)
       ·refine b6 b1n ?_
        refine K2 I Tryz.sizeOf4 fun ap p aq=>?_
        refine b6 a8q ?_
        refine K2 p Tryz.sizeOf4 fun ar q au=>?_
        exact hx1 _ _ (hj1 (m5.mk (m5.mk false false false true false).fdst true (m5.mk false false false true false).fop (m5.mk false false false true false).fa true) H _ ((q.bring 1).bring 1) h)
       ·refine b6 pEq ?_
        refine g7 h (fun _ h=>?_) (fun _ h=>?_)
        ·refine b6 b4L ?_
         refine K2 I Tryz.sizeOf4 fun av r aw=>?_
         refine b6 a8q ?_
         refine K2 r Tryz.sizeOf4 fun ax s ay=>?_
         exact hx1 _ _ (hj1 (m5.mk (m5.mk false false false true false).fdst (m5.mk false false false true false).farr true (m5.mk false false false true false).fa true) H _ ((s.bring 1).bring 1) h)
        ·refine b6 (c1r) ?_
         refine A5 (I.bring 1) Tryz.sizeOf139 (vs:=[(vB false),(vB false),(vB false),(vB false),(vB false)]) fun az g ba=>?_
         refine Q4 Tryz.isAgg139 Tryz.sizeOf139 rfl g ?_
         exact hR _ H _ _ g.drop.drop ⟨_,rfl,rfl,h⟩
   refine v6 fun j3 hx3=>?_
   refine b6 pEq ?_
   refine g7 h (fun _ h=>?_) (fun _ h=>?_)
   ·exact hx3 _ _ (hj3 (decide (x0=4)) H _ ((I.bring 1).bring 1) h)
   ·refine b6 pEq ?_
    refine g7 h (fun _ h=>?_) (fun _ h=>?_)
    ·exact hx3 _ _ (hj3 (decide (x0=5)) H _ ((I.bring 1).bring 1) h)
    ·refine b6 pEq ?_
     refine g7 h (fun _ h=>?_) (fun _ h=>?_)
     ·exact hx3 _ _ (hj3 (decide (x0=6)) H _ ((I.bring 1).bring 1) h)
     ·refine b6 pEq ?_
      refine g7 h (fun _ h=>?_) (fun _ h=>?_)
      ·exact hx3 _ _ (hj3 (decide (x0=7)) H _ ((I.bring 1).bring 1) h)
      ·refine b6 pEq ?_
       exact hx3 _ _ (hj3 (decide (x0=8)) H _ ((I.bring 1).bring 1) h)
 refine v6 fun j2 hx2=>?_
 refine b6 pEq ?_
 refine g7 h (fun _ h=>?_) (fun _ h=>?_)
 ·exact hx2 _ _ (hj2 (decide (x0=2)) H _ ((d.bring 1).bring 1) h)
 ·refine b6 pEq ?_
  exact hx2 _ _ (hj2 (decide (x0=3)) H _ ((d.bring 1).bring 1) h)
def b0r(x0:Bool)(x1:Bool)(x2:Bool)(H:Hp)(K:Bool→Hp→Prop):Prop:=
 (x0=true→
 K x1 H)∧
 (x0=false→
 K x2 H)
theorem b5h(x0 x1 x2){H K}(h:b0r x0 x1 x2 H K):Y3 x0 x1 x2 H K:=by
 refine Ct.of fun w0 w ps0 H0 R E I hR=>d0N ?_
 refine u5 h (fun _ h=>?_) (fun _ h=>?_)
 ·exact hR _ H _ _ I ⟨x1,rfl,rfl,h⟩
 ·exact hR _ H _ _ I ⟨x2,rfl,rfl,h⟩
def a5u(x0:l7)(x1:b7)(H:Hp)(K:Bool→Hp→Prop):Prop:=
 T8 x0 x1.B3 H (fun f g=>
 TG ((!f)=false) (T8 x0 x1.fTo g) false g (fun(i:Bool)(j:Hp)=>
 ((((((!f)||(!i))||(decide (x1.B3=x0.y8.B6)))||(decide (x1.b8 < 1)))||(decide (14 < x1.b8)))=true→
 K false j)∧
 ((((((!f)||(!i))||(decide (x1.B3=x0.y8.B6)))||(decide (x1.b8 < 1)))||(decide (14 < x1.b8)))=false→
 a3X x1.b8 j (fun d v=>
 V8 x0 x1.D8 v (fun y z=>
 Y3 d.fdst y (decide (x1.D8=(-1))) z (fun a k=>
 TG (a=true) (a2j x0 x1.P9 k) false k (fun(aa:Bool)(l:Hp)=>
 TG (a=true) (Y3 d.farr aa (decide (x1.P9=(-1))) l) false l (fun(b:Bool)(m:Hp)=>
 TG ((a&&b)=true) (Y3 d.fop ((decide (1≤x1.fOp))&&(decide (x1.fOp≤6))) (decide (x1.fOp=0)) m) false m (fun(c:Bool)(n:Hp)=>
 TG (((a&&b)&&c)=true) (W8 x0 x1.fA n) false n (fun(ab:Bool)(o:Hp)=>
 TG (((a&&b)&&c)=true) (Q7 o) (o3.mk 0 0) o (fun(p:o3)(q:Hp)=>
 TG (((a&&b)&&c)=true) (Y3 d.fa ab (decide (x1.fA.A8=p.A8∧x1.fA.s8=p.s8)) q) false q (fun(e:Bool)(r:Hp)=>
 TG ((((a&&b)&&c)&&e)=true) (W8 x0 x1.fB r) false r (fun(ac:Bool)(s:Hp)=>
 TG ((((a&&b)&&c)&&e)=true) (Q7 s) (o3.mk 0 0) s (fun(t:o3)(u:Hp)=>
 TG ((((a&&b)&&c)&&e)=true) (Y3 d.fb ac (decide (x1.fB.A8=t.A8∧x1.fB.s8=t.s8)) u) false u (fun(ad:Bool)(ae:Hp)=>
 K ((((a&&b)&&c)&&e)&&ad) ae)))))))))))))))
theorem b0s(x0 x1){H K}(h:a5u x0 x1 H K):a2k x0 x1 H K:=by
 refine Ct.of fun w0 w ps0 H0 R E I hR=>d0e ?_
 refine z7 I (cs:=(s7 x0.y8)) rfl fun cu cv cc cw=>?_
 refine z7 cc (cs:=(d7 x1)) rfl fun k cx am cy=>?_
 refine d4 (lW Tryz.isAgg107 Tryz.sizeOf107 rfl (am.bring 1)) (b6 a1M (d4 (l1 Tryz.isAgg3 am rfl) ?_))
 refine f9 Tryz.call28 h am ?_
 rintro _ _ _ cz n _ _ ⟨da,rfl,rfl,h⟩
 refine b6 (O4 _) ?_
 refine d4 (Ld.g fun a=>by exact (lW Tryz.isAgg107 Tryz.sizeOf107 rfl (n.bring 1))) ?_
 refine b6 (Pu.g fun a=>by with_reducible exact b2n) ?_
 refine d4 (Ld.g fun a=>by simp only [j8 a];exact (l1 Tryz.isAgg3 n rfl)) ?_
 refine V4 [] (fun y:Bool=>(vB y)) h n (fun a h=>by simp only [j8 a];exact V9 Tryz.call28 h n) fun y an cd i ar au h=>?_
 refine b6 (Pu.g fun a=>by simp only [j8 a];with_reducible exact (O4 _)) ?_
 refine b6 (M2 _ _) ?_
 refine b6 (Pu.g fun a=>by with_reducible exact a1M) ?_
 refine d4 (Ld.g fun a=>by simp only [j8 a];exact (l1 Tryz.isAgg3 i rfl)) ?_
 refine b6 (Pu.g fun a=>by with_reducible exact a6E) ?_
 refine b6 (Pu.g fun a=>by simp only [j8 a];with_reducible exact a5P) ?_
 refine d4 (Ld.g fun a=>by simp only [j8 a];exact (l1 Tryz.isAgg3 (i.bring 1) rfl)) ?_
 refine b6 (Pu.g fun a=>by simp only [j8 a];with_reducible exact pEq) ?_
 refine b6 (M2 _ _) ?_
 refine b6 (Pu.g fun a=>by with_reducible exact a1J) ?_
 refine d4 (Ld.g fun a=>by simp only [j8 a];exact (l1 Tryz.isAgg3 i rfl)) ?_
 refine b6 (Pu.g fun a=>by simp only [j8 a];with_reducible exact pLs) ?_
 refine b6 (M2 _ _) ?_
 refine b6 (Pu.g fun a=>by with_reducible exact a1J) ?_
 refine d4 (Ld.g fun a=>by simp only [j8 a];exact (l1 Tryz.isAgg3 i rfl)) ?_
 refine b6 (Pu.g fun a=>by simp only [j8 a];with_reducible exact pGt) ?_
 refine b6 (M2 _ _) ?_
 refine u5 h (fun _ h=>?_) (fun _ h=>?_)
 ·exact hR _ an _ _ i.drop.drop ⟨_,rfl,rfl,h⟩
 ·refine b6 a1J (d4 (l1 Tryz.isAgg3 i rfl) ?_)
  refine f9 Tryz.call60 h i ?_
  rintro _ _ _ db ce _ _ ⟨cf,rfl,rfl,h⟩
  refine s6 ce Tryz.zeroValue139 (cs:=[(vB false),(vB false),(vB false),(vB false),(vB false)]) rfl fun l dc cg dd=>?_
  refine A5 cg Tryz.sizeOf139 (vs:=(a7q cf)) fun de ch df=>?_
  refine C6 ch fun dg m=>?_
  refine d6 a8p ?_
  refine d6 U8 ?_
  refine d6 U8 ?_
  refine i8 (l1 Tryz.isAgg4 m rfl) ?_
  refine i8 (lW Tryz.isAgg107 Tryz.sizeOf107 rfl (m.bring 2)) ?_
  refine i8 (l1 Tryz.isAgg3 (m.bring 1) rfl) ?_
  refine i8 (l1 Tryz.isAgg3 (m.bring 1) rfl) ?_
  refine d6 pEq ?_
  refine f9 Tryz.call62 h m ?_
  rintro _ _ _ dh ci _ av ⟨di,rfl,rfl,h⟩
  refine ⟨(av _ (m.bring 1).lt1 (Inv.E1 (Fi:=[]) (m.bring 1))),(av _ m.lt1 (Inv.E1 (Fi:=[]) m)),?_⟩
  refine f9 Tryz.call61 h ci ?_
  rintro _ _ _ dj f _ _ ⟨cj,rfl,rfl,h⟩
  refine d6 (Pu.g fun a=>by with_reducible exact b1n) ?_
  refine d6 (Pu.g fun a=>by with_reducible exact a5S) ?_
  refine d6 (Pu.g fun a=>by with_reducible exact a5S) ?_
  refine a1u (p:=(Value.pointer (some ⟨l,1,none⟩))) rfl (Ld.g fun a=>by simp only [j8 a];exact (l1 Tryz.isAgg4 f rfl)) ?_
  refine i8 (Ld.g fun a=>by exact (lW Tryz.isAgg107 Tryz.sizeOf107 rfl (f.bring 2))) ?_
  refine a1u (p:=(Value.pointer (some ⟨k,4,none⟩))) rfl (Ld.g fun a=>by simp only [j8 a];exact (l1 Tryz.isAgg3 (f.bring 1) rfl)) ?_
  refine a1u (p:=(Value.pointer (some ⟨k,4,none⟩))) rfl (Ld.g fun a=>by simp only [j8 a];exact (l1 Tryz.isAgg3 (f.bring 1) rfl)) ?_
  refine d6 (Pu.g fun a=>by simp only [j8 a];with_reducible exact pEq) ?_
  refine V4 [] (fun z:Bool=>(vB z)) h f (fun a h=>by simp only [j8 a];exact V9 Tryz.call63 h f) fun z ax ck aa ab ay h=>?_
  refine ⟨(a2E (p:=(Value.pointer (some ⟨k,4,none⟩))) rfl (ab _ (f.bring 1).lt1 (Inv.E1 (Fi:=[]) (f.bring 1)))),(a2E (p:=(Value.pointer (some ⟨l,1,none⟩))) rfl (ab _ f.lt1 (Inv.E1 (Fi:=[]) f))),?_⟩
  refine V4 [] (fun s:Bool=>(vB s)) h aa (fun a h=>by simp only [j8 a];exact V9 Tryz.call61 h aa) fun s ba cl j bb bc h=>?_
  refine d6 (E0 _ _) ?_
  refine d6 (Pu.g fun a=>by with_reducible exact b4L) ?_
  refine d6 (Pu.g fun a=>by with_reducible exact a2H) ?_
  refine d6 (Pu.g fun a=>by with_reducible exact a2H) ?_
  refine a1u (p:=(Value.pointer (some ⟨l,2,none⟩))) rfl (Ld.g fun a=>by simp only [j8 a];exact (l1 Tryz.isAgg4 j rfl)) ?_
  refine a1u (p:=(Value.pointer (some ⟨k,5,none⟩))) rfl (Ld.g fun a=>by simp only [j8 a];exact (l1 Tryz.isAgg3 (j.bring 1) rfl)) ?_
  refine d6 (Pu.g fun a=>by simp only [j8 a];with_reducible exact pGe) ?_
  simp only [J0,b4f]
  refine d6 (Pu.e (b6F _ _ _) (Pu.g fun hb=>by obtain ⟨a,b⟩:=c1k hb;with_reducible exact a2H)) ?_
  refine d3y (b6F _ _ _) rfl (a1u (p:=(Value.pointer (some ⟨k,5,none⟩))) rfl (Ld.g fun hb=>by obtain ⟨a,b⟩:=c1k hb;simp only [j8 hb];exact (l1 Tryz.isAgg3 (j.bring 1) rfl)) ?_)
  refine d6 (Pu.e (b6F _ _ _) (Pu.g fun hb=>by obtain ⟨a,b⟩:=c1k hb;simp only [j8 hb];with_reducible exact pLe)) ?_
  refine d6 (Pu.g fun a=>by simp only [j8 a,c9j a];with_reducible exact (E0 _ _)) ?_
  refine a1u (p:=(Value.pointer (some ⟨k,5,none⟩))) rfl (Ld.g fun a=>by simp only [j8 a];exact (l1 Tryz.isAgg3 (j.bring 1) rfl)) ?_
  refine d6 (Pu.g fun a=>by simp only [j8 a];with_reducible exact pEq) ?_
  refine V4 [] (fun t:Bool=>(vB t)) h j (fun a h=>by simp only [j8 a];exact V9 Tryz.call61 h j) fun t be cm c bf bg h=>?_
  refine d6 (E0 _ _) ?_
  refine d6 (Pu.g fun a=>by with_reducible exact b9T) ?_
  refine d6 (Pu.g fun a=>by with_reducible exact M3) ?_
  refine d6 (Pu.g fun a=>by with_reducible exact M3) ?_
  refine a1u (p:=(Value.pointer (some ⟨l,3,none⟩))) rfl (Ld.g fun a=>by simp only [j8 a];exact (l1 Tryz.isAgg4 c rfl)) ?_
  refine i8 (Ld.g fun a=>by exact (lW Tryz.isAgg107 Tryz.sizeOf107 rfl (c.bring 2))) ?_
  refine a1u (p:=(Value.pointer (some ⟨k,6,none⟩))) rfl (Ld.g fun a=>by simp only [j8 a];exact (ldA Tryz.isAgg47 Tryz.sizeOf47 rfl ((c.bring 1).at1 (o:=6) (vs:=(m4 x1.fA)) (nb rfl) rfl))) ?_
  refine a1u (p:=(Value.pointer (some ⟨k,6,none⟩))) rfl (Ld.g fun a=>by simp only [j8 a];exact (ldA Tryz.isAgg47 Tryz.sizeOf47 rfl ((c.bring 1).at1 (o:=6) (vs:=(m4 x1.fA)) (nb rfl) rfl))) ?_
  refine V4 [] (fun ac:Bool=>(vB ac)) h c (fun a h=>by simp only [j8 a];exact V9 Tryz.call64 h c) fun ac bi cn q ad bj h=>?_
  refine ⟨(a2E (p:=(Value.pointer (some ⟨k,6,none⟩))) rfl (ad _ (c.bring 1).lt1 (Inv.E1 (Fi:=[]) (c.bring 1)))),(a2E (p:=(Value.pointer (some ⟨l,3,none⟩))) rfl (ad _ c.lt1 (Inv.E1 (Fi:=[]) c))),?_⟩
  refine V4 [] (fun ae:o3=>(Value.agg (m4 ae).toArray)) h q (fun _ h=>V9 Tryz.call65 h q) fun ae bl co af ag bm h=>?_
  refine ⟨(a2E (p:=(Value.pointer (some ⟨k,6,none⟩))) rfl (ag _ (q.bring 1).lt1 (Inv.E1 (Fi:=[]) (q.bring 1)))),(a2E (p:=(Value.pointer (some ⟨l,3,none⟩))) rfl (ag _ q.lt1 (Inv.E1 (Fi:=[]) q))),?_⟩
  refine d6 (Pu.g fun a=>by simp only [j8 a];with_reducible exact (b2w _ _ _ _ _ _)) ?_
  refine V4 [] (fun u:Bool=>(vB u)) h af (fun a h=>by simp only [j8 a];exact V9 Tryz.call61 h af) fun u bo cp d bp bq h=>?_
  refine d6 (E0 _ _) ?_
  refine d6 (Pu.g fun a=>by with_reducible exact a8q) ?_
  refine d6 (Pu.g fun a=>by with_reducible exact Q6) ?_
  refine d6 (Pu.g fun a=>by with_reducible exact Q6) ?_
  refine a1u (p:=(Value.pointer (some ⟨l,4,none⟩))) rfl (Ld.g fun a=>by simp only [j8 a];exact (l1 Tryz.isAgg4 d rfl)) ?_
  refine i8 (Ld.g fun a=>by exact (lW Tryz.isAgg107 Tryz.sizeOf107 rfl (d.bring 2))) ?_
  refine a1u (p:=(Value.pointer (some ⟨k,8,none⟩))) rfl (Ld.g fun a=>by simp only [j8 a];exact (ldA Tryz.isAgg47 Tryz.sizeOf47 rfl ((d.bring 1).at1 (o:=8) (vs:=(m4 x1.fB)) (nb rfl) rfl))) ?_
  refine a1u (p:=(Value.pointer (some ⟨k,8,none⟩))) rfl (Ld.g fun a=>by simp only [j8 a];exact (ldA Tryz.isAgg47 Tryz.sizeOf47 rfl ((d.bring 1).at1 (o:=8) (vs:=(m4 x1.fB)) (nb rfl) rfl))) ?_
  refine V4 [] (fun ah:Bool=>(vB ah)) h d (fun a h=>by simp only [j8 a];exact V9 Tryz.call64 h d) fun ah bs cq r ai bt h=>?_
  refine ⟨(a2E (p:=(Value.pointer (some ⟨k,8,none⟩))) rfl (ai _ (d.bring 1).lt1 (Inv.E1 (Fi:=[]) (d.bring 1)))),(a2E (p:=(Value.pointer (some ⟨l,4,none⟩))) rfl (ai _ d.lt1 (Inv.E1 (Fi:=[]) d))),?_⟩
  refine V4 [] (fun aj:o3=>(Value.agg (m4 aj).toArray)) h r (fun _ h=>V9 Tryz.call65 h r) fun aj bv cr ak al bw h=>?_
  refine ⟨(a2E (p:=(Value.pointer (some ⟨k,8,none⟩))) rfl (al _ (r.bring 1).lt1 (Inv.E1 (Fi:=[]) (r.bring 1)))),(a2E (p:=(Value.pointer (some ⟨l,4,none⟩))) rfl (al _ r.lt1 (Inv.E1 (Fi:=[]) r))),?_⟩
  refine d6 (Pu.g fun a=>by simp only [j8 a];with_reducible exact (b2w _ _ _ _ _ _)) ?_
  refine V4 [] (fun v:Bool=>(vB v)) h ak (fun a h=>by simp only [j8 a];exact V9 Tryz.call61 h ak) fun v ao ct ap ca cb h=>?_
  refine d6 (E0 _ _) ?_
  exact hR _ ao _ _ ap.drop.drop.drop ⟨_,rfl,rfl,h⟩
def a5v(x0:Sl)(x1:Int)(H:Hp)(K:Bool→Hp→Prop):Prop:=
 K ((decide ((x0.n:Int)≤3000))&&((decide (x1≤3000))||(decide (65536 < x1)))) H
theorem b0t(x0 x1){H K}(h:a5v x0 x1 H K):a5k x0 x1 H K:=by
 refine Ct.of fun w0 w ps0 H0 R E I hR=>d2K ?_
 refine b6 (a1T _ _ _) (b6 pLe ?_)
 simp only [J0]
 refine b6 (Pu.g fun a=>by simp only [j8 a];with_reducible exact pLe) ?_
 simp only [b4f,c9l]
 refine b6 (Pu.e (c7j _ _ _) (Pu.g fun hb=>by obtain ⟨a,b⟩:=d2D hb;simp only [j8 hb];with_reducible exact pGt)) ?_
 refine b6 (Pu.g fun a=>by simp only [j8 a,c9k a];with_reducible exact (M2 _ _)) ?_
 refine b6 (E0 _ _) ?_
 exact hR _ H _ _ I ⟨_,rfl,rfl,h⟩
def a3v(H:Hp)(K:Bool→Hp→Prop):Prop:=
 K true H
def a3w(c1C:Sl)(b3H:Sl)(a4L:Int)(H:Hp)(n2:Int→Hp→Prop)(K:Bool→Hp→Prop):Prop:=
 (a4L < (c1C.n:Int)→
 (0:Int)≤a4L∧(a4L:Int) < c1C.n∧∃a:Int,EltH H c1C a4L 1 [(vi a)]∧
 (0:Int)≤a4L∧(a4L:Int) < b3H.n∧∃b:Int,EltH H b3H a4L 1 [(vi b)]∧
 (¬(a=b)→
 K false H)∧
 (a=b→
 n2 (IntKind.wrap .i64 (a4L+1)) H))∧
 (¬(a4L < (c1C.n:Int))→
 a3v H K)
def a4P(x0:Sl)(x1:Sl)(H:Hp)(K:Bool→Hp→Prop):Prop:=
 (¬((x0.n:Int)=(x1.n:Int))→
 K false H)∧
 ((x0.n:Int)=(x1.n:Int)→
 TL (0:Int) H fun(s:Int) H n2=>a3w x0 x1 s H n2 K)
theorem a9G(x0 x1){H K}(h:a4P x0 x1 H K):Z7 x0 x1 H K:=by
 refine Ct.of fun w0 w ps0 H0 R E I hR=>c9T ?_
 refine b6 (a1T _ _ _) (b6 (a1T _ _ _) (b6 pNe ?_))
 refine a2f h (fun _ h=>?_) (fun _ h=>?_)
 ·exact hR _ H _ _ I ⟨_,rfl,rfl,h⟩
 ·have hj1:∀H w (_:Inv w0 ps0 H0 H [] w) (_:a3v H K),c3a w R E:=by
   intro H w I h
   intro _
   exact hR _ H _ _ I ⟨_,rfl,rfl,h⟩
  refine v6 fun j1 hx1=>?_
  refine a2P (σ:=Int) (fun a4L=>[(vi a4L)]) (fun a4L=>[]) h rfl I ?_
  rintro a4L H n w next2 n2 d I h hn2
  simp only [List.map_cons,List.map_nil,List.cons.injEq,and_true] at d
  have e5:=d
  simp only [e5]
  refine b6 (a1T _ _ _) (b6 pLs ?_)
  refine g7 h (fun _ h=>?_) (fun _ h=>?_)
  ·refine C6 I fun o a=>?_
   obtain ⟨e,f,g,b,h⟩:=h
   obtain ⟨p,q,i,b⟩:=b
   refine d6 (E3 i _ _ _ _ e f) ?_
   obtain ⟨j,k,l,c,h⟩:=h
   obtain ⟨r,s,m,c⟩:=c
   refine d6 (E3 m _ _ _ _ j k) ?_
   refine i8 (ld1 (v:=(vi g)) Tryz.isAgg2 (a.atH b)) ?_
   refine i8 (ld1 (v:=(vi l)) Tryz.isAgg2 (a.atH c)) ?_
   refine d6 pNe ?_
   refine a2f h (fun _ h=>?_) (fun _ h=>?_)
   ·exact hR _ H _ _ a ⟨_,rfl,rfl,h⟩
   ·refine b6 pAd ?_
    exact hn2 (IntKind.wrap .i64 (a4L+1)) _ _ h a
  ·exact hx1 _ _ (hj1 H _ I h)
def G5(a0j:(List d9))(H:Hp)(K:Sl→Hp→Prop):Prop:=
 ∀(M4:Sl)(a:Hp),Hle H a→SlH a 1 v8 M4 a0j→M4.n≤M4.c→
 K M4 a
def G6(a2q:Sl)(a2p:Int)(C5:(List d9))(A9:Int)(H:Hp)(n2:((List d9)×Int)→Hp→Prop)(K:Sl→Hp→Prop):Prop:=
 (A9 < a2p→
 (0:Int)≤A9∧(A9:Int) < a2q.n∧∃a:j7,EltH H a2q A9 2 (m3 a)∧
 a7r a H (fun b c=>
 (C5.length+([b]:List d9).length)*17≤140737488355328∧
 n2 ((C5++[b]),(IntKind.wrap .i64 (A9+1))) c))∧
 (¬(A9 < a2p)→
 G5 C5 H K)
def P5(x0:Sl)(H:Hp)(K:Sl→Hp→Prop):Prop:=
 TL (([],0):(List d9)×Int) H fun(s:(List d9)×Int) H n2=>G6 x0 (x0.n:Int) s.1 s.2 H n2 K
theorem a0O(x0){H K}(h:P5 x0 H K):K5 x0 H K:=by
 refine Ct.of fun w0 w ps0 H0 R E I hR=>d1g ?_
 have hj1:∀(a0j:(List d9))(M4:Sl)(Fs5j1:Frag) H w (_:RowL 157 1 v8 M4 a0j Fs5j1) (_:Inv w0 ps0 H0 H [Fs5j1] w) (_:G5 a0j H K),c3x (vs M4) w R E:=by
  intro a0j M4 Fs5j1 H w b2C I h
  intro _
  obtain ⟨j,q,r,t,u⟩:=Inv.freezeC I b2C (by decide)
  replace h:=h M4 j r t u
  exact hR _ j _ _ q ⟨_,rfl,rfl,h⟩
 refine v6 fun j1 hx1=>?_
 refine b6 (a1U _ _ _) ?_
 obtain ⟨f,d,v,y⟩:=h
 refine K7 (J:=fun n l w=>∃(s:(List d9)×Int)(H:Hp)(a0k:Sl)(Fs5l2:Frag),n=d s∧l=(match s with | (C5,A9)=>[(vs a0k),(vi A9)])∧(match s with | (C5,A9)=>RowL 157 1 v8 a0k C5 Fs5l2)∧(match s with | (C5,A9)=>Inv w0 ps0 H0 H [Fs5l2] w)∧f s H) ⟨_,([],0),H,(Sl.mk none 0 0),[],rfl,rfl,(RowL.nil P1 S3),I.nil,v⟩ ?_
 rintro am an w next2 ⟨⟨C5,A9⟩,H,a0k,Fs5l2,rfl,g,a4e,I,z⟩ hn2
 dsimp only at g I a4e
 simp only [List.map_cons,List.map_nil,List.cons.injEq,and_true] at g
 obtain ⟨e5,e10⟩:=g
 simp only [e5,e10]
 obtain ⟨n2,hm2,h⟩:∃n2:((List d9)×Int)→Hp→Prop,(∀s' H',n2 s' H'→f s' H'∧d s' < d (C5,A9))∧G6 x0 (x0.n:Int) C5 A9 H n2 K:=⟨_,fun _ _ h=>h,y (C5,A9) H (fun s' H'=>f s' H'∧d s' < d (C5,A9)) z (fun _ _ a b=>⟨a,b⟩)⟩
 refine b6 pLs ?_
 refine g7 h (fun _ h=>?_) (fun _ h=>?_)
 ·obtain ⟨aa,ab,k,i,h⟩:=h
  obtain ⟨ao,ap,ac,i⟩:=i
  refine b6 (a2g ac _ _ _ _ aa ab) (d4 (ldA (vs:=(m3 k)) Tryz.isAgg58 Tryz.sizeOf58 rfl (I.atH i)) ?_)
  refine s6 I Tryz.zeroValue58 (cs:=[(eS),(vi 0)]) rfl fun aq ar ad au=>?_
  refine A5 ad Tryz.sizeOf58 (vs:=(m3 k)) fun av m aw=>?_
  refine d4 (lW Tryz.isAgg58 Tryz.sizeOf58 rfl m) ?_
  refine f9 Tryz.call80 h m ?_
  rintro _ ae _ ax af _ _ ⟨o,rfl,rfl,h⟩
  refine Y1 (e:=157) (c:=v8) (xs:=[o]) af (b2z _) rfl rfl P1 S3 (nb rfl) fun ay az ba ag p bb=>?_
  obtain ⟨ah,h⟩:=h
  refine b1D (s:=a0k) (xs:=C5) (p.bring 2) a4e (ag.srcO ((p.bring 2).bring 1)) ah fun ai aj bc ak al bd=>?_
  refine b6 pAd ?_
  exact hn2 _ _ _ (hm2 _ _ h).2 ⟨((C5++[o]),(IntKind.wrap .i64 (A9+1))),ae,ai,aj,rfl,rfl,ak,((al.bring 1).drop.bring 1).drop,(hm2 _ _ h).1⟩
 ·exact hx1 _ _ (hj1 C5 a0k Fs5l2 H _ a4e I h)
def a7A(x0:B4)(H:Hp)(K:d9→Hp→Prop):Prop:=
 K (d9.K6 (S9.mk x0)) H
theorem b2D(x0){H K}(h:a7A x0 H K):a7s x0 H K:=by
 refine Ct.of fun w0 w ps0 H0 R E I hR=>d1k ?_
 refine z7 I (cs:=(p8 x0)) rfl fun b c a d=>?_
 refine d4 (lW Tryz.isAgg104 Tryz.sizeOf104 rfl a) (b6 (b8F _ _ _ _ _ _ _ _ _ _ _ _ _ _) (b6 (b6N (S9.mk x0)) ?_))
 exact hR _ H _ _ a.drop ⟨_,rfl,rfl,h⟩
def L2(d5k:Sl)(b6R:Int)(d5l:Sl)(c6r:Int)(c1D:Int)(H:Hp)(n4:(Int×Int)→Hp→Prop)(K:Sl→Hp→Prop):Prop:=
 n4 (b6R,(IntKind.wrap .i64 (c1D+1))) H
def L3(a7B:(List d9))(H:Hp)(K:Sl→Hp→Prop):Prop:=
 ∀(a9H:Sl)(a:Hp),Hle H a→SlH a 1 v8 a9H a7B→a9H.n≤a9H.c→
 K a9H a
def L4(c6s:Sl)(c6t:Int)(a4f:(List d9))(a3i:Int)(H:Hp)(n3:((List d9)×Int)→Hp→Prop)(K:Sl→Hp→Prop):Prop:=
 (a3i < c6t→
 (0:Int)≤a3i∧(a3i:Int) < c6s.n∧∃b:Sl,EltH H c6s a3i 1 [(vs b)]∧
 ∃a:List d9,SlH H 1 v8 b a∧(a4f.length+a.length)*17≤140737488355328∧
 n3 ((a4f++a),(IntKind.wrap .i64 (a3i+1))) H)∧
 (¬(a3i < c6t)→
 L3 a4f H K)
def L5(c1E:Sl)(a9b:Int)(H:Hp)(K:Sl→Hp→Prop):Prop:=
 Q2 a9b H (fun a b=>
 TL ((a,0):(List d9)×Int) b fun(s:(List d9)×Int) H n3=>L4 c1E (c1E.n:Int) s.1 s.2 H n3 K)
def R0(d1F:Sl)(c4M:Sl)(c1F:Int)(b1v:Int)(a5U:Int)(H:Hp)(n4:(Int×Int)→Hp→Prop)(K:Sl→Hp→Prop):Prop:=
 (a5U < c1F→
 (0:Int)≤a5U∧(a5U:Int) < c4M.n∧∃a:Sl,EltH H c4M a5U 1 [(vs a)]∧
 ((IntKind.wrap .i64 (b1v+(a.n:Int))) < 0→
 False)∧
 (¬((IntKind.wrap .i64 (b1v+(a.n:Int))) < 0)→
 L2 d1F (IntKind.wrap .i64 (b1v+(a.n:Int))) c4M c1F a5U H n4 K))∧
 (¬(a5U < c1F)→
 L5 d1F b1v H K)
def T4(x0:Sl)(H:Hp)(K:Sl→Hp→Prop):Prop:=
 TL ((0,0):Int×Int) H fun(s:Int×Int) H n4=>R0 x0 x0 (x0.n:Int) s.1 s.2 H n4 K
theorem a1Z(x0){H K}(h:T4 x0 H K):D1 x0 H K:=by
 refine Ct.of fun w0 w ps0 H0 R E I hR=>d1e ?_
 have hj1:∀(a9b:Int) H w (_:Inv w0 ps0 H0 H [] w) (_:L5 x0 a9b H K),c3v (vs x0) (vi a9b) w R E:=by
  intro a9b H w I h
  intro _
  refine f9 Tryz.call107 h I ?_
  rintro _ m _ au o _ _ ⟨p,q,r,rfl,rfl,t,h⟩
  have hj2:∀(a7B:(List d9))(a9H:Sl)(Fs6j2:Frag) H w (_:RowL 157 1 v8 a9H a7B Fs6j2) (_:Inv w0 ps0 H0 H [Fs6j2] w) (_:L3 a7B H K),c3u (vs a9H) w R E:=by
   intro a7B a9H Fs6j2 H w c1G I h
   intro _
   obtain ⟨j,u,y,z,aa⟩:=Inv.freezeC I c1G (by decide)
   replace h:=h a9H j y z aa
   exact hR _ j _ _ u ⟨_,rfl,rfl,h⟩
  refine v6 fun j2 hx2=>?_
  refine b6 (b5S _ _ _) ?_
  obtain ⟨d,c,ab,ac⟩:=h
  refine K7 (J:=fun n l w=>∃(s:(List d9)×Int)(H:Hp)(b5T:Sl)(Fs6l3:Frag),n=c s∧l=(match s with | (a4f,a3i)=>[(vs b5T),(vi a3i)])∧(match s with | (a4f,a3i)=>RowL 157 1 v8 b5T a4f Fs6l3)∧(match s with | (a4f,a3i)=>Inv w0 ps0 H0 H [Fs6l3] w)∧d s H) ⟨_,(p,0),m,q,r,rfl,rfl,t,o,ab⟩ ?_
  rintro av aw w next3 ⟨⟨a4f,a3i⟩,H,b5T,Fs6l3,rfl,e,c1H,I,ad⟩ hn3
  dsimp only at e I c1H
  simp only [List.map_cons,List.map_nil,List.cons.injEq,and_true] at e
  obtain ⟨e6,e27⟩:=e
  simp only [e6,e27]
  obtain ⟨n3,hm3,h⟩:∃n3:((List d9)×Int)→Hp→Prop,(∀s' H',n3 s' H'→d s' H'∧c s' < c (a4f,a3i))∧L4 x0 (x0.n:Int) a4f a3i H n3 K:=⟨_,fun _ _ h=>h,ac (a4f,a3i) H (fun s' H'=>d s' H'∧c s' < c (a4f,a3i)) ad (fun _ _ a b=>⟨a,b⟩)⟩
  refine b6 pLs ?_
  refine g7 h (fun _ h=>?_) (fun _ h=>?_)
  ·obtain ⟨ae,af,ag,f,h⟩:=h
   obtain ⟨ax,ay,ah,f⟩:=f
   refine b6 (b7o ah _ _ _ _ ae af) (d4 (ld1 (v:=(vs ag)) Tryz.isAgg154 (I.atH f)) ?_)
   obtain ⟨ai,aj,h⟩:=h
   obtain ⟨ak,h⟩:=h
   refine b1D (s:=b5T) (xs:=a4f) I c1H (SlH.src I aj P1) ak fun al am az an ao ba=>?_
   refine b6 pAd ?_
   exact hn3 _ _ _ (hm3 _ _ h).2 ⟨((a4f++ai),(IntKind.wrap .i64 (a3i+1))),H,al,am,rfl,rfl,an,ao,(hm3 _ _ h).1⟩
  ·exact hx2 _ _ (hj2 a4f b5T Fs6l3 H _ c1H I h)
 refine v6 fun j1 hx1=>?_
 refine b6 (b5S _ _ _) ?_
 refine a2P (σ:=Int×Int) (fun (b1v,a5U)=>[(vi b1v),(vi a5U)]) (fun (b1v,a5U)=>[]) h rfl I ?_
 rintro ⟨b1v,a5U⟩ H bb w next4 n4 g I h hn4
 dsimp only at g I h
 simp only [List.map_cons,List.map_nil,List.cons.injEq,and_true] at g
 obtain ⟨e3,e11⟩:=g
 simp only [e3,e11]
 refine b6 pLs ?_
 refine g7 h (fun _ h=>?_) (fun _ h=>?_)
 ·have hj5:∀(b6R:Int) H w (_:Inv w0 ps0 H0 H [] w) (_:L2 x0 b6R x0 (x0.n:Int) a5U H n4 K),c3w (vs x0) (vi b6R) (vs x0) (vi (x0.n:Int)) (vi a5U) w next4 R E:=by
   intro b6R H w I h
   intro _
   refine b6 pAd ?_
   exact hn4 (b6R,(IntKind.wrap .i64 (a5U+1))) _ _ h I
  refine v6 fun j5 hx5=>?_
  obtain ⟨ap,aq,k,i,h⟩:=h
  obtain ⟨bc,bd,ar,i⟩:=i
  refine b6 (b7o ar _ _ _ _ ap aq) (d4 (ld1 (v:=(vs k)) Tryz.isAgg154 (I.atH i)) (b6 (a9C _ _ _) (b6 pAd (b6 pLs ?_))))
  refine g7 h (fun _ h=>?_) (fun _ h=>?_)
  ·refine b6 (c2R _) ?_
   exact h.elim
  ·exact hx5 _ _ (hj5 (IntKind.wrap .i64 (b1v+(k.n:Int))) H _ I h)
 ·exact hx1 _ _ (hj1 b1v H _ I h)
def a8A(x0:d9)(H:Hp)(K:ByteArray→Bool→Hp→Prop):Prop:=
 (x0.a5K=true→
 K x0.a1X.a0G.f8 true H)∧
 (x0.a5K=false→
 (x0.a5L=true→
 K x0.A7.p6.f8 ((decide (x0.A7.p6.b8=1))||(decide (x0.A7.p6.b8=2))) H)∧
 (x0.a5L=false→
 (x0.a5M=true→
 K x0.E9.A6.f8 ((decide (x0.E9.A6.b8=2))||(decide (x0.E9.A6.b8=4))) H)∧
 (x0.a5M=false→
 K ⟨#[]⟩ false H)))
theorem b3K(x0){H K}(h:a8A x0 H K):a1k x0 H K:=by
 refine Ct.of fun w0 w ps0 H0 R E I hR=>c7E ?_
 refine b6 (b7L x0) (b6 (i5 _ _ (vB x0.a5K) rfl) (b6 (i5 _ _ _ rfl) ?_))
 refine u5 h (fun _ h=>?_) (fun _ h=>?_)
 ·refine s6 I Tryz.zeroValue188 (cs:=[(eS),(vi 0)]) rfl fun n o e q=>?_
  refine A5 e Tryz.sizeOf188 (vs:=[(Value.string x0.a1X.a0G.f8),(vi x0.a1X.a0G.C1)]) fun r d s=>?_
  refine b6 b1s (b6 W4 (d4 (l1 Tryz.isAgg9 d rfl) ?_))
  exact hR _ H _ _ d.drop ⟨x0.a1X.a0G.f8,true,rfl,rfl,h⟩
 ·refine b6 (b7M x0) (b6 (i5 _ _ (vB x0.a5L) rfl) (b6 (i5 _ _ _ rfl) ?_))
  refine u5 h (fun _ h=>?_) (fun _ h=>?_)
  ·refine s6 I Tryz.zeroValue190 (cs:=[(vi 0),(eS),(nS),(nS),(nS),(nS)]) rfl fun f t i u=>?_
   refine A5 i Tryz.sizeOf190 (vs:=[(vi x0.A7.p6.b8),(Value.string x0.A7.p6.f8),(vs x0.A7.p6.t7),(vs x0.A7.p6.D3),(vs x0.A7.p6.S8),(vs x0.A7.p6.U7)]) fun v j y=>?_
   refine C6 j fun z b=>?_
   refine d6 N2 ?_
   refine d6 a0d ?_
   refine d6 N2 ?_
   refine d6 a4C ?_
   refine i8 (l1 Tryz.isAgg9 b rfl) ?_
   refine i8 (l1 Tryz.isAgg3 b rfl) ?_
   refine d6 pEq ?_
   refine d6 (Pu.g fun a=>by with_reducible exact N2) ?_
   refine d6 (Pu.g fun a=>by simp only [j8 a];with_reducible exact a4C) ?_
   refine a1u (p:=(Value.pointer (some ⟨f,0,none⟩))) rfl (Ld.g fun a=>by simp only [j8 a];exact (l1 Tryz.isAgg3 b rfl)) ?_
   refine d6 (Pu.g fun a=>by simp only [j8 a];with_reducible exact pEq) ?_
   refine d6 (M2 _ _) ?_
   exact hR _ H _ _ b.drop ⟨x0.A7.p6.f8,((decide (x0.A7.p6.b8=1))||(decide (x0.A7.p6.b8=2))),rfl,rfl,h⟩
  ·refine b6 (b7N x0) (b6 (i5 _ _ (vB x0.a5M) rfl) (b6 (i5 _ _ _ rfl) ?_))
   refine u5 h (fun _ h=>?_) (fun _ h=>?_)
   ·refine s6 I Tryz.zeroValue200 (cs:=[(vi 0),(vi 0),(eS),(nS)]) rfl fun k aa l ab=>?_
    refine A5 l Tryz.sizeOf200 (vs:=[(vi x0.E9.A6.b8),(vi x0.E9.A6.s8),(Value.string x0.E9.A6.f8),(vs x0.E9.A6.D9)]) fun ac m ad=>?_
    refine C6 m fun ae c=>?_
    refine d6 a0e ?_
    refine d6 a1W ?_
    refine d6 a0e ?_
    refine d6 M6 ?_
    refine i8 (l1 Tryz.isAgg9 c rfl) ?_
    refine i8 (l1 Tryz.isAgg3 c rfl) ?_
    refine d6 pEq ?_
    refine d6 (Pu.g fun a=>by with_reducible exact a0e) ?_
    refine d6 (Pu.g fun a=>by simp only [j8 a];with_reducible exact M6) ?_
    refine a1u (p:=(Value.pointer (some ⟨k,0,none⟩))) rfl (Ld.g fun a=>by simp only [j8 a];exact (l1 Tryz.isAgg3 c rfl)) ?_
    refine d6 (Pu.g fun a=>by simp only [j8 a];with_reducible exact pEq) ?_
    refine d6 (M2 _ _) ?_
    exact hR _ H _ _ c.drop ⟨x0.E9.A6.f8,((decide (x0.E9.A6.b8=2))||(decide (x0.E9.A6.b8=4))),rfl,rfl,h⟩
   ·exact hR _ H _ _ I ⟨⟨#[]⟩,false,rfl,rfl,h⟩
def a9s(x0:ByteArray)(H:Hp)(K:Bool→Hp→Prop):Prop:=
 Y4 x0 H (fun a b=>
 K (decide (32 < a)) b)
theorem b4F(x0){H K}(h:a9s x0 H K):a6w x0 H K:=by
 refine Ct.of fun w0 w ps0 H0 R E I hR=>c7I ?_
 refine f9 Tryz.call123 h I ?_
 rintro _ a _ d b _ _ ⟨c,rfl,rfl,h⟩
 refine b6 pGt ?_
 exact hR _ a _ _ b ⟨_,rfl,rfl,h⟩
def a0v(d5j:Sl)(b2E:Int)(d2T:Int)(a8f:(List g8))(H:Hp)(n1:(Int×(List g8))→Hp→Prop)(K:p7→(List g8)→Hp→Prop):Prop:=
 n1 ((IntKind.wrap .i64 (d2T+1)),a8f) H
def a0w(c6r:Sl)(c1D:Int)(d2U:Int)(b0u:(List g8))(a:B4)(H:Hp)(n1:(Int×(List g8))→Hp→Prop)(K:p7→(List g8)→Hp→Prop):Prop:=
 Q9 (p7.mk (Sl.mk none 0 0)) b0u a.S8 H (fun f b c=>
 Q9 (p7.mk (Sl.mk none 0 0)) b a.U7 c (fun g d e=>
 a0v c6r c1D d2U d e n1 K))
def a0x(d2V:Sl)(d2W:Int)(d2X:Int)(c6u:Sl)(c6v:Int)(b:B4)(a3j:Int)(a1C:(List g8))(H:Hp)(n1:(Int×(List g8))→Hp→Prop)(n6:(Int×(List g8))→Hp→Prop)(K:p7→(List g8)→Hp→Prop):Prop:=
 (a3j < c6v→
 (0:Int)≤a3j∧(a3j:Int) < c6u.n∧∃a:q8,EltH H c6u a3j 4 (j9 a)∧
 T2 (p7.mk (Sl.mk none 0 0)) a1C a H (fun e c d=>
 n6 ((IntKind.wrap .i64 (a3j+1)),c) d))∧
 (¬(a3j < c6v)→
 a0w d2V d2W d2X a1C b H n1 K)
def a0y(d2Y:Sl)(d2Z:Int)(d3a:Int)(a8g:(List g8))(a:B4)(H:Hp)(n1:(Int×(List g8))→Hp→Prop)(K:p7→(List g8)→Hp→Prop):Prop:=
 TL ((0,a8g):Int×(List g8)) H fun(s:Int×(List g8)) H n6=>a0x d2Y d2Z d3a a.t7 (a.t7.n:Int) a s.1 s.2 H n1 n6 K
def a0z(d3b:Sl)(d3c:Int)(d3d:Int)(c6w:Sl)(c6x:Int)(b:B4)(a3k:Int)(a1D:(List g8))(H:Hp)(n1:(Int×(List g8))→Hp→Prop)(n7:(Int×(List g8))→Hp→Prop)(K:p7→(List g8)→Hp→Prop):Prop:=
 (a3k < c6x→
 (0:Int)≤a3k∧(a3k:Int) < c6w.n∧∃a:y9,EltH H c6w a3k 4 (p5 a)∧
 Z8 (p7.mk (Sl.mk none 0 0)) a1D a H (fun e c d=>
 n7 ((IntKind.wrap .i64 (a3k+1)),c) d))∧
 (¬(a3k < c6x)→
 a0y d3b d3c d3d a1D b H n1 K)
def M1(d3e:Sl)(b1h:Int)(d3f:Int)(a8h:(List g8))(a:B4)(H:Hp)(n1:(Int×(List g8))→Hp→Prop)(K:p7→(List g8)→Hp→Prop):Prop:=
 TL ((0,a8h):Int×(List g8)) H fun(s:Int×(List g8)) H n7=>a0z d3e b1h d3f a.D3 (a.D3.n:Int) a s.1 s.2 H n1 n7 K
def a0A(b5U:Sl)(b5V:Int)(T6:Int)(O3:(List g8))(H:Hp)(n1:(Int×(List g8))→Hp→Prop)(K:p7→(List g8)→Hp→Prop):Prop:=
 (T6 < b5V→
 (0:Int)≤T6∧(T6:Int) < b5U.n∧∃a:B4,EltH H b5U T6 6 (p8 a)∧
 (a.b8=1→
 (O3.length+([(g8.mk a.f8 1)]:List g8).length)*25≤140737488355328∧
 M1 b5U b5V T6 (O3++[(g8.mk a.f8 1)]) a H n1 K)∧
 (¬(a.b8=1)→
 (a.b8=2→
 (O3.length+([(g8.mk a.f8 2)]:List g8).length)*25≤140737488355328∧
 M1 b5U b5V T6 (O3++[(g8.mk a.f8 2)]) a H n1 K)∧
 (¬(a.b8=2)→
 M1 b5U b5V T6 O3 a H n1 K)))∧
 (¬(T6 < b5V)→
 K (p7.mk (Sl.mk none 0 0)) O3 H)
def a4t(x0:p7)(a:(List g8))(x1:Sl)(H:Hp)(K:p7→(List g8)→Hp→Prop):Prop:=
 TL ((0,a):Int×(List g8)) H fun(s:Int×(List g8)) H n1=>a0A x1 (x1.n:Int) s.1 s.2 H n1 K
theorem a9c(x0 p x1){H K}(h:a4t x0 p x1 H K):Q9 x0 p x1 H K:=by
 intro g0 al am an
 refine Ct.of fun w0 w ps0 H0 R E I hR=>c9Z ?_
 refine b6 (a1i _ _ _) ?_
 obtain ⟨q,g,ao,ap⟩:=h
 refine K7 (J:=fun n l w=>∃(s:Int×(List g8))(H:Hp)(a6S:Sl)(b0v:Frag),n=g s∧l=(match s with | (T6,O3)=>[(vi T6)])∧(match s with | (T6,O3)=>RowL 97 2 C2 a6S O3 b0v)∧(match s with | (T6,O3)=>Inv w0 ps0 H0 H [bx g0 94 [(vs a6S)],b0v] w)∧q s H) ⟨_,(0,p),H,al,am,rfl,rfl,an,((I.bring 1).bring 1),ao⟩ ?_
 rintro cx cy w next1 ⟨⟨T6,O3⟩,H,a6S,b0v,rfl,r,b0w,I,aq⟩ hn1
 dsimp only at r I b0w
 simp only [List.map_cons,List.map_nil,List.cons.injEq,and_true] at r
 have e12:=r
 simp only [e12]
 obtain ⟨n1,hm1,h⟩:∃n1:(Int×(List g8))→Hp→Prop,(∀s' H',n1 s' H'→q s' H'∧g s' < g (T6,O3))∧a0A x1 (x1.n:Int) T6 O3 H n1 K:=⟨_,fun _ _ h=>h,ap (T6,O3) H (fun s' H'=>q s' H'∧g s' < g (T6,O3)) aq (fun _ _ a b=>⟨a,b⟩)⟩
 refine b6 pLs ?_
 refine g7 h (fun _ h=>?_) (fun _ h=>?_)
 ·have hj2:∀(a8f:(List g8))(b2F:Sl)(b2G:Frag) H w (_:RowL 97 2 C2 b2F a8f b2G) (_:Inv w0 ps0 H0 H [bx g0 94 [(vs b2F)],b2G] w) (_:a0v x1 (x1.n:Int) T6 a8f H n1 K),c3d (Value.pointer (some ⟨g0,0,none⟩)) (vs x1) (vi (x1.n:Int)) (vi T6) w next1 R E:=by
   intro a8f b2F b2G H w c4N I h
   intro _
   refine b6 pAd ?_
   exact hn1 _ _ _ (hm1 _ _ h).2 ⟨((IntKind.wrap .i64 (T6+1)),a8f),H,b2F,b2G,rfl,rfl,c4N,((I.bring 1).bring 1),(hm1 _ _ h).1⟩
  refine v6 fun j2 hx2=>?_
  obtain ⟨ar,au,d,t,h⟩:=h
  obtain ⟨cz,da,av,t⟩:=t
  refine b6 (b2p av _ _ _ _ ar au) (d4 (ldA (vs:=(p8 d)) Tryz.isAgg104 Tryz.sizeOf104 rfl (I.atH t)) ?_)
  refine s6 I Tryz.zeroValue104 (cs:=[(vi 0),(eS),(nS),(nS),(nS),(nS)]) rfl fun f db aw dc=>?_
  refine A5 aw Tryz.sizeOf104 (vs:=(p8 d)) fun dd k de=>?_
  have hj3:∀(a8h:(List g8))(b2H:Sl)(b2I:Frag) H w (_:RowL 97 2 C2 b2H a8h b2I) (_:Inv w0 ps0 H0 H [bx g0 94 [(vs b2H)],bx f 104 (p8 d),b2I] w) (_:M1 x1 (x1.n:Int) T6 a8h d H n1 K),c3g (Value.pointer (some ⟨g0,0,none⟩)) (Value.pointer (some ⟨f,0,none⟩)) (vs x1) (vi (x1.n:Int)) (vi T6) w j2 R E:=by
   intro a8h b2H b2I H w c4O I h
   intro _
   have hj4:∀(a8g:(List g8))(b2J:Sl)(b2K:Frag) H w (_:RowL 97 2 C2 b2J a8g b2K) (_:Inv w0 ps0 H0 H [bx g0 94 [(vs b2J)],bx f 104 (p8 d),b2K] w) (_:a0y x1 (x1.n:Int) T6 a8g d H n1 K),c3f (Value.pointer (some ⟨g0,0,none⟩)) (Value.pointer (some ⟨f,0,none⟩)) (vs x1) (vi (x1.n:Int)) (vi T6) w j2 R E:=by
    intro a8g b2J b2K H w c4P I h
    intro _
    have hj5:∀(b0u:(List g8))(b2L:Sl)(b2M:Frag) H w (_:RowL 97 2 C2 b2L b0u b2M) (_:Inv w0 ps0 H0 H [bx g0 94 [(vs b2L)],bx f 104 (p8 d),b2M] w) (_:a0w x1 (x1.n:Int) T6 b0u d H n1 K),c3e (Value.pointer (some ⟨g0,0,none⟩)) (Value.pointer (some ⟨f,0,none⟩)) (vs x1) (vi (x1.n:Int)) (vi T6) w j2 R E:=by
     intro b0u b2L b2M H w c4Q I h
     intro _
     refine b6 a0Y (d4 (l1 Tryz.isAgg23 (I.bring 1) rfl) ?_)
     refine f9 Tryz.call23 (h g0 b2L b2M c4Q) ((I.bring 2).bring 1) ?_
     rintro _ _ _ df ac _ _ ⟨dg,dh,ax,ay,rfl,rfl,az,h⟩
     refine b6 a2R (d4 (l1 Tryz.isAgg23 (ac.bring 2) rfl) ?_)
     refine f9 Tryz.call23 (h g0 ax ay az) ((ac.bring 1).bring 1) ?_
     rintro _ ba _ di bb _ _ ⟨dj,bc,bd,be,rfl,rfl,bf,h⟩
     exact hx2 _ _ (hj2 bc bd be ba _ bf (((bb.bring 2).drop.bring 1).bring 1) h)
    refine v6 fun j5 hx5=>?_
    refine b6 a2Q (d4 (l1 Tryz.isAgg101 (I.bring 1) rfl) (b6 (a1L _ _ _) ?_))
    obtain ⟨u,i,bg,bh⟩:=h
    refine K7 (J:=fun n l w=>∃(s:Int×(List g8))(H:Hp)(b0x:Sl)(b0y:Frag),n=i s∧l=(match s with | (a3j,a1C)=>[(vi a3j)])∧(match s with | (a3j,a1C)=>RowL 97 2 C2 b0x a1C b0y)∧(match s with | (a3j,a1C)=>Inv w0 ps0 H0 H [bx g0 94 [(vs b0x)],bx f 104 (p8 d),b0y] w)∧u s H) ⟨_,(0,a8g),H,b2J,b2K,rfl,rfl,c4P,(((I.bring 2).bring 2).bring 2),bg⟩ ?_
    rintro dk dl w next6 ⟨⟨a3j,a1C⟩,H,b0x,b0y,rfl,v,b5i,I,bi⟩ hn6
    dsimp only at v I b5i
    simp only [List.map_cons,List.map_nil,List.cons.injEq,and_true] at v
    have e60:=v
    simp only [e60]
    obtain ⟨n6,hm6,h⟩:∃n6:(Int×(List g8))→Hp→Prop,(∀s' H',n6 s' H'→u s' H'∧i s' < i (a3j,a1C))∧a0x x1 (x1.n:Int) T6 d.t7 (d.t7.n:Int) d a3j a1C H n1 n6 K:=⟨_,fun _ _ h=>h,bh (a3j,a1C) H (fun s' H'=>u s' H'∧i s' < i (a3j,a1C)) bi (fun _ _ a b=>⟨a,b⟩)⟩
    refine b6 pLs ?_
    refine g7 h (fun _ h=>?_) (fun _ h=>?_)
    ·obtain ⟨bj,bk,ad,y,h⟩:=h
     obtain ⟨dm,dn,bl,y⟩:=y
     refine b6 (Q0 bl _ _ _ _ bj bk) (d4 (ldA (vs:=(j9 ad)) Tryz.isAgg125 Tryz.sizeOf125 rfl (I.atH y)) ?_)
     refine s6 I Tryz.zeroValue125 (cs:=[(vi 0),(vi 0),(eS),(nS)]) rfl fun dp dq bm dr=>?_
     refine A5 bm Tryz.sizeOf125 (vs:=(j9 ad)) fun ds ae dt=>?_
     refine d4 (lW Tryz.isAgg125 Tryz.sizeOf125 rfl ae) ?_
     refine f9 Tryz.call49 (h g0 b0x b0y b5i) ((ae.bring 3).bring 2) ?_
     rintro _ bn _ du bo _ _ ⟨dv,bp,bq,br,rfl,rfl,bs,h⟩
     refine b6 pAd ?_
     exact hn6 _ _ _ (hm6 _ _ h).2 ⟨((IntKind.wrap .i64 (a3j+1)),bp),bn,bq,br,rfl,rfl,bs,((((bo.bring 2).drop.bring 1).bring 2).bring 2),(hm6 _ _ h).1⟩
    ·exact hx5 _ _ (hj5 a1C b0x b0y H _ b5i (((I.bring 2).bring 2).bring 2) h)
   refine v6 fun j4 hx4=>?_
   refine b6 a1V (d4 (l1 Tryz.isAgg102 (I.bring 1) rfl) (b6 (a7o _ _ _) ?_))
   obtain ⟨z,j,bt,bu⟩:=h
   refine K7 (J:=fun n l w=>∃(s:Int×(List g8))(H:Hp)(b0z:Sl)(b0A:Frag),n=j s∧l=(match s with | (a3k,a1D)=>[(vi a3k)])∧(match s with | (a3k,a1D)=>RowL 97 2 C2 b0z a1D b0A)∧(match s with | (a3k,a1D)=>Inv w0 ps0 H0 H [bx g0 94 [(vs b0z)],bx f 104 (p8 d),b0A] w)∧z s H) ⟨_,(0,a8h),H,b2H,b2I,rfl,rfl,c4O,(((I.bring 2).bring 2).bring 2),bt⟩ ?_
   rintro dw dx w next7 ⟨⟨a3k,a1D⟩,H,b0z,b0A,rfl,aa,b5j,I,bv⟩ hn7
   dsimp only at aa I b5j
   simp only [List.map_cons,List.map_nil,List.cons.injEq,and_true] at aa
   have e49:=aa
   simp only [e49]
   obtain ⟨n7,hm7,h⟩:∃n7:(Int×(List g8))→Hp→Prop,(∀s' H',n7 s' H'→z s' H'∧j s' < j (a3k,a1D))∧a0z x1 (x1.n:Int) T6 d.D3 (d.D3.n:Int) d a3k a1D H n1 n7 K:=⟨_,fun _ _ h=>h,bu (a3k,a1D) H (fun s' H'=>z s' H'∧j s' < j (a3k,a1D)) bv (fun _ _ a b=>⟨a,b⟩)⟩
   refine b6 pLs ?_
   refine g7 h (fun _ h=>?_) (fun _ h=>?_)
   ·obtain ⟨bw,bz,af,ab,h⟩:=h
    obtain ⟨dy,dz,ca,ab⟩:=ab
    refine b6 (O6 ca _ _ _ _ bw bz) (d4 (ldA (vs:=(p5 af)) Tryz.isAgg122 Tryz.sizeOf122 rfl (I.atH ab)) ?_)
    refine s6 I Tryz.zeroValue122 (cs:=[(vi 0),(vi 0),(nS),(nS)]) rfl fun ea eb cb ec=>?_
    refine A5 cb Tryz.sizeOf122 (vs:=(p5 af)) fun ed ag ee=>?_
    refine d4 (lW Tryz.isAgg122 Tryz.sizeOf122 rfl ag) ?_
    refine f9 Tryz.call48 (h g0 b0z b0A b5j) ((ag.bring 3).bring 2) ?_
    rintro _ cc _ ef cd _ _ ⟨eg,ce,cf,cg,rfl,rfl,ch,h⟩
    refine b6 pAd ?_
    exact hn7 _ _ _ (hm7 _ _ h).2 ⟨((IntKind.wrap .i64 (a3k+1)),ce),cc,cf,cg,rfl,rfl,ch,((((cd.bring 2).drop.bring 1).bring 2).bring 2),(hm7 _ _ h).1⟩
   ·exact hx4 _ _ (hj4 a1D b0z b0A H _ b5j (((I.bring 2).bring 2).bring 2) h)
  refine v6 fun j3 hx3=>?_
  refine b6 a4C (d4 (l1 Tryz.isAgg3 k rfl) (b6 pEq ?_))
  refine g7 h (fun _ h=>?_) (fun _ h=>?_)
  ·refine C6 k fun eh m=>?_
   refine d6 (m7 _) ?_
   refine d6 a1K ?_
   refine d6 a0d ?_
   refine i8 (l1 Tryz.isAgg92 (m.bring 1) rfl) ?_
   refine i8 (l1 Tryz.isAgg9 m rfl) ?_
   refine d6 (a6K _ _) ?_
   refine Y1 (e:=97) (c:=C2) (xs:=[(g8.mk d.f8 1)]) m (b4g _ _) rfl rfl a4o a4p (nb rfl) fun ei ej ek ci ah cj=>?_
   refine ⟨(cj _ (m.bring 1).lt1),?_⟩
   obtain ⟨ck,h⟩:=h
   refine b5R (s:=a6S) (xs:=O3) (ah.bring 3) b0w (ci.srcO ((ah.bring 3).bring 1)) ck fun ai cl el cm cn em=>?_
   refine d6 (m7 _) ?_
   refine d6 a1K ?_
   refine A5 ((cn.bring 1).drop.bring 2) Tryz.sizeOf92 (vs:=[(vs ai)]) fun en co eo=>?_
   exact hx3 _ _ (hj3 (O3++[(g8.mk d.f8 1)]) ai cl H _ cm (((co.bring 1).bring 2).bring 2) h)
  ·refine b6 pEq ?_
   refine g7 h (fun _ h=>?_) (fun _ h=>?_)
   ·refine C6 k fun ep o=>?_
    refine d6 (m7 _) ?_
    refine d6 a1K ?_
    refine d6 a0d ?_
    refine i8 (l1 Tryz.isAgg92 (o.bring 1) rfl) ?_
    refine i8 (l1 Tryz.isAgg9 o rfl) ?_
    refine d6 (a6K _ _) ?_
    refine Y1 (e:=97) (c:=C2) (xs:=[(g8.mk d.f8 2)]) o (b4g _ _) rfl rfl a4o a4p (nb rfl) fun eq er es cp aj cq=>?_
    refine ⟨(cq _ (o.bring 1).lt1),?_⟩
    obtain ⟨cr,h⟩:=h
    refine b5R (s:=a6S) (xs:=O3) (aj.bring 3) b0w (cp.srcO ((aj.bring 3).bring 1)) cr fun ak ct et cu cv eu=>?_
    refine d6 (m7 _) ?_
    refine d6 a1K ?_
    refine A5 ((cv.bring 1).drop.bring 2) Tryz.sizeOf92 (vs:=[(vs ak)]) fun ev cw ew=>?_
    exact hx3 _ _ (hj3 (O3++[(g8.mk d.f8 2)]) ak ct H _ cu (((cw.bring 1).bring 2).bring 2) h)
   ·exact hx3 _ _ (hj3 O3 a6S b0v H _ b0w (((k.bring 2).bring 1).bring 2) h)
 ·exact hR _ H _ _ ((I.bring 1).bring 1) ⟨(p7.mk (Sl.mk none 0 0)),O3,a6S,b0v,rfl,rfl,b0w,h⟩
def a4u(x0:f6)(a:(List b7))(H:Hp)(K:Int→f6→(List b7)→Hp→Prop):Prop:=
 K (IntKind.wrap .i64 ((IntKind.wrap .i64 (x0.fc.o7+1))-1)) (f6.mk (l9.mk x0.fc.o9 x0.fc.t8 x0.fc.m8 (IntKind.wrap .i64 (x0.fc.o7+1)) x0.fc.B6 (Sl.mk none 0 0)) x0.fvars x0.farrays) a H
theorem a9d(x0 a){H K}(h:a4u x0 a H K):D4 x0 a H K:=by
 intro g0 c d e
 refine Ct.of fun w0 w ps0 H0 R E I hR=>c9G ?_
 refine b6 (m7 _) (b6 O7 (b6 a0Z (d4 (l1 Tryz.isAgg3 I rfl) (b6 pAd ?_))))
 refine b6 (m7 _) (b6 O7 (b6 a0Z ?_))
 refine K2 I Tryz.sizeOf3 fun f b g=>?_
 refine b6 (m7 _) (b6 O7 (b6 a0Z (d4 (l1 Tryz.isAgg3 b rfl) (b6 pSu ?_))))
 exact hR _ H _ _ ((b.bring 1).bring 1) ⟨(IntKind.wrap .i64 ((IntKind.wrap .i64 (x0.fc.o7+1))-1)),(f6.mk (l9.mk x0.fc.o9 x0.fc.t8 x0.fc.m8 (IntKind.wrap .i64 (x0.fc.o7+1)) x0.fc.B6 (Sl.mk none 0 0)) x0.fvars x0.farrays),a,c,d,rfl,rfl,e,h⟩
def a3K(x0:f6)(a:(List b7))(x1:o3)(x2:Int)(H:Hp)(K:Int→Hp→Prop):Prop:=
 ((x0.fc.o9.n:Int)≤x1.A8→
 K (IntKind.wrap .i64 (x2+1)) H)∧
 (¬((x0.fc.o9.n:Int)≤x1.A8)→
 K x2 H)
theorem a8B(x0 b x1 x2){H K}(h:a3K x0 b x1 x2 H K):a1l x0 b x1 x2 H K:=by
 intro g0 d e f
 refine Ct.of fun w0 w ps0 H0 R E I hR=>d1w ?_
 refine z7 I (cs:=(m4 x1)) rfl fun g i c j=>?_
 refine C6 c fun k a=>?_
 refine d6 a5Q ?_
 refine d6 (m7 _) ?_
 refine d6 O7 ?_
 refine d6 a3U ?_
 refine i8 (l1 Tryz.isAgg3 a rfl) ?_
 refine i8 (l1 Tryz.isAgg36 (a.bring 1) rfl) ?_
 refine d6 (a2G _ _ _) ?_
 refine d6 pGe ?_
 refine g7 h (fun _ h=>?_) (fun _ h=>?_)
 ·refine b6 pAd ?_
  exact hR _ H _ _ ((a.drop.bring 1).bring 1) ⟨_,rfl,rfl,h⟩
 ·exact hR _ H _ _ ((a.drop.bring 1).bring 1) ⟨x2,rfl,rfl,h⟩
def a5w(x0:f6)(g:(List b7))(x1:Sl)(x2:Int)(x3:Int)(H:Hp)(K:o3→o3→Int→f6→(List b7)→Hp→Prop):Prop:=
 (0:Int)≤0∧(0:Int) < x1.n∧∃a:q8,EltH H x1 0 4 (j9 a)∧
 P3 (d8 x0) g a x2 x3 H (fun b i c d e=>
 (0:Int)≤1∧(1:Int) < x1.n∧∃f:q8,EltH e x1 1 4 (j9 f)∧
 a1l (d8 c) d b x3 e (fun j k=>
 P3 (d8 c) d f i j k (fun l m o p q=>
 K b l m (d8 o) p q)))
theorem b0B(x0 k x1 x2 x3){H K}(h:a5w x0 k x1 x2 x3 H K):T9 x0 k x1 x2 x3 H K:=by
 intro g0 o p q
 refine Ct.of fun w0 w ps0 H0 R E I hR=>d0I ?_
 refine s6 I Tryz.zeroValue47 (cs:=[(vi 0),(vi 0)]) rfl fun r aw s ax=>?_
 refine s6 s Tryz.zeroValue47 (cs:=[(vi 0),(vi 0)]) rfl fun t ay l az=>?_
 obtain ⟨u,v,y,e,h⟩:=h
 obtain ⟨ba,bb,z,e⟩:=e
 refine b6 (Q0 z _ _ _ _ u v) (d4 (ldA (vs:=(j9 y)) Tryz.isAgg125 Tryz.sizeOf125 rfl (l.atH e)) ?_)
 refine f9 Tryz.call93 (h g0 o p q) ((l.bring 3).bring 3) ?_
 rintro _ _ _ bc aa _ _ ⟨c,ab,ac,bd,f,g,rfl,rfl,m,h⟩
 refine b6 (i5 _ _ _ rfl) (b6 (i5 _ _ (vi ab) rfl) ?_)
 refine A5 (aa.bring 3) Tryz.sizeOf47 (vs:=(m4 c)) fun be ad bf=>?_
 refine C6 ad fun bg a=>?_
 obtain ⟨ae,af,ag,b,h⟩:=h
 obtain ⟨bh,bi,ah,b⟩:=b
 refine d6 (Q0 ah _ _ _ _ ae af) ?_
 refine i8 (ldA (vs:=(j9 ag)) Tryz.isAgg125 Tryz.sizeOf125 rfl (a.atH b)) ?_
 refine i8 (lW Tryz.isAgg47 Tryz.sizeOf47 rfl a) ?_
 refine f9 Tryz.call94 (h g0 f g m) ((a.bring 2).bring 2) ?_
 rintro _ _ _ bj ai _ aj ⟨bk,rfl,rfl,h⟩
 refine ⟨(aj _ (a.a5f b) ((Inv.self (Fi:=[bx g0 70 (t6 ac f),g]) (Fr:=[bx r 47 (m4 c),bx t 47 [(vi 0),(vi 0)]]) ((a.bring 2).bring 2)).c0i b)),?_⟩
 refine f9 Tryz.call93 (h g0 f g m) ((ai.bring 1).bring 1) ?_
 rintro _ ak _ bl al _ _ ⟨i,n,am,an,ao,ap,rfl,rfl,aq,h⟩
 refine d6 (i5 _ _ _ rfl) ?_
 refine d6 (i5 _ _ (vi n) rfl) ?_
 refine A5 (al.bring 3) Tryz.sizeOf47 (vs:=(m4 i)) fun bm ar bn=>?_
 refine C6 ar fun bo d=>?_
 refine i8 (lW Tryz.isAgg47 Tryz.sizeOf47 rfl (d.bring 3)) ?_
 refine i8 (lW Tryz.isAgg47 Tryz.sizeOf47 rfl d) ?_
 refine A5 (d.bring 3) Tryz.sizeOf47 (vs:=(m4 c)) fun bp au av=>?_
 refine ⟨(av _ (Inv.b0f (d.bring 3))),?_⟩
 refine A5 (au.bring 1) Tryz.sizeOf47 (vs:=(m4 i)) fun bq j br=>?_
 refine Q4 Tryz.isAgg47 Tryz.sizeOf47 rfl (j.bring 1) ?_
 refine Q4 Tryz.isAgg47 Tryz.sizeOf47 rfl j ?_
 exact hR _ ak _ _ ((j.drop.drop.bring 1).bring 1) ⟨c,i,n,(d8 am),an,ao,ap,rfl,rfl,aq,h⟩
def a0B(c6y:(List Int))(c6z:Sl)(c6A:Int)(a1r:Int)(a0p:Sl)(a0q:Int)(a0r:Sl)(a0s:Int)(a0t:Int)(X0:(List b7))(a2C:(Option Nat))(a2D:(Option Nat))(H:Hp)(n2:(Int×Sl×Int×Sl×Int×Int×(List b7)×(Option Nat)×(Option Nat))→Hp→Prop)(K:f6→(List b7)→Hp→Prop):Prop:=
 (a1r < c6A→
 (0:Int)≤a1r∧(a1r:Int) < c6z.n∧∃b:B4,EltH H c6z a1r 6 (p8 b)∧
 (0:Int)≤a1r∧∃c:Int,(c6y)[(a1r:Int).toNat]? = some c∧
 (0:Int)≤IntKind.wrap .i64 (a1r+1)∧∃d:Int,(c6y)[(IntKind.wrap .i64 (a1r+1):Int).toNat]? = some d∧
 a1P (f6.mk (l9.mk a0p a0q a0r a0s a0t (Sl.mk none 0 0)) a2C a2D) X0 b c d H (fun a e f=>
 n2 ((IntKind.wrap .i64 (a1r+1)),a.fc.o9,a.fc.t8,a.fc.m8,a.fc.o7,a.fc.B6,e,a.fvars,a.farrays) f))∧
 (¬(a1r < c6A)→
 K (f6.mk (l9.mk a0p a0q a0r a0s a0t (Sl.mk none 0 0)) a2C a2D) X0 H)
def a0C(c1I:Sl)(a9b:Int)(b1i:(List Int))(U0:Sl)(U1:Int)(U2:Sl)(U3:Int)(U4:Int)(T3:(List b7))(u9:(Option Nat))(u7:(Option Nat))(H:Hp)(K:f6→(List b7)→Hp→Prop):Prop:=
 (b1i.length+([a9b]:List Int).length)*9≤140737488355328∧
 TL ((0,U0,U1,U2,U3,U4,T3,u9,u7):Int×Sl×Int×Sl×Int×Int×(List b7)×(Option Nat)×(Option Nat)) H fun(s:Int×Sl×Int×Sl×Int×Int×(List b7)×(Option Nat)×(Option Nat)) H n2=>a0B (b1i++[a9b]) c1I (c1I.n:Int) s.1 s.2.1 s.2.2.1 s.2.2.2.1 s.2.2.2.2.1 s.2.2.2.2.2.1 s.2.2.2.2.2.2.1 s.2.2.2.2.2.2.2.1 s.2.2.2.2.2.2.2.2 H n2 K
def a0D(d4R:Sl)(d4S:Int)(c6B:Int)(a3l:(List Int))(a4Q:Int)(Y7:Sl)(Y8:Int)(Y9:Sl)(Z0:Int)(Z1:Int)(V0:(List b7))(a2b:(Option Nat))(a2d:(Option Nat))(H:Hp)(n3:((List Int)×Int×Sl×Int×Sl×Int×Int×(List b7)×(Option Nat)×(Option Nat))→Hp→Prop)(K:f6→(List b7)→Hp→Prop):Prop:=
 (a4Q < c6B→
 D4 (f6.mk (l9.mk Y7 Y8 Y9 Z0 Z1 (Sl.mk none 0 0)) a2b a2d) V0 H (fun b a c d=>
 (a3l.length+([b]:List Int).length)*9≤140737488355328∧
 n3 ((a3l++[b]),(IntKind.wrap .i64 (a4Q+1)),a.fc.o9,a.fc.t8,a.fc.m8,a.fc.o7,a.fc.B6,c,a.fvars,a.farrays) d))∧
 (¬(a4Q < c6B)→
 a0C d4R d4S a3l Y7 Y8 Y9 Z0 Z1 V0 a2b a2d H K)
def a4v(x0:f6)(a:(List b7))(x1:Sl)(x2:Int)(x3:Int)(H:Hp)(K:f6→(List b7)→Hp→Prop):Prop:=
 ((x1.n:Int)=0→
 K (d8 x0) a H)∧
 (¬((x1.n:Int)=0)→
 TL (([x2],0,x0.fc.o9,x0.fc.t8,x0.fc.m8,x0.fc.o7,x0.fc.B6,a,x0.fvars,x0.farrays):(List Int)×Int×Sl×Int×Sl×Int×Int×(List b7)×(Option Nat)×(Option Nat)) H fun(s:(List Int)×Int×Sl×Int×Sl×Int×Int×(List b7)×(Option Nat)×(Option Nat)) H n3=>a0D x1 x3 (IntKind.wrap .i64 ((x1.n:Int)-1)) s.1 s.2.1 s.2.2.1 s.2.2.2.1 s.2.2.2.2.1 s.2.2.2.2.2.1 s.2.2.2.2.2.2.1 s.2.2.2.2.2.2.2.1 s.2.2.2.2.2.2.2.2.1 s.2.2.2.2.2.2.2.2.2 H n3 K)
theorem a9e(x0 k x1 x2 x3){H K}(h:a4v x0 k x1 x2 x3 H K):O0 x0 k x1 x2 x3 H K:=by
 intro g0 z aa ab
 refine Ct.of fun w0 w ps0 H0 R E I hR=>c9J ?_
 refine b6 (a1i _ _ _) (b6 pEq ?_)
 refine g7 h (fun _ h=>?_) (fun _ h=>?_)
 ·exact hR _ H _ _ ((I.bring 1).bring 1) ⟨(d8 x0),k,z,aa,rfl,rfl,ab,h⟩
 ·refine Y1 (e:=3) (c:=a1j) (xs:=[x2]) I (b2r _) rfl rfl b0g b0h (nb rfl) fun ak al cb am an cc=>?_
  have hj1:∀(b1i:(List Int))(U0:Sl)(U1:Int)(U2:Sl)(U3:Int)(U4:Int)(T3:(List b7))(u9:(Option Nat))(u7:(Option Nat))(b7Q:Sl)(Fs8j1:Frag)(a1e:Sl)(a1f:Frag) H w (_:RowL 3 1 a1j b7Q b1i Fs8j1) (_:RowL 49 10 d7 a1e T3 a1f) (_:Inv w0 ps0 H0 H [bx g0 70 [(vs U0),(vi U1),(vs U2),(vi U3),(vi U4),(vs a1e),(Value.map u9),(Value.map u7)],Fs8j1,a1f] w) (_:a0C x1 x3 b1i U0 U1 U2 U3 U4 T3 u9 u7 H K),c2V (Value.pointer (some ⟨g0,0,none⟩)) (vs x1) (vi x3) (vs b7Q) w R E:=by
   intro b1i U0 U1 U2 U3 U4 T3 u9 u7 b7Q Fs8j1 a1e a1f H w d3g b2N I h
   intro _
   refine Y1 (e:=3) (c:=a1j) (xs:=[x3]) I (b2r _) rfl rfl b0g b0h (nb rfl) fun cd ce cf ao ac cg=>?_
   obtain ⟨ap,h⟩:=h
   refine b6L (s:=b7Q) (xs:=b1i) (ac.bring 2) d3g (ao.srcO ((ac.bring 2).bring 1)) ap fun ch aq ci g ar cj=>?_
   refine b6 (a1i _ _ _) ?_
   obtain ⟨o,i,au,av⟩:=h
   refine K7 (J:=fun n l w=>∃(s:Int×Sl×Int×Sl×Int×Int×(List b7)×(Option Nat)×(Option Nat))(H:Hp)(a7C:Sl)(a7D:Frag),n=i s∧l=(match s with | (a1r,a0p,a0q,a0r,a0s,a0t,X0,a2C,a2D)=>[(vi a1r)])∧(match s with | (a1r,a0p,a0q,a0r,a0s,a0t,X0,a2C,a2D)=>RowL 49 10 d7 a7C X0 a7D)∧(match s with | (a1r,a0p,a0q,a0r,a0s,a0t,X0,a2C,a2D)=>Inv w0 ps0 H0 H [bx g0 70 [(vs a0p),(vi a0q),(vs a0r),(vi a0s),(vi a0t),(vs a7C),(Value.map a2C),(Value.map a2D)],aq,a7D] w)∧o s H) ⟨_,(0,U0,U1,U2,U3,U4,T3,u9,u7),H,a1e,a1f,rfl,rfl,b2N,((((ar.bring 1).drop.bring 2).bring 1).bring 2),au⟩ ?_
   rintro ck cl w next2 ⟨⟨a1r,a0p,a0q,a0r,a0s,a0t,X0,a2C,a2D⟩,H,a7C,a7D,rfl,p,b2O,I,aw⟩ hn2
   dsimp only at p I b2O
   simp only [List.map_cons,List.map_nil,List.cons.injEq,and_true] at p
   have e33:=p
   simp only [e33]
   obtain ⟨n2,hm2,h⟩:∃n2:(Int×Sl×Int×Sl×Int×Int×(List b7)×(Option Nat)×(Option Nat))→Hp→Prop,(∀s' H',n2 s' H'→o s' H'∧i s' < i (a1r,a0p,a0q,a0r,a0s,a0t,X0,a2C,a2D))∧a0B (b1i++[x3]) x1 (x1.n:Int) a1r a0p a0q a0r a0s a0t X0 a2C a2D H n2 K:=⟨_,fun _ _ h=>h,av (a1r,a0p,a0q,a0r,a0s,a0t,X0,a2C,a2D) H (fun s' H'=>o s' H'∧i s' < i (a1r,a0p,a0q,a0r,a0s,a0t,X0,a2C,a2D)) aw (fun _ _ a b=>⟨a,b⟩)⟩
   refine b6 pLs ?_
   refine g7 h (fun _ h=>?_) (fun _ h=>?_)
   ·obtain ⟨ax,ay,ad,q,h⟩:=h
    obtain ⟨cm,cn,az,q⟩:=q
    refine b6 (b2p az _ _ _ _ ax ay) (d4 (ldA (vs:=(p8 ad)) Tryz.isAgg104 Tryz.sizeOf104 rfl (I.atH q)) ?_)
    refine s6 I Tryz.zeroValue104 (cs:=[(vi 0),(eS),(nS),(nS),(nS),(nS)]) rfl fun co cp ba cq=>?_
    refine A5 ba Tryz.sizeOf104 (vs:=(p8 ad)) fun cr bb ct=>?_
    refine C6 bb fun cu m=>?_
    obtain ⟨ae,bc,r,h⟩:=h
    obtain ⟨cv,cw,af,cx⟩:=g.addr r
    refine d6 (a8t af _ _ _ _ ae (g.lt ae r)) ?_
    refine d6 pAd ?_
    obtain ⟨ag,bd,t,h⟩:=h
    obtain ⟨cy,cz,ah,da⟩:=g.addr t
    refine d6 (a8t ah _ _ _ _ ag (g.lt ag t)) ?_
    refine i8 (lW Tryz.isAgg104 Tryz.sizeOf104 rfl m) ?_
    refine i8 (ld1 (v:=(vi bc)) Tryz.isAgg3 (g.atW (m.bring 2) af r)) ?_
    refine i8 (ld1 (v:=(vi bd)) Tryz.isAgg3 (g.atW (m.bring 2) ah t)) ?_
    refine f9 Tryz.call27 (h g0 a7C a7D b2O) ((m.bring 3).bring 2) ?_
    rintro _ be _ db bf _ _ ⟨d,bg,bh,bi,rfl,rfl,bj,h⟩
    refine b6 pAd ?_
    exact hn2 _ _ _ (hm2 _ _ h).2 ⟨((IntKind.wrap .i64 (a1r+1)),d.fc.o9,d.fc.t8,d.fc.m8,d.fc.o7,d.fc.B6,bg,d.fvars,d.farrays),be,bh,bi,rfl,rfl,bj,((((bf.bring 2).drop.bring 1).bring 2).bring 2),(hm2 _ _ h).1⟩
   ·exact hR _ H _ _ (((I.bring 1).drop.bring 1).bring 1) ⟨(f6.mk (l9.mk a0p a0q a0r a0s a0t (Sl.mk none 0 0)) a2C a2D),X0,a7C,a7D,rfl,rfl,b2O,h⟩
  refine v6 fun j1 hx1=>?_
  refine b6 (a1i _ _ _) (b6 pSu ?_)
  obtain ⟨u,j,bk,bl⟩:=h
  refine K7 (J:=fun n l w=>∃(s:(List Int)×Int×Sl×Int×Sl×Int×Int×(List b7)×(Option Nat)×(Option Nat))(H:Hp)(b5W:Sl)(Fs8l3:Frag)(a7E:Sl)(a7F:Frag),n=j s∧l=(match s with | (a3l,a4Q,Y7,Y8,Y9,Z0,Z1,V0,a2b,a2d)=>[(vs b5W),(vi a4Q)])∧(match s with | (a3l,a4Q,Y7,Y8,Y9,Z0,Z1,V0,a2b,a2d)=>RowL 3 1 a1j b5W a3l Fs8l3)∧(match s with | (a3l,a4Q,Y7,Y8,Y9,Z0,Z1,V0,a2b,a2d)=>RowL 49 10 d7 a7E V0 a7F)∧(match s with | (a3l,a4Q,Y7,Y8,Y9,Z0,Z1,V0,a2b,a2d)=>Inv w0 ps0 H0 H [bx g0 70 [(vs Y7),(vi Y8),(vs Y9),(vi Z0),(vi Z1),(vs a7E),(Value.map a2b),(Value.map a2d)],Fs8l3,a7F] w)∧u s H) ⟨_,([x2],0,x0.fc.o9,x0.fc.t8,x0.fc.m8,x0.fc.o7,x0.fc.B6,k,x0.fvars,x0.farrays),H,ak,al,z,aa,rfl,rfl,am,ab,(((an.bring 2).bring 1).bring 2),bk⟩ ?_
  rintro dc dd w next3 ⟨⟨a3l,a4Q,Y7,Y8,Y9,Z0,Z1,V0,a2b,a2d⟩,H,b5W,Fs8l3,a7E,a7F,rfl,y,c1J,b2P,I,bm⟩ hn3
  dsimp only at y I c1J b2P
  simp only [List.map_cons,List.map_nil,List.cons.injEq,and_true] at y
  obtain ⟨e8,e19⟩:=y
  simp only [e8,e19]
  obtain ⟨n3,hm3,h⟩:∃n3:((List Int)×Int×Sl×Int×Sl×Int×Int×(List b7)×(Option Nat)×(Option Nat))→Hp→Prop,(∀s' H',n3 s' H'→u s' H'∧j s' < j (a3l,a4Q,Y7,Y8,Y9,Z0,Z1,V0,a2b,a2d))∧a0D x1 x3 (IntKind.wrap .i64 ((x1.n:Int)-1)) a3l a4Q Y7 Y8 Y9 Z0 Z1 V0 a2b a2d H n3 K:=⟨_,fun _ _ h=>h,bl (a3l,a4Q,Y7,Y8,Y9,Z0,Z1,V0,a2b,a2d) H (fun s' H'=>u s' H'∧j s' < j (a3l,a4Q,Y7,Y8,Y9,Z0,Z1,V0,a2b,a2d)) bm (fun _ _ a b=>⟨a,b⟩)⟩
  refine b6 pLs ?_
  refine g7 h (fun _ h=>?_) (fun _ h=>?_)
  ·refine f9 Tryz.call14 (h g0 a7E a7F b2P) ((I.bring 2).bring 1) ?_
   rintro _ bn _ de bo _ _ ⟨ai,f,bp,bq,br,rfl,rfl,bs,h⟩
   refine Y1 (e:=3) (c:=a1j) (xs:=[ai]) bo (b2r _) rfl rfl b0g b0h (nb rfl) fun df dg dh bt aj di=>?_
   obtain ⟨bu,h⟩:=h
   refine b6L (s:=b5W) (xs:=a3l) (aj.bring 3) c1J (bt.srcO ((aj.bring 3).bring 1)) bu fun bv bw dj bz ca dk=>?_
   refine b6 pAd ?_
   exact hn3 _ _ _ (hm3 _ _ h).2 ⟨((a3l++[ai]),(IntKind.wrap .i64 (a4Q+1)),f.fc.o9,f.fc.t8,f.fc.m8,f.fc.o7,f.fc.B6,bp,f.fvars,f.farrays),bn,bv,bw,bq,br,rfl,rfl,bz,bs,((((ca.bring 1).drop.bring 2).bring 1).bring 2),(hm3 _ _ h).1⟩
  ·exact hx1 _ _ (hj1 a3l Y7 Y8 Y9 Z0 Z1 V0 a2b a2d b5W Fs8l3 a7E a7F H _ c1J b2P (((I.bring 2).bring 2).bring 2) h)
def a8C(x0:j7)(H:Hp)(K:Int→Hp→Prop):Prop:=
 (0 < x0.C1→
 K 2 H)∧
 (¬(0 < x0.C1)→
 K 1 H)
theorem b3L(x0){H K}(h:a8C x0 H K):a8w x0 H K:=by
 refine Ct.of fun w0 w ps0 H0 R E I hR=>d0w ?_
 refine z7 I (cs:=(m3 x0)) rfl fun b c a d=>?_
 refine b6 a0X (d4 (l1 Tryz.isAgg3 a rfl) (b6 pGt ?_))
 refine g7 h (fun _ h=>?_) (fun _ h=>?_)
 ·exact hR _ H _ _ a.drop ⟨2,rfl,rfl,h⟩
 ·exact hR _ H _ _ a.drop ⟨1,rfl,rfl,h⟩
def a3x(x0:q8)(H:Hp)(K:Int→Bool→Hp→Prop):Prop:=
 (x0.b8=1→
 K x0.s8 true H)∧
 (¬(x0.b8=1)→
 ∃a:q8,((decide (x0.b8=5))=true→(0:Int)≤0∧(0:Int) < x0.D9.n∧EltH H x0.D9 0 4 (j9 a))∧
 (((decide (x0.b8=5))&&(decide (a.b8=1)))=true→
 (0:Int)≤0∧(0:Int) < x0.D9.n∧∃b:q8,EltH H x0.D9 0 4 (j9 b)∧
 K (IntKind.wrap .i64 (0-b.s8)) true H)∧
 (((decide (x0.b8=5))&&(decide (a.b8=1)))=false→
 K 0 false H))
theorem b1K(x0){H K}(h:a3x x0 H K):a7b x0 H K:=by
 refine Ct.of fun w0 w ps0 H0 R E I hR=>c7z ?_
 refine z7 I (cs:=(j9 x0)) rfl fun m o c p=>?_
 refine b6 M6 (d4 (l1 Tryz.isAgg3 c rfl) (b6 pEq ?_))
 refine g7 h (fun _ h=>?_) (fun _ h=>?_)
 ·refine b6 a4E (d4 (l1 Tryz.isAgg2 c rfl) ?_)
  exact hR _ H _ _ c.drop ⟨x0.s8,true,rfl,rfl,h⟩
 ·refine b6 M6 (d4 (l1 Tryz.isAgg3 c rfl) (b6 pEq ?_))
  refine b6 (Pu.g fun a=>by with_reducible exact W0) ?_
  refine d4 (Ld.g fun a=>by simp only [j8 a];exact (l1 Tryz.isAgg101 c rfl)) ?_
  obtain ⟨d,b,h⟩:=h
  obtain ⟨q,r,b⟩:=b7P b
  refine b6 (Pu.g fun hb=>by have a:=hb;simp only [j8 a];with_reducible exact (Q0 (b hb).2.2.1 _ _ _ _ (b hb).1 (b hb).2.1)) ?_
  refine b6 (Pu.g fun a=>by simp only [j8 a];with_reducible exact M6) ?_
  refine d4 (Ld.g fun hb=>by have a:=hb;simp only [j8 a];exact (ld1 (v:=(vi d.b8)) Tryz.isAgg3 ((c.atH (b hb).2.2.2).sub (k:=0) (n:=1) (nb rfl)))) ?_
  refine b6 (Pu.g fun a=>by simp only [j8 a];with_reducible exact pEq) ?_
  refine b6 (E0 _ _) ?_
  refine u5 h (fun _ h=>?_) (fun _ h=>?_)
  ·refine b6 W0 (d4 (l1 Tryz.isAgg101 c rfl) ?_)
   obtain ⟨i,j,f,e,h⟩:=h
   obtain ⟨s,t,l,e⟩:=e
   refine b6 (Q0 l _ _ _ _ i j) (b6 a4E (d4 (ld1 (v:=(vi f.s8)) Tryz.isAgg2 ((c.atH e).sub (k:=1) (n:=1) (nb rfl))) (b6 (b8g _ _) ?_)))
   exact hR _ H _ _ c.drop ⟨(IntKind.wrap .i64 (0-f.s8)),true,rfl,rfl,h⟩
  ·exact hR _ H _ _ c.drop ⟨0,false,rfl,rfl,h⟩
def G7(a0j:(List d9))(H:Hp)(K:Sl→Hp→Prop):Prop:=
 ∀(M4:Sl)(a:Hp),Hle H a→SlH a 1 v8 M4 a0j→M4.n≤M4.c→
 K M4 a
def G8(a2q:Sl)(a2p:Int)(C5:(List d9))(A9:Int)(H:Hp)(n2:((List d9)×Int)→Hp→Prop)(K:Sl→Hp→Prop):Prop:=
 (A9 < a2p→
 (0:Int)≤A9∧(A9:Int) < a2q.n∧∃a:y9,EltH H a2q A9 4 (p5 a)∧
 a7u a H (fun b c=>
 (C5.length+([b]:List d9).length)*17≤140737488355328∧
 n2 ((C5++[b]),(IntKind.wrap .i64 (A9+1))) c))∧
 (¬(A9 < a2p)→
 G7 C5 H K)
def P6(x0:Sl)(H:Hp)(K:Sl→Hp→Prop):Prop:=
 TL (([],0):(List d9)×Int) H fun(s:(List d9)×Int) H n2=>G8 x0 (x0.n:Int) s.1 s.2 H n2 K
theorem a0P(x0){H K}(h:P6 x0 H K):D5 x0 H K:=by
 refine Ct.of fun w0 w ps0 H0 R E I hR=>c7W ?_
 have hj1:∀(a0j:(List d9))(M4:Sl)(Fs5j1:Frag) H w (_:RowL 157 1 v8 M4 a0j Fs5j1) (_:Inv w0 ps0 H0 H [Fs5j1] w) (_:G7 a0j H K),c0D (vs M4) w R E:=by
  intro a0j M4 Fs5j1 H w b2C I h
  intro _
  obtain ⟨j,q,r,t,u⟩:=Inv.freezeC I b2C (by decide)
  replace h:=h M4 j r t u
  exact hR _ j _ _ q ⟨_,rfl,rfl,h⟩
 refine v6 fun j1 hx1=>?_
 refine b6 (a7o _ _ _) ?_
 obtain ⟨f,d,v,y⟩:=h
 refine K7 (J:=fun n l w=>∃(s:(List d9)×Int)(H:Hp)(a0k:Sl)(Fs5l2:Frag),n=d s∧l=(match s with | (C5,A9)=>[(vs a0k),(vi A9)])∧(match s with | (C5,A9)=>RowL 157 1 v8 a0k C5 Fs5l2)∧(match s with | (C5,A9)=>Inv w0 ps0 H0 H [Fs5l2] w)∧f s H) ⟨_,([],0),H,(Sl.mk none 0 0),[],rfl,rfl,(RowL.nil P1 S3),I.nil,v⟩ ?_
 rintro am an w next2 ⟨⟨C5,A9⟩,H,a0k,Fs5l2,rfl,g,a4e,I,z⟩ hn2
 dsimp only at g I a4e
 simp only [List.map_cons,List.map_nil,List.cons.injEq,and_true] at g
 obtain ⟨e5,e10⟩:=g
 simp only [e5,e10]
 obtain ⟨n2,hm2,h⟩:∃n2:((List d9)×Int)→Hp→Prop,(∀s' H',n2 s' H'→f s' H'∧d s' < d (C5,A9))∧G8 x0 (x0.n:Int) C5 A9 H n2 K:=⟨_,fun _ _ h=>h,y (C5,A9) H (fun s' H'=>f s' H'∧d s' < d (C5,A9)) z (fun _ _ a b=>⟨a,b⟩)⟩
 refine b6 pLs ?_
 refine g7 h (fun _ h=>?_) (fun _ h=>?_)
 ·obtain ⟨aa,ab,k,i,h⟩:=h
  obtain ⟨ao,ap,ac,i⟩:=i
  refine b6 (O6 ac _ _ _ _ aa ab) (d4 (ldA (vs:=(p5 k)) Tryz.isAgg122 Tryz.sizeOf122 rfl (I.atH i)) ?_)
  refine s6 I Tryz.zeroValue122 (cs:=[(vi 0),(vi 0),(nS),(nS)]) rfl fun aq ar ad au=>?_
  refine A5 ad Tryz.sizeOf122 (vs:=(p5 k)) fun av m aw=>?_
  refine d4 (lW Tryz.isAgg122 Tryz.sizeOf122 rfl m) ?_
  refine f9 Tryz.call146 h m ?_
  rintro _ ae _ ax af _ _ ⟨o,rfl,rfl,h⟩
  refine Y1 (e:=157) (c:=v8) (xs:=[o]) af (b2z _) rfl rfl P1 S3 (nb rfl) fun ay az ba ag p bb=>?_
  obtain ⟨ah,h⟩:=h
  refine b1D (s:=a0k) (xs:=C5) (p.bring 2) a4e (ag.srcO ((p.bring 2).bring 1)) ah fun ai aj bc ak al bd=>?_
  refine b6 pAd ?_
  exact hn2 _ _ _ (hm2 _ _ h).2 ⟨((C5++[o]),(IntKind.wrap .i64 (A9+1))),ae,ai,aj,rfl,rfl,ak,((al.bring 1).drop.bring 1).drop,(hm2 _ _ h).1⟩
 ·exact hx1 _ _ (hj1 C5 a0k Fs5l2 H _ a4e I h)
def a5x(x0:M9)(H:Hp)(K:Sl→Hp→Prop):Prop:=
 B8 x0.A6.D9 H (fun a b=>
 K a b)
theorem b0C(x0){H K}(h:a5x x0 H K):a5p x0 H K:=by
 refine Ct.of fun w0 w ps0 H0 R E I hR=>c8c ?_
 refine z7 I (cs:=(j9 x0.A6)) rfl fun e f a g=>?_
 refine b6 a0e (b6 W0 (d4 (l1 Tryz.isAgg101 a rfl) ?_))
 refine f9 Tryz.call147 h a ?_
 rintro _ b _ i c _ _ ⟨d,rfl,rfl,h⟩
 exact hR _ b _ _ c.drop ⟨d,rfl,rfl,h⟩
def R3(b4h:Bool)(a:A0)(b:T0)(H:Hp)(K:Bool→Hp→Prop):Prop:=
 (b4h=true→
 K (decide (a.fexprs=0∧a.fparts=2)) H)∧
 (b4h=false→
 K false H)
def R4(a5V:Int)(b4i:Bool)(a:A0)(b:T0)(H:Hp)(K:Bool→Hp→Prop):Prop:=
 (b4i=true→
 K (decide (a.fexprs=0∧a.fparts=0)) H)∧
 (b4i=false→
 (a5V=4→
 K (decide (a.fexprs=0∧a.fparts=1)) H)∧
 (¬(a5V=4)→
 (a5V=5→
 R3 (decide (a5V=5)) a b H K)∧
 (¬(a5V=5)→
 R3 (decide (a5V=6)) a b H K)))
def a6p(x0:T0)(H:Hp)(K:Bool→Hp→Prop):Prop:=
 (x0.z6.b8=3→
 K (((decide (1≤x0.z6.fOp))&&(decide (x0.z6.fOp≤6)))&&(decide ((x0.z6.t7.n:Int)=2∧(x0.z6.C7.n:Int)=0))) H)∧
 (¬(x0.z6.b8=3)→
 (¬(x0.z6.fOp=0)→
 K false H)∧
 (x0.z6.fOp=0→
 (x0.z6.b8=1→
 R4 x0.z6.b8 (decide (x0.z6.b8=1)) (A0.mk (x0.z6.t7.n:Int) (x0.z6.C7.n:Int)) x0 H K)∧
 (¬(x0.z6.b8=1)→
 R4 x0.z6.b8 (decide (x0.z6.b8=2)) (A0.mk (x0.z6.t7.n:Int) (x0.z6.C7.n:Int)) x0 H K)))
theorem b0Y(x0){H K}(h:a6p x0 H K):a2z x0 H K:=by
 refine Ct.of fun w0 w ps0 H0 R E I hR=>c8d ?_
 refine z7 I (cs:=(p5 x0.z6)) rfl fun e i d j=>?_
 refine b6 a1b (b6 a4D (d4 (l1 Tryz.isAgg101 d rfl) (b6 (a1L _ _ _) (b6 a1b ?_))))
 refine b6 R9 (d4 (l1 Tryz.isAgg102 d rfl) (b6 (a7o _ _ _) (b6 (a5T _ _) ?_)))
 refine s6 d Tryz.zeroValue236 (cs:=[(vi 0),(vi 0)]) rfl fun c k f l=>?_
 refine A5 f Tryz.sizeOf236 (vs:=[(vi (x0.z6.t7.n:Int)),(vi (x0.z6.C7.n:Int))]) fun m b p=>?_
 refine b6 a1b (b6 a6C (d4 (l1 Tryz.isAgg3 (b.bring 1) rfl) (b6 pEq ?_)))
 refine g7 h (fun _ h=>?_) (fun _ h=>?_)
 ·refine b6 a1b (b6 a4F (d4 (l1 Tryz.isAgg3 (b.bring 1) rfl) (b6 pGe ?_)))
  refine b6 (Pu.g fun a=>by with_reducible exact a1b) ?_
  refine b6 (Pu.g fun a=>by simp only [j8 a];with_reducible exact a4F) ?_
  refine d4 (Ld.g fun a=>by simp only [j8 a];exact (l1 Tryz.isAgg3 (b.bring 1) rfl)) ?_
  refine b6 (Pu.g fun a=>by simp only [j8 a];with_reducible exact pLe) ?_
  refine b6 (E0 _ _) ?_
  refine d4 (Ld.g fun a=>by exact (ldA Tryz.isAgg236 Tryz.sizeOf236 rfl (b.at1 (o:=0) (vs:=[(vi (x0.z6.t7.n:Int)),(vi (x0.z6.C7.n:Int))]) (nb rfl) rfl))) ?_
  refine b6 (Pu.g fun a=>by with_reducible exact (a5T _ _)) ?_
  refine b6 (Pu.g fun a=>by simp only [j8 a];with_reducible exact (b1e _ _ _ _ _ _)) ?_
  refine b6 (E0 _ _) ?_
  exact hR _ H _ _ b.drop.drop ⟨_,rfl,rfl,h⟩
 ·refine b6 a1b (b6 a4F (d4 (l1 Tryz.isAgg3 (b.bring 1) rfl) (b6 pNe ?_)))
  refine a2f h (fun _ h=>?_) (fun _ h=>?_)
  ·exact hR _ H _ _ b.drop.drop ⟨_,rfl,rfl,h⟩
  ·refine b6 a1b (b6 a6C (d4 (l1 Tryz.isAgg3 (b.bring 1) rfl) ?_))
   have hj1:∀(b4i:Bool) H w (_:Inv w0 ps0 H0 H [bx c 236 [(vi (A0.mk (x0.z6.t7.n:Int) (x0.z6.C7.n:Int)).fexprs),(vi (A0.mk (x0.z6.t7.n:Int) (x0.z6.C7.n:Int)).fparts)],bx e 233 (p5 x0.z6)] w) (_:R4 x0.z6.b8 b4i (A0.mk (x0.z6.t7.n:Int) (x0.z6.C7.n:Int)) x0 H K),c0J (Value.pointer (some ⟨c,0,none⟩)) (vi x0.z6.b8) (vB b4i) w R E:=by
    intro b4i H w I h
    intro _
    refine u5 h (fun _ h=>?_) (fun _ h=>?_)
    ·refine d4 (ldA Tryz.isAgg236 Tryz.sizeOf236 rfl (I.at1 (o:=0) (vs:=[(vi (A0.mk (x0.z6.t7.n:Int) (x0.z6.C7.n:Int)).fexprs),(vi (A0.mk (x0.z6.t7.n:Int) (x0.z6.C7.n:Int)).fparts)]) (nb rfl) rfl)) (b6 (c1w) (b6 (b1e _ _ _ _ _ _) ?_))
     exact hR _ H _ _ I.drop.drop ⟨_,rfl,rfl,h⟩
    ·refine b6 pEq ?_
     refine g7 h (fun _ h=>?_) (fun _ h=>?_)
     ·refine d4 (ldA Tryz.isAgg236 Tryz.sizeOf236 rfl (I.at1 (o:=0) (vs:=[(vi (A0.mk (x0.z6.t7.n:Int) (x0.z6.C7.n:Int)).fexprs),(vi (A0.mk (x0.z6.t7.n:Int) (x0.z6.C7.n:Int)).fparts)]) (nb rfl) rfl)) (b6 (a5T _ _) (b6 (b1e _ _ _ _ _ _) ?_))
      exact hR _ H _ _ I.drop.drop ⟨_,rfl,rfl,h⟩
     ·have hj2:∀(b4h:Bool) H w (_:Inv w0 ps0 H0 H [bx c 236 [(vi (A0.mk (x0.z6.t7.n:Int) (x0.z6.C7.n:Int)).fexprs),(vi (A0.mk (x0.z6.t7.n:Int) (x0.z6.C7.n:Int)).fparts)],bx e 233 (p5 x0.z6)] w) (_:R3 b4h (A0.mk (x0.z6.t7.n:Int) (x0.z6.C7.n:Int)) x0 H K),c0I (Value.pointer (some ⟨c,0,none⟩)) (vB b4h) w R E:=by
       intro b4h H w I h
       intro _
       refine u5 h (fun _ h=>?_) (fun _ h=>?_)
       ·refine d4 (ldA Tryz.isAgg236 Tryz.sizeOf236 rfl (I.at1 (o:=0) (vs:=[(vi (A0.mk (x0.z6.t7.n:Int) (x0.z6.C7.n:Int)).fexprs),(vi (A0.mk (x0.z6.t7.n:Int) (x0.z6.C7.n:Int)).fparts)]) (nb rfl) rfl)) (b6 (a5T _ _) (b6 (b1e _ _ _ _ _ _) ?_))
        exact hR _ H _ _ I.drop.drop ⟨_,rfl,rfl,h⟩
       ·exact hR _ H _ _ I.drop.drop ⟨_,rfl,rfl,h⟩
      refine v6 fun j2 hx2=>?_
      refine b6 pEq ?_
      refine g7 h (fun _ h=>?_) (fun _ h=>?_)
      ·exact hx2 _ _ (hj2 (decide (x0.z6.b8=5)) H _ ((I.bring 1).bring 1) h)
      ·refine b6 pEq ?_
       exact hx2 _ _ (hj2 (decide (x0.z6.b8=6)) H _ ((I.bring 1).bring 1) h)
   refine v6 fun j1 hx1=>?_
   refine b6 pEq ?_
   refine g7 h (fun _ h=>?_) (fun _ h=>?_)
   ·exact hx1 _ _ (hj1 (decide (x0.z6.b8=1)) H _ ((b.bring 1).bring 1) h)
   ·refine b6 pEq ?_
    exact hx1 _ _ (hj1 (decide (x0.z6.b8=2)) H _ ((b.bring 1).bring 1) h)
end Go.Proofs.YthaaobpfbgcfiaaGreatDoor
