/- Typed formulas of the program's functions, and the theorems that the contracts follow from them; printed by lift.py off the code. -/
import Derived.Test.YthklmeihgmcljaaGreatDoorzEV1
namespace Go.Proofs.YthklmeihgmcljaaGreatDoor
open Go.RowKit
set_option maxRecDepth 100000
set_option maxHeartbeats 2000000
def b1D(x0:Int)(x1:Int)(x2:Int)(H:Hp)(K:Bool→Hp→Prop):Prop:=
 K ((decide (x1≤x0))&&(decide (x0≤x2))) H
theorem a6K(x0 x1 x2){H K}(h:b1D x0 x1 x2 H K):G5 x0 x1 x2 H K:=by
 refine Ct.of fun w0 w ps0 H0 R E I hR=>d0k ?_
 refine a7 pGe ?_
 simp only [p8]
 refine a7 (Pu.g fun a=>by simp only [g9 a];with_reducible exact pLe) ?_
 refine a7 (s6 _ _) ?_
 exact hR _ H _ _ I ⟨_,rfl,rfl,h⟩
def a6e(x0:d6)(x1:ByteArray)(x2:Bool)(H:Hp)(K:d6→Hp→Prop):Prop:=
 ((!x2)=true→
 K (d6.mk (x0.fok&&(decide (x1=⟨#[]⟩))) x0.fnames) H)∧
 ((!x2)=false→
 TG (x0.fnames=true) (a1P x1 H) false H (fun(a:Bool)(b:Hp)=>
 K (d6.mk x0.fok (x0.fnames&&a)) b))
theorem b0B(x0 x1 x2){H K}(h:a6e x0 x1 x2 H K):U3 x0 x1 x2 H K:=by
 intro g0
 refine Ct.of fun w0 w ps0 H0 R E I hR=>d3h ?_
 refine a7 (E1 _) ?_
 refine l9 h (fun _ h=>?_) (fun _ h=>?_)
 ·refine a7 (o3 _) (a7 K3 (c8 (l1 Tryz.isAgg4 I rfl) ?_))
  simp only [p8]
  refine a7 (Pu.g fun a=>by simp only [g9 a];with_reducible exact (G1 _ _ _ _ _)) ?_
  refine a7 (s6 _ _) (a7 (o3 _) (a7 K3 ?_))
  refine A9 I Tryz.sizeOf4 fun m j n=>?_
  exact hR _ H _ _ j ⟨_,rfl,rfl,h⟩
 ·refine a7 (o3 _) (a7 b3Y (c8 (l1 Tryz.isAgg4 I rfl) ?_))
  simp only [p8]
  refine C5 [] (fun b:Bool=>(vB b)) h I (fun a h=>by simp only [g9 a];exact D5 Tryz.call117 h I) fun b c k d f i h=>?_
  refine a7 (s6 _ _) (a7 (o3 _) (a7 b3Y ?_))
  refine A9 d Tryz.sizeOf4 fun o l p=>?_
  exact hR _ c _ _ l ⟨_,rfl,rfl,h⟩
def a4F(a:f8)(b3m:Int)(S1:d6)(H:Hp)(n4:(Int×d6)→Hp→Prop)(K:d6→Hp→Prop):Prop:=
 (((decide (b3m < (a.B0.n:Int)))&&S1.fok)=true→
 (0:Int)≤b3m∧(b3m:Int) < a.B0.n∧∃b:f8,EltH H a.B0 b3m 4 (i7 b)∧
 a0l S1 b H (fun c d=>
 n4 ((IntKind.wrap .i64 (b3m+1)),c) d))∧
 (((decide (b3m < (a.B0.n:Int)))&&S1.fok)=false→
 K S1 H)
def a1m(Q4:d6)(a:f8)(H:Hp)(K:d6→Hp→Prop):Prop:=
 TL ((0,Q4):Int×d6) H fun(s:Int×d6) H n4=>a4F a s.1 s.2 H n4 K
def a4G(a:f8)(b3n:Int)(a0i:d6)(H:Hp)(n5:(Int×d6)→Hp→Prop)(K:d6→Hp→Prop):Prop:=
 (((decide (b3n < (a.o4.n:Int)))&&a0i.fok)=true→
 (0:Int)≤b3n∧(b3n:Int) < a.o4.n∧∃b:d9,EltH H a.o4 b3n 4 (g7 b)∧
 U4 a0i b H (fun c d=>
 n5 ((IntKind.wrap .i64 (b3n+1)),c) d))∧
 (((decide (b3n < (a.o4.n:Int)))&&a0i.fok)=false→
 a1m a0i a H K)
def R7(b4Q:Int)(d8A:Int)(c0p:Bool)(a:f8)(G8:d6)(H:Hp)(K:d6→Hp→Prop):Prop:=
 TL ((0,(d6.mk (((G8.fok&&c0p)&&(decide ((a.o4.n:Int)=b4Q)))&&(decide ((a.B0.n:Int)=d8A))) G8.fnames)):Int×d6) H fun(s:Int×d6) H n5=>a4G a s.1 s.2 H n5 K
def E5(y5:Int)(W9:Int)(a:f8)(p1:d6)(H:Hp)(K:d6→Hp→Prop):Prop:=
 (a.d8=3→
 R7 y5 W9 ((decide (1≤a.fOp))&&(decide (a.fOp≤6))) a p1 H K)∧
 (¬(a.d8=3)→
 R7 y5 W9 (decide (a.fOp=0)) a p1 H K)
def R8(d4d:Int)(d8B:Int)(b6t:Bool)(a:f8)(c8w:d6)(H:Hp)(K:d6→Hp→Prop):Prop:=
 (b6t=true→
 E5 d4d 2 a c8w H K)∧
 (b6t=false→
 E5 d4d d8B a (d6.mk false c8w.fnames) H K)
def R9(c3B:Int)(c3C:Int)(b3N:Int)(b6u:Bool)(a:f8)(b7G:d6)(H:Hp)(K:d6→Hp→Prop):Prop:=
 (b6u=true→
 E5 c3B c3C a b7G H K)∧
 (b6u=false→
 (b3N=3→
 E5 2 c3C a b7G H K)∧
 (¬(b3N=3)→
 (b3N=4→
 E5 c3B 1 a b7G H K)∧
 (¬(b3N=4)→
 (b3N=5→
 R8 c3B c3C (decide (b3N=5)) a b7G H K)∧
 (¬(b3N=5)→
 R8 c3B c3C (decide (b3N=6)) a b7G H K))))
def a6f(x0:d6)(x1:f8)(H:Hp)(K:d6→Hp→Prop):Prop:=
 (x1.d8=1→
 R9 0 0 x1.d8 (decide (x1.d8=1)) x1 x0 H K)∧
 (¬(x1.d8=1)→
 R9 0 0 x1.d8 (decide (x1.d8=2)) x1 x0 H K)
theorem b0C(x0 x1){H K}(h:a6f x0 x1 H K):a0l x0 x1 H K:=by
 intro g0
 refine Ct.of fun w0 w ps0 H0 R E I hR=>d3Q ?_
 refine Q1 I (cs:=(i7 x1)) rfl fun b z c aa=>?_
 have hj1:∀(y5:Int)(W9:Int)(p1:d6) H w (_:Inv w0 ps0 H0 H [bx b 49 (i7 x1),bx g0 123 (r7 p1)] w) (_:E5 y5 W9 x1 p1 H K),c5I (Value.pointer (some ⟨g0,0,none⟩)) (Value.pointer (some ⟨b,0,none⟩)) (vi y5) (vi W9) w R E:=by
  intro y5 W9 p1 H w I h
  intro _
  refine a7 a5A (c8 (l1 Tryz.isAgg3 I rfl) (a7 pEq ?_))
  have hj2:∀(c0p:Bool) H w (_:Inv w0 ps0 H0 H [bx b 49 (i7 x1),bx g0 123 (r7 p1)] w) (_:R7 y5 W9 c0p x1 p1 H K),c5H (Value.pointer (some ⟨g0,0,none⟩)) (Value.pointer (some ⟨b,0,none⟩)) (vi y5) (vi W9) (vB c0p) w R E:=by
   intro c0p H w I h
   intro _
   refine a7 (o3 _) (a7 K3 (c8 (l1 Tryz.isAgg4 (I.bring 1) rfl) ?_))
   simp only [p8]
   refine a7 (s6 _ _) ?_
   refine a7 (Pu.g fun a=>by with_reducible exact a0X) ?_
   refine c8 (Ld.g fun a=>by simp only [g9 a];exact (l1 Tryz.isAgg38 I rfl)) ?_
   refine a7 (Pu.g fun a=>by simp only [g9 a];with_reducible exact (O4 _ _ _)) ?_
   simp only [p8]
   refine a7 (Pu.g fun a=>by simp only [g9 a];with_reducible exact pEq) ?_
   refine a7 (s6 _ _) ?_
   refine a7 (Pu.g fun a=>by with_reducible exact a0W) ?_
   refine c8 (Ld.g fun a=>by simp only [g9 a];exact (l1 Tryz.isAgg47 I rfl)) ?_
   refine a7 (Pu.g fun a=>by simp only [g9 a];with_reducible exact (a0r _ _ _)) ?_
   simp only [p8]
   refine a7 (Pu.g fun a=>by simp only [g9 a];with_reducible exact pEq) ?_
   refine a7 (s6 _ _) (a7 (o3 _) (a7 K3 ?_))
   refine A9 (I.bring 1) Tryz.sizeOf4 fun ab j ac=>?_
   have hj3:∀(Q4:d6) H w (_:Inv w0 ps0 H0 H [bx g0 123 (r7 Q4),bx b 49 (i7 x1)] w) (_:a1m Q4 x1 H K),c5G (Value.pointer (some ⟨g0,0,none⟩)) (Value.pointer (some ⟨b,0,none⟩)) w R E:=by
    intro Q4 H w I h
    intro _
    refine A4 (σ:=Int×d6) (fun (b3m,S1)=>[(vi b3m)]) (fun (b3m,S1)=>[bx g0 123 (r7 S1),bx b 49 (i7 x1)]) h rfl ((I.bring 1).bring 1) ?_
    rintro ⟨b3m,S1⟩ H ad w next4 n4 d I h hn4
    dsimp only at d I h
    simp only [List.map_cons,List.map_nil,List.cons.injEq,and_true] at d
    have e8:=d
    simp only [e8]
    refine a7 a0W (c8 (l1 Tryz.isAgg47 (I.bring 1) rfl) (a7 (a0r _ _ _) (a7 pLs ?_)))
    simp only [p8]
    refine a7 (Pu.g fun a=>by simp only [g9 a];with_reducible exact (o3 _)) ?_
    refine a7 (Pu.g fun a=>by simp only [g9 a];with_reducible exact K3) ?_
    refine c8 (Ld.g fun a=>by simp only [g9 a];exact (l1 Tryz.isAgg4 I rfl)) ?_
    refine a7 (s6 _ _) ?_
    refine l9 h (fun _ h=>?_) (fun _ h=>?_)
    ·refine a7 a0W (c8 (l1 Tryz.isAgg47 (I.bring 1) rfl) ?_)
     obtain ⟨k,l,m,e,h⟩:=h
     obtain ⟨ae,af,n,e⟩:=e
     refine a7 (a6R n _ _ _ _ k l) (c8 (ldA (vs:=(i7 m)) Tryz.isAgg49 Tryz.sizeOf49 rfl (I.atH e)) ?_)
     refine f9 Tryz.call92 (h g0) I ?_
     rintro _ _ _ ag o _ _ ⟨p,rfl,rfl,h⟩
     refine a7 pAd ?_
     exact hn4 ((IntKind.wrap .i64 (b3m+1)),p) _ _ h ((o.bring 1).bring 1)
    ·exact hR _ H _ _ (I.bring 1).drop ⟨S1,rfl,rfl,h⟩
   refine p7 fun j3 hx3=>?_
   refine A4 (σ:=Int×d6) (fun (b3n,a0i)=>[(vi b3n)]) (fun (b3n,a0i)=>[bx g0 123 (r7 a0i),bx b 49 (i7 x1)]) h rfl ((j.bring 1).bring 1) ?_
   rintro ⟨b3n,a0i⟩ H ah w next5 n5 f I h hn5
   dsimp only at f I h
   simp only [List.map_cons,List.map_nil,List.cons.injEq,and_true] at f
   have e7:=f
   simp only [e7]
   refine a7 a0X (c8 (l1 Tryz.isAgg38 (I.bring 1) rfl) (a7 (O4 _ _ _) (a7 pLs ?_)))
   simp only [p8]
   refine a7 (Pu.g fun a=>by simp only [g9 a];with_reducible exact (o3 _)) ?_
   refine a7 (Pu.g fun a=>by simp only [g9 a];with_reducible exact K3) ?_
   refine c8 (Ld.g fun a=>by simp only [g9 a];exact (l1 Tryz.isAgg4 I rfl)) ?_
   refine a7 (s6 _ _) ?_
   refine l9 h (fun _ h=>?_) (fun _ h=>?_)
   ·refine a7 a0X (c8 (l1 Tryz.isAgg38 (I.bring 1) rfl) ?_)
    obtain ⟨q,r,s,i,h⟩:=h
    obtain ⟨ai,aj,t,i⟩:=i
    refine a7 (a1N t _ _ _ _ q r) (c8 (ldA (vs:=(g7 s)) Tryz.isAgg40 Tryz.sizeOf40 rfl (I.atH i)) ?_)
    refine f9 Tryz.call85 (h g0) I ?_
    rintro _ _ _ ak u _ _ ⟨v,rfl,rfl,h⟩
    refine a7 pAd ?_
    exact hn5 ((IntKind.wrap .i64 (b3n+1)),v) _ _ h ((u.bring 1).bring 1)
   ·exact hx3 _ _ (hj3 a0i H _ ((I.bring 1).bring 1) h)
  refine p7 fun j2 hx2=>?_
  refine a7 a8i (c8 (l1 Tryz.isAgg3 I rfl) (a7 pEq ?_))
  refine m0 h (fun _ h=>?_) (fun _ h=>?_)
  ·refine a7 a5A (c8 (l1 Tryz.isAgg3 I rfl) (a7 pGe ?_))
   refine a7 (Pu.g fun a=>by with_reducible exact a5A) ?_
   refine c8 (Ld.g fun a=>by simp only [g9 a];exact (l1 Tryz.isAgg3 I rfl)) ?_
   refine a7 (Pu.g fun a=>by simp only [g9 a];with_reducible exact pLe) ?_
   refine a7 (s6 _ _) ?_
   exact hx2 _ _ (hj2 ((decide (1≤x1.fOp))&&(decide (x1.fOp≤6))) H _ ((I.bring 1).bring 1) h)
  ·exact hx2 _ _ (hj2 (decide (x1.fOp=0)) H _ ((I.bring 1).bring 1) h)
 refine p7 fun j1 hx1=>?_
 refine a7 a8i (c8 (l1 Tryz.isAgg3 c rfl) ?_)
 have hj6:∀(b6u:Bool) H w (_:Inv w0 ps0 H0 H [bx b 49 (i7 x1),bx g0 123 (r7 x0)] w) (_:R9 0 0 x1.d8 b6u x1 x0 H K),c5K (Value.pointer (some ⟨g0,0,none⟩)) (Value.pointer (some ⟨b,0,none⟩)) (vi 0) (vi 0) (vi x1.d8) (vB b6u) w j1 R E:=by
  intro b6u H w I h
  intro _
  refine l9 h (fun _ h=>?_) (fun _ h=>?_)
  ·exact hx1 _ _ (hj1 0 0 x0 H _ ((I.bring 1).bring 1) h)
  ·refine a7 pEq ?_
   refine m0 h (fun _ h=>?_) (fun _ h=>?_)
   ·exact hx1 _ _ (hj1 2 0 x0 H _ ((I.bring 1).bring 1) h)
   ·refine a7 pEq ?_
    refine m0 h (fun _ h=>?_) (fun _ h=>?_)
    ·exact hx1 _ _ (hj1 0 1 x0 H _ ((I.bring 1).bring 1) h)
    ·have hj7:∀(b6t:Bool) H w (_:Inv w0 ps0 H0 H [bx b 49 (i7 x1),bx g0 123 (r7 x0)] w) (_:R8 0 0 b6t x1 x0 H K),c5J (Value.pointer (some ⟨g0,0,none⟩)) (Value.pointer (some ⟨b,0,none⟩)) (vi 0) (vi 0) (vB b6t) w j1 R E:=by
      intro b6t H w I h
      intro _
      refine l9 h (fun _ h=>?_) (fun _ h=>?_)
      ·exact hx1 _ _ (hj1 0 2 x0 H _ ((I.bring 1).bring 1) h)
      ·refine a7 (o3 _) (a7 K3 ?_)
       refine A9 (I.bring 1) Tryz.sizeOf4 fun al y am=>?_
       exact hx1 _ _ (hj1 0 0 (d6.mk false x0.fnames) H _ (y.bring 1) h)
     refine p7 fun j7 hx7=>?_
     refine a7 pEq ?_
     refine m0 h (fun _ h=>?_) (fun _ h=>?_)
     ·exact hx7 _ _ (hj7 (decide (x1.d8=5)) H _ ((I.bring 1).bring 1) h)
     ·refine a7 pEq ?_
      exact hx7 _ _ (hj7 (decide (x1.d8=6)) H _ ((I.bring 1).bring 1) h)
 refine p7 fun j6 hx6=>?_
 refine a7 pEq ?_
 refine m0 h (fun _ h=>?_) (fun _ h=>?_)
 ·exact hx6 _ _ (hj6 (decide (x1.d8=1)) H _ ((c.bring 1).bring 1) h)
 ·refine a7 pEq ?_
  exact hx6 _ _ (hj6 (decide (x1.d8=2)) H _ ((c.bring 1).bring 1) h)
def a6g(x0:d7)(x1:Int)(H:Hp)(K:Bool→d7→Hp→Prop):Prop:=
 (¬(x0.fbad=0)→
 K false x0 H)∧
 (x0.fbad=0→
 (x0.fn=4096→
 K false (d7.mk x0.fn x0.fdepth 33) H)∧
 (¬(x0.fn=4096)→
 (64 < x1→
 K false (d7.mk x0.fn x0.fdepth 32) H)∧
 (¬(64 < x1)→
 K true (d7.mk (IntKind.wrap .i64 (x0.fn+1)) (if x1 > x0.fdepth then x1 else x0.fdepth) x0.fbad) H)))
theorem b0D(x0 x1){H K}(h:a6g x0 x1 H K):P8 x0 x1 H K:=by
 intro g0
 refine Ct.of fun w0 w ps0 H0 R E I hR=>c9o ?_
 refine a7 (o3 _) (a7 W7 (c8 (l1 Tryz.isAgg3 I rfl) (a7 pNe ?_)))
 refine Z9 h (fun _ h=>?_) (fun _ h=>?_)
 ·exact hR _ H _ _ I ⟨false,x0,rfl,rfl,h⟩
 ·refine a7 (o3 _) (a7 b3Z (c8 (l1 Tryz.isAgg3 I rfl) (a7 pEq ?_)))
  refine m0 h (fun _ h=>?_) (fun _ h=>?_)
  ·refine a7 (o3 _) (a7 W7 ?_)
   refine A9 I Tryz.sizeOf3 fun e b f=>?_
   exact hR _ H _ _ b ⟨false,(d7.mk x0.fn x0.fdepth 33),rfl,rfl,h⟩
  ·refine a7 pGt ?_
   refine m0 h (fun _ h=>?_) (fun _ h=>?_)
   ·refine a7 (o3 _) (a7 W7 ?_)
    refine A9 I Tryz.sizeOf3 fun g c i=>?_
    exact hR _ H _ _ c ⟨false,(d7.mk x0.fn x0.fdepth 32),rfl,rfl,h⟩
   ·refine a7 (o3 _) (a7 b3Z (c8 (l1 Tryz.isAgg3 I rfl) (a7 pAd (a7 (o3 _) ?_))))
    refine a7 b3Z ?_
    refine A9 I Tryz.sizeOf3 fun j a k=>?_
    refine a7 (o3 _) (a7 b6U (c8 (l1 Tryz.isAgg3 a rfl) (a7 (c4l _ _ _ _ _) (a7 (o3 _) ?_))))
    refine a7 b6U ?_
    refine A9 a Tryz.sizeOf3 fun l d m=>?_
    exact hR _ H _ _ d ⟨true,(d7.mk (IntKind.wrap .i64 (x0.fn+1)) (if x1 > x0.fdepth then x1 else x0.fdepth) x0.fbad),rfl,rfl,h⟩
def b0f(x0:a8)(x1:ByteArray)(H:Hp)(K:Bool→a8→Hp→Prop):Prop:=
 o0 x0 x1 H (fun a b=>
 ((!a)=true→
 K false x0 b)∧
 ((!a)=false→
 K true (a8.mk x0.fl (IntKind.wrap .i64 (x0.fat+1)) x0.fbad x0.fpos) b))
theorem a5G(x0 x1){H K}(h:b0f x0 x1 H K):q7 x0 x1 H K:=by
 intro g0
 refine Ct.of fun w0 w ps0 H0 R E I hR=>d3a ?_
 refine f9 Tryz.call23 (h g0) I ?_
 rintro _ b _ d a _ _ ⟨e,rfl,rfl,h⟩
 refine a7 (E1 _) ?_
 refine l9 h (fun _ h=>?_) (fun _ h=>?_)
 ·exact hR _ b _ _ a ⟨false,x0,rfl,rfl,h⟩
 ·refine a7 (o3 _) (a7 T6 (c8 (l1 Tryz.isAgg3 a rfl) (a7 pAd (a7 (o3 _) ?_))))
  refine a7 T6 ?_
  refine A9 a Tryz.sizeOf3 fun f c g=>?_
  exact hR _ b _ _ c ⟨true,(a8.mk x0.fl (IntKind.wrap .i64 (x0.fat+1)) x0.fbad x0.fpos),rfl,rfl,h⟩
def a9G(x0:a8)(x1:Int)(H:Hp)(K:a8→Hp→Prop):Prop:=
 (40 < x1→
 A5 x0 41 H (fun a b=>
 K a b))∧
 (¬(40 < x1)→
 K x0 H)
theorem a9H(x0 x1){H K}(h:a9G x0 x1 H K):S5 x0 x1 H K:=by
 intro g0
 refine Ct.of fun w0 w ps0 H0 R E I hR=>c9n ?_
 refine a7 pGt ?_
 refine m0 h (fun _ h=>?_) (fun _ h=>?_)
 ·refine f9 Tryz.call66 (h g0) I ?_
  rintro _ a _ d b _ _ ⟨c,rfl,rfl,h⟩
  exact hR _ a _ _ b ⟨c,rfl,rfl,h⟩
 ·exact hR _ H _ _ I ⟨x0,rfl,rfl,h⟩
def a7v(x0:ByteArray)(x1:Int)(H:Hp)(K:Int→Int→Hp→Prop):Prop:=
 ((x0.size:Int)≤x1→
 K 0 0 H)∧
 (¬((x0.size:Int)≤x1)→
 O5 x0 x1 H (fun a b f c=>
 a0f a c (fun d e=>
 K d b e)))
theorem b2s(x0 x1){H K}(h:a7v x0 x1 H K):U2 x0 x1 H K:=by
 refine Ct.of fun w0 w ps0 H0 R E I hR=>c9g ?_
 refine a7 (X9 _) (a7 pGe ?_)
 refine m0 h (fun _ h=>?_) (fun _ h=>?_)
 ·exact hR _ H _ _ I ⟨0,0,rfl,rfl,h⟩
 ·refine f9 Tryz.call108 h I ?_
  rintro _ _ _ i b _ _ ⟨c,a,d,rfl,rfl,h⟩
  refine a7 (m5 _ _ (vi c) rfl) (a7 (m5 _ _ (vi a) rfl) (a7 (m5 _ _ (vB d) rfl) ?_))
  refine f9 Tryz.call142 h b ?_
  rintro _ e _ j f _ _ ⟨g,rfl,rfl,h⟩
  exact hR _ e _ _ f ⟨g,a,rfl,rfl,h⟩
def W0(c6Z:ByteArray)(d4c:Int)(d8C:Int)(b3M:Int)(a:b8)(b:b8)(H:Hp)(n2:(Int×b8×b8)→Hp→Prop)(K:b8→Hp→Prop):Prop:=
 n2 ((IntKind.wrap .i64 (d8C+b3M)),b,a) H
def a2G(b:b8)(a:b8)(H:Hp)(K:b8→Hp→Prop):Prop:=
 K a H
def a6y(M8:ByteArray)(a5R:Int)(a1D:Int)(b:b8)(a:b8)(H:Hp)(n2:(Int×b8×b8)→Hp→Prop)(K:b8→Hp→Prop):Prop:=
 (a1D < a5R→
 O5 M8 a1D H (fun c d f e=>
 (c=10→
 W0 M8 a5R a1D d (b8.mk (IntKind.wrap .i64 (a.B9+1)) 1) b e n2 K)∧
 (¬(c=10)→
 W0 M8 a5R a1D d (b8.mk a.B9 (IntKind.wrap .i64 (a.K8+1))) b e n2 K)))∧
 (¬(a1D < a5R)→
 a2G b a H K)
def a7w(x0:ByteArray)(x1:b8)(x2:Int)(x3:Int)(H:Hp)(K:b8→Hp→Prop):Prop:=
 TL ((x2,(b8.mk 0 0),x1):Int×b8×b8) H fun(s:Int×b8×b8) H n2=>a6y x0 x3 s.1 s.2.1 s.2.2 H n2 K
theorem b2t(x0 x1 x2 x3){H K}(h:a7w x0 x1 x2 x3 H K):a1v x0 x1 x2 x3 H K:=by
 refine Ct.of fun w0 w ps0 H0 R E I hR=>d2U ?_
 refine Q1 I (cs:=(l7 x1)) rfl fun c u o v=>?_
 refine o7 o Tryz.zeroValue28 (cs:=[(vi 0),(vi 0)]) rfl fun d y p z=>?_
 have hj1:∀(i:b8)(e:b8) H w (_:Inv w0 ps0 H0 H [bx d 28 (l7 i),bx c 28 (l7 e)] w) (_:a2G i e H K),c5g (Value.pointer (some ⟨c,0,none⟩)) (Value.pointer (some ⟨d,0,none⟩)) w R E:=by
  intro i e H w I h
  intro _
  refine c8 (lW Tryz.isAgg28 Tryz.sizeOf28 rfl (I.bring 1)) ?_
  refine o9 I Tryz.sizeOf28 (vs:=(l7 e)) fun aa l ab=>?_
  refine q8 Tryz.isAgg28 Tryz.sizeOf28 rfl l ?_
  exact hR _ H _ _ l.drop.drop ⟨e,rfl,rfl,h⟩
 refine p7 fun j1 hx1=>?_
 refine A4 (σ:=Int×b8×b8) (fun (a1D,a,b)=>[(vi a1D)]) (fun (a1D,a,b)=>[bx d 28 (l7 a),bx c 28 (l7 b)]) h rfl ((p.bring 1).bring 1) ?_
 rintro ⟨a1D,a,b⟩ H ac w next2 n2 j I h hn2
 dsimp only at j I h
 simp only [List.map_cons,List.map_nil,List.cons.injEq,and_true] at j
 have e9:=j
 simp only [e9]
 refine a7 pLs ?_
 refine m0 h (fun _ h=>?_) (fun _ h=>?_)
 ·refine f9 Tryz.call108 h I ?_
  rintro _ m _ ad n _ _ ⟨q,f,r,rfl,rfl,h⟩
  refine a7 (m5 _ _ (vi q) rfl) (a7 (m5 _ _ (vi f) rfl) (a7 (m5 _ _ (vB r) rfl) (a7 a5C (c8 (l1 Tryz.isAgg3 (n.bring 1) rfl) ?_))))
  refine a7 pAd (a7 a5C ?_)
  refine A9 (n.bring 1) Tryz.sizeOf3 fun ae k af=>?_
  have hj3:∀(g:b8) H w (_:Inv w0 ps0 H0 H [bx c 28 (l7 g),bx d 28 (l7 a)] w) (_:W0 x0 x3 a1D f g a H n2 K),c5h (Value.string x0) (vi x3) (Value.pointer (some ⟨c,0,none⟩)) (Value.pointer (some ⟨d,0,none⟩)) (vi a1D) (vi f) w next2 R E:=by
   intro g H w I h
   intro _
   refine a7 pAd ?_
   exact hn2 ((IntKind.wrap .i64 (a1D+f)),a,g) _ _ h (I.bring 1)
  refine p7 fun j3 hx3=>?_
  refine a7 pEq ?_
  refine m0 h (fun _ h=>?_) (fun _ h=>?_)
  ·refine a7 a9V (c8 (l1 Tryz.isAgg3 k rfl) (a7 pAd (a7 a9V ?_)))
   refine A9 k Tryz.sizeOf3 fun ag s ah=>?_
   refine a7 a5C ?_
   refine A9 s Tryz.sizeOf3 fun ai t aj=>?_
   exact hx3 _ _ (hj3 (b8.mk (IntKind.wrap .i64 (b.B9+1)) 1) m _ ((t.bring 1).bring 1) h)
  ·exact hx3 _ _ (hj3 (b8.mk b.B9 (IntKind.wrap .i64 (b.K8+1))) m _ ((k.bring 1).bring 1) h)
 ·exact hx1 _ _ (hj1 a b H _ ((I.bring 1).bring 1) h)
def a2j(a5S:ByteArray)(V1:Int)(b0g:Int)(a8F:Int)(c:b6)(H:Hp)(K:b6→Int→Int→Hp→Prop):Prop:=
 U2 a5S b0g H (fun a d b=>
 (0:Int)≤V1∧V1 < (a5S.size:Int)∧
 ((((decide (((a5S.get! (V1:Int).toNat).toNat:Int)=48))&&(decide (1 < (IntKind.wrap .i64 (b0g-V1)))))||(decide (a=3)))=true→
 K (b6.mk 0 ⟨#[]⟩ 0 (b8.mk 0 0)) 0 21 b)∧
 ((((decide (((a5S.get! (V1:Int).toNat).toNat:Int)=48))&&(decide (1 < (IntKind.wrap .i64 (b0g-V1)))))||(decide (a=3)))=false→
 (0:Int)≤V1∧(V1:Int)≤b0g∧(b0g:Int)≤a5S.size∧
 K (b6.mk 2 (a5S.extract (V1:Int).toNat (b0g:Int).toNat) (IntKind.wrap .i64 a8F) (b8.mk 0 0)) b0g 0 b))
def a6h(M8:ByteArray)(R1:Int)(y1:Int)(C4:Int)(a:b6)(H:Hp)(n2:(Int×Int×b6)→Hp→Prop)(K:b6→Int→Int→Hp→Prop):Prop:=
 ((decide (y1 < (M8.size:Int)))=true→(0:Int)≤y1∧y1 < (M8.size:Int))∧
 (((decide (y1 < (M8.size:Int)))&&(decide (48≤((M8.get! (y1:Int).toNat).toNat:Int))))=true→(0:Int)≤y1∧y1 < (M8.size:Int))∧
 ((((decide (y1 < (M8.size:Int)))&&(decide (48≤((M8.get! (y1:Int).toNat).toNat:Int))))&&(decide (((M8.get! (y1:Int).toNat).toNat:Int)≤57)))=true→
 (0:Int)≤y1∧y1 < (M8.size:Int)∧
 (10:Int)≠0∧
 ((IntKind.wrap .u64 (Int.tdiv (IntKind.wrap .u64 (9223372036854775807-(IntKind.wrap .u64 (IntKind.wrap .u8 (((M8.get! (y1:Int).toNat).toNat:Int)-48))))) 10)) < C4→
 K (b6.mk 0 ⟨#[]⟩ 0 (b8.mk 0 0)) 0 21 H)∧
 (¬((IntKind.wrap .u64 (Int.tdiv (IntKind.wrap .u64 (9223372036854775807-(IntKind.wrap .u64 (IntKind.wrap .u8 (((M8.get! (y1:Int).toNat).toNat:Int)-48))))) 10)) < C4)→
 n2 ((IntKind.wrap .i64 (y1+1)),(IntKind.wrap .u64 ((IntKind.wrap .u64 (10*C4))+(IntKind.wrap .u64 (IntKind.wrap .u8 (((M8.get! (y1:Int).toNat).toNat:Int)-48))))),a) H))∧
 ((((decide (y1 < (M8.size:Int)))&&(decide (48≤((M8.get! (y1:Int).toNat).toNat:Int))))&&(decide (((M8.get! (y1:Int).toNat).toNat:Int)≤57)))=false→
 a2j M8 R1 y1 C4 a H K)
def a7k(x0:ByteArray)(x1:Int)(H:Hp)(K:b6→Int→Int→Hp→Prop):Prop:=
 TL ((x1,0,(b6.mk 0 ⟨#[]⟩ 0 (b8.mk 0 0))):Int×Int×b6) H fun(s:Int×Int×b6) H n2=>a6h x0 x1 s.1 s.2.1 s.2.2 H n2 K
theorem b1W(x0 x1){H K}(h:a7k x0 x1 H K):a3m x0 x1 H K:=by
 refine Ct.of fun w0 w ps0 H0 R E I hR=>c9l ?_
 refine o7 I Tryz.zeroValue103 (cs:=[(vi 0),(eS),(vi 0),(vi 0),(vi 0)]) rfl fun e ab o ac=>?_
 have hj1:∀(b0g:Int)(a8F:Int)(f:b6) H w (_:Inv w0 ps0 H0 H [bx e 103 (i8 f)] w) (_:a2j x0 x1 b0g a8F f H K),c1S (Value.string x0) (vi x1) (Value.pointer (some ⟨e,0,none⟩)) (vi b0g) (Value.int .u64 a8F) w R E:=by
  intro b0g a8F f H w I h
  intro _
  refine f9 Tryz.call109 h I ?_
  rintro _ j _ ad k _ _ ⟨p,q,rfl,rfl,h⟩
  refine a7 (m5 _ _ (vi p) rfl) (a7 (m5 _ _ (vi q) rfl) ?_)
  obtain ⟨r,s,h⟩:=h
  refine a7 (a3j _ _ _ r s) (a7 pEq ?_)
  simp only [p8]
  refine a7 (Pu.g fun a=>by simp only [g9 a];with_reducible exact pSu) ?_
  refine a7 (Pu.g fun a=>by simp only [g9 a];with_reducible exact pGt) ?_
  refine a7 (s6 _ _) ?_
  simp only [p8]
  refine a7 (Pu.g fun a=>by simp only [g9 a];with_reducible exact pEq) ?_
  refine a7 (y8 _ _) ?_
  refine l9 h (fun _ h=>?_) (fun _ h=>?_)
  ·refine a7 (a6S) ?_
   refine o9 k Tryz.sizeOf103 (vs:=[(vi 0),(eS),(vi 0),(vi 0),(vi 0)]) fun ae l af=>?_
   refine q8 Tryz.isAgg103 Tryz.sizeOf103 rfl l ?_
   exact hR _ j _ _ l.drop ⟨(b6.mk 0 ⟨#[]⟩ 0 (b8.mk 0 0)),0,21,rfl,rfl,h⟩
  ·obtain ⟨t,u,v,h⟩:=h
   refine a7 (a6Q x0 Tryz.underlying9 t u v) (a7 (c1n _ _) (a7 (b7f _ _ _) ?_))
   refine o9 k Tryz.sizeOf103 (vs:=[(vi 2),(Value.string (x0.extract (x1:Int).toNat (b0g:Int).toNat)),(vi (IntKind.wrap .i64 a8F)),(vi 0),(vi 0)]) fun ag m ah=>?_
   refine q8 Tryz.isAgg103 Tryz.sizeOf103 rfl m ?_
   exact hR _ j _ _ m.drop ⟨(b6.mk 2 (x0.extract (x1:Int).toNat (b0g:Int).toNat) (IntKind.wrap .i64 a8F) (b8.mk 0 0)),b0g,0,rfl,rfl,h⟩
 refine p7 fun j1 hx1=>?_
 refine A4 (σ:=Int×Int×b6) (fun (y1,C4,d)=>[(vi y1),(Value.int .u64 C4)]) (fun (y1,C4,d)=>[bx e 103 (i8 d)]) h rfl o ?_
 rintro ⟨y1,C4,d⟩ H ai w next2 n2 i I h hn2
 dsimp only at i I h
 simp only [List.map_cons,List.map_nil,List.cons.injEq,and_true] at i
 obtain ⟨e7,e8⟩:=i
 simp only [e7,e8]
 refine a7 (X9 _) (a7 pLs ?_)
 simp only [p8]
 obtain ⟨b,h⟩:=h
 refine a7 (Pu.g fun hb=>by have a:=hb;simp only [g9 a];with_reducible exact (a3j _ _ _ (b hb).1 (b hb).2)) ?_
 refine a7 (Pu.g fun a=>by simp only [g9 a];with_reducible exact pGe) ?_
 refine a7 (s6 _ _) ?_
 simp only [p8]
 obtain ⟨c,h⟩:=h
 refine a7 (Pu.g fun hb=>by have a:=hb;simp only [g9 a];with_reducible exact (a3j _ _ _ (c hb).1 (c hb).2)) ?_
 refine a7 (Pu.g fun a=>by simp only [g9 a];with_reducible exact pLe) ?_
 refine a7 (s6 _ _) ?_
 refine l9 h (fun _ h=>?_) (fun _ h=>?_)
 ·obtain ⟨y,z,h⟩:=h
  refine a7 (a3j _ _ _ y z) (a7 pSu (a7 (c1m _ _) (a7 pSu ?_)))
  obtain ⟨aa,h⟩:=h
  refine a7 (d1D _ _ _ _ _ _ aa) (a7 pGt ?_)
  refine m0 h (fun _ h=>?_) (fun _ h=>?_)
  ·refine a7 (a6S) ?_
   refine o9 I Tryz.sizeOf103 (vs:=[(vi 0),(eS),(vi 0),(vi 0),(vi 0)]) fun aj n ak=>?_
   refine q8 Tryz.isAgg103 Tryz.sizeOf103 rfl n ?_
   exact hR _ H _ _ n.drop ⟨(b6.mk 0 ⟨#[]⟩ 0 (b8.mk 0 0)),0,21,rfl,rfl,h⟩
  ·refine a7 pMu (a7 pAd (a7 pAd ?_))
   exact hn2 ((IntKind.wrap .i64 (y1+1)),(IntKind.wrap .u64 ((IntKind.wrap .u64 (10*C4))+(IntKind.wrap .u64 (IntKind.wrap .u8 (((x0.get! (y1:Int).toNat).toNat:Int)-48))))),d) _ _ h I
 ·exact hx1 _ _ (hj1 y1 C4 d H _ I h)
def a2H(a8Z:Int)(a:b8)(d:a8)(b:Sl)(c:Sl)(e:b8)(f:l8)(H:Hp)(K:l8→b8→Int→Hp→Prop):Prop:=
 (¬(a8Z=0)→
 K (l8.mk (Sl.mk none 0 0) (Sl.mk none 0 0)) a a8Z H)∧
 (a8Z=0→
 K (l8.mk b c) (b8.mk 0 0) 0 H)
def W1(q:a8)(k:(List m7))(l:(List b9))(z:b8)(m:b8)(o:l8)(H:Hp)(K:l8→b8→Int→Hp→Prop):Prop:=
 a0e q H (fun r d e p=>
 (d=0→
 ∀(a:Sl)(f:Hp),Hle p f→SlH f 2 u5 a k→a.n≤a.c→
 ∀(b:Sl)(g:Hp),Hle f g→SlH g 6 m6 b l→b.n≤b.c→
 a3M (l8.mk a b) g (fun s t=>
 a1x e s t (fun u v y=>
 a2H v u e a b m o y K)))∧
 (¬(d=0)→
 ∀(a:Sl)(i:Hp),Hle p i→SlH i 2 u5 a k→a.n≤a.c→
 ∀(b:Sl)(j:Hp),Hle i j→SlH j 6 m6 b l→b.n≤b.c→
 a2H d r e a b m o j K))
def a0A(j:(List m7))(a:a8)(b:(List b9))(c:b8)(d:b8)(e:l8)(H:Hp)(n4:(a8×(List b9)×b8×b8×l8)→Hp→Prop)(K:l8→b8→Int→Hp→Prop):Prop:=
 TG ((decide (a.fbad=0))=true) (M5 a H) false H (fun(f:Bool)(g:Hp)=>
 (((decide (a.fbad=0))&&f)=true→
 Z3 a 1 g (fun i k l=>
 (b.length+([i]:List b9).length)*121≤140737488355328∧
 n4 (k,(b++[i]),c,d,e) l))∧
 (((decide (a.fbad=0))&&f)=false→
 W1 a j b c d e g K))
def a0B(a:a8)(b:(List m7))(c:(List b9))(d:b8)(e:b8)(f:l8)(H:Hp)(K:l8→b8→Int→Hp→Prop):Prop:=
 TL ((a,c,d,e,f):a8×(List b9)×b8×b8×l8) H fun(s:a8×(List b9)×b8×b8×l8) H n4=>a0A b s.1 s.2.1 s.2.2.1 s.2.2.2.1 s.2.2.2.2 H n4 K
def a2I(b:(List m7))(d:(List b9))(a:a8)(e:b8)(f:b8)(g:l8)(H:Hp)(n5:((List m7)×(List b9)×a8×b8×b8×l8)→Hp→Prop)(K:l8→b8→Int→Hp→Prop):Prop:=
 TG ((decide (a.fbad=0))=true) (o0 a ⟨#[118,97,114]⟩ H) false H (fun(c:Bool)(i:Hp)=>
 TG (((decide (a.fbad=0)) && !c)=true) (o0 a ⟨#[97,114,114,97,121]⟩ i) false i (fun(j:Bool)(k:Hp)=>
 (((decide (a.fbad=0))&&(c||j))=true→
 o0 a ⟨#[97,114,114,97,121]⟩ k (fun m n=>
 a1z (a8.mk a.fl (IntKind.wrap .i64 (a.fat+1)) a.fbad a.fpos) m n (fun l o p=>
 (b.length+([l]:List m7).length)*25≤140737488355328∧
 n5 ((b++[l]),d,o,e,f,g) p)))∧
 (((decide (a.fbad=0))&&(c||j))=false→
 a0B a b d e f g k K)))
def b2u(x0:ByteArray)(H:Hp)(K:l8→b8→Int→Hp→Prop):Prop:=
 a3o x0 H (fun d b a c=>
 (¬(a=0)→
 K (l8.mk (Sl.mk none 0 0) (Sl.mk none 0 0)) b a c)∧
 (a=0→
 TL (([],[],(a8.mk d 0 0 (b8.mk 0 0)),b,(b8.mk 0 0),(l8.mk (Sl.mk none 0 0) (Sl.mk none 0 0))):(List m7)×(List b9)×a8×b8×b8×l8) c fun(s:(List m7)×(List b9)×a8×b8×b8×l8) H n5=>a2I s.1 s.2.1 s.2.2.1 s.2.2.2.1 s.2.2.2.2.1 s.2.2.2.2.2 H n5 K))
theorem b2v(x0){H K}(h:b2u x0 H K):a3O x0 H K:=by
 refine Ct.of fun w0 w ps0 H0 R E I hR=>d1V ?_
 refine o7 I Tryz.zeroValue26 (cs:=[(nS),(nS)]) rfl fun aa gj dp gk=>?_
 refine o7 dp Tryz.zeroValue28 (cs:=[(vi 0),(vi 0)]) rfl fun ab gl dq gm=>?_
 refine f9 Tryz.call22 h dq ?_
 rintro _ ch _ gn dr _ _ ⟨ci,au,cj,rfl,rfl,h⟩
 refine a7 (m5 _ _ _ rfl) (a7 (m5 _ _ _ rfl) (a7 (m5 _ _ (vi cj) rfl) ?_))
 refine o7 dr Tryz.zeroValue28 (cs:=[(vi 0),(vi 0)]) rfl fun ac go ds gp=>?_
 refine o9 ds Tryz.sizeOf28 (vs:=(l7 au)) fun gq ck gr=>?_
 refine a7 pNe ?_
 refine Z9 h (fun _ h=>?_) (fun _ h=>?_)
 ·refine O6 ck fun gs bm=>?_
  refine o5 (b5G) ?_
  refine u1 (lW Tryz.isAgg28 Tryz.sizeOf28 rfl bm) ?_
  refine o9 (bm.bring 2) Tryz.sizeOf26 (vs:=[(nS),(nS)]) fun gt dt du=>?_
  refine ⟨(du _ (Inv.c3p (bm.bring 2))),?_⟩
  refine o9 (dt.bring 2) Tryz.sizeOf28 (vs:=(l7 au)) fun gu bn gv=>?_
  refine q8 Tryz.isAgg26 Tryz.sizeOf26 rfl (bn.bring 1) ?_
  refine q8 Tryz.isAgg28 Tryz.sizeOf28 rfl bn ?_
  exact hR _ ch _ _ bn.drop.drop.drop ⟨(l8.mk (Sl.mk none 0 0) (Sl.mk none 0 0)),au,cj,rfl,rfl,h⟩
 ·refine a7 (c1j _ _ _) ?_
  refine Q1 ck (cs:=[(vs ci),(vi 0),(vi 0),(vi 0),(vi 0)]) rfl fun f gw dv gx=>?_
  refine a7 (b5G) ?_
  refine o7 dv Tryz.zeroValue26 (cs:=[(nS),(nS)]) rfl fun ad gy dw gz=>?_
  refine o9 dw Tryz.sizeOf26 (vs:=[(nS),(nS)]) fun ha dx hc=>?_
  have hj1:∀(av:a8)(ah:(List m7))(aw:(List b9))(ax:b8)(ay:b8)(az:l8)(k:Sl)(ai:Frag)(ba:Sl)(bb:Frag) H w (_:RowL 68 2 u5 k ah ai) (_:RowL 56 6 m6 ba aw bb) (_:Inv w0 ps0 H0 H [bx f 66 (f7 av),bx ad 26 [(vs k),(vs ba)],bx ac 28 (l7 ax),bx ab 28 (l7 ay),bx aa 26 (p5 az),ai,bb] w) (_:a0B av ah aw ax ay az H K),c4x (Value.pointer (some ⟨aa,0,none⟩)) (Value.pointer (some ⟨ab,0,none⟩)) (Value.pointer (some ⟨ac,0,none⟩)) (Value.pointer (some ⟨f,0,none⟩)) (Value.pointer (some ⟨ad,0,none⟩)) w R E:=by
   intro av ah aw ax ay az k ai ba bb H w dy dz I h
   intro _
   have hj2:∀(bo:a8)(bp:(List m7))(bq:(List b9))(br:b8)(aj:b8)(ak:l8)(bs:Frag)(ae:Sl)(bt:Frag) H w (_:RowL 68 2 u5 k bp bs) (_:RowL 56 6 m6 ae bq bt) (_:Inv w0 ps0 H0 H [bx f 66 (f7 bo),bx ad 26 [(vs k),(vs ae)],bx ac 28 (l7 br),bx ab 28 (l7 aj),bx aa 26 (p5 ak),bs,bt] w) (_:W1 bo bp bq br aj ak H K),c4w (Value.pointer (some ⟨aa,0,none⟩)) (Value.pointer (some ⟨ab,0,none⟩)) (Value.pointer (some ⟨ac,0,none⟩)) (Value.pointer (some ⟨f,0,none⟩)) (Value.pointer (some ⟨ad,0,none⟩)) w R E:=by
    intro bo bp bq br aj ak bs ae bt H w cl cm I h
    intro _
    refine f9 Tryz.call27 (h f) I ?_
    rintro _ _ _ hd ea _ _ ⟨cn,co,cp,rfl,rfl,h⟩
    refine a7 (m5 _ _ _ rfl) (a7 (m5 _ _ (vi co) rfl) ?_)
    refine o9 (ea.bring 2) Tryz.sizeOf28 (vs:=(l7 cn)) fun he bu hf=>?_
    have hj3:∀(a8Z:Int)(al:b8)(af:Sl)(ag:Sl) H w (_:Inv w0 ps0 H0 H [bx ac 28 (l7 al),bx f 66 (f7 cp),bx ad 26 [(vs af),(vs ag)],bx ab 28 (l7 aj),bx aa 26 (p5 ak)] w) (_:a2H a8Z al cp af ag aj ak H K),c4v (Value.pointer (some ⟨aa,0,none⟩)) (Value.pointer (some ⟨ab,0,none⟩)) (Value.pointer (some ⟨ac,0,none⟩)) (vi a8Z) (Value.pointer (some ⟨ad,0,none⟩)) w R E:=by
     intro a8Z al af ag H w I h
     intro _
     refine a7 pNe ?_
     refine Z9 h (fun _ h=>?_) (fun _ h=>?_)
     ·refine O6 I fun hg bv=>?_
      refine o5 (b5G) ?_
      refine u1 (lW Tryz.isAgg28 Tryz.sizeOf28 rfl bv) ?_
      refine o9 (bv.bring 4) Tryz.sizeOf26 (vs:=[(nS),(nS)]) fun hh eb ec=>?_
      refine ⟨(ec _ (Inv.c3p (bv.bring 4))),?_⟩
      refine o9 (eb.bring 4) Tryz.sizeOf28 (vs:=(l7 al)) fun hi bw hj=>?_
      refine q8 Tryz.isAgg26 Tryz.sizeOf26 rfl (bw.bring 1) ?_
      refine q8 Tryz.isAgg28 Tryz.sizeOf28 rfl bw ?_
      exact hR _ H _ _ bw.drop.drop.drop.drop.drop ⟨(l8.mk (Sl.mk none 0 0) (Sl.mk none 0 0)),al,a8Z,rfl,rfl,h⟩
     ·refine c8 (ldA Tryz.isAgg26 Tryz.sizeOf26 rfl ((I.bring 2).at1 (o:=0) (vs:=[(vs af),(vs ag)]) (nb rfl) rfl)) (a7 (b3G) ?_)
      refine o9 (I.bring 4) Tryz.sizeOf26 (vs:=[(vs af),(vs ag)]) fun hk ed hl=>?_
      refine o9 (ed.bring 4) Tryz.sizeOf28 (vs:=[(vi 0),(vi 0)]) fun hm bz hn=>?_
      refine q8 Tryz.isAgg26 Tryz.sizeOf26 rfl (bz.bring 1) ?_
      refine q8 Tryz.isAgg28 Tryz.sizeOf28 rfl bz ?_
      exact hR _ H _ _ bz.drop.drop.drop.drop.drop ⟨(l8.mk af ag),(b8.mk 0 0),0,rfl,rfl,h⟩
    refine p7 fun j3 hx3=>?_
    refine a7 pEq ?_
    refine m0 h (fun _ h=>?_) (fun _ h=>?_)
    ·refine c8 (ldA Tryz.isAgg26 Tryz.sizeOf26 rfl ((bu.bring 2).at1 (o:=0) (vs:=[(vs k),(vs ae)]) (nb rfl) rfl)) ?_
     obtain ⟨ee,ef,eg,eh,ei⟩:=Inv.freezeC (bu.bring 5) cl (by decide)
     replace h:=h k ee eg eh ei
     obtain ⟨ej,ek,el,em,en⟩:=Inv.freezeC (ef.bring 5) cm (by decide)
     replace h:=h ae ej el em en
     refine f9 Tryz.call29 h ek ?_
     rintro _ _ _ ho eo _ _ ⟨hp,rfl,rfl,h⟩
     refine f9 Tryz.call28 (h f) (eo.bring 1) ?_
     rintro _ ep _ hq eq _ _ ⟨cq,cr,rfl,rfl,h⟩
     refine a7 (m5 _ _ _ rfl) (a7 (m5 _ _ (vi cr) rfl) ?_)
     refine o9 (eq.bring 1) Tryz.sizeOf28 (vs:=(l7 cq)) fun hr er hs=>?_
     exact hx3 _ _ (hj3 cr cq k ae ep _ (((((er.bring 4).bring 4).bring 4).bring 4).bring 4) h)
    ·obtain ⟨es,et,eu,ev,ew⟩:=Inv.freezeC (bu.bring 5) cl (by decide)
     replace h:=h k es eu ev ew
     obtain ⟨ct,ex,ey,ez,fa⟩:=Inv.freezeC (et.bring 5) cm (by decide)
     replace h:=h ae ct ey ez fa
     exact hx3 _ _ (hj3 co cn k ae ct _ (((((ex.bring 4).bring 4).bring 4).bring 4).bring 4) h)
   refine p7 fun j2 hx2=>?_
   obtain ⟨ca,am,fb,fc⟩:=h
   refine U0 (J:=fun n l w=>∃(s:a8×(List b9)×b8×b8×l8)(H:Hp)(an:Sl)(bc:Frag),n=am s∧l=(match s with | (m,p,v,y,z)=>[])∧(match s with | (m,p,v,y,z)=>RowL 56 6 m6 an p bc)∧(match s with | (m,p,v,y,z)=>Inv w0 ps0 H0 H [bx f 66 (f7 m),bx ad 26 [(vs k),(vs an)],bx ac 28 (l7 v),bx ab 28 (l7 y),bx aa 26 (p5 z),ai,bc] w)∧ca s H) ⟨_,(av,aw,ax,ay,az),H,ba,bb,rfl,rfl,dz,(((((((I.bring 6).bring 6).bring 6).bring 6).bring 6).bring 6).bring 6),fb⟩ ?_
   rintro ht hu w next4 ⟨⟨m,p,v,y,z⟩,H,an,bc,rfl,cu,cb,I,fd⟩ hn4
   dsimp only at cu I cb
   clear cu
   obtain ⟨n4,hm4,h⟩:∃n4:(a8×(List b9)×b8×b8×l8)→Hp→Prop,(∀s' H',n4 s' H'→ca s' H'∧am s' < am (m,p,v,y,z))∧a0A ah m p v y z H n4 K:=⟨_,fun _ _ h=>h,fc (m,p,v,y,z) H (fun s' H'=>ca s' H'∧am s' < am (m,p,v,y,z)) fd (fun _ _ a b=>⟨a,b⟩)⟩
   refine a7 (o3 _) (a7 V4 (c8 (l1 Tryz.isAgg3 I rfl) (a7 pEq ?_)))
   simp only [p8]
   refine C5 [bx f 66 (f7 m)] (fun bd:Bool=>(vB bd)) h I (fun d h=>by simp only [g9 d];exact D5 Tryz.call25 (h f) I) fun bd cc fe be cw cx h=>?_
   refine a7 (s6 _ _) ?_
   refine l9 h (fun _ h=>?_) (fun _ h=>?_)
   ·refine O6 be fun hv bf=>?_
    refine o5 X8 ?_
    refine u1 (l1 Tryz.isAgg24 (bf.bring 1) rfl) ?_
    refine f9 Tryz.call26 (h f) bf ?_
    rintro _ ff _ hw cy _ fg ⟨cz,fh,rfl,rfl,h⟩
    refine ⟨(fg _ (bf.bring 1).lt1 (Inv.X0 (Fi:=[bx f 66 (f7 m)]) ((bf.bring 1).bring 1))),?_⟩
    refine Q9 (e:=56) (c:=m6) (xs:=[cz]) cy (b6d _ _ _ _ _ _ _ _ _ _ _ _ _ _) rfl rfl a1Z a2b (nb rfl) fun hx hy hz fi da fj=>?_
    refine ⟨(fj _ (cy.bring 1).lt1),?_⟩
    obtain ⟨fk,h⟩:=h
    refine b7z (s:=an) (xs:=p) (da.bring 7) cb (fi.srcO ((da.bring 7).bring 1)) fk fun fm fn ia fo fp ib=>?_
    refine o5 X8 ?_
    refine A9 ((fp.bring 1).drop.bring 2) Tryz.sizeOf24 fun ic fq id=>?_
    exact hn4 _ _ _ (hm4 _ _ h).2 ⟨(fh,(p++[cz]),v,y,z),ff,fm,fn,rfl,rfl,fo,(((((((fq.bring 1).bring 6).bring 6).bring 6).bring 6).bring 5).bring 6),(hm4 _ _ h).1⟩
   ·exact hx2 _ _ (hj2 m ah p v y z ai an bc cc _ dy cb (((((((be.bring 6).bring 6).bring 6).bring 6).bring 6).bring 6).bring 6) h)
  refine p7 fun j1 hx1=>?_
  obtain ⟨cd,ao,fs,ft⟩:=h
  refine U0 (J:=fun n l w=>∃(s:(List m7)×(List b9)×a8×b8×b8×l8)(H:Hp)(ap:Sl)(bg:Frag)(aq:Sl)(ar:Frag),n=ao s∧l=(match s with | (j,q,i,r,t,u)=>[])∧(match s with | (j,q,i,r,t,u)=>RowL 68 2 u5 ap j bg)∧(match s with | (j,q,i,r,t,u)=>RowL 56 6 m6 aq q ar)∧(match s with | (j,q,i,r,t,u)=>Inv w0 ps0 H0 H [bx ad 26 [(vs ap),(vs aq)],bx f 66 (f7 i),bx ac 28 (l7 r),bx ab 28 (l7 t),bx aa 26 (p5 u),bg,ar] w)∧cd s H) ⟨_,([],[],(a8.mk ci 0 0 (b8.mk 0 0)),au,(b8.mk 0 0),(l8.mk (Sl.mk none 0 0) (Sl.mk none 0 0))),ch,(Sl.mk none 0 0),[],(Sl.mk none 0 0),[],rfl,rfl,(RowL.nil a8U a8V),(RowL.nil a1Z a2b),((((((dx.nil.nil.bring 1).bring 6).bring 6).bring 6).bring 6).bring 6),fs⟩ ?_
  rintro ie ig w next5 ⟨⟨j,q,i,r,t,u⟩,H,ap,bg,aq,ar,rfl,db,ce,cf,I,fu⟩ hn5
  dsimp only at db I ce cf
  clear db
  obtain ⟨n5,hm5,h⟩:∃n5:((List m7)×(List b9)×a8×b8×b8×l8)→Hp→Prop,(∀s' H',n5 s' H'→cd s' H'∧ao s' < ao (j,q,i,r,t,u))∧a2I j q i r t u H n5 K:=⟨_,fun _ _ h=>h,ft (j,q,i,r,t,u) H (fun s' H'=>cd s' H'∧ao s' < ao (j,q,i,r,t,u)) fu (fun _ _ a b=>⟨a,b⟩)⟩
  refine a7 (o3 _) (a7 V4 (c8 (l1 Tryz.isAgg3 (I.bring 1) rfl) (a7 pEq ?_)))
  simp only [p8]
  refine C5 [bx f 66 (f7 i)] (fun bh:Bool=>(vB bh)) h (I.bring 1) (fun d h=>by simp only [g9 d];exact D5 Tryz.call23 (h f) (I.bring 1)) fun bh dd fv bi de df h=>?_
  simp only [a3K,b9T]
  refine c3o (U1 _ _ _) ?_
  refine C5 [bx f 66 (f7 i)] (fun bj:Bool=>(vB bj)) h bi (fun dg h=>?_) fun bj cg fw bk dh di h=>?_
  ·obtain ⟨d,dj⟩:=a0w dg
   simp only [g9 dg]
   refine f9 Tryz.call23 (h f) bi ?_
   rintro _ cg _ fw bk di dh ⟨bj,rfl,rfl,h⟩
   exact ⟨bj,cg,rfl,bk,dh,di,h⟩
  refine a7 (Pu.g fun d=>by simp only [g9 d,a9Q d];with_reducible exact (y8 _ _)) ?_
  refine a7 (s6 _ _) ?_
  refine l9 h (fun _ h=>?_) (fun _ h=>?_)
  ·refine f9 Tryz.call23 (h f) bk ?_
   rintro _ _ _ ih dk _ _ ⟨ii,rfl,rfl,h⟩
   refine a7 (o3 _) (a7 T6 (c8 (l1 Tryz.isAgg3 dk rfl) (a7 pAd (a7 (o3 _) ?_))))
   refine a7 T6 ?_
   refine A9 dk Tryz.sizeOf3 fun ij fx ik=>?_
   refine O6 fx fun il bl=>?_
   refine o5 T5 ?_
   refine u1 (l1 Tryz.isAgg23 (bl.bring 1) rfl) ?_
   refine f9 Tryz.call24 (h f) bl ?_
   rintro _ fy _ im dl _ fz ⟨dm,ga,rfl,rfl,h⟩
   refine ⟨(fz _ (bl.bring 1).lt1 (Inv.X0 (Fi:=[bx f 66 [(vs i.fl),(vi (IntKind.wrap .i64 (i.fat+1))),(vi i.fbad),(vi i.fpos.B9),(vi i.fpos.K8)]]) ((bl.bring 1).bring 1))),?_⟩
   refine Q9 (e:=68) (c:=u5) (xs:=[dm]) dl (c1I _ _) rfl rfl a8U a8V (nb rfl) fun io ip iq gb dn gc=>?_
   refine ⟨(gc _ (dl.bring 1).lt1),?_⟩
   obtain ⟨gd,h⟩:=h
   refine c4n (s:=ap) (xs:=j) (dn.bring 6) ce (gb.srcO ((dn.bring 6).bring 1)) gd fun ge gf ir gg gh it=>?_
   refine o5 T5 ?_
   refine A9 ((gh.bring 1).drop.bring 2) Tryz.sizeOf23 fun iu gi iv=>?_
   exact hn5 _ _ _ (hm5 _ _ h).2 ⟨((j++[dm]),q,ga,r,t,u),fy,ge,gf,aq,ar,rfl,rfl,gg,cf,(((((((gi.bring 6).bring 2).bring 6).bring 6).bring 6).bring 6).bring 6),(hm5 _ _ h).1⟩
  ·exact hx1 _ _ (hj1 i j q r t u ap bg aq ar cg _ ce cf (((((((bk.bring 6).bring 6).bring 6).bring 6).bring 6).bring 6).bring 6) h)
def a1E(a:f8)(b:f8)(H:Hp)(K:Bool→Hp→Prop):Prop:=
 K true H
def a5i(b:f8)(a:f8)(Y6:Int)(H:Hp)(n3:Int→Hp→Prop)(K:Bool→Hp→Prop):Prop:=
 (Y6 < (a.B0.n:Int)→
 (0:Int)≤Y6∧(Y6:Int) < a.B0.n∧∃c:f8,EltH H a.B0 Y6 4 (i7 c)∧
 (0:Int)≤Y6∧(Y6:Int) < b.B0.n∧∃d:f8,EltH H b.B0 Y6 4 (i7 d)∧
 a0x c d H (fun e f=>
 ((!e)=true→
 K false f)∧
 ((!e)=false→
 n3 (IntKind.wrap .i64 (Y6+1)) f)))∧
 (¬(Y6 < (a.B0.n:Int))→
 a1E b a H K)
def a1F(a:f8)(b:f8)(H:Hp)(K:Bool→Hp→Prop):Prop:=
 TL (0:Int) H fun(s:Int) H n3=>a5i a b s H n3 K
def a5j(b:f8)(a:f8)(a0R:Int)(H:Hp)(n4:Int→Hp→Prop)(K:Bool→Hp→Prop):Prop:=
 (a0R < (a.o4.n:Int)→
 (0:Int)≤a0R∧(a0R:Int) < a.o4.n∧∃c:d9,EltH H a.o4 a0R 4 (g7 c)∧
 (0:Int)≤a0R∧(a0R:Int) < b.o4.n∧∃d:d9,EltH H b.o4 a0R 4 (g7 d)∧
 V8 c d H (fun e f=>
 ((!e)=true→
 K false f)∧
 ((!e)=false→
 n4 (IntKind.wrap .i64 (a0R+1)) f)))∧
 (¬(a0R < (a.o4.n:Int))→
 a1F b a H K)
def a6z(x0:f8)(x1:f8)(H:Hp)(K:Bool→Hp→Prop):Prop:=
 (((((!decide (x0.d8=x1.d8))||(!decide (x0.fOp=x1.fOp)))||(!decide ((x0.o4.n:Int)=(x1.o4.n:Int))))||(!decide ((x0.B0.n:Int)=(x1.B0.n:Int))))=true→
 K false H)∧
 (((((!decide (x0.d8=x1.d8))||(!decide (x0.fOp=x1.fOp)))||(!decide ((x0.o4.n:Int)=(x1.o4.n:Int))))||(!decide ((x0.B0.n:Int)=(x1.B0.n:Int))))=false→
 TL (0:Int) H fun(s:Int) H n4=>a5j x1 x0 s H n4 K)
theorem b0W(x0 x1){H K}(h:a6z x0 x1 H K):a0x x0 x1 H K:=by
 refine Ct.of fun w0 w ps0 H0 R E I hR=>d2d ?_
 refine Q1 I (cs:=(i7 x0)) rfl fun c al q am=>?_
 refine Q1 q (cs:=(i7 x1)) rfl fun d an b ao=>?_
 refine a7 a8i (c8 (l1 Tryz.isAgg3 (b.bring 1) rfl) (a7 a8i (c8 (l1 Tryz.isAgg3 b rfl) (a7 pNe ?_))))
 refine a7 (Pu.g fun a=>by with_reducible exact a5A) ?_
 refine c8 (Ld.g fun a=>by simp only [g9 a];exact (l1 Tryz.isAgg3 (b.bring 1) rfl)) ?_
 refine a7 (Pu.g fun a=>by with_reducible exact a5A) ?_
 refine c8 (Ld.g fun a=>by simp only [g9 a];exact (l1 Tryz.isAgg3 b rfl)) ?_
 refine a7 (Pu.g fun a=>by simp only [g9 a];with_reducible exact pNe) ?_
 refine a7 (y8 _ _) ?_
 refine a7 (Pu.g fun a=>by with_reducible exact a0X) ?_
 refine c8 (Ld.g fun a=>by simp only [g9 a];exact (l1 Tryz.isAgg38 (b.bring 1) rfl)) ?_
 refine a7 (Pu.g fun a=>by simp only [g9 a];with_reducible exact (O4 _ _ _)) ?_
 refine a7 (Pu.g fun a=>by with_reducible exact a0X) ?_
 refine c8 (Ld.g fun a=>by simp only [g9 a];exact (l1 Tryz.isAgg38 b rfl)) ?_
 refine a7 (Pu.g fun a=>by simp only [g9 a];with_reducible exact (O4 _ _ _)) ?_
 refine a7 (Pu.g fun a=>by simp only [g9 a];with_reducible exact pNe) ?_
 refine a7 (y8 _ _) ?_
 refine a7 (Pu.g fun a=>by with_reducible exact a0W) ?_
 refine c8 (Ld.g fun a=>by simp only [g9 a];exact (l1 Tryz.isAgg47 (b.bring 1) rfl)) ?_
 refine a7 (Pu.g fun a=>by simp only [g9 a];with_reducible exact (a0r _ _ _)) ?_
 refine a7 (Pu.g fun a=>by with_reducible exact a0W) ?_
 refine c8 (Ld.g fun a=>by simp only [g9 a];exact (l1 Tryz.isAgg47 b rfl)) ?_
 refine a7 (Pu.g fun a=>by simp only [g9 a];with_reducible exact (a0r _ _ _)) ?_
 refine a7 (Pu.g fun a=>by simp only [g9 a];with_reducible exact pNe) ?_
 refine a7 (y8 _ _) ?_
 refine l9 h (fun _ h=>?_) (fun _ h=>?_)
 ·exact hR _ H _ _ b.drop.drop ⟨_,rfl,rfl,h⟩
 ·have hj1:∀H w (_:Inv w0 ps0 H0 H [bx d 49 (i7 x1),bx c 49 (i7 x0)] w) (_:a1F x1 x0 H K),c4B (Value.pointer (some ⟨c,0,none⟩)) (Value.pointer (some ⟨d,0,none⟩)) w R E:=by
   intro H w I h
   intro _
   have hj2:∀H w (_:Inv w0 ps0 H0 H [bx d 49 (i7 x1),bx c 49 (i7 x0)] w) (_:a1E x1 x0 H K),c4A w R E:=by
    intro H w I h
    intro _
    exact hR _ H _ _ I.drop.drop ⟨_,rfl,rfl,h⟩
   refine p7 fun j2 hx2=>?_
   refine A4 (σ:=Int) (fun Y6=>[(vi Y6)]) (fun Y6=>[bx d 49 (i7 x1),bx c 49 (i7 x0)]) h rfl ((I.bring 1).bring 1) ?_
   rintro Y6 H ap w next3 n3 m I h hn3
   simp only [List.map_cons,List.map_nil,List.cons.injEq,and_true] at m
   have e6:=m
   simp only [e6]
   refine a7 a0W (c8 (l1 Tryz.isAgg47 (I.bring 1) rfl) (a7 (a0r _ _ _) (a7 pLs ?_)))
   refine m0 h (fun _ h=>?_) (fun _ h=>?_)
   ·refine O6 I fun aq e=>?_
    refine o5 a0W ?_
    refine o5 a0W ?_
    refine u1 (l1 Tryz.isAgg47 (e.bring 1) rfl) ?_
    obtain ⟨r,s,t,i,h⟩:=h
    obtain ⟨ar,au,u,i⟩:=i
    refine o5 (a6R u _ _ _ _ r s) ?_
    refine u1 (ldA (vs:=(i7 t)) Tryz.isAgg49 Tryz.sizeOf49 rfl (e.atH i)) ?_
    refine u1 (l1 Tryz.isAgg47 e rfl) ?_
    obtain ⟨v,y,z,j,h⟩:=h
    obtain ⟨av,aw,aa,j⟩:=j
    refine o5 (a6R aa _ _ _ _ v y) ?_
    refine u1 (ldA (vs:=(i7 z)) Tryz.isAgg49 Tryz.sizeOf49 rfl (e.atH j)) ?_
    refine f9 Tryz.call18 h e ?_
    rintro _ ab _ ax n _ _ ⟨ay,rfl,rfl,h⟩
    refine o5 (E1 _) ?_
    refine l9 h (fun _ h=>?_) (fun _ h=>?_)
    ·exact hR _ ab _ _ n.drop.drop ⟨_,rfl,rfl,h⟩
    ·refine a7 pAd ?_
     exact hn3 (IntKind.wrap .i64 (Y6+1)) _ _ h ((n.bring 1).bring 1)
   ·exact hx2 _ _ (hj2 H _ ((I.bring 1).bring 1) h)
  refine p7 fun j1 hx1=>?_
  refine A4 (σ:=Int) (fun a0R=>[(vi a0R)]) (fun a0R=>[bx d 49 (i7 x1),bx c 49 (i7 x0)]) h rfl ((b.bring 1).bring 1) ?_
  rintro a0R H az w next4 n4 o I h hn4
  simp only [List.map_cons,List.map_nil,List.cons.injEq,and_true] at o
  have e5:=o
  simp only [e5]
  refine a7 a0X (c8 (l1 Tryz.isAgg38 (I.bring 1) rfl) (a7 (O4 _ _ _) (a7 pLs ?_)))
  refine m0 h (fun _ h=>?_) (fun _ h=>?_)
  ·refine O6 I fun ba f=>?_
   refine o5 a0X ?_
   refine o5 a0X ?_
   refine u1 (l1 Tryz.isAgg38 (f.bring 1) rfl) ?_
   obtain ⟨ac,ad,ae,k,h⟩:=h
   obtain ⟨bb,bc,af,k⟩:=k
   refine o5 (a1N af _ _ _ _ ac ad) ?_
   refine u1 (ldA (vs:=(g7 ae)) Tryz.isAgg40 Tryz.sizeOf40 rfl (f.atH k)) ?_
   refine u1 (l1 Tryz.isAgg38 f rfl) ?_
   obtain ⟨ag,ah,ai,l,h⟩:=h
   obtain ⟨bd,be,aj,l⟩:=l
   refine o5 (a1N aj _ _ _ _ ag ah) ?_
   refine u1 (ldA (vs:=(g7 ai)) Tryz.isAgg40 Tryz.sizeOf40 rfl (f.atH l)) ?_
   refine f9 Tryz.call15 h f ?_
   rintro _ ak _ bf p _ _ ⟨bg,rfl,rfl,h⟩
   refine o5 (E1 _) ?_
   refine l9 h (fun _ h=>?_) (fun _ h=>?_)
   ·exact hR _ ak _ _ p.drop.drop ⟨_,rfl,rfl,h⟩
   ·refine a7 pAd ?_
    exact hn4 (IntKind.wrap .i64 (a0R+1)) _ _ h ((p.bring 1).bring 1)
  ·exact hx1 _ _ (hj1 H _ ((I.bring 1).bring 1) h)
def b0h(x0:ByteArray)(H:Hp)(K:Bool→Hp→Prop):Prop:=
 a3L H (fun f g=>
 ((!f)=true→
 K false g)∧
 ((!f)=false→
 a1O x0 g (fun d a i j=>
 a3O x0 j (fun k b c e=>
 (((!decide (i=c))||(!decide (a.B9=b.B9∧a.K8=b.K8)))=true→
 K false e)∧
 (((!decide (i=c))||(!decide (a.B9=b.B9∧a.K8=b.K8)))=false→
 (¬(c=0)→
 K ((decide ((d.N3.n:Int)=0))&&(decide ((d.a0L.n:Int)=0))) e)∧
 (c=0→
 a3P d k e (fun l m=>
 K l m)))))))
theorem b0i(x0){H K}(h:b0h x0 H K):a1Q x0 H K:=by
 refine Ct.of fun w0 w ps0 H0 R E I hR=>d5p ?_
 refine f9 Tryz.call8 h I ?_
 rintro _ f _ ac d _ _ ⟨ad,rfl,rfl,h⟩
 refine a7 (E1 _) ?_
 refine l9 h (fun _ h=>?_) (fun _ h=>?_)
 ·exact hR _ f _ _ d ⟨_,rfl,rfl,h⟩
 ·refine f9 Tryz.call9 h d ?_
  rintro _ _ _ ae i _ _ ⟨c,j,k,rfl,rfl,h⟩
  refine a7 (m5 _ _ _ rfl) (a7 (m5 _ _ _ rfl) (a7 (m5 _ _ (vi k) rfl) ?_))
  refine o7 i Tryz.zeroValue26 (cs:=[(nS),(nS)]) rfl fun af ag l ah=>?_
  refine o7 l Tryz.zeroValue28 (cs:=[(vi 0),(vi 0)]) rfl fun ai aj m ak=>?_
  refine o9 (m.bring 1) Tryz.sizeOf26 (vs:=(p5 c)) fun al o am=>?_
  refine o9 (o.bring 1) Tryz.sizeOf28 (vs:=(l7 j)) fun an p ao=>?_
  refine f9 Tryz.call10 h p ?_
  rintro _ e _ ap q _ _ ⟨r,s,t,rfl,rfl,h⟩
  refine a7 (m5 _ _ _ rfl) (a7 (m5 _ _ _ rfl) (a7 (m5 _ _ (vi t) rfl) ?_))
  refine o7 q Tryz.zeroValue26 (cs:=[(nS),(nS)]) rfl fun aq ar u au=>?_
  refine o7 u Tryz.zeroValue28 (cs:=[(vi 0),(vi 0)]) rfl fun av aw v ax=>?_
  refine o9 (v.bring 1) Tryz.sizeOf26 (vs:=(p5 r)) fun ay y az=>?_
  refine o9 (y.bring 1) Tryz.sizeOf28 (vs:=(l7 s)) fun ba b bb=>?_
  refine a7 pNe ?_
  refine c8 (Ld.g fun a=>by exact (lW Tryz.isAgg28 Tryz.sizeOf28 rfl (b.bring 2))) ?_
  refine c8 (Ld.g fun a=>by exact (lW Tryz.isAgg28 Tryz.sizeOf28 rfl b)) ?_
  refine a7 (Pu.g fun a=>by simp only [g9 a];with_reducible exact (c6R _ _ _ _ _ _)) ?_
  refine a7 (y8 _ _) ?_
  refine l9 h (fun _ h=>?_) (fun _ h=>?_)
  ·exact hR _ e _ _ b.drop.drop.drop.drop ⟨_,rfl,rfl,h⟩
  ·refine a7 pNe ?_
   refine Z9 h (fun _ h=>?_) (fun _ h=>?_)
   ·refine a7 T5 (c8 (l1 Tryz.isAgg23 (b.bring 3) rfl) (a7 (a6G _ _ _) (a7 pEq ?_)))
    refine a7 (Pu.g fun a=>by with_reducible exact X8) ?_
    refine c8 (Ld.g fun a=>by simp only [g9 a];exact (l1 Tryz.isAgg24 (b.bring 3) rfl)) ?_
    refine a7 (Pu.g fun a=>by simp only [g9 a];with_reducible exact (X1 _ _ _)) ?_
    refine a7 (Pu.g fun a=>by simp only [g9 a];with_reducible exact pEq) ?_
    refine a7 (s6 _ _) ?_
    exact hR _ e _ _ b.drop.drop.drop.drop ⟨_,rfl,rfl,h⟩
   ·refine c8 (lW Tryz.isAgg26 Tryz.sizeOf26 rfl (b.bring 3)) (c8 (lW Tryz.isAgg26 Tryz.sizeOf26 rfl (b.bring 1)) ?_)
    refine f9 Tryz.call11 h b ?_
    rintro _ z _ bc aa _ _ ⟨ab,rfl,rfl,h⟩
    exact hR _ z _ _ aa.drop.drop.drop.drop ⟨ab,rfl,rfl,h⟩
def b4s(x0:Int)(x1:Int)(x2:Int)(H:Hp)(K:Bool→Hp→Prop):Prop:=
 K ((decide (x0≤x2))&&(decide (x2≤x1))) H
theorem b4t(x0 x1 x2){H K}(h:b4s x0 x1 x2 H K):O7 x0 x1 x2 H K:=by
 intro g2
 refine Ct.of fun w0 w ps0 H0 R E I hR=>d0d ?_
 refine c8 (l1 Tryz.isAgg21 I rfl) (a7 pLe ?_)
 refine c8 (Ld.g fun a=>by exact (l1 Tryz.isAgg21 I rfl)) ?_
 simp only [p8]
 refine a7 (Pu.g fun a=>by simp only [g9 a];with_reducible exact pLe) ?_
 refine a7 (s6 _ _) ?_
 exact hR _ H _ _ I ⟨_,rfl,rfl,h⟩
def u7(y5:Bool)(H:Hp)(K:Bool→Hp→Prop):Prop:=
 (y5=true→
 K true H)∧
 (y5=false→
 K false H)
def b2k(x0:ByteArray)(H:Hp)(K:Bool→Hp→Prop):Prop:=
 (x0=⟨#[118,97,114]⟩→
 u7 (decide (x0=⟨#[118,97,114]⟩)) H K)∧
 (¬(x0=⟨#[118,97,114]⟩)→
 (x0=⟨#[97,114,114,97,121]⟩→
 u7 (decide (x0=⟨#[97,114,114,97,121]⟩)) H K)∧
 (¬(x0=⟨#[97,114,114,97,121]⟩)→
 (x0=⟨#[105,102]⟩→
 u7 (decide (x0=⟨#[105,102]⟩)) H K)∧
 (¬(x0=⟨#[105,102]⟩)→
 (x0=⟨#[101,108,115,101]⟩→
 u7 (decide (x0=⟨#[101,108,115,101]⟩)) H K)∧
 (¬(x0=⟨#[101,108,115,101]⟩)→
 (x0=⟨#[119,104,105,108,101]⟩→
 u7 (decide (x0=⟨#[119,104,105,108,101]⟩)) H K)∧
 (¬(x0=⟨#[119,104,105,108,101]⟩)→
 (x0=⟨#[97,115,115,101,114,116]⟩→
 u7 (decide (x0=⟨#[97,115,115,101,114,116]⟩)) H K)∧
 (¬(x0=⟨#[97,115,115,101,114,116]⟩)→
 (x0=⟨#[97,115,115,117,109,101]⟩→
 u7 (decide (x0=⟨#[97,115,115,117,109,101]⟩)) H K)∧
 (¬(x0=⟨#[97,115,115,117,109,101]⟩)→
 (x0=⟨#[115,107,105,112]⟩→
 u7 (decide (x0=⟨#[115,107,105,112]⟩)) H K)∧
 (¬(x0=⟨#[115,107,105,112]⟩)→
 (x0=⟨#[105,110,112,117,116]⟩→
 u7 (decide (x0=⟨#[105,110,112,117,116]⟩)) H K)∧
 (¬(x0=⟨#[105,110,112,117,116]⟩)→
 (x0=⟨#[116,114,117,101]⟩→
 u7 (decide (x0=⟨#[116,114,117,101]⟩)) H K)∧
 (¬(x0=⟨#[116,114,117,101]⟩)→
 u7 (decide (x0=⟨#[102,97,108,115,101]⟩)) H K))))))))))
theorem b6O(x0){H K}(h:b2k x0 H K):a6m x0 H K:=by
 refine Ct.of fun w0 w ps0 H0 R E I hR=>d0h ?_
 have hj1:∀(y5:Bool) H w (_:Inv w0 ps0 H0 H [] w) (_:u7 y5 H K),c2q (vB y5) w R E:=by
  intro y5 H w I h
  intro _
  refine l9 h (fun _ h=>?_) (fun _ h=>?_)
  ·exact hR _ H _ _ I ⟨_,rfl,rfl,h⟩
  ·exact hR _ H _ _ I ⟨_,rfl,rfl,h⟩
 refine p7 fun j1 hx1=>?_
 refine a7 (G1 _ _ _ _ _) ?_
 refine m0 h (fun _ h=>?_) (fun _ h=>?_)
 ·exact hx1 _ _ (hj1 (decide (x0=⟨#[118,97,114]⟩)) H _ I h)
 ·refine a7 (G1 _ _ _ _ _) ?_
  refine m0 h (fun _ h=>?_) (fun _ h=>?_)
  ·exact hx1 _ _ (hj1 (decide (x0=⟨#[97,114,114,97,121]⟩)) H _ I h)
  ·refine a7 (G1 _ _ _ _ _) ?_
   refine m0 h (fun _ h=>?_) (fun _ h=>?_)
   ·exact hx1 _ _ (hj1 (decide (x0=⟨#[105,102]⟩)) H _ I h)
   ·refine a7 (G1 _ _ _ _ _) ?_
    refine m0 h (fun _ h=>?_) (fun _ h=>?_)
    ·exact hx1 _ _ (hj1 (decide (x0=⟨#[101,108,115,101]⟩)) H _ I h)
    ·refine a7 (G1 _ _ _ _ _) ?_
     refine m0 h (fun _ h=>?_) (fun _ h=>?_)
     ·exact hx1 _ _ (hj1 (decide (x0=⟨#[119,104,105,108,101]⟩)) H _ I h)
     ·refine a7 (G1 _ _ _ _ _) ?_
      refine m0 h (fun _ h=>?_) (fun _ h=>?_)
      ·exact hx1 _ _ (hj1 (decide (x0=⟨#[97,115,115,101,114,116]⟩)) H _ I h)
      ·refine a7 (G1 _ _ _ _ _) ?_
       refine m0 h (fun _ h=>?_) (fun _ h=>?_)
       ·exact hx1 _ _ (hj1 (decide (x0=⟨#[97,115,115,117,109,101]⟩)) H _ I h)
       ·refine a7 (G1 _ _ _ _ _) ?_
        refine m0 h (fun _ h=>?_) (fun _ h=>?_)
        ·exact hx1 _ _ (hj1 (decide (x0=⟨#[115,107,105,112]⟩)) H _ I h)
        ·refine a7 (G1 _ _ _ _ _) ?_
         refine m0 h (fun _ h=>?_) (fun _ h=>?_)
         ·exact hx1 _ _ (hj1 (decide (x0=⟨#[105,110,112,117,116]⟩)) H _ I h)
         ·refine a7 (G1 _ _ _ _ _) ?_
          refine m0 h (fun _ h=>?_) (fun _ h=>?_)
          ·exact hx1 _ _ (hj1 (decide (x0=⟨#[116,114,117,101]⟩)) H _ I h)
          ·refine a7 (G1 _ _ _ _ _) ?_
           exact hx1 _ _ (hj1 (decide (x0=⟨#[102,97,108,115,101]⟩)) H _ I h)
def a5k(x0:(List ByteArray))(x1:ByteArray)(H:Hp)(K:Bool→Hp→Prop):Prop:=
 a2z x0 x1 H (fun a b=>
 K (decide (0≤a)) b)
theorem a9I(x0 x1){H K}(h:a5k x0 x1 H K):Z4 x0 x1 H K:=by
 intro sx0 Fx0 hx0
 refine Ct.of fun w0 w ps0 H0 R E I hR=>c9Z ?_
 refine f9 Tryz.call161 (h sx0 Fx0 hx0) I ?_
 rintro _ a _ d b _ _ ⟨c,rfl,rfl,h⟩
 refine a7 pGe ?_
 exact hR _ a _ _ b ⟨_,rfl,rfl,h⟩
def M1(y2:Int)(y3:Int)(A0:Int)(b2G:Bool)(b2H:Bool)(b0X:(List ByteArray))(H:Hp)(K:Bool→q9→(List ByteArray)→Hp→Prop):Prop:=
 K true (q9.mk y2 y3 A0 b2G b2H (Sl.mk none 0 0)) b0X H
def a7l(x0:q9)(a:(List ByteArray))(x1:k7)(x2:Int)(H:Hp)(K:Bool→q9→(List ByteArray)→Hp→Prop):Prop:=
 (4096 < (IntKind.wrap .i64 (x0.fnodes+1))→
 K false (q9.mk (IntKind.wrap .i64 (x0.fnodes+1)) x0.fdepth 33 x0.fform x0.fnamed (Sl.mk none 0 0)) a H)∧
 (¬(4096 < (IntKind.wrap .i64 (x0.fnodes+1)))→
 (64 < x2→
 K false (q9.mk (IntKind.wrap .i64 (x0.fnodes+1)) x0.fdepth 32 x0.fform x0.fnamed (Sl.mk none 0 0)) a H)∧
 (¬(64 < x2)→
 TG (x0.fform=false) (a6U x1 H) false H (fun(c:Bool)(j:Hp)=>
 a2Z x1 j (fun b e d=>
 (e=true→
 TG (x0.fnamed=false) (a6n b d) false d (fun(f:Bool)(k:Hp)=>
 Z4 a b k (fun g i=>
 ((!g)=true→
 (a.length+([b]:List ByteArray).length)*17≤140737488355328∧
 M1 (IntKind.wrap .i64 (x0.fnodes+1)) (if x2 > x0.fdepth then x2 else x0.fdepth) x0.fe (x0.fform||(!c)) (x0.fnamed||(!f)) (a++[b]) i K)∧
 ((!g)=false→
 M1 (IntKind.wrap .i64 (x0.fnodes+1)) (if x2 > x0.fdepth then x2 else x0.fdepth) x0.fe (x0.fform||(!c)) (x0.fnamed||(!f)) a i K))))∧
 (e=false→
 M1 (IntKind.wrap .i64 (x0.fnodes+1)) (if x2 > x0.fdepth then x2 else x0.fdepth) x0.fe (x0.fform||(!c)) x0.fnamed a d K)))))
theorem b1X(x0 b x1 x2){H K}(h:a7l x0 b x1 x2 H K):a3p x0 b x1 x2 H K:=by
 intro g0 k l m
 refine Ct.of fun w0 w ps0 H0 R E I hR=>c9y ?_
 refine a7 (o3 _) (a7 b4K (c8 (l1 Tryz.isAgg3 I rfl) (a7 pAd (a7 (o3 _) ?_))))
 refine a7 b4K ?_
 refine A9 I Tryz.sizeOf3 fun ba p bb=>?_
 refine a7 (o3 _) (a7 b4K (c8 (l1 Tryz.isAgg3 p rfl) (a7 pGt ?_)))
 refine m0 h (fun _ h=>?_) (fun _ h=>?_)
 ·refine a7 (o3 _) (a7 a9T ?_)
  refine A9 p Tryz.sizeOf29 fun bc an bd=>?_
  exact hR _ H _ _ ((an.bring 1).bring 1) ⟨false,(q9.mk (IntKind.wrap .i64 (x0.fnodes+1)) x0.fdepth 33 x0.fform x0.fnamed (Sl.mk none 0 0)),b,k,l,rfl,rfl,m,h⟩
 ·refine a7 pGt ?_
  refine m0 h (fun _ h=>?_) (fun _ h=>?_)
  ·refine a7 (o3 _) (a7 a9T ?_)
   refine A9 p Tryz.sizeOf29 fun be ao bf=>?_
   exact hR _ H _ _ ((ao.bring 1).bring 1) ⟨false,(q9.mk (IntKind.wrap .i64 (x0.fnodes+1)) x0.fdepth 32 x0.fform x0.fnamed (Sl.mk none 0 0)),b,k,l,rfl,rfl,m,h⟩
  ·refine a7 (o3 _) (a7 b7D (c8 (l1 Tryz.isAgg3 p rfl) (a7 (c4l _ _ _ _ _) (a7 (o3 _) ?_))))
   refine a7 b7D ?_
   refine A9 p Tryz.sizeOf3 fun ae z bg=>?_
   refine a7 (o3 _) (a7 b4L (c8 (l1 Tryz.isAgg4 z rfl) ?_))
   simp only [p8]
   refine b5E (D:=fun af t=>∃(d:Bool)(n:Hp),af=(gv x0.fform false (vB d))∧(Inv w0 ps0 H0 n [bx g0 79 [(vi (IntKind.wrap .i64 (x0.fnodes+1))),(vi (if x2 > x0.fdepth then x2 else x0.fdepth)),(vi x0.fe),(vB x0.fform),(vB x0.fnamed),(vs k)],l] t)∧(∀i,i < ae.heap.size→¬inF [] i→t.heap[i]? = ae.heap[i]?)∧Hle H n∧(a2Z x1 n (fun(j:ByteArray)(u:Bool)(q:Hp)=>
 (u=true→
 TG (x0.fnamed=false) (a6n j q) false q (fun(f:Bool)(v:Hp)=>
 Z4 b j v (fun(aa:Bool)(r:Hp)=>
 ((!aa)=true→
 (b.length+([j]:List ByteArray).length)*17≤140737488355328∧
 M1 (IntKind.wrap .i64 (x0.fnodes+1)) (if x2 > x0.fdepth then x2 else x0.fdepth) x0.fe (x0.fform||(!d)) (x0.fnamed||(!f)) (b++[j]) r K)∧
 ((!aa)=false→
 M1 (IntKind.wrap .i64 (x0.fnodes+1)) (if x2 > x0.fdepth then x2 else x0.fdepth) x0.fe (x0.fform||(!d)) (x0.fnamed||(!f)) b r K))))∧
 (u=false→
 M1 (IntKind.wrap .i64 (x0.fnodes+1)) (if x2 > x0.fdepth then x2 else x0.fdepth) x0.fe (x0.fform||(!d)) x0.fnamed b q K)))) (fun o=>?_) (fun o=>?_) ?_
   ·replace h:=h.1 o
    have a:=o
    simp only [g9 a]
    refine b4r z h (fun d n t ab ag ah h=>?_)
    exact ⟨d,n,by rfl,ab,ah,ag,h⟩
   ·exact ⟨false,H,by rw [b8j o],z,fun _ _ _=>rfl,Hle.refl _,h.2 o⟩
   ·clear h
    rintro af t ⟨d,n,rfl,ab,ah,ag,h⟩
    refine a7 (Pu.g fun a=>by simp only [g9 a];with_reducible exact (E1 _)) ?_
    refine a7 (y8 _ _) (a7 (o3 _) (a7 b4L ?_))
    refine A9 ab Tryz.sizeOf4 fun bh ap bi=>?_
    have hj1:∀(y2:Int)(y3:Int)(A0:Int)(b2G:Bool)(b2H:Bool)(b0X:(List ByteArray))(b4V:Sl)(b4W:Frag) H w (_:RowL 9 1 M9 b4V b0X b4W) (_:Inv w0 ps0 H0 H [bx g0 79 [(vi y2),(vi y3),(vi A0),(vB b2G),(vB b2H),(vs b4V)],b4W] w) (_:M1 y2 y3 A0 b2G b2H b0X H K),c2a w R E:=by
     intro y2 y3 A0 b2G b2H b0X b4V b4W H w c7a I h
     intro _
     exact hR _ H _ _ ((I.bring 1).bring 1) ⟨true,(q9.mk y2 y3 A0 b2G b2H (Sl.mk none 0 0)),b0X,b4V,b4W,rfl,rfl,c7a,h⟩
    refine p7 fun j1 hx1=>?_
    refine f9 Tryz.call143 h ap ?_
    rintro _ q _ bj y _ _ ⟨j,u,rfl,rfl,h⟩
    refine a7 (m5 _ _ (Value.string j) rfl) (a7 (m5 _ _ (vB u) rfl) ?_)
    refine l9 h (fun _ h=>?_) (fun _ h=>?_)
    ·refine a7 (o3 _) (a7 b4M (c8 (l1 Tryz.isAgg4 y rfl) ?_))
     simp only [p8]
     refine C5 [] (fun f:Bool=>(vB f)) h y (fun a h=>by simp only [g9 a];exact D5 Tryz.call144 h y) fun f v aq ac aj ak h=>?_
     refine a7 (Pu.g fun a=>by simp only [g9 a];with_reducible exact (E1 _)) ?_
     refine a7 (y8 _ _) (a7 (o3 _) (a7 b4M ?_))
     refine A9 ac Tryz.sizeOf4 fun bk al bl=>?_
     refine a7 (o3 _) (a7 b4N (c8 (l1 Tryz.isAgg77 al rfl) ?_))
     refine f9 Tryz.call145 (h k l m) (al.bring 1) ?_
     rintro _ r _ bm ad _ _ ⟨aa,rfl,rfl,h⟩
     refine a7 (E1 _) ?_
     refine l9 h (fun _ h=>?_) (fun _ h=>?_)
     ·refine a7 (o3 _) (a7 b4N (c8 (l1 Tryz.isAgg77 (ad.bring 1) rfl) ?_))
      refine Q9 (e:=9) (c:=M9) (xs:=[j]) ad (c8R _) rfl rfl b1q b1r (nb rfl) fun bn bo bp ar am bq=>?_
      obtain ⟨au,h⟩:=h
      refine d1S (s:=k) (xs:=b) (am.bring 1) m (ar.srcO ((am.bring 1).bring 1)) au fun av aw br ax ay bs=>?_
      refine a7 (o3 _) (a7 b4N ?_)
      refine A9 ((ay.bring 1).drop.bring 1) Tryz.sizeOf77 fun bt az bu=>?_
      exact hx1 _ _ (hj1 (IntKind.wrap .i64 (x0.fnodes+1)) (if x2 > x0.fdepth then x2 else x0.fdepth) x0.fe (x0.fform||(!d)) (x0.fnamed||(!f)) (b++[j]) av aw r _ ax ((az.bring 1).bring 1) h)
     ·exact hx1 _ _ (hj1 (IntKind.wrap .i64 (x0.fnodes+1)) (if x2 > x0.fdepth then x2 else x0.fdepth) x0.fe (x0.fform||(!d)) (x0.fnamed||(!f)) b k l r _ m (ad.bring 1) h)
    ·exact hx1 _ _ (hj1 (IntKind.wrap .i64 (x0.fnodes+1)) (if x2 > x0.fdepth then x2 else x0.fdepth) x0.fe (x0.fform||(!d)) x0.fnamed b k l q _ m ((y.bring 1).bring 1) h)
def a1V [PanQ] (V1:Int) (p1:b7) (H:Hp) (K:Hp→Prop):Prop:=
 (40 < V1→
 C0 p1 H (fun a b=>
 PanQ.q (Value.iface 98 (Value.agg #[(vi a.fAt.B9),(vi a.fAt.K8),(vi 41)]))))∧
 (¬(40 < V1)→
 K H)
def b1E [PanQ] (x0:b7) (x1:Int) (x2:Bool) (H:Hp) (K:Hp→Prop):Prop:=
 ((!x2)=true→
 E6 x0 H (fun a=>
 a1V x1 x0 a K))∧
 ((!x2)=false→
 a1V x1 x0 H K)
theorem b1F [PanQ] (x0:b7) (x1:Int) (x2:Bool) {H:Hp} {K:Hp→Prop} (h:b1E x0 x1 x2 H K):D2 x0 x1 x2 H K:=by
 intro g0
 refine Ct.ofE fun w0 w ps0 H0 R E I hR hE=>d2J ?_
 have hj1:∀H w (_:Inv w0 ps0 H0 H [bx g0 101 (g8 x0)] w) (_:a1V x1 x0 H K),c4X (Value.pointer (some ⟨g0,0,none⟩)) (vi x1) w R E:=by
  intro H w I h
  intro _
  refine a7 pGt ?_
  refine m0 h (fun _ h=>?_) (fun _ h=>?_)
  ·refine f9 Tryz.call51 (h g0) I ?_
   rintro _ _ _ d a _ _ ⟨e,rfl,rfl,h⟩
   refine a7 b2Q (a7 (b5s _ _ _) (a7 (b6T _ _ _) ?_))
   exact b3F (hE _ _ _ _ a ⟨_,rfl,h⟩)
  ·exact hR _ H _ _ I ⟨rfl,rfl,h⟩
 refine p7 fun j1 hx1=>?_
 refine a7 (E1 _) ?_
 refine l9 h (fun _ h=>?_) (fun _ h=>?_)
 ·refine A7 hE Tryz.call52 (h g0) I ?_
  rintro _ b _ f c _ _ ⟨rfl,rfl,h⟩
  exact hx1 _ _ (hj1 b _ c h)
 ·exact hx1 _ _ (hj1 H _ I h)
def U8 [PanQ] (d:Int) (e:ByteArray) (f:Sl) (g:(List f8)) (i:Sl) (j:Sl) (Q4:b7) (k:b6) (l:b9) (H:Hp) (K:b9→b7→Hp→Prop):Prop:=
 ∀(a:Sl)(b:Hp),Hle H b→SlH b 4 i7 a g→a.n≤a.c→
 K (b9.mk d e f a i j) Q4 b
def M2 [PanQ] (f:Int) (g:ByteArray) (i:(List d9)) (j:(List f8)) (k:Sl) (l:Sl) (p1:b7) (p:b6) (q:b9) (H:Hp) (K:b9→b7→Hp→Prop):Prop:=
 C6 p1 ⟨#[59]⟩ H (fun m o=>
 ∀(a:Sl)(d:Hp),Hle o d→SlH d 4 g7 a i→a.n≤a.c→
 ∀(b:Sl)(e:Hp),Hle d e→SlH e 4 i7 b j→b.n≤b.c→
 K (b9.mk f g a b k l) m e)
def U9 [PanQ] (b1N:Int) (c:Int) (d:ByteArray) (a:(List d9)) (e:(List f8)) (f:Sl) (g:Sl) (G8:b7) (i:b6) (j:b9) (H:Hp) (K:b9→b7→Hp→Prop):Prop:=
 C6 G8 ⟨#[61]⟩ H (fun k l=>
 T2 k b1N l (fun b m n=>
 (a.length+([b]:List d9).length)*57≤140737488355328∧
 M2 c d (a++[b]) e f g m i j n K))
def a7m [PanQ] (x0:b7) (x1:Int) (H:Hp) (K:b9→b7→Hp→Prop):Prop:=
 T3 x0 H (fun a b d=>
 (a.d8=1→
 y4 b ⟨#[91]⟩ d (fun g i j=>
 (g=true→
 X3 i x1 ⟨#[93]⟩ j (fun k r s=>
 (([]:List d9).length+([k]:List d9).length)*57≤140737488355328∧
 U9 x1 2 a.C3 [k] [] (Sl.mk none 0 0) (Sl.mk none 0 0) r a (b9.mk 0 ⟨#[]⟩ (Sl.mk none 0 0) (Sl.mk none 0 0) (Sl.mk none 0 0) (Sl.mk none 0 0)) s K))∧
 (g=false→
 U9 x1 1 a.C3 [] [] (Sl.mk none 0 0) (Sl.mk none 0 0) i a (b9.mk 0 ⟨#[]⟩ (Sl.mk none 0 0) (Sl.mk none 0 0) (Sl.mk none 0 0) (Sl.mk none 0 0)) j K)))∧
 (¬(a.d8=1)→
 (a.C3=⟨#[105,102]⟩→
 P0 b x1 d (fun l t u=>
 X4 t x1 u (fun m v y=>
 y4 v ⟨#[101,108,115,101]⟩ y (fun o p q=>
 (o=true→
 X4 p x1 q (fun z aa ab=>
 U8 3 ⟨#[]⟩ (Sl.mk none 0 0) [l] m z aa a (b9.mk 0 ⟨#[]⟩ (Sl.mk none 0 0) (Sl.mk none 0 0) (Sl.mk none 0 0) (Sl.mk none 0 0)) ab K))∧
 (o=false→
 U8 3 ⟨#[]⟩ (Sl.mk none 0 0) [l] m (Sl.mk none 0 0) p a (b9.mk 0 ⟨#[]⟩ (Sl.mk none 0 0) (Sl.mk none 0 0) (Sl.mk none 0 0) (Sl.mk none 0 0)) q K)))))∧
 (¬(a.C3=⟨#[105,102]⟩)→
 (a.C3=⟨#[119,104,105,108,101]⟩→
 P0 b x1 d (fun ac ad ae=>
 X4 ad x1 ae (fun af ag ah=>
 ∀(e:Sl)(f:Hp),Hle ah f→SlH f 4 i7 e [ac]→e.n≤e.c→
 K (b9.mk 4 ⟨#[]⟩ (Sl.mk none 0 0) e af (Sl.mk none 0 0)) ag f)))∧
 (¬(a.C3=⟨#[119,104,105,108,101]⟩)→
 (a.C3=⟨#[97,115,115,101,114,116]⟩→
 P0 b x1 d (fun ai aj ak=>
 M2 5 ⟨#[]⟩ [] [ai] (Sl.mk none 0 0) (Sl.mk none 0 0) aj a (b9.mk 0 ⟨#[]⟩ (Sl.mk none 0 0) (Sl.mk none 0 0) (Sl.mk none 0 0) (Sl.mk none 0 0)) ak K))∧
 (¬(a.C3=⟨#[97,115,115,101,114,116]⟩)→
 (a.C3=⟨#[97,115,115,117,109,101]⟩→
 P0 b x1 d (fun al am an=>
 M2 6 ⟨#[]⟩ [] [al] (Sl.mk none 0 0) (Sl.mk none 0 0) am a (b9.mk 0 ⟨#[]⟩ (Sl.mk none 0 0) (Sl.mk none 0 0) (Sl.mk none 0 0) (Sl.mk none 0 0)) an K))∧
 (¬(a.C3=⟨#[97,115,115,117,109,101]⟩)→
 M2 7 ⟨#[]⟩ [] [] (Sl.mk none 0 0) (Sl.mk none 0 0) b a (b9.mk 0 ⟨#[]⟩ (Sl.mk none 0 0) (Sl.mk none 0 0) (Sl.mk none 0 0) (Sl.mk none 0 0)) d K))))))
theorem b1Y [PanQ] (x0:b7) (x1:Int) {H:Hp} {K:b9→b7→Hp→Prop} (h:a7m x0 x1 H K):Y2 x0 x1 H K:=by
 intro g0
 refine Ct.ofE fun w0 w ps0 H0 R E I hR hE=>d2L ?_
 refine o7 I Tryz.zeroValue56 (cs:=[(vi 0),(eS),(nS),(nS),(nS),(nS)]) rfl fun i fp br fq=>?_
 refine o7 br Tryz.zeroValue56 (cs:=[(vi 0),(eS),(nS),(nS),(nS),(nS)]) rfl fun j fs bs ft=>?_
 refine A7 hE Tryz.call104 (h g0) (bs.bring 2) ?_
 rintro _ bt _ fu bu _ _ ⟨d,bv,rfl,rfl,h⟩
 refine o7 bu Tryz.zeroValue103 (cs:=[(vi 0),(eS),(vi 0),(vi 0),(vi 0)]) rfl fun al fv bw fw=>?_
 refine o9 bw Tryz.sizeOf103 (vs:=(i8 d)) fun fx b fy=>?_
 have hj1:∀(k:Int)(l:ByteArray)(am:(List d9))(an:(List f8))(m:Sl)(p:Sl)(p1:b7)(f:Sl)(ao:Frag)(g:Sl)(ap:Frag) H w (_:RowL 40 4 g7 f am ao) (_:RowL 49 4 i7 g an ap) (_:Inv w0 ps0 H0 H [bx j 56 [(vi k),(Value.string l),(vs f),(vs g),(vs m),(vs p)],bx g0 101 (g8 p1),bx al 103 (i8 d),bx i 56 [(vi (b9.mk 0 ⟨#[]⟩ (Sl.mk none 0 0) (Sl.mk none 0 0) (Sl.mk none 0 0) (Sl.mk none 0 0)).d8),(Value.string (b9.mk 0 ⟨#[]⟩ (Sl.mk none 0 0) (Sl.mk none 0 0) (Sl.mk none 0 0) (Sl.mk none 0 0)).t7),(Value.slice (b9.mk 0 ⟨#[]⟩ (Sl.mk none 0 0) (Sl.mk none 0 0) (Sl.mk none 0 0) (Sl.mk none 0 0)).o4.a (b9.mk 0 ⟨#[]⟩ (Sl.mk none 0 0) (Sl.mk none 0 0) (Sl.mk none 0 0) (Sl.mk none 0 0)).o4.n (b9.mk 0 ⟨#[]⟩ (Sl.mk none 0 0) (Sl.mk none 0 0) (Sl.mk none 0 0) (Sl.mk none 0 0)).o4.c),(Value.slice (b9.mk 0 ⟨#[]⟩ (Sl.mk none 0 0) (Sl.mk none 0 0) (Sl.mk none 0 0) (Sl.mk none 0 0)).v8.a (b9.mk 0 ⟨#[]⟩ (Sl.mk none 0 0) (Sl.mk none 0 0) (Sl.mk none 0 0) (Sl.mk none 0 0)).v8.n (b9.mk 0 ⟨#[]⟩ (Sl.mk none 0 0) (Sl.mk none 0 0) (Sl.mk none 0 0) (Sl.mk none 0 0)).v8.c),(Value.slice (b9.mk 0 ⟨#[]⟩ (Sl.mk none 0 0) (Sl.mk none 0 0) (Sl.mk none 0 0) (Sl.mk none 0 0)).J5.a (b9.mk 0 ⟨#[]⟩ (Sl.mk none 0 0) (Sl.mk none 0 0) (Sl.mk none 0 0) (Sl.mk none 0 0)).J5.n (b9.mk 0 ⟨#[]⟩ (Sl.mk none 0 0) (Sl.mk none 0 0) (Sl.mk none 0 0) (Sl.mk none 0 0)).J5.c),(Value.slice (b9.mk 0 ⟨#[]⟩ (Sl.mk none 0 0) (Sl.mk none 0 0) (Sl.mk none 0 0) (Sl.mk none 0 0)).H7.a (b9.mk 0 ⟨#[]⟩ (Sl.mk none 0 0) (Sl.mk none 0 0) (Sl.mk none 0 0) (Sl.mk none 0 0)).H7.n (b9.mk 0 ⟨#[]⟩ (Sl.mk none 0 0) (Sl.mk none 0 0) (Sl.mk none 0 0) (Sl.mk none 0 0)).H7.c)],ao,ap] w) (_:M2 k l am an m p p1 d (b9.mk 0 ⟨#[]⟩ (Sl.mk none 0 0) (Sl.mk none 0 0) (Sl.mk none 0 0) (Sl.mk none 0 0)) H K),c4Y (Value.pointer (some ⟨g0,0,none⟩)) (Value.pointer (some ⟨i,0,none⟩)) (Value.pointer (some ⟨j,0,none⟩)) w R E:=by
  intro k l am an m p p1 f ao g ap H w bz ca I h
  intro _
  refine A7 hE Tryz.call103 (h g0) (I.bring 1) ?_
  rintro _ _ _ fz av _ _ ⟨cb,rfl,rfl,h⟩
  refine c8 (ldA Tryz.isAgg56 Tryz.sizeOf56 rfl ((av.bring 1).at1 (o:=0) (vs:=[(vi k),(Value.string l),(vs f),(vs g),(vs m),(vs p)]) (nb rfl) rfl)) ?_
  refine o9 (av.bring 3) Tryz.sizeOf56 (vs:=[(vi k),(Value.string l),(vs f),(vs g),(vs m),(vs p)]) fun ga aw gb=>?_
  refine q8 Tryz.isAgg56 Tryz.sizeOf56 rfl aw ?_
  obtain ⟨cc,cd,ce,cf,cg⟩:=Inv.freezeC (aw.bring 4) bz (by decide)
  replace h:=h f cc ce cf cg
  obtain ⟨ax,ch,ci,cj,ck⟩:=Inv.freezeC (cd.bring 4) ca (by decide)
  replace h:=h g ax ci cj ck
  exact hR _ ax _ _ ((ch.drop.bring 1).drop.bring 1).drop ⟨(b9.mk k l f g m p),cb,rfl,rfl,h⟩
 refine p7 fun j1 hx1=>?_
 refine a7 W6 (c8 (l1 Tryz.isAgg3 b rfl) (a7 pEq ?_))
 refine m0 h (fun _ h=>?_) (fun _ h=>?_)
 ·refine O6 b fun gc aq=>?_
  refine o5 Q7 ?_
  refine o5 Q2 ?_
  refine u1 (l1 Tryz.isAgg9 aq rfl) ?_
  refine A9 (aq.bring 2) Tryz.sizeOf3 fun gd cl cm=>?_
  refine ⟨(cm _ (Inv.c3p (aq.bring 2))),?_⟩
  refine o5 a5B ?_
  refine A9 cl Tryz.sizeOf9 fun ge cn gf=>?_
  have hj2:∀(aa:Int)(ab:ByteArray)(y:(List d9))(ac:(List f8))(ad:Sl)(ae:Sl)(G8:b7)(af:Sl)(ar:Frag)(ag:Sl)(ah:Frag) H w (_:RowL 40 4 g7 af y ar) (_:RowL 49 4 i7 ag ac ah) (_:Inv w0 ps0 H0 H [bx j 56 [(vi aa),(Value.string ab),(vs af),(vs ag),(vs ad),(vs ae)],bx g0 101 (g8 G8),bx al 103 (i8 d),bx i 56 [(vi (b9.mk 0 ⟨#[]⟩ (Sl.mk none 0 0) (Sl.mk none 0 0) (Sl.mk none 0 0) (Sl.mk none 0 0)).d8),(Value.string (b9.mk 0 ⟨#[]⟩ (Sl.mk none 0 0) (Sl.mk none 0 0) (Sl.mk none 0 0) (Sl.mk none 0 0)).t7),(Value.slice (b9.mk 0 ⟨#[]⟩ (Sl.mk none 0 0) (Sl.mk none 0 0) (Sl.mk none 0 0) (Sl.mk none 0 0)).o4.a (b9.mk 0 ⟨#[]⟩ (Sl.mk none 0 0) (Sl.mk none 0 0) (Sl.mk none 0 0) (Sl.mk none 0 0)).o4.n (b9.mk 0 ⟨#[]⟩ (Sl.mk none 0 0) (Sl.mk none 0 0) (Sl.mk none 0 0) (Sl.mk none 0 0)).o4.c),(Value.slice (b9.mk 0 ⟨#[]⟩ (Sl.mk none 0 0) (Sl.mk none 0 0) (Sl.mk none 0 0) (Sl.mk none 0 0)).v8.a (b9.mk 0 ⟨#[]⟩ (Sl.mk none 0 0) (Sl.mk none 0 0) (Sl.mk none 0 0) (Sl.mk none 0 0)).v8.n (b9.mk 0 ⟨#[]⟩ (Sl.mk none 0 0) (Sl.mk none 0 0) (Sl.mk none 0 0) (Sl.mk none 0 0)).v8.c),(Value.slice (b9.mk 0 ⟨#[]⟩ (Sl.mk none 0 0) (Sl.mk none 0 0) (Sl.mk none 0 0) (Sl.mk none 0 0)).J5.a (b9.mk 0 ⟨#[]⟩ (Sl.mk none 0 0) (Sl.mk none 0 0) (Sl.mk none 0 0) (Sl.mk none 0 0)).J5.n (b9.mk 0 ⟨#[]⟩ (Sl.mk none 0 0) (Sl.mk none 0 0) (Sl.mk none 0 0) (Sl.mk none 0 0)).J5.c),(Value.slice (b9.mk 0 ⟨#[]⟩ (Sl.mk none 0 0) (Sl.mk none 0 0) (Sl.mk none 0 0) (Sl.mk none 0 0)).H7.a (b9.mk 0 ⟨#[]⟩ (Sl.mk none 0 0) (Sl.mk none 0 0) (Sl.mk none 0 0) (Sl.mk none 0 0)).H7.n (b9.mk 0 ⟨#[]⟩ (Sl.mk none 0 0) (Sl.mk none 0 0) (Sl.mk none 0 0) (Sl.mk none 0 0)).H7.c)],ar,ah] w) (_:U9 x1 aa ab y ac ad ae G8 d (b9.mk 0 ⟨#[]⟩ (Sl.mk none 0 0) (Sl.mk none 0 0) (Sl.mk none 0 0) (Sl.mk none 0 0)) H K),c4Z (Value.pointer (some ⟨g0,0,none⟩)) (vi x1) (Value.pointer (some ⟨i,0,none⟩)) (Value.pointer (some ⟨j,0,none⟩)) w j1 R E:=by
   intro aa ab y ac ad ae G8 af ar ag ah H w co cp I h
   intro _
   refine A7 hE Tryz.call103 (h g0) (I.bring 1) ?_
   rintro _ _ _ gg cq _ _ ⟨cr,rfl,rfl,h⟩
   refine O6 cq fun gh ai=>?_
   refine o5 M7 ?_
   refine u1 (l1 Tryz.isAgg38 (ai.bring 1) rfl) ?_
   refine A7 hE Tryz.call35 (h g0) ai ?_
   rintro _ ct _ gi ay _ cu ⟨az,cv,rfl,rfl,h⟩
   refine ⟨(cu _ (ai.bring 1).lt1 (Inv.X0 (Fi:=[bx g0 101 (g8 cr)]) ((ai.bring 1).bring 1))),?_⟩
   refine Q9 (e:=40) (c:=g7) (xs:=[az]) ay (a9m _ _ _ _ _ _) rfl rfl F6 F7 (nb rfl) fun gj gk gl cw ba cx=>?_
   refine ⟨(cx _ (ay.bring 1).lt1),?_⟩
   obtain ⟨cy,h⟩:=h
   refine b7A (s:=af) (xs:=y) (ba.bring 5) co (cw.srcO ((ba.bring 5).bring 1)) cy fun cz da gm db dc gn=>?_
   refine o5 M7 ?_
   refine A9 ((dc.bring 1).drop.bring 2) Tryz.sizeOf38 fun go dd gp=>?_
   exact hx1 _ _ (hj1 aa ab (y++[az]) ac ad ae cv cz da ag ah ct _ db cp ((((((dd.bring 5).bring 2).bring 5).bring 5).bring 5).bring 5) h)
  refine p7 fun j2 hx2=>?_
  refine f9 Tryz.call105 (h g0) (cn.bring 2) ?_
  rintro _ de _ gq bb _ _ ⟨gr,bc,rfl,rfl,h⟩
  refine l9 h (fun _ h=>?_) (fun _ h=>?_)
  ·refine a7 Q2 ?_
   refine A9 (bb.bring 1) Tryz.sizeOf3 fun gs df gt=>?_
   refine O6 df fun gu aj=>?_
   refine o5 M7 ?_
   refine u1 (l1 Tryz.isAgg38 aj rfl) ?_
   refine A7 hE Tryz.call106 (h g0) (aj.bring 1) ?_
   rintro _ dg _ gv bd _ dh ⟨be,di,rfl,rfl,h⟩
   refine ⟨(dh _ aj.lt1 (Inv.X0 (Fi:=[bx g0 101 (g8 bc)]) (aj.bring 1))),?_⟩
   refine Q9 (e:=40) (c:=g7) (xs:=[be]) bd (a9m _ _ _ _ _ _) rfl rfl F6 F7 (nb rfl) fun gw gx gy dj bf dk=>?_
   refine ⟨(dk _ (bd.bring 1).lt1),?_⟩
   obtain ⟨dl,h⟩:=h
   refine b7A (s:=⟨none,0,0⟩) (xs:=[]) bf.nil (RowL.nil F6 F7) (dj.srcO (bf.nil.bring 1)) dl fun dm dn gz bg dp ha=>?_
   simp only [List.nil_append] at bg
   refine o5 M7 ?_
   refine A9 ((dp.bring 1).drop.bring 2) Tryz.sizeOf38 fun hb dq hc=>?_
   exact hx2 _ _ (hj2 2 d.C3 [be] [] (Sl.mk none 0 0) (Sl.mk none 0 0) di dm dn (Sl.mk none 0 0) [] dg _ bg (RowL.nil N4 N5) (((((dq.nil.bring 2).bring 5).bring 5).bring 5).bring 5) h)
  ·exact hx2 _ _ (hj2 1 d.C3 [] [] (Sl.mk none 0 0) (Sl.mk none 0 0) bc (Sl.mk none 0 0) [] (Sl.mk none 0 0) [] de _ (RowL.nil F6 F7) (RowL.nil N4 N5) (((((bb.nil.nil.bring 1).bring 5).bring 5).bring 4).bring 5) h)
 ·refine a7 Q7 (c8 (l1 Tryz.isAgg9 b rfl) (a7 (G1 _ _ _ _ _) ?_))
  refine m0 h (fun _ h=>?_) (fun _ h=>?_)
  ·refine A7 hE Tryz.call41 (h g0) (b.bring 1) ?_
   rintro _ _ _ hd dr _ _ ⟨bh,he,rfl,rfl,h⟩
   refine Q9 (e:=49) (c:=i7) (xs:=[bh]) dr (a7q _ _ _ _ _ _ _ _) rfl rfl N4 N5 (nb rfl) fun z ds hf dt du hg=>?_
   refine a7 Q2 ?_
   refine A9 (du.bring 3) Tryz.sizeOf3 fun hh dv hi=>?_
   refine a7 V5 ?_
   refine A9 dv Tryz.sizeOf47 fun hj dw hk=>?_
   refine A7 hE Tryz.call107 (h g0) (dw.bring 2) ?_
   rintro _ _ _ hl dx _ _ ⟨bi,hm,rfl,rfl,h⟩
   refine a7 a0Y ?_
   refine A9 (dx.bring 1) Tryz.sizeOf24 fun hn dy ho=>?_
   have hj3:∀(q:Int)(r:ByteArray)(t:Sl)(u:Sl)(v:Sl)(Q4:b7) H w (_:Inv w0 ps0 H0 H [bx j 56 [(vi q),(Value.string r),(vs t),(vs z),(vs u),(vs v)],bx g0 101 (g8 Q4),bx al 103 (i8 d),bx i 56 [(vi (b9.mk 0 ⟨#[]⟩ (Sl.mk none 0 0) (Sl.mk none 0 0) (Sl.mk none 0 0) (Sl.mk none 0 0)).d8),(Value.string (b9.mk 0 ⟨#[]⟩ (Sl.mk none 0 0) (Sl.mk none 0 0) (Sl.mk none 0 0) (Sl.mk none 0 0)).t7),(Value.slice (b9.mk 0 ⟨#[]⟩ (Sl.mk none 0 0) (Sl.mk none 0 0) (Sl.mk none 0 0) (Sl.mk none 0 0)).o4.a (b9.mk 0 ⟨#[]⟩ (Sl.mk none 0 0) (Sl.mk none 0 0) (Sl.mk none 0 0) (Sl.mk none 0 0)).o4.n (b9.mk 0 ⟨#[]⟩ (Sl.mk none 0 0) (Sl.mk none 0 0) (Sl.mk none 0 0) (Sl.mk none 0 0)).o4.c),(Value.slice (b9.mk 0 ⟨#[]⟩ (Sl.mk none 0 0) (Sl.mk none 0 0) (Sl.mk none 0 0) (Sl.mk none 0 0)).v8.a (b9.mk 0 ⟨#[]⟩ (Sl.mk none 0 0) (Sl.mk none 0 0) (Sl.mk none 0 0) (Sl.mk none 0 0)).v8.n (b9.mk 0 ⟨#[]⟩ (Sl.mk none 0 0) (Sl.mk none 0 0) (Sl.mk none 0 0) (Sl.mk none 0 0)).v8.c),(Value.slice (b9.mk 0 ⟨#[]⟩ (Sl.mk none 0 0) (Sl.mk none 0 0) (Sl.mk none 0 0) (Sl.mk none 0 0)).J5.a (b9.mk 0 ⟨#[]⟩ (Sl.mk none 0 0) (Sl.mk none 0 0) (Sl.mk none 0 0) (Sl.mk none 0 0)).J5.n (b9.mk 0 ⟨#[]⟩ (Sl.mk none 0 0) (Sl.mk none 0 0) (Sl.mk none 0 0) (Sl.mk none 0 0)).J5.c),(Value.slice (b9.mk 0 ⟨#[]⟩ (Sl.mk none 0 0) (Sl.mk none 0 0) (Sl.mk none 0 0) (Sl.mk none 0 0)).H7.a (b9.mk 0 ⟨#[]⟩ (Sl.mk none 0 0) (Sl.mk none 0 0) (Sl.mk none 0 0) (Sl.mk none 0 0)).H7.n (b9.mk 0 ⟨#[]⟩ (Sl.mk none 0 0) (Sl.mk none 0 0) (Sl.mk none 0 0) (Sl.mk none 0 0)).H7.c)],ds] w) (_:U8 q r t ([bh]) u v Q4 d (b9.mk 0 ⟨#[]⟩ (Sl.mk none 0 0) (Sl.mk none 0 0) (Sl.mk none 0 0) (Sl.mk none 0 0)) H K),c5a (Value.pointer (some ⟨i,0,none⟩)) (Value.pointer (some ⟨j,0,none⟩)) w R E:=by
    intro q r t u v Q4 H w I h
    intro _
    refine c8 (ldA Tryz.isAgg56 Tryz.sizeOf56 rfl (I.at1 (o:=0) (vs:=[(vi q),(Value.string r),(vs t),(vs z),(vs u),(vs v)]) (nb rfl) rfl)) ?_
    refine o9 (I.bring 3) Tryz.sizeOf56 (vs:=[(vi q),(Value.string r),(vs t),(vs z),(vs u),(vs v)]) fun hp bj hq=>?_
    refine q8 Tryz.isAgg56 Tryz.sizeOf56 rfl bj ?_
    obtain ⟨bk,dz,ea,eb,ec⟩:=Inv.freezeC (bj.bring 4) dt (by decide)
    replace h:=h z bk ea eb ec
    exact hR _ bk _ _ (dz.drop.drop.bring 1).drop ⟨(b9.mk q r t z u v),Q4,rfl,rfl,h⟩
   refine p7 fun j3 hx3=>?_
   refine f9 Tryz.call105 (h g0) (dy.bring 1) ?_
   rintro _ ed _ hr bl _ _ ⟨hs,ee,rfl,rfl,h⟩
   refine l9 h (fun _ h=>?_) (fun _ h=>?_)
   ·refine A7 hE Tryz.call107 (h g0) bl ?_
    rintro _ ef _ ht eg _ _ ⟨eh,ei,rfl,rfl,h⟩
    refine a7 a0Z ?_
    refine A9 (eg.bring 1) Tryz.sizeOf24 fun hu ej hv=>?_
    exact hx3 _ _ (hj3 3 ⟨#[]⟩ (Sl.mk none 0 0) bi eh ei ef _ (((((ej.bring 2).bring 4).bring 4).bring 4).bring 4) h)
   ·exact hx3 _ _ (hj3 3 ⟨#[]⟩ (Sl.mk none 0 0) bi (Sl.mk none 0 0) ee ed _ (((((bl.bring 2).bring 4).bring 4).bring 3).bring 4) h)
  ·refine a7 Q7 (c8 (l1 Tryz.isAgg9 b rfl) (a7 (G1 _ _ _ _ _) ?_))
   refine m0 h (fun _ h=>?_) (fun _ h=>?_)
   ·refine A7 hE Tryz.call41 (h g0) (b.bring 1) ?_
    rintro _ _ _ hw ek _ _ ⟨el,hx,rfl,rfl,h⟩
    refine Q9 (e:=49) (c:=i7) (xs:=[el]) ek (a7q _ _ _ _ _ _ _ _) rfl rfl N4 N5 (nb rfl) fun ak hy hz em en ia=>?_
    refine a7 Q2 ?_
    refine A9 (en.bring 3) Tryz.sizeOf3 fun ib eo ic=>?_
    refine a7 V5 ?_
    refine A9 eo Tryz.sizeOf47 fun id ep ie=>?_
    refine A7 hE Tryz.call107 (h g0) (ep.bring 2) ?_
    rintro _ _ _ ig eq _ _ ⟨au,er,rfl,rfl,h⟩
    refine a7 a0Y ?_
    refine A9 (eq.bring 1) Tryz.sizeOf24 fun ih bm ii=>?_
    refine c8 (ldA Tryz.isAgg56 Tryz.sizeOf56 rfl (bm.at1 (o:=0) (vs:=[(vi 4),(eS),(nS),(vs ak),(vs au),(nS)]) (nb rfl) rfl)) ?_
    refine o9 (bm.bring 4) Tryz.sizeOf56 (vs:=[(vi 4),(eS),(nS),(vs ak),(vs au),(nS)]) fun ij bn ik=>?_
    refine q8 Tryz.isAgg56 Tryz.sizeOf56 rfl bn ?_
    obtain ⟨bo,es,et,eu,ev⟩:=Inv.freezeC (bn.bring 3) em (by decide)
    replace h:=h ak bo et eu ev
    exact hR _ bo _ _ (es.drop.drop.bring 1).drop ⟨(b9.mk 4 ⟨#[]⟩ (Sl.mk none 0 0) ak au (Sl.mk none 0 0)),er,rfl,rfl,h⟩
   ·refine a7 Q7 (c8 (l1 Tryz.isAgg9 b rfl) (a7 (G1 _ _ _ _ _) ?_))
    refine m0 h (fun _ h=>?_) (fun _ h=>?_)
    ·refine A7 hE Tryz.call41 (h g0) (b.bring 1) ?_
     rintro _ ew _ il ex _ _ ⟨bp,ey,rfl,rfl,h⟩
     refine Q9 (e:=49) (c:=i7) (xs:=[bp]) ex (a7q _ _ _ _ _ _ _ _) rfl rfl N4 N5 (nb rfl) fun ez fa im fb fc io=>?_
     refine a7 Q2 ?_
     refine A9 (fc.bring 3) Tryz.sizeOf3 fun ip fd iq=>?_
     refine a7 V5 ?_
     refine A9 fd Tryz.sizeOf47 fun ir fe it=>?_
     exact hx1 _ _ (hj1 5 ⟨#[]⟩ [] [bp] (Sl.mk none 0 0) (Sl.mk none 0 0) ey (Sl.mk none 0 0) [] ez fa ew _ (RowL.nil F6 F7) fb ((((((fe.nil.bring 2).bring 1).bring 5).bring 5).bring 5).bring 5) h)
    ·refine a7 Q7 (c8 (l1 Tryz.isAgg9 b rfl) (a7 (G1 _ _ _ _ _) ?_))
     refine m0 h (fun _ h=>?_) (fun _ h=>?_)
     ·refine A7 hE Tryz.call41 (h g0) (b.bring 1) ?_
      rintro _ ff _ iu fg _ _ ⟨bq,fh,rfl,rfl,h⟩
      refine Q9 (e:=49) (c:=i7) (xs:=[bq]) fg (a7q _ _ _ _ _ _ _ _) rfl rfl N4 N5 (nb rfl) fun fi fj iv fk fl iw=>?_
      refine a7 Q2 ?_
      refine A9 (fl.bring 3) Tryz.sizeOf3 fun ix fm iy=>?_
      refine a7 V5 ?_
      refine A9 fm Tryz.sizeOf47 fun iz fn ja=>?_
      exact hx1 _ _ (hj1 6 ⟨#[]⟩ [] [bq] (Sl.mk none 0 0) (Sl.mk none 0 0) fh (Sl.mk none 0 0) [] fi fj ff _ (RowL.nil F6 F7) fk ((((((fn.nil.bring 2).bring 1).bring 5).bring 5).bring 5).bring 5) h)
     ·refine a7 Q2 ?_
      refine A9 (b.bring 2) Tryz.sizeOf3 fun jb fo jc=>?_
      exact hx1 _ _ (hj1 7 ⟨#[]⟩ [] [] (Sl.mk none 0 0) (Sl.mk none 0 0) bv (Sl.mk none 0 0) [] (Sl.mk none 0 0) [] bt _ (RowL.nil F6 F7) (RowL.nil N4 N5) (((((fo.nil.nil.bring 1).bring 5).bring 4).bring 5).bring 5) h)
def a0o [PanQ] (p1:b7) (d:b6) (H:Hp) (K:b6→b7→Hp→Prop):Prop:=
 T3 p1 H (fun a b c=>
 K a b c)
def b1Z [PanQ] (x0:b7) (x1:Int) (H:Hp) (K:b6→b7→Hp→Prop):Prop:=
 C0 x0 H (fun a b=>
 (¬(a.d8=x1)→
 E6 x0 b (fun c=>
 a0o x0 (b6.mk 0 ⟨#[]⟩ 0 (b8.mk 0 0)) c K))∧
 (a.d8=x1→
 a0o x0 (b6.mk 0 ⟨#[]⟩ 0 (b8.mk 0 0)) b K))
theorem b2a [PanQ] (x0:b7) (x1:Int) {H:Hp} {K:b6→b7→Hp→Prop} (h:b1Z x0 x1 H K):a3q x0 x1 H K:=by
 intro g0
 refine Ct.ofE fun w0 w ps0 H0 R E I hR hE=>c8X ?_
 refine o7 I Tryz.zeroValue103 (cs:=[(vi 0),(eS),(vi 0),(vi 0),(vi 0)]) rfl fun a m e n=>?_
 have hj1:∀H w (_:Inv w0 ps0 H0 H [bx g0 101 (g8 x0),bx a 103 [(vi (b6.mk 0 ⟨#[]⟩ 0 (b8.mk 0 0)).d8),(Value.string (b6.mk 0 ⟨#[]⟩ 0 (b8.mk 0 0)).C3),(vi (b6.mk 0 ⟨#[]⟩ 0 (b8.mk 0 0)).G9),(vi (b6.mk 0 ⟨#[]⟩ 0 (b8.mk 0 0)).fAt.B9),(vi (b6.mk 0 ⟨#[]⟩ 0 (b8.mk 0 0)).fAt.K8)]] w) (_:a0o x0 (b6.mk 0 ⟨#[]⟩ 0 (b8.mk 0 0)) H K),c1M (Value.pointer (some ⟨g0,0,none⟩)) (Value.pointer (some ⟨a,0,none⟩)) w R E:=by
  intro H w I h
  intro _
  refine A7 hE Tryz.call104 (h g0) I ?_
  rintro _ f _ o g _ _ ⟨b,i,rfl,rfl,h⟩
  refine o9 (g.bring 1) Tryz.sizeOf103 (vs:=(i8 b)) fun p c q=>?_
  refine q8 Tryz.isAgg103 Tryz.sizeOf103 rfl c ?_
  exact hR _ f _ _ c.drop ⟨b,i,rfl,rfl,h⟩
 refine p7 fun j1 hx1=>?_
 refine f9 Tryz.call51 (h g0) (e.bring 1) ?_
 rintro _ j _ r d _ _ ⟨s,rfl,rfl,h⟩
 refine a7 a6p (a7 pNe ?_)
 refine Z9 h (fun _ h=>?_) (fun _ h=>?_)
 ·refine A7 hE Tryz.call52 (h g0) d ?_
  rintro _ k _ t l _ _ ⟨rfl,rfl,h⟩
  exact hx1 _ _ (hj1 k _ ((l.bring 1).bring 1) h)
 ·exact hx1 _ _ (hj1 j _ ((d.bring 1).bring 1) h)
def a0C [PanQ] (V1:Int) (p1:b7) (o:f8) (H:Hp) (K:f8→b7→Hp→Prop):Prop:=
 T2 p1 V1 H (fun d e f=>
 a1R e f (fun g i j=>
 T2 i V1 j (fun k l m=>
 ∀(a:Sl)(b:Hp),Hle m b→SlH b 4 g7 a [d,k]→a.n≤a.c→
 K (f8.mk 3 g a (Sl.mk none 0 0)) l b)))
def a7x [PanQ] (x0:b7) (x1:Int) (H:Hp) (K:f8→b7→Hp→Prop):Prop:=
 S7 x0 H (fun f g=>
 ((!f)=true→
 E6 x0 g (fun t=>
 a0C x1 x0 (f8.mk 0 0 (Sl.mk none 0 0) (Sl.mk none 0 0)) t K))∧
 ((!f)=false→
 y4 x0 ⟨#[116,114,117,101]⟩ g (fun i j k=>
 (i=true→
 K (f8.mk 1 0 (Sl.mk none 0 0) (Sl.mk none 0 0)) j k)∧
 (i=false→
 y4 j ⟨#[102,97,108,115,101]⟩ k (fun l m o=>
 (l=true→
 K (f8.mk 2 0 (Sl.mk none 0 0) (Sl.mk none 0 0)) m o)∧
 (l=false→
 y4 m ⟨#[33]⟩ o (fun p a q=>
 (p=true→
 S7 a q (fun u v=>
 D2 a (IntKind.wrap .i64 (x1+1)) u v (fun y=>
 a0h a (IntKind.wrap .i64 (x1+1)) y (fun z aa ab=>
 ∀(b:Sl)(e:Hp),Hle ab e→SlH e 4 i7 b [z]→b.n≤b.c→
 K (f8.mk 4 0 (Sl.mk none 0 0) b) aa e))))∧
 (p=false→
 y4 a ⟨#[91]⟩ q (fun r d s=>
 (r=true→
 S7 d s (fun ac ad=>
 D2 d (IntKind.wrap .i64 (x1+1)) ac ad (fun ae=>
 P0 d (IntKind.wrap .i64 (x1+1)) ae (fun af ag ah=>
 C6 ag ⟨#[93]⟩ ah (fun ai aj=>
 K af ai aj)))))∧
 (r=false→
 a0C x1 d (f8.mk 0 0 (Sl.mk none 0 0) (Sl.mk none 0 0)) s K))))))))))
theorem b2w [PanQ] (x0:b7) (x1:Int) {H:Hp} {K:f8→b7→Hp→Prop} (h:a7x x0 x1 H K):a0h x0 x1 H K:=by
 intro g0
 refine Ct.ofE fun w0 w ps0 H0 R E I hR hE=>d3I ?_
 refine o7 I Tryz.zeroValue49 (cs:=[(vi 0),(vi 0),(nS),(nS)]) rfl fun i bt ab bu=>?_
 have hj1:∀(p1:b7) H w (_:Inv w0 ps0 H0 H [bx g0 101 (g8 p1),bx i 49 [(vi (f8.mk 0 0 (Sl.mk none 0 0) (Sl.mk none 0 0)).d8),(vi (f8.mk 0 0 (Sl.mk none 0 0) (Sl.mk none 0 0)).fOp),(Value.slice (f8.mk 0 0 (Sl.mk none 0 0) (Sl.mk none 0 0)).o4.a (f8.mk 0 0 (Sl.mk none 0 0) (Sl.mk none 0 0)).o4.n (f8.mk 0 0 (Sl.mk none 0 0) (Sl.mk none 0 0)).o4.c),(Value.slice (f8.mk 0 0 (Sl.mk none 0 0) (Sl.mk none 0 0)).B0.a (f8.mk 0 0 (Sl.mk none 0 0) (Sl.mk none 0 0)).B0.n (f8.mk 0 0 (Sl.mk none 0 0) (Sl.mk none 0 0)).B0.c)]] w) (_:a0C x1 p1 (f8.mk 0 0 (Sl.mk none 0 0) (Sl.mk none 0 0)) H K),c5D (Value.pointer (some ⟨g0,0,none⟩)) (vi x1) (Value.pointer (some ⟨i,0,none⟩)) w R E:=by
  intro p1 H w I h
  intro _
  refine A7 hE Tryz.call35 (h g0) I ?_
  rintro _ _ _ bv ac _ _ ⟨j,bw,rfl,rfl,h⟩
  refine o7 ac Tryz.zeroValue40 (cs:=[(vi 0),(vi 0),(eS),(nS)]) rfl fun bz ca ad cb=>?_
  refine o9 ad Tryz.sizeOf40 (vs:=(g7 j)) fun cc ae cd=>?_
  refine A7 hE Tryz.call126 (h g0) (ae.bring 1) ?_
  rintro _ _ _ ce af _ _ ⟨k,ag,rfl,rfl,h⟩
  refine O6 af fun cf b=>?_
  refine u1 (lW Tryz.isAgg40 Tryz.sizeOf40 rfl (b.bring 1)) ?_
  refine A7 hE Tryz.call35 (h g0) b ?_
  rintro _ _ _ cg ah _ ai ⟨aj,ak,rfl,rfl,h⟩
  refine ⟨(ai _ (b.bring 1).lt1 (Inv.X0 (Fi:=[bx g0 101 (g8 ag)]) ((b.bring 1).bring 1))),?_⟩
  refine Q9 (e:=40) (c:=g7) (xs:=[j,aj]) ah (b4k _ _ _ _ _ _ _ _ _ _ _ _) rfl rfl F6 F7 (nb rfl) fun d ch ci al am cj=>?_
  refine o5 (b3J _ _ _ _ _) ?_
  refine o9 (am.bring 3) Tryz.sizeOf49 (vs:=[(vi 3),(vi k),(vs d),(nS)]) fun ck l cl=>?_
  refine q8 Tryz.isAgg49 Tryz.sizeOf49 rfl l ?_
  obtain ⟨m,an,ao,ap,aq⟩:=Inv.freezeC (l.bring 1) al (by decide)
  replace h:=h d m ao ap aq
  exact hR _ m _ _ (an.drop.bring 1).drop ⟨(f8.mk 3 k d (Sl.mk none 0 0)),ak,rfl,rfl,h⟩
 refine p7 fun j1 hx1=>?_
 refine f9 Tryz.call125 (h g0) (ab.bring 1) ?_
 rintro _ _ _ cm o _ _ ⟨cn,rfl,rfl,h⟩
 refine a7 (E1 _) ?_
 refine l9 h (fun _ h=>?_) (fun _ h=>?_)
 ·refine A7 hE Tryz.call52 (h g0) o ?_
  rintro _ ar _ co au _ _ ⟨rfl,rfl,h⟩
  exact hx1 _ _ (hj1 x0 ar _ ((au.bring 1).bring 1) h)
 ·refine f9 Tryz.call105 (h g0) o ?_
  rintro _ av _ cp p _ _ ⟨cq,aw,rfl,rfl,h⟩
  refine l9 h (fun _ h=>?_) (fun _ h=>?_)
  ·refine a7 (b1o _) ?_
   refine o9 (p.bring 1) Tryz.sizeOf49 (vs:=[(vi 1),(vi 0),(nS),(nS)]) fun cr q ct=>?_
   refine q8 Tryz.isAgg49 Tryz.sizeOf49 rfl q ?_
   exact hR _ av _ _ q.drop ⟨(f8.mk 1 0 (Sl.mk none 0 0) (Sl.mk none 0 0)),aw,rfl,rfl,h⟩
  ·refine f9 Tryz.call105 (h g0) p ?_
   rintro _ ax _ cu r _ _ ⟨cv,ay,rfl,rfl,h⟩
   refine l9 h (fun _ h=>?_) (fun _ h=>?_)
   ·refine a7 (b1o _) ?_
    refine o9 (r.bring 1) Tryz.sizeOf49 (vs:=[(vi 2),(vi 0),(nS),(nS)]) fun cw s cx=>?_
    refine q8 Tryz.isAgg49 Tryz.sizeOf49 rfl s ?_
    exact hR _ ax _ _ s.drop ⟨(f8.mk 2 0 (Sl.mk none 0 0) (Sl.mk none 0 0)),ay,rfl,rfl,h⟩
   ·refine f9 Tryz.call105 (h g0) r ?_
    rintro _ _ _ cy t _ _ ⟨cz,da,rfl,rfl,h⟩
    refine l9 h (fun _ h=>?_) (fun _ h=>?_)
    ·refine a7 pAd ?_
     refine f9 Tryz.call125 (h g0) t ?_
     rintro _ _ _ db az _ _ ⟨dc,rfl,rfl,h⟩
     refine A7 hE Tryz.call55 (h g0) az ?_
     rintro _ _ _ dd ba _ _ ⟨rfl,rfl,h⟩
     refine a7 pAd ?_
     refine A7 hE Tryz.call89 (h g0) ba ?_
     rintro _ _ _ de bb _ _ ⟨bc,bd,rfl,rfl,h⟩
     refine Q9 (e:=49) (c:=i7) (xs:=[bc]) bb (a7q _ _ _ _ _ _ _ _) rfl rfl N4 N5 (nb rfl) fun f df dg be bf dh=>?_
     refine a7 (a7b _ _ _ _) ?_
     refine o9 (bf.bring 2) Tryz.sizeOf49 (vs:=[(vi 4),(vi 0),(nS),(vs f)]) fun di u dj=>?_
     refine q8 Tryz.isAgg49 Tryz.sizeOf49 rfl u ?_
     obtain ⟨v,bg,bh,bi,bj⟩:=Inv.freezeC (u.bring 1) be (by decide)
     replace h:=h f v bh bi bj
     exact hR _ v _ _ bg.drop ⟨(f8.mk 4 0 (Sl.mk none 0 0) f),bd,rfl,rfl,h⟩
    ·refine f9 Tryz.call105 (h g0) t ?_
     rintro _ bk _ dk y _ _ ⟨dl,bl,rfl,rfl,h⟩
     refine l9 h (fun _ h=>?_) (fun _ h=>?_)
     ·refine a7 pAd ?_
      refine f9 Tryz.call125 (h g0) y ?_
      rintro _ _ _ dm bm _ _ ⟨dn,rfl,rfl,h⟩
      refine A7 hE Tryz.call55 (h g0) bm ?_
      rintro _ _ _ dp bn _ _ ⟨rfl,rfl,h⟩
      refine a7 pAd ?_
      refine A7 hE Tryz.call41 (h g0) bn ?_
      rintro _ _ _ dq bo _ _ ⟨g,dr,rfl,rfl,h⟩
      refine o7 bo Tryz.zeroValue49 (cs:=[(vi 0),(vi 0),(nS),(nS)]) rfl fun ds dt bp du=>?_
      refine o9 bp Tryz.sizeOf49 (vs:=(i7 g)) fun dv bq dw=>?_
      refine A7 hE Tryz.call103 (h g0) (bq.bring 1) ?_
      rintro _ br _ dx z _ _ ⟨bs,rfl,rfl,h⟩
      refine c8 (lW Tryz.isAgg49 Tryz.sizeOf49 rfl (z.bring 1)) ?_
      refine o9 (z.bring 2) Tryz.sizeOf49 (vs:=(i7 g)) fun dy aa dz=>?_
      refine q8 Tryz.isAgg49 Tryz.sizeOf49 rfl aa ?_
      exact hR _ br _ _ (aa.drop.bring 1).drop ⟨g,bs,rfl,rfl,h⟩
     ·exact hx1 _ _ (hj1 bl bk _ ((y.bring 1).bring 1) h)
def a4H(x0:ByteArray)(x1:ByteArray)(H:Hp)(K:Bool→Hp→Prop):Prop:=
 ((decide ((x1.size:Int)≤(x0.size:Int)))=true→(0:Int)≤(x1.size:Int)∧((x1.size:Int):Int)≤x0.size)∧
 K ((decide ((x1.size:Int)≤(x0.size:Int)))&&(decide ((x0.extract 0 ((x1.size:Int):Int).toNat)=x1))) H
theorem a9i(x0 x1){H K}(h:a4H x0 x1 H K):a4p x0 x1 H K:=by
 refine Ct.of fun w0 w ps0 H0 R E I hR=>d0f ?_
 refine a7 (X9 _) (a7 (X9 _) (a7 pGe ?_))
 simp only [p8]
 refine a7 (Pu.g fun a=>by simp only [g9 a];with_reducible exact (X9 _)) ?_
 obtain ⟨b,h⟩:=h
 refine a7 (Pu.g fun hb=>by have a:=hb;simp only [g9 a];with_reducible exact (c1G x0 Tryz.underlying9 (b hb).1 (b hb).2)) ?_
 refine a7 (Pu.g fun a=>by simp only [g9 a];with_reducible exact (G1 _ _ _ _ _)) ?_
 refine a7 (s6 _ _) ?_
 exact hR _ H _ _ I ⟨_,rfl,rfl,h⟩
def b0Y(x0:Int)(H:Hp)(K:Bool→Hp→Prop):Prop:=
 K (!decide (x0=10)) H
theorem b0Z(x0){H K}(h:b0Y x0 H K):a2A x0 H K:=by
 refine Ct.of fun w0 w ps0 H0 R E I hR=>c9N ?_
 refine a7 pNe ?_
 exact hR _ H _ _ I ⟨_,rfl,rfl,h⟩
def B5(W9:Int)(y2:ByteArray)(y3:Int)(A0:b8)(D3:(List b6))(H:Hp)(K:ByteArray→j8→(List b6)→Hp→Prop):Prop:=
 (0:Int)≤W9∧(W9:Int)≤y3∧(y3:Int)≤y2.size∧
 K (y2.extract (W9:Int).toNat (y3:Int).toNat) (j8.mk y2 y3 A0 (Sl.mk none 0 0)) D3 H
def B6(E7:Int)(E9:Int)(y1:Bool)(v6:ByteArray)(v7:Int)(t8:b8)(s7:(List b6))(H:Hp)(n2:(Int×Bool×ByteArray×Int×b8×(List b6))→Hp→Prop)(K:ByteArray→j8→(List b6)→Hp→Prop):Prop:=
 TG (y1=true) (a2B E9 H) false H (fun(b:Bool)(c:Hp)=>
 ((y1&&b)=true→
 K9 (j8.mk v6 v7 t8 (Sl.mk none 0 0)) s7 c (fun a d e=>
 E2 (z8 a) d e (fun f g i=>
 n2 (f,g,a.fs,a.fn,a.fat,d) i)))∧
 ((y1&&b)=false→
 B5 E7 v6 v7 t8 s7 c K))
def O1(x0:j8)(a:(List b6))(H:Hp)(K:ByteArray→j8→(List b6)→Hp→Prop):Prop:=
 E2 (z8 x0) a H (fun b c d=>
 TL ((b,c,x0.fs,x0.fn,x0.fat,a):Int×Bool×ByteArray×Int×b8×(List b6)) d fun(s:Int×Bool×ByteArray×Int×b8×(List b6)) H n2=>B6 x0.fn s.1 s.2.1 s.2.2.1 s.2.2.2.1 s.2.2.2.2.1 s.2.2.2.2.2 H n2 K)
theorem a2T(x0 f){H K}(h:O1 x0 f H K):F0 x0 f H K:=by
 intro g0 o p q
 refine Ct.of fun w0 w ps0 H0 R E I hR=>b6f ?_
 unfold O1 at h
 unfold c0m
 refine a7 (o3 _) (a7 a0v (c8 (l1 Tryz.isAgg3 I rfl) ?_))
 have hj1:∀(y2:ByteArray)(y3:Int)(A0:b8)(D3:(List b6))(Y0:Sl)(P1:Frag) H w (_:RowL 103 5 i8 Y0 D3 P1) (_:Inv w0 ps0 H0 H [bx g0 155 [(Value.string y2),(vi y3),(vi A0.B9),(vi A0.K8),(vs Y0)],P1] w) (_:B5 x0.fn y2 y3 A0 D3 H K),a8l (Value.pointer (some ⟨g0,0,none⟩)) (vi x0.fn) w R E:=by
  intro y2 y3 A0 D3 Y0 P1 H w a5T I h
  unfold a8l
  intro _
  unfold B5 at h
  refine O6 I fun au g=>?_
  refine o5 (o3 _) ?_
  refine o5 a8K ?_
  refine o5 (o3 _) ?_
  refine o5 a0v ?_
  refine u1 (l1 Tryz.isAgg9 g rfl) ?_
  refine u1 (l1 Tryz.isAgg3 g rfl) ?_
  obtain ⟨af,ag,ah,h⟩:=h
  refine o5 (a6Q y2 Tryz.underlying9 af ag ah) ?_
  exact hR _ H _ _ ((g.bring 1).bring 1) ⟨(y2.extract (x0.fn:Int).toNat (y3:Int).toNat),(j8.mk y2 y3 A0 (Sl.mk none 0 0)),D3,Y0,P1,rfl,rfl,a5T,h⟩
 refine p7 fun j1 hx1=>?_
 refine f9 Tryz.call100 (h g0 o p q) ((I.bring 1).bring 1) ?_
 rintro _ ai _ av aj _ _ ⟨r,t,rfl,rfl,h⟩
 refine a7 (m5 _ _ (Value.int .i32 r) rfl) (a7 (m5 _ _ (vB t) rfl) ?_)
 obtain ⟨i,c,ak,al⟩:=h
 refine U0 (J:=fun n l w=>∃(s:Int×Bool×ByteArray×Int×b8×(List b6))(H:Hp)(R6:Sl)(J0:Frag),n=c s∧l=(match s with | (E9,y1,v6,v7,t8,s7)=>[(Value.int .i32 E9),(vB y1)])∧(match s with | (E9,y1,v6,v7,t8,s7)=>RowL 103 5 i8 R6 s7 J0)∧(match s with | (E9,y1,v6,v7,t8,s7)=>Inv w0 ps0 H0 H [bx g0 155 [(Value.string v6),(vi v7),(vi t8.B9),(vi t8.K8),(vs R6)],J0] w)∧i s H) ⟨_,(r,t,x0.fs,x0.fn,x0.fat,f),ai,o,p,rfl,rfl,q,((aj.bring 1).bring 1),ak⟩ ?_
 rintro aw ax w next2 ⟨⟨E9,y1,v6,v7,t8,s7⟩,H,R6,J0,rfl,j,T9,I,am⟩ hn2
 dsimp only at j I T9
 simp only [List.map_cons,List.map_nil,List.cons.injEq,and_true] at j
 obtain ⟨e6,e7⟩:=j
 simp only [e6,e7]
 obtain ⟨n2,hm2,h⟩:∃n2:(Int×Bool×ByteArray×Int×b8×(List b6))→Hp→Prop,(∀s' H',n2 s' H'→i s' H'∧c s' < c (E9,y1,v6,v7,t8,s7))∧B6 x0.fn E9 y1 v6 v7 t8 s7 H n2 K:=⟨_,fun _ _ h=>h,al (E9,y1,v6,v7,t8,s7) H (fun s' H'=>i s' H'∧c s' < c (E9,y1,v6,v7,t8,s7)) am (fun _ _ a b=>⟨a,b⟩)⟩
 unfold b4q
 unfold B6 at h
 simp only [p8]
 refine C5 [] (fun d:Bool=>(vB d)) h I (fun z h=>by simp only [g9 z];exact D5 Tryz.call131 h I) fun d k an e v y h=>?_
 refine a7 (s6 _ _) ?_
 refine l9 h (fun _ h=>?_) (fun _ h=>?_)
 ·refine f9 Tryz.call152 (h g0 R6 J0 T9) ((e.bring 1).bring 1) ?_
  rintro _ _ _ ay ao _ _ ⟨m,ap,aa,ab,rfl,rfl,ac,h⟩
  refine f9 Tryz.call100 (h g0 aa ab ac) ((ao.bring 1).bring 1) ?_
  rintro _ aq _ az ar _ _ ⟨ad,ae,rfl,rfl,h⟩
  refine a7 (m5 _ _ (Value.int .i32 ad) rfl) (a7 (m5 _ _ (vB ae) rfl) ?_)
  exact hn2 _ _ _ (hm2 _ _ h).2 ⟨(ad,ae,m.fs,m.fn,m.fat,ap),aq,aa,ab,rfl,rfl,ac,((ar.bring 1).bring 1),(hm2 _ _ h).1⟩
 ·exact hx1 _ _ (hj1 v6 v7 t8 s7 R6 J0 k _ T9 ((e.bring 1).bring 1) h)
def a5H(a:a2Y)(p1:b7)(H:Hp)(K:Int→b7→Hp→Prop):Prop:=
 K 0 p1 H
def a5I(C4:Sl)(a1D:Int)(a:a2Y)(y9:Int)(r9:b7)(H:Hp)(n2:(Int×b7)→Hp→Prop)(K:Int→b7→Hp→Prop):Prop:=
 (y9 < a1D→
 (0:Int)≤y9∧(y9:Int) < C4.n∧∃c:ByteArray,EltH H C4 y9 1 [(Value.string c)]∧
 y4 r9 c H (fun d e b=>
 (d=true→
 (0:Int)≤y9∧(y9:Int) < a.fkinds.n∧∃f:Int,EltH b a.fkinds y9 1 [(vi f)]∧
 K f e b)∧
 (d=false→
 n2 ((IntKind.wrap .i64 (y9+1)),e) b)))∧
 (¬(y9 < a1D)→
 a5H a r9 H K)
def a6L(x0:b7)(x1:a2Y)(H:Hp)(K:Int→b7→Hp→Prop):Prop:=
 TL ((0,x0):Int×b7) H fun(s:Int×b7) H n2=>a5I x1.fsigns (x1.fsigns.n:Int) x1 s.1 s.2 H n2 K
theorem b1G(x0 x1){H K}(h:a6L x0 x1 H K):a3b x0 x1 H K:=by
 intro g0
 refine Ct.of fun w0 w ps0 H0 R E I hR=>c9B ?_
 refine Q1 I (cs:=(Z6 x1)) rfl fun e r f s=>?_
 have hj1:∀(p1:b7) H w (_:Inv w0 ps0 H0 H [bx e 139 (Z6 x1),bx g0 101 (g8 p1)] w) (_:a5H x1 p1 H K),c2c w R E:=by
  intro p1 H w I h
  intro _
  exact hR _ H _ _ I.drop ⟨0,p1,rfl,rfl,h⟩
 refine p7 fun j1 hx1=>?_
 refine a7 c1o (c8 (l1 Tryz.isAgg77 f rfl) (a7 (c4t _ _ _) ?_))
 refine A4 (σ:=Int×b7) (fun (y9,r9)=>[(vi y9)]) (fun (y9,r9)=>[bx e 139 (Z6 x1),bx g0 101 (g8 r9)]) h rfl ((f.bring 1).bring 1) ?_
 rintro ⟨y9,r9⟩ H t w next2 n2 b I h hn2
 dsimp only at b I h
 simp only [List.map_cons,List.map_nil,List.cons.injEq,and_true] at b
 have e10:=b
 simp only [e10]
 refine a7 pLs ?_
 refine m0 h (fun _ h=>?_) (fun _ h=>?_)
 ·obtain ⟨j,k,l,c,h⟩:=h
  obtain ⟨u,y,m,c⟩:=c
  refine a7 (c0i m _ _ _ _ j k) (c8 (ld1 (v:=(Value.string l)) Tryz.isAgg9 (I.atH c)) ?_)
  refine f9 Tryz.call105 (h g0) (I.bring 1) ?_
  rintro _ n _ z a _ _ ⟨aa,g,rfl,rfl,h⟩
  refine l9 h (fun _ h=>?_) (fun _ h=>?_)
  ·refine a7 c1p (c8 (l1 Tryz.isAgg137 (a.bring 1) rfl) ?_)
   obtain ⟨o,p,i,d,h⟩:=h
   obtain ⟨ab,ac,q,d⟩:=d
   refine a7 (c4u q _ _ _ _ o p) (c8 (ld1 (v:=(vi i)) Tryz.isAgg3 (a.atH d)) ?_)
   exact hR _ n _ _ (a.bring 1).drop ⟨i,g,rfl,rfl,h⟩
  ·refine a7 pAd ?_
   exact hn2 ((IntKind.wrap .i64 (y9+1)),g) _ _ h (a.bring 1)
 ·exact hx1 _ _ (hj1 r9 H _ ((I.bring 1).bring 1) h)
def a0p [PanQ] (V1:Int) (p1:b7) (o:d9) (H:Hp) (K:d9→b7→Hp→Prop):Prop:=
 T3 p1 H (fun a e f=>
 (a.d8=2→
 K (d9.mk 1 a.G9 ⟨#[]⟩ (Sl.mk none 0 0)) e f)∧
 (¬(a.d8=2)→
 y4 e ⟨#[91]⟩ f (fun g i j=>
 ((!g)=true→
 K (d9.mk 2 0 a.C3 (Sl.mk none 0 0)) i j)∧
 ((!g)=false→
 X3 i V1 ⟨#[93]⟩ j (fun k l m=>
 ∀(b:Sl)(d:Hp),Hle m d→SlH d 4 g7 b [k]→b.n≤b.c→
 K (d9.mk 4 0 a.C3 b) l d)))))
def a7n [PanQ] (x0:b7) (x1:Int) (H:Hp) (K:d9→b7→Hp→Prop):Prop:=
 H8 x0 H (fun e f=>
 ((!e)=true→
 E6 x0 f (fun q=>
 a0p x1 x0 (d9.mk 0 0 ⟨#[]⟩ (Sl.mk none 0 0)) q K))∧
 ((!e)=false→
 y4 x0 ⟨#[45]⟩ f (fun g a i=>
 (g=true→
 H8 a i (fun r s=>
 D2 a (IntKind.wrap .i64 (x1+1)) r s (fun t=>
 T4 a (IntKind.wrap .i64 (x1+1)) t (fun u v y=>
 ∀(b:Sl)(d:Hp),Hle y d→SlH d 4 g7 b [u]→b.n≤b.c→
 K (d9.mk 5 0 ⟨#[]⟩ b) v d))))∧
 (g=false→
 y4 a ⟨#[40]⟩ i (fun j k l=>
 (j=true→
 X3 k x1 ⟨#[41]⟩ l (fun z aa ab=>
 K z aa ab))∧
 (j=false→
 y4 k ⟨#[105,110,112,117,116]⟩ l (fun m o p=>
 (m=true→
 K (d9.mk 3 0 ⟨#[]⟩ (Sl.mk none 0 0)) o p)∧
 (m=false→
 a0p x1 o (d9.mk 0 0 ⟨#[]⟩ (Sl.mk none 0 0)) p K))))))))
theorem b2b [PanQ] (x0:b7) (x1:Int) {H:Hp} {K:d9→b7→Hp→Prop} (h:a7n x0 x1 H K):T4 x0 x1 H K:=by
 intro g0
 refine Ct.ofE fun w0 w ps0 H0 R E I hR hE=>c9C ?_
 refine o7 I Tryz.zeroValue40 (cs:=[(vi 0),(vi 0),(eS),(nS)]) rfl fun k bn af bo=>?_
 have hj1:∀(p1:b7) H w (_:Inv w0 ps0 H0 H [bx g0 101 (g8 p1),bx k 40 [(vi (d9.mk 0 0 ⟨#[]⟩ (Sl.mk none 0 0)).d8),(vi (d9.mk 0 0 ⟨#[]⟩ (Sl.mk none 0 0)).G9),(Value.string (d9.mk 0 0 ⟨#[]⟩ (Sl.mk none 0 0)).t7),(Value.slice (d9.mk 0 0 ⟨#[]⟩ (Sl.mk none 0 0)).G4.a (d9.mk 0 0 ⟨#[]⟩ (Sl.mk none 0 0)).G4.n (d9.mk 0 0 ⟨#[]⟩ (Sl.mk none 0 0)).G4.c)]] w) (_:a0p x1 p1 (d9.mk 0 0 ⟨#[]⟩ (Sl.mk none 0 0)) H K),c2d (Value.pointer (some ⟨g0,0,none⟩)) (vi x1) (Value.pointer (some ⟨k,0,none⟩)) w R E:=by
  intro p1 H w I h
  intro _
  refine A7 hE Tryz.call104 (h g0) I ?_
  rintro _ ag _ bp ah _ _ ⟨b,ai,rfl,rfl,h⟩
  refine o7 ah Tryz.zeroValue103 (cs:=[(vi 0),(eS),(vi 0),(vi 0),(vi 0)]) rfl fun bq br aj bs=>?_
  refine o9 aj Tryz.sizeOf103 (vs:=(i8 b)) fun bt d bu=>?_
  refine a7 W6 (c8 (l1 Tryz.isAgg3 d rfl) (a7 pEq ?_))
  refine m0 h (fun _ h=>?_) (fun _ h=>?_)
  ·refine a7 a3X (c8 (l1 Tryz.isAgg2 d rfl) (a7 (b5p _ _) ?_))
   refine o9 (d.bring 2) Tryz.sizeOf40 (vs:=[(vi 1),(vi b.G9),(eS),(nS)]) fun bv l bw=>?_
   refine q8 Tryz.isAgg40 Tryz.sizeOf40 rfl l ?_
   exact hR _ ag _ _ l.drop.drop ⟨(d9.mk 1 b.G9 ⟨#[]⟩ (Sl.mk none 0 0)),ai,rfl,rfl,h⟩
  ·refine f9 Tryz.call105 (h g0) (d.bring 1) ?_
   rintro _ ak _ bz g _ _ ⟨ca,m,rfl,rfl,h⟩
   refine a7 (E1 _) ?_
   refine l9 h (fun _ h=>?_) (fun _ h=>?_)
   ·refine a7 Q7 (c8 (l1 Tryz.isAgg9 (g.bring 1) rfl) (a7 (b5q _ _) ?_))
    refine o9 (g.bring 2) Tryz.sizeOf40 (vs:=[(vi 2),(vi 0),(Value.string b.C3),(nS)]) fun cb o cc=>?_
    refine q8 Tryz.isAgg40 Tryz.sizeOf40 rfl o ?_
    exact hR _ ak _ _ (o.drop.bring 1).drop ⟨(d9.mk 2 0 b.C3 (Sl.mk none 0 0)),m,rfl,rfl,h⟩
   ·refine O6 g fun cd f=>?_
    refine o5 Q7 ?_
    refine u1 (l1 Tryz.isAgg9 (f.bring 1) rfl) ?_
    refine A7 hE Tryz.call106 (h g0) f ?_
    rintro _ _ _ ce p _ al ⟨am,an,rfl,rfl,h⟩
    refine ⟨(al _ (f.bring 1).lt1 (Inv.X0 (Fi:=[bx g0 101 (g8 m)]) ((f.bring 1).bring 1))),?_⟩
    refine Q9 (e:=40) (c:=g7) (xs:=[am]) p (a9m _ _ _ _ _ _) rfl rfl F6 F7 (nb rfl) fun i cf cg ao ap aq=>?_
    refine ⟨(aq _ (p.bring 1).lt1),?_⟩
    refine o5 (b3I _ _ _ _ _) ?_
    refine o9 (ap.bring 3) Tryz.sizeOf40 (vs:=[(vi 4),(vi 0),(Value.string b.C3),(vs i)]) fun ch q ci=>?_
    refine q8 Tryz.isAgg40 Tryz.sizeOf40 rfl q ?_
    obtain ⟨r,ar,au,av,aw⟩:=Inv.freezeC (q.bring 1) ao (by decide)
    replace h:=h i r au av aw
    exact hR _ r _ _ (ar.drop.bring 1).drop ⟨(d9.mk 4 0 b.C3 i),an,rfl,rfl,h⟩
 refine p7 fun j1 hx1=>?_
 refine f9 Tryz.call141 (h g0) (af.bring 1) ?_
 rintro _ cj _ ck s _ _ ⟨cl,rfl,rfl,h⟩
 refine a7 (E1 _) ?_
 refine l9 h (fun _ h=>?_) (fun _ h=>?_)
 ·refine A7 hE Tryz.call52 (h g0) s ?_
  rintro _ ax _ cm ay _ _ ⟨rfl,rfl,h⟩
  exact hx1 _ _ (hj1 x0 ax _ ((ay.bring 1).bring 1) h)
 ·refine f9 Tryz.call105 (h g0) s ?_
  rintro _ _ _ cn t _ _ ⟨co,cp,rfl,rfl,h⟩
  refine l9 h (fun _ h=>?_) (fun _ h=>?_)
  ·refine a7 pAd ?_
   refine f9 Tryz.call141 (h g0) t ?_
   rintro _ _ _ cq az _ _ ⟨cr,rfl,rfl,h⟩
   refine A7 hE Tryz.call55 (h g0) az ?_
   rintro _ _ _ ct ba _ _ ⟨rfl,rfl,h⟩
   refine a7 pAd ?_
   refine A7 hE Tryz.call122 (h g0) ba ?_
   rintro _ _ _ cu bb _ _ ⟨bc,bd,rfl,rfl,h⟩
   refine Q9 (e:=40) (c:=g7) (xs:=[bc]) bb (a9m _ _ _ _ _ _) rfl rfl F6 F7 (nb rfl) fun j cv cw be bf cx=>?_
   refine a7 (a7c _ _ _ _) ?_
   refine o9 (bf.bring 2) Tryz.sizeOf40 (vs:=[(vi 5),(vi 0),(eS),(vs j)]) fun cy u cz=>?_
   refine q8 Tryz.isAgg40 Tryz.sizeOf40 rfl u ?_
   obtain ⟨v,bg,bh,bi,bj⟩:=Inv.freezeC (u.bring 1) be (by decide)
   replace h:=h j v bh bi bj
   exact hR _ v _ _ bg.drop ⟨(d9.mk 5 0 ⟨#[]⟩ j),bd,rfl,rfl,h⟩
  ·refine f9 Tryz.call105 (h g0) t ?_
   rintro _ _ _ da y _ _ ⟨db,dc,rfl,rfl,h⟩
   refine l9 h (fun _ h=>?_) (fun _ h=>?_)
   ·refine A7 hE Tryz.call106 (h g0) y ?_
    rintro _ bk _ dd bl _ _ ⟨z,bm,rfl,rfl,h⟩
    refine o9 (bl.bring 1) Tryz.sizeOf40 (vs:=(g7 z)) fun de aa df=>?_
    refine q8 Tryz.isAgg40 Tryz.sizeOf40 rfl aa ?_
    exact hR _ bk _ _ aa.drop ⟨z,bm,rfl,rfl,h⟩
   ·refine f9 Tryz.call105 (h g0) y ?_
    rintro _ ab _ dg ac _ _ ⟨dh,ad,rfl,rfl,h⟩
    refine l9 h (fun _ h=>?_) (fun _ h=>?_)
    ·refine a7 (b6S _) ?_
     refine o9 (ac.bring 1) Tryz.sizeOf40 (vs:=[(vi 3),(vi 0),(eS),(nS)]) fun di ae dj=>?_
     refine q8 Tryz.isAgg40 Tryz.sizeOf40 rfl ae ?_
     exact hR _ ab _ _ ae.drop ⟨(d9.mk 3 0 ⟨#[]⟩ (Sl.mk none 0 0)),ad,rfl,rfl,h⟩
    ·exact hx1 _ _ (hj1 ad ab _ ((ac.bring 1).bring 1) h)
def a3g(a:b6)(y2:ByteArray)(y3:Int)(A0:b8)(D3:(List b6))(b:b6)(H:Hp)(K:b6→Int→j8→(List b6)→Hp→Prop):Prop:=
 K a 0 (j8.mk y2 y3 A0 (Sl.mk none 0 0)) D3 H
def a7S(x0:j8)(i:(List b6))(H:Hp)(K:b6→Int→j8→(List b6)→Hp→Prop):Prop:=
 S9 (z8 x0) i H (fun b a c j=>
 a6m b j (fun d e=>
 (d=true→
 a3g (b6.mk 3 b 0 (b8.mk 0 0)) a.fs a.fn a.fat c (b6.mk 0 ⟨#[]⟩ 0 (b8.mk 0 0)) e K)∧
 (d=false→
 a6l b e (fun f g=>
 (f=true→
 K (b6.mk 1 b 0 (b8.mk 0 0)) 22 (z8 a) c g)∧
 (f=false→
 a3g (b6.mk 1 b 0 (b8.mk 0 0)) a.fs a.fn a.fat c (b6.mk 0 ⟨#[]⟩ 0 (b8.mk 0 0)) g K)))))
theorem b3o(x0 j){H K}(h:a7S x0 j H K):a7F x0 j H K:=by
 intro g0 s t u
 refine Ct.of fun w0 w ps0 H0 R E I hR=>c9O ?_
 refine o7 I Tryz.zeroValue103 (cs:=[(vi 0),(eS),(vi 0),(vi 0),(vi 0)]) rfl fun k ac v ad=>?_
 refine f9 Tryz.call133 (h g0 s t u) ((v.bring 2).bring 2) ?_
 rintro _ ae _ af y _ _ ⟨b,a,d,e,f,rfl,rfl,l,h⟩
 refine a7 (a1t _ _) ?_
 refine o7 y Tryz.zeroValue103 (cs:=[(vi 0),(eS),(vi 0),(vi 0),(vi 0)]) rfl fun m ag z ah=>?_
 refine o9 z Tryz.sizeOf103 (vs:=[(vi 1),(Value.string b),(vi 0),(vi 0),(vi 0)]) fun ai n aj=>?_
 have hj1:∀(c:b6)(y2:ByteArray)(y3:Int)(A0:b8) H w (_:Inv w0 ps0 H0 H [bx m 103 (i8 c),bx g0 155 [(Value.string y2),(vi y3),(vi A0.B9),(vi A0.K8),(vs e)],bx k 103 [(vi (b6.mk 0 ⟨#[]⟩ 0 (b8.mk 0 0)).d8),(Value.string (b6.mk 0 ⟨#[]⟩ 0 (b8.mk 0 0)).C3),(vi (b6.mk 0 ⟨#[]⟩ 0 (b8.mk 0 0)).G9),(vi (b6.mk 0 ⟨#[]⟩ 0 (b8.mk 0 0)).fAt.B9),(vi (b6.mk 0 ⟨#[]⟩ 0 (b8.mk 0 0)).fAt.K8)],f] w) (_:a3g c y2 y3 A0 d (b6.mk 0 ⟨#[]⟩ 0 (b8.mk 0 0)) H K),c2k (Value.pointer (some ⟨k,0,none⟩)) (Value.pointer (some ⟨m,0,none⟩)) w R E:=by
  intro c y2 y3 A0 H w I h
  intro _
  refine c8 (lW Tryz.isAgg103 Tryz.sizeOf103 rfl I) ?_
  refine o9 (I.bring 2) Tryz.sizeOf103 (vs:=(i8 c)) fun ak p al=>?_
  refine q8 Tryz.isAgg103 Tryz.sizeOf103 rfl p ?_
  exact hR _ H _ _ ((p.drop.drop.bring 1).bring 1) ⟨c,0,(j8.mk y2 y3 A0 (Sl.mk none 0 0)),d,e,f,rfl,rfl,l,h⟩
 refine p7 fun j1 hx1=>?_
 refine a7 Q7 (c8 (l1 Tryz.isAgg9 n rfl) ?_)
 refine f9 Tryz.call155 h n ?_
 rintro _ aa _ am g _ _ ⟨an,rfl,rfl,h⟩
 refine l9 h (fun _ h=>?_) (fun _ h=>?_)
 ·refine a7 W6 ?_
  refine A9 g Tryz.sizeOf3 fun ao ab ap=>?_
  exact hx1 _ _ (hj1 (b6.mk 3 b 0 (b8.mk 0 0)) a.fs a.fn a.fat aa _ ((((ab.bring 2).bring 3).bring 3).bring 3) h)
 ·refine a7 Q7 (c8 (l1 Tryz.isAgg9 g rfl) ?_)
  refine f9 Tryz.call156 h g ?_
  rintro _ q _ aq i _ _ ⟨ar,rfl,rfl,h⟩
  refine l9 h (fun _ h=>?_) (fun _ h=>?_)
  ·refine c8 (ldA Tryz.isAgg103 Tryz.sizeOf103 rfl (i.at1 (o:=0) (vs:=[(vi 1),(Value.string b),(vi 0),(vi 0),(vi 0)]) (nb rfl) rfl)) ?_
   refine o9 (i.bring 3) Tryz.sizeOf103 (vs:=[(vi 1),(Value.string b),(vi 0),(vi 0),(vi 0)]) fun au r av=>?_
   refine q8 Tryz.isAgg103 Tryz.sizeOf103 rfl r ?_
   exact hR _ q _ _ ((r.drop.drop.bring 1).bring 1) ⟨(b6.mk 1 b 0 (b8.mk 0 0)),22,(z8 a),d,e,f,rfl,rfl,l,h⟩
  ·exact hx1 _ _ (hj1 (b6.mk 1 b 0 (b8.mk 0 0)) a.fs a.fn a.fat q _ ((((i.bring 2).bring 3).bring 3).bring 3) h)
def a7o(x0:j8)(j:(List b6))(H:Hp)(K:b6→Int→j8→(List b6)→Hp→Prop):Prop:=
 N8 (z8 x0) j H (fun a c d k=>
 b1y a 10 64 k (fun l b m=>
 E2 (z8 c) d m (fun n e f=>
 okI b∧
 ((!(!isNilI b)&&(decide (1 < (a.size:Int))))=true→(0:Int)≤0∧0 < (a.size:Int))∧
 TG ((!((!isNilI b)||((decide (1 < (a.size:Int)))&&(decide (((a.get! (0:Int).toNat).toNat:Int)=48))))&&e)=true) (V3 n f) 0 f (fun(g:Int)(i:Hp)=>
 ((((!isNilI b)||((decide (1 < (a.size:Int)))&&(decide (((a.get! (0:Int).toNat).toNat:Int)=48))))||(e&&(decide (g=3))))=true→
 K (b6.mk 2 a 0 (b8.mk 0 0)) 21 (z8 c) d i)∧
 ((((!isNilI b)||((decide (1 < (a.size:Int)))&&(decide (((a.get! (0:Int).toNat).toNat:Int)=48))))||(e&&(decide (g=3))))=false→
 K (b6.mk 2 a l (b8.mk 0 0)) 0 (z8 c) d i)))))
theorem b2c(x0 q){H K}(h:a7o x0 q H K):a7e x0 q H K:=by
 intro g0 ac ad ae
 refine Ct.of fun w0 w ps0 H0 R E I hR=>c9P ?_
 refine o7 I Tryz.zeroValue103 (cs:=[(vi 0),(eS),(vi 0),(vi 0),(vi 0)]) rfl fun ao ap af aq=>?_
 refine f9 Tryz.call133 (h g0 ac ad ae) ((af.bring 2).bring 2) ?_
 rintro _ _ _ ar ag _ _ ⟨f,r,s,m,n,rfl,rfl,p,h⟩
 refine a7 (a1t _ _) ?_
 refine o7 ag Tryz.zeroValue103 (cs:=[(vi 0),(eS),(vi 0),(vi 0),(vi 0)]) rfl fun au av ah aw=>?_
 refine o9 ah Tryz.sizeOf103 (vs:=[(vi 2),(Value.string f),(vi 0),(vi 0),(vi 0)]) fun ax t ay=>?_
 refine a7 Q7 (c8 (l1 Tryz.isAgg9 t rfl) ?_)
 refine f9 Tryz.call158 h t ?_
 rintro _ _ _ az ai _ _ ⟨j,aj,rfl,rfl,h⟩
 refine a7 (m5 _ _ (vi j) rfl) (a7 (m5 _ _ aj rfl) ?_)
 refine f9 Tryz.call100 (h g0 m n p) ((ai.bring 2).bring 2) ?_
 rintro _ _ _ ba d _ _ ⟨ak,al,rfl,rfl,h⟩
 refine a7 (m5 _ _ (Value.int .i32 ak) rfl) (a7 (m5 _ _ (vB al) rfl) ?_)
 obtain ⟨am,h⟩:=h
 refine a7 (c3u _ am) ?_
 refine a7 (Pu.g fun a=>by with_reducible exact Q7) ?_
 refine c8 (Ld.g fun a=>by simp only [g9 a];exact (l1 Tryz.isAgg9 (d.bring 2) rfl)) ?_
 refine a7 (Pu.g fun a=>by simp only [g9 a];with_reducible exact (X9 _)) ?_
 refine a7 (Pu.g fun a=>by simp only [g9 a];with_reducible exact pGt) ?_
 simp only [p8,a3K]
 refine a7 (Pu.e (a0N _ _ _) (Pu.g fun hb=>by obtain ⟨a,b⟩:=a3J hb;with_reducible exact Q7)) ?_
 refine c8 (Ld.e (a0N _ _ _) (Ld.g fun hb=>by obtain ⟨a,b⟩:=a3J hb;simp only [g9 hb];exact (l1 Tryz.isAgg9 (d.bring 2) rfl))) ?_
 obtain ⟨c,h⟩:=h
 refine a7 (Pu.e (a0N _ _ _) (Pu.g fun hb=>by obtain ⟨a,b⟩:=a3J hb;simp only [g9 hb];with_reducible exact (a3j _ _ _ (c hb).1 (c hb).2))) ?_
 refine a7 (Pu.e (a0N _ _ _) (Pu.g fun hb=>by obtain ⟨a,b⟩:=a3J hb;simp only [g9 hb];with_reducible exact pEq)) ?_
 refine a7 (Pu.g fun a=>by simp only [g9 a,a9R a];with_reducible exact (s6 _ _)) ?_
 refine a7 (y8 _ _) ?_
 simp only [p8,a3K,b2O]
 refine c3o (a0N _ _ _) ?_
 refine C5 [] (fun k:Int=>(vi k)) h d (fun u h=>?_) fun k l an i v y h=>?_
 ·obtain ⟨a,b⟩:=a3J u
  simp only [g9 u]
  refine f9 Tryz.call132 h d ?_
  rintro _ l _ an i y v ⟨k,rfl,rfl,h⟩
  exact ⟨k,l,rfl,i,v,y,h⟩
 refine a7 (Pu.e (a0N _ _ _) (Pu.g fun hb=>by obtain ⟨a,b⟩:=a3J hb;simp only [g9 hb];with_reducible exact pEq)) ?_
 refine a7 (Pu.g fun a=>by simp only [g9 a,a9R a];with_reducible exact (s6 _ _)) ?_
 refine a7 (y8 _ _) ?_
 refine l9 h (fun _ h=>?_) (fun _ h=>?_)
 ·refine c8 (ldA Tryz.isAgg103 Tryz.sizeOf103 rfl ((i.bring 2).at1 (o:=0) (vs:=[(vi 2),(Value.string f),(vi 0),(vi 0),(vi 0)]) (nb rfl) rfl)) ?_
  refine o9 (i.bring 3) Tryz.sizeOf103 (vs:=[(vi 2),(Value.string f),(vi 0),(vi 0),(vi 0)]) fun bb z bc=>?_
  refine q8 Tryz.isAgg103 Tryz.sizeOf103 rfl z ?_
  exact hR _ l _ _ (((z.drop.bring 2).drop.bring 1).bring 1) ⟨(b6.mk 2 f 0 (b8.mk 0 0)),21,(z8 r),s,m,n,rfl,rfl,p,h⟩
 ·refine a7 a3X ?_
  refine A9 (i.bring 2) Tryz.sizeOf2 fun bd aa be=>?_
  refine c8 (ldA Tryz.isAgg103 Tryz.sizeOf103 rfl (aa.at1 (o:=0) (vs:=[(vi 2),(Value.string f),(vi j),(vi 0),(vi 0)]) (nb rfl) rfl)) ?_
  refine o9 (aa.bring 3) Tryz.sizeOf103 (vs:=[(vi 2),(Value.string f),(vi j),(vi 0),(vi 0)]) fun bf ab bg=>?_
  refine q8 Tryz.isAgg103 Tryz.sizeOf103 rfl ab ?_
  exact hR _ l _ _ ((ab.drop.drop.bring 1).bring 1) ⟨(b6.mk 2 f j (b8.mk 0 0)),0,(z8 r),s,m,n,rfl,rfl,p,h⟩
def b0j(x0:d9)(H:Hp)(K:k7→Hp→Prop):Prop:=
 K (k7.M4 (S0.mk x0)) H
theorem b4X(x0){H K}(h:b0j x0 H K):a9Y x0 H K:=by
 refine Ct.of fun w0 w ps0 H0 R E I hR=>d0t ?_
 refine Q1 I (cs:=(g7 x0)) rfl fun b c a d=>?_
 refine c8 (lW Tryz.isAgg40 Tryz.sizeOf40 rfl a) (a7 (c0e _ _ _ _ _ _) (a7 (b4n (S0.mk x0)) ?_))
 exact hR _ H _ _ a.drop ⟨_,rfl,rfl,h⟩
def L1(T8:(List k7))(H:Hp)(K:Sl→Hp→Prop):Prop:=
 ∀(C8:Sl)(a:Hp),Hle H a→SlH a 1 y7 C8 T8→C8.n≤C8.c→
 K C8 a
def L2(C4:Sl)(a1D:Int)(u4:(List k7))(y9:Int)(H:Hp)(n2:((List k7)×Int)→Hp→Prop)(K:Sl→Hp→Prop):Prop:=
 (y9 < a1D→
 (0:Int)≤y9∧(y9:Int) < C4.n∧∃a:d9,EltH H C4 y9 4 (g7 a)∧
 a9Y a H (fun b c=>
 (u4.length+([b]:List k7).length)*17≤140737488355328∧
 n2 ((u4++[b]),(IntKind.wrap .i64 (y9+1))) c))∧
 (¬(y9 < a1D)→
 L1 u4 H K)
def W2(x0:Sl)(H:Hp)(K:Sl→Hp→Prop):Prop:=
 TL (([],0):(List k7)×Int) H fun(s:(List k7)×Int) H n2=>L2 x0 (x0.n:Int) s.1 s.2 H n2 K
theorem a2J(x0){H K}(h:W2 x0 H K):C2 x0 H K:=by
 refine Ct.of fun w0 w ps0 H0 R E I hR=>d0s ?_
 have hj1:∀(T8:(List k7))(C8:Sl)(Fs5j1:Frag) H w (_:RowL 131 1 y7 C8 T8 Fs5j1) (_:Inv w0 ps0 H0 H [Fs5j1] w) (_:L1 T8 H K),c2w (vs C8) w R E:=by
  intro T8 C8 Fs5j1 H w b0a I h
  intro _
  obtain ⟨j,q,r,t,u⟩:=Inv.freezeC I b0a (by decide)
  replace h:=h C8 j r t u
  exact hR _ j _ _ q ⟨_,rfl,rfl,h⟩
 refine p7 fun j1 hx1=>?_
 refine a7 (O4 _ _ _) ?_
 obtain ⟨f,d,v,y⟩:=h
 refine U0 (J:=fun n l w=>∃(s:(List k7)×Int)(H:Hp)(S8:Sl)(Fs5l2:Frag),n=d s∧l=(match s with | (u4,y9)=>[(vs S8),(vi y9)])∧(match s with | (u4,y9)=>RowL 131 1 y7 S8 u4 Fs5l2)∧(match s with | (u4,y9)=>Inv w0 ps0 H0 H [Fs5l2] w)∧f s H) ⟨_,([],0),H,(Sl.mk none 0 0),[],rfl,rfl,(RowL.nil V7 Z5),I.nil,v⟩ ?_
 rintro am an w next2 ⟨⟨u4,y9⟩,H,S8,Fs5l2,rfl,g,a1w,I,z⟩ hn2
 dsimp only at g I a1w
 simp only [List.map_cons,List.map_nil,List.cons.injEq,and_true] at g
 obtain ⟨e5,e10⟩:=g
 simp only [e5,e10]
 obtain ⟨n2,hm2,h⟩:∃n2:((List k7)×Int)→Hp→Prop,(∀s' H',n2 s' H'→f s' H'∧d s' < d (u4,y9))∧L2 x0 (x0.n:Int) u4 y9 H n2 K:=⟨_,fun _ _ h=>h,y (u4,y9) H (fun s' H'=>f s' H'∧d s' < d (u4,y9)) z (fun _ _ a b=>⟨a,b⟩)⟩
 refine a7 pLs ?_
 refine m0 h (fun _ h=>?_) (fun _ h=>?_)
 ·obtain ⟨aa,ab,k,i,h⟩:=h
  obtain ⟨ao,ap,ac,i⟩:=i
  refine a7 (a1N ac _ _ _ _ aa ab) (c8 (ldA (vs:=(g7 k)) Tryz.isAgg40 Tryz.sizeOf40 rfl (I.atH i)) ?_)
  refine o7 I Tryz.zeroValue40 (cs:=[(vi 0),(vi 0),(eS),(nS)]) rfl fun aq ar ad au=>?_
  refine o9 ad Tryz.sizeOf40 (vs:=(g7 k)) fun av m aw=>?_
  refine c8 (lW Tryz.isAgg40 Tryz.sizeOf40 rfl m) ?_
  refine f9 Tryz.call208 h m ?_
  rintro _ ae _ ax af _ _ ⟨o,rfl,rfl,h⟩
  refine Q9 (e:=131) (c:=y7) (xs:=[o]) af (b4J _) rfl rfl V7 Z5 (nb rfl) fun ay az ba ag p bb=>?_
  obtain ⟨ah,h⟩:=h
  refine b4o (s:=S8) (xs:=u4) (p.bring 2) a1w (ag.srcO ((p.bring 2).bring 1)) ah fun ai aj bc ak al bd=>?_
  refine a7 pAd ?_
  exact hn2 _ _ _ (hm2 _ _ h).2 ⟨((u4++[o]),(IntKind.wrap .i64 (y9+1))),ae,ai,aj,rfl,rfl,ak,((al.bring 1).drop.bring 1).drop,(hm2 _ _ h).1⟩
 ·exact hx1 _ _ (hj1 u4 S8 Fs5l2 H _ a1w I h)
def L3(T8:(List k7))(H:Hp)(K:Sl→Hp→Prop):Prop:=
 ∀(C8:Sl)(a:Hp),Hle H a→SlH a 1 y7 C8 T8→C8.n≤C8.c→
 K C8 a
def L4(C4:Sl)(a1D:Int)(u4:(List k7))(y9:Int)(H:Hp)(n2:((List k7)×Int)→Hp→Prop)(K:Sl→Hp→Prop):Prop:=
 (y9 < a1D→
 (0:Int)≤y9∧(y9:Int) < C4.n∧∃a:f8,EltH H C4 y9 4 (i7 a)∧
 a9Z a H (fun b c=>
 (u4.length+([b]:List k7).length)*17≤140737488355328∧
 n2 ((u4++[b]),(IntKind.wrap .i64 (y9+1))) c))∧
 (¬(y9 < a1D)→
 L3 u4 H K)
def W3(x0:Sl)(H:Hp)(K:Sl→Hp→Prop):Prop:=
 TL (([],0):(List k7)×Int) H fun(s:(List k7)×Int) H n2=>L4 x0 (x0.n:Int) s.1 s.2 H n2 K
theorem a2K(x0){H K}(h:W3 x0 H K):E8 x0 H K:=by
 refine Ct.of fun w0 w ps0 H0 R E I hR=>d0x ?_
 have hj1:∀(T8:(List k7))(C8:Sl)(Fs5j1:Frag) H w (_:RowL 131 1 y7 C8 T8 Fs5j1) (_:Inv w0 ps0 H0 H [Fs5j1] w) (_:L3 T8 H K),c2z (vs C8) w R E:=by
  intro T8 C8 Fs5j1 H w b0a I h
  intro _
  obtain ⟨j,q,r,t,u⟩:=Inv.freezeC I b0a (by decide)
  replace h:=h C8 j r t u
  exact hR _ j _ _ q ⟨_,rfl,rfl,h⟩
 refine p7 fun j1 hx1=>?_
 refine a7 (a0r _ _ _) ?_
 obtain ⟨f,d,v,y⟩:=h
 refine U0 (J:=fun n l w=>∃(s:(List k7)×Int)(H:Hp)(S8:Sl)(Fs5l2:Frag),n=d s∧l=(match s with | (u4,y9)=>[(vs S8),(vi y9)])∧(match s with | (u4,y9)=>RowL 131 1 y7 S8 u4 Fs5l2)∧(match s with | (u4,y9)=>Inv w0 ps0 H0 H [Fs5l2] w)∧f s H) ⟨_,([],0),H,(Sl.mk none 0 0),[],rfl,rfl,(RowL.nil V7 Z5),I.nil,v⟩ ?_
 rintro am an w next2 ⟨⟨u4,y9⟩,H,S8,Fs5l2,rfl,g,a1w,I,z⟩ hn2
 dsimp only at g I a1w
 simp only [List.map_cons,List.map_nil,List.cons.injEq,and_true] at g
 obtain ⟨e5,e10⟩:=g
 simp only [e5,e10]
 obtain ⟨n2,hm2,h⟩:∃n2:((List k7)×Int)→Hp→Prop,(∀s' H',n2 s' H'→f s' H'∧d s' < d (u4,y9))∧L4 x0 (x0.n:Int) u4 y9 H n2 K:=⟨_,fun _ _ h=>h,y (u4,y9) H (fun s' H'=>f s' H'∧d s' < d (u4,y9)) z (fun _ _ a b=>⟨a,b⟩)⟩
 refine a7 pLs ?_
 refine m0 h (fun _ h=>?_) (fun _ h=>?_)
 ·obtain ⟨aa,ab,k,i,h⟩:=h
  obtain ⟨ao,ap,ac,i⟩:=i
  refine a7 (a6R ac _ _ _ _ aa ab) (c8 (ldA (vs:=(i7 k)) Tryz.isAgg49 Tryz.sizeOf49 rfl (I.atH i)) ?_)
  refine o7 I Tryz.zeroValue49 (cs:=[(vi 0),(vi 0),(nS),(nS)]) rfl fun aq ar ad au=>?_
  refine o9 ad Tryz.sizeOf49 (vs:=(i7 k)) fun av m aw=>?_
  refine c8 (lW Tryz.isAgg49 Tryz.sizeOf49 rfl m) ?_
  refine f9 Tryz.call212 h m ?_
  rintro _ ae _ ax af _ _ ⟨o,rfl,rfl,h⟩
  refine Q9 (e:=131) (c:=y7) (xs:=[o]) af (b4J _) rfl rfl V7 Z5 (nb rfl) fun ay az ba ag p bb=>?_
  obtain ⟨ah,h⟩:=h
  refine b4o (s:=S8) (xs:=u4) (p.bring 2) a1w (ag.srcO ((p.bring 2).bring 1)) ah fun ai aj bc ak al bd=>?_
  refine a7 pAd ?_
  exact hn2 _ _ _ (hm2 _ _ h).2 ⟨((u4++[o]),(IntKind.wrap .i64 (y9+1))),ae,ai,aj,rfl,rfl,ak,((al.bring 1).drop.bring 1).drop,(hm2 _ _ h).1⟩
 ·exact hx1 _ _ (hj1 u4 S8 Fs5l2 H _ a1w I h)
end Go.Proofs.YthklmeihgmcljaaGreatDoor
