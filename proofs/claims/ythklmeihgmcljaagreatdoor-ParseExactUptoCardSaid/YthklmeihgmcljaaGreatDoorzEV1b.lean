/- Typed formulas of the program's functions, and the theorems that the contracts follow from them; printed by lift.py off the code. -/
import Derived.Test.YthklmeihgmcljaaGreatDoorzEV1
namespace Go.Proofs.YthklmeihgmcljaaGreatDoor
open Go.RowKit
set_option maxRecDepth 100000
set_option maxHeartbeats 2000000
def a5b(x0:a8)(H:Hp)(K:b6→Hp→Prop):Prop:=
 (0:Int)≤x0.fat∧(x0.fat:Int) < x0.fl.n∧∃a:b6,EltH H x0.fl x0.fat 5 (i8 a)∧
 K a H
theorem a9z(x0){H K}(h:a5b x0 H K):B8 x0 H K:=by
 intro g0
 refine Ct.of fun w0 w ps0 H0 R E I hR=>d2W ?_
 refine o7 I Tryz.zeroValue103 (cs:=[(vi 0),(eS),(vi 0),(vi 0),(vi 0)]) rfl fun j k e l=>?_
 refine O6 e fun m a=>?_
 refine o5 (o3 _) ?_
 refine o5 a9S ?_
 refine o5 (o3 _) ?_
 refine o5 T6 ?_
 refine u1 (l1 Tryz.isAgg61 (a.bring 1) rfl) ?_
 refine u1 (l1 Tryz.isAgg3 (a.bring 1) rfl) ?_
 obtain ⟨f,g,b,c,h⟩:=h
 obtain ⟨n,o,i,c⟩:=c
 refine o5 (b4I i _ _ _ _ f g) ?_
 refine u1 (ldA (vs:=(i8 b)) Tryz.isAgg103 Tryz.sizeOf103 rfl (a.atH c)) ?_
 refine o9 a Tryz.sizeOf103 (vs:=(i8 b)) fun p d q=>?_
 refine q8 Tryz.isAgg103 Tryz.sizeOf103 rfl d ?_
 exact hR _ H _ _ d.drop ⟨b,rfl,rfl,h⟩
def M6(p1:a8)(a:b8)(H:Hp)(K:b8→Int→a8→Hp→Prop):Prop:=
 K p1.fpos p1.fbad p1 H
def a1U(x0:a8)(H:Hp)(K:b8→Int→a8→Hp→Prop):Prop:=
 TG ((decide (x0.fbad=0))=true) (B8 x0 H) (b6.mk 0 ⟨#[]⟩ 0 (b8.mk 0 0)) H (fun(a:b6)(b:Hp)=>
 (((decide (x0.fbad=0))&&(!decide (a.d8=5)))=true→
 A5 x0 40 b (fun c d=>
 M6 c (b8.mk 0 0) d K))∧
 (((decide (x0.fbad=0))&&(!decide (a.d8=5)))=false→
 M6 x0 (b8.mk 0 0) b K))
theorem a5D(x0){H K}(h:a1U x0 H K):a0e x0 H K:=by
 intro g0
 refine Ct.of fun w0 w ps0 H0 R E I hR=>d2n ?_
 refine o7 I Tryz.zeroValue28 (cs:=[(vi 0),(vi 0)]) rfl fun i t e u=>?_
 have hj1:∀(p1:a8) H w (_:Inv w0 ps0 H0 H [bx g0 66 (f7 p1),bx i 28 [(vi (b8.mk 0 0).B9),(vi (b8.mk 0 0).K8)]] w) (_:M6 p1 (b8.mk 0 0) H K),c4J (Value.pointer (some ⟨g0,0,none⟩)) (Value.pointer (some ⟨i,0,none⟩)) w R E:=by
  intro p1 H w I h
  intro _
  refine O6 I fun v b=>?_
  refine o5 (o3 _) ?_
  refine o5 b7y ?_
  refine o5 (o3 _) ?_
  refine o5 V4 ?_
  refine u1 (ldA Tryz.isAgg28 Tryz.sizeOf28 rfl (b.at1 (o:=3) (vs:=(l7 p1.fpos)) (nb rfl) rfl)) ?_
  refine u1 (l1 Tryz.isAgg3 b rfl) ?_
  refine o9 (b.bring 1) Tryz.sizeOf28 (vs:=(l7 p1.fpos)) fun y j n=>?_
  refine ⟨(n _ (Inv.c3p (b.bring 1))),?_⟩
  refine q8 Tryz.isAgg28 Tryz.sizeOf28 rfl j ?_
  exact hR _ H _ _ j.drop ⟨p1.fpos,p1.fbad,p1,rfl,rfl,h⟩
 refine p7 fun j1 hx1=>?_
 refine a7 (o3 _) (a7 V4 (c8 (l1 Tryz.isAgg3 (e.bring 1) rfl) (a7 pEq ?_)))
 simp only [p8]
 refine C5 [bx g0 66 (f7 x0)] (fun c:b6=>(Value.agg (i8 c).toArray)) h (e.bring 1) (fun a h=>by simp only [g9 a];exact D5 Tryz.call63 (h g0) (e.bring 1)) fun c f p d l m h=>?_
 refine a7 (Pu.g fun a=>by simp only [g9 a];with_reducible exact a6p) ?_
 refine a7 (Pu.g fun a=>by simp only [g9 a];with_reducible exact pNe) ?_
 refine a7 (s6 _ _) ?_
 refine l9 h (fun _ h=>?_) (fun _ h=>?_)
 ·refine f9 Tryz.call66 (h g0) d ?_
  rintro _ q _ z r _ _ ⟨s,rfl,rfl,h⟩
  exact hx1 _ _ (hj1 s q _ ((r.bring 1).bring 1) h)
 ·exact hx1 _ _ (hj1 x0 f _ ((d.bring 1).bring 1) h)
def a6c(x0:d6)(H:Hp)(K:Int→Hp→Prop):Prop:=
 ((!x0.fok)=true→
 K 30 H)∧
 ((!x0.fok)=false→
 ((!x0.fnames)=true→
 K 31 H)∧
 ((!x0.fnames)=false→
 K 0 H))
theorem b0z(x0){H K}(h:a6c x0 H K):a2e x0 H K:=by
 refine Ct.of fun w0 w ps0 H0 R E I hR=>d3n ?_
 refine Q1 I (cs:=(r7 x0)) rfl fun b c a d=>?_
 refine a7 K3 (c8 (l1 Tryz.isAgg4 a rfl) (a7 (E1 _) ?_))
 refine l9 h (fun _ h=>?_) (fun _ h=>?_)
 ·exact hR _ H _ _ a.drop ⟨30,rfl,rfl,h⟩
 ·refine a7 b3Y (c8 (l1 Tryz.isAgg4 a rfl) (a7 (E1 _) ?_))
  refine l9 h (fun _ h=>?_) (fun _ h=>?_)
  ·exact hR _ H _ _ a.drop ⟨31,rfl,rfl,h⟩
  ·exact hR _ H _ _ a.drop ⟨0,rfl,rfl,h⟩
def a2E(a:d6)(d:d7)(e:l8)(H:Hp)(K:Int→Hp→Prop):Prop:=
 a2e a H (fun b c=>
 K b c)
def a6v(d:d7)(a:l8)(Y6:Int)(b:d6)(H:Hp)(n3:(Int×d6)→Hp→Prop)(K:Int→Hp→Prop):Prop:=
 (((decide (Y6 < (a.a0L.n:Int)))&&b.fok)=true→
 (0:Int)≤Y6∧(Y6:Int) < a.a0L.n∧∃c:b9,EltH H a.a0L Y6 6 (m6 c)∧
 U5 b c H (fun e f=>
 n3 ((IntKind.wrap .i64 (Y6+1)),e) f))∧
 (((decide (Y6 < (a.a0L.n:Int)))&&b.fok)=false→
 a2E b d a H K)
def a2F(a:d6)(b:d7)(c:l8)(H:Hp)(K:Int→Hp→Prop):Prop:=
 TL ((0,a):Int×d6) H fun(s:Int×d6) H n3=>a6v b c s.1 s.2 H n3 K
def a6w(f:d7)(a:l8)(a0R:Int)(b:d6)(H:Hp)(n4:(Int×d6)→Hp→Prop)(K:Int→Hp→Prop):Prop:=
 (a0R < (a.N3.n:Int)→
 ∃c:m7,(b.fok=true→(0:Int)≤a0R∧(a0R:Int) < a.N3.n∧EltH H a.N3 a0R 2 (u5 c))∧
 ∃d:m7,((b.fok&&(decide (0≤c.a1u)))=true→(0:Int)≤a0R∧(a0R:Int) < a.N3.n∧EltH H a.N3 a0R 2 (u5 d))∧
 (0:Int)≤a0R∧(a0R:Int) < a.N3.n∧∃e:m7,EltH H a.N3 a0R 2 (u5 e)∧
 U3 (d6.mk ((b.fok&&(decide (0≤c.a1u)))&&(decide (d.a1u≤2147483647))) b.fnames) e.t7 true H (fun g i=>
 n4 ((IntKind.wrap .i64 (a0R+1)),g) i))∧
 (¬(a0R < (a.N3.n:Int))→
 a2F b f a H K)
def a7u(x0:l8)(H:Hp)(K:Int→Hp→Prop):Prop:=
 a1b x0 H (fun a b=>
 (¬(a.fbad=0)→
 K a.fbad b)∧
 (a.fbad=0→
 TL ((0,(d6.mk true true)):Int×d6) b fun(s:Int×d6) H n4=>a6w a x0 s.1 s.2 H n4 K))
theorem b2r(x0){H K}(h:a7u x0 H K):a3M x0 H K:=by
 refine Ct.of fun w0 w ps0 H0 R E I hR=>d2r ?_
 refine Q1 I (cs:=(p5 x0)) rfl fun f ax aa ay=>?_
 refine c8 (lW Tryz.isAgg26 Tryz.sizeOf26 rfl aa) ?_
 refine f9 Tryz.call70 h aa ?_
 rintro _ ab _ az ac _ _ ⟨d,rfl,rfl,h⟩
 refine o7 ac Tryz.zeroValue120 (cs:=[(vi 0),(vi 0),(vi 0)]) rfl fun i ba ad bb=>?_
 refine o9 ad Tryz.sizeOf120 (vs:=(r8 d)) fun bc j bd=>?_
 refine a7 W7 (c8 (l1 Tryz.isAgg3 j rfl) (a7 pNe ?_))
 refine Z9 h (fun _ h=>?_) (fun _ h=>?_)
 ·refine a7 W7 (c8 (l1 Tryz.isAgg3 j rfl) ?_)
  exact hR _ ab _ _ j.drop.drop ⟨_,rfl,rfl,h⟩
 ·refine a7 (b8m _ _) ?_
  refine o7 j Tryz.zeroValue123 (cs:=[(vB false),(vB false)]) rfl fun e be ae bf=>?_
  refine o9 ae Tryz.sizeOf123 (vs:=[(vB true),(vB true)]) fun bg af bh=>?_
  have hj1:∀(o:d6) H w (_:Inv w0 ps0 H0 H [bx e 123 (r7 o),bx i 120 (r8 d),bx f 26 (p5 x0)] w) (_:a2F o d x0 H K),c4L (Value.pointer (some ⟨f,0,none⟩)) (Value.pointer (some ⟨e,0,none⟩)) w R E:=by
   intro o H w I h
   intro _
   have hj2:∀(p:d6) H w (_:Inv w0 ps0 H0 H [bx e 123 (r7 p),bx i 120 (r8 d),bx f 26 (p5 x0)] w) (_:a2E p d x0 H K),c4K (Value.pointer (some ⟨e,0,none⟩)) w R E:=by
    intro p H w I h
    intro _
    refine c8 (lW Tryz.isAgg123 Tryz.sizeOf123 rfl I) ?_
    refine f9 Tryz.call73 h I ?_
    rintro _ ag _ bi ah _ _ ⟨ai,rfl,rfl,h⟩
    exact hR _ ag _ _ ah.drop.drop.drop ⟨ai,rfl,rfl,h⟩
   refine p7 fun j2 hx2=>?_
   refine A4 (σ:=Int×d6) (fun (Y6,l)=>[(vi Y6)]) (fun (Y6,l)=>[bx e 123 (r7 l),bx i 120 (r8 d),bx f 26 (p5 x0)]) h rfl (((I.bring 2).bring 2).bring 2) ?_
   rintro ⟨Y6,l⟩ H bj w next3 n3 q I h hn3
   dsimp only at q I h
   simp only [List.map_cons,List.map_nil,List.cons.injEq,and_true] at q
   have e6:=q
   simp only [e6]
   refine a7 X8 (c8 (l1 Tryz.isAgg24 (I.bring 2) rfl) (a7 (X1 _ _ _) (a7 pLs ?_)))
   refine a7 (Pu.g fun a=>by with_reducible exact K3) ?_
   refine c8 (Ld.g fun a=>by simp only [g9 a];exact (l1 Tryz.isAgg4 I rfl)) ?_
   refine a7 (s6 _ _) ?_
   refine l9 h (fun _ h=>?_) (fun _ h=>?_)
   ·refine a7 X8 (c8 (l1 Tryz.isAgg24 (I.bring 2) rfl) ?_)
    obtain ⟨aj,ak,al,r,h⟩:=h
    obtain ⟨bk,bl,am,r⟩:=r
    refine a7 (a4l am _ _ _ _ aj ak) (c8 (ldA (vs:=(m6 al)) Tryz.isAgg56 Tryz.sizeOf56 rfl (I.atH r)) ?_)
    refine f9 Tryz.call72 (h e) I ?_
    rintro _ _ _ bm an _ _ ⟨ao,rfl,rfl,h⟩
    refine a7 pAd ?_
    exact hn3 ((IntKind.wrap .i64 (Y6+1)),ao) _ _ h (((an.bring 2).bring 2).bring 2)
   ·exact hx2 _ _ (hj2 l H _ (((I.bring 2).bring 2).bring 2) h)
  refine p7 fun j1 hx1=>?_
  refine A4 (σ:=Int×d6) (fun (a0R,m)=>[(vi a0R)]) (fun (a0R,m)=>[bx e 123 (r7 m),bx i 120 (r8 d),bx f 26 (p5 x0)]) h rfl (((af.bring 2).bring 2).bring 2) ?_
  rintro ⟨a0R,m⟩ H bn w next4 n4 s I h hn4
  dsimp only at s I h
  simp only [List.map_cons,List.map_nil,List.cons.injEq,and_true] at s
  have e5:=s
  simp only [e5]
  refine a7 T5 (c8 (l1 Tryz.isAgg23 (I.bring 2) rfl) (a7 (a6G _ _ _) (a7 pLs ?_)))
  refine m0 h (fun _ h=>?_) (fun _ h=>?_)
  ·refine a7 K3 (c8 (l1 Tryz.isAgg4 I rfl) ?_)
   refine a7 (Pu.g fun a=>by with_reducible exact T5) ?_
   refine c8 (Ld.g fun a=>by simp only [g9 a];exact (l1 Tryz.isAgg23 (I.bring 2) rfl)) ?_
   simp only [p8]
   obtain ⟨t,b,h⟩:=h
   obtain ⟨bo,bp,b⟩:=b7w b
   refine a7 (Pu.g fun hb=>by have a:=hb;simp only [g9 a];with_reducible exact (b0O (b hb).2.2.1 _ _ _ _ (b hb).1 (b hb).2.1)) ?_
   refine a7 (Pu.g fun a=>by simp only [g9 a];with_reducible exact a8j) ?_
   refine c8 (Ld.g fun hb=>by have a:=hb;simp only [g9 a];exact (ld1 (v:=(vi t.a1u)) Tryz.isAgg3 ((I.atH (b hb).2.2.2).sub (k:=1) (n:=1) (nb rfl)))) ?_
   refine a7 (Pu.g fun a=>by simp only [g9 a];with_reducible exact pGe) ?_
   refine a7 (s6 _ _) ?_
   refine a7 (Pu.g fun a=>by with_reducible exact T5) ?_
   refine c8 (Ld.g fun a=>by simp only [g9 a];exact (l1 Tryz.isAgg23 (I.bring 2) rfl)) ?_
   simp only [p8]
   obtain ⟨u,c,h⟩:=h
   obtain ⟨bq,br,c⟩:=b7w c
   refine a7 (Pu.g fun hb=>by have a:=hb;simp only [g9 a];with_reducible exact (b0O (c hb).2.2.1 _ _ _ _ (c hb).1 (c hb).2.1)) ?_
   refine a7 (Pu.g fun a=>by simp only [g9 a];with_reducible exact a8j) ?_
   refine c8 (Ld.g fun hb=>by have a:=hb;simp only [g9 a];exact (ld1 (v:=(vi u.a1u)) Tryz.isAgg3 ((I.atH (c hb).2.2.2).sub (k:=1) (n:=1) (nb rfl)))) ?_
   refine a7 (Pu.g fun a=>by simp only [g9 a];with_reducible exact pLe) ?_
   refine a7 (s6 _ _) (a7 K3 ?_)
   refine A9 I Tryz.sizeOf4 fun bs y bt=>?_
   refine a7 T5 (c8 (l1 Tryz.isAgg23 (y.bring 2) rfl) ?_)
   obtain ⟨ap,aq,ar,z,h⟩:=h
   obtain ⟨bu,bv,au,z⟩:=z
   refine a7 (b0O au _ _ _ _ ap aq) (a7 b7C (c8 (ld1 (v:=(Value.string ar.t7)) Tryz.isAgg9 ((y.atH z).sub (k:=0) (n:=1) (nb rfl))) ?_))
   refine f9 Tryz.call71 (h e) y ?_
   rintro _ _ _ bw av _ _ ⟨aw,rfl,rfl,h⟩
   refine a7 pAd ?_
   exact hn4 ((IntKind.wrap .i64 (a0R+1)),aw) _ _ h (((av.bring 2).bring 2).bring 2)
  ·exact hx1 _ _ (hj1 m H _ (((I.bring 2).bring 2).bring 2) h)
def a5c(x0:a8)(x1:Int)(H:Hp)(K:b8→Int→Hp→Prop):Prop:=
 (x1=32→
 (0:Int)≤IntKind.wrap .i64 ((x0.fl.n:Int)-1)∧(IntKind.wrap .i64 ((x0.fl.n:Int)-1):Int) < x0.fl.n∧∃a:b6,EltH H x0.fl (IntKind.wrap .i64 ((x0.fl.n:Int)-1)) 5 (i8 a)∧
 K a.fAt 41 H)∧
 (¬(x1=32)→
 (x1=33→
 (0:Int)≤IntKind.wrap .i64 ((x0.fl.n:Int)-1)∧(IntKind.wrap .i64 ((x0.fl.n:Int)-1):Int) < x0.fl.n∧∃b:b6,EltH H x0.fl (IntKind.wrap .i64 ((x0.fl.n:Int)-1)) 5 (i8 b)∧
 K b.fAt 42 H)∧
 (¬(x1=33)→
 K (b8.mk 0 0) 0 H))
theorem a9A(x0 x1){H K}(h:a5c x0 x1 H K):a1x x0 x1 H K:=by
 intro g0
 refine Ct.of fun w0 w ps0 H0 R E I hR=>d2o ?_
 refine o7 I Tryz.zeroValue28 (cs:=[(vi 0),(vi 0)]) rfl fun t u c v=>?_
 refine a7 pEq ?_
 refine m0 h (fun _ h=>?_) (fun _ h=>?_)
 ·refine O6 c fun y a=>?_
  refine o5 (o3 _) ?_
  refine o5 a9S ?_
  refine o5 (o3 _) ?_
  refine o5 a9S ?_
  refine u1 (l1 Tryz.isAgg61 (a.bring 1) rfl) ?_
  refine u1 (l1 Tryz.isAgg61 (a.bring 1) rfl) ?_
  refine o5 (b8M _ _ _) ?_
  refine o5 pSu ?_
  obtain ⟨m,o,d,e,h⟩:=h
  obtain ⟨z,aa,p,e⟩:=e
  refine o5 (b4I p _ _ _ _ m o) ?_
  refine o5 b1p ?_
  refine u1 (ldA (vs:=(l7 d.fAt)) Tryz.isAgg28 Tryz.sizeOf28 rfl ((a.atH e).sub (k:=3) (n:=2) (nb rfl))) ?_
  refine o9 a Tryz.sizeOf28 (vs:=(l7 d.fAt)) fun ab i ac=>?_
  refine q8 Tryz.isAgg28 Tryz.sizeOf28 rfl i ?_
  exact hR _ H _ _ i.drop ⟨d.fAt,41,rfl,rfl,h⟩
 ·refine a7 pEq ?_
  refine m0 h (fun _ h=>?_) (fun _ h=>?_)
  ·refine O6 c fun ad b=>?_
   refine o5 (o3 _) ?_
   refine o5 a9S ?_
   refine o5 (o3 _) ?_
   refine o5 a9S ?_
   refine u1 (l1 Tryz.isAgg61 (b.bring 1) rfl) ?_
   refine u1 (l1 Tryz.isAgg61 (b.bring 1) rfl) ?_
   refine o5 (b8M _ _ _) ?_
   refine o5 pSu ?_
   obtain ⟨q,r,f,g,h⟩:=h
   obtain ⟨ae,af,s,g⟩:=g
   refine o5 (b4I s _ _ _ _ q r) ?_
   refine o5 b1p ?_
   refine u1 (ldA (vs:=(l7 f.fAt)) Tryz.isAgg28 Tryz.sizeOf28 rfl ((b.atH g).sub (k:=3) (n:=2) (nb rfl))) ?_
   refine o9 b Tryz.sizeOf28 (vs:=(l7 f.fAt)) fun ag j ah=>?_
   refine q8 Tryz.isAgg28 Tryz.sizeOf28 rfl j ?_
   exact hR _ H _ _ j.drop ⟨f.fAt,42,rfl,rfl,h⟩
  ·refine a7 (b3G) ?_
   refine o9 c Tryz.sizeOf28 (vs:=[(vi 0),(vi 0)]) fun ai l aj=>?_
   refine q8 Tryz.isAgg28 Tryz.sizeOf28 rfl l ?_
   exact hR _ H _ _ l.drop ⟨(b8.mk 0 0),0,rfl,rfl,h⟩
def b0A(x0:a8)(x1:ByteArray)(H:Hp)(K:Bool→Hp→Prop):Prop:=
 B8 x0 H (fun a b=>
 K (((decide (x0.fbad=0))&&((decide (a.d8=3))||(decide (a.d8=4))))&&(decide (a.C3=x1))) b)
theorem a6d(x0 x1){H K}(h:b0A x0 x1 H K):o0 x0 x1 H K:=by
 intro g0
 refine Ct.of fun w0 w ps0 H0 R E I hR=>d2j ?_
 refine f9 Tryz.call63 (h g0) I ?_
 rintro _ f _ k i _ _ ⟨d,rfl,rfl,h⟩
 refine o7 i Tryz.zeroValue103 (cs:=[(vi 0),(eS),(vi 0),(vi 0),(vi 0)]) rfl fun l m j n=>?_
 refine o9 j Tryz.sizeOf103 (vs:=(i8 d)) fun o c p=>?_
 refine a7 (o3 _) (a7 V4 (c8 (l1 Tryz.isAgg3 (c.bring 1) rfl) (a7 pEq ?_)))
 refine a7 (Pu.g fun a=>by with_reducible exact W6) ?_
 refine c8 (Ld.g fun a=>by simp only [g9 a];exact (l1 Tryz.isAgg3 c rfl)) ?_
 refine a7 (Pu.g fun a=>by simp only [g9 a];with_reducible exact pEq) ?_
 simp only [p8,a3K]
 refine a7 (Pu.e (U1 _ _ _) (Pu.g fun hb=>by obtain ⟨a,b⟩:=a0w hb;with_reducible exact W6)) ?_
 refine c8 (Ld.e (U1 _ _ _) (Ld.g fun hb=>by obtain ⟨a,b⟩:=a0w hb;simp only [g9 hb];exact (l1 Tryz.isAgg3 c rfl))) ?_
 refine a7 (Pu.e (U1 _ _ _) (Pu.g fun hb=>by obtain ⟨a,b⟩:=a0w hb;simp only [g9 hb];with_reducible exact pEq)) ?_
 refine a7 (Pu.g fun a=>by simp only [g9 a,a9Q a];with_reducible exact (y8 _ _)) ?_
 refine a7 (s6 _ _) ?_
 refine a7 (Pu.g fun a=>by with_reducible exact Q7) ?_
 refine c8 (Ld.g fun a=>by simp only [g9 a];exact (l1 Tryz.isAgg9 c rfl)) ?_
 simp only [p8]
 refine a7 (Pu.g fun a=>by simp only [g9 a];with_reducible exact (G1 _ _ _ _ _)) ?_
 refine a7 (s6 _ _) ?_
 exact hR _ f _ _ c.drop ⟨_,rfl,rfl,h⟩
def a8L(x0:a8)(H:Hp)(K:Bool→Hp→Prop):Prop:=
 B8 x0 H (fun a e=>
 TG ((decide (a.d8=1))=false) (o0 x0 ⟨#[105,102]⟩ e) false e (fun(b:Bool)(f:Hp)=>
 TG (((decide (a.d8=1))||b)=false) (o0 x0 ⟨#[119,104,105,108,101]⟩ f) false f (fun(c:Bool)(g:Hp)=>
 TG ((((decide (a.d8=1))||b)||c)=false) (o0 x0 ⟨#[97,115,115,101,114,116]⟩ g) false g (fun(d:Bool)(i:Hp)=>
 TG (((((decide (a.d8=1))||b)||c)||d)=false) (o0 x0 ⟨#[97,115,115,117,109,101]⟩ i) false i (fun(j:Bool)(k:Hp)=>
 TG ((((((decide (a.d8=1))||b)||c)||d)||j)=false) (o0 x0 ⟨#[115,107,105,112]⟩ k) false k (fun(l:Bool)(m:Hp)=>
 K ((((((decide (a.d8=1))||b)||c)||d)||j)||l) m))))))
theorem a8M(x0){H K}(h:a8L x0 H K):M5 x0 H K:=by
 intro g0
 refine Ct.of fun w0 w ps0 H0 R E I hR=>d2l ?_
 refine f9 Tryz.call63 (h g0) I ?_
 rintro _ ap _ aq n _ _ ⟨aj,rfl,rfl,h⟩
 refine a7 a6p (a7 pEq ?_)
 simp only [p8]
 refine C5 [bx g0 66 (f7 x0)] (fun b:Bool=>(vB b)) h n (fun a h=>by simp only [g9 a];exact D5 Tryz.call23 (h g0) n) fun b p ak g q r h=>?_
 refine a7 (y8 _ _) ?_
 simp only [p8]
 refine C5 [bx g0 66 (f7 x0)] (fun c:Bool=>(vB c)) h g (fun a h=>by simp only [g9 a];exact D5 Tryz.call23 (h g0) g) fun c t al i u v h=>?_
 refine a7 (y8 _ _) ?_
 simp only [p8]
 refine C5 [bx g0 66 (f7 x0)] (fun d:Bool=>(vB d)) h i (fun a h=>by simp only [g9 a];exact D5 Tryz.call23 (h g0) i) fun d z am j aa ab h=>?_
 refine a7 (y8 _ _) ?_
 simp only [p8]
 refine C5 [bx g0 66 (f7 x0)] (fun e:Bool=>(vB e)) h j (fun a h=>by simp only [g9 a];exact D5 Tryz.call23 (h g0) j) fun e ad an k ae af h=>?_
 refine a7 (y8 _ _) ?_
 simp only [p8]
 refine C5 [bx g0 66 (f7 x0)] (fun f:Bool=>(vB f)) h k (fun a h=>by simp only [g9 a];exact D5 Tryz.call23 (h g0) k) fun f l ao m ah ai h=>?_
 refine a7 (y8 _ _) ?_
 exact hR _ l _ _ m ⟨_,rfl,rfl,h⟩
def a9B(x0:a8)(x1:ByteArray)(H:Hp)(K:a8→Hp→Prop):Prop:=
 q7 x0 x1 H (fun a b c=>
 ((!a)=true→
 A5 b 40 c (fun d e=>
 K d e))∧
 ((!a)=false→
 K b c))
theorem a1B(x0 x1){H K}(h:a9B x0 x1 H K):t6 x0 x1 H K:=by
 intro g0
 refine Ct.of fun w0 w ps0 H0 R E I hR=>d2Y ?_
 refine f9 Tryz.call67 (h g0) I ?_
 rintro _ b _ g a _ _ ⟨i,c,rfl,rfl,h⟩
 refine a7 (E1 _) ?_
 refine l9 h (fun _ h=>?_) (fun _ h=>?_)
 ·refine f9 Tryz.call66 (h g0) a ?_
  rintro _ d _ j e _ _ ⟨f,rfl,rfl,h⟩
  exact hR _ d _ _ e ⟨f,rfl,rfl,h⟩
 ·exact hR _ b _ _ a ⟨c,rfl,rfl,h⟩
def a8N(x0:a8)(H:Hp)(K:Bool→Hp→Prop):Prop:=
 B8 x0 H (fun a c=>
 TG (((decide (a.d8=1))||(decide (a.d8=2)))=false) (o0 x0 ⟨#[45]⟩ c) false c (fun(b:Bool)(d:Hp)=>
 TG ((((decide (a.d8=1))||(decide (a.d8=2)))||b)=false) (o0 x0 ⟨#[40]⟩ d) false d (fun(e:Bool)(f:Hp)=>
 TG (((((decide (a.d8=1))||(decide (a.d8=2)))||b)||e)=false) (o0 x0 ⟨#[105,110,112,117,116]⟩ f) false f (fun(g:Bool)(i:Hp)=>
 K (((((decide (a.d8=1))||(decide (a.d8=2)))||b)||e)||g) i))))
theorem a8O(x0){H K}(h:a8N x0 H K):W8 x0 H K:=by
 intro g0
 refine Ct.of fun w0 w ps0 H0 R E I hR=>d0a ?_
 refine f9 Tryz.call63 (h g0) I ?_
 rintro _ _ _ ae z _ _ ⟨j,rfl,rfl,h⟩
 refine o7 z Tryz.zeroValue103 (cs:=[(vi 0),(eS),(vi 0),(vi 0),(vi 0)]) rfl fun af ag aa ah=>?_
 refine o9 aa Tryz.sizeOf103 (vs:=(i8 j)) fun ai b aj=>?_
 refine a7 W6 (c8 (l1 Tryz.isAgg3 b rfl) (a7 pEq ?_))
 refine a7 (Pu.g fun a=>by with_reducible exact W6) ?_
 refine c8 (Ld.g fun a=>by simp only [g9 a];exact (l1 Tryz.isAgg3 b rfl)) ?_
 refine a7 (Pu.g fun a=>by simp only [g9 a];with_reducible exact pEq) ?_
 refine a7 (y8 _ _) ?_
 simp only [p8]
 refine C5 [bx g0 66 (f7 x0)] (fun c:Bool=>(vB c)) h (b.bring 1) (fun a h=>by simp only [g9 a];exact D5 Tryz.call23 (h g0) (b.bring 1)) fun c n ab f o p h=>?_
 refine a7 (y8 _ _) ?_
 simp only [p8]
 refine C5 [bx g0 66 (f7 x0)] (fun d:Bool=>(vB d)) h f (fun a h=>by simp only [g9 a];exact D5 Tryz.call23 (h g0) f) fun d r ac i s t h=>?_
 refine a7 (y8 _ _) ?_
 simp only [p8]
 refine C5 [bx g0 66 (f7 x0)] (fun e:Bool=>(vB e)) h i (fun a h=>by simp only [g9 a];exact D5 Tryz.call23 (h g0) i) fun e k ad l v y h=>?_
 refine a7 (y8 _ _) ?_
 exact hR _ k _ _ (l.bring 1).drop ⟨(((((decide (j.d8=1))||(decide (j.d8=2)))||c)||d)||e),rfl,rfl,h⟩
def P7(b1Q:Int)(b3g:Int)(Q4:a8)(d:d9)(e:d9)(H:Hp)(n2:(d9×a8×d9)→Hp→Prop)(K:d9→a8→Hp→Prop):Prop:=
 S6 (a8.mk Q4.fl (IntKind.wrap .i64 (Q4.fat+1)) Q4.fbad Q4.fpos) b1Q H (fun f g i=>
 ∀(a:Sl)(b:Hp),Hle i b→SlH b 4 g7 a [d,f]→a.n≤a.c→
 n2 ((d9.mk b3g 0 ⟨#[]⟩ a),g,e) b)
def a3B(p1:a8)(a:d9)(b:d9)(H:Hp)(K:d9→a8→Hp→Prop):Prop:=
 K a p1 H
def a3C(R1:Int)(a:d9)(r9:a8)(b:d9)(H:Hp)(n2:(d9×a8×d9)→Hp→Prop)(K:d9→a8→Hp→Prop):Prop:=
 o0 r9 ⟨#[43]⟩ H (fun c d=>
 TG (c=false) (o0 r9 ⟨#[45]⟩ d) false d (fun(e:Bool)(f:Hp)=>
 ((c||e)=true→
 o0 r9 ⟨#[45]⟩ f (fun g i=>
 (g=true→
 P7 R1 7 r9 a b i n2 K)∧
 (g=false→
 P7 R1 6 r9 a b i n2 K)))∧
 ((c||e)=false→
 a3B r9 a b f K)))
def a5d(x0:a8)(x1:Int)(H:Hp)(K:d9→a8→Hp→Prop):Prop:=
 S6 x0 x1 H (fun a b c=>
 TL ((a,b,(d9.mk 0 0 ⟨#[]⟩ (Sl.mk none 0 0))):d9×a8×d9) c fun(s:d9×a8×d9) H n2=>a3C x1 s.1 s.2.1 s.2.2 H n2 K)
theorem a5e(x0 x1){H K}(h:a5d x0 x1 H K):C7 x0 x1 H K:=by
 intro g0
 refine Ct.of fun w0 w ps0 H0 R E I hR=>d2A ?_
 refine o7 I Tryz.zeroValue40 (cs:=[(vi 0),(vi 0),(eS),(nS)]) rfl fun d au z av=>?_
 refine f9 Tryz.call83 (h g0) (z.bring 1) ?_
 rintro _ _ _ aw aa _ _ ⟨ab,ax,rfl,rfl,h⟩
 refine o7 aa Tryz.zeroValue40 (cs:=[(vi 0),(vi 0),(eS),(nS)]) rfl fun f ay ac az=>?_
 refine o9 ac Tryz.sizeOf40 (vs:=(g7 ab)) fun ba ad bb=>?_
 have hj1:∀(p1:a8)(g:d9)(l:d9) H w (_:Inv w0 ps0 H0 H [bx g0 66 (f7 p1),bx f 40 (g7 g),bx d 40 (g7 l)] w) (_:a3B p1 g l H K),c4Q (Value.pointer (some ⟨d,0,none⟩)) (Value.pointer (some ⟨f,0,none⟩)) w R E:=by
  intro p1 g l H w I h
  intro _
  refine c8 (lW Tryz.isAgg40 Tryz.sizeOf40 rfl (I.bring 1)) ?_
  refine o9 (I.bring 2) Tryz.sizeOf40 (vs:=(g7 g)) fun bc o bd=>?_
  refine q8 Tryz.isAgg40 Tryz.sizeOf40 rfl o ?_
  exact hR _ H _ _ (o.drop.bring 1).drop ⟨g,p1,rfl,rfl,h⟩
 refine p7 fun j1 hx1=>?_
 refine A4 (σ:=d9×a8×d9) (fun (a,r9,b)=>[]) (fun (a,r9,b)=>[bx f 40 (g7 a),bx g0 66 (f7 r9),bx d 40 (g7 b)]) h rfl (((ad.bring 2).bring 2).bring 2) ?_
 rintro ⟨a,r9,b⟩ H be w next2 n2 p I h hn2
 dsimp only at p I h
 clear p
 refine f9 Tryz.call23 (h g0) (I.bring 1) ?_
 rintro _ _ _ bf q _ _ ⟨bg,rfl,rfl,h⟩
 simp only [p8]
 refine C5 [bx g0 66 (f7 r9)] (fun i:Bool=>(vB i)) h q (fun u h=>by simp only [g9 u];exact D5 Tryz.call23 (h g0) q) fun i m ae j s t h=>?_
 refine a7 (y8 _ _) ?_
 refine l9 h (fun _ h=>?_) (fun _ h=>?_)
 ·have hj3:∀(b3g:Int) H w (_:Inv w0 ps0 H0 H [bx g0 66 (f7 r9),bx f 40 (g7 a),bx d 40 (g7 b)] w) (_:P7 x1 b3g r9 a b H n2 K),c4R (Value.pointer (some ⟨g0,0,none⟩)) (vi x1) (Value.pointer (some ⟨d,0,none⟩)) (Value.pointer (some ⟨f,0,none⟩)) (vi b3g) w next2 R E:=by
   intro b3g H w I h
   intro _
   refine a7 (o3 _) (a7 T6 (c8 (l1 Tryz.isAgg3 I rfl) (a7 pAd (a7 (o3 _) ?_))))
   refine a7 T6 ?_
   refine A9 I Tryz.sizeOf3 fun bh af bi=>?_
   refine O6 af fun bj k=>?_
   refine u1 (lW Tryz.isAgg40 Tryz.sizeOf40 rfl (k.bring 1)) ?_
   refine f9 Tryz.call83 (h g0) k ?_
   rintro _ _ _ bk ag _ ah ⟨ai,aj,rfl,rfl,h⟩
   refine ⟨(ah _ (k.bring 1).lt1 (Inv.X0 (Fi:=[bx g0 66 [(vs r9.fl),(vi (IntKind.wrap .i64 (r9.fat+1))),(vi r9.fbad),(vi r9.fpos.B9),(vi r9.fpos.K8)]]) ((k.bring 1).bring 1))),?_⟩
   refine Q9 (e:=40) (c:=g7) (xs:=[a,ai]) ag (b4k _ _ _ _ _ _ _ _ _ _ _ _) rfl rfl F6 F7 (nb rfl) fun n bl bm ak al bn=>?_
   refine o5 (a7c _ _ _ _) ?_
   refine o9 (al.bring 2) Tryz.sizeOf40 (vs:=[(vi b3g),(vi 0),(eS),(vs n)]) fun bo am bp=>?_
   obtain ⟨an,ao,ap,aq,ar⟩:=Inv.freezeC (am.bring 1) ak (by decide)
   replace h:=h n an ap aq ar
   exact hn2 ((d9.mk b3g 0 ⟨#[]⟩ n),aj,b) _ _ h (((ao.bring 2).bring 2).bring 2)
  refine p7 fun j3 hx3=>?_
  refine f9 Tryz.call23 (h g0) j ?_
  rintro _ v _ bq y _ _ ⟨br,rfl,rfl,h⟩
  refine l9 h (fun _ h=>?_) (fun _ h=>?_)
  ·exact hx3 _ _ (hj3 7 v _ (((y.bring 2).bring 2).bring 2) h)
  ·exact hx3 _ _ (hj3 6 v _ (((y.bring 2).bring 2).bring 2) h)
 ·exact hx1 _ _ (hj1 r9 a b m _ (((j.bring 2).bring 2).bring 2) h)
def b0c(x0:a8)(x1:Int)(H:Hp)(K:f8→a8→Hp→Prop):Prop:=
 (¬(x0.fbad=0)→
 K (f8.mk 0 0 (Sl.mk none 0 0) (Sl.mk none 0 0)) x0 H)∧
 (x0.fbad=0→
 W8 x0 H (fun a o=>
 TG ((!a)=true) (o0 x0 ⟨#[116,114,117,101]⟩ o) false o (fun(d:Bool)(p:Hp)=>
 TG (((!a)&&(!d))=true) (o0 x0 ⟨#[102,97,108,115,101]⟩ p) false p (fun(e:Bool)(q:Hp)=>
 TG ((((!a)&&(!d))&&(!e))=true) (o0 x0 ⟨#[33]⟩ q) false q (fun(j:Bool)(r:Hp)=>
 TG (((((!a)&&(!d))&&(!e))&&(!j))=true) (o0 x0 ⟨#[91]⟩ r) false r (fun(s:Bool)(t:Hp)=>
 ((((((!a)&&(!d))&&(!e))&&(!j))&&(!s))=true→
 A5 x0 40 t (fun ak al=>
 K (f8.mk 0 0 (Sl.mk none 0 0) (Sl.mk none 0 0)) ak al))∧
 ((((((!a)&&(!d))&&(!e))&&(!j))&&(!s))=false→
 S5 x0 x1 t (fun f u=>
 (¬(f.fbad=0)→
 K (f8.mk 0 0 (Sl.mk none 0 0) (Sl.mk none 0 0)) f u)∧
 (f.fbad=0→
 q7 f ⟨#[116,114,117,101]⟩ u (fun v y z=>
 (v=true→
 K (f8.mk 1 0 (Sl.mk none 0 0) (Sl.mk none 0 0)) y z)∧
 (v=false→
 q7 y ⟨#[102,97,108,115,101]⟩ z (fun aa ab ac=>
 (aa=true→
 K (f8.mk 2 0 (Sl.mk none 0 0) (Sl.mk none 0 0)) ab ac)∧
 (aa=false→
 q7 ab ⟨#[33]⟩ ac (fun ad ae af=>
 (ad=true→
 T7 ae (IntKind.wrap .i64 (x1+1)) af (fun am an ao=>
 ∀(g:Sl)(k:Hp),Hle ao k→SlH k 4 i7 g [am]→g.n≤g.c→
 K (f8.mk 4 0 (Sl.mk none 0 0) g) an k))∧
 (ad=false→
 q7 ae ⟨#[91]⟩ af (fun ag ah ai=>
 (ag=true→
 O3 ah (IntKind.wrap .i64 (x1+1)) ai (fun ap aq ar=>
 t6 aq ⟨#[93]⟩ ar (fun au av=>
 K ap au av)))∧
 (ag=false→
 C7 ah x1 ai (fun aw b ax=>
 a0g b ax (fun l aj=>
 (l=0→
 A5 b 40 aj (fun ay az=>
 K (f8.mk 0 0 (Sl.mk none 0 0) (Sl.mk none 0 0)) ay az))∧
 (¬(l=0)→
 C7 (a8.mk b.fl (IntKind.wrap .i64 (b.fat+1)) b.fbad b.fpos) x1 aj (fun ba bb bc=>
 ∀(i:Sl)(m:Hp),Hle bc m→SlH m 4 g7 i [aw,ba]→i.n≤i.c→
 K (f8.mk 3 l i (Sl.mk none 0 0)) bb m)))))))))))))))))))))
theorem a5E(x0 x1){H K}(h:b0c x0 x1 H K):T7 x0 x1 H K:=by
 intro g0
 refine Ct.of fun w0 w ps0 H0 R E I hR=>c9I ?_
 refine o7 I Tryz.zeroValue49 (cs:=[(vi 0),(vi 0),(nS),(nS)]) rfl fun dd de p df=>?_
 refine a7 (o3 _) (a7 V4 (c8 (l1 Tryz.isAgg3 (p.bring 1) rfl) (a7 pNe ?_)))
 refine Z9 h (fun _ h=>?_) (fun _ h=>?_)
 ·refine a7 (b3H) ?_
  refine o9 p Tryz.sizeOf49 (vs:=[(vi 0),(vi 0),(nS),(nS)]) fun dg v dh=>?_
  refine q8 Tryz.isAgg49 Tryz.sizeOf49 rfl v ?_
  exact hR _ H _ _ v.drop ⟨(f8.mk 0 0 (Sl.mk none 0 0) (Sl.mk none 0 0)),x0,rfl,rfl,h⟩
 ·refine f9 Tryz.call146 (h g0) (p.bring 1) ?_
  rintro _ _ _ di y _ _ ⟨dj,rfl,rfl,h⟩
  refine a7 (E1 _) ?_
  simp only [p8]
  refine C5 [bx g0 66 (f7 x0)] (fun d:Bool=>(vB d)) h y (fun a h=>by simp only [g9 a];exact D5 Tryz.call23 (h g0) y) fun d aa bi f ab ac h=>?_
  refine a7 (Pu.g fun a=>by simp only [g9 a];with_reducible exact (E1 _)) ?_
  refine a7 (s6 _ _) ?_
  simp only [p8]
  refine C5 [bx g0 66 (f7 x0)] (fun i:Bool=>(vB i)) h f (fun a h=>by simp only [g9 a];exact D5 Tryz.call23 (h g0) f) fun i ae bj j af ag h=>?_
  refine a7 (Pu.g fun a=>by simp only [g9 a];with_reducible exact (E1 _)) ?_
  refine a7 (s6 _ _) ?_
  simp only [p8]
  refine C5 [bx g0 66 (f7 x0)] (fun k:Bool=>(vB k)) h j (fun a h=>by simp only [g9 a];exact D5 Tryz.call23 (h g0) j) fun k ai bk l aj ak h=>?_
  refine a7 (Pu.g fun a=>by simp only [g9 a];with_reducible exact (E1 _)) ?_
  refine a7 (s6 _ _) ?_
  simp only [p8]
  refine C5 [bx g0 66 (f7 x0)] (fun m:Bool=>(vB m)) h l (fun a h=>by simp only [g9 a];exact D5 Tryz.call23 (h g0) l) fun m am bl n an ao h=>?_
  refine a7 (Pu.g fun a=>by simp only [g9 a];with_reducible exact (E1 _)) ?_
  refine a7 (s6 _ _) ?_
  refine l9 h (fun _ h=>?_) (fun _ h=>?_)
  ·refine f9 Tryz.call66 (h g0) n ?_
   rintro _ bm _ dk bn _ _ ⟨bo,rfl,rfl,h⟩
   refine a7 (b3H) ?_
   refine o9 (bn.bring 1) Tryz.sizeOf49 (vs:=[(vi 0),(vi 0),(nS),(nS)]) fun dl ap dm=>?_
   refine q8 Tryz.isAgg49 Tryz.sizeOf49 rfl ap ?_
   exact hR _ bm _ _ ap.drop ⟨(f8.mk 0 0 (Sl.mk none 0 0) (Sl.mk none 0 0)),bo,rfl,rfl,h⟩
  ·refine f9 Tryz.call114 (h g0) n ?_
   rintro _ bp _ dn q _ _ ⟨bq,rfl,rfl,h⟩
   refine a7 (o3 _) (a7 V4 (c8 (l1 Tryz.isAgg3 q rfl) (a7 pNe ?_)))
   refine Z9 h (fun _ h=>?_) (fun _ h=>?_)
   ·refine a7 (b3H) ?_
    refine o9 (q.bring 1) Tryz.sizeOf49 (vs:=[(vi 0),(vi 0),(nS),(nS)]) fun dp aq dq=>?_
    refine q8 Tryz.isAgg49 Tryz.sizeOf49 rfl aq ?_
    exact hR _ bp _ _ aq.drop ⟨(f8.mk 0 0 (Sl.mk none 0 0) (Sl.mk none 0 0)),bq,rfl,rfl,h⟩
   ·refine f9 Tryz.call67 (h g0) q ?_
    rintro _ br _ dr ar _ _ ⟨ds,bs,rfl,rfl,h⟩
    refine l9 h (fun _ h=>?_) (fun _ h=>?_)
    ·refine a7 (b1o _) ?_
     refine o9 (ar.bring 1) Tryz.sizeOf49 (vs:=[(vi 1),(vi 0),(nS),(nS)]) fun dt au du=>?_
     refine q8 Tryz.isAgg49 Tryz.sizeOf49 rfl au ?_
     exact hR _ br _ _ au.drop ⟨(f8.mk 1 0 (Sl.mk none 0 0) (Sl.mk none 0 0)),bs,rfl,rfl,h⟩
    ·refine f9 Tryz.call67 (h g0) ar ?_
     rintro _ bt _ dv av _ _ ⟨dw,bu,rfl,rfl,h⟩
     refine l9 h (fun _ h=>?_) (fun _ h=>?_)
     ·refine a7 (b1o _) ?_
      refine o9 (av.bring 1) Tryz.sizeOf49 (vs:=[(vi 2),(vi 0),(nS),(nS)]) fun dx aw dy=>?_
      refine q8 Tryz.isAgg49 Tryz.sizeOf49 rfl aw ?_
      exact hR _ bt _ _ aw.drop ⟨(f8.mk 2 0 (Sl.mk none 0 0) (Sl.mk none 0 0)),bu,rfl,rfl,h⟩
     ·refine f9 Tryz.call67 (h g0) av ?_
      rintro _ _ _ dz ax _ _ ⟨ea,eb,rfl,rfl,h⟩
      refine l9 h (fun _ h=>?_) (fun _ h=>?_)
      ·refine a7 pAd ?_
       refine f9 Tryz.call127 (h g0) ax ?_
       rintro _ _ _ ec bv _ _ ⟨bw,bz,rfl,rfl,h⟩
       refine Q9 (e:=49) (c:=i7) (xs:=[bw]) bv (a7q _ _ _ _ _ _ _ _) rfl rfl N4 N5 (nb rfl) fun r ed ee ca cb ef=>?_
       refine a7 (a7b _ _ _ _) ?_
       refine o9 (cb.bring 2) Tryz.sizeOf49 (vs:=[(vi 4),(vi 0),(nS),(vs r)]) fun eg ay eh=>?_
       refine q8 Tryz.isAgg49 Tryz.sizeOf49 rfl ay ?_
       obtain ⟨az,cc,cd,ce,cf⟩:=Inv.freezeC (ay.bring 1) ca (by decide)
       replace h:=h r az cd ce cf
       exact hR _ az _ _ cc.drop ⟨(f8.mk 4 0 (Sl.mk none 0 0) r),bz,rfl,rfl,h⟩
      ·refine f9 Tryz.call67 (h g0) ax ?_
       rintro _ _ _ ei ba _ _ ⟨ej,ek,rfl,rfl,h⟩
       refine l9 h (fun _ h=>?_) (fun _ h=>?_)
       ·refine a7 pAd ?_
        refine f9 Tryz.call43 (h g0) ba ?_
        rintro _ _ _ el cg _ _ ⟨s,em,rfl,rfl,h⟩
        refine o7 cg Tryz.zeroValue49 (cs:=[(vi 0),(vi 0),(nS),(nS)]) rfl fun en eo ch ep=>?_
        refine o9 ch Tryz.sizeOf49 (vs:=(i7 s)) fun eq ci er=>?_
        refine f9 Tryz.call65 (h g0) (ci.bring 1) ?_
        rintro _ cj _ es bb _ _ ⟨ck,rfl,rfl,h⟩
        refine c8 (lW Tryz.isAgg49 Tryz.sizeOf49 rfl (bb.bring 1)) ?_
        refine o9 (bb.bring 2) Tryz.sizeOf49 (vs:=(i7 s)) fun et bc eu=>?_
        refine q8 Tryz.isAgg49 Tryz.sizeOf49 rfl bc ?_
        exact hR _ cj _ _ (bc.drop.bring 1).drop ⟨s,ck,rfl,rfl,h⟩
       ·refine f9 Tryz.call37 (h g0) ba ?_
        rintro _ _ _ ev cl _ _ ⟨bd,b,rfl,rfl,h⟩
        refine o7 cl Tryz.zeroValue40 (cs:=[(vi 0),(vi 0),(eS),(nS)]) rfl fun ew ex cm ey=>?_
        refine o9 cm Tryz.sizeOf40 (vs:=(g7 bd)) fun ez cn fa=>?_
        refine f9 Tryz.call147 (h g0) (cn.bring 1) ?_
        rintro _ _ _ fb t _ _ ⟨be,rfl,rfl,h⟩
        refine a7 pEq ?_
        refine m0 h (fun _ h=>?_) (fun _ h=>?_)
        ·refine f9 Tryz.call66 (h g0) t ?_
         rintro _ co _ fc cp _ _ ⟨cq,rfl,rfl,h⟩
         refine a7 (b3H) ?_
         refine o9 (cp.bring 2) Tryz.sizeOf49 (vs:=[(vi 0),(vi 0),(nS),(nS)]) fun fd bf fe=>?_
         refine q8 Tryz.isAgg49 Tryz.sizeOf49 rfl bf ?_
         exact hR _ co _ _ (bf.drop.bring 1).drop ⟨(f8.mk 0 0 (Sl.mk none 0 0) (Sl.mk none 0 0)),cq,rfl,rfl,h⟩
        ·refine a7 (o3 _) (a7 T6 (c8 (l1 Tryz.isAgg3 t rfl) (a7 pAd (a7 (o3 _) ?_))))
         refine a7 T6 ?_
         refine A9 t Tryz.sizeOf3 fun ff cr fg=>?_
         refine O6 cr fun fh o=>?_
         refine u1 (lW Tryz.isAgg40 Tryz.sizeOf40 rfl (o.bring 1)) ?_
         refine f9 Tryz.call37 (h g0) o ?_
         rintro _ _ _ fi ct _ cu ⟨cv,cw,rfl,rfl,h⟩
         refine ⟨(cu _ (o.bring 1).lt1 (Inv.X0 (Fi:=[bx g0 66 [(vs b.fl),(vi (IntKind.wrap .i64 (b.fat+1))),(vi b.fbad),(vi b.fpos.B9),(vi b.fpos.K8)]]) ((o.bring 1).bring 1))),?_⟩
         refine Q9 (e:=40) (c:=g7) (xs:=[bd,cv]) ct (b4k _ _ _ _ _ _ _ _ _ _ _ _) rfl rfl F6 F7 (nb rfl) fun u fj fk cx cy fm=>?_
         refine o5 (b3J _ _ _ _ _) ?_
         refine o9 (cy.bring 3) Tryz.sizeOf49 (vs:=[(vi 3),(vi be),(vs u),(nS)]) fun fn bg fo=>?_
         refine q8 Tryz.isAgg49 Tryz.sizeOf49 rfl bg ?_
         obtain ⟨bh,cz,da,db,dc⟩:=Inv.freezeC (bg.bring 1) cx (by decide)
         replace h:=h u bh da db dc
         exact hR _ bh _ _ (cz.drop.bring 1).drop ⟨(f8.mk 3 be u (Sl.mk none 0 0)),cw,rfl,rfl,h⟩
def a3D(p1:a8)(a:f8)(b:f8)(H:Hp)(K:f8→a8→Hp→Prop):Prop:=
 K a p1 H
def a3E(R1:Int)(d:f8)(r9:a8)(e:f8)(H:Hp)(n2:(f8×a8×f8)→Hp→Prop)(K:f8→a8→Hp→Prop):Prop:=
 q7 r9 ⟨#[124,124]⟩ H (fun f g i=>
 (f=true→
 Z1 g R1 i (fun j k l=>
 ∀(a:Sl)(b:Hp),Hle l b→SlH b 4 i7 a [d,j]→a.n≤a.c→
 n2 ((f8.mk 6 0 (Sl.mk none 0 0) a),k,e) b))∧
 (f=false→
 a3D g d e i K))
def a5f(x0:a8)(x1:Int)(H:Hp)(K:f8→a8→Hp→Prop):Prop:=
 Z1 x0 x1 H (fun a b c=>
 TL ((a,b,(f8.mk 0 0 (Sl.mk none 0 0) (Sl.mk none 0 0))):f8×a8×f8) c fun(s:f8×a8×f8) H n2=>a3E x1 s.1 s.2.1 s.2.2 H n2 K)
theorem a9C(x0 x1){H K}(h:a5f x0 x1 H K):O3 x0 x1 H K:=by
 intro g0
 refine Ct.of fun w0 w ps0 H0 R E I hR=>d2D ?_
 refine o7 I Tryz.zeroValue49 (cs:=[(vi 0),(vi 0),(nS),(nS)]) rfl fun g aj p ak=>?_
 refine f9 Tryz.call90 (h g0) (p.bring 1) ?_
 rintro _ al _ am q _ _ ⟨r,an,rfl,rfl,h⟩
 refine o7 q Tryz.zeroValue49 (cs:=[(vi 0),(vi 0),(nS),(nS)]) rfl fun i ao s ap=>?_
 refine o9 s Tryz.sizeOf49 (vs:=(i7 r)) fun aq t ar=>?_
 have hj1:∀(p1:a8)(a:f8)(j:f8) H w (_:Inv w0 ps0 H0 H [bx g0 66 (f7 p1),bx i 49 (i7 a),bx g 49 (i7 j)] w) (_:a3D p1 a j H K),c4S (Value.pointer (some ⟨g,0,none⟩)) (Value.pointer (some ⟨i,0,none⟩)) w R E:=by
  intro p1 a j H w I h
  intro _
  refine c8 (lW Tryz.isAgg49 Tryz.sizeOf49 rfl (I.bring 1)) ?_
  refine o9 (I.bring 2) Tryz.sizeOf49 (vs:=(i7 a)) fun au l av=>?_
  refine q8 Tryz.isAgg49 Tryz.sizeOf49 rfl l ?_
  exact hR _ H _ _ (l.drop.bring 1).drop ⟨a,p1,rfl,rfl,h⟩
 refine p7 fun j1 hx1=>?_
 refine A4 (σ:=f8×a8×f8) (fun (b,r9,d)=>[]) (fun (b,r9,d)=>[bx i 49 (i7 b),bx g0 66 (f7 r9),bx g 49 (i7 d)]) h rfl (((t.bring 2).bring 2).bring 2) ?_
 rintro ⟨b,r9,d⟩ H aw w next2 n2 m I h hn2
 dsimp only at m I h
 clear m
 refine f9 Tryz.call67 (h g0) (I.bring 1) ?_
 rintro _ u _ ax n _ _ ⟨ay,o,rfl,rfl,h⟩
 refine l9 h (fun _ h=>?_) (fun _ h=>?_)
 ·refine O6 n fun az f=>?_
  refine u1 (lW Tryz.isAgg49 Tryz.sizeOf49 rfl (f.bring 1)) ?_
  refine f9 Tryz.call90 (h g0) f ?_
  rintro _ _ _ ba v _ y ⟨z,aa,rfl,rfl,h⟩
  refine ⟨(y _ (f.bring 1).lt1 (Inv.X0 (Fi:=[bx g0 66 (f7 o)]) ((f.bring 1).bring 1))),?_⟩
  refine Q9 (e:=49) (c:=i7) (xs:=[b,z]) v (b8l _ _ _ _ _ _ _ _ _ _ _ _ _ _ _ _) rfl rfl N4 N5 (nb rfl) fun k bb bc ab ac bd=>?_
  refine o5 (a7b _ _ _ _) ?_
  refine o9 (ac.bring 2) Tryz.sizeOf49 (vs:=[(vi 6),(vi 0),(nS),(vs k)]) fun be ad bf=>?_
  obtain ⟨ae,af,ag,ah,ai⟩:=Inv.freezeC (ad.bring 1) ab (by decide)
  replace h:=h k ae ag ah ai
  exact hn2 ((f8.mk 6 0 (Sl.mk none 0 0) k),aa,d) _ _ h (((af.bring 2).bring 2).bring 2)
 ·exact hx1 _ _ (hj1 o b d u _ (((n.bring 2).bring 2).bring 2) h)
def V6(d:Int)(e:ByteArray)(f:Sl)(g:(List f8))(i:Sl)(j:Sl)(p1:a8)(k:b9)(H:Hp)(K:b9→a8→Hp→Prop):Prop:=
 ∀(a:Sl)(b:Hp),Hle H b→SlH b 4 i7 a g→a.n≤a.c→
 K (b9.mk d e f a i j) p1 b
def G0(b1N:Int)(G8:a8)(f:Int)(g:ByteArray)(d:(List d9))(i:Sl)(j:Sl)(k:Sl)(s:b9)(H:Hp)(K:b9→a8→Hp→Prop):Prop:=
 t6 G8 ⟨#[61]⟩ H (fun l m=>
 C7 l b1N m (fun e o p=>
 (d.length+([e]:List d9).length)*57≤140737488355328∧
 t6 o ⟨#[59]⟩ p (fun q r=>
 ∀(a:Sl)(b:Hp),Hle r b→SlH b 4 g7 a (d++[e])→a.n≤a.c→
 K (b9.mk f g a i j k) q b)))
def a5g(x0:a8)(x1:Int)(H:Hp)(K:b9→a8→Hp→Prop):Prop:=
 q7 x0 ⟨#[115,107,105,112]⟩ H (fun d e f=>
 (d=true→
 t6 e ⟨#[59]⟩ f (fun ag ah=>
 K (b9.mk 7 ⟨#[]⟩ (Sl.mk none 0 0) (Sl.mk none 0 0) (Sl.mk none 0 0) (Sl.mk none 0 0)) ag ah))∧
 (d=false→
 q7 e ⟨#[97,115,115,101,114,116]⟩ f (fun g i j=>
 (g=true→
 Z2 i 5 x1 j (fun ai aj ak=>
 K ai aj ak))∧
 (g=false→
 q7 i ⟨#[97,115,115,117,109,101]⟩ j (fun k l m=>
 (k=true→
 Z2 l 6 x1 m (fun al am an=>
 K al am an))∧
 (k=false→
 q7 l ⟨#[119,104,105,108,101]⟩ m (fun o p q=>
 (o=true→
 O3 p x1 q (fun ao ap aq=>
 N0 ap (IntKind.wrap .i64 (x1+1)) aq (fun ar au av=>
 ∀(a:Sl)(b:Hp),Hle av b→SlH b 4 i7 a [ao]→a.n≤a.c→
 K (b9.mk 4 ⟨#[]⟩ (Sl.mk none 0 0) a ar (Sl.mk none 0 0)) au b)))∧
 (o=false→
 q7 p ⟨#[105,102]⟩ q (fun r s t=>
 (r=true→
 O3 s x1 t (fun u aw ax=>
 N0 aw (IntKind.wrap .i64 (x1+1)) ax (fun v ay az=>
 q7 ay ⟨#[101,108,115,101]⟩ az (fun y z aa=>
 (y=true→
 N0 z (IntKind.wrap .i64 (x1+1)) aa (fun ba bb bc=>
 V6 3 ⟨#[]⟩ (Sl.mk none 0 0) [u] v ba bb (b9.mk 0 ⟨#[]⟩ (Sl.mk none 0 0) (Sl.mk none 0 0) (Sl.mk none 0 0) (Sl.mk none 0 0)) bc K))∧
 (y=false→
 V6 3 ⟨#[]⟩ (Sl.mk none 0 0) [u] v (Sl.mk none 0 0) z (b9.mk 0 ⟨#[]⟩ (Sl.mk none 0 0) (Sl.mk none 0 0) (Sl.mk none 0 0) (Sl.mk none 0 0)) aa K)))))∧
 (r=false→
 a1y s t (fun ab bd be=>
 q7 bd ⟨#[91]⟩ be (fun ac ad ae=>
 (ac=true→
 C7 ad (IntKind.wrap .i64 (x1+1)) ae (fun af bf bg=>
 (([]:List d9).length+([af]:List d9).length)*57≤140737488355328∧
 t6 bf ⟨#[93]⟩ bg (fun bh bi=>
 G0 x1 bh 2 ab [af] (Sl.mk none 0 0) (Sl.mk none 0 0) (Sl.mk none 0 0) (b9.mk 0 ⟨#[]⟩ (Sl.mk none 0 0) (Sl.mk none 0 0) (Sl.mk none 0 0) (Sl.mk none 0 0)) bi K)))∧
 (ac=false→
 G0 x1 ad 1 ab [] (Sl.mk none 0 0) (Sl.mk none 0 0) (Sl.mk none 0 0) (b9.mk 0 ⟨#[]⟩ (Sl.mk none 0 0) (Sl.mk none 0 0) (Sl.mk none 0 0) (Sl.mk none 0 0)) ae K)))))))))))))
theorem a9D(x0 x1){H K}(h:a5g x0 x1 H K):Z3 x0 x1 H K:=by
 intro g0
 refine Ct.of fun w0 w ps0 H0 R E I hR=>d2m ?_
 refine o7 I Tryz.zeroValue56 (cs:=[(vi 0),(eS),(nS),(nS),(nS),(nS)]) rfl fun t ez bs fa=>?_
 refine f9 Tryz.call67 (h g0) (bs.bring 1) ?_
 rintro _ _ _ fb ah _ _ ⟨fc,fd,rfl,rfl,h⟩
 refine l9 h (fun _ h=>?_) (fun _ h=>?_)
 ·refine f9 Tryz.call65 (h g0) ah ?_
  rintro _ bt _ fe bu _ _ ⟨bv,rfl,rfl,h⟩
  refine a7 (c1k _) ?_
  refine o9 (bu.bring 1) Tryz.sizeOf56 (vs:=[(vi 7),(eS),(nS),(nS),(nS),(nS)]) fun ff ai fg=>?_
  refine q8 Tryz.isAgg56 Tryz.sizeOf56 rfl ai ?_
  exact hR _ bt _ _ ai.drop ⟨(b9.mk 7 ⟨#[]⟩ (Sl.mk none 0 0) (Sl.mk none 0 0) (Sl.mk none 0 0) (Sl.mk none 0 0)),bv,rfl,rfl,h⟩
 ·refine f9 Tryz.call67 (h g0) ah ?_
  rintro _ _ _ fh aj _ _ ⟨fi,fj,rfl,rfl,h⟩
  refine l9 h (fun _ h=>?_) (fun _ h=>?_)
  ·refine f9 Tryz.call68 (h g0) aj ?_
   rintro _ bw _ fk bz _ _ ⟨ak,ca,rfl,rfl,h⟩
   refine o9 (bz.bring 1) Tryz.sizeOf56 (vs:=(m6 ak)) fun fl al fm=>?_
   refine q8 Tryz.isAgg56 Tryz.sizeOf56 rfl al ?_
   exact hR _ bw _ _ al.drop ⟨ak,ca,rfl,rfl,h⟩
  ·refine f9 Tryz.call67 (h g0) aj ?_
   rintro _ _ _ fn am _ _ ⟨fo,fp,rfl,rfl,h⟩
   refine l9 h (fun _ h=>?_) (fun _ h=>?_)
   ·refine f9 Tryz.call68 (h g0) am ?_
    rintro _ cb _ fq cc _ _ ⟨an,cd,rfl,rfl,h⟩
    refine o9 (cc.bring 1) Tryz.sizeOf56 (vs:=(m6 an)) fun fs ao ft=>?_
    refine q8 Tryz.isAgg56 Tryz.sizeOf56 rfl ao ?_
    exact hR _ cb _ _ ao.drop ⟨an,cd,rfl,rfl,h⟩
   ·refine f9 Tryz.call67 (h g0) am ?_
    rintro _ _ _ fu ap _ _ ⟨fv,fw,rfl,rfl,h⟩
    refine l9 h (fun _ h=>?_) (fun _ h=>?_)
    ·refine f9 Tryz.call43 (h g0) ap ?_
     rintro _ _ _ fx ce _ _ ⟨ab,aq,rfl,rfl,h⟩
     refine o7 ce Tryz.zeroValue49 (cs:=[(vi 0),(vi 0),(nS),(nS)]) rfl fun fy fz cf ga=>?_
     refine o9 cf Tryz.sizeOf49 (vs:=(i7 ab)) fun gb cg gc=>?_
     refine O6 cg fun gd r=>?_
     refine o5 pAd ?_
     refine u1 (lW Tryz.isAgg49 Tryz.sizeOf49 rfl r) ?_
     refine ⟨?_,?_⟩
     ·refine Q9 (e:=49) (c:=i7) (xs:=[ab]) r (a7q _ _ _ _ _ _ _ _) rfl rfl N4 N5 (nb rfl) fun ac ge gf ch ad gg=>?_
      refine f9 Tryz.call69 (h g0) (ad.bring 2) ?_
      rintro _ _ _ gh ci _ cj ⟨ar,ck,rfl,rfl,h⟩
      refine ⟨(cj _ (ad.bring 1).lt1 (Inv.X0 (Fi:=[bx g0 66 (f7 aq)]) ((ad.bring 1).bring 2))),?_⟩
      refine o5 (b3K _ _ _ _ _ _ _) ?_
      refine o9 (ci.bring 3) Tryz.sizeOf56 (vs:=[(vi 4),(eS),(nS),(vs ac),(vs ar),(nS)]) fun gi au gj=>?_
      refine q8 Tryz.isAgg56 Tryz.sizeOf56 rfl au ?_
      obtain ⟨av,cl,cm,cn,co⟩:=Inv.freezeC (au.bring 2) ch (by decide)
      replace h:=h ac av cm cn co
      exact hR _ av _ _ (cl.drop.bring 1).drop ⟨(b9.mk 4 ⟨#[]⟩ (Sl.mk none 0 0) ac ar (Sl.mk none 0 0)),ck,rfl,rfl,h⟩
     ·refine f9 Tryz.call69 (h g0) (r.bring 1) ?_
      rintro _ _ _ gk cp _ cq ⟨aw,cr,rfl,rfl,h⟩
      refine ⟨(cq _ r.lt1 (Inv.X0 (Fi:=[bx g0 66 (f7 aq)]) (r.bring 1))),?_⟩
      refine Q9 (e:=49) (c:=i7) (xs:=[ab]) cp (a7q _ _ _ _ _ _ _ _) rfl rfl N4 N5 (nb rfl) fun ae gl gm ct cu gn=>?_
      refine o5 (b3K _ _ _ _ _ _ _) ?_
      refine o9 (cu.bring 3) Tryz.sizeOf56 (vs:=[(vi 4),(eS),(nS),(vs ae),(vs aw),(nS)]) fun go ax gp=>?_
      refine q8 Tryz.isAgg56 Tryz.sizeOf56 rfl ax ?_
      obtain ⟨ay,cv,cw,cx,cy⟩:=Inv.freezeC (ax.bring 1) ct (by decide)
      replace h:=h ae ay cw cx cy
      exact hR _ ay _ _ (cv.drop.bring 1).drop ⟨(b9.mk 4 ⟨#[]⟩ (Sl.mk none 0 0) ae aw (Sl.mk none 0 0)),cr,rfl,rfl,h⟩
    ·refine f9 Tryz.call67 (h g0) ap ?_
     rintro _ _ _ gq az _ _ ⟨gr,gs,rfl,rfl,h⟩
     refine l9 h (fun _ h=>?_) (fun _ h=>?_)
     ·refine f9 Tryz.call43 (h g0) az ?_
      rintro _ _ _ gt cz _ _ ⟨ba,gu,rfl,rfl,h⟩
      refine Q9 (e:=49) (c:=i7) (xs:=[ba]) cz (a7q _ _ _ _ _ _ _ _) rfl rfl N4 N5 (nb rfl) fun b da gv db dc gw=>?_
      refine a7 (b5r _ _ _ _) ?_
      refine o7 dc Tryz.zeroValue56 (cs:=[(vi 0),(eS),(nS),(nS),(nS),(nS)]) rfl fun bb gx dd gy=>?_
      refine o9 dd Tryz.sizeOf56 (vs:=[(vi 3),(eS),(nS),(vs b),(nS),(nS)]) fun gz de ha=>?_
      refine a7 pAd ?_
      refine f9 Tryz.call69 (h g0) (de.bring 2) ?_
      rintro _ _ _ hb df _ _ ⟨bc,hc,rfl,rfl,h⟩
      refine a7 a0Y ?_
      refine A9 (df.bring 1) Tryz.sizeOf24 fun hd dg he=>?_
      have hj1:∀(d:Int)(f:ByteArray)(g:Sl)(i:Sl)(j:Sl)(p1:a8) H w (_:Inv w0 ps0 H0 H [bx bb 56 [(vi d),(Value.string f),(vs g),(vs b),(vs i),(vs j)],bx g0 66 (f7 p1),bx t 56 [(vi (b9.mk 0 ⟨#[]⟩ (Sl.mk none 0 0) (Sl.mk none 0 0) (Sl.mk none 0 0) (Sl.mk none 0 0)).d8),(Value.string (b9.mk 0 ⟨#[]⟩ (Sl.mk none 0 0) (Sl.mk none 0 0) (Sl.mk none 0 0) (Sl.mk none 0 0)).t7),(Value.slice (b9.mk 0 ⟨#[]⟩ (Sl.mk none 0 0) (Sl.mk none 0 0) (Sl.mk none 0 0) (Sl.mk none 0 0)).o4.a (b9.mk 0 ⟨#[]⟩ (Sl.mk none 0 0) (Sl.mk none 0 0) (Sl.mk none 0 0) (Sl.mk none 0 0)).o4.n (b9.mk 0 ⟨#[]⟩ (Sl.mk none 0 0) (Sl.mk none 0 0) (Sl.mk none 0 0) (Sl.mk none 0 0)).o4.c),(Value.slice (b9.mk 0 ⟨#[]⟩ (Sl.mk none 0 0) (Sl.mk none 0 0) (Sl.mk none 0 0) (Sl.mk none 0 0)).v8.a (b9.mk 0 ⟨#[]⟩ (Sl.mk none 0 0) (Sl.mk none 0 0) (Sl.mk none 0 0) (Sl.mk none 0 0)).v8.n (b9.mk 0 ⟨#[]⟩ (Sl.mk none 0 0) (Sl.mk none 0 0) (Sl.mk none 0 0) (Sl.mk none 0 0)).v8.c),(Value.slice (b9.mk 0 ⟨#[]⟩ (Sl.mk none 0 0) (Sl.mk none 0 0) (Sl.mk none 0 0) (Sl.mk none 0 0)).J5.a (b9.mk 0 ⟨#[]⟩ (Sl.mk none 0 0) (Sl.mk none 0 0) (Sl.mk none 0 0) (Sl.mk none 0 0)).J5.n (b9.mk 0 ⟨#[]⟩ (Sl.mk none 0 0) (Sl.mk none 0 0) (Sl.mk none 0 0) (Sl.mk none 0 0)).J5.c),(Value.slice (b9.mk 0 ⟨#[]⟩ (Sl.mk none 0 0) (Sl.mk none 0 0) (Sl.mk none 0 0) (Sl.mk none 0 0)).H7.a (b9.mk 0 ⟨#[]⟩ (Sl.mk none 0 0) (Sl.mk none 0 0) (Sl.mk none 0 0) (Sl.mk none 0 0)).H7.n (b9.mk 0 ⟨#[]⟩ (Sl.mk none 0 0) (Sl.mk none 0 0) (Sl.mk none 0 0) (Sl.mk none 0 0)).H7.c)],da] w) (_:V6 d f g ([ba]) i j p1 (b9.mk 0 ⟨#[]⟩ (Sl.mk none 0 0) (Sl.mk none 0 0) (Sl.mk none 0 0) (Sl.mk none 0 0)) H K),c4H (Value.pointer (some ⟨t,0,none⟩)) (Value.pointer (some ⟨bb,0,none⟩)) w R E:=by
       intro d f g i j p1 H w I h
       intro _
       refine c8 (ldA Tryz.isAgg56 Tryz.sizeOf56 rfl (I.at1 (o:=0) (vs:=[(vi d),(Value.string f),(vs g),(vs b),(vs i),(vs j)]) (nb rfl) rfl)) ?_
       refine o9 (I.bring 2) Tryz.sizeOf56 (vs:=[(vi d),(Value.string f),(vs g),(vs b),(vs i),(vs j)]) fun hf bd hg=>?_
       refine q8 Tryz.isAgg56 Tryz.sizeOf56 rfl bd ?_
       obtain ⟨be,dh,di,dj,dk⟩:=Inv.freezeC (bd.bring 3) db (by decide)
       replace h:=h b be di dj dk
       exact hR _ be _ _ dh.drop.drop ⟨(b9.mk d f g b i j),p1,rfl,rfl,h⟩
      refine p7 fun j1 hx1=>?_
      refine f9 Tryz.call67 (h g0) (dg.bring 1) ?_
      rintro _ dl _ hh bf _ _ ⟨hi,dm,rfl,rfl,h⟩
      refine l9 h (fun _ h=>?_) (fun _ h=>?_)
      ·refine a7 pAd ?_
       refine f9 Tryz.call69 (h g0) bf ?_
       rintro _ dn _ hj dp _ _ ⟨dq,dr,rfl,rfl,h⟩
       refine a7 a0Z ?_
       refine A9 (dp.bring 1) Tryz.sizeOf24 fun hk ds hl=>?_
       exact hx1 _ _ (hj1 3 ⟨#[]⟩ (Sl.mk none 0 0) bc dq dr dn _ ((((ds.bring 2).bring 3).bring 3).bring 3) h)
      ·exact hx1 _ _ (hj1 3 ⟨#[]⟩ (Sl.mk none 0 0) bc (Sl.mk none 0 0) dm dl _ ((((bf.bring 2).bring 3).bring 2).bring 3) h)
     ·refine f9 Tryz.call64 (h g0) az ?_
      rintro _ _ _ hm dt _ _ ⟨af,hn,rfl,rfl,h⟩
      refine a7 (b9w _ _) ?_
      refine o7 dt Tryz.zeroValue56 (cs:=[(vi 0),(eS),(nS),(nS),(nS),(nS)]) rfl fun bg ho du hp=>?_
      refine o9 du Tryz.sizeOf56 (vs:=[(vi 1),(Value.string af),(nS),(nS),(nS),(nS)]) fun hq dv hr=>?_
      have hj2:∀(G8:a8)(k:Int)(l:ByteArray)(u:(List d9))(m:Sl)(p:Sl)(q:Sl)(v:Sl)(ag:Frag) H w (_:RowL 40 4 g7 v u ag) (_:Inv w0 ps0 H0 H [bx g0 66 (f7 G8),bx bg 56 [(vi k),(Value.string l),(vs v),(vs m),(vs p),(vs q)],bx t 56 [(vi (b9.mk 0 ⟨#[]⟩ (Sl.mk none 0 0) (Sl.mk none 0 0) (Sl.mk none 0 0) (Sl.mk none 0 0)).d8),(Value.string (b9.mk 0 ⟨#[]⟩ (Sl.mk none 0 0) (Sl.mk none 0 0) (Sl.mk none 0 0) (Sl.mk none 0 0)).t7),(Value.slice (b9.mk 0 ⟨#[]⟩ (Sl.mk none 0 0) (Sl.mk none 0 0) (Sl.mk none 0 0) (Sl.mk none 0 0)).o4.a (b9.mk 0 ⟨#[]⟩ (Sl.mk none 0 0) (Sl.mk none 0 0) (Sl.mk none 0 0) (Sl.mk none 0 0)).o4.n (b9.mk 0 ⟨#[]⟩ (Sl.mk none 0 0) (Sl.mk none 0 0) (Sl.mk none 0 0) (Sl.mk none 0 0)).o4.c),(Value.slice (b9.mk 0 ⟨#[]⟩ (Sl.mk none 0 0) (Sl.mk none 0 0) (Sl.mk none 0 0) (Sl.mk none 0 0)).v8.a (b9.mk 0 ⟨#[]⟩ (Sl.mk none 0 0) (Sl.mk none 0 0) (Sl.mk none 0 0) (Sl.mk none 0 0)).v8.n (b9.mk 0 ⟨#[]⟩ (Sl.mk none 0 0) (Sl.mk none 0 0) (Sl.mk none 0 0) (Sl.mk none 0 0)).v8.c),(Value.slice (b9.mk 0 ⟨#[]⟩ (Sl.mk none 0 0) (Sl.mk none 0 0) (Sl.mk none 0 0) (Sl.mk none 0 0)).J5.a (b9.mk 0 ⟨#[]⟩ (Sl.mk none 0 0) (Sl.mk none 0 0) (Sl.mk none 0 0) (Sl.mk none 0 0)).J5.n (b9.mk 0 ⟨#[]⟩ (Sl.mk none 0 0) (Sl.mk none 0 0) (Sl.mk none 0 0) (Sl.mk none 0 0)).J5.c),(Value.slice (b9.mk 0 ⟨#[]⟩ (Sl.mk none 0 0) (Sl.mk none 0 0) (Sl.mk none 0 0) (Sl.mk none 0 0)).H7.a (b9.mk 0 ⟨#[]⟩ (Sl.mk none 0 0) (Sl.mk none 0 0) (Sl.mk none 0 0) (Sl.mk none 0 0)).H7.n (b9.mk 0 ⟨#[]⟩ (Sl.mk none 0 0) (Sl.mk none 0 0) (Sl.mk none 0 0) (Sl.mk none 0 0)).H7.c)],ag] w) (_:G0 x1 G8 k l u m p q (b9.mk 0 ⟨#[]⟩ (Sl.mk none 0 0) (Sl.mk none 0 0) (Sl.mk none 0 0) (Sl.mk none 0 0)) H K),c4I (Value.pointer (some ⟨g0,0,none⟩)) (vi x1) (Value.pointer (some ⟨t,0,none⟩)) (Value.pointer (some ⟨bg,0,none⟩)) w R E:=by
       intro G8 k l u m p q v ag H w dw I h
       intro _
       refine f9 Tryz.call65 (h g0) I ?_
       rintro _ _ _ hs dx _ _ ⟨dy,rfl,rfl,h⟩
       refine O6 dx fun ht y=>?_
       refine o5 M7 ?_
       refine u1 (l1 Tryz.isAgg38 (y.bring 1) rfl) ?_
       refine f9 Tryz.call37 (h g0) y ?_
       rintro _ _ _ hu bh _ dz ⟨ea,hv,rfl,rfl,h⟩
       refine ⟨(dz _ (y.bring 1).lt1 (Inv.X0 (Fi:=[bx g0 66 (f7 dy)]) ((y.bring 1).bring 1))),?_⟩
       refine Q9 (e:=40) (c:=g7) (xs:=[ea]) bh (a9m _ _ _ _ _ _) rfl rfl F6 F7 (nb rfl) fun hw hx hy eb bi ec=>?_
       refine ⟨(ec _ (bh.bring 1).lt1),?_⟩
       obtain ⟨ed,h⟩:=h
       refine b7A (s:=v) (xs:=u) (bi.bring 4) dw (eb.srcO ((bi.bring 4).bring 1)) ed fun z hz ia ee ef ib=>?_
       refine o5 M7 ?_
       refine A9 ((ef.bring 1).drop.bring 2) Tryz.sizeOf38 fun ic eg id=>?_
       refine f9 Tryz.call65 (h g0) (eg.bring 2) ?_
       rintro _ _ _ ie bj _ _ ⟨eh,rfl,rfl,h⟩
       refine c8 (ldA Tryz.isAgg56 Tryz.sizeOf56 rfl ((bj.bring 1).at1 (o:=0) (vs:=[(vi k),(Value.string l),(vs z),(vs m),(vs p),(vs q)]) (nb rfl) rfl)) ?_
       refine o9 (bj.bring 3) Tryz.sizeOf56 (vs:=[(vi k),(Value.string l),(vs z),(vs m),(vs p),(vs q)]) fun ig bk ih=>?_
       refine q8 Tryz.isAgg56 Tryz.sizeOf56 rfl bk ?_
       obtain ⟨bl,ei,ej,ek,el⟩:=Inv.freezeC (bk.bring 3) ee (by decide)
       replace h:=h z bl ej ek el
       exact hR _ bl _ _ (ei.drop.bring 1).drop ⟨(b9.mk k l z m p q),eh,rfl,rfl,h⟩
      refine p7 fun j2 hx2=>?_
      refine f9 Tryz.call67 (h g0) (dv.bring 1) ?_
      rintro _ em _ ii bm _ _ ⟨ij,bn,rfl,rfl,h⟩
      refine l9 h (fun _ h=>?_) (fun _ h=>?_)
      ·refine a7 Q2 ?_
       refine A9 (bm.bring 1) Tryz.sizeOf3 fun ik en il=>?_
       refine O6 en fun im aa=>?_
       refine o5 M7 ?_
       refine o5 pAd ?_
       refine u1 (l1 Tryz.isAgg38 aa rfl) ?_
       refine f9 Tryz.call37 (h g0) (aa.bring 1) ?_
       rintro _ _ _ io bo _ eo ⟨bp,ip,rfl,rfl,h⟩
       refine ⟨(eo _ aa.lt1 (Inv.X0 (Fi:=[bx g0 66 (f7 bn)]) (aa.bring 1))),?_⟩
       refine Q9 (e:=40) (c:=g7) (xs:=[bp]) bo (a9m _ _ _ _ _ _) rfl rfl F6 F7 (nb rfl) fun iq ir it ep bq eq=>?_
       refine ⟨(eq _ (bo.bring 1).lt1),?_⟩
       obtain ⟨er,h⟩:=h
       refine b7A (s:=⟨none,0,0⟩) (xs:=[]) bq.nil (RowL.nil F6 F7) (ep.srcO (bq.nil.bring 1)) er fun es et iu br eu iv=>?_
       simp only [List.nil_append] at br
       refine o5 M7 ?_
       refine A9 ((eu.bring 1).drop.bring 2) Tryz.sizeOf38 fun iw ev ix=>?_
       refine f9 Tryz.call65 (h g0) (ev.bring 2) ?_
       rintro _ ew _ iy ex _ _ ⟨ey,rfl,rfl,h⟩
       exact hx2 _ _ (hj2 ey 2 af [bp] (Sl.mk none 0 0) (Sl.mk none 0 0) (Sl.mk none 0 0) es et ew _ br ((((ex.bring 2).bring 3).bring 3).bring 3) h)
      ·exact hx2 _ _ (hj2 bn 1 af [] (Sl.mk none 0 0) (Sl.mk none 0 0) (Sl.mk none 0 0) (Sl.mk none 0 0) [] em _ (RowL.nil F6 F7) (((bm.nil.bring 3).bring 3).bring 3) h)
def a6I(b4T:ByteArray)(a9h:Int)(H:Hp)(n2:Int→Hp→Prop)(n4:Int→Hp→Prop)(K:Int→Hp→Prop):Prop:=
 ((decide (a9h < (b4T.size:Int)))=true→(0:Int)≤a9h∧a9h < (b4T.size:Int))∧
 (((decide (a9h < (b4T.size:Int)))&&(!decide (((b4T.get! (a9h:Int).toNat).toNat:Int)=10)))=true→
 n4 (IntKind.wrap .i64 (a9h+1)) H)∧
 (((decide (a9h < (b4T.size:Int)))&&(!decide (((b4T.get! (a9h:Int).toNat).toNat:Int)=10)))=false→
 n2 a9h H)
def X6(V1:Int)(H:Hp)(K:Int→Hp→Prop):Prop:=
 K V1 H
def a3d(c6Z:ByteArray)(b1Q:Int)(b8t:Int)(b3g:Int)(H:Hp)(n2:Int→Hp→Prop)(K:Int→Hp→Prop):Prop:=
 (((!decide (b8t=1))&&(!decide (b8t=2)))=true→
 X6 b1Q H K)∧
 (((!decide (b8t=1))&&(!decide (b8t=2)))=false→
 n2 (IntKind.wrap .i64 (b1Q+b3g)) H)
def a6J(M8:ByteArray)(R1:Int)(H:Hp)(n2:Int→Hp→Prop)(K:Int→Hp→Prop):Prop:=
 (R1 < (M8.size:Int)→
 U2 M8 R1 H (fun b c a=>
 (0:Int)≤R1∧R1 < (M8.size:Int)∧
 (((M8.get! (R1:Int).toNat).toNat:Int)=35→
 TL (R1:Int) a fun(s:Int) H n4=>a6I M8 s H n2 n4 K)∧
 (¬(((M8.get! (R1:Int).toNat).toNat:Int)=35)→
 a3d M8 R1 b c a n2 K)))∧
 (¬(R1 < (M8.size:Int))→
 X6 R1 H K)
def a7P(x0:ByteArray)(x1:Int)(H:Hp)(K:Int→Hp→Prop):Prop:=
 TL (x1:Int) H fun(s:Int) H n2=>a6J x0 s H n2 K
theorem b3h(x0 x1){H K}(h:a7P x0 x1 H K):a4m x0 x1 H K:=by
 refine Ct.of fun w0 w ps0 H0 R E I hR=>d2S ?_
 have hj1:∀(V1:Int) H w (_:Inv w0 ps0 H0 H [] w) (_:X6 V1 H K),c5e (vi V1) w R E:=by
  intro V1 H w I h
  intro _
  exact hR _ H _ _ I ⟨_,rfl,rfl,h⟩
 refine p7 fun j1 hx1=>?_
 refine A4 (σ:=Int) (fun R1=>[(vi R1)]) (fun R1=>[]) h rfl I ?_
 rintro R1 H m w next2 n2 e I h hn2
 simp only [List.map_cons,List.map_nil,List.cons.injEq,and_true] at e
 have e1:=e
 simp only [e1]
 refine a7 (X9 _) (a7 pLs ?_)
 refine m0 h (fun _ h=>?_) (fun _ h=>?_)
 ·refine f9 Tryz.call109 h I ?_
  rintro _ j _ n f _ _ ⟨d,c,rfl,rfl,h⟩
  refine a7 (m5 _ _ (vi d) rfl) (a7 (m5 _ _ (vi c) rfl) ?_)
  have hj3:∀(b1Q:Int) H w (_:Inv w0 ps0 H0 H [] w) (_:a3d x0 b1Q d c H n2 K),c5f (Value.string x0) (vi b1Q) (vi d) (vi c) w j1 next2 R E:=by
   intro b1Q H w I h
   intro _
   refine a7 pNe ?_
   simp only [p8]
   refine a7 (Pu.g fun a=>by simp only [g9 a];with_reducible exact pNe) ?_
   refine a7 (s6 _ _) ?_
   refine l9 h (fun _ h=>?_) (fun _ h=>?_)
   ·exact hx1 _ _ (hj1 b1Q H _ I h)
   ·refine a7 pAd ?_
    exact hn2 (IntKind.wrap .i64 (b1Q+c)) _ _ h I
  refine p7 fun j3 hx3=>?_
  obtain ⟨k,l,h⟩:=h
  refine a7 (a3j _ _ _ k l) (a7 pEq ?_)
  refine m0 h (fun _ h=>?_) (fun _ h=>?_)
  ·refine A4 (σ:=Int) (fun a9h=>[(vi a9h)]) (fun a9h=>[]) h rfl f ?_
   rintro a9h H o w next4 n4 i I h hn4
   simp only [List.map_cons,List.map_nil,List.cons.injEq,and_true] at i
   have e1:=i
   simp only [e1]
   refine a7 (X9 _) (a7 pLs ?_)
   simp only [p8]
   obtain ⟨b,h⟩:=h
   refine a7 (Pu.g fun hb=>by have a:=hb;simp only [g9 a];with_reducible exact (a3j _ _ _ (b hb).1 (b hb).2)) ?_
   refine a7 (Pu.g fun a=>by simp only [g9 a];with_reducible exact pNe) ?_
   refine a7 (s6 _ _) ?_
   refine l9 h (fun _ h=>?_) (fun _ h=>?_)
   ·refine a7 pAd ?_
    exact hn4 (IntKind.wrap .i64 (a9h+1)) _ _ h I
   ·exact hn2 a9h _ _ h I
  ·exact hx3 _ _ (hj3 R1 j _ f h)
 ·exact hx1 _ _ (hj1 R1 H _ I h)
def a8A(x0:l8)(H:Hp)(K:Bool→Hp→Prop):Prop:=
 a1b x0 H (fun a b=>
 K (decide (a.fbad=0)) b)
theorem b3A(x0){H K}(h:a8A x0 H K):a2r x0 H K:=by
 refine Ct.of fun w0 w ps0 H0 R E I hR=>d2s ?_
 refine Q1 I (cs:=(p5 x0)) rfl fun e f a g=>?_
 refine c8 (lW Tryz.isAgg26 Tryz.sizeOf26 rfl a) ?_
 refine f9 Tryz.call70 h a ?_
 rintro _ b _ i c _ _ ⟨d,rfl,rfl,h⟩
 refine a7 c0c (a7 pEq ?_)
 exact hR _ b _ _ c.drop ⟨_,rfl,rfl,h⟩
def a1C(a:d9)(b:d9)(H:Hp)(K:Bool→Hp→Prop):Prop:=
 K true H
def a5h(b:d9)(a:d9)(E7:Int)(H:Hp)(n2:Int→Hp→Prop)(K:Bool→Hp→Prop):Prop:=
 (E7 < (a.G4.n:Int)→
 (0:Int)≤E7∧(E7:Int) < a.G4.n∧∃c:d9,EltH H a.G4 E7 4 (g7 c)∧
 (0:Int)≤E7∧(E7:Int) < b.G4.n∧∃d:d9,EltH H b.G4 E7 4 (g7 d)∧
 V8 c d H (fun e f=>
 ((!e)=true→
 K false f)∧
 ((!e)=false→
 n2 (IntKind.wrap .i64 (E7+1)) f)))∧
 (¬(E7 < (a.G4.n:Int))→
 a1C b a H K)
def a6x(x0:d9)(x1:d9)(H:Hp)(K:Bool→Hp→Prop):Prop:=
 (((((!decide (x0.d8=x1.d8))||(!decide (x0.G9=x1.G9)))||(!decide (x0.t7=x1.t7)))||(!decide ((x0.G4.n:Int)=(x1.G4.n:Int))))=true→
 K false H)∧
 (((((!decide (x0.d8=x1.d8))||(!decide (x0.G9=x1.G9)))||(!decide (x0.t7=x1.t7)))||(!decide ((x0.G4.n:Int)=(x1.G4.n:Int))))=false→
 TL (0:Int) H fun(s:Int) H n2=>a5h x1 x0 s H n2 K)
theorem b0V(x0 x1){H K}(h:a6x x0 x1 H K):V8 x0 x1 H K:=by
 refine Ct.of fun w0 w ps0 H0 R E I hR=>d2a ?_
 refine Q1 I (cs:=(g7 x0)) rfl fun f v l y=>?_
 refine Q1 l (cs:=(g7 x1)) rfl fun i z b aa=>?_
 refine a7 a1M (c8 (l1 Tryz.isAgg3 (b.bring 1) rfl) (a7 a1M (c8 (l1 Tryz.isAgg3 b rfl) (a7 pNe ?_))))
 refine a7 (Pu.g fun a=>by with_reducible exact a8h) ?_
 refine c8 (Ld.g fun a=>by simp only [g9 a];exact (l1 Tryz.isAgg2 (b.bring 1) rfl)) ?_
 refine a7 (Pu.g fun a=>by with_reducible exact a8h) ?_
 refine c8 (Ld.g fun a=>by simp only [g9 a];exact (l1 Tryz.isAgg2 b rfl)) ?_
 refine a7 (Pu.g fun a=>by simp only [g9 a];with_reducible exact pNe) ?_
 refine a7 (y8 _ _) ?_
 refine a7 (Pu.g fun a=>by with_reducible exact a9U) ?_
 refine c8 (Ld.g fun a=>by simp only [g9 a];exact (l1 Tryz.isAgg9 (b.bring 1) rfl)) ?_
 refine a7 (Pu.g fun a=>by with_reducible exact a9U) ?_
 refine c8 (Ld.g fun a=>by simp only [g9 a];exact (l1 Tryz.isAgg9 b rfl)) ?_
 refine a7 (Pu.g fun a=>by simp only [g9 a];with_reducible exact (b9S _ _ _ _ _)) ?_
 refine a7 (y8 _ _) ?_
 refine a7 (Pu.g fun a=>by with_reducible exact a0V) ?_
 refine c8 (Ld.g fun a=>by simp only [g9 a];exact (l1 Tryz.isAgg38 (b.bring 1) rfl)) ?_
 refine a7 (Pu.g fun a=>by simp only [g9 a];with_reducible exact (O4 _ _ _)) ?_
 refine a7 (Pu.g fun a=>by with_reducible exact a0V) ?_
 refine c8 (Ld.g fun a=>by simp only [g9 a];exact (l1 Tryz.isAgg38 b rfl)) ?_
 refine a7 (Pu.g fun a=>by simp only [g9 a];with_reducible exact (O4 _ _ _)) ?_
 refine a7 (Pu.g fun a=>by simp only [g9 a];with_reducible exact pNe) ?_
 refine a7 (y8 _ _) ?_
 refine l9 h (fun _ h=>?_) (fun _ h=>?_)
 ·exact hR _ H _ _ b.drop.drop ⟨_,rfl,rfl,h⟩
 ·have hj1:∀H w (_:Inv w0 ps0 H0 H [bx i 40 (g7 x1),bx f 40 (g7 x0)] w) (_:a1C x1 x0 H K),c4z w R E:=by
   intro H w I h
   intro _
   exact hR _ H _ _ I.drop.drop ⟨_,rfl,rfl,h⟩
  refine p7 fun j1 hx1=>?_
  refine A4 (σ:=Int) (fun E7=>[(vi E7)]) (fun E7=>[bx i 40 (g7 x1),bx f 40 (g7 x0)]) h rfl ((b.bring 1).bring 1) ?_
  rintro E7 H ab w next2 n2 j I h hn2
  simp only [List.map_cons,List.map_nil,List.cons.injEq,and_true] at j
  have e5:=j
  simp only [e5]
  refine a7 a0V (c8 (l1 Tryz.isAgg38 (I.bring 1) rfl) (a7 (O4 _ _ _) (a7 pLs ?_)))
  refine m0 h (fun _ h=>?_) (fun _ h=>?_)
  ·refine O6 I fun ac c=>?_
   refine o5 a0V ?_
   refine o5 a0V ?_
   refine u1 (l1 Tryz.isAgg38 (c.bring 1) rfl) ?_
   obtain ⟨m,n,o,d,h⟩:=h
   obtain ⟨ad,ae,p,d⟩:=d
   refine o5 (a1N p _ _ _ _ m n) ?_
   refine u1 (ldA (vs:=(g7 o)) Tryz.isAgg40 Tryz.sizeOf40 rfl (c.atH d)) ?_
   refine u1 (l1 Tryz.isAgg38 c rfl) ?_
   obtain ⟨q,r,s,e,h⟩:=h
   obtain ⟨af,ag,t,e⟩:=e
   refine o5 (a1N t _ _ _ _ q r) ?_
   refine u1 (ldA (vs:=(g7 s)) Tryz.isAgg40 Tryz.sizeOf40 rfl (c.atH e)) ?_
   refine f9 Tryz.call15 h c ?_
   rintro _ u _ ah k _ _ ⟨ai,rfl,rfl,h⟩
   refine o5 (E1 _) ?_
   refine l9 h (fun _ h=>?_) (fun _ h=>?_)
   ·exact hR _ u _ _ k.drop.drop ⟨_,rfl,rfl,h⟩
   ·refine a7 pAd ?_
    exact hn2 (IntKind.wrap .i64 (E7+1)) _ _ h ((k.bring 1).bring 1)
  ·exact hx1 _ _ (hj1 H _ ((I.bring 1).bring 1) h)
def b0d(x0:m7)(H:Hp)(K:k7→Hp→Prop):Prop:=
 K (k7.Q6 (a0U.mk x0)) H
theorem b4U(x0){H K}(h:b0d x0 H K):a9W x0 H K:=by
 refine Ct.of fun w0 w ps0 H0 R E I hR=>d3u ?_
 refine Q1 I (cs:=(u5 x0)) rfl fun b c a d=>?_
 refine c8 (lW Tryz.isAgg68 Tryz.sizeOf68 rfl a) (a7 (c0g _ _) (a7 (b8p (a0U.mk x0)) ?_))
 exact hR _ H _ _ a.drop ⟨_,rfl,rfl,h⟩
def a7j(x0:b7)(H:Hp)(K:b6→Hp→Prop):Prop:=
 (0:Int)≤x0.fn∧(x0.fn:Int) < x0.fl.n∧∃a:b6,EltH H x0.fl x0.fn 5 (i8 a)∧
 K a H
theorem b1R(x0){H K}(h:a7j x0 H K):C0 x0 H K:=by
 intro g0
 refine Ct.of fun w0 w ps0 H0 R E I hR=>d2F ?_
 refine o7 I Tryz.zeroValue103 (cs:=[(vi 0),(eS),(vi 0),(vi 0),(vi 0)]) rfl fun j k e l=>?_
 refine O6 e fun m a=>?_
 refine o5 (o3 _) ?_
 refine o5 c1l ?_
 refine o5 (o3 _) ?_
 refine o5 a5P ?_
 refine u1 (l1 Tryz.isAgg61 (a.bring 1) rfl) ?_
 refine u1 (l1 Tryz.isAgg3 (a.bring 1) rfl) ?_
 obtain ⟨f,g,b,c,h⟩:=h
 obtain ⟨n,o,i,c⟩:=c
 refine o5 (b4I i _ _ _ _ f g) ?_
 refine u1 (ldA (vs:=(i8 b)) Tryz.isAgg103 Tryz.sizeOf103 rfl (a.atH c)) ?_
 refine o9 a Tryz.sizeOf103 (vs:=(i8 b)) fun p d q=>?_
 refine q8 Tryz.isAgg103 Tryz.sizeOf103 rfl d ?_
 exact hR _ H _ _ d.drop ⟨b,rfl,rfl,h⟩
def b3i(x0:b7)(x1:ByteArray)(H:Hp)(K:Bool→Hp→Prop):Prop:=
 C0 x0 H (fun a b=>
 K (((decide (a.d8=3))||(decide (a.d8=4)))&&(decide (a.C3=x1))) b)
theorem b3j(x0 x1){H K}(h:b3i x0 x1 H K):u6 x0 x1 H K:=by
 intro g0
 refine Ct.of fun w0 w ps0 H0 R E I hR=>d2H ?_
 refine f9 Tryz.call51 (h g0) I ?_
 rintro _ d _ i e _ _ ⟨c,rfl,rfl,h⟩
 refine o7 e Tryz.zeroValue103 (cs:=[(vi 0),(eS),(vi 0),(vi 0),(vi 0)]) rfl fun j k f l=>?_
 refine o9 f Tryz.sizeOf103 (vs:=(i8 c)) fun m b n=>?_
 refine a7 W6 (c8 (l1 Tryz.isAgg3 b rfl) (a7 pEq ?_))
 refine a7 (Pu.g fun a=>by with_reducible exact W6) ?_
 refine c8 (Ld.g fun a=>by simp only [g9 a];exact (l1 Tryz.isAgg3 b rfl)) ?_
 refine a7 (Pu.g fun a=>by simp only [g9 a];with_reducible exact pEq) ?_
 refine a7 (y8 _ _) ?_
 refine a7 (Pu.g fun a=>by with_reducible exact Q7) ?_
 refine c8 (Ld.g fun a=>by simp only [g9 a];exact (l1 Tryz.isAgg9 b rfl)) ?_
 simp only [p8]
 refine a7 (Pu.g fun a=>by simp only [g9 a];with_reducible exact (G1 _ _ _ _ _)) ?_
 refine a7 (s6 _ _) ?_
 exact hR _ d _ _ b.drop ⟨_,rfl,rfl,h⟩
def b1S [PanQ] (x0:b7) (H:Hp) (K:Hp→Prop):Prop:=
 C0 x0 H (fun a b=>
 PanQ.q (Value.iface 98 (Value.agg #[(vi a.fAt.B9),(vi a.fAt.K8),(vi 40)])))
theorem b1T [PanQ] (x0:b7) {H:Hp} {K:Hp→Prop} (h:b1S x0 H K):E6 x0 H K:=by
 intro g0
 refine Ct.ofE fun w0 w ps0 H0 R E I hR hE=>d2G ?_
 refine f9 Tryz.call51 (h g0) I ?_
 rintro _ b _ c a _ _ ⟨d,rfl,rfl,h⟩
 refine a7 b2Q (a7 (b5s _ _ _) (a7 (b6T _ _ _) ?_))
 exact b3F (hE _ _ _ _ a ⟨_,rfl,h⟩)
def b1U [PanQ] (x0:b7) (x1:ByteArray) (H:Hp) (K:b7→Hp→Prop):Prop:=
 y4 x0 x1 H (fun b a c=>
 ((!b)=true→
 E6 a c (fun d=>
 K a d))∧
 ((!b)=false→
 K a c))
theorem b1V [PanQ] (x0:b7) (x1:ByteArray) {H:Hp} {K:b7→Hp→Prop} (h:b1U x0 x1 H K):C6 x0 x1 H K:=by
 intro g0
 refine Ct.ofE fun w0 w ps0 H0 R E I hR hE=>c8Y ?_
 refine f9 Tryz.call105 (h g0) I ?_
 rintro _ c _ f a _ _ ⟨g,b,rfl,rfl,h⟩
 refine a7 (E1 _) ?_
 refine l9 h (fun _ h=>?_) (fun _ h=>?_)
 ·refine A7 hE Tryz.call52 (h g0) a ?_
  rintro _ d _ i e _ _ ⟨rfl,rfl,h⟩
  exact hR _ d _ _ e ⟨b,rfl,rfl,h⟩
 ·exact hR _ c _ _ a ⟨b,rfl,rfl,h⟩
def a3Y [PanQ] (b:R0) (p1:b7) (H:Hp) (K:Int→b7→Hp→Prop):Prop:=
 E6 p1 H (fun a=>
 K 0 p1 a)
def a3Z [PanQ] (y1:R0) (c:R0) (C4:Int) (r9:b7) (H:Hp) (n2:(Int×b7)→Hp→Prop) (K:Int→b7→Hp→Prop):Prop:=
 (C4 < 7→
 (0:Int)≤C4∧(C4:Int) < 7∧
 TG ((decide (0 < C4))=true) (fun k_=>y4 r9 (([y1.f0,y1.f1,y1.f2,y1.f3,y1.f4,y1.f5,y1.f6]:List ByteArray).getD (C4:Int).toNat ⟨#[]⟩) H fun d e H_=>k_ (d,e) H_) (false,r9) H (fun(a:Bool×b7)(b:Hp)=>
 (((decide (0 < C4))&&a.1)=true→
 K C4 a.2 b)∧
 (((decide (0 < C4))&&a.1)=false→
 n2 ((IntKind.wrap .i64 (C4+1)),a.2) b)))∧
 (¬(C4 < 7)→
 a3Y c r9 H K)
def a5F [PanQ] (x0:b7) (H:Hp) (K:Int→b7→Hp→Prop):Prop:=
 TL ((0,x0):Int×b7) H fun(s:Int×b7) H n2=>a3Z (R0.mk ⟨#[]⟩ ⟨#[60]⟩ ⟨#[60,61]⟩ ⟨#[61,61]⟩ ⟨#[33,61]⟩ ⟨#[62]⟩ ⟨#[62,61]⟩) (R0.mk ⟨#[]⟩ ⟨#[60]⟩ ⟨#[60,61]⟩ ⟨#[61,61]⟩ ⟨#[33,61]⟩ ⟨#[62]⟩ ⟨#[62,61]⟩) s.1 s.2 H n2 K
theorem b0e [PanQ] (x0:b7) {H:Hp} {K:Int→b7→Hp→Prop} (h:a5F x0 H K):a1R x0 H K:=by
 intro g0
 refine Ct.ofE fun w0 w ps0 H0 R E I hR hE=>c9H ?_
 refine a7 (b2S _ _ _ _ _ _ _) ?_
 refine o7 I Tryz.zeroValue195 (cs:=[(eS),(eS),(eS),(eS),(eS),(eS),(eS)]) rfl fun g v q y=>?_
 refine o9 q Tryz.sizeOf195 (vs:=[(eS),(Value.string ⟨#[60]⟩),(Value.string ⟨#[60,61]⟩),(Value.string ⟨#[61,61]⟩),(Value.string ⟨#[33,61]⟩),(Value.string ⟨#[62]⟩),(Value.string ⟨#[62,61]⟩)]) fun z k aa=>?_
 have hj1:∀(p1:b7) H w (_:Inv w0 ps0 H0 H [bx g 195 [(Value.string (R0.mk ⟨#[]⟩ ⟨#[60]⟩ ⟨#[60,61]⟩ ⟨#[61,61]⟩ ⟨#[33,61]⟩ ⟨#[62]⟩ ⟨#[62,61]⟩).f0),(Value.string (R0.mk ⟨#[]⟩ ⟨#[60]⟩ ⟨#[60,61]⟩ ⟨#[61,61]⟩ ⟨#[33,61]⟩ ⟨#[62]⟩ ⟨#[62,61]⟩).f1),(Value.string (R0.mk ⟨#[]⟩ ⟨#[60]⟩ ⟨#[60,61]⟩ ⟨#[61,61]⟩ ⟨#[33,61]⟩ ⟨#[62]⟩ ⟨#[62,61]⟩).f2),(Value.string (R0.mk ⟨#[]⟩ ⟨#[60]⟩ ⟨#[60,61]⟩ ⟨#[61,61]⟩ ⟨#[33,61]⟩ ⟨#[62]⟩ ⟨#[62,61]⟩).f3),(Value.string (R0.mk ⟨#[]⟩ ⟨#[60]⟩ ⟨#[60,61]⟩ ⟨#[61,61]⟩ ⟨#[33,61]⟩ ⟨#[62]⟩ ⟨#[62,61]⟩).f4),(Value.string (R0.mk ⟨#[]⟩ ⟨#[60]⟩ ⟨#[60,61]⟩ ⟨#[61,61]⟩ ⟨#[33,61]⟩ ⟨#[62]⟩ ⟨#[62,61]⟩).f5),(Value.string (R0.mk ⟨#[]⟩ ⟨#[60]⟩ ⟨#[60,61]⟩ ⟨#[61,61]⟩ ⟨#[33,61]⟩ ⟨#[62]⟩ ⟨#[62,61]⟩).f6)],bx g0 101 (g8 p1)] w) (_:a3Y (R0.mk ⟨#[]⟩ ⟨#[60]⟩ ⟨#[60,61]⟩ ⟨#[61,61]⟩ ⟨#[33,61]⟩ ⟨#[62]⟩ ⟨#[62,61]⟩) p1 H K),c2e (Value.pointer (some ⟨g0,0,none⟩)) w R E:=by
  intro p1 H w I h
  intro _
  refine A7 hE Tryz.call52 (h g0) (I.bring 1) ?_
  rintro _ r _ ab s _ _ ⟨rfl,rfl,h⟩
  exact hR _ r _ _ (s.bring 1).drop ⟨0,p1,rfl,rfl,h⟩
 refine p7 fun j1 hx1=>?_
 refine c8 (ldA Tryz.isAgg195 Tryz.sizeOf195 rfl (k.at1 (o:=0) (vs:=[(eS),(Value.string ⟨#[60]⟩),(Value.string ⟨#[60,61]⟩),(Value.string ⟨#[61,61]⟩),(Value.string ⟨#[33,61]⟩),(Value.string ⟨#[62]⟩),(Value.string ⟨#[62,61]⟩)]) (nb rfl) rfl)) ?_
 refine A4 (σ:=Int×b7) (fun (C4,r9)=>[(vi C4)]) (fun (C4,r9)=>[bx g 195 [(Value.string (R0.mk ⟨#[]⟩ ⟨#[60]⟩ ⟨#[60,61]⟩ ⟨#[61,61]⟩ ⟨#[33,61]⟩ ⟨#[62]⟩ ⟨#[62,61]⟩).f0),(Value.string (R0.mk ⟨#[]⟩ ⟨#[60]⟩ ⟨#[60,61]⟩ ⟨#[61,61]⟩ ⟨#[33,61]⟩ ⟨#[62]⟩ ⟨#[62,61]⟩).f1),(Value.string (R0.mk ⟨#[]⟩ ⟨#[60]⟩ ⟨#[60,61]⟩ ⟨#[61,61]⟩ ⟨#[33,61]⟩ ⟨#[62]⟩ ⟨#[62,61]⟩).f2),(Value.string (R0.mk ⟨#[]⟩ ⟨#[60]⟩ ⟨#[60,61]⟩ ⟨#[61,61]⟩ ⟨#[33,61]⟩ ⟨#[62]⟩ ⟨#[62,61]⟩).f3),(Value.string (R0.mk ⟨#[]⟩ ⟨#[60]⟩ ⟨#[60,61]⟩ ⟨#[61,61]⟩ ⟨#[33,61]⟩ ⟨#[62]⟩ ⟨#[62,61]⟩).f4),(Value.string (R0.mk ⟨#[]⟩ ⟨#[60]⟩ ⟨#[60,61]⟩ ⟨#[61,61]⟩ ⟨#[33,61]⟩ ⟨#[62]⟩ ⟨#[62,61]⟩).f5),(Value.string (R0.mk ⟨#[]⟩ ⟨#[60]⟩ ⟨#[60,61]⟩ ⟨#[61,61]⟩ ⟨#[33,61]⟩ ⟨#[62]⟩ ⟨#[62,61]⟩).f6)],bx g0 101 (g8 r9)]) h rfl ((k.bring 1).bring 1) ?_
 rintro ⟨C4,r9⟩ H ac w next2 n2 j I h hn2
 dsimp only at j I h
 simp only [List.map_cons,List.map_nil,List.cons.injEq,and_true] at j
 have e8:=j
 simp only [e8]
 refine a7 pLs ?_
 refine m0 h (fun _ h=>?_) (fun _ h=>?_)
 ·obtain ⟨t,u,h⟩:=h
  refine a7 (c3t _ _ _ _ _ _ _ _ _ t u) (a7 pGt ?_)
  simp only [p8]
  refine b5E (D:=fun l e=>∃(d:Bool)(a:b7)(b:Hp),l=(gv (decide (0 < C4)) true (vB d))∧(Inv w0 ps0 H0 b [bx g0 101 (g8 a),bx g 195 [(Value.string (R0.mk ⟨#[]⟩ ⟨#[60]⟩ ⟨#[60,61]⟩ ⟨#[61,61]⟩ ⟨#[33,61]⟩ ⟨#[62]⟩ ⟨#[62,61]⟩).f0),(Value.string (R0.mk ⟨#[]⟩ ⟨#[60]⟩ ⟨#[60,61]⟩ ⟨#[61,61]⟩ ⟨#[33,61]⟩ ⟨#[62]⟩ ⟨#[62,61]⟩).f1),(Value.string (R0.mk ⟨#[]⟩ ⟨#[60]⟩ ⟨#[60,61]⟩ ⟨#[61,61]⟩ ⟨#[33,61]⟩ ⟨#[62]⟩ ⟨#[62,61]⟩).f2),(Value.string (R0.mk ⟨#[]⟩ ⟨#[60]⟩ ⟨#[60,61]⟩ ⟨#[61,61]⟩ ⟨#[33,61]⟩ ⟨#[62]⟩ ⟨#[62,61]⟩).f3),(Value.string (R0.mk ⟨#[]⟩ ⟨#[60]⟩ ⟨#[60,61]⟩ ⟨#[61,61]⟩ ⟨#[33,61]⟩ ⟨#[62]⟩ ⟨#[62,61]⟩).f4),(Value.string (R0.mk ⟨#[]⟩ ⟨#[60]⟩ ⟨#[60,61]⟩ ⟨#[61,61]⟩ ⟨#[33,61]⟩ ⟨#[62]⟩ ⟨#[62,61]⟩).f5),(Value.string (R0.mk ⟨#[]⟩ ⟨#[60]⟩ ⟨#[60,61]⟩ ⟨#[61,61]⟩ ⟨#[33,61]⟩ ⟨#[62]⟩ ⟨#[62,61]⟩).f6)]] e)∧(∀i,i < w.heap.size→¬inF [bx g0 101 (g8 r9)] i→e.heap[i]? = w.heap[i]?)∧Hle H b∧((((decide (0 < C4))&&d)=true→
 K C4 a b)∧
 (((decide (0 < C4))&&d)=false→
 n2 ((IntKind.wrap .i64 (C4+1)),a) b))) (fun c=>?_) (fun c=>?_) ?_
  ·replace h:=h.1 c
   have m:=c
   simp only [g9 m]
   refine f9 Tryz.call105 (h g0) (I.bring 1) ?_
   rintro _ b _ e f n p ⟨d,a,rfl,rfl,h⟩
   exact ⟨d,a,b,by rfl,f,p,n,h⟩
  ·exact ⟨false,r9,H,by rw [b8j c],(I.bring 1),fun _ _ _=>rfl,Hle.refl _,h.2 c⟩
  ·clear h
   rintro l e ⟨d,a,b,rfl,f,p,n,h⟩
   refine a7 (s6 _ _) ?_
   refine l9 h (fun _ h=>?_) (fun _ h=>?_)
   ·exact hR _ b _ _ (f.bring 1).drop ⟨C4,a,rfl,rfl,h⟩
   ·refine a7 pAd ?_
    exact hn2 ((IntKind.wrap .i64 (C4+1)),a) _ _ h (f.bring 1)
 ·exact hx1 _ _ (hj1 r9 H _ ((I.bring 1).bring 1) h)
def a9E(x0:b7)(H:Hp)(K:Bool→Hp→Prop):Prop:=
 H8 x0 H (fun a d=>
 TG (a=false) (u6 x0 ⟨#[116,114,117,101]⟩ d) false d (fun(b:Bool)(e:Hp)=>
 TG ((a||b)=false) (u6 x0 ⟨#[102,97,108,115,101]⟩ e) false e (fun(c:Bool)(f:Hp)=>
 TG (((a||b)||c)=false) (u6 x0 ⟨#[33]⟩ f) false f (fun(g:Bool)(i:Hp)=>
 TG ((((a||b)||c)||g)=false) (u6 x0 ⟨#[91]⟩ i) false i (fun(j:Bool)(k:Hp)=>
 K ((((a||b)||c)||g)||j) k)))))
theorem a9F(x0){H K}(h:a9E x0 H K):S7 x0 H K:=by
 intro g0
 refine Ct.of fun w0 w ps0 H0 R E I hR=>c9F ?_
 refine f9 Tryz.call141 (h g0) I ?_
 rintro _ _ _ ai l _ _ ⟨ad,rfl,rfl,h⟩
 simp only [p8]
 refine C5 [bx g0 101 (g8 x0)] (fun b:Bool=>(vB b)) h l (fun a h=>by simp only [g9 a];exact D5 Tryz.call53 (h g0) l) fun b n ae f o p h=>?_
 refine a7 (y8 _ _) ?_
 simp only [p8]
 refine C5 [bx g0 101 (g8 x0)] (fun c:Bool=>(vB c)) h f (fun a h=>by simp only [g9 a];exact D5 Tryz.call53 (h g0) f) fun c r af g s t h=>?_
 refine a7 (y8 _ _) ?_
 simp only [p8]
 refine C5 [bx g0 101 (g8 x0)] (fun d:Bool=>(vB d)) h g (fun a h=>by simp only [g9 a];exact D5 Tryz.call53 (h g0) g) fun d v ag i y z h=>?_
 refine a7 (y8 _ _) ?_
 simp only [p8]
 refine C5 [bx g0 101 (g8 x0)] (fun e:Bool=>(vB e)) h i (fun a h=>by simp only [g9 a];exact D5 Tryz.call53 (h g0) i) fun e j ah k ab ac h=>?_
 refine a7 (y8 _ _) ?_
 exact hR _ j _ _ k ⟨_,rfl,rfl,h⟩
def a8P(H:Hp)(K:Int→Int→Hp→Prop):Prop:=
 K 0 0 H
def a8Q(M8:ByteArray)(b:ByteArray)(a:Nat)(H:Hp)(n2:Nat→Hp→Prop)(K:Int→Int→Hp→Prop):Prop:=
 (a < b.size→
 (¬(((Utf8.decode b a).1:Int)=65533)→
 n2 (a+(Utf8.decode b a).2) H)∧
 (((Utf8.decode b a).1:Int)=65533→
 (0:Int)≤((a:Nat):Int)∧(((a:Nat):Int):Int)≤M8.size∧
 a0Q (M8.extract (((a:Nat):Int):Int).toNat M8.size) H (fun e c d=>
 (c=1→
 K ((a:Nat):Int) 11 d)∧
 (¬(c=1)→
 n2 (a+(Utf8.decode b a).2) d))))∧
 (¬(a < b.size)→
 a8P H K)
def b0K(x0:ByteArray)(H:Hp)(K:Int→Int→Hp→Prop):Prop:=
 (65536 < (x0.size:Int)→
 K 0 10 H)∧
 (¬(65536 < (x0.size:Int))→
 TL (0:Nat) H fun(s:Nat) H n2=>a8Q x0 x0 s H n2 K)
theorem b5v(x0){H K}(h:b0K x0 H K):b0H x0 H K:=by
 refine Ct.of fun w0 w ps0 H0 R E I hR=>d3S ?_
 refine a7 (X9 _) (a7 pGt ?_)
 refine m0 h (fun _ h=>?_) (fun _ h=>?_)
 ·exact hR _ H _ _ I ⟨0,10,rfl,rfl,h⟩
 ·have hj1:∀H w (_:Inv w0 ps0 H0 H [] w) (_:a8P H K),c5L w R E:=by
   intro H w I h
   intro _
   exact hR _ H _ _ I ⟨0,0,rfl,rfl,h⟩
  refine p7 fun j1 hx1=>?_
  refine b6c Tryz.underlying9 x0 I fun f o g p=>?_
  refine A4 (σ:=Nat) (fun a=>[]) (fun a=>[itf f x0 a]) h rfl g ?_
  rintro a H q w next2 n2 i I h hn2
  clear i
  refine b7x I (fun b r c s=>?_) (fun b=>?_)
  ·replace h:=h.1 b
   refine a7 (m5 _ _ (vB true) rfl) ?_
   refine a4d (fun e=>?_) (fun e=>by cases e)
   refine a7 (m5 _ _ (vi ((a:Nat):Int)) rfl) (a7 (m5 _ _ (Value.int .i32 ((Utf8.decode x0 a).1:Int)) rfl) (a7 pNe ?_))
   refine Z9 h (fun _ h=>?_) (fun _ h=>?_)
   ·exact hn2 (a+(Utf8.decode x0 a).2) _ _ h c
   ·obtain ⟨j,k,h⟩:=h
    refine a7 (c1F x0 Tryz.underlying9 j k) ?_
    refine f9 Tryz.call128 h c ?_
    rintro _ l _ t d _ _ ⟨m,n,rfl,rfl,h⟩
    refine a7 (m5 _ _ (Value.int .i32 m) rfl) (a7 (m5 _ _ (vi n) rfl) (a7 pEq ?_))
    refine m0 h (fun _ h=>?_) (fun _ h=>?_)
    ·exact hR _ l _ _ d.drop ⟨((a:Nat):Int),11,rfl,rfl,h⟩
    ·exact hn2 (a+(Utf8.decode x0 a).2) _ _ h d
  ·replace h:=h.2 b
   refine a7 (m5 _ _ (vB false) rfl) ?_
   refine a4d (fun e=>by cases e) (fun e=>?_)
   exact hx1 _ _ (hj1 H _ I.drop h)
def b0L(x0:ByteArray)(x1:ByteArray)(H:Hp)(K:Bool→Hp→Prop):Prop:=
 a4p x0 x1 H (fun a b=>
 K a b)
theorem b5w(x0 x1){H K}(h:b0L x0 x1 H K):a4W x0 x1 H K:=by
 refine Ct.of fun w0 w ps0 H0 R E I hR=>c9L ?_
 refine f9 Tryz.call153 h I ?_
 rintro _ a _ d b _ _ ⟨c,rfl,rfl,h⟩
 exact hR _ a _ _ b ⟨c,rfl,rfl,h⟩
def D7(W9:Int)(y2:ByteArray)(y3:Int)(A0:b8)(D3:(List b6))(H:Hp)(K:ByteArray→j8→(List b6)→Hp→Prop):Prop:=
 (0:Int)≤W9∧(W9:Int)≤y3∧(y3:Int)≤y2.size∧
 K (y2.extract (W9:Int).toNat (y3:Int).toNat) (j8.mk y2 y3 A0 (Sl.mk none 0 0)) D3 H
def D8(E7:Int)(E9:Int)(y1:Bool)(v6:ByteArray)(v7:Int)(t8:b8)(s7:(List b6))(H:Hp)(n2:(Int×Bool×ByteArray×Int×b8×(List b6))→Hp→Prop)(K:ByteArray→j8→(List b6)→Hp→Prop):Prop:=
 TG (y1=true) (a4V E9 H) false H (fun(b:Bool)(c:Hp)=>
 ((y1&&b)=true→
 K9 (j8.mk v6 v7 t8 (Sl.mk none 0 0)) s7 c (fun a d e=>
 E2 (z8 a) d e (fun f g i=>
 n2 (f,g,a.fs,a.fn,a.fat,d) i)))∧
 ((y1&&b)=false→
 D7 E7 v6 v7 t8 s7 c K))
def T1(x0:j8)(a:(List b6))(H:Hp)(K:ByteArray→j8→(List b6)→Hp→Prop):Prop:=
 E2 (z8 x0) a H (fun b c d=>
 TL ((b,c,x0.fs,x0.fn,x0.fat,a):Int×Bool×ByteArray×Int×b8×(List b6)) d fun(s:Int×Bool×ByteArray×Int×b8×(List b6)) H n2=>D8 x0.fn s.1 s.2.1 s.2.2.1 s.2.2.2.1 s.2.2.2.2.1 s.2.2.2.2.2 H n2 K)
theorem a5u(x0 f){H K}(h:T1 x0 f H K):S9 x0 f H K:=by
 intro g0 o p q
 refine Ct.of fun w0 w ps0 H0 R E I hR=>b6f ?_
 unfold T1 at h
 unfold c0m
 refine a7 (o3 _) (a7 a0v (c8 (l1 Tryz.isAgg3 I rfl) ?_))
 have hj1:∀(y2:ByteArray)(y3:Int)(A0:b8)(D3:(List b6))(Y0:Sl)(P1:Frag) H w (_:RowL 103 5 i8 Y0 D3 P1) (_:Inv w0 ps0 H0 H [bx g0 155 [(Value.string y2),(vi y3),(vi A0.B9),(vi A0.K8),(vs Y0)],P1] w) (_:D7 x0.fn y2 y3 A0 D3 H K),a8l (Value.pointer (some ⟨g0,0,none⟩)) (vi x0.fn) w R E:=by
  intro y2 y3 A0 D3 Y0 P1 H w a5T I h
  unfold a8l
  intro _
  unfold D7 at h
  refine O6 I fun au g=>?_
  refine o5 (o3 _) ?_
  refine o5 a8K ?_
  refine o5 (o3 _) ?_
  refine o5 a0v ?_
  refine u1 (l1 Tryz.isAgg9 g rfl) ?_
  refine u1 (l1 Tryz.isAgg3 g rfl) ?_
  obtain ⟨af,ag,ah,h⟩:=h
  refine o5 (a6Q y2 Tryz.underlying9 af ag ah) ?_
  exact hR _ H _ _ ((g.bring 1).bring 1) ⟨(y2.extract (x0.fn:Int).toNat (y3:Int).toNat),(j8.mk y2 y3 A0 (Sl.mk none 0 0)),D3,Y0,P1,rfl,rfl,a5T,h⟩
 refine p7 fun j1 hx1=>?_
 refine f9 Tryz.call100 (h g0 o p q) ((I.bring 1).bring 1) ?_
 rintro _ ai _ av aj _ _ ⟨r,t,rfl,rfl,h⟩
 refine a7 (m5 _ _ (Value.int .i32 r) rfl) (a7 (m5 _ _ (vB t) rfl) ?_)
 obtain ⟨i,c,ak,al⟩:=h
 refine U0 (J:=fun n l w=>∃(s:Int×Bool×ByteArray×Int×b8×(List b6))(H:Hp)(R6:Sl)(J0:Frag),n=c s∧l=(match s with | (E9,y1,v6,v7,t8,s7)=>[(Value.int .i32 E9),(vB y1)])∧(match s with | (E9,y1,v6,v7,t8,s7)=>RowL 103 5 i8 R6 s7 J0)∧(match s with | (E9,y1,v6,v7,t8,s7)=>Inv w0 ps0 H0 H [bx g0 155 [(Value.string v6),(vi v7),(vi t8.B9),(vi t8.K8),(vs R6)],J0] w)∧i s H) ⟨_,(r,t,x0.fs,x0.fn,x0.fat,f),ai,o,p,rfl,rfl,q,((aj.bring 1).bring 1),ak⟩ ?_
 rintro aw ax w next2 ⟨⟨E9,y1,v6,v7,t8,s7⟩,H,R6,J0,rfl,j,T9,I,am⟩ hn2
 dsimp only at j I T9
 simp only [List.map_cons,List.map_nil,List.cons.injEq,and_true] at j
 obtain ⟨e6,e7⟩:=j
 simp only [e6,e7]
 obtain ⟨n2,hm2,h⟩:∃n2:(Int×Bool×ByteArray×Int×b8×(List b6))→Hp→Prop,(∀s' H',n2 s' H'→i s' H'∧c s' < c (E9,y1,v6,v7,t8,s7))∧D8 x0.fn E9 y1 v6 v7 t8 s7 H n2 K:=⟨_,fun _ _ h=>h,al (E9,y1,v6,v7,t8,s7) H (fun s' H'=>i s' H'∧c s' < c (E9,y1,v6,v7,t8,s7)) am (fun _ _ a b=>⟨a,b⟩)⟩
 unfold b4q
 unfold D8 at h
 simp only [p8]
 refine C5 [] (fun d:Bool=>(vB d)) h I (fun z h=>by simp only [g9 z];exact D5 Tryz.call154 h I) fun d k an e v y h=>?_
 refine a7 (s6 _ _) ?_
 refine l9 h (fun _ h=>?_) (fun _ h=>?_)
 ·refine f9 Tryz.call152 (h g0 R6 J0 T9) ((e.bring 1).bring 1) ?_
  rintro _ _ _ ay ao _ _ ⟨m,ap,aa,ab,rfl,rfl,ac,h⟩
  refine f9 Tryz.call100 (h g0 aa ab ac) ((ao.bring 1).bring 1) ?_
  rintro _ aq _ az ar _ _ ⟨ad,ae,rfl,rfl,h⟩
  refine a7 (m5 _ _ (Value.int .i32 ad) rfl) (a7 (m5 _ _ (vB ae) rfl) ?_)
  exact hn2 _ _ _ (hm2 _ _ h).2 ⟨(ad,ae,m.fs,m.fn,m.fat,ap),aq,aa,ab,rfl,rfl,ac,((ar.bring 1).bring 1),(hm2 _ _ h).1⟩
 ·exact hx1 _ _ (hj1 v6 v7 t8 s7 R6 J0 k _ T9 ((e.bring 1).bring 1) h)
def a3e(f:b6)(y2:ByteArray)(y3:Int)(A0:b8)(D3:(List b6))(H:Hp)(K:b6→Int→j8→(List b6)→Hp→Prop):Prop:=
 V9 (j8.mk y2 y3 A0 (Sl.mk none 0 0)) D3 H (fun a e=>
 (0:Int)≤1∧(1:Int)≤a.size∧
 K9 (j8.mk y2 y3 A0 (Sl.mk none 0 0)) D3 e (fun b c d=>
 (((decide ((a.extract 0 (1:Int).toNat)=⟨#[38]⟩))||(decide ((a.extract 0 (1:Int).toNat)=⟨#[124]⟩)))=true→
 K (b6.mk 0 ⟨#[]⟩ 0 (b8.mk 0 0)) 20 (z8 b) c d)∧
 (((decide ((a.extract 0 (1:Int).toNat)=⟨#[38]⟩))||(decide ((a.extract 0 (1:Int).toNat)=⟨#[124]⟩)))=false→
 K (b6.mk 4 (a.extract 0 (1:Int).toNat) 0 (b8.mk 0 0)) 0 (z8 b) c d)))
def a3f(y1:C9)(C4:Int)(a:b6)(v6:ByteArray)(v7:Int)(t8:b8)(s7:(List b6))(H:Hp)(n2:(Int×b6×ByteArray×Int×b8×(List b6))→Hp→Prop)(K:b6→Int→j8→(List b6)→Hp→Prop):Prop:=
 (C4 < 6→
 (0:Int)≤C4∧(C4:Int) < 6∧
 V9 (j8.mk v6 v7 t8 (Sl.mk none 0 0)) s7 H (fun d e=>
 a4W d (([y1.f0,y1.f1,y1.f2,y1.f3,y1.f4,y1.f5]:List ByteArray).getD (C4:Int).toNat ⟨#[]⟩) e (fun b c=>
 (b=true→
 K9 (j8.mk v6 v7 t8 (Sl.mk none 0 0)) s7 c (fun f g i=>
 K9 (z8 f) g i (fun j k l=>
 K (b6.mk 4 (([y1.f0,y1.f1,y1.f2,y1.f3,y1.f4,y1.f5]:List ByteArray).getD (C4:Int).toNat ⟨#[]⟩) 0 (b8.mk 0 0)) 0 (z8 j) k l)))∧
 (b=false→
 n2 ((IntKind.wrap .i64 (C4+1)),a,v6,v7,t8,s7) c))))∧
 (¬(C4 < 6)→
 a3e a v6 v7 t8 s7 H K)
def a7Q(x0:j8)(a:(List b6))(H:Hp)(K:b6→Int→j8→(List b6)→Hp→Prop):Prop:=
 TL ((0,(b6.mk 0 ⟨#[]⟩ 0 (b8.mk 0 0)),x0.fs,x0.fn,x0.fat,a):Int×b6×ByteArray×Int×b8×(List b6)) H fun(s:Int×b6×ByteArray×Int×b8×(List b6)) H n2=>a3f (C9.mk ⟨#[61,61]⟩ ⟨#[33,61]⟩ ⟨#[60,61]⟩ ⟨#[62,61]⟩ ⟨#[38,38]⟩ ⟨#[124,124]⟩) s.1 s.2.1 s.2.2.1 s.2.2.2.1 s.2.2.2.2.1 s.2.2.2.2.2 H n2 K
theorem b3k(x0 i){H K}(h:a7Q x0 i H K):a7G x0 i H K:=by
 intro g0 e ae af
 refine Ct.of fun w0 w ps0 H0 R E I hR=>c9R ?_
 refine o7 I Tryz.zeroValue103 (cs:=[(vi 0),(eS),(vi 0),(vi 0),(vi 0)]) rfl fun j be ag bf=>?_
 have hj1:∀(k:b6)(y2:ByteArray)(y3:Int)(A0:b8)(D3:(List b6))(P1:Frag) H w (_:RowL 103 5 i8 e D3 P1) (_:Inv w0 ps0 H0 H [bx j 103 (i8 k),bx g0 155 [(Value.string y2),(vi y3),(vi A0.B9),(vi A0.K8),(vs e)],P1] w) (_:a3e k y2 y3 A0 D3 H K),c2l (Value.pointer (some ⟨g0,0,none⟩)) (Value.pointer (some ⟨j,0,none⟩)) w R E:=by
  intro k y2 y3 A0 D3 P1 H w a5T I h
  intro _
  refine f9 Tryz.call135 (h g0 e P1 a5T) ((I.bring 2).bring 2) ?_
  rintro _ _ _ bg ah _ _ ⟨m,rfl,rfl,h⟩
  obtain ⟨ai,aj,h⟩:=h
  refine a7 (c1G m Tryz.underlying9 ai aj) ?_
  refine f9 Tryz.call152 (h g0 e P1 a5T) ((ah.bring 1).bring 1) ?_
  rintro _ q _ bh r _ _ ⟨t,u,v,y,rfl,rfl,z,h⟩
  refine a7 (G1 _ _ _ _ _) ?_
  simp only [p8]
  refine a7 (Pu.g fun c=>by simp only [g9 c];with_reducible exact (G1 _ _ _ _ _)) ?_
  refine a7 (y8 _ _) ?_
  refine l9 h (fun _ h=>?_) (fun _ h=>?_)
  ·refine a7 (a6S) ?_
   refine o9 (r.bring 2) Tryz.sizeOf103 (vs:=[(vi 0),(eS),(vi 0),(vi 0),(vi 0)]) fun bi aa bj=>?_
   refine q8 Tryz.isAgg103 Tryz.sizeOf103 rfl aa ?_
   exact hR _ q _ _ ((aa.drop.bring 1).bring 1) ⟨(b6.mk 0 ⟨#[]⟩ 0 (b8.mk 0 0)),20,(z8 t),u,v,y,rfl,rfl,z,h⟩
  ·refine a7 (a1t _ _) ?_
   refine o9 (r.bring 2) Tryz.sizeOf103 (vs:=[(vi 4),(Value.string (m.extract 0 (1:Int).toNat)),(vi 0),(vi 0),(vi 0)]) fun bk ab bl=>?_
   refine q8 Tryz.isAgg103 Tryz.sizeOf103 rfl ab ?_
   exact hR _ q _ _ ((ab.drop.bring 1).bring 1) ⟨(b6.mk 4 (m.extract 0 (1:Int).toNat) 0 (b8.mk 0 0)),0,(z8 t),u,v,y,rfl,rfl,z,h⟩
 refine p7 fun j1 hx1=>?_
 refine a7 (a8J _ _ _ _ _ _) ?_
 obtain ⟨o,f,ak,al⟩:=h
 refine U0 (J:=fun n l w=>∃(s:Int×b6×ByteArray×Int×b8×(List b6))(H:Hp)(J0:Frag),n=f s∧l=(match s with | (C4,d,v6,v7,t8,s7)=>[(vi C4)])∧(match s with | (C4,d,v6,v7,t8,s7)=>RowL 103 5 i8 e s7 J0)∧(match s with | (C4,d,v6,v7,t8,s7)=>Inv w0 ps0 H0 H [bx j 103 (i8 d),bx g0 155 [(Value.string v6),(vi v7),(vi t8.B9),(vi t8.K8),(vs e)],J0] w)∧o s H) ⟨_,(0,(b6.mk 0 ⟨#[]⟩ 0 (b8.mk 0 0)),x0.fs,x0.fn,x0.fat,i),H,ae,rfl,rfl,af,(((ag.bring 2).bring 2).bring 2),ak⟩ ?_
 rintro bm bn w next2 ⟨⟨C4,d,v6,v7,t8,s7⟩,H,J0,rfl,p,T9,I,am⟩ hn2
 dsimp only at p I T9
 simp only [List.map_cons,List.map_nil,List.cons.injEq,and_true] at p
 have e8:=p
 simp only [e8]
 obtain ⟨n2,hm2,h⟩:∃n2:(Int×b6×ByteArray×Int×b8×(List b6))→Hp→Prop,(∀s' H',n2 s' H'→o s' H'∧f s' < f (C4,d,v6,v7,t8,s7))∧a3f (C9.mk ⟨#[61,61]⟩ ⟨#[33,61]⟩ ⟨#[60,61]⟩ ⟨#[62,61]⟩ ⟨#[38,38]⟩ ⟨#[124,124]⟩) C4 d v6 v7 t8 s7 H n2 K:=⟨_,fun _ _ h=>h,al (C4,d,v6,v7,t8,s7) H (fun s' H'=>o s' H'∧f s' < f (C4,d,v6,v7,t8,s7)) am (fun _ _ a b=>⟨a,b⟩)⟩
 refine a7 pLs ?_
 refine m0 h (fun _ h=>?_) (fun _ h=>?_)
 ·obtain ⟨an,ao,h⟩:=h
  refine a7 (c3v _ _ _ _ _ _ _ _ an ao) ?_
  refine f9 Tryz.call135 (h g0 e J0 T9) ((I.bring 2).bring 2) ?_
  rintro _ _ _ bo ap _ _ ⟨bp,rfl,rfl,h⟩
  refine f9 Tryz.call134 h ap ?_
  rintro _ aq _ bq ac _ _ ⟨br,rfl,rfl,h⟩
  refine l9 h (fun _ h=>?_) (fun _ h=>?_)
  ·refine f9 Tryz.call152 (h g0 e J0 T9) ((ac.bring 1).bring 1) ?_
   rintro _ _ _ bs ar _ _ ⟨bt,bu,au,av,rfl,rfl,aw,h⟩
   refine f9 Tryz.call152 (h g0 au av aw) ((ar.bring 1).bring 1) ?_
   rintro _ ax _ bv ay _ _ ⟨az,ba,bb,bc,rfl,rfl,bd,h⟩
   refine a7 (a1t _ _) ?_
   refine o9 (ay.bring 2) Tryz.sizeOf103 (vs:=[(vi 4),(Value.string (([(C9.mk ⟨#[61,61]⟩ ⟨#[33,61]⟩ ⟨#[60,61]⟩ ⟨#[62,61]⟩ ⟨#[38,38]⟩ ⟨#[124,124]⟩).f0,(C9.mk ⟨#[61,61]⟩ ⟨#[33,61]⟩ ⟨#[60,61]⟩ ⟨#[62,61]⟩ ⟨#[38,38]⟩ ⟨#[124,124]⟩).f1,(C9.mk ⟨#[61,61]⟩ ⟨#[33,61]⟩ ⟨#[60,61]⟩ ⟨#[62,61]⟩ ⟨#[38,38]⟩ ⟨#[124,124]⟩).f2,(C9.mk ⟨#[61,61]⟩ ⟨#[33,61]⟩ ⟨#[60,61]⟩ ⟨#[62,61]⟩ ⟨#[38,38]⟩ ⟨#[124,124]⟩).f3,(C9.mk ⟨#[61,61]⟩ ⟨#[33,61]⟩ ⟨#[60,61]⟩ ⟨#[62,61]⟩ ⟨#[38,38]⟩ ⟨#[124,124]⟩).f4,(C9.mk ⟨#[61,61]⟩ ⟨#[33,61]⟩ ⟨#[60,61]⟩ ⟨#[62,61]⟩ ⟨#[38,38]⟩ ⟨#[124,124]⟩).f5]:List ByteArray).getD (C4:Int).toNat ⟨#[]⟩)),(vi 0),(vi 0),(vi 0)]) fun bw ad bz=>?_
   refine q8 Tryz.isAgg103 Tryz.sizeOf103 rfl ad ?_
   exact hR _ ax _ _ ((ad.drop.bring 1).bring 1) ⟨(b6.mk 4 (([(C9.mk ⟨#[61,61]⟩ ⟨#[33,61]⟩ ⟨#[60,61]⟩ ⟨#[62,61]⟩ ⟨#[38,38]⟩ ⟨#[124,124]⟩).f0,(C9.mk ⟨#[61,61]⟩ ⟨#[33,61]⟩ ⟨#[60,61]⟩ ⟨#[62,61]⟩ ⟨#[38,38]⟩ ⟨#[124,124]⟩).f1,(C9.mk ⟨#[61,61]⟩ ⟨#[33,61]⟩ ⟨#[60,61]⟩ ⟨#[62,61]⟩ ⟨#[38,38]⟩ ⟨#[124,124]⟩).f2,(C9.mk ⟨#[61,61]⟩ ⟨#[33,61]⟩ ⟨#[60,61]⟩ ⟨#[62,61]⟩ ⟨#[38,38]⟩ ⟨#[124,124]⟩).f3,(C9.mk ⟨#[61,61]⟩ ⟨#[33,61]⟩ ⟨#[60,61]⟩ ⟨#[62,61]⟩ ⟨#[38,38]⟩ ⟨#[124,124]⟩).f4,(C9.mk ⟨#[61,61]⟩ ⟨#[33,61]⟩ ⟨#[60,61]⟩ ⟨#[62,61]⟩ ⟨#[38,38]⟩ ⟨#[124,124]⟩).f5]:List ByteArray).getD (C4:Int).toNat ⟨#[]⟩) 0 (b8.mk 0 0)),0,(z8 az),ba,bb,bc,rfl,rfl,bd,h⟩
  ·refine a7 pAd ?_
   exact hn2 _ _ _ (hm2 _ _ h).2 ⟨((IntKind.wrap .i64 (C4+1)),d,v6,v7,t8,s7),aq,J0,rfl,rfl,T9,(((ac.bring 1).bring 1).bring 2),(hm2 _ _ h).1⟩
 ·exact hx1 _ _ (hj1 d v6 v7 t8 s7 J0 H _ T9 (((I.bring 2).bring 2).bring 2) h)
def Y7(b6r:Bool)(a:V2)(b:a0b)(H:Hp)(K:Bool→Hp→Prop):Prop:=
 (b6r=true→
 K (decide (a.fexprs=0∧a.fparts=2)) H)∧
 (b6r=false→
 K false H)
def Y8(a8n:Int)(b6s:Bool)(a:V2)(b:a0b)(H:Hp)(K:Bool→Hp→Prop):Prop:=
 (b6s=true→
 K (decide (a.fexprs=0∧a.fparts=0)) H)∧
 (b6s=false→
 (a8n=4→
 K (decide (a.fexprs=0∧a.fparts=1)) H)∧
 (¬(a8n=4)→
 (a8n=5→
 Y7 (decide (a8n=5)) a b H K)∧
 (¬(a8n=5)→
 Y7 (decide (a8n=6)) a b H K)))
def a8B(x0:a0b)(H:Hp)(K:Bool→Hp→Prop):Prop:=
 (x0.z6.d8=3→
 K (((decide (1≤x0.z6.fOp))&&(decide (x0.z6.fOp≤6)))&&(decide ((x0.z6.o4.n:Int)=2∧(x0.z6.B0.n:Int)=0))) H)∧
 (¬(x0.z6.d8=3)→
 (¬(x0.z6.fOp=0)→
 K false H)∧
 (x0.z6.fOp=0→
 (x0.z6.d8=1→
 Y8 x0.z6.d8 (decide (x0.z6.d8=1)) (V2.mk (x0.z6.o4.n:Int) (x0.z6.B0.n:Int)) x0 H K)∧
 (¬(x0.z6.d8=1)→
 Y8 x0.z6.d8 (decide (x0.z6.d8=2)) (V2.mk (x0.z6.o4.n:Int) (x0.z6.B0.n:Int)) x0 H K)))
theorem b3B(x0){H K}(h:a8B x0 H K):a5s x0 H K:=by
 refine Ct.of fun w0 w ps0 H0 R E I hR=>d0u ?_
 refine Q1 I (cs:=(i7 x0.z6)) rfl fun e i d j=>?_
 refine a7 a2Q (a7 a0X (c8 (l1 Tryz.isAgg38 d rfl) (a7 (O4 _ _ _) (a7 a2Q ?_))))
 refine a7 a0W (c8 (l1 Tryz.isAgg47 d rfl) (a7 (a0r _ _ _) (a7 (a8k _ _) ?_)))
 refine o7 d Tryz.zeroValue260 (cs:=[(vi 0),(vi 0)]) rfl fun c k f l=>?_
 refine o9 f Tryz.sizeOf260 (vs:=[(vi (x0.z6.o4.n:Int)),(vi (x0.z6.B0.n:Int))]) fun m b p=>?_
 refine a7 a2Q (a7 a8i (c8 (l1 Tryz.isAgg3 (b.bring 1) rfl) (a7 pEq ?_)))
 refine m0 h (fun _ h=>?_) (fun _ h=>?_)
 ·refine a7 a2Q (a7 a5A (c8 (l1 Tryz.isAgg3 (b.bring 1) rfl) (a7 pGe ?_)))
  refine a7 (Pu.g fun a=>by with_reducible exact a2Q) ?_
  refine a7 (Pu.g fun a=>by simp only [g9 a];with_reducible exact a5A) ?_
  refine c8 (Ld.g fun a=>by simp only [g9 a];exact (l1 Tryz.isAgg3 (b.bring 1) rfl)) ?_
  refine a7 (Pu.g fun a=>by simp only [g9 a];with_reducible exact pLe) ?_
  refine a7 (s6 _ _) ?_
  refine c8 (Ld.g fun a=>by exact (ldA Tryz.isAgg260 Tryz.sizeOf260 rfl (b.at1 (o:=0) (vs:=[(vi (x0.z6.o4.n:Int)),(vi (x0.z6.B0.n:Int))]) (nb rfl) rfl))) ?_
  refine a7 (Pu.g fun a=>by with_reducible exact (a8k _ _)) ?_
  refine a7 (Pu.g fun a=>by simp only [g9 a];with_reducible exact (b3L _ _ _ _ _ _)) ?_
  refine a7 (s6 _ _) ?_
  exact hR _ H _ _ b.drop.drop ⟨_,rfl,rfl,h⟩
 ·refine a7 a2Q (a7 a5A (c8 (l1 Tryz.isAgg3 (b.bring 1) rfl) (a7 pNe ?_)))
  refine Z9 h (fun _ h=>?_) (fun _ h=>?_)
  ·exact hR _ H _ _ b.drop.drop ⟨_,rfl,rfl,h⟩
  ·refine a7 a2Q (a7 a8i (c8 (l1 Tryz.isAgg3 (b.bring 1) rfl) ?_))
   have hj1:∀(b6s:Bool) H w (_:Inv w0 ps0 H0 H [bx c 260 [(vi (V2.mk (x0.z6.o4.n:Int) (x0.z6.B0.n:Int)).fexprs),(vi (V2.mk (x0.z6.o4.n:Int) (x0.z6.B0.n:Int)).fparts)],bx e 146 (i7 x0.z6)] w) (_:Y8 x0.z6.d8 b6s (V2.mk (x0.z6.o4.n:Int) (x0.z6.B0.n:Int)) x0 H K),c2y (Value.pointer (some ⟨c,0,none⟩)) (vi x0.z6.d8) (vB b6s) w R E:=by
    intro b6s H w I h
    intro _
    refine l9 h (fun _ h=>?_) (fun _ h=>?_)
    ·refine c8 (ldA Tryz.isAgg260 Tryz.sizeOf260 rfl (I.at1 (o:=0) (vs:=[(vi (V2.mk (x0.z6.o4.n:Int) (x0.z6.B0.n:Int)).fexprs),(vi (V2.mk (x0.z6.o4.n:Int) (x0.z6.B0.n:Int)).fparts)]) (nb rfl) rfl)) (a7 (c3w) (a7 (b3L _ _ _ _ _ _) ?_))
     exact hR _ H _ _ I.drop.drop ⟨_,rfl,rfl,h⟩
    ·refine a7 pEq ?_
     refine m0 h (fun _ h=>?_) (fun _ h=>?_)
     ·refine c8 (ldA Tryz.isAgg260 Tryz.sizeOf260 rfl (I.at1 (o:=0) (vs:=[(vi (V2.mk (x0.z6.o4.n:Int) (x0.z6.B0.n:Int)).fexprs),(vi (V2.mk (x0.z6.o4.n:Int) (x0.z6.B0.n:Int)).fparts)]) (nb rfl) rfl)) (a7 (a8k _ _) (a7 (b3L _ _ _ _ _ _) ?_))
      exact hR _ H _ _ I.drop.drop ⟨_,rfl,rfl,h⟩
     ·have hj2:∀(b6r:Bool) H w (_:Inv w0 ps0 H0 H [bx c 260 [(vi (V2.mk (x0.z6.o4.n:Int) (x0.z6.B0.n:Int)).fexprs),(vi (V2.mk (x0.z6.o4.n:Int) (x0.z6.B0.n:Int)).fparts)],bx e 146 (i7 x0.z6)] w) (_:Y7 b6r (V2.mk (x0.z6.o4.n:Int) (x0.z6.B0.n:Int)) x0 H K),c2x (Value.pointer (some ⟨c,0,none⟩)) (vB b6r) w R E:=by
       intro b6r H w I h
       intro _
       refine l9 h (fun _ h=>?_) (fun _ h=>?_)
       ·refine c8 (ldA Tryz.isAgg260 Tryz.sizeOf260 rfl (I.at1 (o:=0) (vs:=[(vi (V2.mk (x0.z6.o4.n:Int) (x0.z6.B0.n:Int)).fexprs),(vi (V2.mk (x0.z6.o4.n:Int) (x0.z6.B0.n:Int)).fparts)]) (nb rfl) rfl)) (a7 (a8k _ _) (a7 (b3L _ _ _ _ _ _) ?_))
        exact hR _ H _ _ I.drop.drop ⟨_,rfl,rfl,h⟩
       ·exact hR _ H _ _ I.drop.drop ⟨_,rfl,rfl,h⟩
      refine p7 fun j2 hx2=>?_
      refine a7 pEq ?_
      refine m0 h (fun _ h=>?_) (fun _ h=>?_)
      ·exact hx2 _ _ (hj2 (decide (x0.z6.d8=5)) H _ ((I.bring 1).bring 1) h)
      ·refine a7 pEq ?_
       exact hx2 _ _ (hj2 (decide (x0.z6.d8=6)) H _ ((I.bring 1).bring 1) h)
   refine p7 fun j1 hx1=>?_
   refine a7 pEq ?_
   refine m0 h (fun _ h=>?_) (fun _ h=>?_)
   ·exact hx1 _ _ (hj1 (decide (x0.z6.d8=1)) H _ ((b.bring 1).bring 1) h)
   ·refine a7 pEq ?_
    exact hx1 _ _ (hj1 (decide (x0.z6.d8=2)) H _ ((b.bring 1).bring 1) h)
def a8C(x0:a0U)(H:Hp)(K:Bool→Hp→Prop):Prop:=
 K ((decide (0≤x0.a2q.a1u))&&(decide (x0.a2q.a1u≤2147483647))) H
theorem b3C(x0){H K}(h:a8C x0 H K):a8w x0 H K:=by
 refine Ct.of fun w0 w ps0 H0 R E I hR=>d0z ?_
 refine Q1 I (cs:=(u5 x0.a2q)) rfl fun c d b e=>?_
 refine a7 b4a (a7 a8j (c8 (l1 Tryz.isAgg3 b rfl) (a7 pGe ?_)))
 refine a7 (Pu.g fun a=>by with_reducible exact b4a) ?_
 refine a7 (Pu.g fun a=>by simp only [g9 a];with_reducible exact a8j) ?_
 refine c8 (Ld.g fun a=>by simp only [g9 a];exact (l1 Tryz.isAgg3 b rfl)) ?_
 refine a7 (Pu.g fun a=>by simp only [g9 a];with_reducible exact pLe) ?_
 refine a7 (s6 _ _) ?_
 exact hR _ H _ _ b.drop ⟨_,rfl,rfl,h⟩
def a7R(x0:a0d)(H:Hp)(K:Sl→Hp→Prop):Prop:=
 E8 x0.p6.v8 H (fun d e=>
 C2 x0.p6.o4 e (fun f g=>
 C1 x0.p6.J5 g (fun i j=>
 C1 x0.p6.H7 j (fun k l=>
 ∀(a:Sl)(b:Hp),Hle l b→SlH b 1 csl a [d,f,i,k]→a.n≤a.c→
 D6 a b (fun m o=>
 K m o)))))
theorem b3l(x0){H K}(h:a7R x0 H K):a7K x0 H K:=by
 refine Ct.of fun w0 w ps0 H0 R E I hR=>d0C ?_
 refine Q1 I (cs:=(m6 x0.p6)) rfl fun ad ae i af=>?_
 refine O6 i fun ag a=>?_
 refine o5 S4 ?_
 refine o5 V5 ?_
 refine o5 S4 ?_
 refine o5 M7 ?_
 refine o5 S4 ?_
 refine o5 a0Y ?_
 refine o5 S4 ?_
 refine o5 a0Z ?_
 refine u1 (l1 Tryz.isAgg47 a rfl) ?_
 refine u1 (l1 Tryz.isAgg38 a rfl) ?_
 refine u1 (l1 Tryz.isAgg24 a rfl) ?_
 refine u1 (l1 Tryz.isAgg24 a rfl) ?_
 refine f9 Tryz.call211 h a ?_
 rintro _ _ _ ah b _ d ⟨j,rfl,rfl,h⟩
 refine ⟨(d _ a.lt1 (Inv.X0 (Fi:=[]) a)),(d _ a.lt1 (Inv.X0 (Fi:=[]) a)),(d _ a.lt1 (Inv.X0 (Fi:=[]) a)),?_⟩
 refine f9 Tryz.call207 h b ?_
 rintro _ _ _ ai f _ g ⟨k,rfl,rfl,h⟩
 refine ⟨(g _ b.lt1 (Inv.X0 (Fi:=[]) b)),(g _ b.lt1 (Inv.X0 (Fi:=[]) b)),?_⟩
 refine f9 Tryz.call78 h f ?_
 rintro _ _ _ aj l _ m ⟨n,rfl,rfl,h⟩
 refine ⟨(m _ f.lt1 (Inv.X0 (Fi:=[]) f)),?_⟩
 refine f9 Tryz.call78 h l ?_
 rintro _ _ _ ak o _ _ ⟨p,rfl,rfl,h⟩
 refine Q9 (e:=128) (c:=csl) (xs:=[j,k,n,p]) o (c6V _ _ _ _ _ _ _ _ _ _ _ _) rfl rfl b9F b9G (nb rfl) fun q al am r s an=>?_
 obtain ⟨t,u,v,y,z⟩:=Inv.freezeC s r (by decide)
 replace h:=h q t v y z
 refine f9 Tryz.call75 h u ?_
 rintro _ aa _ ao ab _ _ ⟨ac,rfl,rfl,h⟩
 exact hR _ aa _ _ ab.drop ⟨ac,rfl,rfl,h⟩
end Go.Proofs.YthklmeihgmcljaaGreatDoor
