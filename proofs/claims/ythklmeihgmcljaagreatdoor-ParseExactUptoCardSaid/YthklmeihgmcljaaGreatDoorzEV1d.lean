/- Typed formulas of the program's functions, and the theorems that the contracts follow from them; printed by lift.py off the code. -/
import Derived.Test.YthklmeihgmcljaaGreatDoorzEV1
namespace Go.Proofs.YthklmeihgmcljaaGreatDoor
open Go.RowKit
set_option maxRecDepth 100000
set_option maxHeartbeats 2000000
def b0k(x0:ByteArray)(H:Hp)(K:l8→b8→Int→Hp→Prop):Prop:=
 K0 x0 H (fun a b c d=>
 K a b c d)
theorem b4Y(x0){H K}(h:b0k x0 H K):a1O x0 H K:=by
 refine Ct.of fun w0 w ps0 H0 R E I hR=>d5B ?_
 refine o7 I Tryz.zeroValue26 (cs:=[(nS),(nS)]) rfl fun k l e m=>?_
 refine o7 e Tryz.zeroValue28 (cs:=[(vi 0),(vi 0)]) rfl fun n o f p=>?_
 refine f9 Tryz.call20 h f ?_
 rintro _ g _ q i _ _ ⟨b,c,d,rfl,rfl,h⟩
 refine a7 (m5 _ _ _ rfl) (a7 (m5 _ _ _ rfl) (a7 (m5 _ _ (vi d) rfl) ?_))
 refine o9 (i.bring 1) Tryz.sizeOf26 (vs:=(p5 b)) fun r j s=>?_
 refine o9 (j.bring 1) Tryz.sizeOf28 (vs:=(l7 c)) fun t a u=>?_
 refine q8 Tryz.isAgg26 Tryz.sizeOf26 rfl (a.bring 1) ?_
 refine q8 Tryz.isAgg28 Tryz.sizeOf28 rfl a ?_
 exact hR _ g _ _ a.drop.drop ⟨b,c,d,rfl,rfl,h⟩
def b2x(H:Hp)(K:Bool→Hp→Prop):Prop:=
 a1O ⟨#[118,97,114,32,120,59,32,120,32,61,32,49,32,43,32,50,32,42,32,120,59]⟩ H (fun a k b i=>
 a1O ⟨#[120,32,61,32,59]⟩ i (fun l f j c=>
 ∃d:b9,((((decide (b=0))&&(decide ((a.N3.n:Int)=1)))&&(decide ((a.a0L.n:Int)=1)))=true→(0:Int)≤0∧(0:Int) < a.a0L.n∧EltH c a.a0L 0 6 (m6 d))∧
 ∃e:b9,(((((decide (b=0))&&(decide ((a.N3.n:Int)=1)))&&(decide ((a.a0L.n:Int)=1)))&&(decide ((d.o4.n:Int)=1)))=true→(0:Int)≤0∧(0:Int) < a.a0L.n∧EltH c a.a0L 0 6 (m6 e))∧
 ∃g:d9,(((((decide (b=0))&&(decide ((a.N3.n:Int)=1)))&&(decide ((a.a0L.n:Int)=1)))&&(decide ((d.o4.n:Int)=1)))=true→(0:Int)≤0∧(0:Int) < e.o4.n∧EltH c e.o4 0 4 (g7 g))∧
 K (((((((decide (b=0))&&(decide ((a.N3.n:Int)=1)))&&(decide ((a.a0L.n:Int)=1)))&&(decide ((d.o4.n:Int)=1)))&&(decide (g.d8=6)))&&(decide (j=40)))&&(decide (f.B9=1∧f.K8=5))) c))
theorem b2y{H K}(h:b2x H K):a3L H K:=by
 refine Ct.of fun w0 w ps0 H0 R E I hR=>d5A ?_
 refine f9 Tryz.call9 h I ?_
 rintro _ _ _ af q _ _ ⟨j,r,o,rfl,rfl,h⟩
 refine a7 (m5 _ _ _ rfl) (a7 (m5 _ _ _ rfl) (a7 (m5 _ _ (vi o) rfl) ?_))
 refine o7 q Tryz.zeroValue26 (cs:=[(nS),(nS)]) rfl fun ag ah s ai=>?_
 refine o7 s Tryz.zeroValue28 (cs:=[(vi 0),(vi 0)]) rfl fun aj ak t al=>?_
 refine o9 (t.bring 1) Tryz.sizeOf26 (vs:=(p5 j)) fun am u an=>?_
 refine o9 (u.bring 1) Tryz.sizeOf28 (vs:=(l7 r)) fun ao y ap=>?_
 refine f9 Tryz.call9 h y ?_
 rintro _ z _ aq aa _ _ ⟨ab,l,p,rfl,rfl,h⟩
 refine a7 (m5 _ _ _ rfl) (a7 (m5 _ _ _ rfl) (a7 (m5 _ _ (vi p) rfl) ?_))
 refine o7 aa Tryz.zeroValue26 (cs:=[(nS),(nS)]) rfl fun ar au ac av=>?_
 refine o7 ac Tryz.zeroValue28 (cs:=[(vi 0),(vi 0)]) rfl fun aw ax ad ay=>?_
 refine o9 (ad.bring 1) Tryz.sizeOf26 (vs:=(p5 ab)) fun az ae ba=>?_
 refine o9 (ae.bring 1) Tryz.sizeOf28 (vs:=(l7 l)) fun bb b bc=>?_
 refine a7 pEq ?_
 refine a7 (Pu.g fun a=>by with_reducible exact T5) ?_
 refine c8 (Ld.g fun a=>by simp only [g9 a];exact (l1 Tryz.isAgg23 (b.bring 3) rfl)) ?_
 refine a7 (Pu.g fun a=>by simp only [g9 a];with_reducible exact (a6G _ _ _)) ?_
 refine a7 (Pu.g fun a=>by simp only [g9 a];with_reducible exact pEq) ?_
 refine a7 (s6 _ _) ?_
 refine a7 (Pu.g fun a=>by with_reducible exact X8) ?_
 refine c8 (Ld.g fun a=>by simp only [g9 a];exact (l1 Tryz.isAgg24 (b.bring 3) rfl)) ?_
 refine a7 (Pu.g fun a=>by simp only [g9 a];with_reducible exact (X1 _ _ _)) ?_
 refine a7 (Pu.g fun a=>by simp only [g9 a];with_reducible exact pEq) ?_
 refine a7 (s6 _ _) ?_
 refine a7 (Pu.g fun a=>by with_reducible exact X8) ?_
 refine c8 (Ld.g fun a=>by simp only [g9 a];exact (l1 Tryz.isAgg24 (b.bring 3) rfl)) ?_
 obtain ⟨f,c,h⟩:=h
 obtain ⟨bd,be,c⟩:=b7w c
 refine a7 (Pu.g fun hb=>by have a:=hb;simp only [g9 a];with_reducible exact (a4l (c hb).2.2.1 _ _ _ _ (c hb).1 (c hb).2.1)) ?_
 refine a7 (Pu.g fun a=>by simp only [g9 a];with_reducible exact M7) ?_
 refine c8 (Ld.g fun hb=>by have a:=hb;simp only [g9 a];exact (ld1 (v:=(vs f.o4)) Tryz.isAgg38 ((b.atH (c hb).2.2.2).sub (k:=2) (n:=1) (nb rfl)))) ?_
 refine a7 (Pu.g fun a=>by simp only [g9 a];with_reducible exact (O4 _ _ _)) ?_
 refine a7 (Pu.g fun a=>by simp only [g9 a];with_reducible exact pEq) ?_
 refine a7 (s6 _ _) ?_
 refine a7 (Pu.g fun a=>by with_reducible exact X8) ?_
 refine c8 (Ld.g fun a=>by simp only [g9 a];exact (l1 Tryz.isAgg24 (b.bring 3) rfl)) ?_
 obtain ⟨m,d,h⟩:=h
 obtain ⟨bf,bg,d⟩:=b7w d
 refine a7 (Pu.g fun hb=>by have a:=hb;simp only [g9 a];with_reducible exact (a4l (d hb).2.2.1 _ _ _ _ (d hb).1 (d hb).2.1)) ?_
 refine a7 (Pu.g fun a=>by simp only [g9 a];with_reducible exact M7) ?_
 refine c8 (Ld.g fun hb=>by have a:=hb;simp only [g9 a];exact (ld1 (v:=(vs m.o4)) Tryz.isAgg38 ((b.atH (d hb).2.2.2).sub (k:=2) (n:=1) (nb rfl)))) ?_
 obtain ⟨i,e,h⟩:=h
 obtain ⟨bh,bi,e⟩:=b7w e
 refine a7 (Pu.g fun hb=>by have a:=hb;simp only [g9 a];with_reducible exact (a1N (e hb).2.2.1 _ _ _ _ (e hb).1 (e hb).2.1)) ?_
 refine a7 (Pu.g fun a=>by simp only [g9 a];with_reducible exact a1M) ?_
 refine c8 (Ld.g fun hb=>by have a:=hb;simp only [g9 a];exact (ld1 (v:=(vi i.d8)) Tryz.isAgg3 ((b.atH (e hb).2.2.2).sub (k:=0) (n:=1) (nb rfl)))) ?_
 refine a7 (Pu.g fun a=>by simp only [g9 a];with_reducible exact pEq) ?_
 refine a7 (s6 _ _) ?_
 simp only [p8]
 refine a7 (Pu.g fun a=>by simp only [g9 a];with_reducible exact pEq) ?_
 refine a7 (s6 _ _) ?_
 refine c8 (Ld.g fun a=>by exact (lW Tryz.isAgg28 Tryz.sizeOf28 rfl b)) ?_
 refine a7 (Pu.g fun a=>by with_reducible exact (a7a _ _)) ?_
 refine a7 (Pu.g fun a=>by simp only [g9 a];with_reducible exact (c6Q _ _ _ _ _ _)) ?_
 refine a7 (s6 _ _) ?_
 exact hR _ z _ _ b.drop.drop.drop.drop ⟨_,rfl,rfl,h⟩
def X7(d8D:Int)(d4e:Int)(a7y:Int)(H:Hp)(K:Int→Int→Bool→Hp→Prop):Prop:=
 ((((decide (a7y < d4e))||(decide (1114111 < a7y)))||((decide (55296≤a7y))&&(decide (a7y < 57344))))=true→
 K 65533 1 false H)∧
 ((((decide (a7y < d4e))||(decide (1114111 < a7y)))||((decide (55296≤a7y))&&(decide (a7y < 57344))))=false→
 K a7y d8D true H)
def a3h(b1a:ByteArray)(a8G:Int)(c7b:Int)(d8E:Int)(b3O:Int)(a1e:Int)(H:Hp)(n3:(Int×Int)→Hp→Prop)(K:Int→Int→Bool→Hp→Prop):Prop:=
 (a1e < c7b→
 ((decide ((b1a.size:Int)≤(IntKind.wrap .i64 (a8G+a1e))))=false→(0:Int)≤IntKind.wrap .i64 (a8G+a1e)∧IntKind.wrap .i64 (a8G+a1e) < (b1a.size:Int))∧
 (((decide ((b1a.size:Int)≤(IntKind.wrap .i64 (a8G+a1e))))||(decide (((b1a.get! (IntKind.wrap .i64 (a8G+a1e):Int).toNat).toNat:Int) < 128)))=false→(0:Int)≤IntKind.wrap .i64 (a8G+a1e)∧IntKind.wrap .i64 (a8G+a1e) < (b1a.size:Int))∧
 ((((decide ((b1a.size:Int)≤(IntKind.wrap .i64 (a8G+a1e))))||(decide (((b1a.get! (IntKind.wrap .i64 (a8G+a1e):Int).toNat).toNat:Int) < 128)))||(decide (192≤((b1a.get! (IntKind.wrap .i64 (a8G+a1e):Int).toNat).toNat:Int))))=true→
 K 65533 1 false H)∧
 ((((decide ((b1a.size:Int)≤(IntKind.wrap .i64 (a8G+a1e))))||(decide (((b1a.get! (IntKind.wrap .i64 (a8G+a1e):Int).toNat).toNat:Int) < 128)))||(decide (192≤((b1a.get! (IntKind.wrap .i64 (a8G+a1e):Int).toNat).toNat:Int))))=false→
 (0:Int)≤IntKind.wrap .i64 (a8G+a1e)∧IntKind.wrap .i64 (a8G+a1e) < (b1a.size:Int)∧
 n3 ((IntKind.wrap .i64 ((IntKind.wrap .i64 ((IntKind.wrap .i64 (64*b3O))+(IntKind.wrap .i64 ((b1a.get! (IntKind.wrap .i64 (a8G+a1e):Int).toNat).toNat:Int))))-128)),(IntKind.wrap .i64 (a1e+1))) H))∧
 (¬(a1e < c7b)→
 X7 c7b d8E b3O H K)
def K5(a5S:ByteArray)(V1:Int)(a8F:Int)(b7g:Int)(b7H:Int)(H:Hp)(K:Int→Int→Bool→Hp→Prop):Prop:=
 TL ((b7H,1):Int×Int) H fun(s:Int×Int) H n3=>a3h a5S V1 a8F b7g s.1 s.2 H n3 K
def a4I(x0:ByteArray)(x1:Int)(H:Hp)(K:Int→Int→Bool→Hp→Prop):Prop:=
 (0:Int)≤x1∧x1 < (x0.size:Int)∧
 ((IntKind.wrap .i64 ((x0.get! (x1:Int).toNat).toNat:Int)) < 128→
 K (IntKind.wrap .i64 ((x0.get! (x1:Int).toNat).toNat:Int)) 1 true H)∧
 (¬((IntKind.wrap .i64 ((x0.get! (x1:Int).toNat).toNat:Int)) < 128)→
 (((decide (194≤(IntKind.wrap .i64 ((x0.get! (x1:Int).toNat).toNat:Int))))&&(decide ((IntKind.wrap .i64 ((x0.get! (x1:Int).toNat).toNat:Int)) < 224)))=true→
 K5 x0 x1 2 128 (IntKind.wrap .i64 ((IntKind.wrap .i64 ((x0.get! (x1:Int).toNat).toNat:Int))-192)) H K)∧
 (((decide (194≤(IntKind.wrap .i64 ((x0.get! (x1:Int).toNat).toNat:Int))))&&(decide ((IntKind.wrap .i64 ((x0.get! (x1:Int).toNat).toNat:Int)) < 224)))=false→
 (((decide (224≤(IntKind.wrap .i64 ((x0.get! (x1:Int).toNat).toNat:Int))))&&(decide ((IntKind.wrap .i64 ((x0.get! (x1:Int).toNat).toNat:Int)) < 240)))=true→
 K5 x0 x1 3 2048 (IntKind.wrap .i64 ((IntKind.wrap .i64 ((x0.get! (x1:Int).toNat).toNat:Int))-224)) H K)∧
 (((decide (224≤(IntKind.wrap .i64 ((x0.get! (x1:Int).toNat).toNat:Int))))&&(decide ((IntKind.wrap .i64 ((x0.get! (x1:Int).toNat).toNat:Int)) < 240)))=false→
 (((decide (240≤(IntKind.wrap .i64 ((x0.get! (x1:Int).toNat).toNat:Int))))&&(decide ((IntKind.wrap .i64 ((x0.get! (x1:Int).toNat).toNat:Int)) < 245)))=true→
 K5 x0 x1 4 65536 (IntKind.wrap .i64 ((IntKind.wrap .i64 ((x0.get! (x1:Int).toNat).toNat:Int))-240)) H K)∧
 (((decide (240≤(IntKind.wrap .i64 ((x0.get! (x1:Int).toNat).toNat:Int))))&&(decide ((IntKind.wrap .i64 ((x0.get! (x1:Int).toNat).toNat:Int)) < 245)))=false→
 K 65533 1 false H))))
theorem a7T(x0 x1){H K}(h:a4I x0 x1 H K):O5 x0 x1 H K:=by
 refine Ct.of fun w0 w ps0 H0 R E I hR=>c9f ?_
 obtain ⟨i,j,h⟩:=h
 refine a7 (a3j _ _ _ i j) (a7 (b5I _ _) ?_)
 have hj1:∀(a8F:Int)(b7g:Int)(b7H:Int) H w (_:Inv w0 ps0 H0 H [] w) (_:K5 x0 x1 a8F b7g b7H H K),c1Q (Value.string x0) (vi x1) (vi a8F) (vi b7g) (vi b7H) w R E:=by
  intro a8F b7g b7H H w I h
  intro _
  have hj2:∀(a7y:Int) H w (_:Inv w0 ps0 H0 H [] w) (_:X7 a8F b7g a7y H K),c1P (vi a8F) (vi b7g) (vi a7y) w R E:=by
   intro a7y H w I h
   intro _
   refine a7 pLs ?_
   simp only [p8]
   refine a7 (Pu.g fun a=>by simp only [g9 a];with_reducible exact pGt) ?_
   refine a7 (y8 _ _) ?_
   simp only [p8]
   refine a7 (Pu.g fun a=>by simp only [g9 a];with_reducible exact pGe) ?_
   simp only [a3K,b2O]
   refine a7 (Pu.e (a0N _ _ _) (Pu.g fun hb=>by obtain ⟨a,b⟩:=a3J hb;simp only [g9 hb];with_reducible exact pLs)) ?_
   refine a7 (Pu.g fun a=>by simp only [g9 a,a9R a];with_reducible exact (s6 _ _)) ?_
   refine a7 (y8 _ _) ?_
   refine l9 h (fun _ h=>?_) (fun _ h=>?_)
   ·exact hR _ H _ _ I ⟨65533,1,false,rfl,rfl,h⟩
   ·exact hR _ H _ _ I ⟨a7y,a8F,true,rfl,rfl,h⟩
  refine p7 fun j2 hx2=>?_
  refine A4 (σ:=Int×Int) (fun (b3O,a1e)=>[(vi b3O),(vi a1e)]) (fun (b3O,a1e)=>[]) h rfl I ?_
  rintro ⟨b3O,a1e⟩ H m w next3 n3 f I h hn3
  dsimp only at f I h
  simp only [List.map_cons,List.map_nil,List.cons.injEq,and_true] at f
  obtain ⟨e10,e11⟩:=f
  simp only [e10,e11]
  refine a7 pLs ?_
  refine m0 h (fun _ h=>?_) (fun _ h=>?_)
  ·refine a7 pAd (a7 (X9 _) (a7 pGe ?_))
   simp only [p8]
   refine a7 (Pu.g fun a=>by simp only [g9 a];with_reducible exact pAd) ?_
   obtain ⟨c,h⟩:=h
   refine a7 (Pu.g fun hb=>by have a:=hb;simp only [g9 a];with_reducible exact (a3j _ _ _ (c hb).1 (c hb).2)) ?_
   refine a7 (Pu.g fun a=>by simp only [g9 a];with_reducible exact pLs) ?_
   refine a7 (y8 _ _) ?_
   simp only [p8]
   refine a7 (Pu.g fun a=>by simp only [g9 a];with_reducible exact pAd) ?_
   obtain ⟨d,h⟩:=h
   refine a7 (Pu.g fun hb=>by have a:=hb;simp only [g9 a];with_reducible exact (a3j _ _ _ (d hb).1 (d hb).2)) ?_
   refine a7 (Pu.g fun a=>by simp only [g9 a];with_reducible exact pGe) ?_
   refine a7 (y8 _ _) ?_
   refine l9 h (fun _ h=>?_) (fun _ h=>?_)
   ·exact hR _ H _ _ I ⟨65533,1,false,rfl,rfl,h⟩
   ·refine a7 pMu (a7 pAd ?_)
    obtain ⟨k,l,h⟩:=h
    refine a7 (a3j _ _ _ k l) (a7 (b5I _ _) (a7 pAd (a7 pSu (a7 pAd ?_))))
    exact hn3 ((IntKind.wrap .i64 ((IntKind.wrap .i64 ((IntKind.wrap .i64 (64*b3O))+(IntKind.wrap .i64 ((x0.get! (IntKind.wrap .i64 (x1+a1e):Int).toNat).toNat:Int))))-128)),(IntKind.wrap .i64 (a1e+1))) _ _ h I
  ·exact hx2 _ _ (hj2 b3O H _ I h)
 refine p7 fun j1 hx1=>?_
 refine a7 pLs ?_
 refine m0 h (fun _ h=>?_) (fun _ h=>?_)
 ·exact hR _ H _ _ I ⟨(IntKind.wrap .i64 ((x0.get! (x1:Int).toNat).toNat:Int)),1,true,rfl,rfl,h⟩
 ·refine a7 pGe ?_
  simp only [p8]
  refine a7 (Pu.g fun a=>by simp only [g9 a];with_reducible exact pLs) ?_
  refine a7 (s6 _ _) ?_
  refine l9 h (fun _ h=>?_) (fun _ h=>?_)
  ·refine a7 pSu ?_
   exact hx1 _ _ (hj1 2 128 (IntKind.wrap .i64 ((IntKind.wrap .i64 ((x0.get! (x1:Int).toNat).toNat:Int))-192)) H _ I h)
  ·refine a7 pGe ?_
   simp only [p8]
   refine a7 (Pu.g fun a=>by simp only [g9 a];with_reducible exact pLs) ?_
   refine a7 (s6 _ _) ?_
   refine l9 h (fun _ h=>?_) (fun _ h=>?_)
   ·refine a7 pSu ?_
    exact hx1 _ _ (hj1 3 2048 (IntKind.wrap .i64 ((IntKind.wrap .i64 ((x0.get! (x1:Int).toNat).toNat:Int))-224)) H _ I h)
   ·refine a7 pGe ?_
    simp only [p8]
    refine a7 (Pu.g fun a=>by simp only [g9 a];with_reducible exact pLs) ?_
    refine a7 (s6 _ _) ?_
    refine l9 h (fun _ h=>?_) (fun _ h=>?_)
    ·refine a7 pSu ?_
     exact hx1 _ _ (hj1 4 65536 (IntKind.wrap .i64 ((IntKind.wrap .i64 ((x0.get! (x1:Int).toNat).toNat:Int))-240)) H _ I h)
    ·exact hR _ H _ _ I ⟨65533,1,false,rfl,rfl,h⟩
def a3i(a9g:Int)(H:Hp)(K:Bool→Hp→Prop):Prop:=
 K (decide (a9g≤32)) H
def a6M(M8:ByteArray)(a5R:Int)(Q3:Int)(H:Hp)(n2:(Int×Int)→Hp→Prop)(K:Bool→Hp→Prop):Prop:=
 (Q3 < (M8.size:Int)→
 O5 M8 Q3 H (fun d e b f=>
 a0f d f (fun a c=>
 (((!b)||((!decide (a=3))&&((!decide (a=4))||(decide (a5R=0)))))=true→
 K false c)∧
 (((!b)||((!decide (a=3))&&((!decide (a=4))||(decide (a5R=0)))))=false→
 n2 ((IntKind.wrap .i64 (a5R+1)),(IntKind.wrap .i64 (Q3+e))) c))))∧
 (¬(Q3 < (M8.size:Int))→
 a3i a5R H K)
def a7U(x0:ByteArray)(H:Hp)(K:Bool→Hp→Prop):Prop:=
 TG (((decide (x0=⟨#[]⟩))||(decide (128 < (x0.size:Int))))=false) (a0u x0 H) false H (fun(a:Bool)(b:Hp)=>
 ((((decide (x0=⟨#[]⟩))||(decide (128 < (x0.size:Int))))||a)=true→
 K false b)∧
 ((((decide (x0=⟨#[]⟩))||(decide (128 < (x0.size:Int))))||a)=false→
 TL ((0,0):Int×Int) b fun(s:Int×Int) H n2=>a6M x0 s.1 s.2 H n2 K))
theorem b3p(x0){H K}(h:a7U x0 H K):a1P x0 H K:=by
 refine Ct.of fun w0 w ps0 H0 R E I hR=>c9v ?_
 refine a7 (G1 _ _ _ _ _) ?_
 simp only [p8]
 refine a7 (Pu.g fun a=>by simp only [g9 a];with_reducible exact (X9 _)) ?_
 refine a7 (Pu.g fun a=>by simp only [g9 a];with_reducible exact pGt) ?_
 refine a7 (y8 _ _) ?_
 simp only [p8]
 refine C5 [] (fun f:Bool=>(vB f)) h I (fun a h=>by simp only [g9 a];exact D5 Tryz.call111 h I) fun f j q i m n h=>?_
 refine a7 (y8 _ _) ?_
 refine l9 h (fun _ h=>?_) (fun _ h=>?_)
 ·exact hR _ j _ _ i ⟨_,rfl,rfl,h⟩
 ·have hj1:∀(a9g:Int) H w (_:Inv w0 ps0 H0 H [] w) (_:a3i a9g H K),c1Y (vi a9g) w R E:=by
   intro a9g H w I h
   intro _
   refine a7 pLe ?_
   exact hR _ H _ _ I ⟨_,rfl,rfl,h⟩
  refine p7 fun j1 hx1=>?_
  refine A4 (σ:=Int×Int) (fun (a5R,Q3)=>[(vi a5R),(vi Q3)]) (fun (a5R,Q3)=>[]) h rfl i ?_
  rintro ⟨a5R,Q3⟩ H v w next2 n2 k I h hn2
  dsimp only at k I h
  simp only [List.map_cons,List.map_nil,List.cons.injEq,and_true] at k
  obtain ⟨e3,e4⟩:=k
  simp only [e3,e4]
  refine a7 (X9 _) (a7 pLs ?_)
  refine m0 h (fun _ h=>?_) (fun _ h=>?_)
  ·refine f9 Tryz.call108 h I ?_
   rintro _ _ _ y r _ _ ⟨s,o,t,rfl,rfl,h⟩
   refine a7 (m5 _ _ (vi s) rfl) (a7 (m5 _ _ (vi o) rfl) (a7 (m5 _ _ (vB t) rfl) ?_))
   refine f9 Tryz.call142 h r ?_
   rintro _ u _ z p _ _ ⟨aa,rfl,rfl,h⟩
   refine a7 (E1 _) ?_
   simp only [p8]
   refine a7 (Pu.g fun a=>by simp only [g9 a];with_reducible exact pNe) ?_
   simp only [a3K,b2O]
   refine a7 (Pu.e (a0N _ _ _) (Pu.g fun hb=>by obtain ⟨a,b⟩:=a3J hb;simp only [g9 hb];with_reducible exact pNe)) ?_
   simp only [a3K,b9T]
   refine a7 (Pu.e (U1 _ _ _) (Pu.g fun hb=>by obtain ⟨d,c⟩:=a0w hb;obtain ⟨a,b⟩:=a3J d;simp only [g9 hb];with_reducible exact pEq)) ?_
   refine a7 (Pu.e (a0N _ _ _) (Pu.g fun hb=>by obtain ⟨a,b⟩:=a3J hb;simp only [g9 hb,a9Q hb];with_reducible exact (y8 _ _))) ?_
   refine a7 (Pu.g fun a=>by simp only [g9 a,a9R a];with_reducible exact (s6 _ _)) ?_
   refine a7 (y8 _ _) ?_
   refine l9 h (fun _ h=>?_) (fun _ h=>?_)
   ·exact hR _ u _ _ p ⟨_,rfl,rfl,h⟩
   ·refine a7 pAd (a7 pAd ?_)
    exact hn2 ((IntKind.wrap .i64 (a5R+1)),(IntKind.wrap .i64 (Q3+o))) _ _ h p
  ·exact hx1 _ _ (hj1 a5R H _ I h)
def a4J(b4c:Int)(a:f8)(y1:Int)(r9:d7)(H:Hp)(n2:(Int×d7)→Hp→Prop)(K:d7→Hp→Prop):Prop:=
 (((decide (y1 < (a.B0.n:Int)))&&(decide (r9.fbad=0)))=true→
 (0:Int)≤y1∧(y1:Int) < a.B0.n∧∃b:f8,EltH H a.B0 y1 4 (i7 b)∧
 a0m r9 b (IntKind.wrap .i64 (b4c+1)) H (fun c d=>
 n2 ((IntKind.wrap .i64 (y1+1)),c) d))∧
 (((decide (y1 < (a.B0.n:Int)))&&(decide (r9.fbad=0)))=false→
 K r9 H)
def a1o(b4O:Int)(p1:d7)(a:f8)(H:Hp)(K:d7→Hp→Prop):Prop:=
 TL ((0,p1):Int×d7) H fun(s:Int×d7) H n2=>a4J b4O a s.1 s.2 H n2 K
def a4K(d4f:Int)(a:f8)(Y6:Int)(a0M:d7)(H:Hp)(n3:(Int×d7)→Hp→Prop)(K:d7→Hp→Prop):Prop:=
 (((decide (Y6 < (a.o4.n:Int)))&&(decide (a0M.fbad=0)))=true→
 (0:Int)≤Y6∧(Y6:Int) < a.o4.n∧∃b:d9,EltH H a.o4 Y6 4 (g7 b)∧
 U6 a0M b (IntKind.wrap .i64 (d4f+1)) H (fun c d=>
 n3 ((IntKind.wrap .i64 (Y6+1)),c) d))∧
 (((decide (Y6 < (a.o4.n:Int)))&&(decide (a0M.fbad=0)))=false→
 a1o d4f a0M a H K)
def a6i(x0:d7)(x1:f8)(x2:Int)(H:Hp)(K:d7→Hp→Prop):Prop:=
 P8 x0 x2 H (fun a b c=>
 ((!a)=true→
 K b c)∧
 ((!a)=false→
 TL ((0,b):Int×d7) c fun(s:Int×d7) H n3=>a4K x2 x1 s.1 s.2 H n3 K))
theorem b0E(x0 x1 x2){H K}(h:a6i x0 x1 x2 H K):a0m x0 x1 x2 H K:=by
 intro g0
 refine Ct.of fun w0 w ps0 H0 R E I hR=>d3N ?_
 refine Q1 I (cs:=(i7 x1)) rfl fun b aa j ab=>?_
 refine f9 Tryz.call115 (h g0) (j.bring 1) ?_
 rintro _ k _ ac i _ _ ⟨ad,l,rfl,rfl,h⟩
 refine a7 (E1 _) ?_
 refine l9 h (fun _ h=>?_) (fun _ h=>?_)
 ·exact hR _ k _ _ (i.bring 1).drop ⟨l,rfl,rfl,h⟩
 ·have hj1:∀(p1:d7) H w (_:Inv w0 ps0 H0 H [bx g0 120 (r8 p1),bx b 49 (i7 x1)] w) (_:a1o x2 p1 x1 H K),c5F (Value.pointer (some ⟨g0,0,none⟩)) (vi x2) (Value.pointer (some ⟨b,0,none⟩)) w R E:=by
   intro p1 H w I h
   intro _
   refine A4 (σ:=Int×d7) (fun (y1,r9)=>[(vi y1)]) (fun (y1,r9)=>[bx g0 120 (r8 r9),bx b 49 (i7 x1)]) h rfl ((I.bring 1).bring 1) ?_
   rintro ⟨y1,r9⟩ H ae w next2 n2 c I h hn2
   dsimp only at c I h
   simp only [List.map_cons,List.map_nil,List.cons.injEq,and_true] at c
   have e7:=c
   simp only [e7]
   refine a7 a0W (c8 (l1 Tryz.isAgg47 (I.bring 1) rfl) (a7 (a0r _ _ _) (a7 pLs ?_)))
   simp only [p8]
   refine a7 (Pu.g fun a=>by simp only [g9 a];with_reducible exact (o3 _)) ?_
   refine a7 (Pu.g fun a=>by simp only [g9 a];with_reducible exact W7) ?_
   refine c8 (Ld.g fun a=>by simp only [g9 a];exact (l1 Tryz.isAgg3 I rfl)) ?_
   refine a7 (Pu.g fun a=>by simp only [g9 a];with_reducible exact pEq) ?_
   refine a7 (s6 _ _) ?_
   refine l9 h (fun _ h=>?_) (fun _ h=>?_)
   ·refine a7 a0W (c8 (l1 Tryz.isAgg47 (I.bring 1) rfl) ?_)
    obtain ⟨m,n,o,d,h⟩:=h
    obtain ⟨af,ag,p,d⟩:=d
    refine a7 (a6R p _ _ _ _ m n) (c8 (ldA (vs:=(i7 o)) Tryz.isAgg49 Tryz.sizeOf49 rfl (I.atH d)) (a7 pAd ?_))
    refine f9 Tryz.call91 (h g0) I ?_
    rintro _ _ _ ah q _ _ ⟨r,rfl,rfl,h⟩
    refine a7 pAd ?_
    exact hn2 ((IntKind.wrap .i64 (y1+1)),r) _ _ h ((q.bring 1).bring 1)
   ·exact hR _ H _ _ (I.bring 1).drop ⟨r9,rfl,rfl,h⟩
  refine p7 fun j1 hx1=>?_
  refine A4 (σ:=Int×d7) (fun (Y6,a0M)=>[(vi Y6)]) (fun (Y6,a0M)=>[bx g0 120 (r8 a0M),bx b 49 (i7 x1)]) h rfl ((i.bring 1).bring 1) ?_
  rintro ⟨Y6,a0M⟩ H ai w next3 n3 e I h hn3
  dsimp only at e I h
  simp only [List.map_cons,List.map_nil,List.cons.injEq,and_true] at e
  have e6:=e
  simp only [e6]
  refine a7 a0X (c8 (l1 Tryz.isAgg38 (I.bring 1) rfl) (a7 (O4 _ _ _) (a7 pLs ?_)))
  simp only [p8]
  refine a7 (Pu.g fun a=>by simp only [g9 a];with_reducible exact (o3 _)) ?_
  refine a7 (Pu.g fun a=>by simp only [g9 a];with_reducible exact W7) ?_
  refine c8 (Ld.g fun a=>by simp only [g9 a];exact (l1 Tryz.isAgg3 I rfl)) ?_
  refine a7 (Pu.g fun a=>by simp only [g9 a];with_reducible exact pEq) ?_
  refine a7 (s6 _ _) ?_
  refine l9 h (fun _ h=>?_) (fun _ h=>?_)
  ·refine a7 a0X (c8 (l1 Tryz.isAgg38 (I.bring 1) rfl) ?_)
   obtain ⟨s,t,u,f,h⟩:=h
   obtain ⟨aj,ak,v,f⟩:=f
   refine a7 (a1N v _ _ _ _ s t) (c8 (ldA (vs:=(g7 u)) Tryz.isAgg40 Tryz.sizeOf40 rfl (I.atH f)) (a7 pAd ?_))
   refine f9 Tryz.call84 (h g0) I ?_
   rintro _ _ _ al y _ _ ⟨z,rfl,rfl,h⟩
   refine a7 pAd ?_
   exact hn3 ((IntKind.wrap .i64 (Y6+1)),z) _ _ h ((y.bring 1).bring 1)
  ·exact hx1 _ _ (hj1 a0M H _ ((I.bring 1).bring 1) h)
def a9J(x0:a8)(x1:Int)(H:Hp)(K:d9→a8→Hp→Prop):Prop:=
 (¬(x0.fbad=0)→
 K (d9.mk 0 0 ⟨#[]⟩ (Sl.mk none 0 0)) x0 H)∧
 (x0.fbad=0→
 W8 x0 H (fun k l=>
 ((!k)=true→
 A5 x0 40 l (fun aa ab=>
 K (d9.mk 0 0 ⟨#[]⟩ (Sl.mk none 0 0)) aa ab))∧
 ((!k)=false→
 B8 x0 l (fun b ac=>
 S5 x0 x1 ac (fun d m=>
 (¬(d.fbad=0)→
 K (d9.mk 0 0 ⟨#[]⟩ (Sl.mk none 0 0)) d m)∧
 (d.fbad=0→
 q7 d ⟨#[45]⟩ m (fun o p q=>
 (o=true→
 O2 p (IntKind.wrap .i64 (x1+1)) q (fun ad ae af=>
 ∀(e:Sl)(g:Hp),Hle af g→SlH g 4 g7 e [ad]→e.n≤e.c→
 K (d9.mk 5 0 ⟨#[]⟩ e) ae g))∧
 (o=false→
 q7 p ⟨#[105,110,112,117,116]⟩ q (fun r s t=>
 (r=true→
 K (d9.mk 3 0 ⟨#[]⟩ (Sl.mk none 0 0)) s t)∧
 (r=false→
 q7 s ⟨#[40]⟩ t (fun u a i=>
 (u=true→
 C7 a (IntKind.wrap .i64 (x1+1)) i (fun ag ah ai=>
 t6 ah ⟨#[41]⟩ ai (fun aj ak=>
 K ag aj ak)))∧
 (u=false→
 (b.d8=2→
 K (d9.mk 1 b.G9 ⟨#[]⟩ (Sl.mk none 0 0)) (a8.mk a.fl (IntKind.wrap .i64 (a.fat+1)) a.fbad a.fpos) i)∧
 (¬(b.d8=2)→
 q7 (a8.mk a.fl (IntKind.wrap .i64 (a.fat+1)) a.fbad a.fpos) ⟨#[91]⟩ i (fun v y z=>
 (v=true→
 C7 y (IntKind.wrap .i64 (x1+1)) z (fun al am an=>
 t6 am ⟨#[93]⟩ an (fun ao ap=>
 ∀(f:Sl)(j:Hp),Hle ap j→SlH j 4 g7 f [al]→f.n≤f.c→
 K (d9.mk 4 0 b.C3 f) ao j)))∧
 (v=false→
 K (d9.mk 2 0 b.C3 (Sl.mk none 0 0)) y z)))))))))))))))
theorem a1G(x0 x1){H K}(h:a9J x0 x1 H K):O2 x0 x1 H K:=by
 intro g0
 refine Ct.of fun w0 w ps0 H0 R E I hR=>c9D ?_
 refine o7 I Tryz.zeroValue40 (cs:=[(vi 0),(vi 0),(eS),(nS)]) rfl fun bt bu f bv=>?_
 refine a7 (o3 _) (a7 V4 (c8 (l1 Tryz.isAgg3 (f.bring 1) rfl) (a7 pNe ?_)))
 refine Z9 h (fun _ h=>?_) (fun _ h=>?_)
 ·refine a7 (b5H) ?_
  refine o9 f Tryz.sizeOf40 (vs:=[(vi 0),(vi 0),(eS),(nS)]) fun bw o bz=>?_
  refine q8 Tryz.isAgg40 Tryz.sizeOf40 rfl o ?_
  exact hR _ H _ _ o.drop ⟨(d9.mk 0 0 ⟨#[]⟩ (Sl.mk none 0 0)),x0,rfl,rfl,h⟩
 ·refine f9 Tryz.call146 (h g0) (f.bring 1) ?_
  rintro _ _ _ ca p _ _ ⟨cb,rfl,rfl,h⟩
  refine a7 (E1 _) ?_
  refine l9 h (fun _ h=>?_) (fun _ h=>?_)
  ·refine f9 Tryz.call66 (h g0) p ?_
   rintro _ ag _ cc ah _ _ ⟨ai,rfl,rfl,h⟩
   refine a7 (b5H) ?_
   refine o9 (ah.bring 1) Tryz.sizeOf40 (vs:=[(vi 0),(vi 0),(eS),(nS)]) fun cd q ce=>?_
   refine q8 Tryz.isAgg40 Tryz.sizeOf40 rfl q ?_
   exact hR _ ag _ _ q.drop ⟨(d9.mk 0 0 ⟨#[]⟩ (Sl.mk none 0 0)),ai,rfl,rfl,h⟩
  ·refine f9 Tryz.call63 (h g0) p ?_
   rintro _ _ _ cf aj _ _ ⟨a,rfl,rfl,h⟩
   refine o7 aj Tryz.zeroValue103 (cs:=[(vi 0),(eS),(vi 0),(vi 0),(vi 0)]) rfl fun cg ch ak ci=>?_
   refine o9 ak Tryz.sizeOf103 (vs:=(i8 a)) fun cj al ck=>?_
   refine f9 Tryz.call114 (h g0) (al.bring 1) ?_
   rintro _ am _ cl g _ _ ⟨an,rfl,rfl,h⟩
   refine a7 (o3 _) (a7 V4 (c8 (l1 Tryz.isAgg3 g rfl) (a7 pNe ?_)))
   refine Z9 h (fun _ h=>?_) (fun _ h=>?_)
   ·refine a7 (b5H) ?_
    refine o9 (g.bring 2) Tryz.sizeOf40 (vs:=[(vi 0),(vi 0),(eS),(nS)]) fun cm r cn=>?_
    refine q8 Tryz.isAgg40 Tryz.sizeOf40 rfl r ?_
    exact hR _ am _ _ (r.drop.bring 1).drop ⟨(d9.mk 0 0 ⟨#[]⟩ (Sl.mk none 0 0)),an,rfl,rfl,h⟩
   ·refine f9 Tryz.call67 (h g0) g ?_
    rintro _ _ _ co s _ _ ⟨cp,cq,rfl,rfl,h⟩
    refine l9 h (fun _ h=>?_) (fun _ h=>?_)
    ·refine a7 pAd ?_
     refine f9 Tryz.call123 (h g0) s ?_
     rintro _ _ _ cr ao _ _ ⟨ap,aq,rfl,rfl,h⟩
     refine Q9 (e:=40) (c:=g7) (xs:=[ap]) ao (a9m _ _ _ _ _ _) rfl rfl F6 F7 (nb rfl) fun i ct cu ar au cv=>?_
     refine a7 (a7c _ _ _ _) ?_
     refine o9 (au.bring 3) Tryz.sizeOf40 (vs:=[(vi 5),(vi 0),(eS),(vs i)]) fun cw t cx=>?_
     refine q8 Tryz.isAgg40 Tryz.sizeOf40 rfl t ?_
     obtain ⟨u,av,aw,ax,ay⟩:=Inv.freezeC (t.bring 1) ar (by decide)
     replace h:=h i u aw ax ay
     exact hR _ u _ _ (av.drop.bring 1).drop ⟨(d9.mk 5 0 ⟨#[]⟩ i),aq,rfl,rfl,h⟩
    ·refine f9 Tryz.call67 (h g0) s ?_
     rintro _ az _ cy v _ _ ⟨cz,ba,rfl,rfl,h⟩
     refine l9 h (fun _ h=>?_) (fun _ h=>?_)
     ·refine a7 (b6S _) ?_
      refine o9 (v.bring 2) Tryz.sizeOf40 (vs:=[(vi 3),(vi 0),(eS),(nS)]) fun da y db=>?_
      refine q8 Tryz.isAgg40 Tryz.sizeOf40 rfl y ?_
      exact hR _ az _ _ (y.drop.bring 1).drop ⟨(d9.mk 3 0 ⟨#[]⟩ (Sl.mk none 0 0)),ba,rfl,rfl,h⟩
     ·refine f9 Tryz.call67 (h g0) v ?_
      rintro _ bb _ dc j _ _ ⟨dd,b,rfl,rfl,h⟩
      refine l9 h (fun _ h=>?_) (fun _ h=>?_)
      ·refine a7 pAd ?_
       refine f9 Tryz.call37 (h g0) j ?_
       rintro _ _ _ de bc _ _ ⟨k,df,rfl,rfl,h⟩
       refine o7 bc Tryz.zeroValue40 (cs:=[(vi 0),(vi 0),(eS),(nS)]) rfl fun dg dh bd di=>?_
       refine o9 bd Tryz.sizeOf40 (vs:=(g7 k)) fun dj be dk=>?_
       refine f9 Tryz.call65 (h g0) (be.bring 1) ?_
       rintro _ bf _ dl z _ _ ⟨bg,rfl,rfl,h⟩
       refine c8 (lW Tryz.isAgg40 Tryz.sizeOf40 rfl (z.bring 1)) ?_
       refine o9 (z.bring 3) Tryz.sizeOf40 (vs:=(g7 k)) fun dm aa dn=>?_
       refine q8 Tryz.isAgg40 Tryz.sizeOf40 rfl aa ?_
       exact hR _ bf _ _ ((aa.drop.bring 1).drop.bring 1).drop ⟨k,bg,rfl,rfl,h⟩
      ·refine a7 (o3 _) (a7 T6 (c8 (l1 Tryz.isAgg3 j rfl) (a7 pAd (a7 (o3 _) ?_))))
       refine a7 T6 ?_
       refine A9 j Tryz.sizeOf3 fun dp d dq=>?_
       refine a7 W6 (c8 (l1 Tryz.isAgg3 (d.bring 1) rfl) (a7 pEq ?_))
       refine m0 h (fun _ h=>?_) (fun _ h=>?_)
       ·refine a7 a3X (c8 (l1 Tryz.isAgg2 (d.bring 1) rfl) (a7 (b5p _ _) ?_))
        refine o9 (d.bring 2) Tryz.sizeOf40 (vs:=[(vi 1),(vi a.G9),(eS),(nS)]) fun dr ab ds=>?_
        refine q8 Tryz.isAgg40 Tryz.sizeOf40 rfl ab ?_
        exact hR _ bb _ _ (ab.drop.bring 1).drop ⟨(d9.mk 1 a.G9 ⟨#[]⟩ (Sl.mk none 0 0)),(a8.mk b.fl (IntKind.wrap .i64 (b.fat+1)) b.fbad b.fpos),rfl,rfl,h⟩
       ·refine f9 Tryz.call67 (h g0) d ?_
        rintro _ bh _ dt l _ _ ⟨du,bi,rfl,rfl,h⟩
        refine l9 h (fun _ h=>?_) (fun _ h=>?_)
        ·refine a7 pAd ?_
         refine f9 Tryz.call37 (h g0) l ?_
         rintro _ _ _ dv bj _ _ ⟨ac,dw,rfl,rfl,h⟩
         refine o7 bj Tryz.zeroValue40 (cs:=[(vi 0),(vi 0),(eS),(nS)]) rfl fun dx dy bk dz=>?_
         refine o9 bk Tryz.sizeOf40 (vs:=(g7 ac)) fun ea bl eb=>?_
         refine f9 Tryz.call65 (h g0) (bl.bring 1) ?_
         rintro _ _ _ ec m _ _ ⟨bm,rfl,rfl,h⟩
         refine a7 Q7 (c8 (l1 Tryz.isAgg9 (m.bring 2) rfl) (c8 (lW Tryz.isAgg40 Tryz.sizeOf40 rfl (m.bring 1)) ?_))
         refine Q9 (e:=40) (c:=g7) (xs:=[ac]) m (a9m _ _ _ _ _ _) rfl rfl F6 F7 (nb rfl) fun n ed ee bn bo ef=>?_
         refine a7 (b3I _ _ _ _ _) ?_
         refine o9 (bo.bring 4) Tryz.sizeOf40 (vs:=[(vi 4),(vi 0),(Value.string a.C3),(vs n)]) fun eg ad eh=>?_
         refine q8 Tryz.isAgg40 Tryz.sizeOf40 rfl ad ?_
         obtain ⟨ae,bp,bq,br,bs⟩:=Inv.freezeC (ad.bring 1) bn (by decide)
         replace h:=h n ae bq br bs
         exact hR _ ae _ _ ((bp.drop.bring 1).drop.bring 1).drop ⟨(d9.mk 4 0 a.C3 n),bm,rfl,rfl,h⟩
        ·refine a7 Q7 (c8 (l1 Tryz.isAgg9 (l.bring 1) rfl) (a7 (b5q _ _) ?_))
         refine o9 (l.bring 2) Tryz.sizeOf40 (vs:=[(vi 2),(vi 0),(Value.string a.C3),(nS)]) fun ei af ej=>?_
         refine q8 Tryz.isAgg40 Tryz.sizeOf40 rfl af ?_
         exact hR _ bh _ _ (af.drop.bring 1).drop ⟨(d9.mk 2 0 a.C3 (Sl.mk none 0 0)),bi,rfl,rfl,h⟩
def a3F(p1:a8)(a:d9)(b:d9)(H:Hp)(K:d9→a8→Hp→Prop):Prop:=
 K a p1 H
def a3G(R1:Int)(E9:Int)(r9:a8)(d:d9)(e:d9)(H:Hp)(n2:(Int×a8×d9×d9)→Hp→Prop)(K:d9→a8→Hp→Prop):Prop:=
 (¬(E9=0)→
 O2 (a8.mk r9.fl (IntKind.wrap .i64 (r9.fat+1)) r9.fbad r9.fpos) R1 H (fun g f i=>
 R3 f i (fun j k=>
 ∀(a:Sl)(b:Hp),Hle k b→SlH b 4 g7 a [d,g]→a.n≤a.c→
 n2 (j,f,(d9.mk E9 0 ⟨#[]⟩ a),e) b)))∧
 (E9=0→
 a3F r9 d e H K)
def a5l(x0:a8)(x1:Int)(H:Hp)(K:d9→a8→Hp→Prop):Prop:=
 O2 x0 x1 H (fun b a c=>
 R3 a c (fun d e=>
 TL ((d,a,b,(d9.mk 0 0 ⟨#[]⟩ (Sl.mk none 0 0))):Int×a8×d9×d9) e fun(s:Int×a8×d9×d9) H n2=>a3G x1 s.1 s.2.1 s.2.2.1 s.2.2.2 H n2 K))
theorem a5m(x0 x1){H K}(h:a5l x0 x1 H K):S6 x0 x1 H K:=by
 intro g0
 refine Ct.of fun w0 w ps0 H0 R E I hR=>d3B ?_
 refine o7 I Tryz.zeroValue40 (cs:=[(vi 0),(vi 0),(eS),(nS)]) rfl fun g ak n al=>?_
 refine f9 Tryz.call123 (h g0) (n.bring 1) ?_
 rintro _ _ _ am o _ _ ⟨p,an,rfl,rfl,h⟩
 refine o7 o Tryz.zeroValue40 (cs:=[(vi 0),(vi 0),(eS),(nS)]) rfl fun i ao q ap=>?_
 refine o9 q Tryz.sizeOf40 (vs:=(g7 p)) fun aq r ar=>?_
 have hj1:∀(p1:a8)(a:d9)(j:d9) H w (_:Inv w0 ps0 H0 H [bx g0 66 (f7 p1),bx i 40 (g7 a),bx g 40 (g7 j)] w) (_:a3F p1 a j H K),c5x (Value.pointer (some ⟨g,0,none⟩)) (Value.pointer (some ⟨i,0,none⟩)) w R E:=by
  intro p1 a j H w I h
  intro _
  refine c8 (lW Tryz.isAgg40 Tryz.sizeOf40 rfl (I.bring 1)) ?_
  refine o9 (I.bring 2) Tryz.sizeOf40 (vs:=(g7 a)) fun au m av=>?_
  refine q8 Tryz.isAgg40 Tryz.sizeOf40 rfl m ?_
  exact hR _ H _ _ (m.drop.bring 1).drop ⟨a,p1,rfl,rfl,h⟩
 refine p7 fun j1 hx1=>?_
 refine f9 Tryz.call124 (h g0) (r.bring 1) ?_
 rintro _ _ _ aw s _ _ ⟨ax,rfl,rfl,h⟩
 refine A4 (σ:=Int×a8×d9×d9) (fun (E9,r9,b,d)=>[(vi E9)]) (fun (E9,r9,b,d)=>[bx g0 66 (f7 r9),bx i 40 (g7 b),bx g 40 (g7 d)]) h rfl (((s.bring 2).bring 2).bring 2) ?_
 rintro ⟨E9,r9,b,d⟩ H ay w next2 n2 k I h hn2
 dsimp only at k I h
 simp only [List.map_cons,List.map_nil,List.cons.injEq,and_true] at k
 have e6:=k
 simp only [e6]
 refine a7 pNe ?_
 refine Z9 h (fun _ h=>?_) (fun _ h=>?_)
 ·refine a7 (o3 _) (a7 T6 (c8 (l1 Tryz.isAgg3 I rfl) (a7 pAd (a7 (o3 _) ?_))))
  refine a7 T6 ?_
  refine A9 I Tryz.sizeOf3 fun az t ba=>?_
  refine O6 t fun bb f=>?_
  refine u1 (lW Tryz.isAgg40 Tryz.sizeOf40 rfl (f.bring 1)) ?_
  refine f9 Tryz.call123 (h g0) f ?_
  rintro _ _ _ bc u _ v ⟨y,z,rfl,rfl,h⟩
  refine ⟨(v _ (f.bring 1).lt1 (Inv.X0 (Fi:=[bx g0 66 [(vs r9.fl),(vi (IntKind.wrap .i64 (r9.fat+1))),(vi r9.fbad),(vi r9.fpos.B9),(vi r9.fpos.K8)]]) ((f.bring 1).bring 1))),?_⟩
  refine Q9 (e:=40) (c:=g7) (xs:=[b,y]) u (b4k _ _ _ _ _ _ _ _ _ _ _ _) rfl rfl F6 F7 (nb rfl) fun l bd be aa ab bf=>?_
  refine o5 (a7c _ _ _ _) ?_
  refine o9 (ab.bring 2) Tryz.sizeOf40 (vs:=[(vi E9),(vi 0),(eS),(vs l)]) fun bg ac bh=>?_
  refine f9 Tryz.call124 (h g0) (ac.bring 2) ?_
  rintro _ _ _ bi ad _ _ ⟨ae,rfl,rfl,h⟩
  obtain ⟨af,ag,ah,ai,aj⟩:=Inv.freezeC (ad.bring 2) aa (by decide)
  replace h:=h l af ah ai aj
  exact hn2 (ae,z,(d9.mk E9 0 ⟨#[]⟩ l),d) _ _ h (((ag.bring 2).bring 2).bring 2)
 ·exact hx1 _ _ (hj1 r9 b d H _ (((I.bring 2).bring 2).bring 2) h)
def a4b(a:C9)(p1:a8)(H:Hp)(K:Int→Hp→Prop):Prop:=
 K 0 H
def a0S(a:C9)(r9:a8)(Q3:Int)(H:Hp)(n2:Int→Hp→Prop)(K:Int→Hp→Prop):Prop:=
 (Q3 < 6→
 (0:Int)≤Q3∧(Q3:Int) < 6∧
 o0 r9 (([a.f0,a.f1,a.f2,a.f3,a.f4,a.f5]:List ByteArray).getD (Q3:Int).toNat ⟨#[]⟩) H (fun b c=>
 (b=true→
 K (IntKind.wrap .i64 (1+Q3)) c)∧
 (b=false→
 n2 (IntKind.wrap .i64 (Q3+1)) c)))∧
 (¬(Q3 < 6)→
 a4b a r9 H K)
def a1W(x0:a8)(H:Hp)(K:Int→Hp→Prop):Prop:=
 TL (0:Int) H fun(s:Int) H n2=>a0S (C9.mk ⟨#[60]⟩ ⟨#[60,61]⟩ ⟨#[61,61]⟩ ⟨#[33,61]⟩ ⟨#[62]⟩ ⟨#[62,61]⟩) x0 s H n2 K
theorem a5J(x0){H K}(h:a1W x0 H K):a0g x0 H K:=by
 intro g0
 refine Ct.of fun w0 w ps0 H0 R E I hR=>d0c ?_
 refine a7 (a8J _ _ _ _ _ _) ?_
 refine o7 I Tryz.zeroValue203 (cs:=[(eS),(eS),(eS),(eS),(eS),(eS)]) rfl fun a j f k=>?_
 refine o9 f Tryz.sizeOf203 (vs:=[(Value.string ⟨#[60]⟩),(Value.string ⟨#[60,61]⟩),(Value.string ⟨#[61,61]⟩),(Value.string ⟨#[33,61]⟩),(Value.string ⟨#[62]⟩),(Value.string ⟨#[62,61]⟩)]) fun m g o=>?_
 have hj1:∀H w (_:Inv w0 ps0 H0 H [bx a 203 [(Value.string (C9.mk ⟨#[60]⟩ ⟨#[60,61]⟩ ⟨#[61,61]⟩ ⟨#[33,61]⟩ ⟨#[62]⟩ ⟨#[62,61]⟩).f0),(Value.string (C9.mk ⟨#[60]⟩ ⟨#[60,61]⟩ ⟨#[61,61]⟩ ⟨#[33,61]⟩ ⟨#[62]⟩ ⟨#[62,61]⟩).f1),(Value.string (C9.mk ⟨#[60]⟩ ⟨#[60,61]⟩ ⟨#[61,61]⟩ ⟨#[33,61]⟩ ⟨#[62]⟩ ⟨#[62,61]⟩).f2),(Value.string (C9.mk ⟨#[60]⟩ ⟨#[60,61]⟩ ⟨#[61,61]⟩ ⟨#[33,61]⟩ ⟨#[62]⟩ ⟨#[62,61]⟩).f3),(Value.string (C9.mk ⟨#[60]⟩ ⟨#[60,61]⟩ ⟨#[61,61]⟩ ⟨#[33,61]⟩ ⟨#[62]⟩ ⟨#[62,61]⟩).f4),(Value.string (C9.mk ⟨#[60]⟩ ⟨#[60,61]⟩ ⟨#[61,61]⟩ ⟨#[33,61]⟩ ⟨#[62]⟩ ⟨#[62,61]⟩).f5)],bx g0 66 (f7 x0)] w) (_:a4b (C9.mk ⟨#[60]⟩ ⟨#[60,61]⟩ ⟨#[61,61]⟩ ⟨#[33,61]⟩ ⟨#[62]⟩ ⟨#[62,61]⟩) x0 H K),c2o w R E:=by
  intro H w I h
  intro _
  exact hR _ H _ _ I.drop ⟨0,rfl,rfl,h⟩
 refine p7 fun j1 hx1=>?_
 refine A4 (σ:=Int) (fun Q3=>[(vi Q3)]) (fun Q3=>[bx a 203 [(Value.string (C9.mk ⟨#[60]⟩ ⟨#[60,61]⟩ ⟨#[61,61]⟩ ⟨#[33,61]⟩ ⟨#[62]⟩ ⟨#[62,61]⟩).f0),(Value.string (C9.mk ⟨#[60]⟩ ⟨#[60,61]⟩ ⟨#[61,61]⟩ ⟨#[33,61]⟩ ⟨#[62]⟩ ⟨#[62,61]⟩).f1),(Value.string (C9.mk ⟨#[60]⟩ ⟨#[60,61]⟩ ⟨#[61,61]⟩ ⟨#[33,61]⟩ ⟨#[62]⟩ ⟨#[62,61]⟩).f2),(Value.string (C9.mk ⟨#[60]⟩ ⟨#[60,61]⟩ ⟨#[61,61]⟩ ⟨#[33,61]⟩ ⟨#[62]⟩ ⟨#[62,61]⟩).f3),(Value.string (C9.mk ⟨#[60]⟩ ⟨#[60,61]⟩ ⟨#[61,61]⟩ ⟨#[33,61]⟩ ⟨#[62]⟩ ⟨#[62,61]⟩).f4),(Value.string (C9.mk ⟨#[60]⟩ ⟨#[60,61]⟩ ⟨#[61,61]⟩ ⟨#[33,61]⟩ ⟨#[62]⟩ ⟨#[62,61]⟩).f5)],bx g0 66 (f7 x0)]) h rfl ((g.bring 1).bring 1) ?_
 rintro Q3 H p w next2 n2 b I h hn2
 simp only [List.map_cons,List.map_nil,List.cons.injEq,and_true] at b
 have e4:=b
 simp only [e4]
 refine a7 pLs ?_
 refine m0 h (fun _ h=>?_) (fun _ h=>?_)
 ·obtain ⟨c,d,h⟩:=h
  refine a7 (c3r _ _ c d) (c8 (ld1 (v:=(Value.string (([(C9.mk ⟨#[60]⟩ ⟨#[60,61]⟩ ⟨#[61,61]⟩ ⟨#[33,61]⟩ ⟨#[62]⟩ ⟨#[62,61]⟩).f0,(C9.mk ⟨#[60]⟩ ⟨#[60,61]⟩ ⟨#[61,61]⟩ ⟨#[33,61]⟩ ⟨#[62]⟩ ⟨#[62,61]⟩).f1,(C9.mk ⟨#[60]⟩ ⟨#[60,61]⟩ ⟨#[61,61]⟩ ⟨#[33,61]⟩ ⟨#[62]⟩ ⟨#[62,61]⟩).f2,(C9.mk ⟨#[60]⟩ ⟨#[60,61]⟩ ⟨#[61,61]⟩ ⟨#[33,61]⟩ ⟨#[62]⟩ ⟨#[62,61]⟩).f3,(C9.mk ⟨#[60]⟩ ⟨#[60,61]⟩ ⟨#[61,61]⟩ ⟨#[33,61]⟩ ⟨#[62]⟩ ⟨#[62,61]⟩).f4,(C9.mk ⟨#[60]⟩ ⟨#[60,61]⟩ ⟨#[61,61]⟩ ⟨#[33,61]⟩ ⟨#[62]⟩ ⟨#[62,61]⟩).f5]:List ByteArray).getD (Q3:Int).toNat ⟨#[]⟩))) Tryz.isAgg9 (Inv.d1G (n:=6) (l:=[(C9.mk ⟨#[60]⟩ ⟨#[60,61]⟩ ⟨#[61,61]⟩ ⟨#[33,61]⟩ ⟨#[62]⟩ ⟨#[62,61]⟩).f0,(C9.mk ⟨#[60]⟩ ⟨#[60,61]⟩ ⟨#[61,61]⟩ ⟨#[33,61]⟩ ⟨#[62]⟩ ⟨#[62,61]⟩).f1,(C9.mk ⟨#[60]⟩ ⟨#[60,61]⟩ ⟨#[61,61]⟩ ⟨#[33,61]⟩ ⟨#[62]⟩ ⟨#[62,61]⟩).f2,(C9.mk ⟨#[60]⟩ ⟨#[60,61]⟩ ⟨#[61,61]⟩ ⟨#[33,61]⟩ ⟨#[62]⟩ ⟨#[62,61]⟩).f3,(C9.mk ⟨#[60]⟩ ⟨#[60,61]⟩ ⟨#[61,61]⟩ ⟨#[33,61]⟩ ⟨#[62]⟩ ⟨#[62,61]⟩).f4,(C9.mk ⟨#[60]⟩ ⟨#[60,61]⟩ ⟨#[61,61]⟩ ⟨#[33,61]⟩ ⟨#[62]⟩ ⟨#[62,61]⟩).f5]) I rfl rfl c d)) ?_)
  refine f9 Tryz.call23 (h g0) (I.bring 1) ?_
  rintro _ i _ q e _ _ ⟨r,rfl,rfl,h⟩
  refine l9 h (fun _ h=>?_) (fun _ h=>?_)
  ·refine a7 pAd ?_
   exact hR _ i _ _ (e.bring 1).drop ⟨(IntKind.wrap .i64 (1+Q3)),rfl,rfl,h⟩
  ·refine a7 pAd ?_
   exact hn2 (IntKind.wrap .i64 (Q3+1)) _ _ h (e.bring 1)
 ·exact hx1 _ _ (hj1 H _ ((I.bring 1).bring 1) h)
def a9K(x0:a8)(x1:Int)(x2:Int)(H:Hp)(K:b9→a8→Hp→Prop):Prop:=
 O3 x0 x2 H (fun d e f=>
 t6 e ⟨#[59]⟩ f (fun g i=>
 ∀(a:Sl)(b:Hp),Hle i b→SlH b 4 i7 a [d]→a.n≤a.c→
 K (b9.mk x1 ⟨#[]⟩ (Sl.mk none 0 0) a (Sl.mk none 0 0) (Sl.mk none 0 0)) g b))
theorem a9L(x0 x1 x2){H K}(h:a9K x0 x1 x2 H K):Z2 x0 x1 x2 H K:=by
 intro g0
 refine Ct.of fun w0 w ps0 H0 R E I hR=>d3b ?_
 refine o7 I Tryz.zeroValue56 (cs:=[(vi 0),(eS),(nS),(nS),(nS),(nS)]) rfl fun u v g y=>?_
 refine f9 Tryz.call43 (h g0) (g.bring 1) ?_
 rintro _ _ _ z i _ _ ⟨j,aa,rfl,rfl,h⟩
 refine Q9 (e:=49) (c:=i7) (xs:=[j]) i (a7q _ _ _ _ _ _ _ _) rfl rfl N4 N5 (nb rfl) fun a ab ac k l ad=>?_
 refine a7 (b5r _ _ _ _) ?_
 refine o7 l Tryz.zeroValue56 (cs:=[(vi 0),(eS),(nS),(nS),(nS),(nS)]) rfl fun ae af m ag=>?_
 refine o9 m Tryz.sizeOf56 (vs:=[(vi x1),(eS),(nS),(vs a),(nS),(nS)]) fun ah n ai=>?_
 refine f9 Tryz.call65 (h g0) (n.bring 2) ?_
 rintro _ _ _ aj b _ _ ⟨p,rfl,rfl,h⟩
 refine c8 (ldA Tryz.isAgg56 Tryz.sizeOf56 rfl ((b.bring 1).at1 (o:=0) (vs:=[(vi x1),(eS),(nS),(vs a),(nS),(nS)]) (nb rfl) rfl)) ?_
 refine o9 (b.bring 3) Tryz.sizeOf56 (vs:=[(vi x1),(eS),(nS),(vs a),(nS),(nS)]) fun ak d al=>?_
 refine q8 Tryz.isAgg56 Tryz.sizeOf56 rfl d ?_
 obtain ⟨f,q,r,s,t⟩:=Inv.freezeC (d.bring 3) k (by decide)
 replace h:=h a f r s t
 exact hR _ f _ _ (q.drop.bring 1).drop ⟨(b9.mk x1 ⟨#[]⟩ (Sl.mk none 0 0) a (Sl.mk none 0 0) (Sl.mk none 0 0)),p,rfl,rfl,h⟩
def a9M(x0:a8)(H:Hp)(K:ByteArray→a8→Hp→Prop):Prop:=
 B8 x0 H (fun a b=>
 (((!decide (x0.fbad=0))||(!decide (a.d8=1)))=true→
 A5 x0 40 b (fun c d=>
 K ⟨#[]⟩ c d))∧
 (((!decide (x0.fbad=0))||(!decide (a.d8=1)))=false→
 K a.C3 (a8.mk x0.fl (IntKind.wrap .i64 (x0.fat+1)) x0.fbad x0.fpos) b))
theorem a5n(x0){H K}(h:a9M x0 H K):a1y x0 H K:=by
 intro g0
 refine Ct.of fun w0 w ps0 H0 R E I hR=>d2X ?_
 refine f9 Tryz.call63 (h g0) I ?_
 rintro _ e _ m f _ _ ⟨c,rfl,rfl,h⟩
 refine o7 f Tryz.zeroValue103 (cs:=[(vi 0),(eS),(vi 0),(vi 0),(vi 0)]) rfl fun n o i p=>?_
 refine o9 i Tryz.sizeOf103 (vs:=(i8 c)) fun q b r=>?_
 refine a7 (o3 _) (a7 V4 (c8 (l1 Tryz.isAgg3 (b.bring 1) rfl) (a7 pNe ?_)))
 refine a7 (Pu.g fun a=>by with_reducible exact W6) ?_
 refine c8 (Ld.g fun a=>by simp only [g9 a];exact (l1 Tryz.isAgg3 b rfl)) ?_
 refine a7 (Pu.g fun a=>by simp only [g9 a];with_reducible exact pNe) ?_
 refine a7 (y8 _ _) ?_
 refine l9 h (fun _ h=>?_) (fun _ h=>?_)
 ·refine f9 Tryz.call66 (h g0) (b.bring 1) ?_
  rintro _ j _ s k _ _ ⟨l,rfl,rfl,h⟩
  exact hR _ j _ _ (k.bring 1).drop ⟨⟨#[]⟩,l,rfl,rfl,h⟩
 ·refine a7 (o3 _) (a7 T6 (c8 (l1 Tryz.isAgg3 (b.bring 1) rfl) (a7 pAd (a7 (o3 _) ?_))))
  refine a7 T6 ?_
  refine A9 (b.bring 1) Tryz.sizeOf3 fun t d u=>?_
  refine a7 Q7 (c8 (l1 Tryz.isAgg9 (d.bring 1) rfl) ?_)
  exact hR _ e _ _ (d.bring 1).drop ⟨c.C3,(a8.mk x0.fl (IntKind.wrap .i64 (x0.fat+1)) x0.fbad x0.fpos),rfl,rfl,h⟩
def a8D(x0:ByteArray)(x1:Int)(H:Hp)(K:b6→Int→Int→Hp→Prop):Prop:=
 U2 x0 x1 H (fun b q c=>
 (b=3→
 a5p x0 x1 c (fun a e g=>
 (0:Int)≤x1∧(x1:Int)≤a∧(a:Int)≤x0.size∧
 a0u (x0.extract (x1:Int).toNat (a:Int).toNat) g (fun f d=>
 (f=true→
 K (b6.mk 3 (x0.extract (x1:Int).toNat (a:Int).toNat) 0 (b8.mk 0 0)) a 0 d)∧
 (f=false→
 (32 < e→
 K (b6.mk 0 ⟨#[]⟩ 0 (b8.mk 0 0)) 0 22 d)∧
 (¬(32 < e)→
 K (b6.mk 1 (x0.extract (x1:Int).toNat (a:Int).toNat) 0 (b8.mk 0 0)) a 0 d)))))∧
 (¬(b=3)→
 (b=4→
 a3m x0 x1 c (fun i j k l=>
 K i j k l))∧
 (¬(b=4)→
 (b=5→
 a4o x0 x1 c (fun m n o p=>
 K m n o p))∧
 (¬(b=5)→
 K (b6.mk 0 ⟨#[]⟩ 0 (b8.mk 0 0)) 0 20 c))))
theorem b3D(x0 x1){H K}(h:a8D x0 x1 H K):a5q x0 x1 H K:=by
 refine Ct.of fun w0 w ps0 H0 R E I hR=>d2V ?_
 refine o7 I Tryz.zeroValue103 (cs:=[(vi 0),(eS),(vi 0),(vi 0),(vi 0)]) rfl fun ag ah r ai=>?_
 refine f9 Tryz.call109 h r ?_
 rintro _ s _ aj b _ _ ⟨t,u,rfl,rfl,h⟩
 refine a7 (m5 _ _ (vi t) rfl) (a7 (m5 _ _ (vi u) rfl) (a7 pEq ?_))
 refine m0 h (fun _ h=>?_) (fun _ h=>?_)
 ·refine f9 Tryz.call110 h b ?_
  rintro _ _ _ ak v _ _ ⟨a,y,rfl,rfl,h⟩
  refine a7 (m5 _ _ (vi a) rfl) (a7 (m5 _ _ (vi y) rfl) ?_)
  obtain ⟨z,aa,ab,h⟩:=h
  refine a7 (a6Q x0 Tryz.underlying9 z aa ab) ?_
  refine f9 Tryz.call111 h v ?_
  rintro _ c _ al d _ _ ⟨am,rfl,rfl,h⟩
  refine l9 h (fun _ h=>?_) (fun _ h=>?_)
  ·refine a7 (a1t _ _) ?_
   refine o9 d Tryz.sizeOf103 (vs:=[(vi 3),(Value.string (x0.extract (x1:Int).toNat (a:Int).toNat)),(vi 0),(vi 0),(vi 0)]) fun an e ao=>?_
   refine q8 Tryz.isAgg103 Tryz.sizeOf103 rfl e ?_
   exact hR _ c _ _ e.drop ⟨(b6.mk 3 (x0.extract (x1:Int).toNat (a:Int).toNat) 0 (b8.mk 0 0)),a,0,rfl,rfl,h⟩
  ·refine a7 pGt ?_
   refine m0 h (fun _ h=>?_) (fun _ h=>?_)
   ·refine a7 (a6S) ?_
    refine o9 d Tryz.sizeOf103 (vs:=[(vi 0),(eS),(vi 0),(vi 0),(vi 0)]) fun ap f aq=>?_
    refine q8 Tryz.isAgg103 Tryz.sizeOf103 rfl f ?_
    exact hR _ c _ _ f.drop ⟨(b6.mk 0 ⟨#[]⟩ 0 (b8.mk 0 0)),0,22,rfl,rfl,h⟩
   ·refine a7 (a1t _ _) ?_
    refine o9 d Tryz.sizeOf103 (vs:=[(vi 1),(Value.string (x0.extract (x1:Int).toNat (a:Int).toNat)),(vi 0),(vi 0),(vi 0)]) fun ar g au=>?_
    refine q8 Tryz.isAgg103 Tryz.sizeOf103 rfl g ?_
    exact hR _ c _ _ g.drop ⟨(b6.mk 1 (x0.extract (x1:Int).toNat (a:Int).toNat) 0 (b8.mk 0 0)),a,0,rfl,rfl,h⟩
 ·refine a7 pEq ?_
  refine m0 h (fun _ h=>?_) (fun _ h=>?_)
  ·refine f9 Tryz.call112 h b ?_
   rintro _ ac _ av ad _ _ ⟨i,j,k,rfl,rfl,h⟩
   refine a7 (m5 _ _ _ rfl) (a7 (m5 _ _ (vi j) rfl) (a7 (m5 _ _ (vi k) rfl) ?_))
   refine o9 ad Tryz.sizeOf103 (vs:=(i8 i)) fun aw l ax=>?_
   refine q8 Tryz.isAgg103 Tryz.sizeOf103 rfl l ?_
   exact hR _ ac _ _ l.drop ⟨i,j,k,rfl,rfl,h⟩
  ·refine a7 pEq ?_
   refine m0 h (fun _ h=>?_) (fun _ h=>?_)
   ·refine f9 Tryz.call113 h b ?_
    rintro _ ae _ ay af _ _ ⟨m,n,o,rfl,rfl,h⟩
    refine a7 (m5 _ _ _ rfl) (a7 (m5 _ _ (vi n) rfl) (a7 (m5 _ _ (vi o) rfl) ?_))
    refine o9 af Tryz.sizeOf103 (vs:=(i8 m)) fun az p ba=>?_
    refine q8 Tryz.isAgg103 Tryz.sizeOf103 rfl p ?_
    exact hR _ ae _ _ p.drop ⟨m,n,o,rfl,rfl,h⟩
   ·refine a7 (a6S) ?_
    refine o9 b Tryz.sizeOf103 (vs:=[(vi 0),(eS),(vi 0),(vi 0),(vi 0)]) fun bb q bc=>?_
    refine q8 Tryz.isAgg103 Tryz.sizeOf103 rfl q ?_
    exact hR _ s _ _ q.drop ⟨(b6.mk 0 ⟨#[]⟩ 0 (b8.mk 0 0)),0,20,rfl,rfl,h⟩
def a6A(H:Hp)(K:Int→Int→Hp→Prop):Prop:=
 K 0 0 H
def a6B(M8:ByteArray)(Q3:Int)(H:Hp)(n2:Int→Hp→Prop)(K:Int→Int→Hp→Prop):Prop:=
 (Q3 < (M8.size:Int)→
 O5 M8 Q3 H (fun d c a b=>
 ((!a)=true→
 K Q3 11 b)∧
 ((!a)=false→
 n2 (IntKind.wrap .i64 (Q3+c)) b)))∧
 (¬(Q3 < (M8.size:Int))→
 a6A H K)
def a7z(x0:ByteArray)(H:Hp)(K:Int→Int→Hp→Prop):Prop:=
 (65536 < (x0.size:Int)→
 K 0 10 H)∧
 (¬(65536 < (x0.size:Int))→
 TL (0:Int) H fun(s:Int) H n2=>a6B x0 s H n2 K)
theorem b2z(x0){H K}(h:a7z x0 H K):a3N x0 H K:=by
 refine Ct.of fun w0 w ps0 H0 R E I hR=>d2N ?_
 refine a7 (X9 _) (a7 pGt ?_)
 refine m0 h (fun _ h=>?_) (fun _ h=>?_)
 ·exact hR _ H _ _ I ⟨0,10,rfl,rfl,h⟩
 ·have hj1:∀H w (_:Inv w0 ps0 H0 H [] w) (_:a6A H K),c5b w R E:=by
   intro H w I h
   intro _
   exact hR _ H _ _ I ⟨0,0,rfl,rfl,h⟩
  refine p7 fun j1 hx1=>?_
  refine A4 (σ:=Int) (fun Q3=>[(vi Q3)]) (fun Q3=>[]) h rfl I ?_
  rintro Q3 H g w next2 n2 a I h hn2
  simp only [List.map_cons,List.map_nil,List.cons.injEq,and_true] at a
  have e4:=a
  simp only [e4]
  refine a7 (X9 _) (a7 pLs ?_)
  refine m0 h (fun _ h=>?_) (fun _ h=>?_)
  ·refine f9 Tryz.call108 h I ?_
   rintro _ d _ i b _ _ ⟨e,c,f,rfl,rfl,h⟩
   refine a7 (m5 _ _ (vi e) rfl) (a7 (m5 _ _ (vi c) rfl) (a7 (m5 _ _ (vB f) rfl) (a7 (E1 _) ?_)))
   refine l9 h (fun _ h=>?_) (fun _ h=>?_)
   ·exact hR _ d _ _ b ⟨Q3,11,rfl,rfl,h⟩
   ·refine a7 pAd ?_
    exact hn2 (IntKind.wrap .i64 (Q3+c)) _ _ h b
  ·exact hx1 _ _ (hj1 H _ I h)
def a0j(c6Z:ByteArray)(b1Q:Int)(b3g:Int)(d8F:Int)(a:b8)(b:b8)(H:Hp)(n2:(Int×b8×b8)→Hp→Prop)(K:b8→Hp→Prop):Prop:=
 n2 ((IntKind.wrap .i64 (b3g+d8F)),a,b) H
def a3T(a:b8)(b:b8)(H:Hp)(K:b8→Hp→Prop):Prop:=
 K a H
def a7A(M8:ByteArray)(R1:Int)(E9:Int)(a:b8)(b:b8)(H:Hp)(n2:(Int×b8×b8)→Hp→Prop)(K:b8→Hp→Prop):Prop:=
 (((decide (E9 < (M8.size:Int)))&&(decide (E9 < R1)))=true→
 O5 M8 E9 H (fun c d f e=>
 (c=10→
 a0j M8 R1 E9 d (b8.mk (IntKind.wrap .i64 (a.B9+1)) 1) b e n2 K)∧
 (¬(c=10)→
 a0j M8 R1 E9 d (b8.mk a.B9 (IntKind.wrap .i64 (a.K8+1))) b e n2 K)))∧
 (((decide (E9 < (M8.size:Int)))&&(decide (E9 < R1)))=false→
 a3T a b H K)
def a8R(x0:ByteArray)(x1:Int)(H:Hp)(K:b8→Hp→Prop):Prop:=
 TL ((0,(b8.mk 1 1),(b8.mk 0 0)):Int×b8×b8) H fun(s:Int×b8×b8) H n2=>a7A x0 x1 s.1 s.2.1 s.2.2 H n2 K
theorem b4d(x0 x1){H K}(h:a8R x0 x1 H K):a5Q x0 x1 H K:=by
 refine Ct.of fun w0 w ps0 H0 R E I hR=>d2P ?_
 refine o7 I Tryz.zeroValue28 (cs:=[(vi 0),(vi 0)]) rfl fun d z q aa=>?_
 refine a7 (a7a _ _) ?_
 refine o7 q Tryz.zeroValue28 (cs:=[(vi 0),(vi 0)]) rfl fun e ab r ac=>?_
 refine o9 r Tryz.sizeOf28 (vs:=[(vi 1),(vi 1)]) fun ad s ae=>?_
 have hj1:∀(f:b8)(k:b8) H w (_:Inv w0 ps0 H0 H [bx e 28 (l7 f),bx d 28 (l7 k)] w) (_:a3T f k H K),c5c (Value.pointer (some ⟨d,0,none⟩)) (Value.pointer (some ⟨e,0,none⟩)) w R E:=by
  intro f k H w I h
  intro _
  refine c8 (lW Tryz.isAgg28 Tryz.sizeOf28 rfl I) ?_
  refine o9 (I.bring 1) Tryz.sizeOf28 (vs:=(l7 f)) fun af n ag=>?_
  refine q8 Tryz.isAgg28 Tryz.sizeOf28 rfl n ?_
  exact hR _ H _ _ n.drop.drop ⟨f,rfl,rfl,h⟩
 refine p7 fun j1 hx1=>?_
 refine A4 (σ:=Int×b8×b8) (fun (E9,b,c)=>[(vi E9)]) (fun (E9,b,c)=>[bx e 28 (l7 b),bx d 28 (l7 c)]) h rfl ((s.bring 1).bring 1) ?_
 rintro ⟨E9,b,c⟩ H ah w next2 n2 l I h hn2
 dsimp only at l I h
 simp only [List.map_cons,List.map_nil,List.cons.injEq,and_true] at l
 have e6:=l
 simp only [e6]
 refine a7 (X9 _) (a7 pLs ?_)
 simp only [p8]
 refine a7 (Pu.g fun a=>by simp only [g9 a];with_reducible exact pLs) ?_
 refine a7 (s6 _ _) ?_
 refine l9 h (fun _ h=>?_) (fun _ h=>?_)
 ·refine f9 Tryz.call108 h I ?_
  rintro _ o _ ai p _ _ ⟨t,i,u,rfl,rfl,h⟩
  refine a7 (m5 _ _ (vi t) rfl) (a7 (m5 _ _ (vi i) rfl) (a7 (m5 _ _ (vB u) rfl) (a7 a5C (c8 (l1 Tryz.isAgg3 p rfl) ?_))))
  refine a7 pAd (a7 a5C ?_)
  refine A9 p Tryz.sizeOf3 fun aj m ak=>?_
  have hj3:∀(j:b8) H w (_:Inv w0 ps0 H0 H [bx e 28 (l7 j),bx d 28 (l7 c)] w) (_:a0j x0 x1 E9 i j c H n2 K),c5d (Value.string x0) (vi x1) (Value.pointer (some ⟨d,0,none⟩)) (Value.pointer (some ⟨e,0,none⟩)) (vi E9) (vi i) w next2 R E:=by
   intro j H w I h
   intro _
   refine a7 pAd ?_
   exact hn2 ((IntKind.wrap .i64 (E9+i)),j,c) _ _ h ((I.bring 1).bring 1)
  refine p7 fun j3 hx3=>?_
  refine a7 pEq ?_
  refine m0 h (fun _ h=>?_) (fun _ h=>?_)
  ·refine a7 a9V (c8 (l1 Tryz.isAgg3 m rfl) (a7 pAd (a7 a9V ?_)))
   refine A9 m Tryz.sizeOf3 fun al v am=>?_
   refine a7 a5C ?_
   refine A9 v Tryz.sizeOf3 fun an y ao=>?_
   exact hx3 _ _ (hj3 (b8.mk (IntKind.wrap .i64 (b.B9+1)) 1) o _ ((y.bring 1).bring 1) h)
  ·exact hx3 _ _ (hj3 (b8.mk b.B9 (IntKind.wrap .i64 (b.K8+1))) o _ ((m.bring 1).bring 1) h)
 ·exact hx1 _ _ (hj1 b c H _ ((I.bring 1).bring 1) h)
def a1p(c6Z:Sl)(b1Q:Sl)(b8t:Int)(H:Hp)(n2:Int→Hp→Prop)(K:Bool→Hp→Prop):Prop:=
 n2 (IntKind.wrap .i64 (b8t+1)) H
def a4L(d8G:Sl)(d8H:Sl)(d8I:Int)(b:b9)(a:b9)(b0l:Int)(H:Hp)(n2:Int→Hp→Prop)(n6:Int→Hp→Prop)(K:Bool→Hp→Prop):Prop:=
 (b0l < (a.o4.n:Int)→
 (0:Int)≤b0l∧(b0l:Int) < a.o4.n∧∃c:d9,EltH H a.o4 b0l 4 (g7 c)∧
 (0:Int)≤b0l∧(b0l:Int) < b.o4.n∧∃d:d9,EltH H b.o4 b0l 4 (g7 d)∧
 V8 c d H (fun e f=>
 ((!e)=true→
 K false f)∧
 ((!e)=false→
 n6 (IntKind.wrap .i64 (b0l+1)) f)))∧
 (¬(b0l < (a.o4.n:Int))→
 a1p d8G d8H d8I H n2 K)
def a1q(d4g:Sl)(d8J:Sl)(d8K:Int)(a:b9)(b:b9)(H:Hp)(n2:Int→Hp→Prop)(K:Bool→Hp→Prop):Prop:=
 TL (0:Int) H fun(s:Int) H n6=>a4L d4g d8J d8K a b s H n2 n6 K
def a4M(d8L:Sl)(d8M:Sl)(d8N:Int)(b:b9)(a:b9)(b0m:Int)(H:Hp)(n2:Int→Hp→Prop)(n7:Int→Hp→Prop)(K:Bool→Hp→Prop):Prop:=
 (b0m < (a.v8.n:Int)→
 (0:Int)≤b0m∧(b0m:Int) < a.v8.n∧∃c:f8,EltH H a.v8 b0m 4 (i7 c)∧
 (0:Int)≤b0m∧(b0m:Int) < b.v8.n∧∃d:f8,EltH H b.v8 b0m 4 (i7 d)∧
 a0x c d H (fun e f=>
 ((!e)=true→
 K false f)∧
 ((!e)=false→
 n7 (IntKind.wrap .i64 (b0m+1)) f)))∧
 (¬(b0m < (a.v8.n:Int))→
 a1q d8L d8M d8N b a H n2 K)
def Y1(d8O:Sl)(d8P:Sl)(d8Q:Int)(a:b9)(b:b9)(H:Hp)(n2:Int→Hp→Prop)(K:Bool→Hp→Prop):Prop:=
 TG (((((!decide (b.d8=a.d8))||(!decide (b.t7=a.t7)))||(!decide ((b.v8.n:Int)=(a.v8.n:Int))))||(!decide ((b.o4.n:Int)=(a.o4.n:Int))))=false) (P9 b.J5 a.J5 H) false H (fun(c:Bool)(d:Hp)=>
 TG ((((((!decide (b.d8=a.d8))||(!decide (b.t7=a.t7)))||(!decide ((b.v8.n:Int)=(a.v8.n:Int))))||(!decide ((b.o4.n:Int)=(a.o4.n:Int))))||(!c))=false) (P9 b.H7 a.H7 d) false d (fun(e:Bool)(f:Hp)=>
 (((((((!decide (b.d8=a.d8))||(!decide (b.t7=a.t7)))||(!decide ((b.v8.n:Int)=(a.v8.n:Int))))||(!decide ((b.o4.n:Int)=(a.o4.n:Int))))||(!c))||(!e))=true→
 K false f)∧
 (((((((!decide (b.d8=a.d8))||(!decide (b.t7=a.t7)))||(!decide ((b.v8.n:Int)=(a.v8.n:Int))))||(!decide ((b.o4.n:Int)=(a.o4.n:Int))))||(!c))||(!e))=false→
 TL (0:Int) f fun(s:Int) H n7=>a4M d8O d8P d8Q a b s H n2 n7 K)))
def a1r(H:Hp)(K:Bool→Hp→Prop):Prop:=
 K true H
def a4N(M8:Sl)(R1:Sl)(E7:Int)(H:Hp)(n2:Int→Hp→Prop)(K:Bool→Hp→Prop):Prop:=
 (E7 < (M8.n:Int)→
 (0:Int)≤E7∧(E7:Int) < M8.n∧∃a:b9,EltH H M8 E7 6 (m6 a)∧
 (0:Int)≤E7∧(E7:Int) < R1.n∧∃b:b9,EltH H R1 E7 6 (m6 b)∧
 Y1 M8 R1 E7 b a H n2 K)∧
 (¬(E7 < (M8.n:Int))→
 a1r H K)
def a6j(x0:Sl)(x1:Sl)(H:Hp)(K:Bool→Hp→Prop):Prop:=
 (¬((x0.n:Int)=(x1.n:Int))→
 K false H)∧
 ((x0.n:Int)=(x1.n:Int)→
 TL (0:Int) H fun(s:Int) H n2=>a4N x0 x1 s H n2 K)
theorem b0F(x0 x1){H K}(h:a6j x0 x1 H K):P9 x0 x1 H K:=by
 refine Ct.of fun w0 w ps0 H0 R E I hR=>d2w ?_
 refine a7 (X1 _ _ _) (a7 (X1 _ _ _) (a7 pNe ?_))
 refine Z9 h (fun _ h=>?_) (fun _ h=>?_)
 ·exact hR _ H _ _ I ⟨_,rfl,rfl,h⟩
 ·have hj1:∀H w (_:Inv w0 ps0 H0 H [] w) (_:a1r H K),c4M w R E:=by
   intro H w I h
   intro _
   exact hR _ H _ _ I ⟨_,rfl,rfl,h⟩
  refine p7 fun j1 hx1=>?_
  refine A4 (σ:=Int) (fun E7=>[(vi E7)]) (fun E7=>[]) h rfl I ?_
  rintro E7 H ch w next2 n2 ab I h hn2
  simp only [List.map_cons,List.map_nil,List.cons.injEq,and_true] at ab
  have e5:=ab
  simp only [e5]
  refine a7 (X1 _ _ _) (a7 pLs ?_)
  refine m0 h (fun _ h=>?_) (fun _ h=>?_)
  ·have hj3:∀H w (_:Inv w0 ps0 H0 H [] w) (_:a1p x0 x1 E7 H n2 K),c4N (vs x0) (vs x1) (vi E7) w next2 R E:=by
    intro H w I h
    intro _
    refine a7 pAd ?_
    exact hn2 (IntKind.wrap .i64 (E7+1)) _ _ h I
   refine p7 fun j3 hx3=>?_
   have hj4:∀(e:b9)(f:b9)(i:Nat)(j:Nat) H w (_:Inv w0 ps0 H0 H [bx i 56 (m6 e),bx j 56 (m6 f)] w) (_:Y1 x0 x1 E7 e f H n2 K),c4P (vs x0) (vs x1) (vi E7) (Value.pointer (some ⟨j,0,none⟩)) (Value.pointer (some ⟨i,0,none⟩)) w j3 R E:=by
    intro e f i j H w I h
    intro _
    refine a7 Q2 (c8 (l1 Tryz.isAgg3 (I.bring 1) rfl) (a7 Q2 (c8 (l1 Tryz.isAgg3 I rfl) (a7 pNe ?_))))
    refine a7 (Pu.g fun a=>by with_reducible exact a5B) ?_
    refine c8 (Ld.g fun a=>by simp only [g9 a];exact (l1 Tryz.isAgg9 (I.bring 1) rfl)) ?_
    refine a7 (Pu.g fun a=>by with_reducible exact a5B) ?_
    refine c8 (Ld.g fun a=>by simp only [g9 a];exact (l1 Tryz.isAgg9 I rfl)) ?_
    refine a7 (Pu.g fun a=>by simp only [g9 a];with_reducible exact (b9S _ _ _ _ _)) ?_
    refine a7 (y8 _ _) ?_
    refine a7 (Pu.g fun a=>by with_reducible exact V5) ?_
    refine c8 (Ld.g fun a=>by simp only [g9 a];exact (l1 Tryz.isAgg47 (I.bring 1) rfl)) ?_
    refine a7 (Pu.g fun a=>by simp only [g9 a];with_reducible exact (a0r _ _ _)) ?_
    refine a7 (Pu.g fun a=>by with_reducible exact V5) ?_
    refine c8 (Ld.g fun a=>by simp only [g9 a];exact (l1 Tryz.isAgg47 I rfl)) ?_
    refine a7 (Pu.g fun a=>by simp only [g9 a];with_reducible exact (a0r _ _ _)) ?_
    refine a7 (Pu.g fun a=>by simp only [g9 a];with_reducible exact pNe) ?_
    refine a7 (y8 _ _) ?_
    refine a7 (Pu.g fun a=>by with_reducible exact M7) ?_
    refine c8 (Ld.g fun a=>by simp only [g9 a];exact (l1 Tryz.isAgg38 (I.bring 1) rfl)) ?_
    refine a7 (Pu.g fun a=>by simp only [g9 a];with_reducible exact (O4 _ _ _)) ?_
    refine a7 (Pu.g fun a=>by with_reducible exact M7) ?_
    refine c8 (Ld.g fun a=>by simp only [g9 a];exact (l1 Tryz.isAgg38 I rfl)) ?_
    refine a7 (Pu.g fun a=>by simp only [g9 a];with_reducible exact (O4 _ _ _)) ?_
    refine a7 (Pu.g fun a=>by simp only [g9 a];with_reducible exact pNe) ?_
    refine a7 (y8 _ _) ?_
    refine a7 (Pu.g fun a=>by with_reducible exact a0Y) ?_
    refine c8 (Ld.g fun a=>by simp only [g9 a];exact (l1 Tryz.isAgg24 (I.bring 1) rfl)) ?_
    refine a7 (Pu.g fun a=>by with_reducible exact a0Y) ?_
    refine c8 (Ld.g fun a=>by simp only [g9 a];exact (l1 Tryz.isAgg24 I rfl)) ?_
    refine C5 [] (fun p:Bool=>(vB p)) h I (fun a h=>by simp only [g9 a];exact D5 Tryz.call31 h I) fun p ad av b ae af h=>?_
    refine a7 (Pu.g fun a=>by simp only [g9 a];with_reducible exact (E1 _)) ?_
    refine a7 (y8 _ _) ?_
    refine a7 (Pu.g fun a=>by with_reducible exact a0Z) ?_
    refine c8 (Ld.g fun a=>by simp only [g9 a];exact (l1 Tryz.isAgg24 (b.bring 1) rfl)) ?_
    refine a7 (Pu.g fun a=>by with_reducible exact a0Z) ?_
    refine c8 (Ld.g fun a=>by simp only [g9 a];exact (l1 Tryz.isAgg24 b rfl)) ?_
    refine C5 [] (fun q:Bool=>(vB q)) h b (fun a h=>by simp only [g9 a];exact D5 Tryz.call31 h b) fun q s aw r ah ai h=>?_
    refine a7 (Pu.g fun a=>by simp only [g9 a];with_reducible exact (E1 _)) ?_
    refine a7 (y8 _ _) ?_
    refine l9 h (fun _ h=>?_) (fun _ h=>?_)
    ·exact hR _ s _ _ r.drop.drop ⟨_,rfl,rfl,h⟩
    ·have hj5:∀H w (_:Inv w0 ps0 H0 H [bx i 56 (m6 e),bx j 56 (m6 f)] w) (_:a1q x0 x1 E7 e f H n2 K),c4O (vs x0) (vs x1) (vi E7) (Value.pointer (some ⟨j,0,none⟩)) (Value.pointer (some ⟨i,0,none⟩)) w j3 R E:=by
      intro H w I h
      intro _
      refine A4 (σ:=Int) (fun b0l=>[(vi b0l)]) (fun b0l=>[bx i 56 (m6 e),bx j 56 (m6 f)]) h rfl ((I.bring 1).bring 1) ?_
      rintro b0l H ci w next6 n6 aj I h hn6
      simp only [List.map_cons,List.map_nil,List.cons.injEq,and_true] at aj
      have e9:=aj
      simp only [e9]
      refine a7 M7 (c8 (l1 Tryz.isAgg38 (I.bring 1) rfl) (a7 (O4 _ _ _) (a7 pLs ?_)))
      refine m0 h (fun _ h=>?_) (fun _ h=>?_)
      ·refine O6 I fun cj l=>?_
       refine o5 M7 ?_
       refine o5 M7 ?_
       refine u1 (l1 Tryz.isAgg38 (l.bring 1) rfl) ?_
       obtain ⟨ax,ay,az,t,h⟩:=h
       obtain ⟨ck,cl,ba,t⟩:=t
       refine o5 (a1N ba _ _ _ _ ax ay) ?_
       refine u1 (ldA (vs:=(g7 az)) Tryz.isAgg40 Tryz.sizeOf40 rfl (l.atH t)) ?_
       refine u1 (l1 Tryz.isAgg38 l rfl) ?_
       obtain ⟨bb,bc,bd,u,h⟩:=h
       obtain ⟨cm,cn,be,u⟩:=u
       refine o5 (a1N be _ _ _ _ bb bc) ?_
       refine u1 (ldA (vs:=(g7 bd)) Tryz.isAgg40 Tryz.sizeOf40 rfl (l.atH u)) ?_
       refine f9 Tryz.call15 h l ?_
       rintro _ bf _ co ak _ _ ⟨cp,rfl,rfl,h⟩
       refine o5 (E1 _) ?_
       refine l9 h (fun _ h=>?_) (fun _ h=>?_)
       ·exact hR _ bf _ _ ak.drop.drop ⟨_,rfl,rfl,h⟩
       ·refine a7 pAd ?_
        exact hn6 (IntKind.wrap .i64 (b0l+1)) _ _ h ((ak.bring 1).bring 1)
      ·exact hx3 _ _ (hj3 H _ I.drop.drop h)
     refine p7 fun j5 hx5=>?_
     refine A4 (σ:=Int) (fun b0m=>[(vi b0m)]) (fun b0m=>[bx i 56 (m6 e),bx j 56 (m6 f)]) h rfl ((r.bring 1).bring 1) ?_
     rintro b0m H cq w next7 n7 al I h hn7
     simp only [List.map_cons,List.map_nil,List.cons.injEq,and_true] at al
     have e8:=al
     simp only [e8]
     refine a7 V5 (c8 (l1 Tryz.isAgg47 (I.bring 1) rfl) (a7 (a0r _ _ _) (a7 pLs ?_)))
     refine m0 h (fun _ h=>?_) (fun _ h=>?_)
     ·refine O6 I fun cr m=>?_
      refine o5 V5 ?_
      refine o5 V5 ?_
      refine u1 (l1 Tryz.isAgg47 (m.bring 1) rfl) ?_
      obtain ⟨bg,bh,bi,v,h⟩:=h
      obtain ⟨ct,cu,bj,v⟩:=v
      refine o5 (a6R bj _ _ _ _ bg bh) ?_
      refine u1 (ldA (vs:=(i7 bi)) Tryz.isAgg49 Tryz.sizeOf49 rfl (m.atH v)) ?_
      refine u1 (l1 Tryz.isAgg47 m rfl) ?_
      obtain ⟨bk,bl,bm,y,h⟩:=h
      obtain ⟨cv,cw,bn,y⟩:=y
      refine o5 (a6R bn _ _ _ _ bk bl) ?_
      refine u1 (ldA (vs:=(i7 bm)) Tryz.isAgg49 Tryz.sizeOf49 rfl (m.atH y)) ?_
      refine f9 Tryz.call18 h m ?_
      rintro _ bo _ cx am _ _ ⟨cy,rfl,rfl,h⟩
      refine o5 (E1 _) ?_
      refine l9 h (fun _ h=>?_) (fun _ h=>?_)
      ·exact hR _ bo _ _ am.drop.drop ⟨_,rfl,rfl,h⟩
      ·refine a7 pAd ?_
       exact hn7 (IntKind.wrap .i64 (b0m+1)) _ _ h ((am.bring 1).bring 1)
     ·exact hx5 _ _ (hj5 H _ ((I.bring 1).bring 1) h)
   refine p7 fun j4 hx4=>?_
   refine O6 I fun cz d=>?_
   obtain ⟨bp,bq,n,k,h⟩:=h
   obtain ⟨da,db,br,k⟩:=k
   refine o5 (a4l br _ _ _ _ bp bq) ?_
   obtain ⟨bs,bt,o,c,h⟩:=h
   obtain ⟨dc,dd,bu,c⟩:=c
   refine o5 (a4l bu _ _ _ _ bs bt) ?_
   refine u1 (ldA (vs:=(m6 n)) Tryz.isAgg56 Tryz.sizeOf56 rfl (d.atH k)) ?_
   refine u1 (ldA (vs:=(m6 o)) Tryz.isAgg56 Tryz.sizeOf56 rfl (d.atH c)) ?_
   refine ⟨?_,?_⟩
   ·refine o7 d Tryz.zeroValue56 (cs:=[(vi 0),(eS),(nS),(nS),(nS),(nS)]) rfl fun bv de z an=>?_
    refine ⟨(an _ (d.b1x c)),(an _ (d.b1x k)),?_⟩
    refine o7 z Tryz.zeroValue56 (cs:=[(vi 0),(eS),(nS),(nS),(nS),(nS)]) rfl fun bw df ao ap=>?_
    refine ⟨(ap _ (z.b1x c)),(ap _ (z.b1x k)),?_⟩
    refine o9 (ao.bring 1) Tryz.sizeOf56 (vs:=(m6 n)) fun dg bz ca=>?_
    refine ⟨(ca _ (Inv.d1F (ao.bring 1) c)),?_⟩
    refine o9 (bz.bring 1) Tryz.sizeOf56 (vs:=(m6 o)) fun dh cb di=>?_
    exact hx4 _ _ (hj4 o n bw bv H _ ((cb.bring 1).bring 1) h)
   ·refine o7 d Tryz.zeroValue56 (cs:=[(vi 0),(eS),(nS),(nS),(nS),(nS)]) rfl fun cc dj aa aq=>?_
    refine ⟨(aq _ (d.b1x c)),(aq _ (d.b1x k)),?_⟩
    refine o7 aa Tryz.zeroValue56 (cs:=[(vi 0),(eS),(nS),(nS),(nS),(nS)]) rfl fun cd dk ar au=>?_
    refine ⟨(au _ (aa.b1x c)),(au _ (aa.b1x k)),?_⟩
    refine o9 ar Tryz.sizeOf56 (vs:=(m6 n)) fun dl ce cf=>?_
    refine ⟨(cf _ (Inv.d1F ar c)),?_⟩
    refine o9 (ce.bring 1) Tryz.sizeOf56 (vs:=(m6 o)) fun dm cg dn=>?_
    exact hx4 _ _ (hj4 o n cc cd H _ ((cg.bring 1).bring 1) h)
  ·exact hx1 _ _ (hj1 H _ I h)
def a2L(a:l8)(b:l8)(H:Hp)(K:Bool→Hp→Prop):Prop:=
 K true H
def a2M(d:l8)(a:l8)(E7:Int)(H:Hp)(n2:Int→Hp→Prop)(K:Bool→Hp→Prop):Prop:=
 (E7 < (a.N3.n:Int)→
 (0:Int)≤E7∧(E7:Int) < a.N3.n∧∃b:m7,EltH H a.N3 E7 2 (u5 b)∧
 (0:Int)≤E7∧(E7:Int) < d.N3.n∧∃c:m7,EltH H d.N3 E7 2 (u5 c)∧
 (¬(b.t7=c.t7∧b.a1u=c.a1u)→
 K false H)∧
 (b.t7=c.t7∧b.a1u=c.a1u→
 n2 (IntKind.wrap .i64 (E7+1)) H))∧
 (¬(E7 < (a.N3.n:Int))→
 a2L d a H K)
def a7B(x0:l8)(x1:l8)(H:Hp)(K:Bool→Hp→Prop):Prop:=
 a2r x0 H (fun a c=>
 TG ((!a)=false) (a2r x1 c) false c (fun(b:Bool)(d:Hp)=>
 TG ((((!a)||(!b))||(!decide ((x0.N3.n:Int)=(x1.N3.n:Int))))=false) (P9 x0.a0L x1.a0L d) false d (fun(e:Bool)(f:Hp)=>
 (((((!a)||(!b))||(!decide ((x0.N3.n:Int)=(x1.N3.n:Int))))||(!e))=true→
 K false f)∧
 (((((!a)||(!b))||(!decide ((x0.N3.n:Int)=(x1.N3.n:Int))))||(!e))=false→
 TL (0:Int) f fun(s:Int) H n2=>a2M x1 x0 s H n2 K))))
theorem b2A(x0 x1){H K}(h:a7B x0 x1 H K):a3P x0 x1 H K:=by
 refine Ct.of fun w0 w ps0 H0 R E I hR=>d1X ?_
 refine Q1 I (cs:=(p5 x0)) rfl fun m ak z al=>?_
 refine Q1 z (cs:=(p5 x1)) rfl fun n am o an=>?_
 refine c8 (lW Tryz.isAgg26 Tryz.sizeOf26 rfl (o.bring 1)) ?_
 refine f9 Tryz.call30 h o ?_
 rintro _ _ _ ao d _ _ ⟨ap,rfl,rfl,h⟩
 refine a7 (E1 _) ?_
 refine c8 (Ld.g fun a=>by exact (lW Tryz.isAgg26 Tryz.sizeOf26 rfl d)) ?_
 refine C5 [] (fun e:Bool=>(vB e)) h d (fun a h=>by simp only [g9 a];exact D5 Tryz.call30 h d) fun e q aa b r s h=>?_
 refine a7 (Pu.g fun a=>by simp only [g9 a];with_reducible exact (E1 _)) ?_
 refine a7 (y8 _ _) ?_
 refine a7 (Pu.g fun a=>by with_reducible exact T5) ?_
 refine c8 (Ld.g fun a=>by simp only [g9 a];exact (l1 Tryz.isAgg23 (b.bring 1) rfl)) ?_
 refine a7 (Pu.g fun a=>by simp only [g9 a];with_reducible exact (a6G _ _ _)) ?_
 refine a7 (Pu.g fun a=>by with_reducible exact T5) ?_
 refine c8 (Ld.g fun a=>by simp only [g9 a];exact (l1 Tryz.isAgg23 b rfl)) ?_
 refine a7 (Pu.g fun a=>by simp only [g9 a];with_reducible exact (a6G _ _ _)) ?_
 refine a7 (Pu.g fun a=>by simp only [g9 a];with_reducible exact pNe) ?_
 refine a7 (y8 _ _) ?_
 refine a7 (Pu.g fun a=>by with_reducible exact X8) ?_
 refine c8 (Ld.g fun a=>by simp only [g9 a];exact (l1 Tryz.isAgg24 (b.bring 1) rfl)) ?_
 refine a7 (Pu.g fun a=>by with_reducible exact X8) ?_
 refine c8 (Ld.g fun a=>by simp only [g9 a];exact (l1 Tryz.isAgg24 b rfl)) ?_
 refine C5 [] (fun f:Bool=>(vB f)) h b (fun a h=>by simp only [g9 a];exact D5 Tryz.call31 h b) fun f j ab i u v h=>?_
 refine a7 (Pu.g fun a=>by simp only [g9 a];with_reducible exact (E1 _)) ?_
 refine a7 (y8 _ _) ?_
 refine l9 h (fun _ h=>?_) (fun _ h=>?_)
 ·exact hR _ j _ _ i.drop.drop ⟨_,rfl,rfl,h⟩
 ·have hj1:∀H w (_:Inv w0 ps0 H0 H [bx n 26 (p5 x1),bx m 26 (p5 x0)] w) (_:a2L x1 x0 H K),c4y w R E:=by
   intro H w I h
   intro _
   exact hR _ H _ _ I.drop.drop ⟨_,rfl,rfl,h⟩
  refine p7 fun j1 hx1=>?_
  refine A4 (σ:=Int) (fun E7=>[(vi E7)]) (fun E7=>[bx n 26 (p5 x1),bx m 26 (p5 x0)]) h rfl ((i.bring 1).bring 1) ?_
  rintro E7 H aq w next2 n2 y I h hn2
  simp only [List.map_cons,List.map_nil,List.cons.injEq,and_true] at y
  have e5:=y
  simp only [e5]
  refine a7 T5 (c8 (l1 Tryz.isAgg23 (I.bring 1) rfl) (a7 (a6G _ _ _) (a7 pLs ?_)))
  refine m0 h (fun _ h=>?_) (fun _ h=>?_)
  ·refine O6 I fun ar c=>?_
   refine o5 T5 ?_
   refine o5 T5 ?_
   refine u1 (l1 Tryz.isAgg23 (c.bring 1) rfl) ?_
   obtain ⟨ac,ad,ae,k,h⟩:=h
   obtain ⟨au,av,af,k⟩:=k
   refine o5 (b0O af _ _ _ _ ac ad) ?_
   refine u1 (ldA (vs:=(u5 ae)) Tryz.isAgg68 Tryz.sizeOf68 rfl (c.atH k)) ?_
   refine u1 (l1 Tryz.isAgg23 c rfl) ?_
   obtain ⟨ag,ah,ai,l,h⟩:=h
   obtain ⟨aw,ax,aj,l⟩:=l
   refine o5 (b0O aj _ _ _ _ ag ah) ?_
   refine u1 (ldA (vs:=(u5 ai)) Tryz.isAgg68 Tryz.sizeOf68 rfl (c.atH l)) ?_
   refine o5 (c6S _ _ _ _ _ _) ?_
   refine Z9 h (fun _ h=>?_) (fun _ h=>?_)
   ·exact hR _ H _ _ c.drop.drop ⟨_,rfl,rfl,h⟩
   ·refine a7 pAd ?_
    exact hn2 (IntKind.wrap .i64 (E7+1)) _ _ h ((c.bring 1).bring 1)
  ·exact hx1 _ _ (hj1 H _ ((I.bring 1).bring 1) h)
def L5(T8:(List k7))(H:Hp)(K:Sl→Hp→Prop):Prop:=
 ∀(C8:Sl)(a:Hp),Hle H a→SlH a 1 y7 C8 T8→C8.n≤C8.c→
 K C8 a
def L6(C4:Sl)(a1D:Int)(u4:(List k7))(y9:Int)(H:Hp)(n2:((List k7)×Int)→Hp→Prop)(K:Sl→Hp→Prop):Prop:=
 (y9 < a1D→
 (0:Int)≤y9∧(y9:Int) < C4.n∧∃a:m7,EltH H C4 y9 2 (u5 a)∧
 a9W a H (fun b c=>
 (u4.length+([b]:List k7).length)*17≤140737488355328∧
 n2 ((u4++[b]),(IntKind.wrap .i64 (y9+1))) c))∧
 (¬(y9 < a1D)→
 L5 u4 H K)
def W4(x0:Sl)(H:Hp)(K:Sl→Hp→Prop):Prop:=
 TL (([],0):(List k7)×Int) H fun(s:(List k7)×Int) H n2=>L6 x0 (x0.n:Int) s.1 s.2 H n2 K
theorem a2N(x0){H K}(h:W4 x0 H K):N1 x0 H K:=by
 refine Ct.of fun w0 w ps0 H0 R E I hR=>d3t ?_
 have hj1:∀(T8:(List k7))(C8:Sl)(Fs5j1:Frag) H w (_:RowL 131 1 y7 C8 T8 Fs5j1) (_:Inv w0 ps0 H0 H [Fs5j1] w) (_:L5 T8 H K),c5u (vs C8) w R E:=by
  intro T8 C8 Fs5j1 H w b0a I h
  intro _
  obtain ⟨j,q,r,t,u⟩:=Inv.freezeC I b0a (by decide)
  replace h:=h C8 j r t u
  exact hR _ j _ _ q ⟨_,rfl,rfl,h⟩
 refine p7 fun j1 hx1=>?_
 refine a7 (a6G _ _ _) ?_
 obtain ⟨f,d,v,y⟩:=h
 refine U0 (J:=fun n l w=>∃(s:(List k7)×Int)(H:Hp)(S8:Sl)(Fs5l2:Frag),n=d s∧l=(match s with | (u4,y9)=>[(vs S8),(vi y9)])∧(match s with | (u4,y9)=>RowL 131 1 y7 S8 u4 Fs5l2)∧(match s with | (u4,y9)=>Inv w0 ps0 H0 H [Fs5l2] w)∧f s H) ⟨_,([],0),H,(Sl.mk none 0 0),[],rfl,rfl,(RowL.nil V7 Z5),I.nil,v⟩ ?_
 rintro am an w next2 ⟨⟨u4,y9⟩,H,S8,Fs5l2,rfl,g,a1w,I,z⟩ hn2
 dsimp only at g I a1w
 simp only [List.map_cons,List.map_nil,List.cons.injEq,and_true] at g
 obtain ⟨e5,e10⟩:=g
 simp only [e5,e10]
 obtain ⟨n2,hm2,h⟩:∃n2:((List k7)×Int)→Hp→Prop,(∀s' H',n2 s' H'→f s' H'∧d s' < d (u4,y9))∧L6 x0 (x0.n:Int) u4 y9 H n2 K:=⟨_,fun _ _ h=>h,y (u4,y9) H (fun s' H'=>f s' H'∧d s' < d (u4,y9)) z (fun _ _ a b=>⟨a,b⟩)⟩
 refine a7 pLs ?_
 refine m0 h (fun _ h=>?_) (fun _ h=>?_)
 ·obtain ⟨aa,ab,k,i,h⟩:=h
  obtain ⟨ao,ap,ac,i⟩:=i
  refine a7 (b0O ac _ _ _ _ aa ab) (c8 (ldA (vs:=(u5 k)) Tryz.isAgg68 Tryz.sizeOf68 rfl (I.atH i)) ?_)
  refine o7 I Tryz.zeroValue68 (cs:=[(eS),(vi 0)]) rfl fun aq ar ad au=>?_
  refine o9 ad Tryz.sizeOf68 (vs:=(u5 k)) fun av m aw=>?_
  refine c8 (lW Tryz.isAgg68 Tryz.sizeOf68 rfl m) ?_
  refine f9 Tryz.call77 h m ?_
  rintro _ ae _ ax af _ _ ⟨o,rfl,rfl,h⟩
  refine Q9 (e:=131) (c:=y7) (xs:=[o]) af (b4J _) rfl rfl V7 Z5 (nb rfl) fun ay az ba ag p bb=>?_
  obtain ⟨ah,h⟩:=h
  refine b4o (s:=S8) (xs:=u4) (p.bring 2) a1w (ag.srcO ((p.bring 2).bring 1)) ah fun ai aj bc ak al bd=>?_
  refine a7 pAd ?_
  exact hn2 _ _ _ (hm2 _ _ h).2 ⟨((u4++[o]),(IntKind.wrap .i64 (y9+1))),ae,ai,aj,rfl,rfl,ak,((al.bring 1).drop.bring 1).drop,(hm2 _ _ h).1⟩
 ·exact hx1 _ _ (hj1 u4 S8 Fs5l2 H _ a1w I h)
def b0n(x0:b9)(H:Hp)(K:k7→Hp→Prop):Prop:=
 K (k7.N6 (a0d.mk x0)) H
theorem b4Z(x0){H K}(h:b0n x0 H K):a9X x0 H K:=by
 refine Ct.of fun w0 w ps0 H0 R E I hR=>d3x ?_
 refine Q1 I (cs:=(m6 x0)) rfl fun b c a d=>?_
 refine c8 (lW Tryz.isAgg56 Tryz.sizeOf56 rfl a) (a7 (c0h _ _ _ _ _ _ _ _ _ _ _ _ _ _) (a7 (b8q (a0d.mk x0)) ?_))
 exact hR _ H _ _ a.drop ⟨_,rfl,rfl,h⟩
def L8(T8:(List k7))(H:Hp)(K:Sl→Hp→Prop):Prop:=
 ∀(C8:Sl)(a:Hp),Hle H a→SlH a 1 y7 C8 T8→C8.n≤C8.c→
 K C8 a
def L9(C4:Sl)(a1D:Int)(u4:(List k7))(y9:Int)(H:Hp)(n2:((List k7)×Int)→Hp→Prop)(K:Sl→Hp→Prop):Prop:=
 (y9 < a1D→
 (0:Int)≤y9∧(y9:Int) < C4.n∧∃a:b9,EltH H C4 y9 6 (m6 a)∧
 a9X a H (fun b c=>
 (u4.length+([b]:List k7).length)*17≤140737488355328∧
 n2 ((u4++[b]),(IntKind.wrap .i64 (y9+1))) c))∧
 (¬(y9 < a1D)→
 L8 u4 H K)
def W5(x0:Sl)(H:Hp)(K:Sl→Hp→Prop):Prop:=
 TL (([],0):(List k7)×Int) H fun(s:(List k7)×Int) H n2=>L9 x0 (x0.n:Int) s.1 s.2 H n2 K
theorem a2O(x0){H K}(h:W5 x0 H K):C1 x0 H K:=by
 refine Ct.of fun w0 w ps0 H0 R E I hR=>d3w ?_
 have hj1:∀(T8:(List k7))(C8:Sl)(Fs5j1:Frag) H w (_:RowL 131 1 y7 C8 T8 Fs5j1) (_:Inv w0 ps0 H0 H [Fs5j1] w) (_:L8 T8 H K),c5v (vs C8) w R E:=by
  intro T8 C8 Fs5j1 H w b0a I h
  intro _
  obtain ⟨j,q,r,t,u⟩:=Inv.freezeC I b0a (by decide)
  replace h:=h C8 j r t u
  exact hR _ j _ _ q ⟨_,rfl,rfl,h⟩
 refine p7 fun j1 hx1=>?_
 refine a7 (X1 _ _ _) ?_
 obtain ⟨f,d,v,y⟩:=h
 refine U0 (J:=fun n l w=>∃(s:(List k7)×Int)(H:Hp)(S8:Sl)(Fs5l2:Frag),n=d s∧l=(match s with | (u4,y9)=>[(vs S8),(vi y9)])∧(match s with | (u4,y9)=>RowL 131 1 y7 S8 u4 Fs5l2)∧(match s with | (u4,y9)=>Inv w0 ps0 H0 H [Fs5l2] w)∧f s H) ⟨_,([],0),H,(Sl.mk none 0 0),[],rfl,rfl,(RowL.nil V7 Z5),I.nil,v⟩ ?_
 rintro am an w next2 ⟨⟨u4,y9⟩,H,S8,Fs5l2,rfl,g,a1w,I,z⟩ hn2
 dsimp only at g I a1w
 simp only [List.map_cons,List.map_nil,List.cons.injEq,and_true] at g
 obtain ⟨e5,e10⟩:=g
 simp only [e5,e10]
 obtain ⟨n2,hm2,h⟩:∃n2:((List k7)×Int)→Hp→Prop,(∀s' H',n2 s' H'→f s' H'∧d s' < d (u4,y9))∧L9 x0 (x0.n:Int) u4 y9 H n2 K:=⟨_,fun _ _ h=>h,y (u4,y9) H (fun s' H'=>f s' H'∧d s' < d (u4,y9)) z (fun _ _ a b=>⟨a,b⟩)⟩
 refine a7 pLs ?_
 refine m0 h (fun _ h=>?_) (fun _ h=>?_)
 ·obtain ⟨aa,ab,k,i,h⟩:=h
  obtain ⟨ao,ap,ac,i⟩:=i
  refine a7 (a4l ac _ _ _ _ aa ab) (c8 (ldA (vs:=(m6 k)) Tryz.isAgg56 Tryz.sizeOf56 rfl (I.atH i)) ?_)
  refine o7 I Tryz.zeroValue56 (cs:=[(vi 0),(eS),(nS),(nS),(nS),(nS)]) rfl fun aq ar ad au=>?_
  refine o9 ad Tryz.sizeOf56 (vs:=(m6 k)) fun av m aw=>?_
  refine c8 (lW Tryz.isAgg56 Tryz.sizeOf56 rfl m) ?_
  refine f9 Tryz.call79 h m ?_
  rintro _ ae _ ax af _ _ ⟨o,rfl,rfl,h⟩
  refine Q9 (e:=131) (c:=y7) (xs:=[o]) af (b4J _) rfl rfl V7 Z5 (nb rfl) fun ay az ba ag p bb=>?_
  obtain ⟨ah,h⟩:=h
  refine b4o (s:=S8) (xs:=u4) (p.bring 2) a1w (ag.srcO ((p.bring 2).bring 1)) ah fun ai aj bc ak al bd=>?_
  refine a7 pAd ?_
  exact hn2 _ _ _ (hm2 _ _ h).2 ⟨((u4++[o]),(IntKind.wrap .i64 (y9+1))),ae,ai,aj,rfl,rfl,ak,((al.bring 1).drop.bring 1).drop,(hm2 _ _ h).1⟩
 ·exact hx1 _ _ (hj1 u4 S8 Fs5l2 H _ a1w I h)
def P2(d4g:Sl)(b8u:Int)(d9B:Sl)(d9z:Int)(d5D:Int)(H:Hp)(n4:(Int×Int)→Hp→Prop)(K:Sl→Hp→Prop):Prop:=
 n4 (b8u,(IntKind.wrap .i64 (d5D+1))) H
def P3(b7I:(List k7))(H:Hp)(K:Sl→Hp→Prop):Prop:=
 ∀(b2B:Sl)(a:Hp),Hle H a→SlH a 1 y7 b2B b7I→b2B.n≤b2B.c→
 K b2B a
def P4(c8x:Sl)(c8y:Int)(a6V:(List k7))(a6o:Int)(H:Hp)(n3:((List k7)×Int)→Hp→Prop)(K:Sl→Hp→Prop):Prop:=
 (a6o < c8y→
 (0:Int)≤a6o∧(a6o:Int) < c8x.n∧∃b:Sl,EltH H c8x a6o 1 [(vs b)]∧
 ∃a:List k7,SlH H 1 y7 b a∧(a6V.length+a.length)*17≤140737488355328∧
 n3 ((a6V++a),(IntKind.wrap .i64 (a6o+1))) H)∧
 (¬(a6o < c8y)→
 P3 a6V H K)
def P5(a5S:Sl)(a9g:Int)(H:Hp)(K:Sl→Hp→Prop):Prop:=
 X2 a9g H (fun a b=>
 TL ((a,0):(List k7)×Int) b fun(s:(List k7)×Int) H n3=>P4 a5S (a5S.n:Int) s.1 s.2 H n3 K)
def Y9(b4T:Sl)(a9a:Sl)(c3D:Int)(b4e:Int)(a8o:Int)(H:Hp)(n4:(Int×Int)→Hp→Prop)(K:Sl→Hp→Prop):Prop:=
 (a8o < c3D→
 (0:Int)≤a8o∧(a8o:Int) < a9a.n∧∃a:Sl,EltH H a9a a8o 1 [(vs a)]∧
 ((IntKind.wrap .i64 (b4e+(a.n:Int))) < 0→
 False)∧
 (¬((IntKind.wrap .i64 (b4e+(a.n:Int))) < 0)→
 P2 b4T (IntKind.wrap .i64 (b4e+(a.n:Int))) a9a c3D a8o H n4 K))∧
 (¬(a8o < c3D)→
 P5 b4T b4e H K)
def a0k(x0:Sl)(H:Hp)(K:Sl→Hp→Prop):Prop:=
 TL ((0,0):Int×Int) H fun(s:Int×Int) H n4=>Y9 x0 x0 (x0.n:Int) s.1 s.2 H n4 K
theorem a4i(x0){H K}(h:a0k x0 H K):D6 x0 H K:=by
 refine Ct.of fun w0 w ps0 H0 R E I hR=>d3r ?_
 have hj1:∀(a9g:Int) H w (_:Inv w0 ps0 H0 H [] w) (_:P5 x0 a9g H K),c5s (vs x0) (vi a9g) w R E:=by
  intro a9g H w I h
  intro _
  refine f9 Tryz.call120 h I ?_
  rintro _ m _ au o _ _ ⟨p,q,r,rfl,rfl,t,h⟩
  have hj2:∀(b7I:(List k7))(b2B:Sl)(Fs6j2:Frag) H w (_:RowL 131 1 y7 b2B b7I Fs6j2) (_:Inv w0 ps0 H0 H [Fs6j2] w) (_:P3 b7I H K),c5r (vs b2B) w R E:=by
   intro b7I b2B Fs6j2 H w d5E I h
   intro _
   obtain ⟨j,u,y,z,aa⟩:=Inv.freezeC I d5E (by decide)
   replace h:=h b2B j y z aa
   exact hR _ j _ _ u ⟨_,rfl,rfl,h⟩
  refine p7 fun j2 hx2=>?_
  refine a7 (b7E _ _ _) ?_
  obtain ⟨d,c,ab,ac⟩:=h
  refine U0 (J:=fun n l w=>∃(s:(List k7)×Int)(H:Hp)(b7J:Sl)(Fs6l3:Frag),n=c s∧l=(match s with | (a6V,a6o)=>[(vs b7J),(vi a6o)])∧(match s with | (a6V,a6o)=>RowL 131 1 y7 b7J a6V Fs6l3)∧(match s with | (a6V,a6o)=>Inv w0 ps0 H0 H [Fs6l3] w)∧d s H) ⟨_,(p,0),m,q,r,rfl,rfl,t,o,ab⟩ ?_
  rintro av aw w next3 ⟨⟨a6V,a6o⟩,H,b7J,Fs6l3,rfl,e,c3E,I,ad⟩ hn3
  dsimp only at e I c3E
  simp only [List.map_cons,List.map_nil,List.cons.injEq,and_true] at e
  obtain ⟨e6,e27⟩:=e
  simp only [e6,e27]
  obtain ⟨n3,hm3,h⟩:∃n3:((List k7)×Int)→Hp→Prop,(∀s' H',n3 s' H'→d s' H'∧c s' < c (a6V,a6o))∧P4 x0 (x0.n:Int) a6V a6o H n3 K:=⟨_,fun _ _ h=>h,ac (a6V,a6o) H (fun s' H'=>d s' H'∧c s' < c (a6V,a6o)) ad (fun _ _ a b=>⟨a,b⟩)⟩
  refine a7 pLs ?_
  refine m0 h (fun _ h=>?_) (fun _ h=>?_)
  ·obtain ⟨ae,af,ag,f,h⟩:=h
   obtain ⟨ax,ay,ah,f⟩:=f
   refine a7 (b8N ah _ _ _ _ ae af) (c8 (ld1 (v:=(vs ag)) Tryz.isAgg128 (I.atH f)) ?_)
   obtain ⟨ai,aj,h⟩:=h
   obtain ⟨ak,h⟩:=h
   refine b4o (s:=b7J) (xs:=a6V) I c3E (SlH.src I aj V7) ak fun al am az an ao ba=>?_
   refine a7 pAd ?_
   exact hn3 _ _ _ (hm3 _ _ h).2 ⟨((a6V++ai),(IntKind.wrap .i64 (a6o+1))),H,al,am,rfl,rfl,an,ao,(hm3 _ _ h).1⟩
  ·exact hx2 _ _ (hj2 a6V b7J Fs6l3 H _ c3E I h)
 refine p7 fun j1 hx1=>?_
 refine a7 (b7E _ _ _) ?_
 refine A4 (σ:=Int×Int) (fun (b4e,a8o)=>[(vi b4e),(vi a8o)]) (fun (b4e,a8o)=>[]) h rfl I ?_
 rintro ⟨b4e,a8o⟩ H bb w next4 n4 g I h hn4
 dsimp only at g I h
 simp only [List.map_cons,List.map_nil,List.cons.injEq,and_true] at g
 obtain ⟨e3,e11⟩:=g
 simp only [e3,e11]
 refine a7 pLs ?_
 refine m0 h (fun _ h=>?_) (fun _ h=>?_)
 ·have hj5:∀(b8u:Int) H w (_:Inv w0 ps0 H0 H [] w) (_:P2 x0 b8u x0 (x0.n:Int) a8o H n4 K),c5t (vs x0) (vi b8u) (vs x0) (vi (x0.n:Int)) (vi a8o) w next4 R E:=by
   intro b8u H w I h
   intro _
   refine a7 pAd ?_
   exact hn4 (b8u,(IntKind.wrap .i64 (a8o+1))) _ _ h I
  refine p7 fun j5 hx5=>?_
  obtain ⟨ap,aq,k,i,h⟩:=h
  obtain ⟨bc,bd,ar,i⟩:=i
  refine a7 (b8N ar _ _ _ _ ap aq) (c8 (ld1 (v:=(vs k)) Tryz.isAgg128 (I.atH i)) (a7 (b2o _ _ _) (a7 pAd (a7 pLs ?_))))
  refine m0 h (fun _ h=>?_) (fun _ h=>?_)
  ·refine a7 (c4s _) ?_
   exact h.elim
  ·exact hx5 _ _ (hj5 (IntKind.wrap .i64 (b4e+(k.n:Int))) H _ I h)
 ·exact hx1 _ _ (hj1 b4e H _ I h)
def b1H(x0:k7)(H:Hp)(K:ByteArray→Bool→Hp→Prop):Prop:=
 (x0.a8f=true→
 K x0.a4e.a2q.t7 true H)∧
 (x0.a8f=false→
 (x0.a8g=true→
 K x0.A6.p6.t7 ((decide (x0.A6.p6.d8=1))||(decide (x0.A6.p6.d8=2))) H)∧
 (x0.a8g=false→
 (x0.a8e=true→
 K x0.L0.z7.t7 ((decide (x0.L0.z7.d8=2))||(decide (x0.L0.z7.d8=4))) H)∧
 (x0.a8e=false→
 K ⟨#[]⟩ false H)))
theorem b5L(x0){H K}(h:b1H x0 H K):a2Z x0 H K:=by
 refine Ct.of fun w0 w ps0 H0 R E I hR=>c9W ?_
 refine a7 (b9x x0) (a7 (m5 _ _ (vB x0.a8f) rfl) (a7 (m5 _ _ _ rfl) ?_))
 refine l9 h (fun _ h=>?_) (fun _ h=>?_)
 ·refine o7 I Tryz.zeroValue175 (cs:=[(eS),(vi 0)]) rfl fun n o e q=>?_
  refine o9 e Tryz.sizeOf175 (vs:=[(Value.string x0.a4e.a2q.t7),(vi x0.a4e.a2q.a1u)]) fun r d s=>?_
  refine a7 b4a (a7 b7C (c8 (l1 Tryz.isAgg9 d rfl) ?_))
  exact hR _ H _ _ d.drop ⟨x0.a4e.a2q.t7,true,rfl,rfl,h⟩
 ·refine a7 (b9y x0) (a7 (m5 _ _ (vB x0.a8g) rfl) (a7 (m5 _ _ _ rfl) ?_))
  refine l9 h (fun _ h=>?_) (fun _ h=>?_)
  ·refine o7 I Tryz.zeroValue177 (cs:=[(vi 0),(eS),(nS),(nS),(nS),(nS)]) rfl fun f t i u=>?_
   refine o9 i Tryz.sizeOf177 (vs:=[(vi x0.A6.p6.d8),(Value.string x0.A6.p6.t7),(vs x0.A6.p6.o4),(vs x0.A6.p6.v8),(vs x0.A6.p6.J5),(vs x0.A6.p6.H7)]) fun v j y=>?_
   refine O6 j fun z b=>?_
   refine o5 S4 ?_
   refine o5 a5B ?_
   refine o5 S4 ?_
   refine o5 Q2 ?_
   refine u1 (l1 Tryz.isAgg9 b rfl) ?_
   refine u1 (l1 Tryz.isAgg3 b rfl) ?_
   refine o5 pEq ?_
   refine o5 (Pu.g fun a=>by with_reducible exact S4) ?_
   refine o5 (Pu.g fun a=>by simp only [g9 a];with_reducible exact Q2) ?_
   refine d1C (p:=(Value.pointer (some ⟨f,0,none⟩))) rfl (Ld.g fun a=>by simp only [g9 a];exact (l1 Tryz.isAgg3 b rfl)) ?_
   refine o5 (Pu.g fun a=>by simp only [g9 a];with_reducible exact pEq) ?_
   refine o5 (y8 _ _) ?_
   exact hR _ H _ _ b.drop ⟨x0.A6.p6.t7,((decide (x0.A6.p6.d8=1))||(decide (x0.A6.p6.d8=2))),rfl,rfl,h⟩
  ·refine a7 (b9z x0) (a7 (m5 _ _ (vB x0.a8e) rfl) (a7 (m5 _ _ _ rfl) ?_))
   refine l9 h (fun _ h=>?_) (fun _ h=>?_)
   ·refine o7 I Tryz.zeroValue141 (cs:=[(vi 0),(vi 0),(eS),(nS)]) rfl fun k aa l ab=>?_
    refine o9 l Tryz.sizeOf141 (vs:=[(vi x0.L0.z7.d8),(vi x0.L0.z7.G9),(Value.string x0.L0.z7.t7),(vs x0.L0.z7.G4)]) fun ac m ad=>?_
    refine O6 m fun ae c=>?_
    refine o5 a1I ?_
    refine o5 a9U ?_
    refine o5 a1I ?_
    refine o5 a1M ?_
    refine u1 (l1 Tryz.isAgg9 c rfl) ?_
    refine u1 (l1 Tryz.isAgg3 c rfl) ?_
    refine o5 pEq ?_
    refine o5 (Pu.g fun a=>by with_reducible exact a1I) ?_
    refine o5 (Pu.g fun a=>by simp only [g9 a];with_reducible exact a1M) ?_
    refine d1C (p:=(Value.pointer (some ⟨k,0,none⟩))) rfl (Ld.g fun a=>by simp only [g9 a];exact (l1 Tryz.isAgg3 c rfl)) ?_
    refine o5 (Pu.g fun a=>by simp only [g9 a];with_reducible exact pEq) ?_
    refine o5 (y8 _ _) ?_
    exact hR _ H _ _ c.drop ⟨x0.L0.z7.t7,((decide (x0.L0.z7.d8=2))||(decide (x0.L0.z7.d8=4))),rfl,rfl,h⟩
   ·exact hR _ H _ _ I ⟨⟨#[]⟩,false,rfl,rfl,h⟩
def b0M(x0:Int)(H:Hp)(K:Bool→Hp→Prop):Prop:=
 V3 x0 H (fun a b=>
 K ((decide (a=3))||(decide (a=4))) b)
theorem b5x(x0){H K}(h:b0M x0 H K):a4V x0 H K:=by
 refine Ct.of fun w0 w ps0 H0 R E I hR=>d0g ?_
 refine f9 Tryz.call132 h I ?_
 rintro _ c _ e d _ _ ⟨b,rfl,rfl,h⟩
 refine a7 pEq ?_
 simp only [p8]
 refine a7 (Pu.g fun a=>by simp only [g9 a];with_reducible exact pEq) ?_
 refine a7 (y8 _ _) ?_
 exact hR _ c _ _ d ⟨_,rfl,rfl,h⟩
def a0D(b4O:Int)(H:Hp)(K:Int→Hp→Prop):Prop:=
 K b4O H
def a3l(b:ByteArray)(b4c:Int)(a:Nat)(H:Hp)(n2:(Int×Nat)→Hp→Prop)(K:Int→Hp→Prop):Prop:=
 (a < b.size→
 n2 ((IntKind.wrap .i64 (b4c+1)),(a+(Utf8.decode b a).2)) H)∧
 (¬(a < b.size)→
 a0D b4c H K)
def a4O(x0:ByteArray)(H:Hp)(K:Int→Hp→Prop):Prop:=
 TL ((0,0):Int×Nat) H fun(s:Int×Nat) H n2=>a3l x0 s.1 s.2 H n2 K
theorem a9j(x0){H K}(h:a4O x0 H K):a1f x0 H K:=by
 refine Ct.of fun w0 w ps0 H0 R E I hR=>d0o ?_
 have hj1:∀(b4O:Int) H w (_:Inv w0 ps0 H0 H [] w) (_:a0D b4O H K),c2s (vi b4O) w R E:=by
  intro b4O H w I h
  intro _
  exact hR _ H _ _ I ⟨_,rfl,rfl,h⟩
 refine p7 fun j1 hx1=>?_
 refine b6c Tryz.underlying9 x0 I fun d i f j=>?_
 refine A4 (σ:=Int×Nat) (fun (b4c,a)=>[(vi b4c)]) (fun (b4c,a)=>[itf d x0 a]) h rfl f ?_
 rintro ⟨b4c,a⟩ H k w next2 n2 b I h hn2
 dsimp only at b I h
 simp only [List.map_cons,List.map_nil,List.cons.injEq,and_true] at b
 have e2:=b
 simp only [e2]
 refine b7x I (fun c l g m=>?_) (fun c=>?_)
 ·replace h:=h.1 c
  refine a7 (m5 _ _ (vB true) rfl) ?_
  refine a4d (fun e=>?_) (fun e=>by cases e)
  refine a7 pAd ?_
  exact hn2 ((IntKind.wrap .i64 (b4c+1)),(a+(Utf8.decode x0 a).2)) _ _ h g
 ·replace h:=h.2 c
  refine a7 (m5 _ _ (vB false) rfl) ?_
  refine a4d (fun e=>by cases e) (fun e=>?_)
  exact hx1 _ _ (hj1 b4c H _ I.drop h)
def b0o(H:Hp)(K:Bool→Hp→Prop):Prop:=
 K true H
def a6W(b:ByteArray)(a:Nat)(H:Hp)(n2:Nat→Hp→Prop)(K:Bool→Hp→Prop):Prop:=
 (a < b.size→
 a4V ((Utf8.decode b a).1:Int) H (fun c d=>
 TG ((!(!c)&&(decide (((a:Nat):Int)=0)))=true) (V3 ((Utf8.decode b a).1:Int) d) 0 d (fun(e:Int)(f:Hp)=>
 (((!c)||((decide (((a:Nat):Int)=0))&&(!decide (e=3))))=true→
 K false f)∧
 (((!c)||((decide (((a:Nat):Int)=0))&&(!decide (e=3))))=false→
 n2 (a+(Utf8.decode b a).2) f))))∧
 (¬(a < b.size)→
 b0o H K)
def b2l(x0:ByteArray)(H:Hp)(K:Bool→Hp→Prop):Prop:=
 TG ((decide (x0=⟨#[]⟩))=false) (a7d x0 H) false H (fun(a:Bool)(c:Hp)=>
 TG (((decide (x0=⟨#[]⟩))||(!a))=false) (a6l x0 c) false c (fun(b:Bool)(d:Hp)=>
 TG ((((decide (x0=⟨#[]⟩))||(!a))||b)=false) (a6m x0 d) false d (fun(e:Bool)(f:Hp)=>
 (((((decide (x0=⟨#[]⟩))||(!a))||b)||e)=true→
 K false f)∧
 (((((decide (x0=⟨#[]⟩))||(!a))||b)||e)=false→
 TL (0:Nat) f fun(s:Nat) H n2=>a6W x0 s H n2 K))))
theorem b6P(x0){H K}(h:b2l x0 H K):a6n x0 H K:=by
 refine Ct.of fun w0 w ps0 H0 R E I hR=>c9Y ?_
 refine a7 (G1 _ _ _ _ _) ?_
 simp only [p8]
 refine C5 [] (fun d:Bool=>(vB d)) h I (fun a h=>by simp only [g9 a];exact D5 Tryz.call160 h I) fun d s ai f t u h=>?_
 refine a7 (Pu.g fun a=>by simp only [g9 a];with_reducible exact (E1 _)) ?_
 refine a7 (y8 _ _) ?_
 simp only [p8]
 refine C5 [] (fun i:Bool=>(vB i)) h f (fun a h=>by simp only [g9 a];exact D5 Tryz.call156 h f) fun i y aj j z aa h=>?_
 refine a7 (y8 _ _) ?_
 simp only [p8]
 refine C5 [] (fun k:Bool=>(vB k)) h j (fun a h=>by simp only [g9 a];exact D5 Tryz.call155 h j) fun k o ak l ac ad h=>?_
 refine a7 (y8 _ _) ?_
 refine l9 h (fun _ h=>?_) (fun _ h=>?_)
 ·exact hR _ o _ _ l ⟨_,rfl,rfl,h⟩
 ·have hj1:∀H w (_:Inv w0 ps0 H0 H [] w) (_:b0o H K),c2n w R E:=by
   intro H w I h
   intro _
   exact hR _ H _ _ I ⟨_,rfl,rfl,h⟩
  refine p7 fun j1 hx1=>?_
  refine b6c Tryz.underlying9 x0 l fun al aq am ar=>?_
  refine A4 (σ:=Nat) (fun c=>[]) (fun c=>[itf al x0 c]) h rfl am ?_
  rintro c H au w next2 n2 an I h hn2
  clear an
  refine b7x I (fun p av ao aw=>?_) (fun p=>?_)
  ·replace h:=h.1 p
   refine a7 (m5 _ _ (vB true) rfl) ?_
   refine a4d (fun e=>?_) (fun e=>by cases e)
   refine a7 (m5 _ _ (vi ((c:Nat):Int)) rfl) (a7 (m5 _ _ (Value.int .i32 ((Utf8.decode x0 c).1:Int)) rfl) ?_)
   refine f9 Tryz.call154 h ao ?_
   rintro _ _ _ ax ae _ _ ⟨ay,rfl,rfl,h⟩
   refine a7 (E1 _) ?_
   simp only [p8]
   refine a7 (Pu.g fun a=>by simp only [g9 a];with_reducible exact pEq) ?_
   simp only [a3K,b2O]
   refine c3o (a0N _ _ _) ?_
   refine C5 [] (fun m:Int=>(vi m)) h ae (fun af h=>?_) fun m q ap n ag ah h=>?_
   ·obtain ⟨a,b⟩:=a3J af
    simp only [g9 af]
    refine f9 Tryz.call132 h ae ?_
    rintro _ q _ ap n ah ag ⟨m,rfl,rfl,h⟩
    exact ⟨m,q,rfl,n,ag,ah,h⟩
   refine a7 (Pu.e (a0N _ _ _) (Pu.g fun hb=>by obtain ⟨a,b⟩:=a3J hb;simp only [g9 hb];with_reducible exact pNe)) ?_
   refine a7 (Pu.g fun a=>by simp only [g9 a,a9R a];with_reducible exact (s6 _ _)) ?_
   refine a7 (y8 _ _) ?_
   refine l9 h (fun _ h=>?_) (fun _ h=>?_)
   ·exact hR _ q _ _ n.drop ⟨_,rfl,rfl,h⟩
   ·exact hn2 (c+(Utf8.decode x0 c).2) _ _ h n
  ·replace h:=h.2 p
   refine a7 (m5 _ _ (vB false) rfl) ?_
   refine a4d (fun e=>by cases e) (fun e=>?_)
   exact hx1 _ _ (hj1 H _ I.drop h)
def a3U(b1b:Int)(b1c:Int)(b1d:Int)(b1e:Bool)(b1f:Bool)(a9o:(List ByteArray))(H:Hp)(K:Bool→q9→(List ByteArray)→Hp→Prop):Prop:=
 K true (q9.mk b1b b1c b1d b1e b1f (Sl.mk none 0 0)) a9o H
def a3V(R1:Int)(a1D:Sl)(y9:Int)(a4Y:Int)(a3u:Int)(a3v:Int)(a3w:Int)(a3x:Bool)(a3y:Bool)(a2d:(List ByteArray))(H:Hp)(n2:(Int×Int×Int×Int×Bool×Bool×(List ByteArray))→Hp→Prop)(K:Bool→q9→(List ByteArray)→Hp→Prop):Prop:=
 (a4Y < y9→
 (0:Int)≤a4Y∧(a4Y:Int) < a1D.n∧∃c:k7,EltH H a1D a4Y 1 [(K6 c)]∧
 a3p (q9.mk a3u a3v a3w a3x a3y (Sl.mk none 0 0)) a2d c R1 H (fun b d e f=>
 TG ((!b)=false) (a6q c f) (Sl.mk none 0 0) f (fun(j:Sl)(g:Hp)=>
 TG ((!b)=false) (fun k_=>a0P j (IntKind.wrap .i64 (R1+1)) (a1L d) e g fun k l m H_=>k_ (k,l,m) H_) (false,(a1L d),e) g (fun(a:Bool×q9×(List ByteArray))(i:Hp)=>
 (((!b)||(!a.1))=true→
 K false (q9.mk (a.2.1.fnodes) (a.2.1.fdepth) (a.2.1.fe) (a.2.1.fform) (a.2.1.fnamed) (Sl.mk none 0 0)) a.2.2 i)∧
 (((!b)||(!a.1))=false→
 n2 ((IntKind.wrap .i64 (a4Y+1)),(a.2.1.fnodes),(a.2.1.fdepth),(a.2.1.fe),(a.2.1.fform),(a.2.1.fnamed),a.2.2) i)))))∧
 (¬(a4Y < y9)→
 a3U a3u a3v a3w a3x a3y a2d H K)
def a8S(x0:Sl)(x1:Int)(x2:q9)(a:(List ByteArray))(H:Hp)(K:Bool→q9→(List ByteArray)→Hp→Prop):Prop:=
 TL ((0,x2.fnodes,x2.fdepth,x2.fe,x2.fform,x2.fnamed,a):Int×Int×Int×Int×Bool×Bool×(List ByteArray)) H fun(s:Int×Int×Int×Int×Bool×Bool×(List ByteArray)) H n2=>a3V x1 x0 (x0.n:Int) s.1 s.2.1 s.2.2.1 s.2.2.2.1 s.2.2.2.2.1 s.2.2.2.2.2.1 s.2.2.2.2.2.2 H n2 K
theorem b4f(x0 x1 x2 ai){H K}(h:a8S x0 x1 x2 ai H K):a0P x0 x1 x2 ai H K:=by
 intro g2 g2b g3 az ba bb
 refine Ct.of fun w0 w ps0 H0 R E I hR=>c9x ?_
 have hj1:∀(b1b:Int)(b1c:Int)(b1d:Int)(b1e:Bool)(b1f:Bool)(a9o:(List ByteArray))(b3P:Sl)(b3Q:Frag) H w (_:RowL 9 1 M9 b3P a9o b3Q) (_:Inv w0 ps0 H0 H [bx g2 80 [(Value.pointer (some ⟨g2b,0,none⟩))],bx g2b 79 [(vi b1b),(vi b1c),(vi b1d),(vB b1e),(vB b1f),(vs b3P)],bx g3 169 [(Value.func (.func 118) #[] #[(Value.pointer (some ⟨g2,0,none⟩)),(Value.pointer (some ⟨g3,0,none⟩))])],b3Q] w) (_:a3U b1b b1c b1d b1e b1f a9o H K),c1Z w R E:=by
  intro b1b b1c b1d b1e b1f a9o b3P b3Q H w c5M I h
  intro _
  exact hR _ H _ _ ((((I.bring 2).bring 3).bring 3).bring 3) ⟨true,(q9.mk b1b b1c b1d b1e b1f (Sl.mk none 0 0)),a9o,b3P,b3Q,rfl,rfl,c5M,h⟩
 refine p7 fun j1 hx1=>?_
 refine a7 (b2o _ _ _) ?_
 obtain ⟨aj,z,bc,bd⟩:=h
 refine U0 (J:=fun n l w=>∃(s:Int×Int×Int×Int×Bool×Bool×(List ByteArray))(H:Hp)(b1I:Sl)(b1J:Frag),n=z s∧l=(match s with | (a4Y,a3u,a3v,a3w,a3x,a3y,a2d)=>[(vi a4Y)])∧(match s with | (a4Y,a3u,a3v,a3w,a3x,a3y,a2d)=>RowL 9 1 M9 b1I a2d b1J)∧(match s with | (a4Y,a3u,a3v,a3w,a3x,a3y,a2d)=>Inv w0 ps0 H0 H [bx g2 80 [(Value.pointer (some ⟨g2b,0,none⟩))],bx g2b 79 [(vi a3u),(vi a3v),(vi a3w),(vB a3x),(vB a3y),(vs b1I)],bx g3 169 [(Value.func (.func 118) #[] #[(Value.pointer (some ⟨g2,0,none⟩)),(Value.pointer (some ⟨g3,0,none⟩))])],b1J] w)∧aj s H) ⟨_,(0,x2.fnodes,x2.fdepth,x2.fe,x2.fform,x2.fnamed,ai),H,az,ba,rfl,rfl,bb,((((I.bring 2).bring 3).bring 3).bring 3),bc⟩ ?_
 rintro bj bk w next2 ⟨⟨a4Y,a3u,a3v,a3w,a3x,a3y,a2d⟩,H,b1I,b1J,rfl,ak,b5M,I,be⟩ hn2
 dsimp only at ak I b5M
 simp only [List.map_cons,List.map_nil,List.cons.injEq,and_true] at ak
 have e11:=ak
 simp only [e11]
 obtain ⟨n2,hm2,h⟩:∃n2:(Int×Int×Int×Int×Bool×Bool×(List ByteArray))→Hp→Prop,(∀s' H',n2 s' H'→aj s' H'∧z s' < z (a4Y,a3u,a3v,a3w,a3x,a3y,a2d))∧a3V x1 x0 (x0.n:Int) a4Y a3u a3v a3w a3x a3y a2d H n2 K:=⟨_,fun _ _ h=>h,bd (a4Y,a3u,a3v,a3w,a3x,a3y,a2d) H (fun s' H'=>aj s' H'∧z s' < z (a4Y,a3u,a3v,a3w,a3x,a3y,a2d)) be (fun _ _ a b=>⟨a,b⟩)⟩
 refine a7 pLs ?_
 refine m0 h (fun _ h=>?_) (fun _ h=>?_)
 ·obtain ⟨bf,bg,bh,al,h⟩:=h
  obtain ⟨bl,bm,bi,al⟩:=al
  refine a7 (c4r bi _ _ _ _ bf bg) (c8 (ld1 (v:=(K6 bh)) Tryz.isAgg131 (I.atH al)) ?_)
  refine O6 I fun bn ao=>?_
  refine u1 (l1 Tryz.isAgg80 ao rfl) ?_
  refine f9 Tryz.call119 (h g2b b1I b1J b5M) ((ao.bring 3).bring 2) ?_
  rintro _ ap _ aq o _ _ ⟨p,aa,am,ac,ad,rfl,rfl,ar,h⟩
  refine o5 (E1 _) ?_
  simp only [p8]
  refine o5 (Pu.g fun c=>by simp only [g9 c];with_reducible exact pAd) ?_
  refine u1 (Ld.g fun c=>by exact (l1 Tryz.isAgg169 (o.bring 3) rfl)) ?_
  refine b5E (D:=fun au u=>∃(ab:Sl)(k:Hp),au=(gv (!p) false (vs ab))∧(Inv w0 ps0 H0 k [bx g2b 79 (a2w aa ac),ad,bx g2 80 [(Value.pointer (some ⟨g2b,0,none⟩))],bx g3 169 [(Value.func (.func 118) #[] #[(Value.pointer (some ⟨g2,0,none⟩)),(Value.pointer (some ⟨g3,0,none⟩))])]] u)∧(∀i,i < aq.heap.size→¬inF [] i→u.heap[i]? = aq.heap[i]?)∧Hle ap k∧(TG ((!p)=false) (fun k_=>a0P ab (IntKind.wrap .i64 (x1+1)) (a1L aa) am k fun m d j H_=>k_ (m,d,j) H_) (false,(a1L aa),am) k (fun(e:Bool×q9×(List ByteArray))(f:Hp)=>
 (((!p)||(!e.1))=true→
 K false (q9.mk (e.2.1.fnodes) (e.2.1.fdepth) (e.2.1.fe) (e.2.1.fform) (e.2.1.fnamed) (Sl.mk none 0 0)) e.2.2 f)∧
 (((!p)||(!e.1))=false→
 n2 ((IntKind.wrap .i64 (a4Y+1)),(e.2.1.fnodes),(e.2.1.fdepth),(e.2.1.fe),(e.2.1.fform),(e.2.1.fnamed),e.2.2) f)))) (fun y=>?_) (fun y=>?_) ?_
  ·replace h:=h.1 y
   have c:=y
   simp only [g9 c]
   refine b4b o h (fun ab k u ae av an h=>?_)
   exact ⟨ab,k,by rfl,ae,an,av,h⟩
  ·exact ⟨(Sl.mk none 0 0),ap,by rw [b8j y],o,fun _ _ _=>rfl,Hle.refl _,h.2 y⟩
  ·clear h
   rintro au u ⟨ab,k,rfl,ae,an,av,h⟩
   refine ⟨(an _ (o.bring 3).lt1 (Inv.X0 (Fi:=[]) (o.bring 3))),?_⟩
   refine b5E (D:=fun aw af=>∃(m:Bool)(d:q9)(j:(List ByteArray))(f:Hp)(q:Sl)(r:Frag),aw=(gv (!p) false (vB m))∧(RowL 9 1 M9 q j r)∧(Inv w0 ps0 H0 f [bx g2 80 [(Value.pointer (some ⟨g2b,0,none⟩))],bx g2b 79 (a2w d q),r,bx g3 169 [(Value.func (.func 118) #[] #[(Value.pointer (some ⟨g2,0,none⟩)),(Value.pointer (some ⟨g3,0,none⟩))])]] af)∧(∀i,i < u.heap.size→¬inF [bx g2 80 [(Value.pointer (some ⟨g2b,0,none⟩))],bx g2b 79 (a2w aa ac),ad,bx g3 169 [(Value.func (.func 118) #[] #[(Value.pointer (some ⟨g2,0,none⟩)),(Value.pointer (some ⟨g3,0,none⟩))])]] i→af.heap[i]? = u.heap[i]?)∧Hle k f∧((((!p)||(!m))=true→
 K false (a1L d) j f)∧
 (((!p)||(!m))=false→
 n2 ((IntKind.wrap .i64 (a4Y+1)),d.fnodes,d.fdepth,d.fe,d.fform,d.fnamed,j) f))) (fun t=>?_) (fun t=>?_) ?_
   ·replace h:=h.1 t
    have c:=t
    simp only [g9 c]
    refine a9P (cap:=[(Value.pointer (some ⟨g2,0,none⟩)),(Value.pointer (some ⟨g3,0,none⟩))]) Tryz.call118 (h g2 g2b g3 ac ad ar) ((((ae.bring 3).bring 2).bring 2).bring 3) ?_
    rintro _ f _ af ag ax ay ⟨m,d,j,q,r,rfl,rfl,ah,h⟩
    exact ⟨m,d,j,f,q,r,by rfl,ah,ag,ay,ax,h⟩
   ·exact ⟨false,(a1L aa),am,k,ac,ad,by rw [b8j t],ar,((((ae.bring 3).bring 2).bring 2).bring 3),fun _ _ _=>rfl,Hle.refl _,h.2 t⟩
   ·clear h
    rintro aw af ⟨m,d,j,f,q,r,rfl,ah,ag,ay,ax,h⟩
    refine o5 (Pu.g fun c=>by simp only [g9 c];with_reducible exact (E1 _)) ?_
    refine o5 (y8 _ _) ?_
    refine l9 h (fun _ h=>?_) (fun _ h=>?_)
    ·exact hR _ f _ _ ((((ag.bring 3).bring 3).bring 3).bring 3) ⟨false,(a1L d),j,q,r,rfl,rfl,ah,h⟩
    ·refine a7 pAd ?_
     exact hn2 _ _ _ (hm2 _ _ h).2 ⟨((IntKind.wrap .i64 (a4Y+1)),d.fnodes,d.fdepth,d.fe,d.fform,d.fnamed,j),f,q,r,rfl,rfl,ah,((((ag.bring 2).bring 3).bring 3).bring 3),(hm2 _ _ h).1⟩
 ·exact hx1 _ _ (hj1 a3u a3v a3w a3x a3y a2d b1I b1J H _ b5M ((((I.bring 3).bring 3).bring 3).bring 3) h)
def b2m(x0:l8)(H:Hp)(K:q9→Hp→Prop):Prop:=
 N1 x0.N3 H (fun d e=>
 C1 x0.a0L e (fun f g=>
 ∀(a:Sl)(b:Hp),Hle g b→SlH b 1 csl a [d,f]→a.n≤a.c→
 D6 a b (fun i j=>
 a6T i j (fun k l=>
 K k l))))
theorem b6Q(x0){H K}(h:b2m x0 H K):a8E x0 H K:=by
 refine Ct.of fun w0 w ps0 H0 R E I hR=>d2x ?_
 refine Q1 I (cs:=(p5 x0)) rfl fun z aa b ab=>?_
 refine O6 b fun ac a=>?_
 refine o5 T5 ?_
 refine o5 X8 ?_
 refine u1 (l1 Tryz.isAgg23 a rfl) ?_
 refine u1 (l1 Tryz.isAgg24 a rfl) ?_
 refine f9 Tryz.call76 h a ?_
 rintro _ _ _ ad d _ f ⟨g,rfl,rfl,h⟩
 refine ⟨(f _ a.lt1 (Inv.X0 (Fi:=[]) a)),?_⟩
 refine f9 Tryz.call78 h d ?_
 rintro _ _ _ ae i _ _ ⟨j,rfl,rfl,h⟩
 refine Q9 (e:=128) (c:=csl) (xs:=[g,j]) i (c0d _ _ _ _ _ _) rfl rfl b9F b9G (nb rfl) fun k af ag l m ah=>?_
 obtain ⟨n,o,p,q,r⟩:=Inv.freezeC m l (by decide)
 replace h:=h k n p q r
 refine f9 Tryz.call75 h o ?_
 rintro _ _ _ ai s _ _ ⟨aj,rfl,rfl,h⟩
 refine f9 Tryz.call74 h s ?_
 rintro _ t _ ak u _ _ ⟨v,y,rfl,rfl,h⟩
 exact hR _ t _ _ (u.bring 1).drop ⟨v,y,rfl,rfl,h⟩
def b2C(x0:b7)(x1:ByteArray)(H:Hp)(K:Bool→b7→Hp→Prop):Prop:=
 u6 x0 x1 H (fun a b=>
 ((!a)=true→
 K false x0 b)∧
 ((!a)=false→
 K true (b7.mk x0.fl (IntKind.wrap .i64 (x0.fn+1))) b))
theorem b2D(x0 x1){H K}(h:b2C x0 x1 H K):y4 x0 x1 H K:=by
 intro g0
 refine Ct.of fun w0 w ps0 H0 R E I hR=>c9a ?_
 refine f9 Tryz.call53 (h g0) I ?_
 rintro _ b _ d a _ _ ⟨e,rfl,rfl,h⟩
 refine a7 (E1 _) ?_
 refine l9 h (fun _ h=>?_) (fun _ h=>?_)
 ·exact hR _ b _ _ a ⟨false,x0,rfl,rfl,h⟩
 ·refine a7 (o3 _) (a7 a5P (c8 (l1 Tryz.isAgg3 a rfl) (a7 pAd (a7 (o3 _) ?_))))
  refine a7 a5P ?_
  refine A9 a Tryz.sizeOf3 fun f c g=>?_
  exact hR _ b _ _ c ⟨true,(b7.mk x0.fl (IntKind.wrap .i64 (x0.fn+1))),rfl,rfl,h⟩
def a2k [PanQ] (p1:b7) (a:b6) (b:b6) (H:Hp) (K:b6→b7→Hp→Prop):Prop:=
 K a (b7.mk p1.fl (IntKind.wrap .i64 (p1.fn+1))) H
def b2d [PanQ] (x0:b7) (H:Hp) (K:b6→b7→Hp→Prop):Prop:=
 C0 x0 H (fun a b=>
 (a.d8=5→
 E6 x0 b (fun c=>
 a2k x0 a (b6.mk 0 ⟨#[]⟩ 0 (b8.mk 0 0)) c K))∧
 (¬(a.d8=5)→
 a2k x0 a (b6.mk 0 ⟨#[]⟩ 0 (b8.mk 0 0)) b K))
theorem b2e [PanQ] (x0:b7) {H:Hp} {K:b6→b7→Hp→Prop} (h:b2d x0 H K):T3 x0 H K:=by
 intro g0
 refine Ct.ofE fun w0 w ps0 H0 R E I hR hE=>c8Z ?_
 refine o7 I Tryz.zeroValue103 (cs:=[(vi 0),(eS),(vi 0),(vi 0),(vi 0)]) rfl fun c n g o=>?_
 refine f9 Tryz.call51 (h g0) (g.bring 1) ?_
 rintro _ i _ p j _ _ ⟨a,rfl,rfl,h⟩
 refine o7 j Tryz.zeroValue103 (cs:=[(vi 0),(eS),(vi 0),(vi 0),(vi 0)]) rfl fun d q k r=>?_
 refine o9 k Tryz.sizeOf103 (vs:=(i8 a)) fun s b t=>?_
 have hj1:∀H w (_:Inv w0 ps0 H0 H [bx g0 101 (g8 x0),bx d 103 (i8 a),bx c 103 [(vi (b6.mk 0 ⟨#[]⟩ 0 (b8.mk 0 0)).d8),(Value.string (b6.mk 0 ⟨#[]⟩ 0 (b8.mk 0 0)).C3),(vi (b6.mk 0 ⟨#[]⟩ 0 (b8.mk 0 0)).G9),(vi (b6.mk 0 ⟨#[]⟩ 0 (b8.mk 0 0)).fAt.B9),(vi (b6.mk 0 ⟨#[]⟩ 0 (b8.mk 0 0)).fAt.K8)]] w) (_:a2k x0 a (b6.mk 0 ⟨#[]⟩ 0 (b8.mk 0 0)) H K),c1N (Value.pointer (some ⟨g0,0,none⟩)) (Value.pointer (some ⟨c,0,none⟩)) (Value.pointer (some ⟨d,0,none⟩)) w R E:=by
  intro H w I h
  intro _
  refine a7 (o3 _) (a7 a5P (c8 (l1 Tryz.isAgg3 I rfl) (a7 pAd (a7 (o3 _) ?_))))
  refine a7 a5P ?_
  refine A9 I Tryz.sizeOf3 fun u e v=>?_
  refine c8 (lW Tryz.isAgg103 Tryz.sizeOf103 rfl (e.bring 1)) ?_
  refine o9 (e.bring 2) Tryz.sizeOf103 (vs:=(i8 a)) fun y f z=>?_
  refine q8 Tryz.isAgg103 Tryz.sizeOf103 rfl f ?_
  exact hR _ H _ _ (f.drop.bring 1).drop ⟨a,(b7.mk x0.fl (IntKind.wrap .i64 (x0.fn+1))),rfl,rfl,h⟩
 refine p7 fun j1 hx1=>?_
 refine a7 W6 (c8 (l1 Tryz.isAgg3 b rfl) (a7 pEq ?_))
 refine m0 h (fun _ h=>?_) (fun _ h=>?_)
 ·refine A7 hE Tryz.call52 (h g0) (b.bring 1) ?_
  rintro _ l _ aa m _ _ ⟨rfl,rfl,h⟩
  exact hx1 _ _ (hj1 l _ (((m.bring 2).bring 2).bring 2) h)
 ·exact hx1 _ _ (hj1 i _ (((b.bring 2).bring 1).bring 2) h)
def a6N [PanQ] (x0:b7) (x1:Int) (x2:ByteArray) (H:Hp) (K:d9→b7→Hp→Prop):Prop:=
 H8 x0 H (fun a b=>
 D2 x0 (IntKind.wrap .i64 (x1+1)) a b (fun c=>
 T2 x0 (IntKind.wrap .i64 (x1+1)) c (fun d e f=>
 C6 e x2 f (fun g i=>
 K d g i))))
theorem b1K [PanQ] (x0:b7) (x1:Int) (x2:ByteArray) {H:Hp} {K:d9→b7→Hp→Prop} (h:a6N x0 x1 x2 H K):X3 x0 x1 x2 H K:=by
 intro g0
 refine Ct.ofE fun w0 w ps0 H0 R E I hR hE=>c9b ?_
 refine o7 I Tryz.zeroValue40 (cs:=[(vi 0),(vi 0),(eS),(nS)]) rfl fun m n d o=>?_
 refine a7 pAd ?_
 refine f9 Tryz.call141 (h g0) (d.bring 1) ?_
 rintro _ p _ q e _ _ ⟨r,rfl,rfl,h⟩
 refine A7 hE Tryz.call55 (h g0) e ?_
 rintro _ _ _ s f _ _ ⟨rfl,rfl,h⟩
 refine a7 pAd ?_
 refine A7 hE Tryz.call35 (h g0) f ?_
 rintro _ _ _ t g _ _ ⟨a,u,rfl,rfl,h⟩
 refine o7 g Tryz.zeroValue40 (cs:=[(vi 0),(vi 0),(eS),(nS)]) rfl fun v y i z=>?_
 refine o9 i Tryz.sizeOf40 (vs:=(g7 a)) fun aa j ab=>?_
 refine A7 hE Tryz.call103 (h g0) (j.bring 1) ?_
 rintro _ k _ ac b _ _ ⟨l,rfl,rfl,h⟩
 refine c8 (lW Tryz.isAgg40 Tryz.sizeOf40 rfl (b.bring 1)) ?_
 refine o9 (b.bring 2) Tryz.sizeOf40 (vs:=(g7 a)) fun ad c ae=>?_
 refine q8 Tryz.isAgg40 Tryz.sizeOf40 rfl c ?_
 exact hR _ k _ _ (c.drop.bring 1).drop ⟨a,l,rfl,rfl,h⟩
def V0 [PanQ] (p1:b7) (a:m7) (d:m7) (H:Hp) (K:m7→b7→Hp→Prop):Prop:=
 C6 p1 ⟨#[59]⟩ H (fun b c=>
 K a b c)
def a0q [PanQ] (G8:b7) (a:m7) (b:m7) (H:Hp) (K:m7→b7→Hp→Prop):Prop:=
 T3 G8 H (fun c d e=>
 C6 d ⟨#[93]⟩ e (fun f g=>
 V0 f (m7.mk a.t7 c.G9) b g K))
def b2f [PanQ] (x0:b7) (H:Hp) (K:m7→b7→Hp→Prop):Prop:=
 u6 x0 ⟨#[97,114,114,97,121]⟩ H (fun d i=>
 a3q (b7.mk x0.fl (IntKind.wrap .i64 (x0.fn+1))) 1 i (fun c e f=>
 (d=true→
 C6 e ⟨#[91]⟩ f (fun b j=>
 C0 b j (fun a g=>
 ((((!decide (a.d8=2))||(decide (a.G9 < 1)))||(decide (2147483647 < a.G9)))=true→
 E6 b g (fun k=>
 a0q b (m7.mk c.C3 0) (m7.mk ⟨#[]⟩ 0) k K))∧
 ((((!decide (a.d8=2))||(decide (a.G9 < 1)))||(decide (2147483647 < a.G9)))=false→
 a0q b (m7.mk c.C3 0) (m7.mk ⟨#[]⟩ 0) g K))))∧
 (d=false→
 V0 e (m7.mk c.C3 0) (m7.mk ⟨#[]⟩ 0) f K)))
theorem b2g [PanQ] (x0:b7) {H:Hp} {K:m7→b7→Hp→Prop} (h:b2f x0 H K):a3r x0 H K:=by
 intro g0
 refine Ct.ofE fun w0 w ps0 H0 R E I hR hE=>d2I ?_
 refine o7 I Tryz.zeroValue68 (cs:=[(eS),(vi 0)]) rfl fun e ak n al=>?_
 refine f9 Tryz.call53 (h g0) (n.bring 1) ?_
 rintro _ _ _ am i _ _ ⟨an,rfl,rfl,h⟩
 refine a7 (o3 _) (a7 a5P (c8 (l1 Tryz.isAgg3 i rfl) (a7 pAd (a7 (o3 _) ?_))))
 refine a7 a5P ?_
 refine A9 i Tryz.sizeOf3 fun ao o ap=>?_
 refine A7 hE Tryz.call102 (h g0) o ?_
 rintro _ p _ aq q _ _ ⟨c,r,rfl,rfl,h⟩
 refine a7 b9Y (a7 (b6R _) ?_)
 refine o7 q Tryz.zeroValue68 (cs:=[(eS),(vi 0)]) rfl fun f ar s au=>?_
 refine o9 s Tryz.sizeOf68 (vs:=[(Value.string c.C3),(vi 0)]) fun av j aw=>?_
 have hj1:∀(p1:b7)(d:m7) H w (_:Inv w0 ps0 H0 H [bx g0 101 (g8 p1),bx f 68 (u5 d),bx e 68 [(Value.string (m7.mk ⟨#[]⟩ 0).t7),(vi (m7.mk ⟨#[]⟩ 0).a1u)]] w) (_:V0 p1 d (m7.mk ⟨#[]⟩ 0) H K),c4V (Value.pointer (some ⟨g0,0,none⟩)) (Value.pointer (some ⟨e,0,none⟩)) (Value.pointer (some ⟨f,0,none⟩)) w R E:=by
  intro p1 d H w I h
  intro _
  refine A7 hE Tryz.call103 (h g0) I ?_
  rintro _ t _ ax k _ _ ⟨u,rfl,rfl,h⟩
  refine c8 (lW Tryz.isAgg68 Tryz.sizeOf68 rfl (k.bring 1)) ?_
  refine o9 (k.bring 2) Tryz.sizeOf68 (vs:=(u5 d)) fun ay l az=>?_
  refine q8 Tryz.isAgg68 Tryz.sizeOf68 rfl l ?_
  exact hR _ t _ _ (l.drop.bring 1).drop ⟨d,u,rfl,rfl,h⟩
 refine p7 fun j1 hx1=>?_
 refine l9 h (fun _ h=>?_) (fun _ h=>?_)
 ·refine A7 hE Tryz.call103 (h g0) (j.bring 1) ?_
  rintro _ _ _ ba v _ _ ⟨m,rfl,rfl,h⟩
  have hj2:∀H w (_:Inv w0 ps0 H0 H [bx g0 101 (g8 m),bx f 68 [(Value.string (m7.mk c.C3 0).t7),(vi (m7.mk c.C3 0).a1u)],bx e 68 [(Value.string (m7.mk ⟨#[]⟩ 0).t7),(vi (m7.mk ⟨#[]⟩ 0).a1u)]] w) (_:a0q m (m7.mk c.C3 0) (m7.mk ⟨#[]⟩ 0) H K),c4W (Value.pointer (some ⟨g0,0,none⟩)) (Value.pointer (some ⟨e,0,none⟩)) (Value.pointer (some ⟨f,0,none⟩)) w j1 R E:=by
   intro H w I h
   intro _
   refine A7 hE Tryz.call104 (h g0) I ?_
   rintro _ _ _ bb y _ _ ⟨z,bc,rfl,rfl,h⟩
   refine a7 b9Z (a7 a8j ?_)
   refine A9 (y.bring 1) Tryz.sizeOf3 fun bd aa be=>?_
   refine A7 hE Tryz.call103 (h g0) (aa.bring 1) ?_
   rintro _ ab _ bf ac _ _ ⟨ad,rfl,rfl,h⟩
   exact hx1 _ _ (hj1 ad (m7.mk (m7.mk c.C3 0).t7 z.G9) ab _ (((ac.bring 2).bring 2).bring 2) h)
  refine p7 fun j2 hx2=>?_
  refine f9 Tryz.call51 (h g0) v ?_
  rintro _ ae _ bg af _ _ ⟨ag,rfl,rfl,h⟩
  refine o7 af Tryz.zeroValue103 (cs:=[(vi 0),(eS),(vi 0),(vi 0),(vi 0)]) rfl fun bh bi ah bj=>?_
  refine o9 ah Tryz.sizeOf103 (vs:=(i8 ag)) fun bk b bl=>?_
  refine a7 W6 (c8 (l1 Tryz.isAgg3 b rfl) (a7 pNe ?_))
  refine a7 (Pu.g fun a=>by with_reducible exact a3X) ?_
  refine c8 (Ld.g fun a=>by simp only [g9 a];exact (l1 Tryz.isAgg2 b rfl)) ?_
  refine a7 (Pu.g fun a=>by simp only [g9 a];with_reducible exact pLs) ?_
  refine a7 (y8 _ _) ?_
  refine a7 (Pu.g fun a=>by with_reducible exact a3X) ?_
  refine c8 (Ld.g fun a=>by simp only [g9 a];exact (l1 Tryz.isAgg2 b rfl)) ?_
  refine a7 (Pu.g fun a=>by simp only [g9 a];with_reducible exact pGt) ?_
  refine a7 (y8 _ _) ?_
  refine l9 h (fun _ h=>?_) (fun _ h=>?_)
  ·refine A7 hE Tryz.call52 (h g0) (b.bring 1) ?_
   rintro _ ai _ bm aj _ _ ⟨rfl,rfl,h⟩
   exact hx2 _ _ (hj2 ai _ ((((aj.bring 1).drop.bring 2).bring 2).bring 2) h)
  ·exact hx2 _ _ (hj2 ae _ (((b.drop.bring 2).bring 2).bring 2) h)
 ·exact hx1 _ _ (hj1 r (m7.mk c.C3 0) p _ (((j.bring 2).bring 1).bring 2) h)
def a2l [PanQ] (G8:b7) (f:(List m7)) (g:(List b9)) (i:l8) (H:Hp) (K:l8→b7→Hp→Prop):Prop:=
 ∀(a:Sl)(d:Hp),Hle H d→SlH d 2 u5 a f→a.n≤a.c→
 ∀(b:Sl)(e:Hp),Hle d e→SlH e 6 m6 b g→b.n≤b.c→
 K (l8.mk a b) G8 e
def a2m [PanQ] (f:(List m7)) (a0M:b7) (a:(List b9)) (b:l8) (H:Hp) (n3:(b7×(List b9)×l8)→Hp→Prop) (K:l8→b7→Hp→Prop):Prop:=
 C0 a0M H (fun c d=>
 (¬(c.d8=5)→
 R4 a0M d (fun g i=>
 D2 a0M 1 g i (fun j=>
 Y2 a0M 1 j (fun e k l=>
 (a.length+([e]:List b9).length)*121≤140737488355328∧
 n3 (k,(a++[e]),b) l))))∧
 (c.d8=5→
 a2l a0M f a b d K))
def a2o [PanQ] (p1:b7) (a:(List m7)) (b:(List b9)) (c:l8) (H:Hp) (K:l8→b7→Hp→Prop):Prop:=
 TL ((p1,b,c):b7×(List b9)×l8) H fun(s:b7×(List b9)×l8) H n3=>a2m a s.1 s.2.1 s.2.2 H n3 K
def a2p [PanQ] (a:(List m7)) (c:(List b9)) (d:l8) (S1:b7) (H:Hp) (n4:((List m7)×(List b9)×l8×b7)→Hp→Prop) (K:l8→b7→Hp→Prop):Prop:=
 u6 S1 ⟨#[118,97,114]⟩ H (fun b e=>
 TG (b=false) (u6 S1 ⟨#[97,114,114,97,121]⟩ e) false e (fun(f:Bool)(g:Hp)=>
 ((b||f)=true→
 a3r S1 g (fun i j k=>
 (a.length+([i]:List m7).length)*25≤140737488355328∧
 n4 ((a++[i]),c,d,j) k))∧
 ((b||f)=false→
 a2o S1 a c d g K)))
def a7p [PanQ] (x0:b7) (H:Hp) (K:l8→b7→Hp→Prop):Prop:=
 TL (([],[],(l8.mk (Sl.mk none 0 0) (Sl.mk none 0 0)),x0):(List m7)×(List b9)×l8×b7) H fun(s:(List m7)×(List b9)×l8×b7) H n4=>a2p s.1 s.2.1 s.2.2.1 s.2.2.2 H n4 K
theorem b2h [PanQ] (x0:b7) {H:Hp} {K:l8→b7→Hp→Prop} (h:a7p x0 H K):a3s x0 H K:=by
 intro g0
 refine Ct.ofE fun w0 w ps0 H0 R E I hR hE=>d2g ?_
 refine o7 I Tryz.zeroValue26 (cs:=[(nS),(nS)]) rfl fun p dn bp dp=>?_
 refine o7 bp Tryz.zeroValue26 (cs:=[(nS),(nS)]) rfl fun q dq bq dr=>?_
 have hj1:∀(p1:b7)(r:(List m7))(ac:(List b9))(ad:l8)(j:Sl)(t:Frag)(ae:Sl)(af:Frag) H w (_:RowL 68 2 u5 j r t) (_:RowL 56 6 m6 ae ac af) (_:Inv w0 ps0 H0 H [bx g0 101 (g8 p1),bx q 26 [(vs j),(vs ae)],bx p 26 (p5 ad),t,af] w) (_:a2o p1 r ac ad H K),c4D (Value.pointer (some ⟨g0,0,none⟩)) (Value.pointer (some ⟨p,0,none⟩)) (Value.pointer (some ⟨q,0,none⟩)) w R E:=by
  intro p1 r ac ad j t ae af H w br bs I h
  intro _
  have hj2:∀(G8:b7)(am:(List m7))(an:(List b9))(ao:l8)(ap:Frag)(m:Sl)(aq:Frag) H w (_:RowL 68 2 u5 j am ap) (_:RowL 56 6 m6 m an aq) (_:Inv w0 ps0 H0 H [bx g0 101 (g8 G8),bx q 26 [(vs j),(vs m)],bx p 26 (p5 ao),ap,aq] w) (_:a2l G8 am an ao H K),c4C (Value.pointer (some ⟨p,0,none⟩)) (Value.pointer (some ⟨q,0,none⟩)) w R E:=by
   intro G8 am an ao ap m aq H w bt bu I h
   intro _
   refine c8 (ldA Tryz.isAgg26 Tryz.sizeOf26 rfl ((I.bring 1).at1 (o:=0) (vs:=[(vs j),(vs m)]) (nb rfl) rfl)) ?_
   refine o9 (I.bring 2) Tryz.sizeOf26 (vs:=[(vs j),(vs m)]) fun ds az dt=>?_
   refine q8 Tryz.isAgg26 Tryz.sizeOf26 rfl az ?_
   obtain ⟨bv,bw,bz,ca,cb⟩:=Inv.freezeC (az.bring 3) bt (by decide)
   replace h:=h j bv bz ca cb
   obtain ⟨ba,cc,cd,ce,cf⟩:=Inv.freezeC (bw.bring 3) bu (by decide)
   replace h:=h m ba cd ce cf
   exact hR _ ba _ _ (cc.drop.bring 1).drop ⟨(l8.mk j m),G8,rfl,rfl,h⟩
  refine p7 fun j2 hx2=>?_
  obtain ⟨ar,u,cg,ch⟩:=h
  refine U0 (J:=fun n l w=>∃(s:b7×(List b9)×l8)(H:Hp)(v:Sl)(ag:Frag),n=u s∧l=(match s with | (a0M,f,k)=>[])∧(match s with | (a0M,f,k)=>RowL 56 6 m6 v f ag)∧(match s with | (a0M,f,k)=>Inv w0 ps0 H0 H [bx g0 101 (g8 a0M),bx q 26 [(vs j),(vs v)],bx p 26 (p5 k),t,ag] w)∧ar s H) ⟨_,(p1,ac,ad),H,ae,af,rfl,rfl,bs,(((((I.bring 4).bring 4).bring 4).bring 4).bring 4),cg⟩ ?_
  rintro du dv w next3 ⟨⟨a0M,f,k⟩,H,v,ag,rfl,bb,au,I,ci⟩ hn3
  dsimp only at bb I au
  clear bb
  obtain ⟨n3,hm3,h⟩:∃n3:(b7×(List b9)×l8)→Hp→Prop,(∀s' H',n3 s' H'→ar s' H'∧u s' < u (a0M,f,k))∧a2m r a0M f k H n3 K:=⟨_,fun _ _ h=>h,ch (a0M,f,k) H (fun s' H'=>ar s' H'∧u s' < u (a0M,f,k)) ci (fun _ _ a b=>⟨a,b⟩)⟩
  refine f9 Tryz.call51 (h g0) I ?_
  rintro _ cj _ dw bc _ _ ⟨dx,rfl,rfl,h⟩
  refine a7 a6p (a7 pNe ?_)
  refine Z9 h (fun _ h=>?_) (fun _ h=>?_)
  ·refine f9 Tryz.call56 (h g0) bc ?_
   rintro _ _ _ dy ck _ _ ⟨dz,rfl,rfl,h⟩
   refine A7 hE Tryz.call55 (h g0) ck ?_
   rintro _ _ _ ea cl _ _ ⟨rfl,rfl,h⟩
   refine O6 cl fun eb ah=>?_
   refine o5 X8 ?_
   refine u1 (l1 Tryz.isAgg24 (ah.bring 1) rfl) ?_
   refine A7 hE Tryz.call57 (h g0) ah ?_
   rintro _ cm _ ec bd _ cn ⟨be,co,rfl,rfl,h⟩
   refine ⟨(cn _ (ah.bring 1).lt1 (Inv.X0 (Fi:=[bx g0 101 (g8 a0M)]) ((ah.bring 1).bring 1))),?_⟩
   refine Q9 (e:=56) (c:=m6) (xs:=[be]) bd (b6d _ _ _ _ _ _ _ _ _ _ _ _ _ _) rfl rfl a1Z a2b (nb rfl) fun ed ee ef cp bf cq=>?_
   refine ⟨(cq _ (bd.bring 1).lt1),?_⟩
   obtain ⟨cr,h⟩:=h
   refine b7z (s:=v) (xs:=f) (bf.bring 5) au (cp.srcO ((bf.bring 5).bring 1)) cr fun ct cu eg cv cw eh=>?_
   refine o5 X8 ?_
   refine A9 ((cw.bring 1).drop.bring 2) Tryz.sizeOf24 fun ei cx ej=>?_
   exact hn3 _ _ _ (hm3 _ _ h).2 ⟨(co,(f++[be]),k),cm,ct,cu,rfl,rfl,cv,(((((cx.bring 1).bring 4).bring 4).bring 3).bring 4),(hm3 _ _ h).1⟩
  ·exact hx2 _ _ (hj2 a0M r f k t v ag cj _ br au (((((bc.bring 4).bring 4).bring 4).bring 4).bring 4) h)
 refine p7 fun j1 hx1=>?_
 obtain ⟨av,y,cy,cz⟩:=h
 refine U0 (J:=fun n l w=>∃(s:(List m7)×(List b9)×l8×b7)(H:Hp)(z:Sl)(ai:Frag)(aa:Sl)(ab:Frag),n=y s∧l=(match s with | (d,g,i,S1)=>[])∧(match s with | (d,g,i,S1)=>RowL 68 2 u5 z d ai)∧(match s with | (d,g,i,S1)=>RowL 56 6 m6 aa g ab)∧(match s with | (d,g,i,S1)=>Inv w0 ps0 H0 H [bx q 26 [(vs z),(vs aa)],bx p 26 (p5 i),bx g0 101 (g8 S1),ai,ab] w)∧av s H) ⟨_,([],[],(l8.mk (Sl.mk none 0 0) (Sl.mk none 0 0)),x0),H,(Sl.mk none 0 0),[],(Sl.mk none 0 0),[],rfl,rfl,(RowL.nil a8U a8V),(RowL.nil a1Z a2b),((((bq.nil.nil.bring 1).bring 4).bring 4).bring 4),cy⟩ ?_
 rintro ek el w next4 ⟨⟨d,g,i,S1⟩,H,z,ai,aa,ab,rfl,bg,aw,ax,I,da⟩ hn4
 dsimp only at bg I aw ax
 clear bg
 obtain ⟨n4,hm4,h⟩:∃n4:((List m7)×(List b9)×l8×b7)→Hp→Prop,(∀s' H',n4 s' H'→av s' H'∧y s' < y (d,g,i,S1))∧a2p d g i S1 H n4 K:=⟨_,fun _ _ h=>h,cz (d,g,i,S1) H (fun s' H'=>av s' H'∧y s' < y (d,g,i,S1)) da (fun _ _ a b=>⟨a,b⟩)⟩
 refine f9 Tryz.call53 (h g0) (I.bring 2) ?_
 rintro _ _ _ em bh _ _ ⟨en,rfl,rfl,h⟩
 simp only [p8]
 refine C5 [bx g0 101 (g8 S1)] (fun aj:Bool=>(vB aj)) h bh (fun bl h=>by simp only [g9 bl];exact D5 Tryz.call53 (h g0) bh) fun aj ay db ak bj bk h=>?_
 refine a7 (y8 _ _) ?_
 refine l9 h (fun _ h=>?_) (fun _ h=>?_)
 ·refine O6 ak fun eo al=>?_
  refine o5 T5 ?_
  refine u1 (l1 Tryz.isAgg23 (al.bring 1) rfl) ?_
  refine A7 hE Tryz.call54 (h g0) al ?_
  rintro _ dc _ ep bm _ dd ⟨bn,de,rfl,rfl,h⟩
  refine ⟨(dd _ (al.bring 1).lt1 (Inv.X0 (Fi:=[bx g0 101 (g8 S1)]) ((al.bring 1).bring 1))),?_⟩
  refine Q9 (e:=68) (c:=u5) (xs:=[bn]) bm (c1I _ _) rfl rfl a8U a8V (nb rfl) fun eq er es df bo dg=>?_
  refine ⟨(dg _ (bm.bring 1).lt1),?_⟩
  obtain ⟨dh,h⟩:=h
  refine c4n (s:=z) (xs:=d) (bo.bring 4) aw (df.srcO ((bo.bring 4).bring 1)) dh fun di dj et dk dl eu=>?_
  refine o5 T5 ?_
  refine A9 ((dl.bring 1).drop.bring 2) Tryz.sizeOf23 fun ev dm ew=>?_
  exact hn4 _ _ _ (hm4 _ _ h).2 ⟨((d++[bn]),g,i,de),dc,di,dj,aa,ab,rfl,rfl,dk,ax,(((((dm.bring 4).bring 2).bring 3).bring 4).bring 4),(hm4 _ _ h).1⟩
 ·exact hx1 _ _ (hj1 S1 d g i z ai aa ab ay _ aw ax (((((ak.bring 4).bring 4).bring 4).bring 4).bring 4) h)
def a7V(x0:j8)(a:(List b6))(H:Hp)(K:j8→(List b6)→Hp→Prop):Prop:=
 V9 (z8 x0) a H (fun e f=>
 a0Q e f (fun b c d=>
 (b=10→
 K (j8.mk x0.fs (IntKind.wrap .i64 (x0.fn+c)) (b8.mk (IntKind.wrap .i64 (x0.fat.B9+1)) 1) (Sl.mk none 0 0)) a d)∧
 (¬(b=10)→
 K (j8.mk x0.fs (IntKind.wrap .i64 (x0.fn+c)) (b8.mk x0.fat.B9 (IntKind.wrap .i64 (x0.fat.K8+1))) (Sl.mk none 0 0)) a d)))
theorem b3q(x0 a){H K}(h:a7V x0 a H K):K9 x0 a H K:=by
 intro g0 b d e
 refine Ct.of fun w0 w ps0 H0 R E I hR=>d0e ?_
 refine f9 Tryz.call135 (h g0 b d e) ((I.bring 1).bring 1) ?_
 rintro _ _ _ n k _ _ ⟨o,rfl,rfl,h⟩
 refine f9 Tryz.call128 h k ?_
 rintro _ g _ p i _ _ ⟨l,c,rfl,rfl,h⟩
 refine a7 (m5 _ _ (Value.int .i32 l) rfl) (a7 (m5 _ _ (vi c) rfl) (a7 (o3 _) (a7 a0v (c8 (l1 Tryz.isAgg3 i rfl) ?_))))
 refine a7 pAd (a7 (o3 _) (a7 a0v ?_))
 refine A9 i Tryz.sizeOf3 fun q j r=>?_
 refine a7 (o3 _) (a7 a7r (a7 a5C (c8 (l1 Tryz.isAgg3 j rfl) (a7 pAd ?_))))
 refine a7 (o3 _) (a7 a7r (a7 a5C ?_))
 refine A9 j Tryz.sizeOf3 fun s f t=>?_
 refine a7 pEq ?_
 refine m0 h (fun _ h=>?_) (fun _ h=>?_)
 ·refine a7 (o3 _) (a7 a7r (a7 a9V (c8 (l1 Tryz.isAgg3 f rfl) (a7 pAd ?_))))
  refine a7 (a7a _ _) (a7 (o3 _) (a7 a7r ?_))
  refine G7 f Tryz.sizeOf28 (vs:=[(vi (IntKind.wrap .i64 (x0.fat.B9+1))),(vi 1)]) (cs':=[(Value.string x0.fs),(vi (IntKind.wrap .i64 (x0.fn+c))),(vi (IntKind.wrap .i64 (x0.fat.B9+1))),(vi 1),(vs b)]) rfl rfl (nb rfl) rfl rfl fun u m v=>?_
  exact hR _ g _ _ ((m.bring 1).bring 1) ⟨(j8.mk x0.fs (IntKind.wrap .i64 (x0.fn+c)) (b8.mk (IntKind.wrap .i64 (x0.fat.B9+1)) 1) (Sl.mk none 0 0)),a,b,d,rfl,rfl,e,h⟩
 ·exact hR _ g _ _ ((f.bring 1).bring 1) ⟨(j8.mk x0.fs (IntKind.wrap .i64 (x0.fn+c)) (b8.mk x0.fat.B9 (IntKind.wrap .i64 (x0.fat.K8+1))) (Sl.mk none 0 0)),a,b,d,rfl,rfl,e,h⟩
def a7W(x0:S0)(H:Hp)(K:Sl→Hp→Prop):Prop:=
 C2 x0.z7.G4 H (fun a b=>
 K a b)
theorem b3r(x0){H K}(h:a7W x0 H K):a7H x0 H K:=by
 refine Ct.of fun w0 w ps0 H0 R E I hR=>d0q ?_
 refine Q1 I (cs:=(g7 x0.z7)) rfl fun e f a g=>?_
 refine a7 a1I (a7 a0V (c8 (l1 Tryz.isAgg38 a rfl) ?_))
 refine f9 Tryz.call207 h a ?_
 rintro _ b _ i c _ _ ⟨d,rfl,rfl,h⟩
 exact hR _ b _ _ c.drop ⟨d,rfl,rfl,h⟩
def b0p(x0:f8)(H:Hp)(K:k7→Hp→Prop):Prop:=
 K (k7.S3 (a0b.mk x0)) H
theorem b5a(x0){H K}(h:b0p x0 H K):a9Z x0 H K:=by
 refine Ct.of fun w0 w ps0 H0 R E I hR=>d0y ?_
 refine Q1 I (cs:=(i7 x0)) rfl fun b c a d=>?_
 refine c8 (lW Tryz.isAgg49 Tryz.sizeOf49 rfl a) (a7 (c0f _ _ _ _ _ _ _ _) (a7 (b8n (a0b.mk x0)) ?_))
 exact hR _ H _ _ a.drop ⟨_,rfl,rfl,h⟩
def a7X(x0:a0U)(H:Hp)(K:Sl→Hp→Prop):Prop:=
 K (Sl.mk none 0 0) H
theorem b3s(x0){H K}(h:a7X x0 H K):a7J x0 H K:=by
 refine Ct.of fun w0 w ps0 H0 R E I hR=>d0A ?_
 refine Q1 I (cs:=(u5 x0.a2q)) rfl fun b c a d=>?_
 exact hR _ H _ _ a.drop ⟨_,rfl,rfl,h⟩
end Go.Proofs.YthklmeihgmcljaaGreatDoor
