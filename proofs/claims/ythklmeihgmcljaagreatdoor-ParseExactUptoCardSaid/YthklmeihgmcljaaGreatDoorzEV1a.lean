/- Typed formulas of the program's functions, and the theorems that the contracts follow from them; printed by lift.py off the code. -/
import Derived.Test.YthklmeihgmcljaaGreatDoorzEV1
namespace Go.Proofs.YthklmeihgmcljaaGreatDoor
open Go.RowKit
set_option maxRecDepth 100000
set_option maxHeartbeats 2000000
def a8Y(x0:a8)(x1:Int)(H:Hp)(K:a8→Hp→Prop):Prop:=
 (x0.fbad=0→
 B8 (a8.mk x0.fl x0.fat x1 x0.fpos) H (fun a b=>
 K (a8.mk x0.fl x0.fat x1 a.fAt) b))∧
 (¬(x0.fbad=0)→
 K x0 H)
theorem a4q(x0 x1){H K}(h:a8Y x0 x1 H K):A5 x0 x1 H K:=by
 intro g0
 refine Ct.of fun w0 w ps0 H0 R E I hR=>d2Z ?_
 refine a7 (o3 _) (a7 V4 (c8 (l1 Tryz.isAgg3 I rfl) (a7 pEq ?_)))
 refine m0 h (fun _ h=>?_) (fun _ h=>?_)
 ·refine a7 (o3 _) (a7 V4 ?_)
  refine A9 I Tryz.sizeOf3 fun f b g=>?_
  refine f9 Tryz.call63 (h g0) b ?_
  rintro _ c _ i d _ _ ⟨a,rfl,rfl,h⟩
  refine a7 b2Q (a7 (o3 _) (a7 b7y ?_))
  refine G7 d Tryz.sizeOf28 (vs:=(l7 a.fAt)) (cs':=[(vs x0.fl),(vi x0.fat),(vi x1),(vi a.fAt.B9),(vi a.fAt.K8)]) rfl rfl (nb rfl) rfl rfl fun j e k=>?_
  exact hR _ c _ _ e ⟨_,rfl,rfl,h⟩
 ·exact hR _ H _ _ I ⟨x0,rfl,rfl,h⟩
def a0y(H:Hp)(K:Int→Hp→Prop):Prop:=
 K 6 H
def a0z(M8:Int)(a5R:ByteArray)(Q3:Int)(H:Hp)(n2:Int→Hp→Prop)(K:Int→Hp→Prop):Prop:=
 (Q3 < (a5R.size:Int)→
 (0:Int)≤Q3∧Q3 < (a5R.size:Int)∧
 (M8=(IntKind.wrap .i64 ((a5R.get! (Q3:Int).toNat).toNat:Int))→
 K 5 H)∧
 (¬(M8=(IntKind.wrap .i64 ((a5R.get! (Q3:Int).toNat).toNat:Int)))→
 n2 (IntKind.wrap .i64 (Q3+1)) H))∧
 (¬(Q3 < (a5R.size:Int))→
 a0y H K)
def a3Q(x0:Int)(H:Hp)(K:Int→Hp→Prop):Prop:=
 ((((decide (x0=32))||(decide (x0=9)))||(decide (x0=13)))=true→
 K 1 H)∧
 ((((decide (x0=32))||(decide (x0=9)))||(decide (x0=13)))=false→
 (x0=10→
 K 2 H)∧
 (¬(x0=10)→
 G5 x0 48 57 H (fun e f=>
 (e=true→
 K 4 f)∧
 (e=false→
 G5 x0 97 122 f (fun a g=>
 TG (a=false) (G5 x0 65 90 g) false g (fun(b:Bool)(i:Hp)=>
 TG (((a||b)||(decide (x0=95)))=false) (G5 x0 192 591 i) false i (fun(c:Bool)(j:Hp)=>
 TG ((((a||b)||(decide (x0=95)))||((c&&(!decide (x0=215)))&&(!decide (x0=247))))=false) (G5 x0 913 969 j) false j (fun(d:Bool)(k:Hp)=>
 TG (((((a||b)||(decide (x0=95)))||((c&&(!decide (x0=215)))&&(!decide (x0=247))))||(d&&(!decide (x0=930))))=false) (G5 x0 1040 1103 k) false k (fun(l:Bool)(m:Hp)=>
 ((((((a||b)||(decide (x0=95)))||((c&&(!decide (x0=215)))&&(!decide (x0=247))))||(d&&(!decide (x0=930))))||l)=true→
 K 3 m)∧
 ((((((a||b)||(decide (x0=95)))||((c&&(!decide (x0=215)))&&(!decide (x0=247))))||(d&&(!decide (x0=930))))||l)=false→
 TL (0:Int) m fun(s:Int) H n2=>a0z x0 ⟨#[59,44,123,125,40,41,91,93,61,33,60,62,43,45,42,47,37,38,124]⟩ s H n2 K))))))))))
theorem a7t(x0){H K}(h:a3Q x0 H K):a0f x0 H K:=by
 refine Ct.of fun w0 w ps0 H0 R E I hR=>c9V ?_
 refine a7 pEq ?_
 simp only [p8]
 refine a7 (Pu.g fun a=>by simp only [g9 a];with_reducible exact pEq) ?_
 refine a7 (y8 _ _) ?_
 simp only [p8]
 refine a7 (Pu.g fun a=>by simp only [g9 a];with_reducible exact pEq) ?_
 refine a7 (y8 _ _) ?_
 refine l9 h (fun _ h=>?_) (fun _ h=>?_)
 ·exact hR _ H _ _ I ⟨1,rfl,rfl,h⟩
 ·refine a7 pEq ?_
  refine m0 h (fun _ h=>?_) (fun _ h=>?_)
  ·exact hR _ H _ _ I ⟨2,rfl,rfl,h⟩
  ·refine f9 Tryz.call159 h I ?_
   rintro _ ai _ ap o _ _ ⟨aq,rfl,rfl,h⟩
   refine l9 h (fun _ h=>?_) (fun _ h=>?_)
   ·exact hR _ ai _ _ o ⟨4,rfl,rfl,h⟩
   ·refine f9 Tryz.call159 h o ?_
    rintro _ _ _ ar p _ _ ⟨au,rfl,rfl,h⟩
    simp only [p8]
    refine C5 [] (fun c:Bool=>(vB c)) h p (fun a h=>by simp only [g9 a];exact D5 Tryz.call159 h p) fun c r aj d s t h=>?_
    refine a7 (y8 _ _) ?_
    simp only [p8]
    refine a7 (Pu.g fun a=>by simp only [g9 a];with_reducible exact pEq) ?_
    refine a7 (y8 _ _) ?_
    simp only [p8]
    refine C5 [] (fun f:Bool=>(vB f)) h d (fun a h=>by simp only [g9 a];exact D5 Tryz.call159 h d) fun f v ak i y z h=>?_
    simp only [a3K,b2O]
    refine a7 (Pu.e (a0N _ _ _) (Pu.g fun hb=>by obtain ⟨a,b⟩:=a3J hb;simp only [g9 hb];with_reducible exact pNe)) ?_
    refine a7 (Pu.g fun a=>by simp only [g9 a,a9R a];with_reducible exact (s6 _ _)) ?_
    simp only [a3K,b2O]
    refine a7 (Pu.e (a0N _ _ _) (Pu.g fun hb=>by obtain ⟨a,b⟩:=a3J hb;simp only [g9 hb];with_reducible exact pNe)) ?_
    refine a7 (Pu.g fun a=>by simp only [g9 a,a9R a];with_reducible exact (s6 _ _)) ?_
    refine a7 (y8 _ _) ?_
    simp only [p8]
    refine C5 [] (fun j:Bool=>(vB j)) h i (fun a h=>by simp only [g9 a];exact D5 Tryz.call159 h i) fun j ab al k ac ad h=>?_
    simp only [a3K,b2O]
    refine a7 (Pu.e (a0N _ _ _) (Pu.g fun hb=>by obtain ⟨a,b⟩:=a3J hb;simp only [g9 hb];with_reducible exact pNe)) ?_
    refine a7 (Pu.g fun a=>by simp only [g9 a,a9R a];with_reducible exact (s6 _ _)) ?_
    refine a7 (y8 _ _) ?_
    simp only [p8]
    refine C5 [] (fun l:Bool=>(vB l)) h k (fun a h=>by simp only [g9 a];exact D5 Tryz.call159 h k) fun l n am m af ag h=>?_
    refine a7 (y8 _ _) ?_
    refine l9 h (fun _ h=>?_) (fun _ h=>?_)
    ·exact hR _ n _ _ m ⟨3,rfl,rfl,h⟩
    ·have hj1:∀H w (_:Inv w0 ps0 H0 H [] w) (_:a0y H K),c2m w R E:=by
      intro H w I h
      intro _
      exact hR _ H _ _ I ⟨6,rfl,rfl,h⟩
     refine p7 fun j1 hx1=>?_
     refine A4 (σ:=Int) (fun Q3=>[(vi Q3)]) (fun Q3=>[]) h rfl m ?_
     rintro Q3 H av w next2 n2 ah I h hn2
     simp only [List.map_cons,List.map_nil,List.cons.injEq,and_true] at ah
     have e4:=ah
     simp only [e4]
     refine a7 (X9 _) (a7 pLs ?_)
     refine m0 h (fun _ h=>?_) (fun _ h=>?_)
     ·obtain ⟨an,ao,h⟩:=h
      refine a7 (a3j _ _ _ an ao) (a7 (b5I _ _) (a7 pEq ?_))
      refine m0 h (fun _ h=>?_) (fun _ h=>?_)
      ·exact hR _ H _ _ I ⟨5,rfl,rfl,h⟩
      ·refine a7 pAd ?_
       exact hn2 (IntKind.wrap .i64 (Q3+1)) _ _ h I
     ·exact hx1 _ _ (hj1 H _ I h)
def o2(y5:Bool)(H:Hp)(K:Bool→Hp→Prop):Prop:=
 (y5=true→
 K true H)∧
 (y5=false→
 K false H)
def a4r(x0:ByteArray)(H:Hp)(K:Bool→Hp→Prop):Prop:=
 (x0=⟨#[118,97,114]⟩→
 o2 (decide (x0=⟨#[118,97,114]⟩)) H K)∧
 (¬(x0=⟨#[118,97,114]⟩)→
 (x0=⟨#[97,114,114,97,121]⟩→
 o2 (decide (x0=⟨#[97,114,114,97,121]⟩)) H K)∧
 (¬(x0=⟨#[97,114,114,97,121]⟩)→
 (x0=⟨#[105,102]⟩→
 o2 (decide (x0=⟨#[105,102]⟩)) H K)∧
 (¬(x0=⟨#[105,102]⟩)→
 (x0=⟨#[101,108,115,101]⟩→
 o2 (decide (x0=⟨#[101,108,115,101]⟩)) H K)∧
 (¬(x0=⟨#[101,108,115,101]⟩)→
 (x0=⟨#[119,104,105,108,101]⟩→
 o2 (decide (x0=⟨#[119,104,105,108,101]⟩)) H K)∧
 (¬(x0=⟨#[119,104,105,108,101]⟩)→
 (x0=⟨#[97,115,115,101,114,116]⟩→
 o2 (decide (x0=⟨#[97,115,115,101,114,116]⟩)) H K)∧
 (¬(x0=⟨#[97,115,115,101,114,116]⟩)→
 (x0=⟨#[97,115,115,117,109,101]⟩→
 o2 (decide (x0=⟨#[97,115,115,117,109,101]⟩)) H K)∧
 (¬(x0=⟨#[97,115,115,117,109,101]⟩)→
 (x0=⟨#[115,107,105,112]⟩→
 o2 (decide (x0=⟨#[115,107,105,112]⟩)) H K)∧
 (¬(x0=⟨#[115,107,105,112]⟩)→
 (x0=⟨#[105,110,112,117,116]⟩→
 o2 (decide (x0=⟨#[105,110,112,117,116]⟩)) H K)∧
 (¬(x0=⟨#[105,110,112,117,116]⟩)→
 (x0=⟨#[116,114,117,101]⟩→
 o2 (decide (x0=⟨#[116,114,117,101]⟩)) H K)∧
 (¬(x0=⟨#[116,114,117,101]⟩)→
 o2 (decide (x0=⟨#[102,97,108,115,101]⟩)) H K))))))))))
theorem a7L(x0){H K}(h:a4r x0 H K):a0u x0 H K:=by
 refine Ct.of fun w0 w ps0 H0 R E I hR=>c9j ?_
 have hj1:∀(y5:Bool) H w (_:Inv w0 ps0 H0 H [] w) (_:o2 y5 H K),c1R (vB y5) w R E:=by
  intro y5 H w I h
  intro _
  refine l9 h (fun _ h=>?_) (fun _ h=>?_)
  ·exact hR _ H _ _ I ⟨_,rfl,rfl,h⟩
  ·exact hR _ H _ _ I ⟨_,rfl,rfl,h⟩
 refine p7 fun j1 hx1=>?_
 refine a7 (G1 _ _ _ _ _) ?_
 refine m0 h (fun _ h=>?_) (fun _ h=>?_)
 ·exact hx1 _ _ (hj1 (decide (x0=⟨#[118,97,114]⟩)) H _ I h)
 ·refine a7 (G1 _ _ _ _ _) ?_
  refine m0 h (fun _ h=>?_) (fun _ h=>?_)
  ·exact hx1 _ _ (hj1 (decide (x0=⟨#[97,114,114,97,121]⟩)) H _ I h)
  ·refine a7 (G1 _ _ _ _ _) ?_
   refine m0 h (fun _ h=>?_) (fun _ h=>?_)
   ·exact hx1 _ _ (hj1 (decide (x0=⟨#[105,102]⟩)) H _ I h)
   ·refine a7 (G1 _ _ _ _ _) ?_
    refine m0 h (fun _ h=>?_) (fun _ h=>?_)
    ·exact hx1 _ _ (hj1 (decide (x0=⟨#[101,108,115,101]⟩)) H _ I h)
    ·refine a7 (G1 _ _ _ _ _) ?_
     refine m0 h (fun _ h=>?_) (fun _ h=>?_)
     ·exact hx1 _ _ (hj1 (decide (x0=⟨#[119,104,105,108,101]⟩)) H _ I h)
     ·refine a7 (G1 _ _ _ _ _) ?_
      refine m0 h (fun _ h=>?_) (fun _ h=>?_)
      ·exact hx1 _ _ (hj1 (decide (x0=⟨#[97,115,115,101,114,116]⟩)) H _ I h)
      ·refine a7 (G1 _ _ _ _ _) ?_
       refine m0 h (fun _ h=>?_) (fun _ h=>?_)
       ·exact hx1 _ _ (hj1 (decide (x0=⟨#[97,115,115,117,109,101]⟩)) H _ I h)
       ·refine a7 (G1 _ _ _ _ _) ?_
        refine m0 h (fun _ h=>?_) (fun _ h=>?_)
        ·exact hx1 _ _ (hj1 (decide (x0=⟨#[115,107,105,112]⟩)) H _ I h)
        ·refine a7 (G1 _ _ _ _ _) ?_
         refine m0 h (fun _ h=>?_) (fun _ h=>?_)
         ·exact hx1 _ _ (hj1 (decide (x0=⟨#[105,110,112,117,116]⟩)) H _ I h)
         ·refine a7 (G1 _ _ _ _ _) ?_
          refine m0 h (fun _ h=>?_) (fun _ h=>?_)
          ·exact hx1 _ _ (hj1 (decide (x0=⟨#[116,114,117,101]⟩)) H _ I h)
          ·refine a7 (G1 _ _ _ _ _) ?_
           exact hx1 _ _ (hj1 (decide (x0=⟨#[102,97,108,115,101]⟩)) H _ I h)
def a4s(a:d9)(E7:Int)(r9:d6)(H:Hp)(n2:(Int×d6)→Hp→Prop)(K:d6→Hp→Prop):Prop:=
 (((decide (E7 < (a.G4.n:Int)))&&r9.fok)=true→
 (0:Int)≤E7∧(E7:Int) < a.G4.n∧∃b:d9,EltH H a.G4 E7 4 (g7 b)∧
 U4 r9 b H (fun c d=>
 n2 ((IntKind.wrap .i64 (E7+1)),c) d))∧
 (((decide (E7 < (a.G4.n:Int)))&&r9.fok)=false→
 K r9 H)
def H9(y5:Int)(a:d9)(p1:d6)(H:Hp)(K:d6→Hp→Prop):Prop:=
 U3 p1 a.t7 ((decide (a.d8=2))||(decide (a.d8=4))) H (fun b c=>
 TL ((0,(d6.mk ((b.fok&&(decide ((a.G4.n:Int)=y5)))&&((decide (a.G9=0))||((decide (a.d8=1))&&(decide (0 < a.G9))))) b.fnames)):Int×d6) c fun(s:Int×d6) H n2=>a4s a s.1 s.2 H n2 K)
def E3(d8v:Int)(b6g:Bool)(a:d9)(c8t:d6)(H:Hp)(K:d6→Hp→Prop):Prop:=
 (b6g=true→
 H9 2 a c8t H K)∧
 (b6g=false→
 H9 d8v a (d6.mk false c8t.fnames) H K)
def R5(c0o:Int)(b0P:Int)(b6h:Bool)(a:d9)(a8W:d6)(H:Hp)(K:d6→Hp→Prop):Prop:=
 (b6h=true→
 H9 1 a a8W H K)∧
 (b6h=false→
 (b0P=6→
 E3 c0o (decide (b0P=6)) a a8W H K)∧
 (¬(b0P=6)→
 (b0P=7→
 E3 c0o (decide (b0P=7)) a a8W H K)∧
 (¬(b0P=7)→
 (b0P=8→
 E3 c0o (decide (b0P=8)) a a8W H K)∧
 (¬(b0P=8)→
 (b0P=9→
 E3 c0o (decide (b0P=9)) a a8W H K)∧
 (¬(b0P=9)→
 E3 c0o (decide (b0P=10)) a a8W H K)))))
def N2(c6W:Int)(a8Z:Int)(b3M:Bool)(a:d9)(Q4:d6)(H:Hp)(K:d6→Hp→Prop):Prop:=
 (b3M=true→
 H9 c6W a Q4 H K)∧
 (b3M=false→
 (a8Z=4→
 R5 c6W a8Z (decide (a8Z=4)) a Q4 H K)∧
 (¬(a8Z=4)→
 R5 c6W a8Z (decide (a8Z=5)) a Q4 H K))
def a5W(x0:d6)(x1:d9)(H:Hp)(K:d6→Hp→Prop):Prop:=
 (x1.d8=1→
 N2 0 x1.d8 (decide (x1.d8=1)) x1 x0 H K)∧
 (¬(x1.d8=1)→
 (x1.d8=2→
 N2 0 x1.d8 (decide (x1.d8=2)) x1 x0 H K)∧
 (¬(x1.d8=2)→
 N2 0 x1.d8 (decide (x1.d8=3)) x1 x0 H K))
theorem b0v(x0 x1){H K}(h:a5W x0 x1 H K):U4 x0 x1 H K:=by
 intro g0
 refine Ct.of fun w0 w ps0 H0 R E I hR=>d3F ?_
 refine Q1 I (cs:=(g7 x1)) rfl fun i u j v=>?_
 have hj1:∀(y5:Int)(p1:d6) H w (_:Inv w0 ps0 H0 H [bx i 40 (g7 x1),bx g0 123 (r7 p1)] w) (_:H9 y5 x1 p1 H K),c5y (Value.pointer (some ⟨g0,0,none⟩)) (Value.pointer (some ⟨i,0,none⟩)) (vi y5) w R E:=by
  intro y5 p1 H w I h
  intro _
  refine a7 a9U (c8 (l1 Tryz.isAgg9 I rfl) (a7 a1M (c8 (l1 Tryz.isAgg3 I rfl) (a7 pEq ?_))))
  refine a7 (Pu.g fun a=>by with_reducible exact a1M) ?_
  refine c8 (Ld.g fun a=>by simp only [g9 a];exact (l1 Tryz.isAgg3 I rfl)) ?_
  refine a7 (Pu.g fun a=>by simp only [g9 a];with_reducible exact pEq) ?_
  refine a7 (y8 _ _) ?_
  refine f9 Tryz.call71 (h g0) (I.bring 1) ?_
  rintro _ y _ z f _ _ ⟨aa,rfl,rfl,h⟩
  refine a7 (o3 _) (a7 K3 (c8 (l1 Tryz.isAgg4 f rfl) ?_))
  refine a7 (Pu.g fun a=>by with_reducible exact a0V) ?_
  refine c8 (Ld.g fun a=>by simp only [g9 a];exact (l1 Tryz.isAgg38 (f.bring 1) rfl)) ?_
  refine a7 (Pu.g fun a=>by simp only [g9 a];with_reducible exact (O4 _ _ _)) ?_
  simp only [p8]
  refine a7 (Pu.g fun a=>by simp only [g9 a];with_reducible exact pEq) ?_
  refine a7 (s6 _ _) ?_
  refine a7 (Pu.g fun a=>by with_reducible exact a8h) ?_
  refine c8 (Ld.g fun a=>by simp only [g9 a];exact (l1 Tryz.isAgg2 (f.bring 1) rfl)) ?_
  refine a7 (Pu.g fun a=>by simp only [g9 a];with_reducible exact pEq) ?_
  simp only [p8,a3K,b9T]
  refine a7 (Pu.e (U1 _ _ _) (Pu.g fun hb=>by obtain ⟨a,b⟩:=a0w hb;with_reducible exact a1M)) ?_
  refine c8 (Ld.e (U1 _ _ _) (Ld.g fun hb=>by obtain ⟨a,b⟩:=a0w hb;simp only [g9 hb];exact (l1 Tryz.isAgg3 (f.bring 1) rfl))) ?_
  refine a7 (Pu.e (U1 _ _ _) (Pu.g fun hb=>by obtain ⟨a,b⟩:=a0w hb;simp only [g9 hb];with_reducible exact pEq)) ?_
  simp only [a3K]
  refine a7 (Pu.e (b8k _ _ _) (Pu.g fun hb=>by obtain ⟨d,c⟩:=c3n hb;obtain ⟨a,b⟩:=a0w d;with_reducible exact a8h)) ?_
  refine c8 (Ld.e (b8k _ _ _) (Ld.g fun hb=>by obtain ⟨d,c⟩:=c3n hb;obtain ⟨a,b⟩:=a0w d;simp only [g9 hb];exact (l1 Tryz.isAgg2 (f.bring 1) rfl))) ?_
  refine a7 (Pu.e (b8k _ _ _) (Pu.g fun hb=>by obtain ⟨d,c⟩:=c3n hb;obtain ⟨a,b⟩:=a0w d;simp only [g9 hb];with_reducible exact pGt)) ?_
  refine a7 (Pu.e (U1 _ _ _) (Pu.g fun hb=>by obtain ⟨a,b⟩:=a0w hb;simp only [g9 hb,d1E hb];with_reducible exact (s6 _ _))) ?_
  refine a7 (Pu.g fun a=>by simp only [g9 a,a9Q a];with_reducible exact (y8 _ _)) ?_
  refine a7 (s6 _ _) (a7 (o3 _) (a7 K3 ?_))
  refine A9 f Tryz.sizeOf4 fun ab m ac=>?_
  refine A4 (σ:=Int×d6) (fun (E7,r9)=>[(vi E7)]) (fun (E7,r9)=>[bx g0 123 (r7 r9),bx i 40 (g7 x1)]) h rfl ((m.bring 1).bring 1) ?_
  rintro ⟨E7,r9⟩ H ad w next2 n2 k I h hn2
  dsimp only at k I h
  simp only [List.map_cons,List.map_nil,List.cons.injEq,and_true] at k
  have e5:=k
  simp only [e5]
  refine a7 a0V (c8 (l1 Tryz.isAgg38 (I.bring 1) rfl) (a7 (O4 _ _ _) (a7 pLs ?_)))
  simp only [p8]
  refine a7 (Pu.g fun a=>by simp only [g9 a];with_reducible exact (o3 _)) ?_
  refine a7 (Pu.g fun a=>by simp only [g9 a];with_reducible exact K3) ?_
  refine c8 (Ld.g fun a=>by simp only [g9 a];exact (l1 Tryz.isAgg4 I rfl)) ?_
  refine a7 (s6 _ _) ?_
  refine l9 h (fun _ h=>?_) (fun _ h=>?_)
  ·refine a7 a0V (c8 (l1 Tryz.isAgg38 (I.bring 1) rfl) ?_)
   obtain ⟨n,o,p,l,h⟩:=h
   obtain ⟨ae,af,q,l⟩:=l
   refine a7 (a1N q _ _ _ _ n o) (c8 (ldA (vs:=(g7 p)) Tryz.isAgg40 Tryz.sizeOf40 rfl (I.atH l)) ?_)
   refine f9 Tryz.call85 (h g0) I ?_
   rintro _ _ _ ag r _ _ ⟨s,rfl,rfl,h⟩
   refine a7 pAd ?_
   exact hn2 ((IntKind.wrap .i64 (E7+1)),s) _ _ h ((r.bring 1).bring 1)
  ·exact hR _ H _ _ (I.bring 1).drop ⟨r9,rfl,rfl,h⟩
 refine p7 fun j1 hx1=>?_
 refine a7 a1M (c8 (l1 Tryz.isAgg3 j rfl) ?_)
 have hj3:∀(b3M:Bool) H w (_:Inv w0 ps0 H0 H [bx i 40 (g7 x1),bx g0 123 (r7 x0)] w) (_:N2 0 x1.d8 b3M x1 x0 H K),c5B (Value.pointer (some ⟨g0,0,none⟩)) (Value.pointer (some ⟨i,0,none⟩)) (vi 0) (vi x1.d8) (vB b3M) w j1 R E:=by
  intro b3M H w I h
  intro _
  refine l9 h (fun _ h=>?_) (fun _ h=>?_)
  ·exact hx1 _ _ (hj1 0 x0 H _ ((I.bring 1).bring 1) h)
  ·have hj4:∀(b6h:Bool) H w (_:Inv w0 ps0 H0 H [bx i 40 (g7 x1),bx g0 123 (r7 x0)] w) (_:R5 0 x1.d8 b6h x1 x0 H K),c5A (Value.pointer (some ⟨g0,0,none⟩)) (Value.pointer (some ⟨i,0,none⟩)) (vi 0) (vi x1.d8) (vB b6h) w j1 R E:=by
    intro b6h H w I h
    intro _
    refine l9 h (fun _ h=>?_) (fun _ h=>?_)
    ·exact hx1 _ _ (hj1 1 x0 H _ ((I.bring 1).bring 1) h)
    ·have hj5:∀(b6g:Bool) H w (_:Inv w0 ps0 H0 H [bx i 40 (g7 x1),bx g0 123 (r7 x0)] w) (_:E3 0 b6g x1 x0 H K),c5z (Value.pointer (some ⟨g0,0,none⟩)) (Value.pointer (some ⟨i,0,none⟩)) (vi 0) (vB b6g) w j1 R E:=by
      intro b6g H w I h
      intro _
      refine l9 h (fun _ h=>?_) (fun _ h=>?_)
      ·exact hx1 _ _ (hj1 2 x0 H _ ((I.bring 1).bring 1) h)
      ·refine a7 (o3 _) (a7 K3 ?_)
       refine A9 (I.bring 1) Tryz.sizeOf4 fun ah t ai=>?_
       exact hx1 _ _ (hj1 0 (d6.mk false x0.fnames) H _ (t.bring 1) h)
     refine p7 fun j5 hx5=>?_
     refine a7 pEq ?_
     refine m0 h (fun _ h=>?_) (fun _ h=>?_)
     ·exact hx5 _ _ (hj5 (decide (x1.d8=6)) H _ ((I.bring 1).bring 1) h)
     ·refine a7 pEq ?_
      refine m0 h (fun _ h=>?_) (fun _ h=>?_)
      ·exact hx5 _ _ (hj5 (decide (x1.d8=7)) H _ ((I.bring 1).bring 1) h)
      ·refine a7 pEq ?_
       refine m0 h (fun _ h=>?_) (fun _ h=>?_)
       ·exact hx5 _ _ (hj5 (decide (x1.d8=8)) H _ ((I.bring 1).bring 1) h)
       ·refine a7 pEq ?_
        refine m0 h (fun _ h=>?_) (fun _ h=>?_)
        ·exact hx5 _ _ (hj5 (decide (x1.d8=9)) H _ ((I.bring 1).bring 1) h)
        ·refine a7 pEq ?_
         exact hx5 _ _ (hj5 (decide (x1.d8=10)) H _ ((I.bring 1).bring 1) h)
   refine p7 fun j4 hx4=>?_
   refine a7 pEq ?_
   refine m0 h (fun _ h=>?_) (fun _ h=>?_)
   ·exact hx4 _ _ (hj4 (decide (x1.d8=4)) H _ ((I.bring 1).bring 1) h)
   ·refine a7 pEq ?_
    exact hx4 _ _ (hj4 (decide (x1.d8=5)) H _ ((I.bring 1).bring 1) h)
 refine p7 fun j3 hx3=>?_
 refine a7 pEq ?_
 refine m0 h (fun _ h=>?_) (fun _ h=>?_)
 ·exact hx3 _ _ (hj3 (decide (x1.d8=1)) H _ ((j.bring 1).bring 1) h)
 ·refine a7 pEq ?_
  refine m0 h (fun _ h=>?_) (fun _ h=>?_)
  ·exact hx3 _ _ (hj3 (decide (x1.d8=2)) H _ ((j.bring 1).bring 1) h)
  ·refine a7 pEq ?_
   exact hx3 _ _ (hj3 (decide (x1.d8=3)) H _ ((j.bring 1).bring 1) h)
def a4t(a:b9)(b2U:Int)(a0i:d6)(H:Hp)(n5:(Int×d6)→Hp→Prop)(K:d6→Hp→Prop):Prop:=
 (((decide (b2U < (a.H7.n:Int)))&&a0i.fok)=true→
 (0:Int)≤b2U∧(b2U:Int) < a.H7.n∧∃b:b9,EltH H a.H7 b2U 6 (m6 b)∧
 U5 a0i b H (fun c d=>
 n5 ((IntKind.wrap .i64 (b2U+1)),c) d))∧
 (((decide (b2U < (a.H7.n:Int)))&&a0i.fok)=false→
 K a0i H)
def a1g(a8W:d6)(a:b9)(H:Hp)(K:d6→Hp→Prop):Prop:=
 TL ((0,a8W):Int×d6) H fun(s:Int×d6) H n5=>a4t a s.1 s.2 H n5 K
def a4u(a:b9)(b2V:Int)(a3R:d6)(H:Hp)(n6:(Int×d6)→Hp→Prop)(K:d6→Hp→Prop):Prop:=
 (((decide (b2V < (a.J5.n:Int)))&&a3R.fok)=true→
 (0:Int)≤b2V∧(b2V:Int) < a.J5.n∧∃b:b9,EltH H a.J5 b2V 6 (m6 b)∧
 U5 a3R b H (fun c d=>
 n6 ((IntKind.wrap .i64 (b2V+1)),c) d))∧
 (((decide (b2V < (a.J5.n:Int)))&&a3R.fok)=false→
 a1g a3R a H K)
def a1h(Q4:d6)(a:b9)(H:Hp)(K:d6→Hp→Prop):Prop:=
 TL ((0,Q4):Int×d6) H fun(s:Int×d6) H n6=>a4u a s.1 s.2 H n6 K
def a4v(a:b9)(b2W:Int)(a3S:d6)(H:Hp)(n7:(Int×d6)→Hp→Prop)(K:d6→Hp→Prop):Prop:=
 (((decide (b2W < (a.o4.n:Int)))&&a3S.fok)=true→
 (0:Int)≤b2W∧(b2W:Int) < a.o4.n∧∃b:d9,EltH H a.o4 b2W 4 (g7 b)∧
 U4 a3S b H (fun c d=>
 n7 ((IntKind.wrap .i64 (b2W+1)),c) d))∧
 (((decide (b2W < (a.o4.n:Int)))&&a3S.fok)=false→
 a1h a3S a H K)
def a1i(G8:d6)(a:b9)(H:Hp)(K:d6→Hp→Prop):Prop:=
 TL ((0,G8):Int×d6) H fun(s:Int×d6) H n7=>a4v a s.1 s.2 H n7 K
def a4w(a:b9)(b2X:Int)(b2p:d6)(H:Hp)(n8:(Int×d6)→Hp→Prop)(K:d6→Hp→Prop):Prop:=
 (((decide (b2X < (a.v8.n:Int)))&&b2p.fok)=true→
 (0:Int)≤b2X∧(b2X:Int) < a.v8.n∧∃b:f8,EltH H a.v8 b2X 4 (i7 b)∧
 a0l b2p b H (fun c d=>
 n8 ((IntKind.wrap .i64 (b2X+1)),c) d))∧
 (((decide (b2X < (a.v8.n:Int)))&&b2p.fok)=false→
 a1i b2p a H K)
def E4(y5:Int)(W9:Int)(a:b9)(p1:d6)(H:Hp)(K:d6→Hp→Prop):Prop:=
 U3 p1 a.t7 ((decide (a.d8=1))||(decide (a.d8=2))) H (fun b c=>
 TL ((0,(d6.mk ((((b.fok&&(decide ((a.o4.n:Int)=y5)))&&(decide ((a.v8.n:Int)=W9)))&&(((decide ((a.J5.n:Int)=0))||(decide (a.d8=3)))||(decide (a.d8=4))))&&((decide ((a.H7.n:Int)=0))||(decide (a.d8=3)))) b.fnames)):Int×d6) c fun(s:Int×d6) H n8=>a4w a s.1 s.2 H n8 K)
def I0(c6X:Int)(d3Y:Int)(c8u:Int)(b6i:Bool)(a:b9)(c3A:d6)(H:Hp)(K:d6→Hp→Prop):Prop:=
 (b6i=true→
 E4 c6X 1 a c3A H K)∧
 (b6i=false→
 (c8u=7→
 E4 c6X d3Y a c3A H K)∧
 (¬(c8u=7)→
 E4 c6X d3Y a (d6.mk false c3A.fnames) H K))
def a5X(x0:d6)(x1:b9)(H:Hp)(K:d6→Hp→Prop):Prop:=
 (x1.d8=1→
 E4 1 0 x1 x0 H K)∧
 (¬(x1.d8=1)→
 (x1.d8=2→
 E4 2 0 x1 x0 H K)∧
 (¬(x1.d8=2)→
 (x1.d8=3→
 I0 0 0 x1.d8 (decide (x1.d8=3)) x1 x0 H K)∧
 (¬(x1.d8=3)→
 (x1.d8=4→
 I0 0 0 x1.d8 (decide (x1.d8=4)) x1 x0 H K)∧
 (¬(x1.d8=4)→
 (x1.d8=5→
 I0 0 0 x1.d8 (decide (x1.d8=5)) x1 x0 H K)∧
 (¬(x1.d8=5)→
 I0 0 0 x1.d8 (decide (x1.d8=6)) x1 x0 H K)))))
theorem b0w(x0 x1){H K}(h:a5X x0 x1 H K):U5 x0 x1 H K:=by
 intro g0
 refine Ct.of fun w0 w ps0 H0 R E I hR=>d3m ?_
 refine Q1 I (cs:=(m6 x1)) rfl fun d au f av=>?_
 have hj1:∀(y5:Int)(W9:Int)(p1:d6) H w (_:Inv w0 ps0 H0 H [bx d 56 (m6 x1),bx g0 123 (r7 p1)] w) (_:E4 y5 W9 x1 p1 H K),c5o (Value.pointer (some ⟨g0,0,none⟩)) (Value.pointer (some ⟨d,0,none⟩)) (vi y5) (vi W9) w R E:=by
  intro y5 W9 p1 H w I h
  intro _
  refine a7 a5B (c8 (l1 Tryz.isAgg9 I rfl) (a7 Q2 (c8 (l1 Tryz.isAgg3 I rfl) (a7 pEq ?_))))
  refine a7 (Pu.g fun a=>by with_reducible exact Q2) ?_
  refine c8 (Ld.g fun a=>by simp only [g9 a];exact (l1 Tryz.isAgg3 I rfl)) ?_
  refine a7 (Pu.g fun a=>by simp only [g9 a];with_reducible exact pEq) ?_
  refine a7 (y8 _ _) ?_
  refine f9 Tryz.call71 (h g0) (I.bring 1) ?_
  rintro _ aw _ ax c _ _ ⟨ay,rfl,rfl,h⟩
  refine a7 (o3 _) (a7 K3 (c8 (l1 Tryz.isAgg4 c rfl) ?_))
  refine a7 (Pu.g fun a=>by with_reducible exact M7) ?_
  refine c8 (Ld.g fun a=>by simp only [g9 a];exact (l1 Tryz.isAgg38 (c.bring 1) rfl)) ?_
  refine a7 (Pu.g fun a=>by simp only [g9 a];with_reducible exact (O4 _ _ _)) ?_
  simp only [p8]
  refine a7 (Pu.g fun a=>by simp only [g9 a];with_reducible exact pEq) ?_
  refine a7 (s6 _ _) ?_
  refine a7 (Pu.g fun a=>by with_reducible exact V5) ?_
  refine c8 (Ld.g fun a=>by simp only [g9 a];exact (l1 Tryz.isAgg47 (c.bring 1) rfl)) ?_
  refine a7 (Pu.g fun a=>by simp only [g9 a];with_reducible exact (a0r _ _ _)) ?_
  simp only [p8]
  refine a7 (Pu.g fun a=>by simp only [g9 a];with_reducible exact pEq) ?_
  refine a7 (s6 _ _) ?_
  refine a7 (Pu.g fun a=>by with_reducible exact a0Y) ?_
  refine c8 (Ld.g fun a=>by simp only [g9 a];exact (l1 Tryz.isAgg24 (c.bring 1) rfl)) ?_
  refine a7 (Pu.g fun a=>by simp only [g9 a];with_reducible exact (X1 _ _ _)) ?_
  refine a7 (Pu.g fun a=>by simp only [g9 a];with_reducible exact pEq) ?_
  simp only [p8,a3K]
  refine a7 (Pu.e (U1 _ _ _) (Pu.g fun hb=>by obtain ⟨a,b⟩:=a0w hb;with_reducible exact Q2)) ?_
  refine c8 (Ld.e (U1 _ _ _) (Ld.g fun hb=>by obtain ⟨a,b⟩:=a0w hb;simp only [g9 hb];exact (l1 Tryz.isAgg3 (c.bring 1) rfl))) ?_
  refine a7 (Pu.e (U1 _ _ _) (Pu.g fun hb=>by obtain ⟨a,b⟩:=a0w hb;simp only [g9 hb];with_reducible exact pEq)) ?_
  refine a7 (Pu.g fun a=>by simp only [g9 a,a9Q a];with_reducible exact (y8 _ _)) ?_
  simp only [a3K]
  refine a7 (Pu.e (U1 _ _ _) (Pu.g fun hb=>by obtain ⟨a,b⟩:=a0w hb;with_reducible exact Q2)) ?_
  refine c8 (Ld.e (U1 _ _ _) (Ld.g fun hb=>by obtain ⟨a,b⟩:=a0w hb;simp only [g9 hb];exact (l1 Tryz.isAgg3 (c.bring 1) rfl))) ?_
  refine a7 (Pu.e (U1 _ _ _) (Pu.g fun hb=>by obtain ⟨a,b⟩:=a0w hb;simp only [g9 hb];with_reducible exact pEq)) ?_
  refine a7 (Pu.g fun a=>by simp only [g9 a,a9Q a];with_reducible exact (y8 _ _)) ?_
  refine a7 (s6 _ _) ?_
  refine a7 (Pu.g fun a=>by with_reducible exact a0Z) ?_
  refine c8 (Ld.g fun a=>by simp only [g9 a];exact (l1 Tryz.isAgg24 (c.bring 1) rfl)) ?_
  refine a7 (Pu.g fun a=>by simp only [g9 a];with_reducible exact (X1 _ _ _)) ?_
  refine a7 (Pu.g fun a=>by simp only [g9 a];with_reducible exact pEq) ?_
  simp only [p8,a3K]
  refine a7 (Pu.e (U1 _ _ _) (Pu.g fun hb=>by obtain ⟨a,b⟩:=a0w hb;with_reducible exact Q2)) ?_
  refine c8 (Ld.e (U1 _ _ _) (Ld.g fun hb=>by obtain ⟨a,b⟩:=a0w hb;simp only [g9 hb];exact (l1 Tryz.isAgg3 (c.bring 1) rfl))) ?_
  refine a7 (Pu.e (U1 _ _ _) (Pu.g fun hb=>by obtain ⟨a,b⟩:=a0w hb;simp only [g9 hb];with_reducible exact pEq)) ?_
  refine a7 (Pu.g fun a=>by simp only [g9 a,a9Q a];with_reducible exact (y8 _ _)) ?_
  refine a7 (s6 _ _) (a7 (o3 _) (a7 K3 ?_))
  refine A9 c Tryz.sizeOf4 fun az q ba=>?_
  have hj2:∀(G8:d6) H w (_:Inv w0 ps0 H0 H [bx g0 123 (r7 G8),bx d 56 (m6 x1)] w) (_:a1i G8 x1 H K),c5n (Value.pointer (some ⟨g0,0,none⟩)) (Value.pointer (some ⟨d,0,none⟩)) w R E:=by
   intro G8 H w I h
   intro _
   have hj3:∀(Q4:d6) H w (_:Inv w0 ps0 H0 H [bx g0 123 (r7 Q4),bx d 56 (m6 x1)] w) (_:a1h Q4 x1 H K),c5m (Value.pointer (some ⟨g0,0,none⟩)) (Value.pointer (some ⟨d,0,none⟩)) w R E:=by
    intro Q4 H w I h
    intro _
    have hj4:∀(a8W:d6) H w (_:Inv w0 ps0 H0 H [bx g0 123 (r7 a8W),bx d 56 (m6 x1)] w) (_:a1g a8W x1 H K),c5l (Value.pointer (some ⟨g0,0,none⟩)) (Value.pointer (some ⟨d,0,none⟩)) w R E:=by
     intro a8W H w I h
     intro _
     refine A4 (σ:=Int×d6) (fun (b2U,a0i)=>[(vi b2U)]) (fun (b2U,a0i)=>[bx g0 123 (r7 a0i),bx d 56 (m6 x1)]) h rfl ((I.bring 1).bring 1) ?_
     rintro ⟨b2U,a0i⟩ H bb w next5 n5 i I h hn5
     dsimp only at i I h
     simp only [List.map_cons,List.map_nil,List.cons.injEq,and_true] at i
     have e9:=i
     simp only [e9]
     refine a7 a0Z (c8 (l1 Tryz.isAgg24 (I.bring 1) rfl) (a7 (X1 _ _ _) (a7 pLs ?_)))
     simp only [p8]
     refine a7 (Pu.g fun a=>by simp only [g9 a];with_reducible exact (o3 _)) ?_
     refine a7 (Pu.g fun a=>by simp only [g9 a];with_reducible exact K3) ?_
     refine c8 (Ld.g fun a=>by simp only [g9 a];exact (l1 Tryz.isAgg4 I rfl)) ?_
     refine a7 (s6 _ _) ?_
     refine l9 h (fun _ h=>?_) (fun _ h=>?_)
     ·refine a7 a0Z (c8 (l1 Tryz.isAgg24 (I.bring 1) rfl) ?_)
      obtain ⟨r,s,t,j,h⟩:=h
      obtain ⟨bc,bd,u,j⟩:=j
      refine a7 (a4l u _ _ _ _ r s) (c8 (ldA (vs:=(m6 t)) Tryz.isAgg56 Tryz.sizeOf56 rfl (I.atH j)) ?_)
      refine f9 Tryz.call72 (h g0) I ?_
      rintro _ _ _ be v _ _ ⟨y,rfl,rfl,h⟩
      refine a7 pAd ?_
      exact hn5 ((IntKind.wrap .i64 (b2U+1)),y) _ _ h ((v.bring 1).bring 1)
     ·exact hR _ H _ _ (I.bring 1).drop ⟨a0i,rfl,rfl,h⟩
    refine p7 fun j4 hx4=>?_
    refine A4 (σ:=Int×d6) (fun (b2V,a3R)=>[(vi b2V)]) (fun (b2V,a3R)=>[bx g0 123 (r7 a3R),bx d 56 (m6 x1)]) h rfl ((I.bring 1).bring 1) ?_
    rintro ⟨b2V,a3R⟩ H bf w next6 n6 k I h hn6
    dsimp only at k I h
    simp only [List.map_cons,List.map_nil,List.cons.injEq,and_true] at k
    have e8:=k
    simp only [e8]
    refine a7 a0Y (c8 (l1 Tryz.isAgg24 (I.bring 1) rfl) (a7 (X1 _ _ _) (a7 pLs ?_)))
    simp only [p8]
    refine a7 (Pu.g fun a=>by simp only [g9 a];with_reducible exact (o3 _)) ?_
    refine a7 (Pu.g fun a=>by simp only [g9 a];with_reducible exact K3) ?_
    refine c8 (Ld.g fun a=>by simp only [g9 a];exact (l1 Tryz.isAgg4 I rfl)) ?_
    refine a7 (s6 _ _) ?_
    refine l9 h (fun _ h=>?_) (fun _ h=>?_)
    ·refine a7 a0Y (c8 (l1 Tryz.isAgg24 (I.bring 1) rfl) ?_)
     obtain ⟨z,aa,ab,l,h⟩:=h
     obtain ⟨bg,bh,ac,l⟩:=l
     refine a7 (a4l ac _ _ _ _ z aa) (c8 (ldA (vs:=(m6 ab)) Tryz.isAgg56 Tryz.sizeOf56 rfl (I.atH l)) ?_)
     refine f9 Tryz.call72 (h g0) I ?_
     rintro _ _ _ bi ad _ _ ⟨ae,rfl,rfl,h⟩
     refine a7 pAd ?_
     exact hn6 ((IntKind.wrap .i64 (b2V+1)),ae) _ _ h ((ad.bring 1).bring 1)
    ·exact hx4 _ _ (hj4 a3R H _ ((I.bring 1).bring 1) h)
   refine p7 fun j3 hx3=>?_
   refine A4 (σ:=Int×d6) (fun (b2W,a3S)=>[(vi b2W)]) (fun (b2W,a3S)=>[bx g0 123 (r7 a3S),bx d 56 (m6 x1)]) h rfl ((I.bring 1).bring 1) ?_
   rintro ⟨b2W,a3S⟩ H bj w next7 n7 m I h hn7
   dsimp only at m I h
   simp only [List.map_cons,List.map_nil,List.cons.injEq,and_true] at m
   have e7:=m
   simp only [e7]
   refine a7 M7 (c8 (l1 Tryz.isAgg38 (I.bring 1) rfl) (a7 (O4 _ _ _) (a7 pLs ?_)))
   simp only [p8]
   refine a7 (Pu.g fun a=>by simp only [g9 a];with_reducible exact (o3 _)) ?_
   refine a7 (Pu.g fun a=>by simp only [g9 a];with_reducible exact K3) ?_
   refine c8 (Ld.g fun a=>by simp only [g9 a];exact (l1 Tryz.isAgg4 I rfl)) ?_
   refine a7 (s6 _ _) ?_
   refine l9 h (fun _ h=>?_) (fun _ h=>?_)
   ·refine a7 M7 (c8 (l1 Tryz.isAgg38 (I.bring 1) rfl) ?_)
    obtain ⟨af,ag,ah,n,h⟩:=h
    obtain ⟨bk,bl,ai,n⟩:=n
    refine a7 (a1N ai _ _ _ _ af ag) (c8 (ldA (vs:=(g7 ah)) Tryz.isAgg40 Tryz.sizeOf40 rfl (I.atH n)) ?_)
    refine f9 Tryz.call85 (h g0) I ?_
    rintro _ _ _ bm aj _ _ ⟨ak,rfl,rfl,h⟩
    refine a7 pAd ?_
    exact hn7 ((IntKind.wrap .i64 (b2W+1)),ak) _ _ h ((aj.bring 1).bring 1)
   ·exact hx3 _ _ (hj3 a3S H _ ((I.bring 1).bring 1) h)
  refine p7 fun j2 hx2=>?_
  refine A4 (σ:=Int×d6) (fun (b2X,b2p)=>[(vi b2X)]) (fun (b2X,b2p)=>[bx g0 123 (r7 b2p),bx d 56 (m6 x1)]) h rfl ((q.bring 1).bring 1) ?_
  rintro ⟨b2X,b2p⟩ H bn w next8 n8 o I h hn8
  dsimp only at o I h
  simp only [List.map_cons,List.map_nil,List.cons.injEq,and_true] at o
  have e6:=o
  simp only [e6]
  refine a7 V5 (c8 (l1 Tryz.isAgg47 (I.bring 1) rfl) (a7 (a0r _ _ _) (a7 pLs ?_)))
  simp only [p8]
  refine a7 (Pu.g fun a=>by simp only [g9 a];with_reducible exact (o3 _)) ?_
  refine a7 (Pu.g fun a=>by simp only [g9 a];with_reducible exact K3) ?_
  refine c8 (Ld.g fun a=>by simp only [g9 a];exact (l1 Tryz.isAgg4 I rfl)) ?_
  refine a7 (s6 _ _) ?_
  refine l9 h (fun _ h=>?_) (fun _ h=>?_)
  ·refine a7 V5 (c8 (l1 Tryz.isAgg47 (I.bring 1) rfl) ?_)
   obtain ⟨al,am,an,p,h⟩:=h
   obtain ⟨bo,bp,ao,p⟩:=p
   refine a7 (a6R ao _ _ _ _ al am) (c8 (ldA (vs:=(i7 an)) Tryz.isAgg49 Tryz.sizeOf49 rfl (I.atH p)) ?_)
   refine f9 Tryz.call92 (h g0) I ?_
   rintro _ _ _ bq ap _ _ ⟨aq,rfl,rfl,h⟩
   refine a7 pAd ?_
   exact hn8 ((IntKind.wrap .i64 (b2X+1)),aq) _ _ h ((ap.bring 1).bring 1)
  ·exact hx2 _ _ (hj2 b2p H _ ((I.bring 1).bring 1) h)
 refine p7 fun j1 hx1=>?_
 refine a7 Q2 (c8 (l1 Tryz.isAgg3 f rfl) (a7 pEq ?_))
 refine m0 h (fun _ h=>?_) (fun _ h=>?_)
 ·exact hx1 _ _ (hj1 1 0 x0 H _ ((f.bring 1).bring 1) h)
 ·refine a7 pEq ?_
  refine m0 h (fun _ h=>?_) (fun _ h=>?_)
  ·exact hx1 _ _ (hj1 2 0 x0 H _ ((f.bring 1).bring 1) h)
  ·have hj9:∀(b6i:Bool) H w (_:Inv w0 ps0 H0 H [bx d 56 (m6 x1),bx g0 123 (r7 x0)] w) (_:I0 0 0 x1.d8 b6i x1 x0 H K),c5p (Value.pointer (some ⟨g0,0,none⟩)) (Value.pointer (some ⟨d,0,none⟩)) (vi 0) (vi 0) (vi x1.d8) (vB b6i) w j1 R E:=by
    intro b6i H w I h
    intro _
    refine l9 h (fun _ h=>?_) (fun _ h=>?_)
    ·exact hx1 _ _ (hj1 0 1 x0 H _ ((I.bring 1).bring 1) h)
    ·refine a7 pEq ?_
     refine m0 h (fun _ h=>?_) (fun _ h=>?_)
     ·exact hx1 _ _ (hj1 0 0 x0 H _ ((I.bring 1).bring 1) h)
     ·refine a7 (o3 _) (a7 K3 ?_)
      refine A9 (I.bring 1) Tryz.sizeOf4 fun br ar bs=>?_
      exact hx1 _ _ (hj1 0 0 (d6.mk false x0.fnames) H _ (ar.bring 1) h)
   refine p7 fun j9 hx9=>?_
   refine a7 pEq ?_
   refine m0 h (fun _ h=>?_) (fun _ h=>?_)
   ·exact hx9 _ _ (hj9 (decide (x1.d8=3)) H _ ((f.bring 1).bring 1) h)
   ·refine a7 pEq ?_
    refine m0 h (fun _ h=>?_) (fun _ h=>?_)
    ·exact hx9 _ _ (hj9 (decide (x1.d8=4)) H _ ((f.bring 1).bring 1) h)
    ·refine a7 pEq ?_
     refine m0 h (fun _ h=>?_) (fun _ h=>?_)
     ·exact hx9 _ _ (hj9 (decide (x1.d8=5)) H _ ((f.bring 1).bring 1) h)
     ·refine a7 pEq ?_
      exact hx9 _ _ (hj9 (decide (x1.d8=6)) H _ ((f.bring 1).bring 1) h)
def a4x(d8w:Int)(a:d9)(a6r:Int)(b2q:d7)(H:Hp)(n1:(Int×d7)→Hp→Prop)(K:d7→Hp→Prop):Prop:=
 (((decide (a6r < (a.G4.n:Int)))&&(decide (b2q.fbad=0)))=true→
 (0:Int)≤a6r∧(a6r:Int) < a.G4.n∧∃b:d9,EltH H a.G4 a6r 4 (g7 b)∧
 U6 b2q b (IntKind.wrap .i64 (d8w+1)) H (fun c d=>
 n1 ((IntKind.wrap .i64 (a6r+1)),c) d))∧
 (((decide (a6r < (a.G4.n:Int)))&&(decide (b2q.fbad=0)))=false→
 K b2q H)
def a5Y(x0:d7)(x1:d9)(x2:Int)(H:Hp)(K:d7→Hp→Prop):Prop:=
 P8 x0 x2 H (fun a b c=>
 ((!a)=true→
 K b c)∧
 ((!a)=false→
 TL ((0,b):Int×d7) c fun(s:Int×d7) H n1=>a4x x2 x1 s.1 s.2 H n1 K))
theorem b0x(x0 x1 x2){H K}(h:a5Y x0 x1 x2 H K):U6 x0 x1 x2 H K:=by
 intro g0
 refine Ct.of fun w0 w ps0 H0 R E I hR=>d3D ?_
 refine Q1 I (cs:=(g7 x1)) rfl fun e q f r=>?_
 refine f9 Tryz.call115 (h g0) (f.bring 1) ?_
 rintro _ i _ s d _ _ ⟨t,j,rfl,rfl,h⟩
 refine a7 (E1 _) ?_
 refine l9 h (fun _ h=>?_) (fun _ h=>?_)
 ·exact hR _ i _ _ (d.bring 1).drop ⟨j,rfl,rfl,h⟩
 ·refine A4 (σ:=Int×d7) (fun (a6r,b2q)=>[(vi a6r)]) (fun (a6r,b2q)=>[bx g0 120 (r8 b2q),bx e 40 (g7 x1)]) h rfl ((d.bring 1).bring 1) ?_
  rintro ⟨a6r,b2q⟩ H u w next1 n1 b I h hn1
  dsimp only at b I h
  simp only [List.map_cons,List.map_nil,List.cons.injEq,and_true] at b
  have e6:=b
  simp only [e6]
  refine a7 a0V (c8 (l1 Tryz.isAgg38 (I.bring 1) rfl) (a7 (O4 _ _ _) (a7 pLs ?_)))
  simp only [p8]
  refine a7 (Pu.g fun a=>by simp only [g9 a];with_reducible exact (o3 _)) ?_
  refine a7 (Pu.g fun a=>by simp only [g9 a];with_reducible exact W7) ?_
  refine c8 (Ld.g fun a=>by simp only [g9 a];exact (l1 Tryz.isAgg3 I rfl)) ?_
  refine a7 (Pu.g fun a=>by simp only [g9 a];with_reducible exact pEq) ?_
  refine a7 (s6 _ _) ?_
  refine l9 h (fun _ h=>?_) (fun _ h=>?_)
  ·refine a7 a0V (c8 (l1 Tryz.isAgg38 (I.bring 1) rfl) ?_)
   obtain ⟨k,l,m,c,h⟩:=h
   obtain ⟨v,y,n,c⟩:=c
   refine a7 (a1N n _ _ _ _ k l) (c8 (ldA (vs:=(g7 m)) Tryz.isAgg40 Tryz.sizeOf40 rfl (I.atH c)) (a7 pAd ?_))
   refine f9 Tryz.call84 (h g0) I ?_
   rintro _ _ _ z o _ _ ⟨p,rfl,rfl,h⟩
   refine a7 pAd ?_
   exact hn1 ((IntKind.wrap .i64 (a6r+1)),p) _ _ h ((o.bring 1).bring 1)
  ·exact hR _ H _ _ (I.bring 1).drop ⟨b2q,rfl,rfl,h⟩
def a4y(d8x:Int)(a:b9)(a9a:Int)(S1:d7)(H:Hp)(n4:(Int×d7)→Hp→Prop)(K:d7→Hp→Prop):Prop:=
 (((decide (a9a < (a.H7.n:Int)))&&(decide (S1.fbad=0)))=true→
 (0:Int)≤a9a∧(a9a:Int) < a.H7.n∧∃b:b9,EltH H a.H7 a9a 6 (m6 b)∧
 U7 S1 b (IntKind.wrap .i64 (d8x+1)) H (fun c d=>
 n4 ((IntKind.wrap .i64 (a9a+1)),c) d))∧
 (((decide (a9a < (a.H7.n:Int)))&&(decide (S1.fbad=0)))=false→
 K S1 H)
def a1j(d8y:Int)(Q4:d7)(a:b9)(H:Hp)(K:d7→Hp→Prop):Prop:=
 TL ((0,Q4):Int×d7) H fun(s:Int×d7) H n4=>a4y d8y a s.1 s.2 H n4 K
def a4z(d3Z:Int)(a:b9)(b2Y:Int)(a0i:d7)(H:Hp)(n5:(Int×d7)→Hp→Prop)(K:d7→Hp→Prop):Prop:=
 (((decide (b2Y < (a.J5.n:Int)))&&(decide (a0i.fbad=0)))=true→
 (0:Int)≤b2Y∧(b2Y:Int) < a.J5.n∧∃b:b9,EltH H a.J5 b2Y 6 (m6 b)∧
 U7 a0i b (IntKind.wrap .i64 (d3Z+1)) H (fun c d=>
 n5 ((IntKind.wrap .i64 (b2Y+1)),c) d))∧
 (((decide (b2Y < (a.J5.n:Int)))&&(decide (a0i.fbad=0)))=false→
 a1j d3Z a0i a H K)
def a1k(d8z:Int)(G8:d7)(a:b9)(H:Hp)(K:d7→Hp→Prop):Prop:=
 TL ((0,G8):Int×d7) H fun(s:Int×d7) H n5=>a4z d8z a s.1 s.2 H n5 K
def a4A(d4a:Int)(a:b9)(b2Z:Int)(a3R:d7)(H:Hp)(n6:(Int×d7)→Hp→Prop)(K:d7→Hp→Prop):Prop:=
 (((decide (b2Z < (a.o4.n:Int)))&&(decide (a3R.fbad=0)))=true→
 (0:Int)≤b2Z∧(b2Z:Int) < a.o4.n∧∃b:d9,EltH H a.o4 b2Z 4 (g7 b)∧
 U6 a3R b (IntKind.wrap .i64 (d4a+1)) H (fun c d=>
 n6 ((IntKind.wrap .i64 (b2Z+1)),c) d))∧
 (((decide (b2Z < (a.o4.n:Int)))&&(decide (a3R.fbad=0)))=false→
 a1k d4a a3R a H K)
def a1l(b4O:Int)(p1:d7)(a:b9)(H:Hp)(K:d7→Hp→Prop):Prop:=
 TL ((0,p1):Int×d7) H fun(s:Int×d7) H n6=>a4A b4O a s.1 s.2 H n6 K
def a4B(d4b:Int)(a:b9)(b3a:Int)(a3S:d7)(H:Hp)(n7:(Int×d7)→Hp→Prop)(K:d7→Hp→Prop):Prop:=
 (((decide (b3a < (a.v8.n:Int)))&&(decide (a3S.fbad=0)))=true→
 (0:Int)≤b3a∧(b3a:Int) < a.v8.n∧∃b:f8,EltH H a.v8 b3a 4 (i7 b)∧
 a0m a3S b (IntKind.wrap .i64 (d4b+1)) H (fun c d=>
 n7 ((IntKind.wrap .i64 (b3a+1)),c) d))∧
 (((decide (b3a < (a.v8.n:Int)))&&(decide (a3S.fbad=0)))=false→
 a1l d4b a3S a H K)
def a5Z(x0:d7)(x1:b9)(x2:Int)(H:Hp)(K:d7→Hp→Prop):Prop:=
 P8 x0 x2 H (fun a b c=>
 ((!a)=true→
 K b c)∧
 ((!a)=false→
 TL ((0,b):Int×d7) c fun(s:Int×d7) H n7=>a4B x2 x1 s.1 s.2 H n7 K))
theorem b0y(x0 x1 x2){H K}(h:a5Z x0 x1 x2 H K):U7 x0 x1 x2 H K:=by
 intro g0
 refine Ct.of fun w0 w ps0 H0 R E I hR=>c9t ?_
 refine Q1 I (cs:=(m6 x1)) rfl fun b aq n ar=>?_
 refine f9 Tryz.call115 (h g0) (n.bring 1) ?_
 rintro _ o _ au m _ _ ⟨av,p,rfl,rfl,h⟩
 refine a7 (E1 _) ?_
 refine l9 h (fun _ h=>?_) (fun _ h=>?_)
 ·exact hR _ o _ _ (m.bring 1).drop ⟨p,rfl,rfl,h⟩
 ·have hj1:∀(p1:d7) H w (_:Inv w0 ps0 H0 H [bx g0 120 (r8 p1),bx b 56 (m6 x1)] w) (_:a1l x2 p1 x1 H K),c1X (Value.pointer (some ⟨g0,0,none⟩)) (vi x2) (Value.pointer (some ⟨b,0,none⟩)) w R E:=by
   intro p1 H w I h
   intro _
   have hj2:∀(G8:d7) H w (_:Inv w0 ps0 H0 H [bx g0 120 (r8 G8),bx b 56 (m6 x1)] w) (_:a1k x2 G8 x1 H K),c1W (Value.pointer (some ⟨g0,0,none⟩)) (vi x2) (Value.pointer (some ⟨b,0,none⟩)) w R E:=by
    intro G8 H w I h
    intro _
    have hj3:∀(Q4:d7) H w (_:Inv w0 ps0 H0 H [bx g0 120 (r8 Q4),bx b 56 (m6 x1)] w) (_:a1j x2 Q4 x1 H K),c1V (Value.pointer (some ⟨g0,0,none⟩)) (vi x2) (Value.pointer (some ⟨b,0,none⟩)) w R E:=by
     intro Q4 H w I h
     intro _
     refine A4 (σ:=Int×d7) (fun (a9a,S1)=>[(vi a9a)]) (fun (a9a,S1)=>[bx g0 120 (r8 S1),bx b 56 (m6 x1)]) h rfl ((I.bring 1).bring 1) ?_
     rintro ⟨a9a,S1⟩ H aw w next4 n4 c I h hn4
     dsimp only at c I h
     simp only [List.map_cons,List.map_nil,List.cons.injEq,and_true] at c
     have e9:=c
     simp only [e9]
     refine a7 a0Z (c8 (l1 Tryz.isAgg24 (I.bring 1) rfl) (a7 (X1 _ _ _) (a7 pLs ?_)))
     simp only [p8]
     refine a7 (Pu.g fun a=>by simp only [g9 a];with_reducible exact (o3 _)) ?_
     refine a7 (Pu.g fun a=>by simp only [g9 a];with_reducible exact W7) ?_
     refine c8 (Ld.g fun a=>by simp only [g9 a];exact (l1 Tryz.isAgg3 I rfl)) ?_
     refine a7 (Pu.g fun a=>by simp only [g9 a];with_reducible exact pEq) ?_
     refine a7 (s6 _ _) ?_
     refine l9 h (fun _ h=>?_) (fun _ h=>?_)
     ·refine a7 a0Z (c8 (l1 Tryz.isAgg24 (I.bring 1) rfl) ?_)
      obtain ⟨q,r,s,d,h⟩:=h
      obtain ⟨ax,ay,t,d⟩:=d
      refine a7 (a4l t _ _ _ _ q r) (c8 (ldA (vs:=(m6 s)) Tryz.isAgg56 Tryz.sizeOf56 rfl (I.atH d)) (a7 pAd ?_))
      refine f9 Tryz.call116 (h g0) I ?_
      rintro _ _ _ az u _ _ ⟨v,rfl,rfl,h⟩
      refine a7 pAd ?_
      exact hn4 ((IntKind.wrap .i64 (a9a+1)),v) _ _ h ((u.bring 1).bring 1)
     ·exact hR _ H _ _ (I.bring 1).drop ⟨S1,rfl,rfl,h⟩
    refine p7 fun j3 hx3=>?_
    refine A4 (σ:=Int×d7) (fun (b2Y,a0i)=>[(vi b2Y)]) (fun (b2Y,a0i)=>[bx g0 120 (r8 a0i),bx b 56 (m6 x1)]) h rfl ((I.bring 1).bring 1) ?_
    rintro ⟨b2Y,a0i⟩ H ba w next5 n5 e I h hn5
    dsimp only at e I h
    simp only [List.map_cons,List.map_nil,List.cons.injEq,and_true] at e
    have e8:=e
    simp only [e8]
    refine a7 a0Y (c8 (l1 Tryz.isAgg24 (I.bring 1) rfl) (a7 (X1 _ _ _) (a7 pLs ?_)))
    simp only [p8]
    refine a7 (Pu.g fun a=>by simp only [g9 a];with_reducible exact (o3 _)) ?_
    refine a7 (Pu.g fun a=>by simp only [g9 a];with_reducible exact W7) ?_
    refine c8 (Ld.g fun a=>by simp only [g9 a];exact (l1 Tryz.isAgg3 I rfl)) ?_
    refine a7 (Pu.g fun a=>by simp only [g9 a];with_reducible exact pEq) ?_
    refine a7 (s6 _ _) ?_
    refine l9 h (fun _ h=>?_) (fun _ h=>?_)
    ·refine a7 a0Y (c8 (l1 Tryz.isAgg24 (I.bring 1) rfl) ?_)
     obtain ⟨y,z,aa,f,h⟩:=h
     obtain ⟨bb,bc,ab,f⟩:=f
     refine a7 (a4l ab _ _ _ _ y z) (c8 (ldA (vs:=(m6 aa)) Tryz.isAgg56 Tryz.sizeOf56 rfl (I.atH f)) (a7 pAd ?_))
     refine f9 Tryz.call116 (h g0) I ?_
     rintro _ _ _ bd ac _ _ ⟨ad,rfl,rfl,h⟩
     refine a7 pAd ?_
     exact hn5 ((IntKind.wrap .i64 (b2Y+1)),ad) _ _ h ((ac.bring 1).bring 1)
    ·exact hx3 _ _ (hj3 a0i H _ ((I.bring 1).bring 1) h)
   refine p7 fun j2 hx2=>?_
   refine A4 (σ:=Int×d7) (fun (b2Z,a3R)=>[(vi b2Z)]) (fun (b2Z,a3R)=>[bx g0 120 (r8 a3R),bx b 56 (m6 x1)]) h rfl ((I.bring 1).bring 1) ?_
   rintro ⟨b2Z,a3R⟩ H be w next6 n6 i I h hn6
   dsimp only at i I h
   simp only [List.map_cons,List.map_nil,List.cons.injEq,and_true] at i
   have e7:=i
   simp only [e7]
   refine a7 M7 (c8 (l1 Tryz.isAgg38 (I.bring 1) rfl) (a7 (O4 _ _ _) (a7 pLs ?_)))
   simp only [p8]
   refine a7 (Pu.g fun a=>by simp only [g9 a];with_reducible exact (o3 _)) ?_
   refine a7 (Pu.g fun a=>by simp only [g9 a];with_reducible exact W7) ?_
   refine c8 (Ld.g fun a=>by simp only [g9 a];exact (l1 Tryz.isAgg3 I rfl)) ?_
   refine a7 (Pu.g fun a=>by simp only [g9 a];with_reducible exact pEq) ?_
   refine a7 (s6 _ _) ?_
   refine l9 h (fun _ h=>?_) (fun _ h=>?_)
   ·refine a7 M7 (c8 (l1 Tryz.isAgg38 (I.bring 1) rfl) ?_)
    obtain ⟨ae,af,ag,j,h⟩:=h
    obtain ⟨bf,bg,ah,j⟩:=j
    refine a7 (a1N ah _ _ _ _ ae af) (c8 (ldA (vs:=(g7 ag)) Tryz.isAgg40 Tryz.sizeOf40 rfl (I.atH j)) (a7 pAd ?_))
    refine f9 Tryz.call84 (h g0) I ?_
    rintro _ _ _ bh ai _ _ ⟨aj,rfl,rfl,h⟩
    refine a7 pAd ?_
    exact hn6 ((IntKind.wrap .i64 (b2Z+1)),aj) _ _ h ((ai.bring 1).bring 1)
   ·exact hx2 _ _ (hj2 a3R H _ ((I.bring 1).bring 1) h)
  refine p7 fun j1 hx1=>?_
  refine A4 (σ:=Int×d7) (fun (b3a,a3S)=>[(vi b3a)]) (fun (b3a,a3S)=>[bx g0 120 (r8 a3S),bx b 56 (m6 x1)]) h rfl ((m.bring 1).bring 1) ?_
  rintro ⟨b3a,a3S⟩ H bi w next7 n7 k I h hn7
  dsimp only at k I h
  simp only [List.map_cons,List.map_nil,List.cons.injEq,and_true] at k
  have e6:=k
  simp only [e6]
  refine a7 V5 (c8 (l1 Tryz.isAgg47 (I.bring 1) rfl) (a7 (a0r _ _ _) (a7 pLs ?_)))
  simp only [p8]
  refine a7 (Pu.g fun a=>by simp only [g9 a];with_reducible exact (o3 _)) ?_
  refine a7 (Pu.g fun a=>by simp only [g9 a];with_reducible exact W7) ?_
  refine c8 (Ld.g fun a=>by simp only [g9 a];exact (l1 Tryz.isAgg3 I rfl)) ?_
  refine a7 (Pu.g fun a=>by simp only [g9 a];with_reducible exact pEq) ?_
  refine a7 (s6 _ _) ?_
  refine l9 h (fun _ h=>?_) (fun _ h=>?_)
  ·refine a7 V5 (c8 (l1 Tryz.isAgg47 (I.bring 1) rfl) ?_)
   obtain ⟨ak,al,am,l,h⟩:=h
   obtain ⟨bj,bk,an,l⟩:=l
   refine a7 (a6R an _ _ _ _ ak al) (c8 (ldA (vs:=(i7 am)) Tryz.isAgg49 Tryz.sizeOf49 rfl (I.atH l)) (a7 pAd ?_))
   refine f9 Tryz.call91 (h g0) I ?_
   rintro _ _ _ bl ao _ _ ⟨ap,rfl,rfl,h⟩
   refine a7 pAd ?_
   exact hn7 ((IntKind.wrap .i64 (b3a+1)),ap) _ _ h ((ao.bring 1).bring 1)
  ·exact hx1 _ _ (hj1 a3S H _ ((I.bring 1).bring 1) h)
def a2f(a:d7)(b:d7)(c:l8)(H:Hp)(K:d7→Hp→Prop):Prop:=
 K a H
def a6a(a:l8)(b3b:Int)(b:d7)(c:d7)(H:Hp)(n3:(Int×d7×d7)→Hp→Prop)(K:d7→Hp→Prop):Prop:=
 (((decide (b3b < (a.a0L.n:Int)))&&(decide (b.fbad=0)))=true→
 (0:Int)≤b3b∧(b3b:Int) < a.a0L.n∧∃d:b9,EltH H a.a0L b3b 6 (m6 d)∧
 U7 b d 1 H (fun e f=>
 n3 ((IntKind.wrap .i64 (b3b+1)),e,c) f))∧
 (((decide (b3b < (a.a0L.n:Int)))&&(decide (b.fbad=0)))=false→
 a2f b c a H K)
def a2g(a:d7)(b:d7)(c:l8)(H:Hp)(K:d7→Hp→Prop):Prop:=
 TL ((0,a,b):Int×d7×d7) H fun(s:Int×d7×d7) H n3=>a6a c s.1 s.2.1 s.2.2 H n3 K
def a6b(b:l8)(b5J:Int)(a:d7)(c:d7)(H:Hp)(n4:(Int×d7×d7)→Hp→Prop)(K:d7→Hp→Prop):Prop:=
 (((decide (b5J < (b.N3.n:Int)))&&(decide (a.fbad=0)))=true→
 P8 a 1 H (fun f d e=>
 n4 ((IntKind.wrap .i64 (b5J+1)),d,c) e))∧
 (((decide (b5J < (b.N3.n:Int)))&&(decide (a.fbad=0)))=false→
 a2g a c b H K)
def a7f(x0:l8)(H:Hp)(K:d7→Hp→Prop):Prop:=
 TL ((0,(d7.mk 0 0 0),(d7.mk 0 0 0)):Int×d7×d7) H fun(s:Int×d7×d7) H n4=>a6b x0 s.1 s.2.1 s.2.2 H n4 K
theorem b1M(x0){H K}(h:a7f x0 H K):a1b x0 H K:=by
 refine Ct.of fun w0 w ps0 H0 R E I hR=>d3g ?_
 refine Q1 I (cs:=(p5 x0)) rfl fun d ag s ah=>?_
 refine o7 s Tryz.zeroValue120 (cs:=[(vi 0),(vi 0),(vi 0)]) rfl fun c ai t aj=>?_
 refine a7 (c3s) ?_
 refine o7 t Tryz.zeroValue120 (cs:=[(vi 0),(vi 0),(vi 0)]) rfl fun b ak u al=>?_
 refine o9 u Tryz.sizeOf120 (vs:=[(vi 0),(vi 0),(vi 0)]) fun am v an=>?_
 have hj1:∀(l:d7)(m:d7) H w (_:Inv w0 ps0 H0 H [bx b 120 (r8 l),bx c 120 (r8 m),bx d 26 (p5 x0)] w) (_:a2g l m x0 H K),c5k (Value.pointer (some ⟨d,0,none⟩)) (Value.pointer (some ⟨c,0,none⟩)) (Value.pointer (some ⟨b,0,none⟩)) w R E:=by
  intro l m H w I h
  intro _
  have hj2:∀(e:d7)(n:d7) H w (_:Inv w0 ps0 H0 H [bx b 120 (r8 e),bx c 120 (r8 n),bx d 26 (p5 x0)] w) (_:a2f e n x0 H K),c5j (Value.pointer (some ⟨c,0,none⟩)) (Value.pointer (some ⟨b,0,none⟩)) w R E:=by
   intro e n H w I h
   intro _
   refine c8 (lW Tryz.isAgg120 Tryz.sizeOf120 rfl I) ?_
   refine o9 (I.bring 1) Tryz.sizeOf120 (vs:=(r8 e)) fun ao r ap=>?_
   refine q8 Tryz.isAgg120 Tryz.sizeOf120 rfl r ?_
   exact hR _ H _ _ r.drop.drop.drop ⟨e,rfl,rfl,h⟩
  refine p7 fun j2 hx2=>?_
  refine A4 (σ:=Int×d7×d7) (fun (b3b,j,f)=>[(vi b3b)]) (fun (b3b,j,f)=>[bx b 120 (r8 j),bx c 120 (r8 f),bx d 26 (p5 x0)]) h rfl (((I.bring 2).bring 2).bring 2) ?_
  rintro ⟨b3b,j,f⟩ H aq w next3 n3 o I h hn3
  dsimp only at o I h
  simp only [List.map_cons,List.map_nil,List.cons.injEq,and_true] at o
  have e5:=o
  simp only [e5]
  refine a7 X8 (c8 (l1 Tryz.isAgg24 (I.bring 2) rfl) (a7 (X1 _ _ _) (a7 pLs ?_)))
  refine a7 (Pu.g fun a=>by with_reducible exact W7) ?_
  refine c8 (Ld.g fun a=>by simp only [g9 a];exact (l1 Tryz.isAgg3 I rfl)) ?_
  refine a7 (Pu.g fun a=>by simp only [g9 a];with_reducible exact pEq) ?_
  refine a7 (s6 _ _) ?_
  refine l9 h (fun _ h=>?_) (fun _ h=>?_)
  ·refine a7 X8 (c8 (l1 Tryz.isAgg24 (I.bring 2) rfl) ?_)
   obtain ⟨y,z,aa,p,h⟩:=h
   obtain ⟨ar,au,ab,p⟩:=p
   refine a7 (a4l ab _ _ _ _ y z) (c8 (ldA (vs:=(m6 aa)) Tryz.isAgg56 Tryz.sizeOf56 rfl (I.atH p)) ?_)
   refine f9 Tryz.call116 (h b) I ?_
   rintro _ _ _ av ac _ _ ⟨ad,rfl,rfl,h⟩
   refine a7 pAd ?_
   exact hn3 ((IntKind.wrap .i64 (b3b+1)),ad,f) _ _ h (((ac.bring 2).bring 2).bring 2)
  ·exact hx2 _ _ (hj2 j f H _ (((I.bring 2).bring 2).bring 2) h)
 refine p7 fun j1 hx1=>?_
 refine A4 (σ:=Int×d7×d7) (fun (b5J,k,i)=>[(vi b5J)]) (fun (b5J,k,i)=>[bx b 120 (r8 k),bx c 120 (r8 i),bx d 26 (p5 x0)]) h rfl (((v.bring 2).bring 2).bring 2) ?_
 rintro ⟨b5J,k,i⟩ H aw w next4 n4 q I h hn4
 dsimp only at q I h
 simp only [List.map_cons,List.map_nil,List.cons.injEq,and_true] at q
 have e4:=q
 simp only [e4]
 refine a7 T5 (c8 (l1 Tryz.isAgg23 (I.bring 2) rfl) (a7 (a6G _ _ _) (a7 pLs ?_)))
 refine a7 (Pu.g fun a=>by with_reducible exact W7) ?_
 refine c8 (Ld.g fun a=>by simp only [g9 a];exact (l1 Tryz.isAgg3 I rfl)) ?_
 refine a7 (Pu.g fun a=>by simp only [g9 a];with_reducible exact pEq) ?_
 refine a7 (s6 _ _) ?_
 refine l9 h (fun _ h=>?_) (fun _ h=>?_)
 ·refine f9 Tryz.call115 (h b) I ?_
  rintro _ _ _ ax ae _ _ ⟨ay,af,rfl,rfl,h⟩
  refine a7 pAd ?_
  exact hn4 ((IntKind.wrap .i64 (b5J+1)),af,i) _ _ h (((ae.bring 2).bring 2).bring 2)
 ·exact hx1 _ _ (hj1 k i H _ (((I.bring 2).bring 2).bring 2) h)
def a9b(x0:a8)(H:Hp)(K:Int→Hp→Prop):Prop:=
 o0 x0 ⟨#[42]⟩ H (fun a b=>
 (a=true→
 K 8 b)∧
 (a=false→
 o0 x0 ⟨#[47]⟩ b (fun c d=>
 (c=true→
 K 9 d)∧
 (c=false→
 o0 x0 ⟨#[37]⟩ d (fun e f=>
 (e=true→
 K 10 f)∧
 (e=false→
 K 0 f))))))
theorem a4C(x0){H K}(h:a9b x0 H K):R3 x0 H K:=by
 intro g0
 refine Ct.of fun w0 w ps0 H0 R E I hR=>c9E ?_
 refine f9 Tryz.call23 (h g0) I ?_
 rintro _ e _ g a _ _ ⟨i,rfl,rfl,h⟩
 refine l9 h (fun _ h=>?_) (fun _ h=>?_)
 ·exact hR _ e _ _ a ⟨8,rfl,rfl,h⟩
 ·refine f9 Tryz.call23 (h g0) a ?_
  rintro _ f _ j b _ _ ⟨k,rfl,rfl,h⟩
  refine l9 h (fun _ h=>?_) (fun _ h=>?_)
  ·exact hR _ f _ _ b ⟨9,rfl,rfl,h⟩
  ·refine f9 Tryz.call23 (h g0) b ?_
   rintro _ c _ l d _ _ ⟨m,rfl,rfl,h⟩
   refine l9 h (fun _ h=>?_) (fun _ h=>?_)
   ·exact hR _ c _ _ d ⟨10,rfl,rfl,h⟩
   ·exact hR _ c _ _ d ⟨0,rfl,rfl,h⟩
def a3z(p1:a8)(a:f8)(b:f8)(H:Hp)(K:f8→a8→Hp→Prop):Prop:=
 K a p1 H
def a3A(R1:Int)(d:f8)(r9:a8)(e:f8)(H:Hp)(n2:(f8×a8×f8)→Hp→Prop)(K:f8→a8→Hp→Prop):Prop:=
 q7 r9 ⟨#[38,38]⟩ H (fun f g i=>
 (f=true→
 T7 g R1 i (fun j k l=>
 ∀(a:Sl)(b:Hp),Hle l b→SlH b 4 i7 a [d,j]→a.n≤a.c→
 n2 ((f8.mk 5 0 (Sl.mk none 0 0) a),k,e) b))∧
 (f=false→
 a3z g d e i K))
def a4Z(x0:a8)(x1:Int)(H:Hp)(K:f8→a8→Hp→Prop):Prop:=
 T7 x0 x1 H (fun a b c=>
 TL ((a,b,(f8.mk 0 0 (Sl.mk none 0 0) (Sl.mk none 0 0))):f8×a8×f8) c fun(s:f8×a8×f8) H n2=>a3A x1 s.1 s.2.1 s.2.2 H n2 K)
theorem a9w(x0 x1){H K}(h:a4Z x0 x1 H K):Z1 x0 x1 H K:=by
 intro g0
 refine Ct.of fun w0 w ps0 H0 R E I hR=>d3K ?_
 refine o7 I Tryz.zeroValue49 (cs:=[(vi 0),(vi 0),(nS),(nS)]) rfl fun g aj p ak=>?_
 refine f9 Tryz.call127 (h g0) (p.bring 1) ?_
 rintro _ _ _ al q _ _ ⟨r,am,rfl,rfl,h⟩
 refine o7 q Tryz.zeroValue49 (cs:=[(vi 0),(vi 0),(nS),(nS)]) rfl fun i an s ao=>?_
 refine o9 s Tryz.sizeOf49 (vs:=(i7 r)) fun ap t aq=>?_
 have hj1:∀(p1:a8)(a:f8)(j:f8) H w (_:Inv w0 ps0 H0 H [bx g0 66 (f7 p1),bx i 49 (i7 a),bx g 49 (i7 j)] w) (_:a3z p1 a j H K),c5E (Value.pointer (some ⟨g,0,none⟩)) (Value.pointer (some ⟨i,0,none⟩)) w R E:=by
  intro p1 a j H w I h
  intro _
  refine c8 (lW Tryz.isAgg49 Tryz.sizeOf49 rfl (I.bring 1)) ?_
  refine o9 (I.bring 2) Tryz.sizeOf49 (vs:=(i7 a)) fun ar l au=>?_
  refine q8 Tryz.isAgg49 Tryz.sizeOf49 rfl l ?_
  exact hR _ H _ _ (l.drop.bring 1).drop ⟨a,p1,rfl,rfl,h⟩
 refine p7 fun j1 hx1=>?_
 refine A4 (σ:=f8×a8×f8) (fun (b,r9,d)=>[]) (fun (b,r9,d)=>[bx i 49 (i7 b),bx g0 66 (f7 r9),bx g 49 (i7 d)]) h rfl (((t.bring 2).bring 2).bring 2) ?_
 rintro ⟨b,r9,d⟩ H av w next2 n2 m I h hn2
 dsimp only at m I h
 clear m
 refine f9 Tryz.call67 (h g0) (I.bring 1) ?_
 rintro _ u _ aw n _ _ ⟨ax,o,rfl,rfl,h⟩
 refine l9 h (fun _ h=>?_) (fun _ h=>?_)
 ·refine O6 n fun ay f=>?_
  refine u1 (lW Tryz.isAgg49 Tryz.sizeOf49 rfl (f.bring 1)) ?_
  refine f9 Tryz.call127 (h g0) f ?_
  rintro _ _ _ az v _ y ⟨z,aa,rfl,rfl,h⟩
  refine ⟨(y _ (f.bring 1).lt1 (Inv.X0 (Fi:=[bx g0 66 (f7 o)]) ((f.bring 1).bring 1))),?_⟩
  refine Q9 (e:=49) (c:=i7) (xs:=[b,z]) v (b8l _ _ _ _ _ _ _ _ _ _ _ _ _ _ _ _) rfl rfl N4 N5 (nb rfl) fun k ba bb ab ac bc=>?_
  refine o5 (a7b _ _ _ _) ?_
  refine o9 (ac.bring 2) Tryz.sizeOf49 (vs:=[(vi 5),(vi 0),(nS),(vs k)]) fun bd ad be=>?_
  obtain ⟨ae,af,ag,ah,ai⟩:=Inv.freezeC (ad.bring 1) ab (by decide)
  replace h:=h k ae ag ah ai
  exact hn2 ((f8.mk 5 0 (Sl.mk none 0 0) k),aa,d) _ _ h (((af.bring 2).bring 2).bring 2)
 ·exact hx1 _ _ (hj1 o b d u _ (((n.bring 2).bring 2).bring 2) h)
def K4(T8:(List b9))(p1:a8)(H:Hp)(K:Sl→a8→Hp→Prop):Prop:=
 t6 p1 ⟨#[125]⟩ H (fun b d=>
 ∀(C8:Sl)(a:Hp),Hle d a→SlH a 6 m6 C8 T8→C8.n≤C8.c→
 K C8 b a)
def O8(R1:Int)(u4:(List b9))(r9:a8)(H:Hp)(n2:((List b9)×a8)→Hp→Prop)(K:Sl→a8→Hp→Prop):Prop:=
 TG ((decide (r9.fbad=0))=true) (M5 r9 H) false H (fun(b:Bool)(c:Hp)=>
 (((decide (r9.fbad=0))&&b)=true→
 S5 r9 R1 c (fun a d=>
 (a.fbad=0→
 Z3 a R1 d (fun e f g=>
 (u4.length+([e]:List b9).length)*121≤140737488355328∧
 n2 ((u4++[e]),f) g))∧
 (¬(a.fbad=0)→
 n2 (u4,a) d)))∧
 (((decide (r9.fbad=0))&&b)=false→
 K4 u4 r9 c K))
def a4D(x0:a8)(x1:Int)(H:Hp)(K:Sl→a8→Hp→Prop):Prop:=
 t6 x0 ⟨#[123]⟩ H (fun a b=>
 TL (([],a):(List b9)×a8) b fun(s:(List b9)×a8) H n2=>O8 x1 s.1 s.2 H n2 K)
theorem a4E(x0 x1){H K}(h:a4D x0 x1 H K):N0 x0 x1 H K:=by
 intro g0
 refine Ct.of fun w0 w ps0 H0 R E I hR=>d3d ?_
 refine f9 Tryz.call65 (h g0) I ?_
 rintro _ y _ ay z _ _ ⟨aa,rfl,rfl,h⟩
 have hj1:∀(T8:(List b9))(p1:a8)(C8:Sl)(Fs5j1:Frag) H w (_:RowL 56 6 m6 C8 T8 Fs5j1) (_:Inv w0 ps0 H0 H [bx g0 66 (f7 p1),Fs5j1] w) (_:K4 T8 p1 H K),c5i (Value.pointer (some ⟨g0,0,none⟩)) (vs C8) w R E:=by
  intro T8 p1 C8 Fs5j1 H w b0a I h
  intro _
  refine f9 Tryz.call65 (h g0) I ?_
  rintro _ _ _ az ab _ _ ⟨ac,rfl,rfl,h⟩
  obtain ⟨o,ad,ae,af,ag⟩:=Inv.freezeC (ab.bring 1) b0a (by decide)
  replace h:=h C8 o ae af ag
  exact hR _ o _ _ ad ⟨C8,ac,rfl,rfl,h⟩
 refine p7 fun j1 hx1=>?_
 obtain ⟨i,d,ah,ai⟩:=h
 refine U0 (J:=fun n l w=>∃(s:(List b9)×a8)(H:Hp)(S8:Sl)(Fs5l2:Frag),n=d s∧l=(match s with | (u4,r9)=>[(vs S8)])∧(match s with | (u4,r9)=>RowL 56 6 m6 S8 u4 Fs5l2)∧(match s with | (u4,r9)=>Inv w0 ps0 H0 H [bx g0 66 (f7 r9),Fs5l2] w)∧i s H) ⟨_,([],aa),y,(Sl.mk none 0 0),[],rfl,rfl,(RowL.nil a1Z a2b),(z.nil.bring 1),ah⟩ ?_
 rintro ba bb w next2 ⟨⟨u4,r9⟩,H,S8,Fs5l2,rfl,j,a1w,I,aj⟩ hn2
 dsimp only at j I a1w
 simp only [List.map_cons,List.map_nil,List.cons.injEq,and_true] at j
 have e5:=j
 simp only [e5]
 obtain ⟨n2,hm2,h⟩:∃n2:((List b9)×a8)→Hp→Prop,(∀s' H',n2 s' H'→i s' H'∧d s' < d (u4,r9))∧O8 x1 u4 r9 H n2 K:=⟨_,fun _ _ h=>h,ai (u4,r9) H (fun s' H'=>i s' H'∧d s' < d (u4,r9)) aj (fun _ _ a b=>⟨a,b⟩)⟩
 refine a7 (o3 _) (a7 V4 (c8 (l1 Tryz.isAgg3 I rfl) (a7 pEq ?_)))
 simp only [p8]
 refine C5 [bx g0 66 (f7 r9)] (fun f:Bool=>(vB f)) h I (fun t h=>by simp only [g9 t];exact D5 Tryz.call25 (h g0) I) fun f k ak g q r h=>?_
 refine a7 (s6 _ _) ?_
 refine l9 h (fun _ h=>?_) (fun _ h=>?_)
 ·refine f9 Tryz.call114 (h g0) g ?_
  rintro _ al _ bc m _ _ ⟨am,rfl,rfl,h⟩
  refine a7 (o3 _) (a7 V4 (c8 (l1 Tryz.isAgg3 m rfl) (a7 pEq ?_)))
  refine m0 h (fun _ h=>?_) (fun _ h=>?_)
  ·refine f9 Tryz.call26 (h g0) m ?_
   rintro _ an _ bd ao _ _ ⟨u,ap,rfl,rfl,h⟩
   refine Q9 (e:=56) (c:=m6) (xs:=[u]) ao (b6d _ _ _ _ _ _ _ _ _ _ _ _ _ _) rfl rfl a1Z a2b (nb rfl) fun be bf bg aq v bh=>?_
   obtain ⟨ar,h⟩:=h
   refine b7z (s:=S8) (xs:=u4) (v.bring 2) a1w (aq.srcO ((v.bring 2).bring 1)) ar fun au av bi aw ax bj=>?_
   exact hn2 _ _ _ (hm2 _ _ h).2 ⟨((u4++[u]),ap),an,au,av,rfl,rfl,aw,((ax.bring 1).drop.bring 1),(hm2 _ _ h).1⟩
  ·exact hn2 _ _ _ (hm2 _ _ h).2 ⟨(u4,am),al,S8,Fs5l2,rfl,rfl,a1w,((m.bring 1).bring 1),(hm2 _ _ h).1⟩
 ·exact hx1 _ _ (hj1 u4 r9 S8 Fs5l2 k _ a1w ((g.bring 1).bring 1) h)
def a0I(p1:a8)(a:m7)(d:m7)(H:Hp)(K:m7→a8→Hp→Prop):Prop:=
 t6 p1 ⟨#[59]⟩ H (fun b c=>
 K a b c)
def a0J(Q4:a8)(a:m7)(e:b6)(b:m7)(H:Hp)(K:m7→a8→Hp→Prop):Prop:=
 t6 Q4 ⟨#[93]⟩ H (fun c d=>
 a0I c a b d K)
def a0K(G8:a8)(a:b6)(b:m7)(c:m7)(H:Hp)(K:m7→a8→Hp→Prop):Prop:=
 (G8.fbad=0→
 a0J (a8.mk G8.fl (IntKind.wrap .i64 (G8.fat+1)) G8.fbad G8.fpos) (m7.mk b.t7 a.G9) a c H K)∧
 (¬(G8.fbad=0)→
 a0J G8 b a c H K)
def a9x(x0:a8)(x1:Bool)(H:Hp)(K:m7→a8→Hp→Prop):Prop:=
 a1y x0 H (fun c d e=>
 (x1=true→
 t6 d ⟨#[91]⟩ e (fun b g=>
 B8 b g (fun a f=>
 (((decide (b.fbad=0))&&(((!decide (a.d8=2))||(decide (a.G9 < 1)))||(decide (2147483647 < a.G9))))=true→
 A5 b 40 f (fun i j=>
 a0K i a (m7.mk c 0) (m7.mk ⟨#[]⟩ 0) j K))∧
 (((decide (b.fbad=0))&&(((!decide (a.d8=2))||(decide (a.G9 < 1)))||(decide (2147483647 < a.G9))))=false→
 a0K b a (m7.mk c 0) (m7.mk ⟨#[]⟩ 0) f K))))∧
 (x1=false→
 a0I d (m7.mk c 0) (m7.mk ⟨#[]⟩ 0) e K))
theorem a9y(x0 x1){H K}(h:a9x x0 x1 H K):a1z x0 x1 H K:=by
 intro g0
 refine Ct.of fun w0 w ps0 H0 R E I hR=>d2k ?_
 refine o7 I Tryz.zeroValue68 (cs:=[(eS),(vi 0)]) rfl fun f am r an=>?_
 refine f9 Tryz.call64 (h g0) (r.bring 1) ?_
 rintro _ s _ ao t _ _ ⟨d,u,rfl,rfl,h⟩
 refine a7 (b6R _) ?_
 refine o7 t Tryz.zeroValue68 (cs:=[(eS),(vi 0)]) rfl fun i ap v aq=>?_
 refine o9 v Tryz.sizeOf68 (vs:=[(Value.string d),(vi 0)]) fun ar n au=>?_
 have hj1:∀(p1:a8)(k:m7) H w (_:Inv w0 ps0 H0 H [bx g0 66 (f7 p1),bx i 68 (u5 k),bx f 68 [(Value.string (m7.mk ⟨#[]⟩ 0).t7),(vi (m7.mk ⟨#[]⟩ 0).a1u)]] w) (_:a0I p1 k (m7.mk ⟨#[]⟩ 0) H K),c4E (Value.pointer (some ⟨g0,0,none⟩)) (Value.pointer (some ⟨f,0,none⟩)) (Value.pointer (some ⟨i,0,none⟩)) w R E:=by
  intro p1 k H w I h
  intro _
  refine f9 Tryz.call65 (h g0) I ?_
  rintro _ y _ av o _ _ ⟨z,rfl,rfl,h⟩
  refine c8 (lW Tryz.isAgg68 Tryz.sizeOf68 rfl (o.bring 1)) ?_
  refine o9 (o.bring 2) Tryz.sizeOf68 (vs:=(u5 k)) fun aw p ax=>?_
  refine q8 Tryz.isAgg68 Tryz.sizeOf68 rfl p ?_
  exact hR _ y _ _ (p.drop.bring 1).drop ⟨k,z,rfl,rfl,h⟩
 refine p7 fun j1 hx1=>?_
 refine l9 h (fun _ h=>?_) (fun _ h=>?_)
 ·refine f9 Tryz.call65 (h g0) (n.bring 1) ?_
  rintro _ _ _ ay aa _ _ ⟨ab,rfl,rfl,h⟩
  refine f9 Tryz.call63 (h g0) aa ?_
  rintro _ ac _ az ad _ _ ⟨j,rfl,rfl,h⟩
  refine o7 ad Tryz.zeroValue103 (cs:=[(vi 0),(eS),(vi 0),(vi 0),(vi 0)]) rfl fun m ba ae bb=>?_
  refine o9 ae Tryz.sizeOf103 (vs:=(i8 j)) fun bc c bd=>?_
  have hj2:∀(G8:a8) H w (_:Inv w0 ps0 H0 H [bx g0 66 (f7 G8),bx m 103 (i8 j),bx i 68 [(Value.string (m7.mk d 0).t7),(vi (m7.mk d 0).a1u)],bx f 68 [(Value.string (m7.mk ⟨#[]⟩ 0).t7),(vi (m7.mk ⟨#[]⟩ 0).a1u)]] w) (_:a0K G8 j (m7.mk d 0) (m7.mk ⟨#[]⟩ 0) H K),c4G (Value.pointer (some ⟨g0,0,none⟩)) (Value.pointer (some ⟨f,0,none⟩)) (Value.pointer (some ⟨i,0,none⟩)) (Value.pointer (some ⟨m,0,none⟩)) w j1 R E:=by
   intro G8 H w I h
   intro _
   have hj3:∀(Q4:a8)(l:m7) H w (_:Inv w0 ps0 H0 H [bx g0 66 (f7 Q4),bx i 68 (u5 l),bx m 103 (i8 j),bx f 68 [(Value.string (m7.mk ⟨#[]⟩ 0).t7),(vi (m7.mk ⟨#[]⟩ 0).a1u)]] w) (_:a0J Q4 l j (m7.mk ⟨#[]⟩ 0) H K),c4F (Value.pointer (some ⟨g0,0,none⟩)) (Value.pointer (some ⟨f,0,none⟩)) (Value.pointer (some ⟨i,0,none⟩)) w j1 R E:=by
    intro Q4 l H w I h
    intro _
    refine f9 Tryz.call65 (h g0) I ?_
    rintro _ af _ be ag _ _ ⟨ah,rfl,rfl,h⟩
    exact hx1 _ _ (hj1 ah l af _ ((((ag.bring 2).drop.bring 2).bring 2).bring 2) h)
   refine p7 fun j3 hx3=>?_
   refine a7 (o3 _) (a7 V4 (c8 (l1 Tryz.isAgg3 I rfl) (a7 pEq ?_)))
   refine m0 h (fun _ h=>?_) (fun _ h=>?_)
   ·refine a7 a3X (c8 (l1 Tryz.isAgg2 (I.bring 1) rfl) (a7 a8j ?_))
    refine A9 (I.bring 2) Tryz.sizeOf3 fun bf q bg=>?_
    refine a7 (o3 _) (a7 T6 (c8 (l1 Tryz.isAgg3 (q.bring 1) rfl) (a7 pAd (a7 (o3 _) ?_))))
    refine a7 T6 ?_
    refine A9 (q.bring 1) Tryz.sizeOf3 fun bh ai bi=>?_
    exact hx3 _ _ (hj3 (a8.mk G8.fl (IntKind.wrap .i64 (G8.fat+1)) G8.fbad G8.fpos) (m7.mk (m7.mk d 0).t7 j.G9) H _ ((((ai.bring 3).bring 3).bring 3).bring 3) h)
   ·exact hx3 _ _ (hj3 G8 (m7.mk d 0) H _ ((((I.bring 3).bring 2).bring 3).bring 3) h)
  refine p7 fun j2 hx2=>?_
  refine a7 (o3 _) (a7 V4 (c8 (l1 Tryz.isAgg3 (c.bring 1) rfl) (a7 pEq ?_)))
  refine a7 (Pu.g fun a=>by with_reducible exact W6) ?_
  refine c8 (Ld.g fun a=>by simp only [g9 a];exact (l1 Tryz.isAgg3 c rfl)) ?_
  refine a7 (Pu.g fun a=>by simp only [g9 a];with_reducible exact pNe) ?_
  simp only [p8,a3K]
  refine a7 (Pu.e (U1 _ _ _) (Pu.g fun hb=>by obtain ⟨a,b⟩:=a0w hb;with_reducible exact a3X)) ?_
  refine c8 (Ld.e (U1 _ _ _) (Ld.g fun hb=>by obtain ⟨a,b⟩:=a0w hb;simp only [g9 hb];exact (l1 Tryz.isAgg2 c rfl))) ?_
  refine a7 (Pu.e (U1 _ _ _) (Pu.g fun hb=>by obtain ⟨a,b⟩:=a0w hb;simp only [g9 hb];with_reducible exact pLs)) ?_
  refine a7 (Pu.g fun a=>by simp only [g9 a,a9Q a];with_reducible exact (y8 _ _)) ?_
  simp only [a3K]
  refine a7 (Pu.e (U1 _ _ _) (Pu.g fun hb=>by obtain ⟨a,b⟩:=a0w hb;with_reducible exact a3X)) ?_
  refine c8 (Ld.e (U1 _ _ _) (Ld.g fun hb=>by obtain ⟨a,b⟩:=a0w hb;simp only [g9 hb];exact (l1 Tryz.isAgg2 c rfl))) ?_
  refine a7 (Pu.e (U1 _ _ _) (Pu.g fun hb=>by obtain ⟨a,b⟩:=a0w hb;simp only [g9 hb];with_reducible exact pGt)) ?_
  refine a7 (Pu.g fun a=>by simp only [g9 a,a9Q a];with_reducible exact (y8 _ _)) ?_
  refine a7 (s6 _ _) ?_
  refine l9 h (fun _ h=>?_) (fun _ h=>?_)
  ·refine f9 Tryz.call66 (h g0) (c.bring 1) ?_
   rintro _ aj _ bj ak _ _ ⟨al,rfl,rfl,h⟩
   exact hx2 _ _ (hj2 al aj _ ((((ak.bring 3).bring 3).bring 3).bring 3) h)
  ·exact hx2 _ _ (hj2 ab ac _ ((((c.bring 3).bring 3).bring 2).bring 3) h)
 ·exact hx1 _ _ (hj1 u (m7.mk d 0) s _ (((n.bring 2).bring 1).bring 2) h)
def a7g(b5K:ByteArray)(b4P:Int)(a6r:Int)(H:Hp)(n1:(Int×Int)→Hp→Prop)(K:Int→Int→Hp→Prop):Prop:=
 U2 b5K b4P H (fun a c b=>
 (((!decide (a=3))&&(!decide (a=4)))=true→
 K b4P a6r b)∧
 (((!decide (a=3))&&(!decide (a=4)))=false→
 n1 ((IntKind.wrap .i64 (b4P+c)),(IntKind.wrap .i64 (a6r+1))) b))
def a8x(x0:ByteArray)(x1:Int)(H:Hp)(K:Int→Int→Hp→Prop):Prop:=
 TL ((x1,0):Int×Int) H fun(s:Int×Int) H n1=>a7g x0 s.1 s.2 H n1 K
theorem b3x(x0 x1){H K}(h:a8x x0 x1 H K):a5p x0 x1 H K:=by
 refine Ct.of fun w0 w ps0 H0 R E I hR=>c9i ?_
 refine A4 (σ:=Int×Int) (fun (b4P,a6r)=>[(vi b4P),(vi a6r)]) (fun (b4P,a6r)=>[]) h rfl I ?_
 rintro ⟨b4P,a6r⟩ H i w next1 n1 b I h hn1
 dsimp only at b I h
 simp only [List.map_cons,List.map_nil,List.cons.injEq,and_true] at b
 obtain ⟨e1,e6⟩:=b
 simp only [e1,e6]
 refine f9 Tryz.call109 h I ?_
 rintro _ e _ j c _ _ ⟨f,d,rfl,rfl,h⟩
 refine a7 (m5 _ _ (vi f) rfl) (a7 (m5 _ _ (vi d) rfl) (a7 pNe ?_))
 simp only [p8]
 refine a7 (Pu.g fun a=>by simp only [g9 a];with_reducible exact pNe) ?_
 refine a7 (s6 _ _) ?_
 refine l9 h (fun _ h=>?_) (fun _ h=>?_)
 ·exact hR _ e _ _ c ⟨b4P,a6r,rfl,rfl,h⟩
 ·refine a7 pAd (a7 pAd ?_)
  exact hn1 ((IntKind.wrap .i64 (b4P+d)),(IntKind.wrap .i64 (a6r+1))) _ _ h c
def X5(a5S:ByteArray)(V1:Int)(a:b6)(H:Hp)(K:b6→Int→Int→Hp→Prop):Prop:=
 (0:Int)≤V1∧V1 < (a5S.size:Int)∧
 ((decide (((a5S.get! (V1:Int).toNat).toNat:Int)=38))=false→(0:Int)≤V1∧V1 < (a5S.size:Int))∧
 (((decide (((a5S.get! (V1:Int).toNat).toNat:Int)=38))||(decide (((a5S.get! (V1:Int).toNat).toNat:Int)=124)))=true→
 K (b6.mk 0 ⟨#[]⟩ 0 (b8.mk 0 0)) 0 20 H)∧
 (((decide (((a5S.get! (V1:Int).toNat).toNat:Int)=38))||(decide (((a5S.get! (V1:Int).toNat).toNat:Int)=124)))=false→
 (0:Int)≤V1∧(V1:Int)≤IntKind.wrap .i64 (V1+1)∧(IntKind.wrap .i64 (V1+1):Int)≤a5S.size∧
 K (b6.mk 4 (a5S.extract (V1:Int).toNat (IntKind.wrap .i64 (V1+1):Int).toNat) 0 (b8.mk 0 0)) (IntKind.wrap .i64 (V1+1)) 0 H)
def G6(c6Y:ByteArray)(b1N:Int)(b6j:Bool)(a:b6)(H:Hp)(K:b6→Int→Int→Hp→Prop):Prop:=
 (b6j=true→
 (0:Int)≤b1N∧(b1N:Int)≤IntKind.wrap .i64 (b1N+2)∧(IntKind.wrap .i64 (b1N+2):Int)≤c6Y.size∧
 K (b6.mk 4 (c6Y.extract (b1N:Int).toNat (IntKind.wrap .i64 (b1N+2):Int).toNat) 0 (b8.mk 0 0)) (IntKind.wrap .i64 (b1N+2)) 0 H)∧
 (b6j=false→
 X5 c6Y b1N a H K)
def a7M(x0:ByteArray)(x1:Int)(H:Hp)(K:b6→Int→Int→Hp→Prop):Prop:=
 ((IntKind.wrap .i64 (x1+1)) < (x0.size:Int)→
 (0:Int)≤x1∧(x1:Int)≤IntKind.wrap .i64 (x1+2)∧(IntKind.wrap .i64 (x1+2):Int)≤x0.size∧
 ((x0.extract (x1:Int).toNat (IntKind.wrap .i64 (x1+2):Int).toNat)=⟨#[61,61]⟩→
 G6 x0 x1 (decide ((x0.extract (x1:Int).toNat (IntKind.wrap .i64 (x1+2):Int).toNat)=⟨#[61,61]⟩)) (b6.mk 0 ⟨#[]⟩ 0 (b8.mk 0 0)) H K)∧
 (¬((x0.extract (x1:Int).toNat (IntKind.wrap .i64 (x1+2):Int).toNat)=⟨#[61,61]⟩)→
 ((x0.extract (x1:Int).toNat (IntKind.wrap .i64 (x1+2):Int).toNat)=⟨#[33,61]⟩→
 G6 x0 x1 (decide ((x0.extract (x1:Int).toNat (IntKind.wrap .i64 (x1+2):Int).toNat)=⟨#[33,61]⟩)) (b6.mk 0 ⟨#[]⟩ 0 (b8.mk 0 0)) H K)∧
 (¬((x0.extract (x1:Int).toNat (IntKind.wrap .i64 (x1+2):Int).toNat)=⟨#[33,61]⟩)→
 ((x0.extract (x1:Int).toNat (IntKind.wrap .i64 (x1+2):Int).toNat)=⟨#[60,61]⟩→
 G6 x0 x1 (decide ((x0.extract (x1:Int).toNat (IntKind.wrap .i64 (x1+2):Int).toNat)=⟨#[60,61]⟩)) (b6.mk 0 ⟨#[]⟩ 0 (b8.mk 0 0)) H K)∧
 (¬((x0.extract (x1:Int).toNat (IntKind.wrap .i64 (x1+2):Int).toNat)=⟨#[60,61]⟩)→
 ((x0.extract (x1:Int).toNat (IntKind.wrap .i64 (x1+2):Int).toNat)=⟨#[62,61]⟩→
 G6 x0 x1 (decide ((x0.extract (x1:Int).toNat (IntKind.wrap .i64 (x1+2):Int).toNat)=⟨#[62,61]⟩)) (b6.mk 0 ⟨#[]⟩ 0 (b8.mk 0 0)) H K)∧
 (¬((x0.extract (x1:Int).toNat (IntKind.wrap .i64 (x1+2):Int).toNat)=⟨#[62,61]⟩)→
 ((x0.extract (x1:Int).toNat (IntKind.wrap .i64 (x1+2):Int).toNat)=⟨#[38,38]⟩→
 G6 x0 x1 (decide ((x0.extract (x1:Int).toNat (IntKind.wrap .i64 (x1+2):Int).toNat)=⟨#[38,38]⟩)) (b6.mk 0 ⟨#[]⟩ 0 (b8.mk 0 0)) H K)∧
 (¬((x0.extract (x1:Int).toNat (IntKind.wrap .i64 (x1+2):Int).toNat)=⟨#[38,38]⟩)→
 G6 x0 x1 (decide ((x0.extract (x1:Int).toNat (IntKind.wrap .i64 (x1+2):Int).toNat)=⟨#[124,124]⟩)) (b6.mk 0 ⟨#[]⟩ 0 (b8.mk 0 0)) H K))))))∧
 (¬((IntKind.wrap .i64 (x1+1)) < (x0.size:Int))→
 X5 x0 x1 (b6.mk 0 ⟨#[]⟩ 0 (b8.mk 0 0)) H K)
theorem b3c(x0 x1){H K}(h:a7M x0 x1 H K):a4o x0 x1 H K:=by
 refine Ct.of fun w0 w ps0 H0 R E I hR=>c9m ?_
 refine o7 I Tryz.zeroValue103 (cs:=[(vi 0),(eS),(vi 0),(vi 0),(vi 0)]) rfl fun d u c v=>?_
 have hj1:∀H w (_:Inv w0 ps0 H0 H [bx d 103 [(vi (b6.mk 0 ⟨#[]⟩ 0 (b8.mk 0 0)).d8),(Value.string (b6.mk 0 ⟨#[]⟩ 0 (b8.mk 0 0)).C3),(vi (b6.mk 0 ⟨#[]⟩ 0 (b8.mk 0 0)).G9),(vi (b6.mk 0 ⟨#[]⟩ 0 (b8.mk 0 0)).fAt.B9),(vi (b6.mk 0 ⟨#[]⟩ 0 (b8.mk 0 0)).fAt.K8)]] w) (_:X5 x0 x1 (b6.mk 0 ⟨#[]⟩ 0 (b8.mk 0 0)) H K),c1T (Value.string x0) (vi x1) (Value.pointer (some ⟨d,0,none⟩)) w R E:=by
  intro H w I h
  intro _
  obtain ⟨j,k,h⟩:=h
  refine a7 (a3j _ _ _ j k) (a7 pEq ?_)
  simp only [p8]
  obtain ⟨b,h⟩:=h
  refine a7 (Pu.g fun hb=>by have a:=hb;simp only [g9 a];with_reducible exact (a3j _ _ _ (b hb).1 (b hb).2)) ?_
  refine a7 (Pu.g fun a=>by simp only [g9 a];with_reducible exact pEq) ?_
  refine a7 (y8 _ _) ?_
  refine l9 h (fun _ h=>?_) (fun _ h=>?_)
  ·refine a7 (a6S) ?_
   refine o9 I Tryz.sizeOf103 (vs:=[(vi 0),(eS),(vi 0),(vi 0),(vi 0)]) fun y e z=>?_
   refine q8 Tryz.isAgg103 Tryz.sizeOf103 rfl e ?_
   exact hR _ H _ _ e.drop ⟨(b6.mk 0 ⟨#[]⟩ 0 (b8.mk 0 0)),0,20,rfl,rfl,h⟩
  ·refine a7 pAd ?_
   obtain ⟨l,m,n,h⟩:=h
   refine a7 (a6Q x0 Tryz.underlying9 l m n) (a7 (a1t _ _) (a7 pAd ?_))
   refine o9 I Tryz.sizeOf103 (vs:=[(vi 4),(Value.string (x0.extract (x1:Int).toNat (IntKind.wrap .i64 (x1+1):Int).toNat)),(vi 0),(vi 0),(vi 0)]) fun aa f ab=>?_
   refine q8 Tryz.isAgg103 Tryz.sizeOf103 rfl f ?_
   exact hR _ H _ _ f.drop ⟨(b6.mk 4 (x0.extract (x1:Int).toNat (IntKind.wrap .i64 (x1+1):Int).toNat) 0 (b8.mk 0 0)),(IntKind.wrap .i64 (x1+1)),0,rfl,rfl,h⟩
 refine p7 fun j1 hx1=>?_
 refine a7 pAd (a7 (X9 _) (a7 pLs ?_))
 refine m0 h (fun _ h=>?_) (fun _ h=>?_)
 ·refine a7 pAd ?_
  obtain ⟨o,p,q,h⟩:=h
  refine a7 (a6Q x0 Tryz.underlying9 o p q) ?_
  have hj2:∀(b6j:Bool) H w (_:Inv w0 ps0 H0 H [bx d 103 [(vi (b6.mk 0 ⟨#[]⟩ 0 (b8.mk 0 0)).d8),(Value.string (b6.mk 0 ⟨#[]⟩ 0 (b8.mk 0 0)).C3),(vi (b6.mk 0 ⟨#[]⟩ 0 (b8.mk 0 0)).G9),(vi (b6.mk 0 ⟨#[]⟩ 0 (b8.mk 0 0)).fAt.B9),(vi (b6.mk 0 ⟨#[]⟩ 0 (b8.mk 0 0)).fAt.K8)]] w) (_:G6 x0 x1 b6j (b6.mk 0 ⟨#[]⟩ 0 (b8.mk 0 0)) H K),c1U (Value.string x0) (vi x1) (Value.pointer (some ⟨d,0,none⟩)) (vB b6j) w j1 R E:=by
   intro b6j H w I h
   intro _
   refine l9 h (fun _ h=>?_) (fun _ h=>?_)
   ·refine a7 pAd ?_
    obtain ⟨r,s,t,h⟩:=h
    refine a7 (a6Q x0 Tryz.underlying9 r s t) (a7 (a1t _ _) (a7 pAd ?_))
    refine o9 I Tryz.sizeOf103 (vs:=[(vi 4),(Value.string (x0.extract (x1:Int).toNat (IntKind.wrap .i64 (x1+2):Int).toNat)),(vi 0),(vi 0),(vi 0)]) fun ac i ad=>?_
    refine q8 Tryz.isAgg103 Tryz.sizeOf103 rfl i ?_
    exact hR _ H _ _ i.drop ⟨(b6.mk 4 (x0.extract (x1:Int).toNat (IntKind.wrap .i64 (x1+2):Int).toNat) 0 (b8.mk 0 0)),(IntKind.wrap .i64 (x1+2)),0,rfl,rfl,h⟩
   ·exact hx1 _ _ (hj1 H _ I h)
  refine p7 fun j2 hx2=>?_
  refine a7 (G1 _ _ _ _ _) ?_
  refine m0 h (fun _ h=>?_) (fun _ h=>?_)
  ·exact hx2 _ _ (hj2 (decide ((x0.extract (x1:Int).toNat (IntKind.wrap .i64 (x1+2):Int).toNat)=⟨#[61,61]⟩)) H _ c h)
  ·refine a7 (G1 _ _ _ _ _) ?_
   refine m0 h (fun _ h=>?_) (fun _ h=>?_)
   ·exact hx2 _ _ (hj2 (decide ((x0.extract (x1:Int).toNat (IntKind.wrap .i64 (x1+2):Int).toNat)=⟨#[33,61]⟩)) H _ c h)
   ·refine a7 (G1 _ _ _ _ _) ?_
    refine m0 h (fun _ h=>?_) (fun _ h=>?_)
    ·exact hx2 _ _ (hj2 (decide ((x0.extract (x1:Int).toNat (IntKind.wrap .i64 (x1+2):Int).toNat)=⟨#[60,61]⟩)) H _ c h)
    ·refine a7 (G1 _ _ _ _ _) ?_
     refine m0 h (fun _ h=>?_) (fun _ h=>?_)
     ·exact hx2 _ _ (hj2 (decide ((x0.extract (x1:Int).toNat (IntKind.wrap .i64 (x1+2):Int).toNat)=⟨#[62,61]⟩)) H _ c h)
     ·refine a7 (G1 _ _ _ _ _) ?_
      refine m0 h (fun _ h=>?_) (fun _ h=>?_)
      ·exact hx2 _ _ (hj2 (decide ((x0.extract (x1:Int).toNat (IntKind.wrap .i64 (x1+2):Int).toNat)=⟨#[38,38]⟩)) H _ c h)
      ·refine a7 (G1 _ _ _ _ _) ?_
       exact hx2 _ _ (hj2 (decide ((x0.extract (x1:Int).toNat (IntKind.wrap .i64 (x1+2):Int).toNat)=⟨#[124,124]⟩)) H _ c h)
 ·exact hx1 _ _ (hj1 H _ c h)
def a2h(b5K:ByteArray)(a4X:(List b6))(b3d:Int)(l:b8)(m:b8)(H:Hp)(n1:((List b6)×Int×b8×b8)→Hp→Prop)(K:Sl→b8→Int→Hp→Prop):Prop:=
 a4m b5K b3d H (fun d o=>
 a1v b5K l b3d d o (fun a f=>
 ((b5K.size:Int)≤d→
 (a4X.length+([(b6.mk 5 ⟨#[]⟩ 0 a)]:List b6).length)*49≤140737488355328∧
 ∀(e:Sl)(g:Hp),Hle f g→SlH g 5 i8 e (a4X++[(b6.mk 5 ⟨#[]⟩ 0 a)])→e.n≤e.c→
 K e (b8.mk 0 0) 0 g)∧
 (¬((b5K.size:Int)≤d)→
 ((a4X.length:Int)=32768→
 K (Sl.mk none 0 0) a 23 f)∧
 (¬((a4X.length:Int)=32768)→
 a5q b5K d f (fun b j i k=>
 (¬(i=0)→
 K (Sl.mk none 0 0) a i k)∧
 (i=0→
 (a4X.length+([(b6.mk b.d8 b.C3 b.G9 a)]:List b6).length)*49≤140737488355328∧
 a1v b5K a d j k (fun p q=>
 n1 ((a4X++[(b6.mk b.d8 b.C3 b.G9 a)]),j,p,m) q)))))))
def a7h(x0:ByteArray)(H:Hp)(K:Sl→b8→Int→Hp→Prop):Prop:=
 a3N x0 H (fun c a b=>
 (a=10→
 K (Sl.mk none 0 0) (b8.mk 1 1) a b)∧
 (¬(a=10)→
 (¬(a=0)→
 a5Q x0 c b (fun d e=>
 K (Sl.mk none 0 0) d a e))∧
 (a=0→
 TL (([],0,(b8.mk 1 1),(b8.mk 0 0)):(List b6)×Int×b8×b8) b fun(s:(List b6)×Int×b8×b8) H n1=>a2h x0 s.1 s.2.1 s.2.2.1 s.2.2.2 H n1 K)))
theorem b1O(x0){H K}(h:a7h x0 H K):a3o x0 H K:=by
 refine Ct.of fun w0 w ps0 H0 R E I hR=>d2i ?_
 refine o7 I Tryz.zeroValue28 (cs:=[(vi 0),(vi 0)]) rfl fun ap bz aq ca=>?_
 refine f9 Tryz.call58 h aq ?_
 rintro _ u _ cb m _ _ ⟨ar,p,rfl,rfl,h⟩
 refine a7 (m5 _ _ (vi ar) rfl) (a7 (m5 _ _ (vi p) rfl) (a7 pEq ?_))
 refine m0 h (fun _ h=>?_) (fun _ h=>?_)
 ·refine a7 (a7a _ _) ?_
  refine o9 m Tryz.sizeOf28 (vs:=[(vi 1),(vi 1)]) fun cc v cd=>?_
  refine q8 Tryz.isAgg28 Tryz.sizeOf28 rfl v ?_
  exact hR _ u _ _ v.drop ⟨(Sl.mk none 0 0),(b8.mk 1 1),p,rfl,rfl,h⟩
 ·refine a7 pNe ?_
  refine Z9 h (fun _ h=>?_) (fun _ h=>?_)
  ·refine f9 Tryz.call59 h m ?_
   rintro _ au _ ce av _ _ ⟨y,rfl,rfl,h⟩
   refine o9 av Tryz.sizeOf28 (vs:=(l7 y)) fun cf z cg=>?_
   refine q8 Tryz.isAgg28 Tryz.sizeOf28 rfl z ?_
   exact hR _ au _ _ z.drop ⟨(Sl.mk none 0 0),y,p,rfl,rfl,h⟩
  ·refine a7 (a7a _ _) ?_
   refine o7 m Tryz.zeroValue28 (cs:=[(vi 0),(vi 0)]) rfl fun aw ch ax ci=>?_
   refine o9 ax Tryz.sizeOf28 (vs:=[(vi 1),(vi 1)]) fun cj ay ck=>?_
   obtain ⟨q,j,az,ba⟩:=h
   refine U0 (J:=fun n l w=>∃(s:(List b6)×Int×b8×b8)(H:Hp)(b7F:Sl)(Fs7l1:Frag),n=j s∧l=(match s with | (a4X,b3d,i,g)=>[(vs b7F),(vi b3d)])∧(match s with | (a4X,b3d,i,g)=>RowL 103 5 i8 b7F a4X Fs7l1)∧(match s with | (a4X,b3d,i,g)=>Inv w0 ps0 H0 H [bx aw 28 (l7 i),bx ap 28 (l7 g),Fs7l1] w)∧q s H) ⟨_,([],0,(b8.mk 1 1),(b8.mk 0 0)),u,(Sl.mk none 0 0),[],rfl,rfl,(RowL.nil a2x a2y),((ay.nil.bring 2).bring 2),az⟩ ?_
   rintro cl cm w next1 ⟨⟨a4X,b3d,i,g⟩,H,b7F,Fs7l1,rfl,r,b9H,I,bb⟩ hn1
   dsimp only at r I b9H
   simp only [List.map_cons,List.map_nil,List.cons.injEq,and_true] at r
   obtain ⟨e7,e9⟩:=r
   simp only [e7,e9]
   obtain ⟨n1,hm1,h⟩:∃n1:((List b6)×Int×b8×b8)→Hp→Prop,(∀s' H',n1 s' H'→q s' H'∧j s' < j (a4X,b3d,i,g))∧a2h x0 a4X b3d i g H n1 K:=⟨_,fun _ _ h=>h,ba (a4X,b3d,i,g) H (fun s' H'=>q s' H'∧j s' < j (a4X,b3d,i,g)) bb (fun _ _ a b=>⟨a,b⟩)⟩
   refine f9 Tryz.call60 h I ?_
   rintro _ _ _ cn aa _ _ ⟨co,rfl,rfl,h⟩
   refine c8 (lW Tryz.isAgg28 Tryz.sizeOf28 rfl aa) ?_
   refine f9 Tryz.call61 h aa ?_
   rintro _ bc _ cp bd _ _ ⟨d,rfl,rfl,h⟩
   refine o9 bd Tryz.sizeOf28 (vs:=(l7 d)) fun cq k cr=>?_
   refine a7 (X9 _) (a7 pGe ?_)
   refine m0 h (fun _ h=>?_) (fun _ h=>?_)
   ·refine c8 (lW Tryz.isAgg28 Tryz.sizeOf28 rfl k) (a7 (b4m _ _ _) ?_)
    refine Q9 (e:=103) (c:=i8) (xs:=[(b6.mk 5 ⟨#[]⟩ 0 d)]) k (b6e _ _ _ _ _) rfl rfl a2x a2y (nb rfl) fun ct cu cv be ab cw=>?_
    obtain ⟨bf,h⟩:=h
    refine b7B (s:=b7F) (xs:=a4X) (ab.bring 3) b9H (be.srcO ((ab.bring 3).bring 1)) bf fun ac cx cy bg bh cz=>?_
    refine a7 (b3G) ?_
    refine o9 ((bh.bring 1).drop.bring 2) Tryz.sizeOf28 (vs:=[(vi 0),(vi 0)]) fun da ad db=>?_
    refine q8 Tryz.isAgg28 Tryz.sizeOf28 rfl ad ?_
    obtain ⟨ae,bi,bj,bk,bl⟩:=Inv.freezeC (ad.bring 1) bg (by decide)
    replace h:=h ac ae bj bk bl
    exact hR _ ae _ _ bi.drop.drop ⟨ac,(b8.mk 0 0),0,rfl,rfl,h⟩
   ·refine a7 (b4H Tryz.underlying61 b9H) (a7 pEq ?_)
    refine m0 h (fun _ h=>?_) (fun _ h=>?_)
    ·refine O6 k fun dc af=>?_
     refine u1 (lW Tryz.isAgg28 Tryz.sizeOf28 rfl af) ?_
     refine o9 (af.bring 1) Tryz.sizeOf28 (vs:=(l7 d)) fun dd ag de=>?_
     refine q8 Tryz.isAgg28 Tryz.sizeOf28 rfl ag ?_
     exact hR _ bc _ _ ag.drop.drop.drop ⟨(Sl.mk none 0 0),d,23,rfl,rfl,h⟩
    ·refine f9 Tryz.call62 h k ?_
     rintro _ bm _ df bn _ _ ⟨f,ah,ai,rfl,rfl,h⟩
     refine a7 (m5 _ _ _ rfl) (a7 (m5 _ _ (vi ah) rfl) (a7 (m5 _ _ (vi ai) rfl) ?_))
     refine o7 bn Tryz.zeroValue103 (cs:=[(vi 0),(eS),(vi 0),(vi 0),(vi 0)]) rfl fun dg dh bo di=>?_
     refine o9 bo Tryz.sizeOf103 (vs:=(i8 f)) fun dj t dk=>?_
     refine a7 pNe ?_
     refine Z9 h (fun _ h=>?_) (fun _ h=>?_)
     ·refine O6 t fun dl aj=>?_
      refine u1 (lW Tryz.isAgg28 Tryz.sizeOf28 rfl (aj.bring 1)) ?_
      refine o9 (aj.bring 2) Tryz.sizeOf28 (vs:=(l7 d)) fun dm ak dn=>?_
      refine q8 Tryz.isAgg28 Tryz.sizeOf28 rfl ak ?_
      exact hR _ bm _ _ ak.drop.drop.drop.drop ⟨(Sl.mk none 0 0),d,ai,rfl,rfl,h⟩
     ·refine c8 (lW Tryz.isAgg28 Tryz.sizeOf28 rfl (t.bring 1)) (a7 b1p ?_)
      refine G7 t Tryz.sizeOf28 (vs:=(l7 d)) (cs':=[(vi f.d8),(Value.string f.C3),(vi f.G9),(vi d.B9),(vi d.K8)]) rfl rfl (nb rfl) rfl rfl fun dp al dq=>?_
      refine c8 (ldA Tryz.isAgg103 Tryz.sizeOf103 rfl (al.at1 (o:=0) (vs:=[(vi f.d8),(Value.string f.C3),(vi f.G9),(vi d.B9),(vi d.K8)]) (nb rfl) rfl)) ?_
      refine Q9 (e:=103) (c:=i8) (xs:=[(b6.mk f.d8 f.C3 f.G9 d)]) al (b6e _ _ _ _ _) rfl rfl a2x a2y (nb rfl) fun dr ds dt bp am du=>?_
      obtain ⟨bq,h⟩:=h
      refine b7B (s:=b7F) (xs:=a4X) (am.bring 4) b9H (bp.srcO ((am.bring 4).bring 1)) bq fun br bs dv bt an dw=>?_
      refine c8 (lW Tryz.isAgg28 Tryz.sizeOf28 rfl ((an.bring 1).drop.bring 2)) ?_
      refine f9 Tryz.call61 h (an.bring 1).drop ?_
      rintro _ bu _ dx bv _ _ ⟨ao,rfl,rfl,h⟩
      refine o9 (bv.bring 2) Tryz.sizeOf28 (vs:=(l7 ao)) fun dy bw dz=>?_
      exact hn1 _ _ _ (hm1 _ _ h).2 ⟨((a4X++[(b6.mk f.d8 f.C3 f.G9 d)]),ah,ao,g),bu,br,bs,rfl,rfl,bt,((((bw.bring 2).drop.bring 1).bring 2).bring 2),(hm1 _ _ h).1⟩
def K7(b6k:Bool)(a:Int)(H:Hp)(K:Int→Hp→Prop):Prop:=
 (b6k=true→
 K 3 H)∧
 (b6k=false→
 K 6 H)
def Z7(b6l:Bool)(a:Int)(H:Hp)(K:Int→Hp→Prop):Prop:=
 (b6l=true→
 K 6 H)∧
 (b6l=false→
 O7 48 57 a H (fun g b=>
 (g=true→
 K 4 b)∧
 (g=false→
 (a=95→
 K7 (decide (a=95)) a b K)∧
 (¬(a=95)→
 O7 97 122 a b (fun c i=>
 (c=true→
 K7 c a i K)∧
 (c=false→
 O7 65 90 a i (fun d j=>
 (d=true→
 K7 d a j K)∧
 (d=false→
 O7 192 591 a j (fun e k=>
 (e=true→
 K7 e a k K)∧
 (e=false→
 O7 913 969 a k (fun f l=>
 (f=true→
 K7 f a l K)∧
 (f=false→
 O7 1040 1103 a l (fun m n=>
 K7 m a n K)))))))))))))
def s8(b4Q:Int)(b6m:Bool)(a:Int)(H:Hp)(K:Int→Hp→Prop):Prop:=
 (b6m=true→
 K 5 H)∧
 (b6m=false→
 (b4Q=215→
 Z7 (decide (b4Q=215)) a H K)∧
 (¬(b4Q=215)→
 (b4Q=247→
 Z7 (decide (b4Q=247)) a H K)∧
 (¬(b4Q=247)→
 Z7 (decide (b4Q=930)) a H K)))
def Z8(y5:Int)(W9:Bool)(a:Int)(H:Hp)(K:Int→Hp→Prop):Prop:=
 (W9=true→
 K 1 H)∧
 (W9=false→
 (y5=10→
 K 2 H)∧
 (¬(y5=10)→
 (y5=59→
 s8 y5 (decide (y5=59)) a H K)∧
 (¬(y5=59)→
 (y5=44→
 s8 y5 (decide (y5=44)) a H K)∧
 (¬(y5=44)→
 (y5=123→
 s8 y5 (decide (y5=123)) a H K)∧
 (¬(y5=123)→
 (y5=125→
 s8 y5 (decide (y5=125)) a H K)∧
 (¬(y5=125)→
 (y5=40→
 s8 y5 (decide (y5=40)) a H K)∧
 (¬(y5=40)→
 (y5=41→
 s8 y5 (decide (y5=41)) a H K)∧
 (¬(y5=41)→
 (y5=91→
 s8 y5 (decide (y5=91)) a H K)∧
 (¬(y5=91)→
 (y5=93→
 s8 y5 (decide (y5=93)) a H K)∧
 (¬(y5=93)→
 (y5=61→
 s8 y5 (decide (y5=61)) a H K)∧
 (¬(y5=61)→
 (y5=33→
 s8 y5 (decide (y5=33)) a H K)∧
 (¬(y5=33)→
 (y5=60→
 s8 y5 (decide (y5=60)) a H K)∧
 (¬(y5=60)→
 (y5=62→
 s8 y5 (decide (y5=62)) a H K)∧
 (¬(y5=62)→
 (y5=43→
 s8 y5 (decide (y5=43)) a H K)∧
 (¬(y5=43)→
 (y5=45→
 s8 y5 (decide (y5=45)) a H K)∧
 (¬(y5=45)→
 (y5=42→
 s8 y5 (decide (y5=42)) a H K)∧
 (¬(y5=42)→
 (y5=47→
 s8 y5 (decide (y5=47)) a H K)∧
 (¬(y5=47)→
 (y5=37→
 s8 y5 (decide (y5=37)) a H K)∧
 (¬(y5=37)→
 (y5=38→
 s8 y5 (decide (y5=38)) a H K)∧
 (¬(y5=38)→
 s8 y5 (decide (y5=124)) a H K))))))))))))))))))))
def b0I(x0:Int)(H:Hp)(K:Int→Hp→Prop):Prop:=
 (x0=32→
 Z8 x0 (decide (x0=32)) x0 H K)∧
 (¬(x0=32)→
 (x0=9→
 Z8 x0 (decide (x0=9)) x0 H K)∧
 (¬(x0=9)→
 Z8 x0 (decide (x0=13)) x0 H K))
theorem b5t(x0){H K}(h:b0I x0 H K):V3 x0 H K:=by
 refine Ct.of fun w0 w ps0 H0 R E I hR=>c9K ?_
 refine Q1 I (cs:=[(Value.int .i32 x0)]) rfl fun a u b v=>?_
 refine c8 (l1 Tryz.isAgg21 b rfl) ?_
 have hj1:∀(W9:Bool) H w (_:Inv w0 ps0 H0 H [bx a 21 [(Value.int .i32 x0)]] w) (_:Z8 x0 W9 x0 H K),c2j (Value.pointer (some ⟨a,0,none⟩)) (Value.int .i32 x0) (vB W9) w R E:=by
  intro W9 H w I h
  intro _
  refine l9 h (fun _ h=>?_) (fun _ h=>?_)
  ·exact hR _ H _ _ I.drop ⟨1,rfl,rfl,h⟩
  ·refine a7 pEq ?_
   refine m0 h (fun _ h=>?_) (fun _ h=>?_)
   ·exact hR _ H _ _ I.drop ⟨2,rfl,rfl,h⟩
   ·have hj2:∀(b6m:Bool) H w (_:Inv w0 ps0 H0 H [bx a 21 [(Value.int .i32 x0)]] w) (_:s8 x0 b6m x0 H K),c2i (Value.pointer (some ⟨a,0,none⟩)) (Value.int .i32 x0) (vB b6m) w R E:=by
     intro b6m H w I h
     intro _
     refine l9 h (fun _ h=>?_) (fun _ h=>?_)
     ·exact hR _ H _ _ I.drop ⟨5,rfl,rfl,h⟩
     ·have hj3:∀(b6l:Bool) H w (_:Inv w0 ps0 H0 H [bx a 21 [(Value.int .i32 x0)]] w) (_:Z7 b6l x0 H K),c2h (Value.pointer (some ⟨a,0,none⟩)) (vB b6l) w R E:=by
       intro b6l H w I h
       intro _
       refine l9 h (fun _ h=>?_) (fun _ h=>?_)
       ·exact hR _ H _ _ I.drop ⟨6,rfl,rfl,h⟩
       ·refine a7 (a1H _ _ _) ?_
        refine a9P (cap:=[(Value.pointer (some ⟨a,0,none⟩))]) Tryz.call151 (h a) I ?_
        rintro _ d _ y c _ _ ⟨z,rfl,rfl,h⟩
        refine l9 h (fun _ h=>?_) (fun _ h=>?_)
        ·exact hR _ d _ _ c.drop ⟨4,rfl,rfl,h⟩
        ·have hj4:∀(b6k:Bool) H w (_:Inv w0 ps0 H0 H [bx a 21 [(Value.int .i32 x0)]] w) (_:K7 b6k x0 H K),c2g (vB b6k) w R E:=by
          intro b6k H w I h
          intro _
          refine l9 h (fun _ h=>?_) (fun _ h=>?_)
          ·exact hR _ H _ _ I.drop ⟨3,rfl,rfl,h⟩
          ·exact hR _ H _ _ I.drop ⟨6,rfl,rfl,h⟩
         refine p7 fun j4 hx4=>?_
         refine c8 (l1 Tryz.isAgg21 c rfl) (a7 pEq ?_)
         refine m0 h (fun _ h=>?_) (fun _ h=>?_)
         ·exact hx4 _ _ (hj4 (decide (x0=95)) d _ c h)
         ·refine a9P (cap:=[(Value.pointer (some ⟨a,0,none⟩))]) Tryz.call151 (h a) c ?_
          rintro _ j _ aa e _ _ ⟨k,rfl,rfl,h⟩
          refine l9 h (fun _ h=>?_) (fun _ h=>?_)
          ·exact hx4 _ _ (hj4 k j _ e h)
          ·refine a9P (cap:=[(Value.pointer (some ⟨a,0,none⟩))]) Tryz.call151 (h a) e ?_
           rintro _ l _ ab f _ _ ⟨m,rfl,rfl,h⟩
           refine l9 h (fun _ h=>?_) (fun _ h=>?_)
           ·exact hx4 _ _ (hj4 m l _ f h)
           ·refine a9P (cap:=[(Value.pointer (some ⟨a,0,none⟩))]) Tryz.call151 (h a) f ?_
            rintro _ n _ ac g _ _ ⟨o,rfl,rfl,h⟩
            refine l9 h (fun _ h=>?_) (fun _ h=>?_)
            ·exact hx4 _ _ (hj4 o n _ g h)
            ·refine a9P (cap:=[(Value.pointer (some ⟨a,0,none⟩))]) Tryz.call151 (h a) g ?_
             rintro _ p _ ad i _ _ ⟨q,rfl,rfl,h⟩
             refine l9 h (fun _ h=>?_) (fun _ h=>?_)
             ·exact hx4 _ _ (hj4 q p _ i h)
             ·refine a9P (cap:=[(Value.pointer (some ⟨a,0,none⟩))]) Tryz.call151 (h a) i ?_
              rintro _ r _ ae s _ _ ⟨t,rfl,rfl,h⟩
              exact hx4 _ _ (hj4 t r _ s h)
      refine p7 fun j3 hx3=>?_
      refine a7 pEq ?_
      refine m0 h (fun _ h=>?_) (fun _ h=>?_)
      ·exact hx3 _ _ (hj3 (decide (x0=215)) H _ I h)
      ·refine a7 pEq ?_
       refine m0 h (fun _ h=>?_) (fun _ h=>?_)
       ·exact hx3 _ _ (hj3 (decide (x0=247)) H _ I h)
       ·refine a7 pEq ?_
        exact hx3 _ _ (hj3 (decide (x0=930)) H _ I h)
    refine p7 fun j2 hx2=>?_
    refine a7 pEq ?_
    refine m0 h (fun _ h=>?_) (fun _ h=>?_)
    ·exact hx2 _ _ (hj2 (decide (x0=59)) H _ I h)
    ·refine a7 pEq ?_
     refine m0 h (fun _ h=>?_) (fun _ h=>?_)
     ·exact hx2 _ _ (hj2 (decide (x0=44)) H _ I h)
     ·refine a7 pEq ?_
      refine m0 h (fun _ h=>?_) (fun _ h=>?_)
      ·exact hx2 _ _ (hj2 (decide (x0=123)) H _ I h)
      ·refine a7 pEq ?_
       refine m0 h (fun _ h=>?_) (fun _ h=>?_)
       ·exact hx2 _ _ (hj2 (decide (x0=125)) H _ I h)
       ·refine a7 pEq ?_
        refine m0 h (fun _ h=>?_) (fun _ h=>?_)
        ·exact hx2 _ _ (hj2 (decide (x0=40)) H _ I h)
        ·refine a7 pEq ?_
         refine m0 h (fun _ h=>?_) (fun _ h=>?_)
         ·exact hx2 _ _ (hj2 (decide (x0=41)) H _ I h)
         ·refine a7 pEq ?_
          refine m0 h (fun _ h=>?_) (fun _ h=>?_)
          ·exact hx2 _ _ (hj2 (decide (x0=91)) H _ I h)
          ·refine a7 pEq ?_
           refine m0 h (fun _ h=>?_) (fun _ h=>?_)
           ·exact hx2 _ _ (hj2 (decide (x0=93)) H _ I h)
           ·refine a7 pEq ?_
            refine m0 h (fun _ h=>?_) (fun _ h=>?_)
            ·exact hx2 _ _ (hj2 (decide (x0=61)) H _ I h)
            ·refine a7 pEq ?_
             refine m0 h (fun _ h=>?_) (fun _ h=>?_)
             ·exact hx2 _ _ (hj2 (decide (x0=33)) H _ I h)
             ·refine a7 pEq ?_
              refine m0 h (fun _ h=>?_) (fun _ h=>?_)
              ·exact hx2 _ _ (hj2 (decide (x0=60)) H _ I h)
              ·refine a7 pEq ?_
               refine m0 h (fun _ h=>?_) (fun _ h=>?_)
               ·exact hx2 _ _ (hj2 (decide (x0=62)) H _ I h)
               ·refine a7 pEq ?_
                refine m0 h (fun _ h=>?_) (fun _ h=>?_)
                ·exact hx2 _ _ (hj2 (decide (x0=43)) H _ I h)
                ·refine a7 pEq ?_
                 refine m0 h (fun _ h=>?_) (fun _ h=>?_)
                 ·exact hx2 _ _ (hj2 (decide (x0=45)) H _ I h)
                 ·refine a7 pEq ?_
                  refine m0 h (fun _ h=>?_) (fun _ h=>?_)
                  ·exact hx2 _ _ (hj2 (decide (x0=42)) H _ I h)
                  ·refine a7 pEq ?_
                   refine m0 h (fun _ h=>?_) (fun _ h=>?_)
                   ·exact hx2 _ _ (hj2 (decide (x0=47)) H _ I h)
                   ·refine a7 pEq ?_
                    refine m0 h (fun _ h=>?_) (fun _ h=>?_)
                    ·exact hx2 _ _ (hj2 (decide (x0=37)) H _ I h)
                    ·refine a7 pEq ?_
                     refine m0 h (fun _ h=>?_) (fun _ h=>?_)
                     ·exact hx2 _ _ (hj2 (decide (x0=38)) H _ I h)
                     ·refine a7 pEq ?_
                      exact hx2 _ _ (hj2 (decide (x0=124)) H _ I h)
 refine p7 fun j1 hx1=>?_
 refine a7 pEq ?_
 refine m0 h (fun _ h=>?_) (fun _ h=>?_)
 ·exact hx1 _ _ (hj1 (decide (x0=32)) H _ b h)
 ·refine a7 pEq ?_
  refine m0 h (fun _ h=>?_) (fun _ h=>?_)
  ·exact hx1 _ _ (hj1 (decide (x0=9)) H _ b h)
  ·refine a7 pEq ?_
   exact hx1 _ _ (hj1 (decide (x0=13)) H _ b h)
def b2j(x0:ByteArray)(H:Hp)(K:Bool→Hp→Prop):Prop:=
 a1f x0 H (fun a b=>
 K (decide (32 < a)) b)
theorem b6N(x0){H K}(h:b2j x0 H K):a6l x0 H K:=by
 refine Ct.of fun w0 w ps0 H0 R E I hR=>d0i ?_
 refine f9 Tryz.call162 h I ?_
 rintro _ a _ d b _ _ ⟨c,rfl,rfl,h⟩
 refine a7 pGt ?_
 exact hR _ a _ _ b ⟨_,rfl,rfl,h⟩
def a1A(H:Hp)(K:Int→Hp→Prop):Prop:=
 K (-1) H
def a5a(d5C:(List ByteArray))(R1:ByteArray)(y1:Int)(C4:Int)(H:Hp)(n2:Int→Hp→Prop)(K:Int→Hp→Prop):Prop:=
 (C4 < y1→
 (0:Int)≤C4∧∃a:ByteArray,(d5C)[(C4:Int).toNat]? = some a∧
 (R1=a→
 K C4 H)∧
 (¬(R1=a)→
 n2 (IntKind.wrap .i64 (C4+1)) H))∧
 (¬(C4 < y1)→
 a1A H K)
def a6s(x0:(List ByteArray))(x1:ByteArray)(H:Hp)(K:Int→Hp→Prop):Prop:=
 TL (0:Int) H fun(s:Int) H n2=>a5a x0 x1 (x0.length:Int) s H n2 K
theorem b0Q(x0 x1){H K}(h:a6s x0 x1 H K):a2z x0 x1 H K:=by
 intro sx0 Fx0 hx0
 refine Ct.of fun w0 w ps0 H0 R E I hR=>d0m ?_
 have hj1:∀H w (_:Inv w0 ps0 H0 H [Fx0] w) (_:a1A H K),c2r w R E:=by
  intro H w I h
  intro _
  exact hR _ H _ _ I ⟨_,rfl,rfl,h⟩
 refine p7 fun j1 hx1=>?_
 refine a7 (b4H Tryz.underlying77 hx0) ?_
 refine A4 (σ:=Int) (fun C4=>[(vi C4)]) (fun C4=>[Fx0]) h rfl I ?_
 rintro C4 H f w next2 n2 b I h hn2
 simp only [List.map_cons,List.map_nil,List.cons.injEq,and_true] at b
 have e8:=b
 simp only [e8]
 refine a7 pLs ?_
 refine m0 h (fun _ h=>?_) (fun _ h=>?_)
 ·obtain ⟨c,e,a,h⟩:=h
  obtain ⟨g,i,d,j⟩:=hx0.addr a
  refine a7 (c0i d _ _ _ _ c (hx0.lt c a)) (c8 (ld1 (v:=(Value.string e)) Tryz.isAgg9 (hx0.atW I d a)) (a7 (G1 _ _ _ _ _) ?_))
  refine m0 h (fun _ h=>?_) (fun _ h=>?_)
  ·exact hR _ H _ _ I ⟨_,rfl,rfl,h⟩
  ·refine a7 pAd ?_
   exact hn2 (IntKind.wrap .i64 (C4+1)) _ _ h I
 ·exact hx1 _ _ (hj1 H _ I h)
def T0(d:Int)(e:Int)(f:Int)(g:Bool)(i:Bool)(j:(List ByteArray))(H:Hp)(K:q9→Hp→Prop):Prop:=
 ∀(a:Sl)(b:Hp),Hle H b→SlH b 1 M9 a j→a.n≤a.c→
 K (q9.mk d e f g i a) b
def b0b(x0:Sl)(H:Hp)(K:q9→Hp→Prop):Prop:=
 a0P x0 1 (q9.mk 0 0 0 false false (Sl.mk none 0 0)) [] H (fun d a b c=>
 ((!d)=true→
 T0 a.fnodes a.fdepth a.fe a.fform a.fnamed b c K)∧
 ((!d)=false→
 (a.fform=true→
 T0 a.fnodes a.fdepth 30 a.fform a.fnamed b c K)∧
 (a.fform=false→
 (a.fnamed=true→
 T0 a.fnodes a.fdepth 31 a.fform a.fnamed b c K)∧
 (a.fnamed=false→
 T0 a.fnodes a.fdepth a.fe a.fform a.fnamed b c K))))
theorem b4R(x0){H K}(h:b0b x0 H K):a6T x0 H K:=by
 refine Ct.of fun w0 w ps0 H0 R E I hR=>d3o ?_
 refine a7 (c4q) ?_
 refine Q1 I (cs:=[(vi 0),(vi 0),(vi 0),(vB false),(vB false),(nS)]) rfl fun d aj y ak=>?_
 refine o7 y Tryz.zeroValue80 (cs:=[(Value.pointer none)]) rfl fun c al z am=>?_
 refine o9 z Tryz.sizeOf80 (vs:=[(Value.pointer (some ⟨d,0,none⟩))]) fun an aa ao=>?_
 refine o7 aa Tryz.zeroValue169 (cs:=[Value.nilFunc]) rfl fun f ap ab aq=>?_
 refine a7 (a1H _ _ _) ?_
 refine o9 ab Tryz.sizeOf169 (vs:=[(Value.func (.func 118) #[] #[(Value.pointer (some ⟨c,0,none⟩)),(Value.pointer (some ⟨f,0,none⟩))])]) fun ar u au=>?_
 have hj1:∀(i:Int)(j:Int)(k:Int)(l:Bool)(m:Bool)(s:(List ByteArray))(g:Sl)(t:Frag) H w (_:RowL 9 1 M9 g s t) (_:Inv w0 ps0 H0 H [bx c 80 [(Value.pointer (some ⟨d,0,none⟩))],bx d 79 [(vi i),(vi j),(vi k),(vB l),(vB m),(vs g)],bx f 169 [(Value.func (.func 118) #[] #[(Value.pointer (some ⟨c,0,none⟩)),(Value.pointer (some ⟨f,0,none⟩))])],t] w) (_:T0 i j k l m s H K),c5q (Value.pointer (some ⟨c,0,none⟩)) w R E:=by
  intro i j k l m s g t H w ac I h
  intro _
  refine c8 (l1 Tryz.isAgg80 I rfl) ?_
  obtain ⟨v,ad,ae,af,ag⟩:=Inv.freezeC (I.bring 3) ac (by decide)
  replace h:=h g v ae af ag
  exact hR _ v _ _ (ad.drop.bring 1).drop ⟨(q9.mk i j k l m g),d,rfl,rfl,h⟩
 refine p7 fun j1 hx1=>?_
 refine c8 (l1 Tryz.isAgg169 u rfl) ?_
 refine a9P (cap:=[(Value.pointer (some ⟨c,0,none⟩)),(Value.pointer (some ⟨f,0,none⟩))]) Tryz.call118 (h c d f (Sl.mk none 0 0) ([]) (RowL.nil (e:=9) b1q b1r)) ((((u.nil.bring 1).bring 1).bring 3).bring 3) ?_
 rintro _ n _ av b _ _ ⟨aw,a,o,p,q,rfl,rfl,r,h⟩
 refine a7 (E1 _) ?_
 refine l9 h (fun _ h=>?_) (fun _ h=>?_)
 ·exact hx1 _ _ (hj1 a.fnodes a.fdepth a.fe a.fform a.fnamed o p q n _ r ((((b.bring 2).bring 3).bring 3).bring 3) h)
 ·refine c8 (l1 Tryz.isAgg80 b rfl) (a7 (o3 _) (a7 b4L (c8 (l1 Tryz.isAgg4 (b.bring 1) rfl) ?_)))
  refine l9 h (fun _ h=>?_) (fun _ h=>?_)
  ·refine c8 (l1 Tryz.isAgg80 b rfl) (a7 (o3 _) (a7 a9T ?_))
   refine A9 (b.bring 1) Tryz.sizeOf29 fun ax ah ay=>?_
   exact hx1 _ _ (hj1 a.fnodes a.fdepth 30 a.fform a.fnamed o p q n _ r ((((ah.bring 2).bring 3).bring 2).bring 3) h)
  ·refine c8 (l1 Tryz.isAgg80 b rfl) (a7 (o3 _) (a7 b4M (c8 (l1 Tryz.isAgg4 (b.bring 1) rfl) ?_)))
   refine l9 h (fun _ h=>?_) (fun _ h=>?_)
   ·refine c8 (l1 Tryz.isAgg80 b rfl) (a7 (o3 _) (a7 a9T ?_))
    refine A9 (b.bring 1) Tryz.sizeOf29 fun az ai ba=>?_
    exact hx1 _ _ (hj1 a.fnodes a.fdepth 31 a.fform a.fnamed o p q n _ r ((((ai.bring 2).bring 3).bring 2).bring 3) h)
   ·exact hx1 _ _ (hj1 a.fnodes a.fdepth a.fe a.fform a.fnamed o p q n _ r ((((b.bring 2).bring 3).bring 3).bring 3) h)
def b0J(x0:l8)(H:Hp)(K:Int→Hp→Prop):Prop:=
 a8E x0 H (fun a b=>
 K a.fe b)
theorem b5u(x0){H K}(h:b0J x0 H K):a7s x0 H K:=by
 refine Ct.of fun w0 w ps0 H0 R E I hR=>d1Y ?_
 refine Q1 I (cs:=(p5 x0)) rfl fun e f a g=>?_
 refine c8 (lW Tryz.isAgg26 Tryz.sizeOf26 rfl a) ?_
 refine f9 Tryz.call32 h a ?_
 rintro _ c _ i b _ _ ⟨d,j,rfl,rfl,h⟩
 refine a7 (o3 _) (a7 a9T (c8 (l1 Tryz.isAgg29 b rfl) ?_))
 exact hR _ c _ _ b.drop.drop ⟨_,rfl,rfl,h⟩
def a9c(x0:b7)(H:Hp)(K:Bool→Hp→Prop):Prop:=
 C0 x0 H (fun a e=>
 TG ((decide (a.d8=1))=false) (u6 x0 ⟨#[105,102]⟩ e) false e (fun(b:Bool)(f:Hp)=>
 TG (((decide (a.d8=1))||b)=false) (u6 x0 ⟨#[119,104,105,108,101]⟩ f) false f (fun(c:Bool)(g:Hp)=>
 TG ((((decide (a.d8=1))||b)||c)=false) (u6 x0 ⟨#[97,115,115,101,114,116]⟩ g) false g (fun(d:Bool)(i:Hp)=>
 TG (((((decide (a.d8=1))||b)||c)||d)=false) (u6 x0 ⟨#[97,115,115,117,109,101]⟩ i) false i (fun(j:Bool)(k:Hp)=>
 TG ((((((decide (a.d8=1))||b)||c)||d)||j)=false) (u6 x0 ⟨#[115,107,105,112]⟩ k) false k (fun(l:Bool)(m:Hp)=>
 K ((((((decide (a.d8=1))||b)||c)||d)||j)||l) m))))))
theorem a9d(x0){H K}(h:a9c x0 H K):R4 x0 H K:=by
 intro g0
 refine Ct.of fun w0 w ps0 H0 R E I hR=>d2K ?_
 refine f9 Tryz.call51 (h g0) I ?_
 rintro _ ap _ aq n _ _ ⟨aj,rfl,rfl,h⟩
 refine a7 a6p (a7 pEq ?_)
 simp only [p8]
 refine C5 [bx g0 101 (g8 x0)] (fun b:Bool=>(vB b)) h n (fun a h=>by simp only [g9 a];exact D5 Tryz.call53 (h g0) n) fun b p ak g q r h=>?_
 refine a7 (y8 _ _) ?_
 simp only [p8]
 refine C5 [bx g0 101 (g8 x0)] (fun c:Bool=>(vB c)) h g (fun a h=>by simp only [g9 a];exact D5 Tryz.call53 (h g0) g) fun c t al i u v h=>?_
 refine a7 (y8 _ _) ?_
 simp only [p8]
 refine C5 [bx g0 101 (g8 x0)] (fun d:Bool=>(vB d)) h i (fun a h=>by simp only [g9 a];exact D5 Tryz.call53 (h g0) i) fun d z am j aa ab h=>?_
 refine a7 (y8 _ _) ?_
 simp only [p8]
 refine C5 [bx g0 101 (g8 x0)] (fun e:Bool=>(vB e)) h j (fun a h=>by simp only [g9 a];exact D5 Tryz.call53 (h g0) j) fun e ad an k ae af h=>?_
 refine a7 (y8 _ _) ?_
 simp only [p8]
 refine C5 [bx g0 101 (g8 x0)] (fun f:Bool=>(vB f)) h k (fun a h=>by simp only [g9 a];exact D5 Tryz.call53 (h g0) k) fun f l ao m ah ai h=>?_
 refine a7 (y8 _ _) ?_
 exact hR _ l _ _ m ⟨_,rfl,rfl,h⟩
def a9e(x0:b7)(H:Hp)(K:Bool→Hp→Prop):Prop:=
 C0 x0 H (fun a c=>
 TG (((decide (a.d8=1))||(decide (a.d8=2)))=false) (u6 x0 ⟨#[45]⟩ c) false c (fun(b:Bool)(d:Hp)=>
 TG ((((decide (a.d8=1))||(decide (a.d8=2)))||b)=false) (u6 x0 ⟨#[105,110,112,117,116]⟩ d) false d (fun(e:Bool)(f:Hp)=>
 TG (((((decide (a.d8=1))||(decide (a.d8=2)))||b)||e)=false) (u6 x0 ⟨#[40]⟩ f) false f (fun(g:Bool)(i:Hp)=>
 K (((((decide (a.d8=1))||(decide (a.d8=2)))||b)||e)||g) i))))
theorem a9f(x0){H K}(h:a9e x0 H K):H8 x0 H K:=by
 intro g0
 refine Ct.of fun w0 w ps0 H0 R E I hR=>c9T ?_
 refine f9 Tryz.call51 (h g0) I ?_
 rintro _ ac _ ad k _ _ ⟨l,rfl,rfl,h⟩
 refine a7 a6p (a7 pEq ?_)
 simp only [p8]
 refine a7 (Pu.g fun a=>by simp only [g9 a];with_reducible exact pEq) ?_
 refine a7 (y8 _ _) ?_
 simp only [p8]
 refine C5 [bx g0 101 (g8 x0)] (fun b:Bool=>(vB b)) h k (fun a h=>by simp only [g9 a];exact D5 Tryz.call53 (h g0) k) fun b n z e o p h=>?_
 refine a7 (y8 _ _) ?_
 simp only [p8]
 refine C5 [bx g0 101 (g8 x0)] (fun c:Bool=>(vB c)) h e (fun a h=>by simp only [g9 a];exact D5 Tryz.call53 (h g0) e) fun c r aa f s t h=>?_
 refine a7 (y8 _ _) ?_
 simp only [p8]
 refine C5 [bx g0 101 (g8 x0)] (fun d:Bool=>(vB d)) h f (fun a h=>by simp only [g9 a];exact D5 Tryz.call53 (h g0) f) fun d i ab j v y h=>?_
 refine a7 (y8 _ _) ?_
 exact hR _ i _ _ j ⟨_,rfl,rfl,h⟩
def a1S [PanQ] (T8:(List b9)) (p1:b7) (H:Hp) (K:Sl→b7→Hp→Prop):Prop:=
 ∀(C8:Sl)(a:Hp),Hle H a→SlH a 6 m6 C8 T8→C8.n≤C8.c→
 K C8 p1 a
def a1T [PanQ] (R1:Int) (u4:(List b9)) (r9:b7) (H:Hp) (n2:((List b9)×b7)→Hp→Prop) (K:Sl→b7→Hp→Prop):Prop:=
 y4 r9 ⟨#[125]⟩ H (fun b a c=>
 ((!b)=true→
 R4 a c (fun e f=>
 D2 a (IntKind.wrap .i64 (R1+1)) e f (fun g=>
 Y2 a (IntKind.wrap .i64 (R1+1)) g (fun d i j=>
 (u4.length+([d]:List b9).length)*121≤140737488355328∧
 n2 ((u4++[d]),i) j))))∧
 ((!b)=false→
 a1S u4 a c K))
def a6H [PanQ] (x0:b7) (x1:Int) (H:Hp) (K:Sl→b7→Hp→Prop):Prop:=
 C6 x0 ⟨#[123]⟩ H (fun a b=>
 TL (([],a):(List b9)×b7) b fun(s:(List b9)×b7) H n2=>a1T x1 s.1 s.2 H n2 K)
theorem b1A [PanQ] (x0:b7) (x1:Int) {H:Hp} {K:Sl→b7→Hp→Prop} (h:a6H x0 x1 H K):X4 x0 x1 H K:=by
 intro g0
 refine Ct.ofE fun w0 w ps0 H0 R E I hR hE=>c9d ?_
 refine A7 hE Tryz.call103 (h g0) I ?_
 rintro _ o _ ao p _ _ ⟨q,rfl,rfl,h⟩
 have hj1:∀(T8:(List b9))(p1:b7)(C8:Sl)(Fs5j1:Frag) H w (_:RowL 56 6 m6 C8 T8 Fs5j1) (_:Inv w0 ps0 H0 H [bx g0 101 (g8 p1),Fs5j1] w) (_:a1S T8 p1 H K),c1O (vs C8) w R E:=by
  intro T8 p1 C8 Fs5j1 H w b0a I h
  intro _
  obtain ⟨i,r,t,u,v⟩:=Inv.freezeC (I.bring 1) b0a (by decide)
  replace h:=h C8 i t u v
  exact hR _ i _ _ r ⟨C8,p1,rfl,rfl,h⟩
 refine p7 fun j1 hx1=>?_
 obtain ⟨f,d,y,z⟩:=h
 refine U0 (J:=fun n l w=>∃(s:(List b9)×b7)(H:Hp)(S8:Sl)(Fs5l2:Frag),n=d s∧l=(match s with | (u4,r9)=>[(vs S8)])∧(match s with | (u4,r9)=>RowL 56 6 m6 S8 u4 Fs5l2)∧(match s with | (u4,r9)=>Inv w0 ps0 H0 H [bx g0 101 (g8 r9),Fs5l2] w)∧f s H) ⟨_,([],q),o,(Sl.mk none 0 0),[],rfl,rfl,(RowL.nil a1Z a2b),(p.nil.bring 1),y⟩ ?_
 rintro ap aq w next2 ⟨⟨u4,r9⟩,H,S8,Fs5l2,rfl,g,a1w,I,aa⟩ hn2
 dsimp only at g I a1w
 simp only [List.map_cons,List.map_nil,List.cons.injEq,and_true] at g
 have e5:=g
 simp only [e5]
 obtain ⟨n2,hm2,h⟩:∃n2:((List b9)×b7)→Hp→Prop,(∀s' H',n2 s' H'→f s' H'∧d s' < d (u4,r9))∧a1T x1 u4 r9 H n2 K:=⟨_,fun _ _ h=>h,z (u4,r9) H (fun s' H'=>f s' H'∧d s' < d (u4,r9)) aa (fun _ _ a b=>⟨a,b⟩)⟩
 refine f9 Tryz.call105 (h g0) I ?_
 rintro _ ab _ ar j _ _ ⟨au,ac,rfl,rfl,h⟩
 refine a7 (E1 _) ?_
 refine l9 h (fun _ h=>?_) (fun _ h=>?_)
 ·refine a7 pAd ?_
  refine f9 Tryz.call56 (h g0) j ?_
  rintro _ _ _ av ad _ _ ⟨aw,rfl,rfl,h⟩
  refine A7 hE Tryz.call55 (h g0) ad ?_
  rintro _ _ _ ax ae _ _ ⟨rfl,rfl,h⟩
  refine a7 pAd ?_
  refine A7 hE Tryz.call57 (h g0) ae ?_
  rintro _ af _ ay ag _ _ ⟨k,ah,rfl,rfl,h⟩
  refine Q9 (e:=56) (c:=m6) (xs:=[k]) ag (b6d _ _ _ _ _ _ _ _ _ _ _ _ _ _) rfl rfl a1Z a2b (nb rfl) fun az ba bb ai m bc=>?_
  obtain ⟨aj,h⟩:=h
  refine b7z (s:=S8) (xs:=u4) (m.bring 2) a1w (ai.srcO ((m.bring 2).bring 1)) aj fun ak al bd am an be=>?_
  exact hn2 _ _ _ (hm2 _ _ h).2 ⟨((u4++[k]),ah),af,ak,al,rfl,rfl,am,((an.bring 1).drop.bring 1),(hm2 _ _ h).1⟩
 ·exact hx1 _ _ (hj1 u4 ac S8 Fs5l2 ab _ a1w ((j.bring 1).bring 1) h)
def a7N(x0:j8)(a:(List b6))(H:Hp)(K:ByteArray→Hp→Prop):Prop:=
 (0:Int)≤x0.fn∧(x0.fn:Int)≤x0.fs.size∧
 K (x0.fs.extract (x0.fn:Int).toNat x0.fs.size) H
theorem b3e(x0 b){H K}(h:a7N x0 b H K):V9 x0 b H K:=by
 intro g0 e f g
 refine Ct.of fun w0 w ps0 H0 R E I hR=>c9M ?_
 refine O6 I fun i a=>?_
 refine o5 (o3 _) ?_
 refine o5 a8K ?_
 refine o5 (o3 _) ?_
 refine o5 a0v ?_
 refine u1 (l1 Tryz.isAgg9 a rfl) ?_
 refine u1 (l1 Tryz.isAgg3 a rfl) ?_
 obtain ⟨c,d,h⟩:=h
 refine o5 (c1F x0.fs Tryz.underlying9 c d) ?_
 exact hR _ H _ _ ((a.bring 1).bring 1) ⟨_,rfl,rfl,h⟩
def B1(W9:Int)(y2:ByteArray)(y3:Int)(A0:b8)(D3:(List b6))(H:Hp)(K:ByteArray→j8→(List b6)→Hp→Prop):Prop:=
 (0:Int)≤W9∧(W9:Int)≤y3∧(y3:Int)≤y2.size∧
 K (y2.extract (W9:Int).toNat (y3:Int).toNat) (j8.mk y2 y3 A0 (Sl.mk none 0 0)) D3 H
def B2(E7:Int)(E9:Int)(y1:Bool)(v6:ByteArray)(v7:Int)(t8:b8)(s7:(List b6))(H:Hp)(n2:(Int×Bool×ByteArray×Int×b8×(List b6))→Hp→Prop)(K:ByteArray→j8→(List b6)→Hp→Prop):Prop:=
 TG (y1=true) (a2A E9 H) false H (fun(b:Bool)(c:Hp)=>
 ((y1&&b)=true→
 K9 (j8.mk v6 v7 t8 (Sl.mk none 0 0)) s7 c (fun a d e=>
 E2 (z8 a) d e (fun f g i=>
 n2 (f,g,a.fs,a.fn,a.fat,d) i)))∧
 ((y1&&b)=false→
 B1 E7 v6 v7 t8 s7 c K))
def N9(x0:j8)(a:(List b6))(H:Hp)(K:ByteArray→j8→(List b6)→Hp→Prop):Prop:=
 E2 (z8 x0) a H (fun b c d=>
 TL ((b,c,x0.fs,x0.fn,x0.fat,a):Int×Bool×ByteArray×Int×b8×(List b6)) d fun(s:Int×Bool×ByteArray×Int×b8×(List b6)) H n2=>B2 x0.fn s.1 s.2.1 s.2.2.1 s.2.2.2.1 s.2.2.2.2.1 s.2.2.2.2.2 H n2 K)
theorem a2R(x0 f){H K}(h:N9 x0 f H K):N7 x0 f H K:=by
 intro g0 o p q
 refine Ct.of fun w0 w ps0 H0 R E I hR=>b6f ?_
 unfold N9 at h
 unfold c0m
 refine a7 (o3 _) (a7 a0v (c8 (l1 Tryz.isAgg3 I rfl) ?_))
 have hj1:∀(y2:ByteArray)(y3:Int)(A0:b8)(D3:(List b6))(Y0:Sl)(P1:Frag) H w (_:RowL 103 5 i8 Y0 D3 P1) (_:Inv w0 ps0 H0 H [bx g0 155 [(Value.string y2),(vi y3),(vi A0.B9),(vi A0.K8),(vs Y0)],P1] w) (_:B1 x0.fn y2 y3 A0 D3 H K),a8l (Value.pointer (some ⟨g0,0,none⟩)) (vi x0.fn) w R E:=by
  intro y2 y3 A0 D3 Y0 P1 H w a5T I h
  unfold a8l
  intro _
  unfold B1 at h
  refine O6 I fun au g=>?_
  refine o5 (o3 _) ?_
  refine o5 a8K ?_
  refine o5 (o3 _) ?_
  refine o5 a0v ?_
  refine u1 (l1 Tryz.isAgg9 g rfl) ?_
  refine u1 (l1 Tryz.isAgg3 g rfl) ?_
  obtain ⟨af,ag,ah,h⟩:=h
  refine o5 (a6Q y2 Tryz.underlying9 af ag ah) ?_
  exact hR _ H _ _ ((g.bring 1).bring 1) ⟨(y2.extract (x0.fn:Int).toNat (y3:Int).toNat),(j8.mk y2 y3 A0 (Sl.mk none 0 0)),D3,Y0,P1,rfl,rfl,a5T,h⟩
 refine p7 fun j1 hx1=>?_
 refine f9 Tryz.call100 (h g0 o p q) ((I.bring 1).bring 1) ?_
 rintro _ ai _ av aj _ _ ⟨r,t,rfl,rfl,h⟩
 refine a7 (m5 _ _ (Value.int .i32 r) rfl) (a7 (m5 _ _ (vB t) rfl) ?_)
 obtain ⟨i,c,ak,al⟩:=h
 refine U0 (J:=fun n l w=>∃(s:Int×Bool×ByteArray×Int×b8×(List b6))(H:Hp)(R6:Sl)(J0:Frag),n=c s∧l=(match s with | (E9,y1,v6,v7,t8,s7)=>[(Value.int .i32 E9),(vB y1)])∧(match s with | (E9,y1,v6,v7,t8,s7)=>RowL 103 5 i8 R6 s7 J0)∧(match s with | (E9,y1,v6,v7,t8,s7)=>Inv w0 ps0 H0 H [bx g0 155 [(Value.string v6),(vi v7),(vi t8.B9),(vi t8.K8),(vs R6)],J0] w)∧i s H) ⟨_,(r,t,x0.fs,x0.fn,x0.fat,f),ai,o,p,rfl,rfl,q,((aj.bring 1).bring 1),ak⟩ ?_
 rintro aw ax w next2 ⟨⟨E9,y1,v6,v7,t8,s7⟩,H,R6,J0,rfl,j,T9,I,am⟩ hn2
 dsimp only at j I T9
 simp only [List.map_cons,List.map_nil,List.cons.injEq,and_true] at j
 obtain ⟨e6,e7⟩:=j
 simp only [e6,e7]
 obtain ⟨n2,hm2,h⟩:∃n2:(Int×Bool×ByteArray×Int×b8×(List b6))→Hp→Prop,(∀s' H',n2 s' H'→i s' H'∧c s' < c (E9,y1,v6,v7,t8,s7))∧B2 x0.fn E9 y1 v6 v7 t8 s7 H n2 K:=⟨_,fun _ _ h=>h,al (E9,y1,v6,v7,t8,s7) H (fun s' H'=>i s' H'∧c s' < c (E9,y1,v6,v7,t8,s7)) am (fun _ _ a b=>⟨a,b⟩)⟩
 unfold b4q
 unfold B2 at h
 simp only [p8]
 refine C5 [] (fun d:Bool=>(vB d)) h I (fun z h=>by simp only [g9 z];exact D5 Tryz.call136 h I) fun d k an e v y h=>?_
 refine a7 (s6 _ _) ?_
 refine l9 h (fun _ h=>?_) (fun _ h=>?_)
 ·refine f9 Tryz.call152 (h g0 R6 J0 T9) ((e.bring 1).bring 1) ?_
  rintro _ _ _ ay ao _ _ ⟨m,ap,aa,ab,rfl,rfl,ac,h⟩
  refine f9 Tryz.call100 (h g0 aa ab ac) ((ao.bring 1).bring 1) ?_
  rintro _ aq _ az ar _ _ ⟨ad,ae,rfl,rfl,h⟩
  refine a7 (m5 _ _ (Value.int .i32 ad) rfl) (a7 (m5 _ _ (vB ae) rfl) ?_)
  exact hn2 _ _ _ (hm2 _ _ h).2 ⟨(ad,ae,m.fs,m.fn,m.fat,ap),aq,aa,ab,rfl,rfl,ac,((ar.bring 1).bring 1),(hm2 _ _ h).1⟩
 ·exact hx1 _ _ (hj1 v6 v7 t8 s7 R6 J0 k _ T9 ((e.bring 1).bring 1) h)
def a6t(x0:Int)(H:Hp)(K:Bool→Hp→Prop):Prop:=
 V3 x0 H (fun a b=>
 K ((decide (a=1))||(decide (a=2))) b)
theorem b0R(x0){H K}(h:a6t x0 H K):a2B x0 H K:=by
 refine Ct.of fun w0 w ps0 H0 R E I hR=>c9J ?_
 refine f9 Tryz.call132 h I ?_
 rintro _ c _ e d _ _ ⟨b,rfl,rfl,h⟩
 refine a7 pEq ?_
 simp only [p8]
 refine a7 (Pu.g fun a=>by simp only [g9 a];with_reducible exact pEq) ?_
 refine a7 (y8 _ _) ?_
 exact hR _ c _ _ d ⟨_,rfl,rfl,h⟩
def a2i(a4g:ByteArray)(a4h:Int)(a3k:b8)(a2D:(List b6))(H:Hp)(n1:(ByteArray×Int×b8×(List b6))→Hp→Prop)(K:j8→(List b6)→Hp→Prop):Prop:=
 V9 (j8.mk a4g a4h a3k (Sl.mk none 0 0)) a2D H (fun d e=>
 a4W d ⟨#[35]⟩ e (fun b c=>
 (b=true→
 N7 (j8.mk a4g a4h a3k (Sl.mk none 0 0)) a2D c (fun l f g i=>
 F0 (z8 f) g i (fun m a j k=>
 n1 (a.fs,a.fn,a.fat,j) k)))∧
 (b=false→
 K (j8.mk a4g a4h a3k (Sl.mk none 0 0)) a2D c)))
def a7i(x0:j8)(b:(List b6))(H:Hp)(K:j8→(List b6)→Hp→Prop):Prop:=
 F0 (z8 x0) b H (fun e a c d=>
 TL ((a.fs,a.fn,a.fat,c):ByteArray×Int×b8×(List b6)) d fun(s:ByteArray×Int×b8×(List b6)) H n1=>a2i s.1 s.2.1 s.2.2.1 s.2.2.2 H n1 K)
theorem b1P(x0 g){H K}(h:a7i x0 g H K):a1d x0 g H K:=by
 intro g0 k m o
 refine Ct.of fun w0 w ps0 H0 R E I hR=>d3U ?_
 refine f9 Tryz.call133 (h g0 k m o) ((I.bring 1).bring 1) ?_
 rintro _ p _ an q _ _ ⟨ao,d,r,t,u,rfl,rfl,v,h⟩
 obtain ⟨e,c,y,z⟩:=h
 refine U0 (J:=fun n l w=>∃(s:ByteArray×Int×b8×(List b6))(H:Hp)(b0S:Sl)(b0T:Frag),n=c s∧l=(match s with | (a4g,a4h,a3k,a2D)=>[])∧(match s with | (a4g,a4h,a3k,a2D)=>RowL 103 5 i8 b0S a2D b0T)∧(match s with | (a4g,a4h,a3k,a2D)=>Inv w0 ps0 H0 H [bx g0 155 [(Value.string a4g),(vi a4h),(vi a3k.B9),(vi a3k.K8),(vs b0S)],b0T] w)∧e s H) ⟨_,(d.fs,d.fn,d.fat,r),p,t,u,rfl,rfl,v,((q.bring 1).bring 1),y⟩ ?_
 rintro ap aq w next1 ⟨⟨a4g,a4h,a3k,a2D⟩,H,b0S,b0T,rfl,i,b4S,I,aa⟩ hn1
 dsimp only at i I b4S
 clear i
 obtain ⟨n1,hm1,h⟩:∃n1:(ByteArray×Int×b8×(List b6))→Hp→Prop,(∀s' H',n1 s' H'→e s' H'∧c s' < c (a4g,a4h,a3k,a2D))∧a2i a4g a4h a3k a2D H n1 K:=⟨_,fun _ _ h=>h,z (a4g,a4h,a3k,a2D) H (fun s' H'=>e s' H'∧c s' < c (a4g,a4h,a3k,a2D)) aa (fun _ _ a b=>⟨a,b⟩)⟩
 refine f9 Tryz.call135 (h g0 b0S b0T b4S) ((I.bring 1).bring 1) ?_
 rintro _ _ _ ar ab _ _ ⟨au,rfl,rfl,h⟩
 refine f9 Tryz.call134 h ab ?_
 rintro _ ac _ av j _ _ ⟨aw,rfl,rfl,h⟩
 refine l9 h (fun _ h=>?_) (fun _ h=>?_)
 ·refine f9 Tryz.call133 (h g0 b0S b0T b4S) ((j.bring 1).bring 1) ?_
  rintro _ _ _ ax ad _ _ ⟨ay,az,ba,ae,af,rfl,rfl,ag,h⟩
  refine f9 Tryz.call133 (h g0 ae af ag) ((ad.bring 1).bring 1) ?_
  rintro _ ah _ bb ai _ _ ⟨bc,f,aj,ak,al,rfl,rfl,am,h⟩
  exact hn1 _ _ _ (hm1 _ _ h).2 ⟨(f.fs,f.fn,f.fat,aj),ah,ak,al,rfl,rfl,am,((ai.bring 1).bring 1),(hm1 _ _ h).1⟩
 ·exact hR _ ac _ _ ((j.bring 1).bring 1) ⟨(j8.mk a4g a4h a3k (Sl.mk none 0 0)),a2D,b0S,b0T,rfl,rfl,b4S,h⟩
def a6u(x0:Int)(H:Hp)(K:Bool→Hp→Prop):Prop:=
 V3 x0 H (fun a b=>
 K (decide (a=4)) b)
theorem b0U(x0){H K}(h:a6u x0 H K):a2C x0 H K:=by
 refine Ct.of fun w0 w ps0 H0 R E I hR=>d0j ?_
 refine f9 Tryz.call132 h I ?_
 rintro _ a _ d b _ _ ⟨c,rfl,rfl,h⟩
 refine a7 pEq ?_
 exact hR _ a _ _ b ⟨_,rfl,rfl,h⟩
def B3(W9:Int)(y2:ByteArray)(y3:Int)(A0:b8)(D3:(List b6))(H:Hp)(K:ByteArray→j8→(List b6)→Hp→Prop):Prop:=
 (0:Int)≤W9∧(W9:Int)≤y3∧(y3:Int)≤y2.size∧
 K (y2.extract (W9:Int).toNat (y3:Int).toNat) (j8.mk y2 y3 A0 (Sl.mk none 0 0)) D3 H
def B4(E7:Int)(E9:Int)(y1:Bool)(v6:ByteArray)(v7:Int)(t8:b8)(s7:(List b6))(H:Hp)(n2:(Int×Bool×ByteArray×Int×b8×(List b6))→Hp→Prop)(K:ByteArray→j8→(List b6)→Hp→Prop):Prop:=
 TG (y1=true) (a2C E9 H) false H (fun(b:Bool)(c:Hp)=>
 ((y1&&b)=true→
 K9 (j8.mk v6 v7 t8 (Sl.mk none 0 0)) s7 c (fun a d e=>
 E2 (z8 a) d e (fun f g i=>
 n2 (f,g,a.fs,a.fn,a.fat,d) i)))∧
 ((y1&&b)=false→
 B3 E7 v6 v7 t8 s7 c K))
def O0(x0:j8)(a:(List b6))(H:Hp)(K:ByteArray→j8→(List b6)→Hp→Prop):Prop:=
 E2 (z8 x0) a H (fun b c d=>
 TL ((b,c,x0.fs,x0.fn,x0.fat,a):Int×Bool×ByteArray×Int×b8×(List b6)) d fun(s:Int×Bool×ByteArray×Int×b8×(List b6)) H n2=>B4 x0.fn s.1 s.2.1 s.2.2.1 s.2.2.2.1 s.2.2.2.2.1 s.2.2.2.2.2 H n2 K)
theorem a2S(x0 f){H K}(h:O0 x0 f H K):N8 x0 f H K:=by
 intro g0 o p q
 refine Ct.of fun w0 w ps0 H0 R E I hR=>b6f ?_
 unfold O0 at h
 unfold c0m
 refine a7 (o3 _) (a7 a0v (c8 (l1 Tryz.isAgg3 I rfl) ?_))
 have hj1:∀(y2:ByteArray)(y3:Int)(A0:b8)(D3:(List b6))(Y0:Sl)(P1:Frag) H w (_:RowL 103 5 i8 Y0 D3 P1) (_:Inv w0 ps0 H0 H [bx g0 155 [(Value.string y2),(vi y3),(vi A0.B9),(vi A0.K8),(vs Y0)],P1] w) (_:B3 x0.fn y2 y3 A0 D3 H K),a8l (Value.pointer (some ⟨g0,0,none⟩)) (vi x0.fn) w R E:=by
  intro y2 y3 A0 D3 Y0 P1 H w a5T I h
  unfold a8l
  intro _
  unfold B3 at h
  refine O6 I fun au g=>?_
  refine o5 (o3 _) ?_
  refine o5 a8K ?_
  refine o5 (o3 _) ?_
  refine o5 a0v ?_
  refine u1 (l1 Tryz.isAgg9 g rfl) ?_
  refine u1 (l1 Tryz.isAgg3 g rfl) ?_
  obtain ⟨af,ag,ah,h⟩:=h
  refine o5 (a6Q y2 Tryz.underlying9 af ag ah) ?_
  exact hR _ H _ _ ((g.bring 1).bring 1) ⟨(y2.extract (x0.fn:Int).toNat (y3:Int).toNat),(j8.mk y2 y3 A0 (Sl.mk none 0 0)),D3,Y0,P1,rfl,rfl,a5T,h⟩
 refine p7 fun j1 hx1=>?_
 refine f9 Tryz.call100 (h g0 o p q) ((I.bring 1).bring 1) ?_
 rintro _ ai _ av aj _ _ ⟨r,t,rfl,rfl,h⟩
 refine a7 (m5 _ _ (Value.int .i32 r) rfl) (a7 (m5 _ _ (vB t) rfl) ?_)
 obtain ⟨i,c,ak,al⟩:=h
 refine U0 (J:=fun n l w=>∃(s:Int×Bool×ByteArray×Int×b8×(List b6))(H:Hp)(R6:Sl)(J0:Frag),n=c s∧l=(match s with | (E9,y1,v6,v7,t8,s7)=>[(Value.int .i32 E9),(vB y1)])∧(match s with | (E9,y1,v6,v7,t8,s7)=>RowL 103 5 i8 R6 s7 J0)∧(match s with | (E9,y1,v6,v7,t8,s7)=>Inv w0 ps0 H0 H [bx g0 155 [(Value.string v6),(vi v7),(vi t8.B9),(vi t8.K8),(vs R6)],J0] w)∧i s H) ⟨_,(r,t,x0.fs,x0.fn,x0.fat,f),ai,o,p,rfl,rfl,q,((aj.bring 1).bring 1),ak⟩ ?_
 rintro aw ax w next2 ⟨⟨E9,y1,v6,v7,t8,s7⟩,H,R6,J0,rfl,j,T9,I,am⟩ hn2
 dsimp only at j I T9
 simp only [List.map_cons,List.map_nil,List.cons.injEq,and_true] at j
 obtain ⟨e6,e7⟩:=j
 simp only [e6,e7]
 obtain ⟨n2,hm2,h⟩:∃n2:(Int×Bool×ByteArray×Int×b8×(List b6))→Hp→Prop,(∀s' H',n2 s' H'→i s' H'∧c s' < c (E9,y1,v6,v7,t8,s7))∧B4 x0.fn E9 y1 v6 v7 t8 s7 H n2 K:=⟨_,fun _ _ h=>h,al (E9,y1,v6,v7,t8,s7) H (fun s' H'=>i s' H'∧c s' < c (E9,y1,v6,v7,t8,s7)) am (fun _ _ a b=>⟨a,b⟩)⟩
 unfold b4q
 unfold B4 at h
 simp only [p8]
 refine C5 [] (fun d:Bool=>(vB d)) h I (fun z h=>by simp only [g9 z];exact D5 Tryz.call157 h I) fun d k an e v y h=>?_
 refine a7 (s6 _ _) ?_
 refine l9 h (fun _ h=>?_) (fun _ h=>?_)
 ·refine f9 Tryz.call152 (h g0 R6 J0 T9) ((e.bring 1).bring 1) ?_
  rintro _ _ _ ay ao _ _ ⟨m,ap,aa,ab,rfl,rfl,ac,h⟩
  refine f9 Tryz.call100 (h g0 aa ab ac) ((ao.bring 1).bring 1) ?_
  rintro _ aq _ az ar _ _ ⟨ad,ae,rfl,rfl,h⟩
  refine a7 (m5 _ _ (Value.int .i32 ad) rfl) (a7 (m5 _ _ (vB ae) rfl) ?_)
  exact hn2 _ _ _ (hm2 _ _ h).2 ⟨(ad,ae,m.fs,m.fn,m.fat,ap),aq,aa,ab,rfl,rfl,ac,((ar.bring 1).bring 1),(hm2 _ _ h).1⟩
 ·exact hx1 _ _ (hj1 v6 v7 t8 s7 R6 J0 k _ T9 ((e.bring 1).bring 1) h)
def b1B(H:Hp)(K:b6→Int→Hp→Prop):Prop:=
 K (b6.mk 0 ⟨#[]⟩ 0 (b8.mk 0 0)) 20 H
theorem b1C{H K}(h:b1B H K):b1z H K:=by
 refine Ct.of fun w0 w ps0 H0 R E I hR=>c9S ?_
 refine o7 I Tryz.zeroValue103 (cs:=[(vi 0),(eS),(vi 0),(vi 0),(vi 0)]) rfl fun c d b e=>?_
 refine a7 (a6S) ?_
 refine o9 b Tryz.sizeOf103 (vs:=[(vi 0),(eS),(vi 0),(vi 0),(vi 0)]) fun f a g=>?_
 refine q8 Tryz.isAgg103 Tryz.sizeOf103 rfl a ?_
 exact hR _ H _ _ a.drop ⟨(b6.mk 0 ⟨#[]⟩ 0 (b8.mk 0 0)),20,rfl,rfl,h⟩
def M0(d4c:Int)(b6n:Bool)(a:S0)(H:Hp)(K:Bool→Hp→Prop):Prop:=
 (b6n=true→
 K (decide (d4c=2)) H)∧
 (b6n=false→
 K false H)
def Y3(b8s:Int)(a8m:Int)(b6o:Bool)(a:S0)(H:Hp)(K:Bool→Hp→Prop):Prop:=
 (b6o=true→
 K (decide (b8s=1)) H)∧
 (b6o=false→
 (a8m=6→
 M0 b8s (decide (a8m=6)) a H K)∧
 (¬(a8m=6)→
 (a8m=7→
 M0 b8s (decide (a8m=7)) a H K)∧
 (¬(a8m=7)→
 (a8m=8→
 M0 b8s (decide (a8m=8)) a H K)∧
 (¬(a8m=8)→
 (a8m=9→
 M0 b8s (decide (a8m=9)) a H K)∧
 (¬(a8m=9)→
 M0 b8s (decide (a8m=10)) a H K)))))
def Y4(a9g:Int)(a8n:Int)(b6p:Bool)(a:S0)(H:Hp)(K:Bool→Hp→Prop):Prop:=
 (b6p=true→
 K (decide (a9g=0)) H)∧
 (b6p=false→
 (a8n=4→
 Y3 a9g a8n (decide (a8n=4)) a H K)∧
 (¬(a8n=4)→
 Y3 a9g a8n (decide (a8n=5)) a H K))
def a8y(x0:S0)(H:Hp)(K:Bool→Hp→Prop):Prop:=
 a2Z (k7.M4 x0) H (fun c b a=>
 ((((!decide (x0.z7.d8=1))&&(!decide (x0.z7.G9=0)))||((!b)&&(!decide (x0.z7.t7=⟨#[]⟩))))=true→
 K false a)∧
 ((((!decide (x0.z7.d8=1))&&(!decide (x0.z7.G9=0)))||((!b)&&(!decide (x0.z7.t7=⟨#[]⟩))))=false→
 (x0.z7.d8=1→
 K ((decide (0≤x0.z7.G9))&&(decide ((x0.z7.G4.n:Int)=0))) a)∧
 (¬(x0.z7.d8=1)→
 (x0.z7.d8=2→
 Y4 (x0.z7.G4.n:Int) x0.z7.d8 (decide (x0.z7.d8=2)) x0 a K)∧
 (¬(x0.z7.d8=2)→
 Y4 (x0.z7.G4.n:Int) x0.z7.d8 (decide (x0.z7.d8=3)) x0 a K))))
theorem b3y(x0){H K}(h:a8y x0 H K):a5r x0 H K:=by
 refine Ct.of fun w0 w ps0 H0 R E I hR=>d0p ?_
 refine Q1 I (cs:=(g7 x0.z7)) rfl fun f l i m=>?_
 refine a7 a1I (a7 a0V (c8 (l1 Tryz.isAgg38 i rfl) (a7 (O4 _ _ _) (c8 (lW Tryz.isAgg141 Tryz.sizeOf141 rfl i) ?_))))
 refine a7 (b4n x0) ?_
 refine f9 Tryz.call143 h i ?_
 rintro _ d _ o c _ _ ⟨j,k,rfl,rfl,h⟩
 refine a7 (m5 _ _ (Value.string j) rfl) (a7 (m5 _ _ (vB k) rfl) (a7 a1I (a7 a1M (c8 (l1 Tryz.isAgg3 c rfl) ?_))))
 refine a7 pNe ?_
 refine a7 (Pu.g fun a=>by with_reducible exact a1I) ?_
 refine a7 (Pu.g fun a=>by simp only [g9 a];with_reducible exact a8h) ?_
 refine c8 (Ld.g fun a=>by simp only [g9 a];exact (l1 Tryz.isAgg2 c rfl)) ?_
 refine a7 (Pu.g fun a=>by simp only [g9 a];with_reducible exact pNe) ?_
 refine a7 (s6 _ _) ?_
 simp only [p8]
 refine a7 (Pu.g fun a=>by simp only [g9 a];with_reducible exact (E1 _)) ?_
 simp only [a3K]
 refine a7 (Pu.e (a0N _ _ _) (Pu.g fun hb=>by obtain ⟨a,b⟩:=a3J hb;with_reducible exact a1I)) ?_
 refine a7 (Pu.e (a0N _ _ _) (Pu.g fun hb=>by obtain ⟨a,b⟩:=a3J hb;simp only [g9 hb];with_reducible exact a9U)) ?_
 refine c8 (Ld.e (a0N _ _ _) (Ld.g fun hb=>by obtain ⟨a,b⟩:=a3J hb;simp only [g9 hb];exact (l1 Tryz.isAgg9 c rfl))) ?_
 refine a7 (Pu.e (a0N _ _ _) (Pu.g fun hb=>by obtain ⟨a,b⟩:=a3J hb;simp only [g9 hb];with_reducible exact (b9S _ _ _ _ _))) ?_
 refine a7 (Pu.g fun a=>by simp only [g9 a,a9R a];with_reducible exact (s6 _ _)) ?_
 refine a7 (y8 _ _) ?_
 refine l9 h (fun _ h=>?_) (fun _ h=>?_)
 ·exact hR _ d _ _ c.drop ⟨_,rfl,rfl,h⟩
 ·refine a7 a1I (a7 a1M (c8 (l1 Tryz.isAgg3 c rfl) (a7 pEq ?_)))
  refine m0 h (fun _ h=>?_) (fun _ h=>?_)
  ·refine a7 a1I (a7 a8h (c8 (l1 Tryz.isAgg2 c rfl) (a7 pGe ?_)))
   simp only [p8]
   refine a7 (Pu.g fun a=>by simp only [g9 a];with_reducible exact pEq) ?_
   refine a7 (s6 _ _) ?_
   exact hR _ d _ _ c.drop ⟨_,rfl,rfl,h⟩
  ·have hj1:∀(b6p:Bool) H w (_:Inv w0 ps0 H0 H [bx f 141 (g7 x0.z7)] w) (_:Y4 (x0.z7.G4.n:Int) x0.z7.d8 b6p x0 H K),c2v (vi (x0.z7.G4.n:Int)) (vi x0.z7.d8) (vB b6p) w R E:=by
    intro b6p H w I h
    intro _
    refine l9 h (fun _ h=>?_) (fun _ h=>?_)
    ·refine a7 pEq ?_
     exact hR _ H _ _ I.drop ⟨_,rfl,rfl,h⟩
    ·have hj2:∀(b6o:Bool) H w (_:Inv w0 ps0 H0 H [bx f 141 (g7 x0.z7)] w) (_:Y3 (x0.z7.G4.n:Int) x0.z7.d8 b6o x0 H K),c2u (vi (x0.z7.G4.n:Int)) (vi x0.z7.d8) (vB b6o) w R E:=by
      intro b6o H w I h
      intro _
      refine l9 h (fun _ h=>?_) (fun _ h=>?_)
      ·refine a7 pEq ?_
       exact hR _ H _ _ I.drop ⟨_,rfl,rfl,h⟩
      ·have hj3:∀(b6n:Bool) H w (_:Inv w0 ps0 H0 H [bx f 141 (g7 x0.z7)] w) (_:M0 (x0.z7.G4.n:Int) b6n x0 H K),c2t (vi (x0.z7.G4.n:Int)) (vB b6n) w R E:=by
        intro b6n H w I h
        intro _
        refine l9 h (fun _ h=>?_) (fun _ h=>?_)
        ·refine a7 pEq ?_
         exact hR _ H _ _ I.drop ⟨_,rfl,rfl,h⟩
        ·exact hR _ H _ _ I.drop ⟨_,rfl,rfl,h⟩
       refine p7 fun j3 hx3=>?_
       refine a7 pEq ?_
       refine m0 h (fun _ h=>?_) (fun _ h=>?_)
       ·exact hx3 _ _ (hj3 (decide (x0.z7.d8=6)) H _ I h)
       ·refine a7 pEq ?_
        refine m0 h (fun _ h=>?_) (fun _ h=>?_)
        ·exact hx3 _ _ (hj3 (decide (x0.z7.d8=7)) H _ I h)
        ·refine a7 pEq ?_
         refine m0 h (fun _ h=>?_) (fun _ h=>?_)
         ·exact hx3 _ _ (hj3 (decide (x0.z7.d8=8)) H _ I h)
         ·refine a7 pEq ?_
          refine m0 h (fun _ h=>?_) (fun _ h=>?_)
          ·exact hx3 _ _ (hj3 (decide (x0.z7.d8=9)) H _ I h)
          ·refine a7 pEq ?_
           exact hx3 _ _ (hj3 (decide (x0.z7.d8=10)) H _ I h)
     refine p7 fun j2 hx2=>?_
     refine a7 pEq ?_
     refine m0 h (fun _ h=>?_) (fun _ h=>?_)
     ·exact hx2 _ _ (hj2 (decide (x0.z7.d8=4)) H _ I h)
     ·refine a7 pEq ?_
      exact hx2 _ _ (hj2 (decide (x0.z7.d8=5)) H _ I h)
   refine p7 fun j1 hx1=>?_
   refine a7 pEq ?_
   refine m0 h (fun _ h=>?_) (fun _ h=>?_)
   ·exact hx1 _ _ (hj1 (decide (x0.z7.d8=2)) d _ c h)
   ·refine a7 pEq ?_
    exact hx1 _ _ (hj1 (decide (x0.z7.d8=3)) d _ c h)
def a7O(x0:a0b)(H:Hp)(K:Sl→Hp→Prop):Prop:=
 C2 x0.z6.o4 H (fun d e=>
 E8 x0.z6.B0 e (fun f g=>
 ∀(a:Sl)(b:Hp),Hle g b→SlH b 1 csl a [d,f]→a.n≤a.c→
 D6 a b (fun i j=>
 K i j)))
theorem b3f(x0){H K}(h:a7O x0 H K):a7I x0 H K:=by
 refine Ct.of fun w0 w ps0 H0 R E I hR=>d0v ?_
 refine Q1 I (cs:=(i7 x0.z6)) rfl fun v y b z=>?_
 refine O6 b fun aa a=>?_
 refine o5 a2Q ?_
 refine o5 a0X ?_
 refine o5 a2Q ?_
 refine o5 a0W ?_
 refine u1 (l1 Tryz.isAgg38 a rfl) ?_
 refine u1 (l1 Tryz.isAgg47 a rfl) ?_
 refine f9 Tryz.call207 h a ?_
 rintro _ _ _ ab d _ f ⟨g,rfl,rfl,h⟩
 refine ⟨(f _ a.lt1 (Inv.X0 (Fi:=[]) a)),?_⟩
 refine f9 Tryz.call211 h d ?_
 rintro _ _ _ ac i _ _ ⟨j,rfl,rfl,h⟩
 refine Q9 (e:=128) (c:=csl) (xs:=[g,j]) i (c0d _ _ _ _ _ _) rfl rfl b9F b9G (nb rfl) fun k ad ae l m af=>?_
 obtain ⟨n,o,p,q,r⟩:=Inv.freezeC m l (by decide)
 replace h:=h k n p q r
 refine f9 Tryz.call75 h o ?_
 rintro _ s _ ag t _ _ ⟨u,rfl,rfl,h⟩
 exact hR _ s _ _ t.drop ⟨u,rfl,rfl,h⟩
def Y5(W9:Bool)(c8v:Int)(b6q:Bool)(a:a0O)(b:a0d)(H:Hp)(K:Bool→Hp→Prop):Prop:=
 (b6q=true→
 K (W9&&(decide (a.fexprs=0∧a.fconds=1))) H)∧
 (b6q=false→
 (c8v=7→
 K (W9&&(decide (a.fexprs=0∧a.fconds=0))) H)∧
 (¬(c8v=7)→
 K false H))
def a8z(x0:a0d)(H:Hp)(K:Bool→Hp→Prop):Prop:=
 (x0.p6.d8=1→
 K ((!(decide (0 < (IntKind.wrap .i64 ((x0.p6.J5.n:Int)+(x0.p6.H7.n:Int))))))&&(decide ((x0.p6.o4.n:Int)=1∧(x0.p6.v8.n:Int)=0))) H)∧
 (¬(x0.p6.d8=1)→
 (x0.p6.d8=2→
 K ((!(decide (0 < (IntKind.wrap .i64 ((x0.p6.J5.n:Int)+(x0.p6.H7.n:Int))))))&&(decide ((x0.p6.o4.n:Int)=2∧(x0.p6.v8.n:Int)=0))) H)∧
 (¬(x0.p6.d8=2)→
 (x0.p6.d8=3→
 K ((decide (x0.p6.t7=⟨#[]⟩))&&(decide ((x0.p6.o4.n:Int)=0∧(x0.p6.v8.n:Int)=1))) H)∧
 (¬(x0.p6.d8=3)→
 (x0.p6.d8=4→
 K (((decide (x0.p6.t7=⟨#[]⟩))&&(decide ((x0.p6.H7.n:Int)=0)))&&(decide ((x0.p6.o4.n:Int)=0∧(x0.p6.v8.n:Int)=1))) H)∧
 (¬(x0.p6.d8=4)→
 (x0.p6.d8=5→
 Y5 ((decide (x0.p6.t7=⟨#[]⟩))&&(!(decide (0 < (IntKind.wrap .i64 ((x0.p6.J5.n:Int)+(x0.p6.H7.n:Int))))))) x0.p6.d8 (decide (x0.p6.d8=5)) (a0O.mk (x0.p6.o4.n:Int) (x0.p6.v8.n:Int)) x0 H K)∧
 (¬(x0.p6.d8=5)→
 Y5 ((decide (x0.p6.t7=⟨#[]⟩))&&(!(decide (0 < (IntKind.wrap .i64 ((x0.p6.J5.n:Int)+(x0.p6.H7.n:Int))))))) x0.p6.d8 (decide (x0.p6.d8=6)) (a0O.mk (x0.p6.o4.n:Int) (x0.p6.v8.n:Int)) x0 H K)))))
theorem b3z(x0){H K}(h:a8z x0 H K):a5t x0 H K:=by
 refine Ct.of fun w0 w ps0 H0 R E I hR=>d0B ?_
 refine Q1 I (cs:=(m6 x0.p6)) rfl fun e i c j=>?_
 refine a7 S4 (a7 a0Y (c8 (l1 Tryz.isAgg24 c rfl) (a7 (X1 _ _ _) (a7 S4 ?_))))
 refine a7 a0Z (c8 (l1 Tryz.isAgg24 c rfl) (a7 (X1 _ _ _) (a7 pAd (a7 pGt ?_))))
 refine a7 S4 (a7 M7 (c8 (l1 Tryz.isAgg38 c rfl) (a7 (O4 _ _ _) (a7 S4 ?_))))
 refine a7 V5 (c8 (l1 Tryz.isAgg47 c rfl) (a7 (a0r _ _ _) (a7 (a4f _ _) ?_)))
 refine o7 c Tryz.zeroValue264 (cs:=[(vi 0),(vi 0)]) rfl fun d k f l=>?_
 refine o9 f Tryz.sizeOf264 (vs:=[(vi (x0.p6.o4.n:Int)),(vi (x0.p6.v8.n:Int))]) fun m b p=>?_
 refine a7 S4 (a7 a5B (c8 (l1 Tryz.isAgg9 (b.bring 1) rfl) (a7 (G1 _ _ _ _ _) ?_)))
 simp only [p8]
 refine a7 (Pu.g fun a=>by simp only [g9 a];with_reducible exact (E1 _)) ?_
 refine a7 (s6 _ _) (a7 S4 (a7 Q2 (c8 (l1 Tryz.isAgg3 (b.bring 1) rfl) (a7 pEq ?_))))
 refine m0 h (fun _ h=>?_) (fun _ h=>?_)
 ·refine a7 (E1 _) ?_
  refine c8 (Ld.g fun a=>by exact (ldA Tryz.isAgg264 Tryz.sizeOf264 rfl (b.at1 (o:=0) (vs:=[(vi (x0.p6.o4.n:Int)),(vi (x0.p6.v8.n:Int))]) (nb rfl) rfl))) ?_
  refine a7 (Pu.g fun a=>by with_reducible exact (a4f _ _)) ?_
  refine a7 (Pu.g fun a=>by simp only [g9 a];with_reducible exact (a9n _ _ _ _ _ _)) ?_
  refine a7 (s6 _ _) ?_
  exact hR _ H _ _ b.drop.drop ⟨_,rfl,rfl,h⟩
 ·refine a7 pEq ?_
  refine m0 h (fun _ h=>?_) (fun _ h=>?_)
  ·refine a7 (E1 _) ?_
   refine c8 (Ld.g fun a=>by exact (ldA Tryz.isAgg264 Tryz.sizeOf264 rfl (b.at1 (o:=0) (vs:=[(vi (x0.p6.o4.n:Int)),(vi (x0.p6.v8.n:Int))]) (nb rfl) rfl))) ?_
   refine a7 (Pu.g fun a=>by with_reducible exact (a4f _ _)) ?_
   refine a7 (Pu.g fun a=>by simp only [g9 a];with_reducible exact (a9n _ _ _ _ _ _)) ?_
   refine a7 (s6 _ _) ?_
   exact hR _ H _ _ b.drop.drop ⟨_,rfl,rfl,h⟩
  ·refine a7 pEq ?_
   refine m0 h (fun _ h=>?_) (fun _ h=>?_)
   ·refine a7 S4 (a7 a5B (c8 (l1 Tryz.isAgg9 (b.bring 1) rfl) (a7 (G1 _ _ _ _ _) ?_)))
    refine c8 (Ld.g fun a=>by exact (ldA Tryz.isAgg264 Tryz.sizeOf264 rfl (b.at1 (o:=0) (vs:=[(vi (x0.p6.o4.n:Int)),(vi (x0.p6.v8.n:Int))]) (nb rfl) rfl))) ?_
    refine a7 (Pu.g fun a=>by with_reducible exact (a4f _ _)) ?_
    refine a7 (Pu.g fun a=>by simp only [g9 a];with_reducible exact (a9n _ _ _ _ _ _)) ?_
    refine a7 (s6 _ _) ?_
    exact hR _ H _ _ b.drop.drop ⟨_,rfl,rfl,h⟩
   ·refine a7 pEq ?_
    refine m0 h (fun _ h=>?_) (fun _ h=>?_)
    ·refine a7 S4 (a7 a5B (c8 (l1 Tryz.isAgg9 (b.bring 1) rfl) (a7 (G1 _ _ _ _ _) ?_)))
     refine a7 (Pu.g fun a=>by with_reducible exact S4) ?_
     refine a7 (Pu.g fun a=>by simp only [g9 a];with_reducible exact a0Z) ?_
     refine c8 (Ld.g fun a=>by simp only [g9 a];exact (l1 Tryz.isAgg24 (b.bring 1) rfl)) ?_
     refine a7 (Pu.g fun a=>by simp only [g9 a];with_reducible exact (X1 _ _ _)) ?_
     refine a7 (Pu.g fun a=>by simp only [g9 a];with_reducible exact pEq) ?_
     refine a7 (s6 _ _) ?_
     refine c8 (Ld.g fun a=>by exact (ldA Tryz.isAgg264 Tryz.sizeOf264 rfl (b.at1 (o:=0) (vs:=[(vi (x0.p6.o4.n:Int)),(vi (x0.p6.v8.n:Int))]) (nb rfl) rfl))) ?_
     refine a7 (Pu.g fun a=>by with_reducible exact (a4f _ _)) ?_
     refine a7 (Pu.g fun a=>by simp only [g9 a];with_reducible exact (a9n _ _ _ _ _ _)) ?_
     refine a7 (s6 _ _) ?_
     exact hR _ H _ _ b.drop.drop ⟨_,rfl,rfl,h⟩
    ·have hj1:∀(b6q:Bool) H w (_:Inv w0 ps0 H0 H [bx d 264 [(vi (a0O.mk (x0.p6.o4.n:Int) (x0.p6.v8.n:Int)).fexprs),(vi (a0O.mk (x0.p6.o4.n:Int) (x0.p6.v8.n:Int)).fconds)],bx e 177 (m6 x0.p6)] w) (_:Y5 ((decide (x0.p6.t7=⟨#[]⟩))&&(!(decide (0 < (IntKind.wrap .i64 ((x0.p6.J5.n:Int)+(x0.p6.H7.n:Int))))))) x0.p6.d8 b6q (a0O.mk (x0.p6.o4.n:Int) (x0.p6.v8.n:Int)) x0 H K),c2A (Value.pointer (some ⟨d,0,none⟩)) (vB ((decide (x0.p6.t7=⟨#[]⟩))&&(!(decide (0 < (IntKind.wrap .i64 ((x0.p6.J5.n:Int)+(x0.p6.H7.n:Int)))))))) (vi x0.p6.d8) (vB b6q) w R E:=by
      intro b6q H w I h
      intro _
      refine l9 h (fun _ h=>?_) (fun _ h=>?_)
      ·refine c8 (Ld.g fun a=>by exact (ldA Tryz.isAgg264 Tryz.sizeOf264 rfl (I.at1 (o:=0) (vs:=[(vi (a0O.mk (x0.p6.o4.n:Int) (x0.p6.v8.n:Int)).fexprs),(vi (a0O.mk (x0.p6.o4.n:Int) (x0.p6.v8.n:Int)).fconds)]) (nb rfl) rfl))) ?_
       refine a7 (Pu.g fun a=>by with_reducible exact (a4f _ _)) ?_
       refine a7 (Pu.g fun a=>by simp only [g9 a];with_reducible exact (a9n _ _ _ _ _ _)) ?_
       refine a7 (s6 _ _) ?_
       exact hR _ H _ _ I.drop.drop ⟨_,rfl,rfl,h⟩
      ·refine a7 pEq ?_
       refine m0 h (fun _ h=>?_) (fun _ h=>?_)
       ·refine c8 (Ld.g fun a=>by exact (ldA Tryz.isAgg264 Tryz.sizeOf264 rfl (I.at1 (o:=0) (vs:=[(vi (a0O.mk (x0.p6.o4.n:Int) (x0.p6.v8.n:Int)).fexprs),(vi (a0O.mk (x0.p6.o4.n:Int) (x0.p6.v8.n:Int)).fconds)]) (nb rfl) rfl))) ?_
        refine a7 (Pu.g fun a=>by with_reducible exact (c3x)) ?_
        refine a7 (Pu.g fun a=>by simp only [g9 a];with_reducible exact (a9n _ _ _ _ _ _)) ?_
        refine a7 (s6 _ _) ?_
        exact hR _ H _ _ I.drop.drop ⟨_,rfl,rfl,h⟩
       ·exact hR _ H _ _ I.drop.drop ⟨_,rfl,rfl,h⟩
     refine p7 fun j1 hx1=>?_
     refine a7 pEq ?_
     refine m0 h (fun _ h=>?_) (fun _ h=>?_)
     ·exact hx1 _ _ (hj1 (decide (x0.p6.d8=5)) H _ ((b.bring 1).bring 1) h)
     ·refine a7 pEq ?_
      exact hx1 _ _ (hj1 (decide (x0.p6.d8=6)) H _ ((b.bring 1).bring 1) h)
end Go.Proofs.YthklmeihgmcljaaGreatDoor
