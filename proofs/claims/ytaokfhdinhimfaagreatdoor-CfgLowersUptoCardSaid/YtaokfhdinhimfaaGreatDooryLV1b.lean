/- Typed formulas of the program's functions, and the theorems that the contracts follow from them; printed by lift.py off the code. -/
import Derived.Test.YtaokfhdinhimfaaGreatDooryLV1
namespace Go.Proofs.YtaokfhdinhimfaaGreatDoor
open Go.RowKit
set_option maxRecDepth 100000
set_option maxHeartbeats 2000000
def a4F(x0:m6)(H:Hp)(K:Int→Hp→Prop):Prop:=
 S4 x0.a1l H (fun a b=>
 K a b)
theorem b0K(x0){H K}(h:a4F x0 H K):a7i x0 H K:=by
 refine Ct.of fun w0 w ps0 H0 R E I hR=>c9y ?_
 unfold a4F at h
 unfold F30
 refine A9 I (cs:=(m5 x0)) rfl fun e f a g=>?_
 refine c5 a1m (c6 (l1 Tryz.isAgg23 a rfl) ?_)
 refine f0 Tryz.call50 h a ?_
 rintro _ b _ i c _ _ ⟨d,rfl,rfl,h⟩
 exact hR _ b _ _ c.drop ⟨d,rfl,rfl,h⟩
def a5r(x0:m6)(H:Hp)(K:Sl→Hp→Prop):Prop:=
 V0 [] x0.a1l H (fun d e=>
 ∀(a:Sl)(b:Hp),Hle e b→SlH b 2 p9 a d→a.n≤a.c→
 K a b)
theorem b1x(x0){H K}(h:a5r x0 H K):a5i x0 H K:=by
 refine Ct.of fun w0 w ps0 H0 R E I hR=>c9F ?_
 unfold a5r at h
 unfold F48
 refine A9 I (cs:=(m5 x0)) rfl fun l m a n=>?_
 refine c5 a1m (c6 (l1 Tryz.isAgg23 a rfl) ?_)
 refine f0 Tryz.call76 (h (Sl.mk none 0 0) ([]) (RowL.nil (e:=105) a6X a6Y)) a.nil ?_
 rintro _ _ _ o d _ _ ⟨p,b,q,rfl,rfl,f,h⟩
 obtain ⟨c,g,i,j,k⟩:=Inv.freezeC d f (by decide)
 replace h:=h b c i j k
 exact hR _ c _ _ g.drop ⟨b,rfl,rfl,h⟩
def a6s(x0:Int)(x1:Int)(x2:Int)(H:Hp)(K:Bool→Hp→Prop):Prop:=
 K ((decide (x1≤x0))&&(decide (x0≤x2))) H
theorem b0d(x0 x1 x2){H K}(h:a6s x0 x1 x2 H K):K6 x0 x1 x2 H K:=by
 refine Ct.of fun w0 w ps0 H0 R E I hR=>c7N ?_
 unfold a6s at h
 unfold d0V
 refine c5 pGe ?_
 simp only [z7]
 refine c5 (Pu.g fun a=>by simp only [i4 a];with_reducible exact pLe) ?_
 refine c5 (y9 _ _) ?_
 exact hR _ H _ _ I ⟨((decide (x1≤x0))&&(decide (x0≤x2))),rfl,rfl,h⟩
def a0J(H:Hp)(K:Int→Hp→Prop):Prop:=
 K 6 H
def a3d(a2q:Int)(a0h:ByteArray)(B6:Int)(H:Hp)(n2:Int→Hp→Prop)(K:Int→Hp→Prop):Prop:=
 (B6 < (a0h.size:Int)→
 (0:Int)≤B6∧B6 < (a0h.size:Int)∧
 (a2q=(IntKind.wrap .i64 ((a0h.get! (B6:Int).toNat).toNat:Int))→
 K 5 H)∧
 (¬(a2q=(IntKind.wrap .i64 ((a0h.get! (B6:Int).toNat).toNat:Int)))→
 n2 (IntKind.wrap .i64 (B6+1)) H))∧
 (¬(B6 < (a0h.size:Int))→
 a0J H K)
def a4G(x0:Int)(H:Hp)(K:Int→Hp→Prop):Prop:=
 ((((decide (x0=32))||(decide (x0=9)))||(decide (x0=13)))=true→
 K 1 H)∧
 ((((decide (x0=32))||(decide (x0=9)))||(decide (x0=13)))=false→
 (x0=10→
 K 2 H)∧
 (¬(x0=10)→
 K6 x0 48 57 H (fun e f=>
 (e=true→
 K 4 f)∧
 (e=false→
 K6 x0 97 122 f (fun a g=>
 TG (a=false) (K6 x0 65 90 g) false g (fun(b:Bool)(i:Hp)=>
 TG (((a||b)||(decide (x0=95)))=false) (K6 x0 192 591 i) false i (fun(c:Bool)(j:Hp)=>
 TG ((((a||b)||(decide (x0=95)))||((c&&(!decide (x0=215)))&&(!decide (x0=247))))=false) (K6 x0 913 969 j) false j (fun(d:Bool)(k:Hp)=>
 TG (((((a||b)||(decide (x0=95)))||((c&&(!decide (x0=215)))&&(!decide (x0=247))))||(d&&(!decide (x0=930))))=false) (K6 x0 1040 1103 k) false k (fun(l:Bool)(m:Hp)=>
 ((((((a||b)||(decide (x0=95)))||((c&&(!decide (x0=215)))&&(!decide (x0=247))))||(d&&(!decide (x0=930))))||l)=true→
 K 3 m)∧
 ((((((a||b)||(decide (x0=95)))||((c&&(!decide (x0=215)))&&(!decide (x0=247))))||(d&&(!decide (x0=930))))||l)=false→
 TL (0:Int) m fun(s:Int) H n2=>a3d x0 ⟨#[59,44,123,125,40,41,91,93,61,33,60,62,43,45,42,47,37,38,124]⟩ s H n2 K))))))))))
theorem b0L(x0){H K}(h:a4G x0 H K):a4s x0 H K:=by
 refine Ct.of fun w0 w ps0 H0 R E I hR=>c7G ?_
 unfold a4G at h
 unfold d0O
 refine c5 pEq ?_
 simp only [z7]
 refine c5 (Pu.g fun a=>by simp only [i4 a];with_reducible exact pEq) ?_
 refine c5 (L8 _ _) ?_
 simp only [z7]
 refine c5 (Pu.g fun a=>by simp only [i4 a];with_reducible exact pEq) ?_
 refine c5 (L8 _ _) ?_
 refine m8 h (fun _ h=>?_) (fun _ h=>?_)
 ·exact hR _ H _ _ I ⟨1,rfl,rfl,h⟩
 ·refine c5 pEq ?_
  refine d9 h (fun _ h=>?_) (fun _ h=>?_)
  ·exact hR _ H _ _ I ⟨2,rfl,rfl,h⟩
  ·refine f0 Tryz.call123 h I ?_
   rintro _ ai _ ap o _ _ ⟨aq,rfl,rfl,h⟩
   refine m8 h (fun _ h=>?_) (fun _ h=>?_)
   ·exact hR _ ai _ _ o ⟨4,rfl,rfl,h⟩
   ·refine f0 Tryz.call123 h o ?_
    rintro _ ar _ au p _ _ ⟨av,rfl,rfl,h⟩
    simp only [z7]
    refine a6N [] (fun c:Bool=>(vB c)) h p (fun q h=>?_) fun c r aj d s t h=>?_
    ·have a:=q
     simp only [i4 a]
     refine f0 Tryz.call123 h p ?_
     rintro _ r _ aj d t s ⟨c,rfl,rfl,h⟩
     exact ⟨c,r,rfl,d,s,t,h⟩
    refine c5 (L8 _ _) ?_
    simp only [z7]
    refine c5 (Pu.g fun a=>by simp only [i4 a];with_reducible exact pEq) ?_
    refine c5 (L8 _ _) ?_
    simp only [z7]
    refine a6N [] (fun f:Bool=>(vB f)) h d (fun u h=>?_) fun f v ak i y z h=>?_
    ·have a:=u
     simp only [i4 a]
     refine f0 Tryz.call123 h d ?_
     rintro _ v _ ak i z y ⟨f,rfl,rfl,h⟩
     exact ⟨f,v,rfl,i,y,z,h⟩
    simp only [a7g,b2M]
    refine c5 (Pu.e (a1d _ _ _) (Pu.g fun hb=>by obtain ⟨a,b⟩:=a4o hb;simp only [i4 hb];with_reducible exact pNe)) ?_
    refine c5 (Pu.g fun a=>by simp only [i4 a,a9Y a];with_reducible exact (y9 _ _)) ?_
    simp only [a7g,b2M]
    refine c5 (Pu.e (a1d _ _ _) (Pu.g fun hb=>by obtain ⟨a,b⟩:=a4o hb;simp only [i4 hb];with_reducible exact pNe)) ?_
    refine c5 (Pu.g fun a=>by simp only [i4 a,a9Y a];with_reducible exact (y9 _ _)) ?_
    refine c5 (L8 _ _) ?_
    simp only [z7]
    refine a6N [] (fun j:Bool=>(vB j)) h i (fun aa h=>?_) fun j ab al k ac ad h=>?_
    ·have a:=aa
     simp only [i4 a]
     refine f0 Tryz.call123 h i ?_
     rintro _ ab _ al k ad ac ⟨j,rfl,rfl,h⟩
     exact ⟨j,ab,rfl,k,ac,ad,h⟩
    simp only [a7g,b2M]
    refine c5 (Pu.e (a1d _ _ _) (Pu.g fun hb=>by obtain ⟨a,b⟩:=a4o hb;simp only [i4 hb];with_reducible exact pNe)) ?_
    refine c5 (Pu.g fun a=>by simp only [i4 a,a9Y a];with_reducible exact (y9 _ _)) ?_
    refine c5 (L8 _ _) ?_
    simp only [z7]
    refine a6N [] (fun l:Bool=>(vB l)) h k (fun ae h=>?_) fun l n am m af ag h=>?_
    ·have a:=ae
     simp only [i4 a]
     refine f0 Tryz.call123 h k ?_
     rintro _ n _ am m ag af ⟨l,rfl,rfl,h⟩
     exact ⟨l,n,rfl,m,af,ag,h⟩
    refine c5 (L8 _ _) ?_
    refine m8 h (fun _ h=>?_) (fun _ h=>?_)
    ·exact hR _ n _ _ m ⟨3,rfl,rfl,h⟩
    ·have hj1:∀H w (_:Inv w0 ps0 H0 H [] w) (_:a0J H K),b7j w R E:=by
      intro H w I h
      unfold b7j
      intro _
      unfold a0J at h
      exact hR _ H _ _ I ⟨6,rfl,rfl,h⟩
     refine o6 fun j1 hx1=>?_
     refine C9 (σ:=Int) (fun B6=>[(vi B6)]) (fun B6=>[]) h rfl m ?_
     rintro B6 H aw w next2 n2 ah I h hn2
     simp only [List.map_cons,List.map_nil,List.cons.injEq,and_true] at ah
     have e4:=ah
     simp only [e4]
     unfold c1L
     unfold a3d at h
     refine c5 (b3t _) (c5 pLs ?_)
     refine d9 h (fun _ h=>?_) (fun _ h=>?_)
     ·obtain ⟨an,ao,h⟩:=h
      refine c5 (b2R _ _ _ an ao) (c5 (b4n _ _) (c5 pEq ?_))
      refine d9 h (fun _ h=>?_) (fun _ h=>?_)
      ·exact hR _ H _ _ I ⟨5,rfl,rfl,h⟩
      ·refine c5 pAd ?_
       exact hn2 (IntKind.wrap .i64 (B6+1)) _ _ h I
     ·exact hx1 _ _ (hj1 H _ I h)
def a0W(a0d:Int)(H:Hp)(K:Bool→Hp→Prop):Prop:=
 K (decide (a0d≤32)) H
def a3C(a2q:ByteArray)(a0h:Int)(B6:Int)(H:Hp)(n2:(Int×Int)→Hp→Prop)(K:Bool→Hp→Prop):Prop:=
 (B6 < (a2q.size:Int)→
 a5j a2q B6 H (fun d e b f=>
 a4s d f (fun a c=>
 (((!b)||((!decide (a=3))&&((!decide (a=4))||(decide (a0h=0)))))=true→
 K false c)∧
 (((!b)||((!decide (a=3))&&((!decide (a=4))||(decide (a0h=0)))))=false→
 n2 ((IntKind.wrap .i64 (a0h+1)),(IntKind.wrap .i64 (B6+e))) c))))∧
 (¬(B6 < (a2q.size:Int))→
 a0W a0h H K)
def a5s(x0:ByteArray)(H:Hp)(K:Bool→Hp→Prop):Prop:=
 TG (((decide (x0=⟨#[]⟩))||(decide (128 < (x0.size:Int))))=false) (a5k x0 H) false H (fun(a:Bool)(b:Hp)=>
 ((((decide (x0=⟨#[]⟩))||(decide (128 < (x0.size:Int))))||a)=true→
 K false b)∧
 ((((decide (x0=⟨#[]⟩))||(decide (128 < (x0.size:Int))))||a)=false→
 TL ((0,0):Int×Int) b fun(s:Int×Int) H n2=>a3C x0 s.1 s.2 H n2 K))
theorem b1y(x0){H K}(h:a5s x0 H K):a2j x0 H K:=by
 refine Ct.of fun w0 w ps0 H0 R E I hR=>c7s ?_
 unfold a5s at h
 unfold d0A
 refine c5 (P4 _ _ _ _ _) ?_
 simp only [z7]
 refine c5 (Pu.g fun a=>by simp only [i4 a];with_reducible exact (b3t _)) ?_
 refine c5 (Pu.g fun a=>by simp only [i4 a];with_reducible exact pGt) ?_
 refine c5 (L8 _ _) ?_
 simp only [z7]
 refine a6N [] (fun f:Bool=>(vB f)) h I (fun l h=>?_) fun f j q i m n h=>?_
 ·have a:=l
  simp only [i4 a]
  refine f0 Tryz.call114 h I ?_
  rintro _ j _ q i n m ⟨f,rfl,rfl,h⟩
  exact ⟨f,j,rfl,i,m,n,h⟩
 refine c5 (L8 _ _) ?_
 refine m8 h (fun _ h=>?_) (fun _ h=>?_)
 ·exact hR _ j _ _ i ⟨false,rfl,rfl,h⟩
 ·have hj1:∀(a0d:Int) H w (_:Inv w0 ps0 H0 H [] w) (_:a0W a0d H K),b6P (vi a0d) w R E:=by
   intro a0d H w I h
   unfold b6P
   intro _
   unfold a0W at h
   refine c5 pLe ?_
   exact hR _ H _ _ I ⟨(decide (a0d≤32)),rfl,rfl,h⟩
  refine o6 fun j1 hx1=>?_
  refine C9 (σ:=Int×Int) (fun (a0h,B6)=>[(vi a0h),(vi B6)]) (fun (a0h,B6)=>[]) h rfl i ?_
  rintro ⟨a0h,B6⟩ H v w next2 n2 k I h hn2
  dsimp only at k I h
  simp only [List.map_cons,List.map_nil,List.cons.injEq,and_true] at k
  obtain ⟨e3,e4⟩:=k
  simp only [e3,e4]
  unfold c1x
  unfold a3C at h
  refine c5 (b3t _) (c5 pLs ?_)
  refine d9 h (fun _ h=>?_) (fun _ h=>?_)
  ·refine f0 Tryz.call115 h I ?_
   rintro _ _ _ y r _ _ ⟨s,o,t,rfl,rfl,h⟩
   refine c5 (m0 _ _ (vi s) rfl) (c5 (m0 _ _ (vi o) rfl) (c5 (m0 _ _ (vB t) rfl) ?_))
   refine f0 Tryz.call116 h r ?_
   rintro _ u _ z p _ _ ⟨aa,rfl,rfl,h⟩
   refine c5 (T1 _) ?_
   simp only [z7]
   refine c5 (Pu.g fun a=>by simp only [i4 a];with_reducible exact pNe) ?_
   simp only [a7g,b2M]
   refine c5 (Pu.e (a1d _ _ _) (Pu.g fun hb=>by obtain ⟨a,b⟩:=a4o hb;simp only [i4 hb];with_reducible exact pNe)) ?_
   simp only [a7g,c3H]
   refine c5 (Pu.e (a3K _ _ _) (Pu.g fun hb=>by obtain ⟨d,c⟩:=a5U hb;obtain ⟨a,b⟩:=a4o d;simp only [i4 hb];with_reducible exact pEq)) ?_
   refine c5 (Pu.e (a1d _ _ _) (Pu.g fun hb=>by obtain ⟨a,b⟩:=a4o hb;simp only [i4 hb,b4k hb];with_reducible exact (L8 _ _))) ?_
   refine c5 (Pu.g fun a=>by simp only [i4 a,a9Y a];with_reducible exact (y9 _ _)) ?_
   refine c5 (L8 _ _) ?_
   refine m8 h (fun _ h=>?_) (fun _ h=>?_)
   ·exact hR _ u _ _ p ⟨false,rfl,rfl,h⟩
   ·refine c5 pAd (c5 pAd ?_)
    exact hn2 ((IntKind.wrap .i64 (a0h+1)),(IntKind.wrap .i64 (B6+o))) _ _ h p
  ·exact hx1 _ _ (hj1 a0h H _ I h)
def a0K(a:d3)(d:d4)(e:m6)(H:Hp)(K:Int→Hp→Prop):Prop:=
 a2D a H (fun b c=>
 K b c)
def a3e(d:d4)(a:m6)(W1:Int)(b:d3)(H:Hp)(n3:(Int×d3)→Hp→Prop)(K:Int→Hp→Prop):Prop:=
 (((decide (W1 < (a.a1l.n:Int)))&&b.fok)=true→
 (0:Int)≤W1∧(W1:Int) < a.a1l.n∧∃c:i8,EltH H a.a1l W1 6 (g7 c)∧
 T4 b c H (fun e f=>
 n3 ((IntKind.wrap .i64 (W1+1)),e) f))∧
 (((decide (W1 < (a.a1l.n:Int)))&&b.fok)=false→
 a0K b d a H K)
def a0L(a:d3)(b:d4)(c:m6)(H:Hp)(K:Int→Hp→Prop):Prop:=
 TL ((0,a):Int×d3) H fun(s:Int×d3) H n3=>a3e b c s.1 s.2 H n3 K
def a3f(f:d4)(a:m6)(S6:Int)(b:d3)(H:Hp)(n4:(Int×d3)→Hp→Prop)(K:Int→Hp→Prop):Prop:=
 (S6 < (a.E4.n:Int)→
 ∃c:i7,(b.fok=true→(0:Int)≤S6∧(S6:Int) < a.E4.n∧EltH H a.E4 S6 2 (i5 c))∧
 ∃d:i7,((b.fok&&(decide (0≤c.N2)))=true→(0:Int)≤S6∧(S6:Int) < a.E4.n∧EltH H a.E4 S6 2 (i5 d))∧
 (0:Int)≤S6∧(S6:Int) < a.E4.n∧∃e:i7,EltH H a.E4 S6 2 (i5 e)∧
 T2 (d3.mk ((b.fok&&(decide (0≤c.N2)))&&(decide (d.N2≤2147483647))) b.fnames) e.f6 true H (fun g i=>
 n4 ((IntKind.wrap .i64 (S6+1)),g) i))∧
 (¬(S6 < (a.E4.n:Int))→
 a0L b f a H K)
def a4H(x0:m6)(H:Hp)(K:Int→Hp→Prop):Prop:=
 a3R x0 H (fun a b=>
 (¬(a.fbad=0)→
 K a.fbad b)∧
 (a.fbad=0→
 TL ((0,(d3.mk true true)):Int×d3) b fun(s:Int×d3) H n4=>a3f a x0 s.1 s.2 H n4 K))
theorem b0M(x0){H K}(h:a4H x0 H K):a4t x0 H K:=by
 refine Ct.of fun w0 w ps0 H0 R E I hR=>c9D ?_
 unfold a4H at h
 unfold F46
 refine A9 I (cs:=(m5 x0)) rfl fun f ax aa ay=>?_
 refine c6 (lW Tryz.isAgg25 Tryz.sizeOf25 rfl aa) ?_
 refine f0 Tryz.call72 h aa ?_
 rintro _ ab _ az ac _ _ ⟨d,rfl,rfl,h⟩
 refine u4 ac Tryz.zeroValue133 (cs:=[(vi 0),(vi 0),(vi 0)]) rfl fun i ba ad bb=>?_
 refine y6 ad Tryz.sizeOf133 (vs:=(o7 d)) fun bc j bd=>?_
 refine c5 V5 (c6 (l1 Tryz.isAgg3 j rfl) (c5 pNe ?_))
 refine a3P h (fun _ h=>?_) (fun _ h=>?_)
 ·refine c5 V5 (c6 (l1 Tryz.isAgg3 j rfl) ?_)
  exact hR _ ab _ _ j.drop.drop ⟨d.fbad,rfl,rfl,h⟩
 ·refine c5 (b6I _ _) ?_
  refine u4 j Tryz.zeroValue136 (cs:=[(vB false),(vB false)]) rfl fun e be ae bf=>?_
  refine y6 ae Tryz.sizeOf136 (vs:=[(vB true),(vB true)]) fun bg af bh=>?_
  have hj1:∀(o:d3) H w (_:Inv w0 ps0 H0 H [bx e 136 (o5 o),bx i 133 (o7 d),bx f 25 (m5 x0)] w) (_:a0L o d x0 H K),b9F (Value.pointer (some ⟨f,0,none⟩)) (Value.pointer (some ⟨e,0,none⟩)) w R E:=by
   intro o H w I h
   unfold b9F
   intro _
   unfold a0L at h
   have hj2:∀(p:d3) H w (_:Inv w0 ps0 H0 H [bx e 136 (o5 p),bx i 133 (o7 d),bx f 25 (m5 x0)] w) (_:a0K p d x0 H K),b9E (Value.pointer (some ⟨e,0,none⟩)) w R E:=by
    intro p H w I h
    unfold b9E
    intro _
    unfold a0K at h
    refine c6 (lW Tryz.isAgg136 Tryz.sizeOf136 rfl I) ?_
    refine f0 Tryz.call75 h I ?_
    rintro _ ag _ bi ah _ _ ⟨ai,rfl,rfl,h⟩
    exact hR _ ag _ _ ah.drop.drop.drop ⟨ai,rfl,rfl,h⟩
   refine o6 fun j2 hx2=>?_
   refine C9 (σ:=Int×d3) (fun (W1,l)=>[(vi W1)]) (fun (W1,l)=>[bx e 136 (o5 l),bx i 133 (o7 d),bx f 25 (m5 x0)]) h rfl (((I.bring 2).bring 2).bring 2) ?_
   rintro ⟨W1,l⟩ H bj w next3 n3 q I h hn3
   dsimp only at q I h
   simp only [List.map_cons,List.map_nil,List.cons.injEq,and_true] at q
   have e6:=q
   simp only [e6]
   unfold c4j
   unfold a3e at h
   refine c5 a1m (c6 (l1 Tryz.isAgg23 (I.bring 2) rfl) (c5 (L3 _ _ _) (c5 pLs ?_)))
   refine c5 (Pu.g fun a=>by with_reducible exact J8) ?_
   refine c6 (Ld.g fun a=>by simp only [i4 a];exact (l1 Tryz.isAgg4 I rfl)) ?_
   refine c5 (y9 _ _) ?_
   refine m8 h (fun _ h=>?_) (fun _ h=>?_)
   ·refine c5 a1m (c6 (l1 Tryz.isAgg23 (I.bring 2) rfl) ?_)
    obtain ⟨aj,ak,al,r,h⟩:=h
    obtain ⟨bk,bl,am,r⟩:=r
    refine c5 (a3Q am _ _ _ _ aj ak) (c6 (ldA (vs:=(g7 al)) Tryz.isAgg60 Tryz.sizeOf60 rfl (I.atH r)) ?_)
    refine f0 Tryz.call74 (h e) I ?_
    rintro _ _ _ bm an _ _ ⟨ao,rfl,rfl,h⟩
    refine c5 pAd ?_
    exact hn3 ((IntKind.wrap .i64 (W1+1)),ao) _ _ h (((an.bring 2).bring 2).bring 2)
   ·exact hx2 _ _ (hj2 l H _ (((I.bring 2).bring 2).bring 2) h)
  refine o6 fun j1 hx1=>?_
  refine C9 (σ:=Int×d3) (fun (S6,m)=>[(vi S6)]) (fun (S6,m)=>[bx e 136 (o5 m),bx i 133 (o7 d),bx f 25 (m5 x0)]) h rfl (((af.bring 2).bring 2).bring 2) ?_
  rintro ⟨S6,m⟩ H bn w next4 n4 s I h hn4
  dsimp only at s I h
  simp only [List.map_cons,List.map_nil,List.cons.injEq,and_true] at s
  have e5:=s
  simp only [e5]
  unfold c4k
  unfold a3f at h
  refine c5 P3 (c6 (l1 Tryz.isAgg22 (I.bring 2) rfl) (c5 (a0V _ _ _) (c5 pLs ?_)))
  refine d9 h (fun _ h=>?_) (fun _ h=>?_)
  ·refine c5 J8 (c6 (l1 Tryz.isAgg4 I rfl) ?_)
   refine c5 (Pu.g fun a=>by with_reducible exact P3) ?_
   refine c6 (Ld.g fun a=>by simp only [i4 a];exact (l1 Tryz.isAgg22 (I.bring 2) rfl)) ?_
   simp only [z7]
   obtain ⟨t,b,h⟩:=h
   obtain ⟨bo,bp,b⟩:=b4K b
   refine c5 (Pu.g fun hb=>by have a:=hb;simp only [i4 a];with_reducible exact (U7 (b hb).2.2.1 _ _ _ _ (b hb).1 (b hb).2.1)) ?_
   refine c5 (Pu.g fun a=>by simp only [i4 a];with_reducible exact a2f) ?_
   refine c6 (Ld.g fun hb=>by have a:=hb;simp only [i4 a];exact (ld1 (v:=(vi t.N2)) Tryz.isAgg3 ((I.atH (b hb).2.2.2).sub (k:=1) (n:=1) (nb rfl)))) ?_
   refine c5 (Pu.g fun a=>by simp only [i4 a];with_reducible exact pGe) ?_
   refine c5 (y9 _ _) ?_
   refine c5 (Pu.g fun a=>by with_reducible exact P3) ?_
   refine c6 (Ld.g fun a=>by simp only [i4 a];exact (l1 Tryz.isAgg22 (I.bring 2) rfl)) ?_
   simp only [z7]
   obtain ⟨u,c,h⟩:=h
   obtain ⟨bq,br,c⟩:=b4K c
   refine c5 (Pu.g fun hb=>by have a:=hb;simp only [i4 a];with_reducible exact (U7 (c hb).2.2.1 _ _ _ _ (c hb).1 (c hb).2.1)) ?_
   refine c5 (Pu.g fun a=>by simp only [i4 a];with_reducible exact a2f) ?_
   refine c6 (Ld.g fun hb=>by have a:=hb;simp only [i4 a];exact (ld1 (v:=(vi u.N2)) Tryz.isAgg3 ((I.atH (c hb).2.2.2).sub (k:=1) (n:=1) (nb rfl)))) ?_
   refine c5 (Pu.g fun a=>by simp only [i4 a];with_reducible exact pLe) ?_
   refine c5 (y9 _ _) (c5 J8 ?_)
   refine C4 I Tryz.sizeOf4 fun bs y bt=>?_
   refine c5 P3 (c6 (l1 Tryz.isAgg22 (y.bring 2) rfl) ?_)
   obtain ⟨ap,aq,ar,z,h⟩:=h
   obtain ⟨bu,bv,au,z⟩:=z
   refine c5 (U7 au _ _ _ _ ap aq) (c5 T8 (c6 (ld1 (v:=(Value.string ar.f6)) Tryz.isAgg9 ((y.atH z).sub (k:=0) (n:=1) (nb rfl))) ?_))
   refine f0 Tryz.call73 (h e) y ?_
   rintro _ _ _ bw av _ _ ⟨aw,rfl,rfl,h⟩
   refine c5 pAd ?_
   exact hn4 ((IntKind.wrap .i64 (S6+1)),aw) _ _ h (((av.bring 2).bring 2).bring 2)
  ·exact hx1 _ _ (hj1 m H _ (((I.bring 2).bring 2).bring 2) h)
def P1(a7J:(List i7))(b3D:Int)(a:m6)(H:Hp)(n2:((List i7)×Int)→Hp→Prop)(K:Sl→Hp→Prop):Prop:=
 n2 (a7J,(IntKind.wrap .i64 (b3D+1))) H
def a0m(a8Y:(List i7))(b:m6)(H:Hp)(K:Sl→Hp→Prop):Prop:=
 ∀(a3u:Sl)(a:Hp),Hle H a→SlH a 2 i5 a3u a8Y→a3u.n≤a3u.c→
 K a3u a
def a0o(a:m6)(S5:(List i7))(B6:Int)(H:Hp)(n2:((List i7)×Int)→Hp→Prop)(K:Sl→Hp→Prop):Prop:=
 (B6 < (a.E4.n:Int)→
 (0:Int)≤B6∧(B6:Int) < a.E4.n∧∃b:i7,EltH H a.E4 B6 2 (i5 b)∧
 (0 < b.N2→
 (S5.length+([b]:List i7).length)*25≤140737488355328∧
 P1 (S5++[b]) B6 a H n2 K)∧
 (¬(0 < b.N2)→
 P1 S5 B6 a H n2 K))∧
 (¬(B6 < (a.E4.n:Int))→
 a0m S5 a H K)
def a3Z(x0:m6)(H:Hp)(K:Sl→Hp→Prop):Prop:=
 TL (([],0):(List i7)×Int) H fun(s:(List i7)×Int) H n2=>a0o x0 s.1 s.2 H n2 K
theorem b0v(x0){H K}(h:a3Z x0 H K):a3S x0 H K:=by
 refine Ct.of fun w0 w ps0 H0 R E I hR=>c9v ?_
 unfold a3Z at h
 unfold F27
 refine A9 I (cs:=(m5 x0)) rfl fun f al u am=>?_
 have hj1:∀(a8Y:(List i7))(a3u:Sl)(Fs3j1:Frag) H w (_:RowL 70 2 i5 a3u a8Y Fs3j1) (_:Inv w0 ps0 H0 H [bx f 25 (m5 x0),Fs3j1] w) (_:a0m a8Y x0 H K),b9y (vs a3u) w R E:=by
  intro a8Y a3u Fs3j1 H w c2R I h
  unfold b9y
  intro _
  unfold a0m at h
  obtain ⟨o,y,z,aa,ab⟩:=Inv.freezeC (I.bring 1) c2R (by decide)
  replace h:=h a3u o z aa ab
  exact hR _ o _ _ y.drop ⟨a3u,rfl,rfl,h⟩
 refine o6 fun j1 hx1=>?_
 obtain ⟨j,d,ac,ad⟩:=h
 refine L5 (J:=fun n l w=>∃(s:(List i7)×Int)(H:Hp)(a7K:Sl)(Fs3l2:Frag),n=d s∧l=(match s with | (S5,B6)=>[(vs a7K),(vi B6)])∧(match s with | (S5,B6)=>RowL 70 2 i5 a7K S5 Fs3l2)∧(match s with | (S5,B6)=>Inv w0 ps0 H0 H [bx f 25 (m5 x0),Fs3l2] w)∧j s H) ⟨_,([],0),H,(Sl.mk none 0 0),[],rfl,rfl,(RowL.nil a6Q a8m),(u.nil.bring 1),ac⟩ ?_
 rintro an ao w next2 ⟨⟨S5,B6⟩,H,a7K,Fs3l2,rfl,m,b0N,I,ae⟩ hn2
 dsimp only at m I b0N
 simp only [List.map_cons,List.map_nil,List.cons.injEq,and_true] at m
 obtain ⟨e3,e4⟩:=m
 simp only [e3,e4]
 obtain ⟨n2,hm2,h⟩:∃n2:((List i7)×Int)→Hp→Prop,(∀s' H',n2 s' H'→j s' H'∧d s' < d (S5,B6))∧a0o x0 S5 B6 H n2 K:=⟨_,fun _ _ h=>h,ad (S5,B6) H (fun s' H'=>j s' H'∧d s' < d (S5,B6)) ae (fun _ _ a b=>⟨a,b⟩)⟩
 unfold c4e
 unfold a0o at h
 refine c5 P3 (c6 (l1 Tryz.isAgg22 I rfl) (c5 (a0V _ _ _) (c5 pLs ?_)))
 refine d9 h (fun _ h=>?_) (fun _ h=>?_)
 ·have hj3:∀(a7J:(List i7))(b0O:Sl)(Fs3j3:Frag) H w (_:RowL 70 2 i5 b0O a7J Fs3j3) (_:Inv w0 ps0 H0 H [bx f 25 (m5 x0),Fs3j3] w) (_:P1 a7J B6 x0 H n2 K),b9z (Value.pointer (some ⟨f,0,none⟩)) (vs b0O) (vi B6) w next2 R E:=by
   intro a7J b0O Fs3j3 H w c2S I h
   unfold b9z
   intro _
   unfold P1 at h
   refine c5 pAd ?_
   exact hn2 _ _ _ (hm2 _ _ h).2 ⟨(a7J,(IntKind.wrap .i64 (B6+1))),H,b0O,Fs3j3,rfl,rfl,c2S,((I.bring 1).bring 1),(hm2 _ _ h).1⟩
  refine o6 fun j3 hx3=>?_
  refine c5 P3 (c6 (l1 Tryz.isAgg22 I rfl) ?_)
  obtain ⟨p,q,g,i,h⟩:=h
  obtain ⟨ap,aq,r,i⟩:=i
  refine c5 (U7 r _ _ _ _ p q) (c5 a2f (c6 (ld1 (v:=(vi g.N2)) Tryz.isAgg3 ((I.atH i).sub (k:=1) (n:=1) (nb rfl))) (c5 pGt ?_)))
  refine d9 h (fun _ h=>?_) (fun _ h=>?_)
  ·refine c5 P3 (c6 (l1 Tryz.isAgg22 I rfl) (c5 (U7 r _ _ _ _ p q) (c6 (ldA (vs:=(i5 g)) Tryz.isAgg70 Tryz.sizeOf70 rfl (I.atH i)) ?_)))
   refine a3v (e:=70) (c:=i5) (xs:=[g]) I (c7k _ _) rfl rfl a6Q a8m (nb rfl) fun ar au av af t aw=>?_
   obtain ⟨ag,h⟩:=h
   refine c3U (s:=a7K) (xs:=S5) (t.bring 2) b0N (af.srcO ((t.bring 2).bring 1)) ag fun ah ai ax aj ak ay=>?_
   exact hx3 _ _ (hj3 (S5++[g]) ah ai H _ aj ((ak.bring 1).drop.bring 1) h)
  ·exact hx3 _ _ (hj3 S5 a7K Fs3l2 H _ b0N ((I.bring 1).bring 1) h)
 ·exact hx1 _ _ (hj1 S5 a7K Fs3l2 H _ b0N ((I.bring 1).bring 1) h)
def a1A(x0:d6)(c:(List c7))(x1:f8)(H:Hp)(K:m4→Bool→Hp→Prop):Prop:=
 (x1.c8=1→
 K (m4.mk (-1) x1.s7) true H)∧
 (¬(x1.c8=1)→
 ∃a:f8,((decide (x1.c8=5))=true→(0:Int)≤0∧(0:Int) < x1.u1.n∧EltH H x1.u1 0 4 (d7 a))∧
 (((decide (x1.c8=5))&&(decide (a.c8=1)))=true→
 (0:Int)≤0∧(0:Int) < x1.u1.n∧∃b:f8,EltH H x1.u1 0 4 (d7 b)∧
 K (m4.mk (-1) (IntKind.wrap .i64 (0-b.s7))) true H)∧
 (((decide (x1.c8=5))&&(decide (a.c8=1)))=false→
 (x1.c8=2→
 O3 (d5 x0) c x1.f6 H (fun d e=>
 K (m4.mk d 0) true e))∧
 (¬(x1.c8=2)→
 K (m4.mk 0 0) false H)))
theorem a8u(x0 i x1){H K}(h:a1A x0 i x1 H K):X0 x0 i x1 H K:=by
 intro g0 q r s
 refine Ct.of fun w0 w ps0 H0 R E I hR=>d0d ?_
 unfold a1A at h
 unfold F79
 refine A9 I (cs:=(d7 x1)) rfl fun ac ad t ae=>?_
 refine u4 t Tryz.zeroValue38 (cs:=[(vi 0),(vi 0)]) rfl fun af ag c ah=>?_
 refine c5 C2 (c6 (l1 Tryz.isAgg3 (c.bring 1) rfl) (c5 pEq ?_))
 refine d9 h (fun _ h=>?_) (fun _ h=>?_)
 ·refine c5 a4Y (c6 (l1 Tryz.isAgg2 (c.bring 1) rfl) (c5 (a8l _ _) ?_))
  refine y6 c Tryz.sizeOf38 (vs:=[(vi (-1)),(vi x1.s7)]) fun ai j aj=>?_
  refine Q0 Tryz.isAgg38 Tryz.sizeOf38 rfl j ?_
  exact hR _ H _ _ ((j.drop.drop.bring 1).bring 1) ⟨(m4.mk (-1) x1.s7),true,rfl,rfl,h⟩
 ·refine c5 C2 (c6 (l1 Tryz.isAgg3 (c.bring 1) rfl) (c5 pEq ?_))
  refine c5 (Pu.g fun a=>by with_reducible exact C3) ?_
  refine c6 (Ld.g fun a=>by simp only [i4 a];exact (l1 Tryz.isAgg57 (c.bring 1) rfl)) ?_
  obtain ⟨d,b,h⟩:=h
  obtain ⟨ak,al,b⟩:=b4K b
  refine c5 (Pu.g fun hb=>by have a:=hb;simp only [i4 a];with_reducible exact (A0 (b hb).2.2.1 _ _ _ _ (b hb).1 (b hb).2.1)) ?_
  refine c5 (Pu.g fun a=>by simp only [i4 a];with_reducible exact C2) ?_
  refine c6 (Ld.g fun hb=>by have a:=hb;simp only [i4 a];exact (ld1 (v:=(vi d.c8)) Tryz.isAgg3 ((c.atH (b hb).2.2.2).sub (k:=0) (n:=1) (nb rfl)))) ?_
  refine c5 (Pu.g fun a=>by simp only [i4 a];with_reducible exact pEq) ?_
  refine c5 (y9 _ _) ?_
  refine m8 h (fun _ h=>?_) (fun _ h=>?_)
  ·refine c5 C3 (c6 (l1 Tryz.isAgg57 (c.bring 1) rfl) ?_)
   obtain ⟨u,y,e,f,h⟩:=h
   obtain ⟨am,an,z,f⟩:=f
   refine c5 (A0 z _ _ _ _ u y) (c5 a4Y (c6 (ld1 (v:=(vi e.s7)) Tryz.isAgg2 ((c.atH f).sub (k:=1) (n:=1) (nb rfl))) (c5 (c3F _ _) (c5 (a8l _ _) ?_))))
   refine y6 c Tryz.sizeOf38 (vs:=[(vi (-1)),(vi (IntKind.wrap .i64 (0-e.s7)))]) fun ao l ap=>?_
   refine Q0 Tryz.isAgg38 Tryz.sizeOf38 rfl l ?_
   exact hR _ H _ _ ((l.drop.drop.bring 1).bring 1) ⟨(m4.mk (-1) (IntKind.wrap .i64 (0-e.s7))),true,rfl,rfl,h⟩
  ·refine c5 C2 (c6 (l1 Tryz.isAgg3 (c.bring 1) rfl) (c5 pEq ?_))
   refine d9 h (fun _ h=>?_) (fun _ h=>?_)
   ·refine c5 a1V (c6 (l1 Tryz.isAgg9 (c.bring 1) rfl) ?_)
    refine f0 Tryz.call81 (h g0 q r s) ((c.bring 3).bring 3) ?_
    rintro _ aa _ aq ab _ _ ⟨m,rfl,rfl,h⟩
    refine c5 (a4X _) ?_
    refine y6 (ab.bring 2) Tryz.sizeOf38 (vs:=[(vi m),(vi 0)]) fun ar o au=>?_
    refine Q0 Tryz.isAgg38 Tryz.sizeOf38 rfl o ?_
    exact hR _ aa _ _ (((o.drop.bring 2).drop.bring 1).bring 1) ⟨(m4.mk m 0),true,rfl,rfl,h⟩
   ·refine c5 (c3T) ?_
    refine y6 c Tryz.sizeOf38 (vs:=[(vi 0),(vi 0)]) fun av p aw=>?_
    refine Q0 Tryz.isAgg38 Tryz.sizeOf38 rfl p ?_
    exact hR _ H _ _ ((p.drop.drop.bring 1).bring 1) ⟨(m4.mk 0 0),false,rfl,rfl,h⟩
def a1B(x0:d6)(a:(List c7))(x1:Sl)(x2:Int)(H:Hp)(K:Int→d6→(List c7)→Hp→Prop):Prop:=
 ((x1.n:Int)=0→
 K x2 (d5 x0) a H)∧
 (¬((x1.n:Int)=0)→
 A4 (d5 x0) a H (fun b c d e=>
 K b (d5 c) d e))
theorem a8v(x0 a x1 x2){H K}(h:a1B x0 a x1 x2 H K):Q5 x0 a x1 x2 H K:=by
 intro g0 b c d
 refine Ct.of fun w0 w ps0 H0 R E I hR=>d0j ?_
 unfold a1B at h
 unfold F85
 refine c5 (L3 _ _ _) (c5 pEq ?_)
 refine d9 h (fun _ h=>?_) (fun _ h=>?_)
 ·exact hR _ H _ _ ((I.bring 1).bring 1) ⟨x2,(d5 x0),a,b,c,rfl,rfl,d,h⟩
 ·refine f0 Tryz.call28 (h g0 b c d) ((I.bring 1).bring 1) ?_
  rintro _ e _ n f _ _ ⟨g,i,j,k,l,rfl,rfl,m,h⟩
  exact hR _ e _ _ ((f.bring 1).bring 1) ⟨g,(d5 i),j,k,l,rfl,rfl,m,h⟩
def a3M(a3B:Int)(b6j:(List ByteArray))(b:m6)(H:Hp)(K:Sl→Int→Hp→Prop):Prop:=
 ∀(a9U:Sl)(a:Hp),Hle H a→SlH a 1 v2 a9U b6j→a9U.n≤a9U.c→
 K a9U a3B a
def a3N(q8:Int)(c6D:Sl)(c6E:Int)(b:m6)(a6A:(List ByteArray))(a6k:Int)(H:Hp)(n2:((List ByteArray)×Int)→Hp→Prop)(K:Sl→Int→Hp→Prop):Prop:=
 (a6k < c6E→
 (0:Int)≤a6k∧(a6k:Int) < c6D.n∧∃a:i7,EltH H c6D a6k 2 (i5 a)∧
 (a6A.length+([a.f6]:List ByteArray).length)*17≤140737488355328∧
 n2 ((a6A++[a.f6]),(IntKind.wrap .i64 (a6k+1))) H)∧
 (¬(a6k < c6E)→
 a3M q8 a6A b H K)
def a7u(x0:m6)(H:Hp)(K:Sl→Int→Hp→Prop):Prop:=
 a8s x0 1 H (fun a b c=>
 TL (([],0):(List ByteArray)×Int) c fun(s:(List ByteArray)×Int) H n2=>a3N b a (a.n:Int) x0 s.1 s.2 H n2 K)
theorem b4q(x0){H K}(h:a7u x0 H K):b0b x0 H K:=by
 refine Ct.of fun w0 w ps0 H0 R E I hR=>c9p ?_
 unfold a7u at h
 unfold F21
 refine A9 I (cs:=(m5 x0)) rfl fun m ap o aq=>?_
 refine c6 (lW Tryz.isAgg25 Tryz.sizeOf25 rfl o) ?_
 refine f0 Tryz.call44 h o ?_
 rintro _ u _ ar v _ _ ⟨p,d,rfl,rfl,h⟩
 refine c5 (m0 _ _ _ rfl) (c5 (m0 _ _ (vi d) rfl) ?_)
 have hj1:∀(b6j:(List ByteArray))(a9U:Sl)(Fs6j1:Frag) H w (_:RowL 9 1 v2 a9U b6j Fs6j1) (_:Inv w0 ps0 H0 H [bx m 25 (m5 x0),Fs6j1] w) (_:a3M d b6j x0 H K),b9r (vi d) (vs a9U) w R E:=by
  intro b6j a9U Fs6j1 H w d2q I h
  unfold b9r
  intro _
  unfold a3M at h
  obtain ⟨q,y,z,aa,ab⟩:=Inv.freezeC (I.bring 1) d2q (by decide)
  replace h:=h a9U q z aa ab
  exact hR _ q _ _ y.drop ⟨a9U,d,rfl,rfl,h⟩
 refine o6 fun j1 hx1=>?_
 refine c5 (a0V _ _ _) ?_
 obtain ⟨i,f,ac,ad⟩:=h
 refine L5 (J:=fun n l w=>∃(s:(List ByteArray)×Int)(H:Hp)(b6k:Sl)(Fs6l2:Frag),n=f s∧l=(match s with | (a6A,a6k)=>[(vs b6k),(vi a6k)])∧(match s with | (a6A,a6k)=>RowL 9 1 v2 b6k a6A Fs6l2)∧(match s with | (a6A,a6k)=>Inv w0 ps0 H0 H [bx m 25 (m5 x0),Fs6l2] w)∧i s H) ⟨_,([],0),u,(Sl.mk none 0 0),[],rfl,rfl,(RowL.nil a6V a6W),(v.nil.bring 1),ac⟩ ?_
 rintro au av w next2 ⟨⟨a6A,a6k⟩,H,b6k,Fs6l2,rfl,j,c2T,I,ae⟩ hn2
 dsimp only at j I c2T
 simp only [List.map_cons,List.map_nil,List.cons.injEq,and_true] at j
 obtain ⟨e6,e16⟩:=j
 simp only [e6,e16]
 obtain ⟨n2,hm2,h⟩:∃n2:((List ByteArray)×Int)→Hp→Prop,(∀s' H',n2 s' H'→i s' H'∧f s' < f (a6A,a6k))∧a3N d p (p.n:Int) x0 a6A a6k H n2 K:=⟨_,fun _ _ h=>h,ad (a6A,a6k) H (fun s' H'=>i s' H'∧f s' < f (a6A,a6k)) ae (fun _ _ a b=>⟨a,b⟩)⟩
 unfold c3Y
 unfold a3N at h
 refine c5 pLs ?_
 refine d9 h (fun _ h=>?_) (fun _ h=>?_)
 ·obtain ⟨af,ag,g,k,h⟩:=h
  obtain ⟨aw,ax,ah,k⟩:=k
  refine c5 (U7 ah _ _ _ _ af ag) (c6 (ldA (vs:=(i5 g)) Tryz.isAgg70 Tryz.sizeOf70 rfl (I.atH k)) ?_)
  refine u4 I Tryz.zeroValue70 (cs:=[(eS),(vi 0)]) rfl fun ay az ai ba=>?_
  refine y6 ai Tryz.sizeOf70 (vs:=(i5 g)) fun bb r bc=>?_
  refine c5 T8 (c6 (l1 Tryz.isAgg9 r rfl) ?_)
  refine a3v (e:=9) (c:=v2) (xs:=[g.f6]) r (b6H _) rfl rfl a6V a6W (nb rfl) fun bd be bf aj t bg=>?_
  obtain ⟨ak,h⟩:=h
  refine b9k (s:=b6k) (xs:=a6A) (t.bring 3) c2T (aj.srcO ((t.bring 3).bring 1)) ak fun al am bh an ao bi=>?_
  refine c5 pAd ?_
  exact hn2 _ _ _ (hm2 _ _ h).2 ⟨((a6A++[g.f6]),(IntKind.wrap .i64 (a6k+1))),H,al,am,rfl,rfl,an,(((ao.bring 1).drop.bring 1).drop.bring 1),(hm2 _ _ h).1⟩
 ·exact hx1 _ _ (hj1 a6A b6k Fs6l2 H _ c2T ((I.bring 1).bring 1) h)
def a4I(x0:f9)(a:(List c7))(x1:c7)(H:Hp)(K:f9→(List c7)→Hp→Prop):Prop:=
 (a.length+([x1]:List c7).length)*81≤140737488355328∧
 K (f4 x0) (a++[x1]) H
theorem b0P(x0 a x1){H K}(h:a4I x0 a x1 H K):B5 x0 a x1 H K:=by
 intro g0 f r g
 refine Ct.of fun w0 w ps0 H0 R E I hR=>c9T ?_
 unfold a4I at h
 unfold F69
 refine A9 I (cs:=(i6 x1)) rfl fun t u i v=>?_
 refine Q9 i fun y b=>?_
 refine g8 (m2 _) ?_
 refine g8 T9 ?_
 refine g8 W8 ?_
 refine p6 (l1 Tryz.isAgg28 (b.bring 1) rfl) ?_
 refine p6 (lW Tryz.isAgg40 Tryz.sizeOf40 rfl b) ?_
 refine a3v (e:=40) (c:=i6) (xs:=[x1]) b (c1q _ _ _ _ _ _ _ _ _ _) rfl rfl a6O a6P (nb rfl) fun z aa ab j d k=>?_
 refine ⟨(k _ (b.bring 1).lt1),?_⟩
 obtain ⟨l,h⟩:=h
 refine c3S (s:=f) (xs:=a) (d.bring 3) g (j.srcO ((d.bring 3).bring 1)) l fun m n ac o p ad=>?_
 refine g8 (m2 _) ?_
 refine g8 T9 ?_
 refine g8 W8 ?_
 refine C4 ((p.bring 1).drop.bring 2) Tryz.sizeOf28 fun ae q af=>?_
 exact hR _ H _ _ (((q.bring 2).drop.bring 1).bring 1) ⟨(f4 x0),(a++[x1]),m,n,rfl,rfl,o,h⟩
def a9w(x0:Int)(H:Hp)(K:Int→Hp→Prop):Prop:=
 (0:Int)≤x0∧(x0:Int) < 11∧
 K (([0,0,0,9,10,3,4,5,6,7,8]:List Int).getD (x0:Int).toNat 0) H
theorem b4f(x0){H K}(h:a9w x0 H K):a6Z x0 H K:=by
 refine Ct.of fun w0 w ps0 H0 R E I hR=>c7A ?_
 unfold a9w at h
 unfold d0I
 refine c5 (b0a _ _ _ _ _ _ _ _) ?_
 obtain ⟨a,b,h⟩:=h
 refine c5 (c2C _ _ _ _ _ _ _ _ _ _ _ _ _ a b) ?_
 exact hR _ H _ _ I ⟨(([0,0,0,9,10,3,4,5,6,7,8]:List Int).getD (x0:Int).toNat 0),rfl,rfl,h⟩
def a3g(x0:f9)(a:(List c7))(x1:f8)(x2:Int)(x3:Int)(H:Hp)(K:m4→Int→f9→(List c7)→Hp→Prop):Prop:=
 a1o (f4 x0) a x1 H (fun f b c=>
 (b=true→
 K f x2 (f4 x0) a c)∧
 (b=false→
 E7 (f4 x0) a c (fun d g i j=>
 a4w (f4 g) i x3 j (fun e k l m=>
 a1K (f4 k) l x1 e x2 d x3 m (fun n o p=>
 K (m4.mk e 0) d (f4 n) o p)))))
theorem a9D(x0 b x1 x2 x3){H K}(h:a3g x0 b x1 x2 x3 H K):V1 x0 b x1 x2 x3 H K:=by
 intro g0 c d e
 refine Ct.of fun w0 w ps0 H0 R E I hR=>d0w ?_
 unfold a3g at h
 unfold F98
 refine A9 I (cs:=(d7 x1)) rfl fun al am n an=>?_
 refine u4 n Tryz.zeroValue38 (cs:=[(vi 0),(vi 0)]) rfl fun ao ap j aq=>?_
 refine c6 (lW Tryz.isAgg123 Tryz.sizeOf123 rfl (j.bring 1)) ?_
 refine f0 Tryz.call96 (h g0 c d e) ((j.bring 3).bring 3) ?_
 rintro _ p _ ar q _ _ ⟨f,r,rfl,rfl,h⟩
 refine c5 (m0 _ _ _ rfl) (c5 (m0 _ _ (vB r) rfl) ?_)
 refine u4 q Tryz.zeroValue38 (cs:=[(vi 0),(vi 0)]) rfl fun au av s aw=>?_
 refine y6 s Tryz.sizeOf38 (vs:=(m7 f)) fun ax g ay=>?_
 refine m8 h (fun _ h=>?_) (fun _ h=>?_)
 ·refine c6 (lW Tryz.isAgg38 Tryz.sizeOf38 rfl g) ?_
  refine y6 (g.bring 3) Tryz.sizeOf38 (vs:=(m7 f)) fun az k ba=>?_
  refine Q0 Tryz.isAgg38 Tryz.sizeOf38 rfl k ?_
  exact hR _ p _ _ (((k.drop.drop.bring 2).drop.bring 1).bring 1) ⟨f,x2,(f4 x0),b,c,d,rfl,rfl,e,h⟩
 ·refine f0 Tryz.call23 (h g0 c d e) ((g.bring 2).bring 2) ?_
  rintro _ _ _ bb t _ _ ⟨u,bc,bd,v,y,rfl,rfl,z,h⟩
  refine f0 Tryz.call111 (h g0 v y z) ((t.bring 1).bring 1) ?_
  rintro _ _ _ be aa _ _ ⟨a,bf,bg,ab,ac,rfl,rfl,ad,h⟩
  refine c5 (a4X _) ?_
  refine u4 aa Tryz.zeroValue38 (cs:=[(vi 0),(vi 0)]) rfl fun bh bi ae bj=>?_
  refine y6 ae Tryz.sizeOf38 (vs:=[(vi a),(vi 0)]) fun bk i bl=>?_
  refine c6 (lW Tryz.isAgg123 Tryz.sizeOf123 rfl (i.bring 5)) (c5 b6c (c6 (l1 Tryz.isAgg3 i rfl) ?_))
  refine f0 Tryz.call97 (h g0 ab ac ad) ((i.bring 2).bring 2) ?_
  rintro _ af _ bm l _ _ ⟨ag,ah,ai,aj,rfl,rfl,ak,h⟩
  refine c6 (ldA Tryz.isAgg38 Tryz.sizeOf38 rfl ((l.bring 2).at1 (o:=0) (vs:=[(vi a),(vi 0)]) (nb rfl) rfl)) ?_
  refine y6 (l.bring 4) Tryz.sizeOf38 (vs:=[(vi a),(vi 0)]) fun bn m bo=>?_
  refine Q0 Tryz.isAgg38 Tryz.sizeOf38 rfl m ?_
  exact hR _ af _ _ (((((m.drop.bring 2).drop.bring 2).drop.bring 2).drop.bring 1).bring 1) ⟨(m4.mk a 0),u,(f4 ag),ah,ai,aj,rfl,rfl,ak,h⟩
def a3D(x0:f9)(a:(List c7))(x1:Sl)(x2:Int)(H:Hp)(K:Int→f9→(List c7)→Hp→Prop):Prop:=
 ((x1.n:Int)=0→
 K x2 (f4 x0) a H)∧
 (¬((x1.n:Int)=0)→
 E7 (f4 x0) a H (fun b c d e=>
 K b (f4 c) d e))
theorem b0e(x0 a x1 x2){H K}(h:a3D x0 a x1 x2 H K):W3 x0 a x1 x2 H K:=by
 intro g0 b c d
 refine Ct.of fun w0 w ps0 H0 R E I hR=>c9U ?_
 unfold a3D at h
 unfold F70
 refine c5 (L3 _ _ _) (c5 pEq ?_)
 refine d9 h (fun _ h=>?_) (fun _ h=>?_)
 ·exact hR _ H _ _ ((I.bring 1).bring 1) ⟨x2,(f4 x0),a,b,c,rfl,rfl,d,h⟩
 ·refine f0 Tryz.call23 (h g0 b c d) ((I.bring 1).bring 1) ?_
  rintro _ e _ n f _ _ ⟨g,i,j,k,l,rfl,rfl,m,h⟩
  exact hR _ e _ _ ((f.bring 1).bring 1) ⟨g,(f4 i),j,k,l,rfl,rfl,m,h⟩
def a4J(x0:f9)(b:(List c7))(x1:j8)(x2:Int)(x3:Int)(x4:Int)(H:Hp)(K:f9→(List c7)→Hp→Prop):Prop:=
 (x1.c8=1→
 O9 x2 x3 1 H (fun r s=>
 B5 (f4 x0) b r s (fun t u v=>
 K (f4 t) u v)))∧
 (¬(x1.c8=1)→
 (x1.c8=2→
 O9 x2 x4 1 H (fun y z=>
 B5 (f4 x0) b y z (fun aa ab ac=>
 K (f4 aa) ab ac)))∧
 (¬(x1.c8=2)→
 (x1.c8=4→
 (0:Int)≤0∧(0:Int) < x1.r7.n∧∃c:j8,EltH H x1.r7 0 4 (f7 c)∧
 D2 (f4 x0) b c x2 x4 x3 H (fun ad ae af=>
 K (f4 ad) ae af))∧
 (¬(x1.c8=4)→
 (x1.c8=5→
 E7 (f4 x0) b H (fun d ag ah e=>
 (0:Int)≤0∧(0:Int) < x1.r7.n∧∃f:j8,EltH e x1.r7 0 4 (f7 f)∧
 D2 (f4 ag) ah f x2 d x4 e (fun ai aj g=>
 (0:Int)≤1∧(1:Int) < x1.r7.n∧∃i:j8,EltH g x1.r7 1 4 (f7 i)∧
 D2 (f4 ai) aj i d x3 x4 g (fun ak al am=>
 K (f4 ak) al am))))∧
 (¬(x1.c8=5)→
 (x1.c8=6→
 E7 (f4 x0) b H (fun j an ao k=>
 (0:Int)≤0∧(0:Int) < x1.r7.n∧∃l:j8,EltH k x1.r7 0 4 (f7 l)∧
 D2 (f4 an) ao l x2 x3 j k (fun ap aq m=>
 (0:Int)≤1∧(1:Int) < x1.r7.n∧∃o:j8,EltH m x1.r7 1 4 (f7 o)∧
 D2 (f4 ap) aq o j x3 x4 m (fun ar au av=>
 K (f4 ar) au av))))∧
 (¬(x1.c8=6)→
 a0C (f4 x0) b x1.l7 x2 0 H (fun p q aw ax ay az=>
 O9 aw x3 12 az (fun a ba=>
 B5 (f4 ax) ay (c7.mk a.O0 a.fTo a.c8 a.a1O a.S3 x1.fOp p q) ba (fun bb bc bd=>
 a8r x1.fOp bd (fun be bf=>
 B5 (f4 bb) bc (c7.mk a.O0 x4 a.c8 a.a1O a.S3 be p q) bf (fun bg bh bi=>
 K (f4 bg) bh bi))))))))))
theorem b0Q(x0 t x1 x2 x3 x4){H K}(h:a4J x0 t x1 x2 x3 x4 H K):D2 x0 t x1 x2 x3 x4 H K:=by
 intro g0 e f g
 refine Ct.of fun w0 w ps0 H0 R E I hR=>c9V ?_
 unfold a4J at h
 unfold F71
 refine A9 I (cs:=(f7 x1)) rfl fun dz ea b eb=>?_
 refine c5 a6d (c6 (l1 Tryz.isAgg3 b rfl) (c5 pEq ?_))
 refine d9 h (fun _ h=>?_) (fun _ h=>?_)
 ·refine f0 Tryz.call67 h b ?_
  rintro _ _ _ ec ab _ _ ⟨ed,rfl,rfl,h⟩
  refine f0 Tryz.call69 (h g0 e f g) ((ab.bring 2).bring 2) ?_
  rintro _ ac _ ee ad _ _ ⟨ae,af,ag,ah,rfl,rfl,ai,h⟩
  exact hR _ ac _ _ (((ad.bring 2).drop.bring 1).bring 1) ⟨(f4 ae),af,ag,ah,rfl,rfl,ai,h⟩
 ·refine c5 pEq ?_
  refine d9 h (fun _ h=>?_) (fun _ h=>?_)
  ·refine f0 Tryz.call67 h b ?_
   rintro _ _ _ ef aj _ _ ⟨eg,rfl,rfl,h⟩
   refine f0 Tryz.call69 (h g0 e f g) ((aj.bring 2).bring 2) ?_
   rintro _ ak _ eh al _ _ ⟨am,an,ao,ap,rfl,rfl,aq,h⟩
   exact hR _ ak _ _ (((al.bring 2).drop.bring 1).bring 1) ⟨(f4 am),an,ao,ap,rfl,rfl,aq,h⟩
  ·refine c5 pEq ?_
   refine d9 h (fun _ h=>?_) (fun _ h=>?_)
   ·refine c5 J7 (c6 (l1 Tryz.isAgg58 b rfl) ?_)
    obtain ⟨ar,au,av,j,h⟩:=h
    obtain ⟨ei,ej,aw,j⟩:=j
    refine c5 (L0 aw _ _ _ _ ar au) (c6 (ldA (vs:=(f7 av)) Tryz.isAgg131 Tryz.sizeOf131 rfl (b.atH j)) ?_)
    refine f0 Tryz.call71 (h g0 e f g) ((b.bring 2).bring 2) ?_
    rintro _ ax _ ek ay _ _ ⟨az,ba,bb,bc,rfl,rfl,bd,h⟩
    exact hR _ ax _ _ (((ay.bring 2).drop.bring 1).bring 1) ⟨(f4 az),ba,bb,bc,rfl,rfl,bd,h⟩
   ·refine c5 pEq ?_
    refine d9 h (fun _ h=>?_) (fun _ h=>?_)
    ·refine f0 Tryz.call23 (h g0 e f g) ((b.bring 2).bring 2) ?_
     rintro _ _ _ el k _ _ ⟨em,en,eo,be,bf,rfl,rfl,bg,h⟩
     refine c5 J7 (c6 (l1 Tryz.isAgg58 (k.bring 2) rfl) ?_)
     obtain ⟨bh,bi,bj,l,h⟩:=h
     obtain ⟨ep,eq,bk,l⟩:=l
     refine c5 (L0 bk _ _ _ _ bh bi) (c6 (ldA (vs:=(f7 bj)) Tryz.isAgg131 Tryz.sizeOf131 rfl (k.atH l)) ?_)
     refine f0 Tryz.call71 (h g0 be bf bg) ((k.bring 1).bring 1) ?_
     rintro _ _ _ er m _ _ ⟨es,et,bl,bm,rfl,rfl,bn,h⟩
     refine c5 J7 (c6 (l1 Tryz.isAgg58 (m.bring 2) rfl) ?_)
     obtain ⟨bo,bp,bq,n,h⟩:=h
     obtain ⟨eu,ev,br,n⟩:=n
     refine c5 (L0 br _ _ _ _ bo bp) (c6 (ldA (vs:=(f7 bq)) Tryz.isAgg131 Tryz.sizeOf131 rfl (m.atH n)) ?_)
     refine f0 Tryz.call71 (h g0 bl bm bn) ((m.bring 1).bring 1) ?_
     rintro _ bs _ ew bt _ _ ⟨bu,bv,bw,bz,rfl,rfl,ca,h⟩
     exact hR _ bs _ _ (((bt.bring 2).drop.bring 1).bring 1) ⟨(f4 bu),bv,bw,bz,rfl,rfl,ca,h⟩
    ·refine c5 pEq ?_
     refine d9 h (fun _ h=>?_) (fun _ h=>?_)
     ·refine f0 Tryz.call23 (h g0 e f g) ((b.bring 2).bring 2) ?_
      rintro _ _ _ ex p _ _ ⟨ey,ez,fa,cb,cc,rfl,rfl,cd,h⟩
      refine c5 J7 (c6 (l1 Tryz.isAgg58 (p.bring 2) rfl) ?_)
      obtain ⟨ce,cf,cg,q,h⟩:=h
      obtain ⟨fb,fc,ch,q⟩:=q
      refine c5 (L0 ch _ _ _ _ ce cf) (c6 (ldA (vs:=(f7 cg)) Tryz.isAgg131 Tryz.sizeOf131 rfl (p.atH q)) ?_)
      refine f0 Tryz.call71 (h g0 cb cc cd) ((p.bring 1).bring 1) ?_
      rintro _ _ _ fd r _ _ ⟨fe,ff,ci,cj,rfl,rfl,ck,h⟩
      refine c5 J7 (c6 (l1 Tryz.isAgg58 (r.bring 2) rfl) ?_)
      obtain ⟨cl,cm,cn,s,h⟩:=h
      obtain ⟨fg,fh,co,s⟩:=s
      refine c5 (L0 co _ _ _ _ cl cm) (c6 (ldA (vs:=(f7 cn)) Tryz.isAgg131 Tryz.sizeOf131 rfl (r.atH s)) ?_)
      refine f0 Tryz.call71 (h g0 ci cj ck) ((r.bring 1).bring 1) ?_
      rintro _ cp _ fi cq _ _ ⟨cr,ct,cu,cv,rfl,rfl,cw,h⟩
      exact hR _ cp _ _ (((cq.bring 2).drop.bring 1).bring 1) ⟨(f4 cr),ct,cu,cv,rfl,rfl,cw,h⟩
     ·refine c5 P6 (c6 (l1 Tryz.isAgg57 b rfl) ?_)
      refine f0 Tryz.call68 (h g0 e f g) ((b.bring 2).bring 2) ?_
      rintro _ _ _ fj cx _ _ ⟨c,d,cy,fk,fl,cz,da,rfl,rfl,db,h⟩
      refine c5 (m0 _ _ _ rfl) (c5 (m0 _ _ _ rfl) (c5 (m0 _ _ (vi cy) rfl) ?_))
      refine u4 cx Tryz.zeroValue38 (cs:=[(vi 0),(vi 0)]) rfl fun fm fn dc fo=>?_
      refine u4 dc Tryz.zeroValue38 (cs:=[(vi 0),(vi 0)]) rfl fun fp fq dd fs=>?_
      refine y6 (dd.bring 1) Tryz.sizeOf38 (vs:=(m7 c)) fun ft de fu=>?_
      refine y6 (de.bring 1) Tryz.sizeOf38 (vs:=(m7 d)) fun fv df fw=>?_
      refine f0 Tryz.call67 h df ?_
      rintro _ _ _ fx dg _ _ ⟨a,rfl,rfl,h⟩
      refine u4 dg Tryz.zeroValue40 (cs:=[(vi 0),(vi 0),(vi 0),(vi 0),(vi 0),(vi 0),(vi 0),(vi 0),(vi 0),(vi 0)]) rfl fun fy fz dh ga=>?_
      refine y6 dh Tryz.sizeOf40 (vs:=(i6 a)) fun gb di gc=>?_
      refine Q9 di fun gd i=>?_
      refine g8 a1W ?_
      refine p6 (l1 Tryz.isAgg3 (i.bring 5) rfl) ?_
      refine g8 b0F ?_
      refine p6 (lW Tryz.isAgg38 Tryz.sizeOf38 rfl (i.bring 2)) ?_
      refine p6 (lW Tryz.isAgg38 Tryz.sizeOf38 rfl (i.bring 1)) ?_
      refine C4 i Tryz.sizeOf3 fun ge u v=>?_
      refine ⟨(v _ (Inv.b8X ((i.bring 1).bring 1))),(v _ (Inv.b8X ((i.bring 2).bring 1))),?_⟩
      refine g8 a2d ?_
      refine W5 u Tryz.sizeOf38 (vs:=(m7 c)) (cs':=[(vi a.O0),(vi a.fTo),(vi a.c8),(vi a.a1O),(vi a.S3),(vi x1.fOp),(vi c.B7),(vi c.s7),(vi a.fB.B7),(vi a.fB.s7)]) rfl rfl (nb rfl) rfl rfl fun gf dj dk=>?_
      refine ⟨(dk _ (Inv.b8X ((u.bring 1).bring 1))),?_⟩
      refine g8 a7F ?_
      refine W5 dj Tryz.sizeOf38 (vs:=(m7 d)) (cs':=[(vi a.O0),(vi a.fTo),(vi a.c8),(vi a.a1O),(vi a.S3),(vi x1.fOp),(vi c.B7),(vi c.s7),(vi d.B7),(vi d.s7)]) rfl rfl (nb rfl) rfl rfl fun gg y gh=>?_
      refine c6 (ldA Tryz.isAgg40 Tryz.sizeOf40 rfl (y.at1 (o:=0) (vs:=[(vi a.O0),(vi a.fTo),(vi a.c8),(vi a.a1O),(vi a.S3),(vi x1.fOp),(vi c.B7),(vi c.s7),(vi d.B7),(vi d.s7)]) (nb rfl) rfl)) ?_
      refine f0 Tryz.call69 (h g0 cz da db) ((y.bring 4).bring 4) ?_
      rintro _ _ _ gi z _ _ ⟨gj,gk,dl,dm,rfl,rfl,dn,h⟩
      refine c5 a1W (c6 (l1 Tryz.isAgg3 (z.bring 5) rfl) ?_)
      refine f0 Tryz.call59 h z ?_
      rintro _ _ _ gl dp _ _ ⟨dq,rfl,rfl,h⟩
      refine c5 b6b ?_
      refine C4 (dp.bring 2) Tryz.sizeOf3 fun gm dr gn=>?_
      refine c5 b0F ?_
      refine C4 dr Tryz.sizeOf3 fun go aa gp=>?_
      refine c6 (ldA Tryz.isAgg40 Tryz.sizeOf40 rfl (aa.at1 (o:=0) (vs:=[(vi a.O0),(vi x4),(vi a.c8),(vi a.a1O),(vi a.S3),(vi dq),(vi c.B7),(vi c.s7),(vi d.B7),(vi d.s7)]) (nb rfl) rfl)) ?_
      refine f0 Tryz.call69 (h g0 dl dm dn) ((aa.bring 2).bring 2) ?_
      rintro _ ds _ gq dt _ _ ⟨du,dv,dw,dx,rfl,rfl,dy,h⟩
      exact hR _ ds _ _ ((((((dt.bring 2).drop.bring 2).drop.bring 2).drop.bring 2).drop.bring 1).bring 1) ⟨(f4 du),dv,dw,dx,rfl,rfl,dy,h⟩
def D7(a2o:(List f5))(H:Hp)(K:Sl→Hp→Prop):Prop:=
 ∀(N4:Sl)(a:Hp),Hle H a→SlH a 1 v7 N4 a2o→N4.n≤N4.c→
 K N4 a
def D8(a4E:Sl)(a5n:Int)(B9:(List f5))(u6:Int)(H:Hp)(n2:((List f5)×Int)→Hp→Prop)(K:Sl→Hp→Prop):Prop:=
 (u6 < a5n→
 (0:Int)≤u6∧(u6:Int) < a4E.n∧∃a:i8,EltH H a4E u6 6 (g7 a)∧
 a8R a H (fun b c=>
 (B9.length+([b]:List f5).length)*17≤140737488355328∧
 n2 ((B9++[b]),(IntKind.wrap .i64 (u6+1))) c))∧
 (¬(u6 < a5n)→
 D7 B9 H K)
def M4(x0:Sl)(H:Hp)(K:Sl→Hp→Prop):Prop:=
 TL (([],0):(List f5)×Int) H fun(s:(List f5)×Int) H n2=>D8 x0 (x0.n:Int) s.1 s.2 H n2 K
theorem a3h(x0){H K}(h:M4 x0 H K):B1 x0 H K:=by
 refine Ct.of fun w0 w ps0 H0 R E I hR=>c7L ?_
 unfold M4 at h
 unfold d0T
 have hj1:∀(a2o:(List f5))(N4:Sl)(Fs5j1:Frag) H w (_:RowL 182 1 v7 N4 a2o Fs5j1) (_:Inv w0 ps0 H0 H [Fs5j1] w) (_:D7 a2o H K),b7p (vs N4) w R E:=by
  intro a2o N4 Fs5j1 H w b3y I h
  unfold b7p
  intro _
  unfold D7 at h
  obtain ⟨j,q,r,t,u⟩:=Inv.freezeC I b3y (by decide)
  replace h:=h N4 j r t u
  exact hR _ j _ _ q ⟨N4,rfl,rfl,h⟩
 refine o6 fun j1 hx1=>?_
 refine c5 (L3 _ _ _) ?_
 obtain ⟨f,d,v,y⟩:=h
 refine L5 (J:=fun n l w=>∃(s:(List f5)×Int)(H:Hp)(a2p:Sl)(Fs5l2:Frag),n=d s∧l=(match s with | (B9,u6)=>[(vs a2p),(vi u6)])∧(match s with | (B9,u6)=>RowL 182 1 v7 a2p B9 Fs5l2)∧(match s with | (B9,u6)=>Inv w0 ps0 H0 H [Fs5l2] w)∧f s H) ⟨_,([],0),H,(Sl.mk none 0 0),[],rfl,rfl,(RowL.nil U8 a0b),I.nil,v⟩ ?_
 rintro am an w next2 ⟨⟨B9,u6⟩,H,a2p,Fs5l2,rfl,g,a6y,I,z⟩ hn2
 dsimp only at g I a6y
 simp only [List.map_cons,List.map_nil,List.cons.injEq,and_true] at g
 obtain ⟨e5,e10⟩:=g
 simp only [e5,e10]
 obtain ⟨n2,hm2,h⟩:∃n2:((List f5)×Int)→Hp→Prop,(∀s' H',n2 s' H'→f s' H'∧d s' < d (B9,u6))∧D8 x0 (x0.n:Int) B9 u6 H n2 K:=⟨_,fun _ _ h=>h,y (B9,u6) H (fun s' H'=>f s' H'∧d s' < d (B9,u6)) z (fun _ _ a b=>⟨a,b⟩)⟩
 unfold c1P
 unfold D8 at h
 refine c5 pLs ?_
 refine d9 h (fun _ h=>?_) (fun _ h=>?_)
 ·obtain ⟨aa,ab,k,i,h⟩:=h
  obtain ⟨ao,ap,ac,i⟩:=i
  refine c5 (a3Q ac _ _ _ _ aa ab) (c6 (ldA (vs:=(g7 k)) Tryz.isAgg60 Tryz.sizeOf60 rfl (I.atH i)) ?_)
  refine u4 I Tryz.zeroValue60 (cs:=[(vi 0),(eS),(nS),(nS),(nS),(nS)]) rfl fun aq ar ad au=>?_
  refine y6 ad Tryz.sizeOf60 (vs:=(g7 k)) fun av m aw=>?_
  refine c6 (lW Tryz.isAgg60 Tryz.sizeOf60 rfl m) ?_
  refine f0 Tryz.call122 h m ?_
  rintro _ ae _ ax af _ _ ⟨o,rfl,rfl,h⟩
  refine a3v (e:=182) (c:=v7) (xs:=[o]) af (b3u _) rfl rfl U8 a0b (nb rfl) fun ay az ba ag p bb=>?_
  obtain ⟨ah,h⟩:=h
  refine b2S (s:=a2p) (xs:=B9) (p.bring 2) a6y (ag.srcO ((p.bring 2).bring 1)) ah fun ai aj bc ak al bd=>?_
  refine c5 pAd ?_
  exact hn2 _ _ _ (hm2 _ _ h).2 ⟨((B9++[o]),(IntKind.wrap .i64 (u6+1))),ae,ai,aj,rfl,rfl,ak,((al.bring 1).drop.bring 1).drop,(hm2 _ _ h).1⟩
 ·exact hx1 _ _ (hj1 B9 a2p Fs5l2 H _ a6y I h)
def a8C(x0:Int)(x1:Int)(x2:Int)(H:Hp)(K:Bool→Hp→Prop):Prop:=
 K ((decide (x0≤x2))&&(decide (x2≤x1))) H
theorem b2W(x0 x1 x2){H K}(h:a8C x0 x1 x2 H K):O4 x0 x1 x2 H K:=by
 intro g2
 refine Ct.of fun w0 w ps0 H0 R E I hR=>c8a ?_
 unfold a8C at h
 unfold d1i
 refine c6 (l1 Tryz.isAgg21 I rfl) (c5 pLe ?_)
 refine c6 (Ld.g fun a=>by exact (l1 Tryz.isAgg21 I rfl)) ?_
 simp only [z7]
 refine c5 (Pu.g fun a=>by simp only [i4 a];with_reducible exact pLe) ?_
 refine c5 (y9 _ _) ?_
 exact hR _ H _ _ I ⟨((decide (x0≤x2))&&(decide (x2≤x1))),rfl,rfl,h⟩
def a7Y(x0:ByteArray)(H:Hp)(K:Bool→Hp→Prop):Prop:=
 a1r x0 H (fun a b=>
 K (decide (32 < a)) b)
theorem b5o(x0){H K}(h:a7Y x0 H K):a7V x0 H K:=by
 refine Ct.of fun w0 w ps0 H0 R E I hR=>c7U ?_
 unfold a7Y at h
 unfold d1c
 refine f0 Tryz.call137 h I ?_
 rintro _ a _ d b _ _ ⟨c,rfl,rfl,h⟩
 refine c5 pGt ?_
 exact hR _ a _ _ b ⟨(decide (32 < c)),rfl,rfl,h⟩
def r6(u7:Bool)(H:Hp)(K:Bool→Hp→Prop):Prop:=
 (u7=true→
 K true H)∧
 (u7=false→
 K false H)
def a7Z(x0:ByteArray)(H:Hp)(K:Bool→Hp→Prop):Prop:=
 (x0=⟨#[118,97,114]⟩→
 r6 (decide (x0=⟨#[118,97,114]⟩)) H K)∧
 (¬(x0=⟨#[118,97,114]⟩)→
 (x0=⟨#[97,114,114,97,121]⟩→
 r6 (decide (x0=⟨#[97,114,114,97,121]⟩)) H K)∧
 (¬(x0=⟨#[97,114,114,97,121]⟩)→
 (x0=⟨#[105,102]⟩→
 r6 (decide (x0=⟨#[105,102]⟩)) H K)∧
 (¬(x0=⟨#[105,102]⟩)→
 (x0=⟨#[101,108,115,101]⟩→
 r6 (decide (x0=⟨#[101,108,115,101]⟩)) H K)∧
 (¬(x0=⟨#[101,108,115,101]⟩)→
 (x0=⟨#[119,104,105,108,101]⟩→
 r6 (decide (x0=⟨#[119,104,105,108,101]⟩)) H K)∧
 (¬(x0=⟨#[119,104,105,108,101]⟩)→
 (x0=⟨#[97,115,115,101,114,116]⟩→
 r6 (decide (x0=⟨#[97,115,115,101,114,116]⟩)) H K)∧
 (¬(x0=⟨#[97,115,115,101,114,116]⟩)→
 (x0=⟨#[97,115,115,117,109,101]⟩→
 r6 (decide (x0=⟨#[97,115,115,117,109,101]⟩)) H K)∧
 (¬(x0=⟨#[97,115,115,117,109,101]⟩)→
 (x0=⟨#[115,107,105,112]⟩→
 r6 (decide (x0=⟨#[115,107,105,112]⟩)) H K)∧
 (¬(x0=⟨#[115,107,105,112]⟩)→
 (x0=⟨#[105,110,112,117,116]⟩→
 r6 (decide (x0=⟨#[105,110,112,117,116]⟩)) H K)∧
 (¬(x0=⟨#[105,110,112,117,116]⟩)→
 (x0=⟨#[116,114,117,101]⟩→
 r6 (decide (x0=⟨#[116,114,117,101]⟩)) H K)∧
 (¬(x0=⟨#[116,114,117,101]⟩)→
 r6 (decide (x0=⟨#[102,97,108,115,101]⟩)) H K))))))))))
theorem b5p(x0){H K}(h:a7Z x0 H K):a7W x0 H K:=by
 refine Ct.of fun w0 w ps0 H0 R E I hR=>c7V ?_
 unfold a7Z at h
 unfold d1d
 have hj1:∀(u7:Bool) H w (_:Inv w0 ps0 H0 H [] w) (_:r6 u7 H K),b7u (vB u7) w R E:=by
  intro u7 H w I h
  unfold b7u
  intro _
  unfold r6 at h
  refine m8 h (fun _ h=>?_) (fun _ h=>?_)
  ·exact hR _ H _ _ I ⟨true,rfl,rfl,h⟩
  ·exact hR _ H _ _ I ⟨false,rfl,rfl,h⟩
 refine o6 fun j1 hx1=>?_
 refine c5 (P4 _ _ _ _ _) ?_
 refine d9 h (fun _ h=>?_) (fun _ h=>?_)
 ·exact hx1 _ _ (hj1 (decide (x0=⟨#[118,97,114]⟩)) H _ I h)
 ·refine c5 (P4 _ _ _ _ _) ?_
  refine d9 h (fun _ h=>?_) (fun _ h=>?_)
  ·exact hx1 _ _ (hj1 (decide (x0=⟨#[97,114,114,97,121]⟩)) H _ I h)
  ·refine c5 (P4 _ _ _ _ _) ?_
   refine d9 h (fun _ h=>?_) (fun _ h=>?_)
   ·exact hx1 _ _ (hj1 (decide (x0=⟨#[105,102]⟩)) H _ I h)
   ·refine c5 (P4 _ _ _ _ _) ?_
    refine d9 h (fun _ h=>?_) (fun _ h=>?_)
    ·exact hx1 _ _ (hj1 (decide (x0=⟨#[101,108,115,101]⟩)) H _ I h)
    ·refine c5 (P4 _ _ _ _ _) ?_
     refine d9 h (fun _ h=>?_) (fun _ h=>?_)
     ·exact hx1 _ _ (hj1 (decide (x0=⟨#[119,104,105,108,101]⟩)) H _ I h)
     ·refine c5 (P4 _ _ _ _ _) ?_
      refine d9 h (fun _ h=>?_) (fun _ h=>?_)
      ·exact hx1 _ _ (hj1 (decide (x0=⟨#[97,115,115,101,114,116]⟩)) H _ I h)
      ·refine c5 (P4 _ _ _ _ _) ?_
       refine d9 h (fun _ h=>?_) (fun _ h=>?_)
       ·exact hx1 _ _ (hj1 (decide (x0=⟨#[97,115,115,117,109,101]⟩)) H _ I h)
       ·refine c5 (P4 _ _ _ _ _) ?_
        refine d9 h (fun _ h=>?_) (fun _ h=>?_)
        ·exact hx1 _ _ (hj1 (decide (x0=⟨#[115,107,105,112]⟩)) H _ I h)
        ·refine c5 (P4 _ _ _ _ _) ?_
         refine d9 h (fun _ h=>?_) (fun _ h=>?_)
         ·exact hx1 _ _ (hj1 (decide (x0=⟨#[105,110,112,117,116]⟩)) H _ I h)
         ·refine c5 (P4 _ _ _ _ _) ?_
          refine d9 h (fun _ h=>?_) (fun _ h=>?_)
          ·exact hx1 _ _ (hj1 (decide (x0=⟨#[116,114,117,101]⟩)) H _ I h)
          ·refine c5 (P4 _ _ _ _ _) ?_
           exact hx1 _ _ (hj1 (decide (x0=⟨#[102,97,108,115,101]⟩)) H _ I h)
def Z2(H:Hp)(K:Int→Hp→Prop):Prop:=
 K (-1) H
def a1R(a4K:(List ByteArray))(a1j:ByteArray)(a5m:Int)(a4E:Int)(H:Hp)(n2:Int→Hp→Prop)(K:Int→Hp→Prop):Prop:=
 (a4E < a5m→
 (0:Int)≤a4E∧∃a:ByteArray,(a4K)[(a4E:Int).toNat]? = some a∧
 (a1j=a→
 K a4E H)∧
 (¬(a1j=a)→
 n2 (IntKind.wrap .i64 (a4E+1)) H))∧
 (¬(a4E < a5m)→
 Z2 H K)
def a3i(x0:(List ByteArray))(x1:ByteArray)(H:Hp)(K:Int→Hp→Prop):Prop:=
 TL (0:Int) H fun(s:Int) H n2=>a1R x0 x1 (x0.length:Int) s H n2 K
theorem a9E(x0 x1){H K}(h:a3i x0 x1 H K):a2V x0 x1 H K:=by
 intro sx0 Fx0 hx0
 refine Ct.of fun w0 w ps0 H0 R E I hR=>c7Y ?_
 unfold a3i at h
 unfold d1g
 have hj1:∀H w (_:Inv w0 ps0 H0 H [Fx0] w) (_:Z2 H K),b7z w R E:=by
  intro H w I h
  unfold b7z
  intro _
  unfold Z2 at h
  exact hR _ H _ _ I ⟨(-1),rfl,rfl,h⟩
 refine o6 fun j1 hx1=>?_
 refine c5 (a7B Tryz.underlying27 hx0) ?_
 refine C9 (σ:=Int) (fun a4E=>[(vi a4E)]) (fun a4E=>[Fx0]) h rfl I ?_
 rintro a4E H f w next2 n2 b I h hn2
 simp only [List.map_cons,List.map_nil,List.cons.injEq,and_true] at b
 have e8:=b
 simp only [e8]
 unfold c1T
 unfold a1R at h
 refine c5 pLs ?_
 refine d9 h (fun _ h=>?_) (fun _ h=>?_)
 ·obtain ⟨c,e,a,h⟩:=h
  obtain ⟨g,i,d,j⟩:=hx0.addr a
  refine c5 (b1n d _ _ _ _ c (hx0.lt c a)) (c6 (ld1 (v:=(Value.string e)) Tryz.isAgg9 (hx0.atW I d a)) (c5 (P4 _ _ _ _ _) ?_))
  refine d9 h (fun _ h=>?_) (fun _ h=>?_)
  ·exact hR _ H _ _ I ⟨a4E,rfl,rfl,h⟩
  ·refine c5 pAd ?_
   exact hn2 (IntKind.wrap .i64 (a4E+1)) _ _ h I
 ·exact hx1 _ _ (hj1 H _ I h)
def a1M(a9F:Int)(a9G:Int)(a9H:Int)(a9I:Bool)(a9J:Bool)(a8D:(List ByteArray))(H:Hp)(K:Bool→o4→(List ByteArray)→Hp→Prop):Prop:=
 K true (o4.mk a9F a9G a9H a9I a9J (Sl.mk none 0 0)) a8D H
def a1N(a1j:Int)(a5n:Sl)(u6:Int)(a5F:Int)(a4a:Int)(a4b:Int)(a4c:Int)(a4d:Bool)(a4e:Bool)(a2C:(List ByteArray))(H:Hp)(n2:(Int×Int×Int×Int×Bool×Bool×(List ByteArray))→Hp→Prop)(K:Bool→o4→(List ByteArray)→Hp→Prop):Prop:=
 (a5F < u6→
 (0:Int)≤a5F∧(a5F:Int) < a5n.n∧∃c:f5,EltH H a5n a5F 1 [(K8 c)]∧
 a3T (o4.mk a4a a4b a4c a4d a4e (Sl.mk none 0 0)) a2C c a1j H (fun b d e f=>
 TG ((!b)=false) (a6p c f) (Sl.mk none 0 0) f (fun(j:Sl)(g:Hp)=>
 TG ((!b)=false) (fun k_=>a1g j (IntKind.wrap .i64 (a1j+1)) (a1Z d) e g fun k l m H_=>k_ (k,l,m) H_) (false,(a1Z d),e) g (fun(a:Bool×o4×(List ByteArray))(i:Hp)=>
 (((!b)||(!a.1))=true→
 K false (o4.mk (a.2.1.fnodes) (a.2.1.fdepth) (a.2.1.fe) (a.2.1.fform) (a.2.1.fnamed) (Sl.mk none 0 0)) a.2.2 i)∧
 (((!b)||(!a.1))=false→
 n2 ((IntKind.wrap .i64 (a5F+1)),(a.2.1.fnodes),(a.2.1.fdepth),(a.2.1.fe),(a.2.1.fform),(a.2.1.fnamed),a.2.2) i)))))∧
 (¬(a5F < u6)→
 a1M a4a a4b a4c a4d a4e a2C H K)
def a6g(x0:Sl)(x1:Int)(x2:o4)(a:(List ByteArray))(H:Hp)(K:Bool→o4→(List ByteArray)→Hp→Prop):Prop:=
 TL ((0,x2.fnodes,x2.fdepth,x2.fe,x2.fform,x2.fnamed,a):Int×Int×Int×Int×Bool×Bool×(List ByteArray)) H fun(s:Int×Int×Int×Int×Bool×Bool×(List ByteArray)) H n2=>a1N x1 x0 (x0.n:Int) s.1 s.2.1 s.2.2.1 s.2.2.2.1 s.2.2.2.2.1 s.2.2.2.2.2.1 s.2.2.2.2.2.2 H n2 K
theorem b2E(x0 x1 x2 ai){H K}(h:a6g x0 x1 x2 ai H K):a1g x0 x1 x2 ai H K:=by
 intro g2 g2b g3 az ba bb
 refine Ct.of fun w0 w ps0 H0 R E I hR=>c7O ?_
 unfold a6g at h
 unfold d0W
 have hj1:∀(a9F:Int)(a9G:Int)(a9H:Int)(a9I:Bool)(a9J:Bool)(a8D:(List ByteArray))(b2o:Sl)(b2p:Frag) H w (_:RowL 9 1 v2 b2o a8D b2p) (_:Inv w0 ps0 H0 H [bx g2 170 [(Value.pointer (some ⟨g2b,0,none⟩))],bx g2b 169 [(vi a9F),(vi a9G),(vi a9H),(vB a9I),(vB a9J),(vs b2o)],bx g3 189 [(Value.func (.func 124) #[] #[(Value.pointer (some ⟨g2,0,none⟩)),(Value.pointer (some ⟨g3,0,none⟩))])],b2p] w) (_:a1M a9F a9G a9H a9I a9J a8D H K),b7q w R E:=by
  intro a9F a9G a9H a9I a9J a8D b2o b2p H w c4K I h
  unfold b7q
  intro _
  unfold a1M at h
  exact hR _ H _ _ ((((I.bring 2).bring 3).bring 3).bring 3) ⟨true,(o4.mk a9F a9G a9H a9I a9J (Sl.mk none 0 0)),a8D,b2o,b2p,rfl,rfl,c4K,h⟩
 refine o6 fun j1 hx1=>?_
 refine c5 (b0G _ _ _) ?_
 obtain ⟨aj,z,bc,bd⟩:=h
 refine L5 (J:=fun n l w=>∃(s:Int×Int×Int×Int×Bool×Bool×(List ByteArray))(H:Hp)(b0f:Sl)(b0g:Frag),n=z s∧l=(match s with | (a5F,a4a,a4b,a4c,a4d,a4e,a2C)=>[(vi a5F)])∧(match s with | (a5F,a4a,a4b,a4c,a4d,a4e,a2C)=>RowL 9 1 v2 b0f a2C b0g)∧(match s with | (a5F,a4a,a4b,a4c,a4d,a4e,a2C)=>Inv w0 ps0 H0 H [bx g2 170 [(Value.pointer (some ⟨g2b,0,none⟩))],bx g2b 169 [(vi a4a),(vi a4b),(vi a4c),(vB a4d),(vB a4e),(vs b0f)],bx g3 189 [(Value.func (.func 124) #[] #[(Value.pointer (some ⟨g2,0,none⟩)),(Value.pointer (some ⟨g3,0,none⟩))])],b0g] w)∧aj s H) ⟨_,(0,x2.fnodes,x2.fdepth,x2.fe,x2.fform,x2.fnamed,ai),H,az,ba,rfl,rfl,bb,((((I.bring 2).bring 3).bring 3).bring 3),bc⟩ ?_
 rintro bj bk w next2 ⟨⟨a5F,a4a,a4b,a4c,a4d,a4e,a2C⟩,H,b0f,b0g,rfl,ak,b4r,I,be⟩ hn2
 dsimp only at ak I b4r
 simp only [List.map_cons,List.map_nil,List.cons.injEq,and_true] at ak
 have e11:=ak
 simp only [e11]
 obtain ⟨n2,hm2,h⟩:∃n2:(Int×Int×Int×Int×Bool×Bool×(List ByteArray))→Hp→Prop,(∀s' H',n2 s' H'→aj s' H'∧z s' < z (a5F,a4a,a4b,a4c,a4d,a4e,a2C))∧a1N x1 x0 (x0.n:Int) a5F a4a a4b a4c a4d a4e a2C H n2 K:=⟨_,fun _ _ h=>h,bd (a5F,a4a,a4b,a4c,a4d,a4e,a2C) H (fun s' H'=>aj s' H'∧z s' < z (a5F,a4a,a4b,a4c,a4d,a4e,a2C)) be (fun _ _ a b=>⟨a,b⟩)⟩
 unfold c1Q
 unfold a1N at h
 refine c5 pLs ?_
 refine d9 h (fun _ h=>?_) (fun _ h=>?_)
 ·obtain ⟨bf,bg,bh,al,h⟩:=h
  obtain ⟨bl,bm,bi,al⟩:=al
  refine c5 (c3W bi _ _ _ _ bf bg) (c6 (ld1 (v:=(K8 bh)) Tryz.isAgg182 (I.atH al)) ?_)
  refine Q9 I fun bn ao=>?_
  refine p6 (l1 Tryz.isAgg170 ao rfl) ?_
  refine f0 Tryz.call125 (h g2b b0f b0g b4r) ((ao.bring 3).bring 2) ?_
  rintro _ ap _ aq o _ _ ⟨p,aa,am,ac,ad,rfl,rfl,ar,h⟩
  refine g8 (T1 _) ?_
  simp only [z7]
  refine g8 (Pu.g fun c=>by simp only [i4 c];with_reducible exact pAd) ?_
  refine p6 (Ld.g fun c=>by exact (l1 Tryz.isAgg189 (o.bring 3) rfl)) ?_
  refine b5Y (D:=fun au u=>∃(ab:Sl)(k:Hp),au=(gv (!p) false (vs ab))∧(Inv w0 ps0 H0 k [bx g2b 169 (a2U aa ac),ad,bx g2 170 [(Value.pointer (some ⟨g2b,0,none⟩))],bx g3 189 [(Value.func (.func 124) #[] #[(Value.pointer (some ⟨g2,0,none⟩)),(Value.pointer (some ⟨g3,0,none⟩))])]] u)∧(∀i,i < aq.heap.size→¬inF [] i→u.heap[i]? = aq.heap[i]?)∧Hle ap k∧(TG ((!p)=false) (fun k_=>a1g ab (IntKind.wrap .i64 (x1+1)) (a1Z aa) am k fun m d j H_=>k_ (m,d,j) H_) (false,(a1Z aa),am) k (fun(e:Bool×o4×(List ByteArray))(f:Hp)=>
 (((!p)||(!e.1))=true→
 K false (o4.mk (e.2.1.fnodes) (e.2.1.fdepth) (e.2.1.fe) (e.2.1.fform) (e.2.1.fnamed) (Sl.mk none 0 0)) e.2.2 f)∧
 (((!p)||(!e.1))=false→
 n2 ((IntKind.wrap .i64 (a5F+1)),(e.2.1.fnodes),(e.2.1.fdepth),(e.2.1.fe),(e.2.1.fform),(e.2.1.fnamed),e.2.2) f)))) (fun y=>?_) (fun y=>?_) ?_
  ·replace h:=h.1 y
   have c:=y
   simp only [i4 c]
   refine b2C o h (fun ab k u ae av an h=>?_)
   exact ⟨ab,k,by rfl,ae,an,av,h⟩
  ·exact ⟨(Sl.mk none 0 0),ap,by rw [b8V y],o,fun _ _ _=>rfl,Hle.refl _,h.2 y⟩
  ·clear h
   rintro au u ⟨ab,k,rfl,ae,an,av,h⟩
   refine ⟨(an _ (o.bring 3).lt1 (Inv.U6 (Fi:=[]) (o.bring 3))),?_⟩
   refine b5Y (D:=fun aw af=>∃(m:Bool)(d:o4)(j:(List ByteArray))(f:Hp)(q:Sl)(r:Frag),aw=(gv (!p) false (vB m))∧(RowL 9 1 v2 q j r)∧(Inv w0 ps0 H0 f [bx g2 170 [(Value.pointer (some ⟨g2b,0,none⟩))],bx g2b 169 (a2U d q),r,bx g3 189 [(Value.func (.func 124) #[] #[(Value.pointer (some ⟨g2,0,none⟩)),(Value.pointer (some ⟨g3,0,none⟩))])]] af)∧(∀i,i < u.heap.size→¬inF [bx g2 170 [(Value.pointer (some ⟨g2b,0,none⟩))],bx g2b 169 (a2U aa ac),ad,bx g3 189 [(Value.func (.func 124) #[] #[(Value.pointer (some ⟨g2,0,none⟩)),(Value.pointer (some ⟨g3,0,none⟩))])]] i→af.heap[i]? = u.heap[i]?)∧Hle k f∧((((!p)||(!m))=true→
 K false (a1Z d) j f)∧
 (((!p)||(!m))=false→
 n2 ((IntKind.wrap .i64 (a5F+1)),d.fnodes,d.fdepth,d.fe,d.fform,d.fnamed,j) f))) (fun t=>?_) (fun t=>?_) ?_
   ·replace h:=h.1 t
    have c:=t
    simp only [i4 c]
    refine a8M (cap:=[(Value.pointer (some ⟨g2,0,none⟩)),(Value.pointer (some ⟨g3,0,none⟩))]) Tryz.call124 (h g2 g2b g3 ac ad ar) ((((ae.bring 3).bring 2).bring 2).bring 3) ?_
    rintro _ f _ af ag ax ay ⟨m,d,j,q,r,rfl,rfl,ah,h⟩
    exact ⟨m,d,j,f,q,r,by rfl,ah,ag,ay,ax,h⟩
   ·exact ⟨false,(a1Z aa),am,k,ac,ad,by rw [b8V t],ar,((((ae.bring 3).bring 2).bring 2).bring 3),fun _ _ _=>rfl,Hle.refl _,h.2 t⟩
   ·clear h
    rintro aw af ⟨m,d,j,f,q,r,rfl,ah,ag,ay,ax,h⟩
    refine g8 (Pu.g fun c=>by simp only [i4 c];with_reducible exact (T1 _)) ?_
    refine g8 (L8 _ _) ?_
    refine m8 h (fun _ h=>?_) (fun _ h=>?_)
    ·exact hR _ f _ _ ((((ag.bring 3).bring 3).bring 3).bring 3) ⟨false,(a1Z d),j,q,r,rfl,rfl,ah,h⟩
    ·refine c5 pAd ?_
     exact hn2 _ _ _ (hm2 _ _ h).2 ⟨((IntKind.wrap .i64 (a5F+1)),d.fnodes,d.fdepth,d.fe,d.fform,d.fnamed,j),f,q,r,rfl,rfl,ah,((((ag.bring 2).bring 3).bring 3).bring 3),(hm2 _ _ h).1⟩
 ·exact hx1 _ _ (hj1 a4a a4b a4c a4d a4e a2C b0f b0g H _ b4r ((((I.bring 3).bring 3).bring 3).bring 3) h)
def O8(d:Int)(e:Int)(f:Int)(g:Bool)(i:Bool)(j:(List ByteArray))(H:Hp)(K:o4→Hp→Prop):Prop:=
 ∀(a:Sl)(b:Hp),Hle H b→SlH b 1 v2 a j→a.n≤a.c→
 K (o4.mk d e f g i a) b
def a6B(x0:Sl)(H:Hp)(K:o4→Hp→Prop):Prop:=
 a1g x0 1 (o4.mk 0 0 0 false false (Sl.mk none 0 0)) [] H (fun d a b c=>
 ((!d)=true→
 O8 a.fnodes a.fdepth a.fe a.fform a.fnamed b c K)∧
 ((!d)=false→
 (a.fform=true→
 O8 a.fnodes a.fdepth 30 a.fform a.fnamed b c K)∧
 (a.fform=false→
 (a.fnamed=true→
 O8 a.fnodes a.fdepth 31 a.fform a.fnamed b c K)∧
 (a.fnamed=false→
 O8 a.fnodes a.fdepth a.fe a.fform a.fnamed b c K))))
theorem b3E(x0){H K}(h:a6B x0 H K):a6v x0 H K:=by
 refine Ct.of fun w0 w ps0 H0 R E I hR=>c7H ?_
 unfold a6B at h
 unfold d0P
 refine c5 (c2D) ?_
 refine A9 I (cs:=[(vi 0),(vi 0),(vi 0),(vB false),(vB false),(nS)]) rfl fun d aj y ak=>?_
 refine u4 y Tryz.zeroValue170 (cs:=[(Value.pointer none)]) rfl fun c al z am=>?_
 refine y6 z Tryz.sizeOf170 (vs:=[(Value.pointer (some ⟨d,0,none⟩))]) fun an aa ao=>?_
 refine u4 aa Tryz.zeroValue189 (cs:=[Value.nilFunc]) rfl fun f ap ab aq=>?_
 refine c5 (a9T _ _ _) ?_
 refine y6 ab Tryz.sizeOf189 (vs:=[(Value.func (.func 124) #[] #[(Value.pointer (some ⟨c,0,none⟩)),(Value.pointer (some ⟨f,0,none⟩))])]) fun ar u au=>?_
 have hj1:∀(i:Int)(j:Int)(k:Int)(l:Bool)(m:Bool)(s:(List ByteArray))(g:Sl)(t:Frag) H w (_:RowL 9 1 v2 g s t) (_:Inv w0 ps0 H0 H [bx c 170 [(Value.pointer (some ⟨d,0,none⟩))],bx d 169 [(vi i),(vi j),(vi k),(vB l),(vB m),(vs g)],bx f 189 [(Value.func (.func 124) #[] #[(Value.pointer (some ⟨c,0,none⟩)),(Value.pointer (some ⟨f,0,none⟩))])],t] w) (_:O8 i j k l m s H K),b7k (Value.pointer (some ⟨c,0,none⟩)) w R E:=by
  intro i j k l m s g t H w ac I h
  unfold b7k
  intro _
  unfold O8 at h
  refine c6 (l1 Tryz.isAgg170 I rfl) ?_
  obtain ⟨v,ad,ae,af,ag⟩:=Inv.freezeC (I.bring 3) ac (by decide)
  replace h:=h g v ae af ag
  exact hR _ v _ _ (ad.drop.bring 1).drop ⟨(o4.mk i j k l m g),d,rfl,rfl,h⟩
 refine o6 fun j1 hx1=>?_
 refine c6 (l1 Tryz.isAgg189 u rfl) ?_
 refine a8M (cap:=[(Value.pointer (some ⟨c,0,none⟩)),(Value.pointer (some ⟨f,0,none⟩))]) Tryz.call124 (h c d f (Sl.mk none 0 0) ([]) (RowL.nil (e:=9) a6V a6W)) ((((u.nil.bring 1).bring 1).bring 3).bring 3) ?_
 rintro _ n _ av b _ _ ⟨aw,a,o,p,q,rfl,rfl,r,h⟩
 refine c5 (T1 _) ?_
 refine m8 h (fun _ h=>?_) (fun _ h=>?_)
 ·exact hx1 _ _ (hj1 a.fnodes a.fdepth a.fe a.fform a.fnamed o p q n _ r ((((b.bring 2).bring 3).bring 3).bring 3) h)
 ·refine c6 (l1 Tryz.isAgg170 b rfl) (c5 (m2 _) (c5 b2y (c6 (l1 Tryz.isAgg4 (b.bring 1) rfl) ?_)))
  refine m8 h (fun _ h=>?_) (fun _ h=>?_)
  ·refine c6 (l1 Tryz.isAgg170 b rfl) (c5 (m2 _) (c5 a8f ?_))
   refine C4 (b.bring 1) Tryz.sizeOf31 fun ax ah ay=>?_
   exact hx1 _ _ (hj1 a.fnodes a.fdepth 30 a.fform a.fnamed o p q n _ r ((((ah.bring 2).bring 3).bring 2).bring 3) h)
  ·refine c6 (l1 Tryz.isAgg170 b rfl) (c5 (m2 _) (c5 b2z (c6 (l1 Tryz.isAgg4 (b.bring 1) rfl) ?_)))
   refine m8 h (fun _ h=>?_) (fun _ h=>?_)
   ·refine c6 (l1 Tryz.isAgg170 b rfl) (c5 (m2 _) (c5 a8f ?_))
    refine C4 (b.bring 1) Tryz.sizeOf31 fun az ai ba=>?_
    exact hx1 _ _ (hj1 a.fnodes a.fdepth 31 a.fform a.fnamed o p q n _ r ((((ai.bring 2).bring 3).bring 2).bring 3) h)
   ·exact hx1 _ _ (hj1 a.fnodes a.fdepth a.fe a.fform a.fnamed o p q n _ r ((((b.bring 2).bring 3).bring 3).bring 3) h)
def a8a(x0:m6)(H:Hp)(K:o4→Hp→Prop):Prop:=
 L9 x0.E4 H (fun d e=>
 B1 x0.a1l e (fun f g=>
 ∀(a:Sl)(b:Hp),Hle g b→SlH b 1 csl a [d,f]→a.n≤a.c→
 E3 a b (fun i j=>
 a6v i j (fun k l=>
 K k l))))
theorem b5q(x0){H K}(h:a8a x0 H K):a7X x0 H K:=by
 refine Ct.of fun w0 w ps0 H0 R E I hR=>c7x ?_
 unfold a8a at h
 unfold d0F
 refine A9 I (cs:=(m5 x0)) rfl fun z aa b ab=>?_
 refine Q9 b fun ac a=>?_
 refine g8 P3 ?_
 refine g8 a1m ?_
 refine p6 (l1 Tryz.isAgg22 a rfl) ?_
 refine p6 (l1 Tryz.isAgg23 a rfl) ?_
 refine f0 Tryz.call119 h a ?_
 rintro _ _ _ ad d _ f ⟨g,rfl,rfl,h⟩
 refine ⟨(f _ a.lt1 (Inv.U6 (Fi:=[]) a)),?_⟩
 refine f0 Tryz.call121 h d ?_
 rintro _ _ _ ae i _ _ ⟨j,rfl,rfl,h⟩
 refine a3v (e:=179) (c:=csl) (xs:=[g,j]) i (b9m _ _ _ _ _ _) rfl rfl b8C b8D (nb rfl) fun k af ag l m ah=>?_
 obtain ⟨n,o,p,q,r⟩:=Inv.freezeC m l (by decide)
 replace h:=h k n p q r
 refine f0 Tryz.call118 h o ?_
 rintro _ _ _ ai s _ _ ⟨aj,rfl,rfl,h⟩
 refine f0 Tryz.call117 h s ?_
 rintro _ t _ ak u _ _ ⟨v,y,rfl,rfl,h⟩
 exact hR _ t _ _ (u.bring 1).drop ⟨v,y,rfl,rfl,h⟩
def a0M(c6F:Sl)(c6G:Int)(d:j8)(a6l:Int)(O6:(List g9))(H:Hp)(n2:(Int×(List g9))→Hp→Prop)(K:m9→(List g9)→Hp→Prop):Prop:=
 (a6l < c6G→
 (0:Int)≤a6l∧(a6l:Int) < c6F.n∧∃a:j8,EltH H c6F a6l 4 (f7 a)∧
 a1L (m9.mk (Sl.mk none 0 0)) O6 a H (fun e b c=>
 n2 ((IntKind.wrap .i64 (a6l+1)),b) c))∧
 (¬(a6l < c6G)→
 K (m9.mk (Sl.mk none 0 0)) O6 H)
def a0N(a:j8)(a3j:(List g9))(H:Hp)(K:m9→(List g9)→Hp→Prop):Prop:=
 TL ((0,a3j):Int×(List g9)) H fun(s:Int×(List g9)) H n2=>a0M a.r7 (a.r7.n:Int) a s.1 s.2 H n2 K
def a0O(a4C:Sl)(a2l:Int)(b:j8)(N9:Int)(a4f:(List g9))(H:Hp)(n3:(Int×(List g9))→Hp→Prop)(K:m9→(List g9)→Hp→Prop):Prop:=
 (N9 < a2l→
 (0:Int)≤N9∧(N9:Int) < a4C.n∧∃a:f8,EltH H a4C N9 4 (d7 a)∧
 a0f (m9.mk (Sl.mk none 0 0)) a4f a H (fun e c d=>
 n3 ((IntKind.wrap .i64 (N9+1)),c) d))∧
 (¬(N9 < a2l)→
 a0N b a4f H K)
def a4L(x0:m9)(a:(List g9))(x1:j8)(H:Hp)(K:m9→(List g9)→Hp→Prop):Prop:=
 TL ((0,a):Int×(List g9)) H fun(s:Int×(List g9)) H n3=>a0O x1.l7 (x1.l7.n:Int) x1 s.1 s.2 H n3 K
theorem b0R(x0 f x1){H K}(h:a4L x0 f x1 H K):a1L x0 f x1 H K:=by
 intro g0 v y z
 refine Ct.of fun w0 w ps0 H0 R E I hR=>c7y ?_
 unfold a4L at h
 unfold d0G
 refine A9 I (cs:=(f7 x1)) rfl fun e bc p bd=>?_
 have hj1:∀(a3j:(List g9))(a6C:Sl)(a6D:Frag) H w (_:RowL 158 2 B3 a6C a3j a6D) (_:Inv w0 ps0 H0 H [bx e 131 (f7 x1),bx g0 155 [(vs a6C)],a6D] w) (_:a0N x1 a3j H K),b7d (Value.pointer (some ⟨g0,0,none⟩)) (Value.pointer (some ⟨e,0,none⟩)) w R E:=by
  intro a3j a6C a6D H w b5F I h
  unfold b7d
  intro _
  unfold a0N at h
  refine c5 J7 (c6 (l1 Tryz.isAgg58 I rfl) (c5 (a0B _ _ _) ?_))
  obtain ⟨g,c,aa,ab⟩:=h
  refine L5 (J:=fun n l w=>∃(s:Int×(List g9))(H:Hp)(a5t:Sl)(a5u:Frag),n=c s∧l=(match s with | (a6l,O6)=>[(vi a6l)])∧(match s with | (a6l,O6)=>RowL 158 2 B3 a5t O6 a5u)∧(match s with | (a6l,O6)=>Inv w0 ps0 H0 H [bx e 131 (f7 x1),bx g0 155 [(vs a5t)],a5u] w)∧g s H) ⟨_,(0,a3j),H,a6C,a6D,rfl,rfl,b5F,(((I.bring 2).bring 2).bring 2),aa⟩ ?_
  rintro be bf w next2 ⟨⟨a6l,O6⟩,H,a5t,a5u,rfl,i,a8w,I,ac⟩ hn2
  dsimp only at i I a8w
  simp only [List.map_cons,List.map_nil,List.cons.injEq,and_true] at i
  have e22:=i
  simp only [e22]
  obtain ⟨n2,hm2,h⟩:∃n2:(Int×(List g9))→Hp→Prop,(∀s' H',n2 s' H'→g s' H'∧c s' < c (a6l,O6))∧a0M x1.r7 (x1.r7.n:Int) x1 a6l O6 H n2 K:=⟨_,fun _ _ h=>h,ab (a6l,O6) H (fun s' H'=>g s' H'∧c s' < c (a6l,O6)) ac (fun _ _ a b=>⟨a,b⟩)⟩
  unfold c1E
  unfold a0M at h
  refine c5 pLs ?_
  refine d9 h (fun _ h=>?_) (fun _ h=>?_)
  ·obtain ⟨ad,ae,q,j,h⟩:=h
   obtain ⟨bg,bh,af,j⟩:=j
   refine c5 (L0 af _ _ _ _ ad ae) (c6 (ldA (vs:=(f7 q)) Tryz.isAgg131 Tryz.sizeOf131 rfl (I.atH j)) ?_)
   refine u4 I Tryz.zeroValue131 (cs:=[(vi 0),(vi 0),(nS),(nS)]) rfl fun bi bj ag bk=>?_
   refine y6 ag Tryz.sizeOf131 (vs:=(f7 q)) fun bl r bm=>?_
   refine c6 (lW Tryz.isAgg131 Tryz.sizeOf131 rfl r) ?_
   refine f0 Tryz.call108 (h g0 a5t a5u a8w) ((r.bring 3).bring 3) ?_
   rintro _ ah _ bn ai _ _ ⟨bo,aj,ak,al,rfl,rfl,am,h⟩
   refine c5 pAd ?_
   exact hn2 _ _ _ (hm2 _ _ h).2 ⟨((IntKind.wrap .i64 (a6l+1)),aj),ah,ak,al,rfl,rfl,am,((((ai.bring 2).drop.bring 1).bring 1).bring 2),(hm2 _ _ h).1⟩
  ·exact hR _ H _ _ ((I.drop.bring 1).bring 1) ⟨(m9.mk (Sl.mk none 0 0)),O6,a5t,a5u,rfl,rfl,a8w,h⟩
 refine o6 fun j1 hx1=>?_
 refine c5 P6 (c6 (l1 Tryz.isAgg57 p rfl) (c5 (P7 _ _ _) ?_))
 obtain ⟨k,d,an,ao⟩:=h
 refine L5 (J:=fun n l w=>∃(s:Int×(List g9))(H:Hp)(b1z:Sl)(b1A:Frag),n=d s∧l=(match s with | (N9,a4f)=>[(vi N9)])∧(match s with | (N9,a4f)=>RowL 158 2 B3 b1z a4f b1A)∧(match s with | (N9,a4f)=>Inv w0 ps0 H0 H [bx e 131 (f7 x1),bx g0 155 [(vs b1z)],b1A] w)∧k s H) ⟨_,(0,f),H,v,y,rfl,rfl,z,(((p.bring 2).bring 2).bring 2),an⟩ ?_
 rintro bp bq w next3 ⟨⟨N9,a4f⟩,H,b1z,b1A,rfl,m,b5G,I,ap⟩ hn3
 dsimp only at m I b5G
 simp only [List.map_cons,List.map_nil,List.cons.injEq,and_true] at m
 have e11:=m
 simp only [e11]
 obtain ⟨n3,hm3,h⟩:∃n3:(Int×(List g9))→Hp→Prop,(∀s' H',n3 s' H'→k s' H'∧d s' < d (N9,a4f))∧a0O x1.l7 (x1.l7.n:Int) x1 N9 a4f H n3 K:=⟨_,fun _ _ h=>h,ao (N9,a4f) H (fun s' H'=>k s' H'∧d s' < d (N9,a4f)) ap (fun _ _ a b=>⟨a,b⟩)⟩
 unfold c1F
 unfold a0O at h
 refine c5 pLs ?_
 refine d9 h (fun _ h=>?_) (fun _ h=>?_)
 ·obtain ⟨aq,ar,t,o,h⟩:=h
  obtain ⟨br,bs,au,o⟩:=o
  refine c5 (A0 au _ _ _ _ aq ar) (c6 (ldA (vs:=(d7 t)) Tryz.isAgg123 Tryz.sizeOf123 rfl (I.atH o)) ?_)
  refine u4 I Tryz.zeroValue123 (cs:=[(vi 0),(vi 0),(eS),(nS)]) rfl fun bt bu av bv=>?_
  refine y6 av Tryz.sizeOf123 (vs:=(d7 t)) fun bw u bz=>?_
  refine c6 (lW Tryz.isAgg123 Tryz.sizeOf123 rfl u) ?_
  refine f0 Tryz.call109 (h g0 b1z b1A b5G) ((u.bring 3).bring 3) ?_
  rintro _ aw _ ca ax _ _ ⟨cb,ay,az,ba,rfl,rfl,bb,h⟩
  refine c5 pAd ?_
  exact hn3 _ _ _ (hm3 _ _ h).2 ⟨((IntKind.wrap .i64 (N9+1)),ay),aw,az,ba,rfl,rfl,bb,((((ax.bring 2).drop.bring 1).bring 1).bring 2),(hm3 _ _ h).1⟩
 ·exact hx1 _ _ (hj1 a4f b1z b1A H _ b5G (((I.bring 2).bring 2).bring 2) h)
def a6E(x0:j8)(H:Hp)(K:f5→Hp→Prop):Prop:=
 K (f5.P5 (W7.mk x0)) H
theorem b3F(x0){H K}(h:a6E x0 H K):a8S x0 H K:=by
 refine Ct.of fun w0 w ps0 H0 R E I hR=>c8g ?_
 unfold a6E at h
 unfold d1o
 refine A9 I (cs:=(f7 x0)) rfl fun b c a d=>?_
 refine c6 (lW Tryz.isAgg131 Tryz.sizeOf131 rfl a) (c5 (b9p _ _ _ _ _ _ _ _) (c5 (b6L (W7.mk x0)) ?_))
 exact hR _ H _ _ a.drop ⟨(f5.P5 (W7.mk x0)),rfl,rfl,h⟩
def G9(b4s:Int)(b4R:Bool)(a:P2)(H:Hp)(K:Bool→Hp→Prop):Prop:=
 (b4R=true→
 K (decide (b4s=2)) H)∧
 (b4R=false→
 K false H)
def R7(a9K:Int)(a7L:Int)(b4S:Bool)(a:P2)(H:Hp)(K:Bool→Hp→Prop):Prop:=
 (b4S=true→
 K (decide (a9K=1)) H)∧
 (b4S=false→
 (a7L=6→
 G9 a9K (decide (a7L=6)) a H K)∧
 (¬(a7L=6)→
 (a7L=7→
 G9 a9K (decide (a7L=7)) a H K)∧
 (¬(a7L=7)→
 (a7L=8→
 G9 a9K (decide (a7L=8)) a H K)∧
 (¬(a7L=8)→
 (a7L=9→
 G9 a9K (decide (a7L=9)) a H K)∧
 (¬(a7L=9)→
 G9 a9K (decide (a7L=10)) a H K)))))
def R8(a0d:Int)(a7M:Int)(b4T:Bool)(a:P2)(H:Hp)(K:Bool→Hp→Prop):Prop:=
 (b4T=true→
 K (decide (a0d=0)) H)∧
 (b4T=false→
 (a7M=4→
 R7 a0d a7M (decide (a7M=4)) a H K)∧
 (¬(a7M=4)→
 R7 a0d a7M (decide (a7M=5)) a H K))
def a5L(x0:P2)(H:Hp)(K:Bool→Hp→Prop):Prop:=
 a3A (f5.K7 x0) H (fun c b a=>
 ((((!decide (x0.y7.c8=1))&&(!decide (x0.y7.s7=0)))||((!b)&&(!decide (x0.y7.f6=⟨#[]⟩))))=true→
 K false a)∧
 ((((!decide (x0.y7.c8=1))&&(!decide (x0.y7.s7=0)))||((!b)&&(!decide (x0.y7.f6=⟨#[]⟩))))=false→
 (x0.y7.c8=1→
 K ((decide (0≤x0.y7.s7))&&(decide ((x0.y7.u1.n:Int)=0))) a)∧
 (¬(x0.y7.c8=1)→
 (x0.y7.c8=2→
 R8 (x0.y7.u1.n:Int) x0.y7.c8 (decide (x0.y7.c8=2)) x0 a K)∧
 (¬(x0.y7.c8=2)→
 R8 (x0.y7.u1.n:Int) x0.y7.c8 (decide (x0.y7.c8=3)) x0 a K))))
theorem b2f(x0){H K}(h:a5L x0 H K):a5I x0 H K:=by
 refine Ct.of fun w0 w ps0 H0 R E I hR=>c8j ?_
 unfold a5L at h
 unfold d1r
 refine A9 I (cs:=(d7 x0.y7)) rfl fun f l i m=>?_
 refine c5 a1X (c5 C3 (c6 (l1 Tryz.isAgg57 i rfl) (c5 (P7 _ _ _) (c6 (lW Tryz.isAgg202 Tryz.sizeOf202 rfl i) ?_))))
 refine c5 (b2T x0) ?_
 refine f0 Tryz.call127 h i ?_
 rintro _ d _ o c _ _ ⟨j,k,rfl,rfl,h⟩
 refine c5 (m0 _ _ (Value.string j) rfl) (c5 (m0 _ _ (vB k) rfl) (c5 a1X (c5 C2 (c6 (l1 Tryz.isAgg3 c rfl) ?_))))
 refine c5 pNe ?_
 refine c5 (Pu.g fun a=>by with_reducible exact a1X) ?_
 refine c5 (Pu.g fun a=>by simp only [i4 a];with_reducible exact a4Y) ?_
 refine c6 (Ld.g fun a=>by simp only [i4 a];exact (l1 Tryz.isAgg2 c rfl)) ?_
 refine c5 (Pu.g fun a=>by simp only [i4 a];with_reducible exact pNe) ?_
 refine c5 (y9 _ _) ?_
 simp only [z7]
 refine c5 (Pu.g fun a=>by simp only [i4 a];with_reducible exact (T1 _)) ?_
 simp only [a7g]
 refine c5 (Pu.e (a1d _ _ _) (Pu.g fun hb=>by obtain ⟨a,b⟩:=a4o hb;with_reducible exact a1X)) ?_
 refine c5 (Pu.e (a1d _ _ _) (Pu.g fun hb=>by obtain ⟨a,b⟩:=a4o hb;simp only [i4 hb];with_reducible exact a1V)) ?_
 refine c6 (Ld.e (a1d _ _ _) (Ld.g fun hb=>by obtain ⟨a,b⟩:=a4o hb;simp only [i4 hb];exact (l1 Tryz.isAgg9 c rfl))) ?_
 refine c5 (Pu.e (a1d _ _ _) (Pu.g fun hb=>by obtain ⟨a,b⟩:=a4o hb;simp only [i4 hb];with_reducible exact (c3G _ _ _ _ _))) ?_
 refine c5 (Pu.g fun a=>by simp only [i4 a,a9Y a];with_reducible exact (y9 _ _)) ?_
 refine c5 (L8 _ _) ?_
 refine m8 h (fun _ h=>?_) (fun _ h=>?_)
 ·exact hR _ d _ _ c.drop ⟨false,rfl,rfl,h⟩
 ·refine c5 a1X (c5 C2 (c6 (l1 Tryz.isAgg3 c rfl) (c5 pEq ?_)))
  refine d9 h (fun _ h=>?_) (fun _ h=>?_)
  ·refine c5 a1X (c5 a4Y (c6 (l1 Tryz.isAgg2 c rfl) (c5 pGe ?_)))
   simp only [z7]
   refine c5 (Pu.g fun a=>by simp only [i4 a];with_reducible exact pEq) ?_
   refine c5 (y9 _ _) ?_
   exact hR _ d _ _ c.drop ⟨((decide (0≤x0.y7.s7))&&(decide ((x0.y7.u1.n:Int)=0))),rfl,rfl,h⟩
  ·have hj1:∀(b4T:Bool) H w (_:Inv w0 ps0 H0 H [bx f 202 (d7 x0.y7)] w) (_:R8 (x0.y7.u1.n:Int) x0.y7.c8 b4T x0 H K),b7G (vi (x0.y7.u1.n:Int)) (vi x0.y7.c8) (vB b4T) w R E:=by
    intro b4T H w I h
    unfold b7G
    intro _
    unfold R8 at h
    refine m8 h (fun _ h=>?_) (fun _ h=>?_)
    ·refine c5 pEq ?_
     exact hR _ H _ _ I.drop ⟨(decide ((x0.y7.u1.n:Int)=0)),rfl,rfl,h⟩
    ·have hj2:∀(b4S:Bool) H w (_:Inv w0 ps0 H0 H [bx f 202 (d7 x0.y7)] w) (_:R7 (x0.y7.u1.n:Int) x0.y7.c8 b4S x0 H K),b7F (vi (x0.y7.u1.n:Int)) (vi x0.y7.c8) (vB b4S) w R E:=by
      intro b4S H w I h
      unfold b7F
      intro _
      unfold R7 at h
      refine m8 h (fun _ h=>?_) (fun _ h=>?_)
      ·refine c5 pEq ?_
       exact hR _ H _ _ I.drop ⟨(decide ((x0.y7.u1.n:Int)=1)),rfl,rfl,h⟩
      ·have hj3:∀(b4R:Bool) H w (_:Inv w0 ps0 H0 H [bx f 202 (d7 x0.y7)] w) (_:G9 (x0.y7.u1.n:Int) b4R x0 H K),b7E (vi (x0.y7.u1.n:Int)) (vB b4R) w R E:=by
        intro b4R H w I h
        unfold b7E
        intro _
        unfold G9 at h
        refine m8 h (fun _ h=>?_) (fun _ h=>?_)
        ·refine c5 pEq ?_
         exact hR _ H _ _ I.drop ⟨(decide ((x0.y7.u1.n:Int)=2)),rfl,rfl,h⟩
        ·exact hR _ H _ _ I.drop ⟨false,rfl,rfl,h⟩
       refine o6 fun j3 hx3=>?_
       refine c5 pEq ?_
       refine d9 h (fun _ h=>?_) (fun _ h=>?_)
       ·exact hx3 _ _ (hj3 (decide (x0.y7.c8=6)) H _ I h)
       ·refine c5 pEq ?_
        refine d9 h (fun _ h=>?_) (fun _ h=>?_)
        ·exact hx3 _ _ (hj3 (decide (x0.y7.c8=7)) H _ I h)
        ·refine c5 pEq ?_
         refine d9 h (fun _ h=>?_) (fun _ h=>?_)
         ·exact hx3 _ _ (hj3 (decide (x0.y7.c8=8)) H _ I h)
         ·refine c5 pEq ?_
          refine d9 h (fun _ h=>?_) (fun _ h=>?_)
          ·exact hx3 _ _ (hj3 (decide (x0.y7.c8=9)) H _ I h)
          ·refine c5 pEq ?_
           exact hx3 _ _ (hj3 (decide (x0.y7.c8=10)) H _ I h)
     refine o6 fun j2 hx2=>?_
     refine c5 pEq ?_
     refine d9 h (fun _ h=>?_) (fun _ h=>?_)
     ·exact hx2 _ _ (hj2 (decide (x0.y7.c8=4)) H _ I h)
     ·refine c5 pEq ?_
      exact hx2 _ _ (hj2 (decide (x0.y7.c8=5)) H _ I h)
   refine o6 fun j1 hx1=>?_
   refine c5 pEq ?_
   refine d9 h (fun _ h=>?_) (fun _ h=>?_)
   ·exact hx1 _ _ (hj1 (decide (x0.y7.c8=2)) d _ c h)
   ·refine c5 pEq ?_
    exact hx1 _ _ (hj1 (decide (x0.y7.c8=3)) d _ c h)
def R9(b4U:Bool)(a:q7)(b:W7)(H:Hp)(K:Bool→Hp→Prop):Prop:=
 (b4U=true→
 K (decide (a.fexprs=0∧a.fparts=2)) H)∧
 (b4U=false→
 K false H)
def S1(a7M:Int)(b4V:Bool)(a:q7)(b:W7)(H:Hp)(K:Bool→Hp→Prop):Prop:=
 (b4V=true→
 K (decide (a.fexprs=0∧a.fparts=0)) H)∧
 (b4V=false→
 (a7M=4→
 K (decide (a.fexprs=0∧a.fparts=1)) H)∧
 (¬(a7M=4)→
 (a7M=5→
 R9 (decide (a7M=5)) a b H K)∧
 (¬(a7M=5)→
 R9 (decide (a7M=6)) a b H K)))
def a5M(x0:W7)(H:Hp)(K:Bool→Hp→Prop):Prop:=
 (x0.s6.c8=3→
 K (((decide (1≤x0.s6.fOp))&&(decide (x0.s6.fOp≤6)))&&(decide ((x0.s6.l7.n:Int)=2∧(x0.s6.r7.n:Int)=0))) H)∧
 (¬(x0.s6.c8=3)→
 (¬(x0.s6.fOp=0)→
 K false H)∧
 (x0.s6.fOp=0→
 (x0.s6.c8=1→
 S1 x0.s6.c8 (decide (x0.s6.c8=1)) (q7.mk (x0.s6.l7.n:Int) (x0.s6.r7.n:Int)) x0 H K)∧
 (¬(x0.s6.c8=1)→
 S1 x0.s6.c8 (decide (x0.s6.c8=2)) (q7.mk (x0.s6.l7.n:Int) (x0.s6.r7.n:Int)) x0 H K)))
theorem b2g(x0){H K}(h:a5M x0 H K):a5J x0 H K:=by
 refine Ct.of fun w0 w ps0 H0 R E I hR=>c8l ?_
 unfold a5M at h
 unfold d1t
 refine A9 I (cs:=(f7 x0.s6)) rfl fun e i d j=>?_
 refine c5 a3s (c5 P6 (c6 (l1 Tryz.isAgg57 d rfl) (c5 (P7 _ _ _) (c5 a3s ?_))))
 refine c5 J7 (c6 (l1 Tryz.isAgg58 d rfl) (c5 (a0B _ _ _) (c5 (a7H _ _) ?_)))
 refine u4 d Tryz.zeroValue239 (cs:=[(vi 0),(vi 0)]) rfl fun c k f l=>?_
 refine y6 f Tryz.sizeOf239 (vs:=[(vi (x0.s6.l7.n:Int)),(vi (x0.s6.r7.n:Int))]) fun m b p=>?_
 refine c5 a3s (c5 a6d (c6 (l1 Tryz.isAgg3 (b.bring 1) rfl) (c5 pEq ?_)))
 refine d9 h (fun _ h=>?_) (fun _ h=>?_)
 ·refine c5 a3s (c5 a1W (c6 (l1 Tryz.isAgg3 (b.bring 1) rfl) (c5 pGe ?_)))
  refine c5 (Pu.g fun a=>by with_reducible exact a3s) ?_
  refine c5 (Pu.g fun a=>by simp only [i4 a];with_reducible exact a1W) ?_
  refine c6 (Ld.g fun a=>by simp only [i4 a];exact (l1 Tryz.isAgg3 (b.bring 1) rfl)) ?_
  refine c5 (Pu.g fun a=>by simp only [i4 a];with_reducible exact pLe) ?_
  refine c5 (y9 _ _) ?_
  refine c6 (Ld.g fun a=>by exact (ldA Tryz.isAgg239 Tryz.sizeOf239 rfl (b.at1 (o:=0) (vs:=[(vi (x0.s6.l7.n:Int)),(vi (x0.s6.r7.n:Int))]) (nb rfl) rfl))) ?_
  refine c5 (Pu.g fun a=>by with_reducible exact (a7H _ _)) ?_
  refine c5 (Pu.g fun a=>by simp only [i4 a];with_reducible exact (b2m _ _ _ _ _ _)) ?_
  refine c5 (y9 _ _) ?_
  exact hR _ H _ _ b.drop.drop ⟨(((decide (1≤x0.s6.fOp))&&(decide (x0.s6.fOp≤6)))&&(decide ((x0.s6.l7.n:Int)=2∧(x0.s6.r7.n:Int)=0))),rfl,rfl,h⟩
 ·refine c5 a3s (c5 a1W (c6 (l1 Tryz.isAgg3 (b.bring 1) rfl) (c5 pNe ?_)))
  refine a3P h (fun _ h=>?_) (fun _ h=>?_)
  ·exact hR _ H _ _ b.drop.drop ⟨false,rfl,rfl,h⟩
  ·refine c5 a3s (c5 a6d (c6 (l1 Tryz.isAgg3 (b.bring 1) rfl) ?_))
   have hj1:∀(b4V:Bool) H w (_:Inv w0 ps0 H0 H [bx c 239 [(vi (q7.mk (x0.s6.l7.n:Int) (x0.s6.r7.n:Int)).fexprs),(vi (q7.mk (x0.s6.l7.n:Int) (x0.s6.r7.n:Int)).fparts)],bx e 236 (f7 x0.s6)] w) (_:S1 x0.s6.c8 b4V (q7.mk (x0.s6.l7.n:Int) (x0.s6.r7.n:Int)) x0 H K),b7I (Value.pointer (some ⟨c,0,none⟩)) (vi x0.s6.c8) (vB b4V) w R E:=by
    intro b4V H w I h
    unfold b7I
    intro _
    unfold S1 at h
    refine m8 h (fun _ h=>?_) (fun _ h=>?_)
    ·refine c6 (ldA Tryz.isAgg239 Tryz.sizeOf239 rfl (I.at1 (o:=0) (vs:=[(vi (q7.mk (x0.s6.l7.n:Int) (x0.s6.r7.n:Int)).fexprs),(vi (q7.mk (x0.s6.l7.n:Int) (x0.s6.r7.n:Int)).fparts)]) (nb rfl) rfl)) (c5 (c2F) (c5 (b2m _ _ _ _ _ _) ?_))
     exact hR _ H _ _ I.drop.drop ⟨(decide ((q7.mk (x0.s6.l7.n:Int) (x0.s6.r7.n:Int)).fexprs=0∧(q7.mk (x0.s6.l7.n:Int) (x0.s6.r7.n:Int)).fparts=0)),rfl,rfl,h⟩
    ·refine c5 pEq ?_
     refine d9 h (fun _ h=>?_) (fun _ h=>?_)
     ·refine c6 (ldA Tryz.isAgg239 Tryz.sizeOf239 rfl (I.at1 (o:=0) (vs:=[(vi (q7.mk (x0.s6.l7.n:Int) (x0.s6.r7.n:Int)).fexprs),(vi (q7.mk (x0.s6.l7.n:Int) (x0.s6.r7.n:Int)).fparts)]) (nb rfl) rfl)) (c5 (a7H _ _) (c5 (b2m _ _ _ _ _ _) ?_))
      exact hR _ H _ _ I.drop.drop ⟨(decide ((q7.mk (x0.s6.l7.n:Int) (x0.s6.r7.n:Int)).fexprs=0∧(q7.mk (x0.s6.l7.n:Int) (x0.s6.r7.n:Int)).fparts=1)),rfl,rfl,h⟩
     ·have hj2:∀(b4U:Bool) H w (_:Inv w0 ps0 H0 H [bx c 239 [(vi (q7.mk (x0.s6.l7.n:Int) (x0.s6.r7.n:Int)).fexprs),(vi (q7.mk (x0.s6.l7.n:Int) (x0.s6.r7.n:Int)).fparts)],bx e 236 (f7 x0.s6)] w) (_:R9 b4U (q7.mk (x0.s6.l7.n:Int) (x0.s6.r7.n:Int)) x0 H K),b7H (Value.pointer (some ⟨c,0,none⟩)) (vB b4U) w R E:=by
       intro b4U H w I h
       unfold b7H
       intro _
       unfold R9 at h
       refine m8 h (fun _ h=>?_) (fun _ h=>?_)
       ·refine c6 (ldA Tryz.isAgg239 Tryz.sizeOf239 rfl (I.at1 (o:=0) (vs:=[(vi (q7.mk (x0.s6.l7.n:Int) (x0.s6.r7.n:Int)).fexprs),(vi (q7.mk (x0.s6.l7.n:Int) (x0.s6.r7.n:Int)).fparts)]) (nb rfl) rfl)) (c5 (a7H _ _) (c5 (b2m _ _ _ _ _ _) ?_))
        exact hR _ H _ _ I.drop.drop ⟨(decide ((q7.mk (x0.s6.l7.n:Int) (x0.s6.r7.n:Int)).fexprs=0∧(q7.mk (x0.s6.l7.n:Int) (x0.s6.r7.n:Int)).fparts=2)),rfl,rfl,h⟩
       ·exact hR _ H _ _ I.drop.drop ⟨false,rfl,rfl,h⟩
      refine o6 fun j2 hx2=>?_
      refine c5 pEq ?_
      refine d9 h (fun _ h=>?_) (fun _ h=>?_)
      ·exact hx2 _ _ (hj2 (decide (x0.s6.c8=5)) H _ ((I.bring 1).bring 1) h)
      ·refine c5 pEq ?_
       exact hx2 _ _ (hj2 (decide (x0.s6.c8=6)) H _ ((I.bring 1).bring 1) h)
   refine o6 fun j1 hx1=>?_
   refine c5 pEq ?_
   refine d9 h (fun _ h=>?_) (fun _ h=>?_)
   ·exact hx1 _ _ (hj1 (decide (x0.s6.c8=1)) H _ ((b.bring 1).bring 1) h)
   ·refine c5 pEq ?_
    exact hx1 _ _ (hj1 (decide (x0.s6.c8=2)) H _ ((b.bring 1).bring 1) h)
end Go.Proofs.YtaokfhdinhimfaaGreatDoor
