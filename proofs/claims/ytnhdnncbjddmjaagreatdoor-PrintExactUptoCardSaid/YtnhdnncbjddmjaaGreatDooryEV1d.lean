/- Typed formulas of the program's functions, and the theorems that the contracts follow from them; printed by lift.py off the code. -/
import Derived.Test.YtnhdnncbjddmjaaGreatDooryEV1
namespace Go.Proofs.YtnhdnncbjddmjaaGreatDoor
open Go.RowKit
set_option maxRecDepth 100000
set_option maxHeartbeats 2000000
def a2H(x0:Int)(H:Hp)(K:Bool→Hp→Prop):Prop:=
 a1p x0 H (fun a b=>
 K ((decide (a=3))||(decide (a=4))) b)
theorem a7D(x0){H K}(h:a2H x0 H K):a2D x0 H K:=by
 refine Ct.of fun w0 w ps0 H0 R E I hR=>b9x ?_
 unfold a2H at h
 unfold F98
 refine d3 Tryz.call99 h I ?_
 rintro _ c _ e d _ _ ⟨b,rfl,rfl,h⟩
 refine a7 pEq ?_
 simp only [o6]
 refine a7 (Pu.g fun a=>by simp only [d9 a];with_reducible exact pEq) ?_
 refine a7 (K7 _ _) ?_
 exact hR _ c _ _ d ⟨((decide (b=3))||(decide (b=4))),rfl,rfl,h⟩
def i8(i7:Bool)(H:Hp)(K:Bool→Hp→Prop):Prop:=
 (i7=true→
 K true H)∧
 (i7=false→
 K false H)
def a3G(x0:ByteArray)(H:Hp)(K:Bool→Hp→Prop):Prop:=
 (x0=⟨#[118,97,114]⟩→
 i8 (decide (x0=⟨#[118,97,114]⟩)) H K)∧
 (¬(x0=⟨#[118,97,114]⟩)→
 (x0=⟨#[97,114,114,97,121]⟩→
 i8 (decide (x0=⟨#[97,114,114,97,121]⟩)) H K)∧
 (¬(x0=⟨#[97,114,114,97,121]⟩)→
 (x0=⟨#[105,102]⟩→
 i8 (decide (x0=⟨#[105,102]⟩)) H K)∧
 (¬(x0=⟨#[105,102]⟩)→
 (x0=⟨#[101,108,115,101]⟩→
 i8 (decide (x0=⟨#[101,108,115,101]⟩)) H K)∧
 (¬(x0=⟨#[101,108,115,101]⟩)→
 (x0=⟨#[119,104,105,108,101]⟩→
 i8 (decide (x0=⟨#[119,104,105,108,101]⟩)) H K)∧
 (¬(x0=⟨#[119,104,105,108,101]⟩)→
 (x0=⟨#[97,115,115,101,114,116]⟩→
 i8 (decide (x0=⟨#[97,115,115,101,114,116]⟩)) H K)∧
 (¬(x0=⟨#[97,115,115,101,114,116]⟩)→
 (x0=⟨#[97,115,115,117,109,101]⟩→
 i8 (decide (x0=⟨#[97,115,115,117,109,101]⟩)) H K)∧
 (¬(x0=⟨#[97,115,115,117,109,101]⟩)→
 (x0=⟨#[115,107,105,112]⟩→
 i8 (decide (x0=⟨#[115,107,105,112]⟩)) H K)∧
 (¬(x0=⟨#[115,107,105,112]⟩)→
 (x0=⟨#[105,110,112,117,116]⟩→
 i8 (decide (x0=⟨#[105,110,112,117,116]⟩)) H K)∧
 (¬(x0=⟨#[105,110,112,117,116]⟩)→
 (x0=⟨#[116,114,117,101]⟩→
 i8 (decide (x0=⟨#[116,114,117,101]⟩)) H K)∧
 (¬(x0=⟨#[116,114,117,101]⟩)→
 i8 (decide (x0=⟨#[102,97,108,115,101]⟩)) H K))))))))))
theorem a8t(x0){H K}(h:a3G x0 H K):a3A x0 H K:=by
 refine Ct.of fun w0 w ps0 H0 R E I hR=>b9w ?_
 unfold a3G at h
 unfold F97
 have hj1:∀(i7:Bool) H w (_:Inv w0 ps0 H0 H [] w) (_:i8 i7 H K),b1W (vB i7) w R E:=by
  intro i7 H w I h
  unfold b1W
  intro _
  unfold i8 at h
  refine g6 h (fun _ h=>?_) (fun _ h=>?_)
  ·exact hR _ H _ _ I ⟨true,rfl,rfl,h⟩
  ·exact hR _ H _ _ I ⟨false,rfl,rfl,h⟩
 refine k8 fun j1 hx1=>?_
 refine a7 (E9 _ _ _ _ _) ?_
 refine c8 h (fun _ h=>?_) (fun _ h=>?_)
 ·exact hx1 _ _ (hj1 (decide (x0=⟨#[118,97,114]⟩)) H _ I h)
 ·refine a7 (E9 _ _ _ _ _) ?_
  refine c8 h (fun _ h=>?_) (fun _ h=>?_)
  ·exact hx1 _ _ (hj1 (decide (x0=⟨#[97,114,114,97,121]⟩)) H _ I h)
  ·refine a7 (E9 _ _ _ _ _) ?_
   refine c8 h (fun _ h=>?_) (fun _ h=>?_)
   ·exact hx1 _ _ (hj1 (decide (x0=⟨#[105,102]⟩)) H _ I h)
   ·refine a7 (E9 _ _ _ _ _) ?_
    refine c8 h (fun _ h=>?_) (fun _ h=>?_)
    ·exact hx1 _ _ (hj1 (decide (x0=⟨#[101,108,115,101]⟩)) H _ I h)
    ·refine a7 (E9 _ _ _ _ _) ?_
     refine c8 h (fun _ h=>?_) (fun _ h=>?_)
     ·exact hx1 _ _ (hj1 (decide (x0=⟨#[119,104,105,108,101]⟩)) H _ I h)
     ·refine a7 (E9 _ _ _ _ _) ?_
      refine c8 h (fun _ h=>?_) (fun _ h=>?_)
      ·exact hx1 _ _ (hj1 (decide (x0=⟨#[97,115,115,101,114,116]⟩)) H _ I h)
      ·refine a7 (E9 _ _ _ _ _) ?_
       refine c8 h (fun _ h=>?_) (fun _ h=>?_)
       ·exact hx1 _ _ (hj1 (decide (x0=⟨#[97,115,115,117,109,101]⟩)) H _ I h)
       ·refine a7 (E9 _ _ _ _ _) ?_
        refine c8 h (fun _ h=>?_) (fun _ h=>?_)
        ·exact hx1 _ _ (hj1 (decide (x0=⟨#[115,107,105,112]⟩)) H _ I h)
        ·refine a7 (E9 _ _ _ _ _) ?_
         refine c8 h (fun _ h=>?_) (fun _ h=>?_)
         ·exact hx1 _ _ (hj1 (decide (x0=⟨#[105,110,112,117,116]⟩)) H _ I h)
         ·refine a7 (E9 _ _ _ _ _) ?_
          refine c8 h (fun _ h=>?_) (fun _ h=>?_)
          ·exact hx1 _ _ (hj1 (decide (x0=⟨#[116,114,117,101]⟩)) H _ I h)
          ·refine a7 (E9 _ _ _ _ _) ?_
           exact hx1 _ _ (hj1 (decide (x0=⟨#[102,97,108,115,101]⟩)) H _ I h)
def a2t(H:Hp)(K:Bool→Hp→Prop):Prop:=
 K true H
def a0M(b:ByteArray)(a:Nat)(H:Hp)(n2:Nat→Hp→Prop)(K:Bool→Hp→Prop):Prop:=
 (a < b.size→
 a2D ((Utf8.decode b a).1:Int) H (fun c d=>
 TG ((!(!c)&&(decide (((a:Nat):Int)=0)))=true) (a1p ((Utf8.decode b a).1:Int) d) 0 d (fun(e:Int)(f:Hp)=>
 (((!c)||((decide (((a:Nat):Int)=0))&&(!decide (e=3))))=true→
 K false f)∧
 (((!c)||((decide (((a:Nat):Int)=0))&&(!decide (e=3))))=false→
 n2 (a+(Utf8.decode b a).2) f))))∧
 (¬(a < b.size)→
 a2t H K)
def a3H(x0:ByteArray)(H:Hp)(K:Bool→Hp→Prop):Prop:=
 TG ((decide (x0=⟨#[]⟩))=false) (a2A x0 H) false H (fun(a:Bool)(c:Hp)=>
 TG (((decide (x0=⟨#[]⟩))||(!a))=false) (a3z x0 c) false c (fun(b:Bool)(d:Hp)=>
 TG ((((decide (x0=⟨#[]⟩))||(!a))||b)=false) (a3A x0 d) false d (fun(e:Bool)(f:Hp)=>
 (((((decide (x0=⟨#[]⟩))||(!a))||b)||e)=true→
 K false f)∧
 (((((decide (x0=⟨#[]⟩))||(!a))||b)||e)=false→
 TL (0:Nat) f fun(s:Nat) H n2=>a0M x0 s H n2 K))))
theorem a8u(x0){H K}(h:a3H x0 H K):a1T x0 H K:=by
 refine Ct.of fun w0 w ps0 H0 R E I hR=>b9r ?_
 unfold a3H at h
 unfold F81
 refine a7 (E9 _ _ _ _ _) ?_
 simp only [o6]
 refine a2O [] (fun d:Bool=>(vB d)) h I (fun r h=>?_) fun d s ai f t u h=>?_
 ·have a:=r
  simp only [d9 a]
  refine d3 Tryz.call95 h I ?_
  rintro _ s _ ai f u t ⟨d,rfl,rfl,h⟩
  exact ⟨d,s,rfl,f,t,u,h⟩
 refine a7 (Pu.g fun a=>by simp only [d9 a];with_reducible exact (T5 _)) ?_
 refine a7 (K7 _ _) ?_
 simp only [o6]
 refine a2O [] (fun i:Bool=>(vB i)) h f (fun v h=>?_) fun i y aj j z aa h=>?_
 ·have a:=v
  simp only [d9 a]
  refine d3 Tryz.call96 h f ?_
  rintro _ y _ aj j aa z ⟨i,rfl,rfl,h⟩
  exact ⟨i,y,rfl,j,z,aa,h⟩
 refine a7 (K7 _ _) ?_
 simp only [o6]
 refine a2O [] (fun k:Bool=>(vB k)) h j (fun ab h=>?_) fun k o ak l ac ad h=>?_
 ·have a:=ab
  simp only [d9 a]
  refine d3 Tryz.call97 h j ?_
  rintro _ o _ ak l ad ac ⟨k,rfl,rfl,h⟩
  exact ⟨k,o,rfl,l,ac,ad,h⟩
 refine a7 (K7 _ _) ?_
 refine g6 h (fun _ h=>?_) (fun _ h=>?_)
 ·exact hR _ o _ _ l ⟨false,rfl,rfl,h⟩
 ·have hj1:∀H w (_:Inv w0 ps0 H0 H [] w) (_:a2t H K),b1V w R E:=by
   intro H w I h
   unfold b1V
   intro _
   unfold a2t at h
   exact hR _ H _ _ I ⟨true,rfl,rfl,h⟩
  refine k8 fun j1 hx1=>?_
  refine b2Q Tryz.underlying9 x0 l fun al aq am ar=>?_
  refine B2 (σ:=Nat) (fun c=>[]) (fun c=>[itf al x0 c]) h rfl am ?_
  rintro c H au w next2 n2 an I h hn2
  clear an
  unfold b4X
  unfold a0M at h
  refine b4i I (fun p av ao aw=>?_) (fun p=>?_)
  ·replace h:=h.1 p
   refine a7 (v8 _ _ (vB true) rfl) ?_
   refine a0P (fun e=>?_) (fun e=>by cases e)
   refine a7 (v8 _ _ (vi ((c:Nat):Int)) rfl) (a7 (v8 _ _ (Value.int .i32 ((Utf8.decode x0 c).1:Int)) rfl) ?_)
   refine d3 Tryz.call98 h ao ?_
   rintro _ _ _ ax ae _ _ ⟨ay,rfl,rfl,h⟩
   refine a7 (T5 _) ?_
   simp only [o6]
   refine a7 (Pu.g fun a=>by simp only [d9 a];with_reducible exact pEq) ?_
   simp only [a3j,a6G]
   refine c0l (a1C _ _ _) ?_
   refine a2O [] (fun m:Int=>(vi m)) h ae (fun af h=>?_) fun m q ap n ag ah h=>?_
   ·obtain ⟨a,b⟩:=a3i af
    simp only [d9 af]
    refine d3 Tryz.call99 h ae ?_
    rintro _ q _ ap n ah ag ⟨m,rfl,rfl,h⟩
    exact ⟨m,q,rfl,n,ag,ah,h⟩
   refine a7 (Pu.e (a1C _ _ _) (Pu.g fun hb=>by obtain ⟨a,b⟩:=a3i hb;simp only [d9 hb];with_reducible exact pNe)) ?_
   refine a7 (Pu.g fun a=>by simp only [d9 a,a5H a];with_reducible exact (o7 _ _)) ?_
   refine a7 (K7 _ _) ?_
   refine g6 h (fun _ h=>?_) (fun _ h=>?_)
   ·exact hR _ q _ _ n.drop ⟨false,rfl,rfl,h⟩
   ·exact hn2 (c+(Utf8.decode x0 c).2) _ _ h n
  ·replace h:=h.2 p
   refine a7 (v8 _ _ (vB false) rfl) ?_
   refine a0P (fun e=>by cases e) (fun e=>?_)
   exact hx1 _ _ (hj1 H _ I.drop h)
def N3(H:Hp)(K:Int→Hp→Prop):Prop:=
 K (-1) H
def U2(c0z:(List ByteArray))(a7M:ByteArray)(a4m:Int)(a0E:Int)(H:Hp)(n2:Int→Hp→Prop)(K:Int→Hp→Prop):Prop:=
 (a0E < a4m→
 (0:Int)≤a0E∧∃a:ByteArray,(c0z)[(a0E:Int).toNat]? = some a∧
 (a7M=a→
 K a0E H)∧
 (¬(a7M=a)→
 n2 (IntKind.wrap .i64 (a0E+1)) H))∧
 (¬(a0E < a4m)→
 N3 H K)
def Y9(x0:(List ByteArray))(x1:ByteArray)(H:Hp)(K:Int→Hp→Prop):Prop:=
 TL (0:Int) H fun(s:Int) H n2=>U2 x0 x1 (x0.length:Int) s H n2 K
theorem a4Q(x0 x1){H K}(h:Y9 x0 x1 H K):Y0 x0 x1 H K:=by
 intro sx0 Fx0 hx0
 refine Ct.of fun w0 w ps0 H0 R E I hR=>b7a ?_
 unfold Y9 at h
 unfold b9z
 have hj1:∀H w (_:Inv w0 ps0 H0 H [Fx0] w) (_:N3 H K),a9s w R E:=by
  intro H w I h
  unfold a9s
  intro _
  unfold N3 at h
  exact hR _ H _ _ I ⟨(-1),rfl,rfl,h⟩
 refine k8 fun j1 hx1=>?_
 refine a7 (a6X Tryz.underlying63 hx0) ?_
 refine B2 (σ:=Int) (fun a0E=>[(vi a0E)]) (fun a0E=>[Fx0]) h rfl I ?_
 rintro a0E H f w next2 n2 b I h hn2
 simp only [List.map_cons,List.map_nil,List.cons.injEq,and_true] at b
 have e8:=b
 simp only [e8]
 unfold b2S
 unfold U2 at h
 refine a7 pLs ?_
 refine c8 h (fun _ h=>?_) (fun _ h=>?_)
 ·obtain ⟨c,e,a,h⟩:=h
  obtain ⟨g,i,d,j⟩:=hx0.addr a
  refine a7 (b0N d _ _ _ _ c (hx0.lt c a)) (b9 (ld1 (v:=(Value.string e)) Tryz.isAgg9 (hx0.atW I d a)) (a7 (E9 _ _ _ _ _) ?_))
  refine c8 h (fun _ h=>?_) (fun _ h=>?_)
  ·exact hR _ H _ _ I ⟨a0E,rfl,rfl,h⟩
  ·refine a7 pAd ?_
   exact hn2 (IntKind.wrap .i64 (a0E+1)) _ _ h I
 ·exact hx1 _ _ (hj1 H _ I h)
def v7(a5A:Int)(P5:Int)(a5B:Int)(a5C:Bool)(a5D:Bool)(a4R:(List ByteArray))(H:Hp)(K:Bool→f7→(List ByteArray)→Hp→Prop):Prop:=
 K true (f7.mk a5A P5 a5B a5C a5D (Sl.mk none 0 0)) a4R H
def a0r(x0:f7)(a:(List ByteArray))(x1:c6)(x2:Int)(H:Hp)(K:Bool→f7→(List ByteArray)→Hp→Prop):Prop:=
 (4096 < (IntKind.wrap .i64 (x0.fnodes+1))→
 K false (f7.mk (IntKind.wrap .i64 (x0.fnodes+1)) x0.fdepth 33 x0.fform x0.fnamed (Sl.mk none 0 0)) a H)∧
 (¬(4096 < (IntKind.wrap .i64 (x0.fnodes+1)))→
 (64 < x2→
 K false (f7.mk (IntKind.wrap .i64 (x0.fnodes+1)) x0.fdepth 32 x0.fform x0.fnamed (Sl.mk none 0 0)) a H)∧
 (¬(64 < x2)→
 TG (x0.fform=false) (a2l x1 H) false H (fun(c:Bool)(j:Hp)=>
 Z7 x1 j (fun b e d=>
 (e=true→
 TG (x0.fnamed=false) (a1T b d) false d (fun(f:Bool)(k:Hp)=>
 N2 a b k (fun g i=>
 ((!g)=true→
 (a.length+([b]:List ByteArray).length)*17≤140737488355328∧
 v7 (IntKind.wrap .i64 (x0.fnodes+1)) (if x2 > x0.fdepth then x2 else x0.fdepth) x0.fe (x0.fform||(!c)) (x0.fnamed||(!f)) (a++[b]) i K)∧
 ((!g)=false→
 v7 (IntKind.wrap .i64 (x0.fnodes+1)) (if x2 > x0.fdepth then x2 else x0.fdepth) x0.fe (x0.fform||(!c)) (x0.fnamed||(!f)) a i K))))∧
 (e=false→
 v7 (IntKind.wrap .i64 (x0.fnodes+1)) (if x2 > x0.fdepth then x2 else x0.fdepth) x0.fe (x0.fform||(!c)) x0.fnamed a d K)))))
theorem a5h(x0 b x1 x2){H K}(h:a0r x0 b x1 x2 H K):a0g x0 b x1 x2 H K:=by
 intro g0 k l m
 refine Ct.of fun w0 w ps0 H0 R E I hR=>b9e ?_
 unfold a0r at h
 unfold F61
 refine a7 (g7 _) (a7 a7e (b9 (l1 Tryz.isAgg3 I rfl) (a7 pAd (a7 (g7 _) ?_))))
 refine a7 a7e ?_
 refine P9 I Tryz.sizeOf3 fun ba p bb=>?_
 refine a7 (g7 _) (a7 a7e (b9 (l1 Tryz.isAgg3 p rfl) (a7 pGt ?_)))
 refine c8 h (fun _ h=>?_) (fun _ h=>?_)
 ·refine a7 (g7 _) (a7 a3r ?_)
  refine P9 p Tryz.sizeOf27 fun bc an bd=>?_
  exact hR _ H _ _ ((an.bring 1).bring 1) ⟨false,(f7.mk (IntKind.wrap .i64 (x0.fnodes+1)) x0.fdepth 33 x0.fform x0.fnamed (Sl.mk none 0 0)),b,k,l,rfl,rfl,m,h⟩
 ·refine a7 pGt ?_
  refine c8 h (fun _ h=>?_) (fun _ h=>?_)
  ·refine a7 (g7 _) (a7 a3r ?_)
   refine P9 p Tryz.sizeOf27 fun be ao bf=>?_
   exact hR _ H _ _ ((ao.bring 1).bring 1) ⟨false,(f7.mk (IntKind.wrap .i64 (x0.fnodes+1)) x0.fdepth 32 x0.fform x0.fnamed (Sl.mk none 0 0)),b,k,l,rfl,rfl,m,h⟩
  ·refine a7 (g7 _) (a7 a8Z (b9 (l1 Tryz.isAgg3 p rfl) (a7 (b4e _ _ _ _ _) (a7 (g7 _) ?_))))
   refine a7 a8Z ?_
   refine P9 p Tryz.sizeOf3 fun ae z bg=>?_
   refine a7 (g7 _) (a7 a7f (b9 (l1 Tryz.isAgg4 z rfl) ?_))
   simp only [o6]
   refine a8X (D:=fun af t=>∃(d:Bool)(n:Hp),af=(gv x0.fform false (vB d))∧(Inv w0 ps0 H0 n [bx g0 65 [(vi (IntKind.wrap .i64 (x0.fnodes+1))),(vi (if x2 > x0.fdepth then x2 else x0.fdepth)),(vi x0.fe),(vB x0.fform),(vB x0.fnamed),(vs k)],l] t)∧(∀i,i < ae.heap.size→¬inF [] i→t.heap[i]? = ae.heap[i]?)∧Hle H n∧(Z7 x1 n (fun(j:ByteArray)(u:Bool)(q:Hp)=>
 (u=true→
 TG (x0.fnamed=false) (a1T j q) false q (fun(f:Bool)(v:Hp)=>
 N2 b j v (fun(aa:Bool)(r:Hp)=>
 ((!aa)=true→
 (b.length+([j]:List ByteArray).length)*17≤140737488355328∧
 v7 (IntKind.wrap .i64 (x0.fnodes+1)) (if x2 > x0.fdepth then x2 else x0.fdepth) x0.fe (x0.fform||(!d)) (x0.fnamed||(!f)) (b++[j]) r K)∧
 ((!aa)=false→
 v7 (IntKind.wrap .i64 (x0.fnodes+1)) (if x2 > x0.fdepth then x2 else x0.fdepth) x0.fe (x0.fform||(!d)) (x0.fnamed||(!f)) b r K))))∧
 (u=false→
 v7 (IntKind.wrap .i64 (x0.fnodes+1)) (if x2 > x0.fdepth then x2 else x0.fdepth) x0.fe (x0.fform||(!d)) x0.fnamed b q K)))) (fun o=>?_) (fun o=>?_) ?_
   ·replace h:=h.1 o
    have a:=o
    simp only [d9 a]
    refine a6L z h (fun d n t ab ag ah h=>?_)
    exact ⟨d,n,by rfl,ab,ah,ag,h⟩
   ·exact ⟨false,H,by rw [b0D o],z,fun _ _ _=>rfl,Hle.refl _,h.2 o⟩
   ·clear h
    rintro af t ⟨d,n,rfl,ab,ah,ag,h⟩
    refine a7 (Pu.g fun a=>by simp only [d9 a];with_reducible exact (T5 _)) ?_
    refine a7 (K7 _ _) (a7 (g7 _) (a7 a7f ?_))
    refine P9 ab Tryz.sizeOf4 fun bh ap bi=>?_
    have hj1:∀(a5A:Int)(P5:Int)(a5B:Int)(a5C:Bool)(a5D:Bool)(a4R:(List ByteArray))(a7p:Sl)(a7q:Frag) H w (_:RowL 9 1 j8 a7p a4R a7q) (_:Inv w0 ps0 H0 H [bx g0 65 [(vi a5A),(vi P5),(vi a5B),(vB a5C),(vB a5D),(vs a7p)],a7q] w) (_:v7 a5A P5 a5B a5C a5D a4R H K),b1L w R E:=by
     intro a5A P5 a5B a5C a5D a4R a7p a7q H w b5K I h
     unfold b1L
     intro _
     unfold v7 at h
     exact hR _ H _ _ ((I.bring 1).bring 1) ⟨true,(f7.mk a5A P5 a5B a5C a5D (Sl.mk none 0 0)),a4R,a7p,a7q,rfl,rfl,b5K,h⟩
    refine k8 fun j1 hx1=>?_
    refine d3 Tryz.call80 h ap ?_
    rintro _ q _ bj y _ _ ⟨j,u,rfl,rfl,h⟩
    refine a7 (v8 _ _ (Value.string j) rfl) (a7 (v8 _ _ (vB u) rfl) ?_)
    refine g6 h (fun _ h=>?_) (fun _ h=>?_)
    ·refine a7 (g7 _) (a7 a7g (b9 (l1 Tryz.isAgg4 y rfl) ?_))
     simp only [o6]
     refine a2O [] (fun f:Bool=>(vB f)) h y (fun ai h=>?_) fun f v aq ac aj ak h=>?_
     ·have a:=ai
      simp only [d9 a]
      refine d3 Tryz.call81 h y ?_
      rintro _ v _ aq ac ak aj ⟨f,rfl,rfl,h⟩
      exact ⟨f,v,rfl,ac,aj,ak,h⟩
     refine a7 (Pu.g fun a=>by simp only [d9 a];with_reducible exact (T5 _)) ?_
     refine a7 (K7 _ _) (a7 (g7 _) (a7 a7g ?_))
     refine P9 ac Tryz.sizeOf4 fun bk al bl=>?_
     refine a7 (g7 _) (a7 a7h (b9 (l1 Tryz.isAgg63 al rfl) ?_))
     refine d3 Tryz.call82 (h k l m) (al.bring 1) ?_
     rintro _ r _ bm ad _ _ ⟨aa,rfl,rfl,h⟩
     refine a7 (T5 _) ?_
     refine g6 h (fun _ h=>?_) (fun _ h=>?_)
     ·refine a7 (g7 _) (a7 a7h (b9 (l1 Tryz.isAgg63 (ad.bring 1) rfl) ?_))
      refine W0 (e:=9) (c:=j8) (xs:=[j]) ad (O9 _) rfl rfl D6 D7 (nb rfl) fun bn bo bp ar am bq=>?_
      obtain ⟨au,h⟩:=h
      refine b8j (s:=k) (xs:=b) (am.bring 1) m (ar.srcO ((am.bring 1).bring 1)) au fun av aw br ax ay bs=>?_
      refine a7 (g7 _) (a7 a7h ?_)
      refine P9 ((ay.bring 1).drop.bring 1) Tryz.sizeOf63 fun bt az bu=>?_
      exact hx1 _ _ (hj1 (IntKind.wrap .i64 (x0.fnodes+1)) (if x2 > x0.fdepth then x2 else x0.fdepth) x0.fe (x0.fform||(!d)) (x0.fnamed||(!f)) (b++[j]) av aw r _ ax ((az.bring 1).bring 1) h)
     ·exact hx1 _ _ (hj1 (IntKind.wrap .i64 (x0.fnodes+1)) (if x2 > x0.fdepth then x2 else x0.fdepth) x0.fe (x0.fform||(!d)) (x0.fnamed||(!f)) b k l r _ m (ad.bring 1) h)
    ·exact hx1 _ _ (hj1 (IntKind.wrap .i64 (x0.fnodes+1)) (if x2 > x0.fdepth then x2 else x0.fdepth) x0.fe (x0.fform||(!d)) x0.fnamed b k l q _ m ((y.bring 1).bring 1) h)
def D9(c:Int)(d:Int)(e:Int)(f:Bool)(g:Bool)(i:(List ByteArray))(H:Hp)(K:f7→Hp→Prop):Prop:=
 ∀(b:Sl)(a:Hp),Hle H a→SlH a 1 j8 b i→NewS H a 9 1 b→
 K (f7.mk c d e f g b) a
def a2u(x0:Sl)(H:Hp)(K:f7→Hp→Prop):Prop:=
 Q7 x0 1 (f7.mk 0 0 0 false false (Sl.mk none 0 0)) [] H (fun d a b c=>
 ((!d)=true→
 D9 a.fnodes a.fdepth a.fe a.fform a.fnamed b c K)∧
 ((!d)=false→
 (a.fform=true→
 D9 a.fnodes a.fdepth 30 a.fform a.fnamed b c K)∧
 (a.fform=false→
 (a.fnamed=true→
 D9 a.fnodes a.fdepth 31 a.fform a.fnamed b c K)∧
 (a.fnamed=false→
 D9 a.fnodes a.fdepth a.fe a.fform a.fnamed b c K))))
theorem a7r(x0){H K}(h:a2u x0 H K):a0z x0 H K:=by
 refine Ct.of fun w0 w ps0 H0 R E I hR=>b8I ?_
 unfold a2u at h
 unfold F36
 refine a7 (b4o) ?_
 refine y7 I (cs:=[(vi 0),(vi 0),(vi 0),(vB false),(vB false),(nS)]) rfl fun d aj y ak=>?_
 refine L1 y Tryz.zeroValue66 (cs:=[(Value.pointer none)]) rfl fun c al z am=>?_
 refine U3 z Tryz.sizeOf66 (vs:=[(Value.pointer (some ⟨d,0,none⟩))]) fun an aa ao=>?_
 refine L1 aa Tryz.zeroValue111 (cs:=[Value.nilFunc]) rfl fun f ap ab aq=>?_
 refine a7 (a1O _ _ _) ?_
 refine U3 ab Tryz.sizeOf111 (vs:=[(Value.func (.func 60) #[] #[(Value.pointer (some ⟨c,0,none⟩)),(Value.pointer (some ⟨f,0,none⟩))])]) fun ar u au=>?_
 have hj1:∀(i:Int)(j:Int)(k:Int)(l:Bool)(m:Bool)(s:(List ByteArray))(g:Sl)(t:Frag) H w (_:RowL 9 1 j8 g s t) (_:Inv w0 ps0 H0 H [bx c 66 [(Value.pointer (some ⟨d,0,none⟩))],bx d 65 [(vi i),(vi j),(vi k),(vB l),(vB m),(vs g)],bx f 111 [(Value.func (.func 60) #[] #[(Value.pointer (some ⟨c,0,none⟩)),(Value.pointer (some ⟨f,0,none⟩))])],t] w) (_:D9 i j k l m s H K),b1j (Value.pointer (some ⟨c,0,none⟩)) w R E:=by
  intro i j k l m s g t H w ac I h
  unfold b1j
  intro _
  unfold D9 at h
  refine b9 (l1 Tryz.isAgg66 I rfl) ?_
  obtain ⟨v,ad,ae,af,ag⟩:=Inv.freezeN (I.bring 3) ac (by decide)
  replace h:=h g v ae af ag
  exact hR _ v _ _ (ad.drop.bring 1).drop ⟨(f7.mk i j k l m g),d,rfl,rfl,h⟩
 refine k8 fun j1 hx1=>?_
 refine b9 (l1 Tryz.isAgg111 u rfl) ?_
 refine a3K (cap:=[(Value.pointer (some ⟨c,0,none⟩)),(Value.pointer (some ⟨f,0,none⟩))]) Tryz.call60 (h c d f (Sl.mk none 0 0) ([]) (RowL.nil (e:=9) D6 D7)) ((((u.nil.bring 1).bring 1).bring 3).bring 3) ?_
 rintro _ n _ av b _ _ ⟨aw,a,o,p,q,rfl,rfl,r,h⟩
 refine a7 (T5 _) ?_
 refine g6 h (fun _ h=>?_) (fun _ h=>?_)
 ·exact hx1 _ _ (hj1 a.fnodes a.fdepth a.fe a.fform a.fnamed o p q n _ r ((((b.bring 2).bring 3).bring 3).bring 3) h)
 ·refine b9 (l1 Tryz.isAgg66 b rfl) (a7 (g7 _) (a7 a7f (b9 (l1 Tryz.isAgg4 (b.bring 1) rfl) ?_)))
  refine g6 h (fun _ h=>?_) (fun _ h=>?_)
  ·refine b9 (l1 Tryz.isAgg66 b rfl) (a7 (g7 _) (a7 a3r ?_))
   refine P9 (b.bring 1) Tryz.sizeOf27 fun ax ah ay=>?_
   exact hx1 _ _ (hj1 a.fnodes a.fdepth 30 a.fform a.fnamed o p q n _ r ((((ah.bring 2).bring 3).bring 2).bring 3) h)
  ·refine b9 (l1 Tryz.isAgg66 b rfl) (a7 (g7 _) (a7 a7g (b9 (l1 Tryz.isAgg4 (b.bring 1) rfl) ?_)))
   refine g6 h (fun _ h=>?_) (fun _ h=>?_)
   ·refine b9 (l1 Tryz.isAgg66 b rfl) (a7 (g7 _) (a7 a3r ?_))
    refine P9 (b.bring 1) Tryz.sizeOf27 fun az ai ba=>?_
    exact hx1 _ _ (hj1 a.fnodes a.fdepth 31 a.fform a.fnamed o p q n _ r ((((ai.bring 2).bring 3).bring 2).bring 3) h)
   ·exact hx1 _ _ (hj1 a.fnodes a.fdepth a.fe a.fform a.fnamed o p q n _ r ((((b.bring 2).bring 3).bring 3).bring 3) h)
def P6(N1:Sl)(b9V:Int)(a3I:Int)(O5:(Option Addr))(M7:(List Int))(Z0:Int)(H:Hp)(n1:(Int×(Option Addr)×(List Int)×Int)→Hp→Prop)(K:c5→(List Int)→Hp→Prop):Prop:=
 (a3I < b9V→
 (0:Int)≤a3I∧(a3I:Int) < N1.n∧∃a:ByteArray,EltH H N1 a3I 1 [(Value.string a)]∧
 R1 (c5.mk (r6.mk O5 (Sl.mk none 0 0)) Z0) M7 H (fun b c=>
 (b=true→
 K (c5.mk (r6.mk O5 (Sl.mk none 0 0)) Z0) M7 c)∧
 (b=false→
 W1 (c5.mk (r6.mk O5 (Sl.mk none 0 0)) Z0) M7 a c (fun g i d e f=>
 n1 ((IntKind.wrap .i64 (a3I+1)),d.A9.faddr,e,d.fdeep) f))))∧
 (¬(a3I < b9V)→
 K (c5.mk (r6.mk O5 (Sl.mk none 0 0)) Z0) M7 H)
def a0N(x0:c5)(a:(List Int))(x1:Sl)(H:Hp)(K:c5→(List Int)→Hp→Prop):Prop:=
 TL ((0,x0.A9.faddr,a,x0.fdeep):Int×(Option Addr)×(List Int)×Int) H fun(s:Int×(Option Addr)×(List Int)×Int) H n1=>P6 x1 (x1.n:Int) s.1 s.2.1 s.2.2.1 s.2.2.2 H n1 K
theorem a5y(x0 d x1){H K}(h:a0N x0 d x1 H K):m9 x0 d x1 H K:=by
 intro g0 k m o
 refine Ct.of fun w0 w ps0 H0 R E I hR=>b8w ?_
 unfold a0N at h
 unfold F23
 refine a7 (b4k _ _ _) ?_
 obtain ⟨e,c,p,q⟩:=h
 refine a1B (J:=fun n l w=>∃(s:Int×(Option Addr)×(List Int)×Int)(H:Hp)(a2v:Sl)(a2w:Frag),n=c s∧l=(match s with | (a3I,O5,M7,Z0)=>[(vi a3I)])∧(match s with | (a3I,O5,M7,Z0)=>RowL 5 1 k9 a2v M7 a2w)∧(match s with | (a3I,O5,M7,Z0)=>Inv w0 ps0 H0 H [bx g0 44 [(adv g0 O5),(vs a2v),(vi Z0)],a2w] w)∧e s H) ⟨_,(0,x0.A9.faddr,d,x0.fdeep),H,k,m,rfl,rfl,o,((I.bring 1).bring 1),p⟩ ?_
 rintro ah ai w next1 ⟨⟨a3I,O5,M7,Z0⟩,H,a2v,a2w,rfl,f,a4p,I,r⟩ hn1
 dsimp only at f I a4p
 simp only [List.map_cons,List.map_nil,List.cons.injEq,and_true] at f
 have e8:=f
 simp only [e8]
 obtain ⟨n1,hm1,h⟩:∃n1:(Int×(Option Addr)×(List Int)×Int)→Hp→Prop,(∀s' H',n1 s' H'→e s' H'∧c s' < c (a3I,O5,M7,Z0))∧P6 x1 (x1.n:Int) a3I O5 M7 Z0 H n1 K:=⟨_,fun _ _ h=>h,q (a3I,O5,M7,Z0) H (fun s' H'=>e s' H'∧c s' < c (a3I,O5,M7,Z0)) r (fun _ _ a b=>⟨a,b⟩)⟩
 unfold b4w
 unfold P6 at h
 refine a7 pLs ?_
 refine c8 h (fun _ h=>?_) (fun _ h=>?_)
 ·obtain ⟨t,u,y,g,h⟩:=h
  obtain ⟨aj,ak,z,g⟩:=g
  refine a7 (b0N z _ _ _ _ t u) (b9 (ld1 (v:=(Value.string y)) Tryz.isAgg9 (I.atH g)) ?_)
  refine d3 Tryz.call12 (h g0 a2v a2w a4p) ((I.bring 1).bring 1) ?_
  rintro _ aa _ al i _ _ ⟨am,rfl,rfl,h⟩
  refine g6 h (fun _ h=>?_) (fun _ h=>?_)
  ·exact hR _ aa _ _ ((i.bring 1).bring 1) ⟨(c5.mk (r6.mk O5 (Sl.mk none 0 0)) Z0),M7,a2v,a2w,rfl,rfl,a4p,h⟩
  ·refine a7 (g7 _) (a7 a5o ?_)
   refine d3 Tryz.call47 (h g0 a2v a2w a4p) ((i.bring 1).bring 1) ?_
   rintro _ ab _ an ac _ _ ⟨ao,ap,j,ad,ae,af,rfl,rfl,ag,h⟩
   refine a7 pAd ?_
   exact hn1 _ _ _ (hm1 _ _ h).2 ⟨((IntKind.wrap .i64 (a3I+1)),j.A9.faddr,ad,j.fdeep),ab,ae,af,rfl,rfl,ag,((ac.bring 1).bring 1),(hm1 _ _ h).1⟩
 ·exact hR _ H _ _ ((I.bring 1).bring 1) ⟨(c5.mk (r6.mk O5 (Sl.mk none 0 0)) Z0),M7,a2v,a2w,rfl,rfl,a4p,h⟩
def a3y(x0:Int)(H:Hp)(K:ByteArray→Hp→Prop):Prop:=
 (0:Int)≤IntKind.wrap .i64 (x0-6)∧(IntKind.wrap .i64 (x0-6):Int) < 5∧
 K (([⟨#[43]⟩,⟨#[45]⟩,⟨#[42]⟩,⟨#[47]⟩,⟨#[37]⟩]:List ByteArray).getD (IntKind.wrap .i64 (x0-6):Int).toNat ⟨#[]⟩) H
theorem a6n(x0){H K}(h:a3y x0 H K):a1r x0 H K:=by
 refine Ct.of fun w0 w ps0 H0 R E I hR=>b8L ?_
 unfold a3y at h
 unfold F40
 refine a7 (a4e _ _ _ _ _) (a7 pSu ?_)
 obtain ⟨a,b,h⟩:=h
 refine a7 (b3q _ _ _ _ _ _ _ a b) ?_
 exact hR _ H _ _ I ⟨(([⟨#[43]⟩,⟨#[45]⟩,⟨#[42]⟩,⟨#[47]⟩,⟨#[37]⟩]:List ByteArray).getD (IntKind.wrap .i64 (x0-6):Int).toNat ⟨#[]⟩),rfl,rfl,h⟩
def a2I(x0:d8)(H:Hp)(K:ByteArray→Int→Hp→Prop):Prop:=
 a2Q x0 H (fun a b=>
 (¬(a=0)→
 K ⟨#[]⟩ a b)∧
 (a=0→
 u4 (c5.mk (r6.mk none (Sl.mk none 0 0)) 0) [] x0 b (fun c d e=>
 a0V (f2 c) d e (fun f i j g=>
 K f 0 g))))
theorem a7E(x0){H K}(h:a2I x0 H K):a4F x0 H K:=by
 refine Ct.of fun w0 w ps0 H0 R E I hR=>c0t ?_
 unfold a2I at h
 unfold F7
 refine y7 I (cs:=(c7 x0)) rfl fun p q a r=>?_
 refine b9 (lW Tryz.isAgg36 Tryz.sizeOf36 rfl a) ?_
 refine d3 Tryz.call18 h a ?_
 rintro _ f _ s b _ _ ⟨g,rfl,rfl,h⟩
 refine a7 pNe ?_
 refine a4H h (fun _ h=>?_) (fun _ h=>?_)
 ·exact hR _ f _ _ b.drop ⟨⟨#[]⟩,g,rfl,rfl,h⟩
 ·refine a7 (a9V) ?_
  refine y7 b (cs:=[(Value.pointer none),(nS),(vi 0)]) rfl fun c t d u=>?_
  refine b9 (lW Tryz.isAgg36 Tryz.sizeOf36 rfl (d.bring 1)) ?_
  refine d3 Tryz.call19 (h c (Sl.mk none 0 0) ([]) (RowL.nil (e:=5) a6Z a7a)) (d.nil.bring 1) ?_
  rintro _ _ _ v i _ _ ⟨y,z,j,k,rfl,rfl,l,h⟩
  refine a7 (g7 _) (a7 a5o ?_)
  refine d3 Tryz.call13 (h c j k l) ((i.bring 1).bring 1) ?_
  rintro _ m _ aa n _ _ ⟨o,ab,ac,ad,ae,rfl,rfl,af,h⟩
  exact hR _ m _ _ n.drop.drop.drop ⟨o,0,rfl,rfl,h⟩
def a0O(H:Hp)(K:Bool→Hp→Prop):Prop:=
 ∀(c:Sl)(a:Hp),Hle H a→SlH a 4 c7 c [(d8.mk 1 2 ⟨#[]⟩ (Sl.mk none 0 0)),(d8.mk 1 3 ⟨#[]⟩ (Sl.mk none 0 0))]→NewS H a 36 4 c→
 ∀(d:Sl)(b:Hp),Hle a b→SlH b 4 c7 d [(d8.mk 1 1 ⟨#[]⟩ (Sl.mk none 0 0)),(d8.mk 7 0 ⟨#[]⟩ c)]→NewS a b 36 4 d→
 a4F (d8.mk 7 0 ⟨#[]⟩ d) b (fun e f g=>
 K ((decide (f=0))&&(decide (e=⟨#[49,32,45,32,40,50,32,45,32,51,41]⟩))) g)
theorem a5z{H K}(h:a0O H K):a0A H K:=by
 refine Ct.of fun w0 w ps0 H0 R E I hR=>c0q ?_
 unfold a0O at h
 unfold F4
 refine a7 (a5c _ _) (a7 (a5c _ _) (a7 (a5c _ _) ?_))
 refine W0 (e:=36) (c:=c7) (xs:=[(d8.mk 1 2 ⟨#[]⟩ (Sl.mk none 0 0)),(d8.mk 1 3 ⟨#[]⟩ (Sl.mk none 0 0))]) I (b2R _ _ _ _ _ _ _ _ _ _ _ _) rfl rfl a7y a7z (nb rfl) fun b ab ac i j ad=>?_
 refine a7 (a7A _ _ _ _) ?_
 obtain ⟨k,l,m,n,o⟩:=Inv.freezeN j i (by decide)
 replace h:=h b k m n o
 refine W0 (e:=36) (c:=c7) (xs:=[(d8.mk 1 1 ⟨#[]⟩ (Sl.mk none 0 0)),(d8.mk 7 0 ⟨#[]⟩ b)]) l (b2R _ _ _ _ _ _ _ _ _ _ _ _) rfl rfl a7y a7z (nb rfl) fun p ae af q r ag=>?_
 refine a7 (a7A _ _ _ _) ?_
 obtain ⟨s,t,u,v,y⟩:=Inv.freezeN r q (by decide)
 replace h:=h p s u v y
 refine d3 Tryz.call7 h t ?_
 rintro _ z _ ah aa _ _ ⟨d,f,rfl,rfl,h⟩
 refine a7 (v8 _ _ (Value.string d) rfl) (a7 (v8 _ _ (vi f) rfl) (a7 pEq ?_))
 simp only [o6]
 refine a7 (Pu.g fun a=>by simp only [d9 a];with_reducible exact (E9 _ _ _ _ _)) ?_
 refine a7 (o7 _ _) ?_
 exact hR _ z _ _ aa ⟨((decide (f=0))&&(decide (d=⟨#[49,32,45,32,40,50,32,45,32,51,41]⟩))),rfl,rfl,h⟩
def a3b(x0:f9)(H:Hp)(K:Int→Hp→Prop):Prop:=
 (x0.b8=6→
 K 1 H)∧
 (¬(x0.b8=6)→
 (x0.b8=5→
 K 2 H)∧
 (¬(x0.b8=5)→
 K 3 H))
theorem a6a(x0){H K}(h:a3b x0 H K):G2 x0 H K:=by
 refine Ct.of fun w0 w ps0 H0 R E I hR=>b9c ?_
 unfold a3b at h
 unfold F59
 refine y7 I (cs:=(c9 x0)) rfl fun b c a d=>?_
 refine a7 Z2 (b9 (l1 Tryz.isAgg3 a rfl) (a7 pEq ?_))
 refine c8 h (fun _ h=>?_) (fun _ h=>?_)
 ·exact hR _ H _ _ a.drop ⟨1,rfl,rfl,h⟩
 ·refine a7 pEq ?_
  refine c8 h (fun _ h=>?_) (fun _ h=>?_)
  ·exact hR _ H _ _ a.drop ⟨2,rfl,rfl,h⟩
  ·exact hR _ H _ _ a.drop ⟨3,rfl,rfl,h⟩
def Q4(a7N:Int)(b9W:Int)(a2K:Int)(H:Hp)(K:Int→Int→Bool→Hp→Prop):Prop:=
 ((((decide (a2K < b9W))||(decide (1114111 < a2K)))||((decide (55296≤a2K))&&(decide (a2K < 57344))))=true→
 K 65533 1 false H)∧
 ((((decide (a2K < b9W))||(decide (1114111 < a2K)))||((decide (55296≤a2K))&&(decide (a2K < 57344))))=false→
 K a2K a7N true H)
def a0d(a4S:ByteArray)(a3J:Int)(b5L:Int)(c0Z:Int)(a6u:Int)(R5:Int)(H:Hp)(n3:(Int×Int)→Hp→Prop)(K:Int→Int→Bool→Hp→Prop):Prop:=
 (R5 < b5L→
 ((decide ((a4S.size:Int)≤(IntKind.wrap .i64 (a3J+R5))))=false→(0:Int)≤IntKind.wrap .i64 (a3J+R5)∧IntKind.wrap .i64 (a3J+R5) < (a4S.size:Int))∧
 (((decide ((a4S.size:Int)≤(IntKind.wrap .i64 (a3J+R5))))||(decide (((a4S.get! (IntKind.wrap .i64 (a3J+R5):Int).toNat).toNat:Int) < 128)))=false→(0:Int)≤IntKind.wrap .i64 (a3J+R5)∧IntKind.wrap .i64 (a3J+R5) < (a4S.size:Int))∧
 ((((decide ((a4S.size:Int)≤(IntKind.wrap .i64 (a3J+R5))))||(decide (((a4S.get! (IntKind.wrap .i64 (a3J+R5):Int).toNat).toNat:Int) < 128)))||(decide (192≤((a4S.get! (IntKind.wrap .i64 (a3J+R5):Int).toNat).toNat:Int))))=true→
 K 65533 1 false H)∧
 ((((decide ((a4S.size:Int)≤(IntKind.wrap .i64 (a3J+R5))))||(decide (((a4S.get! (IntKind.wrap .i64 (a3J+R5):Int).toNat).toNat:Int) < 128)))||(decide (192≤((a4S.get! (IntKind.wrap .i64 (a3J+R5):Int).toNat).toNat:Int))))=false→
 (0:Int)≤IntKind.wrap .i64 (a3J+R5)∧IntKind.wrap .i64 (a3J+R5) < (a4S.size:Int)∧
 n3 ((IntKind.wrap .i64 ((IntKind.wrap .i64 ((IntKind.wrap .i64 (64*a6u))+(IntKind.wrap .i64 ((a4S.get! (IntKind.wrap .i64 (a3J+R5):Int).toNat).toNat:Int))))-128)),(IntKind.wrap .i64 (R5+1))) H))∧
 (¬(R5 < b5L)→
 Q4 b5L c0Z a6u H K)
def D3(b3D:ByteArray)(c1a:Int)(a7S:Int)(a8M:Int)(a9d:Int)(H:Hp)(K:Int→Int→Bool→Hp→Prop):Prop:=
 TL ((a9d,1):Int×Int) H fun(s:Int×Int) H n3=>a0d b3D c1a a7S a8M s.1 s.2 H n3 K
def a1m(x0:ByteArray)(x1:Int)(H:Hp)(K:Int→Int→Bool→Hp→Prop):Prop:=
 (0:Int)≤x1∧x1 < (x0.size:Int)∧
 ((IntKind.wrap .i64 ((x0.get! (x1:Int).toNat).toNat:Int)) < 128→
 K (IntKind.wrap .i64 ((x0.get! (x1:Int).toNat).toNat:Int)) 1 true H)∧
 (¬((IntKind.wrap .i64 ((x0.get! (x1:Int).toNat).toNat:Int)) < 128)→
 (((decide (194≤(IntKind.wrap .i64 ((x0.get! (x1:Int).toNat).toNat:Int))))&&(decide ((IntKind.wrap .i64 ((x0.get! (x1:Int).toNat).toNat:Int)) < 224)))=true→
 D3 x0 x1 2 128 (IntKind.wrap .i64 ((IntKind.wrap .i64 ((x0.get! (x1:Int).toNat).toNat:Int))-192)) H K)∧
 (((decide (194≤(IntKind.wrap .i64 ((x0.get! (x1:Int).toNat).toNat:Int))))&&(decide ((IntKind.wrap .i64 ((x0.get! (x1:Int).toNat).toNat:Int)) < 224)))=false→
 (((decide (224≤(IntKind.wrap .i64 ((x0.get! (x1:Int).toNat).toNat:Int))))&&(decide ((IntKind.wrap .i64 ((x0.get! (x1:Int).toNat).toNat:Int)) < 240)))=true→
 D3 x0 x1 3 2048 (IntKind.wrap .i64 ((IntKind.wrap .i64 ((x0.get! (x1:Int).toNat).toNat:Int))-224)) H K)∧
 (((decide (224≤(IntKind.wrap .i64 ((x0.get! (x1:Int).toNat).toNat:Int))))&&(decide ((IntKind.wrap .i64 ((x0.get! (x1:Int).toNat).toNat:Int)) < 240)))=false→
 (((decide (240≤(IntKind.wrap .i64 ((x0.get! (x1:Int).toNat).toNat:Int))))&&(decide ((IntKind.wrap .i64 ((x0.get! (x1:Int).toNat).toNat:Int)) < 245)))=true→
 D3 x0 x1 4 65536 (IntKind.wrap .i64 ((IntKind.wrap .i64 ((x0.get! (x1:Int).toNat).toNat:Int))-240)) H K)∧
 (((decide (240≤(IntKind.wrap .i64 ((x0.get! (x1:Int).toNat).toNat:Int))))&&(decide ((IntKind.wrap .i64 ((x0.get! (x1:Int).toNat).toNat:Int)) < 245)))=false→
 K 65533 1 false H))))
theorem a6b(x0 x1){H K}(h:a1m x0 x1 H K):a0X x0 x1 H K:=by
 refine Ct.of fun w0 w ps0 H0 R E I hR=>b9o ?_
 unfold a1m at h
 unfold F78
 obtain ⟨i,j,h⟩:=h
 refine a7 (a6I _ _ _ i j) (a7 (a7L _ _) ?_)
 have hj1:∀(a7S:Int)(a8M:Int)(a9d:Int) H w (_:Inv w0 ps0 H0 H [] w) (_:D3 x0 x1 a7S a8M a9d H K),b1T (Value.string x0) (vi x1) (vi a7S) (vi a8M) (vi a9d) w R E:=by
  intro a7S a8M a9d H w I h
  unfold b1T
  intro _
  unfold D3 at h
  have hj2:∀(a2K:Int) H w (_:Inv w0 ps0 H0 H [] w) (_:Q4 a7S a8M a2K H K),b1S (vi a7S) (vi a8M) (vi a2K) w R E:=by
   intro a2K H w I h
   unfold b1S
   intro _
   unfold Q4 at h
   refine a7 pLs ?_
   simp only [o6]
   refine a7 (Pu.g fun a=>by simp only [d9 a];with_reducible exact pGt) ?_
   refine a7 (K7 _ _) ?_
   simp only [o6]
   refine a7 (Pu.g fun a=>by simp only [d9 a];with_reducible exact pGe) ?_
   simp only [a3j,a6G]
   refine a7 (Pu.e (a1C _ _ _) (Pu.g fun hb=>by obtain ⟨a,b⟩:=a3i hb;simp only [d9 hb];with_reducible exact pLs)) ?_
   refine a7 (Pu.g fun a=>by simp only [d9 a,a5H a];with_reducible exact (o7 _ _)) ?_
   refine a7 (K7 _ _) ?_
   refine g6 h (fun _ h=>?_) (fun _ h=>?_)
   ·exact hR _ H _ _ I ⟨65533,1,false,rfl,rfl,h⟩
   ·exact hR _ H _ _ I ⟨a2K,a7S,true,rfl,rfl,h⟩
  refine k8 fun j2 hx2=>?_
  refine B2 (σ:=Int×Int) (fun (a6u,R5)=>[(vi a6u),(vi R5)]) (fun (a6u,R5)=>[]) h rfl I ?_
  rintro ⟨a6u,R5⟩ H m w next3 n3 f I h hn3
  dsimp only at f I h
  simp only [List.map_cons,List.map_nil,List.cons.injEq,and_true] at f
  obtain ⟨e10,e11⟩:=f
  simp only [e10,e11]
  unfold b4V
  unfold a0d at h
  refine a7 pLs ?_
  refine c8 h (fun _ h=>?_) (fun _ h=>?_)
  ·refine a7 pAd (a7 (a2P _) (a7 pGe ?_))
   simp only [o6]
   refine a7 (Pu.g fun a=>by simp only [d9 a];with_reducible exact pAd) ?_
   obtain ⟨c,h⟩:=h
   refine a7 (Pu.g fun hb=>by have a:=hb;simp only [d9 a];with_reducible exact (a6I _ _ _ (c hb).1 (c hb).2)) ?_
   refine a7 (Pu.g fun a=>by simp only [d9 a];with_reducible exact pLs) ?_
   refine a7 (K7 _ _) ?_
   simp only [o6]
   refine a7 (Pu.g fun a=>by simp only [d9 a];with_reducible exact pAd) ?_
   obtain ⟨d,h⟩:=h
   refine a7 (Pu.g fun hb=>by have a:=hb;simp only [d9 a];with_reducible exact (a6I _ _ _ (d hb).1 (d hb).2)) ?_
   refine a7 (Pu.g fun a=>by simp only [d9 a];with_reducible exact pGe) ?_
   refine a7 (K7 _ _) ?_
   refine g6 h (fun _ h=>?_) (fun _ h=>?_)
   ·exact hR _ H _ _ I ⟨65533,1,false,rfl,rfl,h⟩
   ·refine a7 pMu (a7 pAd ?_)
    obtain ⟨k,l,h⟩:=h
    refine a7 (a6I _ _ _ k l) (a7 (a7L _ _) (a7 pAd (a7 pSu (a7 pAd ?_))))
    exact hn3 ((IntKind.wrap .i64 ((IntKind.wrap .i64 ((IntKind.wrap .i64 (64*a6u))+(IntKind.wrap .i64 ((x0.get! (IntKind.wrap .i64 (x1+R5):Int).toNat).toNat:Int))))-128)),(IntKind.wrap .i64 (R5+1))) _ _ h I
  ·exact hx2 _ _ (hj2 a6u H _ I h)
 refine k8 fun j1 hx1=>?_
 refine a7 pLs ?_
 refine c8 h (fun _ h=>?_) (fun _ h=>?_)
 ·exact hR _ H _ _ I ⟨(IntKind.wrap .i64 ((x0.get! (x1:Int).toNat).toNat:Int)),1,true,rfl,rfl,h⟩
 ·refine a7 pGe ?_
  simp only [o6]
  refine a7 (Pu.g fun a=>by simp only [d9 a];with_reducible exact pLs) ?_
  refine a7 (o7 _ _) ?_
  refine g6 h (fun _ h=>?_) (fun _ h=>?_)
  ·refine a7 pSu ?_
   exact hx1 _ _ (hj1 2 128 (IntKind.wrap .i64 ((IntKind.wrap .i64 ((x0.get! (x1:Int).toNat).toNat:Int))-192)) H _ I h)
  ·refine a7 pGe ?_
   simp only [o6]
   refine a7 (Pu.g fun a=>by simp only [d9 a];with_reducible exact pLs) ?_
   refine a7 (o7 _ _) ?_
   refine g6 h (fun _ h=>?_) (fun _ h=>?_)
   ·refine a7 pSu ?_
    exact hx1 _ _ (hj1 3 2048 (IntKind.wrap .i64 ((IntKind.wrap .i64 ((x0.get! (x1:Int).toNat).toNat:Int))-224)) H _ I h)
   ·refine a7 pGe ?_
    simp only [o6]
    refine a7 (Pu.g fun a=>by simp only [d9 a];with_reducible exact pLs) ?_
    refine a7 (o7 _ _) ?_
    refine g6 h (fun _ h=>?_) (fun _ h=>?_)
    ·refine a7 pSu ?_
     exact hx1 _ _ (hj1 4 65536 (IntKind.wrap .i64 ((IntKind.wrap .i64 ((x0.get! (x1:Int).toNat).toNat:Int))-240)) H _ I h)
    ·exact hR _ H _ _ I ⟨65533,1,false,rfl,rfl,h⟩
def T2(a:d8)(a6c:Int)(O1:a8)(H:Hp)(n2:(Int×a8)→Hp→Prop)(K:a8→Hp→Prop):Prop:=
 (((decide (a6c < (a.r5.n:Int)))&&O1.fok)=true→
 (0:Int)≤a6c∧(a6c:Int) < a.r5.n∧∃b:d8,EltH H a.r5 a6c 4 (c7 b)∧
 J9 O1 b H (fun c d=>
 n2 ((IntKind.wrap .i64 (a6c+1)),c) d))∧
 (((decide (a6c < (a.r5.n:Int)))&&O1.fok)=false→
 K O1 H)
def u2(i7:Int)(a:d8)(B8:a8)(H:Hp)(K:a8→Hp→Prop):Prop:=
 J8 B8 a.f4 ((decide (a.b8=2))||(decide (a.b8=4))) H (fun b c=>
 TL ((0,(a8.mk ((b.fok&&(decide ((a.r5.n:Int)=i7)))&&((decide (a.a0w=0))||((decide (a.b8=1))&&(decide (0 < a.a0w))))) b.fnames)):Int×a8) c fun(s:Int×a8) H n2=>T2 a s.1 s.2 H n2 K)
def q7(b3B:Int)(a7k:Bool)(a:d8)(b6F:a8)(H:Hp)(K:a8→Hp→Prop):Prop:=
 (a7k=true→
 u2 2 a b6F H K)∧
 (a7k=false→
 u2 b3B a (a8.mk false b6F.fnames) H K)
def C6(a3E:Int)(a4T:Int)(a8k:Bool)(a:d8)(a3O:a8)(H:Hp)(K:a8→Hp→Prop):Prop:=
 (a8k=true→
 u2 1 a a3O H K)∧
 (a8k=false→
 (a4T=6→
 q7 a3E (decide (a4T=6)) a a3O H K)∧
 (¬(a4T=6)→
 (a4T=7→
 q7 a3E (decide (a4T=7)) a a3O H K)∧
 (¬(a4T=7)→
 (a4T=8→
 q7 a3E (decide (a4T=8)) a a3O H K)∧
 (¬(a4T=8)→
 (a4T=9→
 q7 a3E (decide (a4T=9)) a a3O H K)∧
 (¬(a4T=9)→
 q7 a3E (decide (a4T=10)) a a3O H K)))))
def A4(b5M:Int)(a9F:Int)(a8l:Bool)(a:d8)(P1:a8)(H:Hp)(K:a8→Hp→Prop):Prop:=
 (a8l=true→
 u2 b5M a P1 H K)∧
 (a8l=false→
 (a9F=4→
 C6 b5M a9F (decide (a9F=4)) a P1 H K)∧
 (¬(a9F=4)→
 C6 b5M a9F (decide (a9F=5)) a P1 H K))
def X2(x0:a8)(x1:d8)(H:Hp)(K:a8→Hp→Prop):Prop:=
 (x1.b8=1→
 A4 0 x1.b8 (decide (x1.b8=1)) x1 x0 H K)∧
 (¬(x1.b8=1)→
 (x1.b8=2→
 A4 0 x1.b8 (decide (x1.b8=2)) x1 x0 H K)∧
 (¬(x1.b8=2)→
 A4 0 x1.b8 (decide (x1.b8=3)) x1 x0 H K))
theorem a4C(x0 x1){H K}(h:X2 x0 x1 H K):J9 x0 x1 H K:=by
 intro g0
 refine Ct.of fun w0 w ps0 H0 R E I hR=>b8Y ?_
 unfold X2 at h
 unfold F55
 refine y7 I (cs:=(c7 x1)) rfl fun i u j v=>?_
 have hj1:∀(i7:Int)(B8:a8) H w (_:Inv w0 ps0 H0 H [bx i 36 (c7 x1),bx g0 79 (f8 B8)] w) (_:u2 i7 x1 B8 H K),b1E (Value.pointer (some ⟨g0,0,none⟩)) (Value.pointer (some ⟨i,0,none⟩)) (vi i7) w R E:=by
  intro i7 B8 H w I h
  unfold b1E
  intro _
  unfold u2 at h
  refine a7 a2j (b9 (l1 Tryz.isAgg9 I rfl) (a7 L8 (b9 (l1 Tryz.isAgg3 I rfl) (a7 pEq ?_))))
  refine a7 (Pu.g fun a=>by with_reducible exact L8) ?_
  refine b9 (Ld.g fun a=>by simp only [d9 a];exact (l1 Tryz.isAgg3 I rfl)) ?_
  refine a7 (Pu.g fun a=>by simp only [d9 a];with_reducible exact pEq) ?_
  refine a7 (K7 _ _) ?_
  refine d3 Tryz.call31 (h g0) (I.bring 1) ?_
  rintro _ _ _ y f _ _ ⟨z,rfl,rfl,h⟩
  refine a7 (g7 _) (a7 B7 (b9 (l1 Tryz.isAgg4 f rfl) ?_))
  refine a7 (Pu.g fun a=>by with_reducible exact G3) ?_
  refine b9 (Ld.g fun a=>by simp only [d9 a];exact (l1 Tryz.isAgg34 (f.bring 1) rfl)) ?_
  refine a7 (Pu.g fun a=>by simp only [d9 a];with_reducible exact (T6 _ _ _)) ?_
  simp only [o6]
  refine a7 (Pu.g fun a=>by simp only [d9 a];with_reducible exact pEq) ?_
  refine a7 (o7 _ _) ?_
  refine a7 (Pu.g fun a=>by with_reducible exact a3q) ?_
  refine b9 (Ld.g fun a=>by simp only [d9 a];exact (l1 Tryz.isAgg2 (f.bring 1) rfl)) ?_
  refine a7 (Pu.g fun a=>by simp only [d9 a];with_reducible exact pEq) ?_
  simp only [o6,a3j,b4g]
  refine a7 (Pu.e (a0e _ _ _) (Pu.g fun hb=>by obtain ⟨a,b⟩:=a1H hb;with_reducible exact L8)) ?_
  refine b9 (Ld.e (a0e _ _ _) (Ld.g fun hb=>by obtain ⟨a,b⟩:=a1H hb;simp only [d9 hb];exact (l1 Tryz.isAgg3 (f.bring 1) rfl))) ?_
  refine a7 (Pu.e (a0e _ _ _) (Pu.g fun hb=>by obtain ⟨a,b⟩:=a1H hb;simp only [d9 hb];with_reducible exact pEq)) ?_
  simp only [a3j]
  refine a7 (Pu.e (a9q _ _ _) (Pu.g fun hb=>by obtain ⟨d,c⟩:=b3l hb;obtain ⟨a,b⟩:=a1H d;with_reducible exact a3q)) ?_
  refine b9 (Ld.e (a9q _ _ _) (Ld.g fun hb=>by obtain ⟨d,c⟩:=b3l hb;obtain ⟨a,b⟩:=a1H d;simp only [d9 hb];exact (l1 Tryz.isAgg2 (f.bring 1) rfl))) ?_
  refine a7 (Pu.e (a9q _ _ _) (Pu.g fun hb=>by obtain ⟨d,c⟩:=b3l hb;obtain ⟨a,b⟩:=a1H d;simp only [d9 hb];with_reducible exact pGt)) ?_
  refine a7 (Pu.e (a0e _ _ _) (Pu.g fun hb=>by obtain ⟨a,b⟩:=a1H hb;simp only [d9 hb,b8d hb];with_reducible exact (o7 _ _))) ?_
  refine a7 (Pu.g fun a=>by simp only [d9 a,a7H a];with_reducible exact (K7 _ _)) ?_
  refine a7 (o7 _ _) (a7 (g7 _) (a7 B7 ?_))
  refine P9 f Tryz.sizeOf4 fun aa m ab=>?_
  refine B2 (σ:=Int×a8) (fun (a6c,O1)=>[(vi a6c)]) (fun (a6c,O1)=>[bx g0 79 (f8 O1),bx i 36 (c7 x1)]) h rfl ((m.bring 1).bring 1) ?_
  rintro ⟨a6c,O1⟩ H ac w next2 n2 k I h hn2
  dsimp only at k I h
  simp only [List.map_cons,List.map_nil,List.cons.injEq,and_true] at k
  have e5:=k
  simp only [e5]
  unfold b4P
  unfold T2 at h
  refine a7 G3 (b9 (l1 Tryz.isAgg34 (I.bring 1) rfl) (a7 (T6 _ _ _) (a7 pLs ?_)))
  simp only [o6]
  refine a7 (Pu.g fun a=>by simp only [d9 a];with_reducible exact (g7 _)) ?_
  refine a7 (Pu.g fun a=>by simp only [d9 a];with_reducible exact B7) ?_
  refine b9 (Ld.g fun a=>by simp only [d9 a];exact (l1 Tryz.isAgg4 I rfl)) ?_
  refine a7 (o7 _ _) ?_
  refine g6 h (fun _ h=>?_) (fun _ h=>?_)
  ·refine a7 G3 (b9 (l1 Tryz.isAgg34 (I.bring 1) rfl) ?_)
   obtain ⟨n,o,p,l,h⟩:=h
   obtain ⟨ad,ae,q,l⟩:=l
   refine a7 (B3 q _ _ _ _ n o) (b9 (ldA (vs:=(c7 p)) Tryz.isAgg36 Tryz.sizeOf36 rfl (I.atH l)) ?_)
   refine d3 Tryz.call55 (h g0) I ?_
   rintro _ _ _ af r _ _ ⟨s,rfl,rfl,h⟩
   refine a7 pAd ?_
   exact hn2 ((IntKind.wrap .i64 (a6c+1)),s) _ _ h ((r.bring 1).bring 1)
  ·exact hR _ H _ _ (I.bring 1).drop ⟨O1,rfl,rfl,h⟩
 refine k8 fun j1 hx1=>?_
 refine a7 L8 (b9 (l1 Tryz.isAgg3 j rfl) ?_)
 have hj3:∀(a8l:Bool) H w (_:Inv w0 ps0 H0 H [bx i 36 (c7 x1),bx g0 79 (f8 x0)] w) (_:A4 0 x1.b8 a8l x1 x0 H K),b1H (Value.pointer (some ⟨g0,0,none⟩)) (Value.pointer (some ⟨i,0,none⟩)) (vi 0) (vi x1.b8) (vB a8l) w j1 R E:=by
  intro a8l H w I h
  unfold b1H
  intro _
  unfold A4 at h
  refine g6 h (fun _ h=>?_) (fun _ h=>?_)
  ·exact hx1 _ _ (hj1 0 x0 H _ ((I.bring 1).bring 1) h)
  ·have hj4:∀(a8k:Bool) H w (_:Inv w0 ps0 H0 H [bx i 36 (c7 x1),bx g0 79 (f8 x0)] w) (_:C6 0 x1.b8 a8k x1 x0 H K),b1G (Value.pointer (some ⟨g0,0,none⟩)) (Value.pointer (some ⟨i,0,none⟩)) (vi 0) (vi x1.b8) (vB a8k) w j1 R E:=by
    intro a8k H w I h
    unfold b1G
    intro _
    unfold C6 at h
    refine g6 h (fun _ h=>?_) (fun _ h=>?_)
    ·exact hx1 _ _ (hj1 1 x0 H _ ((I.bring 1).bring 1) h)
    ·have hj5:∀(a7k:Bool) H w (_:Inv w0 ps0 H0 H [bx i 36 (c7 x1),bx g0 79 (f8 x0)] w) (_:q7 0 a7k x1 x0 H K),b1F (Value.pointer (some ⟨g0,0,none⟩)) (Value.pointer (some ⟨i,0,none⟩)) (vi 0) (vB a7k) w j1 R E:=by
      intro a7k H w I h
      unfold b1F
      intro _
      unfold q7 at h
      refine g6 h (fun _ h=>?_) (fun _ h=>?_)
      ·exact hx1 _ _ (hj1 2 x0 H _ ((I.bring 1).bring 1) h)
      ·refine a7 (g7 _) (a7 B7 ?_)
       refine P9 (I.bring 1) Tryz.sizeOf4 fun ag t ah=>?_
       exact hx1 _ _ (hj1 0 (a8.mk false x0.fnames) H _ (t.bring 1) h)
     refine k8 fun j5 hx5=>?_
     refine a7 pEq ?_
     refine c8 h (fun _ h=>?_) (fun _ h=>?_)
     ·exact hx5 _ _ (hj5 (decide (x1.b8=6)) H _ ((I.bring 1).bring 1) h)
     ·refine a7 pEq ?_
      refine c8 h (fun _ h=>?_) (fun _ h=>?_)
      ·exact hx5 _ _ (hj5 (decide (x1.b8=7)) H _ ((I.bring 1).bring 1) h)
      ·refine a7 pEq ?_
       refine c8 h (fun _ h=>?_) (fun _ h=>?_)
       ·exact hx5 _ _ (hj5 (decide (x1.b8=8)) H _ ((I.bring 1).bring 1) h)
       ·refine a7 pEq ?_
        refine c8 h (fun _ h=>?_) (fun _ h=>?_)
        ·exact hx5 _ _ (hj5 (decide (x1.b8=9)) H _ ((I.bring 1).bring 1) h)
        ·refine a7 pEq ?_
         exact hx5 _ _ (hj5 (decide (x1.b8=10)) H _ ((I.bring 1).bring 1) h)
   refine k8 fun j4 hx4=>?_
   refine a7 pEq ?_
   refine c8 h (fun _ h=>?_) (fun _ h=>?_)
   ·exact hx4 _ _ (hj4 (decide (x1.b8=4)) H _ ((I.bring 1).bring 1) h)
   ·refine a7 pEq ?_
    exact hx4 _ _ (hj4 (decide (x1.b8=5)) H _ ((I.bring 1).bring 1) h)
 refine k8 fun j3 hx3=>?_
 refine a7 pEq ?_
 refine c8 h (fun _ h=>?_) (fun _ h=>?_)
 ·exact hx3 _ _ (hj3 (decide (x1.b8=1)) H _ ((j.bring 1).bring 1) h)
 ·refine a7 pEq ?_
  refine c8 h (fun _ h=>?_) (fun _ h=>?_)
  ·exact hx3 _ _ (hj3 (decide (x1.b8=2)) H _ ((j.bring 1).bring 1) h)
  ·refine a7 pEq ?_
   exact hx3 _ _ (hj3 (decide (x1.b8=3)) H _ ((j.bring 1).bring 1) h)
def T3(a:f9)(a6d:Int)(a0K:a8)(H:Hp)(n4:(Int×a8)→Hp→Prop)(K:a8→Hp→Prop):Prop:=
 (((decide (a6d < (a.o0.n:Int)))&&a0K.fok)=true→
 (0:Int)≤a6d∧(a6d:Int) < a.o0.n∧∃b:f9,EltH H a.o0 a6d 4 (c9 b)∧
 N9 a0K b H (fun c d=>
 n4 ((IntKind.wrap .i64 (a6d+1)),c) d))∧
 (((decide (a6d < (a.o0.n:Int)))&&a0K.fok)=false→
 K a0K H)
def M8(P1:a8)(a:f9)(H:Hp)(K:a8→Hp→Prop):Prop:=
 TL ((0,P1):Int×a8) H fun(s:Int×a8) H n4=>T3 a s.1 s.2 H n4 K
def T4(a:f9)(a6e:Int)(N6:a8)(H:Hp)(n5:(Int×a8)→Hp→Prop)(K:a8→Hp→Prop):Prop:=
 (((decide (a6e < (a.f0.n:Int)))&&N6.fok)=true→
 (0:Int)≤a6e∧(a6e:Int) < a.f0.n∧∃b:d8,EltH H a.f0 a6e 4 (c7 b)∧
 J9 N6 b H (fun c d=>
 n5 ((IntKind.wrap .i64 (a6e+1)),c) d))∧
 (((decide (a6e < (a.f0.n:Int)))&&N6.fok)=false→
 M8 N6 a H K)
def C7(a5f:Int)(c1b:Int)(a8L:Bool)(a:f9)(Z5:a8)(H:Hp)(K:a8→Hp→Prop):Prop:=
 TL ((0,(a8.mk (((Z5.fok&&a8L)&&(decide ((a.f0.n:Int)=a5f)))&&(decide ((a.o0.n:Int)=c1b))) Z5.fnames)):Int×a8) H fun(s:Int×a8) H n5=>T4 a s.1 s.2 H n5 K
def q8(i7:Int)(N0:Int)(a:f9)(B8:a8)(H:Hp)(K:a8→Hp→Prop):Prop:=
 (a.b8=3→
 C7 i7 N0 ((decide (1≤a.fOp))&&(decide (a.fOp≤6))) a B8 H K)∧
 (¬(a.b8=3)→
 C7 i7 N0 (decide (a.fOp=0)) a B8 H K)
def C8(b9X:Int)(c1c:Int)(a8m:Bool)(a:f9)(b6G:a8)(H:Hp)(K:a8→Hp→Prop):Prop:=
 (a8m=true→
 q8 b9X 2 a b6G H K)∧
 (a8m=false→
 q8 b9X c1c a (a8.mk false b6G.fnames) H K)
def C9(b3I:Int)(b3J:Int)(a6v:Int)(a8n:Bool)(a:f9)(a9e:a8)(H:Hp)(K:a8→Hp→Prop):Prop:=
 (a8n=true→
 q8 b3I b3J a a9e H K)∧
 (a8n=false→
 (a6v=3→
 q8 2 b3J a a9e H K)∧
 (¬(a6v=3)→
 (a6v=4→
 q8 b3I 1 a a9e H K)∧
 (¬(a6v=4)→
 (a6v=5→
 C8 b3I b3J (decide (a6v=5)) a a9e H K)∧
 (¬(a6v=5)→
 C8 b3I b3J (decide (a6v=6)) a a9e H K))))
def X3(x0:a8)(x1:f9)(H:Hp)(K:a8→Hp→Prop):Prop:=
 (x1.b8=1→
 C9 0 0 x1.b8 (decide (x1.b8=1)) x1 x0 H K)∧
 (¬(x1.b8=1)→
 C9 0 0 x1.b8 (decide (x1.b8=2)) x1 x0 H K)
theorem a4D(x0 x1){H K}(h:X3 x0 x1 H K):N9 x0 x1 H K:=by
 intro g0
 refine Ct.of fun w0 w ps0 H0 R E I hR=>b8X ?_
 unfold X3 at h
 unfold F54
 refine y7 I (cs:=(c9 x1)) rfl fun b z c aa=>?_
 have hj1:∀(i7:Int)(N0:Int)(B8:a8) H w (_:Inv w0 ps0 H0 H [bx b 71 (c9 x1),bx g0 79 (f8 B8)] w) (_:q8 i7 N0 x1 B8 H K),b1B (Value.pointer (some ⟨g0,0,none⟩)) (Value.pointer (some ⟨b,0,none⟩)) (vi i7) (vi N0) w R E:=by
  intro i7 N0 B8 H w I h
  unfold b1B
  intro _
  unfold q8 at h
  refine a7 a1L (b9 (l1 Tryz.isAgg3 I rfl) (a7 pEq ?_))
  have hj2:∀(a8L:Bool) H w (_:Inv w0 ps0 H0 H [bx b 71 (c9 x1),bx g0 79 (f8 B8)] w) (_:C7 i7 N0 a8L x1 B8 H K),b1A (Value.pointer (some ⟨g0,0,none⟩)) (Value.pointer (some ⟨b,0,none⟩)) (vi i7) (vi N0) (vB a8L) w R E:=by
   intro a8L H w I h
   unfold b1A
   intro _
   unfold C7 at h
   refine a7 (g7 _) (a7 B7 (b9 (l1 Tryz.isAgg4 (I.bring 1) rfl) ?_))
   simp only [o6]
   refine a7 (o7 _ _) ?_
   refine a7 (Pu.g fun a=>by with_reducible exact U7) ?_
   refine b9 (Ld.g fun a=>by simp only [d9 a];exact (l1 Tryz.isAgg34 I rfl)) ?_
   refine a7 (Pu.g fun a=>by simp only [d9 a];with_reducible exact (T6 _ _ _)) ?_
   simp only [o6]
   refine a7 (Pu.g fun a=>by simp only [d9 a];with_reducible exact pEq) ?_
   refine a7 (o7 _ _) ?_
   refine a7 (Pu.g fun a=>by with_reducible exact K3) ?_
   refine b9 (Ld.g fun a=>by simp only [d9 a];exact (l1 Tryz.isAgg49 I rfl)) ?_
   refine a7 (Pu.g fun a=>by simp only [d9 a];with_reducible exact (a1K _ _ _)) ?_
   simp only [o6]
   refine a7 (Pu.g fun a=>by simp only [d9 a];with_reducible exact pEq) ?_
   refine a7 (o7 _ _) (a7 (g7 _) (a7 B7 ?_))
   refine P9 (I.bring 1) Tryz.sizeOf4 fun ab j ac=>?_
   have hj3:∀(P1:a8) H w (_:Inv w0 ps0 H0 H [bx g0 79 (f8 P1),bx b 71 (c9 x1)] w) (_:M8 P1 x1 H K),b1z (Value.pointer (some ⟨g0,0,none⟩)) (Value.pointer (some ⟨b,0,none⟩)) w R E:=by
    intro P1 H w I h
    unfold b1z
    intro _
    unfold M8 at h
    refine B2 (σ:=Int×a8) (fun (a6d,a0K)=>[(vi a6d)]) (fun (a6d,a0K)=>[bx g0 79 (f8 a0K),bx b 71 (c9 x1)]) h rfl ((I.bring 1).bring 1) ?_
    rintro ⟨a6d,a0K⟩ H ad w next4 n4 d I h hn4
    dsimp only at d I h
    simp only [List.map_cons,List.map_nil,List.cons.injEq,and_true] at d
    have e8:=d
    simp only [e8]
    unfold b4N
    unfold T3 at h
    refine a7 K3 (b9 (l1 Tryz.isAgg49 (I.bring 1) rfl) (a7 (a1K _ _ _) (a7 pLs ?_)))
    simp only [o6]
    refine a7 (Pu.g fun a=>by simp only [d9 a];with_reducible exact (g7 _)) ?_
    refine a7 (Pu.g fun a=>by simp only [d9 a];with_reducible exact B7) ?_
    refine b9 (Ld.g fun a=>by simp only [d9 a];exact (l1 Tryz.isAgg4 I rfl)) ?_
    refine a7 (o7 _ _) ?_
    refine g6 h (fun _ h=>?_) (fun _ h=>?_)
    ·refine a7 K3 (b9 (l1 Tryz.isAgg49 (I.bring 1) rfl) ?_)
     obtain ⟨k,l,m,e,h⟩:=h
     obtain ⟨ae,af,n,e⟩:=e
     refine a7 (G8 n _ _ _ _ k l) (b9 (ldA (vs:=(c9 m)) Tryz.isAgg71 Tryz.sizeOf71 rfl (I.atH e)) ?_)
     refine d3 Tryz.call54 (h g0) I ?_
     rintro _ _ _ ag o _ _ ⟨p,rfl,rfl,h⟩
     refine a7 pAd ?_
     exact hn4 ((IntKind.wrap .i64 (a6d+1)),p) _ _ h ((o.bring 1).bring 1)
    ·exact hR _ H _ _ (I.bring 1).drop ⟨a0K,rfl,rfl,h⟩
   refine k8 fun j3 hx3=>?_
   refine B2 (σ:=Int×a8) (fun (a6e,N6)=>[(vi a6e)]) (fun (a6e,N6)=>[bx g0 79 (f8 N6),bx b 71 (c9 x1)]) h rfl ((j.bring 1).bring 1) ?_
   rintro ⟨a6e,N6⟩ H ah w next5 n5 f I h hn5
   dsimp only at f I h
   simp only [List.map_cons,List.map_nil,List.cons.injEq,and_true] at f
   have e7:=f
   simp only [e7]
   unfold b4O
   unfold T4 at h
   refine a7 U7 (b9 (l1 Tryz.isAgg34 (I.bring 1) rfl) (a7 (T6 _ _ _) (a7 pLs ?_)))
   simp only [o6]
   refine a7 (Pu.g fun a=>by simp only [d9 a];with_reducible exact (g7 _)) ?_
   refine a7 (Pu.g fun a=>by simp only [d9 a];with_reducible exact B7) ?_
   refine b9 (Ld.g fun a=>by simp only [d9 a];exact (l1 Tryz.isAgg4 I rfl)) ?_
   refine a7 (o7 _ _) ?_
   refine g6 h (fun _ h=>?_) (fun _ h=>?_)
   ·refine a7 U7 (b9 (l1 Tryz.isAgg34 (I.bring 1) rfl) ?_)
    obtain ⟨q,r,s,i,h⟩:=h
    obtain ⟨ai,aj,t,i⟩:=i
    refine a7 (B3 t _ _ _ _ q r) (b9 (ldA (vs:=(c7 s)) Tryz.isAgg36 Tryz.sizeOf36 rfl (I.atH i)) ?_)
    refine d3 Tryz.call55 (h g0) I ?_
    rintro _ _ _ ak u _ _ ⟨v,rfl,rfl,h⟩
    refine a7 pAd ?_
    exact hn5 ((IntKind.wrap .i64 (a6e+1)),v) _ _ h ((u.bring 1).bring 1)
   ·exact hx3 _ _ (hj3 N6 H _ ((I.bring 1).bring 1) h)
  refine k8 fun j2 hx2=>?_
  refine a7 Z2 (b9 (l1 Tryz.isAgg3 I rfl) (a7 pEq ?_))
  refine c8 h (fun _ h=>?_) (fun _ h=>?_)
  ·refine a7 a1L (b9 (l1 Tryz.isAgg3 I rfl) (a7 pGe ?_))
   refine a7 (Pu.g fun a=>by with_reducible exact a1L) ?_
   refine b9 (Ld.g fun a=>by simp only [d9 a];exact (l1 Tryz.isAgg3 I rfl)) ?_
   refine a7 (Pu.g fun a=>by simp only [d9 a];with_reducible exact pLe) ?_
   refine a7 (o7 _ _) ?_
   exact hx2 _ _ (hj2 ((decide (1≤x1.fOp))&&(decide (x1.fOp≤6))) H _ ((I.bring 1).bring 1) h)
  ·exact hx2 _ _ (hj2 (decide (x1.fOp=0)) H _ ((I.bring 1).bring 1) h)
 refine k8 fun j1 hx1=>?_
 refine a7 Z2 (b9 (l1 Tryz.isAgg3 c rfl) ?_)
 have hj6:∀(a8n:Bool) H w (_:Inv w0 ps0 H0 H [bx b 71 (c9 x1),bx g0 79 (f8 x0)] w) (_:C9 0 0 x1.b8 a8n x1 x0 H K),b1D (Value.pointer (some ⟨g0,0,none⟩)) (Value.pointer (some ⟨b,0,none⟩)) (vi 0) (vi 0) (vi x1.b8) (vB a8n) w j1 R E:=by
  intro a8n H w I h
  unfold b1D
  intro _
  unfold C9 at h
  refine g6 h (fun _ h=>?_) (fun _ h=>?_)
  ·exact hx1 _ _ (hj1 0 0 x0 H _ ((I.bring 1).bring 1) h)
  ·refine a7 pEq ?_
   refine c8 h (fun _ h=>?_) (fun _ h=>?_)
   ·exact hx1 _ _ (hj1 2 0 x0 H _ ((I.bring 1).bring 1) h)
   ·refine a7 pEq ?_
    refine c8 h (fun _ h=>?_) (fun _ h=>?_)
    ·exact hx1 _ _ (hj1 0 1 x0 H _ ((I.bring 1).bring 1) h)
    ·have hj7:∀(a8m:Bool) H w (_:Inv w0 ps0 H0 H [bx b 71 (c9 x1),bx g0 79 (f8 x0)] w) (_:C8 0 0 a8m x1 x0 H K),b1C (Value.pointer (some ⟨g0,0,none⟩)) (Value.pointer (some ⟨b,0,none⟩)) (vi 0) (vi 0) (vB a8m) w j1 R E:=by
      intro a8m H w I h
      unfold b1C
      intro _
      unfold C8 at h
      refine g6 h (fun _ h=>?_) (fun _ h=>?_)
      ·exact hx1 _ _ (hj1 0 2 x0 H _ ((I.bring 1).bring 1) h)
      ·refine a7 (g7 _) (a7 B7 ?_)
       refine P9 (I.bring 1) Tryz.sizeOf4 fun al y am=>?_
       exact hx1 _ _ (hj1 0 0 (a8.mk false x0.fnames) H _ (y.bring 1) h)
     refine k8 fun j7 hx7=>?_
     refine a7 pEq ?_
     refine c8 h (fun _ h=>?_) (fun _ h=>?_)
     ·exact hx7 _ _ (hj7 (decide (x1.b8=5)) H _ ((I.bring 1).bring 1) h)
     ·refine a7 pEq ?_
      exact hx7 _ _ (hj7 (decide (x1.b8=6)) H _ ((I.bring 1).bring 1) h)
 refine k8 fun j6 hx6=>?_
 refine a7 pEq ?_
 refine c8 h (fun _ h=>?_) (fun _ h=>?_)
 ·exact hx6 _ _ (hj6 (decide (x1.b8=1)) H _ ((c.bring 1).bring 1) h)
 ·refine a7 pEq ?_
  exact hx6 _ _ (hj6 (decide (x1.b8=2)) H _ ((c.bring 1).bring 1) h)
def O3(a:b7)(b:b7)(c:l9)(H:Hp)(K:b7→Hp→Prop):Prop:=
 K a H
def X4(a:l9)(a6f:Int)(b:b7)(c:b7)(H:Hp)(n3:(Int×b7×b7)→Hp→Prop)(K:b7→Hp→Prop):Prop:=
 (((decide (a6f < (a.Z1.n:Int)))&&(decide (b.fbad=0)))=true→
 (0:Int)≤a6f∧(a6f:Int) < a.Z1.n∧∃d:i6,EltH H a.Z1 a6f 6 (d7 d)∧
 K2 b d 1 H (fun e f=>
 n3 ((IntKind.wrap .i64 (a6f+1)),e,c) f))∧
 (((decide (a6f < (a.Z1.n:Int)))&&(decide (b.fbad=0)))=false→
 O3 b c a H K)
def O4(a:b7)(b:b7)(c:l9)(H:Hp)(K:b7→Hp→Prop):Prop:=
 TL ((0,a,b):Int×b7×b7) H fun(s:Int×b7×b7) H n3=>X4 c s.1 s.2.1 s.2.2 H n3 K
def X5(b:l9)(a7T:Int)(a:b7)(c:b7)(H:Hp)(n4:(Int×b7×b7)→Hp→Prop)(K:b7→Hp→Prop):Prop:=
 (((decide (a7T < (b.G1.n:Int)))&&(decide (a.fbad=0)))=true→
 E1 a 1 H (fun f d e=>
 n4 ((IntKind.wrap .i64 (a7T+1)),d,c) e))∧
 (((decide (a7T < (b.G1.n:Int)))&&(decide (a.fbad=0)))=false→
 O4 a c b H K)
def a0s(x0:l9)(H:Hp)(K:b7→Hp→Prop):Prop:=
 TL ((0,(b7.mk 0 0 0),(b7.mk 0 0 0)):Int×b7×b7) H fun(s:Int×b7×b7) H n4=>X5 x0 s.1 s.2.1 s.2.2 H n4 K
theorem a5i(x0){H K}(h:a0s x0 H K):a0i x0 H K:=by
 refine Ct.of fun w0 w ps0 H0 R E I hR=>b8C ?_
 unfold a0s at h
 unfold F30
 refine y7 I (cs:=(o8 x0)) rfl fun d ag s ah=>?_
 refine L1 s Tryz.zeroValue76 (cs:=[(vi 0),(vi 0),(vi 0)]) rfl fun c ai t aj=>?_
 refine a7 (b4n) ?_
 refine L1 t Tryz.zeroValue76 (cs:=[(vi 0),(vi 0),(vi 0)]) rfl fun b ak u al=>?_
 refine U3 u Tryz.sizeOf76 (vs:=[(vi 0),(vi 0),(vi 0)]) fun am v an=>?_
 have hj1:∀(l:b7)(m:b7) H w (_:Inv w0 ps0 H0 H [bx b 76 (g5 l),bx c 76 (g5 m),bx d 25 (o8 x0)] w) (_:O4 l m x0 H K),b1c (Value.pointer (some ⟨d,0,none⟩)) (Value.pointer (some ⟨c,0,none⟩)) (Value.pointer (some ⟨b,0,none⟩)) w R E:=by
  intro l m H w I h
  unfold b1c
  intro _
  unfold O4 at h
  have hj2:∀(e:b7)(n:b7) H w (_:Inv w0 ps0 H0 H [bx b 76 (g5 e),bx c 76 (g5 n),bx d 25 (o8 x0)] w) (_:O3 e n x0 H K),b1b (Value.pointer (some ⟨c,0,none⟩)) (Value.pointer (some ⟨b,0,none⟩)) w R E:=by
   intro e n H w I h
   unfold b1b
   intro _
   unfold O3 at h
   refine b9 (lW Tryz.isAgg76 Tryz.sizeOf76 rfl I) ?_
   refine U3 (I.bring 1) Tryz.sizeOf76 (vs:=(g5 e)) fun ao r ap=>?_
   refine b6S Tryz.isAgg76 Tryz.sizeOf76 rfl r ?_
   exact hR _ H _ _ r.drop.drop.drop ⟨e,rfl,rfl,h⟩
  refine k8 fun j2 hx2=>?_
  refine B2 (σ:=Int×b7×b7) (fun (a6f,j,f)=>[(vi a6f)]) (fun (a6f,j,f)=>[bx b 76 (g5 j),bx c 76 (g5 f),bx d 25 (o8 x0)]) h rfl (((I.bring 2).bring 2).bring 2) ?_
  rintro ⟨a6f,j,f⟩ H aq w next3 n3 o I h hn3
  dsimp only at o I h
  simp only [List.map_cons,List.map_nil,List.cons.injEq,and_true] at o
  have e5:=o
  simp only [e5]
  unfold b4y
  unfold X4 at h
  refine a7 a2i (b9 (l1 Tryz.isAgg23 (I.bring 2) rfl) (a7 (K8 _ _ _) (a7 pLs ?_)))
  refine a7 (Pu.g fun a=>by with_reducible exact N5) ?_
  refine b9 (Ld.g fun a=>by simp only [d9 a];exact (l1 Tryz.isAgg3 I rfl)) ?_
  refine a7 (Pu.g fun a=>by simp only [d9 a];with_reducible exact pEq) ?_
  refine a7 (o7 _ _) ?_
  refine g6 h (fun _ h=>?_) (fun _ h=>?_)
  ·refine a7 a2i (b9 (l1 Tryz.isAgg23 (I.bring 2) rfl) ?_)
   obtain ⟨y,z,aa,p,h⟩:=h
   obtain ⟨ar,au,ab,p⟩:=p
   refine a7 (a1P ab _ _ _ _ y z) (b9 (ldA (vs:=(d7 aa)) Tryz.isAgg51 Tryz.sizeOf51 rfl (I.atH p)) ?_)
   refine d3 Tryz.call52 (h b) I ?_
   rintro _ _ _ av ac _ _ ⟨ad,rfl,rfl,h⟩
   refine a7 pAd ?_
   exact hn3 ((IntKind.wrap .i64 (a6f+1)),ad,f) _ _ h (((ac.bring 2).bring 2).bring 2)
  ·exact hx2 _ _ (hj2 j f H _ (((I.bring 2).bring 2).bring 2) h)
 refine k8 fun j1 hx1=>?_
 refine B2 (σ:=Int×b7×b7) (fun (a7T,k,i)=>[(vi a7T)]) (fun (a7T,k,i)=>[bx b 76 (g5 k),bx c 76 (g5 i),bx d 25 (o8 x0)]) h rfl (((v.bring 2).bring 2).bring 2) ?_
 rintro ⟨a7T,k,i⟩ H aw w next4 n4 q I h hn4
 dsimp only at q I h
 simp only [List.map_cons,List.map_nil,List.cons.injEq,and_true] at q
 have e4:=q
 simp only [e4]
 unfold b4z
 unfold X5 at h
 refine a7 a0x (b9 (l1 Tryz.isAgg22 (I.bring 2) rfl) (a7 (a4V _ _ _) (a7 pLs ?_)))
 refine a7 (Pu.g fun a=>by with_reducible exact N5) ?_
 refine b9 (Ld.g fun a=>by simp only [d9 a];exact (l1 Tryz.isAgg3 I rfl)) ?_
 refine a7 (Pu.g fun a=>by simp only [d9 a];with_reducible exact pEq) ?_
 refine a7 (o7 _ _) ?_
 refine g6 h (fun _ h=>?_) (fun _ h=>?_)
 ·refine d3 Tryz.call51 (h b) I ?_
  rintro _ _ _ ax ae _ _ ⟨ay,af,rfl,rfl,h⟩
  refine a7 pAd ?_
  exact hn4 ((IntKind.wrap .i64 (a7T+1)),af,i) _ _ h (((ae.bring 2).bring 2).bring 2)
 ·exact hx1 _ _ (hj1 k i H _ (((I.bring 2).bring 2).bring 2) h)
def Q5(K5:Int)(H:Hp)(K:Int→Hp→Prop):Prop:=
 K K5 H
def Q6(a2b:Int)(H:Hp)(K:Int→Hp→Prop):Prop:=
 Q5 (IntKind.wrap .i64 (a2b-1)) H K
def a3d(x0:Int)(H:Hp)(K:Int→Hp→Prop):Prop:=
 (x0=6→
 Q6 (IntKind.wrap .i64 (3-1)) H K)∧
 (¬(x0=6)→
 (x0=5→
 Q6 3 H K)∧
 (¬(x0=5)→
 Q5 3 H K))
theorem a6g(x0){H K}(h:a3d x0 H K):V1 x0 H K:=by
 refine Ct.of fun w0 w ps0 H0 R E I hR=>b9j ?_
 unfold a3d at h
 unfold F73
 have hj1:∀(K5:Int) H w (_:Inv w0 ps0 H0 H [] w) (_:Q5 K5 H K),b1O (vi K5) w R E:=by
  intro K5 H w I h
  unfold b1O
  intro _
  unfold Q5 at h
  exact hR _ H _ _ I ⟨K5,rfl,rfl,h⟩
 refine k8 fun j1 hx1=>?_
 have hj2:∀(a2b:Int) H w (_:Inv w0 ps0 H0 H [] w) (_:Q6 a2b H K),b1P (vi a2b) w j1 R E:=by
  intro a2b H w I h
  unfold b1P
  intro _
  unfold Q6 at h
  refine a7 pSu ?_
  exact hx1 _ _ (hj1 (IntKind.wrap .i64 (a2b-1)) H _ I h)
 refine k8 fun j2 hx2=>?_
 refine a7 pEq ?_
 refine c8 h (fun _ h=>?_) (fun _ h=>?_)
 ·refine a7 pSu ?_
  exact hx2 _ _ (hj2 (IntKind.wrap .i64 (3-1)) H _ I h)
 ·refine a7 pEq ?_
  refine c8 h (fun _ h=>?_) (fun _ h=>?_)
  ·exact hx2 _ _ (hj2 3 H _ I h)
  ·exact hx1 _ _ (hj1 3 H _ I h)
def E2(i7:Int)(N0:ByteArray)(a:f9)(V7:(Option Addr))(a1M:(List Int))(P5:Int)(H:Hp)(K:c5→(List Int)→Hp→Prop):Prop:=
 (0:Int)≤0∧(0:Int) < a.o0.n∧∃d:f9,EltH H a.o0 0 4 (c9 d)∧
 R3 (c5.mk (r6.mk V7 (Sl.mk none 0 0)) P5) a1M d i7 H (fun i j e=>
 ∀(c:Sl)(b:Hp),Hle e b→SlH b 1 j8 c [N0]→NewS e b 9 1 c→
 m9 (f2 i) j c b (fun k l f=>
 (0:Int)≤1∧(1:Int) < a.o0.n∧∃g:f9,EltH f a.o0 1 4 (c9 g)∧
 R3 (f2 k) l g (IntKind.wrap .i64 (i7+1)) f (fun m o p=>
 K (f2 m) o p)))
def a0t(x0:c5)(b:(List Int))(x1:f9)(H:Hp)(K:c5→(List Int)→Hp→Prop):Prop:=
 V1 x1.b8 H (fun g a=>
 (x1.b8=1→
 ∀(i:Sl)(c:Hp),Hle a c→SlH c 1 j8 i [⟨#[116,114,117,101]⟩]→NewS a c 9 1 i→
 m9 (f2 x0) b i c (fun t u v=>
 K (f2 t) u v))∧
 (¬(x1.b8=1)→
 (x1.b8=2→
 ∀(j:Sl)(d:Hp),Hle a d→SlH d 1 j8 j [⟨#[102,97,108,115,101]⟩]→NewS a d 9 1 j→
 m9 (f2 x0) b j d (fun y z aa=>
 K (f2 y) z aa))∧
 (¬(x1.b8=2)→
 (x1.b8=3→
 (0:Int)≤0∧(0:Int) < x1.f0.n∧∃m:d8,EltH a x1.f0 0 4 (c7 m)∧
 u4 (f2 x0) b m a (fun ab ac o=>
 (0:Int)≤IntKind.wrap .i64 (x1.fOp-1)∧(IntKind.wrap .i64 (x1.fOp-1):Int) < 6∧
 ∀(k:Sl)(e:Hp),Hle o e→SlH e 1 j8 k [⟨#[32]⟩,([⟨#[60]⟩,⟨#[60,61]⟩,⟨#[61,61]⟩,⟨#[33,61]⟩,⟨#[62]⟩,⟨#[62,61]⟩]:List ByteArray).getD (IntKind.wrap .i64 (x1.fOp-1):Int).toNat ⟨#[]⟩,⟨#[32]⟩]→NewS o e 9 1 k→
 m9 (f2 ab) ac k e (fun ad ae p=>
 (0:Int)≤1∧(1:Int) < x1.f0.n∧∃q:d8,EltH p x1.f0 1 4 (c7 q)∧
 u4 (f2 ad) ae q p (fun af ag ah=>
 K (f2 af) ag ah))))∧
 (¬(x1.b8=3)→
 (x1.b8=4→
 ∀(l:Sl)(f:Hp),Hle a f→SlH f 1 j8 l [⟨#[33]⟩]→NewS a f 9 1 l→
 m9 (f2 x0) b l f (fun ai aj r=>
 (0:Int)≤0∧(0:Int) < x1.o0.n∧∃s:f9,EltH r x1.o0 0 4 (c9 s)∧
 R3 (f2 ai) aj s g r (fun ak al am=>
 K (f2 ak) al am)))∧
 (¬(x1.b8=4)→
 (x1.b8=6→
 E2 g ⟨#[32,124,124,32]⟩ x1 x0.A9.faddr b x0.fdeep a K)∧
 (¬(x1.b8=6)→
 E2 g ⟨#[32,38,38,32]⟩ x1 x0.A9.faddr b x0.fdeep a K))))))
theorem a5j(x0 g x1){H K}(h:a0t x0 g x1 H K):H8 x0 g x1 H K:=by
 intro g0 b d f
 refine Ct.of fun w0 w ps0 H0 R E I hR=>b8T ?_
 unfold a0t at h
 unfold F50
 refine y7 I (cs:=(c9 x1)) rfl fun q em r en=>?_
 refine a7 Z2 (b9 (l1 Tryz.isAgg3 r rfl) ?_)
 refine d3 Tryz.call73 h r ?_
 rintro _ s _ eo a _ _ ⟨t,rfl,rfl,h⟩
 have hj1:∀(N0:ByteArray)(V7:(Option Addr))(P5:Int) H w (_:Inv w0 ps0 H0 H [bx q 71 (c9 x1),bx g0 44 [(adv g0 V7),(vs b),(vi P5)],d] w) (_:E2 t N0 x1 V7 g P5 H K),b1u (Value.pointer (some ⟨g0,0,none⟩)) (Value.pointer (some ⟨q,0,none⟩)) (vi t) (Value.string N0) w R E:=by
  intro N0 V7 P5 H w I h
  unfold b1u
  intro _
  unfold E2 at h
  refine a7 K3 (b9 (l1 Tryz.isAgg49 I rfl) ?_)
  obtain ⟨v,y,z,i,h⟩:=h
  obtain ⟨ep,eq,aa,i⟩:=i
  refine a7 (G8 aa _ _ _ _ v y) (b9 (ldA (vs:=(c9 z)) Tryz.isAgg71 Tryz.sizeOf71 rfl (I.atH i)) ?_)
  refine d3 Tryz.call74 (h g0 b d f) ((I.bring 2).bring 2) ?_
  rintro _ _ _ er ab _ _ ⟨es,et,ac,ad,rfl,rfl,ae,h⟩
  refine W0 (e:=9) (c:=j8) (xs:=[N0]) ab (O9 _) rfl rfl D6 D7 (nb rfl) fun af eu ev ag ah ew=>?_
  obtain ⟨ai,aj,ak,al,am⟩:=Inv.freezeN ah ag (by decide)
  replace h:=h af ai ak al am
  refine d3 Tryz.call23 (h g0 ac ad ae) ((aj.bring 1).bring 1) ?_
  rintro _ _ _ ex j _ _ ⟨ey,ez,an,ao,rfl,rfl,ap,h⟩
  refine a7 K3 (b9 (l1 Tryz.isAgg49 (j.bring 2) rfl) ?_)
  obtain ⟨aq,ar,au,k,h⟩:=h
  obtain ⟨fa,fb,av,k⟩:=k
  refine a7 (G8 av _ _ _ _ aq ar) (b9 (ldA (vs:=(c9 au)) Tryz.isAgg71 Tryz.sizeOf71 rfl (j.atH k)) (a7 pAd ?_))
  refine d3 Tryz.call74 (h g0 an ao ap) ((j.bring 1).bring 1) ?_
  rintro _ aw _ fc ax _ _ ⟨ay,az,ba,bb,rfl,rfl,bc,h⟩
  exact hR _ aw _ _ (((ax.bring 2).drop.bring 1).bring 1) ⟨(f2 ay),az,ba,bb,rfl,rfl,bc,h⟩
 refine k8 fun j1 hx1=>?_
 refine a7 Z2 (b9 (l1 Tryz.isAgg3 a rfl) (a7 pEq ?_))
 refine c8 h (fun _ h=>?_) (fun _ h=>?_)
 ·refine W0 (e:=9) (c:=j8) (xs:=[⟨#[116,114,117,101]⟩]) a (O9 _) rfl rfl D6 D7 (nb rfl) fun bd fd fe be bf ff=>?_
  obtain ⟨bg,bh,bi,bj,bk⟩:=Inv.freezeN bf be (by decide)
  replace h:=h bd bg bi bj bk
  refine d3 Tryz.call23 (h g0 b d f) ((bh.bring 2).bring 2) ?_
  rintro _ bl _ fg bm _ _ ⟨bn,bo,bp,bq,rfl,rfl,br,h⟩
  exact hR _ bl _ _ (((bm.bring 2).drop.bring 1).bring 1) ⟨(f2 bn),bo,bp,bq,rfl,rfl,br,h⟩
 ·refine a7 pEq ?_
  refine c8 h (fun _ h=>?_) (fun _ h=>?_)
  ·refine W0 (e:=9) (c:=j8) (xs:=[⟨#[102,97,108,115,101]⟩]) a (O9 _) rfl rfl D6 D7 (nb rfl) fun bs fh fi bt bu fj=>?_
   obtain ⟨bv,bw,bz,ca,cb⟩:=Inv.freezeN bu bt (by decide)
   replace h:=h bs bv bz ca cb
   refine d3 Tryz.call23 (h g0 b d f) ((bw.bring 2).bring 2) ?_
   rintro _ cc _ fk cd _ _ ⟨ce,cf,cg,ch,rfl,rfl,ci,h⟩
   exact hR _ cc _ _ (((cd.bring 2).drop.bring 1).bring 1) ⟨(f2 ce),cf,cg,ch,rfl,rfl,ci,h⟩
  ·refine a7 pEq ?_
   refine c8 h (fun _ h=>?_) (fun _ h=>?_)
   ·refine a7 U7 (b9 (l1 Tryz.isAgg34 a rfl) ?_)
    obtain ⟨cj,ck,cl,l,h⟩:=h
    obtain ⟨fl,fm,cm,l⟩:=l
    refine a7 (B3 cm _ _ _ _ cj ck) (b9 (ldA (vs:=(c7 cl)) Tryz.isAgg36 Tryz.sizeOf36 rfl (a.atH l)) ?_)
    refine d3 Tryz.call19 (h g0 b d f) ((a.bring 2).bring 2) ?_
    rintro _ _ _ fn u _ _ ⟨fo,fp,cn,co,rfl,rfl,cp,h⟩
    refine a7 (a3L _ _ _ _ _ _) (a7 a1L (b9 (l1 Tryz.isAgg3 (u.bring 2) rfl) (a7 pSu ?_)))
    obtain ⟨cq,cr,h⟩:=h
    refine a7 (b3r _ _ _ _ _ _ _ _ cq cr) ?_
    refine W0 (e:=9) (c:=j8) (xs:=[⟨#[32]⟩,([⟨#[60]⟩,⟨#[60,61]⟩,⟨#[61,61]⟩,⟨#[33,61]⟩,⟨#[62]⟩,⟨#[62,61]⟩]:List ByteArray).getD (IntKind.wrap .i64 (x1.fOp-1):Int).toNat ⟨#[]⟩,⟨#[32]⟩]) u (a9r _ _ _) rfl rfl D6 D7 (nb rfl) fun ct fq fs cu cv ft=>?_
    obtain ⟨cw,cx,cy,cz,da⟩:=Inv.freezeN cv cu (by decide)
    replace h:=h ct cw cy cz da
    refine d3 Tryz.call23 (h g0 cn co cp) ((cx.bring 1).bring 1) ?_
    rintro _ _ _ fu m _ _ ⟨fv,fw,db,dc,rfl,rfl,dd,h⟩
    refine a7 U7 (b9 (l1 Tryz.isAgg34 (m.bring 2) rfl) ?_)
    obtain ⟨de,df,dg,n,h⟩:=h
    obtain ⟨fx,fy,dh,n⟩:=n
    refine a7 (B3 dh _ _ _ _ de df) (b9 (ldA (vs:=(c7 dg)) Tryz.isAgg36 Tryz.sizeOf36 rfl (m.atH n)) ?_)
    refine d3 Tryz.call19 (h g0 db dc dd) ((m.bring 1).bring 1) ?_
    rintro _ di _ fz dj _ _ ⟨dk,dl,dm,dn,rfl,rfl,dp,h⟩
    exact hR _ di _ _ (((dj.bring 2).drop.bring 1).bring 1) ⟨(f2 dk),dl,dm,dn,rfl,rfl,dp,h⟩
   ·refine a7 pEq ?_
    refine c8 h (fun _ h=>?_) (fun _ h=>?_)
    ·refine W0 (e:=9) (c:=j8) (xs:=[⟨#[33]⟩]) a (O9 _) rfl rfl D6 D7 (nb rfl) fun dq ga gb dr ds gc=>?_
     obtain ⟨dt,du,dv,dw,dx⟩:=Inv.freezeN ds dr (by decide)
     replace h:=h dq dt dv dw dx
     refine d3 Tryz.call23 (h g0 b d f) ((du.bring 2).bring 2) ?_
     rintro _ _ _ gd o _ _ ⟨ge,gf,dy,dz,rfl,rfl,ea,h⟩
     refine a7 K3 (b9 (l1 Tryz.isAgg49 (o.bring 2) rfl) ?_)
     obtain ⟨eb,ec,ed,p,h⟩:=h
     obtain ⟨gg,gh,ee,p⟩:=p
     refine a7 (G8 ee _ _ _ _ eb ec) (b9 (ldA (vs:=(c9 ed)) Tryz.isAgg71 Tryz.sizeOf71 rfl (o.atH p)) ?_)
     refine d3 Tryz.call74 (h g0 dy dz ea) ((o.bring 1).bring 1) ?_
     rintro _ ef _ gi eg _ _ ⟨eh,ei,ej,ek,rfl,rfl,el,h⟩
     exact hR _ ef _ _ (((eg.bring 2).drop.bring 1).bring 1) ⟨(f2 eh),ei,ej,ek,rfl,rfl,el,h⟩
    ·refine a7 pEq ?_
     refine c8 h (fun _ h=>?_) (fun _ h=>?_)
     ·exact hx1 _ _ (hj1 ⟨#[32,124,124,32]⟩ x0.A9.faddr x0.fdeep s _ (((a.bring 2).bring 2).bring 2) h)
     ·exact hx1 _ _ (hj1 ⟨#[32,38,38,32]⟩ x0.A9.faddr x0.fdeep s _ (((a.bring 2).bring 2).bring 2) h)
def a2x(x0:d8)(H:Hp)(K:c6→Hp→Prop):Prop:=
 K (c6.v1 (B6.mk x0)) H
theorem a7s(x0){H K}(h:a2x x0 H K):a4h x0 H K:=by
 refine Ct.of fun w0 w ps0 H0 R E I hR=>b7g ?_
 unfold a2x at h
 unfold b9F
 refine y7 I (cs:=(c7 x0)) rfl fun b c a d=>?_
 refine b9 (lW Tryz.isAgg36 Tryz.sizeOf36 rfl a) (a7 (a8z _ _ _ _ _ _) (a7 (a5I (B6.mk x0)) ?_))
 exact hR _ H _ _ a.drop ⟨(c6.v1 (B6.mk x0)),rfl,rfl,h⟩
end Go.Proofs.YtnhdnncbjddmjaaGreatDoor
