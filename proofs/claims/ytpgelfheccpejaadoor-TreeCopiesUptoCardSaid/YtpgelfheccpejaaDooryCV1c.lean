/- Typed formulas of the program's functions, and the theorems that the contracts follow from them; printed by lift.py off the code. -/
import Derived.Test.YtpgelfheccpejaaDooryCV1
namespace Go.Proofs.YtpgelfheccpejaaDoor
open Go.RowKit
set_option maxRecDepth 100000
set_option maxHeartbeats 2000000
def y9(J1:(List c8))(H:Hp)(K:Sl→Hp→Prop):Prop:=
 ∀(s6:Sl)(a:Hp),Hle H a→SlH a 1 o0 s6 J1→NewS H a 91 1 s6→
 K s6 a
def z2(U3:Sl)(a1B:Int)(i5:(List c8))(i4:Int)(H:Hp)(n2:((List c8)×Int)→Hp→Prop)(K:Sl→Hp→Prop):Prop:=
 (i4 < a1B→
 (0:Int)≤i4∧(i4:Int) < U3.n∧∃a:s7,EltH H U3 i4 2 (j8 a)∧
 a4q a H (fun b c=>
 (i5.length+([b]:List c8).length)*17≤140737488355328∧
 n2 ((i5++[b]),(IntKind.wrap .i64 (i4+1))) c))∧
 (¬(i4 < a1B)→
 y9 i5 H K)
def E3(x0:Sl)(H:Hp)(K:Sl→Hp→Prop):Prop:=
 TL (([],0):(List c8)×Int) H fun(s:(List c8)×Int) H n2=>z2 x0 (x0.n:Int) s.1 s.2 H n2 K
theorem a0v(x0){H K}(h:E3 x0 H K):E1 x0 H K:=by
 refine Ct.of fun w0 w ps0 H0 R E I hR=>b8S ?_
 unfold E3 at h
 unfold F50
 have hj1:∀(J1:(List c8))(s6:Sl)(Fs5j1:Frag) H w (_:RowL 91 1 o0 s6 J1 Fs5j1) (_:Inv w0 ps0 H0 H [Fs5j1] w) (_:y9 J1 H K),b1J (vs s6) w R E:=by
  intro J1 s6 Fs5j1 H w a3H I h
  unfold b1J
  intro _
  unfold y9 at h
  obtain ⟨j,q,r,t,u⟩:=Inv.freezeN I a3H (by decide)
  replace h:=h s6 j r t u
  exact hR _ j _ _ q ⟨s6,rfl,rfl,h⟩
 refine m7 fun j1 hx1=>?_
 refine a6 (a0K _ _ _) ?_
 obtain ⟨f,d,v,y⟩:=h
 refine T1 (J:=fun n l w=>∃(s:(List c8)×Int)(H:Hp)(J2:Sl)(Fs5l2:Frag),n=d s∧l=(match s with | (i5,i4)=>[(vs J2),(vi i4)])∧(match s with | (i5,i4)=>RowL 91 1 o0 J2 i5 Fs5l2)∧(match s with | (i5,i4)=>Inv w0 ps0 H0 H [Fs5l2] w)∧f s H) ⟨_,([],0),H,(Sl.mk none 0 0),[],rfl,rfl,(RowL.nil L9 O4),I.nil,v⟩ ?_
 rintro am an w next2 ⟨⟨i5,i4⟩,H,J2,Fs5l2,rfl,g,T6,I,z⟩ hn2
 dsimp only at g I T6
 simp only [List.map_cons,List.map_nil,List.cons.injEq,and_true] at g
 obtain ⟨e5,e10⟩:=g
 simp only [e5,e10]
 obtain ⟨n2,hm2,h⟩:∃n2:((List c8)×Int)→Hp→Prop,(∀s' H',n2 s' H'→f s' H'∧d s' < d (i5,i4))∧z2 x0 (x0.n:Int) i5 i4 H n2 K:=⟨_,fun _ _ h=>h,y (i5,i4) H (fun s' H'=>f s' H'∧d s' < d (i5,i4)) z (fun _ _ a b=>⟨a,b⟩)⟩
 unfold b5e
 unfold z2 at h
 refine a6 pLs ?_
 refine d3 h (fun _ h=>?_) (fun _ h=>?_)
 ·obtain ⟨aa,ab,k,i,h⟩:=h
  obtain ⟨ao,ap,ac,i⟩:=i
  refine a6 (a2F ac _ _ _ _ aa ab) (b6 (ldA (vs:=(j8 k)) Tryd.isAgg45 Tryd.sizeOf45 rfl (I.atH i)) ?_)
  refine u4 I Tryd.zeroValue45 (cs:=[(eS),(vi 0)]) rfl fun aq ar ad au=>?_
  refine D5 ad Tryd.sizeOf45 (vs:=(j8 k)) fun av m aw=>?_
  refine b6 (lW Tryd.isAgg45 Tryd.sizeOf45 rfl m) ?_
  refine d7 Tryd.call51 h m ?_
  rintro _ ae _ ax af _ _ ⟨o,rfl,rfl,h⟩
  refine a1y (e:=91) (c:=o0) (xs:=[o]) af (a6J _) rfl rfl L9 O4 (nb rfl) fun ay az ba ag p bb=>?_
  obtain ⟨ah,h⟩:=h
  refine a7H (s:=J2) (xs:=i5) (p.bring 2) T6 (ag.srcO ((p.bring 2).bring 1)) ah fun ai aj bc ak al bd=>?_
  refine a6 pAd ?_
  exact hn2 _ _ _ (hm2 _ _ h).2 ⟨((i5++[o]),(IntKind.wrap .i64 (i4+1))),ae,ai,aj,rfl,rfl,ak,((al.bring 1).drop.bring 1).drop,(hm2 _ _ h).1⟩
 ·exact hx1 _ _ (hj1 i5 J2 Fs5l2 H _ T6 I h)
def N3(a6z:Int)(H:Hp)(K:Int→Hp→Prop):Prop:=
 K a6z H
def T8(b:ByteArray)(a6y:Int)(a:Nat)(H:Hp)(n2:(Int×Nat)→Hp→Prop)(K:Int→Hp→Prop):Prop:=
 (a < b.size→
 n2 ((IntKind.wrap .i64 (a6y+1)),(a+(Utf8.decode b a).2)) H)∧
 (¬(a < b.size)→
 N3 a6y H K)
def W2(x0:ByteArray)(H:Hp)(K:Int→Hp→Prop):Prop:=
 TL ((0,0):Int×Nat) H fun(s:Int×Nat) H n2=>T8 x0 s.1 s.2 H n2 K
theorem a4d(x0){H K}(h:W2 x0 H K):V2 x0 H K:=by
 refine Ct.of fun w0 w ps0 H0 R E I hR=>b9n ?_
 unfold W2 at h
 unfold F73
 have hj1:∀(a6z:Int) H w (_:Inv w0 ps0 H0 H [] w) (_:N3 a6z H K),b2a (vi a6z) w R E:=by
  intro a6z H w I h
  unfold b2a
  intro _
  unfold N3 at h
  exact hR _ H _ _ I ⟨a6z,rfl,rfl,h⟩
 refine m7 fun j1 hx1=>?_
 refine b2X Tryd.underlying9 x0 I fun d i f j=>?_
 refine y6 (σ:=Int×Nat) (fun (a6y,a)=>[(vi a6y)]) (fun (a6y,a)=>[itf d x0 a]) h rfl f ?_
 rintro ⟨a6y,a⟩ H k w next2 n2 b I h hn2
 dsimp only at b I h
 simp only [List.map_cons,List.map_nil,List.cons.injEq,and_true] at b
 have e2:=b
 simp only [e2]
 unfold b5p
 unfold T8 at h
 refine b4h I (fun c l g m=>?_) (fun c=>?_)
 ·replace h:=h.1 c
  refine a6 (B8 _ _ (vB true) rfl) ?_
  refine a3A (fun e=>?_) (fun e=>by cases e)
  refine a6 pAd ?_
  exact hn2 ((IntKind.wrap .i64 (a6y+1)),(a+(Utf8.decode x0 a).2)) _ _ h g
 ·replace h:=h.2 c
  refine a6 (B8 _ _ (vB false) rfl) ?_
  refine a3A (fun e=>by cases e) (fun e=>?_)
  exact hx1 _ _ (hj1 a6y H _ I.drop h)
def a3V(x0:ByteArray)(H:Hp)(K:Bool→Hp→Prop):Prop:=
 V2 x0 H (fun a b=>
 K (decide (32 < a)) b)
theorem a8s(x0){H K}(h:a3V x0 H K):a3P x0 H K:=by
 refine Ct.of fun w0 w ps0 H0 R E I hR=>b9i ?_
 unfold a3V at h
 unfold F67
 refine d7 Tryd.call73 h I ?_
 rintro _ a _ d b _ _ ⟨c,rfl,rfl,h⟩
 refine a6 pGt ?_
 exact hR _ a _ _ b ⟨(decide (32 < c)),rfl,rfl,h⟩
def a2K(H:Hp)(K:Bool→Hp→Prop):Prop:=
 K true H
def a1p(b:ByteArray)(a:Nat)(H:Hp)(n2:Nat→Hp→Prop)(K:Bool→Hp→Prop):Prop:=
 (a < b.size→
 a2U ((Utf8.decode b a).1:Int) H (fun c d=>
 TG ((!(!c)&&(decide (((a:Nat):Int)=0)))=true) (a1K ((Utf8.decode b a).1:Int) d) 0 d (fun(e:Int)(f:Hp)=>
 (((!c)||((decide (((a:Nat):Int)=0))&&(!decide (e=3))))=true→
 K false f)∧
 (((!c)||((decide (((a:Nat):Int)=0))&&(!decide (e=3))))=false→
 n2 (a+(Utf8.decode b a).2) f))))∧
 (¬(a < b.size)→
 a2K H K)
def a3W(x0:ByteArray)(H:Hp)(K:Bool→Hp→Prop):Prop:=
 TG ((decide (x0=⟨#[]⟩))=false) (a2S x0 H) false H (fun(a:Bool)(c:Hp)=>
 TG (((decide (x0=⟨#[]⟩))||(!a))=false) (a3P x0 c) false c (fun(b:Bool)(d:Hp)=>
 TG ((((decide (x0=⟨#[]⟩))||(!a))||b)=false) (a3Q x0 d) false d (fun(e:Bool)(f:Hp)=>
 (((((decide (x0=⟨#[]⟩))||(!a))||b)||e)=true→
 K false f)∧
 (((((decide (x0=⟨#[]⟩))||(!a))||b)||e)=false→
 TL (0:Nat) f fun(s:Nat) H n2=>a1p x0 s H n2 K))))
theorem a8t(x0){H K}(h:a3W x0 H K):a2w x0 H K:=by
 refine Ct.of fun w0 w ps0 H0 R E I hR=>b9f ?_
 unfold a3W at h
 unfold F63
 refine a6 (K6 _ _ _ _ _) ?_
 simp only [q9]
 refine M5 [] (fun d:Bool=>(vB d)) h I (fun r h=>?_) fun d s ai f t u h=>?_
 ·have a:=r
  simp only [d2 a]
  refine d7 Tryd.call66 h I ?_
  rintro _ s _ ai f u t ⟨d,rfl,rfl,h⟩
  exact ⟨d,s,rfl,f,t,u,h⟩
 refine a6 (Pu.g fun a=>by simp only [d2 a];with_reducible exact (G1 _)) ?_
 refine a6 (D3 _ _) ?_
 simp only [q9]
 refine M5 [] (fun i:Bool=>(vB i)) h f (fun v h=>?_) fun i y aj j z aa h=>?_
 ·have a:=v
  simp only [d2 a]
  refine d7 Tryd.call67 h f ?_
  rintro _ y _ aj j aa z ⟨i,rfl,rfl,h⟩
  exact ⟨i,y,rfl,j,z,aa,h⟩
 refine a6 (D3 _ _) ?_
 simp only [q9]
 refine M5 [] (fun k:Bool=>(vB k)) h j (fun ab h=>?_) fun k o ak l ac ad h=>?_
 ·have a:=ab
  simp only [d2 a]
  refine d7 Tryd.call68 h j ?_
  rintro _ o _ ak l ad ac ⟨k,rfl,rfl,h⟩
  exact ⟨k,o,rfl,l,ac,ad,h⟩
 refine a6 (D3 _ _) ?_
 refine f7 h (fun _ h=>?_) (fun _ h=>?_)
 ·exact hR _ o _ _ l ⟨false,rfl,rfl,h⟩
 ·have hj1:∀H w (_:Inv w0 ps0 H0 H [] w) (_:a2K H K),b1T w R E:=by
   intro H w I h
   unfold b1T
   intro _
   unfold a2K at h
   exact hR _ H _ _ I ⟨true,rfl,rfl,h⟩
  refine m7 fun j1 hx1=>?_
  refine b2X Tryd.underlying9 x0 l fun al aq am ar=>?_
  refine y6 (σ:=Nat) (fun c=>[]) (fun c=>[itf al x0 c]) h rfl am ?_
  rintro c H au w next2 n2 an I h hn2
  clear an
  unfold b5n
  unfold a1p at h
  refine b4h I (fun p av ao aw=>?_) (fun p=>?_)
  ·replace h:=h.1 p
   refine a6 (B8 _ _ (vB true) rfl) ?_
   refine a3A (fun e=>?_) (fun e=>by cases e)
   refine a6 (B8 _ _ (vi ((c:Nat):Int)) rfl) (a6 (B8 _ _ (Value.int .i32 ((Utf8.decode x0 c).1:Int)) rfl) ?_)
   refine d7 Tryd.call69 h ao ?_
   rintro _ _ _ ax ae _ _ ⟨ay,rfl,rfl,h⟩
   refine a6 (G1 _) ?_
   simp only [q9]
   refine a6 (Pu.g fun a=>by simp only [d2 a];with_reducible exact pEq) ?_
   simp only [a3C,a6H]
   refine b9N (a1Y _ _ _) ?_
   refine M5 [] (fun m:Int=>(vi m)) h ae (fun af h=>?_) fun m q ap n ag ah h=>?_
   ·obtain ⟨a,b⟩:=a3B af
    simp only [d2 af]
    refine d7 Tryd.call70 h ae ?_
    rintro _ q _ ap n ah ag ⟨m,rfl,rfl,h⟩
    exact ⟨m,q,rfl,n,ag,ah,h⟩
   refine a6 (Pu.e (a1Y _ _ _) (Pu.g fun hb=>by obtain ⟨a,b⟩:=a3B hb;simp only [d2 hb];with_reducible exact pNe)) ?_
   refine a6 (Pu.g fun a=>by simp only [d2 a,a5I a];with_reducible exact (m9 _ _)) ?_
   refine a6 (D3 _ _) ?_
   refine f7 h (fun _ h=>?_) (fun _ h=>?_)
   ·exact hR _ q _ _ n.drop ⟨false,rfl,rfl,h⟩
   ·exact hn2 (c+(Utf8.decode x0 c).2) _ _ h n
  ·replace h:=h.2 p
   refine a6 (B8 _ _ (vB false) rfl) ?_
   refine a3A (fun e=>by cases e) (fun e=>?_)
   exact hx1 _ _ (hj1 H _ I.drop h)
def X8(x0:(List ByteArray))(x1:ByteArray)(H:Hp)(K:Bool→Hp→Prop):Prop:=
 a0p x0 x1 H (fun a b=>
 K (decide (0≤a)) b)
theorem a4m(x0 x1){H K}(h:X8 x0 x1 H K):R0 x0 x1 H K:=by
 intro sx0 Fx0 hx0
 refine Ct.of fun w0 w ps0 H0 R E I hR=>b9g ?_
 unfold X8 at h
 unfold F64
 refine d7 Tryd.call71 (h sx0 Fx0 hx0) I ?_
 rintro _ a _ d b _ _ ⟨c,rfl,rfl,h⟩
 refine a6 pGe ?_
 exact hR _ a _ _ b ⟨(decide (0≤c)),rfl,rfl,h⟩
def J7(c:Int)(d:Int)(e:Int)(f:Bool)(g:Bool)(i:(List ByteArray))(H:Hp)(K:f8→Hp→Prop):Prop:=
 ∀(b:Sl)(a:Hp),Hle H a→SlH a 1 L3 b i→NewS H a 9 1 b→
 K (f8.mk c d e f g b) a
def a2L(x0:Sl)(H:Hp)(K:f8→Hp→Prop):Prop:=
 U6 x0 1 (f8.mk 0 0 0 false false (Sl.mk none 0 0)) [] H (fun d a b c=>
 ((!d)=true→
 J7 a.fnodes a.fdepth a.fe a.fform a.fnamed b c K)∧
 ((!d)=false→
 (a.fform=true→
 J7 a.fnodes a.fdepth 30 a.fform a.fnamed b c K)∧
 (a.fform=false→
 (a.fnamed=true→
 J7 a.fnodes a.fdepth 31 a.fform a.fnamed b c K)∧
 (a.fnamed=false→
 J7 a.fnodes a.fdepth a.fe a.fform a.fnamed b c K))))
theorem a7h(x0){H K}(h:a2L x0 H K):a1g x0 H K:=by
 refine Ct.of fun w0 w ps0 H0 R E I hR=>b8z ?_
 unfold a2L at h
 unfold F31
 refine a6 (b4m) ?_
 refine B2 I (cs:=[(vi 0),(vi 0),(vi 0),(vB false),(vB false),(nS)]) rfl fun d aj y ak=>?_
 refine u4 y Tryd.zeroValue64 (cs:=[(Value.pointer none)]) rfl fun c al z am=>?_
 refine D5 z Tryd.sizeOf64 (vs:=[(Value.pointer (some ⟨d,0,none⟩))]) fun an aa ao=>?_
 refine u4 aa Tryd.zeroValue96 (cs:=[Value.nilFunc]) rfl fun f ap ab aq=>?_
 refine a6 (a8w _ _ _) ?_
 refine D5 ab Tryd.sizeOf96 (vs:=[(Value.func (.func 54) #[] #[(Value.pointer (some ⟨c,0,none⟩)),(Value.pointer (some ⟨f,0,none⟩))])]) fun ar u au=>?_
 have hj1:∀(i:Int)(j:Int)(k:Int)(l:Bool)(m:Bool)(s:(List ByteArray))(g:Sl)(t:Frag) H w (_:RowL 9 1 L3 g s t) (_:Inv w0 ps0 H0 H [bx c 64 [(Value.pointer (some ⟨d,0,none⟩))],bx d 68 [(vi i),(vi j),(vi k),(vB l),(vB m),(vs g)],bx f 96 [(Value.func (.func 54) #[] #[(Value.pointer (some ⟨c,0,none⟩)),(Value.pointer (some ⟨f,0,none⟩))])],t] w) (_:J7 i j k l m s H K),b1i (Value.pointer (some ⟨c,0,none⟩)) w R E:=by
  intro i j k l m s g t H w ac I h
  unfold b1i
  intro _
  unfold J7 at h
  refine b6 (l1 Tryd.isAgg64 I rfl) ?_
  obtain ⟨v,ad,ae,af,ag⟩:=Inv.freezeN (I.bring 3) ac (by decide)
  replace h:=h g v ae af ag
  exact hR _ v _ _ (ad.drop.bring 1).drop ⟨(f8.mk i j k l m g),d,rfl,rfl,h⟩
 refine m7 fun j1 hx1=>?_
 refine b6 (l1 Tryd.isAgg96 u rfl) ?_
 refine a4p (cap:=[(Value.pointer (some ⟨c,0,none⟩)),(Value.pointer (some ⟨f,0,none⟩))]) Tryd.call54 (h c d f (Sl.mk none 0 0) ([]) (RowL.nil (e:=9) a8y a8z)) ((((u.nil.bring 1).bring 1).bring 3).bring 3) ?_
 rintro _ n _ av b _ _ ⟨aw,a,o,p,q,rfl,rfl,r,h⟩
 refine a6 (G1 _) ?_
 refine f7 h (fun _ h=>?_) (fun _ h=>?_)
 ·exact hx1 _ _ (hj1 a.fnodes a.fdepth a.fe a.fform a.fnamed o p q n _ r ((((b.bring 2).bring 3).bring 3).bring 3) h)
 ·refine b6 (l1 Tryd.isAgg64 b rfl) (a6 (o9 _) (a6 a6Z (b6 (l1 Tryd.isAgg4 (b.bring 1) rfl) ?_)))
  refine f7 h (fun _ h=>?_) (fun _ h=>?_)
  ·refine b6 (l1 Tryd.isAgg64 b rfl) (a6 (o9 _) (a6 a0D ?_))
   refine N2 (b.bring 1) Tryd.sizeOf27 fun ax ah ay=>?_
   exact hx1 _ _ (hj1 a.fnodes a.fdepth 30 a.fform a.fnamed o p q n _ r ((((ah.bring 2).bring 3).bring 2).bring 3) h)
  ·refine b6 (l1 Tryd.isAgg64 b rfl) (a6 (o9 _) (a6 a7a (b6 (l1 Tryd.isAgg4 (b.bring 1) rfl) ?_)))
   refine f7 h (fun _ h=>?_) (fun _ h=>?_)
   ·refine b6 (l1 Tryd.isAgg64 b rfl) (a6 (o9 _) (a6 a0D ?_))
    refine N2 (b.bring 1) Tryd.sizeOf27 fun az ai ba=>?_
    exact hx1 _ _ (hj1 a.fnodes a.fdepth 31 a.fform a.fnamed o p q n _ r ((((ai.bring 2).bring 3).bring 2).bring 3) h)
   ·exact hx1 _ _ (hj1 a.fnodes a.fdepth a.fe a.fform a.fnamed o p q n _ r ((((b.bring 2).bring 3).bring 3).bring 3) h)
def a2A(x0:d4)(H:Hp)(K:Bool→Hp→Prop):Prop:=
 a1L x0 H (fun a b=>
 K ((!decide (a=32))&&(!decide (a=33))) b)
theorem a6O(x0){H K}(h:a2A x0 H K):a0S x0 H K:=by
 refine Ct.of fun w0 w ps0 H0 R E I hR=>b8t ?_
 unfold a2A at h
 unfold F25
 refine B2 I (cs:=(f5 x0)) rfl fun f i b j=>?_
 refine b6 (lW Tryd.isAgg25 Tryd.sizeOf25 rfl b) ?_
 refine d7 Tryd.call15 h b ?_
 rintro _ d _ k e _ _ ⟨c,rfl,rfl,h⟩
 refine a6 pNe ?_
 simp only [q9]
 refine a6 (Pu.g fun a=>by simp only [d2 a];with_reducible exact pNe) ?_
 refine a6 (m9 _ _) ?_
 exact hR _ d _ _ e.drop ⟨((!decide (c=32))&&(!decide (c=33))),rfl,rfl,h⟩
def K3(H:Hp)(K:Bool→Hp→Prop):Prop:=
 K true H
def K4(a2r:Sl)(a2l:Sl)(b6K:Int)(a3k:Int)(H:Hp)(n2:Int→Hp→Prop)(K:Bool→Hp→Prop):Prop:=
 (a3k < b6K→
 (0:Int)≤a3k∧(a3k:Int) < a2r.n∧∃a:s7,EltH H a2r a3k 2 (j8 a)∧
 (0:Int)≤a3k∧(a3k:Int) < a2l.n∧∃b:s7,EltH H a2l a3k 2 (j8 b)∧
 (¬(a.f4=b.f4∧a.X1=b.X1)→
 K false H)∧
 (a.f4=b.f4∧a.X1=b.X1→
 n2 (IntKind.wrap .i64 (a3k+1)) H))∧
 (¬(a3k < b6K)→
 K3 H K)
def L6(x0:Sl)(x1:Sl)(H:Hp)(K:Bool→Hp→Prop):Prop:=
 (¬((x0.n:Int)=(x1.n:Int))→
 K false H)∧
 ((x0.n:Int)=(x1.n:Int)→
 TL (0:Int) H fun(s:Int) H n2=>K4 x0 x1 (x0.n:Int) s H n2 K)
theorem a1T(x0 x1){H K}(h:L6 x0 x1 H K):D9 x0 x1 H K:=by
 refine Ct.of fun w0 w ps0 H0 R E I hR=>b8u ?_
 unfold L6 at h
 unfold F26
 refine a6 (a0K _ _ _) (a6 (a0K _ _ _) (a6 pNe ?_))
 refine a0m h (fun _ h=>?_) (fun _ h=>?_)
 ·exact hR _ H _ _ I ⟨false,rfl,rfl,h⟩
 ·have hj1:∀H w (_:Inv w0 ps0 H0 H [] w) (_:K3 H K),b1b w R E:=by
   intro H w I h
   unfold b1b
   intro _
   unfold K3 at h
   exact hR _ H _ _ I ⟨true,rfl,rfl,h⟩
  refine m7 fun j1 hx1=>?_
  refine a6 (a0K _ _ _) ?_
  refine y6 (σ:=Int) (fun a3k=>[(vi a3k)]) (fun a3k=>[]) h rfl I ?_
  rintro a3k H n w next2 n2 d I h hn2
  simp only [List.map_cons,List.map_nil,List.cons.injEq,and_true] at d
  have e13:=d
  simp only [e13]
  unfold b4F
  unfold K4 at h
  refine a6 pLs ?_
  refine d3 h (fun _ h=>?_) (fun _ h=>?_)
  ·refine a0l I fun o a=>?_
   obtain ⟨e,f,g,b,h⟩:=h
   obtain ⟨p,q,i,b⟩:=b
   refine g8 (a2F i _ _ _ _ e f) ?_
   obtain ⟨j,k,l,c,h⟩:=h
   obtain ⟨r,s,m,c⟩:=c
   refine g8 (a2F m _ _ _ _ j k) ?_
   refine r6 (ldA (vs:=(j8 g)) Tryd.isAgg45 Tryd.sizeOf45 rfl (a.atH b)) ?_
   refine r6 (ldA (vs:=(j8 l)) Tryd.isAgg45 Tryd.sizeOf45 rfl (a.atH c)) ?_
   refine g8 (b0H _ _ _ _ _ _) ?_
   refine a0m h (fun _ h=>?_) (fun _ h=>?_)
   ·exact hR _ H _ _ a ⟨false,rfl,rfl,h⟩
   ·refine a6 pAd ?_
    exact hn2 (IntKind.wrap .i64 (a3k+1)) _ _ h a
  ·exact hx1 _ _ (hj1 H _ I h)
def o7(H:Hp)(K:Bool→Hp→Prop):Prop:=
 K true H
def o8(a2l:Sl)(a6j:Sl)(a6k:Int)(E0:Int)(H:Hp)(n2:Int→Hp→Prop)(K:Bool→Hp→Prop):Prop:=
 (E0 < a6k→
 (0:Int)≤E0∧(E0:Int) < a6j.n∧∃a:b8,EltH H a6j E0 4 (c7 a)∧
 (0:Int)≤E0∧(E0:Int) < a2l.n∧∃b:b8,EltH H a2l E0 4 (c7 b)∧
 a0G a b H (fun c d=>
 ((!c)=true→
 K false d)∧
 ((!c)=false→
 n2 (IntKind.wrap .i64 (E0+1)) d)))∧
 (¬(E0 < a6k)→
 o7 H K)
def p8(x0:Sl)(x1:Sl)(H:Hp)(K:Bool→Hp→Prop):Prop:=
 (¬((x0.n:Int)=(x1.n:Int))→
 K false H)∧
 ((x0.n:Int)=(x1.n:Int)→
 TL (0:Int) H fun(s:Int) H n2=>o8 x1 x0 (x0.n:Int) s H n2 K)
theorem G5(x0 x1){H K}(h:p8 x0 x1 H K):g7 x0 x1 H K:=by
 refine Ct.of fun w0 w ps0 H0 R E I hR=>b8L ?_
 unfold p8 at h
 unfold F43
 refine a6 (B0 _ _ _) (a6 (B0 _ _ _) (a6 pNe ?_))
 refine a0m h (fun _ h=>?_) (fun _ h=>?_)
 ·exact hR _ H _ _ I ⟨false,rfl,rfl,h⟩
 ·have hj1:∀H w (_:Inv w0 ps0 H0 H [] w) (_:o7 H K),b1B w R E:=by
   intro H w I h
   unfold b1B
   intro _
   unfold o7 at h
   exact hR _ H _ _ I ⟨true,rfl,rfl,h⟩
  refine m7 fun j1 hx1=>?_
  refine a6 (B0 _ _ _) ?_
  refine y6 (σ:=Int) (fun E0=>[(vi E0)]) (fun E0=>[]) h rfl I ?_
  rintro E0 H s w next2 n2 d I h hn2
  simp only [List.map_cons,List.map_nil,List.cons.injEq,and_true] at d
  have e17:=d
  simp only [e17]
  unfold b4X
  unfold o8 at h
  refine a6 pLs ?_
  refine d3 h (fun _ h=>?_) (fun _ h=>?_)
  ·obtain ⟨j,k,e,a,h⟩:=h
   obtain ⟨t,u,l,a⟩:=a
   refine a6 (O3 l _ _ _ _ j k) (b6 (ldA (vs:=(c7 e)) Tryd.isAgg41 Tryd.sizeOf41 rfl (I.atH a)) ?_)
   refine u4 I Tryd.zeroValue41 (cs:=[(vi 0),(vi 0),(eS),(nS)]) rfl fun v y m z=>?_
   refine D5 m Tryd.sizeOf41 (vs:=(c7 e)) fun aa f ab=>?_
   obtain ⟨n,o,g,b,h⟩:=h
   obtain ⟨ac,ad,p,b⟩:=b
   refine a6 (O3 p _ _ _ _ n o) (b6 (ldA (vs:=(c7 g)) Tryd.isAgg41 Tryd.sizeOf41 rfl (f.atH b)) ?_)
   refine u4 f Tryd.zeroValue41 (cs:=[(vi 0),(vi 0),(eS),(nS)]) rfl fun ae af q ag=>?_
   refine D5 q Tryd.sizeOf41 (vs:=(c7 g)) fun ah c ai=>?_
   refine b6 (lW Tryd.isAgg41 Tryd.sizeOf41 rfl (c.bring 1)) (b6 (lW Tryd.isAgg41 Tryd.sizeOf41 rfl c) ?_)
   refine d7 Tryd.call44 h c ?_
   rintro _ r _ aj i _ _ ⟨ak,rfl,rfl,h⟩
   refine a6 (G1 _) ?_
   refine f7 h (fun _ h=>?_) (fun _ h=>?_)
   ·exact hR _ r _ _ i.drop.drop ⟨false,rfl,rfl,h⟩
   ·refine a6 pAd ?_
    exact hn2 (IntKind.wrap .i64 (E0+1)) _ _ h i.drop.drop
  ·exact hx1 _ _ (hj1 H _ I h)
def a2s(x0:b9)(x1:b9)(H:Hp)(K:Bool→Hp→Prop):Prop:=
 TG (((decide (x0.b7=x1.b7))&&(decide (x0.fOp=x1.fOp)))=true) (g7 x0.d5 x1.d5 H) false H (fun(a:Bool)(b:Hp)=>
 TG ((((decide (x0.b7=x1.b7))&&(decide (x0.fOp=x1.fOp)))&&a)=true) (i7 x0.q6 x1.q6 b) false b (fun(c:Bool)(d:Hp)=>
 K ((((decide (x0.b7=x1.b7))&&(decide (x0.fOp=x1.fOp)))&&a)&&c) d))
theorem a6A(x0 x1){H K}(h:a2s x0 x1 H K):a0H x0 x1 H K:=by
 refine Ct.of fun w0 w ps0 H0 R E I hR=>b8O ?_
 unfold a2s at h
 unfold F46
 refine B2 I (cs:=(c9 x0)) rfl fun t u q v=>?_
 refine B2 q (cs:=(c9 x1)) rfl fun y z b aa=>?_
 refine a6 a1e (b6 (l1 Tryd.isAgg3 (b.bring 1) rfl) (a6 a1e (b6 (l1 Tryd.isAgg3 b rfl) (a6 pEq ?_))))
 refine a6 (Pu.g fun a=>by with_reducible exact Y3) ?_
 refine b6 (Ld.g fun a=>by simp only [d2 a];exact (l1 Tryd.isAgg3 (b.bring 1) rfl)) ?_
 refine a6 (Pu.g fun a=>by with_reducible exact Y3) ?_
 refine b6 (Ld.g fun a=>by simp only [d2 a];exact (l1 Tryd.isAgg3 b rfl)) ?_
 refine a6 (Pu.g fun a=>by simp only [d2 a];with_reducible exact pEq) ?_
 refine a6 (m9 _ _) ?_
 refine a6 (Pu.g fun a=>by with_reducible exact G8) ?_
 refine b6 (Ld.g fun a=>by simp only [d2 a];exact (l1 Tryd.isAgg39 (b.bring 1) rfl)) ?_
 refine a6 (Pu.g fun a=>by with_reducible exact G8) ?_
 refine b6 (Ld.g fun a=>by simp only [d2 a];exact (l1 Tryd.isAgg39 b rfl)) ?_
 refine M5 [] (fun d:Bool=>(vB d)) h b (fun j h=>?_) fun d k r c l m h=>?_
 ·have a:=j
  simp only [d2 a]
  refine d7 Tryd.call43 h b ?_
  rintro _ k _ r c m l ⟨d,rfl,rfl,h⟩
  exact ⟨d,k,rfl,c,l,m,h⟩
 refine a6 (m9 _ _) ?_
 refine a6 (Pu.g fun a=>by with_reducible exact G9) ?_
 refine b6 (Ld.g fun a=>by simp only [d2 a];exact (l1 Tryd.isAgg47 (c.bring 1) rfl)) ?_
 refine a6 (Pu.g fun a=>by with_reducible exact G9) ?_
 refine b6 (Ld.g fun a=>by simp only [d2 a];exact (l1 Tryd.isAgg47 c rfl)) ?_
 refine M5 [] (fun e:Bool=>(vB e)) h c (fun n h=>?_) fun e f s i o p h=>?_
 ·have a:=n
  simp only [d2 a]
  refine d7 Tryd.call45 h c ?_
  rintro _ f _ s i p o ⟨e,rfl,rfl,h⟩
  exact ⟨e,f,rfl,i,o,p,h⟩
 refine a6 (m9 _ _) ?_
 exact hR _ f _ _ i.drop.drop ⟨((((decide (x0.b7=x1.b7))&&(decide (x0.fOp=x1.fOp)))&&d)&&e),rfl,rfl,h⟩
def a2t(x0:b9)(H:Hp)(K:b9→Hp→Prop):Prop:=
 r8 x0.d5 H (fun a b=>
 v8 x0.q6 b (fun c d=>
 K (b9.mk x0.b7 x0.fOp a c) d))
theorem a6B(x0){H K}(h:a2t x0 H K):a2i x0 H K:=by
 refine Ct.of fun w0 w ps0 H0 R E I hR=>b8D ?_
 unfold a2t at h
 unfold F35
 refine B2 I (cs:=(c9 x0)) rfl fun n p f q=>?_
 refine u4 f Tryd.zeroValue77 (cs:=[(vi 0),(vi 0),(nS),(nS)]) rfl fun r s g t=>?_
 refine a0l g fun u a=>?_
 refine g8 G8 ?_
 refine g8 G9 ?_
 refine r6 (l1 Tryd.isAgg39 (a.bring 1) rfl) ?_
 refine r6 (l1 Tryd.isAgg47 (a.bring 1) rfl) ?_
 refine d7 Tryd.call32 h a ?_
 rintro _ _ _ v i _ j ⟨b,rfl,rfl,h⟩
 refine ⟨(j _ (a.bring 1).lt1 (Inv.Y0 (Fi:=[]) (a.bring 1))),?_⟩
 refine g8 G8 ?_
 refine d7 Tryd.call34 h i ?_
 rintro _ k _ y l _ _ ⟨c,rfl,rfl,h⟩
 refine N2 (l.bring 1) Tryd.sizeOf39 fun z m aa=>?_
 refine g8 G9 ?_
 refine N2 m Tryd.sizeOf47 fun ab d ac=>?_
 refine b6 (ldA Tryd.isAgg77 Tryd.sizeOf77 rfl (d.at1 (o:=0) (vs:=[(vi x0.b7),(vi x0.fOp),(vs b),(vs c)]) (nb rfl) rfl)) ?_
 refine D5 (d.bring 1) Tryd.sizeOf77 (vs:=[(vi x0.b7),(vi x0.fOp),(vs b),(vs c)]) fun ad e ae=>?_
 refine a2T Tryd.isAgg77 Tryd.sizeOf77 rfl e ?_
 exact hR _ k _ _ e.drop.drop ⟨(b9.mk x0.b7 x0.fOp b c),rfl,rfl,h⟩
def a2B(x0:Int)(x1:Int)(x2:Int)(H:Hp)(K:Bool→Hp→Prop):Prop:=
 K ((decide (x1≤x0))&&(decide (x0≤x2))) H
theorem a5d(x0 x1 x2){H K}(h:a2B x0 x1 x2 H K):C6 x0 x1 x2 H K:=by
 refine Ct.of fun w0 w ps0 H0 R E I hR=>b9h ?_
 unfold a2B at h
 unfold F65
 refine a6 pGe ?_
 simp only [q9]
 refine a6 (Pu.g fun a=>by simp only [d2 a];with_reducible exact pLe) ?_
 refine a6 (m9 _ _) ?_
 exact hR _ H _ _ I ⟨((decide (x1≤x0))&&(decide (x0≤x2))),rfl,rfl,h⟩
def W3(a:b9)(a5R:Int)(a1q:a7)(H:Hp)(n4:(Int×a7)→Hp→Prop)(K:a7→Hp→Prop):Prop:=
 (((decide (a5R < (a.q6.n:Int)))&&a1q.fok)=true→
 (0:Int)≤a5R∧(a5R:Int) < a.q6.n∧∃b:b9,EltH H a.q6 a5R 4 (c9 b)∧
 S6 a1q b H (fun c d=>
 n4 ((IntKind.wrap .i64 (a5R+1)),c) d))∧
 (((decide (a5R < (a.q6.n:Int)))&&a1q.fok)=false→
 K a1q H)
def Q0(a0J:a7)(a:b9)(H:Hp)(K:a7→Hp→Prop):Prop:=
 TL ((0,a0J):Int×a7) H fun(s:Int×a7) H n4=>W3 a s.1 s.2 H n4 K
def W4(a:b9)(a5S:Int)(S5:a7)(H:Hp)(n5:(Int×a7)→Hp→Prop)(K:a7→Hp→Prop):Prop:=
 (((decide (a5S < (a.d5.n:Int)))&&S5.fok)=true→
 (0:Int)≤a5S∧(a5S:Int) < a.d5.n∧∃b:b8,EltH H a.d5 a5S 4 (c7 b)∧
 N5 S5 b H (fun c d=>
 n5 ((IntKind.wrap .i64 (a5S+1)),c) d))∧
 (((decide (a5S < (a.d5.n:Int)))&&S5.fok)=false→
 Q0 S5 a H K)
def E4(a7d:Int)(c0y:Int)(b2i:Bool)(a:b9)(a3j:a7)(H:Hp)(K:a7→Hp→Prop):Prop:=
 TL ((0,(a7.mk (((a3j.fok&&b2i)&&(decide ((a.d5.n:Int)=a7d)))&&(decide ((a.q6.n:Int)=c0y))) a3j.fnames)):Int×a7) H fun(s:Int×a7) H n5=>W4 a s.1 s.2 H n5 K
def u1(o2:Int)(a1i:Int)(a:b9)(O7:a7)(H:Hp)(K:a7→Hp→Prop):Prop:=
 (a.b7=3→
 E4 o2 a1i ((decide (1≤a.fOp))&&(decide (a.fOp≤6))) a O7 H K)∧
 (¬(a.b7=3)→
 E4 o2 a1i (decide (a.fOp=0)) a O7 H K)
def E5(b9D:Int)(c0z:Int)(a8a:Bool)(a:b9)(b6L:a7)(H:Hp)(K:a7→Hp→Prop):Prop:=
 (a8a=true→
 u1 b9D 2 a b6L H K)∧
 (a8a=false→
 u1 b9D c0z a (a7.mk false b6L.fnames) H K)
def E6(a9B:Int)(b3C:Int)(a6n:Int)(a8b:Bool)(a:b9)(a9c:a7)(H:Hp)(K:a7→Hp→Prop):Prop:=
 (a8b=true→
 u1 a9B b3C a a9c H K)∧
 (a8b=false→
 (a6n=3→
 u1 2 b3C a a9c H K)∧
 (¬(a6n=3)→
 (a6n=4→
 u1 a9B 1 a a9c H K)∧
 (¬(a6n=4)→
 (a6n=5→
 E5 a9B b3C (decide (a6n=5)) a a9c H K)∧
 (¬(a6n=5)→
 E5 a9B b3C (decide (a6n=6)) a a9c H K))))
def Z8(x0:a7)(x1:b9)(H:Hp)(K:a7→Hp→Prop):Prop:=
 (x1.b7=1→
 E6 0 0 x1.b7 (decide (x1.b7=1)) x1 x0 H K)∧
 (¬(x1.b7=1)→
 E6 0 0 x1.b7 (decide (x1.b7=2)) x1 x0 H K)
theorem a4C(x0 x1){H K}(h:Z8 x0 x1 H K):S6 x0 x1 H K:=by
 intro g0
 refine Ct.of fun w0 w ps0 H0 R E I hR=>b8H ?_
 unfold Z8 at h
 unfold F39
 refine B2 I (cs:=(c9 x1)) rfl fun b z c aa=>?_
 have hj1:∀(o2:Int)(a1i:Int)(O7:a7) H w (_:Inv w0 ps0 H0 H [bx b 77 (c9 x1),bx g0 55 (f9 O7)] w) (_:u1 o2 a1i x1 O7 H K),b1r (Value.pointer (some ⟨g0,0,none⟩)) (Value.pointer (some ⟨b,0,none⟩)) (vi o2) (vi a1i) w R E:=by
  intro o2 a1i O7 H w I h
  unfold b1r
  intro _
  unfold u1 at h
  refine a6 Y3 (b6 (l1 Tryd.isAgg3 I rfl) (a6 pEq ?_))
  have hj2:∀(b2i:Bool) H w (_:Inv w0 ps0 H0 H [bx b 77 (c9 x1),bx g0 55 (f9 O7)] w) (_:E4 o2 a1i b2i x1 O7 H K),b1q (Value.pointer (some ⟨g0,0,none⟩)) (Value.pointer (some ⟨b,0,none⟩)) (vi o2) (vi a1i) (vB b2i) w R E:=by
   intro b2i H w I h
   unfold b1q
   intro _
   unfold E4 at h
   refine a6 (o9 _) (a6 D7 (b6 (l1 Tryd.isAgg4 (I.bring 1) rfl) ?_))
   simp only [q9]
   refine a6 (m9 _ _) ?_
   refine a6 (Pu.g fun a=>by with_reducible exact G8) ?_
   refine b6 (Ld.g fun a=>by simp only [d2 a];exact (l1 Tryd.isAgg39 I rfl)) ?_
   refine a6 (Pu.g fun a=>by simp only [d2 a];with_reducible exact (B0 _ _ _)) ?_
   simp only [q9]
   refine a6 (Pu.g fun a=>by simp only [d2 a];with_reducible exact pEq) ?_
   refine a6 (m9 _ _) ?_
   refine a6 (Pu.g fun a=>by with_reducible exact G9) ?_
   refine b6 (Ld.g fun a=>by simp only [d2 a];exact (l1 Tryd.isAgg47 I rfl)) ?_
   refine a6 (Pu.g fun a=>by simp only [d2 a];with_reducible exact (K2 _ _ _)) ?_
   simp only [q9]
   refine a6 (Pu.g fun a=>by simp only [d2 a];with_reducible exact pEq) ?_
   refine a6 (m9 _ _) (a6 (o9 _) (a6 D7 ?_))
   refine N2 (I.bring 1) Tryd.sizeOf4 fun ab j ac=>?_
   have hj3:∀(a0J:a7) H w (_:Inv w0 ps0 H0 H [bx g0 55 (f9 a0J),bx b 77 (c9 x1)] w) (_:Q0 a0J x1 H K),b1p (Value.pointer (some ⟨g0,0,none⟩)) (Value.pointer (some ⟨b,0,none⟩)) w R E:=by
    intro a0J H w I h
    unfold b1p
    intro _
    unfold Q0 at h
    refine y6 (σ:=Int×a7) (fun (a5R,a1q)=>[(vi a5R)]) (fun (a5R,a1q)=>[bx g0 55 (f9 a1q),bx b 77 (c9 x1)]) h rfl ((I.bring 1).bring 1) ?_
    rintro ⟨a5R,a1q⟩ H ad w next4 n4 d I h hn4
    dsimp only at d I h
    simp only [List.map_cons,List.map_nil,List.cons.injEq,and_true] at d
    have e8:=d
    simp only [e8]
    unfold b4R
    unfold W3 at h
    refine a6 G9 (b6 (l1 Tryd.isAgg47 (I.bring 1) rfl) (a6 (K2 _ _ _) (a6 pLs ?_)))
    simp only [q9]
    refine a6 (Pu.g fun a=>by simp only [d2 a];with_reducible exact (o9 _)) ?_
    refine a6 (Pu.g fun a=>by simp only [d2 a];with_reducible exact D7) ?_
    refine b6 (Ld.g fun a=>by simp only [d2 a];exact (l1 Tryd.isAgg4 I rfl)) ?_
    refine a6 (m9 _ _) ?_
    refine f7 h (fun _ h=>?_) (fun _ h=>?_)
    ·refine a6 G9 (b6 (l1 Tryd.isAgg47 (I.bring 1) rfl) ?_)
     obtain ⟨k,l,m,e,h⟩:=h
     obtain ⟨ae,af,n,e⟩:=e
     refine a6 (Y2 n _ _ _ _ k l) (b6 (ldA (vs:=(c9 m)) Tryd.isAgg77 Tryd.sizeOf77 rfl (I.atH e)) ?_)
     refine d7 Tryd.call39 (h g0) I ?_
     rintro _ _ _ ag o _ _ ⟨p,rfl,rfl,h⟩
     refine a6 pAd ?_
     exact hn4 ((IntKind.wrap .i64 (a5R+1)),p) _ _ h ((o.bring 1).bring 1)
    ·exact hR _ H _ _ (I.bring 1).drop ⟨a1q,rfl,rfl,h⟩
   refine m7 fun j3 hx3=>?_
   refine y6 (σ:=Int×a7) (fun (a5S,S5)=>[(vi a5S)]) (fun (a5S,S5)=>[bx g0 55 (f9 S5),bx b 77 (c9 x1)]) h rfl ((j.bring 1).bring 1) ?_
   rintro ⟨a5S,S5⟩ H ah w next5 n5 f I h hn5
   dsimp only at f I h
   simp only [List.map_cons,List.map_nil,List.cons.injEq,and_true] at f
   have e7:=f
   simp only [e7]
   unfold b4S
   unfold W4 at h
   refine a6 G8 (b6 (l1 Tryd.isAgg39 (I.bring 1) rfl) (a6 (B0 _ _ _) (a6 pLs ?_)))
   simp only [q9]
   refine a6 (Pu.g fun a=>by simp only [d2 a];with_reducible exact (o9 _)) ?_
   refine a6 (Pu.g fun a=>by simp only [d2 a];with_reducible exact D7) ?_
   refine b6 (Ld.g fun a=>by simp only [d2 a];exact (l1 Tryd.isAgg4 I rfl)) ?_
   refine a6 (m9 _ _) ?_
   refine f7 h (fun _ h=>?_) (fun _ h=>?_)
   ·refine a6 G8 (b6 (l1 Tryd.isAgg39 (I.bring 1) rfl) ?_)
    obtain ⟨q,r,s,i,h⟩:=h
    obtain ⟨ai,aj,t,i⟩:=i
    refine a6 (O3 t _ _ _ _ q r) (b6 (ldA (vs:=(c7 s)) Tryd.isAgg41 Tryd.sizeOf41 rfl (I.atH i)) ?_)
    refine d7 Tryd.call40 (h g0) I ?_
    rintro _ _ _ ak u _ _ ⟨v,rfl,rfl,h⟩
    refine a6 pAd ?_
    exact hn5 ((IntKind.wrap .i64 (a5S+1)),v) _ _ h ((u.bring 1).bring 1)
   ·exact hx3 _ _ (hj3 S5 H _ ((I.bring 1).bring 1) h)
  refine m7 fun j2 hx2=>?_
  refine a6 a1e (b6 (l1 Tryd.isAgg3 I rfl) (a6 pEq ?_))
  refine d3 h (fun _ h=>?_) (fun _ h=>?_)
  ·refine a6 Y3 (b6 (l1 Tryd.isAgg3 I rfl) (a6 pGe ?_))
   refine a6 (Pu.g fun a=>by with_reducible exact Y3) ?_
   refine b6 (Ld.g fun a=>by simp only [d2 a];exact (l1 Tryd.isAgg3 I rfl)) ?_
   refine a6 (Pu.g fun a=>by simp only [d2 a];with_reducible exact pLe) ?_
   refine a6 (m9 _ _) ?_
   exact hx2 _ _ (hj2 ((decide (1≤x1.fOp))&&(decide (x1.fOp≤6))) H _ ((I.bring 1).bring 1) h)
  ·exact hx2 _ _ (hj2 (decide (x1.fOp=0)) H _ ((I.bring 1).bring 1) h)
 refine m7 fun j1 hx1=>?_
 refine a6 a1e (b6 (l1 Tryd.isAgg3 c rfl) ?_)
 have hj6:∀(a8b:Bool) H w (_:Inv w0 ps0 H0 H [bx b 77 (c9 x1),bx g0 55 (f9 x0)] w) (_:E6 0 0 x1.b7 a8b x1 x0 H K),b1t (Value.pointer (some ⟨g0,0,none⟩)) (Value.pointer (some ⟨b,0,none⟩)) (vi 0) (vi 0) (vi x1.b7) (vB a8b) w j1 R E:=by
  intro a8b H w I h
  unfold b1t
  intro _
  unfold E6 at h
  refine f7 h (fun _ h=>?_) (fun _ h=>?_)
  ·exact hx1 _ _ (hj1 0 0 x0 H _ ((I.bring 1).bring 1) h)
  ·refine a6 pEq ?_
   refine d3 h (fun _ h=>?_) (fun _ h=>?_)
   ·exact hx1 _ _ (hj1 2 0 x0 H _ ((I.bring 1).bring 1) h)
   ·refine a6 pEq ?_
    refine d3 h (fun _ h=>?_) (fun _ h=>?_)
    ·exact hx1 _ _ (hj1 0 1 x0 H _ ((I.bring 1).bring 1) h)
    ·have hj7:∀(a8a:Bool) H w (_:Inv w0 ps0 H0 H [bx b 77 (c9 x1),bx g0 55 (f9 x0)] w) (_:E5 0 0 a8a x1 x0 H K),b1s (Value.pointer (some ⟨g0,0,none⟩)) (Value.pointer (some ⟨b,0,none⟩)) (vi 0) (vi 0) (vB a8a) w j1 R E:=by
      intro a8a H w I h
      unfold b1s
      intro _
      unfold E5 at h
      refine f7 h (fun _ h=>?_) (fun _ h=>?_)
      ·exact hx1 _ _ (hj1 0 2 x0 H _ ((I.bring 1).bring 1) h)
      ·refine a6 (o9 _) (a6 D7 ?_)
       refine N2 (I.bring 1) Tryd.sizeOf4 fun al y am=>?_
       exact hx1 _ _ (hj1 0 0 (a7.mk false x0.fnames) H _ (y.bring 1) h)
     refine m7 fun j7 hx7=>?_
     refine a6 pEq ?_
     refine d3 h (fun _ h=>?_) (fun _ h=>?_)
     ·exact hx7 _ _ (hj7 (decide (x1.b7=5)) H _ ((I.bring 1).bring 1) h)
     ·refine a6 pEq ?_
      exact hx7 _ _ (hj7 (decide (x1.b7=6)) H _ ((I.bring 1).bring 1) h)
 refine m7 fun j6 hx6=>?_
 refine a6 pEq ?_
 refine d3 h (fun _ h=>?_) (fun _ h=>?_)
 ·exact hx6 _ _ (hj6 (decide (x1.b7=1)) H _ ((c.bring 1).bring 1) h)
 ·refine a6 pEq ?_
  exact hx6 _ _ (hj6 (decide (x1.b7=2)) H _ ((c.bring 1).bring 1) h)
def S8(a:a8)(b:a8)(c:d4)(H:Hp)(K:a8→Hp→Prop):Prop:=
 K a H
def Z9(a:d4)(a0b:Int)(b:a8)(c:a8)(H:Hp)(n3:(Int×a8×a8)→Hp→Prop)(K:a8→Hp→Prop):Prop:=
 (((decide (a0b < (a.M7.n:Int)))&&(decide (b.fbad=0)))=true→
 (0:Int)≤a0b∧(a0b:Int) < a.M7.n∧∃d:c6,EltH H a.M7 a0b 6 (c5 d)∧
 N8 b d 1 H (fun e f=>
 n3 ((IntKind.wrap .i64 (a0b+1)),e,c) f))∧
 (((decide (a0b < (a.M7.n:Int)))&&(decide (b.fbad=0)))=false→
 S8 b c a H K)
def S9(a:a8)(b:a8)(c:d4)(H:Hp)(K:a8→Hp→Prop):Prop:=
 TL ((0,a,b):Int×a8×a8) H fun(s:Int×a8×a8) H n3=>Z9 c s.1 s.2.1 s.2.2 H n3 K
def a0d(b:d4)(a0P:Int)(a:a8)(c:a8)(H:Hp)(n4:(Int×a8×a8)→Hp→Prop)(K:a8→Hp→Prop):Prop:=
 (((decide (a0P < (b.B3.n:Int)))&&(decide (a.fbad=0)))=true→
 J8 a 1 H (fun f d e=>
 n4 ((IntKind.wrap .i64 (a0P+1)),d,c) e))∧
 (((decide (a0P < (b.B3.n:Int)))&&(decide (a.fbad=0)))=false→
 S9 a c b H K)
def a0Z(x0:d4)(H:Hp)(K:a8→Hp→Prop):Prop:=
 TL ((0,(a8.mk 0 0 0),(a8.mk 0 0 0)):Int×a8×a8) H fun(s:Int×a8×a8) H n4=>a0d x0 s.1 s.2.1 s.2.2 H n4 K
theorem a5h(x0){H K}(h:a0Z x0 H K):U9 x0 H K:=by
 refine Ct.of fun w0 w ps0 H0 R E I hR=>b8n ?_
 unfold a0Z at h
 unfold F19
 refine B2 I (cs:=(f5 x0)) rfl fun d ag s ah=>?_
 refine u4 s Tryd.zeroValue52 (cs:=[(vi 0),(vi 0),(vi 0)]) rfl fun c ai t aj=>?_
 refine a6 (b4k) ?_
 refine u4 t Tryd.zeroValue52 (cs:=[(vi 0),(vi 0),(vi 0)]) rfl fun b ak u al=>?_
 refine D5 u Tryd.sizeOf52 (vs:=[(vi 0),(vi 0),(vi 0)]) fun am v an=>?_
 have hj1:∀(l:a8)(m:a8) H w (_:Inv w0 ps0 H0 H [bx b 52 (g9 l),bx c 52 (g9 m),bx d 25 (f5 x0)] w) (_:S9 l m x0 H K),b0R (Value.pointer (some ⟨d,0,none⟩)) (Value.pointer (some ⟨c,0,none⟩)) (Value.pointer (some ⟨b,0,none⟩)) w R E:=by
  intro l m H w I h
  unfold b0R
  intro _
  unfold S9 at h
  have hj2:∀(e:a8)(n:a8) H w (_:Inv w0 ps0 H0 H [bx b 52 (g9 e),bx c 52 (g9 n),bx d 25 (f5 x0)] w) (_:S8 e n x0 H K),b0Q (Value.pointer (some ⟨c,0,none⟩)) (Value.pointer (some ⟨b,0,none⟩)) w R E:=by
   intro e n H w I h
   unfold b0Q
   intro _
   unfold S8 at h
   refine b6 (lW Tryd.isAgg52 Tryd.sizeOf52 rfl I) ?_
   refine D5 (I.bring 1) Tryd.sizeOf52 (vs:=(g9 e)) fun ao r ap=>?_
   refine a2T Tryd.isAgg52 Tryd.sizeOf52 rfl r ?_
   exact hR _ H _ _ r.drop.drop.drop ⟨e,rfl,rfl,h⟩
  refine m7 fun j2 hx2=>?_
  refine y6 (σ:=Int×a8×a8) (fun (a0b,j,f)=>[(vi a0b)]) (fun (a0b,j,f)=>[bx b 52 (g9 j),bx c 52 (g9 f),bx d 25 (f5 x0)]) h rfl (((I.bring 2).bring 2).bring 2) ?_
  rintro ⟨a0b,j,f⟩ H aq w next3 n3 o I h hn3
  dsimp only at o I h
  simp only [List.map_cons,List.map_nil,List.cons.injEq,and_true] at o
  have e5:=o
  simp only [e5]
  unfold b4w
  unfold Z9 at h
  refine a6 L2 (b6 (l1 Tryd.isAgg23 (I.bring 2) rfl) (a6 (J6 _ _ _) (a6 pLs ?_)))
  refine a6 (Pu.g fun a=>by with_reducible exact S3) ?_
  refine b6 (Ld.g fun a=>by simp only [d2 a];exact (l1 Tryd.isAgg3 I rfl)) ?_
  refine a6 (Pu.g fun a=>by simp only [d2 a];with_reducible exact pEq) ?_
  refine a6 (m9 _ _) ?_
  refine f7 h (fun _ h=>?_) (fun _ h=>?_)
  ·refine a6 L2 (b6 (l1 Tryd.isAgg23 (I.bring 2) rfl) ?_)
   obtain ⟨y,z,aa,p,h⟩:=h
   obtain ⟨ar,au,ab,p⟩:=p
   refine a6 (J4 ab _ _ _ _ y z) (b6 (ldA (vs:=(c5 aa)) Tryd.isAgg49 Tryd.sizeOf49 rfl (I.atH p)) ?_)
   refine d7 Tryd.call37 (h b) I ?_
   rintro _ _ _ av ac _ _ ⟨ad,rfl,rfl,h⟩
   refine a6 pAd ?_
   exact hn3 ((IntKind.wrap .i64 (a0b+1)),ad,f) _ _ h (((ac.bring 2).bring 2).bring 2)
  ·exact hx2 _ _ (hj2 j f H _ (((I.bring 2).bring 2).bring 2) h)
 refine m7 fun j1 hx1=>?_
 refine y6 (σ:=Int×a8×a8) (fun (a0P,k,i)=>[(vi a0P)]) (fun (a0P,k,i)=>[bx b 52 (g9 k),bx c 52 (g9 i),bx d 25 (f5 x0)]) h rfl (((v.bring 2).bring 2).bring 2) ?_
 rintro ⟨a0P,k,i⟩ H aw w next4 n4 q I h hn4
 dsimp only at q I h
 simp only [List.map_cons,List.map_nil,List.cons.injEq,and_true] at q
 have e4:=q
 simp only [e4]
 unfold b4x
 unfold a0d at h
 refine a6 L1 (b6 (l1 Tryd.isAgg22 (I.bring 2) rfl) (a6 (a0K _ _ _) (a6 pLs ?_)))
 refine a6 (Pu.g fun a=>by with_reducible exact S3) ?_
 refine b6 (Ld.g fun a=>by simp only [d2 a];exact (l1 Tryd.isAgg3 I rfl)) ?_
 refine a6 (Pu.g fun a=>by simp only [d2 a];with_reducible exact pEq) ?_
 refine a6 (m9 _ _) ?_
 refine f7 h (fun _ h=>?_) (fun _ h=>?_)
 ·refine d7 Tryd.call36 (h b) I ?_
  rintro _ _ _ ax ae _ _ ⟨ay,af,rfl,rfl,h⟩
  refine a6 pAd ?_
  exact hn4 ((IntKind.wrap .i64 (a0P+1)),af,i) _ _ h (((ae.bring 2).bring 2).bring 2)
 ·exact hx1 _ _ (hj1 k i H _ (((I.bring 2).bring 2).bring 2) h)
def T9(a:d4)(b:d4)(H:Hp)(K:Bool→Hp→Prop):Prop:=
 K true H
def U0(d:d4)(a:d4)(C5:Int)(H:Hp)(n2:Int→Hp→Prop)(K:Bool→Hp→Prop):Prop:=
 (C5 < (a.B3.n:Int)→
 (0:Int)≤C5∧(C5:Int) < a.B3.n∧∃b:s7,EltH H a.B3 C5 2 (j8 b)∧
 (0:Int)≤C5∧(C5:Int) < d.B3.n∧∃c:s7,EltH H d.B3 C5 2 (j8 c)∧
 (¬(b.f4=c.f4∧b.X1=c.X1)→
 K false H)∧
 (b.f4=c.f4∧b.X1=c.X1→
 n2 (IntKind.wrap .i64 (C5+1)) H))∧
 (¬(C5 < (a.B3.n:Int))→
 T9 d a H K)
def a1r(x0:d4)(x1:d4)(H:Hp)(K:Bool→Hp→Prop):Prop:=
 a0j x0 H (fun a c=>
 TG ((!a)=false) (a0j x1 c) false c (fun(b:Bool)(d:Hp)=>
 TG ((((!a)||(!b))||(!decide ((x0.B3.n:Int)=(x1.B3.n:Int))))=false) (J9 x0.M7 x1.M7 d) false d (fun(e:Bool)(f:Hp)=>
 (((((!a)||(!b))||(!decide ((x0.B3.n:Int)=(x1.B3.n:Int))))||(!e))=true→
 K false f)∧
 (((((!a)||(!b))||(!decide ((x0.B3.n:Int)=(x1.B3.n:Int))))||(!e))=false→
 TL (0:Int) f fun(s:Int) H n2=>U0 x1 x0 s H n2 K))))
theorem a5u(x0 x1){H K}(h:a1r x0 x1 H K):a3i x0 x1 H K:=by
 refine Ct.of fun w0 w ps0 H0 R E I hR=>b9U ?_
 unfold a1r at h
 unfold F7
 refine B2 I (cs:=(f5 x0)) rfl fun m ak z al=>?_
 refine B2 z (cs:=(f5 x1)) rfl fun n am o an=>?_
 refine b6 (lW Tryd.isAgg25 Tryd.sizeOf25 rfl (o.bring 1)) ?_
 refine d7 Tryd.call23 h o ?_
 rintro _ _ _ ao d _ _ ⟨ap,rfl,rfl,h⟩
 refine a6 (G1 _) ?_
 refine b6 (Ld.g fun a=>by exact (lW Tryd.isAgg25 Tryd.sizeOf25 rfl d)) ?_
 refine M5 [] (fun e:Bool=>(vB e)) h d (fun p h=>?_) fun e q aa b r s h=>?_
 ·have a:=p
  simp only [d2 a]
  refine d7 Tryd.call23 h d ?_
  rintro _ q _ aa b s r ⟨e,rfl,rfl,h⟩
  exact ⟨e,q,rfl,b,r,s,h⟩
 refine a6 (Pu.g fun a=>by simp only [d2 a];with_reducible exact (G1 _)) ?_
 refine a6 (D3 _ _) ?_
 refine a6 (Pu.g fun a=>by with_reducible exact L1) ?_
 refine b6 (Ld.g fun a=>by simp only [d2 a];exact (l1 Tryd.isAgg22 (b.bring 1) rfl)) ?_
 refine a6 (Pu.g fun a=>by simp only [d2 a];with_reducible exact (a0K _ _ _)) ?_
 refine a6 (Pu.g fun a=>by with_reducible exact L1) ?_
 refine b6 (Ld.g fun a=>by simp only [d2 a];exact (l1 Tryd.isAgg22 b rfl)) ?_
 refine a6 (Pu.g fun a=>by simp only [d2 a];with_reducible exact (a0K _ _ _)) ?_
 refine a6 (Pu.g fun a=>by simp only [d2 a];with_reducible exact pNe) ?_
 refine a6 (D3 _ _) ?_
 refine a6 (Pu.g fun a=>by with_reducible exact L2) ?_
 refine b6 (Ld.g fun a=>by simp only [d2 a];exact (l1 Tryd.isAgg23 (b.bring 1) rfl)) ?_
 refine a6 (Pu.g fun a=>by with_reducible exact L2) ?_
 refine b6 (Ld.g fun a=>by simp only [d2 a];exact (l1 Tryd.isAgg23 b rfl)) ?_
 refine M5 [] (fun f:Bool=>(vB f)) h b (fun t h=>?_) fun f j ab i u v h=>?_
 ·have a:=t
  simp only [d2 a]
  refine d7 Tryd.call24 h b ?_
  rintro _ j _ ab i v u ⟨f,rfl,rfl,h⟩
  exact ⟨f,j,rfl,i,u,v,h⟩
 refine a6 (Pu.g fun a=>by simp only [d2 a];with_reducible exact (G1 _)) ?_
 refine a6 (D3 _ _) ?_
 refine f7 h (fun _ h=>?_) (fun _ h=>?_)
 ·exact hR _ j _ _ i.drop.drop ⟨false,rfl,rfl,h⟩
 ·have hj1:∀H w (_:Inv w0 ps0 H0 H [bx n 25 (f5 x1),bx m 25 (f5 x0)] w) (_:T9 x1 x0 H K),b3z w R E:=by
   intro H w I h
   unfold b3z
   intro _
   unfold T9 at h
   exact hR _ H _ _ I.drop.drop ⟨true,rfl,rfl,h⟩
  refine m7 fun j1 hx1=>?_
  refine y6 (σ:=Int) (fun C5=>[(vi C5)]) (fun C5=>[bx n 25 (f5 x1),bx m 25 (f5 x0)]) h rfl ((i.bring 1).bring 1) ?_
  rintro C5 H aq w next2 n2 y I h hn2
  simp only [List.map_cons,List.map_nil,List.cons.injEq,and_true] at y
  have e5:=y
  simp only [e5]
  unfold b6H
  unfold U0 at h
  refine a6 L1 (b6 (l1 Tryd.isAgg22 (I.bring 1) rfl) (a6 (a0K _ _ _) (a6 pLs ?_)))
  refine d3 h (fun _ h=>?_) (fun _ h=>?_)
  ·refine a0l I fun ar c=>?_
   refine g8 L1 ?_
   refine g8 L1 ?_
   refine r6 (l1 Tryd.isAgg22 (c.bring 1) rfl) ?_
   obtain ⟨ac,ad,ae,k,h⟩:=h
   obtain ⟨au,av,af,k⟩:=k
   refine g8 (a2F af _ _ _ _ ac ad) ?_
   refine r6 (ldA (vs:=(j8 ae)) Tryd.isAgg45 Tryd.sizeOf45 rfl (c.atH k)) ?_
   refine r6 (l1 Tryd.isAgg22 c rfl) ?_
   obtain ⟨ag,ah,ai,l,h⟩:=h
   obtain ⟨aw,ax,aj,l⟩:=l
   refine g8 (a2F aj _ _ _ _ ag ah) ?_
   refine r6 (ldA (vs:=(j8 ai)) Tryd.isAgg45 Tryd.sizeOf45 rfl (c.atH l)) ?_
   refine g8 (b0H _ _ _ _ _ _) ?_
   refine a0m h (fun _ h=>?_) (fun _ h=>?_)
   ·exact hR _ H _ _ c.drop.drop ⟨false,rfl,rfl,h⟩
   ·refine a6 pAd ?_
    exact hn2 (IntKind.wrap .i64 (C5+1)) _ _ h ((c.bring 1).bring 1)
  ·exact hx1 _ _ (hj1 H _ ((I.bring 1).bring 1) h)
def R6(e:Int)(f:Int)(g:(List b8))(i:(List b9))(j:b9)(k:b9)(H:Hp)(K:b9→Hp→Prop):Prop:=
 ∀(c:Sl)(a:Hp),Hle H a→SlH a 4 c7 c g→NewS H a 41 4 c→
 ∀(d:Sl)(b:Hp),Hle a b→SlH b 4 c9 d i→NewS a b 77 4 d→
 K (b9.mk e f c d) b
def R7(i:(List b8))(a:b9)(a0b:Int)(c:Int)(d:Int)(b:(List b9))(e:b9)(H:Hp)(n3:(Int×Int×Int×(List b9)×b9)→Hp→Prop)(K:b9→Hp→Prop):Prop:=
 (a0b < (a.q6.n:Int)→
 (0:Int)≤a0b∧(a0b:Int) < a.q6.n∧∃f:b9,EltH H a.q6 a0b 4 (c9 f)∧
 T5 f H (fun g j=>
 (b.length+([g]:List b9).length)*65≤140737488355328∧
 n3 ((IntKind.wrap .i64 (a0b+1)),c,d,(b++[g]),e) j))∧
 (¬(a0b < (a.q6.n:Int))→
 R6 c d i b e a H K)
def R8(a:Int)(b:Int)(c:(List b8))(d:(List b9))(e:b9)(f:b9)(H:Hp)(K:b9→Hp→Prop):Prop:=
 TL ((0,a,b,d,e):Int×Int×Int×(List b9)×b9) H fun(s:Int×Int×Int×(List b9)×b9) H n3=>R7 c f s.1 s.2.1 s.2.2.1 s.2.2.2.1 s.2.2.2.2 H n3 K
def R9(a:b9)(a0P:Int)(c:Int)(d:Int)(b:(List b8))(e:(List b9))(f:b9)(H:Hp)(n4:(Int×Int×Int×(List b8)×(List b9)×b9)→Hp→Prop)(K:b9→Hp→Prop):Prop:=
 (a0P < (a.d5.n:Int)→
 (0:Int)≤a0P∧(a0P:Int) < a.d5.n∧∃g:b8,EltH H a.d5 a0P 4 (c7 g)∧
 O6 g H (fun i j=>
 (b.length+([i]:List b8).length)*57≤140737488355328∧
 n4 ((IntKind.wrap .i64 (a0P+1)),c,d,(b++[i]),e,f) j))∧
 (¬(a0P < (a.d5.n:Int))→
 R8 c d b e f a H K)
def a0w(x0:b9)(H:Hp)(K:b9→Hp→Prop):Prop:=
 TL ((0,x0.b7,x0.fOp,[],[],(b9.mk 0 0 (Sl.mk none 0 0) (Sl.mk none 0 0))):Int×Int×Int×(List b8)×(List b9)×b9) H fun(s:Int×Int×Int×(List b8)×(List b9)×b9) H n4=>R9 x0 s.1 s.2.1 s.2.2.1 s.2.2.2.1 s.2.2.2.2.1 s.2.2.2.2.2 H n4 K
theorem a4R(x0){H K}(h:a0w x0 H K):T5 x0 H K:=by
 refine Ct.of fun w0 w ps0 H0 R E I hR=>b8P ?_
 unfold a0w at h
 unfold F47
 refine B2 I (cs:=(c9 x0)) rfl fun ac du bs dv=>?_
 refine u4 bs Tryd.zeroValue77 (cs:=[(vi 0),(vi 0),(nS),(nS)]) rfl fun u dw av dx=>?_
 refine a6 a1e (b6 (l1 Tryd.isAgg3 (av.bring 1) rfl) (a6 Y3 (b6 (l1 Tryd.isAgg3 (av.bring 1) rfl) (a6 (b0k _ _) ?_))))
 refine u4 av Tryd.zeroValue77 (cs:=[(vi 0),(vi 0),(nS),(nS)]) rfl fun v dy bt dz=>?_
 refine D5 bt Tryd.sizeOf77 (vs:=[(vi x0.b7),(vi x0.fOp),(nS),(nS)]) fun ea bu eb=>?_
 have hj1:∀(al:Int)(am:Int)(ad:(List b8))(an:(List b9))(ao:b9)(m:Sl)(ae:Frag)(ap:Sl)(aq:Frag) H w (_:RowL 41 4 c7 m ad ae) (_:RowL 77 4 c9 ap an aq) (_:Inv w0 ps0 H0 H [bx v 77 [(vi al),(vi am),(vs m),(vs ap)],bx u 77 (c9 ao),bx ac 77 (c9 x0),ae,aq] w) (_:R8 al am ad an ao x0 H K),b1E (Value.pointer (some ⟨ac,0,none⟩)) (Value.pointer (some ⟨u,0,none⟩)) (Value.pointer (some ⟨v,0,none⟩)) w R E:=by
  intro al am ad an ao m ae ap aq H w bv bw I h
  unfold b1E
  intro _
  unfold R8 at h
  have hj2:∀(y:Int)(z:Int)(aw:(List b8))(ax:(List b9))(ay:b9)(az:Frag)(t:Sl)(ba:Frag) H w (_:RowL 41 4 c7 m aw az) (_:RowL 77 4 c9 t ax ba) (_:Inv w0 ps0 H0 H [bx v 77 [(vi y),(vi z),(vs m),(vs t)],bx u 77 (c9 ay),bx ac 77 (c9 x0),az,ba] w) (_:R6 y z aw ax ay x0 H K),b1D (Value.pointer (some ⟨u,0,none⟩)) (Value.pointer (some ⟨v,0,none⟩)) w R E:=by
   intro y z aw ax ay az t ba H w bz ca I h
   unfold b1D
   intro _
   unfold R6 at h
   refine b6 (ldA Tryd.isAgg77 Tryd.sizeOf77 rfl (I.at1 (o:=0) (vs:=[(vi y),(vi z),(vs m),(vs t)]) (nb rfl) rfl)) ?_
   refine D5 (I.bring 1) Tryd.sizeOf77 (vs:=[(vi y),(vi z),(vs m),(vs t)]) fun ec bk ed=>?_
   refine a2T Tryd.isAgg77 Tryd.sizeOf77 rfl bk ?_
   obtain ⟨cb,cc,cd,ce,cf⟩:=Inv.freezeN (bk.bring 3) bz (by decide)
   replace h:=h m cb cd ce cf
   obtain ⟨bl,cg,ch,ci,cj⟩:=Inv.freezeN (cc.bring 3) ca (by decide)
   replace h:=h t bl ch ci cj
   exact hR _ bl _ _ cg.drop.drop.drop ⟨(b9.mk y z m t),rfl,rfl,h⟩
  refine m7 fun j2 hx2=>?_
  obtain ⟨bb,af,ck,cl⟩:=h
  refine T1 (J:=fun n l w=>∃(s:Int×Int×Int×(List b9)×b9)(H:Hp)(ag:Sl)(ar:Frag),n=af s∧l=(match s with | (a0b,p,q,f,r)=>[(vi a0b)])∧(match s with | (a0b,p,q,f,r)=>RowL 77 4 c9 ag f ar)∧(match s with | (a0b,p,q,f,r)=>Inv w0 ps0 H0 H [bx v 77 [(vi p),(vi q),(vs m),(vs ag)],bx u 77 (c9 r),bx ac 77 (c9 x0),ae,ar] w)∧bb s H) ⟨_,(0,al,am,an,ao),H,ap,aq,rfl,rfl,bw,(((((I.bring 4).bring 4).bring 4).bring 4).bring 4),ck⟩ ?_
  rintro ee ef w next3 ⟨⟨a0b,p,q,f,r⟩,H,ag,ar,rfl,bc,bd,I,cm⟩ hn3
  dsimp only at bc I bd
  simp only [List.map_cons,List.map_nil,List.cons.injEq,and_true] at bc
  have e5:=bc
  simp only [e5]
  obtain ⟨n3,hm3,h⟩:∃n3:(Int×Int×Int×(List b9)×b9)→Hp→Prop,(∀s' H',n3 s' H'→bb s' H'∧af s' < af (a0b,p,q,f,r))∧R7 ad x0 a0b p q f r H n3 K:=⟨_,fun _ _ h=>h,cl (a0b,p,q,f,r) H (fun s' H'=>bb s' H'∧af s' < af (a0b,p,q,f,r)) cm (fun _ _ a b=>⟨a,b⟩)⟩
  unfold b4Z
  unfold R7 at h
  refine a6 G9 (b6 (l1 Tryd.isAgg47 (I.bring 2) rfl) (a6 (K2 _ _ _) (a6 pLs ?_)))
  refine d3 h (fun _ h=>?_) (fun _ h=>?_)
  ·refine a0l I fun eg aa=>?_
   refine g8 G9 ?_
   refine g8 G9 ?_
   refine r6 (l1 Tryd.isAgg47 aa rfl) ?_
   refine r6 (l1 Tryd.isAgg47 (aa.bring 2) rfl) ?_
   obtain ⟨cn,co,cp,be,h⟩:=h
   obtain ⟨eh,ei,cq,be⟩:=be
   refine g8 (Y2 cq _ _ _ _ cn co) ?_
   refine r6 (ldA (vs:=(c9 cp)) Tryd.isAgg77 Tryd.sizeOf77 rfl (aa.atH be)) ?_
   refine d7 Tryd.call47 h aa ?_
   rintro _ cr _ ej bm _ ct ⟨bn,rfl,rfl,h⟩
   refine ⟨(ct _ aa.lt1 (Inv.Y0 (Fi:=[]) aa)),?_⟩
   refine a1y (e:=77) (c:=c9) (xs:=[bn]) bm (a9y _ _ _ _ _ _ _ _) rfl rfl Y8 Y9 (nb rfl) fun ek el em cu bo cv=>?_
   refine ⟨(cv _ bm.lt1),?_⟩
   obtain ⟨cw,h⟩:=h
   refine b0I (s:=ag) (xs:=f) (bo.bring 5) bd (cu.srcO ((bo.bring 5).bring 1)) cw fun cx cy en cz da eo=>?_
   refine g8 G9 ?_
   refine N2 ((da.bring 1).drop.bring 1) Tryd.sizeOf47 fun ep db eq=>?_
   refine a6 pAd ?_
   exact hn3 _ _ _ (hm3 _ _ h).2 ⟨((IntKind.wrap .i64 (a0b+1)),p,q,(f++[bn]),r),cr,cx,cy,rfl,rfl,cz,(((((db.bring 1).bring 4).bring 4).bring 4).bring 4),(hm3 _ _ h).1⟩
  ·exact hx2 _ _ (hj2 p q ad f r ae ag ar H _ bv bd (((((I.bring 4).bring 4).bring 4).bring 4).bring 4) h)
 refine m7 fun j1 hx1=>?_
 obtain ⟨bf,ah,dc,dd⟩:=h
 refine T1 (J:=fun n l w=>∃(s:Int×Int×Int×(List b8)×(List b9)×b9)(H:Hp)(ai:Sl)(au:Frag)(aj:Sl)(ak:Frag),n=ah s∧l=(match s with | (a0P,g,i,d,j,k)=>[(vi a0P)])∧(match s with | (a0P,g,i,d,j,k)=>RowL 41 4 c7 ai d au)∧(match s with | (a0P,g,i,d,j,k)=>RowL 77 4 c9 aj j ak)∧(match s with | (a0P,g,i,d,j,k)=>Inv w0 ps0 H0 H [bx v 77 [(vi g),(vi i),(vs ai),(vs aj)],bx u 77 (c9 k),bx ac 77 (c9 x0),au,ak] w)∧bf s H) ⟨_,(0,x0.b7,x0.fOp,[],[],(b9.mk 0 0 (Sl.mk none 0 0) (Sl.mk none 0 0))),H,(Sl.mk none 0 0),[],(Sl.mk none 0 0),[],rfl,rfl,(RowL.nil O1 O2),(RowL.nil Y8 Y9),((((bu.nil.nil.bring 1).bring 4).bring 4).bring 4),dc⟩ ?_
 rintro er es w next4 ⟨⟨a0P,g,i,d,j,k⟩,H,ai,au,aj,ak,rfl,bg,bh,bi,I,de⟩ hn4
 dsimp only at bg I bh bi
 simp only [List.map_cons,List.map_nil,List.cons.injEq,and_true] at bg
 have e4:=bg
 simp only [e4]
 obtain ⟨n4,hm4,h⟩:∃n4:(Int×Int×Int×(List b8)×(List b9)×b9)→Hp→Prop,(∀s' H',n4 s' H'→bf s' H'∧ah s' < ah (a0P,g,i,d,j,k))∧R9 x0 a0P g i d j k H n4 K:=⟨_,fun _ _ h=>h,dd (a0P,g,i,d,j,k) H (fun s' H'=>bf s' H'∧ah s' < ah (a0P,g,i,d,j,k)) de (fun _ _ a b=>⟨a,b⟩)⟩
 unfold b5a
 unfold R9 at h
 refine a6 G8 (b6 (l1 Tryd.isAgg39 (I.bring 2) rfl) (a6 (B0 _ _ _) (a6 pLs ?_)))
 refine d3 h (fun _ h=>?_) (fun _ h=>?_)
 ·refine a0l I fun et ab=>?_
  refine g8 G8 ?_
  refine g8 G8 ?_
  refine r6 (l1 Tryd.isAgg39 ab rfl) ?_
  refine r6 (l1 Tryd.isAgg39 (ab.bring 2) rfl) ?_
  obtain ⟨df,dg,dh,bj,h⟩:=h
  obtain ⟨eu,ev,di,bj⟩:=bj
  refine g8 (O3 di _ _ _ _ df dg) ?_
  refine r6 (ldA (vs:=(c7 dh)) Tryd.isAgg41 Tryd.sizeOf41 rfl (ab.atH bj)) ?_
  refine d7 Tryd.call48 h ab ?_
  rintro _ dj _ ew bp _ dk ⟨bq,rfl,rfl,h⟩
  refine ⟨(dk _ ab.lt1 (Inv.Y0 (Fi:=[]) ab)),?_⟩
  refine a1y (e:=41) (c:=c7) (xs:=[bq]) bp (a6I _ _ _ _ _ _) rfl rfl O1 O2 (nb rfl) fun ex ey ez dl br dm=>?_
  refine ⟨(dm _ bp.lt1),?_⟩
  obtain ⟨dn,h⟩:=h
  refine a8Z (s:=ai) (xs:=d) (br.bring 4) bh (dl.srcO ((br.bring 4).bring 1)) dn fun dp dq fa dr ds fb=>?_
  refine g8 G8 ?_
  refine N2 ((ds.bring 1).drop.bring 1) Tryd.sizeOf39 fun fc dt fd=>?_
  refine a6 pAd ?_
  exact hn4 _ _ _ (hm4 _ _ h).2 ⟨((IntKind.wrap .i64 (a0P+1)),g,i,(d++[bq]),j,k),dj,dp,dq,aj,ak,rfl,rfl,dr,bi,(((((dt.bring 4).bring 2).bring 4).bring 4).bring 4),(hm4 _ _ h).1⟩
 ·exact hx1 _ _ (hj1 g i d j k ai au aj ak H _ bh bi (((((I.bring 4).bring 4).bring 4).bring 4).bring 4) h)
def K8(c0n:Sl)(a8c:(List c6))(b2j:Int)(H:Hp)(n2:((List c6)×Int)→Hp→Prop)(K:Sl→Hp→Prop):Prop:=
 n2 (a8c,(IntKind.wrap .i64 (b2j+1))) H
def Q1(c0A:Sl)(a6o:(List c6))(a9B:Int)(e:Int)(f:ByteArray)(j:(List b8))(k:(List b9))(g:Sl)(i:Sl)(H:Hp)(n2:((List c6)×Int)→Hp→Prop)(K:Sl→Hp→Prop):Prop:=
 ∀(b:Sl)(a:Hp),Hle H a→SlH a 4 c7 b j→NewS H a 41 4 b→
 ∀(c:Sl)(d:Hp),Hle a d→SlH d 4 c9 c k→NewS a d 77 4 c→
 (a6o.length+([(c6.mk e f b c g i)]:List c6).length)*121≤140737488355328∧
 K8 c0A (a6o++[(c6.mk e f b c g i)]) a9B d n2 K
def Q2(b2h:Sl)(b9X:(List c6))(b3D:Int)(j:(List b9))(Z2:Int)(c:Int)(d:ByteArray)(b:(List b8))(e:Sl)(f:Sl)(H:Hp)(n2:((List c6)×Int)→Hp→Prop)(n7:(Int×Int×ByteArray×(List b8)×Sl×Sl)→Hp→Prop)(K:Sl→Hp→Prop):Prop:=
 (0:Int)≤b3D∧(b3D:Int) < b2h.n∧∃a:c6,EltH H b2h b3D 6 (c5 a)∧
 (Z2 < (a.d5.n:Int)→
 (0:Int)≤Z2∧(Z2:Int) < a.d5.n∧∃g:b8,EltH H a.d5 Z2 4 (c7 g)∧
 O6 g H (fun i k=>
 (b.length+([i]:List b8).length)*57≤140737488355328∧
 n7 ((IntKind.wrap .i64 (Z2+1)),c,d,(b++[i]),e,f) k))∧
 (¬(Z2 < (a.d5.n:Int))→
 Q1 b2h b9X b3D c d b j e f H n2 K)
def Q3(b3B:Sl)(b9Y:(List c6))(b5X:Int)(a:Int)(b:ByteArray)(c:(List b8))(d:(List b9))(e:Sl)(f:Sl)(H:Hp)(n2:((List c6)×Int)→Hp→Prop)(K:Sl→Hp→Prop):Prop:=
 TL ((0,a,b,c,e,f):Int×Int×ByteArray×(List b8)×Sl×Sl) H fun(s:Int×Int×ByteArray×(List b8)×Sl×Sl) H n7=>Q2 b3B b9Y b5X d s.1 s.2.1 s.2.2.1 s.2.2.2.1 s.2.2.2.2.1 s.2.2.2.2.2 H n2 n7 K
def Q4(b5Y:Sl)(b9Z:(List c6))(b3E:Int)(j:(List b8))(Z3:Int)(c:Int)(d:ByteArray)(b:(List b9))(e:Sl)(f:Sl)(H:Hp)(n2:((List c6)×Int)→Hp→Prop)(n8:(Int×Int×ByteArray×(List b9)×Sl×Sl)→Hp→Prop)(K:Sl→Hp→Prop):Prop:=
 (0:Int)≤b3E∧(b3E:Int) < b5Y.n∧∃a:c6,EltH H b5Y b3E 6 (c5 a)∧
 (Z3 < (a.m8.n:Int)→
 (0:Int)≤Z3∧(Z3:Int) < a.m8.n∧∃g:b9,EltH H a.m8 Z3 4 (c9 g)∧
 T5 g H (fun i k=>
 (b.length+([i]:List b9).length)*65≤140737488355328∧
 n8 ((IntKind.wrap .i64 (Z3+1)),c,d,(b++[i]),e,f) k))∧
 (¬(Z3 < (a.m8.n:Int))→
 Q3 b5Y b9Z b3E c d j b e f H n2 K)
def Q5(b5W:Sl)(c0a:(List c6))(a8J:Int)(a:Int)(b:ByteArray)(c:(List b8))(d:(List b9))(e:Sl)(f:Sl)(H:Hp)(n2:((List c6)×Int)→Hp→Prop)(K:Sl→Hp→Prop):Prop:=
 TL ((0,a,b,d,e,f):Int×Int×ByteArray×(List b9)×Sl×Sl) H fun(s:Int×Int×ByteArray×(List b9)×Sl×Sl) H n8=>Q4 b5W c0a a8J c s.1 s.2.1 s.2.2.1 s.2.2.2.1 s.2.2.2.2.1 s.2.2.2.2.2 H n2 n8 K
def K9(a9d:(List c6))(H:Hp)(K:Sl→Hp→Prop):Prop:=
 ∀(a5v:Sl)(a:Hp),Hle H a→SlH a 6 c5 a5v a9d→NewS H a 49 6 a5v→
 K a5v a
def L0(a2r:Sl)(a2e:(List c6))(B4:Int)(H:Hp)(n2:((List c6)×Int)→Hp→Prop)(K:Sl→Hp→Prop):Prop:=
 (B4 < (a2r.n:Int)→
 (0:Int)≤B4∧(B4:Int) < a2r.n∧∃a:c6,EltH H a2r B4 6 (c5 a)∧
 N9 a.B1 H (fun b c=>
 N9 a.A8 c (fun d e=>
 Q5 a2r a2e B4 a.b7 a.f4 [] [] b d e n2 K)))∧
 (¬(B4 < (a2r.n:Int))→
 K9 a2e H K)
def T0(x0:Sl)(H:Hp)(K:Sl→Hp→Prop):Prop:=
 TL (([],0):(List c6)×Int) H fun(s:(List c6)×Int) H n2=>L0 x0 s.1 s.2 H n2 K
theorem a2v(x0){H K}(h:T0 x0 H K):N9 x0 H K:=by
 refine Ct.of fun w0 w ps0 H0 R E I hR=>b8x ?_
 unfold T0 at h
 unfold F29
 have hj1:∀(a9d:(List c6))(a5v:Sl)(Fs3j1:Frag) H w (_:RowL 49 6 c5 a5v a9d Fs3j1) (_:Inv w0 ps0 H0 H [Fs3j1] w) (_:K9 a9d H K),b1d (vs a5v) w R E:=by
  intro a9d a5v Fs3j1 H w c0b I h
  unfold b1d
  intro _
  unfold K9 at h
  obtain ⟨cu,dt,du,dv,dw⟩:=Inv.freezeN I c0b (by decide)
  replace h:=h a5v cu du dv dw
  exact hR _ cu _ _ dt ⟨a5v,rfl,rfl,h⟩
 refine m7 fun j1 hx1=>?_
 obtain ⟨cc,aq,dx,dy⟩:=h
 refine T1 (J:=fun n l w=>∃(s:(List c6)×Int)(H:Hp)(a5w:Sl)(Fs3l2:Frag),n=aq s∧l=(match s with | (a2e,B4)=>[(vs a5w),(vi B4)])∧(match s with | (a2e,B4)=>RowL 49 6 c5 a5w a2e Fs3l2)∧(match s with | (a2e,B4)=>Inv w0 ps0 H0 H [Fs3l2] w)∧cc s H) ⟨_,([],0),H,(Sl.mk none 0 0),[],rfl,rfl,(RowL.nil a2Q a2R),I.nil,dx⟩ ?_
 rintro gn go w next2 ⟨⟨a2e,B4⟩,H,a5w,Fs3l2,rfl,cd,b3F,I,dz⟩ hn2
 dsimp only at cd I b3F
 simp only [List.map_cons,List.map_nil,List.cons.injEq,and_true] at cd
 obtain ⟨e3,e4⟩:=cd
 simp only [e3,e4]
 obtain ⟨n2,hm2,h⟩:∃n2:((List c6)×Int)→Hp→Prop,(∀s' H',n2 s' H'→cc s' H'∧aq s' < aq (a2e,B4))∧L0 x0 a2e B4 H n2 K:=⟨_,fun _ _ h=>h,dy (a2e,B4) H (fun s' H'=>cc s' H'∧aq s' < aq (a2e,B4)) dz (fun _ _ a b=>⟨a,b⟩)⟩
 unfold b4J
 unfold L0 at h
 refine a6 (J6 _ _ _) (a6 pLs ?_)
 refine d3 h (fun _ h=>?_) (fun _ h=>?_)
 ·have hj3:∀(a8c:(List c6))(b0s:Sl)(Fs3j3:Frag) H w (_:RowL 49 6 c5 b0s a8c Fs3j3) (_:Inv w0 ps0 H0 H [Fs3j3] w) (_:K8 x0 a8c B4 H n2 K),b1e (vs x0) (vs b0s) (vi B4) w next2 R E:=by
   intro a8c b0s Fs3j3 H w c0c I h
   unfold b1e
   intro _
   unfold K8 at h
   refine a6 pAd ?_
   exact hn2 _ _ _ (hm2 _ _ h).2 ⟨(a8c,(IntKind.wrap .i64 (B4+1))),H,b0s,Fs3j3,rfl,rfl,c0c,I,(hm2 _ _ h).1⟩
  refine m7 fun j3 hx3=>?_
  have hj4:∀(bc:Int)(bd:ByteArray)(ag:(List b8))(be:(List b9))(bf:Sl)(bg:Sl)(ah:Sl)(ai:Frag)(bh:Sl)(bi:Frag)(ad:Nat) H w (_:RowL 41 4 c7 ah ag ai) (_:RowL 77 4 c9 bh be bi) (_:Inv w0 ps0 H0 H [bx ad 49 [(vi bc),(Value.string bd),(vs ah),(vs bh),(vs bf),(vs bg)],Fs3l2,ai,bi] w) (_:Q5 x0 a2e B4 bc bd ag be bf bg H n2 K),b1h (vs x0) (vs a5w) (vi B4) (Value.pointer (some ⟨ad,0,none⟩)) w j3 R E:=by
   intro bc bd ag be bf bg ah ai bh bi ad H w ea eb I h
   unfold b1h
   intro _
   unfold Q5 at h
   have hj5:∀(bj:Int)(bk:ByteArray)(ar:(List b9))(bl:Sl)(bm:Sl)(p:Sl)(au:Frag) H w (_:RowL 77 4 c9 p ar au) (_:Inv w0 ps0 H0 H [bx ad 49 [(vi bj),(Value.string bk),(vs ah),(vs p),(vs bl),(vs bm)],Fs3l2,ai,au] w) (_:Q3 x0 a2e B4 bj bk ag ar bl bm H n2 K),b1g (vs x0) (vs a5w) (vi B4) (Value.pointer (some ⟨ad,0,none⟩)) w j3 R E:=by
    intro bj bk ar bl bm p au H w ec I h
    unfold b1g
    intro _
    unfold Q3 at h
    have hj6:∀(a6o:(List c6))(aj:Int)(ak:ByteArray)(ce:(List b8))(cf:(List b9))(al:Sl)(am:Sl)(Fs3j6:Frag)(ae:Sl)(cg:Frag)(ch:Frag) H w (_:RowL 49 6 c5 a5w a6o Fs3j6) (_:RowL 41 4 c7 ae ce cg) (_:RowL 77 4 c9 p cf ch) (_:Inv w0 ps0 H0 H [bx ad 49 [(vi aj),(Value.string ak),(vs ae),(vs p),(vs al),(vs am)],Fs3j6,cg,ch] w) (_:Q1 x0 a6o B4 aj ak ce cf al am H n2 K),b1f (vs x0) (vs a5w) (vi B4) (Value.pointer (some ⟨ad,0,none⟩)) w j3 R E:=by
     intro a6o aj ak ce cf al am Fs3j6 ae cg ch H w c0d ed ee I h
     unfold b1f
     intro _
     unfold Q1 at h
     refine b6 (ldA Tryd.isAgg49 Tryd.sizeOf49 rfl (I.at1 (o:=0) (vs:=[(vi aj),(Value.string ak),(vs ae),(vs p),(vs al),(vs am)]) (nb rfl) rfl)) ?_
     obtain ⟨ef,eg,eh,ei,ej⟩:=Inv.freezeN (I.bring 2) ed (by decide)
     replace h:=h ae ef eh ei ej
     obtain ⟨cv,ek,el,em,en⟩:=Inv.freezeN (eg.bring 2) ee (by decide)
     replace h:=h p cv el em en
     refine a1y (e:=49) (c:=c5) (xs:=[(c6.mk aj ak ae p al am)]) ek (a9x _ _ _ _ _ _ _ _ _ _ _ _ _ _) rfl rfl a2Q a2R (nb rfl) fun gp gq gr eo cw gs=>?_
     obtain ⟨ep,h⟩:=h
     refine b4l (s:=a5w) (xs:=a6o) (cw.bring 2) c0d (eo.srcO ((cw.bring 2).bring 1)) ep fun eq er gt es et gu=>?_
     exact hx3 _ _ (hj3 (a6o++[(c6.mk aj ak ae p al am)]) eq er cv _ es ((et.bring 1).drop.bring 1).drop h)
    refine m7 fun j6 hx6=>?_
    obtain ⟨ci,av,eu,ev⟩:=h
    refine T1 (J:=fun n l w=>∃(s:Int×Int×ByteArray×(List b8)×Sl×Sl)(H:Hp)(aw:Sl)(bn:Frag),n=av s∧l=(match s with | (Z2,q,r,j,t,u)=>[(vi Z2)])∧(match s with | (Z2,q,r,j,t,u)=>RowL 41 4 c7 aw j bn)∧(match s with | (Z2,q,r,j,t,u)=>Inv w0 ps0 H0 H [bx ad 49 [(vi q),(Value.string r),(vs aw),(vs p),(vs t),(vs u)],Fs3l2,au,bn] w)∧ci s H) ⟨_,(0,bj,bk,ag,bl,bm),H,ah,ai,rfl,rfl,ea,((((I.bring 2).bring 3).bring 3).bring 3),eu⟩ ?_
    rintro gv gw w next7 ⟨⟨Z2,q,r,j,t,u⟩,H,aw,bn,rfl,cj,ck,I,ew⟩ hn7
    dsimp only at cj I ck
    simp only [List.map_cons,List.map_nil,List.cons.injEq,and_true] at cj
    have e7:=cj
    simp only [e7]
    obtain ⟨n7,hm7,h⟩:∃n7:(Int×Int×ByteArray×(List b8)×Sl×Sl)→Hp→Prop,(∀s' H',n7 s' H'→ci s' H'∧av s' < av (Z2,q,r,j,t,u))∧Q2 x0 a2e B4 ar Z2 q r j t u H n2 n7 K:=⟨_,fun _ _ h=>h,ev (Z2,q,r,j,t,u) H (fun s' H'=>ci s' H'∧av s' < av (Z2,q,r,j,t,u)) ew (fun _ _ a b=>⟨a,b⟩)⟩
    unfold b4H
    unfold Q2 at h
    obtain ⟨cx,cy,cz,bo,h⟩:=h
    obtain ⟨gx,gy,da,bo⟩:=bo
    refine a6 (J4 da _ _ _ _ cx cy) (a6 D8 (b6 (ld1 (v:=(vs cz.d5)) Tryd.isAgg39 ((I.atH bo).sub (k:=2) (n:=1) (nb rfl))) (a6 (B0 _ _ _) (a6 pLs ?_))))
    refine d3 h (fun _ h=>?_) (fun _ h=>?_)
    ·refine a0l I fun gz an=>?_
     refine g8 D8 ?_
     refine g8 (J4 da _ _ _ _ cx cy) ?_
     refine g8 D8 ?_
     refine r6 (l1 Tryd.isAgg39 an rfl) ?_
     refine r6 (ld1 (v:=(vs cz.d5)) Tryd.isAgg39 ((an.atH bo).sub (k:=2) (n:=1) (nb rfl))) ?_
     obtain ⟨ex,ey,ez,cl,h⟩:=h
     obtain ⟨ha,hb,fa,cl⟩:=cl
     refine g8 (O3 fa _ _ _ _ ex ey) ?_
     refine r6 (ldA (vs:=(c7 ez)) Tryd.isAgg41 Tryd.sizeOf41 rfl (an.atH cl)) ?_
     refine d7 Tryd.call48 h an ?_
     rintro _ fb _ hc db _ fc ⟨dc,rfl,rfl,h⟩
     refine ⟨(fc _ an.lt1 (Inv.Y0 (Fi:=[]) an)),?_⟩
     refine a1y (e:=41) (c:=c7) (xs:=[dc]) db (a6I _ _ _ _ _ _) rfl rfl O1 O2 (nb rfl) fun hd he hf fd dd fe=>?_
     refine ⟨(fe _ db.lt1),?_⟩
     obtain ⟨ff,h⟩:=h
     refine a8Z (s:=aw) (xs:=j) (dd.bring 4) ck (fd.srcO ((dd.bring 4).bring 1)) ff fun fg fh hg fi fj hh=>?_
     refine g8 D8 ?_
     refine N2 ((fj.bring 1).drop.bring 1) Tryd.sizeOf39 fun hi fk hj=>?_
     refine a6 pAd ?_
     exact hn7 _ _ _ (hm7 _ _ h).2 ⟨((IntKind.wrap .i64 (Z2+1)),q,r,(j++[dc]),t,u),fb,fg,fh,rfl,rfl,fi,((((fk.bring 1).bring 3).bring 3).bring 3),(hm7 _ _ h).1⟩
    ·exact hx6 _ _ (hj6 a2e q r j ar t u Fs3l2 aw bn au H _ b3F ck ec ((((I.bring 2).bring 3).bring 3).bring 3) h)
   refine m7 fun j5 hx5=>?_
   obtain ⟨cm,ax,fl,fm⟩:=h
   refine T1 (J:=fun n l w=>∃(s:Int×Int×ByteArray×(List b9)×Sl×Sl)(H:Hp)(ay:Sl)(bp:Frag),n=ax s∧l=(match s with | (Z3,y,z,m,aa,ab)=>[(vi Z3)])∧(match s with | (Z3,y,z,m,aa,ab)=>RowL 77 4 c9 ay m bp)∧(match s with | (Z3,y,z,m,aa,ab)=>Inv w0 ps0 H0 H [bx ad 49 [(vi y),(Value.string z),(vs ah),(vs ay),(vs aa),(vs ab)],Fs3l2,ai,bp] w)∧cm s H) ⟨_,(0,bc,bd,be,bf,bg),H,bh,bi,rfl,rfl,eb,((((I.bring 3).bring 3).bring 3).bring 3),fl⟩ ?_
   rintro hk hl w next8 ⟨⟨Z3,y,z,m,aa,ab⟩,H,ay,bp,rfl,cn,co,I,fn⟩ hn8
   dsimp only at cn I co
   simp only [List.map_cons,List.map_nil,List.cons.injEq,and_true] at cn
   have e6:=cn
   simp only [e6]
   obtain ⟨n8,hm8,h⟩:∃n8:(Int×Int×ByteArray×(List b9)×Sl×Sl)→Hp→Prop,(∀s' H',n8 s' H'→cm s' H'∧ax s' < ax (Z3,y,z,m,aa,ab))∧Q4 x0 a2e B4 ag Z3 y z m aa ab H n2 n8 K:=⟨_,fun _ _ h=>h,fm (Z3,y,z,m,aa,ab) H (fun s' H'=>cm s' H'∧ax s' < ax (Z3,y,z,m,aa,ab)) fn (fun _ _ a b=>⟨a,b⟩)⟩
   unfold b4I
   unfold Q4 at h
   obtain ⟨de,df,dg,bq,h⟩:=h
   obtain ⟨hm,hn,dh,bq⟩:=bq
   refine a6 (J4 dh _ _ _ _ de df) (a6 G7 (b6 (ld1 (v:=(vs dg.m8)) Tryd.isAgg47 ((I.atH bq).sub (k:=3) (n:=1) (nb rfl))) (a6 (K2 _ _ _) (a6 pLs ?_))))
   refine d3 h (fun _ h=>?_) (fun _ h=>?_)
   ·refine a0l I fun ho ao=>?_
    refine g8 G7 ?_
    refine g8 (J4 dh _ _ _ _ de df) ?_
    refine g8 G7 ?_
    refine r6 (l1 Tryd.isAgg47 ao rfl) ?_
    refine r6 (ld1 (v:=(vs dg.m8)) Tryd.isAgg47 ((ao.atH bq).sub (k:=3) (n:=1) (nb rfl))) ?_
    obtain ⟨fo,fp,fq,cp,h⟩:=h
    obtain ⟨hp,hq,fs,cp⟩:=cp
    refine g8 (Y2 fs _ _ _ _ fo fp) ?_
    refine r6 (ldA (vs:=(c9 fq)) Tryd.isAgg77 Tryd.sizeOf77 rfl (ao.atH cp)) ?_
    refine d7 Tryd.call47 h ao ?_
    rintro _ ft _ hr di _ fu ⟨dj,rfl,rfl,h⟩
    refine ⟨(fu _ ao.lt1 (Inv.Y0 (Fi:=[]) ao)),?_⟩
    refine a1y (e:=77) (c:=c9) (xs:=[dj]) di (a9y _ _ _ _ _ _ _ _) rfl rfl Y8 Y9 (nb rfl) fun hs ht hu fv dk fw=>?_
    refine ⟨(fw _ di.lt1),?_⟩
    obtain ⟨fx,h⟩:=h
    refine b0I (s:=ay) (xs:=m) (dk.bring 4) co (fv.srcO ((dk.bring 4).bring 1)) fx fun fy fz hv ga gb hw=>?_
    refine g8 G7 ?_
    refine N2 ((gb.bring 1).drop.bring 1) Tryd.sizeOf47 fun hx gc hy=>?_
    refine a6 pAd ?_
    exact hn8 _ _ _ (hm8 _ _ h).2 ⟨((IntKind.wrap .i64 (Z3+1)),y,z,(m++[dj]),aa,ab),ft,fy,fz,rfl,rfl,ga,((((gc.bring 1).bring 3).bring 3).bring 3),(hm8 _ _ h).1⟩
   ·exact hx5 _ _ (hj5 y z m aa ab ay bp H _ co ((((I.bring 3).bring 3).bring 3).bring 3) h)
  refine m7 fun j4 hx4=>?_
  refine a0l I fun hz f=>?_
  obtain ⟨br,bs,g,d,h⟩:=h
  obtain ⟨ia,ib,bt,d⟩:=d
  refine g8 (J4 bt _ _ _ _ br bs) ?_
  refine g8 S4 ?_
  refine g8 (J4 bt _ _ _ _ br bs) ?_
  refine g8 a0C ?_
  refine g8 (J4 bt _ _ _ _ br bs) ?_
  refine g8 P2 ?_
  refine g8 (J4 bt _ _ _ _ br bs) ?_
  refine g8 O0 ?_
  refine r6 (ld1 (v:=(vi g.b7)) Tryd.isAgg3 ((f.atH d).sub (k:=0) (n:=1) (nb rfl))) ?_
  refine r6 (ld1 (v:=(Value.string g.f4)) Tryd.isAgg9 ((f.atH d).sub (k:=1) (n:=1) (nb rfl))) ?_
  refine r6 (ld1 (v:=(vs g.B1)) Tryd.isAgg23 ((f.atH d).sub (k:=4) (n:=1) (nb rfl))) ?_
  refine r6 (ld1 (v:=(vs g.A8)) Tryd.isAgg23 ((f.atH d).sub (k:=5) (n:=1) (nb rfl))) ?_
  refine ⟨?_,?_⟩
  ·refine d7 Tryd.call29 h f ?_
   rintro _ _ _ ic ac i cq ⟨bu,rfl,rfl,h⟩
   refine ⟨(cq _ (f.K0 d) ((Inv.self (Fi:=[]) (Fr:=[Fs3l2]) f).a1t d)),(cq _ (f.K0 d) ((Inv.self (Fi:=[]) (Fr:=[Fs3l2]) f).a1t d)),(cq _ (f.K0 d) ((Inv.self (Fi:=[]) (Fr:=[Fs3l2]) f).a1t d)),?_⟩
   refine ⟨?_,?_⟩
   ·refine d7 Tryd.call29 h ac ?_
    rintro _ gd _ id az bv dl ⟨dm,rfl,rfl,h⟩
    refine ⟨(dl _ (ac.K0 (d.le i)) ((Inv.self (Fi:=[]) (Fr:=[Fs3l2]) ac).a1t (d.le i))),(dl _ (ac.K0 (d.le i)) ((Inv.self (Fi:=[]) (Fr:=[Fs3l2]) ac).a1t (d.le i))),?_⟩
    refine g8 (a3O _ _ _ _ _ _ _ _) ?_
    refine u4 az Tryd.zeroValue49 (cs:=[(vi 0),(eS),(nS),(nS),(nS),(nS)]) rfl fun ge ie gf bw=>?_
    refine ⟨(bw _ (az.K0 (d.le (Hle.trans i bv)))),(bw _ (az.K0 (d.le (Hle.trans i bv)))),(bw _ (az.K0 (d.le (Hle.trans i bv)))),(bw _ (az.K0 (d.le (Hle.trans i bv)))),?_⟩
    refine D5 gf Tryd.sizeOf49 (vs:=[(vi g.b7),(Value.string g.f4),(nS),(nS),(vs bu),(vs dm)]) fun ig gg ih=>?_
    exact hx4 _ _ (hj4 g.b7 g.f4 [] [] bu dm (Sl.mk none 0 0) [] (Sl.mk none 0 0) [] ge gd _ (RowL.nil O1 O2) (RowL.nil Y8 Y9) (((gg.nil.nil.bring 1).bring 3).bring 3) h)
   ·refine u4 ac Tryd.zeroValue49 (cs:=[(vi 0),(eS),(nS),(nS),(nS),(nS)]) rfl fun cr ii ba bz=>?_
    refine ⟨(bz _ (ac.K0 (d.le i))),(bz _ (ac.K0 (d.le i))),(bz _ (ac.K0 (d.le i))),(bz _ (ac.K0 (d.le i))),?_⟩
    refine d7 Tryd.call29 h ba ?_
    rintro _ gh _ ij gi _ dn ⟨dp,rfl,rfl,h⟩
    refine ⟨(dn _ (ba.K0 (d.le i)) ((Inv.self (Fi:=[]) (Fr:=[bx cr 49 [(vi 0),(eS),(nS),(nS),(nS),(nS)],Fs3l2]) ba).a1t (d.le i))),(dn _ (ba.K0 (d.le i)) ((Inv.self (Fi:=[]) (Fr:=[bx cr 49 [(vi 0),(eS),(nS),(nS),(nS),(nS)],Fs3l2]) ba).a1t (d.le i))),?_⟩
    refine g8 (a3O _ _ _ _ _ _ _ _) ?_
    refine D5 gi Tryd.sizeOf49 (vs:=[(vi g.b7),(Value.string g.f4),(nS),(nS),(vs bu),(vs dp)]) fun ik gj il=>?_
    exact hx4 _ _ (hj4 g.b7 g.f4 [] [] bu dp (Sl.mk none 0 0) [] (Sl.mk none 0 0) [] cr gh _ (RowL.nil O1 O2) (RowL.nil Y8 Y9) (((gj.nil.nil.bring 1).bring 3).bring 3) h)
  ·refine u4 f Tryd.zeroValue49 (cs:=[(vi 0),(eS),(nS),(nS),(nS),(nS)]) rfl fun ap im af ca=>?_
   refine ⟨(ca _ (f.K0 d)),(ca _ (f.K0 d)),(ca _ (f.K0 d)),(ca _ (f.K0 d)),?_⟩
   refine d7 Tryd.call29 h af ?_
   rintro _ _ _ io bb cb ct ⟨dq,rfl,rfl,h⟩
   refine ⟨(ct _ (af.K0 d) ((Inv.self (Fi:=[]) (Fr:=[bx ap 49 [(vi 0),(eS),(nS),(nS),(nS),(nS)],Fs3l2]) af).a1t d)),(ct _ (af.K0 d) ((Inv.self (Fi:=[]) (Fr:=[bx ap 49 [(vi 0),(eS),(nS),(nS),(nS),(nS)],Fs3l2]) af).a1t d)),(ct _ (af.K0 d) ((Inv.self (Fi:=[]) (Fr:=[bx ap 49 [(vi 0),(eS),(nS),(nS),(nS),(nS)],Fs3l2]) af).a1t d)),?_⟩
   refine d7 Tryd.call29 h bb ?_
   rintro _ gk _ ip gl _ dr ⟨ds,rfl,rfl,h⟩
   refine ⟨(dr _ (bb.K0 (d.le cb)) ((Inv.self (Fi:=[]) (Fr:=[bx ap 49 [(vi 0),(eS),(nS),(nS),(nS),(nS)],Fs3l2]) bb).a1t (d.le cb))),(dr _ (bb.K0 (d.le cb)) ((Inv.self (Fi:=[]) (Fr:=[bx ap 49 [(vi 0),(eS),(nS),(nS),(nS),(nS)],Fs3l2]) bb).a1t (d.le cb))),?_⟩
   refine g8 (a3O _ _ _ _ _ _ _ _) ?_
   refine D5 gl Tryd.sizeOf49 (vs:=[(vi g.b7),(Value.string g.f4),(nS),(nS),(vs dq),(vs ds)]) fun iq gm ir=>?_
   exact hx4 _ _ (hj4 g.b7 g.f4 [] [] dq ds (Sl.mk none 0 0) [] (Sl.mk none 0 0) [] ap gk _ (RowL.nil O1 O2) (RowL.nil Y8 Y9) (((gm.nil.nil.bring 1).bring 3).bring 3) h)
 ·exact hx1 _ _ (hj1 a2e a5w Fs3l2 H _ b3F I h)
def B9(c0B:Int)(a8d:Bool)(a:D6)(H:Hp)(K:Bool→Hp→Prop):Prop:=
 (a8d=true→
 K (decide (c0B=2)) H)∧
 (a8d=false→
 K false H)
def M1(a9C:Int)(a3I:Int)(a8e:Bool)(a:D6)(H:Hp)(K:Bool→Hp→Prop):Prop:=
 (a8e=true→
 K (decide (a9C=1)) H)∧
 (a8e=false→
 (a3I=6→
 B9 a9C (decide (a3I=6)) a H K)∧
 (¬(a3I=6)→
 (a3I=7→
 B9 a9C (decide (a3I=7)) a H K)∧
 (¬(a3I=7)→
 (a3I=8→
 B9 a9C (decide (a3I=8)) a H K)∧
 (¬(a3I=8)→
 (a3I=9→
 B9 a9C (decide (a3I=9)) a H K)∧
 (¬(a3I=9)→
 B9 a9C (decide (a3I=10)) a H K)))))
def M2(a3U:Int)(a3J:Int)(a8f:Bool)(a:D6)(H:Hp)(K:Bool→Hp→Prop):Prop:=
 (a8f=true→
 K (decide (a3U=0)) H)∧
 (a8f=false→
 (a3J=4→
 M1 a3U a3J (decide (a3J=4)) a H K)∧
 (¬(a3J=4)→
 M1 a3U a3J (decide (a3J=5)) a H K))
def a1U(x0:D6)(H:Hp)(K:Bool→Hp→Prop):Prop:=
 a0N (c8.B5 x0) H (fun c b a=>
 ((((!decide (x0.p9.b7=1))&&(!decide (x0.p9.M8=0)))||((!b)&&(!decide (x0.p9.f4=⟨#[]⟩))))=true→
 K false a)∧
 ((((!decide (x0.p9.b7=1))&&(!decide (x0.p9.M8=0)))||((!b)&&(!decide (x0.p9.f4=⟨#[]⟩))))=false→
 (x0.p9.b7=1→
 K ((decide (0≤x0.p9.M8))&&(decide ((x0.p9.v7.n:Int)=0))) a)∧
 (¬(x0.p9.b7=1)→
 (x0.p9.b7=2→
 M2 (x0.p9.v7.n:Int) x0.p9.b7 (decide (x0.p9.b7=2)) x0 a K)∧
 (¬(x0.p9.b7=2)→
 M2 (x0.p9.v7.n:Int) x0.p9.b7 (decide (x0.p9.b7=3)) x0 a K))))
theorem a6d(x0){H K}(h:a1U x0 H K):a1N x0 H K:=by
 refine Ct.of fun w0 w ps0 H0 R E I hR=>b9p ?_
 unfold a1U at h
 unfold F91
 refine B2 I (cs:=(c7 x0.p9)) rfl fun f l i m=>?_
 refine a6 a0E (a6 I0 (b6 (l1 Tryd.isAgg39 i rfl) (a6 (B0 _ _ _) (b6 (lW Tryd.isAgg71 Tryd.sizeOf71 rfl i) ?_))))
 refine a6 (a5J x0) ?_
 refine d7 Tryd.call62 h i ?_
 rintro _ d _ o c _ _ ⟨j,k,rfl,rfl,h⟩
 refine a6 (B8 _ _ (Value.string j) rfl) (a6 (B8 _ _ (vB k) rfl) (a6 a0E (a6 T3 (b6 (l1 Tryd.isAgg3 c rfl) ?_))))
 refine a6 pNe ?_
 refine a6 (Pu.g fun a=>by with_reducible exact a0E) ?_
 refine a6 (Pu.g fun a=>by simp only [d2 a];with_reducible exact a1f) ?_
 refine b6 (Ld.g fun a=>by simp only [d2 a];exact (l1 Tryd.isAgg2 c rfl)) ?_
 refine a6 (Pu.g fun a=>by simp only [d2 a];with_reducible exact pNe) ?_
 refine a6 (m9 _ _) ?_
 simp only [q9]
 refine a6 (Pu.g fun a=>by simp only [d2 a];with_reducible exact (G1 _)) ?_
 simp only [a3C]
 refine a6 (Pu.e (a1Y _ _ _) (Pu.g fun hb=>by obtain ⟨a,b⟩:=a3B hb;with_reducible exact a0E)) ?_
 refine a6 (Pu.e (a1Y _ _ _) (Pu.g fun hb=>by obtain ⟨a,b⟩:=a3B hb;simp only [d2 hb];with_reducible exact a2b)) ?_
 refine b6 (Ld.e (a1Y _ _ _) (Ld.g fun hb=>by obtain ⟨a,b⟩:=a3B hb;simp only [d2 hb];exact (l1 Tryd.isAgg9 c rfl))) ?_
 refine a6 (Pu.e (a1Y _ _ _) (Pu.g fun hb=>by obtain ⟨a,b⟩:=a3B hb;simp only [d2 hb];with_reducible exact (b0C _ _ _ _ _))) ?_
 refine a6 (Pu.g fun a=>by simp only [d2 a,a5I a];with_reducible exact (m9 _ _)) ?_
 refine a6 (D3 _ _) ?_
 refine f7 h (fun _ h=>?_) (fun _ h=>?_)
 ·exact hR _ d _ _ c.drop ⟨false,rfl,rfl,h⟩
 ·refine a6 a0E (a6 T3 (b6 (l1 Tryd.isAgg3 c rfl) (a6 pEq ?_)))
  refine d3 h (fun _ h=>?_) (fun _ h=>?_)
  ·refine a6 a0E (a6 a1f (b6 (l1 Tryd.isAgg2 c rfl) (a6 pGe ?_)))
   simp only [q9]
   refine a6 (Pu.g fun a=>by simp only [d2 a];with_reducible exact pEq) ?_
   refine a6 (m9 _ _) ?_
   exact hR _ d _ _ c.drop ⟨((decide (0≤x0.p9.M8))&&(decide ((x0.p9.v7.n:Int)=0))),rfl,rfl,h⟩
  ·have hj1:∀(a8f:Bool) H w (_:Inv w0 ps0 H0 H [bx f 71 (c7 x0.p9)] w) (_:M2 (x0.p9.v7.n:Int) x0.p9.b7 a8f x0 H K),b2d (vi (x0.p9.v7.n:Int)) (vi x0.p9.b7) (vB a8f) w R E:=by
    intro a8f H w I h
    unfold b2d
    intro _
    unfold M2 at h
    refine f7 h (fun _ h=>?_) (fun _ h=>?_)
    ·refine a6 pEq ?_
     exact hR _ H _ _ I.drop ⟨(decide ((x0.p9.v7.n:Int)=0)),rfl,rfl,h⟩
    ·have hj2:∀(a8e:Bool) H w (_:Inv w0 ps0 H0 H [bx f 71 (c7 x0.p9)] w) (_:M1 (x0.p9.v7.n:Int) x0.p9.b7 a8e x0 H K),b2c (vi (x0.p9.v7.n:Int)) (vi x0.p9.b7) (vB a8e) w R E:=by
      intro a8e H w I h
      unfold b2c
      intro _
      unfold M1 at h
      refine f7 h (fun _ h=>?_) (fun _ h=>?_)
      ·refine a6 pEq ?_
       exact hR _ H _ _ I.drop ⟨(decide ((x0.p9.v7.n:Int)=1)),rfl,rfl,h⟩
      ·have hj3:∀(a8d:Bool) H w (_:Inv w0 ps0 H0 H [bx f 71 (c7 x0.p9)] w) (_:B9 (x0.p9.v7.n:Int) a8d x0 H K),b2b (vi (x0.p9.v7.n:Int)) (vB a8d) w R E:=by
        intro a8d H w I h
        unfold b2b
        intro _
        unfold B9 at h
        refine f7 h (fun _ h=>?_) (fun _ h=>?_)
        ·refine a6 pEq ?_
         exact hR _ H _ _ I.drop ⟨(decide ((x0.p9.v7.n:Int)=2)),rfl,rfl,h⟩
        ·exact hR _ H _ _ I.drop ⟨false,rfl,rfl,h⟩
       refine m7 fun j3 hx3=>?_
       refine a6 pEq ?_
       refine d3 h (fun _ h=>?_) (fun _ h=>?_)
       ·exact hx3 _ _ (hj3 (decide (x0.p9.b7=6)) H _ I h)
       ·refine a6 pEq ?_
        refine d3 h (fun _ h=>?_) (fun _ h=>?_)
        ·exact hx3 _ _ (hj3 (decide (x0.p9.b7=7)) H _ I h)
        ·refine a6 pEq ?_
         refine d3 h (fun _ h=>?_) (fun _ h=>?_)
         ·exact hx3 _ _ (hj3 (decide (x0.p9.b7=8)) H _ I h)
         ·refine a6 pEq ?_
          refine d3 h (fun _ h=>?_) (fun _ h=>?_)
          ·exact hx3 _ _ (hj3 (decide (x0.p9.b7=9)) H _ I h)
          ·refine a6 pEq ?_
           exact hx3 _ _ (hj3 (decide (x0.p9.b7=10)) H _ I h)
     refine m7 fun j2 hx2=>?_
     refine a6 pEq ?_
     refine d3 h (fun _ h=>?_) (fun _ h=>?_)
     ·exact hx2 _ _ (hj2 (decide (x0.p9.b7=4)) H _ I h)
     ·refine a6 pEq ?_
      exact hx2 _ _ (hj2 (decide (x0.p9.b7=5)) H _ I h)
   refine m7 fun j1 hx1=>?_
   refine a6 pEq ?_
   refine d3 h (fun _ h=>?_) (fun _ h=>?_)
   ·exact hx1 _ _ (hj1 (decide (x0.p9.b7=2)) d _ c h)
   ·refine a6 pEq ?_
    exact hx1 _ _ (hj1 (decide (x0.p9.b7=3)) d _ c h)
def a1H(x0:D6)(H:Hp)(K:Sl→Hp→Prop):Prop:=
 t6 x0.p9.v7 H (fun a b=>
 K a b)
theorem a5T(x0){H K}(h:a1H x0 H K):a3q x0 H K:=by
 refine Ct.of fun w0 w ps0 H0 R E I hR=>b9q ?_
 unfold a1H at h
 unfold F92
 refine B2 I (cs:=(c7 x0.p9)) rfl fun e f a g=>?_
 refine a6 a0E (a6 I0 (b6 (l1 Tryd.isAgg39 a rfl) ?_))
 refine d7 Tryd.call93 h a ?_
 rintro _ b _ i c _ _ ⟨d,rfl,rfl,h⟩
 exact hR _ b _ _ c.drop ⟨d,rfl,rfl,h⟩
def a1V(x0:T2)(H:Hp)(K:Bool→Hp→Prop):Prop:=
 K ((decide (0≤x0.X2.X1))&&(decide (x0.X2.X1≤2147483647))) H
theorem a6e(x0){H K}(h:a1V x0 H K):a3N x0 H K:=by
 refine Ct.of fun w0 w ps0 H0 R E I hR=>b9t ?_
 unfold a1V at h
 unfold F95
 refine B2 I (cs:=(j8 x0.X2)) rfl fun c d b e=>?_
 refine a6 a6r (a6 a5o (b6 (l1 Tryd.isAgg3 b rfl) (a6 pGe ?_)))
 refine a6 (Pu.g fun a=>by with_reducible exact a6r) ?_
 refine a6 (Pu.g fun a=>by simp only [d2 a];with_reducible exact a5o) ?_
 refine b6 (Ld.g fun a=>by simp only [d2 a];exact (l1 Tryd.isAgg3 b rfl)) ?_
 refine a6 (Pu.g fun a=>by simp only [d2 a];with_reducible exact pLe) ?_
 refine a6 (m9 _ _) ?_
 exact hR _ H _ _ b.drop ⟨((decide (0≤x0.X2.X1))&&(decide (x0.X2.X1≤2147483647))),rfl,rfl,h⟩
def z6(J1:(List c8))(H:Hp)(K:Sl→Hp→Prop):Prop:=
 ∀(s6:Sl)(a:Hp),Hle H a→SlH a 1 o0 s6 J1→NewS H a 91 1 s6→
 K s6 a
def z7(U3:Sl)(a1B:Int)(i5:(List c8))(i4:Int)(H:Hp)(n2:((List c8)×Int)→Hp→Prop)(K:Sl→Hp→Prop):Prop:=
 (i4 < a1B→
 (0:Int)≤i4∧(i4:Int) < U3.n∧∃a:b9,EltH H U3 i4 4 (c9 a)∧
 a4t a H (fun b c=>
 (i5.length+([b]:List c8).length)*17≤140737488355328∧
 n2 ((i5++[b]),(IntKind.wrap .i64 (i4+1))) c))∧
 (¬(i4 < a1B)→
 z6 i5 H K)
def E7(x0:Sl)(H:Hp)(K:Sl→Hp→Prop):Prop:=
 TL (([],0):(List c8)×Int) H fun(s:(List c8)×Int) H n2=>z7 x0 (x0.n:Int) s.1 s.2 H n2 K
theorem a0x(x0){H K}(h:E7 x0 H K):A9 x0 H K:=by
 refine Ct.of fun w0 w ps0 H0 R E I hR=>b9x ?_
 unfold E7 at h
 unfold F99
 have hj1:∀(J1:(List c8))(s6:Sl)(Fs5j1:Frag) H w (_:RowL 91 1 o0 s6 J1 Fs5j1) (_:Inv w0 ps0 H0 H [Fs5j1] w) (_:z6 J1 H K),b2g (vs s6) w R E:=by
  intro J1 s6 Fs5j1 H w a3H I h
  unfold b2g
  intro _
  unfold z6 at h
  obtain ⟨j,q,r,t,u⟩:=Inv.freezeN I a3H (by decide)
  replace h:=h s6 j r t u
  exact hR _ j _ _ q ⟨s6,rfl,rfl,h⟩
 refine m7 fun j1 hx1=>?_
 refine a6 (K2 _ _ _) ?_
 obtain ⟨f,d,v,y⟩:=h
 refine T1 (J:=fun n l w=>∃(s:(List c8)×Int)(H:Hp)(J2:Sl)(Fs5l2:Frag),n=d s∧l=(match s with | (i5,i4)=>[(vs J2),(vi i4)])∧(match s with | (i5,i4)=>RowL 91 1 o0 J2 i5 Fs5l2)∧(match s with | (i5,i4)=>Inv w0 ps0 H0 H [Fs5l2] w)∧f s H) ⟨_,([],0),H,(Sl.mk none 0 0),[],rfl,rfl,(RowL.nil L9 O4),I.nil,v⟩ ?_
 rintro am an w next2 ⟨⟨i5,i4⟩,H,J2,Fs5l2,rfl,g,T6,I,z⟩ hn2
 dsimp only at g I T6
 simp only [List.map_cons,List.map_nil,List.cons.injEq,and_true] at g
 obtain ⟨e5,e10⟩:=g
 simp only [e5,e10]
 obtain ⟨n2,hm2,h⟩:∃n2:((List c8)×Int)→Hp→Prop,(∀s' H',n2 s' H'→f s' H'∧d s' < d (i5,i4))∧z7 x0 (x0.n:Int) i5 i4 H n2 K:=⟨_,fun _ _ h=>h,y (i5,i4) H (fun s' H'=>f s' H'∧d s' < d (i5,i4)) z (fun _ _ a b=>⟨a,b⟩)⟩
 unfold b5r
 unfold z7 at h
 refine a6 pLs ?_
 refine d3 h (fun _ h=>?_) (fun _ h=>?_)
 ·obtain ⟨aa,ab,k,i,h⟩:=h
  obtain ⟨ao,ap,ac,i⟩:=i
  refine a6 (Y2 ac _ _ _ _ aa ab) (b6 (ldA (vs:=(c9 k)) Tryd.isAgg77 Tryd.sizeOf77 rfl (I.atH i)) ?_)
  refine u4 I Tryd.zeroValue77 (cs:=[(vi 0),(vi 0),(nS),(nS)]) rfl fun aq ar ad au=>?_
  refine D5 ad Tryd.sizeOf77 (vs:=(c9 k)) fun av m aw=>?_
  refine b6 (lW Tryd.isAgg77 Tryd.sizeOf77 rfl m) ?_
  refine d7 Tryd.call100 h m ?_
  rintro _ ae _ ax af _ _ ⟨o,rfl,rfl,h⟩
  refine a1y (e:=91) (c:=o0) (xs:=[o]) af (a6J _) rfl rfl L9 O4 (nb rfl) fun ay az ba ag p bb=>?_
  obtain ⟨ah,h⟩:=h
  refine a7H (s:=J2) (xs:=i5) (p.bring 2) T6 (ag.srcO ((p.bring 2).bring 1)) ah fun ai aj bc ak al bd=>?_
  refine a6 pAd ?_
  exact hn2 _ _ _ (hm2 _ _ h).2 ⟨((i5++[o]),(IntKind.wrap .i64 (i4+1))),ae,ai,aj,rfl,rfl,ak,((al.bring 1).drop.bring 1).drop,(hm2 _ _ h).1⟩
 ·exact hx1 _ _ (hj1 i5 J2 Fs5l2 H _ T6 I h)
end Go.Proofs.YtpgelfheccpejaaDoor
