/- Typed formulas of the program's functions, and the theorems that the contracts follow from them; printed by lift.py off the code. -/
import Derived.Test.YtoflkliecagjcaaGreatDooryBV1
namespace Go.Proofs.YtoflkliecagjcaaGreatDoor
open Go.RowKit
set_option maxRecDepth 100000
set_option maxHeartbeats 2000000
def b0G(x0:c7)(a:(List Int))(H:Hp)(K:Int→Hp→Prop):Prop:=
 K (a.length:Int) H
theorem b0H(x0 a){H K}(h:b0G x0 a H K):a3J x0 a H K:=by
 intro g0 c d b
 refine Ct.of fun w0 w ps0 H0 R E I hR=>d0I ?_
 refine a7 (q9 _) (a7 a6D (b8 (l1 Tryz.isAgg43 I rfl) (a7 (a8R Tryz.underlying43 b) ?_)))
 exact hR _ H _ _ ((I.bring 1).bring 1) ⟨_,rfl,rfl,h⟩
def K3(V5:(List d8))(H:Hp)(K:Sl→Hp→Prop):Prop:=
 ∀(G1:Sl)(a:Hp),Hle H a→SlH a 1 s8 G1 V5→G1.n≤G1.c→
 K G1 a
def K4(E0:Sl)(a4S:Int)(v7:(List d8))(u4:Int)(H:Hp)(n2:((List d8)×Int)→Hp→Prop)(K:Sl→Hp→Prop):Prop:=
 (u4 < a4S→
 (0:Int)≤u4∧(u4:Int) < E0.n∧∃a:d9,EltH H E0 u4 6 (k7 a)∧
 a6I a H (fun b c=>
 (v7.length+([b]:List d8).length)*17≤140737488355328∧
 n2 ((v7++[b]),(IntKind.wrap .i64 (u4+1))) c))∧
 (¬(u4 < a4S)→
 K3 v7 H K)
def S6(x0:Sl)(H:Hp)(K:Sl→Hp→Prop):Prop:=
 TL (([],0):(List d8)×Int) H fun(s:(List d8)×Int) H n2=>K4 x0 (x0.n:Int) s.1 s.2 H n2 K
theorem a1e(x0){H K}(h:S6 x0 H K):B1 x0 H K:=by
 refine Ct.of fun w0 w ps0 H0 R E I hR=>d1i ?_
 have hj1:∀(V5:(List d8))(G1:Sl)(Fs5j1:Frag) H w (_:RowL 107 1 s8 G1 V5 Fs5j1) (_:Inv w0 ps0 H0 H [Fs5j1] w) (_:K3 V5 H K),c3v (vs G1) w R E:=by
  intro V5 G1 Fs5j1 H w a8W I h
  intro _
  obtain ⟨j,q,r,t,u⟩:=Inv.freezeC I a8W (by decide)
  replace h:=h G1 j r t u
  exact hR _ j _ _ q ⟨_,rfl,rfl,h⟩
 refine u2 fun j1 hx1=>?_
 refine a7 (a2m _ _ _) ?_
 obtain ⟨f,d,v,y⟩:=h
 refine R1 (J:=fun n l w=>∃(s:(List d8)×Int)(H:Hp)(V6:Sl)(Fs5l2:Frag),n=d s∧l=(match s with | (v7,u4)=>[(vs V6),(vi u4)])∧(match s with | (v7,u4)=>RowL 107 1 s8 V6 v7 Fs5l2)∧(match s with | (v7,u4)=>Inv w0 ps0 H0 H [Fs5l2] w)∧f s H) ⟨_,([],0),H,(Sl.mk none 0 0),[],rfl,rfl,(RowL.nil Q1 S1),I.nil,v⟩ ?_
 rintro am an w next2 ⟨⟨v7,u4⟩,H,V6,Fs5l2,rfl,g,a2g,I,z⟩ hn2
 dsimp only at g I a2g
 simp only [List.map_cons,List.map_nil,List.cons.injEq,and_true] at g
 obtain ⟨e5,e10⟩:=g
 simp only [e5,e10]
 obtain ⟨n2,hm2,h⟩:∃n2:((List d8)×Int)→Hp→Prop,(∀s' H',n2 s' H'→f s' H'∧d s' < d (v7,u4))∧K4 x0 (x0.n:Int) v7 u4 H n2 K:=⟨_,fun _ _ h=>h,y (v7,u4) H (fun s' H'=>f s' H'∧d s' < d (v7,u4)) z (fun _ _ a b=>⟨a,b⟩)⟩
 refine a7 pLs ?_
 refine j7 h (fun _ h=>?_) (fun _ h=>?_)
 ·obtain ⟨aa,ab,k,i,h⟩:=h
  obtain ⟨ao,ap,ac,i⟩:=i
  refine a7 (a9o ac _ _ _ _ aa ab) (b8 (ldA (vs:=(k7 k)) Tryz.isAgg54 Tryz.sizeOf54 rfl (I.atH i)) ?_)
  refine r7 I Tryz.zeroValue54 (cs:=[(vi 0),(eS),(nS),(nS),(nS),(nS)]) rfl fun aq ar ad au=>?_
  refine A9 ad Tryz.sizeOf54 (vs:=(k7 k)) fun av m aw=>?_
  refine b8 (lW Tryz.isAgg54 Tryz.sizeOf54 rfl m) ?_
  refine g6 Tryz.call55 h m ?_
  rintro _ ae _ ax af _ _ ⟨o,rfl,rfl,h⟩
  refine O4 (e:=107) (c:=s8) (xs:=[o]) af (a9p _) rfl rfl Q1 S1 (nb rfl) fun ay az ba ag p bb=>?_
  obtain ⟨ah,h⟩:=h
  refine b0z (s:=V6) (xs:=v7) (p.bring 2) a2g (ag.srcO ((p.bring 2).bring 1)) ah fun ai aj bc ak al bd=>?_
  refine a7 pAd ?_
  exact hn2 _ _ _ (hm2 _ _ h).2 ⟨((v7++[o]),(IntKind.wrap .i64 (u4+1))),ae,ai,aj,rfl,rfl,ak,((al.bring 1).drop.bring 1).drop,(hm2 _ _ h).1⟩
 ·exact hx1 _ _ (hj1 v7 V6 Fs5l2 H _ a2g I h)
def a8N(x0:ByteArray)(H:Hp)(K:Bool→Hp→Prop):Prop:=
 Z8 x0 H (fun a b=>
 K (decide (32 < a)) b)
theorem b3x(x0){H K}(h:a8N x0 H K):a3C x0 H K:=by
 refine Ct.of fun w0 w ps0 H0 R E I hR=>c8o ?_
 refine g6 Tryz.call140 h I ?_
 rintro _ a _ d b _ _ ⟨c,rfl,rfl,h⟩
 refine a7 pGt ?_
 exact hR _ a _ _ b ⟨_,rfl,rfl,h⟩
def s6(A4:Bool)(H:Hp)(K:Bool→Hp→Prop):Prop:=
 (A4=true→
 K true H)∧
 (A4=false→
 K false H)
def a8O(x0:ByteArray)(H:Hp)(K:Bool→Hp→Prop):Prop:=
 (x0=⟨#[118,97,114]⟩→
 s6 (decide (x0=⟨#[118,97,114]⟩)) H K)∧
 (¬(x0=⟨#[118,97,114]⟩)→
 (x0=⟨#[97,114,114,97,121]⟩→
 s6 (decide (x0=⟨#[97,114,114,97,121]⟩)) H K)∧
 (¬(x0=⟨#[97,114,114,97,121]⟩)→
 (x0=⟨#[105,102]⟩→
 s6 (decide (x0=⟨#[105,102]⟩)) H K)∧
 (¬(x0=⟨#[105,102]⟩)→
 (x0=⟨#[101,108,115,101]⟩→
 s6 (decide (x0=⟨#[101,108,115,101]⟩)) H K)∧
 (¬(x0=⟨#[101,108,115,101]⟩)→
 (x0=⟨#[119,104,105,108,101]⟩→
 s6 (decide (x0=⟨#[119,104,105,108,101]⟩)) H K)∧
 (¬(x0=⟨#[119,104,105,108,101]⟩)→
 (x0=⟨#[97,115,115,101,114,116]⟩→
 s6 (decide (x0=⟨#[97,115,115,101,114,116]⟩)) H K)∧
 (¬(x0=⟨#[97,115,115,101,114,116]⟩)→
 (x0=⟨#[97,115,115,117,109,101]⟩→
 s6 (decide (x0=⟨#[97,115,115,117,109,101]⟩)) H K)∧
 (¬(x0=⟨#[97,115,115,117,109,101]⟩)→
 (x0=⟨#[115,107,105,112]⟩→
 s6 (decide (x0=⟨#[115,107,105,112]⟩)) H K)∧
 (¬(x0=⟨#[115,107,105,112]⟩)→
 (x0=⟨#[105,110,112,117,116]⟩→
 s6 (decide (x0=⟨#[105,110,112,117,116]⟩)) H K)∧
 (¬(x0=⟨#[105,110,112,117,116]⟩)→
 (x0=⟨#[116,114,117,101]⟩→
 s6 (decide (x0=⟨#[116,114,117,101]⟩)) H K)∧
 (¬(x0=⟨#[116,114,117,101]⟩)→
 s6 (decide (x0=⟨#[102,97,108,115,101]⟩)) H K))))))))))
theorem b3y(x0){H K}(h:a8O x0 H K):a3D x0 H K:=by
 refine Ct.of fun w0 w ps0 H0 R E I hR=>c8n ?_
 have hj1:∀(A4:Bool) H w (_:Inv w0 ps0 H0 H [] w) (_:s6 A4 H K),c0u (vB A4) w R E:=by
  intro A4 H w I h
  intro _
  refine p6 h (fun _ h=>?_) (fun _ h=>?_)
  ·exact hR _ H _ _ I ⟨_,rfl,rfl,h⟩
  ·exact hR _ H _ _ I ⟨_,rfl,rfl,h⟩
 refine u2 fun j1 hx1=>?_
 refine a7 (R3 _ _ _ _ _) ?_
 refine j7 h (fun _ h=>?_) (fun _ h=>?_)
 ·exact hx1 _ _ (hj1 (decide (x0=⟨#[118,97,114]⟩)) H _ I h)
 ·refine a7 (R3 _ _ _ _ _) ?_
  refine j7 h (fun _ h=>?_) (fun _ h=>?_)
  ·exact hx1 _ _ (hj1 (decide (x0=⟨#[97,114,114,97,121]⟩)) H _ I h)
  ·refine a7 (R3 _ _ _ _ _) ?_
   refine j7 h (fun _ h=>?_) (fun _ h=>?_)
   ·exact hx1 _ _ (hj1 (decide (x0=⟨#[105,102]⟩)) H _ I h)
   ·refine a7 (R3 _ _ _ _ _) ?_
    refine j7 h (fun _ h=>?_) (fun _ h=>?_)
    ·exact hx1 _ _ (hj1 (decide (x0=⟨#[101,108,115,101]⟩)) H _ I h)
    ·refine a7 (R3 _ _ _ _ _) ?_
     refine j7 h (fun _ h=>?_) (fun _ h=>?_)
     ·exact hx1 _ _ (hj1 (decide (x0=⟨#[119,104,105,108,101]⟩)) H _ I h)
     ·refine a7 (R3 _ _ _ _ _) ?_
      refine j7 h (fun _ h=>?_) (fun _ h=>?_)
      ·exact hx1 _ _ (hj1 (decide (x0=⟨#[97,115,115,101,114,116]⟩)) H _ I h)
      ·refine a7 (R3 _ _ _ _ _) ?_
       refine j7 h (fun _ h=>?_) (fun _ h=>?_)
       ·exact hx1 _ _ (hj1 (decide (x0=⟨#[97,115,115,117,109,101]⟩)) H _ I h)
       ·refine a7 (R3 _ _ _ _ _) ?_
        refine j7 h (fun _ h=>?_) (fun _ h=>?_)
        ·exact hx1 _ _ (hj1 (decide (x0=⟨#[115,107,105,112]⟩)) H _ I h)
        ·refine a7 (R3 _ _ _ _ _) ?_
         refine j7 h (fun _ h=>?_) (fun _ h=>?_)
         ·exact hx1 _ _ (hj1 (decide (x0=⟨#[105,110,112,117,116]⟩)) H _ I h)
         ·refine a7 (R3 _ _ _ _ _) ?_
          refine j7 h (fun _ h=>?_) (fun _ h=>?_)
          ·exact hx1 _ _ (hj1 (decide (x0=⟨#[116,114,117,101]⟩)) H _ I h)
          ·refine a7 (R3 _ _ _ _ _) ?_
           exact hx1 _ _ (hj1 (decide (x0=⟨#[102,97,108,115,101]⟩)) H _ I h)
def K7(t6:Int)(p8:Int)(y9:Int)(a9g:Bool)(a9h:Bool)(a7C:(List ByteArray))(H:Hp)(K:Bool→m7→(List ByteArray)→Hp→Prop):Prop:=
 K true (m7.mk t6 p8 y9 a9g a9h (Sl.mk none 0 0)) a7C H
def a4u(x0:m7)(a:(List ByteArray))(x1:d8)(x2:Int)(H:Hp)(K:Bool→m7→(List ByteArray)→Hp→Prop):Prop:=
 (4096 < (IntKind.wrap .i64 (x0.fnodes+1))→
 K false (m7.mk (IntKind.wrap .i64 (x0.fnodes+1)) x0.fdepth 33 x0.fform x0.fnamed (Sl.mk none 0 0)) a H)∧
 (¬(4096 < (IntKind.wrap .i64 (x0.fnodes+1)))→
 (64 < x2→
 K false (m7.mk (IntKind.wrap .i64 (x0.fnodes+1)) x0.fdepth 32 x0.fform x0.fnamed (Sl.mk none 0 0)) a H)∧
 (¬(64 < x2)→
 TG (x0.fform=false) (a4f x1 H) false H (fun(c:Bool)(j:Hp)=>
 a1w x1 j (fun b e d=>
 (e=true→
 TG (x0.fnamed=false) (a3E b d) false d (fun(f:Bool)(k:Hp)=>
 U7 a b k (fun g i=>
 ((!g)=true→
 (a.length+([b]:List ByteArray).length)*17≤140737488355328∧
 K7 (IntKind.wrap .i64 (x0.fnodes+1)) (if x2 > x0.fdepth then x2 else x0.fdepth) x0.fe (x0.fform||(!c)) (x0.fnamed||(!f)) (a++[b]) i K)∧
 ((!g)=false→
 K7 (IntKind.wrap .i64 (x0.fnodes+1)) (if x2 > x0.fdepth then x2 else x0.fdepth) x0.fe (x0.fform||(!c)) (x0.fnamed||(!f)) a i K))))∧
 (e=false→
 K7 (IntKind.wrap .i64 (x0.fnodes+1)) (if x2 > x0.fdepth then x2 else x0.fdepth) x0.fe (x0.fform||(!c)) x0.fnamed a d K)))))
theorem a8y(x0 b x1 x2){H K}(h:a4u x0 b x1 x2 H K):a1O x0 b x1 x2 H K:=by
 intro g0 k l m
 refine Ct.of fun w0 w ps0 H0 R E I hR=>d1E ?_
 refine a7 (q9 _) (a7 b1b (b8 (l1 Tryz.isAgg3 I rfl) (a7 pAd (a7 (q9 _) ?_))))
 refine a7 b1b ?_
 refine N7 I Tryz.sizeOf3 fun ba p bb=>?_
 refine a7 (q9 _) (a7 b1b (b8 (l1 Tryz.isAgg3 p rfl) (a7 pGt ?_)))
 refine j7 h (fun _ h=>?_) (fun _ h=>?_)
 ·refine a7 (q9 _) (a7 a5o ?_)
  refine N7 p Tryz.sizeOf27 fun bc an bd=>?_
  exact hR _ H _ _ ((an.bring 1).bring 1) ⟨false,(m7.mk (IntKind.wrap .i64 (x0.fnodes+1)) x0.fdepth 33 x0.fform x0.fnamed (Sl.mk none 0 0)),b,k,l,rfl,rfl,m,h⟩
 ·refine a7 pGt ?_
  refine j7 h (fun _ h=>?_) (fun _ h=>?_)
  ·refine a7 (q9 _) (a7 a5o ?_)
   refine N7 p Tryz.sizeOf27 fun be ao bf=>?_
   exact hR _ H _ _ ((ao.bring 1).bring 1) ⟨false,(m7.mk (IntKind.wrap .i64 (x0.fnodes+1)) x0.fdepth 32 x0.fform x0.fnamed (Sl.mk none 0 0)),b,k,l,rfl,rfl,m,h⟩
  ·refine a7 (q9 _) (a7 b4O (b8 (l1 Tryz.isAgg3 p rfl) (a7 (c9V _ _ _ _ _) (a7 (q9 _) ?_))))
   refine a7 b4O ?_
   refine N7 p Tryz.sizeOf3 fun ae z bg=>?_
   refine a7 (q9 _) (a7 b1c (b8 (l1 Tryz.isAgg4 z rfl) ?_))
   simp only [E5]
   refine b2e (D:=fun af t=>∃(d:Bool)(n:Hp),af=(gv x0.fform false (vB d))∧(Inv w0 ps0 H0 n [bx g0 69 [(vi (IntKind.wrap .i64 (x0.fnodes+1))),(vi (if x2 > x0.fdepth then x2 else x0.fdepth)),(vi x0.fe),(vB x0.fform),(vB x0.fnamed),(vs k)],l] t)∧(∀i,i < ae.heap.size→¬inF [] i→t.heap[i]? = ae.heap[i]?)∧Hle H n∧(a1w x1 n (fun(j:ByteArray)(u:Bool)(q:Hp)=>
 (u=true→
 TG (x0.fnamed=false) (a3E j q) false q (fun(f:Bool)(v:Hp)=>
 U7 b j v (fun(aa:Bool)(r:Hp)=>
 ((!aa)=true→
 (b.length+([j]:List ByteArray).length)*17≤140737488355328∧
 K7 (IntKind.wrap .i64 (x0.fnodes+1)) (if x2 > x0.fdepth then x2 else x0.fdepth) x0.fe (x0.fform||(!d)) (x0.fnamed||(!f)) (b++[j]) r K)∧
 ((!aa)=false→
 K7 (IntKind.wrap .i64 (x0.fnodes+1)) (if x2 > x0.fdepth then x2 else x0.fdepth) x0.fe (x0.fform||(!d)) (x0.fnamed||(!f)) b r K))))∧
 (u=false→
 K7 (IntKind.wrap .i64 (x0.fnodes+1)) (if x2 > x0.fdepth then x2 else x0.fdepth) x0.fe (x0.fform||(!d)) x0.fnamed b q K)))) (fun o=>?_) (fun o=>?_) ?_
   ·replace h:=h.1 o
    have a:=o
    simp only [o9 a]
    refine b0C z h (fun d n t ab ag ah h=>?_)
    exact ⟨d,n,by rfl,ab,ah,ag,h⟩
   ·exact ⟨false,H,by rw [b5N o],z,fun _ _ _=>rfl,Hle.refl _,h.2 o⟩
   ·clear h
    rintro af t ⟨d,n,rfl,ab,ah,ag,h⟩
    refine a7 (Pu.g fun a=>by simp only [o9 a];with_reducible exact (T6 _)) ?_
    refine a7 (R9 _ _) (a7 (q9 _) (a7 b1c ?_))
    refine N7 ab Tryz.sizeOf4 fun bh ap bi=>?_
    have hj1:∀(t6:Int)(p8:Int)(y9:Int)(a9g:Bool)(a9h:Bool)(a7C:(List ByteArray))(b1k:Sl)(b1l:Frag) H w (_:RowL 9 1 q6 b1k a7C b1l) (_:Inv w0 ps0 H0 H [bx g0 69 [(vi t6),(vi p8),(vi y9),(vB a9g),(vB a9h),(vs b1k)],b1l] w) (_:K7 t6 p8 y9 a9g a9h a7C H K),c3E w R E:=by
     intro t6 p8 y9 a9g a9h a7C b1k b1l H w c5D I h
     intro _
     exact hR _ H _ _ ((I.bring 1).bring 1) ⟨true,(m7.mk t6 p8 y9 a9g a9h (Sl.mk none 0 0)),a7C,b1k,b1l,rfl,rfl,c5D,h⟩
    refine u2 fun j1 hx1=>?_
    refine g6 Tryz.call107 h ap ?_
    rintro _ q _ bj y _ _ ⟨j,u,rfl,rfl,h⟩
    refine a7 (j9 _ _ (Value.string j) rfl) (a7 (j9 _ _ (vB u) rfl) ?_)
    refine p6 h (fun _ h=>?_) (fun _ h=>?_)
    ·refine a7 (q9 _) (a7 b1d (b8 (l1 Tryz.isAgg4 y rfl) ?_))
     simp only [E5]
     refine M3 [] (fun f:Bool=>(vB f)) h y (fun a h=>by simp only [o9 a];exact N9 Tryz.call108 h y) fun f v aq ac aj ak h=>?_
     refine a7 (Pu.g fun a=>by simp only [o9 a];with_reducible exact (T6 _)) ?_
     refine a7 (R9 _ _) (a7 (q9 _) (a7 b1d ?_))
     refine N7 ac Tryz.sizeOf4 fun bk al bl=>?_
     refine a7 (q9 _) (a7 b1e (b8 (l1 Tryz.isAgg67 al rfl) ?_))
     refine g6 Tryz.call109 (h k l m) (al.bring 1) ?_
     rintro _ r _ bm ad _ _ ⟨aa,rfl,rfl,h⟩
     refine a7 (T6 _) ?_
     refine p6 h (fun _ h=>?_) (fun _ h=>?_)
     ·refine a7 (q9 _) (a7 b1e (b8 (l1 Tryz.isAgg67 (ad.bring 1) rfl) ?_))
      refine O4 (e:=9) (c:=q6) (xs:=[j]) ad (X0 _) rfl rfl K8 K9 (nb rfl) fun bn bo bp ar am bq=>?_
      obtain ⟨au,h⟩:=h
      refine d0i (s:=k) (xs:=b) (am.bring 1) m (ar.srcO ((am.bring 1).bring 1)) au fun av aw br ax ay bs=>?_
      refine a7 (q9 _) (a7 b1e ?_)
      refine N7 ((ay.bring 1).drop.bring 1) Tryz.sizeOf67 fun bt az bu=>?_
      exact hx1 _ _ (hj1 (IntKind.wrap .i64 (x0.fnodes+1)) (if x2 > x0.fdepth then x2 else x0.fdepth) x0.fe (x0.fform||(!d)) (x0.fnamed||(!f)) (b++[j]) av aw r _ ax ((az.bring 1).bring 1) h)
     ·exact hx1 _ _ (hj1 (IntKind.wrap .i64 (x0.fnodes+1)) (if x2 > x0.fdepth then x2 else x0.fdepth) x0.fe (x0.fform||(!d)) (x0.fnamed||(!f)) b k l r _ m (ad.bring 1) h)
    ·exact hx1 _ _ (hj1 (IntKind.wrap .i64 (x0.fnodes+1)) (if x2 > x0.fdepth then x2 else x0.fdepth) x0.fe (x0.fform||(!d)) x0.fnamed b k l q _ m ((y.bring 1).bring 1) h)
def a7m(x0:g9)(H:Hp)(K:Int→Hp→Prop):Prop:=
 a5J x0 H (fun a b=>
 K a.fe b)
theorem b1S(x0){H K}(h:a7m x0 H K):a0M x0 H K:=by
 refine Ct.of fun w0 w ps0 H0 R E I hR=>d4d ?_
 refine E9 I (cs:=(o7 x0)) rfl fun e f a g=>?_
 refine b8 (lW Tryz.isAgg25 Tryz.sizeOf25 rfl a) ?_
 refine g6 Tryz.call23 h a ?_
 rintro _ c _ i b _ _ ⟨d,j,rfl,rfl,h⟩
 refine a7 (q9 _) (a7 a5o (b8 (l1 Tryz.isAgg27 b rfl) ?_))
 exact hR _ c _ _ b.drop.drop ⟨_,rfl,rfl,h⟩
def a0J(a:(Option Addr))(b:(List Int))(c:Int)(i:g9)(H:Hp)(K:ByteArray→Int→Hp→Prop):Prop:=
 Z1 (c7.mk (C5.mk a (Sl.mk none 0 0)) c) b H (fun d e=>
 (d=true→
 K ⟨#[]⟩ 50 e)∧
 (d=false→
 a2y (c7.mk (C5.mk a (Sl.mk none 0 0)) c) b e (fun f j k g=>
 K f 0 g)))
def a2V(c7v:Sl)(c7w:Int)(f:g9)(a3G:Int)(a:(Option Addr))(b:(List Int))(c:Int)(H:Hp)(n3:(Int×(Option Addr)×(List Int)×Int)→Hp→Prop)(K:ByteArray→Int→Hp→Prop):Prop:=
 (a3G < c7w→
 (0:Int)≤a3G∧(a3G:Int) < c7v.n∧∃d:d9,EltH H c7v a3G 6 (k7 d)∧
 Z2 (c7.mk (C5.mk a (Sl.mk none 0 0)) c) b d H (fun e g i=>
 n3 ((IntKind.wrap .i64 (a3G+1)),e.G8.faddr,g,e.fdeep) i))∧
 (¬(a3G < c7w)→
 a0J a b c f H K)
def X7(d6I:Sl)(d6J:Int)(d4g:Int)(a:(Option Addr))(b:(List Int))(c:Int)(d:g9)(H:Hp)(n4:(Int×(Option Addr)×(List Int)×Int)→Hp→Prop)(K:ByteArray→Int→Hp→Prop):Prop:=
 n4 ((IntKind.wrap .i64 (d4g+1)),a,b,c) H
def a0K(b:(Option Addr))(c:(List Int))(d:Int)(a:g9)(H:Hp)(K:ByteArray→Int→Hp→Prop):Prop:=
 TL ((0,b,c,d):Int×(Option Addr)×(List Int)×Int) H fun(s:Int×(Option Addr)×(List Int)×Int) H n3=>a2V a.a5h (a.a5h.n:Int) a s.1 s.2.1 s.2.2.1 s.2.2.2 H n3 K
def a2W(b7B:Sl)(b7C:Int)(e:g9)(a2j:Int)(f:(Option Addr))(g:(List Int))(i:Int)(H:Hp)(n4:(Int×(Option Addr)×(List Int)×Int)→Hp→Prop)(K:ByteArray→Int→Hp→Prop):Prop:=
 (a2j < b7C→
 (0:Int)≤a2j∧(a2j:Int) < b7B.n∧∃a:i6,EltH H b7B a2j 2 (u1 a)∧
 (a.D4=0→
 ∀(b:Sl)(j:Hp),Hle H j→SlH j 1 q6 b [⟨#[118,97,114,32]⟩,a.o8,⟨#[59]⟩]→b.n≤b.c→
 a1v (c7.mk (C5.mk f (Sl.mk none 0 0)) i) g b j (fun l o p=>
 X7 b7B b7C a2j l.G8.faddr o l.fdeep e p n4 K))∧
 (¬(a.D4=0)→
 b0B a.D4 H (fun q r=>
 ∀(d:Sl)(k:Hp),Hle r k→SlH k 1 q6 d [⟨#[97,114,114,97,121,32]⟩,a.o8,⟨#[91]⟩,q,⟨#[93,59]⟩]→d.n≤d.c→
 a1v (c7.mk (C5.mk f (Sl.mk none 0 0)) i) g d k (fun m s t=>
 X7 b7B b7C a2j m.G8.faddr s m.fdeep e t n4 K))))∧
 (¬(a2j < b7C)→
 a0K f g i e H K)
def a6Q(x0:g9)(H:Hp)(K:ByteArray→Int→Hp→Prop):Prop:=
 a0M x0 H (fun a b=>
 (¬(a=0)→
 K ⟨#[]⟩ a b)∧
 (a=0→
 TL ((0,none,[],0):Int×(Option Addr)×(List Int)×Int) b fun(s:Int×(Option Addr)×(List Int)×Int) H n4=>a2W x0.a0f (x0.a0f.n:Int) x0 s.1 s.2.1 s.2.2.1 s.2.2.2 H n4 K))
theorem b1m(x0){H K}(h:a6Q x0 H K):T2 x0 H K:=by
 refine Ct.of fun w0 w ps0 H0 R E I hR=>d3Z ?_
 refine E9 I (cs:=(o7 x0)) rfl fun o dv ba dw=>?_
 refine b8 (lW Tryz.isAgg25 Tryz.sizeOf25 rfl ba) ?_
 refine g6 Tryz.call9 h ba ?_
 rintro _ bb _ dx bc _ _ ⟨bl,rfl,rfl,h⟩
 refine a7 pNe ?_
 refine a0S h (fun _ h=>?_) (fun _ h=>?_)
 ·exact hR _ bb _ _ bc.drop ⟨⟨#[]⟩,bl,rfl,rfl,h⟩
 ·refine a7 (b6z) ?_
  refine E9 bc (cs:=[(Value.pointer none),(nS),(vi 0)]) rfl fun d dy bd dz=>?_
  have hj1:∀(ab:(Option Addr))(ac:(List Int))(ad:Int)(ae:Sl)(af:Frag) H w (_:RowL 5 1 t8 ae ac af) (_:Inv w0 ps0 H0 H [bx d 47 [(adv d ab),(vs ae),(vi ad)],bx o 25 (o7 x0),af] w) (_:a0K ab ac ad x0 H K),c7p (Value.pointer (some ⟨o,0,none⟩)) (Value.pointer (some ⟨d,0,none⟩)) w R E:=by
   intro ab ac ad ae af H w bm I h
   intro _
   have hj2:∀(ao:(Option Addr))(ap:(List Int))(aq:Int)(r:Sl)(t:Frag) H w (_:RowL 5 1 t8 r ap t) (_:Inv w0 ps0 H0 H [bx d 47 [(adv d ao),(vs r),(vi aq)],bx o 25 (o7 x0),t] w) (_:a0J ao ap aq x0 H K),c7o (Value.pointer (some ⟨d,0,none⟩)) w R E:=by
    intro ao ap aq r t H w be I h
    intro _
    refine g6 Tryz.call13 (h d r t be) ((I.bring 2).bring 1) ?_
    rintro _ bn _ ea bf _ _ ⟨eb,rfl,rfl,h⟩
    refine p6 h (fun _ h=>?_) (fun _ h=>?_)
    ·exact hR _ bn _ _ bf.drop.drop.drop ⟨⟨#[]⟩,50,rfl,rfl,h⟩
    ·refine a7 (q9 _) (a7 a8T ?_)
     refine g6 Tryz.call14 (h d r t be) ((bf.bring 1).bring 1) ?_
     rintro _ bo _ ec bp _ _ ⟨bq,ed,ee,ef,eg,rfl,rfl,eh,h⟩
     exact hR _ bo _ _ bp.drop.drop.drop ⟨bq,0,rfl,rfl,h⟩
   refine u2 fun j2 hx2=>?_
   refine a7 a5m (b8 (l1 Tryz.isAgg23 (I.bring 1) rfl) (a7 (a2m _ _ _) ?_))
   obtain ⟨ar,u,br,bs⟩:=h
   refine R1 (J:=fun n l w=>∃(s:Int×(Option Addr)×(List Int)×Int)(H:Hp)(v:Sl)(y:Frag),n=u s∧l=(match s with | (a3G,f,g,i)=>[(vi a3G)])∧(match s with | (a3G,f,g,i)=>RowL 5 1 t8 v g y)∧(match s with | (a3G,f,g,i)=>Inv w0 ps0 H0 H [bx d 47 [(adv d f),(vs v),(vi i)],bx o 25 (o7 x0),y] w)∧ar s H) ⟨_,(0,ab,ac,ad),H,ae,af,rfl,rfl,bm,(((I.bring 2).bring 2).bring 2),br⟩ ?_
   rintro ei ej w next3 ⟨⟨a3G,f,g,i⟩,H,v,y,rfl,au,av,I,bt⟩ hn3
   dsimp only at au I av
   simp only [List.map_cons,List.map_nil,List.cons.injEq,and_true] at au
   have e44:=au
   simp only [e44]
   obtain ⟨n3,hm3,h⟩:∃n3:(Int×(Option Addr)×(List Int)×Int)→Hp→Prop,(∀s' H',n3 s' H'→ar s' H'∧u s' < u (a3G,f,g,i))∧a2V x0.a5h (x0.a5h.n:Int) x0 a3G f g i H n3 K:=⟨_,fun _ _ h=>h,bs (a3G,f,g,i) H (fun s' H'=>ar s' H'∧u s' < u (a3G,f,g,i)) bt (fun _ _ a b=>⟨a,b⟩)⟩
   refine a7 pLs ?_
   refine j7 h (fun _ h=>?_) (fun _ h=>?_)
   ·obtain ⟨bu,bv,bg,aw,h⟩:=h
    obtain ⟨ek,el,bw,aw⟩:=aw
    refine a7 (a9o bw _ _ _ _ bu bv) (b8 (ldA (vs:=(k7 bg)) Tryz.isAgg54 Tryz.sizeOf54 rfl (I.atH aw)) ?_)
    refine r7 I Tryz.zeroValue54 (cs:=[(vi 0),(eS),(nS),(nS),(nS),(nS)]) rfl fun em en bz eo=>?_
    refine A9 bz Tryz.sizeOf54 (vs:=(k7 bg)) fun ep bh eq=>?_
    refine b8 (lW Tryz.isAgg54 Tryz.sizeOf54 rfl bh) ?_
    refine g6 Tryz.call12 (h d v y av) ((bh.bring 3).bring 2) ?_
    rintro _ ca _ er cb _ _ ⟨bi,cc,cd,ce,rfl,rfl,cf,h⟩
    refine a7 pAd ?_
    exact hn3 _ _ _ (hm3 _ _ h).2 ⟨((IntKind.wrap .i64 (a3G+1)),bi.G8.faddr,cc,bi.fdeep),ca,cd,ce,rfl,rfl,cf,((((cb.bring 2).drop.bring 1).bring 2).bring 2),(hm3 _ _ h).1⟩
   ·exact hx2 _ _ (hj2 f g i v y H _ av (((I.bring 2).bring 2).bring 2) h)
  refine u2 fun j1 hx1=>?_
  refine a7 a5l (b8 (l1 Tryz.isAgg22 (bd.bring 1) rfl) (a7 (a7Z _ _ _) ?_))
  obtain ⟨ax,z,cg,ch⟩:=h
  refine R1 (J:=fun n l w=>∃(s:Int×(Option Addr)×(List Int)×Int)(H:Hp)(p:Sl)(q:Frag),n=z s∧l=(match s with | (a2j,j,k,m)=>[(vi a2j)])∧(match s with | (a2j,j,k,m)=>RowL 5 1 t8 p k q)∧(match s with | (a2j,j,k,m)=>Inv w0 ps0 H0 H [bx d 47 [(adv d j),(vs p),(vi m)],bx o 25 (o7 x0),q] w)∧ax s H) ⟨_,(0,none,[],0),bb,(Sl.mk none 0 0),[],rfl,rfl,(RowL.nil b4L b4M),((bd.nil.bring 2).bring 2),cg⟩ ?_
  rintro es et w next4 ⟨⟨a2j,j,k,m⟩,H,p,q,rfl,ay,ag,I,ci⟩ hn4
  dsimp only at ay I ag
  simp only [List.map_cons,List.map_nil,List.cons.injEq,and_true] at ay
  have e20:=ay
  simp only [e20]
  obtain ⟨n4,hm4,h⟩:∃n4:(Int×(Option Addr)×(List Int)×Int)→Hp→Prop,(∀s' H',n4 s' H'→ax s' H'∧z s' < z (a2j,j,k,m))∧a2W x0.a0f (x0.a0f.n:Int) x0 a2j j k m H n4 K:=⟨_,fun _ _ h=>h,ch (a2j,j,k,m) H (fun s' H'=>ax s' H'∧z s' < z (a2j,j,k,m)) ci (fun _ _ a b=>⟨a,b⟩)⟩
  refine a7 pLs ?_
  refine j7 h (fun _ h=>?_) (fun _ h=>?_)
  ·have hj5:∀(ah:(Option Addr))(ai:(List Int))(aj:Int)(ak:Sl)(al:Frag) H w (_:RowL 5 1 t8 ak ai al) (_:Inv w0 ps0 H0 H [bx d 47 [(adv d ah),(vs ak),(vi aj)],bx o 25 (o7 x0),al] w) (_:X7 x0.a0f (x0.a0f.n:Int) a2j ah ai aj x0 H n4 K),c7q (Value.pointer (some ⟨o,0,none⟩)) (Value.pointer (some ⟨d,0,none⟩)) (vs x0.a0f) (vi (x0.a0f.n:Int)) (vi a2j) w next4 R E:=by
    intro ah ai aj ak al H w cj I h
    intro _
    refine a7 pAd ?_
    exact hn4 _ _ _ (hm4 _ _ h).2 ⟨((IntKind.wrap .i64 (a2j+1)),ah,ai,aj),H,ak,al,rfl,rfl,cj,(((I.bring 2).bring 2).bring 2),(hm4 _ _ h).1⟩
   refine u2 fun j5 hx5=>?_
   obtain ⟨ck,cl,am,az,h⟩:=h
   obtain ⟨eu,ev,cm,az⟩:=az
   refine a7 (b0Y cm _ _ _ _ ck cl) (b8 (ldA (vs:=(u1 am)) Tryz.isAgg49 Tryz.sizeOf49 rfl (I.atH az)) ?_)
   refine r7 I Tryz.zeroValue49 (cs:=[(eS),(vi 0)]) rfl fun ew ex cn ey=>?_
   refine A9 cn Tryz.sizeOf49 (vs:=(u1 am)) fun ez an fa=>?_
   refine a7 a6C (b8 (l1 Tryz.isAgg3 an rfl) (a7 pEq ?_))
   refine j7 h (fun _ h=>?_) (fun _ h=>?_)
   ·refine a7 b0Z (b8 (l1 Tryz.isAgg9 an rfl) ?_)
    refine O4 (e:=9) (c:=q6) (xs:=[⟨#[118,97,114,32]⟩,am.o8,⟨#[59]⟩]) an (b2N _ _ _) rfl rfl K8 K9 (nb rfl) fun co fb fc cp cq fd=>?_
    obtain ⟨cr,ct,cu,cv,cw⟩:=Inv.freezeC cq cp (by decide)
    replace h:=h co cr cu cv cw
    refine g6 Tryz.call10 (h d p q ag) ((ct.bring 3).bring 2) ?_
    rintro _ cx _ fe cy _ _ ⟨bj,cz,da,db,rfl,rfl,dc,h⟩
    exact hx5 _ _ (hj5 bj.G8.faddr cz bj.fdeep da db cx _ dc ((((cy.bring 2).drop.bring 1).bring 2).bring 2) h)
   ·refine T1 an fun ff aa=>?_
    refine o0 b0Z ?_
    refine o0 a6C ?_
    refine u7 (l1 Tryz.isAgg9 aa rfl) ?_
    refine u7 (l1 Tryz.isAgg3 aa rfl) ?_
    refine g6 Tryz.call11 h aa ?_
    rintro _ _ _ fg dd _ de ⟨df,rfl,rfl,h⟩
    refine ⟨(de _ aa.lt1 (Inv.a1Y (Fi:=[]) aa)),?_⟩
    refine O4 (e:=9) (c:=q6) (xs:=[⟨#[97,114,114,97,121,32]⟩,am.o8,⟨#[91]⟩,df,⟨#[93,59]⟩]) dd (c7S _ _ _ _ _) rfl rfl K8 K9 (nb rfl) fun dg fh fi dh di fj=>?_
    obtain ⟨dj,dk,dl,dm,dn⟩:=Inv.freezeC di dh (by decide)
    replace h:=h dg dj dl dm dn
    refine g6 Tryz.call10 (h d p q ag) ((dk.bring 3).bring 2) ?_
    rintro _ dp _ fk dq _ _ ⟨bk,dr,ds,dt,rfl,rfl,du,h⟩
    exact hx5 _ _ (hj5 bk.G8.faddr dr bk.fdeep ds dt dp _ du ((((dq.bring 2).drop.bring 1).bring 2).bring 2) h)
  ·exact hx1 _ _ (hj1 j k m p q H _ ag (((I.bring 2).bring 2).bring 2) h)
def B4(H:Hp)(K:Bool→Hp→Prop):Prop:=
 K true H
def B5(a3L:Sl)(Z5:Sl)(b0a:Int)(L1:Int)(H:Hp)(n2:Int→Hp→Prop)(K:Bool→Hp→Prop):Prop:=
 (L1 < b0a→
 (0:Int)≤L1∧(L1:Int) < Z5.n∧∃a:f8,EltH H Z5 L1 4 (f7 a)∧
 (0:Int)≤L1∧(L1:Int) < a3L.n∧∃b:f8,EltH H a3L L1 4 (f7 b)∧
 a1k a b H (fun c d=>
 ((!c)=true→
 K false d)∧
 ((!c)=false→
 n2 (IntKind.wrap .i64 (L1+1)) d)))∧
 (¬(L1 < b0a)→
 B4 H K)
def C1(x0:Sl)(x1:Sl)(H:Hp)(K:Bool→Hp→Prop):Prop:=
 (¬((x0.n:Int)=(x1.n:Int))→
 K false H)∧
 ((x0.n:Int)=(x1.n:Int)→
 TL (0:Int) H fun(s:Int) H n2=>B5 x1 x0 (x0.n:Int) s H n2 K)
theorem M5(x0 x1){H K}(h:C1 x0 x1 H K):m9 x0 x1 H K:=by
 refine Ct.of fun w0 w ps0 H0 R E I hR=>d0S ?_
 refine a7 (a4K _ _ _) (a7 (a4K _ _ _) (a7 pNe ?_))
 refine a0S h (fun _ h=>?_) (fun _ h=>?_)
 ·exact hR _ H _ _ I ⟨_,rfl,rfl,h⟩
 ·have hj1:∀H w (_:Inv w0 ps0 H0 H [] w) (_:B4 H K),c3j w R E:=by
   intro H w I h
   intro _
   exact hR _ H _ _ I ⟨_,rfl,rfl,h⟩
  refine u2 fun j1 hx1=>?_
  refine a7 (a4K _ _ _) ?_
  refine a2x (σ:=Int) (fun L1=>[(vi L1)]) (fun L1=>[]) h rfl I ?_
  rintro L1 H s w next2 n2 d I h hn2
  simp only [List.map_cons,List.map_nil,List.cons.injEq,and_true] at d
  have e17:=d
  simp only [e17]
  refine a7 pLs ?_
  refine j7 h (fun _ h=>?_) (fun _ h=>?_)
  ·obtain ⟨j,k,e,a,h⟩:=h
   obtain ⟨t,u,l,a⟩:=a
   refine a7 (a1N l _ _ _ _ j k) (b8 (ldA (vs:=(f7 e)) Tryz.isAgg39 Tryz.sizeOf39 rfl (I.atH a)) ?_)
   refine r7 I Tryz.zeroValue39 (cs:=[(vi 0),(vi 0),(eS),(nS)]) rfl fun v y m z=>?_
   refine A9 m Tryz.sizeOf39 (vs:=(f7 e)) fun aa f ab=>?_
   obtain ⟨n,o,g,b,h⟩:=h
   obtain ⟨ac,ad,p,b⟩:=b
   refine a7 (a1N p _ _ _ _ n o) (b8 (ldA (vs:=(f7 g)) Tryz.isAgg39 Tryz.sizeOf39 rfl (f.atH b)) ?_)
   refine r7 f Tryz.zeroValue39 (cs:=[(vi 0),(vi 0),(eS),(nS)]) rfl fun ae af q ag=>?_
   refine A9 q Tryz.sizeOf39 (vs:=(f7 g)) fun ah c ai=>?_
   refine b8 (lW Tryz.isAgg39 Tryz.sizeOf39 rfl (c.bring 1)) (b8 (lW Tryz.isAgg39 Tryz.sizeOf39 rfl c) ?_)
   refine g6 Tryz.call43 h c ?_
   rintro _ r _ aj i _ _ ⟨ak,rfl,rfl,h⟩
   refine a7 (T6 _) ?_
   refine p6 h (fun _ h=>?_) (fun _ h=>?_)
   ·exact hR _ r _ _ i.drop.drop ⟨_,rfl,rfl,h⟩
   ·refine a7 pAd ?_
    exact hn2 (IntKind.wrap .i64 (L1+1)) _ _ h i.drop.drop
  ·exact hx1 _ _ (hj1 H _ I h)
def a5T(x0:d9)(x1:d9)(H:Hp)(K:Bool→Hp→Prop):Prop:=
 TG (((decide (x0.d6=x1.d6))&&(decide (x0.o8=x1.o8)))=true) (m9 x0.p7 x1.p7 H) false H (fun(a:Bool)(c:Hp)=>
 TG ((((decide (x0.d6=x1.d6))&&(decide (x0.o8=x1.o8)))&&a)=true) (q7 x0.C0 x1.C0 c) false c (fun(b:Bool)(d:Hp)=>
 TG (((((decide (x0.d6=x1.d6))&&(decide (x0.o8=x1.o8)))&&a)&&b)=true) (l8 x0.P5 x1.P5 d) false d (fun(e:Bool)(f:Hp)=>
 TG ((((((decide (x0.d6=x1.d6))&&(decide (x0.o8=x1.o8)))&&a)&&b)&&e)=true) (l8 x0.O6 x1.O6 f) false f (fun(g:Bool)(i:Hp)=>
 K ((((((decide (x0.d6=x1.d6))&&(decide (x0.o8=x1.o8)))&&a)&&b)&&e)&&g) i))))
theorem b0p(x0 x1){H K}(h:a5T x0 x1 H K):a1m x0 x1 H K:=by
 refine Ct.of fun w0 w ps0 H0 R E I hR=>d0v ?_
 refine E9 I (cs:=(k7 x0)) rfl fun aj ak ae al=>?_
 refine E9 ae (cs:=(k7 x1)) rfl fun am an b ao=>?_
 refine a7 W9 (b8 (l1 Tryz.isAgg3 (b.bring 1) rfl) (a7 W9 (b8 (l1 Tryz.isAgg3 b rfl) (a7 pEq ?_))))
 refine a7 (Pu.g fun a=>by with_reducible exact a2d) ?_
 refine b8 (Ld.g fun a=>by simp only [o9 a];exact (l1 Tryz.isAgg9 (b.bring 1) rfl)) ?_
 refine a7 (Pu.g fun a=>by with_reducible exact a2d) ?_
 refine b8 (Ld.g fun a=>by simp only [o9 a];exact (l1 Tryz.isAgg9 b rfl)) ?_
 refine a7 (Pu.g fun a=>by simp only [o9 a];with_reducible exact (R3 _ _ _ _ _)) ?_
 refine a7 (D9 _ _) ?_
 refine a7 (Pu.g fun a=>by with_reducible exact a0h) ?_
 refine b8 (Ld.g fun a=>by simp only [o9 a];exact (l1 Tryz.isAgg37 (b.bring 1) rfl)) ?_
 refine a7 (Pu.g fun a=>by with_reducible exact a0h) ?_
 refine b8 (Ld.g fun a=>by simp only [o9 a];exact (l1 Tryz.isAgg37 b rfl)) ?_
 refine M3 [] (fun f:Bool=>(vB f)) h b (fun a h=>by simp only [o9 a];exact N9 Tryz.call42 h b) fun f o af c p q h=>?_
 refine a7 (D9 _ _) ?_
 refine a7 (Pu.g fun a=>by with_reducible exact Z0) ?_
 refine b8 (Ld.g fun a=>by simp only [o9 a];exact (l1 Tryz.isAgg52 (c.bring 1) rfl)) ?_
 refine a7 (Pu.g fun a=>by with_reducible exact Z0) ?_
 refine b8 (Ld.g fun a=>by simp only [o9 a];exact (l1 Tryz.isAgg52 c rfl)) ?_
 refine M3 [] (fun i:Bool=>(vB i)) h c (fun a h=>by simp only [o9 a];exact N9 Tryz.call44 h c) fun i s ag d t u h=>?_
 refine a7 (D9 _ _) ?_
 refine a7 (Pu.g fun a=>by with_reducible exact a3g) ?_
 refine b8 (Ld.g fun a=>by simp only [o9 a];exact (l1 Tryz.isAgg23 (d.bring 1) rfl)) ?_
 refine a7 (Pu.g fun a=>by with_reducible exact a3g) ?_
 refine b8 (Ld.g fun a=>by simp only [o9 a];exact (l1 Tryz.isAgg23 d rfl)) ?_
 refine M3 [] (fun j:Bool=>(vB j)) h d (fun a h=>by simp only [o9 a];exact N9 Tryz.call19 h d) fun j y ah e z aa h=>?_
 refine a7 (D9 _ _) ?_
 refine a7 (Pu.g fun a=>by with_reducible exact a3h) ?_
 refine b8 (Ld.g fun a=>by simp only [o9 a];exact (l1 Tryz.isAgg23 (e.bring 1) rfl)) ?_
 refine a7 (Pu.g fun a=>by with_reducible exact a3h) ?_
 refine b8 (Ld.g fun a=>by simp only [o9 a];exact (l1 Tryz.isAgg23 e rfl)) ?_
 refine M3 [] (fun k:Bool=>(vB k)) h e (fun a h=>by simp only [o9 a];exact N9 Tryz.call19 h e) fun k l ai m ac ad h=>?_
 refine a7 (D9 _ _) ?_
 exact hR _ l _ _ m.drop.drop ⟨_,rfl,rfl,h⟩
def B6(H:Hp)(K:Bool→Hp→Prop):Prop:=
 K true H
def B7(a3L:Sl)(Z5:Sl)(b0a:Int)(L1:Int)(H:Hp)(n2:Int→Hp→Prop)(K:Bool→Hp→Prop):Prop:=
 (L1 < b0a→
 (0:Int)≤L1∧(L1:Int) < Z5.n∧∃a:d9,EltH H Z5 L1 6 (k7 a)∧
 (0:Int)≤L1∧(L1:Int) < a3L.n∧∃b:d9,EltH H a3L L1 6 (k7 b)∧
 a1m a b H (fun c d=>
 ((!c)=true→
 K false d)∧
 ((!c)=false→
 n2 (IntKind.wrap .i64 (L1+1)) d)))∧
 (¬(L1 < b0a)→
 B6 H K)
def C2(x0:Sl)(x1:Sl)(H:Hp)(K:Bool→Hp→Prop):Prop:=
 (¬((x0.n:Int)=(x1.n:Int))→
 K false H)∧
 ((x0.n:Int)=(x1.n:Int)→
 TL (0:Int) H fun(s:Int) H n2=>B7 x1 x0 (x0.n:Int) s H n2 K)
theorem M6(x0 x1){H K}(h:C2 x0 x1 H K):l8 x0 x1 H K:=by
 refine Ct.of fun w0 w ps0 H0 R E I hR=>d0u ?_
 refine a7 (a2m _ _ _) (a7 (a2m _ _ _) (a7 pNe ?_))
 refine a0S h (fun _ h=>?_) (fun _ h=>?_)
 ·exact hR _ H _ _ I ⟨_,rfl,rfl,h⟩
 ·have hj1:∀H w (_:Inv w0 ps0 H0 H [] w) (_:B6 H K),c2Z w R E:=by
   intro H w I h
   intro _
   exact hR _ H _ _ I ⟨_,rfl,rfl,h⟩
  refine u2 fun j1 hx1=>?_
  refine a7 (a2m _ _ _) ?_
  refine a2x (σ:=Int) (fun L1=>[(vi L1)]) (fun L1=>[]) h rfl I ?_
  rintro L1 H s w next2 n2 d I h hn2
  simp only [List.map_cons,List.map_nil,List.cons.injEq,and_true] at d
  have e17:=d
  simp only [e17]
  refine a7 pLs ?_
  refine j7 h (fun _ h=>?_) (fun _ h=>?_)
  ·obtain ⟨j,k,e,a,h⟩:=h
   obtain ⟨t,u,l,a⟩:=a
   refine a7 (a9o l _ _ _ _ j k) (b8 (ldA (vs:=(k7 e)) Tryz.isAgg54 Tryz.sizeOf54 rfl (I.atH a)) ?_)
   refine r7 I Tryz.zeroValue54 (cs:=[(vi 0),(eS),(nS),(nS),(nS),(nS)]) rfl fun v y m z=>?_
   refine A9 m Tryz.sizeOf54 (vs:=(k7 e)) fun aa f ab=>?_
   obtain ⟨n,o,g,b,h⟩:=h
   obtain ⟨ac,ad,p,b⟩:=b
   refine a7 (a9o p _ _ _ _ n o) (b8 (ldA (vs:=(k7 g)) Tryz.isAgg54 Tryz.sizeOf54 rfl (f.atH b)) ?_)
   refine r7 f Tryz.zeroValue54 (cs:=[(vi 0),(eS),(nS),(nS),(nS),(nS)]) rfl fun ae af q ag=>?_
   refine A9 q Tryz.sizeOf54 (vs:=(k7 g)) fun ah c ai=>?_
   refine b8 (lW Tryz.isAgg54 Tryz.sizeOf54 rfl (c.bring 1)) (b8 (lW Tryz.isAgg54 Tryz.sizeOf54 rfl c) ?_)
   refine g6 Tryz.call20 h c ?_
   rintro _ r _ aj i _ _ ⟨ak,rfl,rfl,h⟩
   refine a7 (T6 _) ?_
   refine p6 h (fun _ h=>?_) (fun _ h=>?_)
   ·exact hR _ r _ _ i.drop.drop ⟨_,rfl,rfl,h⟩
   ·refine a7 pAd ?_
    exact hn2 (IntKind.wrap .i64 (L1+1)) _ _ h i.drop.drop
  ·exact hx1 _ _ (hj1 H _ I h)
def a7n(x0:g9)(x1:g9)(H:Hp)(K:Bool→Hp→Prop):Prop:=
 a1G x0 H (fun a c=>
 TG (a=true) (a1G x1 c) false c (fun(b:Bool)(d:Hp)=>
 TG ((a&&b)=true) (L0 x0.a0f x1.a0f d) false d (fun(e:Bool)(f:Hp)=>
 TG (((a&&b)&&e)=true) (l8 x0.a5h x1.a5h f) false f (fun(g:Bool)(i:Hp)=>
 K (((a&&b)&&e)&&g) i))))
theorem b1T(x0 x1){H K}(h:a7n x0 x1 H K):a0N x0 x1 H K:=by
 refine Ct.of fun w0 w ps0 H0 R E I hR=>d4b ?_
 refine E9 I (cs:=(o7 x0)) rfl fun ae af z ag=>?_
 refine E9 z (cs:=(o7 x1)) rfl fun ah ai l aj=>?_
 refine b8 (lW Tryz.isAgg25 Tryz.sizeOf25 rfl (l.bring 1)) ?_
 refine g6 Tryz.call17 h l ?_
 rintro _ _ _ ak d _ _ ⟨aa,rfl,rfl,h⟩
 refine b8 (Ld.g fun a=>by exact (lW Tryz.isAgg25 Tryz.sizeOf25 rfl d)) ?_
 refine M3 [] (fun e:Bool=>(vB e)) h d (fun a h=>by simp only [o9 a];exact N9 Tryz.call17 h d) fun e n ab b o p h=>?_
 refine a7 (D9 _ _) ?_
 refine a7 (Pu.g fun a=>by with_reducible exact a5l) ?_
 refine b8 (Ld.g fun a=>by simp only [o9 a];exact (l1 Tryz.isAgg22 (b.bring 1) rfl)) ?_
 refine a7 (Pu.g fun a=>by with_reducible exact a5l) ?_
 refine b8 (Ld.g fun a=>by simp only [o9 a];exact (l1 Tryz.isAgg22 b rfl)) ?_
 refine M3 [] (fun f:Bool=>(vB f)) h b (fun a h=>by simp only [o9 a];exact N9 Tryz.call18 h b) fun f r ac c s t h=>?_
 refine a7 (D9 _ _) ?_
 refine a7 (Pu.g fun a=>by with_reducible exact a5m) ?_
 refine b8 (Ld.g fun a=>by simp only [o9 a];exact (l1 Tryz.isAgg23 (c.bring 1) rfl)) ?_
 refine a7 (Pu.g fun a=>by with_reducible exact a5m) ?_
 refine b8 (Ld.g fun a=>by simp only [o9 a];exact (l1 Tryz.isAgg23 c rfl)) ?_
 refine M3 [] (fun i:Bool=>(vB i)) h c (fun a h=>by simp only [o9 a];exact N9 Tryz.call19 h c) fun i j ad k v y h=>?_
 refine a7 (D9 _ _) ?_
 exact hR _ j _ _ k.drop.drop ⟨_,rfl,rfl,h⟩
def a1A(a3v:Int)(H:Hp)(K:Int→Hp→Prop):Prop:=
 K a3v H
def a1B(a3M:Int)(H:Hp)(K:Int→Hp→Prop):Prop:=
 a1A (IntKind.wrap .i64 (a3M-1)) H K
def Y1(b2m:Int)(H:Hp)(K:Int→Hp→Prop):Prop:=
 a1B (IntKind.wrap .i64 (b2m-1)) H K
def P0(b0l:Int)(d2b:Int)(b5V:Bool)(H:Hp)(K:Int→Hp→Prop):Prop:=
 (b5V=true→
 Y1 b0l H K)∧
 (b5V=false→
 (d2b=5→
 a1B b0l H K)∧
 (¬(d2b=5)→
 a1A b0l H K))
def T0(c1S:Int)(b0q:Int)(b5W:Bool)(H:Hp)(K:Int→Hp→Prop):Prop:=
 (b5W=true→
 Y1 (IntKind.wrap .i64 (c1S-1)) H K)∧
 (b5W=false→
 (b0q=8→
 P0 c1S b0q (decide (b0q=8)) H K)∧
 (¬(b0q=8)→
 (b0q=9→
 P0 c1S b0q (decide (b0q=9)) H K)∧
 (¬(b0q=9)→
 P0 c1S b0q (decide (b0q=10)) H K)))
def a9B(x0:Int)(H:Hp)(K:Int→Hp→Prop):Prop:=
 (x0=6→
 T0 4 x0 (decide (x0=6)) H K)∧
 (¬(x0=6)→
 T0 4 x0 (decide (x0=7)) H K)
theorem a9C(x0){H K}(h:a9B x0 H K):a0i x0 H K:=by
 refine Ct.of fun w0 w ps0 H0 R E I hR=>d0Y ?_
 have hj1:∀(a3v:Int) H w (_:Inv w0 ps0 H0 H [] w) (_:a1A a3v H K),c3m (vi a3v) w R E:=by
  intro a3v H w I h
  intro _
  exact hR _ H _ _ I ⟨_,rfl,rfl,h⟩
 refine u2 fun j1 hx1=>?_
 have hj2:∀(a3M:Int) H w (_:Inv w0 ps0 H0 H [] w) (_:a1B a3M H K),c3n (vi a3M) w j1 R E:=by
  intro a3M H w I h
  intro _
  refine a7 pSu ?_
  exact hx1 _ _ (hj1 (IntKind.wrap .i64 (a3M-1)) H _ I h)
 refine u2 fun j2 hx2=>?_
 have hj3:∀(b2m:Int) H w (_:Inv w0 ps0 H0 H [] w) (_:Y1 b2m H K),c3o (vi b2m) w j2 R E:=by
  intro b2m H w I h
  intro _
  refine a7 pSu ?_
  exact hx2 _ _ (hj2 (IntKind.wrap .i64 (b2m-1)) H _ I h)
 refine u2 fun j3 hx3=>?_
 have hj4:∀(b5W:Bool) H w (_:Inv w0 ps0 H0 H [] w) (_:T0 4 x0 b5W H K),c3q (vi 4) (vi x0) (vB b5W) w j3 j2 j1 R E:=by
  intro b5W H w I h
  intro _
  refine p6 h (fun _ h=>?_) (fun _ h=>?_)
  ·refine a7 pSu ?_
   exact hx3 _ _ (hj3 (IntKind.wrap .i64 (4-1)) H _ I h)
  ·have hj5:∀(b5V:Bool) H w (_:Inv w0 ps0 H0 H [] w) (_:P0 4 x0 b5V H K),c3p (vi 4) (vi x0) (vB b5V) w j3 j2 j1 R E:=by
    intro b5V H w I h
    intro _
    refine p6 h (fun _ h=>?_) (fun _ h=>?_)
    ·exact hx3 _ _ (hj3 4 H _ I h)
    ·refine a7 pEq ?_
     refine j7 h (fun _ h=>?_) (fun _ h=>?_)
     ·exact hx2 _ _ (hj2 4 H _ I h)
     ·exact hx1 _ _ (hj1 4 H _ I h)
   refine u2 fun j5 hx5=>?_
   refine a7 pEq ?_
   refine j7 h (fun _ h=>?_) (fun _ h=>?_)
   ·exact hx5 _ _ (hj5 (decide (x0=8)) H _ I h)
   ·refine a7 pEq ?_
    refine j7 h (fun _ h=>?_) (fun _ h=>?_)
    ·exact hx5 _ _ (hj5 (decide (x0=9)) H _ I h)
    ·refine a7 pEq ?_
     exact hx5 _ _ (hj5 (decide (x0=10)) H _ I h)
 refine u2 fun j4 hx4=>?_
 refine a7 pEq ?_
 refine j7 h (fun _ h=>?_) (fun _ h=>?_)
 ·exact hx4 _ _ (hj4 (decide (x0=6)) H _ I h)
 ·refine a7 pEq ?_
  exact hx4 _ _ (hj4 (decide (x0=7)) H _ I h)
def a7o(x0:f8)(H:Hp)(K:ByteArray→Int→Hp→Prop):Prop:=
 a4L x0 H (fun a b=>
 (¬(a=0)→
 K ⟨#[]⟩ a b)∧
 (a=0→
 D6 (c7.mk (C5.mk none (Sl.mk none 0 0)) 0) [] x0 b (fun c d e=>
 a2y (l7 c) d e (fun f i j g=>
 K f 0 g))))
theorem b1U(x0){H K}(h:a7o x0 H K):a7h x0 H K:=by
 refine Ct.of fun w0 w ps0 H0 R E I hR=>d4c ?_
 refine E9 I (cs:=(f7 x0)) rfl fun p q a r=>?_
 refine b8 (lW Tryz.isAgg39 Tryz.sizeOf39 rfl a) ?_
 refine g6 Tryz.call21 h a ?_
 rintro _ f _ s b _ _ ⟨g,rfl,rfl,h⟩
 refine a7 pNe ?_
 refine a0S h (fun _ h=>?_) (fun _ h=>?_)
 ·exact hR _ f _ _ b.drop ⟨⟨#[]⟩,g,rfl,rfl,h⟩
 ·refine a7 (b6z) ?_
  refine E9 b (cs:=[(Value.pointer none),(nS),(vi 0)]) rfl fun c t d u=>?_
  refine b8 (lW Tryz.isAgg39 Tryz.sizeOf39 rfl (d.bring 1)) ?_
  refine g6 Tryz.call22 (h c (Sl.mk none 0 0) ([]) (RowL.nil (e:=5) b4L b4M)) (d.nil.bring 1) ?_
  rintro _ _ _ v i _ _ ⟨y,z,j,k,rfl,rfl,l,h⟩
  refine a7 (q9 _) (a7 a8T ?_)
  refine g6 Tryz.call14 (h c j k l) ((i.bring 1).bring 1) ?_
  rintro _ m _ aa n _ _ ⟨o,ab,ac,ad,ae,rfl,rfl,af,h⟩
  exact hR _ m _ _ n.drop.drop.drop ⟨o,0,rfl,rfl,h⟩
def a4G(H:Hp)(K:Bool→Hp→Prop):Prop:=
 ∀(a:Sl)(d:Hp),Hle H d→SlH d 4 f7 a [(f8.mk 1 2 ⟨#[]⟩ (Sl.mk none 0 0)),(f8.mk 1 3 ⟨#[]⟩ (Sl.mk none 0 0))]→a.n≤a.c→
 ∀(b:Sl)(e:Hp),Hle d e→SlH e 4 f7 b [(f8.mk 1 1 ⟨#[]⟩ (Sl.mk none 0 0)),(f8.mk 7 0 ⟨#[]⟩ a)]→b.n≤b.c→
 a7h (f8.mk 7 0 ⟨#[]⟩ b) e (fun f g i=>
 K ((decide (g=0))&&(decide (f=⟨#[49,32,45,32,40,50,32,45,32,51,41]⟩))) i)
theorem a8Z{H K}(h:a4G H K):a2f H K:=by
 refine Ct.of fun w0 w ps0 H0 R E I hR=>d3W ?_
 refine a7 (a5Z _ _) (a7 (a5Z _ _) (a7 (a5Z _ _) ?_))
 refine O4 (e:=39) (c:=f7) (xs:=[(f8.mk 1 2 ⟨#[]⟩ (Sl.mk none 0 0)),(f8.mk 1 3 ⟨#[]⟩ (Sl.mk none 0 0))]) I (b2M _ _ _ _ _ _ _ _ _ _ _ _) rfl rfl P9 Q0 (nb rfl) fun b ab ac i j ad=>?_
 refine a7 (a6a _ _ _ _) ?_
 obtain ⟨k,l,m,n,o⟩:=Inv.freezeC j i (by decide)
 replace h:=h b k m n o
 refine O4 (e:=39) (c:=f7) (xs:=[(f8.mk 1 1 ⟨#[]⟩ (Sl.mk none 0 0)),(f8.mk 7 0 ⟨#[]⟩ b)]) l (b2M _ _ _ _ _ _ _ _ _ _ _ _) rfl rfl P9 Q0 (nb rfl) fun p ae af q r ag=>?_
 refine a7 (a6a _ _ _ _) ?_
 obtain ⟨s,t,u,v,y⟩:=Inv.freezeC r q (by decide)
 replace h:=h p s u v y
 refine g6 Tryz.call8 h t ?_
 rintro _ z _ ah aa _ _ ⟨d,f,rfl,rfl,h⟩
 refine a7 (j9 _ _ (Value.string d) rfl) (a7 (j9 _ _ (vi f) rfl) (a7 pEq ?_))
 simp only [E5]
 refine a7 (Pu.g fun a=>by simp only [o9 a];with_reducible exact (R3 _ _ _ _ _)) ?_
 refine a7 (D9 _ _) ?_
 exact hR _ z _ _ aa ⟨_,rfl,rfl,h⟩
def L3(b1g:ByteArray)(p:g9)(H:Hp)(K:Bool→Hp→Prop):Prop:=
 X2 b1g H (fun b q c d=>
 (¬(c=0)→
 K true d)∧
 (c=0→
 T2 b d (fun e a f=>
 (¬(a=0)→
 K (decide (a=50)) f)∧
 (a=0→
 X2 e f (fun g r i l=>
 T2 g l (fun m j k=>
 TG (((decide (i=0))&&(decide (j=0)))=true) (a0N b g k) false k (fun(n:Bool)(o:Hp)=>
 K ((((decide (i=0))&&(decide (j=0)))&&n)&&(decide (e=m))) o)))))))
def a3A(x0:g9)(x1:ByteArray)(H:Hp)(K:Bool→Hp→Prop):Prop:=
 a2f H (fun b c=>
 ((!b)=true→
 K false c)∧
 ((!b)=false→
 T2 x0 c (fun j d e=>
 (d=0→
 X2 j e (fun k l a f=>
 TG (((!decide (a=41)) && !(!decide (a=0)))=true) (a0N x0 k f) false f (fun(g:Bool)(i:Hp)=>
 (((!decide (a=41))&&((!decide (a=0))||(!g)))=true→
 K false i)∧
 (((!decide (a=41))&&((!decide (a=0))||(!g)))=false→
 L3 x1 x0 i K))))∧
 (¬(d=0)→
 L3 x1 x0 e K))))
theorem a7f(x0 x1){H K}(h:a3A x0 x1 H K):a0B x0 x1 H K:=by
 refine Ct.of fun w0 w ps0 H0 R E I hR=>d3V ?_
 refine E9 I (cs:=(o7 x0)) rfl fun af bl ag bm=>?_
 refine g6 Tryz.call4 h ag ?_
 rintro _ ah _ bn l _ _ ⟨bo,rfl,rfl,h⟩
 refine a7 (T6 _) ?_
 refine p6 h (fun _ h=>?_) (fun _ h=>?_)
 ·exact hR _ ah _ _ l.drop ⟨_,rfl,rfl,h⟩
 ·refine b8 (lW Tryz.isAgg25 Tryz.sizeOf25 rfl l) ?_
  refine g6 Tryz.call5 h l ?_
  rintro _ ai _ bp p _ _ ⟨aj,ak,rfl,rfl,h⟩
  refine a7 (j9 _ _ (Value.string aj) rfl) (a7 (j9 _ _ (vi ak) rfl) ?_)
  have hj1:∀H w (_:Inv w0 ps0 H0 H [bx af 25 (o7 x0)] w) (_:L3 x1 x0 H K),c7n (Value.string x1) w R E:=by
   intro H w I h
   intro _
   refine g6 Tryz.call6 h I ?_
   rintro _ al _ bq am _ _ ⟨an,ao,ap,rfl,rfl,h⟩
   refine a7 (j9 _ _ _ rfl) (a7 (j9 _ _ _ rfl) (a7 (j9 _ _ (vi ap) rfl) ?_))
   refine r7 am Tryz.zeroValue25 (cs:=[(nS),(nS)]) rfl fun br bs aq bt=>?_
   refine r7 aq Tryz.zeroValue31 (cs:=[(vi 0),(vi 0)]) rfl fun bu bv ar bw=>?_
   refine A9 (ar.bring 1) Tryz.sizeOf25 (vs:=(o7 an)) fun bz au ca=>?_
   refine A9 (au.bring 1) Tryz.sizeOf31 (vs:=(m8 ao)) fun cb m cc=>?_
   refine a7 pNe ?_
   refine a0S h (fun _ h=>?_) (fun _ h=>?_)
   ·exact hR _ al _ _ m.drop.drop.drop ⟨_,rfl,rfl,h⟩
   ·refine b8 (lW Tryz.isAgg25 Tryz.sizeOf25 rfl (m.bring 1)) ?_
    refine g6 Tryz.call5 h m ?_
    rintro _ av _ cd q _ _ ⟨r,s,rfl,rfl,h⟩
    refine a7 (j9 _ _ (Value.string r) rfl) (a7 (j9 _ _ (vi s) rfl) (a7 pNe ?_))
    refine a0S h (fun _ h=>?_) (fun _ h=>?_)
    ·refine a7 pEq ?_
     exact hR _ av _ _ q.drop.drop.drop ⟨_,rfl,rfl,h⟩
    ·refine g6 Tryz.call6 h q ?_
     rintro _ _ _ ce aw _ _ ⟨ax,ay,t,rfl,rfl,h⟩
     refine a7 (j9 _ _ _ rfl) (a7 (j9 _ _ _ rfl) (a7 (j9 _ _ (vi t) rfl) ?_))
     refine r7 aw Tryz.zeroValue25 (cs:=[(nS),(nS)]) rfl fun cf cg az ch=>?_
     refine r7 az Tryz.zeroValue31 (cs:=[(vi 0),(vi 0)]) rfl fun ci cj ba ck=>?_
     refine A9 (ba.bring 1) Tryz.sizeOf25 (vs:=(o7 ax)) fun cl bb cm=>?_
     refine A9 (bb.bring 1) Tryz.sizeOf31 (vs:=(m8 ay)) fun cn u co=>?_
     refine b8 (lW Tryz.isAgg25 Tryz.sizeOf25 rfl (u.bring 1)) ?_
     refine g6 Tryz.call5 h u ?_
     rintro _ _ _ cp d _ _ ⟨v,y,rfl,rfl,h⟩
     refine a7 (j9 _ _ (Value.string v) rfl) (a7 (j9 _ _ (vi y) rfl) (a7 pEq ?_))
     simp only [E5]
     refine a7 (Pu.g fun a=>by simp only [o9 a];with_reducible exact pEq) ?_
     refine a7 (D9 _ _) ?_
     refine b8 (Ld.g fun a=>by exact (lW Tryz.isAgg25 Tryz.sizeOf25 rfl (d.bring 3))) ?_
     refine b8 (Ld.g fun a=>by exact (lW Tryz.isAgg25 Tryz.sizeOf25 rfl (d.bring 1))) ?_
     refine M3 [] (fun f:Bool=>(vB f)) h d (fun a h=>by simp only [o9 a];exact N9 Tryz.call7 h d) fun f n bc o aa ab h=>?_
     refine a7 (D9 _ _) ?_
     simp only [E5]
     refine a7 (Pu.g fun a=>by simp only [o9 a];with_reducible exact (R3 _ _ _ _ _)) ?_
     refine a7 (D9 _ _) ?_
     exact hR _ n _ _ o.drop.drop.drop.drop.drop ⟨_,rfl,rfl,h⟩
  refine u2 fun j1 hx1=>?_
  refine a7 pEq ?_
  refine j7 h (fun _ h=>?_) (fun _ h=>?_)
  ·refine g6 Tryz.call6 h p ?_
   rintro _ _ _ cq bd _ _ ⟨be,bf,bg,rfl,rfl,h⟩
   refine a7 (j9 _ _ _ rfl) (a7 (j9 _ _ _ rfl) (a7 (j9 _ _ (vi bg) rfl) ?_))
   refine r7 bd Tryz.zeroValue25 (cs:=[(nS),(nS)]) rfl fun cr ct bh cu=>?_
   refine r7 bh Tryz.zeroValue31 (cs:=[(vi 0),(vi 0)]) rfl fun cv cw bi cx=>?_
   refine A9 (bi.bring 1) Tryz.sizeOf25 (vs:=(o7 be)) fun cy bj cz=>?_
   refine A9 (bj.bring 1) Tryz.sizeOf31 (vs:=(m8 bf)) fun da c db=>?_
   refine a7 pNe ?_
   simp only [E5]
   refine a7 (Pu.g fun a=>by simp only [o9 a];with_reducible exact pNe) ?_
   simp only [b4J]
   refine b8 (Ld.e (b2J _ _ _) (Ld.g fun hb=>by obtain ⟨a,b⟩:=b7y hb;exact (lW Tryz.isAgg25 Tryz.sizeOf25 rfl (c.bring 2)))) ?_
   refine b8 (Ld.e (b2J _ _ _) (Ld.g fun hb=>by obtain ⟨a,b⟩:=b7y hb;exact (lW Tryz.isAgg25 Tryz.sizeOf25 rfl (c.bring 1)))) ?_
   refine c1E (b2J _ _ _) ?_
   refine M3 [] (fun i:Bool=>(vB i)) h c (fun ac h=>?_) fun i j bk k ad ae h=>?_
   ·obtain ⟨a,b⟩:=b7y ac
    simp only [o9 ac]
    refine g6 Tryz.call7 h c ?_
    rintro _ j _ bk k ae ad ⟨i,rfl,rfl,h⟩
    exact ⟨i,j,rfl,k,ad,ae,h⟩
   refine a7 (Pu.e (b2J _ _ _) (Pu.g fun hb=>by obtain ⟨a,b⟩:=b7y hb;simp only [o9 hb];with_reducible exact (T6 _))) ?_
   refine a7 (Pu.g fun a=>by simp only [o9 a,c9X a];with_reducible exact (R9 _ _)) ?_
   refine a7 (D9 _ _) ?_
   refine p6 h (fun _ h=>?_) (fun _ h=>?_)
   ·exact hR _ j _ _ k.drop.drop.drop ⟨_,rfl,rfl,h⟩
   ·exact hx1 _ _ (hj1 j _ k.drop.drop h)
  ·exact hx1 _ _ (hj1 ai _ p h)
def a4v(x0:a8)(H:Hp)(K:b7→Hp→Prop):Prop:=
 (0:Int)≤x0.fn∧(x0.fn:Int) < x0.fl.n∧∃a:b7,EltH H x0.fl x0.fn 5 (g8 a)∧
 K a H
theorem a8z(x0){H K}(h:a4v x0 H K):B0 x0 H K:=by
 intro g0
 refine Ct.of fun w0 w ps0 H0 R E I hR=>d0K ?_
 refine r7 I Tryz.zeroValue88 (cs:=[(vi 0),(eS),(vi 0),(vi 0),(vi 0)]) rfl fun j k e l=>?_
 refine T1 e fun m a=>?_
 refine o0 (q9 _) ?_
 refine o0 c1I ?_
 refine o0 (q9 _) ?_
 refine o0 a4b ?_
 refine u7 (l1 Tryz.isAgg79 (a.bring 1) rfl) ?_
 refine u7 (l1 Tryz.isAgg3 (a.bring 1) rfl) ?_
 obtain ⟨f,g,b,c,h⟩:=h
 obtain ⟨n,o,i,c⟩:=c
 refine o0 (c5x i _ _ _ _ f g) ?_
 refine u7 (ldA (vs:=(g8 b)) Tryz.isAgg88 Tryz.sizeOf88 rfl (a.atH c)) ?_
 refine A9 a Tryz.sizeOf88 (vs:=(g8 b)) fun p d q=>?_
 refine M2 Tryz.isAgg88 Tryz.sizeOf88 rfl d ?_
 exact hR _ H _ _ d.drop ⟨b,rfl,rfl,h⟩
def a6j(x0:a8)(H:Hp)(K:Bool→Hp→Prop):Prop:=
 B0 x0 H (fun a e=>
 TG ((decide (a.d6=1))=false) (r9 x0 ⟨#[105,102]⟩ e) false e (fun(b:Bool)(f:Hp)=>
 TG (((decide (a.d6=1))||b)=false) (r9 x0 ⟨#[119,104,105,108,101]⟩ f) false f (fun(c:Bool)(g:Hp)=>
 TG ((((decide (a.d6=1))||b)||c)=false) (r9 x0 ⟨#[97,115,115,101,114,116]⟩ g) false g (fun(d:Bool)(i:Hp)=>
 TG (((((decide (a.d6=1))||b)||c)||d)=false) (r9 x0 ⟨#[97,115,115,117,109,101]⟩ i) false i (fun(j:Bool)(k:Hp)=>
 TG ((((((decide (a.d6=1))||b)||c)||d)||j)=false) (r9 x0 ⟨#[115,107,105,112]⟩ k) false k (fun(l:Bool)(m:Hp)=>
 K ((((((decide (a.d6=1))||b)||c)||d)||j)||l) m))))))
theorem a6k(x0){H K}(h:a6j x0 H K):O7 x0 H K:=by
 intro g0
 refine Ct.of fun w0 w ps0 H0 R E I hR=>d0P ?_
 refine g6 Tryz.call35 (h g0) I ?_
 rintro _ ap _ aq n _ _ ⟨aj,rfl,rfl,h⟩
 refine a7 a7R (a7 pEq ?_)
 simp only [E5]
 refine M3 [bx g0 86 (b9 x0)] (fun b:Bool=>(vB b)) h n (fun a h=>by simp only [o9 a];exact N9 Tryz.call37 (h g0) n) fun b p ak g q r h=>?_
 refine a7 (R9 _ _) ?_
 simp only [E5]
 refine M3 [bx g0 86 (b9 x0)] (fun c:Bool=>(vB c)) h g (fun a h=>by simp only [o9 a];exact N9 Tryz.call37 (h g0) g) fun c t al i u v h=>?_
 refine a7 (R9 _ _) ?_
 simp only [E5]
 refine M3 [bx g0 86 (b9 x0)] (fun d:Bool=>(vB d)) h i (fun a h=>by simp only [o9 a];exact N9 Tryz.call37 (h g0) i) fun d z am j aa ab h=>?_
 refine a7 (R9 _ _) ?_
 simp only [E5]
 refine M3 [bx g0 86 (b9 x0)] (fun e:Bool=>(vB e)) h j (fun a h=>by simp only [o9 a];exact N9 Tryz.call37 (h g0) j) fun e ad an k ae af h=>?_
 refine a7 (R9 _ _) ?_
 simp only [E5]
 refine M3 [bx g0 86 (b9 x0)] (fun f:Bool=>(vB f)) h k (fun a h=>by simp only [o9 a];exact N9 Tryz.call37 (h g0) k) fun f l ao m ah ai h=>?_
 refine a7 (R9 _ _) ?_
 exact hR _ l _ _ m ⟨_,rfl,rfl,h⟩
def a8A [PanQ] (x0:a8) (H:Hp) (K:Hp→Prop):Prop:=
 B0 x0 H (fun a b=>
 PanQ.q (Value.iface 83 (Value.agg #[(vi a.fAt.M8),(vi a.fAt.V1),(vi 40)])))
theorem a8B [PanQ] (x0:a8) {H:Hp} {K:Hp→Prop} (h:a8A x0 H K):D7 x0 H K:=by
 intro g0
 refine Ct.ofE fun w0 w ps0 H0 R E I hR hE=>d0L ?_
 refine g6 Tryz.call35 (h g0) I ?_
 rintro _ b _ c a _ _ ⟨d,rfl,rfl,h⟩
 refine a7 b3B (a7 (b1M _ _ _) (a7 (b3C _ _ _) ?_))
 exact a9W (hE _ _ _ _ a ⟨_,rfl,h⟩)
def a0o [PanQ] (b1g:Int) (C7:a8) (H:Hp) (K:Hp→Prop):Prop:=
 (40 < b1g→
 B0 C7 H (fun a b=>
 PanQ.q (Value.iface 83 (Value.agg #[(vi a.fAt.M8),(vi a.fAt.V1),(vi 41)]))))∧
 (¬(40 < b1g)→
 K H)
def a8j [PanQ] (x0:a8) (x1:Int) (x2:Bool) (H:Hp) (K:Hp→Prop):Prop:=
 ((!x2)=true→
 D7 x0 H (fun a=>
 a0o x1 x0 a K))∧
 ((!x2)=false→
 a0o x1 x0 H K)
theorem a8k [PanQ] (x0:a8) (x1:Int) (x2:Bool) {H:Hp} {K:Hp→Prop} (h:a8j x0 x1 x2 H K):C8 x0 x1 x2 H K:=by
 intro g0
 refine Ct.ofE fun w0 w ps0 H0 R E I hR hE=>d0O ?_
 have hj1:∀H w (_:Inv w0 ps0 H0 H [bx g0 86 (b9 x0)] w) (_:a0o x1 x0 H K),c3f (Value.pointer (some ⟨g0,0,none⟩)) (vi x1) w R E:=by
  intro H w I h
  intro _
  refine a7 pGt ?_
  refine j7 h (fun _ h=>?_) (fun _ h=>?_)
  ·refine g6 Tryz.call35 (h g0) I ?_
   rintro _ _ _ d a _ _ ⟨e,rfl,rfl,h⟩
   refine a7 b3B (a7 (b1M _ _ _) (a7 (b3C _ _ _) ?_))
   exact a9W (hE _ _ _ _ a ⟨_,rfl,h⟩)
  ·exact hR _ H _ _ I ⟨rfl,rfl,h⟩
 refine u2 fun j1 hx1=>?_
 refine a7 (T6 _) ?_
 refine p6 h (fun _ h=>?_) (fun _ h=>?_)
 ·refine z7 hE Tryz.call36 (h g0) I ?_
  rintro _ b _ f c _ _ ⟨rfl,rfl,h⟩
  exact hx1 _ _ (hj1 b _ c h)
 ·exact hx1 _ _ (hj1 H _ I h)
def a9a(x0:a8)(x1:ByteArray)(H:Hp)(K:Bool→a8→Hp→Prop):Prop:=
 r9 x0 x1 H (fun a b=>
 ((!a)=true→
 K false x0 b)∧
 ((!a)=false→
 K true (a8.mk x0.fl (IntKind.wrap .i64 (x0.fn+1))) b))
theorem a9b(x0 x1){H K}(h:a9a x0 x1 H K):t7 x0 x1 H K:=by
 intro g0
 refine Ct.of fun w0 w ps0 H0 R E I hR=>d1w ?_
 refine g6 Tryz.call37 (h g0) I ?_
 rintro _ b _ d a _ _ ⟨e,rfl,rfl,h⟩
 refine a7 (T6 _) ?_
 refine p6 h (fun _ h=>?_) (fun _ h=>?_)
 ·exact hR _ b _ _ a ⟨false,x0,rfl,rfl,h⟩
 ·refine a7 (q9 _) (a7 a4b (b8 (l1 Tryz.isAgg3 a rfl) (a7 pAd (a7 (q9 _) ?_))))
  refine a7 a4b ?_
  refine N7 a Tryz.sizeOf3 fun f c g=>?_
  exact hR _ b _ _ c ⟨true,(a8.mk x0.fl (IntKind.wrap .i64 (x0.fn+1))),rfl,rfl,h⟩
def a5U(H:Hp)(K:Int→Int→Hp→Prop):Prop:=
 K 0 0 H
def a5V(b5U:ByteArray)(b:ByteArray)(a:Nat)(H:Hp)(n2:Nat→Hp→Prop)(K:Int→Int→Hp→Prop):Prop:=
 (a < b.size→
 (¬(((Utf8.decode b a).1:Int)=65533)→
 n2 (a+(Utf8.decode b a).2) H)∧
 (((Utf8.decode b a).1:Int)=65533→
 (0:Int)≤((a:Nat):Int)∧(((a:Nat):Int):Int)≤b5U.size∧
 Y5 (b5U.extract (((a:Nat):Int):Int).toNat b5U.size) H (fun e c d=>
 (c=1→
 K ((a:Nat):Int) 11 d)∧
 (¬(c=1)→
 n2 (a+(Utf8.decode b a).2) d))))∧
 (¬(a < b.size)→
 a5U H K)
def a7p(x0:ByteArray)(H:Hp)(K:Int→Int→Hp→Prop):Prop:=
 (65536 < (x0.size:Int)→
 K 0 10 H)∧
 (¬(65536 < (x0.size:Int))→
 TL (0:Nat) H fun(s:Nat) H n2=>a5V x0 x0 s H n2 K)
theorem b1V(x0){H K}(h:a7p x0 H K):a7j x0 H K:=by
 refine Ct.of fun w0 w ps0 H0 R E I hR=>d1o ?_
 refine a7 (a6g _) (a7 pGt ?_)
 refine j7 h (fun _ h=>?_) (fun _ h=>?_)
 ·exact hR _ H _ _ I ⟨0,10,rfl,rfl,h⟩
 ·have hj1:∀H w (_:Inv w0 ps0 H0 H [] w) (_:a5U H K),c3x w R E:=by
   intro H w I h
   intro _
   exact hR _ H _ _ I ⟨0,0,rfl,rfl,h⟩
  refine u2 fun j1 hx1=>?_
  refine b2L Tryz.underlying9 x0 I fun f o g p=>?_
  refine a2x (σ:=Nat) (fun a=>[]) (fun a=>[itf f x0 a]) h rfl g ?_
  rintro a H q w next2 n2 i I h hn2
  clear i
  refine b4K I (fun b r c s=>?_) (fun b=>?_)
  ·replace h:=h.1 b
   refine a7 (j9 _ _ (vB true) rfl) ?_
   refine W8 (fun e=>?_) (fun e=>by cases e)
   refine a7 (j9 _ _ (vi ((a:Nat):Int)) rfl) (a7 (j9 _ _ (Value.int .i32 ((Utf8.decode x0 a).1:Int)) rfl) (a7 pNe ?_))
   refine a0S h (fun _ h=>?_) (fun _ h=>?_)
   ·exact hn2 (a+(Utf8.decode x0 a).2) _ _ h c
   ·obtain ⟨j,k,h⟩:=h
    refine a7 (c0i x0 Tryz.underlying9 j k) ?_
    refine g6 Tryz.call89 h c ?_
    rintro _ l _ t d _ _ ⟨m,n,rfl,rfl,h⟩
    refine a7 (j9 _ _ (Value.int .i32 m) rfl) (a7 (j9 _ _ (vi n) rfl) (a7 pEq ?_))
    refine j7 h (fun _ h=>?_) (fun _ h=>?_)
    ·exact hR _ l _ _ d.drop ⟨((a:Nat):Int),11,rfl,rfl,h⟩
    ·exact hn2 (a+(Utf8.decode x0 a).2) _ _ h d
  ·replace h:=h.2 b
   refine a7 (j9 _ _ (vB false) rfl) ?_
   refine W8 (fun e=>by cases e) (fun e=>?_)
   exact hx1 _ _ (hj1 H _ I.drop h)
def a4Y(x0:d7)(a:(List b7))(H:Hp)(K:ByteArray→Hp→Prop):Prop:=
 (0:Int)≤x0.fn∧(x0.fn:Int)≤x0.fs.size∧
 K (x0.fs.extract (x0.fn:Int).toNat x0.fs.size) H
theorem a9D(x0 b){H K}(h:a4Y x0 b H K):S2 x0 b H K:=by
 intro g0 e f g
 refine Ct.of fun w0 w ps0 H0 R E I hR=>d1O ?_
 refine T1 I fun i a=>?_
 refine o0 (q9 _) ?_
 refine o0 a5P ?_
 refine o0 (q9 _) ?_
 refine o0 W7 ?_
 refine u7 (l1 Tryz.isAgg9 a rfl) ?_
 refine u7 (l1 Tryz.isAgg3 a rfl) ?_
 obtain ⟨c,d,h⟩:=h
 refine o0 (c0i x0.fs Tryz.underlying9 c d) ?_
 exact hR _ H _ _ ((a.bring 1).bring 1) ⟨_,rfl,rfl,h⟩
def a1C(a:b7)(t6:ByteArray)(p8:Int)(y9:c8)(C9:(List b7))(b:b7)(H:Hp)(K:b7→Int→d7→(List b7)→Hp→Prop):Prop:=
 K a 0 (d7.mk t6 p8 y9 (Sl.mk none 0 0)) C9 H
def a4Z(x0:d7)(i:(List b7))(H:Hp)(K:b7→Int→d7→(List b7)→Hp→Prop):Prop:=
 P6 (y8 x0) i H (fun b a c j=>
 a3D b j (fun d e=>
 (d=true→
 a1C (b7.mk 3 b 0 (c8.mk 0 0)) a.fs a.fn a.fat c (b7.mk 0 ⟨#[]⟩ 0 (c8.mk 0 0)) e K)∧
 (d=false→
 a3C b e (fun f g=>
 (f=true→
 K (b7.mk 1 b 0 (c8.mk 0 0)) 22 (y8 a) c g)∧
 (f=false→
 a1C (b7.mk 1 b 0 (c8.mk 0 0)) a.fs a.fn a.fat c (b7.mk 0 ⟨#[]⟩ 0 (c8.mk 0 0)) g K)))))
theorem a9E(x0 j){H K}(h:a4Z x0 j H K):a4M x0 j H K:=by
 intro g0 s t u
 refine Ct.of fun w0 w ps0 H0 R E I hR=>d1Q ?_
 refine r7 I Tryz.zeroValue88 (cs:=[(vi 0),(eS),(vi 0),(vi 0),(vi 0)]) rfl fun k ac v ad=>?_
 refine g6 Tryz.call94 (h g0 s t u) ((v.bring 2).bring 2) ?_
 rintro _ _ _ ae y _ _ ⟨b,a,d,e,f,rfl,rfl,l,h⟩
 refine a7 (a6d _ _) ?_
 refine r7 y Tryz.zeroValue88 (cs:=[(vi 0),(eS),(vi 0),(vi 0),(vi 0)]) rfl fun m af z ag=>?_
 refine A9 z Tryz.sizeOf88 (vs:=[(vi 1),(Value.string b),(vi 0),(vi 0),(vi 0)]) fun ah n ai=>?_
 have hj1:∀(c:b7)(t6:ByteArray)(p8:Int)(y9:c8) H w (_:Inv w0 ps0 H0 H [bx m 88 (g8 c),bx g0 123 [(Value.string t6),(vi p8),(vi y9.M8),(vi y9.V1),(vs e)],bx k 88 [(vi (b7.mk 0 ⟨#[]⟩ 0 (c8.mk 0 0)).d6),(Value.string (b7.mk 0 ⟨#[]⟩ 0 (c8.mk 0 0)).E1),(vi (b7.mk 0 ⟨#[]⟩ 0 (c8.mk 0 0)).M4),(vi (b7.mk 0 ⟨#[]⟩ 0 (c8.mk 0 0)).fAt.M8),(vi (b7.mk 0 ⟨#[]⟩ 0 (c8.mk 0 0)).fAt.V1)],f] w) (_:a1C c t6 p8 y9 d (b7.mk 0 ⟨#[]⟩ 0 (c8.mk 0 0)) H K),c3N (Value.pointer (some ⟨k,0,none⟩)) (Value.pointer (some ⟨m,0,none⟩)) w R E:=by
  intro c t6 p8 y9 H w I h
  intro _
  refine b8 (lW Tryz.isAgg88 Tryz.sizeOf88 rfl I) ?_
  refine A9 (I.bring 2) Tryz.sizeOf88 (vs:=(g8 c)) fun aj p ak=>?_
  refine M2 Tryz.isAgg88 Tryz.sizeOf88 rfl p ?_
  exact hR _ H _ _ ((p.drop.drop.bring 1).bring 1) ⟨c,0,(d7.mk t6 p8 y9 (Sl.mk none 0 0)),d,e,f,rfl,rfl,l,h⟩
 refine u2 fun j1 hx1=>?_
 refine a7 X1 (b8 (l1 Tryz.isAgg9 n rfl) ?_)
 refine g6 Tryz.call127 h n ?_
 rintro _ aa _ al g _ _ ⟨am,rfl,rfl,h⟩
 refine p6 h (fun _ h=>?_) (fun _ h=>?_)
 ·refine a7 a4c ?_
  refine N7 g Tryz.sizeOf3 fun an ab ao=>?_
  exact hx1 _ _ (hj1 (b7.mk 3 b 0 (c8.mk 0 0)) a.fs a.fn a.fat aa _ ((((ab.bring 2).bring 3).bring 3).bring 3) h)
 ·refine a7 X1 (b8 (l1 Tryz.isAgg9 g rfl) ?_)
  refine g6 Tryz.call128 h g ?_
  rintro _ q _ ap i _ _ ⟨aq,rfl,rfl,h⟩
  refine p6 h (fun _ h=>?_) (fun _ h=>?_)
  ·refine b8 (ldA Tryz.isAgg88 Tryz.sizeOf88 rfl (i.at1 (o:=0) (vs:=[(vi 1),(Value.string b),(vi 0),(vi 0),(vi 0)]) (nb rfl) rfl)) ?_
   refine A9 (i.bring 3) Tryz.sizeOf88 (vs:=[(vi 1),(Value.string b),(vi 0),(vi 0),(vi 0)]) fun ar r au=>?_
   refine M2 Tryz.isAgg88 Tryz.sizeOf88 rfl r ?_
   exact hR _ q _ _ ((r.drop.drop.bring 1).bring 1) ⟨(b7.mk 1 b 0 (c8.mk 0 0)),22,(y8 a),d,e,f,rfl,rfl,l,h⟩
  ·exact hx1 _ _ (hj1 (b7.mk 1 b 0 (c8.mk 0 0)) a.fs a.fn a.fat q _ ((((i.bring 2).bring 3).bring 3).bring 3) h)
def a1D(f:b7)(t6:ByteArray)(p8:Int)(y9:c8)(C9:(List b7))(H:Hp)(K:b7→Int→d7→(List b7)→Hp→Prop):Prop:=
 S2 (d7.mk t6 p8 y9 (Sl.mk none 0 0)) C9 H (fun a e=>
 (0:Int)≤1∧(1:Int)≤a.size∧
 G9 (d7.mk t6 p8 y9 (Sl.mk none 0 0)) C9 e (fun b c d=>
 (((decide ((a.extract 0 (1:Int).toNat)=⟨#[38]⟩))||(decide ((a.extract 0 (1:Int).toNat)=⟨#[124]⟩)))=true→
 K (b7.mk 0 ⟨#[]⟩ 0 (c8.mk 0 0)) 20 (y8 b) c d)∧
 (((decide ((a.extract 0 (1:Int).toNat)=⟨#[38]⟩))||(decide ((a.extract 0 (1:Int).toNat)=⟨#[124]⟩)))=false→
 K (b7.mk 4 (a.extract 0 (1:Int).toNat) 0 (c8.mk 0 0)) 0 (y8 b) c d)))
def a1E(C6:a0T)(E0:Int)(a:b7)(s7:ByteArray)(p5:Int)(r8:c8)(p9:(List b7))(H:Hp)(n2:(Int×b7×ByteArray×Int×c8×(List b7))→Hp→Prop)(K:b7→Int→d7→(List b7)→Hp→Prop):Prop:=
 (E0 < 6→
 (0:Int)≤E0∧(E0:Int) < 6∧
 S2 (d7.mk s7 p5 r8 (Sl.mk none 0 0)) p9 H (fun d e=>
 a2K d (([C6.f0,C6.f1,C6.f2,C6.f3,C6.f4,C6.f5]:List ByteArray).getD (E0:Int).toNat ⟨#[]⟩) e (fun b c=>
 (b=true→
 G9 (d7.mk s7 p5 r8 (Sl.mk none 0 0)) p9 c (fun f g i=>
 G9 (y8 f) g i (fun j k l=>
 K (b7.mk 4 (([C6.f0,C6.f1,C6.f2,C6.f3,C6.f4,C6.f5]:List ByteArray).getD (E0:Int).toNat ⟨#[]⟩) 0 (c8.mk 0 0)) 0 (y8 j) k l)))∧
 (b=false→
 n2 ((IntKind.wrap .i64 (E0+1)),a,s7,p5,r8,p9) c))))∧
 (¬(E0 < 6)→
 a1D a s7 p5 r8 p9 H K)
def a5a(x0:d7)(a:(List b7))(H:Hp)(K:b7→Int→d7→(List b7)→Hp→Prop):Prop:=
 TL ((0,(b7.mk 0 ⟨#[]⟩ 0 (c8.mk 0 0)),x0.fs,x0.fn,x0.fat,a):Int×b7×ByteArray×Int×c8×(List b7)) H fun(s:Int×b7×ByteArray×Int×c8×(List b7)) H n2=>a1E (a0T.mk ⟨#[61,61]⟩ ⟨#[33,61]⟩ ⟨#[60,61]⟩ ⟨#[62,61]⟩ ⟨#[38,38]⟩ ⟨#[124,124]⟩) s.1 s.2.1 s.2.2.1 s.2.2.2.1 s.2.2.2.2.1 s.2.2.2.2.2 H n2 K
theorem a9F(x0 i){H K}(h:a5a x0 i H K):a4N x0 i H K:=by
 intro g0 e ae af
 refine Ct.of fun w0 w ps0 H0 R E I hR=>d1T ?_
 refine r7 I Tryz.zeroValue88 (cs:=[(vi 0),(eS),(vi 0),(vi 0),(vi 0)]) rfl fun j be ag bf=>?_
 have hj1:∀(k:b7)(t6:ByteArray)(p8:Int)(y9:c8)(C9:(List b7))(N6:Frag) H w (_:RowL 88 5 g8 e C9 N6) (_:Inv w0 ps0 H0 H [bx j 88 (g8 k),bx g0 123 [(Value.string t6),(vi p8),(vi y9.M8),(vi y9.V1),(vs e)],N6] w) (_:a1D k t6 p8 y9 C9 H K),c3O (Value.pointer (some ⟨g0,0,none⟩)) (Value.pointer (some ⟨j,0,none⟩)) w R E:=by
  intro k t6 p8 y9 C9 N6 H w a3w I h
  intro _
  refine g6 Tryz.call95 (h g0 e N6 a3w) ((I.bring 2).bring 2) ?_
  rintro _ _ _ bg ah _ _ ⟨m,rfl,rfl,h⟩
  obtain ⟨ai,aj,h⟩:=h
  refine a7 (c0j m Tryz.underlying9 ai aj) ?_
  refine g6 Tryz.call125 (h g0 e N6 a3w) ((ah.bring 1).bring 1) ?_
  rintro _ q _ bh r _ _ ⟨t,u,v,y,rfl,rfl,z,h⟩
  refine a7 (R3 _ _ _ _ _) ?_
  simp only [E5]
  refine a7 (Pu.g fun c=>by simp only [o9 c];with_reducible exact (R3 _ _ _ _ _)) ?_
  refine a7 (R9 _ _) ?_
  refine p6 h (fun _ h=>?_) (fun _ h=>?_)
  ·refine a7 (b6C) ?_
   refine A9 (r.bring 2) Tryz.sizeOf88 (vs:=[(vi 0),(eS),(vi 0),(vi 0),(vi 0)]) fun bi aa bj=>?_
   refine M2 Tryz.isAgg88 Tryz.sizeOf88 rfl aa ?_
   exact hR _ q _ _ ((aa.drop.bring 1).bring 1) ⟨(b7.mk 0 ⟨#[]⟩ 0 (c8.mk 0 0)),20,(y8 t),u,v,y,rfl,rfl,z,h⟩
  ·refine a7 (a6d _ _) ?_
   refine A9 (r.bring 2) Tryz.sizeOf88 (vs:=[(vi 4),(Value.string (m.extract 0 (1:Int).toNat)),(vi 0),(vi 0),(vi 0)]) fun bk ab bl=>?_
   refine M2 Tryz.isAgg88 Tryz.sizeOf88 rfl ab ?_
   exact hR _ q _ _ ((ab.drop.bring 1).bring 1) ⟨(b7.mk 4 (m.extract 0 (1:Int).toNat) 0 (c8.mk 0 0)),0,(y8 t),u,v,y,rfl,rfl,z,h⟩
 refine u2 fun j1 hx1=>?_
 refine a7 (a5Q _ _ _ _ _ _) ?_
 obtain ⟨o,f,ak,al⟩:=h
 refine R1 (J:=fun n l w=>∃(s:Int×b7×ByteArray×Int×c8×(List b7))(H:Hp)(E8:Frag),n=f s∧l=(match s with | (E0,d,s7,p5,r8,p9)=>[(vi E0)])∧(match s with | (E0,d,s7,p5,r8,p9)=>RowL 88 5 g8 e p9 E8)∧(match s with | (E0,d,s7,p5,r8,p9)=>Inv w0 ps0 H0 H [bx j 88 (g8 d),bx g0 123 [(Value.string s7),(vi p5),(vi r8.M8),(vi r8.V1),(vs e)],E8] w)∧o s H) ⟨_,(0,(b7.mk 0 ⟨#[]⟩ 0 (c8.mk 0 0)),x0.fs,x0.fn,x0.fat,i),H,ae,rfl,rfl,af,(((ag.bring 2).bring 2).bring 2),ak⟩ ?_
 rintro bm bn w next2 ⟨⟨E0,d,s7,p5,r8,p9⟩,H,E8,rfl,p,Q9,I,am⟩ hn2
 dsimp only at p I Q9
 simp only [List.map_cons,List.map_nil,List.cons.injEq,and_true] at p
 have e8:=p
 simp only [e8]
 obtain ⟨n2,hm2,h⟩:∃n2:(Int×b7×ByteArray×Int×c8×(List b7))→Hp→Prop,(∀s' H',n2 s' H'→o s' H'∧f s' < f (E0,d,s7,p5,r8,p9))∧a1E (a0T.mk ⟨#[61,61]⟩ ⟨#[33,61]⟩ ⟨#[60,61]⟩ ⟨#[62,61]⟩ ⟨#[38,38]⟩ ⟨#[124,124]⟩) E0 d s7 p5 r8 p9 H n2 K:=⟨_,fun _ _ h=>h,al (E0,d,s7,p5,r8,p9) H (fun s' H'=>o s' H'∧f s' < f (E0,d,s7,p5,r8,p9)) am (fun _ _ a b=>⟨a,b⟩)⟩
 refine a7 pLs ?_
 refine j7 h (fun _ h=>?_) (fun _ h=>?_)
 ·obtain ⟨an,ao,h⟩:=h
  refine a7 (b4Q _ _ _ _ _ _ _ _ an ao) ?_
  refine g6 Tryz.call95 (h g0 e E8 Q9) ((I.bring 2).bring 2) ?_
  rintro _ _ _ bo ap _ _ ⟨bp,rfl,rfl,h⟩
  refine g6 Tryz.call80 h ap ?_
  rintro _ aq _ bq ac _ _ ⟨br,rfl,rfl,h⟩
  refine p6 h (fun _ h=>?_) (fun _ h=>?_)
  ·refine g6 Tryz.call125 (h g0 e E8 Q9) ((ac.bring 1).bring 1) ?_
   rintro _ _ _ bs ar _ _ ⟨bt,bu,au,av,rfl,rfl,aw,h⟩
   refine g6 Tryz.call125 (h g0 au av aw) ((ar.bring 1).bring 1) ?_
   rintro _ ax _ bv ay _ _ ⟨az,ba,bb,bc,rfl,rfl,bd,h⟩
   refine a7 (a6d _ _) ?_
   refine A9 (ay.bring 2) Tryz.sizeOf88 (vs:=[(vi 4),(Value.string (([(a0T.mk ⟨#[61,61]⟩ ⟨#[33,61]⟩ ⟨#[60,61]⟩ ⟨#[62,61]⟩ ⟨#[38,38]⟩ ⟨#[124,124]⟩).f0,(a0T.mk ⟨#[61,61]⟩ ⟨#[33,61]⟩ ⟨#[60,61]⟩ ⟨#[62,61]⟩ ⟨#[38,38]⟩ ⟨#[124,124]⟩).f1,(a0T.mk ⟨#[61,61]⟩ ⟨#[33,61]⟩ ⟨#[60,61]⟩ ⟨#[62,61]⟩ ⟨#[38,38]⟩ ⟨#[124,124]⟩).f2,(a0T.mk ⟨#[61,61]⟩ ⟨#[33,61]⟩ ⟨#[60,61]⟩ ⟨#[62,61]⟩ ⟨#[38,38]⟩ ⟨#[124,124]⟩).f3,(a0T.mk ⟨#[61,61]⟩ ⟨#[33,61]⟩ ⟨#[60,61]⟩ ⟨#[62,61]⟩ ⟨#[38,38]⟩ ⟨#[124,124]⟩).f4,(a0T.mk ⟨#[61,61]⟩ ⟨#[33,61]⟩ ⟨#[60,61]⟩ ⟨#[62,61]⟩ ⟨#[38,38]⟩ ⟨#[124,124]⟩).f5]:List ByteArray).getD (E0:Int).toNat ⟨#[]⟩)),(vi 0),(vi 0),(vi 0)]) fun bw ad bz=>?_
   refine M2 Tryz.isAgg88 Tryz.sizeOf88 rfl ad ?_
   exact hR _ ax _ _ ((ad.drop.bring 1).bring 1) ⟨(b7.mk 4 (([(a0T.mk ⟨#[61,61]⟩ ⟨#[33,61]⟩ ⟨#[60,61]⟩ ⟨#[62,61]⟩ ⟨#[38,38]⟩ ⟨#[124,124]⟩).f0,(a0T.mk ⟨#[61,61]⟩ ⟨#[33,61]⟩ ⟨#[60,61]⟩ ⟨#[62,61]⟩ ⟨#[38,38]⟩ ⟨#[124,124]⟩).f1,(a0T.mk ⟨#[61,61]⟩ ⟨#[33,61]⟩ ⟨#[60,61]⟩ ⟨#[62,61]⟩ ⟨#[38,38]⟩ ⟨#[124,124]⟩).f2,(a0T.mk ⟨#[61,61]⟩ ⟨#[33,61]⟩ ⟨#[60,61]⟩ ⟨#[62,61]⟩ ⟨#[38,38]⟩ ⟨#[124,124]⟩).f3,(a0T.mk ⟨#[61,61]⟩ ⟨#[33,61]⟩ ⟨#[60,61]⟩ ⟨#[62,61]⟩ ⟨#[38,38]⟩ ⟨#[124,124]⟩).f4,(a0T.mk ⟨#[61,61]⟩ ⟨#[33,61]⟩ ⟨#[60,61]⟩ ⟨#[62,61]⟩ ⟨#[38,38]⟩ ⟨#[124,124]⟩).f5]:List ByteArray).getD (E0:Int).toNat ⟨#[]⟩) 0 (c8.mk 0 0)),0,(y8 az),ba,bb,bc,rfl,rfl,bd,h⟩
  ·refine a7 pAd ?_
   exact hn2 _ _ _ (hm2 _ _ h).2 ⟨((IntKind.wrap .i64 (E0+1)),d,s7,p5,r8,p9),aq,E8,rfl,rfl,Q9,(((ac.bring 1).bring 1).bring 2),(hm2 _ _ h).1⟩
 ·exact hx1 _ _ (hj1 d s7 p5 r8 p9 E8 H _ Q9 (((I.bring 2).bring 2).bring 2) h)
end Go.Proofs.YtoflkliecagjcaaGreatDoor
