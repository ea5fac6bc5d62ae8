/- Typed formulas of the program's functions, and the theorems that the contracts follow from them; printed by lift.py off the code. -/
import Derived.Test.YtaokfhdinhimfaaGreatDooryCV1
namespace Go.Proofs.YtaokfhdinhimfaaGreatDoor
open Go.RowKit
set_option maxRecDepth 100000
set_option maxHeartbeats 2000000
def a2P(H:Hp)(K:Bool→Hp→Prop):Prop:=
 ∀(d:Sl)(e:Hp),Hle H e→SlH e 6 u4 d [(u5.mk 7 ⟨#[]⟩ (Sl.mk none 0 0) (Sl.mk none 0 0) (Sl.mk none 0 0) (Sl.mk none 0 0))]→d.n≤d.c→
 a8s (A8.mk (Sl.mk none 0 0) d) e (fun b f g=>
 ∃a:c8,(((((decide (f=0))&&(decide (b.c6=2)))&&(decide (b.p9=1)))&&(decide ((b.m4.n:Int)=1)))=true→(0:Int)≤0∧(0:Int) < b.m4.n∧EltH g b.m4 0 10 (f7 a))∧
 K (((((decide (f=0))&&(decide (b.c6=2)))&&(decide (b.p9=1)))&&(decide ((b.m4.n:Int)=1)))&&(decide (a.o4=0∧a.fTo=1∧a.d3=1∧a.O0=(-1)∧a.K0=(-1)∧a.fOp=0∧a.fA.r9=(-1)∧a.fA.p6=0∧a.fB.r9=(-1)∧a.fB.p6=0))) g)
theorem a9m{H K}(h:a2P H K):a2w H K:=by
 refine Ct.of fun w0 w ps0 H0 R E I hR=>c9K ?_
 unfold a2P at h
 unfold F5
 refine c5 (b9A _) ?_
 refine X9 (e:=60) (c:=u4) (xs:=[(u5.mk 7 ⟨#[]⟩ (Sl.mk none 0 0) (Sl.mk none 0 0) (Sl.mk none 0 0) (Sl.mk none 0 0))]) I (c5z _ _ _ _ _ _ _ _ _ _ _ _ _ _) rfl rfl b6T b6U (nb rfl) fun k y z l m aa=>?_
 refine c5 (b9B _ _ _) ?_
 obtain ⟨o,p,q,r,s⟩:=Inv.freezeC m l (by decide)
 replace h:=h k o q r s
 refine f9 Tryz.call6 h p ?_
 rintro _ t _ ab u _ _ ⟨i,j,rfl,rfl,h⟩
 refine c5 (m5 _ _ _ rfl) (c5 (m5 _ _ (vi j) rfl) ?_)
 refine r5 u Tryz.zeroValue30 (cs:=[(nS),(vi 0),(nS),(vi 0),(vi 0),(nS)]) rfl fun ac ad v ae=>?_
 refine u1 v Tryz.sizeOf30 (vs:=(d8 i)) fun af d ag=>?_
 refine c5 pEq ?_
 refine c5 (Pu.g fun a=>by with_reducible exact v7) ?_
 refine c7 (Ld.g fun a=>by simp only [f6 a];exact (l1 Tryz.isAgg3 d rfl)) ?_
 refine c5 (Pu.g fun a=>by simp only [f6 a];with_reducible exact pEq) ?_
 refine c5 (A4 _ _) ?_
 refine c5 (Pu.g fun a=>by with_reducible exact a0j) ?_
 refine c7 (Ld.g fun a=>by simp only [f6 a];exact (l1 Tryz.isAgg3 d rfl)) ?_
 refine c5 (Pu.g fun a=>by simp only [f6 a];with_reducible exact pEq) ?_
 refine c5 (A4 _ _) ?_
 refine c5 (Pu.g fun a=>by with_reducible exact y3) ?_
 refine c7 (Ld.g fun a=>by simp only [f6 a];exact (l1 Tryz.isAgg28 d rfl)) ?_
 refine c5 (Pu.g fun a=>by simp only [f6 a];with_reducible exact (V8 _ _ _)) ?_
 refine c5 (Pu.g fun a=>by simp only [f6 a];with_reducible exact pEq) ?_
 refine c5 (A4 _ _) ?_
 refine c5 (Pu.g fun a=>by with_reducible exact y3) ?_
 refine c7 (Ld.g fun a=>by simp only [f6 a];exact (l1 Tryz.isAgg28 d rfl)) ?_
 obtain ⟨f,b,h⟩:=h
 obtain ⟨ah,ai,b⟩:=c4x b
 refine c5 (Pu.g fun hb=>by have a:=hb;simp only [f6 a];with_reducible exact (M4 (b hb).2.2.1 _ _ _ _ (b hb).1 (b hb).2.1)) ?_
 refine c7 (Ld.g fun hb=>by have a:=hb;simp only [f6 a];exact (ldA (vs:=(f7 f)) Tryz.isAgg40 Tryz.sizeOf40 rfl (d.atH (b hb).2.2.2))) ?_
 refine c5 (Pu.g fun a=>by with_reducible exact (a5A _)) ?_
 refine c5 (Pu.g fun a=>by with_reducible exact (a5A _)) ?_
 refine c5 (Pu.g fun a=>by simp only [f6 a];with_reducible exact (b0Y _ _ _ _ _ _ _ _)) ?_
 refine c5 (Pu.g fun a=>by simp only [f6 a];with_reducible exact (c3w _ _ _ _ _ _ _ _ _ _ _ _ _ _ _ _ _ _ _ _ _ _)) ?_
 refine c5 (A4 _ _) ?_
 exact hR _ t _ _ d.drop ⟨(((((decide (j=0))&&(decide (i.c6=2)))&&(decide (i.p9=1)))&&(decide ((i.m4.n:Int)=1)))&&(decide (f.o4=0∧f.fTo=1∧f.d3=1∧f.O0=(-1)∧f.K0=(-1)∧f.fOp=0∧f.fA.r9=(-1)∧f.fA.p6=0∧f.fB.r9=(-1)∧f.fB.p6=0))),rfl,rfl,h⟩
def a3E(H:Hp)(K:i6→Hp→Prop):Prop:=
 K (i6.mk (-1) 0) H
theorem a9V{H K}(h:a3E H K):a3l H K:=by
 refine Ct.of fun w0 w ps0 H0 R E I hR=>c8g ?_
 unfold a3E at h
 unfold F91
 refine r5 I Tryz.zeroValue38 (cs:=[(vi 0),(vi 0)]) rfl fun c d b e=>?_
 refine c5 (a5A _) ?_
 refine u1 b Tryz.sizeOf38 (vs:=[(vi (-1)),(vi 0)]) fun f a g=>?_
 refine S9 Tryz.isAgg38 Tryz.sizeOf38 rfl a ?_
 exact hR _ H _ _ a.drop ⟨(i6.mk (-1) 0),rfl,rfl,h⟩
def U2(a:d4)(H:Hp)(K:Int→Hp→Prop):Prop:=
 K 0 H
def a0K(c9e:Sl)(a:d4)(a9W:Int)(H:Hp)(n4:Int→Hp→Prop)(K:Int→Hp→Prop):Prop:=
 (a9W < a.c6→
 (0:Int)≤a9W∧(a9W:Int) < c9e.n∧∃b:Sl,EltH H c9e a9W 1 [(vs b)]∧
 a3k a b H (fun c d=>
 ((!c)=true→
 K 92 d)∧
 ((!c)=false→
 n4 (IntKind.wrap .i64 (a9W+1)) d)))∧
 (¬(a9W < a.c6)→
 U2 a H K)
def U3(a7v:(List (List Int)))(d:d4)(H:Hp)(K:Int→Hp→Prop):Prop:=
 ∀(a:Sl)(b:Hp),Hle H b→SlHH b 1 o3 a a7v→a.n≤a.c→
 TL (0:Int) b fun(s:Int) H n4=>a0K a d s H n4 K
def U4(b:d4)(P8:(List (List Int)))(Q4:Int)(H:Hp)(n5:((List (List Int))×Int)→Hp→Prop)(K:Int→Hp→Prop):Prop:=
 (Q4 < (b.m4.n:Int)→
 (0:Int)≤Q4∧(Q4:Int) < b.m4.n∧∃a:c8,EltH H b.m4 Q4 10 (f7 a)∧
 TG ((((((decide (a.o4 < 0))||(decide (b.c6≤a.o4)))||(decide (a.fTo < 0)))||(decide (b.c6≤a.fTo)))||(decide (a.o4=b.p9)))=false) (a0u b H) 0 H (fun(g:Int)(d:Hp)=>
 TG ((((((decide (a.o4 < 0))||(decide (b.c6≤a.o4)))||(decide (a.fTo < 0)))||(decide (b.c6≤a.fTo)))||(decide (a.o4=b.p9)))=false) (a2x a g (b.m2.n:Int) d) false d (fun(e:Bool)(f:Hp)=>
 (((((((decide (a.o4 < 0))||(decide (b.c6≤a.o4)))||(decide (a.fTo < 0)))||(decide (b.c6≤a.fTo)))||(decide (a.o4=b.p9)))||(!e))=true→
 K 92 f)∧
 (((((((decide (a.o4 < 0))||(decide (b.c6≤a.o4)))||(decide (a.fTo < 0)))||(decide (b.c6≤a.fTo)))||(decide (a.o4=b.p9)))||(!e))=false→
 (0:Int)≤a.o4∧∃c:List Int,(P8)[(a.o4:Int).toNat]? = some c∧
 (c.length+([Q4]:List Int).length)*9≤140737488355328∧
 n5 ((P8.set (a.o4:Int).toNat (c++[Q4])),(IntKind.wrap .i64 (Q4+1))) f))))∧
 (¬(Q4 < (b.m4.n:Int))→
 U3 P8 b H K)
def U5(a:d4)(H:Hp)(K:Int→Hp→Prop):Prop:=
 (0:Int)≤a.c6∧a.c6*25≤140737488355328∧
 TL (((List.replicate (a.c6:Int).toNat ([]:List Int)),0):(List (List Int))×Int) H fun(s:(List (List Int))×Int) H n5=>U4 a s.1 s.2 H n5 K
def a0L(a:d4)(a9X:Int)(H:Hp)(n6:Int→Hp→Prop)(K:Int→Hp→Prop):Prop:=
 (a9X < (a.m2.n:Int)→
 (0:Int)≤a9X∧(a9X:Int) < a.m2.n∧∃b:j8,EltH H a.m2 a9X 2 (i5 b)∧
 (((decide (b.E1 < 1))||(decide (1024 < b.E1)))=true→
 K 92 H)∧
 (((decide (b.E1 < 1))||(decide (1024 < b.E1)))=false→
 n6 (IntKind.wrap .i64 (a9X+1)) H))∧
 (¬(a9X < (a.m2.n:Int))→
 U5 a H K)
def a2Q(x0:d4)(H:Hp)(K:Int→Hp→Prop):Prop:=
 TG ((((decide (x0.m3 < 0))||(decide (64 < x0.m3)))||(decide (64 < (x0.p5.n:Int))))=false) (a0u x0 H) 0 H (fun(b:Int)(a:Hp)=>
 (((((decide (x0.m3 < 0))||(decide (64 < x0.m3)))||(decide (64 < (x0.p5.n:Int))))||(decide (64 < b)))=true→
 K 90 a)∧
 (((((decide (x0.m3 < 0))||(decide (64 < x0.m3)))||(decide (64 < (x0.p5.n:Int))))||(decide (64 < b)))=false→
 ((((decide (x0.c6 < 1))||(decide (4096 < x0.c6)))||(decide (8192 < (x0.m4.n:Int))))=true→
 K 91 a)∧
 ((((decide (x0.c6 < 1))||(decide (4096 < x0.c6)))||(decide (8192 < (x0.m4.n:Int))))=false→
 ((((decide (16 < (x0.m2.n:Int)))||(decide (x0.p9 < 0)))||(decide (x0.c6≤x0.p9)))=true→
 K 92 a)∧
 ((((decide (16 < (x0.m2.n:Int)))||(decide (x0.p9 < 0)))||(decide (x0.c6≤x0.p9)))=false→
 TL (0:Int) a fun(s:Int) H n6=>a0L x0 s H n6 K))))
theorem a9n(x0){H K}(h:a2Q x0 H K):a2y x0 H K:=by
 refine Ct.of fun w0 w ps0 H0 R E I hR=>c9N ?_
 unfold a2Q at h
 unfold F9
 refine z6 I (cs:=(d8 x0)) rfl fun j df m dg=>?_
 refine c5 X0 (c7 (l1 Tryz.isAgg3 m rfl) (c5 pLs ?_))
 refine c5 (Pu.g fun d=>by with_reducible exact X0) ?_
 refine c7 (Ld.g fun d=>by simp only [f6 d];exact (l1 Tryz.isAgg3 m rfl)) ?_
 refine c5 (Pu.g fun d=>by simp only [f6 d];with_reducible exact pGt) ?_
 refine c5 (B8 _ _) ?_
 refine c5 (Pu.g fun d=>by with_reducible exact a0R) ?_
 refine c7 (Ld.g fun d=>by simp only [f6 d];exact (l1 Tryz.isAgg27 m rfl)) ?_
 refine c5 (Pu.g fun d=>by simp only [f6 d];with_reducible exact (a1e _ _ _)) ?_
 refine c5 (Pu.g fun d=>by simp only [f6 d];with_reducible exact pGt) ?_
 refine c5 (B8 _ _) ?_
 refine c7 (Ld.g fun d=>by exact (lW Tryz.isAgg30 Tryz.sizeOf30 rfl m)) ?_
 refine N0 [] (fun ac:Int=>(vi ac)) h m (fun az h=>?_) fun ac z bo i ba bb h=>?_
 ·have d:=az
  simp only [f6 d]
  refine f9 Tryz.call33 h m ?_
  rintro _ z _ bo i bb ba ⟨ac,rfl,rfl,h⟩
  exact ⟨ac,z,rfl,i,ba,bb,h⟩
 refine c5 (Pu.g fun d=>by simp only [f6 d];with_reducible exact pGt) ?_
 refine c5 (B8 _ _) ?_
 refine m7 h (fun _ h=>?_) (fun _ h=>?_)
 ·exact hR _ z _ _ i.drop ⟨90,rfl,rfl,h⟩
 ·refine c5 v7 (c7 (l1 Tryz.isAgg3 i rfl) (c5 pLs ?_))
  refine c5 (Pu.g fun d=>by with_reducible exact v7) ?_
  refine c7 (Ld.g fun d=>by simp only [f6 d];exact (l1 Tryz.isAgg3 i rfl)) ?_
  refine c5 (Pu.g fun d=>by simp only [f6 d];with_reducible exact pGt) ?_
  refine c5 (B8 _ _) ?_
  refine c5 (Pu.g fun d=>by with_reducible exact y3) ?_
  refine c7 (Ld.g fun d=>by simp only [f6 d];exact (l1 Tryz.isAgg28 i rfl)) ?_
  refine c5 (Pu.g fun d=>by simp only [f6 d];with_reducible exact (V8 _ _ _)) ?_
  refine c5 (Pu.g fun d=>by simp only [f6 d];with_reducible exact pGt) ?_
  refine c5 (B8 _ _) ?_
  refine m7 h (fun _ h=>?_) (fun _ h=>?_)
  ·exact hR _ z _ _ i.drop ⟨91,rfl,rfl,h⟩
  ·refine c5 W9 (c7 (l1 Tryz.isAgg22 i rfl) (c5 (Y6 _ _ _) (c5 pGt ?_)))
   refine c5 (Pu.g fun d=>by with_reducible exact a0j) ?_
   refine c7 (Ld.g fun d=>by simp only [f6 d];exact (l1 Tryz.isAgg3 i rfl)) ?_
   refine c5 (Pu.g fun d=>by simp only [f6 d];with_reducible exact pLs) ?_
   refine c5 (B8 _ _) ?_
   refine c5 (Pu.g fun d=>by with_reducible exact a0j) ?_
   refine c7 (Ld.g fun d=>by simp only [f6 d];exact (l1 Tryz.isAgg3 i rfl)) ?_
   refine c5 (Pu.g fun d=>by with_reducible exact v7) ?_
   refine c7 (Ld.g fun d=>by simp only [f6 d];exact (l1 Tryz.isAgg3 i rfl)) ?_
   refine c5 (Pu.g fun d=>by simp only [f6 d];with_reducible exact pGe) ?_
   refine c5 (B8 _ _) ?_
   refine m7 h (fun _ h=>?_) (fun _ h=>?_)
   ·exact hR _ z _ _ i.drop ⟨92,rfl,rfl,h⟩
   ·have hj1:∀H w (_:Inv w0 ps0 H0 H [bx j 30 (d8 x0)] w) (_:U5 x0 H K),c0R (Value.pointer (some ⟨j,0,none⟩)) w R E:=by
     intro H w I h
     unfold c0R
     intro _
     unfold U5 at h
     refine c5 v7 (c7 (l1 Tryz.isAgg3 I rfl) ?_)
     obtain ⟨bp,bq,h⟩:=h
     refine b4P I bp bq fun ad br dh bs bt di=>?_
     have hj2:∀(a7v:(List (List Int)))(Fs4j2:Frag)(H:Hp)(w:World)(_:RowsL 44 3 1 o3 ad a7v Fs4j2)(_:Inv w0 ps0 H0 H [bx j 30 (d8 x0),Fs4j2] w)(_:U3 a7v x0 H K),c0Q (Value.pointer (some ⟨j,0,none⟩)) (vs ad) w R E:=by
      intro a7v Fs4j2 H w c0Y I h
      unfold c0Q
      intro _
      unfold U3 at h
      have hj3:∀H w (_:Inv w0 ps0 H0 H [bx j 30 (d8 x0)] w) (_:U2 x0 H K),c0P w R E:=by
       intro H w I h
       unfold c0P
       intro _
       unfold U2 at h
       exact hR _ H _ _ I.drop ⟨0,rfl,rfl,h⟩
      refine o5 fun j3 hx3=>?_
      obtain ⟨bu,bv,bw,bz,ca⟩:=Inv.freezeLL (I.bring 1) c0Y (by decide)
      replace h:=h ad bu bw bz ca
      refine a0g (σ:=Int) (fun a9W=>[(vi a9W)]) (fun a9W=>[bx j 30 (d8 x0)]) h rfl bv ?_
      rintro a9W H dj w next4 n4 bc I h hn4
      simp only [List.map_cons,List.map_nil,List.cons.injEq,and_true] at bc
      have e7:=bc
      simp only [e7]
      unfold c4E
      unfold a0K at h
      refine c5 v7 (c7 (l1 Tryz.isAgg3 I rfl) (c5 pLs ?_))
      refine d9 h (fun _ h=>?_) (fun _ h=>?_)
      ·refine I0 I fun dk ao=>?_
       obtain ⟨cb,cc,cd,ap,h⟩:=h
       obtain ⟨dl,dm,ce,ap⟩:=ap
       refine d5 (a1W ce _ _ _ _ cb cc) ?_
       refine j9 (lW Tryz.isAgg30 Tryz.sizeOf30 rfl ao) ?_
       refine j9 (ld1 (v:=(vs cd)) Tryz.isAgg44 (ao.atH ap)) ?_
       refine f9 Tryz.call35 h ao ?_
       rintro _ cf _ dn bd _ _ ⟨dp,rfl,rfl,h⟩
       refine d5 (J7 _) ?_
       refine m7 h (fun _ h=>?_) (fun _ h=>?_)
       ·exact hR _ cf _ _ bd.drop ⟨92,rfl,rfl,h⟩
       ·refine c5 pAd ?_
        exact hn4 (IntKind.wrap .i64 (a9W+1)) _ _ h bd
      ·exact hx3 _ _ (hj3 H _ I h)
     refine o5 fun j2 hx2=>?_
     obtain ⟨aq,aa,cg,ch⟩:=h
     refine C1 (J:=fun n l w=>∃(s:(List (List Int))×Int)(H:Hp)(Fs4l5:Frag),n=aa s∧l=(match s with | (P8,Q4)=>[(vi Q4)])∧(match s with | (P8,Q4)=>RowsL 44 3 1 o3 ad P8 Fs4l5)∧(match s with | (P8,Q4)=>Inv w0 ps0 H0 H [bx j 30 (d8 x0),Fs4l5] w)∧aq s H) ⟨_,((List.replicate (x0.c6:Int).toNat ([]:List Int)),0),H,br,rfl,rfl,(RowsL.made (e:=3) G6 G7 bs),(bt.bring 1),cg⟩ ?_
     rintro dq dr w next5 ⟨⟨P8,Q4⟩,H,Fs4l5,rfl,ar,b1Q,I,ci⟩ hn5
     dsimp only at ar I b1Q
     simp only [List.map_cons,List.map_nil,List.cons.injEq,and_true] at ar
     have e5:=ar
     simp only [e5]
     obtain ⟨n5,hm5,h⟩:∃n5:((List (List Int))×Int)→Hp→Prop,(∀s' H',n5 s' H'→aq s' H'∧aa s' < aa (P8,Q4))∧U4 x0 P8 Q4 H n5 K:=⟨_,fun _ _ h=>h,ch (P8,Q4) H (fun s' H'=>aq s' H'∧aa s' < aa (P8,Q4)) ci (fun _ _ a b=>⟨a,b⟩)⟩
     unfold c4F
     unfold U4 at h
     refine c5 y3 (c7 (l1 Tryz.isAgg28 I rfl) (c5 (V8 _ _ _) (c5 pLs ?_)))
     refine d9 h (fun _ h=>?_) (fun _ h=>?_)
     ·refine c5 y3 (c7 (l1 Tryz.isAgg28 I rfl) ?_)
      obtain ⟨cj,ck,au,av,h⟩:=h
      obtain ⟨ds,dt,cl,av⟩:=av
      refine c5 (M4 cl _ _ _ _ cj ck) (c7 (ldA (vs:=(f7 au)) Tryz.isAgg40 Tryz.sizeOf40 rfl (I.atH av)) ?_)
      refine r5 I Tryz.zeroValue40 (cs:=[(vi 0),(vi 0),(vi 0),(vi 0),(vi 0),(vi 0),(vi 0),(vi 0),(vi 0),(vi 0)]) rfl fun ae du cm dv=>?_
      refine u1 cm Tryz.sizeOf40 (vs:=(f7 au)) fun dw cn dx=>?_
      refine I0 cn fun dy f=>?_
      refine d5 K2 ?_
      refine j9 (l1 Tryz.isAgg3 f rfl) ?_
      refine d5 pLs ?_
      refine d5 (Pu.g fun d=>by with_reducible exact K2) ?_
      refine d5 (Pu.g fun d=>by with_reducible exact v7) ?_
      refine N1 (p:=(Value.pointer (some ⟨ae,0,none⟩))) rfl (Ld.g fun d=>by simp only [f6 d];exact (l1 Tryz.isAgg3 f rfl)) ?_
      refine N1 (p:=(Value.pointer (some ⟨j,3,none⟩))) rfl (Ld.g fun d=>by simp only [f6 d];exact (l1 Tryz.isAgg3 (f.bring 1) rfl)) ?_
      refine d5 (Pu.g fun d=>by simp only [f6 d];with_reducible exact pGe) ?_
      refine d5 (B8 _ _) ?_
      refine d5 (Pu.g fun d=>by with_reducible exact X3) ?_
      refine N1 (p:=(Value.pointer (some ⟨ae,1,none⟩))) rfl (Ld.g fun d=>by simp only [f6 d];exact (l1 Tryz.isAgg3 f rfl)) ?_
      refine d5 (Pu.g fun d=>by simp only [f6 d];with_reducible exact pLs) ?_
      refine d5 (B8 _ _) ?_
      refine d5 (Pu.g fun d=>by with_reducible exact X3) ?_
      refine d5 (Pu.g fun d=>by with_reducible exact v7) ?_
      refine N1 (p:=(Value.pointer (some ⟨ae,1,none⟩))) rfl (Ld.g fun d=>by simp only [f6 d];exact (l1 Tryz.isAgg3 f rfl)) ?_
      refine N1 (p:=(Value.pointer (some ⟨j,3,none⟩))) rfl (Ld.g fun d=>by simp only [f6 d];exact (l1 Tryz.isAgg3 (f.bring 1) rfl)) ?_
      refine d5 (Pu.g fun d=>by simp only [f6 d];with_reducible exact pGe) ?_
      refine d5 (B8 _ _) ?_
      refine d5 (Pu.g fun d=>by with_reducible exact K2) ?_
      refine d5 (Pu.g fun d=>by with_reducible exact a0j) ?_
      refine N1 (p:=(Value.pointer (some ⟨ae,0,none⟩))) rfl (Ld.g fun d=>by simp only [f6 d];exact (l1 Tryz.isAgg3 f rfl)) ?_
      refine N1 (p:=(Value.pointer (some ⟨j,4,none⟩))) rfl (Ld.g fun d=>by simp only [f6 d];exact (l1 Tryz.isAgg3 (f.bring 1) rfl)) ?_
      refine d5 (Pu.g fun d=>by simp only [f6 d];with_reducible exact pEq) ?_
      refine d5 (B8 _ _) ?_
      refine d5 (Pu.g fun d=>by with_reducible exact W9) ?_
      refine j9 (Ld.g fun d=>by exact (lW Tryz.isAgg40 Tryz.sizeOf40 rfl f)) ?_
      refine j9 (Ld.g fun d=>by exact (lW Tryz.isAgg30 Tryz.sizeOf30 rfl (f.bring 1))) ?_
      refine N1 (p:=(Value.pointer (some ⟨j,2,none⟩))) rfl (Ld.g fun d=>by simp only [f6 d];exact (l1 Tryz.isAgg22 (f.bring 1) rfl)) ?_
      refine d5 (Pu.g fun d=>by simp only [f6 d];with_reducible exact (Y6 _ _ _)) ?_
      refine N0 [] (fun af:Int=>(vi af)) h f (fun be h=>?_) fun af bf co ag ah bg h=>?_
      ·have d:=be
       simp only [f6 d]
       refine f9 Tryz.call33 h f ?_
       rintro _ bf _ co ag bg ah ⟨af,rfl,rfl,h⟩
       exact ⟨af,bf,rfl,ag,ah,bg,h⟩
      refine ⟨(a4C (p:=(Value.pointer (some ⟨j,2,none⟩))) rfl (ah _ (f.bring 1).lt1 (Inv.N4 (Fi:=[]) (f.bring 1)))),(ah _ f.lt1 (Inv.N4 (Fi:=[]) f)),?_⟩
      refine N0 [] (fun ai:Bool=>(vB ai)) h ag (fun bh h=>?_) fun ai aj cp ak bi bj h=>?_
      ·have d:=bh
       simp only [f6 d]
       refine f9 Tryz.call34 h ag ?_
       rintro _ aj _ cp ak bj bi ⟨ai,rfl,rfl,h⟩
       exact ⟨ai,aj,rfl,ak,bi,bj,h⟩
      refine d5 (Pu.g fun d=>by simp only [f6 d];with_reducible exact (J7 _)) ?_
      refine d5 (B8 _ _) ?_
      refine m7 h (fun _ h=>?_) (fun _ h=>?_)
      ·exact hR _ aj _ _ ak.drop.drop.drop ⟨92,rfl,rfl,h⟩
      ·refine I0 ak fun dz aw=>?_
       refine d5 K2 ?_
       refine d5 K2 ?_
       refine j9 (l1 Tryz.isAgg3 aw rfl) ?_
       refine j9 (l1 Tryz.isAgg3 aw rfl) ?_
       obtain ⟨al,bk,cq,h⟩:=h
       obtain ⟨ea,bl,eb,ec,cr,o,u,ct,cu,ed,ab⟩:=RowsL.open_ b1Q (aw.bring 2) cq
       obtain ⟨ee,ef,ax,eg⟩:=o.addr u
       refine d5 (a1W ax _ _ _ _ al (o.lt al u)) ?_
       refine j9 (ld1 (v:=(vs bl)) Tryz.isAgg44 (o.atW ab ax u)) ?_
       refine X9 (e:=3) (c:=o3) (xs:=[Q4]) ab (a1z _) rfl rfl G6 G7 (nb rfl) fun eh ei ej cv am ay=>?_
       refine ⟨(ay _ (RowL.b4L o ab ax)),(ay _ (ab.bring 3).lt1),(ay _ (ab.bring 3).lt1),?_⟩
       obtain ⟨cw,h⟩:=h
       refine a4G (s:=bl) (xs:=bk) (am.bring 2) ct (cv.srcO ((am.bring 2).bring 1)) cw fun cx cy ek cz da db=>?_
       refine ⟨(db _ ((am.bring 2).bring 4).lt1 (Inv.a9F (((am.bring 2).bring 4).bring 1))),?_⟩
       obtain ⟨el,em,bm,en⟩:=o.addr u
       refine d5 (a1W bm _ _ _ _ al (o.lt al u)) ?_
       refine a1y (x:=cx) ((da.bring 1).drop.bring 1) o bm (List.getElem?_eq_some_iff.1 u).1 Tryz.sizeOf44 rfl fun dc eo dd de ep=>?_
       refine c5 pAd ?_
       exact hn5 _ _ _ (hm5 _ _ h).2 ⟨((P8.set (au.o4:Int).toNat (bk++[Q4])),(IntKind.wrap .i64 (Q4+1))),aj,(dc++(cy++cr)),rfl,rfl,(RowsL.b4K dd cz cu),(((((de.bring 2).bring 2).bring 2).b6Y.bring 1).drop.bring 1),(hm5 _ _ h).1⟩
     ·exact hx2 _ _ (hj2 P8 Fs4l5 H _ b1Q ((I.bring 1).bring 1) h)
    refine o5 fun j1 hx1=>?_
    refine a0g (σ:=Int) (fun a9X=>[(vi a9X)]) (fun a9X=>[bx j 30 (d8 x0)]) h rfl i ?_
    rintro a9X H eq w next6 n6 bn I h hn6
    simp only [List.map_cons,List.map_nil,List.cons.injEq,and_true] at bn
    have e3:=bn
    simp only [e3]
    unfold c4G
    unfold a0L at h
    refine c5 W9 (c7 (l1 Tryz.isAgg22 I rfl) (c5 (Y6 _ _ _) (c5 pLs ?_)))
    refine d9 h (fun _ h=>?_) (fun _ h=>?_)
    ·refine c5 W9 (c7 (l1 Tryz.isAgg22 I rfl) ?_)
     obtain ⟨q,r,an,y,h⟩:=h
     obtain ⟨er,es,t,y⟩:=y
     refine c5 (a1U t _ _ _ _ q r) (c5 a4g (c7 (ld1 (v:=(vi an.E1)) Tryz.isAgg3 ((I.atH y).sub (k:=1) (n:=1) (nb rfl))) (c5 pLs ?_)))
     refine c5 (Pu.g fun d=>by with_reducible exact W9) ?_
     refine c7 (Ld.g fun d=>by simp only [f6 d];exact (l1 Tryz.isAgg22 I rfl)) ?_
     simp only [D4]
     refine c5 (Pu.g fun d=>by simp only [f6 d];with_reducible exact (a1U t _ _ _ _ q r)) ?_
     refine c5 (Pu.g fun d=>by simp only [f6 d];with_reducible exact a4g) ?_
     refine c7 (Ld.g fun d=>by simp only [f6 d];exact (ld1 (v:=(vi an.E1)) Tryz.isAgg3 ((I.atH y).sub (k:=1) (n:=1) (nb rfl)))) ?_
     refine c5 (Pu.g fun d=>by simp only [f6 d];with_reducible exact pGt) ?_
     refine c5 (B8 _ _) ?_
     refine m7 h (fun _ h=>?_) (fun _ h=>?_)
     ·exact hR _ H _ _ I.drop ⟨92,rfl,rfl,h⟩
     ·refine c5 pAd ?_
      exact hn6 (IntKind.wrap .i64 (a9X+1)) _ _ h I
    ·exact hx1 _ _ (hj1 H _ I h)
def a1t(x0:d4)(H:Hp)(K:d4→Hp→Prop):Prop:=
 ∃e:List ByteArray,SlH H 1 y9 x0.p5 e∧(([]:List ByteArray).length+e.length)*17≤140737488355328∧
 ∃f:List j8,SlH H 2 i5 x0.m2 f∧(([]:List j8).length+f.length)*25≤140737488355328∧
 ∃g:List c8,SlH H 10 f7 x0.m4 g∧(([]:List c8).length+g.length)*81≤140737488355328∧
 ∀(a:Sl)(i:Hp),Hle H i→SlH i 1 y9 a e→a.n≤a.c→
 ∀(b:Sl)(j:Hp),Hle i j→SlH j 2 i5 b f→b.n≤b.c→
 ∀(d:Sl)(k:Hp),Hle j k→SlH k 10 f7 d g→d.n≤d.c→
 K (d4.mk a x0.m3 b x0.c6 x0.p9 d) k
theorem a8A(x0){H K}(h:a1t x0 H K):a1g x0 H K:=by
 refine Ct.of fun w0 w ps0 H0 R E I hR=>c7h ?_
 unfold a1t at h
 unfold F10
 refine z6 I (cs:=(d8 x0)) rfl fun ap aq n ar=>?_
 refine r5 n Tryz.zeroValue30 (cs:=[(nS),(vi 0),(nS),(vi 0),(vi 0),(nS)]) rfl fun au av d aw=>?_
 refine c5 a0R (c7 (l1 Tryz.isAgg27 (d.bring 1) rfl) ?_)
 obtain ⟨ax,p,h⟩:=h
 obtain ⟨q,h⟩:=h
 refine b7M (s:=⟨none,0,0⟩) (xs:=[]) d.nil (RowL.nil a5C a6O) (SlH.src d.nil p a5C) q fun a ay az g r ba=>?_
 simp only [List.nil_append] at g
 refine c5 a0R ?_
 refine L3 (r.bring 2) Tryz.sizeOf27 fun bb e bc=>?_
 refine c5 W9 (c7 (l1 Tryz.isAgg22 e rfl) ?_)
 obtain ⟨bd,t,h⟩:=h
 obtain ⟨u,h⟩:=h
 refine c1Q (s:=⟨none,0,0⟩) (xs:=[]) e.nil (RowL.nil a5t a8N) (SlH.src e.nil t a5t) u fun b be bf i v bg=>?_
 simp only [List.nil_append] at i
 refine c5 W9 ?_
 refine L3 (v.bring 1) Tryz.sizeOf22 fun bh f bi=>?_
 refine c5 y3 (c7 (l1 Tryz.isAgg28 f rfl) ?_)
 obtain ⟨bj,y,h⟩:=h
 obtain ⟨z,h⟩:=h
 refine b7L (s:=⟨none,0,0⟩) (xs:=[]) f.nil (RowL.nil a1T a4b) (SlH.src f.nil y a1T) z fun c bk bl j aa bm=>?_
 simp only [List.nil_append] at j
 refine c5 y3 ?_
 refine L3 (aa.bring 1) Tryz.sizeOf28 fun bn k bo=>?_
 refine c7 (ldA Tryz.isAgg30 Tryz.sizeOf30 rfl (k.at1 (o:=0) (vs:=[(vs a),(vi x0.m3),(vs b),(vi x0.c6),(vi x0.p9),(vs c)]) (nb rfl) rfl)) ?_
 refine u1 (k.bring 4) Tryz.sizeOf30 (vs:=[(vs a),(vi x0.m3),(vs b),(vi x0.c6),(vi x0.p9),(vs c)]) fun bp l bq=>?_
 refine S9 Tryz.isAgg30 Tryz.sizeOf30 rfl l ?_
 obtain ⟨ab,ac,ad,ae,af⟩:=Inv.freezeC (l.bring 4) g (by decide)
 replace h:=h a ab ad ae af
 obtain ⟨ag,ah,ai,aj,ak⟩:=Inv.freezeC (ac.bring 3) i (by decide)
 replace h:=h b ag ai aj ak
 obtain ⟨m,al,am,an,ao⟩:=Inv.freezeC (ah.bring 2) j (by decide)
 replace h:=h c m am an ao
 exact hR _ m _ _ al.drop.drop ⟨(d4.mk a x0.m3 b x0.c6 x0.p9 c),rfl,rfl,h⟩
def a7a(x0:Int)(H:Hp)(K:Int→Hp→Prop):Prop:=
 (((decide (x0 < 1))||(decide (6 < x0)))=true→
 K 0 H)∧
 (((decide (x0 < 1))||(decide (6 < x0)))=false→
 (0:Int)≤x0∧(x0:Int) < 7∧
 K (([0,6,5,4,3,2,1]:List Int).getD (x0:Int).toNat 0) H)
theorem a9Y(x0){H K}(h:a7a x0 H K):a3m x0 H K:=by
 refine Ct.of fun w0 w ps0 H0 R E I hR=>c7T ?_
 unfold a7a at h
 unfold F59
 refine c5 pLs ?_
 simp only [D4]
 refine c5 (Pu.g fun a=>by simp only [f6 a];with_reducible exact pGt) ?_
 refine c5 (B8 _ _) ?_
 refine m7 h (fun _ h=>?_) (fun _ h=>?_)
 ·exact hR _ H _ _ I ⟨0,rfl,rfl,h⟩
 ·refine c5 (a9H _ _ _ _ _ _ _) ?_
  obtain ⟨b,c,h⟩:=h
  refine c5 (c0D _ _ _ _ _ _ _ _ _ b c) ?_
  exact hR _ H _ _ I ⟨(([0,6,5,4,3,2,1]:List Int).getD (x0:Int).toNat 0),rfl,rfl,h⟩
def a3F(x0:g8)(x1:Int)(H:Hp)(K:Bool→Hp→Prop):Prop:=
 K ((decide (0≤x1))&&(decide (x1 < x0.s8.c6))) H
theorem a9Z(x0 x1){H K}(h:a3F x0 x1 H K):S1 x0 x1 H K:=by
 refine Ct.of fun w0 w ps0 H0 R E I hR=>c7F ?_
 unfold a3F at h
 unfold F40
 refine z6 I (cs:=(d8 x0.s8)) rfl fun c d b e=>?_
 refine c5 pGe ?_
 simp only [D4]
 refine c5 (Pu.g fun a=>by with_reducible exact a7o) ?_
 refine c5 (Pu.g fun a=>by simp only [f6 a];with_reducible exact v7) ?_
 refine c7 (Ld.g fun a=>by simp only [f6 a];exact (l1 Tryz.isAgg3 b rfl)) ?_
 refine c5 (Pu.g fun a=>by simp only [f6 a];with_reducible exact pLs) ?_
 refine c5 (A4 _ _) ?_
 exact hR _ H _ _ b.drop ⟨((decide (0≤x1))&&(decide (x1 < x0.s8.c6))),rfl,rfl,h⟩
def E2(a:i4)(b:i4)(H:Hp)(K:i4→Hp→Prop):Prop:=
 K a H
def E3(b2P:Int)(b0E:Bool)(a:i4)(b:i4)(H:Hp)(K:i4→Hp→Prop):Prop:=
 (b0E=true→
 E2 (i4.mk true a.farr a.fop a.fa true) b H K)∧
 (b0E=false→
 (b2P=9→
 K (i4.mk true false false false false) H)∧
 (¬(b2P=9)→
 (b2P=10→
 E2 (i4.mk true true a.fop a.fa a.fb) b H K)∧
 (¬(b2P=10)→
 (b2P=11→
 E2 (i4.mk a.fdst true a.fop a.fa true) b H K)∧
 (¬(b2P=11)→
 (b2P=12→
 E2 (i4.mk a.fdst a.farr true a.fa true) b H K)∧
 (¬(b2P=12)→
 K (i4.mk false false false false false) H)))))
def O4(a5J:Int)(b0R:Bool)(a:i4)(b:i4)(H:Hp)(K:i4→Hp→Prop):Prop:=
 (b0R=true→
 E2 (i4.mk true a.farr a.fop a.fa a.fb) b H K)∧
 (b0R=false→
 (a5J=4→
 E3 a5J (decide (a5J=4)) a b H K)∧
 (¬(a5J=4)→
 (a5J=5→
 E3 a5J (decide (a5J=5)) a b H K)∧
 (¬(a5J=5)→
 (a5J=6→
 E3 a5J (decide (a5J=6)) a b H K)∧
 (¬(a5J=6)→
 (a5J=7→
 E3 a5J (decide (a5J=7)) a b H K)∧
 (¬(a5J=7)→
 E3 a5J (decide (a5J=8)) a b H K)))))
def a5j(x0:Int)(H:Hp)(K:i4→Hp→Prop):Prop:=
 (x0=2→
 O4 x0 (decide (x0=2)) (i4.mk false false false true false) (i4.mk false false false false false) H K)∧
 (¬(x0=2)→
 O4 x0 (decide (x0=3)) (i4.mk false false false true false) (i4.mk false false false false false) H K)
theorem b1R(x0){H K}(h:a5j x0 H K):a4W x0 H K:=by
 refine Ct.of fun w0 w ps0 H0 R E I hR=>c7N ?_
 unfold a5j at h
 unfold F53
 refine r5 I Tryz.zeroValue110 (cs:=[(vB false),(vB false),(vB false),(vB false),(vB false)]) rfl fun a t i u=>?_
 refine c5 (b7N _) ?_
 refine r5 i Tryz.zeroValue110 (cs:=[(vB false),(vB false),(vB false),(vB false),(vB false)]) rfl fun b v j y=>?_
 refine u1 j Tryz.sizeOf110 (vs:=[(vB false),(vB false),(vB false),(vB true),(vB false)]) fun z d aa=>?_
 have hj1:∀(c:i4) H w (_:Inv w0 ps0 H0 H [bx b 110 (a7p c),bx a 110 [(vB (i4.mk false false false false false).fdst),(vB (i4.mk false false false false false).farr),(vB (i4.mk false false false false false).fop),(vB (i4.mk false false false false false).fa),(vB (i4.mk false false false false false).fb)]] w) (_:E2 c (i4.mk false false false false false) H K),b8D (Value.pointer (some ⟨a,0,none⟩)) (Value.pointer (some ⟨b,0,none⟩)) w R E:=by
  intro c H w I h
  unfold b8D
  intro _
  unfold E2 at h
  refine c7 (lW Tryz.isAgg110 Tryz.sizeOf110 rfl I) ?_
  refine u1 (I.bring 1) Tryz.sizeOf110 (vs:=(a7p c)) fun ab e ac=>?_
  refine S9 Tryz.isAgg110 Tryz.sizeOf110 rfl e ?_
  exact hR _ H _ _ e.drop.drop ⟨c,rfl,rfl,h⟩
 refine o5 fun j1 hx1=>?_
 have hj2:∀(b0R:Bool) H w (_:Inv w0 ps0 H0 H [bx b 110 [(vB (i4.mk false false false true false).fdst),(vB (i4.mk false false false true false).farr),(vB (i4.mk false false false true false).fop),(vB (i4.mk false false false true false).fa),(vB (i4.mk false false false true false).fb)],bx a 110 [(vB (i4.mk false false false false false).fdst),(vB (i4.mk false false false false false).farr),(vB (i4.mk false false false false false).fop),(vB (i4.mk false false false false false).fa),(vB (i4.mk false false false false false).fb)]] w) (_:O4 x0 b0R (i4.mk false false false true false) (i4.mk false false false false false) H K),b8F (Value.pointer (some ⟨a,0,none⟩)) (Value.pointer (some ⟨b,0,none⟩)) (vi x0) (vB b0R) w j1 R E:=by
  intro b0R H w I h
  unfold b8F
  intro _
  unfold O4 at h
  refine m7 h (fun _ h=>?_) (fun _ h=>?_)
  ·refine c5 a8i ?_
   refine L3 I Tryz.sizeOf4 fun ad k ae=>?_
   exact hx1 _ _ (hj1 (i4.mk true (i4.mk false false false true false).farr (i4.mk false false false true false).fop (i4.mk false false false true false).fa (i4.mk false false false true false).fb) H _ ((k.bring 1).bring 1) h)
  ·have hj3:∀(b0E:Bool) H w (_:Inv w0 ps0 H0 H [bx b 110 [(vB (i4.mk false false false true false).fdst),(vB (i4.mk false false false true false).farr),(vB (i4.mk false false false true false).fop),(vB (i4.mk false false false true false).fa),(vB (i4.mk false false false true false).fb)],bx a 110 [(vB (i4.mk false false false false false).fdst),(vB (i4.mk false false false false false).farr),(vB (i4.mk false false false false false).fop),(vB (i4.mk false false false false false).fa),(vB (i4.mk false false false false false).fb)]] w) (_:E3 x0 b0E (i4.mk false false false true false) (i4.mk false false false false false) H K),b8E (Value.pointer (some ⟨a,0,none⟩)) (Value.pointer (some ⟨b,0,none⟩)) (vi x0) (vB b0E) w j1 R E:=by
    intro b0E H w I h
    unfold b8E
    intro _
    unfold E3 at h
    refine m7 h (fun _ h=>?_) (fun _ h=>?_)
    ·refine c5 a8i ?_
     refine L3 I Tryz.sizeOf4 fun af l ag=>?_
     refine c5 a8j ?_
     refine L3 l Tryz.sizeOf4 fun ah m ai=>?_
     exact hx1 _ _ (hj1 (i4.mk true (i4.mk false false false true false).farr (i4.mk false false false true false).fop (i4.mk false false false true false).fa true) H _ ((m.bring 1).bring 1) h)
    ·refine c5 pEq ?_
     refine d9 h (fun _ h=>?_) (fun _ h=>?_)
     ·refine c5 (b7O _) ?_
      refine u1 (I.bring 1) Tryz.sizeOf110 (vs:=[(vB true),(vB false),(vB false),(vB false),(vB false)]) fun aj f ak=>?_
      refine S9 Tryz.isAgg110 Tryz.sizeOf110 rfl f ?_
      exact hR _ H _ _ f.drop.drop ⟨(i4.mk true false false false false),rfl,rfl,h⟩
     ·refine c5 pEq ?_
      refine d9 h (fun _ h=>?_) (fun _ h=>?_)
      ·refine c5 a8i ?_
       refine L3 I Tryz.sizeOf4 fun al n am=>?_
       refine c5 b0I ?_
       refine L3 n Tryz.sizeOf4 fun an o ao=>?_
       exact hx1 _ _ (hj1 (i4.mk true true (i4.mk false false false true false).fop (i4.mk false false false true false).fa (i4.mk false false false true false).fb) H _ ((o.bring 1).bring 1) h)
      ·refine c5 pEq ?_
       refine d9 h (fun _ h=>?_) (fun _ h=>?_)
       ·refine c5 b0I ?_
        refine L3 I Tryz.sizeOf4 fun ap p aq=>?_
        refine c5 a8j ?_
        refine L3 p Tryz.sizeOf4 fun ar q au=>?_
        exact hx1 _ _ (hj1 (i4.mk (i4.mk false false false true false).fdst true (i4.mk false false false true false).fop (i4.mk false false false true false).fa true) H _ ((q.bring 1).bring 1) h)
       ·refine c5 pEq ?_
        refine d9 h (fun _ h=>?_) (fun _ h=>?_)
        ·refine c5 b4a ?_
         refine L3 I Tryz.sizeOf4 fun av r aw=>?_
         refine c5 a8j ?_
         refine L3 r Tryz.sizeOf4 fun ax s ay=>?_
         exact hx1 _ _ (hj1 (i4.mk (i4.mk false false false true false).fdst (i4.mk false false false true false).farr true (i4.mk false false false true false).fa true) H _ ((s.bring 1).bring 1) h)
        ·refine c5 (c0C) ?_
         refine u1 (I.bring 1) Tryz.sizeOf110 (vs:=[(vB false),(vB false),(vB false),(vB false),(vB false)]) fun az g ba=>?_
         refine S9 Tryz.isAgg110 Tryz.sizeOf110 rfl g ?_
         exact hR _ H _ _ g.drop.drop ⟨(i4.mk false false false false false),rfl,rfl,h⟩
   refine o5 fun j3 hx3=>?_
   refine c5 pEq ?_
   refine d9 h (fun _ h=>?_) (fun _ h=>?_)
   ·exact hx3 _ _ (hj3 (decide (x0=4)) H _ ((I.bring 1).bring 1) h)
   ·refine c5 pEq ?_
    refine d9 h (fun _ h=>?_) (fun _ h=>?_)
    ·exact hx3 _ _ (hj3 (decide (x0=5)) H _ ((I.bring 1).bring 1) h)
    ·refine c5 pEq ?_
     refine d9 h (fun _ h=>?_) (fun _ h=>?_)
     ·exact hx3 _ _ (hj3 (decide (x0=6)) H _ ((I.bring 1).bring 1) h)
     ·refine c5 pEq ?_
      refine d9 h (fun _ h=>?_) (fun _ h=>?_)
      ·exact hx3 _ _ (hj3 (decide (x0=7)) H _ ((I.bring 1).bring 1) h)
      ·refine c5 pEq ?_
       exact hx3 _ _ (hj3 (decide (x0=8)) H _ ((I.bring 1).bring 1) h)
 refine o5 fun j2 hx2=>?_
 refine c5 pEq ?_
 refine d9 h (fun _ h=>?_) (fun _ h=>?_)
 ·exact hx2 _ _ (hj2 (decide (x0=2)) H _ ((d.bring 1).bring 1) h)
 ·refine c5 pEq ?_
  exact hx2 _ _ (hj2 (decide (x0=3)) H _ ((d.bring 1).bring 1) h)
def a1L(a:g8)(b:d4)(H:Hp)(K:Int→Hp→Prop):Prop:=
 K 0 H
def a4J(c9f:Sl)(c4T:Int)(d:g8)(e:d4)(a6b:Int)(H:Hp)(n4:Int→Hp→Prop)(K:Int→Hp→Prop):Prop:=
 (a6b < c4T→
 (0:Int)≤a6b∧(a6b:Int) < c9f.n∧∃a:Sl,EltH H c9f a6b 1 [(vs a)]∧
 a6C a H (fun b c=>
 ((!b)=true→
 K 92 c)∧
 ((!b)=false→
 n4 (IntKind.wrap .i64 (a6b+1)) c)))∧
 (¬(a6b < c4T)→
 a1L d e H K)
def a1M(a7w:(List (List c8)))(e:g8)(d:d4)(H:Hp)(K:Int→Hp→Prop):Prop:=
 ∀(a:Sl)(b:Hp),Hle H b→SlHH b 10 f7 a a7w→a.n≤a.c→
 TL (0:Int) b fun(s:Int) H n4=>a4J a d.c6 e d s H n4 K
def a1N(c4U:Sl)(c4V:Int)(c:g8)(f:d4)(a5Q:(List (List c8)))(a4x:Int)(H:Hp)(n5:((List (List c8))×Int)→Hp→Prop)(K:Int→Hp→Prop):Prop:=
 (a4x < c4V→
 (0:Int)≤a4x∧(a4x:Int) < c4U.n∧∃a:c8,EltH H c4U a4x 10 (f7 a)∧
 a3p c a H (fun d e=>
 ((!d)=true→
 K 92 e)∧
 ((!d)=false→
 (0:Int)≤a.o4∧∃b:List c8,(a5Q)[(a.o4:Int).toNat]? = some b∧
 (b.length+([a]:List c8).length)*81≤140737488355328∧
 n5 ((a5Q.set (a.o4:Int).toNat (b++[a])),(IntKind.wrap .i64 (a4x+1))) e)))∧
 (¬(a4x < c4V)→
 a1M a5Q c f H K)
def a1O(a:d4)(H:Hp)(K:Int→Hp→Prop):Prop:=
 S1 (g8.mk a) a.p9 H (fun b c=>
 ((!b)=true→
 K 92 c)∧
 ((!b)=false→
 (0:Int)≤a.c6∧a.c6*25≤140737488355328∧
 TL (((List.replicate (a.c6:Int).toNat ([]:List c8)),0):(List (List c8))×Int) c fun(s:(List (List c8))×Int) H n5=>a1N a.m4 (a.m4.n:Int) (g8.mk a) a s.1 s.2 H n5 K))
def a4K(c4W:Sl)(c4X:Int)(b:d4)(a7x:Int)(H:Hp)(n6:Int→Hp→Prop)(K:Int→Hp→Prop):Prop:=
 (a7x < c4X→
 (0:Int)≤a7x∧(a7x:Int) < c4W.n∧∃a:j8,EltH H c4W a7x 2 (i5 a)∧
 (((decide (a.E1 < 1))||(decide (1024 < a.E1)))=true→
 K 92 H)∧
 (((decide (a.E1 < 1))||(decide (1024 < a.E1)))=false→
 n6 (IntKind.wrap .i64 (a7x+1)) H))∧
 (¬(a7x < c4X)→
 a1O b H K)
def a6c(x0:d4)(H:Hp)(K:Int→Hp→Prop):Prop:=
 ((((decide (x0.m3 < 0))||(decide (64 < x0.m3)))||(decide (64 < (IntKind.wrap .i64 ((x0.p5.n:Int)+x0.m3)))))=true→
 K 90 H)∧
 ((((decide (x0.m3 < 0))||(decide (64 < x0.m3)))||(decide (64 < (IntKind.wrap .i64 ((x0.p5.n:Int)+x0.m3)))))=false→
 ((((decide (x0.c6 < 1))||(decide (4096 < x0.c6)))||(decide (8192 < (x0.m4.n:Int))))=true→
 K 91 H)∧
 ((((decide (x0.c6 < 1))||(decide (4096 < x0.c6)))||(decide (8192 < (x0.m4.n:Int))))=false→
 (16 < (x0.m2.n:Int)→
 K 92 H)∧
 (¬(16 < (x0.m2.n:Int))→
 TL (0:Int) H fun(s:Int) H n6=>a4K x0.m2 (x0.m2.n:Int) x0 s H n6 K)))
theorem b2Q(x0){H K}(h:a6c x0 H K):O1 x0 H K:=by
 refine Ct.of fun w0 w ps0 H0 R E I hR=>c7m ?_
 unfold a6c at h
 unfold F15
 refine z6 I (cs:=(d8 x0)) rfl fun i co f cp=>?_
 refine c5 X0 (c7 (l1 Tryz.isAgg3 f rfl) (c5 pLs ?_))
 refine c5 (Pu.g fun d=>by with_reducible exact X0) ?_
 refine c7 (Ld.g fun d=>by simp only [f6 d];exact (l1 Tryz.isAgg3 f rfl)) ?_
 refine c5 (Pu.g fun d=>by simp only [f6 d];with_reducible exact pGt) ?_
 refine c5 (B8 _ _) ?_
 refine c5 (Pu.g fun d=>by with_reducible exact a0R) ?_
 refine c7 (Ld.g fun d=>by simp only [f6 d];exact (l1 Tryz.isAgg27 f rfl)) ?_
 refine c5 (Pu.g fun d=>by simp only [f6 d];with_reducible exact (a1e _ _ _)) ?_
 refine c5 (Pu.g fun d=>by with_reducible exact X0) ?_
 refine c7 (Ld.g fun d=>by simp only [f6 d];exact (l1 Tryz.isAgg3 f rfl)) ?_
 refine c5 (Pu.g fun d=>by simp only [f6 d];with_reducible exact pAd) ?_
 refine c5 (Pu.g fun d=>by simp only [f6 d];with_reducible exact pGt) ?_
 refine c5 (B8 _ _) ?_
 refine m7 h (fun _ h=>?_) (fun _ h=>?_)
 ·exact hR _ H _ _ f.drop ⟨90,rfl,rfl,h⟩
 ·refine c5 v7 (c7 (l1 Tryz.isAgg3 f rfl) (c5 pLs ?_))
  refine c5 (Pu.g fun d=>by with_reducible exact v7) ?_
  refine c7 (Ld.g fun d=>by simp only [f6 d];exact (l1 Tryz.isAgg3 f rfl)) ?_
  refine c5 (Pu.g fun d=>by simp only [f6 d];with_reducible exact pGt) ?_
  refine c5 (B8 _ _) ?_
  refine c5 (Pu.g fun d=>by with_reducible exact y3) ?_
  refine c7 (Ld.g fun d=>by simp only [f6 d];exact (l1 Tryz.isAgg28 f rfl)) ?_
  refine c5 (Pu.g fun d=>by simp only [f6 d];with_reducible exact (V8 _ _ _)) ?_
  refine c5 (Pu.g fun d=>by simp only [f6 d];with_reducible exact pGt) ?_
  refine c5 (B8 _ _) ?_
  refine m7 h (fun _ h=>?_) (fun _ h=>?_)
  ·exact hR _ H _ _ f.drop ⟨91,rfl,rfl,h⟩
  ·refine c5 W9 (c7 (l1 Tryz.isAgg22 f rfl) (c5 (Y6 _ _ _) (c5 pGt ?_)))
   refine d9 h (fun _ h=>?_) (fun _ h=>?_)
   ·exact hR _ H _ _ f.drop ⟨92,rfl,rfl,h⟩
   ·have hj1:∀H w (_:Inv w0 ps0 H0 H [bx i 30 (d8 x0)] w) (_:a1O x0 H K),b8c (Value.pointer (some ⟨i,0,none⟩)) w R E:=by
     intro H w I h
     unfold b8c
     intro _
     unfold a1O at h
     refine c7 (lW Tryz.isAgg30 Tryz.sizeOf30 rfl I) (c5 (b9C _ _ _ _ _ _ _ _ _ _ _ _) ?_)
     refine r5 I Tryz.zeroValue90 (cs:=[(nS),(vi 0),(nS),(vi 0),(vi 0),(nS)]) rfl fun t cq ay cr=>?_
     refine u1 ay Tryz.sizeOf90 (vs:=(d8 x0)) fun ct aa cu=>?_
     refine c7 (lW Tryz.isAgg90 Tryz.sizeOf90 rfl aa) (c5 a0j (c7 (l1 Tryz.isAgg3 (aa.bring 1) rfl) ?_))
     refine f9 Tryz.call40 h aa ?_
     rintro _ al _ cv ab _ _ ⟨cw,rfl,rfl,h⟩
     refine c5 (J7 _) ?_
     refine m7 h (fun _ h=>?_) (fun _ h=>?_)
     ·exact hR _ al _ _ ab.drop.drop ⟨92,rfl,rfl,h⟩
     ·refine c5 v7 (c7 (l1 Tryz.isAgg3 (ab.bring 1) rfl) ?_)
      obtain ⟨az,ba,h⟩:=h
      refine c7f ab az ba fun u bb cx bc am cy=>?_
      have hj2:∀(a7w:(List (List c8)))(Fs6j2:Frag)(H:Hp)(w:World)(_:RowsL 28 40 10 f7 u a7w Fs6j2)(_:Inv w0 ps0 H0 H [bx t 90 [(Value.slice (g8.mk x0).s8.p5.a (g8.mk x0).s8.p5.n (g8.mk x0).s8.p5.c),(vi (g8.mk x0).s8.m3),(Value.slice (g8.mk x0).s8.m2.a (g8.mk x0).s8.m2.n (g8.mk x0).s8.m2.c),(vi (g8.mk x0).s8.c6),(vi (g8.mk x0).s8.p9),(Value.slice (g8.mk x0).s8.m4.a (g8.mk x0).s8.m4.n (g8.mk x0).s8.m4.c)],bx i 30 (d8 x0),Fs6j2] w)(_:a1M a7w (g8.mk x0) x0 H K),b8b (Value.pointer (some ⟨i,0,none⟩)) (vs u) w R E:=by
       intro a7w Fs6j2 H w c0Z I h
       unfold b8b
       intro _
       unfold a1M at h
       have hj3:∀H w (_:Inv w0 ps0 H0 H [bx t 90 [(Value.slice (g8.mk x0).s8.p5.a (g8.mk x0).s8.p5.n (g8.mk x0).s8.p5.c),(vi (g8.mk x0).s8.m3),(Value.slice (g8.mk x0).s8.m2.a (g8.mk x0).s8.m2.n (g8.mk x0).s8.m2.c),(vi (g8.mk x0).s8.c6),(vi (g8.mk x0).s8.p9),(Value.slice (g8.mk x0).s8.m4.a (g8.mk x0).s8.m4.n (g8.mk x0).s8.m4.c)],bx i 30 (d8 x0)] w) (_:a1L (g8.mk x0) x0 H K),b8a w R E:=by
        intro H w I h
        unfold b8a
        intro _
        unfold a1L at h
        exact hR _ H _ _ I.drop.drop ⟨0,rfl,rfl,h⟩
       refine o5 fun j3 hx3=>?_
       refine c5 v7 (c7 (l1 Tryz.isAgg3 (I.bring 1) rfl) ?_)
       obtain ⟨bd,be,bf,bg,bh⟩:=Inv.freezeLL (I.bring 2) c0Z (by decide)
       replace h:=h u bd bf bg bh
       refine a0g (σ:=Int) (fun a6b=>[(vi a6b)]) (fun a6b=>[bx t 90 [(Value.slice (g8.mk x0).s8.p5.a (g8.mk x0).s8.p5.n (g8.mk x0).s8.p5.c),(vi (g8.mk x0).s8.m3),(Value.slice (g8.mk x0).s8.m2.a (g8.mk x0).s8.m2.n (g8.mk x0).s8.m2.c),(vi (g8.mk x0).s8.c6),(vi (g8.mk x0).s8.p9),(Value.slice (g8.mk x0).s8.m4.a (g8.mk x0).s8.m4.n (g8.mk x0).s8.m4.c)],bx i 30 (d8 x0)]) h rfl ((be.bring 1).bring 1) ?_
       rintro a6b H cz w next4 n4 an I h hn4
       simp only [List.map_cons,List.map_nil,List.cons.injEq,and_true] at an
       have e100:=an
       simp only [e100]
       unfold c2b
       unfold a4J at h
       refine c5 pLs ?_
       refine d9 h (fun _ h=>?_) (fun _ h=>?_)
       ·obtain ⟨bi,bj,bk,ac,h⟩:=h
        obtain ⟨da,db,bl,ac⟩:=ac
        refine c5 (b4o bl _ _ _ _ bi bj) (c7 (ld1 (v:=(vs bk)) Tryz.isAgg28 (I.atH ac)) ?_)
        refine f9 Tryz.call42 h I ?_
        rintro _ bm _ dc ao _ _ ⟨dd,rfl,rfl,h⟩
        refine c5 (J7 _) ?_
        refine m7 h (fun _ h=>?_) (fun _ h=>?_)
        ·exact hR _ bm _ _ ao.drop.drop ⟨92,rfl,rfl,h⟩
        ·refine c5 pAd ?_
         exact hn4 (IntKind.wrap .i64 (a6b+1)) _ _ h ((ao.bring 1).bring 1)
       ·exact hx3 _ _ (hj3 H _ ((I.bring 1).bring 1) h)
      refine o5 fun j2 hx2=>?_
      refine c5 y3 (c7 (l1 Tryz.isAgg28 (am.bring 2) rfl) (c5 (V8 _ _ _) ?_))
      obtain ⟨ad,q,bn,bo⟩:=h
      refine C1 (J:=fun n l w=>∃(s:(List (List c8))×Int)(H:Hp)(Fs6l5:Frag),n=q s∧l=(match s with | (a5Q,a4x)=>[(vi a4x)])∧(match s with | (a5Q,a4x)=>RowsL 28 40 10 f7 u a5Q Fs6l5)∧(match s with | (a5Q,a4x)=>Inv w0 ps0 H0 H [bx t 90 [(Value.slice (g8.mk x0).s8.p5.a (g8.mk x0).s8.p5.n (g8.mk x0).s8.p5.c),(vi (g8.mk x0).s8.m3),(Value.slice (g8.mk x0).s8.m2.a (g8.mk x0).s8.m2.n (g8.mk x0).s8.m2.c),(vi (g8.mk x0).s8.c6),(vi (g8.mk x0).s8.p9),(Value.slice (g8.mk x0).s8.m4.a (g8.mk x0).s8.m4.n (g8.mk x0).s8.m4.c)],bx i 30 (d8 x0),Fs6l5] w)∧ad s H) ⟨_,((List.replicate (x0.c6:Int).toNat ([]:List c8)),0),al,bb,rfl,rfl,(RowsL.made (e:=40) a1T a4b bc),((am.bring 2).bring 2),bn⟩ ?_
      rintro de df w next5 ⟨⟨a5Q,a4x⟩,H,Fs6l5,rfl,ae,c1a,I,bp⟩ hn5
      dsimp only at ae I c1a
      simp only [List.map_cons,List.map_nil,List.cons.injEq,and_true] at ae
      have e77:=ae
      simp only [e77]
      obtain ⟨n5,hm5,h⟩:∃n5:((List (List c8))×Int)→Hp→Prop,(∀s' H',n5 s' H'→ad s' H'∧q s' < q (a5Q,a4x))∧a1N x0.m4 (x0.m4.n:Int) (g8.mk x0) x0 a5Q a4x H n5 K:=⟨_,fun _ _ h=>h,bo (a5Q,a4x) H (fun s' H'=>ad s' H'∧q s' < q (a5Q,a4x)) bp (fun _ _ a b=>⟨a,b⟩)⟩
      unfold c2c
      unfold a1N at h
      refine c5 pLs ?_
      refine d9 h (fun _ h=>?_) (fun _ h=>?_)
      ·obtain ⟨bq,br,r,af,h⟩:=h
       obtain ⟨dg,dh,bs,af⟩:=af
       refine c5 (M4 bs _ _ _ _ bq br) (c7 (ldA (vs:=(f7 r)) Tryz.isAgg40 Tryz.sizeOf40 rfl (I.atH af)) ?_)
       refine r5 I Tryz.zeroValue40 (cs:=[(vi 0),(vi 0),(vi 0),(vi 0),(vi 0),(vi 0),(vi 0),(vi 0),(vi 0),(vi 0)]) rfl fun di dj bt dk=>?_
       refine u1 bt Tryz.sizeOf40 (vs:=(f7 r)) fun dl ag dm=>?_
       refine c7 (ldA Tryz.isAgg90 Tryz.sizeOf90 rfl ((ag.bring 1).at1 (o:=0) (vs:=[(Value.slice (g8.mk x0).s8.p5.a (g8.mk x0).s8.p5.n (g8.mk x0).s8.p5.c),(vi (g8.mk x0).s8.m3),(Value.slice (g8.mk x0).s8.m2.a (g8.mk x0).s8.m2.n (g8.mk x0).s8.m2.c),(vi (g8.mk x0).s8.c6),(vi (g8.mk x0).s8.p9),(Value.slice (g8.mk x0).s8.m4.a (g8.mk x0).s8.m4.n (g8.mk x0).s8.m4.c)]) (nb rfl) rfl)) (c7 (lW Tryz.isAgg40 Tryz.sizeOf40 rfl ag) ?_)
       refine f9 Tryz.call41 h ag ?_
       rintro _ ap _ dn aq _ _ ⟨dp,rfl,rfl,h⟩
       refine c5 (J7 _) ?_
       refine m7 h (fun _ h=>?_) (fun _ h=>?_)
       ·exact hR _ ap _ _ aq.drop.drop.drop.drop ⟨92,rfl,rfl,h⟩
       ·refine I0 aq fun dq ah=>?_
        refine d5 K2 ?_
        refine d5 K2 ?_
        refine j9 (l1 Tryz.isAgg3 ah rfl) ?_
        refine j9 (l1 Tryz.isAgg3 ah rfl) ?_
        obtain ⟨y,ar,bu,h⟩:=h
        obtain ⟨dr,au,ds,dt,bv,j,k,bw,bz,du,m⟩:=RowsL.open_ c1a (ah.bring 3) bu
        obtain ⟨dv,dw,ai,dx⟩:=j.addr k
        refine d5 (b4o ai _ _ _ _ y (j.lt y k)) ?_
        refine j9 (ld1 (v:=(vs au)) Tryz.isAgg28 (j.atW m ai k)) ?_
        refine j9 (lW Tryz.isAgg40 Tryz.sizeOf40 rfl (m.bring 3)) ?_
        refine X9 (e:=40) (c:=f7) (xs:=[r]) m (b9U _ _ _ _ _ _ _ _ _ _) rfl rfl a1T a4b (nb rfl) fun dy dz ea ca z aj=>?_
        refine ⟨(aj _ (RowL.b4L j m ai)),(aj _ (m.bring 3).lt1),(aj _ (m.bring 3).lt1),?_⟩
        obtain ⟨cb,h⟩:=h
        refine b7L (s:=au) (xs:=ar) (z.bring 2) bw (ca.srcO ((z.bring 2).bring 1)) cb fun cc cd eb ce cf cg=>?_
        refine ⟨(cg _ ((z.bring 2).bring 4).lt1 (Inv.a9F (((z.bring 2).bring 4).bring 1))),?_⟩
        obtain ⟨ec,ed,av,ee⟩:=j.addr k
        refine d5 (b4o av _ _ _ _ y (j.lt y k)) ?_
        refine a1y (x:=cc) ((cf.bring 1).drop.bring 1) j av (List.getElem?_eq_some_iff.1 k).1 Tryz.sizeOf28 rfl fun ch ef ci cj eg=>?_
        refine c5 pAd ?_
        exact hn5 _ _ _ (hm5 _ _ h).2 ⟨((a5Q.set (r.o4:Int).toNat (ar++[r])),(IntKind.wrap .i64 (a4x+1))),ap,(ch++(cd++bv)),rfl,rfl,(RowsL.b4K ci ce bz),((((((cj.bring 2).bring 2).bring 2).b6Y.bring 1).drop.bring 2).bring 2),(hm5 _ _ h).1⟩
      ·exact hx2 _ _ (hj2 a5Q Fs6l5 H _ c1a (((I.bring 2).bring 2).bring 2) h)
    refine o5 fun j1 hx1=>?_
    refine c5 W9 (c7 (l1 Tryz.isAgg22 f rfl) (c5 (Y6 _ _ _) ?_))
    refine a0g (σ:=Int) (fun a7x=>[(vi a7x)]) (fun a7x=>[bx i 30 (d8 x0)]) h rfl f ?_
    rintro a7x H eh w next6 n6 aw I h hn6
    simp only [List.map_cons,List.map_nil,List.cons.injEq,and_true] at aw
    have e51:=aw
    simp only [e51]
    unfold c2d
    unfold a4K at h
    refine c5 pLs ?_
    refine d9 h (fun _ h=>?_) (fun _ h=>?_)
    ·obtain ⟨ck,cl,ax,ak,h⟩:=h
     obtain ⟨ei,ej,cm,ak⟩:=ak
     refine c5 (a1U cm _ _ _ _ ck cl) (c7 (ldA (vs:=(i5 ax)) Tryz.isAgg70 Tryz.sizeOf70 rfl (I.atH ak)) ?_)
     refine r5 I Tryz.zeroValue70 (cs:=[(eS),(vi 0)]) rfl fun ek el cn em=>?_
     refine u1 cn Tryz.sizeOf70 (vs:=(i5 ax)) fun en p eo=>?_
     refine c5 a4g (c7 (l1 Tryz.isAgg3 p rfl) (c5 pLs ?_))
     refine c5 (Pu.g fun d=>by with_reducible exact a4g) ?_
     refine c7 (Ld.g fun d=>by simp only [f6 d];exact (l1 Tryz.isAgg3 p rfl)) ?_
     refine c5 (Pu.g fun d=>by simp only [f6 d];with_reducible exact pGt) ?_
     refine c5 (B8 _ _) ?_
     refine m7 h (fun _ h=>?_) (fun _ h=>?_)
     ·exact hR _ H _ _ p.drop.drop ⟨92,rfl,rfl,h⟩
     ·refine c5 pAd ?_
      exact hn6 (IntKind.wrap .i64 (a7x+1)) _ _ h p.drop
    ·exact hx1 _ _ (hj1 H _ I h)
def O5(d1H:Int)(d1A:Sl)(b1G:Int)(d0b:Int)(b1h:(List Bool))(d1B:Sl)(d1C:d4)(b1i:(List Int))(H:Hp)(n2:(Int×(List Bool)×(List Int))→Hp→Prop)(K:Sl→(List Bool)→Sl→(List Int)→Hp→Prop):Prop:=
 n2 ((IntKind.wrap .i64 (d0b+1)),b1h,b1i) H
def a0y(b8Z:Int)(b1j:(List Bool))(d1D:Sl)(d1E:d4)(a8B:(List Int))(H:Hp)(K:Sl→(List Bool)→Sl→(List Int)→Hp→Prop):Prop:=
 (a8B.length+([b8Z]:List Int).length)*9≤140737488355328∧
 K (Sl.mk none 0 0) b1j (Sl.mk none 0 0) (a8B++[b8Z]) H
def a0z(a5G:Int)(a0Y:Sl)(b7f:Int)(b7g:Sl)(b3D:d4)(a1P:Int)(a2u:(List Bool))(a3G:(List Int))(H:Hp)(n2:(Int×(List Bool)×(List Int))→Hp→Prop)(K:Sl→(List Bool)→Sl→(List Int)→Hp→Prop):Prop:=
 (a1P < b7f→
 (0:Int)≤a1P∧(a1P:Int) < a0Y.n∧∃a:Int,EltH H a0Y a1P 1 [(vi a)]∧
 (0:Int)≤a∧(a:Int) < b3D.m4.n∧∃b:c8,EltH H b3D.m4 a 10 (f7 b)∧
 (0:Int)≤b.fTo∧∃c:Bool,(a2u)[(b.fTo:Int).toNat]? = some c∧
 ((!c)=true→
 a2A b.fTo (Sl.mk none 0 0) a2u b7g b3D (Sl.mk none 0 0) a3G H (fun e y0__106 f y1__106 d=>
 O5 a5G a0Y b7f a1P y0__106 b7g b3D y1__106 d n2 K))∧
 ((!c)=false→
 O5 a5G a0Y b7f a1P a2u b7g b3D a3G H n2 K))∧
 (¬(a1P < b7f)→
 a0y a5G a2u b7g b3D a3G H K)
def a5k(x0:Int)(x1:Sl)(x1_:(List Bool))(x2:Sl)(x3:d4)(x5:Sl)(x5_:(List Int))(H:Hp)(K:Sl→(List Bool)→Sl→(List Int)→Hp→Prop):Prop:=
 (0:Int)≤x0∧∃b:Bool,(x1_)[(x0:Int).toNat]? = some b∧
 (0:Int)≤x0∧(x0:Int) < x2.n∧∃a:Sl,EltH H x2 x0 1 [(vs a)]∧
 TL ((0,(x1_.set (x0:Int).toNat true),x5_):Int×(List Bool)×(List Int)) H fun(s:Int×(List Bool)×(List Int)) H n2=>a0z x0 a (a.n:Int) x2 x3 s.1 s.2.1 s.2.2 H n2 K
theorem b1S(x0 x1 x1_ x2 x3 x5 x5_){H K}(h:a5k x0 x1 x1_ x2 x3 x5 x5_ H K):a2A x0 x1 x1_ x2 x3 x5 x5_ H K:=by
 intro g1 g2 g3 g4 g5 sx1_ Fx1_ sx5_ Fx5_ hx1_ hx5_
 refine Ct.of fun w0 w ps0 H0 R E I hR=>c7D ?_
 unfold a5k at h
 unfold F38
 refine c7 (l1 Tryz.isAgg47 I rfl) ?_
 obtain ⟨t,bd,g,h⟩:=h
 obtain ⟨be,bf,u,bg⟩:=hx1_.addr g
 refine c5 (Y0 u _ _ _ _ t (hx1_.lt t g)) ?_
 refine a1y (x:=true) (I.bring 1) hx1_ u (List.getElem?_eq_some_iff.1 g).1 Tryz.sizeOf4 rfl fun ac bh ad i bi=>?_
 have hj1:∀(b1j:(List Bool))(a8B:(List Int))(b5b:Sl)(Fcp1j1:Frag)(b5c:Sl)(Fcp5j1:Frag) H w (_:RowL 4 1 E5 b5b b1j Fcp1j1) (_:RowL 3 1 o3 b5c a8B Fcp5j1) (_:Inv w0 ps0 H0 H [bx g1 47 [(vs b5b)],bx g2 83 [(vs x2)],bx g3 30 (d8 x3),bx g4 87 [(Value.func (.func 38) #[] #[(Value.pointer (some ⟨g1,0,none⟩)),(Value.pointer (some ⟨g2,0,none⟩)),(Value.pointer (some ⟨g3,0,none⟩)),(Value.pointer (some ⟨g4,0,none⟩)),(Value.pointer (some ⟨g5,0,none⟩))])],bx g5 44 [(vs b5c)],Fcp1j1,Fcp5j1] w) (_:a0y x0 b1j x2 x3 a8B H K),b8y (vi x0) (Value.pointer (some ⟨g5,0,none⟩)) w R E:=by
  intro b1j a8B b5b Fcp1j1 b5c Fcp5j1 H w c9g c9h I h
  unfold b8y
  intro _
  unfold a0y at h
  refine c7 (l1 Tryz.isAgg44 (I.bring 4) rfl) ?_
  refine X9 (e:=3) (c:=o3) (xs:=[x0]) I (a1z _) rfl rfl G6 G7 (nb rfl) fun bj bk bl ae y bm=>?_
  obtain ⟨af,h⟩:=h
  refine a4G (s:=b5c) (xs:=a8B) (y.bring 7) c9h (ae.srcO ((y.bring 7).bring 1)) af fun z ag bn ah ai bo=>?_
  refine u1 ((ai.bring 1).drop.bring 5) Tryz.sizeOf44 (vs:=[(vs z)]) fun bp aj bq=>?_
  exact hR _ H _ _ (((((((aj.bring 1).bring 1).bring 5).bring 5).bring 5).bring 6).bring 6) ⟨(Sl.mk none 0 0),b1j,(Sl.mk none 0 0),(a8B++[x0]),b5b,Fcp1j1,z,ag,rfl,rfl,c9g,ah,h⟩
 refine o5 fun j1 hx1=>?_
 refine c7 (l1 Tryz.isAgg83 (i.bring 2) rfl) ?_
 obtain ⟨ak,al,d,j,h⟩:=h
 obtain ⟨br,bs,am,j⟩:=j
 refine c5 (a1W am _ _ _ _ ak al) (c7 (ld1 (v:=(vs d)) Tryz.isAgg44 (i.atH j)) (c5 (Q2 _ _ _) ?_))
 obtain ⟨m,f,an,ao⟩:=h
 refine C1 (J:=fun n l w=>∃(s:Int×(List Bool)×(List Int))(H:Hp)(b1k:Sl)(Fcp1l2:Frag)(b1l:Sl)(Fcp5l2:Frag),n=f s∧l=(match s with | (a1P,a2u,a3G)=>[(vi a1P)])∧(match s with | (a1P,a2u,a3G)=>RowL 4 1 E5 b1k a2u Fcp1l2)∧(match s with | (a1P,a2u,a3G)=>RowL 3 1 o3 b1l a3G Fcp5l2)∧(match s with | (a1P,a2u,a3G)=>Inv w0 ps0 H0 H [bx g1 47 [(vs b1k)],bx g2 83 [(vs x2)],bx g3 30 (d8 x3),bx g4 87 [(Value.func (.func 38) #[] #[(Value.pointer (some ⟨g1,0,none⟩)),(Value.pointer (some ⟨g2,0,none⟩)),(Value.pointer (some ⟨g3,0,none⟩)),(Value.pointer (some ⟨g4,0,none⟩)),(Value.pointer (some ⟨g5,0,none⟩))])],bx g5 44 [(vs b1l)],Fcp1l2,Fcp5l2] w)∧m s H) ⟨_,(0,(x1_.set (x0:Int).toNat true),x5_),H,sx1_,ac,sx5_,Fx5_,rfl,rfl,ad,hx5_,(((((((i.bring 6).bring 1).bring 6).bring 6).bring 6).bring 6).bring 6),an⟩ ?_
 rintro bt bu w next2 ⟨⟨a1P,a2u,a3G⟩,H,b1k,Fcp1l2,b1l,Fcp5l2,rfl,o,b0a,b5d,I,ap⟩ hn2
 dsimp only at o I b0a b5d
 simp only [List.map_cons,List.map_nil,List.cons.injEq,and_true] at o
 have e18:=o
 simp only [e18]
 obtain ⟨n2,hm2,h⟩:∃n2:(Int×(List Bool)×(List Int))→Hp→Prop,(∀s' H',n2 s' H'→m s' H'∧f s' < f (a1P,a2u,a3G))∧a0z x0 d (d.n:Int) x2 x3 a1P a2u a3G H n2 K:=⟨_,fun _ _ h=>h,ao (a1P,a2u,a3G) H (fun s' H'=>m s' H'∧f s' < f (a1P,a2u,a3G)) ap (fun _ _ a b=>⟨a,b⟩)⟩
 unfold c2s
 unfold a0z at h
 refine c5 pLs ?_
 refine d9 h (fun _ h=>?_) (fun _ h=>?_)
 ·have hj3:∀(b1h:(List Bool))(b1i:(List Int))(b5e:Sl)(Fcp1j3:Frag)(b5f:Sl)(Fcp5j3:Frag) H w (_:RowL 4 1 E5 b5e b1h Fcp1j3) (_:RowL 3 1 o3 b5f b1i Fcp5j3) (_:Inv w0 ps0 H0 H [bx g1 47 [(vs b5e)],bx g2 83 [(vs x2)],bx g3 30 (d8 x3),bx g4 87 [(Value.func (.func 38) #[] #[(Value.pointer (some ⟨g1,0,none⟩)),(Value.pointer (some ⟨g2,0,none⟩)),(Value.pointer (some ⟨g3,0,none⟩)),(Value.pointer (some ⟨g4,0,none⟩)),(Value.pointer (some ⟨g5,0,none⟩))])],bx g5 44 [(vs b5f)],Fcp1j3,Fcp5j3] w) (_:O5 x0 d (d.n:Int) a1P b1h x2 x3 b1i H n2 K),b8z (vi x0) (Value.pointer (some ⟨g1,0,none⟩)) (Value.pointer (some ⟨g3,0,none⟩)) (Value.pointer (some ⟨g4,0,none⟩)) (Value.pointer (some ⟨g5,0,none⟩)) (vs d) (vi (d.n:Int)) (vi a1P) w next2 R E:=by
   intro b1h b1i b5e Fcp1j3 b5f Fcp5j3 H w c9i c9j I h
   unfold b8z
   intro _
   unfold O5 at h
   refine c5 pAd ?_
   exact hn2 _ _ _ (hm2 _ _ h).2 ⟨((IntKind.wrap .i64 (a1P+1)),b1h,b1i),H,b5e,Fcp1j3,b5f,Fcp5j3,rfl,rfl,c9i,c9j,(((((((I.bring 6).bring 6).bring 6).bring 6).bring 6).bring 6).bring 6),(hm2 _ _ h).1⟩
  refine o5 fun j3 hx3=>?_
  obtain ⟨aq,ar,au,p,h⟩:=h
  obtain ⟨bv,bw,av,p⟩:=p
  refine c5 (L4 av _ _ _ _ aq ar) (c7 (ld1 (v:=(vi au)) Tryz.isAgg3 (I.atH p)) (c5 y3 (c7 (l1 Tryz.isAgg28 (I.bring 2) rfl) ?_)))
  obtain ⟨aw,ax,ay,q,h⟩:=h
  obtain ⟨bz,ca,az,q⟩:=q
  refine c5 (M4 az _ _ _ _ aw ax) (c5 X3 (c7 (ld1 (v:=(vi ay.fTo)) Tryz.isAgg3 ((I.atH q).sub (k:=1) (n:=1) (nb rfl))) (c7 (l1 Tryz.isAgg47 I rfl) ?_)))
  obtain ⟨aa,ba,r,h⟩:=h
  obtain ⟨cb,cc,ab,cd⟩:=b0a.addr r
  refine c5 (Y0 ab _ _ _ _ aa (b0a.lt aa r)) (c7 (ld1 (v:=(vB ba)) Tryz.isAgg4 (b0a.atW (I.bring 5) ab r)) (c5 (J7 _) ?_))
  refine m7 h (fun _ h=>?_) (fun _ h=>?_)
  ·refine c7 (l1 Tryz.isAgg87 (I.bring 3) rfl) ?_
   refine a4D (cap:=[(Value.pointer (some ⟨g1,0,none⟩)),(Value.pointer (some ⟨g2,0,none⟩)),(Value.pointer (some ⟨g3,0,none⟩)),(Value.pointer (some ⟨g4,0,none⟩)),(Value.pointer (some ⟨g5,0,none⟩))]) Tryz.call38 (h g1 g2 g3 g4 g5 b1k Fcp1l2 b1l Fcp5l2 b0a b5d) (((((((I.bring 6).bring 5).bring 5).bring 5).bring 5).bring 6).bring 6) ?_
   rintro _ bb _ ce bc _ _ ⟨cf,y0__106,cg,y1__106,sy0__106,Fy0__106,sy1__106,Fy1__106,rfl,rfl,hy0__106,hy1__106,h⟩
   exact hx3 _ _ (hj3 y0__106 y1__106 sy0__106 Fy0__106 sy1__106 Fy1__106 bb _ hy0__106 hy1__106 (((((((bc.bring 6).bring 2).bring 6).bring 6).bring 6).bring 6).bring 6) h)
  ·exact hx3 _ _ (hj3 a2u a3G b1k Fcp1l2 b1l Fcp5l2 H _ b0a b5d (((((((I.bring 6).bring 6).bring 6).bring 6).bring 6).bring 6).bring 6) h)
 ·exact hx1 _ _ (hj1 a2u a3G b1k Fcp1l2 b1l Fcp5l2 H _ b0a b5d (((((((I.bring 6).bring 6).bring 6).bring 6).bring 6).bring 6).bring 6) h)
def W3(a4j:(List Int))(a4L:Int)(a5l:Int)(H:Hp)(n1:((List Int)×Int×Int)→Hp→Prop)(K:(List Int)→Hp→Prop):Prop:=
 (a4L < a5l→
 (0:Int)≤a5l∧∃a:Int,(a4j)[(a5l:Int).toNat]? = some a∧
 (0:Int)≤a4L∧∃b:Int,(a4j)[(a4L:Int).toNat]? = some b∧
 (0:Int)≤a4L∧∃c:Int,(a4j)[(a4L:Int).toNat]? = some c∧
 (0:Int)≤a5l∧∃d:Int,(a4j.set (a4L:Int).toNat a)[(a5l:Int).toNat]? = some d∧
 n1 (((a4j.set (a4L:Int).toNat a).set (a5l:Int).toNat b),(IntKind.wrap .i64 (a4L+1)),(IntKind.wrap .i64 (a5l-1))) H)∧
 (¬(a4L < a5l)→
 K a4j H)
def a3H(x0:(List Int))(H:Hp)(K:(List Int)→Hp→Prop):Prop:=
 TL ((x0,0,(IntKind.wrap .i64 ((x0.length:Int)-1))):(List Int)×Int×Int) H fun(s:(List Int)×Int×Int) H n1=>W3 s.1 s.2.1 s.2.2 H n1 K
theorem b0b(x0){H K}(h:a3H x0 H K):a3q x0 H K:=by
 intro sx0 Fx0 hx0
 refine Ct.of fun w0 w ps0 H0 R E I hR=>c7E ?_
 unfold a3H at h
 unfold F39
 refine c5 (a6l Tryz.underlying44 hx0) (c5 pSu ?_)
 obtain ⟨d,c,ac,ad⟩:=h
 refine C1 (J:=fun n l w=>∃(s:(List Int)×Int×Int)(H:Hp)(Fs0l1:Frag),n=c s∧l=(match s with | (a4j,a4L,a5l)=>[(vi a4L),(vi a5l)])∧(match s with | (a4j,a4L,a5l)=>RowL 3 1 o3 sx0 a4j Fs0l1)∧(match s with | (a4j,a4L,a5l)=>Inv w0 ps0 H0 H [Fs0l1] w)∧d s H) ⟨_,(x0,0,(IntKind.wrap .i64 ((x0.length:Int)-1))),H,Fx0,rfl,rfl,hx0,I,ac⟩ ?_
 rintro aj ak w next1 ⟨⟨a4j,a4L,a5l⟩,H,Fs0l1,rfl,e,a7y,I,ae⟩ hn1
 dsimp only at e I a7y
 simp only [List.map_cons,List.map_nil,List.cons.injEq,and_true] at e
 obtain ⟨e2,e3⟩:=e
 simp only [e2,e3]
 obtain ⟨n1,hm1,h⟩:∃n1:((List Int)×Int×Int)→Hp→Prop,(∀s' H',n1 s' H'→d s' H'∧c s' < c (a4j,a4L,a5l))∧W3 a4j a4L a5l H n1 K:=⟨_,fun _ _ h=>h,ad (a4j,a4L,a5l) H (fun s' H'=>d s' H'∧c s' < c (a4j,a4L,a5l)) ae (fun _ _ a b=>⟨a,b⟩)⟩
 unfold c2t
 unfold W3 at h
 refine c5 pLs ?_
 refine d9 h (fun _ h=>?_) (fun _ h=>?_)
 ·refine I0 I fun al f=>?_
  obtain ⟨q,g,i,h⟩:=h
  obtain ⟨am,an,r,ao⟩:=a7y.addr i
  refine d5 (L4 r _ _ _ _ q (a7y.lt q i)) ?_
  obtain ⟨t,j,k,h⟩:=h
  obtain ⟨ap,aq,u,ar⟩:=a7y.addr k
  refine d5 (L4 u _ _ _ _ t (a7y.lt t k)) ?_
  refine j9 (ld1 (v:=(vi g)) Tryz.isAgg3 (a7y.atW f r i)) ?_
  refine j9 (ld1 (v:=(vi j)) Tryz.isAgg3 (a7y.atW f u k)) ?_
  obtain ⟨y,au,m,h⟩:=h
  obtain ⟨av,aw,z,ax⟩:=a7y.addr m
  refine d5 (L4 z _ _ _ _ y (a7y.lt y m)) ?_
  refine a1y (x:=g) f a7y z (List.getElem?_eq_some_iff.1 m).1 Tryz.sizeOf3 rfl fun ay az o af ba=>?_
  obtain ⟨aa,bb,p,h⟩:=h
  obtain ⟨bc,bd,ab,be⟩:=o.addr p
  refine d5 (L4 ab _ _ _ _ aa (o.lt aa p)) ?_
  refine a1y (x:=j) af o ab (List.getElem?_eq_some_iff.1 p).1 Tryz.sizeOf3 rfl fun ag bf ah ai bg=>?_
  refine c5 pAd (c5 pSu ?_)
  exact hn1 _ _ _ (hm1 _ _ h).2 ⟨(((a4j.set (a4L:Int).toNat g).set (a5l:Int).toNat j),(IntKind.wrap .i64 (a4L+1)),(IntKind.wrap .i64 (a5l-1))),H,ag,rfl,rfl,ah,ai,(hm1 _ _ h).1⟩
 ·exact hR _ H _ _ I ⟨a4j,Fs0l1,rfl,rfl,a7y,h⟩
def U6(H:Hp)(K:Bool→Hp→Prop):Prop:=
 K true H
def a0M(a5G:Sl)(a1o:Sl)(D3:Int)(H:Hp)(n2:Int→Hp→Prop)(K:Bool→Hp→Prop):Prop:=
 (D3 < (a5G.n:Int)→
 (0:Int)≤D3∧(D3:Int) < a5G.n∧∃a:j8,EltH H a5G D3 2 (i5 a)∧
 (0:Int)≤D3∧(D3:Int) < a1o.n∧∃b:j8,EltH H a1o D3 2 (i5 b)∧
 (¬(a.i7=b.i7∧a.E1=b.E1)→
 K false H)∧
 (a.i7=b.i7∧a.E1=b.E1→
 n2 (IntKind.wrap .i64 (D3+1)) H))∧
 (¬(D3 < (a5G.n:Int))→
 U6 H K)
def a2R(x0:Sl)(x1:Sl)(H:Hp)(K:Bool→Hp→Prop):Prop:=
 (¬((x0.n:Int)=(x1.n:Int))→
 K false H)∧
 ((x0.n:Int)=(x1.n:Int)→
 TL (0:Int) H fun(s:Int) H n2=>a0M x0 x1 s H n2 K)
theorem a9o(x0 x1){H K}(h:a2R x0 x1 H K):a2C x0 x1 H K:=by
 refine Ct.of fun w0 w ps0 H0 R E I hR=>c7x ?_
 unfold a2R at h
 unfold F32
 refine c5 (Y6 _ _ _) (c5 (Y6 _ _ _) (c5 pNe ?_))
 refine V5 h (fun _ h=>?_) (fun _ h=>?_)
 ·exact hR _ H _ _ I ⟨false,rfl,rfl,h⟩
 ·have hj1:∀H w (_:Inv w0 ps0 H0 H [] w) (_:U6 H K),b8r w R E:=by
   intro H w I h
   unfold b8r
   intro _
   unfold U6 at h
   exact hR _ H _ _ I ⟨true,rfl,rfl,h⟩
  refine o5 fun j1 hx1=>?_
  refine a0g (σ:=Int) (fun D3=>[(vi D3)]) (fun D3=>[]) h rfl I ?_
  rintro D3 H n w next2 n2 d I h hn2
  simp only [List.map_cons,List.map_nil,List.cons.injEq,and_true] at d
  have e5:=d
  simp only [e5]
  unfold c2p
  unfold a0M at h
  refine c5 (Y6 _ _ _) (c5 pLs ?_)
  refine d9 h (fun _ h=>?_) (fun _ h=>?_)
  ·refine I0 I fun o a=>?_
   obtain ⟨e,f,g,b,h⟩:=h
   obtain ⟨p,q,i,b⟩:=b
   refine d5 (a1U i _ _ _ _ e f) ?_
   obtain ⟨j,k,l,c,h⟩:=h
   obtain ⟨r,s,m,c⟩:=c
   refine d5 (a1U m _ _ _ _ j k) ?_
   refine j9 (ldA (vs:=(i5 g)) Tryz.isAgg70 Tryz.sizeOf70 rfl (a.atH b)) ?_
   refine j9 (ldA (vs:=(i5 l)) Tryz.isAgg70 Tryz.sizeOf70 rfl (a.atH c)) ?_
   refine d5 (c3y _ _ _ _ _ _) ?_
   refine V5 h (fun _ h=>?_) (fun _ h=>?_)
   ·exact hR _ H _ _ a ⟨false,rfl,rfl,h⟩
   ·refine c5 pAd ?_
    exact hn2 (IntKind.wrap .i64 (D3+1)) _ _ h a
  ·exact hx1 _ _ (hj1 H _ I h)
def a2S(x0:f3)(a:(List c8))(x1:Int)(H:Hp)(K:Int→f3→(List c8)→Hp→Prop):Prop:=
 K (IntKind.wrap .i64 ((x0.fc.p5.n:Int)+x1)) (f3.mk (d4.mk x0.fc.p5 (if (IntKind.wrap .i64 (x1+1)) > x0.fc.m3 then IntKind.wrap .i64 (x1+1) else x0.fc.m3) x0.fc.m2 x0.fc.c6 x0.fc.p9 (Sl.mk none 0 0)) x0.fvars x0.farrays) a H
theorem a9p(x0 a x1){H K}(h:a2S x0 a x1 H K):a2D x0 a x1 H K:=by
 intro g0 c d e
 refine Ct.of fun w0 w ps0 H0 R E I hR=>c5I ?_
 unfold a2S at h
 unfold c8t
 refine c5 (r8 _) (c5 N2 (c5 X0 (c7 (l1 Tryz.isAgg3 I rfl) (c5 pAd ?_))))
 refine c5 (c1F _ _ _ _ _) (c5 (r8 _) (c5 N2 (c5 X0 ?_)))
 refine L3 I Tryz.sizeOf3 fun f b g=>?_
 refine c5 (r8 _) (c5 N2 (c5 a0R (c7 (l1 Tryz.isAgg27 b rfl) (c5 (a1e _ _ _) ?_))))
 refine c5 pAd ?_
 exact hR _ H _ _ ((b.bring 1).bring 1) ⟨(IntKind.wrap .i64 ((x0.fc.p5.n:Int)+x1)),(f3.mk (d4.mk x0.fc.p5 (if (IntKind.wrap .i64 (x1+1)) > x0.fc.m3 then IntKind.wrap .i64 (x1+1) else x0.fc.m3) x0.fc.m2 x0.fc.c6 x0.fc.p9 (Sl.mk none 0 0)) x0.fvars x0.farrays),a,c,d,rfl,rfl,e,h⟩
def a1u(x0:f3)(a:(List c8))(x1:i6)(x2:Int)(H:Hp)(K:Int→Hp→Prop):Prop:=
 ((x0.fc.p5.n:Int)≤x1.r9→
 K (IntKind.wrap .i64 (x2+1)) H)∧
 (¬((x0.fc.p5.n:Int)≤x1.r9)→
 K x2 H)
theorem a8C(x0 b x1 x2){H K}(h:a1u x0 b x1 x2 H K):a1i x0 b x1 x2 H K:=by
 intro g0 d e f
 refine Ct.of fun w0 w ps0 H0 R E I hR=>c8o ?_
 unfold a1u at h
 unfold F99
 refine z6 I (cs:=(j6 x1)) rfl fun g i c j=>?_
 refine I0 c fun k a=>?_
 refine d5 a4V ?_
 refine d5 (r8 _) ?_
 refine d5 N2 ?_
 refine d5 a0R ?_
 refine j9 (l1 Tryz.isAgg3 a rfl) ?_
 refine j9 (l1 Tryz.isAgg27 (a.bring 1) rfl) ?_
 refine d5 (a1e _ _ _) ?_
 refine d5 pGe ?_
 refine d9 h (fun _ h=>?_) (fun _ h=>?_)
 ·refine c5 pAd ?_
  exact hR _ H _ _ ((a.drop.bring 1).bring 1) ⟨(IntKind.wrap .i64 (x2+1)),rfl,rfl,h⟩
 ·exact hR _ H _ _ ((a.drop.bring 1).bring 1) ⟨x2,rfl,rfl,h⟩
def a3I(x0:f3)(g:(List c8))(x1:Sl)(x2:Int)(x3:Int)(H:Hp)(K:i6→i6→Int→f3→(List c8)→Hp→Prop):Prop:=
 (0:Int)≤0∧(0:Int) < x1.n∧∃a:q8,EltH H x1 0 4 (m6 a)∧
 N7 (d6 x0) g a x2 x3 H (fun b i c d e=>
 (0:Int)≤1∧(1:Int) < x1.n∧∃f:q8,EltH e x1 1 4 (m6 f)∧
 a1i (d6 c) d b x3 e (fun j k=>
 N7 (d6 c) d f i j k (fun l m o p q=>
 K b l m (d6 o) p q)))
theorem b0c(x0 k x1 x2 x3){H K}(h:a3I x0 k x1 x2 x3 H K):S2 x0 k x1 x2 x3 H K:=by
 intro g0 o p q
 refine Ct.of fun w0 w ps0 H0 R E I hR=>c8c ?_
 unfold a3I at h
 unfold F68
 refine r5 I Tryz.zeroValue38 (cs:=[(vi 0),(vi 0)]) rfl fun r aw s ax=>?_
 refine r5 s Tryz.zeroValue38 (cs:=[(vi 0),(vi 0)]) rfl fun t ay l az=>?_
 obtain ⟨u,v,y,e,h⟩:=h
 obtain ⟨ba,bb,z,e⟩:=e
 refine c5 (a4m z _ _ _ _ u v) (c7 (ldA (vs:=(m6 y)) Tryz.isAgg123 Tryz.sizeOf123 rfl (l.atH e)) ?_)
 refine f9 Tryz.call98 (h g0 o p q) ((l.bring 3).bring 3) ?_
 rintro _ _ _ bc aa _ _ ⟨c,ab,ac,bd,f,g,rfl,rfl,m,h⟩
 refine c5 (m5 _ _ _ rfl) (c5 (m5 _ _ (vi ab) rfl) ?_)
 refine u1 (aa.bring 3) Tryz.sizeOf38 (vs:=(j6 c)) fun be ad bf=>?_
 refine I0 ad fun bg a=>?_
 obtain ⟨ae,af,ag,b,h⟩:=h
 obtain ⟨bh,bi,ah,b⟩:=b
 refine d5 (a4m ah _ _ _ _ ae af) ?_
 refine j9 (ldA (vs:=(m6 ag)) Tryz.isAgg123 Tryz.sizeOf123 rfl (a.atH b)) ?_
 refine j9 (lW Tryz.isAgg38 Tryz.sizeOf38 rfl a) ?_
 refine f9 Tryz.call99 (h g0 f g m) ((a.bring 2).bring 2) ?_
 rintro _ _ _ bj ai _ aj ⟨bk,rfl,rfl,h⟩
 refine ⟨(aj _ (a.a2r b) ((Inv.self (Fi:=[bx g0 68 (p7 ac f),g]) (Fr:=[bx r 38 (j6 c),bx t 38 [(vi 0),(vi 0)]]) ((a.bring 2).bring 2)).b5z b)),?_⟩
 refine f9 Tryz.call98 (h g0 f g m) ((ai.bring 1).bring 1) ?_
 rintro _ ak _ bl al _ _ ⟨i,n,am,an,ao,ap,rfl,rfl,aq,h⟩
 refine d5 (m5 _ _ _ rfl) ?_
 refine d5 (m5 _ _ (vi n) rfl) ?_
 refine u1 (al.bring 3) Tryz.sizeOf38 (vs:=(j6 i)) fun bm ar bn=>?_
 refine I0 ar fun bo d=>?_
 refine j9 (lW Tryz.isAgg38 Tryz.sizeOf38 rfl (d.bring 3)) ?_
 refine j9 (lW Tryz.isAgg38 Tryz.sizeOf38 rfl d) ?_
 refine u1 (d.bring 3) Tryz.sizeOf38 (vs:=(j6 c)) fun bp au av=>?_
 refine ⟨(av _ (Inv.b7w (d.bring 3))),?_⟩
 refine u1 (au.bring 1) Tryz.sizeOf38 (vs:=(j6 i)) fun bq j br=>?_
 refine S9 Tryz.isAgg38 Tryz.sizeOf38 rfl (j.bring 1) ?_
 refine S9 Tryz.isAgg38 Tryz.sizeOf38 rfl j ?_
 exact hR _ ak _ _ ((j.drop.drop.bring 1).bring 1) ⟨c,i,n,(d6 am),an,ao,ap,rfl,rfl,aq,h⟩
def a2T(x0:f3)(a:(List c8))(x1:u5)(x2:Int)(x3:Int)(H:Hp)(K:f3→(List c8)→Hp→Prop):Prop:=
 (x1.d3=1→
 ∃c:List (ByteArray×Int),MapH H (fun s:ByteArray=>Value.string s) (fun n:Int=>Value.int .i64 n) x0.fvars c∧
 (0:Int)≤0∧(0:Int) < x1.m8.n∧∃d:q8,EltH H x1.m8 0 4 (m6 d)∧
 a1j (d6 x0) a ((lk x1.i7 c).getD 0) d x2 x3 H (fun v y z=>
 K (d6 v) y z))∧
 (¬(x1.d3=1)→
 (x1.d3=2→
 J8 x2 x3 11 H (fun b e=>
 ∃f:List (ByteArray×Int),MapH e (fun s:ByteArray=>Value.string s) (fun n:Int=>Value.int .i64 n) x0.farrays f∧
 S2 (d6 x0) a x1.m8 x2 0 e (fun aa ab ac ad ae af=>
 A0 (d6 ad) ae (c8.mk ac b.fTo b.d3 b.O0 ((lk x1.i7 f).getD 0) b.fOp aa ab) af (fun ag ah ai=>
 K (d6 ag) ah ai))))∧
 (¬(x1.d3=2)→
 (x1.d3=3→
 O2 (d6 x0) a x1.O7 x3 H (fun g aj ak al=>
 O2 (d6 aj) ak x1.O8 x3 al (fun i am an j=>
 (0:Int)≤0∧(0:Int) < x1.z7.n∧∃k:v2,EltH j x1.z7 0 4 (o8 k)∧
 A7 (d6 am) an k x2 g i j (fun ao ap aq=>
 L5 (d6 ao) ap x1.O7 g x3 aq (fun ar au av=>
 L5 (d6 ar) au x1.O8 i x3 av (fun aw ax ay=>
 K (d6 aw) ax ay))))))∧
 (¬(x1.d3=3)→
 (x1.d3=4→
 O2 (d6 x0) a x1.O7 x2 H (fun l az ba m=>
 (0:Int)≤0∧(0:Int) < x1.z7.n∧∃o:v2,EltH m x1.z7 0 4 (o8 o)∧
 A7 (d6 az) ba o x2 l x3 m (fun bb bc bd=>
 L5 (d6 bb) bc x1.O7 l x2 bd (fun be bf bg=>
 K (d6 be) bf bg))))∧
 (¬(x1.d3=4)→
 (x1.d3=5→
 C0 (d6 x0) a H (fun p bh bi bj=>
 C0 (d6 bh) bi bj (fun q bk bl r=>
 (0:Int)≤0∧(0:Int) < x1.z7.n∧∃t:v2,EltH r x1.z7 0 4 (o8 t)∧
 A7 (d6 bk) bl t x2 p q r (fun bm bn bo=>
 J8 p x3 13 bo (fun bp bq=>
 A0 (d6 bm) bn bp bq (fun br bs bt=>
 J8 q x3 14 bt (fun bu bv=>
 A0 (d6 br) bs bu bv (fun bw bz ca=>
 K (d6 bw) bz ca))))))))∧
 (¬(x1.d3=5)→
 (x1.d3=6→
 (0:Int)≤0∧(0:Int) < x1.z7.n∧∃u:v2,EltH H x1.z7 0 4 (o8 u)∧
 A7 (d6 x0) a u x2 x3 x0.fc.p9 H (fun cb cc cd=>
 K (d6 cb) cc cd))∧
 (¬(x1.d3=6)→
 J8 x2 x3 1 H (fun ce cf=>
 A0 (d6 x0) a ce cf (fun cg ch ci=>
 K (d6 cg) ch ci))))))))
theorem a9q(x0 v x1 x2 x3){H K}(h:a2T x0 v x1 x2 x3 H K):a2E x0 v x1 x2 x3 H K:=by
 intro g0 c d e
 refine Ct.of fun w0 w ps0 H0 R E I hR=>c7K ?_
 unfold a2T at h
 unfold F45
 refine z6 I (cs:=(u4 x1)) rfl fun ey ez b fa=>?_
 refine c5 a7m (c7 (l1 Tryz.isAgg3 b rfl) (c5 pEq ?_))
 refine d9 h (fun _ h=>?_) (fun _ h=>?_)
 ·refine I0 b fun fb g=>?_
  refine d5 (r8 _) ?_
  refine d5 b1A ?_
  refine d5 a4e ?_
  refine d5 a7n ?_
  refine j9 (l1 Tryz.isAgg66 (g.bring 1) rfl) ?_
  refine j9 (l1 Tryz.isAgg9 g rfl) ?_
  obtain ⟨fc,ag,h⟩:=h
  refine b1y (keyS Tryz.underlying9) Tryz.underlying66 (z:=0) Tryz.zeroValue3 g ag x1.i7 ?_
  refine j9 (l1 Tryz.isAgg57 g rfl) ?_
  obtain ⟨ah,ai,aj,l,h⟩:=h
  obtain ⟨fd,fe,ak,l⟩:=l
  refine d5 (a4m ak _ _ _ _ ah ai) ?_
  refine j9 (ldA (vs:=(m6 aj)) Tryz.isAgg123 Tryz.sizeOf123 rfl (g.atH l)) ?_
  refine f9 Tryz.call66 (h g0 c d e) ((g.bring 2).bring 2) ?_
  rintro _ al _ ff am _ _ ⟨an,ao,ap,aq,rfl,rfl,ar,h⟩
  exact hR _ al _ _ (((am.bring 2).drop.bring 1).bring 1) ⟨(d6 an),ao,ap,aq,rfl,rfl,ar,h⟩
 ·refine c5 pEq ?_
  refine d9 h (fun _ h=>?_) (fun _ h=>?_)
  ·refine f9 Tryz.call67 h b ?_
   rintro _ _ _ fg au _ _ ⟨a,rfl,rfl,h⟩
   refine r5 au Tryz.zeroValue40 (cs:=[(vi 0),(vi 0),(vi 0),(vi 0),(vi 0),(vi 0),(vi 0),(vi 0),(vi 0),(vi 0)]) rfl fun fh fi av fj=>?_
   refine u1 av Tryz.sizeOf40 (vs:=(f7 a)) fun fk aw fl=>?_
   refine I0 aw fun fm j=>?_
   refine d5 (r8 _) ?_
   refine d5 b1B ?_
   refine d5 a4e ?_
   refine j9 (l1 Tryz.isAgg66 (j.bring 2) rfl) ?_
   refine j9 (l1 Tryz.isAgg9 (j.bring 1) rfl) ?_
   obtain ⟨m,ax,h⟩:=h
   refine b1y (keyS Tryz.underlying9) Tryz.underlying66 (z:=0) Tryz.zeroValue3 j ax x1.i7 ?_
   refine d5 a4S ?_
   refine L3 j Tryz.sizeOf3 fun fn y fo=>?_
   refine c5 a7n (c7 (l1 Tryz.isAgg57 (y.bring 1) rfl) ?_)
   refine f9 Tryz.call68 (h g0 c d e) ((y.bring 3).bring 3) ?_
   rintro _ _ _ fp ay _ _ ⟨f,i,aa,fq,fs,az,ba,rfl,rfl,bb,h⟩
   refine c5 (m5 _ _ _ rfl) (c5 (m5 _ _ _ rfl) (c5 (m5 _ _ (vi aa) rfl) (c5 X1 ?_)))
   refine a3e (ay.bring 2) Tryz.sizeOf38 (vs:=(j6 f)) (cs':=[(vi a.o4),(vi a.fTo),(vi a.d3),(vi a.O0),(vi ((lk x1.i7 m).getD 0)),(vi a.fOp),(vi f.r9),(vi f.p6),(vi a.fB.r9),(vi a.fB.p6)]) rfl rfl (nb rfl) rfl rfl fun ft bc fu=>?_
   refine c5 a0S ?_
   refine a3e bc Tryz.sizeOf38 (vs:=(j6 i)) (cs':=[(vi a.o4),(vi a.fTo),(vi a.d3),(vi a.O0),(vi ((lk x1.i7 m).getD 0)),(vi a.fOp),(vi f.r9),(vi f.p6),(vi i.r9),(vi i.p6)]) rfl rfl (nb rfl) rfl rfl fun fv bd fw=>?_
   refine c5 K2 ?_
   refine L3 bd Tryz.sizeOf3 fun fx ab fy=>?_
   refine c7 (ldA Tryz.isAgg40 Tryz.sizeOf40 rfl (ab.at1 (o:=0) (vs:=[(vi aa),(vi a.fTo),(vi a.d3),(vi a.O0),(vi ((lk x1.i7 m).getD 0)),(vi a.fOp),(vi f.r9),(vi f.p6),(vi i.r9),(vi i.p6)]) (nb rfl) rfl)) ?_
   refine f9 Tryz.call69 (h g0 az ba bb) ((ab.bring 2).bring 2) ?_
   rintro _ be _ fz bf _ _ ⟨bg,bh,bi,bj,rfl,rfl,bk,h⟩
   exact hR _ be _ _ ((((bf.bring 2).drop.bring 2).drop.bring 1).bring 1) ⟨(d6 bg),bh,bi,bj,rfl,rfl,bk,h⟩
  ·refine c5 pEq ?_
   refine d9 h (fun _ h=>?_) (fun _ h=>?_)
   ·refine c5 a4T (c7 (l1 Tryz.isAgg23 b rfl) ?_)
    refine f9 Tryz.call70 (h g0 c d e) ((b.bring 2).bring 2) ?_
    rintro _ _ _ ga ac _ _ ⟨gb,gc,gd,bl,bm,rfl,rfl,bn,h⟩
    refine c5 a6p (c7 (l1 Tryz.isAgg23 (ac.bring 2) rfl) ?_)
    refine f9 Tryz.call70 (h g0 bl bm bn) ((ac.bring 1).bring 1) ?_
    rintro _ _ _ ge n _ _ ⟨gf,gg,gh,bo,bp,rfl,rfl,bq,h⟩
    refine c5 a4U (c7 (l1 Tryz.isAgg58 (n.bring 2) rfl) ?_)
    obtain ⟨br,bs,bt,p,h⟩:=h
    obtain ⟨gi,gj,bu,p⟩:=p
    refine c5 (a1V bu _ _ _ _ br bs) (c7 (ldA (vs:=(o8 bt)) Tryz.isAgg131 Tryz.sizeOf131 rfl (n.atH p)) ?_)
    refine f9 Tryz.call71 (h g0 bo bp bq) ((n.bring 1).bring 1) ?_
    rintro _ _ _ gk ad _ _ ⟨gl,gm,bv,bw,rfl,rfl,bz,h⟩
    refine c5 a4T (c7 (l1 Tryz.isAgg23 (ad.bring 2) rfl) ?_)
    refine f9 Tryz.call24 (h g0 bv bw bz) ((ad.bring 1).bring 1) ?_
    rintro _ _ _ gn ae _ _ ⟨go,gp,ca,cb,rfl,rfl,cc,h⟩
    refine c5 a6p (c7 (l1 Tryz.isAgg23 (ae.bring 2) rfl) ?_)
    refine f9 Tryz.call24 (h g0 ca cb cc) ((ae.bring 1).bring 1) ?_
    rintro _ cd _ gq ce _ _ ⟨cf,cg,ch,ci,rfl,rfl,cj,h⟩
    exact hR _ cd _ _ (((ce.bring 2).drop.bring 1).bring 1) ⟨(d6 cf),cg,ch,ci,rfl,rfl,cj,h⟩
   ·refine c5 pEq ?_
    refine d9 h (fun _ h=>?_) (fun _ h=>?_)
    ·refine c5 a4T (c7 (l1 Tryz.isAgg23 b rfl) ?_)
     refine f9 Tryz.call70 (h g0 c d e) ((b.bring 2).bring 2) ?_
     rintro _ _ _ gr q _ _ ⟨gs,gt,gu,ck,cl,rfl,rfl,cm,h⟩
     refine c5 a4U (c7 (l1 Tryz.isAgg58 (q.bring 2) rfl) ?_)
     obtain ⟨cn,co,cp,r,h⟩:=h
     obtain ⟨gv,gw,cq,r⟩:=r
     refine c5 (a1V cq _ _ _ _ cn co) (c7 (ldA (vs:=(o8 cp)) Tryz.isAgg131 Tryz.sizeOf131 rfl (q.atH r)) ?_)
     refine f9 Tryz.call71 (h g0 ck cl cm) ((q.bring 1).bring 1) ?_
     rintro _ _ _ gx af _ _ ⟨gy,gz,cr,ct,rfl,rfl,cu,h⟩
     refine c5 a4T (c7 (l1 Tryz.isAgg23 (af.bring 2) rfl) ?_)
     refine f9 Tryz.call24 (h g0 cr ct cu) ((af.bring 1).bring 1) ?_
     rintro _ cv _ ha cw _ _ ⟨cx,cy,cz,da,rfl,rfl,db,h⟩
     exact hR _ cv _ _ (((cw.bring 2).drop.bring 1).bring 1) ⟨(d6 cx),cy,cz,da,rfl,rfl,db,h⟩
    ·refine c5 pEq ?_
     refine d9 h (fun _ h=>?_) (fun _ h=>?_)
     ·refine f9 Tryz.call23 (h g0 c d e) ((b.bring 2).bring 2) ?_
      rintro _ _ _ hb dc _ _ ⟨hc,hd,he,dd,de,rfl,rfl,df,h⟩
      refine f9 Tryz.call23 (h g0 dd de df) ((dc.bring 1).bring 1) ?_
      rintro _ _ _ hf s _ _ ⟨hg,hh,hi,dg,dh,rfl,rfl,di,h⟩
      refine c5 a4U (c7 (l1 Tryz.isAgg58 (s.bring 2) rfl) ?_)
      obtain ⟨dj,dk,dl,t,h⟩:=h
      obtain ⟨hj,hk,dm,t⟩:=t
      refine c5 (a1V dm _ _ _ _ dj dk) (c7 (ldA (vs:=(o8 dl)) Tryz.isAgg131 Tryz.sizeOf131 rfl (s.atH t)) ?_)
      refine f9 Tryz.call71 (h g0 dg dh di) ((s.bring 1).bring 1) ?_
      rintro _ _ _ hl dn _ _ ⟨hm,hn,dp,dq,rfl,rfl,dr,h⟩
      refine f9 Tryz.call67 h dn ?_
      rintro _ _ _ ho ds _ _ ⟨hp,rfl,rfl,h⟩
      refine f9 Tryz.call69 (h g0 dp dq dr) ((ds.bring 1).bring 1) ?_
      rintro _ _ _ hq dt _ _ ⟨hr,hs,du,dv,rfl,rfl,dw,h⟩
      refine f9 Tryz.call67 h dt ?_
      rintro _ _ _ ht dx _ _ ⟨hu,rfl,rfl,h⟩
      refine f9 Tryz.call69 (h g0 du dv dw) ((dx.bring 1).bring 1) ?_
      rintro _ dy _ hv dz _ _ ⟨ea,eb,ec,ed,rfl,rfl,ee,h⟩
      exact hR _ dy _ _ (((dz.bring 2).drop.bring 1).bring 1) ⟨(d6 ea),eb,ec,ed,rfl,rfl,ee,h⟩
     ·refine c5 pEq ?_
      refine d9 h (fun _ h=>?_) (fun _ h=>?_)
      ·refine I0 b fun hw k=>?_
       refine d5 a4U ?_
       refine d5 (r8 _) ?_
       refine d5 N2 ?_
       refine d5 a0j ?_
       refine j9 (l1 Tryz.isAgg58 k rfl) ?_
       obtain ⟨ef,eg,eh,u,h⟩:=h
       obtain ⟨hx,hy,ei,u⟩:=u
       refine d5 (a1V ei _ _ _ _ ef eg) ?_
       refine j9 (ldA (vs:=(o8 eh)) Tryz.isAgg131 Tryz.sizeOf131 rfl (k.atH u)) ?_
       refine j9 (l1 Tryz.isAgg3 (k.bring 1) rfl) ?_
       refine f9 Tryz.call71 (h g0 c d e) ((k.bring 2).bring 2) ?_
       rintro _ ej _ hz ek _ _ ⟨el,em,en,eo,rfl,rfl,ep,h⟩
       exact hR _ ej _ _ (((ek.bring 2).drop.bring 1).bring 1) ⟨(d6 el),em,en,eo,rfl,rfl,ep,h⟩
      ·refine f9 Tryz.call67 h b ?_
       rintro _ _ _ ia eq _ _ ⟨ib,rfl,rfl,h⟩
       refine f9 Tryz.call69 (h g0 c d e) ((eq.bring 2).bring 2) ?_
       rintro _ er _ ic es _ _ ⟨et,eu,ev,ew,rfl,rfl,ex,h⟩
       exact hR _ er _ _ (((es.bring 2).drop.bring 1).bring 1) ⟨(d6 et),eu,ev,ew,rfl,rfl,ex,h⟩
def a5m(x0:u5)(H:Hp)(K:d7→Hp→Prop):Prop:=
 K (d7.E0 (O9.mk x0)) H
theorem b1T(x0){H K}(h:a5m x0 H K):a7s x0 H K:=by
 refine Ct.of fun w0 w ps0 H0 R E I hR=>c5O ?_
 unfold a5m at h
 unfold c8z
 refine z6 I (cs:=(u4 x0)) rfl fun b c a d=>?_
 refine c7 (lW Tryz.isAgg60 Tryz.sizeOf60 rfl a) (c5 (b7R _ _ _ _ _ _ _ _ _ _ _ _ _ _) (c5 (b5F (O9.mk x0)) ?_))
 exact hR _ H _ _ a.drop ⟨(d7.E0 (O9.mk x0)),rfl,rfl,h⟩
def C8(d1I:Sl)(b6l:Int)(c9b:Sl)(c4Y:Int)(c1b:Int)(H:Hp)(n4:(Int×Int)→Hp→Prop)(K:Sl→Hp→Prop):Prop:=
 n4 (b6l,(IntKind.wrap .i64 (c1b+1))) H
def C9(a7w:(List d7))(H:Hp)(K:Sl→Hp→Prop):Prop:=
 ∀(a8n:Sl)(a:Hp),Hle H a→SlH a 1 t6 a8n a7w→a8n.n≤a8n.c→
 K a8n a
def D1(c4Z:Sl)(c5a:Int)(a5n:(List d7))(a4y:Int)(H:Hp)(n3:((List d7)×Int)→Hp→Prop)(K:Sl→Hp→Prop):Prop:=
 (a4y < c5a→
 (0:Int)≤a4y∧(a4y:Int) < c4Z.n∧∃b:Sl,EltH H c4Z a4y 1 [(vs b)]∧
 ∃a:List d7,SlH H 1 t6 b a∧(a5n.length+a.length)*17≤140737488355328∧
 n3 ((a5n++a),(IntKind.wrap .i64 (a4y+1))) H)∧
 (¬(a4y < c5a)→
 C9 a5n H K)
def D2(b8Z:Sl)(a8R:Int)(H:Hp)(K:Sl→Hp→Prop):Prop:=
 O3 a8R H (fun a b=>
 TL ((a,0):(List d7)×Int) b fun(s:(List d7)×Int) H n3=>D1 b8Z (b8Z.n:Int) s.1 s.2 H n3 K)
def J5(c9k:Sl)(a1q:Sl)(c1c:Int)(b0T:Int)(a6u:Int)(H:Hp)(n4:(Int×Int)→Hp→Prop)(K:Sl→Hp→Prop):Prop:=
 (a6u < c1c→
 (0:Int)≤a6u∧(a6u:Int) < a1q.n∧∃a:Sl,EltH H a1q a6u 1 [(vs a)]∧
 ((IntKind.wrap .i64 (b0T+(a.n:Int))) < 0→
 False)∧
 (¬((IntKind.wrap .i64 (b0T+(a.n:Int))) < 0)→
 C8 c9k (IntKind.wrap .i64 (b0T+(a.n:Int))) a1q c1c a6u H n4 K))∧
 (¬(a6u < c1c)→
 D2 c9k b0T H K)
def K8(x0:Sl)(H:Hp)(K:Sl→Hp→Prop):Prop:=
 TL ((0,0):Int×Int) H fun(s:Int×Int) H n4=>J5 x0 x0 (x0.n:Int) s.1 s.2 H n4 K
theorem a3h(x0){H K}(h:K8 x0 H K):B7 x0 H K:=by
 refine Ct.of fun w0 w ps0 H0 R E I hR=>c5K ?_
 unfold K8 at h
 unfold c8v
 have hj1:∀(a8R:Int) H w (_:Inv w0 ps0 H0 H [] w) (_:D2 x0 a8R H K),b5L (vs x0) (vi a8R) w R E:=by
  intro a8R H w I h
  unfold b5L
  intro _
  unfold D2 at h
  refine f9 Tryz.call126 h I ?_
  rintro _ m _ au o _ _ ⟨p,q,r,rfl,rfl,t,h⟩
  have hj2:∀(a7w:(List d7))(a8n:Sl)(Fs6j2:Frag) H w (_:RowL 182 1 t6 a8n a7w Fs6j2) (_:Inv w0 ps0 H0 H [Fs6j2] w) (_:C9 a7w H K),b5K (vs a8n) w R E:=by
   intro a7w a8n Fs6j2 H w c0Z I h
   unfold b5K
   intro _
   unfold C9 at h
   obtain ⟨j,u,y,z,aa⟩:=Inv.freezeC I c0Z (by decide)
   replace h:=h a8n j y z aa
   exact hR _ j _ _ u ⟨a8n,rfl,rfl,h⟩
  refine o5 fun j2 hx2=>?_
  refine c5 (b4R _ _ _) ?_
  obtain ⟨d,c,ab,ac⟩:=h
  refine C1 (J:=fun n l w=>∃(s:(List d7)×Int)(H:Hp)(b5g:Sl)(Fs6l3:Frag),n=c s∧l=(match s with | (a5n,a4y)=>[(vs b5g),(vi a4y)])∧(match s with | (a5n,a4y)=>RowL 182 1 t6 b5g a5n Fs6l3)∧(match s with | (a5n,a4y)=>Inv w0 ps0 H0 H [Fs6l3] w)∧d s H) ⟨_,(p,0),m,q,r,rfl,rfl,t,o,ab⟩ ?_
  rintro av aw w next3 ⟨⟨a5n,a4y⟩,H,b5g,Fs6l3,rfl,e,c1d,I,ad⟩ hn3
  dsimp only at e I c1d
  simp only [List.map_cons,List.map_nil,List.cons.injEq,and_true] at e
  obtain ⟨e6,e27⟩:=e
  simp only [e6,e27]
  obtain ⟨n3,hm3,h⟩:∃n3:((List d7)×Int)→Hp→Prop,(∀s' H',n3 s' H'→d s' H'∧c s' < c (a5n,a4y))∧D1 x0 (x0.n:Int) a5n a4y H n3 K:=⟨_,fun _ _ h=>h,ac (a5n,a4y) H (fun s' H'=>d s' H'∧c s' < c (a5n,a4y)) ad (fun _ _ a b=>⟨a,b⟩)⟩
  unfold c0a
  unfold D1 at h
  refine c5 pLs ?_
  refine d9 h (fun _ h=>?_) (fun _ h=>?_)
  ·obtain ⟨ae,af,ag,f,h⟩:=h
   obtain ⟨ax,ay,ah,f⟩:=f
   refine c5 (b6C ah _ _ _ _ ae af) (c7 (ld1 (v:=(vs ag)) Tryz.isAgg179 (I.atH f)) ?_)
   obtain ⟨ai,aj,h⟩:=h
   obtain ⟨ak,h⟩:=h
   refine b1a (s:=b5g) (xs:=a5n) I c1d (SlH.src I aj N5) ak fun al am az an ao ba=>?_
   refine c5 pAd ?_
   exact hn3 _ _ _ (hm3 _ _ h).2 ⟨((a5n++ai),(IntKind.wrap .i64 (a4y+1))),H,al,am,rfl,rfl,an,ao,(hm3 _ _ h).1⟩
  ·exact hx2 _ _ (hj2 a5n b5g Fs6l3 H _ c1d I h)
 refine o5 fun j1 hx1=>?_
 refine c5 (b4R _ _ _) ?_
 refine a0g (σ:=Int×Int) (fun (b0T,a6u)=>[(vi b0T),(vi a6u)]) (fun (b0T,a6u)=>[]) h rfl I ?_
 rintro ⟨b0T,a6u⟩ H bb w next4 n4 g I h hn4
 dsimp only at g I h
 simp only [List.map_cons,List.map_nil,List.cons.injEq,and_true] at g
 obtain ⟨e3,e11⟩:=g
 simp only [e3,e11]
 unfold c0b
 unfold J5 at h
 refine c5 pLs ?_
 refine d9 h (fun _ h=>?_) (fun _ h=>?_)
 ·have hj5:∀(b6l:Int) H w (_:Inv w0 ps0 H0 H [] w) (_:C8 x0 b6l x0 (x0.n:Int) a6u H n4 K),b5M (vs x0) (vi b6l) (vs x0) (vi (x0.n:Int)) (vi a6u) w next4 R E:=by
   intro b6l H w I h
   unfold b5M
   intro _
   unfold C8 at h
   refine c5 pAd ?_
   exact hn4 (b6l,(IntKind.wrap .i64 (a6u+1))) _ _ h I
  refine o5 fun j5 hx5=>?_
  obtain ⟨ap,aq,k,i,h⟩:=h
  obtain ⟨bc,bd,ar,i⟩:=i
  refine c5 (b6C ar _ _ _ _ ap aq) (c7 (ld1 (v:=(vs k)) Tryz.isAgg179 (I.atH i)) (c5 (a9f _ _ _) (c5 pAd (c5 pLs ?_))))
  refine d9 h (fun _ h=>?_) (fun _ h=>?_)
  ·refine c5 (c1W _) ?_
   exact h.elim
  ·exact hx5 _ _ (hj5 (IntKind.wrap .i64 (b0T+(k.n:Int))) H _ I h)
 ·exact hx1 _ _ (hj1 b0T H _ I h)
def a0e(x0:(List ByteArray))(x1:ByteArray)(H:Hp)(K:Bool→Hp→Prop):Prop:=
 a0E x0 x1 H (fun a b=>
 K (decide (0≤a)) b)
theorem a7j(x0 x1){H K}(h:a0e x0 x1 H K):P5 x0 x1 H K:=by
 intro sx0 Fx0 hx0
 refine Ct.of fun w0 w ps0 H0 R E I hR=>c5U ?_
 unfold a0e at h
 unfold c8F
 refine f9 Tryz.call135 (h sx0 Fx0 hx0) I ?_
 rintro _ a _ d b _ _ ⟨c,rfl,rfl,h⟩
 refine c5 pGe ?_
 exact hR _ a _ _ b ⟨(decide (0≤c)),rfl,rfl,h⟩
def U7(c5b:Sl)(b4T:Int)(d:q8)(T2:Int)(J4:(List f8))(H:Hp)(n2:(Int×(List f8))→Hp→Prop)(K:i8→(List f8)→Hp→Prop):Prop:=
 (T2 < b4T→
 (0:Int)≤T2∧(T2:Int) < c5b.n∧∃a:q8,EltH H c5b T2 4 (m6 a)∧
 Q6 (i8.mk (Sl.mk none 0 0)) J4 a H (fun e b c=>
 n2 ((IntKind.wrap .i64 (T2+1)),b) c))∧
 (¬(T2 < b4T)→
 K (i8.mk (Sl.mk none 0 0)) J4 H)
def F1(a0J:(List f8))(a:q8)(H:Hp)(K:i8→(List f8)→Hp→Prop):Prop:=
 TL ((0,a0J):Int×(List f8)) H fun(s:Int×(List f8)) H n2=>U7 a.D5 (a.D5.n:Int) a s.1 s.2 H n2 K
def a2U(x0:i8)(a:(List f8))(x1:q8)(H:Hp)(K:i8→(List f8)→Hp→Prop):Prop:=
 (x1.d3=2→
 (a.length+([(f8.mk x1.i7 1)]:List f8).length)*25≤140737488355328∧
 F1 (a++[(f8.mk x1.i7 1)]) x1 H K)∧
 (¬(x1.d3=2)→
 (x1.d3=4→
 (a.length+([(f8.mk x1.i7 2)]:List f8).length)*25≤140737488355328∧
 F1 (a++[(f8.mk x1.i7 2)]) x1 H K)∧
 (¬(x1.d3=4)→
 F1 a x1 H K))
theorem a9r(x0 d x1){H K}(h:a2U x0 d x1 H K):Q6 x0 d x1 H K:=by
 intro g0 k ab m
 refine Ct.of fun w0 w ps0 H0 R E I hR=>c5G ?_
 unfold a2U at h
 unfold c8r
 refine z6 I (cs:=(m6 x1)) rfl fun o bf g bg=>?_
 have hj1:∀(a0J:(List f8))(a5g:Sl)(a5h:Frag) H w (_:RowL 158 2 z8 a5g a0J a5h) (_:Inv w0 ps0 H0 H [bx g0 155 [(vs a5g)],bx o 123 (m6 x1),a5h] w) (_:F1 a0J x1 H K),b5I (Value.pointer (some ⟨g0,0,none⟩)) (Value.pointer (some ⟨o,0,none⟩)) w R E:=by
  intro a0J a5g a5h H w b4r I h
  unfold b5I
  intro _
  unfold F1 at h
  refine c5 a3b (c7 (l1 Tryz.isAgg57 (I.bring 1) rfl) (c5 (a4Q _ _ _) ?_))
  obtain ⟨p,f,ac,ad⟩:=h
  refine C1 (J:=fun n l w=>∃(s:Int×(List f8))(H:Hp)(a3C:Sl)(a3D:Frag),n=f s∧l=(match s with | (T2,J4)=>[(vi T2)])∧(match s with | (T2,J4)=>RowL 158 2 z8 a3C J4 a3D)∧(match s with | (T2,J4)=>Inv w0 ps0 H0 H [bx g0 155 [(vs a3C)],bx o 123 (m6 x1),a3D] w)∧p s H) ⟨_,(0,a0J),H,a5g,a5h,rfl,rfl,b4r,(((I.bring 2).bring 2).bring 2),ac⟩ ?_
  rintro bh bi w next2 ⟨⟨T2,J4⟩,H,a3C,a3D,rfl,q,a6Z,I,ae⟩ hn2
  dsimp only at q I a6Z
  simp only [List.map_cons,List.map_nil,List.cons.injEq,and_true] at q
  have e39:=q
  simp only [e39]
  obtain ⟨n2,hm2,h⟩:∃n2:(Int×(List f8))→Hp→Prop,(∀s' H',n2 s' H'→p s' H'∧f s' < f (T2,J4))∧U7 x1.D5 (x1.D5.n:Int) x1 T2 J4 H n2 K:=⟨_,fun _ _ h=>h,ad (T2,J4) H (fun s' H'=>p s' H'∧f s' < f (T2,J4)) ae (fun _ _ a b=>⟨a,b⟩)⟩
  unfold b9Z
  unfold U7 at h
  refine c5 pLs ?_
  refine d9 h (fun _ h=>?_) (fun _ h=>?_)
  ·obtain ⟨af,ag,t,r,h⟩:=h
   obtain ⟨bj,bk,ah,r⟩:=r
   refine c5 (a4m ah _ _ _ _ af ag) (c7 (ldA (vs:=(m6 t)) Tryz.isAgg123 Tryz.sizeOf123 rfl (I.atH r)) ?_)
   refine r5 I Tryz.zeroValue123 (cs:=[(vi 0),(vi 0),(eS),(nS)]) rfl fun bl bm ai bn=>?_
   refine u1 ai Tryz.sizeOf123 (vs:=(m6 t)) fun bo u bp=>?_
   refine c7 (lW Tryz.isAgg123 Tryz.sizeOf123 rfl u) ?_
   refine f9 Tryz.call109 (h g0 a3C a3D a6Z) ((u.bring 3).bring 2) ?_
   rintro _ aj _ bq ak _ _ ⟨br,al,am,an,rfl,rfl,ao,h⟩
   refine c5 pAd ?_
   exact hn2 _ _ _ (hm2 _ _ h).2 ⟨((IntKind.wrap .i64 (T2+1)),al),aj,am,an,rfl,rfl,ao,((((ak.bring 2).drop.bring 1).bring 2).bring 2),(hm2 _ _ h).1⟩
  ·exact hR _ H _ _ (((I.bring 1).drop.bring 1).bring 1) ⟨(i8.mk (Sl.mk none 0 0)),J4,a3C,a3D,rfl,rfl,a6Z,h⟩
 refine o5 fun j1 hx1=>?_
 refine c5 W6 (c7 (l1 Tryz.isAgg3 g rfl) (c5 pEq ?_))
 refine d9 h (fun _ h=>?_) (fun _ h=>?_)
 ·refine I0 g fun bs i=>?_
  refine d5 (r8 _) ?_
  refine d5 a0T ?_
  refine d5 a5B ?_
  refine j9 (l1 Tryz.isAgg153 (i.bring 1) rfl) ?_
  refine j9 (l1 Tryz.isAgg9 i rfl) ?_
  refine d5 (a6q _ _) ?_
  refine X9 (e:=158) (c:=z8) (xs:=[(f8.mk x1.i7 1)]) i (b1D _ _) rfl rfl a5u a5v (nb rfl) fun bt bu bv ap v aq=>?_
  refine ⟨(aq _ (i.bring 1).lt1),?_⟩
  obtain ⟨ar,h⟩:=h
  refine b3m (s:=k) (xs:=d) (v.bring 3) m (ap.srcO ((v.bring 3).bring 1)) ar fun y au bw av aw bz=>?_
  refine d5 (r8 _) ?_
  refine d5 a0T ?_
  refine u1 ((aw.bring 1).drop.bring 2) Tryz.sizeOf153 (vs:=[(vs y)]) fun ca ax cb=>?_
  exact hx1 _ _ (hj1 (d++[(f8.mk x1.i7 1)]) y au H _ av (((ax.bring 1).bring 2).bring 2) h)
 ·refine c5 pEq ?_
  refine d9 h (fun _ h=>?_) (fun _ h=>?_)
  ·refine I0 g fun cc j=>?_
   refine d5 (r8 _) ?_
   refine d5 a0T ?_
   refine d5 a5B ?_
   refine j9 (l1 Tryz.isAgg153 (j.bring 1) rfl) ?_
   refine j9 (l1 Tryz.isAgg9 j rfl) ?_
   refine d5 (a6q _ _) ?_
   refine X9 (e:=158) (c:=z8) (xs:=[(f8.mk x1.i7 2)]) j (b1D _ _) rfl rfl a5u a5v (nb rfl) fun cd ce cf ay z az=>?_
   refine ⟨(az _ (j.bring 1).lt1),?_⟩
   obtain ⟨ba,h⟩:=h
   refine b3m (s:=k) (xs:=d) (z.bring 3) m (ay.srcO ((z.bring 3).bring 1)) ba fun aa bb cg bc bd ch=>?_
   refine d5 (r8 _) ?_
   refine d5 a0T ?_
   refine u1 ((bd.bring 1).drop.bring 2) Tryz.sizeOf153 (vs:=[(vs aa)]) fun ci be cj=>?_
   exact hx1 _ _ (hj1 (d++[(f8.mk x1.i7 2)]) aa bb H _ bc (((be.bring 1).bring 2).bring 2) h)
  ·exact hx1 _ _ (hj1 d k ab H _ m (((g.bring 2).bring 1).bring 2) h)
def R0(d1F:Sl)(a9h:Int)(b0A:Int)(a7S:(List f8))(H:Hp)(n1:(Int×(List f8))→Hp→Prop)(K:i8→(List f8)→Hp→Prop):Prop:=
 n1 ((IntKind.wrap .i64 (b0A+1)),a7S) H
def R1(c4Y:Sl)(c1b:Int)(d0c:Int)(b0d:(List f8))(a:u5)(H:Hp)(n1:(Int×(List f8))→Hp→Prop)(K:i8→(List f8)→Hp→Prop):Prop:=
 P4 (i8.mk (Sl.mk none 0 0)) b0d a.O7 H (fun f b c=>
 P4 (i8.mk (Sl.mk none 0 0)) b a.O8 c (fun g d e=>
 R0 c4Y c1b d0c d e n1 K))
def R2(d0d:Sl)(d0e:Int)(d0f:Int)(c5c:Sl)(c5d:Int)(b:u5)(a4z:Int)(a2l:(List f8))(H:Hp)(n1:(Int×(List f8))→Hp→Prop)(n6:(Int×(List f8))→Hp→Prop)(K:i8→(List f8)→Hp→Prop):Prop:=
 (a4z < c5d→
 (0:Int)≤a4z∧(a4z:Int) < c5c.n∧∃a:q8,EltH H c5c a4z 4 (m6 a)∧
 Q6 (i8.mk (Sl.mk none 0 0)) a2l a H (fun e c d=>
 n6 ((IntKind.wrap .i64 (a4z+1)),c) d))∧
 (¬(a4z < c5d)→
 R1 d0d d0e d0f a2l b H n1 K)
def R3(d0g:Sl)(d0h:Int)(a8k:Int)(a7T:(List f8))(a:u5)(H:Hp)(n1:(Int×(List f8))→Hp→Prop)(K:i8→(List f8)→Hp→Prop):Prop:=
 TL ((0,a7T):Int×(List f8)) H fun(s:Int×(List f8)) H n6=>R2 d0g d0h a8k a.m8 (a.m8.n:Int) a s.1 s.2 H n1 n6 K
def R4(d0i:Sl)(d0j:Int)(d0k:Int)(c5e:Sl)(c5f:Int)(b:u5)(a4A:Int)(a2m:(List f8))(H:Hp)(n1:(Int×(List f8))→Hp→Prop)(n7:(Int×(List f8))→Hp→Prop)(K:i8→(List f8)→Hp→Prop):Prop:=
 (a4A < c5f→
 (0:Int)≤a4A∧(a4A:Int) < c5e.n∧∃a:v2,EltH H c5e a4A 4 (o8 a)∧
 Z7 (i8.mk (Sl.mk none 0 0)) a2m a H (fun e c d=>
 n7 ((IntKind.wrap .i64 (a4A+1)),c) d))∧
 (¬(a4A < c5f)→
 R3 d0i d0j d0k a2m b H n1 K)
def D9(d0l:Sl)(b0E:Int)(a1A:Int)(a7U:(List f8))(a:u5)(H:Hp)(n1:(Int×(List f8))→Hp→Prop)(K:i8→(List f8)→Hp→Prop):Prop:=
 TL ((0,a7U):Int×(List f8)) H fun(s:Int×(List f8)) H n7=>R4 d0l b0E a1A a.z7 (a.z7.n:Int) a s.1 s.2 H n1 n7 K
def R5(b5h:Sl)(b5i:Int)(R6:Int)(M7:(List f8))(H:Hp)(n1:(Int×(List f8))→Hp→Prop)(K:i8→(List f8)→Hp→Prop):Prop:=
 (R6 < b5i→
 (0:Int)≤R6∧(R6:Int) < b5h.n∧∃a:u5,EltH H b5h R6 6 (u4 a)∧
 (a.d3=1→
 (M7.length+([(f8.mk a.i7 1)]:List f8).length)*25≤140737488355328∧
 D9 b5h b5i R6 (M7++[(f8.mk a.i7 1)]) a H n1 K)∧
 (¬(a.d3=1)→
 (a.d3=2→
 (M7.length+([(f8.mk a.i7 2)]:List f8).length)*25≤140737488355328∧
 D9 b5h b5i R6 (M7++[(f8.mk a.i7 2)]) a H n1 K)∧
 (¬(a.d3=2)→
 D9 b5h b5i R6 M7 a H n1 K)))∧
 (¬(R6 < b5i)→
 K (i8.mk (Sl.mk none 0 0)) M7 H)
def a2o(x0:i8)(a:(List f8))(x1:Sl)(H:Hp)(K:i8→(List f8)→Hp→Prop):Prop:=
 TL ((0,a):Int×(List f8)) H fun(s:Int×(List f8)) H n1=>R5 x1 (x1.n:Int) s.1 s.2 H n1 K
theorem a8S(x0 p x1){H K}(h:a2o x0 p x1 H K):P4 x0 p x1 H K:=by
 intro g0 al am an
 refine Ct.of fun w0 w ps0 H0 R E I hR=>c8j ?_
 unfold a2o at h
 unfold F94
 refine c5 (a2Z _ _ _) ?_
 obtain ⟨q,g,ao,ap⟩:=h
 refine C1 (J:=fun n l w=>∃(s:Int×(List f8))(H:Hp)(a7b:Sl)(b0e:Frag),n=g s∧l=(match s with | (R6,M7)=>[(vi R6)])∧(match s with | (R6,M7)=>RowL 158 2 z8 a7b M7 b0e)∧(match s with | (R6,M7)=>Inv w0 ps0 H0 H [bx g0 155 [(vs a7b)],b0e] w)∧q s H) ⟨_,(0,p),H,al,am,rfl,rfl,an,((I.bring 1).bring 1),ao⟩ ?_
 rintro cx cy w next1 ⟨⟨R6,M7⟩,H,a7b,b0e,rfl,r,b0f,I,aq⟩ hn1
 dsimp only at r I b0f
 simp only [List.map_cons,List.map_nil,List.cons.injEq,and_true] at r
 have e12:=r
 simp only [e12]
 obtain ⟨n1,hm1,h⟩:∃n1:(Int×(List f8))→Hp→Prop,(∀s' H',n1 s' H'→q s' H'∧g s' < g (R6,M7))∧R5 x1 (x1.n:Int) R6 M7 H n1 K:=⟨_,fun _ _ h=>h,ap (R6,M7) H (fun s' H'=>q s' H'∧g s' < g (R6,M7)) aq (fun _ _ a b=>⟨a,b⟩)⟩
 unfold c2D
 unfold R5 at h
 refine c5 pLs ?_
 refine d9 h (fun _ h=>?_) (fun _ h=>?_)
 ·have hj2:∀(a7S:(List f8))(b1U:Sl)(b1V:Frag) H w (_:RowL 158 2 z8 b1U a7S b1V) (_:Inv w0 ps0 H0 H [bx g0 155 [(vs b1U)],b1V] w) (_:R0 x1 (x1.n:Int) R6 a7S H n1 K),b8K (Value.pointer (some ⟨g0,0,none⟩)) (vs x1) (vi (x1.n:Int)) (vi R6) w next1 R E:=by
   intro a7S b1U b1V H w c3F I h
   unfold b8K
   intro _
   unfold R0 at h
   refine c5 pAd ?_
   exact hn1 _ _ _ (hm1 _ _ h).2 ⟨((IntKind.wrap .i64 (R6+1)),a7S),H,b1U,b1V,rfl,rfl,c3F,((I.bring 1).bring 1),(hm1 _ _ h).1⟩
  refine o5 fun j2 hx2=>?_
  obtain ⟨ar,au,d,t,h⟩:=h
  obtain ⟨cz,da,av,t⟩:=t
  refine c5 (b4n av _ _ _ _ ar au) (c7 (ldA (vs:=(u4 d)) Tryz.isAgg60 Tryz.sizeOf60 rfl (I.atH t)) ?_)
  refine r5 I Tryz.zeroValue60 (cs:=[(vi 0),(eS),(nS),(nS),(nS),(nS)]) rfl fun f db aw dc=>?_
  refine u1 aw Tryz.sizeOf60 (vs:=(u4 d)) fun dd k de=>?_
  have hj3:∀(a7U:(List f8))(b1W:Sl)(b1X:Frag) H w (_:RowL 158 2 z8 b1W a7U b1X) (_:Inv w0 ps0 H0 H [bx g0 155 [(vs b1W)],bx f 60 (u4 d),b1X] w) (_:D9 x1 (x1.n:Int) R6 a7U d H n1 K),b8N (Value.pointer (some ⟨g0,0,none⟩)) (Value.pointer (some ⟨f,0,none⟩)) (vs x1) (vi (x1.n:Int)) (vi R6) w j2 R E:=by
   intro a7U b1W b1X H w c3G I h
   unfold b8N
   intro _
   unfold D9 at h
   have hj4:∀(a7T:(List f8))(b1Y:Sl)(b1Z:Frag) H w (_:RowL 158 2 z8 b1Y a7T b1Z) (_:Inv w0 ps0 H0 H [bx g0 155 [(vs b1Y)],bx f 60 (u4 d),b1Z] w) (_:R3 x1 (x1.n:Int) R6 a7T d H n1 K),b8M (Value.pointer (some ⟨g0,0,none⟩)) (Value.pointer (some ⟨f,0,none⟩)) (vs x1) (vi (x1.n:Int)) (vi R6) w j2 R E:=by
    intro a7T b1Y b1Z H w c3H I h
    unfold b8M
    intro _
    unfold R3 at h
    have hj5:∀(b0d:(List f8))(b2a:Sl)(b2b:Frag) H w (_:RowL 158 2 z8 b2a b0d b2b) (_:Inv w0 ps0 H0 H [bx g0 155 [(vs b2a)],bx f 60 (u4 d),b2b] w) (_:R1 x1 (x1.n:Int) R6 b0d d H n1 K),b8L (Value.pointer (some ⟨g0,0,none⟩)) (Value.pointer (some ⟨f,0,none⟩)) (vs x1) (vi (x1.n:Int)) (vi R6) w j2 R E:=by
     intro b0d b2a b2b H w c3I I h
     unfold b8L
     intro _
     unfold R1 at h
     refine c5 a4T (c7 (l1 Tryz.isAgg23 (I.bring 1) rfl) ?_)
     refine f9 Tryz.call94 (h g0 b2a b2b c3I) ((I.bring 2).bring 1) ?_
     rintro _ _ _ df ac _ _ ⟨dg,dh,ax,ay,rfl,rfl,az,h⟩
     refine c5 a6p (c7 (l1 Tryz.isAgg23 (ac.bring 2) rfl) ?_)
     refine f9 Tryz.call94 (h g0 ax ay az) ((ac.bring 1).bring 1) ?_
     rintro _ ba _ di bb _ _ ⟨dj,bc,bd,be,rfl,rfl,bf,h⟩
     exact hx2 _ _ (hj2 bc bd be ba _ bf (((bb.bring 2).drop.bring 1).bring 1) h)
    refine o5 fun j5 hx5=>?_
    refine c5 a7n (c7 (l1 Tryz.isAgg57 (I.bring 1) rfl) (c5 (a4Q _ _ _) ?_))
    obtain ⟨u,i,bg,bh⟩:=h
    refine C1 (J:=fun n l w=>∃(s:Int×(List f8))(H:Hp)(b0g:Sl)(b0h:Frag),n=i s∧l=(match s with | (a4z,a2l)=>[(vi a4z)])∧(match s with | (a4z,a2l)=>RowL 158 2 z8 b0g a2l b0h)∧(match s with | (a4z,a2l)=>Inv w0 ps0 H0 H [bx g0 155 [(vs b0g)],bx f 60 (u4 d),b0h] w)∧u s H) ⟨_,(0,a7T),H,b1Y,b1Z,rfl,rfl,c3H,(((I.bring 2).bring 2).bring 2),bg⟩ ?_
    rintro dk dl w next6 ⟨⟨a4z,a2l⟩,H,b0g,b0h,rfl,v,b4t,I,bi⟩ hn6
    dsimp only at v I b4t
    simp only [List.map_cons,List.map_nil,List.cons.injEq,and_true] at v
    have e60:=v
    simp only [e60]
    obtain ⟨n6,hm6,h⟩:∃n6:(Int×(List f8))→Hp→Prop,(∀s' H',n6 s' H'→u s' H'∧i s' < i (a4z,a2l))∧R2 x1 (x1.n:Int) R6 d.m8 (d.m8.n:Int) d a4z a2l H n1 n6 K:=⟨_,fun _ _ h=>h,bh (a4z,a2l) H (fun s' H'=>u s' H'∧i s' < i (a4z,a2l)) bi (fun _ _ a b=>⟨a,b⟩)⟩
    unfold c2B
    unfold R2 at h
    refine c5 pLs ?_
    refine d9 h (fun _ h=>?_) (fun _ h=>?_)
    ·obtain ⟨bj,bk,ad,y,h⟩:=h
     obtain ⟨dm,dn,bl,y⟩:=y
     refine c5 (a4m bl _ _ _ _ bj bk) (c7 (ldA (vs:=(m6 ad)) Tryz.isAgg123 Tryz.sizeOf123 rfl (I.atH y)) ?_)
     refine r5 I Tryz.zeroValue123 (cs:=[(vi 0),(vi 0),(eS),(nS)]) rfl fun dp dq bm dr=>?_
     refine u1 bm Tryz.sizeOf123 (vs:=(m6 ad)) fun ds ae dt=>?_
     refine c7 (lW Tryz.isAgg123 Tryz.sizeOf123 rfl ae) ?_
     refine f9 Tryz.call109 (h g0 b0g b0h b4t) ((ae.bring 3).bring 2) ?_
     rintro _ bn _ du bo _ _ ⟨dv,bp,bq,br,rfl,rfl,bs,h⟩
     refine c5 pAd ?_
     exact hn6 _ _ _ (hm6 _ _ h).2 ⟨((IntKind.wrap .i64 (a4z+1)),bp),bn,bq,br,rfl,rfl,bs,((((bo.bring 2).drop.bring 1).bring 2).bring 2),(hm6 _ _ h).1⟩
    ·exact hx5 _ _ (hj5 a2l b0g b0h H _ b4t (((I.bring 2).bring 2).bring 2) h)
   refine o5 fun j4 hx4=>?_
   refine c5 a4U (c7 (l1 Tryz.isAgg58 (I.bring 1) rfl) (c5 (a8q _ _ _) ?_))
   obtain ⟨z,j,bt,bu⟩:=h
   refine C1 (J:=fun n l w=>∃(s:Int×(List f8))(H:Hp)(b0i:Sl)(b0j:Frag),n=j s∧l=(match s with | (a4A,a2m)=>[(vi a4A)])∧(match s with | (a4A,a2m)=>RowL 158 2 z8 b0i a2m b0j)∧(match s with | (a4A,a2m)=>Inv w0 ps0 H0 H [bx g0 155 [(vs b0i)],bx f 60 (u4 d),b0j] w)∧z s H) ⟨_,(0,a7U),H,b1W,b1X,rfl,rfl,c3G,(((I.bring 2).bring 2).bring 2),bt⟩ ?_
   rintro dw dx w next7 ⟨⟨a4A,a2m⟩,H,b0i,b0j,rfl,aa,b4u,I,bv⟩ hn7
   dsimp only at aa I b4u
   simp only [List.map_cons,List.map_nil,List.cons.injEq,and_true] at aa
   have e49:=aa
   simp only [e49]
   obtain ⟨n7,hm7,h⟩:∃n7:(Int×(List f8))→Hp→Prop,(∀s' H',n7 s' H'→z s' H'∧j s' < j (a4A,a2m))∧R4 x1 (x1.n:Int) R6 d.z7 (d.z7.n:Int) d a4A a2m H n1 n7 K:=⟨_,fun _ _ h=>h,bu (a4A,a2m) H (fun s' H'=>z s' H'∧j s' < j (a4A,a2m)) bv (fun _ _ a b=>⟨a,b⟩)⟩
   unfold c2C
   unfold R4 at h
   refine c5 pLs ?_
   refine d9 h (fun _ h=>?_) (fun _ h=>?_)
   ·obtain ⟨bw,bz,af,ab,h⟩:=h
    obtain ⟨dy,dz,ca,ab⟩:=ab
    refine c5 (a1V ca _ _ _ _ bw bz) (c7 (ldA (vs:=(o8 af)) Tryz.isAgg131 Tryz.sizeOf131 rfl (I.atH ab)) ?_)
    refine r5 I Tryz.zeroValue131 (cs:=[(vi 0),(vi 0),(nS),(nS)]) rfl fun ea eb cb ec=>?_
    refine u1 cb Tryz.sizeOf131 (vs:=(o8 af)) fun ed ag ee=>?_
    refine c7 (lW Tryz.isAgg131 Tryz.sizeOf131 rfl ag) ?_
    refine f9 Tryz.call108 (h g0 b0i b0j b4u) ((ag.bring 3).bring 2) ?_
    rintro _ cc _ ef cd _ _ ⟨eg,ce,cf,cg,rfl,rfl,ch,h⟩
    refine c5 pAd ?_
    exact hn7 _ _ _ (hm7 _ _ h).2 ⟨((IntKind.wrap .i64 (a4A+1)),ce),cc,cf,cg,rfl,rfl,ch,((((cd.bring 2).drop.bring 1).bring 2).bring 2),(hm7 _ _ h).1⟩
   ·exact hx4 _ _ (hj4 a2m b0i b0j H _ b4u (((I.bring 2).bring 2).bring 2) h)
  refine o5 fun j3 hx3=>?_
  refine c5 a7m (c7 (l1 Tryz.isAgg3 k rfl) (c5 pEq ?_))
  refine d9 h (fun _ h=>?_) (fun _ h=>?_)
  ·refine I0 k fun eh m=>?_
   refine d5 (r8 _) ?_
   refine d5 a0T ?_
   refine d5 a4e ?_
   refine j9 (l1 Tryz.isAgg153 (m.bring 1) rfl) ?_
   refine j9 (l1 Tryz.isAgg9 m rfl) ?_
   refine d5 (a6q _ _) ?_
   refine X9 (e:=158) (c:=z8) (xs:=[(f8.mk d.i7 1)]) m (b1D _ _) rfl rfl a5u a5v (nb rfl) fun ei ej ek ci ah cj=>?_
   refine ⟨(cj _ (m.bring 1).lt1),?_⟩
   obtain ⟨ck,h⟩:=h
   refine b3m (s:=a7b) (xs:=M7) (ah.bring 3) b0f (ci.srcO ((ah.bring 3).bring 1)) ck fun ai cl el cm cn em=>?_
   refine d5 (r8 _) ?_
   refine d5 a0T ?_
   refine u1 ((cn.bring 1).drop.bring 2) Tryz.sizeOf153 (vs:=[(vs ai)]) fun en co eo=>?_
   exact hx3 _ _ (hj3 (M7++[(f8.mk d.i7 1)]) ai cl H _ cm (((co.bring 1).bring 2).bring 2) h)
  ·refine c5 pEq ?_
   refine d9 h (fun _ h=>?_) (fun _ h=>?_)
   ·refine I0 k fun ep o=>?_
    refine d5 (r8 _) ?_
    refine d5 a0T ?_
    refine d5 a4e ?_
    refine j9 (l1 Tryz.isAgg153 (o.bring 1) rfl) ?_
    refine j9 (l1 Tryz.isAgg9 o rfl) ?_
    refine d5 (a6q _ _) ?_
    refine X9 (e:=158) (c:=z8) (xs:=[(f8.mk d.i7 2)]) o (b1D _ _) rfl rfl a5u a5v (nb rfl) fun eq er es cp aj cq=>?_
    refine ⟨(cq _ (o.bring 1).lt1),?_⟩
    obtain ⟨cr,h⟩:=h
    refine b3m (s:=a7b) (xs:=M7) (aj.bring 3) b0f (cp.srcO ((aj.bring 3).bring 1)) cr fun ak ct et cu cv eu=>?_
    refine d5 (r8 _) ?_
    refine d5 a0T ?_
    refine u1 ((cv.bring 1).drop.bring 2) Tryz.sizeOf153 (vs:=[(vs ak)]) fun ev cw ew=>?_
    exact hx3 _ _ (hj3 (M7++[(f8.mk d.i7 2)]) ak ct H _ cu (((cw.bring 1).bring 2).bring 2) h)
   ·exact hx3 _ _ (hj3 M7 a7b b0e H _ b0f (((k.bring 2).bring 1).bring 2) h)
 ·exact hR _ H _ _ ((I.bring 1).bring 1) ⟨(i8.mk (Sl.mk none 0 0)),M7,a7b,b0e,rfl,rfl,b0f,h⟩
def a3J(x0:K1)(H:Hp)(K:Sl→Hp→Prop):Prop:=
 y6 x0.t7.D5 H (fun a b=>
 K a b)
theorem b0k(x0){H K}(h:a3J x0 H K):a5X x0 H K:=by
 refine Ct.of fun w0 w ps0 H0 R E I hR=>c6l ?_
 unfold a3J at h
 unfold c8W
 refine z6 I (cs:=(m6 x0.t7)) rfl fun e f a g=>?_
 refine c5 a0f (c5 a3b (c7 (l1 Tryz.isAgg57 a rfl) ?_))
 refine f9 Tryz.call161 h a ?_
 rintro _ b _ i c _ _ ⟨d,rfl,rfl,h⟩
 exact hR _ b _ _ c.drop ⟨d,rfl,rfl,h⟩
end Go.Proofs.YtaokfhdinhimfaaGreatDoor
