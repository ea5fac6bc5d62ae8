/- Typed formulas of the program's functions, and the theorems that the contracts follow from them; printed by lift.py off the code. -/
import Derived.Test.YtaokfhdinhimfaaGreatDooryCV1
namespace Go.Proofs.YtaokfhdinhimfaaGreatDoor
open Go.RowKit
set_option maxRecDepth 100000
set_option maxHeartbeats 2000000
def a3E(H:Hp)(K:Bool→Hp→Prop):Prop:=
 ∀(d:Sl)(e:Hp),Hle H e→SlH e 6 A8 d [(B0.mk 7 ⟨#[]⟩ (Sl.mk none 0 0) (Sl.mk none 0 0) (Sl.mk none 0 0) (Sl.mk none 0 0))]→d.n≤d.c→
 a8S (E6.mk (Sl.mk none 0 0) d) e (fun b f g=>
 ∃a:d5,(((((decide (f=0))&&(decide (b.d3=2)))&&(decide (b.v2=1)))&&(decide ((b.p5.n:Int)=1)))=true→(0:Int)≤0∧(0:Int) < b.p5.n∧EltH g b.p5 0 10 (i5 a))∧
 K (((((decide (f=0))&&(decide (b.d3=2)))&&(decide (b.v2=1)))&&(decide ((b.p5.n:Int)=1)))&&(decide (a.s7=0∧a.fTo=1∧a.f3=1∧a.S3=(-1)∧a.O5=(-1)∧a.fOp=0∧a.fA.y8=(-1)∧a.fA.u1=0∧a.fB.y8=(-1)∧a.fB.u1=0))) g)
theorem a9M{H K}(h:a3E H K):a3k H K:=by
 refine Ct.of fun w0 w ps0 H0 R E I hR=>c9T ?_
 unfold a3E at h
 unfold F5
 refine c7 (b9Q _) ?_
 refine a0x (e:=60) (c:=A8) (xs:=[(B0.mk 7 ⟨#[]⟩ (Sl.mk none 0 0) (Sl.mk none 0 0) (Sl.mk none 0 0) (Sl.mk none 0 0))]) I (c5J _ _ _ _ _ _ _ _ _ _ _ _ _ _) rfl rfl b7k b7l (nb rfl) fun k y z l m aa=>?_
 refine c7 (b9R _ _ _) ?_
 obtain ⟨o,p,q,r,s⟩:=Inv.freezeC m l (by decide)
 replace h:=h k o q r s
 refine j6 Tryz.call6 h p ?_
 rintro _ t _ ab u _ _ ⟨i,j,rfl,rfl,h⟩
 refine c7 (p6 _ _ _ rfl) (c7 (p6 _ _ (vi j) rfl) ?_)
 refine y3 u Tryz.zeroValue30 (cs:=[(nS),(vi 0),(nS),(vi 0),(vi 0),(nS)]) rfl fun ac ad v ae=>?_
 refine A6 v Tryz.sizeOf30 (vs:=(g8 i)) fun af d ag=>?_
 refine c7 pEq ?_
 refine c7 (Pu.g fun hb=>by have a:=hb;first | with_reducible exact j9 | (simp only [c6 a,c5 a,c5 hb,d6 a];with_reducible exact j9) | (simp only [c6 a,c5 a,c5 hb,d7 a,c8];with_reducible exact j9) | exact j9 | (simp only [c6 a,c5 a,c5 hb,d6 a];exact j9) | (simp only [c6 a,c5 a,c5 hb,d7 a,c8];exact j9)) ?_
 refine d4 (Ld.g fun hb=>by have a:=hb;first | exact (l1 Tryz.isAgg3 d rfl) | (simp only [c6 a,c5 a,c5 hb,d6 a];exact (l1 Tryz.isAgg3 d rfl)) | (simp only [c6 a,c5 a,c5 hb,d7 a,c8];exact (l1 Tryz.isAgg3 d rfl))) ?_
 refine c7 (Pu.g fun hb=>by have a:=hb;first | with_reducible exact pEq | (simp only [c6 a,c5 a,c5 hb,d6 a];with_reducible exact pEq) | (simp only [c6 a,c5 a,c5 hb,d7 a,c8];with_reducible exact pEq) | exact pEq | (simp only [c6 a,c5 a,c5 hb,d6 a];exact pEq) | (simp only [c6 a,c5 a,c5 hb,d7 a,c8];exact pEq)) ?_
 refine c7 (p9 _ _) ?_
 refine c7 (Pu.g fun hb=>by have a:=hb;first | with_reducible exact v8 | (simp only [c6 a,c5 a,c5 hb,d6 a];with_reducible exact v8) | (simp only [c6 a,c5 a,c5 hb,d7 a,c8];with_reducible exact v8) | exact v8 | (simp only [c6 a,c5 a,c5 hb,d6 a];exact v8) | (simp only [c6 a,c5 a,c5 hb,d7 a,c8];exact v8)) ?_
 refine d4 (Ld.g fun hb=>by have a:=hb;first | exact (l1 Tryz.isAgg3 d rfl) | (simp only [c6 a,c5 a,c5 hb,d6 a];exact (l1 Tryz.isAgg3 d rfl)) | (simp only [c6 a,c5 a,c5 hb,d7 a,c8];exact (l1 Tryz.isAgg3 d rfl))) ?_
 refine c7 (Pu.g fun hb=>by have a:=hb;first | with_reducible exact pEq | (simp only [c6 a,c5 a,c5 hb,d6 a];with_reducible exact pEq) | (simp only [c6 a,c5 a,c5 hb,d7 a,c8];with_reducible exact pEq) | exact pEq | (simp only [c6 a,c5 a,c5 hb,d6 a];exact pEq) | (simp only [c6 a,c5 a,c5 hb,d7 a,c8];exact pEq)) ?_
 refine c7 (p9 _ _) ?_
 refine c7 (Pu.g fun hb=>by have a:=hb;first | with_reducible exact o5 | (simp only [c6 a,c5 a,c5 hb,d6 a];with_reducible exact o5) | (simp only [c6 a,c5 a,c5 hb,d7 a,c8];with_reducible exact o5) | exact o5 | (simp only [c6 a,c5 a,c5 hb,d6 a];exact o5) | (simp only [c6 a,c5 a,c5 hb,d7 a,c8];exact o5)) ?_
 refine d4 (Ld.g fun hb=>by have a:=hb;first | exact (l1 Tryz.isAgg28 d rfl) | (simp only [c6 a,c5 a,c5 hb,d6 a];exact (l1 Tryz.isAgg28 d rfl)) | (simp only [c6 a,c5 a,c5 hb,d7 a,c8];exact (l1 Tryz.isAgg28 d rfl))) ?_
 refine c7 (Pu.g fun hb=>by have a:=hb;first | with_reducible exact (B6 _ _ _) | (simp only [c6 a,c5 a,c5 hb,d6 a];with_reducible exact (B6 _ _ _)) | (simp only [c6 a,c5 a,c5 hb,d7 a,c8];with_reducible exact (B6 _ _ _)) | exact (B6 _ _ _) | (simp only [c6 a,c5 a,c5 hb,d6 a];exact (B6 _ _ _)) | (simp only [c6 a,c5 a,c5 hb,d7 a,c8];exact (B6 _ _ _))) ?_
 refine c7 (Pu.g fun hb=>by have a:=hb;first | with_reducible exact pEq | (simp only [c6 a,c5 a,c5 hb,d6 a];with_reducible exact pEq) | (simp only [c6 a,c5 a,c5 hb,d7 a,c8];with_reducible exact pEq) | exact pEq | (simp only [c6 a,c5 a,c5 hb,d6 a];exact pEq) | (simp only [c6 a,c5 a,c5 hb,d7 a,c8];exact pEq)) ?_
 refine c7 (p9 _ _) ?_
 refine c7 (Pu.g fun hb=>by have a:=hb;first | with_reducible exact o5 | (simp only [c6 a,c5 a,c5 hb,d6 a];with_reducible exact o5) | (simp only [c6 a,c5 a,c5 hb,d7 a,c8];with_reducible exact o5) | exact o5 | (simp only [c6 a,c5 a,c5 hb,d6 a];exact o5) | (simp only [c6 a,c5 a,c5 hb,d7 a,c8];exact o5)) ?_
 refine d4 (Ld.g fun hb=>by have a:=hb;first | exact (l1 Tryz.isAgg28 d rfl) | (simp only [c6 a,c5 a,c5 hb,d6 a];exact (l1 Tryz.isAgg28 d rfl)) | (simp only [c6 a,c5 a,c5 hb,d7 a,c8];exact (l1 Tryz.isAgg28 d rfl))) ?_
 obtain ⟨f,b,h⟩:=h
 obtain ⟨ah,ai,b⟩:=c4H b
 refine c7 (Pu.g fun hb=>by have a:=hb;first | with_reducible exact (M9 (b hb).2.2.1 _ _ _ _ (b hb).1 (b hb).2.1) | (simp only [c6 a,c5 a,c5 hb,d6 a];with_reducible exact (M9 (b hb).2.2.1 _ _ _ _ (b hb).1 (b hb).2.1)) | (simp only [c6 a,c5 a,c5 hb,d7 a,c8];with_reducible exact (M9 (b hb).2.2.1 _ _ _ _ (b hb).1 (b hb).2.1)) | exact (M9 (b hb).2.2.1 _ _ _ _ (b hb).1 (b hb).2.1) | (simp only [c6 a,c5 a,c5 hb,d6 a];exact (M9 (b hb).2.2.1 _ _ _ _ (b hb).1 (b hb).2.1)) | (simp only [c6 a,c5 a,c5 hb,d7 a,c8];exact (M9 (b hb).2.2.1 _ _ _ _ (b hb).1 (b hb).2.1))) ?_
 refine d4 (Ld.g fun hb=>by have a:=hb;first | exact (ldA (vs:=(i5 f)) Tryz.isAgg40 Tryz.sizeOf40 rfl (d.atH (b hb).2.2.2)) | (simp only [c6 a,c5 a,c5 hb,d6 a];exact (ldA (vs:=(i5 f)) Tryz.isAgg40 Tryz.sizeOf40 rfl (d.atH (b hb).2.2.2))) | (simp only [c6 a,c5 a,c5 hb,d7 a,c8];exact (ldA (vs:=(i5 f)) Tryz.isAgg40 Tryz.sizeOf40 rfl (d.atH (b hb).2.2.2)))) ?_
 refine c7 (Pu.g fun hb=>by have a:=hb;first | with_reducible exact (P6 _) | (simp only [c6 a,c5 a,c5 hb,d6 a];with_reducible exact (P6 _)) | (simp only [c6 a,c5 a,c5 hb,d7 a,c8];with_reducible exact (P6 _)) | exact (P6 _) | (simp only [c6 a,c5 a,c5 hb,d6 a];exact (P6 _)) | (simp only [c6 a,c5 a,c5 hb,d7 a,c8];exact (P6 _))) ?_
 refine c7 (Pu.g fun hb=>by have a:=hb;first | with_reducible exact (P6 _) | (simp only [c6 a,c5 a,c5 hb,d6 a];with_reducible exact (P6 _)) | (simp only [c6 a,c5 a,c5 hb,d7 a,c8];with_reducible exact (P6 _)) | exact (P6 _) | (simp only [c6 a,c5 a,c5 hb,d6 a];exact (P6 _)) | (simp only [c6 a,c5 a,c5 hb,d7 a,c8];exact (P6 _))) ?_
 refine c7 (Pu.g fun hb=>by have a:=hb;first | with_reducible exact (V1 _ _ _ _ _ _ _ _) | (simp only [c6 a,c5 a,c5 hb,d6 a];with_reducible exact (V1 _ _ _ _ _ _ _ _)) | (simp only [c6 a,c5 a,c5 hb,d7 a,c8];with_reducible exact (V1 _ _ _ _ _ _ _ _)) | exact (V1 _ _ _ _ _ _ _ _) | (simp only [c6 a,c5 a,c5 hb,d6 a];exact (V1 _ _ _ _ _ _ _ _)) | (simp only [c6 a,c5 a,c5 hb,d7 a,c8];exact (V1 _ _ _ _ _ _ _ _))) ?_
 refine c7 (Pu.g fun hb=>by have a:=hb;first | with_reducible exact (a8m _ _ _ _ _ _ _ _ _ _ _ _ _ _ _ _ _ _ _ _ _ _) | (simp only [c6 a,c5 a,c5 hb,d6 a];with_reducible exact (a8m _ _ _ _ _ _ _ _ _ _ _ _ _ _ _ _ _ _ _ _ _ _)) | (simp only [c6 a,c5 a,c5 hb,d7 a,c8];with_reducible exact (a8m _ _ _ _ _ _ _ _ _ _ _ _ _ _ _ _ _ _ _ _ _ _)) | exact (a8m _ _ _ _ _ _ _ _ _ _ _ _ _ _ _ _ _ _ _ _ _ _) | (simp only [c6 a,c5 a,c5 hb,d6 a];exact (a8m _ _ _ _ _ _ _ _ _ _ _ _ _ _ _ _ _ _ _ _ _ _)) | (simp only [c6 a,c5 a,c5 hb,d7 a,c8];exact (a8m _ _ _ _ _ _ _ _ _ _ _ _ _ _ _ _ _ _ _ _ _ _))) ?_
 refine c7 (p9 _ _) ?_
 exact hR _ t _ _ d.drop ⟨(((((decide (j=0))&&(decide (i.d3=2)))&&(decide (i.v2=1)))&&(decide ((i.p5.n:Int)=1)))&&(decide (f.s7=0∧f.fTo=1∧f.f3=1∧f.S3=(-1)∧f.O5=(-1)∧f.fOp=0∧f.fA.y8=(-1)∧f.fA.u1=0∧f.fB.y8=(-1)∧f.fB.u1=0))),rfl,rfl,h⟩
def a4p(H:Hp)(K:m3→Hp→Prop):Prop:=
 K (m3.mk (-1) 0) H
theorem b0v{H K}(h:a4p H K):a3X H K:=by
 refine Ct.of fun w0 w ps0 H0 R E I hR=>c8p ?_
 unfold a4p at h
 unfold F91
 refine y3 I Tryz.zeroValue38 (cs:=[(vi 0),(vi 0)]) rfl fun c d b e=>?_
 refine c7 (P6 _) ?_
 refine A6 b Tryz.sizeOf38 (vs:=[(vi (-1)),(vi 0)]) fun f a g=>?_
 refine X5 Tryz.isAgg38 Tryz.sizeOf38 rfl a ?_
 exact hR _ H _ _ a.drop ⟨(m3.mk (-1) 0),rfl,rfl,h⟩
def Y9(a:f7)(H:Hp)(K:Int→Hp→Prop):Prop:=
 K 0 H
def a1B(c9n:Sl)(a:f7)(b0w:Int)(H:Hp)(n4:Int→Hp→Prop)(K:Int→Hp→Prop):Prop:=
 (b0w < a.d3→
 (0:Int)≤b0w∧(b0w:Int) < c9n.n∧∃b:Sl,EltH H c9n b0w 1 [(vs b)]∧
 a3W a b H (fun c d=>
 ((!c)=true→
 K 92 d)∧
 ((!c)=false→
 n4 (IntKind.wrap .i64 (b0w+1)) d)))∧
 (¬(b0w < a.d3)→
 Y9 a H K)
def Z0(a7X:(List (List Int)))(d:f7)(H:Hp)(K:Int→Hp→Prop):Prop:=
 ∀(a:Sl)(b:Hp),Hle H b→SlHH b 1 r9 a a7X→a.n≤a.c→
 TL (0:Int) b fun(s:Int) H n4=>a1B a d s H n4 K
def Z1(b:f7)(U1:(List (List Int)))(U8:Int)(H:Hp)(n5:((List (List Int))×Int)→Hp→Prop)(K:Int→Hp→Prop):Prop:=
 (U8 < (b.p5.n:Int)→
 (0:Int)≤U8∧(U8:Int) < b.p5.n∧∃a:d5,EltH H b.p5 U8 10 (i5 a)∧
 TG ((((((decide (a.s7 < 0))||(decide (b.d3≤a.s7)))||(decide (a.fTo < 0)))||(decide (b.d3≤a.fTo)))||(decide (a.s7=b.v2)))=false) (a1k b H) 0 H (fun(g:Int)(d:Hp)=>
 TG ((((((decide (a.s7 < 0))||(decide (b.d3≤a.s7)))||(decide (a.fTo < 0)))||(decide (b.d3≤a.fTo)))||(decide (a.s7=b.v2)))=false) (a3l a g (b.o8.n:Int) d) false d (fun(e:Bool)(f:Hp)=>
 (((((((decide (a.s7 < 0))||(decide (b.d3≤a.s7)))||(decide (a.fTo < 0)))||(decide (b.d3≤a.fTo)))||(decide (a.s7=b.v2)))||(!e))=true→
 K 92 f)∧
 (((((((decide (a.s7 < 0))||(decide (b.d3≤a.s7)))||(decide (a.fTo < 0)))||(decide (b.d3≤a.fTo)))||(decide (a.s7=b.v2)))||(!e))=false→
 (0:Int)≤a.s7∧∃c:List Int,(U1)[(a.s7:Int).toNat]? = some c∧
 (c.length+([U8]:List Int).length)*9≤140737488355328∧
 n5 ((U1.set (a.s7:Int).toNat (c++[U8])),(IntKind.wrap .i64 (U8+1))) f))))∧
 (¬(U8 < (b.p5.n:Int))→
 Z0 U1 b H K)
def Z2(a:f7)(H:Hp)(K:Int→Hp→Prop):Prop:=
 (0:Int)≤a.d3∧a.d3*25≤140737488355328∧
 TL (((List.replicate (a.d3:Int).toNat ([]:List Int)),0):(List (List Int))×Int) H fun(s:(List (List Int))×Int) H n5=>Z1 a s.1 s.2 H n5 K
def a1C(a:f7)(b0x:Int)(H:Hp)(n6:Int→Hp→Prop)(K:Int→Hp→Prop):Prop:=
 (b0x < (a.o8.n:Int)→
 (0:Int)≤b0x∧(b0x:Int) < a.o8.n∧∃b:o0,EltH H a.o8 b0x 2 (m2 b)∧
 (((decide (b.L0 < 1))||(decide (1024 < b.L0)))=true→
 K 92 H)∧
 (((decide (b.L0 < 1))||(decide (1024 < b.L0)))=false→
 n6 (IntKind.wrap .i64 (b0x+1)) H))∧
 (¬(b0x < (a.o8.n:Int))→
 Z2 a H K)
def a3F(x0:f7)(H:Hp)(K:Int→Hp→Prop):Prop:=
 TG ((((decide (x0.o9 < 0))||(decide (64 < x0.o9)))||(decide (64 < (x0.t8.n:Int))))=false) (a1k x0 H) 0 H (fun(b:Int)(a:Hp)=>
 (((((decide (x0.o9 < 0))||(decide (64 < x0.o9)))||(decide (64 < (x0.t8.n:Int))))||(decide (64 < b)))=true→
 K 90 a)∧
 (((((decide (x0.o9 < 0))||(decide (64 < x0.o9)))||(decide (64 < (x0.t8.n:Int))))||(decide (64 < b)))=false→
 ((((decide (x0.d3 < 1))||(decide (4096 < x0.d3)))||(decide (8192 < (x0.p5.n:Int))))=true→
 K 91 a)∧
 ((((decide (x0.d3 < 1))||(decide (4096 < x0.d3)))||(decide (8192 < (x0.p5.n:Int))))=false→
 ((((decide (16 < (x0.o8.n:Int)))||(decide (x0.v2 < 0)))||(decide (x0.d3≤x0.v2)))=true→
 K 92 a)∧
 ((((decide (16 < (x0.o8.n:Int)))||(decide (x0.v2 < 0)))||(decide (x0.d3≤x0.v2)))=false→
 TL (0:Int) a fun(s:Int) H n6=>a1C x0 s H n6 K))))
theorem a9N(x0){H K}(h:a3F x0 H K):a3m x0 H K:=by
 refine Ct.of fun w0 w ps0 H0 R E I hR=>c9W ?_
 unfold a3F at h
 unfold F9
 refine D6 I (cs:=(g8 x0)) rfl fun j df m dg=>?_
 refine c7 z7 (d4 (l1 Tryz.isAgg3 m rfl) (c7 pLs ?_))
 refine c7 (Pu.g fun hb=>by have d:=hb;first | with_reducible exact z7 | (simp only [c6 d,c5 d,c5 hb,d8 d];with_reducible exact z7) | (simp only [c6 d,c5 d,c5 hb,d9 d,c8];with_reducible exact z7) | exact z7 | (simp only [c6 d,c5 d,c5 hb,d8 d];exact z7) | (simp only [c6 d,c5 d,c5 hb,d9 d,c8];exact z7)) ?_
 refine d4 (Ld.g fun hb=>by have d:=hb;first | exact (l1 Tryz.isAgg3 m rfl) | (simp only [c6 d,c5 d,c5 hb,d8 d];exact (l1 Tryz.isAgg3 m rfl)) | (simp only [c6 d,c5 d,c5 hb,d9 d,c8];exact (l1 Tryz.isAgg3 m rfl))) ?_
 refine c7 (Pu.g fun hb=>by have d:=hb;first | with_reducible exact pGt | (simp only [c6 d,c5 d,c5 hb,d8 d];with_reducible exact pGt) | (simp only [c6 d,c5 d,c5 hb,d9 d,c8];with_reducible exact pGt) | exact pGt | (simp only [c6 d,c5 d,c5 hb,d8 d];exact pGt) | (simp only [c6 d,c5 d,c5 hb,d9 d,c8];exact pGt)) ?_
 refine c7 (B4 _ _) ?_
 refine c7 (Pu.g fun hb=>by have d:=hb;first | with_reducible exact J7 | (simp only [c6 d,c5 d,c5 hb,d8 d];with_reducible exact J7) | (simp only [c6 d,c5 d,c5 hb,d9 d,c8];with_reducible exact J7) | exact J7 | (simp only [c6 d,c5 d,c5 hb,d8 d];exact J7) | (simp only [c6 d,c5 d,c5 hb,d9 d,c8];exact J7)) ?_
 refine d4 (Ld.g fun hb=>by have d:=hb;first | exact (l1 Tryz.isAgg27 m rfl) | (simp only [c6 d,c5 d,c5 hb,d8 d];exact (l1 Tryz.isAgg27 m rfl)) | (simp only [c6 d,c5 d,c5 hb,d9 d,c8];exact (l1 Tryz.isAgg27 m rfl))) ?_
 refine c7 (Pu.g fun hb=>by have d:=hb;first | with_reducible exact (K6 _ _ _) | (simp only [c6 d,c5 d,c5 hb,d8 d];with_reducible exact (K6 _ _ _)) | (simp only [c6 d,c5 d,c5 hb,d9 d,c8];with_reducible exact (K6 _ _ _)) | exact (K6 _ _ _) | (simp only [c6 d,c5 d,c5 hb,d8 d];exact (K6 _ _ _)) | (simp only [c6 d,c5 d,c5 hb,d9 d,c8];exact (K6 _ _ _))) ?_
 refine c7 (Pu.g fun hb=>by have d:=hb;first | with_reducible exact pGt | (simp only [c6 d,c5 d,c5 hb,d8 d];with_reducible exact pGt) | (simp only [c6 d,c5 d,c5 hb,d9 d,c8];with_reducible exact pGt) | exact pGt | (simp only [c6 d,c5 d,c5 hb,d8 d];exact pGt) | (simp only [c6 d,c5 d,c5 hb,d9 d,c8];exact pGt)) ?_
 refine c7 (B4 _ _) ?_
 refine d4 (Ld.g fun hb=>by have d:=hb;first | exact (lW Tryz.isAgg30 Tryz.sizeOf30 rfl m) | (simp only [c6 d,c5 d,c5 hb,d8 d];exact (lW Tryz.isAgg30 Tryz.sizeOf30 rfl m)) | (simp only [c6 d,c5 d,c5 hb,d9 d,c8];exact (lW Tryz.isAgg30 Tryz.sizeOf30 rfl m))) ?_
 refine R1 [] (fun ac:Int=>(vi ac)) h m (fun az h=>?_) fun ac z bo i ba bb h=>?_
 ·have d:=az
  try simp only [c6 d,c5 d,c5 az]
  refine j6 Tryz.call33 h m ?_
  rintro _ z _ bo i bb ba ⟨ac,rfl,rfl,h⟩
  exact ⟨ac,z,rfl,i,ba,bb,h⟩
 refine c7 (Pu.g fun hb=>by have d:=hb;first | with_reducible exact pGt | (simp only [c6 d,c5 d,c5 hb,d8 d];with_reducible exact pGt) | (simp only [c6 d,c5 d,c5 hb,d9 d,c8];with_reducible exact pGt) | exact pGt | (simp only [c6 d,c5 d,c5 hb,d8 d];exact pGt) | (simp only [c6 d,c5 d,c5 hb,d9 d,c8];exact pGt)) ?_
 refine c7 (B4 _ _) ?_
 refine q9 h (fun _ h=>?_) (fun _ h=>?_)
 ·exact hR _ z _ _ i.drop ⟨90,rfl,rfl,h⟩
 ·refine c7 j9 (d4 (l1 Tryz.isAgg3 i rfl) (c7 pLs ?_))
  refine c7 (Pu.g fun hb=>by have d:=hb;first | with_reducible exact j9 | (simp only [c6 d,c5 d,c5 hb,d8 d];with_reducible exact j9) | (simp only [c6 d,c5 d,c5 hb,d9 d,c8];with_reducible exact j9) | exact j9 | (simp only [c6 d,c5 d,c5 hb,d8 d];exact j9) | (simp only [c6 d,c5 d,c5 hb,d9 d,c8];exact j9)) ?_
  refine d4 (Ld.g fun hb=>by have d:=hb;first | exact (l1 Tryz.isAgg3 i rfl) | (simp only [c6 d,c5 d,c5 hb,d8 d];exact (l1 Tryz.isAgg3 i rfl)) | (simp only [c6 d,c5 d,c5 hb,d9 d,c8];exact (l1 Tryz.isAgg3 i rfl))) ?_
  refine c7 (Pu.g fun hb=>by have d:=hb;first | with_reducible exact pGt | (simp only [c6 d,c5 d,c5 hb,d8 d];with_reducible exact pGt) | (simp only [c6 d,c5 d,c5 hb,d9 d,c8];with_reducible exact pGt) | exact pGt | (simp only [c6 d,c5 d,c5 hb,d8 d];exact pGt) | (simp only [c6 d,c5 d,c5 hb,d9 d,c8];exact pGt)) ?_
  refine c7 (B4 _ _) ?_
  refine c7 (Pu.g fun hb=>by have d:=hb;first | with_reducible exact o5 | (simp only [c6 d,c5 d,c5 hb,d8 d];with_reducible exact o5) | (simp only [c6 d,c5 d,c5 hb,d9 d,c8];with_reducible exact o5) | exact o5 | (simp only [c6 d,c5 d,c5 hb,d8 d];exact o5) | (simp only [c6 d,c5 d,c5 hb,d9 d,c8];exact o5)) ?_
  refine d4 (Ld.g fun hb=>by have d:=hb;first | exact (l1 Tryz.isAgg28 i rfl) | (simp only [c6 d,c5 d,c5 hb,d8 d];exact (l1 Tryz.isAgg28 i rfl)) | (simp only [c6 d,c5 d,c5 hb,d9 d,c8];exact (l1 Tryz.isAgg28 i rfl))) ?_
  refine c7 (Pu.g fun hb=>by have d:=hb;first | with_reducible exact (B6 _ _ _) | (simp only [c6 d,c5 d,c5 hb,d8 d];with_reducible exact (B6 _ _ _)) | (simp only [c6 d,c5 d,c5 hb,d9 d,c8];with_reducible exact (B6 _ _ _)) | exact (B6 _ _ _) | (simp only [c6 d,c5 d,c5 hb,d8 d];exact (B6 _ _ _)) | (simp only [c6 d,c5 d,c5 hb,d9 d,c8];exact (B6 _ _ _))) ?_
  refine c7 (Pu.g fun hb=>by have d:=hb;first | with_reducible exact pGt | (simp only [c6 d,c5 d,c5 hb,d8 d];with_reducible exact pGt) | (simp only [c6 d,c5 d,c5 hb,d9 d,c8];with_reducible exact pGt) | exact pGt | (simp only [c6 d,c5 d,c5 hb,d8 d];exact pGt) | (simp only [c6 d,c5 d,c5 hb,d9 d,c8];exact pGt)) ?_
  refine c7 (B4 _ _) ?_
  refine q9 h (fun _ h=>?_) (fun _ h=>?_)
  ·exact hR _ z _ _ i.drop ⟨91,rfl,rfl,h⟩
  ·refine c7 A9 (d4 (l1 Tryz.isAgg22 i rfl) (c7 (N2 _ _ _) (c7 pGt ?_)))
   refine c7 (Pu.g fun hb=>by have d:=hb;first | with_reducible exact v8 | (simp only [c6 d,c5 d,c5 hb,d8 d];with_reducible exact v8) | (simp only [c6 d,c5 d,c5 hb,d9 d,c8];with_reducible exact v8) | exact v8 | (simp only [c6 d,c5 d,c5 hb,d8 d];exact v8) | (simp only [c6 d,c5 d,c5 hb,d9 d,c8];exact v8)) ?_
   refine d4 (Ld.g fun hb=>by have d:=hb;first | exact (l1 Tryz.isAgg3 i rfl) | (simp only [c6 d,c5 d,c5 hb,d8 d];exact (l1 Tryz.isAgg3 i rfl)) | (simp only [c6 d,c5 d,c5 hb,d9 d,c8];exact (l1 Tryz.isAgg3 i rfl))) ?_
   refine c7 (Pu.g fun hb=>by have d:=hb;first | with_reducible exact pLs | (simp only [c6 d,c5 d,c5 hb,d8 d];with_reducible exact pLs) | (simp only [c6 d,c5 d,c5 hb,d9 d,c8];with_reducible exact pLs) | exact pLs | (simp only [c6 d,c5 d,c5 hb,d8 d];exact pLs) | (simp only [c6 d,c5 d,c5 hb,d9 d,c8];exact pLs)) ?_
   refine c7 (B4 _ _) ?_
   refine c7 (Pu.g fun hb=>by have d:=hb;first | with_reducible exact v8 | (simp only [c6 d,c5 d,c5 hb,d8 d];with_reducible exact v8) | (simp only [c6 d,c5 d,c5 hb,d9 d,c8];with_reducible exact v8) | exact v8 | (simp only [c6 d,c5 d,c5 hb,d8 d];exact v8) | (simp only [c6 d,c5 d,c5 hb,d9 d,c8];exact v8)) ?_
   refine d4 (Ld.g fun hb=>by have d:=hb;first | exact (l1 Tryz.isAgg3 i rfl) | (simp only [c6 d,c5 d,c5 hb,d8 d];exact (l1 Tryz.isAgg3 i rfl)) | (simp only [c6 d,c5 d,c5 hb,d9 d,c8];exact (l1 Tryz.isAgg3 i rfl))) ?_
   refine c7 (Pu.g fun hb=>by have d:=hb;first | with_reducible exact j9 | (simp only [c6 d,c5 d,c5 hb,d8 d];with_reducible exact j9) | (simp only [c6 d,c5 d,c5 hb,d9 d,c8];with_reducible exact j9) | exact j9 | (simp only [c6 d,c5 d,c5 hb,d8 d];exact j9) | (simp only [c6 d,c5 d,c5 hb,d9 d,c8];exact j9)) ?_
   refine d4 (Ld.g fun hb=>by have d:=hb;first | exact (l1 Tryz.isAgg3 i rfl) | (simp only [c6 d,c5 d,c5 hb,d8 d];exact (l1 Tryz.isAgg3 i rfl)) | (simp only [c6 d,c5 d,c5 hb,d9 d,c8];exact (l1 Tryz.isAgg3 i rfl))) ?_
   refine c7 (Pu.g fun hb=>by have d:=hb;first | with_reducible exact pGe | (simp only [c6 d,c5 d,c5 hb,d8 d];with_reducible exact pGe) | (simp only [c6 d,c5 d,c5 hb,d9 d,c8];with_reducible exact pGe) | exact pGe | (simp only [c6 d,c5 d,c5 hb,d8 d];exact pGe) | (simp only [c6 d,c5 d,c5 hb,d9 d,c8];exact pGe)) ?_
   refine c7 (B4 _ _) ?_
   refine q9 h (fun _ h=>?_) (fun _ h=>?_)
   ·exact hR _ z _ _ i.drop ⟨92,rfl,rfl,h⟩
   ·have hj1:∀H w (_:Inv w0 ps0 H0 H [bx j 30 (g8 x0)] w) (_:Z2 x0 H K),c1f (Value.pointer (some ⟨j,0,none⟩)) w R E:=by
     intro H w I h
     unfold c1f
     intro _
     unfold Z2 at h
     refine c7 j9 (d4 (l1 Tryz.isAgg3 I rfl) ?_)
     obtain ⟨bp,bq,h⟩:=h
     refine b5h I bp bq fun ad br dh bs bt di=>?_
     have hj2:∀(a7X:(List (List Int)))(Fs4j2:Frag)(H:Hp)(w:World)(_:RowsL 44 3 1 r9 ad a7X Fs4j2)(_:Inv w0 ps0 H0 H [bx j 30 (g8 x0),Fs4j2] w)(_:Z0 a7X x0 H K),c1e (Value.pointer (some ⟨j,0,none⟩)) (vs ad) w R E:=by
      intro a7X Fs4j2 H w c1m I h
      unfold c1e
      intro _
      unfold Z0 at h
      have hj3:∀H w (_:Inv w0 ps0 H0 H [bx j 30 (g8 x0)] w) (_:Y9 x0 H K),c1d w R E:=by
       intro H w I h
       unfold c1d
       intro _
       unfold Y9 at h
       exact hR _ H _ _ I.drop ⟨0,rfl,rfl,h⟩
      refine s8 fun j3 hx3=>?_
      obtain ⟨bu,bv,bw,bz,ca⟩:=Inv.freezeLL (I.bring 1) c1m (by decide)
      replace h:=h ad bu bw bz ca
      refine a0V (σ:=Int) (fun b0w=>[(vi b0w)]) (fun b0w=>[bx j 30 (g8 x0)]) h rfl bv ?_
      rintro b0w H dj w next4 n4 bc I h hn4
      simp only [List.map_cons,List.map_nil,List.cons.injEq,and_true] at bc
      have e7:=bc
      simp only [e7]
      unfold c4O
      unfold a1B at h
      refine c7 j9 (d4 (l1 Tryz.isAgg3 I rfl) (c7 pLs ?_))
      refine g9 h (fun _ h=>?_) (fun _ h=>?_)
      ·refine N5 I fun dk ao=>?_
       obtain ⟨cb,cc,cd,ap,h⟩:=h
       obtain ⟨dl,dm,ce,ap⟩:=ap
       refine f8 (a2L ce _ _ _ _ cb cc) ?_
       refine o3 (lW Tryz.isAgg30 Tryz.sizeOf30 rfl ao) ?_
       refine o3 (ld1 (v:=(vs cd)) Tryz.isAgg44 (ao.atH ap)) ?_
       refine j6 Tryz.call35 h ao ?_
       rintro _ cf _ dn bd _ _ ⟨dp,rfl,rfl,h⟩
       refine f8 (p8 _) ?_
       refine q9 h (fun _ h=>?_) (fun _ h=>?_)
       ·exact hR _ cf _ _ bd.drop ⟨92,rfl,rfl,h⟩
       ·refine c7 pAd ?_
        exact hn4 (IntKind.wrap .i64 (b0w+1)) _ _ h bd
      ·exact hx3 _ _ (hj3 H _ I h)
     refine s8 fun j2 hx2=>?_
     obtain ⟨aq,aa,cg,ch⟩:=h
     refine I0 (J:=fun n l w=>∃(s:(List (List Int))×Int)(H:Hp)(Fs4l5:Frag),n=aa s∧l=(match s with | (U1,U8)=>[(vi U8)])∧(match s with | (U1,U8)=>RowsL 44 3 1 r9 ad U1 Fs4l5)∧(match s with | (U1,U8)=>Inv w0 ps0 H0 H [bx j 30 (g8 x0),Fs4l5] w)∧aq s H) ⟨_,((List.replicate (x0.d3:Int).toNat ([]:List Int)),0),H,br,rfl,rfl,(RowsL.made (e:=3) N0 N1 bs),(bt.bring 1),cg⟩ ?_
     rintro dq dr w next5 ⟨⟨U1,U8⟩,H,Fs4l5,rfl,ar,b2l,I,ci⟩ hn5
     dsimp only at ar I b2l
     simp only [List.map_cons,List.map_nil,List.cons.injEq,and_true] at ar
     have e5:=ar
     simp only [e5]
     obtain ⟨n5,hm5,h⟩:∃n5:((List (List Int))×Int)→Hp→Prop,(∀s' H',n5 s' H'→aq s' H'∧aa s' < aa (U1,U8))∧Z1 x0 U1 U8 H n5 K:=⟨_,fun _ _ h=>h,ch (U1,U8) H (fun s' H'=>aq s' H'∧aa s' < aa (U1,U8)) ci (fun _ _ a b=>⟨a,b⟩)⟩
     unfold c4P
     unfold Z1 at h
     refine c7 o5 (d4 (l1 Tryz.isAgg28 I rfl) (c7 (B6 _ _ _) (c7 pLs ?_)))
     refine g9 h (fun _ h=>?_) (fun _ h=>?_)
     ·refine c7 o5 (d4 (l1 Tryz.isAgg28 I rfl) ?_)
      obtain ⟨cj,ck,au,av,h⟩:=h
      obtain ⟨ds,dt,cl,av⟩:=av
      refine c7 (M9 cl _ _ _ _ cj ck) (d4 (ldA (vs:=(i5 au)) Tryz.isAgg40 Tryz.sizeOf40 rfl (I.atH av)) ?_)
      refine y3 I Tryz.zeroValue40 (cs:=[(vi 0),(vi 0),(vi 0),(vi 0),(vi 0),(vi 0),(vi 0),(vi 0),(vi 0),(vi 0)]) rfl fun ae du cm dv=>?_
      refine A6 cm Tryz.sizeOf40 (vs:=(i5 au)) fun dw cn dx=>?_
      refine N5 cn fun dy f=>?_
      refine f8 A7 ?_
      refine o3 (l1 Tryz.isAgg3 f rfl) ?_
      refine f8 pLs ?_
      refine f8 (Pu.g fun hb=>by have d:=hb;first | with_reducible exact A7 | (simp only [c6 d,c5 d,c5 hb,d8 d];with_reducible exact A7) | (simp only [c6 d,c5 d,c5 hb,d9 d,c8];with_reducible exact A7) | exact A7 | (simp only [c6 d,c5 d,c5 hb,d8 d];exact A7) | (simp only [c6 d,c5 d,c5 hb,d9 d,c8];exact A7)) ?_
      refine f8 (Pu.g fun hb=>by have d:=hb;first | with_reducible exact j9 | (simp only [c6 d,c5 d,c5 hb,d8 d];with_reducible exact j9) | (simp only [c6 d,c5 d,c5 hb,d9 d,c8];with_reducible exact j9) | exact j9 | (simp only [c6 d,c5 d,c5 hb,d8 d];exact j9) | (simp only [c6 d,c5 d,c5 hb,d9 d,c8];exact j9)) ?_
      refine R2 (p:=(Value.pointer (some ⟨ae,0,none⟩))) rfl (Ld.g fun hb=>by have d:=hb;first | exact (l1 Tryz.isAgg3 f rfl) | (simp only [c6 d,c5 d,c5 hb,d8 d];exact (l1 Tryz.isAgg3 f rfl)) | (simp only [c6 d,c5 d,c5 hb,d9 d,c8];exact (l1 Tryz.isAgg3 f rfl))) ?_
      refine R2 (p:=(Value.pointer (some ⟨j,3,none⟩))) rfl (Ld.g fun hb=>by have d:=hb;first | exact (l1 Tryz.isAgg3 (f.bring 1) rfl) | (simp only [c6 d,c5 d,c5 hb,d8 d];exact (l1 Tryz.isAgg3 (f.bring 1) rfl)) | (simp only [c6 d,c5 d,c5 hb,d9 d,c8];exact (l1 Tryz.isAgg3 (f.bring 1) rfl))) ?_
      refine f8 (Pu.g fun hb=>by have d:=hb;first | with_reducible exact pGe | (simp only [c6 d,c5 d,c5 hb,d8 d];with_reducible exact pGe) | (simp only [c6 d,c5 d,c5 hb,d9 d,c8];with_reducible exact pGe) | exact pGe | (simp only [c6 d,c5 d,c5 hb,d8 d];exact pGe) | (simp only [c6 d,c5 d,c5 hb,d9 d,c8];exact pGe)) ?_
      refine f8 (B4 _ _) ?_
      refine f8 (Pu.g fun hb=>by have d:=hb;first | with_reducible exact D8 | (simp only [c6 d,c5 d,c5 hb,d8 d];with_reducible exact D8) | (simp only [c6 d,c5 d,c5 hb,d9 d,c8];with_reducible exact D8) | exact D8 | (simp only [c6 d,c5 d,c5 hb,d8 d];exact D8) | (simp only [c6 d,c5 d,c5 hb,d9 d,c8];exact D8)) ?_
      refine R2 (p:=(Value.pointer (some ⟨ae,1,none⟩))) rfl (Ld.g fun hb=>by have d:=hb;first | exact (l1 Tryz.isAgg3 f rfl) | (simp only [c6 d,c5 d,c5 hb,d8 d];exact (l1 Tryz.isAgg3 f rfl)) | (simp only [c6 d,c5 d,c5 hb,d9 d,c8];exact (l1 Tryz.isAgg3 f rfl))) ?_
      refine f8 (Pu.g fun hb=>by have d:=hb;first | with_reducible exact pLs | (simp only [c6 d,c5 d,c5 hb,d8 d];with_reducible exact pLs) | (simp only [c6 d,c5 d,c5 hb,d9 d,c8];with_reducible exact pLs) | exact pLs | (simp only [c6 d,c5 d,c5 hb,d8 d];exact pLs) | (simp only [c6 d,c5 d,c5 hb,d9 d,c8];exact pLs)) ?_
      refine f8 (B4 _ _) ?_
      refine f8 (Pu.g fun hb=>by have d:=hb;first | with_reducible exact D8 | (simp only [c6 d,c5 d,c5 hb,d8 d];with_reducible exact D8) | (simp only [c6 d,c5 d,c5 hb,d9 d,c8];with_reducible exact D8) | exact D8 | (simp only [c6 d,c5 d,c5 hb,d8 d];exact D8) | (simp only [c6 d,c5 d,c5 hb,d9 d,c8];exact D8)) ?_
      refine f8 (Pu.g fun hb=>by have d:=hb;first | with_reducible exact j9 | (simp only [c6 d,c5 d,c5 hb,d8 d];with_reducible exact j9) | (simp only [c6 d,c5 d,c5 hb,d9 d,c8];with_reducible exact j9) | exact j9 | (simp only [c6 d,c5 d,c5 hb,d8 d];exact j9) | (simp only [c6 d,c5 d,c5 hb,d9 d,c8];exact j9)) ?_
      refine R2 (p:=(Value.pointer (some ⟨ae,1,none⟩))) rfl (Ld.g fun hb=>by have d:=hb;first | exact (l1 Tryz.isAgg3 f rfl) | (simp only [c6 d,c5 d,c5 hb,d8 d];exact (l1 Tryz.isAgg3 f rfl)) | (simp only [c6 d,c5 d,c5 hb,d9 d,c8];exact (l1 Tryz.isAgg3 f rfl))) ?_
      refine R2 (p:=(Value.pointer (some ⟨j,3,none⟩))) rfl (Ld.g fun hb=>by have d:=hb;first | exact (l1 Tryz.isAgg3 (f.bring 1) rfl) | (simp only [c6 d,c5 d,c5 hb,d8 d];exact (l1 Tryz.isAgg3 (f.bring 1) rfl)) | (simp only [c6 d,c5 d,c5 hb,d9 d,c8];exact (l1 Tryz.isAgg3 (f.bring 1) rfl))) ?_
      refine f8 (Pu.g fun hb=>by have d:=hb;first | with_reducible exact pGe | (simp only [c6 d,c5 d,c5 hb,d8 d];with_reducible exact pGe) | (simp only [c6 d,c5 d,c5 hb,d9 d,c8];with_reducible exact pGe) | exact pGe | (simp only [c6 d,c5 d,c5 hb,d8 d];exact pGe) | (simp only [c6 d,c5 d,c5 hb,d9 d,c8];exact pGe)) ?_
      refine f8 (B4 _ _) ?_
      refine f8 (Pu.g fun hb=>by have d:=hb;first | with_reducible exact A7 | (simp only [c6 d,c5 d,c5 hb,d8 d];with_reducible exact A7) | (simp only [c6 d,c5 d,c5 hb,d9 d,c8];with_reducible exact A7) | exact A7 | (simp only [c6 d,c5 d,c5 hb,d8 d];exact A7) | (simp only [c6 d,c5 d,c5 hb,d9 d,c8];exact A7)) ?_
      refine f8 (Pu.g fun hb=>by have d:=hb;first | with_reducible exact v8 | (simp only [c6 d,c5 d,c5 hb,d8 d];with_reducible exact v8) | (simp only [c6 d,c5 d,c5 hb,d9 d,c8];with_reducible exact v8) | exact v8 | (simp only [c6 d,c5 d,c5 hb,d8 d];exact v8) | (simp only [c6 d,c5 d,c5 hb,d9 d,c8];exact v8)) ?_
      refine R2 (p:=(Value.pointer (some ⟨ae,0,none⟩))) rfl (Ld.g fun hb=>by have d:=hb;first | exact (l1 Tryz.isAgg3 f rfl) | (simp only [c6 d,c5 d,c5 hb,d8 d];exact (l1 Tryz.isAgg3 f rfl)) | (simp only [c6 d,c5 d,c5 hb,d9 d,c8];exact (l1 Tryz.isAgg3 f rfl))) ?_
      refine R2 (p:=(Value.pointer (some ⟨j,4,none⟩))) rfl (Ld.g fun hb=>by have d:=hb;first | exact (l1 Tryz.isAgg3 (f.bring 1) rfl) | (simp only [c6 d,c5 d,c5 hb,d8 d];exact (l1 Tryz.isAgg3 (f.bring 1) rfl)) | (simp only [c6 d,c5 d,c5 hb,d9 d,c8];exact (l1 Tryz.isAgg3 (f.bring 1) rfl))) ?_
      refine f8 (Pu.g fun hb=>by have d:=hb;first | with_reducible exact pEq | (simp only [c6 d,c5 d,c5 hb,d8 d];with_reducible exact pEq) | (simp only [c6 d,c5 d,c5 hb,d9 d,c8];with_reducible exact pEq) | exact pEq | (simp only [c6 d,c5 d,c5 hb,d8 d];exact pEq) | (simp only [c6 d,c5 d,c5 hb,d9 d,c8];exact pEq)) ?_
      refine f8 (B4 _ _) ?_
      refine f8 (Pu.g fun hb=>by have d:=hb;first | with_reducible exact A9 | (simp only [c6 d,c5 d,c5 hb,d8 d];with_reducible exact A9) | (simp only [c6 d,c5 d,c5 hb,d9 d,c8];with_reducible exact A9) | exact A9 | (simp only [c6 d,c5 d,c5 hb,d8 d];exact A9) | (simp only [c6 d,c5 d,c5 hb,d9 d,c8];exact A9)) ?_
      refine o3 (Ld.g fun hb=>by have d:=hb;first | exact (lW Tryz.isAgg40 Tryz.sizeOf40 rfl f) | (simp only [c6 d,c5 d,c5 hb,d8 d];exact (lW Tryz.isAgg40 Tryz.sizeOf40 rfl f)) | (simp only [c6 d,c5 d,c5 hb,d9 d,c8];exact (lW Tryz.isAgg40 Tryz.sizeOf40 rfl f))) ?_
      refine o3 (Ld.g fun hb=>by have d:=hb;first | exact (lW Tryz.isAgg30 Tryz.sizeOf30 rfl (f.bring 1)) | (simp only [c6 d,c5 d,c5 hb,d8 d];exact (lW Tryz.isAgg30 Tryz.sizeOf30 rfl (f.bring 1))) | (simp only [c6 d,c5 d,c5 hb,d9 d,c8];exact (lW Tryz.isAgg30 Tryz.sizeOf30 rfl (f.bring 1)))) ?_
      refine R2 (p:=(Value.pointer (some ⟨j,2,none⟩))) rfl (Ld.g fun hb=>by have d:=hb;first | exact (l1 Tryz.isAgg22 (f.bring 1) rfl) | (simp only [c6 d,c5 d,c5 hb,d8 d];exact (l1 Tryz.isAgg22 (f.bring 1) rfl)) | (simp only [c6 d,c5 d,c5 hb,d9 d,c8];exact (l1 Tryz.isAgg22 (f.bring 1) rfl))) ?_
      refine f8 (Pu.g fun hb=>by have d:=hb;first | with_reducible exact (N2 _ _ _) | (simp only [c6 d,c5 d,c5 hb,d8 d];with_reducible exact (N2 _ _ _)) | (simp only [c6 d,c5 d,c5 hb,d9 d,c8];with_reducible exact (N2 _ _ _)) | exact (N2 _ _ _) | (simp only [c6 d,c5 d,c5 hb,d8 d];exact (N2 _ _ _)) | (simp only [c6 d,c5 d,c5 hb,d9 d,c8];exact (N2 _ _ _))) ?_
      refine R1 [] (fun af:Int=>(vi af)) h f (fun be h=>?_) fun af bf co ag ah bg h=>?_
      ·have d:=be
       try simp only [c6 d,c5 d,c5 be]
       refine j6 Tryz.call33 h f ?_
       rintro _ bf _ co ag bg ah ⟨af,rfl,rfl,h⟩
       exact ⟨af,bf,rfl,ag,ah,bg,h⟩
      refine ⟨(a5o (p:=(Value.pointer (some ⟨j,2,none⟩))) rfl (ah _ (f.bring 1).lt1 (Inv.R6 (Fi:=[]) (f.bring 1)))),(ah _ f.lt1 (Inv.R6 (Fi:=[]) f)),?_⟩
      refine R1 [] (fun ai:Bool=>(vB ai)) h ag (fun bh h=>?_) fun ai aj cp ak bi bj h=>?_
      ·have d:=bh
       try simp only [c6 d,c5 d,c5 bh]
       refine j6 Tryz.call34 h ag ?_
       rintro _ aj _ cp ak bj bi ⟨ai,rfl,rfl,h⟩
       exact ⟨ai,aj,rfl,ak,bi,bj,h⟩
      refine f8 (Pu.g fun hb=>by have d:=hb;first | with_reducible exact (p8 _) | (simp only [c6 d,c5 d,c5 hb,d8 d];with_reducible exact (p8 _)) | (simp only [c6 d,c5 d,c5 hb,d9 d,c8];with_reducible exact (p8 _)) | exact (p8 _) | (simp only [c6 d,c5 d,c5 hb,d8 d];exact (p8 _)) | (simp only [c6 d,c5 d,c5 hb,d9 d,c8];exact (p8 _))) ?_
      refine f8 (B4 _ _) ?_
      refine q9 h (fun _ h=>?_) (fun _ h=>?_)
      ·exact hR _ aj _ _ ak.drop.drop.drop ⟨92,rfl,rfl,h⟩
      ·refine N5 ak fun dz aw=>?_
       refine f8 A7 ?_
       refine f8 A7 ?_
       refine o3 (l1 Tryz.isAgg3 aw rfl) ?_
       refine o3 (l1 Tryz.isAgg3 aw rfl) ?_
       obtain ⟨al,bk,cq,h⟩:=h
       obtain ⟨ea,bl,eb,ec,cr,o,u,ct,cu,ed,ab⟩:=RowsL.open_ b2l (aw.bring 2) cq
       obtain ⟨ee,ef,ax,eg⟩:=o.addr u
       refine f8 (a2L ax _ _ _ _ al (o.lt al u)) ?_
       refine o3 (ld1 (v:=(vs bl)) Tryz.isAgg44 (o.atW ab ax u)) ?_
       refine a0x (e:=3) (c:=r9) (xs:=[U8]) ab (a2p _) rfl rfl N0 N1 (nb rfl) fun eh ei ej cv am ay=>?_
       refine ⟨(ay _ (RowL.b5d o ab ax)),(ay _ (ab.bring 3).lt1),(ay _ (ab.bring 3).lt1),?_⟩
       obtain ⟨cw,h⟩:=h
       refine a5s (s:=bl) (xs:=bk) (am.bring 2) ct (cv.srcO ((am.bring 2).bring 1)) cw fun cx cy ek cz da db=>?_
       refine ⟨(db _ ((am.bring 2).bring 4).lt1 (Inv.b0f (((am.bring 2).bring 4).bring 1))),?_⟩
       obtain ⟨el,em,bm,en⟩:=o.addr u
       refine f8 (a2L bm _ _ _ _ al (o.lt al u)) ?_
       refine a2o (x:=cx) ((da.bring 1).drop.bring 1) o bm (List.getElem?_eq_some_iff.1 u).1 Tryz.sizeOf44 rfl fun dc eo dd de ep=>?_
       refine c7 pAd ?_
       exact hn5 _ _ _ (hm5 _ _ h).2 ⟨((U1.set (au.s7:Int).toNat (bk++[U8])),(IntKind.wrap .i64 (U8+1))),aj,(dc++(cy++cr)),rfl,rfl,(RowsL.b5c dd cz cu),(((((de.bring 2).bring 2).bring 2).b7p.bring 1).drop.bring 1),(hm5 _ _ h).1⟩
     ·exact hx2 _ _ (hj2 U1 Fs4l5 H _ b2l ((I.bring 1).bring 1) h)
    refine s8 fun j1 hx1=>?_
    refine a0V (σ:=Int) (fun b0x=>[(vi b0x)]) (fun b0x=>[bx j 30 (g8 x0)]) h rfl i ?_
    rintro b0x H eq w next6 n6 bn I h hn6
    simp only [List.map_cons,List.map_nil,List.cons.injEq,and_true] at bn
    have e3:=bn
    simp only [e3]
    unfold c4Q
    unfold a1C at h
    refine c7 A9 (d4 (l1 Tryz.isAgg22 I rfl) (c7 (N2 _ _ _) (c7 pLs ?_)))
    refine g9 h (fun _ h=>?_) (fun _ h=>?_)
    ·refine c7 A9 (d4 (l1 Tryz.isAgg22 I rfl) ?_)
     obtain ⟨q,r,an,y,h⟩:=h
     obtain ⟨er,es,t,y⟩:=y
     refine c7 (W6 t _ _ _ _ q r) (c7 L1 (d4 (ld1 (v:=(vi an.L0)) Tryz.isAgg3 ((I.atH y).sub (k:=1) (n:=1) (nb rfl))) (c7 pLs ?_)))
     refine c7 (Pu.g fun hb=>by have d:=hb;first | with_reducible exact A9 | (simp only [c6 d,c5 d,c5 hb,d8 d];with_reducible exact A9) | (simp only [c6 d,c5 d,c5 hb,d9 d,c8];with_reducible exact A9) | exact A9 | (simp only [c6 d,c5 d,c5 hb,d8 d];exact A9) | (simp only [c6 d,c5 d,c5 hb,d9 d,c8];exact A9)) ?_
     refine d4 (Ld.g fun hb=>by have d:=hb;first | exact (l1 Tryz.isAgg22 I rfl) | (simp only [c6 d,c5 d,c5 hb,d8 d];exact (l1 Tryz.isAgg22 I rfl)) | (simp only [c6 d,c5 d,c5 hb,d9 d,c8];exact (l1 Tryz.isAgg22 I rfl))) ?_
     try simp only [B8,G9,B9,C1,C3,C5,C0,C2,C4,C6]
     refine c7 (Pu.g fun hb=>by have d:=hb;first | with_reducible exact (W6 t _ _ _ _ q r) | (simp only [c6 d,c5 d,c5 hb,d8 d];with_reducible exact (W6 t _ _ _ _ q r)) | (simp only [c6 d,c5 d,c5 hb,d9 d,c8];with_reducible exact (W6 t _ _ _ _ q r)) | exact (W6 t _ _ _ _ q r) | (simp only [c6 d,c5 d,c5 hb,d8 d];exact (W6 t _ _ _ _ q r)) | (simp only [c6 d,c5 d,c5 hb,d9 d,c8];exact (W6 t _ _ _ _ q r))) ?_
     refine c7 (Pu.g fun hb=>by have d:=hb;first | with_reducible exact L1 | (simp only [c6 d,c5 d,c5 hb,d8 d];with_reducible exact L1) | (simp only [c6 d,c5 d,c5 hb,d9 d,c8];with_reducible exact L1) | exact L1 | (simp only [c6 d,c5 d,c5 hb,d8 d];exact L1) | (simp only [c6 d,c5 d,c5 hb,d9 d,c8];exact L1)) ?_
     refine d4 (Ld.g fun hb=>by have d:=hb;first | exact (ld1 (v:=(vi an.L0)) Tryz.isAgg3 ((I.atH y).sub (k:=1) (n:=1) (nb rfl))) | (simp only [c6 d,c5 d,c5 hb,d8 d];exact (ld1 (v:=(vi an.L0)) Tryz.isAgg3 ((I.atH y).sub (k:=1) (n:=1) (nb rfl)))) | (simp only [c6 d,c5 d,c5 hb,d9 d,c8];exact (ld1 (v:=(vi an.L0)) Tryz.isAgg3 ((I.atH y).sub (k:=1) (n:=1) (nb rfl))))) ?_
     refine c7 (Pu.g fun hb=>by have d:=hb;first | with_reducible exact pGt | (simp only [c6 d,c5 d,c5 hb,d8 d];with_reducible exact pGt) | (simp only [c6 d,c5 d,c5 hb,d9 d,c8];with_reducible exact pGt) | exact pGt | (simp only [c6 d,c5 d,c5 hb,d8 d];exact pGt) | (simp only [c6 d,c5 d,c5 hb,d9 d,c8];exact pGt)) ?_
     refine c7 (B4 _ _) ?_
     refine q9 h (fun _ h=>?_) (fun _ h=>?_)
     ·exact hR _ H _ _ I.drop ⟨92,rfl,rfl,h⟩
     ·refine c7 pAd ?_
      exact hn6 (IntKind.wrap .i64 (b0x+1)) _ _ h I
    ·exact hx1 _ _ (hj1 H _ I h)
def a2i(x0:f7)(H:Hp)(K:f7→Hp→Prop):Prop:=
 ∃e:List ByteArray,SlH H 1 D4 x0.t8 e∧(([]:List ByteArray).length+e.length)*17≤140737488355328∧
 ∃f:List o0,SlH H 2 m2 x0.o8 f∧(([]:List o0).length+f.length)*25≤140737488355328∧
 ∃g:List d5,SlH H 10 i5 x0.p5 g∧(([]:List d5).length+g.length)*81≤140737488355328∧
 ∀(a:Sl)(i:Hp),Hle H i→SlH i 1 D4 a e→a.n≤a.c→
 ∀(b:Sl)(j:Hp),Hle i j→SlH j 2 m2 b f→b.n≤b.c→
 ∀(d:Sl)(k:Hp),Hle j k→SlH k 10 i5 d g→d.n≤d.c→
 K (f7.mk a x0.o9 b x0.d3 x0.v2 d) k
theorem a9a(x0){H K}(h:a2i x0 H K):a1U x0 H K:=by
 refine Ct.of fun w0 w ps0 H0 R E I hR=>c7q ?_
 unfold a2i at h
 unfold F10
 refine D6 I (cs:=(g8 x0)) rfl fun ap aq n ar=>?_
 refine y3 n Tryz.zeroValue30 (cs:=[(nS),(vi 0),(nS),(vi 0),(vi 0),(nS)]) rfl fun au av d aw=>?_
 refine c7 J7 (d4 (l1 Tryz.isAgg27 (d.bring 1) rfl) ?_)
 obtain ⟨ax,p,h⟩:=h
 obtain ⟨q,h⟩:=h
 refine b8c (s:=⟨none,0,0⟩) (xs:=[]) d.nil (RowL.nil a6j a7u) (SlH.src d.nil p a6j) q fun a ay az g r ba=>?_
 simp only [List.nil_append] at g
 refine c7 J7 ?_
 refine P7 (r.bring 2) Tryz.sizeOf27 fun bb e bc=>?_
 refine c7 A9 (d4 (l1 Tryz.isAgg22 e rfl) ?_)
 obtain ⟨bd,t,h⟩:=h
 obtain ⟨u,h⟩:=h
 refine c2b (s:=⟨none,0,0⟩) (xs:=[]) e.nil (RowL.nil a6c a9n) (SlH.src e.nil t a6c) u fun b be bf i v bg=>?_
 simp only [List.nil_append] at i
 refine c7 A9 ?_
 refine P7 (v.bring 1) Tryz.sizeOf22 fun bh f bi=>?_
 refine c7 o5 (d4 (l1 Tryz.isAgg28 f rfl) ?_)
 obtain ⟨bj,y,h⟩:=h
 obtain ⟨z,h⟩:=h
 refine b8b (s:=⟨none,0,0⟩) (xs:=[]) f.nil (RowL.nil a2J a4M) (SlH.src f.nil y a2J) z fun c bk bl j aa bm=>?_
 simp only [List.nil_append] at j
 refine c7 o5 ?_
 refine P7 (aa.bring 1) Tryz.sizeOf28 fun bn k bo=>?_
 refine d4 (ldA Tryz.isAgg30 Tryz.sizeOf30 rfl (k.at1 (o:=0) (vs:=[(vs a),(vi x0.o9),(vs b),(vi x0.d3),(vi x0.v2),(vs c)]) (nb rfl) rfl)) ?_
 refine A6 (k.bring 4) Tryz.sizeOf30 (vs:=[(vs a),(vi x0.o9),(vs b),(vi x0.d3),(vi x0.v2),(vs c)]) fun bp l bq=>?_
 refine X5 Tryz.isAgg30 Tryz.sizeOf30 rfl l ?_
 obtain ⟨ab,ac,ad,ae,af⟩:=Inv.freezeC (l.bring 4) g (by decide)
 replace h:=h a ab ad ae af
 obtain ⟨ag,ah,ai,aj,ak⟩:=Inv.freezeC (ac.bring 3) i (by decide)
 replace h:=h b ag ai aj ak
 obtain ⟨m,al,am,an,ao⟩:=Inv.freezeC (ah.bring 2) j (by decide)
 replace h:=h c m am an ao
 exact hR _ m _ _ al.drop.drop ⟨(f7.mk a x0.o9 b x0.d3 x0.v2 c),rfl,rfl,h⟩
def a7E(x0:Int)(H:Hp)(K:Int→Hp→Prop):Prop:=
 (((decide (x0 < 1))||(decide (6 < x0)))=true→
 K 0 H)∧
 (((decide (x0 < 1))||(decide (6 < x0)))=false→
 (0:Int)≤x0∧(x0:Int) < 7∧
 K (([0,6,5,4,3,2,1]:List Int).getD (x0:Int).toNat 0) H)
theorem b0y(x0){H K}(h:a7E x0 H K):a3Y x0 H K:=by
 refine Ct.of fun w0 w ps0 H0 R E I hR=>c8c ?_
 unfold a7E at h
 unfold F59
 refine c7 pLs ?_
 try simp only [B8,G9,B9,C1,C3,C5,C0,C2,C4,C6]
 refine c7 (Pu.g fun hb=>by have a:=hb;first | with_reducible exact pGt | (simp only [c6 a,c5 a,c5 hb,d8 a];with_reducible exact pGt) | (simp only [c6 a,c5 a,c5 hb,d9 a,c8];with_reducible exact pGt) | exact pGt | (simp only [c6 a,c5 a,c5 hb,d8 a];exact pGt) | (simp only [c6 a,c5 a,c5 hb,d9 a,c8];exact pGt)) ?_
 refine c7 (B4 _ _) ?_
 refine q9 h (fun _ h=>?_) (fun _ h=>?_)
 ·exact hR _ H _ _ I ⟨0,rfl,rfl,h⟩
 ·refine c7 (b0h _ _ _ _ _ _ _) ?_
  obtain ⟨b,c,h⟩:=h
  refine c7 (c0S _ _ _ _ _ _ _ _ _ b c) ?_
  exact hR _ H _ _ I ⟨(([0,6,5,4,3,2,1]:List Int).getD (x0:Int).toNat 0),rfl,rfl,h⟩
def a4q(x0:j8)(x1:Int)(H:Hp)(K:Bool→Hp→Prop):Prop:=
 K ((decide (0≤x1))&&(decide (x1 < x0.y9.d3))) H
theorem b0z(x0 x1){H K}(h:a4q x0 x1 H K):W7 x0 x1 H K:=by
 refine Ct.of fun w0 w ps0 H0 R E I hR=>c7O ?_
 unfold a4q at h
 unfold F40
 refine D6 I (cs:=(g8 x0.y9)) rfl fun c d b e=>?_
 refine c7 pGe ?_
 try simp only [B8,G9,B9,C1,C3,C5,C0,C2,C4,C6]
 refine c7 (Pu.g fun hb=>by have a:=hb;first | with_reducible exact E2 | (simp only [c6 a,c5 a,c5 hb,d6 a];with_reducible exact E2) | (simp only [c6 a,c5 a,c5 hb,d7 a,c8];with_reducible exact E2) | exact E2 | (simp only [c6 a,c5 a,c5 hb,d6 a];exact E2) | (simp only [c6 a,c5 a,c5 hb,d7 a,c8];exact E2)) ?_
 refine c7 (Pu.g fun hb=>by have a:=hb;first | with_reducible exact j9 | (simp only [c6 a,c5 a,c5 hb,d6 a];with_reducible exact j9) | (simp only [c6 a,c5 a,c5 hb,d7 a,c8];with_reducible exact j9) | exact j9 | (simp only [c6 a,c5 a,c5 hb,d6 a];exact j9) | (simp only [c6 a,c5 a,c5 hb,d7 a,c8];exact j9)) ?_
 refine d4 (Ld.g fun hb=>by have a:=hb;first | exact (l1 Tryz.isAgg3 b rfl) | (simp only [c6 a,c5 a,c5 hb,d6 a];exact (l1 Tryz.isAgg3 b rfl)) | (simp only [c6 a,c5 a,c5 hb,d7 a,c8];exact (l1 Tryz.isAgg3 b rfl))) ?_
 refine c7 (Pu.g fun hb=>by have a:=hb;first | with_reducible exact pLs | (simp only [c6 a,c5 a,c5 hb,d6 a];with_reducible exact pLs) | (simp only [c6 a,c5 a,c5 hb,d7 a,c8];with_reducible exact pLs) | exact pLs | (simp only [c6 a,c5 a,c5 hb,d6 a];exact pLs) | (simp only [c6 a,c5 a,c5 hb,d7 a,c8];exact pLs)) ?_
 refine c7 (p9 _ _) ?_
 exact hR _ H _ _ b.drop ⟨((decide (0≤x1))&&(decide (x1 < x0.y9.d3))),rfl,rfl,h⟩
def L5(a:m1)(b:m1)(H:Hp)(K:m1→Hp→Prop):Prop:=
 K a H
def L6(b3j:Int)(b1c:Bool)(a:m1)(b:m1)(H:Hp)(K:m1→Hp→Prop):Prop:=
 (b1c=true→
 L5 (m1.mk true a.farr a.fop a.fa true) b H K)∧
 (b1c=false→
 (b3j=9→
 K (m1.mk true false false false false) H)∧
 (¬(b3j=9)→
 (b3j=10→
 L5 (m1.mk true true a.fop a.fa a.fb) b H K)∧
 (¬(b3j=10)→
 (b3j=11→
 L5 (m1.mk a.fdst true a.fop a.fa true) b H K)∧
 (¬(b3j=11)→
 (b3j=12→
 L5 (m1.mk a.fdst a.farr true a.fa true) b H K)∧
 (¬(b3j=12)→
 K (m1.mk false false false false false) H)))))
def S7(a6r:Int)(b1n:Bool)(a:m1)(b:m1)(H:Hp)(K:m1→Hp→Prop):Prop:=
 (b1n=true→
 L5 (m1.mk true a.farr a.fop a.fa a.fb) b H K)∧
 (b1n=false→
 (a6r=4→
 L6 a6r (decide (a6r=4)) a b H K)∧
 (¬(a6r=4)→
 (a6r=5→
 L6 a6r (decide (a6r=5)) a b H K)∧
 (¬(a6r=5)→
 (a6r=6→
 L6 a6r (decide (a6r=6)) a b H K)∧
 (¬(a6r=6)→
 (a6r=7→
 L6 a6r (decide (a6r=7)) a b H K)∧
 (¬(a6r=7)→
 L6 a6r (decide (a6r=8)) a b H K)))))
def a5S(x0:Int)(H:Hp)(K:m1→Hp→Prop):Prop:=
 (x0=2→
 S7 x0 (decide (x0=2)) (m1.mk false false false true false) (m1.mk false false false false false) H K)∧
 (¬(x0=2)→
 S7 x0 (decide (x0=3)) (m1.mk false false false true false) (m1.mk false false false false false) H K)
theorem b2m(x0){H K}(h:a5S x0 H K):a5F x0 H K:=by
 refine Ct.of fun w0 w ps0 H0 R E I hR=>c7W ?_
 unfold a5S at h
 unfold F53
 refine y3 I Tryz.zeroValue110 (cs:=[(vB false),(vB false),(vB false),(vB false),(vB false)]) rfl fun a t i u=>?_
 refine c7 (b8d _) ?_
 refine y3 i Tryz.zeroValue110 (cs:=[(vB false),(vB false),(vB false),(vB false),(vB false)]) rfl fun b v j y=>?_
 refine A6 j Tryz.sizeOf110 (vs:=[(vB false),(vB false),(vB false),(vB true),(vB false)]) fun z d aa=>?_
 have hj1:∀(c:m1) H w (_:Inv w0 ps0 H0 H [bx b 110 (a7R c),bx a 110 [(vB (m1.mk false false false false false).fdst),(vB (m1.mk false false false false false).farr),(vB (m1.mk false false false false false).fop),(vB (m1.mk false false false false false).fa),(vB (m1.mk false false false false false).fb)]] w) (_:L5 c (m1.mk false false false false false) H K),b8T (Value.pointer (some ⟨a,0,none⟩)) (Value.pointer (some ⟨b,0,none⟩)) w R E:=by
  intro c H w I h
  unfold b8T
  intro _
  unfold L5 at h
  refine d4 (lW Tryz.isAgg110 Tryz.sizeOf110 rfl I) ?_
  refine A6 (I.bring 1) Tryz.sizeOf110 (vs:=(a7R c)) fun ab e ac=>?_
  refine X5 Tryz.isAgg110 Tryz.sizeOf110 rfl e ?_
  exact hR _ H _ _ e.drop.drop ⟨c,rfl,rfl,h⟩
 refine s8 fun j1 hx1=>?_
 have hj2:∀(b1n:Bool) H w (_:Inv w0 ps0 H0 H [bx b 110 [(vB (m1.mk false false false true false).fdst),(vB (m1.mk false false false true false).farr),(vB (m1.mk false false false true false).fop),(vB (m1.mk false false false true false).fa),(vB (m1.mk false false false true false).fb)],bx a 110 [(vB (m1.mk false false false false false).fdst),(vB (m1.mk false false false false false).farr),(vB (m1.mk false false false false false).fop),(vB (m1.mk false false false false false).fa),(vB (m1.mk false false false false false).fb)]] w) (_:S7 x0 b1n (m1.mk false false false true false) (m1.mk false false false false false) H K),b8V (Value.pointer (some ⟨a,0,none⟩)) (Value.pointer (some ⟨b,0,none⟩)) (vi x0) (vB b1n) w j1 R E:=by
  intro b1n H w I h
  unfold b8V
  intro _
  unfold S7 at h
  refine q9 h (fun _ h=>?_) (fun _ h=>?_)
  ·refine c7 a8K ?_
   refine P7 I Tryz.sizeOf4 fun ad k ae=>?_
   exact hx1 _ _ (hj1 (m1.mk true (m1.mk false false false true false).farr (m1.mk false false false true false).fop (m1.mk false false false true false).fa (m1.mk false false false true false).fb) H _ ((k.bring 1).bring 1) h)
  ·have hj3:∀(b1c:Bool) H w (_:Inv w0 ps0 H0 H [bx b 110 [(vB (m1.mk false false false true false).fdst),(vB (m1.mk false false false true false).farr),(vB (m1.mk false false false true false).fop),(vB (m1.mk false false false true false).fa),(vB (m1.mk false false false true false).fb)],bx a 110 [(vB (m1.mk false false false false false).fdst),(vB (m1.mk false false false false false).farr),(vB (m1.mk false false false false false).fop),(vB (m1.mk false false false false false).fa),(vB (m1.mk false false false false false).fb)]] w) (_:L6 x0 b1c (m1.mk false false false true false) (m1.mk false false false false false) H K),b8U (Value.pointer (some ⟨a,0,none⟩)) (Value.pointer (some ⟨b,0,none⟩)) (vi x0) (vB b1c) w j1 R E:=by
    intro b1c H w I h
    unfold b8U
    intro _
    unfold L6 at h
    refine q9 h (fun _ h=>?_) (fun _ h=>?_)
    ·refine c7 a8K ?_
     refine P7 I Tryz.sizeOf4 fun af l ag=>?_
     refine c7 a1K ?_
     refine P7 l Tryz.sizeOf4 fun ah m ai=>?_
     exact hx1 _ _ (hj1 (m1.mk true (m1.mk false false false true false).farr (m1.mk false false false true false).fop (m1.mk false false false true false).fa true) H _ ((m.bring 1).bring 1) h)
    ·refine c7 pEq ?_
     refine g9 h (fun _ h=>?_) (fun _ h=>?_)
     ·refine c7 (b8e _) ?_
      refine A6 (I.bring 1) Tryz.sizeOf110 (vs:=[(vB true),(vB false),(vB false),(vB false),(vB false)]) fun aj f ak=>?_
      refine X5 Tryz.isAgg110 Tryz.sizeOf110 rfl f ?_
      exact hR _ H _ _ f.drop.drop ⟨(m1.mk true false false false false),rfl,rfl,h⟩
     ·refine c7 pEq ?_
      refine g9 h (fun _ h=>?_) (fun _ h=>?_)
      ·refine c7 a8K ?_
       refine P7 I Tryz.sizeOf4 fun al n am=>?_
       refine c7 a3P ?_
       refine P7 n Tryz.sizeOf4 fun an o ao=>?_
       exact hx1 _ _ (hj1 (m1.mk true true (m1.mk false false false true false).fop (m1.mk false false false true false).fa (m1.mk false false false true false).fb) H _ ((o.bring 1).bring 1) h)
      ·refine c7 pEq ?_
       refine g9 h (fun _ h=>?_) (fun _ h=>?_)
       ·refine c7 a3P ?_
        refine P7 I Tryz.sizeOf4 fun ap p aq=>?_
        refine c7 a1K ?_
        refine P7 p Tryz.sizeOf4 fun ar q au=>?_
        exact hx1 _ _ (hj1 (m1.mk (m1.mk false false false true false).fdst true (m1.mk false false false true false).fop (m1.mk false false false true false).fa true) H _ ((q.bring 1).bring 1) h)
       ·refine c7 pEq ?_
        refine g9 h (fun _ h=>?_) (fun _ h=>?_)
        ·refine c7 a4Y ?_
         refine P7 I Tryz.sizeOf4 fun av r aw=>?_
         refine c7 a1K ?_
         refine P7 r Tryz.sizeOf4 fun ax s ay=>?_
         exact hx1 _ _ (hj1 (m1.mk (m1.mk false false false true false).fdst (m1.mk false false false true false).farr true (m1.mk false false false true false).fa true) H _ ((s.bring 1).bring 1) h)
        ·refine c7 (c0R) ?_
         refine A6 (I.bring 1) Tryz.sizeOf110 (vs:=[(vB false),(vB false),(vB false),(vB false),(vB false)]) fun az g ba=>?_
         refine X5 Tryz.isAgg110 Tryz.sizeOf110 rfl g ?_
         exact hR _ H _ _ g.drop.drop ⟨(m1.mk false false false false false),rfl,rfl,h⟩
   refine s8 fun j3 hx3=>?_
   refine c7 pEq ?_
   refine g9 h (fun _ h=>?_) (fun _ h=>?_)
   ·exact hx3 _ _ (hj3 (decide (x0=4)) H _ ((I.bring 1).bring 1) h)
   ·refine c7 pEq ?_
    refine g9 h (fun _ h=>?_) (fun _ h=>?_)
    ·exact hx3 _ _ (hj3 (decide (x0=5)) H _ ((I.bring 1).bring 1) h)
    ·refine c7 pEq ?_
     refine g9 h (fun _ h=>?_) (fun _ h=>?_)
     ·exact hx3 _ _ (hj3 (decide (x0=6)) H _ ((I.bring 1).bring 1) h)
     ·refine c7 pEq ?_
      refine g9 h (fun _ h=>?_) (fun _ h=>?_)
      ·exact hx3 _ _ (hj3 (decide (x0=7)) H _ ((I.bring 1).bring 1) h)
      ·refine c7 pEq ?_
       exact hx3 _ _ (hj3 (decide (x0=8)) H _ ((I.bring 1).bring 1) h)
 refine s8 fun j2 hx2=>?_
 refine c7 pEq ?_
 refine g9 h (fun _ h=>?_) (fun _ h=>?_)
 ·exact hx2 _ _ (hj2 (decide (x0=2)) H _ ((d.bring 1).bring 1) h)
 ·refine c7 pEq ?_
  exact hx2 _ _ (hj2 (decide (x0=3)) H _ ((d.bring 1).bring 1) h)
def a2B(a:j8)(b:f7)(H:Hp)(K:Int→Hp→Prop):Prop:=
 K 0 H
def a5v(c9o:Sl)(c5d:Int)(d:j8)(e:f7)(a6J:Int)(H:Hp)(n4:Int→Hp→Prop)(K:Int→Hp→Prop):Prop:=
 (a6J < c5d→
 (0:Int)≤a6J∧(a6J:Int) < c9o.n∧∃a:Sl,EltH H c9o a6J 1 [(vs a)]∧
 a7j a H (fun b c=>
 ((!b)=true→
 K 92 c)∧
 ((!b)=false→
 n4 (IntKind.wrap .i64 (a6J+1)) c)))∧
 (¬(a6J < c5d)→
 a2B d e H K)
def a2C(a7Y:(List (List d5)))(e:j8)(d:f7)(H:Hp)(K:Int→Hp→Prop):Prop:=
 ∀(a:Sl)(b:Hp),Hle H b→SlHH b 10 i5 a a7Y→a.n≤a.c→
 TL (0:Int) b fun(s:Int) H n4=>a5v a d.d3 e d s H n4 K
def a2D(c5e:Sl)(c5f:Int)(c:j8)(f:f7)(a6y:(List (List d5)))(a5j:Int)(H:Hp)(n5:((List (List d5))×Int)→Hp→Prop)(K:Int→Hp→Prop):Prop:=
 (a5j < c5f→
 (0:Int)≤a5j∧(a5j:Int) < c5e.n∧∃a:d5,EltH H c5e a5j 10 (i5 a)∧
 a4a c a H (fun d e=>
 ((!d)=true→
 K 92 e)∧
 ((!d)=false→
 (0:Int)≤a.s7∧∃b:List d5,(a6y)[(a.s7:Int).toNat]? = some b∧
 (b.length+([a]:List d5).length)*81≤140737488355328∧
 n5 ((a6y.set (a.s7:Int).toNat (b++[a])),(IntKind.wrap .i64 (a5j+1))) e)))∧
 (¬(a5j < c5f)→
 a2C a6y c f H K)
def a2E(a:f7)(H:Hp)(K:Int→Hp→Prop):Prop:=
 W7 (j8.mk a) a.v2 H (fun b c=>
 ((!b)=true→
 K 92 c)∧
 ((!b)=false→
 (0:Int)≤a.d3∧a.d3*25≤140737488355328∧
 TL (((List.replicate (a.d3:Int).toNat ([]:List d5)),0):(List (List d5))×Int) c fun(s:(List (List d5))×Int) H n5=>a2D a.p5 (a.p5.n:Int) (j8.mk a) a s.1 s.2 H n5 K))
def a5w(c5g:Sl)(c5h:Int)(b:f7)(a7Z:Int)(H:Hp)(n6:Int→Hp→Prop)(K:Int→Hp→Prop):Prop:=
 (a7Z < c5h→
 (0:Int)≤a7Z∧(a7Z:Int) < c5g.n∧∃a:o0,EltH H c5g a7Z 2 (m2 a)∧
 (((decide (a.L0 < 1))||(decide (1024 < a.L0)))=true→
 K 92 H)∧
 (((decide (a.L0 < 1))||(decide (1024 < a.L0)))=false→
 n6 (IntKind.wrap .i64 (a7Z+1)) H))∧
 (¬(a7Z < c5h)→
 a2E b H K)
def a6K(x0:f7)(H:Hp)(K:Int→Hp→Prop):Prop:=
 ((((decide (x0.o9 < 0))||(decide (64 < x0.o9)))||(decide (64 < (IntKind.wrap .i64 ((x0.t8.n:Int)+x0.o9)))))=true→
 K 90 H)∧
 ((((decide (x0.o9 < 0))||(decide (64 < x0.o9)))||(decide (64 < (IntKind.wrap .i64 ((x0.t8.n:Int)+x0.o9)))))=false→
 ((((decide (x0.d3 < 1))||(decide (4096 < x0.d3)))||(decide (8192 < (x0.p5.n:Int))))=true→
 K 91 H)∧
 ((((decide (x0.d3 < 1))||(decide (4096 < x0.d3)))||(decide (8192 < (x0.p5.n:Int))))=false→
 (16 < (x0.o8.n:Int)→
 K 92 H)∧
 (¬(16 < (x0.o8.n:Int))→
 TL (0:Int) H fun(s:Int) H n6=>a5w x0.o8 (x0.o8.n:Int) x0 s H n6 K)))
theorem b3k(x0){H K}(h:a6K x0 H K):S4 x0 H K:=by
 refine Ct.of fun w0 w ps0 H0 R E I hR=>c7v ?_
 unfold a6K at h
 unfold F15
 refine D6 I (cs:=(g8 x0)) rfl fun i co f cp=>?_
 refine c7 z7 (d4 (l1 Tryz.isAgg3 f rfl) (c7 pLs ?_))
 refine c7 (Pu.g fun hb=>by have d:=hb;first | with_reducible exact z7 | (simp only [c6 d,c5 d,c5 hb,d8 d];with_reducible exact z7) | (simp only [c6 d,c5 d,c5 hb,d9 d,c8];with_reducible exact z7) | exact z7 | (simp only [c6 d,c5 d,c5 hb,d8 d];exact z7) | (simp only [c6 d,c5 d,c5 hb,d9 d,c8];exact z7)) ?_
 refine d4 (Ld.g fun hb=>by have d:=hb;first | exact (l1 Tryz.isAgg3 f rfl) | (simp only [c6 d,c5 d,c5 hb,d8 d];exact (l1 Tryz.isAgg3 f rfl)) | (simp only [c6 d,c5 d,c5 hb,d9 d,c8];exact (l1 Tryz.isAgg3 f rfl))) ?_
 refine c7 (Pu.g fun hb=>by have d:=hb;first | with_reducible exact pGt | (simp only [c6 d,c5 d,c5 hb,d8 d];with_reducible exact pGt) | (simp only [c6 d,c5 d,c5 hb,d9 d,c8];with_reducible exact pGt) | exact pGt | (simp only [c6 d,c5 d,c5 hb,d8 d];exact pGt) | (simp only [c6 d,c5 d,c5 hb,d9 d,c8];exact pGt)) ?_
 refine c7 (B4 _ _) ?_
 refine c7 (Pu.g fun hb=>by have d:=hb;first | with_reducible exact J7 | (simp only [c6 d,c5 d,c5 hb,d8 d];with_reducible exact J7) | (simp only [c6 d,c5 d,c5 hb,d9 d,c8];with_reducible exact J7) | exact J7 | (simp only [c6 d,c5 d,c5 hb,d8 d];exact J7) | (simp only [c6 d,c5 d,c5 hb,d9 d,c8];exact J7)) ?_
 refine d4 (Ld.g fun hb=>by have d:=hb;first | exact (l1 Tryz.isAgg27 f rfl) | (simp only [c6 d,c5 d,c5 hb,d8 d];exact (l1 Tryz.isAgg27 f rfl)) | (simp only [c6 d,c5 d,c5 hb,d9 d,c8];exact (l1 Tryz.isAgg27 f rfl))) ?_
 refine c7 (Pu.g fun hb=>by have d:=hb;first | with_reducible exact (K6 _ _ _) | (simp only [c6 d,c5 d,c5 hb,d8 d];with_reducible exact (K6 _ _ _)) | (simp only [c6 d,c5 d,c5 hb,d9 d,c8];with_reducible exact (K6 _ _ _)) | exact (K6 _ _ _) | (simp only [c6 d,c5 d,c5 hb,d8 d];exact (K6 _ _ _)) | (simp only [c6 d,c5 d,c5 hb,d9 d,c8];exact (K6 _ _ _))) ?_
 refine c7 (Pu.g fun hb=>by have d:=hb;first | with_reducible exact z7 | (simp only [c6 d,c5 d,c5 hb,d8 d];with_reducible exact z7) | (simp only [c6 d,c5 d,c5 hb,d9 d,c8];with_reducible exact z7) | exact z7 | (simp only [c6 d,c5 d,c5 hb,d8 d];exact z7) | (simp only [c6 d,c5 d,c5 hb,d9 d,c8];exact z7)) ?_
 refine d4 (Ld.g fun hb=>by have d:=hb;first | exact (l1 Tryz.isAgg3 f rfl) | (simp only [c6 d,c5 d,c5 hb,d8 d];exact (l1 Tryz.isAgg3 f rfl)) | (simp only [c6 d,c5 d,c5 hb,d9 d,c8];exact (l1 Tryz.isAgg3 f rfl))) ?_
 refine c7 (Pu.g fun hb=>by have d:=hb;first | with_reducible exact pAd | (simp only [c6 d,c5 d,c5 hb,d8 d];with_reducible exact pAd) | (simp only [c6 d,c5 d,c5 hb,d9 d,c8];with_reducible exact pAd) | exact pAd | (simp only [c6 d,c5 d,c5 hb,d8 d];exact pAd) | (simp only [c6 d,c5 d,c5 hb,d9 d,c8];exact pAd)) ?_
 refine c7 (Pu.g fun hb=>by have d:=hb;first | with_reducible exact pGt | (simp only [c6 d,c5 d,c5 hb,d8 d];with_reducible exact pGt) | (simp only [c6 d,c5 d,c5 hb,d9 d,c8];with_reducible exact pGt) | exact pGt | (simp only [c6 d,c5 d,c5 hb,d8 d];exact pGt) | (simp only [c6 d,c5 d,c5 hb,d9 d,c8];exact pGt)) ?_
 refine c7 (B4 _ _) ?_
 refine q9 h (fun _ h=>?_) (fun _ h=>?_)
 ·exact hR _ H _ _ f.drop ⟨90,rfl,rfl,h⟩
 ·refine c7 j9 (d4 (l1 Tryz.isAgg3 f rfl) (c7 pLs ?_))
  refine c7 (Pu.g fun hb=>by have d:=hb;first | with_reducible exact j9 | (simp only [c6 d,c5 d,c5 hb,d8 d];with_reducible exact j9) | (simp only [c6 d,c5 d,c5 hb,d9 d,c8];with_reducible exact j9) | exact j9 | (simp only [c6 d,c5 d,c5 hb,d8 d];exact j9) | (simp only [c6 d,c5 d,c5 hb,d9 d,c8];exact j9)) ?_
  refine d4 (Ld.g fun hb=>by have d:=hb;first | exact (l1 Tryz.isAgg3 f rfl) | (simp only [c6 d,c5 d,c5 hb,d8 d];exact (l1 Tryz.isAgg3 f rfl)) | (simp only [c6 d,c5 d,c5 hb,d9 d,c8];exact (l1 Tryz.isAgg3 f rfl))) ?_
  refine c7 (Pu.g fun hb=>by have d:=hb;first | with_reducible exact pGt | (simp only [c6 d,c5 d,c5 hb,d8 d];with_reducible exact pGt) | (simp only [c6 d,c5 d,c5 hb,d9 d,c8];with_reducible exact pGt) | exact pGt | (simp only [c6 d,c5 d,c5 hb,d8 d];exact pGt) | (simp only [c6 d,c5 d,c5 hb,d9 d,c8];exact pGt)) ?_
  refine c7 (B4 _ _) ?_
  refine c7 (Pu.g fun hb=>by have d:=hb;first | with_reducible exact o5 | (simp only [c6 d,c5 d,c5 hb,d8 d];with_reducible exact o5) | (simp only [c6 d,c5 d,c5 hb,d9 d,c8];with_reducible exact o5) | exact o5 | (simp only [c6 d,c5 d,c5 hb,d8 d];exact o5) | (simp only [c6 d,c5 d,c5 hb,d9 d,c8];exact o5)) ?_
  refine d4 (Ld.g fun hb=>by have d:=hb;first | exact (l1 Tryz.isAgg28 f rfl) | (simp only [c6 d,c5 d,c5 hb,d8 d];exact (l1 Tryz.isAgg28 f rfl)) | (simp only [c6 d,c5 d,c5 hb,d9 d,c8];exact (l1 Tryz.isAgg28 f rfl))) ?_
  refine c7 (Pu.g fun hb=>by have d:=hb;first | with_reducible exact (B6 _ _ _) | (simp only [c6 d,c5 d,c5 hb,d8 d];with_reducible exact (B6 _ _ _)) | (simp only [c6 d,c5 d,c5 hb,d9 d,c8];with_reducible exact (B6 _ _ _)) | exact (B6 _ _ _) | (simp only [c6 d,c5 d,c5 hb,d8 d];exact (B6 _ _ _)) | (simp only [c6 d,c5 d,c5 hb,d9 d,c8];exact (B6 _ _ _))) ?_
  refine c7 (Pu.g fun hb=>by have d:=hb;first | with_reducible exact pGt | (simp only [c6 d,c5 d,c5 hb,d8 d];with_reducible exact pGt) | (simp only [c6 d,c5 d,c5 hb,d9 d,c8];with_reducible exact pGt) | exact pGt | (simp only [c6 d,c5 d,c5 hb,d8 d];exact pGt) | (simp only [c6 d,c5 d,c5 hb,d9 d,c8];exact pGt)) ?_
  refine c7 (B4 _ _) ?_
  refine q9 h (fun _ h=>?_) (fun _ h=>?_)
  ·exact hR _ H _ _ f.drop ⟨91,rfl,rfl,h⟩
  ·refine c7 A9 (d4 (l1 Tryz.isAgg22 f rfl) (c7 (N2 _ _ _) (c7 pGt ?_)))
   refine g9 h (fun _ h=>?_) (fun _ h=>?_)
   ·exact hR _ H _ _ f.drop ⟨92,rfl,rfl,h⟩
   ·have hj1:∀H w (_:Inv w0 ps0 H0 H [bx i 30 (g8 x0)] w) (_:a2E x0 H K),b8s (Value.pointer (some ⟨i,0,none⟩)) w R E:=by
     intro H w I h
     unfold b8s
     intro _
     unfold a2E at h
     refine d4 (lW Tryz.isAgg30 Tryz.sizeOf30 rfl I) (c7 (b9S _ _ _ _ _ _ _ _ _ _ _ _) ?_)
     refine y3 I Tryz.zeroValue90 (cs:=[(nS),(vi 0),(nS),(vi 0),(vi 0),(nS)]) rfl fun t cq ay cr=>?_
     refine A6 ay Tryz.sizeOf90 (vs:=(g8 x0)) fun ct aa cu=>?_
     refine d4 (lW Tryz.isAgg90 Tryz.sizeOf90 rfl aa) (c7 v8 (d4 (l1 Tryz.isAgg3 (aa.bring 1) rfl) ?_))
     refine j6 Tryz.call40 h aa ?_
     rintro _ al _ cv ab _ _ ⟨cw,rfl,rfl,h⟩
     refine c7 (p8 _) ?_
     refine q9 h (fun _ h=>?_) (fun _ h=>?_)
     ·exact hR _ al _ _ ab.drop.drop ⟨92,rfl,rfl,h⟩
     ·refine c7 j9 (d4 (l1 Tryz.isAgg3 (ab.bring 1) rfl) ?_)
      obtain ⟨az,ba,h⟩:=h
      refine c7o ab az ba fun u bb cx bc am cy=>?_
      have hj2:∀(a7Y:(List (List d5)))(Fs6j2:Frag)(H:Hp)(w:World)(_:RowsL 28 40 10 i5 u a7Y Fs6j2)(_:Inv w0 ps0 H0 H [bx t 90 [(Value.slice (j8.mk x0).y9.t8.a (j8.mk x0).y9.t8.n (j8.mk x0).y9.t8.c),(vi (j8.mk x0).y9.o9),(Value.slice (j8.mk x0).y9.o8.a (j8.mk x0).y9.o8.n (j8.mk x0).y9.o8.c),(vi (j8.mk x0).y9.d3),(vi (j8.mk x0).y9.v2),(Value.slice (j8.mk x0).y9.p5.a (j8.mk x0).y9.p5.n (j8.mk x0).y9.p5.c)],bx i 30 (g8 x0),Fs6j2] w)(_:a2C a7Y (j8.mk x0) x0 H K),b8r (Value.pointer (some ⟨i,0,none⟩)) (vs u) w R E:=by
       intro a7Y Fs6j2 H w c1n I h
       unfold b8r
       intro _
       unfold a2C at h
       have hj3:∀H w (_:Inv w0 ps0 H0 H [bx t 90 [(Value.slice (j8.mk x0).y9.t8.a (j8.mk x0).y9.t8.n (j8.mk x0).y9.t8.c),(vi (j8.mk x0).y9.o9),(Value.slice (j8.mk x0).y9.o8.a (j8.mk x0).y9.o8.n (j8.mk x0).y9.o8.c),(vi (j8.mk x0).y9.d3),(vi (j8.mk x0).y9.v2),(Value.slice (j8.mk x0).y9.p5.a (j8.mk x0).y9.p5.n (j8.mk x0).y9.p5.c)],bx i 30 (g8 x0)] w) (_:a2B (j8.mk x0) x0 H K),b8q w R E:=by
        intro H w I h
        unfold b8q
        intro _
        unfold a2B at h
        exact hR _ H _ _ I.drop.drop ⟨0,rfl,rfl,h⟩
       refine s8 fun j3 hx3=>?_
       refine c7 j9 (d4 (l1 Tryz.isAgg3 (I.bring 1) rfl) ?_)
       obtain ⟨bd,be,bf,bg,bh⟩:=Inv.freezeLL (I.bring 2) c1n (by decide)
       replace h:=h u bd bf bg bh
       refine a0V (σ:=Int) (fun a6J=>[(vi a6J)]) (fun a6J=>[bx t 90 [(Value.slice (j8.mk x0).y9.t8.a (j8.mk x0).y9.t8.n (j8.mk x0).y9.t8.c),(vi (j8.mk x0).y9.o9),(Value.slice (j8.mk x0).y9.o8.a (j8.mk x0).y9.o8.n (j8.mk x0).y9.o8.c),(vi (j8.mk x0).y9.d3),(vi (j8.mk x0).y9.v2),(Value.slice (j8.mk x0).y9.p5.a (j8.mk x0).y9.p5.n (j8.mk x0).y9.p5.c)],bx i 30 (g8 x0)]) h rfl ((be.bring 1).bring 1) ?_
       rintro a6J H cz w next4 n4 an I h hn4
       simp only [List.map_cons,List.map_nil,List.cons.injEq,and_true] at an
       have e100:=an
       simp only [e100]
       unfold c2m
       unfold a5v at h
       refine c7 pLs ?_
       refine g9 h (fun _ h=>?_) (fun _ h=>?_)
       ·obtain ⟨bi,bj,bk,ac,h⟩:=h
        obtain ⟨da,db,bl,ac⟩:=ac
        refine c7 (b4G bl _ _ _ _ bi bj) (d4 (ld1 (v:=(vs bk)) Tryz.isAgg28 (I.atH ac)) ?_)
        refine j6 Tryz.call42 h I ?_
        rintro _ bm _ dc ao _ _ ⟨dd,rfl,rfl,h⟩
        refine c7 (p8 _) ?_
        refine q9 h (fun _ h=>?_) (fun _ h=>?_)
        ·exact hR _ bm _ _ ao.drop.drop ⟨92,rfl,rfl,h⟩
        ·refine c7 pAd ?_
         exact hn4 (IntKind.wrap .i64 (a6J+1)) _ _ h ((ao.bring 1).bring 1)
       ·exact hx3 _ _ (hj3 H _ ((I.bring 1).bring 1) h)
      refine s8 fun j2 hx2=>?_
      refine c7 o5 (d4 (l1 Tryz.isAgg28 (am.bring 2) rfl) (c7 (B6 _ _ _) ?_))
      obtain ⟨ad,q,bn,bo⟩:=h
      refine I0 (J:=fun n l w=>∃(s:(List (List d5))×Int)(H:Hp)(Fs6l5:Frag),n=q s∧l=(match s with | (a6y,a5j)=>[(vi a5j)])∧(match s with | (a6y,a5j)=>RowsL 28 40 10 i5 u a6y Fs6l5)∧(match s with | (a6y,a5j)=>Inv w0 ps0 H0 H [bx t 90 [(Value.slice (j8.mk x0).y9.t8.a (j8.mk x0).y9.t8.n (j8.mk x0).y9.t8.c),(vi (j8.mk x0).y9.o9),(Value.slice (j8.mk x0).y9.o8.a (j8.mk x0).y9.o8.n (j8.mk x0).y9.o8.c),(vi (j8.mk x0).y9.d3),(vi (j8.mk x0).y9.v2),(Value.slice (j8.mk x0).y9.p5.a (j8.mk x0).y9.p5.n (j8.mk x0).y9.p5.c)],bx i 30 (g8 x0),Fs6l5] w)∧ad s H) ⟨_,((List.replicate (x0.d3:Int).toNat ([]:List d5)),0),al,bb,rfl,rfl,(RowsL.made (e:=40) a2J a4M bc),((am.bring 2).bring 2),bn⟩ ?_
      rintro de df w next5 ⟨⟨a6y,a5j⟩,H,Fs6l5,rfl,ae,c1o,I,bp⟩ hn5
      dsimp only at ae I c1o
      simp only [List.map_cons,List.map_nil,List.cons.injEq,and_true] at ae
      have e77:=ae
      simp only [e77]
      obtain ⟨n5,hm5,h⟩:∃n5:((List (List d5))×Int)→Hp→Prop,(∀s' H',n5 s' H'→ad s' H'∧q s' < q (a6y,a5j))∧a2D x0.p5 (x0.p5.n:Int) (j8.mk x0) x0 a6y a5j H n5 K:=⟨_,fun _ _ h=>h,bo (a6y,a5j) H (fun s' H'=>ad s' H'∧q s' < q (a6y,a5j)) bp (fun _ _ a b=>⟨a,b⟩)⟩
      unfold c2n
      unfold a2D at h
      refine c7 pLs ?_
      refine g9 h (fun _ h=>?_) (fun _ h=>?_)
      ·obtain ⟨bq,br,r,af,h⟩:=h
       obtain ⟨dg,dh,bs,af⟩:=af
       refine c7 (M9 bs _ _ _ _ bq br) (d4 (ldA (vs:=(i5 r)) Tryz.isAgg40 Tryz.sizeOf40 rfl (I.atH af)) ?_)
       refine y3 I Tryz.zeroValue40 (cs:=[(vi 0),(vi 0),(vi 0),(vi 0),(vi 0),(vi 0),(vi 0),(vi 0),(vi 0),(vi 0)]) rfl fun di dj bt dk=>?_
       refine A6 bt Tryz.sizeOf40 (vs:=(i5 r)) fun dl ag dm=>?_
       refine d4 (ldA Tryz.isAgg90 Tryz.sizeOf90 rfl ((ag.bring 1).at1 (o:=0) (vs:=[(Value.slice (j8.mk x0).y9.t8.a (j8.mk x0).y9.t8.n (j8.mk x0).y9.t8.c),(vi (j8.mk x0).y9.o9),(Value.slice (j8.mk x0).y9.o8.a (j8.mk x0).y9.o8.n (j8.mk x0).y9.o8.c),(vi (j8.mk x0).y9.d3),(vi (j8.mk x0).y9.v2),(Value.slice (j8.mk x0).y9.p5.a (j8.mk x0).y9.p5.n (j8.mk x0).y9.p5.c)]) (nb rfl) rfl)) (d4 (lW Tryz.isAgg40 Tryz.sizeOf40 rfl ag) ?_)
       refine j6 Tryz.call41 h ag ?_
       rintro _ ap _ dn aq _ _ ⟨dp,rfl,rfl,h⟩
       refine c7 (p8 _) ?_
       refine q9 h (fun _ h=>?_) (fun _ h=>?_)
       ·exact hR _ ap _ _ aq.drop.drop.drop.drop ⟨92,rfl,rfl,h⟩
       ·refine N5 aq fun dq ah=>?_
        refine f8 A7 ?_
        refine f8 A7 ?_
        refine o3 (l1 Tryz.isAgg3 ah rfl) ?_
        refine o3 (l1 Tryz.isAgg3 ah rfl) ?_
        obtain ⟨y,ar,bu,h⟩:=h
        obtain ⟨dr,au,ds,dt,bv,j,k,bw,bz,du,m⟩:=RowsL.open_ c1o (ah.bring 3) bu
        obtain ⟨dv,dw,ai,dx⟩:=j.addr k
        refine f8 (b4G ai _ _ _ _ y (j.lt y k)) ?_
        refine o3 (ld1 (v:=(vs au)) Tryz.isAgg28 (j.atW m ai k)) ?_
        refine o3 (lW Tryz.isAgg40 Tryz.sizeOf40 rfl (m.bring 3)) ?_
        refine a0x (e:=40) (c:=i5) (xs:=[r]) m (c0j _ _ _ _ _ _ _ _ _ _) rfl rfl a2J a4M (nb rfl) fun dy dz ea ca z aj=>?_
        refine ⟨(aj _ (RowL.b5d j m ai)),(aj _ (m.bring 3).lt1),(aj _ (m.bring 3).lt1),?_⟩
        obtain ⟨cb,h⟩:=h
        refine b8b (s:=au) (xs:=ar) (z.bring 2) bw (ca.srcO ((z.bring 2).bring 1)) cb fun cc cd eb ce cf cg=>?_
        refine ⟨(cg _ ((z.bring 2).bring 4).lt1 (Inv.b0f (((z.bring 2).bring 4).bring 1))),?_⟩
        obtain ⟨ec,ed,av,ee⟩:=j.addr k
        refine f8 (b4G av _ _ _ _ y (j.lt y k)) ?_
        refine a2o (x:=cc) ((cf.bring 1).drop.bring 1) j av (List.getElem?_eq_some_iff.1 k).1 Tryz.sizeOf28 rfl fun ch ef ci cj eg=>?_
        refine c7 pAd ?_
        exact hn5 _ _ _ (hm5 _ _ h).2 ⟨((a6y.set (r.s7:Int).toNat (ar++[r])),(IntKind.wrap .i64 (a5j+1))),ap,(ch++(cd++bv)),rfl,rfl,(RowsL.b5c ci ce bz),((((((cj.bring 2).bring 2).bring 2).b7p.bring 1).drop.bring 2).bring 2),(hm5 _ _ h).1⟩
      ·exact hx2 _ _ (hj2 a6y Fs6l5 H _ c1o (((I.bring 2).bring 2).bring 2) h)
    refine s8 fun j1 hx1=>?_
    refine c7 A9 (d4 (l1 Tryz.isAgg22 f rfl) (c7 (N2 _ _ _) ?_))
    refine a0V (σ:=Int) (fun a7Z=>[(vi a7Z)]) (fun a7Z=>[bx i 30 (g8 x0)]) h rfl f ?_
    rintro a7Z H eh w next6 n6 aw I h hn6
    simp only [List.map_cons,List.map_nil,List.cons.injEq,and_true] at aw
    have e51:=aw
    simp only [e51]
    unfold c2o
    unfold a5w at h
    refine c7 pLs ?_
    refine g9 h (fun _ h=>?_) (fun _ h=>?_)
    ·obtain ⟨ck,cl,ax,ak,h⟩:=h
     obtain ⟨ei,ej,cm,ak⟩:=ak
     refine c7 (W6 cm _ _ _ _ ck cl) (d4 (ldA (vs:=(m2 ax)) Tryz.isAgg70 Tryz.sizeOf70 rfl (I.atH ak)) ?_)
     refine y3 I Tryz.zeroValue70 (cs:=[(eS),(vi 0)]) rfl fun ek el cn em=>?_
     refine A6 cn Tryz.sizeOf70 (vs:=(m2 ax)) fun en p eo=>?_
     refine c7 L1 (d4 (l1 Tryz.isAgg3 p rfl) (c7 pLs ?_))
     refine c7 (Pu.g fun hb=>by have d:=hb;first | with_reducible exact L1 | (simp only [c6 d,c5 d,c5 hb,d8 d];with_reducible exact L1) | (simp only [c6 d,c5 d,c5 hb,d9 d,c8];with_reducible exact L1) | exact L1 | (simp only [c6 d,c5 d,c5 hb,d8 d];exact L1) | (simp only [c6 d,c5 d,c5 hb,d9 d,c8];exact L1)) ?_
     refine d4 (Ld.g fun hb=>by have d:=hb;first | exact (l1 Tryz.isAgg3 p rfl) | (simp only [c6 d,c5 d,c5 hb,d8 d];exact (l1 Tryz.isAgg3 p rfl)) | (simp only [c6 d,c5 d,c5 hb,d9 d,c8];exact (l1 Tryz.isAgg3 p rfl))) ?_
     refine c7 (Pu.g fun hb=>by have d:=hb;first | with_reducible exact pGt | (simp only [c6 d,c5 d,c5 hb,d8 d];with_reducible exact pGt) | (simp only [c6 d,c5 d,c5 hb,d9 d,c8];with_reducible exact pGt) | exact pGt | (simp only [c6 d,c5 d,c5 hb,d8 d];exact pGt) | (simp only [c6 d,c5 d,c5 hb,d9 d,c8];exact pGt)) ?_
     refine c7 (B4 _ _) ?_
     refine q9 h (fun _ h=>?_) (fun _ h=>?_)
     ·exact hR _ H _ _ p.drop.drop ⟨92,rfl,rfl,h⟩
     ·refine c7 pAd ?_
      exact hn6 (IntKind.wrap .i64 (a7Z+1)) _ _ h p.drop
    ·exact hx1 _ _ (hj1 H _ I h)
def S8(d1Q:Int)(d1J:Sl)(b2b:Int)(d0k:Int)(b1C:(List Bool))(d1K:Sl)(d1L:f7)(b1D:(List Int))(H:Hp)(n2:(Int×(List Bool)×(List Int))→Hp→Prop)(K:Sl→(List Bool)→Sl→(List Int)→Hp→Prop):Prop:=
 n2 ((IntKind.wrap .i64 (d0k+1)),b1C,b1D) H
def a1p(b9p:Int)(b1E:(List Bool))(d1M:Sl)(d1N:f7)(a9b:(List Int))(H:Hp)(K:Sl→(List Bool)→Sl→(List Int)→Hp→Prop):Prop:=
 (a9b.length+([b9p]:List Int).length)*9≤140737488355328∧
 K (Sl.mk none 0 0) b1E (Sl.mk none 0 0) (a9b++[b9p]) H
def a1q(a6o:Int)(a1P:Sl)(b7w:Int)(b7x:Sl)(b3W:f7)(a2F:Int)(a3i:(List Bool))(a4r:(List Int))(H:Hp)(n2:(Int×(List Bool)×(List Int))→Hp→Prop)(K:Sl→(List Bool)→Sl→(List Int)→Hp→Prop):Prop:=
 (a2F < b7w→
 (0:Int)≤a2F∧(a2F:Int) < a1P.n∧∃a:Int,EltH H a1P a2F 1 [(vi a)]∧
 (0:Int)≤a∧(a:Int) < b3W.p5.n∧∃b:d5,EltH H b3W.p5 a 10 (i5 b)∧
 (0:Int)≤b.fTo∧∃c:Bool,(a3i)[(b.fTo:Int).toNat]? = some c∧
 ((!c)=true→
 a3p b.fTo (Sl.mk none 0 0) a3i b7x b3W (Sl.mk none 0 0) a4r H (fun e y0__106 f y1__106 d=>
 S8 a6o a1P b7w a2F y0__106 b7x b3W y1__106 d n2 K))∧
 ((!c)=false→
 S8 a6o a1P b7w a2F a3i b7x b3W a4r H n2 K))∧
 (¬(a2F < b7w)→
 a1p a6o a3i b7x b3W a4r H K)
def a5T(x0:Int)(x1:Sl)(x1_:(List Bool))(x2:Sl)(x3:f7)(x5:Sl)(x5_:(List Int))(H:Hp)(K:Sl→(List Bool)→Sl→(List Int)→Hp→Prop):Prop:=
 (0:Int)≤x0∧∃b:Bool,(x1_)[(x0:Int).toNat]? = some b∧
 (0:Int)≤x0∧(x0:Int) < x2.n∧∃a:Sl,EltH H x2 x0 1 [(vs a)]∧
 TL ((0,(x1_.set (x0:Int).toNat true),x5_):Int×(List Bool)×(List Int)) H fun(s:Int×(List Bool)×(List Int)) H n2=>a1q x0 a (a.n:Int) x2 x3 s.1 s.2.1 s.2.2 H n2 K
theorem b2n(x0 x1 x1_ x2 x3 x5 x5_){H K}(h:a5T x0 x1 x1_ x2 x3 x5 x5_ H K):a3p x0 x1 x1_ x2 x3 x5 x5_ H K:=by
 intro g1 g2 g3 g4 g5 sx1_ Fx1_ sx5_ Fx5_ hx1_ hx5_
 refine Ct.of fun w0 w ps0 H0 R E I hR=>c7M ?_
 unfold a5T at h
 unfold F38
 refine d4 (l1 Tryz.isAgg47 I rfl) ?_
 obtain ⟨t,bd,g,h⟩:=h
 obtain ⟨be,bf,u,bg⟩:=hx1_.addr g
 refine c7 (a0y u _ _ _ _ t (hx1_.lt t g)) ?_
 refine a2o (x:=true) (I.bring 1) hx1_ u (List.getElem?_eq_some_iff.1 g).1 Tryz.sizeOf4 rfl fun ac bh ad i bi=>?_
 have hj1:∀(b1E:(List Bool))(a9b:(List Int))(b5s:Sl)(Fcp1j1:Frag)(b5t:Sl)(Fcp5j1:Frag) H w (_:RowL 4 1 L8 b5s b1E Fcp1j1) (_:RowL 3 1 r9 b5t a9b Fcp5j1) (_:Inv w0 ps0 H0 H [bx g1 47 [(vs b5s)],bx g2 83 [(vs x2)],bx g3 30 (g8 x3),bx g4 87 [(Value.func (.func 38) #[] #[(Value.pointer (some ⟨g1,0,none⟩)),(Value.pointer (some ⟨g2,0,none⟩)),(Value.pointer (some ⟨g3,0,none⟩)),(Value.pointer (some ⟨g4,0,none⟩)),(Value.pointer (some ⟨g5,0,none⟩))])],bx g5 44 [(vs b5t)],Fcp1j1,Fcp5j1] w) (_:a1p x0 b1E x2 x3 a9b H K),b8O (vi x0) (Value.pointer (some ⟨g5,0,none⟩)) w R E:=by
  intro b1E a9b b5s Fcp1j1 b5t Fcp5j1 H w c9p c9q I h
  unfold b8O
  intro _
  unfold a1p at h
  refine d4 (l1 Tryz.isAgg44 (I.bring 4) rfl) ?_
  refine a0x (e:=3) (c:=r9) (xs:=[x0]) I (a2p _) rfl rfl N0 N1 (nb rfl) fun bj bk bl ae y bm=>?_
  obtain ⟨af,h⟩:=h
  refine a5s (s:=b5t) (xs:=a9b) (y.bring 7) c9q (ae.srcO ((y.bring 7).bring 1)) af fun z ag bn ah ai bo=>?_
  refine A6 ((ai.bring 1).drop.bring 5) Tryz.sizeOf44 (vs:=[(vs z)]) fun bp aj bq=>?_
  exact hR _ H _ _ (((((((aj.bring 1).bring 1).bring 5).bring 5).bring 5).bring 6).bring 6) ⟨(Sl.mk none 0 0),b1E,(Sl.mk none 0 0),(a9b++[x0]),b5s,Fcp1j1,z,ag,rfl,rfl,c9p,ah,h⟩
 refine s8 fun j1 hx1=>?_
 refine d4 (l1 Tryz.isAgg83 (i.bring 2) rfl) ?_
 obtain ⟨ak,al,d,j,h⟩:=h
 obtain ⟨br,bs,am,j⟩:=j
 refine c7 (a2L am _ _ _ _ ak al) (d4 (ld1 (v:=(vs d)) Tryz.isAgg44 (i.atH j)) (c7 (D3 _ _ _) ?_))
 obtain ⟨m,f,an,ao⟩:=h
 refine I0 (J:=fun n l w=>∃(s:Int×(List Bool)×(List Int))(H:Hp)(b1F:Sl)(Fcp1l2:Frag)(b1G:Sl)(Fcp5l2:Frag),n=f s∧l=(match s with | (a2F,a3i,a4r)=>[(vi a2F)])∧(match s with | (a2F,a3i,a4r)=>RowL 4 1 L8 b1F a3i Fcp1l2)∧(match s with | (a2F,a3i,a4r)=>RowL 3 1 r9 b1G a4r Fcp5l2)∧(match s with | (a2F,a3i,a4r)=>Inv w0 ps0 H0 H [bx g1 47 [(vs b1F)],bx g2 83 [(vs x2)],bx g3 30 (g8 x3),bx g4 87 [(Value.func (.func 38) #[] #[(Value.pointer (some ⟨g1,0,none⟩)),(Value.pointer (some ⟨g2,0,none⟩)),(Value.pointer (some ⟨g3,0,none⟩)),(Value.pointer (some ⟨g4,0,none⟩)),(Value.pointer (some ⟨g5,0,none⟩))])],bx g5 44 [(vs b1G)],Fcp1l2,Fcp5l2] w)∧m s H) ⟨_,(0,(x1_.set (x0:Int).toNat true),x5_),H,sx1_,ac,sx5_,Fx5_,rfl,rfl,ad,hx5_,(((((((i.bring 6).bring 1).bring 6).bring 6).bring 6).bring 6).bring 6),an⟩ ?_
 rintro bt bu w next2 ⟨⟨a2F,a3i,a4r⟩,H,b1F,Fcp1l2,b1G,Fcp5l2,rfl,o,b0A,b5u,I,ap⟩ hn2
 dsimp only at o I b0A b5u
 simp only [List.map_cons,List.map_nil,List.cons.injEq,and_true] at o
 have e18:=o
 simp only [e18]
 obtain ⟨n2,hm2,h⟩:∃n2:(Int×(List Bool)×(List Int))→Hp→Prop,(∀s' H',n2 s' H'→m s' H'∧f s' < f (a2F,a3i,a4r))∧a1q x0 d (d.n:Int) x2 x3 a2F a3i a4r H n2 K:=⟨_,fun _ _ h=>h,ao (a2F,a3i,a4r) H (fun s' H'=>m s' H'∧f s' < f (a2F,a3i,a4r)) ap (fun _ _ a b=>⟨a,b⟩)⟩
 unfold c2D
 unfold a1q at h
 refine c7 pLs ?_
 refine g9 h (fun _ h=>?_) (fun _ h=>?_)
 ·have hj3:∀(b1C:(List Bool))(b1D:(List Int))(b5v:Sl)(Fcp1j3:Frag)(b5w:Sl)(Fcp5j3:Frag) H w (_:RowL 4 1 L8 b5v b1C Fcp1j3) (_:RowL 3 1 r9 b5w b1D Fcp5j3) (_:Inv w0 ps0 H0 H [bx g1 47 [(vs b5v)],bx g2 83 [(vs x2)],bx g3 30 (g8 x3),bx g4 87 [(Value.func (.func 38) #[] #[(Value.pointer (some ⟨g1,0,none⟩)),(Value.pointer (some ⟨g2,0,none⟩)),(Value.pointer (some ⟨g3,0,none⟩)),(Value.pointer (some ⟨g4,0,none⟩)),(Value.pointer (some ⟨g5,0,none⟩))])],bx g5 44 [(vs b5w)],Fcp1j3,Fcp5j3] w) (_:S8 x0 d (d.n:Int) a2F b1C x2 x3 b1D H n2 K),b8P (vi x0) (Value.pointer (some ⟨g1,0,none⟩)) (Value.pointer (some ⟨g3,0,none⟩)) (Value.pointer (some ⟨g4,0,none⟩)) (Value.pointer (some ⟨g5,0,none⟩)) (vs d) (vi (d.n:Int)) (vi a2F) w next2 R E:=by
   intro b1C b1D b5v Fcp1j3 b5w Fcp5j3 H w c9r c9s I h
   unfold b8P
   intro _
   unfold S8 at h
   refine c7 pAd ?_
   exact hn2 _ _ _ (hm2 _ _ h).2 ⟨((IntKind.wrap .i64 (a2F+1)),b1C,b1D),H,b5v,Fcp1j3,b5w,Fcp5j3,rfl,rfl,c9r,c9s,(((((((I.bring 6).bring 6).bring 6).bring 6).bring 6).bring 6).bring 6),(hm2 _ _ h).1⟩
  refine s8 fun j3 hx3=>?_
  obtain ⟨aq,ar,au,p,h⟩:=h
  obtain ⟨bv,bw,av,p⟩:=p
  refine c7 (J4 av _ _ _ _ aq ar) (d4 (ld1 (v:=(vi au)) Tryz.isAgg3 (I.atH p)) (c7 o5 (d4 (l1 Tryz.isAgg28 (I.bring 2) rfl) ?_)))
  obtain ⟨aw,ax,ay,q,h⟩:=h
  obtain ⟨bz,ca,az,q⟩:=q
  refine c7 (M9 az _ _ _ _ aw ax) (c7 D8 (d4 (ld1 (v:=(vi ay.fTo)) Tryz.isAgg3 ((I.atH q).sub (k:=1) (n:=1) (nb rfl))) (d4 (l1 Tryz.isAgg47 I rfl) ?_)))
  obtain ⟨aa,ba,r,h⟩:=h
  obtain ⟨cb,cc,ab,cd⟩:=b0A.addr r
  refine c7 (a0y ab _ _ _ _ aa (b0A.lt aa r)) (d4 (ld1 (v:=(vB ba)) Tryz.isAgg4 (b0A.atW (I.bring 5) ab r)) (c7 (p8 _) ?_))
  refine q9 h (fun _ h=>?_) (fun _ h=>?_)
  ·refine d4 (l1 Tryz.isAgg87 (I.bring 3) rfl) ?_
   refine a5p (cap:=[(Value.pointer (some ⟨g1,0,none⟩)),(Value.pointer (some ⟨g2,0,none⟩)),(Value.pointer (some ⟨g3,0,none⟩)),(Value.pointer (some ⟨g4,0,none⟩)),(Value.pointer (some ⟨g5,0,none⟩))]) Tryz.call38 (h g1 g2 g3 g4 g5 b1F Fcp1l2 b1G Fcp5l2 b0A b5u) (((((((I.bring 6).bring 5).bring 5).bring 5).bring 5).bring 6).bring 6) ?_
   rintro _ bb _ ce bc _ _ ⟨cf,y0__106,cg,y1__106,sy0__106,Fy0__106,sy1__106,Fy1__106,rfl,rfl,hy0__106,hy1__106,h⟩
   exact hx3 _ _ (hj3 y0__106 y1__106 sy0__106 Fy0__106 sy1__106 Fy1__106 bb _ hy0__106 hy1__106 (((((((bc.bring 6).bring 2).bring 6).bring 6).bring 6).bring 6).bring 6) h)
  ·exact hx3 _ _ (hj3 a3i a4r b1F Fcp1l2 b1G Fcp5l2 H _ b0A b5u (((((((I.bring 6).bring 6).bring 6).bring 6).bring 6).bring 6).bring 6) h)
 ·exact hx1 _ _ (hj1 a3i a4r b1F Fcp1l2 b1G Fcp5l2 H _ b0A b5u (((((((I.bring 6).bring 6).bring 6).bring 6).bring 6).bring 6).bring 6) h)
def a0m(a4V:(List Int))(a5x:Int)(a5U:Int)(H:Hp)(n1:((List Int)×Int×Int)→Hp→Prop)(K:(List Int)→Hp→Prop):Prop:=
 (a5x < a5U→
 (0:Int)≤a5U∧∃a:Int,(a4V)[(a5U:Int).toNat]? = some a∧
 (0:Int)≤a5x∧∃b:Int,(a4V)[(a5x:Int).toNat]? = some b∧
 (0:Int)≤a5x∧∃c:Int,(a4V)[(a5x:Int).toNat]? = some c∧
 (0:Int)≤a5U∧∃d:Int,(a4V.set (a5x:Int).toNat a)[(a5U:Int).toNat]? = some d∧
 n1 (((a4V.set (a5x:Int).toNat a).set (a5U:Int).toNat b),(IntKind.wrap .i64 (a5x+1)),(IntKind.wrap .i64 (a5U-1))) H)∧
 (¬(a5x < a5U)→
 K a4V H)
def a4s(x0:(List Int))(H:Hp)(K:(List Int)→Hp→Prop):Prop:=
 TL ((x0,0,(IntKind.wrap .i64 ((x0.length:Int)-1))):(List Int)×Int×Int) H fun(s:(List Int)×Int×Int) H n1=>a0m s.1 s.2.1 s.2.2 H n1 K
theorem b0B(x0){H K}(h:a4s x0 H K):a4b x0 H K:=by
 intro sx0 Fx0 hx0
 refine Ct.of fun w0 w ps0 H0 R E I hR=>c7N ?_
 unfold a4s at h
 unfold F39
 refine c7 (a6T Tryz.underlying44 hx0) (c7 pSu ?_)
 obtain ⟨d,c,ac,ad⟩:=h
 refine I0 (J:=fun n l w=>∃(s:(List Int)×Int×Int)(H:Hp)(Fs0l1:Frag),n=c s∧l=(match s with | (a4V,a5x,a5U)=>[(vi a5x),(vi a5U)])∧(match s with | (a4V,a5x,a5U)=>RowL 3 1 r9 sx0 a4V Fs0l1)∧(match s with | (a4V,a5x,a5U)=>Inv w0 ps0 H0 H [Fs0l1] w)∧d s H) ⟨_,(x0,0,(IntKind.wrap .i64 ((x0.length:Int)-1))),H,Fx0,rfl,rfl,hx0,I,ac⟩ ?_
 rintro aj ak w next1 ⟨⟨a4V,a5x,a5U⟩,H,Fs0l1,rfl,e,a8a,I,ae⟩ hn1
 dsimp only at e I a8a
 simp only [List.map_cons,List.map_nil,List.cons.injEq,and_true] at e
 obtain ⟨e2,e3⟩:=e
 simp only [e2,e3]
 obtain ⟨n1,hm1,h⟩:∃n1:((List Int)×Int×Int)→Hp→Prop,(∀s' H',n1 s' H'→d s' H'∧c s' < c (a4V,a5x,a5U))∧a0m a4V a5x a5U H n1 K:=⟨_,fun _ _ h=>h,ad (a4V,a5x,a5U) H (fun s' H'=>d s' H'∧c s' < c (a4V,a5x,a5U)) ae (fun _ _ a b=>⟨a,b⟩)⟩
 unfold c2E
 unfold a0m at h
 refine c7 pLs ?_
 refine g9 h (fun _ h=>?_) (fun _ h=>?_)
 ·refine N5 I fun al f=>?_
  obtain ⟨q,g,i,h⟩:=h
  obtain ⟨am,an,r,ao⟩:=a8a.addr i
  refine f8 (J4 r _ _ _ _ q (a8a.lt q i)) ?_
  obtain ⟨t,j,k,h⟩:=h
  obtain ⟨ap,aq,u,ar⟩:=a8a.addr k
  refine f8 (J4 u _ _ _ _ t (a8a.lt t k)) ?_
  refine o3 (ld1 (v:=(vi g)) Tryz.isAgg3 (a8a.atW f r i)) ?_
  refine o3 (ld1 (v:=(vi j)) Tryz.isAgg3 (a8a.atW f u k)) ?_
  obtain ⟨y,au,m,h⟩:=h
  obtain ⟨av,aw,z,ax⟩:=a8a.addr m
  refine f8 (J4 z _ _ _ _ y (a8a.lt y m)) ?_
  refine a2o (x:=g) f a8a z (List.getElem?_eq_some_iff.1 m).1 Tryz.sizeOf3 rfl fun ay az o af ba=>?_
  obtain ⟨aa,bb,p,h⟩:=h
  obtain ⟨bc,bd,ab,be⟩:=o.addr p
  refine f8 (J4 ab _ _ _ _ aa (o.lt aa p)) ?_
  refine a2o (x:=j) af o ab (List.getElem?_eq_some_iff.1 p).1 Tryz.sizeOf3 rfl fun ag bf ah ai bg=>?_
  refine c7 pAd (c7 pSu ?_)
  exact hn1 _ _ _ (hm1 _ _ h).2 ⟨(((a4V.set (a5x:Int).toNat g).set (a5U:Int).toNat j),(IntKind.wrap .i64 (a5x+1)),(IntKind.wrap .i64 (a5U-1))),H,ag,rfl,rfl,ah,ai,(hm1 _ _ h).1⟩
 ·exact hR _ H _ _ I ⟨a4V,Fs0l1,rfl,rfl,a8a,h⟩
def Z3(H:Hp)(K:Bool→Hp→Prop):Prop:=
 K true H
def a1D(a6o:Sl)(a2d:Sl)(K3:Int)(H:Hp)(n2:Int→Hp→Prop)(K:Bool→Hp→Prop):Prop:=
 (K3 < (a6o.n:Int)→
 (0:Int)≤K3∧(K3:Int) < a6o.n∧∃a:o0,EltH H a6o K3 2 (m2 a)∧
 (0:Int)≤K3∧(K3:Int) < a2d.n∧∃b:o0,EltH H a2d K3 2 (m2 b)∧
 (¬(a.m5=b.m5∧a.L0=b.L0)→
 K false H)∧
 (a.m5=b.m5∧a.L0=b.L0→
 n2 (IntKind.wrap .i64 (K3+1)) H))∧
 (¬(K3 < (a6o.n:Int))→
 Z3 H K)
def a3G(x0:Sl)(x1:Sl)(H:Hp)(K:Bool→Hp→Prop):Prop:=
 (¬((x0.n:Int)=(x1.n:Int))→
 K false H)∧
 ((x0.n:Int)=(x1.n:Int)→
 TL (0:Int) H fun(s:Int) H n2=>a1D x0 x1 s H n2 K)
theorem a9O(x0 x1){H K}(h:a3G x0 x1 H K):a3r x0 x1 H K:=by
 refine Ct.of fun w0 w ps0 H0 R E I hR=>c7G ?_
 unfold a3G at h
 unfold F32
 refine c7 (N2 _ _ _) (c7 (N2 _ _ _) (c7 pNe ?_))
 refine a0e h (fun _ h=>?_) (fun _ h=>?_)
 ·exact hR _ H _ _ I ⟨false,rfl,rfl,h⟩
 ·have hj1:∀H w (_:Inv w0 ps0 H0 H [] w) (_:Z3 H K),b8H w R E:=by
   intro H w I h
   unfold b8H
   intro _
   unfold Z3 at h
   exact hR _ H _ _ I ⟨true,rfl,rfl,h⟩
  refine s8 fun j1 hx1=>?_
  refine a0V (σ:=Int) (fun K3=>[(vi K3)]) (fun K3=>[]) h rfl I ?_
  rintro K3 H n w next2 n2 d I h hn2
  simp only [List.map_cons,List.map_nil,List.cons.injEq,and_true] at d
  have e5:=d
  simp only [e5]
  unfold c2A
  unfold a1D at h
  refine c7 (N2 _ _ _) (c7 pLs ?_)
  refine g9 h (fun _ h=>?_) (fun _ h=>?_)
  ·refine N5 I fun o a=>?_
   obtain ⟨e,f,g,b,h⟩:=h
   obtain ⟨p,q,i,b⟩:=b
   refine f8 (W6 i _ _ _ _ e f) ?_
   obtain ⟨j,k,l,c,h⟩:=h
   obtain ⟨r,s,m,c⟩:=c
   refine f8 (W6 m _ _ _ _ j k) ?_
   refine o3 (ldA (vs:=(m2 g)) Tryz.isAgg70 Tryz.sizeOf70 rfl (a.atH b)) ?_
   refine o3 (ldA (vs:=(m2 l)) Tryz.isAgg70 Tryz.sizeOf70 rfl (a.atH c)) ?_
   refine f8 (c3I _ _ _ _ _ _) ?_
   refine a0e h (fun _ h=>?_) (fun _ h=>?_)
   ·exact hR _ H _ _ a ⟨false,rfl,rfl,h⟩
   ·refine c7 pAd ?_
    exact hn2 (IntKind.wrap .i64 (K3+1)) _ _ h a
  ·exact hx1 _ _ (hj1 H _ I h)
def a3H(x0:i4)(a:(List d5))(x1:Int)(H:Hp)(K:Int→i4→(List d5)→Hp→Prop):Prop:=
 K (IntKind.wrap .i64 ((x0.fc.t8.n:Int)+x1)) (i4.mk (f7.mk x0.fc.t8 (if (IntKind.wrap .i64 (x1+1)) > x0.fc.o9 then IntKind.wrap .i64 (x1+1) else x0.fc.o9) x0.fc.o8 x0.fc.d3 x0.fc.v2 (Sl.mk none 0 0)) x0.fvars x0.farrays) a H
theorem a9P(x0 a x1){H K}(h:a3H x0 a x1 H K):a3s x0 a x1 H K:=by
 intro g0 c d e
 refine Ct.of fun w0 w ps0 H0 R E I hR=>c5S ?_
 unfold a3H at h
 unfold c8C
 refine c7 (y6 _) (c7 R3 (c7 z7 (d4 (l1 Tryz.isAgg3 I rfl) (c7 pAd ?_))))
 refine c7 (c1T _ _ _ _ _) (c7 (y6 _) (c7 R3 (c7 z7 ?_)))
 refine P7 I Tryz.sizeOf3 fun f b g=>?_
 refine c7 (y6 _) (c7 R3 (c7 J7 (d4 (l1 Tryz.isAgg27 b rfl) (c7 (K6 _ _ _) ?_))))
 refine c7 pAd ?_
 exact hR _ H _ _ ((b.bring 1).bring 1) ⟨(IntKind.wrap .i64 ((x0.fc.t8.n:Int)+x1)),(i4.mk (f7.mk x0.fc.t8 (if (IntKind.wrap .i64 (x1+1)) > x0.fc.o9 then IntKind.wrap .i64 (x1+1) else x0.fc.o9) x0.fc.o8 x0.fc.d3 x0.fc.v2 (Sl.mk none 0 0)) x0.fvars x0.farrays),a,c,d,rfl,rfl,e,h⟩
def a2j(x0:i4)(a:(List d5))(x1:m3)(x2:Int)(H:Hp)(K:Int→Hp→Prop):Prop:=
 ((x0.fc.t8.n:Int)≤x1.y8→
 K (IntKind.wrap .i64 (x2+1)) H)∧
 (¬((x0.fc.t8.n:Int)≤x1.y8)→
 K x2 H)
theorem a9c(x0 b x1 x2){H K}(h:a2j x0 b x1 x2 H K):a1W x0 b x1 x2 H K:=by
 intro g0 d e f
 refine Ct.of fun w0 w ps0 H0 R E I hR=>c8x ?_
 unfold a2j at h
 unfold F99
 refine D6 I (cs:=(i7 x1)) rfl fun g i c j=>?_
 refine N5 c fun k a=>?_
 refine f8 K4 ?_
 refine f8 (y6 _) ?_
 refine f8 R3 ?_
 refine f8 J7 ?_
 refine o3 (l1 Tryz.isAgg3 a rfl) ?_
 refine o3 (l1 Tryz.isAgg27 (a.bring 1) rfl) ?_
 refine f8 (K6 _ _ _) ?_
 refine f8 pGe ?_
 refine g9 h (fun _ h=>?_) (fun _ h=>?_)
 ·refine c7 pAd ?_
  exact hR _ H _ _ ((a.drop.bring 1).bring 1) ⟨(IntKind.wrap .i64 (x2+1)),rfl,rfl,h⟩
 ·exact hR _ H _ _ ((a.drop.bring 1).bring 1) ⟨x2,rfl,rfl,h⟩
def a4t(x0:i4)(g:(List d5))(x1:Sl)(x2:Int)(x3:Int)(H:Hp)(K:m3→m3→Int→i4→(List d5)→Hp→Prop):Prop:=
 (0:Int)≤0∧(0:Int) < x1.n∧∃a:v6,EltH H x1 0 4 (q8 a)∧
 R9 (f9 x0) g a x2 x3 H (fun b i c d e=>
 (0:Int)≤1∧(1:Int) < x1.n∧∃f:v6,EltH e x1 1 4 (q8 f)∧
 a1W (f9 c) d b x3 e (fun j k=>
 R9 (f9 c) d f i j k (fun l m o p q=>
 K b l m (f9 o) p q)))
theorem b0C(x0 k x1 x2 x3){H K}(h:a4t x0 k x1 x2 x3 H K):W8 x0 k x1 x2 x3 H K:=by
 intro g0 o p q
 refine Ct.of fun w0 w ps0 H0 R E I hR=>c8l ?_
 unfold a4t at h
 unfold F68
 refine y3 I Tryz.zeroValue38 (cs:=[(vi 0),(vi 0)]) rfl fun r aw s ax=>?_
 refine y3 s Tryz.zeroValue38 (cs:=[(vi 0),(vi 0)]) rfl fun t ay l az=>?_
 obtain ⟨u,v,y,e,h⟩:=h
 obtain ⟨ba,bb,z,e⟩:=e
 refine c7 (a0z z _ _ _ _ u v) (d4 (ldA (vs:=(q8 y)) Tryz.isAgg123 Tryz.sizeOf123 rfl (l.atH e)) ?_)
 refine j6 Tryz.call98 (h g0 o p q) ((l.bring 3).bring 3) ?_
 rintro _ _ _ bc aa _ _ ⟨c,ab,ac,bd,f,g,rfl,rfl,m,h⟩
 refine c7 (p6 _ _ _ rfl) (c7 (p6 _ _ (vi ab) rfl) ?_)
 refine A6 (aa.bring 3) Tryz.sizeOf38 (vs:=(i7 c)) fun be ad bf=>?_
 refine N5 ad fun bg a=>?_
 obtain ⟨ae,af,ag,b,h⟩:=h
 obtain ⟨bh,bi,ah,b⟩:=b
 refine f8 (a0z ah _ _ _ _ ae af) ?_
 refine o3 (ldA (vs:=(q8 ag)) Tryz.isAgg123 Tryz.sizeOf123 rfl (a.atH b)) ?_
 refine o3 (lW Tryz.isAgg38 Tryz.sizeOf38 rfl a) ?_
 refine j6 Tryz.call99 (h g0 f g m) ((a.bring 2).bring 2) ?_
 rintro _ _ _ bj ai _ aj ⟨bk,rfl,rfl,h⟩
 refine ⟨(aj _ (a.a3f b) ((Inv.self (Fi:=[bx g0 68 (u5 ac f),g]) (Fr:=[bx r 38 (i7 c),bx t 38 [(vi 0),(vi 0)]]) ((a.bring 2).bring 2)).b5Q b)),?_⟩
 refine j6 Tryz.call98 (h g0 f g m) ((ai.bring 1).bring 1) ?_
 rintro _ ak _ bl al _ _ ⟨i,n,am,an,ao,ap,rfl,rfl,aq,h⟩
 refine f8 (p6 _ _ _ rfl) ?_
 refine f8 (p6 _ _ (vi n) rfl) ?_
 refine A6 (al.bring 3) Tryz.sizeOf38 (vs:=(i7 i)) fun bm ar bn=>?_
 refine N5 ar fun bo d=>?_
 refine o3 (lW Tryz.isAgg38 Tryz.sizeOf38 rfl (d.bring 3)) ?_
 refine o3 (lW Tryz.isAgg38 Tryz.sizeOf38 rfl d) ?_
 refine A6 (d.bring 3) Tryz.sizeOf38 (vs:=(i7 c)) fun bp au av=>?_
 refine ⟨(av _ (Inv.b7M (d.bring 3))),?_⟩
 refine A6 (au.bring 1) Tryz.sizeOf38 (vs:=(i7 i)) fun bq j br=>?_
 refine X5 Tryz.isAgg38 Tryz.sizeOf38 rfl (j.bring 1) ?_
 refine X5 Tryz.isAgg38 Tryz.sizeOf38 rfl j ?_
 exact hR _ ak _ _ ((j.drop.drop.bring 1).bring 1) ⟨c,i,n,(f9 am),an,ao,ap,rfl,rfl,aq,h⟩
def a3I(x0:i4)(a:(List d5))(x1:B0)(x2:Int)(x3:Int)(H:Hp)(K:i4→(List d5)→Hp→Prop):Prop:=
 (x1.f3=1→
 ∃c:List (ByteArray×Int),MapH H (fun s:ByteArray=>Value.string s) (fun n:Int=>Value.int .i64 n) x0.fvars c∧
 (0:Int)≤0∧(0:Int) < x1.m9.n∧∃d:v6,EltH H x1.m9 0 4 (q8 d)∧
 a1X (f9 x0) a ((lk x1.m5 c).getD 0) d x2 x3 H (fun v y z=>
 K (f9 v) y z))∧
 (¬(x1.f3=1)→
 (x1.f3=2→
 O3 x2 x3 11 H (fun b e=>
 ∃f:List (ByteArray×Int),MapH e (fun s:ByteArray=>Value.string s) (fun n:Int=>Value.int .i64 n) x0.farrays f∧
 W8 (f9 x0) a x1.m9 x2 0 e (fun aa ab ac ad ae af=>
 E0 (f9 ad) ae (d5.mk ac b.fTo b.f3 b.S3 ((lk x1.m5 f).getD 0) b.fOp aa ab) af (fun ag ah ai=>
 K (f9 ag) ah ai))))∧
 (¬(x1.f3=2)→
 (x1.f3=3→
 S5 (f9 x0) a x1.T0 x3 H (fun g aj ak al=>
 S5 (f9 aj) ak x1.T1 x3 al (fun i am an j=>
 (0:Int)≤0∧(0:Int) < x1.A0.n∧∃k:B5,EltH j x1.A0 0 4 (t6 k)∧
 E5 (f9 am) an k x2 g i j (fun ao ap aq=>
 P8 (f9 ao) ap x1.T0 g x3 aq (fun ar au av=>
 P8 (f9 ar) au x1.T1 i x3 av (fun aw ax ay=>
 K (f9 aw) ax ay))))))∧
 (¬(x1.f3=3)→
 (x1.f3=4→
 S5 (f9 x0) a x1.T0 x2 H (fun l az ba m=>
 (0:Int)≤0∧(0:Int) < x1.A0.n∧∃o:B5,EltH m x1.A0 0 4 (t6 o)∧
 E5 (f9 az) ba o x2 l x3 m (fun bb bc bd=>
 P8 (f9 bb) bc x1.T0 l x2 bd (fun be bf bg=>
 K (f9 be) bf bg))))∧
 (¬(x1.f3=4)→
 (x1.f3=5→
 G8 (f9 x0) a H (fun p bh bi bj=>
 G8 (f9 bh) bi bj (fun q bk bl r=>
 (0:Int)≤0∧(0:Int) < x1.A0.n∧∃t:B5,EltH r x1.A0 0 4 (t6 t)∧
 E5 (f9 bk) bl t x2 p q r (fun bm bn bo=>
 O3 p x3 13 bo (fun bp bq=>
 E0 (f9 bm) bn bp bq (fun br bs bt=>
 O3 q x3 14 bt (fun bu bv=>
 E0 (f9 br) bs bu bv (fun bw bz ca=>
 K (f9 bw) bz ca))))))))∧
 (¬(x1.f3=5)→
 (x1.f3=6→
 (0:Int)≤0∧(0:Int) < x1.A0.n∧∃u:B5,EltH H x1.A0 0 4 (t6 u)∧
 E5 (f9 x0) a u x2 x3 x0.fc.v2 H (fun cb cc cd=>
 K (f9 cb) cc cd))∧
 (¬(x1.f3=6)→
 O3 x2 x3 1 H (fun ce cf=>
 E0 (f9 x0) a ce cf (fun cg ch ci=>
 K (f9 cg) ch ci))))))))
theorem a9Q(x0 v x1 x2 x3){H K}(h:a3I x0 v x1 x2 x3 H K):a3t x0 v x1 x2 x3 H K:=by
 intro g0 c d e
 refine Ct.of fun w0 w ps0 H0 R E I hR=>c7T ?_
 unfold a3I at h
 unfold F45
 refine D6 I (cs:=(A8 x1)) rfl fun ey ez b fa=>?_
 refine c7 a1I (d4 (l1 Tryz.isAgg3 b rfl) (c7 pEq ?_))
 refine g9 h (fun _ h=>?_) (fun _ h=>?_)
 ·refine N5 b fun fb g=>?_
  refine f8 (y6 _) ?_
  refine f8 b1V ?_
  refine f8 a4Q ?_
  refine f8 a7Q ?_
  refine o3 (l1 Tryz.isAgg66 (g.bring 1) rfl) ?_
  refine o3 (l1 Tryz.isAgg9 g rfl) ?_
  obtain ⟨fc,ag,h⟩:=h
  refine b1T (keyS Tryz.underlying9) Tryz.underlying66 (z:=0) Tryz.zeroValue3 g ag x1.m5 ?_
  refine o3 (l1 Tryz.isAgg57 g rfl) ?_
  obtain ⟨ah,ai,aj,l,h⟩:=h
  obtain ⟨fd,fe,ak,l⟩:=l
  refine f8 (a0z ak _ _ _ _ ah ai) ?_
  refine o3 (ldA (vs:=(q8 aj)) Tryz.isAgg123 Tryz.sizeOf123 rfl (g.atH l)) ?_
  refine j6 Tryz.call66 (h g0 c d e) ((g.bring 2).bring 2) ?_
  rintro _ al _ ff am _ _ ⟨an,ao,ap,aq,rfl,rfl,ar,h⟩
  exact hR _ al _ _ (((am.bring 2).drop.bring 1).bring 1) ⟨(f9 an),ao,ap,aq,rfl,rfl,ar,h⟩
 ·refine c7 pEq ?_
  refine g9 h (fun _ h=>?_) (fun _ h=>?_)
  ·refine j6 Tryz.call67 h b ?_
   rintro _ _ _ fg au _ _ ⟨a,rfl,rfl,h⟩
   refine y3 au Tryz.zeroValue40 (cs:=[(vi 0),(vi 0),(vi 0),(vi 0),(vi 0),(vi 0),(vi 0),(vi 0),(vi 0),(vi 0)]) rfl fun fh fi av fj=>?_
   refine A6 av Tryz.sizeOf40 (vs:=(i5 a)) fun fk aw fl=>?_
   refine N5 aw fun fm j=>?_
   refine f8 (y6 _) ?_
   refine f8 b1W ?_
   refine f8 a4Q ?_
   refine o3 (l1 Tryz.isAgg66 (j.bring 2) rfl) ?_
   refine o3 (l1 Tryz.isAgg9 (j.bring 1) rfl) ?_
   obtain ⟨m,ax,h⟩:=h
   refine b1T (keyS Tryz.underlying9) Tryz.underlying66 (z:=0) Tryz.zeroValue3 j ax x1.m5 ?_
   refine f8 B2 ?_
   refine P7 j Tryz.sizeOf3 fun fn y fo=>?_
   refine c7 a7Q (d4 (l1 Tryz.isAgg57 (y.bring 1) rfl) ?_)
   refine j6 Tryz.call68 (h g0 c d e) ((y.bring 3).bring 3) ?_
   rintro _ _ _ fp ay _ _ ⟨f,i,aa,fq,fs,az,ba,rfl,rfl,bb,h⟩
   refine c7 (p6 _ _ _ rfl) (c7 (p6 _ _ _ rfl) (c7 (p6 _ _ (vi aa) rfl) (c7 z8 ?_)))
   refine a3R (ay.bring 2) Tryz.sizeOf38 (vs:=(i7 f)) (cs':=[(vi a.s7),(vi a.fTo),(vi a.f3),(vi a.S3),(vi ((lk x1.m5 m).getD 0)),(vi a.fOp),(vi f.y8),(vi f.u1),(vi a.fB.y8),(vi a.fB.u1)]) rfl rfl (nb rfl) rfl rfl fun ft bc fu=>?_
   refine c7 y4 ?_
   refine a3R bc Tryz.sizeOf38 (vs:=(i7 i)) (cs':=[(vi a.s7),(vi a.fTo),(vi a.f3),(vi a.S3),(vi ((lk x1.m5 m).getD 0)),(vi a.fOp),(vi f.y8),(vi f.u1),(vi i.y8),(vi i.u1)]) rfl rfl (nb rfl) rfl rfl fun fv bd fw=>?_
   refine c7 A7 ?_
   refine P7 bd Tryz.sizeOf3 fun fx ab fy=>?_
   refine d4 (ldA Tryz.isAgg40 Tryz.sizeOf40 rfl (ab.at1 (o:=0) (vs:=[(vi aa),(vi a.fTo),(vi a.f3),(vi a.S3),(vi ((lk x1.m5 m).getD 0)),(vi a.fOp),(vi f.y8),(vi f.u1),(vi i.y8),(vi i.u1)]) (nb rfl) rfl)) ?_
   refine j6 Tryz.call69 (h g0 az ba bb) ((ab.bring 2).bring 2) ?_
   rintro _ be _ fz bf _ _ ⟨bg,bh,bi,bj,rfl,rfl,bk,h⟩
   exact hR _ be _ _ ((((bf.bring 2).drop.bring 2).drop.bring 1).bring 1) ⟨(f9 bg),bh,bi,bj,rfl,rfl,bk,h⟩
  ·refine c7 pEq ?_
   refine g9 h (fun _ h=>?_) (fun _ h=>?_)
   ·refine c7 a5D (d4 (l1 Tryz.isAgg23 b rfl) ?_)
    refine j6 Tryz.call70 (h g0 c d e) ((b.bring 2).bring 2) ?_
    rintro _ _ _ ga ac _ _ ⟨gb,gc,gd,bl,bm,rfl,rfl,bn,h⟩
    refine c7 a0Y (d4 (l1 Tryz.isAgg23 (ac.bring 2) rfl) ?_)
    refine j6 Tryz.call70 (h g0 bl bm bn) ((ac.bring 1).bring 1) ?_
    rintro _ _ _ ge n _ _ ⟨gf,gg,gh,bo,bp,rfl,rfl,bq,h⟩
    refine c7 a5E (d4 (l1 Tryz.isAgg58 (n.bring 2) rfl) ?_)
    obtain ⟨br,bs,bt,p,h⟩:=h
    obtain ⟨gi,gj,bu,p⟩:=p
    refine c7 (a2K bu _ _ _ _ br bs) (d4 (ldA (vs:=(t6 bt)) Tryz.isAgg131 Tryz.sizeOf131 rfl (n.atH p)) ?_)
    refine j6 Tryz.call71 (h g0 bo bp bq) ((n.bring 1).bring 1) ?_
    rintro _ _ _ gk ad _ _ ⟨gl,gm,bv,bw,rfl,rfl,bz,h⟩
    refine c7 a5D (d4 (l1 Tryz.isAgg23 (ad.bring 2) rfl) ?_)
    refine j6 Tryz.call24 (h g0 bv bw bz) ((ad.bring 1).bring 1) ?_
    rintro _ _ _ gn ae _ _ ⟨go,gp,ca,cb,rfl,rfl,cc,h⟩
    refine c7 a0Y (d4 (l1 Tryz.isAgg23 (ae.bring 2) rfl) ?_)
    refine j6 Tryz.call24 (h g0 ca cb cc) ((ae.bring 1).bring 1) ?_
    rintro _ cd _ gq ce _ _ ⟨cf,cg,ch,ci,rfl,rfl,cj,h⟩
    exact hR _ cd _ _ (((ce.bring 2).drop.bring 1).bring 1) ⟨(f9 cf),cg,ch,ci,rfl,rfl,cj,h⟩
   ·refine c7 pEq ?_
    refine g9 h (fun _ h=>?_) (fun _ h=>?_)
    ·refine c7 a5D (d4 (l1 Tryz.isAgg23 b rfl) ?_)
     refine j6 Tryz.call70 (h g0 c d e) ((b.bring 2).bring 2) ?_
     rintro _ _ _ gr q _ _ ⟨gs,gt,gu,ck,cl,rfl,rfl,cm,h⟩
     refine c7 a5E (d4 (l1 Tryz.isAgg58 (q.bring 2) rfl) ?_)
     obtain ⟨cn,co,cp,r,h⟩:=h
     obtain ⟨gv,gw,cq,r⟩:=r
     refine c7 (a2K cq _ _ _ _ cn co) (d4 (ldA (vs:=(t6 cp)) Tryz.isAgg131 Tryz.sizeOf131 rfl (q.atH r)) ?_)
     refine j6 Tryz.call71 (h g0 ck cl cm) ((q.bring 1).bring 1) ?_
     rintro _ _ _ gx af _ _ ⟨gy,gz,cr,ct,rfl,rfl,cu,h⟩
     refine c7 a5D (d4 (l1 Tryz.isAgg23 (af.bring 2) rfl) ?_)
     refine j6 Tryz.call24 (h g0 cr ct cu) ((af.bring 1).bring 1) ?_
     rintro _ cv _ ha cw _ _ ⟨cx,cy,cz,da,rfl,rfl,db,h⟩
     exact hR _ cv _ _ (((cw.bring 2).drop.bring 1).bring 1) ⟨(f9 cx),cy,cz,da,rfl,rfl,db,h⟩
    ·refine c7 pEq ?_
     refine g9 h (fun _ h=>?_) (fun _ h=>?_)
     ·refine j6 Tryz.call23 (h g0 c d e) ((b.bring 2).bring 2) ?_
      rintro _ _ _ hb dc _ _ ⟨hc,hd,he,dd,de,rfl,rfl,df,h⟩
      refine j6 Tryz.call23 (h g0 dd de df) ((dc.bring 1).bring 1) ?_
      rintro _ _ _ hf s _ _ ⟨hg,hh,hi,dg,dh,rfl,rfl,di,h⟩
      refine c7 a5E (d4 (l1 Tryz.isAgg58 (s.bring 2) rfl) ?_)
      obtain ⟨dj,dk,dl,t,h⟩:=h
      obtain ⟨hj,hk,dm,t⟩:=t
      refine c7 (a2K dm _ _ _ _ dj dk) (d4 (ldA (vs:=(t6 dl)) Tryz.isAgg131 Tryz.sizeOf131 rfl (s.atH t)) ?_)
      refine j6 Tryz.call71 (h g0 dg dh di) ((s.bring 1).bring 1) ?_
      rintro _ _ _ hl dn _ _ ⟨hm,hn,dp,dq,rfl,rfl,dr,h⟩
      refine j6 Tryz.call67 h dn ?_
      rintro _ _ _ ho ds _ _ ⟨hp,rfl,rfl,h⟩
      refine j6 Tryz.call69 (h g0 dp dq dr) ((ds.bring 1).bring 1) ?_
      rintro _ _ _ hq dt _ _ ⟨hr,hs,du,dv,rfl,rfl,dw,h⟩
      refine j6 Tryz.call67 h dt ?_
      rintro _ _ _ ht dx _ _ ⟨hu,rfl,rfl,h⟩
      refine j6 Tryz.call69 (h g0 du dv dw) ((dx.bring 1).bring 1) ?_
      rintro _ dy _ hv dz _ _ ⟨ea,eb,ec,ed,rfl,rfl,ee,h⟩
      exact hR _ dy _ _ (((dz.bring 2).drop.bring 1).bring 1) ⟨(f9 ea),eb,ec,ed,rfl,rfl,ee,h⟩
     ·refine c7 pEq ?_
      refine g9 h (fun _ h=>?_) (fun _ h=>?_)
      ·refine N5 b fun hw k=>?_
       refine f8 a5E ?_
       refine f8 (y6 _) ?_
       refine f8 R3 ?_
       refine f8 v8 ?_
       refine o3 (l1 Tryz.isAgg58 k rfl) ?_
       obtain ⟨ef,eg,eh,u,h⟩:=h
       obtain ⟨hx,hy,ei,u⟩:=u
       refine f8 (a2K ei _ _ _ _ ef eg) ?_
       refine o3 (ldA (vs:=(t6 eh)) Tryz.isAgg131 Tryz.sizeOf131 rfl (k.atH u)) ?_
       refine o3 (l1 Tryz.isAgg3 (k.bring 1) rfl) ?_
       refine j6 Tryz.call71 (h g0 c d e) ((k.bring 2).bring 2) ?_
       rintro _ ej _ hz ek _ _ ⟨el,em,en,eo,rfl,rfl,ep,h⟩
       exact hR _ ej _ _ (((ek.bring 2).drop.bring 1).bring 1) ⟨(f9 el),em,en,eo,rfl,rfl,ep,h⟩
      ·refine j6 Tryz.call67 h b ?_
       rintro _ _ _ ia eq _ _ ⟨ib,rfl,rfl,h⟩
       refine j6 Tryz.call69 (h g0 c d e) ((eq.bring 2).bring 2) ?_
       rintro _ er _ ic es _ _ ⟨et,eu,ev,ew,rfl,rfl,ex,h⟩
       exact hR _ er _ _ (((es.bring 2).drop.bring 1).bring 1) ⟨(f9 et),eu,ev,ew,rfl,rfl,ex,h⟩
def a5V(x0:B0)(H:Hp)(K:g7→Hp→Prop):Prop:=
 K (g7.L4 (T2.mk x0)) H
theorem b2o(x0){H K}(h:a5V x0 H K):a7U x0 H K:=by
 refine Ct.of fun w0 w ps0 H0 R E I hR=>c5Y ?_
 unfold a5V at h
 unfold c8I
 refine D6 I (cs:=(A8 x0)) rfl fun b c a d=>?_
 refine d4 (lW Tryz.isAgg60 Tryz.sizeOf60 rfl a) (c7 (b8h _ _ _ _ _ _ _ _ _ _ _ _ _ _) (c7 (b5W (T2.mk x0)) ?_))
 exact hR _ H _ _ a.drop ⟨(g7.L4 (T2.mk x0)),rfl,rfl,h⟩
def J9(d1R:Sl)(b6C:Int)(c9k:Sl)(c5i:Int)(c1p:Int)(H:Hp)(n4:(Int×Int)→Hp→Prop)(K:Sl→Hp→Prop):Prop:=
 n4 (b6C,(IntKind.wrap .i64 (c1p+1))) H
def K0(a7Y:(List g7))(H:Hp)(K:Sl→Hp→Prop):Prop:=
 ∀(a8O:Sl)(a:Hp),Hle H a→SlH a 1 z6 a8O a7Y→a8O.n≤a8O.c→
 K a8O a
def K1(c5j:Sl)(c5k:Int)(a5W:(List g7))(a5k:Int)(H:Hp)(n3:((List g7)×Int)→Hp→Prop)(K:Sl→Hp→Prop):Prop:=
 (a5k < c5k→
 (0:Int)≤a5k∧(a5k:Int) < c5j.n∧∃b:Sl,EltH H c5j a5k 1 [(vs b)]∧
 ∃a:List g7,SlH H 1 z6 b a∧(a5W.length+a.length)*17≤140737488355328∧
 n3 ((a5W++a),(IntKind.wrap .i64 (a5k+1))) H)∧
 (¬(a5k < c5k)→
 K0 a5W H K)
def K2(b9p:Sl)(a9r:Int)(H:Hp)(K:Sl→Hp→Prop):Prop:=
 S6 a9r H (fun a b=>
 TL ((a,0):(List g7)×Int) b fun(s:(List g7)×Int) H n3=>K1 b9p (b9p.n:Int) s.1 s.2 H n3 K)
def O1(c9t:Sl)(a2f:Sl)(c1q:Int)(b1p:Int)(a7b:Int)(H:Hp)(n4:(Int×Int)→Hp→Prop)(K:Sl→Hp→Prop):Prop:=
 (a7b < c1q→
 (0:Int)≤a7b∧(a7b:Int) < a2f.n∧∃a:Sl,EltH H a2f a7b 1 [(vs a)]∧
 ((IntKind.wrap .i64 (b1p+(a.n:Int))) < 0→
 False)∧
 (¬((IntKind.wrap .i64 (b1p+(a.n:Int))) < 0)→
 J9 c9t (IntKind.wrap .i64 (b1p+(a.n:Int))) a2f c1q a7b H n4 K))∧
 (¬(a7b < c1q)→
 K2 c9t b1p H K)
def P2(x0:Sl)(H:Hp)(K:Sl→Hp→Prop):Prop:=
 TL ((0,0):Int×Int) H fun(s:Int×Int) H n4=>O1 x0 x0 (x0.n:Int) s.1 s.2 H n4 K
theorem a3T(x0){H K}(h:P2 x0 H K):G6 x0 H K:=by
 refine Ct.of fun w0 w ps0 H0 R E I hR=>c5U ?_
 unfold P2 at h
 unfold c8E
 have hj1:∀(a9r:Int) H w (_:Inv w0 ps0 H0 H [] w) (_:K2 x0 a9r H K),b6c (vs x0) (vi a9r) w R E:=by
  intro a9r H w I h
  unfold b6c
  intro _
  unfold K2 at h
  refine j6 Tryz.call126 h I ?_
  rintro _ m _ au o _ _ ⟨p,q,r,rfl,rfl,t,h⟩
  have hj2:∀(a7Y:(List g7))(a8O:Sl)(Fs6j2:Frag) H w (_:RowL 182 1 z6 a8O a7Y Fs6j2) (_:Inv w0 ps0 H0 H [Fs6j2] w) (_:K0 a7Y H K),b6b (vs a8O) w R E:=by
   intro a7Y a8O Fs6j2 H w c1n I h
   unfold b6b
   intro _
   unfold K0 at h
   obtain ⟨j,u,y,z,aa⟩:=Inv.freezeC I c1n (by decide)
   replace h:=h a8O j y z aa
   exact hR _ j _ _ u ⟨a8O,rfl,rfl,h⟩
  refine s8 fun j2 hx2=>?_
  refine c7 (b5i _ _ _) ?_
  obtain ⟨d,c,ab,ac⟩:=h
  refine I0 (J:=fun n l w=>∃(s:(List g7)×Int)(H:Hp)(b5x:Sl)(Fs6l3:Frag),n=c s∧l=(match s with | (a5W,a5k)=>[(vs b5x),(vi a5k)])∧(match s with | (a5W,a5k)=>RowL 182 1 z6 b5x a5W Fs6l3)∧(match s with | (a5W,a5k)=>Inv w0 ps0 H0 H [Fs6l3] w)∧d s H) ⟨_,(p,0),m,q,r,rfl,rfl,t,o,ab⟩ ?_
  rintro av aw w next3 ⟨⟨a5W,a5k⟩,H,b5x,Fs6l3,rfl,e,c1r,I,ad⟩ hn3
  dsimp only at e I c1r
  simp only [List.map_cons,List.map_nil,List.cons.injEq,and_true] at e
  obtain ⟨e6,e27⟩:=e
  simp only [e6,e27]
  obtain ⟨n3,hm3,h⟩:∃n3:((List g7)×Int)→Hp→Prop,(∀s' H',n3 s' H'→d s' H'∧c s' < c (a5W,a5k))∧K1 x0 (x0.n:Int) a5W a5k H n3 K:=⟨_,fun _ _ h=>h,ac (a5W,a5k) H (fun s' H'=>d s' H'∧c s' < c (a5W,a5k)) ad (fun _ _ a b=>⟨a,b⟩)⟩
  unfold c0p
  unfold K1 at h
  refine c7 pLs ?_
  refine g9 h (fun _ h=>?_) (fun _ h=>?_)
  ·obtain ⟨ae,af,ag,f,h⟩:=h
   obtain ⟨ax,ay,ah,f⟩:=f
   refine c7 (b6T ah _ _ _ _ ae af) (d4 (ld1 (v:=(vs ag)) Tryz.isAgg179 (I.atH f)) ?_)
   obtain ⟨ai,aj,h⟩:=h
   obtain ⟨ak,h⟩:=h
   refine b1v (s:=b5x) (xs:=a5W) I c1r (SlH.src I aj R7) ak fun al am az an ao ba=>?_
   refine c7 pAd ?_
   exact hn3 _ _ _ (hm3 _ _ h).2 ⟨((a5W++ai),(IntKind.wrap .i64 (a5k+1))),H,al,am,rfl,rfl,an,ao,(hm3 _ _ h).1⟩
  ·exact hx2 _ _ (hj2 a5W b5x Fs6l3 H _ c1r I h)
 refine s8 fun j1 hx1=>?_
 refine c7 (b5i _ _ _) ?_
 refine a0V (σ:=Int×Int) (fun (b1p,a7b)=>[(vi b1p),(vi a7b)]) (fun (b1p,a7b)=>[]) h rfl I ?_
 rintro ⟨b1p,a7b⟩ H bb w next4 n4 g I h hn4
 dsimp only at g I h
 simp only [List.map_cons,List.map_nil,List.cons.injEq,and_true] at g
 obtain ⟨e3,e11⟩:=g
 simp only [e3,e11]
 unfold c0q
 unfold O1 at h
 refine c7 pLs ?_
 refine g9 h (fun _ h=>?_) (fun _ h=>?_)
 ·have hj5:∀(b6C:Int) H w (_:Inv w0 ps0 H0 H [] w) (_:J9 x0 b6C x0 (x0.n:Int) a7b H n4 K),b6d (vs x0) (vi b6C) (vs x0) (vi (x0.n:Int)) (vi a7b) w next4 R E:=by
   intro b6C H w I h
   unfold b6d
   intro _
   unfold J9 at h
   refine c7 pAd ?_
   exact hn4 (b6C,(IntKind.wrap .i64 (a7b+1))) _ _ h I
  refine s8 fun j5 hx5=>?_
  obtain ⟨ap,aq,k,i,h⟩:=h
  obtain ⟨bc,bd,ar,i⟩:=i
  refine c7 (b6T ar _ _ _ _ ap aq) (d4 (ld1 (v:=(vs k)) Tryz.isAgg179 (I.atH i)) (c7 (a9F _ _ _) (c7 pAd (c7 pLs ?_))))
  refine g9 h (fun _ h=>?_) (fun _ h=>?_)
  ·refine c7 (c2h _) ?_
   exact h.elim
  ·exact hx5 _ _ (hj5 (IntKind.wrap .i64 (b1p+(k.n:Int))) H _ I h)
 ·exact hx1 _ _ (hj1 b1p H _ I h)
def a0T(x0:(List ByteArray))(x1:ByteArray)(H:Hp)(K:Bool→Hp→Prop):Prop:=
 a1v x0 x1 H (fun a b=>
 K (decide (0≤a)) b)
theorem a7M(x0 x1){H K}(h:a0T x0 x1 H K):T8 x0 x1 H K:=by
 intro sx0 Fx0 hx0
 refine Ct.of fun w0 w ps0 H0 R E I hR=>c6e ?_
 unfold a0T at h
 unfold c8O
 refine j6 Tryz.call135 (h sx0 Fx0 hx0) I ?_
 rintro _ a _ d b _ _ ⟨c,rfl,rfl,h⟩
 refine c7 pGe ?_
 exact hR _ a _ _ b ⟨(decide (0≤c)),rfl,rfl,h⟩
def Z4(c5l:Sl)(b5k:Int)(d:v6)(X9:Int)(O0:(List i6))(H:Hp)(n2:(Int×(List i6))→Hp→Prop)(K:m8→(List i6)→Hp→Prop):Prop:=
 (X9 < b5k→
 (0:Int)≤X9∧(X9:Int) < c5l.n∧∃a:v6,EltH H c5l X9 4 (q8 a)∧
 U9 (m8.mk (Sl.mk none 0 0)) O0 a H (fun e b c=>
 n2 ((IntKind.wrap .i64 (X9+1)),b) c))∧
 (¬(X9 < b5k)→
 K (m8.mk (Sl.mk none 0 0)) O0 H)
def M3(a1A:(List i6))(a:v6)(H:Hp)(K:m8→(List i6)→Hp→Prop):Prop:=
 TL ((0,a1A):Int×(List i6)) H fun(s:Int×(List i6)) H n2=>Z4 a.K5 (a.K5.n:Int) a s.1 s.2 H n2 K
def a3J(x0:m8)(a:(List i6))(x1:v6)(H:Hp)(K:m8→(List i6)→Hp→Prop):Prop:=
 (x1.f3=2→
 (a.length+([(i6.mk x1.m5 1)]:List i6).length)*25≤140737488355328∧
 M3 (a++[(i6.mk x1.m5 1)]) x1 H K)∧
 (¬(x1.f3=2)→
 (x1.f3=4→
 (a.length+([(i6.mk x1.m5 2)]:List i6).length)*25≤140737488355328∧
 M3 (a++[(i6.mk x1.m5 2)]) x1 H K)∧
 (¬(x1.f3=4)→
 M3 a x1 H K))
theorem a9R(x0 d x1){H K}(h:a3J x0 d x1 H K):U9 x0 d x1 H K:=by
 intro g0 k ab m
 refine Ct.of fun w0 w ps0 H0 R E I hR=>c5Q ?_
 unfold a3J at h
 unfold c8A
 refine D6 I (cs:=(q8 x1)) rfl fun o bf g bg=>?_
 have hj1:∀(a1A:(List i6))(a5P:Sl)(a5Q:Frag) H w (_:RowL 158 2 D9 a5P a1A a5Q) (_:Inv w0 ps0 H0 H [bx g0 155 [(vs a5P)],bx o 123 (q8 x1),a5Q] w) (_:M3 a1A x1 H K),b5Z (Value.pointer (some ⟨g0,0,none⟩)) (Value.pointer (some ⟨o,0,none⟩)) w R E:=by
  intro a1A a5P a5Q H w b4J I h
  unfold b5Z
  intro _
  unfold M3 at h
  refine c7 U4 (d4 (l1 Tryz.isAgg57 (I.bring 1) rfl) (c7 (a5C _ _ _) ?_))
  obtain ⟨p,f,ac,ad⟩:=h
  refine I0 (J:=fun n l w=>∃(s:Int×(List i6))(H:Hp)(a4n:Sl)(a4o:Frag),n=f s∧l=(match s with | (X9,O0)=>[(vi X9)])∧(match s with | (X9,O0)=>RowL 158 2 D9 a4n O0 a4o)∧(match s with | (X9,O0)=>Inv w0 ps0 H0 H [bx g0 155 [(vs a4n)],bx o 123 (q8 x1),a4o] w)∧p s H) ⟨_,(0,a1A),H,a5P,a5Q,rfl,rfl,b4J,(((I.bring 2).bring 2).bring 2),ac⟩ ?_
  rintro bh bi w next2 ⟨⟨X9,O0⟩,H,a4n,a4o,rfl,q,a7D,I,ae⟩ hn2
  dsimp only at q I a7D
  simp only [List.map_cons,List.map_nil,List.cons.injEq,and_true] at q
  have e39:=q
  simp only [e39]
  obtain ⟨n2,hm2,h⟩:∃n2:(Int×(List i6))→Hp→Prop,(∀s' H',n2 s' H'→p s' H'∧f s' < f (X9,O0))∧Z4 x1.K5 (x1.K5.n:Int) x1 X9 O0 H n2 K:=⟨_,fun _ _ h=>h,ad (X9,O0) H (fun s' H'=>p s' H'∧f s' < f (X9,O0)) ae (fun _ _ a b=>⟨a,b⟩)⟩
  unfold c0o
  unfold Z4 at h
  refine c7 pLs ?_
  refine g9 h (fun _ h=>?_) (fun _ h=>?_)
  ·obtain ⟨af,ag,t,r,h⟩:=h
   obtain ⟨bj,bk,ah,r⟩:=r
   refine c7 (a0z ah _ _ _ _ af ag) (d4 (ldA (vs:=(q8 t)) Tryz.isAgg123 Tryz.sizeOf123 rfl (I.atH r)) ?_)
   refine y3 I Tryz.zeroValue123 (cs:=[(vi 0),(vi 0),(eS),(nS)]) rfl fun bl bm ai bn=>?_
   refine A6 ai Tryz.sizeOf123 (vs:=(q8 t)) fun bo u bp=>?_
   refine d4 (lW Tryz.isAgg123 Tryz.sizeOf123 rfl u) ?_
   refine j6 Tryz.call109 (h g0 a4n a4o a7D) ((u.bring 3).bring 2) ?_
   rintro _ aj _ bq ak _ _ ⟨br,al,am,an,rfl,rfl,ao,h⟩
   refine c7 pAd ?_
   exact hn2 _ _ _ (hm2 _ _ h).2 ⟨((IntKind.wrap .i64 (X9+1)),al),aj,am,an,rfl,rfl,ao,((((ak.bring 2).drop.bring 1).bring 2).bring 2),(hm2 _ _ h).1⟩
  ·exact hR _ H _ _ (((I.bring 1).drop.bring 1).bring 1) ⟨(m8.mk (Sl.mk none 0 0)),O0,a4n,a4o,rfl,rfl,a7D,h⟩
 refine s8 fun j1 hx1=>?_
 refine c7 K9 (d4 (l1 Tryz.isAgg3 g rfl) (c7 pEq ?_))
 refine g9 h (fun _ h=>?_) (fun _ h=>?_)
 ·refine N5 g fun bs i=>?_
  refine f8 (y6 _) ?_
  refine f8 a1L ?_
  refine f8 U5 ?_
  refine o3 (l1 Tryz.isAgg153 (i.bring 1) rfl) ?_
  refine o3 (l1 Tryz.isAgg9 i rfl) ?_
  refine f8 (a6X _ _) ?_
  refine a0x (e:=158) (c:=D9) (xs:=[(i6.mk x1.m5 1)]) i (b1Y _ _) rfl rfl a6d a6e (nb rfl) fun bt bu bv ap v aq=>?_
  refine ⟨(aq _ (i.bring 1).lt1),?_⟩
  obtain ⟨ar,h⟩:=h
  refine b3G (s:=k) (xs:=d) (v.bring 3) m (ap.srcO ((v.bring 3).bring 1)) ar fun y au bw av aw bz=>?_
  refine f8 (y6 _) ?_
  refine f8 a1L ?_
  refine A6 ((aw.bring 1).drop.bring 2) Tryz.sizeOf153 (vs:=[(vs y)]) fun ca ax cb=>?_
  exact hx1 _ _ (hj1 (d++[(i6.mk x1.m5 1)]) y au H _ av (((ax.bring 1).bring 2).bring 2) h)
 ·refine c7 pEq ?_
  refine g9 h (fun _ h=>?_) (fun _ h=>?_)
  ·refine N5 g fun cc j=>?_
   refine f8 (y6 _) ?_
   refine f8 a1L ?_
   refine f8 U5 ?_
   refine o3 (l1 Tryz.isAgg153 (j.bring 1) rfl) ?_
   refine o3 (l1 Tryz.isAgg9 j rfl) ?_
   refine f8 (a6X _ _) ?_
   refine a0x (e:=158) (c:=D9) (xs:=[(i6.mk x1.m5 2)]) j (b1Y _ _) rfl rfl a6d a6e (nb rfl) fun cd ce cf ay z az=>?_
   refine ⟨(az _ (j.bring 1).lt1),?_⟩
   obtain ⟨ba,h⟩:=h
   refine b3G (s:=k) (xs:=d) (z.bring 3) m (ay.srcO ((z.bring 3).bring 1)) ba fun aa bb cg bc bd ch=>?_
   refine f8 (y6 _) ?_
   refine f8 a1L ?_
   refine A6 ((bd.bring 1).drop.bring 2) Tryz.sizeOf153 (vs:=[(vs aa)]) fun ci be cj=>?_
   exact hx1 _ _ (hj1 (d++[(i6.mk x1.m5 2)]) aa bb H _ bc (((be.bring 1).bring 2).bring 2) h)
  ·exact hx1 _ _ (hj1 d k ab H _ m (((g.bring 2).bring 1).bring 2) h)
def V4(d1O:Sl)(a9H:Int)(b0Y:Int)(a8v:(List i6))(H:Hp)(n1:(Int×(List i6))→Hp→Prop)(K:m8→(List i6)→Hp→Prop):Prop:=
 n1 ((IntKind.wrap .i64 (b0Y+1)),a8v) H
def V5(c5i:Sl)(c1p:Int)(d0l:Int)(b0D:(List i6))(a:B0)(H:Hp)(n1:(Int×(List i6))→Hp→Prop)(K:m8→(List i6)→Hp→Prop):Prop:=
 T7 (m8.mk (Sl.mk none 0 0)) b0D a.T0 H (fun f b c=>
 T7 (m8.mk (Sl.mk none 0 0)) b a.T1 c (fun g d e=>
 V4 c5i c1p d0l d e n1 K))
def V6(d0m:Sl)(d0n:Int)(d0o:Int)(c5m:Sl)(c5n:Int)(b:B0)(a5l:Int)(a2Y:(List i6))(H:Hp)(n1:(Int×(List i6))→Hp→Prop)(n6:(Int×(List i6))→Hp→Prop)(K:m8→(List i6)→Hp→Prop):Prop:=
 (a5l < c5n→
 (0:Int)≤a5l∧(a5l:Int) < c5m.n∧∃a:v6,EltH H c5m a5l 4 (q8 a)∧
 U9 (m8.mk (Sl.mk none 0 0)) a2Y a H (fun e c d=>
 n6 ((IntKind.wrap .i64 (a5l+1)),c) d))∧
 (¬(a5l < c5n)→
 V5 d0m d0n d0o a2Y b H n1 K)
def V7(d0p:Sl)(d0q:Int)(a8L:Int)(a8w:(List i6))(a:B0)(H:Hp)(n1:(Int×(List i6))→Hp→Prop)(K:m8→(List i6)→Hp→Prop):Prop:=
 TL ((0,a8w):Int×(List i6)) H fun(s:Int×(List i6)) H n6=>V6 d0p d0q a8L a.m9 (a.m9.n:Int) a s.1 s.2 H n1 n6 K
def V8(d0r:Sl)(d0s:Int)(d0t:Int)(c5o:Sl)(c5p:Int)(b:B0)(a5m:Int)(a2Z:(List i6))(H:Hp)(n1:(Int×(List i6))→Hp→Prop)(n7:(Int×(List i6))→Hp→Prop)(K:m8→(List i6)→Hp→Prop):Prop:=
 (a5m < c5p→
 (0:Int)≤a5m∧(a5m:Int) < c5o.n∧∃a:B5,EltH H c5o a5m 4 (t6 a)∧
 a0O (m8.mk (Sl.mk none 0 0)) a2Z a H (fun e c d=>
 n7 ((IntKind.wrap .i64 (a5m+1)),c) d))∧
 (¬(a5m < c5p)→
 V7 d0r d0s d0t a2Z b H n1 K)
def L3(d0u:Sl)(b1c:Int)(a2q:Int)(a8x:(List i6))(a:B0)(H:Hp)(n1:(Int×(List i6))→Hp→Prop)(K:m8→(List i6)→Hp→Prop):Prop:=
 TL ((0,a8x):Int×(List i6)) H fun(s:Int×(List i6)) H n7=>V8 d0u b1c a2q a.A0 (a.A0.n:Int) a s.1 s.2 H n1 n7 K
def V9(b5y:Sl)(b5z:Int)(W0:Int)(Q8:(List i6))(H:Hp)(n1:(Int×(List i6))→Hp→Prop)(K:m8→(List i6)→Hp→Prop):Prop:=
 (W0 < b5z→
 (0:Int)≤W0∧(W0:Int) < b5y.n∧∃a:B0,EltH H b5y W0 6 (A8 a)∧
 (a.f3=1→
 (Q8.length+([(i6.mk a.m5 1)]:List i6).length)*25≤140737488355328∧
 L3 b5y b5z W0 (Q8++[(i6.mk a.m5 1)]) a H n1 K)∧
 (¬(a.f3=1)→
 (a.f3=2→
 (Q8.length+([(i6.mk a.m5 2)]:List i6).length)*25≤140737488355328∧
 L3 b5y b5z W0 (Q8++[(i6.mk a.m5 2)]) a H n1 K)∧
 (¬(a.f3=2)→
 L3 b5y b5z W0 Q8 a H n1 K)))∧
 (¬(W0 < b5z)→
 K (m8.mk (Sl.mk none 0 0)) Q8 H)
def a3b(x0:m8)(a:(List i6))(x1:Sl)(H:Hp)(K:m8→(List i6)→Hp→Prop):Prop:=
 TL ((0,a):Int×(List i6)) H fun(s:Int×(List i6)) H n1=>V9 x1 (x1.n:Int) s.1 s.2 H n1 K
theorem a9s(x0 p x1){H K}(h:a3b x0 p x1 H K):T7 x0 p x1 H K:=by
 intro g0 al am an
 refine Ct.of fun w0 w ps0 H0 R E I hR=>c8s ?_
 unfold a3b at h
 unfold F94
 refine c7 (W5 _ _ _) ?_
 obtain ⟨q,g,ao,ap⟩:=h
 refine I0 (J:=fun n l w=>∃(s:Int×(List i6))(H:Hp)(a7F:Sl)(b0E:Frag),n=g s∧l=(match s with | (W0,Q8)=>[(vi W0)])∧(match s with | (W0,Q8)=>RowL 158 2 D9 a7F Q8 b0E)∧(match s with | (W0,Q8)=>Inv w0 ps0 H0 H [bx g0 155 [(vs a7F)],b0E] w)∧q s H) ⟨_,(0,p),H,al,am,rfl,rfl,an,((I.bring 1).bring 1),ao⟩ ?_
 rintro cx cy w next1 ⟨⟨W0,Q8⟩,H,a7F,b0E,rfl,r,b0F,I,aq⟩ hn1
 dsimp only at r I b0F
 simp only [List.map_cons,List.map_nil,List.cons.injEq,and_true] at r
 have e12:=r
 simp only [e12]
 obtain ⟨n1,hm1,h⟩:∃n1:(Int×(List i6))→Hp→Prop,(∀s' H',n1 s' H'→q s' H'∧g s' < g (W0,Q8))∧V9 x1 (x1.n:Int) W0 Q8 H n1 K:=⟨_,fun _ _ h=>h,ap (W0,Q8) H (fun s' H'=>q s' H'∧g s' < g (W0,Q8)) aq (fun _ _ a b=>⟨a,b⟩)⟩
 unfold c2O
 unfold V9 at h
 refine c7 pLs ?_
 refine g9 h (fun _ h=>?_) (fun _ h=>?_)
 ·have hj2:∀(a8v:(List i6))(b2p:Sl)(b2q:Frag) H w (_:RowL 158 2 D9 b2p a8v b2q) (_:Inv w0 ps0 H0 H [bx g0 155 [(vs b2p)],b2q] w) (_:V4 x1 (x1.n:Int) W0 a8v H n1 K),b9a (Value.pointer (some ⟨g0,0,none⟩)) (vs x1) (vi (x1.n:Int)) (vi W0) w next1 R E:=by
   intro a8v b2p b2q H w c3P I h
   unfold b9a
   intro _
   unfold V4 at h
   refine c7 pAd ?_
   exact hn1 _ _ _ (hm1 _ _ h).2 ⟨((IntKind.wrap .i64 (W0+1)),a8v),H,b2p,b2q,rfl,rfl,c3P,((I.bring 1).bring 1),(hm1 _ _ h).1⟩
  refine s8 fun j2 hx2=>?_
  obtain ⟨ar,au,d,t,h⟩:=h
  obtain ⟨cz,da,av,t⟩:=t
  refine c7 (b4F av _ _ _ _ ar au) (d4 (ldA (vs:=(A8 d)) Tryz.isAgg60 Tryz.sizeOf60 rfl (I.atH t)) ?_)
  refine y3 I Tryz.zeroValue60 (cs:=[(vi 0),(eS),(nS),(nS),(nS),(nS)]) rfl fun f db aw dc=>?_
  refine A6 aw Tryz.sizeOf60 (vs:=(A8 d)) fun dd k de=>?_
  have hj3:∀(a8x:(List i6))(b2r:Sl)(b2s:Frag) H w (_:RowL 158 2 D9 b2r a8x b2s) (_:Inv w0 ps0 H0 H [bx g0 155 [(vs b2r)],bx f 60 (A8 d),b2s] w) (_:L3 x1 (x1.n:Int) W0 a8x d H n1 K),b9d (Value.pointer (some ⟨g0,0,none⟩)) (Value.pointer (some ⟨f,0,none⟩)) (vs x1) (vi (x1.n:Int)) (vi W0) w j2 R E:=by
   intro a8x b2r b2s H w c3Q I h
   unfold b9d
   intro _
   unfold L3 at h
   have hj4:∀(a8w:(List i6))(b2t:Sl)(b2u:Frag) H w (_:RowL 158 2 D9 b2t a8w b2u) (_:Inv w0 ps0 H0 H [bx g0 155 [(vs b2t)],bx f 60 (A8 d),b2u] w) (_:V7 x1 (x1.n:Int) W0 a8w d H n1 K),b9c (Value.pointer (some ⟨g0,0,none⟩)) (Value.pointer (some ⟨f,0,none⟩)) (vs x1) (vi (x1.n:Int)) (vi W0) w j2 R E:=by
    intro a8w b2t b2u H w c3R I h
    unfold b9c
    intro _
    unfold V7 at h
    have hj5:∀(b0D:(List i6))(b2v:Sl)(b2w:Frag) H w (_:RowL 158 2 D9 b2v b0D b2w) (_:Inv w0 ps0 H0 H [bx g0 155 [(vs b2v)],bx f 60 (A8 d),b2w] w) (_:V5 x1 (x1.n:Int) W0 b0D d H n1 K),b9b (Value.pointer (some ⟨g0,0,none⟩)) (Value.pointer (some ⟨f,0,none⟩)) (vs x1) (vi (x1.n:Int)) (vi W0) w j2 R E:=by
     intro b0D b2v b2w H w c3S I h
     unfold b9b
     intro _
     unfold V5 at h
     refine c7 a5D (d4 (l1 Tryz.isAgg23 (I.bring 1) rfl) ?_)
     refine j6 Tryz.call94 (h g0 b2v b2w c3S) ((I.bring 2).bring 1) ?_
     rintro _ _ _ df ac _ _ ⟨dg,dh,ax,ay,rfl,rfl,az,h⟩
     refine c7 a0Y (d4 (l1 Tryz.isAgg23 (ac.bring 2) rfl) ?_)
     refine j6 Tryz.call94 (h g0 ax ay az) ((ac.bring 1).bring 1) ?_
     rintro _ ba _ di bb _ _ ⟨dj,bc,bd,be,rfl,rfl,bf,h⟩
     exact hx2 _ _ (hj2 bc bd be ba _ bf (((bb.bring 2).drop.bring 1).bring 1) h)
    refine s8 fun j5 hx5=>?_
    refine c7 a7Q (d4 (l1 Tryz.isAgg57 (I.bring 1) rfl) (c7 (a5C _ _ _) ?_))
    obtain ⟨u,i,bg,bh⟩:=h
    refine I0 (J:=fun n l w=>∃(s:Int×(List i6))(H:Hp)(b0G:Sl)(b0H:Frag),n=i s∧l=(match s with | (a5l,a2Y)=>[(vi a5l)])∧(match s with | (a5l,a2Y)=>RowL 158 2 D9 b0G a2Y b0H)∧(match s with | (a5l,a2Y)=>Inv w0 ps0 H0 H [bx g0 155 [(vs b0G)],bx f 60 (A8 d),b0H] w)∧u s H) ⟨_,(0,a8w),H,b2t,b2u,rfl,rfl,c3R,(((I.bring 2).bring 2).bring 2),bg⟩ ?_
    rintro dk dl w next6 ⟨⟨a5l,a2Y⟩,H,b0G,b0H,rfl,v,b4L,I,bi⟩ hn6
    dsimp only at v I b4L
    simp only [List.map_cons,List.map_nil,List.cons.injEq,and_true] at v
    have e60:=v
    simp only [e60]
    obtain ⟨n6,hm6,h⟩:∃n6:(Int×(List i6))→Hp→Prop,(∀s' H',n6 s' H'→u s' H'∧i s' < i (a5l,a2Y))∧V6 x1 (x1.n:Int) W0 d.m9 (d.m9.n:Int) d a5l a2Y H n1 n6 K:=⟨_,fun _ _ h=>h,bh (a5l,a2Y) H (fun s' H'=>u s' H'∧i s' < i (a5l,a2Y)) bi (fun _ _ a b=>⟨a,b⟩)⟩
    unfold c2M
    unfold V6 at h
    refine c7 pLs ?_
    refine g9 h (fun _ h=>?_) (fun _ h=>?_)
    ·obtain ⟨bj,bk,ad,y,h⟩:=h
     obtain ⟨dm,dn,bl,y⟩:=y
     refine c7 (a0z bl _ _ _ _ bj bk) (d4 (ldA (vs:=(q8 ad)) Tryz.isAgg123 Tryz.sizeOf123 rfl (I.atH y)) ?_)
     refine y3 I Tryz.zeroValue123 (cs:=[(vi 0),(vi 0),(eS),(nS)]) rfl fun dp dq bm dr=>?_
     refine A6 bm Tryz.sizeOf123 (vs:=(q8 ad)) fun ds ae dt=>?_
     refine d4 (lW Tryz.isAgg123 Tryz.sizeOf123 rfl ae) ?_
     refine j6 Tryz.call109 (h g0 b0G b0H b4L) ((ae.bring 3).bring 2) ?_
     rintro _ bn _ du bo _ _ ⟨dv,bp,bq,br,rfl,rfl,bs,h⟩
     refine c7 pAd ?_
     exact hn6 _ _ _ (hm6 _ _ h).2 ⟨((IntKind.wrap .i64 (a5l+1)),bp),bn,bq,br,rfl,rfl,bs,((((bo.bring 2).drop.bring 1).bring 2).bring 2),(hm6 _ _ h).1⟩
    ·exact hx5 _ _ (hj5 a2Y b0G b0H H _ b4L (((I.bring 2).bring 2).bring 2) h)
   refine s8 fun j4 hx4=>?_
   refine c7 a5E (d4 (l1 Tryz.isAgg58 (I.bring 1) rfl) (c7 (a8Q _ _ _) ?_))
   obtain ⟨z,j,bt,bu⟩:=h
   refine I0 (J:=fun n l w=>∃(s:Int×(List i6))(H:Hp)(b0I:Sl)(b0J:Frag),n=j s∧l=(match s with | (a5m,a2Z)=>[(vi a5m)])∧(match s with | (a5m,a2Z)=>RowL 158 2 D9 b0I a2Z b0J)∧(match s with | (a5m,a2Z)=>Inv w0 ps0 H0 H [bx g0 155 [(vs b0I)],bx f 60 (A8 d),b0J] w)∧z s H) ⟨_,(0,a8x),H,b2r,b2s,rfl,rfl,c3Q,(((I.bring 2).bring 2).bring 2),bt⟩ ?_
   rintro dw dx w next7 ⟨⟨a5m,a2Z⟩,H,b0I,b0J,rfl,aa,b4M,I,bv⟩ hn7
   dsimp only at aa I b4M
   simp only [List.map_cons,List.map_nil,List.cons.injEq,and_true] at aa
   have e49:=aa
   simp only [e49]
   obtain ⟨n7,hm7,h⟩:∃n7:(Int×(List i6))→Hp→Prop,(∀s' H',n7 s' H'→z s' H'∧j s' < j (a5m,a2Z))∧V8 x1 (x1.n:Int) W0 d.A0 (d.A0.n:Int) d a5m a2Z H n1 n7 K:=⟨_,fun _ _ h=>h,bu (a5m,a2Z) H (fun s' H'=>z s' H'∧j s' < j (a5m,a2Z)) bv (fun _ _ a b=>⟨a,b⟩)⟩
   unfold c2N
   unfold V8 at h
   refine c7 pLs ?_
   refine g9 h (fun _ h=>?_) (fun _ h=>?_)
   ·obtain ⟨bw,bz,af,ab,h⟩:=h
    obtain ⟨dy,dz,ca,ab⟩:=ab
    refine c7 (a2K ca _ _ _ _ bw bz) (d4 (ldA (vs:=(t6 af)) Tryz.isAgg131 Tryz.sizeOf131 rfl (I.atH ab)) ?_)
    refine y3 I Tryz.zeroValue131 (cs:=[(vi 0),(vi 0),(nS),(nS)]) rfl fun ea eb cb ec=>?_
    refine A6 cb Tryz.sizeOf131 (vs:=(t6 af)) fun ed ag ee=>?_
    refine d4 (lW Tryz.isAgg131 Tryz.sizeOf131 rfl ag) ?_
    refine j6 Tryz.call108 (h g0 b0I b0J b4M) ((ag.bring 3).bring 2) ?_
    rintro _ cc _ ef cd _ _ ⟨eg,ce,cf,cg,rfl,rfl,ch,h⟩
    refine c7 pAd ?_
    exact hn7 _ _ _ (hm7 _ _ h).2 ⟨((IntKind.wrap .i64 (a5m+1)),ce),cc,cf,cg,rfl,rfl,ch,((((cd.bring 2).drop.bring 1).bring 2).bring 2),(hm7 _ _ h).1⟩
   ·exact hx4 _ _ (hj4 a2Z b0I b0J H _ b4M (((I.bring 2).bring 2).bring 2) h)
  refine s8 fun j3 hx3=>?_
  refine c7 a1I (d4 (l1 Tryz.isAgg3 k rfl) (c7 pEq ?_))
  refine g9 h (fun _ h=>?_) (fun _ h=>?_)
  ·refine N5 k fun eh m=>?_
   refine f8 (y6 _) ?_
   refine f8 a1L ?_
   refine f8 a4Q ?_
   refine o3 (l1 Tryz.isAgg153 (m.bring 1) rfl) ?_
   refine o3 (l1 Tryz.isAgg9 m rfl) ?_
   refine f8 (a6X _ _) ?_
   refine a0x (e:=158) (c:=D9) (xs:=[(i6.mk d.m5 1)]) m (b1Y _ _) rfl rfl a6d a6e (nb rfl) fun ei ej ek ci ah cj=>?_
   refine ⟨(cj _ (m.bring 1).lt1),?_⟩
   obtain ⟨ck,h⟩:=h
   refine b3G (s:=a7F) (xs:=Q8) (ah.bring 3) b0F (ci.srcO ((ah.bring 3).bring 1)) ck fun ai cl el cm cn em=>?_
   refine f8 (y6 _) ?_
   refine f8 a1L ?_
   refine A6 ((cn.bring 1).drop.bring 2) Tryz.sizeOf153 (vs:=[(vs ai)]) fun en co eo=>?_
   exact hx3 _ _ (hj3 (Q8++[(i6.mk d.m5 1)]) ai cl H _ cm (((co.bring 1).bring 2).bring 2) h)
  ·refine c7 pEq ?_
   refine g9 h (fun _ h=>?_) (fun _ h=>?_)
   ·refine N5 k fun ep o=>?_
    refine f8 (y6 _) ?_
    refine f8 a1L ?_
    refine f8 a4Q ?_
    refine o3 (l1 Tryz.isAgg153 (o.bring 1) rfl) ?_
    refine o3 (l1 Tryz.isAgg9 o rfl) ?_
    refine f8 (a6X _ _) ?_
    refine a0x (e:=158) (c:=D9) (xs:=[(i6.mk d.m5 2)]) o (b1Y _ _) rfl rfl a6d a6e (nb rfl) fun eq er es cp aj cq=>?_
    refine ⟨(cq _ (o.bring 1).lt1),?_⟩
    obtain ⟨cr,h⟩:=h
    refine b3G (s:=a7F) (xs:=Q8) (aj.bring 3) b0F (cp.srcO ((aj.bring 3).bring 1)) cr fun ak ct et cu cv eu=>?_
    refine f8 (y6 _) ?_
    refine f8 a1L ?_
    refine A6 ((cv.bring 1).drop.bring 2) Tryz.sizeOf153 (vs:=[(vs ak)]) fun ev cw ew=>?_
    exact hx3 _ _ (hj3 (Q8++[(i6.mk d.m5 2)]) ak ct H _ cu (((cw.bring 1).bring 2).bring 2) h)
   ·exact hx3 _ _ (hj3 Q8 a7F b0E H _ b0F (((k.bring 2).bring 1).bring 2) h)
 ·exact hR _ H _ _ ((I.bring 1).bring 1) ⟨(m8.mk (Sl.mk none 0 0)),Q8,a7F,b0E,rfl,rfl,b0F,h⟩
def a4u(x0:O6)(H:Hp)(K:Sl→Hp→Prop):Prop:=
 C9 x0.A4.K5 H (fun a b=>
 K a b)
theorem b0K(x0){H K}(h:a4u x0 H K):a6F x0 H K:=by
 refine Ct.of fun w0 w ps0 H0 R E I hR=>c6v ?_
 unfold a4u at h
 unfold c9f
 refine D6 I (cs:=(q8 x0.A4)) rfl fun e f a g=>?_
 refine c7 E3 (c7 U4 (d4 (l1 Tryz.isAgg57 a rfl) ?_))
 refine j6 Tryz.call161 h a ?_
 rintro _ b _ i c _ _ ⟨d,rfl,rfl,h⟩
 exact hR _ b _ _ c.drop ⟨d,rfl,rfl,h⟩
end Go.Proofs.YtaokfhdinhimfaaGreatDoor
