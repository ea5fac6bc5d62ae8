/- Typed formulas of the program's functions, and the theorems that the contracts follow from them; printed by lift.py off the code. -/
import Derived.Test.YtaokfhdinhimfaaGreatDooryCV1
namespace Go.Proofs.YtaokfhdinhimfaaGreatDoor
open Go.RowKit
set_option maxRecDepth 100000
set_option maxHeartbeats 2000000
def W1(j:d4)(k:(List (List Int)))(l:(List Bool))(m:(List Int))(r:d4)(H:Hp)(K:m9→Hp→Prop):Prop:=
 ∀(a:Sl)(e:Hp),Hle H e→SlHH e 1 o3 a k→a.n≤a.c→
 T1 (m9.mk j a (Sl.mk none 0 0) (Sl.mk none 0 0)) l m 0 e (fun i o p q=>
 ∀(b:Sl)(f:Hp),Hle q f→SlH f 1 E5 b o→b.n≤b.c→
 ∀(d:Sl)(g:Hp),Hle f g→SlH g 1 o3 d p→d.n≤d.c→
 K (m9.mk i.fc i.fout b d) g)
def W2(f:(List Bool))(g:(List Int))(a:d4)(a4I:Int)(e:d4)(c:(List (List Int)))(H:Hp)(n3:(Int×d4×(List (List Int)))→Hp→Prop)(K:m9→Hp→Prop):Prop:=
 (a4I < (a.m4.n:Int)→
 (0:Int)≤a4I∧(a4I:Int) < a.m4.n∧∃b:c8,EltH H a.m4 a4I 10 (f7 b)∧
 (0:Int)≤b.o4∧∃d:List Int,(c)[(b.o4:Int).toNat]? = some d∧
 (d.length+([a4I]:List Int).length)*9≤140737488355328∧
 n3 ((IntKind.wrap .i64 (a4I+1)),e,(c.set (b.o4:Int).toNat (d++[a4I]))) H)∧
 (¬(a4I < (a.m4.n:Int))→
 W1 e c f g a H K)
def L1(a:d4)(b:(List (List Int)))(c:(List Bool))(d:(List Int))(e:d4)(H:Hp)(K:m9→Hp→Prop):Prop:=
 TL ((0,a,b):Int×d4×(List (List Int))) H fun(s:Int×d4×(List (List Int))) H n3=>W2 c d e s.1 s.2.1 s.2.2 H n3 K
def a3r(x0:d4)(H:Hp)(K:m9→Hp→Prop):Prop:=
 ((0:Int)≤x0.c6∧x0.c6*25≤140737488355328∧
 (0:Int)≤x0.c6∧x0.c6*2≤140737488355328∧
 L1 x0 (List.replicate (x0.c6:Int).toNat ([]:List Int)) (List.replicate (x0.c6:Int).toNat false) [] x0 H K)∧
 ((0:Int)≤x0.c6∧x0.c6*2≤140737488355328∧
 (0:Int)≤x0.c6∧x0.c6*25≤140737488355328∧
 L1 x0 (List.replicate (x0.c6:Int).toNat ([]:List Int)) (List.replicate (x0.c6:Int).toNat false) [] x0 H K)
theorem a9I(x0){H K}(h:a3r x0 H K):a0k x0 H K:=by
 refine Ct.of fun w0 w ps0 H0 R E I hR=>c7I ?_
 unfold a3r at h
 unfold F43
 refine z6 I (cs:=(d8 x0)) rfl fun ah ei bu ej=>?_
 have hj1:∀(g:d4)(ai:(List (List Int)))(ac:(List Bool))(ad:(List Int))(m:Sl)(aj:Frag)(t:Sl)(ae:Frag)(u:Sl)(af:Frag)(o:Nat)(H:Hp)(w:World)(_:RowsL 44 3 1 o3 m ai aj)(_:RowL 4 1 E5 t ac ae)(_:RowL 3 1 o3 u ad af)(_:Inv w0 ps0 H0 H [bx o 96 [(vs g.p5),(vi g.m3),(vs g.m2),(vi g.c6),(vi g.p9),(vs g.m4),(vs m),(vs t),(vs u)],bx ah 30 (d8 x0),aj,ae,af] w)(_:L1 g ai ac ad x0 H K),b8C (Value.pointer (some ⟨ah,0,none⟩)) (Value.pointer (some ⟨o,0,none⟩)) w R E:=by
  intro g ai ac ad m aj t ae u af o H w bv bw bz I h
  unfold b8C
  intro _
  unfold L1 at h
  have hj2:∀(p:d4)(ao:(List (List Int)))(ap:(List Bool))(aq:(List Int))(ar:Frag)(ak:Frag)(al:Frag)(H:Hp)(w:World)(_:RowsL 44 3 1 o3 m ao ar)(_:RowL 4 1 E5 t ap ak)(_:RowL 3 1 o3 u aq al)(_:Inv w0 ps0 H0 H [bx o 96 [(vs p.p5),(vi p.m3),(vs p.m2),(vi p.c6),(vi p.p9),(vs p.m4),(vs m),(vs t),(vs u)],bx ah 30 (d8 x0),ar,ak,al] w)(_:W1 p ao ap aq x0 H K),b8B (Value.pointer (some ⟨o,0,none⟩)) w R E:=by
   intro p ao ap aq ar ak al H w ca cb cc I h
   unfold b8B
   intro _
   unfold W1 at h
   obtain ⟨cd,ce,cf,cg,ch⟩:=Inv.freezeLL (I.bring 2) ca (by decide)
   replace h:=h m cd cf cg ch
   refine f9 Tryz.call60 (h o t ak u al cb cc) (((ce.bring 3).bring 3).bring 2) ?_
   rintro _ _ _ ek ci _ _ ⟨bc,el,em,bd,en,be,eo,rfl,rfl,cj,ck,h⟩
   obtain ⟨cl,cm,cn,co,cp⟩:=Inv.freezeC (ci.bring 1) cj (by decide)
   replace h:=h bd cl cn co cp
   obtain ⟨bf,cq,cr,ct,cu⟩:=Inv.freezeC (cm.bring 1) ck (by decide)
   replace h:=h be bf cr ct cu
   exact hR _ bf _ _ (cq.bring 1).drop ⟨(m9.mk bc.fc bc.fout bd be),o,rfl,rfl,h⟩
  refine o5 fun j2 hx2=>?_
  obtain ⟨au,ag,cv,cw⟩:=h
  refine C1 (J:=fun n l w=>∃(s:Int×d4×(List (List Int)))(H:Hp)(am:Frag),n=ag s∧l=(match s with | (a4I,d,f)=>[(vi a4I)])∧(match s with | (a4I,d,f)=>RowsL 44 3 1 o3 m f am)∧(match s with | (a4I,d,f)=>Inv w0 ps0 H0 H [bx o 96 [(vs d.p5),(vi d.m3),(vs d.m2),(vi d.c6),(vi d.p9),(vs d.m4),(vs m),(vs t),(vs u)],bx ah 30 (d8 x0),ae,af,am] w)∧au s H) ⟨_,(0,g,ai),H,aj,rfl,rfl,bv,(((((I.bring 2).bring 4).bring 4).bring 4).bring 4),cv⟩ ?_
  rintro ep eq w next3 ⟨⟨a4I,d,f⟩,H,am,rfl,av,aw,I,cx⟩ hn3
  dsimp only at av I aw
  simp only [List.map_cons,List.map_nil,List.cons.injEq,and_true] at av
  have e4:=av
  simp only [e4]
  obtain ⟨n3,hm3,h⟩:∃n3:(Int×d4×(List (List Int)))→Hp→Prop,(∀s' H',n3 s' H'→au s' H'∧ag s' < ag (a4I,d,f))∧W2 ac ad x0 a4I d f H n3 K:=⟨_,fun _ _ h=>h,cw (a4I,d,f) H (fun s' H'=>au s' H'∧ag s' < ag (a4I,d,f)) cx (fun _ _ a b=>⟨a,b⟩)⟩
  unfold c2u
  unfold W2 at h
  refine c5 y3 (c7 (l1 Tryz.isAgg28 (I.bring 1) rfl) (c5 (V8 _ _ _) (c5 pLs ?_)))
  refine d9 h (fun _ h=>?_) (fun _ h=>?_)
  ·refine I0 I fun er y=>?_
   refine d5 (r8 _) ?_
   refine d5 a9e ?_
   refine d5 y3 ?_
   refine d5 (r8 _) ?_
   refine d5 a9e ?_
   refine d5 y3 ?_
   refine j9 (l1 Tryz.isAgg83 y rfl) ?_
   refine j9 (l1 Tryz.isAgg28 (y.bring 1) rfl) ?_
   obtain ⟨bg,bh,ax,q,h⟩:=h
   obtain ⟨es,et,bi,q⟩:=q
   refine d5 (M4 bi _ _ _ _ bg bh) ?_
   refine d5 K2 ?_
   refine j9 (ld1 (v:=(vi ax.o4)) Tryz.isAgg3 ((y.atH q).sub (k:=0) (n:=1) (nb rfl))) ?_
   refine j9 (l1 Tryz.isAgg83 y rfl) ?_
   refine j9 (l1 Tryz.isAgg28 (y.bring 1) rfl) ?_
   refine d5 (M4 bi _ _ _ _ bg bh) ?_
   refine d5 K2 ?_
   refine j9 (ld1 (v:=(vi ax.o4)) Tryz.isAgg3 ((y.atH q).sub (k:=0) (n:=1) (nb rfl))) ?_
   obtain ⟨an,bj,cy,h⟩:=h
   obtain ⟨eu,bk,ev,ew,cz,z,ab,da,db,ex,i⟩:=RowsL.open_ aw (y.bring 4) cy
   obtain ⟨ey,ez,ay,fa⟩:=z.addr ab
   refine d5 (a1W ay _ _ _ _ an (z.lt an ab)) ?_
   refine j9 (ld1 (v:=(vs bk)) Tryz.isAgg44 (z.atW i ay ab)) ?_
   refine X9 (e:=3) (c:=o3) (xs:=[a4I]) i (a1z _) rfl rfl G6 G7 (nb rfl) fun fb fd fe dc r aa=>?_
   refine ⟨(aa _ (RowL.b4L z i ay)),(aa _ (i.a2r q)),(aa _ (i.bring 4).lt1),(aa _ (i.bring 3).lt1),(aa _ (i.a2r q)),(aa _ (i.bring 4).lt1),(aa _ (i.bring 3).lt1),?_⟩
   obtain ⟨dd,h⟩:=h
   refine a4G (s:=bk) (xs:=bj) (r.bring 2) da (dc.srcO ((r.bring 2).bring 1)) dd fun de df ff dg dh az=>?_
   refine ⟨(az _ (r.a2r q) (Inv.c3q (r.bring 2) q)),(az _ ((r.bring 2).bring 5).lt1 (Inv.a9F (((r.bring 2).bring 5).bring 1))),(az _ ((r.bring 2).bring 4).lt1 (Inv.a9F (((r.bring 2).bring 4).bring 1))),?_⟩
   obtain ⟨fg,fh,bl,fi⟩:=z.addr ab
   refine d5 (a1W bl _ _ _ _ an (z.lt an ab)) ?_
   refine a1y (x:=de) ((dh.bring 1).drop.bring 1) z bl (List.getElem?_eq_some_iff.1 ab).1 Tryz.sizeOf44 rfl fun di fj dj dk fk=>?_
   refine c5 pAd ?_
   exact hn3 _ _ _ (hm3 _ _ h).2 ⟨((IntKind.wrap .i64 (a4I+1)),d,(f.set (ax.o4:Int).toNat (bj++[a4I]))),H,(di++(df++cz)),rfl,rfl,(RowsL.b4K dj dg db),(((((((dk.bring 2).bring 2).bring 2).b6Y.bring 4).bring 4).bring 4).bring 4),(hm3 _ _ h).1⟩
  ·exact hx2 _ _ (hj2 d f ac ad am ae af H _ aw bw bz (((((I.bring 3).bring 3).bring 4).bring 4).bring 4) h)
 refine o5 fun j1 hx1=>?_
 refine I0 bu fun fl j=>?_
 refine d5 v7 ?_
 refine d5 v7 ?_
 refine j9 (lW Tryz.isAgg30 Tryz.sizeOf30 rfl j) ?_
 refine j9 (l1 Tryz.isAgg3 j rfl) ?_
 refine j9 (l1 Tryz.isAgg3 j rfl) ?_
 refine ⟨?_,?_⟩
 ·replace h:=h.1
  obtain ⟨dl,dm,h⟩:=h
  refine b4P j dl dm fun bm dn fm dp ba bn=>?_
  refine ⟨(bn _ j.lt1),(bn _ j.lt1),?_⟩
  obtain ⟨dq,dr,h⟩:=h
  refine b0Z ba dq dr fun bo ds fn dt du bp=>?_
  refine ⟨(bp _ (ba.bring 1).lt1),(bp _ (ba.bring 1).lt1),?_⟩
  refine d5 (b0y _ _ _ _ _ _ _ _ _ _ _ _ _ _ _ _ _ _) ?_
  refine z6 du (cs:=[(vs x0.p5),(vi x0.m3),(vs x0.m2),(vi x0.c6),(vi x0.p9),(vs x0.m4),(vs bm),(vs bo),(nS)]) rfl fun dv fo dw fp=>?_
  exact hx1 _ _ (hj1 x0 (List.replicate (x0.c6:Int).toNat ([]:List Int)) (List.replicate (x0.c6:Int).toNat false) [] bm dn bo ds (Sl.mk none 0 0) [] dv H _ (RowsL.made (e:=3) G6 G7 dp) dt (RowL.nil G6 G7) ((((dw.nil.bring 2).bring 3).bring 4).bring 4) h)
 ·replace h:=h.2
  obtain ⟨dx,dy,h⟩:=h
  refine b0Z j dx dy fun bq dz fq ea bb br=>?_
  refine ⟨(br _ j.lt1),(br _ j.lt1),?_⟩
  obtain ⟨eb,ec,h⟩:=h
  refine b4P bb eb ec fun bs ed fs ee ef bt=>?_
  refine ⟨(bt _ (bb.bring 1).lt1),(bt _ (bb.bring 1).lt1),?_⟩
  refine d5 (b0y _ _ _ _ _ _ _ _ _ _ _ _ _ _ _ _ _ _) ?_
  refine z6 ef (cs:=[(vs x0.p5),(vi x0.m3),(vs x0.m2),(vi x0.c6),(vi x0.p9),(vs x0.m4),(vs bs),(vs bq),(nS)]) rfl fun eg ft eh fu=>?_
  exact hx1 _ _ (hj1 x0 (List.replicate (x0.c6:Int).toNat ([]:List Int)) (List.replicate (x0.c6:Int).toNat false) [] bs ed bq dz (Sl.mk none 0 0) [] eg H _ (RowsL.made (e:=3) G6 G7 ee) ea (RowL.nil G6 G7) ((((eh.nil.bring 3).bring 3).bring 4).bring 4) h)
def a1l(H:Hp)(K:Bool→Hp→Prop):Prop:=
 K true H
def a1m(a5G:Sl)(a1o:Sl)(D3:Int)(H:Hp)(n2:Int→Hp→Prop)(K:Bool→Hp→Prop):Prop:=
 (D3 < (a5G.n:Int)→
 (0:Int)≤D3∧(D3:Int) < a5G.n∧∃a:Int,EltH H a5G D3 1 [(vi a)]∧
 (0:Int)≤D3∧(D3:Int) < a1o.n∧∃b:Int,EltH H a1o D3 1 [(vi b)]∧
 (¬(a=b)→
 K false H)∧
 (a=b→
 n2 (IntKind.wrap .i64 (D3+1)) H))∧
 (¬(D3 < (a5G.n:Int))→
 a1l H K)
def a3s(x0:Sl)(x1:Sl)(H:Hp)(K:Bool→Hp→Prop):Prop:=
 (¬((x0.n:Int)=(x1.n:Int))→
 K false H)∧
 ((x0.n:Int)=(x1.n:Int)→
 TL (0:Int) H fun(s:Int) H n2=>a1m x0 x1 s H n2 K)
theorem a9J(x0 x1){H K}(h:a3s x0 x1 H K):N6 x0 x1 H K:=by
 refine Ct.of fun w0 w ps0 H0 R E I hR=>c7n ?_
 unfold a3s at h
 unfold F16
 refine c5 (Q2 _ _ _) (c5 (Q2 _ _ _) (c5 pNe ?_))
 refine V5 h (fun _ h=>?_) (fun _ h=>?_)
 ·exact hR _ H _ _ I ⟨false,rfl,rfl,h⟩
 ·have hj1:∀H w (_:Inv w0 ps0 H0 H [] w) (_:a1l H K),b8d w R E:=by
   intro H w I h
   unfold b8d
   intro _
   unfold a1l at h
   exact hR _ H _ _ I ⟨true,rfl,rfl,h⟩
  refine o5 fun j1 hx1=>?_
  refine a0g (σ:=Int) (fun D3=>[(vi D3)]) (fun D3=>[]) h rfl I ?_
  rintro D3 H n w next2 n2 d I h hn2
  simp only [List.map_cons,List.map_nil,List.cons.injEq,and_true] at d
  have e5:=d
  simp only [e5]
  unfold c2e
  unfold a1m at h
  refine c5 (Q2 _ _ _) (c5 pLs ?_)
  refine d9 h (fun _ h=>?_) (fun _ h=>?_)
  ·refine I0 I fun o a=>?_
   obtain ⟨e,f,g,b,h⟩:=h
   obtain ⟨p,q,i,b⟩:=b
   refine d5 (L4 i _ _ _ _ e f) ?_
   obtain ⟨j,k,l,c,h⟩:=h
   obtain ⟨r,s,m,c⟩:=c
   refine d5 (L4 m _ _ _ _ j k) ?_
   refine j9 (ld1 (v:=(vi g)) Tryz.isAgg3 (a.atH b)) ?_
   refine j9 (ld1 (v:=(vi l)) Tryz.isAgg3 (a.atH c)) ?_
   refine d5 pNe ?_
   refine V5 h (fun _ h=>?_) (fun _ h=>?_)
   ·exact hR _ H _ _ a ⟨false,rfl,rfl,h⟩
   ·refine c5 pAd ?_
    exact hn2 (IntKind.wrap .i64 (D3+1)) _ _ h a
  ·exact hx1 _ _ (hj1 H _ I h)
def a1p(x0:d4)(H:Hp)(K:Sl→Hp→Prop):Prop:=
 a0k x0 H (fun a b=>
 K a.fbegun b)
theorem a8v(x0){H K}(h:a1p x0 H K):a1f x0 H K:=by
 refine Ct.of fun w0 w ps0 H0 R E I hR=>c7p ?_
 unfold a1p at h
 unfold F18
 refine z6 I (cs:=(d8 x0)) rfl fun e f a g=>?_
 refine c7 (lW Tryz.isAgg30 Tryz.sizeOf30 rfl a) ?_
 refine f9 Tryz.call43 h a ?_
 rintro _ c _ i b _ _ ⟨d,j,rfl,rfl,h⟩
 refine c5 (r8 _) (c5 a9c (c7 (l1 Tryz.isAgg47 b rfl) ?_))
 exact hR _ c _ _ b.drop.drop ⟨d.fbegun,rfl,rfl,h⟩
def a3t(x0:d4)(x1:Sl)(H:Hp)(K:Bool→Hp→Prop):Prop:=
 ((x1.n:Int)=0→
 K true H)∧
 (¬((x1.n:Int)=0)→
 (0:Int)≤0∧(0:Int) < x1.n∧∃c:Int,EltH H x1 0 1 [(vi c)]∧
 (0:Int)≤c∧(c:Int) < x0.m4.n∧∃a:c8,EltH H x0.m4 c 10 (f7 a)∧
 ((x1.n:Int)=1→
 K (!decide (a.d3=12)) H)∧
 (¬((x1.n:Int)=1)→
 (0:Int)≤1∧(1:Int) < x1.n∧∃d:Int,EltH H x1 1 1 [(vi d)]∧
 (0:Int)≤d∧(d:Int) < x0.m4.n∧∃b:c8,EltH H x0.m4 d 10 (f7 b)∧
 TG ((((((decide ((x1.n:Int)=2))&&(decide (a.d3=12)))&&(decide (b.d3=12)))&&(decide (a.fA.r9=b.fA.r9∧a.fA.p6=b.fA.p6)))&&(decide (a.fB.r9=b.fB.r9∧a.fB.p6=b.fB.p6)))=true) (a3O a.fOp H) 0 H (fun(e:Int)(f:Hp)=>
 K ((((((decide ((x1.n:Int)=2))&&(decide (a.d3=12)))&&(decide (b.d3=12)))&&(decide (a.fA.r9=b.fA.r9∧a.fA.p6=b.fA.p6)))&&(decide (a.fB.r9=b.fB.r9∧a.fB.p6=b.fB.p6)))&&(decide (b.fOp=e))) f)))
theorem a9K(x0 x1){H K}(h:a3t x0 x1 H K):a3k x0 x1 H K:=by
 refine Ct.of fun w0 w ps0 H0 R E I hR=>c7A ?_
 unfold a3t at h
 unfold F35
 refine z6 I (cs:=(d8 x0)) rfl fun ay az ab ba=>?_
 refine c5 (Q2 _ _ _) (c5 pEq ?_)
 refine d9 h (fun _ h=>?_) (fun _ h=>?_)
 ·exact hR _ H _ _ ab.drop ⟨true,rfl,rfl,h⟩
 ·refine I0 ab fun bb e=>?_
  refine d5 y3 ?_
  obtain ⟨ae,af,ag,k,h⟩:=h
  obtain ⟨bc,bd,ah,k⟩:=k
  refine d5 (L4 ah _ _ _ _ ae af) ?_
  refine j9 (l1 Tryz.isAgg28 e rfl) ?_
  refine j9 (ld1 (v:=(vi ag)) Tryz.isAgg3 (e.atH k)) ?_
  obtain ⟨ai,aj,c,l,h⟩:=h
  obtain ⟨be,bf,ak,l⟩:=l
  refine d5 (M4 ak _ _ _ _ ai aj) ?_
  refine j9 (ldA (vs:=(f7 c)) Tryz.isAgg40 Tryz.sizeOf40 rfl (e.atH l)) ?_
  refine r5 e Tryz.zeroValue40 (cs:=[(vi 0),(vi 0),(vi 0),(vi 0),(vi 0),(vi 0),(vi 0),(vi 0),(vi 0),(vi 0)]) rfl fun m bg al s=>?_
  refine ⟨(s _ (e.a2r l)),(s _ (e.a2r k)),(s _ e.lt1),?_⟩
  refine u1 al Tryz.sizeOf40 (vs:=(f7 c)) fun bh t bi=>?_
  refine c5 (Q2 _ _ _) (c5 pEq ?_)
  refine d9 h (fun _ h=>?_) (fun _ h=>?_)
  ·refine c5 Q5 (c7 (l1 Tryz.isAgg3 t rfl) (c5 pNe ?_))
   exact hR _ H _ _ t.drop.drop ⟨(!decide (c.d3=12)),rfl,rfl,h⟩
  ·refine I0 t fun bj f=>?_
   refine d5 y3 ?_
   obtain ⟨am,an,ao,q,h⟩:=h
   obtain ⟨bk,bl,ap,q⟩:=q
   refine d5 (L4 ap _ _ _ _ am an) ?_
   refine j9 (l1 Tryz.isAgg28 (f.bring 1) rfl) ?_
   refine j9 (ld1 (v:=(vi ao)) Tryz.isAgg3 (f.atH q)) ?_
   obtain ⟨aq,ar,d,r,h⟩:=h
   obtain ⟨bm,bn,au,r⟩:=r
   refine d5 (M4 au _ _ _ _ aq ar) ?_
   refine j9 (ldA (vs:=(f7 d)) Tryz.isAgg40 Tryz.sizeOf40 rfl (f.atH r)) ?_
   refine r5 f Tryz.zeroValue40 (cs:=[(vi 0),(vi 0),(vi 0),(vi 0),(vi 0),(vi 0),(vi 0),(vi 0),(vi 0),(vi 0)]) rfl fun i bo av u=>?_
   refine ⟨(u _ (f.a2r r)),(u _ (f.a2r q)),(u _ (f.bring 1).lt1),?_⟩
   refine u1 av Tryz.sizeOf40 (vs:=(f7 d)) fun bp aw bq=>?_
   refine I0 aw fun br b=>?_
   refine d5 (Q2 _ _ _) ?_
   refine d5 pEq ?_
   refine d5 (Pu.g fun a=>by with_reducible exact Q5) ?_
   refine N1 (p:=(Value.pointer (some ⟨m,2,none⟩))) rfl (Ld.g fun a=>by simp only [f6 a];exact (l1 Tryz.isAgg3 (b.bring 1) rfl)) ?_
   refine d5 (Pu.g fun a=>by simp only [f6 a];with_reducible exact pEq) ?_
   refine d5 (A4 _ _) ?_
   refine d5 (Pu.g fun a=>by with_reducible exact Q5) ?_
   refine N1 (p:=(Value.pointer (some ⟨i,2,none⟩))) rfl (Ld.g fun a=>by simp only [f6 a];exact (l1 Tryz.isAgg3 b rfl)) ?_
   refine d5 (Pu.g fun a=>by simp only [f6 a];with_reducible exact pEq) ?_
   refine d5 (A4 _ _) ?_
   refine d5 (Pu.g fun a=>by with_reducible exact X1) ?_
   refine d5 (Pu.g fun a=>by with_reducible exact X1) ?_
   refine N1 (p:=(Value.pointer (some ⟨m,6,none⟩))) rfl (Ld.g fun a=>by simp only [f6 a];exact (ldA Tryz.isAgg38 Tryz.sizeOf38 rfl ((b.bring 1).at1 (o:=6) (vs:=(j6 c.fA)) (nb rfl) rfl))) ?_
   refine N1 (p:=(Value.pointer (some ⟨i,6,none⟩))) rfl (Ld.g fun a=>by simp only [f6 a];exact (ldA Tryz.isAgg38 Tryz.sizeOf38 rfl (b.at1 (o:=6) (vs:=(j6 d.fA)) (nb rfl) rfl))) ?_
   refine d5 (Pu.g fun a=>by simp only [f6 a];with_reducible exact (a6U _ _ _ _ _ _)) ?_
   refine d5 (A4 _ _) ?_
   refine d5 (Pu.g fun a=>by with_reducible exact a0S) ?_
   refine d5 (Pu.g fun a=>by with_reducible exact a0S) ?_
   refine N1 (p:=(Value.pointer (some ⟨m,8,none⟩))) rfl (Ld.g fun a=>by simp only [f6 a];exact (ldA Tryz.isAgg38 Tryz.sizeOf38 rfl ((b.bring 1).at1 (o:=8) (vs:=(j6 c.fB)) (nb rfl) rfl))) ?_
   refine N1 (p:=(Value.pointer (some ⟨i,8,none⟩))) rfl (Ld.g fun a=>by simp only [f6 a];exact (ldA Tryz.isAgg38 Tryz.sizeOf38 rfl (b.at1 (o:=8) (vs:=(j6 d.fB)) (nb rfl) rfl))) ?_
   refine d5 (Pu.g fun a=>by simp only [f6 a];with_reducible exact (a6U _ _ _ _ _ _)) ?_
   refine d5 (A4 _ _) ?_
   refine d5 (Pu.g fun a=>by with_reducible exact X2) ?_
   refine d5 (Pu.g fun a=>by with_reducible exact X2) ?_
   refine N1 (p:=(Value.pointer (some ⟨i,5,none⟩))) rfl (Ld.g fun a=>by simp only [f6 a];exact (l1 Tryz.isAgg3 b rfl)) ?_
   refine N1 (p:=(Value.pointer (some ⟨m,5,none⟩))) rfl (Ld.g fun a=>by simp only [f6 a];exact (l1 Tryz.isAgg3 (b.bring 1) rfl)) ?_
   refine N0 [] (fun j:Int=>(vi j)) h b (fun ac h=>?_) fun j y ax z aa ad h=>?_
   ·have a:=ac
    simp only [f6 a]
    refine f9 Tryz.call52 h b ?_
    rintro _ y _ ax z ad aa ⟨j,rfl,rfl,h⟩
    exact ⟨j,y,rfl,z,aa,ad,h⟩
   refine ⟨(a4C (p:=(Value.pointer (some ⟨i,5,none⟩))) rfl (aa _ b.lt1 (Inv.N4 (Fi:=[]) b))),?_⟩
   refine d5 (Pu.g fun a=>by simp only [f6 a];with_reducible exact pEq) ?_
   refine d5 (A4 _ _) ?_
   exact hR _ y _ _ z.drop.drop.drop ⟨((((((decide ((x1.n:Int)=2))&&(decide (c.d3=12)))&&(decide (d.d3=12)))&&(decide (c.fA.r9=d.fA.r9∧c.fA.p6=d.fA.p6)))&&(decide (c.fB.r9=d.fB.r9∧c.fB.p6=d.fB.p6)))&&(decide (d.fOp=j))),rfl,rfl,h⟩
def a3S(x0:d4)(H:Hp)(K:Int→Hp→Prop):Prop:=
 K (IntKind.wrap .i64 ((x0.p5.n:Int)+x0.m3)) H
theorem b0o(x0){H K}(h:a3S x0 H K):a0u x0 H K:=by
 refine Ct.of fun w0 w ps0 H0 R E I hR=>c7y ?_
 unfold a3S at h
 unfold F33
 refine z6 I (cs:=(d8 x0)) rfl fun b c a d=>?_
 refine c5 a0R (c7 (l1 Tryz.isAgg27 a rfl) (c5 (a1e _ _ _) (c5 X0 (c7 (l1 Tryz.isAgg3 a rfl) ?_))))
 refine c5 pAd ?_
 exact hR _ H _ _ a.drop ⟨(IntKind.wrap .i64 ((x0.p5.n:Int)+x0.m3)),rfl,rfl,h⟩
def y7(b0Q:Int)(b1F:Int)(a6X:Bool)(b8Q:Bool)(a6G:Bool)(a:c8)(H:Hp)(K:Bool→Hp→Prop):Prop:=
 (((a6X&&((decide (a.O0 < 0))||(decide (b0Q≤a.O0))))||((!a6X)&&(!decide (a.O0=(-1)))))=true→
 K false H)∧
 (((a6X&&((decide (a.O0 < 0))||(decide (b0Q≤a.O0))))||((!a6X)&&(!decide (a.O0=(-1)))))=false→
 (((((decide (a.d3=10))||(decide (a.d3=11)))&&((decide (a.K0 < 0))||(decide (b1F≤a.K0))))||((!((decide (a.d3=10))||(decide (a.d3=11))))&&(!decide (a.K0=(-1)))))=true→
 K false H)∧
 (((((decide (a.d3=10))||(decide (a.d3=11)))&&((decide (a.K0 < 0))||(decide (b1F≤a.K0))))||((!((decide (a.d3=10))||(decide (a.d3=11))))&&(!decide (a.K0=(-1)))))=false→
 ((((decide (a.d3=12))&&((decide (a.fOp < 1))||(decide (6 < a.fOp))))||((!decide (a.d3=12))&&(!decide (a.fOp=0))))=true→
 K false H)∧
 ((((decide (a.d3=12))&&((decide (a.fOp < 1))||(decide (6 < a.fOp))))||((!decide (a.d3=12))&&(!decide (a.fOp=0))))=false→
 V9 a.fA b8Q b0Q H (fun b c=>
 TG (b=true) (V9 a.fB a6G b0Q c) false c (fun(d:Bool)(e:Hp)=>
 K (b&&d) e)))))
def K4(d1h:Int)(d1i:Int)(d1j:Bool)(b3n:Bool)(a:c8)(H:Hp)(K:Bool→Hp→Prop):Prop:=
 (b3n=true→
 y7 d1h d1i d1j true true a H K)∧
 (b3n=false→
 K false H)
def C3(b8R:Int)(b8S:Int)(c8Z:Bool)(d1k:Bool)(c9a:Bool)(a8k:Int)(b3o:Bool)(a:c8)(H:Hp)(K:Bool→Hp→Prop):Prop:=
 (b3o=true→
 y7 b8R b8S true true true a H K)∧
 (b3o=false→
 (a8k=9→
 y7 b8R b8S true d1k c9a a H K)∧
 (¬(a8k=9)→
 (a8k=10→
 y7 b8R b8S true true c9a a H K)∧
 (¬(a8k=10)→
 (a8k=11→
 K4 b8R b8S c8Z (decide (a8k=11)) a H K)∧
 (¬(a8k=11)→
 K4 b8R b8S c8Z (decide (a8k=12)) a H K))))
def K5(b2J:Int)(b6i:Int)(b8T:Bool)(b8U:Bool)(b6j:Bool)(a1A:Int)(b1G:Bool)(a:c8)(H:Hp)(K:Bool→Hp→Prop):Prop:=
 (b1G=true→
 y7 b2J b6i true true b6j a H K)∧
 (b1G=false→
 (a1A=4→
 C3 b2J b6i b8T b8U b6j a1A (decide (a1A=4)) a H K)∧
 (¬(a1A=4)→
 (a1A=5→
 C3 b2J b6i b8T b8U b6j a1A (decide (a1A=5)) a H K)∧
 (¬(a1A=5)→
 (a1A=6→
 C3 b2J b6i b8T b8U b6j a1A (decide (a1A=6)) a H K)∧
 (¬(a1A=6)→
 (a1A=7→
 C3 b2J b6i b8T b8U b6j a1A (decide (a1A=7)) a H K)∧
 (¬(a1A=7)→
 C3 b2J b6i b8T b8U b6j a1A (decide (a1A=8)) a H K)))))
def E7(c3A:Int)(c3B:Int)(b0R:Bool)(c3C:Bool)(c3D:Bool)(b0A:Int)(b0B:Bool)(a:c8)(H:Hp)(K:Bool→Hp→Prop):Prop:=
 (b0B=true→
 y7 c3A c3B b0R c3C c3D a H K)∧
 (b0B=false→
 (b0A=2→
 K5 c3A c3B b0R c3C c3D b0A (decide (b0A=2)) a H K)∧
 (¬(b0A=2)→
 K5 c3A c3B b0R c3C c3D b0A (decide (b0A=3)) a H K))
def a2F(x0:c8)(x1:Int)(x2:Int)(H:Hp)(K:Bool→Hp→Prop):Prop:=
 (x0.d3=1→
 E7 x1 x2 false false false x0.d3 (decide (x0.d3=1)) x0 H K)∧
 (¬(x0.d3=1)→
 (x0.d3=13→
 E7 x1 x2 false false false x0.d3 (decide (x0.d3=13)) x0 H K)∧
 (¬(x0.d3=13)→
 E7 x1 x2 false false false x0.d3 (decide (x0.d3=14)) x0 H K))
theorem a9g(x0 x1 x2){H K}(h:a2F x0 x1 x2 H K):a2x x0 x1 x2 H K:=by
 refine Ct.of fun w0 w ps0 H0 R E I hR=>c7z ?_
 unfold a2F at h
 unfold F34
 refine z6 I (cs:=(f7 x0)) rfl fun c r i s=>?_
 have hj1:∀(a6X:Bool)(b8Q:Bool)(a6G:Bool) H w (_:Inv w0 ps0 H0 H [bx c 40 (f7 x0)] w) (_:y7 x1 x2 a6X b8Q a6G x0 H K),b8s (vi x1) (vi x2) (Value.pointer (some ⟨c,0,none⟩)) (vB a6X) (vB b8Q) (vB a6G) w R E:=by
  intro a6X b8Q a6G H w I h
  unfold b8s
  intro _
  unfold y7 at h
  refine c5 (Pu.g fun a=>by with_reducible exact a4R) ?_
  refine c7 (Ld.g fun a=>by simp only [f6 a];exact (l1 Tryz.isAgg3 I rfl)) ?_
  refine c5 (Pu.g fun a=>by simp only [f6 a];with_reducible exact pLs) ?_
  simp only [D4,a6T,c1H]
  refine c5 (Pu.e (a6k _ _ _) (Pu.g fun hb=>by obtain ⟨a,b⟩:=a8Y hb;with_reducible exact a4R)) ?_
  refine c7 (Ld.e (a6k _ _ _) (Ld.g fun hb=>by obtain ⟨a,b⟩:=a8Y hb;simp only [f6 hb];exact (l1 Tryz.isAgg3 I rfl))) ?_
  refine c5 (Pu.e (a6k _ _ _) (Pu.g fun hb=>by obtain ⟨a,b⟩:=a8Y hb;simp only [f6 hb];with_reducible exact pGe)) ?_
  refine c5 (Pu.g fun a=>by simp only [f6 a,b7v a];with_reducible exact (B8 _ _)) ?_
  refine c5 (A4 _ _) ?_
  simp only [D4]
  refine c5 (Pu.g fun a=>by simp only [f6 a];with_reducible exact (J7 _)) ?_
  simp only [a6T]
  refine c5 (Pu.e (M8 _ _ _) (Pu.g fun hb=>by obtain ⟨a,b⟩:=Z3 hb;with_reducible exact a4R)) ?_
  refine c7 (Ld.e (M8 _ _ _) (Ld.g fun hb=>by obtain ⟨a,b⟩:=Z3 hb;simp only [f6 hb];exact (l1 Tryz.isAgg3 I rfl))) ?_
  refine c5 (Pu.e (M8 _ _ _) (Pu.g fun hb=>by obtain ⟨a,b⟩:=Z3 hb;simp only [f6 hb];with_reducible exact pNe)) ?_
  refine c5 (Pu.g fun a=>by simp only [f6 a,a8p a];with_reducible exact (A4 _ _)) ?_
  refine c5 (B8 _ _) ?_
  refine m7 h (fun _ h=>?_) (fun _ h=>?_)
  ·exact hR _ H _ _ I.drop ⟨false,rfl,rfl,h⟩
  ·refine c5 Q5 (c7 (l1 Tryz.isAgg3 I rfl) (c5 pEq ?_))
   refine c5 (Pu.g fun a=>by with_reducible exact Q5) ?_
   refine c7 (Ld.g fun a=>by simp only [f6 a];exact (l1 Tryz.isAgg3 I rfl)) ?_
   refine c5 (Pu.g fun a=>by simp only [f6 a];with_reducible exact pEq) ?_
   refine c5 (B8 _ _) ?_
   refine c5 (Pu.g fun a=>by with_reducible exact a4S) ?_
   refine c7 (Ld.g fun a=>by simp only [f6 a];exact (l1 Tryz.isAgg3 I rfl)) ?_
   refine c5 (Pu.g fun a=>by simp only [f6 a];with_reducible exact pLs) ?_
   simp only [D4,a6T,c1H]
   refine c5 (Pu.e (a6k _ _ _) (Pu.g fun hb=>by obtain ⟨a,b⟩:=a8Y hb;with_reducible exact a4S)) ?_
   refine c7 (Ld.e (a6k _ _ _) (Ld.g fun hb=>by obtain ⟨a,b⟩:=a8Y hb;simp only [f6 hb];exact (l1 Tryz.isAgg3 I rfl))) ?_
   refine c5 (Pu.e (a6k _ _ _) (Pu.g fun hb=>by obtain ⟨a,b⟩:=a8Y hb;simp only [f6 hb];with_reducible exact pGe)) ?_
   refine c5 (Pu.g fun a=>by simp only [f6 a,b7v a];with_reducible exact (B8 _ _)) ?_
   refine c5 (A4 _ _) ?_
   simp only [D4]
   refine c5 (Pu.g fun a=>by simp only [f6 a];with_reducible exact (J7 _)) ?_
   simp only [a6T]
   refine c5 (Pu.e (M8 _ _ _) (Pu.g fun hb=>by obtain ⟨a,b⟩:=Z3 hb;with_reducible exact a4S)) ?_
   refine c7 (Ld.e (M8 _ _ _) (Ld.g fun hb=>by obtain ⟨a,b⟩:=Z3 hb;simp only [f6 hb];exact (l1 Tryz.isAgg3 I rfl))) ?_
   refine c5 (Pu.e (M8 _ _ _) (Pu.g fun hb=>by obtain ⟨a,b⟩:=Z3 hb;simp only [f6 hb];with_reducible exact pNe)) ?_
   refine c5 (Pu.g fun a=>by simp only [f6 a,a8p a];with_reducible exact (A4 _ _)) ?_
   refine c5 (B8 _ _) ?_
   refine m7 h (fun _ h=>?_) (fun _ h=>?_)
   ·exact hR _ H _ _ I.drop ⟨false,rfl,rfl,h⟩
   ·refine c5 Q5 (c7 (l1 Tryz.isAgg3 I rfl) (c5 pEq ?_))
    refine c5 (Pu.g fun a=>by with_reducible exact X2) ?_
    refine c7 (Ld.g fun a=>by simp only [f6 a];exact (l1 Tryz.isAgg3 I rfl)) ?_
    refine c5 (Pu.g fun a=>by simp only [f6 a];with_reducible exact pLs) ?_
    simp only [D4,a6T]
    refine c5 (Pu.e (a6k _ _ _) (Pu.g fun hb=>by obtain ⟨a,b⟩:=a8Y hb;with_reducible exact X2)) ?_
    refine c7 (Ld.e (a6k _ _ _) (Ld.g fun hb=>by obtain ⟨a,b⟩:=a8Y hb;simp only [f6 hb];exact (l1 Tryz.isAgg3 I rfl))) ?_
    refine c5 (Pu.e (a6k _ _ _) (Pu.g fun hb=>by obtain ⟨a,b⟩:=a8Y hb;simp only [f6 hb];with_reducible exact pGt)) ?_
    refine c5 (Pu.g fun a=>by simp only [f6 a,b7v a];with_reducible exact (B8 _ _)) ?_
    refine c5 (A4 _ _) ?_
    refine c5 (Pu.g fun a=>by with_reducible exact Q5) ?_
    refine c7 (Ld.g fun a=>by simp only [f6 a];exact (l1 Tryz.isAgg3 I rfl)) ?_
    refine c5 (Pu.g fun a=>by simp only [f6 a];with_reducible exact pNe) ?_
    simp only [D4,a6T]
    refine c5 (Pu.e (M8 _ _ _) (Pu.g fun hb=>by obtain ⟨a,b⟩:=Z3 hb;with_reducible exact X2)) ?_
    refine c7 (Ld.e (M8 _ _ _) (Ld.g fun hb=>by obtain ⟨a,b⟩:=Z3 hb;simp only [f6 hb];exact (l1 Tryz.isAgg3 I rfl))) ?_
    refine c5 (Pu.e (M8 _ _ _) (Pu.g fun hb=>by obtain ⟨a,b⟩:=Z3 hb;simp only [f6 hb];with_reducible exact pNe)) ?_
    refine c5 (Pu.g fun a=>by simp only [f6 a,a8p a];with_reducible exact (A4 _ _)) ?_
    refine c5 (B8 _ _) ?_
    refine m7 h (fun _ h=>?_) (fun _ h=>?_)
    ·exact hR _ H _ _ I.drop ⟨false,rfl,rfl,h⟩
    ·refine c5 X1 (c7 (ldA Tryz.isAgg38 Tryz.sizeOf38 rfl (I.at1 (o:=6) (vs:=(j6 x0.fA)) (nb rfl) rfl)) ?_)
     refine f9 Tryz.call51 h I ?_
     rintro _ _ _ t d _ _ ⟨p,rfl,rfl,h⟩
     refine c5 (Pu.g fun a=>by with_reducible exact a0S) ?_
     refine c7 (Ld.g fun a=>by simp only [f6 a];exact (ldA Tryz.isAgg38 Tryz.sizeOf38 rfl (d.at1 (o:=8) (vs:=(j6 x0.fB)) (nb rfl) rfl))) ?_
     simp only [D4]
     refine N0 [] (fun f:Bool=>(vB f)) h d (fun l h=>?_) fun f j q k m n h=>?_
     ·have a:=l
      simp only [f6 a]
      refine f9 Tryz.call51 h d ?_
      rintro _ j _ q k n m ⟨f,rfl,rfl,h⟩
      exact ⟨f,j,rfl,k,m,n,h⟩
     refine c5 (A4 _ _) ?_
     exact hR _ j _ _ k.drop ⟨(p&&f),rfl,rfl,h⟩
 refine o5 fun j1 hx1=>?_
 refine c5 Q5 (c7 (l1 Tryz.isAgg3 i rfl) ?_)
 have hj2:∀(b0B:Bool) H w (_:Inv w0 ps0 H0 H [bx c 40 (f7 x0)] w) (_:E7 x1 x2 false false false x0.d3 b0B x0 H K),b8w (vi x1) (vi x2) (Value.pointer (some ⟨c,0,none⟩)) (vB false) (vB false) (vB false) (vi x0.d3) (vB b0B) w j1 R E:=by
  intro b0B H w I h
  unfold b8w
  intro _
  unfold E7 at h
  refine m7 h (fun _ h=>?_) (fun _ h=>?_)
  ·exact hx1 _ _ (hj1 false false false H _ I h)
  ·have hj3:∀(b1G:Bool) H w (_:Inv w0 ps0 H0 H [bx c 40 (f7 x0)] w) (_:K5 x1 x2 false false false x0.d3 b1G x0 H K),b8v (vi x1) (vi x2) (Value.pointer (some ⟨c,0,none⟩)) (vB false) (vB false) (vB false) (vi x0.d3) (vB b1G) w j1 R E:=by
    intro b1G H w I h
    unfold b8v
    intro _
    unfold K5 at h
    refine m7 h (fun _ h=>?_) (fun _ h=>?_)
    ·exact hx1 _ _ (hj1 true true false H _ I h)
    ·have hj4:∀(b3o:Bool) H w (_:Inv w0 ps0 H0 H [bx c 40 (f7 x0)] w) (_:C3 x1 x2 false false false x0.d3 b3o x0 H K),b8u (vi x1) (vi x2) (Value.pointer (some ⟨c,0,none⟩)) (vB false) (vB false) (vB false) (vi x0.d3) (vB b3o) w j1 R E:=by
      intro b3o H w I h
      unfold b8u
      intro _
      unfold C3 at h
      refine m7 h (fun _ h=>?_) (fun _ h=>?_)
      ·exact hx1 _ _ (hj1 true true true H _ I h)
      ·refine c5 pEq ?_
       refine d9 h (fun _ h=>?_) (fun _ h=>?_)
       ·exact hx1 _ _ (hj1 true false false H _ I h)
       ·refine c5 pEq ?_
        refine d9 h (fun _ h=>?_) (fun _ h=>?_)
        ·exact hx1 _ _ (hj1 true true false H _ I h)
        ·have hj5:∀(b3n:Bool) H w (_:Inv w0 ps0 H0 H [bx c 40 (f7 x0)] w) (_:K4 x1 x2 false b3n x0 H K),b8t (vi x1) (vi x2) (Value.pointer (some ⟨c,0,none⟩)) (vB false) (vB b3n) w j1 R E:=by
          intro b3n H w I h
          unfold b8t
          intro _
          unfold K4 at h
          refine m7 h (fun _ h=>?_) (fun _ h=>?_)
          ·exact hx1 _ _ (hj1 false true true H _ I h)
          ·exact hR _ H _ _ I.drop ⟨false,rfl,rfl,h⟩
         refine o5 fun j5 hx5=>?_
         refine c5 pEq ?_
         refine d9 h (fun _ h=>?_) (fun _ h=>?_)
         ·exact hx5 _ _ (hj5 (decide (x0.d3=11)) H _ I h)
         ·refine c5 pEq ?_
          exact hx5 _ _ (hj5 (decide (x0.d3=12)) H _ I h)
     refine o5 fun j4 hx4=>?_
     refine c5 pEq ?_
     refine d9 h (fun _ h=>?_) (fun _ h=>?_)
     ·exact hx4 _ _ (hj4 (decide (x0.d3=4)) H _ I h)
     ·refine c5 pEq ?_
      refine d9 h (fun _ h=>?_) (fun _ h=>?_)
      ·exact hx4 _ _ (hj4 (decide (x0.d3=5)) H _ I h)
      ·refine c5 pEq ?_
       refine d9 h (fun _ h=>?_) (fun _ h=>?_)
       ·exact hx4 _ _ (hj4 (decide (x0.d3=6)) H _ I h)
       ·refine c5 pEq ?_
        refine d9 h (fun _ h=>?_) (fun _ h=>?_)
        ·exact hx4 _ _ (hj4 (decide (x0.d3=7)) H _ I h)
        ·refine c5 pEq ?_
         exact hx4 _ _ (hj4 (decide (x0.d3=8)) H _ I h)
   refine o5 fun j3 hx3=>?_
   refine c5 pEq ?_
   refine d9 h (fun _ h=>?_) (fun _ h=>?_)
   ·exact hx3 _ _ (hj3 (decide (x0.d3=2)) H _ I h)
   ·refine c5 pEq ?_
    exact hx3 _ _ (hj3 (decide (x0.d3=3)) H _ I h)
 refine o5 fun j2 hx2=>?_
 refine c5 pEq ?_
 refine d9 h (fun _ h=>?_) (fun _ h=>?_)
 ·exact hx2 _ _ (hj2 (decide (x0.d3=1)) H _ i h)
 ·refine c5 pEq ?_
  refine d9 h (fun _ h=>?_) (fun _ h=>?_)
  ·exact hx2 _ _ (hj2 (decide (x0.d3=13)) H _ i h)
  ·refine c5 pEq ?_
   exact hx2 _ _ (hj2 (decide (x0.d3=14)) H _ i h)
def Z8(c4H:Sl)(c4I:Int)(c9O:Sl)(c0S:d4)(a4s:Int)(a5x:(List Bool))(H:Hp)(n1:(Int×(List Bool))→Hp→Prop)(K:Sl→(List Bool)→Hp→Prop):Prop:=
 (a4s < c4I→
 (0:Int)≤a4s∧(a4s:Int) < c4H.n∧∃a:Int,EltH H c4H a4s 1 [(vi a)]∧
 (0:Int)≤a∧(a:Int) < c0S.m4.n∧∃b:c8,EltH H c0S.m4 a 10 (f7 b)∧
 a0V b.fTo (Sl.mk none 0 0) a5x c9O c0S H (fun d y0__85 c=>
 n1 ((IntKind.wrap .i64 (a4s+1)),y0__85) c))∧
 (¬(a4s < c4I)→
 K (Sl.mk none 0 0) a5x H)
def a0W(x0:Int)(x1:Sl)(x1_:(List Bool))(x2:Sl)(x4:d4)(H:Hp)(K:Sl→(List Bool)→Hp→Prop):Prop:=
 (0:Int)≤x0∧∃a:Bool,(x1_)[(x0:Int).toNat]? = some a∧
 (a=true→
 K (Sl.mk none 0 0) x1_ H)∧
 (a=false→
 (0:Int)≤x0∧∃c:Bool,(x1_)[(x0:Int).toNat]? = some c∧
 (0:Int)≤x0∧(x0:Int) < x2.n∧∃b:Sl,EltH H x2 x0 1 [(vs b)]∧
 TL ((0,(x1_.set (x0:Int).toNat true)):Int×(List Bool)) H fun(s:Int×(List Bool)) H n1=>Z8 b (b.n:Int) x2 x4 s.1 s.2 H n1 K)
theorem a6R(x0 x1 x1_ x2 x4){H K}(h:a0W x0 x1 x1_ x2 x4 H K):a0V x0 x1 x1_ x2 x4 H K:=by
 intro g1 g2 g3 g4 sx1_ Fx1_ hx1_
 refine Ct.of fun w0 w ps0 H0 R E I hR=>c7C ?_
 unfold a0W at h
 unfold F37
 refine c7 (l1 Tryz.isAgg47 I rfl) ?_
 obtain ⟨r,z,e,h⟩:=h
 obtain ⟨au,av,t,aw⟩:=hx1_.addr e
 refine c5 (Y0 t _ _ _ _ r (hx1_.lt r e)) (c7 (ld1 (v:=(vB z)) Tryz.isAgg4 (hx1_.atW (I.bring 1) t e)) ?_)
 refine m7 h (fun _ h=>?_) (fun _ h=>?_)
 ·exact hR _ H _ _ (((((I.bring 4).bring 4).bring 4).bring 4).bring 4) ⟨(Sl.mk none 0 0),x1_,sx1_,Fx1_,rfl,rfl,hx1_,h⟩
 ·refine c7 (l1 Tryz.isAgg47 I rfl) ?_
  obtain ⟨u,ax,f,h⟩:=h
  obtain ⟨ay,az,y,ba⟩:=hx1_.addr f
  refine c5 (Y0 y _ _ _ _ u (hx1_.lt u f)) ?_
  refine a1y (x:=true) (I.bring 1) hx1_ y (List.getElem?_eq_some_iff.1 f).1 Tryz.sizeOf4 rfl fun aa bb ab g bc=>?_
  refine c7 (l1 Tryz.isAgg83 (g.bring 2) rfl) ?_
  obtain ⟨ac,ad,i,j,h⟩:=h
  obtain ⟨bd,be,ae,j⟩:=j
  refine c5 (a1W ae _ _ _ _ ac ad) (c7 (ld1 (v:=(vs i)) Tryz.isAgg44 (g.atH j)) (c5 (Q2 _ _ _) ?_))
  obtain ⟨m,c,af,ag⟩:=h
  refine C1 (J:=fun n l w=>∃(s:Int×(List Bool))(H:Hp)(b2K:Sl)(Fcp1l1:Frag),n=c s∧l=(match s with | (a4s,a5x)=>[(vi a4s)])∧(match s with | (a4s,a5x)=>RowL 4 1 E5 b2K a5x Fcp1l1)∧(match s with | (a4s,a5x)=>Inv w0 ps0 H0 H [bx g1 47 [(vs b2K)],bx g2 83 [(vs x2)],bx g3 87 [(Value.func (.func 37) #[] #[(Value.pointer (some ⟨g1,0,none⟩)),(Value.pointer (some ⟨g2,0,none⟩)),(Value.pointer (some ⟨g3,0,none⟩)),(Value.pointer (some ⟨g4,0,none⟩))])],bx g4 30 (d8 x4),Fcp1l1] w)∧m s H) ⟨_,(0,(x1_.set (x0:Int).toNat true)),H,sx1_,aa,rfl,rfl,ab,((((g.bring 4).bring 4).bring 4).bring 4),af⟩ ?_
  rintro bf bg w next1 ⟨⟨a4s,a5x⟩,H,b2K,Fcp1l1,rfl,o,b8V,I,ah⟩ hn1
  dsimp only at o I b8V
  simp only [List.map_cons,List.map_nil,List.cons.injEq,and_true] at o
  have e20:=o
  simp only [e20]
  obtain ⟨n1,hm1,h⟩:∃n1:(Int×(List Bool))→Hp→Prop,(∀s' H',n1 s' H'→m s' H'∧c s' < c (a4s,a5x))∧Z8 i (i.n:Int) x2 x4 a4s a5x H n1 K:=⟨_,fun _ _ h=>h,ag (a4s,a5x) H (fun s' H'=>m s' H'∧c s' < c (a4s,a5x)) ah (fun _ _ a b=>⟨a,b⟩)⟩
  unfold c2r
  unfold Z8 at h
  refine c5 pLs ?_
  refine d9 h (fun _ h=>?_) (fun _ h=>?_)
  ·obtain ⟨ai,aj,ak,p,h⟩:=h
   obtain ⟨bh,bi,al,p⟩:=p
   refine c5 (L4 al _ _ _ _ ai aj) (c7 (ld1 (v:=(vi ak)) Tryz.isAgg3 (I.atH p)) ?_)
   refine I0 I fun bj d=>?_
   refine d5 y3 ?_
   refine j9 (l1 Tryz.isAgg87 (d.bring 2) rfl) ?_
   refine j9 (l1 Tryz.isAgg28 (d.bring 3) rfl) ?_
   obtain ⟨am,an,ao,q,h⟩:=h
   obtain ⟨bk,bl,ap,q⟩:=q
   refine d5 (M4 ap _ _ _ _ am an) ?_
   refine d5 X3 ?_
   refine j9 (ld1 (v:=(vi ao.fTo)) Tryz.isAgg3 ((d.atH q).sub (k:=1) (n:=1) (nb rfl))) ?_
   refine a4D (cap:=[(Value.pointer (some ⟨g1,0,none⟩)),(Value.pointer (some ⟨g2,0,none⟩)),(Value.pointer (some ⟨g3,0,none⟩)),(Value.pointer (some ⟨g4,0,none⟩))]) Tryz.call37 (h g1 g2 g3 g4 b2K Fcp1l1 b8V) (((((d.bring 3).bring 3).bring 3).bring 4).bring 4) ?_
   rintro _ aq _ bm ar _ _ ⟨bn,y0__85,sy0__85,Fy0__85,rfl,rfl,hy0__85,h⟩
   refine c5 pAd ?_
   exact hn1 _ _ _ (hm1 _ _ h).2 ⟨((IntKind.wrap .i64 (a4s+1)),y0__85),aq,sy0__85,Fy0__85,rfl,rfl,hy0__85,(((((ar.bring 1).bring 4).bring 4).bring 4).bring 4),(hm1 _ _ h).1⟩
  ·exact hR _ H _ _ (((((I.bring 3).bring 3).bring 3).bring 4).bring 4) ⟨(Sl.mk none 0 0),a5x,b2K,Fcp1l1,rfl,rfl,b8V,h⟩
def a4Z(x0:d4)(H:Hp)(K:Sl→Int→Hp→Prop):Prop:=
 O1 x0 H (fun a d=>
 (¬(a=0)→
 K (Sl.mk none 0 0) a d)∧
 (a=0→
 a2t x0 d (fun e f=>
 (0:Int)≤x0.c6∧x0.c6*2≤140737488355328∧
 a0V 0 (Sl.mk none 0 0) (List.replicate (x0.c6:Int).toNat false) e x0 f (fun i y0__65 g=>
 ∀(sy0__65:Sl)(b:Hp),Hle g b→SlH b 1 E5 sy0__65 y0__65→sy0__65.n≤sy0__65.c→
 K sy0__65 0 b))))
theorem b1H(x0){H K}(h:a4Z x0 H K):a2z x0 H K:=by
 refine Ct.of fun w0 w ps0 H0 R E I hR=>c7j ?_
 unfold a4Z at h
 unfold F12
 refine z6 I (cs:=(d8 x0)) rfl fun a af f ag=>?_
 refine c7 (lW Tryz.isAgg30 Tryz.sizeOf30 rfl f) ?_
 refine f9 Tryz.call15 h f ?_
 rintro _ m _ ah b _ _ ⟨n,rfl,rfl,h⟩
 refine c5 pNe ?_
 refine V5 h (fun _ h=>?_) (fun _ h=>?_)
 ·exact hR _ m _ _ b.drop ⟨(Sl.mk none 0 0),n,rfl,rfl,h⟩
 ·refine c7 (lW Tryz.isAgg30 Tryz.sizeOf30 rfl b) ?_
  refine f9 Tryz.call36 h b ?_
  rintro _ _ _ ai o _ _ ⟨p,rfl,rfl,h⟩
  refine r5 o Tryz.zeroValue83 (cs:=[(nS)]) rfl fun c aj q ak=>?_
  refine u1 q Tryz.sizeOf83 (vs:=[(vs p)]) fun al g am=>?_
  refine c5 v7 (c7 (l1 Tryz.isAgg3 (g.bring 1) rfl) ?_)
  obtain ⟨r,s,h⟩:=h
  refine b0Z g r s fun i t an u v ao=>?_
  refine r5 v Tryz.zeroValue47 (cs:=[(nS)]) rfl fun d ap y aq=>?_
  refine u1 y Tryz.sizeOf47 (vs:=[(vs i)]) fun ar z au=>?_
  refine r5 z Tryz.zeroValue87 (cs:=[Value.nilFunc]) rfl fun e av aa aw=>?_
  refine c5 (a5z _ _ _) ?_
  refine u1 aa Tryz.sizeOf87 (vs:=[(Value.func (.func 37) #[] #[(Value.pointer (some ⟨d,0,none⟩)),(Value.pointer (some ⟨c,0,none⟩)),(Value.pointer (some ⟨e,0,none⟩)),(Value.pointer (some ⟨a,0,none⟩))])]) fun ax j ay=>?_
  refine c7 (l1 Tryz.isAgg87 j rfl) ?_
  refine a4D (cap:=[(Value.pointer (some ⟨d,0,none⟩)),(Value.pointer (some ⟨c,0,none⟩)),(Value.pointer (some ⟨e,0,none⟩)),(Value.pointer (some ⟨a,0,none⟩))]) Tryz.call37 (h d c e a i t u) (((((j.bring 4).bring 1).bring 4).bring 4).bring 4) ?_
  rintro _ _ _ az k _ _ ⟨ba,y0__65,sy0__65,Fy0__65,rfl,rfl,hy0__65,h⟩
  refine c7 (l1 Tryz.isAgg47 k rfl) ?_
  obtain ⟨l,ab,ac,ad,ae⟩:=Inv.freezeC (k.bring 1) hy0__65 (by decide)
  replace h:=h sy0__65 l ac ad ae
  exact hR _ l _ _ ab.drop.drop.drop.drop ⟨sy0__65,0,rfl,rfl,h⟩
def a1Y(a:d4)(b:d4)(H:Hp)(K:Bool→Hp→Prop):Prop:=
 K true H
def a1Z(d:d4)(c:d4)(D3:Int)(H:Hp)(n2:Int→Hp→Prop)(K:Bool→Hp→Prop):Prop:=
 (D3 < (c.m4.n:Int)→
 (0:Int)≤D3∧(D3:Int) < c.m4.n∧∃a:c8,EltH H c.m4 D3 10 (f7 a)∧
 (0:Int)≤D3∧(D3:Int) < d.m4.n∧∃b:c8,EltH H d.m4 D3 10 (f7 b)∧
 (¬(a.o4=b.o4∧a.fTo=b.fTo∧a.d3=b.d3∧a.O0=b.O0∧a.K0=b.K0∧a.fOp=b.fOp∧a.fA.r9=b.fA.r9∧a.fA.p6=b.fA.p6∧a.fB.r9=b.fB.r9∧a.fB.p6=b.fB.p6)→
 K false H)∧
 (a.o4=b.o4∧a.fTo=b.fTo∧a.d3=b.d3∧a.O0=b.O0∧a.K0=b.K0∧a.fOp=b.fOp∧a.fA.r9=b.fA.r9∧a.fA.p6=b.fA.p6∧a.fB.r9=b.fB.r9∧a.fB.p6=b.fB.p6→
 n2 (IntKind.wrap .i64 (D3+1)) H))∧
 (¬(D3 < (c.m4.n:Int))→
 a1Y d c H K)
def a3T(x0:d4)(x1:d4)(H:Hp)(K:Bool→Hp→Prop):Prop:=
 a2B x0.p5 x1.p5 H (fun a b=>
 TG (((!a)||(!decide (x0.m3=x1.m3)))=false) (a2C x0.m2 x1.m2 b) false b (fun(c:Bool)(d:Hp)=>
 (((((((!a)||(!decide (x0.m3=x1.m3)))||(!c))||(!decide (x0.c6=x1.c6)))||(!decide (x0.p9=x1.p9)))||(!decide ((x0.m4.n:Int)=(x1.m4.n:Int))))=true→
 K false d)∧
 (((((((!a)||(!decide (x0.m3=x1.m3)))||(!c))||(!decide (x0.c6=x1.c6)))||(!decide (x0.p9=x1.p9)))||(!decide ((x0.m4.n:Int)=(x1.m4.n:Int))))=false→
 TL (0:Int) d fun(s:Int) H n2=>a1Z x1 x0 s H n2 K)))
theorem b0p(x0 x1){H K}(h:a3T x0 x1 H K):a0v x0 x1 H K:=by
 refine Ct.of fun w0 w ps0 H0 R E I hR=>c9M ?_
 unfold a3T at h
 unfold F8
 refine z6 I (cs:=(d8 x0)) rfl fun l ad r ae=>?_
 refine z6 r (cs:=(d8 x1)) rfl fun m af f ag=>?_
 refine c5 a0R (c7 (l1 Tryz.isAgg27 (f.bring 1) rfl) (c5 a0R (c7 (l1 Tryz.isAgg27 f rfl) ?_)))
 refine f9 Tryz.call31 h f ?_
 rintro _ _ _ ah c _ _ ⟨ai,rfl,rfl,h⟩
 refine c5 (J7 _) ?_
 refine c5 (Pu.g fun a=>by with_reducible exact X0) ?_
 refine c7 (Ld.g fun a=>by simp only [f6 a];exact (l1 Tryz.isAgg3 (c.bring 1) rfl)) ?_
 refine c5 (Pu.g fun a=>by with_reducible exact X0) ?_
 refine c7 (Ld.g fun a=>by simp only [f6 a];exact (l1 Tryz.isAgg3 c rfl)) ?_
 refine c5 (Pu.g fun a=>by simp only [f6 a];with_reducible exact pNe) ?_
 refine c5 (B8 _ _) ?_
 refine c5 (Pu.g fun a=>by with_reducible exact W9) ?_
 refine c7 (Ld.g fun a=>by simp only [f6 a];exact (l1 Tryz.isAgg22 (c.bring 1) rfl)) ?_
 refine c5 (Pu.g fun a=>by with_reducible exact W9) ?_
 refine c7 (Ld.g fun a=>by simp only [f6 a];exact (l1 Tryz.isAgg22 c rfl)) ?_
 refine N0 [] (fun e:Bool=>(vB e)) h c (fun n h=>?_) fun e i s b o p h=>?_
 ·have a:=n
  simp only [f6 a]
  refine f9 Tryz.call32 h c ?_
  rintro _ i _ s b p o ⟨e,rfl,rfl,h⟩
  exact ⟨e,i,rfl,b,o,p,h⟩
 refine c5 (Pu.g fun a=>by simp only [f6 a];with_reducible exact (J7 _)) ?_
 refine c5 (B8 _ _) ?_
 refine c5 (Pu.g fun a=>by with_reducible exact v7) ?_
 refine c7 (Ld.g fun a=>by simp only [f6 a];exact (l1 Tryz.isAgg3 (b.bring 1) rfl)) ?_
 refine c5 (Pu.g fun a=>by with_reducible exact v7) ?_
 refine c7 (Ld.g fun a=>by simp only [f6 a];exact (l1 Tryz.isAgg3 b rfl)) ?_
 refine c5 (Pu.g fun a=>by simp only [f6 a];with_reducible exact pNe) ?_
 refine c5 (B8 _ _) ?_
 refine c5 (Pu.g fun a=>by with_reducible exact a0j) ?_
 refine c7 (Ld.g fun a=>by simp only [f6 a];exact (l1 Tryz.isAgg3 (b.bring 1) rfl)) ?_
 refine c5 (Pu.g fun a=>by with_reducible exact a0j) ?_
 refine c7 (Ld.g fun a=>by simp only [f6 a];exact (l1 Tryz.isAgg3 b rfl)) ?_
 refine c5 (Pu.g fun a=>by simp only [f6 a];with_reducible exact pNe) ?_
 refine c5 (B8 _ _) ?_
 refine c5 (Pu.g fun a=>by with_reducible exact y3) ?_
 refine c7 (Ld.g fun a=>by simp only [f6 a];exact (l1 Tryz.isAgg28 (b.bring 1) rfl)) ?_
 refine c5 (Pu.g fun a=>by simp only [f6 a];with_reducible exact (V8 _ _ _)) ?_
 refine c5 (Pu.g fun a=>by with_reducible exact y3) ?_
 refine c7 (Ld.g fun a=>by simp only [f6 a];exact (l1 Tryz.isAgg28 b rfl)) ?_
 refine c5 (Pu.g fun a=>by simp only [f6 a];with_reducible exact (V8 _ _ _)) ?_
 refine c5 (Pu.g fun a=>by simp only [f6 a];with_reducible exact pNe) ?_
 refine c5 (B8 _ _) ?_
 refine m7 h (fun _ h=>?_) (fun _ h=>?_)
 ·exact hR _ i _ _ b.drop.drop ⟨false,rfl,rfl,h⟩
 ·have hj1:∀H w (_:Inv w0 ps0 H0 H [bx m 30 (d8 x1),bx l 30 (d8 x0)] w) (_:a1Y x1 x0 H K),c0O w R E:=by
   intro H w I h
   unfold c0O
   intro _
   unfold a1Y at h
   exact hR _ H _ _ I.drop.drop ⟨true,rfl,rfl,h⟩
  refine o5 fun j1 hx1=>?_
  refine a0g (σ:=Int) (fun D3=>[(vi D3)]) (fun D3=>[bx m 30 (d8 x1),bx l 30 (d8 x0)]) h rfl ((b.bring 1).bring 1) ?_
  rintro D3 H aj w next2 n2 q I h hn2
  simp only [List.map_cons,List.map_nil,List.cons.injEq,and_true] at q
  have e5:=q
  simp only [e5]
  unfold c4D
  unfold a1Z at h
  refine c5 y3 (c7 (l1 Tryz.isAgg28 (I.bring 1) rfl) (c5 (V8 _ _ _) (c5 pLs ?_)))
  refine d9 h (fun _ h=>?_) (fun _ h=>?_)
  ·refine I0 I fun ak d=>?_
   refine d5 y3 ?_
   refine d5 y3 ?_
   refine j9 (l1 Tryz.isAgg28 (d.bring 1) rfl) ?_
   obtain ⟨t,u,v,j,h⟩:=h
   obtain ⟨al,am,y,j⟩:=j
   refine d5 (M4 y _ _ _ _ t u) ?_
   refine j9 (ldA (vs:=(f7 v)) Tryz.isAgg40 Tryz.sizeOf40 rfl (d.atH j)) ?_
   refine j9 (l1 Tryz.isAgg28 d rfl) ?_
   obtain ⟨z,aa,ab,k,h⟩:=h
   obtain ⟨an,ao,ac,k⟩:=k
   refine d5 (M4 ac _ _ _ _ z aa) ?_
   refine j9 (ldA (vs:=(f7 ab)) Tryz.isAgg40 Tryz.sizeOf40 rfl (d.atH k)) ?_
   refine d5 (c3x _ _ _ _ _ _ _ _ _ _ _ _ _ _ _ _ _ _ _ _ _ _) ?_
   refine V5 h (fun _ h=>?_) (fun _ h=>?_)
   ·exact hR _ H _ _ d.drop.drop ⟨false,rfl,rfl,h⟩
   ·refine c5 pAd ?_
    exact hn2 (IntKind.wrap .i64 (D3+1)) _ _ h ((d.bring 1).bring 1)
  ·exact hx1 _ _ (hj1 H _ ((I.bring 1).bring 1) h)
def L6(b2J:Int)(b3p:(List Int))(d1l:Int)(a:d4)(H:Hp)(n2:((List Int)×Int)→Hp→Prop)(K:Sl→Hp→Prop):Prop:=
 n2 (b3p,(IntKind.wrap .i64 (d1l+1))) H
def X6(L0:(List Int))(b:d4)(H:Hp)(K:Sl→Hp→Prop):Prop:=
 ∀(C4:Sl)(a:Hp),Hle H a→SlH a 1 o3 C4 L0→C4.n≤C4.c→
 K C4 a
def X7(a1o:Int)(a:d4)(t8:(List Int))(a3u:Int)(H:Hp)(n2:((List Int)×Int)→Hp→Prop)(K:Sl→Hp→Prop):Prop:=
 (a3u < (a.m4.n:Int)→
 (0:Int)≤a3u∧(a3u:Int) < a.m4.n∧∃b:c8,EltH H a.m4 a3u 10 (f7 b)∧
 (b.o4=a1o→
 (t8.length+([a3u]:List Int).length)*9≤140737488355328∧
 L6 a1o (t8++[a3u]) a3u a H n2 K)∧
 (¬(b.o4=a1o)→
 L6 a1o t8 a3u a H n2 K))∧
 (¬(a3u < (a.m4.n:Int))→
 X6 t8 a H K)
def a3U(x0:d4)(x1:Int)(H:Hp)(K:Sl→Hp→Prop):Prop:=
 TL (([],0):(List Int)×Int) H fun(s:(List Int)×Int) H n2=>X7 x1 x0 s.1 s.2 H n2 K
theorem b0q(x0 x1){H K}(h:a3U x0 x1 H K):a0w x0 x1 H K:=by
 refine Ct.of fun w0 w ps0 H0 R E I hR=>c7o ?_
 unfold a3U at h
 unfold F17
 refine z6 I (cs:=(d8 x0)) rfl fun f al p am=>?_
 have hj1:∀(L0:(List Int))(C4:Sl)(Fs5j1:Frag) H w (_:RowL 3 1 o3 C4 L0 Fs5j1) (_:Inv w0 ps0 H0 H [bx f 30 (d8 x0),Fs5j1] w) (_:X6 L0 x0 H K),b8e (vs C4) w R E:=by
  intro L0 C4 Fs5j1 H w a4t I h
  unfold b8e
  intro _
  unfold X6 at h
  obtain ⟨m,q,r,t,u⟩:=Inv.freezeC (I.bring 1) a4t (by decide)
  replace h:=h C4 m r t u
  exact hR _ m _ _ q.drop ⟨C4,rfl,rfl,h⟩
 refine o5 fun j1 hx1=>?_
 obtain ⟨g,d,y,z⟩:=h
 refine C1 (J:=fun n l w=>∃(s:(List Int)×Int)(H:Hp)(P6:Sl)(Fs5l2:Frag),n=d s∧l=(match s with | (t8,a3u)=>[(vs P6),(vi a3u)])∧(match s with | (t8,a3u)=>RowL 3 1 o3 P6 t8 Fs5l2)∧(match s with | (t8,a3u)=>Inv w0 ps0 H0 H [bx f 30 (d8 x0),Fs5l2] w)∧g s H) ⟨_,([],0),H,(Sl.mk none 0 0),[],rfl,rfl,(RowL.nil G6 G7),(p.nil.bring 1),y⟩ ?_
 rintro an ao w next2 ⟨⟨t8,a3u⟩,H,P6,Fs5l2,rfl,i,a1B,I,aa⟩ hn2
 dsimp only at i I a1B
 simp only [List.map_cons,List.map_nil,List.cons.injEq,and_true] at i
 obtain ⟨e5,e6⟩:=i
 simp only [e5,e6]
 obtain ⟨n2,hm2,h⟩:∃n2:((List Int)×Int)→Hp→Prop,(∀s' H',n2 s' H'→g s' H'∧d s' < d (t8,a3u))∧X7 x1 x0 t8 a3u H n2 K:=⟨_,fun _ _ h=>h,z (t8,a3u) H (fun s' H'=>g s' H'∧d s' < d (t8,a3u)) aa (fun _ _ a b=>⟨a,b⟩)⟩
 unfold c2f
 unfold X7 at h
 refine c5 y3 (c7 (l1 Tryz.isAgg28 I rfl) (c5 (V8 _ _ _) (c5 pLs ?_)))
 refine d9 h (fun _ h=>?_) (fun _ h=>?_)
 ·have hj3:∀(b3p:(List Int))(b6Z:Sl)(Fs5j3:Frag) H w (_:RowL 3 1 o3 b6Z b3p Fs5j3) (_:Inv w0 ps0 H0 H [bx f 30 (d8 x0),Fs5j3] w) (_:L6 x1 b3p a3u x0 H n2 K),b8f (vi x1) (Value.pointer (some ⟨f,0,none⟩)) (vs b6Z) (vi a3u) w next2 R E:=by
   intro b3p b6Z Fs5j3 H w c9P I h
   unfold b8f
   intro _
   unfold L6 at h
   refine c5 pAd ?_
   exact hn2 _ _ _ (hm2 _ _ h).2 ⟨(b3p,(IntKind.wrap .i64 (a3u+1))),H,b6Z,Fs5j3,rfl,rfl,c9P,((I.bring 1).bring 1),(hm2 _ _ h).1⟩
  refine o5 fun j3 hx3=>?_
  refine c5 y3 (c7 (l1 Tryz.isAgg28 I rfl) ?_)
  obtain ⟨ab,ac,ad,j,h⟩:=h
  obtain ⟨ap,aq,ae,j⟩:=j
  refine c5 (M4 ae _ _ _ _ ab ac) (c5 K2 (c7 (ld1 (v:=(vi ad.o4)) Tryz.isAgg3 ((I.atH j).sub (k:=0) (n:=1) (nb rfl))) (c5 pEq ?_)))
  refine d9 h (fun _ h=>?_) (fun _ h=>?_)
  ·refine X9 (e:=3) (c:=o3) (xs:=[a3u]) I (a1z _) rfl rfl G6 G7 (nb rfl) fun ar au av af o aw=>?_
   obtain ⟨ag,h⟩:=h
   refine a4G (s:=P6) (xs:=t8) (o.bring 2) a1B (af.srcO ((o.bring 2).bring 1)) ag fun ah ai ax aj ak ay=>?_
   exact hx3 _ _ (hj3 (t8++[a3u]) ah ai H _ aj ((ak.bring 1).drop.bring 1) h)
  ·exact hx3 _ _ (hj3 t8 P6 Fs5l2 H _ a1B ((I.bring 1).bring 1) h)
 ·exact hx1 _ _ (hj1 t8 P6 Fs5l2 H _ a1B ((I.bring 1).bring 1) h)
def a2b(x0:f3)(a:(List c8))(H:Hp)(K:Int→f3→(List c8)→Hp→Prop):Prop:=
 K (IntKind.wrap .i64 ((IntKind.wrap .i64 (x0.fc.c6+1))-1)) (f3.mk (d4.mk x0.fc.p5 x0.fc.m3 x0.fc.m2 (IntKind.wrap .i64 (x0.fc.c6+1)) x0.fc.p9 (Sl.mk none 0 0)) x0.fvars x0.farrays) a H
theorem a8O(x0 a){H K}(h:a2b x0 a H K):C0 x0 a H K:=by
 intro g0 c d e
 refine Ct.of fun w0 w ps0 H0 R E I hR=>c7u ?_
 unfold a2b at h
 unfold F23
 refine c5 (r8 _) (c5 N2 (c5 v7 (c7 (l1 Tryz.isAgg3 I rfl) (c5 pAd ?_))))
 refine c5 (r8 _) (c5 N2 (c5 v7 ?_))
 refine L3 I Tryz.sizeOf3 fun f b g=>?_
 refine c5 (r8 _) (c5 N2 (c5 v7 (c7 (l1 Tryz.isAgg3 b rfl) (c5 pSu ?_))))
 exact hR _ H _ _ ((b.bring 1).bring 1) ⟨(IntKind.wrap .i64 ((IntKind.wrap .i64 (x0.fc.c6+1))-1)),(f3.mk (d4.mk x0.fc.p5 x0.fc.m3 x0.fc.m2 (IntKind.wrap .i64 (x0.fc.c6+1)) x0.fc.p9 (Sl.mk none 0 0)) x0.fvars x0.farrays),a,c,d,rfl,rfl,e,h⟩
def a2d(x0:f3)(f:(List c8))(x1:q8)(H:Hp)(K:i6→Bool→Hp→Prop):Prop:=
 (x1.d3=1→
 K (i6.mk (-1) x1.p6) true H)∧
 (¬(x1.d3=1)→
 ∃a:q8,((decide (x1.d3=5))=true→(0:Int)≤0∧(0:Int) < x1.D5.n∧EltH H x1.D5 0 4 (m6 a))∧
 (((decide (x1.d3=5))&&(decide (a.d3=1)))=true→
 (0:Int)≤0∧(0:Int) < x1.D5.n∧∃b:q8,EltH H x1.D5 0 4 (m6 b)∧
 K (i6.mk (-1) (IntKind.wrap .i64 (0-b.p6))) true H)∧
 (((decide (x1.d3=5))&&(decide (a.d3=1)))=false→
 (x1.d3=2→
 ∃c:List (ByteArray×Int),MapH H (fun s:ByteArray=>Value.string s) (fun n:Int=>Value.int .i64 n) x0.fvars c∧
 K (i6.mk ((lk x1.i7 c).getD 0) 0) true H)∧
 (¬(x1.d3=2)→
 P1 H (fun d e=>
 K d false e))))
theorem a8P(x0 j x1){H K}(h:a2d x0 j x1 H K):X5 x0 j x1 H K:=by
 intro g0 ad ae af
 refine Ct.of fun w0 w ps0 H0 R E I hR=>c8l ?_
 unfold a2d at h
 unfold F96
 refine z6 I (cs:=(m6 x1)) rfl fun ag ah s ai=>?_
 refine r5 s Tryz.zeroValue38 (cs:=[(vi 0),(vi 0)]) rfl fun aj ak c al=>?_
 refine c5 W6 (c7 (l1 Tryz.isAgg3 (c.bring 1) rfl) (c5 pEq ?_))
 refine d9 h (fun _ h=>?_) (fun _ h=>?_)
 ·refine c5 a8g (c7 (l1 Tryz.isAgg2 (c.bring 1) rfl) (c5 (b2u _ _) ?_))
  refine u1 c Tryz.sizeOf38 (vs:=[(vi (-1)),(vi x1.p6)]) fun am l an=>?_
  refine S9 Tryz.isAgg38 Tryz.sizeOf38 rfl l ?_
  exact hR _ H _ _ ((l.drop.drop.bring 1).bring 1) ⟨(i6.mk (-1) x1.p6),true,rfl,rfl,h⟩
 ·refine c5 W6 (c7 (l1 Tryz.isAgg3 (c.bring 1) rfl) (c5 pEq ?_))
  refine c5 (Pu.g fun a=>by with_reducible exact a3b) ?_
  refine c7 (Ld.g fun a=>by simp only [f6 a];exact (l1 Tryz.isAgg57 (c.bring 1) rfl)) ?_
  obtain ⟨e,b,h⟩:=h
  obtain ⟨ao,ap,b⟩:=c4x b
  refine c5 (Pu.g fun hb=>by have a:=hb;simp only [f6 a];with_reducible exact (a4m (b hb).2.2.1 _ _ _ _ (b hb).1 (b hb).2.1)) ?_
  refine c5 (Pu.g fun a=>by simp only [f6 a];with_reducible exact W6) ?_
  refine c7 (Ld.g fun hb=>by have a:=hb;simp only [f6 a];exact (ld1 (v:=(vi e.d3)) Tryz.isAgg3 ((c.atH (b hb).2.2.2).sub (k:=0) (n:=1) (nb rfl)))) ?_
  refine c5 (Pu.g fun a=>by simp only [f6 a];with_reducible exact pEq) ?_
  refine c5 (A4 _ _) ?_
  refine m7 h (fun _ h=>?_) (fun _ h=>?_)
  ·refine c5 a3b (c7 (l1 Tryz.isAgg57 (c.bring 1) rfl) ?_)
   obtain ⟨t,u,f,i,h⟩:=h
   obtain ⟨aq,ar,y,i⟩:=i
   refine c5 (a4m y _ _ _ _ t u) (c5 a8g (c7 (ld1 (v:=(vi f.p6)) Tryz.isAgg2 ((c.atH i).sub (k:=1) (n:=1) (nb rfl))) (c5 (c6U _ _) (c5 (b2u _ _) ?_))))
   refine u1 c Tryz.sizeOf38 (vs:=[(vi (-1)),(vi (IntKind.wrap .i64 (0-f.p6)))]) fun au m av=>?_
   refine S9 Tryz.isAgg38 Tryz.sizeOf38 rfl m ?_
   exact hR _ H _ _ ((m.drop.drop.bring 1).bring 1) ⟨(i6.mk (-1) (IntKind.wrap .i64 (0-f.p6))),true,rfl,rfl,h⟩
  ·refine c5 W6 (c7 (l1 Tryz.isAgg3 (c.bring 1) rfl) (c5 pEq ?_))
   refine d9 h (fun _ h=>?_) (fun _ h=>?_)
   ·refine I0 c fun aw d=>?_
    refine d5 (r8 _) ?_
    refine d5 b1A ?_
    refine d5 a5B ?_
    refine j9 (l1 Tryz.isAgg66 (d.bring 2) rfl) ?_
    refine j9 (l1 Tryz.isAgg9 (d.bring 1) rfl) ?_
    obtain ⟨o,aa,h⟩:=h
    refine b1y (keyS Tryz.underlying9) Tryz.underlying66 (z:=0) Tryz.zeroValue3 d aa x1.i7 ?_
    refine d5 (a5A _) ?_
    refine u1 d Tryz.sizeOf38 (vs:=[(vi ((lk x1.i7 o).getD 0)),(vi 0)]) fun ax p ay=>?_
    refine S9 Tryz.isAgg38 Tryz.sizeOf38 rfl p ?_
    exact hR _ H _ _ ((p.drop.drop.bring 1).bring 1) ⟨(i6.mk ((lk x1.i7 o).getD 0) 0),true,rfl,rfl,h⟩
   ·refine f9 Tryz.call58 h c ?_
    rintro _ ab _ az ac _ _ ⟨q,rfl,rfl,h⟩
    refine u1 ac Tryz.sizeOf38 (vs:=(j6 q)) fun ba r bb=>?_
    refine S9 Tryz.isAgg38 Tryz.sizeOf38 rfl r ?_
    exact hR _ ab _ _ ((r.drop.drop.bring 1).bring 1) ⟨q,false,rfl,rfl,h⟩
def a8W(x0:Int)(x1:Int)(x2:Int)(H:Hp)(K:c8→Hp→Prop):Prop:=
 P1 H (fun a b=>
 P1 b (fun c d=>
 K (c8.mk x0 x1 x2 (-1) (-1) 0 a c) d))
theorem b3R(x0 x1 x2){H K}(h:a8W x0 x1 x2 H K):J8 x0 x1 x2 H K:=by
 refine Ct.of fun w0 w ps0 H0 R E I hR=>c8b ?_
 unfold a8W at h
 unfold F67
 refine r5 I Tryz.zeroValue40 (cs:=[(vi 0),(vi 0),(vi 0),(vi 0),(vi 0),(vi 0),(vi 0),(vi 0),(vi 0),(vi 0)]) rfl fun i j d k=>?_
 refine f9 Tryz.call58 h d ?_
 rintro _ _ _ l e _ _ ⟨a,rfl,rfl,h⟩
 refine f9 Tryz.call58 h e ?_
 rintro _ f _ m g _ _ ⟨b,rfl,rfl,h⟩
 refine c5 (b0n _ _ _ _ _ _ _ _ _) ?_
 refine u1 g Tryz.sizeOf40 (vs:=[(vi x0),(vi x1),(vi x2),(vi (-1)),(vi (-1)),(vi 0),(vi a.r9),(vi a.p6),(vi b.r9),(vi b.p6)]) fun n c o=>?_
 refine S9 Tryz.isAgg40 Tryz.sizeOf40 rfl c ?_
 exact hR _ f _ _ c.drop ⟨(c8.mk x0 x1 x2 (-1) (-1) 0 a b),rfl,rfl,h⟩
def a5a(x0:j8)(H:Hp)(K:d7→Hp→Prop):Prop:=
 K (d7.J3 (T0.mk x0)) H
theorem b1I(x0){H K}(h:a5a x0 H K):a7r x0 H K:=by
 refine Ct.of fun w0 w ps0 H0 R E I hR=>c5M ?_
 unfold a5a at h
 unfold c8x
 refine z6 I (cs:=(i5 x0)) rfl fun b c a d=>?_
 refine c7 (lW Tryz.isAgg70 Tryz.sizeOf70 rfl a) (c5 (b7Q _ _) (c5 (b5E (T0.mk x0)) ?_))
 exact hR _ H _ _ a.drop ⟨(d7.J3 (T0.mk x0)),rfl,rfl,h⟩
def A9(L0:(List d7))(H:Hp)(K:Sl→Hp→Prop):Prop:=
 ∀(C4:Sl)(a:Hp),Hle H a→SlH a 1 t6 C4 L0→C4.n≤C4.c→
 K C4 a
def B0(a2G:Sl)(a3v:Int)(t8:(List d7))(u7:Int)(H:Hp)(n2:((List d7)×Int)→Hp→Prop)(K:Sl→Hp→Prop):Prop:=
 (u7 < a3v→
 (0:Int)≤u7∧(u7:Int) < a2G.n∧∃a:j8,EltH H a2G u7 2 (i5 a)∧
 a7r a H (fun b c=>
 (t8.length+([b]:List d7).length)*17≤140737488355328∧
 n2 ((t8++[b]),(IntKind.wrap .i64 (u7+1))) c))∧
 (¬(u7 < a3v)→
 A9 t8 H K)
def E8(x0:Sl)(H:Hp)(K:Sl→Hp→Prop):Prop:=
 TL (([],0):(List d7)×Int) H fun(s:(List d7)×Int) H n2=>B0 x0 (x0.n:Int) s.1 s.2 H n2 K
theorem a0F(x0){H K}(h:E8 x0 H K):E6 x0 H K:=by
 refine Ct.of fun w0 w ps0 H0 R E I hR=>c5L ?_
 unfold E8 at h
 unfold c8w
 have hj1:∀(L0:(List d7))(C4:Sl)(Fs5j1:Frag) H w (_:RowL 182 1 t6 C4 L0 Fs5j1) (_:Inv w0 ps0 H0 H [Fs5j1] w) (_:A9 L0 H K),b5N (vs C4) w R E:=by
  intro L0 C4 Fs5j1 H w a4t I h
  unfold b5N
  intro _
  unfold A9 at h
  obtain ⟨j,q,r,t,u⟩:=Inv.freezeC I a4t (by decide)
  replace h:=h C4 j r t u
  exact hR _ j _ _ q ⟨C4,rfl,rfl,h⟩
 refine o5 fun j1 hx1=>?_
 refine c5 (Y6 _ _ _) ?_
 obtain ⟨f,d,v,y⟩:=h
 refine C1 (J:=fun n l w=>∃(s:(List d7)×Int)(H:Hp)(P6:Sl)(Fs5l2:Frag),n=d s∧l=(match s with | (t8,u7)=>[(vs P6),(vi u7)])∧(match s with | (t8,u7)=>RowL 182 1 t6 P6 t8 Fs5l2)∧(match s with | (t8,u7)=>Inv w0 ps0 H0 H [Fs5l2] w)∧f s H) ⟨_,([],0),H,(Sl.mk none 0 0),[],rfl,rfl,(RowL.nil N5 Q1),I.nil,v⟩ ?_
 rintro am an w next2 ⟨⟨t8,u7⟩,H,P6,Fs5l2,rfl,g,a1B,I,z⟩ hn2
 dsimp only at g I a1B
 simp only [List.map_cons,List.map_nil,List.cons.injEq,and_true] at g
 obtain ⟨e5,e10⟩:=g
 simp only [e5,e10]
 obtain ⟨n2,hm2,h⟩:∃n2:((List d7)×Int)→Hp→Prop,(∀s' H',n2 s' H'→f s' H'∧d s' < d (t8,u7))∧B0 x0 (x0.n:Int) t8 u7 H n2 K:=⟨_,fun _ _ h=>h,y (t8,u7) H (fun s' H'=>f s' H'∧d s' < d (t8,u7)) z (fun _ _ a b=>⟨a,b⟩)⟩
 unfold c0c
 unfold B0 at h
 refine c5 pLs ?_
 refine d9 h (fun _ h=>?_) (fun _ h=>?_)
 ·obtain ⟨aa,ab,k,i,h⟩:=h
  obtain ⟨ao,ap,ac,i⟩:=i
  refine c5 (a1U ac _ _ _ _ aa ab) (c7 (ldA (vs:=(i5 k)) Tryz.isAgg70 Tryz.sizeOf70 rfl (I.atH i)) ?_)
  refine r5 I Tryz.zeroValue70 (cs:=[(eS),(vi 0)]) rfl fun aq ar ad au=>?_
  refine u1 ad Tryz.sizeOf70 (vs:=(i5 k)) fun av m aw=>?_
  refine c7 (lW Tryz.isAgg70 Tryz.sizeOf70 rfl m) ?_
  refine f9 Tryz.call120 h m ?_
  rintro _ ae _ ax af _ _ ⟨o,rfl,rfl,h⟩
  refine X9 (e:=182) (c:=t6) (xs:=[o]) af (b1E _) rfl rfl N5 Q1 (nb rfl) fun ay az ba ag p bb=>?_
  obtain ⟨ah,h⟩:=h
  refine b1a (s:=P6) (xs:=t8) (p.bring 2) a1B (ag.srcO ((p.bring 2).bring 1)) ah fun ai aj bc ak al bd=>?_
  refine c5 pAd ?_
  exact hn2 _ _ _ (hm2 _ _ h).2 ⟨((t8++[o]),(IntKind.wrap .i64 (u7+1))),ae,ai,aj,rfl,rfl,ak,((al.bring 1).drop.bring 1).drop,(hm2 _ _ h).1⟩
 ·exact hx1 _ _ (hj1 t8 P6 Fs5l2 H _ a1B I h)
def C5(b3q:Bool)(a:Int)(H:Hp)(K:Int→Hp→Prop):Prop:=
 (b3q=true→
 K 3 H)∧
 (b3q=false→
 K 6 H)
def M5(b3r:Bool)(a:Int)(H:Hp)(K:Int→Hp→Prop):Prop:=
 (b3r=true→
 K 6 H)∧
 (b3r=false→
 J1 48 57 a H (fun g b=>
 (g=true→
 K 4 b)∧
 (g=false→
 (a=95→
 C5 (decide (a=95)) a b K)∧
 (¬(a=95)→
 J1 97 122 a b (fun c i=>
 (c=true→
 C5 c a i K)∧
 (c=false→
 J1 65 90 a i (fun d j=>
 (d=true→
 C5 d a j K)∧
 (d=false→
 J1 192 591 a j (fun e k=>
 (e=true→
 C5 e a k K)∧
 (e=false→
 J1 913 969 a k (fun f l=>
 (f=true→
 C5 f a l K)∧
 (f=false→
 J1 1040 1103 a l (fun m n=>
 C5 m a n K)))))))))))))
def o0(b4p:Int)(a9h:Bool)(a:Int)(H:Hp)(K:Int→Hp→Prop):Prop:=
 (a9h=true→
 K 5 H)∧
 (a9h=false→
 (b4p=215→
 M5 (decide (b4p=215)) a H K)∧
 (¬(b4p=215)→
 (b4p=247→
 M5 (decide (b4p=247)) a H K)∧
 (¬(b4p=247)→
 M5 (decide (b4p=930)) a H K)))
def M6(y8:Int)(a9L:Bool)(a:Int)(H:Hp)(K:Int→Hp→Prop):Prop:=
 (a9L=true→
 K 1 H)∧
 (a9L=false→
 (y8=10→
 K 2 H)∧
 (¬(y8=10)→
 (y8=59→
 o0 y8 (decide (y8=59)) a H K)∧
 (¬(y8=59)→
 (y8=44→
 o0 y8 (decide (y8=44)) a H K)∧
 (¬(y8=44)→
 (y8=123→
 o0 y8 (decide (y8=123)) a H K)∧
 (¬(y8=123)→
 (y8=125→
 o0 y8 (decide (y8=125)) a H K)∧
 (¬(y8=125)→
 (y8=40→
 o0 y8 (decide (y8=40)) a H K)∧
 (¬(y8=40)→
 (y8=41→
 o0 y8 (decide (y8=41)) a H K)∧
 (¬(y8=41)→
 (y8=91→
 o0 y8 (decide (y8=91)) a H K)∧
 (¬(y8=91)→
 (y8=93→
 o0 y8 (decide (y8=93)) a H K)∧
 (¬(y8=93)→
 (y8=61→
 o0 y8 (decide (y8=61)) a H K)∧
 (¬(y8=61)→
 (y8=33→
 o0 y8 (decide (y8=33)) a H K)∧
 (¬(y8=33)→
 (y8=60→
 o0 y8 (decide (y8=60)) a H K)∧
 (¬(y8=60)→
 (y8=62→
 o0 y8 (decide (y8=62)) a H K)∧
 (¬(y8=62)→
 (y8=43→
 o0 y8 (decide (y8=43)) a H K)∧
 (¬(y8=43)→
 (y8=45→
 o0 y8 (decide (y8=45)) a H K)∧
 (¬(y8=45)→
 (y8=42→
 o0 y8 (decide (y8=42)) a H K)∧
 (¬(y8=42)→
 (y8=47→
 o0 y8 (decide (y8=47)) a H K)∧
 (¬(y8=47)→
 (y8=37→
 o0 y8 (decide (y8=37)) a H K)∧
 (¬(y8=37)→
 (y8=38→
 o0 y8 (decide (y8=38)) a H K)∧
 (¬(y8=38)→
 o0 y8 (decide (y8=124)) a H K))))))))))))))))))))
def a5H(x0:Int)(H:Hp)(K:Int→Hp→Prop):Prop:=
 (x0=32→
 M6 x0 (decide (x0=32)) x0 H K)∧
 (¬(x0=32)→
 (x0=9→
 M6 x0 (decide (x0=9)) x0 H K)∧
 (¬(x0=9)→
 M6 x0 (decide (x0=13)) x0 H K))
theorem b2w(x0){H K}(h:a5H x0 H K):a3M x0 H K:=by
 refine Ct.of fun w0 w ps0 H0 R E I hR=>c5Y ?_
 unfold a5H at h
 unfold c8J
 refine z6 I (cs:=[(Value.int .i32 x0)]) rfl fun a u b v=>?_
 refine c7 (l1 Tryz.isAgg21 b rfl) ?_
 have hj1:∀(a9L:Bool) H w (_:Inv w0 ps0 H0 H [bx a 21 [(Value.int .i32 x0)]] w) (_:M6 x0 a9L x0 H K),b5X (Value.pointer (some ⟨a,0,none⟩)) (Value.int .i32 x0) (vB a9L) w R E:=by
  intro a9L H w I h
  unfold b5X
  intro _
  unfold M6 at h
  refine m7 h (fun _ h=>?_) (fun _ h=>?_)
  ·exact hR _ H _ _ I.drop ⟨1,rfl,rfl,h⟩
  ·refine c5 pEq ?_
   refine d9 h (fun _ h=>?_) (fun _ h=>?_)
   ·exact hR _ H _ _ I.drop ⟨2,rfl,rfl,h⟩
   ·have hj2:∀(a9h:Bool) H w (_:Inv w0 ps0 H0 H [bx a 21 [(Value.int .i32 x0)]] w) (_:o0 x0 a9h x0 H K),b5W (Value.pointer (some ⟨a,0,none⟩)) (Value.int .i32 x0) (vB a9h) w R E:=by
     intro a9h H w I h
     unfold b5W
     intro _
     unfold o0 at h
     refine m7 h (fun _ h=>?_) (fun _ h=>?_)
     ·exact hR _ H _ _ I.drop ⟨5,rfl,rfl,h⟩
     ·have hj3:∀(b3r:Bool) H w (_:Inv w0 ps0 H0 H [bx a 21 [(Value.int .i32 x0)]] w) (_:M5 b3r x0 H K),b5V (Value.pointer (some ⟨a,0,none⟩)) (vB b3r) w R E:=by
       intro b3r H w I h
       unfold b5V
       intro _
       unfold M5 at h
       refine m7 h (fun _ h=>?_) (fun _ h=>?_)
       ·exact hR _ H _ _ I.drop ⟨6,rfl,rfl,h⟩
       ·refine c5 (a5z _ _ _) ?_
        refine a4D (cap:=[(Value.pointer (some ⟨a,0,none⟩))]) Tryz.call138 (h a) I ?_
        rintro _ d _ y c _ _ ⟨z,rfl,rfl,h⟩
        refine m7 h (fun _ h=>?_) (fun _ h=>?_)
        ·exact hR _ d _ _ c.drop ⟨4,rfl,rfl,h⟩
        ·have hj4:∀(b3q:Bool) H w (_:Inv w0 ps0 H0 H [bx a 21 [(Value.int .i32 x0)]] w) (_:C5 b3q x0 H K),b5U (vB b3q) w R E:=by
          intro b3q H w I h
          unfold b5U
          intro _
          unfold C5 at h
          refine m7 h (fun _ h=>?_) (fun _ h=>?_)
          ·exact hR _ H _ _ I.drop ⟨3,rfl,rfl,h⟩
          ·exact hR _ H _ _ I.drop ⟨6,rfl,rfl,h⟩
         refine o5 fun j4 hx4=>?_
         refine c7 (l1 Tryz.isAgg21 c rfl) (c5 pEq ?_)
         refine d9 h (fun _ h=>?_) (fun _ h=>?_)
         ·exact hx4 _ _ (hj4 (decide (x0=95)) d _ c h)
         ·refine a4D (cap:=[(Value.pointer (some ⟨a,0,none⟩))]) Tryz.call138 (h a) c ?_
          rintro _ j _ aa e _ _ ⟨k,rfl,rfl,h⟩
          refine m7 h (fun _ h=>?_) (fun _ h=>?_)
          ·exact hx4 _ _ (hj4 k j _ e h)
          ·refine a4D (cap:=[(Value.pointer (some ⟨a,0,none⟩))]) Tryz.call138 (h a) e ?_
           rintro _ l _ ab f _ _ ⟨m,rfl,rfl,h⟩
           refine m7 h (fun _ h=>?_) (fun _ h=>?_)
           ·exact hx4 _ _ (hj4 m l _ f h)
           ·refine a4D (cap:=[(Value.pointer (some ⟨a,0,none⟩))]) Tryz.call138 (h a) f ?_
            rintro _ n _ ac g _ _ ⟨o,rfl,rfl,h⟩
            refine m7 h (fun _ h=>?_) (fun _ h=>?_)
            ·exact hx4 _ _ (hj4 o n _ g h)
            ·refine a4D (cap:=[(Value.pointer (some ⟨a,0,none⟩))]) Tryz.call138 (h a) g ?_
             rintro _ p _ ad i _ _ ⟨q,rfl,rfl,h⟩
             refine m7 h (fun _ h=>?_) (fun _ h=>?_)
             ·exact hx4 _ _ (hj4 q p _ i h)
             ·refine a4D (cap:=[(Value.pointer (some ⟨a,0,none⟩))]) Tryz.call138 (h a) i ?_
              rintro _ r _ ae s _ _ ⟨t,rfl,rfl,h⟩
              exact hx4 _ _ (hj4 t r _ s h)
      refine o5 fun j3 hx3=>?_
      refine c5 pEq ?_
      refine d9 h (fun _ h=>?_) (fun _ h=>?_)
      ·exact hx3 _ _ (hj3 (decide (x0=215)) H _ I h)
      ·refine c5 pEq ?_
       refine d9 h (fun _ h=>?_) (fun _ h=>?_)
       ·exact hx3 _ _ (hj3 (decide (x0=247)) H _ I h)
       ·refine c5 pEq ?_
        exact hx3 _ _ (hj3 (decide (x0=930)) H _ I h)
    refine o5 fun j2 hx2=>?_
    refine c5 pEq ?_
    refine d9 h (fun _ h=>?_) (fun _ h=>?_)
    ·exact hx2 _ _ (hj2 (decide (x0=59)) H _ I h)
    ·refine c5 pEq ?_
     refine d9 h (fun _ h=>?_) (fun _ h=>?_)
     ·exact hx2 _ _ (hj2 (decide (x0=44)) H _ I h)
     ·refine c5 pEq ?_
      refine d9 h (fun _ h=>?_) (fun _ h=>?_)
      ·exact hx2 _ _ (hj2 (decide (x0=123)) H _ I h)
      ·refine c5 pEq ?_
       refine d9 h (fun _ h=>?_) (fun _ h=>?_)
       ·exact hx2 _ _ (hj2 (decide (x0=125)) H _ I h)
       ·refine c5 pEq ?_
        refine d9 h (fun _ h=>?_) (fun _ h=>?_)
        ·exact hx2 _ _ (hj2 (decide (x0=40)) H _ I h)
        ·refine c5 pEq ?_
         refine d9 h (fun _ h=>?_) (fun _ h=>?_)
         ·exact hx2 _ _ (hj2 (decide (x0=41)) H _ I h)
         ·refine c5 pEq ?_
          refine d9 h (fun _ h=>?_) (fun _ h=>?_)
          ·exact hx2 _ _ (hj2 (decide (x0=91)) H _ I h)
          ·refine c5 pEq ?_
           refine d9 h (fun _ h=>?_) (fun _ h=>?_)
           ·exact hx2 _ _ (hj2 (decide (x0=93)) H _ I h)
           ·refine c5 pEq ?_
            refine d9 h (fun _ h=>?_) (fun _ h=>?_)
            ·exact hx2 _ _ (hj2 (decide (x0=61)) H _ I h)
            ·refine c5 pEq ?_
             refine d9 h (fun _ h=>?_) (fun _ h=>?_)
             ·exact hx2 _ _ (hj2 (decide (x0=33)) H _ I h)
             ·refine c5 pEq ?_
              refine d9 h (fun _ h=>?_) (fun _ h=>?_)
              ·exact hx2 _ _ (hj2 (decide (x0=60)) H _ I h)
              ·refine c5 pEq ?_
               refine d9 h (fun _ h=>?_) (fun _ h=>?_)
               ·exact hx2 _ _ (hj2 (decide (x0=62)) H _ I h)
               ·refine c5 pEq ?_
                refine d9 h (fun _ h=>?_) (fun _ h=>?_)
                ·exact hx2 _ _ (hj2 (decide (x0=43)) H _ I h)
                ·refine c5 pEq ?_
                 refine d9 h (fun _ h=>?_) (fun _ h=>?_)
                 ·exact hx2 _ _ (hj2 (decide (x0=45)) H _ I h)
                 ·refine c5 pEq ?_
                  refine d9 h (fun _ h=>?_) (fun _ h=>?_)
                  ·exact hx2 _ _ (hj2 (decide (x0=42)) H _ I h)
                  ·refine c5 pEq ?_
                   refine d9 h (fun _ h=>?_) (fun _ h=>?_)
                   ·exact hx2 _ _ (hj2 (decide (x0=47)) H _ I h)
                   ·refine c5 pEq ?_
                    refine d9 h (fun _ h=>?_) (fun _ h=>?_)
                    ·exact hx2 _ _ (hj2 (decide (x0=37)) H _ I h)
                    ·refine c5 pEq ?_
                     refine d9 h (fun _ h=>?_) (fun _ h=>?_)
                     ·exact hx2 _ _ (hj2 (decide (x0=38)) H _ I h)
                     ·refine c5 pEq ?_
                      exact hx2 _ _ (hj2 (decide (x0=124)) H _ I h)
 refine o5 fun j1 hx1=>?_
 refine c5 pEq ?_
 refine d9 h (fun _ h=>?_) (fun _ h=>?_)
 ·exact hx1 _ _ (hj1 (decide (x0=32)) H _ b h)
 ·refine c5 pEq ?_
  refine d9 h (fun _ h=>?_) (fun _ h=>?_)
  ·exact hx1 _ _ (hj1 (decide (x0=9)) H _ b h)
  ·refine c5 pEq ?_
   exact hx1 _ _ (hj1 (decide (x0=13)) H _ b h)
def C6(W5:Int)(J2:Int)(N8:Int)(a9w:Bool)(a9x:Bool)(a7K:(List ByteArray))(H:Hp)(K:Bool→m1→(List ByteArray)→Hp→Prop):Prop:=
 K true (m1.mk W5 J2 N8 a9w a9x (Sl.mk none 0 0)) a7K H
def a2e(x0:m1)(a:(List ByteArray))(x1:d7)(x2:Int)(H:Hp)(K:Bool→m1→(List ByteArray)→Hp→Prop):Prop:=
 (4096 < (IntKind.wrap .i64 (x0.fnodes+1))→
 K false (m1.mk (IntKind.wrap .i64 (x0.fnodes+1)) x0.fdepth 33 x0.fform x0.fnamed (Sl.mk none 0 0)) a H)∧
 (¬(4096 < (IntKind.wrap .i64 (x0.fnodes+1)))→
 (64 < x2→
 K false (m1.mk (IntKind.wrap .i64 (x0.fnodes+1)) x0.fdepth 32 x0.fform x0.fnamed (Sl.mk none 0 0)) a H)∧
 (¬(64 < x2)→
 TG (x0.fform=false) (a4Y x1 H) false H (fun(c:Bool)(j:Hp)=>
 a1k x1 j (fun b e d=>
 (e=true→
 TG (x0.fnamed=false) (a4r b d) false d (fun(f:Bool)(k:Hp)=>
 P5 a b k (fun g i=>
 ((!g)=true→
 (a.length+([b]:List ByteArray).length)*17≤140737488355328∧
 C6 (IntKind.wrap .i64 (x0.fnodes+1)) (if x2 > x0.fdepth then x2 else x0.fdepth) x0.fe (x0.fform||(!c)) (x0.fnamed||(!f)) (a++[b]) i K)∧
 ((!g)=false→
 C6 (IntKind.wrap .i64 (x0.fnodes+1)) (if x2 > x0.fdepth then x2 else x0.fdepth) x0.fe (x0.fform||(!c)) (x0.fnamed||(!f)) a i K))))∧
 (e=false→
 C6 (IntKind.wrap .i64 (x0.fnodes+1)) (if x2 > x0.fdepth then x2 else x0.fdepth) x0.fe (x0.fform||(!c)) x0.fnamed a d K)))))
theorem a8Q(x0 b x1 x2){H K}(h:a2e x0 b x1 x2 H K):a1X x0 b x1 x2 H K:=by
 intro g0 k l m
 refine Ct.of fun w0 w ps0 H0 R E I hR=>c5Q ?_
 unfold a2e at h
 unfold c8B
 refine c5 (r8 _) (c5 b0K (c7 (l1 Tryz.isAgg3 I rfl) (c5 pAd (c5 (r8 _) ?_))))
 refine c5 b0K ?_
 refine L3 I Tryz.sizeOf3 fun ba p bb=>?_
 refine c5 (r8 _) (c5 b0K (c7 (l1 Tryz.isAgg3 p rfl) (c5 pGt ?_)))
 refine d9 h (fun _ h=>?_) (fun _ h=>?_)
 ·refine c5 (r8 _) (c5 a6P ?_)
  refine L3 p Tryz.sizeOf31 fun bc an bd=>?_
  exact hR _ H _ _ ((an.bring 1).bring 1) ⟨false,(m1.mk (IntKind.wrap .i64 (x0.fnodes+1)) x0.fdepth 33 x0.fform x0.fnamed (Sl.mk none 0 0)),b,k,l,rfl,rfl,m,h⟩
 ·refine c5 pGt ?_
  refine d9 h (fun _ h=>?_) (fun _ h=>?_)
  ·refine c5 (r8 _) (c5 a6P ?_)
   refine L3 p Tryz.sizeOf31 fun be ao bf=>?_
   exact hR _ H _ _ ((ao.bring 1).bring 1) ⟨false,(m1.mk (IntKind.wrap .i64 (x0.fnodes+1)) x0.fdepth 32 x0.fform x0.fnamed (Sl.mk none 0 0)),b,k,l,rfl,rfl,m,h⟩
  ·refine c5 (r8 _) (c5 b4b (c7 (l1 Tryz.isAgg3 p rfl) (c5 (c1F _ _ _ _ _) (c5 (r8 _) ?_))))
   refine c5 b4b ?_
   refine L3 p Tryz.sizeOf3 fun ae z bg=>?_
   refine c5 (r8 _) (c5 b0L (c7 (l1 Tryz.isAgg4 z rfl) ?_))
   simp only [D4]
   refine b4I (D:=fun af t=>∃(d:Bool)(n:Hp),af=(gv x0.fform false (vB d))∧(Inv w0 ps0 H0 n [bx g0 169 [(vi (IntKind.wrap .i64 (x0.fnodes+1))),(vi (if x2 > x0.fdepth then x2 else x0.fdepth)),(vi x0.fe),(vB x0.fform),(vB x0.fnamed),(vs k)],l] t)∧(∀i,i < ae.heap.size→¬inF [] i→t.heap[i]? = ae.heap[i]?)∧Hle H n∧(a1k x1 n (fun(j:ByteArray)(u:Bool)(q:Hp)=>
 (u=true→
 TG (x0.fnamed=false) (a4r j q) false q (fun(f:Bool)(v:Hp)=>
 P5 b j v (fun(aa:Bool)(r:Hp)=>
 ((!aa)=true→
 (b.length+([j]:List ByteArray).length)*17≤140737488355328∧
 C6 (IntKind.wrap .i64 (x0.fnodes+1)) (if x2 > x0.fdepth then x2 else x0.fdepth) x0.fe (x0.fform||(!d)) (x0.fnamed||(!f)) (b++[j]) r K)∧
 ((!aa)=false→
 C6 (IntKind.wrap .i64 (x0.fnodes+1)) (if x2 > x0.fdepth then x2 else x0.fdepth) x0.fe (x0.fform||(!d)) (x0.fnamed||(!f)) b r K))))∧
 (u=false→
 C6 (IntKind.wrap .i64 (x0.fnodes+1)) (if x2 > x0.fdepth then x2 else x0.fdepth) x0.fe (x0.fform||(!d)) x0.fnamed b q K)))) (fun o=>?_) (fun o=>?_) ?_
   ·replace h:=h.1 o
    have a:=o
    simp only [f6 a]
    refine b1d z h (fun d n t ab ag ah h=>?_)
    exact ⟨d,n,by rfl,ab,ah,ag,h⟩
   ·exact ⟨false,H,by rw [b5y o],z,fun _ _ _=>rfl,Hle.refl _,h.2 o⟩
   ·clear h
    rintro af t ⟨d,n,rfl,ab,ah,ag,h⟩
    refine c5 (Pu.g fun a=>by simp only [f6 a];with_reducible exact (J7 _)) ?_
    refine c5 (B8 _ _) (c5 (r8 _) (c5 b0L ?_))
    refine L3 ab Tryz.sizeOf4 fun bh ap bi=>?_
    have hj1:∀(W5:Int)(J2:Int)(N8:Int)(a9w:Bool)(a9x:Bool)(a7K:(List ByteArray))(b1J:Sl)(b1K:Frag) H w (_:RowL 9 1 y9 b1J a7K b1K) (_:Inv w0 ps0 H0 H [bx g0 169 [(vi W5),(vi J2),(vi N8),(vB a9w),(vB a9x),(vs b1J)],b1K] w) (_:C6 W5 J2 N8 a9w a9x a7K H K),b5Q w R E:=by
     intro W5 J2 N8 a9w a9x a7K b1J b1K H w c3E I h
     unfold b5Q
     intro _
     unfold C6 at h
     exact hR _ H _ _ ((I.bring 1).bring 1) ⟨true,(m1.mk W5 J2 N8 a9w a9x (Sl.mk none 0 0)),a7K,b1J,b1K,rfl,rfl,c3E,h⟩
    refine o5 fun j1 hx1=>?_
    refine f9 Tryz.call127 h ap ?_
    rintro _ q _ bj y _ _ ⟨j,u,rfl,rfl,h⟩
    refine c5 (m5 _ _ (Value.string j) rfl) (c5 (m5 _ _ (vB u) rfl) ?_)
    refine m7 h (fun _ h=>?_) (fun _ h=>?_)
    ·refine c5 (r8 _) (c5 b0M (c7 (l1 Tryz.isAgg4 y rfl) ?_))
     simp only [D4]
     refine N0 [] (fun f:Bool=>(vB f)) h y (fun ai h=>?_) fun f v aq ac aj ak h=>?_
     ·have a:=ai
      simp only [f6 a]
      refine f9 Tryz.call128 h y ?_
      rintro _ v _ aq ac ak aj ⟨f,rfl,rfl,h⟩
      exact ⟨f,v,rfl,ac,aj,ak,h⟩
     refine c5 (Pu.g fun a=>by simp only [f6 a];with_reducible exact (J7 _)) ?_
     refine c5 (B8 _ _) (c5 (r8 _) (c5 b0M ?_))
     refine L3 ac Tryz.sizeOf4 fun bk al bl=>?_
     refine c5 (r8 _) (c5 b0N (c7 (l1 Tryz.isAgg27 al rfl) ?_))
     refine f9 Tryz.call129 (h k l m) (al.bring 1) ?_
     rintro _ r _ bm ad _ _ ⟨aa,rfl,rfl,h⟩
     refine c5 (J7 _) ?_
     refine m7 h (fun _ h=>?_) (fun _ h=>?_)
     ·refine c5 (r8 _) (c5 b0N (c7 (l1 Tryz.isAgg27 (ad.bring 1) rfl) ?_))
      refine X9 (e:=9) (c:=y9) (xs:=[j]) ad (b9V _) rfl rfl a5C a6O (nb rfl) fun bn bo bp ar am bq=>?_
      obtain ⟨au,h⟩:=h
      refine b7M (s:=k) (xs:=b) (am.bring 1) m (ar.srcO ((am.bring 1).bring 1)) au fun av aw br ax ay bs=>?_
      refine c5 (r8 _) (c5 b0N ?_)
      refine L3 ((ay.bring 1).drop.bring 1) Tryz.sizeOf27 fun bt az bu=>?_
      exact hx1 _ _ (hj1 (IntKind.wrap .i64 (x0.fnodes+1)) (if x2 > x0.fdepth then x2 else x0.fdepth) x0.fe (x0.fform||(!d)) (x0.fnamed||(!f)) (b++[j]) av aw r _ ax ((az.bring 1).bring 1) h)
     ·exact hx1 _ _ (hj1 (IntKind.wrap .i64 (x0.fnodes+1)) (if x2 > x0.fdepth then x2 else x0.fdepth) x0.fe (x0.fform||(!d)) (x0.fnamed||(!f)) b k l r _ m (ad.bring 1) h)
    ·exact hx1 _ _ (hj1 (IntKind.wrap .i64 (x0.fnodes+1)) (if x2 > x0.fdepth then x2 else x0.fdepth) x0.fe (x0.fform||(!d)) x0.fnamed b k l q _ m ((y.bring 1).bring 1) h)
def W8(a6X:Int)(a6G:ByteArray)(a:(List f8))(b:A8)(H:Hp)(K:ByteArray→Int→Hp→Prop):Prop:=
 K a6G a6X H
def a4n(D3:(Option Nat))(b4S:(List f8))(b4T:Int)(c:A8)(a9M:Int)(a3v:ByteArray)(T2:Int)(H:Hp)(n2:(Int×ByteArray×Int)→Hp→Prop)(K:ByteArray→Int→Hp→Prop):Prop:=
 (T2 < b4T→
 (0:Int)≤T2∧∃a:f8,(b4S)[(T2:Int).toNat]? = some a∧
 ∃b:List (ByteArray×Int),MapH H (fun s:ByteArray=>Value.string s) (fun n:Int=>Value.int .i64 n) D3 b∧
 (((lk a.fname b).getD 0)=a.fas→
 n2 (a9M,a3v,(IntKind.wrap .i64 (T2+1))) H)∧
 (¬(((lk a.fname b).getD 0)=a.fas)→
 (((lk a.fname b).getD 0)=0→
 W8 63 a.fname b4S c H K)∧
 (¬(((lk a.fname b).getD 0)=0)→
 W8 64 a.fname b4S c H K)))∧
 (¬(T2 < b4T)→
 W8 a9M a3v b4S c H K)
def a5I(x0:A8)(H:Hp)(K:ByteArray→Int→Hp→Prop):Prop:=
 a5F x0 H (fun b c=>
 (¬(b=0)→
 K ⟨#[]⟩ b c)∧
 (b=0→
 a6Q x0.a9G c (fun f g a d=>
 (¬(a=0)→
 K g a d)∧
 (a=0→
 P4 (i8.mk (Sl.mk none 0 0)) [] x0.a9a d (fun j e i=>
 TL ((a,⟨#[]⟩,0):Int×ByteArray×Int) i fun(s:Int×ByteArray×Int) H n2=>a4n f e (e.length:Int) x0 s.1 s.2.1 s.2.2 H n2 K)))))
theorem b2x(x0){H K}(h:a5I x0 H K):a7H x0 H K:=by
 refine Ct.of fun w0 w ps0 H0 R E I hR=>c7V ?_
 unfold a5I at h
 unfold F61
 refine z6 I (cs:=(v8 x0)) rfl fun j ad k ae=>?_
 refine c7 (lW Tryz.isAgg25 Tryz.sizeOf25 rfl k) ?_
 refine f9 Tryz.call92 h k ?_
 rintro _ u _ af d _ _ ⟨v,rfl,rfl,h⟩
 refine c5 pNe ?_
 refine V5 h (fun _ h=>?_) (fun _ h=>?_)
 ·exact hR _ u _ _ d.drop ⟨⟨#[]⟩,v,rfl,rfl,h⟩
 ·refine c5 b1C (c7 (l1 Tryz.isAgg22 d rfl) ?_)
  refine f9 Tryz.call93 h d ?_
  rintro _ y _ ag l _ _ ⟨ah,m,n,rfl,rfl,h⟩
  refine c5 (m5 _ _ _ rfl) (c5 (m5 _ _ (Value.string m) rfl) (c5 (m5 _ _ (vi n) rfl) (c5 pNe ?_)))
  refine V5 h (fun _ h=>?_) (fun _ h=>?_)
  ·exact hR _ y _ _ l.drop ⟨m,n,rfl,rfl,h⟩
  ·refine c5 (c0E) ?_
   refine z6 l (cs:=[(nS)]) rfl fun f ai o aj=>?_
   refine c5 a9b (c7 (l1 Tryz.isAgg23 (o.bring 1) rfl) ?_)
   refine f9 Tryz.call94 (h f (Sl.mk none 0 0) ([]) (RowL.nil (e:=158) a5u a5v)) (o.nil.bring 1) ?_
   rintro _ _ _ ak p _ _ ⟨al,aa,q,r,rfl,rfl,c,h⟩
   have hj1:∀(a6X:Int)(a6G:ByteArray) H w (_:Inv w0 ps0 H0 H [bx f 155 [(vs q)],bx j 25 (v8 x0),r] w) (_:W8 a6X a6G aa x0 H K),b8I (vi a6X) (Value.string a6G) w R E:=by
    intro a6X a6G H w I h
    unfold b8I
    intro _
    unfold W8 at h
    exact hR _ H _ _ I.drop.drop.drop ⟨a6G,a6X,rfl,rfl,h⟩
   refine o5 fun j1 hx1=>?_
   refine c5 (r8 _) (c5 a0T (c7 (l1 Tryz.isAgg153 p rfl) (c5 (a6l Tryz.underlying153 c) ?_)))
   refine a0g (σ:=Int×ByteArray×Int) (fun (a9M,a3v,T2)=>[(vi a9M),(Value.string a3v),(vi T2)]) (fun (a9M,a3v,T2)=>[bx f 155 [(vs q)],bx j 25 (v8 x0),r]) h rfl (((p.bring 1).bring 2).bring 2) ?_
   rintro ⟨a9M,a3v,T2⟩ H am w next2 n2 g I h hn2
   dsimp only at g I h
   simp only [List.map_cons,List.map_nil,List.cons.injEq,and_true] at g
   obtain ⟨e7,e9,e39⟩:=g
   simp only [e7,e9,e39]
   unfold c2w
   unfold a4n at h
   refine c5 pLs ?_
   refine d9 h (fun _ h=>?_) (fun _ h=>?_)
   ·obtain ⟨s,b,i,h⟩:=h
    obtain ⟨an,ao,t,ap⟩:=c.addr i
    refine c5 (c1U t _ _ _ _ s (c.lt s i)) (c7 (ldA (vs:=(z8 b)) Tryz.isAgg158 Tryz.sizeOf158 rfl (c.atW (I.bring 2) t i)) ?_)
    refine r5 I Tryz.zeroValue158 (cs:=[(eS),(vi 0)]) rfl fun aq ar ab au=>?_
    refine u1 ab Tryz.sizeOf158 (vs:=(z8 b)) fun av a aw=>?_
    refine c5 b0J (c7 (l1 Tryz.isAgg9 a rfl) ?_)
    obtain ⟨ax,ac,h⟩:=h
    refine c3u (keyS Tryz.underlying9) Tryz.underlying66 (z:=0) Tryz.zeroValue3 a ac b.fname ?_
    refine c5 b9E (c7 (l1 Tryz.isAgg3 a rfl) (c5 pEq ?_))
    refine d9 h (fun _ h=>?_) (fun _ h=>?_)
    ·refine c5 pAd ?_
     exact hn2 (a9M,a3v,(IntKind.wrap .i64 (T2+1))) _ _ h (((a.drop.bring 2).bring 2).bring 2)
    ·refine c5 pEq ?_
     refine d9 h (fun _ h=>?_) (fun _ h=>?_)
     ·refine c5 b0J (c7 (l1 Tryz.isAgg9 a rfl) ?_)
      exact hx1 _ _ (hj1 63 b.fname H _ (((a.drop.bring 2).bring 2).bring 2) h)
     ·refine c5 b0J (c7 (l1 Tryz.isAgg9 a rfl) ?_)
      exact hx1 _ _ (hj1 64 b.fname H _ (((a.drop.bring 2).bring 2).bring 2) h)
   ·exact hx1 _ _ (hj1 a9M a3v H _ (((I.bring 2).bring 2).bring 2) h)
def a3w(x0:T0)(H:Hp)(K:Sl→Hp→Prop):Prop:=
 K (Sl.mk none 0 0) H
theorem a9N(x0){H K}(h:a3w x0 H K):a5V x0 H K:=by
 refine Ct.of fun w0 w ps0 H0 R E I hR=>c6d ?_
 unfold a3w at h
 unfold c8O
 refine z6 I (cs:=(i5 x0.Z4)) rfl fun b c a d=>?_
 exact hR _ H _ _ a.drop ⟨(Sl.mk none 0 0),rfl,rfl,h⟩
def a5b(x0:q8)(H:Hp)(K:d7→Hp→Prop):Prop:=
 K (d7.D6 (K1.mk x0)) H
theorem b1L(x0){H K}(h:a5b x0 H K):a7u x0 H K:=by
 refine Ct.of fun w0 w ps0 H0 R E I hR=>c6j ?_
 unfold a5b at h
 unfold c8U
 refine z6 I (cs:=(m6 x0)) rfl fun b c a d=>?_
 refine c7 (lW Tryz.isAgg123 Tryz.sizeOf123 rfl a) (c5 (b7T _ _ _ _ _ _) (c5 (b1b (K1.mk x0)) ?_))
 exact hR _ H _ _ a.drop ⟨(d7.D6 (K1.mk x0)),rfl,rfl,h⟩
def a3x(x0:O9)(H:Hp)(K:Sl→Hp→Prop):Prop:=
 C2 x0.g9.z7 H (fun d e=>
 y6 x0.g9.m8 e (fun f g=>
 y5 x0.g9.O7 g (fun i j=>
 y5 x0.g9.O8 j (fun k l=>
 ∀(a:Sl)(b:Hp),Hle l b→SlH b 1 csl a [d,f,i,k]→a.n≤a.c→
 B7 a b (fun m o=>
 K m o)))))
theorem a9O(x0){H K}(h:a3x x0 H K):a5W x0 H K:=by
 refine Ct.of fun w0 w ps0 H0 R E I hR=>c6f ?_
 unfold a3x at h
 unfold c8Q
 refine z6 I (cs:=(u4 x0.g9)) rfl fun ad ae i af=>?_
 refine I0 i fun ag a=>?_
 refine d5 L2 ?_
 refine d5 a4U ?_
 refine d5 L2 ?_
 refine d5 a7n ?_
 refine d5 L2 ?_
 refine d5 a4T ?_
 refine d5 L2 ?_
 refine d5 a6p ?_
 refine j9 (l1 Tryz.isAgg58 a rfl) ?_
 refine j9 (l1 Tryz.isAgg57 a rfl) ?_
 refine j9 (l1 Tryz.isAgg23 a rfl) ?_
 refine j9 (l1 Tryz.isAgg23 a rfl) ?_
 refine f9 Tryz.call159 h a ?_
 rintro _ ah _ ai b _ d ⟨j,rfl,rfl,h⟩
 refine ⟨(d _ a.lt1 (Inv.N4 (Fi:=[]) a)),(d _ a.lt1 (Inv.N4 (Fi:=[]) a)),(d _ a.lt1 (Inv.N4 (Fi:=[]) a)),?_⟩
 refine f9 Tryz.call161 h b ?_
 rintro _ aj _ ak f _ g ⟨k,rfl,rfl,h⟩
 refine ⟨(g _ b.lt1 (Inv.N4 (Fi:=[]) b)),(g _ b.lt1 (Inv.N4 (Fi:=[]) b)),?_⟩
 refine f9 Tryz.call121 h f ?_
 rintro _ _ _ al l _ m ⟨n,rfl,rfl,h⟩
 refine ⟨(m _ f.lt1 (Inv.N4 (Fi:=[]) f)),?_⟩
 refine f9 Tryz.call121 h l ?_
 rintro _ _ _ am o _ _ ⟨p,rfl,rfl,h⟩
 refine X9 (e:=179) (c:=csl) (xs:=[j,k,n,p]) o (c3z _ _ _ _ _ _ _ _ _ _ _ _) rfl rfl b3i b3j (nb rfl) fun q an ao r s ap=>?_
 obtain ⟨t,u,v,y,z⟩:=Inv.freezeC s r (by decide)
 replace h:=h q t v y z
 refine f9 Tryz.call118 h u ?_
 rintro _ aa _ aq ab _ _ ⟨ac,rfl,rfl,h⟩
 exact hR _ aa _ _ ab.drop ⟨ac,rfl,rfl,h⟩
def a3y(x0:P0)(H:Hp)(K:Sl→Hp→Prop):Prop:=
 y6 x0.q9.m8 H (fun d e=>
 C2 x0.q9.A5 e (fun f g=>
 ∀(a:Sl)(b:Hp),Hle g b→SlH b 1 csl a [d,f]→a.n≤a.c→
 B7 a b (fun i j=>
 K i j)))
theorem a9P(x0){H K}(h:a3y x0 H K):a5Y x0 H K:=by
 refine Ct.of fun w0 w ps0 H0 R E I hR=>c6n ?_
 unfold a3y at h
 unfold c8Y
 refine z6 I (cs:=(o8 x0.q9)) rfl fun v y b z=>?_
 refine I0 b fun aa a=>?_
 refine d5 a0U ?_
 refine d5 a8h ?_
 refine d5 a0U ?_
 refine d5 a3d ?_
 refine j9 (l1 Tryz.isAgg57 a rfl) ?_
 refine j9 (l1 Tryz.isAgg58 a rfl) ?_
 refine f9 Tryz.call161 h a ?_
 rintro _ _ _ ab d _ f ⟨g,rfl,rfl,h⟩
 refine ⟨(f _ a.lt1 (Inv.N4 (Fi:=[]) a)),?_⟩
 refine f9 Tryz.call159 h d ?_
 rintro _ _ _ ac i _ _ ⟨j,rfl,rfl,h⟩
 refine X9 (e:=179) (c:=csl) (xs:=[g,j]) i (b7P _ _ _ _ _ _) rfl rfl b3i b3j (nb rfl) fun k ad ae l m af=>?_
 obtain ⟨n,o,p,q,r⟩:=Inv.freezeC m l (by decide)
 replace h:=h k n p q r
 refine f9 Tryz.call118 h o ?_
 rintro _ s _ ag t _ _ ⟨u,rfl,rfl,h⟩
 exact hR _ s _ _ t.drop ⟨u,rfl,rfl,h⟩
end Go.Proofs.YtaokfhdinhimfaaGreatDoor
