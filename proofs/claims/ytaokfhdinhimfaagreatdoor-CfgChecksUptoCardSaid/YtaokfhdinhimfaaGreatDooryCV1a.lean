/- Typed formulas of the program's functions, and the theorems that the contracts follow from them; printed by lift.py off the code. -/
import Derived.Test.YtaokfhdinhimfaaGreatDooryCV1
namespace Go.Proofs.YtaokfhdinhimfaaGreatDoor
open Go.RowKit
set_option maxRecDepth 100000
set_option maxHeartbeats 2000000
def a0j(j:f7)(k:(List (List Int)))(l:(List Bool))(m:(List Int))(r:f7)(H:Hp)(K:r5→Hp→Prop):Prop:=
 ∀(a:Sl)(e:Hp),Hle H e→SlHH e 1 r9 a k→a.n≤a.c→
 X8 (r5.mk j a (Sl.mk none 0 0) (Sl.mk none 0 0)) l m 0 e (fun i o p q=>
 ∀(b:Sl)(f:Hp),Hle q f→SlH f 1 L8 b o→b.n≤b.c→
 ∀(d:Sl)(g:Hp),Hle f g→SlH g 1 r9 d p→d.n≤d.c→
 K (r5.mk i.fc i.fout b d) g)
def a0k(f:(List Bool))(g:(List Int))(a:f7)(a5u:Int)(e:f7)(c:(List (List Int)))(H:Hp)(n3:(Int×f7×(List (List Int)))→Hp→Prop)(K:r5→Hp→Prop):Prop:=
 (a5u < (a.p5.n:Int)→
 (0:Int)≤a5u∧(a5u:Int) < a.p5.n∧∃b:d5,EltH H a.p5 a5u 10 (i5 b)∧
 (0:Int)≤b.s7∧∃d:List Int,(c)[(b.s7:Int).toNat]? = some d∧
 (d.length+([a5u]:List Int).length)*9≤140737488355328∧
 n3 ((IntKind.wrap .i64 (a5u+1)),e,(c.set (b.s7:Int).toNat (d++[a5u]))) H)∧
 (¬(a5u < (a.p5.n:Int))→
 a0j e c f g a H K)
def P5(a:f7)(b:(List (List Int)))(c:(List Bool))(d:(List Int))(e:f7)(H:Hp)(K:r5→Hp→Prop):Prop:=
 TL ((0,a,b):Int×f7×(List (List Int))) H fun(s:Int×f7×(List (List Int))) H n3=>a0k c d e s.1 s.2.1 s.2.2 H n3 K
def a4c(x0:f7)(H:Hp)(K:r5→Hp→Prop):Prop:=
 ((0:Int)≤x0.d3∧x0.d3*25≤140737488355328∧
 (0:Int)≤x0.d3∧x0.d3*2≤140737488355328∧
 P5 x0 (List.replicate (x0.d3:Int).toNat ([]:List Int)) (List.replicate (x0.d3:Int).toNat false) [] x0 H K)∧
 ((0:Int)≤x0.d3∧x0.d3*2≤140737488355328∧
 (0:Int)≤x0.d3∧x0.d3*25≤140737488355328∧
 P5 x0 (List.replicate (x0.d3:Int).toNat ([]:List Int)) (List.replicate (x0.d3:Int).toNat false) [] x0 H K)
theorem b0i(x0){H K}(h:a4c x0 H K):a0Z x0 H K:=by
 refine Ct.of fun w0 w ps0 H0 R E I hR=>c7R ?_
 unfold a4c at h
 unfold F43
 refine D6 I (cs:=(g8 x0)) rfl fun ah ei bu ej=>?_
 have hj1:∀(g:f7)(ai:(List (List Int)))(ac:(List Bool))(ad:(List Int))(m:Sl)(aj:Frag)(t:Sl)(ae:Frag)(u:Sl)(af:Frag)(o:Nat)(H:Hp)(w:World)(_:RowsL 44 3 1 r9 m ai aj)(_:RowL 4 1 L8 t ac ae)(_:RowL 3 1 r9 u ad af)(_:Inv w0 ps0 H0 H [bx o 96 [(vs g.t8),(vi g.o9),(vs g.o8),(vi g.d3),(vi g.v2),(vs g.p5),(vs m),(vs t),(vs u)],bx ah 30 (g8 x0),aj,ae,af] w)(_:P5 g ai ac ad x0 H K),b8S (Value.pointer (some ⟨ah,0,none⟩)) (Value.pointer (some ⟨o,0,none⟩)) w R E:=by
  intro g ai ac ad m aj t ae u af o H w bv bw bz I h
  unfold b8S
  intro _
  unfold P5 at h
  have hj2:∀(p:f7)(ao:(List (List Int)))(ap:(List Bool))(aq:(List Int))(ar:Frag)(ak:Frag)(al:Frag)(H:Hp)(w:World)(_:RowsL 44 3 1 r9 m ao ar)(_:RowL 4 1 L8 t ap ak)(_:RowL 3 1 r9 u aq al)(_:Inv w0 ps0 H0 H [bx o 96 [(vs p.t8),(vi p.o9),(vs p.o8),(vi p.d3),(vi p.v2),(vs p.p5),(vs m),(vs t),(vs u)],bx ah 30 (g8 x0),ar,ak,al] w)(_:a0j p ao ap aq x0 H K),b8R (Value.pointer (some ⟨o,0,none⟩)) w R E:=by
   intro p ao ap aq ar ak al H w ca cb cc I h
   unfold b8R
   intro _
   unfold a0j at h
   obtain ⟨cd,ce,cf,cg,ch⟩:=Inv.freezeLL (I.bring 2) ca (by decide)
   replace h:=h m cd cf cg ch
   refine j6 Tryz.call60 (h o t ak u al cb cc) (((ce.bring 3).bring 3).bring 2) ?_
   rintro _ _ _ ek ci _ _ ⟨bc,el,em,bd,en,be,eo,rfl,rfl,cj,ck,h⟩
   obtain ⟨cl,cm,cn,co,cp⟩:=Inv.freezeC (ci.bring 1) cj (by decide)
   replace h:=h bd cl cn co cp
   obtain ⟨bf,cq,cr,ct,cu⟩:=Inv.freezeC (cm.bring 1) ck (by decide)
   replace h:=h be bf cr ct cu
   exact hR _ bf _ _ (cq.bring 1).drop ⟨(r5.mk bc.fc bc.fout bd be),o,rfl,rfl,h⟩
  refine s8 fun j2 hx2=>?_
  obtain ⟨au,ag,cv,cw⟩:=h
  refine I0 (J:=fun n l w=>∃(s:Int×f7×(List (List Int)))(H:Hp)(am:Frag),n=ag s∧l=(match s with | (a5u,d,f)=>[(vi a5u)])∧(match s with | (a5u,d,f)=>RowsL 44 3 1 r9 m f am)∧(match s with | (a5u,d,f)=>Inv w0 ps0 H0 H [bx o 96 [(vs d.t8),(vi d.o9),(vs d.o8),(vi d.d3),(vi d.v2),(vs d.p5),(vs m),(vs t),(vs u)],bx ah 30 (g8 x0),ae,af,am] w)∧au s H) ⟨_,(0,g,ai),H,aj,rfl,rfl,bv,(((((I.bring 2).bring 4).bring 4).bring 4).bring 4),cv⟩ ?_
  rintro ep eq w next3 ⟨⟨a5u,d,f⟩,H,am,rfl,av,aw,I,cx⟩ hn3
  dsimp only at av I aw
  simp only [List.map_cons,List.map_nil,List.cons.injEq,and_true] at av
  have e4:=av
  simp only [e4]
  obtain ⟨n3,hm3,h⟩:∃n3:(Int×f7×(List (List Int)))→Hp→Prop,(∀s' H',n3 s' H'→au s' H'∧ag s' < ag (a5u,d,f))∧a0k ac ad x0 a5u d f H n3 K:=⟨_,fun _ _ h=>h,cw (a5u,d,f) H (fun s' H'=>au s' H'∧ag s' < ag (a5u,d,f)) cx (fun _ _ a b=>⟨a,b⟩)⟩
  unfold c2F
  unfold a0k at h
  refine c7 o5 (d4 (l1 Tryz.isAgg28 (I.bring 1) rfl) (c7 (B6 _ _ _) (c7 pLs ?_)))
  refine g9 h (fun _ h=>?_) (fun _ h=>?_)
  ·refine N5 I fun er y=>?_
   refine f8 (y6 _) ?_
   refine f8 a9E ?_
   refine f8 o5 ?_
   refine f8 (y6 _) ?_
   refine f8 a9E ?_
   refine f8 o5 ?_
   refine o3 (l1 Tryz.isAgg83 y rfl) ?_
   refine o3 (l1 Tryz.isAgg28 (y.bring 1) rfl) ?_
   obtain ⟨bg,bh,ax,q,h⟩:=h
   obtain ⟨es,et,bi,q⟩:=q
   refine f8 (M9 bi _ _ _ _ bg bh) ?_
   refine f8 A7 ?_
   refine o3 (ld1 (v:=(vi ax.s7)) Tryz.isAgg3 ((y.atH q).sub (k:=0) (n:=1) (nb rfl))) ?_
   refine o3 (l1 Tryz.isAgg83 y rfl) ?_
   refine o3 (l1 Tryz.isAgg28 (y.bring 1) rfl) ?_
   refine f8 (M9 bi _ _ _ _ bg bh) ?_
   refine f8 A7 ?_
   refine o3 (ld1 (v:=(vi ax.s7)) Tryz.isAgg3 ((y.atH q).sub (k:=0) (n:=1) (nb rfl))) ?_
   obtain ⟨an,bj,cy,h⟩:=h
   obtain ⟨eu,bk,ev,ew,cz,z,ab,da,db,ex,i⟩:=RowsL.open_ aw (y.bring 4) cy
   obtain ⟨ey,ez,ay,fa⟩:=z.addr ab
   refine f8 (a2L ay _ _ _ _ an (z.lt an ab)) ?_
   refine o3 (ld1 (v:=(vs bk)) Tryz.isAgg44 (z.atW i ay ab)) ?_
   refine a0x (e:=3) (c:=r9) (xs:=[a5u]) i (a2p _) rfl rfl N0 N1 (nb rfl) fun fb fd fe dc r aa=>?_
   refine ⟨(aa _ (RowL.b5d z i ay)),(aa _ (i.a3f q)),(aa _ (i.bring 4).lt1),(aa _ (i.bring 3).lt1),(aa _ (i.a3f q)),(aa _ (i.bring 4).lt1),(aa _ (i.bring 3).lt1),?_⟩
   obtain ⟨dd,h⟩:=h
   refine a5s (s:=bk) (xs:=bj) (r.bring 2) da (dc.srcO ((r.bring 2).bring 1)) dd fun de df ff dg dh az=>?_
   refine ⟨(az _ (r.a3f q) (Inv.c3B (r.bring 2) q)),(az _ ((r.bring 2).bring 5).lt1 (Inv.b0f (((r.bring 2).bring 5).bring 1))),(az _ ((r.bring 2).bring 4).lt1 (Inv.b0f (((r.bring 2).bring 4).bring 1))),?_⟩
   obtain ⟨fg,fh,bl,fi⟩:=z.addr ab
   refine f8 (a2L bl _ _ _ _ an (z.lt an ab)) ?_
   refine a2o (x:=de) ((dh.bring 1).drop.bring 1) z bl (List.getElem?_eq_some_iff.1 ab).1 Tryz.sizeOf44 rfl fun di fj dj dk fk=>?_
   refine c7 pAd ?_
   exact hn3 _ _ _ (hm3 _ _ h).2 ⟨((IntKind.wrap .i64 (a5u+1)),d,(f.set (ax.s7:Int).toNat (bj++[a5u]))),H,(di++(df++cz)),rfl,rfl,(RowsL.b5c dj dg db),(((((((dk.bring 2).bring 2).bring 2).b7p.bring 4).bring 4).bring 4).bring 4),(hm3 _ _ h).1⟩
  ·exact hx2 _ _ (hj2 d f ac ad am ae af H _ aw bw bz (((((I.bring 3).bring 3).bring 4).bring 4).bring 4) h)
 refine s8 fun j1 hx1=>?_
 refine N5 bu fun fl j=>?_
 refine f8 j9 ?_
 refine f8 j9 ?_
 refine o3 (lW Tryz.isAgg30 Tryz.sizeOf30 rfl j) ?_
 refine o3 (l1 Tryz.isAgg3 j rfl) ?_
 refine o3 (l1 Tryz.isAgg3 j rfl) ?_
 refine ⟨?_,?_⟩
 ·replace h:=h.1
  obtain ⟨dl,dm,h⟩:=h
  refine b5h j dl dm fun bm dn fm dp ba bn=>?_
  refine ⟨(bn _ j.lt1),(bn _ j.lt1),?_⟩
  obtain ⟨dq,dr,h⟩:=h
  refine b1u ba dq dr fun bo ds fn dt du bp=>?_
  refine ⟨(bp _ (ba.bring 1).lt1),(bp _ (ba.bring 1).lt1),?_⟩
  refine f8 (b0X _ _ _ _ _ _ _ _ _ _ _ _ _ _ _ _ _ _) ?_
  refine D6 du (cs:=[(vs x0.t8),(vi x0.o9),(vs x0.o8),(vi x0.d3),(vi x0.v2),(vs x0.p5),(vs bm),(vs bo),(nS)]) rfl fun dv fo dw fp=>?_
  exact hx1 _ _ (hj1 x0 (List.replicate (x0.d3:Int).toNat ([]:List Int)) (List.replicate (x0.d3:Int).toNat false) [] bm dn bo ds (Sl.mk none 0 0) [] dv H _ (RowsL.made (e:=3) N0 N1 dp) dt (RowL.nil N0 N1) ((((dw.nil.bring 2).bring 3).bring 4).bring 4) h)
 ·replace h:=h.2
  obtain ⟨dx,dy,h⟩:=h
  refine b1u j dx dy fun bq dz fq ea bb br=>?_
  refine ⟨(br _ j.lt1),(br _ j.lt1),?_⟩
  obtain ⟨eb,ec,h⟩:=h
  refine b5h bb eb ec fun bs ed fs ee ef bt=>?_
  refine ⟨(bt _ (bb.bring 1).lt1),(bt _ (bb.bring 1).lt1),?_⟩
  refine f8 (b0X _ _ _ _ _ _ _ _ _ _ _ _ _ _ _ _ _ _) ?_
  refine D6 ef (cs:=[(vs x0.t8),(vi x0.o9),(vs x0.o8),(vi x0.d3),(vi x0.v2),(vs x0.p5),(vs bs),(vs bq),(nS)]) rfl fun eg ft eh fu=>?_
  exact hx1 _ _ (hj1 x0 (List.replicate (x0.d3:Int).toNat ([]:List Int)) (List.replicate (x0.d3:Int).toNat false) [] bs ed bq dz (Sl.mk none 0 0) [] eg H _ (RowsL.made (e:=3) N0 N1 ee) ea (RowL.nil N0 N1) ((((eh.nil.bring 3).bring 3).bring 4).bring 4) h)
def a1Z(H:Hp)(K:Bool→Hp→Prop):Prop:=
 K true H
def a2b(a6o:Sl)(a2d:Sl)(K3:Int)(H:Hp)(n2:Int→Hp→Prop)(K:Bool→Hp→Prop):Prop:=
 (K3 < (a6o.n:Int)→
 (0:Int)≤K3∧(K3:Int) < a6o.n∧∃a:Int,EltH H a6o K3 1 [(vi a)]∧
 (0:Int)≤K3∧(K3:Int) < a2d.n∧∃b:Int,EltH H a2d K3 1 [(vi b)]∧
 (¬(a=b)→
 K false H)∧
 (a=b→
 n2 (IntKind.wrap .i64 (K3+1)) H))∧
 (¬(K3 < (a6o.n:Int))→
 a1Z H K)
def a4d(x0:Sl)(x1:Sl)(H:Hp)(K:Bool→Hp→Prop):Prop:=
 (¬((x0.n:Int)=(x1.n:Int))→
 K false H)∧
 ((x0.n:Int)=(x1.n:Int)→
 TL (0:Int) H fun(s:Int) H n2=>a2b x0 x1 s H n2 K)
theorem b0j(x0 x1){H K}(h:a4d x0 x1 H K):R8 x0 x1 H K:=by
 refine Ct.of fun w0 w ps0 H0 R E I hR=>c7w ?_
 unfold a4d at h
 unfold F16
 refine c7 (D3 _ _ _) (c7 (D3 _ _ _) (c7 pNe ?_))
 refine a0e h (fun _ h=>?_) (fun _ h=>?_)
 ·exact hR _ H _ _ I ⟨false,rfl,rfl,h⟩
 ·have hj1:∀H w (_:Inv w0 ps0 H0 H [] w) (_:a1Z H K),b8t w R E:=by
   intro H w I h
   unfold b8t
   intro _
   unfold a1Z at h
   exact hR _ H _ _ I ⟨true,rfl,rfl,h⟩
  refine s8 fun j1 hx1=>?_
  refine a0V (σ:=Int) (fun K3=>[(vi K3)]) (fun K3=>[]) h rfl I ?_
  rintro K3 H n w next2 n2 d I h hn2
  simp only [List.map_cons,List.map_nil,List.cons.injEq,and_true] at d
  have e5:=d
  simp only [e5]
  unfold c2p
  unfold a2b at h
  refine c7 (D3 _ _ _) (c7 pLs ?_)
  refine g9 h (fun _ h=>?_) (fun _ h=>?_)
  ·refine N5 I fun o a=>?_
   obtain ⟨e,f,g,b,h⟩:=h
   obtain ⟨p,q,i,b⟩:=b
   refine f8 (J4 i _ _ _ _ e f) ?_
   obtain ⟨j,k,l,c,h⟩:=h
   obtain ⟨r,s,m,c⟩:=c
   refine f8 (J4 m _ _ _ _ j k) ?_
   refine o3 (ld1 (v:=(vi g)) Tryz.isAgg3 (a.atH b)) ?_
   refine o3 (ld1 (v:=(vi l)) Tryz.isAgg3 (a.atH c)) ?_
   refine f8 pNe ?_
   refine a0e h (fun _ h=>?_) (fun _ h=>?_)
   ·exact hR _ H _ _ a ⟨false,rfl,rfl,h⟩
   ·refine c7 pAd ?_
    exact hn2 (IntKind.wrap .i64 (K3+1)) _ _ h a
  ·exact hx1 _ _ (hj1 H _ I h)
def a2e(x0:f7)(H:Hp)(K:Sl→Hp→Prop):Prop:=
 a0Z x0 H (fun a b=>
 K a.fbegun b)
theorem a8V(x0){H K}(h:a2e x0 H K):a1T x0 H K:=by
 refine Ct.of fun w0 w ps0 H0 R E I hR=>c7y ?_
 unfold a2e at h
 unfold F18
 refine D6 I (cs:=(g8 x0)) rfl fun e f a g=>?_
 refine d4 (lW Tryz.isAgg30 Tryz.sizeOf30 rfl a) ?_
 refine j6 Tryz.call43 h a ?_
 rintro _ c _ i b _ _ ⟨d,j,rfl,rfl,h⟩
 refine c7 (y6 _) (c7 a9C (d4 (l1 Tryz.isAgg47 b rfl) ?_))
 exact hR _ c _ _ b.drop.drop ⟨d.fbegun,rfl,rfl,h⟩
def a4e(x0:f7)(x1:Sl)(H:Hp)(K:Bool→Hp→Prop):Prop:=
 ((x1.n:Int)=0→
 K true H)∧
 (¬((x1.n:Int)=0)→
 (0:Int)≤0∧(0:Int) < x1.n∧∃c:Int,EltH H x1 0 1 [(vi c)]∧
 (0:Int)≤c∧(c:Int) < x0.p5.n∧∃a:d5,EltH H x0.p5 c 10 (i5 a)∧
 ((x1.n:Int)=1→
 K (!decide (a.f3=12)) H)∧
 (¬((x1.n:Int)=1)→
 (0:Int)≤1∧(1:Int) < x1.n∧∃d:Int,EltH H x1 1 1 [(vi d)]∧
 (0:Int)≤d∧(d:Int) < x0.p5.n∧∃b:d5,EltH H x0.p5 d 10 (i5 b)∧
 TG ((((((decide ((x1.n:Int)=2))&&(decide (a.f3=12)))&&(decide (b.f3=12)))&&(decide (a.fA.y8=b.fA.y8∧a.fA.u1=b.fA.u1)))&&(decide (a.fB.y8=b.fB.y8∧a.fB.u1=b.fB.u1)))=true) (a4z a.fOp H) 0 H (fun(e:Int)(f:Hp)=>
 K ((((((decide ((x1.n:Int)=2))&&(decide (a.f3=12)))&&(decide (b.f3=12)))&&(decide (a.fA.y8=b.fA.y8∧a.fA.u1=b.fA.u1)))&&(decide (a.fB.y8=b.fB.y8∧a.fB.u1=b.fB.u1)))&&(decide (b.fOp=e))) f)))
theorem b0k(x0 x1){H K}(h:a4e x0 x1 H K):a3W x0 x1 H K:=by
 refine Ct.of fun w0 w ps0 H0 R E I hR=>c7J ?_
 unfold a4e at h
 unfold F35
 refine D6 I (cs:=(g8 x0)) rfl fun ay az ab ba=>?_
 refine c7 (D3 _ _ _) (c7 pEq ?_)
 refine g9 h (fun _ h=>?_) (fun _ h=>?_)
 ·exact hR _ H _ _ ab.drop ⟨true,rfl,rfl,h⟩
 ·refine N5 ab fun bb e=>?_
  refine f8 o5 ?_
  obtain ⟨ae,af,ag,k,h⟩:=h
  obtain ⟨bc,bd,ah,k⟩:=k
  refine f8 (J4 ah _ _ _ _ ae af) ?_
  refine o3 (l1 Tryz.isAgg28 e rfl) ?_
  refine o3 (ld1 (v:=(vi ag)) Tryz.isAgg3 (e.atH k)) ?_
  obtain ⟨ai,aj,c,l,h⟩:=h
  obtain ⟨be,bf,ak,l⟩:=l
  refine f8 (M9 ak _ _ _ _ ai aj) ?_
  refine o3 (ldA (vs:=(i5 c)) Tryz.isAgg40 Tryz.sizeOf40 rfl (e.atH l)) ?_
  refine y3 e Tryz.zeroValue40 (cs:=[(vi 0),(vi 0),(vi 0),(vi 0),(vi 0),(vi 0),(vi 0),(vi 0),(vi 0),(vi 0)]) rfl fun m bg al s=>?_
  refine ⟨(s _ (e.a3f l)),(s _ (e.a3f k)),(s _ e.lt1),?_⟩
  refine A6 al Tryz.sizeOf40 (vs:=(i5 c)) fun bh t bi=>?_
  refine c7 (D3 _ _ _) (c7 pEq ?_)
  refine g9 h (fun _ h=>?_) (fun _ h=>?_)
  ·refine c7 u6 (d4 (l1 Tryz.isAgg3 t rfl) (c7 pNe ?_))
   exact hR _ H _ _ t.drop.drop ⟨(!decide (c.f3=12)),rfl,rfl,h⟩
  ·refine N5 t fun bj f=>?_
   refine f8 o5 ?_
   obtain ⟨am,an,ao,q,h⟩:=h
   obtain ⟨bk,bl,ap,q⟩:=q
   refine f8 (J4 ap _ _ _ _ am an) ?_
   refine o3 (l1 Tryz.isAgg28 (f.bring 1) rfl) ?_
   refine o3 (ld1 (v:=(vi ao)) Tryz.isAgg3 (f.atH q)) ?_
   obtain ⟨aq,ar,d,r,h⟩:=h
   obtain ⟨bm,bn,au,r⟩:=r
   refine f8 (M9 au _ _ _ _ aq ar) ?_
   refine o3 (ldA (vs:=(i5 d)) Tryz.isAgg40 Tryz.sizeOf40 rfl (f.atH r)) ?_
   refine y3 f Tryz.zeroValue40 (cs:=[(vi 0),(vi 0),(vi 0),(vi 0),(vi 0),(vi 0),(vi 0),(vi 0),(vi 0),(vi 0)]) rfl fun i bo av u=>?_
   refine ⟨(u _ (f.a3f r)),(u _ (f.a3f q)),(u _ (f.bring 1).lt1),?_⟩
   refine A6 av Tryz.sizeOf40 (vs:=(i5 d)) fun bp aw bq=>?_
   refine N5 aw fun br b=>?_
   refine f8 (D3 _ _ _) ?_
   refine f8 pEq ?_
   refine f8 (Pu.g fun hb=>by have a:=hb;first | with_reducible exact u6 | (simp only [c6 a,c5 a,c5 hb,d6 a];with_reducible exact u6) | (simp only [c6 a,c5 a,c5 hb,d7 a,c8];with_reducible exact u6) | exact u6 | (simp only [c6 a,c5 a,c5 hb,d6 a];exact u6) | (simp only [c6 a,c5 a,c5 hb,d7 a,c8];exact u6)) ?_
   refine R2 (p:=(Value.pointer (some ⟨m,2,none⟩))) rfl (Ld.g fun hb=>by have a:=hb;first | exact (l1 Tryz.isAgg3 (b.bring 1) rfl) | (simp only [c6 a,c5 a,c5 hb,d6 a];exact (l1 Tryz.isAgg3 (b.bring 1) rfl)) | (simp only [c6 a,c5 a,c5 hb,d7 a,c8];exact (l1 Tryz.isAgg3 (b.bring 1) rfl))) ?_
   refine f8 (Pu.g fun hb=>by have a:=hb;first | with_reducible exact pEq | (simp only [c6 a,c5 a,c5 hb,d6 a];with_reducible exact pEq) | (simp only [c6 a,c5 a,c5 hb,d7 a,c8];with_reducible exact pEq) | exact pEq | (simp only [c6 a,c5 a,c5 hb,d6 a];exact pEq) | (simp only [c6 a,c5 a,c5 hb,d7 a,c8];exact pEq)) ?_
   refine f8 (p9 _ _) ?_
   refine f8 (Pu.g fun hb=>by have a:=hb;first | with_reducible exact u6 | (simp only [c6 a,c5 a,c5 hb,d6 a];with_reducible exact u6) | (simp only [c6 a,c5 a,c5 hb,d7 a,c8];with_reducible exact u6) | exact u6 | (simp only [c6 a,c5 a,c5 hb,d6 a];exact u6) | (simp only [c6 a,c5 a,c5 hb,d7 a,c8];exact u6)) ?_
   refine R2 (p:=(Value.pointer (some ⟨i,2,none⟩))) rfl (Ld.g fun hb=>by have a:=hb;first | exact (l1 Tryz.isAgg3 b rfl) | (simp only [c6 a,c5 a,c5 hb,d6 a];exact (l1 Tryz.isAgg3 b rfl)) | (simp only [c6 a,c5 a,c5 hb,d7 a,c8];exact (l1 Tryz.isAgg3 b rfl))) ?_
   refine f8 (Pu.g fun hb=>by have a:=hb;first | with_reducible exact pEq | (simp only [c6 a,c5 a,c5 hb,d6 a];with_reducible exact pEq) | (simp only [c6 a,c5 a,c5 hb,d7 a,c8];with_reducible exact pEq) | exact pEq | (simp only [c6 a,c5 a,c5 hb,d6 a];exact pEq) | (simp only [c6 a,c5 a,c5 hb,d7 a,c8];exact pEq)) ?_
   refine f8 (p9 _ _) ?_
   refine f8 (Pu.g fun hb=>by have a:=hb;first | with_reducible exact z8 | (simp only [c6 a,c5 a,c5 hb,d6 a];with_reducible exact z8) | (simp only [c6 a,c5 a,c5 hb,d7 a,c8];with_reducible exact z8) | exact z8 | (simp only [c6 a,c5 a,c5 hb,d6 a];exact z8) | (simp only [c6 a,c5 a,c5 hb,d7 a,c8];exact z8)) ?_
   refine f8 (Pu.g fun hb=>by have a:=hb;first | with_reducible exact z8 | (simp only [c6 a,c5 a,c5 hb,d6 a];with_reducible exact z8) | (simp only [c6 a,c5 a,c5 hb,d7 a,c8];with_reducible exact z8) | exact z8 | (simp only [c6 a,c5 a,c5 hb,d6 a];exact z8) | (simp only [c6 a,c5 a,c5 hb,d7 a,c8];exact z8)) ?_
   refine R2 (p:=(Value.pointer (some ⟨m,6,none⟩))) rfl (Ld.g fun hb=>by have a:=hb;first | exact (ldA Tryz.isAgg38 Tryz.sizeOf38 rfl ((b.bring 1).at1 (o:=6) (vs:=(i7 c.fA)) (nb rfl) rfl)) | (simp only [c6 a,c5 a,c5 hb,d6 a];exact (ldA Tryz.isAgg38 Tryz.sizeOf38 rfl ((b.bring 1).at1 (o:=6) (vs:=(i7 c.fA)) (nb rfl) rfl))) | (simp only [c6 a,c5 a,c5 hb,d7 a,c8];exact (ldA Tryz.isAgg38 Tryz.sizeOf38 rfl ((b.bring 1).at1 (o:=6) (vs:=(i7 c.fA)) (nb rfl) rfl)))) ?_
   refine R2 (p:=(Value.pointer (some ⟨i,6,none⟩))) rfl (Ld.g fun hb=>by have a:=hb;first | exact (ldA Tryz.isAgg38 Tryz.sizeOf38 rfl (b.at1 (o:=6) (vs:=(i7 d.fA)) (nb rfl) rfl)) | (simp only [c6 a,c5 a,c5 hb,d6 a];exact (ldA Tryz.isAgg38 Tryz.sizeOf38 rfl (b.at1 (o:=6) (vs:=(i7 d.fA)) (nb rfl) rfl))) | (simp only [c6 a,c5 a,c5 hb,d7 a,c8];exact (ldA Tryz.isAgg38 Tryz.sizeOf38 rfl (b.at1 (o:=6) (vs:=(i7 d.fA)) (nb rfl) rfl)))) ?_
   refine f8 (Pu.g fun hb=>by have a:=hb;first | with_reducible exact (E4 _ _ _ _ _ _) | (simp only [c6 a,c5 a,c5 hb,d6 a];with_reducible exact (E4 _ _ _ _ _ _)) | (simp only [c6 a,c5 a,c5 hb,d7 a,c8];with_reducible exact (E4 _ _ _ _ _ _)) | exact (E4 _ _ _ _ _ _) | (simp only [c6 a,c5 a,c5 hb,d6 a];exact (E4 _ _ _ _ _ _)) | (simp only [c6 a,c5 a,c5 hb,d7 a,c8];exact (E4 _ _ _ _ _ _))) ?_
   refine f8 (p9 _ _) ?_
   refine f8 (Pu.g fun hb=>by have a:=hb;first | with_reducible exact y4 | (simp only [c6 a,c5 a,c5 hb,d6 a];with_reducible exact y4) | (simp only [c6 a,c5 a,c5 hb,d7 a,c8];with_reducible exact y4) | exact y4 | (simp only [c6 a,c5 a,c5 hb,d6 a];exact y4) | (simp only [c6 a,c5 a,c5 hb,d7 a,c8];exact y4)) ?_
   refine f8 (Pu.g fun hb=>by have a:=hb;first | with_reducible exact y4 | (simp only [c6 a,c5 a,c5 hb,d6 a];with_reducible exact y4) | (simp only [c6 a,c5 a,c5 hb,d7 a,c8];with_reducible exact y4) | exact y4 | (simp only [c6 a,c5 a,c5 hb,d6 a];exact y4) | (simp only [c6 a,c5 a,c5 hb,d7 a,c8];exact y4)) ?_
   refine R2 (p:=(Value.pointer (some ⟨m,8,none⟩))) rfl (Ld.g fun hb=>by have a:=hb;first | exact (ldA Tryz.isAgg38 Tryz.sizeOf38 rfl ((b.bring 1).at1 (o:=8) (vs:=(i7 c.fB)) (nb rfl) rfl)) | (simp only [c6 a,c5 a,c5 hb,d6 a];exact (ldA Tryz.isAgg38 Tryz.sizeOf38 rfl ((b.bring 1).at1 (o:=8) (vs:=(i7 c.fB)) (nb rfl) rfl))) | (simp only [c6 a,c5 a,c5 hb,d7 a,c8];exact (ldA Tryz.isAgg38 Tryz.sizeOf38 rfl ((b.bring 1).at1 (o:=8) (vs:=(i7 c.fB)) (nb rfl) rfl)))) ?_
   refine R2 (p:=(Value.pointer (some ⟨i,8,none⟩))) rfl (Ld.g fun hb=>by have a:=hb;first | exact (ldA Tryz.isAgg38 Tryz.sizeOf38 rfl (b.at1 (o:=8) (vs:=(i7 d.fB)) (nb rfl) rfl)) | (simp only [c6 a,c5 a,c5 hb,d6 a];exact (ldA Tryz.isAgg38 Tryz.sizeOf38 rfl (b.at1 (o:=8) (vs:=(i7 d.fB)) (nb rfl) rfl))) | (simp only [c6 a,c5 a,c5 hb,d7 a,c8];exact (ldA Tryz.isAgg38 Tryz.sizeOf38 rfl (b.at1 (o:=8) (vs:=(i7 d.fB)) (nb rfl) rfl)))) ?_
   refine f8 (Pu.g fun hb=>by have a:=hb;first | with_reducible exact (E4 _ _ _ _ _ _) | (simp only [c6 a,c5 a,c5 hb,d6 a];with_reducible exact (E4 _ _ _ _ _ _)) | (simp only [c6 a,c5 a,c5 hb,d7 a,c8];with_reducible exact (E4 _ _ _ _ _ _)) | exact (E4 _ _ _ _ _ _) | (simp only [c6 a,c5 a,c5 hb,d6 a];exact (E4 _ _ _ _ _ _)) | (simp only [c6 a,c5 a,c5 hb,d7 a,c8];exact (E4 _ _ _ _ _ _))) ?_
   refine f8 (p9 _ _) ?_
   refine f8 (Pu.g fun hb=>by have a:=hb;first | with_reducible exact m7 | (simp only [c6 a,c5 a,c5 hb,d6 a];with_reducible exact m7) | (simp only [c6 a,c5 a,c5 hb,d7 a,c8];with_reducible exact m7) | exact m7 | (simp only [c6 a,c5 a,c5 hb,d6 a];exact m7) | (simp only [c6 a,c5 a,c5 hb,d7 a,c8];exact m7)) ?_
   refine f8 (Pu.g fun hb=>by have a:=hb;first | with_reducible exact m7 | (simp only [c6 a,c5 a,c5 hb,d6 a];with_reducible exact m7) | (simp only [c6 a,c5 a,c5 hb,d7 a,c8];with_reducible exact m7) | exact m7 | (simp only [c6 a,c5 a,c5 hb,d6 a];exact m7) | (simp only [c6 a,c5 a,c5 hb,d7 a,c8];exact m7)) ?_
   refine R2 (p:=(Value.pointer (some ⟨i,5,none⟩))) rfl (Ld.g fun hb=>by have a:=hb;first | exact (l1 Tryz.isAgg3 b rfl) | (simp only [c6 a,c5 a,c5 hb,d6 a];exact (l1 Tryz.isAgg3 b rfl)) | (simp only [c6 a,c5 a,c5 hb,d7 a,c8];exact (l1 Tryz.isAgg3 b rfl))) ?_
   refine R2 (p:=(Value.pointer (some ⟨m,5,none⟩))) rfl (Ld.g fun hb=>by have a:=hb;first | exact (l1 Tryz.isAgg3 (b.bring 1) rfl) | (simp only [c6 a,c5 a,c5 hb,d6 a];exact (l1 Tryz.isAgg3 (b.bring 1) rfl)) | (simp only [c6 a,c5 a,c5 hb,d7 a,c8];exact (l1 Tryz.isAgg3 (b.bring 1) rfl))) ?_
   refine R1 [] (fun j:Int=>(vi j)) h b (fun ac h=>?_) fun j y ax z aa ad h=>?_
   ·have a:=ac
    try simp only [c6 a,c5 a,c5 ac]
    refine j6 Tryz.call52 h b ?_
    rintro _ y _ ax z ad aa ⟨j,rfl,rfl,h⟩
    exact ⟨j,y,rfl,z,aa,ad,h⟩
   refine ⟨(a5o (p:=(Value.pointer (some ⟨i,5,none⟩))) rfl (aa _ b.lt1 (Inv.R6 (Fi:=[]) b))),?_⟩
   refine f8 (Pu.g fun hb=>by have a:=hb;first | with_reducible exact pEq | (simp only [c6 a,c5 a,c5 hb,d6 a];with_reducible exact pEq) | (simp only [c6 a,c5 a,c5 hb,d7 a,c8];with_reducible exact pEq) | exact pEq | (simp only [c6 a,c5 a,c5 hb,d6 a];exact pEq) | (simp only [c6 a,c5 a,c5 hb,d7 a,c8];exact pEq)) ?_
   refine f8 (p9 _ _) ?_
   exact hR _ y _ _ z.drop.drop.drop ⟨((((((decide ((x1.n:Int)=2))&&(decide (c.f3=12)))&&(decide (d.f3=12)))&&(decide (c.fA.y8=d.fA.y8∧c.fA.u1=d.fA.u1)))&&(decide (c.fB.y8=d.fB.y8∧c.fB.u1=d.fB.u1)))&&(decide (d.fOp=j))),rfl,rfl,h⟩
def a4D(x0:f7)(H:Hp)(K:Int→Hp→Prop):Prop:=
 K (IntKind.wrap .i64 ((x0.t8.n:Int)+x0.o9)) H
theorem b0O(x0){H K}(h:a4D x0 H K):a1k x0 H K:=by
 refine Ct.of fun w0 w ps0 H0 R E I hR=>c7H ?_
 unfold a4D at h
 unfold F33
 refine D6 I (cs:=(g8 x0)) rfl fun b c a d=>?_
 refine c7 J7 (d4 (l1 Tryz.isAgg27 a rfl) (c7 (K6 _ _ _) (c7 z7 (d4 (l1 Tryz.isAgg3 a rfl) ?_))))
 refine c7 pAd ?_
 exact hR _ H _ _ a.drop ⟨(IntKind.wrap .i64 ((x0.t8.n:Int)+x0.o9)),rfl,rfl,h⟩
def D1(b1m:Int)(b2a:Int)(a7B:Bool)(b9g:Bool)(a7n:Bool)(a:d5)(H:Hp)(K:Bool→Hp→Prop):Prop:=
 (((a7B&&((decide (a.S3 < 0))||(decide (b1m≤a.S3))))||((!a7B)&&(!decide (a.S3=(-1)))))=true→
 K false H)∧
 (((a7B&&((decide (a.S3 < 0))||(decide (b1m≤a.S3))))||((!a7B)&&(!decide (a.S3=(-1)))))=false→
 (((((decide (a.f3=10))||(decide (a.f3=11)))&&((decide (a.O5 < 0))||(decide (b2a≤a.O5))))||((!((decide (a.f3=10))||(decide (a.f3=11))))&&(!decide (a.O5=(-1)))))=true→
 K false H)∧
 (((((decide (a.f3=10))||(decide (a.f3=11)))&&((decide (a.O5 < 0))||(decide (b2a≤a.O5))))||((!((decide (a.f3=10))||(decide (a.f3=11))))&&(!decide (a.O5=(-1)))))=false→
 ((((decide (a.f3=12))&&((decide (a.fOp < 1))||(decide (6 < a.fOp))))||((!decide (a.f3=12))&&(!decide (a.fOp=0))))=true→
 K false H)∧
 ((((decide (a.f3=12))&&((decide (a.fOp < 1))||(decide (6 < a.fOp))))||((!decide (a.f3=12))&&(!decide (a.fOp=0))))=false→
 a0h a.fA b9g b1m H (fun b c=>
 TG (b=true) (a0h a.fB a7n b1m c) false c (fun(d:Bool)(e:Hp)=>
 K (b&&d) e)))))
def O8(d1q:Int)(d1r:Int)(d1s:Bool)(b3H:Bool)(a:d5)(H:Hp)(K:Bool→Hp→Prop):Prop:=
 (b3H=true→
 D1 d1q d1r d1s true true a H K)∧
 (b3H=false→
 K false H)
def J1(b9h:Int)(b9i:Int)(c9i:Bool)(d1t:Bool)(c9j:Bool)(a8L:Int)(b3I:Bool)(a:d5)(H:Hp)(K:Bool→Hp→Prop):Prop:=
 (b3I=true→
 D1 b9h b9i true true true a H K)∧
 (b3I=false→
 (a8L=9→
 D1 b9h b9i true d1t c9j a H K)∧
 (¬(a8L=9)→
 (a8L=10→
 D1 b9h b9i true true c9j a H K)∧
 (¬(a8L=10)→
 (a8L=11→
 O8 b9h b9i c9i (decide (a8L=11)) a H K)∧
 (¬(a8L=11)→
 O8 b9h b9i c9i (decide (a8L=12)) a H K))))
def O9(b3d:Int)(b6z:Int)(b9j:Bool)(b9k:Bool)(b6A:Bool)(a2q:Int)(b2b:Bool)(a:d5)(H:Hp)(K:Bool→Hp→Prop):Prop:=
 (b2b=true→
 D1 b3d b6z true true b6A a H K)∧
 (b2b=false→
 (a2q=4→
 J1 b3d b6z b9j b9k b6A a2q (decide (a2q=4)) a H K)∧
 (¬(a2q=4)→
 (a2q=5→
 J1 b3d b6z b9j b9k b6A a2q (decide (a2q=5)) a H K)∧
 (¬(a2q=5)→
 (a2q=6→
 J1 b3d b6z b9j b9k b6A a2q (decide (a2q=6)) a H K)∧
 (¬(a2q=6)→
 (a2q=7→
 J1 b3d b6z b9j b9k b6A a2q (decide (a2q=7)) a H K)∧
 (¬(a2q=7)→
 J1 b3d b6z b9j b9k b6A a2q (decide (a2q=8)) a H K)))))
def M0(c3K:Int)(c3L:Int)(b1n:Bool)(c3M:Bool)(c3N:Bool)(b0Y:Int)(b0Z:Bool)(a:d5)(H:Hp)(K:Bool→Hp→Prop):Prop:=
 (b0Z=true→
 D1 c3K c3L b1n c3M c3N a H K)∧
 (b0Z=false→
 (b0Y=2→
 O9 c3K c3L b1n c3M c3N b0Y (decide (b0Y=2)) a H K)∧
 (¬(b0Y=2)→
 O9 c3K c3L b1n c3M c3N b0Y (decide (b0Y=3)) a H K))
def a3u(x0:d5)(x1:Int)(x2:Int)(H:Hp)(K:Bool→Hp→Prop):Prop:=
 (x0.f3=1→
 M0 x1 x2 false false false x0.f3 (decide (x0.f3=1)) x0 H K)∧
 (¬(x0.f3=1)→
 (x0.f3=13→
 M0 x1 x2 false false false x0.f3 (decide (x0.f3=13)) x0 H K)∧
 (¬(x0.f3=13)→
 M0 x1 x2 false false false x0.f3 (decide (x0.f3=14)) x0 H K))
theorem a9G(x0 x1 x2){H K}(h:a3u x0 x1 x2 H K):a3l x0 x1 x2 H K:=by
 refine Ct.of fun w0 w ps0 H0 R E I hR=>c7I ?_
 unfold a3u at h
 unfold F34
 refine D6 I (cs:=(i5 x0)) rfl fun c r i s=>?_
 have hj1:∀(a7B:Bool)(b9g:Bool)(a7n:Bool) H w (_:Inv w0 ps0 H0 H [bx c 40 (i5 x0)] w) (_:D1 x1 x2 a7B b9g a7n x0 H K),b8I (vi x1) (vi x2) (Value.pointer (some ⟨c,0,none⟩)) (vB a7B) (vB b9g) (vB a7n) w R E:=by
  intro a7B b9g a7n H w I h
  unfold b8I
  intro _
  unfold D1 at h
  refine c7 (Pu.g fun hb=>by have a:=hb;first | with_reducible exact J3 | (simp only [c6 a,c5 a,c5 hb,d6 a];with_reducible exact J3) | (simp only [c6 a,c5 a,c5 hb,d7 a,c8];with_reducible exact J3) | exact J3 | (simp only [c6 a,c5 a,c5 hb,d6 a];exact J3) | (simp only [c6 a,c5 a,c5 hb,d7 a,c8];exact J3)) ?_
  refine d4 (Ld.g fun hb=>by have a:=hb;first | exact (l1 Tryz.isAgg3 I rfl) | (simp only [c6 a,c5 a,c5 hb,d6 a];exact (l1 Tryz.isAgg3 I rfl)) | (simp only [c6 a,c5 a,c5 hb,d7 a,c8];exact (l1 Tryz.isAgg3 I rfl))) ?_
  refine c7 (Pu.g fun hb=>by have a:=hb;first | with_reducible exact pLs | (simp only [c6 a,c5 a,c5 hb,d6 a];with_reducible exact pLs) | (simp only [c6 a,c5 a,c5 hb,d7 a,c8];with_reducible exact pLs) | exact pLs | (simp only [c6 a,c5 a,c5 hb,d6 a];exact pLs) | (simp only [c6 a,c5 a,c5 hb,d7 a,c8];exact pLs)) ?_
  try simp only [B8,G9,B9,C1,C3,C5,C0,C2,C4,C6]
  refine c7 (Pu.e (a6S _ _ _) (Pu.g fun hb=>by obtain ⟨a,b⟩:=a9y hb;first | with_reducible exact J3 | (simp only [c6 a,c5 a,c6 b,c5 b,c5 hb,c8];with_reducible exact J3) | (simp only [c6 a,c5 a,c6 b,c5 b,c5 hb,d6 hb];with_reducible exact J3) | (simp only [c6 a,c5 a,c6 b,c5 b,c5 hb,d7 hb,c8];with_reducible exact J3) | exact J3 | (simp only [c6 a,c5 a,c6 b,c5 b,c5 hb,c8];exact J3) | (simp only [c6 a,c5 a,c6 b,c5 b,c5 hb,d6 hb];exact J3) | (simp only [c6 a,c5 a,c6 b,c5 b,c5 hb,d7 hb,c8];exact J3))) ?_
  refine d4 (Ld.e (a6S _ _ _) (Ld.g fun hb=>by obtain ⟨a,b⟩:=a9y hb;first | exact (l1 Tryz.isAgg3 I rfl) | (simp only [c6 a,c5 a,c6 b,c5 b,c5 hb,c8];exact (l1 Tryz.isAgg3 I rfl)) | (simp only [c6 a,c5 a,c6 b,c5 b,c5 hb,d6 hb];exact (l1 Tryz.isAgg3 I rfl)) | (simp only [c6 a,c5 a,c6 b,c5 b,c5 hb,d7 hb,c8];exact (l1 Tryz.isAgg3 I rfl)))) ?_
  try simp only [B8,G9,B9,C1,C3,C5,C0,C2,C4,C6]
  refine c7 (Pu.e (a6S _ _ _) (Pu.g fun hb=>by obtain ⟨a,b⟩:=a9y hb;first | with_reducible exact pGe | (simp only [c6 a,c5 a,c6 b,c5 b,c5 hb,c8];with_reducible exact pGe) | (simp only [c6 a,c5 a,c6 b,c5 b,c5 hb,d6 hb];with_reducible exact pGe) | (simp only [c6 a,c5 a,c6 b,c5 b,c5 hb,d7 hb,c8];with_reducible exact pGe) | exact pGe | (simp only [c6 a,c5 a,c6 b,c5 b,c5 hb,c8];exact pGe) | (simp only [c6 a,c5 a,c6 b,c5 b,c5 hb,d6 hb];exact pGe) | (simp only [c6 a,c5 a,c6 b,c5 b,c5 hb,d7 hb,c8];exact pGe))) ?_
  refine c7 (Pu.g fun hb=>by have a:=hb;first | with_reducible exact (B4 _ _) | (simp only [c6 a,c5 a,c5 hb,d6 a];with_reducible exact (B4 _ _)) | (simp only [c6 a,c5 a,c5 hb,d7 a,c8];with_reducible exact (B4 _ _)) | exact (B4 _ _) | (simp only [c6 a,c5 a,c5 hb,d6 a];exact (B4 _ _)) | (simp only [c6 a,c5 a,c5 hb,d7 a,c8];exact (B4 _ _))) ?_
  refine c7 (p9 _ _) ?_
  try simp only [B8,G9,B9,C1,C3,C5,C0,C2,C4,C6]
  refine c7 (Pu.g fun hb=>by have a:=hb;first | with_reducible exact (p8 _) | (simp only [c6 a,c5 a,c5 hb,d8 a];with_reducible exact (p8 _)) | (simp only [c6 a,c5 a,c5 hb,d9 a,c8];with_reducible exact (p8 _)) | exact (p8 _) | (simp only [c6 a,c5 a,c5 hb,d8 a];exact (p8 _)) | (simp only [c6 a,c5 a,c5 hb,d9 a,c8];exact (p8 _))) ?_
  try simp only [B8,G9,B9,C1,C3,C5,C0,C2,C4,C6]
  refine c7 (Pu.e (Q9 _ _ _) (Pu.g fun hb=>by obtain ⟨a,b⟩:=a0K hb;first | with_reducible exact J3 | (simp only [c6 a,c5 a,c6 b,c5 b,c5 hb,c8];with_reducible exact J3) | (simp only [c6 a,c5 a,c6 b,c5 b,c5 hb,d6 hb];with_reducible exact J3) | (simp only [c6 a,c5 a,c6 b,c5 b,c5 hb,d7 hb,c8];with_reducible exact J3) | exact J3 | (simp only [c6 a,c5 a,c6 b,c5 b,c5 hb,c8];exact J3) | (simp only [c6 a,c5 a,c6 b,c5 b,c5 hb,d6 hb];exact J3) | (simp only [c6 a,c5 a,c6 b,c5 b,c5 hb,d7 hb,c8];exact J3))) ?_
  refine d4 (Ld.e (Q9 _ _ _) (Ld.g fun hb=>by obtain ⟨a,b⟩:=a0K hb;first | exact (l1 Tryz.isAgg3 I rfl) | (simp only [c6 a,c5 a,c6 b,c5 b,c5 hb,c8];exact (l1 Tryz.isAgg3 I rfl)) | (simp only [c6 a,c5 a,c6 b,c5 b,c5 hb,d6 hb];exact (l1 Tryz.isAgg3 I rfl)) | (simp only [c6 a,c5 a,c6 b,c5 b,c5 hb,d7 hb,c8];exact (l1 Tryz.isAgg3 I rfl)))) ?_
  refine c7 (Pu.e (Q9 _ _ _) (Pu.g fun hb=>by obtain ⟨a,b⟩:=a0K hb;first | with_reducible exact pNe | (simp only [c6 a,c5 a,c6 b,c5 b,c5 hb,c8];with_reducible exact pNe) | (simp only [c6 a,c5 a,c6 b,c5 b,c5 hb,d6 hb];with_reducible exact pNe) | (simp only [c6 a,c5 a,c6 b,c5 b,c5 hb,d7 hb,c8];with_reducible exact pNe) | exact pNe | (simp only [c6 a,c5 a,c6 b,c5 b,c5 hb,c8];exact pNe) | (simp only [c6 a,c5 a,c6 b,c5 b,c5 hb,d6 hb];exact pNe) | (simp only [c6 a,c5 a,c6 b,c5 b,c5 hb,d7 hb,c8];exact pNe))) ?_
  refine c7 (Pu.g fun hb=>by have a:=hb;first | with_reducible exact (p9 _ _) | (simp only [c6 a,c5 a,c5 hb,d8 a];with_reducible exact (p9 _ _)) | (simp only [c6 a,c5 a,c5 hb,d9 a,c8];with_reducible exact (p9 _ _)) | exact (p9 _ _) | (simp only [c6 a,c5 a,c5 hb,d8 a];exact (p9 _ _)) | (simp only [c6 a,c5 a,c5 hb,d9 a,c8];exact (p9 _ _))) ?_
  refine c7 (B4 _ _) ?_
  refine q9 h (fun _ h=>?_) (fun _ h=>?_)
  ·exact hR _ H _ _ I.drop ⟨false,rfl,rfl,h⟩
  ·refine c7 u6 (d4 (l1 Tryz.isAgg3 I rfl) (c7 pEq ?_))
   refine c7 (Pu.g fun hb=>by have a:=hb;first | with_reducible exact u6 | (simp only [c6 a,c5 a,c5 hb,d8 a];with_reducible exact u6) | (simp only [c6 a,c5 a,c5 hb,d9 a,c8];with_reducible exact u6) | exact u6 | (simp only [c6 a,c5 a,c5 hb,d8 a];exact u6) | (simp only [c6 a,c5 a,c5 hb,d9 a,c8];exact u6)) ?_
   refine d4 (Ld.g fun hb=>by have a:=hb;first | exact (l1 Tryz.isAgg3 I rfl) | (simp only [c6 a,c5 a,c5 hb,d8 a];exact (l1 Tryz.isAgg3 I rfl)) | (simp only [c6 a,c5 a,c5 hb,d9 a,c8];exact (l1 Tryz.isAgg3 I rfl))) ?_
   refine c7 (Pu.g fun hb=>by have a:=hb;first | with_reducible exact pEq | (simp only [c6 a,c5 a,c5 hb,d8 a];with_reducible exact pEq) | (simp only [c6 a,c5 a,c5 hb,d9 a,c8];with_reducible exact pEq) | exact pEq | (simp only [c6 a,c5 a,c5 hb,d8 a];exact pEq) | (simp only [c6 a,c5 a,c5 hb,d9 a,c8];exact pEq)) ?_
   refine c7 (B4 _ _) ?_
   refine c7 (Pu.g fun hb=>by have a:=hb;first | with_reducible exact B2 | (simp only [c6 a,c5 a,c5 hb,d6 a];with_reducible exact B2) | (simp only [c6 a,c5 a,c5 hb,d7 a,c8];with_reducible exact B2) | exact B2 | (simp only [c6 a,c5 a,c5 hb,d6 a];exact B2) | (simp only [c6 a,c5 a,c5 hb,d7 a,c8];exact B2)) ?_
   refine d4 (Ld.g fun hb=>by have a:=hb;first | exact (l1 Tryz.isAgg3 I rfl) | (simp only [c6 a,c5 a,c5 hb,d6 a];exact (l1 Tryz.isAgg3 I rfl)) | (simp only [c6 a,c5 a,c5 hb,d7 a,c8];exact (l1 Tryz.isAgg3 I rfl))) ?_
   refine c7 (Pu.g fun hb=>by have a:=hb;first | with_reducible exact pLs | (simp only [c6 a,c5 a,c5 hb,d6 a];with_reducible exact pLs) | (simp only [c6 a,c5 a,c5 hb,d7 a,c8];with_reducible exact pLs) | exact pLs | (simp only [c6 a,c5 a,c5 hb,d6 a];exact pLs) | (simp only [c6 a,c5 a,c5 hb,d7 a,c8];exact pLs)) ?_
   try simp only [B8,G9,B9,C1,C3,C5,C0,C2,C4,C6]
   refine c7 (Pu.e (a6S _ _ _) (Pu.g fun hb=>by obtain ⟨a,b⟩:=a9y hb;first | with_reducible exact B2 | (simp only [c6 a,c5 a,c6 b,c5 b,c5 hb,c8];with_reducible exact B2) | (simp only [c6 a,c5 a,c6 b,c5 b,c5 hb,d6 hb];with_reducible exact B2) | (simp only [c6 a,c5 a,c6 b,c5 b,c5 hb,d7 hb,c8];with_reducible exact B2) | exact B2 | (simp only [c6 a,c5 a,c6 b,c5 b,c5 hb,c8];exact B2) | (simp only [c6 a,c5 a,c6 b,c5 b,c5 hb,d6 hb];exact B2) | (simp only [c6 a,c5 a,c6 b,c5 b,c5 hb,d7 hb,c8];exact B2))) ?_
   refine d4 (Ld.e (a6S _ _ _) (Ld.g fun hb=>by obtain ⟨a,b⟩:=a9y hb;first | exact (l1 Tryz.isAgg3 I rfl) | (simp only [c6 a,c5 a,c6 b,c5 b,c5 hb,c8];exact (l1 Tryz.isAgg3 I rfl)) | (simp only [c6 a,c5 a,c6 b,c5 b,c5 hb,d6 hb];exact (l1 Tryz.isAgg3 I rfl)) | (simp only [c6 a,c5 a,c6 b,c5 b,c5 hb,d7 hb,c8];exact (l1 Tryz.isAgg3 I rfl)))) ?_
   try simp only [B8,G9,B9,C1,C3,C5,C0,C2,C4,C6]
   refine c7 (Pu.e (a6S _ _ _) (Pu.g fun hb=>by obtain ⟨a,b⟩:=a9y hb;first | with_reducible exact pGe | (simp only [c6 a,c5 a,c6 b,c5 b,c5 hb,c8];with_reducible exact pGe) | (simp only [c6 a,c5 a,c6 b,c5 b,c5 hb,d6 hb];with_reducible exact pGe) | (simp only [c6 a,c5 a,c6 b,c5 b,c5 hb,d7 hb,c8];with_reducible exact pGe) | exact pGe | (simp only [c6 a,c5 a,c6 b,c5 b,c5 hb,c8];exact pGe) | (simp only [c6 a,c5 a,c6 b,c5 b,c5 hb,d6 hb];exact pGe) | (simp only [c6 a,c5 a,c6 b,c5 b,c5 hb,d7 hb,c8];exact pGe))) ?_
   refine c7 (Pu.g fun hb=>by have a:=hb;first | with_reducible exact (B4 _ _) | (simp only [c6 a,c5 a,c5 hb,d6 a];with_reducible exact (B4 _ _)) | (simp only [c6 a,c5 a,c5 hb,d7 a,c8];with_reducible exact (B4 _ _)) | exact (B4 _ _) | (simp only [c6 a,c5 a,c5 hb,d6 a];exact (B4 _ _)) | (simp only [c6 a,c5 a,c5 hb,d7 a,c8];exact (B4 _ _))) ?_
   refine c7 (p9 _ _) ?_
   try simp only [B8,G9,B9,C1,C3,C5,C0,C2,C4,C6]
   refine c7 (Pu.g fun hb=>by have a:=hb;first | with_reducible exact (p8 _) | (simp only [c6 a,c5 a,c5 hb,d8 a];with_reducible exact (p8 _)) | (simp only [c6 a,c5 a,c5 hb,d9 a,c8];with_reducible exact (p8 _)) | exact (p8 _) | (simp only [c6 a,c5 a,c5 hb,d8 a];exact (p8 _)) | (simp only [c6 a,c5 a,c5 hb,d9 a,c8];exact (p8 _))) ?_
   try simp only [B8,G9,B9,C1,C3,C5,C0,C2,C4,C6]
   refine c7 (Pu.e (Q9 _ _ _) (Pu.g fun hb=>by obtain ⟨a,b⟩:=a0K hb;first | with_reducible exact B2 | (simp only [c6 a,c5 a,c6 b,c5 b,c5 hb,c8];with_reducible exact B2) | (simp only [c6 a,c5 a,c6 b,c5 b,c5 hb,d6 hb];with_reducible exact B2) | (simp only [c6 a,c5 a,c6 b,c5 b,c5 hb,d7 hb,c8];with_reducible exact B2) | exact B2 | (simp only [c6 a,c5 a,c6 b,c5 b,c5 hb,c8];exact B2) | (simp only [c6 a,c5 a,c6 b,c5 b,c5 hb,d6 hb];exact B2) | (simp only [c6 a,c5 a,c6 b,c5 b,c5 hb,d7 hb,c8];exact B2))) ?_
   refine d4 (Ld.e (Q9 _ _ _) (Ld.g fun hb=>by obtain ⟨a,b⟩:=a0K hb;first | exact (l1 Tryz.isAgg3 I rfl) | (simp only [c6 a,c5 a,c6 b,c5 b,c5 hb,c8];exact (l1 Tryz.isAgg3 I rfl)) | (simp only [c6 a,c5 a,c6 b,c5 b,c5 hb,d6 hb];exact (l1 Tryz.isAgg3 I rfl)) | (simp only [c6 a,c5 a,c6 b,c5 b,c5 hb,d7 hb,c8];exact (l1 Tryz.isAgg3 I rfl)))) ?_
   refine c7 (Pu.e (Q9 _ _ _) (Pu.g fun hb=>by obtain ⟨a,b⟩:=a0K hb;first | with_reducible exact pNe | (simp only [c6 a,c5 a,c6 b,c5 b,c5 hb,c8];with_reducible exact pNe) | (simp only [c6 a,c5 a,c6 b,c5 b,c5 hb,d6 hb];with_reducible exact pNe) | (simp only [c6 a,c5 a,c6 b,c5 b,c5 hb,d7 hb,c8];with_reducible exact pNe) | exact pNe | (simp only [c6 a,c5 a,c6 b,c5 b,c5 hb,c8];exact pNe) | (simp only [c6 a,c5 a,c6 b,c5 b,c5 hb,d6 hb];exact pNe) | (simp only [c6 a,c5 a,c6 b,c5 b,c5 hb,d7 hb,c8];exact pNe))) ?_
   refine c7 (Pu.g fun hb=>by have a:=hb;first | with_reducible exact (p9 _ _) | (simp only [c6 a,c5 a,c5 hb,d8 a];with_reducible exact (p9 _ _)) | (simp only [c6 a,c5 a,c5 hb,d9 a,c8];with_reducible exact (p9 _ _)) | exact (p9 _ _) | (simp only [c6 a,c5 a,c5 hb,d8 a];exact (p9 _ _)) | (simp only [c6 a,c5 a,c5 hb,d9 a,c8];exact (p9 _ _))) ?_
   refine c7 (B4 _ _) ?_
   refine q9 h (fun _ h=>?_) (fun _ h=>?_)
   ·exact hR _ H _ _ I.drop ⟨false,rfl,rfl,h⟩
   ·refine c7 u6 (d4 (l1 Tryz.isAgg3 I rfl) (c7 pEq ?_))
    refine c7 (Pu.g fun hb=>by have a:=hb;first | with_reducible exact m7 | (simp only [c6 a,c5 a,c5 hb,d6 a];with_reducible exact m7) | (simp only [c6 a,c5 a,c5 hb,d7 a,c8];with_reducible exact m7) | exact m7 | (simp only [c6 a,c5 a,c5 hb,d6 a];exact m7) | (simp only [c6 a,c5 a,c5 hb,d7 a,c8];exact m7)) ?_
    refine d4 (Ld.g fun hb=>by have a:=hb;first | exact (l1 Tryz.isAgg3 I rfl) | (simp only [c6 a,c5 a,c5 hb,d6 a];exact (l1 Tryz.isAgg3 I rfl)) | (simp only [c6 a,c5 a,c5 hb,d7 a,c8];exact (l1 Tryz.isAgg3 I rfl))) ?_
    refine c7 (Pu.g fun hb=>by have a:=hb;first | with_reducible exact pLs | (simp only [c6 a,c5 a,c5 hb,d6 a];with_reducible exact pLs) | (simp only [c6 a,c5 a,c5 hb,d7 a,c8];with_reducible exact pLs) | exact pLs | (simp only [c6 a,c5 a,c5 hb,d6 a];exact pLs) | (simp only [c6 a,c5 a,c5 hb,d7 a,c8];exact pLs)) ?_
    try simp only [B8,G9,B9,C1,C3,C5,C0,C2,C4,C6]
    refine c7 (Pu.e (a6S _ _ _) (Pu.g fun hb=>by obtain ⟨a,b⟩:=a9y hb;first | with_reducible exact m7 | (simp only [c6 a,c5 a,c6 b,c5 b,c5 hb,c8];with_reducible exact m7) | (simp only [c6 a,c5 a,c6 b,c5 b,c5 hb,d6 hb];with_reducible exact m7) | (simp only [c6 a,c5 a,c6 b,c5 b,c5 hb,d7 hb,c8];with_reducible exact m7) | exact m7 | (simp only [c6 a,c5 a,c6 b,c5 b,c5 hb,c8];exact m7) | (simp only [c6 a,c5 a,c6 b,c5 b,c5 hb,d6 hb];exact m7) | (simp only [c6 a,c5 a,c6 b,c5 b,c5 hb,d7 hb,c8];exact m7))) ?_
    refine d4 (Ld.e (a6S _ _ _) (Ld.g fun hb=>by obtain ⟨a,b⟩:=a9y hb;first | exact (l1 Tryz.isAgg3 I rfl) | (simp only [c6 a,c5 a,c6 b,c5 b,c5 hb,c8];exact (l1 Tryz.isAgg3 I rfl)) | (simp only [c6 a,c5 a,c6 b,c5 b,c5 hb,d6 hb];exact (l1 Tryz.isAgg3 I rfl)) | (simp only [c6 a,c5 a,c6 b,c5 b,c5 hb,d7 hb,c8];exact (l1 Tryz.isAgg3 I rfl)))) ?_
    refine c7 (Pu.e (a6S _ _ _) (Pu.g fun hb=>by obtain ⟨a,b⟩:=a9y hb;first | with_reducible exact pGt | (simp only [c6 a,c5 a,c6 b,c5 b,c5 hb,c8];with_reducible exact pGt) | (simp only [c6 a,c5 a,c6 b,c5 b,c5 hb,d6 hb];with_reducible exact pGt) | (simp only [c6 a,c5 a,c6 b,c5 b,c5 hb,d7 hb,c8];with_reducible exact pGt) | exact pGt | (simp only [c6 a,c5 a,c6 b,c5 b,c5 hb,c8];exact pGt) | (simp only [c6 a,c5 a,c6 b,c5 b,c5 hb,d6 hb];exact pGt) | (simp only [c6 a,c5 a,c6 b,c5 b,c5 hb,d7 hb,c8];exact pGt))) ?_
    refine c7 (Pu.g fun hb=>by have a:=hb;first | with_reducible exact (B4 _ _) | (simp only [c6 a,c5 a,c5 hb,d6 a];with_reducible exact (B4 _ _)) | (simp only [c6 a,c5 a,c5 hb,d7 a,c8];with_reducible exact (B4 _ _)) | exact (B4 _ _) | (simp only [c6 a,c5 a,c5 hb,d6 a];exact (B4 _ _)) | (simp only [c6 a,c5 a,c5 hb,d7 a,c8];exact (B4 _ _))) ?_
    refine c7 (p9 _ _) ?_
    refine c7 (Pu.g fun hb=>by have a:=hb;first | with_reducible exact u6 | (simp only [c6 a,c5 a,c5 hb,d8 a];with_reducible exact u6) | (simp only [c6 a,c5 a,c5 hb,d9 a,c8];with_reducible exact u6) | exact u6 | (simp only [c6 a,c5 a,c5 hb,d8 a];exact u6) | (simp only [c6 a,c5 a,c5 hb,d9 a,c8];exact u6)) ?_
    refine d4 (Ld.g fun hb=>by have a:=hb;first | exact (l1 Tryz.isAgg3 I rfl) | (simp only [c6 a,c5 a,c5 hb,d8 a];exact (l1 Tryz.isAgg3 I rfl)) | (simp only [c6 a,c5 a,c5 hb,d9 a,c8];exact (l1 Tryz.isAgg3 I rfl))) ?_
    refine c7 (Pu.g fun hb=>by have a:=hb;first | with_reducible exact pNe | (simp only [c6 a,c5 a,c5 hb,d8 a];with_reducible exact pNe) | (simp only [c6 a,c5 a,c5 hb,d9 a,c8];with_reducible exact pNe) | exact pNe | (simp only [c6 a,c5 a,c5 hb,d8 a];exact pNe) | (simp only [c6 a,c5 a,c5 hb,d9 a,c8];exact pNe)) ?_
    try simp only [B8,G9,B9,C1,C3,C5,C0,C2,C4,C6]
    refine c7 (Pu.e (Q9 _ _ _) (Pu.g fun hb=>by obtain ⟨a,b⟩:=a0K hb;first | with_reducible exact m7 | (simp only [c6 a,c5 a,c6 b,c5 b,c5 hb,c8];with_reducible exact m7) | (simp only [c6 a,c5 a,c6 b,c5 b,c5 hb,d6 hb];with_reducible exact m7) | (simp only [c6 a,c5 a,c6 b,c5 b,c5 hb,d7 hb,c8];with_reducible exact m7) | exact m7 | (simp only [c6 a,c5 a,c6 b,c5 b,c5 hb,c8];exact m7) | (simp only [c6 a,c5 a,c6 b,c5 b,c5 hb,d6 hb];exact m7) | (simp only [c6 a,c5 a,c6 b,c5 b,c5 hb,d7 hb,c8];exact m7))) ?_
    refine d4 (Ld.e (Q9 _ _ _) (Ld.g fun hb=>by obtain ⟨a,b⟩:=a0K hb;first | exact (l1 Tryz.isAgg3 I rfl) | (simp only [c6 a,c5 a,c6 b,c5 b,c5 hb,c8];exact (l1 Tryz.isAgg3 I rfl)) | (simp only [c6 a,c5 a,c6 b,c5 b,c5 hb,d6 hb];exact (l1 Tryz.isAgg3 I rfl)) | (simp only [c6 a,c5 a,c6 b,c5 b,c5 hb,d7 hb,c8];exact (l1 Tryz.isAgg3 I rfl)))) ?_
    refine c7 (Pu.e (Q9 _ _ _) (Pu.g fun hb=>by obtain ⟨a,b⟩:=a0K hb;first | with_reducible exact pNe | (simp only [c6 a,c5 a,c6 b,c5 b,c5 hb,c8];with_reducible exact pNe) | (simp only [c6 a,c5 a,c6 b,c5 b,c5 hb,d6 hb];with_reducible exact pNe) | (simp only [c6 a,c5 a,c6 b,c5 b,c5 hb,d7 hb,c8];with_reducible exact pNe) | exact pNe | (simp only [c6 a,c5 a,c6 b,c5 b,c5 hb,c8];exact pNe) | (simp only [c6 a,c5 a,c6 b,c5 b,c5 hb,d6 hb];exact pNe) | (simp only [c6 a,c5 a,c6 b,c5 b,c5 hb,d7 hb,c8];exact pNe))) ?_
    refine c7 (Pu.g fun hb=>by have a:=hb;first | with_reducible exact (p9 _ _) | (simp only [c6 a,c5 a,c5 hb,d8 a];with_reducible exact (p9 _ _)) | (simp only [c6 a,c5 a,c5 hb,d9 a,c8];with_reducible exact (p9 _ _)) | exact (p9 _ _) | (simp only [c6 a,c5 a,c5 hb,d8 a];exact (p9 _ _)) | (simp only [c6 a,c5 a,c5 hb,d9 a,c8];exact (p9 _ _))) ?_
    refine c7 (B4 _ _) ?_
    refine q9 h (fun _ h=>?_) (fun _ h=>?_)
    ·exact hR _ H _ _ I.drop ⟨false,rfl,rfl,h⟩
    ·refine c7 z8 (d4 (ldA Tryz.isAgg38 Tryz.sizeOf38 rfl (I.at1 (o:=6) (vs:=(i7 x0.fA)) (nb rfl) rfl)) ?_)
     refine j6 Tryz.call51 h I ?_
     rintro _ _ _ t d _ _ ⟨p,rfl,rfl,h⟩
     refine c7 (Pu.g fun hb=>by have a:=hb;first | with_reducible exact y4 | (simp only [c6 a,c5 a,c5 hb,d6 a];with_reducible exact y4) | (simp only [c6 a,c5 a,c5 hb,d7 a,c8];with_reducible exact y4) | exact y4 | (simp only [c6 a,c5 a,c5 hb,d6 a];exact y4) | (simp only [c6 a,c5 a,c5 hb,d7 a,c8];exact y4)) ?_
     refine d4 (Ld.g fun hb=>by have a:=hb;first | exact (ldA Tryz.isAgg38 Tryz.sizeOf38 rfl (d.at1 (o:=8) (vs:=(i7 x0.fB)) (nb rfl) rfl)) | (simp only [c6 a,c5 a,c5 hb,d6 a];exact (ldA Tryz.isAgg38 Tryz.sizeOf38 rfl (d.at1 (o:=8) (vs:=(i7 x0.fB)) (nb rfl) rfl))) | (simp only [c6 a,c5 a,c5 hb,d7 a,c8];exact (ldA Tryz.isAgg38 Tryz.sizeOf38 rfl (d.at1 (o:=8) (vs:=(i7 x0.fB)) (nb rfl) rfl)))) ?_
     try simp only [B8,G9,B9,C1,C3,C5,C0,C2,C4,C6]
     try simp only [B8,G9,B9,C1,C3,C5,C0,C2,C4,C6]
     refine R1 [] (fun f:Bool=>(vB f)) h d (fun l h=>?_) fun f j q k m n h=>?_
     ·have a:=l
      try simp only [c6 a,c5 a,c5 l]
      refine j6 Tryz.call51 h d ?_
      rintro _ j _ q k n m ⟨f,rfl,rfl,h⟩
      exact ⟨f,j,rfl,k,m,n,h⟩
     refine c7 (p9 _ _) ?_
     exact hR _ j _ _ k.drop ⟨(p&&f),rfl,rfl,h⟩
 refine s8 fun j1 hx1=>?_
 refine c7 u6 (d4 (l1 Tryz.isAgg3 i rfl) ?_)
 have hj2:∀(b0Z:Bool) H w (_:Inv w0 ps0 H0 H [bx c 40 (i5 x0)] w) (_:M0 x1 x2 false false false x0.f3 b0Z x0 H K),b8M (vi x1) (vi x2) (Value.pointer (some ⟨c,0,none⟩)) (vB false) (vB false) (vB false) (vi x0.f3) (vB b0Z) w j1 R E:=by
  intro b0Z H w I h
  unfold b8M
  intro _
  unfold M0 at h
  refine q9 h (fun _ h=>?_) (fun _ h=>?_)
  ·exact hx1 _ _ (hj1 false false false H _ I h)
  ·have hj3:∀(b2b:Bool) H w (_:Inv w0 ps0 H0 H [bx c 40 (i5 x0)] w) (_:O9 x1 x2 false false false x0.f3 b2b x0 H K),b8L (vi x1) (vi x2) (Value.pointer (some ⟨c,0,none⟩)) (vB false) (vB false) (vB false) (vi x0.f3) (vB b2b) w j1 R E:=by
    intro b2b H w I h
    unfold b8L
    intro _
    unfold O9 at h
    refine q9 h (fun _ h=>?_) (fun _ h=>?_)
    ·exact hx1 _ _ (hj1 true true false H _ I h)
    ·have hj4:∀(b3I:Bool) H w (_:Inv w0 ps0 H0 H [bx c 40 (i5 x0)] w) (_:J1 x1 x2 false false false x0.f3 b3I x0 H K),b8K (vi x1) (vi x2) (Value.pointer (some ⟨c,0,none⟩)) (vB false) (vB false) (vB false) (vi x0.f3) (vB b3I) w j1 R E:=by
      intro b3I H w I h
      unfold b8K
      intro _
      unfold J1 at h
      refine q9 h (fun _ h=>?_) (fun _ h=>?_)
      ·exact hx1 _ _ (hj1 true true true H _ I h)
      ·refine c7 pEq ?_
       refine g9 h (fun _ h=>?_) (fun _ h=>?_)
       ·exact hx1 _ _ (hj1 true false false H _ I h)
       ·refine c7 pEq ?_
        refine g9 h (fun _ h=>?_) (fun _ h=>?_)
        ·exact hx1 _ _ (hj1 true true false H _ I h)
        ·have hj5:∀(b3H:Bool) H w (_:Inv w0 ps0 H0 H [bx c 40 (i5 x0)] w) (_:O8 x1 x2 false b3H x0 H K),b8J (vi x1) (vi x2) (Value.pointer (some ⟨c,0,none⟩)) (vB false) (vB b3H) w j1 R E:=by
          intro b3H H w I h
          unfold b8J
          intro _
          unfold O8 at h
          refine q9 h (fun _ h=>?_) (fun _ h=>?_)
          ·exact hx1 _ _ (hj1 false true true H _ I h)
          ·exact hR _ H _ _ I.drop ⟨false,rfl,rfl,h⟩
         refine s8 fun j5 hx5=>?_
         refine c7 pEq ?_
         refine g9 h (fun _ h=>?_) (fun _ h=>?_)
         ·exact hx5 _ _ (hj5 (decide (x0.f3=11)) H _ I h)
         ·refine c7 pEq ?_
          exact hx5 _ _ (hj5 (decide (x0.f3=12)) H _ I h)
     refine s8 fun j4 hx4=>?_
     refine c7 pEq ?_
     refine g9 h (fun _ h=>?_) (fun _ h=>?_)
     ·exact hx4 _ _ (hj4 (decide (x0.f3=4)) H _ I h)
     ·refine c7 pEq ?_
      refine g9 h (fun _ h=>?_) (fun _ h=>?_)
      ·exact hx4 _ _ (hj4 (decide (x0.f3=5)) H _ I h)
      ·refine c7 pEq ?_
       refine g9 h (fun _ h=>?_) (fun _ h=>?_)
       ·exact hx4 _ _ (hj4 (decide (x0.f3=6)) H _ I h)
       ·refine c7 pEq ?_
        refine g9 h (fun _ h=>?_) (fun _ h=>?_)
        ·exact hx4 _ _ (hj4 (decide (x0.f3=7)) H _ I h)
        ·refine c7 pEq ?_
         exact hx4 _ _ (hj4 (decide (x0.f3=8)) H _ I h)
   refine s8 fun j3 hx3=>?_
   refine c7 pEq ?_
   refine g9 h (fun _ h=>?_) (fun _ h=>?_)
   ·exact hx3 _ _ (hj3 (decide (x0.f3=2)) H _ I h)
   ·refine c7 pEq ?_
    exact hx3 _ _ (hj3 (decide (x0.f3=3)) H _ I h)
 refine s8 fun j2 hx2=>?_
 refine c7 pEq ?_
 refine g9 h (fun _ h=>?_) (fun _ h=>?_)
 ·exact hx2 _ _ (hj2 (decide (x0.f3=1)) H _ i h)
 ·refine c7 pEq ?_
  refine g9 h (fun _ h=>?_) (fun _ h=>?_)
  ·exact hx2 _ _ (hj2 (decide (x0.f3=13)) H _ i h)
  ·refine c7 pEq ?_
   exact hx2 _ _ (hj2 (decide (x0.f3=14)) H _ i h)
def a0P(c4R:Sl)(c4S:Int)(c9X:Sl)(c1g:f7)(a5e:Int)(a6g:(List Bool))(H:Hp)(n1:(Int×(List Bool))→Hp→Prop)(K:Sl→(List Bool)→Hp→Prop):Prop:=
 (a5e < c4S→
 (0:Int)≤a5e∧(a5e:Int) < c4R.n∧∃a:Int,EltH H c4R a5e 1 [(vi a)]∧
 (0:Int)≤a∧(a:Int) < c1g.p5.n∧∃b:d5,EltH H c1g.p5 a 10 (i5 b)∧
 a1M b.fTo (Sl.mk none 0 0) a6g c9X c1g H (fun d y0__85 c=>
 n1 ((IntKind.wrap .i64 (a5e+1)),y0__85) c))∧
 (¬(a5e < c4S)→
 K (Sl.mk none 0 0) a6g H)
def a1N(x0:Int)(x1:Sl)(x1_:(List Bool))(x2:Sl)(x4:f7)(H:Hp)(K:Sl→(List Bool)→Hp→Prop):Prop:=
 (0:Int)≤x0∧∃a:Bool,(x1_)[(x0:Int).toNat]? = some a∧
 (a=true→
 K (Sl.mk none 0 0) x1_ H)∧
 (a=false→
 (0:Int)≤x0∧∃c:Bool,(x1_)[(x0:Int).toNat]? = some c∧
 (0:Int)≤x0∧(x0:Int) < x2.n∧∃b:Sl,EltH H x2 x0 1 [(vs b)]∧
 TL ((0,(x1_.set (x0:Int).toNat true)):Int×(List Bool)) H fun(s:Int×(List Bool)) H n1=>a0P b (b.n:Int) x2 x4 s.1 s.2 H n1 K)
theorem a7x(x0 x1 x1_ x2 x4){H K}(h:a1N x0 x1 x1_ x2 x4 H K):a1M x0 x1 x1_ x2 x4 H K:=by
 intro g1 g2 g3 g4 sx1_ Fx1_ hx1_
 refine Ct.of fun w0 w ps0 H0 R E I hR=>c7L ?_
 unfold a1N at h
 unfold F37
 refine d4 (l1 Tryz.isAgg47 I rfl) ?_
 obtain ⟨r,z,e,h⟩:=h
 obtain ⟨au,av,t,aw⟩:=hx1_.addr e
 refine c7 (a0y t _ _ _ _ r (hx1_.lt r e)) (d4 (ld1 (v:=(vB z)) Tryz.isAgg4 (hx1_.atW (I.bring 1) t e)) ?_)
 refine q9 h (fun _ h=>?_) (fun _ h=>?_)
 ·exact hR _ H _ _ (((((I.bring 4).bring 4).bring 4).bring 4).bring 4) ⟨(Sl.mk none 0 0),x1_,sx1_,Fx1_,rfl,rfl,hx1_,h⟩
 ·refine d4 (l1 Tryz.isAgg47 I rfl) ?_
  obtain ⟨u,ax,f,h⟩:=h
  obtain ⟨ay,az,y,ba⟩:=hx1_.addr f
  refine c7 (a0y y _ _ _ _ u (hx1_.lt u f)) ?_
  refine a2o (x:=true) (I.bring 1) hx1_ y (List.getElem?_eq_some_iff.1 f).1 Tryz.sizeOf4 rfl fun aa bb ab g bc=>?_
  refine d4 (l1 Tryz.isAgg83 (g.bring 2) rfl) ?_
  obtain ⟨ac,ad,i,j,h⟩:=h
  obtain ⟨bd,be,ae,j⟩:=j
  refine c7 (a2L ae _ _ _ _ ac ad) (d4 (ld1 (v:=(vs i)) Tryz.isAgg44 (g.atH j)) (c7 (D3 _ _ _) ?_))
  obtain ⟨m,c,af,ag⟩:=h
  refine I0 (J:=fun n l w=>∃(s:Int×(List Bool))(H:Hp)(b3e:Sl)(Fcp1l1:Frag),n=c s∧l=(match s with | (a5e,a6g)=>[(vi a5e)])∧(match s with | (a5e,a6g)=>RowL 4 1 L8 b3e a6g Fcp1l1)∧(match s with | (a5e,a6g)=>Inv w0 ps0 H0 H [bx g1 47 [(vs b3e)],bx g2 83 [(vs x2)],bx g3 87 [(Value.func (.func 37) #[] #[(Value.pointer (some ⟨g1,0,none⟩)),(Value.pointer (some ⟨g2,0,none⟩)),(Value.pointer (some ⟨g3,0,none⟩)),(Value.pointer (some ⟨g4,0,none⟩))])],bx g4 30 (g8 x4),Fcp1l1] w)∧m s H) ⟨_,(0,(x1_.set (x0:Int).toNat true)),H,sx1_,aa,rfl,rfl,ab,((((g.bring 4).bring 4).bring 4).bring 4),af⟩ ?_
  rintro bf bg w next1 ⟨⟨a5e,a6g⟩,H,b3e,Fcp1l1,rfl,o,b9l,I,ah⟩ hn1
  dsimp only at o I b9l
  simp only [List.map_cons,List.map_nil,List.cons.injEq,and_true] at o
  have e20:=o
  simp only [e20]
  obtain ⟨n1,hm1,h⟩:∃n1:(Int×(List Bool))→Hp→Prop,(∀s' H',n1 s' H'→m s' H'∧c s' < c (a5e,a6g))∧a0P i (i.n:Int) x2 x4 a5e a6g H n1 K:=⟨_,fun _ _ h=>h,ag (a5e,a6g) H (fun s' H'=>m s' H'∧c s' < c (a5e,a6g)) ah (fun _ _ a b=>⟨a,b⟩)⟩
  unfold c2C
  unfold a0P at h
  refine c7 pLs ?_
  refine g9 h (fun _ h=>?_) (fun _ h=>?_)
  ·obtain ⟨ai,aj,ak,p,h⟩:=h
   obtain ⟨bh,bi,al,p⟩:=p
   refine c7 (J4 al _ _ _ _ ai aj) (d4 (ld1 (v:=(vi ak)) Tryz.isAgg3 (I.atH p)) ?_)
   refine N5 I fun bj d=>?_
   refine f8 o5 ?_
   refine o3 (l1 Tryz.isAgg87 (d.bring 2) rfl) ?_
   refine o3 (l1 Tryz.isAgg28 (d.bring 3) rfl) ?_
   obtain ⟨am,an,ao,q,h⟩:=h
   obtain ⟨bk,bl,ap,q⟩:=q
   refine f8 (M9 ap _ _ _ _ am an) ?_
   refine f8 D8 ?_
   refine o3 (ld1 (v:=(vi ao.fTo)) Tryz.isAgg3 ((d.atH q).sub (k:=1) (n:=1) (nb rfl))) ?_
   refine a5p (cap:=[(Value.pointer (some ⟨g1,0,none⟩)),(Value.pointer (some ⟨g2,0,none⟩)),(Value.pointer (some ⟨g3,0,none⟩)),(Value.pointer (some ⟨g4,0,none⟩))]) Tryz.call37 (h g1 g2 g3 g4 b3e Fcp1l1 b9l) (((((d.bring 3).bring 3).bring 3).bring 4).bring 4) ?_
   rintro _ aq _ bm ar _ _ ⟨bn,y0__85,sy0__85,Fy0__85,rfl,rfl,hy0__85,h⟩
   refine c7 pAd ?_
   exact hn1 _ _ _ (hm1 _ _ h).2 ⟨((IntKind.wrap .i64 (a5e+1)),y0__85),aq,sy0__85,Fy0__85,rfl,rfl,hy0__85,(((((ar.bring 1).bring 4).bring 4).bring 4).bring 4),(hm1 _ _ h).1⟩
  ·exact hR _ H _ _ (((((I.bring 3).bring 3).bring 3).bring 4).bring 4) ⟨(Sl.mk none 0 0),a6g,b3e,Fcp1l1,rfl,rfl,b9l,h⟩
def a5I(x0:f7)(H:Hp)(K:Sl→Int→Hp→Prop):Prop:=
 S4 x0 H (fun a d=>
 (¬(a=0)→
 K (Sl.mk none 0 0) a d)∧
 (a=0→
 a3h x0 d (fun e f=>
 (0:Int)≤x0.d3∧x0.d3*2≤140737488355328∧
 a1M 0 (Sl.mk none 0 0) (List.replicate (x0.d3:Int).toNat false) e x0 f (fun i y0__65 g=>
 ∀(sy0__65:Sl)(b:Hp),Hle g b→SlH b 1 L8 sy0__65 y0__65→sy0__65.n≤sy0__65.c→
 K sy0__65 0 b))))
theorem b2c(x0){H K}(h:a5I x0 H K):a3o x0 H K:=by
 refine Ct.of fun w0 w ps0 H0 R E I hR=>c7s ?_
 unfold a5I at h
 unfold F12
 refine D6 I (cs:=(g8 x0)) rfl fun a af f ag=>?_
 refine d4 (lW Tryz.isAgg30 Tryz.sizeOf30 rfl f) ?_
 refine j6 Tryz.call15 h f ?_
 rintro _ m _ ah b _ _ ⟨n,rfl,rfl,h⟩
 refine c7 pNe ?_
 refine a0e h (fun _ h=>?_) (fun _ h=>?_)
 ·exact hR _ m _ _ b.drop ⟨(Sl.mk none 0 0),n,rfl,rfl,h⟩
 ·refine d4 (lW Tryz.isAgg30 Tryz.sizeOf30 rfl b) ?_
  refine j6 Tryz.call36 h b ?_
  rintro _ _ _ ai o _ _ ⟨p,rfl,rfl,h⟩
  refine y3 o Tryz.zeroValue83 (cs:=[(nS)]) rfl fun c aj q ak=>?_
  refine A6 q Tryz.sizeOf83 (vs:=[(vs p)]) fun al g am=>?_
  refine c7 j9 (d4 (l1 Tryz.isAgg3 (g.bring 1) rfl) ?_)
  obtain ⟨r,s,h⟩:=h
  refine b1u g r s fun i t an u v ao=>?_
  refine y3 v Tryz.zeroValue47 (cs:=[(nS)]) rfl fun d ap y aq=>?_
  refine A6 y Tryz.sizeOf47 (vs:=[(vs i)]) fun ar z au=>?_
  refine y3 z Tryz.zeroValue87 (cs:=[Value.nilFunc]) rfl fun e av aa aw=>?_
  refine c7 (a6i _ _ _) ?_
  refine A6 aa Tryz.sizeOf87 (vs:=[(Value.func (.func 37) #[] #[(Value.pointer (some ⟨d,0,none⟩)),(Value.pointer (some ⟨c,0,none⟩)),(Value.pointer (some ⟨e,0,none⟩)),(Value.pointer (some ⟨a,0,none⟩))])]) fun ax j ay=>?_
  refine d4 (l1 Tryz.isAgg87 j rfl) ?_
  refine a5p (cap:=[(Value.pointer (some ⟨d,0,none⟩)),(Value.pointer (some ⟨c,0,none⟩)),(Value.pointer (some ⟨e,0,none⟩)),(Value.pointer (some ⟨a,0,none⟩))]) Tryz.call37 (h d c e a i t u) (((((j.bring 4).bring 1).bring 4).bring 4).bring 4) ?_
  rintro _ _ _ az k _ _ ⟨ba,y0__65,sy0__65,Fy0__65,rfl,rfl,hy0__65,h⟩
  refine d4 (l1 Tryz.isAgg47 k rfl) ?_
  obtain ⟨l,ab,ac,ad,ae⟩:=Inv.freezeC (k.bring 1) hy0__65 (by decide)
  replace h:=h sy0__65 l ac ad ae
  exact hR _ l _ _ ab.drop.drop.drop.drop ⟨sy0__65,0,rfl,rfl,h⟩
def a2N(a:f7)(b:f7)(H:Hp)(K:Bool→Hp→Prop):Prop:=
 K true H
def a2O(d:f7)(c:f7)(K3:Int)(H:Hp)(n2:Int→Hp→Prop)(K:Bool→Hp→Prop):Prop:=
 (K3 < (c.p5.n:Int)→
 (0:Int)≤K3∧(K3:Int) < c.p5.n∧∃a:d5,EltH H c.p5 K3 10 (i5 a)∧
 (0:Int)≤K3∧(K3:Int) < d.p5.n∧∃b:d5,EltH H d.p5 K3 10 (i5 b)∧
 (¬(a.s7=b.s7∧a.fTo=b.fTo∧a.f3=b.f3∧a.S3=b.S3∧a.O5=b.O5∧a.fOp=b.fOp∧a.fA.y8=b.fA.y8∧a.fA.u1=b.fA.u1∧a.fB.y8=b.fB.y8∧a.fB.u1=b.fB.u1)→
 K false H)∧
 (a.s7=b.s7∧a.fTo=b.fTo∧a.f3=b.f3∧a.S3=b.S3∧a.O5=b.O5∧a.fOp=b.fOp∧a.fA.y8=b.fA.y8∧a.fA.u1=b.fA.u1∧a.fB.y8=b.fB.y8∧a.fB.u1=b.fB.u1→
 n2 (IntKind.wrap .i64 (K3+1)) H))∧
 (¬(K3 < (c.p5.n:Int))→
 a2N d c H K)
def a4E(x0:f7)(x1:f7)(H:Hp)(K:Bool→Hp→Prop):Prop:=
 a3q x0.t8 x1.t8 H (fun a b=>
 TG (((!a)||(!decide (x0.o9=x1.o9)))=false) (a3r x0.o8 x1.o8 b) false b (fun(c:Bool)(d:Hp)=>
 (((((((!a)||(!decide (x0.o9=x1.o9)))||(!c))||(!decide (x0.d3=x1.d3)))||(!decide (x0.v2=x1.v2)))||(!decide ((x0.p5.n:Int)=(x1.p5.n:Int))))=true→
 K false d)∧
 (((((((!a)||(!decide (x0.o9=x1.o9)))||(!c))||(!decide (x0.d3=x1.d3)))||(!decide (x0.v2=x1.v2)))||(!decide ((x0.p5.n:Int)=(x1.p5.n:Int))))=false→
 TL (0:Int) d fun(s:Int) H n2=>a2O x1 x0 s H n2 K)))
theorem b0P(x0 x1){H K}(h:a4E x0 x1 H K):a1l x0 x1 H K:=by
 refine Ct.of fun w0 w ps0 H0 R E I hR=>c9V ?_
 unfold a4E at h
 unfold F8
 refine D6 I (cs:=(g8 x0)) rfl fun l ad r ae=>?_
 refine D6 r (cs:=(g8 x1)) rfl fun m af f ag=>?_
 refine c7 J7 (d4 (l1 Tryz.isAgg27 (f.bring 1) rfl) (c7 J7 (d4 (l1 Tryz.isAgg27 f rfl) ?_)))
 refine j6 Tryz.call31 h f ?_
 rintro _ _ _ ah c _ _ ⟨ai,rfl,rfl,h⟩
 refine c7 (p8 _) ?_
 refine c7 (Pu.g fun hb=>by have a:=hb;first | with_reducible exact z7 | (simp only [c6 a,c5 a,c5 hb,d8 a];with_reducible exact z7) | (simp only [c6 a,c5 a,c5 hb,d9 a,c8];with_reducible exact z7) | exact z7 | (simp only [c6 a,c5 a,c5 hb,d8 a];exact z7) | (simp only [c6 a,c5 a,c5 hb,d9 a,c8];exact z7)) ?_
 refine d4 (Ld.g fun hb=>by have a:=hb;first | exact (l1 Tryz.isAgg3 (c.bring 1) rfl) | (simp only [c6 a,c5 a,c5 hb,d8 a];exact (l1 Tryz.isAgg3 (c.bring 1) rfl)) | (simp only [c6 a,c5 a,c5 hb,d9 a,c8];exact (l1 Tryz.isAgg3 (c.bring 1) rfl))) ?_
 refine c7 (Pu.g fun hb=>by have a:=hb;first | with_reducible exact z7 | (simp only [c6 a,c5 a,c5 hb,d8 a];with_reducible exact z7) | (simp only [c6 a,c5 a,c5 hb,d9 a,c8];with_reducible exact z7) | exact z7 | (simp only [c6 a,c5 a,c5 hb,d8 a];exact z7) | (simp only [c6 a,c5 a,c5 hb,d9 a,c8];exact z7)) ?_
 refine d4 (Ld.g fun hb=>by have a:=hb;first | exact (l1 Tryz.isAgg3 c rfl) | (simp only [c6 a,c5 a,c5 hb,d8 a];exact (l1 Tryz.isAgg3 c rfl)) | (simp only [c6 a,c5 a,c5 hb,d9 a,c8];exact (l1 Tryz.isAgg3 c rfl))) ?_
 refine c7 (Pu.g fun hb=>by have a:=hb;first | with_reducible exact pNe | (simp only [c6 a,c5 a,c5 hb,d8 a];with_reducible exact pNe) | (simp only [c6 a,c5 a,c5 hb,d9 a,c8];with_reducible exact pNe) | exact pNe | (simp only [c6 a,c5 a,c5 hb,d8 a];exact pNe) | (simp only [c6 a,c5 a,c5 hb,d9 a,c8];exact pNe)) ?_
 refine c7 (B4 _ _) ?_
 refine c7 (Pu.g fun hb=>by have a:=hb;first | with_reducible exact A9 | (simp only [c6 a,c5 a,c5 hb,d8 a];with_reducible exact A9) | (simp only [c6 a,c5 a,c5 hb,d9 a,c8];with_reducible exact A9) | exact A9 | (simp only [c6 a,c5 a,c5 hb,d8 a];exact A9) | (simp only [c6 a,c5 a,c5 hb,d9 a,c8];exact A9)) ?_
 refine d4 (Ld.g fun hb=>by have a:=hb;first | exact (l1 Tryz.isAgg22 (c.bring 1) rfl) | (simp only [c6 a,c5 a,c5 hb,d8 a];exact (l1 Tryz.isAgg22 (c.bring 1) rfl)) | (simp only [c6 a,c5 a,c5 hb,d9 a,c8];exact (l1 Tryz.isAgg22 (c.bring 1) rfl))) ?_
 refine c7 (Pu.g fun hb=>by have a:=hb;first | with_reducible exact A9 | (simp only [c6 a,c5 a,c5 hb,d8 a];with_reducible exact A9) | (simp only [c6 a,c5 a,c5 hb,d9 a,c8];with_reducible exact A9) | exact A9 | (simp only [c6 a,c5 a,c5 hb,d8 a];exact A9) | (simp only [c6 a,c5 a,c5 hb,d9 a,c8];exact A9)) ?_
 refine d4 (Ld.g fun hb=>by have a:=hb;first | exact (l1 Tryz.isAgg22 c rfl) | (simp only [c6 a,c5 a,c5 hb,d8 a];exact (l1 Tryz.isAgg22 c rfl)) | (simp only [c6 a,c5 a,c5 hb,d9 a,c8];exact (l1 Tryz.isAgg22 c rfl))) ?_
 refine R1 [] (fun e:Bool=>(vB e)) h c (fun n h=>?_) fun e i s b o p h=>?_
 ·have a:=n
  try simp only [c6 a,c5 a,c5 n]
  refine j6 Tryz.call32 h c ?_
  rintro _ i _ s b p o ⟨e,rfl,rfl,h⟩
  exact ⟨e,i,rfl,b,o,p,h⟩
 refine c7 (Pu.g fun hb=>by have a:=hb;first | with_reducible exact (p8 _) | (simp only [c6 a,c5 a,c5 hb,d8 a];with_reducible exact (p8 _)) | (simp only [c6 a,c5 a,c5 hb,d9 a,c8];with_reducible exact (p8 _)) | exact (p8 _) | (simp only [c6 a,c5 a,c5 hb,d8 a];exact (p8 _)) | (simp only [c6 a,c5 a,c5 hb,d9 a,c8];exact (p8 _))) ?_
 refine c7 (B4 _ _) ?_
 refine c7 (Pu.g fun hb=>by have a:=hb;first | with_reducible exact j9 | (simp only [c6 a,c5 a,c5 hb,d8 a];with_reducible exact j9) | (simp only [c6 a,c5 a,c5 hb,d9 a,c8];with_reducible exact j9) | exact j9 | (simp only [c6 a,c5 a,c5 hb,d8 a];exact j9) | (simp only [c6 a,c5 a,c5 hb,d9 a,c8];exact j9)) ?_
 refine d4 (Ld.g fun hb=>by have a:=hb;first | exact (l1 Tryz.isAgg3 (b.bring 1) rfl) | (simp only [c6 a,c5 a,c5 hb,d8 a];exact (l1 Tryz.isAgg3 (b.bring 1) rfl)) | (simp only [c6 a,c5 a,c5 hb,d9 a,c8];exact (l1 Tryz.isAgg3 (b.bring 1) rfl))) ?_
 refine c7 (Pu.g fun hb=>by have a:=hb;first | with_reducible exact j9 | (simp only [c6 a,c5 a,c5 hb,d8 a];with_reducible exact j9) | (simp only [c6 a,c5 a,c5 hb,d9 a,c8];with_reducible exact j9) | exact j9 | (simp only [c6 a,c5 a,c5 hb,d8 a];exact j9) | (simp only [c6 a,c5 a,c5 hb,d9 a,c8];exact j9)) ?_
 refine d4 (Ld.g fun hb=>by have a:=hb;first | exact (l1 Tryz.isAgg3 b rfl) | (simp only [c6 a,c5 a,c5 hb,d8 a];exact (l1 Tryz.isAgg3 b rfl)) | (simp only [c6 a,c5 a,c5 hb,d9 a,c8];exact (l1 Tryz.isAgg3 b rfl))) ?_
 refine c7 (Pu.g fun hb=>by have a:=hb;first | with_reducible exact pNe | (simp only [c6 a,c5 a,c5 hb,d8 a];with_reducible exact pNe) | (simp only [c6 a,c5 a,c5 hb,d9 a,c8];with_reducible exact pNe) | exact pNe | (simp only [c6 a,c5 a,c5 hb,d8 a];exact pNe) | (simp only [c6 a,c5 a,c5 hb,d9 a,c8];exact pNe)) ?_
 refine c7 (B4 _ _) ?_
 refine c7 (Pu.g fun hb=>by have a:=hb;first | with_reducible exact v8 | (simp only [c6 a,c5 a,c5 hb,d8 a];with_reducible exact v8) | (simp only [c6 a,c5 a,c5 hb,d9 a,c8];with_reducible exact v8) | exact v8 | (simp only [c6 a,c5 a,c5 hb,d8 a];exact v8) | (simp only [c6 a,c5 a,c5 hb,d9 a,c8];exact v8)) ?_
 refine d4 (Ld.g fun hb=>by have a:=hb;first | exact (l1 Tryz.isAgg3 (b.bring 1) rfl) | (simp only [c6 a,c5 a,c5 hb,d8 a];exact (l1 Tryz.isAgg3 (b.bring 1) rfl)) | (simp only [c6 a,c5 a,c5 hb,d9 a,c8];exact (l1 Tryz.isAgg3 (b.bring 1) rfl))) ?_
 refine c7 (Pu.g fun hb=>by have a:=hb;first | with_reducible exact v8 | (simp only [c6 a,c5 a,c5 hb,d8 a];with_reducible exact v8) | (simp only [c6 a,c5 a,c5 hb,d9 a,c8];with_reducible exact v8) | exact v8 | (simp only [c6 a,c5 a,c5 hb,d8 a];exact v8) | (simp only [c6 a,c5 a,c5 hb,d9 a,c8];exact v8)) ?_
 refine d4 (Ld.g fun hb=>by have a:=hb;first | exact (l1 Tryz.isAgg3 b rfl) | (simp only [c6 a,c5 a,c5 hb,d8 a];exact (l1 Tryz.isAgg3 b rfl)) | (simp only [c6 a,c5 a,c5 hb,d9 a,c8];exact (l1 Tryz.isAgg3 b rfl))) ?_
 refine c7 (Pu.g fun hb=>by have a:=hb;first | with_reducible exact pNe | (simp only [c6 a,c5 a,c5 hb,d8 a];with_reducible exact pNe) | (simp only [c6 a,c5 a,c5 hb,d9 a,c8];with_reducible exact pNe) | exact pNe | (simp only [c6 a,c5 a,c5 hb,d8 a];exact pNe) | (simp only [c6 a,c5 a,c5 hb,d9 a,c8];exact pNe)) ?_
 refine c7 (B4 _ _) ?_
 refine c7 (Pu.g fun hb=>by have a:=hb;first | with_reducible exact o5 | (simp only [c6 a,c5 a,c5 hb,d8 a];with_reducible exact o5) | (simp only [c6 a,c5 a,c5 hb,d9 a,c8];with_reducible exact o5) | exact o5 | (simp only [c6 a,c5 a,c5 hb,d8 a];exact o5) | (simp only [c6 a,c5 a,c5 hb,d9 a,c8];exact o5)) ?_
 refine d4 (Ld.g fun hb=>by have a:=hb;first | exact (l1 Tryz.isAgg28 (b.bring 1) rfl) | (simp only [c6 a,c5 a,c5 hb,d8 a];exact (l1 Tryz.isAgg28 (b.bring 1) rfl)) | (simp only [c6 a,c5 a,c5 hb,d9 a,c8];exact (l1 Tryz.isAgg28 (b.bring 1) rfl))) ?_
 refine c7 (Pu.g fun hb=>by have a:=hb;first | with_reducible exact (B6 _ _ _) | (simp only [c6 a,c5 a,c5 hb,d8 a];with_reducible exact (B6 _ _ _)) | (simp only [c6 a,c5 a,c5 hb,d9 a,c8];with_reducible exact (B6 _ _ _)) | exact (B6 _ _ _) | (simp only [c6 a,c5 a,c5 hb,d8 a];exact (B6 _ _ _)) | (simp only [c6 a,c5 a,c5 hb,d9 a,c8];exact (B6 _ _ _))) ?_
 refine c7 (Pu.g fun hb=>by have a:=hb;first | with_reducible exact o5 | (simp only [c6 a,c5 a,c5 hb,d8 a];with_reducible exact o5) | (simp only [c6 a,c5 a,c5 hb,d9 a,c8];with_reducible exact o5) | exact o5 | (simp only [c6 a,c5 a,c5 hb,d8 a];exact o5) | (simp only [c6 a,c5 a,c5 hb,d9 a,c8];exact o5)) ?_
 refine d4 (Ld.g fun hb=>by have a:=hb;first | exact (l1 Tryz.isAgg28 b rfl) | (simp only [c6 a,c5 a,c5 hb,d8 a];exact (l1 Tryz.isAgg28 b rfl)) | (simp only [c6 a,c5 a,c5 hb,d9 a,c8];exact (l1 Tryz.isAgg28 b rfl))) ?_
 refine c7 (Pu.g fun hb=>by have a:=hb;first | with_reducible exact (B6 _ _ _) | (simp only [c6 a,c5 a,c5 hb,d8 a];with_reducible exact (B6 _ _ _)) | (simp only [c6 a,c5 a,c5 hb,d9 a,c8];with_reducible exact (B6 _ _ _)) | exact (B6 _ _ _) | (simp only [c6 a,c5 a,c5 hb,d8 a];exact (B6 _ _ _)) | (simp only [c6 a,c5 a,c5 hb,d9 a,c8];exact (B6 _ _ _))) ?_
 refine c7 (Pu.g fun hb=>by have a:=hb;first | with_reducible exact pNe | (simp only [c6 a,c5 a,c5 hb,d8 a];with_reducible exact pNe) | (simp only [c6 a,c5 a,c5 hb,d9 a,c8];with_reducible exact pNe) | exact pNe | (simp only [c6 a,c5 a,c5 hb,d8 a];exact pNe) | (simp only [c6 a,c5 a,c5 hb,d9 a,c8];exact pNe)) ?_
 refine c7 (B4 _ _) ?_
 refine q9 h (fun _ h=>?_) (fun _ h=>?_)
 ·exact hR _ i _ _ b.drop.drop ⟨false,rfl,rfl,h⟩
 ·have hj1:∀H w (_:Inv w0 ps0 H0 H [bx m 30 (g8 x1),bx l 30 (g8 x0)] w) (_:a2N x1 x0 H K),c1c w R E:=by
   intro H w I h
   unfold c1c
   intro _
   unfold a2N at h
   exact hR _ H _ _ I.drop.drop ⟨true,rfl,rfl,h⟩
  refine s8 fun j1 hx1=>?_
  refine a0V (σ:=Int) (fun K3=>[(vi K3)]) (fun K3=>[bx m 30 (g8 x1),bx l 30 (g8 x0)]) h rfl ((b.bring 1).bring 1) ?_
  rintro K3 H aj w next2 n2 q I h hn2
  simp only [List.map_cons,List.map_nil,List.cons.injEq,and_true] at q
  have e5:=q
  simp only [e5]
  unfold c4N
  unfold a2O at h
  refine c7 o5 (d4 (l1 Tryz.isAgg28 (I.bring 1) rfl) (c7 (B6 _ _ _) (c7 pLs ?_)))
  refine g9 h (fun _ h=>?_) (fun _ h=>?_)
  ·refine N5 I fun ak d=>?_
   refine f8 o5 ?_
   refine f8 o5 ?_
   refine o3 (l1 Tryz.isAgg28 (d.bring 1) rfl) ?_
   obtain ⟨t,u,v,j,h⟩:=h
   obtain ⟨al,am,y,j⟩:=j
   refine f8 (M9 y _ _ _ _ t u) ?_
   refine o3 (ldA (vs:=(i5 v)) Tryz.isAgg40 Tryz.sizeOf40 rfl (d.atH j)) ?_
   refine o3 (l1 Tryz.isAgg28 d rfl) ?_
   obtain ⟨z,aa,ab,k,h⟩:=h
   obtain ⟨an,ao,ac,k⟩:=k
   refine f8 (M9 ac _ _ _ _ z aa) ?_
   refine o3 (ldA (vs:=(i5 ab)) Tryz.isAgg40 Tryz.sizeOf40 rfl (d.atH k)) ?_
   refine f8 (c3H _ _ _ _ _ _ _ _ _ _ _ _ _ _ _ _ _ _ _ _ _ _) ?_
   refine a0e h (fun _ h=>?_) (fun _ h=>?_)
   ·exact hR _ H _ _ d.drop.drop ⟨false,rfl,rfl,h⟩
   ·refine c7 pAd ?_
    exact hn2 (IntKind.wrap .i64 (K3+1)) _ _ h ((d.bring 1).bring 1)
  ·exact hx1 _ _ (hj1 H _ ((I.bring 1).bring 1) h)
def P9(b3d:Int)(b3J:(List Int))(d1u:Int)(a:f7)(H:Hp)(n2:((List Int)×Int)→Hp→Prop)(K:Sl→Hp→Prop):Prop:=
 n2 (b3J,(IntKind.wrap .i64 (d1u+1))) H
def a0u(P4:(List Int))(b:f7)(H:Hp)(K:Sl→Hp→Prop):Prop:=
 ∀(J2:Sl)(a:Hp),Hle H a→SlH a 1 r9 J2 P4→J2.n≤J2.c→
 K J2 a
def a0v(a2d:Int)(a:f7)(A5:(List Int))(a4f:Int)(H:Hp)(n2:((List Int)×Int)→Hp→Prop)(K:Sl→Hp→Prop):Prop:=
 (a4f < (a.p5.n:Int)→
 (0:Int)≤a4f∧(a4f:Int) < a.p5.n∧∃b:d5,EltH H a.p5 a4f 10 (i5 b)∧
 (b.s7=a2d→
 (A5.length+([a4f]:List Int).length)*9≤140737488355328∧
 P9 a2d (A5++[a4f]) a4f a H n2 K)∧
 (¬(b.s7=a2d)→
 P9 a2d A5 a4f a H n2 K))∧
 (¬(a4f < (a.p5.n:Int))→
 a0u A5 a H K)
def a4F(x0:f7)(x1:Int)(H:Hp)(K:Sl→Hp→Prop):Prop:=
 TL (([],0):(List Int)×Int) H fun(s:(List Int)×Int) H n2=>a0v x1 x0 s.1 s.2 H n2 K
theorem b0Q(x0 x1){H K}(h:a4F x0 x1 H K):a1m x0 x1 H K:=by
 refine Ct.of fun w0 w ps0 H0 R E I hR=>c7x ?_
 unfold a4F at h
 unfold F17
 refine D6 I (cs:=(g8 x0)) rfl fun f al p am=>?_
 have hj1:∀(P4:(List Int))(J2:Sl)(Fs5j1:Frag) H w (_:RowL 3 1 r9 J2 P4 Fs5j1) (_:Inv w0 ps0 H0 H [bx f 30 (g8 x0),Fs5j1] w) (_:a0u P4 x0 H K),b8u (vs J2) w R E:=by
  intro P4 J2 Fs5j1 H w a5f I h
  unfold b8u
  intro _
  unfold a0u at h
  obtain ⟨m,q,r,t,u⟩:=Inv.freezeC (I.bring 1) a5f (by decide)
  replace h:=h J2 m r t u
  exact hR _ m _ _ q.drop ⟨J2,rfl,rfl,h⟩
 refine s8 fun j1 hx1=>?_
 obtain ⟨g,d,y,z⟩:=h
 refine I0 (J:=fun n l w=>∃(s:(List Int)×Int)(H:Hp)(T9:Sl)(Fs5l2:Frag),n=d s∧l=(match s with | (A5,a4f)=>[(vs T9),(vi a4f)])∧(match s with | (A5,a4f)=>RowL 3 1 r9 T9 A5 Fs5l2)∧(match s with | (A5,a4f)=>Inv w0 ps0 H0 H [bx f 30 (g8 x0),Fs5l2] w)∧g s H) ⟨_,([],0),H,(Sl.mk none 0 0),[],rfl,rfl,(RowL.nil N0 N1),(p.nil.bring 1),y⟩ ?_
 rintro an ao w next2 ⟨⟨A5,a4f⟩,H,T9,Fs5l2,rfl,i,a2r,I,aa⟩ hn2
 dsimp only at i I a2r
 simp only [List.map_cons,List.map_nil,List.cons.injEq,and_true] at i
 obtain ⟨e5,e6⟩:=i
 simp only [e5,e6]
 obtain ⟨n2,hm2,h⟩:∃n2:((List Int)×Int)→Hp→Prop,(∀s' H',n2 s' H'→g s' H'∧d s' < d (A5,a4f))∧a0v x1 x0 A5 a4f H n2 K:=⟨_,fun _ _ h=>h,z (A5,a4f) H (fun s' H'=>g s' H'∧d s' < d (A5,a4f)) aa (fun _ _ a b=>⟨a,b⟩)⟩
 unfold c2q
 unfold a0v at h
 refine c7 o5 (d4 (l1 Tryz.isAgg28 I rfl) (c7 (B6 _ _ _) (c7 pLs ?_)))
 refine g9 h (fun _ h=>?_) (fun _ h=>?_)
 ·have hj3:∀(b3J:(List Int))(b7q:Sl)(Fs5j3:Frag) H w (_:RowL 3 1 r9 b7q b3J Fs5j3) (_:Inv w0 ps0 H0 H [bx f 30 (g8 x0),Fs5j3] w) (_:P9 x1 b3J a4f x0 H n2 K),b8v (vi x1) (Value.pointer (some ⟨f,0,none⟩)) (vs b7q) (vi a4f) w next2 R E:=by
   intro b3J b7q Fs5j3 H w c9Y I h
   unfold b8v
   intro _
   unfold P9 at h
   refine c7 pAd ?_
   exact hn2 _ _ _ (hm2 _ _ h).2 ⟨(b3J,(IntKind.wrap .i64 (a4f+1))),H,b7q,Fs5j3,rfl,rfl,c9Y,((I.bring 1).bring 1),(hm2 _ _ h).1⟩
  refine s8 fun j3 hx3=>?_
  refine c7 o5 (d4 (l1 Tryz.isAgg28 I rfl) ?_)
  obtain ⟨ab,ac,ad,j,h⟩:=h
  obtain ⟨ap,aq,ae,j⟩:=j
  refine c7 (M9 ae _ _ _ _ ab ac) (c7 A7 (d4 (ld1 (v:=(vi ad.s7)) Tryz.isAgg3 ((I.atH j).sub (k:=0) (n:=1) (nb rfl))) (c7 pEq ?_)))
  refine g9 h (fun _ h=>?_) (fun _ h=>?_)
  ·refine a0x (e:=3) (c:=r9) (xs:=[a4f]) I (a2p _) rfl rfl N0 N1 (nb rfl) fun ar au av af o aw=>?_
   obtain ⟨ag,h⟩:=h
   refine a5s (s:=T9) (xs:=A5) (o.bring 2) a2r (af.srcO ((o.bring 2).bring 1)) ag fun ah ai ax aj ak ay=>?_
   exact hx3 _ _ (hj3 (A5++[a4f]) ah ai H _ aj ((ak.bring 1).drop.bring 1) h)
  ·exact hx3 _ _ (hj3 A5 T9 Fs5l2 H _ a2r ((I.bring 1).bring 1) h)
 ·exact hx1 _ _ (hj1 A5 T9 Fs5l2 H _ a2r ((I.bring 1).bring 1) h)
def a2P(x0:i4)(a:(List d5))(H:Hp)(K:Int→i4→(List d5)→Hp→Prop):Prop:=
 K (IntKind.wrap .i64 ((IntKind.wrap .i64 (x0.fc.d3+1))-1)) (i4.mk (f7.mk x0.fc.t8 x0.fc.o9 x0.fc.o8 (IntKind.wrap .i64 (x0.fc.d3+1)) x0.fc.v2 (Sl.mk none 0 0)) x0.fvars x0.farrays) a H
theorem a9o(x0 a){H K}(h:a2P x0 a H K):G8 x0 a H K:=by
 intro g0 c d e
 refine Ct.of fun w0 w ps0 H0 R E I hR=>c7D ?_
 unfold a2P at h
 unfold F23
 refine c7 (y6 _) (c7 R3 (c7 j9 (d4 (l1 Tryz.isAgg3 I rfl) (c7 pAd ?_))))
 refine c7 (y6 _) (c7 R3 (c7 j9 ?_))
 refine P7 I Tryz.sizeOf3 fun f b g=>?_
 refine c7 (y6 _) (c7 R3 (c7 j9 (d4 (l1 Tryz.isAgg3 b rfl) (c7 pSu ?_))))
 exact hR _ H _ _ ((b.bring 1).bring 1) ⟨(IntKind.wrap .i64 ((IntKind.wrap .i64 (x0.fc.d3+1))-1)),(i4.mk (f7.mk x0.fc.t8 x0.fc.o9 x0.fc.o8 (IntKind.wrap .i64 (x0.fc.d3+1)) x0.fc.v2 (Sl.mk none 0 0)) x0.fvars x0.farrays),a,c,d,rfl,rfl,e,h⟩
def a2Q(x0:i4)(f:(List d5))(x1:v6)(H:Hp)(K:m3→Bool→Hp→Prop):Prop:=
 (x1.f3=1→
 K (m3.mk (-1) x1.u1) true H)∧
 (¬(x1.f3=1)→
 ∃a:v6,((decide (x1.f3=5))=true→(0:Int)≤0∧(0:Int) < x1.K5.n∧EltH H x1.K5 0 4 (q8 a))∧
 (((decide (x1.f3=5))&&(decide (a.f3=1)))=true→
 (0:Int)≤0∧(0:Int) < x1.K5.n∧∃b:v6,EltH H x1.K5 0 4 (q8 b)∧
 K (m3.mk (-1) (IntKind.wrap .i64 (0-b.u1))) true H)∧
 (((decide (x1.f3=5))&&(decide (a.f3=1)))=false→
 (x1.f3=2→
 ∃c:List (ByteArray×Int),MapH H (fun s:ByteArray=>Value.string s) (fun n:Int=>Value.int .i64 n) x0.fvars c∧
 K (m3.mk ((lk x1.m5 c).getD 0) 0) true H)∧
 (¬(x1.f3=2)→
 T4 H (fun d e=>
 K d false e))))
theorem a9p(x0 j x1){H K}(h:a2Q x0 j x1 H K):a0t x0 j x1 H K:=by
 intro g0 ad ae af
 refine Ct.of fun w0 w ps0 H0 R E I hR=>c8u ?_
 unfold a2Q at h
 unfold F96
 refine D6 I (cs:=(q8 x1)) rfl fun ag ah s ai=>?_
 refine y3 s Tryz.zeroValue38 (cs:=[(vi 0),(vi 0)]) rfl fun aj ak c al=>?_
 refine c7 K9 (d4 (l1 Tryz.isAgg3 (c.bring 1) rfl) (c7 pEq ?_))
 refine g9 h (fun _ h=>?_) (fun _ h=>?_)
 ·refine c7 a1J (d4 (l1 Tryz.isAgg2 (c.bring 1) rfl) (c7 (b2P _ _) ?_))
  refine A6 c Tryz.sizeOf38 (vs:=[(vi (-1)),(vi x1.u1)]) fun am l an=>?_
  refine X5 Tryz.isAgg38 Tryz.sizeOf38 rfl l ?_
  exact hR _ H _ _ ((l.drop.drop.bring 1).bring 1) ⟨(m3.mk (-1) x1.u1),true,rfl,rfl,h⟩
 ·refine c7 K9 (d4 (l1 Tryz.isAgg3 (c.bring 1) rfl) (c7 pEq ?_))
  refine c7 (Pu.g fun hb=>by have a:=hb;first | with_reducible exact U4 | (simp only [c6 a,c5 a,c5 hb,d6 a];with_reducible exact U4) | (simp only [c6 a,c5 a,c5 hb,d7 a,c8];with_reducible exact U4) | exact U4 | (simp only [c6 a,c5 a,c5 hb,d6 a];exact U4) | (simp only [c6 a,c5 a,c5 hb,d7 a,c8];exact U4)) ?_
  refine d4 (Ld.g fun hb=>by have a:=hb;first | exact (l1 Tryz.isAgg57 (c.bring 1) rfl) | (simp only [c6 a,c5 a,c5 hb,d6 a];exact (l1 Tryz.isAgg57 (c.bring 1) rfl)) | (simp only [c6 a,c5 a,c5 hb,d7 a,c8];exact (l1 Tryz.isAgg57 (c.bring 1) rfl))) ?_
  obtain ⟨e,b,h⟩:=h
  obtain ⟨ao,ap,b⟩:=c4H b
  refine c7 (Pu.g fun hb=>by have a:=hb;first | with_reducible exact (a0z (b hb).2.2.1 _ _ _ _ (b hb).1 (b hb).2.1) | (simp only [c6 a,c5 a,c5 hb,d6 a];with_reducible exact (a0z (b hb).2.2.1 _ _ _ _ (b hb).1 (b hb).2.1)) | (simp only [c6 a,c5 a,c5 hb,d7 a,c8];with_reducible exact (a0z (b hb).2.2.1 _ _ _ _ (b hb).1 (b hb).2.1)) | exact (a0z (b hb).2.2.1 _ _ _ _ (b hb).1 (b hb).2.1) | (simp only [c6 a,c5 a,c5 hb,d6 a];exact (a0z (b hb).2.2.1 _ _ _ _ (b hb).1 (b hb).2.1)) | (simp only [c6 a,c5 a,c5 hb,d7 a,c8];exact (a0z (b hb).2.2.1 _ _ _ _ (b hb).1 (b hb).2.1))) ?_
  refine c7 (Pu.g fun hb=>by have a:=hb;first | with_reducible exact K9 | (simp only [c6 a,c5 a,c5 hb,d6 a];with_reducible exact K9) | (simp only [c6 a,c5 a,c5 hb,d7 a,c8];with_reducible exact K9) | exact K9 | (simp only [c6 a,c5 a,c5 hb,d6 a];exact K9) | (simp only [c6 a,c5 a,c5 hb,d7 a,c8];exact K9)) ?_
  refine d4 (Ld.g fun hb=>by have a:=hb;first | exact (ld1 (v:=(vi e.f3)) Tryz.isAgg3 ((c.atH (b hb).2.2.2).sub (k:=0) (n:=1) (nb rfl))) | (simp only [c6 a,c5 a,c5 hb,d6 a];exact (ld1 (v:=(vi e.f3)) Tryz.isAgg3 ((c.atH (b hb).2.2.2).sub (k:=0) (n:=1) (nb rfl)))) | (simp only [c6 a,c5 a,c5 hb,d7 a,c8];exact (ld1 (v:=(vi e.f3)) Tryz.isAgg3 ((c.atH (b hb).2.2.2).sub (k:=0) (n:=1) (nb rfl))))) ?_
  refine c7 (Pu.g fun hb=>by have a:=hb;first | with_reducible exact pEq | (simp only [c6 a,c5 a,c5 hb,d6 a];with_reducible exact pEq) | (simp only [c6 a,c5 a,c5 hb,d7 a,c8];with_reducible exact pEq) | exact pEq | (simp only [c6 a,c5 a,c5 hb,d6 a];exact pEq) | (simp only [c6 a,c5 a,c5 hb,d7 a,c8];exact pEq)) ?_
  refine c7 (p9 _ _) ?_
  refine q9 h (fun _ h=>?_) (fun _ h=>?_)
  ·refine c7 U4 (d4 (l1 Tryz.isAgg57 (c.bring 1) rfl) ?_)
   obtain ⟨t,u,f,i,h⟩:=h
   obtain ⟨aq,ar,y,i⟩:=i
   refine c7 (a0z y _ _ _ _ t u) (c7 a1J (d4 (ld1 (v:=(vi f.u1)) Tryz.isAgg2 ((c.atH i).sub (k:=1) (n:=1) (nb rfl))) (c7 (c7e _ _) (c7 (b2P _ _) ?_))))
   refine A6 c Tryz.sizeOf38 (vs:=[(vi (-1)),(vi (IntKind.wrap .i64 (0-f.u1)))]) fun au m av=>?_
   refine X5 Tryz.isAgg38 Tryz.sizeOf38 rfl m ?_
   exact hR _ H _ _ ((m.drop.drop.bring 1).bring 1) ⟨(m3.mk (-1) (IntKind.wrap .i64 (0-f.u1))),true,rfl,rfl,h⟩
  ·refine c7 K9 (d4 (l1 Tryz.isAgg3 (c.bring 1) rfl) (c7 pEq ?_))
   refine g9 h (fun _ h=>?_) (fun _ h=>?_)
   ·refine N5 c fun aw d=>?_
    refine f8 (y6 _) ?_
    refine f8 b1V ?_
    refine f8 U5 ?_
    refine o3 (l1 Tryz.isAgg66 (d.bring 2) rfl) ?_
    refine o3 (l1 Tryz.isAgg9 (d.bring 1) rfl) ?_
    obtain ⟨o,aa,h⟩:=h
    refine b1T (keyS Tryz.underlying9) Tryz.underlying66 (z:=0) Tryz.zeroValue3 d aa x1.m5 ?_
    refine f8 (P6 _) ?_
    refine A6 d Tryz.sizeOf38 (vs:=[(vi ((lk x1.m5 o).getD 0)),(vi 0)]) fun ax p ay=>?_
    refine X5 Tryz.isAgg38 Tryz.sizeOf38 rfl p ?_
    exact hR _ H _ _ ((p.drop.drop.bring 1).bring 1) ⟨(m3.mk ((lk x1.m5 o).getD 0) 0),true,rfl,rfl,h⟩
   ·refine j6 Tryz.call58 h c ?_
    rintro _ ab _ az ac _ _ ⟨q,rfl,rfl,h⟩
    refine A6 ac Tryz.sizeOf38 (vs:=(i7 q)) fun ba r bb=>?_
    refine X5 Tryz.isAgg38 Tryz.sizeOf38 rfl r ?_
    exact hR _ ab _ _ ((r.drop.drop.bring 1).bring 1) ⟨q,false,rfl,rfl,h⟩
def a9w(x0:Int)(x1:Int)(x2:Int)(H:Hp)(K:d5→Hp→Prop):Prop:=
 T4 H (fun a b=>
 T4 b (fun c d=>
 K (d5.mk x0 x1 x2 (-1) (-1) 0 a c) d))
theorem b4k(x0 x1 x2){H K}(h:a9w x0 x1 x2 H K):O3 x0 x1 x2 H K:=by
 refine Ct.of fun w0 w ps0 H0 R E I hR=>c8k ?_
 unfold a9w at h
 unfold F67
 refine y3 I Tryz.zeroValue40 (cs:=[(vi 0),(vi 0),(vi 0),(vi 0),(vi 0),(vi 0),(vi 0),(vi 0),(vi 0),(vi 0)]) rfl fun i j d k=>?_
 refine j6 Tryz.call58 h d ?_
 rintro _ _ _ l e _ _ ⟨a,rfl,rfl,h⟩
 refine j6 Tryz.call58 h e ?_
 rintro _ f _ m g _ _ ⟨b,rfl,rfl,h⟩
 refine c7 (b0N _ _ _ _ _ _ _ _ _) ?_
 refine A6 g Tryz.sizeOf40 (vs:=[(vi x0),(vi x1),(vi x2),(vi (-1)),(vi (-1)),(vi 0),(vi a.y8),(vi a.u1),(vi b.y8),(vi b.u1)]) fun n c o=>?_
 refine X5 Tryz.isAgg40 Tryz.sizeOf40 rfl c ?_
 exact hR _ f _ _ c.drop ⟨(d5.mk x0 x1 x2 (-1) (-1) 0 a b),rfl,rfl,h⟩
def a5J(x0:o0)(H:Hp)(K:g7→Hp→Prop):Prop:=
 K (g7.N9 (X6.mk x0)) H
theorem b2d(x0){H K}(h:a5J x0 H K):a7T x0 H K:=by
 refine Ct.of fun w0 w ps0 H0 R E I hR=>c5W ?_
 unfold a5J at h
 unfold c8G
 refine D6 I (cs:=(m2 x0)) rfl fun b c a d=>?_
 refine d4 (lW Tryz.isAgg70 Tryz.sizeOf70 rfl a) (c7 (b8g _ _) (c7 (b5V (X6.mk x0)) ?_))
 exact hR _ H _ _ a.drop ⟨(g7.N9 (X6.mk x0)),rfl,rfl,h⟩
def E8(P4:(List g7))(H:Hp)(K:Sl→Hp→Prop):Prop:=
 ∀(J2:Sl)(a:Hp),Hle H a→SlH a 1 z6 J2 P4→J2.n≤J2.c→
 K J2 a
def E9(a3v:Sl)(a4g:Int)(A5:(List g7))(B3:Int)(H:Hp)(n2:((List g7)×Int)→Hp→Prop)(K:Sl→Hp→Prop):Prop:=
 (B3 < a4g→
 (0:Int)≤B3∧(B3:Int) < a3v.n∧∃a:o0,EltH H a3v B3 2 (m2 a)∧
 a7T a H (fun b c=>
 (A5.length+([b]:List g7).length)*17≤140737488355328∧
 n2 ((A5++[b]),(IntKind.wrap .i64 (B3+1))) c))∧
 (¬(B3 < a4g)→
 E8 A5 H K)
def M1(x0:Sl)(H:Hp)(K:Sl→Hp→Prop):Prop:=
 TL (([],0):(List g7)×Int) H fun(s:(List g7)×Int) H n2=>E9 x0 (x0.n:Int) s.1 s.2 H n2 K
theorem a1w(x0){H K}(h:M1 x0 H K):L9 x0 H K:=by
 refine Ct.of fun w0 w ps0 H0 R E I hR=>c5V ?_
 unfold M1 at h
 unfold c8F
 have hj1:∀(P4:(List g7))(J2:Sl)(Fs5j1:Frag) H w (_:RowL 182 1 z6 J2 P4 Fs5j1) (_:Inv w0 ps0 H0 H [Fs5j1] w) (_:E8 P4 H K),b6e (vs J2) w R E:=by
  intro P4 J2 Fs5j1 H w a5f I h
  unfold b6e
  intro _
  unfold E8 at h
  obtain ⟨j,q,r,t,u⟩:=Inv.freezeC I a5f (by decide)
  replace h:=h J2 j r t u
  exact hR _ j _ _ q ⟨J2,rfl,rfl,h⟩
 refine s8 fun j1 hx1=>?_
 refine c7 (N2 _ _ _) ?_
 obtain ⟨f,d,v,y⟩:=h
 refine I0 (J:=fun n l w=>∃(s:(List g7)×Int)(H:Hp)(T9:Sl)(Fs5l2:Frag),n=d s∧l=(match s with | (A5,B3)=>[(vs T9),(vi B3)])∧(match s with | (A5,B3)=>RowL 182 1 z6 T9 A5 Fs5l2)∧(match s with | (A5,B3)=>Inv w0 ps0 H0 H [Fs5l2] w)∧f s H) ⟨_,([],0),H,(Sl.mk none 0 0),[],rfl,rfl,(RowL.nil R7 U6),I.nil,v⟩ ?_
 rintro am an w next2 ⟨⟨A5,B3⟩,H,T9,Fs5l2,rfl,g,a2r,I,z⟩ hn2
 dsimp only at g I a2r
 simp only [List.map_cons,List.map_nil,List.cons.injEq,and_true] at g
 obtain ⟨e5,e10⟩:=g
 simp only [e5,e10]
 obtain ⟨n2,hm2,h⟩:∃n2:((List g7)×Int)→Hp→Prop,(∀s' H',n2 s' H'→f s' H'∧d s' < d (A5,B3))∧E9 x0 (x0.n:Int) A5 B3 H n2 K:=⟨_,fun _ _ h=>h,y (A5,B3) H (fun s' H'=>f s' H'∧d s' < d (A5,B3)) z (fun _ _ a b=>⟨a,b⟩)⟩
 unfold c0r
 unfold E9 at h
 refine c7 pLs ?_
 refine g9 h (fun _ h=>?_) (fun _ h=>?_)
 ·obtain ⟨aa,ab,k,i,h⟩:=h
  obtain ⟨ao,ap,ac,i⟩:=i
  refine c7 (W6 ac _ _ _ _ aa ab) (d4 (ldA (vs:=(m2 k)) Tryz.isAgg70 Tryz.sizeOf70 rfl (I.atH i)) ?_)
  refine y3 I Tryz.zeroValue70 (cs:=[(eS),(vi 0)]) rfl fun aq ar ad au=>?_
  refine A6 ad Tryz.sizeOf70 (vs:=(m2 k)) fun av m aw=>?_
  refine d4 (lW Tryz.isAgg70 Tryz.sizeOf70 rfl m) ?_
  refine j6 Tryz.call120 h m ?_
  rintro _ ae _ ax af _ _ ⟨o,rfl,rfl,h⟩
  refine a0x (e:=182) (c:=z6) (xs:=[o]) af (b1Z _) rfl rfl R7 U6 (nb rfl) fun ay az ba ag p bb=>?_
  obtain ⟨ah,h⟩:=h
  refine b1v (s:=T9) (xs:=A5) (p.bring 2) a2r (ag.srcO ((p.bring 2).bring 1)) ah fun ai aj bc ak al bd=>?_
  refine c7 pAd ?_
  exact hn2 _ _ _ (hm2 _ _ h).2 ⟨((A5++[o]),(IntKind.wrap .i64 (B3+1))),ae,ai,aj,rfl,rfl,ak,((al.bring 1).drop.bring 1).drop,(hm2 _ _ h).1⟩
 ·exact hx1 _ _ (hj1 A5 T9 Fs5l2 H _ a2r I h)
def J5(b3K:Bool)(a:Int)(H:Hp)(K:Int→Hp→Prop):Prop:=
 (b3K=true→
 K 3 H)∧
 (b3K=false→
 K 6 H)
def Q6(b3L:Bool)(a:Int)(H:Hp)(K:Int→Hp→Prop):Prop:=
 (b3L=true→
 K 6 H)∧
 (b3L=false→
 N7 48 57 a H (fun g b=>
 (g=true→
 K 4 b)∧
 (g=false→
 (a=95→
 J5 (decide (a=95)) a b K)∧
 (¬(a=95)→
 N7 97 122 a b (fun c i=>
 (c=true→
 J5 c a i K)∧
 (c=false→
 N7 65 90 a i (fun d j=>
 (d=true→
 J5 d a j K)∧
 (d=false→
 N7 192 591 a j (fun e k=>
 (e=true→
 J5 e a k K)∧
 (e=false→
 N7 913 969 a k (fun f l=>
 (f=true→
 J5 f a l K)∧
 (f=false→
 N7 1040 1103 a l (fun m n=>
 J5 m a n K)))))))))))))
def r8(b4H:Int)(a9H:Bool)(a:Int)(H:Hp)(K:Int→Hp→Prop):Prop:=
 (a9H=true→
 K 5 H)∧
 (a9H=false→
 (b4H=215→
 Q6 (decide (b4H=215)) a H K)∧
 (¬(b4H=215)→
 (b4H=247→
 Q6 (decide (b4H=247)) a H K)∧
 (¬(b4H=247)→
 Q6 (decide (b4H=930)) a H K)))
def Q7(D2:Int)(b0l:Bool)(a:Int)(H:Hp)(K:Int→Hp→Prop):Prop:=
 (b0l=true→
 K 1 H)∧
 (b0l=false→
 (D2=10→
 K 2 H)∧
 (¬(D2=10)→
 (D2=59→
 r8 D2 (decide (D2=59)) a H K)∧
 (¬(D2=59)→
 (D2=44→
 r8 D2 (decide (D2=44)) a H K)∧
 (¬(D2=44)→
 (D2=123→
 r8 D2 (decide (D2=123)) a H K)∧
 (¬(D2=123)→
 (D2=125→
 r8 D2 (decide (D2=125)) a H K)∧
 (¬(D2=125)→
 (D2=40→
 r8 D2 (decide (D2=40)) a H K)∧
 (¬(D2=40)→
 (D2=41→
 r8 D2 (decide (D2=41)) a H K)∧
 (¬(D2=41)→
 (D2=91→
 r8 D2 (decide (D2=91)) a H K)∧
 (¬(D2=91)→
 (D2=93→
 r8 D2 (decide (D2=93)) a H K)∧
 (¬(D2=93)→
 (D2=61→
 r8 D2 (decide (D2=61)) a H K)∧
 (¬(D2=61)→
 (D2=33→
 r8 D2 (decide (D2=33)) a H K)∧
 (¬(D2=33)→
 (D2=60→
 r8 D2 (decide (D2=60)) a H K)∧
 (¬(D2=60)→
 (D2=62→
 r8 D2 (decide (D2=62)) a H K)∧
 (¬(D2=62)→
 (D2=43→
 r8 D2 (decide (D2=43)) a H K)∧
 (¬(D2=43)→
 (D2=45→
 r8 D2 (decide (D2=45)) a H K)∧
 (¬(D2=45)→
 (D2=42→
 r8 D2 (decide (D2=42)) a H K)∧
 (¬(D2=42)→
 (D2=47→
 r8 D2 (decide (D2=47)) a H K)∧
 (¬(D2=47)→
 (D2=37→
 r8 D2 (decide (D2=37)) a H K)∧
 (¬(D2=37)→
 (D2=38→
 r8 D2 (decide (D2=38)) a H K)∧
 (¬(D2=38)→
 r8 D2 (decide (D2=124)) a H K))))))))))))))))))))
def a6p(x0:Int)(H:Hp)(K:Int→Hp→Prop):Prop:=
 (x0=32→
 Q7 x0 (decide (x0=32)) x0 H K)∧
 (¬(x0=32)→
 (x0=9→
 Q7 x0 (decide (x0=9)) x0 H K)∧
 (¬(x0=9)→
 Q7 x0 (decide (x0=13)) x0 H K))
theorem b2R(x0){H K}(h:a6p x0 H K):a4x x0 H K:=by
 refine Ct.of fun w0 w ps0 H0 R E I hR=>c6i ?_
 unfold a6p at h
 unfold c8S
 refine D6 I (cs:=[(Value.int .i32 x0)]) rfl fun a u b v=>?_
 refine d4 (l1 Tryz.isAgg21 b rfl) ?_
 have hj1:∀(b0l:Bool) H w (_:Inv w0 ps0 H0 H [bx a 21 [(Value.int .i32 x0)]] w) (_:Q7 x0 b0l x0 H K),b6o (Value.pointer (some ⟨a,0,none⟩)) (Value.int .i32 x0) (vB b0l) w R E:=by
  intro b0l H w I h
  unfold b6o
  intro _
  unfold Q7 at h
  refine q9 h (fun _ h=>?_) (fun _ h=>?_)
  ·exact hR _ H _ _ I.drop ⟨1,rfl,rfl,h⟩
  ·refine c7 pEq ?_
   refine g9 h (fun _ h=>?_) (fun _ h=>?_)
   ·exact hR _ H _ _ I.drop ⟨2,rfl,rfl,h⟩
   ·have hj2:∀(a9H:Bool) H w (_:Inv w0 ps0 H0 H [bx a 21 [(Value.int .i32 x0)]] w) (_:r8 x0 a9H x0 H K),b6n (Value.pointer (some ⟨a,0,none⟩)) (Value.int .i32 x0) (vB a9H) w R E:=by
     intro a9H H w I h
     unfold b6n
     intro _
     unfold r8 at h
     refine q9 h (fun _ h=>?_) (fun _ h=>?_)
     ·exact hR _ H _ _ I.drop ⟨5,rfl,rfl,h⟩
     ·have hj3:∀(b3L:Bool) H w (_:Inv w0 ps0 H0 H [bx a 21 [(Value.int .i32 x0)]] w) (_:Q6 b3L x0 H K),b6m (Value.pointer (some ⟨a,0,none⟩)) (vB b3L) w R E:=by
       intro b3L H w I h
       unfold b6m
       intro _
       unfold Q6 at h
       refine q9 h (fun _ h=>?_) (fun _ h=>?_)
       ·exact hR _ H _ _ I.drop ⟨6,rfl,rfl,h⟩
       ·refine c7 (a6i _ _ _) ?_
        refine a5p (cap:=[(Value.pointer (some ⟨a,0,none⟩))]) Tryz.call138 (h a) I ?_
        rintro _ d _ y c _ _ ⟨z,rfl,rfl,h⟩
        refine q9 h (fun _ h=>?_) (fun _ h=>?_)
        ·exact hR _ d _ _ c.drop ⟨4,rfl,rfl,h⟩
        ·have hj4:∀(b3K:Bool) H w (_:Inv w0 ps0 H0 H [bx a 21 [(Value.int .i32 x0)]] w) (_:J5 b3K x0 H K),b6l (vB b3K) w R E:=by
          intro b3K H w I h
          unfold b6l
          intro _
          unfold J5 at h
          refine q9 h (fun _ h=>?_) (fun _ h=>?_)
          ·exact hR _ H _ _ I.drop ⟨3,rfl,rfl,h⟩
          ·exact hR _ H _ _ I.drop ⟨6,rfl,rfl,h⟩
         refine s8 fun j4 hx4=>?_
         refine d4 (l1 Tryz.isAgg21 c rfl) (c7 pEq ?_)
         refine g9 h (fun _ h=>?_) (fun _ h=>?_)
         ·exact hx4 _ _ (hj4 (decide (x0=95)) d _ c h)
         ·refine a5p (cap:=[(Value.pointer (some ⟨a,0,none⟩))]) Tryz.call138 (h a) c ?_
          rintro _ j _ aa e _ _ ⟨k,rfl,rfl,h⟩
          refine q9 h (fun _ h=>?_) (fun _ h=>?_)
          ·exact hx4 _ _ (hj4 k j _ e h)
          ·refine a5p (cap:=[(Value.pointer (some ⟨a,0,none⟩))]) Tryz.call138 (h a) e ?_
           rintro _ l _ ab f _ _ ⟨m,rfl,rfl,h⟩
           refine q9 h (fun _ h=>?_) (fun _ h=>?_)
           ·exact hx4 _ _ (hj4 m l _ f h)
           ·refine a5p (cap:=[(Value.pointer (some ⟨a,0,none⟩))]) Tryz.call138 (h a) f ?_
            rintro _ n _ ac g _ _ ⟨o,rfl,rfl,h⟩
            refine q9 h (fun _ h=>?_) (fun _ h=>?_)
            ·exact hx4 _ _ (hj4 o n _ g h)
            ·refine a5p (cap:=[(Value.pointer (some ⟨a,0,none⟩))]) Tryz.call138 (h a) g ?_
             rintro _ p _ ad i _ _ ⟨q,rfl,rfl,h⟩
             refine q9 h (fun _ h=>?_) (fun _ h=>?_)
             ·exact hx4 _ _ (hj4 q p _ i h)
             ·refine a5p (cap:=[(Value.pointer (some ⟨a,0,none⟩))]) Tryz.call138 (h a) i ?_
              rintro _ r _ ae s _ _ ⟨t,rfl,rfl,h⟩
              exact hx4 _ _ (hj4 t r _ s h)
      refine s8 fun j3 hx3=>?_
      refine c7 pEq ?_
      refine g9 h (fun _ h=>?_) (fun _ h=>?_)
      ·exact hx3 _ _ (hj3 (decide (x0=215)) H _ I h)
      ·refine c7 pEq ?_
       refine g9 h (fun _ h=>?_) (fun _ h=>?_)
       ·exact hx3 _ _ (hj3 (decide (x0=247)) H _ I h)
       ·refine c7 pEq ?_
        exact hx3 _ _ (hj3 (decide (x0=930)) H _ I h)
    refine s8 fun j2 hx2=>?_
    refine c7 pEq ?_
    refine g9 h (fun _ h=>?_) (fun _ h=>?_)
    ·exact hx2 _ _ (hj2 (decide (x0=59)) H _ I h)
    ·refine c7 pEq ?_
     refine g9 h (fun _ h=>?_) (fun _ h=>?_)
     ·exact hx2 _ _ (hj2 (decide (x0=44)) H _ I h)
     ·refine c7 pEq ?_
      refine g9 h (fun _ h=>?_) (fun _ h=>?_)
      ·exact hx2 _ _ (hj2 (decide (x0=123)) H _ I h)
      ·refine c7 pEq ?_
       refine g9 h (fun _ h=>?_) (fun _ h=>?_)
       ·exact hx2 _ _ (hj2 (decide (x0=125)) H _ I h)
       ·refine c7 pEq ?_
        refine g9 h (fun _ h=>?_) (fun _ h=>?_)
        ·exact hx2 _ _ (hj2 (decide (x0=40)) H _ I h)
        ·refine c7 pEq ?_
         refine g9 h (fun _ h=>?_) (fun _ h=>?_)
         ·exact hx2 _ _ (hj2 (decide (x0=41)) H _ I h)
         ·refine c7 pEq ?_
          refine g9 h (fun _ h=>?_) (fun _ h=>?_)
          ·exact hx2 _ _ (hj2 (decide (x0=91)) H _ I h)
          ·refine c7 pEq ?_
           refine g9 h (fun _ h=>?_) (fun _ h=>?_)
           ·exact hx2 _ _ (hj2 (decide (x0=93)) H _ I h)
           ·refine c7 pEq ?_
            refine g9 h (fun _ h=>?_) (fun _ h=>?_)
            ·exact hx2 _ _ (hj2 (decide (x0=61)) H _ I h)
            ·refine c7 pEq ?_
             refine g9 h (fun _ h=>?_) (fun _ h=>?_)
             ·exact hx2 _ _ (hj2 (decide (x0=33)) H _ I h)
             ·refine c7 pEq ?_
              refine g9 h (fun _ h=>?_) (fun _ h=>?_)
              ·exact hx2 _ _ (hj2 (decide (x0=60)) H _ I h)
              ·refine c7 pEq ?_
               refine g9 h (fun _ h=>?_) (fun _ h=>?_)
               ·exact hx2 _ _ (hj2 (decide (x0=62)) H _ I h)
               ·refine c7 pEq ?_
                refine g9 h (fun _ h=>?_) (fun _ h=>?_)
                ·exact hx2 _ _ (hj2 (decide (x0=43)) H _ I h)
                ·refine c7 pEq ?_
                 refine g9 h (fun _ h=>?_) (fun _ h=>?_)
                 ·exact hx2 _ _ (hj2 (decide (x0=45)) H _ I h)
                 ·refine c7 pEq ?_
                  refine g9 h (fun _ h=>?_) (fun _ h=>?_)
                  ·exact hx2 _ _ (hj2 (decide (x0=42)) H _ I h)
                  ·refine c7 pEq ?_
                   refine g9 h (fun _ h=>?_) (fun _ h=>?_)
                   ·exact hx2 _ _ (hj2 (decide (x0=47)) H _ I h)
                   ·refine c7 pEq ?_
                    refine g9 h (fun _ h=>?_) (fun _ h=>?_)
                    ·exact hx2 _ _ (hj2 (decide (x0=37)) H _ I h)
                    ·refine c7 pEq ?_
                     refine g9 h (fun _ h=>?_) (fun _ h=>?_)
                     ·exact hx2 _ _ (hj2 (decide (x0=38)) H _ I h)
                     ·refine c7 pEq ?_
                      exact hx2 _ _ (hj2 (decide (x0=124)) H _ I h)
 refine s8 fun j1 hx1=>?_
 refine c7 pEq ?_
 refine g9 h (fun _ h=>?_) (fun _ h=>?_)
 ·exact hx1 _ _ (hj1 (decide (x0=32)) H _ b h)
 ·refine c7 pEq ?_
  refine g9 h (fun _ h=>?_) (fun _ h=>?_)
  ·exact hx1 _ _ (hj1 (decide (x0=9)) H _ b h)
  ·refine c7 pEq ?_
   exact hx1 _ _ (hj1 (decide (x0=13)) H _ b h)
def J6(a0p:Int)(N8:Int)(S0:Int)(a9W:Bool)(a9X:Bool)(a8n:(List ByteArray))(H:Hp)(K:Bool→o4→(List ByteArray)→Hp→Prop):Prop:=
 K true (o4.mk a0p N8 S0 a9W a9X (Sl.mk none 0 0)) a8n H
def a2R(x0:o4)(a:(List ByteArray))(x1:g7)(x2:Int)(H:Hp)(K:Bool→o4→(List ByteArray)→Hp→Prop):Prop:=
 (4096 < (IntKind.wrap .i64 (x0.fnodes+1))→
 K false (o4.mk (IntKind.wrap .i64 (x0.fnodes+1)) x0.fdepth 33 x0.fform x0.fnamed (Sl.mk none 0 0)) a H)∧
 (¬(4096 < (IntKind.wrap .i64 (x0.fnodes+1)))→
 (64 < x2→
 K false (o4.mk (IntKind.wrap .i64 (x0.fnodes+1)) x0.fdepth 32 x0.fform x0.fnamed (Sl.mk none 0 0)) a H)∧
 (¬(64 < x2)→
 TG (x0.fform=false) (a5H x1 H) false H (fun(c:Bool)(j:Hp)=>
 a1Y x1 j (fun b e d=>
 (e=true→
 TG (x0.fnamed=false) (a5d b d) false d (fun(f:Bool)(k:Hp)=>
 T8 a b k (fun g i=>
 ((!g)=true→
 (a.length+([b]:List ByteArray).length)*17≤140737488355328∧
 J6 (IntKind.wrap .i64 (x0.fnodes+1)) (if x2 > x0.fdepth then x2 else x0.fdepth) x0.fe (x0.fform||(!c)) (x0.fnamed||(!f)) (a++[b]) i K)∧
 ((!g)=false→
 J6 (IntKind.wrap .i64 (x0.fnodes+1)) (if x2 > x0.fdepth then x2 else x0.fdepth) x0.fe (x0.fform||(!c)) (x0.fnamed||(!f)) a i K))))∧
 (e=false→
 J6 (IntKind.wrap .i64 (x0.fnodes+1)) (if x2 > x0.fdepth then x2 else x0.fdepth) x0.fe (x0.fform||(!c)) x0.fnamed a d K)))))
theorem a9q(x0 b x1 x2){H K}(h:a2R x0 b x1 x2 H K):a2M x0 b x1 x2 H K:=by
 intro g0 k l m
 refine Ct.of fun w0 w ps0 H0 R E I hR=>c6a ?_
 unfold a2R at h
 unfold c8K
 refine c7 (y6 _) (c7 b1h (d4 (l1 Tryz.isAgg3 I rfl) (c7 pAd (c7 (y6 _) ?_))))
 refine c7 b1h ?_
 refine P7 I Tryz.sizeOf3 fun ba p bb=>?_
 refine c7 (y6 _) (c7 b1h (d4 (l1 Tryz.isAgg3 p rfl) (c7 pGt ?_)))
 refine g9 h (fun _ h=>?_) (fun _ h=>?_)
 ·refine c7 (y6 _) (c7 a7v ?_)
  refine P7 p Tryz.sizeOf31 fun bc an bd=>?_
  exact hR _ H _ _ ((an.bring 1).bring 1) ⟨false,(o4.mk (IntKind.wrap .i64 (x0.fnodes+1)) x0.fdepth 33 x0.fform x0.fnamed (Sl.mk none 0 0)),b,k,l,rfl,rfl,m,h⟩
 ·refine c7 pGt ?_
  refine g9 h (fun _ h=>?_) (fun _ h=>?_)
  ·refine c7 (y6 _) (c7 a7v ?_)
   refine P7 p Tryz.sizeOf31 fun be ao bf=>?_
   exact hR _ H _ _ ((ao.bring 1).bring 1) ⟨false,(o4.mk (IntKind.wrap .i64 (x0.fnodes+1)) x0.fdepth 32 x0.fform x0.fnamed (Sl.mk none 0 0)),b,k,l,rfl,rfl,m,h⟩
  ·refine c7 (y6 _) (c7 b4t (d4 (l1 Tryz.isAgg3 p rfl) (c7 (c1T _ _ _ _ _) (c7 (y6 _) ?_))))
   refine c7 b4t ?_
   refine P7 p Tryz.sizeOf3 fun ae z bg=>?_
   refine c7 (y6 _) (c7 b1i (d4 (l1 Tryz.isAgg4 z rfl) ?_))
   try simp only [B8,G9,B9,C1,C3,C5,C0,C2,C4,C6]
   refine b5a (D:=fun af t=>∃(d:Bool)(n:Hp),af=(gv x0.fform false (vB d))∧(Inv w0 ps0 H0 n [bx g0 169 [(vi (IntKind.wrap .i64 (x0.fnodes+1))),(vi (if x2 > x0.fdepth then x2 else x0.fdepth)),(vi x0.fe),(vB x0.fform),(vB x0.fnamed),(vs k)],l] t)∧(∀i,i < ae.heap.size→¬inF [] i→t.heap[i]? = ae.heap[i]?)∧Hle H n∧(a1Y x1 n (fun(j:ByteArray)(u:Bool)(q:Hp)=>
 (u=true→
 TG (x0.fnamed=false) (a5d j q) false q (fun(f:Bool)(v:Hp)=>
 T8 b j v (fun(aa:Bool)(r:Hp)=>
 ((!aa)=true→
 (b.length+([j]:List ByteArray).length)*17≤140737488355328∧
 J6 (IntKind.wrap .i64 (x0.fnodes+1)) (if x2 > x0.fdepth then x2 else x0.fdepth) x0.fe (x0.fform||(!d)) (x0.fnamed||(!f)) (b++[j]) r K)∧
 ((!aa)=false→
 J6 (IntKind.wrap .i64 (x0.fnodes+1)) (if x2 > x0.fdepth then x2 else x0.fdepth) x0.fe (x0.fform||(!d)) (x0.fnamed||(!f)) b r K))))∧
 (u=false→
 J6 (IntKind.wrap .i64 (x0.fnodes+1)) (if x2 > x0.fdepth then x2 else x0.fdepth) x0.fe (x0.fform||(!d)) x0.fnamed b q K)))) (fun o=>?_) (fun o=>?_) ?_
   ·replace h:=h.1 o
    have a:=o
    try simp only [c6 a,c5 a]
    refine b1y z h (fun d n t ab ag ah h=>?_)
    exact ⟨d,n,by first | rfl | rw [c5 o],ab,ah,ag,h⟩
   ·exact ⟨false,H,by first | rfl | rw [b5P o],z,fun _ _ _=>rfl,Hle.refl _,h.2 o⟩
   ·clear h
    rintro af t ⟨d,n,rfl,ab,ah,ag,h⟩
    refine c7 (Pu.g fun hb=>by have a:=hb;first | with_reducible exact (p8 _) | (simp only [c6 a,c5 a,c5 hb,d8 a];with_reducible exact (p8 _)) | (simp only [c6 a,c5 a,c5 hb,d9 a,c8];with_reducible exact (p8 _)) | exact (p8 _) | (simp only [c6 a,c5 a,c5 hb,d8 a];exact (p8 _)) | (simp only [c6 a,c5 a,c5 hb,d9 a,c8];exact (p8 _))) ?_
    refine c7 (B4 _ _) (c7 (y6 _) (c7 b1i ?_))
    refine P7 ab Tryz.sizeOf4 fun bh ap bi=>?_
    have hj1:∀(a0p:Int)(N8:Int)(S0:Int)(a9W:Bool)(a9X:Bool)(a8n:(List ByteArray))(b2e:Sl)(b2f:Frag) H w (_:RowL 9 1 D4 b2e a8n b2f) (_:Inv w0 ps0 H0 H [bx g0 169 [(vi a0p),(vi N8),(vi S0),(vB a9W),(vB a9X),(vs b2e)],b2f] w) (_:J6 a0p N8 S0 a9W a9X a8n H K),b6h w R E:=by
     intro a0p N8 S0 a9W a9X a8n b2e b2f H w c3O I h
     unfold b6h
     intro _
     unfold J6 at h
     exact hR _ H _ _ ((I.bring 1).bring 1) ⟨true,(o4.mk a0p N8 S0 a9W a9X (Sl.mk none 0 0)),a8n,b2e,b2f,rfl,rfl,c3O,h⟩
    refine s8 fun j1 hx1=>?_
    refine j6 Tryz.call127 h ap ?_
    rintro _ q _ bj y _ _ ⟨j,u,rfl,rfl,h⟩
    refine c7 (p6 _ _ (Value.string j) rfl) (c7 (p6 _ _ (vB u) rfl) ?_)
    refine q9 h (fun _ h=>?_) (fun _ h=>?_)
    ·refine c7 (y6 _) (c7 b1j (d4 (l1 Tryz.isAgg4 y rfl) ?_))
     try simp only [B8,G9,B9,C1,C3,C5,C0,C2,C4,C6]
     refine R1 [] (fun f:Bool=>(vB f)) h y (fun ai h=>?_) fun f v aq ac aj ak h=>?_
     ·have a:=ai
      try simp only [c6 a,c5 a,c5 ai]
      refine j6 Tryz.call128 h y ?_
      rintro _ v _ aq ac ak aj ⟨f,rfl,rfl,h⟩
      exact ⟨f,v,rfl,ac,aj,ak,h⟩
     refine c7 (Pu.g fun hb=>by have a:=hb;first | with_reducible exact (p8 _) | (simp only [c6 a,c5 a,c5 hb,d8 a];with_reducible exact (p8 _)) | (simp only [c6 a,c5 a,c5 hb,d9 a,c8];with_reducible exact (p8 _)) | exact (p8 _) | (simp only [c6 a,c5 a,c5 hb,d8 a];exact (p8 _)) | (simp only [c6 a,c5 a,c5 hb,d9 a,c8];exact (p8 _))) ?_
     refine c7 (B4 _ _) (c7 (y6 _) (c7 b1j ?_))
     refine P7 ac Tryz.sizeOf4 fun bk al bl=>?_
     refine c7 (y6 _) (c7 b1k (d4 (l1 Tryz.isAgg27 al rfl) ?_))
     refine j6 Tryz.call129 (h k l m) (al.bring 1) ?_
     rintro _ r _ bm ad _ _ ⟨aa,rfl,rfl,h⟩
     refine c7 (p8 _) ?_
     refine q9 h (fun _ h=>?_) (fun _ h=>?_)
     ·refine c7 (y6 _) (c7 b1k (d4 (l1 Tryz.isAgg27 (ad.bring 1) rfl) ?_))
      refine a0x (e:=9) (c:=D4) (xs:=[j]) ad (c0k _) rfl rfl a6j a7u (nb rfl) fun bn bo bp ar am bq=>?_
      obtain ⟨au,h⟩:=h
      refine b8c (s:=k) (xs:=b) (am.bring 1) m (ar.srcO ((am.bring 1).bring 1)) au fun av aw br ax ay bs=>?_
      refine c7 (y6 _) (c7 b1k ?_)
      refine P7 ((ay.bring 1).drop.bring 1) Tryz.sizeOf27 fun bt az bu=>?_
      exact hx1 _ _ (hj1 (IntKind.wrap .i64 (x0.fnodes+1)) (if x2 > x0.fdepth then x2 else x0.fdepth) x0.fe (x0.fform||(!d)) (x0.fnamed||(!f)) (b++[j]) av aw r _ ax ((az.bring 1).bring 1) h)
     ·exact hx1 _ _ (hj1 (IntKind.wrap .i64 (x0.fnodes+1)) (if x2 > x0.fdepth then x2 else x0.fdepth) x0.fe (x0.fform||(!d)) (x0.fnamed||(!f)) b k l r _ m (ad.bring 1) h)
    ·exact hx1 _ _ (hj1 (IntKind.wrap .i64 (x0.fnodes+1)) (if x2 > x0.fdepth then x2 else x0.fdepth) x0.fe (x0.fform||(!d)) x0.fnamed b k l q _ m ((y.bring 1).bring 1) h)
def a0r(a7B:Int)(a7n:ByteArray)(a:(List i6))(b:E6)(H:Hp)(K:ByteArray→Int→Hp→Prop):Prop:=
 K a7n a7B H
def a4Z(K3:(Option Nat))(b5j:(List i6))(b5k:Int)(c:E6)(b0m:Int)(a4g:ByteArray)(X9:Int)(H:Hp)(n2:(Int×ByteArray×Int)→Hp→Prop)(K:ByteArray→Int→Hp→Prop):Prop:=
 (X9 < b5k→
 (0:Int)≤X9∧∃a:i6,(b5j)[(X9:Int).toNat]? = some a∧
 ∃b:List (ByteArray×Int),MapH H (fun s:ByteArray=>Value.string s) (fun n:Int=>Value.int .i64 n) K3 b∧
 (((lk a.fname b).getD 0)=a.fas→
 n2 (b0m,a4g,(IntKind.wrap .i64 (X9+1))) H)∧
 (¬(((lk a.fname b).getD 0)=a.fas)→
 (((lk a.fname b).getD 0)=0→
 a0r 63 a.fname b5j c H K)∧
 (¬(((lk a.fname b).getD 0)=0)→
 a0r 64 a.fname b5j c H K)))∧
 (¬(X9 < b5k)→
 a0r b0m a4g b5j c H K)
def a6q(x0:E6)(H:Hp)(K:ByteArray→Int→Hp→Prop):Prop:=
 a6n x0 H (fun b c=>
 (¬(b=0)→
 K ⟨#[]⟩ b c)∧
 (b=0→
 a7w x0.b0g c (fun f g a d=>
 (¬(a=0)→
 K g a d)∧
 (a=0→
 T7 (m8.mk (Sl.mk none 0 0)) [] x0.a9A d (fun j e i=>
 TL ((a,⟨#[]⟩,0):Int×ByteArray×Int) i fun(s:Int×ByteArray×Int) H n2=>a4Z f e (e.length:Int) x0 s.1 s.2.1 s.2.2 H n2 K)))))
theorem b2S(x0){H K}(h:a6q x0 H K):a8j x0 H K:=by
 refine Ct.of fun w0 w ps0 H0 R E I hR=>c8e ?_
 unfold a6q at h
 unfold F61
 refine D6 I (cs:=(C7 x0)) rfl fun j ad k ae=>?_
 refine d4 (lW Tryz.isAgg25 Tryz.sizeOf25 rfl k) ?_
 refine j6 Tryz.call92 h k ?_
 rintro _ u _ af d _ _ ⟨v,rfl,rfl,h⟩
 refine c7 pNe ?_
 refine a0e h (fun _ h=>?_) (fun _ h=>?_)
 ·exact hR _ u _ _ d.drop ⟨⟨#[]⟩,v,rfl,rfl,h⟩
 ·refine c7 b1X (d4 (l1 Tryz.isAgg22 d rfl) ?_)
  refine j6 Tryz.call93 h d ?_
  rintro _ y _ ag l _ _ ⟨ah,m,n,rfl,rfl,h⟩
  refine c7 (p6 _ _ _ rfl) (c7 (p6 _ _ (Value.string m) rfl) (c7 (p6 _ _ (vi n) rfl) (c7 pNe ?_)))
  refine a0e h (fun _ h=>?_) (fun _ h=>?_)
  ·exact hR _ y _ _ l.drop ⟨m,n,rfl,rfl,h⟩
  ·refine c7 (c0T) ?_
   refine D6 l (cs:=[(nS)]) rfl fun f ai o aj=>?_
   refine c7 a9B (d4 (l1 Tryz.isAgg23 (o.bring 1) rfl) ?_)
   refine j6 Tryz.call94 (h f (Sl.mk none 0 0) ([]) (RowL.nil (e:=158) a6d a6e)) (o.nil.bring 1) ?_
   rintro _ _ _ ak p _ _ ⟨al,aa,q,r,rfl,rfl,c,h⟩
   have hj1:∀(a7B:Int)(a7n:ByteArray) H w (_:Inv w0 ps0 H0 H [bx f 155 [(vs q)],bx j 25 (C7 x0),r] w) (_:a0r a7B a7n aa x0 H K),b8Y (vi a7B) (Value.string a7n) w R E:=by
    intro a7B a7n H w I h
    unfold b8Y
    intro _
    unfold a0r at h
    exact hR _ H _ _ I.drop.drop.drop ⟨a7n,a7B,rfl,rfl,h⟩
   refine s8 fun j1 hx1=>?_
   refine c7 (y6 _) (c7 a1L (d4 (l1 Tryz.isAgg153 p rfl) (c7 (a6T Tryz.underlying153 c) ?_)))
   refine a0V (σ:=Int×ByteArray×Int) (fun (b0m,a4g,X9)=>[(vi b0m),(Value.string a4g),(vi X9)]) (fun (b0m,a4g,X9)=>[bx f 155 [(vs q)],bx j 25 (C7 x0),r]) h rfl (((p.bring 1).bring 2).bring 2) ?_
   rintro ⟨b0m,a4g,X9⟩ H am w next2 n2 g I h hn2
   dsimp only at g I h
   simp only [List.map_cons,List.map_nil,List.cons.injEq,and_true] at g
   obtain ⟨e7,e9,e39⟩:=g
   simp only [e7,e9,e39]
   unfold c2H
   unfold a4Z at h
   refine c7 pLs ?_
   refine g9 h (fun _ h=>?_) (fun _ h=>?_)
   ·obtain ⟨s,b,i,h⟩:=h
    obtain ⟨an,ao,t,ap⟩:=c.addr i
    refine c7 (c2f t _ _ _ _ s (c.lt s i)) (d4 (ldA (vs:=(D9 b)) Tryz.isAgg158 Tryz.sizeOf158 rfl (c.atW (I.bring 2) t i)) ?_)
    refine y3 I Tryz.zeroValue158 (cs:=[(eS),(vi 0)]) rfl fun aq ar ab au=>?_
    refine A6 ab Tryz.sizeOf158 (vs:=(D9 b)) fun av a aw=>?_
    refine c7 b1g (d4 (l1 Tryz.isAgg9 a rfl) ?_)
    obtain ⟨ax,ac,h⟩:=h
    refine c3F (keyS Tryz.underlying9) Tryz.underlying66 (z:=0) Tryz.zeroValue3 a ac b.fname ?_
    refine c7 b9T (d4 (l1 Tryz.isAgg3 a rfl) (c7 pEq ?_))
    refine g9 h (fun _ h=>?_) (fun _ h=>?_)
    ·refine c7 pAd ?_
     exact hn2 (b0m,a4g,(IntKind.wrap .i64 (X9+1))) _ _ h (((a.drop.bring 2).bring 2).bring 2)
    ·refine c7 pEq ?_
     refine g9 h (fun _ h=>?_) (fun _ h=>?_)
     ·refine c7 b1g (d4 (l1 Tryz.isAgg9 a rfl) ?_)
      exact hx1 _ _ (hj1 63 b.fname H _ (((a.drop.bring 2).bring 2).bring 2) h)
     ·refine c7 b1g (d4 (l1 Tryz.isAgg9 a rfl) ?_)
      exact hx1 _ _ (hj1 64 b.fname H _ (((a.drop.bring 2).bring 2).bring 2) h)
   ·exact hx1 _ _ (hj1 b0m a4g H _ (((I.bring 2).bring 2).bring 2) h)
def a4h(x0:X6)(H:Hp)(K:Sl→Hp→Prop):Prop:=
 K (Sl.mk none 0 0) H
theorem b0n(x0){H K}(h:a4h x0 H K):a6D x0 H K:=by
 refine Ct.of fun w0 w ps0 H0 R E I hR=>c6n ?_
 unfold a4h at h
 unfold c8X
 refine D6 I (cs:=(m2 x0.a0L)) rfl fun b c a d=>?_
 exact hR _ H _ _ a.drop ⟨(Sl.mk none 0 0),rfl,rfl,h⟩
def a5K(x0:v6)(H:Hp)(K:g7→Hp→Prop):Prop:=
 K (g7.K7 (O6.mk x0)) H
theorem b2g(x0){H K}(h:a5K x0 H K):a7W x0 H K:=by
 refine Ct.of fun w0 w ps0 H0 R E I hR=>c6t ?_
 unfold a5K at h
 unfold c9d
 refine D6 I (cs:=(q8 x0)) rfl fun b c a d=>?_
 refine d4 (lW Tryz.isAgg123 Tryz.sizeOf123 rfl a) (c7 (b8j _ _ _ _ _ _) (c7 (b1w (O6.mk x0)) ?_))
 exact hR _ H _ _ a.drop ⟨(g7.K7 (O6.mk x0)),rfl,rfl,h⟩
def a4i(x0:T2)(H:Hp)(K:Sl→Hp→Prop):Prop:=
 J0 x0.i8.A0 H (fun d e=>
 C9 x0.i8.m9 e (fun f g=>
 C8 x0.i8.T0 g (fun i j=>
 C8 x0.i8.T1 j (fun k l=>
 ∀(a:Sl)(b:Hp),Hle l b→SlH b 1 csl a [d,f,i,k]→a.n≤a.c→
 G6 a b (fun m o=>
 K m o)))))
theorem b0o(x0){H K}(h:a4i x0 H K):a6E x0 H K:=by
 refine Ct.of fun w0 w ps0 H0 R E I hR=>c6p ?_
 unfold a4i at h
 unfold c8Z
 refine D6 I (cs:=(A8 x0.i8)) rfl fun ad ae i af=>?_
 refine N5 i fun ag a=>?_
 refine f8 E7 ?_
 refine f8 a5E ?_
 refine f8 E7 ?_
 refine f8 a7Q ?_
 refine f8 E7 ?_
 refine f8 a5D ?_
 refine f8 E7 ?_
 refine f8 a0Y ?_
 refine o3 (l1 Tryz.isAgg58 a rfl) ?_
 refine o3 (l1 Tryz.isAgg57 a rfl) ?_
 refine o3 (l1 Tryz.isAgg23 a rfl) ?_
 refine o3 (l1 Tryz.isAgg23 a rfl) ?_
 refine j6 Tryz.call159 h a ?_
 rintro _ ah _ ai b _ d ⟨j,rfl,rfl,h⟩
 refine ⟨(d _ a.lt1 (Inv.R6 (Fi:=[]) a)),(d _ a.lt1 (Inv.R6 (Fi:=[]) a)),(d _ a.lt1 (Inv.R6 (Fi:=[]) a)),?_⟩
 refine j6 Tryz.call161 h b ?_
 rintro _ aj _ ak f _ g ⟨k,rfl,rfl,h⟩
 refine ⟨(g _ b.lt1 (Inv.R6 (Fi:=[]) b)),(g _ b.lt1 (Inv.R6 (Fi:=[]) b)),?_⟩
 refine j6 Tryz.call121 h f ?_
 rintro _ _ _ al l _ m ⟨n,rfl,rfl,h⟩
 refine ⟨(m _ f.lt1 (Inv.R6 (Fi:=[]) f)),?_⟩
 refine j6 Tryz.call121 h l ?_
 rintro _ _ _ am o _ _ ⟨p,rfl,rfl,h⟩
 refine a0x (e:=179) (c:=csl) (xs:=[j,k,n,p]) o (c3J _ _ _ _ _ _ _ _ _ _ _ _) rfl rfl b3C b3D (nb rfl) fun q an ao r s ap=>?_
 obtain ⟨t,u,v,y,z⟩:=Inv.freezeC s r (by decide)
 replace h:=h q t v y z
 refine j6 Tryz.call118 h u ?_
 rintro _ aa _ aq ab _ _ ⟨ac,rfl,rfl,h⟩
 exact hR _ aa _ _ ab.drop ⟨ac,rfl,rfl,h⟩
def a4j(x0:T3)(H:Hp)(K:Sl→Hp→Prop):Prop:=
 C9 x0.u0.m9 H (fun d e=>
 J0 x0.u0.D7 e (fun f g=>
 ∀(a:Sl)(b:Hp),Hle g b→SlH b 1 csl a [d,f]→a.n≤a.c→
 G6 a b (fun i j=>
 K i j)))
theorem b0p(x0){H K}(h:a4j x0 H K):a6G x0 H K:=by
 refine Ct.of fun w0 w ps0 H0 R E I hR=>c6x ?_
 unfold a4j at h
 unfold c9h
 refine D6 I (cs:=(t6 x0.u0)) rfl fun v y b z=>?_
 refine N5 b fun aa a=>?_
 refine f8 S2 ?_
 refine f8 a8J ?_
 refine f8 S2 ?_
 refine f8 a3O ?_
 refine o3 (l1 Tryz.isAgg57 a rfl) ?_
 refine o3 (l1 Tryz.isAgg58 a rfl) ?_
 refine j6 Tryz.call161 h a ?_
 rintro _ _ _ ab d _ f ⟨g,rfl,rfl,h⟩
 refine ⟨(f _ a.lt1 (Inv.R6 (Fi:=[]) a)),?_⟩
 refine j6 Tryz.call159 h d ?_
 rintro _ _ _ ac i _ _ ⟨j,rfl,rfl,h⟩
 refine a0x (e:=179) (c:=csl) (xs:=[g,j]) i (b8f _ _ _ _ _ _) rfl rfl b3C b3D (nb rfl) fun k ad ae l m af=>?_
 obtain ⟨n,o,p,q,r⟩:=Inv.freezeC m l (by decide)
 replace h:=h k n p q r
 refine j6 Tryz.call118 h o ?_
 rintro _ s _ ag t _ _ ⟨u,rfl,rfl,h⟩
 exact hR _ s _ _ t.drop ⟨u,rfl,rfl,h⟩
end Go.Proofs.YtaokfhdinhimfaaGreatDoor
