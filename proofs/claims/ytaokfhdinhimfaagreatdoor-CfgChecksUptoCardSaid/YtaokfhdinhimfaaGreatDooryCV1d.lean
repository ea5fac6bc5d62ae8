/- Typed formulas of the program's functions, and the theorems that the contracts follow from them; printed by lift.py off the code. -/
import Derived.Test.YtaokfhdinhimfaaGreatDooryCV1
namespace Go.Proofs.YtaokfhdinhimfaaGreatDoor
open Go.RowKit
set_option maxRecDepth 100000
set_option maxHeartbeats 2000000
def M7(b3d:Int)(d1x:Int)(a5y:f7)(a9Y:Sl)(a8y:(List Bool))(a8z:(List Int))(H:Hp)(n2:(Int×f7×Sl×(List Bool)×(List Int))→Hp→Prop)(K:r5→(List Bool)→(List Int)→Hp→Prop):Prop:=
 n2 ((IntKind.wrap .i64 (d1x+1)),a5y,a9Y,a8y,a8z) H
def U2(b1m:Int)(a0p:f7)(N8:Sl)(a8A:(List Bool))(a6L:(List Int))(H:Hp)(K:r5→(List Bool)→(List Int)→Hp→Prop):Prop:=
 (a6L.length+([b1m]:List Int).length)*9≤140737488355328∧
 K (r5.mk a0p N8 (Sl.mk none 0 0) (Sl.mk none 0 0)) a8A (a6L++[b1m]) H
def U3(a2d:Int)(a5z:Int)(S9:f7)(M8:Sl)(a0g:(List Bool))(a0C:(List Int))(H:Hp)(n2:(Int×f7×Sl×(List Bool)×(List Int))→Hp→Prop)(K:r5→(List Bool)→(List Int)→Hp→Prop):Prop:=
 (0:Int)≤a2d∧(a2d:Int) < M8.n∧∃a:Sl,EltH H M8 a2d 1 [(vs a)]∧
 (a5z < (a.n:Int)→
 (0:Int)≤a5z∧(a5z:Int) < a.n∧∃b:Int,EltH H a a5z 1 [(vi b)]∧
 (0:Int)≤b∧(b:Int) < S9.p5.n∧∃c:d5,EltH H S9.p5 b 10 (i5 c)∧
 (0:Int)≤c.fTo∧∃d:Bool,(a0g)[(c.fTo:Int).toNat]? = some d∧
 ((!d)=true→
 X8 (r5.mk S9 M8 (Sl.mk none 0 0) (Sl.mk none 0 0)) a0g a0C c.fTo H (fun e f g i=>
 M7 a2d a5z e.fc e.fout f g i n2 K))∧
 ((!d)=false→
 M7 a2d a5z S9 M8 a0g a0C H n2 K))∧
 (¬(a5z < (a.n:Int))→
 U2 a2d S9 M8 a0g a0C H K)
def a1E(x0:r5)(a:(List Bool))(b:(List Int))(x1:Int)(H:Hp)(K:r5→(List Bool)→(List Int)→Hp→Prop):Prop:=
 (0:Int)≤x1∧∃c:Bool,(a)[(x1:Int).toNat]? = some c∧
 TL ((0,x0.fc,x0.fout,(a.set (x1:Int).toNat true),b):Int×f7×Sl×(List Bool)×(List Int)) H fun(s:Int×f7×Sl×(List Bool)×(List Int)) H n2=>U3 x1 s.1 s.2.1 s.2.2.1 s.2.2.2.1 s.2.2.2.2 H n2 K
theorem a8B(x0 i j x1){H K}(h:a1E x0 i j x1 H K):X8 x0 i j x1 H K:=by
 intro g0 ai bu aj ak m al
 refine Ct.of fun w0 w ps0 H0 R E I hR=>c8d ?_
 unfold a1E at h
 unfold F60
 refine c7 (y6 _) (c7 a9C (d4 (l1 Tryz.isAgg47 I rfl) ?_))
 obtain ⟨y,bv,o,h⟩:=h
 obtain ⟨bw,bz,z,ca⟩:=m.addr o
 refine c7 (a0y z _ _ _ _ y (m.lt y o)) ?_
 refine a2o (x:=true) (I.bring 1) m z (List.getElem?_eq_some_iff.1 o).1 Tryz.sizeOf4 rfl fun am cb an ao cc=>?_
 have hj1:∀(a0p:f7)(N8:Sl)(a8A:(List Bool))(a6L:(List Int))(b2x:Sl)(b2y:Frag)(b2z:Sl)(b4N:Frag) H w (_:RowL 4 1 L8 b2x a8A b2y) (_:RowL 3 1 r9 b2z a6L b4N) (_:Inv w0 ps0 H0 H [bx g0 96 [(vs a0p.t8),(vi a0p.o9),(vs a0p.o8),(vi a0p.d3),(vi a0p.v2),(vs a0p.p5),(vs N8),(vs b2x),(vs b2z)],b2y,b4N] w) (_:U2 x1 a0p N8 a8A a6L H K),b8W (Value.pointer (some ⟨g0,0,none⟩)) (vi x1) w R E:=by
  intro a0p N8 a8A a6L b2x b2y b2z b4N H w c3T c3U I h
  unfold b8W
  intro _
  unfold U2 at h
  refine c7 (y6 _) (c7 a9D (d4 (l1 Tryz.isAgg44 I rfl) ?_))
  refine a0x (e:=3) (c:=r9) (xs:=[x1]) I (a2p _) rfl rfl N0 N1 (nb rfl) fun cd ce cf ap aa cg=>?_
  obtain ⟨aq,h⟩:=h
  refine a5s (s:=b2z) (xs:=a6L) (aa.bring 3) c3U (ap.srcO ((aa.bring 3).bring 1)) aq fun ar au ch av aw ci=>?_
  refine c7 (y6 _) (c7 a9D ?_)
  refine P7 ((aw.bring 1).drop.bring 1) Tryz.sizeOf44 fun cj ax ck=>?_
  exact hR _ H _ _ (((ax.bring 1).bring 2).bring 2) ⟨(r5.mk a0p N8 (Sl.mk none 0 0) (Sl.mk none 0 0)),a8A,(a6L++[x1]),b2x,b2y,ar,au,rfl,rfl,c3T,av,h⟩
 refine s8 fun j1 hx1=>?_
 obtain ⟨p,f,ay,az⟩:=h
 refine I0 (J:=fun n l w=>∃(s:Int×f7×Sl×(List Bool)×(List Int))(H:Hp)(a8C:Sl)(a8D:Frag)(a8E:Sl)(a8F:Frag),n=f s∧l=(match s with | (a5z,S9,M8,a0g,a0C)=>[(vi a5z)])∧(match s with | (a5z,S9,M8,a0g,a0C)=>RowL 4 1 L8 a8C a0g a8D)∧(match s with | (a5z,S9,M8,a0g,a0C)=>RowL 3 1 r9 a8E a0C a8F)∧(match s with | (a5z,S9,M8,a0g,a0C)=>Inv w0 ps0 H0 H [bx g0 96 [(vs S9.t8),(vi S9.o9),(vs S9.o8),(vi S9.d3),(vi S9.v2),(vs S9.p5),(vs M8),(vs a8C),(vs a8E)],a8D,a8F] w)∧p s H) ⟨_,(0,x0.fc,x0.fout,(i.set (x1:Int).toNat true),j),H,ai,am,aj,ak,rfl,rfl,an,al,(((ao.bring 2).bring 1).bring 2),ay⟩ ?_
 rintro cl cm w next2 ⟨⟨a5z,S9,M8,a0g,a0C⟩,H,a8C,a8D,a8E,a8F,rfl,q,a7G,b2A,I,ba⟩ hn2
 dsimp only at q I a7G b2A
 simp only [List.map_cons,List.map_nil,List.cons.injEq,and_true] at q
 have e4:=q
 simp only [e4]
 obtain ⟨n2,hm2,h⟩:∃n2:(Int×f7×Sl×(List Bool)×(List Int))→Hp→Prop,(∀s' H',n2 s' H'→p s' H'∧f s' < f (a5z,S9,M8,a0g,a0C))∧U3 x1 a5z S9 M8 a0g a0C H n2 K:=⟨_,fun _ _ h=>h,az (a5z,S9,M8,a0g,a0C) H (fun s' H'=>p s' H'∧f s' < f (a5z,S9,M8,a0g,a0C)) ba (fun _ _ a b=>⟨a,b⟩)⟩
 unfold c2G
 unfold U3 at h
 refine c7 (y6 _) (c7 a9E (d4 (l1 Tryz.isAgg83 I rfl) ?_))
 obtain ⟨ab,ac,ad,g,h⟩:=h
 obtain ⟨cn,co,ae,g⟩:=g
 refine c7 (a2L ae _ _ _ _ ab ac) (d4 (ld1 (v:=(vs ad)) Tryz.isAgg44 (I.atH g)) (c7 (D3 _ _ _) (c7 pLs ?_)))
 refine g9 h (fun _ h=>?_) (fun _ h=>?_)
 ·have hj3:∀(a5y:f7)(a9Y:Sl)(a8y:(List Bool))(a8z:(List Int))(b2B:Sl)(b2C:Frag)(b2D:Sl)(b2E:Frag) H w (_:RowL 4 1 L8 b2B a8y b2C) (_:RowL 3 1 r9 b2D a8z b2E) (_:Inv w0 ps0 H0 H [bx g0 96 [(vs a5y.t8),(vi a5y.o9),(vs a5y.o8),(vi a5y.d3),(vi a5y.v2),(vs a5y.p5),(vs a9Y),(vs b2B),(vs b2D)],b2C,b2E] w) (_:M7 x1 a5z a5y a9Y a8y a8z H n2 K),b8X (Value.pointer (some ⟨g0,0,none⟩)) (vi x1) (vi a5z) w next2 R E:=by
   intro a5y a9Y a8y a8z b2B b2C b2D b2E H w c3V c3W I h
   unfold b8X
   intro _
   unfold M7 at h
   refine c7 pAd ?_
   exact hn2 _ _ _ (hm2 _ _ h).2 ⟨((IntKind.wrap .i64 (a5z+1)),a5y,a9Y,a8y,a8z),H,b2B,b2C,b2D,b2E,rfl,rfl,c3V,c3W,(((I.bring 2).bring 2).bring 2),(hm2 _ _ h).1⟩
  refine s8 fun j3 hx3=>?_
  refine N5 I fun cp d=>?_
  refine f8 (y6 _) ?_
  refine f8 c0Q ?_
  refine f8 o5 ?_
  refine f8 (y6 _) ?_
  refine f8 a9E ?_
  refine o3 (l1 Tryz.isAgg28 d rfl) ?_
  refine o3 (l1 Tryz.isAgg83 d rfl) ?_
  refine f8 (a2L ae _ _ _ _ ab ac) ?_
  refine o3 (ld1 (v:=(vs ad)) Tryz.isAgg44 (d.atH g)) ?_
  obtain ⟨bb,bc,bd,r,h⟩:=h
  obtain ⟨cq,cr,be,r⟩:=r
  refine f8 (J4 be _ _ _ _ bb bc) ?_
  refine o3 (ld1 (v:=(vi bd)) Tryz.isAgg3 (d.atH r)) ?_
  obtain ⟨bf,bg,bh,t,h⟩:=h
  obtain ⟨cs,ct,bi,t⟩:=t
  refine f8 (M9 bi _ _ _ _ bf bg) ?_
  refine f8 D8 ?_
  refine o3 (ld1 (v:=(vi bh.fTo)) Tryz.isAgg3 ((d.atH t).sub (k:=1) (n:=1) (nb rfl))) ?_
  refine c7 (y6 _) (c7 a9C (d4 (l1 Tryz.isAgg47 d rfl) ?_))
  obtain ⟨af,bj,u,h⟩:=h
  obtain ⟨cu,cv,ag,cw⟩:=a7G.addr u
  refine c7 (a0y ag _ _ _ _ af (a7G.lt af u)) (d4 (ld1 (v:=(vB bj)) Tryz.isAgg4 (a7G.atW (d.bring 1) ag u)) (c7 (p8 _) ?_))
  refine q9 h (fun _ h=>?_) (fun _ h=>?_)
  ·refine j6 Tryz.call60 (h g0 a8C a8D a8E a8F a7G b2A) (((d.bring 2).bring 2).bring 2) ?_
   rintro _ bk _ cx bl _ _ ⟨ah,bm,bn,bo,bp,bq,br,rfl,rfl,bs,bt,h⟩
   exact hx3 _ _ (hj3 ah.fc ah.fout bm bn bo bp bq br bk _ bs bt (((bl.bring 2).bring 2).bring 2) h)
  ·exact hx3 _ _ (hj3 S9 M8 a0g a0C a8C a8D a8E a8F H _ a7G b2A (((d.bring 2).bring 2).bring 2) h)
 ·exact hx1 _ _ (hj1 S9 M8 a0g a0C a8C a8D a8E a8F H _ a7G b2A (((I.bring 2).bring 2).bring 2) h)
def P3(b3X:(List Int))(d1y:Int)(a:r5)(b:f7)(H:Hp)(n3:((List Int)×Int)→Hp→Prop)(K:Sl→Hp→Prop):Prop:=
 n3 (b3X,(IntKind.wrap .i64 (d1y+1))) H
def Z5(a7X:(List Int))(b:r5)(d:f7)(H:Hp)(K:Sl→Hp→Prop):Prop:=
 ∀(a8P:Sl)(a:Hp),Hle H a→SlH a 1 r9 a8P a7X→a8P.n≤a8P.c→
 K a8P a
def Z6(a:r5)(b:f7)(a4W:(List Int))(a4v:Int)(H:Hp)(n3:((List Int)×Int)→Hp→Prop)(K:Sl→Hp→Prop):Prop:=
 (a4v < b.d3→
 (0:Int)≤a4v∧(a4v:Int) < a.fbegun.n∧∃c:Bool,EltH H a.fbegun a4v 1 [(vB c)]∧
 ((!c)=true→
 (a4W.length+([a4v]:List Int).length)*9≤140737488355328∧
 P3 (a4W++[a4v]) a4v a b H n3 K)∧
 ((!c)=false→
 P3 a4W a4v a b H n3 K))∧
 (¬(a4v < b.d3)→
 Z5 a4W a b H K)
def Z7(b3Y:(List Int))(a:r5)(b:f7)(H:Hp)(K:Sl→Hp→Prop):Prop:=
 TL ((b3Y,0):(List Int)×Int) H fun(s:(List Int)×Int) H n3=>Z6 a b s.1 s.2 H n3 K
def Z8(a:r5)(c:f7)(U1:(List Int))(U8:Int)(H:Hp)(n5:((List Int)×Int)→Hp→Prop)(K:Sl→Hp→Prop):Prop:=
 (0≤U8→
 (0:Int)≤U8∧(U8:Int) < a.fdone.n∧∃b:Int,EltH H a.fdone U8 1 [(vi b)]∧
 (U1.length+([b]:List Int).length)*9≤140737488355328∧
 n5 ((U1++[b]),(IntKind.wrap .i64 (U8-1))) H)∧
 (¬(0≤U8)→
 Z7 U1 a c H K)
def a3K(x0:f7)(H:Hp)(K:Sl→Hp→Prop):Prop:=
 a0Z x0 H (fun a b=>
 TL (([],(IntKind.wrap .i64 ((a.fdone.n:Int)-1))):(List Int)×Int) b fun(s:(List Int)×Int) H n5=>Z8 a x0 s.1 s.2 H n5 K)
theorem a9S(x0){H K}(h:a3K x0 H K):a0M x0 H K:=by
 refine Ct.of fun w0 w ps0 H0 R E I hR=>c7A ?_
 unfold a3K at h
 unfold F20
 refine D6 I (cs:=(g8 x0)) rfl fun f bi u bj=>?_
 refine d4 (lW Tryz.isAgg30 Tryz.sizeOf30 rfl u) ?_
 refine j6 Tryz.call43 h u ?_
 rintro _ ac _ bk y _ _ ⟨d,g,rfl,rfl,h⟩
 have hj1:∀(b3Y:(List Int))(b7y:Sl)(Fs4j1:Frag) H w (_:RowL 3 1 r9 b7y b3Y Fs4j1) (_:Inv w0 ps0 H0 H [bx g 96 (a0o d),bx f 30 (g8 x0),Fs4j1] w) (_:Z7 b3Y d x0 H K),b8D (Value.pointer (some ⟨f,0,none⟩)) (Value.pointer (some ⟨g,0,none⟩)) (vs b7y) w R E:=by
  intro b3Y b7y Fs4j1 H w d0v I h
  unfold b8D
  intro _
  unfold Z7 at h
  have hj2:∀(a7X:(List Int))(a8P:Sl)(Fs4j2:Frag) H w (_:RowL 3 1 r9 a8P a7X Fs4j2) (_:Inv w0 ps0 H0 H [bx g 96 (a0o d),bx f 30 (g8 x0),Fs4j2] w) (_:Z5 a7X d x0 H K),b8B (vs a8P) w R E:=by
   intro a7X a8P Fs4j2 H w c1m I h
   unfold b8B
   intro _
   unfold Z5 at h
   obtain ⟨z,ad,ae,af,ag⟩:=Inv.freezeC (I.bring 2) c1m (by decide)
   replace h:=h a8P z ae af ag
   exact hR _ z _ _ ad.drop.drop ⟨a8P,rfl,rfl,h⟩
  refine s8 fun j2 hx2=>?_
  obtain ⟨k,i,ah,ai⟩:=h
  refine I0 (J:=fun n l w=>∃(s:(List Int)×Int)(H:Hp)(b3Z:Sl)(Fs4l3:Frag),n=i s∧l=(match s with | (a4W,a4v)=>[(vs b3Z),(vi a4v)])∧(match s with | (a4W,a4v)=>RowL 3 1 r9 b3Z a4W Fs4l3)∧(match s with | (a4W,a4v)=>Inv w0 ps0 H0 H [bx g 96 (a0o d),bx f 30 (g8 x0),Fs4l3] w)∧k s H) ⟨_,(b3Y,0),H,b7y,Fs4j1,rfl,rfl,d0v,(((I.bring 2).bring 2).bring 2),ah⟩ ?_
  rintro bl bm w next3 ⟨⟨a4W,a4v⟩,H,b3Z,Fs4l3,rfl,m,b7z,I,aj⟩ hn3
  dsimp only at m I b7z
  simp only [List.map_cons,List.map_nil,List.cons.injEq,and_true] at m
  obtain ⟨e4,e6⟩:=m
  simp only [e4,e6]
  obtain ⟨n3,hm3,h⟩:∃n3:((List Int)×Int)→Hp→Prop,(∀s' H',n3 s' H'→k s' H'∧i s' < i (a4W,a4v))∧Z6 d x0 a4W a4v H n3 K:=⟨_,fun _ _ h=>h,ai (a4W,a4v) H (fun s' H'=>k s' H'∧i s' < i (a4W,a4v)) aj (fun _ _ a b=>⟨a,b⟩)⟩
  unfold c2u
  unfold Z6 at h
  refine c7 j9 (d4 (l1 Tryz.isAgg3 (I.bring 1) rfl) (c7 pLs ?_))
  refine g9 h (fun _ h=>?_) (fun _ h=>?_)
  ·have hj4:∀(b3X:(List Int))(b7A:Sl)(Fs4j4:Frag) H w (_:RowL 3 1 r9 b7A b3X Fs4j4) (_:Inv w0 ps0 H0 H [bx g 96 (a0o d),bx f 30 (g8 x0),Fs4j4] w) (_:P3 b3X a4v d x0 H n3 K),b8C (Value.pointer (some ⟨f,0,none⟩)) (Value.pointer (some ⟨g,0,none⟩)) (vs b7A) (vi a4v) w next3 R E:=by
    intro b3X b7A Fs4j4 H w d0w I h
    unfold b8C
    intro _
    unfold P3 at h
    refine c7 pAd ?_
    exact hn3 _ _ _ (hm3 _ _ h).2 ⟨(b3X,(IntKind.wrap .i64 (a4v+1))),H,b7A,Fs4j4,rfl,rfl,d0w,(((I.bring 2).bring 2).bring 2),(hm3 _ _ h).1⟩
   refine s8 fun j4 hx4=>?_
   refine c7 (y6 _) (c7 a9C (d4 (l1 Tryz.isAgg47 I rfl) ?_))
   obtain ⟨ak,al,am,o,h⟩:=h
   obtain ⟨bn,bo,an,o⟩:=o
   refine c7 (a0y an _ _ _ _ ak al) (d4 (ld1 (v:=(vB am)) Tryz.isAgg4 (I.atH o)) (c7 (p8 _) ?_))
   refine q9 h (fun _ h=>?_) (fun _ h=>?_)
   ·refine a0x (e:=3) (c:=r9) (xs:=[a4v]) I (a2p _) rfl rfl N0 N1 (nb rfl) fun bp bq br ao aa bs=>?_
    obtain ⟨ap,h⟩:=h
    refine a5s (s:=b3Z) (xs:=a4W) (aa.bring 3) b7z (ao.srcO ((aa.bring 3).bring 1)) ap fun aq ar bt au av bu=>?_
    exact hx4 _ _ (hj4 (a4W++[a4v]) aq ar H _ au (((av.bring 1).drop.bring 2).bring 2) h)
   ·exact hx4 _ _ (hj4 a4W b3Z Fs4l3 H _ b7z (((I.bring 2).bring 2).bring 2) h)
  ·exact hx2 _ _ (hj2 a4W b3Z Fs4l3 H _ b7z (((I.bring 2).bring 2).bring 2) h)
 refine s8 fun j1 hx1=>?_
 refine c7 (y6 _) (c7 a9D (d4 (l1 Tryz.isAgg44 y rfl) (c7 (D3 _ _ _) (c7 pSu ?_))))
 obtain ⟨p,j,aw,ax⟩:=h
 refine I0 (J:=fun n l w=>∃(s:(List Int)×Int)(H:Hp)(b5A:Sl)(Fs4l5:Frag),n=j s∧l=(match s with | (U1,U8)=>[(vs b5A),(vi U8)])∧(match s with | (U1,U8)=>RowL 3 1 r9 b5A U1 Fs4l5)∧(match s with | (U1,U8)=>Inv w0 ps0 H0 H [bx g 96 (a0o d),bx f 30 (g8 x0),Fs4l5] w)∧p s H) ⟨_,([],(IntKind.wrap .i64 ((d.fdone.n:Int)-1))),ac,(Sl.mk none 0 0),[],rfl,rfl,(RowL.nil N0 N1),((y.nil.bring 2).bring 2),aw⟩ ?_
 rintro bv bw w next5 ⟨⟨U1,U8⟩,H,b5A,Fs4l5,rfl,q,b2l,I,ay⟩ hn5
 dsimp only at q I b2l
 simp only [List.map_cons,List.map_nil,List.cons.injEq,and_true] at q
 obtain ⟨e4,e5⟩:=q
 simp only [e4,e5]
 obtain ⟨n5,hm5,h⟩:∃n5:((List Int)×Int)→Hp→Prop,(∀s' H',n5 s' H'→p s' H'∧j s' < j (U1,U8))∧Z8 d x0 U1 U8 H n5 K:=⟨_,fun _ _ h=>h,ax (U1,U8) H (fun s' H'=>p s' H'∧j s' < j (U1,U8)) ay (fun _ _ a b=>⟨a,b⟩)⟩
 unfold c2v
 unfold Z8 at h
 refine c7 pGe ?_
 refine g9 h (fun _ h=>?_) (fun _ h=>?_)
 ·refine c7 (y6 _) (c7 a9D (d4 (l1 Tryz.isAgg44 I rfl) ?_))
  obtain ⟨az,ba,r,t,h⟩:=h
  obtain ⟨bz,ca,bb,t⟩:=t
  refine c7 (J4 bb _ _ _ _ az ba) (d4 (ld1 (v:=(vi r)) Tryz.isAgg3 (I.atH t)) ?_)
  refine a0x (e:=3) (c:=r9) (xs:=[r]) I (a2p _) rfl rfl N0 N1 (nb rfl) fun cb cc cd bc ab ce=>?_
  obtain ⟨bd,h⟩:=h
  refine a5s (s:=b5A) (xs:=U1) (ab.bring 3) b2l (bc.srcO ((ab.bring 3).bring 1)) bd fun be bf cf bg bh cg=>?_
  refine c7 pSu ?_
  exact hn5 _ _ _ (hm5 _ _ h).2 ⟨((U1++[r]),(IntKind.wrap .i64 (U8-1))),H,be,bf,rfl,rfl,bg,(((bh.bring 1).drop.bring 2).bring 2),(hm5 _ _ h).1⟩
 ·exact hx1 _ _ (hj1 U1 b5A Fs4l5 H _ b2l (((I.bring 2).bring 2).bring 2) h)
def a4I(x0:Int)(H:Hp)(K:Int→Hp→Prop):Prop:=
 (x0=1→
 K 6 H)∧
 (¬(x0=1)→
 (x0=2→
 K 5 H)∧
 (¬(x0=2)→
 (x0=3→
 K 4 H)∧
 (¬(x0=3)→
 (x0=4→
 K 3 H)∧
 (¬(x0=4)→
 (x0=5→
 K 2 H)∧
 (¬(x0=5)→
 (x0=6→
 K 1 H)∧
 (¬(x0=6)→
 K 0 H))))))
theorem b0T(x0){H K}(h:a4I x0 H K):a4z x0 H K:=by
 refine Ct.of fun w0 w ps0 H0 R E I hR=>c7V ?_
 unfold a4I at h
 unfold F52
 refine c7 pEq ?_
 refine g9 h (fun _ h=>?_) (fun _ h=>?_)
 ·exact hR _ H _ _ I ⟨6,rfl,rfl,h⟩
 ·refine c7 pEq ?_
  refine g9 h (fun _ h=>?_) (fun _ h=>?_)
  ·exact hR _ H _ _ I ⟨5,rfl,rfl,h⟩
  ·refine c7 pEq ?_
   refine g9 h (fun _ h=>?_) (fun _ h=>?_)
   ·exact hR _ H _ _ I ⟨4,rfl,rfl,h⟩
   ·refine c7 pEq ?_
    refine g9 h (fun _ h=>?_) (fun _ h=>?_)
    ·exact hR _ H _ _ I ⟨3,rfl,rfl,h⟩
    ·refine c7 pEq ?_
     refine g9 h (fun _ h=>?_) (fun _ h=>?_)
     ·exact hR _ H _ _ I ⟨2,rfl,rfl,h⟩
     ·refine c7 pEq ?_
      refine g9 h (fun _ h=>?_) (fun _ h=>?_)
      ·exact hR _ H _ _ I ⟨1,rfl,rfl,h⟩
      ·exact hR _ H _ _ I ⟨0,rfl,rfl,h⟩
def a2k(x0:m3)(x1:Bool)(x2:Int)(H:Hp)(K:Bool→Hp→Prop):Prop:=
 ((!x1)=true→
 a3X H (fun a b=>
 K (decide (x0.y8=a.y8∧x0.u1=a.u1)) b))∧
 ((!x1)=false→
 K ((decide (x0.y8=(-1)))||(((decide (0≤x0.y8))&&(decide (x0.y8 < x2)))&&(decide (x0.u1=0)))) H)
theorem a9d(x0 x1 x2){H K}(h:a2k x0 x1 x2 H K):a0h x0 x1 x2 H K:=by
 refine Ct.of fun w0 w ps0 H0 R E I hR=>c7U ?_
 unfold a2k at h
 unfold F51
 refine D6 I (cs:=(i7 x0)) rfl fun l m c n=>?_
 refine c7 (p8 _) ?_
 refine q9 h (fun _ h=>?_) (fun _ h=>?_)
 ·refine N5 c fun o d=>?_
  refine o3 (lW Tryz.isAgg38 Tryz.sizeOf38 rfl d) ?_
  refine j6 Tryz.call91 h d ?_
  rintro _ i _ p j _ k ⟨f,rfl,rfl,h⟩
  refine ⟨(k _ d.lt1 (Inv.R6 (Fi:=[]) d)),?_⟩
  refine f8 (E4 _ _ _ _ _ _) ?_
  exact hR _ i _ _ j.drop ⟨(decide (x0.y8=f.y8∧x0.u1=f.u1)),rfl,rfl,h⟩
 ·refine c7 K4 (d4 (l1 Tryz.isAgg3 c rfl) (c7 pEq ?_))
  refine c7 (Pu.g fun hb=>by have a:=hb;first | with_reducible exact K4 | (simp only [c6 a,c5 a,c5 hb,d8 a];with_reducible exact K4) | (simp only [c6 a,c5 a,c5 hb,d9 a,c8];with_reducible exact K4) | exact K4 | (simp only [c6 a,c5 a,c5 hb,d8 a];exact K4) | (simp only [c6 a,c5 a,c5 hb,d9 a,c8];exact K4)) ?_
  refine d4 (Ld.g fun hb=>by have a:=hb;first | exact (l1 Tryz.isAgg3 c rfl) | (simp only [c6 a,c5 a,c5 hb,d8 a];exact (l1 Tryz.isAgg3 c rfl)) | (simp only [c6 a,c5 a,c5 hb,d9 a,c8];exact (l1 Tryz.isAgg3 c rfl))) ?_
  refine c7 (Pu.g fun hb=>by have a:=hb;first | with_reducible exact pGe | (simp only [c6 a,c5 a,c5 hb,d8 a];with_reducible exact pGe) | (simp only [c6 a,c5 a,c5 hb,d9 a,c8];with_reducible exact pGe) | exact pGe | (simp only [c6 a,c5 a,c5 hb,d8 a];exact pGe) | (simp only [c6 a,c5 a,c5 hb,d9 a,c8];exact pGe)) ?_
  try simp only [B8,G9,B9,C1,C3,C5,C0,C2,C4,C6]
  refine c7 (Pu.e (Q9 _ _ _) (Pu.g fun hb=>by obtain ⟨a,b⟩:=a0K hb;first | with_reducible exact K4 | (simp only [c6 a,c5 a,c6 b,c5 b,c5 hb,c8];with_reducible exact K4) | (simp only [c6 a,c5 a,c6 b,c5 b,c5 hb,d6 hb];with_reducible exact K4) | (simp only [c6 a,c5 a,c6 b,c5 b,c5 hb,d7 hb,c8];with_reducible exact K4) | exact K4 | (simp only [c6 a,c5 a,c6 b,c5 b,c5 hb,c8];exact K4) | (simp only [c6 a,c5 a,c6 b,c5 b,c5 hb,d6 hb];exact K4) | (simp only [c6 a,c5 a,c6 b,c5 b,c5 hb,d7 hb,c8];exact K4))) ?_
  refine d4 (Ld.e (Q9 _ _ _) (Ld.g fun hb=>by obtain ⟨a,b⟩:=a0K hb;first | exact (l1 Tryz.isAgg3 c rfl) | (simp only [c6 a,c5 a,c6 b,c5 b,c5 hb,c8];exact (l1 Tryz.isAgg3 c rfl)) | (simp only [c6 a,c5 a,c6 b,c5 b,c5 hb,d6 hb];exact (l1 Tryz.isAgg3 c rfl)) | (simp only [c6 a,c5 a,c6 b,c5 b,c5 hb,d7 hb,c8];exact (l1 Tryz.isAgg3 c rfl)))) ?_
  try simp only [B8,G9,B9,C1,C3,C5,C0,C2,C4,C6]
  refine c7 (Pu.e (Q9 _ _ _) (Pu.g fun hb=>by obtain ⟨a,b⟩:=a0K hb;first | with_reducible exact pLs | (simp only [c6 a,c5 a,c6 b,c5 b,c5 hb,c8];with_reducible exact pLs) | (simp only [c6 a,c5 a,c6 b,c5 b,c5 hb,d6 hb];with_reducible exact pLs) | (simp only [c6 a,c5 a,c6 b,c5 b,c5 hb,d7 hb,c8];with_reducible exact pLs) | exact pLs | (simp only [c6 a,c5 a,c6 b,c5 b,c5 hb,c8];exact pLs) | (simp only [c6 a,c5 a,c6 b,c5 b,c5 hb,d6 hb];exact pLs) | (simp only [c6 a,c5 a,c6 b,c5 b,c5 hb,d7 hb,c8];exact pLs))) ?_
  refine c7 (Pu.g fun hb=>by have a:=hb;first | with_reducible exact (p9 _ _) | (simp only [c6 a,c5 a,c5 hb,d8 a];with_reducible exact (p9 _ _)) | (simp only [c6 a,c5 a,c5 hb,d9 a,c8];with_reducible exact (p9 _ _)) | exact (p9 _ _) | (simp only [c6 a,c5 a,c5 hb,d8 a];exact (p9 _ _)) | (simp only [c6 a,c5 a,c5 hb,d9 a,c8];exact (p9 _ _))) ?_
  try simp only [B8,G9,B9,C1,C3,C5,C0,C2,C4,C6]
  refine c7 (Pu.e (Q9 _ _ _) (Pu.g fun hb=>by obtain ⟨a,b⟩:=a0K hb;first | with_reducible exact R4 | (simp only [c6 a,c5 a,c6 b,c5 b,c5 hb,c8];with_reducible exact R4) | (simp only [c6 a,c5 a,c6 b,c5 b,c5 hb,d6 hb];with_reducible exact R4) | (simp only [c6 a,c5 a,c6 b,c5 b,c5 hb,d7 hb,c8];with_reducible exact R4) | exact R4 | (simp only [c6 a,c5 a,c6 b,c5 b,c5 hb,c8];exact R4) | (simp only [c6 a,c5 a,c6 b,c5 b,c5 hb,d6 hb];exact R4) | (simp only [c6 a,c5 a,c6 b,c5 b,c5 hb,d7 hb,c8];exact R4))) ?_
  refine d4 (Ld.e (Q9 _ _ _) (Ld.g fun hb=>by obtain ⟨a,b⟩:=a0K hb;first | exact (l1 Tryz.isAgg2 c rfl) | (simp only [c6 a,c5 a,c6 b,c5 b,c5 hb,c8];exact (l1 Tryz.isAgg2 c rfl)) | (simp only [c6 a,c5 a,c6 b,c5 b,c5 hb,d6 hb];exact (l1 Tryz.isAgg2 c rfl)) | (simp only [c6 a,c5 a,c6 b,c5 b,c5 hb,d7 hb,c8];exact (l1 Tryz.isAgg2 c rfl)))) ?_
  refine c7 (Pu.e (Q9 _ _ _) (Pu.g fun hb=>by obtain ⟨a,b⟩:=a0K hb;first | with_reducible exact pEq | (simp only [c6 a,c5 a,c6 b,c5 b,c5 hb,c8];with_reducible exact pEq) | (simp only [c6 a,c5 a,c6 b,c5 b,c5 hb,d6 hb];with_reducible exact pEq) | (simp only [c6 a,c5 a,c6 b,c5 b,c5 hb,d7 hb,c8];with_reducible exact pEq) | exact pEq | (simp only [c6 a,c5 a,c6 b,c5 b,c5 hb,c8];exact pEq) | (simp only [c6 a,c5 a,c6 b,c5 b,c5 hb,d6 hb];exact pEq) | (simp only [c6 a,c5 a,c6 b,c5 b,c5 hb,d7 hb,c8];exact pEq))) ?_
  refine c7 (Pu.g fun hb=>by have a:=hb;first | with_reducible exact (p9 _ _) | (simp only [c6 a,c5 a,c5 hb,d8 a];with_reducible exact (p9 _ _)) | (simp only [c6 a,c5 a,c5 hb,d9 a,c8];with_reducible exact (p9 _ _)) | exact (p9 _ _) | (simp only [c6 a,c5 a,c5 hb,d8 a];exact (p9 _ _)) | (simp only [c6 a,c5 a,c5 hb,d9 a,c8];exact (p9 _ _))) ?_
  refine c7 (B4 _ _) ?_
  exact hR _ H _ _ c.drop ⟨((decide (x0.y8=(-1)))||(((decide (0≤x0.y8))&&(decide (x0.y8 < x2)))&&(decide (x0.u1=0)))),rfl,rfl,h⟩
def a2l(x0:j8)(x1:Int)(H:Hp)(K:Bool→Hp→Prop):Prop:=
 K ((decide (0≤x1))&&(decide (x1 < (IntKind.wrap .i64 ((x0.y9.t8.n:Int)+x0.y9.o9))))) H
theorem a9e(x0 x1){H K}(h:a2l x0 x1 H K):a0i x0 x1 H K:=by
 refine Ct.of fun w0 w ps0 H0 R E I hR=>c7Y ?_
 unfold a2l at h
 unfold F55
 refine D6 I (cs:=(g8 x0.y9)) rfl fun c d b e=>?_
 refine c7 pGe ?_
 try simp only [B8,G9,B9,C1,C3,C5,C0,C2,C4,C6]
 refine c7 (Pu.g fun hb=>by have a:=hb;first | with_reducible exact E2 | (simp only [c6 a,c5 a,c5 hb,d6 a];with_reducible exact E2) | (simp only [c6 a,c5 a,c5 hb,d7 a,c8];with_reducible exact E2) | exact E2 | (simp only [c6 a,c5 a,c5 hb,d6 a];exact E2) | (simp only [c6 a,c5 a,c5 hb,d7 a,c8];exact E2)) ?_
 refine c7 (Pu.g fun hb=>by have a:=hb;first | with_reducible exact J7 | (simp only [c6 a,c5 a,c5 hb,d6 a];with_reducible exact J7) | (simp only [c6 a,c5 a,c5 hb,d7 a,c8];with_reducible exact J7) | exact J7 | (simp only [c6 a,c5 a,c5 hb,d6 a];exact J7) | (simp only [c6 a,c5 a,c5 hb,d7 a,c8];exact J7)) ?_
 refine d4 (Ld.g fun hb=>by have a:=hb;first | exact (l1 Tryz.isAgg27 b rfl) | (simp only [c6 a,c5 a,c5 hb,d6 a];exact (l1 Tryz.isAgg27 b rfl)) | (simp only [c6 a,c5 a,c5 hb,d7 a,c8];exact (l1 Tryz.isAgg27 b rfl))) ?_
 refine c7 (Pu.g fun hb=>by have a:=hb;first | with_reducible exact (K6 _ _ _) | (simp only [c6 a,c5 a,c5 hb,d6 a];with_reducible exact (K6 _ _ _)) | (simp only [c6 a,c5 a,c5 hb,d7 a,c8];with_reducible exact (K6 _ _ _)) | exact (K6 _ _ _) | (simp only [c6 a,c5 a,c5 hb,d6 a];exact (K6 _ _ _)) | (simp only [c6 a,c5 a,c5 hb,d7 a,c8];exact (K6 _ _ _))) ?_
 refine c7 (Pu.g fun hb=>by have a:=hb;first | with_reducible exact E2 | (simp only [c6 a,c5 a,c5 hb,d6 a];with_reducible exact E2) | (simp only [c6 a,c5 a,c5 hb,d7 a,c8];with_reducible exact E2) | exact E2 | (simp only [c6 a,c5 a,c5 hb,d6 a];exact E2) | (simp only [c6 a,c5 a,c5 hb,d7 a,c8];exact E2)) ?_
 refine c7 (Pu.g fun hb=>by have a:=hb;first | with_reducible exact z7 | (simp only [c6 a,c5 a,c5 hb,d6 a];with_reducible exact z7) | (simp only [c6 a,c5 a,c5 hb,d7 a,c8];with_reducible exact z7) | exact z7 | (simp only [c6 a,c5 a,c5 hb,d6 a];exact z7) | (simp only [c6 a,c5 a,c5 hb,d7 a,c8];exact z7)) ?_
 refine d4 (Ld.g fun hb=>by have a:=hb;first | exact (l1 Tryz.isAgg3 b rfl) | (simp only [c6 a,c5 a,c5 hb,d6 a];exact (l1 Tryz.isAgg3 b rfl)) | (simp only [c6 a,c5 a,c5 hb,d7 a,c8];exact (l1 Tryz.isAgg3 b rfl))) ?_
 refine c7 (Pu.g fun hb=>by have a:=hb;first | with_reducible exact pAd | (simp only [c6 a,c5 a,c5 hb,d6 a];with_reducible exact pAd) | (simp only [c6 a,c5 a,c5 hb,d7 a,c8];with_reducible exact pAd) | exact pAd | (simp only [c6 a,c5 a,c5 hb,d6 a];exact pAd) | (simp only [c6 a,c5 a,c5 hb,d7 a,c8];exact pAd)) ?_
 refine c7 (Pu.g fun hb=>by have a:=hb;first | with_reducible exact pLs | (simp only [c6 a,c5 a,c5 hb,d6 a];with_reducible exact pLs) | (simp only [c6 a,c5 a,c5 hb,d7 a,c8];with_reducible exact pLs) | exact pLs | (simp only [c6 a,c5 a,c5 hb,d6 a];exact pLs) | (simp only [c6 a,c5 a,c5 hb,d7 a,c8];exact pLs)) ?_
 refine c7 (p9 _ _) ?_
 exact hR _ H _ _ b.drop ⟨((decide (0≤x1))&&(decide (x1 < (IntKind.wrap .i64 ((x0.y9.t8.n:Int)+x0.y9.o9))))),rfl,rfl,h⟩
def a7H(x0:Bool)(x1:Bool)(x2:Bool)(H:Hp)(K:Bool→Hp→Prop):Prop:=
 (x0=true→
 K x1 H)∧
 (x0=false→
 K x2 H)
theorem b4O(x0 x1 x2){H K}(h:a7H x0 x1 x2 H K):a0A x0 x1 x2 H K:=by
 refine Ct.of fun w0 w ps0 H0 R E I hR=>c7X ?_
 unfold a7H at h
 unfold F54
 refine q9 h (fun _ h=>?_) (fun _ h=>?_)
 ·exact hR _ H _ _ I ⟨x1,rfl,rfl,h⟩
 ·exact hR _ H _ _ I ⟨x2,rfl,rfl,h⟩
def a3d(x0:j8)(x1:m3)(H:Hp)(K:Bool→Hp→Prop):Prop:=
 TG ((decide (x1.y8=(-1)))=false) (a0i x0 x1.y8 H) false H (fun(a:Bool)(b:Hp)=>
 K ((decide (x1.y8=(-1)))||(a&&(decide (x1.u1=0)))) b)
theorem a9t(x0 x1){H K}(h:a3d x0 x1 H K):a0s x0 x1 H K:=by
 refine Ct.of fun w0 w ps0 H0 R E I hR=>c8a ?_
 unfold a3d at h
 unfold F57
 refine D6 I (cs:=(g8 x0.y9)) rfl fun o p m q=>?_
 refine D6 m (cs:=(i7 x1)) rfl fun r s c t=>?_
 refine c7 K4 (d4 (l1 Tryz.isAgg3 c rfl) (c7 pEq ?_))
 refine d4 (Ld.g fun hb=>by have a:=hb;first | exact (lW Tryz.isAgg90 Tryz.sizeOf90 rfl (c.bring 1)) | (simp only [c6 a,c5 a,c5 hb,d8 a];exact (lW Tryz.isAgg90 Tryz.sizeOf90 rfl (c.bring 1))) | (simp only [c6 a,c5 a,c5 hb,d9 a,c8];exact (lW Tryz.isAgg90 Tryz.sizeOf90 rfl (c.bring 1)))) ?_
 refine c7 (Pu.g fun hb=>by have a:=hb;first | with_reducible exact K4 | (simp only [c6 a,c5 a,c5 hb,d8 a];with_reducible exact K4) | (simp only [c6 a,c5 a,c5 hb,d9 a,c8];with_reducible exact K4) | exact K4 | (simp only [c6 a,c5 a,c5 hb,d8 a];exact K4) | (simp only [c6 a,c5 a,c5 hb,d9 a,c8];exact K4)) ?_
 refine d4 (Ld.g fun hb=>by have a:=hb;first | exact (l1 Tryz.isAgg3 c rfl) | (simp only [c6 a,c5 a,c5 hb,d8 a];exact (l1 Tryz.isAgg3 c rfl)) | (simp only [c6 a,c5 a,c5 hb,d9 a,c8];exact (l1 Tryz.isAgg3 c rfl))) ?_
 refine R1 [] (fun f:Bool=>(vB f)) h c (fun j h=>?_) fun f i n d k l h=>?_
 ·have a:=j
  try simp only [c6 a,c5 a,c5 j]
  refine j6 Tryz.call55 h c ?_
  rintro _ i _ n d l k ⟨f,rfl,rfl,h⟩
  exact ⟨f,i,rfl,d,k,l,h⟩
 try simp only [B8,G9,B9,C1,C3,C5,C0,C2,C4,C6]
 refine c7 (Pu.e (Q9 _ _ _) (Pu.g fun hb=>by obtain ⟨a,b⟩:=a0K hb;first | with_reducible exact R4 | (simp only [c6 a,c5 a,c6 b,c5 b,c5 hb,c8];with_reducible exact R4) | (simp only [c6 a,c5 a,c6 b,c5 b,c5 hb,d6 hb];with_reducible exact R4) | (simp only [c6 a,c5 a,c6 b,c5 b,c5 hb,d7 hb,c8];with_reducible exact R4) | exact R4 | (simp only [c6 a,c5 a,c6 b,c5 b,c5 hb,c8];exact R4) | (simp only [c6 a,c5 a,c6 b,c5 b,c5 hb,d6 hb];exact R4) | (simp only [c6 a,c5 a,c6 b,c5 b,c5 hb,d7 hb,c8];exact R4))) ?_
 refine d4 (Ld.e (Q9 _ _ _) (Ld.g fun hb=>by obtain ⟨a,b⟩:=a0K hb;first | exact (l1 Tryz.isAgg2 d rfl) | (simp only [c6 a,c5 a,c6 b,c5 b,c5 hb,c8];exact (l1 Tryz.isAgg2 d rfl)) | (simp only [c6 a,c5 a,c6 b,c5 b,c5 hb,d6 hb];exact (l1 Tryz.isAgg2 d rfl)) | (simp only [c6 a,c5 a,c6 b,c5 b,c5 hb,d7 hb,c8];exact (l1 Tryz.isAgg2 d rfl)))) ?_
 refine c7 (Pu.e (Q9 _ _ _) (Pu.g fun hb=>by obtain ⟨a,b⟩:=a0K hb;first | with_reducible exact pEq | (simp only [c6 a,c5 a,c6 b,c5 b,c5 hb,c8];with_reducible exact pEq) | (simp only [c6 a,c5 a,c6 b,c5 b,c5 hb,d6 hb];with_reducible exact pEq) | (simp only [c6 a,c5 a,c6 b,c5 b,c5 hb,d7 hb,c8];with_reducible exact pEq) | exact pEq | (simp only [c6 a,c5 a,c6 b,c5 b,c5 hb,c8];exact pEq) | (simp only [c6 a,c5 a,c6 b,c5 b,c5 hb,d6 hb];exact pEq) | (simp only [c6 a,c5 a,c6 b,c5 b,c5 hb,d7 hb,c8];exact pEq))) ?_
 refine c7 (Pu.g fun hb=>by have a:=hb;first | with_reducible exact (p9 _ _) | (simp only [c6 a,c5 a,c5 hb,d8 a];with_reducible exact (p9 _ _)) | (simp only [c6 a,c5 a,c5 hb,d9 a,c8];with_reducible exact (p9 _ _)) | exact (p9 _ _) | (simp only [c6 a,c5 a,c5 hb,d8 a];exact (p9 _ _)) | (simp only [c6 a,c5 a,c5 hb,d9 a,c8];exact (p9 _ _))) ?_
 refine c7 (B4 _ _) ?_
 exact hR _ i _ _ d.drop.drop ⟨((decide (x1.y8=(-1)))||(f&&(decide (x1.u1=0)))),rfl,rfl,h⟩
def a8b(H:Hp)(K:m3→Hp→Prop):Prop:=
 K (m3.mk (-1) 0) H
theorem b2F{H K}(h:a8b H K):T4 H K:=by
 refine Ct.of fun w0 w ps0 H0 R E I hR=>c8b ?_
 unfold a8b at h
 unfold F58
 refine y3 I Tryz.zeroValue38 (cs:=[(vi 0),(vi 0)]) rfl fun c d b e=>?_
 refine c7 (P6 _) ?_
 refine A6 b Tryz.sizeOf38 (vs:=[(vi (-1)),(vi 0)]) fun f a g=>?_
 refine X5 Tryz.isAgg38 Tryz.sizeOf38 rfl a ?_
 exact hR _ H _ _ a.drop ⟨(m3.mk (-1) 0),rfl,rfl,h⟩
def V3(d1P:Int)(d0x:Int)(a:(List Int))(b:(List Bool))(c:Sl)(d:f7)(H:Hp)(n2:(Int×(List Int))→Hp→Prop)(K:Sl→Int→Hp→Prop):Prop:=
 n2 ((IntKind.wrap .i64 (d0x+1)),a) H
def a2G(e:(List Bool))(f:Sl)(g:f7)(d:(List Int))(H:Hp)(K:Sl→Int→Hp→Prop):Prop:=
 ∀(a:Sl)(b:Hp),Hle H b→SlH b 1 r9 a d→a.n≤a.c→
 K a 0 b
def a2H(b7B:Int)(a:(List Bool))(c:Sl)(d:f7)(a1r:Int)(b:(List Int))(H:Hp)(n2:(Int×(List Int))→Hp→Prop)(K:Sl→Int→Hp→Prop):Prop:=
 (a1r < b7B→
 (0:Int)≤a1r∧∃e:Bool,(a)[(a1r:Int).toNat]? = some e∧
 ((!e)=true→
 (b.length+([a1r]:List Int).length)*9≤140737488355328∧
 V3 b7B a1r (b++[a1r]) a c d H n2 K)∧
 ((!e)=false→
 V3 b7B a1r b a c d H n2 K))∧
 (¬(a1r < b7B)→
 a2G a c d b H K)
def a6M(x0:f7)(H:Hp)(K:Sl→Int→Hp→Prop):Prop:=
 S4 x0 H (fun a b=>
 (¬(a=0)→
 K (Sl.mk none 0 0) a b)∧
 (a=0→
 a3h x0 b (fun c d=>
 (0:Int)≤x0.d3∧x0.d3*2≤140737488355328∧
 a3p 0 (Sl.mk none 0 0) (List.replicate (x0.d3:Int).toNat false) c x0 (Sl.mk none 0 0) [] d (fun i y0__71 j y1__71 e=>
 a4b y1__71 e (fun f g=>
 TL ((0,f):Int×(List Int)) g fun(s:Int×(List Int)) H n2=>a2H x0.d3 y0__71 c x0 s.1 s.2 H n2 K)))))
theorem b3l(x0){H K}(h:a6M x0 H K):a1V x0 H K:=by
 refine Ct.of fun w0 w ps0 H0 R E I hR=>c7u ?_
 unfold a6M at h
 unfold F14
 refine D6 I (cs:=(g8 x0)) rfl fun i cc ag cd=>?_
 refine d4 (lW Tryz.isAgg30 Tryz.sizeOf30 rfl ag) ?_
 refine j6 Tryz.call15 h ag ?_
 rintro _ ar _ ce aa _ _ ⟨au,rfl,rfl,h⟩
 refine c7 pNe ?_
 refine a0e h (fun _ h=>?_) (fun _ h=>?_)
 ·exact hR _ ar _ _ aa.drop ⟨(Sl.mk none 0 0),au,rfl,rfl,h⟩
 ·refine d4 (lW Tryz.isAgg30 Tryz.sizeOf30 rfl aa) ?_
  refine j6 Tryz.call36 h aa ?_
  rintro _ _ _ cf av _ _ ⟨m,rfl,rfl,h⟩
  refine y3 av Tryz.zeroValue83 (cs:=[(nS)]) rfl fun j cg aw ch=>?_
  refine A6 aw Tryz.sizeOf83 (vs:=[(vs m)]) fun ci ah cj=>?_
  refine c7 j9 (d4 (l1 Tryz.isAgg3 (ah.bring 1) rfl) ?_)
  obtain ⟨ax,ay,h⟩:=h
  refine b1u ah ax ay fun ai az ck ba bb cl=>?_
  refine y3 bb Tryz.zeroValue47 (cs:=[(nS)]) rfl fun g cm bc cn=>?_
  refine A6 bc Tryz.sizeOf47 (vs:=[(vs ai)]) fun co bd cp=>?_
  refine y3 bd Tryz.zeroValue44 (cs:=[(nS)]) rfl fun f cq be cr=>?_
  refine y3 be Tryz.zeroValue87 (cs:=[Value.nilFunc]) rfl fun k ct bf cu=>?_
  refine c7 (a6i _ _ _) ?_
  refine A6 bf Tryz.sizeOf87 (vs:=[(Value.func (.func 38) #[] #[(Value.pointer (some ⟨g,0,none⟩)),(Value.pointer (some ⟨j,0,none⟩)),(Value.pointer (some ⟨i,0,none⟩)),(Value.pointer (some ⟨k,0,none⟩)),(Value.pointer (some ⟨f,0,none⟩))])]) fun cv aj cw=>?_
  refine d4 (l1 Tryz.isAgg87 aj rfl) ?_
  refine a5p (cap:=[(Value.pointer (some ⟨g,0,none⟩)),(Value.pointer (some ⟨j,0,none⟩)),(Value.pointer (some ⟨i,0,none⟩)),(Value.pointer (some ⟨k,0,none⟩)),(Value.pointer (some ⟨f,0,none⟩))]) Tryz.call38 (h g j i k f ai az (Sl.mk none 0 0) ([]) ba (RowL.nil (e:=3) N0 N1)) ((((((aj.nil.bring 2).bring 2).bring 6).bring 6).bring 6).bring 6) ?_
  rintro _ _ _ cx ak _ _ ⟨cy,y0__71,cz,y1__71,sy0__71,Fy0__71,sy1__71,Fy1__71,rfl,rfl,hy0__71,hy1__71,h⟩
  refine d4 (l1 Tryz.isAgg44 (ak.bring 5) rfl) ?_
  refine j6 Tryz.call39 (h sy1__71 Fy1__71 hy1__71) (ak.bring 6) ?_
  rintro _ bg _ da al _ _ ⟨bh,bi,rfl,rfl,bj,h⟩
  have hj1:∀(ab:(List Int))(p:Sl)(ac:Frag) H w (_:RowL 3 1 r9 p ab ac) (_:Inv w0 ps0 H0 H [bx g 47 [(vs sy0__71)],bx j 83 [(vs m)],bx i 30 (g8 x0),bx k 87 [(Value.func (.func 38) #[] #[(Value.pointer (some ⟨g,0,none⟩)),(Value.pointer (some ⟨j,0,none⟩)),(Value.pointer (some ⟨i,0,none⟩)),(Value.pointer (some ⟨k,0,none⟩)),(Value.pointer (some ⟨f,0,none⟩))])],bx f 44 [(vs p)],Fy0__71,ac] w) (_:a2G y0__71 m x0 ab H K),b8o (Value.pointer (some ⟨f,0,none⟩)) w R E:=by
   intro ab p ac H w bk I h
   unfold b8o
   intro _
   unfold a2G at h
   refine d4 (l1 Tryz.isAgg44 (I.bring 4) rfl) ?_
   obtain ⟨am,bl,bm,bn,bo⟩:=Inv.freezeC (I.bring 6) bk (by decide)
   replace h:=h p am bm bn bo
   exact hR _ am _ _ bl.drop.drop.drop.drop.drop.drop ⟨p,0,rfl,rfl,h⟩
  refine s8 fun j1 hx1=>?_
  refine c7 j9 (d4 (l1 Tryz.isAgg3 (al.bring 4) rfl) ?_)
  obtain ⟨ad,q,bp,bq⟩:=h
  refine I0 (J:=fun n l w=>∃(s:Int×(List Int))(H:Hp)(o:Sl)(r:Frag),n=q s∧l=(match s with | (a1r,d)=>[(vi a1r)])∧(match s with | (a1r,d)=>RowL 3 1 r9 o d r)∧(match s with | (a1r,d)=>Inv w0 ps0 H0 H [bx g 47 [(vs sy0__71)],bx j 83 [(vs m)],bx i 30 (g8 x0),bx k 87 [(Value.func (.func 38) #[] #[(Value.pointer (some ⟨g,0,none⟩)),(Value.pointer (some ⟨j,0,none⟩)),(Value.pointer (some ⟨i,0,none⟩)),(Value.pointer (some ⟨k,0,none⟩)),(Value.pointer (some ⟨f,0,none⟩))])],bx f 44 [(vs o)],Fy0__71,r] w)∧ad s H) ⟨_,(0,bh),bg,sy1__71,bi,rfl,rfl,bj,((((((al.bring 2).bring 6).bring 6).bring 6).bring 6).bring 6),bp⟩ ?_
  rintro db dc w next2 ⟨⟨a1r,d⟩,H,o,r,rfl,ae,t,I,br⟩ hn2
  dsimp only at ae I t
  simp only [List.map_cons,List.map_nil,List.cons.injEq,and_true] at ae
  have e27:=ae
  simp only [e27]
  obtain ⟨n2,hm2,h⟩:∃n2:(Int×(List Int))→Hp→Prop,(∀s' H',n2 s' H'→ad s' H'∧q s' < q (a1r,d))∧a2H x0.d3 y0__71 m x0 a1r d H n2 K:=⟨_,fun _ _ h=>h,bq (a1r,d) H (fun s' H'=>ad s' H'∧q s' < q (a1r,d)) br (fun _ _ a b=>⟨a,b⟩)⟩
  unfold c2l
  unfold a2H at h
  refine c7 pLs ?_
  refine g9 h (fun _ h=>?_) (fun _ h=>?_)
  ·have hj3:∀(u:(List Int))(y:Sl)(z:Frag) H w (_:RowL 3 1 r9 y u z) (_:Inv w0 ps0 H0 H [bx f 44 [(vs y)],bx g 47 [(vs sy0__71)],bx j 83 [(vs m)],bx i 30 (g8 x0),bx k 87 [(Value.func (.func 38) #[] #[(Value.pointer (some ⟨g,0,none⟩)),(Value.pointer (some ⟨j,0,none⟩)),(Value.pointer (some ⟨i,0,none⟩)),(Value.pointer (some ⟨k,0,none⟩)),(Value.pointer (some ⟨f,0,none⟩))])],Fy0__71,z] w) (_:V3 x0.d3 a1r u y0__71 m x0 H n2 K),b8p (Value.pointer (some ⟨g,0,none⟩)) (Value.pointer (some ⟨f,0,none⟩)) (vi x0.d3) (vi a1r) w next2 R E:=by
    intro u y z H w bs I h
    unfold b8p
    intro _
    unfold V3 at h
    refine c7 pAd ?_
    exact hn2 _ _ _ (hm2 _ _ h).2 ⟨((IntKind.wrap .i64 (a1r+1)),u),H,y,z,rfl,rfl,bs,(((((((I.bring 6).bring 6).bring 2).bring 6).bring 6).bring 6).bring 6),(hm2 _ _ h).1⟩
   refine s8 fun j3 hx3=>?_
   refine d4 (l1 Tryz.isAgg47 I rfl) ?_
   obtain ⟨an,bt,af,h⟩:=h
   obtain ⟨dd,de,ao,df⟩:=hy0__71.addr af
   refine c7 (a0y ao _ _ _ _ an (hy0__71.lt an af)) (d4 (ld1 (v:=(vB bt)) Tryz.isAgg4 (hy0__71.atW (I.bring 5) ao af)) (c7 (p8 _) ?_))
   refine q9 h (fun _ h=>?_) (fun _ h=>?_)
   ·refine d4 (l1 Tryz.isAgg44 (I.bring 4) rfl) ?_
    refine a0x (e:=3) (c:=r9) (xs:=[a1r]) I (a2p _) rfl rfl N0 N1 (nb rfl) fun dg dh di bu ap dj=>?_
    obtain ⟨bv,h⟩:=h
    refine a5s (s:=o) (xs:=d) (ap.bring 7) t (bu.srcO ((ap.bring 7).bring 1)) bv fun aq bw dk bz ca dl=>?_
    refine A6 ((ca.bring 1).drop.bring 5) Tryz.sizeOf44 (vs:=[(vs aq)]) fun dm cb dn=>?_
    exact hx3 _ _ (hj3 (d++[a1r]) aq bw H _ bz (((((((cb.bring 1).bring 6).bring 6).bring 6).bring 6).bring 6).bring 6) h)
   ·exact hx3 _ _ (hj3 d o r H _ t (((((((I.bring 6).bring 6).bring 5).bring 5).bring 5).bring 5).bring 6) h)
  ·exact hx1 _ _ (hj1 d o r H _ t (((((((I.bring 6).bring 6).bring 6).bring 6).bring 6).bring 6).bring 6) h)
def Z9(H:Hp)(K:Bool→Hp→Prop):Prop:=
 K true H
def a1F(a6o:Sl)(a2d:Sl)(K3:Int)(H:Hp)(n2:Int→Hp→Prop)(K:Bool→Hp→Prop):Prop:=
 (K3 < (a6o.n:Int)→
 (0:Int)≤K3∧(K3:Int) < a6o.n∧∃a:ByteArray,EltH H a6o K3 1 [(Value.string a)]∧
 (0:Int)≤K3∧(K3:Int) < a2d.n∧∃b:ByteArray,EltH H a2d K3 1 [(Value.string b)]∧
 (¬(a=b)→
 K false H)∧
 (a=b→
 n2 (IntKind.wrap .i64 (K3+1)) H))∧
 (¬(K3 < (a6o.n:Int))→
 Z9 H K)
def a3L(x0:Sl)(x1:Sl)(H:Hp)(K:Bool→Hp→Prop):Prop:=
 (¬((x0.n:Int)=(x1.n:Int))→
 K false H)∧
 ((x0.n:Int)=(x1.n:Int)→
 TL (0:Int) H fun(s:Int) H n2=>a1F x0 x1 s H n2 K)
theorem a9T(x0 x1){H K}(h:a3L x0 x1 H K):a3q x0 x1 H K:=by
 refine Ct.of fun w0 w ps0 H0 R E I hR=>c7F ?_
 unfold a3L at h
 unfold F31
 refine c7 (K6 _ _ _) (c7 (K6 _ _ _) (c7 pNe ?_))
 refine a0e h (fun _ h=>?_) (fun _ h=>?_)
 ·exact hR _ H _ _ I ⟨false,rfl,rfl,h⟩
 ·have hj1:∀H w (_:Inv w0 ps0 H0 H [] w) (_:Z9 H K),b8G w R E:=by
   intro H w I h
   unfold b8G
   intro _
   unfold Z9 at h
   exact hR _ H _ _ I ⟨true,rfl,rfl,h⟩
  refine s8 fun j1 hx1=>?_
  refine a0V (σ:=Int) (fun K3=>[(vi K3)]) (fun K3=>[]) h rfl I ?_
  rintro K3 H n w next2 n2 d I h hn2
  simp only [List.map_cons,List.map_nil,List.cons.injEq,and_true] at d
  have e5:=d
  simp only [e5]
  unfold c2z
  unfold a1F at h
  refine c7 (K6 _ _ _) (c7 pLs ?_)
  refine g9 h (fun _ h=>?_) (fun _ h=>?_)
  ·refine N5 I fun o a=>?_
   obtain ⟨e,f,g,b,h⟩:=h
   obtain ⟨p,q,i,b⟩:=b
   refine f8 (b1U i _ _ _ _ e f) ?_
   obtain ⟨j,k,l,c,h⟩:=h
   obtain ⟨r,s,m,c⟩:=c
   refine f8 (b1U m _ _ _ _ j k) ?_
   refine o3 (ld1 (v:=(Value.string g)) Tryz.isAgg9 (a.atH b)) ?_
   refine o3 (ld1 (v:=(Value.string l)) Tryz.isAgg9 (a.atH c)) ?_
   refine f8 (a7O _ _ _ _ _) ?_
   refine a0e h (fun _ h=>?_) (fun _ h=>?_)
   ·exact hR _ H _ _ a ⟨false,rfl,rfl,h⟩
   ·refine c7 pAd ?_
    exact hn2 (IntKind.wrap .i64 (K3+1)) _ _ h a
  ·exact hx1 _ _ (hj1 H _ I h)
def a5X(x0:E6)(H:Hp)(K:Sl→Int→Hp→Prop):Prop:=
 a7A x0 2 H (fun a b c=>
 K a b c)
theorem b2G(x0){H K}(h:a5X x0 H K):a7S x0 H K:=by
 refine Ct.of fun w0 w ps0 H0 R E I hR=>c7C ?_
 unfold a5X at h
 unfold F22
 refine D6 I (cs:=(C7 x0)) rfl fun f g a i=>?_
 refine d4 (lW Tryz.isAgg25 Tryz.sizeOf25 rfl a) ?_
 refine j6 Tryz.call44 h a ?_
 rintro _ c _ j d _ _ ⟨e,b,rfl,rfl,h⟩
 refine c7 (p6 _ _ _ rfl) (c7 (p6 _ _ (vi b) rfl) ?_)
 exact hR _ c _ _ d.drop ⟨e,b,rfl,rfl,h⟩
def S1(a:d5)(a9f:Sl)(a9g:Int)(a9h:Sl)(a9i:Int)(a9j:Int)(c1s:(List d5))(b1H:(Option Nat))(b1I:(Option Nat))(e:v6)(H:Hp)(K:i4→(List d5)→Hp→Prop):Prop:=
 E0 (i4.mk (f7.mk a9f a9g a9h a9i a9j (Sl.mk none 0 0)) b1H b1I) c1s a H (fun b c d=>
 K (f9 b) c d)
def M4(a:d5)(W9:Sl)(X0:Int)(X1:Sl)(X2:Int)(X3:Int)(V0:(List d5))(N8:(Option Nat))(S0:(Option Nat))(b:v6)(H:Hp)(K:i4→(List d5)→Hp→Prop):Prop:=
 (b.f3=4→
 ∃c:List (ByteArray×Int),MapH H (fun s:ByteArray=>Value.string s) (fun n:Int=>Value.int .i64 n) S0 c∧
 S1 (d5.mk a.s7 a.fTo a.f3 a.S3 ((lk b.m5 c).getD 0) a.fOp a.fA a.fB) W9 X0 X1 X2 X3 V0 N8 S0 b H K)∧
 (¬(b.f3=4)→
 S1 a W9 X0 X1 X2 X3 V0 N8 S0 b H K)
def a3M(x0:i4)(e:(List d5))(x1:v6)(x2:Int)(x3:Int)(x4:Int)(x5:Int)(H:Hp)(K:i4→(List d5)→Hp→Prop):Prop:=
 a6l x1.f3 H (fun g i=>
 O3 x3 x4 g i (fun a d=>
 ((x1.K5.n:Int)=1→
 (0:Int)≤0∧(0:Int) < x1.K5.n∧∃f:v6,EltH d x1.K5 0 4 (q8 f)∧
 R9 (f9 x0) e f x3 x5 d (fun j k b l m=>
 M4 (d5.mk k a.fTo a.f3 x2 a.O5 a.fOp j a.fB) b.fc.t8 b.fc.o9 b.fc.o8 b.fc.d3 b.fc.v2 l b.fvars b.farrays x1 m K))∧
 (¬((x1.K5.n:Int)=1)→
 ((x1.K5.n:Int)=2→
 W8 (f9 x0) e x1.K5 x3 x5 d (fun o p q c r s=>
 M4 (d5.mk q a.fTo a.f3 x2 a.O5 a.fOp o p) c.fc.t8 c.fc.o9 c.fc.o8 c.fc.d3 c.fc.v2 r c.fvars c.farrays x1 s K))∧
 (¬((x1.K5.n:Int)=2)→
 M4 (d5.mk a.s7 a.fTo a.f3 x2 a.O5 a.fOp a.fA a.fB) x0.fc.t8 x0.fc.o9 x0.fc.o8 x0.fc.d3 x0.fc.v2 e x0.fvars x0.farrays x1 d K))))
theorem a9U(x0 l x1 x2 x3 x4 x5){H K}(h:a3M x0 l x1 x2 x3 x4 x5 H K):a0N x0 l x1 x2 x3 x4 x5 H K:=by
 intro g0 m n o
 refine Ct.of fun w0 w ps0 H0 R E I hR=>c8v ?_
 unfold a3M at h
 unfold F97
 refine D6 I (cs:=(q8 x1)) rfl fun p bk s bl=>?_
 refine c7 K9 (d4 (l1 Tryz.isAgg3 s rfl) ?_)
 refine j6 Tryz.call110 h s ?_
 rintro _ bm _ bn v _ _ ⟨bo,rfl,rfl,h⟩
 refine j6 Tryz.call67 h v ?_
 rintro _ y _ bp aa _ _ ⟨a,rfl,rfl,h⟩
 refine y3 aa Tryz.zeroValue40 (cs:=[(vi 0),(vi 0),(vi 0),(vi 0),(vi 0),(vi 0),(vi 0),(vi 0),(vi 0),(vi 0)]) rfl fun g bq ab br=>?_
 refine A6 ab Tryz.sizeOf40 (vs:=(i5 a)) fun bs ac bt=>?_
 refine c7 J3 ?_
 refine P7 ac Tryz.sizeOf3 fun bu c bv=>?_
 have hj1:∀(b:d5)(W9:Sl)(X0:Int)(X1:Sl)(X2:Int)(X3:Int)(V0:(List d5))(N8:(Option Nat))(S0:(Option Nat))(a1Q:Sl)(a1R:Frag) H w (_:RowL 40 10 i5 a1Q V0 a1R) (_:Inv w0 ps0 H0 H [bx g 40 (i5 b),bx g0 68 [(vs W9),(vi X0),(vs X1),(vi X2),(vi X3),(vs a1Q),(Value.map N8),(Value.map S0)],bx p 123 (q8 x1),a1R] w) (_:M4 b W9 X0 X1 X2 X3 V0 N8 S0 x1 H K),b9f (Value.pointer (some ⟨g0,0,none⟩)) (Value.pointer (some ⟨p,0,none⟩)) (Value.pointer (some ⟨g,0,none⟩)) w R E:=by
  intro b W9 X0 X1 X2 X3 V0 N8 S0 a1Q a1R H w b2H I h
  unfold b9f
  intro _
  unfold M4 at h
  have hj2:∀(q:d5)(a9f:Sl)(a9g:Int)(a9h:Sl)(a9i:Int)(a9j:Int)(b1H:(Option Nat))(b1I:(Option Nat)) H w (_:Inv w0 ps0 H0 H [bx g 40 (i5 q),bx g0 68 [(vs a9f),(vi a9g),(vs a9h),(vi a9i),(vi a9j),(vs a1Q),(Value.map b1H),(Value.map b1I)],bx p 123 (q8 x1),a1R] w) (_:S1 q a9f a9g a9h a9i a9j V0 b1H b1I x1 H K),b9e (Value.pointer (some ⟨g0,0,none⟩)) (Value.pointer (some ⟨g,0,none⟩)) w R E:=by
   intro q a9f a9g a9h a9i a9j b1H b1I H w I h
   unfold b9e
   intro _
   unfold S1 at h
   refine d4 (lW Tryz.isAgg40 Tryz.sizeOf40 rfl I) ?_
   refine j6 Tryz.call69 (h g0 a1Q a1R b2H) ((I.bring 3).bring 2) ?_
   rintro _ ad _ bw ae _ _ ⟨af,ag,ah,ai,rfl,rfl,aj,h⟩
   exact hR _ ad _ _ ((((ae.bring 2).drop.bring 2).drop.bring 1).bring 1) ⟨(f9 af),ag,ah,ai,rfl,rfl,aj,h⟩
  refine s8 fun j2 hx2=>?_
  refine c7 K9 (d4 (l1 Tryz.isAgg3 (I.bring 2) rfl) (c7 pEq ?_))
  refine g9 h (fun _ h=>?_) (fun _ h=>?_)
  ·refine N5 I fun bz i=>?_
   refine f8 (y6 _) ?_
   refine f8 b1W ?_
   refine f8 U5 ?_
   refine o3 (l1 Tryz.isAgg66 (i.bring 1) rfl) ?_
   refine o3 (l1 Tryz.isAgg9 (i.bring 2) rfl) ?_
   obtain ⟨ak,al,h⟩:=h
   refine b1T (keyS Tryz.underlying9) Tryz.underlying66 (z:=0) Tryz.zeroValue3 i al x1.m5 ?_
   refine f8 B2 ?_
   refine P7 i Tryz.sizeOf3 fun ca am cb=>?_
   exact hx2 _ _ (hj2 (d5.mk b.s7 b.fTo b.f3 b.S3 ((lk x1.m5 ak).getD 0) b.fOp b.fA b.fB) W9 X0 X1 X2 X3 N8 S0 H _ ((((am.bring 3).bring 3).bring 3).bring 3) h)
  ·exact hx2 _ _ (hj2 b W9 X0 X1 X2 X3 N8 S0 H _ ((((I.bring 3).bring 3).bring 3).bring 3) h)
 refine s8 fun j1 hx1=>?_
 refine c7 U4 (d4 (l1 Tryz.isAgg57 (c.bring 1) rfl) (c7 (a5C _ _ _) (c7 pEq ?_)))
 refine g9 h (fun _ h=>?_) (fun _ h=>?_)
 ·refine c7 U4 (d4 (l1 Tryz.isAgg57 (c.bring 1) rfl) ?_)
  obtain ⟨an,ao,ap,r,h⟩:=h
  obtain ⟨cc,cd,aq,r⟩:=r
  refine c7 (a0z aq _ _ _ _ an ao) (d4 (ldA (vs:=(q8 ap)) Tryz.isAgg123 Tryz.sizeOf123 rfl (c.atH r)) ?_)
  refine j6 Tryz.call98 (h g0 m n o) ((c.bring 3).bring 3) ?_
  rintro _ ar _ ce au _ _ ⟨j,t,d,av,aw,ax,rfl,rfl,ay,h⟩
  refine c7 (p6 _ _ _ rfl) (c7 (p6 _ _ (vi t) rfl) (c7 z8 ?_))
  refine a3R (au.bring 2) Tryz.sizeOf38 (vs:=(i7 j)) (cs':=[(vi a.s7),(vi a.fTo),(vi a.f3),(vi x2),(vi a.O5),(vi a.fOp),(vi j.y8),(vi j.u1),(vi a.fB.y8),(vi a.fB.u1)]) rfl rfl (nb rfl) rfl rfl fun cf az cg=>?_
  refine c7 A7 ?_
  refine P7 az Tryz.sizeOf3 fun ch ba ci=>?_
  exact hx1 _ _ (hj1 (d5.mk t a.fTo a.f3 x2 a.O5 a.fOp j a.fB) d.fc.t8 d.fc.o9 d.fc.o8 d.fc.d3 d.fc.v2 av d.fvars d.farrays aw ax ar _ ay ((((ba.bring 2).bring 3).bring 3).bring 3) h)
 ·refine c7 pEq ?_
  refine g9 h (fun _ h=>?_) (fun _ h=>?_)
  ·refine c7 U4 (d4 (l1 Tryz.isAgg57 (c.bring 1) rfl) ?_)
   refine j6 Tryz.call68 (h g0 m n o) ((c.bring 3).bring 3) ?_
   rintro _ bb _ cj bc _ _ ⟨f,k,u,e,bd,be,bf,rfl,rfl,bg,h⟩
   refine c7 (p6 _ _ _ rfl) (c7 (p6 _ _ _ rfl) (c7 (p6 _ _ (vi u) rfl) (c7 z8 ?_)))
   refine a3R (bc.bring 2) Tryz.sizeOf38 (vs:=(i7 f)) (cs':=[(vi a.s7),(vi a.fTo),(vi a.f3),(vi x2),(vi a.O5),(vi a.fOp),(vi f.y8),(vi f.u1),(vi a.fB.y8),(vi a.fB.u1)]) rfl rfl (nb rfl) rfl rfl fun ck bh cl=>?_
   refine c7 y4 ?_
   refine a3R bh Tryz.sizeOf38 (vs:=(i7 k)) (cs':=[(vi a.s7),(vi a.fTo),(vi a.f3),(vi x2),(vi a.O5),(vi a.fOp),(vi f.y8),(vi f.u1),(vi k.y8),(vi k.u1)]) rfl rfl (nb rfl) rfl rfl fun cm bi cn=>?_
   refine c7 A7 ?_
   refine P7 bi Tryz.sizeOf3 fun co bj cp=>?_
   exact hx1 _ _ (hj1 (d5.mk u a.fTo a.f3 x2 a.O5 a.fOp f k) e.fc.t8 e.fc.o9 e.fc.o8 e.fc.d3 e.fc.v2 bd e.fvars e.farrays be bf bb _ bg ((((bj.bring 2).bring 3).bring 3).bring 3) h)
  ·exact hx1 _ _ (hj1 (d5.mk a.s7 a.fTo a.f3 x2 a.O5 a.fOp a.fA a.fB) x0.fc.t8 x0.fc.o9 x0.fc.o8 x0.fc.d3 x0.fc.v2 l x0.fvars x0.farrays m n y _ o ((((c.bring 3).bring 2).bring 3).bring 3) h)
def a2m(x0:i4)(b:(List d5))(x1:Int)(x2:v6)(x3:Int)(x4:Int)(H:Hp)(K:i4→(List d5)→Hp→Prop):Prop:=
 a0t (f9 x0) b x2 H (fun e c d=>
 ((!c)=true→
 a0N (f9 x0) b x2 x1 x3 x4 0 d (fun f g i=>
 K (f9 f) g i))∧
 ((!c)=false→
 O3 x3 x4 2 d (fun a j=>
 E0 (f9 x0) b (d5.mk a.s7 a.fTo a.f3 x1 a.O5 a.fOp e a.fB) j (fun k l m=>
 K (f9 k) l m))))
theorem a9k(x0 i x1 x2 x3 x4){H K}(h:a2m x0 i x1 x2 x3 x4 H K):a1X x0 i x1 x2 x3 x4 H K:=by
 intro g0 c d e
 refine Ct.of fun w0 w ps0 H0 R E I hR=>c8j ?_
 unfold a2m at h
 unfold F66
 refine D6 I (cs:=(q8 x2)) rfl fun ak al j am=>?_
 refine d4 (lW Tryz.isAgg123 Tryz.sizeOf123 rfl j) ?_
 refine j6 Tryz.call96 (h g0 c d e) ((j.bring 2).bring 2) ?_
 rintro _ _ _ an l _ _ ⟨b,m,rfl,rfl,h⟩
 refine c7 (p6 _ _ _ rfl) (c7 (p6 _ _ (vB m) rfl) ?_)
 refine y3 l Tryz.zeroValue38 (cs:=[(vi 0),(vi 0)]) rfl fun ao ap n aq=>?_
 refine A6 n Tryz.sizeOf38 (vs:=(i7 b)) fun ar f au=>?_
 refine c7 (p8 _) ?_
 refine q9 h (fun _ h=>?_) (fun _ h=>?_)
 ·refine d4 (lW Tryz.isAgg123 Tryz.sizeOf123 rfl (f.bring 3)) ?_
  refine j6 Tryz.call97 (h g0 c d e) ((f.bring 2).bring 2) ?_
  rintro _ p _ av q _ _ ⟨r,s,t,u,rfl,rfl,v,h⟩
  exact hR _ p _ _ ((((q.bring 2).drop.bring 2).drop.bring 1).bring 1) ⟨(f9 r),s,t,u,rfl,rfl,v,h⟩
 ·refine j6 Tryz.call67 h f ?_
  rintro _ _ _ aw y _ _ ⟨a,rfl,rfl,h⟩
  refine y3 y Tryz.zeroValue40 (cs:=[(vi 0),(vi 0),(vi 0),(vi 0),(vi 0),(vi 0),(vi 0),(vi 0),(vi 0),(vi 0)]) rfl fun ax ay z az=>?_
  refine A6 z Tryz.sizeOf40 (vs:=(i5 a)) fun ba aa bb=>?_
  refine N5 aa fun bc g=>?_
  refine f8 J3 ?_
  refine o3 (lW Tryz.isAgg38 Tryz.sizeOf38 rfl (g.bring 1)) ?_
  refine P7 g Tryz.sizeOf3 fun bd ab ac=>?_
  refine ⟨(ac _ (Inv.b7M ((g.bring 1).bring 1))),?_⟩
  refine f8 z8 ?_
  refine a3R ab Tryz.sizeOf38 (vs:=(i7 b)) (cs':=[(vi a.s7),(vi a.fTo),(vi a.f3),(vi x1),(vi a.O5),(vi a.fOp),(vi b.y8),(vi b.u1),(vi a.fB.y8),(vi a.fB.u1)]) rfl rfl (nb rfl) rfl rfl fun be k bf=>?_
  refine d4 (ldA Tryz.isAgg40 Tryz.sizeOf40 rfl (k.at1 (o:=0) (vs:=[(vi a.s7),(vi a.fTo),(vi a.f3),(vi x1),(vi a.O5),(vi a.fOp),(vi b.y8),(vi b.u1),(vi a.fB.y8),(vi a.fB.u1)]) (nb rfl) rfl)) ?_
  refine j6 Tryz.call69 (h g0 c d e) ((k.bring 3).bring 3) ?_
  rintro _ ad _ bg ae _ _ ⟨af,ag,ah,ai,rfl,rfl,aj,h⟩
  exact hR _ ad _ _ (((((ae.bring 2).drop.bring 2).drop.bring 2).drop.bring 1).bring 1) ⟨(f9 af),ag,ah,ai,rfl,rfl,aj,h⟩
def W1(c5q:(List Int))(c5r:Sl)(c5s:Int)(a2I:Int)(a1d:Sl)(a1e:Int)(a1f:Sl)(a1g:Int)(a1h:Int)(a0w:(List d5))(M8:(Option Nat))(a4N:(Option Nat))(H:Hp)(n2:(Int×Sl×Int×Sl×Int×Int×(List d5)×(Option Nat)×(Option Nat))→Hp→Prop)(K:i4→(List d5)→Hp→Prop):Prop:=
 (a2I < c5s→
 (0:Int)≤a2I∧(a2I:Int) < c5r.n∧∃b:B0,EltH H c5r a2I 6 (A8 b)∧
 (0:Int)≤a2I∧∃c:Int,(c5q)[(a2I:Int).toNat]? = some c∧
 (0:Int)≤IntKind.wrap .i64 (a2I+1)∧∃d:Int,(c5q)[(IntKind.wrap .i64 (a2I+1):Int).toNat]? = some d∧
 a3t (i4.mk (f7.mk a1d a1e a1f a1g a1h (Sl.mk none 0 0)) M8 a4N) a0w b c d H (fun a e f=>
 n2 ((IntKind.wrap .i64 (a2I+1)),a.fc.t8,a.fc.o9,a.fc.o8,a.fc.d3,a.fc.v2,e,a.fvars,a.farrays) f))∧
 (¬(a2I < c5s)→
 K (i4.mk (f7.mk a1d a1e a1f a1g a1h (Sl.mk none 0 0)) M8 a4N) a0w H)
def W2(b1m:Sl)(a9r:Int)(b1d:(List Int))(W9:Sl)(X0:Int)(X1:Sl)(X2:Int)(X3:Int)(V0:(List d5))(N8:(Option Nat))(S0:(Option Nat))(H:Hp)(K:i4→(List d5)→Hp→Prop):Prop:=
 (b1d.length+([a9r]:List Int).length)*9≤140737488355328∧
 TL ((0,W9,X0,X1,X2,X3,V0,N8,S0):Int×Sl×Int×Sl×Int×Int×(List d5)×(Option Nat)×(Option Nat)) H fun(s:Int×Sl×Int×Sl×Int×Int×(List d5)×(Option Nat)×(Option Nat)) H n2=>W1 (b1d++[a9r]) b1m (b1m.n:Int) s.1 s.2.1 s.2.2.1 s.2.2.2.1 s.2.2.2.2.1 s.2.2.2.2.2.1 s.2.2.2.2.2.2.1 s.2.2.2.2.2.2.2.1 s.2.2.2.2.2.2.2.2 H n2 K
def W3(d1z:Sl)(d1A:Int)(c5t:Int)(a5n:(List Int))(a6z:Int)(a0E:Sl)(a0F:Int)(a0G:Sl)(a0H:Int)(a0I:Int)(a0b:(List d5))(a3U:(Option Nat))(a3V:(Option Nat))(H:Hp)(n3:((List Int)×Int×Sl×Int×Sl×Int×Int×(List d5)×(Option Nat)×(Option Nat))→Hp→Prop)(K:i4→(List d5)→Hp→Prop):Prop:=
 (a6z < c5t→
 G8 (i4.mk (f7.mk a0E a0F a0G a0H a0I (Sl.mk none 0 0)) a3U a3V) a0b H (fun b a c d=>
 (a5n.length+([b]:List Int).length)*9≤140737488355328∧
 n3 ((a5n++[b]),(IntKind.wrap .i64 (a6z+1)),a.fc.t8,a.fc.o9,a.fc.o8,a.fc.d3,a.fc.v2,c,a.fvars,a.farrays) d))∧
 (¬(a6z < c5t)→
 W2 d1z d1A a5n a0E a0F a0G a0H a0I a0b a3U a3V H K)
def a3e(x0:i4)(a:(List d5))(x1:Sl)(x2:Int)(x3:Int)(H:Hp)(K:i4→(List d5)→Hp→Prop):Prop:=
 ((x1.n:Int)=0→
 K (f9 x0) a H)∧
 (¬((x1.n:Int)=0)→
 TL (([x2],0,x0.fc.t8,x0.fc.o9,x0.fc.o8,x0.fc.d3,x0.fc.v2,a,x0.fvars,x0.farrays):(List Int)×Int×Sl×Int×Sl×Int×Int×(List d5)×(Option Nat)×(Option Nat)) H fun(s:(List Int)×Int×Sl×Int×Sl×Int×Int×(List d5)×(Option Nat)×(Option Nat)) H n3=>W3 x1 x3 (IntKind.wrap .i64 ((x1.n:Int)-1)) s.1 s.2.1 s.2.2.1 s.2.2.2.1 s.2.2.2.2.1 s.2.2.2.2.2.1 s.2.2.2.2.2.2.1 s.2.2.2.2.2.2.2.1 s.2.2.2.2.2.2.2.2.1 s.2.2.2.2.2.2.2.2.2 H n3 K)
theorem a9u(x0 k x1 x2 x3){H K}(h:a3e x0 k x1 x2 x3 H K):P8 x0 k x1 x2 x3 H K:=by
 intro g0 z aa ab
 refine Ct.of fun w0 w ps0 H0 R E I hR=>c7E ?_
 unfold a3e at h
 unfold F24
 refine c7 (W5 _ _ _) (c7 pEq ?_)
 refine g9 h (fun _ h=>?_) (fun _ h=>?_)
 ·exact hR _ H _ _ ((I.bring 1).bring 1) ⟨(f9 x0),k,z,aa,rfl,rfl,ab,h⟩
 ·refine a0x (e:=3) (c:=r9) (xs:=[x2]) I (a2p _) rfl rfl N0 N1 (nb rfl) fun ak al cb am an cc=>?_
  have hj1:∀(b1d:(List Int))(W9:Sl)(X0:Int)(X1:Sl)(X2:Int)(X3:Int)(V0:(List d5))(N8:(Option Nat))(S0:(Option Nat))(b7C:Sl)(Fs8j1:Frag)(a1Q:Sl)(a1R:Frag) H w (_:RowL 3 1 r9 b7C b1d Fs8j1) (_:RowL 40 10 i5 a1Q V0 a1R) (_:Inv w0 ps0 H0 H [bx g0 68 [(vs W9),(vi X0),(vs X1),(vi X2),(vi X3),(vs a1Q),(Value.map N8),(Value.map S0)],Fs8j1,a1R] w) (_:W2 x1 x3 b1d W9 X0 X1 X2 X3 V0 N8 S0 H K),b8F (Value.pointer (some ⟨g0,0,none⟩)) (vs x1) (vi x3) (vs b7C) w R E:=by
   intro b1d W9 X0 X1 X2 X3 V0 N8 S0 b7C Fs8j1 a1Q a1R H w d0y b2H I h
   unfold b8F
   intro _
   unfold W2 at h
   refine a0x (e:=3) (c:=r9) (xs:=[x3]) I (a2p _) rfl rfl N0 N1 (nb rfl) fun cd ce cf ao ac cg=>?_
   obtain ⟨ap,h⟩:=h
   refine a5s (s:=b7C) (xs:=b1d) (ac.bring 2) d0y (ao.srcO ((ac.bring 2).bring 1)) ap fun ch aq ci g ar cj=>?_
   refine c7 (W5 _ _ _) ?_
   obtain ⟨o,i,au,av⟩:=h
   refine I0 (J:=fun n l w=>∃(s:Int×Sl×Int×Sl×Int×Int×(List d5)×(Option Nat)×(Option Nat))(H:Hp)(a8c:Sl)(a8d:Frag),n=i s∧l=(match s with | (a2I,a1d,a1e,a1f,a1g,a1h,a0w,M8,a4N)=>[(vi a2I)])∧(match s with | (a2I,a1d,a1e,a1f,a1g,a1h,a0w,M8,a4N)=>RowL 40 10 i5 a8c a0w a8d)∧(match s with | (a2I,a1d,a1e,a1f,a1g,a1h,a0w,M8,a4N)=>Inv w0 ps0 H0 H [bx g0 68 [(vs a1d),(vi a1e),(vs a1f),(vi a1g),(vi a1h),(vs a8c),(Value.map M8),(Value.map a4N)],aq,a8d] w)∧o s H) ⟨_,(0,W9,X0,X1,X2,X3,V0,N8,S0),H,a1Q,a1R,rfl,rfl,b2H,((((ar.bring 1).drop.bring 2).bring 1).bring 2),au⟩ ?_
   rintro ck cl w next2 ⟨⟨a2I,a1d,a1e,a1f,a1g,a1h,a0w,M8,a4N⟩,H,a8c,a8d,rfl,p,b2I,I,aw⟩ hn2
   dsimp only at p I b2I
   simp only [List.map_cons,List.map_nil,List.cons.injEq,and_true] at p
   have e33:=p
   simp only [e33]
   obtain ⟨n2,hm2,h⟩:∃n2:(Int×Sl×Int×Sl×Int×Int×(List d5)×(Option Nat)×(Option Nat))→Hp→Prop,(∀s' H',n2 s' H'→o s' H'∧i s' < i (a2I,a1d,a1e,a1f,a1g,a1h,a0w,M8,a4N))∧W1 (b1d++[x3]) x1 (x1.n:Int) a2I a1d a1e a1f a1g a1h a0w M8 a4N H n2 K:=⟨_,fun _ _ h=>h,av (a2I,a1d,a1e,a1f,a1g,a1h,a0w,M8,a4N) H (fun s' H'=>o s' H'∧i s' < i (a2I,a1d,a1e,a1f,a1g,a1h,a0w,M8,a4N)) aw (fun _ _ a b=>⟨a,b⟩)⟩
   unfold c2x
   unfold W1 at h
   refine c7 pLs ?_
   refine g9 h (fun _ h=>?_) (fun _ h=>?_)
   ·obtain ⟨ax,ay,ad,q,h⟩:=h
    obtain ⟨cm,cn,az,q⟩:=q
    refine c7 (b4F az _ _ _ _ ax ay) (d4 (ldA (vs:=(A8 ad)) Tryz.isAgg60 Tryz.sizeOf60 rfl (I.atH q)) ?_)
    refine y3 I Tryz.zeroValue60 (cs:=[(vi 0),(eS),(nS),(nS),(nS),(nS)]) rfl fun co cp ba cq=>?_
    refine A6 ba Tryz.sizeOf60 (vs:=(A8 ad)) fun cr bb ct=>?_
    refine N5 bb fun cu m=>?_
    obtain ⟨ae,bc,r,h⟩:=h
    obtain ⟨cv,cw,af,cx⟩:=g.addr r
    refine f8 (J4 af _ _ _ _ ae (g.lt ae r)) ?_
    refine f8 pAd ?_
    obtain ⟨ag,bd,t,h⟩:=h
    obtain ⟨cy,cz,ah,da⟩:=g.addr t
    refine f8 (J4 ah _ _ _ _ ag (g.lt ag t)) ?_
    refine o3 (lW Tryz.isAgg60 Tryz.sizeOf60 rfl m) ?_
    refine o3 (ld1 (v:=(vi bc)) Tryz.isAgg3 (g.atW (m.bring 2) af r)) ?_
    refine o3 (ld1 (v:=(vi bd)) Tryz.isAgg3 (g.atW (m.bring 2) ah t)) ?_
    refine j6 Tryz.call45 (h g0 a8c a8d b2I) ((m.bring 3).bring 2) ?_
    rintro _ be _ db bf _ _ ⟨d,bg,bh,bi,rfl,rfl,bj,h⟩
    refine c7 pAd ?_
    exact hn2 _ _ _ (hm2 _ _ h).2 ⟨((IntKind.wrap .i64 (a2I+1)),d.fc.t8,d.fc.o9,d.fc.o8,d.fc.d3,d.fc.v2,bg,d.fvars,d.farrays),be,bh,bi,rfl,rfl,bj,((((bf.bring 2).drop.bring 1).bring 2).bring 2),(hm2 _ _ h).1⟩
   ·exact hR _ H _ _ (((I.bring 1).drop.bring 1).bring 1) ⟨(i4.mk (f7.mk a1d a1e a1f a1g a1h (Sl.mk none 0 0)) M8 a4N),a0w,a8c,a8d,rfl,rfl,b2I,h⟩
  refine s8 fun j1 hx1=>?_
  refine c7 (W5 _ _ _) (c7 pSu ?_)
  obtain ⟨u,j,bk,bl⟩:=h
  refine I0 (J:=fun n l w=>∃(s:(List Int)×Int×Sl×Int×Sl×Int×Int×(List d5)×(Option Nat)×(Option Nat))(H:Hp)(b5B:Sl)(Fs8l3:Frag)(a8e:Sl)(a8f:Frag),n=j s∧l=(match s with | (a5n,a6z,a0E,a0F,a0G,a0H,a0I,a0b,a3U,a3V)=>[(vs b5B),(vi a6z)])∧(match s with | (a5n,a6z,a0E,a0F,a0G,a0H,a0I,a0b,a3U,a3V)=>RowL 3 1 r9 b5B a5n Fs8l3)∧(match s with | (a5n,a6z,a0E,a0F,a0G,a0H,a0I,a0b,a3U,a3V)=>RowL 40 10 i5 a8e a0b a8f)∧(match s with | (a5n,a6z,a0E,a0F,a0G,a0H,a0I,a0b,a3U,a3V)=>Inv w0 ps0 H0 H [bx g0 68 [(vs a0E),(vi a0F),(vs a0G),(vi a0H),(vi a0I),(vs a8e),(Value.map a3U),(Value.map a3V)],Fs8l3,a8f] w)∧u s H) ⟨_,([x2],0,x0.fc.t8,x0.fc.o9,x0.fc.o8,x0.fc.d3,x0.fc.v2,k,x0.fvars,x0.farrays),H,ak,al,z,aa,rfl,rfl,am,ab,(((an.bring 2).bring 1).bring 2),bk⟩ ?_
  rintro dc dd w next3 ⟨⟨a5n,a6z,a0E,a0F,a0G,a0H,a0I,a0b,a3U,a3V⟩,H,b5B,Fs8l3,a8e,a8f,rfl,y,c1t,b2J,I,bm⟩ hn3
  dsimp only at y I c1t b2J
  simp only [List.map_cons,List.map_nil,List.cons.injEq,and_true] at y
  obtain ⟨e8,e19⟩:=y
  simp only [e8,e19]
  obtain ⟨n3,hm3,h⟩:∃n3:((List Int)×Int×Sl×Int×Sl×Int×Int×(List d5)×(Option Nat)×(Option Nat))→Hp→Prop,(∀s' H',n3 s' H'→u s' H'∧j s' < j (a5n,a6z,a0E,a0F,a0G,a0H,a0I,a0b,a3U,a3V))∧W3 x1 x3 (IntKind.wrap .i64 ((x1.n:Int)-1)) a5n a6z a0E a0F a0G a0H a0I a0b a3U a3V H n3 K:=⟨_,fun _ _ h=>h,bl (a5n,a6z,a0E,a0F,a0G,a0H,a0I,a0b,a3U,a3V) H (fun s' H'=>u s' H'∧j s' < j (a5n,a6z,a0E,a0F,a0G,a0H,a0I,a0b,a3U,a3V)) bm (fun _ _ a b=>⟨a,b⟩)⟩
  unfold c2y
  unfold W3 at h
  refine c7 pLs ?_
  refine g9 h (fun _ h=>?_) (fun _ h=>?_)
  ·refine j6 Tryz.call23 (h g0 a8e a8f b2J) ((I.bring 2).bring 1) ?_
   rintro _ bn _ de bo _ _ ⟨ai,f,bp,bq,br,rfl,rfl,bs,h⟩
   refine a0x (e:=3) (c:=r9) (xs:=[ai]) bo (a2p _) rfl rfl N0 N1 (nb rfl) fun df dg dh bt aj di=>?_
   obtain ⟨bu,h⟩:=h
   refine a5s (s:=b5B) (xs:=a5n) (aj.bring 3) c1t (bt.srcO ((aj.bring 3).bring 1)) bu fun bv bw dj bz ca dk=>?_
   refine c7 pAd ?_
   exact hn3 _ _ _ (hm3 _ _ h).2 ⟨((a5n++[ai]),(IntKind.wrap .i64 (a6z+1)),f.fc.t8,f.fc.o9,f.fc.o8,f.fc.d3,f.fc.v2,bp,f.fvars,f.farrays),bn,bv,bw,bq,br,rfl,rfl,bz,bs,((((ca.bring 1).drop.bring 2).bring 1).bring 2),(hm3 _ _ h).1⟩
  ·exact hx1 _ _ (hj1 a5n a0E a0F a0G a0H a0I a0b a3U a3V b5B Fs8l3 a8e a8f H _ c1t b2J (((I.bring 2).bring 2).bring 2) h)
def a6N(x0:g7)(H:Hp)(K:ByteArray→Bool→Hp→Prop):Prop:=
 (x0.a6U=true→
 K x0.a3S.a0L.m5 true H)∧
 (x0.a6U=false→
 (x0.a6V=true→
 K x0.B1.i8.m5 ((decide (x0.B1.i8.f3=1))||(decide (x0.B1.i8.f3=2))) H)∧
 (x0.a6V=false→
 (x0.a6W=true→
 K x0.L2.A4.m5 ((decide (x0.L2.A4.f3=2))||(decide (x0.L2.A4.f3=4))) H)∧
 (x0.a6W=false→
 K ⟨#[]⟩ false H)))
theorem b3m(x0){H K}(h:a6N x0 H K):a1Y x0 H K:=by
 refine Ct.of fun w0 w ps0 H0 R E I hR=>c6c ?_
 unfold a6N at h
 unfold c8M
 refine c7 (b7m x0) (c7 (p6 _ _ (vB x0.a6U) rfl) (c7 (p6 _ _ _ rfl) ?_))
 refine q9 h (fun _ h=>?_) (fun _ h=>?_)
 ·refine y3 I Tryz.zeroValue195 (cs:=[(eS),(vi 0)]) rfl fun n o e q=>?_
  refine A6 e Tryz.sizeOf195 (vs:=[(Value.string x0.a3S.a0L.m5),(vi x0.a3S.a0L.L0)]) fun r d s=>?_
  refine c7 a3Q (c7 a4R (d4 (l1 Tryz.isAgg9 d rfl) ?_))
  exact hR _ H _ _ d.drop ⟨x0.a3S.a0L.m5,true,rfl,rfl,h⟩
 ·refine c7 (b7n x0) (c7 (p6 _ _ (vB x0.a6V) rfl) (c7 (p6 _ _ _ rfl) ?_))
  refine q9 h (fun _ h=>?_) (fun _ h=>?_)
  ·refine y3 I Tryz.zeroValue197 (cs:=[(vi 0),(eS),(nS),(nS),(nS),(nS)]) rfl fun f t i u=>?_
   refine A6 i Tryz.sizeOf197 (vs:=[(vi x0.B1.i8.f3),(Value.string x0.B1.i8.m5),(vs x0.B1.i8.m9),(vs x0.B1.i8.A0),(vs x0.B1.i8.T0),(vs x0.B1.i8.T1)]) fun v j y=>?_
   refine N5 j fun z b=>?_
   refine f8 E7 ?_
   refine f8 a4Q ?_
   refine f8 E7 ?_
   refine f8 a1I ?_
   refine o3 (l1 Tryz.isAgg9 b rfl) ?_
   refine o3 (l1 Tryz.isAgg3 b rfl) ?_
   refine f8 pEq ?_
   refine f8 (Pu.g fun hb=>by have a:=hb;first | with_reducible exact E7 | (simp only [c6 a,c5 a,c5 hb,d8 a];with_reducible exact E7) | (simp only [c6 a,c5 a,c5 hb,d9 a,c8];with_reducible exact E7) | exact E7 | (simp only [c6 a,c5 a,c5 hb,d8 a];exact E7) | (simp only [c6 a,c5 a,c5 hb,d9 a,c8];exact E7)) ?_
   refine f8 (Pu.g fun hb=>by have a:=hb;first | with_reducible exact a1I | (simp only [c6 a,c5 a,c5 hb,d8 a];with_reducible exact a1I) | (simp only [c6 a,c5 a,c5 hb,d9 a,c8];with_reducible exact a1I) | exact a1I | (simp only [c6 a,c5 a,c5 hb,d8 a];exact a1I) | (simp only [c6 a,c5 a,c5 hb,d9 a,c8];exact a1I)) ?_
   refine R2 (p:=(Value.pointer (some ⟨f,0,none⟩))) rfl (Ld.g fun hb=>by have a:=hb;first | exact (l1 Tryz.isAgg3 b rfl) | (simp only [c6 a,c5 a,c5 hb,d8 a];exact (l1 Tryz.isAgg3 b rfl)) | (simp only [c6 a,c5 a,c5 hb,d9 a,c8];exact (l1 Tryz.isAgg3 b rfl))) ?_
   refine f8 (Pu.g fun hb=>by have a:=hb;first | with_reducible exact pEq | (simp only [c6 a,c5 a,c5 hb,d8 a];with_reducible exact pEq) | (simp only [c6 a,c5 a,c5 hb,d9 a,c8];with_reducible exact pEq) | exact pEq | (simp only [c6 a,c5 a,c5 hb,d8 a];exact pEq) | (simp only [c6 a,c5 a,c5 hb,d9 a,c8];exact pEq)) ?_
   refine f8 (B4 _ _) ?_
   exact hR _ H _ _ b.drop ⟨x0.B1.i8.m5,((decide (x0.B1.i8.f3=1))||(decide (x0.B1.i8.f3=2))),rfl,rfl,h⟩
  ·refine c7 (b7o x0) (c7 (p6 _ _ (vB x0.a6W) rfl) (c7 (p6 _ _ _ rfl) ?_))
   refine q9 h (fun _ h=>?_) (fun _ h=>?_)
   ·refine y3 I Tryz.zeroValue202 (cs:=[(vi 0),(vi 0),(eS),(nS)]) rfl fun k aa l ab=>?_
    refine A6 l Tryz.sizeOf202 (vs:=[(vi x0.L2.A4.f3),(vi x0.L2.A4.u1),(Value.string x0.L2.A4.m5),(vs x0.L2.A4.K5)]) fun ac m ad=>?_
    refine N5 m fun ae c=>?_
    refine f8 E3 ?_
    refine f8 U5 ?_
    refine f8 E3 ?_
    refine f8 K9 ?_
    refine o3 (l1 Tryz.isAgg9 c rfl) ?_
    refine o3 (l1 Tryz.isAgg3 c rfl) ?_
    refine f8 pEq ?_
    refine f8 (Pu.g fun hb=>by have a:=hb;first | with_reducible exact E3 | (simp only [c6 a,c5 a,c5 hb,d8 a];with_reducible exact E3) | (simp only [c6 a,c5 a,c5 hb,d9 a,c8];with_reducible exact E3) | exact E3 | (simp only [c6 a,c5 a,c5 hb,d8 a];exact E3) | (simp only [c6 a,c5 a,c5 hb,d9 a,c8];exact E3)) ?_
    refine f8 (Pu.g fun hb=>by have a:=hb;first | with_reducible exact K9 | (simp only [c6 a,c5 a,c5 hb,d8 a];with_reducible exact K9) | (simp only [c6 a,c5 a,c5 hb,d9 a,c8];with_reducible exact K9) | exact K9 | (simp only [c6 a,c5 a,c5 hb,d8 a];exact K9) | (simp only [c6 a,c5 a,c5 hb,d9 a,c8];exact K9)) ?_
    refine R2 (p:=(Value.pointer (some ⟨k,0,none⟩))) rfl (Ld.g fun hb=>by have a:=hb;first | exact (l1 Tryz.isAgg3 c rfl) | (simp only [c6 a,c5 a,c5 hb,d8 a];exact (l1 Tryz.isAgg3 c rfl)) | (simp only [c6 a,c5 a,c5 hb,d9 a,c8];exact (l1 Tryz.isAgg3 c rfl))) ?_
    refine f8 (Pu.g fun hb=>by have a:=hb;first | with_reducible exact pEq | (simp only [c6 a,c5 a,c5 hb,d8 a];with_reducible exact pEq) | (simp only [c6 a,c5 a,c5 hb,d9 a,c8];with_reducible exact pEq) | exact pEq | (simp only [c6 a,c5 a,c5 hb,d8 a];exact pEq) | (simp only [c6 a,c5 a,c5 hb,d9 a,c8];exact pEq)) ?_
    refine f8 (B4 _ _) ?_
    exact hR _ H _ _ c.drop ⟨x0.L2.A4.m5,((decide (x0.L2.A4.f3=2))||(decide (x0.L2.A4.f3=4))),rfl,rfl,h⟩
   ·exact hR _ H _ _ I ⟨⟨#[]⟩,false,rfl,rfl,h⟩
def a6s(x0:Int)(H:Hp)(K:Bool→Hp→Prop):Prop:=
 a4x x0 H (fun a b=>
 K ((decide (a=3))||(decide (a=4))) b)
theorem b2U(x0){H K}(h:a6s x0 H K):a6m x0 H K:=by
 refine Ct.of fun w0 w ps0 H0 R E I hR=>c6h ?_
 unfold a6s at h
 unfold c8R
 refine j6 Tryz.call134 h I ?_
 rintro _ c _ e d _ _ ⟨b,rfl,rfl,h⟩
 refine c7 pEq ?_
 try simp only [B8,G9,B9,C1,C3,C5,C0,C2,C4,C6]
 refine c7 (Pu.g fun hb=>by have a:=hb;first | with_reducible exact pEq | (simp only [c6 a,c5 a,c5 hb,d8 a];with_reducible exact pEq) | (simp only [c6 a,c5 a,c5 hb,d9 a,c8];with_reducible exact pEq) | exact pEq | (simp only [c6 a,c5 a,c5 hb,d8 a];exact pEq) | (simp only [c6 a,c5 a,c5 hb,d9 a,c8];exact pEq)) ?_
 refine c7 (B4 _ _) ?_
 exact hR _ c _ _ d ⟨((decide (b=3))||(decide (b=4))),rfl,rfl,h⟩
def R0(b2a:Int)(H:Hp)(K:Int→Hp→Prop):Prop:=
 K b2a H
def a0d(b:ByteArray)(b3n:Int)(a:Nat)(H:Hp)(n2:(Int×Nat)→Hp→Prop)(K:Int→Hp→Prop):Prop:=
 (a < b.size→
 n2 ((IntKind.wrap .i64 (b3n+1)),(a+(Utf8.decode b a).2)) H)∧
 (¬(a < b.size)→
 R0 b3n H K)
def a0D(x0:ByteArray)(H:Hp)(K:Int→Hp→Prop):Prop:=
 TL ((0,0):Int×Nat) H fun(s:Int×Nat) H n2=>a0d x0 s.1 s.2 H n2 K
theorem a7I(x0){H K}(h:a0D x0 H K):a0B x0 H K:=by
 refine Ct.of fun w0 w ps0 H0 R E I hR=>c6k ?_
 unfold a0D at h
 unfold c8U
 have hj1:∀(b2a:Int) H w (_:Inv w0 ps0 H0 H [] w) (_:R0 b2a H K),b6q (vi b2a) w R E:=by
  intro b2a H w I h
  unfold b6q
  intro _
  unfold R0 at h
  exact hR _ H _ _ I ⟨b2a,rfl,rfl,h⟩
 refine s8 fun j1 hx1=>?_
 refine c0i Tryz.underlying9 x0 I fun d i f j=>?_
 refine a0V (σ:=Int×Nat) (fun (b3n,a)=>[(vi b3n)]) (fun (b3n,a)=>[itf d x0 a]) h rfl f ?_
 rintro ⟨b3n,a⟩ H k w next2 n2 b I h hn2
 dsimp only at b I h
 simp only [List.map_cons,List.map_nil,List.cons.injEq,and_true] at b
 have e2:=b
 simp only [e2]
 unfold c0x
 unfold a0d at h
 refine c1V I (fun c l g m=>?_) (fun c=>?_)
 ·replace h:=h.1 c
  refine c7 (p6 _ _ (vB true) rfl) ?_
  refine a5q (fun e=>?_) (fun e=>by cases e)
  refine c7 pAd ?_
  exact hn2 ((IntKind.wrap .i64 (b3n+1)),(a+(Utf8.decode x0 a).2)) _ _ h g
 ·replace h:=h.2 c
  refine c7 (p6 _ _ (vB false) rfl) ?_
  refine a5q (fun e=>by cases e) (fun e=>?_)
  exact hx1 _ _ (hj1 b3n H _ I.drop h)
def a5Y(H:Hp)(K:Bool→Hp→Prop):Prop:=
 K true H
def a3N(b:ByteArray)(a:Nat)(H:Hp)(n2:Nat→Hp→Prop)(K:Bool→Hp→Prop):Prop:=
 (a < b.size→
 a6m ((Utf8.decode b a).1:Int) H (fun c d=>
 TG ((!(!c)&&(decide (((a:Nat):Int)=0)))=true) (a4x ((Utf8.decode b a).1:Int) d) 0 d (fun(e:Int)(f:Hp)=>
 (((!c)||((decide (((a:Nat):Int)=0))&&(!decide (e=3))))=true→
 K false f)∧
 (((!c)||((decide (((a:Nat):Int)=0))&&(!decide (e=3))))=false→
 n2 (a+(Utf8.decode b a).2) f))))∧
 (¬(a < b.size)→
 a5Y H K)
def a7t(x0:ByteArray)(H:Hp)(K:Bool→Hp→Prop):Prop:=
 TG ((decide (x0=⟨#[]⟩))=false) (a6f x0 H) false H (fun(a:Bool)(c:Hp)=>
 TG (((decide (x0=⟨#[]⟩))||(!a))=false) (a7k x0 c) false c (fun(b:Bool)(d:Hp)=>
 TG ((((decide (x0=⟨#[]⟩))||(!a))||b)=false) (a7l x0 d) false d (fun(e:Bool)(f:Hp)=>
 (((((decide (x0=⟨#[]⟩))||(!a))||b)||e)=true→
 K false f)∧
 (((((decide (x0=⟨#[]⟩))||(!a))||b)||e)=false→
 TL (0:Nat) f fun(s:Nat) H n2=>a3N x0 s H n2 K))))
theorem b4q(x0){H K}(h:a7t x0 H K):a5d x0 H K:=by
 refine Ct.of fun w0 w ps0 H0 R E I hR=>c6d ?_
 unfold a7t at h
 unfold c8N
 refine c7 (a3g _ _ _ _ _) ?_
 try simp only [B8,G9,B9,C1,C3,C5,C0,C2,C4,C6]
 refine R1 [] (fun d:Bool=>(vB d)) h I (fun r h=>?_) fun d s ai f t u h=>?_
 ·have a:=r
  try simp only [c6 a,c5 a,c5 r]
  refine j6 Tryz.call130 h I ?_
  rintro _ s _ ai f u t ⟨d,rfl,rfl,h⟩
  exact ⟨d,s,rfl,f,t,u,h⟩
 refine c7 (Pu.g fun hb=>by have a:=hb;first | with_reducible exact (p8 _) | (simp only [c6 a,c5 a,c5 hb,d8 a];with_reducible exact (p8 _)) | (simp only [c6 a,c5 a,c5 hb,d9 a,c8];with_reducible exact (p8 _)) | exact (p8 _) | (simp only [c6 a,c5 a,c5 hb,d8 a];exact (p8 _)) | (simp only [c6 a,c5 a,c5 hb,d9 a,c8];exact (p8 _))) ?_
 refine c7 (B4 _ _) ?_
 try simp only [B8,G9,B9,C1,C3,C5,C0,C2,C4,C6]
 refine R1 [] (fun i:Bool=>(vB i)) h f (fun v h=>?_) fun i y aj j z aa h=>?_
 ·have a:=v
  try simp only [c6 a,c5 a,c5 v]
  refine j6 Tryz.call131 h f ?_
  rintro _ y _ aj j aa z ⟨i,rfl,rfl,h⟩
  exact ⟨i,y,rfl,j,z,aa,h⟩
 refine c7 (B4 _ _) ?_
 try simp only [B8,G9,B9,C1,C3,C5,C0,C2,C4,C6]
 refine R1 [] (fun k:Bool=>(vB k)) h j (fun ab h=>?_) fun k o ak l ac ad h=>?_
 ·have a:=ab
  try simp only [c6 a,c5 a,c5 ab]
  refine j6 Tryz.call132 h j ?_
  rintro _ o _ ak l ad ac ⟨k,rfl,rfl,h⟩
  exact ⟨k,o,rfl,l,ac,ad,h⟩
 refine c7 (B4 _ _) ?_
 refine q9 h (fun _ h=>?_) (fun _ h=>?_)
 ·exact hR _ o _ _ l ⟨false,rfl,rfl,h⟩
 ·have hj1:∀H w (_:Inv w0 ps0 H0 H [] w) (_:a5Y H K),b6j w R E:=by
   intro H w I h
   unfold b6j
   intro _
   unfold a5Y at h
   exact hR _ H _ _ I ⟨true,rfl,rfl,h⟩
  refine s8 fun j1 hx1=>?_
  refine c0i Tryz.underlying9 x0 l fun al aq am ar=>?_
  refine a0V (σ:=Nat) (fun c=>[]) (fun c=>[itf al x0 c]) h rfl am ?_
  rintro c H au w next2 n2 an I h hn2
  clear an
  unfold c0v
  unfold a3N at h
  refine c1V I (fun p av ao aw=>?_) (fun p=>?_)
  ·replace h:=h.1 p
   refine c7 (p6 _ _ (vB true) rfl) ?_
   refine a5q (fun e=>?_) (fun e=>by cases e)
   refine c7 (p6 _ _ (vi ((c:Nat):Int)) rfl) (c7 (p6 _ _ (Value.int .i32 ((Utf8.decode x0 c).1:Int)) rfl) ?_)
   refine j6 Tryz.call133 h ao ?_
   rintro _ _ _ ax ae _ _ ⟨ay,rfl,rfl,h⟩
   refine c7 (p8 _) ?_
   try simp only [B8,G9,B9,C1,C3,C5,C0,C2,C4,C6]
   refine c7 (Pu.g fun hb=>by have a:=hb;first | with_reducible exact pEq | (simp only [c6 a,c5 a,c5 hb,d8 a];with_reducible exact pEq) | (simp only [c6 a,c5 a,c5 hb,d9 a,c8];with_reducible exact pEq) | exact pEq | (simp only [c6 a,c5 a,c5 hb,d8 a];exact pEq) | (simp only [c6 a,c5 a,c5 hb,d9 a,c8];exact pEq)) ?_
   try simp only [B8,G9,B9,C1,C3,C5,C0,C2,C4,C6]
   try simp only [B8,G9,B9,C1,C3,C5,C0,C2,C4,C6]
   refine c9N (Q9 _ _ _) ?_
   refine R1 [] (fun m:Int=>(vi m)) h ae (fun af h=>?_) fun m q ap n ag ah h=>?_
   ·obtain ⟨a,b⟩:=a0K af
    try simp only [c6 a,c6 b,c5 a,c5 b,c5 af]
    refine j6 Tryz.call134 h ae ?_
    rintro _ q _ ap n ah ag ⟨m,rfl,rfl,h⟩
    exact ⟨m,q,rfl,n,ag,ah,h⟩
   refine c7 (Pu.e (Q9 _ _ _) (Pu.g fun hb=>by obtain ⟨a,b⟩:=a0K hb;first | with_reducible exact pNe | (simp only [c6 a,c5 a,c6 b,c5 b,c5 hb,c8];with_reducible exact pNe) | (simp only [c6 a,c5 a,c6 b,c5 b,c5 hb,d6 hb];with_reducible exact pNe) | (simp only [c6 a,c5 a,c6 b,c5 b,c5 hb,d7 hb,c8];with_reducible exact pNe) | exact pNe | (simp only [c6 a,c5 a,c6 b,c5 b,c5 hb,c8];exact pNe) | (simp only [c6 a,c5 a,c6 b,c5 b,c5 hb,d6 hb];exact pNe) | (simp only [c6 a,c5 a,c6 b,c5 b,c5 hb,d7 hb,c8];exact pNe))) ?_
   refine c7 (Pu.g fun hb=>by have a:=hb;first | with_reducible exact (p9 _ _) | (simp only [c6 a,c5 a,c5 hb,d8 a];with_reducible exact (p9 _ _)) | (simp only [c6 a,c5 a,c5 hb,d9 a,c8];with_reducible exact (p9 _ _)) | exact (p9 _ _) | (simp only [c6 a,c5 a,c5 hb,d8 a];exact (p9 _ _)) | (simp only [c6 a,c5 a,c5 hb,d9 a,c8];exact (p9 _ _))) ?_
   refine c7 (B4 _ _) ?_
   refine q9 h (fun _ h=>?_) (fun _ h=>?_)
   ·exact hR _ q _ _ n.drop ⟨false,rfl,rfl,h⟩
   ·exact hn2 (c+(Utf8.decode x0 c).2) _ _ h n
  ·replace h:=h.2 p
   refine c7 (p6 _ _ (vB false) rfl) ?_
   refine a5q (fun e=>by cases e) (fun e=>?_)
   exact hx1 _ _ (hj1 H _ I.drop h)
def a6t(x0:E6)(H:Hp)(K:Int→Hp→Prop):Prop:=
 a7m x0 H (fun a b=>
 K a.fe b)
theorem b2V(x0){H K}(h:a6t x0 H K):a6n x0 H K:=by
 refine Ct.of fun w0 w ps0 H0 R E I hR=>c8q ?_
 unfold a6t at h
 unfold F92
 refine D6 I (cs:=(C7 x0)) rfl fun e f a g=>?_
 refine d4 (lW Tryz.isAgg25 Tryz.sizeOf25 rfl a) ?_
 refine j6 Tryz.call107 h a ?_
 rintro _ c _ i b _ _ ⟨d,j,rfl,rfl,h⟩
 refine c7 (y6 _) (c7 a7v (d4 (l1 Tryz.isAgg31 b rfl) ?_))
 exact hR _ c _ _ b.drop.drop ⟨d.fe,rfl,rfl,h⟩
def a6O(x0:o0)(H:Hp)(K:Int→Hp→Prop):Prop:=
 (0 < x0.L0→
 K 2 H)∧
 (¬(0 < x0.L0)→
 K 1 H)
theorem b3o(x0){H K}(h:a6O x0 H K):a8U x0 H K:=by
 refine Ct.of fun w0 w ps0 H0 R E I hR=>c8i ?_
 unfold a6O at h
 unfold F65
 refine D6 I (cs:=(m2 x0)) rfl fun b c a d=>?_
 refine c7 L1 (d4 (l1 Tryz.isAgg3 a rfl) (c7 pGt ?_))
 refine g9 h (fun _ h=>?_) (fun _ h=>?_)
 ·exact hR _ H _ _ a.drop ⟨2,rfl,rfl,h⟩
 ·exact hR _ H _ _ a.drop ⟨1,rfl,rfl,h⟩
def a4J(x0:X6)(H:Hp)(K:Bool→Hp→Prop):Prop:=
 K ((decide (0≤x0.a0L.L0))&&(decide (x0.a0L.L0≤2147483647))) H
theorem b0U(x0){H K}(h:a4J x0 H K):a7i x0 H K:=by
 refine Ct.of fun w0 w ps0 H0 R E I hR=>c6m ?_
 unfold a4J at h
 unfold c8W
 refine D6 I (cs:=(m2 x0.a0L)) rfl fun c d b e=>?_
 refine c7 a3Q (c7 L1 (d4 (l1 Tryz.isAgg3 b rfl) (c7 pGe ?_)))
 refine c7 (Pu.g fun hb=>by have a:=hb;first | with_reducible exact a3Q | (simp only [c6 a,c5 a,c5 hb,d6 a];with_reducible exact a3Q) | (simp only [c6 a,c5 a,c5 hb,d7 a,c8];with_reducible exact a3Q) | exact a3Q | (simp only [c6 a,c5 a,c5 hb,d6 a];exact a3Q) | (simp only [c6 a,c5 a,c5 hb,d7 a,c8];exact a3Q)) ?_
 refine c7 (Pu.g fun hb=>by have a:=hb;first | with_reducible exact L1 | (simp only [c6 a,c5 a,c5 hb,d6 a];with_reducible exact L1) | (simp only [c6 a,c5 a,c5 hb,d7 a,c8];with_reducible exact L1) | exact L1 | (simp only [c6 a,c5 a,c5 hb,d6 a];exact L1) | (simp only [c6 a,c5 a,c5 hb,d7 a,c8];exact L1)) ?_
 refine d4 (Ld.g fun hb=>by have a:=hb;first | exact (l1 Tryz.isAgg3 b rfl) | (simp only [c6 a,c5 a,c5 hb,d6 a];exact (l1 Tryz.isAgg3 b rfl)) | (simp only [c6 a,c5 a,c5 hb,d7 a,c8];exact (l1 Tryz.isAgg3 b rfl))) ?_
 refine c7 (Pu.g fun hb=>by have a:=hb;first | with_reducible exact pLe | (simp only [c6 a,c5 a,c5 hb,d6 a];with_reducible exact pLe) | (simp only [c6 a,c5 a,c5 hb,d7 a,c8];with_reducible exact pLe) | exact pLe | (simp only [c6 a,c5 a,c5 hb,d6 a];exact pLe) | (simp only [c6 a,c5 a,c5 hb,d7 a,c8];exact pLe)) ?_
 refine c7 (p9 _ _) ?_
 exact hR _ H _ _ b.drop ⟨((decide (0≤x0.a0L.L0))&&(decide (x0.a0L.L0≤2147483647))),rfl,rfl,h⟩
def Q4(b0l:Bool)(c5u:Int)(b4a:Bool)(a:u4)(b:T2)(H:Hp)(K:Bool→Hp→Prop):Prop:=
 (b4a=true→
 K (b0l&&(decide (a.fexprs=0∧a.fconds=1))) H)∧
 (b4a=false→
 (c5u=7→
 K (b0l&&(decide (a.fexprs=0∧a.fconds=0))) H)∧
 (¬(c5u=7)→
 K false H))
def a4K(x0:T2)(H:Hp)(K:Bool→Hp→Prop):Prop:=
 (x0.i8.f3=1→
 K ((!(decide (0 < (IntKind.wrap .i64 ((x0.i8.T0.n:Int)+(x0.i8.T1.n:Int))))))&&(decide ((x0.i8.m9.n:Int)=1∧(x0.i8.A0.n:Int)=0))) H)∧
 (¬(x0.i8.f3=1)→
 (x0.i8.f3=2→
 K ((!(decide (0 < (IntKind.wrap .i64 ((x0.i8.T0.n:Int)+(x0.i8.T1.n:Int))))))&&(decide ((x0.i8.m9.n:Int)=2∧(x0.i8.A0.n:Int)=0))) H)∧
 (¬(x0.i8.f3=2)→
 (x0.i8.f3=3→
 K ((decide (x0.i8.m5=⟨#[]⟩))&&(decide ((x0.i8.m9.n:Int)=0∧(x0.i8.A0.n:Int)=1))) H)∧
 (¬(x0.i8.f3=3)→
 (x0.i8.f3=4→
 K (((decide (x0.i8.m5=⟨#[]⟩))&&(decide ((x0.i8.T1.n:Int)=0)))&&(decide ((x0.i8.m9.n:Int)=0∧(x0.i8.A0.n:Int)=1))) H)∧
 (¬(x0.i8.f3=4)→
 (x0.i8.f3=5→
 Q4 ((decide (x0.i8.m5=⟨#[]⟩))&&(!(decide (0 < (IntKind.wrap .i64 ((x0.i8.T0.n:Int)+(x0.i8.T1.n:Int))))))) x0.i8.f3 (decide (x0.i8.f3=5)) (u4.mk (x0.i8.m9.n:Int) (x0.i8.A0.n:Int)) x0 H K)∧
 (¬(x0.i8.f3=5)→
 Q4 ((decide (x0.i8.m5=⟨#[]⟩))&&(!(decide (0 < (IntKind.wrap .i64 ((x0.i8.T0.n:Int)+(x0.i8.T1.n:Int))))))) x0.i8.f3 (decide (x0.i8.f3=6)) (u4.mk (x0.i8.m9.n:Int) (x0.i8.A0.n:Int)) x0 H K)))))
theorem b0V(x0){H K}(h:a4K x0 H K):a4A x0 H K:=by
 refine Ct.of fun w0 w ps0 H0 R E I hR=>c6o ?_
 unfold a4K at h
 unfold c8Y
 refine D6 I (cs:=(A8 x0.i8)) rfl fun e i c j=>?_
 refine c7 E7 (c7 a5D (d4 (l1 Tryz.isAgg23 c rfl) (c7 (W5 _ _ _) (c7 E7 ?_))))
 refine c7 a0Y (d4 (l1 Tryz.isAgg23 c rfl) (c7 (W5 _ _ _) (c7 pAd (c7 pGt ?_))))
 refine c7 E7 (c7 a7Q (d4 (l1 Tryz.isAgg57 c rfl) (c7 (a5C _ _ _) (c7 E7 ?_))))
 refine c7 a5E (d4 (l1 Tryz.isAgg58 c rfl) (c7 (a8Q _ _ _) (c7 (y7 _ _) ?_)))
 refine y3 c Tryz.zeroValue230 (cs:=[(vi 0),(vi 0)]) rfl fun d k f l=>?_
 refine A6 f Tryz.sizeOf230 (vs:=[(vi (x0.i8.m9.n:Int)),(vi (x0.i8.A0.n:Int))]) fun m b p=>?_
 refine c7 E7 (c7 a4Q (d4 (l1 Tryz.isAgg9 (b.bring 1) rfl) (c7 (a3g _ _ _ _ _) ?_)))
 try simp only [B8,G9,B9,C1,C3,C5,C0,C2,C4,C6]
 refine c7 (Pu.g fun hb=>by have a:=hb;first | with_reducible exact (p8 _) | (simp only [c6 a,c5 a,c5 hb,d6 a];with_reducible exact (p8 _)) | (simp only [c6 a,c5 a,c5 hb,d7 a,c8];with_reducible exact (p8 _)) | exact (p8 _) | (simp only [c6 a,c5 a,c5 hb,d6 a];exact (p8 _)) | (simp only [c6 a,c5 a,c5 hb,d7 a,c8];exact (p8 _))) ?_
 refine c7 (p9 _ _) (c7 E7 (c7 a1I (d4 (l1 Tryz.isAgg3 (b.bring 1) rfl) (c7 pEq ?_))))
 refine g9 h (fun _ h=>?_) (fun _ h=>?_)
 ·refine c7 (p8 _) ?_
  refine d4 (Ld.g fun hb=>by have a:=hb;first | exact (ldA Tryz.isAgg230 Tryz.sizeOf230 rfl (b.at1 (o:=0) (vs:=[(vi (x0.i8.m9.n:Int)),(vi (x0.i8.A0.n:Int))]) (nb rfl) rfl)) | (simp only [c6 a,c5 a,c5 hb,d6 a];exact (ldA Tryz.isAgg230 Tryz.sizeOf230 rfl (b.at1 (o:=0) (vs:=[(vi (x0.i8.m9.n:Int)),(vi (x0.i8.A0.n:Int))]) (nb rfl) rfl))) | (simp only [c6 a,c5 a,c5 hb,d7 a,c8];exact (ldA Tryz.isAgg230 Tryz.sizeOf230 rfl (b.at1 (o:=0) (vs:=[(vi (x0.i8.m9.n:Int)),(vi (x0.i8.A0.n:Int))]) (nb rfl) rfl)))) ?_
  refine c7 (Pu.g fun hb=>by have a:=hb;first | with_reducible exact (y7 _ _) | (simp only [c6 a,c5 a,c5 hb,d6 a];with_reducible exact (y7 _ _)) | (simp only [c6 a,c5 a,c5 hb,d7 a,c8];with_reducible exact (y7 _ _)) | exact (y7 _ _) | (simp only [c6 a,c5 a,c5 hb,d6 a];exact (y7 _ _)) | (simp only [c6 a,c5 a,c5 hb,d7 a,c8];exact (y7 _ _))) ?_
  refine c7 (Pu.g fun hb=>by have a:=hb;first | with_reducible exact (D5 _ _ _ _ _ _) | (simp only [c6 a,c5 a,c5 hb,d6 a];with_reducible exact (D5 _ _ _ _ _ _)) | (simp only [c6 a,c5 a,c5 hb,d7 a,c8];with_reducible exact (D5 _ _ _ _ _ _)) | exact (D5 _ _ _ _ _ _) | (simp only [c6 a,c5 a,c5 hb,d6 a];exact (D5 _ _ _ _ _ _)) | (simp only [c6 a,c5 a,c5 hb,d7 a,c8];exact (D5 _ _ _ _ _ _))) ?_
  refine c7 (p9 _ _) ?_
  exact hR _ H _ _ b.drop.drop ⟨((!(decide (0 < (IntKind.wrap .i64 ((x0.i8.T0.n:Int)+(x0.i8.T1.n:Int))))))&&(decide ((x0.i8.m9.n:Int)=1∧(x0.i8.A0.n:Int)=0))),rfl,rfl,h⟩
 ·refine c7 pEq ?_
  refine g9 h (fun _ h=>?_) (fun _ h=>?_)
  ·refine c7 (p8 _) ?_
   refine d4 (Ld.g fun hb=>by have a:=hb;first | exact (ldA Tryz.isAgg230 Tryz.sizeOf230 rfl (b.at1 (o:=0) (vs:=[(vi (x0.i8.m9.n:Int)),(vi (x0.i8.A0.n:Int))]) (nb rfl) rfl)) | (simp only [c6 a,c5 a,c5 hb,d6 a];exact (ldA Tryz.isAgg230 Tryz.sizeOf230 rfl (b.at1 (o:=0) (vs:=[(vi (x0.i8.m9.n:Int)),(vi (x0.i8.A0.n:Int))]) (nb rfl) rfl))) | (simp only [c6 a,c5 a,c5 hb,d7 a,c8];exact (ldA Tryz.isAgg230 Tryz.sizeOf230 rfl (b.at1 (o:=0) (vs:=[(vi (x0.i8.m9.n:Int)),(vi (x0.i8.A0.n:Int))]) (nb rfl) rfl)))) ?_
   refine c7 (Pu.g fun hb=>by have a:=hb;first | with_reducible exact (y7 _ _) | (simp only [c6 a,c5 a,c5 hb,d6 a];with_reducible exact (y7 _ _)) | (simp only [c6 a,c5 a,c5 hb,d7 a,c8];with_reducible exact (y7 _ _)) | exact (y7 _ _) | (simp only [c6 a,c5 a,c5 hb,d6 a];exact (y7 _ _)) | (simp only [c6 a,c5 a,c5 hb,d7 a,c8];exact (y7 _ _))) ?_
   refine c7 (Pu.g fun hb=>by have a:=hb;first | with_reducible exact (D5 _ _ _ _ _ _) | (simp only [c6 a,c5 a,c5 hb,d6 a];with_reducible exact (D5 _ _ _ _ _ _)) | (simp only [c6 a,c5 a,c5 hb,d7 a,c8];with_reducible exact (D5 _ _ _ _ _ _)) | exact (D5 _ _ _ _ _ _) | (simp only [c6 a,c5 a,c5 hb,d6 a];exact (D5 _ _ _ _ _ _)) | (simp only [c6 a,c5 a,c5 hb,d7 a,c8];exact (D5 _ _ _ _ _ _))) ?_
   refine c7 (p9 _ _) ?_
   exact hR _ H _ _ b.drop.drop ⟨((!(decide (0 < (IntKind.wrap .i64 ((x0.i8.T0.n:Int)+(x0.i8.T1.n:Int))))))&&(decide ((x0.i8.m9.n:Int)=2∧(x0.i8.A0.n:Int)=0))),rfl,rfl,h⟩
  ·refine c7 pEq ?_
   refine g9 h (fun _ h=>?_) (fun _ h=>?_)
   ·refine c7 E7 (c7 a4Q (d4 (l1 Tryz.isAgg9 (b.bring 1) rfl) (c7 (a3g _ _ _ _ _) ?_)))
    refine d4 (Ld.g fun hb=>by have a:=hb;first | exact (ldA Tryz.isAgg230 Tryz.sizeOf230 rfl (b.at1 (o:=0) (vs:=[(vi (x0.i8.m9.n:Int)),(vi (x0.i8.A0.n:Int))]) (nb rfl) rfl)) | (simp only [c6 a,c5 a,c5 hb,d6 a];exact (ldA Tryz.isAgg230 Tryz.sizeOf230 rfl (b.at1 (o:=0) (vs:=[(vi (x0.i8.m9.n:Int)),(vi (x0.i8.A0.n:Int))]) (nb rfl) rfl))) | (simp only [c6 a,c5 a,c5 hb,d7 a,c8];exact (ldA Tryz.isAgg230 Tryz.sizeOf230 rfl (b.at1 (o:=0) (vs:=[(vi (x0.i8.m9.n:Int)),(vi (x0.i8.A0.n:Int))]) (nb rfl) rfl)))) ?_
    refine c7 (Pu.g fun hb=>by have a:=hb;first | with_reducible exact (y7 _ _) | (simp only [c6 a,c5 a,c5 hb,d6 a];with_reducible exact (y7 _ _)) | (simp only [c6 a,c5 a,c5 hb,d7 a,c8];with_reducible exact (y7 _ _)) | exact (y7 _ _) | (simp only [c6 a,c5 a,c5 hb,d6 a];exact (y7 _ _)) | (simp only [c6 a,c5 a,c5 hb,d7 a,c8];exact (y7 _ _))) ?_
    refine c7 (Pu.g fun hb=>by have a:=hb;first | with_reducible exact (D5 _ _ _ _ _ _) | (simp only [c6 a,c5 a,c5 hb,d6 a];with_reducible exact (D5 _ _ _ _ _ _)) | (simp only [c6 a,c5 a,c5 hb,d7 a,c8];with_reducible exact (D5 _ _ _ _ _ _)) | exact (D5 _ _ _ _ _ _) | (simp only [c6 a,c5 a,c5 hb,d6 a];exact (D5 _ _ _ _ _ _)) | (simp only [c6 a,c5 a,c5 hb,d7 a,c8];exact (D5 _ _ _ _ _ _))) ?_
    refine c7 (p9 _ _) ?_
    exact hR _ H _ _ b.drop.drop ⟨((decide (x0.i8.m5=⟨#[]⟩))&&(decide ((x0.i8.m9.n:Int)=0∧(x0.i8.A0.n:Int)=1))),rfl,rfl,h⟩
   ·refine c7 pEq ?_
    refine g9 h (fun _ h=>?_) (fun _ h=>?_)
    ·refine c7 E7 (c7 a4Q (d4 (l1 Tryz.isAgg9 (b.bring 1) rfl) (c7 (a3g _ _ _ _ _) ?_)))
     refine c7 (Pu.g fun hb=>by have a:=hb;first | with_reducible exact E7 | (simp only [c6 a,c5 a,c5 hb,d6 a];with_reducible exact E7) | (simp only [c6 a,c5 a,c5 hb,d7 a,c8];with_reducible exact E7) | exact E7 | (simp only [c6 a,c5 a,c5 hb,d6 a];exact E7) | (simp only [c6 a,c5 a,c5 hb,d7 a,c8];exact E7)) ?_
     refine c7 (Pu.g fun hb=>by have a:=hb;first | with_reducible exact a0Y | (simp only [c6 a,c5 a,c5 hb,d6 a];with_reducible exact a0Y) | (simp only [c6 a,c5 a,c5 hb,d7 a,c8];with_reducible exact a0Y) | exact a0Y | (simp only [c6 a,c5 a,c5 hb,d6 a];exact a0Y) | (simp only [c6 a,c5 a,c5 hb,d7 a,c8];exact a0Y)) ?_
     refine d4 (Ld.g fun hb=>by have a:=hb;first | exact (l1 Tryz.isAgg23 (b.bring 1) rfl) | (simp only [c6 a,c5 a,c5 hb,d6 a];exact (l1 Tryz.isAgg23 (b.bring 1) rfl)) | (simp only [c6 a,c5 a,c5 hb,d7 a,c8];exact (l1 Tryz.isAgg23 (b.bring 1) rfl))) ?_
     refine c7 (Pu.g fun hb=>by have a:=hb;first | with_reducible exact (W5 _ _ _) | (simp only [c6 a,c5 a,c5 hb,d6 a];with_reducible exact (W5 _ _ _)) | (simp only [c6 a,c5 a,c5 hb,d7 a,c8];with_reducible exact (W5 _ _ _)) | exact (W5 _ _ _) | (simp only [c6 a,c5 a,c5 hb,d6 a];exact (W5 _ _ _)) | (simp only [c6 a,c5 a,c5 hb,d7 a,c8];exact (W5 _ _ _))) ?_
     refine c7 (Pu.g fun hb=>by have a:=hb;first | with_reducible exact pEq | (simp only [c6 a,c5 a,c5 hb,d6 a];with_reducible exact pEq) | (simp only [c6 a,c5 a,c5 hb,d7 a,c8];with_reducible exact pEq) | exact pEq | (simp only [c6 a,c5 a,c5 hb,d6 a];exact pEq) | (simp only [c6 a,c5 a,c5 hb,d7 a,c8];exact pEq)) ?_
     refine c7 (p9 _ _) ?_
     refine d4 (Ld.g fun hb=>by have a:=hb;first | exact (ldA Tryz.isAgg230 Tryz.sizeOf230 rfl (b.at1 (o:=0) (vs:=[(vi (x0.i8.m9.n:Int)),(vi (x0.i8.A0.n:Int))]) (nb rfl) rfl)) | (simp only [c6 a,c5 a,c5 hb,d6 a];exact (ldA Tryz.isAgg230 Tryz.sizeOf230 rfl (b.at1 (o:=0) (vs:=[(vi (x0.i8.m9.n:Int)),(vi (x0.i8.A0.n:Int))]) (nb rfl) rfl))) | (simp only [c6 a,c5 a,c5 hb,d7 a,c8];exact (ldA Tryz.isAgg230 Tryz.sizeOf230 rfl (b.at1 (o:=0) (vs:=[(vi (x0.i8.m9.n:Int)),(vi (x0.i8.A0.n:Int))]) (nb rfl) rfl)))) ?_
     refine c7 (Pu.g fun hb=>by have a:=hb;first | with_reducible exact (y7 _ _) | (simp only [c6 a,c5 a,c5 hb,d6 a];with_reducible exact (y7 _ _)) | (simp only [c6 a,c5 a,c5 hb,d7 a,c8];with_reducible exact (y7 _ _)) | exact (y7 _ _) | (simp only [c6 a,c5 a,c5 hb,d6 a];exact (y7 _ _)) | (simp only [c6 a,c5 a,c5 hb,d7 a,c8];exact (y7 _ _))) ?_
     refine c7 (Pu.g fun hb=>by have a:=hb;first | with_reducible exact (D5 _ _ _ _ _ _) | (simp only [c6 a,c5 a,c5 hb,d6 a];with_reducible exact (D5 _ _ _ _ _ _)) | (simp only [c6 a,c5 a,c5 hb,d7 a,c8];with_reducible exact (D5 _ _ _ _ _ _)) | exact (D5 _ _ _ _ _ _) | (simp only [c6 a,c5 a,c5 hb,d6 a];exact (D5 _ _ _ _ _ _)) | (simp only [c6 a,c5 a,c5 hb,d7 a,c8];exact (D5 _ _ _ _ _ _))) ?_
     refine c7 (p9 _ _) ?_
     exact hR _ H _ _ b.drop.drop ⟨(((decide (x0.i8.m5=⟨#[]⟩))&&(decide ((x0.i8.T1.n:Int)=0)))&&(decide ((x0.i8.m9.n:Int)=0∧(x0.i8.A0.n:Int)=1))),rfl,rfl,h⟩
    ·have hj1:∀(b4a:Bool) H w (_:Inv w0 ps0 H0 H [bx d 230 [(vi (u4.mk (x0.i8.m9.n:Int) (x0.i8.A0.n:Int)).fexprs),(vi (u4.mk (x0.i8.m9.n:Int) (x0.i8.A0.n:Int)).fconds)],bx e 197 (A8 x0.i8)] w) (_:Q4 ((decide (x0.i8.m5=⟨#[]⟩))&&(!(decide (0 < (IntKind.wrap .i64 ((x0.i8.T0.n:Int)+(x0.i8.T1.n:Int))))))) x0.i8.f3 b4a (u4.mk (x0.i8.m9.n:Int) (x0.i8.A0.n:Int)) x0 H K),b6r (Value.pointer (some ⟨d,0,none⟩)) (vB ((decide (x0.i8.m5=⟨#[]⟩))&&(!(decide (0 < (IntKind.wrap .i64 ((x0.i8.T0.n:Int)+(x0.i8.T1.n:Int)))))))) (vi x0.i8.f3) (vB b4a) w R E:=by
      intro b4a H w I h
      unfold b6r
      intro _
      unfold Q4 at h
      refine q9 h (fun _ h=>?_) (fun _ h=>?_)
      ·refine d4 (Ld.g fun hb=>by have a:=hb;first | exact (ldA Tryz.isAgg230 Tryz.sizeOf230 rfl (I.at1 (o:=0) (vs:=[(vi (u4.mk (x0.i8.m9.n:Int) (x0.i8.A0.n:Int)).fexprs),(vi (u4.mk (x0.i8.m9.n:Int) (x0.i8.A0.n:Int)).fconds)]) (nb rfl) rfl)) | (simp only [c6 a,c5 a,c5 hb,d6 a];exact (ldA Tryz.isAgg230 Tryz.sizeOf230 rfl (I.at1 (o:=0) (vs:=[(vi (u4.mk (x0.i8.m9.n:Int) (x0.i8.A0.n:Int)).fexprs),(vi (u4.mk (x0.i8.m9.n:Int) (x0.i8.A0.n:Int)).fconds)]) (nb rfl) rfl))) | (simp only [c6 a,c5 a,c5 hb,d7 a,c8];exact (ldA Tryz.isAgg230 Tryz.sizeOf230 rfl (I.at1 (o:=0) (vs:=[(vi (u4.mk (x0.i8.m9.n:Int) (x0.i8.A0.n:Int)).fexprs),(vi (u4.mk (x0.i8.m9.n:Int) (x0.i8.A0.n:Int)).fconds)]) (nb rfl) rfl)))) ?_
       refine c7 (Pu.g fun hb=>by have a:=hb;first | with_reducible exact (y7 _ _) | (simp only [c6 a,c5 a,c5 hb,d6 a];with_reducible exact (y7 _ _)) | (simp only [c6 a,c5 a,c5 hb,d7 a,c8];with_reducible exact (y7 _ _)) | exact (y7 _ _) | (simp only [c6 a,c5 a,c5 hb,d6 a];exact (y7 _ _)) | (simp only [c6 a,c5 a,c5 hb,d7 a,c8];exact (y7 _ _))) ?_
       refine c7 (Pu.g fun hb=>by have a:=hb;first | with_reducible exact (D5 _ _ _ _ _ _) | (simp only [c6 a,c5 a,c5 hb,d6 a];with_reducible exact (D5 _ _ _ _ _ _)) | (simp only [c6 a,c5 a,c5 hb,d7 a,c8];with_reducible exact (D5 _ _ _ _ _ _)) | exact (D5 _ _ _ _ _ _) | (simp only [c6 a,c5 a,c5 hb,d6 a];exact (D5 _ _ _ _ _ _)) | (simp only [c6 a,c5 a,c5 hb,d7 a,c8];exact (D5 _ _ _ _ _ _))) ?_
       refine c7 (p9 _ _) ?_
       exact hR _ H _ _ I.drop.drop ⟨(((decide (x0.i8.m5=⟨#[]⟩))&&(!(decide (0 < (IntKind.wrap .i64 ((x0.i8.T0.n:Int)+(x0.i8.T1.n:Int)))))))&&(decide ((u4.mk (x0.i8.m9.n:Int) (x0.i8.A0.n:Int)).fexprs=0∧(u4.mk (x0.i8.m9.n:Int) (x0.i8.A0.n:Int)).fconds=1))),rfl,rfl,h⟩
      ·refine c7 pEq ?_
       refine g9 h (fun _ h=>?_) (fun _ h=>?_)
       ·refine d4 (Ld.g fun hb=>by have a:=hb;first | exact (ldA Tryz.isAgg230 Tryz.sizeOf230 rfl (I.at1 (o:=0) (vs:=[(vi (u4.mk (x0.i8.m9.n:Int) (x0.i8.A0.n:Int)).fexprs),(vi (u4.mk (x0.i8.m9.n:Int) (x0.i8.A0.n:Int)).fconds)]) (nb rfl) rfl)) | (simp only [c6 a,c5 a,c5 hb,d6 a];exact (ldA Tryz.isAgg230 Tryz.sizeOf230 rfl (I.at1 (o:=0) (vs:=[(vi (u4.mk (x0.i8.m9.n:Int) (x0.i8.A0.n:Int)).fexprs),(vi (u4.mk (x0.i8.m9.n:Int) (x0.i8.A0.n:Int)).fconds)]) (nb rfl) rfl))) | (simp only [c6 a,c5 a,c5 hb,d7 a,c8];exact (ldA Tryz.isAgg230 Tryz.sizeOf230 rfl (I.at1 (o:=0) (vs:=[(vi (u4.mk (x0.i8.m9.n:Int) (x0.i8.A0.n:Int)).fexprs),(vi (u4.mk (x0.i8.m9.n:Int) (x0.i8.A0.n:Int)).fconds)]) (nb rfl) rfl)))) ?_
        refine c7 (Pu.g fun hb=>by have a:=hb;first | with_reducible exact (a6Y) | (simp only [c6 a,c5 a,c5 hb,d6 a];with_reducible exact (a6Y)) | (simp only [c6 a,c5 a,c5 hb,d7 a,c8];with_reducible exact (a6Y)) | exact (a6Y) | (simp only [c6 a,c5 a,c5 hb,d6 a];exact (a6Y)) | (simp only [c6 a,c5 a,c5 hb,d7 a,c8];exact (a6Y))) ?_
        refine c7 (Pu.g fun hb=>by have a:=hb;first | with_reducible exact (D5 _ _ _ _ _ _) | (simp only [c6 a,c5 a,c5 hb,d6 a];with_reducible exact (D5 _ _ _ _ _ _)) | (simp only [c6 a,c5 a,c5 hb,d7 a,c8];with_reducible exact (D5 _ _ _ _ _ _)) | exact (D5 _ _ _ _ _ _) | (simp only [c6 a,c5 a,c5 hb,d6 a];exact (D5 _ _ _ _ _ _)) | (simp only [c6 a,c5 a,c5 hb,d7 a,c8];exact (D5 _ _ _ _ _ _))) ?_
        refine c7 (p9 _ _) ?_
        exact hR _ H _ _ I.drop.drop ⟨(((decide (x0.i8.m5=⟨#[]⟩))&&(!(decide (0 < (IntKind.wrap .i64 ((x0.i8.T0.n:Int)+(x0.i8.T1.n:Int)))))))&&(decide ((u4.mk (x0.i8.m9.n:Int) (x0.i8.A0.n:Int)).fexprs=0∧(u4.mk (x0.i8.m9.n:Int) (x0.i8.A0.n:Int)).fconds=0))),rfl,rfl,h⟩
       ·exact hR _ H _ _ I.drop.drop ⟨false,rfl,rfl,h⟩
     refine s8 fun j1 hx1=>?_
     refine c7 pEq ?_
     refine g9 h (fun _ h=>?_) (fun _ h=>?_)
     ·exact hx1 _ _ (hj1 (decide (x0.i8.f3=5)) H _ ((b.bring 1).bring 1) h)
     ·refine c7 pEq ?_
      exact hx1 _ _ (hj1 (decide (x0.i8.f3=6)) H _ ((b.bring 1).bring 1) h)
def F7(P4:(List g7))(H:Hp)(K:Sl→Hp→Prop):Prop:=
 ∀(J2:Sl)(a:Hp),Hle H a→SlH a 1 z6 J2 P4→J2.n≤J2.c→
 K J2 a
def G3(a3v:Sl)(a4g:Int)(A5:(List g7))(B3:Int)(H:Hp)(n2:((List g7)×Int)→Hp→Prop)(K:Sl→Hp→Prop):Prop:=
 (B3 < a4g→
 (0:Int)≤B3∧(B3:Int) < a3v.n∧∃a:B5,EltH H a3v B3 4 (t6 a)∧
 a7V a H (fun b c=>
 (A5.length+([b]:List g7).length)*17≤140737488355328∧
 n2 ((A5++[b]),(IntKind.wrap .i64 (B3+1))) c))∧
 (¬(B3 < a4g)→
 F7 A5 H K)
def M5(x0:Sl)(H:Hp)(K:Sl→Hp→Prop):Prop:=
 TL (([],0):(List g7)×Int) H fun(s:(List g7)×Int) H n2=>G3 x0 (x0.n:Int) s.1 s.2 H n2 K
theorem a1G(x0){H K}(h:M5 x0 H K):J0 x0 H K:=by
 refine Ct.of fun w0 w ps0 H0 R E I hR=>c6q ?_
 unfold M5 at h
 unfold c9a
 have hj1:∀(P4:(List g7))(J2:Sl)(Fs5j1:Frag) H w (_:RowL 182 1 z6 J2 P4 Fs5j1) (_:Inv w0 ps0 H0 H [Fs5j1] w) (_:F7 P4 H K),b6s (vs J2) w R E:=by
  intro P4 J2 Fs5j1 H w a5f I h
  unfold b6s
  intro _
  unfold F7 at h
  obtain ⟨j,q,r,t,u⟩:=Inv.freezeC I a5f (by decide)
  replace h:=h J2 j r t u
  exact hR _ j _ _ q ⟨J2,rfl,rfl,h⟩
 refine s8 fun j1 hx1=>?_
 refine c7 (a8Q _ _ _) ?_
 obtain ⟨f,d,v,y⟩:=h
 refine I0 (J:=fun n l w=>∃(s:(List g7)×Int)(H:Hp)(T9:Sl)(Fs5l2:Frag),n=d s∧l=(match s with | (A5,B3)=>[(vs T9),(vi B3)])∧(match s with | (A5,B3)=>RowL 182 1 z6 T9 A5 Fs5l2)∧(match s with | (A5,B3)=>Inv w0 ps0 H0 H [Fs5l2] w)∧f s H) ⟨_,([],0),H,(Sl.mk none 0 0),[],rfl,rfl,(RowL.nil R7 U6),I.nil,v⟩ ?_
 rintro am an w next2 ⟨⟨A5,B3⟩,H,T9,Fs5l2,rfl,g,a2r,I,z⟩ hn2
 dsimp only at g I a2r
 simp only [List.map_cons,List.map_nil,List.cons.injEq,and_true] at g
 obtain ⟨e5,e10⟩:=g
 simp only [e5,e10]
 obtain ⟨n2,hm2,h⟩:∃n2:((List g7)×Int)→Hp→Prop,(∀s' H',n2 s' H'→f s' H'∧d s' < d (A5,B3))∧G3 x0 (x0.n:Int) A5 B3 H n2 K:=⟨_,fun _ _ h=>h,y (A5,B3) H (fun s' H'=>f s' H'∧d s' < d (A5,B3)) z (fun _ _ a b=>⟨a,b⟩)⟩
 unfold c0y
 unfold G3 at h
 refine c7 pLs ?_
 refine g9 h (fun _ h=>?_) (fun _ h=>?_)
 ·obtain ⟨aa,ab,k,i,h⟩:=h
  obtain ⟨ao,ap,ac,i⟩:=i
  refine c7 (a2K ac _ _ _ _ aa ab) (d4 (ldA (vs:=(t6 k)) Tryz.isAgg131 Tryz.sizeOf131 rfl (I.atH i)) ?_)
  refine y3 I Tryz.zeroValue131 (cs:=[(vi 0),(vi 0),(nS),(nS)]) rfl fun aq ar ad au=>?_
  refine A6 ad Tryz.sizeOf131 (vs:=(t6 k)) fun av m aw=>?_
  refine d4 (lW Tryz.isAgg131 Tryz.sizeOf131 rfl m) ?_
  refine j6 Tryz.call160 h m ?_
  rintro _ ae _ ax af _ _ ⟨o,rfl,rfl,h⟩
  refine a0x (e:=182) (c:=z6) (xs:=[o]) af (b1Z _) rfl rfl R7 U6 (nb rfl) fun ay az ba ag p bb=>?_
  obtain ⟨ah,h⟩:=h
  refine b1v (s:=T9) (xs:=A5) (p.bring 2) a2r (ag.srcO ((p.bring 2).bring 1)) ah fun ai aj bc ak al bd=>?_
  refine c7 pAd ?_
  exact hn2 _ _ _ (hm2 _ _ h).2 ⟨((A5++[o]),(IntKind.wrap .i64 (B3+1))),ae,ai,aj,rfl,rfl,ak,((al.bring 1).drop.bring 1).drop,(hm2 _ _ h).1⟩
 ·exact hx1 _ _ (hj1 A5 T9 Fs5l2 H _ a2r I h)
def G4(P4:(List g7))(H:Hp)(K:Sl→Hp→Prop):Prop:=
 ∀(J2:Sl)(a:Hp),Hle H a→SlH a 1 z6 J2 P4→J2.n≤J2.c→
 K J2 a
def G5(a3v:Sl)(a4g:Int)(A5:(List g7))(B3:Int)(H:Hp)(n2:((List g7)×Int)→Hp→Prop)(K:Sl→Hp→Prop):Prop:=
 (B3 < a4g→
 (0:Int)≤B3∧(B3:Int) < a3v.n∧∃a:v6,EltH H a3v B3 4 (q8 a)∧
 a7W a H (fun b c=>
 (A5.length+([b]:List g7).length)*17≤140737488355328∧
 n2 ((A5++[b]),(IntKind.wrap .i64 (B3+1))) c))∧
 (¬(B3 < a4g)→
 G4 A5 H K)
def M6(x0:Sl)(H:Hp)(K:Sl→Hp→Prop):Prop:=
 TL (([],0):(List g7)×Int) H fun(s:(List g7)×Int) H n2=>G5 x0 (x0.n:Int) s.1 s.2 H n2 K
theorem a1H(x0){H K}(h:M6 x0 H K):C9 x0 H K:=by
 refine Ct.of fun w0 w ps0 H0 R E I hR=>c6s ?_
 unfold M6 at h
 unfold c9c
 have hj1:∀(P4:(List g7))(J2:Sl)(Fs5j1:Frag) H w (_:RowL 182 1 z6 J2 P4 Fs5j1) (_:Inv w0 ps0 H0 H [Fs5j1] w) (_:G4 P4 H K),b6t (vs J2) w R E:=by
  intro P4 J2 Fs5j1 H w a5f I h
  unfold b6t
  intro _
  unfold G4 at h
  obtain ⟨j,q,r,t,u⟩:=Inv.freezeC I a5f (by decide)
  replace h:=h J2 j r t u
  exact hR _ j _ _ q ⟨J2,rfl,rfl,h⟩
 refine s8 fun j1 hx1=>?_
 refine c7 (a5C _ _ _) ?_
 obtain ⟨f,d,v,y⟩:=h
 refine I0 (J:=fun n l w=>∃(s:(List g7)×Int)(H:Hp)(T9:Sl)(Fs5l2:Frag),n=d s∧l=(match s with | (A5,B3)=>[(vs T9),(vi B3)])∧(match s with | (A5,B3)=>RowL 182 1 z6 T9 A5 Fs5l2)∧(match s with | (A5,B3)=>Inv w0 ps0 H0 H [Fs5l2] w)∧f s H) ⟨_,([],0),H,(Sl.mk none 0 0),[],rfl,rfl,(RowL.nil R7 U6),I.nil,v⟩ ?_
 rintro am an w next2 ⟨⟨A5,B3⟩,H,T9,Fs5l2,rfl,g,a2r,I,z⟩ hn2
 dsimp only at g I a2r
 simp only [List.map_cons,List.map_nil,List.cons.injEq,and_true] at g
 obtain ⟨e5,e10⟩:=g
 simp only [e5,e10]
 obtain ⟨n2,hm2,h⟩:∃n2:((List g7)×Int)→Hp→Prop,(∀s' H',n2 s' H'→f s' H'∧d s' < d (A5,B3))∧G5 x0 (x0.n:Int) A5 B3 H n2 K:=⟨_,fun _ _ h=>h,y (A5,B3) H (fun s' H'=>f s' H'∧d s' < d (A5,B3)) z (fun _ _ a b=>⟨a,b⟩)⟩
 unfold c0z
 unfold G5 at h
 refine c7 pLs ?_
 refine g9 h (fun _ h=>?_) (fun _ h=>?_)
 ·obtain ⟨aa,ab,k,i,h⟩:=h
  obtain ⟨ao,ap,ac,i⟩:=i
  refine c7 (a0z ac _ _ _ _ aa ab) (d4 (ldA (vs:=(q8 k)) Tryz.isAgg123 Tryz.sizeOf123 rfl (I.atH i)) ?_)
  refine y3 I Tryz.zeroValue123 (cs:=[(vi 0),(vi 0),(eS),(nS)]) rfl fun aq ar ad au=>?_
  refine A6 ad Tryz.sizeOf123 (vs:=(q8 k)) fun av m aw=>?_
  refine d4 (lW Tryz.isAgg123 Tryz.sizeOf123 rfl m) ?_
  refine j6 Tryz.call162 h m ?_
  rintro _ ae _ ax af _ _ ⟨o,rfl,rfl,h⟩
  refine a0x (e:=182) (c:=z6) (xs:=[o]) af (b1Z _) rfl rfl R7 U6 (nb rfl) fun ay az ba ag p bb=>?_
  obtain ⟨ah,h⟩:=h
  refine b1v (s:=T9) (xs:=A5) (p.bring 2) a2r (ag.srcO ((p.bring 2).bring 1)) ah fun ai aj bc ak al bd=>?_
  refine c7 pAd ?_
  exact hn2 _ _ _ (hm2 _ _ h).2 ⟨((A5++[o]),(IntKind.wrap .i64 (B3+1))),ae,ai,aj,rfl,rfl,ak,((al.bring 1).drop.bring 1).drop,(hm2 _ _ h).1⟩
 ·exact hx1 _ _ (hj1 A5 T9 Fs5l2 H _ a2r I h)
end Go.Proofs.YtaokfhdinhimfaaGreatDoor
