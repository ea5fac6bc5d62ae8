/- Typed formulas of the program's functions, and the theorems that the contracts follow from them; printed by lift.py off the code. -/
import Derived.Test.YtaokfhdinhimfaaGreatDooryCV1
namespace Go.Proofs.YtaokfhdinhimfaaGreatDoor
open Go.RowKit
set_option maxRecDepth 100000
set_option maxHeartbeats 2000000
def G4(b2J:Int)(d1o:Int)(a4M:d4)(a9y:Sl)(a7V:(List Bool))(a7W:(List Int))(H:Hp)(n2:(Int×d4×Sl×(List Bool)×(List Int))→Hp→Prop)(K:m9→(List Bool)→(List Int)→Hp→Prop):Prop:=
 n2 ((IntKind.wrap .i64 (d1o+1)),a4M,a9y,a7V,a7W) H
def P9(b0Q:Int)(W5:d4)(J2:Sl)(a7X:(List Bool))(a6d:(List Int))(H:Hp)(K:m9→(List Bool)→(List Int)→Hp→Prop):Prop:=
 (a6d.length+([b0Q]:List Int).length)*9≤140737488355328∧
 K (m9.mk W5 J2 (Sl.mk none 0 0) (Sl.mk none 0 0)) a7X (a6d++[b0Q]) H
def Q0(a1o:Int)(a4N:Int)(O6:d4)(G5:Sl)(V7:(List Bool))(Y3:(List Int))(H:Hp)(n2:(Int×d4×Sl×(List Bool)×(List Int))→Hp→Prop)(K:m9→(List Bool)→(List Int)→Hp→Prop):Prop:=
 (0:Int)≤a1o∧(a1o:Int) < G5.n∧∃a:Sl,EltH H G5 a1o 1 [(vs a)]∧
 (a4N < (a.n:Int)→
 (0:Int)≤a4N∧(a4N:Int) < a.n∧∃b:Int,EltH H a a4N 1 [(vi b)]∧
 (0:Int)≤b∧(b:Int) < O6.m4.n∧∃c:c8,EltH H O6.m4 b 10 (f7 c)∧
 (0:Int)≤c.fTo∧∃d:Bool,(V7)[(c.fTo:Int).toNat]? = some d∧
 ((!d)=true→
 T1 (m9.mk O6 G5 (Sl.mk none 0 0) (Sl.mk none 0 0)) V7 Y3 c.fTo H (fun e f g i=>
 G4 a1o a4N e.fc e.fout f g i n2 K))∧
 ((!d)=false→
 G4 a1o a4N O6 G5 V7 Y3 H n2 K))∧
 (¬(a4N < (a.n:Int))→
 P9 a1o O6 G5 V7 Y3 H K)
def a0N(x0:m9)(a:(List Bool))(b:(List Int))(x1:Int)(H:Hp)(K:m9→(List Bool)→(List Int)→Hp→Prop):Prop:=
 (0:Int)≤x1∧∃c:Bool,(a)[(x1:Int).toNat]? = some c∧
 TL ((0,x0.fc,x0.fout,(a.set (x1:Int).toNat true),b):Int×d4×Sl×(List Bool)×(List Int)) H fun(s:Int×d4×Sl×(List Bool)×(List Int)) H n2=>Q0 x1 s.1 s.2.1 s.2.2.1 s.2.2.2.1 s.2.2.2.2 H n2 K
theorem a7Y(x0 i j x1){H K}(h:a0N x0 i j x1 H K):T1 x0 i j x1 H K:=by
 intro g0 ai bu aj ak m al
 refine Ct.of fun w0 w ps0 H0 R E I hR=>c7U ?_
 unfold a0N at h
 unfold F60
 refine c5 (r8 _) (c5 a9c (c7 (l1 Tryz.isAgg47 I rfl) ?_))
 obtain ⟨y,bv,o,h⟩:=h
 obtain ⟨bw,bz,z,ca⟩:=m.addr o
 refine c5 (Y0 z _ _ _ _ y (m.lt y o)) ?_
 refine a1y (x:=true) (I.bring 1) m z (List.getElem?_eq_some_iff.1 o).1 Tryz.sizeOf4 rfl fun am cb an ao cc=>?_
 have hj1:∀(W5:d4)(J2:Sl)(a7X:(List Bool))(a6d:(List Int))(b2c:Sl)(b2d:Frag)(b2e:Sl)(b4v:Frag) H w (_:RowL 4 1 E5 b2c a7X b2d) (_:RowL 3 1 o3 b2e a6d b4v) (_:Inv w0 ps0 H0 H [bx g0 96 [(vs W5.p5),(vi W5.m3),(vs W5.m2),(vi W5.c6),(vi W5.p9),(vs W5.m4),(vs J2),(vs b2c),(vs b2e)],b2d,b4v] w) (_:P9 x1 W5 J2 a7X a6d H K),b8G (Value.pointer (some ⟨g0,0,none⟩)) (vi x1) w R E:=by
  intro W5 J2 a7X a6d b2c b2d b2e b4v H w c3J c3K I h
  unfold b8G
  intro _
  unfold P9 at h
  refine c5 (r8 _) (c5 a9d (c7 (l1 Tryz.isAgg44 I rfl) ?_))
  refine X9 (e:=3) (c:=o3) (xs:=[x1]) I (a1z _) rfl rfl G6 G7 (nb rfl) fun cd ce cf ap aa cg=>?_
  obtain ⟨aq,h⟩:=h
  refine a4G (s:=b2e) (xs:=a6d) (aa.bring 3) c3K (ap.srcO ((aa.bring 3).bring 1)) aq fun ar au ch av aw ci=>?_
  refine c5 (r8 _) (c5 a9d ?_)
  refine L3 ((aw.bring 1).drop.bring 1) Tryz.sizeOf44 fun cj ax ck=>?_
  exact hR _ H _ _ (((ax.bring 1).bring 2).bring 2) ⟨(m9.mk W5 J2 (Sl.mk none 0 0) (Sl.mk none 0 0)),a7X,(a6d++[x1]),b2c,b2d,ar,au,rfl,rfl,c3J,av,h⟩
 refine o5 fun j1 hx1=>?_
 obtain ⟨p,f,ay,az⟩:=h
 refine C1 (J:=fun n l w=>∃(s:Int×d4×Sl×(List Bool)×(List Int))(H:Hp)(a7Z:Sl)(a8a:Frag)(a8b:Sl)(a8c:Frag),n=f s∧l=(match s with | (a4N,O6,G5,V7,Y3)=>[(vi a4N)])∧(match s with | (a4N,O6,G5,V7,Y3)=>RowL 4 1 E5 a7Z V7 a8a)∧(match s with | (a4N,O6,G5,V7,Y3)=>RowL 3 1 o3 a8b Y3 a8c)∧(match s with | (a4N,O6,G5,V7,Y3)=>Inv w0 ps0 H0 H [bx g0 96 [(vs O6.p5),(vi O6.m3),(vs O6.m2),(vi O6.c6),(vi O6.p9),(vs O6.m4),(vs G5),(vs a7Z),(vs a8b)],a8a,a8c] w)∧p s H) ⟨_,(0,x0.fc,x0.fout,(i.set (x1:Int).toNat true),j),H,ai,am,aj,ak,rfl,rfl,an,al,(((ao.bring 2).bring 1).bring 2),ay⟩ ?_
 rintro cl cm w next2 ⟨⟨a4N,O6,G5,V7,Y3⟩,H,a7Z,a8a,a8b,a8c,rfl,q,a7c,b2f,I,ba⟩ hn2
 dsimp only at q I a7c b2f
 simp only [List.map_cons,List.map_nil,List.cons.injEq,and_true] at q
 have e4:=q
 simp only [e4]
 obtain ⟨n2,hm2,h⟩:∃n2:(Int×d4×Sl×(List Bool)×(List Int))→Hp→Prop,(∀s' H',n2 s' H'→p s' H'∧f s' < f (a4N,O6,G5,V7,Y3))∧Q0 x1 a4N O6 G5 V7 Y3 H n2 K:=⟨_,fun _ _ h=>h,az (a4N,O6,G5,V7,Y3) H (fun s' H'=>p s' H'∧f s' < f (a4N,O6,G5,V7,Y3)) ba (fun _ _ a b=>⟨a,b⟩)⟩
 unfold c2v
 unfold Q0 at h
 refine c5 (r8 _) (c5 a9e (c7 (l1 Tryz.isAgg83 I rfl) ?_))
 obtain ⟨ab,ac,ad,g,h⟩:=h
 obtain ⟨cn,co,ae,g⟩:=g
 refine c5 (a1W ae _ _ _ _ ab ac) (c7 (ld1 (v:=(vs ad)) Tryz.isAgg44 (I.atH g)) (c5 (Q2 _ _ _) (c5 pLs ?_)))
 refine d9 h (fun _ h=>?_) (fun _ h=>?_)
 ·have hj3:∀(a4M:d4)(a9y:Sl)(a7V:(List Bool))(a7W:(List Int))(b2g:Sl)(b2h:Frag)(b2i:Sl)(b2j:Frag) H w (_:RowL 4 1 E5 b2g a7V b2h) (_:RowL 3 1 o3 b2i a7W b2j) (_:Inv w0 ps0 H0 H [bx g0 96 [(vs a4M.p5),(vi a4M.m3),(vs a4M.m2),(vi a4M.c6),(vi a4M.p9),(vs a4M.m4),(vs a9y),(vs b2g),(vs b2i)],b2h,b2j] w) (_:G4 x1 a4N a4M a9y a7V a7W H n2 K),b8H (Value.pointer (some ⟨g0,0,none⟩)) (vi x1) (vi a4N) w next2 R E:=by
   intro a4M a9y a7V a7W b2g b2h b2i b2j H w c3L c3M I h
   unfold b8H
   intro _
   unfold G4 at h
   refine c5 pAd ?_
   exact hn2 _ _ _ (hm2 _ _ h).2 ⟨((IntKind.wrap .i64 (a4N+1)),a4M,a9y,a7V,a7W),H,b2g,b2h,b2i,b2j,rfl,rfl,c3L,c3M,(((I.bring 2).bring 2).bring 2),(hm2 _ _ h).1⟩
  refine o5 fun j3 hx3=>?_
  refine I0 I fun cp d=>?_
  refine d5 (r8 _) ?_
  refine d5 c0B ?_
  refine d5 y3 ?_
  refine d5 (r8 _) ?_
  refine d5 a9e ?_
  refine j9 (l1 Tryz.isAgg28 d rfl) ?_
  refine j9 (l1 Tryz.isAgg83 d rfl) ?_
  refine d5 (a1W ae _ _ _ _ ab ac) ?_
  refine j9 (ld1 (v:=(vs ad)) Tryz.isAgg44 (d.atH g)) ?_
  obtain ⟨bb,bc,bd,r,h⟩:=h
  obtain ⟨cq,cr,be,r⟩:=r
  refine d5 (L4 be _ _ _ _ bb bc) ?_
  refine j9 (ld1 (v:=(vi bd)) Tryz.isAgg3 (d.atH r)) ?_
  obtain ⟨bf,bg,bh,t,h⟩:=h
  obtain ⟨cs,ct,bi,t⟩:=t
  refine d5 (M4 bi _ _ _ _ bf bg) ?_
  refine d5 X3 ?_
  refine j9 (ld1 (v:=(vi bh.fTo)) Tryz.isAgg3 ((d.atH t).sub (k:=1) (n:=1) (nb rfl))) ?_
  refine c5 (r8 _) (c5 a9c (c7 (l1 Tryz.isAgg47 d rfl) ?_))
  obtain ⟨af,bj,u,h⟩:=h
  obtain ⟨cu,cv,ag,cw⟩:=a7c.addr u
  refine c5 (Y0 ag _ _ _ _ af (a7c.lt af u)) (c7 (ld1 (v:=(vB bj)) Tryz.isAgg4 (a7c.atW (d.bring 1) ag u)) (c5 (J7 _) ?_))
  refine m7 h (fun _ h=>?_) (fun _ h=>?_)
  ·refine f9 Tryz.call60 (h g0 a7Z a8a a8b a8c a7c b2f) (((d.bring 2).bring 2).bring 2) ?_
   rintro _ bk _ cx bl _ _ ⟨ah,bm,bn,bo,bp,bq,br,rfl,rfl,bs,bt,h⟩
   exact hx3 _ _ (hj3 ah.fc ah.fout bm bn bo bp bq br bk _ bs bt (((bl.bring 2).bring 2).bring 2) h)
  ·exact hx3 _ _ (hj3 O6 G5 V7 Y3 a7Z a8a a8b a8c H _ a7c b2f (((d.bring 2).bring 2).bring 2) h)
 ·exact hx1 _ _ (hj1 O6 G5 V7 Y3 a7Z a8a a8b a8c H _ a7c b2f (((I.bring 2).bring 2).bring 2) h)
def K9(b3E:(List Int))(d1p:Int)(a:m9)(b:d4)(H:Hp)(n3:((List Int)×Int)→Hp→Prop)(K:Sl→Hp→Prop):Prop:=
 n3 (b3E,(IntKind.wrap .i64 (d1p+1))) H
def U8(a7v:(List Int))(b:m9)(d:d4)(H:Hp)(K:Sl→Hp→Prop):Prop:=
 ∀(a8o:Sl)(a:Hp),Hle H a→SlH a 1 o3 a8o a7v→a8o.n≤a8o.c→
 K a8o a
def U9(a:m9)(b:d4)(a4k:(List Int))(a3K:Int)(H:Hp)(n3:((List Int)×Int)→Hp→Prop)(K:Sl→Hp→Prop):Prop:=
 (a3K < b.c6→
 (0:Int)≤a3K∧(a3K:Int) < a.fbegun.n∧∃c:Bool,EltH H a.fbegun a3K 1 [(vB c)]∧
 ((!c)=true→
 (a4k.length+([a3K]:List Int).length)*9≤140737488355328∧
 K9 (a4k++[a3K]) a3K a b H n3 K)∧
 ((!c)=false→
 K9 a4k a3K a b H n3 K))∧
 (¬(a3K < b.c6)→
 U8 a4k a b H K)
def V0(b3F:(List Int))(a:m9)(b:d4)(H:Hp)(K:Sl→Hp→Prop):Prop:=
 TL ((b3F,0):(List Int)×Int) H fun(s:(List Int)×Int) H n3=>U9 a b s.1 s.2 H n3 K
def V1(a:m9)(c:d4)(P8:(List Int))(Q4:Int)(H:Hp)(n5:((List Int)×Int)→Hp→Prop)(K:Sl→Hp→Prop):Prop:=
 (0≤Q4→
 (0:Int)≤Q4∧(Q4:Int) < a.fdone.n∧∃b:Int,EltH H a.fdone Q4 1 [(vi b)]∧
 (P8.length+([b]:List Int).length)*9≤140737488355328∧
 n5 ((P8++[b]),(IntKind.wrap .i64 (Q4-1))) H)∧
 (¬(0≤Q4)→
 V0 P8 a c H K)
def a2V(x0:d4)(H:Hp)(K:Sl→Hp→Prop):Prop:=
 a0k x0 H (fun a b=>
 TL (([],(IntKind.wrap .i64 ((a.fdone.n:Int)-1))):(List Int)×Int) b fun(s:(List Int)×Int) H n5=>V1 a x0 s.1 s.2 H n5 K)
theorem a9s(x0){H K}(h:a2V x0 H K):Z5 x0 H K:=by
 refine Ct.of fun w0 w ps0 H0 R E I hR=>c7r ?_
 unfold a2V at h
 unfold F20
 refine z6 I (cs:=(d8 x0)) rfl fun f bi u bj=>?_
 refine c7 (lW Tryz.isAgg30 Tryz.sizeOf30 rfl u) ?_
 refine f9 Tryz.call43 h u ?_
 rintro _ ac _ bk y _ _ ⟨d,g,rfl,rfl,h⟩
 have hj1:∀(b3F:(List Int))(b7h:Sl)(Fs4j1:Frag) H w (_:RowL 3 1 o3 b7h b3F Fs4j1) (_:Inv w0 ps0 H0 H [bx g 96 (W4 d),bx f 30 (d8 x0),Fs4j1] w) (_:V0 b3F d x0 H K),b8n (Value.pointer (some ⟨f,0,none⟩)) (Value.pointer (some ⟨g,0,none⟩)) (vs b7h) w R E:=by
  intro b3F b7h Fs4j1 H w d0m I h
  unfold b8n
  intro _
  unfold V0 at h
  have hj2:∀(a7v:(List Int))(a8o:Sl)(Fs4j2:Frag) H w (_:RowL 3 1 o3 a8o a7v Fs4j2) (_:Inv w0 ps0 H0 H [bx g 96 (W4 d),bx f 30 (d8 x0),Fs4j2] w) (_:U8 a7v d x0 H K),b8l (vs a8o) w R E:=by
   intro a7v a8o Fs4j2 H w c0Y I h
   unfold b8l
   intro _
   unfold U8 at h
   obtain ⟨z,ad,ae,af,ag⟩:=Inv.freezeC (I.bring 2) c0Y (by decide)
   replace h:=h a8o z ae af ag
   exact hR _ z _ _ ad.drop.drop ⟨a8o,rfl,rfl,h⟩
  refine o5 fun j2 hx2=>?_
  obtain ⟨k,i,ah,ai⟩:=h
  refine C1 (J:=fun n l w=>∃(s:(List Int)×Int)(H:Hp)(b3G:Sl)(Fs4l3:Frag),n=i s∧l=(match s with | (a4k,a3K)=>[(vs b3G),(vi a3K)])∧(match s with | (a4k,a3K)=>RowL 3 1 o3 b3G a4k Fs4l3)∧(match s with | (a4k,a3K)=>Inv w0 ps0 H0 H [bx g 96 (W4 d),bx f 30 (d8 x0),Fs4l3] w)∧k s H) ⟨_,(b3F,0),H,b7h,Fs4j1,rfl,rfl,d0m,(((I.bring 2).bring 2).bring 2),ah⟩ ?_
  rintro bl bm w next3 ⟨⟨a4k,a3K⟩,H,b3G,Fs4l3,rfl,m,b7i,I,aj⟩ hn3
  dsimp only at m I b7i
  simp only [List.map_cons,List.map_nil,List.cons.injEq,and_true] at m
  obtain ⟨e4,e6⟩:=m
  simp only [e4,e6]
  obtain ⟨n3,hm3,h⟩:∃n3:((List Int)×Int)→Hp→Prop,(∀s' H',n3 s' H'→k s' H'∧i s' < i (a4k,a3K))∧U9 d x0 a4k a3K H n3 K:=⟨_,fun _ _ h=>h,ai (a4k,a3K) H (fun s' H'=>k s' H'∧i s' < i (a4k,a3K)) aj (fun _ _ a b=>⟨a,b⟩)⟩
  unfold c2j
  unfold U9 at h
  refine c5 v7 (c7 (l1 Tryz.isAgg3 (I.bring 1) rfl) (c5 pLs ?_))
  refine d9 h (fun _ h=>?_) (fun _ h=>?_)
  ·have hj4:∀(b3E:(List Int))(b7j:Sl)(Fs4j4:Frag) H w (_:RowL 3 1 o3 b7j b3E Fs4j4) (_:Inv w0 ps0 H0 H [bx g 96 (W4 d),bx f 30 (d8 x0),Fs4j4] w) (_:K9 b3E a3K d x0 H n3 K),b8m (Value.pointer (some ⟨f,0,none⟩)) (Value.pointer (some ⟨g,0,none⟩)) (vs b7j) (vi a3K) w next3 R E:=by
    intro b3E b7j Fs4j4 H w d0n I h
    unfold b8m
    intro _
    unfold K9 at h
    refine c5 pAd ?_
    exact hn3 _ _ _ (hm3 _ _ h).2 ⟨(b3E,(IntKind.wrap .i64 (a3K+1))),H,b7j,Fs4j4,rfl,rfl,d0n,(((I.bring 2).bring 2).bring 2),(hm3 _ _ h).1⟩
   refine o5 fun j4 hx4=>?_
   refine c5 (r8 _) (c5 a9c (c7 (l1 Tryz.isAgg47 I rfl) ?_))
   obtain ⟨ak,al,am,o,h⟩:=h
   obtain ⟨bn,bo,an,o⟩:=o
   refine c5 (Y0 an _ _ _ _ ak al) (c7 (ld1 (v:=(vB am)) Tryz.isAgg4 (I.atH o)) (c5 (J7 _) ?_))
   refine m7 h (fun _ h=>?_) (fun _ h=>?_)
   ·refine X9 (e:=3) (c:=o3) (xs:=[a3K]) I (a1z _) rfl rfl G6 G7 (nb rfl) fun bp bq br ao aa bs=>?_
    obtain ⟨ap,h⟩:=h
    refine a4G (s:=b3G) (xs:=a4k) (aa.bring 3) b7i (ao.srcO ((aa.bring 3).bring 1)) ap fun aq ar bt au av bu=>?_
    exact hx4 _ _ (hj4 (a4k++[a3K]) aq ar H _ au (((av.bring 1).drop.bring 2).bring 2) h)
   ·exact hx4 _ _ (hj4 a4k b3G Fs4l3 H _ b7i (((I.bring 2).bring 2).bring 2) h)
  ·exact hx2 _ _ (hj2 a4k b3G Fs4l3 H _ b7i (((I.bring 2).bring 2).bring 2) h)
 refine o5 fun j1 hx1=>?_
 refine c5 (r8 _) (c5 a9d (c7 (l1 Tryz.isAgg44 y rfl) (c5 (Q2 _ _ _) (c5 pSu ?_))))
 obtain ⟨p,j,aw,ax⟩:=h
 refine C1 (J:=fun n l w=>∃(s:(List Int)×Int)(H:Hp)(b5j:Sl)(Fs4l5:Frag),n=j s∧l=(match s with | (P8,Q4)=>[(vs b5j),(vi Q4)])∧(match s with | (P8,Q4)=>RowL 3 1 o3 b5j P8 Fs4l5)∧(match s with | (P8,Q4)=>Inv w0 ps0 H0 H [bx g 96 (W4 d),bx f 30 (d8 x0),Fs4l5] w)∧p s H) ⟨_,([],(IntKind.wrap .i64 ((d.fdone.n:Int)-1))),ac,(Sl.mk none 0 0),[],rfl,rfl,(RowL.nil G6 G7),((y.nil.bring 2).bring 2),aw⟩ ?_
 rintro bv bw w next5 ⟨⟨P8,Q4⟩,H,b5j,Fs4l5,rfl,q,b1Q,I,ay⟩ hn5
 dsimp only at q I b1Q
 simp only [List.map_cons,List.map_nil,List.cons.injEq,and_true] at q
 obtain ⟨e4,e5⟩:=q
 simp only [e4,e5]
 obtain ⟨n5,hm5,h⟩:∃n5:((List Int)×Int)→Hp→Prop,(∀s' H',n5 s' H'→p s' H'∧j s' < j (P8,Q4))∧V1 d x0 P8 Q4 H n5 K:=⟨_,fun _ _ h=>h,ax (P8,Q4) H (fun s' H'=>p s' H'∧j s' < j (P8,Q4)) ay (fun _ _ a b=>⟨a,b⟩)⟩
 unfold c2k
 unfold V1 at h
 refine c5 pGe ?_
 refine d9 h (fun _ h=>?_) (fun _ h=>?_)
 ·refine c5 (r8 _) (c5 a9d (c7 (l1 Tryz.isAgg44 I rfl) ?_))
  obtain ⟨az,ba,r,t,h⟩:=h
  obtain ⟨bz,ca,bb,t⟩:=t
  refine c5 (L4 bb _ _ _ _ az ba) (c7 (ld1 (v:=(vi r)) Tryz.isAgg3 (I.atH t)) ?_)
  refine X9 (e:=3) (c:=o3) (xs:=[r]) I (a1z _) rfl rfl G6 G7 (nb rfl) fun cb cc cd bc ab ce=>?_
  obtain ⟨bd,h⟩:=h
  refine a4G (s:=b5j) (xs:=P8) (ab.bring 3) b1Q (bc.srcO ((ab.bring 3).bring 1)) bd fun be bf cf bg bh cg=>?_
  refine c5 pSu ?_
  exact hn5 _ _ _ (hm5 _ _ h).2 ⟨((P8++[r]),(IntKind.wrap .i64 (Q4-1))),H,be,bf,rfl,rfl,bg,(((bh.bring 1).drop.bring 2).bring 2),(hm5 _ _ h).1⟩
 ·exact hx1 _ _ (hj1 P8 b5j Fs4l5 H _ b1Q (((I.bring 2).bring 2).bring 2) h)
def a3X(x0:Int)(H:Hp)(K:Int→Hp→Prop):Prop:=
 (x0=1→
 K 6 H)∧
 (¬(x0=1)→
 (x0=2→
 K 5 H)∧
 (¬(x0=2)→
 (x0=3→
 K 4 H)∧
 (¬(x0=3)→
 (x0=4→
 K 3 H)∧
 (¬(x0=4)→
 (x0=5→
 K 2 H)∧
 (¬(x0=5)→
 (x0=6→
 K 1 H)∧
 (¬(x0=6)→
 K 0 H))))))
theorem b0t(x0){H K}(h:a3X x0 H K):a3O x0 H K:=by
 refine Ct.of fun w0 w ps0 H0 R E I hR=>c7M ?_
 unfold a3X at h
 unfold F52
 refine c5 pEq ?_
 refine d9 h (fun _ h=>?_) (fun _ h=>?_)
 ·exact hR _ H _ _ I ⟨6,rfl,rfl,h⟩
 ·refine c5 pEq ?_
  refine d9 h (fun _ h=>?_) (fun _ h=>?_)
  ·exact hR _ H _ _ I ⟨5,rfl,rfl,h⟩
  ·refine c5 pEq ?_
   refine d9 h (fun _ h=>?_) (fun _ h=>?_)
   ·exact hR _ H _ _ I ⟨4,rfl,rfl,h⟩
   ·refine c5 pEq ?_
    refine d9 h (fun _ h=>?_) (fun _ h=>?_)
    ·exact hR _ H _ _ I ⟨3,rfl,rfl,h⟩
    ·refine c5 pEq ?_
     refine d9 h (fun _ h=>?_) (fun _ h=>?_)
     ·exact hR _ H _ _ I ⟨2,rfl,rfl,h⟩
     ·refine c5 pEq ?_
      refine d9 h (fun _ h=>?_) (fun _ h=>?_)
      ·exact hR _ H _ _ I ⟨1,rfl,rfl,h⟩
      ·exact hR _ H _ _ I ⟨0,rfl,rfl,h⟩
def a1v(x0:i6)(x1:Bool)(x2:Int)(H:Hp)(K:Bool→Hp→Prop):Prop:=
 ((!x1)=true→
 a3l H (fun a b=>
 K (decide (x0.r9=a.r9∧x0.p6=a.p6)) b))∧
 ((!x1)=false→
 K ((decide (x0.r9=(-1)))||(((decide (0≤x0.r9))&&(decide (x0.r9 < x2)))&&(decide (x0.p6=0)))) H)
theorem a8D(x0 x1 x2){H K}(h:a1v x0 x1 x2 H K):V9 x0 x1 x2 H K:=by
 refine Ct.of fun w0 w ps0 H0 R E I hR=>c7L ?_
 unfold a1v at h
 unfold F51
 refine z6 I (cs:=(j6 x0)) rfl fun l m c n=>?_
 refine c5 (J7 _) ?_
 refine m7 h (fun _ h=>?_) (fun _ h=>?_)
 ·refine I0 c fun o d=>?_
  refine j9 (lW Tryz.isAgg38 Tryz.sizeOf38 rfl d) ?_
  refine f9 Tryz.call91 h d ?_
  rintro _ i _ p j _ k ⟨f,rfl,rfl,h⟩
  refine ⟨(k _ d.lt1 (Inv.N4 (Fi:=[]) d)),?_⟩
  refine d5 (a6U _ _ _ _ _ _) ?_
  exact hR _ i _ _ j.drop ⟨(decide (x0.r9=f.r9∧x0.p6=f.p6)),rfl,rfl,h⟩
 ·refine c5 a4V (c7 (l1 Tryz.isAgg3 c rfl) (c5 pEq ?_))
  refine c5 (Pu.g fun a=>by with_reducible exact a4V) ?_
  refine c7 (Ld.g fun a=>by simp only [f6 a];exact (l1 Tryz.isAgg3 c rfl)) ?_
  refine c5 (Pu.g fun a=>by simp only [f6 a];with_reducible exact pGe) ?_
  simp only [D4,a6T,c1I]
  refine c5 (Pu.e (M8 _ _ _) (Pu.g fun hb=>by obtain ⟨a,b⟩:=Z3 hb;with_reducible exact a4V)) ?_
  refine c7 (Ld.e (M8 _ _ _) (Ld.g fun hb=>by obtain ⟨a,b⟩:=Z3 hb;simp only [f6 hb];exact (l1 Tryz.isAgg3 c rfl))) ?_
  refine c5 (Pu.e (M8 _ _ _) (Pu.g fun hb=>by obtain ⟨a,b⟩:=Z3 hb;simp only [f6 hb];with_reducible exact pLs)) ?_
  refine c5 (Pu.g fun a=>by simp only [f6 a,a8p a];with_reducible exact (A4 _ _)) ?_
  simp only [a6T]
  refine c5 (Pu.e (M8 _ _ _) (Pu.g fun hb=>by obtain ⟨a,b⟩:=Z3 hb;with_reducible exact b4Q)) ?_
  refine c7 (Ld.e (M8 _ _ _) (Ld.g fun hb=>by obtain ⟨a,b⟩:=Z3 hb;simp only [f6 hb];exact (l1 Tryz.isAgg2 c rfl))) ?_
  refine c5 (Pu.e (M8 _ _ _) (Pu.g fun hb=>by obtain ⟨a,b⟩:=Z3 hb;simp only [f6 hb];with_reducible exact pEq)) ?_
  refine c5 (Pu.g fun a=>by simp only [f6 a,a8p a];with_reducible exact (A4 _ _)) ?_
  refine c5 (B8 _ _) ?_
  exact hR _ H _ _ c.drop ⟨((decide (x0.r9=(-1)))||(((decide (0≤x0.r9))&&(decide (x0.r9 < x2)))&&(decide (x0.p6=0)))),rfl,rfl,h⟩
def a1w(x0:g8)(x1:Int)(H:Hp)(K:Bool→Hp→Prop):Prop:=
 K ((decide (0≤x1))&&(decide (x1 < (IntKind.wrap .i64 ((x0.s8.p5.n:Int)+x0.s8.m3))))) H
theorem a8E(x0 x1){H K}(h:a1w x0 x1 H K):W0 x0 x1 H K:=by
 refine Ct.of fun w0 w ps0 H0 R E I hR=>c7P ?_
 unfold a1w at h
 unfold F55
 refine z6 I (cs:=(d8 x0.s8)) rfl fun c d b e=>?_
 refine c5 pGe ?_
 simp only [D4]
 refine c5 (Pu.g fun a=>by with_reducible exact a7o) ?_
 refine c5 (Pu.g fun a=>by simp only [f6 a];with_reducible exact a0R) ?_
 refine c7 (Ld.g fun a=>by simp only [f6 a];exact (l1 Tryz.isAgg27 b rfl)) ?_
 refine c5 (Pu.g fun a=>by simp only [f6 a];with_reducible exact (a1e _ _ _)) ?_
 refine c5 (Pu.g fun a=>by with_reducible exact a7o) ?_
 refine c5 (Pu.g fun a=>by simp only [f6 a];with_reducible exact X0) ?_
 refine c7 (Ld.g fun a=>by simp only [f6 a];exact (l1 Tryz.isAgg3 b rfl)) ?_
 refine c5 (Pu.g fun a=>by simp only [f6 a];with_reducible exact pAd) ?_
 refine c5 (Pu.g fun a=>by simp only [f6 a];with_reducible exact pLs) ?_
 refine c5 (A4 _ _) ?_
 exact hR _ H _ _ b.drop ⟨((decide (0≤x1))&&(decide (x1 < (IntKind.wrap .i64 ((x0.s8.p5.n:Int)+x0.s8.m3))))),rfl,rfl,h⟩
def a7d(x0:Bool)(x1:Bool)(x2:Bool)(H:Hp)(K:Bool→Hp→Prop):Prop:=
 (x0=true→
 K x1 H)∧
 (x0=false→
 K x2 H)
theorem b4w(x0 x1 x2){H K}(h:a7d x0 x1 x2 H K):Y1 x0 x1 x2 H K:=by
 refine Ct.of fun w0 w ps0 H0 R E I hR=>c7O ?_
 unfold a7d at h
 unfold F54
 refine m7 h (fun _ h=>?_) (fun _ h=>?_)
 ·exact hR _ H _ _ I ⟨x1,rfl,rfl,h⟩
 ·exact hR _ H _ _ I ⟨x2,rfl,rfl,h⟩
def a2p(x0:g8)(x1:i6)(H:Hp)(K:Bool→Hp→Prop):Prop:=
 TG ((decide (x1.r9=(-1)))=false) (W0 x0 x1.r9 H) false H (fun(a:Bool)(b:Hp)=>
 K ((decide (x1.r9=(-1)))||(a&&(decide (x1.p6=0)))) b)
theorem a8T(x0 x1){H K}(h:a2p x0 x1 H K):X4 x0 x1 H K:=by
 refine Ct.of fun w0 w ps0 H0 R E I hR=>c7R ?_
 unfold a2p at h
 unfold F57
 refine z6 I (cs:=(d8 x0.s8)) rfl fun o p m q=>?_
 refine z6 m (cs:=(j6 x1)) rfl fun r s c t=>?_
 refine c5 a4V (c7 (l1 Tryz.isAgg3 c rfl) (c5 pEq ?_))
 refine c7 (Ld.g fun a=>by exact (lW Tryz.isAgg90 Tryz.sizeOf90 rfl (c.bring 1))) ?_
 refine c5 (Pu.g fun a=>by with_reducible exact a4V) ?_
 refine c7 (Ld.g fun a=>by simp only [f6 a];exact (l1 Tryz.isAgg3 c rfl)) ?_
 refine N0 [] (fun f:Bool=>(vB f)) h c (fun j h=>?_) fun f i n d k l h=>?_
 ·have a:=j
  simp only [f6 a]
  refine f9 Tryz.call55 h c ?_
  rintro _ i _ n d l k ⟨f,rfl,rfl,h⟩
  exact ⟨f,i,rfl,d,k,l,h⟩
 simp only [D4,a6T]
 refine c5 (Pu.e (M8 _ _ _) (Pu.g fun hb=>by obtain ⟨a,b⟩:=Z3 hb;with_reducible exact b4Q)) ?_
 refine c7 (Ld.e (M8 _ _ _) (Ld.g fun hb=>by obtain ⟨a,b⟩:=Z3 hb;simp only [f6 hb];exact (l1 Tryz.isAgg2 d rfl))) ?_
 refine c5 (Pu.e (M8 _ _ _) (Pu.g fun hb=>by obtain ⟨a,b⟩:=Z3 hb;simp only [f6 hb];with_reducible exact pEq)) ?_
 refine c5 (Pu.g fun a=>by simp only [f6 a,a8p a];with_reducible exact (A4 _ _)) ?_
 refine c5 (B8 _ _) ?_
 exact hR _ i _ _ d.drop.drop ⟨((decide (x1.r9=(-1)))||(f&&(decide (x1.p6=0)))),rfl,rfl,h⟩
def a7z(H:Hp)(K:i6→Hp→Prop):Prop:=
 K (i6.mk (-1) 0) H
theorem b2k{H K}(h:a7z H K):P1 H K:=by
 refine Ct.of fun w0 w ps0 H0 R E I hR=>c7S ?_
 unfold a7z at h
 unfold F58
 refine r5 I Tryz.zeroValue38 (cs:=[(vi 0),(vi 0)]) rfl fun c d b e=>?_
 refine c5 (a5A _) ?_
 refine u1 b Tryz.sizeOf38 (vs:=[(vi (-1)),(vi 0)]) fun f a g=>?_
 refine S9 Tryz.isAgg38 Tryz.sizeOf38 rfl a ?_
 exact hR _ H _ _ a.drop ⟨(i6.mk (-1) 0),rfl,rfl,h⟩
def Q9(d1G:Int)(d0o:Int)(a:(List Int))(b:(List Bool))(c:Sl)(d:d4)(H:Hp)(n2:(Int×(List Int))→Hp→Prop)(K:Sl→Int→Hp→Prop):Prop:=
 n2 ((IntKind.wrap .i64 (d0o+1)),a) H
def a1Q(e:(List Bool))(f:Sl)(g:d4)(d:(List Int))(H:Hp)(K:Sl→Int→Hp→Prop):Prop:=
 ∀(a:Sl)(b:Hp),Hle H b→SlH b 1 o3 a d→a.n≤a.c→
 K a 0 b
def a1R(b7k:Int)(a:(List Bool))(c:Sl)(d:d4)(a0A:Int)(b:(List Int))(H:Hp)(n2:(Int×(List Int))→Hp→Prop)(K:Sl→Int→Hp→Prop):Prop:=
 (a0A < b7k→
 (0:Int)≤a0A∧∃e:Bool,(a)[(a0A:Int).toNat]? = some e∧
 ((!e)=true→
 (b.length+([a0A]:List Int).length)*9≤140737488355328∧
 Q9 b7k a0A (b++[a0A]) a c d H n2 K)∧
 ((!e)=false→
 Q9 b7k a0A b a c d H n2 K))∧
 (¬(a0A < b7k)→
 a1Q a c d b H K)
def a6e(x0:d4)(H:Hp)(K:Sl→Int→Hp→Prop):Prop:=
 O1 x0 H (fun a b=>
 (¬(a=0)→
 K (Sl.mk none 0 0) a b)∧
 (a=0→
 a2t x0 b (fun c d=>
 (0:Int)≤x0.c6∧x0.c6*2≤140737488355328∧
 a2A 0 (Sl.mk none 0 0) (List.replicate (x0.c6:Int).toNat false) c x0 (Sl.mk none 0 0) [] d (fun i y0__71 j y1__71 e=>
 a3q y1__71 e (fun f g=>
 TL ((0,f):Int×(List Int)) g fun(s:Int×(List Int)) H n2=>a1R x0.c6 y0__71 c x0 s.1 s.2 H n2 K)))))
theorem b2R(x0){H K}(h:a6e x0 H K):a1h x0 H K:=by
 refine Ct.of fun w0 w ps0 H0 R E I hR=>c7l ?_
 unfold a6e at h
 unfold F14
 refine z6 I (cs:=(d8 x0)) rfl fun i cc ag cd=>?_
 refine c7 (lW Tryz.isAgg30 Tryz.sizeOf30 rfl ag) ?_
 refine f9 Tryz.call15 h ag ?_
 rintro _ ar _ ce aa _ _ ⟨au,rfl,rfl,h⟩
 refine c5 pNe ?_
 refine V5 h (fun _ h=>?_) (fun _ h=>?_)
 ·exact hR _ ar _ _ aa.drop ⟨(Sl.mk none 0 0),au,rfl,rfl,h⟩
 ·refine c7 (lW Tryz.isAgg30 Tryz.sizeOf30 rfl aa) ?_
  refine f9 Tryz.call36 h aa ?_
  rintro _ _ _ cf av _ _ ⟨m,rfl,rfl,h⟩
  refine r5 av Tryz.zeroValue83 (cs:=[(nS)]) rfl fun j cg aw ch=>?_
  refine u1 aw Tryz.sizeOf83 (vs:=[(vs m)]) fun ci ah cj=>?_
  refine c5 v7 (c7 (l1 Tryz.isAgg3 (ah.bring 1) rfl) ?_)
  obtain ⟨ax,ay,h⟩:=h
  refine b0Z ah ax ay fun ai az ck ba bb cl=>?_
  refine r5 bb Tryz.zeroValue47 (cs:=[(nS)]) rfl fun g cm bc cn=>?_
  refine u1 bc Tryz.sizeOf47 (vs:=[(vs ai)]) fun co bd cp=>?_
  refine r5 bd Tryz.zeroValue44 (cs:=[(nS)]) rfl fun f cq be cr=>?_
  refine r5 be Tryz.zeroValue87 (cs:=[Value.nilFunc]) rfl fun k ct bf cu=>?_
  refine c5 (a5z _ _ _) ?_
  refine u1 bf Tryz.sizeOf87 (vs:=[(Value.func (.func 38) #[] #[(Value.pointer (some ⟨g,0,none⟩)),(Value.pointer (some ⟨j,0,none⟩)),(Value.pointer (some ⟨i,0,none⟩)),(Value.pointer (some ⟨k,0,none⟩)),(Value.pointer (some ⟨f,0,none⟩))])]) fun cv aj cw=>?_
  refine c7 (l1 Tryz.isAgg87 aj rfl) ?_
  refine a4D (cap:=[(Value.pointer (some ⟨g,0,none⟩)),(Value.pointer (some ⟨j,0,none⟩)),(Value.pointer (some ⟨i,0,none⟩)),(Value.pointer (some ⟨k,0,none⟩)),(Value.pointer (some ⟨f,0,none⟩))]) Tryz.call38 (h g j i k f ai az (Sl.mk none 0 0) ([]) ba (RowL.nil (e:=3) G6 G7)) ((((((aj.nil.bring 2).bring 2).bring 6).bring 6).bring 6).bring 6) ?_
  rintro _ _ _ cx ak _ _ ⟨cy,y0__71,cz,y1__71,sy0__71,Fy0__71,sy1__71,Fy1__71,rfl,rfl,hy0__71,hy1__71,h⟩
  refine c7 (l1 Tryz.isAgg44 (ak.bring 5) rfl) ?_
  refine f9 Tryz.call39 (h sy1__71 Fy1__71 hy1__71) (ak.bring 6) ?_
  rintro _ bg _ da al _ _ ⟨bh,bi,rfl,rfl,bj,h⟩
  have hj1:∀(ab:(List Int))(p:Sl)(ac:Frag) H w (_:RowL 3 1 o3 p ab ac) (_:Inv w0 ps0 H0 H [bx g 47 [(vs sy0__71)],bx j 83 [(vs m)],bx i 30 (d8 x0),bx k 87 [(Value.func (.func 38) #[] #[(Value.pointer (some ⟨g,0,none⟩)),(Value.pointer (some ⟨j,0,none⟩)),(Value.pointer (some ⟨i,0,none⟩)),(Value.pointer (some ⟨k,0,none⟩)),(Value.pointer (some ⟨f,0,none⟩))])],bx f 44 [(vs p)],Fy0__71,ac] w) (_:a1Q y0__71 m x0 ab H K),b7Y (Value.pointer (some ⟨f,0,none⟩)) w R E:=by
   intro ab p ac H w bk I h
   unfold b7Y
   intro _
   unfold a1Q at h
   refine c7 (l1 Tryz.isAgg44 (I.bring 4) rfl) ?_
   obtain ⟨am,bl,bm,bn,bo⟩:=Inv.freezeC (I.bring 6) bk (by decide)
   replace h:=h p am bm bn bo
   exact hR _ am _ _ bl.drop.drop.drop.drop.drop.drop ⟨p,0,rfl,rfl,h⟩
  refine o5 fun j1 hx1=>?_
  refine c5 v7 (c7 (l1 Tryz.isAgg3 (al.bring 4) rfl) ?_)
  obtain ⟨ad,q,bp,bq⟩:=h
  refine C1 (J:=fun n l w=>∃(s:Int×(List Int))(H:Hp)(o:Sl)(r:Frag),n=q s∧l=(match s with | (a0A,d)=>[(vi a0A)])∧(match s with | (a0A,d)=>RowL 3 1 o3 o d r)∧(match s with | (a0A,d)=>Inv w0 ps0 H0 H [bx g 47 [(vs sy0__71)],bx j 83 [(vs m)],bx i 30 (d8 x0),bx k 87 [(Value.func (.func 38) #[] #[(Value.pointer (some ⟨g,0,none⟩)),(Value.pointer (some ⟨j,0,none⟩)),(Value.pointer (some ⟨i,0,none⟩)),(Value.pointer (some ⟨k,0,none⟩)),(Value.pointer (some ⟨f,0,none⟩))])],bx f 44 [(vs o)],Fy0__71,r] w)∧ad s H) ⟨_,(0,bh),bg,sy1__71,bi,rfl,rfl,bj,((((((al.bring 2).bring 6).bring 6).bring 6).bring 6).bring 6),bp⟩ ?_
  rintro db dc w next2 ⟨⟨a0A,d⟩,H,o,r,rfl,ae,t,I,br⟩ hn2
  dsimp only at ae I t
  simp only [List.map_cons,List.map_nil,List.cons.injEq,and_true] at ae
  have e27:=ae
  simp only [e27]
  obtain ⟨n2,hm2,h⟩:∃n2:(Int×(List Int))→Hp→Prop,(∀s' H',n2 s' H'→ad s' H'∧q s' < q (a0A,d))∧a1R x0.c6 y0__71 m x0 a0A d H n2 K:=⟨_,fun _ _ h=>h,bq (a0A,d) H (fun s' H'=>ad s' H'∧q s' < q (a0A,d)) br (fun _ _ a b=>⟨a,b⟩)⟩
  unfold c2a
  unfold a1R at h
  refine c5 pLs ?_
  refine d9 h (fun _ h=>?_) (fun _ h=>?_)
  ·have hj3:∀(u:(List Int))(y:Sl)(z:Frag) H w (_:RowL 3 1 o3 y u z) (_:Inv w0 ps0 H0 H [bx f 44 [(vs y)],bx g 47 [(vs sy0__71)],bx j 83 [(vs m)],bx i 30 (d8 x0),bx k 87 [(Value.func (.func 38) #[] #[(Value.pointer (some ⟨g,0,none⟩)),(Value.pointer (some ⟨j,0,none⟩)),(Value.pointer (some ⟨i,0,none⟩)),(Value.pointer (some ⟨k,0,none⟩)),(Value.pointer (some ⟨f,0,none⟩))])],Fy0__71,z] w) (_:Q9 x0.c6 a0A u y0__71 m x0 H n2 K),b7Z (Value.pointer (some ⟨g,0,none⟩)) (Value.pointer (some ⟨f,0,none⟩)) (vi x0.c6) (vi a0A) w next2 R E:=by
    intro u y z H w bs I h
    unfold b7Z
    intro _
    unfold Q9 at h
    refine c5 pAd ?_
    exact hn2 _ _ _ (hm2 _ _ h).2 ⟨((IntKind.wrap .i64 (a0A+1)),u),H,y,z,rfl,rfl,bs,(((((((I.bring 6).bring 6).bring 2).bring 6).bring 6).bring 6).bring 6),(hm2 _ _ h).1⟩
   refine o5 fun j3 hx3=>?_
   refine c7 (l1 Tryz.isAgg47 I rfl) ?_
   obtain ⟨an,bt,af,h⟩:=h
   obtain ⟨dd,de,ao,df⟩:=hy0__71.addr af
   refine c5 (Y0 ao _ _ _ _ an (hy0__71.lt an af)) (c7 (ld1 (v:=(vB bt)) Tryz.isAgg4 (hy0__71.atW (I.bring 5) ao af)) (c5 (J7 _) ?_))
   refine m7 h (fun _ h=>?_) (fun _ h=>?_)
   ·refine c7 (l1 Tryz.isAgg44 (I.bring 4) rfl) ?_
    refine X9 (e:=3) (c:=o3) (xs:=[a0A]) I (a1z _) rfl rfl G6 G7 (nb rfl) fun dg dh di bu ap dj=>?_
    obtain ⟨bv,h⟩:=h
    refine a4G (s:=o) (xs:=d) (ap.bring 7) t (bu.srcO ((ap.bring 7).bring 1)) bv fun aq bw dk bz ca dl=>?_
    refine u1 ((ca.bring 1).drop.bring 5) Tryz.sizeOf44 (vs:=[(vs aq)]) fun dm cb dn=>?_
    exact hx3 _ _ (hj3 (d++[a0A]) aq bw H _ bz (((((((cb.bring 1).bring 6).bring 6).bring 6).bring 6).bring 6).bring 6) h)
   ·exact hx3 _ _ (hj3 d o r H _ t (((((((I.bring 6).bring 6).bring 5).bring 5).bring 5).bring 5).bring 6) h)
  ·exact hx1 _ _ (hj1 d o r H _ t (((((((I.bring 6).bring 6).bring 6).bring 6).bring 6).bring 6).bring 6) h)
def V2(H:Hp)(K:Bool→Hp→Prop):Prop:=
 K true H
def a0O(a5G:Sl)(a1o:Sl)(D3:Int)(H:Hp)(n2:Int→Hp→Prop)(K:Bool→Hp→Prop):Prop:=
 (D3 < (a5G.n:Int)→
 (0:Int)≤D3∧(D3:Int) < a5G.n∧∃a:ByteArray,EltH H a5G D3 1 [(Value.string a)]∧
 (0:Int)≤D3∧(D3:Int) < a1o.n∧∃b:ByteArray,EltH H a1o D3 1 [(Value.string b)]∧
 (¬(a=b)→
 K false H)∧
 (a=b→
 n2 (IntKind.wrap .i64 (D3+1)) H))∧
 (¬(D3 < (a5G.n:Int))→
 V2 H K)
def a2W(x0:Sl)(x1:Sl)(H:Hp)(K:Bool→Hp→Prop):Prop:=
 (¬((x0.n:Int)=(x1.n:Int))→
 K false H)∧
 ((x0.n:Int)=(x1.n:Int)→
 TL (0:Int) H fun(s:Int) H n2=>a0O x0 x1 s H n2 K)
theorem a9t(x0 x1){H K}(h:a2W x0 x1 H K):a2B x0 x1 H K:=by
 refine Ct.of fun w0 w ps0 H0 R E I hR=>c7w ?_
 unfold a2W at h
 unfold F31
 refine c5 (a1e _ _ _) (c5 (a1e _ _ _) (c5 pNe ?_))
 refine V5 h (fun _ h=>?_) (fun _ h=>?_)
 ·exact hR _ H _ _ I ⟨false,rfl,rfl,h⟩
 ·have hj1:∀H w (_:Inv w0 ps0 H0 H [] w) (_:V2 H K),b8q w R E:=by
   intro H w I h
   unfold b8q
   intro _
   unfold V2 at h
   exact hR _ H _ _ I ⟨true,rfl,rfl,h⟩
  refine o5 fun j1 hx1=>?_
  refine a0g (σ:=Int) (fun D3=>[(vi D3)]) (fun D3=>[]) h rfl I ?_
  rintro D3 H n w next2 n2 d I h hn2
  simp only [List.map_cons,List.map_nil,List.cons.injEq,and_true] at d
  have e5:=d
  simp only [e5]
  unfold c2o
  unfold a0O at h
  refine c5 (a1e _ _ _) (c5 pLs ?_)
  refine d9 h (fun _ h=>?_) (fun _ h=>?_)
  ·refine I0 I fun o a=>?_
   obtain ⟨e,f,g,b,h⟩:=h
   obtain ⟨p,q,i,b⟩:=b
   refine d5 (b1z i _ _ _ _ e f) ?_
   obtain ⟨j,k,l,c,h⟩:=h
   obtain ⟨r,s,m,c⟩:=c
   refine d5 (b1z m _ _ _ _ j k) ?_
   refine j9 (ld1 (v:=(Value.string g)) Tryz.isAgg9 (a.atH b)) ?_
   refine j9 (ld1 (v:=(Value.string l)) Tryz.isAgg9 (a.atH c)) ?_
   refine d5 (c1G _ _ _ _ _) ?_
   refine V5 h (fun _ h=>?_) (fun _ h=>?_)
   ·exact hR _ H _ _ a ⟨false,rfl,rfl,h⟩
   ·refine c5 pAd ?_
    exact hn2 (IntKind.wrap .i64 (D3+1)) _ _ h a
  ·exact hx1 _ _ (hj1 H _ I h)
def a5o(x0:A8)(H:Hp)(K:Sl→Int→Hp→Prop):Prop:=
 a6W x0 2 H (fun a b c=>
 K a b c)
theorem b2l(x0){H K}(h:a5o x0 H K):a7q x0 H K:=by
 refine Ct.of fun w0 w ps0 H0 R E I hR=>c7t ?_
 unfold a5o at h
 unfold F22
 refine z6 I (cs:=(v8 x0)) rfl fun f g a i=>?_
 refine c7 (lW Tryz.isAgg25 Tryz.sizeOf25 rfl a) ?_
 refine f9 Tryz.call44 h a ?_
 rintro _ c _ j d _ _ ⟨e,b,rfl,rfl,h⟩
 refine c5 (m5 _ _ _ rfl) (c5 (m5 _ _ (vi b) rfl) ?_)
 exact hR _ c _ _ d.drop ⟨e,b,rfl,rfl,h⟩
def N9(a:c8)(a8F:Sl)(a8G:Int)(a8H:Sl)(a8I:Int)(a8J:Int)(c1e:(List c8))(b1m:(Option Nat))(b1n:(Option Nat))(e:q8)(H:Hp)(K:f3→(List c8)→Hp→Prop):Prop:=
 A0 (f3.mk (d4.mk a8F a8G a8H a8I a8J (Sl.mk none 0 0)) b1m b1n) c1e a H (fun b c d=>
 K (d6 b) c d)
def F3(a:c8)(S3:Sl)(S4:Int)(S5:Sl)(S6:Int)(S7:Int)(Q7:(List c8))(J2:(Option Nat))(N8:(Option Nat))(b:q8)(H:Hp)(K:f3→(List c8)→Hp→Prop):Prop:=
 (b.d3=4→
 ∃c:List (ByteArray×Int),MapH H (fun s:ByteArray=>Value.string s) (fun n:Int=>Value.int .i64 n) N8 c∧
 N9 (c8.mk a.o4 a.fTo a.d3 a.O0 ((lk b.i7 c).getD 0) a.fOp a.fA a.fB) S3 S4 S5 S6 S7 Q7 J2 N8 b H K)∧
 (¬(b.d3=4)→
 N9 a S3 S4 S5 S6 S7 Q7 J2 N8 b H K)
def a2X(x0:f3)(e:(List c8))(x1:q8)(x2:Int)(x3:Int)(x4:Int)(x5:Int)(H:Hp)(K:f3→(List c8)→Hp→Prop):Prop:=
 a5D x1.d3 H (fun g i=>
 J8 x3 x4 g i (fun a d=>
 ((x1.D5.n:Int)=1→
 (0:Int)≤0∧(0:Int) < x1.D5.n∧∃f:q8,EltH d x1.D5 0 4 (m6 f)∧
 N7 (d6 x0) e f x3 x5 d (fun j k b l m=>
 F3 (c8.mk k a.fTo a.d3 x2 a.K0 a.fOp j a.fB) b.fc.p5 b.fc.m3 b.fc.m2 b.fc.c6 b.fc.p9 l b.fvars b.farrays x1 m K))∧
 (¬((x1.D5.n:Int)=1)→
 ((x1.D5.n:Int)=2→
 S2 (d6 x0) e x1.D5 x3 x5 d (fun o p q c r s=>
 F3 (c8.mk q a.fTo a.d3 x2 a.K0 a.fOp o p) c.fc.p5 c.fc.m3 c.fc.m2 c.fc.c6 c.fc.p9 r c.fvars c.farrays x1 s K))∧
 (¬((x1.D5.n:Int)=2)→
 F3 (c8.mk a.o4 a.fTo a.d3 x2 a.K0 a.fOp a.fA a.fB) x0.fc.p5 x0.fc.m3 x0.fc.m2 x0.fc.c6 x0.fc.p9 e x0.fvars x0.farrays x1 d K))))
theorem a9u(x0 l x1 x2 x3 x4 x5){H K}(h:a2X x0 l x1 x2 x3 x4 x5 H K):Z6 x0 l x1 x2 x3 x4 x5 H K:=by
 intro g0 m n o
 refine Ct.of fun w0 w ps0 H0 R E I hR=>c8m ?_
 unfold a2X at h
 unfold F97
 refine z6 I (cs:=(m6 x1)) rfl fun p bk s bl=>?_
 refine c5 W6 (c7 (l1 Tryz.isAgg3 s rfl) ?_)
 refine f9 Tryz.call110 h s ?_
 rintro _ bm _ bn v _ _ ⟨bo,rfl,rfl,h⟩
 refine f9 Tryz.call67 h v ?_
 rintro _ y _ bp aa _ _ ⟨a,rfl,rfl,h⟩
 refine r5 aa Tryz.zeroValue40 (cs:=[(vi 0),(vi 0),(vi 0),(vi 0),(vi 0),(vi 0),(vi 0),(vi 0),(vi 0),(vi 0)]) rfl fun g bq ab br=>?_
 refine u1 ab Tryz.sizeOf40 (vs:=(f7 a)) fun bs ac bt=>?_
 refine c5 a4R ?_
 refine L3 ac Tryz.sizeOf3 fun bu c bv=>?_
 have hj1:∀(b:c8)(S3:Sl)(S4:Int)(S5:Sl)(S6:Int)(S7:Int)(Q7:(List c8))(J2:(Option Nat))(N8:(Option Nat))(a0Z:Sl)(a1b:Frag) H w (_:RowL 40 10 f7 a0Z Q7 a1b) (_:Inv w0 ps0 H0 H [bx g 40 (f7 b),bx g0 68 [(vs S3),(vi S4),(vs S5),(vi S6),(vi S7),(vs a0Z),(Value.map J2),(Value.map N8)],bx p 123 (m6 x1),a1b] w) (_:F3 b S3 S4 S5 S6 S7 Q7 J2 N8 x1 H K),b8P (Value.pointer (some ⟨g0,0,none⟩)) (Value.pointer (some ⟨p,0,none⟩)) (Value.pointer (some ⟨g,0,none⟩)) w R E:=by
  intro b S3 S4 S5 S6 S7 Q7 J2 N8 a0Z a1b H w b2m I h
  unfold b8P
  intro _
  unfold F3 at h
  have hj2:∀(q:c8)(a8F:Sl)(a8G:Int)(a8H:Sl)(a8I:Int)(a8J:Int)(b1m:(Option Nat))(b1n:(Option Nat)) H w (_:Inv w0 ps0 H0 H [bx g 40 (f7 q),bx g0 68 [(vs a8F),(vi a8G),(vs a8H),(vi a8I),(vi a8J),(vs a0Z),(Value.map b1m),(Value.map b1n)],bx p 123 (m6 x1),a1b] w) (_:N9 q a8F a8G a8H a8I a8J Q7 b1m b1n x1 H K),b8O (Value.pointer (some ⟨g0,0,none⟩)) (Value.pointer (some ⟨g,0,none⟩)) w R E:=by
   intro q a8F a8G a8H a8I a8J b1m b1n H w I h
   unfold b8O
   intro _
   unfold N9 at h
   refine c7 (lW Tryz.isAgg40 Tryz.sizeOf40 rfl I) ?_
   refine f9 Tryz.call69 (h g0 a0Z a1b b2m) ((I.bring 3).bring 2) ?_
   rintro _ ad _ bw ae _ _ ⟨af,ag,ah,ai,rfl,rfl,aj,h⟩
   exact hR _ ad _ _ ((((ae.bring 2).drop.bring 2).drop.bring 1).bring 1) ⟨(d6 af),ag,ah,ai,rfl,rfl,aj,h⟩
  refine o5 fun j2 hx2=>?_
  refine c5 W6 (c7 (l1 Tryz.isAgg3 (I.bring 2) rfl) (c5 pEq ?_))
  refine d9 h (fun _ h=>?_) (fun _ h=>?_)
  ·refine I0 I fun bz i=>?_
   refine d5 (r8 _) ?_
   refine d5 b1B ?_
   refine d5 a5B ?_
   refine j9 (l1 Tryz.isAgg66 (i.bring 1) rfl) ?_
   refine j9 (l1 Tryz.isAgg9 (i.bring 2) rfl) ?_
   obtain ⟨ak,al,h⟩:=h
   refine b1y (keyS Tryz.underlying9) Tryz.underlying66 (z:=0) Tryz.zeroValue3 i al x1.i7 ?_
   refine d5 a4S ?_
   refine L3 i Tryz.sizeOf3 fun ca am cb=>?_
   exact hx2 _ _ (hj2 (c8.mk b.o4 b.fTo b.d3 b.O0 ((lk x1.i7 ak).getD 0) b.fOp b.fA b.fB) S3 S4 S5 S6 S7 J2 N8 H _ ((((am.bring 3).bring 3).bring 3).bring 3) h)
  ·exact hx2 _ _ (hj2 b S3 S4 S5 S6 S7 J2 N8 H _ ((((I.bring 3).bring 3).bring 3).bring 3) h)
 refine o5 fun j1 hx1=>?_
 refine c5 a3b (c7 (l1 Tryz.isAgg57 (c.bring 1) rfl) (c5 (a4Q _ _ _) (c5 pEq ?_)))
 refine d9 h (fun _ h=>?_) (fun _ h=>?_)
 ·refine c5 a3b (c7 (l1 Tryz.isAgg57 (c.bring 1) rfl) ?_)
  obtain ⟨an,ao,ap,r,h⟩:=h
  obtain ⟨cc,cd,aq,r⟩:=r
  refine c5 (a4m aq _ _ _ _ an ao) (c7 (ldA (vs:=(m6 ap)) Tryz.isAgg123 Tryz.sizeOf123 rfl (c.atH r)) ?_)
  refine f9 Tryz.call98 (h g0 m n o) ((c.bring 3).bring 3) ?_
  rintro _ ar _ ce au _ _ ⟨j,t,d,av,aw,ax,rfl,rfl,ay,h⟩
  refine c5 (m5 _ _ _ rfl) (c5 (m5 _ _ (vi t) rfl) (c5 X1 ?_))
  refine a3e (au.bring 2) Tryz.sizeOf38 (vs:=(j6 j)) (cs':=[(vi a.o4),(vi a.fTo),(vi a.d3),(vi x2),(vi a.K0),(vi a.fOp),(vi j.r9),(vi j.p6),(vi a.fB.r9),(vi a.fB.p6)]) rfl rfl (nb rfl) rfl rfl fun cf az cg=>?_
  refine c5 K2 ?_
  refine L3 az Tryz.sizeOf3 fun ch ba ci=>?_
  exact hx1 _ _ (hj1 (c8.mk t a.fTo a.d3 x2 a.K0 a.fOp j a.fB) d.fc.p5 d.fc.m3 d.fc.m2 d.fc.c6 d.fc.p9 av d.fvars d.farrays aw ax ar _ ay ((((ba.bring 2).bring 3).bring 3).bring 3) h)
 ·refine c5 pEq ?_
  refine d9 h (fun _ h=>?_) (fun _ h=>?_)
  ·refine c5 a3b (c7 (l1 Tryz.isAgg57 (c.bring 1) rfl) ?_)
   refine f9 Tryz.call68 (h g0 m n o) ((c.bring 3).bring 3) ?_
   rintro _ bb _ cj bc _ _ ⟨f,k,u,e,bd,be,bf,rfl,rfl,bg,h⟩
   refine c5 (m5 _ _ _ rfl) (c5 (m5 _ _ _ rfl) (c5 (m5 _ _ (vi u) rfl) (c5 X1 ?_)))
   refine a3e (bc.bring 2) Tryz.sizeOf38 (vs:=(j6 f)) (cs':=[(vi a.o4),(vi a.fTo),(vi a.d3),(vi x2),(vi a.K0),(vi a.fOp),(vi f.r9),(vi f.p6),(vi a.fB.r9),(vi a.fB.p6)]) rfl rfl (nb rfl) rfl rfl fun ck bh cl=>?_
   refine c5 a0S ?_
   refine a3e bh Tryz.sizeOf38 (vs:=(j6 k)) (cs':=[(vi a.o4),(vi a.fTo),(vi a.d3),(vi x2),(vi a.K0),(vi a.fOp),(vi f.r9),(vi f.p6),(vi k.r9),(vi k.p6)]) rfl rfl (nb rfl) rfl rfl fun cm bi cn=>?_
   refine c5 K2 ?_
   refine L3 bi Tryz.sizeOf3 fun co bj cp=>?_
   exact hx1 _ _ (hj1 (c8.mk u a.fTo a.d3 x2 a.K0 a.fOp f k) e.fc.p5 e.fc.m3 e.fc.m2 e.fc.c6 e.fc.p9 bd e.fvars e.farrays be bf bb _ bg ((((bj.bring 2).bring 3).bring 3).bring 3) h)
  ·exact hx1 _ _ (hj1 (c8.mk a.o4 a.fTo a.d3 x2 a.K0 a.fOp a.fA a.fB) x0.fc.p5 x0.fc.m3 x0.fc.m2 x0.fc.c6 x0.fc.p9 l x0.fvars x0.farrays m n y _ o ((((c.bring 3).bring 2).bring 3).bring 3) h)
def a1x(x0:f3)(b:(List c8))(x1:Int)(x2:q8)(x3:Int)(x4:Int)(H:Hp)(K:f3→(List c8)→Hp→Prop):Prop:=
 X5 (d6 x0) b x2 H (fun e c d=>
 ((!c)=true→
 Z6 (d6 x0) b x2 x1 x3 x4 0 d (fun f g i=>
 K (d6 f) g i))∧
 ((!c)=false→
 J8 x3 x4 2 d (fun a j=>
 A0 (d6 x0) b (c8.mk a.o4 a.fTo a.d3 x1 a.K0 a.fOp e a.fB) j (fun k l m=>
 K (d6 k) l m))))
theorem a8K(x0 i x1 x2 x3 x4){H K}(h:a1x x0 i x1 x2 x3 x4 H K):a1j x0 i x1 x2 x3 x4 H K:=by
 intro g0 c d e
 refine Ct.of fun w0 w ps0 H0 R E I hR=>c8a ?_
 unfold a1x at h
 unfold F66
 refine z6 I (cs:=(m6 x2)) rfl fun ak al j am=>?_
 refine c7 (lW Tryz.isAgg123 Tryz.sizeOf123 rfl j) ?_
 refine f9 Tryz.call96 (h g0 c d e) ((j.bring 2).bring 2) ?_
 rintro _ _ _ an l _ _ ⟨b,m,rfl,rfl,h⟩
 refine c5 (m5 _ _ _ rfl) (c5 (m5 _ _ (vB m) rfl) ?_)
 refine r5 l Tryz.zeroValue38 (cs:=[(vi 0),(vi 0)]) rfl fun ao ap n aq=>?_
 refine u1 n Tryz.sizeOf38 (vs:=(j6 b)) fun ar f au=>?_
 refine c5 (J7 _) ?_
 refine m7 h (fun _ h=>?_) (fun _ h=>?_)
 ·refine c7 (lW Tryz.isAgg123 Tryz.sizeOf123 rfl (f.bring 3)) ?_
  refine f9 Tryz.call97 (h g0 c d e) ((f.bring 2).bring 2) ?_
  rintro _ p _ av q _ _ ⟨r,s,t,u,rfl,rfl,v,h⟩
  exact hR _ p _ _ ((((q.bring 2).drop.bring 2).drop.bring 1).bring 1) ⟨(d6 r),s,t,u,rfl,rfl,v,h⟩
 ·refine f9 Tryz.call67 h f ?_
  rintro _ _ _ aw y _ _ ⟨a,rfl,rfl,h⟩
  refine r5 y Tryz.zeroValue40 (cs:=[(vi 0),(vi 0),(vi 0),(vi 0),(vi 0),(vi 0),(vi 0),(vi 0),(vi 0),(vi 0)]) rfl fun ax ay z az=>?_
  refine u1 z Tryz.sizeOf40 (vs:=(f7 a)) fun ba aa bb=>?_
  refine I0 aa fun bc g=>?_
  refine d5 a4R ?_
  refine j9 (lW Tryz.isAgg38 Tryz.sizeOf38 rfl (g.bring 1)) ?_
  refine L3 g Tryz.sizeOf3 fun bd ab ac=>?_
  refine ⟨(ac _ (Inv.b7w ((g.bring 1).bring 1))),?_⟩
  refine d5 X1 ?_
  refine a3e ab Tryz.sizeOf38 (vs:=(j6 b)) (cs':=[(vi a.o4),(vi a.fTo),(vi a.d3),(vi x1),(vi a.K0),(vi a.fOp),(vi b.r9),(vi b.p6),(vi a.fB.r9),(vi a.fB.p6)]) rfl rfl (nb rfl) rfl rfl fun be k bf=>?_
  refine c7 (ldA Tryz.isAgg40 Tryz.sizeOf40 rfl (k.at1 (o:=0) (vs:=[(vi a.o4),(vi a.fTo),(vi a.d3),(vi x1),(vi a.K0),(vi a.fOp),(vi b.r9),(vi b.p6),(vi a.fB.r9),(vi a.fB.p6)]) (nb rfl) rfl)) ?_
  refine f9 Tryz.call69 (h g0 c d e) ((k.bring 3).bring 3) ?_
  rintro _ ad _ bg ae _ _ ⟨af,ag,ah,ai,rfl,rfl,aj,h⟩
  exact hR _ ad _ _ (((((ae.bring 2).drop.bring 2).drop.bring 2).drop.bring 1).bring 1) ⟨(d6 af),ag,ah,ai,rfl,rfl,aj,h⟩
def R7(c5g:(List Int))(c5h:Sl)(c5i:Int)(a1S:Int)(a0m:Sl)(a0o:Int)(a0p:Sl)(a0q:Int)(a0r:Int)(X8:(List c8))(G5:(Option Nat))(a4c:(Option Nat))(H:Hp)(n2:(Int×Sl×Int×Sl×Int×Int×(List c8)×(Option Nat)×(Option Nat))→Hp→Prop)(K:f3→(List c8)→Hp→Prop):Prop:=
 (a1S < c5i→
 (0:Int)≤a1S∧(a1S:Int) < c5h.n∧∃b:u5,EltH H c5h a1S 6 (u4 b)∧
 (0:Int)≤a1S∧∃c:Int,(c5g)[(a1S:Int).toNat]? = some c∧
 (0:Int)≤IntKind.wrap .i64 (a1S+1)∧∃d:Int,(c5g)[(IntKind.wrap .i64 (a1S+1):Int).toNat]? = some d∧
 a2E (f3.mk (d4.mk a0m a0o a0p a0q a0r (Sl.mk none 0 0)) G5 a4c) X8 b c d H (fun a e f=>
 n2 ((IntKind.wrap .i64 (a1S+1)),a.fc.p5,a.fc.m3,a.fc.m2,a.fc.c6,a.fc.p9,e,a.fvars,a.farrays) f))∧
 (¬(a1S < c5i)→
 K (f3.mk (d4.mk a0m a0o a0p a0q a0r (Sl.mk none 0 0)) G5 a4c) X8 H)
def R8(b0Q:Sl)(a8R:Int)(b0F:(List Int))(S3:Sl)(S4:Int)(S5:Sl)(S6:Int)(S7:Int)(Q7:(List c8))(J2:(Option Nat))(N8:(Option Nat))(H:Hp)(K:f3→(List c8)→Hp→Prop):Prop:=
 (b0F.length+([a8R]:List Int).length)*9≤140737488355328∧
 TL ((0,S3,S4,S5,S6,S7,Q7,J2,N8):Int×Sl×Int×Sl×Int×Int×(List c8)×(Option Nat)×(Option Nat)) H fun(s:Int×Sl×Int×Sl×Int×Int×(List c8)×(Option Nat)×(Option Nat)) H n2=>R7 (b0F++[a8R]) b0Q (b0Q.n:Int) s.1 s.2.1 s.2.2.1 s.2.2.2.1 s.2.2.2.2.1 s.2.2.2.2.2.1 s.2.2.2.2.2.2.1 s.2.2.2.2.2.2.2.1 s.2.2.2.2.2.2.2.2 H n2 K
def R9(d1q:Sl)(d1r:Int)(c5j:Int)(a4B:(List Int))(a5R:Int)(Y7:Sl)(Y8:Int)(Y9:Sl)(Z0:Int)(Z1:Int)(V3:(List c8))(a3i:(Option Nat))(a3j:(Option Nat))(H:Hp)(n3:((List Int)×Int×Sl×Int×Sl×Int×Int×(List c8)×(Option Nat)×(Option Nat))→Hp→Prop)(K:f3→(List c8)→Hp→Prop):Prop:=
 (a5R < c5j→
 C0 (f3.mk (d4.mk Y7 Y8 Y9 Z0 Z1 (Sl.mk none 0 0)) a3i a3j) V3 H (fun b a c d=>
 (a4B.length+([b]:List Int).length)*9≤140737488355328∧
 n3 ((a4B++[b]),(IntKind.wrap .i64 (a5R+1)),a.fc.p5,a.fc.m3,a.fc.m2,a.fc.c6,a.fc.p9,c,a.fvars,a.farrays) d))∧
 (¬(a5R < c5j)→
 R8 d1q d1r a4B Y7 Y8 Y9 Z0 Z1 V3 a3i a3j H K)
def a2q(x0:f3)(a:(List c8))(x1:Sl)(x2:Int)(x3:Int)(H:Hp)(K:f3→(List c8)→Hp→Prop):Prop:=
 ((x1.n:Int)=0→
 K (d6 x0) a H)∧
 (¬((x1.n:Int)=0)→
 TL (([x2],0,x0.fc.p5,x0.fc.m3,x0.fc.m2,x0.fc.c6,x0.fc.p9,a,x0.fvars,x0.farrays):(List Int)×Int×Sl×Int×Sl×Int×Int×(List c8)×(Option Nat)×(Option Nat)) H fun(s:(List Int)×Int×Sl×Int×Sl×Int×Int×(List c8)×(Option Nat)×(Option Nat)) H n3=>R9 x1 x3 (IntKind.wrap .i64 ((x1.n:Int)-1)) s.1 s.2.1 s.2.2.1 s.2.2.2.1 s.2.2.2.2.1 s.2.2.2.2.2.1 s.2.2.2.2.2.2.1 s.2.2.2.2.2.2.2.1 s.2.2.2.2.2.2.2.2.1 s.2.2.2.2.2.2.2.2.2 H n3 K)
theorem a8U(x0 k x1 x2 x3){H K}(h:a2q x0 k x1 x2 x3 H K):L5 x0 k x1 x2 x3 H K:=by
 intro g0 z aa ab
 refine Ct.of fun w0 w ps0 H0 R E I hR=>c7v ?_
 unfold a2q at h
 unfold F24
 refine c5 (a2Z _ _ _) (c5 pEq ?_)
 refine d9 h (fun _ h=>?_) (fun _ h=>?_)
 ·exact hR _ H _ _ ((I.bring 1).bring 1) ⟨(d6 x0),k,z,aa,rfl,rfl,ab,h⟩
 ·refine X9 (e:=3) (c:=o3) (xs:=[x2]) I (a1z _) rfl rfl G6 G7 (nb rfl) fun ak al cb am an cc=>?_
  have hj1:∀(b0F:(List Int))(S3:Sl)(S4:Int)(S5:Sl)(S6:Int)(S7:Int)(Q7:(List c8))(J2:(Option Nat))(N8:(Option Nat))(b7l:Sl)(Fs8j1:Frag)(a0Z:Sl)(a1b:Frag) H w (_:RowL 3 1 o3 b7l b0F Fs8j1) (_:RowL 40 10 f7 a0Z Q7 a1b) (_:Inv w0 ps0 H0 H [bx g0 68 [(vs S3),(vi S4),(vs S5),(vi S6),(vi S7),(vs a0Z),(Value.map J2),(Value.map N8)],Fs8j1,a1b] w) (_:R8 x1 x3 b0F S3 S4 S5 S6 S7 Q7 J2 N8 H K),b8p (Value.pointer (some ⟨g0,0,none⟩)) (vs x1) (vi x3) (vs b7l) w R E:=by
   intro b0F S3 S4 S5 S6 S7 Q7 J2 N8 b7l Fs8j1 a0Z a1b H w d0p b2m I h
   unfold b8p
   intro _
   unfold R8 at h
   refine X9 (e:=3) (c:=o3) (xs:=[x3]) I (a1z _) rfl rfl G6 G7 (nb rfl) fun cd ce cf ao ac cg=>?_
   obtain ⟨ap,h⟩:=h
   refine a4G (s:=b7l) (xs:=b0F) (ac.bring 2) d0p (ao.srcO ((ac.bring 2).bring 1)) ap fun ch aq ci g ar cj=>?_
   refine c5 (a2Z _ _ _) ?_
   obtain ⟨o,i,au,av⟩:=h
   refine C1 (J:=fun n l w=>∃(s:Int×Sl×Int×Sl×Int×Int×(List c8)×(Option Nat)×(Option Nat))(H:Hp)(a7A:Sl)(a7B:Frag),n=i s∧l=(match s with | (a1S,a0m,a0o,a0p,a0q,a0r,X8,G5,a4c)=>[(vi a1S)])∧(match s with | (a1S,a0m,a0o,a0p,a0q,a0r,X8,G5,a4c)=>RowL 40 10 f7 a7A X8 a7B)∧(match s with | (a1S,a0m,a0o,a0p,a0q,a0r,X8,G5,a4c)=>Inv w0 ps0 H0 H [bx g0 68 [(vs a0m),(vi a0o),(vs a0p),(vi a0q),(vi a0r),(vs a7A),(Value.map G5),(Value.map a4c)],aq,a7B] w)∧o s H) ⟨_,(0,S3,S4,S5,S6,S7,Q7,J2,N8),H,a0Z,a1b,rfl,rfl,b2m,((((ar.bring 1).drop.bring 2).bring 1).bring 2),au⟩ ?_
   rintro ck cl w next2 ⟨⟨a1S,a0m,a0o,a0p,a0q,a0r,X8,G5,a4c⟩,H,a7A,a7B,rfl,p,b2n,I,aw⟩ hn2
   dsimp only at p I b2n
   simp only [List.map_cons,List.map_nil,List.cons.injEq,and_true] at p
   have e33:=p
   simp only [e33]
   obtain ⟨n2,hm2,h⟩:∃n2:(Int×Sl×Int×Sl×Int×Int×(List c8)×(Option Nat)×(Option Nat))→Hp→Prop,(∀s' H',n2 s' H'→o s' H'∧i s' < i (a1S,a0m,a0o,a0p,a0q,a0r,X8,G5,a4c))∧R7 (b0F++[x3]) x1 (x1.n:Int) a1S a0m a0o a0p a0q a0r X8 G5 a4c H n2 K:=⟨_,fun _ _ h=>h,av (a1S,a0m,a0o,a0p,a0q,a0r,X8,G5,a4c) H (fun s' H'=>o s' H'∧i s' < i (a1S,a0m,a0o,a0p,a0q,a0r,X8,G5,a4c)) aw (fun _ _ a b=>⟨a,b⟩)⟩
   unfold c2m
   unfold R7 at h
   refine c5 pLs ?_
   refine d9 h (fun _ h=>?_) (fun _ h=>?_)
   ·obtain ⟨ax,ay,ad,q,h⟩:=h
    obtain ⟨cm,cn,az,q⟩:=q
    refine c5 (b4n az _ _ _ _ ax ay) (c7 (ldA (vs:=(u4 ad)) Tryz.isAgg60 Tryz.sizeOf60 rfl (I.atH q)) ?_)
    refine r5 I Tryz.zeroValue60 (cs:=[(vi 0),(eS),(nS),(nS),(nS),(nS)]) rfl fun co cp ba cq=>?_
    refine u1 ba Tryz.sizeOf60 (vs:=(u4 ad)) fun cr bb ct=>?_
    refine I0 bb fun cu m=>?_
    obtain ⟨ae,bc,r,h⟩:=h
    obtain ⟨cv,cw,af,cx⟩:=g.addr r
    refine d5 (L4 af _ _ _ _ ae (g.lt ae r)) ?_
    refine d5 pAd ?_
    obtain ⟨ag,bd,t,h⟩:=h
    obtain ⟨cy,cz,ah,da⟩:=g.addr t
    refine d5 (L4 ah _ _ _ _ ag (g.lt ag t)) ?_
    refine j9 (lW Tryz.isAgg60 Tryz.sizeOf60 rfl m) ?_
    refine j9 (ld1 (v:=(vi bc)) Tryz.isAgg3 (g.atW (m.bring 2) af r)) ?_
    refine j9 (ld1 (v:=(vi bd)) Tryz.isAgg3 (g.atW (m.bring 2) ah t)) ?_
    refine f9 Tryz.call45 (h g0 a7A a7B b2n) ((m.bring 3).bring 2) ?_
    rintro _ be _ db bf _ _ ⟨d,bg,bh,bi,rfl,rfl,bj,h⟩
    refine c5 pAd ?_
    exact hn2 _ _ _ (hm2 _ _ h).2 ⟨((IntKind.wrap .i64 (a1S+1)),d.fc.p5,d.fc.m3,d.fc.m2,d.fc.c6,d.fc.p9,bg,d.fvars,d.farrays),be,bh,bi,rfl,rfl,bj,((((bf.bring 2).drop.bring 1).bring 2).bring 2),(hm2 _ _ h).1⟩
   ·exact hR _ H _ _ (((I.bring 1).drop.bring 1).bring 1) ⟨(f3.mk (d4.mk a0m a0o a0p a0q a0r (Sl.mk none 0 0)) G5 a4c),X8,a7A,a7B,rfl,rfl,b2n,h⟩
  refine o5 fun j1 hx1=>?_
  refine c5 (a2Z _ _ _) (c5 pSu ?_)
  obtain ⟨u,j,bk,bl⟩:=h
  refine C1 (J:=fun n l w=>∃(s:(List Int)×Int×Sl×Int×Sl×Int×Int×(List c8)×(Option Nat)×(Option Nat))(H:Hp)(b5k:Sl)(Fs8l3:Frag)(a7C:Sl)(a7D:Frag),n=j s∧l=(match s with | (a4B,a5R,Y7,Y8,Y9,Z0,Z1,V3,a3i,a3j)=>[(vs b5k),(vi a5R)])∧(match s with | (a4B,a5R,Y7,Y8,Y9,Z0,Z1,V3,a3i,a3j)=>RowL 3 1 o3 b5k a4B Fs8l3)∧(match s with | (a4B,a5R,Y7,Y8,Y9,Z0,Z1,V3,a3i,a3j)=>RowL 40 10 f7 a7C V3 a7D)∧(match s with | (a4B,a5R,Y7,Y8,Y9,Z0,Z1,V3,a3i,a3j)=>Inv w0 ps0 H0 H [bx g0 68 [(vs Y7),(vi Y8),(vs Y9),(vi Z0),(vi Z1),(vs a7C),(Value.map a3i),(Value.map a3j)],Fs8l3,a7D] w)∧u s H) ⟨_,([x2],0,x0.fc.p5,x0.fc.m3,x0.fc.m2,x0.fc.c6,x0.fc.p9,k,x0.fvars,x0.farrays),H,ak,al,z,aa,rfl,rfl,am,ab,(((an.bring 2).bring 1).bring 2),bk⟩ ?_
  rintro dc dd w next3 ⟨⟨a4B,a5R,Y7,Y8,Y9,Z0,Z1,V3,a3i,a3j⟩,H,b5k,Fs8l3,a7C,a7D,rfl,y,c1f,b2o,I,bm⟩ hn3
  dsimp only at y I c1f b2o
  simp only [List.map_cons,List.map_nil,List.cons.injEq,and_true] at y
  obtain ⟨e8,e19⟩:=y
  simp only [e8,e19]
  obtain ⟨n3,hm3,h⟩:∃n3:((List Int)×Int×Sl×Int×Sl×Int×Int×(List c8)×(Option Nat)×(Option Nat))→Hp→Prop,(∀s' H',n3 s' H'→u s' H'∧j s' < j (a4B,a5R,Y7,Y8,Y9,Z0,Z1,V3,a3i,a3j))∧R9 x1 x3 (IntKind.wrap .i64 ((x1.n:Int)-1)) a4B a5R Y7 Y8 Y9 Z0 Z1 V3 a3i a3j H n3 K:=⟨_,fun _ _ h=>h,bl (a4B,a5R,Y7,Y8,Y9,Z0,Z1,V3,a3i,a3j) H (fun s' H'=>u s' H'∧j s' < j (a4B,a5R,Y7,Y8,Y9,Z0,Z1,V3,a3i,a3j)) bm (fun _ _ a b=>⟨a,b⟩)⟩
  unfold c2n
  unfold R9 at h
  refine c5 pLs ?_
  refine d9 h (fun _ h=>?_) (fun _ h=>?_)
  ·refine f9 Tryz.call23 (h g0 a7C a7D b2o) ((I.bring 2).bring 1) ?_
   rintro _ bn _ de bo _ _ ⟨ai,f,bp,bq,br,rfl,rfl,bs,h⟩
   refine X9 (e:=3) (c:=o3) (xs:=[ai]) bo (a1z _) rfl rfl G6 G7 (nb rfl) fun df dg dh bt aj di=>?_
   obtain ⟨bu,h⟩:=h
   refine a4G (s:=b5k) (xs:=a4B) (aj.bring 3) c1f (bt.srcO ((aj.bring 3).bring 1)) bu fun bv bw dj bz ca dk=>?_
   refine c5 pAd ?_
   exact hn3 _ _ _ (hm3 _ _ h).2 ⟨((a4B++[ai]),(IntKind.wrap .i64 (a5R+1)),f.fc.p5,f.fc.m3,f.fc.m2,f.fc.c6,f.fc.p9,bp,f.fvars,f.farrays),bn,bv,bw,bq,br,rfl,rfl,bz,bs,((((ca.bring 1).drop.bring 2).bring 1).bring 2),(hm3 _ _ h).1⟩
  ·exact hx1 _ _ (hj1 a4B Y7 Y8 Y9 Z0 Z1 V3 a3i a3j b5k Fs8l3 a7C a7D H _ c1f b2o (((I.bring 2).bring 2).bring 2) h)
def a6f(x0:d7)(H:Hp)(K:ByteArray→Bool→Hp→Prop):Prop:=
 (x0.a6m=true→
 K x0.a3f.Z4.i7 true H)∧
 (x0.a6m=false→
 (x0.a6n=true→
 K x0.u6.g9.i7 ((decide (x0.u6.g9.d3=1))||(decide (x0.u6.g9.d3=2))) H)∧
 (x0.a6n=false→
 (x0.a6o=true→
 K x0.D8.t7.i7 ((decide (x0.D8.t7.d3=2))||(decide (x0.D8.t7.d3=4))) H)∧
 (x0.a6o=false→
 K ⟨#[]⟩ false H)))
theorem b2S(x0){H K}(h:a6f x0 H K):a1k x0 H K:=by
 refine Ct.of fun w0 w ps0 H0 R E I hR=>c5S ?_
 unfold a6f at h
 unfold c8D
 refine c5 (b6V x0) (c5 (m5 _ _ (vB x0.a6m) rfl) (c5 (m5 _ _ _ rfl) ?_))
 refine m7 h (fun _ h=>?_) (fun _ h=>?_)
 ·refine r5 I Tryz.zeroValue195 (cs:=[(eS),(vi 0)]) rfl fun n o e q=>?_
  refine u1 e Tryz.sizeOf195 (vs:=[(Value.string x0.a3f.Z4.i7),(vi x0.a3f.Z4.E1)]) fun r d s=>?_
  refine c5 b0O (c5 a4f (c7 (l1 Tryz.isAgg9 d rfl) ?_))
  exact hR _ H _ _ d.drop ⟨x0.a3f.Z4.i7,true,rfl,rfl,h⟩
 ·refine c5 (b6W x0) (c5 (m5 _ _ (vB x0.a6n) rfl) (c5 (m5 _ _ _ rfl) ?_))
  refine m7 h (fun _ h=>?_) (fun _ h=>?_)
  ·refine r5 I Tryz.zeroValue197 (cs:=[(vi 0),(eS),(nS),(nS),(nS),(nS)]) rfl fun f t i u=>?_
   refine u1 i Tryz.sizeOf197 (vs:=[(vi x0.u6.g9.d3),(Value.string x0.u6.g9.i7),(vs x0.u6.g9.m8),(vs x0.u6.g9.z7),(vs x0.u6.g9.O7),(vs x0.u6.g9.O8)]) fun v j y=>?_
   refine I0 j fun z b=>?_
   refine d5 L2 ?_
   refine d5 a4e ?_
   refine d5 L2 ?_
   refine d5 a7m ?_
   refine j9 (l1 Tryz.isAgg9 b rfl) ?_
   refine j9 (l1 Tryz.isAgg3 b rfl) ?_
   refine d5 pEq ?_
   refine d5 (Pu.g fun a=>by with_reducible exact L2) ?_
   refine d5 (Pu.g fun a=>by simp only [f6 a];with_reducible exact a7m) ?_
   refine N1 (p:=(Value.pointer (some ⟨f,0,none⟩))) rfl (Ld.g fun a=>by simp only [f6 a];exact (l1 Tryz.isAgg3 b rfl)) ?_
   refine d5 (Pu.g fun a=>by simp only [f6 a];with_reducible exact pEq) ?_
   refine d5 (B8 _ _) ?_
   exact hR _ H _ _ b.drop ⟨x0.u6.g9.i7,((decide (x0.u6.g9.d3=1))||(decide (x0.u6.g9.d3=2))),rfl,rfl,h⟩
  ·refine c5 (b6X x0) (c5 (m5 _ _ (vB x0.a6o) rfl) (c5 (m5 _ _ _ rfl) ?_))
   refine m7 h (fun _ h=>?_) (fun _ h=>?_)
   ·refine r5 I Tryz.zeroValue202 (cs:=[(vi 0),(vi 0),(eS),(nS)]) rfl fun k aa l ab=>?_
    refine u1 l Tryz.sizeOf202 (vs:=[(vi x0.D8.t7.d3),(vi x0.D8.t7.p6),(Value.string x0.D8.t7.i7),(vs x0.D8.t7.D5)]) fun ac m ad=>?_
    refine I0 m fun ae c=>?_
    refine d5 a0f ?_
    refine d5 a5B ?_
    refine d5 a0f ?_
    refine d5 W6 ?_
    refine j9 (l1 Tryz.isAgg9 c rfl) ?_
    refine j9 (l1 Tryz.isAgg3 c rfl) ?_
    refine d5 pEq ?_
    refine d5 (Pu.g fun a=>by with_reducible exact a0f) ?_
    refine d5 (Pu.g fun a=>by simp only [f6 a];with_reducible exact W6) ?_
    refine N1 (p:=(Value.pointer (some ⟨k,0,none⟩))) rfl (Ld.g fun a=>by simp only [f6 a];exact (l1 Tryz.isAgg3 c rfl)) ?_
    refine d5 (Pu.g fun a=>by simp only [f6 a];with_reducible exact pEq) ?_
    refine d5 (B8 _ _) ?_
    exact hR _ H _ _ c.drop ⟨x0.D8.t7.i7,((decide (x0.D8.t7.d3=2))||(decide (x0.D8.t7.d3=4))),rfl,rfl,h⟩
   ·exact hR _ H _ _ I ⟨⟨#[]⟩,false,rfl,rfl,h⟩
def a5K(x0:Int)(H:Hp)(K:Bool→Hp→Prop):Prop:=
 a3M x0 H (fun a b=>
 K ((decide (a=3))||(decide (a=4))) b)
theorem b2z(x0){H K}(h:a5K x0 H K):a5E x0 H K:=by
 refine Ct.of fun w0 w ps0 H0 R E I hR=>c5X ?_
 unfold a5K at h
 unfold c8I
 refine f9 Tryz.call134 h I ?_
 rintro _ c _ e d _ _ ⟨b,rfl,rfl,h⟩
 refine c5 pEq ?_
 simp only [D4]
 refine c5 (Pu.g fun a=>by simp only [f6 a];with_reducible exact pEq) ?_
 refine c5 (B8 _ _) ?_
 exact hR _ c _ _ d ⟨((decide (b=3))||(decide (b=4))),rfl,rfl,h⟩
def M9(b1F:Int)(H:Hp)(K:Int→Hp→Prop):Prop:=
 K b1F H
def V4(b:ByteArray)(b2T:Int)(a:Nat)(H:Hp)(n2:(Int×Nat)→Hp→Prop)(K:Int→Hp→Prop):Prop:=
 (a < b.size→
 n2 ((IntKind.wrap .i64 (b2T+1)),(a+(Utf8.decode b a).2)) H)∧
 (¬(a < b.size)→
 M9 b2T H K)
def Y4(x0:ByteArray)(H:Hp)(K:Int→Hp→Prop):Prop:=
 TL ((0,0):Int×Nat) H fun(s:Int×Nat) H n2=>V4 x0 s.1 s.2 H n2 K
theorem a7e(x0){H K}(h:Y4 x0 H K):Y2 x0 H K:=by
 refine Ct.of fun w0 w ps0 H0 R E I hR=>c6a ?_
 unfold Y4 at h
 unfold c8L
 have hj1:∀(b1F:Int) H w (_:Inv w0 ps0 H0 H [] w) (_:M9 b1F H K),b5Z (vi b1F) w R E:=by
  intro b1F H w I h
  unfold b5Z
  intro _
  unfold M9 at h
  exact hR _ H _ _ I ⟨b1F,rfl,rfl,h⟩
 refine o5 fun j1 hx1=>?_
 refine b9T Tryz.underlying9 x0 I fun d i f j=>?_
 refine a0g (σ:=Int×Nat) (fun (b2T,a)=>[(vi b2T)]) (fun (b2T,a)=>[itf d x0 a]) h rfl f ?_
 rintro ⟨b2T,a⟩ H k w next2 n2 b I h hn2
 dsimp only at b I h
 simp only [List.map_cons,List.map_nil,List.cons.injEq,and_true] at b
 have e2:=b
 simp only [e2]
 unfold c0i
 unfold V4 at h
 refine c1K I (fun c l g m=>?_) (fun c=>?_)
 ·replace h:=h.1 c
  refine c5 (m5 _ _ (vB true) rfl) ?_
  refine a4E (fun e=>?_) (fun e=>by cases e)
  refine c5 pAd ?_
  exact hn2 ((IntKind.wrap .i64 (b2T+1)),(a+(Utf8.decode x0 a).2)) _ _ h g
 ·replace h:=h.2 c
  refine c5 (m5 _ _ (vB false) rfl) ?_
  refine a4E (fun e=>by cases e) (fun e=>?_)
  exact hx1 _ _ (hj1 b2T H _ I.drop h)
def a5p(H:Hp)(K:Bool→Hp→Prop):Prop:=
 K true H
def a2Y(b:ByteArray)(a:Nat)(H:Hp)(n2:Nat→Hp→Prop)(K:Bool→Hp→Prop):Prop:=
 (a < b.size→
 a5E ((Utf8.decode b a).1:Int) H (fun c d=>
 TG ((!(!c)&&(decide (((a:Nat):Int)=0)))=true) (a3M ((Utf8.decode b a).1:Int) d) 0 d (fun(e:Int)(f:Hp)=>
 (((!c)||((decide (((a:Nat):Int)=0))&&(!decide (e=3))))=true→
 K false f)∧
 (((!c)||((decide (((a:Nat):Int)=0))&&(!decide (e=3))))=false→
 n2 (a+(Utf8.decode b a).2) f))))∧
 (¬(a < b.size)→
 a5p H K)
def a6M(x0:ByteArray)(H:Hp)(K:Bool→Hp→Prop):Prop:=
 TG ((decide (x0=⟨#[]⟩))=false) (a5w x0 H) false H (fun(a:Bool)(c:Hp)=>
 TG (((decide (x0=⟨#[]⟩))||(!a))=false) (a6D x0 c) false c (fun(b:Bool)(d:Hp)=>
 TG ((((decide (x0=⟨#[]⟩))||(!a))||b)=false) (a6E x0 d) false d (fun(e:Bool)(f:Hp)=>
 (((((decide (x0=⟨#[]⟩))||(!a))||b)||e)=true→
 K false f)∧
 (((((decide (x0=⟨#[]⟩))||(!a))||b)||e)=false→
 TL (0:Nat) f fun(s:Nat) H n2=>a2Y x0 s H n2 K))))
theorem b3X(x0){H K}(h:a6M x0 H K):a4r x0 H K:=by
 refine Ct.of fun w0 w ps0 H0 R E I hR=>c5T ?_
 unfold a6M at h
 unfold c8E
 refine c5 (a2s _ _ _ _ _) ?_
 simp only [D4]
 refine N0 [] (fun d:Bool=>(vB d)) h I (fun r h=>?_) fun d s ai f t u h=>?_
 ·have a:=r
  simp only [f6 a]
  refine f9 Tryz.call130 h I ?_
  rintro _ s _ ai f u t ⟨d,rfl,rfl,h⟩
  exact ⟨d,s,rfl,f,t,u,h⟩
 refine c5 (Pu.g fun a=>by simp only [f6 a];with_reducible exact (J7 _)) ?_
 refine c5 (B8 _ _) ?_
 simp only [D4]
 refine N0 [] (fun i:Bool=>(vB i)) h f (fun v h=>?_) fun i y aj j z aa h=>?_
 ·have a:=v
  simp only [f6 a]
  refine f9 Tryz.call131 h f ?_
  rintro _ y _ aj j aa z ⟨i,rfl,rfl,h⟩
  exact ⟨i,y,rfl,j,z,aa,h⟩
 refine c5 (B8 _ _) ?_
 simp only [D4]
 refine N0 [] (fun k:Bool=>(vB k)) h j (fun ab h=>?_) fun k o ak l ac ad h=>?_
 ·have a:=ab
  simp only [f6 a]
  refine f9 Tryz.call132 h j ?_
  rintro _ o _ ak l ad ac ⟨k,rfl,rfl,h⟩
  exact ⟨k,o,rfl,l,ac,ad,h⟩
 refine c5 (B8 _ _) ?_
 refine m7 h (fun _ h=>?_) (fun _ h=>?_)
 ·exact hR _ o _ _ l ⟨false,rfl,rfl,h⟩
 ·have hj1:∀H w (_:Inv w0 ps0 H0 H [] w) (_:a5p H K),b5S w R E:=by
   intro H w I h
   unfold b5S
   intro _
   unfold a5p at h
   exact hR _ H _ _ I ⟨true,rfl,rfl,h⟩
  refine o5 fun j1 hx1=>?_
  refine b9T Tryz.underlying9 x0 l fun al aq am ar=>?_
  refine a0g (σ:=Nat) (fun c=>[]) (fun c=>[itf al x0 c]) h rfl am ?_
  rintro c H au w next2 n2 an I h hn2
  clear an
  unfold c0g
  unfold a2Y at h
  refine c1K I (fun p av ao aw=>?_) (fun p=>?_)
  ·replace h:=h.1 p
   refine c5 (m5 _ _ (vB true) rfl) ?_
   refine a4E (fun e=>?_) (fun e=>by cases e)
   refine c5 (m5 _ _ (vi ((c:Nat):Int)) rfl) (c5 (m5 _ _ (Value.int .i32 ((Utf8.decode x0 c).1:Int)) rfl) ?_)
   refine f9 Tryz.call133 h ao ?_
   rintro _ _ _ ax ae _ _ ⟨ay,rfl,rfl,h⟩
   refine c5 (J7 _) ?_
   simp only [D4]
   refine c5 (Pu.g fun a=>by simp only [f6 a];with_reducible exact pEq) ?_
   simp only [a6T,c1I]
   refine c9E (M8 _ _ _) ?_
   refine N0 [] (fun m:Int=>(vi m)) h ae (fun af h=>?_) fun m q ap n ag ah h=>?_
   ·obtain ⟨a,b⟩:=Z3 af
    simp only [f6 af]
    refine f9 Tryz.call134 h ae ?_
    rintro _ q _ ap n ah ag ⟨m,rfl,rfl,h⟩
    exact ⟨m,q,rfl,n,ag,ah,h⟩
   refine c5 (Pu.e (M8 _ _ _) (Pu.g fun hb=>by obtain ⟨a,b⟩:=Z3 hb;simp only [f6 hb];with_reducible exact pNe)) ?_
   refine c5 (Pu.g fun a=>by simp only [f6 a,a8p a];with_reducible exact (A4 _ _)) ?_
   refine c5 (B8 _ _) ?_
   refine m7 h (fun _ h=>?_) (fun _ h=>?_)
   ·exact hR _ q _ _ n.drop ⟨false,rfl,rfl,h⟩
   ·exact hn2 (c+(Utf8.decode x0 c).2) _ _ h n
  ·replace h:=h.2 p
   refine c5 (m5 _ _ (vB false) rfl) ?_
   refine a4E (fun e=>by cases e) (fun e=>?_)
   exact hx1 _ _ (hj1 H _ I.drop h)
def a5L(x0:A8)(H:Hp)(K:Int→Hp→Prop):Prop:=
 a6F x0 H (fun a b=>
 K a.fe b)
theorem b2A(x0){H K}(h:a5L x0 H K):a5F x0 H K:=by
 refine Ct.of fun w0 w ps0 H0 R E I hR=>c8h ?_
 unfold a5L at h
 unfold F92
 refine z6 I (cs:=(v8 x0)) rfl fun e f a g=>?_
 refine c7 (lW Tryz.isAgg25 Tryz.sizeOf25 rfl a) ?_
 refine f9 Tryz.call107 h a ?_
 rintro _ c _ i b _ _ ⟨d,j,rfl,rfl,h⟩
 refine c5 (r8 _) (c5 a6P (c7 (l1 Tryz.isAgg31 b rfl) ?_))
 exact hR _ c _ _ b.drop.drop ⟨d.fe,rfl,rfl,h⟩
def a6g(x0:j8)(H:Hp)(K:Int→Hp→Prop):Prop:=
 (0 < x0.E1→
 K 2 H)∧
 (¬(0 < x0.E1)→
 K 1 H)
theorem b2U(x0){H K}(h:a6g x0 H K):a8u x0 H K:=by
 refine Ct.of fun w0 w ps0 H0 R E I hR=>c7Z ?_
 unfold a6g at h
 unfold F65
 refine z6 I (cs:=(i5 x0)) rfl fun b c a d=>?_
 refine c5 a4g (c7 (l1 Tryz.isAgg3 a rfl) (c5 pGt ?_))
 refine d9 h (fun _ h=>?_) (fun _ h=>?_)
 ·exact hR _ H _ _ a.drop ⟨2,rfl,rfl,h⟩
 ·exact hR _ H _ _ a.drop ⟨1,rfl,rfl,h⟩
def a3Y(x0:T0)(H:Hp)(K:Bool→Hp→Prop):Prop:=
 K ((decide (0≤x0.Z4.E1))&&(decide (x0.Z4.E1≤2147483647))) H
theorem b0u(x0){H K}(h:a3Y x0 H K):a6B x0 H K:=by
 refine Ct.of fun w0 w ps0 H0 R E I hR=>c6c ?_
 unfold a3Y at h
 unfold c8N
 refine z6 I (cs:=(i5 x0.Z4)) rfl fun c d b e=>?_
 refine c5 b0O (c5 a4g (c7 (l1 Tryz.isAgg3 b rfl) (c5 pGe ?_)))
 refine c5 (Pu.g fun a=>by with_reducible exact b0O) ?_
 refine c5 (Pu.g fun a=>by simp only [f6 a];with_reducible exact a4g) ?_
 refine c7 (Ld.g fun a=>by simp only [f6 a];exact (l1 Tryz.isAgg3 b rfl)) ?_
 refine c5 (Pu.g fun a=>by simp only [f6 a];with_reducible exact pLe) ?_
 refine c5 (A4 _ _) ?_
 exact hR _ H _ _ b.drop ⟨((decide (0≤x0.Z4.E1))&&(decide (x0.Z4.E1≤2147483647))),rfl,rfl,h⟩
def M2(a9L:Bool)(c5k:Int)(b3H:Bool)(a:y4)(b:O9)(H:Hp)(K:Bool→Hp→Prop):Prop:=
 (b3H=true→
 K (a9L&&(decide (a.fexprs=0∧a.fconds=1))) H)∧
 (b3H=false→
 (c5k=7→
 K (a9L&&(decide (a.fexprs=0∧a.fconds=0))) H)∧
 (¬(c5k=7)→
 K false H))
def a3Z(x0:O9)(H:Hp)(K:Bool→Hp→Prop):Prop:=
 (x0.g9.d3=1→
 K ((!(decide (0 < (IntKind.wrap .i64 ((x0.g9.O7.n:Int)+(x0.g9.O8.n:Int))))))&&(decide ((x0.g9.m8.n:Int)=1∧(x0.g9.z7.n:Int)=0))) H)∧
 (¬(x0.g9.d3=1)→
 (x0.g9.d3=2→
 K ((!(decide (0 < (IntKind.wrap .i64 ((x0.g9.O7.n:Int)+(x0.g9.O8.n:Int))))))&&(decide ((x0.g9.m8.n:Int)=2∧(x0.g9.z7.n:Int)=0))) H)∧
 (¬(x0.g9.d3=2)→
 (x0.g9.d3=3→
 K ((decide (x0.g9.i7=⟨#[]⟩))&&(decide ((x0.g9.m8.n:Int)=0∧(x0.g9.z7.n:Int)=1))) H)∧
 (¬(x0.g9.d3=3)→
 (x0.g9.d3=4→
 K (((decide (x0.g9.i7=⟨#[]⟩))&&(decide ((x0.g9.O8.n:Int)=0)))&&(decide ((x0.g9.m8.n:Int)=0∧(x0.g9.z7.n:Int)=1))) H)∧
 (¬(x0.g9.d3=4)→
 (x0.g9.d3=5→
 M2 ((decide (x0.g9.i7=⟨#[]⟩))&&(!(decide (0 < (IntKind.wrap .i64 ((x0.g9.O7.n:Int)+(x0.g9.O8.n:Int))))))) x0.g9.d3 (decide (x0.g9.d3=5)) (y4.mk (x0.g9.m8.n:Int) (x0.g9.z7.n:Int)) x0 H K)∧
 (¬(x0.g9.d3=5)→
 M2 ((decide (x0.g9.i7=⟨#[]⟩))&&(!(decide (0 < (IntKind.wrap .i64 ((x0.g9.O7.n:Int)+(x0.g9.O8.n:Int))))))) x0.g9.d3 (decide (x0.g9.d3=6)) (y4.mk (x0.g9.m8.n:Int) (x0.g9.z7.n:Int)) x0 H K)))))
theorem b0v(x0){H K}(h:a3Z x0 H K):a3P x0 H K:=by
 refine Ct.of fun w0 w ps0 H0 R E I hR=>c6e ?_
 unfold a3Z at h
 unfold c8P
 refine z6 I (cs:=(u4 x0.g9)) rfl fun e i c j=>?_
 refine c5 L2 (c5 a4T (c7 (l1 Tryz.isAgg23 c rfl) (c5 (a2Z _ _ _) (c5 L2 ?_))))
 refine c5 a6p (c7 (l1 Tryz.isAgg23 c rfl) (c5 (a2Z _ _ _) (c5 pAd (c5 pGt ?_))))
 refine c5 L2 (c5 a7n (c7 (l1 Tryz.isAgg57 c rfl) (c5 (a4Q _ _ _) (c5 L2 ?_))))
 refine c5 a4U (c7 (l1 Tryz.isAgg58 c rfl) (c5 (a8q _ _ _) (c5 (a3g _ _) ?_)))
 refine r5 c Tryz.zeroValue230 (cs:=[(vi 0),(vi 0)]) rfl fun d k f l=>?_
 refine u1 f Tryz.sizeOf230 (vs:=[(vi (x0.g9.m8.n:Int)),(vi (x0.g9.z7.n:Int))]) fun m b p=>?_
 refine c5 L2 (c5 a4e (c7 (l1 Tryz.isAgg9 (b.bring 1) rfl) (c5 (a2s _ _ _ _ _) ?_)))
 simp only [D4]
 refine c5 (Pu.g fun a=>by simp only [f6 a];with_reducible exact (J7 _)) ?_
 refine c5 (A4 _ _) (c5 L2 (c5 a7m (c7 (l1 Tryz.isAgg3 (b.bring 1) rfl) (c5 pEq ?_))))
 refine d9 h (fun _ h=>?_) (fun _ h=>?_)
 ·refine c5 (J7 _) ?_
  refine c7 (Ld.g fun a=>by exact (ldA Tryz.isAgg230 Tryz.sizeOf230 rfl (b.at1 (o:=0) (vs:=[(vi (x0.g9.m8.n:Int)),(vi (x0.g9.z7.n:Int))]) (nb rfl) rfl))) ?_
  refine c5 (Pu.g fun a=>by with_reducible exact (a3g _ _)) ?_
  refine c5 (Pu.g fun a=>by simp only [f6 a];with_reducible exact (a7g _ _ _ _ _ _)) ?_
  refine c5 (A4 _ _) ?_
  exact hR _ H _ _ b.drop.drop ⟨((!(decide (0 < (IntKind.wrap .i64 ((x0.g9.O7.n:Int)+(x0.g9.O8.n:Int))))))&&(decide ((x0.g9.m8.n:Int)=1∧(x0.g9.z7.n:Int)=0))),rfl,rfl,h⟩
 ·refine c5 pEq ?_
  refine d9 h (fun _ h=>?_) (fun _ h=>?_)
  ·refine c5 (J7 _) ?_
   refine c7 (Ld.g fun a=>by exact (ldA Tryz.isAgg230 Tryz.sizeOf230 rfl (b.at1 (o:=0) (vs:=[(vi (x0.g9.m8.n:Int)),(vi (x0.g9.z7.n:Int))]) (nb rfl) rfl))) ?_
   refine c5 (Pu.g fun a=>by with_reducible exact (a3g _ _)) ?_
   refine c5 (Pu.g fun a=>by simp only [f6 a];with_reducible exact (a7g _ _ _ _ _ _)) ?_
   refine c5 (A4 _ _) ?_
   exact hR _ H _ _ b.drop.drop ⟨((!(decide (0 < (IntKind.wrap .i64 ((x0.g9.O7.n:Int)+(x0.g9.O8.n:Int))))))&&(decide ((x0.g9.m8.n:Int)=2∧(x0.g9.z7.n:Int)=0))),rfl,rfl,h⟩
  ·refine c5 pEq ?_
   refine d9 h (fun _ h=>?_) (fun _ h=>?_)
   ·refine c5 L2 (c5 a4e (c7 (l1 Tryz.isAgg9 (b.bring 1) rfl) (c5 (a2s _ _ _ _ _) ?_)))
    refine c7 (Ld.g fun a=>by exact (ldA Tryz.isAgg230 Tryz.sizeOf230 rfl (b.at1 (o:=0) (vs:=[(vi (x0.g9.m8.n:Int)),(vi (x0.g9.z7.n:Int))]) (nb rfl) rfl))) ?_
    refine c5 (Pu.g fun a=>by with_reducible exact (a3g _ _)) ?_
    refine c5 (Pu.g fun a=>by simp only [f6 a];with_reducible exact (a7g _ _ _ _ _ _)) ?_
    refine c5 (A4 _ _) ?_
    exact hR _ H _ _ b.drop.drop ⟨((decide (x0.g9.i7=⟨#[]⟩))&&(decide ((x0.g9.m8.n:Int)=0∧(x0.g9.z7.n:Int)=1))),rfl,rfl,h⟩
   ·refine c5 pEq ?_
    refine d9 h (fun _ h=>?_) (fun _ h=>?_)
    ·refine c5 L2 (c5 a4e (c7 (l1 Tryz.isAgg9 (b.bring 1) rfl) (c5 (a2s _ _ _ _ _) ?_)))
     refine c5 (Pu.g fun a=>by with_reducible exact L2) ?_
     refine c5 (Pu.g fun a=>by simp only [f6 a];with_reducible exact a6p) ?_
     refine c7 (Ld.g fun a=>by simp only [f6 a];exact (l1 Tryz.isAgg23 (b.bring 1) rfl)) ?_
     refine c5 (Pu.g fun a=>by simp only [f6 a];with_reducible exact (a2Z _ _ _)) ?_
     refine c5 (Pu.g fun a=>by simp only [f6 a];with_reducible exact pEq) ?_
     refine c5 (A4 _ _) ?_
     refine c7 (Ld.g fun a=>by exact (ldA Tryz.isAgg230 Tryz.sizeOf230 rfl (b.at1 (o:=0) (vs:=[(vi (x0.g9.m8.n:Int)),(vi (x0.g9.z7.n:Int))]) (nb rfl) rfl))) ?_
     refine c5 (Pu.g fun a=>by with_reducible exact (a3g _ _)) ?_
     refine c5 (Pu.g fun a=>by simp only [f6 a];with_reducible exact (a7g _ _ _ _ _ _)) ?_
     refine c5 (A4 _ _) ?_
     exact hR _ H _ _ b.drop.drop ⟨(((decide (x0.g9.i7=⟨#[]⟩))&&(decide ((x0.g9.O8.n:Int)=0)))&&(decide ((x0.g9.m8.n:Int)=0∧(x0.g9.z7.n:Int)=1))),rfl,rfl,h⟩
    ·have hj1:∀(b3H:Bool) H w (_:Inv w0 ps0 H0 H [bx d 230 [(vi (y4.mk (x0.g9.m8.n:Int) (x0.g9.z7.n:Int)).fexprs),(vi (y4.mk (x0.g9.m8.n:Int) (x0.g9.z7.n:Int)).fconds)],bx e 197 (u4 x0.g9)] w) (_:M2 ((decide (x0.g9.i7=⟨#[]⟩))&&(!(decide (0 < (IntKind.wrap .i64 ((x0.g9.O7.n:Int)+(x0.g9.O8.n:Int))))))) x0.g9.d3 b3H (y4.mk (x0.g9.m8.n:Int) (x0.g9.z7.n:Int)) x0 H K),b6a (Value.pointer (some ⟨d,0,none⟩)) (vB ((decide (x0.g9.i7=⟨#[]⟩))&&(!(decide (0 < (IntKind.wrap .i64 ((x0.g9.O7.n:Int)+(x0.g9.O8.n:Int)))))))) (vi x0.g9.d3) (vB b3H) w R E:=by
      intro b3H H w I h
      unfold b6a
      intro _
      unfold M2 at h
      refine m7 h (fun _ h=>?_) (fun _ h=>?_)
      ·refine c7 (Ld.g fun a=>by exact (ldA Tryz.isAgg230 Tryz.sizeOf230 rfl (I.at1 (o:=0) (vs:=[(vi (y4.mk (x0.g9.m8.n:Int) (x0.g9.z7.n:Int)).fexprs),(vi (y4.mk (x0.g9.m8.n:Int) (x0.g9.z7.n:Int)).fconds)]) (nb rfl) rfl))) ?_
       refine c5 (Pu.g fun a=>by with_reducible exact (a3g _ _)) ?_
       refine c5 (Pu.g fun a=>by simp only [f6 a];with_reducible exact (a7g _ _ _ _ _ _)) ?_
       refine c5 (A4 _ _) ?_
       exact hR _ H _ _ I.drop.drop ⟨(((decide (x0.g9.i7=⟨#[]⟩))&&(!(decide (0 < (IntKind.wrap .i64 ((x0.g9.O7.n:Int)+(x0.g9.O8.n:Int)))))))&&(decide ((y4.mk (x0.g9.m8.n:Int) (x0.g9.z7.n:Int)).fexprs=0∧(y4.mk (x0.g9.m8.n:Int) (x0.g9.z7.n:Int)).fconds=1))),rfl,rfl,h⟩
      ·refine c5 pEq ?_
       refine d9 h (fun _ h=>?_) (fun _ h=>?_)
       ·refine c7 (Ld.g fun a=>by exact (ldA Tryz.isAgg230 Tryz.sizeOf230 rfl (I.at1 (o:=0) (vs:=[(vi (y4.mk (x0.g9.m8.n:Int) (x0.g9.z7.n:Int)).fexprs),(vi (y4.mk (x0.g9.m8.n:Int) (x0.g9.z7.n:Int)).fconds)]) (nb rfl) rfl))) ?_
        refine c5 (Pu.g fun a=>by with_reducible exact (c0H)) ?_
        refine c5 (Pu.g fun a=>by simp only [f6 a];with_reducible exact (a7g _ _ _ _ _ _)) ?_
        refine c5 (A4 _ _) ?_
        exact hR _ H _ _ I.drop.drop ⟨(((decide (x0.g9.i7=⟨#[]⟩))&&(!(decide (0 < (IntKind.wrap .i64 ((x0.g9.O7.n:Int)+(x0.g9.O8.n:Int)))))))&&(decide ((y4.mk (x0.g9.m8.n:Int) (x0.g9.z7.n:Int)).fexprs=0∧(y4.mk (x0.g9.m8.n:Int) (x0.g9.z7.n:Int)).fconds=0))),rfl,rfl,h⟩
       ·exact hR _ H _ _ I.drop.drop ⟨false,rfl,rfl,h⟩
     refine o5 fun j1 hx1=>?_
     refine c5 pEq ?_
     refine d9 h (fun _ h=>?_) (fun _ h=>?_)
     ·exact hx1 _ _ (hj1 (decide (x0.g9.d3=5)) H _ ((b.bring 1).bring 1) h)
     ·refine c5 pEq ?_
      exact hx1 _ _ (hj1 (decide (x0.g9.d3=6)) H _ ((b.bring 1).bring 1) h)
def B3(L0:(List d7))(H:Hp)(K:Sl→Hp→Prop):Prop:=
 ∀(C4:Sl)(a:Hp),Hle H a→SlH a 1 t6 C4 L0→C4.n≤C4.c→
 K C4 a
def B4(a2G:Sl)(a3v:Int)(t8:(List d7))(u7:Int)(H:Hp)(n2:((List d7)×Int)→Hp→Prop)(K:Sl→Hp→Prop):Prop:=
 (u7 < a3v→
 (0:Int)≤u7∧(u7:Int) < a2G.n∧∃a:v2,EltH H a2G u7 4 (o8 a)∧
 a7t a H (fun b c=>
 (t8.length+([b]:List d7).length)*17≤140737488355328∧
 n2 ((t8++[b]),(IntKind.wrap .i64 (u7+1))) c))∧
 (¬(u7 < a3v)→
 B3 t8 H K)
def F7(x0:Sl)(H:Hp)(K:Sl→Hp→Prop):Prop:=
 TL (([],0):(List d7)×Int) H fun(s:(List d7)×Int) H n2=>B4 x0 (x0.n:Int) s.1 s.2 H n2 K
theorem a0P(x0){H K}(h:F7 x0 H K):C2 x0 H K:=by
 refine Ct.of fun w0 w ps0 H0 R E I hR=>c6g ?_
 unfold F7 at h
 unfold c8R
 have hj1:∀(L0:(List d7))(C4:Sl)(Fs5j1:Frag) H w (_:RowL 182 1 t6 C4 L0 Fs5j1) (_:Inv w0 ps0 H0 H [Fs5j1] w) (_:B3 L0 H K),b6b (vs C4) w R E:=by
  intro L0 C4 Fs5j1 H w a4t I h
  unfold b6b
  intro _
  unfold B3 at h
  obtain ⟨j,q,r,t,u⟩:=Inv.freezeC I a4t (by decide)
  replace h:=h C4 j r t u
  exact hR _ j _ _ q ⟨C4,rfl,rfl,h⟩
 refine o5 fun j1 hx1=>?_
 refine c5 (a8q _ _ _) ?_
 obtain ⟨f,d,v,y⟩:=h
 refine C1 (J:=fun n l w=>∃(s:(List d7)×Int)(H:Hp)(P6:Sl)(Fs5l2:Frag),n=d s∧l=(match s with | (t8,u7)=>[(vs P6),(vi u7)])∧(match s with | (t8,u7)=>RowL 182 1 t6 P6 t8 Fs5l2)∧(match s with | (t8,u7)=>Inv w0 ps0 H0 H [Fs5l2] w)∧f s H) ⟨_,([],0),H,(Sl.mk none 0 0),[],rfl,rfl,(RowL.nil N5 Q1),I.nil,v⟩ ?_
 rintro am an w next2 ⟨⟨t8,u7⟩,H,P6,Fs5l2,rfl,g,a1B,I,z⟩ hn2
 dsimp only at g I a1B
 simp only [List.map_cons,List.map_nil,List.cons.injEq,and_true] at g
 obtain ⟨e5,e10⟩:=g
 simp only [e5,e10]
 obtain ⟨n2,hm2,h⟩:∃n2:((List d7)×Int)→Hp→Prop,(∀s' H',n2 s' H'→f s' H'∧d s' < d (t8,u7))∧B4 x0 (x0.n:Int) t8 u7 H n2 K:=⟨_,fun _ _ h=>h,y (t8,u7) H (fun s' H'=>f s' H'∧d s' < d (t8,u7)) z (fun _ _ a b=>⟨a,b⟩)⟩
 unfold c0j
 unfold B4 at h
 refine c5 pLs ?_
 refine d9 h (fun _ h=>?_) (fun _ h=>?_)
 ·obtain ⟨aa,ab,k,i,h⟩:=h
  obtain ⟨ao,ap,ac,i⟩:=i
  refine c5 (a1V ac _ _ _ _ aa ab) (c7 (ldA (vs:=(o8 k)) Tryz.isAgg131 Tryz.sizeOf131 rfl (I.atH i)) ?_)
  refine r5 I Tryz.zeroValue131 (cs:=[(vi 0),(vi 0),(nS),(nS)]) rfl fun aq ar ad au=>?_
  refine u1 ad Tryz.sizeOf131 (vs:=(o8 k)) fun av m aw=>?_
  refine c7 (lW Tryz.isAgg131 Tryz.sizeOf131 rfl m) ?_
  refine f9 Tryz.call160 h m ?_
  rintro _ ae _ ax af _ _ ⟨o,rfl,rfl,h⟩
  refine X9 (e:=182) (c:=t6) (xs:=[o]) af (b1E _) rfl rfl N5 Q1 (nb rfl) fun ay az ba ag p bb=>?_
  obtain ⟨ah,h⟩:=h
  refine b1a (s:=P6) (xs:=t8) (p.bring 2) a1B (ag.srcO ((p.bring 2).bring 1)) ah fun ai aj bc ak al bd=>?_
  refine c5 pAd ?_
  exact hn2 _ _ _ (hm2 _ _ h).2 ⟨((t8++[o]),(IntKind.wrap .i64 (u7+1))),ae,ai,aj,rfl,rfl,ak,((al.bring 1).drop.bring 1).drop,(hm2 _ _ h).1⟩
 ·exact hx1 _ _ (hj1 t8 P6 Fs5l2 H _ a1B I h)
def B5(L0:(List d7))(H:Hp)(K:Sl→Hp→Prop):Prop:=
 ∀(C4:Sl)(a:Hp),Hle H a→SlH a 1 t6 C4 L0→C4.n≤C4.c→
 K C4 a
def B6(a2G:Sl)(a3v:Int)(t8:(List d7))(u7:Int)(H:Hp)(n2:((List d7)×Int)→Hp→Prop)(K:Sl→Hp→Prop):Prop:=
 (u7 < a3v→
 (0:Int)≤u7∧(u7:Int) < a2G.n∧∃a:q8,EltH H a2G u7 4 (m6 a)∧
 a7u a H (fun b c=>
 (t8.length+([b]:List d7).length)*17≤140737488355328∧
 n2 ((t8++[b]),(IntKind.wrap .i64 (u7+1))) c))∧
 (¬(u7 < a3v)→
 B5 t8 H K)
def G3(x0:Sl)(H:Hp)(K:Sl→Hp→Prop):Prop:=
 TL (([],0):(List d7)×Int) H fun(s:(List d7)×Int) H n2=>B6 x0 (x0.n:Int) s.1 s.2 H n2 K
theorem a0Q(x0){H K}(h:G3 x0 H K):y6 x0 H K:=by
 refine Ct.of fun w0 w ps0 H0 R E I hR=>c6i ?_
 unfold G3 at h
 unfold c8T
 have hj1:∀(L0:(List d7))(C4:Sl)(Fs5j1:Frag) H w (_:RowL 182 1 t6 C4 L0 Fs5j1) (_:Inv w0 ps0 H0 H [Fs5j1] w) (_:B5 L0 H K),b6c (vs C4) w R E:=by
  intro L0 C4 Fs5j1 H w a4t I h
  unfold b6c
  intro _
  unfold B5 at h
  obtain ⟨j,q,r,t,u⟩:=Inv.freezeC I a4t (by decide)
  replace h:=h C4 j r t u
  exact hR _ j _ _ q ⟨C4,rfl,rfl,h⟩
 refine o5 fun j1 hx1=>?_
 refine c5 (a4Q _ _ _) ?_
 obtain ⟨f,d,v,y⟩:=h
 refine C1 (J:=fun n l w=>∃(s:(List d7)×Int)(H:Hp)(P6:Sl)(Fs5l2:Frag),n=d s∧l=(match s with | (t8,u7)=>[(vs P6),(vi u7)])∧(match s with | (t8,u7)=>RowL 182 1 t6 P6 t8 Fs5l2)∧(match s with | (t8,u7)=>Inv w0 ps0 H0 H [Fs5l2] w)∧f s H) ⟨_,([],0),H,(Sl.mk none 0 0),[],rfl,rfl,(RowL.nil N5 Q1),I.nil,v⟩ ?_
 rintro am an w next2 ⟨⟨t8,u7⟩,H,P6,Fs5l2,rfl,g,a1B,I,z⟩ hn2
 dsimp only at g I a1B
 simp only [List.map_cons,List.map_nil,List.cons.injEq,and_true] at g
 obtain ⟨e5,e10⟩:=g
 simp only [e5,e10]
 obtain ⟨n2,hm2,h⟩:∃n2:((List d7)×Int)→Hp→Prop,(∀s' H',n2 s' H'→f s' H'∧d s' < d (t8,u7))∧B6 x0 (x0.n:Int) t8 u7 H n2 K:=⟨_,fun _ _ h=>h,y (t8,u7) H (fun s' H'=>f s' H'∧d s' < d (t8,u7)) z (fun _ _ a b=>⟨a,b⟩)⟩
 unfold c0k
 unfold B6 at h
 refine c5 pLs ?_
 refine d9 h (fun _ h=>?_) (fun _ h=>?_)
 ·obtain ⟨aa,ab,k,i,h⟩:=h
  obtain ⟨ao,ap,ac,i⟩:=i
  refine c5 (a4m ac _ _ _ _ aa ab) (c7 (ldA (vs:=(m6 k)) Tryz.isAgg123 Tryz.sizeOf123 rfl (I.atH i)) ?_)
  refine r5 I Tryz.zeroValue123 (cs:=[(vi 0),(vi 0),(eS),(nS)]) rfl fun aq ar ad au=>?_
  refine u1 ad Tryz.sizeOf123 (vs:=(m6 k)) fun av m aw=>?_
  refine c7 (lW Tryz.isAgg123 Tryz.sizeOf123 rfl m) ?_
  refine f9 Tryz.call162 h m ?_
  rintro _ ae _ ax af _ _ ⟨o,rfl,rfl,h⟩
  refine X9 (e:=182) (c:=t6) (xs:=[o]) af (b1E _) rfl rfl N5 Q1 (nb rfl) fun ay az ba ag p bb=>?_
  obtain ⟨ah,h⟩:=h
  refine b1a (s:=P6) (xs:=t8) (p.bring 2) a1B (ag.srcO ((p.bring 2).bring 1)) ah fun ai aj bc ak al bd=>?_
  refine c5 pAd ?_
  exact hn2 _ _ _ (hm2 _ _ h).2 ⟨((t8++[o]),(IntKind.wrap .i64 (u7+1))),ae,ai,aj,rfl,rfl,ak,((al.bring 1).drop.bring 1).drop,(hm2 _ _ h).1⟩
 ·exact hx1 _ _ (hj1 t8 P6 Fs5l2 H _ a1B I h)
end Go.Proofs.YtaokfhdinhimfaaGreatDoor
