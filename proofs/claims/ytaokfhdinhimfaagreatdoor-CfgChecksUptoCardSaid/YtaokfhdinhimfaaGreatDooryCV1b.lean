/- Typed formulas of the program's functions, and the theorems that the contracts follow from them; printed by lift.py off the code. -/
import Derived.Test.YtaokfhdinhimfaaGreatDooryCV1
namespace Go.Proofs.YtaokfhdinhimfaaGreatDoor
open Go.RowKit
set_option maxRecDepth 100000
set_option maxHeartbeats 2000000
def K6(b3s:(List Bool))(d1x:(List Int))(d1m:Int)(a:d4)(H:Hp)(n6:((List Bool)×Int)→Hp→Prop)(K:Sl→Hp→Prop):Prop:=
 n6 (b3s,(IntKind.wrap .i64 (d1m+1))) H
def K7(d1y:(List Bool))(b3t:(List Int))(c9b:Int)(a:d4)(H:Hp)(n4:((List Int)×Int)→Hp→Prop)(K:Sl→Hp→Prop):Prop:=
 n4 (b3t,(IntKind.wrap .i64 (c9b+1))) H
def T3(b4U:(List Int))(b:d4)(H:Hp)(K:Sl→Hp→Prop):Prop:=
 ∀(a8l:Sl)(a:Hp),Hle H a→SlH a 1 o3 a8l b4U→a8l.n≤a8l.c→
 K a8l a
def T4(c0T:(List Bool))(a:d4)(a4i:(List Int))(a1q:Int)(H:Hp)(n4:((List Int)×Int)→Hp→Prop)(K:Sl→Hp→Prop):Prop:=
 (a1q < a.c6→
 (0:Int)≤a1q∧∃b:Bool,(c0T)[(a1q:Int).toNat]? = some b∧
 (b=true→
 (a4i.length+([a1q]:List Int).length)*9≤140737488355328∧
 K7 c0T (a4i++[a1q]) a1q a H n4 K)∧
 (b=false→
 K7 c0T a4i a1q a H n4 K))∧
 (¬(a1q < a.c6)→
 T3 a4i a H K)
def T5(b1M:(List Bool))(a:d4)(H:Hp)(K:Sl→Hp→Prop):Prop:=
 TL (([],0):(List Int)×Int) H fun(s:(List Int)×Int) H n4=>T4 b1M a s.1 s.2 H n4 K
def T6(b7a:(List Int))(b:d4)(a4u:(List Bool))(a5c:Int)(H:Hp)(n6:((List Bool)×Int)→Hp→Prop)(K:Sl→Hp→Prop):Prop:=
 (a5c < (b.m4.n:Int)→
 (0:Int)≤a5c∧(a5c:Int) < b.m4.n∧∃a:c8,EltH H b.m4 a5c 10 (f7 a)∧
 (0:Int)≤a.o4∧∃c:Int,(b7a)[(a.o4:Int).toNat]? = some c∧
 (0:Int)≤a.fTo∧∃d:Int,(b7a)[(a.fTo:Int).toNat]? = some d∧
 (d≤c→
 (0:Int)≤a.fTo∧∃e:Bool,(a4u)[(a.fTo:Int).toNat]? = some e∧
 K6 (a4u.set (a.fTo:Int).toNat true) b7a a5c b H n6 K)∧
 (¬(d≤c)→
 K6 a4u b7a a5c b H n6 K))∧
 (¬(a5c < (b.m4.n:Int))→
 T5 a4u b H K)
def T7(b1N:(List Bool))(L0:(List Int))(a:d4)(H:Hp)(K:Sl→Hp→Prop):Prop:=
 TL ((b1N,0):(List Bool)×Int) H fun(s:(List Bool)×Int) H n6=>T6 L0 a s.1 s.2 H n6 K
def T8(c9Q:(List Bool))(c0U:Sl)(b:d4)(a5M:(List Int))(a5d:Int)(H:Hp)(n8:((List Int)×Int)→Hp→Prop)(K:Sl→Hp→Prop):Prop:=
 (a5d < (c0U.n:Int)→
 (0:Int)≤a5d∧(a5d:Int) < c0U.n∧∃a:Int,EltH H c0U a5d 1 [(vi a)]∧
 (0:Int)≤a∧∃c:Int,(a5M)[(a:Int).toNat]? = some c∧
 n8 ((a5M.set (a:Int).toNat a5d),(IntKind.wrap .i64 (a5d+1))) H)∧
 (¬(a5d < (c0U.n:Int))→
 T7 c9Q a5M b H K)
def a2H(x0:d4)(H:Hp)(K:Sl→Hp→Prop):Prop:=
 (0:Int)≤x0.c6∧x0.c6*2≤140737488355328∧
 Z5 x0 H (fun a b=>
 (0:Int)≤x0.c6∧x0.c6*9≤140737488355328∧
 TL (((List.replicate (x0.c6:Int).toNat 0),0):(List Int)×Int) b fun(s:(List Int)×Int) H n8=>T8 (List.replicate (x0.c6:Int).toNat false) a x0 s.1 s.2 H n8 K)
theorem a9i(x0){H K}(h:a2H x0 H K):a2v x0 H K:=by
 refine Ct.of fun w0 w ps0 H0 R E I hR=>c7q ?_
 unfold a2H at h
 unfold F19
 refine z6 I (cs:=(d8 x0)) rfl fun d cv al cw=>?_
 refine c5 v7 (c7 (l1 Tryz.isAgg3 al rfl) ?_)
 obtain ⟨bd,be,h⟩:=h
 refine b0Z al bd be fun g r cx bf am cy=>?_
 refine c7 (lW Tryz.isAgg30 Tryz.sizeOf30 rfl (am.bring 1)) ?_
 refine f9 Tryz.call20 h am ?_
 rintro _ bg _ cz an _ _ ⟨bh,rfl,rfl,h⟩
 refine c5 v7 (c7 (l1 Tryz.isAgg3 (an.bring 1) rfl) ?_)
 obtain ⟨bi,bj,h⟩:=h
 refine c1T an bi bj fun p bk da bl bm db=>?_
 have hj1:∀(L0:(List Int))(Fs5j1:Frag) H w (_:RowL 3 1 o3 p L0 Fs5j1) (_:Inv w0 ps0 H0 H [bx d 30 (d8 x0),r,Fs5j1] w) (_:T7 (List.replicate (x0.c6:Int).toNat false) L0 x0 H K),b8k (Value.pointer (some ⟨d,0,none⟩)) (vs g) (vs p) w R E:=by
  intro L0 Fs5j1 H w a4t I h
  unfold b8k
  intro _
  unfold T7 at h
  have hj2:∀(b1M:(List Bool))(Fs3j2:Frag) H w (_:RowL 4 1 E5 g b1M Fs3j2) (_:Inv w0 ps0 H0 H [bx d 30 (d8 x0),Fs3j2] w) (_:T5 b1M x0 H K),b8i (Value.pointer (some ⟨d,0,none⟩)) (vs g) w R E:=by
   intro b1M Fs3j2 H w c0V I h
   unfold b8i
   intro _
   unfold T5 at h
   have hj3:∀(b4U:(List Int))(a8l:Sl)(Fs8j3:Frag) H w (_:RowL 3 1 o3 a8l b4U Fs8j3) (_:Inv w0 ps0 H0 H [bx d 30 (d8 x0),Fs8j3] w) (_:T3 b4U x0 H K),b8g (vs a8l) w R E:=by
    intro b4U a8l Fs8j3 H w c9R I h
    unfold b8g
    intro _
    unfold T3 at h
    obtain ⟨ao,bn,bo,bp,bq⟩:=Inv.freezeC (I.bring 1) c9R (by decide)
    replace h:=h a8l ao bo bp bq
    exact hR _ ao _ _ bn.drop ⟨a8l,rfl,rfl,h⟩
   refine o5 fun j3 hx3=>?_
   obtain ⟨t,i,br,bs⟩:=h
   refine C1 (J:=fun n l w=>∃(s:(List Int)×Int)(H:Hp)(b3u:Sl)(Fs8l4:Frag),n=i s∧l=(match s with | (a4i,a1q)=>[(vs b3u),(vi a1q)])∧(match s with | (a4i,a1q)=>RowL 3 1 o3 b3u a4i Fs8l4)∧(match s with | (a4i,a1q)=>Inv w0 ps0 H0 H [bx d 30 (d8 x0),Fs3j2,Fs8l4] w)∧t s H) ⟨_,([],0),H,(Sl.mk none 0 0),[],rfl,rfl,(RowL.nil G6 G7),((I.nil.bring 2).bring 2),br⟩ ?_
   rintro dc dd w next4 ⟨⟨a4i,a1q⟩,H,b3u,Fs8l4,rfl,u,b7b,I,bt⟩ hn4
   dsimp only at u I b7b
   simp only [List.map_cons,List.map_nil,List.cons.injEq,and_true] at u
   obtain ⟨e8,e9⟩:=u
   simp only [e8,e9]
   obtain ⟨n4,hm4,h⟩:∃n4:((List Int)×Int)→Hp→Prop,(∀s' H',n4 s' H'→t s' H'∧i s' < i (a4i,a1q))∧T4 b1M x0 a4i a1q H n4 K:=⟨_,fun _ _ h=>h,bs (a4i,a1q) H (fun s' H'=>t s' H'∧i s' < i (a4i,a1q)) bt (fun _ _ a b=>⟨a,b⟩)⟩
   unfold c2g
   unfold T4 at h
   refine c5 v7 (c7 (l1 Tryz.isAgg3 I rfl) (c5 pLs ?_))
   refine d9 h (fun _ h=>?_) (fun _ h=>?_)
   ·have hj5:∀(b3t:(List Int))(b7c:Sl)(Fs8j5:Frag) H w (_:RowL 3 1 o3 b7c b3t Fs8j5) (_:Inv w0 ps0 H0 H [bx d 30 (d8 x0),Fs3j2,Fs8j5] w) (_:K7 b1M b3t a1q x0 H n4 K),b8h (Value.pointer (some ⟨d,0,none⟩)) (vs g) (vs b7c) (vi a1q) w next4 R E:=by
     intro b3t b7c Fs8j5 H w c9S I h
     unfold b8h
     intro _
     unfold K7 at h
     refine c5 pAd ?_
     exact hn4 _ _ _ (hm4 _ _ h).2 ⟨(b3t,(IntKind.wrap .i64 (a1q+1))),H,b7c,Fs8j5,rfl,rfl,c9S,(((I.bring 2).bring 2).bring 2),(hm4 _ _ h).1⟩
    refine o5 fun j5 hx5=>?_
    obtain ⟨ap,bu,y,h⟩:=h
    obtain ⟨de,df,aq,dg⟩:=c0V.addr y
    refine c5 (Y0 aq _ _ _ _ ap (c0V.lt ap y)) (c7 (ld1 (v:=(vB bu)) Tryz.isAgg4 (c0V.atW (I.bring 1) aq y)) ?_)
    refine m7 h (fun _ h=>?_) (fun _ h=>?_)
    ·refine X9 (e:=3) (c:=o3) (xs:=[a1q]) I (a1z _) rfl rfl G6 G7 (nb rfl) fun dh di dj bv ar dk=>?_
     obtain ⟨bw,h⟩:=h
     refine a4G (s:=b3u) (xs:=a4i) (ar.bring 3) b7b (bv.srcO ((ar.bring 3).bring 1)) bw fun bz ca dl cb cc dm=>?_
     exact hx5 _ _ (hj5 (a4i++[a1q]) bz ca H _ cb (((cc.bring 1).drop.bring 2).bring 2) h)
    ·exact hx5 _ _ (hj5 a4i b3u Fs8l4 H _ b7b (((I.bring 2).bring 2).bring 2) h)
   ·exact hx3 _ _ (hj3 a4i b3u Fs8l4 H _ b7b (((I.bring 1).drop.bring 1).bring 1) h)
  refine o5 fun j2 hx2=>?_
  obtain ⟨z,j,cd,ce⟩:=h
  refine C1 (J:=fun n l w=>∃(s:(List Bool)×Int)(H:Hp)(Fs3l6:Frag),n=j s∧l=(match s with | (a4u,a5c)=>[(vi a5c)])∧(match s with | (a4u,a5c)=>RowL 4 1 E5 g a4u Fs3l6)∧(match s with | (a4u,a5c)=>Inv w0 ps0 H0 H [bx d 30 (d8 x0),Fs5j1,Fs3l6] w)∧z s H) ⟨_,((List.replicate (x0.c6:Int).toNat false),0),H,r,rfl,rfl,bf,(((I.bring 1).bring 2).bring 2),cd⟩ ?_
  rintro dn dp w next6 ⟨⟨a4u,a5c⟩,H,Fs3l6,rfl,aa,b3v,I,cf⟩ hn6
  dsimp only at aa I b3v
  simp only [List.map_cons,List.map_nil,List.cons.injEq,and_true] at aa
  have e7:=aa
  simp only [e7]
  obtain ⟨n6,hm6,h⟩:∃n6:((List Bool)×Int)→Hp→Prop,(∀s' H',n6 s' H'→z s' H'∧j s' < j (a4u,a5c))∧T6 L0 x0 a4u a5c H n6 K:=⟨_,fun _ _ h=>h,ce (a4u,a5c) H (fun s' H'=>z s' H'∧j s' < j (a4u,a5c)) cf (fun _ _ a b=>⟨a,b⟩)⟩
  unfold c2h
  unfold T6 at h
  refine c5 y3 (c7 (l1 Tryz.isAgg28 I rfl) (c5 (V8 _ _ _) (c5 pLs ?_)))
  refine d9 h (fun _ h=>?_) (fun _ h=>?_)
  ·have hj7:∀(b3s:(List Bool))(Fs3j7:Frag) H w (_:RowL 4 1 E5 g b3s Fs3j7) (_:Inv w0 ps0 H0 H [bx d 30 (d8 x0),Fs5j1,Fs3j7] w) (_:K6 b3s L0 a5c x0 H n6 K),b8j (Value.pointer (some ⟨d,0,none⟩)) (vs g) (vs p) (vi a5c) w next6 R E:=by
    intro b3s Fs3j7 H w c9T I h
    unfold b8j
    intro _
    unfold K6 at h
    refine c5 pAd ?_
    exact hn6 _ _ _ (hm6 _ _ h).2 ⟨(b3s,(IntKind.wrap .i64 (a5c+1))),H,Fs3j7,rfl,rfl,c9T,(((I.bring 2).bring 2).bring 2),(hm6 _ _ h).1⟩
   refine o5 fun j7 hx7=>?_
   refine I0 I fun dq f=>?_
   refine d5 y3 ?_
   refine d5 y3 ?_
   refine j9 (l1 Tryz.isAgg28 f rfl) ?_
   obtain ⟨ab,ac,q,m,h⟩:=h
   obtain ⟨dr,ds,ad,m⟩:=m
   refine d5 (M4 ad _ _ _ _ ab ac) ?_
   refine d5 K2 ?_
   refine j9 (ld1 (v:=(vi q.o4)) Tryz.isAgg3 ((f.atH m).sub (k:=0) (n:=1) (nb rfl))) ?_
   obtain ⟨au,cg,ae,h⟩:=h
   obtain ⟨dt,du,av,dv⟩:=a4t.addr ae
   refine d5 (L4 av _ _ _ _ au (a4t.lt au ae)) ?_
   refine j9 (ld1 (v:=(vi cg)) Tryz.isAgg3 (a4t.atW (f.bring 1) av ae)) ?_
   refine j9 (l1 Tryz.isAgg28 f rfl) ?_
   refine d5 (M4 ad _ _ _ _ ab ac) ?_
   refine d5 X3 ?_
   refine j9 (ld1 (v:=(vi q.fTo)) Tryz.isAgg3 ((f.atH m).sub (k:=1) (n:=1) (nb rfl))) ?_
   obtain ⟨aw,ch,af,h⟩:=h
   obtain ⟨dw,dx,ax,dy⟩:=a4t.addr af
   refine d5 (L4 ax _ _ _ _ aw (a4t.lt aw af)) ?_
   refine j9 (ld1 (v:=(vi ch)) Tryz.isAgg3 (a4t.atW (f.bring 1) ax af)) ?_
   refine d5 pGe ?_
   refine d9 h (fun _ h=>?_) (fun _ h=>?_)
   ·refine c5 y3 (c7 (l1 Tryz.isAgg28 f rfl) (c5 (M4 ad _ _ _ _ ab ac) (c5 X3 (c7 (ld1 (v:=(vi q.fTo)) Tryz.isAgg3 ((f.atH m).sub (k:=1) (n:=1) (nb rfl))) ?_))))
    obtain ⟨ay,dz,ag,h⟩:=h
    obtain ⟨ea,eb,az,ec⟩:=b3v.addr ag
    refine c5 (Y0 az _ _ _ _ ay (b3v.lt ay ag)) ?_
    refine a1y (x:=true) (f.bring 2) b3v az (List.getElem?_eq_some_iff.1 ag).1 Tryz.sizeOf4 rfl fun ci ed cj ck ee=>?_
    exact hx7 _ _ (hj7 (a4u.set (q.fTo:Int).toNat true) ci H _ cj ((ck.bring 2).bring 2) h)
   ·exact hx7 _ _ (hj7 a4u Fs3l6 H _ b3v (((f.bring 2).bring 2).bring 2) h)
  ·exact hx2 _ _ (hj2 a4u Fs3l6 H _ b3v (((I.bring 1).drop.bring 1).bring 1) h)
 refine o5 fun j1 hx1=>?_
 obtain ⟨ah,o,cl,cm⟩:=h
 refine C1 (J:=fun n l w=>∃(s:(List Int)×Int)(H:Hp)(Fs5l8:Frag),n=o s∧l=(match s with | (a5M,a5d)=>[(vi a5d)])∧(match s with | (a5M,a5d)=>RowL 3 1 o3 p a5M Fs5l8)∧(match s with | (a5M,a5d)=>Inv w0 ps0 H0 H [bx d 30 (d8 x0),r,Fs5l8] w)∧ah s H) ⟨_,((List.replicate (x0.c6:Int).toNat 0),0),bg,bk,rfl,rfl,bl,((bm.bring 1).bring 2),cl⟩ ?_
 rintro ef eg w next8 ⟨⟨a5M,a5d⟩,H,Fs5l8,rfl,ai,b4V,I,cn⟩ hn8
 dsimp only at ai I b4V
 simp only [List.map_cons,List.map_nil,List.cons.injEq,and_true] at ai
 have e6:=ai
 simp only [e6]
 obtain ⟨n8,hm8,h⟩:∃n8:((List Int)×Int)→Hp→Prop,(∀s' H',n8 s' H'→ah s' H'∧o s' < o (a5M,a5d))∧T8 (List.replicate (x0.c6:Int).toNat false) bh x0 a5M a5d H n8 K:=⟨_,fun _ _ h=>h,cm (a5M,a5d) H (fun s' H'=>ah s' H'∧o s' < o (a5M,a5d)) cn (fun _ _ a b=>⟨a,b⟩)⟩
 unfold c2i
 unfold T8 at h
 refine c5 (Q2 _ _ _) (c5 pLs ?_)
 refine d9 h (fun _ h=>?_) (fun _ h=>?_)
 ·obtain ⟨co,cp,ba,aj,h⟩:=h
  obtain ⟨eh,ei,cq,aj⟩:=aj
  refine c5 (L4 cq _ _ _ _ co cp) (c7 (ld1 (v:=(vi ba)) Tryz.isAgg3 (I.atH aj)) ?_)
  obtain ⟨bb,ej,ak,h⟩:=h
  obtain ⟨ek,el,bc,em⟩:=b4V.addr ak
  refine c5 (L4 bc _ _ _ _ bb (b4V.lt bb ak)) ?_
  refine a1y (x:=a5d) (I.bring 2) b4V bc (List.getElem?_eq_some_iff.1 ak).1 Tryz.sizeOf3 rfl fun cr en ct cu eo=>?_
  refine c5 pAd ?_
  exact hn8 _ _ _ (hm8 _ _ h).2 ⟨((a5M.set (ba:Int).toNat a5d),(IntKind.wrap .i64 (a5d+1))),H,cr,rfl,rfl,ct,((cu.bring 2).bring 2),(hm8 _ _ h).1⟩
 ·exact hx1 _ _ (hj1 a5M Fs5l8 H _ b4V (((I.bring 2).bring 2).bring 2) h)
def a2I(a:c8)(b:c8)(H:Hp)(K:Bool→Hp→Prop):Prop:=
 TG (((((decide (b.d3=12))&&(decide (a.d3=12)))&&(decide (b.fA.r9=a.fA.r9∧b.fA.p6=a.fA.p6)))&&(decide (b.fB.r9=a.fB.r9∧b.fB.p6=a.fB.p6)))=true) (a3m b.fOp H) 0 H (fun(c:Int)(d:Hp)=>
 K (((((decide (b.d3=12))&&(decide (a.d3=12)))&&(decide (b.fA.r9=a.fA.r9∧b.fA.p6=a.fA.p6)))&&(decide (b.fB.r9=a.fB.r9∧b.fB.p6=a.fB.p6)))&&(decide (a.fOp=c))) d)
def a6H(x0:Sl)(H:Hp)(K:Bool→Hp→Prop):Prop:=
 ((x0.n:Int)=0→
 K true H)∧
 (¬((x0.n:Int)=0)→
 ((x0.n:Int)=1→
 (0:Int)≤0∧(0:Int) < x0.n∧∃a:c8,EltH H x0 0 10 (f7 a)∧
 K (!decide (a.d3=12)) H)∧
 (¬((x0.n:Int)=1)→
 ((x0.n:Int)=2→
 (0:Int)≤0∧(0:Int) < x0.n∧∃b:c8,EltH H x0 0 10 (f7 b)∧
 (0:Int)≤1∧(1:Int) < x0.n∧∃c:c8,EltH H x0 1 10 (f7 c)∧
 a2I c b H K)∧
 (¬((x0.n:Int)=2)→
 K false H)))
theorem b3S(x0){H K}(h:a6H x0 H K):a6C x0 H K:=by
 refine Ct.of fun w0 w ps0 H0 R E I hR=>c7H ?_
 unfold a6H at h
 unfold F42
 refine c5 (V8 _ _ _) (c5 pEq ?_)
 refine d9 h (fun _ h=>?_) (fun _ h=>?_)
 ·exact hR _ H _ _ I ⟨true,rfl,rfl,h⟩
 ·refine c5 pEq ?_
  refine d9 h (fun _ h=>?_) (fun _ h=>?_)
  ·obtain ⟨ak,al,ab,s,h⟩:=h
   obtain ⟨bg,bh,am,s⟩:=s
   refine c5 (M4 am _ _ _ _ ak al) (c5 Q5 (c7 (ld1 (v:=(vi ab.d3)) Tryz.isAgg3 ((I.atH s).sub (k:=2) (n:=1) (nb rfl))) (c5 pNe ?_)))
   exact hR _ H _ _ I ⟨(!decide (ab.d3=12)),rfl,rfl,h⟩
  ·refine c5 pEq ?_
   refine d9 h (fun _ h=>?_) (fun _ h=>?_)
   ·have hj1:∀(c:c8)(d:c8)(f:Nat)(l:Nat) H w (_:Inv w0 ps0 H0 H [bx f 40 (f7 c),bx l 40 (f7 d)] w) (_:a2I c d H K),b8A (Value.pointer (some ⟨l,0,none⟩)) (Value.pointer (some ⟨f,0,none⟩)) w R E:=by
     intro c d f l H w I h
     unfold b8A
     intro _
     unfold a2I at h
     refine I0 I fun bi b=>?_
     refine d5 Q5 ?_
     refine j9 (l1 Tryz.isAgg3 (b.bring 1) rfl) ?_
     refine d5 pEq ?_
     refine d5 (Pu.g fun a=>by with_reducible exact Q5) ?_
     refine N1 (p:=(Value.pointer (some ⟨f,2,none⟩))) rfl (Ld.g fun a=>by simp only [f6 a];exact (l1 Tryz.isAgg3 b rfl)) ?_
     refine d5 (Pu.g fun a=>by simp only [f6 a];with_reducible exact pEq) ?_
     refine d5 (A4 _ _) ?_
     refine d5 (Pu.g fun a=>by with_reducible exact X1) ?_
     refine d5 (Pu.g fun a=>by with_reducible exact X1) ?_
     refine N1 (p:=(Value.pointer (some ⟨l,6,none⟩))) rfl (Ld.g fun a=>by simp only [f6 a];exact (ldA Tryz.isAgg38 Tryz.sizeOf38 rfl ((b.bring 1).at1 (o:=6) (vs:=(j6 d.fA)) (nb rfl) rfl))) ?_
     refine N1 (p:=(Value.pointer (some ⟨f,6,none⟩))) rfl (Ld.g fun a=>by simp only [f6 a];exact (ldA Tryz.isAgg38 Tryz.sizeOf38 rfl (b.at1 (o:=6) (vs:=(j6 c.fA)) (nb rfl) rfl))) ?_
     refine d5 (Pu.g fun a=>by simp only [f6 a];with_reducible exact (a6U _ _ _ _ _ _)) ?_
     refine d5 (A4 _ _) ?_
     refine d5 (Pu.g fun a=>by with_reducible exact a0S) ?_
     refine d5 (Pu.g fun a=>by with_reducible exact a0S) ?_
     refine N1 (p:=(Value.pointer (some ⟨l,8,none⟩))) rfl (Ld.g fun a=>by simp only [f6 a];exact (ldA Tryz.isAgg38 Tryz.sizeOf38 rfl ((b.bring 1).at1 (o:=8) (vs:=(j6 d.fB)) (nb rfl) rfl))) ?_
     refine N1 (p:=(Value.pointer (some ⟨f,8,none⟩))) rfl (Ld.g fun a=>by simp only [f6 a];exact (ldA Tryz.isAgg38 Tryz.sizeOf38 rfl (b.at1 (o:=8) (vs:=(j6 c.fB)) (nb rfl) rfl))) ?_
     refine d5 (Pu.g fun a=>by simp only [f6 a];with_reducible exact (a6U _ _ _ _ _ _)) ?_
     refine d5 (A4 _ _) ?_
     refine d5 (Pu.g fun a=>by with_reducible exact X2) ?_
     refine d5 (Pu.g fun a=>by with_reducible exact X2) ?_
     refine N1 (p:=(Value.pointer (some ⟨f,5,none⟩))) rfl (Ld.g fun a=>by simp only [f6 a];exact (l1 Tryz.isAgg3 b rfl)) ?_
     refine N1 (p:=(Value.pointer (some ⟨l,5,none⟩))) rfl (Ld.g fun a=>by simp only [f6 a];exact (l1 Tryz.isAgg3 (b.bring 1) rfl)) ?_
     refine N0 [] (fun m:Int=>(vi m)) h b (fun ac h=>?_) fun m t an u y ad h=>?_
     ·have a:=ac
      simp only [f6 a]
      refine f9 Tryz.call59 h b ?_
      rintro _ t _ an u ad y ⟨m,rfl,rfl,h⟩
      exact ⟨m,t,rfl,u,y,ad,h⟩
     refine ⟨(a4C (p:=(Value.pointer (some ⟨f,5,none⟩))) rfl (y _ b.lt1 (Inv.N4 (Fi:=[]) b))),?_⟩
     refine d5 (Pu.g fun a=>by simp only [f6 a];with_reducible exact pEq) ?_
     refine d5 (A4 _ _) ?_
     exact hR _ t _ _ u.drop.drop ⟨(((((decide (d.d3=12))&&(decide (c.d3=12)))&&(decide (d.fA.r9=c.fA.r9∧d.fA.p6=c.fA.p6)))&&(decide (d.fB.r9=c.fB.r9∧d.fB.p6=c.fB.p6)))&&(decide (c.fOp=m))),rfl,rfl,h⟩
    refine o5 fun j1 hx1=>?_
    refine I0 I fun bj i=>?_
    obtain ⟨ao,ap,q,j,h⟩:=h
    obtain ⟨bk,bl,aq,j⟩:=j
    refine d5 (M4 aq _ _ _ _ ao ap) ?_
    obtain ⟨ar,au,r,e,h⟩:=h
    obtain ⟨bm,bn,av,e⟩:=e
    refine d5 (M4 av _ _ _ _ ar au) ?_
    refine j9 (ldA (vs:=(f7 q)) Tryz.isAgg40 Tryz.sizeOf40 rfl (i.atH j)) ?_
    refine j9 (ldA (vs:=(f7 r)) Tryz.isAgg40 Tryz.sizeOf40 rfl (i.atH e)) ?_
    refine ⟨?_,?_⟩
    ·refine r5 i Tryz.zeroValue40 (cs:=[(vi 0),(vi 0),(vi 0),(vi 0),(vi 0),(vi 0),(vi 0),(vi 0),(vi 0),(vi 0)]) rfl fun aw bo z ae=>?_
     refine ⟨(ae _ (i.a2r e)),(ae _ (i.a2r j)),?_⟩
     refine r5 z Tryz.zeroValue40 (cs:=[(vi 0),(vi 0),(vi 0),(vi 0),(vi 0),(vi 0),(vi 0),(vi 0),(vi 0),(vi 0)]) rfl fun ax bp af ag=>?_
     refine ⟨(ag _ (z.a2r e)),(ag _ (z.a2r j)),?_⟩
     refine u1 (af.bring 1) Tryz.sizeOf40 (vs:=(f7 q)) fun bq ay az=>?_
     refine ⟨(az _ (Inv.c6X (af.bring 1) e)),?_⟩
     refine u1 (ay.bring 1) Tryz.sizeOf40 (vs:=(f7 r)) fun br ba bs=>?_
     exact hx1 _ _ (hj1 r q ax aw H _ ((ba.bring 1).bring 1) h)
    ·refine r5 i Tryz.zeroValue40 (cs:=[(vi 0),(vi 0),(vi 0),(vi 0),(vi 0),(vi 0),(vi 0),(vi 0),(vi 0),(vi 0)]) rfl fun bb bt aa ah=>?_
     refine ⟨(ah _ (i.a2r e)),(ah _ (i.a2r j)),?_⟩
     refine r5 aa Tryz.zeroValue40 (cs:=[(vi 0),(vi 0),(vi 0),(vi 0),(vi 0),(vi 0),(vi 0),(vi 0),(vi 0),(vi 0)]) rfl fun bc bu ai aj=>?_
     refine ⟨(aj _ (aa.a2r e)),(aj _ (aa.a2r j)),?_⟩
     refine u1 ai Tryz.sizeOf40 (vs:=(f7 q)) fun bv bd be=>?_
     refine ⟨(be _ (Inv.c6X ai e)),?_⟩
     refine u1 (bd.bring 1) Tryz.sizeOf40 (vs:=(f7 r)) fun bw bf bz=>?_
     exact hx1 _ _ (hj1 r q bb bc H _ ((bf.bring 1).bring 1) h)
   ·exact hR _ H _ _ I ⟨false,rfl,rfl,h⟩
def a3z(x0:g8)(x1:Int)(H:Hp)(K:Bool→Hp→Prop):Prop:=
 K ((decide (0≤x1))&&(decide (x1 < (x0.s8.m2.n:Int)))) H
theorem a9Q(x0 x1){H K}(h:a3z x0 x1 H K):a3o x0 x1 H K:=by
 refine Ct.of fun w0 w ps0 H0 R E I hR=>c7Q ?_
 unfold a3z at h
 unfold F56
 refine z6 I (cs:=(d8 x0.s8)) rfl fun c d b e=>?_
 refine c5 pGe ?_
 simp only [D4]
 refine c5 (Pu.g fun a=>by with_reducible exact a7o) ?_
 refine c5 (Pu.g fun a=>by simp only [f6 a];with_reducible exact W9) ?_
 refine c7 (Ld.g fun a=>by simp only [f6 a];exact (l1 Tryz.isAgg22 b rfl)) ?_
 refine c5 (Pu.g fun a=>by simp only [f6 a];with_reducible exact (Y6 _ _ _)) ?_
 refine c5 (Pu.g fun a=>by simp only [f6 a];with_reducible exact pLs) ?_
 refine c5 (A4 _ _) ?_
 exact hR _ H _ _ b.drop ⟨((decide (0≤x1))&&(decide (x1 < (x0.s8.m2.n:Int)))),rfl,rfl,h⟩
def a3A(x0:g8)(x1:c8)(H:Hp)(K:Bool→Hp→Prop):Prop:=
 S1 x0 x1.o4 H (fun f g=>
 TG ((!f)=false) (S1 x0 x1.fTo g) false g (fun(i:Bool)(j:Hp)=>
 ((((((!f)||(!i))||(decide (x1.o4=x0.s8.p9)))||(decide (x1.d3 < 1)))||(decide (14 < x1.d3)))=true→
 K false j)∧
 ((((((!f)||(!i))||(decide (x1.o4=x0.s8.p9)))||(decide (x1.d3 < 1)))||(decide (14 < x1.d3)))=false→
 a4W x1.d3 j (fun d v=>
 W0 x0 x1.O0 v (fun y z=>
 Y1 d.fdst y (decide (x1.O0=(-1))) z (fun a k=>
 TG (a=true) (a3o x0 x1.K0 k) false k (fun(aa:Bool)(l:Hp)=>
 TG (a=true) (Y1 d.farr aa (decide (x1.K0=(-1))) l) false l (fun(b:Bool)(m:Hp)=>
 TG ((a&&b)=true) (Y1 d.fop ((decide (1≤x1.fOp))&&(decide (x1.fOp≤6))) (decide (x1.fOp=0)) m) false m (fun(c:Bool)(n:Hp)=>
 TG (((a&&b)&&c)=true) (X4 x0 x1.fA n) false n (fun(ab:Bool)(o:Hp)=>
 TG (((a&&b)&&c)=true) (P1 o) (i6.mk 0 0) o (fun(p:i6)(q:Hp)=>
 TG (((a&&b)&&c)=true) (Y1 d.fa ab (decide (x1.fA.r9=p.r9∧x1.fA.p6=p.p6)) q) false q (fun(e:Bool)(r:Hp)=>
 TG ((((a&&b)&&c)&&e)=true) (X4 x0 x1.fB r) false r (fun(ac:Bool)(s:Hp)=>
 TG ((((a&&b)&&c)&&e)=true) (P1 s) (i6.mk 0 0) s (fun(t:i6)(u:Hp)=>
 TG ((((a&&b)&&c)&&e)=true) (Y1 d.fb ac (decide (x1.fB.r9=t.r9∧x1.fB.p6=t.p6)) u) false u (fun(ad:Bool)(ae:Hp)=>
 K ((((a&&b)&&c)&&e)&&ad) ae)))))))))))))))
theorem a9R(x0 x1){H K}(h:a3A x0 x1 H K):a3p x0 x1 H K:=by
 refine Ct.of fun w0 w ps0 H0 R E I hR=>c7G ?_
 unfold a3A at h
 unfold F41
 refine z6 I (cs:=(d8 x0.s8)) rfl fun cu cv cc cw=>?_
 refine z6 cc (cs:=(f7 x1)) rfl fun k cx am cy=>?_
 refine c7 (lW Tryz.isAgg90 Tryz.sizeOf90 rfl (am.bring 1)) (c5 K2 (c7 (l1 Tryz.isAgg3 am rfl) ?_))
 refine f9 Tryz.call40 h am ?_
 rintro _ _ _ cz n _ _ ⟨da,rfl,rfl,h⟩
 refine c5 (J7 _) ?_
 refine c7 (Ld.g fun a=>by exact (lW Tryz.isAgg90 Tryz.sizeOf90 rfl (n.bring 1))) ?_
 refine c5 (Pu.g fun a=>by with_reducible exact X3) ?_
 refine c7 (Ld.g fun a=>by simp only [f6 a];exact (l1 Tryz.isAgg3 n rfl)) ?_
 refine N0 [] (fun y:Bool=>(vB y)) h n (fun aq h=>?_) fun y an cd i ar au h=>?_
 ·have a:=aq
  simp only [f6 a]
  refine f9 Tryz.call40 h n ?_
  rintro _ an _ cd i au ar ⟨y,rfl,rfl,h⟩
  exact ⟨y,an,rfl,i,ar,au,h⟩
 refine c5 (Pu.g fun a=>by simp only [f6 a];with_reducible exact (J7 _)) ?_
 refine c5 (B8 _ _) ?_
 refine c5 (Pu.g fun a=>by with_reducible exact K2) ?_
 refine c7 (Ld.g fun a=>by simp only [f6 a];exact (l1 Tryz.isAgg3 i rfl)) ?_
 refine c5 (Pu.g fun a=>by with_reducible exact a7o) ?_
 refine c5 (Pu.g fun a=>by simp only [f6 a];with_reducible exact a0j) ?_
 refine c7 (Ld.g fun a=>by simp only [f6 a];exact (l1 Tryz.isAgg3 (i.bring 1) rfl)) ?_
 refine c5 (Pu.g fun a=>by simp only [f6 a];with_reducible exact pEq) ?_
 refine c5 (B8 _ _) ?_
 refine c5 (Pu.g fun a=>by with_reducible exact Q5) ?_
 refine c7 (Ld.g fun a=>by simp only [f6 a];exact (l1 Tryz.isAgg3 i rfl)) ?_
 refine c5 (Pu.g fun a=>by simp only [f6 a];with_reducible exact pLs) ?_
 refine c5 (B8 _ _) ?_
 refine c5 (Pu.g fun a=>by with_reducible exact Q5) ?_
 refine c7 (Ld.g fun a=>by simp only [f6 a];exact (l1 Tryz.isAgg3 i rfl)) ?_
 refine c5 (Pu.g fun a=>by simp only [f6 a];with_reducible exact pGt) ?_
 refine c5 (B8 _ _) ?_
 refine m7 h (fun _ h=>?_) (fun _ h=>?_)
 ·exact hR _ an _ _ i.drop.drop ⟨false,rfl,rfl,h⟩
 ·refine c5 Q5 (c7 (l1 Tryz.isAgg3 i rfl) ?_)
  refine f9 Tryz.call53 h i ?_
  rintro _ _ _ db ce _ _ ⟨cf,rfl,rfl,h⟩
  refine r5 ce Tryz.zeroValue110 (cs:=[(vB false),(vB false),(vB false),(vB false),(vB false)]) rfl fun l dc cg dd=>?_
  refine u1 cg Tryz.sizeOf110 (vs:=(a7p cf)) fun de ch df=>?_
  refine I0 ch fun dg m=>?_
  refine d5 a8i ?_
  refine d5 a4R ?_
  refine d5 a4R ?_
  refine j9 (l1 Tryz.isAgg4 m rfl) ?_
  refine j9 (lW Tryz.isAgg90 Tryz.sizeOf90 rfl (m.bring 2)) ?_
  refine j9 (l1 Tryz.isAgg3 (m.bring 1) rfl) ?_
  refine j9 (l1 Tryz.isAgg3 (m.bring 1) rfl) ?_
  refine d5 pEq ?_
  refine f9 Tryz.call55 h m ?_
  rintro _ _ _ dh ci _ av ⟨di,rfl,rfl,h⟩
  refine ⟨(av _ (m.bring 1).lt1 (Inv.N4 (Fi:=[]) (m.bring 1))),(av _ m.lt1 (Inv.N4 (Fi:=[]) m)),?_⟩
  refine f9 Tryz.call54 h ci ?_
  rintro _ _ _ dj f _ _ ⟨cj,rfl,rfl,h⟩
  refine d5 (Pu.g fun a=>by with_reducible exact b0I) ?_
  refine d5 (Pu.g fun a=>by with_reducible exact a4S) ?_
  refine d5 (Pu.g fun a=>by with_reducible exact a4S) ?_
  refine N1 (p:=(Value.pointer (some ⟨l,1,none⟩))) rfl (Ld.g fun a=>by simp only [f6 a];exact (l1 Tryz.isAgg4 f rfl)) ?_
  refine j9 (Ld.g fun a=>by exact (lW Tryz.isAgg90 Tryz.sizeOf90 rfl (f.bring 2))) ?_
  refine N1 (p:=(Value.pointer (some ⟨k,4,none⟩))) rfl (Ld.g fun a=>by simp only [f6 a];exact (l1 Tryz.isAgg3 (f.bring 1) rfl)) ?_
  refine N1 (p:=(Value.pointer (some ⟨k,4,none⟩))) rfl (Ld.g fun a=>by simp only [f6 a];exact (l1 Tryz.isAgg3 (f.bring 1) rfl)) ?_
  refine d5 (Pu.g fun a=>by simp only [f6 a];with_reducible exact pEq) ?_
  refine N0 [] (fun z:Bool=>(vB z)) h f (fun aw h=>?_) fun z ax ck aa ab ay h=>?_
  ·have a:=aw
   simp only [f6 a]
   refine f9 Tryz.call56 h f ?_
   rintro _ ax _ ck aa ay ab ⟨z,rfl,rfl,h⟩
   exact ⟨z,ax,rfl,aa,ab,ay,h⟩
  refine ⟨(a4C (p:=(Value.pointer (some ⟨k,4,none⟩))) rfl (ab _ (f.bring 1).lt1 (Inv.N4 (Fi:=[]) (f.bring 1)))),(a4C (p:=(Value.pointer (some ⟨l,1,none⟩))) rfl (ab _ f.lt1 (Inv.N4 (Fi:=[]) f))),?_⟩
  refine N0 [] (fun s:Bool=>(vB s)) h aa (fun az h=>?_) fun s ba cl j bb bc h=>?_
  ·have a:=az
   simp only [f6 a]
   refine f9 Tryz.call54 h aa ?_
   rintro _ ba _ cl j bc bb ⟨s,rfl,rfl,h⟩
   exact ⟨s,ba,rfl,j,bb,bc,h⟩
  refine d5 (A4 _ _) ?_
  refine d5 (Pu.g fun a=>by with_reducible exact b4a) ?_
  refine d5 (Pu.g fun a=>by with_reducible exact X2) ?_
  refine d5 (Pu.g fun a=>by with_reducible exact X2) ?_
  refine N1 (p:=(Value.pointer (some ⟨l,2,none⟩))) rfl (Ld.g fun a=>by simp only [f6 a];exact (l1 Tryz.isAgg4 j rfl)) ?_
  refine N1 (p:=(Value.pointer (some ⟨k,5,none⟩))) rfl (Ld.g fun a=>by simp only [f6 a];exact (l1 Tryz.isAgg3 (j.bring 1) rfl)) ?_
  refine d5 (Pu.g fun a=>by simp only [f6 a];with_reducible exact pGe) ?_
  simp only [D4,a6T]
  refine d5 (Pu.e (b5A _ _ _) (Pu.g fun hb=>by obtain ⟨a,b⟩:=c0y hb;with_reducible exact X2)) ?_
  refine d0w (b5A _ _ _) rfl (N1 (p:=(Value.pointer (some ⟨k,5,none⟩))) rfl (Ld.g fun hb=>by obtain ⟨a,b⟩:=c0y hb;simp only [f6 hb];exact (l1 Tryz.isAgg3 (j.bring 1) rfl)) ?_)
  refine d5 (Pu.e (b5A _ _ _) (Pu.g fun hb=>by obtain ⟨a,b⟩:=c0y hb;simp only [f6 hb];with_reducible exact pLe)) ?_
  refine d5 (Pu.g fun a=>by simp only [f6 a,c6W a];with_reducible exact (A4 _ _)) ?_
  refine N1 (p:=(Value.pointer (some ⟨k,5,none⟩))) rfl (Ld.g fun a=>by simp only [f6 a];exact (l1 Tryz.isAgg3 (j.bring 1) rfl)) ?_
  refine d5 (Pu.g fun a=>by simp only [f6 a];with_reducible exact pEq) ?_
  refine N0 [] (fun t:Bool=>(vB t)) h j (fun bd h=>?_) fun t be cm c bf bg h=>?_
  ·have a:=bd
   simp only [f6 a]
   refine f9 Tryz.call54 h j ?_
   rintro _ be _ cm c bg bf ⟨t,rfl,rfl,h⟩
   exact ⟨t,be,rfl,c,bf,bg,h⟩
  refine d5 (A4 _ _) ?_
  refine d5 (Pu.g fun a=>by with_reducible exact b9D) ?_
  refine d5 (Pu.g fun a=>by with_reducible exact X1) ?_
  refine d5 (Pu.g fun a=>by with_reducible exact X1) ?_
  refine N1 (p:=(Value.pointer (some ⟨l,3,none⟩))) rfl (Ld.g fun a=>by simp only [f6 a];exact (l1 Tryz.isAgg4 c rfl)) ?_
  refine j9 (Ld.g fun a=>by exact (lW Tryz.isAgg90 Tryz.sizeOf90 rfl (c.bring 2))) ?_
  refine N1 (p:=(Value.pointer (some ⟨k,6,none⟩))) rfl (Ld.g fun a=>by simp only [f6 a];exact (ldA Tryz.isAgg38 Tryz.sizeOf38 rfl ((c.bring 1).at1 (o:=6) (vs:=(j6 x1.fA)) (nb rfl) rfl))) ?_
  refine N1 (p:=(Value.pointer (some ⟨k,6,none⟩))) rfl (Ld.g fun a=>by simp only [f6 a];exact (ldA Tryz.isAgg38 Tryz.sizeOf38 rfl ((c.bring 1).at1 (o:=6) (vs:=(j6 x1.fA)) (nb rfl) rfl))) ?_
  refine N0 [] (fun ac:Bool=>(vB ac)) h c (fun bh h=>?_) fun ac bi cn q ad bj h=>?_
  ·have a:=bh
   simp only [f6 a]
   refine f9 Tryz.call57 h c ?_
   rintro _ bi _ cn q bj ad ⟨ac,rfl,rfl,h⟩
   exact ⟨ac,bi,rfl,q,ad,bj,h⟩
  refine ⟨(a4C (p:=(Value.pointer (some ⟨k,6,none⟩))) rfl (ad _ (c.bring 1).lt1 (Inv.N4 (Fi:=[]) (c.bring 1)))),(a4C (p:=(Value.pointer (some ⟨l,3,none⟩))) rfl (ad _ c.lt1 (Inv.N4 (Fi:=[]) c))),?_⟩
  refine N0 [] (fun ae:i6=>(Value.agg (j6 ae).toArray)) h q (fun bk h=>?_) fun ae bl co af ag bm h=>?_
  ·have a:=bk
   refine f9 Tryz.call58 h q ?_
   rintro _ bl _ co af bm ag ⟨ae,rfl,rfl,h⟩
   exact ⟨ae,bl,rfl,af,ag,bm,h⟩
  refine ⟨(a4C (p:=(Value.pointer (some ⟨k,6,none⟩))) rfl (ag _ (q.bring 1).lt1 (Inv.N4 (Fi:=[]) (q.bring 1)))),(a4C (p:=(Value.pointer (some ⟨l,3,none⟩))) rfl (ag _ q.lt1 (Inv.N4 (Fi:=[]) q))),?_⟩
  refine d5 (Pu.g fun a=>by simp only [f6 a];with_reducible exact (a6U _ _ _ _ _ _)) ?_
  refine N0 [] (fun u:Bool=>(vB u)) h af (fun bn h=>?_) fun u bo cp d bp bq h=>?_
  ·have a:=bn
   simp only [f6 a]
   refine f9 Tryz.call54 h af ?_
   rintro _ bo _ cp d bq bp ⟨u,rfl,rfl,h⟩
   exact ⟨u,bo,rfl,d,bp,bq,h⟩
  refine d5 (A4 _ _) ?_
  refine d5 (Pu.g fun a=>by with_reducible exact a8j) ?_
  refine d5 (Pu.g fun a=>by with_reducible exact a0S) ?_
  refine d5 (Pu.g fun a=>by with_reducible exact a0S) ?_
  refine N1 (p:=(Value.pointer (some ⟨l,4,none⟩))) rfl (Ld.g fun a=>by simp only [f6 a];exact (l1 Tryz.isAgg4 d rfl)) ?_
  refine j9 (Ld.g fun a=>by exact (lW Tryz.isAgg90 Tryz.sizeOf90 rfl (d.bring 2))) ?_
  refine N1 (p:=(Value.pointer (some ⟨k,8,none⟩))) rfl (Ld.g fun a=>by simp only [f6 a];exact (ldA Tryz.isAgg38 Tryz.sizeOf38 rfl ((d.bring 1).at1 (o:=8) (vs:=(j6 x1.fB)) (nb rfl) rfl))) ?_
  refine N1 (p:=(Value.pointer (some ⟨k,8,none⟩))) rfl (Ld.g fun a=>by simp only [f6 a];exact (ldA Tryz.isAgg38 Tryz.sizeOf38 rfl ((d.bring 1).at1 (o:=8) (vs:=(j6 x1.fB)) (nb rfl) rfl))) ?_
  refine N0 [] (fun ah:Bool=>(vB ah)) h d (fun br h=>?_) fun ah bs cq r ai bt h=>?_
  ·have a:=br
   simp only [f6 a]
   refine f9 Tryz.call57 h d ?_
   rintro _ bs _ cq r bt ai ⟨ah,rfl,rfl,h⟩
   exact ⟨ah,bs,rfl,r,ai,bt,h⟩
  refine ⟨(a4C (p:=(Value.pointer (some ⟨k,8,none⟩))) rfl (ai _ (d.bring 1).lt1 (Inv.N4 (Fi:=[]) (d.bring 1)))),(a4C (p:=(Value.pointer (some ⟨l,4,none⟩))) rfl (ai _ d.lt1 (Inv.N4 (Fi:=[]) d))),?_⟩
  refine N0 [] (fun aj:i6=>(Value.agg (j6 aj).toArray)) h r (fun bu h=>?_) fun aj bv cr ak al bw h=>?_
  ·have a:=bu
   refine f9 Tryz.call58 h r ?_
   rintro _ bv _ cr ak bw al ⟨aj,rfl,rfl,h⟩
   exact ⟨aj,bv,rfl,ak,al,bw,h⟩
  refine ⟨(a4C (p:=(Value.pointer (some ⟨k,8,none⟩))) rfl (al _ (r.bring 1).lt1 (Inv.N4 (Fi:=[]) (r.bring 1)))),(a4C (p:=(Value.pointer (some ⟨l,4,none⟩))) rfl (al _ r.lt1 (Inv.N4 (Fi:=[]) r))),?_⟩
  refine d5 (Pu.g fun a=>by simp only [f6 a];with_reducible exact (a6U _ _ _ _ _ _)) ?_
  refine N0 [] (fun v:Bool=>(vB v)) h ak (fun bz h=>?_) fun v ao ct ap ca cb h=>?_
  ·have a:=bz
   simp only [f6 a]
   refine f9 Tryz.call54 h ak ?_
   rintro _ ao _ ct ap cb ca ⟨v,rfl,rfl,h⟩
   exact ⟨v,ao,rfl,ap,ca,cb,h⟩
  refine d5 (A4 _ _) ?_
  exact hR _ ao _ _ ap.drop.drop.drop ⟨((((cj&&s)&&t)&&u)&&v),rfl,rfl,h⟩
def a2J(b1N:(List (List Int)))(d:d4)(H:Hp)(K:Sl→Hp→Prop):Prop:=
 ∀(a:Sl)(b:Hp),Hle H b→SlHH b 1 o3 a b1N→a.n≤a.c→
 K a b
def a2K(u7:Sl)(a0X:Int)(c:d4)(a5N:(List (List Int)))(a1C:Int)(H:Hp)(n2:((List (List Int))×Int)→Hp→Prop)(K:Sl→Hp→Prop):Prop:=
 (a1C < a0X→
 (0:Int)≤a1C∧(a1C:Int) < u7.n∧∃a:c8,EltH H u7 a1C 10 (f7 a)∧
 (0:Int)≤a.o4∧∃b:List Int,(a5N)[(a.o4:Int).toNat]? = some b∧
 (b.length+([a1C]:List Int).length)*9≤140737488355328∧
 n2 ((a5N.set (a.o4:Int).toNat (b++[a1C])),(IntKind.wrap .i64 (a1C+1))) H)∧
 (¬(a1C < a0X)→
 a2J a5N c H K)
def a6I(x0:d4)(H:Hp)(K:Sl→Hp→Prop):Prop:=
 (0:Int)≤x0.c6∧x0.c6*25≤140737488355328∧
 TL (((List.replicate (x0.c6:Int).toNat ([]:List Int)),0):(List (List Int))×Int) H fun(s:(List (List Int))×Int) H n2=>a2K x0.m4 (x0.m4.n:Int) x0 s.1 s.2 H n2 K
theorem b3T(x0){H K}(h:a6I x0 H K):a2t x0 H K:=by
 refine Ct.of fun w0 w ps0 H0 R E I hR=>c7B ?_
 unfold a6I at h
 unfold F36
 refine z6 I (cs:=(d8 x0)) rfl fun z bm aa bn=>?_
 refine c5 v7 (c7 (l1 Tryz.isAgg3 aa rfl) ?_)
 obtain ⟨ag,ah,h⟩:=h
 refine b4P aa ag ah fun g ai bo aj ab bp=>?_
 have hj1:∀(b1N:(List (List Int)))(Fs3j1:Frag)(H:Hp)(w:World)(_:RowsL 44 3 1 o3 g b1N Fs3j1)(_:Inv w0 ps0 H0 H [bx z 30 (d8 x0),Fs3j1] w)(_:a2J b1N x0 H K),b8x (vs g) w R E:=by
  intro b1N Fs3j1 H w c9U I h
  unfold b8x
  intro _
  unfold a2J at h
  obtain ⟨ac,ak,al,am,an⟩:=Inv.freezeLL (I.bring 1) c9U (by decide)
  replace h:=h g ac al am an
  exact hR _ ac _ _ ak.drop ⟨g,rfl,rfl,h⟩
 refine o5 fun j1 hx1=>?_
 refine c5 y3 (c7 (l1 Tryz.isAgg28 (ab.bring 1) rfl) (c5 (V8 _ _ _) ?_))
 obtain ⟨o,i,ao,ap⟩:=h
 refine C1 (J:=fun n l w=>∃(s:(List (List Int))×Int)(H:Hp)(Fs3l2:Frag),n=i s∧l=(match s with | (a5N,a1C)=>[(vi a1C)])∧(match s with | (a5N,a1C)=>RowsL 44 3 1 o3 g a5N Fs3l2)∧(match s with | (a5N,a1C)=>Inv w0 ps0 H0 H [bx z 30 (d8 x0),Fs3l2] w)∧o s H) ⟨_,((List.replicate (x0.c6:Int).toNat ([]:List Int)),0),H,ai,rfl,rfl,(RowsL.made (e:=3) G6 G7 aj),(ab.bring 1),ao⟩ ?_
 rintro bq br w next2 ⟨⟨a5N,a1C⟩,H,Fs3l2,rfl,p,c0W,I,aq⟩ hn2
 dsimp only at p I c0W
 simp only [List.map_cons,List.map_nil,List.cons.injEq,and_true] at p
 have e12:=p
 simp only [e12]
 obtain ⟨n2,hm2,h⟩:∃n2:((List (List Int))×Int)→Hp→Prop,(∀s' H',n2 s' H'→o s' H'∧i s' < i (a5N,a1C))∧a2K x0.m4 (x0.m4.n:Int) x0 a5N a1C H n2 K:=⟨_,fun _ _ h=>h,ap (a5N,a1C) H (fun s' H'=>o s' H'∧i s' < i (a5N,a1C)) aq (fun _ _ a b=>⟨a,b⟩)⟩
 unfold c2q
 unfold a2K at h
 refine c5 pLs ?_
 refine d9 h (fun _ h=>?_) (fun _ h=>?_)
 ·obtain ⟨ar,au,q,r,h⟩:=h
  obtain ⟨bs,bt,av,r⟩:=r
  refine c5 (M4 av _ _ _ _ ar au) (c7 (ldA (vs:=(f7 q)) Tryz.isAgg40 Tryz.sizeOf40 rfl (I.atH r)) ?_)
  refine r5 I Tryz.zeroValue40 (cs:=[(vi 0),(vi 0),(vi 0),(vi 0),(vi 0),(vi 0),(vi 0),(vi 0),(vi 0),(vi 0)]) rfl fun bu bv aw bw=>?_
  refine u1 aw Tryz.sizeOf40 (vs:=(f7 q)) fun bz ax ca=>?_
  refine I0 ax fun cb t=>?_
  refine d5 K2 ?_
  refine d5 K2 ?_
  refine j9 (l1 Tryz.isAgg3 t rfl) ?_
  refine j9 (l1 Tryz.isAgg3 t rfl) ?_
  obtain ⟨k,ad,ay,h⟩:=h
  obtain ⟨cc,ae,cd,ce,az,d,f,ba,bb,cf,j⟩:=RowsL.open_ c0W (t.bring 2) ay
  obtain ⟨cg,ch,u,ci⟩:=d.addr f
  refine d5 (a1W u _ _ _ _ k (d.lt k f)) ?_
  refine j9 (ld1 (v:=(vs ae)) Tryz.isAgg44 (d.atW j u f)) ?_
  refine X9 (e:=3) (c:=o3) (xs:=[a1C]) j (a1z _) rfl rfl G6 G7 (nb rfl) fun cj ck cl bc m y=>?_
  refine ⟨(y _ (RowL.b4L d j u)),(y _ (j.bring 3).lt1),(y _ (j.bring 3).lt1),?_⟩
  obtain ⟨bd,h⟩:=h
  refine a4G (s:=ae) (xs:=ad) (m.bring 2) ba (bc.srcO ((m.bring 2).bring 1)) bd fun be bf cm bg bh bi=>?_
  refine ⟨(bi _ ((m.bring 2).bring 4).lt1 (Inv.a9F (((m.bring 2).bring 4).bring 1))),?_⟩
  obtain ⟨cn,co,af,cp⟩:=d.addr f
  refine d5 (a1W af _ _ _ _ k (d.lt k f)) ?_
  refine a1y (x:=be) ((bh.bring 1).drop.bring 1) d af (List.getElem?_eq_some_iff.1 f).1 Tryz.sizeOf44 rfl fun bj cq bk bl cr=>?_
  refine c5 pAd ?_
  exact hn2 _ _ _ (hm2 _ _ h).2 ⟨((a5N.set (q.o4:Int).toNat (ad++[a1C])),(IntKind.wrap .i64 (a1C+1))),H,(bj++(bf++az)),rfl,rfl,(RowsL.b4K bk bg bb),(((((bl.bring 2).bring 2).bring 2).b6Y.bring 1).drop.bring 1),(hm2 _ _ h).1⟩
 ·exact hx1 _ _ (hj1 a5N Fs3l2 H _ c0W ((I.bring 1).bring 1) h)
def a6Y(x0:d4)(x1:Int)(H:Hp)(K:Sl→Int→Hp→Prop):Prop:=
 O1 x0 H (fun a b=>
 (¬(a=0)→
 K (Sl.mk none 0 0) a b)∧
 (a=0→
 (((decide (x1 < 0))||(decide (x0.c6≤x1)))=true→
 K (Sl.mk none 0 0) 92 b)∧
 (((decide (x1 < 0))||(decide (x0.c6≤x1)))=false→
 a2t x0 b (fun c d=>
 (0:Int)≤x1∧(x1:Int) < c.n∧∃e:Sl,EltH d c x1 1 [(vs e)]∧
 K e 0 d))))
theorem b4q(x0 x1){H K}(h:a6Y x0 x1 H K):a6V x0 x1 H K:=by
 refine Ct.of fun w0 w ps0 H0 R E I hR=>c7i ?_
 unfold a6Y at h
 unfold F11
 refine z6 I (cs:=(d8 x0)) rfl fun o p d q=>?_
 refine c7 (lW Tryz.isAgg30 Tryz.sizeOf30 rfl d) ?_
 refine f9 Tryz.call15 h d ?_
 rintro _ e _ r b _ _ ⟨j,rfl,rfl,h⟩
 refine c5 pNe ?_
 refine V5 h (fun _ h=>?_) (fun _ h=>?_)
 ·exact hR _ e _ _ b.drop ⟨(Sl.mk none 0 0),j,rfl,rfl,h⟩
 ·refine c5 pLs ?_
  simp only [D4]
  refine c5 (Pu.g fun a=>by with_reducible exact v7) ?_
  refine c7 (Ld.g fun a=>by simp only [f6 a];exact (l1 Tryz.isAgg3 b rfl)) ?_
  refine c5 (Pu.g fun a=>by simp only [f6 a];with_reducible exact pGe) ?_
  refine c5 (B8 _ _) ?_
  refine m7 h (fun _ h=>?_) (fun _ h=>?_)
  ·exact hR _ e _ _ b.drop ⟨(Sl.mk none 0 0),92,rfl,rfl,h⟩
  ·refine c7 (lW Tryz.isAgg30 Tryz.sizeOf30 rfl b) ?_
   refine f9 Tryz.call36 h b ?_
   rintro _ k _ s f _ _ ⟨t,rfl,rfl,h⟩
   obtain ⟨l,m,i,c,h⟩:=h
   obtain ⟨u,y,n,c⟩:=c
   refine c5 (a1W n _ _ _ _ l m) (c7 (ld1 (v:=(vs i)) Tryz.isAgg44 (f.atH c)) ?_)
   exact hR _ k _ _ f.drop ⟨i,0,rfl,rfl,h⟩
def Q8(d1w:(List Bool))(b1e:(List Int))(d1z:Int)(c9V:Int)(a:d4)(H:Hp)(n4:((List Int)×Int)→Hp→Prop)(K:Sl→Int→Hp→Prop):Prop:=
 n4 (b1e,(IntKind.wrap .i64 (c9V+1))) H
def a1D(b2L:(List Int))(b:d4)(H:Hp)(K:Sl→Int→Hp→Prop):Prop:=
 ∀(a6S:Sl)(a:Hp),Hle H a→SlH a 1 o3 a6S b2L→a6S.n≤a6S.c→
 K a6S 0 a
def a1E(b8W:(List Bool))(b7d:Int)(a:d4)(a1r:(List Int))(a0x:Int)(H:Hp)(n4:((List Int)×Int)→Hp→Prop)(K:Sl→Int→Hp→Prop):Prop:=
 (a0x < b7d→
 (0:Int)≤a0x∧∃b:Bool,(b8W)[(a0x:Int).toNat]? = some b∧
 (b=true→
 (a1r.length+([a0x]:List Int).length)*9≤140737488355328∧
 Q8 b8W (a1r++[a0x]) b7d a0x a H n4 K)∧
 (b=false→
 Q8 b8W a1r b7d a0x a H n4 K))∧
 (¬(a0x < b7d)→
 a1D a1r a H K)
def a1F(a9S:(List Bool))(a:d4)(H:Hp)(K:Sl→Int→Hp→Prop):Prop:=
 TL (([],0):(List Int)×Int) H fun(s:(List Int)×Int) H n4=>a1E a9S a.c6 a s.1 s.2 H n4 K
def a1G(c4J:(List Int))(c4K:Sl)(c4L:Int)(e:d4)(a3B:(List Bool))(a4v:Int)(H:Hp)(n6:((List Bool)×Int)→Hp→Prop)(K:Sl→Int→Hp→Prop):Prop:=
 (a4v < c4L→
 (0:Int)≤a4v∧(a4v:Int) < c4K.n∧∃a:c8,EltH H c4K a4v 10 (f7 a)∧
 (0:Int)≤a.fTo∧∃b:Bool,(a3B)[(a.fTo:Int).toNat]? = some b∧
 ∃c:Int,(b=false→(0:Int)≤a.o4∧(c4J)[(a.o4:Int).toNat]? = some c)∧
 ∃d:Int,(b=false→(0:Int)≤a.fTo∧(c4J)[(a.fTo:Int).toNat]? = some d)∧
 (0:Int)≤a.fTo∧∃f:Bool,(a3B)[(a.fTo:Int).toNat]? = some f∧
 n6 ((a3B.set (a.fTo:Int).toNat (b||(decide (d≤c)))),(IntKind.wrap .i64 (a4v+1))) H)∧
 (¬(a4v < c4L)→
 a1F a3B e H K)
def a1H(b3w:(List Int))(a:d4)(H:Hp)(K:Sl→Int→Hp→Prop):Prop:=
 (0:Int)≤a.c6∧a.c6*2≤140737488355328∧
 TL (((List.replicate (a.c6:Int).toNat false),0):(List Bool)×Int) H fun(s:(List Bool)×Int) H n6=>a1G b3w a.m4 (a.m4.n:Int) a s.1 s.2 H n6 K
def a1I(c4M:Sl)(c4N:Int)(b:d4)(a5O:(List Int))(a2L:Int)(H:Hp)(n7:((List Int)×Int)→Hp→Prop)(K:Sl→Int→Hp→Prop):Prop:=
 (a2L < c4N→
 (0:Int)≤a2L∧(a2L:Int) < c4M.n∧∃a:Int,EltH H c4M a2L 1 [(vi a)]∧
 (0:Int)≤a∧∃c:Int,(a5O)[(a:Int).toNat]? = some c∧
 n7 ((a5O.set (a:Int).toNat a2L),(IntKind.wrap .i64 (a2L+1))) H)∧
 (¬(a2L < c4N)→
 a1H a5O b H K)
def a5Z(x0:d4)(H:Hp)(K:Sl→Int→Hp→Prop):Prop:=
 O1 x0 H (fun a b=>
 (¬(a=0)→
 K (Sl.mk none 0 0) a b)∧
 (a=0→
 a1h x0 b (fun c e d=>
 (0:Int)≤x0.c6∧x0.c6*9≤140737488355328∧
 TL (((List.replicate (x0.c6:Int).toNat 0),0):(List Int)×Int) d fun(s:(List Int)×Int) H n7=>a1I c (c.n:Int) x0 s.1 s.2 H n7 K)))
theorem b2M(x0){H K}(h:a5Z x0 H K):a4h x0 H K:=by
 refine Ct.of fun w0 w ps0 H0 R E I hR=>c7k ?_
 unfold a5Z at h
 unfold F13
 refine z6 I (cs:=(d8 x0)) rfl fun k dg ao dh=>?_
 refine c7 (lW Tryz.isAgg30 Tryz.sizeOf30 rfl ao) ?_
 refine f9 Tryz.call15 h ao ?_
 rintro _ bg _ di z _ _ ⟨bh,rfl,rfl,h⟩
 refine c5 pNe ?_
 refine V5 h (fun _ h=>?_) (fun _ h=>?_)
 ·exact hR _ bg _ _ z.drop ⟨(Sl.mk none 0 0),bh,rfl,rfl,h⟩
 ·refine c7 (lW Tryz.isAgg30 Tryz.sizeOf30 rfl z) ?_
  refine f9 Tryz.call14 h z ?_
  rintro _ bi _ dj ap _ _ ⟨aq,bj,rfl,rfl,h⟩
  refine c5 (m5 _ _ _ rfl) (c5 (m5 _ _ (vi bj) rfl) (c5 v7 (c7 (l1 Tryz.isAgg3 ap rfl) ?_)))
  obtain ⟨bk,bl,h⟩:=h
  refine c1T ap bk bl fun aa bm dk bn bo dl=>?_
  have hj1:∀(b3w:(List Int))(Fs7j1:Frag) H w (_:RowL 3 1 o3 aa b3w Fs7j1) (_:Inv w0 ps0 H0 H [bx k 30 (d8 x0),Fs7j1] w) (_:a1H b3w x0 H K),b7X (Value.pointer (some ⟨k,0,none⟩)) (vs aa) w R E:=by
   intro b3w Fs7j1 H w b3x I h
   unfold b7X
   intro _
   unfold a1H at h
   refine c5 v7 (c7 (l1 Tryz.isAgg3 I rfl) ?_)
   obtain ⟨bp,bq,h⟩:=h
   refine b0Z I bp bq fun y br dm bs ar dn=>?_
   have hj2:∀(a9S:(List Bool))(Fs10j2:Frag) H w (_:RowL 4 1 E5 y a9S Fs10j2) (_:Inv w0 ps0 H0 H [bx k 30 (d8 x0),Fs10j2] w) (_:a1F a9S x0 H K),b7W (Value.pointer (some ⟨k,0,none⟩)) (vs y) w R E:=by
    intro a9S Fs10j2 H w b8X I h
    unfold b7W
    intro _
    unfold a1F at h
    have hj3:∀(b2L:(List Int))(a6S:Sl)(Fs13j3:Frag) H w (_:RowL 3 1 o3 a6S b2L Fs13j3) (_:Inv w0 ps0 H0 H [bx k 30 (d8 x0),Fs13j3] w) (_:a1D b2L x0 H K),b7U (vs a6S) w R E:=by
     intro b2L a6S Fs13j3 H w c9c I h
     unfold b7U
     intro _
     unfold a1D at h
     obtain ⟨au,bt,bu,bv,bw⟩:=Inv.freezeC (I.bring 1) c9c (by decide)
     replace h:=h a6S au bu bv bw
     exact hR _ au _ _ bt.drop ⟨a6S,0,rfl,rfl,h⟩
    refine o5 fun j3 hx3=>?_
    refine c5 v7 (c7 (l1 Tryz.isAgg3 I rfl) ?_)
    obtain ⟨ab,q,bz,ca⟩:=h
    refine C1 (J:=fun n l w=>∃(s:(List Int)×Int)(H:Hp)(b1f:Sl)(Fs13l4:Frag),n=q s∧l=(match s with | (a1r,a0x)=>[(vs b1f),(vi a0x)])∧(match s with | (a1r,a0x)=>RowL 3 1 o3 b1f a1r Fs13l4)∧(match s with | (a1r,a0x)=>Inv w0 ps0 H0 H [bx k 30 (d8 x0),Fs10j2,Fs13l4] w)∧ab s H) ⟨_,([],0),H,(Sl.mk none 0 0),[],rfl,rfl,(RowL.nil G6 G7),((I.nil.bring 2).bring 2),bz⟩ ?_
    rintro dp dq w next4 ⟨⟨a1r,a0x⟩,H,b1f,Fs13l4,rfl,ac,b4W,I,cb⟩ hn4
    dsimp only at ac I b4W
    simp only [List.map_cons,List.map_nil,List.cons.injEq,and_true] at ac
    obtain ⟨e13,e75⟩:=ac
    simp only [e13,e75]
    obtain ⟨n4,hm4,h⟩:∃n4:((List Int)×Int)→Hp→Prop,(∀s' H',n4 s' H'→ab s' H'∧q s' < q (a1r,a0x))∧a1E a9S x0.c6 x0 a1r a0x H n4 K:=⟨_,fun _ _ h=>h,ca (a1r,a0x) H (fun s' H'=>ab s' H'∧q s' < q (a1r,a0x)) cb (fun _ _ a b=>⟨a,b⟩)⟩
    unfold c1X
    unfold a1E at h
    refine c5 pLs ?_
    refine d9 h (fun _ h=>?_) (fun _ h=>?_)
    ·have hj5:∀(b1e:(List Int))(b4X:Sl)(Fs13j5:Frag) H w (_:RowL 3 1 o3 b4X b1e Fs13j5) (_:Inv w0 ps0 H0 H [bx k 30 (d8 x0),Fs10j2,Fs13j5] w) (_:Q8 a9S b1e x0.c6 a0x x0 H n4 K),b7V (vs y) (vs b4X) (vi x0.c6) (vi a0x) w next4 R E:=by
      intro b1e b4X Fs13j5 H w c9d I h
      unfold b7V
      intro _
      unfold Q8 at h
      refine c5 pAd ?_
      exact hn4 _ _ _ (hm4 _ _ h).2 ⟨(b1e,(IntKind.wrap .i64 (a0x+1))),H,b4X,Fs13j5,rfl,rfl,c9d,(((I.bring 2).bring 2).bring 2),(hm4 _ _ h).1⟩
     refine o5 fun j5 hx5=>?_
     obtain ⟨av,cc,ad,h⟩:=h
     obtain ⟨dr,ds,aw,dt⟩:=b8X.addr ad
     refine c5 (Y0 aw _ _ _ _ av (b8X.lt av ad)) (c7 (ld1 (v:=(vB cc)) Tryz.isAgg4 (b8X.atW (I.bring 1) aw ad)) ?_)
     refine m7 h (fun _ h=>?_) (fun _ h=>?_)
     ·refine X9 (e:=3) (c:=o3) (xs:=[a0x]) I (a1z _) rfl rfl G6 G7 (nb rfl) fun du dv dw cd ax dx=>?_
      obtain ⟨ce,h⟩:=h
      refine a4G (s:=b1f) (xs:=a1r) (ax.bring 3) b4W (cd.srcO ((ax.bring 3).bring 1)) ce fun cf cg dy ch ci dz=>?_
      exact hx5 _ _ (hj5 (a1r++[a0x]) cf cg H _ ch (((ci.bring 1).drop.bring 2).bring 2) h)
     ·exact hx5 _ _ (hj5 a1r b1f Fs13l4 H _ b4W (((I.bring 2).bring 2).bring 2) h)
    ·exact hx3 _ _ (hj3 a1r b1f Fs13l4 H _ b4W (((I.bring 1).drop.bring 1).bring 1) h)
   refine o5 fun j2 hx2=>?_
   refine c5 y3 (c7 (l1 Tryz.isAgg28 (ar.bring 1) rfl) (c5 (V8 _ _ _) ?_))
   obtain ⟨ae,r,cj,ck⟩:=h
   refine C1 (J:=fun n l w=>∃(s:(List Bool)×Int)(H:Hp)(Fs10l6:Frag),n=r s∧l=(match s with | (a3B,a4v)=>[(vi a4v)])∧(match s with | (a3B,a4v)=>RowL 4 1 E5 y a3B Fs10l6)∧(match s with | (a3B,a4v)=>Inv w0 ps0 H0 H [bx k 30 (d8 x0),Fs7j1,Fs10l6] w)∧ae s H) ⟨_,((List.replicate (x0.c6:Int).toNat false),0),H,br,rfl,rfl,bs,((ar.bring 2).bring 2),cj⟩ ?_
   rintro ea eb w next6 ⟨⟨a3B,a4v⟩,H,Fs10l6,rfl,af,a8w,I,cl⟩ hn6
   dsimp only at af I a8w
   simp only [List.map_cons,List.map_nil,List.cons.injEq,and_true] at af
   have e46:=af
   simp only [e46]
   obtain ⟨n6,hm6,h⟩:∃n6:((List Bool)×Int)→Hp→Prop,(∀s' H',n6 s' H'→ae s' H'∧r s' < r (a3B,a4v))∧a1G b3w x0.m4 (x0.m4.n:Int) x0 a3B a4v H n6 K:=⟨_,fun _ _ h=>h,ck (a3B,a4v) H (fun s' H'=>ae s' H'∧r s' < r (a3B,a4v)) cl (fun _ _ a b=>⟨a,b⟩)⟩
   unfold c1Y
   unfold a1G at h
   refine c5 pLs ?_
   refine d9 h (fun _ h=>?_) (fun _ h=>?_)
   ·obtain ⟨cm,cn,t,ag,h⟩:=h
    obtain ⟨ec,ed,co,ag⟩:=ag
    refine c5 (M4 co _ _ _ _ cm cn) (c7 (ldA (vs:=(f7 t)) Tryz.isAgg40 Tryz.sizeOf40 rfl (I.atH ag)) ?_)
    refine r5 I Tryz.zeroValue40 (cs:=[(vi 0),(vi 0),(vi 0),(vi 0),(vi 0),(vi 0),(vi 0),(vi 0),(vi 0),(vi 0)]) rfl fun ay ee cp ef=>?_
    refine u1 cp Tryz.sizeOf40 (vs:=(f7 t)) fun eg cq eh=>?_
    refine I0 cq fun ei j=>?_
    refine d5 X3 ?_
    refine d5 X3 ?_
    refine j9 (l1 Tryz.isAgg3 j rfl) ?_
    refine j9 (l1 Tryz.isAgg3 j rfl) ?_
    obtain ⟨az,ah,ai,h⟩:=h
    obtain ⟨ej,ek,ba,el⟩:=a8w.addr ai
    refine d5 (Y0 ba _ _ _ _ az (a8w.lt az ai)) ?_
    refine j9 (ld1 (v:=(vB ah)) Tryz.isAgg4 (a8w.atW (j.bring 3) ba ai)) ?_
    simp only [D4]
    refine d5 (Pu.g fun d=>by with_reducible exact K2) ?_
    refine d5 (Pu.g fun d=>by with_reducible exact X3) ?_
    refine N1 (p:=(Value.pointer (some ⟨ay,0,none⟩))) rfl (Ld.g fun d=>by simp only [f6 d];exact (l1 Tryz.isAgg3 j rfl)) ?_
    obtain ⟨m,f,h⟩:=h
    obtain ⟨cr,f⟩:=c4y b3x f
    refine d5 (Pu.g fun hb=>by have d:=hb;simp only [f6 d];with_reducible exact (L4 (f hb).2.2 _ _ _ _ (f hb).1 (b3x.lt (f hb).1 (f hb).2.1))) ?_
    refine N1 (p:=(Value.pointer (some ⟨cr,0+(t.o4:Int).toNat*1,none⟩))) rfl (Ld.g fun hb=>by have d:=hb;simp only [f6 d];with_reducible exact (ld1 (v:=(vi m)) Tryz.isAgg3 (b3x.atW (j.bring 2) (f hb).2.2 (f hb).2.1))) ?_
    refine N1 (p:=(Value.pointer (some ⟨ay,1,none⟩))) rfl (Ld.g fun d=>by simp only [f6 d];exact (l1 Tryz.isAgg3 j rfl)) ?_
    obtain ⟨o,i,h⟩:=h
    obtain ⟨ct,i⟩:=c4y b3x i
    refine d5 (Pu.g fun hb=>by have d:=hb;simp only [f6 d];with_reducible exact (L4 (i hb).2.2 _ _ _ _ (i hb).1 (b3x.lt (i hb).1 (i hb).2.1))) ?_
    refine N1 (p:=(Value.pointer (some ⟨ct,0+(t.fTo:Int).toNat*1,none⟩))) rfl (Ld.g fun hb=>by have d:=hb;simp only [f6 d];with_reducible exact (ld1 (v:=(vi o)) Tryz.isAgg3 (b3x.atW (j.bring 2) (i hb).2.2 (i hb).2.1))) ?_
    refine d5 (Pu.g fun d=>by simp only [f6 d];with_reducible exact pGe) ?_
    refine d5 (B8 _ _) ?_
    obtain ⟨bb,em,aj,h⟩:=h
    obtain ⟨en,eo,bc,ep⟩:=a8w.addr aj
    refine d5 (Y0 bc _ _ _ _ bb (a8w.lt bb aj)) ?_
    refine a1y (x:=(ah||(decide (o≤m)))) (j.bring 3) a8w bc (List.getElem?_eq_some_iff.1 aj).1 Tryz.sizeOf4 rfl fun cu eq cv cw er=>?_
    refine c5 pAd ?_
    exact hn6 _ _ _ (hm6 _ _ h).2 ⟨((a3B.set (t.fTo:Int).toNat (ah||(decide (o≤m)))),(IntKind.wrap .i64 (a4v+1))),H,cu,rfl,rfl,cv,(((cw.bring 1).drop.bring 2).bring 2),(hm6 _ _ h).1⟩
   ·exact hx2 _ _ (hj2 a3B Fs10l6 H _ a8w (((I.bring 1).drop.bring 1).bring 1) h)
  refine o5 fun j1 hx1=>?_
  refine c5 (Q2 _ _ _) ?_
  obtain ⟨ak,u,cx,cy⟩:=h
  refine C1 (J:=fun n l w=>∃(s:(List Int)×Int)(H:Hp)(Fs7l7:Frag),n=u s∧l=(match s with | (a5O,a2L)=>[(vi a2L)])∧(match s with | (a5O,a2L)=>RowL 3 1 o3 aa a5O Fs7l7)∧(match s with | (a5O,a2L)=>Inv w0 ps0 H0 H [bx k 30 (d8 x0),Fs7l7] w)∧ak s H) ⟨_,((List.replicate (x0.c6:Int).toNat 0),0),bi,bm,rfl,rfl,bn,(bo.bring 1),cx⟩ ?_
  rintro es et w next7 ⟨⟨a5O,a2L⟩,H,Fs7l7,rfl,al,b4Y,I,cz⟩ hn7
  dsimp only at al I b4Y
  simp only [List.map_cons,List.map_nil,List.cons.injEq,and_true] at al
  have e30:=al
  simp only [e30]
  obtain ⟨n7,hm7,h⟩:∃n7:((List Int)×Int)→Hp→Prop,(∀s' H',n7 s' H'→ak s' H'∧u s' < u (a5O,a2L))∧a1I aq (aq.n:Int) x0 a5O a2L H n7 K:=⟨_,fun _ _ h=>h,cy (a5O,a2L) H (fun s' H'=>ak s' H'∧u s' < u (a5O,a2L)) cz (fun _ _ a b=>⟨a,b⟩)⟩
  unfold c1Z
  unfold a1I at h
  refine c5 pLs ?_
  refine d9 h (fun _ h=>?_) (fun _ h=>?_)
  ·obtain ⟨da,db,bd,am,h⟩:=h
   obtain ⟨eu,ev,dc,am⟩:=am
   refine c5 (L4 dc _ _ _ _ da db) (c7 (ld1 (v:=(vi bd)) Tryz.isAgg3 (I.atH am)) ?_)
   obtain ⟨be,ew,an,h⟩:=h
   obtain ⟨ex,ey,bf,ez⟩:=b4Y.addr an
   refine c5 (L4 bf _ _ _ _ be (b4Y.lt be an)) ?_
   refine a1y (x:=a2L) (I.bring 1) b4Y bf (List.getElem?_eq_some_iff.1 an).1 Tryz.sizeOf3 rfl fun dd fa de df fb=>?_
   refine c5 pAd ?_
   exact hn7 _ _ _ (hm7 _ _ h).2 ⟨((a5O.set (bd:Int).toNat a2L),(IntKind.wrap .i64 (a2L+1))),H,dd,rfl,rfl,de,(df.bring 1),(hm7 _ _ h).1⟩
  ·exact hx1 _ _ (hj1 a5O Fs7l7 H _ b4Y ((I.bring 1).bring 1) h)
def P2(a9h:Sl)(b0B:Sl)(k:d4)(b:d4)(H:Hp)(K:Bool→Hp→Prop):Prop:=
 a2v b H (fun e f=>
 N6 a9h e f (fun a c=>
 TG (a=true) (Z5 b c) (Sl.mk none 0 0) c (fun(g:Sl)(d:Hp)=>
 TG (a=true) (N6 b0B g d) false d (fun(i:Bool)(j:Hp)=>
 K (a&&i) j))))
def P3(b8Y:Sl)(a3N:Sl)(c9W:Sl)(b7e:Sl)(c:d4)(d:d4)(a5P:Int)(H:Hp)(n3:Int→Hp→Prop)(K:Bool→Hp→Prop):Prop:=
 (a5P < (b7e.n:Int)→
 (0:Int)≤a5P∧(a5P:Int) < b8Y.n∧∃a:Bool,EltH H b8Y a5P 1 [(vB a)]∧
 (0:Int)≤a5P∧(a5P:Int) < b7e.n∧∃b:Bool,EltH H b7e a5P 1 [(vB b)]∧
 ((a != b)=true→
 K false H)∧
 ((a != b)=false→
 n3 (IntKind.wrap .i64 (a5P+1)) H))∧
 (¬(a5P < (b7e.n:Int))→
 P2 a3N c9W c d H K)
def B9(a6G:Sl)(c9X:Sl)(c9Y:Sl)(d:d4)(b:d4)(H:Hp)(K:Bool→Hp→Prop):Prop:=
 a1f b H (fun a c=>
 (¬((a6G.n:Int)=(a.n:Int))→
 K false c)∧
 ((a6G.n:Int)=(a.n:Int)→
 TL (0:Int) c fun(s:Int) H n3=>P3 a6G c9X c9Y a d b s H n3 K))
def a0t(x0:d4)(x1:Int)(H:Hp)(K:Bool→Hp→Prop):Prop:=
 a2w H (fun k l=>
 ((!k)=true→
 K false l)∧
 ((!k)=false→
 a2y x0 l (fun a v=>
 a1g x0 v (fun b y=>
 a6V b x1 y (fun e c z=>
 a2z b z (fun f m aa=>
 a4h b aa (fun g o ab=>
 a1h b ab (fun i p ac=>
 O1 b ac (fun j q=>
 TG ((!decide (j=a))=false) (a0v b x0 q) false q (fun(r:Bool)(d:Hp)=>
 ((((((!decide (j=a))||(!r))||(!decide (m=a)))||(!decide (o=a)))||(!decide (p=a)))=true→
 K false d)∧
 ((((((!decide (j=a))||(!r))||(!decide (m=a)))||(!decide (o=a)))||(!decide (p=a)))=false→
 (¬(a=0)→
 K (((((decide (c=a))&&(decide ((e.n:Int)=0)))&&(decide ((f.n:Int)=0)))&&(decide ((g.n:Int)=0)))&&(decide ((i.n:Int)=0))) d)∧
 (a=0→
 (((decide (x1 < 0))||(decide (x0.c6≤x1)))=true→
 (((!decide (c=92))||(!decide ((e.n:Int)=0)))=true→
 K false d)∧
 (((!decide (c=92))||(!decide ((e.n:Int)=0)))=false→
 B9 f g i b x0 d K))∧
 (((decide (x1 < 0))||(decide (x0.c6≤x1)))=false→
 TG ((!decide (c=0))=false) (a0w x0 x1 d) (Sl.mk none 0 0) d (fun(ad:Sl)(s:Hp)=>
 TG ((!decide (c=0))=false) (N6 e ad s) false s (fun(t:Bool)(u:Hp)=>
 (((!decide (c=0))||(!t))=true→
 K false u)∧
 (((!decide (c=0))||(!t))=false→
 B9 f g i b x0 u K))))))))))))))))
theorem a7F(x0 x1){H K}(h:a0t x0 x1 H K):a0s x0 x1 H K:=by
 refine Ct.of fun w0 w ps0 H0 R E I hR=>c9J ?_
 unfold a0t at h
 unfold F4
 refine z6 I (cs:=(d8 x0)) rfl fun f cj bi ck=>?_
 refine f9 Tryz.call5 h bi ?_
 rintro _ bj _ cl z _ _ ⟨cm,rfl,rfl,h⟩
 refine c5 (J7 _) ?_
 refine m7 h (fun _ h=>?_) (fun _ h=>?_)
 ·exact hR _ bj _ _ z.drop ⟨false,rfl,rfl,h⟩
 ·refine c7 (lW Tryz.isAgg30 Tryz.sizeOf30 rfl z) ?_
  refine f9 Tryz.call9 h z ?_
  rintro _ _ _ cn ag _ _ ⟨bk,rfl,rfl,h⟩
  refine c7 (lW Tryz.isAgg30 Tryz.sizeOf30 rfl ag) ?_
  refine f9 Tryz.call10 h ag ?_
  rintro _ _ _ co bl _ _ ⟨d,rfl,rfl,h⟩
  refine r5 bl Tryz.zeroValue30 (cs:=[(nS),(vi 0),(nS),(vi 0),(vi 0),(nS)]) rfl fun aa cp bm cq=>?_
  refine u1 bm Tryz.sizeOf30 (vs:=(d8 d)) fun cr ah ct=>?_
  refine c7 (lW Tryz.isAgg30 Tryz.sizeOf30 rfl ah) ?_
  refine f9 Tryz.call11 h ah ?_
  rintro _ _ _ cu ai _ _ ⟨bn,aj,rfl,rfl,h⟩
  refine c5 (m5 _ _ _ rfl) (c5 (m5 _ _ (vi aj) rfl) (c7 (lW Tryz.isAgg30 Tryz.sizeOf30 rfl ai) ?_))
  refine f9 Tryz.call12 h ai ?_
  rintro _ _ _ cv ak _ _ ⟨ab,bo,rfl,rfl,h⟩
  refine c5 (m5 _ _ _ rfl) (c5 (m5 _ _ (vi bo) rfl) (c7 (lW Tryz.isAgg30 Tryz.sizeOf30 rfl ak) ?_))
  refine f9 Tryz.call13 h ak ?_
  rintro _ _ _ cw al _ _ ⟨i,bp,rfl,rfl,h⟩
  refine c5 (m5 _ _ _ rfl) (c5 (m5 _ _ (vi bp) rfl) (c7 (lW Tryz.isAgg30 Tryz.sizeOf30 rfl al) ?_))
  refine f9 Tryz.call14 h al ?_
  rintro _ _ _ cx am _ _ ⟨j,bq,rfl,rfl,h⟩
  refine c5 (m5 _ _ _ rfl) (c5 (m5 _ _ (vi bq) rfl) (c7 (lW Tryz.isAgg30 Tryz.sizeOf30 rfl am) ?_))
  refine f9 Tryz.call15 h am ?_
  rintro _ _ _ cy c _ _ ⟨cz,rfl,rfl,h⟩
  refine c5 pNe ?_
  refine c7 (Ld.g fun a=>by exact (lW Tryz.isAgg30 Tryz.sizeOf30 rfl c)) ?_
  refine c7 (Ld.g fun a=>by exact (lW Tryz.isAgg30 Tryz.sizeOf30 rfl (c.bring 1))) ?_
  refine N0 [] (fun m:Bool=>(vB m)) h c (fun an h=>?_) fun m e br b ao ap h=>?_
  ·have a:=an
   simp only [f6 a]
   refine f9 Tryz.call8 h c ?_
   rintro _ e _ br b ap ao ⟨m,rfl,rfl,h⟩
   exact ⟨m,e,rfl,b,ao,ap,h⟩
  refine c5 (Pu.g fun a=>by simp only [f6 a];with_reducible exact (J7 _)) ?_
  refine c5 (B8 _ _) ?_
  simp only [D4]
  refine c5 (Pu.g fun a=>by simp only [f6 a];with_reducible exact pNe) ?_
  refine c5 (B8 _ _) ?_
  simp only [D4]
  refine c5 (Pu.g fun a=>by simp only [f6 a];with_reducible exact pNe) ?_
  refine c5 (B8 _ _) ?_
  simp only [D4]
  refine c5 (Pu.g fun a=>by simp only [f6 a];with_reducible exact pNe) ?_
  refine c5 (B8 _ _) ?_
  refine m7 h (fun _ h=>?_) (fun _ h=>?_)
  ·exact hR _ e _ _ b.drop.drop ⟨false,rfl,rfl,h⟩
  ·refine c5 pNe ?_
   refine V5 h (fun _ h=>?_) (fun _ h=>?_)
   ·refine c5 pEq ?_
    simp only [D4]
    refine c5 (Pu.g fun a=>by simp only [f6 a];exact (Q2 _ _ _)) ?_
    refine c5 (Pu.g fun a=>by simp only [f6 a];with_reducible exact pEq) ?_
    refine c5 (A4 _ _) ?_
    simp only [D4]
    refine c5 (Pu.g fun a=>by simp only [f6 a];exact (b0x _ _ _)) ?_
    refine c5 (Pu.g fun a=>by simp only [f6 a];with_reducible exact pEq) ?_
    refine c5 (A4 _ _) ?_
    simp only [D4]
    refine c5 (Pu.g fun a=>by simp only [f6 a];exact (Q2 _ _ _)) ?_
    refine c5 (Pu.g fun a=>by simp only [f6 a];with_reducible exact pEq) ?_
    refine c5 (A4 _ _) ?_
    simp only [D4]
    refine c5 (Pu.g fun a=>by simp only [f6 a];exact (Q2 _ _ _)) ?_
    refine c5 (Pu.g fun a=>by simp only [f6 a];with_reducible exact pEq) ?_
    refine c5 (A4 _ _) ?_
    exact hR _ e _ _ b.drop.drop ⟨(((((decide (aj=bk))&&(decide ((bn.n:Int)=0)))&&(decide ((ab.n:Int)=0)))&&(decide ((i.n:Int)=0)))&&(decide ((j.n:Int)=0))),rfl,rfl,h⟩
   ·have hj1:∀H w (_:Inv w0 ps0 H0 H [bx aa 30 (d8 d),bx f 30 (d8 x0)] w) (_:B9 ab i j d x0 H K),c0K (Value.pointer (some ⟨f,0,none⟩)) (vs ab) (vs i) (vs j) w R E:=by
     intro H w I h
     unfold c0K
     intro _
     unfold B9 at h
     refine c7 (lW Tryz.isAgg30 Tryz.sizeOf30 rfl (I.bring 1)) ?_
     refine f9 Tryz.call18 h I ?_
     rintro _ bs _ da aq _ _ ⟨db,rfl,rfl,h⟩
     refine c5 (b0x _ _ _) (c5 (b0x _ _ _) (c5 pNe ?_))
     refine V5 h (fun _ h=>?_) (fun _ h=>?_)
     ·exact hR _ bs _ _ aq.drop.drop ⟨false,rfl,rfl,h⟩
     ·have hj2:∀H w (_:Inv w0 ps0 H0 H [bx aa 30 (d8 d),bx f 30 (d8 x0)] w) (_:P2 i j d x0 H K),c0J (Value.pointer (some ⟨f,0,none⟩)) (vs i) (vs j) w R E:=by
       intro H w I h
       unfold c0J
       intro _
       unfold P2 at h
       refine c7 (lW Tryz.isAgg30 Tryz.sizeOf30 rfl (I.bring 1)) ?_
       refine f9 Tryz.call19 h I ?_
       rintro _ _ _ dc bt _ _ ⟨dd,rfl,rfl,h⟩
       refine f9 Tryz.call16 h bt ?_
       rintro _ _ _ de k _ _ ⟨bu,rfl,rfl,h⟩
       simp only [D4]
       refine c7 (Ld.g fun a=>by exact (lW Tryz.isAgg30 Tryz.sizeOf30 rfl (k.bring 1))) ?_
       refine N0 [] (fun o:Sl=>(vs o)) h k (fun ar h=>?_) fun o au bv p av aw h=>?_
       ·have a:=ar
        simp only [f6 a]
        refine f9 Tryz.call20 h k ?_
        rintro _ au _ bv p aw av ⟨o,rfl,rfl,h⟩
        exact ⟨o,au,rfl,p,av,aw,h⟩
       refine N0 [] (fun l:Bool=>(vB l)) h p (fun ax h=>?_) fun l ac bw ad ay az h=>?_
       ·have a:=ax
        simp only [f6 a]
        refine f9 Tryz.call16 h p ?_
        rintro _ ac _ bw ad az ay ⟨l,rfl,rfl,h⟩
        exact ⟨l,ac,rfl,ad,ay,az,h⟩
       refine c5 (A4 _ _) ?_
       exact hR _ ac _ _ ad.drop.drop ⟨(bu&&l),rfl,rfl,h⟩
      refine o5 fun j2 hx2=>?_
      refine a0g (σ:=Int) (fun a5P=>[(vi a5P)]) (fun a5P=>[bx aa 30 (d8 d),bx f 30 (d8 x0)]) h rfl ((aq.bring 1).bring 1) ?_
      rintro a5P H df w next3 n3 ba I h hn3
      simp only [List.map_cons,List.map_nil,List.cons.injEq,and_true] at ba
      have e16:=ba
      simp only [e16]
      unfold c4A
      unfold P3 at h
      refine c5 (b0x _ _ _) (c5 pLs ?_)
      refine d9 h (fun _ h=>?_) (fun _ h=>?_)
      ·refine I0 I fun dg q=>?_
       obtain ⟨bz,ca,cb,ae,h⟩:=h
       obtain ⟨dh,di,cc,ae⟩:=ae
       refine d5 (Y0 cc _ _ _ _ bz ca) ?_
       obtain ⟨cd,ce,cf,af,h⟩:=h
       obtain ⟨dj,dk,cg,af⟩:=af
       refine d5 (Y0 cg _ _ _ _ cd ce) ?_
       refine j9 (ld1 (v:=(vB cb)) Tryz.isAgg4 (q.atH ae)) ?_
       refine j9 (ld1 (v:=(vB cf)) Tryz.isAgg4 (q.atH af)) ?_
       refine d5 (c3v _ _ _ _) ?_
       refine m7 h (fun _ h=>?_) (fun _ h=>?_)
       ·exact hR _ H _ _ q.drop.drop ⟨false,rfl,rfl,h⟩
       ·refine c5 pAd ?_
        exact hn3 (IntKind.wrap .i64 (a5P+1)) _ _ h ((q.bring 1).bring 1)
      ·exact hx2 _ _ (hj2 H _ ((I.bring 1).bring 1) h)
    refine o5 fun j1 hx1=>?_
    refine c5 pLs ?_
    simp only [D4]
    refine c5 (Pu.g fun a=>by with_reducible exact v7) ?_
    refine c7 (Ld.g fun a=>by simp only [f6 a];exact (l1 Tryz.isAgg3 (b.bring 1) rfl)) ?_
    refine c5 (Pu.g fun a=>by simp only [f6 a];with_reducible exact pGe) ?_
    refine c5 (B8 _ _) ?_
    refine m7 h (fun _ h=>?_) (fun _ h=>?_)
    ·refine c5 pNe ?_
     simp only [D4]
     refine c5 (Pu.g fun a=>by simp only [f6 a];exact (Q2 _ _ _)) ?_
     refine c5 (Pu.g fun a=>by simp only [f6 a];with_reducible exact pNe) ?_
     refine c5 (B8 _ _) ?_
     refine m7 h (fun _ h=>?_) (fun _ h=>?_)
     ·exact hR _ e _ _ b.drop.drop ⟨false,rfl,rfl,h⟩
     ·exact hx1 _ _ (hj1 e _ ((b.bring 1).bring 1) h)
    ·refine c5 pNe ?_
     simp only [D4]
     refine c7 (Ld.g fun a=>by exact (lW Tryz.isAgg30 Tryz.sizeOf30 rfl (b.bring 1))) ?_
     refine N0 [] (fun r:Sl=>(vs r)) h b (fun bb h=>?_) fun r bc ch s bd be h=>?_
     ·have a:=bb
      simp only [f6 a]
      refine f9 Tryz.call17 h b ?_
      rintro _ bc _ ch s be bd ⟨r,rfl,rfl,h⟩
      exact ⟨r,bc,rfl,s,bd,be,h⟩
     refine N0 [] (fun t:Bool=>(vB t)) h s (fun bf h=>?_) fun t u ci y bg bh h=>?_
     ·have a:=bf
      simp only [f6 a]
      refine f9 Tryz.call16 h s ?_
      rintro _ u _ ci y bh bg ⟨t,rfl,rfl,h⟩
      exact ⟨t,u,rfl,y,bg,bh,h⟩
     refine c5 (Pu.g fun a=>by simp only [f6 a];with_reducible exact (J7 _)) ?_
     refine c5 (B8 _ _) ?_
     refine m7 h (fun _ h=>?_) (fun _ h=>?_)
     ·exact hR _ u _ _ y.drop.drop ⟨false,rfl,rfl,h⟩
     ·exact hx1 _ _ (hj1 u _ ((y.bring 1).bring 1) h)
def a1J(a9L:Int)(b4Z:(List ByteArray))(b:A8)(H:Hp)(K:Sl→Int→Hp→Prop):Prop:=
 ∀(a8m:Sl)(a:Hp),Hle H a→SlH a 1 y9 a8m b4Z→a8m.n≤a8m.c→
 K a8m a9L a
def a1K(D3:Int)(c4O:Sl)(c4P:Int)(b:A8)(a5e:(List ByteArray))(a0Y:Int)(H:Hp)(n2:((List ByteArray)×Int)→Hp→Prop)(K:Sl→Int→Hp→Prop):Prop:=
 (a0Y < c4P→
 (0:Int)≤a0Y∧(a0Y:Int) < c4O.n∧∃a:j8,EltH H c4O a0Y 2 (i5 a)∧
 (a5e.length+([a.i7]:List ByteArray).length)*17≤140737488355328∧
 n2 ((a5e++[a.i7]),(IntKind.wrap .i64 (a0Y+1))) H)∧
 (¬(a0Y < c4P)→
 a1J D3 a5e b H K)
def a6a(x0:A8)(H:Hp)(K:Sl→Int→Hp→Prop):Prop:=
 a6W x0 1 H (fun a b c=>
 TL (([],0):(List ByteArray)×Int) c fun(s:(List ByteArray)×Int) H n2=>a1K b a (a.n:Int) x0 s.1 s.2 H n2 K)
theorem b2N(x0){H K}(h:a6a x0 H K):a8t x0 H K:=by
 refine Ct.of fun w0 w ps0 H0 R E I hR=>c7s ?_
 unfold a6a at h
 unfold F21
 refine z6 I (cs:=(v8 x0)) rfl fun m ap o aq=>?_
 refine c7 (lW Tryz.isAgg25 Tryz.sizeOf25 rfl o) ?_
 refine f9 Tryz.call44 h o ?_
 rintro _ u _ ar v _ _ ⟨p,d,rfl,rfl,h⟩
 refine c5 (m5 _ _ _ rfl) (c5 (m5 _ _ (vi d) rfl) ?_)
 have hj1:∀(b4Z:(List ByteArray))(a8m:Sl)(Fs6j1:Frag) H w (_:RowL 9 1 y9 a8m b4Z Fs6j1) (_:Inv w0 ps0 H0 H [bx m 25 (v8 x0),Fs6j1] w) (_:a1J d b4Z x0 H K),b8o (vi d) (vs a8m) w R E:=by
  intro b4Z a8m Fs6j1 H w c9Z I h
  unfold b8o
  intro _
  unfold a1J at h
  obtain ⟨q,y,z,aa,ab⟩:=Inv.freezeC (I.bring 1) c9Z (by decide)
  replace h:=h a8m q z aa ab
  exact hR _ q _ _ y.drop ⟨a8m,d,rfl,rfl,h⟩
 refine o5 fun j1 hx1=>?_
 refine c5 (Y6 _ _ _) ?_
 obtain ⟨i,f,ac,ad⟩:=h
 refine C1 (J:=fun n l w=>∃(s:(List ByteArray)×Int)(H:Hp)(b5a:Sl)(Fs6l2:Frag),n=f s∧l=(match s with | (a5e,a0Y)=>[(vs b5a),(vi a0Y)])∧(match s with | (a5e,a0Y)=>RowL 9 1 y9 b5a a5e Fs6l2)∧(match s with | (a5e,a0Y)=>Inv w0 ps0 H0 H [bx m 25 (v8 x0),Fs6l2] w)∧i s H) ⟨_,([],0),u,(Sl.mk none 0 0),[],rfl,rfl,(RowL.nil a5C a6O),(v.nil.bring 1),ac⟩ ?_
 rintro au av w next2 ⟨⟨a5e,a0Y⟩,H,b5a,Fs6l2,rfl,j,c0X,I,ae⟩ hn2
 dsimp only at j I c0X
 simp only [List.map_cons,List.map_nil,List.cons.injEq,and_true] at j
 obtain ⟨e6,e16⟩:=j
 simp only [e6,e16]
 obtain ⟨n2,hm2,h⟩:∃n2:((List ByteArray)×Int)→Hp→Prop,(∀s' H',n2 s' H'→i s' H'∧f s' < f (a5e,a0Y))∧a1K d p (p.n:Int) x0 a5e a0Y H n2 K:=⟨_,fun _ _ h=>h,ad (a5e,a0Y) H (fun s' H'=>i s' H'∧f s' < f (a5e,a0Y)) ae (fun _ _ a b=>⟨a,b⟩)⟩
 unfold c2l
 unfold a1K at h
 refine c5 pLs ?_
 refine d9 h (fun _ h=>?_) (fun _ h=>?_)
 ·obtain ⟨af,ag,g,k,h⟩:=h
  obtain ⟨aw,ax,ah,k⟩:=k
  refine c5 (a1U ah _ _ _ _ af ag) (c7 (ldA (vs:=(i5 g)) Tryz.isAgg70 Tryz.sizeOf70 rfl (I.atH k)) ?_)
  refine r5 I Tryz.zeroValue70 (cs:=[(eS),(vi 0)]) rfl fun ay az ai ba=>?_
  refine u1 ai Tryz.sizeOf70 (vs:=(i5 g)) fun bb r bc=>?_
  refine c5 a4f (c7 (l1 Tryz.isAgg9 r rfl) ?_)
  refine X9 (e:=9) (c:=y9) (xs:=[g.i7]) r (b9V _) rfl rfl a5C a6O (nb rfl) fun bd be bf aj t bg=>?_
  obtain ⟨ak,h⟩:=h
  refine b7M (s:=b5a) (xs:=a5e) (t.bring 3) c0X (aj.srcO ((t.bring 3).bring 1)) ak fun al am bh an ao bi=>?_
  refine c5 pAd ?_
  exact hn2 _ _ _ (hm2 _ _ h).2 ⟨((a5e++[g.i7]),(IntKind.wrap .i64 (a0Y+1))),H,al,am,rfl,rfl,an,(((ao.bring 1).drop.bring 1).drop.bring 1),(hm2 _ _ h).1⟩
 ·exact hx1 _ _ (hj1 a5e b5a Fs6l2 H _ c0X ((I.bring 1).bring 1) h)
def a2M(x0:f3)(a:(List c8))(x1:c8)(H:Hp)(K:f3→(List c8)→Hp→Prop):Prop:=
 (a.length+([x1]:List c8).length)*81≤140737488355328∧
 K (d6 x0) (a++[x1]) H
theorem a9j(x0 a x1){H K}(h:a2M x0 a x1 H K):A0 x0 a x1 H K:=by
 intro g0 f r g
 refine Ct.of fun w0 w ps0 H0 R E I hR=>c8d ?_
 unfold a2M at h
 unfold F69
 refine z6 I (cs:=(f7 x1)) rfl fun t u i v=>?_
 refine I0 i fun y b=>?_
 refine d5 (r8 _) ?_
 refine d5 N2 ?_
 refine d5 y3 ?_
 refine j9 (l1 Tryz.isAgg28 (b.bring 1) rfl) ?_
 refine j9 (lW Tryz.isAgg40 Tryz.sizeOf40 rfl b) ?_
 refine X9 (e:=40) (c:=f7) (xs:=[x1]) b (b9U _ _ _ _ _ _ _ _ _ _) rfl rfl a1T a4b (nb rfl) fun z aa ab j d k=>?_
 refine ⟨(k _ (b.bring 1).lt1),?_⟩
 obtain ⟨l,h⟩:=h
 refine b7L (s:=f) (xs:=a) (d.bring 3) g (j.srcO ((d.bring 3).bring 1)) l fun m n ac o p ad=>?_
 refine d5 (r8 _) ?_
 refine d5 N2 ?_
 refine d5 y3 ?_
 refine L3 ((p.bring 1).drop.bring 2) Tryz.sizeOf28 fun ae q af=>?_
 exact hR _ H _ _ (((q.bring 2).drop.bring 1).bring 1) ⟨(d6 x0),(a++[x1]),m,n,rfl,rfl,o,h⟩
def a7I(x0:Int)(H:Hp)(K:Int→Hp→Prop):Prop:=
 (0:Int)≤x0∧(x0:Int) < 11∧
 K (([0,0,0,9,10,3,4,5,6,7,8]:List Int).getD (x0:Int).toNat 0) H
theorem b2y(x0){H K}(h:a7I x0 H K):a5D x0 H K:=by
 refine Ct.of fun w0 w ps0 H0 R E I hR=>c5H ?_
 unfold a7I at h
 unfold c8s
 refine c5 (a8r _ _ _ _ _ _ _ _) ?_
 obtain ⟨a,b,h⟩:=h
 refine c5 (c0F _ _ _ _ _ _ _ _ _ _ _ _ _ a b) ?_
 exact hR _ H _ _ I ⟨(([0,0,0,9,10,3,4,5,6,7,8]:List Int).getD (x0:Int).toNat 0),rfl,rfl,h⟩
def a0G(x0:f3)(a:(List c8))(x1:q8)(x2:Int)(x3:Int)(H:Hp)(K:i6→Int→f3→(List c8)→Hp→Prop):Prop:=
 X5 (d6 x0) a x1 H (fun f b c=>
 (b=true→
 K f x2 (d6 x0) a c)∧
 (b=false→
 C0 (d6 x0) a c (fun d g i j=>
 a2D (d6 g) i x3 j (fun e k l m=>
 Z6 (d6 k) l x1 e x2 d x3 m (fun n o p=>
 K (i6.mk e 0) d (d6 n) o p)))))
theorem a7L(x0 b x1 x2 x3){H K}(h:a0G x0 b x1 x2 x3 H K):N7 x0 b x1 x2 x3 H K:=by
 intro g0 c d e
 refine Ct.of fun w0 w ps0 H0 R E I hR=>c8n ?_
 unfold a0G at h
 unfold F98
 refine z6 I (cs:=(m6 x1)) rfl fun al am n an=>?_
 refine r5 n Tryz.zeroValue38 (cs:=[(vi 0),(vi 0)]) rfl fun ao ap j aq=>?_
 refine c7 (lW Tryz.isAgg123 Tryz.sizeOf123 rfl (j.bring 1)) ?_
 refine f9 Tryz.call96 (h g0 c d e) ((j.bring 3).bring 3) ?_
 rintro _ p _ ar q _ _ ⟨f,r,rfl,rfl,h⟩
 refine c5 (m5 _ _ _ rfl) (c5 (m5 _ _ (vB r) rfl) ?_)
 refine r5 q Tryz.zeroValue38 (cs:=[(vi 0),(vi 0)]) rfl fun au av s aw=>?_
 refine u1 s Tryz.sizeOf38 (vs:=(j6 f)) fun ax g ay=>?_
 refine m7 h (fun _ h=>?_) (fun _ h=>?_)
 ·refine c7 (lW Tryz.isAgg38 Tryz.sizeOf38 rfl g) ?_
  refine u1 (g.bring 3) Tryz.sizeOf38 (vs:=(j6 f)) fun az k ba=>?_
  refine S9 Tryz.isAgg38 Tryz.sizeOf38 rfl k ?_
  exact hR _ p _ _ (((k.drop.drop.bring 2).drop.bring 1).bring 1) ⟨f,x2,(d6 x0),b,c,d,rfl,rfl,e,h⟩
 ·refine f9 Tryz.call23 (h g0 c d e) ((g.bring 2).bring 2) ?_
  rintro _ _ _ bb t _ _ ⟨u,bc,bd,v,y,rfl,rfl,z,h⟩
  refine f9 Tryz.call111 (h g0 v y z) ((t.bring 1).bring 1) ?_
  rintro _ _ _ be aa _ _ ⟨a,bf,bg,ab,ac,rfl,rfl,ad,h⟩
  refine c5 (a5A _) ?_
  refine r5 aa Tryz.zeroValue38 (cs:=[(vi 0),(vi 0)]) rfl fun bh bi ae bj=>?_
  refine u1 ae Tryz.sizeOf38 (vs:=[(vi a),(vi 0)]) fun bk i bl=>?_
  refine c7 (lW Tryz.isAgg123 Tryz.sizeOf123 rfl (i.bring 5)) (c5 a4V (c7 (l1 Tryz.isAgg3 i rfl) ?_))
  refine f9 Tryz.call97 (h g0 ab ac ad) ((i.bring 2).bring 2) ?_
  rintro _ af _ bm l _ _ ⟨ag,ah,ai,aj,rfl,rfl,ak,h⟩
  refine c7 (ldA Tryz.isAgg38 Tryz.sizeOf38 rfl ((l.bring 2).at1 (o:=0) (vs:=[(vi a),(vi 0)]) (nb rfl) rfl)) ?_
  refine u1 (l.bring 4) Tryz.sizeOf38 (vs:=[(vi a),(vi 0)]) fun bn m bo=>?_
  refine S9 Tryz.isAgg38 Tryz.sizeOf38 rfl m ?_
  exact hR _ af _ _ (((((m.drop.bring 2).drop.bring 2).drop.bring 2).drop.bring 1).bring 1) ⟨(i6.mk a 0),u,(d6 ag),ah,ai,aj,rfl,rfl,ak,h⟩
def a1s(x0:f3)(a:(List c8))(x1:Sl)(x2:Int)(H:Hp)(K:Int→f3→(List c8)→Hp→Prop):Prop:=
 ((x1.n:Int)=0→
 K x2 (d6 x0) a H)∧
 (¬((x1.n:Int)=0)→
 C0 (d6 x0) a H (fun b c d e=>
 K b (d6 c) d e))
theorem a8x(x0 a x1 x2){H K}(h:a1s x0 a x1 x2 H K):O2 x0 a x1 x2 H K:=by
 intro g0 b c d
 refine Ct.of fun w0 w ps0 H0 R E I hR=>c8e ?_
 unfold a1s at h
 unfold F70
 refine c5 (a2Z _ _ _) (c5 pEq ?_)
 refine d9 h (fun _ h=>?_) (fun _ h=>?_)
 ·exact hR _ H _ _ ((I.bring 1).bring 1) ⟨x2,(d6 x0),a,b,c,rfl,rfl,d,h⟩
 ·refine f9 Tryz.call23 (h g0 b c d) ((I.bring 1).bring 1) ?_
  rintro _ e _ n f _ _ ⟨g,i,j,k,l,rfl,rfl,m,h⟩
  exact hR _ e _ _ ((f.bring 1).bring 1) ⟨g,(d6 i),j,k,l,rfl,rfl,m,h⟩
def a2N(x0:f3)(b:(List c8))(x1:v2)(x2:Int)(x3:Int)(x4:Int)(H:Hp)(K:f3→(List c8)→Hp→Prop):Prop:=
 (x1.d3=1→
 J8 x2 x3 1 H (fun r s=>
 A0 (d6 x0) b r s (fun t u v=>
 K (d6 t) u v)))∧
 (¬(x1.d3=1)→
 (x1.d3=2→
 J8 x2 x4 1 H (fun y z=>
 A0 (d6 x0) b y z (fun aa ab ac=>
 K (d6 aa) ab ac)))∧
 (¬(x1.d3=2)→
 (x1.d3=4→
 (0:Int)≤0∧(0:Int) < x1.A5.n∧∃c:v2,EltH H x1.A5 0 4 (o8 c)∧
 A7 (d6 x0) b c x2 x4 x3 H (fun ad ae af=>
 K (d6 ad) ae af))∧
 (¬(x1.d3=4)→
 (x1.d3=5→
 C0 (d6 x0) b H (fun d ag ah e=>
 (0:Int)≤0∧(0:Int) < x1.A5.n∧∃f:v2,EltH e x1.A5 0 4 (o8 f)∧
 A7 (d6 ag) ah f x2 d x4 e (fun ai aj g=>
 (0:Int)≤1∧(1:Int) < x1.A5.n∧∃i:v2,EltH g x1.A5 1 4 (o8 i)∧
 A7 (d6 ai) aj i d x3 x4 g (fun ak al am=>
 K (d6 ak) al am))))∧
 (¬(x1.d3=5)→
 (x1.d3=6→
 C0 (d6 x0) b H (fun j an ao k=>
 (0:Int)≤0∧(0:Int) < x1.A5.n∧∃l:v2,EltH k x1.A5 0 4 (o8 l)∧
 A7 (d6 an) ao l x2 x3 j k (fun ap aq m=>
 (0:Int)≤1∧(1:Int) < x1.A5.n∧∃o:v2,EltH m x1.A5 1 4 (o8 o)∧
 A7 (d6 ap) aq o j x3 x4 m (fun ar au av=>
 K (d6 ar) au av))))∧
 (¬(x1.d3=6)→
 S2 (d6 x0) b x1.m8 x2 0 H (fun p q aw ax ay az=>
 J8 aw x3 12 az (fun a ba=>
 A0 (d6 ax) ay (c8.mk a.o4 a.fTo a.d3 a.O0 a.K0 x1.fOp p q) ba (fun bb bc bd=>
 a3m x1.fOp bd (fun be bf=>
 A0 (d6 bb) bc (c8.mk a.o4 x4 a.d3 a.O0 a.K0 be p q) bf (fun bg bh bi=>
 K (d6 bg) bh bi))))))))))
theorem a9k(x0 t x1 x2 x3 x4){H K}(h:a2N x0 t x1 x2 x3 x4 H K):A7 x0 t x1 x2 x3 x4 H K:=by
 intro g0 e f g
 refine Ct.of fun w0 w ps0 H0 R E I hR=>c8f ?_
 unfold a2N at h
 unfold F71
 refine z6 I (cs:=(o8 x1)) rfl fun dz ea b eb=>?_
 refine c5 b0H (c7 (l1 Tryz.isAgg3 b rfl) (c5 pEq ?_))
 refine d9 h (fun _ h=>?_) (fun _ h=>?_)
 ·refine f9 Tryz.call67 h b ?_
  rintro _ _ _ ec ab _ _ ⟨ed,rfl,rfl,h⟩
  refine f9 Tryz.call69 (h g0 e f g) ((ab.bring 2).bring 2) ?_
  rintro _ ac _ ee ad _ _ ⟨ae,af,ag,ah,rfl,rfl,ai,h⟩
  exact hR _ ac _ _ (((ad.bring 2).drop.bring 1).bring 1) ⟨(d6 ae),af,ag,ah,rfl,rfl,ai,h⟩
 ·refine c5 pEq ?_
  refine d9 h (fun _ h=>?_) (fun _ h=>?_)
  ·refine f9 Tryz.call67 h b ?_
   rintro _ _ _ ef aj _ _ ⟨eg,rfl,rfl,h⟩
   refine f9 Tryz.call69 (h g0 e f g) ((aj.bring 2).bring 2) ?_
   rintro _ ak _ eh al _ _ ⟨am,an,ao,ap,rfl,rfl,aq,h⟩
   exact hR _ ak _ _ (((al.bring 2).drop.bring 1).bring 1) ⟨(d6 am),an,ao,ap,rfl,rfl,aq,h⟩
  ·refine c5 pEq ?_
   refine d9 h (fun _ h=>?_) (fun _ h=>?_)
   ·refine c5 a3d (c7 (l1 Tryz.isAgg58 b rfl) ?_)
    obtain ⟨ar,au,av,j,h⟩:=h
    obtain ⟨ei,ej,aw,j⟩:=j
    refine c5 (a1V aw _ _ _ _ ar au) (c7 (ldA (vs:=(o8 av)) Tryz.isAgg131 Tryz.sizeOf131 rfl (b.atH j)) ?_)
    refine f9 Tryz.call71 (h g0 e f g) ((b.bring 2).bring 2) ?_
    rintro _ ax _ ek ay _ _ ⟨az,ba,bb,bc,rfl,rfl,bd,h⟩
    exact hR _ ax _ _ (((ay.bring 2).drop.bring 1).bring 1) ⟨(d6 az),ba,bb,bc,rfl,rfl,bd,h⟩
   ·refine c5 pEq ?_
    refine d9 h (fun _ h=>?_) (fun _ h=>?_)
    ·refine f9 Tryz.call23 (h g0 e f g) ((b.bring 2).bring 2) ?_
     rintro _ _ _ el k _ _ ⟨em,en,eo,be,bf,rfl,rfl,bg,h⟩
     refine c5 a3d (c7 (l1 Tryz.isAgg58 (k.bring 2) rfl) ?_)
     obtain ⟨bh,bi,bj,l,h⟩:=h
     obtain ⟨ep,eq,bk,l⟩:=l
     refine c5 (a1V bk _ _ _ _ bh bi) (c7 (ldA (vs:=(o8 bj)) Tryz.isAgg131 Tryz.sizeOf131 rfl (k.atH l)) ?_)
     refine f9 Tryz.call71 (h g0 be bf bg) ((k.bring 1).bring 1) ?_
     rintro _ _ _ er m _ _ ⟨es,et,bl,bm,rfl,rfl,bn,h⟩
     refine c5 a3d (c7 (l1 Tryz.isAgg58 (m.bring 2) rfl) ?_)
     obtain ⟨bo,bp,bq,n,h⟩:=h
     obtain ⟨eu,ev,br,n⟩:=n
     refine c5 (a1V br _ _ _ _ bo bp) (c7 (ldA (vs:=(o8 bq)) Tryz.isAgg131 Tryz.sizeOf131 rfl (m.atH n)) ?_)
     refine f9 Tryz.call71 (h g0 bl bm bn) ((m.bring 1).bring 1) ?_
     rintro _ bs _ ew bt _ _ ⟨bu,bv,bw,bz,rfl,rfl,ca,h⟩
     exact hR _ bs _ _ (((bt.bring 2).drop.bring 1).bring 1) ⟨(d6 bu),bv,bw,bz,rfl,rfl,ca,h⟩
    ·refine c5 pEq ?_
     refine d9 h (fun _ h=>?_) (fun _ h=>?_)
     ·refine f9 Tryz.call23 (h g0 e f g) ((b.bring 2).bring 2) ?_
      rintro _ _ _ ex p _ _ ⟨ey,ez,fa,cb,cc,rfl,rfl,cd,h⟩
      refine c5 a3d (c7 (l1 Tryz.isAgg58 (p.bring 2) rfl) ?_)
      obtain ⟨ce,cf,cg,q,h⟩:=h
      obtain ⟨fb,fc,ch,q⟩:=q
      refine c5 (a1V ch _ _ _ _ ce cf) (c7 (ldA (vs:=(o8 cg)) Tryz.isAgg131 Tryz.sizeOf131 rfl (p.atH q)) ?_)
      refine f9 Tryz.call71 (h g0 cb cc cd) ((p.bring 1).bring 1) ?_
      rintro _ _ _ fd r _ _ ⟨fe,ff,ci,cj,rfl,rfl,ck,h⟩
      refine c5 a3d (c7 (l1 Tryz.isAgg58 (r.bring 2) rfl) ?_)
      obtain ⟨cl,cm,cn,s,h⟩:=h
      obtain ⟨fg,fh,co,s⟩:=s
      refine c5 (a1V co _ _ _ _ cl cm) (c7 (ldA (vs:=(o8 cn)) Tryz.isAgg131 Tryz.sizeOf131 rfl (r.atH s)) ?_)
      refine f9 Tryz.call71 (h g0 ci cj ck) ((r.bring 1).bring 1) ?_
      rintro _ cp _ fi cq _ _ ⟨cr,ct,cu,cv,rfl,rfl,cw,h⟩
      exact hR _ cp _ _ (((cq.bring 2).drop.bring 1).bring 1) ⟨(d6 cr),ct,cu,cv,rfl,rfl,cw,h⟩
     ·refine c5 a8h (c7 (l1 Tryz.isAgg57 b rfl) ?_)
      refine f9 Tryz.call68 (h g0 e f g) ((b.bring 2).bring 2) ?_
      rintro _ _ _ fj cx _ _ ⟨c,d,cy,fk,fl,cz,da,rfl,rfl,db,h⟩
      refine c5 (m5 _ _ _ rfl) (c5 (m5 _ _ _ rfl) (c5 (m5 _ _ (vi cy) rfl) ?_))
      refine r5 cx Tryz.zeroValue38 (cs:=[(vi 0),(vi 0)]) rfl fun fm fn dc fo=>?_
      refine r5 dc Tryz.zeroValue38 (cs:=[(vi 0),(vi 0)]) rfl fun fp fq dd fs=>?_
      refine u1 (dd.bring 1) Tryz.sizeOf38 (vs:=(j6 c)) fun ft de fu=>?_
      refine u1 (de.bring 1) Tryz.sizeOf38 (vs:=(j6 d)) fun fv df fw=>?_
      refine f9 Tryz.call67 h df ?_
      rintro _ _ _ fx dg _ _ ⟨a,rfl,rfl,h⟩
      refine r5 dg Tryz.zeroValue40 (cs:=[(vi 0),(vi 0),(vi 0),(vi 0),(vi 0),(vi 0),(vi 0),(vi 0),(vi 0),(vi 0)]) rfl fun fy fz dh ga=>?_
      refine u1 dh Tryz.sizeOf40 (vs:=(f7 a)) fun gb di gc=>?_
      refine I0 di fun gd i=>?_
      refine d5 a6N ?_
      refine j9 (l1 Tryz.isAgg3 (i.bring 5) rfl) ?_
      refine d5 X2 ?_
      refine j9 (lW Tryz.isAgg38 Tryz.sizeOf38 rfl (i.bring 2)) ?_
      refine j9 (lW Tryz.isAgg38 Tryz.sizeOf38 rfl (i.bring 1)) ?_
      refine L3 i Tryz.sizeOf3 fun ge u v=>?_
      refine ⟨(v _ (Inv.b7w ((i.bring 1).bring 1))),(v _ (Inv.b7w ((i.bring 2).bring 1))),?_⟩
      refine d5 X1 ?_
      refine a3e u Tryz.sizeOf38 (vs:=(j6 c)) (cs':=[(vi a.o4),(vi a.fTo),(vi a.d3),(vi a.O0),(vi a.K0),(vi x1.fOp),(vi c.r9),(vi c.p6),(vi a.fB.r9),(vi a.fB.p6)]) rfl rfl (nb rfl) rfl rfl fun gf dj dk=>?_
      refine ⟨(dk _ (Inv.b7w ((u.bring 1).bring 1))),?_⟩
      refine d5 a0S ?_
      refine a3e dj Tryz.sizeOf38 (vs:=(j6 d)) (cs':=[(vi a.o4),(vi a.fTo),(vi a.d3),(vi a.O0),(vi a.K0),(vi x1.fOp),(vi c.r9),(vi c.p6),(vi d.r9),(vi d.p6)]) rfl rfl (nb rfl) rfl rfl fun gg y gh=>?_
      refine c7 (ldA Tryz.isAgg40 Tryz.sizeOf40 rfl (y.at1 (o:=0) (vs:=[(vi a.o4),(vi a.fTo),(vi a.d3),(vi a.O0),(vi a.K0),(vi x1.fOp),(vi c.r9),(vi c.p6),(vi d.r9),(vi d.p6)]) (nb rfl) rfl)) ?_
      refine f9 Tryz.call69 (h g0 cz da db) ((y.bring 4).bring 4) ?_
      rintro _ _ _ gi z _ _ ⟨gj,gk,dl,dm,rfl,rfl,dn,h⟩
      refine c5 a6N (c7 (l1 Tryz.isAgg3 (z.bring 5) rfl) ?_)
      refine f9 Tryz.call59 h z ?_
      rintro _ _ _ gl dp _ _ ⟨dq,rfl,rfl,h⟩
      refine c5 X3 ?_
      refine L3 (dp.bring 2) Tryz.sizeOf3 fun gm dr gn=>?_
      refine c5 X2 ?_
      refine L3 dr Tryz.sizeOf3 fun go aa gp=>?_
      refine c7 (ldA Tryz.isAgg40 Tryz.sizeOf40 rfl (aa.at1 (o:=0) (vs:=[(vi a.o4),(vi x4),(vi a.d3),(vi a.O0),(vi a.K0),(vi dq),(vi c.r9),(vi c.p6),(vi d.r9),(vi d.p6)]) (nb rfl) rfl)) ?_
      refine f9 Tryz.call69 (h g0 dl dm dn) ((aa.bring 2).bring 2) ?_
      rintro _ ds _ gq dt _ _ ⟨du,dv,dw,dx,rfl,rfl,dy,h⟩
      exact hR _ ds _ _ ((((((dt.bring 2).drop.bring 2).drop.bring 2).drop.bring 2).drop.bring 1).bring 1) ⟨(d6 du),dv,dw,dx,rfl,rfl,dy,h⟩
def B1(L0:(List d7))(H:Hp)(K:Sl→Hp→Prop):Prop:=
 ∀(C4:Sl)(a:Hp),Hle H a→SlH a 1 t6 C4 L0→C4.n≤C4.c→
 K C4 a
def B2(a2G:Sl)(a3v:Int)(t8:(List d7))(u7:Int)(H:Hp)(n2:((List d7)×Int)→Hp→Prop)(K:Sl→Hp→Prop):Prop:=
 (u7 < a3v→
 (0:Int)≤u7∧(u7:Int) < a2G.n∧∃a:u5,EltH H a2G u7 6 (u4 a)∧
 a7s a H (fun b c=>
 (t8.length+([b]:List d7).length)*17≤140737488355328∧
 n2 ((t8++[b]),(IntKind.wrap .i64 (u7+1))) c))∧
 (¬(u7 < a3v)→
 B1 t8 H K)
def E9(x0:Sl)(H:Hp)(K:Sl→Hp→Prop):Prop:=
 TL (([],0):(List d7)×Int) H fun(s:(List d7)×Int) H n2=>B2 x0 (x0.n:Int) s.1 s.2 H n2 K
theorem a0H(x0){H K}(h:E9 x0 H K):y5 x0 H K:=by
 refine Ct.of fun w0 w ps0 H0 R E I hR=>c5N ?_
 unfold E9 at h
 unfold c8y
 have hj1:∀(L0:(List d7))(C4:Sl)(Fs5j1:Frag) H w (_:RowL 182 1 t6 C4 L0 Fs5j1) (_:Inv w0 ps0 H0 H [Fs5j1] w) (_:B1 L0 H K),b5O (vs C4) w R E:=by
  intro L0 C4 Fs5j1 H w a4t I h
  unfold b5O
  intro _
  unfold B1 at h
  obtain ⟨j,q,r,t,u⟩:=Inv.freezeC I a4t (by decide)
  replace h:=h C4 j r t u
  exact hR _ j _ _ q ⟨C4,rfl,rfl,h⟩
 refine o5 fun j1 hx1=>?_
 refine c5 (a2Z _ _ _) ?_
 obtain ⟨f,d,v,y⟩:=h
 refine C1 (J:=fun n l w=>∃(s:(List d7)×Int)(H:Hp)(P6:Sl)(Fs5l2:Frag),n=d s∧l=(match s with | (t8,u7)=>[(vs P6),(vi u7)])∧(match s with | (t8,u7)=>RowL 182 1 t6 P6 t8 Fs5l2)∧(match s with | (t8,u7)=>Inv w0 ps0 H0 H [Fs5l2] w)∧f s H) ⟨_,([],0),H,(Sl.mk none 0 0),[],rfl,rfl,(RowL.nil N5 Q1),I.nil,v⟩ ?_
 rintro am an w next2 ⟨⟨t8,u7⟩,H,P6,Fs5l2,rfl,g,a1B,I,z⟩ hn2
 dsimp only at g I a1B
 simp only [List.map_cons,List.map_nil,List.cons.injEq,and_true] at g
 obtain ⟨e5,e10⟩:=g
 simp only [e5,e10]
 obtain ⟨n2,hm2,h⟩:∃n2:((List d7)×Int)→Hp→Prop,(∀s' H',n2 s' H'→f s' H'∧d s' < d (t8,u7))∧B2 x0 (x0.n:Int) t8 u7 H n2 K:=⟨_,fun _ _ h=>h,y (t8,u7) H (fun s' H'=>f s' H'∧d s' < d (t8,u7)) z (fun _ _ a b=>⟨a,b⟩)⟩
 unfold c0d
 unfold B2 at h
 refine c5 pLs ?_
 refine d9 h (fun _ h=>?_) (fun _ h=>?_)
 ·obtain ⟨aa,ab,k,i,h⟩:=h
  obtain ⟨ao,ap,ac,i⟩:=i
  refine c5 (b4n ac _ _ _ _ aa ab) (c7 (ldA (vs:=(u4 k)) Tryz.isAgg60 Tryz.sizeOf60 rfl (I.atH i)) ?_)
  refine r5 I Tryz.zeroValue60 (cs:=[(vi 0),(eS),(nS),(nS),(nS),(nS)]) rfl fun aq ar ad au=>?_
  refine u1 ad Tryz.sizeOf60 (vs:=(u4 k)) fun av m aw=>?_
  refine c7 (lW Tryz.isAgg60 Tryz.sizeOf60 rfl m) ?_
  refine f9 Tryz.call122 h m ?_
  rintro _ ae _ ax af _ _ ⟨o,rfl,rfl,h⟩
  refine X9 (e:=182) (c:=t6) (xs:=[o]) af (b1E _) rfl rfl N5 Q1 (nb rfl) fun ay az ba ag p bb=>?_
  obtain ⟨ah,h⟩:=h
  refine b1a (s:=P6) (xs:=t8) (p.bring 2) a1B (ag.srcO ((p.bring 2).bring 1)) ah fun ai aj bc ak al bd=>?_
  refine c5 pAd ?_
  exact hn2 _ _ _ (hm2 _ _ h).2 ⟨((t8++[o]),(IntKind.wrap .i64 (u7+1))),ae,ai,aj,rfl,rfl,ak,((al.bring 1).drop.bring 1).drop,(hm2 _ _ h).1⟩
 ·exact hx1 _ _ (hj1 t8 P6 Fs5l2 H _ a1B I h)
def a7h(x0:Int)(x1:Int)(x2:Int)(H:Hp)(K:Bool→Hp→Prop):Prop:=
 K ((decide (x0≤x2))&&(decide (x2≤x1))) H
theorem b1g(x0 x1 x2){H K}(h:a7h x0 x1 x2 H K):J1 x0 x1 x2 H K:=by
 intro g2
 refine Ct.of fun w0 w ps0 H0 R E I hR=>c6b ?_
 unfold a7h at h
 unfold c8M
 refine c7 (l1 Tryz.isAgg21 I rfl) (c5 pLe ?_)
 refine c7 (Ld.g fun a=>by exact (l1 Tryz.isAgg21 I rfl)) ?_
 simp only [D4]
 refine c5 (Pu.g fun a=>by simp only [f6 a];with_reducible exact pLe) ?_
 refine c5 (A4 _ _) ?_
 exact hR _ H _ _ I ⟨((decide (x0≤x2))&&(decide (x2≤x1))),rfl,rfl,h⟩
def a6J(x0:ByteArray)(H:Hp)(K:Bool→Hp→Prop):Prop:=
 Y2 x0 H (fun a b=>
 K (decide (32 < a)) b)
theorem b3U(x0){H K}(h:a6J x0 H K):a6D x0 H K:=by
 refine Ct.of fun w0 w ps0 H0 R E I hR=>c5V ?_
 unfold a6J at h
 unfold c8G
 refine f9 Tryz.call137 h I ?_
 rintro _ a _ d b _ _ ⟨c,rfl,rfl,h⟩
 refine c5 pGt ?_
 exact hR _ a _ _ b ⟨(decide (32 < c)),rfl,rfl,h⟩
def p8(y8:Bool)(H:Hp)(K:Bool→Hp→Prop):Prop:=
 (y8=true→
 K true H)∧
 (y8=false→
 K false H)
def a6K(x0:ByteArray)(H:Hp)(K:Bool→Hp→Prop):Prop:=
 (x0=⟨#[118,97,114]⟩→
 p8 (decide (x0=⟨#[118,97,114]⟩)) H K)∧
 (¬(x0=⟨#[118,97,114]⟩)→
 (x0=⟨#[97,114,114,97,121]⟩→
 p8 (decide (x0=⟨#[97,114,114,97,121]⟩)) H K)∧
 (¬(x0=⟨#[97,114,114,97,121]⟩)→
 (x0=⟨#[105,102]⟩→
 p8 (decide (x0=⟨#[105,102]⟩)) H K)∧
 (¬(x0=⟨#[105,102]⟩)→
 (x0=⟨#[101,108,115,101]⟩→
 p8 (decide (x0=⟨#[101,108,115,101]⟩)) H K)∧
 (¬(x0=⟨#[101,108,115,101]⟩)→
 (x0=⟨#[119,104,105,108,101]⟩→
 p8 (decide (x0=⟨#[119,104,105,108,101]⟩)) H K)∧
 (¬(x0=⟨#[119,104,105,108,101]⟩)→
 (x0=⟨#[97,115,115,101,114,116]⟩→
 p8 (decide (x0=⟨#[97,115,115,101,114,116]⟩)) H K)∧
 (¬(x0=⟨#[97,115,115,101,114,116]⟩)→
 (x0=⟨#[97,115,115,117,109,101]⟩→
 p8 (decide (x0=⟨#[97,115,115,117,109,101]⟩)) H K)∧
 (¬(x0=⟨#[97,115,115,117,109,101]⟩)→
 (x0=⟨#[115,107,105,112]⟩→
 p8 (decide (x0=⟨#[115,107,105,112]⟩)) H K)∧
 (¬(x0=⟨#[115,107,105,112]⟩)→
 (x0=⟨#[105,110,112,117,116]⟩→
 p8 (decide (x0=⟨#[105,110,112,117,116]⟩)) H K)∧
 (¬(x0=⟨#[105,110,112,117,116]⟩)→
 (x0=⟨#[116,114,117,101]⟩→
 p8 (decide (x0=⟨#[116,114,117,101]⟩)) H K)∧
 (¬(x0=⟨#[116,114,117,101]⟩)→
 p8 (decide (x0=⟨#[102,97,108,115,101]⟩)) H K))))))))))
theorem b3V(x0){H K}(h:a6K x0 H K):a6E x0 H K:=by
 refine Ct.of fun w0 w ps0 H0 R E I hR=>c5W ?_
 unfold a6K at h
 unfold c8H
 have hj1:∀(y8:Bool) H w (_:Inv w0 ps0 H0 H [] w) (_:p8 y8 H K),b5T (vB y8) w R E:=by
  intro y8 H w I h
  unfold b5T
  intro _
  unfold p8 at h
  refine m7 h (fun _ h=>?_) (fun _ h=>?_)
  ·exact hR _ H _ _ I ⟨true,rfl,rfl,h⟩
  ·exact hR _ H _ _ I ⟨false,rfl,rfl,h⟩
 refine o5 fun j1 hx1=>?_
 refine c5 (a2s _ _ _ _ _) ?_
 refine d9 h (fun _ h=>?_) (fun _ h=>?_)
 ·exact hx1 _ _ (hj1 (decide (x0=⟨#[118,97,114]⟩)) H _ I h)
 ·refine c5 (a2s _ _ _ _ _) ?_
  refine d9 h (fun _ h=>?_) (fun _ h=>?_)
  ·exact hx1 _ _ (hj1 (decide (x0=⟨#[97,114,114,97,121]⟩)) H _ I h)
  ·refine c5 (a2s _ _ _ _ _) ?_
   refine d9 h (fun _ h=>?_) (fun _ h=>?_)
   ·exact hx1 _ _ (hj1 (decide (x0=⟨#[105,102]⟩)) H _ I h)
   ·refine c5 (a2s _ _ _ _ _) ?_
    refine d9 h (fun _ h=>?_) (fun _ h=>?_)
    ·exact hx1 _ _ (hj1 (decide (x0=⟨#[101,108,115,101]⟩)) H _ I h)
    ·refine c5 (a2s _ _ _ _ _) ?_
     refine d9 h (fun _ h=>?_) (fun _ h=>?_)
     ·exact hx1 _ _ (hj1 (decide (x0=⟨#[119,104,105,108,101]⟩)) H _ I h)
     ·refine c5 (a2s _ _ _ _ _) ?_
      refine d9 h (fun _ h=>?_) (fun _ h=>?_)
      ·exact hx1 _ _ (hj1 (decide (x0=⟨#[97,115,115,101,114,116]⟩)) H _ I h)
      ·refine c5 (a2s _ _ _ _ _) ?_
       refine d9 h (fun _ h=>?_) (fun _ h=>?_)
       ·exact hx1 _ _ (hj1 (decide (x0=⟨#[97,115,115,117,109,101]⟩)) H _ I h)
       ·refine c5 (a2s _ _ _ _ _) ?_
        refine d9 h (fun _ h=>?_) (fun _ h=>?_)
        ·exact hx1 _ _ (hj1 (decide (x0=⟨#[115,107,105,112]⟩)) H _ I h)
        ·refine c5 (a2s _ _ _ _ _) ?_
         refine d9 h (fun _ h=>?_) (fun _ h=>?_)
         ·exact hx1 _ _ (hj1 (decide (x0=⟨#[105,110,112,117,116]⟩)) H _ I h)
         ·refine c5 (a2s _ _ _ _ _) ?_
          refine d9 h (fun _ h=>?_) (fun _ h=>?_)
          ·exact hx1 _ _ (hj1 (decide (x0=⟨#[116,114,117,101]⟩)) H _ I h)
          ·refine c5 (a2s _ _ _ _ _) ?_
           exact hx1 _ _ (hj1 (decide (x0=⟨#[102,97,108,115,101]⟩)) H _ I h)
def P7(H:Hp)(K:Int→Hp→Prop):Prop:=
 K (-1) H
def a0d(d0a:(List ByteArray))(a1o:ByteArray)(a9M:Int)(a2G:Int)(H:Hp)(n2:Int→Hp→Prop)(K:Int→Hp→Prop):Prop:=
 (a2G < a9M→
 (0:Int)≤a2G∧∃a:ByteArray,(d0a)[(a2G:Int).toNat]? = some a∧
 (a1o=a→
 K a2G H)∧
 (¬(a1o=a)→
 n2 (IntKind.wrap .i64 (a2G+1)) H))∧
 (¬(a2G < a9M)→
 P7 H K)
def a0I(x0:(List ByteArray))(x1:ByteArray)(H:Hp)(K:Int→Hp→Prop):Prop:=
 TL (0:Int) H fun(s:Int) H n2=>a0d x0 x1 (x0.length:Int) s H n2 K
theorem a7M(x0 x1){H K}(h:a0I x0 x1 H K):a0E x0 x1 H K:=by
 intro sx0 Fx0 hx0
 refine Ct.of fun w0 w ps0 H0 R E I hR=>c5Z ?_
 unfold a0I at h
 unfold c8K
 have hj1:∀H w (_:Inv w0 ps0 H0 H [Fx0] w) (_:P7 H K),b5Y w R E:=by
  intro H w I h
  unfold b5Y
  intro _
  unfold P7 at h
  exact hR _ H _ _ I ⟨(-1),rfl,rfl,h⟩
 refine o5 fun j1 hx1=>?_
 refine c5 (a6l Tryz.underlying27 hx0) ?_
 refine a0g (σ:=Int) (fun a2G=>[(vi a2G)]) (fun a2G=>[Fx0]) h rfl I ?_
 rintro a2G H f w next2 n2 b I h hn2
 simp only [List.map_cons,List.map_nil,List.cons.injEq,and_true] at b
 have e8:=b
 simp only [e8]
 unfold c0h
 unfold a0d at h
 refine c5 pLs ?_
 refine d9 h (fun _ h=>?_) (fun _ h=>?_)
 ·obtain ⟨c,e,a,h⟩:=h
  obtain ⟨g,i,d,j⟩:=hx0.addr a
  refine c5 (b1z d _ _ _ _ c (hx0.lt c a)) (c7 (ld1 (v:=(Value.string e)) Tryz.isAgg9 (hx0.atW I d a)) (c5 (a2s _ _ _ _ _) ?_))
  refine d9 h (fun _ h=>?_) (fun _ h=>?_)
  ·exact hR _ H _ _ I ⟨a2G,rfl,rfl,h⟩
  ·refine c5 pAd ?_
   exact hn2 (IntKind.wrap .i64 (a2G+1)) _ _ h I
 ·exact hx1 _ _ (hj1 H _ I h)
def Z9(a7N:Int)(a7O:Int)(a7P:Int)(a7Q:Bool)(a7R:Bool)(a7i:(List ByteArray))(H:Hp)(K:Bool→m1→(List ByteArray)→Hp→Prop):Prop:=
 K true (m1.mk a7N a7O a7P a7Q a7R (Sl.mk none 0 0)) a7i H
def a0b(a1o:Int)(a3v:Sl)(u7:Int)(a0X:Int)(a2f:Int)(a2g:Int)(a2h:Int)(a2i:Bool)(a2j:Bool)(a0l:(List ByteArray))(H:Hp)(n2:(Int×Int×Int×Int×Bool×Bool×(List ByteArray))→Hp→Prop)(K:Bool→m1→(List ByteArray)→Hp→Prop):Prop:=
 (a0X < u7→
 (0:Int)≤a0X∧(a0X:Int) < a3v.n∧∃c:d7,EltH H a3v a0X 1 [(D7 c)]∧
 a1X (m1.mk a2f a2g a2h a2i a2j (Sl.mk none 0 0)) a0l c a1o H (fun b d e f=>
 TG ((!b)=false) (a4H c f) (Sl.mk none 0 0) f (fun(j:Sl)(g:Hp)=>
 TG ((!b)=false) (fun k_=>W7 j (IntKind.wrap .i64 (a1o+1)) (a0i d) e g fun k l m H_=>k_ (k,l,m) H_) (false,(a0i d),e) g (fun(a:Bool×m1×(List ByteArray))(i:Hp)=>
 (((!b)||(!a.1))=true→
 K false (m1.mk (a.2.1.fnodes) (a.2.1.fdepth) (a.2.1.fe) (a.2.1.fform) (a.2.1.fnamed) (Sl.mk none 0 0)) a.2.2 i)∧
 (((!b)||(!a.1))=false→
 n2 ((IntKind.wrap .i64 (a0X+1)),(a.2.1.fnodes),(a.2.1.fdepth),(a.2.1.fe),(a.2.1.fform),(a.2.1.fnamed),a.2.2) i)))))∧
 (¬(a0X < u7)→
 Z9 a2f a2g a2h a2i a2j a0l H K)
def a4o(x0:Sl)(x1:Int)(x2:m1)(a:(List ByteArray))(H:Hp)(K:Bool→m1→(List ByteArray)→Hp→Prop):Prop:=
 TL ((0,x2.fnodes,x2.fdepth,x2.fe,x2.fform,x2.fnamed,a):Int×Int×Int×Int×Bool×Bool×(List ByteArray)) H fun(s:Int×Int×Int×Int×Bool×Bool×(List ByteArray)) H n2=>a0b x1 x0 (x0.n:Int) s.1 s.2.1 s.2.2.1 s.2.2.2.1 s.2.2.2.2.1 s.2.2.2.2.2.1 s.2.2.2.2.2.2 H n2 K
theorem b0S(x0 x1 x2 ai){H K}(h:a4o x0 x1 x2 ai H K):W7 x0 x1 x2 ai H K:=by
 intro g2 g2b g3 az ba bb
 refine Ct.of fun w0 w ps0 H0 R E I hR=>c5P ?_
 unfold a4o at h
 unfold c8A
 have hj1:∀(a7N:Int)(a7O:Int)(a7P:Int)(a7Q:Bool)(a7R:Bool)(a7i:(List ByteArray))(b0C:Sl)(b0D:Frag) H w (_:RowL 9 1 y9 b0C a7i b0D) (_:Inv w0 ps0 H0 H [bx g2 170 [(Value.pointer (some ⟨g2b,0,none⟩))],bx g2b 169 [(vi a7N),(vi a7O),(vi a7P),(vB a7Q),(vB a7R),(vs b0C)],bx g3 189 [(Value.func (.func 124) #[] #[(Value.pointer (some ⟨g2,0,none⟩)),(Value.pointer (some ⟨g3,0,none⟩))])],b0D] w) (_:Z9 a7N a7O a7P a7Q a7R a7i H K),b5P w R E:=by
  intro a7N a7O a7P a7Q a7R a7i b0C b0D H w c2G I h
  unfold b5P
  intro _
  unfold Z9 at h
  exact hR _ H _ _ ((((I.bring 2).bring 3).bring 3).bring 3) ⟨true,(m1.mk a7N a7O a7P a7Q a7R (Sl.mk none 0 0)),a7i,b0C,b0D,rfl,rfl,c2G,h⟩
 refine o5 fun j1 hx1=>?_
 refine c5 (a9f _ _ _) ?_
 obtain ⟨aj,z,bc,bd⟩:=h
 refine C1 (J:=fun n l w=>∃(s:Int×Int×Int×Int×Bool×Bool×(List ByteArray))(H:Hp)(a8y:Sl)(a8z:Frag),n=z s∧l=(match s with | (a0X,a2f,a2g,a2h,a2i,a2j,a0l)=>[(vi a0X)])∧(match s with | (a0X,a2f,a2g,a2h,a2i,a2j,a0l)=>RowL 9 1 y9 a8y a0l a8z)∧(match s with | (a0X,a2f,a2g,a2h,a2i,a2j,a0l)=>Inv w0 ps0 H0 H [bx g2 170 [(Value.pointer (some ⟨g2b,0,none⟩))],bx g2b 169 [(vi a2f),(vi a2g),(vi a2h),(vB a2i),(vB a2j),(vs a8y)],bx g3 189 [(Value.func (.func 124) #[] #[(Value.pointer (some ⟨g2,0,none⟩)),(Value.pointer (some ⟨g3,0,none⟩))])],a8z] w)∧aj s H) ⟨_,(0,x2.fnodes,x2.fdepth,x2.fe,x2.fform,x2.fnamed,ai),H,az,ba,rfl,rfl,bb,((((I.bring 2).bring 3).bring 3).bring 3),bc⟩ ?_
 rintro bj bk w next2 ⟨⟨a0X,a2f,a2g,a2h,a2i,a2j,a0l⟩,H,a8y,a8z,rfl,ak,b2O,I,be⟩ hn2
 dsimp only at ak I b2O
 simp only [List.map_cons,List.map_nil,List.cons.injEq,and_true] at ak
 have e11:=ak
 simp only [e11]
 obtain ⟨n2,hm2,h⟩:∃n2:(Int×Int×Int×Int×Bool×Bool×(List ByteArray))→Hp→Prop,(∀s' H',n2 s' H'→aj s' H'∧z s' < z (a0X,a2f,a2g,a2h,a2i,a2j,a0l))∧a0b x1 x0 (x0.n:Int) a0X a2f a2g a2h a2i a2j a0l H n2 K:=⟨_,fun _ _ h=>h,bd (a0X,a2f,a2g,a2h,a2i,a2j,a0l) H (fun s' H'=>aj s' H'∧z s' < z (a0X,a2f,a2g,a2h,a2i,a2j,a0l)) be (fun _ _ a b=>⟨a,b⟩)⟩
 unfold c0e
 unfold a0b at h
 refine c5 pLs ?_
 refine d9 h (fun _ h=>?_) (fun _ h=>?_)
 ·obtain ⟨bf,bg,bh,al,h⟩:=h
  obtain ⟨bl,bm,bi,al⟩:=al
  refine c5 (c1V bi _ _ _ _ bf bg) (c7 (ld1 (v:=(D7 bh)) Tryz.isAgg182 (I.atH al)) ?_)
  refine I0 I fun bn ao=>?_
  refine j9 (l1 Tryz.isAgg170 ao rfl) ?_
  refine f9 Tryz.call125 (h g2b a8y a8z b2O) ((ao.bring 3).bring 2) ?_
  rintro _ ap _ aq o _ _ ⟨p,aa,am,ac,ad,rfl,rfl,ar,h⟩
  refine d5 (J7 _) ?_
  simp only [D4]
  refine d5 (Pu.g fun c=>by simp only [f6 c];with_reducible exact pAd) ?_
  refine j9 (Ld.g fun c=>by exact (l1 Tryz.isAgg189 (o.bring 3) rfl)) ?_
  refine b4I (D:=fun au u=>∃(ab:Sl)(k:Hp),au=(gv (!p) false (vs ab))∧(Inv w0 ps0 H0 k [bx g2b 169 (a0D aa ac),ad,bx g2 170 [(Value.pointer (some ⟨g2b,0,none⟩))],bx g3 189 [(Value.func (.func 124) #[] #[(Value.pointer (some ⟨g2,0,none⟩)),(Value.pointer (some ⟨g3,0,none⟩))])]] u)∧(∀i,i < aq.heap.size→¬inF [] i→u.heap[i]? = aq.heap[i]?)∧Hle ap k∧(TG ((!p)=false) (fun k_=>W7 ab (IntKind.wrap .i64 (x1+1)) (a0i aa) am k fun m d j H_=>k_ (m,d,j) H_) (false,(a0i aa),am) k (fun(e:Bool×m1×(List ByteArray))(f:Hp)=>
 (((!p)||(!e.1))=true→
 K false (m1.mk (e.2.1.fnodes) (e.2.1.fdepth) (e.2.1.fe) (e.2.1.fform) (e.2.1.fnamed) (Sl.mk none 0 0)) e.2.2 f)∧
 (((!p)||(!e.1))=false→
 n2 ((IntKind.wrap .i64 (a0X+1)),(e.2.1.fnodes),(e.2.1.fdepth),(e.2.1.fe),(e.2.1.fform),(e.2.1.fnamed),e.2.2) f)))) (fun y=>?_) (fun y=>?_) ?_
  ·replace h:=h.1 y
   have c:=y
   simp only [f6 c]
   refine b0P o h (fun ab k u ae av an h=>?_)
   exact ⟨ab,k,by rfl,ae,an,av,h⟩
  ·exact ⟨(Sl.mk none 0 0),ap,by rw [b5y y],o,fun _ _ _=>rfl,Hle.refl _,h.2 y⟩
  ·clear h
   rintro au u ⟨ab,k,rfl,ae,an,av,h⟩
   refine ⟨(an _ (o.bring 3).lt1 (Inv.N4 (Fi:=[]) (o.bring 3))),?_⟩
   refine b4I (D:=fun aw af=>∃(m:Bool)(d:m1)(j:(List ByteArray))(f:Hp)(q:Sl)(r:Frag),aw=(gv (!p) false (vB m))∧(RowL 9 1 y9 q j r)∧(Inv w0 ps0 H0 f [bx g2 170 [(Value.pointer (some ⟨g2b,0,none⟩))],bx g2b 169 (a0D d q),r,bx g3 189 [(Value.func (.func 124) #[] #[(Value.pointer (some ⟨g2,0,none⟩)),(Value.pointer (some ⟨g3,0,none⟩))])]] af)∧(∀i,i < u.heap.size→¬inF [bx g2 170 [(Value.pointer (some ⟨g2b,0,none⟩))],bx g2b 169 (a0D aa ac),ad,bx g3 189 [(Value.func (.func 124) #[] #[(Value.pointer (some ⟨g2,0,none⟩)),(Value.pointer (some ⟨g3,0,none⟩))])]] i→af.heap[i]? = u.heap[i]?)∧Hle k f∧((((!p)||(!m))=true→
 K false (a0i d) j f)∧
 (((!p)||(!m))=false→
 n2 ((IntKind.wrap .i64 (a0X+1)),d.fnodes,d.fdepth,d.fe,d.fform,d.fnamed,j) f))) (fun t=>?_) (fun t=>?_) ?_
   ·replace h:=h.1 t
    have c:=t
    simp only [f6 c]
    refine a4D (cap:=[(Value.pointer (some ⟨g2,0,none⟩)),(Value.pointer (some ⟨g3,0,none⟩))]) Tryz.call124 (h g2 g2b g3 ac ad ar) ((((ae.bring 3).bring 2).bring 2).bring 3) ?_
    rintro _ f _ af ag ax ay ⟨m,d,j,q,r,rfl,rfl,ah,h⟩
    exact ⟨m,d,j,f,q,r,by rfl,ah,ag,ay,ax,h⟩
   ·exact ⟨false,(a0i aa),am,k,ac,ad,by rw [b5y t],ar,((((ae.bring 3).bring 2).bring 2).bring 3),fun _ _ _=>rfl,Hle.refl _,h.2 t⟩
   ·clear h
    rintro aw af ⟨m,d,j,f,q,r,rfl,ah,ag,ay,ax,h⟩
    refine d5 (Pu.g fun c=>by simp only [f6 c];with_reducible exact (J7 _)) ?_
    refine d5 (B8 _ _) ?_
    refine m7 h (fun _ h=>?_) (fun _ h=>?_)
    ·exact hR _ f _ _ ((((ag.bring 3).bring 3).bring 3).bring 3) ⟨false,(a0i d),j,q,r,rfl,rfl,ah,h⟩
    ·refine c5 pAd ?_
     exact hn2 _ _ _ (hm2 _ _ h).2 ⟨((IntKind.wrap .i64 (a0X+1)),d.fnodes,d.fdepth,d.fe,d.fform,d.fnamed,j),f,q,r,rfl,rfl,ah,((((ag.bring 2).bring 3).bring 3).bring 3),(hm2 _ _ h).1⟩
 ·exact hx1 _ _ (hj1 a2f a2g a2h a2i a2j a0l a8y a8z H _ b2O ((((I.bring 3).bring 3).bring 3).bring 3) h)
def J6(d:Int)(e:Int)(f:Int)(g:Bool)(i:Bool)(j:(List ByteArray))(H:Hp)(K:m1→Hp→Prop):Prop:=
 ∀(a:Sl)(b:Hp),Hle H b→SlH b 1 y9 a j→a.n≤a.c→
 K (m1.mk d e f g i a) b
def a5f(x0:Sl)(H:Hp)(K:m1→Hp→Prop):Prop:=
 W7 x0 1 (m1.mk 0 0 0 false false (Sl.mk none 0 0)) [] H (fun d a b c=>
 ((!d)=true→
 J6 a.fnodes a.fdepth a.fe a.fform a.fnamed b c K)∧
 ((!d)=false→
 (a.fform=true→
 J6 a.fnodes a.fdepth 30 a.fform a.fnamed b c K)∧
 (a.fform=false→
 (a.fnamed=true→
 J6 a.fnodes a.fdepth 31 a.fform a.fnamed b c K)∧
 (a.fnamed=false→
 J6 a.fnodes a.fdepth a.fe a.fform a.fnamed b c K))))
theorem b1O(x0){H K}(h:a5f x0 H K):a4X x0 H K:=by
 refine Ct.of fun w0 w ps0 H0 R E I hR=>c5J ?_
 unfold a5f at h
 unfold c8u
 refine c5 (c0G) ?_
 refine z6 I (cs:=[(vi 0),(vi 0),(vi 0),(vB false),(vB false),(nS)]) rfl fun d aj y ak=>?_
 refine r5 y Tryz.zeroValue170 (cs:=[(Value.pointer none)]) rfl fun c al z am=>?_
 refine u1 z Tryz.sizeOf170 (vs:=[(Value.pointer (some ⟨d,0,none⟩))]) fun an aa ao=>?_
 refine r5 aa Tryz.zeroValue189 (cs:=[Value.nilFunc]) rfl fun f ap ab aq=>?_
 refine c5 (a5z _ _ _) ?_
 refine u1 ab Tryz.sizeOf189 (vs:=[(Value.func (.func 124) #[] #[(Value.pointer (some ⟨c,0,none⟩)),(Value.pointer (some ⟨f,0,none⟩))])]) fun ar u au=>?_
 have hj1:∀(i:Int)(j:Int)(k:Int)(l:Bool)(m:Bool)(s:(List ByteArray))(g:Sl)(t:Frag) H w (_:RowL 9 1 y9 g s t) (_:Inv w0 ps0 H0 H [bx c 170 [(Value.pointer (some ⟨d,0,none⟩))],bx d 169 [(vi i),(vi j),(vi k),(vB l),(vB m),(vs g)],bx f 189 [(Value.func (.func 124) #[] #[(Value.pointer (some ⟨c,0,none⟩)),(Value.pointer (some ⟨f,0,none⟩))])],t] w) (_:J6 i j k l m s H K),b5J (Value.pointer (some ⟨c,0,none⟩)) w R E:=by
  intro i j k l m s g t H w ac I h
  unfold b5J
  intro _
  unfold J6 at h
  refine c7 (l1 Tryz.isAgg170 I rfl) ?_
  obtain ⟨v,ad,ae,af,ag⟩:=Inv.freezeC (I.bring 3) ac (by decide)
  replace h:=h g v ae af ag
  exact hR _ v _ _ (ad.drop.bring 1).drop ⟨(m1.mk i j k l m g),d,rfl,rfl,h⟩
 refine o5 fun j1 hx1=>?_
 refine c7 (l1 Tryz.isAgg189 u rfl) ?_
 refine a4D (cap:=[(Value.pointer (some ⟨c,0,none⟩)),(Value.pointer (some ⟨f,0,none⟩))]) Tryz.call124 (h c d f (Sl.mk none 0 0) ([]) (RowL.nil (e:=9) a5C a6O)) ((((u.nil.bring 1).bring 1).bring 3).bring 3) ?_
 rintro _ n _ av b _ _ ⟨aw,a,o,p,q,rfl,rfl,r,h⟩
 refine c5 (J7 _) ?_
 refine m7 h (fun _ h=>?_) (fun _ h=>?_)
 ·exact hx1 _ _ (hj1 a.fnodes a.fdepth a.fe a.fform a.fnamed o p q n _ r ((((b.bring 2).bring 3).bring 3).bring 3) h)
 ·refine c7 (l1 Tryz.isAgg170 b rfl) (c5 (r8 _) (c5 b0L (c7 (l1 Tryz.isAgg4 (b.bring 1) rfl) ?_)))
  refine m7 h (fun _ h=>?_) (fun _ h=>?_)
  ·refine c7 (l1 Tryz.isAgg170 b rfl) (c5 (r8 _) (c5 a6P ?_))
   refine L3 (b.bring 1) Tryz.sizeOf31 fun ax ah ay=>?_
   exact hx1 _ _ (hj1 a.fnodes a.fdepth 30 a.fform a.fnamed o p q n _ r ((((ah.bring 2).bring 3).bring 2).bring 3) h)
  ·refine c7 (l1 Tryz.isAgg170 b rfl) (c5 (r8 _) (c5 b0M (c7 (l1 Tryz.isAgg4 (b.bring 1) rfl) ?_)))
   refine m7 h (fun _ h=>?_) (fun _ h=>?_)
   ·refine c7 (l1 Tryz.isAgg170 b rfl) (c5 (r8 _) (c5 a6P ?_))
    refine L3 (b.bring 1) Tryz.sizeOf31 fun az ai ba=>?_
    exact hx1 _ _ (hj1 a.fnodes a.fdepth 31 a.fform a.fnamed o p q n _ r ((((ai.bring 2).bring 3).bring 2).bring 3) h)
   ·exact hx1 _ _ (hj1 a.fnodes a.fdepth a.fe a.fform a.fnamed o p q n _ r ((((b.bring 2).bring 3).bring 3).bring 3) h)
def a6L(x0:A8)(H:Hp)(K:m1→Hp→Prop):Prop:=
 E6 x0.a9G H (fun d e=>
 y5 x0.a9a e (fun f g=>
 ∀(a:Sl)(b:Hp),Hle g b→SlH b 1 csl a [d,f]→a.n≤a.c→
 B7 a b (fun i j=>
 a4X i j (fun k l=>
 K k l))))
theorem b3W(x0){H K}(h:a6L x0 H K):a6F x0 H K:=by
 refine Ct.of fun w0 w ps0 H0 R E I hR=>c5E ?_
 unfold a6L at h
 unfold c8p
 refine z6 I (cs:=(v8 x0)) rfl fun z aa b ab=>?_
 refine I0 b fun ac a=>?_
 refine d5 b1C ?_
 refine d5 a9b ?_
 refine j9 (l1 Tryz.isAgg22 a rfl) ?_
 refine j9 (l1 Tryz.isAgg23 a rfl) ?_
 refine f9 Tryz.call119 h a ?_
 rintro _ _ _ ad d _ f ⟨g,rfl,rfl,h⟩
 refine ⟨(f _ a.lt1 (Inv.N4 (Fi:=[]) a)),?_⟩
 refine f9 Tryz.call121 h d ?_
 rintro _ _ _ ae i _ _ ⟨j,rfl,rfl,h⟩
 refine X9 (e:=179) (c:=csl) (xs:=[g,j]) i (b7P _ _ _ _ _ _) rfl rfl b3i b3j (nb rfl) fun k af ag l m ah=>?_
 obtain ⟨n,o,p,q,r⟩:=Inv.freezeC m l (by decide)
 replace h:=h k n p q r
 refine f9 Tryz.call118 h o ?_
 rintro _ _ _ ai s _ _ ⟨aj,rfl,rfl,h⟩
 refine f9 Tryz.call117 h s ?_
 rintro _ t _ ak u _ _ ⟨v,y,rfl,rfl,h⟩
 exact hR _ t _ _ (u.bring 1).drop ⟨v,y,rfl,rfl,h⟩
def T9(c4Q:Sl)(c4R:Int)(d:v2)(a4w:Int)(J4:(List f8))(H:Hp)(n2:(Int×(List f8))→Hp→Prop)(K:i8→(List f8)→Hp→Prop):Prop:=
 (a4w < c4R→
 (0:Int)≤a4w∧(a4w:Int) < c4Q.n∧∃a:v2,EltH H c4Q a4w 4 (o8 a)∧
 Z7 (i8.mk (Sl.mk none 0 0)) J4 a H (fun e b c=>
 n2 ((IntKind.wrap .i64 (a4w+1)),b) c))∧
 (¬(a4w < c4R)→
 K (i8.mk (Sl.mk none 0 0)) J4 H)
def U0(a:v2)(a0J:(List f8))(H:Hp)(K:i8→(List f8)→Hp→Prop):Prop:=
 TL ((0,a0J):Int×(List f8)) H fun(s:Int×(List f8)) H n2=>T9 a.A5 (a.A5.n:Int) a s.1 s.2 H n2 K
def U1(b8Y:Sl)(c4S:Int)(b:v2)(a3N:Int)(a2k:(List f8))(H:Hp)(n3:(Int×(List f8))→Hp→Prop)(K:i8→(List f8)→Hp→Prop):Prop:=
 (a3N < c4S→
 (0:Int)≤a3N∧(a3N:Int) < b8Y.n∧∃a:q8,EltH H b8Y a3N 4 (m6 a)∧
 Q6 (i8.mk (Sl.mk none 0 0)) a2k a H (fun e c d=>
 n3 ((IntKind.wrap .i64 (a3N+1)),c) d))∧
 (¬(a3N < c4S)→
 U0 b a2k H K)
def a2O(x0:i8)(a:(List f8))(x1:v2)(H:Hp)(K:i8→(List f8)→Hp→Prop):Prop:=
 TL ((0,a):Int×(List f8)) H fun(s:Int×(List f8)) H n3=>U1 x1.m8 (x1.m8.n:Int) x1 s.1 s.2 H n3 K
theorem a9l(x0 f x1){H K}(h:a2O x0 f x1 H K):Z7 x0 f x1 H K:=by
 intro g0 v y z
 refine Ct.of fun w0 w ps0 H0 R E I hR=>c5F ?_
 unfold a2O at h
 unfold c8q
 refine z6 I (cs:=(o8 x1)) rfl fun e bc p bd=>?_
 have hj1:∀(a0J:(List f8))(a5g:Sl)(a5h:Frag) H w (_:RowL 158 2 z8 a5g a0J a5h) (_:Inv w0 ps0 H0 H [bx e 131 (o8 x1),bx g0 155 [(vs a5g)],a5h] w) (_:U0 x1 a0J H K),b5H (Value.pointer (some ⟨g0,0,none⟩)) (Value.pointer (some ⟨e,0,none⟩)) w R E:=by
  intro a0J a5g a5h H w b4r I h
  unfold b5H
  intro _
  unfold U0 at h
  refine c5 a3d (c7 (l1 Tryz.isAgg58 I rfl) (c5 (a8q _ _ _) ?_))
  obtain ⟨g,c,aa,ab⟩:=h
  refine C1 (J:=fun n l w=>∃(s:Int×(List f8))(H:Hp)(a3C:Sl)(a3D:Frag),n=c s∧l=(match s with | (a4w,J4)=>[(vi a4w)])∧(match s with | (a4w,J4)=>RowL 158 2 z8 a3C J4 a3D)∧(match s with | (a4w,J4)=>Inv w0 ps0 H0 H [bx e 131 (o8 x1),bx g0 155 [(vs a3C)],a3D] w)∧g s H) ⟨_,(0,a0J),H,a5g,a5h,rfl,rfl,b4r,(((I.bring 2).bring 2).bring 2),aa⟩ ?_
  rintro be bf w next2 ⟨⟨a4w,J4⟩,H,a3C,a3D,rfl,i,a6Z,I,ac⟩ hn2
  dsimp only at i I a6Z
  simp only [List.map_cons,List.map_nil,List.cons.injEq,and_true] at i
  have e22:=i
  simp only [e22]
  obtain ⟨n2,hm2,h⟩:∃n2:(Int×(List f8))→Hp→Prop,(∀s' H',n2 s' H'→g s' H'∧c s' < c (a4w,J4))∧T9 x1.A5 (x1.A5.n:Int) x1 a4w J4 H n2 K:=⟨_,fun _ _ h=>h,ab (a4w,J4) H (fun s' H'=>g s' H'∧c s' < c (a4w,J4)) ac (fun _ _ a b=>⟨a,b⟩)⟩
  unfold b9X
  unfold T9 at h
  refine c5 pLs ?_
  refine d9 h (fun _ h=>?_) (fun _ h=>?_)
  ·obtain ⟨ad,ae,q,j,h⟩:=h
   obtain ⟨bg,bh,af,j⟩:=j
   refine c5 (a1V af _ _ _ _ ad ae) (c7 (ldA (vs:=(o8 q)) Tryz.isAgg131 Tryz.sizeOf131 rfl (I.atH j)) ?_)
   refine r5 I Tryz.zeroValue131 (cs:=[(vi 0),(vi 0),(nS),(nS)]) rfl fun bi bj ag bk=>?_
   refine u1 ag Tryz.sizeOf131 (vs:=(o8 q)) fun bl r bm=>?_
   refine c7 (lW Tryz.isAgg131 Tryz.sizeOf131 rfl r) ?_
   refine f9 Tryz.call108 (h g0 a3C a3D a6Z) ((r.bring 3).bring 3) ?_
   rintro _ ah _ bn ai _ _ ⟨bo,aj,ak,al,rfl,rfl,am,h⟩
   refine c5 pAd ?_
   exact hn2 _ _ _ (hm2 _ _ h).2 ⟨((IntKind.wrap .i64 (a4w+1)),aj),ah,ak,al,rfl,rfl,am,((((ai.bring 2).drop.bring 1).bring 1).bring 2),(hm2 _ _ h).1⟩
  ·exact hR _ H _ _ ((I.drop.bring 1).bring 1) ⟨(i8.mk (Sl.mk none 0 0)),J4,a3C,a3D,rfl,rfl,a6Z,h⟩
 refine o5 fun j1 hx1=>?_
 refine c5 a8h (c7 (l1 Tryz.isAgg57 p rfl) (c5 (a4Q _ _ _) ?_))
 obtain ⟨k,d,an,ao⟩:=h
 refine C1 (J:=fun n l w=>∃(s:Int×(List f8))(H:Hp)(a9T:Sl)(a9U:Frag),n=d s∧l=(match s with | (a3N,a2k)=>[(vi a3N)])∧(match s with | (a3N,a2k)=>RowL 158 2 z8 a9T a2k a9U)∧(match s with | (a3N,a2k)=>Inv w0 ps0 H0 H [bx e 131 (o8 x1),bx g0 155 [(vs a9T)],a9U] w)∧k s H) ⟨_,(0,f),H,v,y,rfl,rfl,z,(((p.bring 2).bring 2).bring 2),an⟩ ?_
 rintro bp bq w next3 ⟨⟨a3N,a2k⟩,H,a9T,a9U,rfl,m,b4s,I,ap⟩ hn3
 dsimp only at m I b4s
 simp only [List.map_cons,List.map_nil,List.cons.injEq,and_true] at m
 have e11:=m
 simp only [e11]
 obtain ⟨n3,hm3,h⟩:∃n3:(Int×(List f8))→Hp→Prop,(∀s' H',n3 s' H'→k s' H'∧d s' < d (a3N,a2k))∧U1 x1.m8 (x1.m8.n:Int) x1 a3N a2k H n3 K:=⟨_,fun _ _ h=>h,ao (a3N,a2k) H (fun s' H'=>k s' H'∧d s' < d (a3N,a2k)) ap (fun _ _ a b=>⟨a,b⟩)⟩
 unfold b9Y
 unfold U1 at h
 refine c5 pLs ?_
 refine d9 h (fun _ h=>?_) (fun _ h=>?_)
 ·obtain ⟨aq,ar,t,o,h⟩:=h
  obtain ⟨br,bs,au,o⟩:=o
  refine c5 (a4m au _ _ _ _ aq ar) (c7 (ldA (vs:=(m6 t)) Tryz.isAgg123 Tryz.sizeOf123 rfl (I.atH o)) ?_)
  refine r5 I Tryz.zeroValue123 (cs:=[(vi 0),(vi 0),(eS),(nS)]) rfl fun bt bu av bv=>?_
  refine u1 av Tryz.sizeOf123 (vs:=(m6 t)) fun bw u bz=>?_
  refine c7 (lW Tryz.isAgg123 Tryz.sizeOf123 rfl u) ?_
  refine f9 Tryz.call109 (h g0 a9T a9U b4s) ((u.bring 3).bring 3) ?_
  rintro _ aw _ ca ax _ _ ⟨cb,ay,az,ba,rfl,rfl,bb,h⟩
  refine c5 pAd ?_
  exact hn3 _ _ _ (hm3 _ _ h).2 ⟨((IntKind.wrap .i64 (a3N+1)),ay),aw,az,ba,rfl,rfl,bb,((((ax.bring 2).drop.bring 1).bring 1).bring 2),(hm3 _ _ h).1⟩
 ·exact hx1 _ _ (hj1 a2k a9T a9U H _ b4s (((I.bring 2).bring 2).bring 2) h)
def a5i(x0:v2)(H:Hp)(K:d7→Hp→Prop):Prop:=
 K (d7.K3 (P0.mk x0)) H
theorem b1P(x0){H K}(h:a5i x0 H K):a7t x0 H K:=by
 refine Ct.of fun w0 w ps0 H0 R E I hR=>c6h ?_
 unfold a5i at h
 unfold c8S
 refine z6 I (cs:=(o8 x0)) rfl fun b c a d=>?_
 refine c7 (lW Tryz.isAgg131 Tryz.sizeOf131 rfl a) (c5 (b7S _ _ _ _ _ _ _ _) (c5 (b5G (P0.mk x0)) ?_))
 exact hR _ H _ _ a.drop ⟨(d7.K3 (P0.mk x0)),rfl,rfl,h⟩
def C7(d1n:Int)(b3y:Bool)(a:K1)(H:Hp)(K:Bool→Hp→Prop):Prop:=
 (b3y=true→
 K (decide (d1n=2)) H)∧
 (b3y=false→
 K false H)
def L8(b6k:Int)(a6s:Int)(b3z:Bool)(a:K1)(H:Hp)(K:Bool→Hp→Prop):Prop:=
 (b3z=true→
 K (decide (b6k=1)) H)∧
 (b3z=false→
 (a6s=6→
 C7 b6k (decide (a6s=6)) a H K)∧
 (¬(a6s=6)→
 (a6s=7→
 C7 b6k (decide (a6s=7)) a H K)∧
 (¬(a6s=7)→
 (a6s=8→
 C7 b6k (decide (a6s=8)) a H K)∧
 (¬(a6s=8)→
 (a6s=9→
 C7 b6k (decide (a6s=9)) a H K)∧
 (¬(a6s=9)→
 C7 b6k (decide (a6s=10)) a H K)))))
def L9(a8R:Int)(a6t:Int)(b3A:Bool)(a:K1)(H:Hp)(K:Bool→Hp→Prop):Prop:=
 (b3A=true→
 K (decide (a8R=0)) H)∧
 (b3A=false→
 (a6t=4→
 L8 a8R a6t (decide (a6t=4)) a H K)∧
 (¬(a6t=4)→
 L8 a8R a6t (decide (a6t=5)) a H K))
def a3V(x0:K1)(H:Hp)(K:Bool→Hp→Prop):Prop:=
 a1k (d7.D6 x0) H (fun c b a=>
 ((((!decide (x0.t7.d3=1))&&(!decide (x0.t7.p6=0)))||((!b)&&(!decide (x0.t7.i7=⟨#[]⟩))))=true→
 K false a)∧
 ((((!decide (x0.t7.d3=1))&&(!decide (x0.t7.p6=0)))||((!b)&&(!decide (x0.t7.i7=⟨#[]⟩))))=false→
 (x0.t7.d3=1→
 K ((decide (0≤x0.t7.p6))&&(decide ((x0.t7.D5.n:Int)=0))) a)∧
 (¬(x0.t7.d3=1)→
 (x0.t7.d3=2→
 L9 (x0.t7.D5.n:Int) x0.t7.d3 (decide (x0.t7.d3=2)) x0 a K)∧
 (¬(x0.t7.d3=2)→
 L9 (x0.t7.D5.n:Int) x0.t7.d3 (decide (x0.t7.d3=3)) x0 a K))))
theorem b0r(x0){H K}(h:a3V x0 H K):a3Q x0 H K:=by
 refine Ct.of fun w0 w ps0 H0 R E I hR=>c6k ?_
 unfold a3V at h
 unfold c8V
 refine z6 I (cs:=(m6 x0.t7)) rfl fun f l i m=>?_
 refine c5 a0f (c5 a3b (c7 (l1 Tryz.isAgg57 i rfl) (c5 (a4Q _ _ _) (c7 (lW Tryz.isAgg202 Tryz.sizeOf202 rfl i) ?_))))
 refine c5 (b1b x0) ?_
 refine f9 Tryz.call127 h i ?_
 rintro _ d _ o c _ _ ⟨j,k,rfl,rfl,h⟩
 refine c5 (m5 _ _ (Value.string j) rfl) (c5 (m5 _ _ (vB k) rfl) (c5 a0f (c5 W6 (c7 (l1 Tryz.isAgg3 c rfl) ?_))))
 refine c5 pNe ?_
 refine c5 (Pu.g fun a=>by with_reducible exact a0f) ?_
 refine c5 (Pu.g fun a=>by simp only [f6 a];with_reducible exact a8g) ?_
 refine c7 (Ld.g fun a=>by simp only [f6 a];exact (l1 Tryz.isAgg2 c rfl)) ?_
 refine c5 (Pu.g fun a=>by simp only [f6 a];with_reducible exact pNe) ?_
 refine c5 (A4 _ _) ?_
 simp only [D4]
 refine c5 (Pu.g fun a=>by simp only [f6 a];with_reducible exact (J7 _)) ?_
 simp only [a6T]
 refine c5 (Pu.e (M8 _ _ _) (Pu.g fun hb=>by obtain ⟨a,b⟩:=Z3 hb;with_reducible exact a0f)) ?_
 refine c5 (Pu.e (M8 _ _ _) (Pu.g fun hb=>by obtain ⟨a,b⟩:=Z3 hb;simp only [f6 hb];with_reducible exact a5B)) ?_
 refine c7 (Ld.e (M8 _ _ _) (Ld.g fun hb=>by obtain ⟨a,b⟩:=Z3 hb;simp only [f6 hb];exact (l1 Tryz.isAgg9 c rfl))) ?_
 refine c5 (Pu.e (M8 _ _ _) (Pu.g fun hb=>by obtain ⟨a,b⟩:=Z3 hb;simp only [f6 hb];with_reducible exact (c1G _ _ _ _ _))) ?_
 refine c5 (Pu.g fun a=>by simp only [f6 a,a8p a];with_reducible exact (A4 _ _)) ?_
 refine c5 (B8 _ _) ?_
 refine m7 h (fun _ h=>?_) (fun _ h=>?_)
 ·exact hR _ d _ _ c.drop ⟨false,rfl,rfl,h⟩
 ·refine c5 a0f (c5 W6 (c7 (l1 Tryz.isAgg3 c rfl) (c5 pEq ?_)))
  refine d9 h (fun _ h=>?_) (fun _ h=>?_)
  ·refine c5 a0f (c5 a8g (c7 (l1 Tryz.isAgg2 c rfl) (c5 pGe ?_)))
   simp only [D4]
   refine c5 (Pu.g fun a=>by simp only [f6 a];with_reducible exact pEq) ?_
   refine c5 (A4 _ _) ?_
   exact hR _ d _ _ c.drop ⟨((decide (0≤x0.t7.p6))&&(decide ((x0.t7.D5.n:Int)=0))),rfl,rfl,h⟩
  ·have hj1:∀(b3A:Bool) H w (_:Inv w0 ps0 H0 H [bx f 202 (m6 x0.t7)] w) (_:L9 (x0.t7.D5.n:Int) x0.t7.d3 b3A x0 H K),b6f (vi (x0.t7.D5.n:Int)) (vi x0.t7.d3) (vB b3A) w R E:=by
    intro b3A H w I h
    unfold b6f
    intro _
    unfold L9 at h
    refine m7 h (fun _ h=>?_) (fun _ h=>?_)
    ·refine c5 pEq ?_
     exact hR _ H _ _ I.drop ⟨(decide ((x0.t7.D5.n:Int)=0)),rfl,rfl,h⟩
    ·have hj2:∀(b3z:Bool) H w (_:Inv w0 ps0 H0 H [bx f 202 (m6 x0.t7)] w) (_:L8 (x0.t7.D5.n:Int) x0.t7.d3 b3z x0 H K),b6e (vi (x0.t7.D5.n:Int)) (vi x0.t7.d3) (vB b3z) w R E:=by
      intro b3z H w I h
      unfold b6e
      intro _
      unfold L8 at h
      refine m7 h (fun _ h=>?_) (fun _ h=>?_)
      ·refine c5 pEq ?_
       exact hR _ H _ _ I.drop ⟨(decide ((x0.t7.D5.n:Int)=1)),rfl,rfl,h⟩
      ·have hj3:∀(b3y:Bool) H w (_:Inv w0 ps0 H0 H [bx f 202 (m6 x0.t7)] w) (_:C7 (x0.t7.D5.n:Int) b3y x0 H K),b6d (vi (x0.t7.D5.n:Int)) (vB b3y) w R E:=by
        intro b3y H w I h
        unfold b6d
        intro _
        unfold C7 at h
        refine m7 h (fun _ h=>?_) (fun _ h=>?_)
        ·refine c5 pEq ?_
         exact hR _ H _ _ I.drop ⟨(decide ((x0.t7.D5.n:Int)=2)),rfl,rfl,h⟩
        ·exact hR _ H _ _ I.drop ⟨false,rfl,rfl,h⟩
       refine o5 fun j3 hx3=>?_
       refine c5 pEq ?_
       refine d9 h (fun _ h=>?_) (fun _ h=>?_)
       ·exact hx3 _ _ (hj3 (decide (x0.t7.d3=6)) H _ I h)
       ·refine c5 pEq ?_
        refine d9 h (fun _ h=>?_) (fun _ h=>?_)
        ·exact hx3 _ _ (hj3 (decide (x0.t7.d3=7)) H _ I h)
        ·refine c5 pEq ?_
         refine d9 h (fun _ h=>?_) (fun _ h=>?_)
         ·exact hx3 _ _ (hj3 (decide (x0.t7.d3=8)) H _ I h)
         ·refine c5 pEq ?_
          refine d9 h (fun _ h=>?_) (fun _ h=>?_)
          ·exact hx3 _ _ (hj3 (decide (x0.t7.d3=9)) H _ I h)
          ·refine c5 pEq ?_
           exact hx3 _ _ (hj3 (decide (x0.t7.d3=10)) H _ I h)
     refine o5 fun j2 hx2=>?_
     refine c5 pEq ?_
     refine d9 h (fun _ h=>?_) (fun _ h=>?_)
     ·exact hx2 _ _ (hj2 (decide (x0.t7.d3=4)) H _ I h)
     ·refine c5 pEq ?_
      exact hx2 _ _ (hj2 (decide (x0.t7.d3=5)) H _ I h)
   refine o5 fun j1 hx1=>?_
   refine c5 pEq ?_
   refine d9 h (fun _ h=>?_) (fun _ h=>?_)
   ·exact hx1 _ _ (hj1 (decide (x0.t7.d3=2)) d _ c h)
   ·refine c5 pEq ?_
    exact hx1 _ _ (hj1 (decide (x0.t7.d3=3)) d _ c h)
def M0(b3B:Bool)(a:o9)(b:P0)(H:Hp)(K:Bool→Hp→Prop):Prop:=
 (b3B=true→
 K (decide (a.fexprs=0∧a.fparts=2)) H)∧
 (b3B=false→
 K false H)
def M1(a6t:Int)(b3C:Bool)(a:o9)(b:P0)(H:Hp)(K:Bool→Hp→Prop):Prop:=
 (b3C=true→
 K (decide (a.fexprs=0∧a.fparts=0)) H)∧
 (b3C=false→
 (a6t=4→
 K (decide (a.fexprs=0∧a.fparts=1)) H)∧
 (¬(a6t=4)→
 (a6t=5→
 M0 (decide (a6t=5)) a b H K)∧
 (¬(a6t=5)→
 M0 (decide (a6t=6)) a b H K)))
def a3W(x0:P0)(H:Hp)(K:Bool→Hp→Prop):Prop:=
 (x0.q9.d3=3→
 K (((decide (1≤x0.q9.fOp))&&(decide (x0.q9.fOp≤6)))&&(decide ((x0.q9.m8.n:Int)=2∧(x0.q9.A5.n:Int)=0))) H)∧
 (¬(x0.q9.d3=3)→
 (¬(x0.q9.fOp=0)→
 K false H)∧
 (x0.q9.fOp=0→
 (x0.q9.d3=1→
 M1 x0.q9.d3 (decide (x0.q9.d3=1)) (o9.mk (x0.q9.m8.n:Int) (x0.q9.A5.n:Int)) x0 H K)∧
 (¬(x0.q9.d3=1)→
 M1 x0.q9.d3 (decide (x0.q9.d3=2)) (o9.mk (x0.q9.m8.n:Int) (x0.q9.A5.n:Int)) x0 H K)))
theorem b0s(x0){H K}(h:a3W x0 H K):a3R x0 H K:=by
 refine Ct.of fun w0 w ps0 H0 R E I hR=>c6m ?_
 unfold a3W at h
 unfold c8X
 refine z6 I (cs:=(o8 x0.q9)) rfl fun e i d j=>?_
 refine c5 a0U (c5 a8h (c7 (l1 Tryz.isAgg57 d rfl) (c5 (a4Q _ _ _) (c5 a0U ?_))))
 refine c5 a3d (c7 (l1 Tryz.isAgg58 d rfl) (c5 (a8q _ _ _) (c5 (a6r _ _) ?_)))
 refine r5 d Tryz.zeroValue239 (cs:=[(vi 0),(vi 0)]) rfl fun c k f l=>?_
 refine u1 f Tryz.sizeOf239 (vs:=[(vi (x0.q9.m8.n:Int)),(vi (x0.q9.A5.n:Int))]) fun m b p=>?_
 refine c5 a0U (c5 b0H (c7 (l1 Tryz.isAgg3 (b.bring 1) rfl) (c5 pEq ?_)))
 refine d9 h (fun _ h=>?_) (fun _ h=>?_)
 ·refine c5 a0U (c5 a6N (c7 (l1 Tryz.isAgg3 (b.bring 1) rfl) (c5 pGe ?_)))
  refine c5 (Pu.g fun a=>by with_reducible exact a0U) ?_
  refine c5 (Pu.g fun a=>by simp only [f6 a];with_reducible exact a6N) ?_
  refine c7 (Ld.g fun a=>by simp only [f6 a];exact (l1 Tryz.isAgg3 (b.bring 1) rfl)) ?_
  refine c5 (Pu.g fun a=>by simp only [f6 a];with_reducible exact pLe) ?_
  refine c5 (A4 _ _) ?_
  refine c7 (Ld.g fun a=>by exact (ldA Tryz.isAgg239 Tryz.sizeOf239 rfl (b.at1 (o:=0) (vs:=[(vi (x0.q9.m8.n:Int)),(vi (x0.q9.A5.n:Int))]) (nb rfl) rfl))) ?_
  refine c5 (Pu.g fun a=>by with_reducible exact (a6r _ _)) ?_
  refine c5 (Pu.g fun a=>by simp only [f6 a];with_reducible exact (b0z _ _ _ _ _ _)) ?_
  refine c5 (A4 _ _) ?_
  exact hR _ H _ _ b.drop.drop ⟨(((decide (1≤x0.q9.fOp))&&(decide (x0.q9.fOp≤6)))&&(decide ((x0.q9.m8.n:Int)=2∧(x0.q9.A5.n:Int)=0))),rfl,rfl,h⟩
 ·refine c5 a0U (c5 a6N (c7 (l1 Tryz.isAgg3 (b.bring 1) rfl) (c5 pNe ?_)))
  refine V5 h (fun _ h=>?_) (fun _ h=>?_)
  ·exact hR _ H _ _ b.drop.drop ⟨false,rfl,rfl,h⟩
  ·refine c5 a0U (c5 b0H (c7 (l1 Tryz.isAgg3 (b.bring 1) rfl) ?_))
   have hj1:∀(b3C:Bool) H w (_:Inv w0 ps0 H0 H [bx c 239 [(vi (o9.mk (x0.q9.m8.n:Int) (x0.q9.A5.n:Int)).fexprs),(vi (o9.mk (x0.q9.m8.n:Int) (x0.q9.A5.n:Int)).fparts)],bx e 236 (o8 x0.q9)] w) (_:M1 x0.q9.d3 b3C (o9.mk (x0.q9.m8.n:Int) (x0.q9.A5.n:Int)) x0 H K),b6h (Value.pointer (some ⟨c,0,none⟩)) (vi x0.q9.d3) (vB b3C) w R E:=by
    intro b3C H w I h
    unfold b6h
    intro _
    unfold M1 at h
    refine m7 h (fun _ h=>?_) (fun _ h=>?_)
    ·refine c7 (ldA Tryz.isAgg239 Tryz.sizeOf239 rfl (I.at1 (o:=0) (vs:=[(vi (o9.mk (x0.q9.m8.n:Int) (x0.q9.A5.n:Int)).fexprs),(vi (o9.mk (x0.q9.m8.n:Int) (x0.q9.A5.n:Int)).fparts)]) (nb rfl) rfl)) (c5 (c0I) (c5 (b0z _ _ _ _ _ _) ?_))
     exact hR _ H _ _ I.drop.drop ⟨(decide ((o9.mk (x0.q9.m8.n:Int) (x0.q9.A5.n:Int)).fexprs=0∧(o9.mk (x0.q9.m8.n:Int) (x0.q9.A5.n:Int)).fparts=0)),rfl,rfl,h⟩
    ·refine c5 pEq ?_
     refine d9 h (fun _ h=>?_) (fun _ h=>?_)
     ·refine c7 (ldA Tryz.isAgg239 Tryz.sizeOf239 rfl (I.at1 (o:=0) (vs:=[(vi (o9.mk (x0.q9.m8.n:Int) (x0.q9.A5.n:Int)).fexprs),(vi (o9.mk (x0.q9.m8.n:Int) (x0.q9.A5.n:Int)).fparts)]) (nb rfl) rfl)) (c5 (a6r _ _) (c5 (b0z _ _ _ _ _ _) ?_))
      exact hR _ H _ _ I.drop.drop ⟨(decide ((o9.mk (x0.q9.m8.n:Int) (x0.q9.A5.n:Int)).fexprs=0∧(o9.mk (x0.q9.m8.n:Int) (x0.q9.A5.n:Int)).fparts=1)),rfl,rfl,h⟩
     ·have hj2:∀(b3B:Bool) H w (_:Inv w0 ps0 H0 H [bx c 239 [(vi (o9.mk (x0.q9.m8.n:Int) (x0.q9.A5.n:Int)).fexprs),(vi (o9.mk (x0.q9.m8.n:Int) (x0.q9.A5.n:Int)).fparts)],bx e 236 (o8 x0.q9)] w) (_:M0 b3B (o9.mk (x0.q9.m8.n:Int) (x0.q9.A5.n:Int)) x0 H K),b6g (Value.pointer (some ⟨c,0,none⟩)) (vB b3B) w R E:=by
       intro b3B H w I h
       unfold b6g
       intro _
       unfold M0 at h
       refine m7 h (fun _ h=>?_) (fun _ h=>?_)
       ·refine c7 (ldA Tryz.isAgg239 Tryz.sizeOf239 rfl (I.at1 (o:=0) (vs:=[(vi (o9.mk (x0.q9.m8.n:Int) (x0.q9.A5.n:Int)).fexprs),(vi (o9.mk (x0.q9.m8.n:Int) (x0.q9.A5.n:Int)).fparts)]) (nb rfl) rfl)) (c5 (a6r _ _) (c5 (b0z _ _ _ _ _ _) ?_))
        exact hR _ H _ _ I.drop.drop ⟨(decide ((o9.mk (x0.q9.m8.n:Int) (x0.q9.A5.n:Int)).fexprs=0∧(o9.mk (x0.q9.m8.n:Int) (x0.q9.A5.n:Int)).fparts=2)),rfl,rfl,h⟩
       ·exact hR _ H _ _ I.drop.drop ⟨false,rfl,rfl,h⟩
      refine o5 fun j2 hx2=>?_
      refine c5 pEq ?_
      refine d9 h (fun _ h=>?_) (fun _ h=>?_)
      ·exact hx2 _ _ (hj2 (decide (x0.q9.d3=5)) H _ ((I.bring 1).bring 1) h)
      ·refine c5 pEq ?_
       exact hx2 _ _ (hj2 (decide (x0.q9.d3=6)) H _ ((I.bring 1).bring 1) h)
   refine o5 fun j1 hx1=>?_
   refine c5 pEq ?_
   refine d9 h (fun _ h=>?_) (fun _ h=>?_)
   ·exact hx1 _ _ (hj1 (decide (x0.q9.d3=1)) H _ ((b.bring 1).bring 1) h)
   ·refine c5 pEq ?_
    exact hx1 _ _ (hj1 (decide (x0.q9.d3=2)) H _ ((b.bring 1).bring 1) h)
end Go.Proofs.YtaokfhdinhimfaaGreatDoor
