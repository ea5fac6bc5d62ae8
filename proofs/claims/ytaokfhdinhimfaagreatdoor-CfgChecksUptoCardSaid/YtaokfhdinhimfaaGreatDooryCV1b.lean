/- Typed formulas of the program's functions, and the theorems that the contracts follow from them; printed by lift.py off the code. -/
import Derived.Test.YtaokfhdinhimfaaGreatDooryCV1
namespace Go.Proofs.YtaokfhdinhimfaaGreatDoor
open Go.RowKit
set_option maxRecDepth 100000
set_option maxHeartbeats 2000000
def P0(b3M:(List Bool))(d1G:(List Int))(d1v:Int)(a:f7)(H:Hp)(n6:((List Bool)×Int)→Hp→Prop)(K:Sl→Hp→Prop):Prop:=
 n6 (b3M,(IntKind.wrap .i64 (d1v+1))) H
def P1(d1H:(List Bool))(b3N:(List Int))(c9k:Int)(a:f7)(H:Hp)(n4:((List Int)×Int)→Hp→Prop)(K:Sl→Hp→Prop):Prop:=
 n4 (b3N,(IntKind.wrap .i64 (c9k+1))) H
def Y0(b5l:(List Int))(b:f7)(H:Hp)(K:Sl→Hp→Prop):Prop:=
 ∀(a8M:Sl)(a:Hp),Hle H a→SlH a 1 r9 a8M b5l→a8M.n≤a8M.c→
 K a8M a
def Y1(c1h:(List Bool))(a:f7)(a4U:(List Int))(a2f:Int)(H:Hp)(n4:((List Int)×Int)→Hp→Prop)(K:Sl→Hp→Prop):Prop:=
 (a2f < a.d3→
 (0:Int)≤a2f∧∃b:Bool,(c1h)[(a2f:Int).toNat]? = some b∧
 (b=true→
 (a4U.length+([a2f]:List Int).length)*9≤140737488355328∧
 P1 c1h (a4U++[a2f]) a2f a H n4 K)∧
 (b=false→
 P1 c1h a4U a2f a H n4 K))∧
 (¬(a2f < a.d3)→
 Y0 a4U a H K)
def Y2(b2h:(List Bool))(a:f7)(H:Hp)(K:Sl→Hp→Prop):Prop:=
 TL (([],0):(List Int)×Int) H fun(s:(List Int)×Int) H n4=>Y1 b2h a s.1 s.2 H n4 K
def Y3(b7r:(List Int))(b:f7)(a5g:(List Bool))(a5L:Int)(H:Hp)(n6:((List Bool)×Int)→Hp→Prop)(K:Sl→Hp→Prop):Prop:=
 (a5L < (b.p5.n:Int)→
 (0:Int)≤a5L∧(a5L:Int) < b.p5.n∧∃a:d5,EltH H b.p5 a5L 10 (i5 a)∧
 (0:Int)≤a.s7∧∃c:Int,(b7r)[(a.s7:Int).toNat]? = some c∧
 (0:Int)≤a.fTo∧∃d:Int,(b7r)[(a.fTo:Int).toNat]? = some d∧
 (d≤c→
 (0:Int)≤a.fTo∧∃e:Bool,(a5g)[(a.fTo:Int).toNat]? = some e∧
 P0 (a5g.set (a.fTo:Int).toNat true) b7r a5L b H n6 K)∧
 (¬(d≤c)→
 P0 a5g b7r a5L b H n6 K))∧
 (¬(a5L < (b.p5.n:Int))→
 Y2 a5g b H K)
def Y4(b2i:(List Bool))(P4:(List Int))(a:f7)(H:Hp)(K:Sl→Hp→Prop):Prop:=
 TL ((b2i,0):(List Bool)×Int) H fun(s:(List Bool)×Int) H n6=>Y3 P4 a s.1 s.2 H n6 K
def Y5(c9Z:(List Bool))(c1i:Sl)(b:f7)(a6u:(List Int))(a5M:Int)(H:Hp)(n8:((List Int)×Int)→Hp→Prop)(K:Sl→Hp→Prop):Prop:=
 (a5M < (c1i.n:Int)→
 (0:Int)≤a5M∧(a5M:Int) < c1i.n∧∃a:Int,EltH H c1i a5M 1 [(vi a)]∧
 (0:Int)≤a∧∃c:Int,(a6u)[(a:Int).toNat]? = some c∧
 n8 ((a6u.set (a:Int).toNat a5M),(IntKind.wrap .i64 (a5M+1))) H)∧
 (¬(a5M < (c1i.n:Int))→
 Y4 c9Z a6u b H K)
def a3w(x0:f7)(H:Hp)(K:Sl→Hp→Prop):Prop:=
 (0:Int)≤x0.d3∧x0.d3*2≤140737488355328∧
 a0M x0 H (fun a b=>
 (0:Int)≤x0.d3∧x0.d3*9≤140737488355328∧
 TL (((List.replicate (x0.d3:Int).toNat 0),0):(List Int)×Int) b fun(s:(List Int)×Int) H n8=>Y5 (List.replicate (x0.d3:Int).toNat false) a x0 s.1 s.2 H n8 K)
theorem a9I(x0){H K}(h:a3w x0 H K):a3j x0 H K:=by
 refine Ct.of fun w0 w ps0 H0 R E I hR=>c7z ?_
 unfold a3w at h
 unfold F19
 refine D6 I (cs:=(g8 x0)) rfl fun d cv al cw=>?_
 refine c7 j9 (d4 (l1 Tryz.isAgg3 al rfl) ?_)
 obtain ⟨bd,be,h⟩:=h
 refine b1u al bd be fun g r cx bf am cy=>?_
 refine d4 (lW Tryz.isAgg30 Tryz.sizeOf30 rfl (am.bring 1)) ?_
 refine j6 Tryz.call20 h am ?_
 rintro _ bg _ cz an _ _ ⟨bh,rfl,rfl,h⟩
 refine c7 j9 (d4 (l1 Tryz.isAgg3 (an.bring 1) rfl) ?_)
 obtain ⟨bi,bj,h⟩:=h
 refine c2e an bi bj fun p bk da bl bm db=>?_
 have hj1:∀(P4:(List Int))(Fs5j1:Frag) H w (_:RowL 3 1 r9 p P4 Fs5j1) (_:Inv w0 ps0 H0 H [bx d 30 (g8 x0),r,Fs5j1] w) (_:Y4 (List.replicate (x0.d3:Int).toNat false) P4 x0 H K),b8A (Value.pointer (some ⟨d,0,none⟩)) (vs g) (vs p) w R E:=by
  intro P4 Fs5j1 H w a5f I h
  unfold b8A
  intro _
  unfold Y4 at h
  have hj2:∀(b2h:(List Bool))(Fs3j2:Frag) H w (_:RowL 4 1 L8 g b2h Fs3j2) (_:Inv w0 ps0 H0 H [bx d 30 (g8 x0),Fs3j2] w) (_:Y2 b2h x0 H K),b8y (Value.pointer (some ⟨d,0,none⟩)) (vs g) w R E:=by
   intro b2h Fs3j2 H w c1j I h
   unfold b8y
   intro _
   unfold Y2 at h
   have hj3:∀(b5l:(List Int))(a8M:Sl)(Fs8j3:Frag) H w (_:RowL 3 1 r9 a8M b5l Fs8j3) (_:Inv w0 ps0 H0 H [bx d 30 (g8 x0),Fs8j3] w) (_:Y0 b5l x0 H K),b8w (vs a8M) w R E:=by
    intro b5l a8M Fs8j3 H w d0a I h
    unfold b8w
    intro _
    unfold Y0 at h
    obtain ⟨ao,bn,bo,bp,bq⟩:=Inv.freezeC (I.bring 1) d0a (by decide)
    replace h:=h a8M ao bo bp bq
    exact hR _ ao _ _ bn.drop ⟨a8M,rfl,rfl,h⟩
   refine s8 fun j3 hx3=>?_
   obtain ⟨t,i,br,bs⟩:=h
   refine I0 (J:=fun n l w=>∃(s:(List Int)×Int)(H:Hp)(b3O:Sl)(Fs8l4:Frag),n=i s∧l=(match s with | (a4U,a2f)=>[(vs b3O),(vi a2f)])∧(match s with | (a4U,a2f)=>RowL 3 1 r9 b3O a4U Fs8l4)∧(match s with | (a4U,a2f)=>Inv w0 ps0 H0 H [bx d 30 (g8 x0),Fs3j2,Fs8l4] w)∧t s H) ⟨_,([],0),H,(Sl.mk none 0 0),[],rfl,rfl,(RowL.nil N0 N1),((I.nil.bring 2).bring 2),br⟩ ?_
   rintro dc dd w next4 ⟨⟨a4U,a2f⟩,H,b3O,Fs8l4,rfl,u,b7s,I,bt⟩ hn4
   dsimp only at u I b7s
   simp only [List.map_cons,List.map_nil,List.cons.injEq,and_true] at u
   obtain ⟨e8,e9⟩:=u
   simp only [e8,e9]
   obtain ⟨n4,hm4,h⟩:∃n4:((List Int)×Int)→Hp→Prop,(∀s' H',n4 s' H'→t s' H'∧i s' < i (a4U,a2f))∧Y1 b2h x0 a4U a2f H n4 K:=⟨_,fun _ _ h=>h,bs (a4U,a2f) H (fun s' H'=>t s' H'∧i s' < i (a4U,a2f)) bt (fun _ _ a b=>⟨a,b⟩)⟩
   unfold c2r
   unfold Y1 at h
   refine c7 j9 (d4 (l1 Tryz.isAgg3 I rfl) (c7 pLs ?_))
   refine g9 h (fun _ h=>?_) (fun _ h=>?_)
   ·have hj5:∀(b3N:(List Int))(b7t:Sl)(Fs8j5:Frag) H w (_:RowL 3 1 r9 b7t b3N Fs8j5) (_:Inv w0 ps0 H0 H [bx d 30 (g8 x0),Fs3j2,Fs8j5] w) (_:P1 b2h b3N a2f x0 H n4 K),b8x (Value.pointer (some ⟨d,0,none⟩)) (vs g) (vs b7t) (vi a2f) w next4 R E:=by
     intro b3N b7t Fs8j5 H w d0b I h
     unfold b8x
     intro _
     unfold P1 at h
     refine c7 pAd ?_
     exact hn4 _ _ _ (hm4 _ _ h).2 ⟨(b3N,(IntKind.wrap .i64 (a2f+1))),H,b7t,Fs8j5,rfl,rfl,d0b,(((I.bring 2).bring 2).bring 2),(hm4 _ _ h).1⟩
    refine s8 fun j5 hx5=>?_
    obtain ⟨ap,bu,y,h⟩:=h
    obtain ⟨de,df,aq,dg⟩:=c1j.addr y
    refine c7 (a0y aq _ _ _ _ ap (c1j.lt ap y)) (d4 (ld1 (v:=(vB bu)) Tryz.isAgg4 (c1j.atW (I.bring 1) aq y)) ?_)
    refine q9 h (fun _ h=>?_) (fun _ h=>?_)
    ·refine a0x (e:=3) (c:=r9) (xs:=[a2f]) I (a2p _) rfl rfl N0 N1 (nb rfl) fun dh di dj bv ar dk=>?_
     obtain ⟨bw,h⟩:=h
     refine a5s (s:=b3O) (xs:=a4U) (ar.bring 3) b7s (bv.srcO ((ar.bring 3).bring 1)) bw fun bz ca dl cb cc dm=>?_
     exact hx5 _ _ (hj5 (a4U++[a2f]) bz ca H _ cb (((cc.bring 1).drop.bring 2).bring 2) h)
    ·exact hx5 _ _ (hj5 a4U b3O Fs8l4 H _ b7s (((I.bring 2).bring 2).bring 2) h)
   ·exact hx3 _ _ (hj3 a4U b3O Fs8l4 H _ b7s (((I.bring 1).drop.bring 1).bring 1) h)
  refine s8 fun j2 hx2=>?_
  obtain ⟨z,j,cd,ce⟩:=h
  refine I0 (J:=fun n l w=>∃(s:(List Bool)×Int)(H:Hp)(Fs3l6:Frag),n=j s∧l=(match s with | (a5g,a5L)=>[(vi a5L)])∧(match s with | (a5g,a5L)=>RowL 4 1 L8 g a5g Fs3l6)∧(match s with | (a5g,a5L)=>Inv w0 ps0 H0 H [bx d 30 (g8 x0),Fs5j1,Fs3l6] w)∧z s H) ⟨_,((List.replicate (x0.d3:Int).toNat false),0),H,r,rfl,rfl,bf,(((I.bring 1).bring 2).bring 2),cd⟩ ?_
  rintro dn dp w next6 ⟨⟨a5g,a5L⟩,H,Fs3l6,rfl,aa,b3P,I,cf⟩ hn6
  dsimp only at aa I b3P
  simp only [List.map_cons,List.map_nil,List.cons.injEq,and_true] at aa
  have e7:=aa
  simp only [e7]
  obtain ⟨n6,hm6,h⟩:∃n6:((List Bool)×Int)→Hp→Prop,(∀s' H',n6 s' H'→z s' H'∧j s' < j (a5g,a5L))∧Y3 P4 x0 a5g a5L H n6 K:=⟨_,fun _ _ h=>h,ce (a5g,a5L) H (fun s' H'=>z s' H'∧j s' < j (a5g,a5L)) cf (fun _ _ a b=>⟨a,b⟩)⟩
  unfold c2s
  unfold Y3 at h
  refine c7 o5 (d4 (l1 Tryz.isAgg28 I rfl) (c7 (B6 _ _ _) (c7 pLs ?_)))
  refine g9 h (fun _ h=>?_) (fun _ h=>?_)
  ·have hj7:∀(b3M:(List Bool))(Fs3j7:Frag) H w (_:RowL 4 1 L8 g b3M Fs3j7) (_:Inv w0 ps0 H0 H [bx d 30 (g8 x0),Fs5j1,Fs3j7] w) (_:P0 b3M P4 a5L x0 H n6 K),b8z (Value.pointer (some ⟨d,0,none⟩)) (vs g) (vs p) (vi a5L) w next6 R E:=by
    intro b3M Fs3j7 H w d0c I h
    unfold b8z
    intro _
    unfold P0 at h
    refine c7 pAd ?_
    exact hn6 _ _ _ (hm6 _ _ h).2 ⟨(b3M,(IntKind.wrap .i64 (a5L+1))),H,Fs3j7,rfl,rfl,d0c,(((I.bring 2).bring 2).bring 2),(hm6 _ _ h).1⟩
   refine s8 fun j7 hx7=>?_
   refine N5 I fun dq f=>?_
   refine f8 o5 ?_
   refine f8 o5 ?_
   refine o3 (l1 Tryz.isAgg28 f rfl) ?_
   obtain ⟨ab,ac,q,m,h⟩:=h
   obtain ⟨dr,ds,ad,m⟩:=m
   refine f8 (M9 ad _ _ _ _ ab ac) ?_
   refine f8 A7 ?_
   refine o3 (ld1 (v:=(vi q.s7)) Tryz.isAgg3 ((f.atH m).sub (k:=0) (n:=1) (nb rfl))) ?_
   obtain ⟨au,cg,ae,h⟩:=h
   obtain ⟨dt,du,av,dv⟩:=a5f.addr ae
   refine f8 (J4 av _ _ _ _ au (a5f.lt au ae)) ?_
   refine o3 (ld1 (v:=(vi cg)) Tryz.isAgg3 (a5f.atW (f.bring 1) av ae)) ?_
   refine o3 (l1 Tryz.isAgg28 f rfl) ?_
   refine f8 (M9 ad _ _ _ _ ab ac) ?_
   refine f8 D8 ?_
   refine o3 (ld1 (v:=(vi q.fTo)) Tryz.isAgg3 ((f.atH m).sub (k:=1) (n:=1) (nb rfl))) ?_
   obtain ⟨aw,ch,af,h⟩:=h
   obtain ⟨dw,dx,ax,dy⟩:=a5f.addr af
   refine f8 (J4 ax _ _ _ _ aw (a5f.lt aw af)) ?_
   refine o3 (ld1 (v:=(vi ch)) Tryz.isAgg3 (a5f.atW (f.bring 1) ax af)) ?_
   refine f8 pGe ?_
   refine g9 h (fun _ h=>?_) (fun _ h=>?_)
   ·refine c7 o5 (d4 (l1 Tryz.isAgg28 f rfl) (c7 (M9 ad _ _ _ _ ab ac) (c7 D8 (d4 (ld1 (v:=(vi q.fTo)) Tryz.isAgg3 ((f.atH m).sub (k:=1) (n:=1) (nb rfl))) ?_))))
    obtain ⟨ay,dz,ag,h⟩:=h
    obtain ⟨ea,eb,az,ec⟩:=b3P.addr ag
    refine c7 (a0y az _ _ _ _ ay (b3P.lt ay ag)) ?_
    refine a2o (x:=true) (f.bring 2) b3P az (List.getElem?_eq_some_iff.1 ag).1 Tryz.sizeOf4 rfl fun ci ed cj ck ee=>?_
    exact hx7 _ _ (hj7 (a5g.set (q.fTo:Int).toNat true) ci H _ cj ((ck.bring 2).bring 2) h)
   ·exact hx7 _ _ (hj7 a5g Fs3l6 H _ b3P (((f.bring 2).bring 2).bring 2) h)
  ·exact hx2 _ _ (hj2 a5g Fs3l6 H _ b3P (((I.bring 1).drop.bring 1).bring 1) h)
 refine s8 fun j1 hx1=>?_
 obtain ⟨ah,o,cl,cm⟩:=h
 refine I0 (J:=fun n l w=>∃(s:(List Int)×Int)(H:Hp)(Fs5l8:Frag),n=o s∧l=(match s with | (a6u,a5M)=>[(vi a5M)])∧(match s with | (a6u,a5M)=>RowL 3 1 r9 p a6u Fs5l8)∧(match s with | (a6u,a5M)=>Inv w0 ps0 H0 H [bx d 30 (g8 x0),r,Fs5l8] w)∧ah s H) ⟨_,((List.replicate (x0.d3:Int).toNat 0),0),bg,bk,rfl,rfl,bl,((bm.bring 1).bring 2),cl⟩ ?_
 rintro ef eg w next8 ⟨⟨a6u,a5M⟩,H,Fs5l8,rfl,ai,b5m,I,cn⟩ hn8
 dsimp only at ai I b5m
 simp only [List.map_cons,List.map_nil,List.cons.injEq,and_true] at ai
 have e6:=ai
 simp only [e6]
 obtain ⟨n8,hm8,h⟩:∃n8:((List Int)×Int)→Hp→Prop,(∀s' H',n8 s' H'→ah s' H'∧o s' < o (a6u,a5M))∧Y5 (List.replicate (x0.d3:Int).toNat false) bh x0 a6u a5M H n8 K:=⟨_,fun _ _ h=>h,cm (a6u,a5M) H (fun s' H'=>ah s' H'∧o s' < o (a6u,a5M)) cn (fun _ _ a b=>⟨a,b⟩)⟩
 unfold c2t
 unfold Y5 at h
 refine c7 (D3 _ _ _) (c7 pLs ?_)
 refine g9 h (fun _ h=>?_) (fun _ h=>?_)
 ·obtain ⟨co,cp,ba,aj,h⟩:=h
  obtain ⟨eh,ei,cq,aj⟩:=aj
  refine c7 (J4 cq _ _ _ _ co cp) (d4 (ld1 (v:=(vi ba)) Tryz.isAgg3 (I.atH aj)) ?_)
  obtain ⟨bb,ej,ak,h⟩:=h
  obtain ⟨ek,el,bc,em⟩:=b5m.addr ak
  refine c7 (J4 bc _ _ _ _ bb (b5m.lt bb ak)) ?_
  refine a2o (x:=a5M) (I.bring 2) b5m bc (List.getElem?_eq_some_iff.1 ak).1 Tryz.sizeOf3 rfl fun cr en ct cu eo=>?_
  refine c7 pAd ?_
  exact hn8 _ _ _ (hm8 _ _ h).2 ⟨((a6u.set (ba:Int).toNat a5M),(IntKind.wrap .i64 (a5M+1))),H,cr,rfl,rfl,ct,((cu.bring 2).bring 2),(hm8 _ _ h).1⟩
 ·exact hx1 _ _ (hj1 a6u Fs5l8 H _ b5m (((I.bring 2).bring 2).bring 2) h)
def a3x(a:d5)(b:d5)(H:Hp)(K:Bool→Hp→Prop):Prop:=
 TG (((((decide (b.f3=12))&&(decide (a.f3=12)))&&(decide (b.fA.y8=a.fA.y8∧b.fA.u1=a.fA.u1)))&&(decide (b.fB.y8=a.fB.y8∧b.fB.u1=a.fB.u1)))=true) (a3Y b.fOp H) 0 H (fun(c:Int)(d:Hp)=>
 K (((((decide (b.f3=12))&&(decide (a.f3=12)))&&(decide (b.fA.y8=a.fA.y8∧b.fA.u1=a.fA.u1)))&&(decide (b.fB.y8=a.fB.y8∧b.fB.u1=a.fB.u1)))&&(decide (a.fOp=c))) d)
def a7o(x0:Sl)(H:Hp)(K:Bool→Hp→Prop):Prop:=
 ((x0.n:Int)=0→
 K true H)∧
 (¬((x0.n:Int)=0)→
 ((x0.n:Int)=1→
 (0:Int)≤0∧(0:Int) < x0.n∧∃a:d5,EltH H x0 0 10 (i5 a)∧
 K (!decide (a.f3=12)) H)∧
 (¬((x0.n:Int)=1)→
 ((x0.n:Int)=2→
 (0:Int)≤0∧(0:Int) < x0.n∧∃b:d5,EltH H x0 0 10 (i5 b)∧
 (0:Int)≤1∧(1:Int) < x0.n∧∃c:d5,EltH H x0 1 10 (i5 c)∧
 a3x c b H K)∧
 (¬((x0.n:Int)=2)→
 K false H)))
theorem b4l(x0){H K}(h:a7o x0 H K):a7j x0 H K:=by
 refine Ct.of fun w0 w ps0 H0 R E I hR=>c7Q ?_
 unfold a7o at h
 unfold F42
 refine c7 (B6 _ _ _) (c7 pEq ?_)
 refine g9 h (fun _ h=>?_) (fun _ h=>?_)
 ·exact hR _ H _ _ I ⟨true,rfl,rfl,h⟩
 ·refine c7 pEq ?_
  refine g9 h (fun _ h=>?_) (fun _ h=>?_)
  ·obtain ⟨ak,al,ab,s,h⟩:=h
   obtain ⟨bg,bh,am,s⟩:=s
   refine c7 (M9 am _ _ _ _ ak al) (c7 u6 (d4 (ld1 (v:=(vi ab.f3)) Tryz.isAgg3 ((I.atH s).sub (k:=2) (n:=1) (nb rfl))) (c7 pNe ?_)))
   exact hR _ H _ _ I ⟨(!decide (ab.f3=12)),rfl,rfl,h⟩
  ·refine c7 pEq ?_
   refine g9 h (fun _ h=>?_) (fun _ h=>?_)
   ·have hj1:∀(c:d5)(d:d5)(f:Nat)(l:Nat) H w (_:Inv w0 ps0 H0 H [bx f 40 (i5 c),bx l 40 (i5 d)] w) (_:a3x c d H K),b8Q (Value.pointer (some ⟨l,0,none⟩)) (Value.pointer (some ⟨f,0,none⟩)) w R E:=by
     intro c d f l H w I h
     unfold b8Q
     intro _
     unfold a3x at h
     refine N5 I fun bi b=>?_
     refine f8 u6 ?_
     refine o3 (l1 Tryz.isAgg3 (b.bring 1) rfl) ?_
     refine f8 pEq ?_
     refine f8 (Pu.g fun hb=>by have a:=hb;first | with_reducible exact u6 | (simp only [c6 a,c5 a,c5 hb,d6 a];with_reducible exact u6) | (simp only [c6 a,c5 a,c5 hb,d7 a,c8];with_reducible exact u6) | exact u6 | (simp only [c6 a,c5 a,c5 hb,d6 a];exact u6) | (simp only [c6 a,c5 a,c5 hb,d7 a,c8];exact u6)) ?_
     refine R2 (p:=(Value.pointer (some ⟨f,2,none⟩))) rfl (Ld.g fun hb=>by have a:=hb;first | exact (l1 Tryz.isAgg3 b rfl) | (simp only [c6 a,c5 a,c5 hb,d6 a];exact (l1 Tryz.isAgg3 b rfl)) | (simp only [c6 a,c5 a,c5 hb,d7 a,c8];exact (l1 Tryz.isAgg3 b rfl))) ?_
     refine f8 (Pu.g fun hb=>by have a:=hb;first | with_reducible exact pEq | (simp only [c6 a,c5 a,c5 hb,d6 a];with_reducible exact pEq) | (simp only [c6 a,c5 a,c5 hb,d7 a,c8];with_reducible exact pEq) | exact pEq | (simp only [c6 a,c5 a,c5 hb,d6 a];exact pEq) | (simp only [c6 a,c5 a,c5 hb,d7 a,c8];exact pEq)) ?_
     refine f8 (p9 _ _) ?_
     refine f8 (Pu.g fun hb=>by have a:=hb;first | with_reducible exact z8 | (simp only [c6 a,c5 a,c5 hb,d6 a];with_reducible exact z8) | (simp only [c6 a,c5 a,c5 hb,d7 a,c8];with_reducible exact z8) | exact z8 | (simp only [c6 a,c5 a,c5 hb,d6 a];exact z8) | (simp only [c6 a,c5 a,c5 hb,d7 a,c8];exact z8)) ?_
     refine f8 (Pu.g fun hb=>by have a:=hb;first | with_reducible exact z8 | (simp only [c6 a,c5 a,c5 hb,d6 a];with_reducible exact z8) | (simp only [c6 a,c5 a,c5 hb,d7 a,c8];with_reducible exact z8) | exact z8 | (simp only [c6 a,c5 a,c5 hb,d6 a];exact z8) | (simp only [c6 a,c5 a,c5 hb,d7 a,c8];exact z8)) ?_
     refine R2 (p:=(Value.pointer (some ⟨l,6,none⟩))) rfl (Ld.g fun hb=>by have a:=hb;first | exact (ldA Tryz.isAgg38 Tryz.sizeOf38 rfl ((b.bring 1).at1 (o:=6) (vs:=(i7 d.fA)) (nb rfl) rfl)) | (simp only [c6 a,c5 a,c5 hb,d6 a];exact (ldA Tryz.isAgg38 Tryz.sizeOf38 rfl ((b.bring 1).at1 (o:=6) (vs:=(i7 d.fA)) (nb rfl) rfl))) | (simp only [c6 a,c5 a,c5 hb,d7 a,c8];exact (ldA Tryz.isAgg38 Tryz.sizeOf38 rfl ((b.bring 1).at1 (o:=6) (vs:=(i7 d.fA)) (nb rfl) rfl)))) ?_
     refine R2 (p:=(Value.pointer (some ⟨f,6,none⟩))) rfl (Ld.g fun hb=>by have a:=hb;first | exact (ldA Tryz.isAgg38 Tryz.sizeOf38 rfl (b.at1 (o:=6) (vs:=(i7 c.fA)) (nb rfl) rfl)) | (simp only [c6 a,c5 a,c5 hb,d6 a];exact (ldA Tryz.isAgg38 Tryz.sizeOf38 rfl (b.at1 (o:=6) (vs:=(i7 c.fA)) (nb rfl) rfl))) | (simp only [c6 a,c5 a,c5 hb,d7 a,c8];exact (ldA Tryz.isAgg38 Tryz.sizeOf38 rfl (b.at1 (o:=6) (vs:=(i7 c.fA)) (nb rfl) rfl)))) ?_
     refine f8 (Pu.g fun hb=>by have a:=hb;first | with_reducible exact (E4 _ _ _ _ _ _) | (simp only [c6 a,c5 a,c5 hb,d6 a];with_reducible exact (E4 _ _ _ _ _ _)) | (simp only [c6 a,c5 a,c5 hb,d7 a,c8];with_reducible exact (E4 _ _ _ _ _ _)) | exact (E4 _ _ _ _ _ _) | (simp only [c6 a,c5 a,c5 hb,d6 a];exact (E4 _ _ _ _ _ _)) | (simp only [c6 a,c5 a,c5 hb,d7 a,c8];exact (E4 _ _ _ _ _ _))) ?_
     refine f8 (p9 _ _) ?_
     refine f8 (Pu.g fun hb=>by have a:=hb;first | with_reducible exact y4 | (simp only [c6 a,c5 a,c5 hb,d6 a];with_reducible exact y4) | (simp only [c6 a,c5 a,c5 hb,d7 a,c8];with_reducible exact y4) | exact y4 | (simp only [c6 a,c5 a,c5 hb,d6 a];exact y4) | (simp only [c6 a,c5 a,c5 hb,d7 a,c8];exact y4)) ?_
     refine f8 (Pu.g fun hb=>by have a:=hb;first | with_reducible exact y4 | (simp only [c6 a,c5 a,c5 hb,d6 a];with_reducible exact y4) | (simp only [c6 a,c5 a,c5 hb,d7 a,c8];with_reducible exact y4) | exact y4 | (simp only [c6 a,c5 a,c5 hb,d6 a];exact y4) | (simp only [c6 a,c5 a,c5 hb,d7 a,c8];exact y4)) ?_
     refine R2 (p:=(Value.pointer (some ⟨l,8,none⟩))) rfl (Ld.g fun hb=>by have a:=hb;first | exact (ldA Tryz.isAgg38 Tryz.sizeOf38 rfl ((b.bring 1).at1 (o:=8) (vs:=(i7 d.fB)) (nb rfl) rfl)) | (simp only [c6 a,c5 a,c5 hb,d6 a];exact (ldA Tryz.isAgg38 Tryz.sizeOf38 rfl ((b.bring 1).at1 (o:=8) (vs:=(i7 d.fB)) (nb rfl) rfl))) | (simp only [c6 a,c5 a,c5 hb,d7 a,c8];exact (ldA Tryz.isAgg38 Tryz.sizeOf38 rfl ((b.bring 1).at1 (o:=8) (vs:=(i7 d.fB)) (nb rfl) rfl)))) ?_
     refine R2 (p:=(Value.pointer (some ⟨f,8,none⟩))) rfl (Ld.g fun hb=>by have a:=hb;first | exact (ldA Tryz.isAgg38 Tryz.sizeOf38 rfl (b.at1 (o:=8) (vs:=(i7 c.fB)) (nb rfl) rfl)) | (simp only [c6 a,c5 a,c5 hb,d6 a];exact (ldA Tryz.isAgg38 Tryz.sizeOf38 rfl (b.at1 (o:=8) (vs:=(i7 c.fB)) (nb rfl) rfl))) | (simp only [c6 a,c5 a,c5 hb,d7 a,c8];exact (ldA Tryz.isAgg38 Tryz.sizeOf38 rfl (b.at1 (o:=8) (vs:=(i7 c.fB)) (nb rfl) rfl)))) ?_
     refine f8 (Pu.g fun hb=>by have a:=hb;first | with_reducible exact (E4 _ _ _ _ _ _) | (simp only [c6 a,c5 a,c5 hb,d6 a];with_reducible exact (E4 _ _ _ _ _ _)) | (simp only [c6 a,c5 a,c5 hb,d7 a,c8];with_reducible exact (E4 _ _ _ _ _ _)) | exact (E4 _ _ _ _ _ _) | (simp only [c6 a,c5 a,c5 hb,d6 a];exact (E4 _ _ _ _ _ _)) | (simp only [c6 a,c5 a,c5 hb,d7 a,c8];exact (E4 _ _ _ _ _ _))) ?_
     refine f8 (p9 _ _) ?_
     refine f8 (Pu.g fun hb=>by have a:=hb;first | with_reducible exact m7 | (simp only [c6 a,c5 a,c5 hb,d6 a];with_reducible exact m7) | (simp only [c6 a,c5 a,c5 hb,d7 a,c8];with_reducible exact m7) | exact m7 | (simp only [c6 a,c5 a,c5 hb,d6 a];exact m7) | (simp only [c6 a,c5 a,c5 hb,d7 a,c8];exact m7)) ?_
     refine f8 (Pu.g fun hb=>by have a:=hb;first | with_reducible exact m7 | (simp only [c6 a,c5 a,c5 hb,d6 a];with_reducible exact m7) | (simp only [c6 a,c5 a,c5 hb,d7 a,c8];with_reducible exact m7) | exact m7 | (simp only [c6 a,c5 a,c5 hb,d6 a];exact m7) | (simp only [c6 a,c5 a,c5 hb,d7 a,c8];exact m7)) ?_
     refine R2 (p:=(Value.pointer (some ⟨f,5,none⟩))) rfl (Ld.g fun hb=>by have a:=hb;first | exact (l1 Tryz.isAgg3 b rfl) | (simp only [c6 a,c5 a,c5 hb,d6 a];exact (l1 Tryz.isAgg3 b rfl)) | (simp only [c6 a,c5 a,c5 hb,d7 a,c8];exact (l1 Tryz.isAgg3 b rfl))) ?_
     refine R2 (p:=(Value.pointer (some ⟨l,5,none⟩))) rfl (Ld.g fun hb=>by have a:=hb;first | exact (l1 Tryz.isAgg3 (b.bring 1) rfl) | (simp only [c6 a,c5 a,c5 hb,d6 a];exact (l1 Tryz.isAgg3 (b.bring 1) rfl)) | (simp only [c6 a,c5 a,c5 hb,d7 a,c8];exact (l1 Tryz.isAgg3 (b.bring 1) rfl))) ?_
     refine R1 [] (fun m:Int=>(vi m)) h b (fun ac h=>?_) fun m t an u y ad h=>?_
     ·have a:=ac
      try simp only [c6 a,c5 a,c5 ac]
      refine j6 Tryz.call59 h b ?_
      rintro _ t _ an u ad y ⟨m,rfl,rfl,h⟩
      exact ⟨m,t,rfl,u,y,ad,h⟩
     refine ⟨(a5o (p:=(Value.pointer (some ⟨f,5,none⟩))) rfl (y _ b.lt1 (Inv.R6 (Fi:=[]) b))),?_⟩
     refine f8 (Pu.g fun hb=>by have a:=hb;first | with_reducible exact pEq | (simp only [c6 a,c5 a,c5 hb,d6 a];with_reducible exact pEq) | (simp only [c6 a,c5 a,c5 hb,d7 a,c8];with_reducible exact pEq) | exact pEq | (simp only [c6 a,c5 a,c5 hb,d6 a];exact pEq) | (simp only [c6 a,c5 a,c5 hb,d7 a,c8];exact pEq)) ?_
     refine f8 (p9 _ _) ?_
     exact hR _ t _ _ u.drop.drop ⟨(((((decide (d.f3=12))&&(decide (c.f3=12)))&&(decide (d.fA.y8=c.fA.y8∧d.fA.u1=c.fA.u1)))&&(decide (d.fB.y8=c.fB.y8∧d.fB.u1=c.fB.u1)))&&(decide (c.fOp=m))),rfl,rfl,h⟩
    refine s8 fun j1 hx1=>?_
    refine N5 I fun bj i=>?_
    obtain ⟨ao,ap,q,j,h⟩:=h
    obtain ⟨bk,bl,aq,j⟩:=j
    refine f8 (M9 aq _ _ _ _ ao ap) ?_
    obtain ⟨ar,au,r,e,h⟩:=h
    obtain ⟨bm,bn,av,e⟩:=e
    refine f8 (M9 av _ _ _ _ ar au) ?_
    refine o3 (ldA (vs:=(i5 q)) Tryz.isAgg40 Tryz.sizeOf40 rfl (i.atH j)) ?_
    refine o3 (ldA (vs:=(i5 r)) Tryz.isAgg40 Tryz.sizeOf40 rfl (i.atH e)) ?_
    refine ⟨?_,?_⟩
    ·refine y3 i Tryz.zeroValue40 (cs:=[(vi 0),(vi 0),(vi 0),(vi 0),(vi 0),(vi 0),(vi 0),(vi 0),(vi 0),(vi 0)]) rfl fun aw bo z ae=>?_
     refine ⟨(ae _ (i.a3f e)),(ae _ (i.a3f j)),?_⟩
     refine y3 z Tryz.zeroValue40 (cs:=[(vi 0),(vi 0),(vi 0),(vi 0),(vi 0),(vi 0),(vi 0),(vi 0),(vi 0),(vi 0)]) rfl fun ax bp af ag=>?_
     refine ⟨(ag _ (z.a3f e)),(ag _ (z.a3f j)),?_⟩
     refine A6 (af.bring 1) Tryz.sizeOf40 (vs:=(i5 q)) fun bq ay az=>?_
     refine ⟨(az _ (Inv.c7g (af.bring 1) e)),?_⟩
     refine A6 (ay.bring 1) Tryz.sizeOf40 (vs:=(i5 r)) fun br ba bs=>?_
     exact hx1 _ _ (hj1 r q ax aw H _ ((ba.bring 1).bring 1) h)
    ·refine y3 i Tryz.zeroValue40 (cs:=[(vi 0),(vi 0),(vi 0),(vi 0),(vi 0),(vi 0),(vi 0),(vi 0),(vi 0),(vi 0)]) rfl fun bb bt aa ah=>?_
     refine ⟨(ah _ (i.a3f e)),(ah _ (i.a3f j)),?_⟩
     refine y3 aa Tryz.zeroValue40 (cs:=[(vi 0),(vi 0),(vi 0),(vi 0),(vi 0),(vi 0),(vi 0),(vi 0),(vi 0),(vi 0)]) rfl fun bc bu ai aj=>?_
     refine ⟨(aj _ (aa.a3f e)),(aj _ (aa.a3f j)),?_⟩
     refine A6 ai Tryz.sizeOf40 (vs:=(i5 q)) fun bv bd be=>?_
     refine ⟨(be _ (Inv.c7g ai e)),?_⟩
     refine A6 (bd.bring 1) Tryz.sizeOf40 (vs:=(i5 r)) fun bw bf bz=>?_
     exact hx1 _ _ (hj1 r q bb bc H _ ((bf.bring 1).bring 1) h)
   ·exact hR _ H _ _ I ⟨false,rfl,rfl,h⟩
def a4k(x0:j8)(x1:Int)(H:Hp)(K:Bool→Hp→Prop):Prop:=
 K ((decide (0≤x1))&&(decide (x1 < (x0.y9.o8.n:Int)))) H
theorem b0q(x0 x1){H K}(h:a4k x0 x1 H K):a3Z x0 x1 H K:=by
 refine Ct.of fun w0 w ps0 H0 R E I hR=>c7Z ?_
 unfold a4k at h
 unfold F56
 refine D6 I (cs:=(g8 x0.y9)) rfl fun c d b e=>?_
 refine c7 pGe ?_
 try simp only [B8,G9,B9,C1,C3,C5,C0,C2,C4,C6]
 refine c7 (Pu.g fun hb=>by have a:=hb;first | with_reducible exact E2 | (simp only [c6 a,c5 a,c5 hb,d6 a];with_reducible exact E2) | (simp only [c6 a,c5 a,c5 hb,d7 a,c8];with_reducible exact E2) | exact E2 | (simp only [c6 a,c5 a,c5 hb,d6 a];exact E2) | (simp only [c6 a,c5 a,c5 hb,d7 a,c8];exact E2)) ?_
 refine c7 (Pu.g fun hb=>by have a:=hb;first | with_reducible exact A9 | (simp only [c6 a,c5 a,c5 hb,d6 a];with_reducible exact A9) | (simp only [c6 a,c5 a,c5 hb,d7 a,c8];with_reducible exact A9) | exact A9 | (simp only [c6 a,c5 a,c5 hb,d6 a];exact A9) | (simp only [c6 a,c5 a,c5 hb,d7 a,c8];exact A9)) ?_
 refine d4 (Ld.g fun hb=>by have a:=hb;first | exact (l1 Tryz.isAgg22 b rfl) | (simp only [c6 a,c5 a,c5 hb,d6 a];exact (l1 Tryz.isAgg22 b rfl)) | (simp only [c6 a,c5 a,c5 hb,d7 a,c8];exact (l1 Tryz.isAgg22 b rfl))) ?_
 refine c7 (Pu.g fun hb=>by have a:=hb;first | with_reducible exact (N2 _ _ _) | (simp only [c6 a,c5 a,c5 hb,d6 a];with_reducible exact (N2 _ _ _)) | (simp only [c6 a,c5 a,c5 hb,d7 a,c8];with_reducible exact (N2 _ _ _)) | exact (N2 _ _ _) | (simp only [c6 a,c5 a,c5 hb,d6 a];exact (N2 _ _ _)) | (simp only [c6 a,c5 a,c5 hb,d7 a,c8];exact (N2 _ _ _))) ?_
 refine c7 (Pu.g fun hb=>by have a:=hb;first | with_reducible exact pLs | (simp only [c6 a,c5 a,c5 hb,d6 a];with_reducible exact pLs) | (simp only [c6 a,c5 a,c5 hb,d7 a,c8];with_reducible exact pLs) | exact pLs | (simp only [c6 a,c5 a,c5 hb,d6 a];exact pLs) | (simp only [c6 a,c5 a,c5 hb,d7 a,c8];exact pLs)) ?_
 refine c7 (p9 _ _) ?_
 exact hR _ H _ _ b.drop ⟨((decide (0≤x1))&&(decide (x1 < (x0.y9.o8.n:Int)))),rfl,rfl,h⟩
def a4l(x0:j8)(x1:d5)(H:Hp)(K:Bool→Hp→Prop):Prop:=
 W7 x0 x1.s7 H (fun f g=>
 TG ((!f)=false) (W7 x0 x1.fTo g) false g (fun(i:Bool)(j:Hp)=>
 ((((((!f)||(!i))||(decide (x1.s7=x0.y9.v2)))||(decide (x1.f3 < 1)))||(decide (14 < x1.f3)))=true→
 K false j)∧
 ((((((!f)||(!i))||(decide (x1.s7=x0.y9.v2)))||(decide (x1.f3 < 1)))||(decide (14 < x1.f3)))=false→
 a5F x1.f3 j (fun d v=>
 a0i x0 x1.S3 v (fun y z=>
 a0A d.fdst y (decide (x1.S3=(-1))) z (fun a k=>
 TG (a=true) (a3Z x0 x1.O5 k) false k (fun(aa:Bool)(l:Hp)=>
 TG (a=true) (a0A d.farr aa (decide (x1.O5=(-1))) l) false l (fun(b:Bool)(m:Hp)=>
 TG ((a&&b)=true) (a0A d.fop ((decide (1≤x1.fOp))&&(decide (x1.fOp≤6))) (decide (x1.fOp=0)) m) false m (fun(c:Bool)(n:Hp)=>
 TG (((a&&b)&&c)=true) (a0s x0 x1.fA n) false n (fun(ab:Bool)(o:Hp)=>
 TG (((a&&b)&&c)=true) (T4 o) (m3.mk 0 0) o (fun(p:m3)(q:Hp)=>
 TG (((a&&b)&&c)=true) (a0A d.fa ab (decide (x1.fA.y8=p.y8∧x1.fA.u1=p.u1)) q) false q (fun(e:Bool)(r:Hp)=>
 TG ((((a&&b)&&c)&&e)=true) (a0s x0 x1.fB r) false r (fun(ac:Bool)(s:Hp)=>
 TG ((((a&&b)&&c)&&e)=true) (T4 s) (m3.mk 0 0) s (fun(t:m3)(u:Hp)=>
 TG ((((a&&b)&&c)&&e)=true) (a0A d.fb ac (decide (x1.fB.y8=t.y8∧x1.fB.u1=t.u1)) u) false u (fun(ad:Bool)(ae:Hp)=>
 K ((((a&&b)&&c)&&e)&&ad) ae)))))))))))))))
theorem b0r(x0 x1){H K}(h:a4l x0 x1 H K):a4a x0 x1 H K:=by
 refine Ct.of fun w0 w ps0 H0 R E I hR=>c7P ?_
 unfold a4l at h
 unfold F41
 refine D6 I (cs:=(g8 x0.y9)) rfl fun cu cv cc cw=>?_
 refine D6 cc (cs:=(i5 x1)) rfl fun k cx am cy=>?_
 refine d4 (lW Tryz.isAgg90 Tryz.sizeOf90 rfl (am.bring 1)) (c7 A7 (d4 (l1 Tryz.isAgg3 am rfl) ?_))
 refine j6 Tryz.call40 h am ?_
 rintro _ _ _ cz n _ _ ⟨da,rfl,rfl,h⟩
 refine c7 (p8 _) ?_
 refine d4 (Ld.g fun hb=>by have a:=hb;first | exact (lW Tryz.isAgg90 Tryz.sizeOf90 rfl (n.bring 1)) | (simp only [c6 a,c5 a,c5 hb,d8 a];exact (lW Tryz.isAgg90 Tryz.sizeOf90 rfl (n.bring 1))) | (simp only [c6 a,c5 a,c5 hb,d9 a,c8];exact (lW Tryz.isAgg90 Tryz.sizeOf90 rfl (n.bring 1)))) ?_
 refine c7 (Pu.g fun hb=>by have a:=hb;first | with_reducible exact D8 | (simp only [c6 a,c5 a,c5 hb,d8 a];with_reducible exact D8) | (simp only [c6 a,c5 a,c5 hb,d9 a,c8];with_reducible exact D8) | exact D8 | (simp only [c6 a,c5 a,c5 hb,d8 a];exact D8) | (simp only [c6 a,c5 a,c5 hb,d9 a,c8];exact D8)) ?_
 refine d4 (Ld.g fun hb=>by have a:=hb;first | exact (l1 Tryz.isAgg3 n rfl) | (simp only [c6 a,c5 a,c5 hb,d8 a];exact (l1 Tryz.isAgg3 n rfl)) | (simp only [c6 a,c5 a,c5 hb,d9 a,c8];exact (l1 Tryz.isAgg3 n rfl))) ?_
 refine R1 [] (fun y:Bool=>(vB y)) h n (fun aq h=>?_) fun y an cd i ar au h=>?_
 ·have a:=aq
  try simp only [c6 a,c5 a,c5 aq]
  refine j6 Tryz.call40 h n ?_
  rintro _ an _ cd i au ar ⟨y,rfl,rfl,h⟩
  exact ⟨y,an,rfl,i,ar,au,h⟩
 refine c7 (Pu.g fun hb=>by have a:=hb;first | with_reducible exact (p8 _) | (simp only [c6 a,c5 a,c5 hb,d8 a];with_reducible exact (p8 _)) | (simp only [c6 a,c5 a,c5 hb,d9 a,c8];with_reducible exact (p8 _)) | exact (p8 _) | (simp only [c6 a,c5 a,c5 hb,d8 a];exact (p8 _)) | (simp only [c6 a,c5 a,c5 hb,d9 a,c8];exact (p8 _))) ?_
 refine c7 (B4 _ _) ?_
 refine c7 (Pu.g fun hb=>by have a:=hb;first | with_reducible exact A7 | (simp only [c6 a,c5 a,c5 hb,d8 a];with_reducible exact A7) | (simp only [c6 a,c5 a,c5 hb,d9 a,c8];with_reducible exact A7) | exact A7 | (simp only [c6 a,c5 a,c5 hb,d8 a];exact A7) | (simp only [c6 a,c5 a,c5 hb,d9 a,c8];exact A7)) ?_
 refine d4 (Ld.g fun hb=>by have a:=hb;first | exact (l1 Tryz.isAgg3 i rfl) | (simp only [c6 a,c5 a,c5 hb,d8 a];exact (l1 Tryz.isAgg3 i rfl)) | (simp only [c6 a,c5 a,c5 hb,d9 a,c8];exact (l1 Tryz.isAgg3 i rfl))) ?_
 refine c7 (Pu.g fun hb=>by have a:=hb;first | with_reducible exact E2 | (simp only [c6 a,c5 a,c5 hb,d8 a];with_reducible exact E2) | (simp only [c6 a,c5 a,c5 hb,d9 a,c8];with_reducible exact E2) | exact E2 | (simp only [c6 a,c5 a,c5 hb,d8 a];exact E2) | (simp only [c6 a,c5 a,c5 hb,d9 a,c8];exact E2)) ?_
 refine c7 (Pu.g fun hb=>by have a:=hb;first | with_reducible exact v8 | (simp only [c6 a,c5 a,c5 hb,d8 a];with_reducible exact v8) | (simp only [c6 a,c5 a,c5 hb,d9 a,c8];with_reducible exact v8) | exact v8 | (simp only [c6 a,c5 a,c5 hb,d8 a];exact v8) | (simp only [c6 a,c5 a,c5 hb,d9 a,c8];exact v8)) ?_
 refine d4 (Ld.g fun hb=>by have a:=hb;first | exact (l1 Tryz.isAgg3 (i.bring 1) rfl) | (simp only [c6 a,c5 a,c5 hb,d8 a];exact (l1 Tryz.isAgg3 (i.bring 1) rfl)) | (simp only [c6 a,c5 a,c5 hb,d9 a,c8];exact (l1 Tryz.isAgg3 (i.bring 1) rfl))) ?_
 refine c7 (Pu.g fun hb=>by have a:=hb;first | with_reducible exact pEq | (simp only [c6 a,c5 a,c5 hb,d8 a];with_reducible exact pEq) | (simp only [c6 a,c5 a,c5 hb,d9 a,c8];with_reducible exact pEq) | exact pEq | (simp only [c6 a,c5 a,c5 hb,d8 a];exact pEq) | (simp only [c6 a,c5 a,c5 hb,d9 a,c8];exact pEq)) ?_
 refine c7 (B4 _ _) ?_
 refine c7 (Pu.g fun hb=>by have a:=hb;first | with_reducible exact u6 | (simp only [c6 a,c5 a,c5 hb,d8 a];with_reducible exact u6) | (simp only [c6 a,c5 a,c5 hb,d9 a,c8];with_reducible exact u6) | exact u6 | (simp only [c6 a,c5 a,c5 hb,d8 a];exact u6) | (simp only [c6 a,c5 a,c5 hb,d9 a,c8];exact u6)) ?_
 refine d4 (Ld.g fun hb=>by have a:=hb;first | exact (l1 Tryz.isAgg3 i rfl) | (simp only [c6 a,c5 a,c5 hb,d8 a];exact (l1 Tryz.isAgg3 i rfl)) | (simp only [c6 a,c5 a,c5 hb,d9 a,c8];exact (l1 Tryz.isAgg3 i rfl))) ?_
 refine c7 (Pu.g fun hb=>by have a:=hb;first | with_reducible exact pLs | (simp only [c6 a,c5 a,c5 hb,d8 a];with_reducible exact pLs) | (simp only [c6 a,c5 a,c5 hb,d9 a,c8];with_reducible exact pLs) | exact pLs | (simp only [c6 a,c5 a,c5 hb,d8 a];exact pLs) | (simp only [c6 a,c5 a,c5 hb,d9 a,c8];exact pLs)) ?_
 refine c7 (B4 _ _) ?_
 refine c7 (Pu.g fun hb=>by have a:=hb;first | with_reducible exact u6 | (simp only [c6 a,c5 a,c5 hb,d8 a];with_reducible exact u6) | (simp only [c6 a,c5 a,c5 hb,d9 a,c8];with_reducible exact u6) | exact u6 | (simp only [c6 a,c5 a,c5 hb,d8 a];exact u6) | (simp only [c6 a,c5 a,c5 hb,d9 a,c8];exact u6)) ?_
 refine d4 (Ld.g fun hb=>by have a:=hb;first | exact (l1 Tryz.isAgg3 i rfl) | (simp only [c6 a,c5 a,c5 hb,d8 a];exact (l1 Tryz.isAgg3 i rfl)) | (simp only [c6 a,c5 a,c5 hb,d9 a,c8];exact (l1 Tryz.isAgg3 i rfl))) ?_
 refine c7 (Pu.g fun hb=>by have a:=hb;first | with_reducible exact pGt | (simp only [c6 a,c5 a,c5 hb,d8 a];with_reducible exact pGt) | (simp only [c6 a,c5 a,c5 hb,d9 a,c8];with_reducible exact pGt) | exact pGt | (simp only [c6 a,c5 a,c5 hb,d8 a];exact pGt) | (simp only [c6 a,c5 a,c5 hb,d9 a,c8];exact pGt)) ?_
 refine c7 (B4 _ _) ?_
 refine q9 h (fun _ h=>?_) (fun _ h=>?_)
 ·exact hR _ an _ _ i.drop.drop ⟨false,rfl,rfl,h⟩
 ·refine c7 u6 (d4 (l1 Tryz.isAgg3 i rfl) ?_)
  refine j6 Tryz.call53 h i ?_
  rintro _ _ _ db ce _ _ ⟨cf,rfl,rfl,h⟩
  refine y3 ce Tryz.zeroValue110 (cs:=[(vB false),(vB false),(vB false),(vB false),(vB false)]) rfl fun l dc cg dd=>?_
  refine A6 cg Tryz.sizeOf110 (vs:=(a7R cf)) fun de ch df=>?_
  refine N5 ch fun dg m=>?_
  refine f8 a8K ?_
  refine f8 J3 ?_
  refine f8 J3 ?_
  refine o3 (l1 Tryz.isAgg4 m rfl) ?_
  refine o3 (lW Tryz.isAgg90 Tryz.sizeOf90 rfl (m.bring 2)) ?_
  refine o3 (l1 Tryz.isAgg3 (m.bring 1) rfl) ?_
  refine o3 (l1 Tryz.isAgg3 (m.bring 1) rfl) ?_
  refine f8 pEq ?_
  refine j6 Tryz.call55 h m ?_
  rintro _ _ _ dh ci _ av ⟨di,rfl,rfl,h⟩
  refine ⟨(av _ (m.bring 1).lt1 (Inv.R6 (Fi:=[]) (m.bring 1))),(av _ m.lt1 (Inv.R6 (Fi:=[]) m)),?_⟩
  refine j6 Tryz.call54 h ci ?_
  rintro _ _ _ dj f _ _ ⟨cj,rfl,rfl,h⟩
  refine f8 (Pu.g fun hb=>by have a:=hb;first | with_reducible exact a3P | (simp only [c6 a,c5 a,c5 hb,d6 a];with_reducible exact a3P) | (simp only [c6 a,c5 a,c5 hb,d7 a,c8];with_reducible exact a3P) | exact a3P | (simp only [c6 a,c5 a,c5 hb,d6 a];exact a3P) | (simp only [c6 a,c5 a,c5 hb,d7 a,c8];exact a3P)) ?_
  refine f8 (Pu.g fun hb=>by have a:=hb;first | with_reducible exact B2 | (simp only [c6 a,c5 a,c5 hb,d6 a];with_reducible exact B2) | (simp only [c6 a,c5 a,c5 hb,d7 a,c8];with_reducible exact B2) | exact B2 | (simp only [c6 a,c5 a,c5 hb,d6 a];exact B2) | (simp only [c6 a,c5 a,c5 hb,d7 a,c8];exact B2)) ?_
  refine f8 (Pu.g fun hb=>by have a:=hb;first | with_reducible exact B2 | (simp only [c6 a,c5 a,c5 hb,d6 a];with_reducible exact B2) | (simp only [c6 a,c5 a,c5 hb,d7 a,c8];with_reducible exact B2) | exact B2 | (simp only [c6 a,c5 a,c5 hb,d6 a];exact B2) | (simp only [c6 a,c5 a,c5 hb,d7 a,c8];exact B2)) ?_
  refine R2 (p:=(Value.pointer (some ⟨l,1,none⟩))) rfl (Ld.g fun hb=>by have a:=hb;first | exact (l1 Tryz.isAgg4 f rfl) | (simp only [c6 a,c5 a,c5 hb,d6 a];exact (l1 Tryz.isAgg4 f rfl)) | (simp only [c6 a,c5 a,c5 hb,d7 a,c8];exact (l1 Tryz.isAgg4 f rfl))) ?_
  refine o3 (Ld.g fun hb=>by have a:=hb;first | exact (lW Tryz.isAgg90 Tryz.sizeOf90 rfl (f.bring 2)) | (simp only [c6 a,c5 a,c5 hb,d6 a];exact (lW Tryz.isAgg90 Tryz.sizeOf90 rfl (f.bring 2))) | (simp only [c6 a,c5 a,c5 hb,d7 a,c8];exact (lW Tryz.isAgg90 Tryz.sizeOf90 rfl (f.bring 2)))) ?_
  refine R2 (p:=(Value.pointer (some ⟨k,4,none⟩))) rfl (Ld.g fun hb=>by have a:=hb;first | exact (l1 Tryz.isAgg3 (f.bring 1) rfl) | (simp only [c6 a,c5 a,c5 hb,d6 a];exact (l1 Tryz.isAgg3 (f.bring 1) rfl)) | (simp only [c6 a,c5 a,c5 hb,d7 a,c8];exact (l1 Tryz.isAgg3 (f.bring 1) rfl))) ?_
  refine R2 (p:=(Value.pointer (some ⟨k,4,none⟩))) rfl (Ld.g fun hb=>by have a:=hb;first | exact (l1 Tryz.isAgg3 (f.bring 1) rfl) | (simp only [c6 a,c5 a,c5 hb,d6 a];exact (l1 Tryz.isAgg3 (f.bring 1) rfl)) | (simp only [c6 a,c5 a,c5 hb,d7 a,c8];exact (l1 Tryz.isAgg3 (f.bring 1) rfl))) ?_
  refine f8 (Pu.g fun hb=>by have a:=hb;first | with_reducible exact pEq | (simp only [c6 a,c5 a,c5 hb,d6 a];with_reducible exact pEq) | (simp only [c6 a,c5 a,c5 hb,d7 a,c8];with_reducible exact pEq) | exact pEq | (simp only [c6 a,c5 a,c5 hb,d6 a];exact pEq) | (simp only [c6 a,c5 a,c5 hb,d7 a,c8];exact pEq)) ?_
  refine R1 [] (fun z:Bool=>(vB z)) h f (fun aw h=>?_) fun z ax ck aa ab ay h=>?_
  ·have a:=aw
   try simp only [c6 a,c5 a,c5 aw]
   refine j6 Tryz.call56 h f ?_
   rintro _ ax _ ck aa ay ab ⟨z,rfl,rfl,h⟩
   exact ⟨z,ax,rfl,aa,ab,ay,h⟩
  refine ⟨(a5o (p:=(Value.pointer (some ⟨k,4,none⟩))) rfl (ab _ (f.bring 1).lt1 (Inv.R6 (Fi:=[]) (f.bring 1)))),(a5o (p:=(Value.pointer (some ⟨l,1,none⟩))) rfl (ab _ f.lt1 (Inv.R6 (Fi:=[]) f))),?_⟩
  refine R1 [] (fun s:Bool=>(vB s)) h aa (fun az h=>?_) fun s ba cl j bb bc h=>?_
  ·have a:=az
   try simp only [c6 a,c5 a,c5 az]
   refine j6 Tryz.call54 h aa ?_
   rintro _ ba _ cl j bc bb ⟨s,rfl,rfl,h⟩
   exact ⟨s,ba,rfl,j,bb,bc,h⟩
  refine f8 (p9 _ _) ?_
  refine f8 (Pu.g fun hb=>by have a:=hb;first | with_reducible exact a4Y | (simp only [c6 a,c5 a,c5 hb,d6 a];with_reducible exact a4Y) | (simp only [c6 a,c5 a,c5 hb,d7 a,c8];with_reducible exact a4Y) | exact a4Y | (simp only [c6 a,c5 a,c5 hb,d6 a];exact a4Y) | (simp only [c6 a,c5 a,c5 hb,d7 a,c8];exact a4Y)) ?_
  refine f8 (Pu.g fun hb=>by have a:=hb;first | with_reducible exact m7 | (simp only [c6 a,c5 a,c5 hb,d6 a];with_reducible exact m7) | (simp only [c6 a,c5 a,c5 hb,d7 a,c8];with_reducible exact m7) | exact m7 | (simp only [c6 a,c5 a,c5 hb,d6 a];exact m7) | (simp only [c6 a,c5 a,c5 hb,d7 a,c8];exact m7)) ?_
  refine f8 (Pu.g fun hb=>by have a:=hb;first | with_reducible exact m7 | (simp only [c6 a,c5 a,c5 hb,d6 a];with_reducible exact m7) | (simp only [c6 a,c5 a,c5 hb,d7 a,c8];with_reducible exact m7) | exact m7 | (simp only [c6 a,c5 a,c5 hb,d6 a];exact m7) | (simp only [c6 a,c5 a,c5 hb,d7 a,c8];exact m7)) ?_
  refine R2 (p:=(Value.pointer (some ⟨l,2,none⟩))) rfl (Ld.g fun hb=>by have a:=hb;first | exact (l1 Tryz.isAgg4 j rfl) | (simp only [c6 a,c5 a,c5 hb,d6 a];exact (l1 Tryz.isAgg4 j rfl)) | (simp only [c6 a,c5 a,c5 hb,d7 a,c8];exact (l1 Tryz.isAgg4 j rfl))) ?_
  refine R2 (p:=(Value.pointer (some ⟨k,5,none⟩))) rfl (Ld.g fun hb=>by have a:=hb;first | exact (l1 Tryz.isAgg3 (j.bring 1) rfl) | (simp only [c6 a,c5 a,c5 hb,d6 a];exact (l1 Tryz.isAgg3 (j.bring 1) rfl)) | (simp only [c6 a,c5 a,c5 hb,d7 a,c8];exact (l1 Tryz.isAgg3 (j.bring 1) rfl))) ?_
  refine f8 (Pu.g fun hb=>by have a:=hb;first | with_reducible exact pGe | (simp only [c6 a,c5 a,c5 hb,d6 a];with_reducible exact pGe) | (simp only [c6 a,c5 a,c5 hb,d7 a,c8];with_reducible exact pGe) | exact pGe | (simp only [c6 a,c5 a,c5 hb,d6 a];exact pGe) | (simp only [c6 a,c5 a,c5 hb,d7 a,c8];exact pGe)) ?_
  try simp only [B8,G9,B9,C1,C3,C5,C0,C2,C4,C6]
  refine f8 (Pu.e (b5R _ _ _) (Pu.g fun hb=>by obtain ⟨a,b⟩:=c0N hb;first | with_reducible exact m7 | (simp only [c6 a,c5 a,c6 b,c5 b,c5 hb,c8];with_reducible exact m7) | (simp only [c6 a,c5 a,c6 b,c5 b,c5 hb,d6 hb];with_reducible exact m7) | (simp only [c6 a,c5 a,c6 b,c5 b,c5 hb,d7 hb,c8];with_reducible exact m7) | exact m7 | (simp only [c6 a,c5 a,c6 b,c5 b,c5 hb,c8];exact m7) | (simp only [c6 a,c5 a,c6 b,c5 b,c5 hb,d6 hb];exact m7) | (simp only [c6 a,c5 a,c6 b,c5 b,c5 hb,d7 hb,c8];exact m7))) ?_
  refine d0F (b5R _ _ _) rfl (R2 (p:=(Value.pointer (some ⟨k,5,none⟩))) rfl (Ld.g fun hb=>by obtain ⟨a,b⟩:=c0N hb;first | exact (l1 Tryz.isAgg3 (j.bring 1) rfl) | (simp only [c6 a,c5 a,c6 b,c5 b,c5 hb,c8];exact (l1 Tryz.isAgg3 (j.bring 1) rfl)) | (simp only [c6 a,c5 a,c6 b,c5 b,c5 hb,d6 hb];exact (l1 Tryz.isAgg3 (j.bring 1) rfl)) | (simp only [c6 a,c5 a,c6 b,c5 b,c5 hb,d7 hb,c8];exact (l1 Tryz.isAgg3 (j.bring 1) rfl))) ?_)
  refine f8 (Pu.e (b5R _ _ _) (Pu.g fun hb=>by obtain ⟨a,b⟩:=c0N hb;first | with_reducible exact pLe | (simp only [c6 a,c5 a,c6 b,c5 b,c5 hb,c8];with_reducible exact pLe) | (simp only [c6 a,c5 a,c6 b,c5 b,c5 hb,d6 hb];with_reducible exact pLe) | (simp only [c6 a,c5 a,c6 b,c5 b,c5 hb,d7 hb,c8];with_reducible exact pLe) | exact pLe | (simp only [c6 a,c5 a,c6 b,c5 b,c5 hb,c8];exact pLe) | (simp only [c6 a,c5 a,c6 b,c5 b,c5 hb,d6 hb];exact pLe) | (simp only [c6 a,c5 a,c6 b,c5 b,c5 hb,d7 hb,c8];exact pLe))) ?_
  refine f8 (Pu.g fun hb=>by have a:=hb;first | with_reducible exact (p9 _ _) | (simp only [c6 a,c5 a,c5 hb,d6 a];with_reducible exact (p9 _ _)) | (simp only [c6 a,c5 a,c5 hb,d7 a,c8];with_reducible exact (p9 _ _)) | exact (p9 _ _) | (simp only [c6 a,c5 a,c5 hb,d6 a];exact (p9 _ _)) | (simp only [c6 a,c5 a,c5 hb,d7 a,c8];exact (p9 _ _))) ?_
  refine R2 (p:=(Value.pointer (some ⟨k,5,none⟩))) rfl (Ld.g fun hb=>by have a:=hb;first | exact (l1 Tryz.isAgg3 (j.bring 1) rfl) | (simp only [c6 a,c5 a,c5 hb,d6 a];exact (l1 Tryz.isAgg3 (j.bring 1) rfl)) | (simp only [c6 a,c5 a,c5 hb,d7 a,c8];exact (l1 Tryz.isAgg3 (j.bring 1) rfl))) ?_
  refine f8 (Pu.g fun hb=>by have a:=hb;first | with_reducible exact pEq | (simp only [c6 a,c5 a,c5 hb,d6 a];with_reducible exact pEq) | (simp only [c6 a,c5 a,c5 hb,d7 a,c8];with_reducible exact pEq) | exact pEq | (simp only [c6 a,c5 a,c5 hb,d6 a];exact pEq) | (simp only [c6 a,c5 a,c5 hb,d7 a,c8];exact pEq)) ?_
  refine R1 [] (fun t:Bool=>(vB t)) h j (fun bd h=>?_) fun t be cm c bf bg h=>?_
  ·have a:=bd
   try simp only [c6 a,c5 a,c5 bd]
   refine j6 Tryz.call54 h j ?_
   rintro _ be _ cm c bg bf ⟨t,rfl,rfl,h⟩
   exact ⟨t,be,rfl,c,bf,bg,h⟩
  refine f8 (p9 _ _) ?_
  refine f8 (Pu.g fun hb=>by have a:=hb;first | with_reducible exact a6k | (simp only [c6 a,c5 a,c5 hb,d6 a];with_reducible exact a6k) | (simp only [c6 a,c5 a,c5 hb,d7 a,c8];with_reducible exact a6k) | exact a6k | (simp only [c6 a,c5 a,c5 hb,d6 a];exact a6k) | (simp only [c6 a,c5 a,c5 hb,d7 a,c8];exact a6k)) ?_
  refine f8 (Pu.g fun hb=>by have a:=hb;first | with_reducible exact z8 | (simp only [c6 a,c5 a,c5 hb,d6 a];with_reducible exact z8) | (simp only [c6 a,c5 a,c5 hb,d7 a,c8];with_reducible exact z8) | exact z8 | (simp only [c6 a,c5 a,c5 hb,d6 a];exact z8) | (simp only [c6 a,c5 a,c5 hb,d7 a,c8];exact z8)) ?_
  refine f8 (Pu.g fun hb=>by have a:=hb;first | with_reducible exact z8 | (simp only [c6 a,c5 a,c5 hb,d6 a];with_reducible exact z8) | (simp only [c6 a,c5 a,c5 hb,d7 a,c8];with_reducible exact z8) | exact z8 | (simp only [c6 a,c5 a,c5 hb,d6 a];exact z8) | (simp only [c6 a,c5 a,c5 hb,d7 a,c8];exact z8)) ?_
  refine R2 (p:=(Value.pointer (some ⟨l,3,none⟩))) rfl (Ld.g fun hb=>by have a:=hb;first | exact (l1 Tryz.isAgg4 c rfl) | (simp only [c6 a,c5 a,c5 hb,d6 a];exact (l1 Tryz.isAgg4 c rfl)) | (simp only [c6 a,c5 a,c5 hb,d7 a,c8];exact (l1 Tryz.isAgg4 c rfl))) ?_
  refine o3 (Ld.g fun hb=>by have a:=hb;first | exact (lW Tryz.isAgg90 Tryz.sizeOf90 rfl (c.bring 2)) | (simp only [c6 a,c5 a,c5 hb,d6 a];exact (lW Tryz.isAgg90 Tryz.sizeOf90 rfl (c.bring 2))) | (simp only [c6 a,c5 a,c5 hb,d7 a,c8];exact (lW Tryz.isAgg90 Tryz.sizeOf90 rfl (c.bring 2)))) ?_
  refine R2 (p:=(Value.pointer (some ⟨k,6,none⟩))) rfl (Ld.g fun hb=>by have a:=hb;first | exact (ldA Tryz.isAgg38 Tryz.sizeOf38 rfl ((c.bring 1).at1 (o:=6) (vs:=(i7 x1.fA)) (nb rfl) rfl)) | (simp only [c6 a,c5 a,c5 hb,d6 a];exact (ldA Tryz.isAgg38 Tryz.sizeOf38 rfl ((c.bring 1).at1 (o:=6) (vs:=(i7 x1.fA)) (nb rfl) rfl))) | (simp only [c6 a,c5 a,c5 hb,d7 a,c8];exact (ldA Tryz.isAgg38 Tryz.sizeOf38 rfl ((c.bring 1).at1 (o:=6) (vs:=(i7 x1.fA)) (nb rfl) rfl)))) ?_
  refine R2 (p:=(Value.pointer (some ⟨k,6,none⟩))) rfl (Ld.g fun hb=>by have a:=hb;first | exact (ldA Tryz.isAgg38 Tryz.sizeOf38 rfl ((c.bring 1).at1 (o:=6) (vs:=(i7 x1.fA)) (nb rfl) rfl)) | (simp only [c6 a,c5 a,c5 hb,d6 a];exact (ldA Tryz.isAgg38 Tryz.sizeOf38 rfl ((c.bring 1).at1 (o:=6) (vs:=(i7 x1.fA)) (nb rfl) rfl))) | (simp only [c6 a,c5 a,c5 hb,d7 a,c8];exact (ldA Tryz.isAgg38 Tryz.sizeOf38 rfl ((c.bring 1).at1 (o:=6) (vs:=(i7 x1.fA)) (nb rfl) rfl)))) ?_
  refine R1 [] (fun ac:Bool=>(vB ac)) h c (fun bh h=>?_) fun ac bi cn q ad bj h=>?_
  ·have a:=bh
   try simp only [c6 a,c5 a,c5 bh]
   refine j6 Tryz.call57 h c ?_
   rintro _ bi _ cn q bj ad ⟨ac,rfl,rfl,h⟩
   exact ⟨ac,bi,rfl,q,ad,bj,h⟩
  refine ⟨(a5o (p:=(Value.pointer (some ⟨k,6,none⟩))) rfl (ad _ (c.bring 1).lt1 (Inv.R6 (Fi:=[]) (c.bring 1)))),(a5o (p:=(Value.pointer (some ⟨l,3,none⟩))) rfl (ad _ c.lt1 (Inv.R6 (Fi:=[]) c))),?_⟩
  refine R1 [] (fun ae:m3=>(Value.agg (i7 ae).toArray)) h q (fun bk h=>?_) fun ae bl co af ag bm h=>?_
  ·have a:=bk
   try simp only [c6 a,c5 a,c5 bk]
   refine j6 Tryz.call58 h q ?_
   rintro _ bl _ co af bm ag ⟨ae,rfl,rfl,h⟩
   exact ⟨ae,bl,rfl,af,ag,bm,h⟩
  refine ⟨(a5o (p:=(Value.pointer (some ⟨k,6,none⟩))) rfl (ag _ (q.bring 1).lt1 (Inv.R6 (Fi:=[]) (q.bring 1)))),(a5o (p:=(Value.pointer (some ⟨l,3,none⟩))) rfl (ag _ q.lt1 (Inv.R6 (Fi:=[]) q))),?_⟩
  refine f8 (Pu.g fun hb=>by have a:=hb;first | with_reducible exact (E4 _ _ _ _ _ _) | (simp only [c6 a,c5 a,c5 hb,d6 a];with_reducible exact (E4 _ _ _ _ _ _)) | (simp only [c6 a,c5 a,c5 hb,d7 a,c8];with_reducible exact (E4 _ _ _ _ _ _)) | exact (E4 _ _ _ _ _ _) | (simp only [c6 a,c5 a,c5 hb,d6 a];exact (E4 _ _ _ _ _ _)) | (simp only [c6 a,c5 a,c5 hb,d7 a,c8];exact (E4 _ _ _ _ _ _))) ?_
  refine R1 [] (fun u:Bool=>(vB u)) h af (fun bn h=>?_) fun u bo cp d bp bq h=>?_
  ·have a:=bn
   try simp only [c6 a,c5 a,c5 bn]
   refine j6 Tryz.call54 h af ?_
   rintro _ bo _ cp d bq bp ⟨u,rfl,rfl,h⟩
   exact ⟨u,bo,rfl,d,bp,bq,h⟩
  refine f8 (p9 _ _) ?_
  refine f8 (Pu.g fun hb=>by have a:=hb;first | with_reducible exact a1K | (simp only [c6 a,c5 a,c5 hb,d6 a];with_reducible exact a1K) | (simp only [c6 a,c5 a,c5 hb,d7 a,c8];with_reducible exact a1K) | exact a1K | (simp only [c6 a,c5 a,c5 hb,d6 a];exact a1K) | (simp only [c6 a,c5 a,c5 hb,d7 a,c8];exact a1K)) ?_
  refine f8 (Pu.g fun hb=>by have a:=hb;first | with_reducible exact y4 | (simp only [c6 a,c5 a,c5 hb,d6 a];with_reducible exact y4) | (simp only [c6 a,c5 a,c5 hb,d7 a,c8];with_reducible exact y4) | exact y4 | (simp only [c6 a,c5 a,c5 hb,d6 a];exact y4) | (simp only [c6 a,c5 a,c5 hb,d7 a,c8];exact y4)) ?_
  refine f8 (Pu.g fun hb=>by have a:=hb;first | with_reducible exact y4 | (simp only [c6 a,c5 a,c5 hb,d6 a];with_reducible exact y4) | (simp only [c6 a,c5 a,c5 hb,d7 a,c8];with_reducible exact y4) | exact y4 | (simp only [c6 a,c5 a,c5 hb,d6 a];exact y4) | (simp only [c6 a,c5 a,c5 hb,d7 a,c8];exact y4)) ?_
  refine R2 (p:=(Value.pointer (some ⟨l,4,none⟩))) rfl (Ld.g fun hb=>by have a:=hb;first | exact (l1 Tryz.isAgg4 d rfl) | (simp only [c6 a,c5 a,c5 hb,d6 a];exact (l1 Tryz.isAgg4 d rfl)) | (simp only [c6 a,c5 a,c5 hb,d7 a,c8];exact (l1 Tryz.isAgg4 d rfl))) ?_
  refine o3 (Ld.g fun hb=>by have a:=hb;first | exact (lW Tryz.isAgg90 Tryz.sizeOf90 rfl (d.bring 2)) | (simp only [c6 a,c5 a,c5 hb,d6 a];exact (lW Tryz.isAgg90 Tryz.sizeOf90 rfl (d.bring 2))) | (simp only [c6 a,c5 a,c5 hb,d7 a,c8];exact (lW Tryz.isAgg90 Tryz.sizeOf90 rfl (d.bring 2)))) ?_
  refine R2 (p:=(Value.pointer (some ⟨k,8,none⟩))) rfl (Ld.g fun hb=>by have a:=hb;first | exact (ldA Tryz.isAgg38 Tryz.sizeOf38 rfl ((d.bring 1).at1 (o:=8) (vs:=(i7 x1.fB)) (nb rfl) rfl)) | (simp only [c6 a,c5 a,c5 hb,d6 a];exact (ldA Tryz.isAgg38 Tryz.sizeOf38 rfl ((d.bring 1).at1 (o:=8) (vs:=(i7 x1.fB)) (nb rfl) rfl))) | (simp only [c6 a,c5 a,c5 hb,d7 a,c8];exact (ldA Tryz.isAgg38 Tryz.sizeOf38 rfl ((d.bring 1).at1 (o:=8) (vs:=(i7 x1.fB)) (nb rfl) rfl)))) ?_
  refine R2 (p:=(Value.pointer (some ⟨k,8,none⟩))) rfl (Ld.g fun hb=>by have a:=hb;first | exact (ldA Tryz.isAgg38 Tryz.sizeOf38 rfl ((d.bring 1).at1 (o:=8) (vs:=(i7 x1.fB)) (nb rfl) rfl)) | (simp only [c6 a,c5 a,c5 hb,d6 a];exact (ldA Tryz.isAgg38 Tryz.sizeOf38 rfl ((d.bring 1).at1 (o:=8) (vs:=(i7 x1.fB)) (nb rfl) rfl))) | (simp only [c6 a,c5 a,c5 hb,d7 a,c8];exact (ldA Tryz.isAgg38 Tryz.sizeOf38 rfl ((d.bring 1).at1 (o:=8) (vs:=(i7 x1.fB)) (nb rfl) rfl)))) ?_
  refine R1 [] (fun ah:Bool=>(vB ah)) h d (fun br h=>?_) fun ah bs cq r ai bt h=>?_
  ·have a:=br
   try simp only [c6 a,c5 a,c5 br]
   refine j6 Tryz.call57 h d ?_
   rintro _ bs _ cq r bt ai ⟨ah,rfl,rfl,h⟩
   exact ⟨ah,bs,rfl,r,ai,bt,h⟩
  refine ⟨(a5o (p:=(Value.pointer (some ⟨k,8,none⟩))) rfl (ai _ (d.bring 1).lt1 (Inv.R6 (Fi:=[]) (d.bring 1)))),(a5o (p:=(Value.pointer (some ⟨l,4,none⟩))) rfl (ai _ d.lt1 (Inv.R6 (Fi:=[]) d))),?_⟩
  refine R1 [] (fun aj:m3=>(Value.agg (i7 aj).toArray)) h r (fun bu h=>?_) fun aj bv cr ak al bw h=>?_
  ·have a:=bu
   try simp only [c6 a,c5 a,c5 bu]
   refine j6 Tryz.call58 h r ?_
   rintro _ bv _ cr ak bw al ⟨aj,rfl,rfl,h⟩
   exact ⟨aj,bv,rfl,ak,al,bw,h⟩
  refine ⟨(a5o (p:=(Value.pointer (some ⟨k,8,none⟩))) rfl (al _ (r.bring 1).lt1 (Inv.R6 (Fi:=[]) (r.bring 1)))),(a5o (p:=(Value.pointer (some ⟨l,4,none⟩))) rfl (al _ r.lt1 (Inv.R6 (Fi:=[]) r))),?_⟩
  refine f8 (Pu.g fun hb=>by have a:=hb;first | with_reducible exact (E4 _ _ _ _ _ _) | (simp only [c6 a,c5 a,c5 hb,d6 a];with_reducible exact (E4 _ _ _ _ _ _)) | (simp only [c6 a,c5 a,c5 hb,d7 a,c8];with_reducible exact (E4 _ _ _ _ _ _)) | exact (E4 _ _ _ _ _ _) | (simp only [c6 a,c5 a,c5 hb,d6 a];exact (E4 _ _ _ _ _ _)) | (simp only [c6 a,c5 a,c5 hb,d7 a,c8];exact (E4 _ _ _ _ _ _))) ?_
  refine R1 [] (fun v:Bool=>(vB v)) h ak (fun bz h=>?_) fun v ao ct ap ca cb h=>?_
  ·have a:=bz
   try simp only [c6 a,c5 a,c5 bz]
   refine j6 Tryz.call54 h ak ?_
   rintro _ ao _ ct ap cb ca ⟨v,rfl,rfl,h⟩
   exact ⟨v,ao,rfl,ap,ca,cb,h⟩
  refine f8 (p9 _ _) ?_
  exact hR _ ao _ _ ap.drop.drop.drop ⟨((((cj&&s)&&t)&&u)&&v),rfl,rfl,h⟩
def a3y(b2i:(List (List Int)))(d:f7)(H:Hp)(K:Sl→Hp→Prop):Prop:=
 ∀(a:Sl)(b:Hp),Hle H b→SlHH b 1 r9 a b2i→a.n≤a.c→
 K a b
def a3z(B3:Sl)(a1O:Int)(c:f7)(a6v:(List (List Int)))(a2s:Int)(H:Hp)(n2:((List (List Int))×Int)→Hp→Prop)(K:Sl→Hp→Prop):Prop:=
 (a2s < a1O→
 (0:Int)≤a2s∧(a2s:Int) < B3.n∧∃a:d5,EltH H B3 a2s 10 (i5 a)∧
 (0:Int)≤a.s7∧∃b:List Int,(a6v)[(a.s7:Int).toNat]? = some b∧
 (b.length+([a2s]:List Int).length)*9≤140737488355328∧
 n2 ((a6v.set (a.s7:Int).toNat (b++[a2s])),(IntKind.wrap .i64 (a2s+1))) H)∧
 (¬(a2s < a1O)→
 a3y a6v c H K)
def a7p(x0:f7)(H:Hp)(K:Sl→Hp→Prop):Prop:=
 (0:Int)≤x0.d3∧x0.d3*25≤140737488355328∧
 TL (((List.replicate (x0.d3:Int).toNat ([]:List Int)),0):(List (List Int))×Int) H fun(s:(List (List Int))×Int) H n2=>a3z x0.p5 (x0.p5.n:Int) x0 s.1 s.2 H n2 K
theorem b4m(x0){H K}(h:a7p x0 H K):a3h x0 H K:=by
 refine Ct.of fun w0 w ps0 H0 R E I hR=>c7K ?_
 unfold a7p at h
 unfold F36
 refine D6 I (cs:=(g8 x0)) rfl fun z bm aa bn=>?_
 refine c7 j9 (d4 (l1 Tryz.isAgg3 aa rfl) ?_)
 obtain ⟨ag,ah,h⟩:=h
 refine b5h aa ag ah fun g ai bo aj ab bp=>?_
 have hj1:∀(b2i:(List (List Int)))(Fs3j1:Frag)(H:Hp)(w:World)(_:RowsL 44 3 1 r9 g b2i Fs3j1)(_:Inv w0 ps0 H0 H [bx z 30 (g8 x0),Fs3j1] w)(_:a3y b2i x0 H K),b8N (vs g) w R E:=by
  intro b2i Fs3j1 H w d0d I h
  unfold b8N
  intro _
  unfold a3y at h
  obtain ⟨ac,ak,al,am,an⟩:=Inv.freezeLL (I.bring 1) d0d (by decide)
  replace h:=h g ac al am an
  exact hR _ ac _ _ ak.drop ⟨g,rfl,rfl,h⟩
 refine s8 fun j1 hx1=>?_
 refine c7 o5 (d4 (l1 Tryz.isAgg28 (ab.bring 1) rfl) (c7 (B6 _ _ _) ?_))
 obtain ⟨o,i,ao,ap⟩:=h
 refine I0 (J:=fun n l w=>∃(s:(List (List Int))×Int)(H:Hp)(Fs3l2:Frag),n=i s∧l=(match s with | (a6v,a2s)=>[(vi a2s)])∧(match s with | (a6v,a2s)=>RowsL 44 3 1 r9 g a6v Fs3l2)∧(match s with | (a6v,a2s)=>Inv w0 ps0 H0 H [bx z 30 (g8 x0),Fs3l2] w)∧o s H) ⟨_,((List.replicate (x0.d3:Int).toNat ([]:List Int)),0),H,ai,rfl,rfl,(RowsL.made (e:=3) N0 N1 aj),(ab.bring 1),ao⟩ ?_
 rintro bq br w next2 ⟨⟨a6v,a2s⟩,H,Fs3l2,rfl,p,c1k,I,aq⟩ hn2
 dsimp only at p I c1k
 simp only [List.map_cons,List.map_nil,List.cons.injEq,and_true] at p
 have e12:=p
 simp only [e12]
 obtain ⟨n2,hm2,h⟩:∃n2:((List (List Int))×Int)→Hp→Prop,(∀s' H',n2 s' H'→o s' H'∧i s' < i (a6v,a2s))∧a3z x0.p5 (x0.p5.n:Int) x0 a6v a2s H n2 K:=⟨_,fun _ _ h=>h,ap (a6v,a2s) H (fun s' H'=>o s' H'∧i s' < i (a6v,a2s)) aq (fun _ _ a b=>⟨a,b⟩)⟩
 unfold c2B
 unfold a3z at h
 refine c7 pLs ?_
 refine g9 h (fun _ h=>?_) (fun _ h=>?_)
 ·obtain ⟨ar,au,q,r,h⟩:=h
  obtain ⟨bs,bt,av,r⟩:=r
  refine c7 (M9 av _ _ _ _ ar au) (d4 (ldA (vs:=(i5 q)) Tryz.isAgg40 Tryz.sizeOf40 rfl (I.atH r)) ?_)
  refine y3 I Tryz.zeroValue40 (cs:=[(vi 0),(vi 0),(vi 0),(vi 0),(vi 0),(vi 0),(vi 0),(vi 0),(vi 0),(vi 0)]) rfl fun bu bv aw bw=>?_
  refine A6 aw Tryz.sizeOf40 (vs:=(i5 q)) fun bz ax ca=>?_
  refine N5 ax fun cb t=>?_
  refine f8 A7 ?_
  refine f8 A7 ?_
  refine o3 (l1 Tryz.isAgg3 t rfl) ?_
  refine o3 (l1 Tryz.isAgg3 t rfl) ?_
  obtain ⟨k,ad,ay,h⟩:=h
  obtain ⟨cc,ae,cd,ce,az,d,f,ba,bb,cf,j⟩:=RowsL.open_ c1k (t.bring 2) ay
  obtain ⟨cg,ch,u,ci⟩:=d.addr f
  refine f8 (a2L u _ _ _ _ k (d.lt k f)) ?_
  refine o3 (ld1 (v:=(vs ae)) Tryz.isAgg44 (d.atW j u f)) ?_
  refine a0x (e:=3) (c:=r9) (xs:=[a2s]) j (a2p _) rfl rfl N0 N1 (nb rfl) fun cj ck cl bc m y=>?_
  refine ⟨(y _ (RowL.b5d d j u)),(y _ (j.bring 3).lt1),(y _ (j.bring 3).lt1),?_⟩
  obtain ⟨bd,h⟩:=h
  refine a5s (s:=ae) (xs:=ad) (m.bring 2) ba (bc.srcO ((m.bring 2).bring 1)) bd fun be bf cm bg bh bi=>?_
  refine ⟨(bi _ ((m.bring 2).bring 4).lt1 (Inv.b0f (((m.bring 2).bring 4).bring 1))),?_⟩
  obtain ⟨cn,co,af,cp⟩:=d.addr f
  refine f8 (a2L af _ _ _ _ k (d.lt k f)) ?_
  refine a2o (x:=be) ((bh.bring 1).drop.bring 1) d af (List.getElem?_eq_some_iff.1 f).1 Tryz.sizeOf44 rfl fun bj cq bk bl cr=>?_
  refine c7 pAd ?_
  exact hn2 _ _ _ (hm2 _ _ h).2 ⟨((a6v.set (q.s7:Int).toNat (ad++[a2s])),(IntKind.wrap .i64 (a2s+1))),H,(bj++(bf++az)),rfl,rfl,(RowsL.b5c bk bg bb),(((((bl.bring 2).bring 2).bring 2).b7p.bring 1).drop.bring 1),(hm2 _ _ h).1⟩
 ·exact hx1 _ _ (hj1 a6v Fs3l2 H _ c1k ((I.bring 1).bring 1) h)
def a7C(x0:f7)(x1:Int)(H:Hp)(K:Sl→Int→Hp→Prop):Prop:=
 S4 x0 H (fun a b=>
 (¬(a=0)→
 K (Sl.mk none 0 0) a b)∧
 (a=0→
 (((decide (x1 < 0))||(decide (x0.d3≤x1)))=true→
 K (Sl.mk none 0 0) 92 b)∧
 (((decide (x1 < 0))||(decide (x0.d3≤x1)))=false→
 a3h x0 b (fun c d=>
 (0:Int)≤x1∧(x1:Int) < c.n∧∃e:Sl,EltH d c x1 1 [(vs e)]∧
 K e 0 d))))
theorem b4I(x0 x1){H K}(h:a7C x0 x1 H K):a7z x0 x1 H K:=by
 refine Ct.of fun w0 w ps0 H0 R E I hR=>c7r ?_
 unfold a7C at h
 unfold F11
 refine D6 I (cs:=(g8 x0)) rfl fun o p d q=>?_
 refine d4 (lW Tryz.isAgg30 Tryz.sizeOf30 rfl d) ?_
 refine j6 Tryz.call15 h d ?_
 rintro _ e _ r b _ _ ⟨j,rfl,rfl,h⟩
 refine c7 pNe ?_
 refine a0e h (fun _ h=>?_) (fun _ h=>?_)
 ·exact hR _ e _ _ b.drop ⟨(Sl.mk none 0 0),j,rfl,rfl,h⟩
 ·refine c7 pLs ?_
  try simp only [B8,G9,B9,C1,C3,C5,C0,C2,C4,C6]
  refine c7 (Pu.g fun hb=>by have a:=hb;first | with_reducible exact j9 | (simp only [c6 a,c5 a,c5 hb,d8 a];with_reducible exact j9) | (simp only [c6 a,c5 a,c5 hb,d9 a,c8];with_reducible exact j9) | exact j9 | (simp only [c6 a,c5 a,c5 hb,d8 a];exact j9) | (simp only [c6 a,c5 a,c5 hb,d9 a,c8];exact j9)) ?_
  refine d4 (Ld.g fun hb=>by have a:=hb;first | exact (l1 Tryz.isAgg3 b rfl) | (simp only [c6 a,c5 a,c5 hb,d8 a];exact (l1 Tryz.isAgg3 b rfl)) | (simp only [c6 a,c5 a,c5 hb,d9 a,c8];exact (l1 Tryz.isAgg3 b rfl))) ?_
  refine c7 (Pu.g fun hb=>by have a:=hb;first | with_reducible exact pGe | (simp only [c6 a,c5 a,c5 hb,d8 a];with_reducible exact pGe) | (simp only [c6 a,c5 a,c5 hb,d9 a,c8];with_reducible exact pGe) | exact pGe | (simp only [c6 a,c5 a,c5 hb,d8 a];exact pGe) | (simp only [c6 a,c5 a,c5 hb,d9 a,c8];exact pGe)) ?_
  refine c7 (B4 _ _) ?_
  refine q9 h (fun _ h=>?_) (fun _ h=>?_)
  ·exact hR _ e _ _ b.drop ⟨(Sl.mk none 0 0),92,rfl,rfl,h⟩
  ·refine d4 (lW Tryz.isAgg30 Tryz.sizeOf30 rfl b) ?_
   refine j6 Tryz.call36 h b ?_
   rintro _ k _ s f _ _ ⟨t,rfl,rfl,h⟩
   obtain ⟨l,m,i,c,h⟩:=h
   obtain ⟨u,y,n,c⟩:=c
   refine c7 (a2L n _ _ _ _ l m) (d4 (ld1 (v:=(vs i)) Tryz.isAgg44 (f.atH c)) ?_)
   exact hR _ k _ _ f.drop ⟨i,0,rfl,rfl,h⟩
def V2(d1F:(List Bool))(b1z:(List Int))(d1I:Int)(d0e:Int)(a:f7)(H:Hp)(n4:((List Int)×Int)→Hp→Prop)(K:Sl→Int→Hp→Prop):Prop:=
 n4 (b1z,(IntKind.wrap .i64 (d0e+1))) H
def a2t(b3f:(List Int))(b:f7)(H:Hp)(K:Sl→Int→Hp→Prop):Prop:=
 ∀(a7y:Sl)(a:Hp),Hle H a→SlH a 1 r9 a7y b3f→a7y.n≤a7y.c→
 K a7y 0 a
def a2u(b9m:(List Bool))(b7u:Int)(a:f7)(a2g:(List Int))(a1o:Int)(H:Hp)(n4:((List Int)×Int)→Hp→Prop)(K:Sl→Int→Hp→Prop):Prop:=
 (a1o < b7u→
 (0:Int)≤a1o∧∃b:Bool,(b9m)[(a1o:Int).toNat]? = some b∧
 (b=true→
 (a2g.length+([a1o]:List Int).length)*9≤140737488355328∧
 V2 b9m (a2g++[a1o]) b7u a1o a H n4 K)∧
 (b=false→
 V2 b9m a2g b7u a1o a H n4 K))∧
 (¬(a1o < b7u)→
 a2t a2g a H K)
def a2v(b0s:(List Bool))(a:f7)(H:Hp)(K:Sl→Int→Hp→Prop):Prop:=
 TL (([],0):(List Int)×Int) H fun(s:(List Int)×Int) H n4=>a2u b0s a.d3 a s.1 s.2 H n4 K
def a2w(c4T:(List Int))(c4U:Sl)(c4V:Int)(e:f7)(a4m:(List Bool))(a5h:Int)(H:Hp)(n6:((List Bool)×Int)→Hp→Prop)(K:Sl→Int→Hp→Prop):Prop:=
 (a5h < c4V→
 (0:Int)≤a5h∧(a5h:Int) < c4U.n∧∃a:d5,EltH H c4U a5h 10 (i5 a)∧
 (0:Int)≤a.fTo∧∃b:Bool,(a4m)[(a.fTo:Int).toNat]? = some b∧
 ∃c:Int,(b=false→(0:Int)≤a.s7∧(c4T)[(a.s7:Int).toNat]? = some c)∧
 ∃d:Int,(b=false→(0:Int)≤a.fTo∧(c4T)[(a.fTo:Int).toNat]? = some d)∧
 (0:Int)≤a.fTo∧∃f:Bool,(a4m)[(a.fTo:Int).toNat]? = some f∧
 n6 ((a4m.set (a.fTo:Int).toNat (b||(decide (d≤c)))),(IntKind.wrap .i64 (a5h+1))) H)∧
 (¬(a5h < c4V)→
 a2v a4m e H K)
def a2x(b3Q:(List Int))(a:f7)(H:Hp)(K:Sl→Int→Hp→Prop):Prop:=
 (0:Int)≤a.d3∧a.d3*2≤140737488355328∧
 TL (((List.replicate (a.d3:Int).toNat false),0):(List Bool)×Int) H fun(s:(List Bool)×Int) H n6=>a2w b3Q a.p5 (a.p5.n:Int) a s.1 s.2 H n6 K
def a2y(c4W:Sl)(c4X:Int)(b:f7)(a6w:(List Int))(a3A:Int)(H:Hp)(n7:((List Int)×Int)→Hp→Prop)(K:Sl→Int→Hp→Prop):Prop:=
 (a3A < c4X→
 (0:Int)≤a3A∧(a3A:Int) < c4W.n∧∃a:Int,EltH H c4W a3A 1 [(vi a)]∧
 (0:Int)≤a∧∃c:Int,(a6w)[(a:Int).toNat]? = some c∧
 n7 ((a6w.set (a:Int).toNat a3A),(IntKind.wrap .i64 (a3A+1))) H)∧
 (¬(a3A < c4X)→
 a2x a6w b H K)
def a6H(x0:f7)(H:Hp)(K:Sl→Int→Hp→Prop):Prop:=
 S4 x0 H (fun a b=>
 (¬(a=0)→
 K (Sl.mk none 0 0) a b)∧
 (a=0→
 a1V x0 b (fun c e d=>
 (0:Int)≤x0.d3∧x0.d3*9≤140737488355328∧
 TL (((List.replicate (x0.d3:Int).toNat 0),0):(List Int)×Int) d fun(s:(List Int)×Int) H n7=>a2y c (c.n:Int) x0 s.1 s.2 H n7 K)))
theorem b3g(x0){H K}(h:a6H x0 H K):a4T x0 H K:=by
 refine Ct.of fun w0 w ps0 H0 R E I hR=>c7t ?_
 unfold a6H at h
 unfold F13
 refine D6 I (cs:=(g8 x0)) rfl fun k dg ao dh=>?_
 refine d4 (lW Tryz.isAgg30 Tryz.sizeOf30 rfl ao) ?_
 refine j6 Tryz.call15 h ao ?_
 rintro _ bg _ di z _ _ ⟨bh,rfl,rfl,h⟩
 refine c7 pNe ?_
 refine a0e h (fun _ h=>?_) (fun _ h=>?_)
 ·exact hR _ bg _ _ z.drop ⟨(Sl.mk none 0 0),bh,rfl,rfl,h⟩
 ·refine d4 (lW Tryz.isAgg30 Tryz.sizeOf30 rfl z) ?_
  refine j6 Tryz.call14 h z ?_
  rintro _ bi _ dj ap _ _ ⟨aq,bj,rfl,rfl,h⟩
  refine c7 (p6 _ _ _ rfl) (c7 (p6 _ _ (vi bj) rfl) (c7 j9 (d4 (l1 Tryz.isAgg3 ap rfl) ?_)))
  obtain ⟨bk,bl,h⟩:=h
  refine c2e ap bk bl fun aa bm dk bn bo dl=>?_
  have hj1:∀(b3Q:(List Int))(Fs7j1:Frag) H w (_:RowL 3 1 r9 aa b3Q Fs7j1) (_:Inv w0 ps0 H0 H [bx k 30 (g8 x0),Fs7j1] w) (_:a2x b3Q x0 H K),b8n (Value.pointer (some ⟨k,0,none⟩)) (vs aa) w R E:=by
   intro b3Q Fs7j1 H w a0l I h
   unfold b8n
   intro _
   unfold a2x at h
   refine c7 j9 (d4 (l1 Tryz.isAgg3 I rfl) ?_)
   obtain ⟨bp,bq,h⟩:=h
   refine b1u I bp bq fun y br dm bs ar dn=>?_
   have hj2:∀(b0s:(List Bool))(Fs10j2:Frag) H w (_:RowL 4 1 L8 y b0s Fs10j2) (_:Inv w0 ps0 H0 H [bx k 30 (g8 x0),Fs10j2] w) (_:a2v b0s x0 H K),b8m (Value.pointer (some ⟨k,0,none⟩)) (vs y) w R E:=by
    intro b0s Fs10j2 H w b9n I h
    unfold b8m
    intro _
    unfold a2v at h
    have hj3:∀(b3f:(List Int))(a7y:Sl)(Fs13j3:Frag) H w (_:RowL 3 1 r9 a7y b3f Fs13j3) (_:Inv w0 ps0 H0 H [bx k 30 (g8 x0),Fs13j3] w) (_:a2t b3f x0 H K),b8k (vs a7y) w R E:=by
     intro b3f a7y Fs13j3 H w c9l I h
     unfold b8k
     intro _
     unfold a2t at h
     obtain ⟨au,bt,bu,bv,bw⟩:=Inv.freezeC (I.bring 1) c9l (by decide)
     replace h:=h a7y au bu bv bw
     exact hR _ au _ _ bt.drop ⟨a7y,0,rfl,rfl,h⟩
    refine s8 fun j3 hx3=>?_
    refine c7 j9 (d4 (l1 Tryz.isAgg3 I rfl) ?_)
    obtain ⟨ab,q,bz,ca⟩:=h
    refine I0 (J:=fun n l w=>∃(s:(List Int)×Int)(H:Hp)(b1A:Sl)(Fs13l4:Frag),n=q s∧l=(match s with | (a2g,a1o)=>[(vs b1A),(vi a1o)])∧(match s with | (a2g,a1o)=>RowL 3 1 r9 b1A a2g Fs13l4)∧(match s with | (a2g,a1o)=>Inv w0 ps0 H0 H [bx k 30 (g8 x0),Fs10j2,Fs13l4] w)∧ab s H) ⟨_,([],0),H,(Sl.mk none 0 0),[],rfl,rfl,(RowL.nil N0 N1),((I.nil.bring 2).bring 2),bz⟩ ?_
    rintro dp dq w next4 ⟨⟨a2g,a1o⟩,H,b1A,Fs13l4,rfl,ac,b5n,I,cb⟩ hn4
    dsimp only at ac I b5n
    simp only [List.map_cons,List.map_nil,List.cons.injEq,and_true] at ac
    obtain ⟨e13,e75⟩:=ac
    simp only [e13,e75]
    obtain ⟨n4,hm4,h⟩:∃n4:((List Int)×Int)→Hp→Prop,(∀s' H',n4 s' H'→ab s' H'∧q s' < q (a2g,a1o))∧a2u b0s x0.d3 x0 a2g a1o H n4 K:=⟨_,fun _ _ h=>h,ca (a2g,a1o) H (fun s' H'=>ab s' H'∧q s' < q (a2g,a1o)) cb (fun _ _ a b=>⟨a,b⟩)⟩
    unfold c2i
    unfold a2u at h
    refine c7 pLs ?_
    refine g9 h (fun _ h=>?_) (fun _ h=>?_)
    ·have hj5:∀(b1z:(List Int))(b5o:Sl)(Fs13j5:Frag) H w (_:RowL 3 1 r9 b5o b1z Fs13j5) (_:Inv w0 ps0 H0 H [bx k 30 (g8 x0),Fs10j2,Fs13j5] w) (_:V2 b0s b1z x0.d3 a1o x0 H n4 K),b8l (vs y) (vs b5o) (vi x0.d3) (vi a1o) w next4 R E:=by
      intro b1z b5o Fs13j5 H w c9m I h
      unfold b8l
      intro _
      unfold V2 at h
      refine c7 pAd ?_
      exact hn4 _ _ _ (hm4 _ _ h).2 ⟨(b1z,(IntKind.wrap .i64 (a1o+1))),H,b5o,Fs13j5,rfl,rfl,c9m,(((I.bring 2).bring 2).bring 2),(hm4 _ _ h).1⟩
     refine s8 fun j5 hx5=>?_
     obtain ⟨av,cc,ad,h⟩:=h
     obtain ⟨dr,ds,aw,dt⟩:=b9n.addr ad
     refine c7 (a0y aw _ _ _ _ av (b9n.lt av ad)) (d4 (ld1 (v:=(vB cc)) Tryz.isAgg4 (b9n.atW (I.bring 1) aw ad)) ?_)
     refine q9 h (fun _ h=>?_) (fun _ h=>?_)
     ·refine a0x (e:=3) (c:=r9) (xs:=[a1o]) I (a2p _) rfl rfl N0 N1 (nb rfl) fun du dv dw cd ax dx=>?_
      obtain ⟨ce,h⟩:=h
      refine a5s (s:=b1A) (xs:=a2g) (ax.bring 3) b5n (cd.srcO ((ax.bring 3).bring 1)) ce fun cf cg dy ch ci dz=>?_
      exact hx5 _ _ (hj5 (a2g++[a1o]) cf cg H _ ch (((ci.bring 1).drop.bring 2).bring 2) h)
     ·exact hx5 _ _ (hj5 a2g b1A Fs13l4 H _ b5n (((I.bring 2).bring 2).bring 2) h)
    ·exact hx3 _ _ (hj3 a2g b1A Fs13l4 H _ b5n (((I.bring 1).drop.bring 1).bring 1) h)
   refine s8 fun j2 hx2=>?_
   refine c7 o5 (d4 (l1 Tryz.isAgg28 (ar.bring 1) rfl) (c7 (B6 _ _ _) ?_))
   obtain ⟨ae,r,cj,ck⟩:=h
   refine I0 (J:=fun n l w=>∃(s:(List Bool)×Int)(H:Hp)(Fs10l6:Frag),n=r s∧l=(match s with | (a4m,a5h)=>[(vi a5h)])∧(match s with | (a4m,a5h)=>RowL 4 1 L8 y a4m Fs10l6)∧(match s with | (a4m,a5h)=>Inv w0 ps0 H0 H [bx k 30 (g8 x0),Fs7j1,Fs10l6] w)∧ae s H) ⟨_,((List.replicate (x0.d3:Int).toNat false),0),H,br,rfl,rfl,bs,((ar.bring 2).bring 2),cj⟩ ?_
   rintro ea eb w next6 ⟨⟨a4m,a5h⟩,H,Fs10l6,rfl,af,a8W,I,cl⟩ hn6
   dsimp only at af I a8W
   simp only [List.map_cons,List.map_nil,List.cons.injEq,and_true] at af
   have e46:=af
   simp only [e46]
   obtain ⟨n6,hm6,h⟩:∃n6:((List Bool)×Int)→Hp→Prop,(∀s' H',n6 s' H'→ae s' H'∧r s' < r (a4m,a5h))∧a2w b3Q x0.p5 (x0.p5.n:Int) x0 a4m a5h H n6 K:=⟨_,fun _ _ h=>h,ck (a4m,a5h) H (fun s' H'=>ae s' H'∧r s' < r (a4m,a5h)) cl (fun _ _ a b=>⟨a,b⟩)⟩
   unfold c2j
   unfold a2w at h
   refine c7 pLs ?_
   refine g9 h (fun _ h=>?_) (fun _ h=>?_)
   ·obtain ⟨cm,cn,t,ag,h⟩:=h
    obtain ⟨ec,ed,co,ag⟩:=ag
    refine c7 (M9 co _ _ _ _ cm cn) (d4 (ldA (vs:=(i5 t)) Tryz.isAgg40 Tryz.sizeOf40 rfl (I.atH ag)) ?_)
    refine y3 I Tryz.zeroValue40 (cs:=[(vi 0),(vi 0),(vi 0),(vi 0),(vi 0),(vi 0),(vi 0),(vi 0),(vi 0),(vi 0)]) rfl fun ay ee cp ef=>?_
    refine A6 cp Tryz.sizeOf40 (vs:=(i5 t)) fun eg cq eh=>?_
    refine N5 cq fun ei j=>?_
    refine f8 D8 ?_
    refine f8 D8 ?_
    refine o3 (l1 Tryz.isAgg3 j rfl) ?_
    refine o3 (l1 Tryz.isAgg3 j rfl) ?_
    obtain ⟨az,ah,ai,h⟩:=h
    obtain ⟨ej,ek,ba,el⟩:=a8W.addr ai
    refine f8 (a0y ba _ _ _ _ az (a8W.lt az ai)) ?_
    refine o3 (ld1 (v:=(vB ah)) Tryz.isAgg4 (a8W.atW (j.bring 3) ba ai)) ?_
    try simp only [B8,G9,B9,C1,C3,C5,C0,C2,C4,C6]
    refine f8 (Pu.g fun hb=>by have d:=hb;first | with_reducible exact A7 | (simp only [c6 d,c5 d,c5 hb,d8 d];with_reducible exact A7) | (simp only [c6 d,c5 d,c5 hb,d9 d,c8];with_reducible exact A7) | exact A7 | (simp only [c6 d,c5 d,c5 hb,d8 d];exact A7) | (simp only [c6 d,c5 d,c5 hb,d9 d,c8];exact A7)) ?_
    try simp only [B8,G9,B9,C1,C3,C5,C0,C2,C4,C6]
    refine f8 (Pu.g fun hb=>by have d:=hb;first | with_reducible exact D8 | (simp only [c6 d,c5 d,c5 hb,d8 d];with_reducible exact D8) | (simp only [c6 d,c5 d,c5 hb,d9 d,c8];with_reducible exact D8) | exact D8 | (simp only [c6 d,c5 d,c5 hb,d8 d];exact D8) | (simp only [c6 d,c5 d,c5 hb,d9 d,c8];exact D8)) ?_
    refine R2 (p:=(Value.pointer (some ⟨ay,0,none⟩))) rfl (Ld.g fun hb=>by have d:=hb;first | exact (l1 Tryz.isAgg3 j rfl) | (simp only [c6 d,c5 d,c5 hb,d8 d];exact (l1 Tryz.isAgg3 j rfl)) | (simp only [c6 d,c5 d,c5 hb,d9 d,c8];exact (l1 Tryz.isAgg3 j rfl))) ?_
    obtain ⟨m,f,h⟩:=h
    obtain ⟨cr,f⟩:=c4I a0l f
    refine f8 (Pu.g fun hb=>by have d:=hb;first | with_reducible exact (J4 (f hb).2.2 _ _ _ _ (f hb).1 (a0l.lt (f hb).1 (f hb).2.1)) | (simp only [c6 d,c5 d,c5 hb,d8 d];with_reducible exact (J4 (f hb).2.2 _ _ _ _ (f hb).1 (a0l.lt (f hb).1 (f hb).2.1))) | (simp only [c6 d,c5 d,c5 hb,d9 d,c8];with_reducible exact (J4 (f hb).2.2 _ _ _ _ (f hb).1 (a0l.lt (f hb).1 (f hb).2.1))) | exact (J4 (f hb).2.2 _ _ _ _ (f hb).1 (a0l.lt (f hb).1 (f hb).2.1)) | (simp only [c6 d,c5 d,c5 hb,d8 d];exact (J4 (f hb).2.2 _ _ _ _ (f hb).1 (a0l.lt (f hb).1 (f hb).2.1))) | (simp only [c6 d,c5 d,c5 hb,d9 d,c8];exact (J4 (f hb).2.2 _ _ _ _ (f hb).1 (a0l.lt (f hb).1 (f hb).2.1)))) ?_
    refine R2 (p:=(Value.pointer (some ⟨cr,0+(t.s7:Int).toNat*1,none⟩))) rfl (Ld.g fun hb=>by have d:=hb;first | with_reducible exact (ld1 (v:=(vi m)) Tryz.isAgg3 (a0l.atW (j.bring 2) (f hb).2.2 (f hb).2.1)) | (simp only [c6 d,c5 d,c5 hb,d8 d];with_reducible exact (ld1 (v:=(vi m)) Tryz.isAgg3 (a0l.atW (j.bring 2) (f hb).2.2 (f hb).2.1))) | (simp only [c6 d,c5 d,c5 hb,d9 d,c8];with_reducible exact (ld1 (v:=(vi m)) Tryz.isAgg3 (a0l.atW (j.bring 2) (f hb).2.2 (f hb).2.1))) | exact (ld1 (v:=(vi m)) Tryz.isAgg3 (a0l.atW (j.bring 2) (f hb).2.2 (f hb).2.1)) | (simp only [c6 d,c5 d,c5 hb,d8 d];exact (ld1 (v:=(vi m)) Tryz.isAgg3 (a0l.atW (j.bring 2) (f hb).2.2 (f hb).2.1))) | (simp only [c6 d,c5 d,c5 hb,d9 d,c8];exact (ld1 (v:=(vi m)) Tryz.isAgg3 (a0l.atW (j.bring 2) (f hb).2.2 (f hb).2.1)))) ?_
    refine R2 (p:=(Value.pointer (some ⟨ay,1,none⟩))) rfl (Ld.g fun hb=>by have d:=hb;first | exact (l1 Tryz.isAgg3 j rfl) | (simp only [c6 d,c5 d,c5 hb,d8 d];exact (l1 Tryz.isAgg3 j rfl)) | (simp only [c6 d,c5 d,c5 hb,d9 d,c8];exact (l1 Tryz.isAgg3 j rfl))) ?_
    obtain ⟨o,i,h⟩:=h
    obtain ⟨ct,i⟩:=c4I a0l i
    refine f8 (Pu.g fun hb=>by have d:=hb;first | with_reducible exact (J4 (i hb).2.2 _ _ _ _ (i hb).1 (a0l.lt (i hb).1 (i hb).2.1)) | (simp only [c6 d,c5 d,c5 hb,d8 d];with_reducible exact (J4 (i hb).2.2 _ _ _ _ (i hb).1 (a0l.lt (i hb).1 (i hb).2.1))) | (simp only [c6 d,c5 d,c5 hb,d9 d,c8];with_reducible exact (J4 (i hb).2.2 _ _ _ _ (i hb).1 (a0l.lt (i hb).1 (i hb).2.1))) | exact (J4 (i hb).2.2 _ _ _ _ (i hb).1 (a0l.lt (i hb).1 (i hb).2.1)) | (simp only [c6 d,c5 d,c5 hb,d8 d];exact (J4 (i hb).2.2 _ _ _ _ (i hb).1 (a0l.lt (i hb).1 (i hb).2.1))) | (simp only [c6 d,c5 d,c5 hb,d9 d,c8];exact (J4 (i hb).2.2 _ _ _ _ (i hb).1 (a0l.lt (i hb).1 (i hb).2.1)))) ?_
    refine R2 (p:=(Value.pointer (some ⟨ct,0+(t.fTo:Int).toNat*1,none⟩))) rfl (Ld.g fun hb=>by have d:=hb;first | with_reducible exact (ld1 (v:=(vi o)) Tryz.isAgg3 (a0l.atW (j.bring 2) (i hb).2.2 (i hb).2.1)) | (simp only [c6 d,c5 d,c5 hb,d8 d];with_reducible exact (ld1 (v:=(vi o)) Tryz.isAgg3 (a0l.atW (j.bring 2) (i hb).2.2 (i hb).2.1))) | (simp only [c6 d,c5 d,c5 hb,d9 d,c8];with_reducible exact (ld1 (v:=(vi o)) Tryz.isAgg3 (a0l.atW (j.bring 2) (i hb).2.2 (i hb).2.1))) | exact (ld1 (v:=(vi o)) Tryz.isAgg3 (a0l.atW (j.bring 2) (i hb).2.2 (i hb).2.1)) | (simp only [c6 d,c5 d,c5 hb,d8 d];exact (ld1 (v:=(vi o)) Tryz.isAgg3 (a0l.atW (j.bring 2) (i hb).2.2 (i hb).2.1))) | (simp only [c6 d,c5 d,c5 hb,d9 d,c8];exact (ld1 (v:=(vi o)) Tryz.isAgg3 (a0l.atW (j.bring 2) (i hb).2.2 (i hb).2.1)))) ?_
    refine f8 (Pu.g fun hb=>by have d:=hb;first | with_reducible exact pGe | (simp only [c6 d,c5 d,c5 hb,d8 d];with_reducible exact pGe) | (simp only [c6 d,c5 d,c5 hb,d9 d,c8];with_reducible exact pGe) | exact pGe | (simp only [c6 d,c5 d,c5 hb,d8 d];exact pGe) | (simp only [c6 d,c5 d,c5 hb,d9 d,c8];exact pGe)) ?_
    refine f8 (B4 _ _) ?_
    obtain ⟨bb,em,aj,h⟩:=h
    obtain ⟨en,eo,bc,ep⟩:=a8W.addr aj
    refine f8 (a0y bc _ _ _ _ bb (a8W.lt bb aj)) ?_
    refine a2o (x:=(ah||(decide (o≤m)))) (j.bring 3) a8W bc (List.getElem?_eq_some_iff.1 aj).1 Tryz.sizeOf4 rfl fun cu eq cv cw er=>?_
    refine c7 pAd ?_
    exact hn6 _ _ _ (hm6 _ _ h).2 ⟨((a4m.set (t.fTo:Int).toNat (ah||(decide (o≤m)))),(IntKind.wrap .i64 (a5h+1))),H,cu,rfl,rfl,cv,(((cw.bring 1).drop.bring 2).bring 2),(hm6 _ _ h).1⟩
   ·exact hx2 _ _ (hj2 a4m Fs10l6 H _ a8W (((I.bring 1).drop.bring 1).bring 1) h)
  refine s8 fun j1 hx1=>?_
  refine c7 (D3 _ _ _) ?_
  obtain ⟨ak,u,cx,cy⟩:=h
  refine I0 (J:=fun n l w=>∃(s:(List Int)×Int)(H:Hp)(Fs7l7:Frag),n=u s∧l=(match s with | (a6w,a3A)=>[(vi a3A)])∧(match s with | (a6w,a3A)=>RowL 3 1 r9 aa a6w Fs7l7)∧(match s with | (a6w,a3A)=>Inv w0 ps0 H0 H [bx k 30 (g8 x0),Fs7l7] w)∧ak s H) ⟨_,((List.replicate (x0.d3:Int).toNat 0),0),bi,bm,rfl,rfl,bn,(bo.bring 1),cx⟩ ?_
  rintro es et w next7 ⟨⟨a6w,a3A⟩,H,Fs7l7,rfl,al,b5p,I,cz⟩ hn7
  dsimp only at al I b5p
  simp only [List.map_cons,List.map_nil,List.cons.injEq,and_true] at al
  have e30:=al
  simp only [e30]
  obtain ⟨n7,hm7,h⟩:∃n7:((List Int)×Int)→Hp→Prop,(∀s' H',n7 s' H'→ak s' H'∧u s' < u (a6w,a3A))∧a2y aq (aq.n:Int) x0 a6w a3A H n7 K:=⟨_,fun _ _ h=>h,cy (a6w,a3A) H (fun s' H'=>ak s' H'∧u s' < u (a6w,a3A)) cz (fun _ _ a b=>⟨a,b⟩)⟩
  unfold c2k
  unfold a2y at h
  refine c7 pLs ?_
  refine g9 h (fun _ h=>?_) (fun _ h=>?_)
  ·obtain ⟨da,db,bd,am,h⟩:=h
   obtain ⟨eu,ev,dc,am⟩:=am
   refine c7 (J4 dc _ _ _ _ da db) (d4 (ld1 (v:=(vi bd)) Tryz.isAgg3 (I.atH am)) ?_)
   obtain ⟨be,ew,an,h⟩:=h
   obtain ⟨ex,ey,bf,ez⟩:=b5p.addr an
   refine c7 (J4 bf _ _ _ _ be (b5p.lt be an)) ?_
   refine a2o (x:=a3A) (I.bring 1) b5p bf (List.getElem?_eq_some_iff.1 an).1 Tryz.sizeOf3 rfl fun dd fa de df fb=>?_
   refine c7 pAd ?_
   exact hn7 _ _ _ (hm7 _ _ h).2 ⟨((a6w.set (bd:Int).toNat a3A),(IntKind.wrap .i64 (a3A+1))),H,dd,rfl,rfl,de,(df.bring 1),(hm7 _ _ h).1⟩
  ·exact hx1 _ _ (hj1 a6w Fs7l7 H _ b5p ((I.bring 1).bring 1) h)
def T5(a9H:Sl)(b0Z:Sl)(k:f7)(b:f7)(H:Hp)(K:Bool→Hp→Prop):Prop:=
 a3j b H (fun e f=>
 R8 a9H e f (fun a c=>
 TG (a=true) (a0M b c) (Sl.mk none 0 0) c (fun(g:Sl)(d:Hp)=>
 TG (a=true) (R8 b0Z g d) false d (fun(i:Bool)(j:Hp)=>
 K (a&&i) j))))
def T6(b9o:Sl)(a4y:Sl)(d0f:Sl)(b7v:Sl)(c:f7)(d:f7)(a6x:Int)(H:Hp)(n3:Int→Hp→Prop)(K:Bool→Hp→Prop):Prop:=
 (a6x < (b7v.n:Int)→
 (0:Int)≤a6x∧(a6x:Int) < b9o.n∧∃a:Bool,EltH H b9o a6x 1 [(vB a)]∧
 (0:Int)≤a6x∧(a6x:Int) < b7v.n∧∃b:Bool,EltH H b7v a6x 1 [(vB b)]∧
 ((a != b)=true→
 K false H)∧
 ((a != b)=false→
 n3 (IntKind.wrap .i64 (a6x+1)) H))∧
 (¬(a6x < (b7v.n:Int))→
 T5 a4y d0f c d H K)
def G7(a7n:Sl)(d0g:Sl)(d0h:Sl)(d:f7)(b:f7)(H:Hp)(K:Bool→Hp→Prop):Prop:=
 a1T b H (fun a c=>
 (¬((a7n.n:Int)=(a.n:Int))→
 K false c)∧
 ((a7n.n:Int)=(a.n:Int)→
 TL (0:Int) c fun(s:Int) H n3=>T6 a7n d0g d0h a d b s H n3 K))
def a1j(x0:f7)(x1:Int)(H:Hp)(K:Bool→Hp→Prop):Prop:=
 a3k H (fun k l=>
 ((!k)=true→
 K false l)∧
 ((!k)=false→
 a3m x0 l (fun a v=>
 a1U x0 v (fun b y=>
 a7z b x1 y (fun e c z=>
 a3o b z (fun f m aa=>
 a4T b aa (fun g o ab=>
 a1V b ab (fun i p ac=>
 S4 b ac (fun j q=>
 TG ((!decide (j=a))=false) (a1l b x0 q) false q (fun(r:Bool)(d:Hp)=>
 ((((((!decide (j=a))||(!r))||(!decide (m=a)))||(!decide (o=a)))||(!decide (p=a)))=true→
 K false d)∧
 ((((((!decide (j=a))||(!r))||(!decide (m=a)))||(!decide (o=a)))||(!decide (p=a)))=false→
 (¬(a=0)→
 K (((((decide (c=a))&&(decide ((e.n:Int)=0)))&&(decide ((f.n:Int)=0)))&&(decide ((g.n:Int)=0)))&&(decide ((i.n:Int)=0))) d)∧
 (a=0→
 (((decide (x1 < 0))||(decide (x0.d3≤x1)))=true→
 (((!decide (c=92))||(!decide ((e.n:Int)=0)))=true→
 K false d)∧
 (((!decide (c=92))||(!decide ((e.n:Int)=0)))=false→
 G7 f g i b x0 d K))∧
 (((decide (x1 < 0))||(decide (x0.d3≤x1)))=false→
 TG ((!decide (c=0))=false) (a1m x0 x1 d) (Sl.mk none 0 0) d (fun(ad:Sl)(s:Hp)=>
 TG ((!decide (c=0))=false) (R8 e ad s) false s (fun(t:Bool)(u:Hp)=>
 (((!decide (c=0))||(!t))=true→
 K false u)∧
 (((!decide (c=0))||(!t))=false→
 G7 f g i b x0 u K))))))))))))))))
theorem a8h(x0 x1){H K}(h:a1j x0 x1 H K):a1i x0 x1 H K:=by
 refine Ct.of fun w0 w ps0 H0 R E I hR=>c9S ?_
 unfold a1j at h
 unfold F4
 refine D6 I (cs:=(g8 x0)) rfl fun f cj bi ck=>?_
 refine j6 Tryz.call5 h bi ?_
 rintro _ bj _ cl z _ _ ⟨cm,rfl,rfl,h⟩
 refine c7 (p8 _) ?_
 refine q9 h (fun _ h=>?_) (fun _ h=>?_)
 ·exact hR _ bj _ _ z.drop ⟨false,rfl,rfl,h⟩
 ·refine d4 (lW Tryz.isAgg30 Tryz.sizeOf30 rfl z) ?_
  refine j6 Tryz.call9 h z ?_
  rintro _ _ _ cn ag _ _ ⟨bk,rfl,rfl,h⟩
  refine d4 (lW Tryz.isAgg30 Tryz.sizeOf30 rfl ag) ?_
  refine j6 Tryz.call10 h ag ?_
  rintro _ _ _ co bl _ _ ⟨d,rfl,rfl,h⟩
  refine y3 bl Tryz.zeroValue30 (cs:=[(nS),(vi 0),(nS),(vi 0),(vi 0),(nS)]) rfl fun aa cp bm cq=>?_
  refine A6 bm Tryz.sizeOf30 (vs:=(g8 d)) fun cr ah ct=>?_
  refine d4 (lW Tryz.isAgg30 Tryz.sizeOf30 rfl ah) ?_
  refine j6 Tryz.call11 h ah ?_
  rintro _ _ _ cu ai _ _ ⟨bn,aj,rfl,rfl,h⟩
  refine c7 (p6 _ _ _ rfl) (c7 (p6 _ _ (vi aj) rfl) (d4 (lW Tryz.isAgg30 Tryz.sizeOf30 rfl ai) ?_))
  refine j6 Tryz.call12 h ai ?_
  rintro _ _ _ cv ak _ _ ⟨ab,bo,rfl,rfl,h⟩
  refine c7 (p6 _ _ _ rfl) (c7 (p6 _ _ (vi bo) rfl) (d4 (lW Tryz.isAgg30 Tryz.sizeOf30 rfl ak) ?_))
  refine j6 Tryz.call13 h ak ?_
  rintro _ _ _ cw al _ _ ⟨i,bp,rfl,rfl,h⟩
  refine c7 (p6 _ _ _ rfl) (c7 (p6 _ _ (vi bp) rfl) (d4 (lW Tryz.isAgg30 Tryz.sizeOf30 rfl al) ?_))
  refine j6 Tryz.call14 h al ?_
  rintro _ _ _ cx am _ _ ⟨j,bq,rfl,rfl,h⟩
  refine c7 (p6 _ _ _ rfl) (c7 (p6 _ _ (vi bq) rfl) (d4 (lW Tryz.isAgg30 Tryz.sizeOf30 rfl am) ?_))
  refine j6 Tryz.call15 h am ?_
  rintro _ _ _ cy c _ _ ⟨cz,rfl,rfl,h⟩
  refine c7 pNe ?_
  refine d4 (Ld.g fun hb=>by have a:=hb;first | exact (lW Tryz.isAgg30 Tryz.sizeOf30 rfl c) | (simp only [c6 a,c5 a,c5 hb,d8 a];exact (lW Tryz.isAgg30 Tryz.sizeOf30 rfl c)) | (simp only [c6 a,c5 a,c5 hb,d9 a,c8];exact (lW Tryz.isAgg30 Tryz.sizeOf30 rfl c))) ?_
  refine d4 (Ld.g fun hb=>by have a:=hb;first | exact (lW Tryz.isAgg30 Tryz.sizeOf30 rfl (c.bring 1)) | (simp only [c6 a,c5 a,c5 hb,d8 a];exact (lW Tryz.isAgg30 Tryz.sizeOf30 rfl (c.bring 1))) | (simp only [c6 a,c5 a,c5 hb,d9 a,c8];exact (lW Tryz.isAgg30 Tryz.sizeOf30 rfl (c.bring 1)))) ?_
  refine R1 [] (fun m:Bool=>(vB m)) h c (fun an h=>?_) fun m e br b ao ap h=>?_
  ·have a:=an
   try simp only [c6 a,c5 a,c5 an]
   refine j6 Tryz.call8 h c ?_
   rintro _ e _ br b ap ao ⟨m,rfl,rfl,h⟩
   exact ⟨m,e,rfl,b,ao,ap,h⟩
  refine c7 (Pu.g fun hb=>by have a:=hb;first | with_reducible exact (p8 _) | (simp only [c6 a,c5 a,c5 hb,d8 a];with_reducible exact (p8 _)) | (simp only [c6 a,c5 a,c5 hb,d9 a,c8];with_reducible exact (p8 _)) | exact (p8 _) | (simp only [c6 a,c5 a,c5 hb,d8 a];exact (p8 _)) | (simp only [c6 a,c5 a,c5 hb,d9 a,c8];exact (p8 _))) ?_
  refine c7 (B4 _ _) ?_
  try simp only [B8,G9,B9,C1,C3,C5,C0,C2,C4,C6]
  try simp only [B8,G9,B9,C1,C3,C5,C0,C2,C4,C6]
  refine c7 (Pu.g fun hb=>by have a:=hb;first | with_reducible exact pNe | (simp only [c6 a,c5 a,c5 hb,d8 a];with_reducible exact pNe) | (simp only [c6 a,c5 a,c5 hb,d9 a,c8];with_reducible exact pNe) | exact pNe | (simp only [c6 a,c5 a,c5 hb,d8 a];exact pNe) | (simp only [c6 a,c5 a,c5 hb,d9 a,c8];exact pNe)) ?_
  refine c7 (B4 _ _) ?_
  try simp only [B8,G9,B9,C1,C3,C5,C0,C2,C4,C6]
  try simp only [B8,G9,B9,C1,C3,C5,C0,C2,C4,C6]
  refine c7 (Pu.g fun hb=>by have a:=hb;first | with_reducible exact pNe | (simp only [c6 a,c5 a,c5 hb,d8 a];with_reducible exact pNe) | (simp only [c6 a,c5 a,c5 hb,d9 a,c8];with_reducible exact pNe) | exact pNe | (simp only [c6 a,c5 a,c5 hb,d8 a];exact pNe) | (simp only [c6 a,c5 a,c5 hb,d9 a,c8];exact pNe)) ?_
  refine c7 (B4 _ _) ?_
  try simp only [B8,G9,B9,C1,C3,C5,C0,C2,C4,C6]
  try simp only [B8,G9,B9,C1,C3,C5,C0,C2,C4,C6]
  refine c7 (Pu.g fun hb=>by have a:=hb;first | with_reducible exact pNe | (simp only [c6 a,c5 a,c5 hb,d8 a];with_reducible exact pNe) | (simp only [c6 a,c5 a,c5 hb,d9 a,c8];with_reducible exact pNe) | exact pNe | (simp only [c6 a,c5 a,c5 hb,d8 a];exact pNe) | (simp only [c6 a,c5 a,c5 hb,d9 a,c8];exact pNe)) ?_
  refine c7 (B4 _ _) ?_
  refine q9 h (fun _ h=>?_) (fun _ h=>?_)
  ·exact hR _ e _ _ b.drop.drop ⟨false,rfl,rfl,h⟩
  ·refine c7 pNe ?_
   refine a0e h (fun _ h=>?_) (fun _ h=>?_)
   ·refine c7 pEq ?_
    try simp only [B8,G9,B9,C1,C3,C5,C0,C2,C4,C6]
    refine c7 (Pu.g fun hb=>by have a:=hb;first | with_reducible exact (D3 _ _ _) | (simp only [c6 a,c5 a,c5 hb,d6 a];with_reducible exact (D3 _ _ _)) | (simp only [c6 a,c5 a,c5 hb,d7 a,c8];with_reducible exact (D3 _ _ _)) | exact (D3 _ _ _) | (simp only [c6 a,c5 a,c5 hb,d6 a];exact (D3 _ _ _)) | (simp only [c6 a,c5 a,c5 hb,d7 a,c8];exact (D3 _ _ _))) ?_
    refine c7 (Pu.g fun hb=>by have a:=hb;first | with_reducible exact pEq | (simp only [c6 a,c5 a,c5 hb,d6 a];with_reducible exact pEq) | (simp only [c6 a,c5 a,c5 hb,d7 a,c8];with_reducible exact pEq) | exact pEq | (simp only [c6 a,c5 a,c5 hb,d6 a];exact pEq) | (simp only [c6 a,c5 a,c5 hb,d7 a,c8];exact pEq)) ?_
    refine c7 (p9 _ _) ?_
    try simp only [B8,G9,B9,C1,C3,C5,C0,C2,C4,C6]
    refine c7 (Pu.g fun hb=>by have a:=hb;first | with_reducible exact (a4P _ _ _) | (simp only [c6 a,c5 a,c5 hb,d6 a];with_reducible exact (a4P _ _ _)) | (simp only [c6 a,c5 a,c5 hb,d7 a,c8];with_reducible exact (a4P _ _ _)) | exact (a4P _ _ _) | (simp only [c6 a,c5 a,c5 hb,d6 a];exact (a4P _ _ _)) | (simp only [c6 a,c5 a,c5 hb,d7 a,c8];exact (a4P _ _ _))) ?_
    refine c7 (Pu.g fun hb=>by have a:=hb;first | with_reducible exact pEq | (simp only [c6 a,c5 a,c5 hb,d6 a];with_reducible exact pEq) | (simp only [c6 a,c5 a,c5 hb,d7 a,c8];with_reducible exact pEq) | exact pEq | (simp only [c6 a,c5 a,c5 hb,d6 a];exact pEq) | (simp only [c6 a,c5 a,c5 hb,d7 a,c8];exact pEq)) ?_
    refine c7 (p9 _ _) ?_
    try simp only [B8,G9,B9,C1,C3,C5,C0,C2,C4,C6]
    refine c7 (Pu.g fun hb=>by have a:=hb;first | with_reducible exact (D3 _ _ _) | (simp only [c6 a,c5 a,c5 hb,d6 a];with_reducible exact (D3 _ _ _)) | (simp only [c6 a,c5 a,c5 hb,d7 a,c8];with_reducible exact (D3 _ _ _)) | exact (D3 _ _ _) | (simp only [c6 a,c5 a,c5 hb,d6 a];exact (D3 _ _ _)) | (simp only [c6 a,c5 a,c5 hb,d7 a,c8];exact (D3 _ _ _))) ?_
    refine c7 (Pu.g fun hb=>by have a:=hb;first | with_reducible exact pEq | (simp only [c6 a,c5 a,c5 hb,d6 a];with_reducible exact pEq) | (simp only [c6 a,c5 a,c5 hb,d7 a,c8];with_reducible exact pEq) | exact pEq | (simp only [c6 a,c5 a,c5 hb,d6 a];exact pEq) | (simp only [c6 a,c5 a,c5 hb,d7 a,c8];exact pEq)) ?_
    refine c7 (p9 _ _) ?_
    try simp only [B8,G9,B9,C1,C3,C5,C0,C2,C4,C6]
    refine c7 (Pu.g fun hb=>by have a:=hb;first | with_reducible exact (D3 _ _ _) | (simp only [c6 a,c5 a,c5 hb,d6 a];with_reducible exact (D3 _ _ _)) | (simp only [c6 a,c5 a,c5 hb,d7 a,c8];with_reducible exact (D3 _ _ _)) | exact (D3 _ _ _) | (simp only [c6 a,c5 a,c5 hb,d6 a];exact (D3 _ _ _)) | (simp only [c6 a,c5 a,c5 hb,d7 a,c8];exact (D3 _ _ _))) ?_
    refine c7 (Pu.g fun hb=>by have a:=hb;first | with_reducible exact pEq | (simp only [c6 a,c5 a,c5 hb,d6 a];with_reducible exact pEq) | (simp only [c6 a,c5 a,c5 hb,d7 a,c8];with_reducible exact pEq) | exact pEq | (simp only [c6 a,c5 a,c5 hb,d6 a];exact pEq) | (simp only [c6 a,c5 a,c5 hb,d7 a,c8];exact pEq)) ?_
    refine c7 (p9 _ _) ?_
    exact hR _ e _ _ b.drop.drop ⟨(((((decide (aj=bk))&&(decide ((bn.n:Int)=0)))&&(decide ((ab.n:Int)=0)))&&(decide ((i.n:Int)=0)))&&(decide ((j.n:Int)=0))),rfl,rfl,h⟩
   ·have hj1:∀H w (_:Inv w0 ps0 H0 H [bx aa 30 (g8 d),bx f 30 (g8 x0)] w) (_:G7 ab i j d x0 H K),c0Y (Value.pointer (some ⟨f,0,none⟩)) (vs ab) (vs i) (vs j) w R E:=by
     intro H w I h
     unfold c0Y
     intro _
     unfold G7 at h
     refine d4 (lW Tryz.isAgg30 Tryz.sizeOf30 rfl (I.bring 1)) ?_
     refine j6 Tryz.call18 h I ?_
     rintro _ bs _ da aq _ _ ⟨db,rfl,rfl,h⟩
     refine c7 (a4P _ _ _) (c7 (a4P _ _ _) (c7 pNe ?_))
     refine a0e h (fun _ h=>?_) (fun _ h=>?_)
     ·exact hR _ bs _ _ aq.drop.drop ⟨false,rfl,rfl,h⟩
     ·have hj2:∀H w (_:Inv w0 ps0 H0 H [bx aa 30 (g8 d),bx f 30 (g8 x0)] w) (_:T5 i j d x0 H K),c0X (Value.pointer (some ⟨f,0,none⟩)) (vs i) (vs j) w R E:=by
       intro H w I h
       unfold c0X
       intro _
       unfold T5 at h
       refine d4 (lW Tryz.isAgg30 Tryz.sizeOf30 rfl (I.bring 1)) ?_
       refine j6 Tryz.call19 h I ?_
       rintro _ _ _ dc bt _ _ ⟨dd,rfl,rfl,h⟩
       refine j6 Tryz.call16 h bt ?_
       rintro _ _ _ de k _ _ ⟨bu,rfl,rfl,h⟩
       try simp only [B8,G9,B9,C1,C3,C5,C0,C2,C4,C6]
       refine d4 (Ld.g fun hb=>by have a:=hb;first | exact (lW Tryz.isAgg30 Tryz.sizeOf30 rfl (k.bring 1)) | (simp only [c6 a,c5 a,c5 hb,d6 a];exact (lW Tryz.isAgg30 Tryz.sizeOf30 rfl (k.bring 1))) | (simp only [c6 a,c5 a,c5 hb,d7 a,c8];exact (lW Tryz.isAgg30 Tryz.sizeOf30 rfl (k.bring 1)))) ?_
       refine R1 [] (fun o:Sl=>(vs o)) h k (fun ar h=>?_) fun o au bv p av aw h=>?_
       ·have a:=ar
        try simp only [c6 a,c5 a,c5 ar]
        refine j6 Tryz.call20 h k ?_
        rintro _ au _ bv p aw av ⟨o,rfl,rfl,h⟩
        exact ⟨o,au,rfl,p,av,aw,h⟩
       refine R1 [] (fun l:Bool=>(vB l)) h p (fun ax h=>?_) fun l ac bw ad ay az h=>?_
       ·have a:=ax
        try simp only [c6 a,c5 a,c5 ax]
        refine j6 Tryz.call16 h p ?_
        rintro _ ac _ bw ad az ay ⟨l,rfl,rfl,h⟩
        exact ⟨l,ac,rfl,ad,ay,az,h⟩
       refine c7 (p9 _ _) ?_
       exact hR _ ac _ _ ad.drop.drop ⟨(bu&&l),rfl,rfl,h⟩
      refine s8 fun j2 hx2=>?_
      refine a0V (σ:=Int) (fun a6x=>[(vi a6x)]) (fun a6x=>[bx aa 30 (g8 d),bx f 30 (g8 x0)]) h rfl ((aq.bring 1).bring 1) ?_
      rintro a6x H df w next3 n3 ba I h hn3
      simp only [List.map_cons,List.map_nil,List.cons.injEq,and_true] at ba
      have e16:=ba
      simp only [e16]
      unfold c4K
      unfold T6 at h
      refine c7 (a4P _ _ _) (c7 pLs ?_)
      refine g9 h (fun _ h=>?_) (fun _ h=>?_)
      ·refine N5 I fun dg q=>?_
       obtain ⟨bz,ca,cb,ae,h⟩:=h
       obtain ⟨dh,di,cc,ae⟩:=ae
       refine f8 (a0y cc _ _ _ _ bz ca) ?_
       obtain ⟨cd,ce,cf,af,h⟩:=h
       obtain ⟨dj,dk,cg,af⟩:=af
       refine f8 (a0y cg _ _ _ _ cd ce) ?_
       refine o3 (ld1 (v:=(vB cb)) Tryz.isAgg4 (q.atH ae)) ?_
       refine o3 (ld1 (v:=(vB cf)) Tryz.isAgg4 (q.atH af)) ?_
       refine f8 (c3G _ _ _ _) ?_
       refine q9 h (fun _ h=>?_) (fun _ h=>?_)
       ·exact hR _ H _ _ q.drop.drop ⟨false,rfl,rfl,h⟩
       ·refine c7 pAd ?_
        exact hn3 (IntKind.wrap .i64 (a6x+1)) _ _ h ((q.bring 1).bring 1)
      ·exact hx2 _ _ (hj2 H _ ((I.bring 1).bring 1) h)
    refine s8 fun j1 hx1=>?_
    refine c7 pLs ?_
    try simp only [B8,G9,B9,C1,C3,C5,C0,C2,C4,C6]
    refine c7 (Pu.g fun hb=>by have a:=hb;first | with_reducible exact j9 | (simp only [c6 a,c5 a,c5 hb,d8 a];with_reducible exact j9) | (simp only [c6 a,c5 a,c5 hb,d9 a,c8];with_reducible exact j9) | exact j9 | (simp only [c6 a,c5 a,c5 hb,d8 a];exact j9) | (simp only [c6 a,c5 a,c5 hb,d9 a,c8];exact j9)) ?_
    refine d4 (Ld.g fun hb=>by have a:=hb;first | exact (l1 Tryz.isAgg3 (b.bring 1) rfl) | (simp only [c6 a,c5 a,c5 hb,d8 a];exact (l1 Tryz.isAgg3 (b.bring 1) rfl)) | (simp only [c6 a,c5 a,c5 hb,d9 a,c8];exact (l1 Tryz.isAgg3 (b.bring 1) rfl))) ?_
    refine c7 (Pu.g fun hb=>by have a:=hb;first | with_reducible exact pGe | (simp only [c6 a,c5 a,c5 hb,d8 a];with_reducible exact pGe) | (simp only [c6 a,c5 a,c5 hb,d9 a,c8];with_reducible exact pGe) | exact pGe | (simp only [c6 a,c5 a,c5 hb,d8 a];exact pGe) | (simp only [c6 a,c5 a,c5 hb,d9 a,c8];exact pGe)) ?_
    refine c7 (B4 _ _) ?_
    refine q9 h (fun _ h=>?_) (fun _ h=>?_)
    ·refine c7 pNe ?_
     try simp only [B8,G9,B9,C1,C3,C5,C0,C2,C4,C6]
     refine c7 (Pu.g fun hb=>by have a:=hb;first | with_reducible exact (D3 _ _ _) | (simp only [c6 a,c5 a,c5 hb,d8 a];with_reducible exact (D3 _ _ _)) | (simp only [c6 a,c5 a,c5 hb,d9 a,c8];with_reducible exact (D3 _ _ _)) | exact (D3 _ _ _) | (simp only [c6 a,c5 a,c5 hb,d8 a];exact (D3 _ _ _)) | (simp only [c6 a,c5 a,c5 hb,d9 a,c8];exact (D3 _ _ _))) ?_
     refine c7 (Pu.g fun hb=>by have a:=hb;first | with_reducible exact pNe | (simp only [c6 a,c5 a,c5 hb,d8 a];with_reducible exact pNe) | (simp only [c6 a,c5 a,c5 hb,d9 a,c8];with_reducible exact pNe) | exact pNe | (simp only [c6 a,c5 a,c5 hb,d8 a];exact pNe) | (simp only [c6 a,c5 a,c5 hb,d9 a,c8];exact pNe)) ?_
     refine c7 (B4 _ _) ?_
     refine q9 h (fun _ h=>?_) (fun _ h=>?_)
     ·exact hR _ e _ _ b.drop.drop ⟨false,rfl,rfl,h⟩
     ·exact hx1 _ _ (hj1 e _ ((b.bring 1).bring 1) h)
    ·refine c7 pNe ?_
     try simp only [B8,G9,B9,C1,C3,C5,C0,C2,C4,C6]
     refine d4 (Ld.g fun hb=>by have a:=hb;first | exact (lW Tryz.isAgg30 Tryz.sizeOf30 rfl (b.bring 1)) | (simp only [c6 a,c5 a,c5 hb,d8 a];exact (lW Tryz.isAgg30 Tryz.sizeOf30 rfl (b.bring 1))) | (simp only [c6 a,c5 a,c5 hb,d9 a,c8];exact (lW Tryz.isAgg30 Tryz.sizeOf30 rfl (b.bring 1)))) ?_
     try simp only [B8,G9,B9,C1,C3,C5,C0,C2,C4,C6]
     refine R1 [] (fun r:Sl=>(vs r)) h b (fun bb h=>?_) fun r bc ch s bd be h=>?_
     ·have a:=bb
      try simp only [c6 a,c5 a,c5 bb]
      refine j6 Tryz.call17 h b ?_
      rintro _ bc _ ch s be bd ⟨r,rfl,rfl,h⟩
      exact ⟨r,bc,rfl,s,bd,be,h⟩
     refine R1 [] (fun t:Bool=>(vB t)) h s (fun bf h=>?_) fun t u ci y bg bh h=>?_
     ·have a:=bf
      try simp only [c6 a,c5 a,c5 bf]
      refine j6 Tryz.call16 h s ?_
      rintro _ u _ ci y bh bg ⟨t,rfl,rfl,h⟩
      exact ⟨t,u,rfl,y,bg,bh,h⟩
     refine c7 (Pu.g fun hb=>by have a:=hb;first | with_reducible exact (p8 _) | (simp only [c6 a,c5 a,c5 hb,d8 a];with_reducible exact (p8 _)) | (simp only [c6 a,c5 a,c5 hb,d9 a,c8];with_reducible exact (p8 _)) | exact (p8 _) | (simp only [c6 a,c5 a,c5 hb,d8 a];exact (p8 _)) | (simp only [c6 a,c5 a,c5 hb,d9 a,c8];exact (p8 _))) ?_
     refine c7 (B4 _ _) ?_
     refine q9 h (fun _ h=>?_) (fun _ h=>?_)
     ·exact hR _ u _ _ y.drop.drop ⟨false,rfl,rfl,h⟩
     ·exact hx1 _ _ (hj1 u _ ((y.bring 1).bring 1) h)
def a2z(b0l:Int)(b5q:(List ByteArray))(b:E6)(H:Hp)(K:Sl→Int→Hp→Prop):Prop:=
 ∀(a8N:Sl)(a:Hp),Hle H a→SlH a 1 D4 a8N b5q→a8N.n≤a8N.c→
 K a8N b0l a
def a2A(K3:Int)(c4Y:Sl)(c4Z:Int)(b:E6)(a5N:(List ByteArray))(a1P:Int)(H:Hp)(n2:((List ByteArray)×Int)→Hp→Prop)(K:Sl→Int→Hp→Prop):Prop:=
 (a1P < c4Z→
 (0:Int)≤a1P∧(a1P:Int) < c4Y.n∧∃a:o0,EltH H c4Y a1P 2 (m2 a)∧
 (a5N.length+([a.m5]:List ByteArray).length)*17≤140737488355328∧
 n2 ((a5N++[a.m5]),(IntKind.wrap .i64 (a1P+1))) H)∧
 (¬(a1P < c4Z)→
 a2z K3 a5N b H K)
def a6I(x0:E6)(H:Hp)(K:Sl→Int→Hp→Prop):Prop:=
 a7A x0 1 H (fun a b c=>
 TL (([],0):(List ByteArray)×Int) c fun(s:(List ByteArray)×Int) H n2=>a2A b a (a.n:Int) x0 s.1 s.2 H n2 K)
theorem b3h(x0){H K}(h:a6I x0 H K):a8T x0 H K:=by
 refine Ct.of fun w0 w ps0 H0 R E I hR=>c7B ?_
 unfold a6I at h
 unfold F21
 refine D6 I (cs:=(C7 x0)) rfl fun m ap o aq=>?_
 refine d4 (lW Tryz.isAgg25 Tryz.sizeOf25 rfl o) ?_
 refine j6 Tryz.call44 h o ?_
 rintro _ u _ ar v _ _ ⟨p,d,rfl,rfl,h⟩
 refine c7 (p6 _ _ _ rfl) (c7 (p6 _ _ (vi d) rfl) ?_)
 have hj1:∀(b5q:(List ByteArray))(a8N:Sl)(Fs6j1:Frag) H w (_:RowL 9 1 D4 a8N b5q Fs6j1) (_:Inv w0 ps0 H0 H [bx m 25 (C7 x0),Fs6j1] w) (_:a2z d b5q x0 H K),b8E (vi d) (vs a8N) w R E:=by
  intro b5q a8N Fs6j1 H w d0i I h
  unfold b8E
  intro _
  unfold a2z at h
  obtain ⟨q,y,z,aa,ab⟩:=Inv.freezeC (I.bring 1) d0i (by decide)
  replace h:=h a8N q z aa ab
  exact hR _ q _ _ y.drop ⟨a8N,d,rfl,rfl,h⟩
 refine s8 fun j1 hx1=>?_
 refine c7 (N2 _ _ _) ?_
 obtain ⟨i,f,ac,ad⟩:=h
 refine I0 (J:=fun n l w=>∃(s:(List ByteArray)×Int)(H:Hp)(b5r:Sl)(Fs6l2:Frag),n=f s∧l=(match s with | (a5N,a1P)=>[(vs b5r),(vi a1P)])∧(match s with | (a5N,a1P)=>RowL 9 1 D4 b5r a5N Fs6l2)∧(match s with | (a5N,a1P)=>Inv w0 ps0 H0 H [bx m 25 (C7 x0),Fs6l2] w)∧i s H) ⟨_,([],0),u,(Sl.mk none 0 0),[],rfl,rfl,(RowL.nil a6j a7u),(v.nil.bring 1),ac⟩ ?_
 rintro au av w next2 ⟨⟨a5N,a1P⟩,H,b5r,Fs6l2,rfl,j,c1l,I,ae⟩ hn2
 dsimp only at j I c1l
 simp only [List.map_cons,List.map_nil,List.cons.injEq,and_true] at j
 obtain ⟨e6,e16⟩:=j
 simp only [e6,e16]
 obtain ⟨n2,hm2,h⟩:∃n2:((List ByteArray)×Int)→Hp→Prop,(∀s' H',n2 s' H'→i s' H'∧f s' < f (a5N,a1P))∧a2A d p (p.n:Int) x0 a5N a1P H n2 K:=⟨_,fun _ _ h=>h,ad (a5N,a1P) H (fun s' H'=>i s' H'∧f s' < f (a5N,a1P)) ae (fun _ _ a b=>⟨a,b⟩)⟩
 unfold c2w
 unfold a2A at h
 refine c7 pLs ?_
 refine g9 h (fun _ h=>?_) (fun _ h=>?_)
 ·obtain ⟨af,ag,g,k,h⟩:=h
  obtain ⟨aw,ax,ah,k⟩:=k
  refine c7 (W6 ah _ _ _ _ af ag) (d4 (ldA (vs:=(m2 g)) Tryz.isAgg70 Tryz.sizeOf70 rfl (I.atH k)) ?_)
  refine y3 I Tryz.zeroValue70 (cs:=[(eS),(vi 0)]) rfl fun ay az ai ba=>?_
  refine A6 ai Tryz.sizeOf70 (vs:=(m2 g)) fun bb r bc=>?_
  refine c7 a4R (d4 (l1 Tryz.isAgg9 r rfl) ?_)
  refine a0x (e:=9) (c:=D4) (xs:=[g.m5]) r (c0k _) rfl rfl a6j a7u (nb rfl) fun bd be bf aj t bg=>?_
  obtain ⟨ak,h⟩:=h
  refine b8c (s:=b5r) (xs:=a5N) (t.bring 3) c1l (aj.srcO ((t.bring 3).bring 1)) ak fun al am bh an ao bi=>?_
  refine c7 pAd ?_
  exact hn2 _ _ _ (hm2 _ _ h).2 ⟨((a5N++[g.m5]),(IntKind.wrap .i64 (a1P+1))),H,al,am,rfl,rfl,an,(((ao.bring 1).drop.bring 1).drop.bring 1),(hm2 _ _ h).1⟩
 ·exact hx1 _ _ (hj1 a5N b5r Fs6l2 H _ c1l ((I.bring 1).bring 1) h)
def a3B(x0:i4)(a:(List d5))(x1:d5)(H:Hp)(K:i4→(List d5)→Hp→Prop):Prop:=
 (a.length+([x1]:List d5).length)*81≤140737488355328∧
 K (f9 x0) (a++[x1]) H
theorem a9J(x0 a x1){H K}(h:a3B x0 a x1 H K):E0 x0 a x1 H K:=by
 intro g0 f r g
 refine Ct.of fun w0 w ps0 H0 R E I hR=>c8m ?_
 unfold a3B at h
 unfold F69
 refine D6 I (cs:=(i5 x1)) rfl fun t u i v=>?_
 refine N5 i fun y b=>?_
 refine f8 (y6 _) ?_
 refine f8 R3 ?_
 refine f8 o5 ?_
 refine o3 (l1 Tryz.isAgg28 (b.bring 1) rfl) ?_
 refine o3 (lW Tryz.isAgg40 Tryz.sizeOf40 rfl b) ?_
 refine a0x (e:=40) (c:=i5) (xs:=[x1]) b (c0j _ _ _ _ _ _ _ _ _ _) rfl rfl a2J a4M (nb rfl) fun z aa ab j d k=>?_
 refine ⟨(k _ (b.bring 1).lt1),?_⟩
 obtain ⟨l,h⟩:=h
 refine b8b (s:=f) (xs:=a) (d.bring 3) g (j.srcO ((d.bring 3).bring 1)) l fun m n ac o p ad=>?_
 refine f8 (y6 _) ?_
 refine f8 R3 ?_
 refine f8 o5 ?_
 refine P7 ((p.bring 1).drop.bring 2) Tryz.sizeOf28 fun ae q af=>?_
 exact hR _ H _ _ (((q.bring 2).drop.bring 1).bring 1) ⟨(f9 x0),(a++[x1]),m,n,rfl,rfl,o,h⟩
def a8k(x0:Int)(H:Hp)(K:Int→Hp→Prop):Prop:=
 (0:Int)≤x0∧(x0:Int) < 11∧
 K (([0,0,0,9,10,3,4,5,6,7,8]:List Int).getD (x0:Int).toNat 0) H
theorem b2T(x0){H K}(h:a8k x0 H K):a6l x0 H K:=by
 refine Ct.of fun w0 w ps0 H0 R E I hR=>c5R ?_
 unfold a8k at h
 unfold c8B
 refine c7 (a8R _ _ _ _ _ _ _ _) ?_
 obtain ⟨a,b,h⟩:=h
 refine c7 (c0U _ _ _ _ _ _ _ _ _ _ _ _ _ a b) ?_
 exact hR _ H _ _ I ⟨(([0,0,0,9,10,3,4,5,6,7,8]:List Int).getD (x0:Int).toNat 0),rfl,rfl,h⟩
def a1x(x0:i4)(a:(List d5))(x1:v6)(x2:Int)(x3:Int)(H:Hp)(K:m3→Int→i4→(List d5)→Hp→Prop):Prop:=
 a0t (f9 x0) a x1 H (fun f b c=>
 (b=true→
 K f x2 (f9 x0) a c)∧
 (b=false→
 G8 (f9 x0) a c (fun d g i j=>
 a3s (f9 g) i x3 j (fun e k l m=>
 a0N (f9 k) l x1 e x2 d x3 m (fun n o p=>
 K (m3.mk e 0) d (f9 n) o p)))))
theorem a8o(x0 b x1 x2 x3){H K}(h:a1x x0 b x1 x2 x3 H K):R9 x0 b x1 x2 x3 H K:=by
 intro g0 c d e
 refine Ct.of fun w0 w ps0 H0 R E I hR=>c8w ?_
 unfold a1x at h
 unfold F98
 refine D6 I (cs:=(q8 x1)) rfl fun al am n an=>?_
 refine y3 n Tryz.zeroValue38 (cs:=[(vi 0),(vi 0)]) rfl fun ao ap j aq=>?_
 refine d4 (lW Tryz.isAgg123 Tryz.sizeOf123 rfl (j.bring 1)) ?_
 refine j6 Tryz.call96 (h g0 c d e) ((j.bring 3).bring 3) ?_
 rintro _ p _ ar q _ _ ⟨f,r,rfl,rfl,h⟩
 refine c7 (p6 _ _ _ rfl) (c7 (p6 _ _ (vB r) rfl) ?_)
 refine y3 q Tryz.zeroValue38 (cs:=[(vi 0),(vi 0)]) rfl fun au av s aw=>?_
 refine A6 s Tryz.sizeOf38 (vs:=(i7 f)) fun ax g ay=>?_
 refine q9 h (fun _ h=>?_) (fun _ h=>?_)
 ·refine d4 (lW Tryz.isAgg38 Tryz.sizeOf38 rfl g) ?_
  refine A6 (g.bring 3) Tryz.sizeOf38 (vs:=(i7 f)) fun az k ba=>?_
  refine X5 Tryz.isAgg38 Tryz.sizeOf38 rfl k ?_
  exact hR _ p _ _ (((k.drop.drop.bring 2).drop.bring 1).bring 1) ⟨f,x2,(f9 x0),b,c,d,rfl,rfl,e,h⟩
 ·refine j6 Tryz.call23 (h g0 c d e) ((g.bring 2).bring 2) ?_
  rintro _ _ _ bb t _ _ ⟨u,bc,bd,v,y,rfl,rfl,z,h⟩
  refine j6 Tryz.call111 (h g0 v y z) ((t.bring 1).bring 1) ?_
  rintro _ _ _ be aa _ _ ⟨a,bf,bg,ab,ac,rfl,rfl,ad,h⟩
  refine c7 (P6 _) ?_
  refine y3 aa Tryz.zeroValue38 (cs:=[(vi 0),(vi 0)]) rfl fun bh bi ae bj=>?_
  refine A6 ae Tryz.sizeOf38 (vs:=[(vi a),(vi 0)]) fun bk i bl=>?_
  refine d4 (lW Tryz.isAgg123 Tryz.sizeOf123 rfl (i.bring 5)) (c7 K4 (d4 (l1 Tryz.isAgg3 i rfl) ?_))
  refine j6 Tryz.call97 (h g0 ab ac ad) ((i.bring 2).bring 2) ?_
  rintro _ af _ bm l _ _ ⟨ag,ah,ai,aj,rfl,rfl,ak,h⟩
  refine d4 (ldA Tryz.isAgg38 Tryz.sizeOf38 rfl ((l.bring 2).at1 (o:=0) (vs:=[(vi a),(vi 0)]) (nb rfl) rfl)) ?_
  refine A6 (l.bring 4) Tryz.sizeOf38 (vs:=[(vi a),(vi 0)]) fun bn m bo=>?_
  refine X5 Tryz.isAgg38 Tryz.sizeOf38 rfl m ?_
  exact hR _ af _ _ (((((m.drop.bring 2).drop.bring 2).drop.bring 2).drop.bring 1).bring 1) ⟨(m3.mk a 0),u,(f9 ag),ah,ai,aj,rfl,rfl,ak,h⟩
def a2h(x0:i4)(a:(List d5))(x1:Sl)(x2:Int)(H:Hp)(K:Int→i4→(List d5)→Hp→Prop):Prop:=
 ((x1.n:Int)=0→
 K x2 (f9 x0) a H)∧
 (¬((x1.n:Int)=0)→
 G8 (f9 x0) a H (fun b c d e=>
 K b (f9 c) d e))
theorem a8X(x0 a x1 x2){H K}(h:a2h x0 a x1 x2 H K):S5 x0 a x1 x2 H K:=by
 intro g0 b c d
 refine Ct.of fun w0 w ps0 H0 R E I hR=>c8n ?_
 unfold a2h at h
 unfold F70
 refine c7 (W5 _ _ _) (c7 pEq ?_)
 refine g9 h (fun _ h=>?_) (fun _ h=>?_)
 ·exact hR _ H _ _ ((I.bring 1).bring 1) ⟨x2,(f9 x0),a,b,c,rfl,rfl,d,h⟩
 ·refine j6 Tryz.call23 (h g0 b c d) ((I.bring 1).bring 1) ?_
  rintro _ e _ n f _ _ ⟨g,i,j,k,l,rfl,rfl,m,h⟩
  exact hR _ e _ _ ((f.bring 1).bring 1) ⟨g,(f9 i),j,k,l,rfl,rfl,m,h⟩
def a3C(x0:i4)(b:(List d5))(x1:B5)(x2:Int)(x3:Int)(x4:Int)(H:Hp)(K:i4→(List d5)→Hp→Prop):Prop:=
 (x1.f3=1→
 O3 x2 x3 1 H (fun r s=>
 E0 (f9 x0) b r s (fun t u v=>
 K (f9 t) u v)))∧
 (¬(x1.f3=1)→
 (x1.f3=2→
 O3 x2 x4 1 H (fun y z=>
 E0 (f9 x0) b y z (fun aa ab ac=>
 K (f9 aa) ab ac)))∧
 (¬(x1.f3=2)→
 (x1.f3=4→
 (0:Int)≤0∧(0:Int) < x1.D7.n∧∃c:B5,EltH H x1.D7 0 4 (t6 c)∧
 E5 (f9 x0) b c x2 x4 x3 H (fun ad ae af=>
 K (f9 ad) ae af))∧
 (¬(x1.f3=4)→
 (x1.f3=5→
 G8 (f9 x0) b H (fun d ag ah e=>
 (0:Int)≤0∧(0:Int) < x1.D7.n∧∃f:B5,EltH e x1.D7 0 4 (t6 f)∧
 E5 (f9 ag) ah f x2 d x4 e (fun ai aj g=>
 (0:Int)≤1∧(1:Int) < x1.D7.n∧∃i:B5,EltH g x1.D7 1 4 (t6 i)∧
 E5 (f9 ai) aj i d x3 x4 g (fun ak al am=>
 K (f9 ak) al am))))∧
 (¬(x1.f3=5)→
 (x1.f3=6→
 G8 (f9 x0) b H (fun j an ao k=>
 (0:Int)≤0∧(0:Int) < x1.D7.n∧∃l:B5,EltH k x1.D7 0 4 (t6 l)∧
 E5 (f9 an) ao l x2 x3 j k (fun ap aq m=>
 (0:Int)≤1∧(1:Int) < x1.D7.n∧∃o:B5,EltH m x1.D7 1 4 (t6 o)∧
 E5 (f9 ap) aq o j x3 x4 m (fun ar au av=>
 K (f9 ar) au av))))∧
 (¬(x1.f3=6)→
 W8 (f9 x0) b x1.m9 x2 0 H (fun p q aw ax ay az=>
 O3 aw x3 12 az (fun a ba=>
 E0 (f9 ax) ay (d5.mk a.s7 a.fTo a.f3 a.S3 a.O5 x1.fOp p q) ba (fun bb bc bd=>
 a3Y x1.fOp bd (fun be bf=>
 E0 (f9 bb) bc (d5.mk a.s7 x4 a.f3 a.S3 a.O5 be p q) bf (fun bg bh bi=>
 K (f9 bg) bh bi))))))))))
theorem a9K(x0 t x1 x2 x3 x4){H K}(h:a3C x0 t x1 x2 x3 x4 H K):E5 x0 t x1 x2 x3 x4 H K:=by
 intro g0 e f g
 refine Ct.of fun w0 w ps0 H0 R E I hR=>c8o ?_
 unfold a3C at h
 unfold F71
 refine D6 I (cs:=(t6 x1)) rfl fun dz ea b eb=>?_
 refine c7 b1f (d4 (l1 Tryz.isAgg3 b rfl) (c7 pEq ?_))
 refine g9 h (fun _ h=>?_) (fun _ h=>?_)
 ·refine j6 Tryz.call67 h b ?_
  rintro _ _ _ ec ab _ _ ⟨ed,rfl,rfl,h⟩
  refine j6 Tryz.call69 (h g0 e f g) ((ab.bring 2).bring 2) ?_
  rintro _ ac _ ee ad _ _ ⟨ae,af,ag,ah,rfl,rfl,ai,h⟩
  exact hR _ ac _ _ (((ad.bring 2).drop.bring 1).bring 1) ⟨(f9 ae),af,ag,ah,rfl,rfl,ai,h⟩
 ·refine c7 pEq ?_
  refine g9 h (fun _ h=>?_) (fun _ h=>?_)
  ·refine j6 Tryz.call67 h b ?_
   rintro _ _ _ ef aj _ _ ⟨eg,rfl,rfl,h⟩
   refine j6 Tryz.call69 (h g0 e f g) ((aj.bring 2).bring 2) ?_
   rintro _ ak _ eh al _ _ ⟨am,an,ao,ap,rfl,rfl,aq,h⟩
   exact hR _ ak _ _ (((al.bring 2).drop.bring 1).bring 1) ⟨(f9 am),an,ao,ap,rfl,rfl,aq,h⟩
  ·refine c7 pEq ?_
   refine g9 h (fun _ h=>?_) (fun _ h=>?_)
   ·refine c7 a3O (d4 (l1 Tryz.isAgg58 b rfl) ?_)
    obtain ⟨ar,au,av,j,h⟩:=h
    obtain ⟨ei,ej,aw,j⟩:=j
    refine c7 (a2K aw _ _ _ _ ar au) (d4 (ldA (vs:=(t6 av)) Tryz.isAgg131 Tryz.sizeOf131 rfl (b.atH j)) ?_)
    refine j6 Tryz.call71 (h g0 e f g) ((b.bring 2).bring 2) ?_
    rintro _ ax _ ek ay _ _ ⟨az,ba,bb,bc,rfl,rfl,bd,h⟩
    exact hR _ ax _ _ (((ay.bring 2).drop.bring 1).bring 1) ⟨(f9 az),ba,bb,bc,rfl,rfl,bd,h⟩
   ·refine c7 pEq ?_
    refine g9 h (fun _ h=>?_) (fun _ h=>?_)
    ·refine j6 Tryz.call23 (h g0 e f g) ((b.bring 2).bring 2) ?_
     rintro _ _ _ el k _ _ ⟨em,en,eo,be,bf,rfl,rfl,bg,h⟩
     refine c7 a3O (d4 (l1 Tryz.isAgg58 (k.bring 2) rfl) ?_)
     obtain ⟨bh,bi,bj,l,h⟩:=h
     obtain ⟨ep,eq,bk,l⟩:=l
     refine c7 (a2K bk _ _ _ _ bh bi) (d4 (ldA (vs:=(t6 bj)) Tryz.isAgg131 Tryz.sizeOf131 rfl (k.atH l)) ?_)
     refine j6 Tryz.call71 (h g0 be bf bg) ((k.bring 1).bring 1) ?_
     rintro _ _ _ er m _ _ ⟨es,et,bl,bm,rfl,rfl,bn,h⟩
     refine c7 a3O (d4 (l1 Tryz.isAgg58 (m.bring 2) rfl) ?_)
     obtain ⟨bo,bp,bq,n,h⟩:=h
     obtain ⟨eu,ev,br,n⟩:=n
     refine c7 (a2K br _ _ _ _ bo bp) (d4 (ldA (vs:=(t6 bq)) Tryz.isAgg131 Tryz.sizeOf131 rfl (m.atH n)) ?_)
     refine j6 Tryz.call71 (h g0 bl bm bn) ((m.bring 1).bring 1) ?_
     rintro _ bs _ ew bt _ _ ⟨bu,bv,bw,bz,rfl,rfl,ca,h⟩
     exact hR _ bs _ _ (((bt.bring 2).drop.bring 1).bring 1) ⟨(f9 bu),bv,bw,bz,rfl,rfl,ca,h⟩
    ·refine c7 pEq ?_
     refine g9 h (fun _ h=>?_) (fun _ h=>?_)
     ·refine j6 Tryz.call23 (h g0 e f g) ((b.bring 2).bring 2) ?_
      rintro _ _ _ ex p _ _ ⟨ey,ez,fa,cb,cc,rfl,rfl,cd,h⟩
      refine c7 a3O (d4 (l1 Tryz.isAgg58 (p.bring 2) rfl) ?_)
      obtain ⟨ce,cf,cg,q,h⟩:=h
      obtain ⟨fb,fc,ch,q⟩:=q
      refine c7 (a2K ch _ _ _ _ ce cf) (d4 (ldA (vs:=(t6 cg)) Tryz.isAgg131 Tryz.sizeOf131 rfl (p.atH q)) ?_)
      refine j6 Tryz.call71 (h g0 cb cc cd) ((p.bring 1).bring 1) ?_
      rintro _ _ _ fd r _ _ ⟨fe,ff,ci,cj,rfl,rfl,ck,h⟩
      refine c7 a3O (d4 (l1 Tryz.isAgg58 (r.bring 2) rfl) ?_)
      obtain ⟨cl,cm,cn,s,h⟩:=h
      obtain ⟨fg,fh,co,s⟩:=s
      refine c7 (a2K co _ _ _ _ cl cm) (d4 (ldA (vs:=(t6 cn)) Tryz.isAgg131 Tryz.sizeOf131 rfl (r.atH s)) ?_)
      refine j6 Tryz.call71 (h g0 ci cj ck) ((r.bring 1).bring 1) ?_
      rintro _ cp _ fi cq _ _ ⟨cr,ct,cu,cv,rfl,rfl,cw,h⟩
      exact hR _ cp _ _ (((cq.bring 2).drop.bring 1).bring 1) ⟨(f9 cr),ct,cu,cv,rfl,rfl,cw,h⟩
     ·refine c7 a8J (d4 (l1 Tryz.isAgg57 b rfl) ?_)
      refine j6 Tryz.call68 (h g0 e f g) ((b.bring 2).bring 2) ?_
      rintro _ _ _ fj cx _ _ ⟨c,d,cy,fk,fl,cz,da,rfl,rfl,db,h⟩
      refine c7 (p6 _ _ _ rfl) (c7 (p6 _ _ _ rfl) (c7 (p6 _ _ (vi cy) rfl) ?_))
      refine y3 cx Tryz.zeroValue38 (cs:=[(vi 0),(vi 0)]) rfl fun fm fn dc fo=>?_
      refine y3 dc Tryz.zeroValue38 (cs:=[(vi 0),(vi 0)]) rfl fun fp fq dd fs=>?_
      refine A6 (dd.bring 1) Tryz.sizeOf38 (vs:=(i7 c)) fun ft de fu=>?_
      refine A6 (de.bring 1) Tryz.sizeOf38 (vs:=(i7 d)) fun fv df fw=>?_
      refine j6 Tryz.call67 h df ?_
      rintro _ _ _ fx dg _ _ ⟨a,rfl,rfl,h⟩
      refine y3 dg Tryz.zeroValue40 (cs:=[(vi 0),(vi 0),(vi 0),(vi 0),(vi 0),(vi 0),(vi 0),(vi 0),(vi 0),(vi 0)]) rfl fun fy fz dh ga=>?_
      refine A6 dh Tryz.sizeOf40 (vs:=(i5 a)) fun gb di gc=>?_
      refine N5 di fun gd i=>?_
      refine f8 a0U ?_
      refine o3 (l1 Tryz.isAgg3 (i.bring 5) rfl) ?_
      refine f8 m7 ?_
      refine o3 (lW Tryz.isAgg38 Tryz.sizeOf38 rfl (i.bring 2)) ?_
      refine o3 (lW Tryz.isAgg38 Tryz.sizeOf38 rfl (i.bring 1)) ?_
      refine P7 i Tryz.sizeOf3 fun ge u v=>?_
      refine ⟨(v _ (Inv.b7M ((i.bring 1).bring 1))),(v _ (Inv.b7M ((i.bring 2).bring 1))),?_⟩
      refine f8 z8 ?_
      refine a3R u Tryz.sizeOf38 (vs:=(i7 c)) (cs':=[(vi a.s7),(vi a.fTo),(vi a.f3),(vi a.S3),(vi a.O5),(vi x1.fOp),(vi c.y8),(vi c.u1),(vi a.fB.y8),(vi a.fB.u1)]) rfl rfl (nb rfl) rfl rfl fun gf dj dk=>?_
      refine ⟨(dk _ (Inv.b7M ((u.bring 1).bring 1))),?_⟩
      refine f8 y4 ?_
      refine a3R dj Tryz.sizeOf38 (vs:=(i7 d)) (cs':=[(vi a.s7),(vi a.fTo),(vi a.f3),(vi a.S3),(vi a.O5),(vi x1.fOp),(vi c.y8),(vi c.u1),(vi d.y8),(vi d.u1)]) rfl rfl (nb rfl) rfl rfl fun gg y gh=>?_
      refine d4 (ldA Tryz.isAgg40 Tryz.sizeOf40 rfl (y.at1 (o:=0) (vs:=[(vi a.s7),(vi a.fTo),(vi a.f3),(vi a.S3),(vi a.O5),(vi x1.fOp),(vi c.y8),(vi c.u1),(vi d.y8),(vi d.u1)]) (nb rfl) rfl)) ?_
      refine j6 Tryz.call69 (h g0 cz da db) ((y.bring 4).bring 4) ?_
      rintro _ _ _ gi z _ _ ⟨gj,gk,dl,dm,rfl,rfl,dn,h⟩
      refine c7 a0U (d4 (l1 Tryz.isAgg3 (z.bring 5) rfl) ?_)
      refine j6 Tryz.call59 h z ?_
      rintro _ _ _ gl dp _ _ ⟨dq,rfl,rfl,h⟩
      refine c7 D8 ?_
      refine P7 (dp.bring 2) Tryz.sizeOf3 fun gm dr gn=>?_
      refine c7 m7 ?_
      refine P7 dr Tryz.sizeOf3 fun go aa gp=>?_
      refine d4 (ldA Tryz.isAgg40 Tryz.sizeOf40 rfl (aa.at1 (o:=0) (vs:=[(vi a.s7),(vi x4),(vi a.f3),(vi a.S3),(vi a.O5),(vi dq),(vi c.y8),(vi c.u1),(vi d.y8),(vi d.u1)]) (nb rfl) rfl)) ?_
      refine j6 Tryz.call69 (h g0 dl dm dn) ((aa.bring 2).bring 2) ?_
      rintro _ ds _ gq dt _ _ ⟨du,dv,dw,dx,rfl,rfl,dy,h⟩
      exact hR _ ds _ _ ((((((dt.bring 2).drop.bring 2).drop.bring 2).drop.bring 2).drop.bring 1).bring 1) ⟨(f9 du),dv,dw,dx,rfl,rfl,dy,h⟩
def F1(P4:(List g7))(H:Hp)(K:Sl→Hp→Prop):Prop:=
 ∀(J2:Sl)(a:Hp),Hle H a→SlH a 1 z6 J2 P4→J2.n≤J2.c→
 K J2 a
def F3(a3v:Sl)(a4g:Int)(A5:(List g7))(B3:Int)(H:Hp)(n2:((List g7)×Int)→Hp→Prop)(K:Sl→Hp→Prop):Prop:=
 (B3 < a4g→
 (0:Int)≤B3∧(B3:Int) < a3v.n∧∃a:B0,EltH H a3v B3 6 (A8 a)∧
 a7U a H (fun b c=>
 (A5.length+([b]:List g7).length)*17≤140737488355328∧
 n2 ((A5++[b]),(IntKind.wrap .i64 (B3+1))) c))∧
 (¬(B3 < a4g)→
 F1 A5 H K)
def M2(x0:Sl)(H:Hp)(K:Sl→Hp→Prop):Prop:=
 TL (([],0):(List g7)×Int) H fun(s:(List g7)×Int) H n2=>F3 x0 (x0.n:Int) s.1 s.2 H n2 K
theorem a1y(x0){H K}(h:M2 x0 H K):C8 x0 H K:=by
 refine Ct.of fun w0 w ps0 H0 R E I hR=>c5X ?_
 unfold M2 at h
 unfold c8H
 have hj1:∀(P4:(List g7))(J2:Sl)(Fs5j1:Frag) H w (_:RowL 182 1 z6 J2 P4 Fs5j1) (_:Inv w0 ps0 H0 H [Fs5j1] w) (_:F1 P4 H K),b6f (vs J2) w R E:=by
  intro P4 J2 Fs5j1 H w a5f I h
  unfold b6f
  intro _
  unfold F1 at h
  obtain ⟨j,q,r,t,u⟩:=Inv.freezeC I a5f (by decide)
  replace h:=h J2 j r t u
  exact hR _ j _ _ q ⟨J2,rfl,rfl,h⟩
 refine s8 fun j1 hx1=>?_
 refine c7 (W5 _ _ _) ?_
 obtain ⟨f,d,v,y⟩:=h
 refine I0 (J:=fun n l w=>∃(s:(List g7)×Int)(H:Hp)(T9:Sl)(Fs5l2:Frag),n=d s∧l=(match s with | (A5,B3)=>[(vs T9),(vi B3)])∧(match s with | (A5,B3)=>RowL 182 1 z6 T9 A5 Fs5l2)∧(match s with | (A5,B3)=>Inv w0 ps0 H0 H [Fs5l2] w)∧f s H) ⟨_,([],0),H,(Sl.mk none 0 0),[],rfl,rfl,(RowL.nil R7 U6),I.nil,v⟩ ?_
 rintro am an w next2 ⟨⟨A5,B3⟩,H,T9,Fs5l2,rfl,g,a2r,I,z⟩ hn2
 dsimp only at g I a2r
 simp only [List.map_cons,List.map_nil,List.cons.injEq,and_true] at g
 obtain ⟨e5,e10⟩:=g
 simp only [e5,e10]
 obtain ⟨n2,hm2,h⟩:∃n2:((List g7)×Int)→Hp→Prop,(∀s' H',n2 s' H'→f s' H'∧d s' < d (A5,B3))∧F3 x0 (x0.n:Int) A5 B3 H n2 K:=⟨_,fun _ _ h=>h,y (A5,B3) H (fun s' H'=>f s' H'∧d s' < d (A5,B3)) z (fun _ _ a b=>⟨a,b⟩)⟩
 unfold c0s
 unfold F3 at h
 refine c7 pLs ?_
 refine g9 h (fun _ h=>?_) (fun _ h=>?_)
 ·obtain ⟨aa,ab,k,i,h⟩:=h
  obtain ⟨ao,ap,ac,i⟩:=i
  refine c7 (b4F ac _ _ _ _ aa ab) (d4 (ldA (vs:=(A8 k)) Tryz.isAgg60 Tryz.sizeOf60 rfl (I.atH i)) ?_)
  refine y3 I Tryz.zeroValue60 (cs:=[(vi 0),(eS),(nS),(nS),(nS),(nS)]) rfl fun aq ar ad au=>?_
  refine A6 ad Tryz.sizeOf60 (vs:=(A8 k)) fun av m aw=>?_
  refine d4 (lW Tryz.isAgg60 Tryz.sizeOf60 rfl m) ?_
  refine j6 Tryz.call122 h m ?_
  rintro _ ae _ ax af _ _ ⟨o,rfl,rfl,h⟩
  refine a0x (e:=182) (c:=z6) (xs:=[o]) af (b1Z _) rfl rfl R7 U6 (nb rfl) fun ay az ba ag p bb=>?_
  obtain ⟨ah,h⟩:=h
  refine b1v (s:=T9) (xs:=A5) (p.bring 2) a2r (ag.srcO ((p.bring 2).bring 1)) ah fun ai aj bc ak al bd=>?_
  refine c7 pAd ?_
  exact hn2 _ _ _ (hm2 _ _ h).2 ⟨((A5++[o]),(IntKind.wrap .i64 (B3+1))),ae,ai,aj,rfl,rfl,ak,((al.bring 1).drop.bring 1).drop,(hm2 _ _ h).1⟩
 ·exact hx1 _ _ (hj1 A5 T9 Fs5l2 H _ a2r I h)
def a7K(x0:Int)(x1:Int)(x2:Int)(H:Hp)(K:Bool→Hp→Prop):Prop:=
 K ((decide (x0≤x2))&&(decide (x2≤x1))) H
theorem b1B(x0 x1 x2){H K}(h:a7K x0 x1 x2 H K):N7 x0 x1 x2 H K:=by
 intro g2
 refine Ct.of fun w0 w ps0 H0 R E I hR=>c6l ?_
 unfold a7K at h
 unfold c8V
 refine d4 (l1 Tryz.isAgg21 I rfl) (c7 pLe ?_)
 refine d4 (Ld.g fun hb=>by have a:=hb;first | exact (l1 Tryz.isAgg21 I rfl) | (simp only [c6 a,c5 a,c5 hb,d6 a];exact (l1 Tryz.isAgg21 I rfl)) | (simp only [c6 a,c5 a,c5 hb,d7 a,c8];exact (l1 Tryz.isAgg21 I rfl))) ?_
 try simp only [B8,G9,B9,C1,C3,C5,C0,C2,C4,C6]
 refine c7 (Pu.g fun hb=>by have a:=hb;first | with_reducible exact pLe | (simp only [c6 a,c5 a,c5 hb,d6 a];with_reducible exact pLe) | (simp only [c6 a,c5 a,c5 hb,d7 a,c8];with_reducible exact pLe) | exact pLe | (simp only [c6 a,c5 a,c5 hb,d6 a];exact pLe) | (simp only [c6 a,c5 a,c5 hb,d7 a,c8];exact pLe)) ?_
 refine c7 (p9 _ _) ?_
 exact hR _ H _ _ I ⟨((decide (x0≤x2))&&(decide (x2≤x1))),rfl,rfl,h⟩
def a7q(x0:ByteArray)(H:Hp)(K:Bool→Hp→Prop):Prop:=
 a0B x0 H (fun a b=>
 K (decide (32 < a)) b)
theorem b4n(x0){H K}(h:a7q x0 H K):a7k x0 H K:=by
 refine Ct.of fun w0 w ps0 H0 R E I hR=>c6f ?_
 unfold a7q at h
 unfold c8P
 refine j6 Tryz.call137 h I ?_
 rintro _ a _ d b _ _ ⟨c,rfl,rfl,h⟩
 refine c7 pGt ?_
 exact hR _ a _ _ b ⟨(decide (32 < c)),rfl,rfl,h⟩
def u7(D2:Bool)(H:Hp)(K:Bool→Hp→Prop):Prop:=
 (D2=true→
 K true H)∧
 (D2=false→
 K false H)
def a7r(x0:ByteArray)(H:Hp)(K:Bool→Hp→Prop):Prop:=
 (x0=⟨#[118,97,114]⟩→
 u7 (decide (x0=⟨#[118,97,114]⟩)) H K)∧
 (¬(x0=⟨#[118,97,114]⟩)→
 (x0=⟨#[97,114,114,97,121]⟩→
 u7 (decide (x0=⟨#[97,114,114,97,121]⟩)) H K)∧
 (¬(x0=⟨#[97,114,114,97,121]⟩)→
 (x0=⟨#[105,102]⟩→
 u7 (decide (x0=⟨#[105,102]⟩)) H K)∧
 (¬(x0=⟨#[105,102]⟩)→
 (x0=⟨#[101,108,115,101]⟩→
 u7 (decide (x0=⟨#[101,108,115,101]⟩)) H K)∧
 (¬(x0=⟨#[101,108,115,101]⟩)→
 (x0=⟨#[119,104,105,108,101]⟩→
 u7 (decide (x0=⟨#[119,104,105,108,101]⟩)) H K)∧
 (¬(x0=⟨#[119,104,105,108,101]⟩)→
 (x0=⟨#[97,115,115,101,114,116]⟩→
 u7 (decide (x0=⟨#[97,115,115,101,114,116]⟩)) H K)∧
 (¬(x0=⟨#[97,115,115,101,114,116]⟩)→
 (x0=⟨#[97,115,115,117,109,101]⟩→
 u7 (decide (x0=⟨#[97,115,115,117,109,101]⟩)) H K)∧
 (¬(x0=⟨#[97,115,115,117,109,101]⟩)→
 (x0=⟨#[115,107,105,112]⟩→
 u7 (decide (x0=⟨#[115,107,105,112]⟩)) H K)∧
 (¬(x0=⟨#[115,107,105,112]⟩)→
 (x0=⟨#[105,110,112,117,116]⟩→
 u7 (decide (x0=⟨#[105,110,112,117,116]⟩)) H K)∧
 (¬(x0=⟨#[105,110,112,117,116]⟩)→
 (x0=⟨#[116,114,117,101]⟩→
 u7 (decide (x0=⟨#[116,114,117,101]⟩)) H K)∧
 (¬(x0=⟨#[116,114,117,101]⟩)→
 u7 (decide (x0=⟨#[102,97,108,115,101]⟩)) H K))))))))))
theorem b4o(x0){H K}(h:a7r x0 H K):a7l x0 H K:=by
 refine Ct.of fun w0 w ps0 H0 R E I hR=>c6g ?_
 unfold a7r at h
 unfold c8Q
 have hj1:∀(D2:Bool) H w (_:Inv w0 ps0 H0 H [] w) (_:u7 D2 H K),b6k (vB D2) w R E:=by
  intro D2 H w I h
  unfold b6k
  intro _
  unfold u7 at h
  refine q9 h (fun _ h=>?_) (fun _ h=>?_)
  ·exact hR _ H _ _ I ⟨true,rfl,rfl,h⟩
  ·exact hR _ H _ _ I ⟨false,rfl,rfl,h⟩
 refine s8 fun j1 hx1=>?_
 refine c7 (a3g _ _ _ _ _) ?_
 refine g9 h (fun _ h=>?_) (fun _ h=>?_)
 ·exact hx1 _ _ (hj1 (decide (x0=⟨#[118,97,114]⟩)) H _ I h)
 ·refine c7 (a3g _ _ _ _ _) ?_
  refine g9 h (fun _ h=>?_) (fun _ h=>?_)
  ·exact hx1 _ _ (hj1 (decide (x0=⟨#[97,114,114,97,121]⟩)) H _ I h)
  ·refine c7 (a3g _ _ _ _ _) ?_
   refine g9 h (fun _ h=>?_) (fun _ h=>?_)
   ·exact hx1 _ _ (hj1 (decide (x0=⟨#[105,102]⟩)) H _ I h)
   ·refine c7 (a3g _ _ _ _ _) ?_
    refine g9 h (fun _ h=>?_) (fun _ h=>?_)
    ·exact hx1 _ _ (hj1 (decide (x0=⟨#[101,108,115,101]⟩)) H _ I h)
    ·refine c7 (a3g _ _ _ _ _) ?_
     refine g9 h (fun _ h=>?_) (fun _ h=>?_)
     ·exact hx1 _ _ (hj1 (decide (x0=⟨#[119,104,105,108,101]⟩)) H _ I h)
     ·refine c7 (a3g _ _ _ _ _) ?_
      refine g9 h (fun _ h=>?_) (fun _ h=>?_)
      ·exact hx1 _ _ (hj1 (decide (x0=⟨#[97,115,115,101,114,116]⟩)) H _ I h)
      ·refine c7 (a3g _ _ _ _ _) ?_
       refine g9 h (fun _ h=>?_) (fun _ h=>?_)
       ·exact hx1 _ _ (hj1 (decide (x0=⟨#[97,115,115,117,109,101]⟩)) H _ I h)
       ·refine c7 (a3g _ _ _ _ _) ?_
        refine g9 h (fun _ h=>?_) (fun _ h=>?_)
        ·exact hx1 _ _ (hj1 (decide (x0=⟨#[115,107,105,112]⟩)) H _ I h)
        ·refine c7 (a3g _ _ _ _ _) ?_
         refine g9 h (fun _ h=>?_) (fun _ h=>?_)
         ·exact hx1 _ _ (hj1 (decide (x0=⟨#[105,110,112,117,116]⟩)) H _ I h)
         ·refine c7 (a3g _ _ _ _ _) ?_
          refine g9 h (fun _ h=>?_) (fun _ h=>?_)
          ·exact hx1 _ _ (hj1 (decide (x0=⟨#[116,114,117,101]⟩)) H _ I h)
          ·refine c7 (a3g _ _ _ _ _) ?_
           exact hx1 _ _ (hj1 (decide (x0=⟨#[102,97,108,115,101]⟩)) H _ I h)
def U0(H:Hp)(K:Int→Hp→Prop):Prop:=
 K (-1) H
def a0S(d0j:(List ByteArray))(a2d:ByteArray)(b0m:Int)(a3v:Int)(H:Hp)(n2:Int→Hp→Prop)(K:Int→Hp→Prop):Prop:=
 (a3v < b0m→
 (0:Int)≤a3v∧∃a:ByteArray,(d0j)[(a3v:Int).toNat]? = some a∧
 (a2d=a→
 K a3v H)∧
 (¬(a2d=a)→
 n2 (IntKind.wrap .i64 (a3v+1)) H))∧
 (¬(a3v < b0m)→
 U0 H K)
def a1z(x0:(List ByteArray))(x1:ByteArray)(H:Hp)(K:Int→Hp→Prop):Prop:=
 TL (0:Int) H fun(s:Int) H n2=>a0S x0 x1 (x0.length:Int) s H n2 K
theorem a8p(x0 x1){H K}(h:a1z x0 x1 H K):a1v x0 x1 H K:=by
 intro sx0 Fx0 hx0
 refine Ct.of fun w0 w ps0 H0 R E I hR=>c6j ?_
 unfold a1z at h
 unfold c8T
 have hj1:∀H w (_:Inv w0 ps0 H0 H [Fx0] w) (_:U0 H K),b6p w R E:=by
  intro H w I h
  unfold b6p
  intro _
  unfold U0 at h
  exact hR _ H _ _ I ⟨(-1),rfl,rfl,h⟩
 refine s8 fun j1 hx1=>?_
 refine c7 (a6T Tryz.underlying27 hx0) ?_
 refine a0V (σ:=Int) (fun a3v=>[(vi a3v)]) (fun a3v=>[Fx0]) h rfl I ?_
 rintro a3v H f w next2 n2 b I h hn2
 simp only [List.map_cons,List.map_nil,List.cons.injEq,and_true] at b
 have e8:=b
 simp only [e8]
 unfold c0w
 unfold a0S at h
 refine c7 pLs ?_
 refine g9 h (fun _ h=>?_) (fun _ h=>?_)
 ·obtain ⟨c,e,a,h⟩:=h
  obtain ⟨g,i,d,j⟩:=hx0.addr a
  refine c7 (b1U d _ _ _ _ c (hx0.lt c a)) (d4 (ld1 (v:=(Value.string e)) Tryz.isAgg9 (hx0.atW I d a)) (c7 (a3g _ _ _ _ _) ?_))
  refine g9 h (fun _ h=>?_) (fun _ h=>?_)
  ·exact hR _ H _ _ I ⟨a3v,rfl,rfl,h⟩
  ·refine c7 pAd ?_
   exact hn2 (IntKind.wrap .i64 (a3v+1)) _ _ h I
 ·exact hx1 _ _ (hj1 H _ I h)
def a0Q(a8q:Int)(a8r:Int)(a8s:Int)(a8t:Bool)(a8u:Bool)(a7L:(List ByteArray))(H:Hp)(K:Bool→o4→(List ByteArray)→Hp→Prop):Prop:=
 K true (o4.mk a8q a8r a8s a8t a8u (Sl.mk none 0 0)) a7L H
def a0R(a2d:Int)(a4g:Sl)(B3:Int)(a1O:Int)(a2S:Int)(a2T:Int)(a2U:Int)(a2V:Bool)(a2W:Bool)(a1b:(List ByteArray))(H:Hp)(n2:(Int×Int×Int×Int×Bool×Bool×(List ByteArray))→Hp→Prop)(K:Bool→o4→(List ByteArray)→Hp→Prop):Prop:=
 (a1O < B3→
 (0:Int)≤a1O∧(a1O:Int) < a4g.n∧∃c:g7,EltH H a4g a1O 1 [(K8 c)]∧
 a2M (o4.mk a2S a2T a2U a2V a2W (Sl.mk none 0 0)) a1b c a2d H (fun b d e f=>
 TG ((!b)=false) (a5t c f) (Sl.mk none 0 0) f (fun(j:Sl)(g:Hp)=>
 TG ((!b)=false) (fun k_=>a0q j (IntKind.wrap .i64 (a2d+1)) (a0X d) e g fun k l m H_=>k_ (k,l,m) H_) (false,(a0X d),e) g (fun(a:Bool×o4×(List ByteArray))(i:Hp)=>
 (((!b)||(!a.1))=true→
 K false (o4.mk (a.2.1.fnodes) (a.2.1.fdepth) (a.2.1.fe) (a.2.1.fform) (a.2.1.fnamed) (Sl.mk none 0 0)) a.2.2 i)∧
 (((!b)||(!a.1))=false→
 n2 ((IntKind.wrap .i64 (a1O+1)),(a.2.1.fnodes),(a.2.1.fdepth),(a.2.1.fe),(a.2.1.fform),(a.2.1.fnamed),a.2.2) i)))))∧
 (¬(a1O < B3)→
 a0Q a2S a2T a2U a2V a2W a1b H K)
def a5a(x0:Sl)(x1:Int)(x2:o4)(a:(List ByteArray))(H:Hp)(K:Bool→o4→(List ByteArray)→Hp→Prop):Prop:=
 TL ((0,x2.fnodes,x2.fdepth,x2.fe,x2.fform,x2.fnamed,a):Int×Int×Int×Int×Bool×Bool×(List ByteArray)) H fun(s:Int×Int×Int×Int×Bool×Bool×(List ByteArray)) H n2=>a0R x1 x0 (x0.n:Int) s.1 s.2.1 s.2.2.1 s.2.2.2.1 s.2.2.2.2.1 s.2.2.2.2.2.1 s.2.2.2.2.2.2 H n2 K
theorem b1o(x0 x1 x2 ai){H K}(h:a5a x0 x1 x2 ai H K):a0q x0 x1 x2 ai H K:=by
 intro g2 g2b g3 az ba bb
 refine Ct.of fun w0 w ps0 H0 R E I hR=>c5Z ?_
 unfold a5a at h
 unfold c8J
 have hj1:∀(a8q:Int)(a8r:Int)(a8s:Int)(a8t:Bool)(a8u:Bool)(a7L:(List ByteArray))(b1a:Sl)(b1b:Frag) H w (_:RowL 9 1 D4 b1a a7L b1b) (_:Inv w0 ps0 H0 H [bx g2 170 [(Value.pointer (some ⟨g2b,0,none⟩))],bx g2b 169 [(vi a8q),(vi a8r),(vi a8s),(vB a8t),(vB a8u),(vs b1a)],bx g3 189 [(Value.func (.func 124) #[] #[(Value.pointer (some ⟨g2,0,none⟩)),(Value.pointer (some ⟨g3,0,none⟩))])],b1b] w) (_:a0Q a8q a8r a8s a8t a8u a7L H K),b6g w R E:=by
  intro a8q a8r a8s a8t a8u a7L b1a b1b H w c2R I h
  unfold b6g
  intro _
  unfold a0Q at h
  exact hR _ H _ _ ((((I.bring 2).bring 3).bring 3).bring 3) ⟨true,(o4.mk a8q a8r a8s a8t a8u (Sl.mk none 0 0)),a7L,b1a,b1b,rfl,rfl,c2R,h⟩
 refine s8 fun j1 hx1=>?_
 refine c7 (a9F _ _ _) ?_
 obtain ⟨aj,z,bc,bd⟩:=h
 refine I0 (J:=fun n l w=>∃(s:Int×Int×Int×Int×Bool×Bool×(List ByteArray))(H:Hp)(a8Y:Sl)(a8Z:Frag),n=z s∧l=(match s with | (a1O,a2S,a2T,a2U,a2V,a2W,a1b)=>[(vi a1O)])∧(match s with | (a1O,a2S,a2T,a2U,a2V,a2W,a1b)=>RowL 9 1 D4 a8Y a1b a8Z)∧(match s with | (a1O,a2S,a2T,a2U,a2V,a2W,a1b)=>Inv w0 ps0 H0 H [bx g2 170 [(Value.pointer (some ⟨g2b,0,none⟩))],bx g2b 169 [(vi a2S),(vi a2T),(vi a2U),(vB a2V),(vB a2W),(vs a8Y)],bx g3 189 [(Value.func (.func 124) #[] #[(Value.pointer (some ⟨g2,0,none⟩)),(Value.pointer (some ⟨g3,0,none⟩))])],a8Z] w)∧aj s H) ⟨_,(0,x2.fnodes,x2.fdepth,x2.fe,x2.fform,x2.fnamed,ai),H,az,ba,rfl,rfl,bb,((((I.bring 2).bring 3).bring 3).bring 3),bc⟩ ?_
 rintro bj bk w next2 ⟨⟨a1O,a2S,a2T,a2U,a2V,a2W,a1b⟩,H,a8Y,a8Z,rfl,ak,b3i,I,be⟩ hn2
 dsimp only at ak I b3i
 simp only [List.map_cons,List.map_nil,List.cons.injEq,and_true] at ak
 have e11:=ak
 simp only [e11]
 obtain ⟨n2,hm2,h⟩:∃n2:(Int×Int×Int×Int×Bool×Bool×(List ByteArray))→Hp→Prop,(∀s' H',n2 s' H'→aj s' H'∧z s' < z (a1O,a2S,a2T,a2U,a2V,a2W,a1b))∧a0R x1 x0 (x0.n:Int) a1O a2S a2T a2U a2V a2W a1b H n2 K:=⟨_,fun _ _ h=>h,bd (a1O,a2S,a2T,a2U,a2V,a2W,a1b) H (fun s' H'=>aj s' H'∧z s' < z (a1O,a2S,a2T,a2U,a2V,a2W,a1b)) be (fun _ _ a b=>⟨a,b⟩)⟩
 unfold c0t
 unfold a0R at h
 refine c7 pLs ?_
 refine g9 h (fun _ h=>?_) (fun _ h=>?_)
 ·obtain ⟨bf,bg,bh,al,h⟩:=h
  obtain ⟨bl,bm,bi,al⟩:=al
  refine c7 (c2g bi _ _ _ _ bf bg) (d4 (ld1 (v:=(K8 bh)) Tryz.isAgg182 (I.atH al)) ?_)
  refine N5 I fun bn ao=>?_
  refine o3 (l1 Tryz.isAgg170 ao rfl) ?_
  refine j6 Tryz.call125 (h g2b a8Y a8Z b3i) ((ao.bring 3).bring 2) ?_
  rintro _ ap _ aq o _ _ ⟨p,aa,am,ac,ad,rfl,rfl,ar,h⟩
  refine f8 (p8 _) ?_
  try simp only [B8,G9,B9,C1,C3,C5,C0,C2,C4,C6]
  try simp only [B8,G9,B9,C1,C3,C5,C0,C2,C4,C6]
  refine f8 (Pu.g fun hb=>by have c:=hb;first | with_reducible exact pAd | (simp only [c6 c,c5 c,c5 hb,d8 c];with_reducible exact pAd) | (simp only [c6 c,c5 c,c5 hb,d9 c,c8];with_reducible exact pAd) | exact pAd | (simp only [c6 c,c5 c,c5 hb,d8 c];exact pAd) | (simp only [c6 c,c5 c,c5 hb,d9 c,c8];exact pAd)) ?_
  refine o3 (Ld.g fun hb=>by have c:=hb;first | exact (l1 Tryz.isAgg189 (o.bring 3) rfl) | (simp only [c6 c,c5 c,c5 hb,d8 c];exact (l1 Tryz.isAgg189 (o.bring 3) rfl)) | (simp only [c6 c,c5 c,c5 hb,d9 c,c8];exact (l1 Tryz.isAgg189 (o.bring 3) rfl))) ?_
  refine b5a (D:=fun au u=>∃(ab:Sl)(k:Hp),au=(gv (!p) false (vs ab))∧(Inv w0 ps0 H0 k [bx g2b 169 (a1u aa ac),ad,bx g2 170 [(Value.pointer (some ⟨g2b,0,none⟩))],bx g3 189 [(Value.func (.func 124) #[] #[(Value.pointer (some ⟨g2,0,none⟩)),(Value.pointer (some ⟨g3,0,none⟩))])]] u)∧(∀i,i < aq.heap.size→¬inF [] i→u.heap[i]? = aq.heap[i]?)∧Hle ap k∧(TG ((!p)=false) (fun k_=>a0q ab (IntKind.wrap .i64 (x1+1)) (a0X aa) am k fun m d j H_=>k_ (m,d,j) H_) (false,(a0X aa),am) k (fun(e:Bool×o4×(List ByteArray))(f:Hp)=>
 (((!p)||(!e.1))=true→
 K false (o4.mk (e.2.1.fnodes) (e.2.1.fdepth) (e.2.1.fe) (e.2.1.fform) (e.2.1.fnamed) (Sl.mk none 0 0)) e.2.2 f)∧
 (((!p)||(!e.1))=false→
 n2 ((IntKind.wrap .i64 (a1O+1)),(e.2.1.fnodes),(e.2.1.fdepth),(e.2.1.fe),(e.2.1.fform),(e.2.1.fnamed),e.2.2) f)))) (fun y=>?_) (fun y=>?_) ?_
  ·replace h:=h.1 y
   have c:=y
   try simp only [c6 c,c5 c]
   refine b1l o h (fun ab k u ae av an h=>?_)
   exact ⟨ab,k,by first | rfl | rw [c5 y],ae,an,av,h⟩
  ·exact ⟨(Sl.mk none 0 0),ap,by first | rfl | rw [b5P y],o,fun _ _ _=>rfl,Hle.refl _,h.2 y⟩
  ·clear h
   rintro au u ⟨ab,k,rfl,ae,an,av,h⟩
   refine ⟨(an _ (o.bring 3).lt1 (Inv.R6 (Fi:=[]) (o.bring 3))),?_⟩
   refine b5a (D:=fun aw af=>∃(m:Bool)(d:o4)(j:(List ByteArray))(f:Hp)(q:Sl)(r:Frag),aw=(gv (!p) false (vB m))∧(RowL 9 1 D4 q j r)∧(Inv w0 ps0 H0 f [bx g2 170 [(Value.pointer (some ⟨g2b,0,none⟩))],bx g2b 169 (a1u d q),r,bx g3 189 [(Value.func (.func 124) #[] #[(Value.pointer (some ⟨g2,0,none⟩)),(Value.pointer (some ⟨g3,0,none⟩))])]] af)∧(∀i,i < u.heap.size→¬inF [bx g2 170 [(Value.pointer (some ⟨g2b,0,none⟩))],bx g2b 169 (a1u aa ac),ad,bx g3 189 [(Value.func (.func 124) #[] #[(Value.pointer (some ⟨g2,0,none⟩)),(Value.pointer (some ⟨g3,0,none⟩))])]] i→af.heap[i]? = u.heap[i]?)∧Hle k f∧((((!p)||(!m))=true→
 K false (a0X d) j f)∧
 (((!p)||(!m))=false→
 n2 ((IntKind.wrap .i64 (a1O+1)),d.fnodes,d.fdepth,d.fe,d.fform,d.fnamed,j) f))) (fun t=>?_) (fun t=>?_) ?_
   ·replace h:=h.1 t
    have c:=t
    try simp only [c6 c,c5 c,c5 t]
    refine a5p (cap:=[(Value.pointer (some ⟨g2,0,none⟩)),(Value.pointer (some ⟨g3,0,none⟩))]) Tryz.call124 (h g2 g2b g3 ac ad ar) ((((ae.bring 3).bring 2).bring 2).bring 3) ?_
    rintro _ f _ af ag ax ay ⟨m,d,j,q,r,rfl,rfl,ah,h⟩
    exact ⟨m,d,j,f,q,r,by first | rfl | rw [c5 t],ah,ag,ay,ax,h⟩
   ·exact ⟨false,(a0X aa),am,k,ac,ad,by first | rfl | rw [b5P t],ar,((((ae.bring 3).bring 2).bring 2).bring 3),fun _ _ _=>rfl,Hle.refl _,h.2 t⟩
   ·clear h
    rintro aw af ⟨m,d,j,f,q,r,rfl,ah,ag,ay,ax,h⟩
    refine f8 (Pu.g fun hb=>by have c:=hb;first | with_reducible exact (p8 _) | (simp only [c6 c,c5 c,c5 hb,d8 c];with_reducible exact (p8 _)) | (simp only [c6 c,c5 c,c5 hb,d9 c,c8];with_reducible exact (p8 _)) | exact (p8 _) | (simp only [c6 c,c5 c,c5 hb,d8 c];exact (p8 _)) | (simp only [c6 c,c5 c,c5 hb,d9 c,c8];exact (p8 _))) ?_
    refine f8 (B4 _ _) ?_
    refine q9 h (fun _ h=>?_) (fun _ h=>?_)
    ·exact hR _ f _ _ ((((ag.bring 3).bring 3).bring 3).bring 3) ⟨false,(a0X d),j,q,r,rfl,rfl,ah,h⟩
    ·refine c7 pAd ?_
     exact hn2 _ _ _ (hm2 _ _ h).2 ⟨((IntKind.wrap .i64 (a1O+1)),d.fnodes,d.fdepth,d.fe,d.fform,d.fnamed,j),f,q,r,rfl,rfl,ah,((((ag.bring 2).bring 3).bring 3).bring 3),(hm2 _ _ h).1⟩
 ·exact hx1 _ _ (hj1 a2S a2T a2U a2V a2W a1b a8Y a8Z H _ b3i ((((I.bring 3).bring 3).bring 3).bring 3) h)
def O2(d:Int)(e:Int)(f:Int)(g:Bool)(i:Bool)(j:(List ByteArray))(H:Hp)(K:o4→Hp→Prop):Prop:=
 ∀(a:Sl)(b:Hp),Hle H b→SlH b 1 D4 a j→a.n≤a.c→
 K (o4.mk d e f g i a) b
def a5O(x0:Sl)(H:Hp)(K:o4→Hp→Prop):Prop:=
 a0q x0 1 (o4.mk 0 0 0 false false (Sl.mk none 0 0)) [] H (fun d a b c=>
 ((!d)=true→
 O2 a.fnodes a.fdepth a.fe a.fform a.fnamed b c K)∧
 ((!d)=false→
 (a.fform=true→
 O2 a.fnodes a.fdepth 30 a.fform a.fnamed b c K)∧
 (a.fform=false→
 (a.fnamed=true→
 O2 a.fnodes a.fdepth 31 a.fform a.fnamed b c K)∧
 (a.fnamed=false→
 O2 a.fnodes a.fdepth a.fe a.fform a.fnamed b c K))))
theorem b2j(x0){H K}(h:a5O x0 H K):a5G x0 H K:=by
 refine Ct.of fun w0 w ps0 H0 R E I hR=>c5T ?_
 unfold a5O at h
 unfold c8D
 refine c7 (c0V) ?_
 refine D6 I (cs:=[(vi 0),(vi 0),(vi 0),(vB false),(vB false),(nS)]) rfl fun d aj y ak=>?_
 refine y3 y Tryz.zeroValue170 (cs:=[(Value.pointer none)]) rfl fun c al z am=>?_
 refine A6 z Tryz.sizeOf170 (vs:=[(Value.pointer (some ⟨d,0,none⟩))]) fun an aa ao=>?_
 refine y3 aa Tryz.zeroValue189 (cs:=[Value.nilFunc]) rfl fun f ap ab aq=>?_
 refine c7 (a6i _ _ _) ?_
 refine A6 ab Tryz.sizeOf189 (vs:=[(Value.func (.func 124) #[] #[(Value.pointer (some ⟨c,0,none⟩)),(Value.pointer (some ⟨f,0,none⟩))])]) fun ar u au=>?_
 have hj1:∀(i:Int)(j:Int)(k:Int)(l:Bool)(m:Bool)(s:(List ByteArray))(g:Sl)(t:Frag) H w (_:RowL 9 1 D4 g s t) (_:Inv w0 ps0 H0 H [bx c 170 [(Value.pointer (some ⟨d,0,none⟩))],bx d 169 [(vi i),(vi j),(vi k),(vB l),(vB m),(vs g)],bx f 189 [(Value.func (.func 124) #[] #[(Value.pointer (some ⟨c,0,none⟩)),(Value.pointer (some ⟨f,0,none⟩))])],t] w) (_:O2 i j k l m s H K),b6a (Value.pointer (some ⟨c,0,none⟩)) w R E:=by
  intro i j k l m s g t H w ac I h
  unfold b6a
  intro _
  unfold O2 at h
  refine d4 (l1 Tryz.isAgg170 I rfl) ?_
  obtain ⟨v,ad,ae,af,ag⟩:=Inv.freezeC (I.bring 3) ac (by decide)
  replace h:=h g v ae af ag
  exact hR _ v _ _ (ad.drop.bring 1).drop ⟨(o4.mk i j k l m g),d,rfl,rfl,h⟩
 refine s8 fun j1 hx1=>?_
 refine d4 (l1 Tryz.isAgg189 u rfl) ?_
 refine a5p (cap:=[(Value.pointer (some ⟨c,0,none⟩)),(Value.pointer (some ⟨f,0,none⟩))]) Tryz.call124 (h c d f (Sl.mk none 0 0) ([]) (RowL.nil (e:=9) a6j a7u)) ((((u.nil.bring 1).bring 1).bring 3).bring 3) ?_
 rintro _ n _ av b _ _ ⟨aw,a,o,p,q,rfl,rfl,r,h⟩
 refine c7 (p8 _) ?_
 refine q9 h (fun _ h=>?_) (fun _ h=>?_)
 ·exact hx1 _ _ (hj1 a.fnodes a.fdepth a.fe a.fform a.fnamed o p q n _ r ((((b.bring 2).bring 3).bring 3).bring 3) h)
 ·refine d4 (l1 Tryz.isAgg170 b rfl) (c7 (y6 _) (c7 b1i (d4 (l1 Tryz.isAgg4 (b.bring 1) rfl) ?_)))
  refine q9 h (fun _ h=>?_) (fun _ h=>?_)
  ·refine d4 (l1 Tryz.isAgg170 b rfl) (c7 (y6 _) (c7 a7v ?_))
   refine P7 (b.bring 1) Tryz.sizeOf31 fun ax ah ay=>?_
   exact hx1 _ _ (hj1 a.fnodes a.fdepth 30 a.fform a.fnamed o p q n _ r ((((ah.bring 2).bring 3).bring 2).bring 3) h)
  ·refine d4 (l1 Tryz.isAgg170 b rfl) (c7 (y6 _) (c7 b1j (d4 (l1 Tryz.isAgg4 (b.bring 1) rfl) ?_)))
   refine q9 h (fun _ h=>?_) (fun _ h=>?_)
   ·refine d4 (l1 Tryz.isAgg170 b rfl) (c7 (y6 _) (c7 a7v ?_))
    refine P7 (b.bring 1) Tryz.sizeOf31 fun az ai ba=>?_
    exact hx1 _ _ (hj1 a.fnodes a.fdepth 31 a.fform a.fnamed o p q n _ r ((((ai.bring 2).bring 3).bring 2).bring 3) h)
   ·exact hx1 _ _ (hj1 a.fnodes a.fdepth a.fe a.fform a.fnamed o p q n _ r ((((b.bring 2).bring 3).bring 3).bring 3) h)
def a7s(x0:E6)(H:Hp)(K:o4→Hp→Prop):Prop:=
 L9 x0.b0g H (fun d e=>
 C8 x0.a9A e (fun f g=>
 ∀(a:Sl)(b:Hp),Hle g b→SlH b 1 csl a [d,f]→a.n≤a.c→
 G6 a b (fun i j=>
 a5G i j (fun k l=>
 K k l))))
theorem b4p(x0){H K}(h:a7s x0 H K):a7m x0 H K:=by
 refine Ct.of fun w0 w ps0 H0 R E I hR=>c5O ?_
 unfold a7s at h
 unfold c8y
 refine D6 I (cs:=(C7 x0)) rfl fun z aa b ab=>?_
 refine N5 b fun ac a=>?_
 refine f8 b1X ?_
 refine f8 a9B ?_
 refine o3 (l1 Tryz.isAgg22 a rfl) ?_
 refine o3 (l1 Tryz.isAgg23 a rfl) ?_
 refine j6 Tryz.call119 h a ?_
 rintro _ _ _ ad d _ f ⟨g,rfl,rfl,h⟩
 refine ⟨(f _ a.lt1 (Inv.R6 (Fi:=[]) a)),?_⟩
 refine j6 Tryz.call121 h d ?_
 rintro _ _ _ ae i _ _ ⟨j,rfl,rfl,h⟩
 refine a0x (e:=179) (c:=csl) (xs:=[g,j]) i (b8f _ _ _ _ _ _) rfl rfl b3C b3D (nb rfl) fun k af ag l m ah=>?_
 obtain ⟨n,o,p,q,r⟩:=Inv.freezeC m l (by decide)
 replace h:=h k n p q r
 refine j6 Tryz.call118 h o ?_
 rintro _ _ _ ai s _ _ ⟨aj,rfl,rfl,h⟩
 refine j6 Tryz.call117 h s ?_
 rintro _ t _ ak u _ _ ⟨v,y,rfl,rfl,h⟩
 exact hR _ t _ _ (u.bring 1).drop ⟨v,y,rfl,rfl,h⟩
def Y6(c5a:Sl)(c5b:Int)(d:B5)(a5i:Int)(O0:(List i6))(H:Hp)(n2:(Int×(List i6))→Hp→Prop)(K:m8→(List i6)→Hp→Prop):Prop:=
 (a5i < c5b→
 (0:Int)≤a5i∧(a5i:Int) < c5a.n∧∃a:B5,EltH H c5a a5i 4 (t6 a)∧
 a0O (m8.mk (Sl.mk none 0 0)) O0 a H (fun e b c=>
 n2 ((IntKind.wrap .i64 (a5i+1)),b) c))∧
 (¬(a5i < c5b)→
 K (m8.mk (Sl.mk none 0 0)) O0 H)
def Y7(a:B5)(a1A:(List i6))(H:Hp)(K:m8→(List i6)→Hp→Prop):Prop:=
 TL ((0,a1A):Int×(List i6)) H fun(s:Int×(List i6)) H n2=>Y6 a.D7 (a.D7.n:Int) a s.1 s.2 H n2 K
def Y8(b9o:Sl)(c5c:Int)(b:B5)(a4y:Int)(a2X:(List i6))(H:Hp)(n3:(Int×(List i6))→Hp→Prop)(K:m8→(List i6)→Hp→Prop):Prop:=
 (a4y < c5c→
 (0:Int)≤a4y∧(a4y:Int) < b9o.n∧∃a:v6,EltH H b9o a4y 4 (q8 a)∧
 U9 (m8.mk (Sl.mk none 0 0)) a2X a H (fun e c d=>
 n3 ((IntKind.wrap .i64 (a4y+1)),c) d))∧
 (¬(a4y < c5c)→
 Y7 b a2X H K)
def a3D(x0:m8)(a:(List i6))(x1:B5)(H:Hp)(K:m8→(List i6)→Hp→Prop):Prop:=
 TL ((0,a):Int×(List i6)) H fun(s:Int×(List i6)) H n3=>Y8 x1.m9 (x1.m9.n:Int) x1 s.1 s.2 H n3 K
theorem a9L(x0 f x1){H K}(h:a3D x0 f x1 H K):a0O x0 f x1 H K:=by
 intro g0 v y z
 refine Ct.of fun w0 w ps0 H0 R E I hR=>c5P ?_
 unfold a3D at h
 unfold c8z
 refine D6 I (cs:=(t6 x1)) rfl fun e bc p bd=>?_
 have hj1:∀(a1A:(List i6))(a5P:Sl)(a5Q:Frag) H w (_:RowL 158 2 D9 a5P a1A a5Q) (_:Inv w0 ps0 H0 H [bx e 131 (t6 x1),bx g0 155 [(vs a5P)],a5Q] w) (_:Y7 x1 a1A H K),b5Y (Value.pointer (some ⟨g0,0,none⟩)) (Value.pointer (some ⟨e,0,none⟩)) w R E:=by
  intro a1A a5P a5Q H w b4J I h
  unfold b5Y
  intro _
  unfold Y7 at h
  refine c7 a3O (d4 (l1 Tryz.isAgg58 I rfl) (c7 (a8Q _ _ _) ?_))
  obtain ⟨g,c,aa,ab⟩:=h
  refine I0 (J:=fun n l w=>∃(s:Int×(List i6))(H:Hp)(a4n:Sl)(a4o:Frag),n=c s∧l=(match s with | (a5i,O0)=>[(vi a5i)])∧(match s with | (a5i,O0)=>RowL 158 2 D9 a4n O0 a4o)∧(match s with | (a5i,O0)=>Inv w0 ps0 H0 H [bx e 131 (t6 x1),bx g0 155 [(vs a4n)],a4o] w)∧g s H) ⟨_,(0,a1A),H,a5P,a5Q,rfl,rfl,b4J,(((I.bring 2).bring 2).bring 2),aa⟩ ?_
  rintro be bf w next2 ⟨⟨a5i,O0⟩,H,a4n,a4o,rfl,i,a7D,I,ac⟩ hn2
  dsimp only at i I a7D
  simp only [List.map_cons,List.map_nil,List.cons.injEq,and_true] at i
  have e22:=i
  simp only [e22]
  obtain ⟨n2,hm2,h⟩:∃n2:(Int×(List i6))→Hp→Prop,(∀s' H',n2 s' H'→g s' H'∧c s' < c (a5i,O0))∧Y6 x1.D7 (x1.D7.n:Int) x1 a5i O0 H n2 K:=⟨_,fun _ _ h=>h,ab (a5i,O0) H (fun s' H'=>g s' H'∧c s' < c (a5i,O0)) ac (fun _ _ a b=>⟨a,b⟩)⟩
  unfold c0m
  unfold Y6 at h
  refine c7 pLs ?_
  refine g9 h (fun _ h=>?_) (fun _ h=>?_)
  ·obtain ⟨ad,ae,q,j,h⟩:=h
   obtain ⟨bg,bh,af,j⟩:=j
   refine c7 (a2K af _ _ _ _ ad ae) (d4 (ldA (vs:=(t6 q)) Tryz.isAgg131 Tryz.sizeOf131 rfl (I.atH j)) ?_)
   refine y3 I Tryz.zeroValue131 (cs:=[(vi 0),(vi 0),(nS),(nS)]) rfl fun bi bj ag bk=>?_
   refine A6 ag Tryz.sizeOf131 (vs:=(t6 q)) fun bl r bm=>?_
   refine d4 (lW Tryz.isAgg131 Tryz.sizeOf131 rfl r) ?_
   refine j6 Tryz.call108 (h g0 a4n a4o a7D) ((r.bring 3).bring 3) ?_
   rintro _ ah _ bn ai _ _ ⟨bo,aj,ak,al,rfl,rfl,am,h⟩
   refine c7 pAd ?_
   exact hn2 _ _ _ (hm2 _ _ h).2 ⟨((IntKind.wrap .i64 (a5i+1)),aj),ah,ak,al,rfl,rfl,am,((((ai.bring 2).drop.bring 1).bring 1).bring 2),(hm2 _ _ h).1⟩
  ·exact hR _ H _ _ ((I.drop.bring 1).bring 1) ⟨(m8.mk (Sl.mk none 0 0)),O0,a4n,a4o,rfl,rfl,a7D,h⟩
 refine s8 fun j1 hx1=>?_
 refine c7 a8J (d4 (l1 Tryz.isAgg57 p rfl) (c7 (a5C _ _ _) ?_))
 obtain ⟨k,d,an,ao⟩:=h
 refine I0 (J:=fun n l w=>∃(s:Int×(List i6))(H:Hp)(b0t:Sl)(b0u:Frag),n=d s∧l=(match s with | (a4y,a2X)=>[(vi a4y)])∧(match s with | (a4y,a2X)=>RowL 158 2 D9 b0t a2X b0u)∧(match s with | (a4y,a2X)=>Inv w0 ps0 H0 H [bx e 131 (t6 x1),bx g0 155 [(vs b0t)],b0u] w)∧k s H) ⟨_,(0,f),H,v,y,rfl,rfl,z,(((p.bring 2).bring 2).bring 2),an⟩ ?_
 rintro bp bq w next3 ⟨⟨a4y,a2X⟩,H,b0t,b0u,rfl,m,b4K,I,ap⟩ hn3
 dsimp only at m I b4K
 simp only [List.map_cons,List.map_nil,List.cons.injEq,and_true] at m
 have e11:=m
 simp only [e11]
 obtain ⟨n3,hm3,h⟩:∃n3:(Int×(List i6))→Hp→Prop,(∀s' H',n3 s' H'→k s' H'∧d s' < d (a4y,a2X))∧Y8 x1.m9 (x1.m9.n:Int) x1 a4y a2X H n3 K:=⟨_,fun _ _ h=>h,ao (a4y,a2X) H (fun s' H'=>k s' H'∧d s' < d (a4y,a2X)) ap (fun _ _ a b=>⟨a,b⟩)⟩
 unfold c0n
 unfold Y8 at h
 refine c7 pLs ?_
 refine g9 h (fun _ h=>?_) (fun _ h=>?_)
 ·obtain ⟨aq,ar,t,o,h⟩:=h
  obtain ⟨br,bs,au,o⟩:=o
  refine c7 (a0z au _ _ _ _ aq ar) (d4 (ldA (vs:=(q8 t)) Tryz.isAgg123 Tryz.sizeOf123 rfl (I.atH o)) ?_)
  refine y3 I Tryz.zeroValue123 (cs:=[(vi 0),(vi 0),(eS),(nS)]) rfl fun bt bu av bv=>?_
  refine A6 av Tryz.sizeOf123 (vs:=(q8 t)) fun bw u bz=>?_
  refine d4 (lW Tryz.isAgg123 Tryz.sizeOf123 rfl u) ?_
  refine j6 Tryz.call109 (h g0 b0t b0u b4K) ((u.bring 3).bring 3) ?_
  rintro _ aw _ ca ax _ _ ⟨cb,ay,az,ba,rfl,rfl,bb,h⟩
  refine c7 pAd ?_
  exact hn3 _ _ _ (hm3 _ _ h).2 ⟨((IntKind.wrap .i64 (a4y+1)),ay),aw,az,ba,rfl,rfl,bb,((((ax.bring 2).drop.bring 1).bring 1).bring 2),(hm3 _ _ h).1⟩
 ·exact hx1 _ _ (hj1 a2X b0t b0u H _ b4K (((I.bring 2).bring 2).bring 2) h)
def a5R(x0:B5)(H:Hp)(K:g7→Hp→Prop):Prop:=
 K (g7.O7 (T3.mk x0)) H
theorem b2k(x0){H K}(h:a5R x0 H K):a7V x0 H K:=by
 refine Ct.of fun w0 w ps0 H0 R E I hR=>c6r ?_
 unfold a5R at h
 unfold c9b
 refine D6 I (cs:=(t6 x0)) rfl fun b c a d=>?_
 refine d4 (lW Tryz.isAgg131 Tryz.sizeOf131 rfl a) (c7 (b8i _ _ _ _ _ _ _ _) (c7 (b5X (T3.mk x0)) ?_))
 exact hR _ H _ _ a.drop ⟨(g7.O7 (T3.mk x0)),rfl,rfl,h⟩
def J8(d1w:Int)(b3R:Bool)(a:O6)(H:Hp)(K:Bool→Hp→Prop):Prop:=
 (b3R=true→
 K (decide (d1w=2)) H)∧
 (b3R=false→
 K false H)
def Q0(b6B:Int)(a6Z:Int)(b3S:Bool)(a:O6)(H:Hp)(K:Bool→Hp→Prop):Prop:=
 (b3S=true→
 K (decide (b6B=1)) H)∧
 (b3S=false→
 (a6Z=6→
 J8 b6B (decide (a6Z=6)) a H K)∧
 (¬(a6Z=6)→
 (a6Z=7→
 J8 b6B (decide (a6Z=7)) a H K)∧
 (¬(a6Z=7)→
 (a6Z=8→
 J8 b6B (decide (a6Z=8)) a H K)∧
 (¬(a6Z=8)→
 (a6Z=9→
 J8 b6B (decide (a6Z=9)) a H K)∧
 (¬(a6Z=9)→
 J8 b6B (decide (a6Z=10)) a H K)))))
def Q1(a9r:Int)(a7a:Int)(b3T:Bool)(a:O6)(H:Hp)(K:Bool→Hp→Prop):Prop:=
 (b3T=true→
 K (decide (a9r=0)) H)∧
 (b3T=false→
 (a7a=4→
 Q0 a9r a7a (decide (a7a=4)) a H K)∧
 (¬(a7a=4)→
 Q0 a9r a7a (decide (a7a=5)) a H K))
def a4G(x0:O6)(H:Hp)(K:Bool→Hp→Prop):Prop:=
 a1Y (g7.K7 x0) H (fun c b a=>
 ((((!decide (x0.A4.f3=1))&&(!decide (x0.A4.u1=0)))||((!b)&&(!decide (x0.A4.m5=⟨#[]⟩))))=true→
 K false a)∧
 ((((!decide (x0.A4.f3=1))&&(!decide (x0.A4.u1=0)))||((!b)&&(!decide (x0.A4.m5=⟨#[]⟩))))=false→
 (x0.A4.f3=1→
 K ((decide (0≤x0.A4.u1))&&(decide ((x0.A4.K5.n:Int)=0))) a)∧
 (¬(x0.A4.f3=1)→
 (x0.A4.f3=2→
 Q1 (x0.A4.K5.n:Int) x0.A4.f3 (decide (x0.A4.f3=2)) x0 a K)∧
 (¬(x0.A4.f3=2)→
 Q1 (x0.A4.K5.n:Int) x0.A4.f3 (decide (x0.A4.f3=3)) x0 a K))))
theorem b0R(x0){H K}(h:a4G x0 H K):a4B x0 H K:=by
 refine Ct.of fun w0 w ps0 H0 R E I hR=>c6u ?_
 unfold a4G at h
 unfold c9e
 refine D6 I (cs:=(q8 x0.A4)) rfl fun f l i m=>?_
 refine c7 E3 (c7 U4 (d4 (l1 Tryz.isAgg57 i rfl) (c7 (a5C _ _ _) (d4 (lW Tryz.isAgg202 Tryz.sizeOf202 rfl i) ?_))))
 refine c7 (b1w x0) ?_
 refine j6 Tryz.call127 h i ?_
 rintro _ d _ o c _ _ ⟨j,k,rfl,rfl,h⟩
 refine c7 (p6 _ _ (Value.string j) rfl) (c7 (p6 _ _ (vB k) rfl) (c7 E3 (c7 K9 (d4 (l1 Tryz.isAgg3 c rfl) ?_))))
 refine c7 pNe ?_
 refine c7 (Pu.g fun hb=>by have a:=hb;first | with_reducible exact E3 | (simp only [c6 a,c5 a,c5 hb,d6 a];with_reducible exact E3) | (simp only [c6 a,c5 a,c5 hb,d7 a,c8];with_reducible exact E3) | exact E3 | (simp only [c6 a,c5 a,c5 hb,d6 a];exact E3) | (simp only [c6 a,c5 a,c5 hb,d7 a,c8];exact E3)) ?_
 refine c7 (Pu.g fun hb=>by have a:=hb;first | with_reducible exact a1J | (simp only [c6 a,c5 a,c5 hb,d6 a];with_reducible exact a1J) | (simp only [c6 a,c5 a,c5 hb,d7 a,c8];with_reducible exact a1J) | exact a1J | (simp only [c6 a,c5 a,c5 hb,d6 a];exact a1J) | (simp only [c6 a,c5 a,c5 hb,d7 a,c8];exact a1J)) ?_
 refine d4 (Ld.g fun hb=>by have a:=hb;first | exact (l1 Tryz.isAgg2 c rfl) | (simp only [c6 a,c5 a,c5 hb,d6 a];exact (l1 Tryz.isAgg2 c rfl)) | (simp only [c6 a,c5 a,c5 hb,d7 a,c8];exact (l1 Tryz.isAgg2 c rfl))) ?_
 refine c7 (Pu.g fun hb=>by have a:=hb;first | with_reducible exact pNe | (simp only [c6 a,c5 a,c5 hb,d6 a];with_reducible exact pNe) | (simp only [c6 a,c5 a,c5 hb,d7 a,c8];with_reducible exact pNe) | exact pNe | (simp only [c6 a,c5 a,c5 hb,d6 a];exact pNe) | (simp only [c6 a,c5 a,c5 hb,d7 a,c8];exact pNe)) ?_
 refine c7 (p9 _ _) ?_
 try simp only [B8,G9,B9,C1,C3,C5,C0,C2,C4,C6]
 refine c7 (Pu.g fun hb=>by have a:=hb;first | with_reducible exact (p8 _) | (simp only [c6 a,c5 a,c5 hb,d8 a];with_reducible exact (p8 _)) | (simp only [c6 a,c5 a,c5 hb,d9 a,c8];with_reducible exact (p8 _)) | exact (p8 _) | (simp only [c6 a,c5 a,c5 hb,d8 a];exact (p8 _)) | (simp only [c6 a,c5 a,c5 hb,d9 a,c8];exact (p8 _))) ?_
 try simp only [B8,G9,B9,C1,C3,C5,C0,C2,C4,C6]
 refine c7 (Pu.e (Q9 _ _ _) (Pu.g fun hb=>by obtain ⟨a,b⟩:=a0K hb;first | with_reducible exact E3 | (simp only [c6 a,c5 a,c6 b,c5 b,c5 hb,c8];with_reducible exact E3) | (simp only [c6 a,c5 a,c6 b,c5 b,c5 hb,d6 hb];with_reducible exact E3) | (simp only [c6 a,c5 a,c6 b,c5 b,c5 hb,d7 hb,c8];with_reducible exact E3) | exact E3 | (simp only [c6 a,c5 a,c6 b,c5 b,c5 hb,c8];exact E3) | (simp only [c6 a,c5 a,c6 b,c5 b,c5 hb,d6 hb];exact E3) | (simp only [c6 a,c5 a,c6 b,c5 b,c5 hb,d7 hb,c8];exact E3))) ?_
 refine c7 (Pu.e (Q9 _ _ _) (Pu.g fun hb=>by obtain ⟨a,b⟩:=a0K hb;first | with_reducible exact U5 | (simp only [c6 a,c5 a,c6 b,c5 b,c5 hb,c8];with_reducible exact U5) | (simp only [c6 a,c5 a,c6 b,c5 b,c5 hb,d6 hb];with_reducible exact U5) | (simp only [c6 a,c5 a,c6 b,c5 b,c5 hb,d7 hb,c8];with_reducible exact U5) | exact U5 | (simp only [c6 a,c5 a,c6 b,c5 b,c5 hb,c8];exact U5) | (simp only [c6 a,c5 a,c6 b,c5 b,c5 hb,d6 hb];exact U5) | (simp only [c6 a,c5 a,c6 b,c5 b,c5 hb,d7 hb,c8];exact U5))) ?_
 refine d4 (Ld.e (Q9 _ _ _) (Ld.g fun hb=>by obtain ⟨a,b⟩:=a0K hb;first | exact (l1 Tryz.isAgg9 c rfl) | (simp only [c6 a,c5 a,c6 b,c5 b,c5 hb,c8];exact (l1 Tryz.isAgg9 c rfl)) | (simp only [c6 a,c5 a,c6 b,c5 b,c5 hb,d6 hb];exact (l1 Tryz.isAgg9 c rfl)) | (simp only [c6 a,c5 a,c6 b,c5 b,c5 hb,d7 hb,c8];exact (l1 Tryz.isAgg9 c rfl)))) ?_
 refine c7 (Pu.e (Q9 _ _ _) (Pu.g fun hb=>by obtain ⟨a,b⟩:=a0K hb;first | with_reducible exact (a7O _ _ _ _ _) | (simp only [c6 a,c5 a,c6 b,c5 b,c5 hb,c8];with_reducible exact (a7O _ _ _ _ _)) | (simp only [c6 a,c5 a,c6 b,c5 b,c5 hb,d6 hb];with_reducible exact (a7O _ _ _ _ _)) | (simp only [c6 a,c5 a,c6 b,c5 b,c5 hb,d7 hb,c8];with_reducible exact (a7O _ _ _ _ _)) | exact (a7O _ _ _ _ _) | (simp only [c6 a,c5 a,c6 b,c5 b,c5 hb,c8];exact (a7O _ _ _ _ _)) | (simp only [c6 a,c5 a,c6 b,c5 b,c5 hb,d6 hb];exact (a7O _ _ _ _ _)) | (simp only [c6 a,c5 a,c6 b,c5 b,c5 hb,d7 hb,c8];exact (a7O _ _ _ _ _)))) ?_
 refine c7 (Pu.g fun hb=>by have a:=hb;first | with_reducible exact (p9 _ _) | (simp only [c6 a,c5 a,c5 hb,d8 a];with_reducible exact (p9 _ _)) | (simp only [c6 a,c5 a,c5 hb,d9 a,c8];with_reducible exact (p9 _ _)) | exact (p9 _ _) | (simp only [c6 a,c5 a,c5 hb,d8 a];exact (p9 _ _)) | (simp only [c6 a,c5 a,c5 hb,d9 a,c8];exact (p9 _ _))) ?_
 refine c7 (B4 _ _) ?_
 refine q9 h (fun _ h=>?_) (fun _ h=>?_)
 ·exact hR _ d _ _ c.drop ⟨false,rfl,rfl,h⟩
 ·refine c7 E3 (c7 K9 (d4 (l1 Tryz.isAgg3 c rfl) (c7 pEq ?_)))
  refine g9 h (fun _ h=>?_) (fun _ h=>?_)
  ·refine c7 E3 (c7 a1J (d4 (l1 Tryz.isAgg2 c rfl) (c7 pGe ?_)))
   try simp only [B8,G9,B9,C1,C3,C5,C0,C2,C4,C6]
   refine c7 (Pu.g fun hb=>by have a:=hb;first | with_reducible exact pEq | (simp only [c6 a,c5 a,c5 hb,d6 a];with_reducible exact pEq) | (simp only [c6 a,c5 a,c5 hb,d7 a,c8];with_reducible exact pEq) | exact pEq | (simp only [c6 a,c5 a,c5 hb,d6 a];exact pEq) | (simp only [c6 a,c5 a,c5 hb,d7 a,c8];exact pEq)) ?_
   refine c7 (p9 _ _) ?_
   exact hR _ d _ _ c.drop ⟨((decide (0≤x0.A4.u1))&&(decide ((x0.A4.K5.n:Int)=0))),rfl,rfl,h⟩
  ·have hj1:∀(b3T:Bool) H w (_:Inv w0 ps0 H0 H [bx f 202 (q8 x0.A4)] w) (_:Q1 (x0.A4.K5.n:Int) x0.A4.f3 b3T x0 H K),b6w (vi (x0.A4.K5.n:Int)) (vi x0.A4.f3) (vB b3T) w R E:=by
    intro b3T H w I h
    unfold b6w
    intro _
    unfold Q1 at h
    refine q9 h (fun _ h=>?_) (fun _ h=>?_)
    ·refine c7 pEq ?_
     exact hR _ H _ _ I.drop ⟨(decide ((x0.A4.K5.n:Int)=0)),rfl,rfl,h⟩
    ·have hj2:∀(b3S:Bool) H w (_:Inv w0 ps0 H0 H [bx f 202 (q8 x0.A4)] w) (_:Q0 (x0.A4.K5.n:Int) x0.A4.f3 b3S x0 H K),b6v (vi (x0.A4.K5.n:Int)) (vi x0.A4.f3) (vB b3S) w R E:=by
      intro b3S H w I h
      unfold b6v
      intro _
      unfold Q0 at h
      refine q9 h (fun _ h=>?_) (fun _ h=>?_)
      ·refine c7 pEq ?_
       exact hR _ H _ _ I.drop ⟨(decide ((x0.A4.K5.n:Int)=1)),rfl,rfl,h⟩
      ·have hj3:∀(b3R:Bool) H w (_:Inv w0 ps0 H0 H [bx f 202 (q8 x0.A4)] w) (_:J8 (x0.A4.K5.n:Int) b3R x0 H K),b6u (vi (x0.A4.K5.n:Int)) (vB b3R) w R E:=by
        intro b3R H w I h
        unfold b6u
        intro _
        unfold J8 at h
        refine q9 h (fun _ h=>?_) (fun _ h=>?_)
        ·refine c7 pEq ?_
         exact hR _ H _ _ I.drop ⟨(decide ((x0.A4.K5.n:Int)=2)),rfl,rfl,h⟩
        ·exact hR _ H _ _ I.drop ⟨false,rfl,rfl,h⟩
       refine s8 fun j3 hx3=>?_
       refine c7 pEq ?_
       refine g9 h (fun _ h=>?_) (fun _ h=>?_)
       ·exact hx3 _ _ (hj3 (decide (x0.A4.f3=6)) H _ I h)
       ·refine c7 pEq ?_
        refine g9 h (fun _ h=>?_) (fun _ h=>?_)
        ·exact hx3 _ _ (hj3 (decide (x0.A4.f3=7)) H _ I h)
        ·refine c7 pEq ?_
         refine g9 h (fun _ h=>?_) (fun _ h=>?_)
         ·exact hx3 _ _ (hj3 (decide (x0.A4.f3=8)) H _ I h)
         ·refine c7 pEq ?_
          refine g9 h (fun _ h=>?_) (fun _ h=>?_)
          ·exact hx3 _ _ (hj3 (decide (x0.A4.f3=9)) H _ I h)
          ·refine c7 pEq ?_
           exact hx3 _ _ (hj3 (decide (x0.A4.f3=10)) H _ I h)
     refine s8 fun j2 hx2=>?_
     refine c7 pEq ?_
     refine g9 h (fun _ h=>?_) (fun _ h=>?_)
     ·exact hx2 _ _ (hj2 (decide (x0.A4.f3=4)) H _ I h)
     ·refine c7 pEq ?_
      exact hx2 _ _ (hj2 (decide (x0.A4.f3=5)) H _ I h)
   refine s8 fun j1 hx1=>?_
   refine c7 pEq ?_
   refine g9 h (fun _ h=>?_) (fun _ h=>?_)
   ·exact hx1 _ _ (hj1 (decide (x0.A4.f3=2)) d _ c h)
   ·refine c7 pEq ?_
    exact hx1 _ _ (hj1 (decide (x0.A4.f3=3)) d _ c h)
def Q2(b3U:Bool)(a:t7)(b:T3)(H:Hp)(K:Bool→Hp→Prop):Prop:=
 (b3U=true→
 K (decide (a.fexprs=0∧a.fparts=2)) H)∧
 (b3U=false→
 K false H)
def Q3(a7a:Int)(b3V:Bool)(a:t7)(b:T3)(H:Hp)(K:Bool→Hp→Prop):Prop:=
 (b3V=true→
 K (decide (a.fexprs=0∧a.fparts=0)) H)∧
 (b3V=false→
 (a7a=4→
 K (decide (a.fexprs=0∧a.fparts=1)) H)∧
 (¬(a7a=4)→
 (a7a=5→
 Q2 (decide (a7a=5)) a b H K)∧
 (¬(a7a=5)→
 Q2 (decide (a7a=6)) a b H K)))
def a4H(x0:T3)(H:Hp)(K:Bool→Hp→Prop):Prop:=
 (x0.u0.f3=3→
 K (((decide (1≤x0.u0.fOp))&&(decide (x0.u0.fOp≤6)))&&(decide ((x0.u0.m9.n:Int)=2∧(x0.u0.D7.n:Int)=0))) H)∧
 (¬(x0.u0.f3=3)→
 (¬(x0.u0.fOp=0)→
 K false H)∧
 (x0.u0.fOp=0→
 (x0.u0.f3=1→
 Q3 x0.u0.f3 (decide (x0.u0.f3=1)) (t7.mk (x0.u0.m9.n:Int) (x0.u0.D7.n:Int)) x0 H K)∧
 (¬(x0.u0.f3=1)→
 Q3 x0.u0.f3 (decide (x0.u0.f3=2)) (t7.mk (x0.u0.m9.n:Int) (x0.u0.D7.n:Int)) x0 H K)))
theorem b0S(x0){H K}(h:a4H x0 H K):a4C x0 H K:=by
 refine Ct.of fun w0 w ps0 H0 R E I hR=>c6w ?_
 unfold a4H at h
 unfold c9g
 refine D6 I (cs:=(t6 x0.u0)) rfl fun e i d j=>?_
 refine c7 S2 (c7 a8J (d4 (l1 Tryz.isAgg57 d rfl) (c7 (a5C _ _ _) (c7 S2 ?_))))
 refine c7 a3O (d4 (l1 Tryz.isAgg58 d rfl) (c7 (a8Q _ _ _) (c7 (X7 _ _) ?_)))
 refine y3 d Tryz.zeroValue239 (cs:=[(vi 0),(vi 0)]) rfl fun c k f l=>?_
 refine A6 f Tryz.sizeOf239 (vs:=[(vi (x0.u0.m9.n:Int)),(vi (x0.u0.D7.n:Int))]) fun m b p=>?_
 refine c7 S2 (c7 b1f (d4 (l1 Tryz.isAgg3 (b.bring 1) rfl) (c7 pEq ?_)))
 refine g9 h (fun _ h=>?_) (fun _ h=>?_)
 ·refine c7 S2 (c7 a0U (d4 (l1 Tryz.isAgg3 (b.bring 1) rfl) (c7 pGe ?_)))
  refine c7 (Pu.g fun hb=>by have a:=hb;first | with_reducible exact S2 | (simp only [c6 a,c5 a,c5 hb,d6 a];with_reducible exact S2) | (simp only [c6 a,c5 a,c5 hb,d7 a,c8];with_reducible exact S2) | exact S2 | (simp only [c6 a,c5 a,c5 hb,d6 a];exact S2) | (simp only [c6 a,c5 a,c5 hb,d7 a,c8];exact S2)) ?_
  refine c7 (Pu.g fun hb=>by have a:=hb;first | with_reducible exact a0U | (simp only [c6 a,c5 a,c5 hb,d6 a];with_reducible exact a0U) | (simp only [c6 a,c5 a,c5 hb,d7 a,c8];with_reducible exact a0U) | exact a0U | (simp only [c6 a,c5 a,c5 hb,d6 a];exact a0U) | (simp only [c6 a,c5 a,c5 hb,d7 a,c8];exact a0U)) ?_
  refine d4 (Ld.g fun hb=>by have a:=hb;first | exact (l1 Tryz.isAgg3 (b.bring 1) rfl) | (simp only [c6 a,c5 a,c5 hb,d6 a];exact (l1 Tryz.isAgg3 (b.bring 1) rfl)) | (simp only [c6 a,c5 a,c5 hb,d7 a,c8];exact (l1 Tryz.isAgg3 (b.bring 1) rfl))) ?_
  refine c7 (Pu.g fun hb=>by have a:=hb;first | with_reducible exact pLe | (simp only [c6 a,c5 a,c5 hb,d6 a];with_reducible exact pLe) | (simp only [c6 a,c5 a,c5 hb,d7 a,c8];with_reducible exact pLe) | exact pLe | (simp only [c6 a,c5 a,c5 hb,d6 a];exact pLe) | (simp only [c6 a,c5 a,c5 hb,d7 a,c8];exact pLe)) ?_
  refine c7 (p9 _ _) ?_
  refine d4 (Ld.g fun hb=>by have a:=hb;first | exact (ldA Tryz.isAgg239 Tryz.sizeOf239 rfl (b.at1 (o:=0) (vs:=[(vi (x0.u0.m9.n:Int)),(vi (x0.u0.D7.n:Int))]) (nb rfl) rfl)) | (simp only [c6 a,c5 a,c5 hb,d6 a];exact (ldA Tryz.isAgg239 Tryz.sizeOf239 rfl (b.at1 (o:=0) (vs:=[(vi (x0.u0.m9.n:Int)),(vi (x0.u0.D7.n:Int))]) (nb rfl) rfl))) | (simp only [c6 a,c5 a,c5 hb,d7 a,c8];exact (ldA Tryz.isAgg239 Tryz.sizeOf239 rfl (b.at1 (o:=0) (vs:=[(vi (x0.u0.m9.n:Int)),(vi (x0.u0.D7.n:Int))]) (nb rfl) rfl)))) ?_
  refine c7 (Pu.g fun hb=>by have a:=hb;first | with_reducible exact (X7 _ _) | (simp only [c6 a,c5 a,c5 hb,d6 a];with_reducible exact (X7 _ _)) | (simp only [c6 a,c5 a,c5 hb,d7 a,c8];with_reducible exact (X7 _ _)) | exact (X7 _ _) | (simp only [c6 a,c5 a,c5 hb,d6 a];exact (X7 _ _)) | (simp only [c6 a,c5 a,c5 hb,d7 a,c8];exact (X7 _ _))) ?_
  refine c7 (Pu.g fun hb=>by have a:=hb;first | with_reducible exact (a4S _ _ _ _ _ _) | (simp only [c6 a,c5 a,c5 hb,d6 a];with_reducible exact (a4S _ _ _ _ _ _)) | (simp only [c6 a,c5 a,c5 hb,d7 a,c8];with_reducible exact (a4S _ _ _ _ _ _)) | exact (a4S _ _ _ _ _ _) | (simp only [c6 a,c5 a,c5 hb,d6 a];exact (a4S _ _ _ _ _ _)) | (simp only [c6 a,c5 a,c5 hb,d7 a,c8];exact (a4S _ _ _ _ _ _))) ?_
  refine c7 (p9 _ _) ?_
  exact hR _ H _ _ b.drop.drop ⟨(((decide (1≤x0.u0.fOp))&&(decide (x0.u0.fOp≤6)))&&(decide ((x0.u0.m9.n:Int)=2∧(x0.u0.D7.n:Int)=0))),rfl,rfl,h⟩
 ·refine c7 S2 (c7 a0U (d4 (l1 Tryz.isAgg3 (b.bring 1) rfl) (c7 pNe ?_)))
  refine a0e h (fun _ h=>?_) (fun _ h=>?_)
  ·exact hR _ H _ _ b.drop.drop ⟨false,rfl,rfl,h⟩
  ·refine c7 S2 (c7 b1f (d4 (l1 Tryz.isAgg3 (b.bring 1) rfl) ?_))
   have hj1:∀(b3V:Bool) H w (_:Inv w0 ps0 H0 H [bx c 239 [(vi (t7.mk (x0.u0.m9.n:Int) (x0.u0.D7.n:Int)).fexprs),(vi (t7.mk (x0.u0.m9.n:Int) (x0.u0.D7.n:Int)).fparts)],bx e 236 (t6 x0.u0)] w) (_:Q3 x0.u0.f3 b3V (t7.mk (x0.u0.m9.n:Int) (x0.u0.D7.n:Int)) x0 H K),b6y (Value.pointer (some ⟨c,0,none⟩)) (vi x0.u0.f3) (vB b3V) w R E:=by
    intro b3V H w I h
    unfold b6y
    intro _
    unfold Q3 at h
    refine q9 h (fun _ h=>?_) (fun _ h=>?_)
    ·refine d4 (ldA Tryz.isAgg239 Tryz.sizeOf239 rfl (I.at1 (o:=0) (vs:=[(vi (t7.mk (x0.u0.m9.n:Int) (x0.u0.D7.n:Int)).fexprs),(vi (t7.mk (x0.u0.m9.n:Int) (x0.u0.D7.n:Int)).fparts)]) (nb rfl) rfl)) (c7 (c0W) (c7 (a4S _ _ _ _ _ _) ?_))
     exact hR _ H _ _ I.drop.drop ⟨(decide ((t7.mk (x0.u0.m9.n:Int) (x0.u0.D7.n:Int)).fexprs=0∧(t7.mk (x0.u0.m9.n:Int) (x0.u0.D7.n:Int)).fparts=0)),rfl,rfl,h⟩
    ·refine c7 pEq ?_
     refine g9 h (fun _ h=>?_) (fun _ h=>?_)
     ·refine d4 (ldA Tryz.isAgg239 Tryz.sizeOf239 rfl (I.at1 (o:=0) (vs:=[(vi (t7.mk (x0.u0.m9.n:Int) (x0.u0.D7.n:Int)).fexprs),(vi (t7.mk (x0.u0.m9.n:Int) (x0.u0.D7.n:Int)).fparts)]) (nb rfl) rfl)) (c7 (X7 _ _) (c7 (a4S _ _ _ _ _ _) ?_))
      exact hR _ H _ _ I.drop.drop ⟨(decide ((t7.mk (x0.u0.m9.n:Int) (x0.u0.D7.n:Int)).fexprs=0∧(t7.mk (x0.u0.m9.n:Int) (x0.u0.D7.n:Int)).fparts=1)),rfl,rfl,h⟩
     ·have hj2:∀(b3U:Bool) H w (_:Inv w0 ps0 H0 H [bx c 239 [(vi (t7.mk (x0.u0.m9.n:Int) (x0.u0.D7.n:Int)).fexprs),(vi (t7.mk (x0.u0.m9.n:Int) (x0.u0.D7.n:Int)).fparts)],bx e 236 (t6 x0.u0)] w) (_:Q2 b3U (t7.mk (x0.u0.m9.n:Int) (x0.u0.D7.n:Int)) x0 H K),b6x (Value.pointer (some ⟨c,0,none⟩)) (vB b3U) w R E:=by
       intro b3U H w I h
       unfold b6x
       intro _
       unfold Q2 at h
       refine q9 h (fun _ h=>?_) (fun _ h=>?_)
       ·refine d4 (ldA Tryz.isAgg239 Tryz.sizeOf239 rfl (I.at1 (o:=0) (vs:=[(vi (t7.mk (x0.u0.m9.n:Int) (x0.u0.D7.n:Int)).fexprs),(vi (t7.mk (x0.u0.m9.n:Int) (x0.u0.D7.n:Int)).fparts)]) (nb rfl) rfl)) (c7 (X7 _ _) (c7 (a4S _ _ _ _ _ _) ?_))
        exact hR _ H _ _ I.drop.drop ⟨(decide ((t7.mk (x0.u0.m9.n:Int) (x0.u0.D7.n:Int)).fexprs=0∧(t7.mk (x0.u0.m9.n:Int) (x0.u0.D7.n:Int)).fparts=2)),rfl,rfl,h⟩
       ·exact hR _ H _ _ I.drop.drop ⟨false,rfl,rfl,h⟩
      refine s8 fun j2 hx2=>?_
      refine c7 pEq ?_
      refine g9 h (fun _ h=>?_) (fun _ h=>?_)
      ·exact hx2 _ _ (hj2 (decide (x0.u0.f3=5)) H _ ((I.bring 1).bring 1) h)
      ·refine c7 pEq ?_
       exact hx2 _ _ (hj2 (decide (x0.u0.f3=6)) H _ ((I.bring 1).bring 1) h)
   refine s8 fun j1 hx1=>?_
   refine c7 pEq ?_
   refine g9 h (fun _ h=>?_) (fun _ h=>?_)
   ·exact hx1 _ _ (hj1 (decide (x0.u0.f3=1)) H _ ((b.bring 1).bring 1) h)
   ·refine c7 pEq ?_
    exact hx1 _ _ (hj1 (decide (x0.u0.f3=2)) H _ ((b.bring 1).bring 1) h)
end Go.Proofs.YtaokfhdinhimfaaGreatDoor
