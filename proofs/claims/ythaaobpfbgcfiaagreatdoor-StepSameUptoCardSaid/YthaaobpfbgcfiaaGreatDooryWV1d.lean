/- Typed formulas of the program's functions, and the theorems that the contracts follow from them; printed by lift.py off the code. -/
import Derived.Test.YthaaobpfbgcfiaaGreatDooryWV1
namespace Go.Proofs.YthaaobpfbgcfiaaGreatDoor
open Go.RowKit
set_option maxRecDepth 100000
set_option maxHeartbeats 2000000
def a4Z(x0:b9)(b:(List Int))(c:(List (List Int)))(d:(List d5))(x1:o3)(H:Hp)(K:Int→Hp→Prop):Prop:=
 (x1.A8 < 0→
 K x1.s8 H)∧
 (¬(x1.A8 < 0)→
 (0:Int)≤x1.A8∧∃a:Int,(b)[(x1.A8:Int).toNat]? = some a∧
 K a H)
theorem a9P(x0 e f g x1){H K}(h:a4Z x0 e f g x1 H K):r9 x0 e f g x1 H K:=by
 intro g0 l m n o p q c r s
 refine Ct.of fun w0 w ps0 H0 R E I hR=>d0u ?_
 refine z7 I (cs:=(m4 x1)) rfl fun t u a y=>?_
 refine b6 a5Q (d4 (l1 Tryz.isAgg3 a rfl) (b6 pLs ?_))
 refine g7 h (fun _ h=>?_) (fun _ h=>?_)
 ·refine b6 b5O (d4 (l1 Tryz.isAgg2 a rfl) ?_)
  exact hR _ H _ _ ((((a.drop.bring 3).bring 3).bring 3).bring 3) ⟨x1.s8,rfl,rfl,h⟩
 ·refine C6 a fun z b=>?_
  refine d6 (m7 _) ?_
  refine d6 a0h ?_
  refine d6 a5Q ?_
  refine i8 (l1 Tryz.isAgg26 (b.bring 1) rfl) ?_
  refine i8 (l1 Tryz.isAgg3 b rfl) ?_
  obtain ⟨i,j,d,h⟩:=h
  obtain ⟨aa,ab,k,ac⟩:=c.addr d
  refine d6 (E3 k _ _ _ _ i (c.lt i d)) ?_
  refine i8 (ld1 (v:=(vi j)) Tryz.isAgg2 (c.atW (b.bring 2) k d)) ?_
  exact hR _ H _ _ ((((b.drop.bring 3).bring 3).bring 3).bring 3) ⟨j,rfl,rfl,h⟩
def a7d(H:Hp)(K:Hp→Prop):Prop:=
 K H
theorem b1N{H K}(h:a7d H K):a3t H K:=by
 refine Ct.of fun w0 w ps0 H0 R E I hR=>d1a ?_
 refine s6 I Tryz.zeroValue151 (cs:=[Value.nilFunc,Value.nilFunc,Value.nilFunc,Value.nilFunc,Value.nilFunc,Value.nilFunc,Value.nilFunc]) rfl fun c d b e=>?_
 refine b6 a5i ?_
 refine A5 b Tryz.sizeOf151 (vs:=[(fC 98),(fC 99),(fC 100),(fC 101),(fC 102),(fC 103),(fC 104)]) fun f a g=>?_
 refine Q4 Tryz.isAgg151 Tryz.sizeOf151 rfl a ?_
 exact hR _ H _ _ a.drop ⟨rfl,rfl,h⟩
def a6s(x0:Int)(x1:Int)(H:Hp)(K:Bool→Hp→Prop):Prop:=
 K (decide (x1 < x0)) H
theorem b1b(x0 x1){H K}(h:a6s x0 x1 H K):a6h x0 x1 H K:=by
 refine Ct.of fun w0 w ps0 H0 R E I hR=>c7t ?_
 refine b6 pGt ?_
 exact hR _ H _ _ I ⟨_,rfl,rfl,h⟩
def b0K(x0:Int)(x1:Int)(x2:Int)(H:Hp)(K:Bool→Hp→Prop):Prop:=
 (((decide (x0 < 1))||(decide (6 < x0)))=true→
 K false H)∧
 (((decide (x0 < 1))||(decide (6 < x0)))=false→
 a3t H (fun b=>
 (0:Int)≤x0∧(x0:Int) < 7∧
 ∃a:Bool→Hp→Prop,(∀(c:Bool)(d:Hp),a c d→
 K c d)∧((x0:Int)=0→b3G x1 x2 b a)∧((x0:Int)=1→a6d x1 x2 b a)∧((x0:Int)=2→a6e x1 x2 b a)∧((x0:Int)=3→a6f x1 x2 b a)∧((x0:Int)=4→a6g x1 x2 b a)∧((x0:Int)=5→a6h x1 x2 b a)∧((x0:Int)=6→a6i x1 x2 b a)))
theorem b5p(x0 x1 x2){H K}(h:b0K x0 x1 x2 H K):a6L x0 x1 x2 H K:=by
 refine Ct.of fun w0 w ps0 H0 R E I hR=>d0t ?_
 refine b6 pLs ?_
 simp only [J0]
 refine b6 (Pu.g fun j=>by simp only [j8 j];with_reducible exact pGt) ?_
 refine b6 (M2 _ _) ?_
 refine u5 h (fun _ h=>?_) (fun _ h=>?_)
 ·exact hR _ H _ _ I ⟨_,rfl,rfl,h⟩
 ·refine f9 Tryz.call76 h I ?_
  rintro _ o _ m l _ _ ⟨rfl,rfl,h⟩
  obtain ⟨p,q,h⟩:=h
  refine b6 (U6 _ _ p q) ?_
  obtain ⟨r,s,t,u,v,y,z,aa,ab⟩:=h
  refine c0j (D:=fun n k=>∃(b:Bool)(a:Hp),n=(vB b)∧(Inv w0 ps0 H0 a [] k)∧(∀i,i < m.heap.size→¬inF [] i→k.heap[i]? = m.heap[i]?)∧Hle o a∧(r b a)) ?_ ?_
  ·obtain e | e | e | e | e | e | e:=(by omega:(x0:Int)=0∨(x0:Int)=1∨(x0:Int)=2∨(x0:Int)=3∨(x0:Int)=4∨(x0:Int)=5∨(x0:Int)=6)
   ·replace h:=t e
    refine a0E (s':=xCall (fC 98) [(vi x1),(vi x2)]) (by rw [e];rfl) ?_
    refine f9 Tryz.call98 h l ?_
    rintro _ a _ k c d f ⟨b,rfl,rfl,h⟩
    exact ⟨b,a,rfl,c,f,d,h⟩
   ·replace h:=u e
    refine a0E (s':=xCall (fC 99) [(vi x1),(vi x2)]) (by rw [e];rfl) ?_
    refine f9 Tryz.call99 h l ?_
    rintro _ a _ k c d f ⟨b,rfl,rfl,h⟩
    exact ⟨b,a,rfl,c,f,d,h⟩
   ·replace h:=v e
    refine a0E (s':=xCall (fC 100) [(vi x1),(vi x2)]) (by rw [e];rfl) ?_
    refine f9 Tryz.call100 h l ?_
    rintro _ a _ k c d f ⟨b,rfl,rfl,h⟩
    exact ⟨b,a,rfl,c,f,d,h⟩
   ·replace h:=y e
    refine a0E (s':=xCall (fC 101) [(vi x1),(vi x2)]) (by rw [e];rfl) ?_
    refine f9 Tryz.call101 h l ?_
    rintro _ a _ k c d f ⟨b,rfl,rfl,h⟩
    exact ⟨b,a,rfl,c,f,d,h⟩
   ·replace h:=z e
    refine a0E (s':=xCall (fC 102) [(vi x1),(vi x2)]) (by rw [e];rfl) ?_
    refine f9 Tryz.call102 h l ?_
    rintro _ a _ k c d f ⟨b,rfl,rfl,h⟩
    exact ⟨b,a,rfl,c,f,d,h⟩
   ·replace h:=aa e
    refine a0E (s':=xCall (fC 103) [(vi x1),(vi x2)]) (by rw [e];rfl) ?_
    refine f9 Tryz.call103 h l ?_
    rintro _ a _ k c d f ⟨b,rfl,rfl,h⟩
    exact ⟨b,a,rfl,c,f,d,h⟩
   ·replace h:=ab e
    refine a0E (s':=xCall (fC 104) [(vi x1),(vi x2)]) (by rw [e];rfl) ?_
    refine f9 Tryz.call104 h l ?_
    rintro _ a _ k c d f ⟨b,rfl,rfl,h⟩
    exact ⟨b,a,rfl,c,f,d,h⟩
  ·rintro n k ⟨b,a,rfl,c,f,d,h⟩
   replace h:=s _ _ h
   exact hR _ a _ _ c ⟨b,rfl,rfl,h⟩
def a5z(x0:b9)(e:(List Int))(f:(List (List Int)))(g:(List d5))(H:Hp)(K:Int→Bool→Hp→Prop):Prop:=
 (0:Int)≤x0.fpoint∧(x0.fpoint:Int) < x0.ffrom.n∧∃b:Sl,EltH H x0.ffrom x0.fpoint 1 [(vs b)]∧
 (((decide (x0.fpoint=x0.fc.B6))||(decide ((b.n:Int)=0)))=true→
 K (-1) false H)∧
 (((decide (x0.fpoint=x0.fc.B6))||(decide ((b.n:Int)=0)))=false→
 (0:Int)≤0∧(0:Int) < b.n∧∃c:Int,EltH H b 0 1 [(vi c)]∧
 (0:Int)≤c∧(c:Int) < x0.fc.B5.n∧∃a:b7,EltH H x0.fc.B5 c 10 (d7 a)∧
 TG ((decide (a.b8=12))=true) (r9 (o4 x0) e f g a.fA H) 0 H (fun(m:Int)(i:Hp)=>
 TG ((decide (a.b8=12))=true) (r9 (o4 x0) e f g a.fB i) 0 i (fun(o:Int)(j:Hp)=>
 TG ((decide (a.b8=12))=true) (a6L a.fOp m o j) false j (fun(k:Bool)(d:Hp)=>
 (((decide (a.b8=12))&&(!k))=true→
 (0:Int)≤1∧(1:Int) < b.n∧∃l:Int,EltH d b 1 1 [(vi l)]∧
 K l true d)∧
 (((decide (a.b8=12))&&(!k))=false→
 K c true d)))))
theorem b0L(x0 am an ao){H K}(h:a5z x0 am an ao H K):a2h x0 am an ao H K:=by
 intro g0 d e f i j k ap aq ar
 refine Ct.of fun w0 w ps0 H0 R E I hR=>c9R ?_
 refine C6 I fun bt s=>?_
 refine d6 (m7 _) ?_
 refine d6 c1o ?_
 refine d6 (m7 _) ?_
 refine d6 a9y ?_
 refine i8 (l1 Tryz.isAgg75 s rfl) ?_
 refine i8 (l1 Tryz.isAgg3 s rfl) ?_
 obtain ⟨be,bf,bg,ae,h⟩:=h
 obtain ⟨bu,bv,bh,ae⟩:=ae
 refine d6 (b5a bh _ _ _ _ be bf) ?_
 refine i8 (ld1 (v:=(vs bg)) Tryz.isAgg100 (s.atH ae)) ?_
 refine C6 s fun bw t=>?_
 refine d6 (m7 _) ?_
 refine d6 a9y ?_
 refine d6 (m7 _) ?_
 refine d6 b5N ?_
 refine d6 a5P ?_
 refine i8 (l1 Tryz.isAgg3 t rfl) ?_
 refine i8 (l1 Tryz.isAgg3 t rfl) ?_
 refine d6 pEq ?_
 simp only [J0]
 refine d6 (Pu.g fun a=>by simp only [j8 a];with_reducible exact (c1p _ _ _)) ?_
 refine d6 (Pu.g fun a=>by simp only [j8 a];with_reducible exact pEq) ?_
 refine d6 (M2 _ _) ?_
 refine u5 h (fun _ h=>?_) (fun _ h=>?_)
 ·exact hR _ H _ _ ((((t.bring 3).bring 3).bring 3).bring 3) ⟨(-1),false,rfl,rfl,h⟩
 ·refine C6 t fun bz l=>?_
  refine d6 (m7 _) ?_
  refine d6 b5N ?_
  refine d6 a1I ?_
  obtain ⟨au,av,af,r,h⟩:=h
  obtain ⟨ca,cb,aw,r⟩:=r
  refine d6 (a8t aw _ _ _ _ au av) ?_
  refine i8 (l1 Tryz.isAgg37 l rfl) ?_
  refine i8 (ld1 (v:=(vi af)) Tryz.isAgg3 (l.atH r)) ?_
  obtain ⟨bi,bj,c,u,h⟩:=h
  obtain ⟨cc,cd,bk,u⟩:=u
  refine d6 (a5h bk _ _ _ _ bi bj) ?_
  refine i8 (ldA (vs:=(d7 c)) Tryz.isAgg49 Tryz.sizeOf49 rfl (l.atH u)) ?_
  refine s6 l Tryz.zeroValue49 (cs:=[(vi 0),(vi 0),(vi 0),(vi 0),(vi 0),(vi 0),(vi 0),(vi 0),(vi 0),(vi 0)]) rfl fun m ce bl ag=>?_
  refine ⟨(ag _ (l.a5f u)),(ag _ (l.a5f r)),(ag _ l.lt1),?_⟩
  refine A5 bl Tryz.sizeOf49 (vs:=(d7 c)) fun cf bm cg=>?_
  refine C6 bm fun ch b=>?_
  refine d6 a1J ?_
  refine i8 (l1 Tryz.isAgg3 b rfl) ?_
  refine d6 pEq ?_
  refine d6 (Pu.g fun a=>by with_reducible exact a2H) ?_
  simp only [J0]
  refine d6 (Pu.g fun a=>by with_reducible exact M3) ?_
  refine d6 (Pu.g fun a=>by with_reducible exact Q6) ?_
  refine a1u (p:=(Value.pointer (some ⟨m,5,none⟩))) rfl (Ld.g fun a=>by simp only [j8 a];exact (l1 Tryz.isAgg3 b rfl)) ?_
  refine a1u (p:=(Value.pointer (some ⟨m,6,none⟩))) rfl (Ld.g fun a=>by simp only [j8 a];exact (ldA Tryz.isAgg47 Tryz.sizeOf47 rfl (b.at1 (o:=6) (vs:=(m4 c.fA)) (nb rfl) rfl))) ?_
  refine a1u (p:=(Value.pointer (some ⟨m,8,none⟩))) rfl (Ld.g fun a=>by simp only [j8 a];exact (ldA Tryz.isAgg47 Tryz.sizeOf47 rfl (b.at1 (o:=8) (vs:=(m4 c.fB)) (nb rfl) rfl))) ?_
  refine V4 [bx g0 78 (m9 x0 d f j),e,i,k] (fun y:Int=>(vi y)) h ((((b.bring 4).bring 4).bring 4).bring 4) (fun a h=>by simp only [j8 a];exact V9 Tryz.call45 (h g0 d e f i j k ap aq ar) ((((b.bring 4).bring 4).bring 4).bring 4)) fun y ay bn n z ah h=>?_
  refine ⟨(a2E (p:=(Value.pointer (some ⟨m,8,none⟩))) rfl (z _ b.lt1 (Inv.E1 (Fi:=[bx g0 78 (m9 x0 d f j),e,i,k]) ((((b.bring 4).bring 4).bring 4).bring 4)))),(a2E (p:=(Value.pointer (some ⟨m,5,none⟩))) rfl (z _ b.lt1 (Inv.E1 (Fi:=[bx g0 78 (m9 x0 d f j),e,i,k]) ((((b.bring 4).bring 4).bring 4).bring 4)))),?_⟩
  refine V4 [bx g0 78 (m9 x0 d f j),e,i,k] (fun aa:Int=>(vi aa)) h ((((n.bring 3).bring 3).bring 3).bring 3) (fun a h=>by simp only [j8 a];exact V9 Tryz.call45 (h g0 d e f i j k ap aq ar) ((((n.bring 3).bring 3).bring 3).bring 3)) fun aa ba bo ab ai aj h=>?_
  refine ⟨(a2E (p:=(Value.pointer (some ⟨m,5,none⟩))) rfl (ai _ (n.bring 4).lt1 (Inv.E1 (Fi:=[bx g0 78 (m9 x0 d f j),e,i,k]) (((((n.bring 4).bring 4).bring 4).bring 4).bring 4)))),?_⟩
  refine V4 [] (fun ac:Bool=>(vB ac)) h ab (fun a h=>by simp only [j8 a];exact V9 Tryz.call44 h ab) fun ac ad bp q bc ak h=>?_
  refine d6 (Pu.g fun a=>by simp only [j8 a];with_reducible exact (O4 _)) ?_
  refine d6 (E0 _ _) ?_
  refine u5 h (fun _ h=>?_) (fun _ h=>?_)
  ·obtain ⟨bq,br,bd,al,h⟩:=h
   obtain ⟨ci,cj,bs,al⟩:=al
   refine b6 (a8t bs _ _ _ _ bq br) (d4 (ld1 (v:=(vi bd)) Tryz.isAgg3 (q.atH al)) ?_)
   exact hR _ ad _ _ (((((q.bring 4).drop.bring 3).bring 3).bring 3).bring 3) ⟨bd,true,rfl,rfl,h⟩
  ·refine b6 (a8t aw _ _ _ _ au av) (d4 (ld1 (v:=(vi af)) Tryz.isAgg3 (q.atH (r.le (Hle.trans ah (Hle.trans aj ak))))) ?_)
   exact hR _ ad _ _ (((((q.bring 4).drop.bring 3).bring 3).bring 3).bring 3) ⟨af,true,rfl,rfl,h⟩
def a4y(x0:b9)(a:(List Int))(b:(List (List Int)))(c:(List d5))(x1:b7)(H:Hp)(K:Int→b9→(List Int)→(List (List Int))→(List d5)→Hp→Prop):Prop:=
 r9 (o4 x0) a b c x1.fA H (fun d e=>
 (0:Int)≤x1.D8∧∃f:Int,(a)[(x1.D8:Int).toNat]? = some f∧
 K 0 (o4 x0) (a.set (x1.D8:Int).toNat d) b c e)
theorem a9h(x0 c d e x1){H K}(h:a4y x0 c d e x1 H K):W5 x0 c d e x1 H K:=by
 intro g0 f m g i j k b n p
 refine Ct.of fun w0 w ps0 H0 R E I hR=>d0h ?_
 refine z7 I (cs:=(d7 x1)) rfl fun ac ad u ae=>?_
 refine C6 u fun af a=>?_
 refine d6 (m7 _) ?_
 refine d6 a0h ?_
 refine d6 U8 ?_
 refine d6 M3 ?_
 refine i8 (l1 Tryz.isAgg26 (a.bring 1) rfl) ?_
 refine i8 (l1 Tryz.isAgg3 a rfl) ?_
 refine i8 (ldA Tryz.isAgg47 Tryz.sizeOf47 rfl (a.at1 (o:=6) (vs:=(m4 x1.fA)) (nb rfl) rfl)) ?_
 refine f9 Tryz.call45 (h g0 f m g i j k b n p) ((((a.bring 4).bring 4).bring 4).bring 4) ?_
 rintro _ v _ ag q _ y ⟨r,rfl,rfl,h⟩
 refine ⟨(y _ a.lt1 (Inv.E1 (Fi:=[bx g0 78 (m9 x0 f g j),m,i,k]) ((((a.bring 4).bring 4).bring 4).bring 4))),((q.bring 0).hp1.trans (a.bring 1).hp1.symm),?_⟩
 obtain ⟨s,ah,l,h⟩:=h
 obtain ⟨ai,aj,t,ak⟩:=b.addr l
 refine d6 (E3 t _ _ _ _ s (b.lt s l)) ?_
 refine a1p (x:=r) (q.bring 1) b t (List.getElem?_eq_some_iff.1 l).1 Tryz.sizeOf2 rfl fun z al aa ab am=>?_
 exact hR _ v _ _ (((((ab.bring 4).drop.bring 3).bring 3).bring 2).bring 3) ⟨0,(o4 x0),(c.set (x1.D8:Int).toNat r),d,e,f,z,g,i,j,k,rfl,rfl,aa,n,p,h⟩
def N8(a4J:Int)(r7:l9)(u9:Sl)(u7:Int)(B9:(List Int))(a2l:(List (List Int)))(D2:Sl)(a2m:(List d5))(a:b7)(H:Hp)(K:Int→b9→(List Int)→(List (List Int))→(List d5)→Hp→Prop):Prop:=
 K a4J (b9.mk r7 u9 u7 (Sl.mk none 0 0) (Sl.mk none 0 0) D2 (Sl.mk none 0 0)) B9 a2l a2m H
def Y0(x0:b9)(a:(List Int))(b:(List (List Int)))(c:(List d5))(x1:b7)(H:Hp)(K:Int→b9→(List Int)→(List (List Int))→(List d5)→Hp→Prop):Prop:=
 r9 (o4 x0) a b c x1.fA H (fun f g=>
 r9 (o4 x0) a b c x1.fB g (fun i j=>
 a3W f i j (fun k d e=>
 (d=0→
 (0:Int)≤x1.D8∧∃l:Int,(a)[(x1.D8:Int).toNat]? = some l∧
 N8 d x0.fc x0.ffrom x0.fpoint (a.set (x1.D8:Int).toNat k) b x0.fscript c x1 e K)∧
 (¬(d=0)→
 N8 d x0.fc x0.ffrom x0.fpoint a b x0.fscript c x1 e K))))
theorem a3d(x0 i j k x1){H K}(h:Y0 x0 i j k x1 H K):X2 x0 i j k x1 H K:=by
 intro g0 a l c d e f b n p
 refine Ct.of fun w0 w ps0 H0 R E I hR=>b1G ?_
 refine z7 I (cs:=(d7 x1)) rfl fun z ah aa ai=>?_
 refine C6 aa fun aj g=>?_
 refine d6 M3 ?_
 refine d6 Q6 ?_
 refine i8 (ldA Tryz.isAgg47 Tryz.sizeOf47 rfl (g.at1 (o:=6) (vs:=(m4 x1.fA)) (nb rfl) rfl)) ?_
 refine i8 (ldA Tryz.isAgg47 Tryz.sizeOf47 rfl (g.at1 (o:=8) (vs:=(m4 x1.fB)) (nb rfl) rfl)) ?_
 refine f9 Tryz.call45 (h g0 a l c d e f b n p) ((((g.bring 4).bring 4).bring 4).bring 4) ?_
 rintro _ _ _ ak ab _ ac ⟨al,rfl,rfl,h⟩
 refine ⟨(ac _ g.lt1 (Inv.E1 (Fi:=[bx g0 78 (m9 x0 a c e),l,d,f]) ((((g.bring 4).bring 4).bring 4).bring 4))),?_⟩
 refine f9 Tryz.call45 (h g0 a l c d e f b n p) ((((ab.bring 3).bring 3).bring 3).bring 3) ?_
 rintro _ _ _ am ad _ _ ⟨an,rfl,rfl,h⟩
 refine f9 Tryz.call71 h ad ?_
 rintro _ t _ ao u _ _ ⟨q,m,rfl,rfl,h⟩
 refine d6 (i5 _ _ (vi q) rfl) ?_
 refine d6 (i5 _ _ (vi m) rfl) ?_
 have hj1:∀(r7:l9)(u9:Sl)(u7:Int)(B9:(List Int))(D2:Sl)(E6:Frag) H w (_:RowL 2 1 i6 a B9 E6) (_:Inv w0 ps0 H0 H [bx g0 78 [(vs r7.o9),(vi r7.t8),(vs r7.m8),(vi r7.o7),(vi r7.B6),(vs r7.B5),(vs u9),(vi u7),(vs a),(vs c),(vs D2),(vs e)],bx z 49 (d7 x1),d,f,E6] w) (_:N8 m r7 u9 u7 B9 j D2 k x1 H K),b0j (vi m) w R E:=by
  intro r7 u9 u7 B9 D2 E6 H w a2o I h
  intro _
  exact hR _ H _ _ (((((I.bring 1).drop.bring 2).bring 2).bring 3).bring 3) ⟨m,(b9.mk r7 u9 u7 (Sl.mk none 0 0) (Sl.mk none 0 0) D2 (Sl.mk none 0 0)),B9,j,k,a,E6,c,d,e,f,rfl,rfl,a2o,n,p,h⟩
 refine v6 fun j1 hx1=>?_
 refine b6 pEq ?_
 refine g7 h (fun _ h=>?_) (fun _ h=>?_)
 ·refine C6 u fun ap r=>?_
  refine d6 (m7 _) ?_
  refine d6 a0h ?_
  refine d6 U8 ?_
  refine i8 (l1 Tryz.isAgg26 r rfl) ?_
  refine i8 (l1 Tryz.isAgg3 (r.bring 4) rfl) ?_
  obtain ⟨v,aq,s,h⟩:=h
  obtain ⟨ar,au,y,av⟩:=b.addr s
  refine d6 (E3 y _ _ _ _ v (b.lt v s)) ?_
  refine a1p (x:=q) (r.bring 1) b y (List.getElem?_eq_some_iff.1 s).1 Tryz.sizeOf2 rfl fun ae aw af ag ax=>?_
  exact hx1 _ _ (hj1 x0.fc x0.ffrom x0.fpoint (i.set (x1.D8:Int).toNat q) x0.fscript ae t _ af ((((ag.bring 3).bring 3).bring 4).bring 4) h)
 ·exact hx1 _ _ (hj1 x0.fc x0.ffrom x0.fpoint i x0.fscript l t _ b (((((u.bring 1).bring 3).bring 3).bring 4).bring 4) h)
def a3O(x0:b9)(a:(List Int))(b:(List (List Int)))(c:(List d5))(x1:b7)(H:Hp)(K:Int→b9→(List Int)→(List (List Int))→(List d5)→Hp→Prop):Prop:=
 X4 (o4 x0) a b c x1 H (fun(d:Int)(e:b9)(f:(List Int))(g:(List (List Int)))(i:(List d5))(j:Hp)=>
 K d (o4 e) f g i j)
theorem a8M(x0 a b c x1){H K}(h:a3O x0 a b c x1 H K):V7 x0 a b c x1 H K:=by
 intro g0 e f g i j k l m n
 refine Ct.of fun w0 w ps0 H0 R E I hR=>d0m ?_
 refine z7 I (cs:=(d7 x1)) rfl fun ag ah d ai=>?_
 refine d4 (lW Tryz.isAgg49 Tryz.sizeOf49 rfl d) ?_
 refine f9 Tryz.call67 (h g0 e f g i j k l m n) ((((d.bring 4).bring 4).bring 4).bring 4) ?_
 rintro _ o _ aj p _ _ ⟨q,r,s,t,u,v,y,z,aa,ab,ac,rfl,rfl,ad,ae,af,h⟩
 exact hR _ o _ _ (((((p.bring 4).drop.bring 3).bring 3).bring 3).bring 3) ⟨q,(o4 r),s,t,u,v,y,z,aa,ab,ac,rfl,rfl,ad,ae,af,h⟩
def a4z(x0:b9)(d:(List Int))(b:(List (List Int)))(e:(List d5))(x1:b7)(H:Hp)(K:Int→b9→(List Int)→(List (List Int))→(List d5)→Hp→Prop):Prop:=
 (0:Int)≤x1.P9∧∃c:List Int,(b)[(x1.P9:Int).toNat]? = some c∧
 r9 (o4 x0) d b e x1.fA H (fun a f=>
 (((decide (a < 0))||(decide ((c.length:Int)≤a)))=true→
 K 3 (o4 x0) d b e f)∧
 (((decide (a < 0))||(decide ((c.length:Int)≤a)))=false→
 (0:Int)≤a∧∃g:Int,(c)[(a:Int).toNat]? = some g∧
 r9 (o4 x0) d b e x1.fB f (fun i j=>
 K 0 (o4 x0) d (b.set (x1.P9:Int).toNat (c.set (a:Int).toNat i)) e j)))
theorem a9i(x0 p q r x1){H K}(h:a4z x0 p q r x1 H K):W6 x0 p q r x1 H K:=by
 intro g0 i j k al l m s af t
 refine Ct.of fun w0 w ps0 H0 R E I hR=>d0q ?_
 refine z7 I (cs:=(d7 x1)) rfl fun ba bb ag bc=>?_
 refine d4 (lW Tryz.isAgg49 Tryz.sizeOf49 rfl ag) ?_
 refine q9 (cap:=[]) (fun args w=>Tryz.call75 args w) ?_
 refine c3s ?_
 refine z7 ag (cs:=(d7 x1)) rfl fun bd be am bf=>?_
 refine C6 am fun bg u=>?_
 refine d6 M3 ?_
 refine d6 (m7 _) ?_
 refine d6 a7l ?_
 refine d6 a5S ?_
 refine i8 (ldA Tryz.isAgg47 Tryz.sizeOf47 rfl (u.at1 (o:=6) (vs:=(m4 x1.fA)) (nb rfl) rfl)) ?_
 refine i8 (l1 Tryz.isAgg30 (u.bring 2) rfl) ?_
 refine i8 (l1 Tryz.isAgg3 u rfl) ?_
 obtain ⟨ah,an,aa,h⟩:=h
 obtain ⟨bh,ao,y,ab,z,c,d,b,ac,ap,f⟩:=RowsL.open_ af (u.bring 4) aa
 obtain ⟨bi,bj,ad,bk⟩:=c.addr d
 refine d6 (b2o ad _ _ _ _ ah (c.lt ah d)) ?_
 refine i8 (ld1 (v:=(vs ao)) Tryz.isAgg26 (c.atW f ad d)) ?_
 refine f9 Tryz.call45 (h g0 i j k (y++(ab++z)) l m s (RowsL.same (RowsL.b5J c d b ac) aa) t) (((((((f.bring 2).bring 2).bring 2).a3e.bring 5).bring 1).bring 5).bring 5) ?_
 rintro _ aq _ bl n _ ar ⟨au,rfl,rfl,h⟩
 refine ⟨(RowL.keepF c ad f (n.bring 2).a6Y),(ar _ ((((f.bring 2).bring 2).bring 2).a3e.bring 1).lt1 (Inv.E1 (Fi:=[bx g0 78 (m9 x0 i k l),j,(y++(ab++z)),m]) ((((((((f.bring 2).bring 2).bring 2).a3e.bring 1).bring 5).bring 2).bring 5).bring 5))),((n.bring 0).hp1.trans ((((f.bring 2).bring 2).bring 2).a3e.bring 3).hp1.symm),?_⟩
 refine b6 pLs ?_
 simp only [J0]
 refine b6 (Pu.g fun a=>by simp only [j8 a];with_reducible exact (a3S Tryz.underlying26 b)) ?_
 refine b6 (Pu.g fun a=>by simp only [j8 a];with_reducible exact pGe) ?_
 refine b6 (M2 _ _) ?_
 refine u5 h (fun _ h=>?_) (fun _ h=>?_)
 ·refine b6 (b5P _ _) ?_
  refine N9 (fun e=>?_) (fun e=>by cases e)
  exact hR _ aq _ _ (((((((((((n.bring 2).a6Y.bring 2).bring 2).bring 2).a3e.permF ap).bring 4).drop.bring 4).drop.bring 3).bring 1).bring 3).bring 3) ⟨3,(o4 x0),p,q,r,i,j,k,al,l,m,rfl,rfl,s,af,t,h⟩
 ·obtain ⟨ai,bm,ae,h⟩:=h
  obtain ⟨bn,bo,aj,bp⟩:=b.addr ae
  refine b6 (E3 aj _ _ _ _ ai (b.lt ai ae)) (b6 (b5Q _ _ _) ?_)
  refine N9 (fun e=>by cases e) (fun e=>?_)
  refine b6 Q6 (d4 (ldA Tryz.isAgg47 Tryz.sizeOf47 rfl (((n.bring 2).a6Y.bring 7).at1 (o:=8) (vs:=(m4 x1.fB)) (nb rfl) rfl)) ?_)
  refine f9 Tryz.call45 (h g0 i j k (y++(ab++z)) l m s (RowsL.same (RowsL.b5J c d b ac) aa) t) ((((((((n.bring 2).a6Y.bring 2).bring 2).bring 2).a3e.bring 3).bring 1).bring 3).bring 3) ?_
  rintro _ av _ bq aw _ _ ⟨ak,rfl,rfl,h⟩
  refine b6 (m7 _) ?_
  refine a1p (x:=ak) ((aw.bring 2).a6Y.bring 1) b aj (List.getElem?_eq_some_iff.1 ae).1 Tryz.sizeOf2 rfl fun ax br ay az bs=>?_
  exact hR _ av _ _ (((((((((az.bring 2).bring 1).bring 2).a3e.bring 4).drop.bring 4).drop.bring 3).bring 1).bring 3).bring 3) ⟨0,(o4 x0),p,(q.set (x1.P9:Int).toNat (an.set (au:Int).toNat ak)),r,i,j,k,(y++(ax++z)),l,m,rfl,rfl,s,(RowsL.b5J c d ay ac),t,h⟩
def a5b(x0:b9)(b:(List Int))(c:(List (List Int)))(a:(List d5))(x1:b7)(H:Hp)(K:Int→b9→(List Int)→(List (List Int))→(List d5)→Hp→Prop):Prop:=
 (a.length+([(d5.mk false 0 false)]:List d5).length)*25≤140737488355328∧
 K 4 (o4 x0) b c (a++[(d5.mk false 0 false)]) H
theorem a9Q(x0 b d a x1){H K}(h:a5b x0 b d a x1 H K):Z6 x0 b d a x1 H K:=by
 intro g0 i j k l m aa n o p
 refine Ct.of fun w0 w ps0 H0 R E I hR=>d0s ?_
 refine z7 I (cs:=(d7 x1)) rfl fun ab ac f ad=>?_
 refine b6 (m7 _) (b6 a3V (d4 (l1 Tryz.isAgg29 (f.bring 1) rfl) (b6 (c2M) ?_)))
 refine Y1 (e:=87) (c:=m6) (xs:=[(d5.mk false 0 false)]) f (b1C _ _ _) rfl rfl Y5 Y6 (nb rfl) fun ae af ag q g ah=>?_
 obtain ⟨r,h⟩:=h
 refine b3C (s:=m) (xs:=a) (g.bring 5) p (q.srcO ((g.bring 5).bring 1)) r fun t u ai v y aj=>?_
 refine b6 (m7 _) (b6 a3V ?_)
 refine K2 ((y.bring 1).drop.bring 2) Tryz.sizeOf29 fun ak z al=>?_
 exact hR _ H _ _ (((((z.bring 2).drop.bring 1).bring 3).bring 3).bring 3) ⟨4,(o4 x0),b,d,(a++[(d5.mk false 0 false)]),i,j,k,l,t,u,rfl,rfl,n,o,v,h⟩
def a5A(x0:l7)(x1:Int)(H:Hp)(K:Bool→Hp→Prop):Prop:=
 K ((decide (0≤x1))&&(decide (x1 < (x0.y8.m8.n:Int)))) H
theorem b0M(x0 x1){H K}(h:a5A x0 x1 H K):a2j x0 x1 H K:=by
 refine Ct.of fun w0 w ps0 H0 R E I hR=>d0P ?_
 refine z7 I (cs:=(s7 x0.y8)) rfl fun c d b e=>?_
 refine b6 pGe ?_
 simp only [J0]
 refine b6 (Pu.g fun a=>by with_reducible exact a6E) ?_
 refine b6 (Pu.g fun a=>by simp only [j8 a];with_reducible exact a9x) ?_
 refine d4 (Ld.g fun a=>by simp only [j8 a];exact (l1 Tryz.isAgg22 b rfl)) ?_
 refine b6 (Pu.g fun a=>by simp only [j8 a];with_reducible exact (a1U _ _ _)) ?_
 refine b6 (Pu.g fun a=>by simp only [j8 a];with_reducible exact pLs) ?_
 refine b6 (E0 _ _) ?_
 exact hR _ H _ _ b.drop ⟨_,rfl,rfl,h⟩
def b2T(H:Hp)(K:o3→Hp→Prop):Prop:=
 K (o3.mk (-1) 0) H
theorem b2U{H K}(h:b2T H K):Q7 H K:=by
 refine Ct.of fun w0 w ps0 H0 R E I hR=>d0R ?_
 refine s6 I Tryz.zeroValue47 (cs:=[(vi 0),(vi 0)]) rfl fun c d b e=>?_
 refine b6 (a8o _) ?_
 refine A5 b Tryz.sizeOf47 (vs:=[(vi (-1)),(vi 0)]) fun f a g=>?_
 refine Q4 Tryz.isAgg47 Tryz.sizeOf47 rfl a ?_
 exact hR _ H _ _ a.drop ⟨_,rfl,rfl,h⟩
def a3B(a:l7)(b:l9)(H:Hp)(K:Int→Hp→Prop):Prop:=
 K 0 H
def a7e(d1I:Sl)(c6G:Int)(d:l7)(e:l9)(a5B:Int)(H:Hp)(n4:Int→Hp→Prop)(K:Int→Hp→Prop):Prop:=
 (a5B < c6G→
 (0:Int)≤a5B∧(a5B:Int) < d1I.n∧∃a:Sl,EltH H d1I a5B 1 [(vs a)]∧
 a6v a H (fun b c=>
 ((!b)=true→
 K 92 c)∧
 ((!b)=false→
 n4 (IntKind.wrap .i64 (a5B+1)) c)))∧
 (¬(a5B < c6G)→
 a3B d e H K)
def a3C(a7B:(List (List b7)))(e:l7)(d:l9)(H:Hp)(K:Int→Hp→Prop):Prop:=
 ∀(a:Sl)(b:Hp),Hle H b→SlHH b 10 d7 a a7B→a.n≤a.c→
 TL (0:Int) b fun(s:Int) H n4=>a7e a d.o7 e d s H n4 K
def a3D(c6H:Sl)(c6I:Int)(c:l7)(f:l9)(a5d:(List (List b7)))(a3p:Int)(H:Hp)(n5:((List (List b7))×Int)→Hp→Prop)(K:Int→Hp→Prop):Prop:=
 (a3p < c6I→
 (0:Int)≤a3p∧(a3p:Int) < c6H.n∧∃a:b7,EltH H c6H a3p 10 (d7 a)∧
 a2k c a H (fun d e=>
 ((!d)=true→
 K 92 e)∧
 ((!d)=false→
 (0:Int)≤a.B3∧∃b:List b7,(a5d)[(a.B3:Int).toNat]? = some b∧
 (b.length+([a]:List b7).length)*81≤140737488355328∧
 n5 ((a5d.set (a.B3:Int).toNat (b++[a])),(IntKind.wrap .i64 (a3p+1))) e)))∧
 (¬(a3p < c6I)→
 a3C a5d c f H K)
def a3E(a:l9)(H:Hp)(K:Int→Hp→Prop):Prop:=
 T8 (l7.mk a) a.B6 H (fun b c=>
 ((!b)=true→
 K 92 c)∧
 ((!b)=false→
 (0:Int)≤a.o7∧a.o7*25≤140737488355328∧
 TL (((List.replicate (a.o7:Int).toNat ([]:List b7)),0):(List (List b7))×Int) c fun(s:(List (List b7))×Int) H n5=>a3D a.B5 (a.B5.n:Int) (l7.mk a) a s.1 s.2 H n5 K))
def a7f(c6J:Sl)(c6K:Int)(b:l9)(a7K:Int)(H:Hp)(n6:Int→Hp→Prop)(K:Int→Hp→Prop):Prop:=
 (a7K < c6K→
 (0:Int)≤a7K∧(a7K:Int) < c6J.n∧∃a:j7,EltH H c6J a7K 2 (m3 a)∧
 (((decide (a.C1 < 1))||(decide (1024 < a.C1)))=true→
 K 92 H)∧
 (((decide (a.C1 < 1))||(decide (1024 < a.C1)))=false→
 n6 (IntKind.wrap .i64 (a7K+1)) H))∧
 (¬(a7K < c6K)→
 a3E b H K)
def a8N(x0:l9)(H:Hp)(K:Int→Hp→Prop):Prop:=
 ((((decide (x0.t8 < 0))||(decide (64 < x0.t8)))||(decide (64 < (IntKind.wrap .i64 ((x0.o9.n:Int)+x0.t8)))))=true→
 K 90 H)∧
 ((((decide (x0.t8 < 0))||(decide (64 < x0.t8)))||(decide (64 < (IntKind.wrap .i64 ((x0.o9.n:Int)+x0.t8)))))=false→
 ((((decide (x0.o7 < 1))||(decide (4096 < x0.o7)))||(decide (8192 < (x0.B5.n:Int))))=true→
 K 91 H)∧
 ((((decide (x0.o7 < 1))||(decide (4096 < x0.o7)))||(decide (8192 < (x0.B5.n:Int))))=false→
 (16 < (x0.m8.n:Int)→
 K 92 H)∧
 (¬(16 < (x0.m8.n:Int))→
 TL (0:Int) H fun(s:Int) H n6=>a7f x0.m8 (x0.m8.n:Int) x0 s H n6 K)))
theorem b3N(x0){H K}(h:a8N x0 H K):a5j x0 H K:=by
 refine Ct.of fun w0 w ps0 H0 R E I hR=>c9N ?_
 refine z7 I (cs:=(s7 x0)) rfl fun i co f cp=>?_
 refine b6 a2F (d4 (l1 Tryz.isAgg3 f rfl) (b6 pLs ?_))
 refine b6 (Pu.g fun d=>by with_reducible exact a2F) ?_
 refine d4 (Ld.g fun d=>by simp only [j8 d];exact (l1 Tryz.isAgg3 f rfl)) ?_
 refine b6 (Pu.g fun d=>by simp only [j8 d];with_reducible exact pGt) ?_
 refine b6 (M2 _ _) ?_
 refine b6 (Pu.g fun d=>by with_reducible exact a3U) ?_
 refine d4 (Ld.g fun d=>by simp only [j8 d];exact (l1 Tryz.isAgg36 f rfl)) ?_
 refine b6 (Pu.g fun d=>by simp only [j8 d];with_reducible exact (a2G _ _ _)) ?_
 refine b6 (Pu.g fun d=>by with_reducible exact a2F) ?_
 refine d4 (Ld.g fun d=>by simp only [j8 d];exact (l1 Tryz.isAgg3 f rfl)) ?_
 refine b6 (Pu.g fun d=>by simp only [j8 d];with_reducible exact pAd) ?_
 refine b6 (Pu.g fun d=>by simp only [j8 d];with_reducible exact pGt) ?_
 refine b6 (M2 _ _) ?_
 refine u5 h (fun _ h=>?_) (fun _ h=>?_)
 ·exact hR _ H _ _ f.drop ⟨90,rfl,rfl,h⟩
 ·refine b6 a0Z (d4 (l1 Tryz.isAgg3 f rfl) (b6 pLs ?_))
  refine b6 (Pu.g fun d=>by with_reducible exact a0Z) ?_
  refine d4 (Ld.g fun d=>by simp only [j8 d];exact (l1 Tryz.isAgg3 f rfl)) ?_
  refine b6 (Pu.g fun d=>by simp only [j8 d];with_reducible exact pGt) ?_
  refine b6 (M2 _ _) ?_
  refine b6 (Pu.g fun d=>by with_reducible exact a1I) ?_
  refine d4 (Ld.g fun d=>by simp only [j8 d];exact (l1 Tryz.isAgg37 f rfl)) ?_
  refine b6 (Pu.g fun d=>by simp only [j8 d];with_reducible exact (b1d _ _ _)) ?_
  refine b6 (Pu.g fun d=>by simp only [j8 d];with_reducible exact pGt) ?_
  refine b6 (M2 _ _) ?_
  refine u5 h (fun _ h=>?_) (fun _ h=>?_)
  ·exact hR _ H _ _ f.drop ⟨91,rfl,rfl,h⟩
  ·refine b6 a9x (d4 (l1 Tryz.isAgg22 f rfl) (b6 (a1U _ _ _) (b6 pGt ?_)))
   refine g7 h (fun _ h=>?_) (fun _ h=>?_)
   ·exact hR _ H _ _ f.drop ⟨92,rfl,rfl,h⟩
   ·have hj1:∀H w (_:Inv w0 ps0 H0 H [bx i 39 (s7 x0)] w) (_:a3E x0 H K),c2Y (Value.pointer (some ⟨i,0,none⟩)) w R E:=by
     intro H w I h
     intro _
     refine d4 (lW Tryz.isAgg39 Tryz.sizeOf39 rfl I) (b6 (b8A _ _ _ _ _ _ _ _ _ _ _ _) ?_)
     refine s6 I Tryz.zeroValue107 (cs:=[(nS),(vi 0),(nS),(vi 0),(vi 0),(nS)]) rfl fun t cq ay cr=>?_
     refine A5 ay Tryz.sizeOf107 (vs:=(s7 x0)) fun ct aa cu=>?_
     refine d4 (lW Tryz.isAgg107 Tryz.sizeOf107 rfl aa) (b6 a5P (d4 (l1 Tryz.isAgg3 (aa.bring 1) rfl) ?_))
     refine f9 Tryz.call28 h aa ?_
     rintro _ al _ cv ab _ _ ⟨cw,rfl,rfl,h⟩
     refine b6 (O4 _) ?_
     refine u5 h (fun _ h=>?_) (fun _ h=>?_)
     ·exact hR _ al _ _ ab.drop.drop ⟨92,rfl,rfl,h⟩
     ·refine b6 a0Z (d4 (l1 Tryz.isAgg3 (ab.bring 1) rfl) ?_)
      obtain ⟨az,ba,h⟩:=h
      refine c7l ab az ba fun u bb cx bc am cy=>?_
      have hj2:∀(a7B:(List (List b7)))(Fs6j2:Frag)(H:Hp)(w:World)(_:RowsL 37 49 10 d7 u a7B Fs6j2)(_:Inv w0 ps0 H0 H [bx t 107 [(Value.slice (l7.mk x0).y8.o9.a (l7.mk x0).y8.o9.n (l7.mk x0).y8.o9.c),(vi (l7.mk x0).y8.t8),(Value.slice (l7.mk x0).y8.m8.a (l7.mk x0).y8.m8.n (l7.mk x0).y8.m8.c),(vi (l7.mk x0).y8.o7),(vi (l7.mk x0).y8.B6),(Value.slice (l7.mk x0).y8.B5.a (l7.mk x0).y8.B5.n (l7.mk x0).y8.B5.c)],bx i 39 (s7 x0),Fs6j2] w)(_:a3C a7B (l7.mk x0) x0 H K),c2X (Value.pointer (some ⟨i,0,none⟩)) (vs u) w R E:=by
       intro a7B Fs6j2 H w c1G I h
       intro _
       have hj3:∀H w (_:Inv w0 ps0 H0 H [bx t 107 [(Value.slice (l7.mk x0).y8.o9.a (l7.mk x0).y8.o9.n (l7.mk x0).y8.o9.c),(vi (l7.mk x0).y8.t8),(Value.slice (l7.mk x0).y8.m8.a (l7.mk x0).y8.m8.n (l7.mk x0).y8.m8.c),(vi (l7.mk x0).y8.o7),(vi (l7.mk x0).y8.B6),(Value.slice (l7.mk x0).y8.B5.a (l7.mk x0).y8.B5.n (l7.mk x0).y8.B5.c)],bx i 39 (s7 x0)] w) (_:a3B (l7.mk x0) x0 H K),c2W w R E:=by
        intro H w I h
        intro _
        exact hR _ H _ _ I.drop.drop ⟨0,rfl,rfl,h⟩
       refine v6 fun j3 hx3=>?_
       refine b6 a0Z (d4 (l1 Tryz.isAgg3 (I.bring 1) rfl) ?_)
       obtain ⟨bd,be,bf,bg,bh⟩:=Inv.freezeLL (I.bring 2) c1G (by decide)
       replace h:=h u bd bf bg bh
       refine a2P (σ:=Int) (fun a5B=>[(vi a5B)]) (fun a5B=>[bx t 107 [(Value.slice (l7.mk x0).y8.o9.a (l7.mk x0).y8.o9.n (l7.mk x0).y8.o9.c),(vi (l7.mk x0).y8.t8),(Value.slice (l7.mk x0).y8.m8.a (l7.mk x0).y8.m8.n (l7.mk x0).y8.m8.c),(vi (l7.mk x0).y8.o7),(vi (l7.mk x0).y8.B6),(Value.slice (l7.mk x0).y8.B5.a (l7.mk x0).y8.B5.n (l7.mk x0).y8.B5.c)],bx i 39 (s7 x0)]) h rfl ((be.bring 1).bring 1) ?_
       rintro a5B H cz w next4 n4 an I h hn4
       simp only [List.map_cons,List.map_nil,List.cons.injEq,and_true] at an
       have e100:=an
       simp only [e100]
       refine b6 pLs ?_
       refine g7 h (fun _ h=>?_) (fun _ h=>?_)
       ·obtain ⟨bi,bj,bk,ac,h⟩:=h
        obtain ⟨da,db,bl,ac⟩:=ac
        refine b6 (b3F bl _ _ _ _ bi bj) (d4 (ld1 (v:=(vs bk)) Tryz.isAgg37 (I.atH ac)) ?_)
        refine f9 Tryz.call30 h I ?_
        rintro _ bm _ dc ao _ _ ⟨dd,rfl,rfl,h⟩
        refine b6 (O4 _) ?_
        refine u5 h (fun _ h=>?_) (fun _ h=>?_)
        ·exact hR _ bm _ _ ao.drop.drop ⟨92,rfl,rfl,h⟩
        ·refine b6 pAd ?_
         exact hn4 (IntKind.wrap .i64 (a5B+1)) _ _ h ((ao.bring 1).bring 1)
       ·exact hx3 _ _ (hj3 H _ ((I.bring 1).bring 1) h)
      refine v6 fun j2 hx2=>?_
      refine b6 a1I (d4 (l1 Tryz.isAgg37 (am.bring 2) rfl) (b6 (b1d _ _ _) ?_))
      obtain ⟨ad,q,bn,bo⟩:=h
      refine K7 (J:=fun n l w=>∃(s:(List (List b7))×Int)(H:Hp)(Fs6l5:Frag),n=q s∧l=(match s with | (a5d,a3p)=>[(vi a3p)])∧(match s with | (a5d,a3p)=>RowsL 37 49 10 d7 u a5d Fs6l5)∧(match s with | (a5d,a3p)=>Inv w0 ps0 H0 H [bx t 107 [(Value.slice (l7.mk x0).y8.o9.a (l7.mk x0).y8.o9.n (l7.mk x0).y8.o9.c),(vi (l7.mk x0).y8.t8),(Value.slice (l7.mk x0).y8.m8.a (l7.mk x0).y8.m8.n (l7.mk x0).y8.m8.c),(vi (l7.mk x0).y8.o7),(vi (l7.mk x0).y8.B6),(Value.slice (l7.mk x0).y8.B5.a (l7.mk x0).y8.B5.n (l7.mk x0).y8.B5.c)],bx i 39 (s7 x0),Fs6l5] w)∧ad s H) ⟨_,((List.replicate (x0.o7:Int).toNat ([]:List b7)),0),al,bb,rfl,rfl,(RowsL.made (e:=49) a2A a2B bc),((am.bring 2).bring 2),bn⟩ ?_
      rintro de df w next5 ⟨⟨a5d,a3p⟩,H,Fs6l5,rfl,ae,c1M,I,bp⟩ hn5
      dsimp only at ae I c1M
      simp only [List.map_cons,List.map_nil,List.cons.injEq,and_true] at ae
      have e77:=ae
      simp only [e77]
      obtain ⟨n5,hm5,h⟩:∃n5:((List (List b7))×Int)→Hp→Prop,(∀s' H',n5 s' H'→ad s' H'∧q s' < q (a5d,a3p))∧a3D x0.B5 (x0.B5.n:Int) (l7.mk x0) x0 a5d a3p H n5 K:=⟨_,fun _ _ h=>h,bo (a5d,a3p) H (fun s' H'=>ad s' H'∧q s' < q (a5d,a3p)) bp (fun _ _ a b=>⟨a,b⟩)⟩
      refine b6 pLs ?_
      refine g7 h (fun _ h=>?_) (fun _ h=>?_)
      ·obtain ⟨bq,br,r,af,h⟩:=h
       obtain ⟨dg,dh,bs,af⟩:=af
       refine b6 (a5h bs _ _ _ _ bq br) (d4 (ldA (vs:=(d7 r)) Tryz.isAgg49 Tryz.sizeOf49 rfl (I.atH af)) ?_)
       refine s6 I Tryz.zeroValue49 (cs:=[(vi 0),(vi 0),(vi 0),(vi 0),(vi 0),(vi 0),(vi 0),(vi 0),(vi 0),(vi 0)]) rfl fun di dj bt dk=>?_
       refine A5 bt Tryz.sizeOf49 (vs:=(d7 r)) fun dl ag dm=>?_
       refine d4 (ldA Tryz.isAgg107 Tryz.sizeOf107 rfl ((ag.bring 1).at1 (o:=0) (vs:=[(Value.slice (l7.mk x0).y8.o9.a (l7.mk x0).y8.o9.n (l7.mk x0).y8.o9.c),(vi (l7.mk x0).y8.t8),(Value.slice (l7.mk x0).y8.m8.a (l7.mk x0).y8.m8.n (l7.mk x0).y8.m8.c),(vi (l7.mk x0).y8.o7),(vi (l7.mk x0).y8.B6),(Value.slice (l7.mk x0).y8.B5.a (l7.mk x0).y8.B5.n (l7.mk x0).y8.B5.c)]) (nb rfl) rfl)) (d4 (lW Tryz.isAgg49 Tryz.sizeOf49 rfl ag) ?_)
       refine f9 Tryz.call29 h ag ?_
       rintro _ ap _ dn aq _ _ ⟨dp,rfl,rfl,h⟩
       refine b6 (O4 _) ?_
       refine u5 h (fun _ h=>?_) (fun _ h=>?_)
       ·exact hR _ ap _ _ aq.drop.drop.drop.drop ⟨92,rfl,rfl,h⟩
       ·refine C6 aq fun dq ah=>?_
        refine d6 a1M ?_
        refine d6 a1M ?_
        refine i8 (l1 Tryz.isAgg3 ah rfl) ?_
        refine i8 (l1 Tryz.isAgg3 ah rfl) ?_
        obtain ⟨y,ar,bu,h⟩:=h
        obtain ⟨dr,au,ds,dt,bv,j,k,bw,bz,du,m⟩:=RowsL.open_ c1M (ah.bring 3) bu
        obtain ⟨dv,dw,ai,dx⟩:=j.addr k
        refine d6 (b3F ai _ _ _ _ y (j.lt y k)) ?_
        refine i8 (ld1 (v:=(vs au)) Tryz.isAgg37 (j.atW m ai k)) ?_
        refine i8 (lW Tryz.isAgg49 Tryz.sizeOf49 rfl (m.bring 3)) ?_
        refine Y1 (e:=49) (c:=d7) (xs:=[r]) m (b6K _ _ _ _ _ _ _ _ _ _) rfl rfl a2A a2B (nb rfl) fun dy dz ea ca z aj=>?_
        refine ⟨(aj _ (RowL.c2D j m ai)),(aj _ (m.bring 3).lt1),(aj _ (m.bring 3).lt1),?_⟩
        obtain ⟨cb,h⟩:=h
        refine c2P (s:=au) (xs:=ar) (z.bring 2) bw (ca.srcO ((z.bring 2).bring 1)) cb fun cc cd eb ce cf cg=>?_
        refine ⟨(cg _ ((z.bring 2).bring 4).lt1 (Inv.b8l (((z.bring 2).bring 4).bring 1))),?_⟩
        obtain ⟨ec,ed,av,ee⟩:=j.addr k
        refine d6 (b3F av _ _ _ _ y (j.lt y k)) ?_
        refine a1p (x:=cc) ((cf.bring 1).drop.bring 1) j av (List.getElem?_eq_some_iff.1 k).1 Tryz.sizeOf37 rfl fun ch ef ci cj eg=>?_
        refine b6 pAd ?_
        exact hn5 _ _ _ (hm5 _ _ h).2 ⟨((a5d.set (r.B3:Int).toNat (ar++[r])),(IntKind.wrap .i64 (a3p+1))),ap,(ch++(cd++bv)),rfl,rfl,(RowsL.b8m ci ce bz),((((((cj.bring 2).bring 2).bring 2).a3e.bring 1).drop.bring 2).bring 2),(hm5 _ _ h).1⟩
      ·exact hx2 _ _ (hj2 a5d Fs6l5 H _ c1M (((I.bring 2).bring 2).bring 2) h)
    refine v6 fun j1 hx1=>?_
    refine b6 a9x (d4 (l1 Tryz.isAgg22 f rfl) (b6 (a1U _ _ _) ?_))
    refine a2P (σ:=Int) (fun a7K=>[(vi a7K)]) (fun a7K=>[bx i 39 (s7 x0)]) h rfl f ?_
    rintro a7K H eh w next6 n6 aw I h hn6
    simp only [List.map_cons,List.map_nil,List.cons.injEq,and_true] at aw
    have e51:=aw
    simp only [e51]
    refine b6 pLs ?_
    refine g7 h (fun _ h=>?_) (fun _ h=>?_)
    ·obtain ⟨ck,cl,ax,ak,h⟩:=h
     obtain ⟨ei,ej,cm,ak⟩:=ak
     refine b6 (a2g cm _ _ _ _ ck cl) (d4 (ldA (vs:=(m3 ax)) Tryz.isAgg58 Tryz.sizeOf58 rfl (I.atH ak)) ?_)
     refine s6 I Tryz.zeroValue58 (cs:=[(eS),(vi 0)]) rfl fun ek el cn em=>?_
     refine A5 cn Tryz.sizeOf58 (vs:=(m3 ax)) fun en p eo=>?_
     refine b6 a0X (d4 (l1 Tryz.isAgg3 p rfl) (b6 pLs ?_))
     refine b6 (Pu.g fun d=>by with_reducible exact a0X) ?_
     refine d4 (Ld.g fun d=>by simp only [j8 d];exact (l1 Tryz.isAgg3 p rfl)) ?_
     refine b6 (Pu.g fun d=>by simp only [j8 d];with_reducible exact pGt) ?_
     refine b6 (M2 _ _) ?_
     refine u5 h (fun _ h=>?_) (fun _ h=>?_)
     ·exact hR _ H _ _ p.drop.drop ⟨92,rfl,rfl,h⟩
     ·refine b6 pAd ?_
      exact hn6 (IntKind.wrap .i64 (a7K+1)) _ _ h p.drop
    ·exact hx1 _ _ (hj1 H _ I h)
def a7L(x0:j7)(H:Hp)(K:d9→Hp→Prop):Prop:=
 K (d9.M5 (W3.mk x0)) H
theorem b2V(x0){H K}(h:a7L x0 H K):a7r x0 H K:=by
 refine Ct.of fun w0 w ps0 H0 R E I hR=>d1h ?_
 refine z7 I (cs:=(m3 x0)) rfl fun b c a d=>?_
 refine d4 (lW Tryz.isAgg58 Tryz.sizeOf58 rfl a) (b6 (b8E _ _) (b6 (b6M (W3.mk x0)) ?_))
 exact hR _ H _ _ a.drop ⟨_,rfl,rfl,h⟩
def H9(a0j:(List d9))(H:Hp)(K:Sl→Hp→Prop):Prop:=
 ∀(M4:Sl)(a:Hp),Hle H a→SlH a 1 v8 M4 a0j→M4.n≤M4.c→
 K M4 a
def I0(a2q:Sl)(a2p:Int)(C5:(List d9))(A9:Int)(H:Hp)(n2:((List d9)×Int)→Hp→Prop)(K:Sl→Hp→Prop):Prop:=
 (A9 < a2p→
 (0:Int)≤A9∧(A9:Int) < a2q.n∧∃a:B4,EltH H a2q A9 6 (p8 a)∧
 a7s a H (fun b c=>
 (C5.length+([b]:List d9).length)*17≤140737488355328∧
 n2 ((C5++[b]),(IntKind.wrap .i64 (A9+1))) c))∧
 (¬(A9 < a2p)→
 H9 C5 H K)
def P8(x0:Sl)(H:Hp)(K:Sl→Hp→Prop):Prop:=
 TL (([],0):(List d9)×Int) H fun(s:(List d9)×Int) H n2=>I0 x0 (x0.n:Int) s.1 s.2 H n2 K
theorem a0W(x0){H K}(h:P8 x0 H K):B7 x0 H K:=by
 refine Ct.of fun w0 w ps0 H0 R E I hR=>d1j ?_
 have hj1:∀(a0j:(List d9))(M4:Sl)(Fs5j1:Frag) H w (_:RowL 157 1 v8 M4 a0j Fs5j1) (_:Inv w0 ps0 H0 H [Fs5j1] w) (_:H9 a0j H K),c3y (vs M4) w R E:=by
  intro a0j M4 Fs5j1 H w b2C I h
  intro _
  obtain ⟨j,q,r,t,u⟩:=Inv.freezeC I b2C (by decide)
  replace h:=h M4 j r t u
  exact hR _ j _ _ q ⟨_,rfl,rfl,h⟩
 refine v6 fun j1 hx1=>?_
 refine b6 (a1i _ _ _) ?_
 obtain ⟨f,d,v,y⟩:=h
 refine K7 (J:=fun n l w=>∃(s:(List d9)×Int)(H:Hp)(a0k:Sl)(Fs5l2:Frag),n=d s∧l=(match s with | (C5,A9)=>[(vs a0k),(vi A9)])∧(match s with | (C5,A9)=>RowL 157 1 v8 a0k C5 Fs5l2)∧(match s with | (C5,A9)=>Inv w0 ps0 H0 H [Fs5l2] w)∧f s H) ⟨_,([],0),H,(Sl.mk none 0 0),[],rfl,rfl,(RowL.nil P1 S3),I.nil,v⟩ ?_
 rintro am an w next2 ⟨⟨C5,A9⟩,H,a0k,Fs5l2,rfl,g,a4e,I,z⟩ hn2
 dsimp only at g I a4e
 simp only [List.map_cons,List.map_nil,List.cons.injEq,and_true] at g
 obtain ⟨e5,e10⟩:=g
 simp only [e5,e10]
 obtain ⟨n2,hm2,h⟩:∃n2:((List d9)×Int)→Hp→Prop,(∀s' H',n2 s' H'→f s' H'∧d s' < d (C5,A9))∧I0 x0 (x0.n:Int) C5 A9 H n2 K:=⟨_,fun _ _ h=>h,y (C5,A9) H (fun s' H'=>f s' H'∧d s' < d (C5,A9)) z (fun _ _ a b=>⟨a,b⟩)⟩
 refine b6 pLs ?_
 refine g7 h (fun _ h=>?_) (fun _ h=>?_)
 ·obtain ⟨aa,ab,k,i,h⟩:=h
  obtain ⟨ao,ap,ac,i⟩:=i
  refine b6 (b2p ac _ _ _ _ aa ab) (d4 (ldA (vs:=(p8 k)) Tryz.isAgg104 Tryz.sizeOf104 rfl (I.atH i)) ?_)
  refine s6 I Tryz.zeroValue104 (cs:=[(vi 0),(eS),(nS),(nS),(nS),(nS)]) rfl fun aq ar ad au=>?_
  refine A5 ad Tryz.sizeOf104 (vs:=(p8 k)) fun av m aw=>?_
  refine d4 (lW Tryz.isAgg104 Tryz.sizeOf104 rfl m) ?_
  refine f9 Tryz.call82 h m ?_
  rintro _ ae _ ax af _ _ ⟨o,rfl,rfl,h⟩
  refine Y1 (e:=157) (c:=v8) (xs:=[o]) af (b2z _) rfl rfl P1 S3 (nb rfl) fun ay az ba ag p bb=>?_
  obtain ⟨ah,h⟩:=h
  refine b1D (s:=a0k) (xs:=C5) (p.bring 2) a4e (ag.srcO ((p.bring 2).bring 1)) ah fun ai aj bc ak al bd=>?_
  refine b6 pAd ?_
  exact hn2 _ _ _ (hm2 _ _ h).2 ⟨((C5++[o]),(IntKind.wrap .i64 (A9+1))),ae,ai,aj,rfl,rfl,ak,((al.bring 1).drop.bring 1).drop,(hm2 _ _ h).1⟩
 ·exact hx1 _ _ (hj1 C5 a0k Fs5l2 H _ a4e I h)
def E5(b4m:Bool)(a:Int)(H:Hp)(K:Int→Hp→Prop):Prop:=
 (b4m=true→
 K 3 H)∧
 (b4m=false→
 K 6 H)
def S4(b4n:Bool)(a:Int)(H:Hp)(K:Int→Hp→Prop):Prop:=
 (b4n=true→
 K 6 H)∧
 (b4n=false→
 L1 48 57 a H (fun g b=>
 (g=true→
 K 4 b)∧
 (g=false→
 (a=95→
 E5 (decide (a=95)) a b K)∧
 (¬(a=95)→
 L1 97 122 a b (fun c i=>
 (c=true→
 E5 c a i K)∧
 (c=false→
 L1 65 90 a i (fun d j=>
 (d=true→
 E5 d a j K)∧
 (d=false→
 L1 192 591 a j (fun e k=>
 (e=true→
 E5 e a k K)∧
 (e=false→
 L1 913 969 a k (fun f l=>
 (f=true→
 E5 f a l K)∧
 (f=false→
 L1 1040 1103 a l (fun m n=>
 E5 m a n K)))))))))))))
def r8(b5q:Int)(b2E:Bool)(a:Int)(H:Hp)(K:Int→Hp→Prop):Prop:=
 (b2E=true→
 K 5 H)∧
 (b2E=false→
 (b5q=215→
 S4 (decide (b5q=215)) a H K)∧
 (¬(b5q=215)→
 (b5q=247→
 S4 (decide (b5q=247)) a H K)∧
 (¬(b5q=247)→
 S4 (decide (b5q=930)) a H K)))
def S5(C0:Int)(b0N:Bool)(a:Int)(H:Hp)(K:Int→Hp→Prop):Prop:=
 (b0N=true→
 K 1 H)∧
 (b0N=false→
 (C0=10→
 K 2 H)∧
 (¬(C0=10)→
 (C0=59→
 r8 C0 (decide (C0=59)) a H K)∧
 (¬(C0=59)→
 (C0=44→
 r8 C0 (decide (C0=44)) a H K)∧
 (¬(C0=44)→
 (C0=123→
 r8 C0 (decide (C0=123)) a H K)∧
 (¬(C0=123)→
 (C0=125→
 r8 C0 (decide (C0=125)) a H K)∧
 (¬(C0=125)→
 (C0=40→
 r8 C0 (decide (C0=40)) a H K)∧
 (¬(C0=40)→
 (C0=41→
 r8 C0 (decide (C0=41)) a H K)∧
 (¬(C0=41)→
 (C0=91→
 r8 C0 (decide (C0=91)) a H K)∧
 (¬(C0=91)→
 (C0=93→
 r8 C0 (decide (C0=93)) a H K)∧
 (¬(C0=93)→
 (C0=61→
 r8 C0 (decide (C0=61)) a H K)∧
 (¬(C0=61)→
 (C0=33→
 r8 C0 (decide (C0=33)) a H K)∧
 (¬(C0=33)→
 (C0=60→
 r8 C0 (decide (C0=60)) a H K)∧
 (¬(C0=60)→
 (C0=62→
 r8 C0 (decide (C0=62)) a H K)∧
 (¬(C0=62)→
 (C0=43→
 r8 C0 (decide (C0=43)) a H K)∧
 (¬(C0=43)→
 (C0=45→
 r8 C0 (decide (C0=45)) a H K)∧
 (¬(C0=45)→
 (C0=42→
 r8 C0 (decide (C0=42)) a H K)∧
 (¬(C0=42)→
 (C0=47→
 r8 C0 (decide (C0=47)) a H K)∧
 (¬(C0=47)→
 (C0=37→
 r8 C0 (decide (C0=37)) a H K)∧
 (¬(C0=37)→
 (C0=38→
 r8 C0 (decide (C0=38)) a H K)∧
 (¬(C0=38)→
 r8 C0 (decide (C0=124)) a H K))))))))))))))))))))
def a7W(x0:Int)(H:Hp)(K:Int→Hp→Prop):Prop:=
 (x0=32→
 S5 x0 (decide (x0=32)) x0 H K)∧
 (¬(x0=32)→
 (x0=9→
 S5 x0 (decide (x0=9)) x0 H K)∧
 (¬(x0=9)→
 S5 x0 (decide (x0=13)) x0 H K))
theorem b3n(x0){H K}(h:a7W x0 H K):a2u x0 H K:=by
 refine Ct.of fun w0 w ps0 H0 R E I hR=>c7L ?_
 refine z7 I (cs:=[(Value.int .i32 x0)]) rfl fun a u b v=>?_
 refine d4 (l1 Tryz.isAgg21 b rfl) ?_
 have hj1:∀(b0N:Bool) H w (_:Inv w0 ps0 H0 H [bx a 21 [(Value.int .i32 x0)]] w) (_:S5 x0 b0N x0 H K),c0z (Value.pointer (some ⟨a,0,none⟩)) (Value.int .i32 x0) (vB b0N) w R E:=by
  intro b0N H w I h
  intro _
  refine u5 h (fun _ h=>?_) (fun _ h=>?_)
  ·exact hR _ H _ _ I.drop ⟨1,rfl,rfl,h⟩
  ·refine b6 pEq ?_
   refine g7 h (fun _ h=>?_) (fun _ h=>?_)
   ·exact hR _ H _ _ I.drop ⟨2,rfl,rfl,h⟩
   ·have hj2:∀(b2E:Bool) H w (_:Inv w0 ps0 H0 H [bx a 21 [(Value.int .i32 x0)]] w) (_:r8 x0 b2E x0 H K),c0y (Value.pointer (some ⟨a,0,none⟩)) (Value.int .i32 x0) (vB b2E) w R E:=by
     intro b2E H w I h
     intro _
     refine u5 h (fun _ h=>?_) (fun _ h=>?_)
     ·exact hR _ H _ _ I.drop ⟨5,rfl,rfl,h⟩
     ·have hj3:∀(b4n:Bool) H w (_:Inv w0 ps0 H0 H [bx a 21 [(Value.int .i32 x0)]] w) (_:S4 b4n x0 H K),c0x (Value.pointer (some ⟨a,0,none⟩)) (vB b4n) w R E:=by
       intro b4n H w I h
       intro _
       refine u5 h (fun _ h=>?_) (fun _ h=>?_)
       ·exact hR _ H _ _ I.drop ⟨6,rfl,rfl,h⟩
       ·refine b6 (a6z _ _ _) ?_
        refine a7k (cap:=[(Value.pointer (some ⟨a,0,none⟩))]) Tryz.call124 (h a) I ?_
        rintro _ d _ y c _ _ ⟨z,rfl,rfl,h⟩
        refine u5 h (fun _ h=>?_) (fun _ h=>?_)
        ·exact hR _ d _ _ c.drop ⟨4,rfl,rfl,h⟩
        ·have hj4:∀(b4m:Bool) H w (_:Inv w0 ps0 H0 H [bx a 21 [(Value.int .i32 x0)]] w) (_:E5 b4m x0 H K),c0w (vB b4m) w R E:=by
          intro b4m H w I h
          intro _
          refine u5 h (fun _ h=>?_) (fun _ h=>?_)
          ·exact hR _ H _ _ I.drop ⟨3,rfl,rfl,h⟩
          ·exact hR _ H _ _ I.drop ⟨6,rfl,rfl,h⟩
         refine v6 fun j4 hx4=>?_
         refine d4 (l1 Tryz.isAgg21 c rfl) (b6 pEq ?_)
         refine g7 h (fun _ h=>?_) (fun _ h=>?_)
         ·exact hx4 _ _ (hj4 (decide (x0=95)) d _ c h)
         ·refine a7k (cap:=[(Value.pointer (some ⟨a,0,none⟩))]) Tryz.call124 (h a) c ?_
          rintro _ j _ aa e _ _ ⟨k,rfl,rfl,h⟩
          refine u5 h (fun _ h=>?_) (fun _ h=>?_)
          ·exact hx4 _ _ (hj4 k j _ e h)
          ·refine a7k (cap:=[(Value.pointer (some ⟨a,0,none⟩))]) Tryz.call124 (h a) e ?_
           rintro _ l _ ab f _ _ ⟨m,rfl,rfl,h⟩
           refine u5 h (fun _ h=>?_) (fun _ h=>?_)
           ·exact hx4 _ _ (hj4 m l _ f h)
           ·refine a7k (cap:=[(Value.pointer (some ⟨a,0,none⟩))]) Tryz.call124 (h a) f ?_
            rintro _ n _ ac g _ _ ⟨o,rfl,rfl,h⟩
            refine u5 h (fun _ h=>?_) (fun _ h=>?_)
            ·exact hx4 _ _ (hj4 o n _ g h)
            ·refine a7k (cap:=[(Value.pointer (some ⟨a,0,none⟩))]) Tryz.call124 (h a) g ?_
             rintro _ p _ ad i _ _ ⟨q,rfl,rfl,h⟩
             refine u5 h (fun _ h=>?_) (fun _ h=>?_)
             ·exact hx4 _ _ (hj4 q p _ i h)
             ·refine a7k (cap:=[(Value.pointer (some ⟨a,0,none⟩))]) Tryz.call124 (h a) i ?_
              rintro _ r _ ae s _ _ ⟨t,rfl,rfl,h⟩
              exact hx4 _ _ (hj4 t r _ s h)
      refine v6 fun j3 hx3=>?_
      refine b6 pEq ?_
      refine g7 h (fun _ h=>?_) (fun _ h=>?_)
      ·exact hx3 _ _ (hj3 (decide (x0=215)) H _ I h)
      ·refine b6 pEq ?_
       refine g7 h (fun _ h=>?_) (fun _ h=>?_)
       ·exact hx3 _ _ (hj3 (decide (x0=247)) H _ I h)
       ·refine b6 pEq ?_
        exact hx3 _ _ (hj3 (decide (x0=930)) H _ I h)
    refine v6 fun j2 hx2=>?_
    refine b6 pEq ?_
    refine g7 h (fun _ h=>?_) (fun _ h=>?_)
    ·exact hx2 _ _ (hj2 (decide (x0=59)) H _ I h)
    ·refine b6 pEq ?_
     refine g7 h (fun _ h=>?_) (fun _ h=>?_)
     ·exact hx2 _ _ (hj2 (decide (x0=44)) H _ I h)
     ·refine b6 pEq ?_
      refine g7 h (fun _ h=>?_) (fun _ h=>?_)
      ·exact hx2 _ _ (hj2 (decide (x0=123)) H _ I h)
      ·refine b6 pEq ?_
       refine g7 h (fun _ h=>?_) (fun _ h=>?_)
       ·exact hx2 _ _ (hj2 (decide (x0=125)) H _ I h)
       ·refine b6 pEq ?_
        refine g7 h (fun _ h=>?_) (fun _ h=>?_)
        ·exact hx2 _ _ (hj2 (decide (x0=40)) H _ I h)
        ·refine b6 pEq ?_
         refine g7 h (fun _ h=>?_) (fun _ h=>?_)
         ·exact hx2 _ _ (hj2 (decide (x0=41)) H _ I h)
         ·refine b6 pEq ?_
          refine g7 h (fun _ h=>?_) (fun _ h=>?_)
          ·exact hx2 _ _ (hj2 (decide (x0=91)) H _ I h)
          ·refine b6 pEq ?_
           refine g7 h (fun _ h=>?_) (fun _ h=>?_)
           ·exact hx2 _ _ (hj2 (decide (x0=93)) H _ I h)
           ·refine b6 pEq ?_
            refine g7 h (fun _ h=>?_) (fun _ h=>?_)
            ·exact hx2 _ _ (hj2 (decide (x0=61)) H _ I h)
            ·refine b6 pEq ?_
             refine g7 h (fun _ h=>?_) (fun _ h=>?_)
             ·exact hx2 _ _ (hj2 (decide (x0=33)) H _ I h)
             ·refine b6 pEq ?_
              refine g7 h (fun _ h=>?_) (fun _ h=>?_)
              ·exact hx2 _ _ (hj2 (decide (x0=60)) H _ I h)
              ·refine b6 pEq ?_
               refine g7 h (fun _ h=>?_) (fun _ h=>?_)
               ·exact hx2 _ _ (hj2 (decide (x0=62)) H _ I h)
               ·refine b6 pEq ?_
                refine g7 h (fun _ h=>?_) (fun _ h=>?_)
                ·exact hx2 _ _ (hj2 (decide (x0=43)) H _ I h)
                ·refine b6 pEq ?_
                 refine g7 h (fun _ h=>?_) (fun _ h=>?_)
                 ·exact hx2 _ _ (hj2 (decide (x0=45)) H _ I h)
                 ·refine b6 pEq ?_
                  refine g7 h (fun _ h=>?_) (fun _ h=>?_)
                  ·exact hx2 _ _ (hj2 (decide (x0=42)) H _ I h)
                  ·refine b6 pEq ?_
                   refine g7 h (fun _ h=>?_) (fun _ h=>?_)
                   ·exact hx2 _ _ (hj2 (decide (x0=47)) H _ I h)
                   ·refine b6 pEq ?_
                    refine g7 h (fun _ h=>?_) (fun _ h=>?_)
                    ·exact hx2 _ _ (hj2 (decide (x0=37)) H _ I h)
                    ·refine b6 pEq ?_
                     refine g7 h (fun _ h=>?_) (fun _ h=>?_)
                     ·exact hx2 _ _ (hj2 (decide (x0=38)) H _ I h)
                     ·refine b6 pEq ?_
                      exact hx2 _ _ (hj2 (decide (x0=124)) H _ I h)
 refine v6 fun j1 hx1=>?_
 refine b6 pEq ?_
 refine g7 h (fun _ h=>?_) (fun _ h=>?_)
 ·exact hx1 _ _ (hj1 (decide (x0=32)) H _ b h)
 ·refine b6 pEq ?_
  refine g7 h (fun _ h=>?_) (fun _ h=>?_)
  ·exact hx1 _ _ (hj1 (decide (x0=9)) H _ b h)
  ·refine b6 pEq ?_
   exact hx1 _ _ (hj1 (decide (x0=13)) H _ b h)
def V3(b5f:Int)(H:Hp)(K:Int→Hp→Prop):Prop:=
 K b5f H
def a1t(b:ByteArray)(b3O:Int)(a:Nat)(H:Hp)(n2:(Int×Nat)→Hp→Prop)(K:Int→Hp→Prop):Prop:=
 (a < b.size→
 n2 ((IntKind.wrap .i64 (b3O+1)),(a+(Utf8.decode b a).2)) H)∧
 (¬(a < b.size)→
 V3 b3O H K)
def a2t(x0:ByteArray)(H:Hp)(K:Int→Hp→Prop):Prop:=
 TL ((0,0):Int×Nat) H fun(s:Int×Nat) H n2=>a1t x0 s.1 s.2 H n2 K
theorem a6U(x0){H K}(h:a2t x0 H K):Y4 x0 H K:=by
 refine Ct.of fun w0 w ps0 H0 R E I hR=>c7P ?_
 have hj1:∀(b5f:Int) H w (_:Inv w0 ps0 H0 H [] w) (_:V3 b5f H K),c0B (vi b5f) w R E:=by
  intro b5f H w I h
  intro _
  exact hR _ H _ _ I ⟨_,rfl,rfl,h⟩
 refine v6 fun j1 hx1=>?_
 refine c0n Tryz.underlying9 x0 I fun d i f j=>?_
 refine a2P (σ:=Int×Nat) (fun (b3O,a)=>[(vi b3O)]) (fun (b3O,a)=>[itf d x0 a]) h rfl f ?_
 rintro ⟨b3O,a⟩ H k w next2 n2 b I h hn2
 dsimp only at b I h
 simp only [List.map_cons,List.map_nil,List.cons.injEq,and_true] at b
 have e2:=b
 simp only [e2]
 refine c2G I (fun c l g m=>?_) (fun c=>?_)
 ·replace h:=h.1 c
  refine b6 (i5 _ _ (vB true) rfl) ?_
  refine N9 (fun e=>?_) (fun e=>by cases e)
  refine b6 pAd ?_
  exact hn2 ((IntKind.wrap .i64 (b3O+1)),(a+(Utf8.decode x0 a).2)) _ _ h g
 ·replace h:=h.2 c
  refine b6 (i5 _ _ (vB false) rfl) ?_
  refine N9 (fun e=>by cases e) (fun e=>?_)
  exact hx1 _ _ (hj1 b3O H _ I.drop h)
def K0(r7:Int)(u9:Int)(u7:Int)(a9U:Bool)(a9V:Bool)(a8j:(List ByteArray))(H:Hp)(K:Bool→p9→(List ByteArray)→Hp→Prop):Prop:=
 K true (p9.mk r7 u9 u7 a9U a9V (Sl.mk none 0 0)) a8j H
def a4A(x0:p9)(a:(List ByteArray))(x1:d9)(x2:Int)(H:Hp)(K:Bool→p9→(List ByteArray)→Hp→Prop):Prop:=
 (4096 < (IntKind.wrap .i64 (x0.fnodes+1))→
 K false (p9.mk (IntKind.wrap .i64 (x0.fnodes+1)) x0.fdepth 33 x0.fform x0.fnamed (Sl.mk none 0 0)) a H)∧
 (¬(4096 < (IntKind.wrap .i64 (x0.fnodes+1)))→
 (64 < x2→
 K false (p9.mk (IntKind.wrap .i64 (x0.fnodes+1)) x0.fdepth 32 x0.fform x0.fnamed (Sl.mk none 0 0)) a H)∧
 (¬(64 < x2)→
 TG (x0.fform=false) (a3Z x1 H) false H (fun(c:Bool)(j:Hp)=>
 a1k x1 j (fun b e d=>
 (e=true→
 TG (x0.fnamed=false) (a3g b d) false d (fun(f:Bool)(k:Hp)=>
 R8 a b k (fun g i=>
 ((!g)=true→
 (a.length+([b]:List ByteArray).length)*17≤140737488355328∧
 K0 (IntKind.wrap .i64 (x0.fnodes+1)) (if x2 > x0.fdepth then x2 else x0.fdepth) x0.fe (x0.fform||(!c)) (x0.fnamed||(!f)) (a++[b]) i K)∧
 ((!g)=false→
 K0 (IntKind.wrap .i64 (x0.fnodes+1)) (if x2 > x0.fdepth then x2 else x0.fdepth) x0.fe (x0.fform||(!c)) (x0.fnamed||(!f)) a i K))))∧
 (e=false→
 K0 (IntKind.wrap .i64 (x0.fnodes+1)) (if x2 > x0.fdepth then x2 else x0.fdepth) x0.fe (x0.fform||(!c)) x0.fnamed a d K)))))
theorem a9j(x0 b x1 x2){H K}(h:a4A x0 b x1 x2 H K):a1w x0 b x1 x2 H K:=by
 intro g0 k l m
 refine Ct.of fun w0 w ps0 H0 R E I hR=>c7x ?_
 refine b6 (m7 _) (b6 b1o (d4 (l1 Tryz.isAgg3 I rfl) (b6 pAd (b6 (m7 _) ?_))))
 refine b6 b1o ?_
 refine K2 I Tryz.sizeOf3 fun ba p bb=>?_
 refine b6 (m7 _) (b6 b1o (d4 (l1 Tryz.isAgg3 p rfl) (b6 pGt ?_)))
 refine g7 h (fun _ h=>?_) (fun _ h=>?_)
 ·refine b6 (m7 _) (b6 a6D ?_)
  refine K2 p Tryz.sizeOf33 fun bc an bd=>?_
  exact hR _ H _ _ ((an.bring 1).bring 1) ⟨false,(p9.mk (IntKind.wrap .i64 (x0.fnodes+1)) x0.fdepth 33 x0.fform x0.fnamed (Sl.mk none 0 0)),b,k,l,rfl,rfl,m,h⟩
 ·refine b6 pGt ?_
  refine g7 h (fun _ h=>?_) (fun _ h=>?_)
  ·refine b6 (m7 _) (b6 a6D ?_)
   refine K2 p Tryz.sizeOf33 fun be ao bf=>?_
   exact hR _ H _ _ ((ao.bring 1).bring 1) ⟨false,(p9.mk (IntKind.wrap .i64 (x0.fnodes+1)) x0.fdepth 32 x0.fform x0.fnamed (Sl.mk none 0 0)),b,k,l,rfl,rfl,m,h⟩
  ·refine b6 (m7 _) (b6 b4M (d4 (l1 Tryz.isAgg3 p rfl) (b6 (c2A _ _ _ _ _) (b6 (m7 _) ?_))))
   refine b6 b4M ?_
   refine K2 p Tryz.sizeOf3 fun ae z bg=>?_
   refine b6 (m7 _) (b6 b1p (d4 (l1 Tryz.isAgg4 z rfl) ?_))
   simp only [J0]
   refine b5H (D:=fun af t=>∃(d:Bool)(n:Hp),af=(gv x0.fform false (vB d))∧(Inv w0 ps0 H0 n [bx g0 116 [(vi (IntKind.wrap .i64 (x0.fnodes+1))),(vi (if x2 > x0.fdepth then x2 else x0.fdepth)),(vi x0.fe),(vB x0.fform),(vB x0.fnamed),(vs k)],l] t)∧(∀i,i < ae.heap.size→¬inF [] i→t.heap[i]? = ae.heap[i]?)∧Hle H n∧(a1k x1 n (fun(j:ByteArray)(u:Bool)(q:Hp)=>
 (u=true→
 TG (x0.fnamed=false) (a3g j q) false q (fun(f:Bool)(v:Hp)=>
 R8 b j v (fun(aa:Bool)(r:Hp)=>
 ((!aa)=true→
 (b.length+([j]:List ByteArray).length)*17≤140737488355328∧
 K0 (IntKind.wrap .i64 (x0.fnodes+1)) (if x2 > x0.fdepth then x2 else x0.fdepth) x0.fe (x0.fform||(!d)) (x0.fnamed||(!f)) (b++[j]) r K)∧
 ((!aa)=false→
 K0 (IntKind.wrap .i64 (x0.fnodes+1)) (if x2 > x0.fdepth then x2 else x0.fdepth) x0.fe (x0.fform||(!d)) (x0.fnamed||(!f)) b r K))))∧
 (u=false→
 K0 (IntKind.wrap .i64 (x0.fnodes+1)) (if x2 > x0.fdepth then x2 else x0.fdepth) x0.fe (x0.fform||(!d)) x0.fnamed b q K)))) (fun o=>?_) (fun o=>?_) ?_
   ·replace h:=h.1 o
    have a:=o
    simp only [j8 a]
    refine b1H z h (fun d n t ab ag ah h=>?_)
    exact ⟨d,n,by rfl,ab,ah,ag,h⟩
   ·exact ⟨false,H,by rw [b6D o],z,fun _ _ _=>rfl,Hle.refl _,h.2 o⟩
   ·clear h
    rintro af t ⟨d,n,rfl,ab,ah,ag,h⟩
    refine b6 (Pu.g fun a=>by simp only [j8 a];with_reducible exact (O4 _)) ?_
    refine b6 (M2 _ _) (b6 (m7 _) (b6 b1p ?_))
    refine K2 ab Tryz.sizeOf4 fun bh ap bi=>?_
    have hj1:∀(r7:Int)(u9:Int)(u7:Int)(a9U:Bool)(a9V:Bool)(a8j:(List ByteArray))(b2W:Sl)(b2X:Frag) H w (_:RowL 9 1 C8 b2W a8j b2X) (_:Inv w0 ps0 H0 H [bx g0 116 [(vi r7),(vi u9),(vi u7),(vB a9U),(vB a9V),(vs b2W)],b2X] w) (_:K0 r7 u9 u7 a9U a9V a8j H K),c0r w R E:=by
     intro r7 u9 u7 a9U a9V a8j b2W b2X H w c4R I h
     intro _
     exact hR _ H _ _ ((I.bring 1).bring 1) ⟨true,(p9.mk r7 u9 u7 a9U a9V (Sl.mk none 0 0)),a8j,b2W,b2X,rfl,rfl,c4R,h⟩
    refine v6 fun j1 hx1=>?_
    refine f9 Tryz.call113 h ap ?_
    rintro _ q _ bj y _ _ ⟨j,u,rfl,rfl,h⟩
    refine b6 (i5 _ _ (Value.string j) rfl) (b6 (i5 _ _ (vB u) rfl) ?_)
    refine u5 h (fun _ h=>?_) (fun _ h=>?_)
    ·refine b6 (m7 _) (b6 b1q (d4 (l1 Tryz.isAgg4 y rfl) ?_))
     simp only [J0]
     refine V4 [] (fun f:Bool=>(vB f)) h y (fun a h=>by simp only [j8 a];exact V9 Tryz.call114 h y) fun f v aq ac aj ak h=>?_
     refine b6 (Pu.g fun a=>by simp only [j8 a];with_reducible exact (O4 _)) ?_
     refine b6 (M2 _ _) (b6 (m7 _) (b6 b1q ?_))
     refine K2 ac Tryz.sizeOf4 fun bk al bl=>?_
     refine b6 (m7 _) (b6 b1r (d4 (l1 Tryz.isAgg36 al rfl) ?_))
     refine f9 Tryz.call115 (h k l m) (al.bring 1) ?_
     rintro _ r _ bm ad _ _ ⟨aa,rfl,rfl,h⟩
     refine b6 (O4 _) ?_
     refine u5 h (fun _ h=>?_) (fun _ h=>?_)
     ·refine b6 (m7 _) (b6 b1r (d4 (l1 Tryz.isAgg36 (ad.bring 1) rfl) ?_))
      refine Y1 (e:=9) (c:=C8) (xs:=[j]) ad (b6J _) rfl rfl a6A a6B (nb rfl) fun bn bo bp ar am bq=>?_
      obtain ⟨au,h⟩:=h
      refine c2O (s:=k) (xs:=b) (am.bring 1) m (ar.srcO ((am.bring 1).bring 1)) au fun av aw br ax ay bs=>?_
      refine b6 (m7 _) (b6 b1r ?_)
      refine K2 ((ay.bring 1).drop.bring 1) Tryz.sizeOf36 fun bt az bu=>?_
      exact hx1 _ _ (hj1 (IntKind.wrap .i64 (x0.fnodes+1)) (if x2 > x0.fdepth then x2 else x0.fdepth) x0.fe (x0.fform||(!d)) (x0.fnamed||(!f)) (b++[j]) av aw r _ ax ((az.bring 1).bring 1) h)
     ·exact hx1 _ _ (hj1 (IntKind.wrap .i64 (x0.fnodes+1)) (if x2 > x0.fdepth then x2 else x0.fdepth) x0.fe (x0.fform||(!d)) (x0.fnamed||(!f)) b k l r _ m (ad.bring 1) h)
    ·exact hx1 _ _ (hj1 (IntKind.wrap .i64 (x0.fnodes+1)) (if x2 > x0.fdepth then x2 else x0.fdepth) x0.fe (x0.fform||(!d)) x0.fnamed b k l q _ m ((y.bring 1).bring 1) h)
def a9t(x0:z8)(H:Hp)(K:p9→Hp→Prop):Prop:=
 K5 x0.a5g H (fun d e=>
 B7 x0.a5J e (fun f g=>
 ∀(a:Sl)(b:Hp),Hle g b→SlH b 1 csl a [d,f]→a.n≤a.c→
 D1 a b (fun i j=>
 a3Y i j (fun k l=>
 K k l))))
theorem b4G(x0){H K}(h:a9t x0 H K):a6y x0 H K:=by
 refine Ct.of fun w0 w ps0 H0 R E I hR=>d0v ?_
 refine z7 I (cs:=(v7 x0)) rfl fun z aa b ab=>?_
 refine C6 b fun ac a=>?_
 refine d6 a7m ?_
 refine d6 a7n ?_
 refine i8 (l1 Tryz.isAgg22 a rfl) ?_
 refine i8 (l1 Tryz.isAgg23 a rfl) ?_
 refine f9 Tryz.call79 h a ?_
 rintro _ _ _ ad d _ f ⟨g,rfl,rfl,h⟩
 refine ⟨(f _ a.lt1 (Inv.E1 (Fi:=[]) a)),?_⟩
 refine f9 Tryz.call81 h d ?_
 rintro _ _ _ ae i _ _ ⟨j,rfl,rfl,h⟩
 refine Y1 (e:=154) (c:=csl) (xs:=[g,j]) i (b8B _ _ _ _ _ _) rfl rfl a9u a9v (nb rfl) fun k af ag l m ah=>?_
 obtain ⟨n,o,p,q,r⟩:=Inv.freezeC m l (by decide)
 replace h:=h k n p q r
 refine f9 Tryz.call78 h o ?_
 rintro _ _ _ ai s _ _ ⟨aj,rfl,rfl,h⟩
 refine f9 Tryz.call77 h s ?_
 rintro _ t _ ak u _ _ ⟨v,y,rfl,rfl,h⟩
 exact hR _ t _ _ (u.bring 1).drop ⟨v,y,rfl,rfl,h⟩
def a1g(b2Q:Int)(b6T:ByteArray)(a:(List g8))(b:z8)(H:Hp)(K:ByteArray→Int→Hp→Prop):Prop:=
 K b6T b2Q H
def a6H(a4L:(Option Nat))(b5Z:(List g8))(b5Y:Int)(c:z8)(b0H:Int)(a2p:ByteArray)(V1:Int)(H:Hp)(n2:(Int×ByteArray×Int)→Hp→Prop)(K:ByteArray→Int→Hp→Prop):Prop:=
 (V1 < b5Y→
 (0:Int)≤V1∧∃a:g8,(b5Z)[(V1:Int).toNat]? = some a∧
 ∃b:List (ByteArray×Int),MapH H (fun s:ByteArray=>Value.string s) (fun n:Int=>Value.int .i64 n) a4L b∧
 (((lk a.fname b).getD 0)=a.fas→
 n2 (b0H,a2p,(IntKind.wrap .i64 (V1+1))) H)∧
 (¬(((lk a.fname b).getD 0)=a.fas)→
 (((lk a.fname b).getD 0)=0→
 a1g 63 a.fname b5Z c H K)∧
 (¬(((lk a.fname b).getD 0)=0)→
 a1g 64 a.fname b5Z c H K)))∧
 (¬(V1 < b5Y)→
 a1g b0H a2p b5Z c H K)
def a7X(x0:z8)(H:Hp)(K:ByteArray→Int→Hp→Prop):Prop:=
 a4H x0 H (fun b c=>
 (¬(b=0)→
 K ⟨#[]⟩ b c)∧
 (b=0→
 a6F x0.a5g c (fun f g a d=>
 (¬(a=0)→
 K g a d)∧
 (a=0→
 Q9 (p7.mk (Sl.mk none 0 0)) [] x0.a5J d (fun j e i=>
 TL ((a,⟨#[]⟩,0):Int×ByteArray×Int) i fun(s:Int×ByteArray×Int) H n2=>a6H f e (e.length:Int) x0 s.1 s.2.1 s.2.2 H n2 K)))))
theorem b3o(x0){H K}(h:a7X x0 H K):a7S x0 H K:=by
 refine Ct.of fun w0 w ps0 H0 R E I hR=>c9C ?_
 refine z7 I (cs:=(v7 x0)) rfl fun j ad k ae=>?_
 refine d4 (lW Tryz.isAgg25 Tryz.sizeOf25 rfl k) ?_
 refine f9 Tryz.call21 h k ?_
 rintro _ u _ af d _ _ ⟨v,rfl,rfl,h⟩
 refine b6 pNe ?_
 refine a2f h (fun _ h=>?_) (fun _ h=>?_)
 ·exact hR _ u _ _ d.drop ⟨⟨#[]⟩,v,rfl,rfl,h⟩
 ·refine b6 a7m (d4 (l1 Tryz.isAgg22 d rfl) ?_)
  refine f9 Tryz.call22 h d ?_
  rintro _ y _ ag l _ _ ⟨ah,m,n,rfl,rfl,h⟩
  refine b6 (i5 _ _ _ rfl) (b6 (i5 _ _ (Value.string m) rfl) (b6 (i5 _ _ (vi n) rfl) (b6 pNe ?_)))
  refine a2f h (fun _ h=>?_) (fun _ h=>?_)
  ·exact hR _ y _ _ l.drop ⟨m,n,rfl,rfl,h⟩
  ·refine b6 (c2N) ?_
   refine z7 l (cs:=[(nS)]) rfl fun f ai o aj=>?_
   refine b6 a7n (d4 (l1 Tryz.isAgg23 (o.bring 1) rfl) ?_)
   refine f9 Tryz.call23 (h f (Sl.mk none 0 0) ([]) (RowL.nil (e:=97) a4o a4p)) (o.nil.bring 1) ?_
   rintro _ _ _ ak p _ _ ⟨al,aa,q,r,rfl,rfl,c,h⟩
   have hj1:∀(b2Q:Int)(b6T:ByteArray) H w (_:Inv w0 ps0 H0 H [bx f 94 [(vs q)],bx j 25 (v7 x0),r] w) (_:a1g b2Q b6T aa x0 H K),c2T (vi b2Q) (Value.string b6T) w R E:=by
    intro b2Q b6T H w I h
    intro _
    exact hR _ H _ _ I.drop.drop.drop ⟨b6T,b2Q,rfl,rfl,h⟩
   refine v6 fun j1 hx1=>?_
   refine b6 (m7 _) (b6 a1K (d4 (l1 Tryz.isAgg92 p rfl) (b6 (a3S Tryz.underlying92 c) ?_)))
   refine a2P (σ:=Int×ByteArray×Int) (fun (b0H,a2p,V1)=>[(vi b0H),(Value.string a2p),(vi V1)]) (fun (b0H,a2p,V1)=>[bx f 94 [(vs q)],bx j 25 (v7 x0),r]) h rfl (((p.bring 1).bring 2).bring 2) ?_
   rintro ⟨b0H,a2p,V1⟩ H am w next2 n2 g I h hn2
   dsimp only at g I h
   simp only [List.map_cons,List.map_nil,List.cons.injEq,and_true] at g
   obtain ⟨e7,e9,e39⟩:=g
   simp only [e7,e9,e39]
   refine b6 pLs ?_
   refine g7 h (fun _ h=>?_) (fun _ h=>?_)
   ·obtain ⟨s,b,i,h⟩:=h
    obtain ⟨an,ao,t,ap⟩:=c.addr i
    refine b6 (c4J t _ _ _ _ s (c.lt s i)) (d4 (ldA (vs:=(C2 b)) Tryz.isAgg97 Tryz.sizeOf97 rfl (c.atW (I.bring 2) t i)) ?_)
    refine s6 I Tryz.zeroValue97 (cs:=[(eS),(vi 0)]) rfl fun aq ar ab au=>?_
    refine A5 ab Tryz.sizeOf97 (vs:=(C2 b)) fun av a aw=>?_
    refine b6 b2q (d4 (l1 Tryz.isAgg9 a rfl) ?_)
    obtain ⟨ax,ac,h⟩:=h
    refine b8t (keyS Tryz.underlying9) Tryz.underlying68 (z:=0) Tryz.zeroValue3 a ac b.fname ?_
    refine b6 c1q (d4 (l1 Tryz.isAgg3 a rfl) (b6 pEq ?_))
    refine g7 h (fun _ h=>?_) (fun _ h=>?_)
    ·refine b6 pAd ?_
     exact hn2 (b0H,a2p,(IntKind.wrap .i64 (V1+1))) _ _ h (((a.drop.bring 2).bring 2).bring 2)
    ·refine b6 pEq ?_
     refine g7 h (fun _ h=>?_) (fun _ h=>?_)
     ·refine b6 b2q (d4 (l1 Tryz.isAgg9 a rfl) ?_)
      exact hx1 _ _ (hj1 63 b.fname H _ (((a.drop.bring 2).bring 2).bring 2) h)
     ·refine b6 b2q (d4 (l1 Tryz.isAgg9 a rfl) ?_)
      exact hx1 _ _ (hj1 64 b.fname H _ (((a.drop.bring 2).bring 2).bring 2) h)
   ·exact hx1 _ _ (hj1 b0H a2p H _ (((I.bring 2).bring 2).bring 2) h)
def a3F(b0N:Int)(b6a:(List ByteArray))(b:z8)(H:Hp)(K:Sl→Int→Hp→Prop):Prop:=
 ∀(a8r:Sl)(a:Hp),Hle H a→SlH a 1 C8 a8r b6a→a8r.n≤a8r.c→
 K a8r b0N a
def a3G(a4L:Int)(c6L:Sl)(c6M:Int)(b:z8)(a4i:(List ByteArray))(a3q:Int)(H:Hp)(n2:((List ByteArray)×Int)→Hp→Prop)(K:Sl→Int→Hp→Prop):Prop:=
 (a3q < c6M→
 (0:Int)≤a3q∧(a3q:Int) < c6L.n∧∃a:j7,EltH H c6L a3q 2 (m3 a)∧
 (a4i.length+([a.f8]:List ByteArray).length)*17≤140737488355328∧
 n2 ((a4i++[a.f8]),(IntKind.wrap .i64 (a3q+1))) H)∧
 (¬(a3q < c6M)→
 a3F a4L a4i b H K)
def a8O(x0:z8)(H:Hp)(K:Sl→Int→Hp→Prop):Prop:=
 a6R x0 1 H (fun a b c=>
 TL (([],0):(List ByteArray)×Int) c fun(s:(List ByteArray)×Int) H n2=>a3G b a (a.n:Int) x0 s.1 s.2 H n2 K)
theorem b3P(x0){H K}(h:a8O x0 H K):a8v x0 H K:=by
 refine Ct.of fun w0 w ps0 H0 R E I hR=>c9E ?_
 refine z7 I (cs:=(v7 x0)) rfl fun m ap o aq=>?_
 refine d4 (lW Tryz.isAgg25 Tryz.sizeOf25 rfl o) ?_
 refine f9 Tryz.call26 h o ?_
 rintro _ u _ ar v _ _ ⟨p,d,rfl,rfl,h⟩
 refine b6 (i5 _ _ _ rfl) (b6 (i5 _ _ (vi d) rfl) ?_)
 have hj1:∀(b6a:(List ByteArray))(a8r:Sl)(Fs6j1:Frag) H w (_:RowL 9 1 C8 a8r b6a Fs6j1) (_:Inv w0 ps0 H0 H [bx m 25 (v7 x0),Fs6j1] w) (_:a3F d b6a x0 H K),c2U (vi d) (vs a8r) w R E:=by
  intro b6a a8r Fs6j1 H w d3j I h
  intro _
  obtain ⟨q,y,z,aa,ab⟩:=Inv.freezeC (I.bring 1) d3j (by decide)
  replace h:=h a8r q z aa ab
  exact hR _ q _ _ y.drop ⟨a8r,d,rfl,rfl,h⟩
 refine v6 fun j1 hx1=>?_
 refine b6 (a1U _ _ _) ?_
 obtain ⟨i,f,ac,ad⟩:=h
 refine K7 (J:=fun n l w=>∃(s:(List ByteArray)×Int)(H:Hp)(b6b:Sl)(Fs6l2:Frag),n=f s∧l=(match s with | (a4i,a3q)=>[(vs b6b),(vi a3q)])∧(match s with | (a4i,a3q)=>RowL 9 1 C8 b6b a4i Fs6l2)∧(match s with | (a4i,a3q)=>Inv w0 ps0 H0 H [bx m 25 (v7 x0),Fs6l2] w)∧i s H) ⟨_,([],0),u,(Sl.mk none 0 0),[],rfl,rfl,(RowL.nil a6A a6B),(v.nil.bring 1),ac⟩ ?_
 rintro au av w next2 ⟨⟨a4i,a3q⟩,H,b6b,Fs6l2,rfl,j,c1N,I,ae⟩ hn2
 dsimp only at j I c1N
 simp only [List.map_cons,List.map_nil,List.cons.injEq,and_true] at j
 obtain ⟨e6,e16⟩:=j
 simp only [e6,e16]
 obtain ⟨n2,hm2,h⟩:∃n2:((List ByteArray)×Int)→Hp→Prop,(∀s' H',n2 s' H'→i s' H'∧f s' < f (a4i,a3q))∧a3G d p (p.n:Int) x0 a4i a3q H n2 K:=⟨_,fun _ _ h=>h,ad (a4i,a3q) H (fun s' H'=>i s' H'∧f s' < f (a4i,a3q)) ae (fun _ _ a b=>⟨a,b⟩)⟩
 refine b6 pLs ?_
 refine g7 h (fun _ h=>?_) (fun _ h=>?_)
 ·obtain ⟨af,ag,g,k,h⟩:=h
  obtain ⟨aw,ax,ah,k⟩:=k
  refine b6 (a2g ah _ _ _ _ af ag) (d4 (ldA (vs:=(m3 g)) Tryz.isAgg58 Tryz.sizeOf58 rfl (I.atH k)) ?_)
  refine s6 I Tryz.zeroValue58 (cs:=[(eS),(vi 0)]) rfl fun ay az ai ba=>?_
  refine A5 ai Tryz.sizeOf58 (vs:=(m3 g)) fun bb r bc=>?_
  refine b6 W4 (d4 (l1 Tryz.isAgg9 r rfl) ?_)
  refine Y1 (e:=9) (c:=C8) (xs:=[g.f8]) r (b6J _) rfl rfl a6A a6B (nb rfl) fun bd be bf aj t bg=>?_
  obtain ⟨ak,h⟩:=h
  refine c2O (s:=b6b) (xs:=a4i) (t.bring 3) c1N (aj.srcO ((t.bring 3).bring 1)) ak fun al am bh an ao bi=>?_
  refine b6 pAd ?_
  exact hn2 _ _ _ (hm2 _ _ h).2 ⟨((a4i++[g.f8]),(IntKind.wrap .i64 (a3q+1))),H,al,am,rfl,rfl,an,(((ao.bring 1).drop.bring 1).drop.bring 1),(hm2 _ _ h).1⟩
 ·exact hx1 _ _ (hj1 a4i b6b Fs6l2 H _ c1N ((I.bring 1).bring 1) h)
def a7M(x0:z8)(H:Hp)(K:Sl→Int→Hp→Prop):Prop:=
 a6R x0 2 H (fun a b c=>
 K a b c)
theorem b2Y(x0){H K}(h:a7M x0 H K):a7t x0 H K:=by
 refine Ct.of fun w0 w ps0 H0 R E I hR=>c9F ?_
 refine z7 I (cs:=(v7 x0)) rfl fun f g a i=>?_
 refine d4 (lW Tryz.isAgg25 Tryz.sizeOf25 rfl a) ?_
 refine f9 Tryz.call26 h a ?_
 rintro _ c _ j d _ _ ⟨e,b,rfl,rfl,h⟩
 refine b6 (i5 _ _ _ rfl) (b6 (i5 _ _ (vi b) rfl) ?_)
 exact hR _ c _ _ d.drop ⟨e,b,rfl,rfl,h⟩
def b3p(x0:Int)(H:Hp)(K:Int→Hp→Prop):Prop:=
 (0:Int)≤x0∧(x0:Int) < 11∧
 K (([0,0,0,9,10,3,4,5,6,7,8]:List Int).getD (x0:Int).toNat 0) H
theorem b3q(x0){H K}(h:b3p x0 H K):a4I x0 H K:=by
 refine Ct.of fun w0 w ps0 H0 R E I hR=>c7C ?_
 refine b6 (a8u _ _ _ _ _ _ _ _) ?_
 obtain ⟨a,b,h⟩:=h
 refine b6 (c1u _ _ _ _ _ _ _ _ _ _ _ _ _ a b) ?_
 exact hR _ H _ _ I ⟨_,rfl,rfl,h⟩
def b4H(x0:Int)(x1:Int)(x2:Int)(H:Hp)(K:b7→Hp→Prop):Prop:=
 Q7 H (fun a b=>
 Q7 b (fun c d=>
 K (b7.mk x0 x1 x2 (-1) (-1) 0 a c) d))
theorem b4I(x0 x1 x2){H K}(h:b4H x0 x1 x2 H K):M0 x0 x1 x2 H K:=by
 refine Ct.of fun w0 w ps0 H0 R E I hR=>d0H ?_
 refine s6 I Tryz.zeroValue49 (cs:=[(vi 0),(vi 0),(vi 0),(vi 0),(vi 0),(vi 0),(vi 0),(vi 0),(vi 0),(vi 0)]) rfl fun i j d k=>?_
 refine f9 Tryz.call65 h d ?_
 rintro _ _ _ l e _ _ ⟨a,rfl,rfl,h⟩
 refine f9 Tryz.call65 h e ?_
 rintro _ f _ m g _ _ ⟨b,rfl,rfl,h⟩
 refine b6 (b0S _ _ _ _ _ _ _ _ _) ?_
 refine A5 g Tryz.sizeOf49 (vs:=[(vi x0),(vi x1),(vi x2),(vi (-1)),(vi (-1)),(vi 0),(vi a.A8),(vi a.s8),(vi b.A8),(vi b.s8)]) fun n c o=>?_
 refine Q4 Tryz.isAgg49 Tryz.sizeOf49 rfl c ?_
 exact hR _ f _ _ c.drop ⟨_,rfl,rfl,h⟩
def a3H(x0:f6)(a:(List b7))(x1:q8)(x2:Int)(x3:Int)(H:Hp)(K:o3→Int→f6→(List b7)→Hp→Prop):Prop:=
 W9 (d8 x0) a x1 H (fun f b c=>
 (b=true→
 K f x2 (d8 x0) a c)∧
 (b=false→
 D4 (d8 x0) a c (fun d g i j=>
 a1O (d8 g) i x3 j (fun e k l m=>
 Z9 (d8 k) l x1 e x2 d x3 m (fun n o p=>
 K (o3.mk e 0) d (d8 n) o p)))))
theorem a8k(x0 b x1 x2 x3){H K}(h:a3H x0 b x1 x2 x3 H K):P3 x0 b x1 x2 x3 H K:=by
 intro g0 c d e
 refine Ct.of fun w0 w ps0 H0 R E I hR=>d1v ?_
 refine z7 I (cs:=(j9 x1)) rfl fun al am n an=>?_
 refine s6 n Tryz.zeroValue47 (cs:=[(vi 0),(vi 0)]) rfl fun ao ap j aq=>?_
 refine d4 (lW Tryz.isAgg125 Tryz.sizeOf125 rfl (j.bring 1)) ?_
 refine f9 Tryz.call91 (h g0 c d e) ((j.bring 3).bring 3) ?_
 rintro _ p _ ar q _ _ ⟨f,r,rfl,rfl,h⟩
 refine b6 (i5 _ _ _ rfl) (b6 (i5 _ _ (vB r) rfl) ?_)
 refine s6 q Tryz.zeroValue47 (cs:=[(vi 0),(vi 0)]) rfl fun au av s aw=>?_
 refine A5 s Tryz.sizeOf47 (vs:=(m4 f)) fun ax g ay=>?_
 refine u5 h (fun _ h=>?_) (fun _ h=>?_)
 ·refine d4 (lW Tryz.isAgg47 Tryz.sizeOf47 rfl g) ?_
  refine A5 (g.bring 3) Tryz.sizeOf47 (vs:=(m4 f)) fun az k ba=>?_
  refine Q4 Tryz.isAgg47 Tryz.sizeOf47 rfl k ?_
  exact hR _ p _ _ (((k.drop.drop.bring 2).drop.bring 1).bring 1) ⟨f,x2,(d8 x0),b,c,d,rfl,rfl,e,h⟩
 ·refine f9 Tryz.call14 (h g0 c d e) ((g.bring 2).bring 2) ?_
  rintro _ _ _ bb t _ _ ⟨u,bc,bd,v,y,rfl,rfl,z,h⟩
  refine f9 Tryz.call112 (h g0 v y z) ((t.bring 1).bring 1) ?_
  rintro _ _ _ be aa _ _ ⟨a,bf,bg,ab,ac,rfl,rfl,ad,h⟩
  refine b6 (a8o _) ?_
  refine s6 aa Tryz.zeroValue47 (cs:=[(vi 0),(vi 0)]) rfl fun bh bi ae bj=>?_
  refine A5 ae Tryz.sizeOf47 (vs:=[(vi a),(vi 0)]) fun bk i bl=>?_
  refine d4 (lW Tryz.isAgg125 Tryz.sizeOf125 rfl (i.bring 5)) (b6 a5Q (d4 (l1 Tryz.isAgg3 i rfl) ?_))
  refine f9 Tryz.call92 (h g0 ab ac ad) ((i.bring 2).bring 2) ?_
  rintro _ af _ bm l _ _ ⟨ag,ah,ai,aj,rfl,rfl,ak,h⟩
  refine d4 (ldA Tryz.isAgg47 Tryz.sizeOf47 rfl ((l.bring 2).at1 (o:=0) (vs:=[(vi a),(vi 0)]) (nb rfl) rfl)) ?_
  refine A5 (l.bring 4) Tryz.sizeOf47 (vs:=[(vi a),(vi 0)]) fun bn m bo=>?_
  refine Q4 Tryz.isAgg47 Tryz.sizeOf47 rfl m ?_
  exact hR _ af _ _ (((((m.drop.bring 2).drop.bring 2).drop.bring 2).drop.bring 1).bring 1) ⟨(o3.mk a 0),u,(d8 ag),ah,ai,aj,rfl,rfl,ak,h⟩
def a3P(x0:f6)(b:(List b7))(x1:Int)(x2:q8)(x3:Int)(x4:Int)(H:Hp)(K:f6→(List b7)→Hp→Prop):Prop:=
 W9 (d8 x0) b x2 H (fun e c d=>
 ((!c)=true→
 Z9 (d8 x0) b x2 x1 x3 x4 0 d (fun f g i=>
 K (d8 f) g i))∧
 ((!c)=false→
 M0 x3 x4 2 d (fun a j=>
 C4 (d8 x0) b (b7.mk a.B3 a.fTo a.b8 x1 a.P9 a.fOp e a.fB) j (fun k l m=>
 K (d8 k) l m))))
theorem a8P(x0 i x1 x2 x3 x4){H K}(h:a3P x0 i x1 x2 x3 x4 H K):a1m x0 i x1 x2 x3 x4 H K:=by
 intro g0 c d e
 refine Ct.of fun w0 w ps0 H0 R E I hR=>d0G ?_
 refine z7 I (cs:=(j9 x2)) rfl fun ak al j am=>?_
 refine d4 (lW Tryz.isAgg125 Tryz.sizeOf125 rfl j) ?_
 refine f9 Tryz.call91 (h g0 c d e) ((j.bring 2).bring 2) ?_
 rintro _ _ _ an l _ _ ⟨b,m,rfl,rfl,h⟩
 refine b6 (i5 _ _ _ rfl) (b6 (i5 _ _ (vB m) rfl) ?_)
 refine s6 l Tryz.zeroValue47 (cs:=[(vi 0),(vi 0)]) rfl fun ao ap n aq=>?_
 refine A5 n Tryz.sizeOf47 (vs:=(m4 b)) fun ar f au=>?_
 refine b6 (O4 _) ?_
 refine u5 h (fun _ h=>?_) (fun _ h=>?_)
 ·refine d4 (lW Tryz.isAgg125 Tryz.sizeOf125 rfl (f.bring 3)) ?_
  refine f9 Tryz.call92 (h g0 c d e) ((f.bring 2).bring 2) ?_
  rintro _ p _ av q _ _ ⟨r,s,t,u,rfl,rfl,v,h⟩
  exact hR _ p _ _ ((((q.bring 2).drop.bring 2).drop.bring 1).bring 1) ⟨(d8 r),s,t,u,rfl,rfl,v,h⟩
 ·refine f9 Tryz.call55 h f ?_
  rintro _ _ _ aw y _ _ ⟨a,rfl,rfl,h⟩
  refine s6 y Tryz.zeroValue49 (cs:=[(vi 0),(vi 0),(vi 0),(vi 0),(vi 0),(vi 0),(vi 0),(vi 0),(vi 0),(vi 0)]) rfl fun ax ay z az=>?_
  refine A5 z Tryz.sizeOf49 (vs:=(d7 a)) fun ba aa bb=>?_
  refine C6 aa fun bc g=>?_
  refine d6 U8 ?_
  refine i8 (lW Tryz.isAgg47 Tryz.sizeOf47 rfl (g.bring 1)) ?_
  refine K2 g Tryz.sizeOf3 fun bd ab ac=>?_
  refine ⟨(ac _ (Inv.b0f ((g.bring 1).bring 1))),?_⟩
  refine d6 M3 ?_
  refine E8 ab Tryz.sizeOf47 (vs:=(m4 b)) (cs':=[(vi a.B3),(vi a.fTo),(vi a.b8),(vi x1),(vi a.P9),(vi a.fOp),(vi b.A8),(vi b.s8),(vi a.fB.A8),(vi a.fB.s8)]) rfl rfl (nb rfl) rfl rfl fun be k bf=>?_
  refine d4 (ldA Tryz.isAgg49 Tryz.sizeOf49 rfl (k.at1 (o:=0) (vs:=[(vi a.B3),(vi a.fTo),(vi a.b8),(vi x1),(vi a.P9),(vi a.fOp),(vi b.A8),(vi b.s8),(vi a.fB.A8),(vi a.fB.s8)]) (nb rfl) rfl)) ?_
  refine f9 Tryz.call57 (h g0 c d e) ((k.bring 3).bring 3) ?_
  rintro _ ad _ bg ae _ _ ⟨af,ag,ah,ai,rfl,rfl,aj,h⟩
  exact hR _ ad _ _ (((((ae.bring 2).drop.bring 2).drop.bring 2).drop.bring 1).bring 1) ⟨(d8 af),ag,ah,ai,rfl,rfl,aj,h⟩
def a3Q(x0:f6)(a:(List b7))(x1:Sl)(x2:Int)(H:Hp)(K:Int→f6→(List b7)→Hp→Prop):Prop:=
 ((x1.n:Int)=0→
 K x2 (d8 x0) a H)∧
 (¬((x1.n:Int)=0)→
 D4 (d8 x0) a H (fun b c d e=>
 K b (d8 c) d e))
theorem a8Q(x0 a x1 x2){H K}(h:a3Q x0 a x1 x2 H K):Q3 x0 a x1 x2 H K:=by
 intro g0 b c d
 refine Ct.of fun w0 w ps0 H0 R E I hR=>d0K ?_
 refine b6 (a1i _ _ _) (b6 pEq ?_)
 refine g7 h (fun _ h=>?_) (fun _ h=>?_)
 ·exact hR _ H _ _ ((I.bring 1).bring 1) ⟨x2,(d8 x0),a,b,c,rfl,rfl,d,h⟩
 ·refine f9 Tryz.call14 (h g0 b c d) ((I.bring 1).bring 1) ?_
  rintro _ e _ n f _ _ ⟨g,i,j,k,l,rfl,rfl,m,h⟩
  exact hR _ e _ _ ((f.bring 1).bring 1) ⟨g,(d8 i),j,k,l,rfl,rfl,m,h⟩
def a5e(x0:f6)(b:(List b7))(x1:y9)(x2:Int)(x3:Int)(x4:Int)(H:Hp)(K:f6→(List b7)→Hp→Prop):Prop:=
 (x1.b8=1→
 M0 x2 x3 1 H (fun r s=>
 C4 (d8 x0) b r s (fun t u v=>
 K (d8 t) u v)))∧
 (¬(x1.b8=1)→
 (x1.b8=2→
 M0 x2 x4 1 H (fun y z=>
 C4 (d8 x0) b y z (fun aa ab ac=>
 K (d8 aa) ab ac)))∧
 (¬(x1.b8=2)→
 (x1.b8=4→
 (0:Int)≤0∧(0:Int) < x1.C7.n∧∃c:y9,EltH H x1.C7 0 4 (p5 c)∧
 C9 (d8 x0) b c x2 x4 x3 H (fun ad ae af=>
 K (d8 ad) ae af))∧
 (¬(x1.b8=4)→
 (x1.b8=5→
 D4 (d8 x0) b H (fun d ag ah e=>
 (0:Int)≤0∧(0:Int) < x1.C7.n∧∃f:y9,EltH e x1.C7 0 4 (p5 f)∧
 C9 (d8 ag) ah f x2 d x4 e (fun ai aj g=>
 (0:Int)≤1∧(1:Int) < x1.C7.n∧∃i:y9,EltH g x1.C7 1 4 (p5 i)∧
 C9 (d8 ai) aj i d x3 x4 g (fun ak al am=>
 K (d8 ak) al am))))∧
 (¬(x1.b8=5)→
 (x1.b8=6→
 D4 (d8 x0) b H (fun j an ao k=>
 (0:Int)≤0∧(0:Int) < x1.C7.n∧∃l:y9,EltH k x1.C7 0 4 (p5 l)∧
 C9 (d8 an) ao l x2 x3 j k (fun ap aq m=>
 (0:Int)≤1∧(1:Int) < x1.C7.n∧∃o:y9,EltH m x1.C7 1 4 (p5 o)∧
 C9 (d8 ap) aq o j x3 x4 m (fun ar au av=>
 K (d8 ar) au av))))∧
 (¬(x1.b8=6)→
 T9 (d8 x0) b x1.t7 x2 0 H (fun p q aw ax ay az=>
 M0 aw x3 12 az (fun a ba=>
 C4 (d8 ax) ay (b7.mk a.B3 a.fTo a.b8 a.D8 a.P9 x1.fOp p q) ba (fun bb bc bd=>
 a2i x1.fOp bd (fun be bf=>
 C4 (d8 bb) bc (b7.mk a.B3 x4 a.b8 a.D8 a.P9 be p q) bf (fun bg bh bi=>
 K (d8 bg) bh bi))))))))))
theorem a9R(x0 t x1 x2 x3 x4){H K}(h:a5e x0 t x1 x2 x3 x4 H K):C9 x0 t x1 x2 x3 x4 H K:=by
 intro g0 e f g
 refine Ct.of fun w0 w ps0 H0 R E I hR=>d0L ?_
 refine z7 I (cs:=(p5 x1)) rfl fun dz ea b eb=>?_
 refine b6 a6C (d4 (l1 Tryz.isAgg3 b rfl) (b6 pEq ?_))
 refine g7 h (fun _ h=>?_) (fun _ h=>?_)
 ·refine f9 Tryz.call55 h b ?_
  rintro _ _ _ ec ab _ _ ⟨ed,rfl,rfl,h⟩
  refine f9 Tryz.call57 (h g0 e f g) ((ab.bring 2).bring 2) ?_
  rintro _ ac _ ee ad _ _ ⟨ae,af,ag,ah,rfl,rfl,ai,h⟩
  exact hR _ ac _ _ (((ad.bring 2).drop.bring 1).bring 1) ⟨(d8 ae),af,ag,ah,rfl,rfl,ai,h⟩
 ·refine b6 pEq ?_
  refine g7 h (fun _ h=>?_) (fun _ h=>?_)
  ·refine f9 Tryz.call55 h b ?_
   rintro _ _ _ ef aj _ _ ⟨eg,rfl,rfl,h⟩
   refine f9 Tryz.call57 (h g0 e f g) ((aj.bring 2).bring 2) ?_
   rintro _ ak _ eh al _ _ ⟨am,an,ao,ap,rfl,rfl,aq,h⟩
   exact hR _ ak _ _ (((al.bring 2).drop.bring 1).bring 1) ⟨(d8 am),an,ao,ap,rfl,rfl,aq,h⟩
  ·refine b6 pEq ?_
   refine g7 h (fun _ h=>?_) (fun _ h=>?_)
   ·refine b6 R9 (d4 (l1 Tryz.isAgg102 b rfl) ?_)
    obtain ⟨ar,au,av,j,h⟩:=h
    obtain ⟨ei,ej,aw,j⟩:=j
    refine b6 (O6 aw _ _ _ _ ar au) (d4 (ldA (vs:=(p5 av)) Tryz.isAgg122 Tryz.sizeOf122 rfl (b.atH j)) ?_)
    refine f9 Tryz.call59 (h g0 e f g) ((b.bring 2).bring 2) ?_
    rintro _ ax _ ek ay _ _ ⟨az,ba,bb,bc,rfl,rfl,bd,h⟩
    exact hR _ ax _ _ (((ay.bring 2).drop.bring 1).bring 1) ⟨(d8 az),ba,bb,bc,rfl,rfl,bd,h⟩
   ·refine b6 pEq ?_
    refine g7 h (fun _ h=>?_) (fun _ h=>?_)
    ·refine f9 Tryz.call14 (h g0 e f g) ((b.bring 2).bring 2) ?_
     rintro _ _ _ el k _ _ ⟨em,en,eo,be,bf,rfl,rfl,bg,h⟩
     refine b6 R9 (d4 (l1 Tryz.isAgg102 (k.bring 2) rfl) ?_)
     obtain ⟨bh,bi,bj,l,h⟩:=h
     obtain ⟨ep,eq,bk,l⟩:=l
     refine b6 (O6 bk _ _ _ _ bh bi) (d4 (ldA (vs:=(p5 bj)) Tryz.isAgg122 Tryz.sizeOf122 rfl (k.atH l)) ?_)
     refine f9 Tryz.call59 (h g0 be bf bg) ((k.bring 1).bring 1) ?_
     rintro _ _ _ er m _ _ ⟨es,et,bl,bm,rfl,rfl,bn,h⟩
     refine b6 R9 (d4 (l1 Tryz.isAgg102 (m.bring 2) rfl) ?_)
     obtain ⟨bo,bp,bq,n,h⟩:=h
     obtain ⟨eu,ev,br,n⟩:=n
     refine b6 (O6 br _ _ _ _ bo bp) (d4 (ldA (vs:=(p5 bq)) Tryz.isAgg122 Tryz.sizeOf122 rfl (m.atH n)) ?_)
     refine f9 Tryz.call59 (h g0 bl bm bn) ((m.bring 1).bring 1) ?_
     rintro _ bs _ ew bt _ _ ⟨bu,bv,bw,bz,rfl,rfl,ca,h⟩
     exact hR _ bs _ _ (((bt.bring 2).drop.bring 1).bring 1) ⟨(d8 bu),bv,bw,bz,rfl,rfl,ca,h⟩
    ·refine b6 pEq ?_
     refine g7 h (fun _ h=>?_) (fun _ h=>?_)
     ·refine f9 Tryz.call14 (h g0 e f g) ((b.bring 2).bring 2) ?_
      rintro _ _ _ ex p _ _ ⟨ey,ez,fa,cb,cc,rfl,rfl,cd,h⟩
      refine b6 R9 (d4 (l1 Tryz.isAgg102 (p.bring 2) rfl) ?_)
      obtain ⟨ce,cf,cg,q,h⟩:=h
      obtain ⟨fb,fc,ch,q⟩:=q
      refine b6 (O6 ch _ _ _ _ ce cf) (d4 (ldA (vs:=(p5 cg)) Tryz.isAgg122 Tryz.sizeOf122 rfl (p.atH q)) ?_)
      refine f9 Tryz.call59 (h g0 cb cc cd) ((p.bring 1).bring 1) ?_
      rintro _ _ _ fd r _ _ ⟨fe,ff,ci,cj,rfl,rfl,ck,h⟩
      refine b6 R9 (d4 (l1 Tryz.isAgg102 (r.bring 2) rfl) ?_)
      obtain ⟨cl,cm,cn,s,h⟩:=h
      obtain ⟨fg,fh,co,s⟩:=s
      refine b6 (O6 co _ _ _ _ cl cm) (d4 (ldA (vs:=(p5 cn)) Tryz.isAgg122 Tryz.sizeOf122 rfl (r.atH s)) ?_)
      refine f9 Tryz.call59 (h g0 ci cj ck) ((r.bring 1).bring 1) ?_
      rintro _ cp _ fi cq _ _ ⟨cr,ct,cu,cv,rfl,rfl,cw,h⟩
      exact hR _ cp _ _ (((cq.bring 2).drop.bring 1).bring 1) ⟨(d8 cr),ct,cu,cv,rfl,rfl,cw,h⟩
     ·refine b6 a4D (d4 (l1 Tryz.isAgg101 b rfl) ?_)
      refine f9 Tryz.call56 (h g0 e f g) ((b.bring 2).bring 2) ?_
      rintro _ _ _ fj cx _ _ ⟨c,d,cy,fk,fl,cz,da,rfl,rfl,db,h⟩
      refine b6 (i5 _ _ _ rfl) (b6 (i5 _ _ _ rfl) (b6 (i5 _ _ (vi cy) rfl) ?_))
      refine s6 cx Tryz.zeroValue47 (cs:=[(vi 0),(vi 0)]) rfl fun fm fn dc fo=>?_
      refine s6 dc Tryz.zeroValue47 (cs:=[(vi 0),(vi 0)]) rfl fun fp fq dd fs=>?_
      refine A5 (dd.bring 1) Tryz.sizeOf47 (vs:=(m4 c)) fun ft de fu=>?_
      refine A5 (de.bring 1) Tryz.sizeOf47 (vs:=(m4 d)) fun fv df fw=>?_
      refine f9 Tryz.call55 h df ?_
      rintro _ _ _ fx dg _ _ ⟨a,rfl,rfl,h⟩
      refine s6 dg Tryz.zeroValue49 (cs:=[(vi 0),(vi 0),(vi 0),(vi 0),(vi 0),(vi 0),(vi 0),(vi 0),(vi 0),(vi 0)]) rfl fun fy fz dh ga=>?_
      refine A5 dh Tryz.sizeOf49 (vs:=(d7 a)) fun gb di gc=>?_
      refine C6 di fun gd i=>?_
      refine d6 a4F ?_
      refine i8 (l1 Tryz.isAgg3 (i.bring 5) rfl) ?_
      refine d6 a2H ?_
      refine i8 (lW Tryz.isAgg47 Tryz.sizeOf47 rfl (i.bring 2)) ?_
      refine i8 (lW Tryz.isAgg47 Tryz.sizeOf47 rfl (i.bring 1)) ?_
      refine K2 i Tryz.sizeOf3 fun ge u v=>?_
      refine ⟨(v _ (Inv.b0f ((i.bring 1).bring 1))),(v _ (Inv.b0f ((i.bring 2).bring 1))),?_⟩
      refine d6 M3 ?_
      refine E8 u Tryz.sizeOf47 (vs:=(m4 c)) (cs':=[(vi a.B3),(vi a.fTo),(vi a.b8),(vi a.D8),(vi a.P9),(vi x1.fOp),(vi c.A8),(vi c.s8),(vi a.fB.A8),(vi a.fB.s8)]) rfl rfl (nb rfl) rfl rfl fun gf dj dk=>?_
      refine ⟨(dk _ (Inv.b0f ((u.bring 1).bring 1))),?_⟩
      refine d6 Q6 ?_
      refine E8 dj Tryz.sizeOf47 (vs:=(m4 d)) (cs':=[(vi a.B3),(vi a.fTo),(vi a.b8),(vi a.D8),(vi a.P9),(vi x1.fOp),(vi c.A8),(vi c.s8),(vi d.A8),(vi d.s8)]) rfl rfl (nb rfl) rfl rfl fun gg y gh=>?_
      refine d4 (ldA Tryz.isAgg49 Tryz.sizeOf49 rfl (y.at1 (o:=0) (vs:=[(vi a.B3),(vi a.fTo),(vi a.b8),(vi a.D8),(vi a.P9),(vi x1.fOp),(vi c.A8),(vi c.s8),(vi d.A8),(vi d.s8)]) (nb rfl) rfl)) ?_
      refine f9 Tryz.call57 (h g0 cz da db) ((y.bring 4).bring 4) ?_
      rintro _ _ _ gi z _ _ ⟨gj,gk,dl,dm,rfl,rfl,dn,h⟩
      refine b6 a4F (d4 (l1 Tryz.isAgg3 (z.bring 5) rfl) ?_)
      refine f9 Tryz.call66 h z ?_
      rintro _ _ _ gl dp _ _ ⟨dq,rfl,rfl,h⟩
      refine b6 b2n ?_
      refine K2 (dp.bring 2) Tryz.sizeOf3 fun gm dr gn=>?_
      refine b6 a2H ?_
      refine K2 dr Tryz.sizeOf3 fun go aa gp=>?_
      refine d4 (ldA Tryz.isAgg49 Tryz.sizeOf49 rfl (aa.at1 (o:=0) (vs:=[(vi a.B3),(vi x4),(vi a.b8),(vi a.D8),(vi a.P9),(vi dq),(vi c.A8),(vi c.s8),(vi d.A8),(vi d.s8)]) (nb rfl) rfl)) ?_
      refine f9 Tryz.call57 (h g0 dl dm dn) ((aa.bring 2).bring 2) ?_
      rintro _ ds _ gq dt _ _ ⟨du,dv,dw,dx,rfl,rfl,dy,h⟩
      exact hR _ ds _ _ ((((((dt.bring 2).drop.bring 2).drop.bring 2).drop.bring 2).drop.bring 1).bring 1) ⟨(d8 du),dv,dw,dx,rfl,rfl,dy,h⟩
def a5C(x0:W3)(H:Hp)(K:Sl→Hp→Prop):Prop:=
 K (Sl.mk none 0 0) H
theorem b0O(x0){H K}(h:a5C x0 H K):a5m x0 H K:=by
 refine Ct.of fun w0 w ps0 H0 R E I hR=>c7S ?_
 refine z7 I (cs:=(m3 x0.a0G)) rfl fun b c a d=>?_
 exact hR _ H _ _ a.drop ⟨_,rfl,rfl,h⟩
def R7(b0N:Bool)(c6N:Int)(b4o:Bool)(a:E2)(b:S9)(H:Hp)(K:Bool→Hp→Prop):Prop:=
 (b4o=true→
 K (b0N&&(decide (a.fexprs=0∧a.fconds=1))) H)∧
 (b4o=false→
 (c6N=7→
 K (b0N&&(decide (a.fexprs=0∧a.fconds=0))) H)∧
 (¬(c6N=7)→
 K false H))
def a6t(x0:S9)(H:Hp)(K:Bool→Hp→Prop):Prop:=
 (x0.p6.b8=1→
 K ((!(decide (0 < (IntKind.wrap .i64 ((x0.p6.S8.n:Int)+(x0.p6.U7.n:Int))))))&&(decide ((x0.p6.t7.n:Int)=1∧(x0.p6.D3.n:Int)=0))) H)∧
 (¬(x0.p6.b8=1)→
 (x0.p6.b8=2→
 K ((!(decide (0 < (IntKind.wrap .i64 ((x0.p6.S8.n:Int)+(x0.p6.U7.n:Int))))))&&(decide ((x0.p6.t7.n:Int)=2∧(x0.p6.D3.n:Int)=0))) H)∧
 (¬(x0.p6.b8=2)→
 (x0.p6.b8=3→
 K ((decide (x0.p6.f8=⟨#[]⟩))&&(decide ((x0.p6.t7.n:Int)=0∧(x0.p6.D3.n:Int)=1))) H)∧
 (¬(x0.p6.b8=3)→
 (x0.p6.b8=4→
 K (((decide (x0.p6.f8=⟨#[]⟩))&&(decide ((x0.p6.U7.n:Int)=0)))&&(decide ((x0.p6.t7.n:Int)=0∧(x0.p6.D3.n:Int)=1))) H)∧
 (¬(x0.p6.b8=4)→
 (x0.p6.b8=5→
 R7 ((decide (x0.p6.f8=⟨#[]⟩))&&(!(decide (0 < (IntKind.wrap .i64 ((x0.p6.S8.n:Int)+(x0.p6.U7.n:Int))))))) x0.p6.b8 (decide (x0.p6.b8=5)) (E2.mk (x0.p6.t7.n:Int) (x0.p6.D3.n:Int)) x0 H K)∧
 (¬(x0.p6.b8=5)→
 R7 ((decide (x0.p6.f8=⟨#[]⟩))&&(!(decide (0 < (IntKind.wrap .i64 ((x0.p6.S8.n:Int)+(x0.p6.U7.n:Int))))))) x0.p6.b8 (decide (x0.p6.b8=6)) (E2.mk (x0.p6.t7.n:Int) (x0.p6.D3.n:Int)) x0 H K)))))
theorem b1c(x0){H K}(h:a6t x0 H K):a2x x0 H K:=by
 refine Ct.of fun w0 w ps0 H0 R E I hR=>c7T ?_
 refine z7 I (cs:=(p8 x0.p6)) rfl fun e i c j=>?_
 refine b6 N2 (b6 a0Y (d4 (l1 Tryz.isAgg23 c rfl) (b6 (a1i _ _ _) (b6 N2 ?_))))
 refine b6 a2R (d4 (l1 Tryz.isAgg23 c rfl) (b6 (a1i _ _ _) (b6 pAd (b6 pGt ?_))))
 refine b6 N2 (b6 a2Q (d4 (l1 Tryz.isAgg101 c rfl) (b6 (a1L _ _ _) (b6 N2 ?_))))
 refine b6 a1V (d4 (l1 Tryz.isAgg102 c rfl) (b6 (a7o _ _ _) (b6 (a1Y _ _) ?_)))
 refine s6 c Tryz.zeroValue227 (cs:=[(vi 0),(vi 0)]) rfl fun d k f l=>?_
 refine A5 f Tryz.sizeOf227 (vs:=[(vi (x0.p6.t7.n:Int)),(vi (x0.p6.D3.n:Int))]) fun m b p=>?_
 refine b6 N2 (b6 a0d (d4 (l1 Tryz.isAgg9 (b.bring 1) rfl) (b6 (a1F _ _ _ _ _) ?_)))
 simp only [J0]
 refine b6 (Pu.g fun a=>by simp only [j8 a];with_reducible exact (O4 _)) ?_
 refine b6 (E0 _ _) (b6 N2 (b6 a4C (d4 (l1 Tryz.isAgg3 (b.bring 1) rfl) (b6 pEq ?_))))
 refine g7 h (fun _ h=>?_) (fun _ h=>?_)
 ·refine b6 (O4 _) ?_
  refine d4 (Ld.g fun a=>by exact (ldA Tryz.isAgg227 Tryz.sizeOf227 rfl (b.at1 (o:=0) (vs:=[(vi (x0.p6.t7.n:Int)),(vi (x0.p6.D3.n:Int))]) (nb rfl) rfl))) ?_
  refine b6 (Pu.g fun a=>by with_reducible exact (a1Y _ _)) ?_
  refine b6 (Pu.g fun a=>by simp only [j8 a];with_reducible exact (a7a _ _ _ _ _ _)) ?_
  refine b6 (E0 _ _) ?_
  exact hR _ H _ _ b.drop.drop ⟨_,rfl,rfl,h⟩
 ·refine b6 pEq ?_
  refine g7 h (fun _ h=>?_) (fun _ h=>?_)
  ·refine b6 (O4 _) ?_
   refine d4 (Ld.g fun a=>by exact (ldA Tryz.isAgg227 Tryz.sizeOf227 rfl (b.at1 (o:=0) (vs:=[(vi (x0.p6.t7.n:Int)),(vi (x0.p6.D3.n:Int))]) (nb rfl) rfl))) ?_
   refine b6 (Pu.g fun a=>by with_reducible exact (a1Y _ _)) ?_
   refine b6 (Pu.g fun a=>by simp only [j8 a];with_reducible exact (a7a _ _ _ _ _ _)) ?_
   refine b6 (E0 _ _) ?_
   exact hR _ H _ _ b.drop.drop ⟨_,rfl,rfl,h⟩
  ·refine b6 pEq ?_
   refine g7 h (fun _ h=>?_) (fun _ h=>?_)
   ·refine b6 N2 (b6 a0d (d4 (l1 Tryz.isAgg9 (b.bring 1) rfl) (b6 (a1F _ _ _ _ _) ?_)))
    refine d4 (Ld.g fun a=>by exact (ldA Tryz.isAgg227 Tryz.sizeOf227 rfl (b.at1 (o:=0) (vs:=[(vi (x0.p6.t7.n:Int)),(vi (x0.p6.D3.n:Int))]) (nb rfl) rfl))) ?_
    refine b6 (Pu.g fun a=>by with_reducible exact (a1Y _ _)) ?_
    refine b6 (Pu.g fun a=>by simp only [j8 a];with_reducible exact (a7a _ _ _ _ _ _)) ?_
    refine b6 (E0 _ _) ?_
    exact hR _ H _ _ b.drop.drop ⟨_,rfl,rfl,h⟩
   ·refine b6 pEq ?_
    refine g7 h (fun _ h=>?_) (fun _ h=>?_)
    ·refine b6 N2 (b6 a0d (d4 (l1 Tryz.isAgg9 (b.bring 1) rfl) (b6 (a1F _ _ _ _ _) ?_)))
     refine b6 (Pu.g fun a=>by with_reducible exact N2) ?_
     refine b6 (Pu.g fun a=>by simp only [j8 a];with_reducible exact a2R) ?_
     refine d4 (Ld.g fun a=>by simp only [j8 a];exact (l1 Tryz.isAgg23 (b.bring 1) rfl)) ?_
     refine b6 (Pu.g fun a=>by simp only [j8 a];with_reducible exact (a1i _ _ _)) ?_
     refine b6 (Pu.g fun a=>by simp only [j8 a];with_reducible exact pEq) ?_
     refine b6 (E0 _ _) ?_
     refine d4 (Ld.g fun a=>by exact (ldA Tryz.isAgg227 Tryz.sizeOf227 rfl (b.at1 (o:=0) (vs:=[(vi (x0.p6.t7.n:Int)),(vi (x0.p6.D3.n:Int))]) (nb rfl) rfl))) ?_
     refine b6 (Pu.g fun a=>by with_reducible exact (a1Y _ _)) ?_
     refine b6 (Pu.g fun a=>by simp only [j8 a];with_reducible exact (a7a _ _ _ _ _ _)) ?_
     refine b6 (E0 _ _) ?_
     exact hR _ H _ _ b.drop.drop ⟨_,rfl,rfl,h⟩
    ·have hj1:∀(b4o:Bool) H w (_:Inv w0 ps0 H0 H [bx d 227 [(vi (E2.mk (x0.p6.t7.n:Int) (x0.p6.D3.n:Int)).fexprs),(vi (E2.mk (x0.p6.t7.n:Int) (x0.p6.D3.n:Int)).fconds)],bx e 190 (p8 x0.p6)] w) (_:R7 ((decide (x0.p6.f8=⟨#[]⟩))&&(!(decide (0 < (IntKind.wrap .i64 ((x0.p6.S8.n:Int)+(x0.p6.U7.n:Int))))))) x0.p6.b8 b4o (E2.mk (x0.p6.t7.n:Int) (x0.p6.D3.n:Int)) x0 H K),c0C (Value.pointer (some ⟨d,0,none⟩)) (vB ((decide (x0.p6.f8=⟨#[]⟩))&&(!(decide (0 < (IntKind.wrap .i64 ((x0.p6.S8.n:Int)+(x0.p6.U7.n:Int)))))))) (vi x0.p6.b8) (vB b4o) w R E:=by
      intro b4o H w I h
      intro _
      refine u5 h (fun _ h=>?_) (fun _ h=>?_)
      ·refine d4 (Ld.g fun a=>by exact (ldA Tryz.isAgg227 Tryz.sizeOf227 rfl (I.at1 (o:=0) (vs:=[(vi (E2.mk (x0.p6.t7.n:Int) (x0.p6.D3.n:Int)).fexprs),(vi (E2.mk (x0.p6.t7.n:Int) (x0.p6.D3.n:Int)).fconds)]) (nb rfl) rfl))) ?_
       refine b6 (Pu.g fun a=>by with_reducible exact (a1Y _ _)) ?_
       refine b6 (Pu.g fun a=>by simp only [j8 a];with_reducible exact (a7a _ _ _ _ _ _)) ?_
       refine b6 (E0 _ _) ?_
       exact hR _ H _ _ I.drop.drop ⟨_,rfl,rfl,h⟩
      ·refine b6 pEq ?_
       refine g7 h (fun _ h=>?_) (fun _ h=>?_)
       ·refine d4 (Ld.g fun a=>by exact (ldA Tryz.isAgg227 Tryz.sizeOf227 rfl (I.at1 (o:=0) (vs:=[(vi (E2.mk (x0.p6.t7.n:Int) (x0.p6.D3.n:Int)).fexprs),(vi (E2.mk (x0.p6.t7.n:Int) (x0.p6.D3.n:Int)).fconds)]) (nb rfl) rfl))) ?_
        refine b6 (Pu.g fun a=>by with_reducible exact (c1v)) ?_
        refine b6 (Pu.g fun a=>by simp only [j8 a];with_reducible exact (a7a _ _ _ _ _ _)) ?_
        refine b6 (E0 _ _) ?_
        exact hR _ H _ _ I.drop.drop ⟨_,rfl,rfl,h⟩
       ·exact hR _ H _ _ I.drop.drop ⟨_,rfl,rfl,h⟩
     refine v6 fun j1 hx1=>?_
     refine b6 pEq ?_
     refine g7 h (fun _ h=>?_) (fun _ h=>?_)
     ·exact hx1 _ _ (hj1 (decide (x0.p6.b8=5)) H _ ((b.bring 1).bring 1) h)
     ·refine b6 pEq ?_
      exact hx1 _ _ (hj1 (decide (x0.p6.b8=6)) H _ ((b.bring 1).bring 1) h)
def a7N(x0:y9)(H:Hp)(K:d9→Hp→Prop):Prop:=
 K (d9.N1 (T0.mk x0)) H
theorem b2Z(x0){H K}(h:a7N x0 H K):a7u x0 H K:=by
 refine Ct.of fun w0 w ps0 H0 R E I hR=>c7X ?_
 refine z7 I (cs:=(p5 x0)) rfl fun b c a d=>?_
 refine d4 (lW Tryz.isAgg122 Tryz.sizeOf122 rfl a) (b6 (b8H _ _ _ _ _ _ _ _) (b6 (b6O (T0.mk x0)) ?_))
 exact hR _ H _ _ a.drop ⟨_,rfl,rfl,h⟩
end Go.Proofs.YthaaobpfbgcfiaaGreatDoor
