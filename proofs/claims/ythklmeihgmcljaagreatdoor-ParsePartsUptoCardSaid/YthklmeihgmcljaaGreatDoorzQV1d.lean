/- Typed formulas of the program's functions, and the theorems that the contracts follow from them; printed by lift.py off the code. -/
import Derived.Test.YthklmeihgmcljaaGreatDoorzQV1
namespace Go.Proofs.YthklmeihgmcljaaGreatDoor
open Go.RowKit
set_option maxRecDepth 100000
set_option maxHeartbeats 2000000
def a6W (H:Hp) (K:Bool→Hp→Prop):Prop:=
 a3T ⟨#[118,97,114,32,120,59,32,120,32,61,32,49,32,43,32,50,32,42,32,120,59]⟩ H (fun a k b i=>
 a3T ⟨#[120,32,61,32,59]⟩ i (fun l f j c=>
 ∃d:j9,((((decide (b=0))&&(decide ((a.a7c.n:Int)=1)))&&(decide ((a.a6h.n:Int)=1)))=true→(0:Int)≤0∧(0:Int) < a.a6h.n∧EltH c a.a6h 0 6 (y2 d))∧
 ∃e:j9,(((((decide (b=0))&&(decide ((a.a7c.n:Int)=1)))&&(decide ((a.a6h.n:Int)=1)))&&(decide ((d.o0.n:Int)=1)))=true→(0:Int)≤0∧(0:Int) < a.a6h.n∧EltH c a.a6h 0 6 (y2 e))∧
 ∃g:d6,(((((decide (b=0))&&(decide ((a.a7c.n:Int)=1)))&&(decide ((a.a6h.n:Int)=1)))&&(decide ((d.o0.n:Int)=1)))=true→(0:Int)≤0∧(0:Int) < e.o0.n∧EltH c e.o0 0 4 (d7 g))∧
 K (((((((decide (b=0))&&(decide ((a.a7c.n:Int)=1)))&&(decide ((a.a6h.n:Int)=1)))&&(decide ((d.o0.n:Int)=1)))&&(decide (g.d8=6)))&&(decide (j=40)))&&(decide (f.o8=1∧f.s6=5))) c))
theorem b0L {H K} (h:a6W H K):a3U H K:=by
 refine Ct.of fun w0 w ps0 H0 R E I hR=>d3K ?_
 unfold a6W at h
 unfold F8
 refine g6 Tryz.call9 h I ?_
 rintro _ _ _ af s _ _ ⟨f,o,p,rfl,rfl,h⟩
 refine a7 (g7 _ _ _ rfl) (a7 (g7 _ _ _ rfl) (a7 (g7 _ _ (vi p) rfl) ?_))
 refine m9 s Tryz.zeroValue26 (cs:=[(nS),(nS)]) rfl fun ag ah t ai=>?_
 refine m9 t Tryz.zeroValue28 (cs:=[(vi 0),(vi 0)]) rfl fun aj ak u al=>?_
 refine f8 (u.bring 1) Tryz.sizeOf26 (vs:=(u2 f)) (cs':=(u2 f)) rfl rfl (nb rfl) rfl rfl fun am y an=>?_
 refine f8 (y.bring 1) Tryz.sizeOf28 (vs:=(b9 o)) (cs':=(b9 o)) rfl rfl (nb rfl) rfl rfl fun ao z ap=>?_
 refine g6 Tryz.call9 h z ?_
 rintro _ aa _ aq ab _ _ ⟨q,i,r,rfl,rfl,h⟩
 refine a7 (g7 _ _ _ rfl) (a7 (g7 _ _ _ rfl) (a7 (g7 _ _ (vi r) rfl) ?_))
 refine m9 ab Tryz.zeroValue26 (cs:=[(nS),(nS)]) rfl fun ar au ac av=>?_
 refine m9 ac Tryz.zeroValue28 (cs:=[(vi 0),(vi 0)]) rfl fun aw ax ad ay=>?_
 refine f8 (ad.bring 1) Tryz.sizeOf26 (vs:=(u2 q)) (cs':=(u2 q)) rfl rfl (nb rfl) rfl rfl fun az ae ba=>?_
 refine f8 (ae.bring 1) Tryz.sizeOf28 (vs:=(b9 i)) (cs':=(b9 i)) rfl rfl (nb rfl) rfl rfl fun bb b bc=>?_
 refine a7 pEq ?_
 refine a7 (Pu.g fun a=>by with_reducible exact b0D) ?_
 refine g5 (Ld.g fun a=>by simp only [k7 a];exact (l1 Tryz.isAgg23 (b.bring 3) rfl)) ?_
 refine a7 (Pu.g fun a=>by simp only [k7 a];with_reducible exact (b7I _ _ _)) ?_
 refine a7 (Pu.g fun a=>by simp only [k7 a];with_reducible exact pEq) ?_
 refine a7 (u4 _ _) ?_
 refine a7 (Pu.g fun a=>by with_reducible exact a7D) ?_
 refine g5 (Ld.g fun a=>by simp only [k7 a];exact (l1 Tryz.isAgg24 (b.bring 3) rfl)) ?_
 refine a7 (Pu.g fun a=>by simp only [k7 a];with_reducible exact (a9Z _ _ _)) ?_
 refine a7 (Pu.g fun a=>by simp only [k7 a];with_reducible exact pEq) ?_
 refine a7 (u4 _ _) ?_
 refine a7 (Pu.g fun a=>by with_reducible exact a7D) ?_
 refine g5 (Ld.g fun a=>by simp only [k7 a];exact (l1 Tryz.isAgg24 (b.bring 3) rfl)) ?_
 obtain ⟨j,c,h⟩:=h
 obtain ⟨bd,be,c⟩:=c2v c
 refine a7 (Pu.g fun hb=>by have a:=hb;simp only [k7 a];with_reducible exact (b5y (c hb).2.2.1 _ _ _ _ (c hb).1 (c hb).2.1)) ?_
 refine a7 (Pu.g fun a=>by simp only [k7 a];with_reducible exact a5q) ?_
 refine g5 (Ld.g fun hb=>by have a:=hb;simp only [k7 a];exact (ld1 (v:=(vs j.o0)) Tryz.isAgg38 ((b.atH (c hb).2.2.2).sub (k:=2) (n:=1) (nb rfl)))) ?_
 refine a7 (Pu.g fun a=>by simp only [k7 a];with_reducible exact (T0 _ _ _)) ?_
 refine a7 (Pu.g fun a=>by simp only [k7 a];with_reducible exact pEq) ?_
 refine a7 (u4 _ _) ?_
 refine a7 (Pu.g fun a=>by with_reducible exact a7D) ?_
 refine g5 (Ld.g fun a=>by simp only [k7 a];exact (l1 Tryz.isAgg24 (b.bring 3) rfl)) ?_
 obtain ⟨m,d,h⟩:=h
 obtain ⟨bf,bg,d⟩:=c2v d
 refine a7 (Pu.g fun hb=>by have a:=hb;simp only [k7 a];with_reducible exact (b5y (d hb).2.2.1 _ _ _ _ (d hb).1 (d hb).2.1)) ?_
 refine a7 (Pu.g fun a=>by simp only [k7 a];with_reducible exact a5q) ?_
 refine g5 (Ld.g fun hb=>by have a:=hb;simp only [k7 a];exact (ld1 (v:=(vs m.o0)) Tryz.isAgg38 ((b.atH (d hb).2.2.2).sub (k:=2) (n:=1) (nb rfl)))) ?_
 obtain ⟨l,e,h⟩:=h
 obtain ⟨bh,bi,e⟩:=c2v e
 refine a7 (Pu.g fun hb=>by have a:=hb;simp only [k7 a];with_reducible exact (a5F (e hb).2.2.1 _ _ _ _ (e hb).1 (e hb).2.1)) ?_
 refine a7 (Pu.g fun a=>by simp only [k7 a];with_reducible exact a1p) ?_
 refine g5 (Ld.g fun hb=>by have a:=hb;simp only [k7 a];exact (ld1 (v:=(vi l.d8)) Tryz.isAgg3 ((b.atH (e hb).2.2.2).sub (k:=0) (n:=1) (nb rfl)))) ?_
 refine a7 (Pu.g fun a=>by simp only [k7 a];with_reducible exact pEq) ?_
 refine a7 (u4 _ _) ?_
 simp only [q9]
 refine a7 (Pu.g fun a=>by simp only [k7 a];with_reducible exact pEq) ?_
 refine a7 (u4 _ _) ?_
 refine g5 (Ld.g fun a=>by exact (lW Tryz.isAgg28 Tryz.sizeOf28 rfl b)) ?_
 refine a7 (Pu.g fun a=>by with_reducible exact (a6y _ _)) ?_
 refine a7 (Pu.g fun a=>by simp only [k7 a];with_reducible exact (b8O _ _ _ _ _ _)) ?_
 refine a7 (u4 _ _) ?_
 exact hR _ aa _ _ b.drop.drop.drop.drop ⟨(((((((decide (p=0))&&(decide ((f.a7c.n:Int)=1)))&&(decide ((f.a6h.n:Int)=1)))&&(decide ((j.o0.n:Int)=1)))&&(decide (l.d8=6)))&&(decide (r=40)))&&(decide (i.o8=1∧i.s6=5))),rfl,rfl,h⟩
def Q9 (d5D:Int) (d2p:Int) (a6X:Int) (H:Hp) (K:Int→Int→Bool→Hp→Prop):Prop:=
 ((((decide (a6X < d2p))||(decide (1114111 < a6X)))||((decide (55296≤a6X))&&(decide (a6X < 57344))))=true→
 K 65533 1 false H)∧
 ((((decide (a6X < d2p))||(decide (1114111 < a6X)))||((decide (55296≤a6X))&&(decide (a6X < 57344))))=false→
 K a6X d5D true H)
def X0 (a9E:ByteArray) (a7X:Int) (c5t:Int) (d5E:Int) (a8i:Int) (a0o:Int) (H:Hp) (n3:(Int×Int)→Hp→Prop) (K:Int→Int→Bool→Hp→Prop):Prop:=
 (a0o < c5t→
 ((decide ((a9E.size:Int)≤(IntKind.wrap .i64 (a7X+a0o))))=false→(0:Int)≤IntKind.wrap .i64 (a7X+a0o)∧IntKind.wrap .i64 (a7X+a0o) < (a9E.size:Int))∧
 (((decide ((a9E.size:Int)≤(IntKind.wrap .i64 (a7X+a0o))))||(decide (((a9E.get! (IntKind.wrap .i64 (a7X+a0o):Int).toNat).toNat:Int) < 128)))=false→(0:Int)≤IntKind.wrap .i64 (a7X+a0o)∧IntKind.wrap .i64 (a7X+a0o) < (a9E.size:Int))∧
 ((((decide ((a9E.size:Int)≤(IntKind.wrap .i64 (a7X+a0o))))||(decide (((a9E.get! (IntKind.wrap .i64 (a7X+a0o):Int).toNat).toNat:Int) < 128)))||(decide (192≤((a9E.get! (IntKind.wrap .i64 (a7X+a0o):Int).toNat).toNat:Int))))=true→
 K 65533 1 false H)∧
 ((((decide ((a9E.size:Int)≤(IntKind.wrap .i64 (a7X+a0o))))||(decide (((a9E.get! (IntKind.wrap .i64 (a7X+a0o):Int).toNat).toNat:Int) < 128)))||(decide (192≤((a9E.get! (IntKind.wrap .i64 (a7X+a0o):Int).toNat).toNat:Int))))=false→
 (0:Int)≤IntKind.wrap .i64 (a7X+a0o)∧IntKind.wrap .i64 (a7X+a0o) < (a9E.size:Int)∧
 n3 ((IntKind.wrap .i64 ((IntKind.wrap .i64 ((IntKind.wrap .i64 (64*a8i))+(IntKind.wrap .i64 ((a9E.get! (IntKind.wrap .i64 (a7X+a0o):Int).toNat).toNat:Int))))-128)),(IntKind.wrap .i64 (a0o+1))) H))∧
 (¬(a0o < c5t)→
 Q9 c5t d5E a8i H K)
def G8 (a5K:ByteArray) (T5:Int) (a6s:Int) (b3V:Int) (b4H:Int) (H:Hp) (K:Int→Int→Bool→Hp→Prop):Prop:=
 TL ((b4H,1):Int×Int) H fun (s:Int×Int) H n3=>X0 a5K T5 a6s b3V s.1 s.2 H n3 K
def a2f (x0:ByteArray) (x1:Int) (H:Hp) (K:Int→Int→Bool→Hp→Prop):Prop:=
 (0:Int)≤x1∧x1 < (x0.size:Int)∧
 ((IntKind.wrap .i64 ((x0.get! (x1:Int).toNat).toNat:Int)) < 128→
 K (IntKind.wrap .i64 ((x0.get! (x1:Int).toNat).toNat:Int)) 1 true H)∧
 (¬((IntKind.wrap .i64 ((x0.get! (x1:Int).toNat).toNat:Int)) < 128)→
 (((decide (194≤(IntKind.wrap .i64 ((x0.get! (x1:Int).toNat).toNat:Int))))&&(decide ((IntKind.wrap .i64 ((x0.get! (x1:Int).toNat).toNat:Int)) < 224)))=true→
 G8 x0 x1 2 128 (IntKind.wrap .i64 ((IntKind.wrap .i64 ((x0.get! (x1:Int).toNat).toNat:Int))-192)) H K)∧
 (((decide (194≤(IntKind.wrap .i64 ((x0.get! (x1:Int).toNat).toNat:Int))))&&(decide ((IntKind.wrap .i64 ((x0.get! (x1:Int).toNat).toNat:Int)) < 224)))=false→
 (((decide (224≤(IntKind.wrap .i64 ((x0.get! (x1:Int).toNat).toNat:Int))))&&(decide ((IntKind.wrap .i64 ((x0.get! (x1:Int).toNat).toNat:Int)) < 240)))=true→
 G8 x0 x1 3 2048 (IntKind.wrap .i64 ((IntKind.wrap .i64 ((x0.get! (x1:Int).toNat).toNat:Int))-224)) H K)∧
 (((decide (224≤(IntKind.wrap .i64 ((x0.get! (x1:Int).toNat).toNat:Int))))&&(decide ((IntKind.wrap .i64 ((x0.get! (x1:Int).toNat).toNat:Int)) < 240)))=false→
 (((decide (240≤(IntKind.wrap .i64 ((x0.get! (x1:Int).toNat).toNat:Int))))&&(decide ((IntKind.wrap .i64 ((x0.get! (x1:Int).toNat).toNat:Int)) < 245)))=true→
 G8 x0 x1 4 65536 (IntKind.wrap .i64 ((IntKind.wrap .i64 ((x0.get! (x1:Int).toNat).toNat:Int))-240)) H K)∧
 (((decide (240≤(IntKind.wrap .i64 ((x0.get! (x1:Int).toNat).toNat:Int))))&&(decide ((IntKind.wrap .i64 ((x0.get! (x1:Int).toNat).toNat:Int)) < 245)))=false→
 K 65533 1 false H))))
theorem a7r (x0 x1) {H K} (h:a2f x0 x1 H K):O0 x0 x1 H K:=by
 refine Ct.of fun w0 w ps0 H0 R E I hR=>c7A ?_
 unfold a2f at h
 unfold d1g
 obtain ⟨o,p,h⟩:=h
 refine a7 (a3r _ _ _ o p) (a7 (b3O _ _) ?_)
 have hj1:∀(a6s:Int) (b3V:Int) (b4H:Int) H w (_:Inv w0 ps0 H0 H [] w) (_:G8 x0 x1 a6s b3V b4H H K),b6E (Value.string x0) (vi x1) (vi a6s) (vi b3V) (vi b4H) w R E:=by
  intro a6s b3V b4H H w I h
  unfold b6E
  intro _
  unfold G8 at h
  have hj2:∀(a6X:Int) H w (_:Inv w0 ps0 H0 H [] w) (_:Q9 a6s b3V a6X H K),b6D (vi a6s) (vi b3V) (vi a6X) w R E:=by
   intro a6X H w I h
   unfold b6D
   intro _
   unfold Q9 at h
   refine a7 pLs ?_
   simp only [q9]
   refine a7 (Pu.g fun c=>by simp only [k7 c];with_reducible exact pGt) ?_
   refine a7 (B5 _ _) ?_
   simp only [q9]
   refine a7 (Pu.g fun c=>by simp only [k7 c];with_reducible exact pGe) ?_
   simp only [a2U,a9Y]
   refine a7 (Pu.e (Q7 _ _ _) (Pu.g fun hb=>by obtain ⟨c,d⟩:=X1 hb;simp only [k7 hb];with_reducible exact pLs)) ?_
   refine a7 (Pu.g fun c=>by simp only [k7 c,a7b c];with_reducible exact (u4 _ _)) ?_
   refine a7 (B5 _ _) ?_
   refine m0 h (fun _ h=>?_) (fun _ h=>?_)
   ·exact hR _ H _ _ I ⟨65533,1,false,rfl,rfl,h⟩
   ·exact hR _ H _ _ I ⟨a6X,a6s,true,rfl,rfl,h⟩
  refine r9 fun j2 hx2=>?_
  obtain ⟨k,j,q,r⟩:=h
  refine B0 (J:=fun n l w=>∃(s:Int×Int) (H:Hp),n=j s∧l=(match s with | (a8i,a0o)=>[(vi a8i),(vi a0o)])∧(match s with | (a8i,a0o)=>Inv w0 ps0 H0 H [] w)∧k s H) ⟨_,(b4H,1),H,rfl,rfl,I,q⟩ ?_
  rintro y z w next3 ⟨⟨a8i,a0o⟩,H,rfl,m,I,t⟩ hn3
  dsimp only at m I
  simp only [List.map_cons,List.map_nil,List.cons.injEq,and_true] at m
  obtain ⟨e10,e11⟩:=m
  simp only [e10,e11]
  obtain ⟨n3,hm3,h⟩:∃n3:(Int×Int)→Hp→Prop,(∀s' H',n3 s' H'→k s' H'∧j s' < j (a8i,a0o))∧X0 x0 x1 a6s b3V a8i a0o H n3 K:=⟨_,fun _ _ h=>h,r (a8i,a0o) H (fun s' H'=>k s' H'∧j s' < j (a8i,a0o)) t (fun _ _ a b=>⟨a,b⟩)⟩
  unfold c1p
  unfold X0 at h
  refine a7 pLs ?_
  refine l7 h (fun _ h=>?_) (fun _ h=>?_)
  ·refine a7 pAd (a7 (X3 _) (a7 pGe ?_))
   simp only [q9]
   refine a7 (Pu.g fun c=>by simp only [k7 c];with_reducible exact pAd) ?_
   obtain ⟨f,h⟩:=h
   refine a7 (Pu.g fun hb=>by have c:=hb;simp only [k7 c];with_reducible exact (a3r _ _ _ (f hb).1 (f hb).2)) ?_
   refine a7 (Pu.g fun c=>by simp only [k7 c];with_reducible exact pLs) ?_
   refine a7 (B5 _ _) ?_
   simp only [q9]
   refine a7 (Pu.g fun c=>by simp only [k7 c];with_reducible exact pAd) ?_
   obtain ⟨i,h⟩:=h
   refine a7 (Pu.g fun hb=>by have c:=hb;simp only [k7 c];with_reducible exact (a3r _ _ _ (i hb).1 (i hb).2)) ?_
   refine a7 (Pu.g fun c=>by simp only [k7 c];with_reducible exact pGe) ?_
   refine a7 (B5 _ _) ?_
   refine m0 h (fun _ h=>?_) (fun _ h=>?_)
   ·exact hR _ H _ _ I ⟨65533,1,false,rfl,rfl,h⟩
   ·refine a7 pMu (a7 pAd ?_)
    obtain ⟨u,v,h⟩:=h
    refine a7 (a3r _ _ _ u v) (a7 (b3O _ _) (a7 pAd (a7 pSu (a7 pAd ?_))))
    exact hn3 _ _ _ (hm3 _ _ h).2 ⟨((IntKind.wrap .i64 ((IntKind.wrap .i64 ((IntKind.wrap .i64 (64*a8i))+(IntKind.wrap .i64 ((x0.get! (IntKind.wrap .i64 (x1+a0o):Int).toNat).toNat:Int))))-128)),(IntKind.wrap .i64 (a0o+1))),H,rfl,rfl,I,(hm3 _ _ h).1⟩
  ·exact hx2 _ _ (hj2 a8i H _ I h)
 refine r9 fun j1 hx1=>?_
 refine a7 pLs ?_
 refine l7 h (fun _ h=>?_) (fun _ h=>?_)
 ·exact hR _ H _ _ I ⟨(IntKind.wrap .i64 ((x0.get! (x1:Int).toNat).toNat:Int)),1,true,rfl,rfl,h⟩
 ·refine a7 pGe ?_
  simp only [q9]
  refine a7 (Pu.g fun c=>by simp only [k7 c];with_reducible exact pLs) ?_
  refine a7 (u4 _ _) ?_
  refine m0 h (fun _ h=>?_) (fun _ h=>?_)
  ·refine a7 pSu ?_
   exact hx1 _ _ (hj1 2 128 (IntKind.wrap .i64 ((IntKind.wrap .i64 ((x0.get! (x1:Int).toNat).toNat:Int))-192)) H _ I h)
  ·refine a7 pGe ?_
   simp only [q9]
   refine a7 (Pu.g fun c=>by simp only [k7 c];with_reducible exact pLs) ?_
   refine a7 (u4 _ _) ?_
   refine m0 h (fun _ h=>?_) (fun _ h=>?_)
   ·refine a7 pSu ?_
    exact hx1 _ _ (hj1 3 2048 (IntKind.wrap .i64 ((IntKind.wrap .i64 ((x0.get! (x1:Int).toNat).toNat:Int))-224)) H _ I h)
   ·refine a7 pGe ?_
    simp only [q9]
    refine a7 (Pu.g fun c=>by simp only [k7 c];with_reducible exact pLs) ?_
    refine a7 (u4 _ _) ?_
    refine m0 h (fun _ h=>?_) (fun _ h=>?_)
    ·refine a7 pSu ?_
     exact hx1 _ _ (hj1 4 65536 (IntKind.wrap .i64 ((IntKind.wrap .i64 ((x0.get! (x1:Int).toNat).toNat:Int))-240)) H _ I h)
    ·exact hR _ H _ _ I ⟨65533,1,false,rfl,rfl,h⟩
def a6b (x0:Int) (x1:Int) (x2:Int) (H:Hp) (K:Bool→Hp→Prop):Prop:=
 K ((decide (x1≤x0))&&(decide (x0≤x2))) H
theorem a6c (x0 x1 x2) {H K} (h:a6b x0 x1 x2 H K):y3 x0 x1 x2 H K:=by
 refine Ct.of fun w0 w ps0 H0 R E I hR=>c8q ?_
 unfold a6b at h
 unfold d1W
 refine a7 pGe ?_
 simp only [q9]
 refine a7 (Pu.g fun a=>by simp only [k7 a];with_reducible exact pLe) ?_
 refine a7 (u4 _ _) ?_
 exact hR _ H _ _ I ⟨((decide (x1≤x0))&&(decide (x0≤x2))),rfl,rfl,h⟩
def a5A (x0:b8) (x1:ByteArray) (H:Hp) (K:Bool→b8→Hp→Prop):Prop:=
 l8 x0 x1 H (fun a b=>
 ((!a)=true→
 K false x0 b)∧
 ((!a)=false→
 K true (b8.mk x0.fl (IntKind.wrap .i64 (x0.fat+1)) x0.fbad x0.fpos) b))
theorem a5B (x0 x1) {H K} (h:a5A x0 x1 H K):m6 x0 x1 H K:=by
 intro g0
 refine Ct.of fun w0 w ps0 H0 R E I hR=>d0C ?_
 unfold a5A at h
 unfold F67
 refine g6 Tryz.call23 (h g0) I ?_
 rintro _ b _ d a _ _ ⟨e,rfl,rfl,h⟩
 refine a7 (K5 _) ?_
 refine m0 h (fun _ h=>?_) (fun _ h=>?_)
 ·exact hR _ b _ _ a ⟨false,x0,rfl,rfl,h⟩
 ·refine a7 (o5 _) (a7 a1W (g5 (l1 Tryz.isAgg3 a rfl) (a7 pAd (a7 (o5 _) ?_))))
  refine a7 a1W ?_
  refine f8 a Tryz.sizeOf3 (vs:=[(vi (IntKind.wrap .i64 (x0.fat+1)))]) (cs':=[(vs x0.fl),(vi (IntKind.wrap .i64 (x0.fat+1))),(vi x0.fbad),(vi x0.fpos.o8),(vi x0.fpos.s6)]) rfl rfl (nb rfl) rfl rfl fun f c g=>?_
  exact hR _ b _ _ c ⟨true,(b8.mk x0.fl (IntKind.wrap .i64 (x0.fat+1)) x0.fbad x0.fpos),rfl,rfl,h⟩
def a4V (x0:b8) (x1:Int) (H:Hp) (K:b8→Hp→Prop):Prop:=
 (40 < x1→
 p8 x0 41 H (fun a b=>
 K a b))∧
 (¬(40 < x1)→
 K x0 H)
theorem a8J (x0 x1) {H K} (h:a4V x0 x1 H K):G0 x0 x1 H K:=by
 intro g0
 refine Ct.of fun w0 w ps0 H0 R E I hR=>c7G ?_
 unfold a4V at h
 unfold d1m
 refine a7 pGt ?_
 refine l7 h (fun _ h=>?_) (fun _ h=>?_)
 ·refine g6 Tryz.call66 (h g0) I ?_
  rintro _ a _ d b _ _ ⟨c,rfl,rfl,h⟩
  exact hR _ a _ _ b ⟨c,rfl,rfl,h⟩
 ·exact hR _ H _ _ I ⟨x0,rfl,rfl,h⟩
def a4W (x0:b8) (x1:Int) (H:Hp) (K:d6→b8→Hp→Prop):Prop:=
 (¬(x0.fbad=0)→
 K (d6.mk 0 0 ⟨#[]⟩ (Sl.mk none 0 0)) x0 H)∧
 (x0.fbad=0→
 W4 x0 H (fun k l=>
 ((!k)=true→
 p8 x0 40 l (fun aa ab=>
 K (d6.mk 0 0 ⟨#[]⟩ (Sl.mk none 0 0)) aa ab))∧
 ((!k)=false→
 K9 x0 l (fun b ac=>
 G0 x0 x1 ac (fun d m=>
 (¬(d.fbad=0)→
 K (d6.mk 0 0 ⟨#[]⟩ (Sl.mk none 0 0)) d m)∧
 (d.fbad=0→
 m6 d ⟨#[45]⟩ m (fun o p q=>
 (o=true→
 R5 p (IntKind.wrap .i64 (x1+1)) q (fun ad ae af=>
 ∀(e:Sl) (g:Hp),Hle af g→SlH g 4 d7 e [ad]→e.n≤e.c→
 K (d6.mk 5 0 ⟨#[]⟩ e) ae g))∧
 (o=false→
 m6 p ⟨#[105,110,112,117,116]⟩ q (fun r s t=>
 (r=true→
 K (d6.mk 3 0 ⟨#[]⟩ (Sl.mk none 0 0)) s t)∧
 (r=false→
 m6 s ⟨#[40]⟩ t (fun u a i=>
 (u=true→
 t6 a (IntKind.wrap .i64 (x1+1)) i (fun ag ah ai=>
 B7 ah ⟨#[41]⟩ ai (fun aj ak=>
 K ag aj ak)))∧
 (u=false→
 (b.d8=2→
 K (d6.mk 1 b.F0 ⟨#[]⟩ (Sl.mk none 0 0)) (b8.mk a.fl (IntKind.wrap .i64 (a.fat+1)) a.fbad a.fpos) i)∧
 (¬(b.d8=2)→
 m6 (b8.mk a.fl (IntKind.wrap .i64 (a.fat+1)) a.fbad a.fpos) ⟨#[91]⟩ i (fun v y z=>
 (v=true→
 t6 y (IntKind.wrap .i64 (x1+1)) z (fun al am an=>
 B7 am ⟨#[93]⟩ an (fun ao ap=>
 ∀(f:Sl) (j:Hp),Hle ap j→SlH j 4 d7 f [al]→f.n≤f.c→
 K (d6.mk 4 0 b.A0 f) ao j)))∧
 (v=false→
 K (d6.mk 2 0 b.A0 (Sl.mk none 0 0)) y z)))))))))))))))
theorem a4X (x0 x1) {H K} (h:a4W x0 x1 H K):R5 x0 x1 H K:=by
 intro g0
 refine Ct.of fun w0 w ps0 H0 R E I hR=>c7O ?_
 unfold a4W at h
 unfold d1u
 refine m9 I Tryz.zeroValue40 (cs:=[(vi 0),(vi 0),(eS),(nS)]) rfl fun bu bv j bw=>?_
 refine a7 (o5 _) (a7 a3S (g5 (l1 Tryz.isAgg3 (j.bring 1) rfl) (a7 pNe ?_)))
 refine Z9 h (fun _ h=>?_) (fun _ h=>?_)
 ·refine a7 (b0b) ?_
  refine f8 j Tryz.sizeOf40 (vs:=[(vi 0),(vi 0),(eS),(nS)]) (cs':=[(vi 0),(vi 0),(eS),(nS)]) rfl rfl (nb rfl) rfl rfl fun bz q ca=>?_
  refine o4 Tryz.isAgg40 Tryz.sizeOf40 rfl (q.at1 (o:=0) (vs:=[(vi 0),(vi 0),(eS),(nS)]) (nb rfl) rfl) ?_
  exact hR _ H _ _ q.drop ⟨(d6.mk 0 0 ⟨#[]⟩ (Sl.mk none 0 0)),x0,rfl,rfl,h⟩
 ·refine g6 Tryz.call146 (h g0) (j.bring 1) ?_
  rintro _ _ _ cb r _ _ ⟨cc,rfl,rfl,h⟩
  refine a7 (K5 _) ?_
  refine m0 h (fun _ h=>?_) (fun _ h=>?_)
  ·refine g6 Tryz.call66 (h g0) r ?_
   rintro _ ah _ cd ai _ _ ⟨aj,rfl,rfl,h⟩
   refine a7 (b0b) ?_
   refine f8 (ai.bring 1) Tryz.sizeOf40 (vs:=[(vi 0),(vi 0),(eS),(nS)]) (cs':=[(vi 0),(vi 0),(eS),(nS)]) rfl rfl (nb rfl) rfl rfl fun ce s cf=>?_
   refine o4 Tryz.isAgg40 Tryz.sizeOf40 rfl (s.at1 (o:=0) (vs:=[(vi 0),(vi 0),(eS),(nS)]) (nb rfl) rfl) ?_
   exact hR _ ah _ _ s.drop ⟨(d6.mk 0 0 ⟨#[]⟩ (Sl.mk none 0 0)),aj,rfl,rfl,h⟩
  ·refine g6 Tryz.call63 (h g0) r ?_
   rintro _ _ _ cg ak _ _ ⟨a,rfl,rfl,h⟩
   refine m9 ak Tryz.zeroValue103 (cs:=[(vi 0),(eS),(vi 0),(vi 0),(vi 0)]) rfl fun ch ci al cj=>?_
   refine f8 al Tryz.sizeOf103 (vs:=(f9 a)) (cs':=(f9 a)) rfl rfl (nb rfl) rfl rfl fun ck am cl=>?_
   refine g6 Tryz.call114 (h g0) (am.bring 1) ?_
   rintro _ an _ cm k _ _ ⟨ao,rfl,rfl,h⟩
   refine a7 (o5 _) (a7 a3S (g5 (l1 Tryz.isAgg3 k rfl) (a7 pNe ?_)))
   refine Z9 h (fun _ h=>?_) (fun _ h=>?_)
   ·refine a7 (b0b) ?_
    refine f8 (k.bring 2) Tryz.sizeOf40 (vs:=[(vi 0),(vi 0),(eS),(nS)]) (cs':=[(vi 0),(vi 0),(eS),(nS)]) rfl rfl (nb rfl) rfl rfl fun cn t co=>?_
    refine o4 Tryz.isAgg40 Tryz.sizeOf40 rfl (t.at1 (o:=0) (vs:=[(vi 0),(vi 0),(eS),(nS)]) (nb rfl) rfl) ?_
    exact hR _ an _ _ (t.drop.bring 1).drop ⟨(d6.mk 0 0 ⟨#[]⟩ (Sl.mk none 0 0)),ao,rfl,rfl,h⟩
   ·refine g6 Tryz.call67 (h g0) k ?_
    rintro _ _ _ cp u _ _ ⟨cq,cr,rfl,rfl,h⟩
    refine m0 h (fun _ h=>?_) (fun _ h=>?_)
    ·refine a7 pAd ?_
     refine g6 Tryz.call123 (h g0) u ?_
     rintro _ _ _ ct ap _ _ ⟨aq,ar,rfl,rfl,h⟩
     refine V9 (e:=40) (c:=d7) (xs:=[aq]) ap (b0S _ _ _ _ _ _) rfl rfl N2 N3 (nb rfl) fun f cu cv au av cw=>?_
     refine a7 (a6A _ _ _ _) ?_
     refine f8 (av.bring 3) Tryz.sizeOf40 (vs:=[(vi 5),(vi 0),(eS),(vs f)]) (cs':=[(vi 5),(vi 0),(eS),(vs f)]) rfl rfl (nb rfl) rfl rfl fun cx v cy=>?_
     refine o4 Tryz.isAgg40 Tryz.sizeOf40 rfl (v.at1 (o:=0) (vs:=[(vi 5),(vi 0),(eS),(vs f)]) (nb rfl) rfl) ?_
     obtain ⟨y,aw,ax,ay,az⟩:=Inv.freezeC (v.bring 1) au (by decide)
     replace h:=h f y ax ay az
     exact hR _ y _ _ (aw.drop.bring 1).drop ⟨(d6.mk 5 0 ⟨#[]⟩ f),ar,rfl,rfl,h⟩
    ·refine g6 Tryz.call67 (h g0) u ?_
     rintro _ ba _ cz z _ _ ⟨da,bb,rfl,rfl,h⟩
     refine m0 h (fun _ h=>?_) (fun _ h=>?_)
     ·refine a7 (b5k _) ?_
      refine f8 (z.bring 2) Tryz.sizeOf40 (vs:=[(vi 3),(vi 0),(eS),(nS)]) (cs':=[(vi 3),(vi 0),(eS),(nS)]) rfl rfl (nb rfl) rfl rfl fun db aa dc=>?_
      refine o4 Tryz.isAgg40 Tryz.sizeOf40 rfl (aa.at1 (o:=0) (vs:=[(vi 3),(vi 0),(eS),(nS)]) (nb rfl) rfl) ?_
      exact hR _ ba _ _ (aa.drop.bring 1).drop ⟨(d6.mk 3 0 ⟨#[]⟩ (Sl.mk none 0 0)),bb,rfl,rfl,h⟩
     ·refine g6 Tryz.call67 (h g0) z ?_
      rintro _ bc _ dd l _ _ ⟨de,b,rfl,rfl,h⟩
      refine m0 h (fun _ h=>?_) (fun _ h=>?_)
      ·refine a7 pAd ?_
       refine g6 Tryz.call37 (h g0) l ?_
       rintro _ _ _ df bd _ _ ⟨d,dg,rfl,rfl,h⟩
       refine m9 bd Tryz.zeroValue40 (cs:=[(vi 0),(vi 0),(eS),(nS)]) rfl fun dh di be dj=>?_
       refine f8 be Tryz.sizeOf40 (vs:=(d7 d)) (cs':=(d7 d)) rfl rfl (nb rfl) rfl rfl fun dk bf dl=>?_
       refine g6 Tryz.call65 (h g0) (bf.bring 1) ?_
       rintro _ bg _ dm ab _ _ ⟨bh,rfl,rfl,h⟩
       refine g5 (lW Tryz.isAgg40 Tryz.sizeOf40 rfl (ab.bring 1)) ?_
       refine f8 (ab.bring 3) Tryz.sizeOf40 (vs:=(d7 d)) (cs':=(d7 d)) rfl rfl (nb rfl) rfl rfl fun dn ac dp=>?_
       refine o4 Tryz.isAgg40 Tryz.sizeOf40 rfl (ac.at1 (o:=0) (vs:=(d7 d)) (nb rfl) rfl) ?_
       exact hR _ bg _ _ ((ac.drop.bring 1).drop.bring 1).drop ⟨d,bh,rfl,rfl,h⟩
      ·refine a7 (o5 _) (a7 a1W (g5 (l1 Tryz.isAgg3 l rfl) (a7 pAd (a7 (o5 _) ?_))))
       refine a7 a1W ?_
       refine f8 l Tryz.sizeOf3 (vs:=[(vi (IntKind.wrap .i64 (b.fat+1)))]) (cs':=[(vs b.fl),(vi (IntKind.wrap .i64 (b.fat+1))),(vi b.fbad),(vi b.fpos.o8),(vi b.fpos.s6)]) rfl rfl (nb rfl) rfl rfl fun dq i dr=>?_
       refine a7 a0I (g5 (l1 Tryz.isAgg3 (i.bring 1) rfl) (a7 pEq ?_))
       refine l7 h (fun _ h=>?_) (fun _ h=>?_)
       ·refine a7 a8c (g5 (l1 Tryz.isAgg2 (i.bring 1) rfl) (a7 (b3t _ _) ?_))
        refine f8 (i.bring 2) Tryz.sizeOf40 (vs:=[(vi 1),(vi a.F0),(eS),(nS)]) (cs':=[(vi 1),(vi a.F0),(eS),(nS)]) rfl rfl (nb rfl) rfl rfl fun ds ad dt=>?_
        refine o4 Tryz.isAgg40 Tryz.sizeOf40 rfl (ad.at1 (o:=0) (vs:=[(vi 1),(vi a.F0),(eS),(nS)]) (nb rfl) rfl) ?_
        exact hR _ bc _ _ (ad.drop.bring 1).drop ⟨(d6.mk 1 a.F0 ⟨#[]⟩ (Sl.mk none 0 0)),(b8.mk b.fl (IntKind.wrap .i64 (b.fat+1)) b.fbad b.fpos),rfl,rfl,h⟩
       ·refine g6 Tryz.call67 (h g0) i ?_
        rintro _ bi _ du m _ _ ⟨dv,bj,rfl,rfl,h⟩
        refine m0 h (fun _ h=>?_) (fun _ h=>?_)
        ·refine a7 pAd ?_
         refine g6 Tryz.call37 (h g0) m ?_
         rintro _ _ _ dw bk _ _ ⟨n,dx,rfl,rfl,h⟩
         refine m9 bk Tryz.zeroValue40 (cs:=[(vi 0),(vi 0),(eS),(nS)]) rfl fun dy dz bl ea=>?_
         refine f8 bl Tryz.sizeOf40 (vs:=(d7 n)) (cs':=(d7 n)) rfl rfl (nb rfl) rfl rfl fun eb bm ec=>?_
         refine g6 Tryz.call65 (h g0) (bm.bring 1) ?_
         rintro _ _ _ ed p _ _ ⟨bn,rfl,rfl,h⟩
         refine a7 R3 (g5 (l1 Tryz.isAgg9 (p.bring 2) rfl) (g5 (lW Tryz.isAgg40 Tryz.sizeOf40 rfl (p.bring 1)) ?_))
         refine V9 (e:=40) (c:=d7) (xs:=[n]) p (b0S _ _ _ _ _ _) rfl rfl N2 N3 (nb rfl) fun g ee ef bo bp eg=>?_
         refine a7 (b1M _ _ _ _ _) ?_
         refine f8 (bp.bring 4) Tryz.sizeOf40 (vs:=[(vi 4),(vi 0),(Value.string a.A0),(vs g)]) (cs':=[(vi 4),(vi 0),(Value.string a.A0),(vs g)]) rfl rfl (nb rfl) rfl rfl fun eh ae ei=>?_
         refine o4 Tryz.isAgg40 Tryz.sizeOf40 rfl (ae.at1 (o:=0) (vs:=[(vi 4),(vi 0),(Value.string a.A0),(vs g)]) (nb rfl) rfl) ?_
         obtain ⟨af,bq,br,bs,bt⟩:=Inv.freezeC (ae.bring 1) bo (by decide)
         replace h:=h g af br bs bt
         exact hR _ af _ _ ((bq.drop.bring 1).drop.bring 1).drop ⟨(d6.mk 4 0 a.A0 g),bn,rfl,rfl,h⟩
        ·refine a7 R3 (g5 (l1 Tryz.isAgg9 (m.bring 1) rfl) (a7 (b3u _ _) ?_))
         refine f8 (m.bring 2) Tryz.sizeOf40 (vs:=[(vi 2),(vi 0),(Value.string a.A0),(nS)]) (cs':=[(vi 2),(vi 0),(Value.string a.A0),(nS)]) rfl rfl (nb rfl) rfl rfl fun ej ag ek=>?_
         refine o4 Tryz.isAgg40 Tryz.sizeOf40 rfl (ag.at1 (o:=0) (vs:=[(vi 2),(vi 0),(Value.string a.A0),(nS)]) (nb rfl) rfl) ?_
         exact hR _ bi _ _ (ag.drop.bring 1).drop ⟨(d6.mk 2 0 a.A0 (Sl.mk none 0 0)),bj,rfl,rfl,h⟩
def D1 (b1j:Int) (b0n:Int) (a2u:b8) (d:d6) (e:d6) (H:Hp) (n2:(d6×b8×d6)→Hp→Prop) (K:d6→b8→Hp→Prop):Prop:=
 Y7 (b8.mk a2u.fl (IntKind.wrap .i64 (a2u.fat+1)) a2u.fbad a2u.fpos) b1j H (fun f g i=>
 ∀(a:Sl) (b:Hp),Hle i b→SlH b 4 d7 a [d,f]→a.n≤a.c→
 n2 ((d6.mk b0n 0 ⟨#[]⟩ a),g,e) b)
def V5 (o9:b8) (a:d6) (b:d6) (H:Hp) (K:d6→b8→Hp→Prop):Prop:=
 K a o9 H
def V6 (T4:Int) (a:d6) (o6:b8) (b:d6) (H:Hp) (n2:(d6×b8×d6)→Hp→Prop) (K:d6→b8→Hp→Prop):Prop:=
 l8 o6 ⟨#[43]⟩ H (fun c d=>
 TG (c=false) (l8 o6 ⟨#[45]⟩ d) false d (fun (e:Bool) (f:Hp)=>
 ((c||e)=true→
 l8 o6 ⟨#[45]⟩ f (fun g i=>
 (g=true→
 D1 T4 7 o6 a b i n2 K)∧
 (g=false→
 D1 T4 6 o6 a b i n2 K)))∧
 ((c||e)=false→
 V5 o6 a b f K)))
def a1P (x0:b8) (x1:Int) (H:Hp) (K:d6→b8→Hp→Prop):Prop:=
 Y7 x0 x1 H (fun a b c=>
 TL ((a,b,(d6.mk 0 0 ⟨#[]⟩ (Sl.mk none 0 0))):d6×b8×d6) c fun (s:d6×b8×d6) H n2=>V6 x1 s.1 s.2.1 s.2.2 H n2 K)
theorem a8K (x0 x1) {H K} (h:a1P x0 x1 H K):t6 x0 x1 H K:=by
 intro g0
 refine Ct.of fun w0 w ps0 H0 R E I hR=>d0f ?_
 unfold a1P at h
 unfold F37
 refine m9 I Tryz.zeroValue40 (cs:=[(vi 0),(vi 0),(eS),(nS)]) rfl fun m bn aq bo=>?_
 refine g6 Tryz.call83 (h g0) (aq.bring 1) ?_
 rintro _ ar _ bp au _ _ ⟨aa,av,rfl,rfl,h⟩
 refine m9 au Tryz.zeroValue40 (cs:=[(vi 0),(vi 0),(eS),(nS)]) rfl fun p bq aw br=>?_
 refine f8 aw Tryz.sizeOf40 (vs:=(d7 aa)) (cs':=(d7 aa)) rfl rfl (nb rfl) rfl rfl fun bs ax bt=>?_
 have hj1:∀(o9:b8) (j:d6) (ab:d6) H w (_:Inv w0 ps0 H0 H [bx g0 66 (i7 o9),bx p 40 (d7 j),bx m 40 (d7 ab)] w) (_:V5 o9 j ab H K),b9h (Value.pointer (some ⟨m,0,none⟩)) (Value.pointer (some ⟨p,0,none⟩)) w R E:=by
  intro o9 j ab H w I h
  unfold b9h
  intro _
  unfold V5 at h
  refine g5 (lW Tryz.isAgg40 Tryz.sizeOf40 rfl (I.bring 1)) ?_
  refine f8 (I.bring 2) Tryz.sizeOf40 (vs:=(d7 j)) (cs':=(d7 j)) rfl rfl (nb rfl) rfl rfl fun bu af bv=>?_
  refine o4 Tryz.isAgg40 Tryz.sizeOf40 rfl (af.at1 (o:=0) (vs:=(d7 j)) (nb rfl) rfl) ?_
  exact hR _ H _ _ (af.drop.bring 1).drop ⟨j,o9,rfl,rfl,h⟩
 refine r9 fun j1 hx1=>?_
 obtain ⟨ac,r,ay,az⟩:=h
 refine B0 (J:=fun n l w=>∃(s:d6×b8×d6) (H:Hp),n=r s∧l=(match s with | (d,o6,f)=>[])∧(match s with | (d,o6,f)=>Inv w0 ps0 H0 H [bx p 40 (d7 d),bx g0 66 (i7 o6),bx m 40 (d7 f)] w)∧ac s H) ⟨_,(aa,av,(d6.mk 0 0 ⟨#[]⟩ (Sl.mk none 0 0))),ar,rfl,rfl,(((ax.bring 2).bring 2).bring 2),ay⟩ ?_
 rintro bw bz w next2 ⟨⟨d,o6,f⟩,H,rfl,ag,I,ba⟩ hn2
 dsimp only at ag I
 clear ag
 obtain ⟨n2,hm2,h⟩:∃n2:(d6×b8×d6)→Hp→Prop,(∀s' H',n2 s' H'→ac s' H'∧r s' < r (d,o6,f))∧V6 x1 d o6 f H n2 K:=⟨_,fun _ _ h=>h,az (d,o6,f) H (fun s' H'=>ac s' H'∧r s' < r (d,o6,f)) ba (fun _ _ a b=>⟨a,b⟩)⟩
 unfold c3L
 unfold V6 at h
 refine g6 Tryz.call23 (h g0) (I.bring 1) ?_
 rintro _ ah _ ai aj _ _ ⟨ad,rfl,rfl,h⟩
 simp only [q9]
 refine G6 (D:=fun ak u=>∃(q:Bool) (g:Hp),ak=(gv ad false (vB q))∧(Inv w0 ps0 H0 g [bx g0 66 (i7 o6),bx p 40 (d7 d),bx m 40 (d7 f)] u)∧(∀i,i < ai.heap.size→¬inF [bx g0 66 (i7 o6)] i→u.heap[i]? = ai.heap[i]?)∧Hle ah g∧(((ad||q)=true→
 l8 o6 ⟨#[45]⟩ g (fun (ae:Bool) (t:Hp)=>
 (ae=true→
 D1 x1 7 o6 d f t n2 K)∧
 (ae=false→
 D1 x1 6 o6 d f t n2 K)))∧
 ((ad||q)=false→
 V5 o6 d f g K))) (fun k=>?_) (fun k=>?_) ?_
 ·replace h:=h.1 k
  have al:=k
  simp only [k7 al]
  refine g6 Tryz.call23 (h g0) aj ?_
  rintro _ g _ u v am an ⟨q,rfl,rfl,h⟩
  exact ⟨q,g,by rfl,v,an,am,h⟩
 ·exact ⟨false,ah,by rw [R9 k],aj,fun _ _ _=>rfl,Hle.refl _,h.2 k⟩
 ·clear h
  rintro ak u ⟨q,g,rfl,v,an,am,h⟩
  refine a7 (B5 _ _) ?_
  refine m0 h (fun _ h=>?_) (fun _ h=>?_)
  ·have hj3:∀(b0n:Int) H w (_:Inv w0 ps0 H0 H [bx g0 66 (i7 o6),bx p 40 (d7 d),bx m 40 (d7 f)] w) (_:D1 x1 b0n o6 d f H n2 K),b9i (Value.pointer (some ⟨g0,0,none⟩)) (vi x1) (Value.pointer (some ⟨m,0,none⟩)) (Value.pointer (some ⟨p,0,none⟩)) (vi b0n) w next2 R E:=by
    intro b0n H w I h
    unfold b9i
    intro _
    unfold D1 at h
    refine a7 (o5 _) (a7 a1W (g5 (l1 Tryz.isAgg3 I rfl) (a7 pAd (a7 (o5 _) ?_))))
    refine a7 a1W ?_
    refine f8 I Tryz.sizeOf3 (vs:=[(vi (IntKind.wrap .i64 (o6.fat+1)))]) (cs':=[(vs o6.fl),(vi (IntKind.wrap .i64 (o6.fat+1))),(vi o6.fbad),(vi o6.fpos.o8),(vi o6.fpos.s6)]) rfl rfl (nb rfl) rfl rfl fun ca bb cb=>?_
    refine P3 bb fun cc y=>?_
    refine t8 (lW Tryz.isAgg40 Tryz.sizeOf40 rfl (y.bring 1)) ?_
    refine g6 Tryz.call83 (h g0) y ?_
    rintro _ _ _ cd bc _ bd ⟨be,bf,rfl,rfl,h⟩
    refine ⟨(bd _ (y.bring 1).lt1 (Inv.a1B (Fi:=[bx g0 66 [(vs o6.fl),(vi (IntKind.wrap .i64 (o6.fat+1))),(vi o6.fbad),(vi o6.fpos.o8),(vi o6.fpos.s6)]]) ((y.bring 1).bring 1))),?_⟩
    refine V9 (e:=40) (c:=d7) (xs:=[d,be]) bc (b2m _ _ _ _ _ _ _ _ _ _ _ _) rfl rfl N2 N3 (nb rfl) fun z ce cf bg bh cg=>?_
    refine o7 (a6A _ _ _ _) ?_
    refine f8 (bh.bring 2) Tryz.sizeOf40 (vs:=[(vi b0n),(vi 0),(eS),(vs z)]) (cs':=[(vi b0n),(vi 0),(eS),(vs z)]) rfl rfl (nb rfl) rfl rfl fun ch bi ci=>?_
    obtain ⟨ao,bj,bk,bl,bm⟩:=Inv.freezeC (bi.bring 1) bg (by decide)
    replace h:=h z ao bk bl bm
    exact hn2 _ _ _ (hm2 _ _ h).2 ⟨((d6.mk b0n 0 ⟨#[]⟩ z),bf,f),ao,rfl,rfl,(((bj.bring 2).bring 2).bring 2),(hm2 _ _ h).1⟩
   refine r9 fun j3 hx3=>?_
   refine g6 Tryz.call23 (h g0) v ?_
   rintro _ t _ cj ap _ _ ⟨ae,rfl,rfl,h⟩
   refine m0 h (fun _ h=>?_) (fun _ h=>?_)
   ·exact hx3 _ _ (hj3 7 t _ (((ap.bring 2).bring 2).bring 2) h)
   ·exact hx3 _ _ (hj3 6 t _ (((ap.bring 2).bring 2).bring 2) h)
  ·exact hx1 _ _ (hj1 o6 d f g _ (((v.bring 2).bring 2).bring 2) h)
def a3Z (x0:ByteArray) (x1:Int) (H:Hp) (K:Int→Int→Hp→Prop):Prop:=
 ((x0.size:Int)≤x1→
 K 0 0 H)∧
 (¬((x0.size:Int)≤x1)→
 O0 x0 x1 H (fun a b f c=>
 a0e a c (fun d e=>
 K d b e)))
theorem b0M (x0 x1) {H K} (h:a3Z x0 x1 H K):T9 x0 x1 H K:=by
 refine Ct.of fun w0 w ps0 H0 R E I hR=>c7B ?_
 unfold a3Z at h
 unfold d1h
 refine a7 (X3 _) (a7 pGe ?_)
 refine l7 h (fun _ h=>?_) (fun _ h=>?_)
 ·exact hR _ H _ _ I ⟨0,0,rfl,rfl,h⟩
 ·refine g6 Tryz.call108 h I ?_
  rintro _ _ _ i b _ _ ⟨c,a,d,rfl,rfl,h⟩
  refine a7 (g7 _ _ (vi c) rfl) (a7 (g7 _ _ (vi a) rfl) (a7 (g7 _ _ (vB d) rfl) ?_))
  refine g6 Tryz.call142 h b ?_
  rintro _ e _ j f _ _ ⟨g,rfl,rfl,h⟩
  exact hR _ e _ _ f ⟨g,a,rfl,rfl,h⟩
def R0 (a5K:ByteArray) (T5:Int) (a:b6) (H:Hp) (K:b6→Int→Int→Hp→Prop):Prop:=
 (0:Int)≤T5∧T5 < (a5K.size:Int)∧
 ((decide (((a5K.get! (T5:Int).toNat).toNat:Int)=38))=false→(0:Int)≤T5∧T5 < (a5K.size:Int))∧
 (((decide (((a5K.get! (T5:Int).toNat).toNat:Int)=38))||(decide (((a5K.get! (T5:Int).toNat).toNat:Int)=124)))=true→
 K (b6.mk 0 ⟨#[]⟩ 0 (b7.mk 0 0)) 0 20 H)∧
 (((decide (((a5K.get! (T5:Int).toNat).toNat:Int)=38))||(decide (((a5K.get! (T5:Int).toNat).toNat:Int)=124)))=false→
 (0:Int)≤T5∧(T5:Int)≤IntKind.wrap .i64 (T5+1)∧(IntKind.wrap .i64 (T5+1):Int)≤a5K.size∧
 K (b6.mk 4 (a5K.extract (T5:Int).toNat (IntKind.wrap .i64 (T5+1):Int).toNat) 0 (b7.mk 0 0)) (IntKind.wrap .i64 (T5+1)) 0 H)
def D4 (c5u:ByteArray) (b2f:Int) (b4I:Bool) (a:b6) (H:Hp) (K:b6→Int→Int→Hp→Prop):Prop:=
 (b4I=true→
 (0:Int)≤b2f∧(b2f:Int)≤IntKind.wrap .i64 (b2f+2)∧(IntKind.wrap .i64 (b2f+2):Int)≤c5u.size∧
 K (b6.mk 4 (c5u.extract (b2f:Int).toNat (IntKind.wrap .i64 (b2f+2):Int).toNat) 0 (b7.mk 0 0)) (IntKind.wrap .i64 (b2f+2)) 0 H)∧
 (b4I=false→
 R0 c5u b2f a H K)
def a4E (x0:ByteArray) (x1:Int) (H:Hp) (K:b6→Int→Int→Hp→Prop):Prop:=
 ((IntKind.wrap .i64 (x1+1)) < (x0.size:Int)→
 (0:Int)≤x1∧(x1:Int)≤IntKind.wrap .i64 (x1+2)∧(IntKind.wrap .i64 (x1+2):Int)≤x0.size∧
 ((x0.extract (x1:Int).toNat (IntKind.wrap .i64 (x1+2):Int).toNat)=⟨#[61,61]⟩→
 D4 x0 x1 (decide ((x0.extract (x1:Int).toNat (IntKind.wrap .i64 (x1+2):Int).toNat)=⟨#[61,61]⟩)) (b6.mk 0 ⟨#[]⟩ 0 (b7.mk 0 0)) H K)∧
 (¬((x0.extract (x1:Int).toNat (IntKind.wrap .i64 (x1+2):Int).toNat)=⟨#[61,61]⟩)→
 ((x0.extract (x1:Int).toNat (IntKind.wrap .i64 (x1+2):Int).toNat)=⟨#[33,61]⟩→
 D4 x0 x1 (decide ((x0.extract (x1:Int).toNat (IntKind.wrap .i64 (x1+2):Int).toNat)=⟨#[33,61]⟩)) (b6.mk 0 ⟨#[]⟩ 0 (b7.mk 0 0)) H K)∧
 (¬((x0.extract (x1:Int).toNat (IntKind.wrap .i64 (x1+2):Int).toNat)=⟨#[33,61]⟩)→
 ((x0.extract (x1:Int).toNat (IntKind.wrap .i64 (x1+2):Int).toNat)=⟨#[60,61]⟩→
 D4 x0 x1 (decide ((x0.extract (x1:Int).toNat (IntKind.wrap .i64 (x1+2):Int).toNat)=⟨#[60,61]⟩)) (b6.mk 0 ⟨#[]⟩ 0 (b7.mk 0 0)) H K)∧
 (¬((x0.extract (x1:Int).toNat (IntKind.wrap .i64 (x1+2):Int).toNat)=⟨#[60,61]⟩)→
 ((x0.extract (x1:Int).toNat (IntKind.wrap .i64 (x1+2):Int).toNat)=⟨#[62,61]⟩→
 D4 x0 x1 (decide ((x0.extract (x1:Int).toNat (IntKind.wrap .i64 (x1+2):Int).toNat)=⟨#[62,61]⟩)) (b6.mk 0 ⟨#[]⟩ 0 (b7.mk 0 0)) H K)∧
 (¬((x0.extract (x1:Int).toNat (IntKind.wrap .i64 (x1+2):Int).toNat)=⟨#[62,61]⟩)→
 ((x0.extract (x1:Int).toNat (IntKind.wrap .i64 (x1+2):Int).toNat)=⟨#[38,38]⟩→
 D4 x0 x1 (decide ((x0.extract (x1:Int).toNat (IntKind.wrap .i64 (x1+2):Int).toNat)=⟨#[38,38]⟩)) (b6.mk 0 ⟨#[]⟩ 0 (b7.mk 0 0)) H K)∧
 (¬((x0.extract (x1:Int).toNat (IntKind.wrap .i64 (x1+2):Int).toNat)=⟨#[38,38]⟩)→
 D4 x0 x1 (decide ((x0.extract (x1:Int).toNat (IntKind.wrap .i64 (x1+2):Int).toNat)=⟨#[124,124]⟩)) (b6.mk 0 ⟨#[]⟩ 0 (b7.mk 0 0)) H K))))))∧
 (¬((IntKind.wrap .i64 (x1+1)) < (x0.size:Int))→
 R0 x0 x1 (b6.mk 0 ⟨#[]⟩ 0 (b7.mk 0 0)) H K)
theorem b1u (x0 x1) {H K} (h:a4E x0 x1 H K):a4k x0 x1 H K:=by
 refine Ct.of fun w0 w ps0 H0 R E I hR=>c7F ?_
 unfold a4E at h
 unfold d1l
 refine m9 I Tryz.zeroValue103 (cs:=[(vi 0),(eS),(vi 0),(vi 0),(vi 0)]) rfl fun d v c y=>?_
 have hj1:∀H w (_:Inv w0 ps0 H0 H [bx d 103 [(vi (b6.mk 0 ⟨#[]⟩ 0 (b7.mk 0 0)).d8),(Value.string (b6.mk 0 ⟨#[]⟩ 0 (b7.mk 0 0)).A0),(vi (b6.mk 0 ⟨#[]⟩ 0 (b7.mk 0 0)).F0),(vi (b6.mk 0 ⟨#[]⟩ 0 (b7.mk 0 0)).fAt.o8),(vi (b6.mk 0 ⟨#[]⟩ 0 (b7.mk 0 0)).fAt.s6)]] w) (_:R0 x0 x1 (b6.mk 0 ⟨#[]⟩ 0 (b7.mk 0 0)) H K),b6H (Value.string x0) (vi x1) (Value.pointer (some ⟨d,0,none⟩)) w R E:=by
  intro H w I h
  unfold b6H
  intro _
  unfold R0 at h
  obtain ⟨j,k,h⟩:=h
  refine a7 (a3r _ _ _ j k) (a7 pEq ?_)
  simp only [q9]
  obtain ⟨b,h⟩:=h
  refine a7 (Pu.g fun hb=>by have a:=hb;simp only [k7 a];with_reducible exact (a3r _ _ _ (b hb).1 (b hb).2)) ?_
  refine a7 (Pu.g fun a=>by simp only [k7 a];with_reducible exact pEq) ?_
  refine a7 (B5 _ _) ?_
  refine m0 h (fun _ h=>?_) (fun _ h=>?_)
  ·refine a7 (a6k) ?_
   refine f8 I Tryz.sizeOf103 (vs:=[(vi 0),(eS),(vi 0),(vi 0),(vi 0)]) (cs':=[(vi 0),(eS),(vi 0),(vi 0),(vi 0)]) rfl rfl (nb rfl) rfl rfl fun z e aa=>?_
   refine o4 Tryz.isAgg103 Tryz.sizeOf103 rfl (e.at1 (o:=0) (vs:=[(vi 0),(eS),(vi 0),(vi 0),(vi 0)]) (nb rfl) rfl) ?_
   exact hR _ H _ _ e.drop ⟨(b6.mk 0 ⟨#[]⟩ 0 (b7.mk 0 0)),0,20,rfl,rfl,h⟩
  ·refine a7 pAd ?_
   obtain ⟨l,m,n,h⟩:=h
   refine a7 (a6g x0 Tryz.underlying9 l m n) (a7 (a1D _ _) (a7 pAd ?_))
   refine f8 I Tryz.sizeOf103 (vs:=[(vi 4),(Value.string (x0.extract (x1:Int).toNat (IntKind.wrap .i64 (x1+1):Int).toNat)),(vi 0),(vi 0),(vi 0)]) (cs':=[(vi 4),(Value.string (x0.extract (x1:Int).toNat (IntKind.wrap .i64 (x1+1):Int).toNat)),(vi 0),(vi 0),(vi 0)]) rfl rfl (nb rfl) rfl rfl fun ab f ac=>?_
   refine o4 Tryz.isAgg103 Tryz.sizeOf103 rfl (f.at1 (o:=0) (vs:=[(vi 4),(Value.string (x0.extract (x1:Int).toNat (IntKind.wrap .i64 (x1+1):Int).toNat)),(vi 0),(vi 0),(vi 0)]) (nb rfl) rfl) ?_
   exact hR _ H _ _ f.drop ⟨(b6.mk 4 (x0.extract (x1:Int).toNat (IntKind.wrap .i64 (x1+1):Int).toNat) 0 (b7.mk 0 0)),(IntKind.wrap .i64 (x1+1)),0,rfl,rfl,h⟩
 refine r9 fun j1 hx1=>?_
 refine a7 pAd (a7 (X3 _) (a7 pLs ?_))
 refine l7 h (fun _ h=>?_) (fun _ h=>?_)
 ·refine a7 pAd ?_
  obtain ⟨p,q,r,h⟩:=h
  refine a7 (a6g x0 Tryz.underlying9 p q r) ?_
  have hj2:∀(b4I:Bool) H w (_:Inv w0 ps0 H0 H [bx d 103 [(vi (b6.mk 0 ⟨#[]⟩ 0 (b7.mk 0 0)).d8),(Value.string (b6.mk 0 ⟨#[]⟩ 0 (b7.mk 0 0)).A0),(vi (b6.mk 0 ⟨#[]⟩ 0 (b7.mk 0 0)).F0),(vi (b6.mk 0 ⟨#[]⟩ 0 (b7.mk 0 0)).fAt.o8),(vi (b6.mk 0 ⟨#[]⟩ 0 (b7.mk 0 0)).fAt.s6)]] w) (_:D4 x0 x1 b4I (b6.mk 0 ⟨#[]⟩ 0 (b7.mk 0 0)) H K),b6I (Value.string x0) (vi x1) (Value.pointer (some ⟨d,0,none⟩)) (vB b4I) w j1 R E:=by
   intro b4I H w I h
   unfold b6I
   intro _
   unfold D4 at h
   refine m0 h (fun _ h=>?_) (fun _ h=>?_)
   ·refine a7 pAd ?_
    obtain ⟨s,t,u,h⟩:=h
    refine a7 (a6g x0 Tryz.underlying9 s t u) (a7 (a1D _ _) (a7 pAd ?_))
    refine f8 I Tryz.sizeOf103 (vs:=[(vi 4),(Value.string (x0.extract (x1:Int).toNat (IntKind.wrap .i64 (x1+2):Int).toNat)),(vi 0),(vi 0),(vi 0)]) (cs':=[(vi 4),(Value.string (x0.extract (x1:Int).toNat (IntKind.wrap .i64 (x1+2):Int).toNat)),(vi 0),(vi 0),(vi 0)]) rfl rfl (nb rfl) rfl rfl fun ad i ae=>?_
    refine o4 Tryz.isAgg103 Tryz.sizeOf103 rfl (i.at1 (o:=0) (vs:=[(vi 4),(Value.string (x0.extract (x1:Int).toNat (IntKind.wrap .i64 (x1+2):Int).toNat)),(vi 0),(vi 0),(vi 0)]) (nb rfl) rfl) ?_
    exact hR _ H _ _ i.drop ⟨(b6.mk 4 (x0.extract (x1:Int).toNat (IntKind.wrap .i64 (x1+2):Int).toNat) 0 (b7.mk 0 0)),(IntKind.wrap .i64 (x1+2)),0,rfl,rfl,h⟩
   ·exact hx1 _ _ (hj1 H _ I h)
  refine r9 fun j2 hx2=>?_
  refine a7 (G5 _ _ _ _ _) ?_
  refine l7 h (fun _ h=>?_) (fun _ h=>?_)
  ·exact hx2 _ _ (hj2 (decide ((x0.extract (x1:Int).toNat (IntKind.wrap .i64 (x1+2):Int).toNat)=⟨#[61,61]⟩)) H _ c h)
  ·refine a7 (G5 _ _ _ _ _) ?_
   refine l7 h (fun _ h=>?_) (fun _ h=>?_)
   ·exact hx2 _ _ (hj2 (decide ((x0.extract (x1:Int).toNat (IntKind.wrap .i64 (x1+2):Int).toNat)=⟨#[33,61]⟩)) H _ c h)
   ·refine a7 (G5 _ _ _ _ _) ?_
    refine l7 h (fun _ h=>?_) (fun _ h=>?_)
    ·exact hx2 _ _ (hj2 (decide ((x0.extract (x1:Int).toNat (IntKind.wrap .i64 (x1+2):Int).toNat)=⟨#[60,61]⟩)) H _ c h)
    ·refine a7 (G5 _ _ _ _ _) ?_
     refine l7 h (fun _ h=>?_) (fun _ h=>?_)
     ·exact hx2 _ _ (hj2 (decide ((x0.extract (x1:Int).toNat (IntKind.wrap .i64 (x1+2):Int).toNat)=⟨#[62,61]⟩)) H _ c h)
     ·refine a7 (G5 _ _ _ _ _) ?_
      refine l7 h (fun _ h=>?_) (fun _ h=>?_)
      ·exact hx2 _ _ (hj2 (decide ((x0.extract (x1:Int).toNat (IntKind.wrap .i64 (x1+2):Int).toNat)=⟨#[38,38]⟩)) H _ c h)
      ·refine a7 (G5 _ _ _ _ _) ?_
       exact hx2 _ _ (hj2 (decide ((x0.extract (x1:Int).toNat (IntKind.wrap .i64 (x1+2):Int).toNat)=⟨#[124,124]⟩)) H _ c h)
 ·exact hx1 _ _ (hj1 H _ c h)
def a2N (H:Hp) (K:Int→Int→Hp→Prop):Prop:=
 K 0 0 H
def a0T (O8:ByteArray) (L9:Int) (H:Hp) (n2:Int→Hp→Prop) (K:Int→Int→Hp→Prop):Prop:=
 (L9 < (O8.size:Int)→
 O0 O8 L9 H (fun d c a b=>
 ((!a)=true→
 K L9 11 b)∧
 ((!a)=false→
 n2 (IntKind.wrap .i64 (L9+c)) b)))∧
 (¬(L9 < (O8.size:Int))→
 a2N H K)
def a4a (x0:ByteArray) (H:Hp) (K:Int→Int→Hp→Prop):Prop:=
 (65536 < (x0.size:Int)→
 K 0 10 H)∧
 (¬(65536 < (x0.size:Int))→
 TL (0:Int) H fun (s:Int) H n2=>a0T x0 s H n2 K)
theorem b0N (x0) {H K} (h:a4a x0 H K):a3V x0 H K:=by
 refine Ct.of fun w0 w ps0 H0 R E I hR=>d0u ?_
 unfold a4a at h
 unfold F58
 refine a7 (X3 _) (a7 pGt ?_)
 refine l7 h (fun _ h=>?_) (fun _ h=>?_)
 ·exact hR _ H _ _ I ⟨0,10,rfl,rfl,h⟩
 ·have hj1:∀H w (_:Inv w0 ps0 H0 H [] w) (_:a2N H K),b9q w R E:=by
   intro H w I h
   unfold b9q
   intro _
   unfold a2N at h
   exact hR _ H _ _ I ⟨0,0,rfl,rfl,h⟩
  refine r9 fun j1 hx1=>?_
  obtain ⟨d,c,j,k⟩:=h
  refine B0 (J:=fun n l w=>∃(s:Int) (H:Hp),n=c s∧l=[(vi s)]∧Inv w0 ps0 H0 H [] w∧d s H) ⟨_,0,H,rfl,rfl,I,j⟩ ?_
  rintro q r w next2 ⟨L9,H,rfl,e,I,m⟩ hn2
  simp only [List.map_cons,List.map_nil,List.cons.injEq,and_true] at e
  have e4:=e
  simp only [e4]
  obtain ⟨n2,hm2,h⟩:∃n2:Int→Hp→Prop,(∀s' H',n2 s' H'→d s' H'∧c s' < c L9)∧a0T x0 L9 H n2 K:=⟨_,fun _ _ h=>h,k L9 H (fun s' H'=>d s' H'∧c s' < c L9) m (fun _ _ a b=>⟨a,b⟩)⟩
  unfold c3P
  unfold a0T at h
  refine a7 (X3 _) (a7 pLs ?_)
  refine l7 h (fun _ h=>?_) (fun _ h=>?_)
  ·refine g6 Tryz.call108 h I ?_
   rintro _ f _ t g _ _ ⟨o,i,p,rfl,rfl,h⟩
   refine a7 (g7 _ _ (vi o) rfl) (a7 (g7 _ _ (vi i) rfl) (a7 (g7 _ _ (vB p) rfl) (a7 (K5 _) ?_)))
   refine m0 h (fun _ h=>?_) (fun _ h=>?_)
   ·exact hR _ f _ _ g ⟨L9,11,rfl,rfl,h⟩
   ·refine a7 pAd ?_
    exact hn2 _ _ _ (hm2 _ _ h).2 ⟨(IntKind.wrap .i64 (L9+i)),f,rfl,rfl,g,(hm2 _ _ h).1⟩
  ·exact hx1 _ _ (hj1 H _ I h)
def U3 (d2m:ByteArray) (b1j:Int) (b0n:Int) (d5F:Int) (a:b7) (b:b7) (H:Hp) (n2:(Int×b7×b7)→Hp→Prop) (K:b7→Hp→Prop):Prop:=
 n2 ((IntKind.wrap .i64 (b0n+d5F)),a,b) H
def a1I (a:b7) (b:b7) (H:Hp) (K:b7→Hp→Prop):Prop:=
 K a H
def a1J (O8:ByteArray) (T4:Int) (C8:Int) (a:b7) (b:b7) (H:Hp) (n2:(Int×b7×b7)→Hp→Prop) (K:b7→Hp→Prop):Prop:=
 (((decide (C8 < (O8.size:Int)))&&(decide (C8 < T4)))=true→
 O0 O8 C8 H (fun c d f e=>
 (c=10→
 U3 O8 T4 C8 d (b7.mk (IntKind.wrap .i64 (a.o8+1)) 1) b e n2 K)∧
 (¬(c=10)→
 U3 O8 T4 C8 d (b7.mk a.o8 (IntKind.wrap .i64 (a.s6+1))) b e n2 K)))∧
 (((decide (C8 < (O8.size:Int)))&&(decide (C8 < T4)))=false→
 a1I a b H K)
def a5M (x0:ByteArray) (x1:Int) (H:Hp) (K:b7→Hp→Prop):Prop:=
 TL ((0,(b7.mk 1 1),(b7.mk 0 0)):Int×b7×b7) H fun (s:Int×b7×b7) H n2=>a1J x0 x1 s.1 s.2.1 s.2.2 H n2 K
theorem b2g (x0 x1) {H K} (h:a5M x0 x1 H K):a5H x0 x1 H K:=by
 refine Ct.of fun w0 w ps0 H0 R E I hR=>d0v ?_
 unfold a5M at h
 unfold F59
 refine m9 I Tryz.zeroValue28 (cs:=[(vi 0),(vi 0)]) rfl fun i ak aa al=>?_
 refine a7 (a6y _ _) ?_
 refine m9 aa Tryz.zeroValue28 (cs:=[(vi 0),(vi 0)]) rfl fun j am ab an=>?_
 refine f8 ab Tryz.sizeOf28 (vs:=[(vi 1),(vi 1)]) (cs':=[(vi 1),(vi 1)]) rfl rfl (nb rfl) rfl rfl fun ao ac ap=>?_
 have hj1:∀(f:b7) (q:b7) H w (_:Inv w0 ps0 H0 H [bx j 28 (b9 f),bx i 28 (b9 q)] w) (_:a1I f q H K),b9r (Value.pointer (some ⟨i,0,none⟩)) (Value.pointer (some ⟨j,0,none⟩)) w R E:=by
  intro f q H w I h
  unfold b9r
  intro _
  unfold a1I at h
  refine g5 (lW Tryz.isAgg28 Tryz.sizeOf28 rfl I) ?_
  refine f8 (I.bring 1) Tryz.sizeOf28 (vs:=(b9 f)) (cs':=(b9 f)) rfl rfl (nb rfl) rfl rfl fun aq v ar=>?_
  refine o4 Tryz.isAgg28 Tryz.sizeOf28 rfl (v.at1 (o:=0) (vs:=(b9 f)) (nb rfl) rfl) ?_
  exact hR _ H _ _ v.drop.drop ⟨f,rfl,rfl,h⟩
 refine r9 fun j1 hx1=>?_
 obtain ⟨r,k,ad,ae⟩:=h
 refine B0 (J:=fun n l w=>∃(s:Int×b7×b7) (H:Hp),n=k s∧l=(match s with | (C8,c,e)=>[(vi C8)])∧(match s with | (C8,c,e)=>Inv w0 ps0 H0 H [bx j 28 (b9 c),bx i 28 (b9 e)] w)∧r s H) ⟨_,(0,(b7.mk 1 1),(b7.mk 0 0)),H,rfl,rfl,((ac.bring 1).bring 1),ad⟩ ?_
 rintro au av w next2 ⟨⟨C8,c,e⟩,H,rfl,t,I,af⟩ hn2
 dsimp only at t I
 simp only [List.map_cons,List.map_nil,List.cons.injEq,and_true] at t
 have e6:=t
 simp only [e6]
 obtain ⟨n2,hm2,h⟩:∃n2:(Int×b7×b7)→Hp→Prop,(∀s' H',n2 s' H'→r s' H'∧k s' < k (C8,c,e))∧a1J x0 x1 C8 c e H n2 K:=⟨_,fun _ _ h=>h,ae (C8,c,e) H (fun s' H'=>r s' H'∧k s' < k (C8,c,e)) af (fun _ _ a b=>⟨a,b⟩)⟩
 unfold c3Q
 unfold a1J at h
 refine a7 (X3 _) (a7 pLs ?_)
 simp only [q9]
 refine a7 (Pu.g fun d=>by simp only [k7 d];with_reducible exact pLs) ?_
 refine a7 (u4 _ _) ?_
 refine m0 h (fun _ h=>?_) (fun _ h=>?_)
 ·refine g6 Tryz.call108 h I ?_
  rintro _ y _ aw z _ _ ⟨ag,m,ah,rfl,rfl,h⟩
  refine a7 (g7 _ _ (vi ag) rfl) (a7 (g7 _ _ (vi m) rfl) (a7 (g7 _ _ (vB ah) rfl) (a7 a5s (g5 (l1 Tryz.isAgg3 z rfl) ?_))))
  refine a7 pAd (a7 a5s ?_)
  refine f8 z Tryz.sizeOf3 (vs:=[(vi (IntKind.wrap .i64 (c.s6+1)))]) (cs':=[(vi c.o8),(vi (IntKind.wrap .i64 (c.s6+1)))]) rfl rfl (nb rfl) rfl rfl fun ax u ay=>?_
  have hj3:∀(p:b7) H w (_:Inv w0 ps0 H0 H [bx j 28 (b9 p),bx i 28 (b9 e)] w) (_:U3 x0 x1 C8 m p e H n2 K),b9s (Value.string x0) (vi x1) (Value.pointer (some ⟨i,0,none⟩)) (Value.pointer (some ⟨j,0,none⟩)) (vi C8) (vi m) w next2 R E:=by
   intro p H w I h
   unfold b9s
   intro _
   unfold U3 at h
   refine a7 pAd ?_
   exact hn2 _ _ _ (hm2 _ _ h).2 ⟨((IntKind.wrap .i64 (C8+m)),p,e),H,rfl,rfl,((I.bring 1).bring 1),(hm2 _ _ h).1⟩
  refine r9 fun j3 hx3=>?_
  refine a7 pEq ?_
  refine l7 h (fun _ h=>?_) (fun _ h=>?_)
  ·refine a7 a8R (g5 (l1 Tryz.isAgg3 u rfl) (a7 pAd (a7 a8R ?_)))
   refine f8 u Tryz.sizeOf3 (vs:=[(vi (IntKind.wrap .i64 (c.o8+1)))]) (cs':=[(vi (IntKind.wrap .i64 (c.o8+1))),(vi (IntKind.wrap .i64 (c.s6+1)))]) rfl rfl (nb rfl) rfl rfl fun az ai ba=>?_
   refine a7 a5s ?_
   refine f8 ai Tryz.sizeOf3 (vs:=[(vi 1)]) (cs':=[(vi (IntKind.wrap .i64 (c.o8+1))),(vi 1)]) rfl rfl (nb rfl) rfl rfl fun bb aj bc=>?_
   exact hx3 _ _ (hj3 (b7.mk (IntKind.wrap .i64 (c.o8+1)) 1) y _ ((aj.bring 1).bring 1) h)
  ·exact hx3 _ _ (hj3 (b7.mk c.o8 (IntKind.wrap .i64 (c.s6+1))) y _ ((u.bring 1).bring 1) h)
 ·exact hx1 _ _ (hj1 c e H _ ((I.bring 1).bring 1) h)
def a0C (b3T:ByteArray) (a4R:(List b6)) (b1v:Int) (l:b7) (m:b7) (H:Hp) (n1:((List b6)×Int×b7×b7)→Hp→Prop) (K:Sl→b7→Int→Hp→Prop):Prop:=
 a4j b3T b1v H (fun d o=>
 a1E b3T l b1v d o (fun a f=>
 ((b3T.size:Int)≤d→
 (a4R.length+([(b6.mk 5 ⟨#[]⟩ 0 a)]:List b6).length)*49≤140737488355328∧
 ∀(e:Sl) (g:Hp),Hle f g→SlH g 5 f9 e (a4R++[(b6.mk 5 ⟨#[]⟩ 0 a)])→e.n≤e.c→
 K e (b7.mk 0 0) 0 g)∧
 (¬((b3T.size:Int)≤d)→
 ((a4R.length:Int)=32768→
 K (Sl.mk none 0 0) a 23 f)∧
 (¬((a4R.length:Int)=32768)→
 a5a b3T d f (fun b j i k=>
 (¬(i=0)→
 K (Sl.mk none 0 0) a i k)∧
 (i=0→
 (a4R.length+([(b6.mk b.d8 b.A0 b.F0 a)]:List b6).length)*49≤140737488355328∧
 a1E b3T a d j k (fun p q=>
 n1 ((a4R++[(b6.mk b.d8 b.A0 b.F0 a)]),j,p,m) q)))))))
def a3L (x0:ByteArray) (H:Hp) (K:Sl→b7→Int→Hp→Prop):Prop:=
 a3V x0 H (fun c a b=>
 (a=10→
 K (Sl.mk none 0 0) (b7.mk 1 1) a b)∧
 (¬(a=10)→
 (¬(a=0)→
 a5H x0 c b (fun d e=>
 K (Sl.mk none 0 0) d a e))∧
 (a=0→
 TL (([],0,(b7.mk 1 1),(b7.mk 0 0)):(List b6)×Int×b7×b7) b fun (s:(List b6)×Int×b7×b7) H n1=>a0C x0 s.1 s.2.1 s.2.2.1 s.2.2.2 H n1 K)))
theorem b0z (x0) {H K} (h:a3L x0 H K):a1q x0 H K:=by
 refine Ct.of fun w0 w ps0 H0 R E I hR=>c9X ?_
 unfold a3L at h
 unfold F22
 refine m9 I Tryz.zeroValue28 (cs:=[(vi 0),(vi 0)]) rfl fun ap bz aq ca=>?_
 refine g6 Tryz.call58 h aq ?_
 rintro _ y _ cb p _ _ ⟨ar,q,rfl,rfl,h⟩
 refine a7 (g7 _ _ (vi ar) rfl) (a7 (g7 _ _ (vi q) rfl) (a7 pEq ?_))
 refine l7 h (fun _ h=>?_) (fun _ h=>?_)
 ·refine a7 (a6y _ _) ?_
  refine f8 p Tryz.sizeOf28 (vs:=[(vi 1),(vi 1)]) (cs':=[(vi 1),(vi 1)]) rfl rfl (nb rfl) rfl rfl fun cc z cd=>?_
  refine o4 Tryz.isAgg28 Tryz.sizeOf28 rfl (z.at1 (o:=0) (vs:=[(vi 1),(vi 1)]) (nb rfl) rfl) ?_
  exact hR _ y _ _ z.drop ⟨(Sl.mk none 0 0),(b7.mk 1 1),q,rfl,rfl,h⟩
 ·refine a7 pNe ?_
  refine Z9 h (fun _ h=>?_) (fun _ h=>?_)
  ·refine g6 Tryz.call59 h p ?_
   rintro _ au _ ce av _ _ ⟨k,rfl,rfl,h⟩
   refine f8 av Tryz.sizeOf28 (vs:=(b9 k)) (cs':=(b9 k)) rfl rfl (nb rfl) rfl rfl fun cf aa cg=>?_
   refine o4 Tryz.isAgg28 Tryz.sizeOf28 rfl (aa.at1 (o:=0) (vs:=(b9 k)) (nb rfl) rfl) ?_
   exact hR _ au _ _ aa.drop ⟨(Sl.mk none 0 0),k,q,rfl,rfl,h⟩
  ·refine a7 (a6y _ _) ?_
   refine m9 p Tryz.zeroValue28 (cs:=[(vi 0),(vi 0)]) rfl fun aw ch ax ci=>?_
   refine f8 ax Tryz.sizeOf28 (vs:=[(vi 1),(vi 1)]) (cs':=[(vi 1),(vi 1)]) rfl rfl (nb rfl) rfl rfl fun cj ay ck=>?_
   obtain ⟨r,j,az,ba⟩:=h
   refine B0 (J:=fun n l w=>∃(s:(List b6)×Int×b7×b7) (H:Hp) (b5Y:Sl) (Fs7l1:Frag),n=j s∧l=(match s with | (a4R,b1v,i,g)=>[(vs b5Y),(vi b1v)])∧(match s with | (a4R,b1v,i,g)=>RowL 103 5 f9 b5Y a4R Fs7l1)∧(match s with | (a4R,b1v,i,g)=>Inv w0 ps0 H0 H [bx aw 28 (b9 i),bx ap 28 (b9 g),Fs7l1] w)∧r s H) ⟨_,([],0,(b7.mk 1 1),(b7.mk 0 0)),y,(Sl.mk none 0 0),[],rfl,rfl,(RowL.nil a2B a2C),((ay.nil.bring 2).bring 2),az⟩ ?_
   rintro cl cm w next1 ⟨⟨a4R,b1v,i,g⟩,H,b5Y,Fs7l1,rfl,t,b8A,I,bb⟩ hn1
   dsimp only at t I b8A
   simp only [List.map_cons,List.map_nil,List.cons.injEq,and_true] at t
   obtain ⟨e7,e9⟩:=t
   simp only [e7,e9]
   obtain ⟨n1,hm1,h⟩:∃n1:((List b6)×Int×b7×b7)→Hp→Prop,(∀s' H',n1 s' H'→r s' H'∧j s' < j (a4R,b1v,i,g))∧a0C x0 a4R b1v i g H n1 K:=⟨_,fun _ _ h=>h,ba (a4R,b1v,i,g) H (fun s' H'=>r s' H'∧j s' < j (a4R,b1v,i,g)) bb (fun _ _ a b=>⟨a,b⟩)⟩
   unfold c3K
   unfold a0C at h
   refine g6 Tryz.call60 h I ?_
   rintro _ _ _ cn ab _ _ ⟨co,rfl,rfl,h⟩
   refine g5 (lW Tryz.isAgg28 Tryz.sizeOf28 rfl ab) ?_
   refine g6 Tryz.call61 h ab ?_
   rintro _ bc _ cp bd _ _ ⟨d,rfl,rfl,h⟩
   refine f8 bd Tryz.sizeOf28 (vs:=(b9 d)) (cs':=(b9 d)) rfl rfl (nb rfl) rfl rfl fun cq m cr=>?_
   refine a7 (X3 _) (a7 pGe ?_)
   refine l7 h (fun _ h=>?_) (fun _ h=>?_)
   ·refine g5 (lW Tryz.isAgg28 Tryz.sizeOf28 rfl m) (a7 (b2o _ _ _) ?_)
    refine V9 (e:=103) (c:=f9) (xs:=[(b6.mk 5 ⟨#[]⟩ 0 d)]) m (b4s _ _ _ _ _) rfl rfl a2B a2C (nb rfl) fun ct cu cv be ac cw=>?_
    obtain ⟨bf,h⟩:=h
    refine b5R (s:=b5Y) (xs:=a4R) (ac.bring 3) b8A (be.srcO ((ac.bring 3).bring 1)) bf fun ad cx cy bg bh cz=>?_
    refine a7 (b0a) ?_
    refine f8 ((bh.bring 1).drop.bring 2) Tryz.sizeOf28 (vs:=[(vi 0),(vi 0)]) (cs':=[(vi 0),(vi 0)]) rfl rfl (nb rfl) rfl rfl fun da ae db=>?_
    refine o4 Tryz.isAgg28 Tryz.sizeOf28 rfl (ae.at1 (o:=0) (vs:=[(vi 0),(vi 0)]) (nb rfl) rfl) ?_
    obtain ⟨af,bi,bj,bk,bl⟩:=Inv.freezeC (ae.bring 1) bg (by decide)
    replace h:=h ad af bj bk bl
    exact hR _ af _ _ bi.drop.drop ⟨ad,(b7.mk 0 0),0,rfl,rfl,h⟩
   ·refine a7 (b2I Tryz.underlying61 b8A) (a7 pEq ?_)
    refine l7 h (fun _ h=>?_) (fun _ h=>?_)
    ·refine P3 m fun dc ag=>?_
     refine t8 (lW Tryz.isAgg28 Tryz.sizeOf28 rfl ag) ?_
     refine f8 (ag.bring 1) Tryz.sizeOf28 (vs:=(b9 d)) (cs':=(b9 d)) rfl rfl (nb rfl) rfl rfl fun dd ah de=>?_
     refine o4 Tryz.isAgg28 Tryz.sizeOf28 rfl (ah.at1 (o:=0) (vs:=(b9 d)) (nb rfl) rfl) ?_
     exact hR _ bc _ _ ah.drop.drop.drop ⟨(Sl.mk none 0 0),d,23,rfl,rfl,h⟩
    ·refine g6 Tryz.call62 h m ?_
     rintro _ bm _ df bn _ _ ⟨f,ai,aj,rfl,rfl,h⟩
     refine a7 (g7 _ _ _ rfl) (a7 (g7 _ _ (vi ai) rfl) (a7 (g7 _ _ (vi aj) rfl) ?_))
     refine m9 bn Tryz.zeroValue103 (cs:=[(vi 0),(eS),(vi 0),(vi 0),(vi 0)]) rfl fun dg dh bo di=>?_
     refine f8 bo Tryz.sizeOf103 (vs:=(f9 f)) (cs':=(f9 f)) rfl rfl (nb rfl) rfl rfl fun dj u dk=>?_
     refine a7 pNe ?_
     refine Z9 h (fun _ h=>?_) (fun _ h=>?_)
     ·refine P3 u fun dl ak=>?_
      refine t8 (lW Tryz.isAgg28 Tryz.sizeOf28 rfl (ak.bring 1)) ?_
      refine f8 (ak.bring 2) Tryz.sizeOf28 (vs:=(b9 d)) (cs':=(b9 d)) rfl rfl (nb rfl) rfl rfl fun dm al dn=>?_
      refine o4 Tryz.isAgg28 Tryz.sizeOf28 rfl (al.at1 (o:=0) (vs:=(b9 d)) (nb rfl) rfl) ?_
      exact hR _ bm _ _ al.drop.drop.drop.drop ⟨(Sl.mk none 0 0),d,aj,rfl,rfl,h⟩
     ·refine g5 (lW Tryz.isAgg28 Tryz.sizeOf28 rfl (u.bring 1)) (a7 a9O ?_)
      refine f8 u Tryz.sizeOf28 (vs:=(b9 d)) (cs':=[(vi f.d8),(Value.string f.A0),(vi f.F0),(vi d.o8),(vi d.s6)]) rfl rfl (nb rfl) rfl rfl fun dp am dq=>?_
      refine g5 (ldA Tryz.isAgg103 Tryz.sizeOf103 rfl (am.at1 (o:=0) (vs:=[(vi f.d8),(Value.string f.A0),(vi f.F0),(vi d.o8),(vi d.s6)]) (nb rfl) rfl)) ?_
      refine V9 (e:=103) (c:=f9) (xs:=[(b6.mk f.d8 f.A0 f.F0 d)]) am (b4s _ _ _ _ _) rfl rfl a2B a2C (nb rfl) fun dr ds dt bp an du=>?_
      obtain ⟨bq,h⟩:=h
      refine b5R (s:=b5Y) (xs:=a4R) (an.bring 4) b8A (bp.srcO ((an.bring 4).bring 1)) bq fun br bs dv bt ao dw=>?_
      refine g5 (lW Tryz.isAgg28 Tryz.sizeOf28 rfl ((ao.bring 1).drop.bring 2)) ?_
      refine g6 Tryz.call61 h (ao.bring 1).drop ?_
      rintro _ bu _ dx bv _ _ ⟨v,rfl,rfl,h⟩
      refine f8 (bv.bring 2) Tryz.sizeOf28 (vs:=(b9 v)) (cs':=(b9 v)) rfl rfl (nb rfl) rfl rfl fun dy bw dz=>?_
      exact hn1 _ _ _ (hm1 _ _ h).2 ⟨((a4R++[(b6.mk f.d8 f.A0 f.F0 d)]),ai,v,g),bu,br,bs,rfl,rfl,bt,((((bw.bring 2).drop.bring 1).bring 2).bring 2),(hm1 _ _ h).1⟩
def D8 (a0j:(List g9)) (H:Hp) (K:Sl→Hp→Prop):Prop:=
 ∀(G4:Sl) (a:Hp),Hle H a→SlH a 1 u0 G4 a0j→G4.n≤G4.c→
 K G4 a
def D9 (A9:Sl) (a0P:Int) (y9:(List g9)) (v7:Int) (H:Hp) (n2:((List g9)×Int)→Hp→Prop) (K:Sl→Hp→Prop):Prop:=
 (v7 < a0P→
 (0:Int)≤v7∧(v7:Int) < A9.n∧∃a:p5,EltH H A9 v7 2 (C1 a)∧
 a8S a H (fun b c=>
 (y9.length+([b]:List g9).length)*17≤140737488355328∧
 n2 ((y9++[b]),(IntKind.wrap .i64 (v7+1))) c))∧
 (¬(v7 < a0P)→
 D8 y9 H K)
def M9 (x0:Sl) (H:Hp) (K:Sl→Hp→Prop):Prop:=
 TL (([],0):(List g9)×Int) H fun (s:(List g9)×Int) H n2=>D9 x0 (x0.n:Int) s.1 s.2 H n2 K
theorem a2O (x0) {H K} (h:M9 x0 H K):M2 x0 H K:=by
 refine Ct.of fun w0 w ps0 H0 R E I hR=>d0H ?_
 unfold M9 at h
 unfold F76
 have hj1:∀(a0j:(List g9)) (G4:Sl) (Fs5j1:Frag) H w (_:RowL 131 1 u0 G4 a0j Fs5j1) (_:Inv w0 ps0 H0 H [Fs5j1] w) (_:D8 a0j H K),b9B (vs G4) w R E:=by
  intro a0j G4 Fs5j1 H w b0J I h
  unfold b9B
  intro _
  unfold D8 at h
  obtain ⟨k,q,r,t,u⟩:=Inv.freezeC I b0J (by decide)
  replace h:=h G4 k r t u
  exact hR _ k _ _ q ⟨G4,rfl,rfl,h⟩
 refine r9 fun j1 hx1=>?_
 refine a7 (b7I _ _ _) ?_
 obtain ⟨f,d,v,y⟩:=h
 refine B0 (J:=fun n l w=>∃(s:(List g9)×Int) (H:Hp) (a0l:Sl) (Fs5l2:Frag),n=d s∧l=(match s with | (y9,v7)=>[(vs a0l),(vi v7)])∧(match s with | (y9,v7)=>RowL 131 1 u0 a0l y9 Fs5l2)∧(match s with | (y9,v7)=>Inv w0 ps0 H0 H [Fs5l2] w)∧f s H) ⟨_,([],0),H,(Sl.mk none 0 0),[],rfl,rfl,(RowL.nil P8 S2),I.nil,v⟩ ?_
 rintro am an w next2 ⟨⟨y9,v7⟩,H,a0l,Fs5l2,rfl,g,a3Y,I,z⟩ hn2
 dsimp only at g I a3Y
 simp only [List.map_cons,List.map_nil,List.cons.injEq,and_true] at g
 obtain ⟨e5,e10⟩:=g
 simp only [e5,e10]
 obtain ⟨n2,hm2,h⟩:∃n2:((List g9)×Int)→Hp→Prop,(∀s' H',n2 s' H'→f s' H'∧d s' < d (y9,v7))∧D9 x0 (x0.n:Int) y9 v7 H n2 K:=⟨_,fun _ _ h=>h,y (y9,v7) H (fun s' H'=>f s' H'∧d s' < d (y9,v7)) z (fun _ _ a b=>⟨a,b⟩)⟩
 unfold c3W
 unfold D9 at h
 refine a7 pLs ?_
 refine l7 h (fun _ h=>?_) (fun _ h=>?_)
 ·obtain ⟨aa,ab,i,j,h⟩:=h
  obtain ⟨ao,ap,ac,j⟩:=j
  refine a7 (c5m ac _ _ _ _ aa ab) (g5 (ldA (vs:=(C1 i)) Tryz.isAgg68 Tryz.sizeOf68 rfl (I.atH j)) ?_)
  refine m9 I Tryz.zeroValue68 (cs:=[(eS),(vi 0)]) rfl fun aq ar ad au=>?_
  refine f8 ad Tryz.sizeOf68 (vs:=(C1 i)) (cs':=(C1 i)) rfl rfl (nb rfl) rfl rfl fun av m aw=>?_
  refine g5 (lW Tryz.isAgg68 Tryz.sizeOf68 rfl m) ?_
  refine g6 Tryz.call77 h m ?_
  rintro _ ae _ ax af _ _ ⟨o,rfl,rfl,h⟩
  refine V9 (e:=131) (c:=u0) (xs:=[o]) af (a9o _) rfl rfl P8 S2 (nb rfl) fun ay az ba ag p bb=>?_
  obtain ⟨ah,h⟩:=h
  refine b2r (s:=a0l) (xs:=y9) (p.bring 2) a3Y (ag.srcO ((p.bring 2).bring 1)) ah fun ai aj bc ak al bd=>?_
  refine a7 pAd ?_
  exact hn2 _ _ _ (hm2 _ _ h).2 ⟨((y9++[o]),(IntKind.wrap .i64 (v7+1))),ae,ai,aj,rfl,rfl,ak,((al.bring 1).drop.bring 1).drop,(hm2 _ _ h).1⟩
 ·exact hx1 _ _ (hj1 y9 a0l Fs5l2 H _ a3Y I h)
def E0 (a0j:(List g9)) (H:Hp) (K:Sl→Hp→Prop):Prop:=
 ∀(G4:Sl) (a:Hp),Hle H a→SlH a 1 u0 G4 a0j→G4.n≤G4.c→
 K G4 a
def E1 (A9:Sl) (a0P:Int) (y9:(List g9)) (v7:Int) (H:Hp) (n2:((List g9)×Int)→Hp→Prop) (K:Sl→Hp→Prop):Prop:=
 (v7 < a0P→
 (0:Int)≤v7∧(v7:Int) < A9.n∧∃a:j9,EltH H A9 v7 6 (y2 a)∧
 a8T a H (fun b c=>
 (y9.length+([b]:List g9).length)*17≤140737488355328∧
 n2 ((y9++[b]),(IntKind.wrap .i64 (v7+1))) c))∧
 (¬(v7 < a0P)→
 E0 y9 H K)
def N0 (x0:Sl) (H:Hp) (K:Sl→Hp→Prop):Prop:=
 TL (([],0):(List g9)×Int) H fun (s:(List g9)×Int) H n2=>E1 x0 (x0.n:Int) s.1 s.2 H n2 K
theorem a2P (x0) {H K} (h:N0 x0 H K):B8 x0 H K:=by
 refine Ct.of fun w0 w ps0 H0 R E I hR=>d0J ?_
 unfold N0 at h
 unfold F78
 have hj1:∀(a0j:(List g9)) (G4:Sl) (Fs5j1:Frag) H w (_:RowL 131 1 u0 G4 a0j Fs5j1) (_:Inv w0 ps0 H0 H [Fs5j1] w) (_:E0 a0j H K),b9C (vs G4) w R E:=by
  intro a0j G4 Fs5j1 H w b0J I h
  unfold b9C
  intro _
  unfold E0 at h
  obtain ⟨k,q,r,t,u⟩:=Inv.freezeC I b0J (by decide)
  replace h:=h G4 k r t u
  exact hR _ k _ _ q ⟨G4,rfl,rfl,h⟩
 refine r9 fun j1 hx1=>?_
 refine a7 (a9Z _ _ _) ?_
 obtain ⟨f,d,v,y⟩:=h
 refine B0 (J:=fun n l w=>∃(s:(List g9)×Int) (H:Hp) (a0l:Sl) (Fs5l2:Frag),n=d s∧l=(match s with | (y9,v7)=>[(vs a0l),(vi v7)])∧(match s with | (y9,v7)=>RowL 131 1 u0 a0l y9 Fs5l2)∧(match s with | (y9,v7)=>Inv w0 ps0 H0 H [Fs5l2] w)∧f s H) ⟨_,([],0),H,(Sl.mk none 0 0),[],rfl,rfl,(RowL.nil P8 S2),I.nil,v⟩ ?_
 rintro am an w next2 ⟨⟨y9,v7⟩,H,a0l,Fs5l2,rfl,g,a3Y,I,z⟩ hn2
 dsimp only at g I a3Y
 simp only [List.map_cons,List.map_nil,List.cons.injEq,and_true] at g
 obtain ⟨e5,e10⟩:=g
 simp only [e5,e10]
 obtain ⟨n2,hm2,h⟩:∃n2:((List g9)×Int)→Hp→Prop,(∀s' H',n2 s' H'→f s' H'∧d s' < d (y9,v7))∧E1 x0 (x0.n:Int) y9 v7 H n2 K:=⟨_,fun _ _ h=>h,y (y9,v7) H (fun s' H'=>f s' H'∧d s' < d (y9,v7)) z (fun _ _ a b=>⟨a,b⟩)⟩
 unfold c3X
 unfold E1 at h
 refine a7 pLs ?_
 refine l7 h (fun _ h=>?_) (fun _ h=>?_)
 ·obtain ⟨aa,ab,i,j,h⟩:=h
  obtain ⟨ao,ap,ac,j⟩:=j
  refine a7 (b5y ac _ _ _ _ aa ab) (g5 (ldA (vs:=(y2 i)) Tryz.isAgg56 Tryz.sizeOf56 rfl (I.atH j)) ?_)
  refine m9 I Tryz.zeroValue56 (cs:=[(vi 0),(eS),(nS),(nS),(nS),(nS)]) rfl fun aq ar ad au=>?_
  refine f8 ad Tryz.sizeOf56 (vs:=(y2 i)) (cs':=(y2 i)) rfl rfl (nb rfl) rfl rfl fun av m aw=>?_
  refine g5 (lW Tryz.isAgg56 Tryz.sizeOf56 rfl m) ?_
  refine g6 Tryz.call79 h m ?_
  rintro _ ae _ ax af _ _ ⟨o,rfl,rfl,h⟩
  refine V9 (e:=131) (c:=u0) (xs:=[o]) af (a9o _) rfl rfl P8 S2 (nb rfl) fun ay az ba ag p bb=>?_
  obtain ⟨ah,h⟩:=h
  refine b2r (s:=a0l) (xs:=y9) (p.bring 2) a3Y (ag.srcO ((p.bring 2).bring 1)) ah fun ai aj bc ak al bd=>?_
  refine a7 pAd ?_
  exact hn2 _ _ _ (hm2 _ _ h).2 ⟨((y9++[o]),(IntKind.wrap .i64 (v7+1))),ae,ai,aj,rfl,rfl,ak,((al.bring 1).drop.bring 1).drop,(hm2 _ _ h).1⟩
 ·exact hx1 _ _ (hj1 y9 a0l Fs5l2 H _ a3Y I h)
def a8z (x0:Int) (x1:Int) (x2:Int) (H:Hp) (K:Bool→Hp→Prop):Prop:=
 K ((decide (x0≤x2))&&(decide (x2≤x1))) H
theorem b2x (x0 x1 x2) {H K} (h:a8z x0 x1 x2 H K):O2 x0 x1 x2 H K:=by
 intro g2
 refine Ct.of fun w0 w ps0 H0 R E I hR=>c8j ?_
 unfold a8z at h
 unfold d1P
 refine g5 (l1 Tryz.isAgg21 I rfl) (a7 pLe ?_)
 refine g5 (Ld.g fun a=>by exact (l1 Tryz.isAgg21 I rfl)) ?_
 simp only [q9]
 refine a7 (Pu.g fun a=>by simp only [k7 a];with_reducible exact pLe) ?_
 refine a7 (u4 _ _) ?_
 exact hR _ H _ _ I ⟨((decide (x0≤x2))&&(decide (x2≤x1))),rfl,rfl,h⟩
def s9 (v8:Bool) (H:Hp) (K:Bool→Hp→Prop):Prop:=
 (v8=true→
 K true H)∧
 (v8=false→
 K false H)
def a7Y (x0:ByteArray) (H:Hp) (K:Bool→Hp→Prop):Prop:=
 (x0=⟨#[118,97,114]⟩→
 s9 (decide (x0=⟨#[118,97,114]⟩)) H K)∧
 (¬(x0=⟨#[118,97,114]⟩)→
 (x0=⟨#[97,114,114,97,121]⟩→
 s9 (decide (x0=⟨#[97,114,114,97,121]⟩)) H K)∧
 (¬(x0=⟨#[97,114,114,97,121]⟩)→
 (x0=⟨#[105,102]⟩→
 s9 (decide (x0=⟨#[105,102]⟩)) H K)∧
 (¬(x0=⟨#[105,102]⟩)→
 (x0=⟨#[101,108,115,101]⟩→
 s9 (decide (x0=⟨#[101,108,115,101]⟩)) H K)∧
 (¬(x0=⟨#[101,108,115,101]⟩)→
 (x0=⟨#[119,104,105,108,101]⟩→
 s9 (decide (x0=⟨#[119,104,105,108,101]⟩)) H K)∧
 (¬(x0=⟨#[119,104,105,108,101]⟩)→
 (x0=⟨#[97,115,115,101,114,116]⟩→
 s9 (decide (x0=⟨#[97,115,115,101,114,116]⟩)) H K)∧
 (¬(x0=⟨#[97,115,115,101,114,116]⟩)→
 (x0=⟨#[97,115,115,117,109,101]⟩→
 s9 (decide (x0=⟨#[97,115,115,117,109,101]⟩)) H K)∧
 (¬(x0=⟨#[97,115,115,117,109,101]⟩)→
 (x0=⟨#[115,107,105,112]⟩→
 s9 (decide (x0=⟨#[115,107,105,112]⟩)) H K)∧
 (¬(x0=⟨#[115,107,105,112]⟩)→
 (x0=⟨#[105,110,112,117,116]⟩→
 s9 (decide (x0=⟨#[105,110,112,117,116]⟩)) H K)∧
 (¬(x0=⟨#[105,110,112,117,116]⟩)→
 (x0=⟨#[116,114,117,101]⟩→
 s9 (decide (x0=⟨#[116,114,117,101]⟩)) H K)∧
 (¬(x0=⟨#[116,114,117,101]⟩)→
 s9 (decide (x0=⟨#[102,97,108,115,101]⟩)) H K))))))))))
theorem b5h (x0) {H K} (h:a7Y x0 H K):a2i x0 H K:=by
 refine Ct.of fun w0 w ps0 H0 R E I hR=>c8n ?_
 unfold a7Y at h
 unfold d1T
 have hj1:∀(v8:Bool) H w (_:Inv w0 ps0 H0 H [] w) (_:s9 v8 H K),b6Z (vB v8) w R E:=by
  intro v8 H w I h
  unfold b6Z
  intro _
  unfold s9 at h
  refine m0 h (fun _ h=>?_) (fun _ h=>?_)
  ·exact hR _ H _ _ I ⟨true,rfl,rfl,h⟩
  ·exact hR _ H _ _ I ⟨false,rfl,rfl,h⟩
 refine r9 fun j1 hx1=>?_
 refine a7 (G5 _ _ _ _ _) ?_
 refine l7 h (fun _ h=>?_) (fun _ h=>?_)
 ·exact hx1 _ _ (hj1 (decide (x0=⟨#[118,97,114]⟩)) H _ I h)
 ·refine a7 (G5 _ _ _ _ _) ?_
  refine l7 h (fun _ h=>?_) (fun _ h=>?_)
  ·exact hx1 _ _ (hj1 (decide (x0=⟨#[97,114,114,97,121]⟩)) H _ I h)
  ·refine a7 (G5 _ _ _ _ _) ?_
   refine l7 h (fun _ h=>?_) (fun _ h=>?_)
   ·exact hx1 _ _ (hj1 (decide (x0=⟨#[105,102]⟩)) H _ I h)
   ·refine a7 (G5 _ _ _ _ _) ?_
    refine l7 h (fun _ h=>?_) (fun _ h=>?_)
    ·exact hx1 _ _ (hj1 (decide (x0=⟨#[101,108,115,101]⟩)) H _ I h)
    ·refine a7 (G5 _ _ _ _ _) ?_
     refine l7 h (fun _ h=>?_) (fun _ h=>?_)
     ·exact hx1 _ _ (hj1 (decide (x0=⟨#[119,104,105,108,101]⟩)) H _ I h)
     ·refine a7 (G5 _ _ _ _ _) ?_
      refine l7 h (fun _ h=>?_) (fun _ h=>?_)
      ·exact hx1 _ _ (hj1 (decide (x0=⟨#[97,115,115,101,114,116]⟩)) H _ I h)
      ·refine a7 (G5 _ _ _ _ _) ?_
       refine l7 h (fun _ h=>?_) (fun _ h=>?_)
       ·exact hx1 _ _ (hj1 (decide (x0=⟨#[97,115,115,117,109,101]⟩)) H _ I h)
       ·refine a7 (G5 _ _ _ _ _) ?_
        refine l7 h (fun _ h=>?_) (fun _ h=>?_)
        ·exact hx1 _ _ (hj1 (decide (x0=⟨#[115,107,105,112]⟩)) H _ I h)
        ·refine a7 (G5 _ _ _ _ _) ?_
         refine l7 h (fun _ h=>?_) (fun _ h=>?_)
         ·exact hx1 _ _ (hj1 (decide (x0=⟨#[105,110,112,117,116]⟩)) H _ I h)
         ·refine a7 (G5 _ _ _ _ _) ?_
          refine l7 h (fun _ h=>?_) (fun _ h=>?_)
          ·exact hx1 _ _ (hj1 (decide (x0=⟨#[116,114,117,101]⟩)) H _ I h)
          ·refine a7 (G5 _ _ _ _ _) ?_
           exact hx1 _ _ (hj1 (decide (x0=⟨#[102,97,108,115,101]⟩)) H _ I h)
def Z6 (H:Hp) (K:Int→Hp→Prop):Prop:=
 K (-1) H
def Z7 (d3O:(List ByteArray)) (T4:ByteArray) (r8:Int) (A9:Int) (H:Hp) (n2:Int→Hp→Prop) (K:Int→Hp→Prop):Prop:=
 (A9 < r8→
 (0:Int)≤A9∧∃a:ByteArray,(d3O)[(A9:Int).toNat]? = some a∧
 (T4=a→
 K A9 H)∧
 (¬(T4=a)→
 n2 (IntKind.wrap .i64 (A9+1)) H))∧
 (¬(A9 < r8)→
 Z6 H K)
def a2Q (x0:(List ByteArray)) (x1:ByteArray) (H:Hp) (K:Int→Hp→Prop):Prop:=
 TL (0:Int) H fun (s:Int) H n2=>Z7 x0 x1 (x0.length:Int) s H n2 K
theorem a9F (x0 x1) {H K} (h:a2Q x0 x1 H K):a2D x0 x1 H K:=by
 intro sx0 Fx0 hx0
 refine Ct.of fun w0 w ps0 H0 R E I hR=>c8r ?_
 unfold a2Q at h
 unfold d1X
 have hj1:∀H w (_:Inv w0 ps0 H0 H [Fx0] w) (_:Z6 H K),b7a w R E:=by
  intro H w I h
  unfold b7a
  intro _
  unfold Z6 at h
  exact hR _ H _ _ I ⟨(-1),rfl,rfl,h⟩
 refine r9 fun j1 hx1=>?_
 refine a7 (b2I Tryz.underlying77 hx0) ?_
 obtain ⟨d,c,j,k⟩:=h
 refine B0 (J:=fun n l w=>∃(s:Int) (H:Hp),n=c s∧l=[(vi s)]∧Inv w0 ps0 H0 H [Fx0] w∧d s H) ⟨_,0,H,rfl,rfl,I,j⟩ ?_
 rintro p q w next2 ⟨A9,H,rfl,f,I,m⟩ hn2
 simp only [List.map_cons,List.map_nil,List.cons.injEq,and_true] at f
 have e8:=f
 simp only [e8]
 obtain ⟨n2,hm2,h⟩:∃n2:Int→Hp→Prop,(∀s' H',n2 s' H'→d s' H'∧c s' < c A9)∧Z7 x0 x1 (x0.length:Int) A9 H n2 K:=⟨_,fun _ _ h=>h,k A9 H (fun s' H'=>d s' H'∧c s' < c A9) m (fun _ _ a b=>⟨a,b⟩)⟩
 unfold c1D
 unfold Z7 at h
 refine a7 pLs ?_
 refine l7 h (fun _ h=>?_) (fun _ h=>?_)
 ·obtain ⟨g,o,e,h⟩:=h
  obtain ⟨r,t,i,u⟩:=hx0.addr e
  refine a7 (b8Y i _ _ _ _ g (hx0.lt g e)) (g5 (ld1 (v:=(Value.string o)) Tryz.isAgg9 (hx0.atW I i e)) (a7 (G5 _ _ _ _ _) ?_))
  refine l7 h (fun _ h=>?_) (fun _ h=>?_)
  ·exact hR _ H _ _ I ⟨A9,rfl,rfl,h⟩
  ·refine a7 pAd ?_
   exact hn2 _ _ _ (hm2 _ _ h).2 ⟨(IntKind.wrap .i64 (A9+1)),H,rfl,rfl,I,(hm2 _ _ h).1⟩
 ·exact hx1 _ _ (hj1 H _ I h)
def a1Q (x0:(List ByteArray)) (x1:ByteArray) (H:Hp) (K:Bool→Hp→Prop):Prop:=
 a2D x0 x1 H (fun a b=>
 K (decide (0≤a)) b)
theorem a8L (x0 x1) {H K} (h:a1Q x0 x1 H K):R6 x0 x1 H K:=by
 intro sx0 Fx0 hx0
 refine Ct.of fun w0 w ps0 H0 R E I hR=>c8g ?_
 unfold a1Q at h
 unfold d1M
 refine g6 Tryz.call161 (h sx0 Fx0 hx0) I ?_
 rintro _ a _ d b _ _ ⟨c,rfl,rfl,h⟩
 refine a7 pGe ?_
 exact hR _ a _ _ b ⟨(decide (0≤c)),rfl,rfl,h⟩
def O7 (d:Int) (e:Int) (f:Int) (g:Bool) (i:Bool) (j:(List ByteArray)) (H:Hp) (K:p1→Hp→Prop):Prop:=
 ∀(a:Sl) (b:Hp),Hle H b→SlH b 1 M1 a j→a.n≤a.c→
 K (p1.mk d e f g i a) b
def a6t (x0:Sl) (H:Hp) (K:p1→Hp→Prop):Prop:=
 a1k x0 1 (p1.mk 0 0 0 false false (Sl.mk none 0 0)) [] H (fun d a b c=>
 ((!d)=true→
 O7 a.fnodes a.fdepth a.fe a.fform a.fnamed b c K)∧
 ((!d)=false→
 (a.fform=true→
 O7 a.fnodes a.fdepth 30 a.fform a.fnamed b c K)∧
 (a.fform=false→
 (a.fnamed=true→
 O7 a.fnodes a.fdepth 31 a.fform a.fnamed b c K)∧
 (a.fnamed=false→
 O7 a.fnodes a.fdepth a.fe a.fform a.fnamed b c K))))
theorem b2Y (x0) {H K} (h:a6t x0 H K):a1Y x0 H K:=by
 refine Ct.of fun w0 w ps0 H0 R E I hR=>d0F ?_
 unfold a6t at h
 unfold F74
 refine a7 (c3A) ?_
 refine P2 I (cs:=[(vi 0),(vi 0),(vi 0),(vB false),(vB false),(nS)]) rfl fun d aj y ak=>?_
 refine m9 y Tryz.zeroValue80 (cs:=[(Value.pointer none)]) rfl fun c al z am=>?_
 refine f8 z Tryz.sizeOf80 (vs:=[(Value.pointer (some ⟨d,0,none⟩))]) (cs':=[(Value.pointer (some ⟨d,0,none⟩))]) rfl rfl (nb rfl) rfl rfl fun an aa ao=>?_
 refine m9 aa Tryz.zeroValue169 (cs:=[Value.nilFunc]) rfl fun f ap ab aq=>?_
 refine a7 (a0H _ _ _) ?_
 refine f8 ab Tryz.sizeOf169 (vs:=[(Value.func (.func 118) #[] #[(Value.pointer (some ⟨c,0,none⟩)),(Value.pointer (some ⟨f,0,none⟩))])]) (cs':=[(Value.func (.func 118) #[] #[(Value.pointer (some ⟨c,0,none⟩)),(Value.pointer (some ⟨f,0,none⟩))])]) rfl rfl (nb rfl) rfl rfl fun ar u au=>?_
 have hj1:∀(j:Int) (k:Int) (l:Int) (m:Bool) (n:Bool) (s:(List ByteArray)) (i:Sl) (t:Frag) H w (_:RowL 9 1 M1 i s t) (_:Inv w0 ps0 H0 H [bx c 80 [(Value.pointer (some ⟨d,0,none⟩))],bx d 79 [(vi j),(vi k),(vi l),(vB m),(vB n),(vs i)],bx f 169 [(Value.func (.func 118) #[] #[(Value.pointer (some ⟨c,0,none⟩)),(Value.pointer (some ⟨f,0,none⟩))])],t] w) (_:O7 j k l m n s H K),b9x (Value.pointer (some ⟨c,0,none⟩)) w R E:=by
  intro j k l m n s i t H w ac I h
  unfold b9x
  intro _
  unfold O7 at h
  refine g5 (l1 Tryz.isAgg80 I rfl) ?_
  obtain ⟨v,ad,ae,af,ag⟩:=Inv.freezeC (I.bring 3) ac (by decide)
  replace h:=h i v ae af ag
  exact hR _ v _ _ (ad.drop.bring 1).drop ⟨(p1.mk j k l m n i),d,rfl,rfl,h⟩
 refine r9 fun j1 hx1=>?_
 refine g5 (l1 Tryz.isAgg169 u rfl) ?_
 refine a8N (cap:=[(Value.pointer (some ⟨c,0,none⟩)),(Value.pointer (some ⟨f,0,none⟩))]) Tryz.call118 (h c d f (Sl.mk none 0 0) ([]) (RowL.nil (e:=9) a9P a9Q)) ((((u.nil.bring 1).bring 1).bring 3).bring 3) ?_
 rintro _ o _ av b _ _ ⟨aw,a,p,g,q,rfl,rfl,r,h⟩
 refine a7 (K5 _) ?_
 refine m0 h (fun _ h=>?_) (fun _ h=>?_)
 ·exact hx1 _ _ (hj1 a.fnodes a.fdepth a.fe a.fform a.fnamed p g q o _ r ((((b.bring 2).bring 3).bring 3).bring 3) h)
 ·refine g5 (l1 Tryz.isAgg80 b rfl) (a7 (o5 _) (a7 b2M (g5 (l1 Tryz.isAgg4 (b.bring 1) rfl) ?_)))
  refine m0 h (fun _ h=>?_) (fun _ h=>?_)
  ·refine g5 (l1 Tryz.isAgg80 b rfl) (a7 (o5 _) (a7 a6j ?_))
   refine f8 (b.bring 1) Tryz.sizeOf29 (vs:=[(vi 30)]) (cs':=[(vi a.fnodes),(vi a.fdepth),(vi 30),(vB a.fform),(vB a.fnamed),(vs g)]) rfl rfl (nb rfl) rfl rfl fun ax ah ay=>?_
   exact hx1 _ _ (hj1 a.fnodes a.fdepth 30 a.fform a.fnamed p g q o _ r ((((ah.bring 2).bring 3).bring 2).bring 3) h)
  ·refine g5 (l1 Tryz.isAgg80 b rfl) (a7 (o5 _) (a7 b2N (g5 (l1 Tryz.isAgg4 (b.bring 1) rfl) ?_)))
   refine m0 h (fun _ h=>?_) (fun _ h=>?_)
   ·refine g5 (l1 Tryz.isAgg80 b rfl) (a7 (o5 _) (a7 a6j ?_))
    refine f8 (b.bring 1) Tryz.sizeOf29 (vs:=[(vi 31)]) (cs':=[(vi a.fnodes),(vi a.fdepth),(vi 31),(vB a.fform),(vB a.fnamed),(vs g)]) rfl rfl (nb rfl) rfl rfl fun az ai ba=>?_
    exact hx1 _ _ (hj1 a.fnodes a.fdepth 31 a.fform a.fnamed p g q o _ r ((((ai.bring 2).bring 3).bring 2).bring 3) h)
   ·exact hx1 _ _ (hj1 a.fnodes a.fdepth a.fe a.fform a.fnamed p g q o _ r ((((b.bring 2).bring 3).bring 3).bring 3) h)
def a7Z (x0:p6) (H:Hp) (K:p1→Hp→Prop):Prop:=
 M2 x0.a7c H (fun d e=>
 B8 x0.a6h e (fun f g=>
 ∀(a:Sl) (b:Hp),Hle g b→SlH b 1 csl a [d,f]→a.n≤a.c→
 E5 a b (fun i j=>
 a1Y i j (fun k l=>
 K k l))))
theorem b5i (x0) {H K} (h:a7Z x0 H K):a7S x0 H K:=by
 refine Ct.of fun w0 w ps0 H0 R E I hR=>d0b ?_
 unfold a7Z at h
 unfold F32
 refine P2 I (cs:=(u2 x0)) rfl fun z aa b ab=>?_
 refine P3 b fun ac a=>?_
 refine o7 b0D ?_
 refine o7 a7D ?_
 refine t8 (l1 Tryz.isAgg23 a rfl) ?_
 refine t8 (l1 Tryz.isAgg24 a rfl) ?_
 refine g6 Tryz.call76 h a ?_
 rintro _ _ _ ad d _ f ⟨g,rfl,rfl,h⟩
 refine ⟨(f _ a.lt1 (Inv.a1B (Fi:=[]) a)),?_⟩
 refine g6 Tryz.call78 h d ?_
 rintro _ _ _ ae i _ _ ⟨j,rfl,rfl,h⟩
 refine V9 (e:=128) (c:=csl) (xs:=[g,j]) i (b8V _ _ _ _ _ _) rfl rfl b8y b8z (nb rfl) fun k af ag l m ah=>?_
 obtain ⟨n,o,p,q,r⟩:=Inv.freezeC m l (by decide)
 replace h:=h k n p q r
 refine g6 Tryz.call75 h o ?_
 rintro _ _ _ ai s _ _ ⟨aj,rfl,rfl,h⟩
 refine g6 Tryz.call74 h s ?_
 rintro _ t _ ak u _ _ ⟨v,y,rfl,rfl,h⟩
 exact hR _ t _ _ (u.bring 1).drop ⟨v,y,rfl,rfl,h⟩
def a4F (x0:d6) (H:Hp) (K:Int→Hp→Prop):Prop:=
 U5 (m7.mk 0 0 0) x0 1 H (fun a b=>
 (¬(a.fbad=0)→
 K a.fbad b)∧
 (a.fbad=0→
 U4 (i8.mk true true) x0 b (fun c d=>
 a0r c d (fun e f=>
 K e f))))
theorem b1w (x0) {H K} (h:a4F x0 H K):a4l x0 H K:=by
 refine Ct.of fun w0 w ps0 H0 R E I hR=>d0g ?_
 unfold a4F at h
 unfold F38
 refine P2 I (cs:=(d7 x0)) rfl fun p q e r=>?_
 refine a7 (b5S) ?_
 refine m9 e Tryz.zeroValue120 (cs:=[(vi 0),(vi 0),(vi 0)]) rfl fun f s g t=>?_
 refine f8 g Tryz.sizeOf120 (vs:=[(vi 0),(vi 0),(vi 0)]) (cs':=[(vi 0),(vi 0),(vi 0)]) rfl rfl (nb rfl) rfl rfl fun u b v=>?_
 refine g5 (lW Tryz.isAgg40 Tryz.sizeOf40 rfl (b.bring 1)) ?_
 refine g6 Tryz.call84 (h f) b ?_
 rintro _ i _ y a _ _ ⟨j,rfl,rfl,h⟩
 refine a7 a1R (g5 (l1 Tryz.isAgg3 a rfl) (a7 pNe ?_))
 refine Z9 h (fun _ h=>?_) (fun _ h=>?_)
 ·refine a7 a1R (g5 (l1 Tryz.isAgg3 a rfl) ?_)
  exact hR _ i _ _ a.drop.drop ⟨j.fbad,rfl,rfl,h⟩
 ·refine a7 (b2p _ _) ?_
  refine m9 a Tryz.zeroValue123 (cs:=[(vB false),(vB false)]) rfl fun k z l aa=>?_
  refine f8 l Tryz.sizeOf123 (vs:=[(vB true),(vB true)]) (cs':=[(vB true),(vB true)]) rfl rfl (nb rfl) rfl rfl fun ab c ac=>?_
  refine g5 (lW Tryz.isAgg40 Tryz.sizeOf40 rfl (c.bring 2)) ?_
  refine g6 Tryz.call85 (h k) c ?_
  rintro _ _ _ ad d _ _ ⟨ae,rfl,rfl,h⟩
  refine g5 (lW Tryz.isAgg123 Tryz.sizeOf123 rfl d) ?_
  refine g6 Tryz.call73 h d ?_
  rintro _ m _ af n _ _ ⟨o,rfl,rfl,h⟩
  exact hR _ m _ _ n.drop.drop.drop ⟨o,rfl,rfl,h⟩
def a1j (a0S:Int) (a:b7) (c:b8) (b:d6) (d:b7) (e:d6) (H:Hp) (K:d6→b7→Int→Hp→Prop):Prop:=
 (¬(a0S=0)→
 K (d6.mk 0 0 ⟨#[]⟩ (Sl.mk none 0 0)) a a0S H)∧
 (a0S=0→
 K b (b7.mk 0 0) 0 H)
def a7s (x0:ByteArray) (H:Hp) (K:d6→b7→Int→Hp→Prop):Prop:=
 a1q x0 H (fun g i a e=>
 (¬(a=0)→
 K (d6.mk 0 0 ⟨#[]⟩ (Sl.mk none 0 0)) i a e)∧
 (a=0→
 t6 (b8.mk g 0 0 (b7.mk 0 0)) 1 e (fun b j k=>
 T1 j k (fun l c d f=>
 (c=0→
 a4l b f (fun m n=>
 Y6 d m n (fun o p q=>
 a1j p o d b (b7.mk 0 0) (d6.mk 0 0 ⟨#[]⟩ (Sl.mk none 0 0)) q K)))∧
 (¬(c=0)→
 a1j c l d b (b7.mk 0 0) (d6.mk 0 0 ⟨#[]⟩ (Sl.mk none 0 0)) f K)))))
theorem b1x (x0) {H K} (h:a7s x0 H K):a4m x0 H K:=by
 refine Ct.of fun w0 w ps0 H0 R E I hR=>c9R ?_
 unfold a7s at h
 unfold F14
 refine m9 I Tryz.zeroValue40 (cs:=[(vi 0),(vi 0),(eS),(nS)]) rfl fun r az ac ba=>?_
 refine m9 ac Tryz.zeroValue28 (cs:=[(vi 0),(vi 0)]) rfl fun s bb ad bc=>?_
 refine g6 Tryz.call22 h ad ?_
 rintro _ ae _ bd af _ _ ⟨ag,e,t,rfl,rfl,h⟩
 refine a7 (g7 _ _ _ rfl) (a7 (g7 _ _ _ rfl) (a7 (g7 _ _ (vi t) rfl) ?_))
 refine m9 af Tryz.zeroValue28 (cs:=[(vi 0),(vi 0)]) rfl fun u be ah bf=>?_
 refine f8 ah Tryz.sizeOf28 (vs:=(b9 e)) (cs':=(b9 e)) rfl rfl (nb rfl) rfl rfl fun bg v bh=>?_
 refine a7 pNe ?_
 refine Z9 h (fun _ h=>?_) (fun _ h=>?_)
 ·refine P3 v fun bi g=>?_
  refine o7 (b0b) ?_
  refine t8 (lW Tryz.isAgg28 Tryz.sizeOf28 rfl g) ?_
  refine f8 (g.bring 2) Tryz.sizeOf40 (vs:=[(vi 0),(vi 0),(eS),(nS)]) (cs':=[(vi 0),(vi 0),(eS),(nS)]) rfl rfl (nb rfl) rfl rfl fun bj ai aj=>?_
  refine ⟨(aj _ (Inv.b6v (g.bring 2))),?_⟩
  refine f8 (ai.bring 2) Tryz.sizeOf28 (vs:=(b9 e)) (cs':=(b9 e)) rfl rfl (nb rfl) rfl rfl fun bk i bl=>?_
  refine o4 Tryz.isAgg40 Tryz.sizeOf40 rfl ((i.bring 1).at1 (o:=0) (vs:=[(vi 0),(vi 0),(eS),(nS)]) (nb rfl) rfl) ?_
  refine o4 Tryz.isAgg28 Tryz.sizeOf28 rfl (i.at1 (o:=0) (vs:=(b9 e)) (nb rfl) rfl) ?_
  exact hR _ ae _ _ i.drop.drop.drop ⟨(d6.mk 0 0 ⟨#[]⟩ (Sl.mk none 0 0)),e,t,rfl,rfl,h⟩
 ·refine a7 (b5j _ _ _) ?_
  refine P2 v (cs:=[(vs ag),(vi 0),(vi 0),(vi 0),(vi 0)]) rfl fun f bm ak bn=>?_
  refine g6 Tryz.call37 (h f) ak ?_
  rintro _ _ _ bo al _ _ ⟨b,bp,rfl,rfl,h⟩
  refine m9 al Tryz.zeroValue40 (cs:=[(vi 0),(vi 0),(eS),(nS)]) rfl fun y bq am br=>?_
  refine f8 am Tryz.sizeOf40 (vs:=(d7 b)) (cs':=(d7 b)) rfl rfl (nb rfl) rfl rfl fun bs an bt=>?_
  refine g6 Tryz.call27 (h f) (an.bring 1) ?_
  rintro _ ao _ bu ap _ _ ⟨j,z,aa,rfl,rfl,h⟩
  refine a7 (g7 _ _ _ rfl) (a7 (g7 _ _ (vi z) rfl) ?_)
  refine f8 (ap.bring 2) Tryz.sizeOf28 (vs:=(b9 j)) (cs':=(b9 j)) rfl rfl (nb rfl) rfl rfl fun bv k bw=>?_
  have hj1:∀(a0S:Int) (d:b7) H w (_:Inv w0 ps0 H0 H [bx u 28 (b9 d),bx f 66 (i7 aa),bx y 40 (d7 b),bx s 28 [(vi (b7.mk 0 0).o8),(vi (b7.mk 0 0).s6)],bx r 40 [(vi (d6.mk 0 0 ⟨#[]⟩ (Sl.mk none 0 0)).d8),(vi (d6.mk 0 0 ⟨#[]⟩ (Sl.mk none 0 0)).F0),(Value.string (d6.mk 0 0 ⟨#[]⟩ (Sl.mk none 0 0)).A8),(Value.slice (d6.mk 0 0 ⟨#[]⟩ (Sl.mk none 0 0)).B1.a (d6.mk 0 0 ⟨#[]⟩ (Sl.mk none 0 0)).B1.n (d6.mk 0 0 ⟨#[]⟩ (Sl.mk none 0 0)).B1.c)]] w) (_:a1j a0S d aa b (b7.mk 0 0) (d6.mk 0 0 ⟨#[]⟩ (Sl.mk none 0 0)) H K),b8Z (Value.pointer (some ⟨r,0,none⟩)) (Value.pointer (some ⟨s,0,none⟩)) (Value.pointer (some ⟨u,0,none⟩)) (vi a0S) (Value.pointer (some ⟨y,0,none⟩)) w R E:=by
   intro a0S d H w I h
   unfold b8Z
   intro _
   unfold a1j at h
   refine a7 pNe ?_
   refine Z9 h (fun _ h=>?_) (fun _ h=>?_)
   ·refine P3 I fun bz l=>?_
    refine o7 (b0b) ?_
    refine t8 (lW Tryz.isAgg28 Tryz.sizeOf28 rfl l) ?_
    refine f8 (l.bring 4) Tryz.sizeOf40 (vs:=[(vi 0),(vi 0),(eS),(nS)]) (cs':=[(vi 0),(vi 0),(eS),(nS)]) rfl rfl (nb rfl) rfl rfl fun ca aq ar=>?_
    refine ⟨(ar _ (Inv.b6v (l.bring 4))),?_⟩
    refine f8 (aq.bring 4) Tryz.sizeOf28 (vs:=(b9 d)) (cs':=(b9 d)) rfl rfl (nb rfl) rfl rfl fun cb m cc=>?_
    refine o4 Tryz.isAgg40 Tryz.sizeOf40 rfl ((m.bring 1).at1 (o:=0) (vs:=[(vi 0),(vi 0),(eS),(nS)]) (nb rfl) rfl) ?_
    refine o4 Tryz.isAgg28 Tryz.sizeOf28 rfl (m.at1 (o:=0) (vs:=(b9 d)) (nb rfl) rfl) ?_
    exact hR _ H _ _ m.drop.drop.drop.drop.drop ⟨(d6.mk 0 0 ⟨#[]⟩ (Sl.mk none 0 0)),d,a0S,rfl,rfl,h⟩
   ·refine g5 (lW Tryz.isAgg40 Tryz.sizeOf40 rfl (I.bring 2)) (a7 (b0a) ?_)
    refine f8 (I.bring 4) Tryz.sizeOf40 (vs:=(d7 b)) (cs':=(d7 b)) rfl rfl (nb rfl) rfl rfl fun cd au ce=>?_
    refine f8 (au.bring 4) Tryz.sizeOf28 (vs:=[(vi 0),(vi 0)]) (cs':=[(vi 0),(vi 0)]) rfl rfl (nb rfl) rfl rfl fun cf p cg=>?_
    refine o4 Tryz.isAgg40 Tryz.sizeOf40 rfl ((p.bring 1).at1 (o:=0) (vs:=(d7 b)) (nb rfl) rfl) ?_
    refine o4 Tryz.isAgg28 Tryz.sizeOf28 rfl (p.at1 (o:=0) (vs:=[(vi 0),(vi 0)]) (nb rfl) rfl) ?_
    exact hR _ H _ _ p.drop.drop.drop.drop.drop ⟨b,(b7.mk 0 0),0,rfl,rfl,h⟩
  refine r9 fun j1 hx1=>?_
  refine a7 pEq ?_
  refine l7 h (fun _ h=>?_) (fun _ h=>?_)
  ·refine g5 (lW Tryz.isAgg40 Tryz.sizeOf40 rfl (k.bring 2)) ?_
   refine g6 Tryz.call38 h k ?_
   rintro _ _ _ ch av _ _ ⟨ci,rfl,rfl,h⟩
   refine g6 Tryz.call28 (h f) (av.bring 1) ?_
   rintro _ aw _ cj ax _ _ ⟨q,ab,rfl,rfl,h⟩
   refine a7 (g7 _ _ _ rfl) (a7 (g7 _ _ (vi ab) rfl) ?_)
   refine f8 (ax.bring 1) Tryz.sizeOf28 (vs:=(b9 q)) (cs':=(b9 q)) rfl rfl (nb rfl) rfl rfl fun ck ay cl=>?_
   exact hx1 _ _ (hj1 ab q aw _ (((((ay.bring 4).bring 4).bring 4).bring 4).bring 4) h)
  ·exact hx1 _ _ (hj1 z j ao _ (((((k.bring 4).bring 4).bring 4).bring 4).bring 4) h)
def a4G (x0:c8) (H:Hp) (K:Int→Hp→Prop):Prop:=
 a0u (m7.mk 0 0 0) x0 1 H (fun a b=>
 (¬(a.fbad=0)→
 K a.fbad b)∧
 (a.fbad=0→
 a0s (i8.mk true true) x0 b (fun c d=>
 a0r c d (fun e f=>
 K e f))))
theorem b1y (x0) {H K} (h:a4G x0 H K):a4n x0 H K:=by
 refine Ct.of fun w0 w ps0 H0 R E I hR=>d0l ?_
 unfold a4G at h
 unfold F44
 refine P2 I (cs:=(f7 x0)) rfl fun p q e r=>?_
 refine a7 (b5S) ?_
 refine m9 e Tryz.zeroValue120 (cs:=[(vi 0),(vi 0),(vi 0)]) rfl fun f s g t=>?_
 refine f8 g Tryz.sizeOf120 (vs:=[(vi 0),(vi 0),(vi 0)]) (cs':=[(vi 0),(vi 0),(vi 0)]) rfl rfl (nb rfl) rfl rfl fun u b v=>?_
 refine g5 (lW Tryz.isAgg49 Tryz.sizeOf49 rfl (b.bring 1)) ?_
 refine g6 Tryz.call91 (h f) b ?_
 rintro _ i _ y a _ _ ⟨j,rfl,rfl,h⟩
 refine a7 a1R (g5 (l1 Tryz.isAgg3 a rfl) (a7 pNe ?_))
 refine Z9 h (fun _ h=>?_) (fun _ h=>?_)
 ·refine a7 a1R (g5 (l1 Tryz.isAgg3 a rfl) ?_)
  exact hR _ i _ _ a.drop.drop ⟨j.fbad,rfl,rfl,h⟩
 ·refine a7 (b2p _ _) ?_
  refine m9 a Tryz.zeroValue123 (cs:=[(vB false),(vB false)]) rfl fun k z l aa=>?_
  refine f8 l Tryz.sizeOf123 (vs:=[(vB true),(vB true)]) (cs':=[(vB true),(vB true)]) rfl rfl (nb rfl) rfl rfl fun ab c ac=>?_
  refine g5 (lW Tryz.isAgg49 Tryz.sizeOf49 rfl (c.bring 2)) ?_
  refine g6 Tryz.call92 (h k) c ?_
  rintro _ ad _ ae d _ _ ⟨af,rfl,rfl,h⟩
  refine g5 (lW Tryz.isAgg123 Tryz.sizeOf123 rfl d) ?_
  refine g6 Tryz.call73 h d ?_
  rintro _ m _ ag n _ _ ⟨o,rfl,rfl,h⟩
  exact hR _ m _ _ n.drop.drop.drop ⟨o,rfl,rfl,h⟩
def a0p [PanQ] (T5:Int) (o9:a8) (H:Hp) (K:Hp→Prop):Prop:=
 (40 < T5→
 z7 o9 H (fun a b=>
 PanQ.q (Value.iface 98 (Value.agg #[(vi a.fAt.o8),(vi a.fAt.s6),(vi 41)]))))∧
 (¬(40 < T5)→
 K H)
def a6d [PanQ] (x0:a8) (x1:Int) (x2:Bool) (H:Hp) (K:Hp→Prop):Prop:=
 ((!x2)=true→
 E9 x0 H (fun a=>
 a0p x1 x0 a K))∧
 ((!x2)=false→
 a0p x1 x0 H K)
theorem b0k [PanQ] (x0:a8) (x1:Int) (x2:Bool) {H:Hp} {K:Hp→Prop} (h:a6d x0 x1 x2 H K):D3 x0 x1 x2 H K:=by
 intro g0
 refine Ct.ofE fun w0 w ps0 H0 R E I hR hE=>d0r ?_
 unfold a6d at h
 unfold F55
 have hj1:∀H w (_:Inv w0 ps0 H0 H [bx g0 101 (d9 x0)] w) (_:a0p x1 x0 H K),b9m (Value.pointer (some ⟨g0,0,none⟩)) (vi x1) w R E:=by
  intro H w I h
  unfold b9m
  intro _
  unfold a0p at h
  refine a7 pGt ?_
  refine l7 h (fun _ h=>?_) (fun _ h=>?_)
  ·refine g6 Tryz.call51 (h g0) I ?_
   rintro _ _ _ d a _ _ ⟨e,rfl,rfl,h⟩
   refine a7 b1d (a7 (b3v _ _ _) (a7 (b5l _ _ _) ?_))
   exact a5Z (hE _ _ _ _ a ⟨_,rfl,h⟩)
  ·exact hR _ H _ _ I ⟨rfl,rfl,h⟩
 refine r9 fun j1 hx1=>?_
 refine a7 (K5 _) ?_
 refine m0 h (fun _ h=>?_) (fun _ h=>?_)
 ·refine z8 hE Tryz.call52 (h g0) I ?_
  rintro _ b _ f c _ _ ⟨rfl,rfl,h⟩
  exact hx1 _ _ (hj1 b _ c h)
 ·exact hx1 _ _ (hj1 H _ I h)
def P0 [PanQ] (d:Int) (e:ByteArray) (f:Sl) (g:(List c8)) (i:Sl) (j:Sl) (a2u:a8) (k:b6) (l:j9) (H:Hp) (K:j9→a8→Hp→Prop):Prop:=
 ∀(a:Sl) (b:Hp),Hle H b→SlH b 4 f7 a g→a.n≤a.c→
 K (j9.mk d e f a i j) a2u b
def H9 [PanQ] (f:Int) (g:ByteArray) (i:(List d6)) (j:(List c8)) (k:Sl) (l:Sl) (o9:a8) (p:b6) (q:j9) (H:Hp) (K:j9→a8→Hp→Prop):Prop:=
 C7 o9 ⟨#[59]⟩ H (fun m o=>
 ∀(a:Sl) (d:Hp),Hle o d→SlH d 4 d7 a i→a.n≤a.c→
 ∀(b:Sl) (e:Hp),Hle d e→SlH e 4 f7 b j→b.n≤b.c→
 K (j9.mk f g a b k l) m e)
def P1 [PanQ] (b2f:Int) (c:Int) (d:ByteArray) (a:(List d6)) (e:(List c8)) (f:Sl) (g:Sl) (a5u:a8) (i:b6) (j:j9) (H:Hp) (K:j9→a8→Hp→Prop):Prop:=
 C7 a5u ⟨#[61]⟩ H (fun k l=>
 O5 k b2f l (fun b m n=>
 (a.length+([b]:List d6).length)*57≤140737488355328∧
 H9 c d (a++[b]) e f g m i j n K))
def a3M [PanQ] (x0:a8) (x1:Int) (H:Hp) (K:j9→a8→Hp→Prop):Prop:=
 S3 x0 H (fun a b d=>
 (a.d8=1→
 v6 b ⟨#[91]⟩ d (fun g i j=>
 (g=true→
 W7 i x1 ⟨#[93]⟩ j (fun k r s=>
 (([]:List d6).length+([k]:List d6).length)*57≤140737488355328∧
 P1 x1 2 a.A0 [k] [] (Sl.mk none 0 0) (Sl.mk none 0 0) r a (j9.mk 0 ⟨#[]⟩ (Sl.mk none 0 0) (Sl.mk none 0 0) (Sl.mk none 0 0) (Sl.mk none 0 0)) s K))∧
 (g=false→
 P1 x1 1 a.A0 [] [] (Sl.mk none 0 0) (Sl.mk none 0 0) i a (j9.mk 0 ⟨#[]⟩ (Sl.mk none 0 0) (Sl.mk none 0 0) (Sl.mk none 0 0) (Sl.mk none 0 0)) j K)))∧
 (¬(a.d8=1)→
 (a.A0=⟨#[105,102]⟩→
 L4 b x1 d (fun l t u=>
 W8 t x1 u (fun m v y=>
 v6 v ⟨#[101,108,115,101]⟩ y (fun o p q=>
 (o=true→
 W8 p x1 q (fun z aa ab=>
 P0 3 ⟨#[]⟩ (Sl.mk none 0 0) [l] m z aa a (j9.mk 0 ⟨#[]⟩ (Sl.mk none 0 0) (Sl.mk none 0 0) (Sl.mk none 0 0) (Sl.mk none 0 0)) ab K))∧
 (o=false→
 P0 3 ⟨#[]⟩ (Sl.mk none 0 0) [l] m (Sl.mk none 0 0) p a (j9.mk 0 ⟨#[]⟩ (Sl.mk none 0 0) (Sl.mk none 0 0) (Sl.mk none 0 0) (Sl.mk none 0 0)) q K)))))∧
 (¬(a.A0=⟨#[105,102]⟩)→
 (a.A0=⟨#[119,104,105,108,101]⟩→
 L4 b x1 d (fun ac ad ae=>
 W8 ad x1 ae (fun af ag ah=>
 ∀(e:Sl) (f:Hp),Hle ah f→SlH f 4 f7 e [ac]→e.n≤e.c→
 K (j9.mk 4 ⟨#[]⟩ (Sl.mk none 0 0) e af (Sl.mk none 0 0)) ag f)))∧
 (¬(a.A0=⟨#[119,104,105,108,101]⟩)→
 (a.A0=⟨#[97,115,115,101,114,116]⟩→
 L4 b x1 d (fun ai aj ak=>
 H9 5 ⟨#[]⟩ [] [ai] (Sl.mk none 0 0) (Sl.mk none 0 0) aj a (j9.mk 0 ⟨#[]⟩ (Sl.mk none 0 0) (Sl.mk none 0 0) (Sl.mk none 0 0) (Sl.mk none 0 0)) ak K))∧
 (¬(a.A0=⟨#[97,115,115,101,114,116]⟩)→
 (a.A0=⟨#[97,115,115,117,109,101]⟩→
 L4 b x1 d (fun al am an=>
 H9 6 ⟨#[]⟩ [] [al] (Sl.mk none 0 0) (Sl.mk none 0 0) am a (j9.mk 0 ⟨#[]⟩ (Sl.mk none 0 0) (Sl.mk none 0 0) (Sl.mk none 0 0) (Sl.mk none 0 0)) an K))∧
 (¬(a.A0=⟨#[97,115,115,117,109,101]⟩)→
 H9 7 ⟨#[]⟩ [] [] (Sl.mk none 0 0) (Sl.mk none 0 0) b a (j9.mk 0 ⟨#[]⟩ (Sl.mk none 0 0) (Sl.mk none 0 0) (Sl.mk none 0 0) (Sl.mk none 0 0)) d K))))))
theorem b0A [PanQ] (x0:a8) (x1:Int) {H:Hp} {K:j9→a8→Hp→Prop} (h:a3M x0 x1 H K):Y4 x0 x1 H K:=by
 intro g0
 refine Ct.ofE fun w0 w ps0 H0 R E I hR hE=>d0t ?_
 unfold a3M at h
 unfold F57
 refine m9 I Tryz.zeroValue56 (cs:=[(vi 0),(eS),(nS),(nS),(nS),(nS)]) rfl fun z fp bw fq=>?_
 refine m9 bw Tryz.zeroValue56 (cs:=[(vi 0),(eS),(nS),(nS),(nS),(nS)]) rfl fun aa fs bz ft=>?_
 refine z8 hE Tryz.call104 (h g0) (bz.bring 2) ?_
 rintro _ ca _ fu cb _ _ ⟨b,cc,rfl,rfl,h⟩
 refine m9 cb Tryz.zeroValue103 (cs:=[(vi 0),(eS),(vi 0),(vi 0),(vi 0)]) rfl fun an fv cd fw=>?_
 refine f8 cd Tryz.sizeOf103 (vs:=(f9 b)) (cs':=(f9 b)) rfl rfl (nb rfl) rfl rfl fun fx d fy=>?_
 have hj1:∀(k:Int) (l:ByteArray) (ao:(List d6)) (ap:(List c8)) (m:Sl) (p:Sl) (o9:a8) (g:Sl) (aq:Frag) (i:Sl) (ar:Frag) H w (_:RowL 40 4 d7 g ao aq) (_:RowL 49 4 f7 i ap ar) (_:Inv w0 ps0 H0 H [bx aa 56 [(vi k),(Value.string l),(vs g),(vs i),(vs m),(vs p)],bx g0 101 (d9 o9),bx an 103 (f9 b),bx z 56 [(vi (j9.mk 0 ⟨#[]⟩ (Sl.mk none 0 0) (Sl.mk none 0 0) (Sl.mk none 0 0) (Sl.mk none 0 0)).d8),(Value.string (j9.mk 0 ⟨#[]⟩ (Sl.mk none 0 0) (Sl.mk none 0 0) (Sl.mk none 0 0) (Sl.mk none 0 0)).A8),(Value.slice (j9.mk 0 ⟨#[]⟩ (Sl.mk none 0 0) (Sl.mk none 0 0) (Sl.mk none 0 0) (Sl.mk none 0 0)).o0.a (j9.mk 0 ⟨#[]⟩ (Sl.mk none 0 0) (Sl.mk none 0 0) (Sl.mk none 0 0) (Sl.mk none 0 0)).o0.n (j9.mk 0 ⟨#[]⟩ (Sl.mk none 0 0) (Sl.mk none 0 0) (Sl.mk none 0 0) (Sl.mk none 0 0)).o0.c),(Value.slice (j9.mk 0 ⟨#[]⟩ (Sl.mk none 0 0) (Sl.mk none 0 0) (Sl.mk none 0 0) (Sl.mk none 0 0)).C3.a (j9.mk 0 ⟨#[]⟩ (Sl.mk none 0 0) (Sl.mk none 0 0) (Sl.mk none 0 0) (Sl.mk none 0 0)).C3.n (j9.mk 0 ⟨#[]⟩ (Sl.mk none 0 0) (Sl.mk none 0 0) (Sl.mk none 0 0) (Sl.mk none 0 0)).C3.c),(Value.slice (j9.mk 0 ⟨#[]⟩ (Sl.mk none 0 0) (Sl.mk none 0 0) (Sl.mk none 0 0) (Sl.mk none 0 0)).R8.a (j9.mk 0 ⟨#[]⟩ (Sl.mk none 0 0) (Sl.mk none 0 0) (Sl.mk none 0 0) (Sl.mk none 0 0)).R8.n (j9.mk 0 ⟨#[]⟩ (Sl.mk none 0 0) (Sl.mk none 0 0) (Sl.mk none 0 0) (Sl.mk none 0 0)).R8.c),(Value.slice (j9.mk 0 ⟨#[]⟩ (Sl.mk none 0 0) (Sl.mk none 0 0) (Sl.mk none 0 0) (Sl.mk none 0 0)).Q2.a (j9.mk 0 ⟨#[]⟩ (Sl.mk none 0 0) (Sl.mk none 0 0) (Sl.mk none 0 0) (Sl.mk none 0 0)).Q2.n (j9.mk 0 ⟨#[]⟩ (Sl.mk none 0 0) (Sl.mk none 0 0) (Sl.mk none 0 0) (Sl.mk none 0 0)).Q2.c)],aq,ar] w) (_:H9 k l ao ap m p o9 b (j9.mk 0 ⟨#[]⟩ (Sl.mk none 0 0) (Sl.mk none 0 0) (Sl.mk none 0 0) (Sl.mk none 0 0)) H K),b9n (Value.pointer (some ⟨g0,0,none⟩)) (Value.pointer (some ⟨z,0,none⟩)) (Value.pointer (some ⟨aa,0,none⟩)) w R E:=by
  intro k l ao ap m p o9 g aq i ar H w ce cf I h
  unfold b9n
  intro _
  unfold H9 at h
  refine z8 hE Tryz.call103 (h g0) (I.bring 1) ?_
  rintro _ _ _ fz bb _ _ ⟨cg,rfl,rfl,h⟩
  refine g5 (ldA Tryz.isAgg56 Tryz.sizeOf56 rfl ((bb.bring 1).at1 (o:=0) (vs:=[(vi k),(Value.string l),(vs g),(vs i),(vs m),(vs p)]) (nb rfl) rfl)) ?_
  refine f8 (bb.bring 3) Tryz.sizeOf56 (vs:=[(vi k),(Value.string l),(vs g),(vs i),(vs m),(vs p)]) (cs':=[(vi k),(Value.string l),(vs g),(vs i),(vs m),(vs p)]) rfl rfl (nb rfl) rfl rfl fun ga bc gb=>?_
  refine o4 Tryz.isAgg56 Tryz.sizeOf56 rfl (bc.at1 (o:=0) (vs:=[(vi k),(Value.string l),(vs g),(vs i),(vs m),(vs p)]) (nb rfl) rfl) ?_
  obtain ⟨ch,ci,cj,ck,cl⟩:=Inv.freezeC (bc.bring 4) ce (by decide)
  replace h:=h g ch cj ck cl
  obtain ⟨bd,cm,cn,co,cp⟩:=Inv.freezeC (ci.bring 4) cf (by decide)
  replace h:=h i bd cn co cp
  exact hR _ bd _ _ ((cm.drop.bring 1).drop.bring 1).drop ⟨(j9.mk k l g i m p),cg,rfl,rfl,h⟩
 refine r9 fun j1 hx1=>?_
 refine a7 a0I (g5 (l1 Tryz.isAgg3 d rfl) (a7 pEq ?_))
 refine l7 h (fun _ h=>?_) (fun _ h=>?_)
 ·refine P3 d fun gc au=>?_
  refine o7 R3 ?_
  refine o7 a2W ?_
  refine t8 (l1 Tryz.isAgg9 au rfl) ?_
  refine f8 (au.bring 2) Tryz.sizeOf3 (vs:=[(vi 1)]) (cs':=[(vi 1),(eS),(nS),(nS),(nS),(nS)]) rfl rfl (nb rfl) rfl rfl fun gd cq cr=>?_
  refine ⟨(cr _ (Inv.b6v (au.bring 2))),?_⟩
  refine o7 a8Q ?_
  refine f8 cq Tryz.sizeOf9 (vs:=[(Value.string b.A0)]) (cs':=[(vi 1),(Value.string b.A0),(nS),(nS),(nS),(nS)]) rfl rfl (nb rfl) rfl rfl fun ge ct gf=>?_
  have hj2:∀(ab:Int) (ac:ByteArray) (ad:(List d6)) (ai:(List c8)) (ae:Sl) (af:Sl) (a5u:a8) (aj:Sl) (av:Frag) (ag:Sl) (ak:Frag) H w (_:RowL 40 4 d7 aj ad av) (_:RowL 49 4 f7 ag ai ak) (_:Inv w0 ps0 H0 H [bx aa 56 [(vi ab),(Value.string ac),(vs aj),(vs ag),(vs ae),(vs af)],bx g0 101 (d9 a5u),bx an 103 (f9 b),bx z 56 [(vi (j9.mk 0 ⟨#[]⟩ (Sl.mk none 0 0) (Sl.mk none 0 0) (Sl.mk none 0 0) (Sl.mk none 0 0)).d8),(Value.string (j9.mk 0 ⟨#[]⟩ (Sl.mk none 0 0) (Sl.mk none 0 0) (Sl.mk none 0 0) (Sl.mk none 0 0)).A8),(Value.slice (j9.mk 0 ⟨#[]⟩ (Sl.mk none 0 0) (Sl.mk none 0 0) (Sl.mk none 0 0) (Sl.mk none 0 0)).o0.a (j9.mk 0 ⟨#[]⟩ (Sl.mk none 0 0) (Sl.mk none 0 0) (Sl.mk none 0 0) (Sl.mk none 0 0)).o0.n (j9.mk 0 ⟨#[]⟩ (Sl.mk none 0 0) (Sl.mk none 0 0) (Sl.mk none 0 0) (Sl.mk none 0 0)).o0.c),(Value.slice (j9.mk 0 ⟨#[]⟩ (Sl.mk none 0 0) (Sl.mk none 0 0) (Sl.mk none 0 0) (Sl.mk none 0 0)).C3.a (j9.mk 0 ⟨#[]⟩ (Sl.mk none 0 0) (Sl.mk none 0 0) (Sl.mk none 0 0) (Sl.mk none 0 0)).C3.n (j9.mk 0 ⟨#[]⟩ (Sl.mk none 0 0) (Sl.mk none 0 0) (Sl.mk none 0 0) (Sl.mk none 0 0)).C3.c),(Value.slice (j9.mk 0 ⟨#[]⟩ (Sl.mk none 0 0) (Sl.mk none 0 0) (Sl.mk none 0 0) (Sl.mk none 0 0)).R8.a (j9.mk 0 ⟨#[]⟩ (Sl.mk none 0 0) (Sl.mk none 0 0) (Sl.mk none 0 0) (Sl.mk none 0 0)).R8.n (j9.mk 0 ⟨#[]⟩ (Sl.mk none 0 0) (Sl.mk none 0 0) (Sl.mk none 0 0) (Sl.mk none 0 0)).R8.c),(Value.slice (j9.mk 0 ⟨#[]⟩ (Sl.mk none 0 0) (Sl.mk none 0 0) (Sl.mk none 0 0) (Sl.mk none 0 0)).Q2.a (j9.mk 0 ⟨#[]⟩ (Sl.mk none 0 0) (Sl.mk none 0 0) (Sl.mk none 0 0) (Sl.mk none 0 0)).Q2.n (j9.mk 0 ⟨#[]⟩ (Sl.mk none 0 0) (Sl.mk none 0 0) (Sl.mk none 0 0) (Sl.mk none 0 0)).Q2.c)],av,ak] w) (_:P1 x1 ab ac ad ai ae af a5u b (j9.mk 0 ⟨#[]⟩ (Sl.mk none 0 0) (Sl.mk none 0 0) (Sl.mk none 0 0) (Sl.mk none 0 0)) H K),b9o (Value.pointer (some ⟨g0,0,none⟩)) (vi x1) (Value.pointer (some ⟨z,0,none⟩)) (Value.pointer (some ⟨aa,0,none⟩)) w j1 R E:=by
   intro ab ac ad ai ae af a5u aj av ag ak H w cu cv I h
   unfold b9o
   intro _
   unfold P1 at h
   refine z8 hE Tryz.call103 (h g0) (I.bring 1) ?_
   rintro _ _ _ gg cw _ _ ⟨cx,rfl,rfl,h⟩
   refine P3 cw fun gh al=>?_
   refine o7 a5q ?_
   refine t8 (l1 Tryz.isAgg38 (al.bring 1) rfl) ?_
   refine z8 hE Tryz.call35 (h g0) al ?_
   rintro _ cy _ gi be _ cz ⟨bf,da,rfl,rfl,h⟩
   refine ⟨(cz _ (al.bring 1).lt1 (Inv.a1B (Fi:=[bx g0 101 (d9 cx)]) ((al.bring 1).bring 1))),?_⟩
   refine V9 (e:=40) (c:=d7) (xs:=[bf]) be (b0S _ _ _ _ _ _) rfl rfl N2 N3 (nb rfl) fun gj gk gl db bg dc=>?_
   refine ⟨(dc _ (be.bring 1).lt1),?_⟩
   obtain ⟨dd,h⟩:=h
   refine c3x (s:=aj) (xs:=ad) (bg.bring 5) cu (db.srcO ((bg.bring 5).bring 1)) dd fun aw de gm df dg gn=>?_
   refine o7 a5q ?_
   refine f8 ((dg.bring 1).drop.bring 2) Tryz.sizeOf38 (vs:=[(vs aw)]) (cs':=[(vi ab),(Value.string ac),(vs aw),(vs ag),(vs ae),(vs af)]) rfl rfl (nb rfl) rfl rfl fun go dh gp=>?_
   exact hx1 _ _ (hj1 ab ac (ad++[bf]) ai ae af da aw de ag ak cy _ df cv ((((((dh.bring 5).bring 2).bring 5).bring 5).bring 5).bring 5) h)
  refine r9 fun j2 hx2=>?_
  refine g6 Tryz.call105 (h g0) (ct.bring 2) ?_
  rintro _ di _ gq bh _ _ ⟨gr,bi,rfl,rfl,h⟩
  refine m0 h (fun _ h=>?_) (fun _ h=>?_)
  ·refine a7 a2W ?_
   refine f8 (bh.bring 1) Tryz.sizeOf3 (vs:=[(vi 2)]) (cs':=[(vi 2),(Value.string b.A0),(nS),(nS),(nS),(nS)]) rfl rfl (nb rfl) rfl rfl fun gs dj gt=>?_
   refine P3 dj fun gu am=>?_
   refine o7 a5q ?_
   refine t8 (l1 Tryz.isAgg38 am rfl) ?_
   refine z8 hE Tryz.call106 (h g0) (am.bring 1) ?_
   rintro _ dk _ gv bj _ dl ⟨bk,dm,rfl,rfl,h⟩
   refine ⟨(dl _ am.lt1 (Inv.a1B (Fi:=[bx g0 101 (d9 bi)]) (am.bring 1))),?_⟩
   refine V9 (e:=40) (c:=d7) (xs:=[bk]) bj (b0S _ _ _ _ _ _) rfl rfl N2 N3 (nb rfl) fun gw gx gy dn bl dp=>?_
   refine ⟨(dp _ (bj.bring 1).lt1),?_⟩
   obtain ⟨dq,h⟩:=h
   refine c3x (s:=⟨none,0,0⟩) (xs:=[]) bl.nil (RowL.nil N2 N3) (dn.srcO (bl.nil.bring 1)) dq fun ax dr gz bm ds ha=>?_
   simp only [List.nil_append] at bm
   refine o7 a5q ?_
   refine f8 ((ds.bring 1).drop.bring 2) Tryz.sizeOf38 (vs:=[(vs ax)]) (cs':=[(vi 2),(Value.string b.A0),(vs ax),(nS),(nS),(nS)]) rfl rfl (nb rfl) rfl rfl fun hb dt hc=>?_
   exact hx2 _ _ (hj2 2 b.A0 [bk] [] (Sl.mk none 0 0) (Sl.mk none 0 0) dm ax dr (Sl.mk none 0 0) [] dk _ bm (RowL.nil V7 V8) (((((dt.nil.bring 2).bring 5).bring 5).bring 5).bring 5) h)
  ·exact hx2 _ _ (hj2 1 b.A0 [] [] (Sl.mk none 0 0) (Sl.mk none 0 0) bi (Sl.mk none 0 0) [] (Sl.mk none 0 0) [] di _ (RowL.nil N2 N3) (RowL.nil V7 V8) (((((bh.nil.nil.bring 1).bring 5).bring 5).bring 4).bring 5) h)
 ·refine a7 R3 (g5 (l1 Tryz.isAgg9 d rfl) (a7 (G5 _ _ _ _ _) ?_))
  refine l7 h (fun _ h=>?_) (fun _ h=>?_)
  ·refine z8 hE Tryz.call41 (h g0) (d.bring 1) ?_
   rintro _ _ _ hd du _ _ ⟨bn,he,rfl,rfl,h⟩
   refine V9 (e:=49) (c:=f7) (xs:=[bn]) du (b0R _ _ _ _ _ _ _ _) rfl rfl V7 V8 (nb rfl) fun f dv hf dw dx hg=>?_
   refine a7 a2W ?_
   refine f8 (dx.bring 3) Tryz.sizeOf3 (vs:=[(vi 3)]) (cs':=[(vi 3),(eS),(nS),(nS),(nS),(nS)]) rfl rfl (nb rfl) rfl rfl fun hh dy hi=>?_
   refine a7 a7F ?_
   refine f8 dy Tryz.sizeOf47 (vs:=[(vs f)]) (cs':=[(vi 3),(eS),(nS),(vs f),(nS),(nS)]) rfl rfl (nb rfl) rfl rfl fun hj dz hk=>?_
   refine z8 hE Tryz.call107 (h g0) (dz.bring 2) ?_
   rintro _ _ _ hl ea _ _ ⟨ah,hm,rfl,rfl,h⟩
   refine a7 b0E ?_
   refine f8 (ea.bring 1) Tryz.sizeOf24 (vs:=[(vs ah)]) (cs':=[(vi 3),(eS),(nS),(vs f),(vs ah),(nS)]) rfl rfl (nb rfl) rfl rfl fun hn eb ho=>?_
   have hj3:∀(q:Int) (r:ByteArray) (t:Sl) (u:Sl) (v:Sl) (a2u:a8) H w (_:Inv w0 ps0 H0 H [bx aa 56 [(vi q),(Value.string r),(vs t),(vs f),(vs u),(vs v)],bx g0 101 (d9 a2u),bx an 103 (f9 b),bx z 56 [(vi (j9.mk 0 ⟨#[]⟩ (Sl.mk none 0 0) (Sl.mk none 0 0) (Sl.mk none 0 0) (Sl.mk none 0 0)).d8),(Value.string (j9.mk 0 ⟨#[]⟩ (Sl.mk none 0 0) (Sl.mk none 0 0) (Sl.mk none 0 0) (Sl.mk none 0 0)).A8),(Value.slice (j9.mk 0 ⟨#[]⟩ (Sl.mk none 0 0) (Sl.mk none 0 0) (Sl.mk none 0 0) (Sl.mk none 0 0)).o0.a (j9.mk 0 ⟨#[]⟩ (Sl.mk none 0 0) (Sl.mk none 0 0) (Sl.mk none 0 0) (Sl.mk none 0 0)).o0.n (j9.mk 0 ⟨#[]⟩ (Sl.mk none 0 0) (Sl.mk none 0 0) (Sl.mk none 0 0) (Sl.mk none 0 0)).o0.c),(Value.slice (j9.mk 0 ⟨#[]⟩ (Sl.mk none 0 0) (Sl.mk none 0 0) (Sl.mk none 0 0) (Sl.mk none 0 0)).C3.a (j9.mk 0 ⟨#[]⟩ (Sl.mk none 0 0) (Sl.mk none 0 0) (Sl.mk none 0 0) (Sl.mk none 0 0)).C3.n (j9.mk 0 ⟨#[]⟩ (Sl.mk none 0 0) (Sl.mk none 0 0) (Sl.mk none 0 0) (Sl.mk none 0 0)).C3.c),(Value.slice (j9.mk 0 ⟨#[]⟩ (Sl.mk none 0 0) (Sl.mk none 0 0) (Sl.mk none 0 0) (Sl.mk none 0 0)).R8.a (j9.mk 0 ⟨#[]⟩ (Sl.mk none 0 0) (Sl.mk none 0 0) (Sl.mk none 0 0) (Sl.mk none 0 0)).R8.n (j9.mk 0 ⟨#[]⟩ (Sl.mk none 0 0) (Sl.mk none 0 0) (Sl.mk none 0 0) (Sl.mk none 0 0)).R8.c),(Value.slice (j9.mk 0 ⟨#[]⟩ (Sl.mk none 0 0) (Sl.mk none 0 0) (Sl.mk none 0 0) (Sl.mk none 0 0)).Q2.a (j9.mk 0 ⟨#[]⟩ (Sl.mk none 0 0) (Sl.mk none 0 0) (Sl.mk none 0 0) (Sl.mk none 0 0)).Q2.n (j9.mk 0 ⟨#[]⟩ (Sl.mk none 0 0) (Sl.mk none 0 0) (Sl.mk none 0 0) (Sl.mk none 0 0)).Q2.c)],dv] w) (_:P0 q r t ([bn]) u v a2u b (j9.mk 0 ⟨#[]⟩ (Sl.mk none 0 0) (Sl.mk none 0 0) (Sl.mk none 0 0) (Sl.mk none 0 0)) H K),b9p (Value.pointer (some ⟨z,0,none⟩)) (Value.pointer (some ⟨aa,0,none⟩)) w R E:=by
    intro q r t u v a2u H w I h
    unfold b9p
    intro _
    unfold P0 at h
    refine g5 (ldA Tryz.isAgg56 Tryz.sizeOf56 rfl (I.at1 (o:=0) (vs:=[(vi q),(Value.string r),(vs t),(vs f),(vs u),(vs v)]) (nb rfl) rfl)) ?_
    refine f8 (I.bring 3) Tryz.sizeOf56 (vs:=[(vi q),(Value.string r),(vs t),(vs f),(vs u),(vs v)]) (cs':=[(vi q),(Value.string r),(vs t),(vs f),(vs u),(vs v)]) rfl rfl (nb rfl) rfl rfl fun hp bo hq=>?_
    refine o4 Tryz.isAgg56 Tryz.sizeOf56 rfl (bo.at1 (o:=0) (vs:=[(vi q),(Value.string r),(vs t),(vs f),(vs u),(vs v)]) (nb rfl) rfl) ?_
    obtain ⟨bp,ec,ed,ee,ef⟩:=Inv.freezeC (bo.bring 4) dw (by decide)
    replace h:=h f bp ed ee ef
    exact hR _ bp _ _ (ec.drop.drop.bring 1).drop ⟨(j9.mk q r t f u v),a2u,rfl,rfl,h⟩
   refine r9 fun j3 hx3=>?_
   refine g6 Tryz.call105 (h g0) (eb.bring 1) ?_
   rintro _ eg _ hr bq _ _ ⟨hs,eh,rfl,rfl,h⟩
   refine m0 h (fun _ h=>?_) (fun _ h=>?_)
   ·refine z8 hE Tryz.call107 (h g0) bq ?_
    rintro _ ei _ ht ej _ _ ⟨ay,ek,rfl,rfl,h⟩
    refine a7 b0F ?_
    refine f8 (ej.bring 1) Tryz.sizeOf24 (vs:=[(vs ay)]) (cs':=[(vi 3),(eS),(nS),(vs f),(vs ah),(vs ay)]) rfl rfl (nb rfl) rfl rfl fun hu el hv=>?_
    exact hx3 _ _ (hj3 3 ⟨#[]⟩ (Sl.mk none 0 0) ah ay ek ei _ (((((el.bring 2).bring 4).bring 4).bring 4).bring 4) h)
   ·exact hx3 _ _ (hj3 3 ⟨#[]⟩ (Sl.mk none 0 0) ah (Sl.mk none 0 0) eh eg _ (((((bq.bring 2).bring 4).bring 4).bring 3).bring 4) h)
  ·refine a7 R3 (g5 (l1 Tryz.isAgg9 d rfl) (a7 (G5 _ _ _ _ _) ?_))
   refine l7 h (fun _ h=>?_) (fun _ h=>?_)
   ·refine z8 hE Tryz.call41 (h g0) (d.bring 1) ?_
    rintro _ _ _ hw em _ _ ⟨en,hx,rfl,rfl,h⟩
    refine V9 (e:=49) (c:=f7) (xs:=[en]) em (b0R _ _ _ _ _ _ _ _) rfl rfl V7 V8 (nb rfl) fun j hy hz eo ep ia=>?_
    refine a7 a2W ?_
    refine f8 (ep.bring 3) Tryz.sizeOf3 (vs:=[(vi 4)]) (cs':=[(vi 4),(eS),(nS),(nS),(nS),(nS)]) rfl rfl (nb rfl) rfl rfl fun ib eq ic=>?_
    refine a7 a7F ?_
    refine f8 eq Tryz.sizeOf47 (vs:=[(vs j)]) (cs':=[(vi 4),(eS),(nS),(vs j),(nS),(nS)]) rfl rfl (nb rfl) rfl rfl fun id er ie=>?_
    refine z8 hE Tryz.call107 (h g0) (er.bring 2) ?_
    rintro _ _ _ ig es _ _ ⟨y,et,rfl,rfl,h⟩
    refine a7 b0E ?_
    refine f8 (es.bring 1) Tryz.sizeOf24 (vs:=[(vs y)]) (cs':=[(vi 4),(eS),(nS),(vs j),(vs y),(nS)]) rfl rfl (nb rfl) rfl rfl fun ih br ii=>?_
    refine g5 (ldA Tryz.isAgg56 Tryz.sizeOf56 rfl (br.at1 (o:=0) (vs:=[(vi 4),(eS),(nS),(vs j),(vs y),(nS)]) (nb rfl) rfl)) ?_
    refine f8 (br.bring 4) Tryz.sizeOf56 (vs:=[(vi 4),(eS),(nS),(vs j),(vs y),(nS)]) (cs':=[(vi 4),(eS),(nS),(vs j),(vs y),(nS)]) rfl rfl (nb rfl) rfl rfl fun ij bs ik=>?_
    refine o4 Tryz.isAgg56 Tryz.sizeOf56 rfl (bs.at1 (o:=0) (vs:=[(vi 4),(eS),(nS),(vs j),(vs y),(nS)]) (nb rfl) rfl) ?_
    obtain ⟨bt,eu,ev,ew,ex⟩:=Inv.freezeC (bs.bring 3) eo (by decide)
    replace h:=h j bt ev ew ex
    exact hR _ bt _ _ (eu.drop.drop.bring 1).drop ⟨(j9.mk 4 ⟨#[]⟩ (Sl.mk none 0 0) j y (Sl.mk none 0 0)),et,rfl,rfl,h⟩
   ·refine a7 R3 (g5 (l1 Tryz.isAgg9 d rfl) (a7 (G5 _ _ _ _ _) ?_))
    refine l7 h (fun _ h=>?_) (fun _ h=>?_)
    ·refine z8 hE Tryz.call41 (h g0) (d.bring 1) ?_
     rintro _ ey _ il ez _ _ ⟨bu,fa,rfl,rfl,h⟩
     refine V9 (e:=49) (c:=f7) (xs:=[bu]) ez (b0R _ _ _ _ _ _ _ _) rfl rfl V7 V8 (nb rfl) fun az fb im fc fd io=>?_
     refine a7 a2W ?_
     refine f8 (fd.bring 3) Tryz.sizeOf3 (vs:=[(vi 5)]) (cs':=[(vi 5),(eS),(nS),(nS),(nS),(nS)]) rfl rfl (nb rfl) rfl rfl fun ip fe iq=>?_
     refine a7 a7F ?_
     refine f8 fe Tryz.sizeOf47 (vs:=[(vs az)]) (cs':=[(vi 5),(eS),(nS),(vs az),(nS),(nS)]) rfl rfl (nb rfl) rfl rfl fun ir ff it=>?_
     exact hx1 _ _ (hj1 5 ⟨#[]⟩ [] [bu] (Sl.mk none 0 0) (Sl.mk none 0 0) fa (Sl.mk none 0 0) [] az fb ey _ (RowL.nil N2 N3) fc ((((((ff.nil.bring 2).bring 1).bring 5).bring 5).bring 5).bring 5) h)
    ·refine a7 R3 (g5 (l1 Tryz.isAgg9 d rfl) (a7 (G5 _ _ _ _ _) ?_))
     refine l7 h (fun _ h=>?_) (fun _ h=>?_)
     ·refine z8 hE Tryz.call41 (h g0) (d.bring 1) ?_
      rintro _ fg _ iu fh _ _ ⟨bv,fi,rfl,rfl,h⟩
      refine V9 (e:=49) (c:=f7) (xs:=[bv]) fh (b0R _ _ _ _ _ _ _ _) rfl rfl V7 V8 (nb rfl) fun ba fj iv fk fl iw=>?_
      refine a7 a2W ?_
      refine f8 (fl.bring 3) Tryz.sizeOf3 (vs:=[(vi 6)]) (cs':=[(vi 6),(eS),(nS),(nS),(nS),(nS)]) rfl rfl (nb rfl) rfl rfl fun ix fm iy=>?_
      refine a7 a7F ?_
      refine f8 fm Tryz.sizeOf47 (vs:=[(vs ba)]) (cs':=[(vi 6),(eS),(nS),(vs ba),(nS),(nS)]) rfl rfl (nb rfl) rfl rfl fun iz fn ja=>?_
      exact hx1 _ _ (hj1 6 ⟨#[]⟩ [] [bv] (Sl.mk none 0 0) (Sl.mk none 0 0) fi (Sl.mk none 0 0) [] ba fj fg _ (RowL.nil N2 N3) fk ((((((fn.nil.bring 2).bring 1).bring 5).bring 5).bring 5).bring 5) h)
     ·refine a7 a2W ?_
      refine f8 (d.bring 2) Tryz.sizeOf3 (vs:=[(vi 7)]) (cs':=[(vi 7),(eS),(nS),(nS),(nS),(nS)]) rfl rfl (nb rfl) rfl rfl fun jb fo jc=>?_
      exact hx1 _ _ (hj1 7 ⟨#[]⟩ [] [] (Sl.mk none 0 0) (Sl.mk none 0 0) cc (Sl.mk none 0 0) [] (Sl.mk none 0 0) [] ca _ (RowL.nil N2 N3) (RowL.nil V7 V8) (((((fo.nil.nil.bring 1).bring 5).bring 4).bring 5).bring 5) h)
def a7t (x0:c8) (H:Hp) (K:Int→Hp→Prop):Prop:=
 ∀(a:Sl) (b:Hp),Hle H b→SlH b 1 u0 a [(g9.N4 (Q5.mk x0))]→a.n≤a.c→
 a1Y a b (fun d e=>
 K d.fe e)
theorem b3W (x0) {H K} (h:a7t x0 H K):a7f x0 H K:=by
 refine Ct.of fun w0 w ps0 H0 R E I hR=>d0j ?_
 unfold a7t at h
 unfold F42
 refine P2 I (cs:=(f7 x0)) rfl fun p q a r=>?_
 refine g5 (lW Tryz.isAgg49 Tryz.sizeOf49 rfl a) (a7 (b3N _ _ _ _ _ _ _ _) (a7 (b2q (Q5.mk x0)) ?_))
 refine V9 (e:=131) (c:=u0) (xs:=[(g9.N4 (Q5.mk x0))]) a (a9o _) rfl rfl P8 S2 (nb rfl) fun d s t f g u=>?_
 obtain ⟨i,j,k,l,m⟩:=Inv.freezeC g f (by decide)
 replace h:=h d i k l m
 refine g6 Tryz.call74 h j ?_
 rintro _ n _ v b _ _ ⟨o,y,rfl,rfl,h⟩
 refine a7 (o5 _) (a7 a6j (g5 (l1 Tryz.isAgg29 b rfl) ?_))
 exact hR _ n _ _ b.drop.drop ⟨o.fe,rfl,rfl,h⟩
def a1o [PanQ] (b:O1) (o9:a8) (H:Hp) (K:Int→a8→Hp→Prop):Prop:=
 E9 o9 H (fun a=>
 K 0 o9 a)
def W5 [PanQ] (r8:O1) (c:O1) (A9:Int) (o6:a8) (H:Hp) (n2:(Int×a8)→Hp→Prop) (K:Int→a8→Hp→Prop):Prop:=
 (A9 < 7→
 (0:Int)≤A9∧(A9:Int) < 7∧
 TG ((decide (0 < A9))=true) (fun k_=>v6 o6 (([r8.f0,r8.f1,r8.f2,r8.f3,r8.f4,r8.f5,r8.f6]:List ByteArray).getD (A9:Int).toNat ⟨#[]⟩) H fun d e H_=>k_ (d,e) H_) (false,o6) H (fun (a:Bool×a8) (b:Hp)=>
 (((decide (0 < A9))&&a.1)=true→
 K A9 a.2 b)∧
 (((decide (0 < A9))&&a.1)=false→
 n2 ((IntKind.wrap .i64 (A9+1)),a.2) b)))∧
 (¬(A9 < 7)→
 a1o c o6 H K)
def a2g [PanQ] (x0:a8) (H:Hp) (K:Int→a8→Hp→Prop):Prop:=
 TL ((0,x0):Int×a8) H fun (s:Int×a8) H n2=>W5 (O1.mk ⟨#[]⟩ ⟨#[60]⟩ ⟨#[60,61]⟩ ⟨#[61,61]⟩ ⟨#[33,61]⟩ ⟨#[62]⟩ ⟨#[62,61]⟩) (O1.mk ⟨#[]⟩ ⟨#[60]⟩ ⟨#[60,61]⟩ ⟨#[61,61]⟩ ⟨#[33,61]⟩ ⟨#[62]⟩ ⟨#[62,61]⟩) s.1 s.2 H n2 K
theorem a8Z [PanQ] (x0:a8) {H:Hp} {K:Int→a8→Hp→Prop} (h:a2g x0 H K):a2b x0 H K:=by
 intro g0
 refine Ct.ofE fun w0 w ps0 H0 R E I hR hE=>c7R ?_
 unfold a2g at h
 unfold d1x
 refine a7 (b1g _ _ _ _ _ _ _) ?_
 refine m9 I Tryz.zeroValue195 (cs:=[(eS),(eS),(eS),(eS),(eS),(eS),(eS)]) rfl fun m ah z ai=>?_
 refine f8 z Tryz.sizeOf195 (vs:=[(eS),(Value.string ⟨#[60]⟩),(Value.string ⟨#[60,61]⟩),(Value.string ⟨#[61,61]⟩),(Value.string ⟨#[33,61]⟩),(Value.string ⟨#[62]⟩),(Value.string ⟨#[62,61]⟩)]) (cs':=[(eS),(Value.string ⟨#[60]⟩),(Value.string ⟨#[60,61]⟩),(Value.string ⟨#[61,61]⟩),(Value.string ⟨#[33,61]⟩),(Value.string ⟨#[62]⟩),(Value.string ⟨#[62,61]⟩)]) rfl rfl (nb rfl) rfl rfl fun aj r ak=>?_
 have hj1:∀(o9:a8) H w (_:Inv w0 ps0 H0 H [bx m 195 [(Value.string (O1.mk ⟨#[]⟩ ⟨#[60]⟩ ⟨#[60,61]⟩ ⟨#[61,61]⟩ ⟨#[33,61]⟩ ⟨#[62]⟩ ⟨#[62,61]⟩).f0),(Value.string (O1.mk ⟨#[]⟩ ⟨#[60]⟩ ⟨#[60,61]⟩ ⟨#[61,61]⟩ ⟨#[33,61]⟩ ⟨#[62]⟩ ⟨#[62,61]⟩).f1),(Value.string (O1.mk ⟨#[]⟩ ⟨#[60]⟩ ⟨#[60,61]⟩ ⟨#[61,61]⟩ ⟨#[33,61]⟩ ⟨#[62]⟩ ⟨#[62,61]⟩).f2),(Value.string (O1.mk ⟨#[]⟩ ⟨#[60]⟩ ⟨#[60,61]⟩ ⟨#[61,61]⟩ ⟨#[33,61]⟩ ⟨#[62]⟩ ⟨#[62,61]⟩).f3),(Value.string (O1.mk ⟨#[]⟩ ⟨#[60]⟩ ⟨#[60,61]⟩ ⟨#[61,61]⟩ ⟨#[33,61]⟩ ⟨#[62]⟩ ⟨#[62,61]⟩).f4),(Value.string (O1.mk ⟨#[]⟩ ⟨#[60]⟩ ⟨#[60,61]⟩ ⟨#[61,61]⟩ ⟨#[33,61]⟩ ⟨#[62]⟩ ⟨#[62,61]⟩).f5),(Value.string (O1.mk ⟨#[]⟩ ⟨#[60]⟩ ⟨#[60,61]⟩ ⟨#[61,61]⟩ ⟨#[33,61]⟩ ⟨#[62]⟩ ⟨#[62,61]⟩).f6)],bx g0 101 (d9 o9)] w) (_:a1o (O1.mk ⟨#[]⟩ ⟨#[60]⟩ ⟨#[60,61]⟩ ⟨#[61,61]⟩ ⟨#[33,61]⟩ ⟨#[62]⟩ ⟨#[62,61]⟩) o9 H K),b6P (Value.pointer (some ⟨g0,0,none⟩)) w R E:=by
  intro o9 H w I h
  unfold b6P
  intro _
  unfold a1o at h
  refine z8 hE Tryz.call52 (h g0) (I.bring 1) ?_
  rintro _ aa _ al ab _ _ ⟨rfl,rfl,h⟩
  exact hR _ aa _ _ (ab.bring 1).drop ⟨0,o9,rfl,rfl,h⟩
 refine r9 fun j1 hx1=>?_
 refine g5 (ldA Tryz.isAgg195 Tryz.sizeOf195 rfl (r.at1 (o:=0) (vs:=[(eS),(Value.string ⟨#[60]⟩),(Value.string ⟨#[60,61]⟩),(Value.string ⟨#[61,61]⟩),(Value.string ⟨#[33,61]⟩),(Value.string ⟨#[62]⟩),(Value.string ⟨#[62,61]⟩)]) (nb rfl) rfl)) ?_
 obtain ⟨p,g,ac,ad⟩:=h
 refine B0 (J:=fun n l w=>∃(s:Int×a8) (H:Hp),n=g s∧l=(match s with | (A9,o6)=>[(vi A9)])∧(match s with | (A9,o6)=>Inv w0 ps0 H0 H [bx m 195 [(Value.string (O1.mk ⟨#[]⟩ ⟨#[60]⟩ ⟨#[60,61]⟩ ⟨#[61,61]⟩ ⟨#[33,61]⟩ ⟨#[62]⟩ ⟨#[62,61]⟩).f0),(Value.string (O1.mk ⟨#[]⟩ ⟨#[60]⟩ ⟨#[60,61]⟩ ⟨#[61,61]⟩ ⟨#[33,61]⟩ ⟨#[62]⟩ ⟨#[62,61]⟩).f1),(Value.string (O1.mk ⟨#[]⟩ ⟨#[60]⟩ ⟨#[60,61]⟩ ⟨#[61,61]⟩ ⟨#[33,61]⟩ ⟨#[62]⟩ ⟨#[62,61]⟩).f2),(Value.string (O1.mk ⟨#[]⟩ ⟨#[60]⟩ ⟨#[60,61]⟩ ⟨#[61,61]⟩ ⟨#[33,61]⟩ ⟨#[62]⟩ ⟨#[62,61]⟩).f3),(Value.string (O1.mk ⟨#[]⟩ ⟨#[60]⟩ ⟨#[60,61]⟩ ⟨#[61,61]⟩ ⟨#[33,61]⟩ ⟨#[62]⟩ ⟨#[62,61]⟩).f4),(Value.string (O1.mk ⟨#[]⟩ ⟨#[60]⟩ ⟨#[60,61]⟩ ⟨#[61,61]⟩ ⟨#[33,61]⟩ ⟨#[62]⟩ ⟨#[62,61]⟩).f5),(Value.string (O1.mk ⟨#[]⟩ ⟨#[60]⟩ ⟨#[60,61]⟩ ⟨#[61,61]⟩ ⟨#[33,61]⟩ ⟨#[62]⟩ ⟨#[62,61]⟩).f6)],bx g0 101 (d9 o6)] w)∧p s H) ⟨_,(0,x0),H,rfl,rfl,((r.bring 1).bring 1),ac⟩ ?_
 rintro am an w next2 ⟨⟨A9,o6⟩,H,rfl,q,I,ae⟩ hn2
 dsimp only at q I
 simp only [List.map_cons,List.map_nil,List.cons.injEq,and_true] at q
 have e8:=q
 simp only [e8]
 obtain ⟨n2,hm2,h⟩:∃n2:(Int×a8)→Hp→Prop,(∀s' H',n2 s' H'→p s' H'∧g s' < g (A9,o6))∧W5 (O1.mk ⟨#[]⟩ ⟨#[60]⟩ ⟨#[60,61]⟩ ⟨#[61,61]⟩ ⟨#[33,61]⟩ ⟨#[62]⟩ ⟨#[62,61]⟩) (O1.mk ⟨#[]⟩ ⟨#[60]⟩ ⟨#[60,61]⟩ ⟨#[61,61]⟩ ⟨#[33,61]⟩ ⟨#[62]⟩ ⟨#[62,61]⟩) A9 o6 H n2 K:=⟨_,fun _ _ h=>h,ad (A9,o6) H (fun s' H'=>p s' H'∧g s' < g (A9,o6)) ae (fun _ _ a b=>⟨a,b⟩)⟩
 unfold c1w
 unfold W5 at h
 refine a7 pLs ?_
 refine l7 h (fun _ h=>?_) (fun _ h=>?_)
 ·obtain ⟨af,ag,h⟩:=h
  refine a7 (c2z _ _ _ _ _ _ _ _ _ af ag) (a7 pGt ?_)
  simp only [q9]
  refine G6 (D:=fun t j=>∃(f:Bool) (d:a8) (c:Hp),t=(gv (decide (0 < A9)) true (vB f))∧(Inv w0 ps0 H0 c [bx g0 101 (d9 d),bx m 195 [(Value.string (O1.mk ⟨#[]⟩ ⟨#[60]⟩ ⟨#[60,61]⟩ ⟨#[61,61]⟩ ⟨#[33,61]⟩ ⟨#[62]⟩ ⟨#[62,61]⟩).f0),(Value.string (O1.mk ⟨#[]⟩ ⟨#[60]⟩ ⟨#[60,61]⟩ ⟨#[61,61]⟩ ⟨#[33,61]⟩ ⟨#[62]⟩ ⟨#[62,61]⟩).f1),(Value.string (O1.mk ⟨#[]⟩ ⟨#[60]⟩ ⟨#[60,61]⟩ ⟨#[61,61]⟩ ⟨#[33,61]⟩ ⟨#[62]⟩ ⟨#[62,61]⟩).f2),(Value.string (O1.mk ⟨#[]⟩ ⟨#[60]⟩ ⟨#[60,61]⟩ ⟨#[61,61]⟩ ⟨#[33,61]⟩ ⟨#[62]⟩ ⟨#[62,61]⟩).f3),(Value.string (O1.mk ⟨#[]⟩ ⟨#[60]⟩ ⟨#[60,61]⟩ ⟨#[61,61]⟩ ⟨#[33,61]⟩ ⟨#[62]⟩ ⟨#[62,61]⟩).f4),(Value.string (O1.mk ⟨#[]⟩ ⟨#[60]⟩ ⟨#[60,61]⟩ ⟨#[61,61]⟩ ⟨#[33,61]⟩ ⟨#[62]⟩ ⟨#[62,61]⟩).f5),(Value.string (O1.mk ⟨#[]⟩ ⟨#[60]⟩ ⟨#[60,61]⟩ ⟨#[61,61]⟩ ⟨#[33,61]⟩ ⟨#[62]⟩ ⟨#[62,61]⟩).f6)]] j)∧(∀i,i < w.heap.size→¬inF [bx g0 101 (d9 o6)] i→j.heap[i]? = w.heap[i]?)∧Hle H c∧((((decide (0 < A9))&&f)=true→
 K A9 d c)∧
 (((decide (0 < A9))&&f)=false→
 n2 ((IntKind.wrap .i64 (A9+1)),d) c))) (fun e=>?_) (fun e=>?_) ?_
  ·replace h:=h.1 e
   have u:=e
   simp only [k7 u]
   refine g6 Tryz.call105 (h g0) (I.bring 1) ?_
   rintro _ c _ j k v y ⟨f,d,rfl,rfl,h⟩
   exact ⟨f,d,c,by rfl,k,y,v,h⟩
  ·exact ⟨false,o6,H,by rw [R9 e],(I.bring 1),fun _ _ _=>rfl,Hle.refl _,h.2 e⟩
  ·clear h
   rintro t j ⟨f,d,c,rfl,k,y,v,h⟩
   refine a7 (u4 _ _) ?_
   refine m0 h (fun _ h=>?_) (fun _ h=>?_)
   ·exact hR _ c _ _ (k.bring 1).drop ⟨A9,d,rfl,rfl,h⟩
   ·refine a7 pAd ?_
    exact hn2 _ _ _ (hm2 _ _ h).2 ⟨((IntKind.wrap .i64 (A9+1)),d),c,rfl,rfl,(k.bring 1),(hm2 _ _ h).1⟩
 ·exact hx1 _ _ (hj1 o6 H _ ((I.bring 1).bring 1) h)
def U9 [PanQ] (T5:Int) (o9:a8) (o:d6) (H:Hp) (K:d6→a8→Hp→Prop):Prop:=
 S3 o9 H (fun a e f=>
 (a.d8=2→
 K (d6.mk 1 a.F0 ⟨#[]⟩ (Sl.mk none 0 0)) e f)∧
 (¬(a.d8=2)→
 v6 e ⟨#[91]⟩ f (fun g i j=>
 ((!g)=true→
 K (d6.mk 2 0 a.A0 (Sl.mk none 0 0)) i j)∧
 ((!g)=false→
 W7 i T5 ⟨#[93]⟩ j (fun k l m=>
 ∀(b:Sl) (d:Hp),Hle m d→SlH d 4 d7 b [k]→b.n≤b.c→
 K (d6.mk 4 0 a.A0 b) l d)))))
def a3N [PanQ] (x0:a8) (x1:Int) (H:Hp) (K:d6→a8→Hp→Prop):Prop:=
 K6 x0 H (fun e f=>
 ((!e)=true→
 E9 x0 f (fun q=>
 U9 x1 x0 (d6.mk 0 0 ⟨#[]⟩ (Sl.mk none 0 0)) q K))∧
 ((!e)=false→
 v6 x0 ⟨#[45]⟩ f (fun g a i=>
 (g=true→
 K6 a i (fun r s=>
 D3 a (IntKind.wrap .i64 (x1+1)) r s (fun t=>
 S4 a (IntKind.wrap .i64 (x1+1)) t (fun u v y=>
 ∀(b:Sl) (d:Hp),Hle y d→SlH d 4 d7 b [u]→b.n≤b.c→
 K (d6.mk 5 0 ⟨#[]⟩ b) v d))))∧
 (g=false→
 v6 a ⟨#[40]⟩ i (fun j k l=>
 (j=true→
 W7 k x1 ⟨#[41]⟩ l (fun z aa ab=>
 K z aa ab))∧
 (j=false→
 v6 k ⟨#[105,110,112,117,116]⟩ l (fun m o p=>
 (m=true→
 K (d6.mk 3 0 ⟨#[]⟩ (Sl.mk none 0 0)) o p)∧
 (m=false→
 U9 x1 o (d6.mk 0 0 ⟨#[]⟩ (Sl.mk none 0 0)) p K))))))))
theorem b0B [PanQ] (x0:a8) (x1:Int) {H:Hp} {K:d6→a8→Hp→Prop} (h:a3N x0 x1 H K):S4 x0 x1 H K:=by
 intro g0
 refine Ct.ofE fun w0 w ps0 H0 R E I hR hE=>c7N ?_
 unfold a3N at h
 unfold d1t
 refine m9 I Tryz.zeroValue40 (cs:=[(vi 0),(vi 0),(eS),(nS)]) rfl fun l bo ag bp=>?_
 have hj1:∀(o9:a8) H w (_:Inv w0 ps0 H0 H [bx g0 101 (d9 o9),bx l 40 [(vi (d6.mk 0 0 ⟨#[]⟩ (Sl.mk none 0 0)).d8),(vi (d6.mk 0 0 ⟨#[]⟩ (Sl.mk none 0 0)).F0),(Value.string (d6.mk 0 0 ⟨#[]⟩ (Sl.mk none 0 0)).A8),(Value.slice (d6.mk 0 0 ⟨#[]⟩ (Sl.mk none 0 0)).B1.a (d6.mk 0 0 ⟨#[]⟩ (Sl.mk none 0 0)).B1.n (d6.mk 0 0 ⟨#[]⟩ (Sl.mk none 0 0)).B1.c)]] w) (_:U9 x1 o9 (d6.mk 0 0 ⟨#[]⟩ (Sl.mk none 0 0)) H K),b6O (Value.pointer (some ⟨g0,0,none⟩)) (vi x1) (Value.pointer (some ⟨l,0,none⟩)) w R E:=by
  intro o9 H w I h
  unfold b6O
  intro _
  unfold U9 at h
  refine z8 hE Tryz.call104 (h g0) I ?_
  rintro _ ah _ bq ai _ _ ⟨b,aj,rfl,rfl,h⟩
  refine m9 ai Tryz.zeroValue103 (cs:=[(vi 0),(eS),(vi 0),(vi 0),(vi 0)]) rfl fun br bs ak bt=>?_
  refine f8 ak Tryz.sizeOf103 (vs:=(f9 b)) (cs':=(f9 b)) rfl rfl (nb rfl) rfl rfl fun bu g bv=>?_
  refine a7 a0I (g5 (l1 Tryz.isAgg3 g rfl) (a7 pEq ?_))
  refine l7 h (fun _ h=>?_) (fun _ h=>?_)
  ·refine a7 a8c (g5 (l1 Tryz.isAgg2 g rfl) (a7 (b3t _ _) ?_))
   refine f8 (g.bring 2) Tryz.sizeOf40 (vs:=[(vi 1),(vi b.F0),(eS),(nS)]) (cs':=[(vi 1),(vi b.F0),(eS),(nS)]) rfl rfl (nb rfl) rfl rfl fun bw m bz=>?_
   refine o4 Tryz.isAgg40 Tryz.sizeOf40 rfl (m.at1 (o:=0) (vs:=[(vi 1),(vi b.F0),(eS),(nS)]) (nb rfl) rfl) ?_
   exact hR _ ah _ _ m.drop.drop ⟨(d6.mk 1 b.F0 ⟨#[]⟩ (Sl.mk none 0 0)),aj,rfl,rfl,h⟩
  ·refine g6 Tryz.call105 (h g0) (g.bring 1) ?_
   rintro _ al _ ca k _ _ ⟨cb,p,rfl,rfl,h⟩
   refine a7 (K5 _) ?_
   refine m0 h (fun _ h=>?_) (fun _ h=>?_)
   ·refine a7 R3 (g5 (l1 Tryz.isAgg9 (k.bring 1) rfl) (a7 (b3u _ _) ?_))
    refine f8 (k.bring 2) Tryz.sizeOf40 (vs:=[(vi 2),(vi 0),(Value.string b.A0),(nS)]) (cs':=[(vi 2),(vi 0),(Value.string b.A0),(nS)]) rfl rfl (nb rfl) rfl rfl fun cc q cd=>?_
    refine o4 Tryz.isAgg40 Tryz.sizeOf40 rfl (q.at1 (o:=0) (vs:=[(vi 2),(vi 0),(Value.string b.A0),(nS)]) (nb rfl) rfl) ?_
    exact hR _ al _ _ (q.drop.bring 1).drop ⟨(d6.mk 2 0 b.A0 (Sl.mk none 0 0)),p,rfl,rfl,h⟩
   ·refine P3 k fun ce i=>?_
    refine o7 R3 ?_
    refine t8 (l1 Tryz.isAgg9 (i.bring 1) rfl) ?_
    refine z8 hE Tryz.call106 (h g0) i ?_
    rintro _ _ _ cf r _ am ⟨an,ao,rfl,rfl,h⟩
    refine ⟨(am _ (i.bring 1).lt1 (Inv.a1B (Fi:=[bx g0 101 (d9 p)]) ((i.bring 1).bring 1))),?_⟩
    refine V9 (e:=40) (c:=d7) (xs:=[an]) r (b0S _ _ _ _ _ _) rfl rfl N2 N3 (nb rfl) fun d cg ch ap aq ar=>?_
    refine ⟨(ar _ (r.bring 1).lt1),?_⟩
    refine o7 (b1M _ _ _ _ _) ?_
    refine f8 (aq.bring 3) Tryz.sizeOf40 (vs:=[(vi 4),(vi 0),(Value.string b.A0),(vs d)]) (cs':=[(vi 4),(vi 0),(Value.string b.A0),(vs d)]) rfl rfl (nb rfl) rfl rfl fun ci s cj=>?_
    refine o4 Tryz.isAgg40 Tryz.sizeOf40 rfl (s.at1 (o:=0) (vs:=[(vi 4),(vi 0),(Value.string b.A0),(vs d)]) (nb rfl) rfl) ?_
    obtain ⟨t,au,av,aw,ax⟩:=Inv.freezeC (s.bring 1) ap (by decide)
    replace h:=h d t av aw ax
    exact hR _ t _ _ (au.drop.bring 1).drop ⟨(d6.mk 4 0 b.A0 d),ao,rfl,rfl,h⟩
 refine r9 fun j1 hx1=>?_
 refine g6 Tryz.call141 (h g0) (ag.bring 1) ?_
 rintro _ _ _ ck u _ _ ⟨cl,rfl,rfl,h⟩
 refine a7 (K5 _) ?_
 refine m0 h (fun _ h=>?_) (fun _ h=>?_)
 ·refine z8 hE Tryz.call52 (h g0) u ?_
  rintro _ ay _ cm az _ _ ⟨rfl,rfl,h⟩
  exact hx1 _ _ (hj1 x0 ay _ ((az.bring 1).bring 1) h)
 ·refine g6 Tryz.call105 (h g0) u ?_
  rintro _ _ _ cn v _ _ ⟨co,cp,rfl,rfl,h⟩
  refine m0 h (fun _ h=>?_) (fun _ h=>?_)
  ·refine a7 pAd ?_
   refine g6 Tryz.call141 (h g0) v ?_
   rintro _ _ _ cq ba _ _ ⟨cr,rfl,rfl,h⟩
   refine z8 hE Tryz.call55 (h g0) ba ?_
   rintro _ _ _ ct bb _ _ ⟨rfl,rfl,h⟩
   refine a7 pAd ?_
   refine z8 hE Tryz.call122 (h g0) bb ?_
   rintro _ _ _ cu bc _ _ ⟨bd,be,rfl,rfl,h⟩
   refine V9 (e:=40) (c:=d7) (xs:=[bd]) bc (b0S _ _ _ _ _ _) rfl rfl N2 N3 (nb rfl) fun f cv cw bf bg cx=>?_
   refine a7 (a6A _ _ _ _) ?_
   refine f8 (bg.bring 2) Tryz.sizeOf40 (vs:=[(vi 5),(vi 0),(eS),(vs f)]) (cs':=[(vi 5),(vi 0),(eS),(vs f)]) rfl rfl (nb rfl) rfl rfl fun cy y cz=>?_
   refine o4 Tryz.isAgg40 Tryz.sizeOf40 rfl (y.at1 (o:=0) (vs:=[(vi 5),(vi 0),(eS),(vs f)]) (nb rfl) rfl) ?_
   obtain ⟨z,bh,bi,bj,bk⟩:=Inv.freezeC (y.bring 1) bf (by decide)
   replace h:=h f z bi bj bk
   exact hR _ z _ _ bh.drop ⟨(d6.mk 5 0 ⟨#[]⟩ f),be,rfl,rfl,h⟩
  ·refine g6 Tryz.call105 (h g0) v ?_
   rintro _ _ _ da aa _ _ ⟨db,dc,rfl,rfl,h⟩
   refine m0 h (fun _ h=>?_) (fun _ h=>?_)
   ·refine z8 hE Tryz.call106 (h g0) aa ?_
    rintro _ bl _ dd bm _ _ ⟨j,bn,rfl,rfl,h⟩
    refine f8 (bm.bring 1) Tryz.sizeOf40 (vs:=(d7 j)) (cs':=(d7 j)) rfl rfl (nb rfl) rfl rfl fun de ab df=>?_
    refine o4 Tryz.isAgg40 Tryz.sizeOf40 rfl (ab.at1 (o:=0) (vs:=(d7 j)) (nb rfl) rfl) ?_
    exact hR _ bl _ _ ab.drop ⟨j,bn,rfl,rfl,h⟩
   ·refine g6 Tryz.call105 (h g0) aa ?_
    rintro _ ac _ dg ad _ _ ⟨dh,ae,rfl,rfl,h⟩
    refine m0 h (fun _ h=>?_) (fun _ h=>?_)
    ·refine a7 (b5k _) ?_
     refine f8 (ad.bring 1) Tryz.sizeOf40 (vs:=[(vi 3),(vi 0),(eS),(nS)]) (cs':=[(vi 3),(vi 0),(eS),(nS)]) rfl rfl (nb rfl) rfl rfl fun di af dj=>?_
     refine o4 Tryz.isAgg40 Tryz.sizeOf40 rfl (af.at1 (o:=0) (vs:=[(vi 3),(vi 0),(eS),(nS)]) (nb rfl) rfl) ?_
     exact hR _ ac _ _ af.drop ⟨(d6.mk 3 0 ⟨#[]⟩ (Sl.mk none 0 0)),ae,rfl,rfl,h⟩
    ·exact hx1 _ _ (hj1 ae ac _ ((ad.bring 1).bring 1) h)
def y7 (a0b:Int) (u7:ByteArray) (u9:Int) (A4:b7) (D5:(List b6)) (H:Hp) (K:ByteArray→g8→(List b6)→Hp→Prop):Prop:=
 (0:Int)≤a0b∧(a0b:Int)≤u9∧(u9:Int)≤u7.size∧
 K (u7.extract (a0b:Int).toNat (u9:Int).toNat) (g8.mk u7 u9 A4 (Sl.mk none 0 0)) D5 H
def B4 (X5:Int) (C8:Int) (r8:Bool) (q7:ByteArray) (q8:Int) (p7:b7) (p9:(List b6)) (H:Hp) (n2:(Int×Bool×ByteArray×Int×b7×(List b6))→Hp→Prop) (K:ByteArray→g8→(List b6)→Hp→Prop):Prop:=
 TG (r8=true) (a2G C8 H) false H (fun (b:Bool) (c:Hp)=>
 ((r8&&b)=true→
 B9 (g8.mk q7 q8 p7 (Sl.mk none 0 0)) p9 c (fun a d e=>
 A6 (u1 a) d e (fun f g i=>
 n2 (f,g,a.fs,a.fn,a.fat,d) i)))∧
 ((r8&&b)=false→
 y7 X5 q7 q8 p7 p9 c K))
def N9 (x0:g8) (a:(List b6)) (H:Hp) (K:ByteArray→g8→(List b6)→Hp→Prop):Prop:=
 A6 (u1 x0) a H (fun b c d=>
 TL ((b,c,x0.fs,x0.fn,x0.fat,a):Int×Bool×ByteArray×Int×b7×(List b6)) d fun (s:Int×Bool×ByteArray×Int×b7×(List b6)) H n2=>B4 x0.fn s.1 s.2.1 s.2.2.1 s.2.2.2.1 s.2.2.2.2.1 s.2.2.2.2.2 H n2 K)
theorem a3d (x0 q) {H K} (h:N9 x0 q H K):N6 x0 q H K:=by
 intro g0 y z aa
 refine Ct.of fun w0 w ps0 H0 R E I hR=>b4t ?_
 unfold N9 at h
 unfold b9U
 refine a7 (o5 _) (a7 a0K (g5 (l1 Tryz.isAgg3 I rfl) ?_))
 have hj1:∀(u7:ByteArray) (u9:Int) (A4:b7) (D5:(List b6)) (X9:Sl) (O6:Frag) H w (_:RowL 103 5 f9 X9 D5 O6) (_:Inv w0 ps0 H0 H [bx g0 155 [(Value.string u7),(vi u9),(vi A4.o8),(vi A4.s6),(vs X9)],O6] w) (_:y7 x0.fn u7 u9 A4 D5 H K),a7H (Value.pointer (some ⟨g0,0,none⟩)) (vi x0.fn) w R E:=by
  intro u7 u9 A4 D5 X9 O6 H w a5J I h
  unfold a7H
  intro _
  unfold y7 at h
  refine P3 I fun ax r=>?_
  refine o7 (o5 _) ?_
  refine o7 a8e ?_
  refine o7 (o5 _) ?_
  refine o7 a0K ?_
  refine t8 (l1 Tryz.isAgg9 r rfl) ?_
  refine t8 (l1 Tryz.isAgg3 r rfl) ?_
  obtain ⟨ak,al,am,h⟩:=h
  refine o7 (a6g u7 Tryz.underlying9 ak al am) ?_
  exact hR _ H _ _ ((r.bring 1).bring 1) ⟨(u7.extract (x0.fn:Int).toNat (u9:Int).toNat),(g8.mk u7 u9 A4 (Sl.mk none 0 0)),D5,X9,O6,rfl,rfl,a5J,h⟩
 refine r9 fun j1 hx1=>?_
 refine g6 Tryz.call100 (h g0 y z aa) ((I.bring 1).bring 1) ?_
 rintro _ an _ ay ao _ _ ⟨ab,ac,rfl,rfl,h⟩
 refine a7 (g7 _ _ (Value.int .i32 ab) rfl) (a7 (g7 _ _ (vB ac) rfl) ?_)
 obtain ⟨t,g,ap,aq⟩:=h
 refine B0 (J:=fun n l w=>∃(s:Int×Bool×ByteArray×Int×b7×(List b6)) (H:Hp) (M4:Sl) (E8:Frag),n=g s∧l=(match s with | (C8,r8,q7,q8,p7,p9)=>[(Value.int .i32 C8),(vB r8)])∧(match s with | (C8,r8,q7,q8,p7,p9)=>RowL 103 5 f9 M4 p9 E8)∧(match s with | (C8,r8,q7,q8,p7,p9)=>Inv w0 ps0 H0 H [bx g0 155 [(Value.string q7),(vi q8),(vi p7.o8),(vi p7.s6),(vs M4)],E8] w)∧t s H) ⟨_,(ab,ac,x0.fs,x0.fn,x0.fat,q),an,y,z,rfl,rfl,aa,((ao.bring 1).bring 1),ap⟩ ?_
 rintro az ba w next2 ⟨⟨C8,r8,q7,q8,p7,p9⟩,H,M4,E8,rfl,u,T6,I,ar⟩ hn2
 dsimp only at u I T6
 simp only [List.map_cons,List.map_nil,List.cons.injEq,and_true] at u
 obtain ⟨e6,e7⟩:=u
 simp only [e6,e7]
 obtain ⟨n2,hm2,h⟩:∃n2:(Int×Bool×ByteArray×Int×b7×(List b6))→Hp→Prop,(∀s' H',n2 s' H'→t s' H'∧g s' < g (C8,r8,q7,q8,p7,p9))∧B4 x0.fn C8 r8 q7 q8 p7 p9 H n2 K:=⟨_,fun _ _ h=>h,aq (C8,r8,q7,q8,p7,p9) H (fun s' H'=>t s' H'∧g s' < g (C8,r8,q7,q8,p7,p9)) ar (fun _ _ a b=>⟨a,b⟩)⟩
 unfold b2t
 unfold B4 at h
 simp only [q9]
 refine G6 (D:=fun ad j=>∃(f:Bool) (c:Hp),ad=(gv r8 true (vB f))∧(Inv w0 ps0 H0 c [bx g0 155 [(Value.string q7),(vi q8),(vi p7.o8),(vi p7.s6),(vs M4)],E8] j)∧(∀i,i < w.heap.size→¬inF [] i→j.heap[i]? = w.heap[i]?)∧Hle H c∧(((r8&&f)=true→
 B9 (g8.mk q7 q8 p7 (Sl.mk none 0 0)) p9 c (fun (d:g8) (k:(List b6)) (au:Hp)=>
 A6 (u1 d) k au (fun (m:Int) (o:Bool) (v:Hp)=>
 n2 (m,o,d.fs,d.fn,d.fat,k) v)))∧
 ((r8&&f)=false→
 y7 x0.fn q7 q8 p7 p9 c K))) (fun e=>?_) (fun e=>?_) ?_
 ·replace h:=h.1 e
  have ae:=e
  simp only [k7 ae]
  refine g6 Tryz.call157 h I ?_
  rintro _ c _ j p af ag ⟨f,rfl,rfl,h⟩
  exact ⟨f,c,by rfl,p,ag,af,h⟩
 ·exact ⟨false,H,by rw [R9 e],I,fun _ _ _=>rfl,Hle.refl _,h.2 e⟩
 ·clear h
  rintro ad j ⟨f,c,rfl,p,ag,af,h⟩
  refine a7 (u4 _ _) ?_
  refine m0 h (fun _ h=>?_) (fun _ h=>?_)
  ·refine g6 Tryz.call152 (h g0 M4 E8 T6) ((p.bring 1).bring 1) ?_
   rintro _ _ _ bb av _ _ ⟨d,k,ah,ai,rfl,rfl,aj,h⟩
   refine g6 Tryz.call100 (h g0 ah ai aj) ((av.bring 1).bring 1) ?_
   rintro _ v _ bc aw _ _ ⟨m,o,rfl,rfl,h⟩
   refine a7 (g7 _ _ (Value.int .i32 m) rfl) (a7 (g7 _ _ (vB o) rfl) ?_)
   exact hn2 _ _ _ (hm2 _ _ h).2 ⟨(m,o,d.fs,d.fn,d.fat,k),v,ah,ai,rfl,rfl,aj,((aw.bring 1).bring 1),(hm2 _ _ h).1⟩
  ·exact hx1 _ _ (hj1 q7 q8 p7 p9 M4 E8 c _ T6 ((p.bring 1).bring 1) h)
def a6u (x0:d6) (H:Hp) (K:g9→Hp→Prop):Prop:=
 K (g9.H7 (L8.mk x0)) H
theorem b2Z (x0) {H K} (h:a6u x0 H K):a8U x0 H K:=by
 refine Ct.of fun w0 w ps0 H0 R E I hR=>c8w ?_
 unfold a6u at h
 unfold d2c
 refine P2 I (cs:=(d7 x0)) rfl fun b c a d=>?_
 refine g5 (lW Tryz.isAgg40 Tryz.sizeOf40 rfl a) (a7 (b3M _ _ _ _ _ _) (a7 (a9n (L8.mk x0)) ?_))
 exact hR _ H _ _ a.drop ⟨(g9.H7 (L8.mk x0)),rfl,rfl,h⟩
def E2 (a0j:(List g9)) (H:Hp) (K:Sl→Hp→Prop):Prop:=
 ∀(G4:Sl) (a:Hp),Hle H a→SlH a 1 u0 G4 a0j→G4.n≤G4.c→
 K G4 a
def E3 (A9:Sl) (a0P:Int) (y9:(List g9)) (v7:Int) (H:Hp) (n2:((List g9)×Int)→Hp→Prop) (K:Sl→Hp→Prop):Prop:=
 (v7 < a0P→
 (0:Int)≤v7∧(v7:Int) < A9.n∧∃a:c8,EltH H A9 v7 4 (f7 a)∧
 a8V a H (fun b c=>
 (y9.length+([b]:List g9).length)*17≤140737488355328∧
 n2 ((y9++[b]),(IntKind.wrap .i64 (v7+1))) c))∧
 (¬(v7 < a0P)→
 E2 y9 H K)
def N1 (x0:Sl) (H:Hp) (K:Sl→Hp→Prop):Prop:=
 TL (([],0):(List g9)×Int) H fun (s:(List g9)×Int) H n2=>E3 x0 (x0.n:Int) s.1 s.2 H n2 K
theorem a2R (x0) {H K} (h:N1 x0 H K):F7 x0 H K:=by
 refine Ct.of fun w0 w ps0 H0 R E I hR=>c8z ?_
 unfold N1 at h
 unfold d2f
 have hj1:∀(a0j:(List g9)) (G4:Sl) (Fs5j1:Frag) H w (_:RowL 131 1 u0 G4 a0j Fs5j1) (_:Inv w0 ps0 H0 H [Fs5j1] w) (_:E2 a0j H K),b7i (vs G4) w R E:=by
  intro a0j G4 Fs5j1 H w b0J I h
  unfold b7i
  intro _
  unfold E2 at h
  obtain ⟨k,q,r,t,u⟩:=Inv.freezeC I b0J (by decide)
  replace h:=h G4 k r t u
  exact hR _ k _ _ q ⟨G4,rfl,rfl,h⟩
 refine r9 fun j1 hx1=>?_
 refine a7 (a4c _ _ _) ?_
 obtain ⟨f,d,v,y⟩:=h
 refine B0 (J:=fun n l w=>∃(s:(List g9)×Int) (H:Hp) (a0l:Sl) (Fs5l2:Frag),n=d s∧l=(match s with | (y9,v7)=>[(vs a0l),(vi v7)])∧(match s with | (y9,v7)=>RowL 131 1 u0 a0l y9 Fs5l2)∧(match s with | (y9,v7)=>Inv w0 ps0 H0 H [Fs5l2] w)∧f s H) ⟨_,([],0),H,(Sl.mk none 0 0),[],rfl,rfl,(RowL.nil P8 S2),I.nil,v⟩ ?_
 rintro am an w next2 ⟨⟨y9,v7⟩,H,a0l,Fs5l2,rfl,g,a3Y,I,z⟩ hn2
 dsimp only at g I a3Y
 simp only [List.map_cons,List.map_nil,List.cons.injEq,and_true] at g
 obtain ⟨e5,e10⟩:=g
 simp only [e5,e10]
 obtain ⟨n2,hm2,h⟩:∃n2:((List g9)×Int)→Hp→Prop,(∀s' H',n2 s' H'→f s' H'∧d s' < d (y9,v7))∧E3 x0 (x0.n:Int) y9 v7 H n2 K:=⟨_,fun _ _ h=>h,y (y9,v7) H (fun s' H'=>f s' H'∧d s' < d (y9,v7)) z (fun _ _ a b=>⟨a,b⟩)⟩
 unfold c1G
 unfold E3 at h
 refine a7 pLs ?_
 refine l7 h (fun _ h=>?_) (fun _ h=>?_)
 ·obtain ⟨aa,ab,i,j,h⟩:=h
  obtain ⟨ao,ap,ac,j⟩:=j
  refine a7 (b1f ac _ _ _ _ aa ab) (g5 (ldA (vs:=(f7 i)) Tryz.isAgg49 Tryz.sizeOf49 rfl (I.atH j)) ?_)
  refine m9 I Tryz.zeroValue49 (cs:=[(vi 0),(vi 0),(nS),(nS)]) rfl fun aq ar ad au=>?_
  refine f8 ad Tryz.sizeOf49 (vs:=(f7 i)) (cs':=(f7 i)) rfl rfl (nb rfl) rfl rfl fun av m aw=>?_
  refine g5 (lW Tryz.isAgg49 Tryz.sizeOf49 rfl m) ?_
  refine g6 Tryz.call212 h m ?_
  rintro _ ae _ ax af _ _ ⟨o,rfl,rfl,h⟩
  refine V9 (e:=131) (c:=u0) (xs:=[o]) af (a9o _) rfl rfl P8 S2 (nb rfl) fun ay az ba ag p bb=>?_
  obtain ⟨ah,h⟩:=h
  refine b2r (s:=a0l) (xs:=y9) (p.bring 2) a3Y (ag.srcO ((p.bring 2).bring 1)) ah fun ai aj bc ak al bd=>?_
  refine a7 pAd ?_
  exact hn2 _ _ _ (hm2 _ _ h).2 ⟨((y9++[o]),(IntKind.wrap .i64 (v7+1))),ae,ai,aj,rfl,rfl,ak,((al.bring 1).drop.bring 1).drop,(hm2 _ _ h).1⟩
 ·exact hx1 _ _ (hj1 y9 a0l Fs5l2 H _ a3Y I h)
def a4H (x0:a0L) (H:Hp) (K:Sl→Hp→Prop):Prop:=
 K (Sl.mk none 0 0) H
theorem b1z (x0) {H K} (h:a4H x0 H K):a7k x0 H K:=by
 refine Ct.of fun w0 w ps0 H0 R E I hR=>c8C ?_
 unfold a4H at h
 unfold d2i
 refine P2 I (cs:=(C1 x0.a0Y)) rfl fun b c a d=>?_
 exact hR _ H _ _ a.drop ⟨(Sl.mk none 0 0),rfl,rfl,h⟩
def S9 (a0b:Bool) (c6Q:Int) (b4J:Bool) (a:T3) (b:X2) (H:Hp) (K:Bool→Hp→Prop):Prop:=
 (b4J=true→
 K (a0b&&(decide (a.fexprs=0∧a.fconds=1))) H)∧
 (b4J=false→
 (c6Q=7→
 K (a0b&&(decide (a.fexprs=0∧a.fconds=0))) H)∧
 (¬(c6Q=7)→
 K false H))
def a5k (x0:X2) (H:Hp) (K:Bool→Hp→Prop):Prop:=
 (x0.m8.d8=1→
 K ((!(decide (0 < (IntKind.wrap .i64 ((x0.m8.R8.n:Int)+(x0.m8.Q2.n:Int))))))&&(decide ((x0.m8.o0.n:Int)=1∧(x0.m8.C3.n:Int)=0))) H)∧
 (¬(x0.m8.d8=1)→
 (x0.m8.d8=2→
 K ((!(decide (0 < (IntKind.wrap .i64 ((x0.m8.R8.n:Int)+(x0.m8.Q2.n:Int))))))&&(decide ((x0.m8.o0.n:Int)=2∧(x0.m8.C3.n:Int)=0))) H)∧
 (¬(x0.m8.d8=2)→
 (x0.m8.d8=3→
 K ((decide (x0.m8.A8=⟨#[]⟩))&&(decide ((x0.m8.o0.n:Int)=0∧(x0.m8.C3.n:Int)=1))) H)∧
 (¬(x0.m8.d8=3)→
 (x0.m8.d8=4→
 K (((decide (x0.m8.A8=⟨#[]⟩))&&(decide ((x0.m8.Q2.n:Int)=0)))&&(decide ((x0.m8.o0.n:Int)=0∧(x0.m8.C3.n:Int)=1))) H)∧
 (¬(x0.m8.d8=4)→
 (x0.m8.d8=5→
 S9 ((decide (x0.m8.A8=⟨#[]⟩))&&(!(decide (0 < (IntKind.wrap .i64 ((x0.m8.R8.n:Int)+(x0.m8.Q2.n:Int))))))) x0.m8.d8 (decide (x0.m8.d8=5)) (T3.mk (x0.m8.o0.n:Int) (x0.m8.C3.n:Int)) x0 H K)∧
 (¬(x0.m8.d8=5)→
 S9 ((decide (x0.m8.A8=⟨#[]⟩))&&(!(decide (0 < (IntKind.wrap .i64 ((x0.m8.R8.n:Int)+(x0.m8.Q2.n:Int))))))) x0.m8.d8 (decide (x0.m8.d8=6)) (T3.mk (x0.m8.o0.n:Int) (x0.m8.C3.n:Int)) x0 H K)))))
theorem b1K (x0) {H K} (h:a5k x0 H K):a5d x0 H K:=by
 refine Ct.of fun w0 w ps0 H0 R E I hR=>c8D ?_
 unfold a5k at h
 unfold d2j
 refine P2 I (cs:=(y2 x0.m8)) rfl fun e i c j=>?_
 refine a7 R4 (a7 b0E (g5 (l1 Tryz.isAgg24 c rfl) (a7 (a9Z _ _ _) (a7 R4 ?_))))
 refine a7 b0F (g5 (l1 Tryz.isAgg24 c rfl) (a7 (a9Z _ _ _) (a7 pAd (a7 pGt ?_))))
 refine a7 R4 (a7 a5q (g5 (l1 Tryz.isAgg38 c rfl) (a7 (T0 _ _ _) (a7 R4 ?_))))
 refine a7 a7F (g5 (l1 Tryz.isAgg47 c rfl) (a7 (a4c _ _ _) (a7 (a4e _ _) ?_)))
 refine m9 c Tryz.zeroValue264 (cs:=[(vi 0),(vi 0)]) rfl fun d k f l=>?_
 refine f8 f Tryz.sizeOf264 (vs:=[(vi (x0.m8.o0.n:Int)),(vi (x0.m8.C3.n:Int))]) (cs':=[(vi (x0.m8.o0.n:Int)),(vi (x0.m8.C3.n:Int))]) rfl rfl (nb rfl) rfl rfl fun m b p=>?_
 refine a7 R4 (a7 a8Q (g5 (l1 Tryz.isAgg9 (b.bring 1) rfl) (a7 (G5 _ _ _ _ _) ?_)))
 simp only [q9]
 refine a7 (Pu.g fun a=>by simp only [k7 a];with_reducible exact (K5 _)) ?_
 refine a7 (u4 _ _) (a7 R4 (a7 a2W (g5 (l1 Tryz.isAgg3 (b.bring 1) rfl) (a7 pEq ?_))))
 refine l7 h (fun _ h=>?_) (fun _ h=>?_)
 ·refine a7 (K5 _) ?_
  refine g5 (Ld.g fun a=>by exact (ldA Tryz.isAgg264 Tryz.sizeOf264 rfl (b.at1 (o:=0) (vs:=[(vi (x0.m8.o0.n:Int)),(vi (x0.m8.C3.n:Int))]) (nb rfl) rfl))) ?_
  refine a7 (Pu.g fun a=>by with_reducible exact (a4e _ _)) ?_
  refine a7 (Pu.g fun a=>by simp only [k7 a];with_reducible exact (a8t _ _ _ _ _ _)) ?_
  refine a7 (u4 _ _) ?_
  exact hR _ H _ _ b.drop.drop ⟨((!(decide (0 < (IntKind.wrap .i64 ((x0.m8.R8.n:Int)+(x0.m8.Q2.n:Int))))))&&(decide ((x0.m8.o0.n:Int)=1∧(x0.m8.C3.n:Int)=0))),rfl,rfl,h⟩
 ·refine a7 pEq ?_
  refine l7 h (fun _ h=>?_) (fun _ h=>?_)
  ·refine a7 (K5 _) ?_
   refine g5 (Ld.g fun a=>by exact (ldA Tryz.isAgg264 Tryz.sizeOf264 rfl (b.at1 (o:=0) (vs:=[(vi (x0.m8.o0.n:Int)),(vi (x0.m8.C3.n:Int))]) (nb rfl) rfl))) ?_
   refine a7 (Pu.g fun a=>by with_reducible exact (a4e _ _)) ?_
   refine a7 (Pu.g fun a=>by simp only [k7 a];with_reducible exact (a8t _ _ _ _ _ _)) ?_
   refine a7 (u4 _ _) ?_
   exact hR _ H _ _ b.drop.drop ⟨((!(decide (0 < (IntKind.wrap .i64 ((x0.m8.R8.n:Int)+(x0.m8.Q2.n:Int))))))&&(decide ((x0.m8.o0.n:Int)=2∧(x0.m8.C3.n:Int)=0))),rfl,rfl,h⟩
  ·refine a7 pEq ?_
   refine l7 h (fun _ h=>?_) (fun _ h=>?_)
   ·refine a7 R4 (a7 a8Q (g5 (l1 Tryz.isAgg9 (b.bring 1) rfl) (a7 (G5 _ _ _ _ _) ?_)))
    refine g5 (Ld.g fun a=>by exact (ldA Tryz.isAgg264 Tryz.sizeOf264 rfl (b.at1 (o:=0) (vs:=[(vi (x0.m8.o0.n:Int)),(vi (x0.m8.C3.n:Int))]) (nb rfl) rfl))) ?_
    refine a7 (Pu.g fun a=>by with_reducible exact (a4e _ _)) ?_
    refine a7 (Pu.g fun a=>by simp only [k7 a];with_reducible exact (a8t _ _ _ _ _ _)) ?_
    refine a7 (u4 _ _) ?_
    exact hR _ H _ _ b.drop.drop ⟨((decide (x0.m8.A8=⟨#[]⟩))&&(decide ((x0.m8.o0.n:Int)=0∧(x0.m8.C3.n:Int)=1))),rfl,rfl,h⟩
   ·refine a7 pEq ?_
    refine l7 h (fun _ h=>?_) (fun _ h=>?_)
    ·refine a7 R4 (a7 a8Q (g5 (l1 Tryz.isAgg9 (b.bring 1) rfl) (a7 (G5 _ _ _ _ _) ?_)))
     refine a7 (Pu.g fun a=>by with_reducible exact R4) ?_
     refine a7 (Pu.g fun a=>by simp only [k7 a];with_reducible exact b0F) ?_
     refine g5 (Ld.g fun a=>by simp only [k7 a];exact (l1 Tryz.isAgg24 (b.bring 1) rfl)) ?_
     refine a7 (Pu.g fun a=>by simp only [k7 a];with_reducible exact (a9Z _ _ _)) ?_
     refine a7 (Pu.g fun a=>by simp only [k7 a];with_reducible exact pEq) ?_
     refine a7 (u4 _ _) ?_
     refine g5 (Ld.g fun a=>by exact (ldA Tryz.isAgg264 Tryz.sizeOf264 rfl (b.at1 (o:=0) (vs:=[(vi (x0.m8.o0.n:Int)),(vi (x0.m8.C3.n:Int))]) (nb rfl) rfl))) ?_
     refine a7 (Pu.g fun a=>by with_reducible exact (a4e _ _)) ?_
     refine a7 (Pu.g fun a=>by simp only [k7 a];with_reducible exact (a8t _ _ _ _ _ _)) ?_
     refine a7 (u4 _ _) ?_
     exact hR _ H _ _ b.drop.drop ⟨(((decide (x0.m8.A8=⟨#[]⟩))&&(decide ((x0.m8.Q2.n:Int)=0)))&&(decide ((x0.m8.o0.n:Int)=0∧(x0.m8.C3.n:Int)=1))),rfl,rfl,h⟩
    ·have hj1:∀(b4J:Bool) H w (_:Inv w0 ps0 H0 H [bx d 264 [(vi (T3.mk (x0.m8.o0.n:Int) (x0.m8.C3.n:Int)).fexprs),(vi (T3.mk (x0.m8.o0.n:Int) (x0.m8.C3.n:Int)).fconds)],bx e 177 (y2 x0.m8)] w) (_:S9 ((decide (x0.m8.A8=⟨#[]⟩))&&(!(decide (0 < (IntKind.wrap .i64 ((x0.m8.R8.n:Int)+(x0.m8.Q2.n:Int))))))) x0.m8.d8 b4J (T3.mk (x0.m8.o0.n:Int) (x0.m8.C3.n:Int)) x0 H K),b7j (Value.pointer (some ⟨d,0,none⟩)) (vB ((decide (x0.m8.A8=⟨#[]⟩))&&(!(decide (0 < (IntKind.wrap .i64 ((x0.m8.R8.n:Int)+(x0.m8.Q2.n:Int)))))))) (vi x0.m8.d8) (vB b4J) w R E:=by
      intro b4J H w I h
      unfold b7j
      intro _
      unfold S9 at h
      refine m0 h (fun _ h=>?_) (fun _ h=>?_)
      ·refine g5 (Ld.g fun a=>by exact (ldA Tryz.isAgg264 Tryz.sizeOf264 rfl (I.at1 (o:=0) (vs:=[(vi (T3.mk (x0.m8.o0.n:Int) (x0.m8.C3.n:Int)).fexprs),(vi (T3.mk (x0.m8.o0.n:Int) (x0.m8.C3.n:Int)).fconds)]) (nb rfl) rfl))) ?_
       refine a7 (Pu.g fun a=>by with_reducible exact (a4e _ _)) ?_
       refine a7 (Pu.g fun a=>by simp only [k7 a];with_reducible exact (a8t _ _ _ _ _ _)) ?_
       refine a7 (u4 _ _) ?_
       exact hR _ H _ _ I.drop.drop ⟨(((decide (x0.m8.A8=⟨#[]⟩))&&(!(decide (0 < (IntKind.wrap .i64 ((x0.m8.R8.n:Int)+(x0.m8.Q2.n:Int)))))))&&(decide ((T3.mk (x0.m8.o0.n:Int) (x0.m8.C3.n:Int)).fexprs=0∧(T3.mk (x0.m8.o0.n:Int) (x0.m8.C3.n:Int)).fconds=1))),rfl,rfl,h⟩
      ·refine a7 pEq ?_
       refine l7 h (fun _ h=>?_) (fun _ h=>?_)
       ·refine g5 (Ld.g fun a=>by exact (ldA Tryz.isAgg264 Tryz.sizeOf264 rfl (I.at1 (o:=0) (vs:=[(vi (T3.mk (x0.m8.o0.n:Int) (x0.m8.C3.n:Int)).fexprs),(vi (T3.mk (x0.m8.o0.n:Int) (x0.m8.C3.n:Int)).fconds)]) (nb rfl) rfl))) ?_
        refine a7 (Pu.g fun a=>by with_reducible exact (c2D)) ?_
        refine a7 (Pu.g fun a=>by simp only [k7 a];with_reducible exact (a8t _ _ _ _ _ _)) ?_
        refine a7 (u4 _ _) ?_
        exact hR _ H _ _ I.drop.drop ⟨(((decide (x0.m8.A8=⟨#[]⟩))&&(!(decide (0 < (IntKind.wrap .i64 ((x0.m8.R8.n:Int)+(x0.m8.Q2.n:Int)))))))&&(decide ((T3.mk (x0.m8.o0.n:Int) (x0.m8.C3.n:Int)).fexprs=0∧(T3.mk (x0.m8.o0.n:Int) (x0.m8.C3.n:Int)).fconds=0))),rfl,rfl,h⟩
       ·exact hR _ H _ _ I.drop.drop ⟨false,rfl,rfl,h⟩
     refine r9 fun j1 hx1=>?_
     refine a7 pEq ?_
     refine l7 h (fun _ h=>?_) (fun _ h=>?_)
     ·exact hx1 _ _ (hj1 (decide (x0.m8.d8=5)) H _ ((b.bring 1).bring 1) h)
     ·refine a7 pEq ?_
      exact hx1 _ _ (hj1 (decide (x0.m8.d8=6)) H _ ((b.bring 1).bring 1) h)
end Go.Proofs.YthklmeihgmcljaaGreatDoor
