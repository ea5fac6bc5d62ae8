/- Typed formulas of the program's functions, and the theorems that the contracts follow from them; printed by lift.py off the code. -/
import Derived.Test.YthklmeihgmcljaaGreatDoorzQV1
namespace Go.Proofs.YthklmeihgmcljaaGreatDoor
open Go.RowKit
set_option maxRecDepth 100000
set_option maxHeartbeats 2000000
def a4p (x0:b8) (x1:Int) (H:Hp) (K:b8→Hp→Prop):Prop:=
 (x0.fbad=0→
 K9 (b8.mk x0.fl x0.fat x1 x0.fpos) H (fun a b=>
 K (b8.mk x0.fl x0.fat x1 a.fAt) b))∧
 (¬(x0.fbad=0)→
 K x0 H)
theorem a4q (x0 x1) {H K} (h:a4p x0 x1 H K):p8 x0 x1 H K:=by
 intro g0
 refine Ct.of fun w0 w ps0 H0 R E I hR=>d0B ?_
 unfold a4p at h
 unfold F66
 refine a7 (o5 _) (a7 a3S (g5 (l1 Tryz.isAgg3 I rfl) (a7 pEq ?_)))
 refine l7 h (fun _ h=>?_) (fun _ h=>?_)
 ·refine a7 (o5 _) (a7 a3S ?_)
  refine f8 I Tryz.sizeOf3 (vs:=[(vi x1)]) (cs':=[(vs x0.fl),(vi x0.fat),(vi x1),(vi x0.fpos.o8),(vi x0.fpos.s6)]) rfl rfl (nb rfl) rfl rfl fun f b g=>?_
  refine g6 Tryz.call63 (h g0) b ?_
  rintro _ c _ i d _ _ ⟨a,rfl,rfl,h⟩
  refine a7 b1d (a7 (o5 _) (a7 b5Q ?_))
  refine f8 d Tryz.sizeOf28 (vs:=(b9 a.fAt)) (cs':=[(vs x0.fl),(vi x0.fat),(vi x1),(vi a.fAt.o8),(vi a.fAt.s6)]) rfl rfl (nb rfl) rfl rfl fun j e k=>?_
  exact hR _ c _ _ e ⟨(b8.mk x0.fl x0.fat x1 a.fAt),rfl,rfl,h⟩
 ·exact hR _ H _ _ I ⟨x0,rfl,rfl,h⟩
def C2 (o9:b8) (a:b7) (H:Hp) (K:b7→Int→b8→Hp→Prop):Prop:=
 K o9.fpos o9.fbad o9 H
def a0g (x0:b8) (H:Hp) (K:b7→Int→b8→Hp→Prop):Prop:=
 TG ((decide (x0.fbad=0))=true) (K9 x0 H) (b6.mk 0 ⟨#[]⟩ 0 (b7.mk 0 0)) H (fun (a:b6) (b:Hp)=>
 (((decide (x0.fbad=0))&&(!decide (a.d8=5)))=true→
 p8 x0 40 b (fun c d=>
 C2 c (b7.mk 0 0) d K))∧
 (((decide (x0.fbad=0))&&(!decide (a.d8=5)))=false→
 C2 x0 (b7.mk 0 0) b K))
theorem a5t (x0) {H K} (h:a0g x0 H K):T1 x0 H K:=by
 intro g0
 refine Ct.of fun w0 w ps0 H0 R E I hR=>c9Z ?_
 unfold a0g at h
 unfold F27
 refine m9 I Tryz.zeroValue28 (cs:=[(vi 0),(vi 0)]) rfl fun k p l y=>?_
 have hj1:∀(o9:b8) H w (_:Inv w0 ps0 H0 H [bx g0 66 (i7 o9),bx k 28 [(vi (b7.mk 0 0).o8),(vi (b7.mk 0 0).s6)]] w) (_:C2 o9 (b7.mk 0 0) H K),b9g (Value.pointer (some ⟨g0,0,none⟩)) (Value.pointer (some ⟨k,0,none⟩)) w R E:=by
  intro o9 H w I h
  unfold b9g
  intro _
  unfold C2 at h
  refine P3 I fun z e=>?_
  refine o7 (o5 _) ?_
  refine o7 b5Q ?_
  refine o7 (o5 _) ?_
  refine o7 a3S ?_
  refine t8 (ldA Tryz.isAgg28 Tryz.sizeOf28 rfl (e.at1 (o:=3) (vs:=(b9 o9.fpos)) (nb rfl) rfl)) ?_
  refine t8 (l1 Tryz.isAgg3 e rfl) ?_
  refine f8 (e.bring 1) Tryz.sizeOf28 (vs:=(b9 o9.fpos)) (cs':=(b9 o9.fpos)) rfl rfl (nb rfl) rfl rfl fun aa q u=>?_
  refine ⟨(u _ (Inv.b6v (e.bring 1))),?_⟩
  refine o4 Tryz.isAgg28 Tryz.sizeOf28 rfl (q.at1 (o:=0) (vs:=(b9 o9.fpos)) (nb rfl) rfl) ?_
  exact hR _ H _ _ q.drop ⟨o9.fpos,o9.fbad,o9,rfl,rfl,h⟩
 refine r9 fun j1 hx1=>?_
 refine a7 (o5 _) (a7 a3S (g5 (l1 Tryz.isAgg3 (l.bring 1) rfl) (a7 pEq ?_)))
 simp only [q9]
 refine G6 (D:=fun r f=>∃(d:b6) (b:Hp),r=(gv (decide (x0.fbad=0)) true (Value.agg (f9 d).toArray))∧(Inv w0 ps0 H0 b [bx g0 66 (i7 x0),bx k 28 [(vi 0),(vi 0)]] f)∧(∀i,i < p.heap.size→¬inF [bx g0 66 (i7 x0)] i→f.heap[i]? = p.heap[i]?)∧Hle H b∧((((decide (x0.fbad=0))&&(!decide (d.d8=5)))=true→
 p8 x0 40 b (fun (m:b8) (n:Hp)=>
 C2 m (b7.mk 0 0) n K))∧
 (((decide (x0.fbad=0))&&(!decide (d.d8=5)))=false→
 C2 x0 (b7.mk 0 0) b K))) (fun c=>?_) (fun c=>?_) ?_
 ·replace h:=h.1 c
  have a:=c
  simp only [k7 a]
  refine g6 Tryz.call63 (h g0) (l.bring 1) ?_
  rintro _ b _ f j s t ⟨d,rfl,rfl,h⟩
  exact ⟨d,b,by rfl,j,t,s,h⟩
 ·exact ⟨(b6.mk 0 ⟨#[]⟩ 0 (b7.mk 0 0)),H,by rw [R9 c],(l.bring 1),fun _ _ _=>rfl,Hle.refl _,h.2 c⟩
 ·clear h
  rintro r f ⟨d,b,rfl,j,t,s,h⟩
  refine a7 (Pu.g fun a=>by simp only [k7 a];with_reducible exact a7d) ?_
  refine a7 (Pu.g fun a=>by simp only [k7 a];with_reducible exact pNe) ?_
  refine a7 (u4 _ _) ?_
  refine m0 h (fun _ h=>?_) (fun _ h=>?_)
  ·refine g6 Tryz.call66 (h g0) j ?_
   rintro _ n _ ab v _ _ ⟨m,rfl,rfl,h⟩
   exact hx1 _ _ (hj1 m n _ ((v.bring 1).bring 1) h)
  ·exact hx1 _ _ (hj1 x0 b _ ((j.bring 1).bring 1) h)
def a2l (x0:i8) (H:Hp) (K:Int→Hp→Prop):Prop:=
 ((!x0.fok)=true→
 K 30 H)∧
 ((!x0.fok)=false→
 ((!x0.fnames)=true→
 K 31 H)∧
 ((!x0.fnames)=false→
 K 0 H))
theorem a9e (x0) {H K} (h:a2l x0 H K):a0r x0 H K:=by
 refine Ct.of fun w0 w ps0 H0 R E I hR=>d0E ?_
 unfold a2l at h
 unfold F73
 refine P2 I (cs:=(z6 x0)) rfl fun b c a d=>?_
 refine a7 a0J (g5 (l1 Tryz.isAgg4 a rfl) (a7 (K5 _) ?_))
 refine m0 h (fun _ h=>?_) (fun _ h=>?_)
 ·exact hR _ H _ _ a.drop ⟨30,rfl,rfl,h⟩
 ·refine a7 b2a (g5 (l1 Tryz.isAgg4 a rfl) (a7 (K5 _) ?_))
  refine m0 h (fun _ h=>?_) (fun _ h=>?_)
  ·exact hR _ H _ _ a.drop ⟨31,rfl,rfl,h⟩
  ·exact hR _ H _ _ a.drop ⟨0,rfl,rfl,h⟩
def a0Z (a7T:Int) (H:Hp) (K:Bool→Hp→Prop):Prop:=
 K (decide (a7T≤32)) H
def W9 (O8:ByteArray) (a3z:Int) (L9:Int) (H:Hp) (n2:(Int×Int)→Hp→Prop) (K:Bool→Hp→Prop):Prop:=
 (L9 < (O8.size:Int)→
 O0 O8 L9 H (fun d e b f=>
 a0e d f (fun a c=>
 (((!b)||((!decide (a=3))&&((!decide (a=4))||(decide (a3z=0)))))=true→
 K false c)∧
 (((!b)||((!decide (a=3))&&((!decide (a=4))||(decide (a3z=0)))))=false→
 n2 ((IntKind.wrap .i64 (a3z+1)),(IntKind.wrap .i64 (L9+e))) c))))∧
 (¬(L9 < (O8.size:Int))→
 a0Z a3z H K)
def a4r (x0:ByteArray) (H:Hp) (K:Bool→Hp→Prop):Prop:=
 TG (((decide (x0=⟨#[]⟩))||(decide (128 < (x0.size:Int))))=false) (a0F x0 H) false H (fun (a:Bool) (b:Hp)=>
 ((((decide (x0=⟨#[]⟩))||(decide (128 < (x0.size:Int))))||a)=true→
 K false b)∧
 ((((decide (x0=⟨#[]⟩))||(decide (128 < (x0.size:Int))))||a)=false→
 TL ((0,0):Int×Int) b fun (s:Int×Int) H n2=>W9 x0 s.1 s.2 H n2 K))
theorem b1i (x0) {H K} (h:a4r x0 H K):a1X x0 H K:=by
 refine Ct.of fun w0 w ps0 H0 R E I hR=>c7I ?_
 unfold a4r at h
 unfold d1o
 refine a7 (G5 _ _ _ _ _) ?_
 simp only [q9]
 refine a7 (Pu.g fun c=>by simp only [k7 c];with_reducible exact (X3 _)) ?_
 refine a7 (Pu.g fun c=>by simp only [k7 c];with_reducible exact pGt) ?_
 refine a7 (B5 _ _) ?_
 simp only [q9]
 refine G6 (D:=fun v q=>∃(o:Bool) (j:Hp),v=(gv ((decide (x0=⟨#[]⟩))||(decide (128 < (x0.size:Int)))) false (vB o))∧(Inv w0 ps0 H0 j [] q)∧(∀i,i < w.heap.size→¬inF [] i→q.heap[i]? = w.heap[i]?)∧Hle H j∧(((((decide (x0=⟨#[]⟩))||(decide (128 < (x0.size:Int))))||o)=true→
 K false j)∧
 ((((decide (x0=⟨#[]⟩))||(decide (128 < (x0.size:Int))))||o)=false→
 TL ((0,0):Int×Int) j fun (s:Int×Int) H n2=>W9 x0 s.1 s.2 H n2 K))) (fun k=>?_) (fun k=>?_) ?_
 ·replace h:=h.1 k
  have c:=k
  simp only [k7 c]
  refine g6 Tryz.call111 h I ?_
  rintro _ j _ q r y z ⟨o,rfl,rfl,h⟩
  exact ⟨o,j,by rfl,r,z,y,h⟩
 ·exact ⟨false,H,by rw [R9 k],I,fun _ _ _=>rfl,Hle.refl _,h.2 k⟩
 ·clear h
  rintro v q ⟨o,j,rfl,r,z,y,h⟩
  refine a7 (B5 _ _) ?_
  refine m0 h (fun _ h=>?_) (fun _ h=>?_)
  ·exact hR _ j _ _ r ⟨false,rfl,rfl,h⟩
  ·have hj1:∀(a7T:Int) H w (_:Inv w0 ps0 H0 H [] w) (_:a0Z a7T H K),b6J (vi a7T) w R E:=by
    intro a7T H w I h
    unfold b6J
    intro _
    unfold a0Z at h
    refine a7 pLe ?_
    exact hR _ H _ _ I ⟨(decide (a7T≤32)),rfl,rfl,h⟩
   refine r9 fun j1 hx1=>?_
   obtain ⟨t,p,ad,ae⟩:=h
   refine B0 (J:=fun n l w=>∃(s:Int×Int) (H:Hp),n=p s∧l=(match s with | (a3z,L9)=>[(vi a3z),(vi L9)])∧(match s with | (a3z,L9)=>Inv w0 ps0 H0 H [] w)∧t s H) ⟨_,(0,0),j,rfl,rfl,r,ad⟩ ?_
   rintro aj ak w next2 ⟨⟨a3z,L9⟩,H,rfl,u,I,af⟩ hn2
   dsimp only at u I
   simp only [List.map_cons,List.map_nil,List.cons.injEq,and_true] at u
   obtain ⟨e3,e4⟩:=u
   simp only [e3,e4]
   obtain ⟨n2,hm2,h⟩:∃n2:(Int×Int)→Hp→Prop,(∀s' H',n2 s' H'→t s' H'∧p s' < p (a3z,L9))∧W9 x0 a3z L9 H n2 K:=⟨_,fun _ _ h=>h,ae (a3z,L9) H (fun s' H'=>t s' H'∧p s' < p (a3z,L9)) af (fun _ _ a b=>⟨a,b⟩)⟩
   unfold c1s
   unfold W9 at h
   refine a7 (X3 _) (a7 pLs ?_)
   refine l7 h (fun _ h=>?_) (fun _ h=>?_)
   ·refine g6 Tryz.call108 h I ?_
    rintro _ _ _ al ag _ _ ⟨ah,aa,ai,rfl,rfl,h⟩
    refine a7 (g7 _ _ (vi ah) rfl) (a7 (g7 _ _ (vi aa) rfl) (a7 (g7 _ _ (vB ai) rfl) ?_))
    refine g6 Tryz.call142 h ag ?_
    rintro _ ab _ am ac _ _ ⟨an,rfl,rfl,h⟩
    refine a7 (K5 _) ?_
    simp only [q9]
    refine a7 (Pu.g fun c=>by simp only [k7 c];with_reducible exact pNe) ?_
    simp only [a2U,a9Y]
    refine a7 (Pu.e (Q7 _ _ _) (Pu.g fun hb=>by obtain ⟨c,d⟩:=X1 hb;simp only [k7 hb];with_reducible exact pNe)) ?_
    simp only [a2U,b8L]
    refine a7 (Pu.e (a3q _ _ _) (Pu.g fun hb=>by obtain ⟨m,f⟩:=a3p hb;obtain ⟨c,d⟩:=X1 m;simp only [k7 hb];with_reducible exact pEq)) ?_
    refine a7 (Pu.e (Q7 _ _ _) (Pu.g fun hb=>by obtain ⟨c,d⟩:=X1 hb;simp only [k7 hb,b3K hb];with_reducible exact (B5 _ _))) ?_
    refine a7 (Pu.g fun c=>by simp only [k7 c,a7b c];with_reducible exact (u4 _ _)) ?_
    refine a7 (B5 _ _) ?_
    refine m0 h (fun _ h=>?_) (fun _ h=>?_)
    ·exact hR _ ab _ _ ac ⟨false,rfl,rfl,h⟩
    ·refine a7 pAd (a7 pAd ?_)
     exact hn2 _ _ _ (hm2 _ _ h).2 ⟨((IntKind.wrap .i64 (a3z+1)),(IntKind.wrap .i64 (L9+aa))),ab,rfl,rfl,ac,(hm2 _ _ h).1⟩
   ·exact hx1 _ _ (hj1 a3z H _ I h)
def a2m (x0:i8) (x1:ByteArray) (x2:Bool) (H:Hp) (K:i8→Hp→Prop):Prop:=
 ((!x2)=true→
 K (i8.mk (x0.fok&&(decide (x1=⟨#[]⟩))) x0.fnames) H)∧
 ((!x2)=false→
 TG (x0.fnames=true) (a1X x1 H) false H (fun (a:Bool) (b:Hp)=>
 K (i8.mk x0.fok (x0.fnames&&a)) b))
theorem a9f (x0 x1 x2) {H K} (h:a2m x0 x1 x2 H K):a2k x0 x1 x2 H K:=by
 intro g0
 refine Ct.of fun w0 w ps0 H0 R E I hR=>d0D ?_
 unfold a2m at h
 unfold F71
 refine a7 (K5 _) ?_
 refine m0 h (fun _ h=>?_) (fun _ h=>?_)
 ·refine a7 (o5 _) (a7 a0J (g5 (l1 Tryz.isAgg4 I rfl) ?_))
  simp only [q9]
  refine a7 (Pu.g fun a=>by simp only [k7 a];with_reducible exact (G5 _ _ _ _ _)) ?_
  refine a7 (u4 _ _) (a7 (o5 _) (a7 a0J ?_))
  refine f8 I Tryz.sizeOf4 (vs:=[(vB (x0.fok&&(decide (x1=⟨#[]⟩))))]) (cs':=[(vB (x0.fok&&(decide (x1=⟨#[]⟩)))),(vB x0.fnames)]) rfl rfl (nb rfl) rfl rfl fun o m p=>?_
  exact hR _ H _ _ m ⟨(i8.mk (x0.fok&&(decide (x1=⟨#[]⟩))) x0.fnames),rfl,rfl,h⟩
 ·refine a7 (o5 _) (a7 b2a (g5 (l1 Tryz.isAgg4 I rfl) ?_))
  simp only [q9]
  refine G6 (D:=fun j e=>∃(b:Bool) (c:Hp),j=(gv x0.fnames true (vB b))∧(Inv w0 ps0 H0 c [bx g0 123 (z6 x0)] e)∧(∀i,i < w.heap.size→¬inF [] i→e.heap[i]? = w.heap[i]?)∧Hle H c∧(K (i8.mk x0.fok (x0.fnames&&b)) c)) (fun d=>?_) (fun d=>?_) ?_
  ·replace h:=h.1 d
   have a:=d
   simp only [k7 a]
   refine g6 Tryz.call117 h I ?_
   rintro _ c _ e f k l ⟨b,rfl,rfl,h⟩
   exact ⟨b,c,by rfl,f,l,k,h⟩
  ·exact ⟨false,H,by rw [R9 d],I,fun _ _ _=>rfl,Hle.refl _,h.2 d⟩
  ·clear h
   rintro j e ⟨b,c,rfl,f,l,k,h⟩
   refine a7 (u4 _ _) (a7 (o5 _) (a7 b2a ?_))
   refine f8 f Tryz.sizeOf4 (vs:=[(vB (x0.fnames&&b))]) (cs':=[(vB x0.fok),(vB (x0.fnames&&b))]) rfl rfl (nb rfl) rfl rfl fun q n r=>?_
   exact hR _ c _ _ n ⟨(i8.mk x0.fok (x0.fnames&&b)),rfl,rfl,h⟩
def X4 (a:d6) (X5:Int) (o6:i8) (H:Hp) (n2:(Int×i8)→Hp→Prop) (K:i8→Hp→Prop):Prop:=
 (((decide (X5 < (a.B1.n:Int)))&&o6.fok)=true→
 (0:Int)≤X5∧(X5:Int) < a.B1.n∧∃b:d6,EltH H a.B1 X5 4 (d7 b)∧
 U4 o6 b H (fun c d=>
 n2 ((IntKind.wrap .i64 (X5+1)),c) d))∧
 (((decide (X5 < (a.B1.n:Int)))&&o6.fok)=false→
 K o6 H)
def E7 (v8:Int) (a:d6) (o9:i8) (H:Hp) (K:i8→Hp→Prop):Prop:=
 a2k o9 a.A8 ((decide (a.d8=2))||(decide (a.d8=4))) H (fun b c=>
 TL ((0,(i8.mk ((b.fok&&(decide ((a.B1.n:Int)=v8)))&&((decide (a.F0=0))||((decide (a.d8=1))&&(decide (0 < a.F0))))) b.fnames)):Int×i8) c fun (s:Int×i8) H n2=>X4 a s.1 s.2 H n2 K)
def C4 (d5y:Int) (b4u:Bool) (a:d6) (c6M:i8) (H:Hp) (K:i8→Hp→Prop):Prop:=
 (b4u=true→
 E7 2 a c6M H K)∧
 (b4u=false→
 E7 d5y a (i8.mk false c6M.fnames) H K)
def M3 (b9W:Int) (a9p:Int) (b4v:Bool) (a:d6) (b4w:i8) (H:Hp) (K:i8→Hp→Prop):Prop:=
 (b4v=true→
 E7 1 a b4w H K)∧
 (b4v=false→
 (a9p=6→
 C4 b9W (decide (a9p=6)) a b4w H K)∧
 (¬(a9p=6)→
 (a9p=7→
 C4 b9W (decide (a9p=7)) a b4w H K)∧
 (¬(a9p=7)→
 (a9p=8→
 C4 b9W (decide (a9p=8)) a b4w H K)∧
 (¬(a9p=8)→
 (a9p=9→
 C4 b9W (decide (a9p=9)) a b4w H K)∧
 (¬(a9p=9)→
 C4 b9W (decide (a9p=10)) a b4w H K)))))
def K7 (c5q:Int) (b7k:Int) (b1P:Bool) (a:d6) (a2u:i8) (H:Hp) (K:i8→Hp→Prop):Prop:=
 (b1P=true→
 E7 c5q a a2u H K)∧
 (b1P=false→
 (b7k=4→
 M3 c5q b7k (decide (b7k=4)) a a2u H K)∧
 (¬(b7k=4)→
 M3 c5q b7k (decide (b7k=5)) a a2u H K))
def a2o (x0:i8) (x1:d6) (H:Hp) (K:i8→Hp→Prop):Prop:=
 (x1.d8=1→
 K7 0 x1.d8 (decide (x1.d8=1)) x1 x0 H K)∧
 (¬(x1.d8=1)→
 (x1.d8=2→
 K7 0 x1.d8 (decide (x1.d8=2)) x1 x0 H K)∧
 (¬(x1.d8=2)→
 K7 0 x1.d8 (decide (x1.d8=3)) x1 x0 H K))
theorem a9g (x0 x1) {H K} (h:a2o x0 x1 H K):U4 x0 x1 H K:=by
 intro g0
 refine Ct.of fun w0 w ps0 H0 R E I hR=>d0P ?_
 unfold a2o at h
 unfold F85
 refine P2 I (cs:=(d7 x1)) rfl fun k aj p ak=>?_
 have hj1:∀(v8:Int) (o9:i8) H w (_:Inv w0 ps0 H0 H [bx k 40 (d7 x1),bx g0 123 (z6 o9)] w) (_:E7 v8 x1 o9 H K),b9F (Value.pointer (some ⟨g0,0,none⟩)) (Value.pointer (some ⟨k,0,none⟩)) (vi v8) w R E:=by
  intro v8 o9 H w I h
  unfold b9F
  intro _
  unfold E7 at h
  refine a7 a8P (g5 (l1 Tryz.isAgg9 I rfl) (a7 a1p (g5 (l1 Tryz.isAgg3 I rfl) (a7 pEq ?_))))
  refine a7 (Pu.g fun c=>by with_reducible exact a1p) ?_
  refine g5 (Ld.g fun c=>by simp only [k7 c];exact (l1 Tryz.isAgg3 I rfl)) ?_
  refine a7 (Pu.g fun c=>by simp only [k7 c];with_reducible exact pEq) ?_
  refine a7 (B5 _ _) ?_
  refine g6 Tryz.call71 (h g0) (I.bring 1) ?_
  rintro _ u _ al j _ _ ⟨m,rfl,rfl,h⟩
  refine a7 (o5 _) (a7 a0J (g5 (l1 Tryz.isAgg4 j rfl) ?_))
  refine a7 (Pu.g fun c=>by with_reducible exact a0M) ?_
  refine g5 (Ld.g fun c=>by simp only [k7 c];exact (l1 Tryz.isAgg38 (j.bring 1) rfl)) ?_
  refine a7 (Pu.g fun c=>by simp only [k7 c];with_reducible exact (T0 _ _ _)) ?_
  simp only [q9]
  refine a7 (Pu.g fun c=>by simp only [k7 c];with_reducible exact pEq) ?_
  refine a7 (u4 _ _) ?_
  refine a7 (Pu.g fun c=>by with_reducible exact a7E) ?_
  refine g5 (Ld.g fun c=>by simp only [k7 c];exact (l1 Tryz.isAgg2 (j.bring 1) rfl)) ?_
  refine a7 (Pu.g fun c=>by simp only [k7 c];with_reducible exact pEq) ?_
  simp only [q9,a2U,b8L]
  refine a7 (Pu.e (a3q _ _ _) (Pu.g fun hb=>by obtain ⟨c,d⟩:=a3p hb;with_reducible exact a1p)) ?_
  refine g5 (Ld.e (a3q _ _ _) (Ld.g fun hb=>by obtain ⟨c,d⟩:=a3p hb;simp only [k7 hb];exact (l1 Tryz.isAgg3 (j.bring 1) rfl))) ?_
  refine a7 (Pu.e (a3q _ _ _) (Pu.g fun hb=>by obtain ⟨c,d⟩:=a3p hb;simp only [k7 hb];with_reducible exact pEq)) ?_
  simp only [a2U]
  refine a7 (Pu.e (a1A _ _ _) (Pu.g fun hb=>by obtain ⟨i,f⟩:=a5o hb;obtain ⟨c,d⟩:=a3p i;with_reducible exact a7E)) ?_
  refine g5 (Ld.e (a1A _ _ _) (Ld.g fun hb=>by obtain ⟨i,f⟩:=a5o hb;obtain ⟨c,d⟩:=a3p i;simp only [k7 hb];exact (l1 Tryz.isAgg2 (j.bring 1) rfl))) ?_
  refine a7 (Pu.e (a1A _ _ _) (Pu.g fun hb=>by obtain ⟨i,f⟩:=a5o hb;obtain ⟨c,d⟩:=a3p i;simp only [k7 hb];with_reducible exact pGt)) ?_
  refine a7 (Pu.e (a3q _ _ _) (Pu.g fun hb=>by obtain ⟨c,d⟩:=a3p hb;simp only [k7 hb,b3J hb];with_reducible exact (u4 _ _))) ?_
  refine a7 (Pu.g fun c=>by simp only [k7 c,b3K c];with_reducible exact (B5 _ _)) ?_
  refine a7 (u4 _ _) (a7 (o5 _) (a7 a0J ?_))
  refine f8 j Tryz.sizeOf4 (vs:=[(vB ((m.fok&&(decide ((x1.B1.n:Int)=v8)))&&((decide (x1.F0=0))||((decide (x1.d8=1))&&(decide (0 < x1.F0))))))]) (cs':=[(vB ((m.fok&&(decide ((x1.B1.n:Int)=v8)))&&((decide (x1.F0=0))||((decide (x1.d8=1))&&(decide (0 < x1.F0)))))),(vB m.fnames)]) rfl rfl (nb rfl) rfl rfl fun am v an=>?_
  obtain ⟨q,o,y,z⟩:=h
  refine B0 (J:=fun n l w=>∃(s:Int×i8) (H:Hp),n=o s∧l=(match s with | (X5,o6)=>[(vi X5)])∧(match s with | (X5,o6)=>Inv w0 ps0 H0 H [bx g0 123 (z6 o6),bx k 40 (d7 x1)] w)∧q s H) ⟨_,(0,(i8.mk ((m.fok&&(decide ((x1.B1.n:Int)=v8)))&&((decide (x1.F0=0))||((decide (x1.d8=1))&&(decide (0 < x1.F0))))) m.fnames)),u,rfl,rfl,((v.bring 1).bring 1),y⟩ ?_
  rintro ao ap w next2 ⟨⟨X5,o6⟩,H,rfl,r,I,aa⟩ hn2
  dsimp only at r I
  simp only [List.map_cons,List.map_nil,List.cons.injEq,and_true] at r
  have e5:=r
  simp only [e5]
  obtain ⟨n2,hm2,h⟩:∃n2:(Int×i8)→Hp→Prop,(∀s' H',n2 s' H'→q s' H'∧o s' < o (X5,o6))∧X4 x1 X5 o6 H n2 K:=⟨_,fun _ _ h=>h,z (X5,o6) H (fun s' H'=>q s' H'∧o s' < o (X5,o6)) aa (fun _ _ a b=>⟨a,b⟩)⟩
  unfold c4b
  unfold X4 at h
  refine a7 a0M (g5 (l1 Tryz.isAgg38 (I.bring 1) rfl) (a7 (T0 _ _ _) (a7 pLs ?_)))
  simp only [q9]
  refine a7 (Pu.g fun c=>by simp only [k7 c];with_reducible exact (o5 _)) ?_
  refine a7 (Pu.g fun c=>by simp only [k7 c];with_reducible exact a0J) ?_
  refine g5 (Ld.g fun c=>by simp only [k7 c];exact (l1 Tryz.isAgg4 I rfl)) ?_
  refine a7 (u4 _ _) ?_
  refine m0 h (fun _ h=>?_) (fun _ h=>?_)
  ·refine a7 a0M (g5 (l1 Tryz.isAgg38 (I.bring 1) rfl) ?_)
   obtain ⟨ab,ac,ad,t,h⟩:=h
   obtain ⟨aq,ar,ae,t⟩:=t
   refine a7 (a5F ae _ _ _ _ ab ac) (g5 (ldA (vs:=(d7 ad)) Tryz.isAgg40 Tryz.sizeOf40 rfl (I.atH t)) ?_)
   refine g6 Tryz.call85 (h g0) I ?_
   rintro _ af _ au ag _ _ ⟨ah,rfl,rfl,h⟩
   refine a7 pAd ?_
   exact hn2 _ _ _ (hm2 _ _ h).2 ⟨((IntKind.wrap .i64 (X5+1)),ah),af,rfl,rfl,((ag.bring 1).bring 1),(hm2 _ _ h).1⟩
  ·exact hR _ H _ _ (I.bring 1).drop ⟨o6,rfl,rfl,h⟩
 refine r9 fun j1 hx1=>?_
 refine a7 a1p (g5 (l1 Tryz.isAgg3 p rfl) ?_)
 have hj3:∀(b1P:Bool) H w (_:Inv w0 ps0 H0 H [bx k 40 (d7 x1),bx g0 123 (z6 x0)] w) (_:K7 0 x1.d8 b1P x1 x0 H K),b9I (Value.pointer (some ⟨g0,0,none⟩)) (Value.pointer (some ⟨k,0,none⟩)) (vi 0) (vi x1.d8) (vB b1P) w j1 R E:=by
  intro b1P H w I h
  unfold b9I
  intro _
  unfold K7 at h
  refine m0 h (fun _ h=>?_) (fun _ h=>?_)
  ·exact hx1 _ _ (hj1 0 x0 H _ ((I.bring 1).bring 1) h)
  ·have hj4:∀(b4v:Bool) H w (_:Inv w0 ps0 H0 H [bx k 40 (d7 x1),bx g0 123 (z6 x0)] w) (_:M3 0 x1.d8 b4v x1 x0 H K),b9H (Value.pointer (some ⟨g0,0,none⟩)) (Value.pointer (some ⟨k,0,none⟩)) (vi 0) (vi x1.d8) (vB b4v) w j1 R E:=by
    intro b4v H w I h
    unfold b9H
    intro _
    unfold M3 at h
    refine m0 h (fun _ h=>?_) (fun _ h=>?_)
    ·exact hx1 _ _ (hj1 1 x0 H _ ((I.bring 1).bring 1) h)
    ·have hj5:∀(b4u:Bool) H w (_:Inv w0 ps0 H0 H [bx k 40 (d7 x1),bx g0 123 (z6 x0)] w) (_:C4 0 b4u x1 x0 H K),b9G (Value.pointer (some ⟨g0,0,none⟩)) (Value.pointer (some ⟨k,0,none⟩)) (vi 0) (vB b4u) w j1 R E:=by
      intro b4u H w I h
      unfold b9G
      intro _
      unfold C4 at h
      refine m0 h (fun _ h=>?_) (fun _ h=>?_)
      ·exact hx1 _ _ (hj1 2 x0 H _ ((I.bring 1).bring 1) h)
      ·refine a7 (o5 _) (a7 a0J ?_)
       refine f8 (I.bring 1) Tryz.sizeOf4 (vs:=[(vB false)]) (cs':=[(vB false),(vB x0.fnames)]) rfl rfl (nb rfl) rfl rfl fun av ai aw=>?_
       exact hx1 _ _ (hj1 0 (i8.mk false x0.fnames) H _ (ai.bring 1) h)
     refine r9 fun j5 hx5=>?_
     refine a7 pEq ?_
     refine l7 h (fun _ h=>?_) (fun _ h=>?_)
     ·exact hx5 _ _ (hj5 (decide (x1.d8=6)) H _ ((I.bring 1).bring 1) h)
     ·refine a7 pEq ?_
      refine l7 h (fun _ h=>?_) (fun _ h=>?_)
      ·exact hx5 _ _ (hj5 (decide (x1.d8=7)) H _ ((I.bring 1).bring 1) h)
      ·refine a7 pEq ?_
       refine l7 h (fun _ h=>?_) (fun _ h=>?_)
       ·exact hx5 _ _ (hj5 (decide (x1.d8=8)) H _ ((I.bring 1).bring 1) h)
       ·refine a7 pEq ?_
        refine l7 h (fun _ h=>?_) (fun _ h=>?_)
        ·exact hx5 _ _ (hj5 (decide (x1.d8=9)) H _ ((I.bring 1).bring 1) h)
        ·refine a7 pEq ?_
         exact hx5 _ _ (hj5 (decide (x1.d8=10)) H _ ((I.bring 1).bring 1) h)
   refine r9 fun j4 hx4=>?_
   refine a7 pEq ?_
   refine l7 h (fun _ h=>?_) (fun _ h=>?_)
   ·exact hx4 _ _ (hj4 (decide (x1.d8=4)) H _ ((I.bring 1).bring 1) h)
   ·refine a7 pEq ?_
    exact hx4 _ _ (hj4 (decide (x1.d8=5)) H _ ((I.bring 1).bring 1) h)
 refine r9 fun j3 hx3=>?_
 refine a7 pEq ?_
 refine l7 h (fun _ h=>?_) (fun _ h=>?_)
 ·exact hx3 _ _ (hj3 (decide (x1.d8=1)) H _ ((p.bring 1).bring 1) h)
 ·refine a7 pEq ?_
  refine l7 h (fun _ h=>?_) (fun _ h=>?_)
  ·exact hx3 _ _ (hj3 (decide (x1.d8=2)) H _ ((p.bring 1).bring 1) h)
  ·refine a7 pEq ?_
   exact hx3 _ _ (hj3 (decide (x1.d8=3)) H _ ((p.bring 1).bring 1) h)
def X6 (a8W:Int) (a:c8) (r8:Int) (o6:m7) (H:Hp) (n2:(Int×m7)→Hp→Prop) (K:m7→Hp→Prop):Prop:=
 (((decide (r8 < (a.t7.n:Int)))&&(decide (o6.fbad=0)))=true→
 (0:Int)≤r8∧(r8:Int) < a.t7.n∧∃b:c8,EltH H a.t7 r8 4 (f7 b)∧
 a0u o6 b (IntKind.wrap .i64 (a8W+1)) H (fun c d=>
 n2 ((IntKind.wrap .i64 (r8+1)),c) d))∧
 (((decide (r8 < (a.t7.n:Int)))&&(decide (o6.fbad=0)))=false→
 K o6 H)
def X7 (b3P:Int) (o9:m7) (a:c8) (H:Hp) (K:m7→Hp→Prop):Prop:=
 TL ((0,o9):Int×m7) H fun (s:Int×m7) H n2=>X6 b3P a s.1 s.2 H n2 K
def X8 (d2l:Int) (a:c8) (a1v:Int) (Y9:m7) (H:Hp) (n3:(Int×m7)→Hp→Prop) (K:m7→Hp→Prop):Prop:=
 (((decide (a1v < (a.o0.n:Int)))&&(decide (Y9.fbad=0)))=true→
 (0:Int)≤a1v∧(a1v:Int) < a.o0.n∧∃b:d6,EltH H a.o0 a1v 4 (d7 b)∧
 U5 Y9 b (IntKind.wrap .i64 (d2l+1)) H (fun c d=>
 n3 ((IntKind.wrap .i64 (a1v+1)),c) d))∧
 (((decide (a1v < (a.o0.n:Int)))&&(decide (Y9.fbad=0)))=false→
 X7 d2l Y9 a H K)
def a2p (x0:m7) (x1:c8) (x2:Int) (H:Hp) (K:m7→Hp→Prop):Prop:=
 a0t x0 x2 H (fun a b c=>
 ((!a)=true→
 K b c)∧
 ((!a)=false→
 TL ((0,b):Int×m7) c fun (s:Int×m7) H n3=>X8 x2 x1 s.1 s.2 H n3 K))
theorem a9h (x0 x1 x2) {H K} (h:a2p x0 x1 x2 H K):a0u x0 x1 x2 H K:=by
 intro g0
 refine Ct.of fun w0 w ps0 H0 R E I hR=>d0U ?_
 unfold a2p at h
 unfold F91
 refine P2 I (cs:=(f7 x1)) rfl fun f ar u au=>?_
 refine g6 Tryz.call115 (h g0) (u.bring 1) ?_
 rintro _ q _ av r _ _ ⟨aw,t,rfl,rfl,h⟩
 refine a7 (K5 _) ?_
 refine m0 h (fun _ h=>?_) (fun _ h=>?_)
 ·exact hR _ q _ _ (r.bring 1).drop ⟨t,rfl,rfl,h⟩
 ·have hj1:∀(o9:m7) H w (_:Inv w0 ps0 H0 H [bx g0 120 (P5 o9),bx f 49 (f7 x1)] w) (_:X7 x2 o9 x1 H K),b9M (Value.pointer (some ⟨g0,0,none⟩)) (vi x2) (Value.pointer (some ⟨f,0,none⟩)) w R E:=by
   intro o9 H w I h
   unfold b9M
   intro _
   unfold X7 at h
   obtain ⟨i,d,v,y⟩:=h
   refine B0 (J:=fun n l w=>∃(s:Int×m7) (H:Hp),n=d s∧l=(match s with | (r8,o6)=>[(vi r8)])∧(match s with | (r8,o6)=>Inv w0 ps0 H0 H [bx g0 120 (P5 o6),bx f 49 (f7 x1)] w)∧i s H) ⟨_,(0,o9),H,rfl,rfl,((I.bring 1).bring 1),v⟩ ?_
   rintro ax ay w next2 ⟨⟨r8,o6⟩,H,rfl,j,I,z⟩ hn2
   dsimp only at j I
   simp only [List.map_cons,List.map_nil,List.cons.injEq,and_true] at j
   have e7:=j
   simp only [e7]
   obtain ⟨n2,hm2,h⟩:∃n2:(Int×m7)→Hp→Prop,(∀s' H',n2 s' H'→i s' H'∧d s' < d (r8,o6))∧X6 x2 x1 r8 o6 H n2 K:=⟨_,fun _ _ h=>h,y (r8,o6) H (fun s' H'=>i s' H'∧d s' < d (r8,o6)) z (fun _ _ a b=>⟨a,b⟩)⟩
   unfold c4e
   unfold X6 at h
   refine a7 a0N (g5 (l1 Tryz.isAgg47 (I.bring 1) rfl) (a7 (a4c _ _ _) (a7 pLs ?_)))
   simp only [q9]
   refine a7 (Pu.g fun c=>by simp only [k7 c];with_reducible exact (o5 _)) ?_
   refine a7 (Pu.g fun c=>by simp only [k7 c];with_reducible exact a1R) ?_
   refine g5 (Ld.g fun c=>by simp only [k7 c];exact (l1 Tryz.isAgg3 I rfl)) ?_
   refine a7 (Pu.g fun c=>by simp only [k7 c];with_reducible exact pEq) ?_
   refine a7 (u4 _ _) ?_
   refine m0 h (fun _ h=>?_) (fun _ h=>?_)
   ·refine a7 a0N (g5 (l1 Tryz.isAgg47 (I.bring 1) rfl) ?_)
    obtain ⟨aa,ab,ac,k,h⟩:=h
    obtain ⟨az,ba,ad,k⟩:=k
    refine a7 (b1f ad _ _ _ _ aa ab) (g5 (ldA (vs:=(f7 ac)) Tryz.isAgg49 Tryz.sizeOf49 rfl (I.atH k)) (a7 pAd ?_))
    refine g6 Tryz.call91 (h g0) I ?_
    rintro _ ae _ bb af _ _ ⟨ag,rfl,rfl,h⟩
    refine a7 pAd ?_
    exact hn2 _ _ _ (hm2 _ _ h).2 ⟨((IntKind.wrap .i64 (r8+1)),ag),ae,rfl,rfl,((af.bring 1).bring 1),(hm2 _ _ h).1⟩
   ·exact hR _ H _ _ (I.bring 1).drop ⟨o6,rfl,rfl,h⟩
  refine r9 fun j1 hx1=>?_
  obtain ⟨m,e,ah,ai⟩:=h
  refine B0 (J:=fun n l w=>∃(s:Int×m7) (H:Hp),n=e s∧l=(match s with | (a1v,Y9)=>[(vi a1v)])∧(match s with | (a1v,Y9)=>Inv w0 ps0 H0 H [bx g0 120 (P5 Y9),bx f 49 (f7 x1)] w)∧m s H) ⟨_,(0,t),q,rfl,rfl,((r.bring 1).bring 1),ah⟩ ?_
  rintro bc bd w next3 ⟨⟨a1v,Y9⟩,H,rfl,o,I,aj⟩ hn3
  dsimp only at o I
  simp only [List.map_cons,List.map_nil,List.cons.injEq,and_true] at o
  have e6:=o
  simp only [e6]
  obtain ⟨n3,hm3,h⟩:∃n3:(Int×m7)→Hp→Prop,(∀s' H',n3 s' H'→m s' H'∧e s' < e (a1v,Y9))∧X8 x2 x1 a1v Y9 H n3 K:=⟨_,fun _ _ h=>h,ai (a1v,Y9) H (fun s' H'=>m s' H'∧e s' < e (a1v,Y9)) aj (fun _ _ a b=>⟨a,b⟩)⟩
  unfold c4f
  unfold X8 at h
  refine a7 a0O (g5 (l1 Tryz.isAgg38 (I.bring 1) rfl) (a7 (T0 _ _ _) (a7 pLs ?_)))
  simp only [q9]
  refine a7 (Pu.g fun c=>by simp only [k7 c];with_reducible exact (o5 _)) ?_
  refine a7 (Pu.g fun c=>by simp only [k7 c];with_reducible exact a1R) ?_
  refine g5 (Ld.g fun c=>by simp only [k7 c];exact (l1 Tryz.isAgg3 I rfl)) ?_
  refine a7 (Pu.g fun c=>by simp only [k7 c];with_reducible exact pEq) ?_
  refine a7 (u4 _ _) ?_
  refine m0 h (fun _ h=>?_) (fun _ h=>?_)
  ·refine a7 a0O (g5 (l1 Tryz.isAgg38 (I.bring 1) rfl) ?_)
   obtain ⟨ak,al,am,p,h⟩:=h
   obtain ⟨be,bf,an,p⟩:=p
   refine a7 (a5F an _ _ _ _ ak al) (g5 (ldA (vs:=(d7 am)) Tryz.isAgg40 Tryz.sizeOf40 rfl (I.atH p)) (a7 pAd ?_))
   refine g6 Tryz.call84 (h g0) I ?_
   rintro _ ao _ bg ap _ _ ⟨aq,rfl,rfl,h⟩
   refine a7 pAd ?_
   exact hn3 _ _ _ (hm3 _ _ h).2 ⟨((IntKind.wrap .i64 (a1v+1)),aq),ao,rfl,rfl,((ap.bring 1).bring 1),(hm3 _ _ h).1⟩
  ·exact hx1 _ _ (hj1 Y9 H _ ((I.bring 1).bring 1) h)
def a4S (x0:b8) (x1:ByteArray) (H:Hp) (K:b8→Hp→Prop):Prop:=
 m6 x0 x1 H (fun a b c=>
 ((!a)=true→
 p8 b 40 c (fun d e=>
 K d e))∧
 ((!a)=false→
 K b c))
theorem a4T (x0 x1) {H K} (h:a4S x0 x1 H K):B7 x0 x1 H K:=by
 intro g0
 refine Ct.of fun w0 w ps0 H0 R E I hR=>d0A ?_
 unfold a4S at h
 unfold F65
 refine g6 Tryz.call67 (h g0) I ?_
 rintro _ b _ g a _ _ ⟨i,c,rfl,rfl,h⟩
 refine a7 (K5 _) ?_
 refine m0 h (fun _ h=>?_) (fun _ h=>?_)
 ·refine g6 Tryz.call66 (h g0) a ?_
  rintro _ d _ j e _ _ ⟨f,rfl,rfl,h⟩
  exact hR _ d _ _ e ⟨f,rfl,rfl,h⟩
 ·exact hR _ b _ _ a ⟨c,rfl,rfl,h⟩
def a4d (x0:b8) (H:Hp) (K:Bool→Hp→Prop):Prop:=
 K9 x0 H (fun a c=>
 TG (((decide (a.d8=1))||(decide (a.d8=2)))=false) (l8 x0 ⟨#[45]⟩ c) false c (fun (b:Bool) (d:Hp)=>
 TG ((((decide (a.d8=1))||(decide (a.d8=2)))||b)=false) (l8 x0 ⟨#[40]⟩ d) false d (fun (e:Bool) (f:Hp)=>
 TG (((((decide (a.d8=1))||(decide (a.d8=2)))||b)||e)=false) (l8 x0 ⟨#[105,110,112,117,116]⟩ f) false f (fun (g:Bool) (i:Hp)=>
 K (((((decide (a.d8=1))||(decide (a.d8=2)))||b)||e)||g) i))))
theorem a8f (x0) {H K} (h:a4d x0 H K):W4 x0 H K:=by
 intro g0
 refine Ct.of fun w0 w ps0 H0 R E I hR=>c8h ?_
 unfold a4d at h
 unfold d1N
 refine g6 Tryz.call63 (h g0) I ?_
 rintro _ y _ al aj _ _ ⟨b,rfl,rfl,h⟩
 refine m9 aj Tryz.zeroValue103 (cs:=[(vi 0),(eS),(vi 0),(vi 0),(vi 0)]) rfl fun u am ak an=>?_
 refine f8 ak Tryz.sizeOf103 (vs:=(f9 b)) (cs':=(f9 b)) rfl rfl (nb rfl) rfl rfl fun z o ao=>?_
 refine a7 a0I (g5 (l1 Tryz.isAgg3 o rfl) (a7 pEq ?_))
 refine a7 (Pu.g fun a=>by with_reducible exact a0I) ?_
 refine g5 (Ld.g fun a=>by simp only [k7 a];exact (l1 Tryz.isAgg3 o rfl)) ?_
 refine a7 (Pu.g fun a=>by simp only [k7 a];with_reducible exact pEq) ?_
 refine a7 (B5 _ _) ?_
 simp only [q9]
 refine G6 (D:=fun aa p=>∃(c:Bool) (k:Hp),aa=(gv ((decide (b.d8=1))||(decide (b.d8=2))) false (vB c))∧(Inv w0 ps0 H0 k [bx g0 66 (i7 x0),bx u 103 (f9 b)] p)∧(∀i,i < z.heap.size→¬inF [bx g0 66 (i7 x0)] i→p.heap[i]? = z.heap[i]?)∧Hle y k∧(TG ((((decide (b.d8=1))||(decide (b.d8=2)))||c)=false) (l8 x0 ⟨#[40]⟩ k) false k (fun (d:Bool) (e:Hp)=>
 TG (((((decide (b.d8=1))||(decide (b.d8=2)))||c)||d)=false) (l8 x0 ⟨#[105,110,112,117,116]⟩ e) false e (fun (j:Bool) (f:Hp)=>
 K (((((decide (b.d8=1))||(decide (b.d8=2)))||c)||d)||j) f)))) (fun l=>?_) (fun l=>?_) ?_
 ·replace h:=h.1 l
  have a:=l
  simp only [k7 a]
  refine g6 Tryz.call23 (h g0) (o.bring 1) ?_
  rintro _ k _ p r ab ac ⟨c,rfl,rfl,h⟩
  exact ⟨c,k,by rfl,r,ac,ab,h⟩
 ·exact ⟨false,y,by rw [R9 l],(o.bring 1),fun _ _ _=>rfl,Hle.refl _,h.2 l⟩
 ·clear h
  rintro aa p ⟨c,k,rfl,r,ac,ab,h⟩
  refine a7 (B5 _ _) ?_
  simp only [q9]
  refine G6 (D:=fun ad q=>∃(d:Bool) (e:Hp),ad=(gv (((decide (b.d8=1))||(decide (b.d8=2)))||c) false (vB d))∧(Inv w0 ps0 H0 e [bx g0 66 (i7 x0),bx u 103 (f9 b)] q)∧(∀i,i < p.heap.size→¬inF [bx g0 66 (i7 x0)] i→q.heap[i]? = p.heap[i]?)∧Hle k e∧(TG (((((decide (b.d8=1))||(decide (b.d8=2)))||c)||d)=false) (l8 x0 ⟨#[105,110,112,117,116]⟩ e) false e (fun (j:Bool) (f:Hp)=>
 K (((((decide (b.d8=1))||(decide (b.d8=2)))||c)||d)||j) f))) (fun m=>?_) (fun m=>?_) ?_
  ·replace h:=h.1 m
   have a:=m
   simp only [k7 a]
   refine g6 Tryz.call23 (h g0) r ?_
   rintro _ e _ q s ae af ⟨d,rfl,rfl,h⟩
   exact ⟨d,e,by rfl,s,af,ae,h⟩
  ·exact ⟨false,k,by rw [R9 m],r,fun _ _ _=>rfl,Hle.refl _,h.2 m⟩
  ·clear h
   rintro ad q ⟨d,e,rfl,s,af,ae,h⟩
   refine a7 (B5 _ _) ?_
   simp only [q9]
   refine G6 (D:=fun ag t=>∃(j:Bool) (f:Hp),ag=(gv ((((decide (b.d8=1))||(decide (b.d8=2)))||c)||d) false (vB j))∧(Inv w0 ps0 H0 f [bx g0 66 (i7 x0),bx u 103 (f9 b)] t)∧(∀i,i < q.heap.size→¬inF [bx g0 66 (i7 x0)] i→t.heap[i]? = q.heap[i]?)∧Hle e f∧(K (((((decide (b.d8=1))||(decide (b.d8=2)))||c)||d)||j) f)) (fun n=>?_) (fun n=>?_) ?_
   ·replace h:=h.1 n
    have a:=n
    simp only [k7 a]
    refine g6 Tryz.call23 (h g0) s ?_
    rintro _ f _ t v ah ai ⟨j,rfl,rfl,h⟩
    exact ⟨j,f,by rfl,v,ai,ah,h⟩
   ·exact ⟨false,e,by rw [R9 n],s,fun _ _ _=>rfl,Hle.refl _,h.2 n⟩
   ·clear h
    rintro ag t ⟨j,f,rfl,v,ai,ah,h⟩
    refine a7 (B5 _ _) ?_
    exact hR _ f _ _ (v.bring 1).drop ⟨(((((decide (b.d8=1))||(decide (b.d8=2)))||c)||d)||j),rfl,rfl,h⟩
def a4s (x0:b8) (H:Hp) (K:Int→Hp→Prop):Prop:=
 l8 x0 ⟨#[42]⟩ H (fun a b=>
 (a=true→
 K 8 b)∧
 (a=false→
 l8 x0 ⟨#[47]⟩ b (fun c d=>
 (c=true→
 K 9 d)∧
 (c=false→
 l8 x0 ⟨#[37]⟩ d (fun e f=>
 (e=true→
 K 10 f)∧
 (e=false→
 K 0 f))))))
theorem a4t (x0) {H K} (h:a4s x0 H K):Q3 x0 H K:=by
 intro g0
 refine Ct.of fun w0 w ps0 H0 R E I hR=>c7P ?_
 unfold a4s at h
 unfold d1v
 refine g6 Tryz.call23 (h g0) I ?_
 rintro _ e _ g a _ _ ⟨i,rfl,rfl,h⟩
 refine m0 h (fun _ h=>?_) (fun _ h=>?_)
 ·exact hR _ e _ _ a ⟨8,rfl,rfl,h⟩
 ·refine g6 Tryz.call23 (h g0) a ?_
  rintro _ f _ j b _ _ ⟨k,rfl,rfl,h⟩
  refine m0 h (fun _ h=>?_) (fun _ h=>?_)
  ·exact hR _ f _ _ b ⟨9,rfl,rfl,h⟩
  ·refine g6 Tryz.call23 (h g0) b ?_
   rintro _ c _ l d _ _ ⟨m,rfl,rfl,h⟩
   refine m0 h (fun _ h=>?_) (fun _ h=>?_)
   ·exact hR _ c _ _ d ⟨10,rfl,rfl,h⟩
   ·exact hR _ c _ _ d ⟨0,rfl,rfl,h⟩
def a0V (o9:b8) (a:c8) (b:c8) (H:Hp) (K:c8→b8→Hp→Prop):Prop:=
 K a o9 H
def V2 (T4:Int) (d:c8) (o6:b8) (e:c8) (H:Hp) (n2:(c8×b8×c8)→Hp→Prop) (K:c8→b8→Hp→Prop):Prop:=
 m6 o6 ⟨#[38,38]⟩ H (fun f g i=>
 (f=true→
 D2 g T4 i (fun j k l=>
 ∀(a:Sl) (b:Hp),Hle l b→SlH b 4 f7 a [d,j]→a.n≤a.c→
 n2 ((c8.mk 5 0 (Sl.mk none 0 0) a),k,e) b))∧
 (f=false→
 a0V g d e i K))
def a1K (x0:b8) (x1:Int) (H:Hp) (K:c8→b8→Hp→Prop):Prop:=
 D2 x0 x1 H (fun a b c=>
 TL ((a,b,(c8.mk 0 0 (Sl.mk none 0 0) (Sl.mk none 0 0))):c8×b8×c8) c fun (s:c8×b8×c8) H n2=>V2 x1 s.1 s.2.1 s.2.2 H n2 K)
theorem a8D (x0 x1) {H K} (h:a1K x0 x1 H K):Y8 x0 x1 H K:=by
 intro g0
 refine Ct.of fun w0 w ps0 H0 R E I hR=>d0T ?_
 unfold a1K at h
 unfold F90
 refine m9 I Tryz.zeroValue49 (cs:=[(vi 0),(vi 0),(nS),(nS)]) rfl fun m ay ab az=>?_
 refine g6 Tryz.call127 (h g0) (ab.bring 1) ?_
 rintro _ ac _ ba ad _ _ ⟨p,ae,rfl,rfl,h⟩
 refine m9 ad Tryz.zeroValue49 (cs:=[(vi 0),(vi 0),(nS),(nS)]) rfl fun q bb af bc=>?_
 refine f8 af Tryz.sizeOf49 (vs:=(f7 p)) (cs':=(f7 p)) rfl rfl (nb rfl) rfl rfl fun bd ag be=>?_
 have hj1:∀(o9:b8) (g:c8) (r:c8) H w (_:Inv w0 ps0 H0 H [bx g0 66 (i7 o9),bx q 49 (f7 g),bx m 49 (f7 r)] w) (_:a0V o9 g r H K),b9L (Value.pointer (some ⟨m,0,none⟩)) (Value.pointer (some ⟨q,0,none⟩)) w R E:=by
  intro o9 g r H w I h
  unfold b9L
  intro _
  unfold a0V at h
  refine g5 (lW Tryz.isAgg49 Tryz.sizeOf49 rfl (I.bring 1)) ?_
  refine f8 (I.bring 2) Tryz.sizeOf49 (vs:=(f7 g)) (cs':=(f7 g)) rfl rfl (nb rfl) rfl rfl fun bf u bg=>?_
  refine o4 Tryz.isAgg49 Tryz.sizeOf49 rfl (u.at1 (o:=0) (vs:=(f7 g)) (nb rfl) rfl) ?_
  exact hR _ H _ _ (u.drop.bring 1).drop ⟨g,o9,rfl,rfl,h⟩
 refine r9 fun j1 hx1=>?_
 obtain ⟨t,i,ah,ai⟩:=h
 refine B0 (J:=fun n l w=>∃(s:c8×b8×c8) (H:Hp),n=i s∧l=(match s with | (d,o6,f)=>[])∧(match s with | (d,o6,f)=>Inv w0 ps0 H0 H [bx q 49 (f7 d),bx g0 66 (i7 o6),bx m 49 (f7 f)] w)∧t s H) ⟨_,(p,ae,(c8.mk 0 0 (Sl.mk none 0 0) (Sl.mk none 0 0))),ac,rfl,rfl,(((ag.bring 2).bring 2).bring 2),ah⟩ ?_
 rintro bh bi w next2 ⟨⟨d,o6,f⟩,H,rfl,v,I,aj⟩ hn2
 dsimp only at v I
 clear v
 obtain ⟨n2,hm2,h⟩:∃n2:(c8×b8×c8)→Hp→Prop,(∀s' H',n2 s' H'→t s' H'∧i s' < i (d,o6,f))∧V2 x1 d o6 f H n2 K:=⟨_,fun _ _ h=>h,ai (d,o6,f) H (fun s' H'=>t s' H'∧i s' < i (d,o6,f)) aj (fun _ _ a b=>⟨a,b⟩)⟩
 unfold c4d
 unfold V2 at h
 refine g6 Tryz.call67 (h g0) (I.bring 1) ?_
 rintro _ ak _ bj y _ _ ⟨bk,z,rfl,rfl,h⟩
 refine m0 h (fun _ h=>?_) (fun _ h=>?_)
 ·refine P3 y fun bl j=>?_
  refine t8 (lW Tryz.isAgg49 Tryz.sizeOf49 rfl (j.bring 1)) ?_
  refine g6 Tryz.call127 (h g0) j ?_
  rintro _ _ _ bm al _ am ⟨an,ao,rfl,rfl,h⟩
  refine ⟨(am _ (j.bring 1).lt1 (Inv.a1B (Fi:=[bx g0 66 (i7 z)]) ((j.bring 1).bring 1))),?_⟩
  refine V9 (e:=49) (c:=f7) (xs:=[d,an]) al (b6w _ _ _ _ _ _ _ _ _ _ _ _ _ _ _ _) rfl rfl V7 V8 (nb rfl) fun k bn bo ap aq bp=>?_
  refine o7 (a6z _ _ _ _) ?_
  refine f8 (aq.bring 2) Tryz.sizeOf49 (vs:=[(vi 5),(vi 0),(nS),(vs k)]) (cs':=[(vi 5),(vi 0),(nS),(vs k)]) rfl rfl (nb rfl) rfl rfl fun bq ar br=>?_
  obtain ⟨aa,au,av,aw,ax⟩:=Inv.freezeC (ar.bring 1) ap (by decide)
  replace h:=h k aa av aw ax
  exact hn2 _ _ _ (hm2 _ _ h).2 ⟨((c8.mk 5 0 (Sl.mk none 0 0) k),ao,f),aa,rfl,rfl,(((au.bring 2).bring 2).bring 2),(hm2 _ _ h).1⟩
 ·exact hx1 _ _ (hj1 z d f ak _ (((y.bring 2).bring 2).bring 2) h)
def a1b (b2P:ByteArray) (a7U:Int) (H:Hp) (n2:Int→Hp→Prop) (n4:Int→Hp→Prop) (K:Int→Hp→Prop):Prop:=
 ((decide (a7U < (b2P.size:Int)))=true→(0:Int)≤a7U∧a7U < (b2P.size:Int))∧
 (((decide (a7U < (b2P.size:Int)))&&(!decide (((b2P.get! (a7U:Int).toNat).toNat:Int)=10)))=true→
 n4 (IntKind.wrap .i64 (a7U+1)) H)∧
 (((decide (a7U < (b2P.size:Int)))&&(!decide (((b2P.get! (a7U:Int).toNat).toNat:Int)=10)))=false→
 n2 a7U H)
def Q8 (T5:Int) (H:Hp) (K:Int→Hp→Prop):Prop:=
 K T5 H
def a1d (d2m:ByteArray) (b1j:Int) (c2G:Int) (b0n:Int) (H:Hp) (n2:Int→Hp→Prop) (K:Int→Hp→Prop):Prop:=
 (((!decide (c2G=1))&&(!decide (c2G=2)))=true→
 Q8 b1j H K)∧
 (((!decide (c2G=1))&&(!decide (c2G=2)))=false→
 n2 (IntKind.wrap .i64 (b1j+b0n)) H)
def a1e (O8:ByteArray) (T4:Int) (H:Hp) (n2:Int→Hp→Prop) (K:Int→Hp→Prop):Prop:=
 (T4 < (O8.size:Int)→
 T9 O8 T4 H (fun b c a=>
 (0:Int)≤T4∧T4 < (O8.size:Int)∧
 (((O8.get! (T4:Int).toNat).toNat:Int)=35→
 TL (T4:Int) a fun (s:Int) H n4=>a1b O8 s H n2 n4 K)∧
 (¬(((O8.get! (T4:Int).toNat).toNat:Int)=35)→
 a1d O8 T4 b c a n2 K)))∧
 (¬(T4 < (O8.size:Int))→
 Q8 T4 H K)
def a4u (x0:ByteArray) (x1:Int) (H:Hp) (K:Int→Hp→Prop):Prop:=
 TL (x1:Int) H fun (s:Int) H n2=>a1e x0 s H n2 K
theorem b1k (x0 x1) {H K} (h:a4u x0 x1 H K):a4j x0 x1 H K:=by
 refine Ct.of fun w0 w ps0 H0 R E I hR=>d0w ?_
 unfold a4u at h
 unfold F60
 have hj1:∀(T5:Int) H w (_:Inv w0 ps0 H0 H [] w) (_:Q8 T5 H K),b9t (vi T5) w R E:=by
  intro T5 H w I h
  unfold b9t
  intro _
  unfold Q8 at h
  exact hR _ H _ _ I ⟨T5,rfl,rfl,h⟩
 refine r9 fun j1 hx1=>?_
 obtain ⟨j,e,t,u⟩:=h
 refine B0 (J:=fun n l w=>∃(s:Int) (H:Hp),n=e s∧l=[(vi s)]∧Inv w0 ps0 H0 H [] w∧j s H) ⟨_,x1,H,rfl,rfl,I,t⟩ ?_
 rintro ad ae w next2 ⟨T4,H,rfl,o,I,v⟩ hn2
 simp only [List.map_cons,List.map_nil,List.cons.injEq,and_true] at o
 have e1:=o
 simp only [e1]
 obtain ⟨n2,hm2,h⟩:∃n2:Int→Hp→Prop,(∀s' H',n2 s' H'→j s' H'∧e s' < e T4)∧a1e x0 T4 H n2 K:=⟨_,fun _ _ h=>h,u T4 H (fun s' H'=>j s' H'∧e s' < e T4) v (fun _ _ a b=>⟨a,b⟩)⟩
 unfold c3S
 unfold a1e at h
 refine a7 (X3 _) (a7 pLs ?_)
 refine l7 h (fun _ h=>?_) (fun _ h=>?_)
 ·refine g6 Tryz.call109 h I ?_
  rintro _ p _ af q _ _ ⟨k,i,rfl,rfl,h⟩
  refine a7 (g7 _ _ (vi k) rfl) (a7 (g7 _ _ (vi i) rfl) ?_)
  have hj3:∀(b1j:Int) H w (_:Inv w0 ps0 H0 H [] w) (_:a1d x0 b1j k i H n2 K),b9u (Value.string x0) (vi b1j) (vi k) (vi i) w j1 next2 R E:=by
   intro b1j H w I h
   unfold b9u
   intro _
   unfold a1d at h
   refine a7 pNe ?_
   simp only [q9]
   refine a7 (Pu.g fun c=>by simp only [k7 c];with_reducible exact pNe) ?_
   refine a7 (u4 _ _) ?_
   refine m0 h (fun _ h=>?_) (fun _ h=>?_)
   ·exact hx1 _ _ (hj1 b1j H _ I h)
   ·refine a7 pAd ?_
    exact hn2 _ _ _ (hm2 _ _ h).2 ⟨(IntKind.wrap .i64 (b1j+i)),H,rfl,rfl,I,(hm2 _ _ h).1⟩
  refine r9 fun j3 hx3=>?_
  obtain ⟨y,z,h⟩:=h
  refine a7 (a3r _ _ _ y z) (a7 pEq ?_)
  refine l7 h (fun _ h=>?_) (fun _ h=>?_)
  ·obtain ⟨m,f,aa,ab⟩:=h
   refine B0 (J:=fun n l w=>∃(s:Int) (H:Hp),n=f s∧l=[(vi s)]∧Inv w0 ps0 H0 H [] w∧m s H) ⟨_,T4,p,rfl,rfl,q,aa⟩ ?_
   rintro ag ah w next4 ⟨a7U,H,rfl,r,I,ac⟩ hn4
   simp only [List.map_cons,List.map_nil,List.cons.injEq,and_true] at r
   have e1:=r
   simp only [e1]
   obtain ⟨n4,hm4,h⟩:∃n4:Int→Hp→Prop,(∀s' H',n4 s' H'→m s' H'∧f s' < f a7U)∧a1b x0 a7U H n2 n4 K:=⟨_,fun _ _ h=>h,ab a7U H (fun s' H'=>m s' H'∧f s' < f a7U) ac (fun _ _ a b=>⟨a,b⟩)⟩
   unfold c3R
   unfold a1b at h
   refine a7 (X3 _) (a7 pLs ?_)
   simp only [q9]
   obtain ⟨d,h⟩:=h
   refine a7 (Pu.g fun hb=>by have c:=hb;simp only [k7 c];with_reducible exact (a3r _ _ _ (d hb).1 (d hb).2)) ?_
   refine a7 (Pu.g fun c=>by simp only [k7 c];with_reducible exact pNe) ?_
   refine a7 (u4 _ _) ?_
   refine m0 h (fun _ h=>?_) (fun _ h=>?_)
   ·refine a7 pAd ?_
    exact hn4 _ _ _ (hm4 _ _ h).2 ⟨(IntKind.wrap .i64 (a7U+1)),H,rfl,rfl,I,(hm4 _ _ h).1⟩
   ·exact hn2 _ _ _ (hm2 _ _ h).2 ⟨a7U,H,rfl,rfl,I,(hm2 _ _ h).1⟩
  ·exact hx3 _ _ (hj3 T4 p _ q h)
 ·exact hx1 _ _ (hj1 T4 H _ I h)
def a1F (a9q:Int) (a9r:Int) (a9s:Int) (a9t:Bool) (a9u:Bool) (a8w:(List ByteArray)) (H:Hp) (K:Bool→p1→(List ByteArray)→Hp→Prop):Prop:=
 K true (p1.mk a9q a9r a9s a9t a9u (Sl.mk none 0 0)) a8w H
def a1G (T4:Int) (a0P:Sl) (v7:Int) (a4Q:Int) (a3A:Int) (a3B:Int) (a3C:Int) (a3D:Bool) (a3E:Bool) (a2j:(List ByteArray)) (H:Hp) (n2:(Int×Int×Int×Int×Bool×Bool×(List ByteArray))→Hp→Prop) (K:Bool→p1→(List ByteArray)→Hp→Prop):Prop:=
 (a4Q < v7→
 (0:Int)≤a4Q∧(a4Q:Int) < a0P.n∧∃c:g9,EltH H a0P a4Q 1 [(L1 c)]∧
 a3v (p1.mk a3A a3B a3C a3D a3E (Sl.mk none 0 0)) a2j c T4 H (fun b d e f=>
 TG ((!b)=false) (a5S c f) (Sl.mk none 0 0) f (fun (j:Sl) (g:Hp)=>
 TG ((!b)=false) (fun k_=>a1k j (IntKind.wrap .i64 (T4+1)) (a1V d) e g fun k l m H_=>k_ (k,l,m) H_) (false,(a1V d),e) g (fun (a:Bool×p1×(List ByteArray)) (i:Hp)=>
 (((!b)||(!a.1))=true→
 K false (p1.mk (a.2.1.fnodes) (a.2.1.fdepth) (a.2.1.fe) (a.2.1.fform) (a.2.1.fnamed) (Sl.mk none 0 0)) a.2.2 i)∧
 (((!b)||(!a.1))=false→
 n2 ((IntKind.wrap .i64 (a4Q+1)),(a.2.1.fnodes),(a.2.1.fdepth),(a.2.1.fe),(a.2.1.fform),(a.2.1.fnamed),a.2.2) i)))))∧
 (¬(a4Q < v7)→
 a1F a3A a3B a3C a3D a3E a2j H K)
def a5I (x0:Sl) (x1:Int) (x2:p1) (a:(List ByteArray)) (H:Hp) (K:Bool→p1→(List ByteArray)→Hp→Prop):Prop:=
 TL ((0,x2.fnodes,x2.fdepth,x2.fe,x2.fform,x2.fnamed,a):Int×Int×Int×Int×Bool×Bool×(List ByteArray)) H fun (s:Int×Int×Int×Int×Bool×Bool×(List ByteArray)) H n2=>a1G x1 x0 (x0.n:Int) s.1 s.2.1 s.2.2.1 s.2.2.2.1 s.2.2.2.2.1 s.2.2.2.2.2.1 s.2.2.2.2.2.2 H n2 K
theorem b2e (x0 x1 x2 ai) {H K} (h:a5I x0 x1 x2 ai H K):a1k x0 x1 x2 ai H K:=by
 intro g2 g2b g3 az ba bb
 refine Ct.of fun w0 w ps0 H0 R E I hR=>c7J ?_
 unfold a5I at h
 unfold d1p
 have hj1:∀(a9q:Int) (a9r:Int) (a9s:Int) (a9t:Bool) (a9u:Bool) (a8w:(List ByteArray)) (b1Q:Sl) (b1R:Frag) H w (_:RowL 9 1 M1 b1Q a8w b1R) (_:Inv w0 ps0 H0 H [bx g2 80 [(Value.pointer (some ⟨g2b,0,none⟩))],bx g2b 79 [(vi a9q),(vi a9r),(vi a9s),(vB a9t),(vB a9u),(vs b1Q)],bx g3 169 [(Value.func (.func 118) #[] #[(Value.pointer (some ⟨g2,0,none⟩)),(Value.pointer (some ⟨g3,0,none⟩))])],b1R] w) (_:a1F a9q a9r a9s a9t a9u a8w H K),b6K w R E:=by
  intro a9q a9r a9s a9t a9u a8w b1Q b1R H w c4k I h
  unfold b6K
  intro _
  unfold a1F at h
  exact hR _ H _ _ ((((I.bring 2).bring 3).bring 3).bring 3) ⟨true,(p1.mk a9q a9r a9s a9t a9u (Sl.mk none 0 0)),a8w,b1Q,b1R,rfl,rfl,c4k,h⟩
 refine r9 fun j1 hx1=>?_
 refine a7 (b0G _ _ _) ?_
 obtain ⟨aj,z,bc,bd⟩:=h
 refine B0 (J:=fun n l w=>∃(s:Int×Int×Int×Int×Bool×Bool×(List ByteArray)) (H:Hp) (b0e:Sl) (b0f:Frag),n=z s∧l=(match s with | (a4Q,a3A,a3B,a3C,a3D,a3E,a2j)=>[(vi a4Q)])∧(match s with | (a4Q,a3A,a3B,a3C,a3D,a3E,a2j)=>RowL 9 1 M1 b0e a2j b0f)∧(match s with | (a4Q,a3A,a3B,a3C,a3D,a3E,a2j)=>Inv w0 ps0 H0 H [bx g2 80 [(Value.pointer (some ⟨g2b,0,none⟩))],bx g2b 79 [(vi a3A),(vi a3B),(vi a3C),(vB a3D),(vB a3E),(vs b0e)],bx g3 169 [(Value.func (.func 118) #[] #[(Value.pointer (some ⟨g2,0,none⟩)),(Value.pointer (some ⟨g3,0,none⟩))])],b0f] w)∧aj s H) ⟨_,(0,x2.fnodes,x2.fdepth,x2.fe,x2.fform,x2.fnamed,ai),H,az,ba,rfl,rfl,bb,((((I.bring 2).bring 3).bring 3).bring 3),bc⟩ ?_
 rintro bj bk w next2 ⟨⟨a4Q,a3A,a3B,a3C,a3D,a3E,a2j⟩,H,b0e,b0f,rfl,ak,b3Q,I,be⟩ hn2
 dsimp only at ak I b3Q
 simp only [List.map_cons,List.map_nil,List.cons.injEq,and_true] at ak
 have e11:=ak
 simp only [e11]
 obtain ⟨n2,hm2,h⟩:∃n2:(Int×Int×Int×Int×Bool×Bool×(List ByteArray))→Hp→Prop,(∀s' H',n2 s' H'→aj s' H'∧z s' < z (a4Q,a3A,a3B,a3C,a3D,a3E,a2j))∧a1G x1 x0 (x0.n:Int) a4Q a3A a3B a3C a3D a3E a2j H n2 K:=⟨_,fun _ _ h=>h,bd (a4Q,a3A,a3B,a3C,a3D,a3E,a2j) H (fun s' H'=>aj s' H'∧z s' < z (a4Q,a3A,a3B,a3C,a3D,a3E,a2j)) be (fun _ _ a b=>⟨a,b⟩)⟩
 unfold c1t
 unfold a1G at h
 refine a7 pLs ?_
 refine l7 h (fun _ h=>?_) (fun _ h=>?_)
 ·obtain ⟨bf,bg,bh,al,h⟩:=h
  obtain ⟨bl,bm,bi,al⟩:=al
  refine a7 (c3B bi _ _ _ _ bf bg) (g5 (ld1 (v:=(L1 bh)) Tryz.isAgg131 (I.atH al)) ?_)
  refine P3 I fun bn ao=>?_
  refine t8 (l1 Tryz.isAgg80 ao rfl) ?_
  refine g6 Tryz.call119 (h g2b b0e b0f b3Q) ((ao.bring 3).bring 2) ?_
  rintro _ ap _ aq o _ _ ⟨p,aa,am,ac,ad,rfl,rfl,ar,h⟩
  refine o7 (K5 _) ?_
  simp only [q9]
  refine o7 (Pu.g fun c=>by simp only [k7 c];with_reducible exact pAd) ?_
  refine t8 (Ld.g fun c=>by exact (l1 Tryz.isAgg169 (o.bring 3) rfl)) ?_
  refine G6 (D:=fun au u=>∃(ab:Sl) (k:Hp),au=(gv (!p) false (vs ab))∧(Inv w0 ps0 H0 k [bx g2b 79 (a2A aa ac),ad,bx g2 80 [(Value.pointer (some ⟨g2b,0,none⟩))],bx g3 169 [(Value.func (.func 118) #[] #[(Value.pointer (some ⟨g2,0,none⟩)),(Value.pointer (some ⟨g3,0,none⟩))])]] u)∧(∀i,i < aq.heap.size→¬inF [] i→u.heap[i]? = aq.heap[i]?)∧Hle ap k∧(TG ((!p)=false) (fun k_=>a1k ab (IntKind.wrap .i64 (x1+1)) (a1V aa) am k fun m d j H_=>k_ (m,d,j) H_) (false,(a1V aa),am) k (fun (e:Bool×p1×(List ByteArray)) (f:Hp)=>
 (((!p)||(!e.1))=true→
 K false (p1.mk (e.2.1.fnodes) (e.2.1.fdepth) (e.2.1.fe) (e.2.1.fform) (e.2.1.fnamed) (Sl.mk none 0 0)) e.2.2 f)∧
 (((!p)||(!e.1))=false→
 n2 ((IntKind.wrap .i64 (a4Q+1)),(e.2.1.fnodes),(e.2.1.fdepth),(e.2.1.fe),(e.2.1.fform),(e.2.1.fnamed),e.2.2) f)))) (fun y=>?_) (fun y=>?_) ?_
  ·replace h:=h.1 y
   have c:=y
   simp only [k7 c]
   refine b2d o h (fun ab k u ae av an h=>?_)
   exact ⟨ab,k,by rfl,ae,an,av,h⟩
  ·exact ⟨(Sl.mk none 0 0),ap,by rw [R9 y],o,fun _ _ _=>rfl,Hle.refl _,h.2 y⟩
  ·clear h
   rintro au u ⟨ab,k,rfl,ae,an,av,h⟩
   refine ⟨(an _ (o.bring 3).lt1 (Inv.a1B (Fi:=[]) (o.bring 3))),?_⟩
   refine G6 (D:=fun aw af=>∃(m:Bool) (d:p1) (j:(List ByteArray)) (f:Hp) (q:Sl) (r:Frag),aw=(gv (!p) false (vB m))∧(RowL 9 1 M1 q j r)∧(Inv w0 ps0 H0 f [bx g2 80 [(Value.pointer (some ⟨g2b,0,none⟩))],bx g2b 79 (a2A d q),r,bx g3 169 [(Value.func (.func 118) #[] #[(Value.pointer (some ⟨g2,0,none⟩)),(Value.pointer (some ⟨g3,0,none⟩))])]] af)∧(∀i,i < u.heap.size→¬inF [bx g2 80 [(Value.pointer (some ⟨g2b,0,none⟩))],bx g2b 79 (a2A aa ac),ad,bx g3 169 [(Value.func (.func 118) #[] #[(Value.pointer (some ⟨g2,0,none⟩)),(Value.pointer (some ⟨g3,0,none⟩))])]] i→af.heap[i]? = u.heap[i]?)∧Hle k f∧((((!p)||(!m))=true→
 K false (a1V d) j f)∧
 (((!p)||(!m))=false→
 n2 ((IntKind.wrap .i64 (a4Q+1)),d.fnodes,d.fdepth,d.fe,d.fform,d.fnamed,j) f))) (fun t=>?_) (fun t=>?_) ?_
   ·replace h:=h.1 t
    have c:=t
    simp only [k7 c]
    refine a8N (cap:=[(Value.pointer (some ⟨g2,0,none⟩)),(Value.pointer (some ⟨g3,0,none⟩))]) Tryz.call118 (h g2 g2b g3 ac ad ar) ((((ae.bring 3).bring 2).bring 2).bring 3) ?_
    rintro _ f _ af ag ax ay ⟨m,d,j,q,r,rfl,rfl,ah,h⟩
    exact ⟨m,d,j,f,q,r,by rfl,ah,ag,ay,ax,h⟩
   ·exact ⟨false,(a1V aa),am,k,ac,ad,by rw [R9 t],ar,((((ae.bring 3).bring 2).bring 2).bring 3),fun _ _ _=>rfl,Hle.refl _,h.2 t⟩
   ·clear h
    rintro aw af ⟨m,d,j,f,q,r,rfl,ah,ag,ay,ax,h⟩
    refine o7 (Pu.g fun c=>by simp only [k7 c];with_reducible exact (K5 _)) ?_
    refine o7 (B5 _ _) ?_
    refine m0 h (fun _ h=>?_) (fun _ h=>?_)
    ·exact hR _ f _ _ ((((ag.bring 3).bring 3).bring 3).bring 3) ⟨false,(a1V d),j,q,r,rfl,rfl,ah,h⟩
    ·refine a7 pAd ?_
     exact hn2 _ _ _ (hm2 _ _ h).2 ⟨((IntKind.wrap .i64 (a4Q+1)),d.fnodes,d.fdepth,d.fe,d.fform,d.fnamed,j),f,q,r,rfl,rfl,ah,((((ag.bring 2).bring 3).bring 3).bring 3),(hm2 _ _ h).1⟩
 ·exact hx1 _ _ (hj1 a3A a3B a3C a3D a3E a2j b0e b0f H _ b3Q ((((I.bring 3).bring 3).bring 3).bring 3) h)
def a6D [PanQ] (x0:a8) (x1:ByteArray) (H:Hp) (K:a8→Hp→Prop):Prop:=
 v6 x0 x1 H (fun b a c=>
 ((!b)=true→
 E9 a c (fun d=>
 K a d))∧
 ((!b)=false→
 K a c))
theorem b0o [PanQ] (x0:a8) (x1:ByteArray) {H:Hp} {K:a8→Hp→Prop} (h:a6D x0 x1 H K):C7 x0 x1 H K:=by
 intro g0
 refine Ct.ofE fun w0 w ps0 H0 R E I hR hE=>c7v ?_
 unfold a6D at h
 unfold d1b
 refine g6 Tryz.call105 (h g0) I ?_
 rintro _ c _ f a _ _ ⟨g,b,rfl,rfl,h⟩
 refine a7 (K5 _) ?_
 refine m0 h (fun _ h=>?_) (fun _ h=>?_)
 ·refine z8 hE Tryz.call52 (h g0) a ?_
  rintro _ d _ i e _ _ ⟨rfl,rfl,h⟩
  exact hR _ d _ _ e ⟨b,rfl,rfl,h⟩
 ·exact hR _ c _ _ a ⟨b,rfl,rfl,h⟩
def a0v [PanQ] (o9:a8) (a:b6) (b:b6) (H:Hp) (K:b6→a8→Hp→Prop):Prop:=
 K a (a8.mk o9.fl (IntKind.wrap .i64 (o9.fn+1))) H
def a6E [PanQ] (x0:a8) (H:Hp) (K:b6→a8→Hp→Prop):Prop:=
 z7 x0 H (fun a b=>
 (a.d8=5→
 E9 x0 b (fun c=>
 a0v x0 a (b6.mk 0 ⟨#[]⟩ 0 (b7.mk 0 0)) c K))∧
 (¬(a.d8=5)→
 a0v x0 a (b6.mk 0 ⟨#[]⟩ 0 (b7.mk 0 0)) b K))
theorem b0p [PanQ] (x0:a8) {H:Hp} {K:b6→a8→Hp→Prop} (h:a6E x0 H K):S3 x0 H K:=by
 intro g0
 refine Ct.ofE fun w0 w ps0 H0 R E I hR hE=>c7w ?_
 unfold a6E at h
 unfold d1c
 refine m9 I Tryz.zeroValue103 (cs:=[(vi 0),(eS),(vi 0),(vi 0),(vi 0)]) rfl fun c n g p=>?_
 refine g6 Tryz.call51 (h g0) (g.bring 1) ?_
 rintro _ i _ q j _ _ ⟨a,rfl,rfl,h⟩
 refine m9 j Tryz.zeroValue103 (cs:=[(vi 0),(eS),(vi 0),(vi 0),(vi 0)]) rfl fun d r k s=>?_
 refine f8 k Tryz.sizeOf103 (vs:=(f9 a)) (cs':=(f9 a)) rfl rfl (nb rfl) rfl rfl fun t b u=>?_
 have hj1:∀H w (_:Inv w0 ps0 H0 H [bx g0 101 (d9 x0),bx d 103 (f9 a),bx c 103 [(vi (b6.mk 0 ⟨#[]⟩ 0 (b7.mk 0 0)).d8),(Value.string (b6.mk 0 ⟨#[]⟩ 0 (b7.mk 0 0)).A0),(vi (b6.mk 0 ⟨#[]⟩ 0 (b7.mk 0 0)).F0),(vi (b6.mk 0 ⟨#[]⟩ 0 (b7.mk 0 0)).fAt.o8),(vi (b6.mk 0 ⟨#[]⟩ 0 (b7.mk 0 0)).fAt.s6)]] w) (_:a0v x0 a (b6.mk 0 ⟨#[]⟩ 0 (b7.mk 0 0)) H K),b6B (Value.pointer (some ⟨g0,0,none⟩)) (Value.pointer (some ⟨c,0,none⟩)) (Value.pointer (some ⟨d,0,none⟩)) w R E:=by
  intro H w I h
  unfold b6B
  intro _
  unfold a0v at h
  refine a7 (o5 _) (a7 a5G (g5 (l1 Tryz.isAgg3 I rfl) (a7 pAd (a7 (o5 _) ?_))))
  refine a7 a5G ?_
  refine f8 I Tryz.sizeOf3 (vs:=[(vi (IntKind.wrap .i64 (x0.fn+1)))]) (cs':=[(vs x0.fl),(vi (IntKind.wrap .i64 (x0.fn+1)))]) rfl rfl (nb rfl) rfl rfl fun v e y=>?_
  refine g5 (lW Tryz.isAgg103 Tryz.sizeOf103 rfl (e.bring 1)) ?_
  refine f8 (e.bring 2) Tryz.sizeOf103 (vs:=(f9 a)) (cs':=(f9 a)) rfl rfl (nb rfl) rfl rfl fun z f aa=>?_
  refine o4 Tryz.isAgg103 Tryz.sizeOf103 rfl (f.at1 (o:=0) (vs:=(f9 a)) (nb rfl) rfl) ?_
  exact hR _ H _ _ (f.drop.bring 1).drop ⟨a,(a8.mk x0.fl (IntKind.wrap .i64 (x0.fn+1))),rfl,rfl,h⟩
 refine r9 fun j1 hx1=>?_
 refine a7 a0I (g5 (l1 Tryz.isAgg3 b rfl) (a7 pEq ?_))
 refine l7 h (fun _ h=>?_) (fun _ h=>?_)
 ·refine z8 hE Tryz.call52 (h g0) (b.bring 1) ?_
  rintro _ l _ ab m _ _ ⟨rfl,rfl,h⟩
  exact hx1 _ _ (hj1 l _ (((m.bring 2).bring 2).bring 2) h)
 ·exact hx1 _ _ (hj1 i _ (((b.bring 2).bring 1).bring 2) h)
def U6 [PanQ] (o9:a8) (d:b6) (H:Hp) (K:b6→a8→Hp→Prop):Prop:=
 S3 o9 H (fun a b c=>
 K a b c)
def a6F [PanQ] (x0:a8) (x1:Int) (H:Hp) (K:b6→a8→Hp→Prop):Prop:=
 z7 x0 H (fun a b=>
 (¬(a.d8=x1)→
 E9 x0 b (fun c=>
 U6 x0 (b6.mk 0 ⟨#[]⟩ 0 (b7.mk 0 0)) c K))∧
 (a.d8=x1→
 U6 x0 (b6.mk 0 ⟨#[]⟩ 0 (b7.mk 0 0)) b K))
theorem b0q [PanQ] (x0:a8) (x1:Int) {H:Hp} {K:b6→a8→Hp→Prop} (h:a6F x0 x1 H K):a3w x0 x1 H K:=by
 intro g0
 refine Ct.ofE fun w0 w ps0 H0 R E I hR hE=>c7u ?_
 unfold a6F at h
 unfold d1a
 refine m9 I Tryz.zeroValue103 (cs:=[(vi 0),(eS),(vi 0),(vi 0),(vi 0)]) rfl fun b m e n=>?_
 have hj1:∀H w (_:Inv w0 ps0 H0 H [bx g0 101 (d9 x0),bx b 103 [(vi (b6.mk 0 ⟨#[]⟩ 0 (b7.mk 0 0)).d8),(Value.string (b6.mk 0 ⟨#[]⟩ 0 (b7.mk 0 0)).A0),(vi (b6.mk 0 ⟨#[]⟩ 0 (b7.mk 0 0)).F0),(vi (b6.mk 0 ⟨#[]⟩ 0 (b7.mk 0 0)).fAt.o8),(vi (b6.mk 0 ⟨#[]⟩ 0 (b7.mk 0 0)).fAt.s6)]] w) (_:U6 x0 (b6.mk 0 ⟨#[]⟩ 0 (b7.mk 0 0)) H K),b6A (Value.pointer (some ⟨g0,0,none⟩)) (Value.pointer (some ⟨b,0,none⟩)) w R E:=by
  intro H w I h
  unfold b6A
  intro _
  unfold U6 at h
  refine z8 hE Tryz.call104 (h g0) I ?_
  rintro _ f _ p g _ _ ⟨a,i,rfl,rfl,h⟩
  refine f8 (g.bring 1) Tryz.sizeOf103 (vs:=(f9 a)) (cs':=(f9 a)) rfl rfl (nb rfl) rfl rfl fun q c r=>?_
  refine o4 Tryz.isAgg103 Tryz.sizeOf103 rfl (c.at1 (o:=0) (vs:=(f9 a)) (nb rfl) rfl) ?_
  exact hR _ f _ _ c.drop ⟨a,i,rfl,rfl,h⟩
 refine r9 fun j1 hx1=>?_
 refine g6 Tryz.call51 (h g0) (e.bring 1) ?_
 rintro _ j _ s d _ _ ⟨t,rfl,rfl,h⟩
 refine a7 a7d (a7 pNe ?_)
 refine Z9 h (fun _ h=>?_) (fun _ h=>?_)
 ·refine z8 hE Tryz.call52 (h g0) d ?_
  rintro _ k _ u l _ _ ⟨rfl,rfl,h⟩
  exact hx1 _ _ (hj1 k _ ((l.bring 1).bring 1) h)
 ·exact hx1 _ _ (hj1 j _ ((d.bring 1).bring 1) h)
def a4U (x0:a8) (H:Hp) (K:Bool→Hp→Prop):Prop:=
 K6 x0 H (fun a d=>
 TG (a=false) (m5 x0 ⟨#[116,114,117,101]⟩ d) false d (fun (b:Bool) (e:Hp)=>
 TG ((a||b)=false) (m5 x0 ⟨#[102,97,108,115,101]⟩ e) false e (fun (c:Bool) (f:Hp)=>
 TG (((a||b)||c)=false) (m5 x0 ⟨#[33]⟩ f) false f (fun (g:Bool) (i:Hp)=>
 TG ((((a||b)||c)||g)=false) (m5 x0 ⟨#[91]⟩ i) false i (fun (j:Bool) (k:Hp)=>
 K ((((a||b)||c)||g)||j) k)))))
theorem a8E (x0) {H K} (h:a4U x0 H K):R7 x0 H K:=by
 intro g0
 refine Ct.of fun w0 w ps0 H0 R E I hR=>c7Q ?_
 unfold a4U at h
 unfold d1w
 refine g6 Tryz.call141 (h g0) I ?_
 rintro _ aa _ ab ac _ _ ⟨c,rfl,rfl,h⟩
 simp only [q9]
 refine G6 (D:=fun ad q=>∃(a:Bool) (l:Hp),ad=(gv c false (vB a))∧(Inv w0 ps0 H0 l [bx g0 101 (d9 x0)] q)∧(∀i,i < ab.heap.size→¬inF [bx g0 101 (d9 x0)] i→q.heap[i]? = ab.heap[i]?)∧Hle aa l∧(TG ((c||a)=false) (m5 x0 ⟨#[102,97,108,115,101]⟩ l) false l (fun (b:Bool) (g:Hp)=>
 TG (((c||a)||b)=false) (m5 x0 ⟨#[33]⟩ g) false g (fun (d:Bool) (e:Hp)=>
 TG ((((c||a)||b)||d)=false) (m5 x0 ⟨#[91]⟩ e) false e (fun (j:Bool) (f:Hp)=>
 K ((((c||a)||b)||d)||j) f))))) (fun m=>?_) (fun m=>?_) ?_
 ·replace h:=h.1 m
  have k:=m
  simp only [k7 k]
  refine g6 Tryz.call53 (h g0) ac ?_
  rintro _ l _ q t ae af ⟨a,rfl,rfl,h⟩
  exact ⟨a,l,by rfl,t,af,ae,h⟩
 ·exact ⟨false,aa,by rw [R9 m],ac,fun _ _ _=>rfl,Hle.refl _,h.2 m⟩
 ·clear h
  rintro ad q ⟨a,l,rfl,t,af,ae,h⟩
  refine a7 (B5 _ _) ?_
  simp only [q9]
  refine G6 (D:=fun ag r=>∃(b:Bool) (g:Hp),ag=(gv (c||a) false (vB b))∧(Inv w0 ps0 H0 g [bx g0 101 (d9 x0)] r)∧(∀i,i < q.heap.size→¬inF [bx g0 101 (d9 x0)] i→r.heap[i]? = q.heap[i]?)∧Hle l g∧(TG (((c||a)||b)=false) (m5 x0 ⟨#[33]⟩ g) false g (fun (d:Bool) (e:Hp)=>
 TG ((((c||a)||b)||d)=false) (m5 x0 ⟨#[91]⟩ e) false e (fun (j:Bool) (f:Hp)=>
 K ((((c||a)||b)||d)||j) f)))) (fun n=>?_) (fun n=>?_) ?_
  ·replace h:=h.1 n
   have k:=n
   simp only [k7 k]
   refine g6 Tryz.call53 (h g0) t ?_
   rintro _ g _ r u ah ai ⟨b,rfl,rfl,h⟩
   exact ⟨b,g,by rfl,u,ai,ah,h⟩
  ·exact ⟨false,l,by rw [R9 n],t,fun _ _ _=>rfl,Hle.refl _,h.2 n⟩
  ·clear h
   rintro ag r ⟨b,g,rfl,u,ai,ah,h⟩
   refine a7 (B5 _ _) ?_
   simp only [q9]
   refine G6 (D:=fun aj s=>∃(d:Bool) (e:Hp),aj=(gv ((c||a)||b) false (vB d))∧(Inv w0 ps0 H0 e [bx g0 101 (d9 x0)] s)∧(∀i,i < r.heap.size→¬inF [bx g0 101 (d9 x0)] i→s.heap[i]? = r.heap[i]?)∧Hle g e∧(TG ((((c||a)||b)||d)=false) (m5 x0 ⟨#[91]⟩ e) false e (fun (j:Bool) (f:Hp)=>
 K ((((c||a)||b)||d)||j) f))) (fun o=>?_) (fun o=>?_) ?_
   ·replace h:=h.1 o
    have k:=o
    simp only [k7 k]
    refine g6 Tryz.call53 (h g0) u ?_
    rintro _ e _ s v ak al ⟨d,rfl,rfl,h⟩
    exact ⟨d,e,by rfl,v,al,ak,h⟩
   ·exact ⟨false,g,by rw [R9 o],u,fun _ _ _=>rfl,Hle.refl _,h.2 o⟩
   ·clear h
    rintro aj s ⟨d,e,rfl,v,al,ak,h⟩
    refine a7 (B5 _ _) ?_
    simp only [q9]
    refine G6 (D:=fun am y=>∃(j:Bool) (f:Hp),am=(gv (((c||a)||b)||d) false (vB j))∧(Inv w0 ps0 H0 f [bx g0 101 (d9 x0)] y)∧(∀i,i < s.heap.size→¬inF [bx g0 101 (d9 x0)] i→y.heap[i]? = s.heap[i]?)∧Hle e f∧(K ((((c||a)||b)||d)||j) f)) (fun p=>?_) (fun p=>?_) ?_
    ·replace h:=h.1 p
     have k:=p
     simp only [k7 k]
     refine g6 Tryz.call53 (h g0) v ?_
     rintro _ f _ y z an ao ⟨j,rfl,rfl,h⟩
     exact ⟨j,f,by rfl,z,ao,an,h⟩
    ·exact ⟨false,e,by rw [R9 p],v,fun _ _ _=>rfl,Hle.refl _,h.2 p⟩
    ·clear h
     rintro am y ⟨j,f,rfl,z,ao,an,h⟩
     refine a7 (B5 _ _) ?_
     exact hR _ f _ _ z ⟨((((c||a)||b)||d)||j),rfl,rfl,h⟩
def W2 [PanQ] (T5:Int) (o9:a8) (o:c8) (H:Hp) (K:c8→a8→Hp→Prop):Prop:=
 O5 o9 T5 H (fun d e f=>
 a2b e f (fun g i j=>
 O5 i T5 j (fun k l m=>
 ∀(a:Sl) (b:Hp),Hle m b→SlH b 4 d7 a [d,k]→a.n≤a.c→
 K (c8.mk 3 g a (Sl.mk none 0 0)) l b)))
def a3W [PanQ] (x0:a8) (x1:Int) (H:Hp) (K:c8→a8→Hp→Prop):Prop:=
 R7 x0 H (fun f g=>
 ((!f)=true→
 E9 x0 g (fun t=>
 W2 x1 x0 (c8.mk 0 0 (Sl.mk none 0 0) (Sl.mk none 0 0)) t K))∧
 ((!f)=false→
 v6 x0 ⟨#[116,114,117,101]⟩ g (fun i j k=>
 (i=true→
 K (c8.mk 1 0 (Sl.mk none 0 0) (Sl.mk none 0 0)) j k)∧
 (i=false→
 v6 j ⟨#[102,97,108,115,101]⟩ k (fun l m o=>
 (l=true→
 K (c8.mk 2 0 (Sl.mk none 0 0) (Sl.mk none 0 0)) m o)∧
 (l=false→
 v6 m ⟨#[33]⟩ o (fun p a q=>
 (p=true→
 R7 a q (fun u v=>
 D3 a (IntKind.wrap .i64 (x1+1)) u v (fun y=>
 a0f a (IntKind.wrap .i64 (x1+1)) y (fun z aa ab=>
 ∀(b:Sl) (e:Hp),Hle ab e→SlH e 4 f7 b [z]→b.n≤b.c→
 K (c8.mk 4 0 (Sl.mk none 0 0) b) aa e))))∧
 (p=false→
 v6 a ⟨#[91]⟩ q (fun r d s=>
 (r=true→
 R7 d s (fun ac ad=>
 D3 d (IntKind.wrap .i64 (x1+1)) ac ad (fun ae=>
 L4 d (IntKind.wrap .i64 (x1+1)) ae (fun af ag ah=>
 C7 ag ⟨#[93]⟩ ah (fun ai aj=>
 K af ai aj)))))∧
 (r=false→
 W2 x1 d (c8.mk 0 0 (Sl.mk none 0 0) (Sl.mk none 0 0)) s K))))))))))
theorem b0H [PanQ] (x0:a8) (x1:Int) {H:Hp} {K:c8→a8→Hp→Prop} (h:a3W x0 x1 H K):a0f x0 x1 H K:=by
 intro g0
 refine Ct.ofE fun w0 w ps0 H0 R E I hR hE=>d0S ?_
 unfold a3W at h
 unfold F89
 refine m9 I Tryz.zeroValue49 (cs:=[(vi 0),(vi 0),(nS),(nS)]) rfl fun k bu ac bv=>?_
 have hj1:∀(o9:a8) H w (_:Inv w0 ps0 H0 H [bx g0 101 (d9 o9),bx k 49 [(vi (c8.mk 0 0 (Sl.mk none 0 0) (Sl.mk none 0 0)).d8),(vi (c8.mk 0 0 (Sl.mk none 0 0) (Sl.mk none 0 0)).fOp),(Value.slice (c8.mk 0 0 (Sl.mk none 0 0) (Sl.mk none 0 0)).o0.a (c8.mk 0 0 (Sl.mk none 0 0) (Sl.mk none 0 0)).o0.n (c8.mk 0 0 (Sl.mk none 0 0) (Sl.mk none 0 0)).o0.c),(Value.slice (c8.mk 0 0 (Sl.mk none 0 0) (Sl.mk none 0 0)).t7.a (c8.mk 0 0 (Sl.mk none 0 0) (Sl.mk none 0 0)).t7.n (c8.mk 0 0 (Sl.mk none 0 0) (Sl.mk none 0 0)).t7.c)]] w) (_:W2 x1 o9 (c8.mk 0 0 (Sl.mk none 0 0) (Sl.mk none 0 0)) H K),b9K (Value.pointer (some ⟨g0,0,none⟩)) (vi x1) (Value.pointer (some ⟨k,0,none⟩)) w R E:=by
  intro o9 H w I h
  unfold b9K
  intro _
  unfold W2 at h
  refine z8 hE Tryz.call35 (h g0) I ?_
  rintro _ _ _ bw ad _ _ ⟨j,bz,rfl,rfl,h⟩
  refine m9 ad Tryz.zeroValue40 (cs:=[(vi 0),(vi 0),(eS),(nS)]) rfl fun ca cb ae cc=>?_
  refine f8 ae Tryz.sizeOf40 (vs:=(d7 j)) (cs':=(d7 j)) rfl rfl (nb rfl) rfl rfl fun cd af ce=>?_
  refine z8 hE Tryz.call126 (h g0) (af.bring 1) ?_
  rintro _ _ _ cf ag _ _ ⟨g,ah,rfl,rfl,h⟩
  refine P3 ag fun cg i=>?_
  refine t8 (lW Tryz.isAgg40 Tryz.sizeOf40 rfl (i.bring 1)) ?_
  refine z8 hE Tryz.call35 (h g0) i ?_
  rintro _ _ _ ch ai _ aj ⟨ak,al,rfl,rfl,h⟩
  refine ⟨(aj _ (i.bring 1).lt1 (Inv.a1B (Fi:=[bx g0 101 (d9 ah)]) ((i.bring 1).bring 1))),?_⟩
  refine V9 (e:=40) (c:=d7) (xs:=[j,ak]) ai (b2m _ _ _ _ _ _ _ _ _ _ _ _) rfl rfl N2 N3 (nb rfl) fun d ci cj am an ck=>?_
  refine o7 (b1N _ _ _ _ _) ?_
  refine f8 (an.bring 3) Tryz.sizeOf49 (vs:=[(vi 3),(vi g),(vs d),(nS)]) (cs':=[(vi 3),(vi g),(vs d),(nS)]) rfl rfl (nb rfl) rfl rfl fun cl l cm=>?_
  refine o4 Tryz.isAgg49 Tryz.sizeOf49 rfl (l.at1 (o:=0) (vs:=[(vi 3),(vi g),(vs d),(nS)]) (nb rfl) rfl) ?_
  obtain ⟨m,ao,ap,aq,ar⟩:=Inv.freezeC (l.bring 1) am (by decide)
  replace h:=h d m ap aq ar
  exact hR _ m _ _ (ao.drop.bring 1).drop ⟨(c8.mk 3 g d (Sl.mk none 0 0)),al,rfl,rfl,h⟩
 refine r9 fun j1 hx1=>?_
 refine g6 Tryz.call125 (h g0) (ac.bring 1) ?_
 rintro _ _ _ cn p _ _ ⟨co,rfl,rfl,h⟩
 refine a7 (K5 _) ?_
 refine m0 h (fun _ h=>?_) (fun _ h=>?_)
 ·refine z8 hE Tryz.call52 (h g0) p ?_
  rintro _ au _ cp av _ _ ⟨rfl,rfl,h⟩
  exact hx1 _ _ (hj1 x0 au _ ((av.bring 1).bring 1) h)
 ·refine g6 Tryz.call105 (h g0) p ?_
  rintro _ aw _ cq q _ _ ⟨cr,ax,rfl,rfl,h⟩
  refine m0 h (fun _ h=>?_) (fun _ h=>?_)
  ·refine a7 (a9N _) ?_
   refine f8 (q.bring 1) Tryz.sizeOf49 (vs:=[(vi 1),(vi 0),(nS),(nS)]) (cs':=[(vi 1),(vi 0),(nS),(nS)]) rfl rfl (nb rfl) rfl rfl fun ct r cu=>?_
   refine o4 Tryz.isAgg49 Tryz.sizeOf49 rfl (r.at1 (o:=0) (vs:=[(vi 1),(vi 0),(nS),(nS)]) (nb rfl) rfl) ?_
   exact hR _ aw _ _ r.drop ⟨(c8.mk 1 0 (Sl.mk none 0 0) (Sl.mk none 0 0)),ax,rfl,rfl,h⟩
  ·refine g6 Tryz.call105 (h g0) q ?_
   rintro _ ay _ cv s _ _ ⟨cw,az,rfl,rfl,h⟩
   refine m0 h (fun _ h=>?_) (fun _ h=>?_)
   ·refine a7 (a9N _) ?_
    refine f8 (s.bring 1) Tryz.sizeOf49 (vs:=[(vi 2),(vi 0),(nS),(nS)]) (cs':=[(vi 2),(vi 0),(nS),(nS)]) rfl rfl (nb rfl) rfl rfl fun cx t cy=>?_
    refine o4 Tryz.isAgg49 Tryz.sizeOf49 rfl (t.at1 (o:=0) (vs:=[(vi 2),(vi 0),(nS),(nS)]) (nb rfl) rfl) ?_
    exact hR _ ay _ _ t.drop ⟨(c8.mk 2 0 (Sl.mk none 0 0) (Sl.mk none 0 0)),az,rfl,rfl,h⟩
   ·refine g6 Tryz.call105 (h g0) s ?_
    rintro _ _ _ cz u _ _ ⟨da,db,rfl,rfl,h⟩
    refine m0 h (fun _ h=>?_) (fun _ h=>?_)
    ·refine a7 pAd ?_
     refine g6 Tryz.call125 (h g0) u ?_
     rintro _ _ _ dc ba _ _ ⟨dd,rfl,rfl,h⟩
     refine z8 hE Tryz.call55 (h g0) ba ?_
     rintro _ _ _ de bb _ _ ⟨rfl,rfl,h⟩
     refine a7 pAd ?_
     refine z8 hE Tryz.call89 (h g0) bb ?_
     rintro _ _ _ df bc _ _ ⟨bd,be,rfl,rfl,h⟩
     refine V9 (e:=49) (c:=f7) (xs:=[bd]) bc (b0R _ _ _ _ _ _ _ _) rfl rfl V7 V8 (nb rfl) fun f dg dh bf bg di=>?_
     refine a7 (a6z _ _ _ _) ?_
     refine f8 (bg.bring 2) Tryz.sizeOf49 (vs:=[(vi 4),(vi 0),(nS),(vs f)]) (cs':=[(vi 4),(vi 0),(nS),(vs f)]) rfl rfl (nb rfl) rfl rfl fun dj v dk=>?_
     refine o4 Tryz.isAgg49 Tryz.sizeOf49 rfl (v.at1 (o:=0) (vs:=[(vi 4),(vi 0),(nS),(vs f)]) (nb rfl) rfl) ?_
     obtain ⟨y,bh,bi,bj,bk⟩:=Inv.freezeC (v.bring 1) bf (by decide)
     replace h:=h f y bi bj bk
     exact hR _ y _ _ bh.drop ⟨(c8.mk 4 0 (Sl.mk none 0 0) f),be,rfl,rfl,h⟩
    ·refine g6 Tryz.call105 (h g0) u ?_
     rintro _ bl _ dl z _ _ ⟨dm,bm,rfl,rfl,h⟩
     refine m0 h (fun _ h=>?_) (fun _ h=>?_)
     ·refine a7 pAd ?_
      refine g6 Tryz.call125 (h g0) z ?_
      rintro _ _ _ dn bn _ _ ⟨dp,rfl,rfl,h⟩
      refine z8 hE Tryz.call55 (h g0) bn ?_
      rintro _ _ _ dq bo _ _ ⟨rfl,rfl,h⟩
      refine a7 pAd ?_
      refine z8 hE Tryz.call41 (h g0) bo ?_
      rintro _ _ _ dr bp _ _ ⟨b,ds,rfl,rfl,h⟩
      refine m9 bp Tryz.zeroValue49 (cs:=[(vi 0),(vi 0),(nS),(nS)]) rfl fun dt du bq dv=>?_
      refine f8 bq Tryz.sizeOf49 (vs:=(f7 b)) (cs':=(f7 b)) rfl rfl (nb rfl) rfl rfl fun dw br dx=>?_
      refine z8 hE Tryz.call103 (h g0) (br.bring 1) ?_
      rintro _ bs _ dy aa _ _ ⟨bt,rfl,rfl,h⟩
      refine g5 (lW Tryz.isAgg49 Tryz.sizeOf49 rfl (aa.bring 1)) ?_
      refine f8 (aa.bring 2) Tryz.sizeOf49 (vs:=(f7 b)) (cs':=(f7 b)) rfl rfl (nb rfl) rfl rfl fun dz ab ea=>?_
      refine o4 Tryz.isAgg49 Tryz.sizeOf49 rfl (ab.at1 (o:=0) (vs:=(f7 b)) (nb rfl) rfl) ?_
      exact hR _ bs _ _ (ab.drop.bring 1).drop ⟨b,bt,rfl,rfl,h⟩
     ·exact hx1 _ _ (hj1 bm bl _ ((z.bring 1).bring 1) h)
def a4v (x0:g8) (a:(List b6)) (H:Hp) (K:ByteArray→Hp→Prop):Prop:=
 (0:Int)≤x0.fn∧(x0.fn:Int)≤x0.fs.size∧
 K (x0.fs.extract (x0.fn:Int).toNat x0.fs.size) H
theorem b1l (x0 b) {H K} (h:a4v x0 b H K):W1 x0 b H K:=by
 intro g0 e f g
 refine Ct.of fun w0 w ps0 H0 R E I hR=>c7W ?_
 unfold a4v at h
 unfold d1C
 refine P3 I fun i a=>?_
 refine o7 (o5 _) ?_
 refine o7 a8e ?_
 refine o7 (o5 _) ?_
 refine o7 a0K ?_
 refine t8 (l1 Tryz.isAgg9 a rfl) ?_
 refine t8 (l1 Tryz.isAgg3 a rfl) ?_
 obtain ⟨c,d,h⟩:=h
 refine o7 (c1i x0.fs Tryz.underlying9 c d) ?_
 exact hR _ H _ _ ((a.bring 1).bring 1) ⟨(x0.fs.extract (x0.fn:Int).toNat x0.fs.size),rfl,rfl,h⟩
def a1w (x0:ByteArray) (x1:ByteArray) (H:Hp) (K:Bool→Hp→Prop):Prop:=
 ((decide ((x1.size:Int)≤(x0.size:Int)))=true→(0:Int)≤(x1.size:Int)∧((x1.size:Int):Int)≤x0.size)∧
 K ((decide ((x1.size:Int)≤(x0.size:Int)))&&(decide ((x0.extract 0 ((x1.size:Int):Int).toNat)=x1))) H
theorem a8k (x0 x1) {H K} (h:a1w x0 x1 H K):a4o x0 x1 H K:=by
 refine Ct.of fun w0 w ps0 H0 R E I hR=>c8l ?_
 unfold a1w at h
 unfold d1R
 refine a7 (X3 _) (a7 (X3 _) (a7 pGe ?_))
 simp only [q9]
 refine a7 (Pu.g fun a=>by simp only [k7 a];with_reducible exact (X3 _)) ?_
 obtain ⟨b,h⟩:=h
 refine a7 (Pu.g fun hb=>by have a:=hb;simp only [k7 a];with_reducible exact (c1j x0 Tryz.underlying9 (b hb).1 (b hb).2)) ?_
 refine a7 (Pu.g fun a=>by simp only [k7 a];with_reducible exact (G5 _ _ _ _ _)) ?_
 refine a7 (u4 _ _) ?_
 exact hR _ H _ _ I ⟨((decide ((x1.size:Int)≤(x0.size:Int)))&&(decide ((x0.extract 0 ((x1.size:Int):Int).toNat)=x1))),rfl,rfl,h⟩
def a6M (x0:ByteArray) (x1:ByteArray) (H:Hp) (K:Bool→Hp→Prop):Prop:=
 a4o x0 x1 H (fun a b=>
 K a b)
theorem b3w (x0 x1) {H K} (h:a6M x0 x1 H K):a4P x0 x1 H K:=by
 refine Ct.of fun w0 w ps0 H0 R E I hR=>c7V ?_
 unfold a6M at h
 unfold d1B
 refine g6 Tryz.call153 h I ?_
 rintro _ a _ d b _ _ ⟨c,rfl,rfl,h⟩
 exact hR _ a _ _ b ⟨c,rfl,rfl,h⟩
def a2d (a:a3g) (o9:a8) (H:Hp) (K:Int→a8→Hp→Prop):Prop:=
 K 0 o9 H
def a0h (A9:Sl) (a0P:Int) (a:a3g) (v7:Int) (o6:a8) (H:Hp) (n2:(Int×a8)→Hp→Prop) (K:Int→a8→Hp→Prop):Prop:=
 (v7 < a0P→
 (0:Int)≤v7∧(v7:Int) < A9.n∧∃c:ByteArray,EltH H A9 v7 1 [(Value.string c)]∧
 v6 o6 c H (fun d e b=>
 (d=true→
 (0:Int)≤v7∧(v7:Int) < a.fkinds.n∧∃f:Int,EltH b a.fkinds v7 1 [(vi f)]∧
 K f e b)∧
 (d=false→
 n2 ((IntKind.wrap .i64 (v7+1)),e) b)))∧
 (¬(v7 < a0P)→
 a2d a o6 H K)
def a3j (x0:a8) (x1:a3g) (H:Hp) (K:Int→a8→Hp→Prop):Prop:=
 TL ((0,x0):Int×a8) H fun (s:Int×a8) H n2=>a0h x1.fsigns (x1.fsigns.n:Int) x1 s.1 s.2 H n2 K
theorem b0g (x0 x1) {H K} (h:a3j x0 x1 H K):a3i x0 x1 H K:=by
 intro g0
 refine Ct.of fun w0 w ps0 H0 R E I hR=>c7M ?_
 unfold a3j at h
 unfold d1s
 refine P2 I (cs:=(Z8 x1)) rfl fun j ae k af=>?_
 have hj1:∀(o9:a8) H w (_:Inv w0 ps0 H0 H [bx j 139 (Z8 x1),bx g0 101 (d9 o9)] w) (_:a2d x1 o9 H K),b6N w R E:=by
  intro o9 H w I h
  unfold b6N
  intro _
  unfold a2d at h
  exact hR _ H _ _ I.drop ⟨0,o9,rfl,rfl,h⟩
 refine r9 fun j1 hx1=>?_
 refine a7 c0S (g5 (l1 Tryz.isAgg77 k rfl) (a7 (c3D _ _ _) ?_))
 obtain ⟨e,c,q,r⟩:=h
 refine B0 (J:=fun n l w=>∃(s:Int×a8) (H:Hp),n=c s∧l=(match s with | (v7,o6)=>[(vi v7)])∧(match s with | (v7,o6)=>Inv w0 ps0 H0 H [bx j 139 (Z8 x1),bx g0 101 (d9 o6)] w)∧e s H) ⟨_,(0,x0),H,rfl,rfl,((k.bring 1).bring 1),q⟩ ?_
 rintro ag ah w next2 ⟨⟨v7,o6⟩,H,rfl,f,I,t⟩ hn2
 dsimp only at f I
 simp only [List.map_cons,List.map_nil,List.cons.injEq,and_true] at f
 have e10:=f
 simp only [e10]
 obtain ⟨n2,hm2,h⟩:∃n2:(Int×a8)→Hp→Prop,(∀s' H',n2 s' H'→e s' H'∧c s' < c (v7,o6))∧a0h x1.fsigns (x1.fsigns.n:Int) x1 v7 o6 H n2 K:=⟨_,fun _ _ h=>h,r (v7,o6) H (fun s' H'=>e s' H'∧c s' < c (v7,o6)) t (fun _ _ a b=>⟨a,b⟩)⟩
 unfold c1v
 unfold a0h at h
 refine a7 pLs ?_
 refine l7 h (fun _ h=>?_) (fun _ h=>?_)
 ·obtain ⟨u,y,z,g,h⟩:=h
  obtain ⟨ai,aj,aa,g⟩:=g
  refine a7 (b8Y aa _ _ _ _ u y) (g5 (ld1 (v:=(Value.string z)) Tryz.isAgg9 (I.atH g)) ?_)
  refine g6 Tryz.call105 (h g0) (I.bring 1) ?_
  rintro _ m _ ak d _ _ ⟨al,o,rfl,rfl,h⟩
  refine m0 h (fun _ h=>?_) (fun _ h=>?_)
  ·refine a7 c0T (g5 (l1 Tryz.isAgg137 (d.bring 1) rfl) ?_)
   obtain ⟨ab,ac,p,i,h⟩:=h
   obtain ⟨am,an,ad,i⟩:=i
   refine a7 (c3E ad _ _ _ _ ab ac) (g5 (ld1 (v:=(vi p)) Tryz.isAgg3 (d.atH i)) ?_)
   exact hR _ m _ _ (d.bring 1).drop ⟨p,o,rfl,rfl,h⟩
  ·refine a7 pAd ?_
   exact hn2 _ _ _ (hm2 _ _ h).2 ⟨((IntKind.wrap .i64 (v7+1)),o),m,rfl,rfl,(d.bring 1),(hm2 _ _ h).1⟩
 ·exact hx1 _ _ (hj1 o6 H _ ((I.bring 1).bring 1) h)
def B6 (a0b:Int) (u7:ByteArray) (u9:Int) (A4:b7) (D5:(List b6)) (H:Hp) (K:ByteArray→g8→(List b6)→Hp→Prop):Prop:=
 (0:Int)≤a0b∧(a0b:Int)≤u9∧(u9:Int)≤u7.size∧
 K (u7.extract (a0b:Int).toNat (u9:Int).toNat) (g8.mk u7 u9 A4 (Sl.mk none 0 0)) D5 H
def E6 (X5:Int) (C8:Int) (r8:Bool) (q7:ByteArray) (q8:Int) (p7:b7) (p9:(List b6)) (H:Hp) (n2:(Int×Bool×ByteArray×Int×b7×(List b6))→Hp→Prop) (K:ByteArray→g8→(List b6)→Hp→Prop):Prop:=
 TG (r8=true) (a4N C8 H) false H (fun (b:Bool) (c:Hp)=>
 ((r8&&b)=true→
 B9 (g8.mk q7 q8 p7 (Sl.mk none 0 0)) p9 c (fun a d e=>
 A6 (u1 a) d e (fun f g i=>
 n2 (f,g,a.fs,a.fn,a.fat,d) i)))∧
 ((r8&&b)=false→
 B6 X5 q7 q8 p7 p9 c K))
def S1 (x0:g8) (a:(List b6)) (H:Hp) (K:ByteArray→g8→(List b6)→Hp→Prop):Prop:=
 A6 (u1 x0) a H (fun b c d=>
 TL ((b,c,x0.fs,x0.fn,x0.fat,a):Int×Bool×ByteArray×Int×b7×(List b6)) d fun (s:Int×Bool×ByteArray×Int×b7×(List b6)) H n2=>E6 x0.fn s.1 s.2.1 s.2.2.1 s.2.2.2.1 s.2.2.2.2.1 s.2.2.2.2.2 H n2 K)
theorem a5e (x0 q) {H K} (h:S1 x0 q H K):S0 x0 q H K:=by
 intro g0 y z aa
 refine Ct.of fun w0 w ps0 H0 R E I hR=>b4t ?_
 unfold S1 at h
 unfold b9U
 refine a7 (o5 _) (a7 a0K (g5 (l1 Tryz.isAgg3 I rfl) ?_))
 have hj1:∀(u7:ByteArray) (u9:Int) (A4:b7) (D5:(List b6)) (X9:Sl) (O6:Frag) H w (_:RowL 103 5 f9 X9 D5 O6) (_:Inv w0 ps0 H0 H [bx g0 155 [(Value.string u7),(vi u9),(vi A4.o8),(vi A4.s6),(vs X9)],O6] w) (_:B6 x0.fn u7 u9 A4 D5 H K),a7H (Value.pointer (some ⟨g0,0,none⟩)) (vi x0.fn) w R E:=by
  intro u7 u9 A4 D5 X9 O6 H w a5J I h
  unfold a7H
  intro _
  unfold B6 at h
  refine P3 I fun ax r=>?_
  refine o7 (o5 _) ?_
  refine o7 a8e ?_
  refine o7 (o5 _) ?_
  refine o7 a0K ?_
  refine t8 (l1 Tryz.isAgg9 r rfl) ?_
  refine t8 (l1 Tryz.isAgg3 r rfl) ?_
  obtain ⟨ak,al,am,h⟩:=h
  refine o7 (a6g u7 Tryz.underlying9 ak al am) ?_
  exact hR _ H _ _ ((r.bring 1).bring 1) ⟨(u7.extract (x0.fn:Int).toNat (u9:Int).toNat),(g8.mk u7 u9 A4 (Sl.mk none 0 0)),D5,X9,O6,rfl,rfl,a5J,h⟩
 refine r9 fun j1 hx1=>?_
 refine g6 Tryz.call100 (h g0 y z aa) ((I.bring 1).bring 1) ?_
 rintro _ an _ ay ao _ _ ⟨ab,ac,rfl,rfl,h⟩
 refine a7 (g7 _ _ (Value.int .i32 ab) rfl) (a7 (g7 _ _ (vB ac) rfl) ?_)
 obtain ⟨t,g,ap,aq⟩:=h
 refine B0 (J:=fun n l w=>∃(s:Int×Bool×ByteArray×Int×b7×(List b6)) (H:Hp) (M4:Sl) (E8:Frag),n=g s∧l=(match s with | (C8,r8,q7,q8,p7,p9)=>[(Value.int .i32 C8),(vB r8)])∧(match s with | (C8,r8,q7,q8,p7,p9)=>RowL 103 5 f9 M4 p9 E8)∧(match s with | (C8,r8,q7,q8,p7,p9)=>Inv w0 ps0 H0 H [bx g0 155 [(Value.string q7),(vi q8),(vi p7.o8),(vi p7.s6),(vs M4)],E8] w)∧t s H) ⟨_,(ab,ac,x0.fs,x0.fn,x0.fat,q),an,y,z,rfl,rfl,aa,((ao.bring 1).bring 1),ap⟩ ?_
 rintro az ba w next2 ⟨⟨C8,r8,q7,q8,p7,p9⟩,H,M4,E8,rfl,u,T6,I,ar⟩ hn2
 dsimp only at u I T6
 simp only [List.map_cons,List.map_nil,List.cons.injEq,and_true] at u
 obtain ⟨e6,e7⟩:=u
 simp only [e6,e7]
 obtain ⟨n2,hm2,h⟩:∃n2:(Int×Bool×ByteArray×Int×b7×(List b6))→Hp→Prop,(∀s' H',n2 s' H'→t s' H'∧g s' < g (C8,r8,q7,q8,p7,p9))∧E6 x0.fn C8 r8 q7 q8 p7 p9 H n2 K:=⟨_,fun _ _ h=>h,aq (C8,r8,q7,q8,p7,p9) H (fun s' H'=>t s' H'∧g s' < g (C8,r8,q7,q8,p7,p9)) ar (fun _ _ a b=>⟨a,b⟩)⟩
 unfold b2t
 unfold E6 at h
 simp only [q9]
 refine G6 (D:=fun ad j=>∃(f:Bool) (c:Hp),ad=(gv r8 true (vB f))∧(Inv w0 ps0 H0 c [bx g0 155 [(Value.string q7),(vi q8),(vi p7.o8),(vi p7.s6),(vs M4)],E8] j)∧(∀i,i < w.heap.size→¬inF [] i→j.heap[i]? = w.heap[i]?)∧Hle H c∧(((r8&&f)=true→
 B9 (g8.mk q7 q8 p7 (Sl.mk none 0 0)) p9 c (fun (d:g8) (k:(List b6)) (au:Hp)=>
 A6 (u1 d) k au (fun (m:Int) (o:Bool) (v:Hp)=>
 n2 (m,o,d.fs,d.fn,d.fat,k) v)))∧
 ((r8&&f)=false→
 B6 x0.fn q7 q8 p7 p9 c K))) (fun e=>?_) (fun e=>?_) ?_
 ·replace h:=h.1 e
  have ae:=e
  simp only [k7 ae]
  refine g6 Tryz.call154 h I ?_
  rintro _ c _ j p af ag ⟨f,rfl,rfl,h⟩
  exact ⟨f,c,by rfl,p,ag,af,h⟩
 ·exact ⟨false,H,by rw [R9 e],I,fun _ _ _=>rfl,Hle.refl _,h.2 e⟩
 ·clear h
  rintro ad j ⟨f,c,rfl,p,ag,af,h⟩
  refine a7 (u4 _ _) ?_
  refine m0 h (fun _ h=>?_) (fun _ h=>?_)
  ·refine g6 Tryz.call152 (h g0 M4 E8 T6) ((p.bring 1).bring 1) ?_
   rintro _ _ _ bb av _ _ ⟨d,k,ah,ai,rfl,rfl,aj,h⟩
   refine g6 Tryz.call100 (h g0 ah ai aj) ((av.bring 1).bring 1) ?_
   rintro _ v _ bc aw _ _ ⟨m,o,rfl,rfl,h⟩
   refine a7 (g7 _ _ (Value.int .i32 m) rfl) (a7 (g7 _ _ (vB o) rfl) ?_)
   exact hn2 _ _ _ (hm2 _ _ h).2 ⟨(m,o,d.fs,d.fn,d.fat,k),v,ah,ai,rfl,rfl,aj,((aw.bring 1).bring 1),(hm2 _ _ h).1⟩
  ·exact hx1 _ _ (hj1 q7 q8 p7 p9 M4 E8 c _ T6 ((p.bring 1).bring 1) h)
def a1f (a:b6) (u7:ByteArray) (u9:Int) (A4:b7) (D5:(List b6)) (b:b6) (H:Hp) (K:b6→Int→g8→(List b6)→Hp→Prop):Prop:=
 K a 0 (g8.mk u7 u9 A4 (Sl.mk none 0 0)) D5 H
def a4w (x0:g8) (i:(List b6)) (H:Hp) (K:b6→Int→g8→(List b6)→Hp→Prop):Prop:=
 S0 (u1 x0) i H (fun b a c j=>
 a2i b j (fun d e=>
 (d=true→
 a1f (b6.mk 3 b 0 (b7.mk 0 0)) a.fs a.fn a.fat c (b6.mk 0 ⟨#[]⟩ 0 (b7.mk 0 0)) e K)∧
 (d=false→
 a3P b e (fun f g=>
 (f=true→
 K (b6.mk 1 b 0 (b7.mk 0 0)) 22 (u1 a) c g)∧
 (f=false→
 a1f (b6.mk 1 b 0 (b7.mk 0 0)) a.fs a.fn a.fat c (b6.mk 0 ⟨#[]⟩ 0 (b7.mk 0 0)) g K)))))
theorem b1m (x0 j) {H K} (h:a4w x0 j H K):a7g x0 j H K:=by
 intro g0 s t u
 refine Ct.of fun w0 w ps0 H0 R E I hR=>c7Y ?_
 unfold a4w at h
 unfold d1E
 refine m9 I Tryz.zeroValue103 (cs:=[(vi 0),(eS),(vi 0),(vi 0),(vi 0)]) rfl fun k ac v ad=>?_
 refine g6 Tryz.call133 (h g0 s t u) ((v.bring 2).bring 2) ?_
 rintro _ _ _ ae y _ _ ⟨a,b,d,e,f,rfl,rfl,l,h⟩
 refine a7 (a1D _ _) ?_
 refine m9 y Tryz.zeroValue103 (cs:=[(vi 0),(eS),(vi 0),(vi 0),(vi 0)]) rfl fun m af z ag=>?_
 refine f8 z Tryz.sizeOf103 (vs:=[(vi 1),(Value.string a),(vi 0),(vi 0),(vi 0)]) (cs':=[(vi 1),(Value.string a),(vi 0),(vi 0),(vi 0)]) rfl rfl (nb rfl) rfl rfl fun ah n ai=>?_
 have hj1:∀(c:b6) (u7:ByteArray) (u9:Int) (A4:b7) H w (_:Inv w0 ps0 H0 H [bx m 103 (f9 c),bx g0 155 [(Value.string u7),(vi u9),(vi A4.o8),(vi A4.s6),(vs e)],bx k 103 [(vi (b6.mk 0 ⟨#[]⟩ 0 (b7.mk 0 0)).d8),(Value.string (b6.mk 0 ⟨#[]⟩ 0 (b7.mk 0 0)).A0),(vi (b6.mk 0 ⟨#[]⟩ 0 (b7.mk 0 0)).F0),(vi (b6.mk 0 ⟨#[]⟩ 0 (b7.mk 0 0)).fAt.o8),(vi (b6.mk 0 ⟨#[]⟩ 0 (b7.mk 0 0)).fAt.s6)],f] w) (_:a1f c u7 u9 A4 d (b6.mk 0 ⟨#[]⟩ 0 (b7.mk 0 0)) H K),b6U (Value.pointer (some ⟨k,0,none⟩)) (Value.pointer (some ⟨m,0,none⟩)) w R E:=by
  intro c u7 u9 A4 H w I h
  unfold b6U
  intro _
  unfold a1f at h
  refine g5 (lW Tryz.isAgg103 Tryz.sizeOf103 rfl I) ?_
  refine f8 (I.bring 2) Tryz.sizeOf103 (vs:=(f9 c)) (cs':=(f9 c)) rfl rfl (nb rfl) rfl rfl fun aj p ak=>?_
  refine o4 Tryz.isAgg103 Tryz.sizeOf103 rfl (p.at1 (o:=0) (vs:=(f9 c)) (nb rfl) rfl) ?_
  exact hR _ H _ _ ((p.drop.drop.bring 1).bring 1) ⟨c,0,(g8.mk u7 u9 A4 (Sl.mk none 0 0)),d,e,f,rfl,rfl,l,h⟩
 refine r9 fun j1 hx1=>?_
 refine a7 R3 (g5 (l1 Tryz.isAgg9 n rfl) ?_)
 refine g6 Tryz.call155 h n ?_
 rintro _ aa _ al g _ _ ⟨am,rfl,rfl,h⟩
 refine m0 h (fun _ h=>?_) (fun _ h=>?_)
 ·refine a7 a0I ?_
  refine f8 g Tryz.sizeOf3 (vs:=[(vi 3)]) (cs':=[(vi 3),(Value.string a),(vi 0),(vi 0),(vi 0)]) rfl rfl (nb rfl) rfl rfl fun an ab ao=>?_
  exact hx1 _ _ (hj1 (b6.mk 3 a 0 (b7.mk 0 0)) b.fs b.fn b.fat aa _ ((((ab.bring 2).bring 3).bring 3).bring 3) h)
 ·refine a7 R3 (g5 (l1 Tryz.isAgg9 g rfl) ?_)
  refine g6 Tryz.call156 h g ?_
  rintro _ q _ ap i _ _ ⟨aq,rfl,rfl,h⟩
  refine m0 h (fun _ h=>?_) (fun _ h=>?_)
  ·refine g5 (ldA Tryz.isAgg103 Tryz.sizeOf103 rfl (i.at1 (o:=0) (vs:=[(vi 1),(Value.string a),(vi 0),(vi 0),(vi 0)]) (nb rfl) rfl)) ?_
   refine f8 (i.bring 3) Tryz.sizeOf103 (vs:=[(vi 1),(Value.string a),(vi 0),(vi 0),(vi 0)]) (cs':=[(vi 1),(Value.string a),(vi 0),(vi 0),(vi 0)]) rfl rfl (nb rfl) rfl rfl fun ar r au=>?_
   refine o4 Tryz.isAgg103 Tryz.sizeOf103 rfl (r.at1 (o:=0) (vs:=[(vi 1),(Value.string a),(vi 0),(vi 0),(vi 0)]) (nb rfl) rfl) ?_
   exact hR _ q _ _ ((r.drop.drop.bring 1).bring 1) ⟨(b6.mk 1 a 0 (b7.mk 0 0)),22,(u1 b),d,e,f,rfl,rfl,l,h⟩
  ·exact hx1 _ _ (hj1 (b6.mk 1 a 0 (b7.mk 0 0)) b.fs b.fn b.fat q _ ((((i.bring 2).bring 3).bring 3).bring 3) h)
def a2H (x0:Int) (H:Hp) (K:Bool→Hp→Prop):Prop:=
 V0 x0 H (fun a b=>
 K (decide (a=4)) b)
theorem a9v (x0) {H K} (h:a2H x0 H K):a2G x0 H K:=by
 refine Ct.of fun w0 w ps0 H0 R E I hR=>c8p ?_
 unfold a2H at h
 unfold d1V
 refine g6 Tryz.call132 h I ?_
 rintro _ a _ d b _ _ ⟨c,rfl,rfl,h⟩
 refine a7 pEq ?_
 exact hR _ a _ _ b ⟨(decide (c=4)),rfl,rfl,h⟩
def a6a (H:Hp) (K:b6→Int→Hp→Prop):Prop:=
 K (b6.mk 0 ⟨#[]⟩ 0 (b7.mk 0 0)) 20 H
theorem b0h {H K} (h:a6a H K):b0d H K:=by
 refine Ct.of fun w0 w ps0 H0 R E I hR=>c8b ?_
 unfold a6a at h
 unfold d1H
 refine m9 I Tryz.zeroValue103 (cs:=[(vi 0),(eS),(vi 0),(vi 0),(vi 0)]) rfl fun c d b e=>?_
 refine a7 (a6k) ?_
 refine f8 b Tryz.sizeOf103 (vs:=[(vi 0),(eS),(vi 0),(vi 0),(vi 0)]) (cs':=[(vi 0),(eS),(vi 0),(vi 0),(vi 0)]) rfl rfl (nb rfl) rfl rfl fun f a g=>?_
 refine o4 Tryz.isAgg103 Tryz.sizeOf103 rfl (a.at1 (o:=0) (vs:=[(vi 0),(eS),(vi 0),(vi 0),(vi 0)]) (nb rfl) rfl) ?_
 exact hR _ H _ _ a.drop ⟨(b6.mk 0 ⟨#[]⟩ 0 (b7.mk 0 0)),20,rfl,rfl,h⟩
def I0 (d2n:Int) (b4x:Bool) (a:L8) (H:Hp) (K:Bool→Hp→Prop):Prop:=
 (b4x=true→
 K (decide (d2n=2)) H)∧
 (b4x=false→
 K false H)
def S5 (b7l:Int) (a7I:Int) (b4y:Bool) (a:L8) (H:Hp) (K:Bool→Hp→Prop):Prop:=
 (b4y=true→
 K (decide (b7l=1)) H)∧
 (b4y=false→
 (a7I=6→
 I0 b7l (decide (a7I=6)) a H K)∧
 (¬(a7I=6)→
 (a7I=7→
 I0 b7l (decide (a7I=7)) a H K)∧
 (¬(a7I=7)→
 (a7I=8→
 I0 b7l (decide (a7I=8)) a H K)∧
 (¬(a7I=8)→
 (a7I=9→
 I0 b7l (decide (a7I=9)) a H K)∧
 (¬(a7I=9)→
 I0 b7l (decide (a7I=10)) a H K)))))
def S6 (a7T:Int) (a7J:Int) (b4z:Bool) (a:L8) (H:Hp) (K:Bool→Hp→Prop):Prop:=
 (b4z=true→
 K (decide (a7T=0)) H)∧
 (b4z=false→
 (a7J=4→
 S5 a7T a7J (decide (a7J=4)) a H K)∧
 (¬(a7J=4)→
 S5 a7T a7J (decide (a7J=5)) a H K))
def a5f (x0:L8) (H:Hp) (K:Bool→Hp→Prop):Prop:=
 a3h (g9.H7 x0) H (fun c b a=>
 ((((!decide (x0.y1.d8=1))&&(!decide (x0.y1.F0=0)))||((!b)&&(!decide (x0.y1.A8=⟨#[]⟩))))=true→
 K false a)∧
 ((((!decide (x0.y1.d8=1))&&(!decide (x0.y1.F0=0)))||((!b)&&(!decide (x0.y1.A8=⟨#[]⟩))))=false→
 (x0.y1.d8=1→
 K ((decide (0≤x0.y1.F0))&&(decide ((x0.y1.B1.n:Int)=0))) a)∧
 (¬(x0.y1.d8=1)→
 (x0.y1.d8=2→
 S6 (x0.y1.B1.n:Int) x0.y1.d8 (decide (x0.y1.d8=2)) x0 a K)∧
 (¬(x0.y1.d8=2)→
 S6 (x0.y1.B1.n:Int) x0.y1.d8 (decide (x0.y1.d8=3)) x0 a K))))
theorem b1F (x0) {H K} (h:a5f x0 H K):a5b x0 H K:=by
 refine Ct.of fun w0 w ps0 H0 R E I hR=>c8t ?_
 unfold a5f at h
 unfold d1Z
 refine P2 I (cs:=(d7 x0.y1)) rfl fun f l i m=>?_
 refine a7 a1S (a7 a0M (g5 (l1 Tryz.isAgg38 i rfl) (a7 (T0 _ _ _) (g5 (lW Tryz.isAgg141 Tryz.sizeOf141 rfl i) ?_))))
 refine a7 (a9n x0) ?_
 refine g6 Tryz.call143 h i ?_
 rintro _ d _ o c _ _ ⟨j,k,rfl,rfl,h⟩
 refine a7 (g7 _ _ (Value.string j) rfl) (a7 (g7 _ _ (vB k) rfl) (a7 a1S (a7 a1p (g5 (l1 Tryz.isAgg3 c rfl) ?_))))
 refine a7 pNe ?_
 refine a7 (Pu.g fun a=>by with_reducible exact a1S) ?_
 refine a7 (Pu.g fun a=>by simp only [k7 a];with_reducible exact a7E) ?_
 refine g5 (Ld.g fun a=>by simp only [k7 a];exact (l1 Tryz.isAgg2 c rfl)) ?_
 refine a7 (Pu.g fun a=>by simp only [k7 a];with_reducible exact pNe) ?_
 refine a7 (u4 _ _) ?_
 simp only [q9]
 refine a7 (Pu.g fun a=>by simp only [k7 a];with_reducible exact (K5 _)) ?_
 simp only [a2U]
 refine a7 (Pu.e (Q7 _ _ _) (Pu.g fun hb=>by obtain ⟨a,b⟩:=X1 hb;with_reducible exact a1S)) ?_
 refine a7 (Pu.e (Q7 _ _ _) (Pu.g fun hb=>by obtain ⟨a,b⟩:=X1 hb;simp only [k7 hb];with_reducible exact a8P)) ?_
 refine g5 (Ld.e (Q7 _ _ _) (Ld.g fun hb=>by obtain ⟨a,b⟩:=X1 hb;simp only [k7 hb];exact (l1 Tryz.isAgg9 c rfl))) ?_
 refine a7 (Pu.e (Q7 _ _ _) (Pu.g fun hb=>by obtain ⟨a,b⟩:=X1 hb;simp only [k7 hb];with_reducible exact (c3u _ _ _ _ _))) ?_
 refine a7 (Pu.g fun a=>by simp only [k7 a,a7b a];with_reducible exact (u4 _ _)) ?_
 refine a7 (B5 _ _) ?_
 refine m0 h (fun _ h=>?_) (fun _ h=>?_)
 ·exact hR _ d _ _ c.drop ⟨false,rfl,rfl,h⟩
 ·refine a7 a1S (a7 a1p (g5 (l1 Tryz.isAgg3 c rfl) (a7 pEq ?_)))
  refine l7 h (fun _ h=>?_) (fun _ h=>?_)
  ·refine a7 a1S (a7 a7E (g5 (l1 Tryz.isAgg2 c rfl) (a7 pGe ?_)))
   simp only [q9]
   refine a7 (Pu.g fun a=>by simp only [k7 a];with_reducible exact pEq) ?_
   refine a7 (u4 _ _) ?_
   exact hR _ d _ _ c.drop ⟨((decide (0≤x0.y1.F0))&&(decide ((x0.y1.B1.n:Int)=0))),rfl,rfl,h⟩
  ·have hj1:∀(b4z:Bool) H w (_:Inv w0 ps0 H0 H [bx f 141 (d7 x0.y1)] w) (_:S6 (x0.y1.B1.n:Int) x0.y1.d8 b4z x0 H K),b7e (vi (x0.y1.B1.n:Int)) (vi x0.y1.d8) (vB b4z) w R E:=by
    intro b4z H w I h
    unfold b7e
    intro _
    unfold S6 at h
    refine m0 h (fun _ h=>?_) (fun _ h=>?_)
    ·refine a7 pEq ?_
     exact hR _ H _ _ I.drop ⟨(decide ((x0.y1.B1.n:Int)=0)),rfl,rfl,h⟩
    ·have hj2:∀(b4y:Bool) H w (_:Inv w0 ps0 H0 H [bx f 141 (d7 x0.y1)] w) (_:S5 (x0.y1.B1.n:Int) x0.y1.d8 b4y x0 H K),b7d (vi (x0.y1.B1.n:Int)) (vi x0.y1.d8) (vB b4y) w R E:=by
      intro b4y H w I h
      unfold b7d
      intro _
      unfold S5 at h
      refine m0 h (fun _ h=>?_) (fun _ h=>?_)
      ·refine a7 pEq ?_
       exact hR _ H _ _ I.drop ⟨(decide ((x0.y1.B1.n:Int)=1)),rfl,rfl,h⟩
      ·have hj3:∀(b4x:Bool) H w (_:Inv w0 ps0 H0 H [bx f 141 (d7 x0.y1)] w) (_:I0 (x0.y1.B1.n:Int) b4x x0 H K),b7c (vi (x0.y1.B1.n:Int)) (vB b4x) w R E:=by
        intro b4x H w I h
        unfold b7c
        intro _
        unfold I0 at h
        refine m0 h (fun _ h=>?_) (fun _ h=>?_)
        ·refine a7 pEq ?_
         exact hR _ H _ _ I.drop ⟨(decide ((x0.y1.B1.n:Int)=2)),rfl,rfl,h⟩
        ·exact hR _ H _ _ I.drop ⟨false,rfl,rfl,h⟩
       refine r9 fun j3 hx3=>?_
       refine a7 pEq ?_
       refine l7 h (fun _ h=>?_) (fun _ h=>?_)
       ·exact hx3 _ _ (hj3 (decide (x0.y1.d8=6)) H _ I h)
       ·refine a7 pEq ?_
        refine l7 h (fun _ h=>?_) (fun _ h=>?_)
        ·exact hx3 _ _ (hj3 (decide (x0.y1.d8=7)) H _ I h)
        ·refine a7 pEq ?_
         refine l7 h (fun _ h=>?_) (fun _ h=>?_)
         ·exact hx3 _ _ (hj3 (decide (x0.y1.d8=8)) H _ I h)
         ·refine a7 pEq ?_
          refine l7 h (fun _ h=>?_) (fun _ h=>?_)
          ·exact hx3 _ _ (hj3 (decide (x0.y1.d8=9)) H _ I h)
          ·refine a7 pEq ?_
           exact hx3 _ _ (hj3 (decide (x0.y1.d8=10)) H _ I h)
     refine r9 fun j2 hx2=>?_
     refine a7 pEq ?_
     refine l7 h (fun _ h=>?_) (fun _ h=>?_)
     ·exact hx2 _ _ (hj2 (decide (x0.y1.d8=4)) H _ I h)
     ·refine a7 pEq ?_
      exact hx2 _ _ (hj2 (decide (x0.y1.d8=5)) H _ I h)
   refine r9 fun j1 hx1=>?_
   refine a7 pEq ?_
   refine l7 h (fun _ h=>?_) (fun _ h=>?_)
   ·exact hx1 _ _ (hj1 (decide (x0.y1.d8=2)) d _ c h)
   ·refine a7 pEq ?_
    exact hx1 _ _ (hj1 (decide (x0.y1.d8=3)) d _ c h)
end Go.Proofs.YthklmeihgmcljaaGreatDoor
