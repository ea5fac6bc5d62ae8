/- Typed formulas of the program's functions, and the theorems that the contracts follow from them; printed by lift.py off the code. -/
import Derived.Test.YthklmeihgmcljaaGreatDoorzQV1
namespace Go.Proofs.YthklmeihgmcljaaGreatDoor
open Go.RowKit
set_option maxRecDepth 100000
set_option maxHeartbeats 2000000
def a6r (x0:ByteArray) (H:Hp) (K:p6→b7→Int→Hp→Prop):Prop:=
 K8 x0 H (fun a b c d=>
 K a b c d)
theorem b2V (x0) {H K} (h:a6r x0 H K):a3T x0 H K:=by
 refine Ct.of fun w0 w ps0 H0 R E I hR=>d3L ?_
 unfold a6r at h
 unfold F9
 refine m9 I Tryz.zeroValue26 (cs:=[(nS),(nS)]) rfl fun k l e m=>?_
 refine m9 e Tryz.zeroValue28 (cs:=[(vi 0),(vi 0)]) rfl fun n p f q=>?_
 refine g6 Tryz.call20 h f ?_
 rintro _ g _ r i _ _ ⟨a,b,d,rfl,rfl,h⟩
 refine a7 (g7 _ _ _ rfl) (a7 (g7 _ _ _ rfl) (a7 (g7 _ _ (vi d) rfl) ?_))
 refine f8 (i.bring 1) Tryz.sizeOf26 (vs:=(u2 a)) (cs':=(u2 a)) rfl rfl (nb rfl) rfl rfl fun s j t=>?_
 refine f8 (j.bring 1) Tryz.sizeOf28 (vs:=(b9 b)) (cs':=(b9 b)) rfl rfl (nb rfl) rfl rfl fun u c v=>?_
 refine o4 Tryz.isAgg26 Tryz.sizeOf26 rfl ((c.bring 1).at1 (o:=0) (vs:=(u2 a)) (nb rfl) rfl) ?_
 refine o4 Tryz.isAgg28 Tryz.sizeOf28 rfl (c.at1 (o:=0) (vs:=(b9 b)) (nb rfl) rfl) ?_
 exact hR _ g _ _ c.drop.drop ⟨a,b,d,rfl,rfl,h⟩
def a1N (x0:b8) (H:Hp) (K:b6→Hp→Prop):Prop:=
 (0:Int)≤x0.fat∧(x0.fat:Int) < x0.fl.n∧∃a:b6,EltH H x0.fl x0.fat 5 (f9 a)∧
 K a H
theorem a8H (x0) {H K} (h:a1N x0 H K):K9 x0 H K:=by
 intro g0
 refine Ct.of fun w0 w ps0 H0 R E I hR=>d0z ?_
 unfold a1N at h
 unfold F63
 refine m9 I Tryz.zeroValue103 (cs:=[(vi 0),(eS),(vi 0),(vi 0),(vi 0)]) rfl fun j k e l=>?_
 refine P3 e fun m b=>?_
 refine o7 (o5 _) ?_
 refine o7 a8O ?_
 refine o7 (o5 _) ?_
 refine o7 a1W ?_
 refine t8 (l1 Tryz.isAgg61 (b.bring 1) rfl) ?_
 refine t8 (l1 Tryz.isAgg3 (b.bring 1) rfl) ?_
 obtain ⟨f,g,a,c,h⟩:=h
 obtain ⟨n,p,i,c⟩:=c
 refine o7 (b2J i _ _ _ _ f g) ?_
 refine t8 (ldA (vs:=(f9 a)) Tryz.isAgg103 Tryz.sizeOf103 rfl (b.atH c)) ?_
 refine f8 b Tryz.sizeOf103 (vs:=(f9 a)) (cs':=(f9 a)) rfl rfl (nb rfl) rfl rfl fun q d r=>?_
 refine o4 Tryz.isAgg103 Tryz.sizeOf103 rfl (d.at1 (o:=0) (vs:=(f9 a)) (nb rfl) rfl) ?_
 exact hR _ H _ _ d.drop ⟨a,rfl,rfl,h⟩
def m1 (v8:Bool) (H:Hp) (K:Bool→Hp→Prop):Prop:=
 (v8=true→
 K true H)∧
 (v8=false→
 K false H)
def a2e (x0:ByteArray) (H:Hp) (K:Bool→Hp→Prop):Prop:=
 (x0=⟨#[118,97,114]⟩→
 m1 (decide (x0=⟨#[118,97,114]⟩)) H K)∧
 (¬(x0=⟨#[118,97,114]⟩)→
 (x0=⟨#[97,114,114,97,121]⟩→
 m1 (decide (x0=⟨#[97,114,114,97,121]⟩)) H K)∧
 (¬(x0=⟨#[97,114,114,97,121]⟩)→
 (x0=⟨#[105,102]⟩→
 m1 (decide (x0=⟨#[105,102]⟩)) H K)∧
 (¬(x0=⟨#[105,102]⟩)→
 (x0=⟨#[101,108,115,101]⟩→
 m1 (decide (x0=⟨#[101,108,115,101]⟩)) H K)∧
 (¬(x0=⟨#[101,108,115,101]⟩)→
 (x0=⟨#[119,104,105,108,101]⟩→
 m1 (decide (x0=⟨#[119,104,105,108,101]⟩)) H K)∧
 (¬(x0=⟨#[119,104,105,108,101]⟩)→
 (x0=⟨#[97,115,115,101,114,116]⟩→
 m1 (decide (x0=⟨#[97,115,115,101,114,116]⟩)) H K)∧
 (¬(x0=⟨#[97,115,115,101,114,116]⟩)→
 (x0=⟨#[97,115,115,117,109,101]⟩→
 m1 (decide (x0=⟨#[97,115,115,117,109,101]⟩)) H K)∧
 (¬(x0=⟨#[97,115,115,117,109,101]⟩)→
 (x0=⟨#[115,107,105,112]⟩→
 m1 (decide (x0=⟨#[115,107,105,112]⟩)) H K)∧
 (¬(x0=⟨#[115,107,105,112]⟩)→
 (x0=⟨#[105,110,112,117,116]⟩→
 m1 (decide (x0=⟨#[105,110,112,117,116]⟩)) H K)∧
 (¬(x0=⟨#[105,110,112,117,116]⟩)→
 (x0=⟨#[116,114,117,101]⟩→
 m1 (decide (x0=⟨#[116,114,117,101]⟩)) H K)∧
 (¬(x0=⟨#[116,114,117,101]⟩)→
 m1 (decide (x0=⟨#[102,97,108,115,101]⟩)) H K))))))))))
theorem a7o (x0) {H K} (h:a2e x0 H K):a0F x0 H K:=by
 refine Ct.of fun w0 w ps0 H0 R E I hR=>c7D ?_
 unfold a2e at h
 unfold d1j
 have hj1:∀(v8:Bool) H w (_:Inv w0 ps0 H0 H [] w) (_:m1 v8 H K),b6F (vB v8) w R E:=by
  intro v8 H w I h
  unfold b6F
  intro _
  unfold m1 at h
  refine m0 h (fun _ h=>?_) (fun _ h=>?_)
  ·exact hR _ H _ _ I ⟨true,rfl,rfl,h⟩
  ·exact hR _ H _ _ I ⟨false,rfl,rfl,h⟩
 refine r9 fun j1 hx1=>?_
 refine a7 (G5 _ _ _ _ _) ?_
 refine l7 h (fun _ h=>?_) (fun _ h=>?_)
 ·exact hx1 _ _ (hj1 (decide (x0=⟨#[118,97,114]⟩)) H _ I h)
 ·refine a7 (G5 _ _ _ _ _) ?_
  refine l7 h (fun _ h=>?_) (fun _ h=>?_)
  ·exact hx1 _ _ (hj1 (decide (x0=⟨#[97,114,114,97,121]⟩)) H _ I h)
  ·refine a7 (G5 _ _ _ _ _) ?_
   refine l7 h (fun _ h=>?_) (fun _ h=>?_)
   ·exact hx1 _ _ (hj1 (decide (x0=⟨#[105,102]⟩)) H _ I h)
   ·refine a7 (G5 _ _ _ _ _) ?_
    refine l7 h (fun _ h=>?_) (fun _ h=>?_)
    ·exact hx1 _ _ (hj1 (decide (x0=⟨#[101,108,115,101]⟩)) H _ I h)
    ·refine a7 (G5 _ _ _ _ _) ?_
     refine l7 h (fun _ h=>?_) (fun _ h=>?_)
     ·exact hx1 _ _ (hj1 (decide (x0=⟨#[119,104,105,108,101]⟩)) H _ I h)
     ·refine a7 (G5 _ _ _ _ _) ?_
      refine l7 h (fun _ h=>?_) (fun _ h=>?_)
      ·exact hx1 _ _ (hj1 (decide (x0=⟨#[97,115,115,101,114,116]⟩)) H _ I h)
      ·refine a7 (G5 _ _ _ _ _) ?_
       refine l7 h (fun _ h=>?_) (fun _ h=>?_)
       ·exact hx1 _ _ (hj1 (decide (x0=⟨#[97,115,115,117,109,101]⟩)) H _ I h)
       ·refine a7 (G5 _ _ _ _ _) ?_
        refine l7 h (fun _ h=>?_) (fun _ h=>?_)
        ·exact hx1 _ _ (hj1 (decide (x0=⟨#[115,107,105,112]⟩)) H _ I h)
        ·refine a7 (G5 _ _ _ _ _) ?_
         refine l7 h (fun _ h=>?_) (fun _ h=>?_)
         ·exact hx1 _ _ (hj1 (decide (x0=⟨#[105,110,112,117,116]⟩)) H _ I h)
         ·refine a7 (G5 _ _ _ _ _) ?_
          refine l7 h (fun _ h=>?_) (fun _ h=>?_)
          ·exact hx1 _ _ (hj1 (decide (x0=⟨#[116,114,117,101]⟩)) H _ I h)
          ·refine a7 (G5 _ _ _ _ _) ?_
           exact hx1 _ _ (hj1 (decide (x0=⟨#[102,97,108,115,101]⟩)) H _ I h)
def a5O (x0:b8) (x1:ByteArray) (H:Hp) (K:Bool→Hp→Prop):Prop:=
 K9 x0 H (fun a b=>
 K (((decide (x0.fbad=0))&&((decide (a.d8=3))||(decide (a.d8=4))))&&(decide (a.A0=x1))) b)
theorem a5P (x0 x1) {H K} (h:a5O x0 x1 H K):l8 x0 x1 H K:=by
 intro g0
 refine Ct.of fun w0 w ps0 H0 R E I hR=>c9Y ?_
 unfold a5O at h
 unfold F23
 refine g6 Tryz.call63 (h g0) I ?_
 rintro _ f _ k i _ _ ⟨d,rfl,rfl,h⟩
 refine m9 i Tryz.zeroValue103 (cs:=[(vi 0),(eS),(vi 0),(vi 0),(vi 0)]) rfl fun l m j n=>?_
 refine f8 j Tryz.sizeOf103 (vs:=(f9 d)) (cs':=(f9 d)) rfl rfl (nb rfl) rfl rfl fun o c p=>?_
 refine a7 (o5 _) (a7 a3S (g5 (l1 Tryz.isAgg3 (c.bring 1) rfl) (a7 pEq ?_)))
 refine a7 (Pu.g fun a=>by with_reducible exact a0I) ?_
 refine g5 (Ld.g fun a=>by simp only [k7 a];exact (l1 Tryz.isAgg3 c rfl)) ?_
 refine a7 (Pu.g fun a=>by simp only [k7 a];with_reducible exact pEq) ?_
 simp only [q9,a2U]
 refine a7 (Pu.e (a3q _ _ _) (Pu.g fun hb=>by obtain ⟨a,b⟩:=a3p hb;with_reducible exact a0I)) ?_
 refine g5 (Ld.e (a3q _ _ _) (Ld.g fun hb=>by obtain ⟨a,b⟩:=a3p hb;simp only [k7 hb];exact (l1 Tryz.isAgg3 c rfl))) ?_
 refine a7 (Pu.e (a3q _ _ _) (Pu.g fun hb=>by obtain ⟨a,b⟩:=a3p hb;simp only [k7 hb];with_reducible exact pEq)) ?_
 refine a7 (Pu.g fun a=>by simp only [k7 a,b3K a];with_reducible exact (B5 _ _)) ?_
 refine a7 (u4 _ _) ?_
 refine a7 (Pu.g fun a=>by with_reducible exact R3) ?_
 refine g5 (Ld.g fun a=>by simp only [k7 a];exact (l1 Tryz.isAgg9 c rfl)) ?_
 simp only [q9]
 refine a7 (Pu.g fun a=>by simp only [k7 a];with_reducible exact (G5 _ _ _ _ _)) ?_
 refine a7 (u4 _ _) ?_
 exact hR _ f _ _ c.drop ⟨(((decide (x0.fbad=0))&&((decide (d.d8=3))||(decide (d.d8=4))))&&(decide (d.A0=x1))),rfl,rfl,h⟩
def a1m (a:z1) (o9:b8) (H:Hp) (K:Int→Hp→Prop):Prop:=
 K 0 H
def P6 (a:z1) (o6:b8) (L9:Int) (H:Hp) (n2:Int→Hp→Prop) (K:Int→Hp→Prop):Prop:=
 (L9 < 6→
 (0:Int)≤L9∧(L9:Int) < 6∧
 l8 o6 (([a.f0,a.f1,a.f2,a.f3,a.f4,a.f5]:List ByteArray).getD (L9:Int).toNat ⟨#[]⟩) H (fun b c=>
 (b=true→
 K (IntKind.wrap .i64 (1+L9)) c)∧
 (b=false→
 n2 (IntKind.wrap .i64 (L9+1)) c)))∧
 (¬(L9 < 6)→
 a1m a o6 H K)
def a0m (x0:b8) (H:Hp) (K:Int→Hp→Prop):Prop:=
 TL (0:Int) H fun (s:Int) H n2=>P6 (z1.mk ⟨#[60]⟩ ⟨#[60,61]⟩ ⟨#[61,61]⟩ ⟨#[33,61]⟩ ⟨#[62]⟩ ⟨#[62,61]⟩) x0 s H n2 K
theorem a5x (x0) {H K} (h:a0m x0 H K):G7 x0 H K:=by
 intro g0
 refine Ct.of fun w0 w ps0 H0 R E I hR=>c8i ?_
 unfold a0m at h
 unfold d1O
 refine a7 (a8d _ _ _ _ _ _) ?_
 refine m9 I Tryz.zeroValue203 (cs:=[(eS),(eS),(eS),(eS),(eS),(eS)]) rfl fun e t m u=>?_
 refine f8 m Tryz.sizeOf203 (vs:=[(Value.string ⟨#[60]⟩),(Value.string ⟨#[60,61]⟩),(Value.string ⟨#[61,61]⟩),(Value.string ⟨#[33,61]⟩),(Value.string ⟨#[62]⟩),(Value.string ⟨#[62,61]⟩)]) (cs':=[(Value.string ⟨#[60]⟩),(Value.string ⟨#[60,61]⟩),(Value.string ⟨#[61,61]⟩),(Value.string ⟨#[33,61]⟩),(Value.string ⟨#[62]⟩),(Value.string ⟨#[62,61]⟩)]) rfl rfl (nb rfl) rfl rfl fun y o z=>?_
 have hj1:∀H w (_:Inv w0 ps0 H0 H [bx e 203 [(Value.string (z1.mk ⟨#[60]⟩ ⟨#[60,61]⟩ ⟨#[61,61]⟩ ⟨#[33,61]⟩ ⟨#[62]⟩ ⟨#[62,61]⟩).f0),(Value.string (z1.mk ⟨#[60]⟩ ⟨#[60,61]⟩ ⟨#[61,61]⟩ ⟨#[33,61]⟩ ⟨#[62]⟩ ⟨#[62,61]⟩).f1),(Value.string (z1.mk ⟨#[60]⟩ ⟨#[60,61]⟩ ⟨#[61,61]⟩ ⟨#[33,61]⟩ ⟨#[62]⟩ ⟨#[62,61]⟩).f2),(Value.string (z1.mk ⟨#[60]⟩ ⟨#[60,61]⟩ ⟨#[61,61]⟩ ⟨#[33,61]⟩ ⟨#[62]⟩ ⟨#[62,61]⟩).f3),(Value.string (z1.mk ⟨#[60]⟩ ⟨#[60,61]⟩ ⟨#[61,61]⟩ ⟨#[33,61]⟩ ⟨#[62]⟩ ⟨#[62,61]⟩).f4),(Value.string (z1.mk ⟨#[60]⟩ ⟨#[60,61]⟩ ⟨#[61,61]⟩ ⟨#[33,61]⟩ ⟨#[62]⟩ ⟨#[62,61]⟩).f5)],bx g0 66 (i7 x0)] w) (_:a1m (z1.mk ⟨#[60]⟩ ⟨#[60,61]⟩ ⟨#[61,61]⟩ ⟨#[33,61]⟩ ⟨#[62]⟩ ⟨#[62,61]⟩) x0 H K),b6Y w R E:=by
  intro H w I h
  unfold b6Y
  intro _
  unfold a1m at h
  exact hR _ H _ _ I.drop ⟨0,rfl,rfl,h⟩
 refine r9 fun j1 hx1=>?_
 obtain ⟨d,c,p,q⟩:=h
 refine B0 (J:=fun n l w=>∃(s:Int) (H:Hp),n=c s∧l=[(vi s)]∧Inv w0 ps0 H0 H [bx e 203 [(Value.string (z1.mk ⟨#[60]⟩ ⟨#[60,61]⟩ ⟨#[61,61]⟩ ⟨#[33,61]⟩ ⟨#[62]⟩ ⟨#[62,61]⟩).f0),(Value.string (z1.mk ⟨#[60]⟩ ⟨#[60,61]⟩ ⟨#[61,61]⟩ ⟨#[33,61]⟩ ⟨#[62]⟩ ⟨#[62,61]⟩).f1),(Value.string (z1.mk ⟨#[60]⟩ ⟨#[60,61]⟩ ⟨#[61,61]⟩ ⟨#[33,61]⟩ ⟨#[62]⟩ ⟨#[62,61]⟩).f2),(Value.string (z1.mk ⟨#[60]⟩ ⟨#[60,61]⟩ ⟨#[61,61]⟩ ⟨#[33,61]⟩ ⟨#[62]⟩ ⟨#[62,61]⟩).f3),(Value.string (z1.mk ⟨#[60]⟩ ⟨#[60,61]⟩ ⟨#[61,61]⟩ ⟨#[33,61]⟩ ⟨#[62]⟩ ⟨#[62,61]⟩).f4),(Value.string (z1.mk ⟨#[60]⟩ ⟨#[60,61]⟩ ⟨#[61,61]⟩ ⟨#[33,61]⟩ ⟨#[62]⟩ ⟨#[62,61]⟩).f5)],bx g0 66 (i7 x0)] w∧d s H) ⟨_,0,H,rfl,rfl,((o.bring 1).bring 1),p⟩ ?_
 rintro aa ab w next2 ⟨L9,H,rfl,f,I,r⟩ hn2
 simp only [List.map_cons,List.map_nil,List.cons.injEq,and_true] at f
 have e4:=f
 simp only [e4]
 obtain ⟨n2,hm2,h⟩:∃n2:Int→Hp→Prop,(∀s' H',n2 s' H'→d s' H'∧c s' < c L9)∧P6 (z1.mk ⟨#[60]⟩ ⟨#[60,61]⟩ ⟨#[61,61]⟩ ⟨#[33,61]⟩ ⟨#[62]⟩ ⟨#[62,61]⟩) x0 L9 H n2 K:=⟨_,fun _ _ h=>h,q L9 H (fun s' H'=>d s' H'∧c s' < c L9) r (fun _ _ a b=>⟨a,b⟩)⟩
 unfold c1B
 unfold P6 at h
 refine a7 pLs ?_
 refine l7 h (fun _ h=>?_) (fun _ h=>?_)
 ·obtain ⟨g,i,h⟩:=h
  refine a7 (c2x _ _ g i) (g5 (ld1 (v:=(Value.string (([(z1.mk ⟨#[60]⟩ ⟨#[60,61]⟩ ⟨#[61,61]⟩ ⟨#[33,61]⟩ ⟨#[62]⟩ ⟨#[62,61]⟩).f0,(z1.mk ⟨#[60]⟩ ⟨#[60,61]⟩ ⟨#[61,61]⟩ ⟨#[33,61]⟩ ⟨#[62]⟩ ⟨#[62,61]⟩).f1,(z1.mk ⟨#[60]⟩ ⟨#[60,61]⟩ ⟨#[61,61]⟩ ⟨#[33,61]⟩ ⟨#[62]⟩ ⟨#[62,61]⟩).f2,(z1.mk ⟨#[60]⟩ ⟨#[60,61]⟩ ⟨#[61,61]⟩ ⟨#[33,61]⟩ ⟨#[62]⟩ ⟨#[62,61]⟩).f3,(z1.mk ⟨#[60]⟩ ⟨#[60,61]⟩ ⟨#[61,61]⟩ ⟨#[33,61]⟩ ⟨#[62]⟩ ⟨#[62,61]⟩).f4,(z1.mk ⟨#[60]⟩ ⟨#[60,61]⟩ ⟨#[61,61]⟩ ⟨#[33,61]⟩ ⟨#[62]⟩ ⟨#[62,61]⟩).f5]:List ByteArray).getD (L9:Int).toNat ⟨#[]⟩))) Tryz.isAgg9 (Inv.c9C (n:=6) (l:=[(z1.mk ⟨#[60]⟩ ⟨#[60,61]⟩ ⟨#[61,61]⟩ ⟨#[33,61]⟩ ⟨#[62]⟩ ⟨#[62,61]⟩).f0,(z1.mk ⟨#[60]⟩ ⟨#[60,61]⟩ ⟨#[61,61]⟩ ⟨#[33,61]⟩ ⟨#[62]⟩ ⟨#[62,61]⟩).f1,(z1.mk ⟨#[60]⟩ ⟨#[60,61]⟩ ⟨#[61,61]⟩ ⟨#[33,61]⟩ ⟨#[62]⟩ ⟨#[62,61]⟩).f2,(z1.mk ⟨#[60]⟩ ⟨#[60,61]⟩ ⟨#[61,61]⟩ ⟨#[33,61]⟩ ⟨#[62]⟩ ⟨#[62,61]⟩).f3,(z1.mk ⟨#[60]⟩ ⟨#[60,61]⟩ ⟨#[61,61]⟩ ⟨#[33,61]⟩ ⟨#[62]⟩ ⟨#[62,61]⟩).f4,(z1.mk ⟨#[60]⟩ ⟨#[60,61]⟩ ⟨#[61,61]⟩ ⟨#[33,61]⟩ ⟨#[62]⟩ ⟨#[62,61]⟩).f5]) I rfl rfl g i)) ?_)
  refine g6 Tryz.call23 (h g0) (I.bring 1) ?_
  rintro _ j _ ac k _ _ ⟨ad,rfl,rfl,h⟩
  refine m0 h (fun _ h=>?_) (fun _ h=>?_)
  ·refine a7 pAd ?_
   exact hR _ j _ _ (k.bring 1).drop ⟨(IntKind.wrap .i64 (1+L9)),rfl,rfl,h⟩
  ·refine a7 pAd ?_
   exact hn2 _ _ _ (hm2 _ _ h).2 ⟨(IntKind.wrap .i64 (L9+1)),j,rfl,rfl,(k.bring 1),(hm2 _ _ h).1⟩
 ·exact hx1 _ _ (hj1 H _ ((I.bring 1).bring 1) h)
def a5y (x0:b8) (x1:Int) (H:Hp) (K:c8→b8→Hp→Prop):Prop:=
 (¬(x0.fbad=0)→
 K (c8.mk 0 0 (Sl.mk none 0 0) (Sl.mk none 0 0)) x0 H)∧
 (x0.fbad=0→
 W4 x0 H (fun a o=>
 TG ((!a)=true) (l8 x0 ⟨#[116,114,117,101]⟩ o) false o (fun (d:Bool) (p:Hp)=>
 TG (((!a)&&(!d))=true) (l8 x0 ⟨#[102,97,108,115,101]⟩ p) false p (fun (e:Bool) (q:Hp)=>
 TG ((((!a)&&(!d))&&(!e))=true) (l8 x0 ⟨#[33]⟩ q) false q (fun (j:Bool) (r:Hp)=>
 TG (((((!a)&&(!d))&&(!e))&&(!j))=true) (l8 x0 ⟨#[91]⟩ r) false r (fun (s:Bool) (t:Hp)=>
 ((((((!a)&&(!d))&&(!e))&&(!j))&&(!s))=true→
 p8 x0 40 t (fun ak al=>
 K (c8.mk 0 0 (Sl.mk none 0 0) (Sl.mk none 0 0)) ak al))∧
 ((((((!a)&&(!d))&&(!e))&&(!j))&&(!s))=false→
 G0 x0 x1 t (fun f u=>
 (¬(f.fbad=0)→
 K (c8.mk 0 0 (Sl.mk none 0 0) (Sl.mk none 0 0)) f u)∧
 (f.fbad=0→
 m6 f ⟨#[116,114,117,101]⟩ u (fun v y z=>
 (v=true→
 K (c8.mk 1 0 (Sl.mk none 0 0) (Sl.mk none 0 0)) y z)∧
 (v=false→
 m6 y ⟨#[102,97,108,115,101]⟩ z (fun aa ab ac=>
 (aa=true→
 K (c8.mk 2 0 (Sl.mk none 0 0) (Sl.mk none 0 0)) ab ac)∧
 (aa=false→
 m6 ab ⟨#[33]⟩ ac (fun ad ae af=>
 (ad=true→
 D2 ae (IntKind.wrap .i64 (x1+1)) af (fun am an ao=>
 ∀(g:Sl) (k:Hp),Hle ao k→SlH k 4 f7 g [am]→g.n≤g.c→
 K (c8.mk 4 0 (Sl.mk none 0 0) g) an k))∧
 (ad=false→
 m6 ae ⟨#[91]⟩ af (fun ag ah ai=>
 (ag=true→
 G1 ah (IntKind.wrap .i64 (x1+1)) ai (fun ap aq ar=>
 B7 aq ⟨#[93]⟩ ar (fun au av=>
 K ap au av)))∧
 (ag=false→
 t6 ah x1 ai (fun aw b ax=>
 G7 b ax (fun l aj=>
 (l=0→
 p8 b 40 aj (fun ay az=>
 K (c8.mk 0 0 (Sl.mk none 0 0) (Sl.mk none 0 0)) ay az))∧
 (¬(l=0)→
 t6 (b8.mk b.fl (IntKind.wrap .i64 (b.fat+1)) b.fbad b.fpos) x1 aj (fun ba bb bc=>
 ∀(i:Sl) (m:Hp),Hle bc m→SlH m 4 d7 i [aw,ba]→i.n≤i.c→
 K (c8.mk 3 l i (Sl.mk none 0 0)) bb m)))))))))))))))))))))
theorem a5z (x0 x1) {H K} (h:a5y x0 x1 H K):D2 x0 x1 H K:=by
 intro g0
 refine Ct.of fun w0 w ps0 H0 R E I hR=>c7S ?_
 unfold a5y at h
 unfold d1y
 refine m9 I Tryz.zeroValue49 (cs:=[(vi 0),(vi 0),(nS),(nS)]) rfl fun bo ed bv ee=>?_
 refine a7 (o5 _) (a7 a3S (g5 (l1 Tryz.isAgg3 (bv.bring 1) rfl) (a7 pNe ?_)))
 refine Z9 h (fun _ h=>?_) (fun _ h=>?_)
 ·refine a7 (a8s) ?_
  refine f8 bv Tryz.sizeOf49 (vs:=[(vi 0),(vi 0),(nS),(nS)]) (cs':=[(vi 0),(vi 0),(nS),(nS)]) rfl rfl (nb rfl) rfl rfl fun ef ca eg=>?_
  refine o4 Tryz.isAgg49 Tryz.sizeOf49 rfl (ca.at1 (o:=0) (vs:=[(vi 0),(vi 0),(nS),(nS)]) (nb rfl) rfl) ?_
  exact hR _ H _ _ ca.drop ⟨(c8.mk 0 0 (Sl.mk none 0 0) (Sl.mk none 0 0)),x0,rfl,rfl,h⟩
 ·refine g6 Tryz.call146 (h g0) (bv.bring 1) ?_
  rintro _ cb _ cc cd _ _ ⟨p,rfl,rfl,h⟩
  refine a7 (K5 _) ?_
  simp only [q9]
  refine G6 (D:=fun ce bl=>∃(j:Bool) (ap:Hp),ce=(gv (!p) true (vB j))∧(Inv w0 ps0 H0 ap [bx g0 66 (i7 x0),bx bo 49 [(vi 0),(vi 0),(nS),(nS)]] bl)∧(∀i,i < cc.heap.size→¬inF [bx g0 66 (i7 x0)] i→bl.heap[i]? = cc.heap[i]?)∧Hle cb ap∧(TG (((!p)&&(!j))=true) (l8 x0 ⟨#[102,97,108,115,101]⟩ ap) false ap (fun (l:Bool) (ae:Hp)=>
 TG ((((!p)&&(!j))&&(!l))=true) (l8 x0 ⟨#[33]⟩ ae) false ae (fun (q:Bool) (u:Hp)=>
 TG (((((!p)&&(!j))&&(!l))&&(!q))=true) (l8 x0 ⟨#[91]⟩ u) false u (fun (v:Bool) (t:Hp)=>
 ((((((!p)&&(!j))&&(!l))&&(!q))&&(!v))=true→
 p8 x0 40 t (fun (aq:b8) (ar:Hp)=>
 K (c8.mk 0 0 (Sl.mk none 0 0) (Sl.mk none 0 0)) aq ar))∧
 ((((((!p)&&(!j))&&(!l))&&(!q))&&(!v))=false→
 G0 x0 x1 t (fun (k:b8) (z:Hp)=>
 (¬(k.fbad=0)→
 K (c8.mk 0 0 (Sl.mk none 0 0) (Sl.mk none 0 0)) k z)∧
 (k.fbad=0→
 m6 k ⟨#[116,114,117,101]⟩ z (fun (af:Bool) (aa:b8) (ab:Hp)=>
 (af=true→
 K (c8.mk 1 0 (Sl.mk none 0 0) (Sl.mk none 0 0)) aa ab)∧
 (af=false→
 m6 aa ⟨#[102,97,108,115,101]⟩ ab (fun (ag:Bool) (ac:b8) (ad:Hp)=>
 (ag=true→
 K (c8.mk 2 0 (Sl.mk none 0 0) (Sl.mk none 0 0)) ac ad)∧
 (ag=false→
 m6 ac ⟨#[33]⟩ ad (fun (ah:Bool) (ai:b8) (al:Hp)=>
 (ah=true→
 D2 ai (IntKind.wrap .i64 (x1+1)) al (fun (au:c8) (av:b8) (bd:Hp)=>
 ∀(d:Sl) (r:Hp),Hle bd r→SlH r 4 f7 d [au]→d.n≤d.c→
 K (c8.mk 4 0 (Sl.mk none 0 0) d) av r))∧
 (ah=false→
 m6 ai ⟨#[91]⟩ al (fun (aj:Bool) (ak:b8) (am:Hp)=>
 (aj=true→
 G1 ak (IntKind.wrap .i64 (x1+1)) am (fun (y:c8) (bc:b8) (be:Hp)=>
 B7 bc ⟨#[93]⟩ be (fun (aw:b8) (ax:Hp)=>
 K y aw ax)))∧
 (aj=false→
 t6 ak x1 am (fun (an:d6) (b:b8) (bf:Hp)=>
 G7 b bf (fun (m:Int) (ao:Hp)=>
 (m=0→
 p8 b 40 ao (fun (ay:b8) (az:Hp)=>
 K (c8.mk 0 0 (Sl.mk none 0 0) (Sl.mk none 0 0)) ay az))∧
 (¬(m=0)→
 t6 (b8.mk b.fl (IntKind.wrap .i64 (b.fat+1)) b.fbad b.fpos) x1 ao (fun (ba:d6) (bb:b8) (bg:Hp)=>
 ∀(f:Sl) (s:Hp),Hle bg s→SlH s 4 d7 f [an,ba]→f.n≤f.c→
 K (c8.mk 3 m f (Sl.mk none 0 0)) bb s)))))))))))))))))))) (fun bh=>?_) (fun bh=>?_) ?_
  ·replace h:=h.1 bh
   have a:=bh
   simp only [k7 a]
   refine g6 Tryz.call23 (h g0) cd ?_
   rintro _ ap _ bl bp cf cg ⟨j,rfl,rfl,h⟩
   exact ⟨j,ap,by rfl,bp,cg,cf,h⟩
  ·exact ⟨false,cb,by rw [R9 bh],cd,fun _ _ _=>rfl,Hle.refl _,h.2 bh⟩
  ·clear h
   rintro ce bl ⟨j,ap,rfl,bp,cg,cf,h⟩
   refine a7 (Pu.g fun a=>by simp only [k7 a];with_reducible exact (K5 _)) ?_
   refine a7 (u4 _ _) ?_
   simp only [q9]
   refine G6 (D:=fun ch bm=>∃(l:Bool) (ae:Hp),ch=(gv ((!p)&&(!j)) true (vB l))∧(Inv w0 ps0 H0 ae [bx g0 66 (i7 x0),bx bo 49 [(vi 0),(vi 0),(nS),(nS)]] bm)∧(∀i,i < bl.heap.size→¬inF [bx g0 66 (i7 x0)] i→bm.heap[i]? = bl.heap[i]?)∧Hle ap ae∧(TG ((((!p)&&(!j))&&(!l))=true) (l8 x0 ⟨#[33]⟩ ae) false ae (fun (q:Bool) (u:Hp)=>
 TG (((((!p)&&(!j))&&(!l))&&(!q))=true) (l8 x0 ⟨#[91]⟩ u) false u (fun (v:Bool) (t:Hp)=>
 ((((((!p)&&(!j))&&(!l))&&(!q))&&(!v))=true→
 p8 x0 40 t (fun (aq:b8) (ar:Hp)=>
 K (c8.mk 0 0 (Sl.mk none 0 0) (Sl.mk none 0 0)) aq ar))∧
 ((((((!p)&&(!j))&&(!l))&&(!q))&&(!v))=false→
 G0 x0 x1 t (fun (k:b8) (z:Hp)=>
 (¬(k.fbad=0)→
 K (c8.mk 0 0 (Sl.mk none 0 0) (Sl.mk none 0 0)) k z)∧
 (k.fbad=0→
 m6 k ⟨#[116,114,117,101]⟩ z (fun (af:Bool) (aa:b8) (ab:Hp)=>
 (af=true→
 K (c8.mk 1 0 (Sl.mk none 0 0) (Sl.mk none 0 0)) aa ab)∧
 (af=false→
 m6 aa ⟨#[102,97,108,115,101]⟩ ab (fun (ag:Bool) (ac:b8) (ad:Hp)=>
 (ag=true→
 K (c8.mk 2 0 (Sl.mk none 0 0) (Sl.mk none 0 0)) ac ad)∧
 (ag=false→
 m6 ac ⟨#[33]⟩ ad (fun (ah:Bool) (ai:b8) (al:Hp)=>
 (ah=true→
 D2 ai (IntKind.wrap .i64 (x1+1)) al (fun (au:c8) (av:b8) (bd:Hp)=>
 ∀(d:Sl) (r:Hp),Hle bd r→SlH r 4 f7 d [au]→d.n≤d.c→
 K (c8.mk 4 0 (Sl.mk none 0 0) d) av r))∧
 (ah=false→
 m6 ai ⟨#[91]⟩ al (fun (aj:Bool) (ak:b8) (am:Hp)=>
 (aj=true→
 G1 ak (IntKind.wrap .i64 (x1+1)) am (fun (y:c8) (bc:b8) (be:Hp)=>
 B7 bc ⟨#[93]⟩ be (fun (aw:b8) (ax:Hp)=>
 K y aw ax)))∧
 (aj=false→
 t6 ak x1 am (fun (an:d6) (b:b8) (bf:Hp)=>
 G7 b bf (fun (m:Int) (ao:Hp)=>
 (m=0→
 p8 b 40 ao (fun (ay:b8) (az:Hp)=>
 K (c8.mk 0 0 (Sl.mk none 0 0) (Sl.mk none 0 0)) ay az))∧
 (¬(m=0)→
 t6 (b8.mk b.fl (IntKind.wrap .i64 (b.fat+1)) b.fbad b.fpos) x1 ao (fun (ba:d6) (bb:b8) (bg:Hp)=>
 ∀(f:Sl) (s:Hp),Hle bg s→SlH s 4 d7 f [an,ba]→f.n≤f.c→
 K (c8.mk 3 m f (Sl.mk none 0 0)) bb s))))))))))))))))))) (fun bi=>?_) (fun bi=>?_) ?_
   ·replace h:=h.1 bi
    have a:=bi
    simp only [k7 a]
    refine g6 Tryz.call23 (h g0) bp ?_
    rintro _ ae _ bm bq ci cj ⟨l,rfl,rfl,h⟩
    exact ⟨l,ae,by rfl,bq,cj,ci,h⟩
   ·exact ⟨false,ap,by rw [R9 bi],bp,fun _ _ _=>rfl,Hle.refl _,h.2 bi⟩
   ·clear h
    rintro ch bm ⟨l,ae,rfl,bq,cj,ci,h⟩
    refine a7 (Pu.g fun a=>by simp only [k7 a];with_reducible exact (K5 _)) ?_
    refine a7 (u4 _ _) ?_
    simp only [q9]
    refine G6 (D:=fun ck bn=>∃(q:Bool) (u:Hp),ck=(gv (((!p)&&(!j))&&(!l)) true (vB q))∧(Inv w0 ps0 H0 u [bx g0 66 (i7 x0),bx bo 49 [(vi 0),(vi 0),(nS),(nS)]] bn)∧(∀i,i < bm.heap.size→¬inF [bx g0 66 (i7 x0)] i→bn.heap[i]? = bm.heap[i]?)∧Hle ae u∧(TG (((((!p)&&(!j))&&(!l))&&(!q))=true) (l8 x0 ⟨#[91]⟩ u) false u (fun (v:Bool) (t:Hp)=>
 ((((((!p)&&(!j))&&(!l))&&(!q))&&(!v))=true→
 p8 x0 40 t (fun (aq:b8) (ar:Hp)=>
 K (c8.mk 0 0 (Sl.mk none 0 0) (Sl.mk none 0 0)) aq ar))∧
 ((((((!p)&&(!j))&&(!l))&&(!q))&&(!v))=false→
 G0 x0 x1 t (fun (k:b8) (z:Hp)=>
 (¬(k.fbad=0)→
 K (c8.mk 0 0 (Sl.mk none 0 0) (Sl.mk none 0 0)) k z)∧
 (k.fbad=0→
 m6 k ⟨#[116,114,117,101]⟩ z (fun (af:Bool) (aa:b8) (ab:Hp)=>
 (af=true→
 K (c8.mk 1 0 (Sl.mk none 0 0) (Sl.mk none 0 0)) aa ab)∧
 (af=false→
 m6 aa ⟨#[102,97,108,115,101]⟩ ab (fun (ag:Bool) (ac:b8) (ad:Hp)=>
 (ag=true→
 K (c8.mk 2 0 (Sl.mk none 0 0) (Sl.mk none 0 0)) ac ad)∧
 (ag=false→
 m6 ac ⟨#[33]⟩ ad (fun (ah:Bool) (ai:b8) (al:Hp)=>
 (ah=true→
 D2 ai (IntKind.wrap .i64 (x1+1)) al (fun (au:c8) (av:b8) (bd:Hp)=>
 ∀(d:Sl) (r:Hp),Hle bd r→SlH r 4 f7 d [au]→d.n≤d.c→
 K (c8.mk 4 0 (Sl.mk none 0 0) d) av r))∧
 (ah=false→
 m6 ai ⟨#[91]⟩ al (fun (aj:Bool) (ak:b8) (am:Hp)=>
 (aj=true→
 G1 ak (IntKind.wrap .i64 (x1+1)) am (fun (y:c8) (bc:b8) (be:Hp)=>
 B7 bc ⟨#[93]⟩ be (fun (aw:b8) (ax:Hp)=>
 K y aw ax)))∧
 (aj=false→
 t6 ak x1 am (fun (an:d6) (b:b8) (bf:Hp)=>
 G7 b bf (fun (m:Int) (ao:Hp)=>
 (m=0→
 p8 b 40 ao (fun (ay:b8) (az:Hp)=>
 K (c8.mk 0 0 (Sl.mk none 0 0) (Sl.mk none 0 0)) ay az))∧
 (¬(m=0)→
 t6 (b8.mk b.fl (IntKind.wrap .i64 (b.fat+1)) b.fbad b.fpos) x1 ao (fun (ba:d6) (bb:b8) (bg:Hp)=>
 ∀(f:Sl) (s:Hp),Hle bg s→SlH s 4 d7 f [an,ba]→f.n≤f.c→
 K (c8.mk 3 m f (Sl.mk none 0 0)) bb s)))))))))))))))))) (fun bj=>?_) (fun bj=>?_) ?_
    ·replace h:=h.1 bj
     have a:=bj
     simp only [k7 a]
     refine g6 Tryz.call23 (h g0) bq ?_
     rintro _ u _ bn br cl cm ⟨q,rfl,rfl,h⟩
     exact ⟨q,u,by rfl,br,cm,cl,h⟩
    ·exact ⟨false,ae,by rw [R9 bj],bq,fun _ _ _=>rfl,Hle.refl _,h.2 bj⟩
    ·clear h
     rintro ck bn ⟨q,u,rfl,br,cm,cl,h⟩
     refine a7 (Pu.g fun a=>by simp only [k7 a];with_reducible exact (K5 _)) ?_
     refine a7 (u4 _ _) ?_
     simp only [q9]
     refine G6 (D:=fun cn bs=>∃(v:Bool) (t:Hp),cn=(gv ((((!p)&&(!j))&&(!l))&&(!q)) true (vB v))∧(Inv w0 ps0 H0 t [bx g0 66 (i7 x0),bx bo 49 [(vi 0),(vi 0),(nS),(nS)]] bs)∧(∀i,i < bn.heap.size→¬inF [bx g0 66 (i7 x0)] i→bs.heap[i]? = bn.heap[i]?)∧Hle u t∧(((((((!p)&&(!j))&&(!l))&&(!q))&&(!v))=true→
 p8 x0 40 t (fun (aq:b8) (ar:Hp)=>
 K (c8.mk 0 0 (Sl.mk none 0 0) (Sl.mk none 0 0)) aq ar))∧
 ((((((!p)&&(!j))&&(!l))&&(!q))&&(!v))=false→
 G0 x0 x1 t (fun (k:b8) (z:Hp)=>
 (¬(k.fbad=0)→
 K (c8.mk 0 0 (Sl.mk none 0 0) (Sl.mk none 0 0)) k z)∧
 (k.fbad=0→
 m6 k ⟨#[116,114,117,101]⟩ z (fun (af:Bool) (aa:b8) (ab:Hp)=>
 (af=true→
 K (c8.mk 1 0 (Sl.mk none 0 0) (Sl.mk none 0 0)) aa ab)∧
 (af=false→
 m6 aa ⟨#[102,97,108,115,101]⟩ ab (fun (ag:Bool) (ac:b8) (ad:Hp)=>
 (ag=true→
 K (c8.mk 2 0 (Sl.mk none 0 0) (Sl.mk none 0 0)) ac ad)∧
 (ag=false→
 m6 ac ⟨#[33]⟩ ad (fun (ah:Bool) (ai:b8) (al:Hp)=>
 (ah=true→
 D2 ai (IntKind.wrap .i64 (x1+1)) al (fun (au:c8) (av:b8) (bd:Hp)=>
 ∀(d:Sl) (r:Hp),Hle bd r→SlH r 4 f7 d [au]→d.n≤d.c→
 K (c8.mk 4 0 (Sl.mk none 0 0) d) av r))∧
 (ah=false→
 m6 ai ⟨#[91]⟩ al (fun (aj:Bool) (ak:b8) (am:Hp)=>
 (aj=true→
 G1 ak (IntKind.wrap .i64 (x1+1)) am (fun (y:c8) (bc:b8) (be:Hp)=>
 B7 bc ⟨#[93]⟩ be (fun (aw:b8) (ax:Hp)=>
 K y aw ax)))∧
 (aj=false→
 t6 ak x1 am (fun (an:d6) (b:b8) (bf:Hp)=>
 G7 b bf (fun (m:Int) (ao:Hp)=>
 (m=0→
 p8 b 40 ao (fun (ay:b8) (az:Hp)=>
 K (c8.mk 0 0 (Sl.mk none 0 0) (Sl.mk none 0 0)) ay az))∧
 (¬(m=0)→
 t6 (b8.mk b.fl (IntKind.wrap .i64 (b.fat+1)) b.fbad b.fpos) x1 ao (fun (ba:d6) (bb:b8) (bg:Hp)=>
 ∀(f:Sl) (s:Hp),Hle bg s→SlH s 4 d7 f [an,ba]→f.n≤f.c→
 K (c8.mk 3 m f (Sl.mk none 0 0)) bb s))))))))))))))))) (fun bk=>?_) (fun bk=>?_) ?_
     ·replace h:=h.1 bk
      have a:=bk
      simp only [k7 a]
      refine g6 Tryz.call23 (h g0) br ?_
      rintro _ t _ bs bt co cp ⟨v,rfl,rfl,h⟩
      exact ⟨v,t,by rfl,bt,cp,co,h⟩
     ·exact ⟨false,u,by rw [R9 bk],br,fun _ _ _=>rfl,Hle.refl _,h.2 bk⟩
     ·clear h
      rintro cn bs ⟨v,t,rfl,bt,cp,co,h⟩
      refine a7 (Pu.g fun a=>by simp only [k7 a];with_reducible exact (K5 _)) ?_
      refine a7 (u4 _ _) ?_
      refine m0 h (fun _ h=>?_) (fun _ h=>?_)
      ·refine g6 Tryz.call66 (h g0) bt ?_
       rintro _ ar _ eh de _ _ ⟨aq,rfl,rfl,h⟩
       refine a7 (a8s) ?_
       refine f8 (de.bring 1) Tryz.sizeOf49 (vs:=[(vi 0),(vi 0),(nS),(nS)]) (cs':=[(vi 0),(vi 0),(nS),(nS)]) rfl rfl (nb rfl) rfl rfl fun ei cq ej=>?_
       refine o4 Tryz.isAgg49 Tryz.sizeOf49 rfl (cq.at1 (o:=0) (vs:=[(vi 0),(vi 0),(nS),(nS)]) (nb rfl) rfl) ?_
       exact hR _ ar _ _ cq.drop ⟨(c8.mk 0 0 (Sl.mk none 0 0) (Sl.mk none 0 0)),aq,rfl,rfl,h⟩
      ·refine g6 Tryz.call114 (h g0) bt ?_
       rintro _ z _ ek bw _ _ ⟨k,rfl,rfl,h⟩
       refine a7 (o5 _) (a7 a3S (g5 (l1 Tryz.isAgg3 bw rfl) (a7 pNe ?_)))
       refine Z9 h (fun _ h=>?_) (fun _ h=>?_)
       ·refine a7 (a8s) ?_
        refine f8 (bw.bring 1) Tryz.sizeOf49 (vs:=[(vi 0),(vi 0),(nS),(nS)]) (cs':=[(vi 0),(vi 0),(nS),(nS)]) rfl rfl (nb rfl) rfl rfl fun el cr em=>?_
        refine o4 Tryz.isAgg49 Tryz.sizeOf49 rfl (cr.at1 (o:=0) (vs:=[(vi 0),(vi 0),(nS),(nS)]) (nb rfl) rfl) ?_
        exact hR _ z _ _ cr.drop ⟨(c8.mk 0 0 (Sl.mk none 0 0) (Sl.mk none 0 0)),k,rfl,rfl,h⟩
       ·refine g6 Tryz.call67 (h g0) bw ?_
        rintro _ ab _ en ct _ _ ⟨af,aa,rfl,rfl,h⟩
        refine m0 h (fun _ h=>?_) (fun _ h=>?_)
        ·refine a7 (a9N _) ?_
         refine f8 (ct.bring 1) Tryz.sizeOf49 (vs:=[(vi 1),(vi 0),(nS),(nS)]) (cs':=[(vi 1),(vi 0),(nS),(nS)]) rfl rfl (nb rfl) rfl rfl fun eo cu ep=>?_
         refine o4 Tryz.isAgg49 Tryz.sizeOf49 rfl (cu.at1 (o:=0) (vs:=[(vi 1),(vi 0),(nS),(nS)]) (nb rfl) rfl) ?_
         exact hR _ ab _ _ cu.drop ⟨(c8.mk 1 0 (Sl.mk none 0 0) (Sl.mk none 0 0)),aa,rfl,rfl,h⟩
        ·refine g6 Tryz.call67 (h g0) ct ?_
         rintro _ ad _ eq cv _ _ ⟨ag,ac,rfl,rfl,h⟩
         refine m0 h (fun _ h=>?_) (fun _ h=>?_)
         ·refine a7 (a9N _) ?_
          refine f8 (cv.bring 1) Tryz.sizeOf49 (vs:=[(vi 2),(vi 0),(nS),(nS)]) (cs':=[(vi 2),(vi 0),(nS),(nS)]) rfl rfl (nb rfl) rfl rfl fun er cw es=>?_
          refine o4 Tryz.isAgg49 Tryz.sizeOf49 rfl (cw.at1 (o:=0) (vs:=[(vi 2),(vi 0),(nS),(nS)]) (nb rfl) rfl) ?_
          exact hR _ ad _ _ cw.drop ⟨(c8.mk 2 0 (Sl.mk none 0 0) (Sl.mk none 0 0)),ac,rfl,rfl,h⟩
         ·refine g6 Tryz.call67 (h g0) cv ?_
          rintro _ _ _ et cx _ _ ⟨ah,ai,rfl,rfl,h⟩
          refine m0 h (fun _ h=>?_) (fun _ h=>?_)
          ·refine a7 pAd ?_
           refine g6 Tryz.call127 (h g0) cx ?_
           rintro _ _ _ eu df _ _ ⟨au,av,rfl,rfl,h⟩
           refine V9 (e:=49) (c:=f7) (xs:=[au]) df (b0R _ _ _ _ _ _ _ _) rfl rfl V7 V8 (nb rfl) fun d ev ew dg dh ex=>?_
           refine a7 (a6z _ _ _ _) ?_
           refine f8 (dh.bring 2) Tryz.sizeOf49 (vs:=[(vi 4),(vi 0),(nS),(vs d)]) (cs':=[(vi 4),(vi 0),(nS),(vs d)]) rfl rfl (nb rfl) rfl rfl fun ey cy ez=>?_
           refine o4 Tryz.isAgg49 Tryz.sizeOf49 rfl (cy.at1 (o:=0) (vs:=[(vi 4),(vi 0),(nS),(vs d)]) (nb rfl) rfl) ?_
           obtain ⟨r,di,dj,dk,dl⟩:=Inv.freezeC (cy.bring 1) dg (by decide)
           replace h:=h d r dj dk dl
           exact hR _ r _ _ di.drop ⟨(c8.mk 4 0 (Sl.mk none 0 0) d),av,rfl,rfl,h⟩
          ·refine g6 Tryz.call67 (h g0) cx ?_
           rintro _ _ _ fa cz _ _ ⟨aj,ak,rfl,rfl,h⟩
           refine m0 h (fun _ h=>?_) (fun _ h=>?_)
           ·refine a7 pAd ?_
            refine g6 Tryz.call43 (h g0) cz ?_
            rintro _ _ _ fb dm _ _ ⟨y,bc,rfl,rfl,h⟩
            refine m9 dm Tryz.zeroValue49 (cs:=[(vi 0),(vi 0),(nS),(nS)]) rfl fun fc fd dn fe=>?_
            refine f8 dn Tryz.sizeOf49 (vs:=(f7 y)) (cs':=(f7 y)) rfl rfl (nb rfl) rfl rfl fun ff dp fg=>?_
            refine g6 Tryz.call65 (h g0) (dp.bring 1) ?_
            rintro _ ax _ fh da _ _ ⟨aw,rfl,rfl,h⟩
            refine g5 (lW Tryz.isAgg49 Tryz.sizeOf49 rfl (da.bring 1)) ?_
            refine f8 (da.bring 2) Tryz.sizeOf49 (vs:=(f7 y)) (cs':=(f7 y)) rfl rfl (nb rfl) rfl rfl fun fi db fj=>?_
            refine o4 Tryz.isAgg49 Tryz.sizeOf49 rfl (db.at1 (o:=0) (vs:=(f7 y)) (nb rfl) rfl) ?_
            exact hR _ ax _ _ (db.drop.bring 1).drop ⟨y,aw,rfl,rfl,h⟩
           ·refine g6 Tryz.call37 (h g0) cz ?_
            rintro _ _ _ fk dq _ _ ⟨an,b,rfl,rfl,h⟩
            refine m9 dq Tryz.zeroValue40 (cs:=[(vi 0),(vi 0),(eS),(nS)]) rfl fun fm fn dr fo=>?_
            refine f8 dr Tryz.sizeOf40 (vs:=(d7 an)) (cs':=(d7 an)) rfl rfl (nb rfl) rfl rfl fun fp ds fq=>?_
            refine g6 Tryz.call147 (h g0) (ds.bring 1) ?_
            rintro _ _ _ fs bz _ _ ⟨m,rfl,rfl,h⟩
            refine a7 pEq ?_
            refine l7 h (fun _ h=>?_) (fun _ h=>?_)
            ·refine g6 Tryz.call66 (h g0) bz ?_
             rintro _ az _ ft dt _ _ ⟨ay,rfl,rfl,h⟩
             refine a7 (a8s) ?_
             refine f8 (dt.bring 2) Tryz.sizeOf49 (vs:=[(vi 0),(vi 0),(nS),(nS)]) (cs':=[(vi 0),(vi 0),(nS),(nS)]) rfl rfl (nb rfl) rfl rfl fun fu dc fv=>?_
             refine o4 Tryz.isAgg49 Tryz.sizeOf49 rfl (dc.at1 (o:=0) (vs:=[(vi 0),(vi 0),(nS),(nS)]) (nb rfl) rfl) ?_
             exact hR _ az _ _ (dc.drop.bring 1).drop ⟨(c8.mk 0 0 (Sl.mk none 0 0) (Sl.mk none 0 0)),ay,rfl,rfl,h⟩
            ·refine a7 (o5 _) (a7 a1W (g5 (l1 Tryz.isAgg3 bz rfl) (a7 pAd (a7 (o5 _) ?_))))
             refine a7 a1W ?_
             refine f8 bz Tryz.sizeOf3 (vs:=[(vi (IntKind.wrap .i64 (b.fat+1)))]) (cs':=[(vs b.fl),(vi (IntKind.wrap .i64 (b.fat+1))),(vi b.fbad),(vi b.fpos.o8),(vi b.fpos.s6)]) rfl rfl (nb rfl) rfl rfl fun fw du fx=>?_
             refine P3 du fun fy bu=>?_
             refine t8 (lW Tryz.isAgg40 Tryz.sizeOf40 rfl (bu.bring 1)) ?_
             refine g6 Tryz.call37 (h g0) bu ?_
             rintro _ _ _ fz dv _ dw ⟨ba,bb,rfl,rfl,h⟩
             refine ⟨(dw _ (bu.bring 1).lt1 (Inv.a1B (Fi:=[bx g0 66 [(vs b.fl),(vi (IntKind.wrap .i64 (b.fat+1))),(vi b.fbad),(vi b.fpos.o8),(vi b.fpos.s6)]]) ((bu.bring 1).bring 1))),?_⟩
             refine V9 (e:=40) (c:=d7) (xs:=[an,ba]) dv (b2m _ _ _ _ _ _ _ _ _ _ _ _) rfl rfl N2 N3 (nb rfl) fun f ga gb dx dy gc=>?_
             refine o7 (b1N _ _ _ _ _) ?_
             refine f8 (dy.bring 3) Tryz.sizeOf49 (vs:=[(vi 3),(vi m),(vs f),(nS)]) (cs':=[(vi 3),(vi m),(vs f),(nS)]) rfl rfl (nb rfl) rfl rfl fun gd dd ge=>?_
             refine o4 Tryz.isAgg49 Tryz.sizeOf49 rfl (dd.at1 (o:=0) (vs:=[(vi 3),(vi m),(vs f),(nS)]) (nb rfl) rfl) ?_
             obtain ⟨s,dz,ea,eb,ec⟩:=Inv.freezeC (dd.bring 1) dx (by decide)
             replace h:=h f s ea eb ec
             exact hR _ s _ _ (dz.drop.bring 1).drop ⟨(c8.mk 3 m f (Sl.mk none 0 0)),bb,rfl,rfl,h⟩
def a0X (o9:b8) (a:c8) (b:c8) (H:Hp) (K:c8→b8→Hp→Prop):Prop:=
 K a o9 H
def V4 (T4:Int) (d:c8) (o6:b8) (e:c8) (H:Hp) (n2:(c8×b8×c8)→Hp→Prop) (K:c8→b8→Hp→Prop):Prop:=
 m6 o6 ⟨#[124,124]⟩ H (fun f g i=>
 (f=true→
 Y8 g T4 i (fun j k l=>
 ∀(a:Sl) (b:Hp),Hle l b→SlH b 4 f7 a [d,j]→a.n≤a.c→
 n2 ((c8.mk 6 0 (Sl.mk none 0 0) a),k,e) b))∧
 (f=false→
 a0X g d e i K))
def a1O (x0:b8) (x1:Int) (H:Hp) (K:c8→b8→Hp→Prop):Prop:=
 Y8 x0 x1 H (fun a b c=>
 TL ((a,b,(c8.mk 0 0 (Sl.mk none 0 0) (Sl.mk none 0 0))):c8×b8×c8) c fun (s:c8×b8×c8) H n2=>V4 x1 s.1 s.2.1 s.2.2 H n2 K)
theorem a8I (x0 x1) {H K} (h:a1O x0 x1 H K):G1 x0 x1 H K:=by
 intro g0
 refine Ct.of fun w0 w ps0 H0 R E I hR=>d0k ?_
 unfold a1O at h
 unfold F43
 refine m9 I Tryz.zeroValue49 (cs:=[(vi 0),(vi 0),(nS),(nS)]) rfl fun m ay ab az=>?_
 refine g6 Tryz.call90 (h g0) (ab.bring 1) ?_
 rintro _ ac _ ba ad _ _ ⟨p,ae,rfl,rfl,h⟩
 refine m9 ad Tryz.zeroValue49 (cs:=[(vi 0),(vi 0),(nS),(nS)]) rfl fun q bb af bc=>?_
 refine f8 af Tryz.sizeOf49 (vs:=(f7 p)) (cs':=(f7 p)) rfl rfl (nb rfl) rfl rfl fun bd ag be=>?_
 have hj1:∀(o9:b8) (g:c8) (r:c8) H w (_:Inv w0 ps0 H0 H [bx g0 66 (i7 o9),bx q 49 (f7 g),bx m 49 (f7 r)] w) (_:a0X o9 g r H K),b9j (Value.pointer (some ⟨m,0,none⟩)) (Value.pointer (some ⟨q,0,none⟩)) w R E:=by
  intro o9 g r H w I h
  unfold b9j
  intro _
  unfold a0X at h
  refine g5 (lW Tryz.isAgg49 Tryz.sizeOf49 rfl (I.bring 1)) ?_
  refine f8 (I.bring 2) Tryz.sizeOf49 (vs:=(f7 g)) (cs':=(f7 g)) rfl rfl (nb rfl) rfl rfl fun bf u bg=>?_
  refine o4 Tryz.isAgg49 Tryz.sizeOf49 rfl (u.at1 (o:=0) (vs:=(f7 g)) (nb rfl) rfl) ?_
  exact hR _ H _ _ (u.drop.bring 1).drop ⟨g,o9,rfl,rfl,h⟩
 refine r9 fun j1 hx1=>?_
 obtain ⟨t,i,ah,ai⟩:=h
 refine B0 (J:=fun n l w=>∃(s:c8×b8×c8) (H:Hp),n=i s∧l=(match s with | (d,o6,f)=>[])∧(match s with | (d,o6,f)=>Inv w0 ps0 H0 H [bx q 49 (f7 d),bx g0 66 (i7 o6),bx m 49 (f7 f)] w)∧t s H) ⟨_,(p,ae,(c8.mk 0 0 (Sl.mk none 0 0) (Sl.mk none 0 0))),ac,rfl,rfl,(((ag.bring 2).bring 2).bring 2),ah⟩ ?_
 rintro bh bi w next2 ⟨⟨d,o6,f⟩,H,rfl,v,I,aj⟩ hn2
 dsimp only at v I
 clear v
 obtain ⟨n2,hm2,h⟩:∃n2:(c8×b8×c8)→Hp→Prop,(∀s' H',n2 s' H'→t s' H'∧i s' < i (d,o6,f))∧V4 x1 d o6 f H n2 K:=⟨_,fun _ _ h=>h,ai (d,o6,f) H (fun s' H'=>t s' H'∧i s' < i (d,o6,f)) aj (fun _ _ a b=>⟨a,b⟩)⟩
 unfold c3M
 unfold V4 at h
 refine g6 Tryz.call67 (h g0) (I.bring 1) ?_
 rintro _ ak _ bj y _ _ ⟨bk,z,rfl,rfl,h⟩
 refine m0 h (fun _ h=>?_) (fun _ h=>?_)
 ·refine P3 y fun bl j=>?_
  refine t8 (lW Tryz.isAgg49 Tryz.sizeOf49 rfl (j.bring 1)) ?_
  refine g6 Tryz.call90 (h g0) j ?_
  rintro _ _ _ bm al _ am ⟨an,ao,rfl,rfl,h⟩
  refine ⟨(am _ (j.bring 1).lt1 (Inv.a1B (Fi:=[bx g0 66 (i7 z)]) ((j.bring 1).bring 1))),?_⟩
  refine V9 (e:=49) (c:=f7) (xs:=[d,an]) al (b6w _ _ _ _ _ _ _ _ _ _ _ _ _ _ _ _) rfl rfl V7 V8 (nb rfl) fun k bn bo ap aq bp=>?_
  refine o7 (a6z _ _ _ _) ?_
  refine f8 (aq.bring 2) Tryz.sizeOf49 (vs:=[(vi 6),(vi 0),(nS),(vs k)]) (cs':=[(vi 6),(vi 0),(nS),(vs k)]) rfl rfl (nb rfl) rfl rfl fun bq ar br=>?_
  obtain ⟨aa,au,av,aw,ax⟩:=Inv.freezeC (ar.bring 1) ap (by decide)
  replace h:=h k aa av aw ax
  exact hn2 _ _ _ (hm2 _ _ h).2 ⟨((c8.mk 6 0 (Sl.mk none 0 0) k),ao,f),aa,rfl,rfl,(((au.bring 2).bring 2).bring 2),(hm2 _ _ h).1⟩
 ·exact hx1 _ _ (hj1 z d f ak _ (((y.bring 2).bring 2).bring 2) h)
def a1t (b3T:ByteArray) (a9A:Int) (a2s:Int) (H:Hp) (n1:(Int×Int)→Hp→Prop) (K:Int→Int→Hp→Prop):Prop:=
 T9 b3T a9A H (fun a c b=>
 (((!decide (a=3))&&(!decide (a=4)))=true→
 K a9A a2s b)∧
 (((!decide (a=3))&&(!decide (a=4)))=false→
 n1 ((IntKind.wrap .i64 (a9A+c)),(IntKind.wrap .i64 (a2s+1))) b))
def a5i (x0:ByteArray) (x1:Int) (H:Hp) (K:Int→Int→Hp→Prop):Prop:=
 TL ((x1,0):Int×Int) H fun (s:Int×Int) H n1=>a1t x0 s.1 s.2 H n1 K
theorem b1I (x0 x1) {H K} (h:a5i x0 x1 H K):a4Z x0 x1 H K:=by
 refine Ct.of fun w0 w ps0 H0 R E I hR=>c7C ?_
 unfold a5i at h
 unfold d1i
 obtain ⟨e,d,m,o⟩:=h
 refine B0 (J:=fun n l w=>∃(s:Int×Int) (H:Hp),n=d s∧l=(match s with | (a9A,a2s)=>[(vi a9A),(vi a2s)])∧(match s with | (a9A,a2s)=>Inv w0 ps0 H0 H [] w)∧e s H) ⟨_,(x1,0),H,rfl,rfl,I,m⟩ ?_
 rintro r t w next1 ⟨⟨a9A,a2s⟩,H,rfl,f,I,p⟩ hn1
 dsimp only at f I
 simp only [List.map_cons,List.map_nil,List.cons.injEq,and_true] at f
 obtain ⟨e1,e6⟩:=f
 simp only [e1,e6]
 obtain ⟨n1,hm1,h⟩:∃n1:(Int×Int)→Hp→Prop,(∀s' H',n1 s' H'→e s' H'∧d s' < d (a9A,a2s))∧a1t x0 a9A a2s H n1 K:=⟨_,fun _ _ h=>h,o (a9A,a2s) H (fun s' H'=>e s' H'∧d s' < d (a9A,a2s)) p (fun _ _ a b=>⟨a,b⟩)⟩
 unfold c1q
 unfold a1t at h
 refine g6 Tryz.call109 h I ?_
 rintro _ i _ u j _ _ ⟨q,k,rfl,rfl,h⟩
 refine a7 (g7 _ _ (vi q) rfl) (a7 (g7 _ _ (vi k) rfl) (a7 pNe ?_))
 simp only [q9]
 refine a7 (Pu.g fun c=>by simp only [k7 c];with_reducible exact pNe) ?_
 refine a7 (u4 _ _) ?_
 refine m0 h (fun _ h=>?_) (fun _ h=>?_)
 ·exact hR _ i _ _ j ⟨a9A,a2s,rfl,rfl,h⟩
 ·refine a7 pAd (a7 pAd ?_)
  exact hn1 _ _ _ (hm1 _ _ h).2 ⟨((IntKind.wrap .i64 (a9A+k)),(IntKind.wrap .i64 (a2s+1))),i,rfl,rfl,j,(hm1 _ _ h).1⟩
def a0A (a5K:ByteArray) (T5:Int) (a0S:Int) (a6s:Int) (c:b6) (H:Hp) (K:b6→Int→Int→Hp→Prop):Prop:=
 T9 a5K a0S H (fun a d b=>
 (0:Int)≤T5∧T5 < (a5K.size:Int)∧
 ((((decide (((a5K.get! (T5:Int).toNat).toNat:Int)=48))&&(decide (1 < (IntKind.wrap .i64 (a0S-T5)))))||(decide (a=3)))=true→
 K (b6.mk 0 ⟨#[]⟩ 0 (b7.mk 0 0)) 0 21 b)∧
 ((((decide (((a5K.get! (T5:Int).toNat).toNat:Int)=48))&&(decide (1 < (IntKind.wrap .i64 (a0S-T5)))))||(decide (a=3)))=false→
 (0:Int)≤T5∧(T5:Int)≤a0S∧(a0S:Int)≤a5K.size∧
 K (b6.mk 2 (a5K.extract (T5:Int).toNat (a0S:Int).toNat) (IntKind.wrap .i64 a6s) (b7.mk 0 0)) a0S 0 b))
def a0B (O8:ByteArray) (T4:Int) (r8:Int) (A9:Int) (a:b6) (H:Hp) (n2:(Int×Int×b6)→Hp→Prop) (K:b6→Int→Int→Hp→Prop):Prop:=
 ((decide (r8 < (O8.size:Int)))=true→(0:Int)≤r8∧r8 < (O8.size:Int))∧
 (((decide (r8 < (O8.size:Int)))&&(decide (48≤((O8.get! (r8:Int).toNat).toNat:Int))))=true→(0:Int)≤r8∧r8 < (O8.size:Int))∧
 ((((decide (r8 < (O8.size:Int)))&&(decide (48≤((O8.get! (r8:Int).toNat).toNat:Int))))&&(decide (((O8.get! (r8:Int).toNat).toNat:Int)≤57)))=true→
 (0:Int)≤r8∧r8 < (O8.size:Int)∧
 (10:Int)≠0∧
 ((IntKind.wrap .u64 (Int.tdiv (IntKind.wrap .u64 (9223372036854775807-(IntKind.wrap .u64 (IntKind.wrap .u8 (((O8.get! (r8:Int).toNat).toNat:Int)-48))))) 10)) < A9→
 K (b6.mk 0 ⟨#[]⟩ 0 (b7.mk 0 0)) 0 21 H)∧
 (¬((IntKind.wrap .u64 (Int.tdiv (IntKind.wrap .u64 (9223372036854775807-(IntKind.wrap .u64 (IntKind.wrap .u8 (((O8.get! (r8:Int).toNat).toNat:Int)-48))))) 10)) < A9)→
 n2 ((IntKind.wrap .i64 (r8+1)),(IntKind.wrap .u64 ((IntKind.wrap .u64 (10*A9))+(IntKind.wrap .u64 (IntKind.wrap .u8 (((O8.get! (r8:Int).toNat).toNat:Int)-48))))),a) H))∧
 ((((decide (r8 < (O8.size:Int)))&&(decide (48≤((O8.get! (r8:Int).toNat).toNat:Int))))&&(decide (((O8.get! (r8:Int).toNat).toNat:Int)≤57)))=false→
 a0A O8 T4 r8 A9 a H K)
def a3I (x0:ByteArray) (x1:Int) (H:Hp) (K:b6→Int→Int→Hp→Prop):Prop:=
 TL ((x1,0,(b6.mk 0 ⟨#[]⟩ 0 (b7.mk 0 0))):Int×Int×b6) H fun (s:Int×Int×b6) H n2=>a0B x0 x1 s.1 s.2.1 s.2.2 H n2 K
theorem b0v (x0 x1) {H K} (h:a3I x0 x1 H K):a3u x0 x1 H K:=by
 refine Ct.of fun w0 w ps0 H0 R E I hR=>c7E ?_
 unfold a3I at h
 unfold d1k
 refine m9 I Tryz.zeroValue103 (cs:=[(vi 0),(eS),(vi 0),(vi 0),(vi 0)]) rfl fun j am y an=>?_
 have hj1:∀(a0S:Int) (a6s:Int) (k:b6) H w (_:Inv w0 ps0 H0 H [bx j 103 (f9 k)] w) (_:a0A x0 x1 a0S a6s k H K),b6G (Value.string x0) (vi x1) (Value.pointer (some ⟨j,0,none⟩)) (vi a0S) (Value.int .u64 a6s) w R E:=by
  intro a0S a6s k H w I h
  unfold b6G
  intro _
  unfold a0A at h
  refine g6 Tryz.call109 h I ?_
  rintro _ q _ ao r _ _ ⟨z,aa,rfl,rfl,h⟩
  refine a7 (g7 _ _ (vi z) rfl) (a7 (g7 _ _ (vi aa) rfl) ?_)
  obtain ⟨ab,ac,h⟩:=h
  refine a7 (a3r _ _ _ ab ac) (a7 pEq ?_)
  simp only [q9]
  refine a7 (Pu.g fun c=>by simp only [k7 c];with_reducible exact pSu) ?_
  refine a7 (Pu.g fun c=>by simp only [k7 c];with_reducible exact pGt) ?_
  refine a7 (u4 _ _) ?_
  simp only [q9]
  refine a7 (Pu.g fun c=>by simp only [k7 c];with_reducible exact pEq) ?_
  refine a7 (B5 _ _) ?_
  refine m0 h (fun _ h=>?_) (fun _ h=>?_)
  ·refine a7 (a6k) ?_
   refine f8 r Tryz.sizeOf103 (vs:=[(vi 0),(eS),(vi 0),(vi 0),(vi 0)]) (cs':=[(vi 0),(eS),(vi 0),(vi 0),(vi 0)]) rfl rfl (nb rfl) rfl rfl fun ap t aq=>?_
   refine o4 Tryz.isAgg103 Tryz.sizeOf103 rfl (t.at1 (o:=0) (vs:=[(vi 0),(eS),(vi 0),(vi 0),(vi 0)]) (nb rfl) rfl) ?_
   exact hR _ q _ _ t.drop ⟨(b6.mk 0 ⟨#[]⟩ 0 (b7.mk 0 0)),0,21,rfl,rfl,h⟩
  ·obtain ⟨ad,ae,af,h⟩:=h
   refine a7 (a6g x0 Tryz.underlying9 ad ae af) (a7 (c0R _ _) (a7 (b5z _ _ _) ?_))
   refine f8 r Tryz.sizeOf103 (vs:=[(vi 2),(Value.string (x0.extract (x1:Int).toNat (a0S:Int).toNat)),(vi (IntKind.wrap .i64 a6s)),(vi 0),(vi 0)]) (cs':=[(vi 2),(Value.string (x0.extract (x1:Int).toNat (a0S:Int).toNat)),(vi (IntKind.wrap .i64 a6s)),(vi 0),(vi 0)]) rfl rfl (nb rfl) rfl rfl fun ar u au=>?_
   refine o4 Tryz.isAgg103 Tryz.sizeOf103 rfl (u.at1 (o:=0) (vs:=[(vi 2),(Value.string (x0.extract (x1:Int).toNat (a0S:Int).toNat)),(vi (IntKind.wrap .i64 a6s)),(vi 0),(vi 0)]) (nb rfl) rfl) ?_
   exact hR _ q _ _ u.drop ⟨(b6.mk 2 (x0.extract (x1:Int).toNat (a0S:Int).toNat) (IntKind.wrap .i64 a6s) (b7.mk 0 0)),a0S,0,rfl,rfl,h⟩
 refine r9 fun j1 hx1=>?_
 obtain ⟨m,i,ag,ah⟩:=h
 refine B0 (J:=fun n l w=>∃(s:Int×Int×b6) (H:Hp),n=i s∧l=(match s with | (r8,A9,f)=>[(vi r8),(Value.int .u64 A9)])∧(match s with | (r8,A9,f)=>Inv w0 ps0 H0 H [bx j 103 (f9 f)] w)∧m s H) ⟨_,(x1,0,(b6.mk 0 ⟨#[]⟩ 0 (b7.mk 0 0))),H,rfl,rfl,y,ag⟩ ?_
 rintro av aw w next2 ⟨⟨r8,A9,f⟩,H,rfl,p,I,ai⟩ hn2
 dsimp only at p I
 simp only [List.map_cons,List.map_nil,List.cons.injEq,and_true] at p
 obtain ⟨e7,e8⟩:=p
 simp only [e7,e8]
 obtain ⟨n2,hm2,h⟩:∃n2:(Int×Int×b6)→Hp→Prop,(∀s' H',n2 s' H'→m s' H'∧i s' < i (r8,A9,f))∧a0B x0 x1 r8 A9 f H n2 K:=⟨_,fun _ _ h=>h,ah (r8,A9,f) H (fun s' H'=>m s' H'∧i s' < i (r8,A9,f)) ai (fun _ _ a b=>⟨a,b⟩)⟩
 unfold c1r
 unfold a0B at h
 refine a7 (X3 _) (a7 pLs ?_)
 simp only [q9]
 obtain ⟨d,h⟩:=h
 refine a7 (Pu.g fun hb=>by have c:=hb;simp only [k7 c];with_reducible exact (a3r _ _ _ (d hb).1 (d hb).2)) ?_
 refine a7 (Pu.g fun c=>by simp only [k7 c];with_reducible exact pGe) ?_
 refine a7 (u4 _ _) ?_
 simp only [q9]
 obtain ⟨e,h⟩:=h
 refine a7 (Pu.g fun hb=>by have c:=hb;simp only [k7 c];with_reducible exact (a3r _ _ _ (e hb).1 (e hb).2)) ?_
 refine a7 (Pu.g fun c=>by simp only [k7 c];with_reducible exact pLe) ?_
 refine a7 (u4 _ _) ?_
 refine m0 h (fun _ h=>?_) (fun _ h=>?_)
 ·obtain ⟨aj,ak,h⟩:=h
  refine a7 (a3r _ _ _ aj ak) (a7 pSu (a7 (c0Q _ _) (a7 pSu ?_)))
  obtain ⟨al,h⟩:=h
  refine a7 (c9B _ _ _ _ _ _ al) (a7 pGt ?_)
  refine l7 h (fun _ h=>?_) (fun _ h=>?_)
  ·refine a7 (a6k) ?_
   refine f8 I Tryz.sizeOf103 (vs:=[(vi 0),(eS),(vi 0),(vi 0),(vi 0)]) (cs':=[(vi 0),(eS),(vi 0),(vi 0),(vi 0)]) rfl rfl (nb rfl) rfl rfl fun ax v ay=>?_
   refine o4 Tryz.isAgg103 Tryz.sizeOf103 rfl (v.at1 (o:=0) (vs:=[(vi 0),(eS),(vi 0),(vi 0),(vi 0)]) (nb rfl) rfl) ?_
   exact hR _ H _ _ v.drop ⟨(b6.mk 0 ⟨#[]⟩ 0 (b7.mk 0 0)),0,21,rfl,rfl,h⟩
  ·refine a7 pMu (a7 pAd (a7 pAd ?_))
   exact hn2 _ _ _ (hm2 _ _ h).2 ⟨((IntKind.wrap .i64 (r8+1)),(IntKind.wrap .u64 ((IntKind.wrap .u64 (10*A9))+(IntKind.wrap .u64 (IntKind.wrap .u8 (((x0.get! (r8:Int).toNat).toNat:Int)-48))))),f),H,rfl,rfl,I,(hm2 _ _ h).1⟩
 ·exact hx1 _ _ (hj1 r8 A9 f H _ I h)
def Z2 (a:c8) (b:c8) (H:Hp) (K:Bool→Hp→Prop):Prop:=
 K true H
def Z3 (b:c8) (a:c8) (a1v:Int) (H:Hp) (n3:Int→Hp→Prop) (K:Bool→Hp→Prop):Prop:=
 (a1v < (a.t7.n:Int)→
 (0:Int)≤a1v∧(a1v:Int) < a.t7.n∧∃c:c8,EltH H a.t7 a1v 4 (f7 c)∧
 (0:Int)≤a1v∧(a1v:Int) < b.t7.n∧∃d:c8,EltH H b.t7 a1v 4 (f7 d)∧
 P9 c d H (fun e f=>
 ((!e)=true→
 K false f)∧
 ((!e)=false→
 n3 (IntKind.wrap .i64 (a1v+1)) f)))∧
 (¬(a1v < (a.t7.n:Int))→
 Z2 b a H K)
def Z4 (a:c8) (b:c8) (H:Hp) (K:Bool→Hp→Prop):Prop:=
 TL (0:Int) H fun (s:Int) H n3=>Z3 a b s H n3 K
def Z5 (b:c8) (a:c8) (a8n:Int) (H:Hp) (n4:Int→Hp→Prop) (K:Bool→Hp→Prop):Prop:=
 (a8n < (a.o0.n:Int)→
 (0:Int)≤a8n∧(a8n:Int) < a.o0.n∧∃c:d6,EltH H a.o0 a8n 4 (d7 c)∧
 (0:Int)≤a8n∧(a8n:Int) < b.o0.n∧∃d:d6,EltH H b.o0 a8n 4 (d7 d)∧
 W0 c d H (fun e f=>
 ((!e)=true→
 K false f)∧
 ((!e)=false→
 n4 (IntKind.wrap .i64 (a8n+1)) f)))∧
 (¬(a8n < (a.o0.n:Int))→
 Z4 b a H K)
def a2L (x0:c8) (x1:c8) (H:Hp) (K:Bool→Hp→Prop):Prop:=
 (((((!decide (x0.d8=x1.d8))||(!decide (x0.fOp=x1.fOp)))||(!decide ((x0.o0.n:Int)=(x1.o0.n:Int))))||(!decide ((x0.t7.n:Int)=(x1.t7.n:Int))))=true→
 K false H)∧
 (((((!decide (x0.d8=x1.d8))||(!decide (x0.fOp=x1.fOp)))||(!decide ((x0.o0.n:Int)=(x1.o0.n:Int))))||(!decide ((x0.t7.n:Int)=(x1.t7.n:Int))))=false→
 TL (0:Int) H fun (s:Int) H n4=>Z5 x1 x0 s H n4 K)
theorem a9B (x0 x1) {H K} (h:a2L x0 x1 H K):P9 x0 x1 H K:=by
 refine Ct.of fun w0 w ps0 H0 R E I hR=>c9V ?_
 unfold a2L at h
 unfold F18
 refine P2 I (cs:=(f7 x0)) rfl fun e bc ad bd=>?_
 refine P2 ad (cs:=(f7 x1)) rfl fun f be d bf=>?_
 refine a7 a6i (g5 (l1 Tryz.isAgg3 (d.bring 1) rfl) (a7 a6i (g5 (l1 Tryz.isAgg3 d rfl) (a7 pNe ?_))))
 refine a7 (Pu.g fun c=>by with_reducible exact a5r) ?_
 refine g5 (Ld.g fun c=>by simp only [k7 c];exact (l1 Tryz.isAgg3 (d.bring 1) rfl)) ?_
 refine a7 (Pu.g fun c=>by with_reducible exact a5r) ?_
 refine g5 (Ld.g fun c=>by simp only [k7 c];exact (l1 Tryz.isAgg3 d rfl)) ?_
 refine a7 (Pu.g fun c=>by simp only [k7 c];with_reducible exact pNe) ?_
 refine a7 (B5 _ _) ?_
 refine a7 (Pu.g fun c=>by with_reducible exact a0O) ?_
 refine g5 (Ld.g fun c=>by simp only [k7 c];exact (l1 Tryz.isAgg38 (d.bring 1) rfl)) ?_
 refine a7 (Pu.g fun c=>by simp only [k7 c];with_reducible exact (T0 _ _ _)) ?_
 refine a7 (Pu.g fun c=>by with_reducible exact a0O) ?_
 refine g5 (Ld.g fun c=>by simp only [k7 c];exact (l1 Tryz.isAgg38 d rfl)) ?_
 refine a7 (Pu.g fun c=>by simp only [k7 c];with_reducible exact (T0 _ _ _)) ?_
 refine a7 (Pu.g fun c=>by simp only [k7 c];with_reducible exact pNe) ?_
 refine a7 (B5 _ _) ?_
 refine a7 (Pu.g fun c=>by with_reducible exact a0N) ?_
 refine g5 (Ld.g fun c=>by simp only [k7 c];exact (l1 Tryz.isAgg47 (d.bring 1) rfl)) ?_
 refine a7 (Pu.g fun c=>by simp only [k7 c];with_reducible exact (a4c _ _ _)) ?_
 refine a7 (Pu.g fun c=>by with_reducible exact a0N) ?_
 refine g5 (Ld.g fun c=>by simp only [k7 c];exact (l1 Tryz.isAgg47 d rfl)) ?_
 refine a7 (Pu.g fun c=>by simp only [k7 c];with_reducible exact (a4c _ _ _)) ?_
 refine a7 (Pu.g fun c=>by simp only [k7 c];with_reducible exact pNe) ?_
 refine a7 (B5 _ _) ?_
 refine m0 h (fun _ h=>?_) (fun _ h=>?_)
 ·exact hR _ H _ _ d.drop.drop ⟨false,rfl,rfl,h⟩
 ·have hj1:∀H w (_:Inv w0 ps0 H0 H [bx f 49 (f7 x1),bx e 49 (f7 x0)] w) (_:Z4 x1 x0 H K),b9d (Value.pointer (some ⟨e,0,none⟩)) (Value.pointer (some ⟨f,0,none⟩)) w R E:=by
   intro H w I h
   unfold b9d
   intro _
   unfold Z4 at h
   have hj2:∀H w (_:Inv w0 ps0 H0 H [bx f 49 (f7 x1),bx e 49 (f7 x0)] w) (_:Z2 x1 x0 H K),b9c w R E:=by
    intro H w I h
    unfold b9c
    intro _
    unfold Z2 at h
    exact hR _ H _ _ I.drop.drop ⟨true,rfl,rfl,h⟩
   refine r9 fun j2 hx2=>?_
   obtain ⟨o,i,ae,af⟩:=h
   refine B0 (J:=fun n l w=>∃(s:Int) (H:Hp),n=i s∧l=[(vi s)]∧Inv w0 ps0 H0 H [bx f 49 (f7 x1),bx e 49 (f7 x0)] w∧o s H) ⟨_,0,H,rfl,rfl,((I.bring 1).bring 1),ae⟩ ?_
   rintro bg bh w next3 ⟨a1v,H,rfl,v,I,ag⟩ hn3
   simp only [List.map_cons,List.map_nil,List.cons.injEq,and_true] at v
   have e6:=v
   simp only [e6]
   obtain ⟨n3,hm3,h⟩:∃n3:Int→Hp→Prop,(∀s' H',n3 s' H'→o s' H'∧i s' < i a1v)∧Z3 x1 x0 a1v H n3 K:=⟨_,fun _ _ h=>h,af a1v H (fun s' H'=>o s' H'∧i s' < i a1v) ag (fun _ _ a b=>⟨a,b⟩)⟩
   unfold c3G
   unfold Z3 at h
   refine a7 a0N (g5 (l1 Tryz.isAgg47 (I.bring 1) rfl) (a7 (a4c _ _ _) (a7 pLs ?_)))
   refine l7 h (fun _ h=>?_) (fun _ h=>?_)
   ·refine P3 I fun bi j=>?_
    refine o7 a0N ?_
    refine o7 a0N ?_
    refine t8 (l1 Tryz.isAgg47 (j.bring 1) rfl) ?_
    obtain ⟨ah,ai,aj,p,h⟩:=h
    obtain ⟨bj,bk,ak,p⟩:=p
    refine o7 (b1f ak _ _ _ _ ah ai) ?_
    refine t8 (ldA (vs:=(f7 aj)) Tryz.isAgg49 Tryz.sizeOf49 rfl (j.atH p)) ?_
    refine t8 (l1 Tryz.isAgg47 j rfl) ?_
    obtain ⟨al,am,an,q,h⟩:=h
    obtain ⟨bl,bm,ao,q⟩:=q
    refine o7 (b1f ao _ _ _ _ al am) ?_
    refine t8 (ldA (vs:=(f7 an)) Tryz.isAgg49 Tryz.sizeOf49 rfl (j.atH q)) ?_
    refine g6 Tryz.call18 h j ?_
    rintro _ y _ bn z _ _ ⟨bo,rfl,rfl,h⟩
    refine o7 (K5 _) ?_
    refine m0 h (fun _ h=>?_) (fun _ h=>?_)
    ·exact hR _ y _ _ z.drop.drop ⟨false,rfl,rfl,h⟩
    ·refine a7 pAd ?_
     exact hn3 _ _ _ (hm3 _ _ h).2 ⟨(IntKind.wrap .i64 (a1v+1)),y,rfl,rfl,((z.bring 1).bring 1),(hm3 _ _ h).1⟩
   ·exact hx2 _ _ (hj2 H _ ((I.bring 1).bring 1) h)
  refine r9 fun j1 hx1=>?_
  obtain ⟨r,k,ap,aq⟩:=h
  refine B0 (J:=fun n l w=>∃(s:Int) (H:Hp),n=k s∧l=[(vi s)]∧Inv w0 ps0 H0 H [bx f 49 (f7 x1),bx e 49 (f7 x0)] w∧r s H) ⟨_,0,H,rfl,rfl,((d.bring 1).bring 1),ap⟩ ?_
  rintro bp bq w next4 ⟨a8n,H,rfl,aa,I,ar⟩ hn4
  simp only [List.map_cons,List.map_nil,List.cons.injEq,and_true] at aa
  have e5:=aa
  simp only [e5]
  obtain ⟨n4,hm4,h⟩:∃n4:Int→Hp→Prop,(∀s' H',n4 s' H'→r s' H'∧k s' < k a8n)∧Z5 x1 x0 a8n H n4 K:=⟨_,fun _ _ h=>h,aq a8n H (fun s' H'=>r s' H'∧k s' < k a8n) ar (fun _ _ a b=>⟨a,b⟩)⟩
  unfold c3H
  unfold Z5 at h
  refine a7 a0O (g5 (l1 Tryz.isAgg38 (I.bring 1) rfl) (a7 (T0 _ _ _) (a7 pLs ?_)))
  refine l7 h (fun _ h=>?_) (fun _ h=>?_)
  ·refine P3 I fun br m=>?_
   refine o7 a0O ?_
   refine o7 a0O ?_
   refine t8 (l1 Tryz.isAgg38 (m.bring 1) rfl) ?_
   obtain ⟨au,av,aw,t,h⟩:=h
   obtain ⟨bs,bt,ax,t⟩:=t
   refine o7 (a5F ax _ _ _ _ au av) ?_
   refine t8 (ldA (vs:=(d7 aw)) Tryz.isAgg40 Tryz.sizeOf40 rfl (m.atH t)) ?_
   refine t8 (l1 Tryz.isAgg38 m rfl) ?_
   obtain ⟨ay,az,ba,u,h⟩:=h
   obtain ⟨bu,bv,bb,u⟩:=u
   refine o7 (a5F bb _ _ _ _ ay az) ?_
   refine t8 (ldA (vs:=(d7 ba)) Tryz.isAgg40 Tryz.sizeOf40 rfl (m.atH u)) ?_
   refine g6 Tryz.call15 h m ?_
   rintro _ ab _ bw ac _ _ ⟨bz,rfl,rfl,h⟩
   refine o7 (K5 _) ?_
   refine m0 h (fun _ h=>?_) (fun _ h=>?_)
   ·exact hR _ ab _ _ ac.drop.drop ⟨false,rfl,rfl,h⟩
   ·refine a7 pAd ?_
    exact hn4 _ _ _ (hm4 _ _ h).2 ⟨(IntKind.wrap .i64 (a8n+1)),ab,rfl,rfl,((ac.bring 1).bring 1),(hm4 _ _ h).1⟩
  ·exact hx1 _ _ (hj1 H _ ((I.bring 1).bring 1) h)
def H8 (b4C:Bool) (a:Int) (H:Hp) (K:Int→Hp→Prop):Prop:=
 (b4C=true→
 K 3 H)∧
 (b4C=false→
 K 6 H)
def T7 (b4D:Bool) (a:Int) (H:Hp) (K:Int→Hp→Prop):Prop:=
 (b4D=true→
 K 6 H)∧
 (b4D=false→
 O2 48 57 a H (fun g b=>
 (g=true→
 K 4 b)∧
 (g=false→
 (a=95→
 H8 (decide (a=95)) a b K)∧
 (¬(a=95)→
 O2 97 122 a b (fun c i=>
 (c=true→
 H8 c a i K)∧
 (c=false→
 O2 65 90 a i (fun d j=>
 (d=true→
 H8 d a j K)∧
 (d=false→
 O2 192 591 a j (fun e k=>
 (e=true→
 H8 e a k K)∧
 (e=false→
 O2 913 969 a k (fun f l=>
 (f=true→
 H8 f a l K)∧
 (f=false→
 O2 1040 1103 a l (fun m n=>
 H8 m a n K)))))))))))))
def r7 (b2Q:Int) (b4E:Bool) (a:Int) (H:Hp) (K:Int→Hp→Prop):Prop:=
 (b4E=true→
 K 5 H)∧
 (b4E=false→
 (b2Q=215→
 T7 (decide (b2Q=215)) a H K)∧
 (¬(b2Q=215)→
 (b2Q=247→
 T7 (decide (b2Q=247)) a H K)∧
 (¬(b2Q=247)→
 T7 (decide (b2Q=930)) a H K)))
def T8 (v8:Int) (a0b:Bool) (a:Int) (H:Hp) (K:Int→Hp→Prop):Prop:=
 (a0b=true→
 K 1 H)∧
 (a0b=false→
 (v8=10→
 K 2 H)∧
 (¬(v8=10)→
 (v8=59→
 r7 v8 (decide (v8=59)) a H K)∧
 (¬(v8=59)→
 (v8=44→
 r7 v8 (decide (v8=44)) a H K)∧
 (¬(v8=44)→
 (v8=123→
 r7 v8 (decide (v8=123)) a H K)∧
 (¬(v8=123)→
 (v8=125→
 r7 v8 (decide (v8=125)) a H K)∧
 (¬(v8=125)→
 (v8=40→
 r7 v8 (decide (v8=40)) a H K)∧
 (¬(v8=40)→
 (v8=41→
 r7 v8 (decide (v8=41)) a H K)∧
 (¬(v8=41)→
 (v8=91→
 r7 v8 (decide (v8=91)) a H K)∧
 (¬(v8=91)→
 (v8=93→
 r7 v8 (decide (v8=93)) a H K)∧
 (¬(v8=93)→
 (v8=61→
 r7 v8 (decide (v8=61)) a H K)∧
 (¬(v8=61)→
 (v8=33→
 r7 v8 (decide (v8=33)) a H K)∧
 (¬(v8=33)→
 (v8=60→
 r7 v8 (decide (v8=60)) a H K)∧
 (¬(v8=60)→
 (v8=62→
 r7 v8 (decide (v8=62)) a H K)∧
 (¬(v8=62)→
 (v8=43→
 r7 v8 (decide (v8=43)) a H K)∧
 (¬(v8=43)→
 (v8=45→
 r7 v8 (decide (v8=45)) a H K)∧
 (¬(v8=45)→
 (v8=42→
 r7 v8 (decide (v8=42)) a H K)∧
 (¬(v8=42)→
 (v8=47→
 r7 v8 (decide (v8=47)) a H K)∧
 (¬(v8=47)→
 (v8=37→
 r7 v8 (decide (v8=37)) a H K)∧
 (¬(v8=37)→
 (v8=38→
 r7 v8 (decide (v8=38)) a H K)∧
 (¬(v8=38)→
 r7 v8 (decide (v8=124)) a H K))))))))))))))))))))
def a6R (x0:Int) (H:Hp) (K:Int→Hp→Prop):Prop:=
 (x0=32→
 T8 x0 (decide (x0=32)) x0 H K)∧
 (¬(x0=32)→
 (x0=9→
 T8 x0 (decide (x0=9)) x0 H K)∧
 (¬(x0=9)→
 T8 x0 (decide (x0=13)) x0 H K))
theorem b3B (x0) {H K} (h:a6R x0 H K):V0 x0 H K:=by
 refine Ct.of fun w0 w ps0 H0 R E I hR=>c7U ?_
 unfold a6R at h
 unfold d1A
 refine P2 I (cs:=[(Value.int .i32 x0)]) rfl fun a u b v=>?_
 refine g5 (l1 Tryz.isAgg21 b rfl) ?_
 have hj1:∀(a0b:Bool) H w (_:Inv w0 ps0 H0 H [bx a 21 [(Value.int .i32 x0)]] w) (_:T8 x0 a0b x0 H K),b6T (Value.pointer (some ⟨a,0,none⟩)) (Value.int .i32 x0) (vB a0b) w R E:=by
  intro a0b H w I h
  unfold b6T
  intro _
  unfold T8 at h
  refine m0 h (fun _ h=>?_) (fun _ h=>?_)
  ·exact hR _ H _ _ I.drop ⟨1,rfl,rfl,h⟩
  ·refine a7 pEq ?_
   refine l7 h (fun _ h=>?_) (fun _ h=>?_)
   ·exact hR _ H _ _ I.drop ⟨2,rfl,rfl,h⟩
   ·have hj2:∀(b4E:Bool) H w (_:Inv w0 ps0 H0 H [bx a 21 [(Value.int .i32 x0)]] w) (_:r7 x0 b4E x0 H K),b6S (Value.pointer (some ⟨a,0,none⟩)) (Value.int .i32 x0) (vB b4E) w R E:=by
     intro b4E H w I h
     unfold b6S
     intro _
     unfold r7 at h
     refine m0 h (fun _ h=>?_) (fun _ h=>?_)
     ·exact hR _ H _ _ I.drop ⟨5,rfl,rfl,h⟩
     ·have hj3:∀(b4D:Bool) H w (_:Inv w0 ps0 H0 H [bx a 21 [(Value.int .i32 x0)]] w) (_:T7 b4D x0 H K),b6R (Value.pointer (some ⟨a,0,none⟩)) (vB b4D) w R E:=by
       intro b4D H w I h
       unfold b6R
       intro _
       unfold T7 at h
       refine m0 h (fun _ h=>?_) (fun _ h=>?_)
       ·exact hR _ H _ _ I.drop ⟨6,rfl,rfl,h⟩
       ·refine a7 (a0H _ _ _) ?_
        refine a8N (cap:=[(Value.pointer (some ⟨a,0,none⟩))]) Tryz.call151 (h a) I ?_
        rintro _ d _ y c _ _ ⟨z,rfl,rfl,h⟩
        refine m0 h (fun _ h=>?_) (fun _ h=>?_)
        ·exact hR _ d _ _ c.drop ⟨4,rfl,rfl,h⟩
        ·have hj4:∀(b4C:Bool) H w (_:Inv w0 ps0 H0 H [bx a 21 [(Value.int .i32 x0)]] w) (_:H8 b4C x0 H K),b6Q (vB b4C) w R E:=by
          intro b4C H w I h
          unfold b6Q
          intro _
          unfold H8 at h
          refine m0 h (fun _ h=>?_) (fun _ h=>?_)
          ·exact hR _ H _ _ I.drop ⟨3,rfl,rfl,h⟩
          ·exact hR _ H _ _ I.drop ⟨6,rfl,rfl,h⟩
         refine r9 fun j4 hx4=>?_
         refine g5 (l1 Tryz.isAgg21 c rfl) (a7 pEq ?_)
         refine l7 h (fun _ h=>?_) (fun _ h=>?_)
         ·exact hx4 _ _ (hj4 (decide (x0=95)) d _ c h)
         ·refine a8N (cap:=[(Value.pointer (some ⟨a,0,none⟩))]) Tryz.call151 (h a) c ?_
          rintro _ j _ aa e _ _ ⟨k,rfl,rfl,h⟩
          refine m0 h (fun _ h=>?_) (fun _ h=>?_)
          ·exact hx4 _ _ (hj4 k j _ e h)
          ·refine a8N (cap:=[(Value.pointer (some ⟨a,0,none⟩))]) Tryz.call151 (h a) e ?_
           rintro _ l _ ab f _ _ ⟨m,rfl,rfl,h⟩
           refine m0 h (fun _ h=>?_) (fun _ h=>?_)
           ·exact hx4 _ _ (hj4 m l _ f h)
           ·refine a8N (cap:=[(Value.pointer (some ⟨a,0,none⟩))]) Tryz.call151 (h a) f ?_
            rintro _ n _ ac g _ _ ⟨o,rfl,rfl,h⟩
            refine m0 h (fun _ h=>?_) (fun _ h=>?_)
            ·exact hx4 _ _ (hj4 o n _ g h)
            ·refine a8N (cap:=[(Value.pointer (some ⟨a,0,none⟩))]) Tryz.call151 (h a) g ?_
             rintro _ p _ ad i _ _ ⟨q,rfl,rfl,h⟩
             refine m0 h (fun _ h=>?_) (fun _ h=>?_)
             ·exact hx4 _ _ (hj4 q p _ i h)
             ·refine a8N (cap:=[(Value.pointer (some ⟨a,0,none⟩))]) Tryz.call151 (h a) i ?_
              rintro _ r _ ae s _ _ ⟨t,rfl,rfl,h⟩
              exact hx4 _ _ (hj4 t r _ s h)
      refine r9 fun j3 hx3=>?_
      refine a7 pEq ?_
      refine l7 h (fun _ h=>?_) (fun _ h=>?_)
      ·exact hx3 _ _ (hj3 (decide (x0=215)) H _ I h)
      ·refine a7 pEq ?_
       refine l7 h (fun _ h=>?_) (fun _ h=>?_)
       ·exact hx3 _ _ (hj3 (decide (x0=247)) H _ I h)
       ·refine a7 pEq ?_
        exact hx3 _ _ (hj3 (decide (x0=930)) H _ I h)
    refine r9 fun j2 hx2=>?_
    refine a7 pEq ?_
    refine l7 h (fun _ h=>?_) (fun _ h=>?_)
    ·exact hx2 _ _ (hj2 (decide (x0=59)) H _ I h)
    ·refine a7 pEq ?_
     refine l7 h (fun _ h=>?_) (fun _ h=>?_)
     ·exact hx2 _ _ (hj2 (decide (x0=44)) H _ I h)
     ·refine a7 pEq ?_
      refine l7 h (fun _ h=>?_) (fun _ h=>?_)
      ·exact hx2 _ _ (hj2 (decide (x0=123)) H _ I h)
      ·refine a7 pEq ?_
       refine l7 h (fun _ h=>?_) (fun _ h=>?_)
       ·exact hx2 _ _ (hj2 (decide (x0=125)) H _ I h)
       ·refine a7 pEq ?_
        refine l7 h (fun _ h=>?_) (fun _ h=>?_)
        ·exact hx2 _ _ (hj2 (decide (x0=40)) H _ I h)
        ·refine a7 pEq ?_
         refine l7 h (fun _ h=>?_) (fun _ h=>?_)
         ·exact hx2 _ _ (hj2 (decide (x0=41)) H _ I h)
         ·refine a7 pEq ?_
          refine l7 h (fun _ h=>?_) (fun _ h=>?_)
          ·exact hx2 _ _ (hj2 (decide (x0=91)) H _ I h)
          ·refine a7 pEq ?_
           refine l7 h (fun _ h=>?_) (fun _ h=>?_)
           ·exact hx2 _ _ (hj2 (decide (x0=93)) H _ I h)
           ·refine a7 pEq ?_
            refine l7 h (fun _ h=>?_) (fun _ h=>?_)
            ·exact hx2 _ _ (hj2 (decide (x0=61)) H _ I h)
            ·refine a7 pEq ?_
             refine l7 h (fun _ h=>?_) (fun _ h=>?_)
             ·exact hx2 _ _ (hj2 (decide (x0=33)) H _ I h)
             ·refine a7 pEq ?_
              refine l7 h (fun _ h=>?_) (fun _ h=>?_)
              ·exact hx2 _ _ (hj2 (decide (x0=60)) H _ I h)
              ·refine a7 pEq ?_
               refine l7 h (fun _ h=>?_) (fun _ h=>?_)
               ·exact hx2 _ _ (hj2 (decide (x0=62)) H _ I h)
               ·refine a7 pEq ?_
                refine l7 h (fun _ h=>?_) (fun _ h=>?_)
                ·exact hx2 _ _ (hj2 (decide (x0=43)) H _ I h)
                ·refine a7 pEq ?_
                 refine l7 h (fun _ h=>?_) (fun _ h=>?_)
                 ·exact hx2 _ _ (hj2 (decide (x0=45)) H _ I h)
                 ·refine a7 pEq ?_
                  refine l7 h (fun _ h=>?_) (fun _ h=>?_)
                  ·exact hx2 _ _ (hj2 (decide (x0=42)) H _ I h)
                  ·refine a7 pEq ?_
                   refine l7 h (fun _ h=>?_) (fun _ h=>?_)
                   ·exact hx2 _ _ (hj2 (decide (x0=47)) H _ I h)
                   ·refine a7 pEq ?_
                    refine l7 h (fun _ h=>?_) (fun _ h=>?_)
                    ·exact hx2 _ _ (hj2 (decide (x0=37)) H _ I h)
                    ·refine a7 pEq ?_
                     refine l7 h (fun _ h=>?_) (fun _ h=>?_)
                     ·exact hx2 _ _ (hj2 (decide (x0=38)) H _ I h)
                     ·refine a7 pEq ?_
                      exact hx2 _ _ (hj2 (decide (x0=124)) H _ I h)
 refine r9 fun j1 hx1=>?_
 refine a7 pEq ?_
 refine l7 h (fun _ h=>?_) (fun _ h=>?_)
 ·exact hx1 _ _ (hj1 (decide (x0=32)) H _ b h)
 ·refine a7 pEq ?_
  refine l7 h (fun _ h=>?_) (fun _ h=>?_)
  ·exact hx1 _ _ (hj1 (decide (x0=9)) H _ b h)
  ·refine a7 pEq ?_
   exact hx1 _ _ (hj1 (decide (x0=13)) H _ b h)
def a6S (x0:Int) (H:Hp) (K:Bool→Hp→Prop):Prop:=
 V0 x0 H (fun a b=>
 K ((decide (a=3))||(decide (a=4))) b)
theorem b3C (x0) {H K} (h:a6S x0 H K):a4N x0 H K:=by
 refine Ct.of fun w0 w ps0 H0 R E I hR=>c8m ?_
 unfold a6S at h
 unfold d1S
 refine g6 Tryz.call132 h I ?_
 rintro _ c _ e d _ _ ⟨b,rfl,rfl,h⟩
 refine a7 pEq ?_
 simp only [q9]
 refine a7 (Pu.g fun a=>by simp only [k7 a];with_reducible exact pEq) ?_
 refine a7 (B5 _ _) ?_
 exact hR _ c _ _ d ⟨((decide (b=3))||(decide (b=4))),rfl,rfl,h⟩
def U1 (b3P:Int) (H:Hp) (K:Int→Hp→Prop):Prop:=
 K b3P H
def U2 (b:ByteArray) (a8W:Int) (a:Nat) (H:Hp) (n2:(Int×Nat)→Hp→Prop) (K:Int→Hp→Prop):Prop:=
 (a < b.size→
 n2 ((IntKind.wrap .i64 (a8W+1)),(a+(Utf8.decode b a).2)) H)∧
 (¬(a < b.size)→
 U1 a8W H K)
def a1x (x0:ByteArray) (H:Hp) (K:Int→Hp→Prop):Prop:=
 TL ((0,0):Int×Nat) H fun (s:Int×Nat) H n2=>U2 x0 s.1 s.2 H n2 K
theorem a8o (x0) {H K} (h:a1x x0 H K):a1u x0 H K:=by
 refine Ct.of fun w0 w ps0 H0 R E I hR=>c8s ?_
 unfold a1x at h
 unfold d1Y
 have hj1:∀(b3P:Int) H w (_:Inv w0 ps0 H0 H [] w) (_:U1 b3P H K),b7b (vi b3P) w R E:=by
  intro b3P H w I h
  unfold b7b
  intro _
  unfold U1 at h
  exact hR _ H _ _ I ⟨b3P,rfl,rfl,h⟩
 refine r9 fun j1 hx1=>?_
 refine b4r Tryz.underlying9 x0 I fun j r k t=>?_
 obtain ⟨f,d,m,o⟩:=h
 refine B0 (J:=fun n l w=>∃(s:Int×Nat) (H:Hp),n=d s∧l=(match s with | (a8W,c)=>[(vi a8W)])∧(match s with | (a8W,c)=>Inv w0 ps0 H0 H [itf j x0 c] w)∧f s H) ⟨_,(0,0),H,rfl,rfl,k,m⟩ ?_
 rintro u v w next2 ⟨⟨a8W,c⟩,H,rfl,g,I,p⟩ hn2
 dsimp only at g I
 simp only [List.map_cons,List.map_nil,List.cons.injEq,and_true] at g
 have e2:=g
 simp only [e2]
 obtain ⟨n2,hm2,h⟩:∃n2:(Int×Nat)→Hp→Prop,(∀s' H',n2 s' H'→f s' H'∧d s' < d (a8W,c))∧U2 x0 a8W c H n2 K:=⟨_,fun _ _ h=>h,o (a8W,c) H (fun s' H'=>f s' H'∧d s' < d (a8W,c)) p (fun _ _ a b=>⟨a,b⟩)⟩
 unfold c1E
 unfold U2 at h
 refine b5P I (fun i y q z=>?_) (fun i=>?_)
 ·replace h:=h.1 i
  refine a7 (g7 _ _ (vB true) rfl) ?_
  refine a3o (fun e=>?_) (fun e=>by cases e)
  refine a7 pAd ?_
  exact hn2 _ _ _ (hm2 _ _ h).2 ⟨((IntKind.wrap .i64 (a8W+1)),(c+(Utf8.decode x0 c).2)),H,rfl,rfl,q,(hm2 _ _ h).1⟩
 ·replace h:=h.2 i
  refine a7 (g7 _ _ (vB false) rfl) ?_
  refine a3o (fun e=>by cases e) (fun e=>?_)
  exact hx1 _ _ (hj1 a8W H _ I.drop h)
def C6 (u7:Int) (u9:Int) (A4:Int) (b0T:Bool) (b0U:Bool) (a9C:(List ByteArray)) (H:Hp) (K:Bool→p1→(List ByteArray)→Hp→Prop):Prop:=
 K true (p1.mk u7 u9 A4 b0T b0U (Sl.mk none 0 0)) a9C H
def a3J (x0:p1) (a:(List ByteArray)) (x1:g9) (x2:Int) (H:Hp) (K:Bool→p1→(List ByteArray)→Hp→Prop):Prop:=
 (4096 < (IntKind.wrap .i64 (x0.fnodes+1))→
 K false (p1.mk (IntKind.wrap .i64 (x0.fnodes+1)) x0.fdepth 33 x0.fform x0.fnamed (Sl.mk none 0 0)) a H)∧
 (¬(4096 < (IntKind.wrap .i64 (x0.fnodes+1)))→
 (64 < x2→
 K false (p1.mk (IntKind.wrap .i64 (x0.fnodes+1)) x0.fdepth 32 x0.fform x0.fnamed (Sl.mk none 0 0)) a H)∧
 (¬(64 < x2)→
 TG (x0.fform=false) (a6l x1 H) false H (fun (c:Bool) (j:Hp)=>
 a3h x1 j (fun b e d=>
 (e=true→
 TG (x0.fnamed=false) (a5Q b d) false d (fun (f:Bool) (k:Hp)=>
 R6 a b k (fun g i=>
 ((!g)=true→
 (a.length+([b]:List ByteArray).length)*17≤140737488355328∧
 C6 (IntKind.wrap .i64 (x0.fnodes+1)) (if x2 > x0.fdepth then x2 else x0.fdepth) x0.fe (x0.fform||(!c)) (x0.fnamed||(!f)) (a++[b]) i K)∧
 ((!g)=false→
 C6 (IntKind.wrap .i64 (x0.fnodes+1)) (if x2 > x0.fdepth then x2 else x0.fdepth) x0.fe (x0.fform||(!c)) (x0.fnamed||(!f)) a i K))))∧
 (e=false→
 C6 (IntKind.wrap .i64 (x0.fnodes+1)) (if x2 > x0.fdepth then x2 else x0.fdepth) x0.fe (x0.fform||(!c)) x0.fnamed a d K)))))
theorem b0w (x0 b x1 x2) {H K} (h:a3J x0 b x1 x2 H K):a3v x0 b x1 x2 H K:=by
 intro g0 f n q
 refine Ct.of fun w0 w ps0 H0 R E I hR=>c7K ?_
 unfold a3J at h
 unfold d1q
 refine a7 (o5 _) (a7 b2L (g5 (l1 Tryz.isAgg3 I rfl) (a7 pAd (a7 (o5 _) ?_))))
 refine a7 b2L ?_
 refine f8 I Tryz.sizeOf3 (vs:=[(vi (IntKind.wrap .i64 (x0.fnodes+1)))]) (cs':=[(vi (IntKind.wrap .i64 (x0.fnodes+1))),(vi x0.fdepth),(vi x0.fe),(vB x0.fform),(vB x0.fnamed),(vs f)]) rfl rfl (nb rfl) rfl rfl fun bd v be=>?_
 refine a7 (o5 _) (a7 b2L (g5 (l1 Tryz.isAgg3 v rfl) (a7 pGt ?_)))
 refine l7 h (fun _ h=>?_) (fun _ h=>?_)
 ·refine a7 (o5 _) (a7 a6j ?_)
  refine f8 v Tryz.sizeOf29 (vs:=[(vi 33)]) (cs':=[(vi (IntKind.wrap .i64 (x0.fnodes+1))),(vi x0.fdepth),(vi 33),(vB x0.fform),(vB x0.fnamed),(vs f)]) rfl rfl (nb rfl) rfl rfl fun bf au bg=>?_
  exact hR _ H _ _ ((au.bring 1).bring 1) ⟨false,(p1.mk (IntKind.wrap .i64 (x0.fnodes+1)) x0.fdepth 33 x0.fform x0.fnamed (Sl.mk none 0 0)),b,f,n,rfl,rfl,q,h⟩
 ·refine a7 pGt ?_
  refine l7 h (fun _ h=>?_) (fun _ h=>?_)
  ·refine a7 (o5 _) (a7 a6j ?_)
   refine f8 v Tryz.sizeOf29 (vs:=[(vi 32)]) (cs':=[(vi (IntKind.wrap .i64 (x0.fnodes+1))),(vi x0.fdepth),(vi 32),(vB x0.fform),(vB x0.fnamed),(vs f)]) rfl rfl (nb rfl) rfl rfl fun bh av bi=>?_
   exact hR _ H _ _ ((av.bring 1).bring 1) ⟨false,(p1.mk (IntKind.wrap .i64 (x0.fnodes+1)) x0.fdepth 32 x0.fform x0.fnamed (Sl.mk none 0 0)),b,f,n,rfl,rfl,q,h⟩
  ·refine a7 (o5 _) (a7 b5T (g5 (l1 Tryz.isAgg3 v rfl) (a7 (c3t _ _ _ _ _) (a7 (o5 _) ?_))))
   refine a7 b5T ?_
   refine f8 v Tryz.sizeOf3 (vs:=[(vi (if x2 > x0.fdepth then x2 else x0.fdepth))]) (cs':=[(vi (IntKind.wrap .i64 (x0.fnodes+1))),(vi (if x2 > x0.fdepth then x2 else x0.fdepth)),(vi x0.fe),(vB x0.fform),(vB x0.fnamed),(vs f)]) rfl rfl (nb rfl) rfl rfl fun ai ac bj=>?_
   refine a7 (o5 _) (a7 b2M (g5 (l1 Tryz.isAgg4 ac rfl) ?_))
   simp only [q9]
   refine G6 (D:=fun aj y=>∃(d:Bool) (r:Hp),aj=(gv x0.fform false (vB d))∧(Inv w0 ps0 H0 r [bx g0 79 [(vi (IntKind.wrap .i64 (x0.fnodes+1))),(vi (if x2 > x0.fdepth then x2 else x0.fdepth)),(vi x0.fe),(vB x0.fform),(vB x0.fnamed),(vs f)],n] y)∧(∀i,i < ai.heap.size→¬inF [] i→y.heap[i]? = ai.heap[i]?)∧Hle H r∧(a3h x1 r (fun (k:ByteArray) (z:Bool) (o:Hp)=>
 (z=true→
 TG (x0.fnamed=false) (a5Q k o) false o (fun (j:Bool) (l:Hp)=>
 R6 b k l (fun (t:Bool) (m:Hp)=>
 ((!t)=true→
 (b.length+([k]:List ByteArray).length)*17≤140737488355328∧
 C6 (IntKind.wrap .i64 (x0.fnodes+1)) (if x2 > x0.fdepth then x2 else x0.fdepth) x0.fe (x0.fform||(!d)) (x0.fnamed||(!j)) (b++[k]) m K)∧
 ((!t)=false→
 C6 (IntKind.wrap .i64 (x0.fnodes+1)) (if x2 > x0.fdepth then x2 else x0.fdepth) x0.fe (x0.fform||(!d)) (x0.fnamed||(!j)) b m K))))∧
 (z=false→
 C6 (IntKind.wrap .i64 (x0.fnodes+1)) (if x2 > x0.fdepth then x2 else x0.fdepth) x0.fe (x0.fform||(!d)) x0.fnamed b o K)))) (fun u=>?_) (fun u=>?_) ?_
   ·replace h:=h.1 u
    have a:=u
    simp only [k7 a]
    refine b2u ac h (fun d r y ad ak al h=>?_)
    exact ⟨d,r,by rfl,ad,al,ak,h⟩
   ·exact ⟨false,H,by rw [R9 u],ac,fun _ _ _=>rfl,Hle.refl _,h.2 u⟩
   ·clear h
    rintro aj y ⟨d,r,rfl,ad,al,ak,h⟩
    refine a7 (Pu.g fun a=>by simp only [k7 a];with_reducible exact (K5 _)) ?_
    refine a7 (B5 _ _) (a7 (o5 _) (a7 b2M ?_))
    refine f8 ad Tryz.sizeOf4 (vs:=[(vB (x0.fform||(!d)))]) (cs':=[(vi (IntKind.wrap .i64 (x0.fnodes+1))),(vi (if x2 > x0.fdepth then x2 else x0.fdepth)),(vi x0.fe),(vB (x0.fform||(!d))),(vB x0.fnamed),(vs f)]) rfl rfl (nb rfl) rfl rfl fun bk aw bl=>?_
    have hj1:∀(u7:Int) (u9:Int) (A4:Int) (b0T:Bool) (b0U:Bool) (a9C:(List ByteArray)) (b2W:Sl) (b2X:Frag) H w (_:RowL 9 1 M1 b2W a9C b2X) (_:Inv w0 ps0 H0 H [bx g0 79 [(vi u7),(vi u9),(vi A4),(vB b0T),(vB b0U),(vs b2W)],b2X] w) (_:C6 u7 u9 A4 b0T b0U a9C H K),b6L w R E:=by
     intro u7 u9 A4 b0T b0U a9C b2W b2X H w c5s I h
     unfold b6L
     intro _
     unfold C6 at h
     exact hR _ H _ _ ((I.bring 1).bring 1) ⟨true,(p1.mk u7 u9 A4 b0T b0U (Sl.mk none 0 0)),a9C,b2W,b2X,rfl,rfl,c5s,h⟩
    refine r9 fun j1 hx1=>?_
    refine g6 Tryz.call143 h aw ?_
    rintro _ o _ am aa _ _ ⟨k,z,rfl,rfl,h⟩
    refine a7 (g7 _ _ (Value.string k) rfl) (a7 (g7 _ _ (vB z) rfl) ?_)
    refine a3o (fun ae=>?_) (fun ae=>?_)
    ·replace h:=h.1 ae
     refine a7 (o5 _) (a7 b2N (g5 (l1 Tryz.isAgg4 aa rfl) ?_))
     simp only [q9]
     refine G6 (D:=fun an ab=>∃(j:Bool) (l:Hp),an=(gv x0.fnamed false (vB j))∧(Inv w0 ps0 H0 l [bx g0 79 [(vi (IntKind.wrap .i64 (x0.fnodes+1))),(vi (if x2 > x0.fdepth then x2 else x0.fdepth)),(vi x0.fe),(vB (x0.fform||(!d))),(vB x0.fnamed),(vs f)],n] ab)∧(∀i,i < am.heap.size→¬inF [] i→ab.heap[i]? = am.heap[i]?)∧Hle o l∧(R6 b k l (fun (t:Bool) (m:Hp)=>
 ((!t)=true→
 (b.length+([k]:List ByteArray).length)*17≤140737488355328∧
 C6 (IntKind.wrap .i64 (x0.fnodes+1)) (if x2 > x0.fdepth then x2 else x0.fdepth) x0.fe (x0.fform||(!d)) (x0.fnamed||(!j)) (b++[k]) m K)∧
 ((!t)=false→
 C6 (IntKind.wrap .i64 (x0.fnodes+1)) (if x2 > x0.fdepth then x2 else x0.fdepth) x0.fe (x0.fform||(!d)) (x0.fnamed||(!j)) b m K)))) (fun p=>?_) (fun p=>?_) ?_
     ·replace h:=h.1 p
      have a:=p
      simp only [k7 a]
      refine g6 Tryz.call144 h aa ?_
      rintro _ l _ ab af ao ap ⟨j,rfl,rfl,h⟩
      exact ⟨j,l,by rfl,af,ap,ao,h⟩
     ·exact ⟨false,o,by rw [R9 p],aa,fun _ _ _=>rfl,Hle.refl _,h.2 p⟩
     ·clear h
      rintro an ab ⟨j,l,rfl,af,ap,ao,h⟩
      refine a7 (Pu.g fun a=>by simp only [k7 a];with_reducible exact (K5 _)) ?_
      refine a7 (B5 _ _) (a7 (o5 _) (a7 b2N ?_))
      refine f8 af Tryz.sizeOf4 (vs:=[(vB (x0.fnamed||(!j)))]) (cs':=[(vi (IntKind.wrap .i64 (x0.fnodes+1))),(vi (if x2 > x0.fdepth then x2 else x0.fdepth)),(vi x0.fe),(vB (x0.fform||(!d))),(vB (x0.fnamed||(!j))),(vs f)]) rfl rfl (nb rfl) rfl rfl fun bm aq bn=>?_
      refine a7 (o5 _) (a7 b2O (g5 (l1 Tryz.isAgg77 aq rfl) ?_))
      refine g6 Tryz.call145 (h f n q) (aq.bring 1) ?_
      rintro _ m _ bo ag _ _ ⟨t,rfl,rfl,h⟩
      refine a7 (K5 _) ?_
      refine m0 h (fun _ h=>?_) (fun _ h=>?_)
      ·refine a7 (o5 _) (a7 b2O (g5 (l1 Tryz.isAgg77 (ag.bring 1) rfl) ?_))
       refine V9 (e:=9) (c:=M1) (xs:=[k]) ag (c7o _) rfl rfl a9P a9Q (nb rfl) fun bp bq br ax ar bs=>?_
       obtain ⟨ay,h⟩:=h
       refine c9O (s:=f) (xs:=b) (ar.bring 1) q (ax.srcO ((ar.bring 1).bring 1)) ay fun ah az bt ba bb bu=>?_
       refine a7 (o5 _) (a7 b2O ?_)
       refine f8 ((bb.bring 1).drop.bring 1) Tryz.sizeOf77 (vs:=[(vs ah)]) (cs':=[(vi (IntKind.wrap .i64 (x0.fnodes+1))),(vi (if x2 > x0.fdepth then x2 else x0.fdepth)),(vi x0.fe),(vB (x0.fform||(!d))),(vB (x0.fnamed||(!j))),(vs ah)]) rfl rfl (nb rfl) rfl rfl fun bv bc bw=>?_
       exact hx1 _ _ (hj1 (IntKind.wrap .i64 (x0.fnodes+1)) (if x2 > x0.fdepth then x2 else x0.fdepth) x0.fe (x0.fform||(!d)) (x0.fnamed||(!j)) (b++[k]) ah az m _ ba ((bc.bring 1).bring 1) h)
      ·exact hx1 _ _ (hj1 (IntKind.wrap .i64 (x0.fnodes+1)) (if x2 > x0.fdepth then x2 else x0.fdepth) x0.fe (x0.fform||(!d)) (x0.fnamed||(!j)) b f n m _ q (ag.bring 1) h)
    ·replace h:=h.2 ae
     exact hx1 _ _ (hj1 (IntKind.wrap .i64 (x0.fnodes+1)) (if x2 > x0.fdepth then x2 else x0.fdepth) x0.fe (x0.fform||(!d)) x0.fnamed b f n o _ q ((aa.bring 1).bring 1) h)
def a7p (x0:a8) (x1:ByteArray) (H:Hp) (K:Bool→Hp→Prop):Prop:=
 z7 x0 H (fun a b=>
 K (((decide (a.d8=3))||(decide (a.d8=4)))&&(decide (a.A0=x1))) b)
theorem b1q (x0 x1) {H K} (h:a7p x0 x1 H K):m5 x0 x1 H K:=by
 intro g0
 refine Ct.of fun w0 w ps0 H0 R E I hR=>d0p ?_
 unfold a7p at h
 unfold F53
 refine g6 Tryz.call51 (h g0) I ?_
 rintro _ d _ i e _ _ ⟨c,rfl,rfl,h⟩
 refine m9 e Tryz.zeroValue103 (cs:=[(vi 0),(eS),(vi 0),(vi 0),(vi 0)]) rfl fun j k f l=>?_
 refine f8 f Tryz.sizeOf103 (vs:=(f9 c)) (cs':=(f9 c)) rfl rfl (nb rfl) rfl rfl fun m b n=>?_
 refine a7 a0I (g5 (l1 Tryz.isAgg3 b rfl) (a7 pEq ?_))
 refine a7 (Pu.g fun a=>by with_reducible exact a0I) ?_
 refine g5 (Ld.g fun a=>by simp only [k7 a];exact (l1 Tryz.isAgg3 b rfl)) ?_
 refine a7 (Pu.g fun a=>by simp only [k7 a];with_reducible exact pEq) ?_
 refine a7 (B5 _ _) ?_
 refine a7 (Pu.g fun a=>by with_reducible exact R3) ?_
 refine g5 (Ld.g fun a=>by simp only [k7 a];exact (l1 Tryz.isAgg9 b rfl)) ?_
 simp only [q9]
 refine a7 (Pu.g fun a=>by simp only [k7 a];with_reducible exact (G5 _ _ _ _ _)) ?_
 refine a7 (u4 _ _) ?_
 exact hR _ d _ _ b.drop ⟨(((decide (c.d8=3))||(decide (c.d8=4)))&&(decide (c.A0=x1))),rfl,rfl,h⟩
def a4z (x0:a8) (H:Hp) (K:Bool→Hp→Prop):Prop:=
 z7 x0 H (fun a e=>
 TG ((decide (a.d8=1))=false) (m5 x0 ⟨#[105,102]⟩ e) false e (fun (b:Bool) (f:Hp)=>
 TG (((decide (a.d8=1))||b)=false) (m5 x0 ⟨#[119,104,105,108,101]⟩ f) false f (fun (c:Bool) (g:Hp)=>
 TG ((((decide (a.d8=1))||b)||c)=false) (m5 x0 ⟨#[97,115,115,101,114,116]⟩ g) false g (fun (d:Bool) (i:Hp)=>
 TG (((((decide (a.d8=1))||b)||c)||d)=false) (m5 x0 ⟨#[97,115,115,117,109,101]⟩ i) false i (fun (j:Bool) (k:Hp)=>
 TG ((((((decide (a.d8=1))||b)||c)||d)||j)=false) (m5 x0 ⟨#[115,107,105,112]⟩ k) false k (fun (l:Bool) (m:Hp)=>
 K ((((((decide (a.d8=1))||b)||c)||d)||j)||l) m))))))
theorem a8p (x0) {H K} (h:a4z x0 H K):Q4 x0 H K:=by
 intro g0
 refine Ct.of fun w0 w ps0 H0 R E I hR=>d0s ?_
 unfold a4z at h
 unfold F56
 refine g6 Tryz.call51 (h g0) I ?_
 rintro _ af _ ag ah _ _ ⟨c,rfl,rfl,h⟩
 refine a7 a7d (a7 pEq ?_)
 simp only [q9]
 refine G6 (D:=fun ai t=>∃(a:Bool) (n:Hp),ai=(gv (decide (c.d8=1)) false (vB a))∧(Inv w0 ps0 H0 n [bx g0 101 (d9 x0)] t)∧(∀i,i < ag.heap.size→¬inF [bx g0 101 (d9 x0)] i→t.heap[i]? = ag.heap[i]?)∧Hle af n∧(TG (((decide (c.d8=1))||a)=false) (m5 x0 ⟨#[119,104,105,108,101]⟩ n) false n (fun (b:Bool) (m:Hp)=>
 TG ((((decide (c.d8=1))||a)||b)=false) (m5 x0 ⟨#[97,115,115,101,114,116]⟩ m) false m (fun (d:Bool) (g:Hp)=>
 TG (((((decide (c.d8=1))||a)||b)||d)=false) (m5 x0 ⟨#[97,115,115,117,109,101]⟩ g) false g (fun (e:Bool) (f:Hp)=>
 TG ((((((decide (c.d8=1))||a)||b)||d)||e)=false) (m5 x0 ⟨#[115,107,105,112]⟩ f) false f (fun (k:Bool) (j:Hp)=>
 K ((((((decide (c.d8=1))||a)||b)||d)||e)||k) j)))))) (fun o=>?_) (fun o=>?_) ?_
 ·replace h:=h.1 o
  have l:=o
  simp only [k7 l]
  refine g6 Tryz.call53 (h g0) ah ?_
  rintro _ n _ t z aj ak ⟨a,rfl,rfl,h⟩
  exact ⟨a,n,by rfl,z,ak,aj,h⟩
 ·exact ⟨false,af,by rw [R9 o],ah,fun _ _ _=>rfl,Hle.refl _,h.2 o⟩
 ·clear h
  rintro ai t ⟨a,n,rfl,z,ak,aj,h⟩
  refine a7 (B5 _ _) ?_
  simp only [q9]
  refine G6 (D:=fun al u=>∃(b:Bool) (m:Hp),al=(gv ((decide (c.d8=1))||a) false (vB b))∧(Inv w0 ps0 H0 m [bx g0 101 (d9 x0)] u)∧(∀i,i < t.heap.size→¬inF [bx g0 101 (d9 x0)] i→u.heap[i]? = t.heap[i]?)∧Hle n m∧(TG ((((decide (c.d8=1))||a)||b)=false) (m5 x0 ⟨#[97,115,115,101,114,116]⟩ m) false m (fun (d:Bool) (g:Hp)=>
 TG (((((decide (c.d8=1))||a)||b)||d)=false) (m5 x0 ⟨#[97,115,115,117,109,101]⟩ g) false g (fun (e:Bool) (f:Hp)=>
 TG ((((((decide (c.d8=1))||a)||b)||d)||e)=false) (m5 x0 ⟨#[115,107,105,112]⟩ f) false f (fun (k:Bool) (j:Hp)=>
 K ((((((decide (c.d8=1))||a)||b)||d)||e)||k) j))))) (fun p=>?_) (fun p=>?_) ?_
  ·replace h:=h.1 p
   have l:=p
   simp only [k7 l]
   refine g6 Tryz.call53 (h g0) z ?_
   rintro _ m _ u aa am an ⟨b,rfl,rfl,h⟩
   exact ⟨b,m,by rfl,aa,an,am,h⟩
  ·exact ⟨false,n,by rw [R9 p],z,fun _ _ _=>rfl,Hle.refl _,h.2 p⟩
  ·clear h
   rintro al u ⟨b,m,rfl,aa,an,am,h⟩
   refine a7 (B5 _ _) ?_
   simp only [q9]
   refine G6 (D:=fun ao v=>∃(d:Bool) (g:Hp),ao=(gv (((decide (c.d8=1))||a)||b) false (vB d))∧(Inv w0 ps0 H0 g [bx g0 101 (d9 x0)] v)∧(∀i,i < u.heap.size→¬inF [bx g0 101 (d9 x0)] i→v.heap[i]? = u.heap[i]?)∧Hle m g∧(TG (((((decide (c.d8=1))||a)||b)||d)=false) (m5 x0 ⟨#[97,115,115,117,109,101]⟩ g) false g (fun (e:Bool) (f:Hp)=>
 TG ((((((decide (c.d8=1))||a)||b)||d)||e)=false) (m5 x0 ⟨#[115,107,105,112]⟩ f) false f (fun (k:Bool) (j:Hp)=>
 K ((((((decide (c.d8=1))||a)||b)||d)||e)||k) j)))) (fun q=>?_) (fun q=>?_) ?_
   ·replace h:=h.1 q
    have l:=q
    simp only [k7 l]
    refine g6 Tryz.call53 (h g0) aa ?_
    rintro _ g _ v ab ap aq ⟨d,rfl,rfl,h⟩
    exact ⟨d,g,by rfl,ab,aq,ap,h⟩
   ·exact ⟨false,m,by rw [R9 q],aa,fun _ _ _=>rfl,Hle.refl _,h.2 q⟩
   ·clear h
    rintro ao v ⟨d,g,rfl,ab,aq,ap,h⟩
    refine a7 (B5 _ _) ?_
    simp only [q9]
    refine G6 (D:=fun ar y=>∃(e:Bool) (f:Hp),ar=(gv ((((decide (c.d8=1))||a)||b)||d) false (vB e))∧(Inv w0 ps0 H0 f [bx g0 101 (d9 x0)] y)∧(∀i,i < v.heap.size→¬inF [bx g0 101 (d9 x0)] i→y.heap[i]? = v.heap[i]?)∧Hle g f∧(TG ((((((decide (c.d8=1))||a)||b)||d)||e)=false) (m5 x0 ⟨#[115,107,105,112]⟩ f) false f (fun (k:Bool) (j:Hp)=>
 K ((((((decide (c.d8=1))||a)||b)||d)||e)||k) j))) (fun r=>?_) (fun r=>?_) ?_
    ·replace h:=h.1 r
     have l:=r
     simp only [k7 l]
     refine g6 Tryz.call53 (h g0) ab ?_
     rintro _ f _ y ac au av ⟨e,rfl,rfl,h⟩
     exact ⟨e,f,by rfl,ac,av,au,h⟩
    ·exact ⟨false,g,by rw [R9 r],ab,fun _ _ _=>rfl,Hle.refl _,h.2 r⟩
    ·clear h
     rintro ar y ⟨e,f,rfl,ac,av,au,h⟩
     refine a7 (B5 _ _) ?_
     simp only [q9]
     refine G6 (D:=fun aw ad=>∃(k:Bool) (j:Hp),aw=(gv (((((decide (c.d8=1))||a)||b)||d)||e) false (vB k))∧(Inv w0 ps0 H0 j [bx g0 101 (d9 x0)] ad)∧(∀i,i < y.heap.size→¬inF [bx g0 101 (d9 x0)] i→ad.heap[i]? = y.heap[i]?)∧Hle f j∧(K ((((((decide (c.d8=1))||a)||b)||d)||e)||k) j)) (fun s=>?_) (fun s=>?_) ?_
     ·replace h:=h.1 s
      have l:=s
      simp only [k7 l]
      refine g6 Tryz.call53 (h g0) ac ?_
      rintro _ j _ ad ae ax ay ⟨k,rfl,rfl,h⟩
      exact ⟨k,j,by rfl,ae,ay,ax,h⟩
     ·exact ⟨false,f,by rw [R9 s],ac,fun _ _ _=>rfl,Hle.refl _,h.2 s⟩
     ·clear h
      rintro aw ad ⟨k,j,rfl,ae,ay,ax,h⟩
      refine a7 (B5 _ _) ?_
      exact hR _ j _ _ ae ⟨((((((decide (c.d8=1))||a)||b)||d)||e)||k),rfl,rfl,h⟩
def a6H [PanQ] (x0:a8) (H:Hp) (K:Hp→Prop):Prop:=
 z7 x0 H (fun a b=>
 PanQ.q (Value.iface 98 (Value.agg #[(vi a.fAt.o8),(vi a.fAt.s6),(vi 40)])))
theorem b0x [PanQ] (x0:a8) {H:Hp} {K:Hp→Prop} (h:a6H x0 H K):E9 x0 H K:=by
 intro g0
 refine Ct.ofE fun w0 w ps0 H0 R E I hR hE=>d0o ?_
 unfold a6H at h
 unfold F52
 refine g6 Tryz.call51 (h g0) I ?_
 rintro _ b _ c a _ _ ⟨d,rfl,rfl,h⟩
 refine a7 b1d (a7 (b3v _ _ _) (a7 (b5l _ _ _) ?_))
 exact a5Z (hE _ _ _ _ a ⟨_,rfl,h⟩)
def a6V (x0:a8) (x1:ByteArray) (H:Hp) (K:Bool→a8→Hp→Prop):Prop:=
 m5 x0 x1 H (fun a b=>
 ((!a)=true→
 K false x0 b)∧
 ((!a)=false→
 K true (a8.mk x0.fl (IntKind.wrap .i64 (x0.fn+1))) b))
theorem b0K (x0 x1) {H K} (h:a6V x0 x1 H K):v6 x0 x1 H K:=by
 intro g0
 refine Ct.of fun w0 w ps0 H0 R E I hR=>c7x ?_
 unfold a6V at h
 unfold d1d
 refine g6 Tryz.call53 (h g0) I ?_
 rintro _ b _ d a _ _ ⟨e,rfl,rfl,h⟩
 refine a7 (K5 _) ?_
 refine m0 h (fun _ h=>?_) (fun _ h=>?_)
 ·exact hR _ b _ _ a ⟨false,x0,rfl,rfl,h⟩
 ·refine a7 (o5 _) (a7 a5G (g5 (l1 Tryz.isAgg3 a rfl) (a7 pAd (a7 (o5 _) ?_))))
  refine a7 a5G ?_
  refine f8 a Tryz.sizeOf3 (vs:=[(vi (IntKind.wrap .i64 (x0.fn+1)))]) (cs':=[(vs x0.fl),(vi (IntKind.wrap .i64 (x0.fn+1)))]) rfl rfl (nb rfl) rfl rfl fun f c g=>?_
  exact hR _ b _ _ c ⟨true,(a8.mk x0.fl (IntKind.wrap .i64 (x0.fn+1))),rfl,rfl,h⟩
def a4A (x0:a8) (H:Hp) (K:Bool→Hp→Prop):Prop:=
 z7 x0 H (fun a c=>
 TG (((decide (a.d8=1))||(decide (a.d8=2)))=false) (m5 x0 ⟨#[45]⟩ c) false c (fun (b:Bool) (d:Hp)=>
 TG ((((decide (a.d8=1))||(decide (a.d8=2)))||b)=false) (m5 x0 ⟨#[105,110,112,117,116]⟩ d) false d (fun (e:Bool) (f:Hp)=>
 TG (((((decide (a.d8=1))||(decide (a.d8=2)))||b)||e)=false) (m5 x0 ⟨#[40]⟩ f) false f (fun (g:Bool) (i:Hp)=>
 K (((((decide (a.d8=1))||(decide (a.d8=2)))||b)||e)||g) i))))
theorem a8q (x0) {H K} (h:a4A x0 H K):K6 x0 H K:=by
 intro g0
 refine Ct.of fun w0 w ps0 H0 R E I hR=>c8c ?_
 unfold a4A at h
 unfold d1I
 refine g6 Tryz.call51 (h g0) I ?_
 rintro _ u _ v y _ _ ⟨b,rfl,rfl,h⟩
 refine a7 a7d (a7 pEq ?_)
 simp only [q9]
 refine a7 (Pu.g fun a=>by simp only [k7 a];with_reducible exact pEq) ?_
 refine a7 (B5 _ _) ?_
 simp only [q9]
 refine G6 (D:=fun z o=>∃(c:Bool) (k:Hp),z=(gv ((decide (b.d8=1))||(decide (b.d8=2))) false (vB c))∧(Inv w0 ps0 H0 k [bx g0 101 (d9 x0)] o)∧(∀i,i < v.heap.size→¬inF [bx g0 101 (d9 x0)] i→o.heap[i]? = v.heap[i]?)∧Hle u k∧(TG ((((decide (b.d8=1))||(decide (b.d8=2)))||c)=false) (m5 x0 ⟨#[105,110,112,117,116]⟩ k) false k (fun (d:Bool) (e:Hp)=>
 TG (((((decide (b.d8=1))||(decide (b.d8=2)))||c)||d)=false) (m5 x0 ⟨#[40]⟩ e) false e (fun (j:Bool) (f:Hp)=>
 K (((((decide (b.d8=1))||(decide (b.d8=2)))||c)||d)||j) f)))) (fun l=>?_) (fun l=>?_) ?_
 ·replace h:=h.1 l
  have a:=l
  simp only [k7 a]
  refine g6 Tryz.call53 (h g0) y ?_
  rintro _ k _ o q aa ab ⟨c,rfl,rfl,h⟩
  exact ⟨c,k,by rfl,q,ab,aa,h⟩
 ·exact ⟨false,u,by rw [R9 l],y,fun _ _ _=>rfl,Hle.refl _,h.2 l⟩
 ·clear h
  rintro z o ⟨c,k,rfl,q,ab,aa,h⟩
  refine a7 (B5 _ _) ?_
  simp only [q9]
  refine G6 (D:=fun ac p=>∃(d:Bool) (e:Hp),ac=(gv (((decide (b.d8=1))||(decide (b.d8=2)))||c) false (vB d))∧(Inv w0 ps0 H0 e [bx g0 101 (d9 x0)] p)∧(∀i,i < o.heap.size→¬inF [bx g0 101 (d9 x0)] i→p.heap[i]? = o.heap[i]?)∧Hle k e∧(TG (((((decide (b.d8=1))||(decide (b.d8=2)))||c)||d)=false) (m5 x0 ⟨#[40]⟩ e) false e (fun (j:Bool) (f:Hp)=>
 K (((((decide (b.d8=1))||(decide (b.d8=2)))||c)||d)||j) f))) (fun m=>?_) (fun m=>?_) ?_
  ·replace h:=h.1 m
   have a:=m
   simp only [k7 a]
   refine g6 Tryz.call53 (h g0) q ?_
   rintro _ e _ p r ad ae ⟨d,rfl,rfl,h⟩
   exact ⟨d,e,by rfl,r,ae,ad,h⟩
  ·exact ⟨false,k,by rw [R9 m],q,fun _ _ _=>rfl,Hle.refl _,h.2 m⟩
  ·clear h
   rintro ac p ⟨d,e,rfl,r,ae,ad,h⟩
   refine a7 (B5 _ _) ?_
   simp only [q9]
   refine G6 (D:=fun af s=>∃(j:Bool) (f:Hp),af=(gv ((((decide (b.d8=1))||(decide (b.d8=2)))||c)||d) false (vB j))∧(Inv w0 ps0 H0 f [bx g0 101 (d9 x0)] s)∧(∀i,i < p.heap.size→¬inF [bx g0 101 (d9 x0)] i→s.heap[i]? = p.heap[i]?)∧Hle e f∧(K (((((decide (b.d8=1))||(decide (b.d8=2)))||c)||d)||j) f)) (fun n=>?_) (fun n=>?_) ?_
   ·replace h:=h.1 n
    have a:=n
    simp only [k7 a]
    refine g6 Tryz.call53 (h g0) r ?_
    rintro _ f _ s t ag ah ⟨j,rfl,rfl,h⟩
    exact ⟨j,f,by rfl,t,ah,ag,h⟩
   ·exact ⟨false,e,by rw [R9 n],r,fun _ _ _=>rfl,Hle.refl _,h.2 n⟩
   ·clear h
    rintro af s ⟨j,f,rfl,t,ah,ag,h⟩
    refine a7 (B5 _ _) ?_
    exact hR _ f _ _ t ⟨(((((decide (b.d8=1))||(decide (b.d8=2)))||c)||d)||j),rfl,rfl,h⟩
def a3l [PanQ] (x0:a8) (x1:Int) (x2:ByteArray) (H:Hp) (K:d6→a8→Hp→Prop):Prop:=
 K6 x0 H (fun a b=>
 D3 x0 (IntKind.wrap .i64 (x1+1)) a b (fun c=>
 O5 x0 (IntKind.wrap .i64 (x1+1)) c (fun d e f=>
 C7 e x2 f (fun g i=>
 K d g i))))
theorem b0j [PanQ] (x0:a8) (x1:Int) (x2:ByteArray) {H:Hp} {K:d6→a8→Hp→Prop} (h:a3l x0 x1 x2 H K):W7 x0 x1 x2 H K:=by
 intro g0
 refine Ct.ofE fun w0 w ps0 H0 R E I hR hE=>c7y ?_
 unfold a3l at h
 unfold d1e
 refine m9 I Tryz.zeroValue40 (cs:=[(vi 0),(vi 0),(eS),(nS)]) rfl fun m n d p=>?_
 refine a7 pAd ?_
 refine g6 Tryz.call141 (h g0) (d.bring 1) ?_
 rintro _ _ _ q e _ _ ⟨r,rfl,rfl,h⟩
 refine z8 hE Tryz.call55 (h g0) e ?_
 rintro _ _ _ s f _ _ ⟨rfl,rfl,h⟩
 refine a7 pAd ?_
 refine z8 hE Tryz.call35 (h g0) f ?_
 rintro _ _ _ t g _ _ ⟨a,u,rfl,rfl,h⟩
 refine m9 g Tryz.zeroValue40 (cs:=[(vi 0),(vi 0),(eS),(nS)]) rfl fun v y i z=>?_
 refine f8 i Tryz.sizeOf40 (vs:=(d7 a)) (cs':=(d7 a)) rfl rfl (nb rfl) rfl rfl fun aa j ab=>?_
 refine z8 hE Tryz.call103 (h g0) (j.bring 1) ?_
 rintro _ k _ ac b _ _ ⟨l,rfl,rfl,h⟩
 refine g5 (lW Tryz.isAgg40 Tryz.sizeOf40 rfl (b.bring 1)) ?_
 refine f8 (b.bring 2) Tryz.sizeOf40 (vs:=(d7 a)) (cs':=(d7 a)) rfl rfl (nb rfl) rfl rfl fun ad c ae=>?_
 refine o4 Tryz.isAgg40 Tryz.sizeOf40 rfl (c.at1 (o:=0) (vs:=(d7 a)) (nb rfl) rfl) ?_
 exact hR _ k _ _ (c.drop.bring 1).drop ⟨a,l,rfl,rfl,h⟩
def a7q (x0:d6) (H:Hp) (K:Int→Hp→Prop):Prop:=
 ∀(a:Sl) (b:Hp),Hle H b→SlH b 1 u0 a [(g9.H7 (L8.mk x0))]→a.n≤a.c→
 a1Y a b (fun d e=>
 K d.fe e)
theorem b3U (x0) {H K} (h:a7q x0 H K):a7e x0 H K:=by
 refine Ct.of fun w0 w ps0 H0 R E I hR=>d0e ?_
 unfold a7q at h
 unfold F36
 refine P2 I (cs:=(d7 x0)) rfl fun p q a r=>?_
 refine g5 (lW Tryz.isAgg40 Tryz.sizeOf40 rfl a) (a7 (b3M _ _ _ _ _ _) (a7 (a9n (L8.mk x0)) ?_))
 refine V9 (e:=131) (c:=u0) (xs:=[(g9.H7 (L8.mk x0))]) a (a9o _) rfl rfl P8 S2 (nb rfl) fun d s t f g u=>?_
 obtain ⟨i,j,k,l,m⟩:=Inv.freezeC g f (by decide)
 replace h:=h d i k l m
 refine g6 Tryz.call74 h j ?_
 rintro _ n _ v b _ _ ⟨o,y,rfl,rfl,h⟩
 refine a7 (o5 _) (a7 a6j (g5 (l1 Tryz.isAgg29 b rfl) ?_))
 exact hR _ n _ _ b.drop.drop ⟨o.fe,rfl,rfl,h⟩
def a5T (x0:Int) (H:Hp) (K:Bool→Hp→Prop):Prop:=
 K (!decide (x0=10)) H
theorem a9D (x0) {H K} (h:a5T x0 H K):a2E x0 H K:=by
 refine Ct.of fun w0 w ps0 H0 R E I hR=>c7X ?_
 unfold a5T at h
 unfold d1D
 refine a7 pNe ?_
 exact hR _ H _ _ I ⟨(!decide (x0=10)),rfl,rfl,h⟩
def a4B (x0:g8) (a:(List b6)) (H:Hp) (K:g8→(List b6)→Hp→Prop):Prop:=
 W1 (u1 x0) a H (fun e f=>
 a1l e f (fun b c d=>
 (b=10→
 K (g8.mk x0.fs (IntKind.wrap .i64 (x0.fn+c)) (b7.mk (IntKind.wrap .i64 (x0.fat.o8+1)) 1) (Sl.mk none 0 0)) a d)∧
 (¬(b=10)→
 K (g8.mk x0.fs (IntKind.wrap .i64 (x0.fn+c)) (b7.mk x0.fat.o8 (IntKind.wrap .i64 (x0.fat.s6+1))) (Sl.mk none 0 0)) a d)))
theorem b1r (x0 c) {H K} (h:a4B x0 c H K):B9 x0 c H K:=by
 intro g0 b d e
 refine Ct.of fun w0 w ps0 H0 R E I hR=>c8k ?_
 unfold a4B at h
 unfold d1Q
 refine g6 Tryz.call135 (h g0 b d e) ((I.bring 1).bring 1) ?_
 rintro _ n _ o k _ _ ⟨p,rfl,rfl,h⟩
 refine g6 Tryz.call128 h k ?_
 rintro _ g _ q i _ _ ⟨l,a,rfl,rfl,h⟩
 refine a7 (g7 _ _ (Value.int .i32 l) rfl) (a7 (g7 _ _ (vi a) rfl) (a7 (o5 _) (a7 a0K (g5 (l1 Tryz.isAgg3 i rfl) ?_))))
 refine a7 pAd (a7 (o5 _) (a7 a0K ?_))
 refine f8 i Tryz.sizeOf3 (vs:=[(vi (IntKind.wrap .i64 (x0.fn+a)))]) (cs':=[(Value.string x0.fs),(vi (IntKind.wrap .i64 (x0.fn+a))),(vi x0.fat.o8),(vi x0.fat.s6),(vs b)]) rfl rfl (nb rfl) rfl rfl fun r j s=>?_
 refine a7 (o5 _) (a7 a6J (a7 a5s (g5 (l1 Tryz.isAgg3 j rfl) (a7 pAd ?_))))
 refine a7 (o5 _) (a7 a6J (a7 a5s ?_))
 refine f8 j Tryz.sizeOf3 (vs:=[(vi (IntKind.wrap .i64 (x0.fat.s6+1)))]) (cs':=[(Value.string x0.fs),(vi (IntKind.wrap .i64 (x0.fn+a))),(vi x0.fat.o8),(vi (IntKind.wrap .i64 (x0.fat.s6+1))),(vs b)]) rfl rfl (nb rfl) rfl rfl fun t f u=>?_
 refine a7 pEq ?_
 refine l7 h (fun _ h=>?_) (fun _ h=>?_)
 ·refine a7 (o5 _) (a7 a6J (a7 a8R (g5 (l1 Tryz.isAgg3 f rfl) (a7 pAd ?_))))
  refine a7 (a6y _ _) (a7 (o5 _) (a7 a6J ?_))
  refine f8 f Tryz.sizeOf28 (vs:=[(vi (IntKind.wrap .i64 (x0.fat.o8+1))),(vi 1)]) (cs':=[(Value.string x0.fs),(vi (IntKind.wrap .i64 (x0.fn+a))),(vi (IntKind.wrap .i64 (x0.fat.o8+1))),(vi 1),(vs b)]) rfl rfl (nb rfl) rfl rfl fun v m y=>?_
  exact hR _ g _ _ ((m.bring 1).bring 1) ⟨(g8.mk x0.fs (IntKind.wrap .i64 (x0.fn+a)) (b7.mk (IntKind.wrap .i64 (x0.fat.o8+1)) 1) (Sl.mk none 0 0)),c,b,d,rfl,rfl,e,h⟩
 ·exact hR _ g _ _ ((f.bring 1).bring 1) ⟨(g8.mk x0.fs (IntKind.wrap .i64 (x0.fn+a)) (b7.mk x0.fat.o8 (IntKind.wrap .i64 (x0.fat.s6+1))) (Sl.mk none 0 0)),c,b,d,rfl,rfl,e,h⟩
def y6 (a0b:Int) (u7:ByteArray) (u9:Int) (A4:b7) (D5:(List b6)) (H:Hp) (K:ByteArray→g8→(List b6)→Hp→Prop):Prop:=
 (0:Int)≤a0b∧(a0b:Int)≤u9∧(u9:Int)≤u7.size∧
 K (u7.extract (a0b:Int).toNat (u9:Int).toNat) (g8.mk u7 u9 A4 (Sl.mk none 0 0)) D5 H
def B3 (X5:Int) (C8:Int) (r8:Bool) (q7:ByteArray) (q8:Int) (p7:b7) (p9:(List b6)) (H:Hp) (n2:(Int×Bool×ByteArray×Int×b7×(List b6))→Hp→Prop) (K:ByteArray→g8→(List b6)→Hp→Prop):Prop:=
 TG (r8=true) (a2F C8 H) false H (fun (b:Bool) (c:Hp)=>
 ((r8&&b)=true→
 B9 (g8.mk q7 q8 p7 (Sl.mk none 0 0)) p9 c (fun a d e=>
 A6 (u1 a) d e (fun f g i=>
 n2 (f,g,a.fs,a.fn,a.fat,d) i)))∧
 ((r8&&b)=false→
 y6 X5 q7 q8 p7 p9 c K))
def N8 (x0:g8) (a:(List b6)) (H:Hp) (K:ByteArray→g8→(List b6)→Hp→Prop):Prop:=
 A6 (u1 x0) a H (fun b c d=>
 TL ((b,c,x0.fs,x0.fn,x0.fat,a):Int×Bool×ByteArray×Int×b7×(List b6)) d fun (s:Int×Bool×ByteArray×Int×b7×(List b6)) H n2=>B3 x0.fn s.1 s.2.1 s.2.2.1 s.2.2.2.1 s.2.2.2.2.1 s.2.2.2.2.2 H n2 K)
theorem a3b (x0 q) {H K} (h:N8 x0 q H K):G3 x0 q H K:=by
 intro g0 y z aa
 refine Ct.of fun w0 w ps0 H0 R E I hR=>b4t ?_
 unfold N8 at h
 unfold b9U
 refine a7 (o5 _) (a7 a0K (g5 (l1 Tryz.isAgg3 I rfl) ?_))
 have hj1:∀(u7:ByteArray) (u9:Int) (A4:b7) (D5:(List b6)) (X9:Sl) (O6:Frag) H w (_:RowL 103 5 f9 X9 D5 O6) (_:Inv w0 ps0 H0 H [bx g0 155 [(Value.string u7),(vi u9),(vi A4.o8),(vi A4.s6),(vs X9)],O6] w) (_:y6 x0.fn u7 u9 A4 D5 H K),a7H (Value.pointer (some ⟨g0,0,none⟩)) (vi x0.fn) w R E:=by
  intro u7 u9 A4 D5 X9 O6 H w a5J I h
  unfold a7H
  intro _
  unfold y6 at h
  refine P3 I fun ax r=>?_
  refine o7 (o5 _) ?_
  refine o7 a8e ?_
  refine o7 (o5 _) ?_
  refine o7 a0K ?_
  refine t8 (l1 Tryz.isAgg9 r rfl) ?_
  refine t8 (l1 Tryz.isAgg3 r rfl) ?_
  obtain ⟨ak,al,am,h⟩:=h
  refine o7 (a6g u7 Tryz.underlying9 ak al am) ?_
  exact hR _ H _ _ ((r.bring 1).bring 1) ⟨(u7.extract (x0.fn:Int).toNat (u9:Int).toNat),(g8.mk u7 u9 A4 (Sl.mk none 0 0)),D5,X9,O6,rfl,rfl,a5J,h⟩
 refine r9 fun j1 hx1=>?_
 refine g6 Tryz.call100 (h g0 y z aa) ((I.bring 1).bring 1) ?_
 rintro _ an _ ay ao _ _ ⟨ab,ac,rfl,rfl,h⟩
 refine a7 (g7 _ _ (Value.int .i32 ab) rfl) (a7 (g7 _ _ (vB ac) rfl) ?_)
 obtain ⟨t,g,ap,aq⟩:=h
 refine B0 (J:=fun n l w=>∃(s:Int×Bool×ByteArray×Int×b7×(List b6)) (H:Hp) (M4:Sl) (E8:Frag),n=g s∧l=(match s with | (C8,r8,q7,q8,p7,p9)=>[(Value.int .i32 C8),(vB r8)])∧(match s with | (C8,r8,q7,q8,p7,p9)=>RowL 103 5 f9 M4 p9 E8)∧(match s with | (C8,r8,q7,q8,p7,p9)=>Inv w0 ps0 H0 H [bx g0 155 [(Value.string q7),(vi q8),(vi p7.o8),(vi p7.s6),(vs M4)],E8] w)∧t s H) ⟨_,(ab,ac,x0.fs,x0.fn,x0.fat,q),an,y,z,rfl,rfl,aa,((ao.bring 1).bring 1),ap⟩ ?_
 rintro az ba w next2 ⟨⟨C8,r8,q7,q8,p7,p9⟩,H,M4,E8,rfl,u,T6,I,ar⟩ hn2
 dsimp only at u I T6
 simp only [List.map_cons,List.map_nil,List.cons.injEq,and_true] at u
 obtain ⟨e6,e7⟩:=u
 simp only [e6,e7]
 obtain ⟨n2,hm2,h⟩:∃n2:(Int×Bool×ByteArray×Int×b7×(List b6))→Hp→Prop,(∀s' H',n2 s' H'→t s' H'∧g s' < g (C8,r8,q7,q8,p7,p9))∧B3 x0.fn C8 r8 q7 q8 p7 p9 H n2 K:=⟨_,fun _ _ h=>h,aq (C8,r8,q7,q8,p7,p9) H (fun s' H'=>t s' H'∧g s' < g (C8,r8,q7,q8,p7,p9)) ar (fun _ _ a b=>⟨a,b⟩)⟩
 unfold b2t
 unfold B3 at h
 simp only [q9]
 refine G6 (D:=fun ad j=>∃(f:Bool) (c:Hp),ad=(gv r8 true (vB f))∧(Inv w0 ps0 H0 c [bx g0 155 [(Value.string q7),(vi q8),(vi p7.o8),(vi p7.s6),(vs M4)],E8] j)∧(∀i,i < w.heap.size→¬inF [] i→j.heap[i]? = w.heap[i]?)∧Hle H c∧(((r8&&f)=true→
 B9 (g8.mk q7 q8 p7 (Sl.mk none 0 0)) p9 c (fun (d:g8) (k:(List b6)) (au:Hp)=>
 A6 (u1 d) k au (fun (m:Int) (o:Bool) (v:Hp)=>
 n2 (m,o,d.fs,d.fn,d.fat,k) v)))∧
 ((r8&&f)=false→
 y6 x0.fn q7 q8 p7 p9 c K))) (fun e=>?_) (fun e=>?_) ?_
 ·replace h:=h.1 e
  have ae:=e
  simp only [k7 ae]
  refine g6 Tryz.call131 h I ?_
  rintro _ c _ j p af ag ⟨f,rfl,rfl,h⟩
  exact ⟨f,c,by rfl,p,ag,af,h⟩
 ·exact ⟨false,H,by rw [R9 e],I,fun _ _ _=>rfl,Hle.refl _,h.2 e⟩
 ·clear h
  rintro ad j ⟨f,c,rfl,p,ag,af,h⟩
  refine a7 (u4 _ _) ?_
  refine m0 h (fun _ h=>?_) (fun _ h=>?_)
  ·refine g6 Tryz.call152 (h g0 M4 E8 T6) ((p.bring 1).bring 1) ?_
   rintro _ _ _ bb av _ _ ⟨d,k,ah,ai,rfl,rfl,aj,h⟩
   refine g6 Tryz.call100 (h g0 ah ai aj) ((av.bring 1).bring 1) ?_
   rintro _ v _ bc aw _ _ ⟨m,o,rfl,rfl,h⟩
   refine a7 (g7 _ _ (Value.int .i32 m) rfl) (a7 (g7 _ _ (vB o) rfl) ?_)
   exact hn2 _ _ _ (hm2 _ _ h).2 ⟨(m,o,d.fs,d.fn,d.fat,k),v,ah,ai,rfl,rfl,aj,((aw.bring 1).bring 1),(hm2 _ _ h).1⟩
  ·exact hx1 _ _ (hj1 q7 q8 p7 p9 M4 E8 c _ T6 ((p.bring 1).bring 1) h)
def a3K (x0:g8) (j:(List b6)) (H:Hp) (K:b6→Int→g8→(List b6)→Hp→Prop):Prop:=
 N6 (u1 x0) j H (fun a c d k=>
 b0c a 10 64 k (fun l b m=>
 A6 (u1 c) d m (fun n e f=>
 okI b∧
 ((!(!isNilI b)&&(decide (1 < (a.size:Int))))=true→(0:Int)≤0∧0 < (a.size:Int))∧
 TG ((!((!isNilI b)||((decide (1 < (a.size:Int)))&&(decide (((a.get! (0:Int).toNat).toNat:Int)=48))))&&e)=true) (V0 n f) 0 f (fun (g:Int) (i:Hp)=>
 ((((!isNilI b)||((decide (1 < (a.size:Int)))&&(decide (((a.get! (0:Int).toNat).toNat:Int)=48))))||(e&&(decide (g=3))))=true→
 K (b6.mk 2 a 0 (b7.mk 0 0)) 21 (u1 c) d i)∧
 ((((!isNilI b)||((decide (1 < (a.size:Int)))&&(decide (((a.get! (0:Int).toNat).toNat:Int)=48))))||(e&&(decide (g=3))))=false→
 K (b6.mk 2 a l (b7.mk 0 0)) 0 (u1 c) d i)))))
theorem b0y (x0 z) {H K} (h:a3K x0 z H K):a6C x0 z H K:=by
 intro g0 aj ak al
 refine Ct.of fun w0 w ps0 H0 R E I hR=>c7Z ?_
 unfold a3K at h
 unfold d1F
 refine m9 I Tryz.zeroValue103 (cs:=[(vi 0),(eS),(vi 0),(vi 0),(vi 0)]) rfl fun am aw an ax=>?_
 refine g6 Tryz.call133 (h g0 aj ak al) ((an.bring 2).bring 2) ?_
 rintro _ _ _ ay ao _ _ ⟨c,n,q,r,s,rfl,rfl,y,h⟩
 refine a7 (a1D _ _) ?_
 refine m9 ao Tryz.zeroValue103 (cs:=[(vi 0),(eS),(vi 0),(vi 0),(vi 0)]) rfl fun ap az aq ba=>?_
 refine f8 aq Tryz.sizeOf103 (vs:=[(vi 2),(Value.string c),(vi 0),(vi 0),(vi 0)]) (cs':=[(vi 2),(Value.string c),(vi 0),(vi 0),(vi 0)]) rfl rfl (nb rfl) rfl rfl fun bb aa bc=>?_
 refine a7 R3 (g5 (l1 Tryz.isAgg9 aa rfl) ?_)
 refine g6 Tryz.call158 h aa ?_
 rintro _ _ _ bd ar _ _ ⟨f,t,rfl,rfl,h⟩
 refine a7 (g7 _ _ (vi f) rfl) (a7 (g7 _ _ t rfl) ?_)
 refine g6 Tryz.call100 (h g0 r s y) ((ar.bring 2).bring 2) ?_
 rintro _ ab _ ac j _ _ ⟨au,u,rfl,rfl,h⟩
 refine a7 (g7 _ _ (Value.int .i32 au) rfl) (a7 (g7 _ _ (vB u) rfl) ?_)
 obtain ⟨av,h⟩:=h
 refine a7 (c2A _ av) ?_
 refine a7 (Pu.g fun a=>by with_reducible exact R3) ?_
 refine g5 (Ld.g fun a=>by simp only [k7 a];exact (l1 Tryz.isAgg9 (j.bring 2) rfl)) ?_
 refine a7 (Pu.g fun a=>by simp only [k7 a];with_reducible exact (X3 _)) ?_
 refine a7 (Pu.g fun a=>by simp only [k7 a];with_reducible exact pGt) ?_
 simp only [q9,a2U]
 refine a7 (Pu.e (Q7 _ _ _) (Pu.g fun hb=>by obtain ⟨a,b⟩:=X1 hb;with_reducible exact R3)) ?_
 refine g5 (Ld.e (Q7 _ _ _) (Ld.g fun hb=>by obtain ⟨a,b⟩:=X1 hb;simp only [k7 hb];exact (l1 Tryz.isAgg9 (j.bring 2) rfl))) ?_
 obtain ⟨d,h⟩:=h
 refine a7 (Pu.e (Q7 _ _ _) (Pu.g fun hb=>by obtain ⟨a,b⟩:=X1 hb;simp only [k7 hb];with_reducible exact (a3r _ _ _ (d hb).1 (d hb).2))) ?_
 refine a7 (Pu.e (Q7 _ _ _) (Pu.g fun hb=>by obtain ⟨a,b⟩:=X1 hb;simp only [k7 hb];with_reducible exact pEq)) ?_
 refine a7 (Pu.g fun a=>by simp only [k7 a,a7b a];with_reducible exact (u4 _ _)) ?_
 refine a7 (B5 _ _) ?_
 simp only [q9,a2U,a9Y]
 refine b8x (Q7 _ _ _) ?_
 refine G6 (D:=fun ad v=>∃(m:Int) (k:Hp),ad=(gv (!((!isNilI t)||((decide (1 < (c.size:Int)))&&(decide (((c.get! (0:Int).toNat).toNat:Int)=48))))&&u) true (vi m))∧(Inv w0 ps0 H0 k [bx g0 155 (u6 n r),s,bx ap 103 [(vi 2),(Value.string c),(vi 0),(vi 0),(vi 0)],bx am 103 [(vi 0),(eS),(vi 0),(vi 0),(vi 0)]] v)∧(∀i,i < ac.heap.size→¬inF [] i→v.heap[i]? = ac.heap[i]?)∧Hle ab k∧(((((!isNilI t)||((decide (1 < (c.size:Int)))&&(decide (((c.get! (0:Int).toNat).toNat:Int)=48))))||(u&&(decide (m=3))))=true→
 K (b6.mk 2 c 0 (b7.mk 0 0)) 21 (u1 n) q k)∧
 ((((!isNilI t)||((decide (1 < (c.size:Int)))&&(decide (((c.get! (0:Int).toNat).toNat:Int)=48))))||(u&&(decide (m=3))))=false→
 K (b6.mk 2 c f (b7.mk 0 0)) 0 (u1 n) q k))) (fun l=>?_) (fun l=>?_) ?_
 ·replace h:=h.1 l
  obtain ⟨a,b⟩:=X1 l
  simp only [k7 l]
  refine g6 Tryz.call132 h j ?_
  rintro _ k _ v p ae af ⟨m,rfl,rfl,h⟩
  exact ⟨m,k,by rfl,p,af,ae,h⟩
 ·exact ⟨0,ab,by rw [R9 l],j,fun _ _ _=>rfl,Hle.refl _,h.2 l⟩
 ·clear h
  rintro ad v ⟨m,k,rfl,p,af,ae,h⟩
  refine a7 (Pu.e (Q7 _ _ _) (Pu.g fun hb=>by obtain ⟨a,b⟩:=X1 hb;simp only [k7 hb];with_reducible exact pEq)) ?_
  refine a7 (Pu.g fun a=>by simp only [k7 a,a7b a];with_reducible exact (u4 _ _)) ?_
  refine a7 (B5 _ _) ?_
  refine m0 h (fun _ h=>?_) (fun _ h=>?_)
  ·refine g5 (ldA Tryz.isAgg103 Tryz.sizeOf103 rfl ((p.bring 2).at1 (o:=0) (vs:=[(vi 2),(Value.string c),(vi 0),(vi 0),(vi 0)]) (nb rfl) rfl)) ?_
   refine f8 (p.bring 3) Tryz.sizeOf103 (vs:=[(vi 2),(Value.string c),(vi 0),(vi 0),(vi 0)]) (cs':=[(vi 2),(Value.string c),(vi 0),(vi 0),(vi 0)]) rfl rfl (nb rfl) rfl rfl fun be ag bf=>?_
   refine o4 Tryz.isAgg103 Tryz.sizeOf103 rfl (ag.at1 (o:=0) (vs:=[(vi 2),(Value.string c),(vi 0),(vi 0),(vi 0)]) (nb rfl) rfl) ?_
   exact hR _ k _ _ (((ag.drop.bring 2).drop.bring 1).bring 1) ⟨(b6.mk 2 c 0 (b7.mk 0 0)),21,(u1 n),q,r,s,rfl,rfl,y,h⟩
  ·refine a7 a8c ?_
   refine f8 (p.bring 2) Tryz.sizeOf2 (vs:=[(vi f)]) (cs':=[(vi 2),(Value.string c),(vi f),(vi 0),(vi 0)]) rfl rfl (nb rfl) rfl rfl fun bg ah bh=>?_
   refine g5 (ldA Tryz.isAgg103 Tryz.sizeOf103 rfl (ah.at1 (o:=0) (vs:=[(vi 2),(Value.string c),(vi f),(vi 0),(vi 0)]) (nb rfl) rfl)) ?_
   refine f8 (ah.bring 3) Tryz.sizeOf103 (vs:=[(vi 2),(Value.string c),(vi f),(vi 0),(vi 0)]) (cs':=[(vi 2),(Value.string c),(vi f),(vi 0),(vi 0)]) rfl rfl (nb rfl) rfl rfl fun bi ai bj=>?_
   refine o4 Tryz.isAgg103 Tryz.sizeOf103 rfl (ai.at1 (o:=0) (vs:=[(vi 2),(Value.string c),(vi f),(vi 0),(vi 0)]) (nb rfl) rfl) ?_
   exact hR _ k _ _ ((ai.drop.drop.bring 1).bring 1) ⟨(b6.mk 2 c f (b7.mk 0 0)),0,(u1 n),q,r,s,rfl,rfl,y,h⟩
def D6 (a0j:(List g9)) (H:Hp) (K:Sl→Hp→Prop):Prop:=
 ∀(G4:Sl) (a:Hp),Hle H a→SlH a 1 u0 G4 a0j→G4.n≤G4.c→
 K G4 a
def D7 (A9:Sl) (a0P:Int) (y9:(List g9)) (v7:Int) (H:Hp) (n2:((List g9)×Int)→Hp→Prop) (K:Sl→Hp→Prop):Prop:=
 (v7 < a0P→
 (0:Int)≤v7∧(v7:Int) < A9.n∧∃a:d6,EltH H A9 v7 4 (d7 a)∧
 a8U a H (fun b c=>
 (y9.length+([b]:List g9).length)*17≤140737488355328∧
 n2 ((y9++[b]),(IntKind.wrap .i64 (v7+1))) c))∧
 (¬(v7 < a0P)→
 D6 y9 H K)
def M8 (x0:Sl) (H:Hp) (K:Sl→Hp→Prop):Prop:=
 TL (([],0):(List g9)×Int) H fun (s:(List g9)×Int) H n2=>D7 x0 (x0.n:Int) s.1 s.2 H n2 K
theorem a2M (x0) {H K} (h:M8 x0 H K):C0 x0 H K:=by
 refine Ct.of fun w0 w ps0 H0 R E I hR=>c8v ?_
 unfold M8 at h
 unfold d2b
 have hj1:∀(a0j:(List g9)) (G4:Sl) (Fs5j1:Frag) H w (_:RowL 131 1 u0 G4 a0j Fs5j1) (_:Inv w0 ps0 H0 H [Fs5j1] w) (_:D6 a0j H K),b7f (vs G4) w R E:=by
  intro a0j G4 Fs5j1 H w b0J I h
  unfold b7f
  intro _
  unfold D6 at h
  obtain ⟨k,q,r,t,u⟩:=Inv.freezeC I b0J (by decide)
  replace h:=h G4 k r t u
  exact hR _ k _ _ q ⟨G4,rfl,rfl,h⟩
 refine r9 fun j1 hx1=>?_
 refine a7 (T0 _ _ _) ?_
 obtain ⟨f,d,v,y⟩:=h
 refine B0 (J:=fun n l w=>∃(s:(List g9)×Int) (H:Hp) (a0l:Sl) (Fs5l2:Frag),n=d s∧l=(match s with | (y9,v7)=>[(vs a0l),(vi v7)])∧(match s with | (y9,v7)=>RowL 131 1 u0 a0l y9 Fs5l2)∧(match s with | (y9,v7)=>Inv w0 ps0 H0 H [Fs5l2] w)∧f s H) ⟨_,([],0),H,(Sl.mk none 0 0),[],rfl,rfl,(RowL.nil P8 S2),I.nil,v⟩ ?_
 rintro am an w next2 ⟨⟨y9,v7⟩,H,a0l,Fs5l2,rfl,g,a3Y,I,z⟩ hn2
 dsimp only at g I a3Y
 simp only [List.map_cons,List.map_nil,List.cons.injEq,and_true] at g
 obtain ⟨e5,e10⟩:=g
 simp only [e5,e10]
 obtain ⟨n2,hm2,h⟩:∃n2:((List g9)×Int)→Hp→Prop,(∀s' H',n2 s' H'→f s' H'∧d s' < d (y9,v7))∧D7 x0 (x0.n:Int) y9 v7 H n2 K:=⟨_,fun _ _ h=>h,y (y9,v7) H (fun s' H'=>f s' H'∧d s' < d (y9,v7)) z (fun _ _ a b=>⟨a,b⟩)⟩
 unfold c1F
 unfold D7 at h
 refine a7 pLs ?_
 refine l7 h (fun _ h=>?_) (fun _ h=>?_)
 ·obtain ⟨aa,ab,i,j,h⟩:=h
  obtain ⟨ao,ap,ac,j⟩:=j
  refine a7 (a5F ac _ _ _ _ aa ab) (g5 (ldA (vs:=(d7 i)) Tryz.isAgg40 Tryz.sizeOf40 rfl (I.atH j)) ?_)
  refine m9 I Tryz.zeroValue40 (cs:=[(vi 0),(vi 0),(eS),(nS)]) rfl fun aq ar ad au=>?_
  refine f8 ad Tryz.sizeOf40 (vs:=(d7 i)) (cs':=(d7 i)) rfl rfl (nb rfl) rfl rfl fun av m aw=>?_
  refine g5 (lW Tryz.isAgg40 Tryz.sizeOf40 rfl m) ?_
  refine g6 Tryz.call208 h m ?_
  rintro _ ae _ ax af _ _ ⟨o,rfl,rfl,h⟩
  refine V9 (e:=131) (c:=u0) (xs:=[o]) af (a9o _) rfl rfl P8 S2 (nb rfl) fun ay az ba ag p bb=>?_
  obtain ⟨ah,h⟩:=h
  refine b2r (s:=a0l) (xs:=y9) (p.bring 2) a3Y (ag.srcO ((p.bring 2).bring 1)) ah fun ai aj bc ak al bd=>?_
  refine a7 pAd ?_
  exact hn2 _ _ _ (hm2 _ _ h).2 ⟨((y9++[o]),(IntKind.wrap .i64 (v7+1))),ae,ai,aj,rfl,rfl,ak,((al.bring 1).drop.bring 1).drop,(hm2 _ _ h).1⟩
 ·exact hx1 _ _ (hj1 y9 a0l Fs5l2 H _ a3Y I h)
def a4C (x0:L8) (H:Hp) (K:Sl→Hp→Prop):Prop:=
 C0 x0.y1.B1 H (fun a b=>
 K a b)
theorem b1s (x0) {H K} (h:a4C x0 H K):a7i x0 H K:=by
 refine Ct.of fun w0 w ps0 H0 R E I hR=>c8u ?_
 unfold a4C at h
 unfold d2a
 refine P2 I (cs:=(d7 x0.y1)) rfl fun e f a g=>?_
 refine a7 a1S (a7 a0M (g5 (l1 Tryz.isAgg38 a rfl) ?_))
 refine g6 Tryz.call207 h a ?_
 rintro _ b _ i c _ _ ⟨d,rfl,rfl,h⟩
 exact hR _ b _ _ c.drop ⟨d,rfl,rfl,h⟩
def S7 (b4F:Bool) (a:M0) (b:Q5) (H:Hp) (K:Bool→Hp→Prop):Prop:=
 (b4F=true→
 K (decide (a.fexprs=0∧a.fparts=2)) H)∧
 (b4F=false→
 K false H)
def S8 (a7J:Int) (b4G:Bool) (a:M0) (b:Q5) (H:Hp) (K:Bool→Hp→Prop):Prop:=
 (b4G=true→
 K (decide (a.fexprs=0∧a.fparts=0)) H)∧
 (b4G=false→
 (a7J=4→
 K (decide (a.fexprs=0∧a.fparts=1)) H)∧
 (¬(a7J=4)→
 (a7J=5→
 S7 (decide (a7J=5)) a b H K)∧
 (¬(a7J=5)→
 S7 (decide (a7J=6)) a b H K)))
def a5j (x0:Q5) (H:Hp) (K:Bool→Hp→Prop):Prop:=
 (x0.s8.d8=3→
 K (((decide (1≤x0.s8.fOp))&&(decide (x0.s8.fOp≤6)))&&(decide ((x0.s8.o0.n:Int)=2∧(x0.s8.t7.n:Int)=0))) H)∧
 (¬(x0.s8.d8=3)→
 (¬(x0.s8.fOp=0)→
 K false H)∧
 (x0.s8.fOp=0→
 (x0.s8.d8=1→
 S8 x0.s8.d8 (decide (x0.s8.d8=1)) (M0.mk (x0.s8.o0.n:Int) (x0.s8.t7.n:Int)) x0 H K)∧
 (¬(x0.s8.d8=1)→
 S8 x0.s8.d8 (decide (x0.s8.d8=2)) (M0.mk (x0.s8.o0.n:Int) (x0.s8.t7.n:Int)) x0 H K)))
theorem b1J (x0) {H K} (h:a5j x0 H K):a5c x0 H K:=by
 refine Ct.of fun w0 w ps0 H0 R E I hR=>c8x ?_
 unfold a5j at h
 unfold d2d
 refine P2 I (cs:=(f7 x0.s8)) rfl fun e i d j=>?_
 refine a7 a2X (a7 a0O (g5 (l1 Tryz.isAgg38 d rfl) (a7 (T0 _ _ _) (a7 a2X ?_))))
 refine a7 a0N (g5 (l1 Tryz.isAgg47 d rfl) (a7 (a4c _ _ _) (a7 (a7G _ _) ?_)))
 refine m9 d Tryz.zeroValue260 (cs:=[(vi 0),(vi 0)]) rfl fun c k f l=>?_
 refine f8 f Tryz.sizeOf260 (vs:=[(vi (x0.s8.o0.n:Int)),(vi (x0.s8.t7.n:Int))]) (cs':=[(vi (x0.s8.o0.n:Int)),(vi (x0.s8.t7.n:Int))]) rfl rfl (nb rfl) rfl rfl fun m b p=>?_
 refine a7 a2X (a7 a6i (g5 (l1 Tryz.isAgg3 (b.bring 1) rfl) (a7 pEq ?_)))
 refine l7 h (fun _ h=>?_) (fun _ h=>?_)
 ·refine a7 a2X (a7 a5r (g5 (l1 Tryz.isAgg3 (b.bring 1) rfl) (a7 pGe ?_)))
  refine a7 (Pu.g fun a=>by with_reducible exact a2X) ?_
  refine a7 (Pu.g fun a=>by simp only [k7 a];with_reducible exact a5r) ?_
  refine g5 (Ld.g fun a=>by simp only [k7 a];exact (l1 Tryz.isAgg3 (b.bring 1) rfl)) ?_
  refine a7 (Pu.g fun a=>by simp only [k7 a];with_reducible exact pLe) ?_
  refine a7 (u4 _ _) ?_
  refine g5 (Ld.g fun a=>by exact (ldA Tryz.isAgg260 Tryz.sizeOf260 rfl (b.at1 (o:=0) (vs:=[(vi (x0.s8.o0.n:Int)),(vi (x0.s8.t7.n:Int))]) (nb rfl) rfl))) ?_
  refine a7 (Pu.g fun a=>by with_reducible exact (a7G _ _)) ?_
  refine a7 (Pu.g fun a=>by simp only [k7 a];with_reducible exact (b1O _ _ _ _ _ _)) ?_
  refine a7 (u4 _ _) ?_
  exact hR _ H _ _ b.drop.drop ⟨(((decide (1≤x0.s8.fOp))&&(decide (x0.s8.fOp≤6)))&&(decide ((x0.s8.o0.n:Int)=2∧(x0.s8.t7.n:Int)=0))),rfl,rfl,h⟩
 ·refine a7 a2X (a7 a5r (g5 (l1 Tryz.isAgg3 (b.bring 1) rfl) (a7 pNe ?_)))
  refine Z9 h (fun _ h=>?_) (fun _ h=>?_)
  ·exact hR _ H _ _ b.drop.drop ⟨false,rfl,rfl,h⟩
  ·refine a7 a2X (a7 a6i (g5 (l1 Tryz.isAgg3 (b.bring 1) rfl) ?_))
   have hj1:∀(b4G:Bool) H w (_:Inv w0 ps0 H0 H [bx c 260 [(vi (M0.mk (x0.s8.o0.n:Int) (x0.s8.t7.n:Int)).fexprs),(vi (M0.mk (x0.s8.o0.n:Int) (x0.s8.t7.n:Int)).fparts)],bx e 146 (f7 x0.s8)] w) (_:S8 x0.s8.d8 b4G (M0.mk (x0.s8.o0.n:Int) (x0.s8.t7.n:Int)) x0 H K),b7h (Value.pointer (some ⟨c,0,none⟩)) (vi x0.s8.d8) (vB b4G) w R E:=by
    intro b4G H w I h
    unfold b7h
    intro _
    unfold S8 at h
    refine m0 h (fun _ h=>?_) (fun _ h=>?_)
    ·refine g5 (ldA Tryz.isAgg260 Tryz.sizeOf260 rfl (I.at1 (o:=0) (vs:=[(vi (M0.mk (x0.s8.o0.n:Int) (x0.s8.t7.n:Int)).fexprs),(vi (M0.mk (x0.s8.o0.n:Int) (x0.s8.t7.n:Int)).fparts)]) (nb rfl) rfl)) (a7 (c2C) (a7 (b1O _ _ _ _ _ _) ?_))
     exact hR _ H _ _ I.drop.drop ⟨(decide ((M0.mk (x0.s8.o0.n:Int) (x0.s8.t7.n:Int)).fexprs=0∧(M0.mk (x0.s8.o0.n:Int) (x0.s8.t7.n:Int)).fparts=0)),rfl,rfl,h⟩
    ·refine a7 pEq ?_
     refine l7 h (fun _ h=>?_) (fun _ h=>?_)
     ·refine g5 (ldA Tryz.isAgg260 Tryz.sizeOf260 rfl (I.at1 (o:=0) (vs:=[(vi (M0.mk (x0.s8.o0.n:Int) (x0.s8.t7.n:Int)).fexprs),(vi (M0.mk (x0.s8.o0.n:Int) (x0.s8.t7.n:Int)).fparts)]) (nb rfl) rfl)) (a7 (a7G _ _) (a7 (b1O _ _ _ _ _ _) ?_))
      exact hR _ H _ _ I.drop.drop ⟨(decide ((M0.mk (x0.s8.o0.n:Int) (x0.s8.t7.n:Int)).fexprs=0∧(M0.mk (x0.s8.o0.n:Int) (x0.s8.t7.n:Int)).fparts=1)),rfl,rfl,h⟩
     ·have hj2:∀(b4F:Bool) H w (_:Inv w0 ps0 H0 H [bx c 260 [(vi (M0.mk (x0.s8.o0.n:Int) (x0.s8.t7.n:Int)).fexprs),(vi (M0.mk (x0.s8.o0.n:Int) (x0.s8.t7.n:Int)).fparts)],bx e 146 (f7 x0.s8)] w) (_:S7 b4F (M0.mk (x0.s8.o0.n:Int) (x0.s8.t7.n:Int)) x0 H K),b7g (Value.pointer (some ⟨c,0,none⟩)) (vB b4F) w R E:=by
       intro b4F H w I h
       unfold b7g
       intro _
       unfold S7 at h
       refine m0 h (fun _ h=>?_) (fun _ h=>?_)
       ·refine g5 (ldA Tryz.isAgg260 Tryz.sizeOf260 rfl (I.at1 (o:=0) (vs:=[(vi (M0.mk (x0.s8.o0.n:Int) (x0.s8.t7.n:Int)).fexprs),(vi (M0.mk (x0.s8.o0.n:Int) (x0.s8.t7.n:Int)).fparts)]) (nb rfl) rfl)) (a7 (a7G _ _) (a7 (b1O _ _ _ _ _ _) ?_))
        exact hR _ H _ _ I.drop.drop ⟨(decide ((M0.mk (x0.s8.o0.n:Int) (x0.s8.t7.n:Int)).fexprs=0∧(M0.mk (x0.s8.o0.n:Int) (x0.s8.t7.n:Int)).fparts=2)),rfl,rfl,h⟩
       ·exact hR _ H _ _ I.drop.drop ⟨false,rfl,rfl,h⟩
      refine r9 fun j2 hx2=>?_
      refine a7 pEq ?_
      refine l7 h (fun _ h=>?_) (fun _ h=>?_)
      ·exact hx2 _ _ (hj2 (decide (x0.s8.d8=5)) H _ ((I.bring 1).bring 1) h)
      ·refine a7 pEq ?_
       exact hx2 _ _ (hj2 (decide (x0.s8.d8=6)) H _ ((I.bring 1).bring 1) h)
   refine r9 fun j1 hx1=>?_
   refine a7 pEq ?_
   refine l7 h (fun _ h=>?_) (fun _ h=>?_)
   ·exact hx1 _ _ (hj1 (decide (x0.s8.d8=1)) H _ ((b.bring 1).bring 1) h)
   ·refine a7 pEq ?_
    exact hx1 _ _ (hj1 (decide (x0.s8.d8=2)) H _ ((b.bring 1).bring 1) h)
def a4D (x0:Q5) (H:Hp) (K:Sl→Hp→Prop):Prop:=
 C0 x0.s8.o0 H (fun d e=>
 F7 x0.s8.t7 e (fun f g=>
 ∀(a:Sl) (b:Hp),Hle g b→SlH b 1 csl a [d,f]→a.n≤a.c→
 E5 a b (fun i j=>
 K i j)))
theorem b1t (x0) {H K} (h:a4D x0 H K):a7j x0 H K:=by
 refine Ct.of fun w0 w ps0 H0 R E I hR=>c8y ?_
 unfold a4D at h
 unfold d2e
 refine P2 I (cs:=(f7 x0.s8)) rfl fun v y b z=>?_
 refine P3 b fun aa a=>?_
 refine o7 a2X ?_
 refine o7 a0O ?_
 refine o7 a2X ?_
 refine o7 a0N ?_
 refine t8 (l1 Tryz.isAgg38 a rfl) ?_
 refine t8 (l1 Tryz.isAgg47 a rfl) ?_
 refine g6 Tryz.call207 h a ?_
 rintro _ _ _ ab d _ f ⟨g,rfl,rfl,h⟩
 refine ⟨(f _ a.lt1 (Inv.a1B (Fi:=[]) a)),?_⟩
 refine g6 Tryz.call211 h d ?_
 rintro _ _ _ ac i _ _ ⟨j,rfl,rfl,h⟩
 refine V9 (e:=128) (c:=csl) (xs:=[g,j]) i (b8V _ _ _ _ _ _) rfl rfl b8y b8z (nb rfl) fun k ad ae l m af=>?_
 obtain ⟨n,o,p,q,r⟩:=Inv.freezeC m l (by decide)
 replace h:=h k n p q r
 refine g6 Tryz.call75 h o ?_
 rintro _ s _ ag t _ _ ⟨u,rfl,rfl,h⟩
 exact hR _ s _ _ t.drop ⟨u,rfl,rfl,h⟩
end Go.Proofs.YthklmeihgmcljaaGreatDoor
