/- Typed formulas of the program's functions, and the theorems that the contracts follow from them; printed by lift.py off the code. -/
import Derived.Test.YthklmeihgmcljaaGreatDoorzQV1
namespace Go.Proofs.YthklmeihgmcljaaGreatDoor
open Go.RowKit
set_option maxRecDepth 100000
set_option maxHeartbeats 2000000
def W3 (H:Hp) (K:Int→Hp→Prop):Prop:=
 K 6 H
def C9 (O8:Int) (a3z:ByteArray) (L9:Int) (H:Hp) (n2:Int→Hp→Prop) (K:Int→Hp→Prop):Prop:=
 (L9 < (a3z.size:Int)→
 (0:Int)≤L9∧L9 < (a3z.size:Int)∧
 (O8=(IntKind.wrap .i64 ((a3z.get! (L9:Int).toNat).toNat:Int))→
 K 5 H)∧
 (¬(O8=(IntKind.wrap .i64 ((a3z.get! (L9:Int).toNat).toNat:Int)))→
 n2 (IntKind.wrap .i64 (L9+1)) H))∧
 (¬(L9 < (a3z.size:Int))→
 W3 H K)
def a1H (x0:Int) (H:Hp) (K:Int→Hp→Prop):Prop:=
 ((((decide (x0=32))||(decide (x0=9)))||(decide (x0=13)))=true→
 K 1 H)∧
 ((((decide (x0=32))||(decide (x0=9)))||(decide (x0=13)))=false→
 (x0=10→
 K 2 H)∧
 (¬(x0=10)→
 y3 x0 48 57 H (fun e f=>
 (e=true→
 K 4 f)∧
 (e=false→
 y3 x0 97 122 f (fun a g=>
 TG (a=false) (y3 x0 65 90 g) false g (fun (b:Bool) (i:Hp)=>
 TG (((a||b)||(decide (x0=95)))=false) (y3 x0 192 591 i) false i (fun (c:Bool) (j:Hp)=>
 TG ((((a||b)||(decide (x0=95)))||((c&&(!decide (x0=215)))&&(!decide (x0=247))))=false) (y3 x0 913 969 j) false j (fun (d:Bool) (k:Hp)=>
 TG (((((a||b)||(decide (x0=95)))||((c&&(!decide (x0=215)))&&(!decide (x0=247))))||(d&&(!decide (x0=930))))=false) (y3 x0 1040 1103 k) false k (fun (l:Bool) (m:Hp)=>
 ((((((a||b)||(decide (x0=95)))||((c&&(!decide (x0=215)))&&(!decide (x0=247))))||(d&&(!decide (x0=930))))||l)=true→
 K 3 m)∧
 ((((((a||b)||(decide (x0=95)))||((c&&(!decide (x0=215)))&&(!decide (x0=247))))||(d&&(!decide (x0=930))))||l)=false→
 TL (0:Int) m fun (s:Int) H n2=>C9 x0 ⟨#[59,44,123,125,40,41,91,93,61,33,60,62,43,45,42,47,37,38,124]⟩ s H n2 K))))))))))
theorem a6U (x0) {H K} (h:a1H x0 H K):a0e x0 H K:=by
 refine Ct.of fun w0 w ps0 H0 R E I hR=>c8d ?_
 unfold a1H at h
 unfold d1J
 refine a7 pEq ?_
 simp only [q9]
 refine a7 (Pu.g fun c=>by simp only [k7 c];with_reducible exact pEq) ?_
 refine a7 (B5 _ _) ?_
 simp only [q9]
 refine a7 (Pu.g fun c=>by simp only [k7 c];with_reducible exact pEq) ?_
 refine a7 (B5 _ _) ?_
 refine m0 h (fun _ h=>?_) (fun _ h=>?_)
 ·exact hR _ H _ _ I ⟨1,rfl,rfl,h⟩
 ·refine a7 pEq ?_
  refine l7 h (fun _ h=>?_) (fun _ h=>?_)
  ·exact hR _ H _ _ I ⟨2,rfl,rfl,h⟩
  ·refine g6 Tryz.call159 h I ?_
   rintro _ bd _ bj ak _ _ ⟨bk,rfl,rfl,h⟩
   refine m0 h (fun _ h=>?_) (fun _ h=>?_)
   ·exact hR _ bd _ _ ak ⟨4,rfl,rfl,h⟩
   ·refine g6 Tryz.call159 h ak ?_
    rintro _ al _ am an _ _ ⟨k,rfl,rfl,h⟩
    simp only [q9]
    refine G6 (D:=fun ao aa=>∃(f:Bool) (t:Hp),ao=(gv k false (vB f))∧(Inv w0 ps0 H0 t [] aa)∧(∀i,i < am.heap.size→¬inF [] i→aa.heap[i]? = am.heap[i]?)∧Hle al t∧(TG (((k||f)||(decide (x0=95)))=false) (y3 x0 192 591 t) false t (fun (j:Bool) (r:Hp)=>
 TG ((((k||f)||(decide (x0=95)))||((j&&(!decide (x0=215)))&&(!decide (x0=247))))=false) (y3 x0 913 969 r) false r (fun (m:Bool) (p:Hp)=>
 TG (((((k||f)||(decide (x0=95)))||((j&&(!decide (x0=215)))&&(!decide (x0=247))))||(m&&(!decide (x0=930))))=false) (y3 x0 1040 1103 p) false p (fun (q:Bool) (o:Hp)=>
 ((((((k||f)||(decide (x0=95)))||((j&&(!decide (x0=215)))&&(!decide (x0=247))))||(m&&(!decide (x0=930))))||q)=true→
 K 3 o)∧
 ((((((k||f)||(decide (x0=95)))||((j&&(!decide (x0=215)))&&(!decide (x0=247))))||(m&&(!decide (x0=930))))||q)=false→
 TL (0:Int) o fun (s:Int) H n2=>C9 x0 ⟨#[59,44,123,125,40,41,91,93,61,33,60,62,43,45,42,47,37,38,124]⟩ s H n2 K)))))) (fun u=>?_) (fun u=>?_) ?_
    ·replace h:=h.1 u
     have c:=u
     simp only [k7 c]
     refine g6 Tryz.call159 h an ?_
     rintro _ t _ aa ae ap aq ⟨f,rfl,rfl,h⟩
     exact ⟨f,t,by rfl,ae,aq,ap,h⟩
    ·exact ⟨false,al,by rw [R9 u],an,fun _ _ _=>rfl,Hle.refl _,h.2 u⟩
    ·clear h
     rintro ao aa ⟨f,t,rfl,ae,aq,ap,h⟩
     refine a7 (B5 _ _) ?_
     simp only [q9]
     refine a7 (Pu.g fun c=>by simp only [k7 c];with_reducible exact pEq) ?_
     refine a7 (B5 _ _) ?_
     simp only [q9]
     refine G6 (D:=fun ar ab=>∃(j:Bool) (r:Hp),ar=(gv ((k||f)||(decide (x0=95))) false (vB j))∧(Inv w0 ps0 H0 r [] ab)∧(∀i,i < aa.heap.size→¬inF [] i→ab.heap[i]? = aa.heap[i]?)∧Hle t r∧(TG ((((k||f)||(decide (x0=95)))||((j&&(!decide (x0=215)))&&(!decide (x0=247))))=false) (y3 x0 913 969 r) false r (fun (m:Bool) (p:Hp)=>
 TG (((((k||f)||(decide (x0=95)))||((j&&(!decide (x0=215)))&&(!decide (x0=247))))||(m&&(!decide (x0=930))))=false) (y3 x0 1040 1103 p) false p (fun (q:Bool) (o:Hp)=>
 ((((((k||f)||(decide (x0=95)))||((j&&(!decide (x0=215)))&&(!decide (x0=247))))||(m&&(!decide (x0=930))))||q)=true→
 K 3 o)∧
 ((((((k||f)||(decide (x0=95)))||((j&&(!decide (x0=215)))&&(!decide (x0=247))))||(m&&(!decide (x0=930))))||q)=false→
 TL (0:Int) o fun (s:Int) H n2=>C9 x0 ⟨#[59,44,123,125,40,41,91,93,61,33,60,62,43,45,42,47,37,38,124]⟩ s H n2 K))))) (fun v=>?_) (fun v=>?_) ?_
     ·replace h:=h.1 v
      have c:=v
      simp only [k7 c]
      refine g6 Tryz.call159 h ae ?_
      rintro _ r _ ab af au av ⟨j,rfl,rfl,h⟩
      exact ⟨j,r,by rfl,af,av,au,h⟩
     ·exact ⟨false,t,by rw [R9 v],ae,fun _ _ _=>rfl,Hle.refl _,h.2 v⟩
     ·clear h
      rintro ar ab ⟨j,r,rfl,af,av,au,h⟩
      simp only [a2U,a9Y]
      refine a7 (Pu.e (Q7 _ _ _) (Pu.g fun hb=>by obtain ⟨c,d⟩:=X1 hb;simp only [k7 hb];with_reducible exact pNe)) ?_
      refine a7 (Pu.g fun c=>by simp only [k7 c,a7b c];with_reducible exact (u4 _ _)) ?_
      simp only [a2U,a9Y]
      refine a7 (Pu.e (Q7 _ _ _) (Pu.g fun hb=>by obtain ⟨c,d⟩:=X1 hb;simp only [k7 hb];with_reducible exact pNe)) ?_
      refine a7 (Pu.g fun c=>by simp only [k7 c,a7b c];with_reducible exact (u4 _ _)) ?_
      refine a7 (B5 _ _) ?_
      simp only [q9]
      refine G6 (D:=fun aw ac=>∃(m:Bool) (p:Hp),aw=(gv (((k||f)||(decide (x0=95)))||((j&&(!decide (x0=215)))&&(!decide (x0=247)))) false (vB m))∧(Inv w0 ps0 H0 p [] ac)∧(∀i,i < ab.heap.size→¬inF [] i→ac.heap[i]? = ab.heap[i]?)∧Hle r p∧(TG (((((k||f)||(decide (x0=95)))||((j&&(!decide (x0=215)))&&(!decide (x0=247))))||(m&&(!decide (x0=930))))=false) (y3 x0 1040 1103 p) false p (fun (q:Bool) (o:Hp)=>
 ((((((k||f)||(decide (x0=95)))||((j&&(!decide (x0=215)))&&(!decide (x0=247))))||(m&&(!decide (x0=930))))||q)=true→
 K 3 o)∧
 ((((((k||f)||(decide (x0=95)))||((j&&(!decide (x0=215)))&&(!decide (x0=247))))||(m&&(!decide (x0=930))))||q)=false→
 TL (0:Int) o fun (s:Int) H n2=>C9 x0 ⟨#[59,44,123,125,40,41,91,93,61,33,60,62,43,45,42,47,37,38,124]⟩ s H n2 K)))) (fun y=>?_) (fun y=>?_) ?_
      ·replace h:=h.1 y
       have c:=y
       simp only [k7 c]
       refine g6 Tryz.call159 h af ?_
       rintro _ p _ ac ag ax ay ⟨m,rfl,rfl,h⟩
       exact ⟨m,p,by rfl,ag,ay,ax,h⟩
      ·exact ⟨false,r,by rw [R9 y],af,fun _ _ _=>rfl,Hle.refl _,h.2 y⟩
      ·clear h
       rintro aw ac ⟨m,p,rfl,ag,ay,ax,h⟩
       simp only [a2U,a9Y]
       refine a7 (Pu.e (Q7 _ _ _) (Pu.g fun hb=>by obtain ⟨c,d⟩:=X1 hb;simp only [k7 hb];with_reducible exact pNe)) ?_
       refine a7 (Pu.g fun c=>by simp only [k7 c,a7b c];with_reducible exact (u4 _ _)) ?_
       refine a7 (B5 _ _) ?_
       simp only [q9]
       refine G6 (D:=fun az ah=>∃(q:Bool) (o:Hp),az=(gv ((((k||f)||(decide (x0=95)))||((j&&(!decide (x0=215)))&&(!decide (x0=247))))||(m&&(!decide (x0=930)))) false (vB q))∧(Inv w0 ps0 H0 o [] ah)∧(∀i,i < ac.heap.size→¬inF [] i→ah.heap[i]? = ac.heap[i]?)∧Hle p o∧(((((((k||f)||(decide (x0=95)))||((j&&(!decide (x0=215)))&&(!decide (x0=247))))||(m&&(!decide (x0=930))))||q)=true→
 K 3 o)∧
 ((((((k||f)||(decide (x0=95)))||((j&&(!decide (x0=215)))&&(!decide (x0=247))))||(m&&(!decide (x0=930))))||q)=false→
 TL (0:Int) o fun (s:Int) H n2=>C9 x0 ⟨#[59,44,123,125,40,41,91,93,61,33,60,62,43,45,42,47,37,38,124]⟩ s H n2 K))) (fun z=>?_) (fun z=>?_) ?_
       ·replace h:=h.1 z
        have c:=z
        simp only [k7 c]
        refine g6 Tryz.call159 h ag ?_
        rintro _ o _ ah ai ba bb ⟨q,rfl,rfl,h⟩
        exact ⟨q,o,by rfl,ai,bb,ba,h⟩
       ·exact ⟨false,p,by rw [R9 z],ag,fun _ _ _=>rfl,Hle.refl _,h.2 z⟩
       ·clear h
        rintro az ah ⟨q,o,rfl,ai,bb,ba,h⟩
        refine a7 (B5 _ _) ?_
        refine m0 h (fun _ h=>?_) (fun _ h=>?_)
        ·exact hR _ o _ _ ai ⟨3,rfl,rfl,h⟩
        ·have hj1:∀H w (_:Inv w0 ps0 H0 H [] w) (_:W3 H K),b6W w R E:=by
          intro H w I h
          unfold b6W
          intro _
          unfold W3 at h
          exact hR _ H _ _ I ⟨6,rfl,rfl,h⟩
         refine r9 fun j1 hx1=>?_
         obtain ⟨aj,ad,be,bf⟩:=h
         refine B0 (J:=fun n l w=>∃(s:Int) (H:Hp),n=ad s∧l=[(vi s)]∧Inv w0 ps0 H0 H [] w∧aj s H) ⟨_,0,o,rfl,rfl,ai,be⟩ ?_
         rintro bl bm w next2 ⟨L9,H,rfl,bc,I,bg⟩ hn2
         simp only [List.map_cons,List.map_nil,List.cons.injEq,and_true] at bc
         have e4:=bc
         simp only [e4]
         obtain ⟨n2,hm2,h⟩:∃n2:Int→Hp→Prop,(∀s' H',n2 s' H'→aj s' H'∧ad s' < ad L9)∧C9 x0 ⟨#[59,44,123,125,40,41,91,93,61,33,60,62,43,45,42,47,37,38,124]⟩ L9 H n2 K:=⟨_,fun _ _ h=>h,bf L9 H (fun s' H'=>aj s' H'∧ad s' < ad L9) bg (fun _ _ a b=>⟨a,b⟩)⟩
         unfold c1z
         unfold C9 at h
         refine a7 (X3 _) (a7 pLs ?_)
         refine l7 h (fun _ h=>?_) (fun _ h=>?_)
         ·obtain ⟨bh,bi,h⟩:=h
          refine a7 (a3r _ _ _ bh bi) (a7 (b3O _ _) (a7 pEq ?_))
          refine l7 h (fun _ h=>?_) (fun _ h=>?_)
          ·exact hR _ H _ _ I ⟨5,rfl,rfl,h⟩
          ·refine a7 pAd ?_
           exact hn2 _ _ _ (hm2 _ _ h).2 ⟨(IntKind.wrap .i64 (L9+1)),H,rfl,rfl,I,(hm2 _ _ h).1⟩
         ·exact hx1 _ _ (hj1 H _ I h)
def Y0 (a:c8) (a8l:Int) (U0:i8) (H:Hp) (n4:(Int×i8)→Hp→Prop) (K:i8→Hp→Prop):Prop:=
 (((decide (a8l < (a.t7.n:Int)))&&U0.fok)=true→
 (0:Int)≤a8l∧(a8l:Int) < a.t7.n∧∃b:c8,EltH H a.t7 a8l 4 (f7 b)∧
 a0s U0 b H (fun c d=>
 n4 ((IntKind.wrap .i64 (a8l+1)),c) d))∧
 (((decide (a8l < (a.t7.n:Int)))&&U0.fok)=false→
 K U0 H)
def Y1 (a2u:i8) (a:c8) (H:Hp) (K:i8→Hp→Prop):Prop:=
 TL ((0,a2u):Int×i8) H fun (s:Int×i8) H n4=>Y0 a s.1 s.2 H n4 K
def Y2 (a:c8) (a8m:Int) (a7K:i8) (H:Hp) (n5:(Int×i8)→Hp→Prop) (K:i8→Hp→Prop):Prop:=
 (((decide (a8m < (a.o0.n:Int)))&&a7K.fok)=true→
 (0:Int)≤a8m∧(a8m:Int) < a.o0.n∧∃b:d6,EltH H a.o0 a8m 4 (d7 b)∧
 U4 a7K b H (fun c d=>
 n5 ((IntKind.wrap .i64 (a8m+1)),c) d))∧
 (((decide (a8m < (a.o0.n:Int)))&&a7K.fok)=false→
 Y1 a7K a H K)
def M5 (b2Q:Int) (d5z:Int) (b3R:Bool) (a:c8) (a5u:i8) (H:Hp) (K:i8→Hp→Prop):Prop:=
 TL ((0,(i8.mk (((a5u.fok&&b3R)&&(decide ((a.o0.n:Int)=b2Q)))&&(decide ((a.t7.n:Int)=d5z))) a5u.fnames)):Int×i8) H fun (s:Int×i8) H n5=>Y2 a s.1 s.2 H n5 K
def C5 (v8:Int) (a0b:Int) (a:c8) (o9:i8) (H:Hp) (K:i8→Hp→Prop):Prop:=
 (a.d8=3→
 M5 v8 a0b ((decide (1≤a.fOp))&&(decide (a.fOp≤6))) a o9 H K)∧
 (¬(a.d8=3)→
 M5 v8 a0b (decide (a.fOp=0)) a o9 H K)
def M6 (d2o:Int) (d5A:Int) (b4A:Bool) (a:c8) (c6N:i8) (H:Hp) (K:i8→Hp→Prop):Prop:=
 (b4A=true→
 C5 d2o 2 a c6N H K)∧
 (b4A=false→
 C5 d2o d5A a (i8.mk false c6N.fnames) H K)
def M7 (c2H:Int) (c2I:Int) (b1S:Int) (b4B:Bool) (a:c8) (b5V:i8) (H:Hp) (K:i8→Hp→Prop):Prop:=
 (b4B=true→
 C5 c2H c2I a b5V H K)∧
 (b4B=false→
 (b1S=3→
 C5 2 c2I a b5V H K)∧
 (¬(b1S=3)→
 (b1S=4→
 C5 c2H 1 a b5V H K)∧
 (¬(b1S=4)→
 (b1S=5→
 M6 c2H c2I (decide (b1S=5)) a b5V H K)∧
 (¬(b1S=5)→
 M6 c2H c2I (decide (b1S=6)) a b5V H K))))
def a2q (x0:i8) (x1:c8) (H:Hp) (K:i8→Hp→Prop):Prop:=
 (x1.d8=1→
 M7 0 0 x1.d8 (decide (x1.d8=1)) x1 x0 H K)∧
 (¬(x1.d8=1)→
 M7 0 0 x1.d8 (decide (x1.d8=2)) x1 x0 H K)
theorem a9i (x0 x1) {H K} (h:a2q x0 x1 H K):a0s x0 x1 H K:=by
 intro g0
 refine Ct.of fun w0 w ps0 H0 R E I hR=>d0V ?_
 unfold a2q at h
 unfold F92
 refine P2 I (cs:=(f7 x1)) rfl fun d aq i ar=>?_
 have hj1:∀(v8:Int) (a0b:Int) (o9:i8) H w (_:Inv w0 ps0 H0 H [bx d 49 (f7 x1),bx g0 123 (z6 o9)] w) (_:C5 v8 a0b x1 o9 H K),b9P (Value.pointer (some ⟨g0,0,none⟩)) (Value.pointer (some ⟨d,0,none⟩)) (vi v8) (vi a0b) w R E:=by
  intro v8 a0b o9 H w I h
  unfold b9P
  intro _
  unfold C5 at h
  refine a7 a5r (g5 (l1 Tryz.isAgg3 I rfl) (a7 pEq ?_))
  have hj2:∀(b3R:Bool) H w (_:Inv w0 ps0 H0 H [bx d 49 (f7 x1),bx g0 123 (z6 o9)] w) (_:M5 v8 a0b b3R x1 o9 H K),b9O (Value.pointer (some ⟨g0,0,none⟩)) (Value.pointer (some ⟨d,0,none⟩)) (vi v8) (vi a0b) (vB b3R) w R E:=by
   intro b3R H w I h
   unfold b9O
   intro _
   unfold M5 at h
   refine a7 (o5 _) (a7 a0J (g5 (l1 Tryz.isAgg4 (I.bring 1) rfl) ?_))
   simp only [q9]
   refine a7 (u4 _ _) ?_
   refine a7 (Pu.g fun c=>by with_reducible exact a0O) ?_
   refine g5 (Ld.g fun c=>by simp only [k7 c];exact (l1 Tryz.isAgg38 I rfl)) ?_
   refine a7 (Pu.g fun c=>by simp only [k7 c];with_reducible exact (T0 _ _ _)) ?_
   simp only [q9]
   refine a7 (Pu.g fun c=>by simp only [k7 c];with_reducible exact pEq) ?_
   refine a7 (u4 _ _) ?_
   refine a7 (Pu.g fun c=>by with_reducible exact a0N) ?_
   refine g5 (Ld.g fun c=>by simp only [k7 c];exact (l1 Tryz.isAgg47 I rfl)) ?_
   refine a7 (Pu.g fun c=>by simp only [k7 c];with_reducible exact (a4c _ _ _)) ?_
   simp only [q9]
   refine a7 (Pu.g fun c=>by simp only [k7 c];with_reducible exact pEq) ?_
   refine a7 (u4 _ _) (a7 (o5 _) (a7 a0J ?_))
   refine f8 (I.bring 1) Tryz.sizeOf4 (vs:=[(vB (((o9.fok&&b3R)&&(decide ((x1.o0.n:Int)=v8)))&&(decide ((x1.t7.n:Int)=a0b))))]) (cs':=[(vB (((o9.fok&&b3R)&&(decide ((x1.o0.n:Int)=v8)))&&(decide ((x1.t7.n:Int)=a0b)))),(vB o9.fnames)]) rfl rfl (nb rfl) rfl rfl fun au r av=>?_
   have hj3:∀(a2u:i8) H w (_:Inv w0 ps0 H0 H [bx g0 123 (z6 a2u),bx d 49 (f7 x1)] w) (_:Y1 a2u x1 H K),b9N (Value.pointer (some ⟨g0,0,none⟩)) (Value.pointer (some ⟨d,0,none⟩)) w R E:=by
    intro a2u H w I h
    unfold b9N
    intro _
    unfold Y1 at h
    obtain ⟨j,e,t,u⟩:=h
    refine B0 (J:=fun n l w=>∃(s:Int×i8) (H:Hp),n=e s∧l=(match s with | (a8l,U0)=>[(vi a8l)])∧(match s with | (a8l,U0)=>Inv w0 ps0 H0 H [bx g0 123 (z6 U0),bx d 49 (f7 x1)] w)∧j s H) ⟨_,(0,a2u),H,rfl,rfl,((I.bring 1).bring 1),t⟩ ?_
    rintro aw ax w next4 ⟨⟨a8l,U0⟩,H,rfl,k,I,v⟩ hn4
    dsimp only at k I
    simp only [List.map_cons,List.map_nil,List.cons.injEq,and_true] at k
    have e8:=k
    simp only [e8]
    obtain ⟨n4,hm4,h⟩:∃n4:(Int×i8)→Hp→Prop,(∀s' H',n4 s' H'→j s' H'∧e s' < e (a8l,U0))∧Y0 x1 a8l U0 H n4 K:=⟨_,fun _ _ h=>h,u (a8l,U0) H (fun s' H'=>j s' H'∧e s' < e (a8l,U0)) v (fun _ _ a b=>⟨a,b⟩)⟩
    unfold c4g
    unfold Y0 at h
    refine a7 a0N (g5 (l1 Tryz.isAgg47 (I.bring 1) rfl) (a7 (a4c _ _ _) (a7 pLs ?_)))
    simp only [q9]
    refine a7 (Pu.g fun c=>by simp only [k7 c];with_reducible exact (o5 _)) ?_
    refine a7 (Pu.g fun c=>by simp only [k7 c];with_reducible exact a0J) ?_
    refine g5 (Ld.g fun c=>by simp only [k7 c];exact (l1 Tryz.isAgg4 I rfl)) ?_
    refine a7 (u4 _ _) ?_
    refine m0 h (fun _ h=>?_) (fun _ h=>?_)
    ·refine a7 a0N (g5 (l1 Tryz.isAgg47 (I.bring 1) rfl) ?_)
     obtain ⟨y,z,aa,m,h⟩:=h
     obtain ⟨ay,az,ab,m⟩:=m
     refine a7 (b1f ab _ _ _ _ y z) (g5 (ldA (vs:=(f7 aa)) Tryz.isAgg49 Tryz.sizeOf49 rfl (I.atH m)) ?_)
     refine g6 Tryz.call92 (h g0) I ?_
     rintro _ ac _ ba ad _ _ ⟨ae,rfl,rfl,h⟩
     refine a7 pAd ?_
     exact hn4 _ _ _ (hm4 _ _ h).2 ⟨((IntKind.wrap .i64 (a8l+1)),ae),ac,rfl,rfl,((ad.bring 1).bring 1),(hm4 _ _ h).1⟩
    ·exact hR _ H _ _ (I.bring 1).drop ⟨U0,rfl,rfl,h⟩
   refine r9 fun j3 hx3=>?_
   obtain ⟨o,f,af,ag⟩:=h
   refine B0 (J:=fun n l w=>∃(s:Int×i8) (H:Hp),n=f s∧l=(match s with | (a8m,a7K)=>[(vi a8m)])∧(match s with | (a8m,a7K)=>Inv w0 ps0 H0 H [bx g0 123 (z6 a7K),bx d 49 (f7 x1)] w)∧o s H) ⟨_,(0,(i8.mk (((o9.fok&&b3R)&&(decide ((x1.o0.n:Int)=v8)))&&(decide ((x1.t7.n:Int)=a0b))) o9.fnames)),H,rfl,rfl,((r.bring 1).bring 1),af⟩ ?_
   rintro bb bc w next5 ⟨⟨a8m,a7K⟩,H,rfl,p,I,ah⟩ hn5
   dsimp only at p I
   simp only [List.map_cons,List.map_nil,List.cons.injEq,and_true] at p
   have e7:=p
   simp only [e7]
   obtain ⟨n5,hm5,h⟩:∃n5:(Int×i8)→Hp→Prop,(∀s' H',n5 s' H'→o s' H'∧f s' < f (a8m,a7K))∧Y2 x1 a8m a7K H n5 K:=⟨_,fun _ _ h=>h,ag (a8m,a7K) H (fun s' H'=>o s' H'∧f s' < f (a8m,a7K)) ah (fun _ _ a b=>⟨a,b⟩)⟩
   unfold c4h
   unfold Y2 at h
   refine a7 a0O (g5 (l1 Tryz.isAgg38 (I.bring 1) rfl) (a7 (T0 _ _ _) (a7 pLs ?_)))
   simp only [q9]
   refine a7 (Pu.g fun c=>by simp only [k7 c];with_reducible exact (o5 _)) ?_
   refine a7 (Pu.g fun c=>by simp only [k7 c];with_reducible exact a0J) ?_
   refine g5 (Ld.g fun c=>by simp only [k7 c];exact (l1 Tryz.isAgg4 I rfl)) ?_
   refine a7 (u4 _ _) ?_
   refine m0 h (fun _ h=>?_) (fun _ h=>?_)
   ·refine a7 a0O (g5 (l1 Tryz.isAgg38 (I.bring 1) rfl) ?_)
    obtain ⟨ai,aj,ak,q,h⟩:=h
    obtain ⟨bd,be,al,q⟩:=q
    refine a7 (a5F al _ _ _ _ ai aj) (g5 (ldA (vs:=(d7 ak)) Tryz.isAgg40 Tryz.sizeOf40 rfl (I.atH q)) ?_)
    refine g6 Tryz.call85 (h g0) I ?_
    rintro _ am _ bf an _ _ ⟨ao,rfl,rfl,h⟩
    refine a7 pAd ?_
    exact hn5 _ _ _ (hm5 _ _ h).2 ⟨((IntKind.wrap .i64 (a8m+1)),ao),am,rfl,rfl,((an.bring 1).bring 1),(hm5 _ _ h).1⟩
   ·exact hx3 _ _ (hj3 a7K H _ ((I.bring 1).bring 1) h)
  refine r9 fun j2 hx2=>?_
  refine a7 a6i (g5 (l1 Tryz.isAgg3 I rfl) (a7 pEq ?_))
  refine l7 h (fun _ h=>?_) (fun _ h=>?_)
  ·refine a7 a5r (g5 (l1 Tryz.isAgg3 I rfl) (a7 pGe ?_))
   refine a7 (Pu.g fun c=>by with_reducible exact a5r) ?_
   refine g5 (Ld.g fun c=>by simp only [k7 c];exact (l1 Tryz.isAgg3 I rfl)) ?_
   refine a7 (Pu.g fun c=>by simp only [k7 c];with_reducible exact pLe) ?_
   refine a7 (u4 _ _) ?_
   exact hx2 _ _ (hj2 ((decide (1≤x1.fOp))&&(decide (x1.fOp≤6))) H _ ((I.bring 1).bring 1) h)
  ·exact hx2 _ _ (hj2 (decide (x1.fOp=0)) H _ ((I.bring 1).bring 1) h)
 refine r9 fun j1 hx1=>?_
 refine a7 a6i (g5 (l1 Tryz.isAgg3 i rfl) ?_)
 have hj6:∀(b4B:Bool) H w (_:Inv w0 ps0 H0 H [bx d 49 (f7 x1),bx g0 123 (z6 x0)] w) (_:M7 0 0 x1.d8 b4B x1 x0 H K),b9R (Value.pointer (some ⟨g0,0,none⟩)) (Value.pointer (some ⟨d,0,none⟩)) (vi 0) (vi 0) (vi x1.d8) (vB b4B) w j1 R E:=by
  intro b4B H w I h
  unfold b9R
  intro _
  unfold M7 at h
  refine m0 h (fun _ h=>?_) (fun _ h=>?_)
  ·exact hx1 _ _ (hj1 0 0 x0 H _ ((I.bring 1).bring 1) h)
  ·refine a7 pEq ?_
   refine l7 h (fun _ h=>?_) (fun _ h=>?_)
   ·exact hx1 _ _ (hj1 2 0 x0 H _ ((I.bring 1).bring 1) h)
   ·refine a7 pEq ?_
    refine l7 h (fun _ h=>?_) (fun _ h=>?_)
    ·exact hx1 _ _ (hj1 0 1 x0 H _ ((I.bring 1).bring 1) h)
    ·have hj7:∀(b4A:Bool) H w (_:Inv w0 ps0 H0 H [bx d 49 (f7 x1),bx g0 123 (z6 x0)] w) (_:M6 0 0 b4A x1 x0 H K),b9Q (Value.pointer (some ⟨g0,0,none⟩)) (Value.pointer (some ⟨d,0,none⟩)) (vi 0) (vi 0) (vB b4A) w j1 R E:=by
      intro b4A H w I h
      unfold b9Q
      intro _
      unfold M6 at h
      refine m0 h (fun _ h=>?_) (fun _ h=>?_)
      ·exact hx1 _ _ (hj1 0 2 x0 H _ ((I.bring 1).bring 1) h)
      ·refine a7 (o5 _) (a7 a0J ?_)
       refine f8 (I.bring 1) Tryz.sizeOf4 (vs:=[(vB false)]) (cs':=[(vB false),(vB x0.fnames)]) rfl rfl (nb rfl) rfl rfl fun bg ap bh=>?_
       exact hx1 _ _ (hj1 0 0 (i8.mk false x0.fnames) H _ (ap.bring 1) h)
     refine r9 fun j7 hx7=>?_
     refine a7 pEq ?_
     refine l7 h (fun _ h=>?_) (fun _ h=>?_)
     ·exact hx7 _ _ (hj7 (decide (x1.d8=5)) H _ ((I.bring 1).bring 1) h)
     ·refine a7 pEq ?_
      exact hx7 _ _ (hj7 (decide (x1.d8=6)) H _ ((I.bring 1).bring 1) h)
 refine r9 fun j6 hx6=>?_
 refine a7 pEq ?_
 refine l7 h (fun _ h=>?_) (fun _ h=>?_)
 ·exact hx6 _ _ (hj6 (decide (x1.d8=1)) H _ ((i.bring 1).bring 1) h)
 ·refine a7 pEq ?_
  exact hx6 _ _ (hj6 (decide (x1.d8=2)) H _ ((i.bring 1).bring 1) h)
def a2r (x0:m7) (x1:Int) (H:Hp) (K:Bool→m7→Hp→Prop):Prop:=
 (¬(x0.fbad=0)→
 K false x0 H)∧
 (x0.fbad=0→
 (x0.fn=4096→
 K false (m7.mk x0.fn x0.fdepth 33) H)∧
 (¬(x0.fn=4096)→
 (64 < x1→
 K false (m7.mk x0.fn x0.fdepth 32) H)∧
 (¬(64 < x1)→
 K true (m7.mk (IntKind.wrap .i64 (x0.fn+1)) (if x1 > x0.fdepth then x1 else x0.fdepth) x0.fbad) H)))
theorem a9j (x0 x1) {H K} (h:a2r x0 x1 H K):a0t x0 x1 H K:=by
 intro g0
 refine Ct.of fun w0 w ps0 H0 R E I hR=>c7H ?_
 unfold a2r at h
 unfold d1n
 refine a7 (o5 _) (a7 a1R (g5 (l1 Tryz.isAgg3 I rfl) (a7 pNe ?_)))
 refine Z9 h (fun _ h=>?_) (fun _ h=>?_)
 ·exact hR _ H _ _ I ⟨false,x0,rfl,rfl,h⟩
 ·refine a7 (o5 _) (a7 b2b (g5 (l1 Tryz.isAgg3 I rfl) (a7 pEq ?_)))
  refine l7 h (fun _ h=>?_) (fun _ h=>?_)
  ·refine a7 (o5 _) (a7 a1R ?_)
   refine f8 I Tryz.sizeOf3 (vs:=[(vi 33)]) (cs':=[(vi x0.fn),(vi x0.fdepth),(vi 33)]) rfl rfl (nb rfl) rfl rfl fun e b f=>?_
   exact hR _ H _ _ b ⟨false,(m7.mk x0.fn x0.fdepth 33),rfl,rfl,h⟩
  ·refine a7 pGt ?_
   refine l7 h (fun _ h=>?_) (fun _ h=>?_)
   ·refine a7 (o5 _) (a7 a1R ?_)
    refine f8 I Tryz.sizeOf3 (vs:=[(vi 32)]) (cs':=[(vi x0.fn),(vi x0.fdepth),(vi 32)]) rfl rfl (nb rfl) rfl rfl fun g c i=>?_
    exact hR _ H _ _ c ⟨false,(m7.mk x0.fn x0.fdepth 32),rfl,rfl,h⟩
   ·refine a7 (o5 _) (a7 b2b (g5 (l1 Tryz.isAgg3 I rfl) (a7 pAd (a7 (o5 _) ?_))))
    refine a7 b2b ?_
    refine f8 I Tryz.sizeOf3 (vs:=[(vi (IntKind.wrap .i64 (x0.fn+1)))]) (cs':=[(vi (IntKind.wrap .i64 (x0.fn+1))),(vi x0.fdepth),(vi x0.fbad)]) rfl rfl (nb rfl) rfl rfl fun j a k=>?_
    refine a7 (o5 _) (a7 b5m (g5 (l1 Tryz.isAgg3 a rfl) (a7 (c3t _ _ _ _ _) (a7 (o5 _) ?_))))
    refine a7 b5m ?_
    refine f8 a Tryz.sizeOf3 (vs:=[(vi (if x1 > x0.fdepth then x1 else x0.fdepth))]) (cs':=[(vi (IntKind.wrap .i64 (x0.fn+1))),(vi (if x1 > x0.fdepth then x1 else x0.fdepth)),(vi x0.fbad)]) rfl rfl (nb rfl) rfl rfl fun l d m=>?_
    exact hR _ H _ _ d ⟨true,(m7.mk (IntKind.wrap .i64 (x0.fn+1)) (if x1 > x0.fdepth then x1 else x0.fdepth) x0.fbad),rfl,rfl,h⟩
def Y3 (d5B:Int) (a:d6) (a2s:Int) (a7L:m7) (H:Hp) (n1:(Int×m7)→Hp→Prop) (K:m7→Hp→Prop):Prop:=
 (((decide (a2s < (a.B1.n:Int)))&&(decide (a7L.fbad=0)))=true→
 (0:Int)≤a2s∧(a2s:Int) < a.B1.n∧∃b:d6,EltH H a.B1 a2s 4 (d7 b)∧
 U5 a7L b (IntKind.wrap .i64 (d5B+1)) H (fun c d=>
 n1 ((IntKind.wrap .i64 (a2s+1)),c) d))∧
 (((decide (a2s < (a.B1.n:Int)))&&(decide (a7L.fbad=0)))=false→
 K a7L H)
def a2t (x0:m7) (x1:d6) (x2:Int) (H:Hp) (K:m7→Hp→Prop):Prop:=
 a0t x0 x2 H (fun a b c=>
 ((!a)=true→
 K b c)∧
 ((!a)=false→
 TL ((0,b):Int×m7) c fun (s:Int×m7) H n1=>Y3 x2 x1 s.1 s.2 H n1 K))
theorem a9k (x0 x1 x2) {H K} (h:a2t x0 x1 x2 H K):U5 x0 x1 x2 H K:=by
 intro g0
 refine Ct.of fun w0 w ps0 H0 R E I hR=>d0O ?_
 unfold a2t at h
 unfold F84
 refine P2 I (cs:=(d7 x1)) rfl fun o ad p ae=>?_
 refine g6 Tryz.call115 (h g0) (p.bring 1) ?_
 rintro _ j _ af k _ _ ⟨ag,m,rfl,rfl,h⟩
 refine a7 (K5 _) ?_
 refine m0 h (fun _ h=>?_) (fun _ h=>?_)
 ·exact hR _ j _ _ (k.bring 1).drop ⟨m,rfl,rfl,h⟩
 ·obtain ⟨e,d,q,r⟩:=h
  refine B0 (J:=fun n l w=>∃(s:Int×m7) (H:Hp),n=d s∧l=(match s with | (a2s,a7L)=>[(vi a2s)])∧(match s with | (a2s,a7L)=>Inv w0 ps0 H0 H [bx g0 120 (P5 a7L),bx o 40 (d7 x1)] w)∧e s H) ⟨_,(0,m),j,rfl,rfl,((k.bring 1).bring 1),q⟩ ?_
  rintro ah ai w next1 ⟨⟨a2s,a7L⟩,H,rfl,f,I,t⟩ hn1
  dsimp only at f I
  simp only [List.map_cons,List.map_nil,List.cons.injEq,and_true] at f
  have e6:=f
  simp only [e6]
  obtain ⟨n1,hm1,h⟩:∃n1:(Int×m7)→Hp→Prop,(∀s' H',n1 s' H'→e s' H'∧d s' < d (a2s,a7L))∧Y3 x2 x1 a2s a7L H n1 K:=⟨_,fun _ _ h=>h,r (a2s,a7L) H (fun s' H'=>e s' H'∧d s' < d (a2s,a7L)) t (fun _ _ a b=>⟨a,b⟩)⟩
  unfold c4a
  unfold Y3 at h
  refine a7 a0M (g5 (l1 Tryz.isAgg38 (I.bring 1) rfl) (a7 (T0 _ _ _) (a7 pLs ?_)))
  simp only [q9]
  refine a7 (Pu.g fun c=>by simp only [k7 c];with_reducible exact (o5 _)) ?_
  refine a7 (Pu.g fun c=>by simp only [k7 c];with_reducible exact a1R) ?_
  refine g5 (Ld.g fun c=>by simp only [k7 c];exact (l1 Tryz.isAgg3 I rfl)) ?_
  refine a7 (Pu.g fun c=>by simp only [k7 c];with_reducible exact pEq) ?_
  refine a7 (u4 _ _) ?_
  refine m0 h (fun _ h=>?_) (fun _ h=>?_)
  ·refine a7 a0M (g5 (l1 Tryz.isAgg38 (I.bring 1) rfl) ?_)
   obtain ⟨u,v,y,i,h⟩:=h
   obtain ⟨aj,ak,z,i⟩:=i
   refine a7 (a5F z _ _ _ _ u v) (g5 (ldA (vs:=(d7 y)) Tryz.isAgg40 Tryz.sizeOf40 rfl (I.atH i)) (a7 pAd ?_))
   refine g6 Tryz.call84 (h g0) I ?_
   rintro _ aa _ al ab _ _ ⟨ac,rfl,rfl,h⟩
   refine a7 pAd ?_
   exact hn1 _ _ _ (hm1 _ _ h).2 ⟨((IntKind.wrap .i64 (a2s+1)),ac),aa,rfl,rfl,((ab.bring 1).bring 1),(hm1 _ _ h).1⟩
  ·exact hR _ H _ _ (I.bring 1).drop ⟨a7L,rfl,rfl,h⟩
def a1L (x0:b8) (x1:Int) (H:Hp) (K:b7→Int→Hp→Prop):Prop:=
 (x1=32→
 (0:Int)≤IntKind.wrap .i64 ((x0.fl.n:Int)-1)∧(IntKind.wrap .i64 ((x0.fl.n:Int)-1):Int) < x0.fl.n∧∃a:b6,EltH H x0.fl (IntKind.wrap .i64 ((x0.fl.n:Int)-1)) 5 (f9 a)∧
 K a.fAt 41 H)∧
 (¬(x1=32)→
 (x1=33→
 (0:Int)≤IntKind.wrap .i64 ((x0.fl.n:Int)-1)∧(IntKind.wrap .i64 ((x0.fl.n:Int)-1):Int) < x0.fl.n∧∃b:b6,EltH H x0.fl (IntKind.wrap .i64 ((x0.fl.n:Int)-1)) 5 (f9 b)∧
 K b.fAt 42 H)∧
 (¬(x1=33)→
 K (b7.mk 0 0) 0 H))
theorem a8F (x0 x1) {H K} (h:a1L x0 x1 H K):Y6 x0 x1 H K:=by
 intro g0
 refine Ct.of fun w0 w ps0 H0 R E I hR=>d0a ?_
 unfold a1L at h
 unfold F28
 refine m9 I Tryz.zeroValue28 (cs:=[(vi 0),(vi 0)]) rfl fun u v e y=>?_
 refine a7 pEq ?_
 refine l7 h (fun _ h=>?_) (fun _ h=>?_)
 ·refine P3 e fun z c=>?_
  refine o7 (o5 _) ?_
  refine o7 a8O ?_
  refine o7 (o5 _) ?_
  refine o7 a8O ?_
  refine t8 (l1 Tryz.isAgg61 (c.bring 1) rfl) ?_
  refine t8 (l1 Tryz.isAgg61 (c.bring 1) rfl) ?_
  refine o7 (b7J _ _ _) ?_
  refine o7 pSu ?_
  obtain ⟨m,p,a,f,h⟩:=h
  obtain ⟨aa,ab,q,f⟩:=f
  refine o7 (b2J q _ _ _ _ m p) ?_
  refine o7 a9O ?_
  refine t8 (ldA (vs:=(b9 a.fAt)) Tryz.isAgg28 Tryz.sizeOf28 rfl ((c.atH f).sub (k:=3) (n:=2) (nb rfl))) ?_
  refine f8 c Tryz.sizeOf28 (vs:=(b9 a.fAt)) (cs':=(b9 a.fAt)) rfl rfl (nb rfl) rfl rfl fun ac i ad=>?_
  refine o4 Tryz.isAgg28 Tryz.sizeOf28 rfl (i.at1 (o:=0) (vs:=(b9 a.fAt)) (nb rfl) rfl) ?_
  exact hR _ H _ _ i.drop ⟨a.fAt,41,rfl,rfl,h⟩
 ·refine a7 pEq ?_
  refine l7 h (fun _ h=>?_) (fun _ h=>?_)
  ·refine P3 e fun ae d=>?_
   refine o7 (o5 _) ?_
   refine o7 a8O ?_
   refine o7 (o5 _) ?_
   refine o7 a8O ?_
   refine t8 (l1 Tryz.isAgg61 (d.bring 1) rfl) ?_
   refine t8 (l1 Tryz.isAgg61 (d.bring 1) rfl) ?_
   refine o7 (b7J _ _ _) ?_
   refine o7 pSu ?_
   obtain ⟨r,s,b,g,h⟩:=h
   obtain ⟨af,ag,t,g⟩:=g
   refine o7 (b2J t _ _ _ _ r s) ?_
   refine o7 a9O ?_
   refine t8 (ldA (vs:=(b9 b.fAt)) Tryz.isAgg28 Tryz.sizeOf28 rfl ((d.atH g).sub (k:=3) (n:=2) (nb rfl))) ?_
   refine f8 d Tryz.sizeOf28 (vs:=(b9 b.fAt)) (cs':=(b9 b.fAt)) rfl rfl (nb rfl) rfl rfl fun ah j ai=>?_
   refine o4 Tryz.isAgg28 Tryz.sizeOf28 rfl (j.at1 (o:=0) (vs:=(b9 b.fAt)) (nb rfl) rfl) ?_
   exact hR _ H _ _ j.drop ⟨b.fAt,42,rfl,rfl,h⟩
  ·refine a7 (b0a) ?_
   refine f8 e Tryz.sizeOf28 (vs:=[(vi 0),(vi 0)]) (cs':=[(vi 0),(vi 0)]) rfl rfl (nb rfl) rfl rfl fun aj l ak=>?_
   refine o4 Tryz.isAgg28 Tryz.sizeOf28 rfl (l.at1 (o:=0) (vs:=[(vi 0),(vi 0)]) (nb rfl) rfl) ?_
   exact hR _ H _ _ l.drop ⟨(b7.mk 0 0),0,rfl,rfl,h⟩
def a0W (o9:b8) (a:d6) (b:d6) (H:Hp) (K:d6→b8→Hp→Prop):Prop:=
 K a o9 H
def V3 (T4:Int) (C8:Int) (o6:b8) (d:d6) (e:d6) (H:Hp) (n2:(Int×b8×d6×d6)→Hp→Prop) (K:d6→b8→Hp→Prop):Prop:=
 (¬(C8=0)→
 R5 (b8.mk o6.fl (IntKind.wrap .i64 (o6.fat+1)) o6.fbad o6.fpos) T4 H (fun g f i=>
 Q3 f i (fun j k=>
 ∀(a:Sl) (b:Hp),Hle k b→SlH b 4 d7 a [d,g]→a.n≤a.c→
 n2 (j,f,(d6.mk C8 0 ⟨#[]⟩ a),e) b)))∧
 (C8=0→
 a0W o6 d e H K)
def a1M (x0:b8) (x1:Int) (H:Hp) (K:d6→b8→Hp→Prop):Prop:=
 R5 x0 x1 H (fun b a c=>
 Q3 a c (fun d e=>
 TL ((d,a,b,(d6.mk 0 0 ⟨#[]⟩ (Sl.mk none 0 0))):Int×b8×d6×d6) e fun (s:Int×b8×d6×d6) H n2=>V3 x1 s.1 s.2.1 s.2.2.1 s.2.2.2 H n2 K))
theorem a8G (x0 x1) {H K} (h:a1M x0 x1 H K):Y7 x0 x1 H K:=by
 intro g0
 refine Ct.of fun w0 w ps0 H0 R E I hR=>d0N ?_
 unfold a1M at h
 unfold F83
 refine m9 I Tryz.zeroValue40 (cs:=[(vi 0),(vi 0),(eS),(nS)]) rfl fun m ba z bb=>?_
 refine g6 Tryz.call123 (h g0) (z.bring 1) ?_
 rintro _ bc _ bd aa _ _ ⟨p,ab,rfl,rfl,h⟩
 refine m9 aa Tryz.zeroValue40 (cs:=[(vi 0),(vi 0),(eS),(nS)]) rfl fun q be ac bf=>?_
 refine f8 ac Tryz.sizeOf40 (vs:=(d7 p)) (cs':=(d7 p)) rfl rfl (nb rfl) rfl rfl fun bg ad bh=>?_
 have hj1:∀(o9:b8) (g:d6) (r:d6) H w (_:Inv w0 ps0 H0 H [bx g0 66 (i7 o9),bx q 40 (d7 g),bx m 40 (d7 r)] w) (_:a0W o9 g r H K),b9E (Value.pointer (some ⟨m,0,none⟩)) (Value.pointer (some ⟨q,0,none⟩)) w R E:=by
  intro o9 g r H w I h
  unfold b9E
  intro _
  unfold a0W at h
  refine g5 (lW Tryz.isAgg40 Tryz.sizeOf40 rfl (I.bring 1)) ?_
  refine f8 (I.bring 2) Tryz.sizeOf40 (vs:=(d7 g)) (cs':=(d7 g)) rfl rfl (nb rfl) rfl rfl fun bi v bj=>?_
  refine o4 Tryz.isAgg40 Tryz.sizeOf40 rfl (v.at1 (o:=0) (vs:=(d7 g)) (nb rfl) rfl) ?_
  exact hR _ H _ _ (v.drop.bring 1).drop ⟨g,o9,rfl,rfl,h⟩
 refine r9 fun j1 hx1=>?_
 refine g6 Tryz.call124 (h g0) (ad.bring 1) ?_
 rintro _ ae _ bk af _ _ ⟨ag,rfl,rfl,h⟩
 obtain ⟨t,i,ah,ai⟩:=h
 refine B0 (J:=fun n l w=>∃(s:Int×b8×d6×d6) (H:Hp),n=i s∧l=(match s with | (C8,o6,d,f)=>[(vi C8)])∧(match s with | (C8,o6,d,f)=>Inv w0 ps0 H0 H [bx g0 66 (i7 o6),bx q 40 (d7 d),bx m 40 (d7 f)] w)∧t s H) ⟨_,(ag,ab,p,(d6.mk 0 0 ⟨#[]⟩ (Sl.mk none 0 0))),ae,rfl,rfl,(((af.bring 2).bring 2).bring 2),ah⟩ ?_
 rintro bl bm w next2 ⟨⟨C8,o6,d,f⟩,H,rfl,u,I,aj⟩ hn2
 dsimp only at u I
 simp only [List.map_cons,List.map_nil,List.cons.injEq,and_true] at u
 have e6:=u
 simp only [e6]
 obtain ⟨n2,hm2,h⟩:∃n2:(Int×b8×d6×d6)→Hp→Prop,(∀s' H',n2 s' H'→t s' H'∧i s' < i (C8,o6,d,f))∧V3 x1 C8 o6 d f H n2 K:=⟨_,fun _ _ h=>h,ai (C8,o6,d,f) H (fun s' H'=>t s' H'∧i s' < i (C8,o6,d,f)) aj (fun _ _ a b=>⟨a,b⟩)⟩
 unfold c3Z
 unfold V3 at h
 refine a7 pNe ?_
 refine Z9 h (fun _ h=>?_) (fun _ h=>?_)
 ·refine a7 (o5 _) (a7 a1W (g5 (l1 Tryz.isAgg3 I rfl) (a7 pAd (a7 (o5 _) ?_))))
  refine a7 a1W ?_
  refine f8 I Tryz.sizeOf3 (vs:=[(vi (IntKind.wrap .i64 (o6.fat+1)))]) (cs':=[(vs o6.fl),(vi (IntKind.wrap .i64 (o6.fat+1))),(vi o6.fbad),(vi o6.fpos.o8),(vi o6.fpos.s6)]) rfl rfl (nb rfl) rfl rfl fun bn ak bo=>?_
  refine P3 ak fun bp j=>?_
  refine t8 (lW Tryz.isAgg40 Tryz.sizeOf40 rfl (j.bring 1)) ?_
  refine g6 Tryz.call123 (h g0) j ?_
  rintro _ _ _ bq al _ am ⟨an,ao,rfl,rfl,h⟩
  refine ⟨(am _ (j.bring 1).lt1 (Inv.a1B (Fi:=[bx g0 66 [(vs o6.fl),(vi (IntKind.wrap .i64 (o6.fat+1))),(vi o6.fbad),(vi o6.fpos.o8),(vi o6.fpos.s6)]]) ((j.bring 1).bring 1))),?_⟩
  refine V9 (e:=40) (c:=d7) (xs:=[d,an]) al (b2m _ _ _ _ _ _ _ _ _ _ _ _) rfl rfl N2 N3 (nb rfl) fun k br bs ap aq bt=>?_
  refine o7 (a6A _ _ _ _) ?_
  refine f8 (aq.bring 2) Tryz.sizeOf40 (vs:=[(vi C8),(vi 0),(eS),(vs k)]) (cs':=[(vi C8),(vi 0),(eS),(vs k)]) rfl rfl (nb rfl) rfl rfl fun bu ar bv=>?_
  refine g6 Tryz.call124 (h g0) (ar.bring 2) ?_
  rintro _ _ _ bw au _ _ ⟨av,rfl,rfl,h⟩
  obtain ⟨y,aw,ax,ay,az⟩:=Inv.freezeC (au.bring 2) ap (by decide)
  replace h:=h k y ax ay az
  exact hn2 _ _ _ (hm2 _ _ h).2 ⟨(av,ao,(d6.mk C8 0 ⟨#[]⟩ k),f),y,rfl,rfl,(((aw.bring 2).bring 2).bring 2),(hm2 _ _ h).1⟩
 ·exact hx1 _ _ (hj1 o6 d f H _ (((I.bring 2).bring 2).bring 2) h)
def Q0 (d2m:ByteArray) (d2n:Int) (d5C:Int) (b1P:Int) (a:b7) (b:b7) (H:Hp) (n2:(Int×b7×b7)→Hp→Prop) (K:b7→Hp→Prop):Prop:=
 n2 ((IntKind.wrap .i64 (d5C+b1P)),b,a) H
def a0Q (b:b7) (a:b7) (H:Hp) (K:b7→Hp→Prop):Prop:=
 K a H
def a0R (O8:ByteArray) (a3z:Int) (a0P:Int) (b:b7) (a:b7) (H:Hp) (n2:(Int×b7×b7)→Hp→Prop) (K:b7→Hp→Prop):Prop:=
 (a0P < a3z→
 O0 O8 a0P H (fun c d f e=>
 (c=10→
 Q0 O8 a3z a0P d (b7.mk (IntKind.wrap .i64 (a.o8+1)) 1) b e n2 K)∧
 (¬(c=10)→
 Q0 O8 a3z a0P d (b7.mk a.o8 (IntKind.wrap .i64 (a.s6+1))) b e n2 K)))∧
 (¬(a0P < a3z)→
 a0Q b a H K)
def a3X (x0:ByteArray) (x1:b7) (x2:Int) (x3:Int) (H:Hp) (K:b7→Hp→Prop):Prop:=
 TL ((x2,(b7.mk 0 0),x1):Int×b7×b7) H fun (s:Int×b7×b7) H n2=>a0R x0 x3 s.1 s.2.1 s.2.2 H n2 K
theorem b0I (x0 x1 x2 x3) {H K} (h:a3X x0 x1 x2 x3 H K):a1E x0 x1 x2 x3 H K:=by
 refine Ct.of fun w0 w ps0 H0 R E I hR=>d0x ?_
 unfold a3X at h
 unfold F61
 refine P2 I (cs:=(b9 x1)) rfl fun f ah y ai=>?_
 refine m9 y Tryz.zeroValue28 (cs:=[(vi 0),(vi 0)]) rfl fun g aj z ak=>?_
 have hj1:∀(m:b7) (e:b7) H w (_:Inv w0 ps0 H0 H [bx g 28 (b9 m),bx f 28 (b9 e)] w) (_:a0Q m e H K),b9v (Value.pointer (some ⟨f,0,none⟩)) (Value.pointer (some ⟨g,0,none⟩)) w R E:=by
  intro m e H w I h
  unfold b9v
  intro _
  unfold a0Q at h
  refine g5 (lW Tryz.isAgg28 Tryz.sizeOf28 rfl (I.bring 1)) ?_
  refine f8 I Tryz.sizeOf28 (vs:=(b9 e)) (cs':=(b9 e)) rfl rfl (nb rfl) rfl rfl fun al t am=>?_
  refine o4 Tryz.isAgg28 Tryz.sizeOf28 rfl (t.at1 (o:=0) (vs:=(b9 e)) (nb rfl) rfl) ?_
  exact hR _ H _ _ t.drop.drop ⟨e,rfl,rfl,h⟩
 refine r9 fun j1 hx1=>?_
 obtain ⟨p,i,aa,ab⟩:=h
 refine B0 (J:=fun n l w=>∃(s:Int×b7×b7) (H:Hp),n=i s∧l=(match s with | (a0P,d,c)=>[(vi a0P)])∧(match s with | (a0P,d,c)=>Inv w0 ps0 H0 H [bx g 28 (b9 d),bx f 28 (b9 c)] w)∧p s H) ⟨_,(x2,(b7.mk 0 0),x1),H,rfl,rfl,((z.bring 1).bring 1),aa⟩ ?_
 rintro an ao w next2 ⟨⟨a0P,d,c⟩,H,rfl,q,I,ac⟩ hn2
 dsimp only at q I
 simp only [List.map_cons,List.map_nil,List.cons.injEq,and_true] at q
 have e9:=q
 simp only [e9]
 obtain ⟨n2,hm2,h⟩:∃n2:(Int×b7×b7)→Hp→Prop,(∀s' H',n2 s' H'→p s' H'∧i s' < i (a0P,d,c))∧a0R x0 x3 a0P d c H n2 K:=⟨_,fun _ _ h=>h,ab (a0P,d,c) H (fun s' H'=>p s' H'∧i s' < i (a0P,d,c)) ac (fun _ _ a b=>⟨a,b⟩)⟩
 unfold c3T
 unfold a0R at h
 refine a7 pLs ?_
 refine l7 h (fun _ h=>?_) (fun _ h=>?_)
 ·refine g6 Tryz.call108 h I ?_
  rintro _ u _ ap v _ _ ⟨ad,j,ae,rfl,rfl,h⟩
  refine a7 (g7 _ _ (vi ad) rfl) (a7 (g7 _ _ (vi j) rfl) (a7 (g7 _ _ (vB ae) rfl) (a7 a5s (g5 (l1 Tryz.isAgg3 (v.bring 1) rfl) ?_))))
  refine a7 pAd (a7 a5s ?_)
  refine f8 (v.bring 1) Tryz.sizeOf3 (vs:=[(vi (IntKind.wrap .i64 (c.s6+1)))]) (cs':=[(vi c.o8),(vi (IntKind.wrap .i64 (c.s6+1)))]) rfl rfl (nb rfl) rfl rfl fun aq r ar=>?_
  have hj3:∀(k:b7) H w (_:Inv w0 ps0 H0 H [bx f 28 (b9 k),bx g 28 (b9 d)] w) (_:Q0 x0 x3 a0P j k d H n2 K),b9w (Value.string x0) (vi x3) (Value.pointer (some ⟨f,0,none⟩)) (Value.pointer (some ⟨g,0,none⟩)) (vi a0P) (vi j) w next2 R E:=by
   intro k H w I h
   unfold b9w
   intro _
   unfold Q0 at h
   refine a7 pAd ?_
   exact hn2 _ _ _ (hm2 _ _ h).2 ⟨((IntKind.wrap .i64 (a0P+j)),d,k),H,rfl,rfl,(I.bring 1),(hm2 _ _ h).1⟩
  refine r9 fun j3 hx3=>?_
  refine a7 pEq ?_
  refine l7 h (fun _ h=>?_) (fun _ h=>?_)
  ·refine a7 a8R (g5 (l1 Tryz.isAgg3 r rfl) (a7 pAd (a7 a8R ?_)))
   refine f8 r Tryz.sizeOf3 (vs:=[(vi (IntKind.wrap .i64 (c.o8+1)))]) (cs':=[(vi (IntKind.wrap .i64 (c.o8+1))),(vi (IntKind.wrap .i64 (c.s6+1)))]) rfl rfl (nb rfl) rfl rfl fun au af av=>?_
   refine a7 a5s ?_
   refine f8 af Tryz.sizeOf3 (vs:=[(vi 1)]) (cs':=[(vi (IntKind.wrap .i64 (c.o8+1))),(vi 1)]) rfl rfl (nb rfl) rfl rfl fun aw ag ax=>?_
   exact hx3 _ _ (hj3 (b7.mk (IntKind.wrap .i64 (c.o8+1)) 1) u _ ((ag.bring 1).bring 1) h)
  ·exact hx3 _ _ (hj3 (b7.mk c.o8 (IntKind.wrap .i64 (c.s6+1))) u _ ((r.bring 1).bring 1) h)
 ·exact hx1 _ _ (hj1 d c H _ ((I.bring 1).bring 1) h)
def a5g (x0:ByteArray) (x1:Int) (H:Hp) (K:b6→Int→Int→Hp→Prop):Prop:=
 T9 x0 x1 H (fun b q c=>
 (b=3→
 a4Z x0 x1 c (fun a e g=>
 (0:Int)≤x1∧(x1:Int)≤a∧(a:Int)≤x0.size∧
 a0F (x0.extract (x1:Int).toNat (a:Int).toNat) g (fun f d=>
 (f=true→
 K (b6.mk 3 (x0.extract (x1:Int).toNat (a:Int).toNat) 0 (b7.mk 0 0)) a 0 d)∧
 (f=false→
 (32 < e→
 K (b6.mk 0 ⟨#[]⟩ 0 (b7.mk 0 0)) 0 22 d)∧
 (¬(32 < e)→
 K (b6.mk 1 (x0.extract (x1:Int).toNat (a:Int).toNat) 0 (b7.mk 0 0)) a 0 d)))))∧
 (¬(b=3)→
 (b=4→
 a3u x0 x1 c (fun i j k l=>
 K i j k l))∧
 (¬(b=4)→
 (b=5→
 a4k x0 x1 c (fun m n o p=>
 K m n o p))∧
 (¬(b=5)→
 K (b6.mk 0 ⟨#[]⟩ 0 (b7.mk 0 0)) 0 20 c))))
theorem b1G (x0 x1) {H K} (h:a5g x0 x1 H K):a5a x0 x1 H K:=by
 refine Ct.of fun w0 w ps0 H0 R E I hR=>d0y ?_
 unfold a5g at h
 unfold F62
 refine m9 I Tryz.zeroValue103 (cs:=[(vi 0),(eS),(vi 0),(vi 0),(vi 0)]) rfl fun ah ai s aj=>?_
 refine g6 Tryz.call109 h s ?_
 rintro _ t _ ak b _ _ ⟨u,v,rfl,rfl,h⟩
 refine a7 (g7 _ _ (vi u) rfl) (a7 (g7 _ _ (vi v) rfl) (a7 pEq ?_))
 refine l7 h (fun _ h=>?_) (fun _ h=>?_)
 ·refine g6 Tryz.call110 h b ?_
  rintro _ _ _ al y _ _ ⟨a,z,rfl,rfl,h⟩
  refine a7 (g7 _ _ (vi a) rfl) (a7 (g7 _ _ (vi z) rfl) ?_)
  obtain ⟨aa,ab,ac,h⟩:=h
  refine a7 (a6g x0 Tryz.underlying9 aa ab ac) ?_
  refine g6 Tryz.call111 h y ?_
  rintro _ e _ am f _ _ ⟨an,rfl,rfl,h⟩
  refine m0 h (fun _ h=>?_) (fun _ h=>?_)
  ·refine a7 (a1D _ _) ?_
   refine f8 f Tryz.sizeOf103 (vs:=[(vi 3),(Value.string (x0.extract (x1:Int).toNat (a:Int).toNat)),(vi 0),(vi 0),(vi 0)]) (cs':=[(vi 3),(Value.string (x0.extract (x1:Int).toNat (a:Int).toNat)),(vi 0),(vi 0),(vi 0)]) rfl rfl (nb rfl) rfl rfl fun ao g ap=>?_
   refine o4 Tryz.isAgg103 Tryz.sizeOf103 rfl (g.at1 (o:=0) (vs:=[(vi 3),(Value.string (x0.extract (x1:Int).toNat (a:Int).toNat)),(vi 0),(vi 0),(vi 0)]) (nb rfl) rfl) ?_
   exact hR _ e _ _ g.drop ⟨(b6.mk 3 (x0.extract (x1:Int).toNat (a:Int).toNat) 0 (b7.mk 0 0)),a,0,rfl,rfl,h⟩
  ·refine a7 pGt ?_
   refine l7 h (fun _ h=>?_) (fun _ h=>?_)
   ·refine a7 (a6k) ?_
    refine f8 f Tryz.sizeOf103 (vs:=[(vi 0),(eS),(vi 0),(vi 0),(vi 0)]) (cs':=[(vi 0),(eS),(vi 0),(vi 0),(vi 0)]) rfl rfl (nb rfl) rfl rfl fun aq i ar=>?_
    refine o4 Tryz.isAgg103 Tryz.sizeOf103 rfl (i.at1 (o:=0) (vs:=[(vi 0),(eS),(vi 0),(vi 0),(vi 0)]) (nb rfl) rfl) ?_
    exact hR _ e _ _ i.drop ⟨(b6.mk 0 ⟨#[]⟩ 0 (b7.mk 0 0)),0,22,rfl,rfl,h⟩
   ·refine a7 (a1D _ _) ?_
    refine f8 f Tryz.sizeOf103 (vs:=[(vi 1),(Value.string (x0.extract (x1:Int).toNat (a:Int).toNat)),(vi 0),(vi 0),(vi 0)]) (cs':=[(vi 1),(Value.string (x0.extract (x1:Int).toNat (a:Int).toNat)),(vi 0),(vi 0),(vi 0)]) rfl rfl (nb rfl) rfl rfl fun au j av=>?_
    refine o4 Tryz.isAgg103 Tryz.sizeOf103 rfl (j.at1 (o:=0) (vs:=[(vi 1),(Value.string (x0.extract (x1:Int).toNat (a:Int).toNat)),(vi 0),(vi 0),(vi 0)]) (nb rfl) rfl) ?_
    exact hR _ e _ _ j.drop ⟨(b6.mk 1 (x0.extract (x1:Int).toNat (a:Int).toNat) 0 (b7.mk 0 0)),a,0,rfl,rfl,h⟩
 ·refine a7 pEq ?_
  refine l7 h (fun _ h=>?_) (fun _ h=>?_)
  ·refine g6 Tryz.call112 h b ?_
   rintro _ ad _ aw ae _ _ ⟨c,k,l,rfl,rfl,h⟩
   refine a7 (g7 _ _ _ rfl) (a7 (g7 _ _ (vi k) rfl) (a7 (g7 _ _ (vi l) rfl) ?_))
   refine f8 ae Tryz.sizeOf103 (vs:=(f9 c)) (cs':=(f9 c)) rfl rfl (nb rfl) rfl rfl fun ax m ay=>?_
   refine o4 Tryz.isAgg103 Tryz.sizeOf103 rfl (m.at1 (o:=0) (vs:=(f9 c)) (nb rfl) rfl) ?_
   exact hR _ ad _ _ m.drop ⟨c,k,l,rfl,rfl,h⟩
  ·refine a7 pEq ?_
   refine l7 h (fun _ h=>?_) (fun _ h=>?_)
   ·refine g6 Tryz.call113 h b ?_
    rintro _ af _ az ag _ _ ⟨d,n,p,rfl,rfl,h⟩
    refine a7 (g7 _ _ _ rfl) (a7 (g7 _ _ (vi n) rfl) (a7 (g7 _ _ (vi p) rfl) ?_))
    refine f8 ag Tryz.sizeOf103 (vs:=(f9 d)) (cs':=(f9 d)) rfl rfl (nb rfl) rfl rfl fun ba q bb=>?_
    refine o4 Tryz.isAgg103 Tryz.sizeOf103 rfl (q.at1 (o:=0) (vs:=(f9 d)) (nb rfl) rfl) ?_
    exact hR _ af _ _ q.drop ⟨d,n,p,rfl,rfl,h⟩
   ·refine a7 (a6k) ?_
    refine f8 b Tryz.sizeOf103 (vs:=[(vi 0),(eS),(vi 0),(vi 0),(vi 0)]) (cs':=[(vi 0),(eS),(vi 0),(vi 0),(vi 0)]) rfl rfl (nb rfl) rfl rfl fun bc r bd=>?_
    refine o4 Tryz.isAgg103 Tryz.sizeOf103 rfl (r.at1 (o:=0) (vs:=[(vi 0),(eS),(vi 0),(vi 0),(vi 0)]) (nb rfl) rfl) ?_
    exact hR _ t _ _ r.drop ⟨(b6.mk 0 ⟨#[]⟩ 0 (b7.mk 0 0)),0,20,rfl,rfl,h⟩
def Z0 (a:d6) (b:d6) (H:Hp) (K:Bool→Hp→Prop):Prop:=
 K true H
def Z1 (b:d6) (a:d6) (X5:Int) (H:Hp) (n2:Int→Hp→Prop) (K:Bool→Hp→Prop):Prop:=
 (X5 < (a.B1.n:Int)→
 (0:Int)≤X5∧(X5:Int) < a.B1.n∧∃c:d6,EltH H a.B1 X5 4 (d7 c)∧
 (0:Int)≤X5∧(X5:Int) < b.B1.n∧∃d:d6,EltH H b.B1 X5 4 (d7 d)∧
 W0 c d H (fun e f=>
 ((!e)=true→
 K false f)∧
 ((!e)=false→
 n2 (IntKind.wrap .i64 (X5+1)) f)))∧
 (¬(X5 < (a.B1.n:Int))→
 Z0 b a H K)
def a2I (x0:d6) (x1:d6) (H:Hp) (K:Bool→Hp→Prop):Prop:=
 (((((!decide (x0.d8=x1.d8))||(!decide (x0.F0=x1.F0)))||(!decide (x0.A8=x1.A8)))||(!decide ((x0.B1.n:Int)=(x1.B1.n:Int))))=true→
 K false H)∧
 (((((!decide (x0.d8=x1.d8))||(!decide (x0.F0=x1.F0)))||(!decide (x0.A8=x1.A8)))||(!decide ((x0.B1.n:Int)=(x1.B1.n:Int))))=false→
 TL (0:Int) H fun (s:Int) H n2=>Z1 x1 x0 s H n2 K)
theorem a9w (x0 x1) {H K} (h:a2I x0 x1 H K):W0 x0 x1 H K:=by
 refine Ct.of fun w0 w ps0 H0 R E I hR=>c9S ?_
 unfold a2I at h
 unfold F15
 refine P2 I (cs:=(d7 x0)) rfl fun m ah t ai=>?_
 refine P2 t (cs:=(d7 x1)) rfl fun o aj d ak=>?_
 refine a7 a1p (g5 (l1 Tryz.isAgg3 (d.bring 1) rfl) (a7 a1p (g5 (l1 Tryz.isAgg3 d rfl) (a7 pNe ?_))))
 refine a7 (Pu.g fun c=>by with_reducible exact a7E) ?_
 refine g5 (Ld.g fun c=>by simp only [k7 c];exact (l1 Tryz.isAgg2 (d.bring 1) rfl)) ?_
 refine a7 (Pu.g fun c=>by with_reducible exact a7E) ?_
 refine g5 (Ld.g fun c=>by simp only [k7 c];exact (l1 Tryz.isAgg2 d rfl)) ?_
 refine a7 (Pu.g fun c=>by simp only [k7 c];with_reducible exact pNe) ?_
 refine a7 (B5 _ _) ?_
 refine a7 (Pu.g fun c=>by with_reducible exact a8P) ?_
 refine g5 (Ld.g fun c=>by simp only [k7 c];exact (l1 Tryz.isAgg9 (d.bring 1) rfl)) ?_
 refine a7 (Pu.g fun c=>by with_reducible exact a8P) ?_
 refine g5 (Ld.g fun c=>by simp only [k7 c];exact (l1 Tryz.isAgg9 d rfl)) ?_
 refine a7 (Pu.g fun c=>by simp only [k7 c];with_reducible exact (c3u _ _ _ _ _)) ?_
 refine a7 (B5 _ _) ?_
 refine a7 (Pu.g fun c=>by with_reducible exact a0M) ?_
 refine g5 (Ld.g fun c=>by simp only [k7 c];exact (l1 Tryz.isAgg38 (d.bring 1) rfl)) ?_
 refine a7 (Pu.g fun c=>by simp only [k7 c];with_reducible exact (T0 _ _ _)) ?_
 refine a7 (Pu.g fun c=>by with_reducible exact a0M) ?_
 refine g5 (Ld.g fun c=>by simp only [k7 c];exact (l1 Tryz.isAgg38 d rfl)) ?_
 refine a7 (Pu.g fun c=>by simp only [k7 c];with_reducible exact (T0 _ _ _)) ?_
 refine a7 (Pu.g fun c=>by simp only [k7 c];with_reducible exact pNe) ?_
 refine a7 (B5 _ _) ?_
 refine m0 h (fun _ h=>?_) (fun _ h=>?_)
 ·exact hR _ H _ _ d.drop.drop ⟨false,rfl,rfl,h⟩
 ·have hj1:∀H w (_:Inv w0 ps0 H0 H [bx o 40 (d7 x1),bx m 40 (d7 x0)] w) (_:Z0 x1 x0 H K),b9a w R E:=by
   intro H w I h
   unfold b9a
   intro _
   unfold Z0 at h
   exact hR _ H _ _ I.drop.drop ⟨true,rfl,rfl,h⟩
  refine r9 fun j1 hx1=>?_
  obtain ⟨i,e,u,v⟩:=h
  refine B0 (J:=fun n l w=>∃(s:Int) (H:Hp),n=e s∧l=[(vi s)]∧Inv w0 ps0 H0 H [bx o 40 (d7 x1),bx m 40 (d7 x0)] w∧i s H) ⟨_,0,H,rfl,rfl,((d.bring 1).bring 1),u⟩ ?_
  rintro al am w next2 ⟨X5,H,rfl,p,I,y⟩ hn2
  simp only [List.map_cons,List.map_nil,List.cons.injEq,and_true] at p
  have e5:=p
  simp only [e5]
  obtain ⟨n2,hm2,h⟩:∃n2:Int→Hp→Prop,(∀s' H',n2 s' H'→i s' H'∧e s' < e X5)∧Z1 x1 x0 X5 H n2 K:=⟨_,fun _ _ h=>h,v X5 H (fun s' H'=>i s' H'∧e s' < e X5) y (fun _ _ a b=>⟨a,b⟩)⟩
  unfold c3F
  unfold Z1 at h
  refine a7 a0M (g5 (l1 Tryz.isAgg38 (I.bring 1) rfl) (a7 (T0 _ _ _) (a7 pLs ?_)))
  refine l7 h (fun _ h=>?_) (fun _ h=>?_)
  ·refine P3 I fun an f=>?_
   refine o7 a0M ?_
   refine o7 a0M ?_
   refine t8 (l1 Tryz.isAgg38 (f.bring 1) rfl) ?_
   obtain ⟨z,aa,ab,j,h⟩:=h
   obtain ⟨ao,ap,ac,j⟩:=j
   refine o7 (a5F ac _ _ _ _ z aa) ?_
   refine t8 (ldA (vs:=(d7 ab)) Tryz.isAgg40 Tryz.sizeOf40 rfl (f.atH j)) ?_
   refine t8 (l1 Tryz.isAgg38 f rfl) ?_
   obtain ⟨ad,ae,af,k,h⟩:=h
   obtain ⟨aq,ar,ag,k⟩:=k
   refine o7 (a5F ag _ _ _ _ ad ae) ?_
   refine t8 (ldA (vs:=(d7 af)) Tryz.isAgg40 Tryz.sizeOf40 rfl (f.atH k)) ?_
   refine g6 Tryz.call15 h f ?_
   rintro _ q _ au r _ _ ⟨av,rfl,rfl,h⟩
   refine o7 (K5 _) ?_
   refine m0 h (fun _ h=>?_) (fun _ h=>?_)
   ·exact hR _ q _ _ r.drop.drop ⟨false,rfl,rfl,h⟩
   ·refine a7 pAd ?_
    exact hn2 _ _ _ (hm2 _ _ h).2 ⟨(IntKind.wrap .i64 (X5+1)),q,rfl,rfl,((r.bring 1).bring 1),(hm2 _ _ h).1⟩
  ·exact hx1 _ _ (hj1 H _ ((I.bring 1).bring 1) h)
def a6m (x0:p5) (H:Hp) (K:g9→Hp→Prop):Prop:=
 K (g9.O4 (a0L.mk x0)) H
theorem b2R (x0) {H K} (h:a6m x0 H K):a8S x0 H K:=by
 refine Ct.of fun w0 w ps0 H0 R E I hR=>d0I ?_
 unfold a6m at h
 unfold F77
 refine P2 I (cs:=(C1 x0)) rfl fun b c a d=>?_
 refine g5 (lW Tryz.isAgg68 Tryz.sizeOf68 rfl a) (a7 (b8W _ _) (a7 (b6y (a0L.mk x0)) ?_))
 exact hR _ H _ _ a.drop ⟨(g9.O4 (a0L.mk x0)),rfl,rfl,h⟩
def a6n (x0:j9) (H:Hp) (K:g9→Hp→Prop):Prop:=
 K (g9.L6 (X2.mk x0)) H
theorem b2S (x0) {H K} (h:a6n x0 H K):a8T x0 H K:=by
 refine Ct.of fun w0 w ps0 H0 R E I hR=>d0K ?_
 unfold a6n at h
 unfold F79
 refine P2 I (cs:=(y2 x0)) rfl fun b c a d=>?_
 refine g5 (lW Tryz.isAgg56 Tryz.sizeOf56 rfl a) (a7 (b8X _ _ _ _ _ _ _ _ _ _ _ _ _ _) (a7 (b6z (X2.mk x0)) ?_))
 exact hR _ H _ _ a.drop ⟨(g9.L6 (X2.mk x0)),rfl,rfl,h⟩
def J0 (d6q:Sl) (b7m:Int) (d6r:Sl) (d6o:Int) (d3M:Int) (H:Hp) (n4:(Int×Int)→Hp→Prop) (K:Sl→Hp→Prop):Prop:=
 n4 (b7m,(IntKind.wrap .i64 (d3M+1))) H
def J5 (b5W:(List g9)) (H:Hp) (K:Sl→Hp→Prop):Prop:=
 ∀(a9S:Sl) (a:Hp),Hle H a→SlH a 1 u0 a9S b5W→a9S.n≤a9S.c→
 K a9S a
def K0 (c6O:Sl) (c6P:Int) (a6o:(List g9)) (a5R:Int) (H:Hp) (n3:((List g9)×Int)→Hp→Prop) (K:Sl→Hp→Prop):Prop:=
 (a5R < c6P→
 (0:Int)≤a5R∧(a5R:Int) < c6O.n∧∃b:Sl,EltH H c6O a5R 1 [(vs b)]∧
 ∃a:List g9,SlH H 1 u0 b a∧(a6o.length+a.length)*17≤140737488355328∧
 n3 ((a6o++a),(IntKind.wrap .i64 (a5R+1))) H)∧
 (¬(a5R < c6P)→
 J5 a6o H K)
def K3 (a5K:Sl) (a7T:Int) (H:Hp) (K:Sl→Hp→Prop):Prop:=
 W6 a7T H (fun a b=>
 TL ((a,0):(List g9)×Int) b fun (s:(List g9)×Int) H n3=>K0 a5K (a5K.n:Int) s.1 s.2 H n3 K)
def K4 (b2P:Sl) (c5r:Sl) (c2J:Int) (a8X:Int) (a5v:Int) (H:Hp) (n4:(Int×Int)→Hp→Prop) (K:Sl→Hp→Prop):Prop:=
 (a5v < c2J→
 (0:Int)≤a5v∧(a5v:Int) < c5r.n∧∃a:Sl,EltH H c5r a5v 1 [(vs a)]∧
 ((IntKind.wrap .i64 (a8X+(a.n:Int))) < 0→
 False)∧
 (¬((IntKind.wrap .i64 (a8X+(a.n:Int))) < 0)→
 J0 b2P (IntKind.wrap .i64 (a8X+(a.n:Int))) c5r c2J a5v H n4 K))∧
 (¬(a5v < c2J)→
 K3 b2P a8X H K)
def Q1 (x0:Sl) (H:Hp) (K:Sl→Hp→Prop):Prop:=
 TL ((0,0):Int×Int) H fun (s:Int×Int) H n4=>K4 x0 x0 (x0.n:Int) s.1 s.2 H n4 K
theorem a4f (x0) {H K} (h:Q1 x0 H K):E5 x0 H K:=by
 refine Ct.of fun w0 w ps0 H0 R E I hR=>d0G ?_
 unfold Q1 at h
 unfold F75
 have hj1:∀(a7T:Int) H w (_:Inv w0 ps0 H0 H [] w) (_:K3 x0 a7T H K),b9z (vs x0) (vi a7T) w R E:=by
  intro a7T H w I h
  unfold b9z
  intro _
  unfold K3 at h
  refine g6 Tryz.call120 h I ?_
  rintro _ p _ az q _ _ ⟨r,t,u,rfl,rfl,y,h⟩
  have hj2:∀(b5W:(List g9)) (a9S:Sl) (Fs6j2:Frag) H w (_:RowL 131 1 u0 a9S b5W Fs6j2) (_:Inv w0 ps0 H0 H [Fs6j2] w) (_:J5 b5W H K),b9y (vs a9S) w R E:=by
   intro b5W a9S Fs6j2 H w d3N I h
   unfold b9y
   intro _
   unfold J5 at h
   obtain ⟨m,z,aa,ab,ac⟩:=Inv.freezeC I d3N (by decide)
   replace h:=h a9S m aa ab ac
   exact hR _ m _ _ z ⟨a9S,rfl,rfl,h⟩
  refine r9 fun j2 hx2=>?_
  refine a7 (b5U _ _ _) ?_
  obtain ⟨e,c,ad,ae⟩:=h
  refine B0 (J:=fun n l w=>∃(s:(List g9)×Int) (H:Hp) (b5X:Sl) (Fs6l3:Frag),n=c s∧l=(match s with | (a6o,a5R)=>[(vs b5X),(vi a5R)])∧(match s with | (a6o,a5R)=>RowL 131 1 u0 b5X a6o Fs6l3)∧(match s with | (a6o,a5R)=>Inv w0 ps0 H0 H [Fs6l3] w)∧e s H) ⟨_,(r,0),p,t,u,rfl,rfl,y,q,ad⟩ ?_
  rintro ba bb w next3 ⟨⟨a6o,a5R⟩,H,b5X,Fs6l3,rfl,f,c2K,I,af⟩ hn3
  dsimp only at f I c2K
  simp only [List.map_cons,List.map_nil,List.cons.injEq,and_true] at f
  obtain ⟨e6,e27⟩:=f
  simp only [e6,e27]
  obtain ⟨n3,hm3,h⟩:∃n3:((List g9)×Int)→Hp→Prop,(∀s' H',n3 s' H'→e s' H'∧c s' < c (a6o,a5R))∧K0 x0 (x0.n:Int) a6o a5R H n3 K:=⟨_,fun _ _ h=>h,ae (a6o,a5R) H (fun s' H'=>e s' H'∧c s' < c (a6o,a5R)) af (fun _ _ a b=>⟨a,b⟩)⟩
  unfold c3U
  unfold K0 at h
  refine a7 pLs ?_
  refine l7 h (fun _ h=>?_) (fun _ h=>?_)
  ·obtain ⟨ag,ah,ai,g,h⟩:=h
   obtain ⟨bc,bd,aj,g⟩:=g
   refine a7 (b7K aj _ _ _ _ ag ah) (g5 (ld1 (v:=(vs ai)) Tryz.isAgg128 (I.atH g)) ?_)
   obtain ⟨ak,al,h⟩:=h
   obtain ⟨am,h⟩:=h
   refine b2r (s:=b5X) (xs:=a6o) I c2K (SlH.src I al P8) am fun an ao be ap aq bf=>?_
   refine a7 pAd ?_
   exact hn3 _ _ _ (hm3 _ _ h).2 ⟨((a6o++ak),(IntKind.wrap .i64 (a5R+1))),H,an,ao,rfl,rfl,ap,aq,(hm3 _ _ h).1⟩
  ·exact hx2 _ _ (hj2 a6o b5X Fs6l3 H _ c2K I h)
 refine r9 fun j1 hx1=>?_
 refine a7 (b5U _ _ _) ?_
 obtain ⟨i,d,ar,au⟩:=h
 refine B0 (J:=fun n l w=>∃(s:Int×Int) (H:Hp),n=d s∧l=(match s with | (a8X,a5v)=>[(vi a8X),(vi a5v)])∧(match s with | (a8X,a5v)=>Inv w0 ps0 H0 H [] w)∧i s H) ⟨_,(0,0),H,rfl,rfl,I,ar⟩ ?_
 rintro bg bh w next4 ⟨⟨a8X,a5v⟩,H,rfl,j,I,av⟩ hn4
 dsimp only at j I
 simp only [List.map_cons,List.map_nil,List.cons.injEq,and_true] at j
 obtain ⟨e3,e11⟩:=j
 simp only [e3,e11]
 obtain ⟨n4,hm4,h⟩:∃n4:(Int×Int)→Hp→Prop,(∀s' H',n4 s' H'→i s' H'∧d s' < d (a8X,a5v))∧K4 x0 x0 (x0.n:Int) a8X a5v H n4 K:=⟨_,fun _ _ h=>h,au (a8X,a5v) H (fun s' H'=>i s' H'∧d s' < d (a8X,a5v)) av (fun _ _ a b=>⟨a,b⟩)⟩
 unfold c3V
 unfold K4 at h
 refine a7 pLs ?_
 refine l7 h (fun _ h=>?_) (fun _ h=>?_)
 ·have hj5:∀(b7m:Int) H w (_:Inv w0 ps0 H0 H [] w) (_:J0 x0 b7m x0 (x0.n:Int) a5v H n4 K),b9A (vs x0) (vi b7m) (vs x0) (vi (x0.n:Int)) (vi a5v) w next4 R E:=by
   intro b7m H w I h
   unfold b9A
   intro _
   unfold J0 at h
   refine a7 pAd ?_
   exact hn4 _ _ _ (hm4 _ _ h).2 ⟨(b7m,(IntKind.wrap .i64 (a5v+1))),H,rfl,rfl,I,(hm4 _ _ h).1⟩
  refine r9 fun j5 hx5=>?_
  obtain ⟨aw,ax,o,k,h⟩:=h
  obtain ⟨bi,bj,ay,k⟩:=k
  refine a7 (b7K ay _ _ _ _ aw ax) (g5 (ld1 (v:=(vs o)) Tryz.isAgg128 (I.atH k)) (a7 (b0G _ _ _) (a7 pAd (a7 pLs ?_))))
  refine l7 h (fun _ h=>?_) (fun _ h=>?_)
  ·refine a7 (c3C _) ?_
   exact h.elim
  ·exact hx5 _ _ (hj5 (IntKind.wrap .i64 (a8X+(o.n:Int))) H _ I h)
 ·exact hx1 _ _ (hj1 a8X H _ I h)
def a7m (x0:g9) (H:Hp) (K:ByteArray→Bool→Hp→Prop):Prop:=
 (x0.a7B=true→
 K x0.a1C.a0Y.A8 true H)∧
 (x0.a7B=false→
 (x0.a7C=true→
 K x0.u5.m8.A8 ((decide (x0.u5.m8.d8=1))||(decide (x0.u5.m8.d8=2))) H)∧
 (x0.a7C=false→
 (x0.a7A=true→
 K x0.E4.y1.A8 ((decide (x0.E4.y1.d8=2))||(decide (x0.E4.y1.d8=4))) H)∧
 (x0.a7A=false→
 K ⟨#[]⟩ false H)))
theorem b3S (x0) {H K} (h:a7m x0 H K):a3h x0 H K:=by
 refine Ct.of fun w0 w ps0 H0 R E I hR=>c8e ?_
 unfold a7m at h
 unfold d1K
 refine a7 (b8q x0) (a7 (g7 _ _ (vB x0.a7B) rfl) (a7 (g7 _ _ _ rfl) ?_))
 refine m0 h (fun _ h=>?_) (fun _ h=>?_)
 ·refine m9 I Tryz.zeroValue175 (cs:=[(eS),(vi 0)]) rfl fun n o e q=>?_
  refine f8 e Tryz.sizeOf175 (vs:=[(Value.string x0.a1C.a0Y.A8),(vi x0.a1C.a0Y.a6T)]) (cs':=[(Value.string x0.a1C.a0Y.A8),(vi x0.a1C.a0Y.a6T)]) rfl rfl (nb rfl) rfl rfl fun r d s=>?_
  refine a7 b2c (a7 c2y (g5 (l1 Tryz.isAgg9 d rfl) ?_))
  exact hR _ H _ _ d.drop ⟨x0.a1C.a0Y.A8,true,rfl,rfl,h⟩
 ·refine a7 (b8r x0) (a7 (g7 _ _ (vB x0.a7C) rfl) (a7 (g7 _ _ _ rfl) ?_))
  refine m0 h (fun _ h=>?_) (fun _ h=>?_)
  ·refine m9 I Tryz.zeroValue177 (cs:=[(vi 0),(eS),(nS),(nS),(nS),(nS)]) rfl fun f t i u=>?_
   refine f8 i Tryz.sizeOf177 (vs:=[(vi x0.u5.m8.d8),(Value.string x0.u5.m8.A8),(vs x0.u5.m8.o0),(vs x0.u5.m8.C3),(vs x0.u5.m8.R8),(vs x0.u5.m8.Q2)]) (cs':=[(vi x0.u5.m8.d8),(Value.string x0.u5.m8.A8),(vs x0.u5.m8.o0),(vs x0.u5.m8.C3),(vs x0.u5.m8.R8),(vs x0.u5.m8.Q2)]) rfl rfl (nb rfl) rfl rfl fun v j y=>?_
   refine P3 j fun z b=>?_
   refine o7 R4 ?_
   refine o7 a8Q ?_
   refine o7 R4 ?_
   refine o7 a2W ?_
   refine t8 (l1 Tryz.isAgg9 b rfl) ?_
   refine t8 (l1 Tryz.isAgg3 b rfl) ?_
   refine o7 pEq ?_
   refine o7 (Pu.g fun a=>by with_reducible exact R4) ?_
   refine o7 (Pu.g fun a=>by simp only [k7 a];with_reducible exact a2W) ?_
   refine c9A (p:=(Value.pointer (some ⟨f,0,none⟩))) rfl (Ld.g fun a=>by simp only [k7 a];exact (l1 Tryz.isAgg3 b rfl)) ?_
   refine o7 (Pu.g fun a=>by simp only [k7 a];with_reducible exact pEq) ?_
   refine o7 (B5 _ _) ?_
   exact hR _ H _ _ b.drop ⟨x0.u5.m8.A8,((decide (x0.u5.m8.d8=1))||(decide (x0.u5.m8.d8=2))),rfl,rfl,h⟩
  ·refine a7 (b8s x0) (a7 (g7 _ _ (vB x0.a7A) rfl) (a7 (g7 _ _ _ rfl) ?_))
   refine m0 h (fun _ h=>?_) (fun _ h=>?_)
   ·refine m9 I Tryz.zeroValue141 (cs:=[(vi 0),(vi 0),(eS),(nS)]) rfl fun k aa l ab=>?_
    refine f8 l Tryz.sizeOf141 (vs:=[(vi x0.E4.y1.d8),(vi x0.E4.y1.F0),(Value.string x0.E4.y1.A8),(vs x0.E4.y1.B1)]) (cs':=[(vi x0.E4.y1.d8),(vi x0.E4.y1.F0),(Value.string x0.E4.y1.A8),(vs x0.E4.y1.B1)]) rfl rfl (nb rfl) rfl rfl fun ac m ad=>?_
    refine P3 m fun ae c=>?_
    refine o7 a1S ?_
    refine o7 a8P ?_
    refine o7 a1S ?_
    refine o7 a1p ?_
    refine t8 (l1 Tryz.isAgg9 c rfl) ?_
    refine t8 (l1 Tryz.isAgg3 c rfl) ?_
    refine o7 pEq ?_
    refine o7 (Pu.g fun a=>by with_reducible exact a1S) ?_
    refine o7 (Pu.g fun a=>by simp only [k7 a];with_reducible exact a1p) ?_
    refine c9A (p:=(Value.pointer (some ⟨k,0,none⟩))) rfl (Ld.g fun a=>by simp only [k7 a];exact (l1 Tryz.isAgg3 c rfl)) ?_
    refine o7 (Pu.g fun a=>by simp only [k7 a];with_reducible exact pEq) ?_
    refine o7 (B5 _ _) ?_
    exact hR _ H _ _ c.drop ⟨x0.E4.y1.A8,((decide (x0.E4.y1.d8=2))||(decide (x0.E4.y1.d8=4))),rfl,rfl,h⟩
   ·exact hR _ H _ _ I ⟨⟨#[]⟩,false,rfl,rfl,h⟩
def a7V (x0:ByteArray) (H:Hp) (K:Bool→Hp→Prop):Prop:=
 a1u x0 H (fun a b=>
 K (decide (32 < a)) b)
theorem b5f (x0) {H K} (h:a7V x0 H K):a3P x0 H K:=by
 refine Ct.of fun w0 w ps0 H0 R E I hR=>c8o ?_
 unfold a7V at h
 unfold d1U
 refine g6 Tryz.call162 h I ?_
 rintro _ a _ d b _ _ ⟨c,rfl,rfl,h⟩
 refine a7 pGt ?_
 exact hR _ a _ _ b ⟨(decide (32 < c)),rfl,rfl,h⟩
def a6p (H:Hp) (K:Bool→Hp→Prop):Prop:=
 K true H
def T2 (b:ByteArray) (a:Nat) (H:Hp) (n2:Nat→Hp→Prop) (K:Bool→Hp→Prop):Prop:=
 (a < b.size→
 a4N ((Utf8.decode b a).1:Int) H (fun c d=>
 TG ((!(!c)&&(decide (((a:Nat):Int)=0)))=true) (V0 ((Utf8.decode b a).1:Int) d) 0 d (fun (e:Int) (f:Hp)=>
 (((!c)||((decide (((a:Nat):Int)=0))&&(!decide (e=3))))=true→
 K false f)∧
 (((!c)||((decide (((a:Nat):Int)=0))&&(!decide (e=3))))=false→
 n2 (a+(Utf8.decode b a).2) f))))∧
 (¬(a < b.size)→
 a6p H K)
def a7W (x0:ByteArray) (H:Hp) (K:Bool→Hp→Prop):Prop:=
 TG ((decide (x0=⟨#[]⟩))=false) (a6B x0 H) false H (fun (a:Bool) (c:Hp)=>
 TG (((decide (x0=⟨#[]⟩))||(!a))=false) (a3P x0 c) false c (fun (b:Bool) (d:Hp)=>
 TG ((((decide (x0=⟨#[]⟩))||(!a))||b)=false) (a2i x0 d) false d (fun (e:Bool) (f:Hp)=>
 (((((decide (x0=⟨#[]⟩))||(!a))||b)||e)=true→
 K false f)∧
 (((((decide (x0=⟨#[]⟩))||(!a))||b)||e)=false→
 TL (0:Nat) f fun (s:Nat) H n2=>T2 x0 s H n2 K))))
theorem b5g (x0) {H K} (h:a7W x0 H K):a5Q x0 H K:=by
 refine Ct.of fun w0 w ps0 H0 R E I hR=>c8f ?_
 unfold a7W at h
 unfold d1L
 refine a7 (G5 _ _ _ _ _) ?_
 simp only [q9]
 refine G6 (D:=fun am z=>∃(d:Bool) (q:Hp),am=(gv (decide (x0=⟨#[]⟩)) false (vB d))∧(Inv w0 ps0 H0 q [] z)∧(∀i,i < w.heap.size→¬inF [] i→z.heap[i]? = w.heap[i]?)∧Hle H q∧(TG (((decide (x0=⟨#[]⟩))||(!d))=false) (a3P x0 q) false q (fun (m:Bool) (o:Hp)=>
 TG ((((decide (x0=⟨#[]⟩))||(!d))||m)=false) (a2i x0 o) false o (fun (p:Bool) (f:Hp)=>
 (((((decide (x0=⟨#[]⟩))||(!d))||m)||p)=true→
 K false f)∧
 (((((decide (x0=⟨#[]⟩))||(!d))||m)||p)=false→
 TL (0:Nat) f fun (s:Nat) H n2=>T2 x0 s H n2 K))))) (fun t=>?_) (fun t=>?_) ?_
 ·replace h:=h.1 t
  have c:=t
  simp only [k7 c]
  refine g6 Tryz.call160 h I ?_
  rintro _ q _ z ad an ao ⟨d,rfl,rfl,h⟩
  exact ⟨d,q,by rfl,ad,ao,an,h⟩
 ·exact ⟨false,H,by rw [R9 t],I,fun _ _ _=>rfl,Hle.refl _,h.2 t⟩
 ·clear h
  rintro am z ⟨d,q,rfl,ad,ao,an,h⟩
  refine a7 (Pu.g fun c=>by simp only [k7 c];with_reducible exact (K5 _)) ?_
  refine a7 (B5 _ _) ?_
  simp only [q9]
  refine G6 (D:=fun ap aa=>∃(m:Bool) (o:Hp),ap=(gv ((decide (x0=⟨#[]⟩))||(!d)) false (vB m))∧(Inv w0 ps0 H0 o [] aa)∧(∀i,i < z.heap.size→¬inF [] i→aa.heap[i]? = z.heap[i]?)∧Hle q o∧(TG ((((decide (x0=⟨#[]⟩))||(!d))||m)=false) (a2i x0 o) false o (fun (p:Bool) (f:Hp)=>
 (((((decide (x0=⟨#[]⟩))||(!d))||m)||p)=true→
 K false f)∧
 (((((decide (x0=⟨#[]⟩))||(!d))||m)||p)=false→
 TL (0:Nat) f fun (s:Nat) H n2=>T2 x0 s H n2 K)))) (fun u=>?_) (fun u=>?_) ?_
  ·replace h:=h.1 u
   have c:=u
   simp only [k7 c]
   refine g6 Tryz.call156 h ad ?_
   rintro _ o _ aa ae aq ar ⟨m,rfl,rfl,h⟩
   exact ⟨m,o,by rfl,ae,ar,aq,h⟩
  ·exact ⟨false,q,by rw [R9 u],ad,fun _ _ _=>rfl,Hle.refl _,h.2 u⟩
  ·clear h
   rintro ap aa ⟨m,o,rfl,ae,ar,aq,h⟩
   refine a7 (B5 _ _) ?_
   simp only [q9]
   refine G6 (D:=fun au af=>∃(p:Bool) (f:Hp),au=(gv (((decide (x0=⟨#[]⟩))||(!d))||m) false (vB p))∧(Inv w0 ps0 H0 f [] af)∧(∀i,i < aa.heap.size→¬inF [] i→af.heap[i]? = aa.heap[i]?)∧Hle o f∧((((((decide (x0=⟨#[]⟩))||(!d))||m)||p)=true→
 K false f)∧
 (((((decide (x0=⟨#[]⟩))||(!d))||m)||p)=false→
 TL (0:Nat) f fun (s:Nat) H n2=>T2 x0 s H n2 K))) (fun v=>?_) (fun v=>?_) ?_
   ·replace h:=h.1 v
    have c:=v
    simp only [k7 c]
    refine g6 Tryz.call155 h ae ?_
    rintro _ f _ af ag av aw ⟨p,rfl,rfl,h⟩
    exact ⟨p,f,by rfl,ag,aw,av,h⟩
   ·exact ⟨false,o,by rw [R9 v],ae,fun _ _ _=>rfl,Hle.refl _,h.2 v⟩
   ·clear h
    rintro au af ⟨p,f,rfl,ag,aw,av,h⟩
    refine a7 (B5 _ _) ?_
    refine m0 h (fun _ h=>?_) (fun _ h=>?_)
    ·exact hR _ f _ _ ag ⟨false,rfl,rfl,h⟩
    ·have hj1:∀H w (_:Inv w0 ps0 H0 H [] w) (_:a6p H K),b6X w R E:=by
      intro H w I h
      unfold b6X
      intro _
      unfold a6p at h
      exact hR _ H _ _ I ⟨true,rfl,rfl,h⟩
     refine r9 fun j1 hx1=>?_
     refine b4r Tryz.underlying9 x0 ag fun ax bk be bl=>?_
     obtain ⟨aj,ac,bf,bg⟩:=h
     refine B0 (J:=fun n l w=>∃(s:Nat) (H:Hp),n=ac s∧l=[]∧Inv w0 ps0 H0 H [itf ax x0 s] w∧aj s H) ⟨_,0,f,rfl,rfl,be,bf⟩ ?_
     rintro bm bn w next2 ⟨j,H,rfl,bh,I,bi⟩ hn2
     clear bh
     obtain ⟨n2,hm2,h⟩:∃n2:Nat→Hp→Prop,(∀s' H',n2 s' H'→aj s' H'∧ac s' < ac j)∧T2 x0 j H n2 K:=⟨_,fun _ _ h=>h,bg j H (fun s' H'=>aj s' H'∧ac s' < ac j) bi (fun _ _ a b=>⟨a,b⟩)⟩
     unfold c1A
     unfold T2 at h
     refine b5P I (fun ak bo bj bp=>?_) (fun ak=>?_)
     ·replace h:=h.1 ak
      refine a7 (g7 _ _ (vB true) rfl) ?_
      refine a3o (fun e=>?_) (fun e=>by cases e)
      refine a7 (g7 _ _ (vi ((j:Nat):Int)) rfl) (a7 (g7 _ _ (Value.int .i32 ((Utf8.decode x0 j).1:Int)) rfl) ?_)
      refine g6 Tryz.call154 h bj ?_
      rintro _ ay _ az ba _ _ ⟨al,rfl,rfl,h⟩
      refine a7 (K5 _) ?_
      simp only [q9]
      refine a7 (Pu.g fun c=>by simp only [k7 c];with_reducible exact pEq) ?_
      simp only [a2U,a9Y]
      refine b8x (Q7 _ _ _) ?_
      refine G6 (D:=fun bb ah=>∃(ab:Int) (r:Hp),bb=(gv (!(!al)&&(decide (((j:Nat):Int)=0))) true (vi ab))∧(Inv w0 ps0 H0 r [itf ax x0 (j+(Utf8.decode x0 j).2)] ah)∧(∀i,i < az.heap.size→¬inF [] i→ah.heap[i]? = az.heap[i]?)∧Hle ay r∧((((!al)||((decide (((j:Nat):Int)=0))&&(!decide (ab=3))))=true→
 K false r)∧
 (((!al)||((decide (((j:Nat):Int)=0))&&(!decide (ab=3))))=false→
 n2 (j+(Utf8.decode x0 j).2) r))) (fun y=>?_) (fun y=>?_) ?_
      ·replace h:=h.1 y
       obtain ⟨c,k⟩:=X1 y
       simp only [k7 y]
       refine g6 Tryz.call132 h ba ?_
       rintro _ r _ ah ai bc bd ⟨ab,rfl,rfl,h⟩
       exact ⟨ab,r,by rfl,ai,bd,bc,h⟩
      ·exact ⟨0,ay,by rw [R9 y],ba,fun _ _ _=>rfl,Hle.refl _,h.2 y⟩
      ·clear h
       rintro bb ah ⟨ab,r,rfl,ai,bd,bc,h⟩
       refine a7 (Pu.e (Q7 _ _ _) (Pu.g fun hb=>by obtain ⟨c,k⟩:=X1 hb;simp only [k7 hb];with_reducible exact pNe)) ?_
       refine a7 (Pu.g fun c=>by simp only [k7 c,a7b c];with_reducible exact (u4 _ _)) ?_
       refine a7 (B5 _ _) ?_
       refine m0 h (fun _ h=>?_) (fun _ h=>?_)
       ·exact hR _ r _ _ ai.drop ⟨false,rfl,rfl,h⟩
       ·exact hn2 _ _ _ (hm2 _ _ h).2 ⟨(j+(Utf8.decode x0 j).2),r,rfl,rfl,ai,(hm2 _ _ h).1⟩
     ·replace h:=h.2 ak
      refine a7 (g7 _ _ (vB false) rfl) ?_
      refine a3o (fun e=>by cases e) (fun e=>?_)
      exact hx1 _ _ (hj1 H _ I.drop h)
def a6N (x0:p6) (H:Hp) (K:Int→Hp→Prop):Prop:=
 a7S x0 H (fun a b=>
 K a.fe b)
theorem b3x (x0) {H K} (h:a6N x0 H K):a6K x0 H K:=by
 refine Ct.of fun w0 w ps0 H0 R E I hR=>c9P ?_
 unfold a6N at h
 unfold F12
 refine P2 I (cs:=(u2 x0)) rfl fun e f a g=>?_
 refine g5 (lW Tryz.isAgg26 Tryz.sizeOf26 rfl a) ?_
 refine g6 Tryz.call32 h a ?_
 rintro _ c _ i b _ _ ⟨d,j,rfl,rfl,h⟩
 refine a7 (o5 _) (a7 a6j (g5 (l1 Tryz.isAgg29 b rfl) ?_))
 exact hR _ c _ _ b.drop.drop ⟨d.fe,rfl,rfl,h⟩
def a6O (x0:ByteArray) (H:Hp) (K:d6→b7→Int→Hp→Prop):Prop:=
 L2 x0 H (fun a b c d=>
 K a b c d)
theorem b3y (x0) {H K} (h:a6O x0 H K):a6L x0 H K:=by
 refine Ct.of fun w0 w ps0 H0 R E I hR=>c9Q ?_
 unfold a6O at h
 unfold F13
 refine m9 I Tryz.zeroValue40 (cs:=[(vi 0),(vi 0),(eS),(nS)]) rfl fun k l e m=>?_
 refine m9 e Tryz.zeroValue28 (cs:=[(vi 0),(vi 0)]) rfl fun n p f q=>?_
 refine g6 Tryz.call33 h f ?_
 rintro _ g _ r i _ _ ⟨a,b,d,rfl,rfl,h⟩
 refine a7 (g7 _ _ _ rfl) (a7 (g7 _ _ _ rfl) (a7 (g7 _ _ (vi d) rfl) ?_))
 refine f8 (i.bring 1) Tryz.sizeOf40 (vs:=(d7 a)) (cs':=(d7 a)) rfl rfl (nb rfl) rfl rfl fun s j t=>?_
 refine f8 (j.bring 1) Tryz.sizeOf28 (vs:=(b9 b)) (cs':=(b9 b)) rfl rfl (nb rfl) rfl rfl fun u c v=>?_
 refine o4 Tryz.isAgg40 Tryz.sizeOf40 rfl ((c.bring 1).at1 (o:=0) (vs:=(d7 a)) (nb rfl) rfl) ?_
 refine o4 Tryz.isAgg28 Tryz.sizeOf28 rfl (c.at1 (o:=0) (vs:=(b9 b)) (nb rfl) rfl) ?_
 exact hR _ g _ _ c.drop.drop ⟨a,b,d,rfl,rfl,h⟩
def a6P (x0:ByteArray) (H:Hp) (K:c8→b7→Int→Hp→Prop):Prop:=
 L3 x0 H (fun a b c d=>
 K a b c d)
theorem b3z (x0) {H K} (h:a6P x0 H K):a2v x0 H K:=by
 refine Ct.of fun w0 w ps0 H0 R E I hR=>c9T ?_
 unfold a6P at h
 unfold F16
 refine m9 I Tryz.zeroValue49 (cs:=[(vi 0),(vi 0),(nS),(nS)]) rfl fun k l e m=>?_
 refine m9 e Tryz.zeroValue28 (cs:=[(vi 0),(vi 0)]) rfl fun n p f q=>?_
 refine g6 Tryz.call39 h f ?_
 rintro _ g _ r i _ _ ⟨a,b,d,rfl,rfl,h⟩
 refine a7 (g7 _ _ _ rfl) (a7 (g7 _ _ _ rfl) (a7 (g7 _ _ (vi d) rfl) ?_))
 refine f8 (i.bring 1) Tryz.sizeOf49 (vs:=(f7 a)) (cs':=(f7 a)) rfl rfl (nb rfl) rfl rfl fun s j t=>?_
 refine f8 (j.bring 1) Tryz.sizeOf28 (vs:=(b9 b)) (cs':=(b9 b)) rfl rfl (nb rfl) rfl rfl fun u c v=>?_
 refine o4 Tryz.isAgg49 Tryz.sizeOf49 rfl ((c.bring 1).at1 (o:=0) (vs:=(f7 a)) (nb rfl) rfl) ?_
 refine o4 Tryz.isAgg28 Tryz.sizeOf28 rfl (c.at1 (o:=0) (vs:=(b9 b)) (nb rfl) rfl) ?_
 exact hR _ g _ _ c.drop.drop ⟨a,b,d,rfl,rfl,h⟩
def a1g (a0S:Int) (a:b7) (c:b8) (b:c8) (d:b7) (e:c8) (H:Hp) (K:c8→b7→Int→Hp→Prop):Prop:=
 (¬(a0S=0)→
 K (c8.mk 0 0 (Sl.mk none 0 0) (Sl.mk none 0 0)) a a0S H)∧
 (a0S=0→
 K b (b7.mk 0 0) 0 H)
def a7n (x0:ByteArray) (H:Hp) (K:c8→b7→Int→Hp→Prop):Prop:=
 a1q x0 H (fun g i a e=>
 (¬(a=0)→
 K (c8.mk 0 0 (Sl.mk none 0 0) (Sl.mk none 0 0)) i a e)∧
 (a=0→
 G1 (b8.mk g 0 0 (b7.mk 0 0)) 1 e (fun b j k=>
 T1 j k (fun l c d f=>
 (c=0→
 a4n b f (fun m n=>
 Y6 d m n (fun o p q=>
 a1g p o d b (b7.mk 0 0) (c8.mk 0 0 (Sl.mk none 0 0) (Sl.mk none 0 0)) q K)))∧
 (¬(c=0)→
 a1g c l d b (b7.mk 0 0) (c8.mk 0 0 (Sl.mk none 0 0) (Sl.mk none 0 0)) f K)))))
theorem b1n (x0) {H K} (h:a7n x0 H K):a0G x0 H K:=by
 refine Ct.of fun w0 w ps0 H0 R E I hR=>c9U ?_
 unfold a7n at h
 unfold F17
 refine m9 I Tryz.zeroValue49 (cs:=[(vi 0),(vi 0),(nS),(nS)]) rfl fun r az ac ba=>?_
 refine m9 ac Tryz.zeroValue28 (cs:=[(vi 0),(vi 0)]) rfl fun s bb ad bc=>?_
 refine g6 Tryz.call22 h ad ?_
 rintro _ ae _ bd af _ _ ⟨ag,e,t,rfl,rfl,h⟩
 refine a7 (g7 _ _ _ rfl) (a7 (g7 _ _ _ rfl) (a7 (g7 _ _ (vi t) rfl) ?_))
 refine m9 af Tryz.zeroValue28 (cs:=[(vi 0),(vi 0)]) rfl fun u be ah bf=>?_
 refine f8 ah Tryz.sizeOf28 (vs:=(b9 e)) (cs':=(b9 e)) rfl rfl (nb rfl) rfl rfl fun bg v bh=>?_
 refine a7 pNe ?_
 refine Z9 h (fun _ h=>?_) (fun _ h=>?_)
 ·refine P3 v fun bi g=>?_
  refine o7 (a8s) ?_
  refine t8 (lW Tryz.isAgg28 Tryz.sizeOf28 rfl g) ?_
  refine f8 (g.bring 2) Tryz.sizeOf49 (vs:=[(vi 0),(vi 0),(nS),(nS)]) (cs':=[(vi 0),(vi 0),(nS),(nS)]) rfl rfl (nb rfl) rfl rfl fun bj ai aj=>?_
  refine ⟨(aj _ (Inv.b6v (g.bring 2))),?_⟩
  refine f8 (ai.bring 2) Tryz.sizeOf28 (vs:=(b9 e)) (cs':=(b9 e)) rfl rfl (nb rfl) rfl rfl fun bk i bl=>?_
  refine o4 Tryz.isAgg49 Tryz.sizeOf49 rfl ((i.bring 1).at1 (o:=0) (vs:=[(vi 0),(vi 0),(nS),(nS)]) (nb rfl) rfl) ?_
  refine o4 Tryz.isAgg28 Tryz.sizeOf28 rfl (i.at1 (o:=0) (vs:=(b9 e)) (nb rfl) rfl) ?_
  exact hR _ ae _ _ i.drop.drop.drop ⟨(c8.mk 0 0 (Sl.mk none 0 0) (Sl.mk none 0 0)),e,t,rfl,rfl,h⟩
 ·refine a7 (b5j _ _ _) ?_
  refine P2 v (cs:=[(vs ag),(vi 0),(vi 0),(vi 0),(vi 0)]) rfl fun f bm ak bn=>?_
  refine g6 Tryz.call43 (h f) ak ?_
  rintro _ _ _ bo al _ _ ⟨b,bp,rfl,rfl,h⟩
  refine m9 al Tryz.zeroValue49 (cs:=[(vi 0),(vi 0),(nS),(nS)]) rfl fun y bq am br=>?_
  refine f8 am Tryz.sizeOf49 (vs:=(f7 b)) (cs':=(f7 b)) rfl rfl (nb rfl) rfl rfl fun bs an bt=>?_
  refine g6 Tryz.call27 (h f) (an.bring 1) ?_
  rintro _ ao _ bu ap _ _ ⟨j,z,aa,rfl,rfl,h⟩
  refine a7 (g7 _ _ _ rfl) (a7 (g7 _ _ (vi z) rfl) ?_)
  refine f8 (ap.bring 2) Tryz.sizeOf28 (vs:=(b9 j)) (cs':=(b9 j)) rfl rfl (nb rfl) rfl rfl fun bv k bw=>?_
  have hj1:∀(a0S:Int) (d:b7) H w (_:Inv w0 ps0 H0 H [bx u 28 (b9 d),bx f 66 (i7 aa),bx y 49 (f7 b),bx s 28 [(vi (b7.mk 0 0).o8),(vi (b7.mk 0 0).s6)],bx r 49 [(vi (c8.mk 0 0 (Sl.mk none 0 0) (Sl.mk none 0 0)).d8),(vi (c8.mk 0 0 (Sl.mk none 0 0) (Sl.mk none 0 0)).fOp),(Value.slice (c8.mk 0 0 (Sl.mk none 0 0) (Sl.mk none 0 0)).o0.a (c8.mk 0 0 (Sl.mk none 0 0) (Sl.mk none 0 0)).o0.n (c8.mk 0 0 (Sl.mk none 0 0) (Sl.mk none 0 0)).o0.c),(Value.slice (c8.mk 0 0 (Sl.mk none 0 0) (Sl.mk none 0 0)).t7.a (c8.mk 0 0 (Sl.mk none 0 0) (Sl.mk none 0 0)).t7.n (c8.mk 0 0 (Sl.mk none 0 0) (Sl.mk none 0 0)).t7.c)]] w) (_:a1g a0S d aa b (b7.mk 0 0) (c8.mk 0 0 (Sl.mk none 0 0) (Sl.mk none 0 0)) H K),b9b (Value.pointer (some ⟨r,0,none⟩)) (Value.pointer (some ⟨s,0,none⟩)) (Value.pointer (some ⟨u,0,none⟩)) (vi a0S) (Value.pointer (some ⟨y,0,none⟩)) w R E:=by
   intro a0S d H w I h
   unfold b9b
   intro _
   unfold a1g at h
   refine a7 pNe ?_
   refine Z9 h (fun _ h=>?_) (fun _ h=>?_)
   ·refine P3 I fun bz l=>?_
    refine o7 (a8s) ?_
    refine t8 (lW Tryz.isAgg28 Tryz.sizeOf28 rfl l) ?_
    refine f8 (l.bring 4) Tryz.sizeOf49 (vs:=[(vi 0),(vi 0),(nS),(nS)]) (cs':=[(vi 0),(vi 0),(nS),(nS)]) rfl rfl (nb rfl) rfl rfl fun ca aq ar=>?_
    refine ⟨(ar _ (Inv.b6v (l.bring 4))),?_⟩
    refine f8 (aq.bring 4) Tryz.sizeOf28 (vs:=(b9 d)) (cs':=(b9 d)) rfl rfl (nb rfl) rfl rfl fun cb m cc=>?_
    refine o4 Tryz.isAgg49 Tryz.sizeOf49 rfl ((m.bring 1).at1 (o:=0) (vs:=[(vi 0),(vi 0),(nS),(nS)]) (nb rfl) rfl) ?_
    refine o4 Tryz.isAgg28 Tryz.sizeOf28 rfl (m.at1 (o:=0) (vs:=(b9 d)) (nb rfl) rfl) ?_
    exact hR _ H _ _ m.drop.drop.drop.drop.drop ⟨(c8.mk 0 0 (Sl.mk none 0 0) (Sl.mk none 0 0)),d,a0S,rfl,rfl,h⟩
   ·refine g5 (lW Tryz.isAgg49 Tryz.sizeOf49 rfl (I.bring 2)) (a7 (b0a) ?_)
    refine f8 (I.bring 4) Tryz.sizeOf49 (vs:=(f7 b)) (cs':=(f7 b)) rfl rfl (nb rfl) rfl rfl fun cd au ce=>?_
    refine f8 (au.bring 4) Tryz.sizeOf28 (vs:=[(vi 0),(vi 0)]) (cs':=[(vi 0),(vi 0)]) rfl rfl (nb rfl) rfl rfl fun cf p cg=>?_
    refine o4 Tryz.isAgg49 Tryz.sizeOf49 rfl ((p.bring 1).at1 (o:=0) (vs:=(f7 b)) (nb rfl) rfl) ?_
    refine o4 Tryz.isAgg28 Tryz.sizeOf28 rfl (p.at1 (o:=0) (vs:=[(vi 0),(vi 0)]) (nb rfl) rfl) ?_
    exact hR _ H _ _ p.drop.drop.drop.drop.drop ⟨b,(b7.mk 0 0),0,rfl,rfl,h⟩
  refine r9 fun j1 hx1=>?_
  refine a7 pEq ?_
  refine l7 h (fun _ h=>?_) (fun _ h=>?_)
  ·refine g5 (lW Tryz.isAgg49 Tryz.sizeOf49 rfl (k.bring 2)) ?_
   refine g6 Tryz.call44 h k ?_
   rintro _ _ _ ch av _ _ ⟨ci,rfl,rfl,h⟩
   refine g6 Tryz.call28 (h f) (av.bring 1) ?_
   rintro _ aw _ cj ax _ _ ⟨q,ab,rfl,rfl,h⟩
   refine a7 (g7 _ _ _ rfl) (a7 (g7 _ _ (vi ab) rfl) ?_)
   refine f8 (ax.bring 1) Tryz.sizeOf28 (vs:=(b9 q)) (cs':=(b9 q)) rfl rfl (nb rfl) rfl rfl fun ck ay cl=>?_
   exact hx1 _ _ (hj1 ab q aw _ (((((ay.bring 4).bring 4).bring 4).bring 4).bring 4) h)
  ·exact hx1 _ _ (hj1 z j ao _ (((((k.bring 4).bring 4).bring 4).bring 4).bring 4) h)
def a5w (x0:ByteArray) (H:Hp) (K:Bool→Hp→Prop):Prop:=
 a3U H (fun k l=>
 ((!k)=true→
 K false l)∧
 ((!k)=false→
 a6L x0 l (fun b d j s=>
 a4m x0 s (fun t e a m=>
 TG ((!(((!decide (j=a))||(!decide (d.o8=e.o8∧d.s6=e.s6)))||((!decide (a=0))&&((!decide (b.d8=0))||(decide (0 < (b.B1.n:Int))))))&&(decide (a=0)))=true) (W0 b t m) false m (fun (o:Bool) (p:Hp)=>
 (((((!decide (j=a))||(!decide (d.o8=e.o8∧d.s6=e.s6)))||((!decide (a=0))&&((!decide (b.d8=0))||(decide (0 < (b.B1.n:Int))))))||((decide (a=0))&&(!o)))=true→
 K false p)∧
 (((((!decide (j=a))||(!decide (d.o8=e.o8∧d.s6=e.s6)))||((!decide (a=0))&&((!decide (b.d8=0))||(decide (0 < (b.B1.n:Int))))))||((decide (a=0))&&(!o)))=false→
 a2v x0 p (fun c g q u=>
 a0G x0 u (fun v i f r=>
 TG ((((decide (q=f))&&(decide (g.o8=i.o8∧g.s6=i.s6))) && !((((!decide (f=0))&&(decide (c.d8=0)))&&(decide ((c.t7.n:Int)=0)))&&(decide ((c.o0.n:Int)=0)))&&(decide (f=0)))=true) (P9 c v r) false r (fun (y:Bool) (z:Hp)=>
 K (((decide (q=f))&&(decide (g.o8=i.o8∧g.s6=i.s6)))&&(((((!decide (f=0))&&(decide (c.d8=0)))&&(decide ((c.t7.n:Int)=0)))&&(decide ((c.o0.n:Int)=0)))||((decide (f=0))&&y))) z)))))))))
theorem a8Y (x0) {H K} (h:a5w x0 H K):a1Z x0 H K:=by
 refine Ct.of fun w0 w ps0 H0 R E I hR=>d3J ?_
 unfold a5w at h
 unfold F6
 refine g6 Tryz.call8 h I ?_
 rintro _ ba _ bu ak _ _ ⟨bv,rfl,rfl,h⟩
 refine a7 (K5 _) ?_
 refine m0 h (fun _ h=>?_) (fun _ h=>?_)
 ·exact hR _ ba _ _ ak ⟨false,rfl,rfl,h⟩
 ·refine g6 Tryz.call13 h ak ?_
  rintro _ _ _ bw bb _ _ ⟨p,r,ae,rfl,rfl,h⟩
  refine a7 (g7 _ _ _ rfl) (a7 (g7 _ _ _ rfl) (a7 (g7 _ _ (vi ae) rfl) ?_))
  refine m9 bb Tryz.zeroValue40 (cs:=[(vi 0),(vi 0),(eS),(nS)]) rfl fun al bz bc ca=>?_
  refine m9 bc Tryz.zeroValue28 (cs:=[(vi 0),(vi 0)]) rfl fun am cb bd cc=>?_
  refine f8 (bd.bring 1) Tryz.sizeOf40 (vs:=(d7 p)) (cs':=(d7 p)) rfl rfl (nb rfl) rfl rfl fun cd be ce=>?_
  refine f8 (be.bring 1) Tryz.sizeOf28 (vs:=(b9 r)) (cs':=(b9 r)) rfl rfl (nb rfl) rfl rfl fun cf bf cg=>?_
  refine g6 Tryz.call14 h bf ?_
  rintro _ an _ ch bg _ _ ⟨af,s,q,rfl,rfl,h⟩
  refine a7 (g7 _ _ _ rfl) (a7 (g7 _ _ _ rfl) (a7 (g7 _ _ (vi q) rfl) ?_))
  refine m9 bg Tryz.zeroValue40 (cs:=[(vi 0),(vi 0),(eS),(nS)]) rfl fun ao ci bh cj=>?_
  refine m9 bh Tryz.zeroValue28 (cs:=[(vi 0),(vi 0)]) rfl fun ap ck bi cl=>?_
  refine f8 (bi.bring 1) Tryz.sizeOf40 (vs:=(d7 af)) (cs':=(d7 af)) rfl rfl (nb rfl) rfl rfl fun cm bj cn=>?_
  refine f8 (bj.bring 1) Tryz.sizeOf28 (vs:=(b9 s)) (cs':=(b9 s)) rfl rfl (nb rfl) rfl rfl fun aq j co=>?_
  refine a7 pNe ?_
  refine g5 (Ld.g fun a=>by exact (lW Tryz.isAgg28 Tryz.sizeOf28 rfl (j.bring 2))) ?_
  refine g5 (Ld.g fun a=>by exact (lW Tryz.isAgg28 Tryz.sizeOf28 rfl j)) ?_
  refine a7 (Pu.g fun a=>by simp only [k7 a];with_reducible exact (c5l _ _ _ _ _ _)) ?_
  refine a7 (B5 _ _) ?_
  simp only [q9]
  refine a7 (Pu.g fun a=>by simp only [k7 a];with_reducible exact pNe) ?_
  simp only [a2U,a9Y]
  refine a7 (Pu.e (Q7 _ _ _) (Pu.g fun hb=>by obtain ⟨a,b⟩:=X1 hb;with_reducible exact a1p)) ?_
  refine g5 (Ld.e (Q7 _ _ _) (Ld.g fun hb=>by obtain ⟨a,b⟩:=X1 hb;simp only [k7 hb];exact (l1 Tryz.isAgg3 (j.bring 3) rfl))) ?_
  refine a7 (Pu.e (Q7 _ _ _) (Pu.g fun hb=>by obtain ⟨a,b⟩:=X1 hb;simp only [k7 hb];with_reducible exact pNe)) ?_
  simp only [a2U]
  refine a7 (Pu.e (a3q _ _ _) (Pu.g fun hb=>by obtain ⟨d,c⟩:=a3p hb;obtain ⟨a,b⟩:=X1 d;with_reducible exact a0M)) ?_
  refine g5 (Ld.e (a3q _ _ _) (Ld.g fun hb=>by obtain ⟨d,c⟩:=a3p hb;obtain ⟨a,b⟩:=X1 d;simp only [k7 hb];exact (l1 Tryz.isAgg38 (j.bring 3) rfl))) ?_
  refine a7 (Pu.e (a3q _ _ _) (Pu.g fun hb=>by obtain ⟨d,c⟩:=a3p hb;obtain ⟨a,b⟩:=X1 d;simp only [k7 hb];with_reducible exact (T0 _ _ _))) ?_
  refine a7 (Pu.e (a3q _ _ _) (Pu.g fun hb=>by obtain ⟨d,c⟩:=a3p hb;obtain ⟨a,b⟩:=X1 d;simp only [k7 hb];with_reducible exact pGt)) ?_
  refine a7 (Pu.e (Q7 _ _ _) (Pu.g fun hb=>by obtain ⟨a,b⟩:=X1 hb;simp only [k7 hb,b3K hb];with_reducible exact (B5 _ _))) ?_
  refine a7 (Pu.g fun a=>by simp only [k7 a,a7b a];with_reducible exact (u4 _ _)) ?_
  refine a7 (B5 _ _) ?_
  simp only [q9]
  refine a7 (Pu.g fun a=>by simp only [k7 a];with_reducible exact pEq) ?_
  simp only [a2U]
  refine g5 (Ld.e (Q7 _ _ _) (Ld.g fun hb=>by obtain ⟨a,b⟩:=X1 hb;exact (lW Tryz.isAgg40 Tryz.sizeOf40 rfl (j.bring 3)))) ?_
  refine g5 (Ld.e (Q7 _ _ _) (Ld.g fun hb=>by obtain ⟨a,b⟩:=X1 hb;exact (lW Tryz.isAgg40 Tryz.sizeOf40 rfl (j.bring 1)))) ?_
  refine b8x (Q7 _ _ _) ?_
  refine G6 (D:=fun ar ag=>∃(ab:Bool) (u:Hp),ar=(gv (!(((!decide (ae=q))||(!decide (r.o8=s.o8∧r.s6=s.s6)))||((!decide (q=0))&&((!decide (p.d8=0))||(decide (0 < (p.B1.n:Int))))))&&(decide (q=0))) true (vB ab))∧(Inv w0 ps0 H0 u [bx ap 28 (b9 s),bx ao 40 (d7 af),bx am 28 (b9 r),bx al 40 (d7 p)] ag)∧(∀i,i < aq.heap.size→¬inF [] i→ag.heap[i]? = aq.heap[i]?)∧Hle an u∧((((((!decide (ae=q))||(!decide (r.o8=s.o8∧r.s6=s.s6)))||((!decide (q=0))&&((!decide (p.d8=0))||(decide (0 < (p.B1.n:Int))))))||((decide (q=0))&&(!ab)))=true→
 K false u)∧
 (((((!decide (ae=q))||(!decide (r.o8=s.o8∧r.s6=s.s6)))||((!decide (q=0))&&((!decide (p.d8=0))||(decide (0 < (p.B1.n:Int))))))||((decide (q=0))&&(!ab)))=false→
 a2v x0 u (fun (k:c8) (m:b7) (y:Int) (bk:Hp)=>
 a0G x0 bk (fun (ac:c8) (o:b7) (l:Int) (ad:Hp)=>
 TG ((((decide (y=l))&&(decide (m.o8=o.o8∧m.s6=o.s6))) && !((((!decide (l=0))&&(decide (k.d8=0)))&&(decide ((k.t7.n:Int)=0)))&&(decide ((k.o0.n:Int)=0)))&&(decide (l=0)))=true) (P9 k ac ad) false ad (fun (v:Bool) (t:Hp)=>
 K (((decide (y=l))&&(decide (m.o8=o.o8∧m.s6=o.s6)))&&(((((!decide (l=0))&&(decide (k.d8=0)))&&(decide ((k.t7.n:Int)=0)))&&(decide ((k.o0.n:Int)=0)))||((decide (l=0))&&v))) t)))))) (fun z=>?_) (fun z=>?_) ?_
  ·replace h:=h.1 z
   obtain ⟨a,b⟩:=X1 z
   simp only [k7 z]
   refine g6 Tryz.call15 h j ?_
   rintro _ u _ ag ah au av ⟨ab,rfl,rfl,h⟩
   exact ⟨ab,u,by rfl,ah,av,au,h⟩
  ·exact ⟨false,an,by rw [R9 z],j,fun _ _ _=>rfl,Hle.refl _,h.2 z⟩
  ·clear h
   rintro ar ag ⟨ab,u,rfl,ah,av,au,h⟩
   refine a7 (Pu.e (Q7 _ _ _) (Pu.g fun hb=>by obtain ⟨a,b⟩:=X1 hb;simp only [k7 hb];with_reducible exact (K5 _))) ?_
   refine a7 (Pu.g fun a=>by simp only [k7 a,a7b a];with_reducible exact (u4 _ _)) ?_
   refine a7 (B5 _ _) ?_
   refine m0 h (fun _ h=>?_) (fun _ h=>?_)
   ·exact hR _ u _ _ ah.drop.drop.drop.drop ⟨false,rfl,rfl,h⟩
   ·refine g6 Tryz.call16 h ah ?_
    rintro _ _ _ cp bl _ _ ⟨k,m,y,rfl,rfl,h⟩
    refine a7 (g7 _ _ _ rfl) (a7 (g7 _ _ _ rfl) (a7 (g7 _ _ (vi y) rfl) ?_))
    refine m9 bl Tryz.zeroValue49 (cs:=[(vi 0),(vi 0),(nS),(nS)]) rfl fun bm cq bn cr=>?_
    refine f8 bn Tryz.sizeOf49 (vs:=(f7 k)) (cs':=(f7 k)) rfl rfl (nb rfl) rfl rfl fun ct bo cu=>?_
    refine f8 (bo.bring 3) Tryz.sizeOf28 (vs:=(b9 m)) (cs':=(b9 m)) rfl rfl (nb rfl) rfl rfl fun cv bp cw=>?_
    refine g6 Tryz.call17 h bp ?_
    rintro _ ad _ cx bq _ _ ⟨ac,o,l,rfl,rfl,h⟩
    refine a7 (g7 _ _ _ rfl) (a7 (g7 _ _ _ rfl) (a7 (g7 _ _ (vi l) rfl) ?_))
    refine m9 bq Tryz.zeroValue49 (cs:=[(vi 0),(vi 0),(nS),(nS)]) rfl fun br cy bs cz=>?_
    refine f8 bs Tryz.sizeOf49 (vs:=(f7 ac)) (cs':=(f7 ac)) rfl rfl (nb rfl) rfl rfl fun da bt db=>?_
    refine f8 (bt.bring 3) Tryz.sizeOf28 (vs:=(b9 o)) (cs':=(b9 o)) rfl rfl (nb rfl) rfl rfl fun aw f dc=>?_
    refine a7 pEq ?_
    refine g5 (Ld.g fun a=>by exact (lW Tryz.isAgg28 Tryz.sizeOf28 rfl (f.bring 2))) ?_
    refine g5 (Ld.g fun a=>by exact (lW Tryz.isAgg28 Tryz.sizeOf28 rfl f)) ?_
    refine a7 (Pu.g fun a=>by simp only [k7 a];with_reducible exact (b8O _ _ _ _ _ _)) ?_
    refine a7 (u4 _ _) ?_
    simp only [q9]
    refine a7 (Pu.g fun a=>by simp only [k7 a];with_reducible exact pNe) ?_
    simp only [a2U]
    refine a7 (Pu.e (a1A _ _ _) (Pu.g fun hb=>by obtain ⟨a,b⟩:=a5o hb;with_reducible exact a6i)) ?_
    refine g5 (Ld.e (a1A _ _ _) (Ld.g fun hb=>by obtain ⟨a,b⟩:=a5o hb;simp only [k7 hb];exact (l1 Tryz.isAgg3 (f.bring 3) rfl))) ?_
    refine a7 (Pu.e (a1A _ _ _) (Pu.g fun hb=>by obtain ⟨a,b⟩:=a5o hb;simp only [k7 hb];with_reducible exact pEq)) ?_
    refine a7 (Pu.g fun a=>by simp only [k7 a,b3J a];with_reducible exact (u4 _ _)) ?_
    simp only [a2U]
    refine a7 (Pu.e (a1A _ _ _) (Pu.g fun hb=>by obtain ⟨a,b⟩:=a5o hb;with_reducible exact a0N)) ?_
    refine g5 (Ld.e (a1A _ _ _) (Ld.g fun hb=>by obtain ⟨a,b⟩:=a5o hb;simp only [k7 hb];exact (l1 Tryz.isAgg47 (f.bring 3) rfl))) ?_
    refine a7 (Pu.e (a1A _ _ _) (Pu.g fun hb=>by obtain ⟨a,b⟩:=a5o hb;simp only [k7 hb];with_reducible exact (a4c _ _ _))) ?_
    refine a7 (Pu.e (a1A _ _ _) (Pu.g fun hb=>by obtain ⟨a,b⟩:=a5o hb;simp only [k7 hb];with_reducible exact pEq)) ?_
    refine a7 (Pu.g fun a=>by simp only [k7 a,b3J a];with_reducible exact (u4 _ _)) ?_
    simp only [a2U]
    refine a7 (Pu.e (a1A _ _ _) (Pu.g fun hb=>by obtain ⟨a,b⟩:=a5o hb;with_reducible exact a0O)) ?_
    refine g5 (Ld.e (a1A _ _ _) (Ld.g fun hb=>by obtain ⟨a,b⟩:=a5o hb;simp only [k7 hb];exact (l1 Tryz.isAgg38 (f.bring 3) rfl))) ?_
    refine a7 (Pu.e (a1A _ _ _) (Pu.g fun hb=>by obtain ⟨a,b⟩:=a5o hb;simp only [k7 hb];with_reducible exact (T0 _ _ _))) ?_
    refine a7 (Pu.e (a1A _ _ _) (Pu.g fun hb=>by obtain ⟨a,b⟩:=a5o hb;simp only [k7 hb];with_reducible exact pEq)) ?_
    refine a7 (Pu.g fun a=>by simp only [k7 a,b3J a];with_reducible exact (u4 _ _)) ?_
    simp only [a2U,b8L]
    refine a7 (Pu.e (a3q _ _ _) (Pu.g fun hb=>by obtain ⟨a,b⟩:=a3p hb;simp only [k7 hb];with_reducible exact pEq)) ?_
    simp only [a2U]
    refine g5 (Ld.e (a1A _ _ _) (Ld.g fun hb=>by obtain ⟨d,c⟩:=a5o hb;obtain ⟨a,b⟩:=a3p d;exact (lW Tryz.isAgg49 Tryz.sizeOf49 rfl (f.bring 3)))) ?_
    refine g5 (Ld.e (a1A _ _ _) (Ld.g fun hb=>by obtain ⟨d,c⟩:=a5o hb;obtain ⟨a,b⟩:=a3p d;exact (lW Tryz.isAgg49 Tryz.sizeOf49 rfl (f.bring 1)))) ?_
    refine b8x (a1A _ _ _) ?_
    refine G6 (D:=fun ax ai=>∃(v:Bool) (t:Hp),ax=(gv (((decide (y=l))&&(decide (m.o8=o.o8∧m.s6=o.s6))) && !((((!decide (l=0))&&(decide (k.d8=0)))&&(decide ((k.t7.n:Int)=0)))&&(decide ((k.o0.n:Int)=0)))&&(decide (l=0))) true (vB v))∧(Inv w0 ps0 H0 t [bx ap 28 (b9 o),bx br 49 (f7 ac),bx am 28 (b9 m),bx bm 49 (f7 k),bx ao 40 (d7 af),bx al 40 (d7 p)] ai)∧(∀i,i < aw.heap.size→¬inF [] i→ai.heap[i]? = aw.heap[i]?)∧Hle ad t∧(K (((decide (y=l))&&(decide (m.o8=o.o8∧m.s6=o.s6)))&&(((((!decide (l=0))&&(decide (k.d8=0)))&&(decide ((k.t7.n:Int)=0)))&&(decide ((k.o0.n:Int)=0)))||((decide (l=0))&&v))) t)) (fun aa=>?_) (fun aa=>?_) ?_
    ·replace h:=h.1 aa
     obtain ⟨d,c⟩:=a5o aa
     obtain ⟨a,b⟩:=a3p d
     simp only [k7 aa]
     refine g6 Tryz.call18 h f ?_
     rintro _ t _ ai aj ay az ⟨v,rfl,rfl,h⟩
     exact ⟨v,t,by rfl,aj,az,ay,h⟩
    ·exact ⟨false,ad,by rw [R9 aa],f,fun _ _ _=>rfl,Hle.refl _,h.2 aa⟩
    ·clear h
     rintro ax ai ⟨v,t,rfl,aj,az,ay,h⟩
     refine a7 (Pu.e (a3q _ _ _) (Pu.g fun hb=>by obtain ⟨a,b⟩:=a3p hb;simp only [k7 hb,b3J hb];with_reducible exact (u4 _ _))) ?_
     refine a7 (Pu.g fun a=>by simp only [k7 a,b3K a];with_reducible exact (B5 _ _)) ?_
     refine a7 (u4 _ _) ?_
     exact hR _ t _ _ aj.drop.drop.drop.drop.drop.drop ⟨(((decide (y=l))&&(decide (m.o8=o.o8∧m.s6=o.s6)))&&(((((!decide (l=0))&&(decide (k.d8=0)))&&(decide ((k.t7.n:Int)=0)))&&(decide ((k.o0.n:Int)=0)))||((decide (l=0))&&v))),rfl,rfl,h⟩
def a3F (x0:a8) (H:Hp) (K:b6→Hp→Prop):Prop:=
 (0:Int)≤x0.fn∧(x0.fn:Int) < x0.fl.n∧∃a:b6,EltH H x0.fl x0.fn 5 (f9 a)∧
 K a H
theorem b0r (x0) {H K} (h:a3F x0 H K):z7 x0 H K:=by
 intro g0
 refine Ct.of fun w0 w ps0 H0 R E I hR=>d0n ?_
 unfold a3F at h
 unfold F51
 refine m9 I Tryz.zeroValue103 (cs:=[(vi 0),(eS),(vi 0),(vi 0),(vi 0)]) rfl fun j k e l=>?_
 refine P3 e fun m b=>?_
 refine o7 (o5 _) ?_
 refine o7 c0P ?_
 refine o7 (o5 _) ?_
 refine o7 a5G ?_
 refine t8 (l1 Tryz.isAgg61 (b.bring 1) rfl) ?_
 refine t8 (l1 Tryz.isAgg3 (b.bring 1) rfl) ?_
 obtain ⟨f,g,a,c,h⟩:=h
 obtain ⟨n,p,i,c⟩:=c
 refine o7 (b2J i _ _ _ _ f g) ?_
 refine t8 (ldA (vs:=(f9 a)) Tryz.isAgg103 Tryz.sizeOf103 rfl (b.atH c)) ?_
 refine f8 b Tryz.sizeOf103 (vs:=(f9 a)) (cs':=(f9 a)) rfl rfl (nb rfl) rfl rfl fun q d r=>?_
 refine o4 Tryz.isAgg103 Tryz.sizeOf103 rfl (d.at1 (o:=0) (vs:=(f9 a)) (nb rfl) rfl) ?_
 exact hR _ H _ _ d.drop ⟨a,rfl,rfl,h⟩
def a0i [PanQ] (a0j:(List j9)) (o9:a8) (H:Hp) (K:Sl→a8→Hp→Prop):Prop:=
 ∀(G4:Sl) (a:Hp),Hle H a→SlH a 6 y2 G4 a0j→G4.n≤G4.c→
 K G4 o9 a
def a0k [PanQ] (T4:Int) (y9:(List j9)) (o6:a8) (H:Hp) (n2:((List j9)×a8)→Hp→Prop) (K:Sl→a8→Hp→Prop):Prop:=
 v6 o6 ⟨#[125]⟩ H (fun b a c=>
 ((!b)=true→
 Q4 a c (fun e f=>
 D3 a (IntKind.wrap .i64 (T4+1)) e f (fun g=>
 Y4 a (IntKind.wrap .i64 (T4+1)) g (fun d i j=>
 (y9.length+([d]:List j9).length)*121≤140737488355328∧
 n2 ((y9++[d]),i) j))))∧
 ((!b)=false→
 a0i y9 a c K))
def a3k [PanQ] (x0:a8) (x1:Int) (H:Hp) (K:Sl→a8→Hp→Prop):Prop:=
 C7 x0 ⟨#[123]⟩ H (fun a b=>
 TL (([],a):(List j9)×a8) b fun (s:(List j9)×a8) H n2=>a0k x1 s.1 s.2 H n2 K)
theorem b0i [PanQ] (x0:a8) (x1:Int) {H:Hp} {K:Sl→a8→Hp→Prop} (h:a3k x0 x1 H K):W8 x0 x1 H K:=by
 intro g0
 refine Ct.ofE fun w0 w ps0 H0 R E I hR hE=>c7z ?_
 unfold a3k at h
 unfold d1f
 refine z8 hE Tryz.call103 (h g0) I ?_
 rintro _ o _ ao p _ _ ⟨q,rfl,rfl,h⟩
 have hj1:∀(a0j:(List j9)) (o9:a8) (G4:Sl) (Fs5j1:Frag) H w (_:RowL 56 6 y2 G4 a0j Fs5j1) (_:Inv w0 ps0 H0 H [bx g0 101 (d9 o9),Fs5j1] w) (_:a0i a0j o9 H K),b6C (vs G4) w R E:=by
  intro a0j o9 G4 Fs5j1 H w b0J I h
  unfold b6C
  intro _
  unfold a0i at h
  obtain ⟨i,r,t,u,v⟩:=Inv.freezeC (I.bring 1) b0J (by decide)
  replace h:=h G4 i t u v
  exact hR _ i _ _ r ⟨G4,o9,rfl,rfl,h⟩
 refine r9 fun j1 hx1=>?_
 obtain ⟨f,d,y,z⟩:=h
 refine B0 (J:=fun n l w=>∃(s:(List j9)×a8) (H:Hp) (a0l:Sl) (Fs5l2:Frag),n=d s∧l=(match s with | (y9,o6)=>[(vs a0l)])∧(match s with | (y9,o6)=>RowL 56 6 y2 a0l y9 Fs5l2)∧(match s with | (y9,o6)=>Inv w0 ps0 H0 H [bx g0 101 (d9 o6),Fs5l2] w)∧f s H) ⟨_,([],q),o,(Sl.mk none 0 0),[],rfl,rfl,(RowL.nil a8g a8h),(p.nil.bring 1),y⟩ ?_
 rintro ap aq w next2 ⟨⟨y9,o6⟩,H,a0l,Fs5l2,rfl,g,a3Y,I,aa⟩ hn2
 dsimp only at g I a3Y
 simp only [List.map_cons,List.map_nil,List.cons.injEq,and_true] at g
 have e5:=g
 simp only [e5]
 obtain ⟨n2,hm2,h⟩:∃n2:((List j9)×a8)→Hp→Prop,(∀s' H',n2 s' H'→f s' H'∧d s' < d (y9,o6))∧a0k x1 y9 o6 H n2 K:=⟨_,fun _ _ h=>h,z (y9,o6) H (fun s' H'=>f s' H'∧d s' < d (y9,o6)) aa (fun _ _ a b=>⟨a,b⟩)⟩
 unfold c1o
 unfold a0k at h
 refine g6 Tryz.call105 (h g0) I ?_
 rintro _ ab _ ar j _ _ ⟨au,ac,rfl,rfl,h⟩
 refine a7 (K5 _) ?_
 refine m0 h (fun _ h=>?_) (fun _ h=>?_)
 ·refine a7 pAd ?_
  refine g6 Tryz.call56 (h g0) j ?_
  rintro _ _ _ av ad _ _ ⟨aw,rfl,rfl,h⟩
  refine z8 hE Tryz.call55 (h g0) ad ?_
  rintro _ _ _ ax ae _ _ ⟨rfl,rfl,h⟩
  refine a7 pAd ?_
  refine z8 hE Tryz.call57 (h g0) ae ?_
  rintro _ af _ ay ag _ _ ⟨k,ah,rfl,rfl,h⟩
  refine V9 (e:=56) (c:=y2) (xs:=[k]) ag (c1k _ _ _ _ _ _ _ _ _ _ _ _ _ _) rfl rfl a8g a8h (nb rfl) fun az ba bb ai m bc=>?_
  obtain ⟨aj,h⟩:=h
  refine c3w (s:=a0l) (xs:=y9) (m.bring 2) a3Y (ai.srcO ((m.bring 2).bring 1)) aj fun ak al bd am an be=>?_
  exact hn2 _ _ _ (hm2 _ _ h).2 ⟨((y9++[k]),ah),af,ak,al,rfl,rfl,am,((an.bring 1).drop.bring 1),(hm2 _ _ h).1⟩
 ·exact hx1 _ _ (hj1 y9 ac a0l Fs5l2 ab _ a3Y ((j.bring 1).bring 1) h)
def O9 [PanQ] (o9:a8) (a:p5) (d:p5) (H:Hp) (K:p5→a8→Hp→Prop):Prop:=
 C7 o9 ⟨#[59]⟩ H (fun b c=>
 K a b c)
def U7 [PanQ] (a5u:a8) (a:p5) (b:p5) (H:Hp) (K:p5→a8→Hp→Prop):Prop:=
 S3 a5u H (fun c d e=>
 C7 d ⟨#[93]⟩ e (fun f g=>
 O9 f (p5.mk a.A8 c.F0) b g K))
def a6G [PanQ] (x0:a8) (H:Hp) (K:p5→a8→Hp→Prop):Prop:=
 m5 x0 ⟨#[97,114,114,97,121]⟩ H (fun d i=>
 a3w (a8.mk x0.fl (IntKind.wrap .i64 (x0.fn+1))) 1 i (fun c e f=>
 (d=true→
 C7 e ⟨#[91]⟩ f (fun b j=>
 z7 b j (fun a g=>
 ((((!decide (a.d8=2))||(decide (a.F0 < 1)))||(decide (2147483647 < a.F0)))=true→
 E9 b g (fun k=>
 U7 b (p5.mk c.A0 0) (p5.mk ⟨#[]⟩ 0) k K))∧
 ((((!decide (a.d8=2))||(decide (a.F0 < 1)))||(decide (2147483647 < a.F0)))=false→
 U7 b (p5.mk c.A0 0) (p5.mk ⟨#[]⟩ 0) g K))))∧
 (d=false→
 O9 e (p5.mk c.A0 0) (p5.mk ⟨#[]⟩ 0) f K)))
theorem b0s [PanQ] (x0:a8) {H:Hp} {K:p5→a8→Hp→Prop} (h:a6G x0 H K):a1r x0 H K:=by
 intro g0
 refine Ct.ofE fun w0 w ps0 H0 R E I hR hE=>d0q ?_
 unfold a6G at h
 unfold F54
 refine m9 I Tryz.zeroValue68 (cs:=[(eS),(vi 0)]) rfl fun e al q am=>?_
 refine g6 Tryz.call53 (h g0) (q.bring 1) ?_
 rintro _ _ _ an j _ _ ⟨ao,rfl,rfl,h⟩
 refine a7 (o5 _) (a7 a5G (g5 (l1 Tryz.isAgg3 j rfl) (a7 pAd (a7 (o5 _) ?_))))
 refine a7 a5G ?_
 refine f8 j Tryz.sizeOf3 (vs:=[(vi (IntKind.wrap .i64 (x0.fn+1)))]) (cs':=[(vs x0.fl),(vi (IntKind.wrap .i64 (x0.fn+1)))]) rfl rfl (nb rfl) rfl rfl fun ap r aq=>?_
 refine z8 hE Tryz.call102 (h g0) r ?_
 rintro _ s _ ar t _ _ ⟨c,u,rfl,rfl,h⟩
 refine a7 b8R (a7 (c0O _) ?_)
 refine m9 t Tryz.zeroValue68 (cs:=[(eS),(vi 0)]) rfl fun f au v av=>?_
 refine f8 v Tryz.sizeOf68 (vs:=[(Value.string c.A0),(vi 0)]) (cs':=[(Value.string c.A0),(vi 0)]) rfl rfl (nb rfl) rfl rfl fun aw k ax=>?_
 have hj1:∀(o9:a8) (d:p5) H w (_:Inv w0 ps0 H0 H [bx g0 101 (d9 o9),bx f 68 (C1 d),bx e 68 [(Value.string (p5.mk ⟨#[]⟩ 0).A8),(vi (p5.mk ⟨#[]⟩ 0).a6T)]] w) (_:O9 o9 d (p5.mk ⟨#[]⟩ 0) H K),b9k (Value.pointer (some ⟨g0,0,none⟩)) (Value.pointer (some ⟨e,0,none⟩)) (Value.pointer (some ⟨f,0,none⟩)) w R E:=by
  intro o9 d H w I h
  unfold b9k
  intro _
  unfold O9 at h
  refine z8 hE Tryz.call103 (h g0) I ?_
  rintro _ y _ ay l _ _ ⟨z,rfl,rfl,h⟩
  refine g5 (lW Tryz.isAgg68 Tryz.sizeOf68 rfl (l.bring 1)) ?_
  refine f8 (l.bring 2) Tryz.sizeOf68 (vs:=(C1 d)) (cs':=(C1 d)) rfl rfl (nb rfl) rfl rfl fun az m ba=>?_
  refine o4 Tryz.isAgg68 Tryz.sizeOf68 rfl (m.at1 (o:=0) (vs:=(C1 d)) (nb rfl) rfl) ?_
  exact hR _ y _ _ (m.drop.bring 1).drop ⟨d,z,rfl,rfl,h⟩
 refine r9 fun j1 hx1=>?_
 refine m0 h (fun _ h=>?_) (fun _ h=>?_)
 ·refine z8 hE Tryz.call103 (h g0) (k.bring 1) ?_
  rintro _ _ _ bb aa _ _ ⟨n,rfl,rfl,h⟩
  have hj2:∀H w (_:Inv w0 ps0 H0 H [bx g0 101 (d9 n),bx f 68 [(Value.string (p5.mk c.A0 0).A8),(vi (p5.mk c.A0 0).a6T)],bx e 68 [(Value.string (p5.mk ⟨#[]⟩ 0).A8),(vi (p5.mk ⟨#[]⟩ 0).a6T)]] w) (_:U7 n (p5.mk c.A0 0) (p5.mk ⟨#[]⟩ 0) H K),b9l (Value.pointer (some ⟨g0,0,none⟩)) (Value.pointer (some ⟨e,0,none⟩)) (Value.pointer (some ⟨f,0,none⟩)) w j1 R E:=by
   intro H w I h
   unfold b9l
   intro _
   unfold U7 at h
   refine z8 hE Tryz.call104 (h g0) I ?_
   rintro _ _ _ bc ab _ _ ⟨i,bd,rfl,rfl,h⟩
   refine a7 b8S (a7 b2K ?_)
   refine f8 (ab.bring 1) Tryz.sizeOf3 (vs:=[(vi i.F0)]) (cs':=[(Value.string (p5.mk c.A0 0).A8),(vi i.F0)]) rfl rfl (nb rfl) rfl rfl fun be ac bf=>?_
   refine z8 hE Tryz.call103 (h g0) (ac.bring 1) ?_
   rintro _ ad _ bg ae _ _ ⟨af,rfl,rfl,h⟩
   exact hx1 _ _ (hj1 af (p5.mk (p5.mk c.A0 0).A8 i.F0) ad _ (((ae.bring 2).bring 2).bring 2) h)
  refine r9 fun j2 hx2=>?_
  refine g6 Tryz.call51 (h g0) aa ?_
  rintro _ ag _ bh ah _ _ ⟨p,rfl,rfl,h⟩
  refine m9 ah Tryz.zeroValue103 (cs:=[(vi 0),(eS),(vi 0),(vi 0),(vi 0)]) rfl fun bi bj ai bk=>?_
  refine f8 ai Tryz.sizeOf103 (vs:=(f9 p)) (cs':=(f9 p)) rfl rfl (nb rfl) rfl rfl fun bl b bm=>?_
  refine a7 a0I (g5 (l1 Tryz.isAgg3 b rfl) (a7 pNe ?_))
  refine a7 (Pu.g fun a=>by with_reducible exact a8c) ?_
  refine g5 (Ld.g fun a=>by simp only [k7 a];exact (l1 Tryz.isAgg2 b rfl)) ?_
  refine a7 (Pu.g fun a=>by simp only [k7 a];with_reducible exact pLs) ?_
  refine a7 (B5 _ _) ?_
  refine a7 (Pu.g fun a=>by with_reducible exact a8c) ?_
  refine g5 (Ld.g fun a=>by simp only [k7 a];exact (l1 Tryz.isAgg2 b rfl)) ?_
  refine a7 (Pu.g fun a=>by simp only [k7 a];with_reducible exact pGt) ?_
  refine a7 (B5 _ _) ?_
  refine m0 h (fun _ h=>?_) (fun _ h=>?_)
  ·refine z8 hE Tryz.call52 (h g0) (b.bring 1) ?_
   rintro _ aj _ bn ak _ _ ⟨rfl,rfl,h⟩
   exact hx2 _ _ (hj2 aj _ ((((ak.bring 1).drop.bring 2).bring 2).bring 2) h)
  ·exact hx2 _ _ (hj2 ag _ (((b.drop.bring 2).bring 2).bring 2) h)
 ·exact hx1 _ _ (hj1 u (p5.mk c.A0 0) s _ (((k.bring 2).bring 1).bring 2) h)
def a0w [PanQ] (a5u:a8) (f:(List p5)) (g:(List j9)) (i:p6) (H:Hp) (K:p6→a8→Hp→Prop):Prop:=
 ∀(a:Sl) (d:Hp),Hle H d→SlH d 2 C1 a f→a.n≤a.c→
 ∀(b:Sl) (e:Hp),Hle d e→SlH e 6 y2 b g→b.n≤b.c→
 K (p6.mk a b) a5u e
def a0x [PanQ] (f:(List p5)) (Y9:a8) (a:(List j9)) (b:p6) (H:Hp) (n3:(a8×(List j9)×p6)→Hp→Prop) (K:p6→a8→Hp→Prop):Prop:=
 z7 Y9 H (fun c d=>
 (¬(c.d8=5)→
 Q4 Y9 d (fun g i=>
 D3 Y9 1 g i (fun j=>
 Y4 Y9 1 j (fun e k l=>
 (a.length+([e]:List j9).length)*121≤140737488355328∧
 n3 (k,(a++[e]),b) l))))∧
 (c.d8=5→
 a0w Y9 f a b d K))
def U8 [PanQ] (o9:a8) (a:(List p5)) (b:(List j9)) (c:p6) (H:Hp) (K:p6→a8→Hp→Prop):Prop:=
 TL ((o9,b,c):a8×(List j9)×p6) H fun (s:a8×(List j9)×p6) H n3=>a0x a s.1 s.2.1 s.2.2 H n3 K
def a0y [PanQ] (a:(List p5)) (c:(List j9)) (d:p6) (U0:a8) (H:Hp) (n4:((List p5)×(List j9)×p6×a8)→Hp→Prop) (K:p6→a8→Hp→Prop):Prop:=
 m5 U0 ⟨#[118,97,114]⟩ H (fun b e=>
 TG (b=false) (m5 U0 ⟨#[97,114,114,97,121]⟩ e) false e (fun (f:Bool) (g:Hp)=>
 ((b||f)=true→
 a1r U0 g (fun i j k=>
 (a.length+([i]:List p5).length)*25≤140737488355328∧
 n4 ((a++[i]),c,d,j) k))∧
 ((b||f)=false→
 U8 U0 a c d g K)))
def a3G [PanQ] (x0:a8) (H:Hp) (K:p6→a8→Hp→Prop):Prop:=
 TL (([],[],(p6.mk (Sl.mk none 0 0) (Sl.mk none 0 0)),x0):(List p5)×(List j9)×p6×a8) H fun (s:(List p5)×(List j9)×p6×a8) H n4=>a0y s.1 s.2.1 s.2.2.1 s.2.2.2 H n4 K
theorem b0t [PanQ] (x0:a8) {H:Hp} {K:p6→a8→Hp→Prop} (h:a3G x0 H K):a3x x0 H K:=by
 intro g0
 refine Ct.ofE fun w0 w ps0 H0 R E I hR hE=>c9W ?_
 unfold a3G at h
 unfold F21
 refine m9 I Tryz.zeroValue26 (cs:=[(nS),(nS)]) rfl fun r dt cb du=>?_
 refine m9 cb Tryz.zeroValue26 (cs:=[(nS),(nS)]) rfl fun t dv cc dw=>?_
 have hj1:∀(o9:a8) (ab:(List p5)) (ai:(List j9)) (aj:p6) (g:Sl) (ac:Frag) (ak:Sl) (al:Frag) H w (_:RowL 68 2 C1 g ab ac) (_:RowL 56 6 y2 ak ai al) (_:Inv w0 ps0 H0 H [bx g0 101 (d9 o9),bx t 26 [(vs g),(vs ak)],bx r 26 (u2 aj),ac,al] w) (_:U8 o9 ab ai aj H K),b9f (Value.pointer (some ⟨g0,0,none⟩)) (Value.pointer (some ⟨r,0,none⟩)) (Value.pointer (some ⟨t,0,none⟩)) w R E:=by
  intro o9 ab ai aj g ac ak al H w cd ce I h
  unfold b9f
  intro _
  unfold U8 at h
  have hj2:∀(a5u:a8) (ar:(List p5)) (au:(List j9)) (av:p6) (aw:Frag) (p:Sl) (ax:Frag) H w (_:RowL 68 2 C1 g ar aw) (_:RowL 56 6 y2 p au ax) (_:Inv w0 ps0 H0 H [bx g0 101 (d9 a5u),bx t 26 [(vs g),(vs p)],bx r 26 (u2 av),aw,ax] w) (_:a0w a5u ar au av H K),b9e (Value.pointer (some ⟨r,0,none⟩)) (Value.pointer (some ⟨t,0,none⟩)) w R E:=by
   intro a5u ar au av aw p ax H w cf cg I h
   unfold b9e
   intro _
   unfold a0w at h
   refine g5 (ldA Tryz.isAgg26 Tryz.sizeOf26 rfl ((I.bring 1).at1 (o:=0) (vs:=[(vs g),(vs p)]) (nb rfl) rfl)) ?_
   refine f8 (I.bring 2) Tryz.sizeOf26 (vs:=[(vs g),(vs p)]) (cs':=[(vs g),(vs p)]) rfl rfl (nb rfl) rfl rfl fun dx bi dy=>?_
   refine o4 Tryz.isAgg26 Tryz.sizeOf26 rfl (bi.at1 (o:=0) (vs:=[(vs g),(vs p)]) (nb rfl) rfl) ?_
   obtain ⟨ch,ci,cj,ck,cl⟩:=Inv.freezeC (bi.bring 3) cf (by decide)
   replace h:=h g ch cj ck cl
   obtain ⟨bj,cm,cn,co,cp⟩:=Inv.freezeC (ci.bring 3) cg (by decide)
   replace h:=h p bj cn co cp
   exact hR _ bj _ _ (cm.drop.bring 1).drop ⟨(p6.mk g p),a5u,rfl,rfl,h⟩
  refine r9 fun j2 hx2=>?_
  obtain ⟨ay,ad,cq,cr⟩:=h
  refine B0 (J:=fun n l w=>∃(s:a8×(List j9)×p6) (H:Hp) (ae:Sl) (am:Frag),n=ad s∧l=(match s with | (Y9,k,m)=>[])∧(match s with | (Y9,k,m)=>RowL 56 6 y2 ae k am)∧(match s with | (Y9,k,m)=>Inv w0 ps0 H0 H [bx g0 101 (d9 Y9),bx t 26 [(vs g),(vs ae)],bx r 26 (u2 m),ac,am] w)∧ay s H) ⟨_,(o9,ai,aj),H,ak,al,rfl,rfl,ce,(((((I.bring 4).bring 4).bring 4).bring 4).bring 4),cq⟩ ?_
  rintro dz ea w next3 ⟨⟨Y9,k,m⟩,H,ae,am,rfl,bk,az,I,ct⟩ hn3
  dsimp only at bk I az
  clear bk
  obtain ⟨n3,hm3,h⟩:∃n3:(a8×(List j9)×p6)→Hp→Prop,(∀s' H',n3 s' H'→ay s' H'∧ad s' < ad (Y9,k,m))∧a0x ab Y9 k m H n3 K:=⟨_,fun _ _ h=>h,cr (Y9,k,m) H (fun s' H'=>ay s' H'∧ad s' < ad (Y9,k,m)) ct (fun _ _ a b=>⟨a,b⟩)⟩
  unfold c3I
  unfold a0x at h
  refine g6 Tryz.call51 (h g0) I ?_
  rintro _ cu _ eb bl _ _ ⟨ec,rfl,rfl,h⟩
  refine a7 a7d (a7 pNe ?_)
  refine Z9 h (fun _ h=>?_) (fun _ h=>?_)
  ·refine g6 Tryz.call56 (h g0) bl ?_
   rintro _ _ _ ed cv _ _ ⟨ee,rfl,rfl,h⟩
   refine z8 hE Tryz.call55 (h g0) cv ?_
   rintro _ _ _ ef cw _ _ ⟨rfl,rfl,h⟩
   refine P3 cw fun eg an=>?_
   refine o7 a7D ?_
   refine t8 (l1 Tryz.isAgg24 (an.bring 1) rfl) ?_
   refine z8 hE Tryz.call57 (h g0) an ?_
   rintro _ cx _ eh bm _ cy ⟨bn,cz,rfl,rfl,h⟩
   refine ⟨(cy _ (an.bring 1).lt1 (Inv.a1B (Fi:=[bx g0 101 (d9 Y9)]) ((an.bring 1).bring 1))),?_⟩
   refine V9 (e:=56) (c:=y2) (xs:=[bn]) bm (c1k _ _ _ _ _ _ _ _ _ _ _ _ _ _) rfl rfl a8g a8h (nb rfl) fun ei ej ek da bo db=>?_
   refine ⟨(db _ (bm.bring 1).lt1),?_⟩
   obtain ⟨dc,h⟩:=h
   refine c3w (s:=ae) (xs:=k) (bo.bring 5) az (da.srcO ((bo.bring 5).bring 1)) dc fun ba dd el de df em=>?_
   refine o7 a7D ?_
   refine f8 ((df.bring 1).drop.bring 2) Tryz.sizeOf24 (vs:=[(vs ba)]) (cs':=[(vs g),(vs ba)]) rfl rfl (nb rfl) rfl rfl fun en dg eo=>?_
   exact hn3 _ _ _ (hm3 _ _ h).2 ⟨(cz,(k++[bn]),m),cx,ba,dd,rfl,rfl,de,(((((dg.bring 1).bring 4).bring 4).bring 3).bring 4),(hm3 _ _ h).1⟩
  ·exact hx2 _ _ (hj2 Y9 ab k m ac ae am cu _ cd az (((((bl.bring 4).bring 4).bring 4).bring 4).bring 4) h)
 refine r9 fun j1 hx1=>?_
 obtain ⟨bb,af,dh,di⟩:=h
 refine B0 (J:=fun n l w=>∃(s:(List p5)×(List j9)×p6×a8) (H:Hp) (y:Sl) (ag:Frag) (u:Sl) (z:Frag),n=af s∧l=(match s with | (d,j,f,U0)=>[])∧(match s with | (d,j,f,U0)=>RowL 68 2 C1 y d ag)∧(match s with | (d,j,f,U0)=>RowL 56 6 y2 u j z)∧(match s with | (d,j,f,U0)=>Inv w0 ps0 H0 H [bx t 26 [(vs y),(vs u)],bx r 26 (u2 f),bx g0 101 (d9 U0),ag,z] w)∧bb s H) ⟨_,([],[],(p6.mk (Sl.mk none 0 0) (Sl.mk none 0 0)),x0),H,(Sl.mk none 0 0),[],(Sl.mk none 0 0),[],rfl,rfl,(RowL.nil b3r b3s),(RowL.nil a8g a8h),((((cc.nil.nil.bring 1).bring 4).bring 4).bring 4),dh⟩ ?_
 rintro ep eq w next4 ⟨⟨d,j,f,U0⟩,H,y,ag,u,z,rfl,bp,bc,bd,I,dj⟩ hn4
 dsimp only at bp I bc bd
 clear bp
 obtain ⟨n4,hm4,h⟩:∃n4:((List p5)×(List j9)×p6×a8)→Hp→Prop,(∀s' H',n4 s' H'→bb s' H'∧af s' < af (d,j,f,U0))∧a0y d j f U0 H n4 K:=⟨_,fun _ _ h=>h,di (d,j,f,U0) H (fun s' H'=>bb s' H'∧af s' < af (d,j,f,U0)) dj (fun _ _ a b=>⟨a,b⟩)⟩
 unfold c3J
 unfold a0y at h
 refine g6 Tryz.call53 (h g0) (I.bring 2) ?_
 rintro _ bq _ br bs _ _ ⟨be,rfl,rfl,h⟩
 simp only [q9]
 refine G6 (D:=fun bt ao=>∃(aa:Bool) (q:Hp),bt=(gv be false (vB aa))∧(Inv w0 ps0 H0 q [bx g0 101 (d9 U0),bx t 26 [(vs y),(vs u)],bx r 26 (u2 f),ag,z] ao)∧(∀i,i < br.heap.size→¬inF [bx g0 101 (d9 U0)] i→ao.heap[i]? = br.heap[i]?)∧Hle bq q∧(((be||aa)=true→
 a1r U0 q (fun (ah:p5) (bf:a8) (bg:Hp)=>
 (d.length+([ah]:List p5).length)*25≤140737488355328∧
 n4 ((d++[ah]),j,f,bf) bg))∧
 ((be||aa)=false→
 U8 U0 d j f q K))) (fun v=>?_) (fun v=>?_) ?_
 ·replace h:=h.1 v
  have bu:=v
  simp only [k7 bu]
  refine g6 Tryz.call53 (h g0) bs ?_
  rintro _ q _ ao ap bv bw ⟨aa,rfl,rfl,h⟩
  exact ⟨aa,q,by rfl,ap,bw,bv,h⟩
 ·exact ⟨false,bq,by rw [R9 v],bs,fun _ _ _=>rfl,Hle.refl _,h.2 v⟩
 ·clear h
  rintro bt ao ⟨aa,q,rfl,ap,bw,bv,h⟩
  refine a7 (B5 _ _) ?_
  refine m0 h (fun _ h=>?_) (fun _ h=>?_)
  ·refine P3 ap fun er aq=>?_
   refine o7 b0D ?_
   refine t8 (l1 Tryz.isAgg23 (aq.bring 1) rfl) ?_
   refine z8 hE Tryz.call54 (h g0) aq ?_
   rintro _ bg _ es bz _ dk ⟨ah,bf,rfl,rfl,h⟩
   refine ⟨(dk _ (aq.bring 1).lt1 (Inv.a1B (Fi:=[bx g0 101 (d9 U0)]) ((aq.bring 1).bring 1))),?_⟩
   refine V9 (e:=68) (c:=C1) (xs:=[ah]) bz (c7l _ _) rfl rfl b3r b3s (nb rfl) fun et eu ev dl ca dm=>?_
   refine ⟨(dm _ (bz.bring 1).lt1),?_⟩
   obtain ⟨dn,h⟩:=h
   refine c9G (s:=y) (xs:=d) (ca.bring 4) bc (dl.srcO ((ca.bring 4).bring 1)) dn fun bh dp ew dq dr ex=>?_
   refine o7 b0D ?_
   refine f8 ((dr.bring 1).drop.bring 2) Tryz.sizeOf23 (vs:=[(vs bh)]) (cs':=[(vs bh),(vs u)]) rfl rfl (nb rfl) rfl rfl fun ey ds ez=>?_
   exact hn4 _ _ _ (hm4 _ _ h).2 ⟨((d++[ah]),j,f,bf),bg,bh,dp,u,z,rfl,rfl,dq,bd,(((((ds.bring 4).bring 2).bring 3).bring 4).bring 4),(hm4 _ _ h).1⟩
  ·exact hx1 _ _ (hj1 U0 d j f y ag u z q _ bc bd (((((ap.bring 4).bring 4).bring 4).bring 4).bring 4) h)
def a8x [PanQ] (x0:a8) (H:Hp) (K:d6→a8→Hp→Prop):Prop:=
 O5 x0 1 H (fun a b c=>
 K a b c)
theorem b2v [PanQ] (x0:a8) {H:Hp} {K:d6→a8→Hp→Prop} (h:a8x x0 H K):a8u x0 H K:=by
 intro g0
 refine Ct.ofE fun w0 w ps0 H0 R E I hR hE=>d0c ?_
 unfold a8x at h
 unfold F34
 refine m9 I Tryz.zeroValue40 (cs:=[(vi 0),(vi 0),(eS),(nS)]) rfl fun g i c j=>?_
 refine z8 hE Tryz.call35 (h g0) (c.bring 1) ?_
 rintro _ d _ k e _ _ ⟨a,f,rfl,rfl,h⟩
 refine f8 (e.bring 1) Tryz.sizeOf40 (vs:=(d7 a)) (cs':=(d7 a)) rfl rfl (nb rfl) rfl rfl fun l b m=>?_
 refine o4 Tryz.isAgg40 Tryz.sizeOf40 rfl (b.at1 (o:=0) (vs:=(d7 a)) (nb rfl) rfl) ?_
 exact hR _ d _ _ b.drop ⟨a,f,rfl,rfl,h⟩
def a8y [PanQ] (x0:a8) (H:Hp) (K:c8→a8→Hp→Prop):Prop:=
 L4 x0 1 H (fun a b c=>
 K a b c)
theorem b2w [PanQ] (x0:a8) {H:Hp} {K:c8→a8→Hp→Prop} (h:a8y x0 H K):a8v x0 H K:=by
 intro g0
 refine Ct.ofE fun w0 w ps0 H0 R E I hR hE=>d0h ?_
 unfold a8y at h
 unfold F40
 refine m9 I Tryz.zeroValue49 (cs:=[(vi 0),(vi 0),(nS),(nS)]) rfl fun g i c j=>?_
 refine z8 hE Tryz.call41 (h g0) (c.bring 1) ?_
 rintro _ d _ k e _ _ ⟨a,f,rfl,rfl,h⟩
 refine f8 (e.bring 1) Tryz.sizeOf49 (vs:=(f7 a)) (cs':=(f7 a)) rfl rfl (nb rfl) rfl rfl fun l b m=>?_
 refine o4 Tryz.isAgg49 Tryz.sizeOf49 rfl (b.at1 (o:=0) (vs:=(f7 a)) (nb rfl) rfl) ?_
 exact hR _ d _ _ b.drop ⟨a,f,rfl,rfl,h⟩
def a5L (H:Hp) (K:Int→Int→Hp→Prop):Prop:=
 K 0 0 H
def a2Y (O8:ByteArray) (b:ByteArray) (a:Nat) (H:Hp) (n2:Nat→Hp→Prop) (K:Int→Int→Hp→Prop):Prop:=
 (a < b.size→
 (¬(((Utf8.decode b a).1:Int)=65533)→
 n2 (a+(Utf8.decode b a).2) H)∧
 (((Utf8.decode b a).1:Int)=65533→
 (0:Int)≤((a:Nat):Int)∧(((a:Nat):Int):Int)≤O8.size∧
 a1l (O8.extract (((a:Nat):Int):Int).toNat O8.size) H (fun e c d=>
 (c=1→
 K ((a:Nat):Int) 11 d)∧
 (¬(c=1)→
 n2 (a+(Utf8.decode b a).2) d))))∧
 (¬(a < b.size)→
 a5L H K)
def a6Q (x0:ByteArray) (H:Hp) (K:Int→Int→Hp→Prop):Prop:=
 (65536 < (x0.size:Int)→
 K 0 10 H)∧
 (¬(65536 < (x0.size:Int))→
 TL (0:Nat) H fun (s:Nat) H n2=>a2Y x0 x0 s H n2 K)
theorem b3A (x0) {H K} (h:a6Q x0 H K):a9l x0 H K:=by
 refine Ct.of fun w0 w ps0 H0 R E I hR=>d0W ?_
 unfold a6Q at h
 unfold F97
 refine a7 (X3 _) (a7 pGt ?_)
 refine l7 h (fun _ h=>?_) (fun _ h=>?_)
 ·exact hR _ H _ _ I ⟨0,10,rfl,rfl,h⟩
 ·have hj1:∀H w (_:Inv w0 ps0 H0 H [] w) (_:a5L H K),b9S w R E:=by
   intro H w I h
   unfold b9S
   intro _
   unfold a5L at h
   exact hR _ H _ _ I ⟨0,0,rfl,rfl,h⟩
  refine r9 fun j1 hx1=>?_
  refine b4r Tryz.underlying9 x0 I fun m aa o ab=>?_
  obtain ⟨f,d,p,q⟩:=h
  refine B0 (J:=fun n l w=>∃(s:Nat) (H:Hp),n=d s∧l=[]∧Inv w0 ps0 H0 H [itf m x0 s] w∧f s H) ⟨_,0,H,rfl,rfl,o,p⟩ ?_
  rintro ac ad w next2 ⟨c,H,rfl,r,I,t⟩ hn2
  clear r
  obtain ⟨n2,hm2,h⟩:∃n2:Nat→Hp→Prop,(∀s' H',n2 s' H'→f s' H'∧d s' < d c)∧a2Y x0 x0 c H n2 K:=⟨_,fun _ _ h=>h,q c H (fun s' H'=>f s' H'∧d s' < d c) t (fun _ _ a b=>⟨a,b⟩)⟩
  unfold c4i
  unfold a2Y at h
  refine b5P I (fun g ae i af=>?_) (fun g=>?_)
  ·replace h:=h.1 g
   refine a7 (g7 _ _ (vB true) rfl) ?_
   refine a3o (fun e=>?_) (fun e=>by cases e)
   refine a7 (g7 _ _ (vi ((c:Nat):Int)) rfl) (a7 (g7 _ _ (Value.int .i32 ((Utf8.decode x0 c).1:Int)) rfl) (a7 pNe ?_))
   refine Z9 h (fun _ h=>?_) (fun _ h=>?_)
   ·exact hn2 _ _ _ (hm2 _ _ h).2 ⟨(c+(Utf8.decode x0 c).2),H,rfl,rfl,i,(hm2 _ _ h).1⟩
   ·obtain ⟨u,v,h⟩:=h
    refine a7 (c1i x0 Tryz.underlying9 u v) ?_
    refine g6 Tryz.call128 h i ?_
    rintro _ j _ ag k _ _ ⟨y,z,rfl,rfl,h⟩
    refine a7 (g7 _ _ (Value.int .i32 y) rfl) (a7 (g7 _ _ (vi z) rfl) (a7 pEq ?_))
    refine l7 h (fun _ h=>?_) (fun _ h=>?_)
    ·exact hR _ j _ _ k.drop ⟨((c:Nat):Int),11,rfl,rfl,h⟩
    ·exact hn2 _ _ _ (hm2 _ _ h).2 ⟨(c+(Utf8.decode x0 c).2),j,rfl,rfl,k,(hm2 _ _ h).1⟩
  ·replace h:=h.2 g
   refine a7 (g7 _ _ (vB false) rfl) ?_
   refine a3o (fun e=>by cases e) (fun e=>?_)
   exact hx1 _ _ (hj1 H _ I.drop h)
def y5 (a0b:Int) (u7:ByteArray) (u9:Int) (A4:b7) (D5:(List b6)) (H:Hp) (K:ByteArray→g8→(List b6)→Hp→Prop):Prop:=
 (0:Int)≤a0b∧(a0b:Int)≤u9∧(u9:Int)≤u7.size∧
 K (u7.extract (a0b:Int).toNat (u9:Int).toNat) (g8.mk u7 u9 A4 (Sl.mk none 0 0)) D5 H
def B2 (X5:Int) (C8:Int) (r8:Bool) (q7:ByteArray) (q8:Int) (p7:b7) (p9:(List b6)) (H:Hp) (n2:(Int×Bool×ByteArray×Int×b7×(List b6))→Hp→Prop) (K:ByteArray→g8→(List b6)→Hp→Prop):Prop:=
 TG (r8=true) (a2E C8 H) false H (fun (b:Bool) (c:Hp)=>
 ((r8&&b)=true→
 B9 (g8.mk q7 q8 p7 (Sl.mk none 0 0)) p9 c (fun a d e=>
 A6 (u1 a) d e (fun f g i=>
 n2 (f,g,a.fs,a.fn,a.fat,d) i)))∧
 ((r8&&b)=false→
 y5 X5 q7 q8 p7 p9 c K))
def N7 (x0:g8) (a:(List b6)) (H:Hp) (K:ByteArray→g8→(List b6)→Hp→Prop):Prop:=
 A6 (u1 x0) a H (fun b c d=>
 TL ((b,c,x0.fs,x0.fn,x0.fat,a):Int×Bool×ByteArray×Int×b7×(List b6)) d fun (s:Int×Bool×ByteArray×Int×b7×(List b6)) H n2=>B2 x0.fn s.1 s.2.1 s.2.2.1 s.2.2.2.1 s.2.2.2.2.1 s.2.2.2.2.2 H n2 K)
theorem a2Z (x0 q) {H K} (h:N7 x0 q H K):N5 x0 q H K:=by
 intro g0 y z aa
 refine Ct.of fun w0 w ps0 H0 R E I hR=>b4t ?_
 unfold N7 at h
 unfold b9U
 refine a7 (o5 _) (a7 a0K (g5 (l1 Tryz.isAgg3 I rfl) ?_))
 have hj1:∀(u7:ByteArray) (u9:Int) (A4:b7) (D5:(List b6)) (X9:Sl) (O6:Frag) H w (_:RowL 103 5 f9 X9 D5 O6) (_:Inv w0 ps0 H0 H [bx g0 155 [(Value.string u7),(vi u9),(vi A4.o8),(vi A4.s6),(vs X9)],O6] w) (_:y5 x0.fn u7 u9 A4 D5 H K),a7H (Value.pointer (some ⟨g0,0,none⟩)) (vi x0.fn) w R E:=by
  intro u7 u9 A4 D5 X9 O6 H w a5J I h
  unfold a7H
  intro _
  unfold y5 at h
  refine P3 I fun ax r=>?_
  refine o7 (o5 _) ?_
  refine o7 a8e ?_
  refine o7 (o5 _) ?_
  refine o7 a0K ?_
  refine t8 (l1 Tryz.isAgg9 r rfl) ?_
  refine t8 (l1 Tryz.isAgg3 r rfl) ?_
  obtain ⟨ak,al,am,h⟩:=h
  refine o7 (a6g u7 Tryz.underlying9 ak al am) ?_
  exact hR _ H _ _ ((r.bring 1).bring 1) ⟨(u7.extract (x0.fn:Int).toNat (u9:Int).toNat),(g8.mk u7 u9 A4 (Sl.mk none 0 0)),D5,X9,O6,rfl,rfl,a5J,h⟩
 refine r9 fun j1 hx1=>?_
 refine g6 Tryz.call100 (h g0 y z aa) ((I.bring 1).bring 1) ?_
 rintro _ an _ ay ao _ _ ⟨ab,ac,rfl,rfl,h⟩
 refine a7 (g7 _ _ (Value.int .i32 ab) rfl) (a7 (g7 _ _ (vB ac) rfl) ?_)
 obtain ⟨t,g,ap,aq⟩:=h
 refine B0 (J:=fun n l w=>∃(s:Int×Bool×ByteArray×Int×b7×(List b6)) (H:Hp) (M4:Sl) (E8:Frag),n=g s∧l=(match s with | (C8,r8,q7,q8,p7,p9)=>[(Value.int .i32 C8),(vB r8)])∧(match s with | (C8,r8,q7,q8,p7,p9)=>RowL 103 5 f9 M4 p9 E8)∧(match s with | (C8,r8,q7,q8,p7,p9)=>Inv w0 ps0 H0 H [bx g0 155 [(Value.string q7),(vi q8),(vi p7.o8),(vi p7.s6),(vs M4)],E8] w)∧t s H) ⟨_,(ab,ac,x0.fs,x0.fn,x0.fat,q),an,y,z,rfl,rfl,aa,((ao.bring 1).bring 1),ap⟩ ?_
 rintro az ba w next2 ⟨⟨C8,r8,q7,q8,p7,p9⟩,H,M4,E8,rfl,u,T6,I,ar⟩ hn2
 dsimp only at u I T6
 simp only [List.map_cons,List.map_nil,List.cons.injEq,and_true] at u
 obtain ⟨e6,e7⟩:=u
 simp only [e6,e7]
 obtain ⟨n2,hm2,h⟩:∃n2:(Int×Bool×ByteArray×Int×b7×(List b6))→Hp→Prop,(∀s' H',n2 s' H'→t s' H'∧g s' < g (C8,r8,q7,q8,p7,p9))∧B2 x0.fn C8 r8 q7 q8 p7 p9 H n2 K:=⟨_,fun _ _ h=>h,aq (C8,r8,q7,q8,p7,p9) H (fun s' H'=>t s' H'∧g s' < g (C8,r8,q7,q8,p7,p9)) ar (fun _ _ a b=>⟨a,b⟩)⟩
 unfold b2t
 unfold B2 at h
 simp only [q9]
 refine G6 (D:=fun ad j=>∃(f:Bool) (c:Hp),ad=(gv r8 true (vB f))∧(Inv w0 ps0 H0 c [bx g0 155 [(Value.string q7),(vi q8),(vi p7.o8),(vi p7.s6),(vs M4)],E8] j)∧(∀i,i < w.heap.size→¬inF [] i→j.heap[i]? = w.heap[i]?)∧Hle H c∧(((r8&&f)=true→
 B9 (g8.mk q7 q8 p7 (Sl.mk none 0 0)) p9 c (fun (d:g8) (k:(List b6)) (au:Hp)=>
 A6 (u1 d) k au (fun (m:Int) (o:Bool) (v:Hp)=>
 n2 (m,o,d.fs,d.fn,d.fat,k) v)))∧
 ((r8&&f)=false→
 y5 x0.fn q7 q8 p7 p9 c K))) (fun e=>?_) (fun e=>?_) ?_
 ·replace h:=h.1 e
  have ae:=e
  simp only [k7 ae]
  refine g6 Tryz.call136 h I ?_
  rintro _ c _ j p af ag ⟨f,rfl,rfl,h⟩
  exact ⟨f,c,by rfl,p,ag,af,h⟩
 ·exact ⟨false,H,by rw [R9 e],I,fun _ _ _=>rfl,Hle.refl _,h.2 e⟩
 ·clear h
  rintro ad j ⟨f,c,rfl,p,ag,af,h⟩
  refine a7 (u4 _ _) ?_
  refine m0 h (fun _ h=>?_) (fun _ h=>?_)
  ·refine g6 Tryz.call152 (h g0 M4 E8 T6) ((p.bring 1).bring 1) ?_
   rintro _ _ _ bb av _ _ ⟨d,k,ah,ai,rfl,rfl,aj,h⟩
   refine g6 Tryz.call100 (h g0 ah ai aj) ((av.bring 1).bring 1) ?_
   rintro _ v _ bc aw _ _ ⟨m,o,rfl,rfl,h⟩
   refine a7 (g7 _ _ (Value.int .i32 m) rfl) (a7 (g7 _ _ (vB o) rfl) ?_)
   exact hn2 _ _ _ (hm2 _ _ h).2 ⟨(m,o,d.fs,d.fn,d.fat,k),v,ah,ai,rfl,rfl,aj,((aw.bring 1).bring 1),(hm2 _ _ h).1⟩
  ·exact hx1 _ _ (hj1 q7 q8 p7 p9 M4 E8 c _ T6 ((p.bring 1).bring 1) h)
def a2J (x0:Int) (H:Hp) (K:Bool→Hp→Prop):Prop:=
 V0 x0 H (fun a b=>
 K ((decide (a=1))||(decide (a=2))) b)
theorem a9x (x0) {H K} (h:a2J x0 H K):a2F x0 H K:=by
 refine Ct.of fun w0 w ps0 H0 R E I hR=>c7T ?_
 unfold a2J at h
 unfold d1z
 refine g6 Tryz.call132 h I ?_
 rintro _ c _ e d _ _ ⟨b,rfl,rfl,h⟩
 refine a7 pEq ?_
 simp only [q9]
 refine a7 (Pu.g fun a=>by simp only [k7 a];with_reducible exact pEq) ?_
 refine a7 (B5 _ _) ?_
 exact hR _ c _ _ d ⟨((decide (b=1))||(decide (b=2))),rfl,rfl,h⟩
def a0z (a4g:ByteArray) (a4h:Int) (a3s:b7) (a2K:(List b6)) (H:Hp) (n1:(ByteArray×Int×b7×(List b6))→Hp→Prop) (K:g8→(List b6)→Hp→Prop):Prop:=
 W1 (g8.mk a4g a4h a3s (Sl.mk none 0 0)) a2K H (fun d e=>
 a4P d ⟨#[35]⟩ e (fun b c=>
 (b=true→
 N5 (g8.mk a4g a4h a3s (Sl.mk none 0 0)) a2K c (fun l f g i=>
 G3 (u1 f) g i (fun m a j k=>
 n1 (a.fs,a.fn,a.fat,j) k)))∧
 (b=false→
 K (g8.mk a4g a4h a3s (Sl.mk none 0 0)) a2K c)))
def a3H (x0:g8) (b:(List b6)) (H:Hp) (K:g8→(List b6)→Hp→Prop):Prop:=
 G3 (u1 x0) b H (fun e a c d=>
 TL ((a.fs,a.fn,a.fat,c):ByteArray×Int×b7×(List b6)) d fun (s:ByteArray×Int×b7×(List b6)) H n1=>a0z s.1 s.2.1 s.2.2.1 s.2.2.2 H n1 K)
theorem b0u (x0 g) {H K} (h:a3H x0 g H K):a1s x0 g H K:=by
 intro g0 k m o
 refine Ct.of fun w0 w ps0 H0 R E I hR=>d0X ?_
 unfold a3H at h
 unfold F99
 refine g6 Tryz.call133 (h g0 k m o) ((I.bring 1).bring 1) ?_
 rintro _ p _ an q _ _ ⟨ao,d,r,t,u,rfl,rfl,v,h⟩
 obtain ⟨e,c,y,z⟩:=h
 refine B0 (J:=fun n l w=>∃(s:ByteArray×Int×b7×(List b6)) (H:Hp) (a9y:Sl) (a9z:Frag),n=c s∧l=(match s with | (a4g,a4h,a3s,a2K)=>[])∧(match s with | (a4g,a4h,a3s,a2K)=>RowL 103 5 f9 a9y a2K a9z)∧(match s with | (a4g,a4h,a3s,a2K)=>Inv w0 ps0 H0 H [bx g0 155 [(Value.string a4g),(vi a4h),(vi a3s.o8),(vi a3s.s6),(vs a9y)],a9z] w)∧e s H) ⟨_,(d.fs,d.fn,d.fat,r),p,t,u,rfl,rfl,v,((q.bring 1).bring 1),y⟩ ?_
 rintro ap aq w next1 ⟨⟨a4g,a4h,a3s,a2K⟩,H,a9y,a9z,rfl,i,b2T,I,aa⟩ hn1
 dsimp only at i I b2T
 clear i
 obtain ⟨n1,hm1,h⟩:∃n1:(ByteArray×Int×b7×(List b6))→Hp→Prop,(∀s' H',n1 s' H'→e s' H'∧c s' < c (a4g,a4h,a3s,a2K))∧a0z a4g a4h a3s a2K H n1 K:=⟨_,fun _ _ h=>h,z (a4g,a4h,a3s,a2K) H (fun s' H'=>e s' H'∧c s' < c (a4g,a4h,a3s,a2K)) aa (fun _ _ a b=>⟨a,b⟩)⟩
 unfold c4j
 unfold a0z at h
 refine g6 Tryz.call135 (h g0 a9y a9z b2T) ((I.bring 1).bring 1) ?_
 rintro _ _ _ ar ab _ _ ⟨au,rfl,rfl,h⟩
 refine g6 Tryz.call134 h ab ?_
 rintro _ ac _ av j _ _ ⟨aw,rfl,rfl,h⟩
 refine m0 h (fun _ h=>?_) (fun _ h=>?_)
 ·refine g6 Tryz.call133 (h g0 a9y a9z b2T) ((j.bring 1).bring 1) ?_
  rintro _ _ _ ax ad _ _ ⟨ay,az,ba,ae,af,rfl,rfl,ag,h⟩
  refine g6 Tryz.call133 (h g0 ae af ag) ((ad.bring 1).bring 1) ?_
  rintro _ ah _ bb ai _ _ ⟨bc,f,aj,ak,al,rfl,rfl,am,h⟩
  exact hn1 _ _ _ (hm1 _ _ h).2 ⟨(f.fs,f.fn,f.fat,aj),ah,ak,al,rfl,rfl,am,((ai.bring 1).bring 1),(hm1 _ _ h).1⟩
 ·exact hR _ ac _ _ ((j.bring 1).bring 1) ⟨(g8.mk a4g a4h a3s (Sl.mk none 0 0)),a2K,a9y,a9z,rfl,rfl,b2T,h⟩
def a1h (f:b6) (u7:ByteArray) (u9:Int) (A4:b7) (D5:(List b6)) (H:Hp) (K:b6→Int→g8→(List b6)→Hp→Prop):Prop:=
 W1 (g8.mk u7 u9 A4 (Sl.mk none 0 0)) D5 H (fun a e=>
 (0:Int)≤1∧(1:Int)≤a.size∧
 B9 (g8.mk u7 u9 A4 (Sl.mk none 0 0)) D5 e (fun b c d=>
 (((decide ((a.extract 0 (1:Int).toNat)=⟨#[38]⟩))||(decide ((a.extract 0 (1:Int).toNat)=⟨#[124]⟩)))=true→
 K (b6.mk 0 ⟨#[]⟩ 0 (b7.mk 0 0)) 20 (u1 b) c d)∧
 (((decide ((a.extract 0 (1:Int).toNat)=⟨#[38]⟩))||(decide ((a.extract 0 (1:Int).toNat)=⟨#[124]⟩)))=false→
 K (b6.mk 4 (a.extract 0 (1:Int).toNat) 0 (b7.mk 0 0)) 0 (u1 b) c d)))
def a1i (r8:z1) (A9:Int) (a:b6) (q7:ByteArray) (q8:Int) (p7:b7) (p9:(List b6)) (H:Hp) (n2:(Int×b6×ByteArray×Int×b7×(List b6))→Hp→Prop) (K:b6→Int→g8→(List b6)→Hp→Prop):Prop:=
 (A9 < 6→
 (0:Int)≤A9∧(A9:Int) < 6∧
 W1 (g8.mk q7 q8 p7 (Sl.mk none 0 0)) p9 H (fun d e=>
 a4P d (([r8.f0,r8.f1,r8.f2,r8.f3,r8.f4,r8.f5]:List ByteArray).getD (A9:Int).toNat ⟨#[]⟩) e (fun b c=>
 (b=true→
 B9 (g8.mk q7 q8 p7 (Sl.mk none 0 0)) p9 c (fun f g i=>
 B9 (u1 f) g i (fun j k l=>
 K (b6.mk 4 (([r8.f0,r8.f1,r8.f2,r8.f3,r8.f4,r8.f5]:List ByteArray).getD (A9:Int).toNat ⟨#[]⟩) 0 (b7.mk 0 0)) 0 (u1 j) k l)))∧
 (b=false→
 n2 ((IntKind.wrap .i64 (A9+1)),a,q7,q8,p7,p9) c))))∧
 (¬(A9 < 6)→
 a1h a q7 q8 p7 p9 H K)
def a4x (x0:g8) (a:(List b6)) (H:Hp) (K:b6→Int→g8→(List b6)→Hp→Prop):Prop:=
 TL ((0,(b6.mk 0 ⟨#[]⟩ 0 (b7.mk 0 0)),x0.fs,x0.fn,x0.fat,a):Int×b6×ByteArray×Int×b7×(List b6)) H fun (s:Int×b6×ByteArray×Int×b7×(List b6)) H n2=>a1i (z1.mk ⟨#[61,61]⟩ ⟨#[33,61]⟩ ⟨#[60,61]⟩ ⟨#[62,61]⟩ ⟨#[38,38]⟩ ⟨#[124,124]⟩) s.1 s.2.1 s.2.2.1 s.2.2.2.1 s.2.2.2.2.1 s.2.2.2.2.2 H n2 K
theorem b1o (x0 j) {H K} (h:a4x x0 j H K):a7h x0 j H K:=by
 intro g0 e af ag
 refine Ct.of fun w0 w ps0 H0 R E I hR=>c8a ?_
 unfold a4x at h
 unfold d1G
 refine m9 I Tryz.zeroValue103 (cs:=[(vi 0),(eS),(vi 0),(vi 0),(vi 0)]) rfl fun k bf ah bg=>?_
 have hj1:∀(m:b6) (u7:ByteArray) (u9:Int) (A4:b7) (D5:(List b6)) (O6:Frag) H w (_:RowL 103 5 f9 e D5 O6) (_:Inv w0 ps0 H0 H [bx k 103 (f9 m),bx g0 155 [(Value.string u7),(vi u9),(vi A4.o8),(vi A4.s6),(vs e)],O6] w) (_:a1h m u7 u9 A4 D5 H K),b6V (Value.pointer (some ⟨g0,0,none⟩)) (Value.pointer (some ⟨k,0,none⟩)) w R E:=by
  intro m u7 u9 A4 D5 O6 H w a5J I h
  unfold b6V
  intro _
  unfold a1h at h
  refine g6 Tryz.call135 (h g0 e O6 a5J) ((I.bring 2).bring 2) ?_
  rintro _ _ _ bh ai _ _ ⟨f,rfl,rfl,h⟩
  obtain ⟨aj,ak,h⟩:=h
  refine a7 (c1j f Tryz.underlying9 aj ak) ?_
  refine g6 Tryz.call152 (h g0 e O6 a5J) ((ai.bring 1).bring 1) ?_
  rintro _ r _ bi t _ _ ⟨u,v,y,z,rfl,rfl,aa,h⟩
  refine a7 (G5 _ _ _ _ _) ?_
  simp only [q9]
  refine a7 (Pu.g fun c=>by simp only [k7 c];with_reducible exact (G5 _ _ _ _ _)) ?_
  refine a7 (B5 _ _) ?_
  refine m0 h (fun _ h=>?_) (fun _ h=>?_)
  ·refine a7 (a6k) ?_
   refine f8 (t.bring 2) Tryz.sizeOf103 (vs:=[(vi 0),(eS),(vi 0),(vi 0),(vi 0)]) (cs':=[(vi 0),(eS),(vi 0),(vi 0),(vi 0)]) rfl rfl (nb rfl) rfl rfl fun bj ab bk=>?_
   refine o4 Tryz.isAgg103 Tryz.sizeOf103 rfl (ab.at1 (o:=0) (vs:=[(vi 0),(eS),(vi 0),(vi 0),(vi 0)]) (nb rfl) rfl) ?_
   exact hR _ r _ _ ((ab.drop.bring 1).bring 1) ⟨(b6.mk 0 ⟨#[]⟩ 0 (b7.mk 0 0)),20,(u1 u),v,y,z,rfl,rfl,aa,h⟩
  ·refine a7 (a1D _ _) ?_
   refine f8 (t.bring 2) Tryz.sizeOf103 (vs:=[(vi 4),(Value.string (f.extract 0 (1:Int).toNat)),(vi 0),(vi 0),(vi 0)]) (cs':=[(vi 4),(Value.string (f.extract 0 (1:Int).toNat)),(vi 0),(vi 0),(vi 0)]) rfl rfl (nb rfl) rfl rfl fun bl ac bm=>?_
   refine o4 Tryz.isAgg103 Tryz.sizeOf103 rfl (ac.at1 (o:=0) (vs:=[(vi 4),(Value.string (f.extract 0 (1:Int).toNat)),(vi 0),(vi 0),(vi 0)]) (nb rfl) rfl) ?_
   exact hR _ r _ _ ((ac.drop.bring 1).bring 1) ⟨(b6.mk 4 (f.extract 0 (1:Int).toNat) 0 (b7.mk 0 0)),0,(u1 u),v,y,z,rfl,rfl,aa,h⟩
 refine r9 fun j1 hx1=>?_
 refine a7 (a8d _ _ _ _ _ _) ?_
 obtain ⟨p,i,al,am⟩:=h
 refine B0 (J:=fun n l w=>∃(s:Int×b6×ByteArray×Int×b7×(List b6)) (H:Hp) (E8:Frag),n=i s∧l=(match s with | (A9,d,q7,q8,p7,p9)=>[(vi A9)])∧(match s with | (A9,d,q7,q8,p7,p9)=>RowL 103 5 f9 e p9 E8)∧(match s with | (A9,d,q7,q8,p7,p9)=>Inv w0 ps0 H0 H [bx k 103 (f9 d),bx g0 155 [(Value.string q7),(vi q8),(vi p7.o8),(vi p7.s6),(vs e)],E8] w)∧p s H) ⟨_,(0,(b6.mk 0 ⟨#[]⟩ 0 (b7.mk 0 0)),x0.fs,x0.fn,x0.fat,j),H,af,rfl,rfl,ag,(((ah.bring 2).bring 2).bring 2),al⟩ ?_
 rintro bn bo w next2 ⟨⟨A9,d,q7,q8,p7,p9⟩,H,E8,rfl,q,T6,I,an⟩ hn2
 dsimp only at q I T6
 simp only [List.map_cons,List.map_nil,List.cons.injEq,and_true] at q
 have e8:=q
 simp only [e8]
 obtain ⟨n2,hm2,h⟩:∃n2:(Int×b6×ByteArray×Int×b7×(List b6))→Hp→Prop,(∀s' H',n2 s' H'→p s' H'∧i s' < i (A9,d,q7,q8,p7,p9))∧a1i (z1.mk ⟨#[61,61]⟩ ⟨#[33,61]⟩ ⟨#[60,61]⟩ ⟨#[62,61]⟩ ⟨#[38,38]⟩ ⟨#[124,124]⟩) A9 d q7 q8 p7 p9 H n2 K:=⟨_,fun _ _ h=>h,am (A9,d,q7,q8,p7,p9) H (fun s' H'=>p s' H'∧i s' < i (A9,d,q7,q8,p7,p9)) an (fun _ _ a b=>⟨a,b⟩)⟩
 unfold c1y
 unfold a1i at h
 refine a7 pLs ?_
 refine l7 h (fun _ h=>?_) (fun _ h=>?_)
 ·obtain ⟨ao,ap,h⟩:=h
  refine a7 (c2B _ _ _ _ _ _ _ _ ao ap) ?_
  refine g6 Tryz.call135 (h g0 e E8 T6) ((I.bring 2).bring 2) ?_
  rintro _ _ _ bp aq _ _ ⟨bq,rfl,rfl,h⟩
  refine g6 Tryz.call134 h aq ?_
  rintro _ ar _ br ad _ _ ⟨bs,rfl,rfl,h⟩
  refine m0 h (fun _ h=>?_) (fun _ h=>?_)
  ·refine g6 Tryz.call152 (h g0 e E8 T6) ((ad.bring 1).bring 1) ?_
   rintro _ _ _ bt au _ _ ⟨bu,bv,av,aw,rfl,rfl,ax,h⟩
   refine g6 Tryz.call152 (h g0 av aw ax) ((au.bring 1).bring 1) ?_
   rintro _ ay _ bw az _ _ ⟨ba,bb,bc,bd,rfl,rfl,be,h⟩
   refine a7 (a1D _ _) ?_
   refine f8 (az.bring 2) Tryz.sizeOf103 (vs:=[(vi 4),(Value.string (([(z1.mk ⟨#[61,61]⟩ ⟨#[33,61]⟩ ⟨#[60,61]⟩ ⟨#[62,61]⟩ ⟨#[38,38]⟩ ⟨#[124,124]⟩).f0,(z1.mk ⟨#[61,61]⟩ ⟨#[33,61]⟩ ⟨#[60,61]⟩ ⟨#[62,61]⟩ ⟨#[38,38]⟩ ⟨#[124,124]⟩).f1,(z1.mk ⟨#[61,61]⟩ ⟨#[33,61]⟩ ⟨#[60,61]⟩ ⟨#[62,61]⟩ ⟨#[38,38]⟩ ⟨#[124,124]⟩).f2,(z1.mk ⟨#[61,61]⟩ ⟨#[33,61]⟩ ⟨#[60,61]⟩ ⟨#[62,61]⟩ ⟨#[38,38]⟩ ⟨#[124,124]⟩).f3,(z1.mk ⟨#[61,61]⟩ ⟨#[33,61]⟩ ⟨#[60,61]⟩ ⟨#[62,61]⟩ ⟨#[38,38]⟩ ⟨#[124,124]⟩).f4,(z1.mk ⟨#[61,61]⟩ ⟨#[33,61]⟩ ⟨#[60,61]⟩ ⟨#[62,61]⟩ ⟨#[38,38]⟩ ⟨#[124,124]⟩).f5]:List ByteArray).getD (A9:Int).toNat ⟨#[]⟩)),(vi 0),(vi 0),(vi 0)]) (cs':=[(vi 4),(Value.string (([(z1.mk ⟨#[61,61]⟩ ⟨#[33,61]⟩ ⟨#[60,61]⟩ ⟨#[62,61]⟩ ⟨#[38,38]⟩ ⟨#[124,124]⟩).f0,(z1.mk ⟨#[61,61]⟩ ⟨#[33,61]⟩ ⟨#[60,61]⟩ ⟨#[62,61]⟩ ⟨#[38,38]⟩ ⟨#[124,124]⟩).f1,(z1.mk ⟨#[61,61]⟩ ⟨#[33,61]⟩ ⟨#[60,61]⟩ ⟨#[62,61]⟩ ⟨#[38,38]⟩ ⟨#[124,124]⟩).f2,(z1.mk ⟨#[61,61]⟩ ⟨#[33,61]⟩ ⟨#[60,61]⟩ ⟨#[62,61]⟩ ⟨#[38,38]⟩ ⟨#[124,124]⟩).f3,(z1.mk ⟨#[61,61]⟩ ⟨#[33,61]⟩ ⟨#[60,61]⟩ ⟨#[62,61]⟩ ⟨#[38,38]⟩ ⟨#[124,124]⟩).f4,(z1.mk ⟨#[61,61]⟩ ⟨#[33,61]⟩ ⟨#[60,61]⟩ ⟨#[62,61]⟩ ⟨#[38,38]⟩ ⟨#[124,124]⟩).f5]:List ByteArray).getD (A9:Int).toNat ⟨#[]⟩)),(vi 0),(vi 0),(vi 0)]) rfl rfl (nb rfl) rfl rfl fun bz ae ca=>?_
   refine o4 Tryz.isAgg103 Tryz.sizeOf103 rfl (ae.at1 (o:=0) (vs:=[(vi 4),(Value.string (([(z1.mk ⟨#[61,61]⟩ ⟨#[33,61]⟩ ⟨#[60,61]⟩ ⟨#[62,61]⟩ ⟨#[38,38]⟩ ⟨#[124,124]⟩).f0,(z1.mk ⟨#[61,61]⟩ ⟨#[33,61]⟩ ⟨#[60,61]⟩ ⟨#[62,61]⟩ ⟨#[38,38]⟩ ⟨#[124,124]⟩).f1,(z1.mk ⟨#[61,61]⟩ ⟨#[33,61]⟩ ⟨#[60,61]⟩ ⟨#[62,61]⟩ ⟨#[38,38]⟩ ⟨#[124,124]⟩).f2,(z1.mk ⟨#[61,61]⟩ ⟨#[33,61]⟩ ⟨#[60,61]⟩ ⟨#[62,61]⟩ ⟨#[38,38]⟩ ⟨#[124,124]⟩).f3,(z1.mk ⟨#[61,61]⟩ ⟨#[33,61]⟩ ⟨#[60,61]⟩ ⟨#[62,61]⟩ ⟨#[38,38]⟩ ⟨#[124,124]⟩).f4,(z1.mk ⟨#[61,61]⟩ ⟨#[33,61]⟩ ⟨#[60,61]⟩ ⟨#[62,61]⟩ ⟨#[38,38]⟩ ⟨#[124,124]⟩).f5]:List ByteArray).getD (A9:Int).toNat ⟨#[]⟩)),(vi 0),(vi 0),(vi 0)]) (nb rfl) rfl) ?_
   exact hR _ ay _ _ ((ae.drop.bring 1).bring 1) ⟨(b6.mk 4 (([(z1.mk ⟨#[61,61]⟩ ⟨#[33,61]⟩ ⟨#[60,61]⟩ ⟨#[62,61]⟩ ⟨#[38,38]⟩ ⟨#[124,124]⟩).f0,(z1.mk ⟨#[61,61]⟩ ⟨#[33,61]⟩ ⟨#[60,61]⟩ ⟨#[62,61]⟩ ⟨#[38,38]⟩ ⟨#[124,124]⟩).f1,(z1.mk ⟨#[61,61]⟩ ⟨#[33,61]⟩ ⟨#[60,61]⟩ ⟨#[62,61]⟩ ⟨#[38,38]⟩ ⟨#[124,124]⟩).f2,(z1.mk ⟨#[61,61]⟩ ⟨#[33,61]⟩ ⟨#[60,61]⟩ ⟨#[62,61]⟩ ⟨#[38,38]⟩ ⟨#[124,124]⟩).f3,(z1.mk ⟨#[61,61]⟩ ⟨#[33,61]⟩ ⟨#[60,61]⟩ ⟨#[62,61]⟩ ⟨#[38,38]⟩ ⟨#[124,124]⟩).f4,(z1.mk ⟨#[61,61]⟩ ⟨#[33,61]⟩ ⟨#[60,61]⟩ ⟨#[62,61]⟩ ⟨#[38,38]⟩ ⟨#[124,124]⟩).f5]:List ByteArray).getD (A9:Int).toNat ⟨#[]⟩) 0 (b7.mk 0 0)),0,(u1 ba),bb,bc,bd,rfl,rfl,be,h⟩
  ·refine a7 pAd ?_
   exact hn2 _ _ _ (hm2 _ _ h).2 ⟨((IntKind.wrap .i64 (A9+1)),d,q7,q8,p7,p9),ar,E8,rfl,rfl,T6,(((ad.bring 1).bring 1).bring 2),(hm2 _ _ h).1⟩
 ·exact hx1 _ _ (hj1 d q7 q8 p7 p9 E8 H _ T6 (((I.bring 2).bring 2).bring 2) h)
def a6q (x0:c8) (H:Hp) (K:g9→Hp→Prop):Prop:=
 K (g9.N4 (Q5.mk x0)) H
theorem b2U (x0) {H K} (h:a6q x0 H K):a8V x0 H K:=by
 refine Ct.of fun w0 w ps0 H0 R E I hR=>c8A ?_
 unfold a6q at h
 unfold d2g
 refine P2 I (cs:=(f7 x0)) rfl fun b c a d=>?_
 refine g5 (lW Tryz.isAgg49 Tryz.sizeOf49 rfl a) (a7 (b3N _ _ _ _ _ _ _ _) (a7 (b2q (Q5.mk x0)) ?_))
 exact hR _ H _ _ a.drop ⟨(g9.N4 (Q5.mk x0)),rfl,rfl,h⟩
def a5h (x0:a0L) (H:Hp) (K:Bool→Hp→Prop):Prop:=
 K ((decide (0≤x0.a0Y.a6T))&&(decide (x0.a0Y.a6T≤2147483647))) H
theorem b1H (x0) {H K} (h:a5h x0 H K):a7R x0 H K:=by
 refine Ct.of fun w0 w ps0 H0 R E I hR=>c8B ?_
 unfold a5h at h
 unfold d2h
 refine P2 I (cs:=(C1 x0.a0Y)) rfl fun c d b e=>?_
 refine a7 b2c (a7 b2K (g5 (l1 Tryz.isAgg3 b rfl) (a7 pGe ?_)))
 refine a7 (Pu.g fun a=>by with_reducible exact b2c) ?_
 refine a7 (Pu.g fun a=>by simp only [k7 a];with_reducible exact b2K) ?_
 refine g5 (Ld.g fun a=>by simp only [k7 a];exact (l1 Tryz.isAgg3 b rfl)) ?_
 refine a7 (Pu.g fun a=>by simp only [k7 a];with_reducible exact pLe) ?_
 refine a7 (u4 _ _) ?_
 exact hR _ H _ _ b.drop ⟨((decide (0≤x0.a0Y.a6T))&&(decide (x0.a0Y.a6T≤2147483647))),rfl,rfl,h⟩
def a4y (x0:X2) (H:Hp) (K:Sl→Hp→Prop):Prop:=
 F7 x0.m8.C3 H (fun d e=>
 C0 x0.m8.o0 e (fun f g=>
 B8 x0.m8.R8 g (fun i j=>
 B8 x0.m8.Q2 j (fun k l=>
 ∀(a:Sl) (b:Hp),Hle l b→SlH b 1 csl a [d,f,i,k]→a.n≤a.c→
 E5 a b (fun m o=>
 K m o)))))
theorem b1p (x0) {H K} (h:a4y x0 H K):a7l x0 H K:=by
 refine Ct.of fun w0 w ps0 H0 R E I hR=>c8E ?_
 unfold a4y at h
 unfold d2k
 refine P2 I (cs:=(y2 x0.m8)) rfl fun ad ae i af=>?_
 refine P3 i fun ag a=>?_
 refine o7 R4 ?_
 refine o7 a7F ?_
 refine o7 R4 ?_
 refine o7 a5q ?_
 refine o7 R4 ?_
 refine o7 b0E ?_
 refine o7 R4 ?_
 refine o7 b0F ?_
 refine t8 (l1 Tryz.isAgg47 a rfl) ?_
 refine t8 (l1 Tryz.isAgg38 a rfl) ?_
 refine t8 (l1 Tryz.isAgg24 a rfl) ?_
 refine t8 (l1 Tryz.isAgg24 a rfl) ?_
 refine g6 Tryz.call211 h a ?_
 rintro _ _ _ ah b _ d ⟨j,rfl,rfl,h⟩
 refine ⟨(d _ a.lt1 (Inv.a1B (Fi:=[]) a)),(d _ a.lt1 (Inv.a1B (Fi:=[]) a)),(d _ a.lt1 (Inv.a1B (Fi:=[]) a)),?_⟩
 refine g6 Tryz.call207 h b ?_
 rintro _ _ _ ai f _ g ⟨k,rfl,rfl,h⟩
 refine ⟨(g _ b.lt1 (Inv.a1B (Fi:=[]) b)),(g _ b.lt1 (Inv.a1B (Fi:=[]) b)),?_⟩
 refine g6 Tryz.call78 h f ?_
 rintro _ _ _ aj l _ m ⟨n,rfl,rfl,h⟩
 refine ⟨(m _ f.lt1 (Inv.a1B (Fi:=[]) f)),?_⟩
 refine g6 Tryz.call78 h l ?_
 rintro _ _ _ ak o _ _ ⟨p,rfl,rfl,h⟩
 refine V9 (e:=128) (c:=csl) (xs:=[j,k,n,p]) o (c5p _ _ _ _ _ _ _ _ _ _ _ _) rfl rfl b8y b8z (nb rfl) fun q al am r s an=>?_
 obtain ⟨t,u,v,y,z⟩:=Inv.freezeC s r (by decide)
 replace h:=h q t v y z
 refine g6 Tryz.call75 h u ?_
 rintro _ aa _ ao ab _ _ ⟨ac,rfl,rfl,h⟩
 exact hR _ aa _ _ ab.drop ⟨ac,rfl,rfl,h⟩
end Go.Proofs.YthklmeihgmcljaaGreatDoor
