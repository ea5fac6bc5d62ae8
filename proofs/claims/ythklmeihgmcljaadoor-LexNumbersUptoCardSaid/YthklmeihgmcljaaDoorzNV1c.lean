/- Typed formulas of the program's functions, and the theorems that the contracts follow from them; printed by lift.py off the code. -/
import Derived.Test.YthklmeihgmcljaaDoorzNV1
namespace Go.Proofs.YthklmeihgmcljaaDoor
open Go.RowKit
set_option maxRecDepth 100000
set_option maxHeartbeats 2000000
def J5 (x0 : Int) (x1 : Int) (x2 : Int) (H : Hp) (K : Bool → Hp → Prop) : Prop :=
 K ((decide (x0 ≤ x2)) && (decide (x2 ≤ x1))) H
theorem P9 (x0 : Int) (x1 : Int) (x2 : Int) {H : Hp} {K : Bool → Hp → Prop} (h : J5 x0 x1 x2 H K) : m8 x0 x1 x2 H K := by
 intro g2
 refine Ct.of fun w0 w ps0 H0 R E I hR => a5o ?_
 unfold J5 at h
 unfold F51
 refine o7 (l1 Tryd.isAgg21 I rfl) ?_
 refine a8 (a2u _ _ _ _ _ _) ?_
 refine o7 (Ld.g fun hb => by have a := hb; exact (l1 Tryd.isAgg21 I rfl)) ?_
 simp only [t6]
 refine a8 (Pu.g fun hb => by have a := hb; simp only [o2 a]; with_reducible exact (a2u _ _ _ _ _ _)) ?_
 refine a8 (t7 _ _) ?_
 exact hR _ H _ _ I ⟨((decide (x0 ≤ x2)) && (decide (x2 ≤ x1))), rfl, rfl, h⟩
def l9 (U3 : Bool) (a : Int) (H : Hp) (K : Int → Hp → Prop) : Prop :=
 (U3 = true →
 K 3 H) ∧
 (U3 = false →
 K 6 H)
def p6 (U4 : Bool) (a : Int) (H : Hp) (K : Int → Hp → Prop) : Prop :=
 (U4 = true →
 K 6 H) ∧
 (U4 = false →
 m8 48 57 a H (fun g b =>
 (g = true →
 K 4 b) ∧
 (g = false →
 (a = 95 →
 l9 (decide (a = 95)) a b K) ∧
 (¬ (a = 95) →
 m8 97 122 a b (fun c i =>
 (c = true →
 l9 c a i K) ∧
 (c = false →
 m8 65 90 a i (fun d j =>
 (d = true →
 l9 d a j K) ∧
 (d = false →
 m8 192 591 a j (fun e k =>
 (e = true →
 l9 e a k K) ∧
 (e = false →
 m8 913 969 a k (fun f l =>
 (f = true →
 l9 f a l K) ∧
 (f = false →
 m8 1040 1103 a l (fun m n =>
 l9 m a n K)))))))))))))
def d8 (W5 : Int) (U5 : Bool) (a : Int) (H : Hp) (K : Int → Hp → Prop) : Prop :=
 (U5 = true →
 K 5 H) ∧
 (U5 = false →
 (W5 = 215 →
 p6 (decide (W5 = 215)) a H K) ∧
 (¬ (W5 = 215) →
 (W5 = 247 →
 p6 (decide (W5 = 247)) a H K) ∧
 (¬ (W5 = 247) →
 p6 (decide (W5 = 930)) a H K)))
def p7 (j9 : Int) (C1 : Bool) (a : Int) (H : Hp) (K : Int → Hp → Prop) : Prop :=
 (C1 = true →
 K 1 H) ∧
 (C1 = false →
 (j9 = 10 →
 K 2 H) ∧
 (¬ (j9 = 10) →
 (j9 = 59 →
 d8 j9 (decide (j9 = 59)) a H K) ∧
 (¬ (j9 = 59) →
 (j9 = 44 →
 d8 j9 (decide (j9 = 44)) a H K) ∧
 (¬ (j9 = 44) →
 (j9 = 123 →
 d8 j9 (decide (j9 = 123)) a H K) ∧
 (¬ (j9 = 123) →
 (j9 = 125 →
 d8 j9 (decide (j9 = 125)) a H K) ∧
 (¬ (j9 = 125) →
 (j9 = 40 →
 d8 j9 (decide (j9 = 40)) a H K) ∧
 (¬ (j9 = 40) →
 (j9 = 41 →
 d8 j9 (decide (j9 = 41)) a H K) ∧
 (¬ (j9 = 41) →
 (j9 = 91 →
 d8 j9 (decide (j9 = 91)) a H K) ∧
 (¬ (j9 = 91) →
 (j9 = 93 →
 d8 j9 (decide (j9 = 93)) a H K) ∧
 (¬ (j9 = 93) →
 (j9 = 61 →
 d8 j9 (decide (j9 = 61)) a H K) ∧
 (¬ (j9 = 61) →
 (j9 = 33 →
 d8 j9 (decide (j9 = 33)) a H K) ∧
 (¬ (j9 = 33) →
 (j9 = 60 →
 d8 j9 (decide (j9 = 60)) a H K) ∧
 (¬ (j9 = 60) →
 (j9 = 62 →
 d8 j9 (decide (j9 = 62)) a H K) ∧
 (¬ (j9 = 62) →
 (j9 = 43 →
 d8 j9 (decide (j9 = 43)) a H K) ∧
 (¬ (j9 = 43) →
 (j9 = 45 →
 d8 j9 (decide (j9 = 45)) a H K) ∧
 (¬ (j9 = 45) →
 (j9 = 42 →
 d8 j9 (decide (j9 = 42)) a H K) ∧
 (¬ (j9 = 42) →
 (j9 = 47 →
 d8 j9 (decide (j9 = 47)) a H K) ∧
 (¬ (j9 = 47) →
 (j9 = 37 →
 d8 j9 (decide (j9 = 37)) a H K) ∧
 (¬ (j9 = 37) →
 (j9 = 38 →
 d8 j9 (decide (j9 = 38)) a H K) ∧
 (¬ (j9 = 38) →
 d8 j9 (decide (j9 = 124)) a H K))))))))))))))))))))
def E5 (x0 : Int) (H : Hp) (K : Int → Hp → Prop) : Prop :=
 (x0 = 32 →
 p7 x0 (decide (x0 = 32)) x0 H K) ∧
 (¬ (x0 = 32) →
 (x0 = 9 →
 p7 x0 (decide (x0 = 9)) x0 H K) ∧
 (¬ (x0 = 9) →
 p7 x0 (decide (x0 = 13)) x0 H K))
theorem R5 (x0 : Int) {H : Hp} {K : Int → Hp → Prop} (h : E5 x0 H K) : r3 x0 H K := by
 refine Ct.of fun w0 w ps0 H0 R E I hR => a5e ?_
 unfold E5 at h
 unfold F30
 refine a4a I (cs := [(Value.int .i32 x0)]) rfl fun a u b v => ?_
 refine o7 (l1 Tryd.isAgg21 b rfl) ?_
 have hj1 : ∀ (C1 : Bool) (H : Hp) (w : World) (_ : Inv w0 ps0 H0 H [bx a 21 [(Value.int .i32 x0)]] w) (_ : p7 x0 C1 x0 H K), a0Q (Value.pointer (some ⟨a, 0, none⟩)) (Value.int .i32 x0) (Value.bool C1) w R E := by
  intro C1 H w I h
  unfold a0Q
  intro _
  unfold p7 at h
  refine o9 h (fun _ h => ?_) (fun _ h => ?_)
  ·exact hR _ H _ _ I.drop ⟨1, rfl, rfl, h⟩
  ·refine a8 (k8 _ _ _ _ _ _) ?_
   refine k6 h (fun _ h => ?_) (fun _ h => ?_)
   ·exact hR _ H _ _ I.drop ⟨2, rfl, rfl, h⟩
   ·have hj2 : ∀ (U5 : Bool) (H : Hp) (w : World) (_ : Inv w0 ps0 H0 H [bx a 21 [(Value.int .i32 x0)]] w) (_ : d8 x0 U5 x0 H K), a0P (Value.pointer (some ⟨a, 0, none⟩)) (Value.int .i32 x0) (Value.bool U5) w R E := by
     intro U5 H w I h
     unfold a0P
     intro _
     unfold d8 at h
     refine o9 h (fun _ h => ?_) (fun _ h => ?_)
     ·exact hR _ H _ _ I.drop ⟨5, rfl, rfl, h⟩
     ·have hj3 : ∀ (U4 : Bool) (H : Hp) (w : World) (_ : Inv w0 ps0 H0 H [bx a 21 [(Value.int .i32 x0)]] w) (_ : p6 U4 x0 H K), a0O (Value.pointer (some ⟨a, 0, none⟩)) (Value.bool U4) w R E := by
       intro U4 H w I h
       unfold a0O
       intro _
       unfold p6 at h
       refine o9 h (fun _ h => ?_) (fun _ h => ?_)
       ·exact hR _ H _ _ I.drop ⟨6, rfl, rfl, h⟩
       ·refine a8 (L4 _ _ _) ?_
        refine O1 (cap := [(Value.pointer (some ⟨a, 0, none⟩))]) Tryd.call51 (h a) I ?_
        rintro _ d _ y c _ _ ⟨z, rfl, rfl, h⟩
        refine o9 h (fun _ h => ?_) (fun _ h => ?_)
        ·exact hR _ d _ _ c.drop ⟨4, rfl, rfl, h⟩
        ·have hj4 : ∀ (U3 : Bool) (H : Hp) (w : World) (_ : Inv w0 ps0 H0 H [bx a 21 [(Value.int .i32 x0)]] w) (_ : l9 U3 x0 H K), a0N (Value.bool U3) w R E := by
          intro U3 H w I h
          unfold a0N
          intro _
          unfold l9 at h
          refine o9 h (fun _ h => ?_) (fun _ h => ?_)
          ·exact hR _ H _ _ I.drop ⟨3, rfl, rfl, h⟩
          ·exact hR _ H _ _ I.drop ⟨6, rfl, rfl, h⟩
         refine B2 fun j4 hx4 => ?_
         refine o7 (l1 Tryd.isAgg21 c rfl) ?_
         refine a8 (k8 _ _ _ _ _ _) ?_
         refine k6 h (fun _ h => ?_) (fun _ h => ?_)
         ·exact hx4 _ _ (hj4 (decide (x0 = 95)) d _ c h)
         ·refine O1 (cap := [(Value.pointer (some ⟨a, 0, none⟩))]) Tryd.call51 (h a) c ?_
          rintro _ j _ aa e _ _ ⟨k, rfl, rfl, h⟩
          refine o9 h (fun _ h => ?_) (fun _ h => ?_)
          ·exact hx4 _ _ (hj4 k j _ e h)
          ·refine O1 (cap := [(Value.pointer (some ⟨a, 0, none⟩))]) Tryd.call51 (h a) e ?_
           rintro _ l _ ab f _ _ ⟨m, rfl, rfl, h⟩
           refine o9 h (fun _ h => ?_) (fun _ h => ?_)
           ·exact hx4 _ _ (hj4 m l _ f h)
           ·refine O1 (cap := [(Value.pointer (some ⟨a, 0, none⟩))]) Tryd.call51 (h a) f ?_
            rintro _ n _ ac g _ _ ⟨o, rfl, rfl, h⟩
            refine o9 h (fun _ h => ?_) (fun _ h => ?_)
            ·exact hx4 _ _ (hj4 o n _ g h)
            ·refine O1 (cap := [(Value.pointer (some ⟨a, 0, none⟩))]) Tryd.call51 (h a) g ?_
             rintro _ p _ ad i _ _ ⟨q, rfl, rfl, h⟩
             refine o9 h (fun _ h => ?_) (fun _ h => ?_)
             ·exact hx4 _ _ (hj4 q p _ i h)
             ·refine O1 (cap := [(Value.pointer (some ⟨a, 0, none⟩))]) Tryd.call51 (h a) i ?_
              rintro _ r _ ae s _ _ ⟨t, rfl, rfl, h⟩
              exact hx4 _ _ (hj4 t r _ s h)
      refine B2 fun j3 hx3 => ?_
      refine a8 (k8 _ _ _ _ _ _) ?_
      refine k6 h (fun _ h => ?_) (fun _ h => ?_)
      ·exact hx3 _ _ (hj3 (decide (x0 = 215)) H _ I h)
      ·refine a8 (k8 _ _ _ _ _ _) ?_
       refine k6 h (fun _ h => ?_) (fun _ h => ?_)
       ·exact hx3 _ _ (hj3 (decide (x0 = 247)) H _ I h)
       ·refine a8 (k8 _ _ _ _ _ _) ?_
        exact hx3 _ _ (hj3 (decide (x0 = 930)) H _ I h)
    refine B2 fun j2 hx2 => ?_
    refine a8 (k8 _ _ _ _ _ _) ?_
    refine k6 h (fun _ h => ?_) (fun _ h => ?_)
    ·exact hx2 _ _ (hj2 (decide (x0 = 59)) H _ I h)
    ·refine a8 (k8 _ _ _ _ _ _) ?_
     refine k6 h (fun _ h => ?_) (fun _ h => ?_)
     ·exact hx2 _ _ (hj2 (decide (x0 = 44)) H _ I h)
     ·refine a8 (k8 _ _ _ _ _ _) ?_
      refine k6 h (fun _ h => ?_) (fun _ h => ?_)
      ·exact hx2 _ _ (hj2 (decide (x0 = 123)) H _ I h)
      ·refine a8 (k8 _ _ _ _ _ _) ?_
       refine k6 h (fun _ h => ?_) (fun _ h => ?_)
       ·exact hx2 _ _ (hj2 (decide (x0 = 125)) H _ I h)
       ·refine a8 (k8 _ _ _ _ _ _) ?_
        refine k6 h (fun _ h => ?_) (fun _ h => ?_)
        ·exact hx2 _ _ (hj2 (decide (x0 = 40)) H _ I h)
        ·refine a8 (k8 _ _ _ _ _ _) ?_
         refine k6 h (fun _ h => ?_) (fun _ h => ?_)
         ·exact hx2 _ _ (hj2 (decide (x0 = 41)) H _ I h)
         ·refine a8 (k8 _ _ _ _ _ _) ?_
          refine k6 h (fun _ h => ?_) (fun _ h => ?_)
          ·exact hx2 _ _ (hj2 (decide (x0 = 91)) H _ I h)
          ·refine a8 (k8 _ _ _ _ _ _) ?_
           refine k6 h (fun _ h => ?_) (fun _ h => ?_)
           ·exact hx2 _ _ (hj2 (decide (x0 = 93)) H _ I h)
           ·refine a8 (k8 _ _ _ _ _ _) ?_
            refine k6 h (fun _ h => ?_) (fun _ h => ?_)
            ·exact hx2 _ _ (hj2 (decide (x0 = 61)) H _ I h)
            ·refine a8 (k8 _ _ _ _ _ _) ?_
             refine k6 h (fun _ h => ?_) (fun _ h => ?_)
             ·exact hx2 _ _ (hj2 (decide (x0 = 33)) H _ I h)
             ·refine a8 (k8 _ _ _ _ _ _) ?_
              refine k6 h (fun _ h => ?_) (fun _ h => ?_)
              ·exact hx2 _ _ (hj2 (decide (x0 = 60)) H _ I h)
              ·refine a8 (k8 _ _ _ _ _ _) ?_
               refine k6 h (fun _ h => ?_) (fun _ h => ?_)
               ·exact hx2 _ _ (hj2 (decide (x0 = 62)) H _ I h)
               ·refine a8 (k8 _ _ _ _ _ _) ?_
                refine k6 h (fun _ h => ?_) (fun _ h => ?_)
                ·exact hx2 _ _ (hj2 (decide (x0 = 43)) H _ I h)
                ·refine a8 (k8 _ _ _ _ _ _) ?_
                 refine k6 h (fun _ h => ?_) (fun _ h => ?_)
                 ·exact hx2 _ _ (hj2 (decide (x0 = 45)) H _ I h)
                 ·refine a8 (k8 _ _ _ _ _ _) ?_
                  refine k6 h (fun _ h => ?_) (fun _ h => ?_)
                  ·exact hx2 _ _ (hj2 (decide (x0 = 42)) H _ I h)
                  ·refine a8 (k8 _ _ _ _ _ _) ?_
                   refine k6 h (fun _ h => ?_) (fun _ h => ?_)
                   ·exact hx2 _ _ (hj2 (decide (x0 = 47)) H _ I h)
                   ·refine a8 (k8 _ _ _ _ _ _) ?_
                    refine k6 h (fun _ h => ?_) (fun _ h => ?_)
                    ·exact hx2 _ _ (hj2 (decide (x0 = 37)) H _ I h)
                    ·refine a8 (k8 _ _ _ _ _ _) ?_
                     refine k6 h (fun _ h => ?_) (fun _ h => ?_)
                     ·exact hx2 _ _ (hj2 (decide (x0 = 38)) H _ I h)
                     ·refine a8 (k8 _ _ _ _ _ _) ?_
                      exact hx2 _ _ (hj2 (decide (x0 = 124)) H _ I h)
 refine B2 fun j1 hx1 => ?_
 refine a8 (k8 _ _ _ _ _ _) ?_
 refine k6 h (fun _ h => ?_) (fun _ h => ?_)
 ·exact hx1 _ _ (hj1 (decide (x0 = 32)) H _ b h)
 ·refine a8 (k8 _ _ _ _ _ _) ?_
  refine k6 h (fun _ h => ?_) (fun _ h => ?_)
  ·exact hx1 _ _ (hj1 (decide (x0 = 9)) H _ b h)
  ·refine a8 (k8 _ _ _ _ _ _) ?_
   exact hx1 _ _ (hj1 (decide (x0 = 13)) H _ b h)
def E6 (x0 : ByteArray) (x1 : ByteArray) (H : Hp) (K : Bool → Hp → Prop) : Prop :=
 B4 x0 x1 H (fun a b =>
 K a b)
theorem R6 (x0 : ByteArray) (x1 : ByteArray) {H : Hp} {K : Bool → Hp → Prop} (h : E6 x0 x1 H K) : C0 x0 x1 H K := by
 refine Ct.of fun w0 w ps0 H0 R E I hR => a5g ?_
 unfold E6 at h
 unfold F38
 refine g9 Tryd.call57 h I ?_
 rintro _ a _ d b _ _ ⟨c, rfl, rfl, h⟩
 exact hR _ a _ _ b ⟨c, rfl, rfl, h⟩
def g6 (C1 : Int) (f9 : ByteArray) (g5 : Int) (j8 : b6) (k9 : (List a6)) (H : Hp) (K : ByteArray → a7 → (List a6) → Hp → Prop) : Prop :=
 (0 : Int) ≤ C1 ∧ (C1 : Int) ≤ g5 ∧ (g5 : Int) ≤ f9.size ∧
 K (f9.extract (C1 : Int).toNat (g5 : Int).toNat) (a7.mk f9 g5 j8 (Sl.mk none 0 0)) k9 H
def i7 (W4 : Int) (p1 : Int) (k7 : Bool) (d6 : ByteArray) (d7 : Int) (c6 : b6) (c7 : (List a6)) (H : Hp) (n2 : (Int × Bool × ByteArray × Int × b6 × (List a6)) → Hp → Prop) (K : ByteArray → a7 → (List a6) → Hp → Prop) : Prop :=
 TG (k7 = true) (v6 p1 H) false H (fun (b : Bool) (c : Hp) =>
 ((k7 && b) = true →
 j7 (a7.mk d6 d7 c6 (Sl.mk none 0 0)) c7 c (fun a d e =>
 g8 (f6 a) d e (fun f g i =>
 n2 (f, g, a.fs, a.fn, a.fat, d) i))) ∧
 ((k7 && b) = false →
 g6 W4 d6 d7 c6 c7 c K))
def m5 (x0 : a7) (a : (List a6)) (H : Hp) (K : ByteArray → a7 → (List a6) → Hp → Prop) : Prop :=
 g8 (f6 x0) a H (fun b c d =>
 TL ((b, c, x0.fs, x0.fn, x0.fat, a) : Int × Bool × ByteArray × Int × b6 × (List a6)) d fun (s : Int × Bool × ByteArray × Int × b6 × (List a6)) H n2 => i7 x0.fn s.1 s.2.1 s.2.2.1 s.2.2.2.1 s.2.2.2.2.1 s.2.2.2.2.2 H n2 K)
theorem y7 (x0 : a7) (q : (List a6)) {H : Hp} {K : ByteArray → a7 → (List a6) → Hp → Prop} (h : m5 x0 q H K) : m2 x0 q H K := by
 intro g0 y z aa
 refine Ct.of fun w0 w ps0 H0 R E I hR => X9 ?_
 unfold m5 at h
 unfold F37
 refine a8 (o3 _) ?_
 refine a8 s5 ?_
 refine o7 (l1 Tryd.isAgg3 I rfl) ?_
 have hj1 : ∀ (f9 : ByteArray) (g5 : Int) (j8 : b6) (k9 : (List a6)) (q8 : Sl) (m9 : Frag) (H : Hp) (w : World) (_ : RowL 33 5 b7 q8 k9 m9) (_ : Inv w0 ps0 H0 H [bx g0 44 [(Value.string f9), (vi g5), (vi j8.o4), (vi j8.r5), (vs q8)], m9] w) (_ : g6 x0.fn f9 g5 j8 k9 H K), J9 (Value.pointer (some ⟨g0, 0, none⟩)) (vi x0.fn) w R E := by
  intro f9 g5 j8 k9 q8 m9 H w C7 I h
  unfold J9
  intro _
  unfold g6 at h
  refine P5 I fun ax r => ?_
  refine m0 (o3 _) ?_
  refine m0 J8 ?_
  refine m0 (o3 _) ?_
  refine m0 s5 ?_
  refine y4 (l1 Tryd.isAgg9 r rfl) ?_
  refine y4 (l1 Tryd.isAgg3 r rfl) ?_
  obtain ⟨al, am, an, h⟩ := h
  refine m0 (Q9 f9 Tryd.underlying9 al am an) ?_
  exact hR _ H _ _ ((r.bring 1).bring 1) ⟨(f9.extract (x0.fn : Int).toNat (g5 : Int).toNat), (a7.mk f9 g5 j8 (Sl.mk none 0 0)), k9, q8, m9, rfl, rfl, C7, h⟩
 refine B2 fun j1 hx1 => ?_
 refine g9 Tryd.call20 (h g0 y z aa) ((I.bring 1).bring 1) ?_
 rintro _ ao _ ay ap _ _ ⟨ab, ac, rfl, rfl, h⟩
 refine a8 (c8 _ _ (Value.int .i32 ab) rfl) ?_
 refine a8 (c8 _ _ (Value.bool ac) rfl) ?_
 obtain ⟨t, g, aq, ar⟩ := h
 refine D2 (J := fun n l w => ∃ (s : Int × Bool × ByteArray × Int × b6 × (List a6)) (H : Hp) (m1 : Sl) (l7 : Frag) , n = g s ∧ l = (match s with | (p1, k7, d6, d7, c6, c7) => [(Value.int .i32 p1), (Value.bool k7)]) ∧ (match s with | (p1, k7, d6, d7, c6, c7) => RowL 33 5 b7 m1 c7 l7) ∧ (match s with | (p1, k7, d6, d7, c6, c7) => Inv w0 ps0 H0 H [bx g0 44 [(Value.string d6), (vi d7), (vi c6.o4), (vi c6.r5), (vs m1)], l7] w) ∧ t s H) ⟨_, (ab, ac, x0.fs, x0.fn, x0.fat, q), ao, y, z, rfl, rfl, aa, ((ap.bring 1).bring 1), aq⟩ ?_
 rintro az ba w next2 ⟨⟨p1, k7, d6, d7, c6, c7⟩, H, m1, l7, rfl, u, p5, I, au⟩ hn2
 dsimp only at u I p5
 simp only [List.map_cons, List.map_nil, List.cons.injEq, and_true] at u
 obtain ⟨e6, e7⟩ := u
 simp only [e6, e7]
 obtain ⟨n2, hm2, h⟩ : ∃ n2 : (Int × Bool × ByteArray × Int × b6 × (List a6)) → Hp → Prop, (∀ s' H', n2 s' H' → t s' H' ∧ g s' < g (p1, k7, d6, d7, c6, c7)) ∧ i7 x0.fn p1 k7 d6 d7 c6 c7 H n2 K := ⟨_, fun _ _ h => h, ar (p1, k7, d6, d7, c6, c7) H (fun s' H' => t s' H' ∧ g s' < g (p1, k7, d6, d7, c6, c7)) au (fun _ _ a b => ⟨a, b⟩)⟩
 unfold T2
 unfold i7 at h
 simp only [t6]
 refine S9 (D := fun ad j => ∃ (f : Bool) (c : Hp) , ad = (gv k7 true (Value.bool f)) ∧ (Inv w0 ps0 H0 c [bx g0 44 [(Value.string d6), (vi d7), (vi c6.o4), (vi c6.r5), (vs m1)], l7] j) ∧ (∀ i, i < w.heap.size → ¬ inF [] i → j.heap[i]? = w.heap[i]?) ∧ Hle H c ∧ (((k7 && f) = true →
 j7 (a7.mk d6 d7 c6 (Sl.mk none 0 0)) c7 c (fun (d : a7) (k : (List a6)) (ae : Hp) =>
 g8 (f6 d) k ae (fun (m : Int) (o : Bool) (v : Hp) =>
 n2 (m, o, d.fs, d.fn, d.fat, k) v))) ∧
 ((k7 && f) = false →
 g6 x0.fn d6 d7 c6 c7 c K))) (fun e => ?_) (fun e => ?_) ?_
 ·replace h := h.1 e
  have af := e
  simp only [o2 af]
  refine g9 Tryd.call40 h I ?_
  rintro _ c _ j p ag ah ⟨f, rfl, rfl, h⟩
  exact ⟨f, c, by rfl, p, ah, ag, h⟩
 ·exact ⟨false, H, by rw [Z2 e], I, fun _ _ _ => rfl, Hle.refl _, h.2 e⟩
 ·clear h
  rintro ad j ⟨f, c, rfl, p, ah, ag, h⟩
  refine a8 (t7 _ _) ?_
  refine o9 h (fun _ h => ?_) (fun _ h => ?_)
  ·refine g9 Tryd.call56 (h g0 m1 l7 p5) ((p.bring 1).bring 1) ?_
   rintro _ ae _ bb av _ _ ⟨d, k, ai, aj, rfl, rfl, ak, h⟩
   refine g9 Tryd.call20 (h g0 ai aj ak) ((av.bring 1).bring 1) ?_
   rintro _ v _ bc aw _ _ ⟨m, o, rfl, rfl, h⟩
   refine a8 (c8 _ _ (Value.int .i32 m) rfl) ?_
   refine a8 (c8 _ _ (Value.bool o) rfl) ?_
   exact hn2 _ _ _ (hm2 _ _ h).2 ⟨(m, o, d.fs, d.fn, d.fat, k), v, ai, aj, rfl, rfl, ak, ((aw.bring 1).bring 1), (hm2 _ _ h).1⟩
  ·exact hx1 _ _ (hj1 d6 d7 c6 c7 m1 l7 c _ p5 ((p.bring 1).bring 1) h)
def g7 (C1 : Int) (f9 : ByteArray) (g5 : Int) (j8 : b6) (k9 : (List a6)) (H : Hp) (K : ByteArray → a7 → (List a6) → Hp → Prop) : Prop :=
 (0 : Int) ≤ C1 ∧ (C1 : Int) ≤ g5 ∧ (g5 : Int) ≤ f9.size ∧
 K (f9.extract (C1 : Int).toNat (g5 : Int).toNat) (a7.mk f9 g5 j8 (Sl.mk none 0 0)) k9 H
def i8 (W4 : Int) (p1 : Int) (k7 : Bool) (d6 : ByteArray) (d7 : Int) (c6 : b6) (c7 : (List a6)) (H : Hp) (n2 : (Int × Bool × ByteArray × Int × b6 × (List a6)) → Hp → Prop) (K : ByteArray → a7 → (List a6) → Hp → Prop) : Prop :=
 TG (k7 = true) (v8 p1 H) false H (fun (b : Bool) (c : Hp) =>
 ((k7 && b) = true →
 j7 (a7.mk d6 d7 c6 (Sl.mk none 0 0)) c7 c (fun a d e =>
 g8 (f6 a) d e (fun f g i =>
 n2 (f, g, a.fs, a.fn, a.fat, d) i))) ∧
 ((k7 && b) = false →
 g7 W4 d6 d7 c6 c7 c K))
def m6 (x0 : a7) (a : (List a6)) (H : Hp) (K : ByteArray → a7 → (List a6) → Hp → Prop) : Prop :=
 g8 (f6 x0) a H (fun b c d =>
 TL ((b, c, x0.fs, x0.fn, x0.fat, a) : Int × Bool × ByteArray × Int × b6 × (List a6)) d fun (s : Int × Bool × ByteArray × Int × b6 × (List a6)) H n2 => i8 x0.fn s.1 s.2.1 s.2.2.1 s.2.2.2.1 s.2.2.2.2.1 s.2.2.2.2.2 H n2 K)
theorem y8 (x0 : a7) (q : (List a6)) {H : Hp} {K : ByteArray → a7 → (List a6) → Hp → Prop} (h : m6 x0 q H K) : m3 x0 q H K := by
 intro g0 y z aa
 refine Ct.of fun w0 w ps0 H0 R E I hR => X9 ?_
 unfold m6 at h
 unfold F37
 refine a8 (o3 _) ?_
 refine a8 s5 ?_
 refine o7 (l1 Tryd.isAgg3 I rfl) ?_
 have hj1 : ∀ (f9 : ByteArray) (g5 : Int) (j8 : b6) (k9 : (List a6)) (q8 : Sl) (m9 : Frag) (H : Hp) (w : World) (_ : RowL 33 5 b7 q8 k9 m9) (_ : Inv w0 ps0 H0 H [bx g0 44 [(Value.string f9), (vi g5), (vi j8.o4), (vi j8.r5), (vs q8)], m9] w) (_ : g7 x0.fn f9 g5 j8 k9 H K), J9 (Value.pointer (some ⟨g0, 0, none⟩)) (vi x0.fn) w R E := by
  intro f9 g5 j8 k9 q8 m9 H w C7 I h
  unfold J9
  intro _
  unfold g7 at h
  refine P5 I fun ax r => ?_
  refine m0 (o3 _) ?_
  refine m0 J8 ?_
  refine m0 (o3 _) ?_
  refine m0 s5 ?_
  refine y4 (l1 Tryd.isAgg9 r rfl) ?_
  refine y4 (l1 Tryd.isAgg3 r rfl) ?_
  obtain ⟨ak, al, am, h⟩ := h
  refine m0 (Q9 f9 Tryd.underlying9 ak al am) ?_
  exact hR _ H _ _ ((r.bring 1).bring 1) ⟨(f9.extract (x0.fn : Int).toNat (g5 : Int).toNat), (a7.mk f9 g5 j8 (Sl.mk none 0 0)), k9, q8, m9, rfl, rfl, C7, h⟩
 refine B2 fun j1 hx1 => ?_
 refine g9 Tryd.call20 (h g0 y z aa) ((I.bring 1).bring 1) ?_
 rintro _ an _ ay ao _ _ ⟨ab, ac, rfl, rfl, h⟩
 refine a8 (c8 _ _ (Value.int .i32 ab) rfl) ?_
 refine a8 (c8 _ _ (Value.bool ac) rfl) ?_
 obtain ⟨t, g, ap, aq⟩ := h
 refine D2 (J := fun n l w => ∃ (s : Int × Bool × ByteArray × Int × b6 × (List a6)) (H : Hp) (m1 : Sl) (l7 : Frag) , n = g s ∧ l = (match s with | (p1, k7, d6, d7, c6, c7) => [(Value.int .i32 p1), (Value.bool k7)]) ∧ (match s with | (p1, k7, d6, d7, c6, c7) => RowL 33 5 b7 m1 c7 l7) ∧ (match s with | (p1, k7, d6, d7, c6, c7) => Inv w0 ps0 H0 H [bx g0 44 [(Value.string d6), (vi d7), (vi c6.o4), (vi c6.r5), (vs m1)], l7] w) ∧ t s H) ⟨_, (ab, ac, x0.fs, x0.fn, x0.fat, q), an, y, z, rfl, rfl, aa, ((ao.bring 1).bring 1), ap⟩ ?_
 rintro az ba w next2 ⟨⟨p1, k7, d6, d7, c6, c7⟩, H, m1, l7, rfl, u, p5, I, ar⟩ hn2
 dsimp only at u I p5
 simp only [List.map_cons, List.map_nil, List.cons.injEq, and_true] at u
 obtain ⟨e6, e7⟩ := u
 simp only [e6, e7]
 obtain ⟨n2, hm2, h⟩ : ∃ n2 : (Int × Bool × ByteArray × Int × b6 × (List a6)) → Hp → Prop, (∀ s' H', n2 s' H' → t s' H' ∧ g s' < g (p1, k7, d6, d7, c6, c7)) ∧ i8 x0.fn p1 k7 d6 d7 c6 c7 H n2 K := ⟨_, fun _ _ h => h, aq (p1, k7, d6, d7, c6, c7) H (fun s' H' => t s' H' ∧ g s' < g (p1, k7, d6, d7, c6, c7)) ar (fun _ _ a b => ⟨a, b⟩)⟩
 unfold T2
 unfold i8 at h
 simp only [t6]
 refine S9 (D := fun ad j => ∃ (f : Bool) (c : Hp) , ad = (gv k7 true (Value.bool f)) ∧ (Inv w0 ps0 H0 c [bx g0 44 [(Value.string d6), (vi d7), (vi c6.o4), (vi c6.r5), (vs m1)], l7] j) ∧ (∀ i, i < w.heap.size → ¬ inF [] i → j.heap[i]? = w.heap[i]?) ∧ Hle H c ∧ (((k7 && f) = true →
 j7 (a7.mk d6 d7 c6 (Sl.mk none 0 0)) c7 c (fun (d : a7) (k : (List a6)) (au : Hp) =>
 g8 (f6 d) k au (fun (m : Int) (o : Bool) (v : Hp) =>
 n2 (m, o, d.fs, d.fn, d.fat, k) v))) ∧
 ((k7 && f) = false →
 g7 x0.fn d6 d7 c6 c7 c K))) (fun e => ?_) (fun e => ?_) ?_
 ·replace h := h.1 e
  have ae := e
  simp only [o2 ae]
  refine g9 Tryd.call58 h I ?_
  rintro _ c _ j p af ag ⟨f, rfl, rfl, h⟩
  exact ⟨f, c, by rfl, p, ag, af, h⟩
 ·exact ⟨false, H, by rw [Z2 e], I, fun _ _ _ => rfl, Hle.refl _, h.2 e⟩
 ·clear h
  rintro ad j ⟨f, c, rfl, p, ag, af, h⟩
  refine a8 (t7 _ _) ?_
  refine o9 h (fun _ h => ?_) (fun _ h => ?_)
  ·refine g9 Tryd.call56 (h g0 m1 l7 p5) ((p.bring 1).bring 1) ?_
   rintro _ _ _ bb av _ _ ⟨d, k, ah, ai, rfl, rfl, aj, h⟩
   refine g9 Tryd.call20 (h g0 ah ai aj) ((av.bring 1).bring 1) ?_
   rintro _ v _ bc aw _ _ ⟨m, o, rfl, rfl, h⟩
   refine a8 (c8 _ _ (Value.int .i32 m) rfl) ?_
   refine a8 (c8 _ _ (Value.bool o) rfl) ?_
   exact hn2 _ _ _ (hm2 _ _ h).2 ⟨(m, o, d.fs, d.fn, d.fat, k), v, ah, ai, rfl, rfl, aj, ((aw.bring 1).bring 1), (hm2 _ _ h).1⟩
  ·exact hx1 _ _ (hj1 d6 d7 c6 c7 m1 l7 c _ p5 ((p.bring 1).bring 1) h)
def D7 (H : Hp) (K : a6 → Int → Hp → Prop) : Prop :=
 K (a6.mk 0 ⟨#[]⟩ 0 (b6.mk 0 0)) 20 H
theorem M2 {H : Hp} {K : a6 → Int → Hp → Prop} (h : D7 H K) : M1 H K := by
 refine Ct.of fun w0 w ps0 H0 R E I hR => a5m ?_
 unfold D7 at h
 unfold F44
 refine u5 I Tryd.zeroValue33 (cs := [(vi 0), (Value.string ⟨#[]⟩), (vi 0), (vi 0), (vi 0)]) rfl fun c d b e => ?_
 refine a8 (a0g ) ?_
 refine m7 b Tryd.sizeOf33 (vs := [(vi 0), (Value.string ⟨#[]⟩), (vi 0), (vi 0), (vi 0)]) (cs' := [(vi 0), (Value.string ⟨#[]⟩), (vi 0), (vi 0), (vi 0)]) rfl rfl (nb rfl) rfl rfl fun f a g => ?_
 refine C3 Tryd.isAgg33 Tryd.sizeOf33 rfl (a.at1 (o := 0) (vs := [(vi 0), (Value.string ⟨#[]⟩), (vi 0), (vi 0), (vi 0)]) (nb rfl) rfl) ?_
 exact hR _ H _ _ a.drop ⟨(a6.mk 0 ⟨#[]⟩ 0 (b6.mk 0 0)), 20, rfl, rfl, h⟩
end Go.Proofs.YthklmeihgmcljaaDoor
