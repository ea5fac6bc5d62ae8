/- Typed formulas of the program's functions, and the theorems that the contracts follow from them; printed by lift.py off the code. -/
import Derived.Test.YthklmeihgmcljaaDoorzLV1
namespace Go.Proofs.YthklmeihgmcljaaDoor
open Go.RowKit
set_option maxRecDepth 100000
set_option maxHeartbeats 2000000
def K2 (x0 : Int) (x1 : Int) (x2 : Int) (H : Hp) (K : Bool → Hp → Prop) : Prop :=
 K ((decide (x0 ≤ x2)) && (decide (x2 ≤ x1))) H
theorem R0 (x0 : Int) (x1 : Int) (x2 : Int) {H : Hp} {K : Bool → Hp → Prop} (h : K2 x0 x1 x2 H K) : m8 x0 x1 x2 H K := by
 intro g2
 refine Ct.of fun w0 w ps0 H0 R E I hR => a5t ?_
 unfold K2 at h
 unfold F51
 refine o5 (l1 Tryd.isAgg21 I rfl) ?_
 refine a7 (a2B _ _ _ _ _ _) ?_
 refine o5 (Ld.g fun hb => by have a := hb; exact (l1 Tryd.isAgg21 I rfl)) ?_
 simp only [s7]
 refine a7 (Pu.g fun hb => by have a := hb; simp only [m1 a]; with_reducible exact (a2B _ _ _ _ _ _)) ?_
 refine a7 (A6 _ _) ?_
 exact hR _ H _ _ I ⟨((decide (x0 ≤ x2)) && (decide (x2 ≤ x1))), rfl, rfl, h⟩
def m0 (V3 : Bool) (a : Int) (H : Hp) (K : Int → Hp → Prop) : Prop :=
 (V3 = true →
 K 3 H) ∧
 (V3 = false →
 K 6 H)
def p7 (V4 : Bool) (a : Int) (H : Hp) (K : Int → Hp → Prop) : Prop :=
 (V4 = true →
 K 6 H) ∧
 (V4 = false →
 m8 48 57 a H (fun g b =>
 (g = true →
 K 4 b) ∧
 (g = false →
 (a = 95 →
 m0 (decide (a = 95)) a b K) ∧
 (¬ (a = 95) →
 m8 97 122 a b (fun c i =>
 (c = true →
 m0 c a i K) ∧
 (c = false →
 m8 65 90 a i (fun d j =>
 (d = true →
 m0 d a j K) ∧
 (d = false →
 m8 192 591 a j (fun e k =>
 (e = true →
 m0 e a k K) ∧
 (e = false →
 m8 913 969 a k (fun f l =>
 (f = true →
 m0 f a l K) ∧
 (f = false →
 m8 1040 1103 a l (fun m n =>
 m0 m a n K)))))))))))))
def d7 (X4 : Int) (V5 : Bool) (a : Int) (H : Hp) (K : Int → Hp → Prop) : Prop :=
 (V5 = true →
 K 5 H) ∧
 (V5 = false →
 (X4 = 215 →
 p7 (decide (X4 = 215)) a H K) ∧
 (¬ (X4 = 215) →
 (X4 = 247 →
 p7 (decide (X4 = 247)) a H K) ∧
 (¬ (X4 = 247) →
 p7 (decide (X4 = 930)) a H K)))
def p8 (k6 : Int) (u7 : Bool) (a : Int) (H : Hp) (K : Int → Hp → Prop) : Prop :=
 (u7 = true →
 K 1 H) ∧
 (u7 = false →
 (k6 = 10 →
 K 2 H) ∧
 (¬ (k6 = 10) →
 (k6 = 59 →
 d7 k6 (decide (k6 = 59)) a H K) ∧
 (¬ (k6 = 59) →
 (k6 = 44 →
 d7 k6 (decide (k6 = 44)) a H K) ∧
 (¬ (k6 = 44) →
 (k6 = 123 →
 d7 k6 (decide (k6 = 123)) a H K) ∧
 (¬ (k6 = 123) →
 (k6 = 125 →
 d7 k6 (decide (k6 = 125)) a H K) ∧
 (¬ (k6 = 125) →
 (k6 = 40 →
 d7 k6 (decide (k6 = 40)) a H K) ∧
 (¬ (k6 = 40) →
 (k6 = 41 →
 d7 k6 (decide (k6 = 41)) a H K) ∧
 (¬ (k6 = 41) →
 (k6 = 91 →
 d7 k6 (decide (k6 = 91)) a H K) ∧
 (¬ (k6 = 91) →
 (k6 = 93 →
 d7 k6 (decide (k6 = 93)) a H K) ∧
 (¬ (k6 = 93) →
 (k6 = 61 →
 d7 k6 (decide (k6 = 61)) a H K) ∧
 (¬ (k6 = 61) →
 (k6 = 33 →
 d7 k6 (decide (k6 = 33)) a H K) ∧
 (¬ (k6 = 33) →
 (k6 = 60 →
 d7 k6 (decide (k6 = 60)) a H K) ∧
 (¬ (k6 = 60) →
 (k6 = 62 →
 d7 k6 (decide (k6 = 62)) a H K) ∧
 (¬ (k6 = 62) →
 (k6 = 43 →
 d7 k6 (decide (k6 = 43)) a H K) ∧
 (¬ (k6 = 43) →
 (k6 = 45 →
 d7 k6 (decide (k6 = 45)) a H K) ∧
 (¬ (k6 = 45) →
 (k6 = 42 →
 d7 k6 (decide (k6 = 42)) a H K) ∧
 (¬ (k6 = 42) →
 (k6 = 47 →
 d7 k6 (decide (k6 = 47)) a H K) ∧
 (¬ (k6 = 47) →
 (k6 = 37 →
 d7 k6 (decide (k6 = 37)) a H K) ∧
 (¬ (k6 = 37) →
 (k6 = 38 →
 d7 k6 (decide (k6 = 38)) a H K) ∧
 (¬ (k6 = 38) →
 d7 k6 (decide (k6 = 124)) a H K))))))))))))))))))))
def G1 (x0 : Int) (H : Hp) (K : Int → Hp → Prop) : Prop :=
 (x0 = 32 →
 p8 x0 (decide (x0 = 32)) x0 H K) ∧
 (¬ (x0 = 32) →
 (x0 = 9 →
 p8 x0 (decide (x0 = 9)) x0 H K) ∧
 (¬ (x0 = 9) →
 p8 x0 (decide (x0 = 13)) x0 H K))
theorem S6 (x0 : Int) {H : Hp} {K : Int → Hp → Prop} (h : G1 x0 H K) : r9 x0 H K := by
 refine Ct.of fun w0 w ps0 H0 R E I hR => a5j ?_
 unfold G1 at h
 unfold F30
 refine a4h I (cs := [(Value.int .i32 x0)]) rfl fun a u b v => ?_
 refine o5 (l1 Tryd.isAgg21 b rfl) ?_
 have hj1 : ∀ (u7 : Bool) (H : Hp) (w : World) (_ : Inv w0 ps0 H0 H [bx a 21 [(Value.int .i32 x0)]] w) (_ : p8 x0 u7 x0 H K), a1b (Value.pointer (some ⟨a, 0, none⟩)) (Value.int .i32 x0) (Value.bool u7) w R E := by
  intro u7 H w I h
  unfold a1b
  intro _
  unfold p8 at h
  refine o6 h (fun _ h => ?_) (fun _ h => ?_)
  ·exact hR _ H _ _ I.drop ⟨1, rfl, rfl, h⟩
  ·refine a7 (l8 _ _ _ _ _ _) ?_
   refine k7 h (fun _ h => ?_) (fun _ h => ?_)
   ·exact hR _ H _ _ I.drop ⟨2, rfl, rfl, h⟩
   ·have hj2 : ∀ (V5 : Bool) (H : Hp) (w : World) (_ : Inv w0 ps0 H0 H [bx a 21 [(Value.int .i32 x0)]] w) (_ : d7 x0 V5 x0 H K), a1a (Value.pointer (some ⟨a, 0, none⟩)) (Value.int .i32 x0) (Value.bool V5) w R E := by
     intro V5 H w I h
     unfold a1a
     intro _
     unfold d7 at h
     refine o6 h (fun _ h => ?_) (fun _ h => ?_)
     ·exact hR _ H _ _ I.drop ⟨5, rfl, rfl, h⟩
     ·have hj3 : ∀ (V4 : Bool) (H : Hp) (w : World) (_ : Inv w0 ps0 H0 H [bx a 21 [(Value.int .i32 x0)]] w) (_ : p7 V4 x0 H K), a0Z (Value.pointer (some ⟨a, 0, none⟩)) (Value.bool V4) w R E := by
       intro V4 H w I h
       unfold a0Z
       intro _
       unfold p7 at h
       refine o6 h (fun _ h => ?_) (fun _ h => ?_)
       ·exact hR _ H _ _ I.drop ⟨6, rfl, rfl, h⟩
       ·refine a7 (M6 _ _ _) ?_
        refine P2 (cap := [(Value.pointer (some ⟨a, 0, none⟩))]) Tryd.call51 (h a) I ?_
        rintro _ d _ y c _ _ ⟨z, rfl, rfl, h⟩
        refine o6 h (fun _ h => ?_) (fun _ h => ?_)
        ·exact hR _ d _ _ c.drop ⟨4, rfl, rfl, h⟩
        ·have hj4 : ∀ (V3 : Bool) (H : Hp) (w : World) (_ : Inv w0 ps0 H0 H [bx a 21 [(Value.int .i32 x0)]] w) (_ : m0 V3 x0 H K), a0Y (Value.bool V3) w R E := by
          intro V3 H w I h
          unfold a0Y
          intro _
          unfold m0 at h
          refine o6 h (fun _ h => ?_) (fun _ h => ?_)
          ·exact hR _ H _ _ I.drop ⟨3, rfl, rfl, h⟩
          ·exact hR _ H _ _ I.drop ⟨6, rfl, rfl, h⟩
         refine A7 fun j4 hx4 => ?_
         refine o5 (l1 Tryd.isAgg21 c rfl) ?_
         refine a7 (l8 _ _ _ _ _ _) ?_
         refine k7 h (fun _ h => ?_) (fun _ h => ?_)
         ·exact hx4 _ _ (hj4 (decide (x0 = 95)) d _ c h)
         ·refine P2 (cap := [(Value.pointer (some ⟨a, 0, none⟩))]) Tryd.call51 (h a) c ?_
          rintro _ j _ aa e _ _ ⟨k, rfl, rfl, h⟩
          refine o6 h (fun _ h => ?_) (fun _ h => ?_)
          ·exact hx4 _ _ (hj4 k j _ e h)
          ·refine P2 (cap := [(Value.pointer (some ⟨a, 0, none⟩))]) Tryd.call51 (h a) e ?_
           rintro _ l _ ab f _ _ ⟨m, rfl, rfl, h⟩
           refine o6 h (fun _ h => ?_) (fun _ h => ?_)
           ·exact hx4 _ _ (hj4 m l _ f h)
           ·refine P2 (cap := [(Value.pointer (some ⟨a, 0, none⟩))]) Tryd.call51 (h a) f ?_
            rintro _ n _ ac g _ _ ⟨o, rfl, rfl, h⟩
            refine o6 h (fun _ h => ?_) (fun _ h => ?_)
            ·exact hx4 _ _ (hj4 o n _ g h)
            ·refine P2 (cap := [(Value.pointer (some ⟨a, 0, none⟩))]) Tryd.call51 (h a) g ?_
             rintro _ p _ ad i _ _ ⟨q, rfl, rfl, h⟩
             refine o6 h (fun _ h => ?_) (fun _ h => ?_)
             ·exact hx4 _ _ (hj4 q p _ i h)
             ·refine P2 (cap := [(Value.pointer (some ⟨a, 0, none⟩))]) Tryd.call51 (h a) i ?_
              rintro _ r _ ae s _ _ ⟨t, rfl, rfl, h⟩
              exact hx4 _ _ (hj4 t r _ s h)
      refine A7 fun j3 hx3 => ?_
      refine a7 (l8 _ _ _ _ _ _) ?_
      refine k7 h (fun _ h => ?_) (fun _ h => ?_)
      ·exact hx3 _ _ (hj3 (decide (x0 = 215)) H _ I h)
      ·refine a7 (l8 _ _ _ _ _ _) ?_
       refine k7 h (fun _ h => ?_) (fun _ h => ?_)
       ·exact hx3 _ _ (hj3 (decide (x0 = 247)) H _ I h)
       ·refine a7 (l8 _ _ _ _ _ _) ?_
        exact hx3 _ _ (hj3 (decide (x0 = 930)) H _ I h)
    refine A7 fun j2 hx2 => ?_
    refine a7 (l8 _ _ _ _ _ _) ?_
    refine k7 h (fun _ h => ?_) (fun _ h => ?_)
    ·exact hx2 _ _ (hj2 (decide (x0 = 59)) H _ I h)
    ·refine a7 (l8 _ _ _ _ _ _) ?_
     refine k7 h (fun _ h => ?_) (fun _ h => ?_)
     ·exact hx2 _ _ (hj2 (decide (x0 = 44)) H _ I h)
     ·refine a7 (l8 _ _ _ _ _ _) ?_
      refine k7 h (fun _ h => ?_) (fun _ h => ?_)
      ·exact hx2 _ _ (hj2 (decide (x0 = 123)) H _ I h)
      ·refine a7 (l8 _ _ _ _ _ _) ?_
       refine k7 h (fun _ h => ?_) (fun _ h => ?_)
       ·exact hx2 _ _ (hj2 (decide (x0 = 125)) H _ I h)
       ·refine a7 (l8 _ _ _ _ _ _) ?_
        refine k7 h (fun _ h => ?_) (fun _ h => ?_)
        ·exact hx2 _ _ (hj2 (decide (x0 = 40)) H _ I h)
        ·refine a7 (l8 _ _ _ _ _ _) ?_
         refine k7 h (fun _ h => ?_) (fun _ h => ?_)
         ·exact hx2 _ _ (hj2 (decide (x0 = 41)) H _ I h)
         ·refine a7 (l8 _ _ _ _ _ _) ?_
          refine k7 h (fun _ h => ?_) (fun _ h => ?_)
          ·exact hx2 _ _ (hj2 (decide (x0 = 91)) H _ I h)
          ·refine a7 (l8 _ _ _ _ _ _) ?_
           refine k7 h (fun _ h => ?_) (fun _ h => ?_)
           ·exact hx2 _ _ (hj2 (decide (x0 = 93)) H _ I h)
           ·refine a7 (l8 _ _ _ _ _ _) ?_
            refine k7 h (fun _ h => ?_) (fun _ h => ?_)
            ·exact hx2 _ _ (hj2 (decide (x0 = 61)) H _ I h)
            ·refine a7 (l8 _ _ _ _ _ _) ?_
             refine k7 h (fun _ h => ?_) (fun _ h => ?_)
             ·exact hx2 _ _ (hj2 (decide (x0 = 33)) H _ I h)
             ·refine a7 (l8 _ _ _ _ _ _) ?_
              refine k7 h (fun _ h => ?_) (fun _ h => ?_)
              ·exact hx2 _ _ (hj2 (decide (x0 = 60)) H _ I h)
              ·refine a7 (l8 _ _ _ _ _ _) ?_
               refine k7 h (fun _ h => ?_) (fun _ h => ?_)
               ·exact hx2 _ _ (hj2 (decide (x0 = 62)) H _ I h)
               ·refine a7 (l8 _ _ _ _ _ _) ?_
                refine k7 h (fun _ h => ?_) (fun _ h => ?_)
                ·exact hx2 _ _ (hj2 (decide (x0 = 43)) H _ I h)
                ·refine a7 (l8 _ _ _ _ _ _) ?_
                 refine k7 h (fun _ h => ?_) (fun _ h => ?_)
                 ·exact hx2 _ _ (hj2 (decide (x0 = 45)) H _ I h)
                 ·refine a7 (l8 _ _ _ _ _ _) ?_
                  refine k7 h (fun _ h => ?_) (fun _ h => ?_)
                  ·exact hx2 _ _ (hj2 (decide (x0 = 42)) H _ I h)
                  ·refine a7 (l8 _ _ _ _ _ _) ?_
                   refine k7 h (fun _ h => ?_) (fun _ h => ?_)
                   ·exact hx2 _ _ (hj2 (decide (x0 = 47)) H _ I h)
                   ·refine a7 (l8 _ _ _ _ _ _) ?_
                    refine k7 h (fun _ h => ?_) (fun _ h => ?_)
                    ·exact hx2 _ _ (hj2 (decide (x0 = 37)) H _ I h)
                    ·refine a7 (l8 _ _ _ _ _ _) ?_
                     refine k7 h (fun _ h => ?_) (fun _ h => ?_)
                     ·exact hx2 _ _ (hj2 (decide (x0 = 38)) H _ I h)
                     ·refine a7 (l8 _ _ _ _ _ _) ?_
                      exact hx2 _ _ (hj2 (decide (x0 = 124)) H _ I h)
 refine A7 fun j1 hx1 => ?_
 refine a7 (l8 _ _ _ _ _ _) ?_
 refine k7 h (fun _ h => ?_) (fun _ h => ?_)
 ·exact hx1 _ _ (hj1 (decide (x0 = 32)) H _ b h)
 ·refine a7 (l8 _ _ _ _ _ _) ?_
  refine k7 h (fun _ h => ?_) (fun _ h => ?_)
  ·exact hx1 _ _ (hj1 (decide (x0 = 9)) H _ b h)
  ·refine a7 (l8 _ _ _ _ _ _) ?_
   exact hx1 _ _ (hj1 (decide (x0 = 13)) H _ b h)
def G2 (x0 : ByteArray) (x1 : ByteArray) (H : Hp) (K : Bool → Hp → Prop) : Prop :=
 C1 x0 x1 H (fun a b =>
 K a b)
theorem S7 (x0 : ByteArray) (x1 : ByteArray) {H : Hp} {K : Bool → Hp → Prop} (h : G2 x0 x1 H K) : C8 x0 x1 H K := by
 refine Ct.of fun w0 w ps0 H0 R E I hR => a5l ?_
 unfold G2 at h
 unfold F38
 refine j7 Tryd.call57 h I ?_
 rintro _ a _ d b _ _ ⟨c, rfl, rfl, h⟩
 exact hR _ a _ _ b ⟨c, rfl, rfl, h⟩
def g7 (u7 : Int) (g5 : ByteArray) (g6 : Int) (j9 : b6) (k9 : (List a6)) (H : Hp) (K : ByteArray → a8 → (List a6) → Hp → Prop) : Prop :=
 (0 : Int) ≤ u7 ∧ (u7 : Int) ≤ g6 ∧ (g6 : Int) ≤ g5.size ∧
 K (g5.extract (u7 : Int).toNat (g6 : Int).toNat) (a8.mk g5 g6 j9 (Sl.mk none 0 0)) k9 H
def i7 (X2 : Int) (p5 : Int) (k8 : Bool) (c8 : ByteArray) (d6 : Int) (c6 : b6) (c7 : (List a6)) (H : Hp) (n2 : (Int × Bool × ByteArray × Int × b6 × (List a6)) → Hp → Prop) (K : ByteArray → a8 → (List a6) → Hp → Prop) : Prop :=
 TG (k8 = true) (y2 p5 H) false H (fun (b : Bool) (c : Hp) =>
 ((k8 && b) = true →
 j8 (a8.mk c8 d6 c6 (Sl.mk none 0 0)) c7 c (fun a d e =>
 g9 (f7 a) d e (fun f g i =>
 n2 (f, g, a.fs, a.fn, a.fat, d) i))) ∧
 ((k8 && b) = false →
 g7 X2 c8 d6 c6 c7 c K))
def m6 (x0 : a8) (a : (List a6)) (H : Hp) (K : ByteArray → a8 → (List a6) → Hp → Prop) : Prop :=
 g9 (f7 x0) a H (fun b c d =>
 TL ((b, c, x0.fs, x0.fn, x0.fat, a) : Int × Bool × ByteArray × Int × b6 × (List a6)) d fun (s : Int × Bool × ByteArray × Int × b6 × (List a6)) H n2 => i7 x0.fn s.1 s.2.1 s.2.2.1 s.2.2.2.1 s.2.2.2.2.1 s.2.2.2.2.2 H n2 K)
theorem z6 (x0 : a8) (q : (List a6)) {H : Hp} {K : ByteArray → a8 → (List a6) → Hp → Prop} (h : m6 x0 q H K) : m3 x0 q H K := by
 intro g0 y z aa
 refine Ct.of fun w0 w ps0 H0 R E I hR => Z0 ?_
 unfold m6 at h
 unfold F37
 refine a7 (o2 _) ?_
 refine a7 u0 ?_
 refine o5 (l1 Tryd.isAgg3 I rfl) ?_
 have hj1 : ∀ (g5 : ByteArray) (g6 : Int) (j9 : b6) (k9 : (List a6)) (q9 : Sl) (m9 : Frag) (H : Hp) (w : World) (_ : RowL 33 5 b7 q9 k9 m9) (_ : Inv w0 ps0 H0 H [bx g0 44 [(Value.string g5), (vi g6), (vi j9.o4), (vi j9.s6), (vs q9)], m9] w) (_ : g7 x0.fn g5 g6 j9 k9 H K), K6 (Value.pointer (some ⟨g0, 0, none⟩)) (vi x0.fn) w R E := by
  intro g5 g6 j9 k9 q9 m9 H w D7 I h
  unfold K6
  intro _
  unfold g7 at h
  refine R8 I fun ax r => ?_
  refine o9 (o2 _) ?_
  refine o9 K5 ?_
  refine o9 (o2 _) ?_
  refine o9 u0 ?_
  refine E1 (l1 Tryd.isAgg9 r rfl) ?_
  refine E1 (l1 Tryd.isAgg3 r rfl) ?_
  obtain ⟨al, am, an, h⟩ := h
  refine o9 (R9 g5 Tryd.underlying9 al am an) ?_
  exact hR _ H _ _ ((r.bring 1).bring 1) ⟨(g5.extract (x0.fn : Int).toNat (g6 : Int).toNat), (a8.mk g5 g6 j9 (Sl.mk none 0 0)), k9, q9, m9, rfl, rfl, D7, h⟩
 refine A7 fun j1 hx1 => ?_
 refine j7 Tryd.call20 (h g0 y z aa) ((I.bring 1).bring 1) ?_
 rintro _ ao _ ay ap _ _ ⟨ab, ac, rfl, rfl, h⟩
 refine a7 (d8 _ _ (Value.int .i32 ab) rfl) ?_
 refine a7 (d8 _ _ (Value.bool ac) rfl) ?_
 obtain ⟨t, g, aq, ar⟩ := h
 refine D2 (J := fun n l w => ∃ (s : Int × Bool × ByteArray × Int × b6 × (List a6)) (H : Hp) (m2 : Sl) (l7 : Frag) , n = g s ∧ l = (match s with | (p5, k8, c8, d6, c6, c7) => [(Value.int .i32 p5), (Value.bool k8)]) ∧ (match s with | (p5, k8, c8, d6, c6, c7) => RowL 33 5 b7 m2 c7 l7) ∧ (match s with | (p5, k8, c8, d6, c6, c7) => Inv w0 ps0 H0 H [bx g0 44 [(Value.string c8), (vi d6), (vi c6.o4), (vi c6.s6), (vs m2)], l7] w) ∧ t s H) ⟨_, (ab, ac, x0.fs, x0.fn, x0.fat, q), ao, y, z, rfl, rfl, aa, ((ap.bring 1).bring 1), aq⟩ ?_
 rintro az ba w next2 ⟨⟨p5, k8, c8, d6, c6, c7⟩, H, m2, l7, rfl, u, p6, I, au⟩ hn2
 dsimp only at u I p6
 simp only [List.map_cons, List.map_nil, List.cons.injEq, and_true] at u
 obtain ⟨e6, e7⟩ := u
 simp only [e6, e7]
 obtain ⟨n2, hm2, h⟩ : ∃ n2 : (Int × Bool × ByteArray × Int × b6 × (List a6)) → Hp → Prop, (∀ s' H', n2 s' H' → t s' H' ∧ g s' < g (p5, k8, c8, d6, c6, c7)) ∧ i7 x0.fn p5 k8 c8 d6 c6 c7 H n2 K := ⟨_, fun _ _ h => h, ar (p5, k8, c8, d6, c6, c7) H (fun s' H' => t s' H' ∧ g s' < g (p5, k8, c8, d6, c6, c7)) au (fun _ _ a b => ⟨a, b⟩)⟩
 unfold U2
 unfold i7 at h
 simp only [s7]
 refine U1 (D := fun ad j => ∃ (f : Bool) (c : Hp) , ad = (gv k8 true (Value.bool f)) ∧ (Inv w0 ps0 H0 c [bx g0 44 [(Value.string c8), (vi d6), (vi c6.o4), (vi c6.s6), (vs m2)], l7] j) ∧ (∀ i, i < w.heap.size → ¬ inF [] i → j.heap[i]? = w.heap[i]?) ∧ Hle H c ∧ (((k8 && f) = true →
 j8 (a8.mk c8 d6 c6 (Sl.mk none 0 0)) c7 c (fun (d : a8) (k : (List a6)) (ae : Hp) =>
 g9 (f7 d) k ae (fun (m : Int) (o : Bool) (v : Hp) =>
 n2 (m, o, d.fs, d.fn, d.fat, k) v))) ∧
 ((k8 && f) = false →
 g7 x0.fn c8 d6 c6 c7 c K))) (fun e => ?_) (fun e => ?_) ?_
 ·replace h := h.1 e
  have af := e
  simp only [m1 af]
  refine j7 Tryd.call40 h I ?_
  rintro _ c _ j p ag ah ⟨f, rfl, rfl, h⟩
  exact ⟨f, c, by rfl, p, ah, ag, h⟩
 ·exact ⟨false, H, by rw [a0P e], I, fun _ _ _ => rfl, Hle.refl _, h.2 e⟩
 ·clear h
  rintro ad j ⟨f, c, rfl, p, ah, ag, h⟩
  refine a7 (A6 _ _) ?_
  refine o6 h (fun _ h => ?_) (fun _ h => ?_)
  ·refine j7 Tryd.call56 (h g0 m2 l7 p6) ((p.bring 1).bring 1) ?_
   rintro _ ae _ bb av _ _ ⟨d, k, ai, aj, rfl, rfl, ak, h⟩
   refine j7 Tryd.call20 (h g0 ai aj ak) ((av.bring 1).bring 1) ?_
   rintro _ v _ bc aw _ _ ⟨m, o, rfl, rfl, h⟩
   refine a7 (d8 _ _ (Value.int .i32 m) rfl) ?_
   refine a7 (d8 _ _ (Value.bool o) rfl) ?_
   exact hn2 _ _ _ (hm2 _ _ h).2 ⟨(m, o, d.fs, d.fn, d.fat, k), v, ai, aj, rfl, rfl, ak, ((aw.bring 1).bring 1), (hm2 _ _ h).1⟩
  ·exact hx1 _ _ (hj1 c8 d6 c6 c7 m2 l7 c _ p6 ((p.bring 1).bring 1) h)
def g8 (u7 : Int) (g5 : ByteArray) (g6 : Int) (j9 : b6) (k9 : (List a6)) (H : Hp) (K : ByteArray → a8 → (List a6) → Hp → Prop) : Prop :=
 (0 : Int) ≤ u7 ∧ (u7 : Int) ≤ g6 ∧ (g6 : Int) ≤ g5.size ∧
 K (g5.extract (u7 : Int).toNat (g6 : Int).toNat) (a8.mk g5 g6 j9 (Sl.mk none 0 0)) k9 H
def i8 (X2 : Int) (p5 : Int) (k8 : Bool) (c8 : ByteArray) (d6 : Int) (c6 : b6) (c7 : (List a6)) (H : Hp) (n2 : (Int × Bool × ByteArray × Int × b6 × (List a6)) → Hp → Prop) (K : ByteArray → a8 → (List a6) → Hp → Prop) : Prop :=
 TG (k8 = true) (y4 p5 H) false H (fun (b : Bool) (c : Hp) =>
 ((k8 && b) = true →
 j8 (a8.mk c8 d6 c6 (Sl.mk none 0 0)) c7 c (fun a d e =>
 g9 (f7 a) d e (fun f g i =>
 n2 (f, g, a.fs, a.fn, a.fat, d) i))) ∧
 ((k8 && b) = false →
 g8 X2 c8 d6 c6 c7 c K))
def m7 (x0 : a8) (a : (List a6)) (H : Hp) (K : ByteArray → a8 → (List a6) → Hp → Prop) : Prop :=
 g9 (f7 x0) a H (fun b c d =>
 TL ((b, c, x0.fs, x0.fn, x0.fat, a) : Int × Bool × ByteArray × Int × b6 × (List a6)) d fun (s : Int × Bool × ByteArray × Int × b6 × (List a6)) H n2 => i8 x0.fn s.1 s.2.1 s.2.2.1 s.2.2.2.1 s.2.2.2.2.1 s.2.2.2.2.2 H n2 K)
theorem z7 (x0 : a8) (q : (List a6)) {H : Hp} {K : ByteArray → a8 → (List a6) → Hp → Prop} (h : m7 x0 q H K) : m4 x0 q H K := by
 intro g0 y z aa
 refine Ct.of fun w0 w ps0 H0 R E I hR => Z0 ?_
 unfold m7 at h
 unfold F37
 refine a7 (o2 _) ?_
 refine a7 u0 ?_
 refine o5 (l1 Tryd.isAgg3 I rfl) ?_
 have hj1 : ∀ (g5 : ByteArray) (g6 : Int) (j9 : b6) (k9 : (List a6)) (q9 : Sl) (m9 : Frag) (H : Hp) (w : World) (_ : RowL 33 5 b7 q9 k9 m9) (_ : Inv w0 ps0 H0 H [bx g0 44 [(Value.string g5), (vi g6), (vi j9.o4), (vi j9.s6), (vs q9)], m9] w) (_ : g8 x0.fn g5 g6 j9 k9 H K), K6 (Value.pointer (some ⟨g0, 0, none⟩)) (vi x0.fn) w R E := by
  intro g5 g6 j9 k9 q9 m9 H w D7 I h
  unfold K6
  intro _
  unfold g8 at h
  refine R8 I fun ax r => ?_
  refine o9 (o2 _) ?_
  refine o9 K5 ?_
  refine o9 (o2 _) ?_
  refine o9 u0 ?_
  refine E1 (l1 Tryd.isAgg9 r rfl) ?_
  refine E1 (l1 Tryd.isAgg3 r rfl) ?_
  obtain ⟨ak, al, am, h⟩ := h
  refine o9 (R9 g5 Tryd.underlying9 ak al am) ?_
  exact hR _ H _ _ ((r.bring 1).bring 1) ⟨(g5.extract (x0.fn : Int).toNat (g6 : Int).toNat), (a8.mk g5 g6 j9 (Sl.mk none 0 0)), k9, q9, m9, rfl, rfl, D7, h⟩
 refine A7 fun j1 hx1 => ?_
 refine j7 Tryd.call20 (h g0 y z aa) ((I.bring 1).bring 1) ?_
 rintro _ an _ ay ao _ _ ⟨ab, ac, rfl, rfl, h⟩
 refine a7 (d8 _ _ (Value.int .i32 ab) rfl) ?_
 refine a7 (d8 _ _ (Value.bool ac) rfl) ?_
 obtain ⟨t, g, ap, aq⟩ := h
 refine D2 (J := fun n l w => ∃ (s : Int × Bool × ByteArray × Int × b6 × (List a6)) (H : Hp) (m2 : Sl) (l7 : Frag) , n = g s ∧ l = (match s with | (p5, k8, c8, d6, c6, c7) => [(Value.int .i32 p5), (Value.bool k8)]) ∧ (match s with | (p5, k8, c8, d6, c6, c7) => RowL 33 5 b7 m2 c7 l7) ∧ (match s with | (p5, k8, c8, d6, c6, c7) => Inv w0 ps0 H0 H [bx g0 44 [(Value.string c8), (vi d6), (vi c6.o4), (vi c6.s6), (vs m2)], l7] w) ∧ t s H) ⟨_, (ab, ac, x0.fs, x0.fn, x0.fat, q), an, y, z, rfl, rfl, aa, ((ao.bring 1).bring 1), ap⟩ ?_
 rintro az ba w next2 ⟨⟨p5, k8, c8, d6, c6, c7⟩, H, m2, l7, rfl, u, p6, I, ar⟩ hn2
 dsimp only at u I p6
 simp only [List.map_cons, List.map_nil, List.cons.injEq, and_true] at u
 obtain ⟨e6, e7⟩ := u
 simp only [e6, e7]
 obtain ⟨n2, hm2, h⟩ : ∃ n2 : (Int × Bool × ByteArray × Int × b6 × (List a6)) → Hp → Prop, (∀ s' H', n2 s' H' → t s' H' ∧ g s' < g (p5, k8, c8, d6, c6, c7)) ∧ i8 x0.fn p5 k8 c8 d6 c6 c7 H n2 K := ⟨_, fun _ _ h => h, aq (p5, k8, c8, d6, c6, c7) H (fun s' H' => t s' H' ∧ g s' < g (p5, k8, c8, d6, c6, c7)) ar (fun _ _ a b => ⟨a, b⟩)⟩
 unfold U2
 unfold i8 at h
 simp only [s7]
 refine U1 (D := fun ad j => ∃ (f : Bool) (c : Hp) , ad = (gv k8 true (Value.bool f)) ∧ (Inv w0 ps0 H0 c [bx g0 44 [(Value.string c8), (vi d6), (vi c6.o4), (vi c6.s6), (vs m2)], l7] j) ∧ (∀ i, i < w.heap.size → ¬ inF [] i → j.heap[i]? = w.heap[i]?) ∧ Hle H c ∧ (((k8 && f) = true →
 j8 (a8.mk c8 d6 c6 (Sl.mk none 0 0)) c7 c (fun (d : a8) (k : (List a6)) (au : Hp) =>
 g9 (f7 d) k au (fun (m : Int) (o : Bool) (v : Hp) =>
 n2 (m, o, d.fs, d.fn, d.fat, k) v))) ∧
 ((k8 && f) = false →
 g8 x0.fn c8 d6 c6 c7 c K))) (fun e => ?_) (fun e => ?_) ?_
 ·replace h := h.1 e
  have ae := e
  simp only [m1 ae]
  refine j7 Tryd.call58 h I ?_
  rintro _ c _ j p af ag ⟨f, rfl, rfl, h⟩
  exact ⟨f, c, by rfl, p, ag, af, h⟩
 ·exact ⟨false, H, by rw [a0P e], I, fun _ _ _ => rfl, Hle.refl _, h.2 e⟩
 ·clear h
  rintro ad j ⟨f, c, rfl, p, ag, af, h⟩
  refine a7 (A6 _ _) ?_
  refine o6 h (fun _ h => ?_) (fun _ h => ?_)
  ·refine j7 Tryd.call56 (h g0 m2 l7 p6) ((p.bring 1).bring 1) ?_
   rintro _ _ _ bb av _ _ ⟨d, k, ah, ai, rfl, rfl, aj, h⟩
   refine j7 Tryd.call20 (h g0 ah ai aj) ((av.bring 1).bring 1) ?_
   rintro _ v _ bc aw _ _ ⟨m, o, rfl, rfl, h⟩
   refine a7 (d8 _ _ (Value.int .i32 m) rfl) ?_
   refine a7 (d8 _ _ (Value.bool o) rfl) ?_
   exact hn2 _ _ _ (hm2 _ _ h).2 ⟨(m, o, d.fs, d.fn, d.fat, k), v, ah, ai, rfl, rfl, aj, ((aw.bring 1).bring 1), (hm2 _ _ h).1⟩
  ·exact hx1 _ _ (hj1 c8 d6 c6 c7 m2 l7 c _ p6 ((p.bring 1).bring 1) h)
def E5 (H : Hp) (K : a6 → Int → Hp → Prop) : Prop :=
 K (a6.mk 0 ⟨#[]⟩ 0 (b6.mk 0 0)) 20 H
theorem N5 {H : Hp} {K : a6 → Int → Hp → Prop} (h : E5 H K) : N4 H K := by
 refine Ct.of fun w0 w ps0 H0 R E I hR => a5r ?_
 unfold E5 at h
 unfold F44
 refine B5 I Tryd.zeroValue33 (cs := [(vi 0), (Value.string ⟨#[]⟩), (vi 0), (vi 0), (vi 0)]) rfl fun c d b e => ?_
 refine a7 (a0s ) ?_
 refine o3 b Tryd.sizeOf33 (vs := [(vi 0), (Value.string ⟨#[]⟩), (vi 0), (vi 0), (vi 0)]) (cs' := [(vi 0), (Value.string ⟨#[]⟩), (vi 0), (vi 0), (vi 0)]) rfl rfl (nb rfl) rfl rfl fun f a g => ?_
 refine D1 Tryd.isAgg33 Tryd.sizeOf33 rfl (a.at1 (o := 0) (vs := [(vi 0), (Value.string ⟨#[]⟩), (vi 0), (vi 0), (vi 0)]) (nb rfl) rfl) ?_
 exact hR _ H _ _ a.drop ⟨(a6.mk 0 ⟨#[]⟩ 0 (b6.mk 0 0)), 20, rfl, rfl, h⟩
end Go.Proofs.YthklmeihgmcljaaDoor
