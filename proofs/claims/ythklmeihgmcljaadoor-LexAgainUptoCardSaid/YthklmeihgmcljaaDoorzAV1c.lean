/- Typed formulas of the program's functions, and the theorems that the contracts follow from them; printed by lift.py off the code. -/
import Derived.Test.YthklmeihgmcljaaDoorzAV1
namespace Go.Proofs.YthklmeihgmcljaaDoor
open Go.RowKit
set_option maxRecDepth 100000
set_option maxHeartbeats 2000000
def L9 (x0 : Int) (x1 : Int) (x2 : Int) (H : Hp) (K : Bool → Hp → Prop) : Prop :=
 K ((decide (x0 ≤ x2)) && (decide (x2 ≤ x1))) H
theorem S7 (x0 : Int) (x1 : Int) (x2 : Int) {H : Hp} {K : Bool → Hp → Prop} (h : L9 x0 x1 x2 H K) : o6 x0 x1 x2 H K := by
 intro g2
 refine Ct.of fun w0 w ps0 H0 R E I hR => a5N ?_
 unfold L9 at h
 unfold F51
 refine q6 (l1 Tryd.isAgg21 I rfl) ?_
 refine a7 (a2U _ _ _ _ _ _) ?_
 refine q6 (Ld.g fun hb => by have a := hb; exact (l1 Tryd.isAgg21 I rfl)) ?_
 simp only [v8]
 refine a7 (Pu.g fun hb => by have a := hb; simp only [m7 a]; with_reducible exact (a2U _ _ _ _ _ _)) ?_
 refine a7 (E3 _ _) ?_
 exact hR _ H _ _ I ⟨((decide (x0 ≤ x2)) && (decide (x2 ≤ x1))), rfl, rfl, h⟩
def m5 (W6 : Bool) (a : Int) (H : Hp) (K : Int → Hp → Prop) : Prop :=
 (W6 = true →
 K 3 H) ∧
 (W6 = false →
 K 6 H)
def r7 (W7 : Bool) (a : Int) (H : Hp) (K : Int → Hp → Prop) : Prop :=
 (W7 = true →
 K 6 H) ∧
 (W7 = false →
 o6 48 57 a H (fun g b =>
 (g = true →
 K 4 b) ∧
 (g = false →
 (a = 95 →
 m5 (decide (a = 95)) a b K) ∧
 (¬ (a = 95) →
 o6 97 122 a b (fun c i =>
 (c = true →
 m5 c a i K) ∧
 (c = false →
 o6 65 90 a i (fun d j =>
 (d = true →
 m5 d a j K) ∧
 (d = false →
 o6 192 591 a j (fun e k =>
 (e = true →
 m5 e a k K) ∧
 (e = false →
 o6 913 969 a k (fun f l =>
 (f = true →
 m5 f a l K) ∧
 (f = false →
 o6 1040 1103 a l (fun m n =>
 m5 m a n K)))))))))))))
def d9 (Y6 : Int) (W8 : Bool) (a : Int) (H : Hp) (K : Int → Hp → Prop) : Prop :=
 (W8 = true →
 K 5 H) ∧
 (W8 = false →
 (Y6 = 215 →
 r7 (decide (Y6 = 215)) a H K) ∧
 (¬ (Y6 = 215) →
 (Y6 = 247 →
 r7 (decide (Y6 = 247)) a H K) ∧
 (¬ (Y6 = 247) →
 r7 (decide (Y6 = 930)) a H K)))
def r8 (k8 : Int) (B4 : Bool) (a : Int) (H : Hp) (K : Int → Hp → Prop) : Prop :=
 (B4 = true →
 K 1 H) ∧
 (B4 = false →
 (k8 = 10 →
 K 2 H) ∧
 (¬ (k8 = 10) →
 (k8 = 59 →
 d9 k8 (decide (k8 = 59)) a H K) ∧
 (¬ (k8 = 59) →
 (k8 = 44 →
 d9 k8 (decide (k8 = 44)) a H K) ∧
 (¬ (k8 = 44) →
 (k8 = 123 →
 d9 k8 (decide (k8 = 123)) a H K) ∧
 (¬ (k8 = 123) →
 (k8 = 125 →
 d9 k8 (decide (k8 = 125)) a H K) ∧
 (¬ (k8 = 125) →
 (k8 = 40 →
 d9 k8 (decide (k8 = 40)) a H K) ∧
 (¬ (k8 = 40) →
 (k8 = 41 →
 d9 k8 (decide (k8 = 41)) a H K) ∧
 (¬ (k8 = 41) →
 (k8 = 91 →
 d9 k8 (decide (k8 = 91)) a H K) ∧
 (¬ (k8 = 91) →
 (k8 = 93 →
 d9 k8 (decide (k8 = 93)) a H K) ∧
 (¬ (k8 = 93) →
 (k8 = 61 →
 d9 k8 (decide (k8 = 61)) a H K) ∧
 (¬ (k8 = 61) →
 (k8 = 33 →
 d9 k8 (decide (k8 = 33)) a H K) ∧
 (¬ (k8 = 33) →
 (k8 = 60 →
 d9 k8 (decide (k8 = 60)) a H K) ∧
 (¬ (k8 = 60) →
 (k8 = 62 →
 d9 k8 (decide (k8 = 62)) a H K) ∧
 (¬ (k8 = 62) →
 (k8 = 43 →
 d9 k8 (decide (k8 = 43)) a H K) ∧
 (¬ (k8 = 43) →
 (k8 = 45 →
 d9 k8 (decide (k8 = 45)) a H K) ∧
 (¬ (k8 = 45) →
 (k8 = 42 →
 d9 k8 (decide (k8 = 42)) a H K) ∧
 (¬ (k8 = 42) →
 (k8 = 47 →
 d9 k8 (decide (k8 = 47)) a H K) ∧
 (¬ (k8 = 47) →
 (k8 = 37 →
 d9 k8 (decide (k8 = 37)) a H K) ∧
 (¬ (k8 = 37) →
 (k8 = 38 →
 d9 k8 (decide (k8 = 38)) a H K) ∧
 (¬ (k8 = 38) →
 d9 k8 (decide (k8 = 124)) a H K))))))))))))))))))))
def H8 (x0 : Int) (H : Hp) (K : Int → Hp → Prop) : Prop :=
 (x0 = 32 →
 r8 x0 (decide (x0 = 32)) x0 H K) ∧
 (¬ (x0 = 32) →
 (x0 = 9 →
 r8 x0 (decide (x0 = 9)) x0 H K) ∧
 (¬ (x0 = 9) →
 r8 x0 (decide (x0 = 13)) x0 H K))
theorem T9 (x0 : Int) {H : Hp} {K : Int → Hp → Prop} (h : H8 x0 H K) : t6 x0 H K := by
 refine Ct.of fun w0 w ps0 H0 R E I hR => a5D ?_
 unfold H8 at h
 unfold F30
 refine a4w I (cs := [(Value.int .i32 x0)]) rfl fun a u b v => ?_
 refine q6 (l1 Tryd.isAgg21 b rfl) ?_
 have hj1 : ∀ (B4 : Bool) (H : Hp) (w : World) (_ : Inv w0 ps0 H0 H [bx a 21 [(Value.int .i32 x0)]] w) (_ : r8 x0 B4 x0 H K), a1g (Value.pointer (some ⟨a, 0, none⟩)) (Value.int .i32 x0) (Value.bool B4) w R E := by
  intro B4 H w I h
  unfold a1g
  intro _
  unfold r8 at h
  refine o7 h (fun _ h => ?_) (fun _ h => ?_)
  ·exact hR _ H _ _ I.drop ⟨1, rfl, rfl, h⟩
  ·refine a7 (m0 _ _ _ _ _ _) ?_
   refine j9 h (fun _ h => ?_) (fun _ h => ?_)
   ·exact hR _ H _ _ I.drop ⟨2, rfl, rfl, h⟩
   ·have hj2 : ∀ (W8 : Bool) (H : Hp) (w : World) (_ : Inv w0 ps0 H0 H [bx a 21 [(Value.int .i32 x0)]] w) (_ : d9 x0 W8 x0 H K), a1f (Value.pointer (some ⟨a, 0, none⟩)) (Value.int .i32 x0) (Value.bool W8) w R E := by
     intro W8 H w I h
     unfold a1f
     intro _
     unfold d9 at h
     refine o7 h (fun _ h => ?_) (fun _ h => ?_)
     ·exact hR _ H _ _ I.drop ⟨5, rfl, rfl, h⟩
     ·have hj3 : ∀ (W7 : Bool) (H : Hp) (w : World) (_ : Inv w0 ps0 H0 H [bx a 21 [(Value.int .i32 x0)]] w) (_ : r7 W7 x0 H K), a1e (Value.pointer (some ⟨a, 0, none⟩)) (Value.bool W7) w R E := by
       intro W7 H w I h
       unfold a1e
       intro _
       unfold r7 at h
       refine o7 h (fun _ h => ?_) (fun _ h => ?_)
       ·exact hR _ H _ _ I.drop ⟨6, rfl, rfl, h⟩
       ·refine a7 (O2 _ _ _) ?_
        refine R0 (cap := [(Value.pointer (some ⟨a, 0, none⟩))]) Tryd.call51 (h a) I ?_
        rintro _ d _ y c _ _ ⟨z, rfl, rfl, h⟩
        refine o7 h (fun _ h => ?_) (fun _ h => ?_)
        ·exact hR _ d _ _ c.drop ⟨4, rfl, rfl, h⟩
        ·have hj4 : ∀ (W6 : Bool) (H : Hp) (w : World) (_ : Inv w0 ps0 H0 H [bx a 21 [(Value.int .i32 x0)]] w) (_ : m5 W6 x0 H K), a1d (Value.bool W6) w R E := by
          intro W6 H w I h
          unfold a1d
          intro _
          unfold m5 at h
          refine o7 h (fun _ h => ?_) (fun _ h => ?_)
          ·exact hR _ H _ _ I.drop ⟨3, rfl, rfl, h⟩
          ·exact hR _ H _ _ I.drop ⟨6, rfl, rfl, h⟩
         refine y4 fun j4 hx4 => ?_
         refine q6 (l1 Tryd.isAgg21 c rfl) ?_
         refine a7 (m0 _ _ _ _ _ _) ?_
         refine j9 h (fun _ h => ?_) (fun _ h => ?_)
         ·exact hx4 _ _ (hj4 (decide (x0 = 95)) d _ c h)
         ·refine R0 (cap := [(Value.pointer (some ⟨a, 0, none⟩))]) Tryd.call51 (h a) c ?_
          rintro _ j _ aa e _ _ ⟨k, rfl, rfl, h⟩
          refine o7 h (fun _ h => ?_) (fun _ h => ?_)
          ·exact hx4 _ _ (hj4 k j _ e h)
          ·refine R0 (cap := [(Value.pointer (some ⟨a, 0, none⟩))]) Tryd.call51 (h a) e ?_
           rintro _ l _ ab f _ _ ⟨m, rfl, rfl, h⟩
           refine o7 h (fun _ h => ?_) (fun _ h => ?_)
           ·exact hx4 _ _ (hj4 m l _ f h)
           ·refine R0 (cap := [(Value.pointer (some ⟨a, 0, none⟩))]) Tryd.call51 (h a) f ?_
            rintro _ n _ ac g _ _ ⟨o, rfl, rfl, h⟩
            refine o7 h (fun _ h => ?_) (fun _ h => ?_)
            ·exact hx4 _ _ (hj4 o n _ g h)
            ·refine R0 (cap := [(Value.pointer (some ⟨a, 0, none⟩))]) Tryd.call51 (h a) g ?_
             rintro _ p _ ad i _ _ ⟨q, rfl, rfl, h⟩
             refine o7 h (fun _ h => ?_) (fun _ h => ?_)
             ·exact hx4 _ _ (hj4 q p _ i h)
             ·refine R0 (cap := [(Value.pointer (some ⟨a, 0, none⟩))]) Tryd.call51 (h a) i ?_
              rintro _ r _ ae s _ _ ⟨t, rfl, rfl, h⟩
              exact hx4 _ _ (hj4 t r _ s h)
      refine y4 fun j3 hx3 => ?_
      refine a7 (m0 _ _ _ _ _ _) ?_
      refine j9 h (fun _ h => ?_) (fun _ h => ?_)
      ·exact hx3 _ _ (hj3 (decide (x0 = 215)) H _ I h)
      ·refine a7 (m0 _ _ _ _ _ _) ?_
       refine j9 h (fun _ h => ?_) (fun _ h => ?_)
       ·exact hx3 _ _ (hj3 (decide (x0 = 247)) H _ I h)
       ·refine a7 (m0 _ _ _ _ _ _) ?_
        exact hx3 _ _ (hj3 (decide (x0 = 930)) H _ I h)
    refine y4 fun j2 hx2 => ?_
    refine a7 (m0 _ _ _ _ _ _) ?_
    refine j9 h (fun _ h => ?_) (fun _ h => ?_)
    ·exact hx2 _ _ (hj2 (decide (x0 = 59)) H _ I h)
    ·refine a7 (m0 _ _ _ _ _ _) ?_
     refine j9 h (fun _ h => ?_) (fun _ h => ?_)
     ·exact hx2 _ _ (hj2 (decide (x0 = 44)) H _ I h)
     ·refine a7 (m0 _ _ _ _ _ _) ?_
      refine j9 h (fun _ h => ?_) (fun _ h => ?_)
      ·exact hx2 _ _ (hj2 (decide (x0 = 123)) H _ I h)
      ·refine a7 (m0 _ _ _ _ _ _) ?_
       refine j9 h (fun _ h => ?_) (fun _ h => ?_)
       ·exact hx2 _ _ (hj2 (decide (x0 = 125)) H _ I h)
       ·refine a7 (m0 _ _ _ _ _ _) ?_
        refine j9 h (fun _ h => ?_) (fun _ h => ?_)
        ·exact hx2 _ _ (hj2 (decide (x0 = 40)) H _ I h)
        ·refine a7 (m0 _ _ _ _ _ _) ?_
         refine j9 h (fun _ h => ?_) (fun _ h => ?_)
         ·exact hx2 _ _ (hj2 (decide (x0 = 41)) H _ I h)
         ·refine a7 (m0 _ _ _ _ _ _) ?_
          refine j9 h (fun _ h => ?_) (fun _ h => ?_)
          ·exact hx2 _ _ (hj2 (decide (x0 = 91)) H _ I h)
          ·refine a7 (m0 _ _ _ _ _ _) ?_
           refine j9 h (fun _ h => ?_) (fun _ h => ?_)
           ·exact hx2 _ _ (hj2 (decide (x0 = 93)) H _ I h)
           ·refine a7 (m0 _ _ _ _ _ _) ?_
            refine j9 h (fun _ h => ?_) (fun _ h => ?_)
            ·exact hx2 _ _ (hj2 (decide (x0 = 61)) H _ I h)
            ·refine a7 (m0 _ _ _ _ _ _) ?_
             refine j9 h (fun _ h => ?_) (fun _ h => ?_)
             ·exact hx2 _ _ (hj2 (decide (x0 = 33)) H _ I h)
             ·refine a7 (m0 _ _ _ _ _ _) ?_
              refine j9 h (fun _ h => ?_) (fun _ h => ?_)
              ·exact hx2 _ _ (hj2 (decide (x0 = 60)) H _ I h)
              ·refine a7 (m0 _ _ _ _ _ _) ?_
               refine j9 h (fun _ h => ?_) (fun _ h => ?_)
               ·exact hx2 _ _ (hj2 (decide (x0 = 62)) H _ I h)
               ·refine a7 (m0 _ _ _ _ _ _) ?_
                refine j9 h (fun _ h => ?_) (fun _ h => ?_)
                ·exact hx2 _ _ (hj2 (decide (x0 = 43)) H _ I h)
                ·refine a7 (m0 _ _ _ _ _ _) ?_
                 refine j9 h (fun _ h => ?_) (fun _ h => ?_)
                 ·exact hx2 _ _ (hj2 (decide (x0 = 45)) H _ I h)
                 ·refine a7 (m0 _ _ _ _ _ _) ?_
                  refine j9 h (fun _ h => ?_) (fun _ h => ?_)
                  ·exact hx2 _ _ (hj2 (decide (x0 = 42)) H _ I h)
                  ·refine a7 (m0 _ _ _ _ _ _) ?_
                   refine j9 h (fun _ h => ?_) (fun _ h => ?_)
                   ·exact hx2 _ _ (hj2 (decide (x0 = 47)) H _ I h)
                   ·refine a7 (m0 _ _ _ _ _ _) ?_
                    refine j9 h (fun _ h => ?_) (fun _ h => ?_)
                    ·exact hx2 _ _ (hj2 (decide (x0 = 37)) H _ I h)
                    ·refine a7 (m0 _ _ _ _ _ _) ?_
                     refine j9 h (fun _ h => ?_) (fun _ h => ?_)
                     ·exact hx2 _ _ (hj2 (decide (x0 = 38)) H _ I h)
                     ·refine a7 (m0 _ _ _ _ _ _) ?_
                      exact hx2 _ _ (hj2 (decide (x0 = 124)) H _ I h)
 refine y4 fun j1 hx1 => ?_
 refine a7 (m0 _ _ _ _ _ _) ?_
 refine j9 h (fun _ h => ?_) (fun _ h => ?_)
 ·exact hx1 _ _ (hj1 (decide (x0 = 32)) H _ b h)
 ·refine a7 (m0 _ _ _ _ _ _) ?_
  refine j9 h (fun _ h => ?_) (fun _ h => ?_)
  ·exact hx1 _ _ (hj1 (decide (x0 = 9)) H _ b h)
  ·refine a7 (m0 _ _ _ _ _ _) ?_
   exact hx1 _ _ (hj1 (decide (x0 = 13)) H _ b h)
def H9 (x0 : ByteArray) (x1 : ByteArray) (H : Hp) (K : Bool → Hp → Prop) : Prop :=
 D1 x0 x1 H (fun a b =>
 K a b)
theorem U0 (x0 : ByteArray) (x1 : ByteArray) {H : Hp} {K : Bool → Hp → Prop} (h : H9 x0 x1 H K) : D8 x0 x1 H K := by
 refine Ct.of fun w0 w ps0 H0 R E I hR => a5F ?_
 unfold H9 at h
 unfold F38
 refine i7 Tryd.call57 h I ?_
 rintro _ a _ d b _ _ ⟨c, rfl, rfl, h⟩
 exact hR _ a _ _ b ⟨c, rfl, rfl, h⟩
def g8 (B4 : Int) (g6 : ByteArray) (g7 : Int) (k7 : b7) (l0 : (List a6)) (H : Hp) (K : ByteArray → a8 → (List a6) → Hp → Prop) : Prop :=
 (0 : Int) ≤ B4 ∧ (B4 : Int) ≤ g7 ∧ (g7 : Int) ≤ g6.size ∧
 K (g6.extract (B4 : Int).toNat (g7 : Int).toNat) (a8.mk g6 g7 k7 (Sl.mk none 0 0)) l0 H
def j6 (Y5 : Int) (q8 : Int) (k9 : Bool) (d7 : ByteArray) (d8 : Int) (c8 : b7) (d6 : (List a6)) (H : Hp) (n2 : (Int × Bool × ByteArray × Int × b7 × (List a6)) → Hp → Prop) (K : ByteArray → a8 → (List a6) → Hp → Prop) : Prop :=
 TG (k9 = true) (y9 q8 H) false H (fun (b : Bool) (c : Hp) =>
 ((k9 && b) = true →
 k6 (a8.mk d7 d8 c8 (Sl.mk none 0 0)) d6 c (fun a d e =>
 i6 (f8 a) d e (fun f g i =>
 n2 (f, g, a.fs, a.fn, a.fat, d) i))) ∧
 ((k9 && b) = false →
 g8 Y5 d7 d8 c8 d6 c K))
def o3 (x0 : a8) (a : (List a6)) (H : Hp) (K : ByteArray → a8 → (List a6) → Hp → Prop) : Prop :=
 i6 (f8 x0) a H (fun b c d =>
 TL ((b, c, x0.fs, x0.fn, x0.fat, a) : Int × Bool × ByteArray × Int × b7 × (List a6)) d fun (s : Int × Bool × ByteArray × Int × b7 × (List a6)) H n2 => j6 x0.fn s.1 s.2.1 s.2.2.1 s.2.2.2.1 s.2.2.2.2.1 s.2.2.2.2.2 H n2 K)
theorem A8 (x0 : a8) (q : (List a6)) {H : Hp} {K : ByteArray → a8 → (List a6) → Hp → Prop} (h : o3 x0 q H K) : m9 x0 q H K := by
 intro g0 y z aa
 refine Ct.of fun w0 w ps0 H0 R E I hR => a0b ?_
 unfold o3 at h
 unfold F37
 refine a7 (p8 _) ?_
 refine a7 u6 ?_
 refine q6 (l1 Tryd.isAgg3 I rfl) ?_
 have hj1 : ∀ (g6 : ByteArray) (g7 : Int) (k7 : b7) (l0 : (List a6)) (s6 : Sl) (o8 : Frag) (H : Hp) (w : World) (_ : RowL 33 5 b9 s6 l0 o8) (_ : Inv w0 ps0 H0 H [bx g0 44 [(Value.string g6), (vi g7), (vi k7.s5), (vi k7.y2), (vs s6)], o8] w) (_ : g8 x0.fn g6 g7 k7 l0 H K), M4 (Value.pointer (some ⟨g0, 0, none⟩)) (vi x0.fn) w R E := by
  intro g6 g7 k7 l0 s6 o8 H w E7 I h
  unfold M4
  intro _
  unfold g8 at h
  refine S5 I fun ax r => ?_
  refine m4 (p8 _) ?_
  refine m4 M3 ?_
  refine m4 (p8 _) ?_
  refine m4 u6 ?_
  refine D7 (l1 Tryd.isAgg9 r rfl) ?_
  refine D7 (l1 Tryd.isAgg3 r rfl) ?_
  obtain ⟨al, am, an, h⟩ := h
  refine m4 (T4 g6 Tryd.underlying9 al am an) ?_
  exact hR _ H _ _ ((r.bring 1).bring 1) ⟨(g6.extract (x0.fn : Int).toNat (g7 : Int).toNat), (a8.mk g6 g7 k7 (Sl.mk none 0 0)), l0, s6, o8, rfl, rfl, E7, h⟩
 refine y4 fun j1 hx1 => ?_
 refine i7 Tryd.call20 (h g0 y z aa) ((I.bring 1).bring 1) ?_
 rintro _ ao _ ay ap _ _ ⟨ab, ac, rfl, rfl, h⟩
 refine a7 (f6 _ _ (Value.int .i32 ab) rfl) ?_
 refine a7 (f6 _ _ (Value.bool ac) rfl) ?_
 obtain ⟨t, g, aq, ar⟩ := h
 refine E1 (J := fun n l w => ∃ (s : Int × Bool × ByteArray × Int × b7 × (List a6)) (H : Hp) (m8 : Sl) (l8 : Frag) , n = g s ∧ l = (match s with | (q8, k9, d7, d8, c8, d6) => [(Value.int .i32 q8), (Value.bool k9)]) ∧ (match s with | (q8, k9, d7, d8, c8, d6) => RowL 33 5 b9 m8 d6 l8) ∧ (match s with | (q8, k9, d7, d8, c8, d6) => Inv w0 ps0 H0 H [bx g0 44 [(Value.string d7), (vi d8), (vi c8.s5), (vi c8.y2), (vs m8)], l8] w) ∧ t s H) ⟨_, (ab, ac, x0.fs, x0.fn, x0.fat, q), ao, y, z, rfl, rfl, aa, ((ap.bring 1).bring 1), aq⟩ ?_
 rintro az ba w next2 ⟨⟨q8, k9, d7, d8, c8, d6⟩, H, m8, l8, rfl, u, q9, I, au⟩ hn2
 dsimp only at u I q9
 simp only [List.map_cons, List.map_nil, List.cons.injEq, and_true] at u
 obtain ⟨e6, e7⟩ := u
 simp only [e6, e7]
 obtain ⟨n2, hm2, h⟩ : ∃ n2 : (Int × Bool × ByteArray × Int × b7 × (List a6)) → Hp → Prop, (∀ s' H', n2 s' H' → t s' H' ∧ g s' < g (q8, k9, d7, d8, c8, d6)) ∧ j6 x0.fn q8 k9 d7 d8 c8 d6 H n2 K := ⟨_, fun _ _ h => h, ar (q8, k9, d7, d8, c8, d6) H (fun s' H' => t s' H' ∧ g s' < g (q8, k9, d7, d8, c8, d6)) au (fun _ _ a b => ⟨a, b⟩)⟩
 unfold V4
 unfold j6 at h
 simp only [v8]
 refine V3 (D := fun ad j => ∃ (f : Bool) (c : Hp) , ad = (gv k9 true (Value.bool f)) ∧ (Inv w0 ps0 H0 c [bx g0 44 [(Value.string d7), (vi d8), (vi c8.s5), (vi c8.y2), (vs m8)], l8] j) ∧ (∀ i, i < w.heap.size → ¬ inF [] i → j.heap[i]? = w.heap[i]?) ∧ Hle H c ∧ (((k9 && f) = true →
 k6 (a8.mk d7 d8 c8 (Sl.mk none 0 0)) d6 c (fun (d : a8) (k : (List a6)) (ae : Hp) =>
 i6 (f8 d) k ae (fun (m : Int) (o : Bool) (v : Hp) =>
 n2 (m, o, d.fs, d.fn, d.fat, k) v))) ∧
 ((k9 && f) = false →
 g8 x0.fn d7 d8 c8 d6 c K))) (fun e => ?_) (fun e => ?_) ?_
 ·replace h := h.1 e
  have af := e
  simp only [m7 af]
  refine i7 Tryd.call40 h I ?_
  rintro _ c _ j p ag ah ⟨f, rfl, rfl, h⟩
  exact ⟨f, c, by rfl, p, ah, ag, h⟩
 ·exact ⟨false, H, by rw [a0o e], I, fun _ _ _ => rfl, Hle.refl _, h.2 e⟩
 ·clear h
  rintro ad j ⟨f, c, rfl, p, ah, ag, h⟩
  refine a7 (E3 _ _) ?_
  refine o7 h (fun _ h => ?_) (fun _ h => ?_)
  ·refine i7 Tryd.call56 (h g0 m8 l8 q9) ((p.bring 1).bring 1) ?_
   rintro _ ae _ bb av _ _ ⟨d, k, ai, aj, rfl, rfl, ak, h⟩
   refine i7 Tryd.call20 (h g0 ai aj ak) ((av.bring 1).bring 1) ?_
   rintro _ v _ bc aw _ _ ⟨m, o, rfl, rfl, h⟩
   refine a7 (f6 _ _ (Value.int .i32 m) rfl) ?_
   refine a7 (f6 _ _ (Value.bool o) rfl) ?_
   exact hn2 _ _ _ (hm2 _ _ h).2 ⟨(m, o, d.fs, d.fn, d.fat, k), v, ai, aj, rfl, rfl, ak, ((aw.bring 1).bring 1), (hm2 _ _ h).1⟩
  ·exact hx1 _ _ (hj1 d7 d8 c8 d6 m8 l8 c _ q9 ((p.bring 1).bring 1) h)
def g9 (B4 : Int) (g6 : ByteArray) (g7 : Int) (k7 : b7) (l0 : (List a6)) (H : Hp) (K : ByteArray → a8 → (List a6) → Hp → Prop) : Prop :=
 (0 : Int) ≤ B4 ∧ (B4 : Int) ≤ g7 ∧ (g7 : Int) ≤ g6.size ∧
 K (g6.extract (B4 : Int).toNat (g7 : Int).toNat) (a8.mk g6 g7 k7 (Sl.mk none 0 0)) l0 H
def j7 (Y5 : Int) (q8 : Int) (k9 : Bool) (d7 : ByteArray) (d8 : Int) (c8 : b7) (d6 : (List a6)) (H : Hp) (n2 : (Int × Bool × ByteArray × Int × b7 × (List a6)) → Hp → Prop) (K : ByteArray → a8 → (List a6) → Hp → Prop) : Prop :=
 TG (k9 = true) (z6 q8 H) false H (fun (b : Bool) (c : Hp) =>
 ((k9 && b) = true →
 k6 (a8.mk d7 d8 c8 (Sl.mk none 0 0)) d6 c (fun a d e =>
 i6 (f8 a) d e (fun f g i =>
 n2 (f, g, a.fs, a.fn, a.fat, d) i))) ∧
 ((k9 && b) = false →
 g9 Y5 d7 d8 c8 d6 c K))
def o4 (x0 : a8) (a : (List a6)) (H : Hp) (K : ByteArray → a8 → (List a6) → Hp → Prop) : Prop :=
 i6 (f8 x0) a H (fun b c d =>
 TL ((b, c, x0.fs, x0.fn, x0.fat, a) : Int × Bool × ByteArray × Int × b7 × (List a6)) d fun (s : Int × Bool × ByteArray × Int × b7 × (List a6)) H n2 => j7 x0.fn s.1 s.2.1 s.2.2.1 s.2.2.2.1 s.2.2.2.2.1 s.2.2.2.2.2 H n2 K)
theorem A9 (x0 : a8) (q : (List a6)) {H : Hp} {K : ByteArray → a8 → (List a6) → Hp → Prop} (h : o4 x0 q H K) : o0 x0 q H K := by
 intro g0 y z aa
 refine Ct.of fun w0 w ps0 H0 R E I hR => a0b ?_
 unfold o4 at h
 unfold F37
 refine a7 (p8 _) ?_
 refine a7 u6 ?_
 refine q6 (l1 Tryd.isAgg3 I rfl) ?_
 have hj1 : ∀ (g6 : ByteArray) (g7 : Int) (k7 : b7) (l0 : (List a6)) (s6 : Sl) (o8 : Frag) (H : Hp) (w : World) (_ : RowL 33 5 b9 s6 l0 o8) (_ : Inv w0 ps0 H0 H [bx g0 44 [(Value.string g6), (vi g7), (vi k7.s5), (vi k7.y2), (vs s6)], o8] w) (_ : g9 x0.fn g6 g7 k7 l0 H K), M4 (Value.pointer (some ⟨g0, 0, none⟩)) (vi x0.fn) w R E := by
  intro g6 g7 k7 l0 s6 o8 H w E7 I h
  unfold M4
  intro _
  unfold g9 at h
  refine S5 I fun ax r => ?_
  refine m4 (p8 _) ?_
  refine m4 M3 ?_
  refine m4 (p8 _) ?_
  refine m4 u6 ?_
  refine D7 (l1 Tryd.isAgg9 r rfl) ?_
  refine D7 (l1 Tryd.isAgg3 r rfl) ?_
  obtain ⟨ak, al, am, h⟩ := h
  refine m4 (T4 g6 Tryd.underlying9 ak al am) ?_
  exact hR _ H _ _ ((r.bring 1).bring 1) ⟨(g6.extract (x0.fn : Int).toNat (g7 : Int).toNat), (a8.mk g6 g7 k7 (Sl.mk none 0 0)), l0, s6, o8, rfl, rfl, E7, h⟩
 refine y4 fun j1 hx1 => ?_
 refine i7 Tryd.call20 (h g0 y z aa) ((I.bring 1).bring 1) ?_
 rintro _ an _ ay ao _ _ ⟨ab, ac, rfl, rfl, h⟩
 refine a7 (f6 _ _ (Value.int .i32 ab) rfl) ?_
 refine a7 (f6 _ _ (Value.bool ac) rfl) ?_
 obtain ⟨t, g, ap, aq⟩ := h
 refine E1 (J := fun n l w => ∃ (s : Int × Bool × ByteArray × Int × b7 × (List a6)) (H : Hp) (m8 : Sl) (l8 : Frag) , n = g s ∧ l = (match s with | (q8, k9, d7, d8, c8, d6) => [(Value.int .i32 q8), (Value.bool k9)]) ∧ (match s with | (q8, k9, d7, d8, c8, d6) => RowL 33 5 b9 m8 d6 l8) ∧ (match s with | (q8, k9, d7, d8, c8, d6) => Inv w0 ps0 H0 H [bx g0 44 [(Value.string d7), (vi d8), (vi c8.s5), (vi c8.y2), (vs m8)], l8] w) ∧ t s H) ⟨_, (ab, ac, x0.fs, x0.fn, x0.fat, q), an, y, z, rfl, rfl, aa, ((ao.bring 1).bring 1), ap⟩ ?_
 rintro az ba w next2 ⟨⟨q8, k9, d7, d8, c8, d6⟩, H, m8, l8, rfl, u, q9, I, ar⟩ hn2
 dsimp only at u I q9
 simp only [List.map_cons, List.map_nil, List.cons.injEq, and_true] at u
 obtain ⟨e6, e7⟩ := u
 simp only [e6, e7]
 obtain ⟨n2, hm2, h⟩ : ∃ n2 : (Int × Bool × ByteArray × Int × b7 × (List a6)) → Hp → Prop, (∀ s' H', n2 s' H' → t s' H' ∧ g s' < g (q8, k9, d7, d8, c8, d6)) ∧ j7 x0.fn q8 k9 d7 d8 c8 d6 H n2 K := ⟨_, fun _ _ h => h, aq (q8, k9, d7, d8, c8, d6) H (fun s' H' => t s' H' ∧ g s' < g (q8, k9, d7, d8, c8, d6)) ar (fun _ _ a b => ⟨a, b⟩)⟩
 unfold V4
 unfold j7 at h
 simp only [v8]
 refine V3 (D := fun ad j => ∃ (f : Bool) (c : Hp) , ad = (gv k9 true (Value.bool f)) ∧ (Inv w0 ps0 H0 c [bx g0 44 [(Value.string d7), (vi d8), (vi c8.s5), (vi c8.y2), (vs m8)], l8] j) ∧ (∀ i, i < w.heap.size → ¬ inF [] i → j.heap[i]? = w.heap[i]?) ∧ Hle H c ∧ (((k9 && f) = true →
 k6 (a8.mk d7 d8 c8 (Sl.mk none 0 0)) d6 c (fun (d : a8) (k : (List a6)) (au : Hp) =>
 i6 (f8 d) k au (fun (m : Int) (o : Bool) (v : Hp) =>
 n2 (m, o, d.fs, d.fn, d.fat, k) v))) ∧
 ((k9 && f) = false →
 g9 x0.fn d7 d8 c8 d6 c K))) (fun e => ?_) (fun e => ?_) ?_
 ·replace h := h.1 e
  have ae := e
  simp only [m7 ae]
  refine i7 Tryd.call58 h I ?_
  rintro _ c _ j p af ag ⟨f, rfl, rfl, h⟩
  exact ⟨f, c, by rfl, p, ag, af, h⟩
 ·exact ⟨false, H, by rw [a0o e], I, fun _ _ _ => rfl, Hle.refl _, h.2 e⟩
 ·clear h
  rintro ad j ⟨f, c, rfl, p, ag, af, h⟩
  refine a7 (E3 _ _) ?_
  refine o7 h (fun _ h => ?_) (fun _ h => ?_)
  ·refine i7 Tryd.call56 (h g0 m8 l8 q9) ((p.bring 1).bring 1) ?_
   rintro _ _ _ bb av _ _ ⟨d, k, ah, ai, rfl, rfl, aj, h⟩
   refine i7 Tryd.call20 (h g0 ah ai aj) ((av.bring 1).bring 1) ?_
   rintro _ v _ bc aw _ _ ⟨m, o, rfl, rfl, h⟩
   refine a7 (f6 _ _ (Value.int .i32 m) rfl) ?_
   refine a7 (f6 _ _ (Value.bool o) rfl) ?_
   exact hn2 _ _ _ (hm2 _ _ h).2 ⟨(m, o, d.fs, d.fn, d.fat, k), v, ah, ai, rfl, rfl, aj, ((aw.bring 1).bring 1), (hm2 _ _ h).1⟩
  ·exact hx1 _ _ (hj1 d7 d8 c8 d6 m8 l8 c _ q9 ((p.bring 1).bring 1) h)
def G2 (H : Hp) (K : a6 → Int → Hp → Prop) : Prop :=
 K (a6.mk 0 ⟨#[]⟩ 0 (b7.mk 0 0)) 20 H
theorem P1 {H : Hp} {K : a6 → Int → Hp → Prop} (h : G2 H K) : P0 H K := by
 refine Ct.of fun w0 w ps0 H0 R E I hR => a5L ?_
 unfold G2 at h
 unfold F44
 refine B5 I Tryd.zeroValue33 (cs := [(vi 0), (Value.string ⟨#[]⟩), (vi 0), (vi 0), (vi 0)]) rfl fun c d b e => ?_
 refine a7 (a0A ) ?_
 refine o9 b Tryd.sizeOf33 (vs := [(vi 0), (Value.string ⟨#[]⟩), (vi 0), (vi 0), (vi 0)]) (cs' := [(vi 0), (Value.string ⟨#[]⟩), (vi 0), (vi 0), (vi 0)]) rfl rfl (nb rfl) rfl rfl fun f a g => ?_
 refine E0 Tryd.isAgg33 Tryd.sizeOf33 rfl (a.at1 (o := 0) (vs := [(vi 0), (Value.string ⟨#[]⟩), (vi 0), (vi 0), (vi 0)]) (nb rfl) rfl) ?_
 exact hR _ H _ _ a.drop ⟨(a6.mk 0 ⟨#[]⟩ 0 (b7.mk 0 0)), 20, rfl, rfl, h⟩
end Go.Proofs.YthklmeihgmcljaaDoor
