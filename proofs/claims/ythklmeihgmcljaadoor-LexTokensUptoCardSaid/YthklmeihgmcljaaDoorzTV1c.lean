/- Typed formulas of the program's functions, and the theorems that the contracts follow from them; printed by lift.py off the code. -/
import Derived.Test.YthklmeihgmcljaaDoorzTV1
namespace Go.Proofs.YthklmeihgmcljaaDoor
open Go.RowKit
set_option maxRecDepth 100000
set_option maxHeartbeats 2000000
def c7 (k7 : Bool) (H : Hp) (K : Bool → Hp → Prop) : Prop :=
 (k7 = true →
 K true H) ∧
 (k7 = false →
 K false H)
def K4 (x0 : ByteArray) (H : Hp) (K : Bool → Hp → Prop) : Prop :=
 (x0 = ⟨#[118, 97, 114]⟩ →
 c7 (decide (x0 = ⟨#[118, 97, 114]⟩)) H K) ∧
 (¬ (x0 = ⟨#[118, 97, 114]⟩) →
 (x0 = ⟨#[97, 114, 114, 97, 121]⟩ →
 c7 (decide (x0 = ⟨#[97, 114, 114, 97, 121]⟩)) H K) ∧
 (¬ (x0 = ⟨#[97, 114, 114, 97, 121]⟩) →
 (x0 = ⟨#[105, 102]⟩ →
 c7 (decide (x0 = ⟨#[105, 102]⟩)) H K) ∧
 (¬ (x0 = ⟨#[105, 102]⟩) →
 (x0 = ⟨#[101, 108, 115, 101]⟩ →
 c7 (decide (x0 = ⟨#[101, 108, 115, 101]⟩)) H K) ∧
 (¬ (x0 = ⟨#[101, 108, 115, 101]⟩) →
 (x0 = ⟨#[119, 104, 105, 108, 101]⟩ →
 c7 (decide (x0 = ⟨#[119, 104, 105, 108, 101]⟩)) H K) ∧
 (¬ (x0 = ⟨#[119, 104, 105, 108, 101]⟩) →
 (x0 = ⟨#[97, 115, 115, 101, 114, 116]⟩ →
 c7 (decide (x0 = ⟨#[97, 115, 115, 101, 114, 116]⟩)) H K) ∧
 (¬ (x0 = ⟨#[97, 115, 115, 101, 114, 116]⟩) →
 (x0 = ⟨#[97, 115, 115, 117, 109, 101]⟩ →
 c7 (decide (x0 = ⟨#[97, 115, 115, 117, 109, 101]⟩)) H K) ∧
 (¬ (x0 = ⟨#[97, 115, 115, 117, 109, 101]⟩) →
 (x0 = ⟨#[115, 107, 105, 112]⟩ →
 c7 (decide (x0 = ⟨#[115, 107, 105, 112]⟩)) H K) ∧
 (¬ (x0 = ⟨#[115, 107, 105, 112]⟩) →
 (x0 = ⟨#[105, 110, 112, 117, 116]⟩ →
 c7 (decide (x0 = ⟨#[105, 110, 112, 117, 116]⟩)) H K) ∧
 (¬ (x0 = ⟨#[105, 110, 112, 117, 116]⟩) →
 (x0 = ⟨#[116, 114, 117, 101]⟩ →
 c7 (decide (x0 = ⟨#[116, 114, 117, 101]⟩)) H K) ∧
 (¬ (x0 = ⟨#[116, 114, 117, 101]⟩) →
 c7 (decide (x0 = ⟨#[102, 97, 108, 115, 101]⟩)) H K))))))))))
theorem Y9 (x0 : ByteArray) {H : Hp} {K : Bool → Hp → Prop} (h : K4 x0 H K) : J1 x0 H K := by
 refine Ct.of fun w0 w ps0 H0 R E I hR => a7T ?_
 unfold K4 at h
 unfold F14
 have hj1 : ∀ (k7 : Bool) (H : Hp) (w : World) (_ : Inv w0 ps0 H0 H [] w) (_ : c7 k7 H K), a3e (Value.bool k7) w R E := by
  intro k7 H w I h
  unfold a3e
  intro _
  unfold c7 at h
  refine m0 h (fun _ h => ?_) (fun _ h => ?_)
  ·exact hR _ H _ _ I ⟨true, rfl, rfl, h⟩
  ·exact hR _ H _ _ I ⟨false, rfl, rfl, h⟩
 refine r5 fun j1 hx1 => ?_
 refine a7 (q7 _ _ _ _ _) ?_
 refine d7 h (fun _ h => ?_) (fun _ h => ?_)
 ·exact hx1 _ _ (hj1 (decide (x0 = ⟨#[118, 97, 114]⟩)) H _ I h)
 ·refine a7 (q7 _ _ _ _ _) ?_
  refine d7 h (fun _ h => ?_) (fun _ h => ?_)
  ·exact hx1 _ _ (hj1 (decide (x0 = ⟨#[97, 114, 114, 97, 121]⟩)) H _ I h)
  ·refine a7 (q7 _ _ _ _ _) ?_
   refine d7 h (fun _ h => ?_) (fun _ h => ?_)
   ·exact hx1 _ _ (hj1 (decide (x0 = ⟨#[105, 102]⟩)) H _ I h)
   ·refine a7 (q7 _ _ _ _ _) ?_
    refine d7 h (fun _ h => ?_) (fun _ h => ?_)
    ·exact hx1 _ _ (hj1 (decide (x0 = ⟨#[101, 108, 115, 101]⟩)) H _ I h)
    ·refine a7 (q7 _ _ _ _ _) ?_
     refine d7 h (fun _ h => ?_) (fun _ h => ?_)
     ·exact hx1 _ _ (hj1 (decide (x0 = ⟨#[119, 104, 105, 108, 101]⟩)) H _ I h)
     ·refine a7 (q7 _ _ _ _ _) ?_
      refine d7 h (fun _ h => ?_) (fun _ h => ?_)
      ·exact hx1 _ _ (hj1 (decide (x0 = ⟨#[97, 115, 115, 101, 114, 116]⟩)) H _ I h)
      ·refine a7 (q7 _ _ _ _ _) ?_
       refine d7 h (fun _ h => ?_) (fun _ h => ?_)
       ·exact hx1 _ _ (hj1 (decide (x0 = ⟨#[97, 115, 115, 117, 109, 101]⟩)) H _ I h)
       ·refine a7 (q7 _ _ _ _ _) ?_
        refine d7 h (fun _ h => ?_) (fun _ h => ?_)
        ·exact hx1 _ _ (hj1 (decide (x0 = ⟨#[115, 107, 105, 112]⟩)) H _ I h)
        ·refine a7 (q7 _ _ _ _ _) ?_
         refine d7 h (fun _ h => ?_) (fun _ h => ?_)
         ·exact hx1 _ _ (hj1 (decide (x0 = ⟨#[105, 110, 112, 117, 116]⟩)) H _ I h)
         ·refine a7 (q7 _ _ _ _ _) ?_
          refine d7 h (fun _ h => ?_) (fun _ h => ?_)
          ·exact hx1 _ _ (hj1 (decide (x0 = ⟨#[116, 114, 117, 101]⟩)) H _ I h)
          ·refine a7 (q7 _ _ _ _ _) ?_
           exact hx1 _ _ (hj1 (decide (x0 = ⟨#[102, 97, 108, 115, 101]⟩)) H _ I h)
def S3 (x0 : Int) (x1 : Int) (x2 : Int) (H : Hp) (K : Bool → Hp → Prop) : Prop :=
 K ((decide (x0 ≤ x2)) && (decide (x2 ≤ x1))) H
theorem a0h (x0 : Int) (x1 : Int) (x2 : Int) {H : Hp} {K : Bool → Hp → Prop} (h : S3 x0 x1 x2 H K) : p7 x0 x1 x2 H K := by
 intro g2
 refine Ct.of fun w0 w ps0 H0 R E I hR => a8v ?_
 unfold S3 at h
 unfold F51
 refine o0 (l1 Tryd.isAgg21 I rfl) ?_
 refine a7 (a1L _ _ _ _ _ _) ?_
 refine o0 (Ld.g fun hb => by have a := hb; exact (l1 Tryd.isAgg21 I rfl)) ?_
 simp only [o3]
 refine a7 (Pu.g fun hb => by have a := hb; simp only [m1 a]; with_reducible exact (a1L _ _ _ _ _ _)) ?_
 refine a7 (s4 _ _) ?_
 exact hR _ H _ _ I ⟨((decide (x0 ≤ x2)) && (decide (x2 ≤ x1))), rfl, rfl, h⟩
def m9 (a1i : Bool) (a : Int) (H : Hp) (K : Int → Hp → Prop) : Prop :=
 (a1i = true →
 K 3 H) ∧
 (a1i = false →
 K 6 H)
def s6 (a1j : Bool) (a : Int) (H : Hp) (K : Int → Hp → Prop) : Prop :=
 (a1j = true →
 K 6 H) ∧
 (a1j = false →
 p7 48 57 a H (fun g b =>
 (g = true →
 K 4 b) ∧
 (g = false →
 (a = 95 →
 m9 (decide (a = 95)) a b K) ∧
 (¬ (a = 95) →
 p7 97 122 a b (fun c i =>
 (c = true →
 m9 c a i K) ∧
 (c = false →
 p7 65 90 a i (fun d j =>
 (d = true →
 m9 d a j K) ∧
 (d = false →
 p7 192 591 a j (fun e k =>
 (e = true →
 m9 e a k K) ∧
 (e = false →
 p7 913 969 a k (fun f l =>
 (f = true →
 m9 f a l K) ∧
 (f = false →
 p7 1040 1103 a l (fun m n =>
 m9 m a n K)))))))))))))
def f7 (a1E : Int) (a1k : Bool) (a : Int) (H : Hp) (K : Int → Hp → Prop) : Prop :=
 (a1k = true →
 K 5 H) ∧
 (a1k = false →
 (a1E = 215 →
 s6 (decide (a1E = 215)) a H K) ∧
 (¬ (a1E = 215) →
 (a1E = 247 →
 s6 (decide (a1E = 247)) a H K) ∧
 (¬ (a1E = 247) →
 s6 (decide (a1E = 930)) a H K)))
def s7 (k7 : Int) (L5 : Bool) (a : Int) (H : Hp) (K : Int → Hp → Prop) : Prop :=
 (L5 = true →
 K 1 H) ∧
 (L5 = false →
 (k7 = 10 →
 K 2 H) ∧
 (¬ (k7 = 10) →
 (k7 = 59 →
 f7 k7 (decide (k7 = 59)) a H K) ∧
 (¬ (k7 = 59) →
 (k7 = 44 →
 f7 k7 (decide (k7 = 44)) a H K) ∧
 (¬ (k7 = 44) →
 (k7 = 123 →
 f7 k7 (decide (k7 = 123)) a H K) ∧
 (¬ (k7 = 123) →
 (k7 = 125 →
 f7 k7 (decide (k7 = 125)) a H K) ∧
 (¬ (k7 = 125) →
 (k7 = 40 →
 f7 k7 (decide (k7 = 40)) a H K) ∧
 (¬ (k7 = 40) →
 (k7 = 41 →
 f7 k7 (decide (k7 = 41)) a H K) ∧
 (¬ (k7 = 41) →
 (k7 = 91 →
 f7 k7 (decide (k7 = 91)) a H K) ∧
 (¬ (k7 = 91) →
 (k7 = 93 →
 f7 k7 (decide (k7 = 93)) a H K) ∧
 (¬ (k7 = 93) →
 (k7 = 61 →
 f7 k7 (decide (k7 = 61)) a H K) ∧
 (¬ (k7 = 61) →
 (k7 = 33 →
 f7 k7 (decide (k7 = 33)) a H K) ∧
 (¬ (k7 = 33) →
 (k7 = 60 →
 f7 k7 (decide (k7 = 60)) a H K) ∧
 (¬ (k7 = 60) →
 (k7 = 62 →
 f7 k7 (decide (k7 = 62)) a H K) ∧
 (¬ (k7 = 62) →
 (k7 = 43 →
 f7 k7 (decide (k7 = 43)) a H K) ∧
 (¬ (k7 = 43) →
 (k7 = 45 →
 f7 k7 (decide (k7 = 45)) a H K) ∧
 (¬ (k7 = 45) →
 (k7 = 42 →
 f7 k7 (decide (k7 = 42)) a H K) ∧
 (¬ (k7 = 42) →
 (k7 = 47 →
 f7 k7 (decide (k7 = 47)) a H K) ∧
 (¬ (k7 = 47) →
 (k7 = 37 →
 f7 k7 (decide (k7 = 37)) a H K) ∧
 (¬ (k7 = 37) →
 (k7 = 38 →
 f7 k7 (decide (k7 = 38)) a H K) ∧
 (¬ (k7 = 38) →
 f7 k7 (decide (k7 = 124)) a H K))))))))))))))))))))
def P0 (x0 : Int) (H : Hp) (K : Int → Hp → Prop) : Prop :=
 (x0 = 32 →
 s7 x0 (decide (x0 = 32)) x0 H K) ∧
 (¬ (x0 = 32) →
 (x0 = 9 →
 s7 x0 (decide (x0 = 9)) x0 H K) ∧
 (¬ (x0 = 9) →
 s7 x0 (decide (x0 = 13)) x0 H K))
theorem a0C (x0 : Int) {H : Hp} {K : Int → Hp → Prop} (h : P0 x0 H K) : v6 x0 H K := by
 refine Ct.of fun w0 w ps0 H0 R E I hR => a8f ?_
 unfold P0 at h
 unfold F30
 refine a4G I (cs := [(Value.int .i32 x0)]) rfl fun a u b v => ?_
 refine o0 (l1 Tryd.isAgg21 b rfl) ?_
 have hj1 : ∀ (L5 : Bool) (H : Hp) (w : World) (_ : Inv w0 ps0 H0 H [bx a 21 [(Value.int .i32 x0)]] w) (_ : s7 x0 L5 x0 H K), a3q (Value.pointer (some ⟨a, 0, none⟩)) (Value.int .i32 x0) (Value.bool L5) w R E := by
  intro L5 H w I h
  unfold a3q
  intro _
  unfold s7 at h
  refine m0 h (fun _ h => ?_) (fun _ h => ?_)
  ·exact hR _ H _ _ I.drop ⟨1, rfl, rfl, h⟩
  ·refine a7 (k6 _ _ _ _ _ _) ?_
   refine d7 h (fun _ h => ?_) (fun _ h => ?_)
   ·exact hR _ H _ _ I.drop ⟨2, rfl, rfl, h⟩
   ·have hj2 : ∀ (a1k : Bool) (H : Hp) (w : World) (_ : Inv w0 ps0 H0 H [bx a 21 [(Value.int .i32 x0)]] w) (_ : f7 x0 a1k x0 H K), a3p (Value.pointer (some ⟨a, 0, none⟩)) (Value.int .i32 x0) (Value.bool a1k) w R E := by
     intro a1k H w I h
     unfold a3p
     intro _
     unfold f7 at h
     refine m0 h (fun _ h => ?_) (fun _ h => ?_)
     ·exact hR _ H _ _ I.drop ⟨5, rfl, rfl, h⟩
     ·have hj3 : ∀ (a1j : Bool) (H : Hp) (w : World) (_ : Inv w0 ps0 H0 H [bx a 21 [(Value.int .i32 x0)]] w) (_ : s6 a1j x0 H K), a3o (Value.pointer (some ⟨a, 0, none⟩)) (Value.bool a1j) w R E := by
       intro a1j H w I h
       unfold a3o
       intro _
       unfold s6 at h
       refine m0 h (fun _ h => ?_) (fun _ h => ?_)
       ·exact hR _ H _ _ I.drop ⟨6, rfl, rfl, h⟩
       ·refine a7 (U6 _ _ _) ?_
        refine Y0 (cap := [(Value.pointer (some ⟨a, 0, none⟩))]) Tryd.call51 (h a) I ?_
        rintro _ d _ y c _ _ ⟨z, rfl, rfl, h⟩
        refine m0 h (fun _ h => ?_) (fun _ h => ?_)
        ·exact hR _ d _ _ c.drop ⟨4, rfl, rfl, h⟩
        ·have hj4 : ∀ (a1i : Bool) (H : Hp) (w : World) (_ : Inv w0 ps0 H0 H [bx a 21 [(Value.int .i32 x0)]] w) (_ : m9 a1i x0 H K), a3n (Value.bool a1i) w R E := by
          intro a1i H w I h
          unfold a3n
          intro _
          unfold m9 at h
          refine m0 h (fun _ h => ?_) (fun _ h => ?_)
          ·exact hR _ H _ _ I.drop ⟨3, rfl, rfl, h⟩
          ·exact hR _ H _ _ I.drop ⟨6, rfl, rfl, h⟩
         refine r5 fun j4 hx4 => ?_
         refine o0 (l1 Tryd.isAgg21 c rfl) ?_
         refine a7 (k6 _ _ _ _ _ _) ?_
         refine d7 h (fun _ h => ?_) (fun _ h => ?_)
         ·exact hx4 _ _ (hj4 (decide (x0 = 95)) d _ c h)
         ·refine Y0 (cap := [(Value.pointer (some ⟨a, 0, none⟩))]) Tryd.call51 (h a) c ?_
          rintro _ j _ aa e _ _ ⟨k, rfl, rfl, h⟩
          refine m0 h (fun _ h => ?_) (fun _ h => ?_)
          ·exact hx4 _ _ (hj4 k j _ e h)
          ·refine Y0 (cap := [(Value.pointer (some ⟨a, 0, none⟩))]) Tryd.call51 (h a) e ?_
           rintro _ l _ ab f _ _ ⟨m, rfl, rfl, h⟩
           refine m0 h (fun _ h => ?_) (fun _ h => ?_)
           ·exact hx4 _ _ (hj4 m l _ f h)
           ·refine Y0 (cap := [(Value.pointer (some ⟨a, 0, none⟩))]) Tryd.call51 (h a) f ?_
            rintro _ n _ ac g _ _ ⟨o, rfl, rfl, h⟩
            refine m0 h (fun _ h => ?_) (fun _ h => ?_)
            ·exact hx4 _ _ (hj4 o n _ g h)
            ·refine Y0 (cap := [(Value.pointer (some ⟨a, 0, none⟩))]) Tryd.call51 (h a) g ?_
             rintro _ p _ ad i _ _ ⟨q, rfl, rfl, h⟩
             refine m0 h (fun _ h => ?_) (fun _ h => ?_)
             ·exact hx4 _ _ (hj4 q p _ i h)
             ·refine Y0 (cap := [(Value.pointer (some ⟨a, 0, none⟩))]) Tryd.call51 (h a) i ?_
              rintro _ r _ ae s _ _ ⟨t, rfl, rfl, h⟩
              exact hx4 _ _ (hj4 t r _ s h)
      refine r5 fun j3 hx3 => ?_
      refine a7 (k6 _ _ _ _ _ _) ?_
      refine d7 h (fun _ h => ?_) (fun _ h => ?_)
      ·exact hx3 _ _ (hj3 (decide (x0 = 215)) H _ I h)
      ·refine a7 (k6 _ _ _ _ _ _) ?_
       refine d7 h (fun _ h => ?_) (fun _ h => ?_)
       ·exact hx3 _ _ (hj3 (decide (x0 = 247)) H _ I h)
       ·refine a7 (k6 _ _ _ _ _ _) ?_
        exact hx3 _ _ (hj3 (decide (x0 = 930)) H _ I h)
    refine r5 fun j2 hx2 => ?_
    refine a7 (k6 _ _ _ _ _ _) ?_
    refine d7 h (fun _ h => ?_) (fun _ h => ?_)
    ·exact hx2 _ _ (hj2 (decide (x0 = 59)) H _ I h)
    ·refine a7 (k6 _ _ _ _ _ _) ?_
     refine d7 h (fun _ h => ?_) (fun _ h => ?_)
     ·exact hx2 _ _ (hj2 (decide (x0 = 44)) H _ I h)
     ·refine a7 (k6 _ _ _ _ _ _) ?_
      refine d7 h (fun _ h => ?_) (fun _ h => ?_)
      ·exact hx2 _ _ (hj2 (decide (x0 = 123)) H _ I h)
      ·refine a7 (k6 _ _ _ _ _ _) ?_
       refine d7 h (fun _ h => ?_) (fun _ h => ?_)
       ·exact hx2 _ _ (hj2 (decide (x0 = 125)) H _ I h)
       ·refine a7 (k6 _ _ _ _ _ _) ?_
        refine d7 h (fun _ h => ?_) (fun _ h => ?_)
        ·exact hx2 _ _ (hj2 (decide (x0 = 40)) H _ I h)
        ·refine a7 (k6 _ _ _ _ _ _) ?_
         refine d7 h (fun _ h => ?_) (fun _ h => ?_)
         ·exact hx2 _ _ (hj2 (decide (x0 = 41)) H _ I h)
         ·refine a7 (k6 _ _ _ _ _ _) ?_
          refine d7 h (fun _ h => ?_) (fun _ h => ?_)
          ·exact hx2 _ _ (hj2 (decide (x0 = 91)) H _ I h)
          ·refine a7 (k6 _ _ _ _ _ _) ?_
           refine d7 h (fun _ h => ?_) (fun _ h => ?_)
           ·exact hx2 _ _ (hj2 (decide (x0 = 93)) H _ I h)
           ·refine a7 (k6 _ _ _ _ _ _) ?_
            refine d7 h (fun _ h => ?_) (fun _ h => ?_)
            ·exact hx2 _ _ (hj2 (decide (x0 = 61)) H _ I h)
            ·refine a7 (k6 _ _ _ _ _ _) ?_
             refine d7 h (fun _ h => ?_) (fun _ h => ?_)
             ·exact hx2 _ _ (hj2 (decide (x0 = 33)) H _ I h)
             ·refine a7 (k6 _ _ _ _ _ _) ?_
              refine d7 h (fun _ h => ?_) (fun _ h => ?_)
              ·exact hx2 _ _ (hj2 (decide (x0 = 60)) H _ I h)
              ·refine a7 (k6 _ _ _ _ _ _) ?_
               refine d7 h (fun _ h => ?_) (fun _ h => ?_)
               ·exact hx2 _ _ (hj2 (decide (x0 = 62)) H _ I h)
               ·refine a7 (k6 _ _ _ _ _ _) ?_
                refine d7 h (fun _ h => ?_) (fun _ h => ?_)
                ·exact hx2 _ _ (hj2 (decide (x0 = 43)) H _ I h)
                ·refine a7 (k6 _ _ _ _ _ _) ?_
                 refine d7 h (fun _ h => ?_) (fun _ h => ?_)
                 ·exact hx2 _ _ (hj2 (decide (x0 = 45)) H _ I h)
                 ·refine a7 (k6 _ _ _ _ _ _) ?_
                  refine d7 h (fun _ h => ?_) (fun _ h => ?_)
                  ·exact hx2 _ _ (hj2 (decide (x0 = 42)) H _ I h)
                  ·refine a7 (k6 _ _ _ _ _ _) ?_
                   refine d7 h (fun _ h => ?_) (fun _ h => ?_)
                   ·exact hx2 _ _ (hj2 (decide (x0 = 47)) H _ I h)
                   ·refine a7 (k6 _ _ _ _ _ _) ?_
                    refine d7 h (fun _ h => ?_) (fun _ h => ?_)
                    ·exact hx2 _ _ (hj2 (decide (x0 = 37)) H _ I h)
                    ·refine a7 (k6 _ _ _ _ _ _) ?_
                     refine d7 h (fun _ h => ?_) (fun _ h => ?_)
                     ·exact hx2 _ _ (hj2 (decide (x0 = 38)) H _ I h)
                     ·refine a7 (k6 _ _ _ _ _ _) ?_
                      exact hx2 _ _ (hj2 (decide (x0 = 124)) H _ I h)
 refine r5 fun j1 hx1 => ?_
 refine a7 (k6 _ _ _ _ _ _) ?_
 refine d7 h (fun _ h => ?_) (fun _ h => ?_)
 ·exact hx1 _ _ (hj1 (decide (x0 = 32)) H _ b h)
 ·refine a7 (k6 _ _ _ _ _ _) ?_
  refine d7 h (fun _ h => ?_) (fun _ h => ?_)
  ·exact hx1 _ _ (hj1 (decide (x0 = 9)) H _ b h)
  ·refine a7 (k6 _ _ _ _ _ _) ?_
   exact hx1 _ _ (hj1 (decide (x0 = 13)) H _ b h)
def y8 (H : Hp) (K : Int → Hp → Prop) : Prop :=
 K 6 H
def m7 (p9 : Int) (a0e : ByteArray) (E6 : Int) (H : Hp) (n2 : Int → Hp → Prop) (K : Int → Hp → Prop) : Prop :=
 (E6 < (a0e.size : Int) →
 (0 : Int) ≤ E6 ∧ E6 < (a0e.size : Int) ∧
 (p9 = (IntKind.wrap .i64 ((a0e.get! (E6 : Int).toNat).toNat : Int)) →
 K 5 H) ∧
 (¬ (p9 = (IntKind.wrap .i64 ((a0e.get! (E6 : Int).toNat).toNat : Int))) →
 n2 (IntKind.wrap .i64 (E6 + 1)) H)) ∧
 (¬ (E6 < (a0e.size : Int)) →
 y8 H K)
def G9 (x0 : Int) (H : Hp) (K : Int → Hp → Prop) : Prop :=
 ((((decide (x0 = 32)) || (decide (x0 = 9))) || (decide (x0 = 13))) = true →
 K 1 H) ∧
 ((((decide (x0 = 32)) || (decide (x0 = 9))) || (decide (x0 = 13))) = false →
 (x0 = 10 →
 K 2 H) ∧
 (¬ (x0 = 10) →
 j8 x0 48 57 H (fun e f =>
 (e = true →
 K 4 f) ∧
 (e = false →
 j8 x0 97 122 f (fun a g =>
 TG (a = false) (j8 x0 65 90 g) false g (fun (b : Bool) (i : Hp) =>
 TG (((a || b) || (decide (x0 = 95))) = false) (j8 x0 192 591 i) false i (fun (c : Bool) (j : Hp) =>
 TG ((((a || b) || (decide (x0 = 95))) || ((c && (!decide (x0 = 215))) && (!decide (x0 = 247)))) = false) (j8 x0 913 969 j) false j (fun (d : Bool) (k : Hp) =>
 TG (((((a || b) || (decide (x0 = 95))) || ((c && (!decide (x0 = 215))) && (!decide (x0 = 247)))) || (d && (!decide (x0 = 930)))) = false) (j8 x0 1040 1103 k) false k (fun (l : Bool) (m : Hp) =>
 ((((((a || b) || (decide (x0 = 95))) || ((c && (!decide (x0 = 215))) && (!decide (x0 = 247)))) || (d && (!decide (x0 = 930)))) || l) = true →
 K 3 m) ∧
 ((((((a || b) || (decide (x0 = 95))) || ((c && (!decide (x0 = 215))) && (!decide (x0 = 247)))) || (d && (!decide (x0 = 930)))) || l) = false →
 TL (0 : Int) m fun (s : Int) H n2 => m7 x0 ⟨#[59, 44, 123, 125, 40, 41, 91, 93, 61, 33, 60, 62, 43, 45, 42, 47, 37, 38, 124]⟩ s H n2 K))))))))))
theorem X0 (x0 : Int) {H : Hp} {K : Int → Hp → Prop} (h : G9 x0 H K) : G6 x0 H K := by
 refine Ct.of fun w0 w ps0 H0 R E I hR => a8h ?_
 unfold G9 at h
 unfold F32
 refine a7 (k6 _ _ _ _ _ _) ?_
 simp only [o3]
 refine a7 (Pu.g fun hb => by have c := hb; simp only [m1 c]; with_reducible exact (k6 _ _ _ _ _ _)) ?_
 refine a7 (K9 _ _) ?_
 simp only [o3]
 refine a7 (Pu.g fun hb => by have c := hb; simp only [m1 c]; with_reducible exact (k6 _ _ _ _ _ _)) ?_
 refine a7 (K9 _ _) ?_
 refine m0 h (fun _ h => ?_) (fun _ h => ?_)
 ·exact hR _ H _ _ I ⟨1, rfl, rfl, h⟩
 ·refine a7 (k6 _ _ _ _ _ _) ?_
  refine d7 h (fun _ h => ?_) (fun _ h => ?_)
  ·exact hR _ H _ _ I ⟨2, rfl, rfl, h⟩
  ·refine f8 Tryd.call52 h I ?_
   rintro _ bd _ bj ak _ _ ⟨bk, rfl, rfl, h⟩
   refine m0 h (fun _ h => ?_) (fun _ h => ?_)
   ·exact hR _ bd _ _ ak ⟨4, rfl, rfl, h⟩
   ·refine f8 Tryd.call52 h ak ?_
    rintro _ al _ am an _ _ ⟨k, rfl, rfl, h⟩
    simp only [o3]
    refine S6 (D := fun ao aa => ∃ (f : Bool) (t : Hp) , ao = (gv k false (Value.bool f)) ∧ (Inv w0 ps0 H0 t [] aa) ∧ (∀ i, i < am.heap.size → ¬ inF [] i → aa.heap[i]? = am.heap[i]?) ∧ Hle al t ∧ (TG (((k || f) || (decide (x0 = 95))) = false) (j8 x0 192 591 t) false t (fun (j : Bool) (r : Hp) =>
 TG ((((k || f) || (decide (x0 = 95))) || ((j && (!decide (x0 = 215))) && (!decide (x0 = 247)))) = false) (j8 x0 913 969 r) false r (fun (m : Bool) (p : Hp) =>
 TG (((((k || f) || (decide (x0 = 95))) || ((j && (!decide (x0 = 215))) && (!decide (x0 = 247)))) || (m && (!decide (x0 = 930)))) = false) (j8 x0 1040 1103 p) false p (fun (q : Bool) (o : Hp) =>
 ((((((k || f) || (decide (x0 = 95))) || ((j && (!decide (x0 = 215))) && (!decide (x0 = 247)))) || (m && (!decide (x0 = 930)))) || q) = true →
 K 3 o) ∧
 ((((((k || f) || (decide (x0 = 95))) || ((j && (!decide (x0 = 215))) && (!decide (x0 = 247)))) || (m && (!decide (x0 = 930)))) || q) = false →
 TL (0 : Int) o fun (s : Int) H n2 => m7 x0 ⟨#[59, 44, 123, 125, 40, 41, 91, 93, 61, 33, 60, 62, 43, 45, 42, 47, 37, 38, 124]⟩ s H n2 K)))))) (fun u => ?_) (fun u => ?_) ?_
    ·replace h := h.1 u
     have c := u
     simp only [m1 c]
     refine f8 Tryd.call52 h an ?_
     rintro _ t _ aa ae ap aq ⟨f, rfl, rfl, h⟩
     exact ⟨f, t, by rfl, ae, aq, ap, h⟩
    ·exact ⟨false, al, by rw [a0r u], an, fun _ _ _ => rfl, Hle.refl _, h.2 u⟩
    ·clear h
     rintro ao aa ⟨f, t, rfl, ae, aq, ap, h⟩
     refine a7 (K9 _ _) ?_
     simp only [o3]
     refine a7 (Pu.g fun hb => by have c := hb; simp only [m1 c]; with_reducible exact (k6 _ _ _ _ _ _)) ?_
     refine a7 (K9 _ _) ?_
     simp only [o3]
     refine S6 (D := fun ar ab => ∃ (j : Bool) (r : Hp) , ar = (gv ((k || f) || (decide (x0 = 95))) false (Value.bool j)) ∧ (Inv w0 ps0 H0 r [] ab) ∧ (∀ i, i < aa.heap.size → ¬ inF [] i → ab.heap[i]? = aa.heap[i]?) ∧ Hle t r ∧ (TG ((((k || f) || (decide (x0 = 95))) || ((j && (!decide (x0 = 215))) && (!decide (x0 = 247)))) = false) (j8 x0 913 969 r) false r (fun (m : Bool) (p : Hp) =>
 TG (((((k || f) || (decide (x0 = 95))) || ((j && (!decide (x0 = 215))) && (!decide (x0 = 247)))) || (m && (!decide (x0 = 930)))) = false) (j8 x0 1040 1103 p) false p (fun (q : Bool) (o : Hp) =>
 ((((((k || f) || (decide (x0 = 95))) || ((j && (!decide (x0 = 215))) && (!decide (x0 = 247)))) || (m && (!decide (x0 = 930)))) || q) = true →
 K 3 o) ∧
 ((((((k || f) || (decide (x0 = 95))) || ((j && (!decide (x0 = 215))) && (!decide (x0 = 247)))) || (m && (!decide (x0 = 930)))) || q) = false →
 TL (0 : Int) o fun (s : Int) H n2 => m7 x0 ⟨#[59, 44, 123, 125, 40, 41, 91, 93, 61, 33, 60, 62, 43, 45, 42, 47, 37, 38, 124]⟩ s H n2 K))))) (fun v => ?_) (fun v => ?_) ?_
     ·replace h := h.1 v
      have c := v
      simp only [m1 c]
      refine f8 Tryd.call52 h ae ?_
      rintro _ r _ ab af au av ⟨j, rfl, rfl, h⟩
      exact ⟨j, r, by rfl, af, av, au, h⟩
     ·exact ⟨false, t, by rw [a0r v], ae, fun _ _ _ => rfl, Hle.refl _, h.2 v⟩
     ·clear h
      rintro ar ab ⟨j, r, rfl, af, av, au, h⟩
      simp only [a1f, a0P]
      refine a7 (Pu.e (O6 _ _ _) (Pu.g fun hb => by obtain ⟨c, d⟩ := U7 hb; simp only [m1 hb]; with_reducible exact (E5 _ _ _ _ _ _))) ?_
      refine a7 (Pu.g fun hb => by have c := hb; simp only [m1 c, a0f c]; with_reducible exact (s4 _ _)) ?_
      simp only [a1f, a0P]
      refine a7 (Pu.e (O6 _ _ _) (Pu.g fun hb => by obtain ⟨c, d⟩ := U7 hb; simp only [m1 hb]; with_reducible exact (E5 _ _ _ _ _ _))) ?_
      refine a7 (Pu.g fun hb => by have c := hb; simp only [m1 c, a0f c]; with_reducible exact (s4 _ _)) ?_
      refine a7 (K9 _ _) ?_
      simp only [o3]
      refine S6 (D := fun aw ac => ∃ (m : Bool) (p : Hp) , aw = (gv (((k || f) || (decide (x0 = 95))) || ((j && (!decide (x0 = 215))) && (!decide (x0 = 247)))) false (Value.bool m)) ∧ (Inv w0 ps0 H0 p [] ac) ∧ (∀ i, i < ab.heap.size → ¬ inF [] i → ac.heap[i]? = ab.heap[i]?) ∧ Hle r p ∧ (TG (((((k || f) || (decide (x0 = 95))) || ((j && (!decide (x0 = 215))) && (!decide (x0 = 247)))) || (m && (!decide (x0 = 930)))) = false) (j8 x0 1040 1103 p) false p (fun (q : Bool) (o : Hp) =>
 ((((((k || f) || (decide (x0 = 95))) || ((j && (!decide (x0 = 215))) && (!decide (x0 = 247)))) || (m && (!decide (x0 = 930)))) || q) = true →
 K 3 o) ∧
 ((((((k || f) || (decide (x0 = 95))) || ((j && (!decide (x0 = 215))) && (!decide (x0 = 247)))) || (m && (!decide (x0 = 930)))) || q) = false →
 TL (0 : Int) o fun (s : Int) H n2 => m7 x0 ⟨#[59, 44, 123, 125, 40, 41, 91, 93, 61, 33, 60, 62, 43, 45, 42, 47, 37, 38, 124]⟩ s H n2 K)))) (fun y => ?_) (fun y => ?_) ?_
      ·replace h := h.1 y
       have c := y
       simp only [m1 c]
       refine f8 Tryd.call52 h af ?_
       rintro _ p _ ac ag ax ay ⟨m, rfl, rfl, h⟩
       exact ⟨m, p, by rfl, ag, ay, ax, h⟩
      ·exact ⟨false, r, by rw [a0r y], af, fun _ _ _ => rfl, Hle.refl _, h.2 y⟩
      ·clear h
       rintro aw ac ⟨m, p, rfl, ag, ay, ax, h⟩
       simp only [a1f, a0P]
       refine a7 (Pu.e (O6 _ _ _) (Pu.g fun hb => by obtain ⟨c, d⟩ := U7 hb; simp only [m1 hb]; with_reducible exact (E5 _ _ _ _ _ _))) ?_
       refine a7 (Pu.g fun hb => by have c := hb; simp only [m1 c, a0f c]; with_reducible exact (s4 _ _)) ?_
       refine a7 (K9 _ _) ?_
       simp only [o3]
       refine S6 (D := fun az ah => ∃ (q : Bool) (o : Hp) , az = (gv ((((k || f) || (decide (x0 = 95))) || ((j && (!decide (x0 = 215))) && (!decide (x0 = 247)))) || (m && (!decide (x0 = 930)))) false (Value.bool q)) ∧ (Inv w0 ps0 H0 o [] ah) ∧ (∀ i, i < ac.heap.size → ¬ inF [] i → ah.heap[i]? = ac.heap[i]?) ∧ Hle p o ∧ (((((((k || f) || (decide (x0 = 95))) || ((j && (!decide (x0 = 215))) && (!decide (x0 = 247)))) || (m && (!decide (x0 = 930)))) || q) = true →
 K 3 o) ∧
 ((((((k || f) || (decide (x0 = 95))) || ((j && (!decide (x0 = 215))) && (!decide (x0 = 247)))) || (m && (!decide (x0 = 930)))) || q) = false →
 TL (0 : Int) o fun (s : Int) H n2 => m7 x0 ⟨#[59, 44, 123, 125, 40, 41, 91, 93, 61, 33, 60, 62, 43, 45, 42, 47, 37, 38, 124]⟩ s H n2 K))) (fun z => ?_) (fun z => ?_) ?_
       ·replace h := h.1 z
        have c := z
        simp only [m1 c]
        refine f8 Tryd.call52 h ag ?_
        rintro _ o _ ah ai ba bb ⟨q, rfl, rfl, h⟩
        exact ⟨q, o, by rfl, ai, bb, ba, h⟩
       ·exact ⟨false, p, by rw [a0r z], ag, fun _ _ _ => rfl, Hle.refl _, h.2 z⟩
       ·clear h
        rintro az ah ⟨q, o, rfl, ai, bb, ba, h⟩
        refine a7 (K9 _ _) ?_
        refine m0 h (fun _ h => ?_) (fun _ h => ?_)
        ·exact hR _ o _ _ ai ⟨3, rfl, rfl, h⟩
        ·have hj1 : ∀ (H : Hp) (w : World) (_ : Inv w0 ps0 H0 H [] w) (_ : y8 H K), a3t w R E := by
          intro H w I h
          unfold a3t
          intro _
          unfold y8 at h
          exact hR _ H _ _ I ⟨6, rfl, rfl, h⟩
         refine r5 fun j1 hx1 => ?_
         obtain ⟨aj, ad, be, bf⟩ := h
         refine u6 (J := fun n l w => ∃ (s : Int) (H : Hp) , n = ad s ∧ l = [(vi s)] ∧ Inv w0 ps0 H0 H [] w ∧ aj s H) ⟨_, 0, o, rfl, rfl, ai, be⟩ ?_
         rintro bl bm w next2 ⟨E6, H, rfl, bc, I, bg⟩ hn2
         simp only [List.map_cons, List.map_nil, List.cons.injEq, and_true] at bc
         have e4 := bc
         simp only [e4]
         obtain ⟨n2, hm2, h⟩ : ∃ n2 : Int → Hp → Prop, (∀ s' H', n2 s' H' → aj s' H' ∧ ad s' < ad E6) ∧ m7 x0 ⟨#[59, 44, 123, 125, 40, 41, 91, 93, 61, 33, 60, 62, 43, 45, 42, 47, 37, 38, 124]⟩ E6 H n2 K := ⟨_, fun _ _ h => h, bf E6 H (fun s' H' => aj s' H' ∧ ad s' < ad E6) bg (fun _ _ a b => ⟨a, b⟩)⟩
         unfold a5z
         unfold m7 at h
         refine a7 (y5 _) ?_
         refine a7 (A9 _ _ _ _ _ _) ?_
         refine d7 h (fun _ h => ?_) (fun _ h => ?_)
         ·obtain ⟨bh, bi, h⟩ := h
          refine a7 (E9 _ _ _ bh bi) ?_
          refine a7 (a0Q _ _) ?_
          refine a7 (k6 _ _ _ _ _ _) ?_
          refine d7 h (fun _ h => ?_) (fun _ h => ?_)
          ·exact hR _ H _ _ I ⟨5, rfl, rfl, h⟩
          ·refine a7 (q6 _ _ _ _ _ _) ?_
           exact hn2 _ _ _ (hm2 _ _ h).2 ⟨(IntKind.wrap .i64 (E6 + 1)), H, rfl, rfl, I, (hm2 _ _ h).1⟩
         ·exact hx1 _ _ (hj1 H _ I h)
def H5 (x0 : ByteArray) (x1 : Int) (H : Hp) (K : Int → Int → Hp → Prop) : Prop :=
 ((x0.size : Int) ≤ x1 →
 K 0 0 H) ∧
 (¬ ((x0.size : Int) ≤ x1) →
 u1 x0 x1 H (fun a b f c =>
 G6 a c (fun d e =>
 K d b e)))
theorem X1 (x0 : ByteArray) (x1 : Int) {H : Hp} {K : Int → Int → Hp → Prop} (h : H5 x0 x1 H K) : t1 x0 x1 H K := by
 refine Ct.of fun w0 w ps0 H0 R E I hR => a8q ?_
 unfold H5 at h
 unfold F45
 refine a7 (y5 _) ?_
 refine a7 (P9 _ _ _ _ _ _) ?_
 refine d7 h (fun _ h => ?_) (fun _ h => ?_)
 ·exact hR _ H _ _ I ⟨0, 0, rfl, rfl, h⟩
 ·refine f8 Tryd.call31 h I ?_
  rintro _ _ _ i b _ _ ⟨c, a, d, rfl, rfl, h⟩
  refine a7 (b8 _ _ (vi c) rfl) ?_
  refine a7 (b8 _ _ (vi a) rfl) ?_
  refine a7 (b8 _ _ (Value.bool d) rfl) ?_
  refine f8 Tryd.call32 h b ?_
  rintro _ e _ j f _ _ ⟨g, rfl, rfl, h⟩
  exact hR _ e _ _ f ⟨g, a, rfl, rfl, h⟩
def r3 (a8A : ByteArray) (b0K : Int) (b0b : Int) (a9O : Int) (a : a8) (b : a8) (H : Hp) (n2 : (Int × a8 × a8) → Hp → Prop) (K : a8 → Hp → Prop) : Prop :=
 n2 ((IntKind.wrap .i64 (b0b + a9O)), b, a) H
def y9 (b : a8) (a : a8) (H : Hp) (K : a8 → Hp → Prop) : Prop :=
 K a H
def z1 (p9 : ByteArray) (a0e : Int) (R2 : Int) (b : a8) (a : a8) (H : Hp) (n2 : (Int × a8 × a8) → Hp → Prop) (K : a8 → Hp → Prop) : Prop :=
 (R2 < a0e →
 u1 p9 R2 H (fun c d f e =>
 (c = 10 →
 r3 p9 a0e R2 d (a8.mk (IntKind.wrap .i64 (a.m6 + 1)) 1) b e n2 K) ∧
 (¬ (c = 10) →
 r3 p9 a0e R2 d (a8.mk a.m6 (IntKind.wrap .i64 (a.r6 + 1))) b e n2 K))) ∧
 (¬ (R2 < a0e) →
 y9 b a H K)
def H6 (x0 : ByteArray) (x1 : a8) (x2 : Int) (x3 : Int) (H : Hp) (K : a8 → Hp → Prop) : Prop :=
 TL ((x2, (a8.mk 0 0), x1) : Int × a8 × a8) H fun (s : Int × a8 × a8) H n2 => z1 x0 x3 s.1 s.2.1 s.2.2 H n2 K
theorem X2 (x0 : ByteArray) (x1 : a8) (x2 : Int) (x3 : Int) {H : Hp} {K : a8 → Hp → Prop} (h : H6 x0 x1 x2 x3 H K) : B7 x0 x1 x2 x3 H K := by
 refine Ct.of fun w0 w ps0 H0 R E I hR => a8b ?_
 unfold H6 at h
 unfold F25
 refine a4G I (cs := (c8 x1)) rfl fun f ah y ai => ?_
 refine s8 y Tryd.zeroValue25 (cs := [(vi 0), (vi 0)]) rfl fun g aj z ak => ?_
 have hj1 : ∀ (m : a8) (e : a8) (H : Hp) (w : World) (_ : Inv w0 ps0 H0 H [bx g 25 (c8 m), bx f 25 (c8 e)] w) (_ : y9 m e H K), a3l (Value.pointer (some ⟨f, 0, none⟩)) (Value.pointer (some ⟨g, 0, none⟩)) w R E := by
  intro m e H w I h
  unfold a3l
  intro _
  unfold y9 at h
  refine o0 (lW Tryd.isAgg25 Tryd.sizeOf25 rfl (I.bring 1)) ?_
  refine g8 I Tryd.sizeOf25 (vs := (c8 e)) (cs' := (c8 e)) rfl rfl (nb rfl) rfl rfl fun al t am => ?_
  refine o5 Tryd.isAgg25 Tryd.sizeOf25 rfl (t.at1 (o := 0) (vs := (c8 e)) (nb rfl) rfl) ?_
  exact hR _ H _ _ t.drop.drop ⟨e, rfl, rfl, h⟩
 refine r5 fun j1 hx1 => ?_
 obtain ⟨p, i, aa, ab⟩ := h
 refine u6 (J := fun n l w => ∃ (s : Int × a8 × a8) (H : Hp) , n = i s ∧ l = (match s with | (R2, d, c) => [(vi R2)]) ∧ (match s with | (R2, d, c) => Inv w0 ps0 H0 H [bx g 25 (c8 d), bx f 25 (c8 c)] w) ∧ p s H) ⟨_, (x2, (a8.mk 0 0), x1), H, rfl, rfl, ((z.bring 1).bring 1), aa⟩ ?_
 rintro an ao w next2 ⟨⟨R2, d, c⟩, H, rfl, q, I, ac⟩ hn2
 dsimp only at q I
 simp only [List.map_cons, List.map_nil, List.cons.injEq, and_true] at q
 have e9 := q
 simp only [e9]
 obtain ⟨n2, hm2, h⟩ : ∃ n2 : (Int × a8 × a8) → Hp → Prop, (∀ s' H', n2 s' H' → p s' H' ∧ i s' < i (R2, d, c)) ∧ z1 x0 x3 R2 d c H n2 K := ⟨_, fun _ _ h => h, ab (R2, d, c) H (fun s' H' => p s' H' ∧ i s' < i (R2, d, c)) ac (fun _ _ a b => ⟨a, b⟩)⟩
 unfold a5x
 unfold z1 at h
 refine a7 (A9 _ _ _ _ _ _) ?_
 refine d7 h (fun _ h => ?_) (fun _ h => ?_)
 ·refine f8 Tryd.call31 h I ?_
  rintro _ u _ ap v _ _ ⟨ad, j, ae, rfl, rfl, h⟩
  refine a7 (b8 _ _ (vi ad) rfl) ?_
  refine a7 (b8 _ _ (vi j) rfl) ?_
  refine a7 (b8 _ _ (Value.bool ae) rfl) ?_
  refine a7 M3 ?_
  refine o0 (l1 Tryd.isAgg3 (v.bring 1) rfl) ?_
  refine a7 (q6 _ _ _ _ _ _) ?_
  refine a7 M3 ?_
  refine g8 (v.bring 1) Tryd.sizeOf3 (vs := [(vi (IntKind.wrap .i64 (c.r6 + 1)))]) (cs' := [(vi c.m6), (vi (IntKind.wrap .i64 (c.r6 + 1)))]) rfl rfl (nb rfl) rfl rfl fun aq r ar => ?_
  have hj3 : ∀ (k : a8) (H : Hp) (w : World) (_ : Inv w0 ps0 H0 H [bx f 25 (c8 k), bx g 25 (c8 d)] w) (_ : r3 x0 x3 R2 j k d H n2 K), a3m (Value.string x0) (vi x3) (Value.pointer (some ⟨f, 0, none⟩)) (Value.pointer (some ⟨g, 0, none⟩)) (vi R2) (vi j) w next2 R E := by
   intro k H w I h
   unfold a3m
   intro _
   unfold r3 at h
   refine a7 (q6 _ _ _ _ _ _) ?_
   exact hn2 _ _ _ (hm2 _ _ h).2 ⟨((IntKind.wrap .i64 (R2 + j)), d, k), H, rfl, rfl, (I.bring 1), (hm2 _ _ h).1⟩
  refine r5 fun j3 hx3 => ?_
  refine a7 (k6 _ _ _ _ _ _) ?_
  refine d7 h (fun _ h => ?_) (fun _ h => ?_)
  ·refine a7 S8 ?_
   refine o0 (l1 Tryd.isAgg3 r rfl) ?_
   refine a7 (q6 _ _ _ _ _ _) ?_
   refine a7 S8 ?_
   refine g8 r Tryd.sizeOf3 (vs := [(vi (IntKind.wrap .i64 (c.m6 + 1)))]) (cs' := [(vi (IntKind.wrap .i64 (c.m6 + 1))), (vi (IntKind.wrap .i64 (c.r6 + 1)))]) rfl rfl (nb rfl) rfl rfl fun au af av => ?_
   refine a7 M3 ?_
   refine g8 af Tryd.sizeOf3 (vs := [(vi 1)]) (cs' := [(vi (IntKind.wrap .i64 (c.m6 + 1))), (vi 1)]) rfl rfl (nb rfl) rfl rfl fun aw ag ax => ?_
   exact hx3 _ _ (hj3 (a8.mk (IntKind.wrap .i64 (c.m6 + 1)) 1) u _ ((ag.bring 1).bring 1) h)
  ·exact hx3 _ _ (hj3 (a8.mk c.m6 (IntKind.wrap .i64 (c.r6 + 1))) u _ ((r.bring 1).bring 1) h)
 ·exact hx1 _ _ (hj1 d c H _ ((I.bring 1).bring 1) h)
def y4 (a0T : ByteArray) (L2 : (List a6)) (Z0 : Int) (l : a8) (m : a8) (H : Hp) (n1 : ((List a6) × Int × a8 × a8) → Hp → Prop) (K : Sl → a8 → Int → Hp → Prop) : Prop :=
 J3 a0T Z0 H (fun d o =>
 B7 a0T l Z0 d o (fun a f =>
 ((a0T.size : Int) ≤ d →
 (L2.length + ([(a6.mk 5 ⟨#[]⟩ 0 a)] : List a6).length) * 49 ≤ 140737488355328 ∧
 ∀ (e : Sl) (g : Hp), Hle f g → SlH g 5 b6 e (L2 ++ [(a6.mk 5 ⟨#[]⟩ 0 a)]) → e.n ≤ e.c →
 K e (a8.mk 0 0) 0 g) ∧
 (¬ ((a0T.size : Int) ≤ d) →
 ((L2.length : Int) = 32768 →
 K (Sl.mk none 0 0) a 23 f) ∧
 (¬ ((L2.length : Int) = 32768) →
 L4 a0T d f (fun b j i k =>
 (¬ (i = 0) →
 K (Sl.mk none 0 0) a i k) ∧
 (i = 0 →
 (L2.length + ([(a6.mk b.P4 b.G5 b.O7 a)] : List a6).length) * 49 ≤ 140737488355328 ∧
 B7 a0T a d j k (fun p q =>
 n1 ((L2 ++ [(a6.mk b.P4 b.G5 b.O7 a)]), j, p, m) q)))))))
def G1 (x0 : ByteArray) (H : Hp) (K : Sl → a8 → Int → Hp → Prop) : Prop :=
 G7 x0 H (fun c a b =>
 (a = 10 →
 K (Sl.mk none 0 0) (a8.mk 1 1) a b) ∧
 (¬ (a = 10) →
 (¬ (a = 0) →
 M6 x0 c b (fun d e =>
 K (Sl.mk none 0 0) d a e)) ∧
 (a = 0 →
 TL (([], 0, (a8.mk 1 1), (a8.mk 0 0)) : (List a6) × Int × a8 × a8) b fun (s : (List a6) × Int × a8 × a8) H n1 => y4 x0 s.1 s.2.1 s.2.2.1 s.2.2.2 H n1 K)))
theorem W3 (x0 : ByteArray) {H : Hp} {K : Sl → a8 → Int → Hp → Prop} (h : G1 x0 H K) : F6 x0 H K := by
 refine Ct.of fun w0 w ps0 H0 R E I hR => a7Q ?_
 unfold G1 at h
 unfold F10
 refine s8 I Tryd.zeroValue25 (cs := [(vi 0), (vi 0)]) rfl fun ap bz aq ca => ?_
 refine f8 Tryd.call22 h aq ?_
 rintro _ y _ cb p _ _ ⟨ar, q, rfl, rfl, h⟩
 refine a7 (b8 _ _ (vi ar) rfl) ?_
 refine a7 (b8 _ _ (vi q) rfl) ?_
 refine a7 (k6 _ _ _ _ _ _) ?_
 refine d7 h (fun _ h => ?_) (fun _ h => ?_)
 ·refine a7 (M0 _ _) ?_
  refine g8 p Tryd.sizeOf25 (vs := [(vi 1), (vi 1)]) (cs' := [(vi 1), (vi 1)]) rfl rfl (nb rfl) rfl rfl fun cc z cd => ?_
  refine o5 Tryd.isAgg25 Tryd.sizeOf25 rfl (z.at1 (o := 0) (vs := [(vi 1), (vi 1)]) (nb rfl) rfl) ?_
  exact hR _ y _ _ z.drop ⟨(Sl.mk none 0 0), (a8.mk 1 1), q, rfl, rfl, h⟩
 ·refine a7 (E5 _ _ _ _ _ _) ?_
  refine Y1 h (fun _ h => ?_) (fun _ h => ?_)
  ·refine f8 Tryd.call23 h p ?_
   rintro _ au _ ce av _ _ ⟨k, rfl, rfl, h⟩
   refine g8 av Tryd.sizeOf25 (vs := (c8 k)) (cs' := (c8 k)) rfl rfl (nb rfl) rfl rfl fun cf aa cg => ?_
   refine o5 Tryd.isAgg25 Tryd.sizeOf25 rfl (aa.at1 (o := 0) (vs := (c8 k)) (nb rfl) rfl) ?_
   exact hR _ au _ _ aa.drop ⟨(Sl.mk none 0 0), k, q, rfl, rfl, h⟩
  ·refine a7 (M0 _ _) ?_
   refine s8 p Tryd.zeroValue25 (cs := [(vi 0), (vi 0)]) rfl fun aw ch ax ci => ?_
   refine g8 ax Tryd.sizeOf25 (vs := [(vi 1), (vi 1)]) (cs' := [(vi 1), (vi 1)]) rfl rfl (nb rfl) rfl rfl fun cj ay ck => ?_
   obtain ⟨r, j, az, ba⟩ := h
   refine u6 (J := fun n l w => ∃ (s : (List a6) × Int × a8 × a8) (H : Hp) (a1T : Sl) (Fs7l1 : Frag) , n = j s ∧ l = (match s with | (L2, Z0, i, g) => [(vs a1T), (vi Z0)]) ∧ (match s with | (L2, Z0, i, g) => RowL 33 5 b6 a1T L2 Fs7l1) ∧ (match s with | (L2, Z0, i, g) => Inv w0 ps0 H0 H [bx aw 25 (c8 i), bx ap 25 (c8 g), Fs7l1] w) ∧ r s H) ⟨_, ([], 0, (a8.mk 1 1), (a8.mk 0 0)), y, (Sl.mk none 0 0), [], rfl, rfl, (RowL.nil C7 C8), ((ay.nil.bring 2).bring 2), az⟩ ?_
   rintro cl cm w next1 ⟨⟨L2, Z0, i, g⟩, H, a1T, Fs7l1, rfl, t, a2K, I, bb⟩ hn1
   dsimp only at t I a2K
   simp only [List.map_cons, List.map_nil, List.cons.injEq, and_true] at t
   obtain ⟨e7, e9⟩ := t
   simp only [e7, e9]
   obtain ⟨n1, hm1, h⟩ : ∃ n1 : ((List a6) × Int × a8 × a8) → Hp → Prop, (∀ s' H', n1 s' H' → r s' H' ∧ j s' < j (L2, Z0, i, g)) ∧ y4 x0 L2 Z0 i g H n1 K := ⟨_, fun _ _ h => h, ba (L2, Z0, i, g) H (fun s' H' => r s' H' ∧ j s' < j (L2, Z0, i, g)) bb (fun _ _ a b => ⟨a, b⟩)⟩
   unfold a5n
   unfold y4 at h
   refine f8 Tryd.call24 h I ?_
   rintro _ _ _ cn ab _ _ ⟨co, rfl, rfl, h⟩
   refine o0 (lW Tryd.isAgg25 Tryd.sizeOf25 rfl ab) ?_
   refine f8 Tryd.call25 h ab ?_
   rintro _ bc _ cp bd _ _ ⟨d, rfl, rfl, h⟩
   refine g8 bd Tryd.sizeOf25 (vs := (c8 d)) (cs' := (c8 d)) rfl rfl (nb rfl) rfl rfl fun cq m cr => ?_
   refine a7 (y5 _) ?_
   refine a7 (P9 _ _ _ _ _ _) ?_
   refine d7 h (fun _ h => ?_) (fun _ h => ?_)
   ·refine o0 (lW Tryd.isAgg25 Tryd.sizeOf25 rfl m) ?_
    refine a7 (a0B _ _ _) ?_
    refine a4J (e := 33) (c := b6) (xs := [(a6.mk 5 ⟨#[]⟩ 0 d)]) m (a1g _ _ _ _ _) rfl rfl C7 C8 (nb rfl) fun ct cu cv be ac cw => ?_
    obtain ⟨bf, h⟩ := h
    refine a1P (s := a1T) (xs := L2) (ac.bring 3) a2K (be.srcO ((ac.bring 3).bring 1)) bf fun ad cx cy bg bh cz => ?_
    refine a7 (a2u ) ?_
    refine g8 ((bh.bring 1).drop.bring 2) Tryd.sizeOf25 (vs := [(vi 0), (vi 0)]) (cs' := [(vi 0), (vi 0)]) rfl rfl (nb rfl) rfl rfl fun da ae db => ?_
    refine o5 Tryd.isAgg25 Tryd.sizeOf25 rfl (ae.at1 (o := 0) (vs := [(vi 0), (vi 0)]) (nb rfl) rfl) ?_
    obtain ⟨af, bi, bj, bk, bl⟩ := Inv.freezeC (ae.bring 1) bg (by decide)
    replace h := h ad af bj bk bl
    exact hR _ af _ _ bi.drop.drop ⟨ad, (a8.mk 0 0), 0, rfl, rfl, h⟩
   ·refine a7 (a0t Tryd.underlying23 a2K) ?_
    refine a7 (k6 _ _ _ _ _ _) ?_
    refine d7 h (fun _ h => ?_) (fun _ h => ?_)
    ·refine V7 m fun dc ag => ?_
     refine E8 (lW Tryd.isAgg25 Tryd.sizeOf25 rfl ag) ?_
     refine g8 (ag.bring 1) Tryd.sizeOf25 (vs := (c8 d)) (cs' := (c8 d)) rfl rfl (nb rfl) rfl rfl fun dd ah de => ?_
     refine o5 Tryd.isAgg25 Tryd.sizeOf25 rfl (ah.at1 (o := 0) (vs := (c8 d)) (nb rfl) rfl) ?_
     exact hR _ bc _ _ ah.drop.drop.drop ⟨(Sl.mk none 0 0), d, 23, rfl, rfl, h⟩
    ·refine f8 Tryd.call26 h m ?_
     rintro _ bm _ df bn _ _ ⟨f, ai, aj, rfl, rfl, h⟩
     refine a7 (b8 _ _ _ rfl) ?_
     refine a7 (b8 _ _ (vi ai) rfl) ?_
     refine a7 (b8 _ _ (vi aj) rfl) ?_
     refine s8 bn Tryd.zeroValue33 (cs := [(vi 0), (Value.string ⟨#[]⟩), (vi 0), (vi 0), (vi 0)]) rfl fun dg dh bo di => ?_
     refine g8 bo Tryd.sizeOf33 (vs := (b6 f)) (cs' := (b6 f)) rfl rfl (nb rfl) rfl rfl fun dj u dk => ?_
     refine a7 (E5 _ _ _ _ _ _) ?_
     refine Y1 h (fun _ h => ?_) (fun _ h => ?_)
     ·refine V7 u fun dl ak => ?_
      refine E8 (lW Tryd.isAgg25 Tryd.sizeOf25 rfl (ak.bring 1)) ?_
      refine g8 (ak.bring 2) Tryd.sizeOf25 (vs := (c8 d)) (cs' := (c8 d)) rfl rfl (nb rfl) rfl rfl fun dm al dn => ?_
      refine o5 Tryd.isAgg25 Tryd.sizeOf25 rfl (al.at1 (o := 0) (vs := (c8 d)) (nb rfl) rfl) ?_
      exact hR _ bm _ _ al.drop.drop.drop.drop ⟨(Sl.mk none 0 0), d, aj, rfl, rfl, h⟩
     ·refine o0 (lW Tryd.isAgg25 Tryd.sizeOf25 rfl (u.bring 1)) ?_
      refine a7 a0u ?_
      refine g8 u Tryd.sizeOf25 (vs := (c8 d)) (cs' := [(vi f.P4), (Value.string f.G5), (vi f.O7), (vi d.m6), (vi d.r6)]) rfl rfl (nb rfl) rfl rfl fun dp am dq => ?_
      refine o0 (ldA Tryd.isAgg33 Tryd.sizeOf33 rfl (am.at1 (o := 0) (vs := [(vi f.P4), (Value.string f.G5), (vi f.O7), (vi d.m6), (vi d.r6)]) (nb rfl) rfl)) ?_
      refine a4J (e := 33) (c := b6) (xs := [(a6.mk f.P4 f.G5 f.O7 d)]) am (a1g _ _ _ _ _) rfl rfl C7 C8 (nb rfl) fun dr ds dt bp an du => ?_
      obtain ⟨bq, h⟩ := h
      refine a1P (s := a1T) (xs := L2) (an.bring 4) a2K (bp.srcO ((an.bring 4).bring 1)) bq fun br bs dv bt ao dw => ?_
      refine o0 (lW Tryd.isAgg25 Tryd.sizeOf25 rfl ((ao.bring 1).drop.bring 2)) ?_
      refine f8 Tryd.call25 h (ao.bring 1).drop ?_
      rintro _ bu _ dx bv _ _ ⟨v, rfl, rfl, h⟩
      refine g8 (bv.bring 2) Tryd.sizeOf25 (vs := (c8 v)) (cs' := (c8 v)) rfl rfl (nb rfl) rfl rfl fun dy bw dz => ?_
      exact hn1 _ _ _ (hm1 _ _ h).2 ⟨((L2 ++ [(a6.mk f.P4 f.G5 f.O7 d)]), ai, v, g), bu, br, bs, rfl, rfl, bt, ((((bw.bring 2).drop.bring 1).bring 2).bring 2), (hm1 _ _ h).1⟩
def E7 (H : Hp) (K : Bool → Hp → Prop) : Prop :=
 K true H
def A4 (p9 : Sl) (C4 : Sl) (K1 : Int) (H : Hp) (n2 : Int → Hp → Prop) (K : Bool → Hp → Prop) : Prop :=
 (K1 < (p9.n : Int) →
 (0 : Int) ≤ K1 ∧ (K1 : Int) < p9.n ∧ ∃ a : a6, EltH H p9 K1 5 (b6 a) ∧
 (0 : Int) ≤ K1 ∧ (K1 : Int) < C4.n ∧ ∃ b : a6, EltH H C4 K1 5 (b6 b) ∧
 (¬ (a.P4 = b.P4 ∧ a.G5 = b.G5 ∧ a.O7 = b.O7 ∧ a.fAt.m6 = b.fAt.m6 ∧ a.fAt.r6 = b.fAt.r6) →
 K false H) ∧
 (a.P4 = b.P4 ∧ a.G5 = b.G5 ∧ a.O7 = b.O7 ∧ a.fAt.m6 = b.fAt.m6 ∧ a.fAt.r6 = b.fAt.r6 →
 n2 (IntKind.wrap .i64 (K1 + 1)) H)) ∧
 (¬ (K1 < (p9.n : Int)) →
 E7 H K)
def K5 (x0 : Sl) (x1 : Sl) (H : Hp) (K : Bool → Hp → Prop) : Prop :=
 (¬ ((x0.n : Int) = (x1.n : Int)) →
 K false H) ∧
 ((x0.n : Int) = (x1.n : Int) →
 TL (0 : Int) H fun (s : Int) H n2 => A4 x0 x1 s H n2 K)
theorem Z1 (x0 : Sl) (x1 : Sl) {H : Hp} {K : Bool → Hp → Prop} (h : K5 x0 x1 H K) : C1 x0 x1 H K := by
 refine Ct.of fun w0 w ps0 H0 R E I hR => a7R ?_
 unfold K5 at h
 unfold F11
 refine a7 (Z8 _ _ _) ?_
 refine a7 (Z8 _ _ _) ?_
 refine a7 (E5 _ _ _ _ _ _) ?_
 refine Y1 h (fun _ h => ?_) (fun _ h => ?_)
 ·exact hR _ H _ _ I ⟨false, rfl, rfl, h⟩
 ·have hj1 : ∀ (H : Hp) (w : World) (_ : Inv w0 ps0 H0 H [] w) (_ : E7 H K), a3c w R E := by
   intro H w I h
   unfold a3c
   intro _
   unfold E7 at h
   exact hR _ H _ _ I ⟨true, rfl, rfl, h⟩
  refine r5 fun j1 hx1 => ?_
  obtain ⟨e, c, j, k⟩ := h
  refine u6 (J := fun n l w => ∃ (s : Int) (H : Hp) , n = c s ∧ l = [(vi s)] ∧ Inv w0 ps0 H0 H [] w ∧ e s H) ⟨_, 0, H, rfl, rfl, I, j⟩ ?_
  rintro z aa w next2 ⟨K1, H, rfl, i, I, m⟩ hn2
  simp only [List.map_cons, List.map_nil, List.cons.injEq, and_true] at i
  have e5 := i
  simp only [e5]
  obtain ⟨n2, hm2, h⟩ : ∃ n2 : Int → Hp → Prop, (∀ s' H', n2 s' H' → e s' H' ∧ c s' < c K1) ∧ A4 x0 x1 K1 H n2 K := ⟨_, fun _ _ h => h, k K1 H (fun s' H' => e s' H' ∧ c s' < c K1) m (fun _ _ a b => ⟨a, b⟩)⟩
  unfold a5o
  unfold A4 at h
  refine a7 (Z8 _ _ _) ?_
  refine a7 (A9 _ _ _ _ _ _) ?_
  refine d7 h (fun _ h => ?_) (fun _ h => ?_)
  ·refine V7 I fun ab d => ?_
   obtain ⟨o, p, q, f, h⟩ := h
   obtain ⟨ac, ad, r, f⟩ := f
   refine r4 (T5 r _ _ _ _ o p) ?_
   obtain ⟨t, u, v, g, h⟩ := h
   obtain ⟨ae, af, y, g⟩ := g
   refine r4 (T5 y _ _ _ _ t u) ?_
   refine E8 (ldA (vs := (b6 q)) Tryd.isAgg33 Tryd.sizeOf33 rfl (d.atH f)) ?_
   refine E8 (ldA (vs := (b6 v)) Tryd.isAgg33 Tryd.sizeOf33 rfl (d.atH g)) ?_
   refine r4 (a6s _ _ _ _ _ _ _ _ _ _ _ _) ?_
   refine Y1 h (fun _ h => ?_) (fun _ h => ?_)
   ·exact hR _ H _ _ d ⟨false, rfl, rfl, h⟩
   ·refine a7 (q6 _ _ _ _ _ _) ?_
    exact hn2 _ _ _ (hm2 _ _ h).2 ⟨(IntKind.wrap .i64 (K1 + 1)), H, rfl, rfl, d, (hm2 _ _ h).1⟩
  ·exact hx1 _ _ (hj1 H _ I h)
def P1 (x0 : ByteArray) (x1 : ByteArray) (H : Hp) (K : Bool → Hp → Prop) : Prop :=
 J5 x0 x1 H (fun a b =>
 K a b)
theorem a0D (x0 : ByteArray) (x1 : ByteArray) {H : Hp} {K : Bool → Hp → Prop} (h : P1 x0 x1 H K) : L1 x0 x1 H K := by
 refine Ct.of fun w0 w ps0 H0 R E I hR => a8j ?_
 unfold P1 at h
 unfold F38
 refine f8 Tryd.call57 h I ?_
 rintro _ a _ d b _ _ ⟨c, rfl, rfl, h⟩
 exact hR _ a _ _ b ⟨c, rfl, rfl, h⟩
def j6 (L5 : Int) (i7 : ByteArray) (i8 : Int) (l9 : a8) (m3 : (List a6)) (H : Hp) (K : ByteArray → b5 → (List a6) → Hp → Prop) : Prop :=
 (0 : Int) ≤ L5 ∧ (L5 : Int) ≤ i8 ∧ (i8 : Int) ≤ i7.size ∧
 K (i7.extract (L5 : Int).toNat (i8 : Int).toNat) (b5.mk i7 i8 l9 (Sl.mk none 0 0)) m3 H
def k9 (K1 : Int) (o2 : Int) (g7 : Bool) (d9 : ByteArray) (f6 : Int) (d6 : a8) (d8 : (List a6)) (H : Hp) (n2 : (Int × Bool × ByteArray × Int × a8 × (List a6)) → Hp → Prop) (K : ByteArray → b5 → (List a6) → Hp → Prop) : Prop :=
 TG (g7 = true) (C9 o2 H) false H (fun (b : Bool) (c : Hp) =>
 ((g7 && b) = true →
 l8 (b5.mk d9 f6 d6 (Sl.mk none 0 0)) d8 c (fun a d e =>
 j9 (g5 a) d e (fun f g i =>
 n2 (f, g, a.fs, a.fn, a.fat, d) i))) ∧
 ((g7 && b) = false →
 j6 K1 d9 f6 d6 d8 c K))
def p1 (x0 : b5) (a : (List a6)) (H : Hp) (K : ByteArray → b5 → (List a6) → Hp → Prop) : Prop :=
 j9 (g5 x0) a H (fun b c d =>
 TL ((b, c, x0.fs, x0.fn, x0.fat, a) : Int × Bool × ByteArray × Int × a8 × (List a6)) d fun (s : Int × Bool × ByteArray × Int × a8 × (List a6)) H n2 => k9 x0.fn s.1 s.2.1 s.2.2.1 s.2.2.2.1 s.2.2.2.2.1 s.2.2.2.2.2 H n2 K)
theorem D9 (x0 : b5) (q : (List a6)) {H : Hp} {K : ByteArray → b5 → (List a6) → Hp → Prop} (h : p1 x0 q H K) : o7 x0 q H K := by
 intro g0 y z aa
 refine Ct.of fun w0 w ps0 H0 R E I hR => a1R ?_
 unfold p1 at h
 unfold F37
 refine a7 (q9 _) ?_
 refine a7 B1 ?_
 refine o0 (l1 Tryd.isAgg3 I rfl) ?_
 have hj1 : ∀ (i7 : ByteArray) (i8 : Int) (l9 : a8) (m3 : (List a6)) (u7 : Sl) (q5 : Frag) (H : Hp) (w : World) (_ : RowL 33 5 b6 u7 m3 q5) (_ : Inv w0 ps0 H0 H [bx g0 44 [(Value.string i7), (vi i8), (vi l9.m6), (vi l9.r6), (vs u7)], q5] w) (_ : j6 x0.fn i7 i8 l9 m3 H K), S9 (Value.pointer (some ⟨g0, 0, none⟩)) (vi x0.fn) w R E := by
  intro i7 i8 l9 m3 u7 q5 H w M8 I h
  unfold S9
  intro _
  unfold j6 at h
  refine V7 I fun ax r => ?_
  refine r4 (q9 _) ?_
  refine r4 S7 ?_
  refine r4 (q9 _) ?_
  refine r4 B1 ?_
  refine E8 (l1 Tryd.isAgg9 r rfl) ?_
  refine E8 (l1 Tryd.isAgg3 r rfl) ?_
  obtain ⟨al, am, an, h⟩ := h
  refine r4 (O0 i7 Tryd.underlying9 al am an) ?_
  exact hR _ H _ _ ((r.bring 1).bring 1) ⟨(i7.extract (x0.fn : Int).toNat (i8 : Int).toNat), (b5.mk i7 i8 l9 (Sl.mk none 0 0)), m3, u7, q5, rfl, rfl, M8, h⟩
 refine r5 fun j1 hx1 => ?_
 refine f8 Tryd.call20 (h g0 y z aa) ((I.bring 1).bring 1) ?_
 rintro _ ao _ ay ap _ _ ⟨ab, ac, rfl, rfl, h⟩
 refine a7 (b8 _ _ (Value.int .i32 ab) rfl) ?_
 refine a7 (b8 _ _ (Value.bool ac) rfl) ?_
 obtain ⟨t, g, aq, ar⟩ := h
 refine u6 (J := fun n l w => ∃ (s : Int × Bool × ByteArray × Int × a8 × (List a6)) (H : Hp) (o6 : Sl) (m5 : Frag) , n = g s ∧ l = (match s with | (o2, g7, d9, f6, d6, d8) => [(Value.int .i32 o2), (Value.bool g7)]) ∧ (match s with | (o2, g7, d9, f6, d6, d8) => RowL 33 5 b6 o6 d8 m5) ∧ (match s with | (o2, g7, d9, f6, d6, d8) => Inv w0 ps0 H0 H [bx g0 44 [(Value.string d9), (vi f6), (vi d6.m6), (vi d6.r6), (vs o6)], m5] w) ∧ t s H) ⟨_, (ab, ac, x0.fs, x0.fn, x0.fat, q), ao, y, z, rfl, rfl, aa, ((ap.bring 1).bring 1), aq⟩ ?_
 rintro az ba w next2 ⟨⟨o2, g7, d9, f6, d6, d8⟩, H, o6, m5, rfl, u, s5, I, au⟩ hn2
 dsimp only at u I s5
 simp only [List.map_cons, List.map_nil, List.cons.injEq, and_true] at u
 obtain ⟨e6, e7⟩ := u
 simp only [e6, e7]
 obtain ⟨n2, hm2, h⟩ : ∃ n2 : (Int × Bool × ByteArray × Int × a8 × (List a6)) → Hp → Prop, (∀ s' H', n2 s' H' → t s' H' ∧ g s' < g (o2, g7, d9, f6, d6, d8)) ∧ k9 x0.fn o2 g7 d9 f6 d6 d8 H n2 K := ⟨_, fun _ _ h => h, ar (o2, g7, d9, f6, d6, d8) H (fun s' H' => t s' H' ∧ g s' < g (o2, g7, d9, f6, d6, d8)) au (fun _ _ a b => ⟨a, b⟩)⟩
 unfold a0R
 unfold k9 at h
 simp only [o3]
 refine S6 (D := fun ad j => ∃ (f : Bool) (c : Hp) , ad = (gv g7 true (Value.bool f)) ∧ (Inv w0 ps0 H0 c [bx g0 44 [(Value.string d9), (vi f6), (vi d6.m6), (vi d6.r6), (vs o6)], m5] j) ∧ (∀ i, i < w.heap.size → ¬ inF [] i → j.heap[i]? = w.heap[i]?) ∧ Hle H c ∧ (((g7 && f) = true →
 l8 (b5.mk d9 f6 d6 (Sl.mk none 0 0)) d8 c (fun (d : b5) (k : (List a6)) (ae : Hp) =>
 j9 (g5 d) k ae (fun (m : Int) (o : Bool) (v : Hp) =>
 n2 (m, o, d.fs, d.fn, d.fat, k) v))) ∧
 ((g7 && f) = false →
 j6 x0.fn d9 f6 d6 d8 c K))) (fun e => ?_) (fun e => ?_) ?_
 ·replace h := h.1 e
  have af := e
  simp only [m1 af]
  refine f8 Tryd.call40 h I ?_
  rintro _ c _ j p ag ah ⟨f, rfl, rfl, h⟩
  exact ⟨f, c, by rfl, p, ah, ag, h⟩
 ·exact ⟨false, H, by rw [a0r e], I, fun _ _ _ => rfl, Hle.refl _, h.2 e⟩
 ·clear h
  rintro ad j ⟨f, c, rfl, p, ah, ag, h⟩
  refine a7 (s4 _ _) ?_
  refine m0 h (fun _ h => ?_) (fun _ h => ?_)
  ·refine f8 Tryd.call56 (h g0 o6 m5 s5) ((p.bring 1).bring 1) ?_
   rintro _ ae _ bb av _ _ ⟨d, k, ai, aj, rfl, rfl, ak, h⟩
   refine f8 Tryd.call20 (h g0 ai aj ak) ((av.bring 1).bring 1) ?_
   rintro _ v _ bc aw _ _ ⟨m, o, rfl, rfl, h⟩
   refine a7 (b8 _ _ (Value.int .i32 m) rfl) ?_
   refine a7 (b8 _ _ (Value.bool o) rfl) ?_
   exact hn2 _ _ _ (hm2 _ _ h).2 ⟨(m, o, d.fs, d.fn, d.fat, k), v, ai, aj, rfl, rfl, ak, ((aw.bring 1).bring 1), (hm2 _ _ h).1⟩
  ·exact hx1 _ _ (hj1 d9 f6 d6 d8 o6 m5 c _ s5 ((p.bring 1).bring 1) h)
def j7 (L5 : Int) (i7 : ByteArray) (i8 : Int) (l9 : a8) (m3 : (List a6)) (H : Hp) (K : ByteArray → b5 → (List a6) → Hp → Prop) : Prop :=
 (0 : Int) ≤ L5 ∧ (L5 : Int) ≤ i8 ∧ (i8 : Int) ≤ i7.size ∧
 K (i7.extract (L5 : Int).toNat (i8 : Int).toNat) (b5.mk i7 i8 l9 (Sl.mk none 0 0)) m3 H
def l0 (K1 : Int) (o2 : Int) (g7 : Bool) (d9 : ByteArray) (f6 : Int) (d6 : a8) (d8 : (List a6)) (H : Hp) (n2 : (Int × Bool × ByteArray × Int × a8 × (List a6)) → Hp → Prop) (K : ByteArray → b5 → (List a6) → Hp → Prop) : Prop :=
 TG (g7 = true) (D2 o2 H) false H (fun (b : Bool) (c : Hp) =>
 ((g7 && b) = true →
 l8 (b5.mk d9 f6 d6 (Sl.mk none 0 0)) d8 c (fun a d e =>
 j9 (g5 a) d e (fun f g i =>
 n2 (f, g, a.fs, a.fn, a.fat, d) i))) ∧
 ((g7 && b) = false →
 j7 K1 d9 f6 d6 d8 c K))
def p5 (x0 : b5) (a : (List a6)) (H : Hp) (K : ByteArray → b5 → (List a6) → Hp → Prop) : Prop :=
 j9 (g5 x0) a H (fun b c d =>
 TL ((b, c, x0.fs, x0.fn, x0.fat, a) : Int × Bool × ByteArray × Int × a8 × (List a6)) d fun (s : Int × Bool × ByteArray × Int × a8 × (List a6)) H n2 => l0 x0.fn s.1 s.2.1 s.2.2.1 s.2.2.2.1 s.2.2.2.2.1 s.2.2.2.2.2 H n2 K)
theorem E0 (x0 : b5) (q : (List a6)) {H : Hp} {K : ByteArray → b5 → (List a6) → Hp → Prop} (h : p5 x0 q H K) : o8 x0 q H K := by
 intro g0 y z aa
 refine Ct.of fun w0 w ps0 H0 R E I hR => a1R ?_
 unfold p5 at h
 unfold F37
 refine a7 (q9 _) ?_
 refine a7 B1 ?_
 refine o0 (l1 Tryd.isAgg3 I rfl) ?_
 have hj1 : ∀ (i7 : ByteArray) (i8 : Int) (l9 : a8) (m3 : (List a6)) (u7 : Sl) (q5 : Frag) (H : Hp) (w : World) (_ : RowL 33 5 b6 u7 m3 q5) (_ : Inv w0 ps0 H0 H [bx g0 44 [(Value.string i7), (vi i8), (vi l9.m6), (vi l9.r6), (vs u7)], q5] w) (_ : j7 x0.fn i7 i8 l9 m3 H K), S9 (Value.pointer (some ⟨g0, 0, none⟩)) (vi x0.fn) w R E := by
  intro i7 i8 l9 m3 u7 q5 H w M8 I h
  unfold S9
  intro _
  unfold j7 at h
  refine V7 I fun ax r => ?_
  refine r4 (q9 _) ?_
  refine r4 S7 ?_
  refine r4 (q9 _) ?_
  refine r4 B1 ?_
  refine E8 (l1 Tryd.isAgg9 r rfl) ?_
  refine E8 (l1 Tryd.isAgg3 r rfl) ?_
  obtain ⟨ak, al, am, h⟩ := h
  refine r4 (O0 i7 Tryd.underlying9 ak al am) ?_
  exact hR _ H _ _ ((r.bring 1).bring 1) ⟨(i7.extract (x0.fn : Int).toNat (i8 : Int).toNat), (b5.mk i7 i8 l9 (Sl.mk none 0 0)), m3, u7, q5, rfl, rfl, M8, h⟩
 refine r5 fun j1 hx1 => ?_
 refine f8 Tryd.call20 (h g0 y z aa) ((I.bring 1).bring 1) ?_
 rintro _ an _ ay ao _ _ ⟨ab, ac, rfl, rfl, h⟩
 refine a7 (b8 _ _ (Value.int .i32 ab) rfl) ?_
 refine a7 (b8 _ _ (Value.bool ac) rfl) ?_
 obtain ⟨t, g, ap, aq⟩ := h
 refine u6 (J := fun n l w => ∃ (s : Int × Bool × ByteArray × Int × a8 × (List a6)) (H : Hp) (o6 : Sl) (m5 : Frag) , n = g s ∧ l = (match s with | (o2, g7, d9, f6, d6, d8) => [(Value.int .i32 o2), (Value.bool g7)]) ∧ (match s with | (o2, g7, d9, f6, d6, d8) => RowL 33 5 b6 o6 d8 m5) ∧ (match s with | (o2, g7, d9, f6, d6, d8) => Inv w0 ps0 H0 H [bx g0 44 [(Value.string d9), (vi f6), (vi d6.m6), (vi d6.r6), (vs o6)], m5] w) ∧ t s H) ⟨_, (ab, ac, x0.fs, x0.fn, x0.fat, q), an, y, z, rfl, rfl, aa, ((ao.bring 1).bring 1), ap⟩ ?_
 rintro az ba w next2 ⟨⟨o2, g7, d9, f6, d6, d8⟩, H, o6, m5, rfl, u, s5, I, ar⟩ hn2
 dsimp only at u I s5
 simp only [List.map_cons, List.map_nil, List.cons.injEq, and_true] at u
 obtain ⟨e6, e7⟩ := u
 simp only [e6, e7]
 obtain ⟨n2, hm2, h⟩ : ∃ n2 : (Int × Bool × ByteArray × Int × a8 × (List a6)) → Hp → Prop, (∀ s' H', n2 s' H' → t s' H' ∧ g s' < g (o2, g7, d9, f6, d6, d8)) ∧ l0 x0.fn o2 g7 d9 f6 d6 d8 H n2 K := ⟨_, fun _ _ h => h, aq (o2, g7, d9, f6, d6, d8) H (fun s' H' => t s' H' ∧ g s' < g (o2, g7, d9, f6, d6, d8)) ar (fun _ _ a b => ⟨a, b⟩)⟩
 unfold a0R
 unfold l0 at h
 simp only [o3]
 refine S6 (D := fun ad j => ∃ (f : Bool) (c : Hp) , ad = (gv g7 true (Value.bool f)) ∧ (Inv w0 ps0 H0 c [bx g0 44 [(Value.string d9), (vi f6), (vi d6.m6), (vi d6.r6), (vs o6)], m5] j) ∧ (∀ i, i < w.heap.size → ¬ inF [] i → j.heap[i]? = w.heap[i]?) ∧ Hle H c ∧ (((g7 && f) = true →
 l8 (b5.mk d9 f6 d6 (Sl.mk none 0 0)) d8 c (fun (d : b5) (k : (List a6)) (au : Hp) =>
 j9 (g5 d) k au (fun (m : Int) (o : Bool) (v : Hp) =>
 n2 (m, o, d.fs, d.fn, d.fat, k) v))) ∧
 ((g7 && f) = false →
 j7 x0.fn d9 f6 d6 d8 c K))) (fun e => ?_) (fun e => ?_) ?_
 ·replace h := h.1 e
  have ae := e
  simp only [m1 ae]
  refine f8 Tryd.call58 h I ?_
  rintro _ c _ j p af ag ⟨f, rfl, rfl, h⟩
  exact ⟨f, c, by rfl, p, ag, af, h⟩
 ·exact ⟨false, H, by rw [a0r e], I, fun _ _ _ => rfl, Hle.refl _, h.2 e⟩
 ·clear h
  rintro ad j ⟨f, c, rfl, p, ag, af, h⟩
  refine a7 (s4 _ _) ?_
  refine m0 h (fun _ h => ?_) (fun _ h => ?_)
  ·refine f8 Tryd.call56 (h g0 o6 m5 s5) ((p.bring 1).bring 1) ?_
   rintro _ _ _ bb av _ _ ⟨d, k, ah, ai, rfl, rfl, aj, h⟩
   refine f8 Tryd.call20 (h g0 ah ai aj) ((av.bring 1).bring 1) ?_
   rintro _ v _ bc aw _ _ ⟨m, o, rfl, rfl, h⟩
   refine a7 (b8 _ _ (Value.int .i32 m) rfl) ?_
   refine a7 (b8 _ _ (Value.bool o) rfl) ?_
   exact hn2 _ _ _ (hm2 _ _ h).2 ⟨(m, o, d.fs, d.fn, d.fat, k), v, ah, ai, rfl, rfl, aj, ((aw.bring 1).bring 1), (hm2 _ _ h).1⟩
  ·exact hx1 _ _ (hj1 d9 f6 d6 d8 o6 m5 c _ s5 ((p.bring 1).bring 1) h)
def N7 (H : Hp) (K : a6 → Int → Hp → Prop) : Prop :=
 K (a6.mk 0 ⟨#[]⟩ 0 (a8.mk 0 0)) 20 H
theorem V6 {H : Hp} {K : a6 → Int → Hp → Prop} (h : N7 H K) : V4 H K := by
 refine Ct.of fun w0 w ps0 H0 R E I hR => a8p ?_
 unfold N7 at h
 unfold F44
 refine s8 I Tryd.zeroValue33 (cs := [(vi 0), (Value.string ⟨#[]⟩), (vi 0), (vi 0), (vi 0)]) rfl fun c d b e => ?_
 refine a7 (N5 ) ?_
 refine g8 b Tryd.sizeOf33 (vs := [(vi 0), (Value.string ⟨#[]⟩), (vi 0), (vi 0), (vi 0)]) (cs' := [(vi 0), (Value.string ⟨#[]⟩), (vi 0), (vi 0), (vi 0)]) rfl rfl (nb rfl) rfl rfl fun f a g => ?_
 refine o5 Tryd.isAgg33 Tryd.sizeOf33 rfl (a.at1 (o := 0) (vs := [(vi 0), (Value.string ⟨#[]⟩), (vi 0), (vi 0), (vi 0)]) (nb rfl) rfl) ?_
 exact hR _ H _ _ a.drop ⟨(a6.mk 0 ⟨#[]⟩ 0 (a8.mk 0 0)), 20, rfl, rfl, h⟩
end Go.Proofs.YthklmeihgmcljaaDoor
