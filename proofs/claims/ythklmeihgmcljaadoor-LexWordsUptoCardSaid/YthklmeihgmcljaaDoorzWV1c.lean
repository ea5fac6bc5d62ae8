/- Typed formulas of the program's functions, and the theorems that the contracts follow from them; printed by lift.py off the code. -/
import Derived.Test.YthklmeihgmcljaaDoorzWV1
namespace Go.Proofs.YthklmeihgmcljaaDoor
open Go.RowKit
set_option maxRecDepth 100000
set_option maxHeartbeats 2000000
def b9 (j6 : Bool) (H : Hp) (K : Bool → Hp → Prop) : Prop :=
 (j6 = true →
 K true H) ∧
 (j6 = false →
 K false H)
def D7 (x0 : ByteArray) (H : Hp) (K : Bool → Hp → Prop) : Prop :=
 (x0 = ⟨#[118, 97, 114]⟩ →
 b9 (decide (x0 = ⟨#[118, 97, 114]⟩)) H K) ∧
 (¬ (x0 = ⟨#[118, 97, 114]⟩) →
 (x0 = ⟨#[97, 114, 114, 97, 121]⟩ →
 b9 (decide (x0 = ⟨#[97, 114, 114, 97, 121]⟩)) H K) ∧
 (¬ (x0 = ⟨#[97, 114, 114, 97, 121]⟩) →
 (x0 = ⟨#[105, 102]⟩ →
 b9 (decide (x0 = ⟨#[105, 102]⟩)) H K) ∧
 (¬ (x0 = ⟨#[105, 102]⟩) →
 (x0 = ⟨#[101, 108, 115, 101]⟩ →
 b9 (decide (x0 = ⟨#[101, 108, 115, 101]⟩)) H K) ∧
 (¬ (x0 = ⟨#[101, 108, 115, 101]⟩) →
 (x0 = ⟨#[119, 104, 105, 108, 101]⟩ →
 b9 (decide (x0 = ⟨#[119, 104, 105, 108, 101]⟩)) H K) ∧
 (¬ (x0 = ⟨#[119, 104, 105, 108, 101]⟩) →
 (x0 = ⟨#[97, 115, 115, 101, 114, 116]⟩ →
 b9 (decide (x0 = ⟨#[97, 115, 115, 101, 114, 116]⟩)) H K) ∧
 (¬ (x0 = ⟨#[97, 115, 115, 101, 114, 116]⟩) →
 (x0 = ⟨#[97, 115, 115, 117, 109, 101]⟩ →
 b9 (decide (x0 = ⟨#[97, 115, 115, 117, 109, 101]⟩)) H K) ∧
 (¬ (x0 = ⟨#[97, 115, 115, 117, 109, 101]⟩) →
 (x0 = ⟨#[115, 107, 105, 112]⟩ →
 b9 (decide (x0 = ⟨#[115, 107, 105, 112]⟩)) H K) ∧
 (¬ (x0 = ⟨#[115, 107, 105, 112]⟩) →
 (x0 = ⟨#[105, 110, 112, 117, 116]⟩ →
 b9 (decide (x0 = ⟨#[105, 110, 112, 117, 116]⟩)) H K) ∧
 (¬ (x0 = ⟨#[105, 110, 112, 117, 116]⟩) →
 (x0 = ⟨#[116, 114, 117, 101]⟩ →
 b9 (decide (x0 = ⟨#[116, 114, 117, 101]⟩)) H K) ∧
 (¬ (x0 = ⟨#[116, 114, 117, 101]⟩) →
 b9 (decide (x0 = ⟨#[102, 97, 108, 115, 101]⟩)) H K))))))))))
theorem S6 (x0 : ByteArray) {H : Hp} {K : Bool → Hp → Prop} (h : D7 x0 H K) : s8 x0 H K := by
 refine Ct.of fun w0 w ps0 H0 R E I hR => a5Z ?_
 unfold D7 at h
 unfold F14
 have hj1 : ∀ (j6 : Bool) (H : Hp) (w : World) (_ : Inv w0 ps0 H0 H [] w) (_ : b9 j6 H K), a1B (Value.bool j6) w R E := by
  intro j6 H w I h
  unfold a1B
  intro _
  unfold b9 at h
  refine m3 h (fun _ h => ?_) (fun _ h => ?_)
  ·exact hR _ H _ _ I ⟨true, rfl, rfl, h⟩
  ·exact hR _ H _ _ I ⟨false, rfl, rfl, h⟩
 refine u4 fun j1 hx1 => ?_
 refine a7 (r3 _ _ _ _ _) ?_
 refine g5 h (fun _ h => ?_) (fun _ h => ?_)
 ·exact hx1 _ _ (hj1 (decide (x0 = ⟨#[118, 97, 114]⟩)) H _ I h)
 ·refine a7 (r3 _ _ _ _ _) ?_
  refine g5 h (fun _ h => ?_) (fun _ h => ?_)
  ·exact hx1 _ _ (hj1 (decide (x0 = ⟨#[97, 114, 114, 97, 121]⟩)) H _ I h)
  ·refine a7 (r3 _ _ _ _ _) ?_
   refine g5 h (fun _ h => ?_) (fun _ h => ?_)
   ·exact hx1 _ _ (hj1 (decide (x0 = ⟨#[105, 102]⟩)) H _ I h)
   ·refine a7 (r3 _ _ _ _ _) ?_
    refine g5 h (fun _ h => ?_) (fun _ h => ?_)
    ·exact hx1 _ _ (hj1 (decide (x0 = ⟨#[101, 108, 115, 101]⟩)) H _ I h)
    ·refine a7 (r3 _ _ _ _ _) ?_
     refine g5 h (fun _ h => ?_) (fun _ h => ?_)
     ·exact hx1 _ _ (hj1 (decide (x0 = ⟨#[119, 104, 105, 108, 101]⟩)) H _ I h)
     ·refine a7 (r3 _ _ _ _ _) ?_
      refine g5 h (fun _ h => ?_) (fun _ h => ?_)
      ·exact hx1 _ _ (hj1 (decide (x0 = ⟨#[97, 115, 115, 101, 114, 116]⟩)) H _ I h)
      ·refine a7 (r3 _ _ _ _ _) ?_
       refine g5 h (fun _ h => ?_) (fun _ h => ?_)
       ·exact hx1 _ _ (hj1 (decide (x0 = ⟨#[97, 115, 115, 117, 109, 101]⟩)) H _ I h)
       ·refine a7 (r3 _ _ _ _ _) ?_
        refine g5 h (fun _ h => ?_) (fun _ h => ?_)
        ·exact hx1 _ _ (hj1 (decide (x0 = ⟨#[115, 107, 105, 112]⟩)) H _ I h)
        ·refine a7 (r3 _ _ _ _ _) ?_
         refine g5 h (fun _ h => ?_) (fun _ h => ?_)
         ·exact hx1 _ _ (hj1 (decide (x0 = ⟨#[105, 110, 112, 117, 116]⟩)) H _ I h)
         ·refine a7 (r3 _ _ _ _ _) ?_
          refine g5 h (fun _ h => ?_) (fun _ h => ?_)
          ·exact hx1 _ _ (hj1 (decide (x0 = ⟨#[116, 114, 117, 101]⟩)) H _ I h)
          ·refine a7 (r3 _ _ _ _ _) ?_
           exact hx1 _ _ (hj1 (decide (x0 = ⟨#[102, 97, 108, 115, 101]⟩)) H _ I h)
def M7 (x0 : Int) (x1 : Int) (x2 : Int) (H : Hp) (K : Bool → Hp → Prop) : Prop :=
 K ((decide (x0 ≤ x2)) && (decide (x2 ≤ x1))) H
theorem T4 (x0 : Int) (x1 : Int) (x2 : Int) {H : Hp} {K : Bool → Hp → Prop} (h : M7 x0 x1 x2 H K) : o4 x0 x1 x2 H K := by
 intro g2
 refine Ct.of fun w0 w ps0 H0 R E I hR => a6u ?_
 unfold M7 at h
 unfold F51
 refine q9 (l1 Tryd.isAgg21 I rfl) ?_
 refine a7 (a0g _ _ _ _ _ _) ?_
 refine q9 (Ld.g fun hb => by have a := hb; exact (l1 Tryd.isAgg21 I rfl)) ?_
 simp only [m5]
 refine a7 (Pu.g fun hb => by have a := hb; simp only [j7 a]; with_reducible exact (a0g _ _ _ _ _ _)) ?_
 refine a7 (r9 _ _) ?_
 exact hR _ H _ _ I ⟨((decide (x0 ≤ x2)) && (decide (x2 ≤ x1))), rfl, rfl, h⟩
def m4 (X8 : Bool) (a : Int) (H : Hp) (K : Int → Hp → Prop) : Prop :=
 (X8 = true →
 K 3 H) ∧
 (X8 = false →
 K 6 H)
def q5 (X9 : Bool) (a : Int) (H : Hp) (K : Int → Hp → Prop) : Prop :=
 (X9 = true →
 K 6 H) ∧
 (X9 = false →
 o4 48 57 a H (fun g b =>
 (g = true →
 K 4 b) ∧
 (g = false →
 (a = 95 →
 m4 (decide (a = 95)) a b K) ∧
 (¬ (a = 95) →
 o4 97 122 a b (fun c i =>
 (c = true →
 m4 c a i K) ∧
 (c = false →
 o4 65 90 a i (fun d j =>
 (d = true →
 m4 d a j K) ∧
 (d = false →
 o4 192 591 a j (fun e k =>
 (e = true →
 m4 e a k K) ∧
 (e = false →
 o4 913 969 a k (fun f l =>
 (f = true →
 m4 f a l K) ∧
 (f = false →
 o4 1040 1103 a l (fun m n =>
 m4 m a n K)))))))))))))
def d8 (Z9 : Int) (Y0 : Bool) (a : Int) (H : Hp) (K : Int → Hp → Prop) : Prop :=
 (Y0 = true →
 K 5 H) ∧
 (Y0 = false →
 (Z9 = 215 →
 q5 (decide (Z9 = 215)) a H K) ∧
 (¬ (Z9 = 215) →
 (Z9 = 247 →
 q5 (decide (Z9 = 247)) a H K) ∧
 (¬ (Z9 = 247) →
 q5 (decide (Z9 = 930)) a H K)))
def q6 (j6 : Int) (E3 : Bool) (a : Int) (H : Hp) (K : Int → Hp → Prop) : Prop :=
 (E3 = true →
 K 1 H) ∧
 (E3 = false →
 (j6 = 10 →
 K 2 H) ∧
 (¬ (j6 = 10) →
 (j6 = 59 →
 d8 j6 (decide (j6 = 59)) a H K) ∧
 (¬ (j6 = 59) →
 (j6 = 44 →
 d8 j6 (decide (j6 = 44)) a H K) ∧
 (¬ (j6 = 44) →
 (j6 = 123 →
 d8 j6 (decide (j6 = 123)) a H K) ∧
 (¬ (j6 = 123) →
 (j6 = 125 →
 d8 j6 (decide (j6 = 125)) a H K) ∧
 (¬ (j6 = 125) →
 (j6 = 40 →
 d8 j6 (decide (j6 = 40)) a H K) ∧
 (¬ (j6 = 40) →
 (j6 = 41 →
 d8 j6 (decide (j6 = 41)) a H K) ∧
 (¬ (j6 = 41) →
 (j6 = 91 →
 d8 j6 (decide (j6 = 91)) a H K) ∧
 (¬ (j6 = 91) →
 (j6 = 93 →
 d8 j6 (decide (j6 = 93)) a H K) ∧
 (¬ (j6 = 93) →
 (j6 = 61 →
 d8 j6 (decide (j6 = 61)) a H K) ∧
 (¬ (j6 = 61) →
 (j6 = 33 →
 d8 j6 (decide (j6 = 33)) a H K) ∧
 (¬ (j6 = 33) →
 (j6 = 60 →
 d8 j6 (decide (j6 = 60)) a H K) ∧
 (¬ (j6 = 60) →
 (j6 = 62 →
 d8 j6 (decide (j6 = 62)) a H K) ∧
 (¬ (j6 = 62) →
 (j6 = 43 →
 d8 j6 (decide (j6 = 43)) a H K) ∧
 (¬ (j6 = 43) →
 (j6 = 45 →
 d8 j6 (decide (j6 = 45)) a H K) ∧
 (¬ (j6 = 45) →
 (j6 = 42 →
 d8 j6 (decide (j6 = 42)) a H K) ∧
 (¬ (j6 = 42) →
 (j6 = 47 →
 d8 j6 (decide (j6 = 47)) a H K) ∧
 (¬ (j6 = 47) →
 (j6 = 37 →
 d8 j6 (decide (j6 = 37)) a H K) ∧
 (¬ (j6 = 37) →
 (j6 = 38 →
 d8 j6 (decide (j6 = 38)) a H K) ∧
 (¬ (j6 = 38) →
 d8 j6 (decide (j6 = 124)) a H K))))))))))))))))))))
def J6 (x0 : Int) (H : Hp) (K : Int → Hp → Prop) : Prop :=
 (x0 = 32 →
 q6 x0 (decide (x0 = 32)) x0 H K) ∧
 (¬ (x0 = 32) →
 (x0 = 9 →
 q6 x0 (decide (x0 = 9)) x0 H K) ∧
 (¬ (x0 = 9) →
 q6 x0 (decide (x0 = 13)) x0 H K))
theorem V2 (x0 : Int) {H : Hp} {K : Int → Hp → Prop} (h : J6 x0 H K) : r4 x0 H K := by
 refine Ct.of fun w0 w ps0 H0 R E I hR => a6i ?_
 unfold J6 at h
 unfold F30
 refine a5d I (cs := [(Value.int .i32 x0)]) rfl fun a u b v => ?_
 refine q9 (l1 Tryd.isAgg21 b rfl) ?_
 have hj1 : ∀ (E3 : Bool) (H : Hp) (w : World) (_ : Inv w0 ps0 H0 H [bx a 21 [(Value.int .i32 x0)]] w) (_ : q6 x0 E3 x0 H K), a1I (Value.pointer (some ⟨a, 0, none⟩)) (Value.int .i32 x0) (Value.bool E3) w R E := by
  intro E3 H w I h
  unfold a1I
  intro _
  unfold q6 at h
  refine m3 h (fun _ h => ?_) (fun _ h => ?_)
  ·exact hR _ H _ _ I.drop ⟨1, rfl, rfl, h⟩
  ·refine a7 (l0 _ _ _ _ _ _) ?_
   refine g5 h (fun _ h => ?_) (fun _ h => ?_)
   ·exact hR _ H _ _ I.drop ⟨2, rfl, rfl, h⟩
   ·have hj2 : ∀ (Y0 : Bool) (H : Hp) (w : World) (_ : Inv w0 ps0 H0 H [bx a 21 [(Value.int .i32 x0)]] w) (_ : d8 x0 Y0 x0 H K), a1H (Value.pointer (some ⟨a, 0, none⟩)) (Value.int .i32 x0) (Value.bool Y0) w R E := by
     intro Y0 H w I h
     unfold a1H
     intro _
     unfold d8 at h
     refine m3 h (fun _ h => ?_) (fun _ h => ?_)
     ·exact hR _ H _ _ I.drop ⟨5, rfl, rfl, h⟩
     ·have hj3 : ∀ (X9 : Bool) (H : Hp) (w : World) (_ : Inv w0 ps0 H0 H [bx a 21 [(Value.int .i32 x0)]] w) (_ : q5 X9 x0 H K), a1G (Value.pointer (some ⟨a, 0, none⟩)) (Value.bool X9) w R E := by
       intro X9 H w I h
       unfold a1G
       intro _
       unfold q5 at h
       refine m3 h (fun _ h => ?_) (fun _ h => ?_)
       ·exact hR _ H _ _ I.drop ⟨6, rfl, rfl, h⟩
       ·refine a7 (O9 _ _ _) ?_
        refine R7 (cap := [(Value.pointer (some ⟨a, 0, none⟩))]) Tryd.call51 (h a) I ?_
        rintro _ d _ y c _ _ ⟨z, rfl, rfl, h⟩
        refine m3 h (fun _ h => ?_) (fun _ h => ?_)
        ·exact hR _ d _ _ c.drop ⟨4, rfl, rfl, h⟩
        ·have hj4 : ∀ (X8 : Bool) (H : Hp) (w : World) (_ : Inv w0 ps0 H0 H [bx a 21 [(Value.int .i32 x0)]] w) (_ : m4 X8 x0 H K), a1F (Value.bool X8) w R E := by
          intro X8 H w I h
          unfold a1F
          intro _
          unfold m4 at h
          refine m3 h (fun _ h => ?_) (fun _ h => ?_)
          ·exact hR _ H _ _ I.drop ⟨3, rfl, rfl, h⟩
          ·exact hR _ H _ _ I.drop ⟨6, rfl, rfl, h⟩
         refine u4 fun j4 hx4 => ?_
         refine q9 (l1 Tryd.isAgg21 c rfl) ?_
         refine a7 (l0 _ _ _ _ _ _) ?_
         refine g5 h (fun _ h => ?_) (fun _ h => ?_)
         ·exact hx4 _ _ (hj4 (decide (x0 = 95)) d _ c h)
         ·refine R7 (cap := [(Value.pointer (some ⟨a, 0, none⟩))]) Tryd.call51 (h a) c ?_
          rintro _ j _ aa e _ _ ⟨k, rfl, rfl, h⟩
          refine m3 h (fun _ h => ?_) (fun _ h => ?_)
          ·exact hx4 _ _ (hj4 k j _ e h)
          ·refine R7 (cap := [(Value.pointer (some ⟨a, 0, none⟩))]) Tryd.call51 (h a) e ?_
           rintro _ l _ ab f _ _ ⟨m, rfl, rfl, h⟩
           refine m3 h (fun _ h => ?_) (fun _ h => ?_)
           ·exact hx4 _ _ (hj4 m l _ f h)
           ·refine R7 (cap := [(Value.pointer (some ⟨a, 0, none⟩))]) Tryd.call51 (h a) f ?_
            rintro _ n _ ac g _ _ ⟨o, rfl, rfl, h⟩
            refine m3 h (fun _ h => ?_) (fun _ h => ?_)
            ·exact hx4 _ _ (hj4 o n _ g h)
            ·refine R7 (cap := [(Value.pointer (some ⟨a, 0, none⟩))]) Tryd.call51 (h a) g ?_
             rintro _ p _ ad i _ _ ⟨q, rfl, rfl, h⟩
             refine m3 h (fun _ h => ?_) (fun _ h => ?_)
             ·exact hx4 _ _ (hj4 q p _ i h)
             ·refine R7 (cap := [(Value.pointer (some ⟨a, 0, none⟩))]) Tryd.call51 (h a) i ?_
              rintro _ r _ ae s _ _ ⟨t, rfl, rfl, h⟩
              exact hx4 _ _ (hj4 t r _ s h)
      refine u4 fun j3 hx3 => ?_
      refine a7 (l0 _ _ _ _ _ _) ?_
      refine g5 h (fun _ h => ?_) (fun _ h => ?_)
      ·exact hx3 _ _ (hj3 (decide (x0 = 215)) H _ I h)
      ·refine a7 (l0 _ _ _ _ _ _) ?_
       refine g5 h (fun _ h => ?_) (fun _ h => ?_)
       ·exact hx3 _ _ (hj3 (decide (x0 = 247)) H _ I h)
       ·refine a7 (l0 _ _ _ _ _ _) ?_
        exact hx3 _ _ (hj3 (decide (x0 = 930)) H _ I h)
    refine u4 fun j2 hx2 => ?_
    refine a7 (l0 _ _ _ _ _ _) ?_
    refine g5 h (fun _ h => ?_) (fun _ h => ?_)
    ·exact hx2 _ _ (hj2 (decide (x0 = 59)) H _ I h)
    ·refine a7 (l0 _ _ _ _ _ _) ?_
     refine g5 h (fun _ h => ?_) (fun _ h => ?_)
     ·exact hx2 _ _ (hj2 (decide (x0 = 44)) H _ I h)
     ·refine a7 (l0 _ _ _ _ _ _) ?_
      refine g5 h (fun _ h => ?_) (fun _ h => ?_)
      ·exact hx2 _ _ (hj2 (decide (x0 = 123)) H _ I h)
      ·refine a7 (l0 _ _ _ _ _ _) ?_
       refine g5 h (fun _ h => ?_) (fun _ h => ?_)
       ·exact hx2 _ _ (hj2 (decide (x0 = 125)) H _ I h)
       ·refine a7 (l0 _ _ _ _ _ _) ?_
        refine g5 h (fun _ h => ?_) (fun _ h => ?_)
        ·exact hx2 _ _ (hj2 (decide (x0 = 40)) H _ I h)
        ·refine a7 (l0 _ _ _ _ _ _) ?_
         refine g5 h (fun _ h => ?_) (fun _ h => ?_)
         ·exact hx2 _ _ (hj2 (decide (x0 = 41)) H _ I h)
         ·refine a7 (l0 _ _ _ _ _ _) ?_
          refine g5 h (fun _ h => ?_) (fun _ h => ?_)
          ·exact hx2 _ _ (hj2 (decide (x0 = 91)) H _ I h)
          ·refine a7 (l0 _ _ _ _ _ _) ?_
           refine g5 h (fun _ h => ?_) (fun _ h => ?_)
           ·exact hx2 _ _ (hj2 (decide (x0 = 93)) H _ I h)
           ·refine a7 (l0 _ _ _ _ _ _) ?_
            refine g5 h (fun _ h => ?_) (fun _ h => ?_)
            ·exact hx2 _ _ (hj2 (decide (x0 = 61)) H _ I h)
            ·refine a7 (l0 _ _ _ _ _ _) ?_
             refine g5 h (fun _ h => ?_) (fun _ h => ?_)
             ·exact hx2 _ _ (hj2 (decide (x0 = 33)) H _ I h)
             ·refine a7 (l0 _ _ _ _ _ _) ?_
              refine g5 h (fun _ h => ?_) (fun _ h => ?_)
              ·exact hx2 _ _ (hj2 (decide (x0 = 60)) H _ I h)
              ·refine a7 (l0 _ _ _ _ _ _) ?_
               refine g5 h (fun _ h => ?_) (fun _ h => ?_)
               ·exact hx2 _ _ (hj2 (decide (x0 = 62)) H _ I h)
               ·refine a7 (l0 _ _ _ _ _ _) ?_
                refine g5 h (fun _ h => ?_) (fun _ h => ?_)
                ·exact hx2 _ _ (hj2 (decide (x0 = 43)) H _ I h)
                ·refine a7 (l0 _ _ _ _ _ _) ?_
                 refine g5 h (fun _ h => ?_) (fun _ h => ?_)
                 ·exact hx2 _ _ (hj2 (decide (x0 = 45)) H _ I h)
                 ·refine a7 (l0 _ _ _ _ _ _) ?_
                  refine g5 h (fun _ h => ?_) (fun _ h => ?_)
                  ·exact hx2 _ _ (hj2 (decide (x0 = 42)) H _ I h)
                  ·refine a7 (l0 _ _ _ _ _ _) ?_
                   refine g5 h (fun _ h => ?_) (fun _ h => ?_)
                   ·exact hx2 _ _ (hj2 (decide (x0 = 47)) H _ I h)
                   ·refine a7 (l0 _ _ _ _ _ _) ?_
                    refine g5 h (fun _ h => ?_) (fun _ h => ?_)
                    ·exact hx2 _ _ (hj2 (decide (x0 = 37)) H _ I h)
                    ·refine a7 (l0 _ _ _ _ _ _) ?_
                     refine g5 h (fun _ h => ?_) (fun _ h => ?_)
                     ·exact hx2 _ _ (hj2 (decide (x0 = 38)) H _ I h)
                     ·refine a7 (l0 _ _ _ _ _ _) ?_
                      exact hx2 _ _ (hj2 (decide (x0 = 124)) H _ I h)
 refine u4 fun j1 hx1 => ?_
 refine a7 (l0 _ _ _ _ _ _) ?_
 refine g5 h (fun _ h => ?_) (fun _ h => ?_)
 ·exact hx1 _ _ (hj1 (decide (x0 = 32)) H _ b h)
 ·refine a7 (l0 _ _ _ _ _ _) ?_
  refine g5 h (fun _ h => ?_) (fun _ h => ?_)
  ·exact hx1 _ _ (hj1 (decide (x0 = 9)) H _ b h)
  ·refine a7 (l0 _ _ _ _ _ _) ?_
   exact hx1 _ _ (hj1 (decide (x0 = 13)) H _ b h)
def s9 (H : Hp) (K : Int → Hp → Prop) : Prop :=
 K 6 H
def m1 (T2 : Int) (G4 : ByteArray) (z8 : Int) (H : Hp) (n2 : Int → Hp → Prop) (K : Int → Hp → Prop) : Prop :=
 (z8 < (G4.size : Int) →
 (0 : Int) ≤ z8 ∧ z8 < (G4.size : Int) ∧
 (T2 = (IntKind.wrap .i64 ((G4.get! (z8 : Int).toNat).toNat : Int)) →
 K 5 H) ∧
 (¬ (T2 = (IntKind.wrap .i64 ((G4.get! (z8 : Int).toNat).toNat : Int))) →
 n2 (IntKind.wrap .i64 (z8 + 1)) H)) ∧
 (¬ (z8 < (G4.size : Int)) →
 s9 H K)
def C4 (x0 : Int) (H : Hp) (K : Int → Hp → Prop) : Prop :=
 ((((decide (x0 = 32)) || (decide (x0 = 9))) || (decide (x0 = 13))) = true →
 K 1 H) ∧
 ((((decide (x0 = 32)) || (decide (x0 = 9))) || (decide (x0 = 13))) = false →
 (x0 = 10 →
 K 2 H) ∧
 (¬ (x0 = 10) →
 i7 x0 48 57 H (fun e f =>
 (e = true →
 K 4 f) ∧
 (e = false →
 i7 x0 97 122 f (fun a g =>
 TG (a = false) (i7 x0 65 90 g) false g (fun (b : Bool) (i : Hp) =>
 TG (((a || b) || (decide (x0 = 95))) = false) (i7 x0 192 591 i) false i (fun (c : Bool) (j : Hp) =>
 TG ((((a || b) || (decide (x0 = 95))) || ((c && (!decide (x0 = 215))) && (!decide (x0 = 247)))) = false) (i7 x0 913 969 j) false j (fun (d : Bool) (k : Hp) =>
 TG (((((a || b) || (decide (x0 = 95))) || ((c && (!decide (x0 = 215))) && (!decide (x0 = 247)))) || (d && (!decide (x0 = 930)))) = false) (i7 x0 1040 1103 k) false k (fun (l : Bool) (m : Hp) =>
 ((((((a || b) || (decide (x0 = 95))) || ((c && (!decide (x0 = 215))) && (!decide (x0 = 247)))) || (d && (!decide (x0 = 930)))) || l) = true →
 K 3 m) ∧
 ((((((a || b) || (decide (x0 = 95))) || ((c && (!decide (x0 = 215))) && (!decide (x0 = 247)))) || (d && (!decide (x0 = 930)))) || l) = false →
 TL (0 : Int) m fun (s : Int) H n2 => m1 x0 ⟨#[59, 44, 123, 125, 40, 41, 91, 93, 61, 33, 60, 62, 43, 45, 42, 47, 37, 38, 124]⟩ s H n2 K))))))))))
theorem Q9 (x0 : Int) {H : Hp} {K : Int → Hp → Prop} (h : C4 x0 H K) : C3 x0 H K := by
 refine Ct.of fun w0 w ps0 H0 R E I hR => a6k ?_
 unfold C4 at h
 unfold F32
 refine a7 (l0 _ _ _ _ _ _) ?_
 simp only [m5]
 refine a7 (Pu.g fun hb => by have c := hb; simp only [j7 c]; with_reducible exact (l0 _ _ _ _ _ _)) ?_
 refine a7 (v8 _ _) ?_
 simp only [m5]
 refine a7 (Pu.g fun hb => by have c := hb; simp only [j7 c]; with_reducible exact (l0 _ _ _ _ _ _)) ?_
 refine a7 (v8 _ _) ?_
 refine m3 h (fun _ h => ?_) (fun _ h => ?_)
 ·exact hR _ H _ _ I ⟨1, rfl, rfl, h⟩
 ·refine a7 (l0 _ _ _ _ _ _) ?_
  refine g5 h (fun _ h => ?_) (fun _ h => ?_)
  ·exact hR _ H _ _ I ⟨2, rfl, rfl, h⟩
  ·refine f9 Tryd.call52 h I ?_
   rintro _ bd _ bj ak _ _ ⟨bk, rfl, rfl, h⟩
   refine m3 h (fun _ h => ?_) (fun _ h => ?_)
   ·exact hR _ bd _ _ ak ⟨4, rfl, rfl, h⟩
   ·refine f9 Tryd.call52 h ak ?_
    rintro _ al _ am an _ _ ⟨k, rfl, rfl, h⟩
    simp only [m5]
    refine y4 (D := fun ao aa => ∃ (f : Bool) (t : Hp) , ao = (gv k false (Value.bool f)) ∧ (Inv w0 ps0 H0 t [] aa) ∧ (∀ i, i < am.heap.size → ¬ inF [] i → aa.heap[i]? = am.heap[i]?) ∧ Hle al t ∧ (TG (((k || f) || (decide (x0 = 95))) = false) (i7 x0 192 591 t) false t (fun (j : Bool) (r : Hp) =>
 TG ((((k || f) || (decide (x0 = 95))) || ((j && (!decide (x0 = 215))) && (!decide (x0 = 247)))) = false) (i7 x0 913 969 r) false r (fun (m : Bool) (p : Hp) =>
 TG (((((k || f) || (decide (x0 = 95))) || ((j && (!decide (x0 = 215))) && (!decide (x0 = 247)))) || (m && (!decide (x0 = 930)))) = false) (i7 x0 1040 1103 p) false p (fun (q : Bool) (o : Hp) =>
 ((((((k || f) || (decide (x0 = 95))) || ((j && (!decide (x0 = 215))) && (!decide (x0 = 247)))) || (m && (!decide (x0 = 930)))) || q) = true →
 K 3 o) ∧
 ((((((k || f) || (decide (x0 = 95))) || ((j && (!decide (x0 = 215))) && (!decide (x0 = 247)))) || (m && (!decide (x0 = 930)))) || q) = false →
 TL (0 : Int) o fun (s : Int) H n2 => m1 x0 ⟨#[59, 44, 123, 125, 40, 41, 91, 93, 61, 33, 60, 62, 43, 45, 42, 47, 37, 38, 124]⟩ s H n2 K)))))) (fun u => ?_) (fun u => ?_) ?_
    ·replace h := h.1 u
     have c := u
     simp only [j7 c]
     refine f9 Tryd.call52 h an ?_
     rintro _ t _ aa ae ap aq ⟨f, rfl, rfl, h⟩
     exact ⟨f, t, by rfl, ae, aq, ap, h⟩
    ·exact ⟨false, al, by rw [J4 u], an, fun _ _ _ => rfl, Hle.refl _, h.2 u⟩
    ·clear h
     rintro ao aa ⟨f, t, rfl, ae, aq, ap, h⟩
     refine a7 (v8 _ _) ?_
     simp only [m5]
     refine a7 (Pu.g fun hb => by have c := hb; simp only [j7 c]; with_reducible exact (l0 _ _ _ _ _ _)) ?_
     refine a7 (v8 _ _) ?_
     simp only [m5]
     refine y4 (D := fun ar ab => ∃ (j : Bool) (r : Hp) , ar = (gv ((k || f) || (decide (x0 = 95))) false (Value.bool j)) ∧ (Inv w0 ps0 H0 r [] ab) ∧ (∀ i, i < aa.heap.size → ¬ inF [] i → ab.heap[i]? = aa.heap[i]?) ∧ Hle t r ∧ (TG ((((k || f) || (decide (x0 = 95))) || ((j && (!decide (x0 = 215))) && (!decide (x0 = 247)))) = false) (i7 x0 913 969 r) false r (fun (m : Bool) (p : Hp) =>
 TG (((((k || f) || (decide (x0 = 95))) || ((j && (!decide (x0 = 215))) && (!decide (x0 = 247)))) || (m && (!decide (x0 = 930)))) = false) (i7 x0 1040 1103 p) false p (fun (q : Bool) (o : Hp) =>
 ((((((k || f) || (decide (x0 = 95))) || ((j && (!decide (x0 = 215))) && (!decide (x0 = 247)))) || (m && (!decide (x0 = 930)))) || q) = true →
 K 3 o) ∧
 ((((((k || f) || (decide (x0 = 95))) || ((j && (!decide (x0 = 215))) && (!decide (x0 = 247)))) || (m && (!decide (x0 = 930)))) || q) = false →
 TL (0 : Int) o fun (s : Int) H n2 => m1 x0 ⟨#[59, 44, 123, 125, 40, 41, 91, 93, 61, 33, 60, 62, 43, 45, 42, 47, 37, 38, 124]⟩ s H n2 K))))) (fun v => ?_) (fun v => ?_) ?_
     ·replace h := h.1 v
      have c := v
      simp only [j7 c]
      refine f9 Tryd.call52 h ae ?_
      rintro _ r _ ab af au av ⟨j, rfl, rfl, h⟩
      exact ⟨j, r, by rfl, af, av, au, h⟩
     ·exact ⟨false, t, by rw [J4 v], ae, fun _ _ _ => rfl, Hle.refl _, h.2 v⟩
     ·clear h
      rintro ar ab ⟨j, r, rfl, af, av, au, h⟩
      simp only [Q7, R8]
      refine a7 (Pu.e (B5 _ _ _) (Pu.g fun hb => by obtain ⟨c, d⟩ := H5 hb; simp only [j7 hb]; with_reducible exact (K2 _ _ _ _ _ _))) ?_
      refine a7 (Pu.g fun hb => by have c := hb; simp only [j7 c, P5 c]; with_reducible exact (r9 _ _)) ?_
      simp only [Q7, R8]
      refine a7 (Pu.e (B5 _ _ _) (Pu.g fun hb => by obtain ⟨c, d⟩ := H5 hb; simp only [j7 hb]; with_reducible exact (K2 _ _ _ _ _ _))) ?_
      refine a7 (Pu.g fun hb => by have c := hb; simp only [j7 c, P5 c]; with_reducible exact (r9 _ _)) ?_
      refine a7 (v8 _ _) ?_
      simp only [m5]
      refine y4 (D := fun aw ac => ∃ (m : Bool) (p : Hp) , aw = (gv (((k || f) || (decide (x0 = 95))) || ((j && (!decide (x0 = 215))) && (!decide (x0 = 247)))) false (Value.bool m)) ∧ (Inv w0 ps0 H0 p [] ac) ∧ (∀ i, i < ab.heap.size → ¬ inF [] i → ac.heap[i]? = ab.heap[i]?) ∧ Hle r p ∧ (TG (((((k || f) || (decide (x0 = 95))) || ((j && (!decide (x0 = 215))) && (!decide (x0 = 247)))) || (m && (!decide (x0 = 930)))) = false) (i7 x0 1040 1103 p) false p (fun (q : Bool) (o : Hp) =>
 ((((((k || f) || (decide (x0 = 95))) || ((j && (!decide (x0 = 215))) && (!decide (x0 = 247)))) || (m && (!decide (x0 = 930)))) || q) = true →
 K 3 o) ∧
 ((((((k || f) || (decide (x0 = 95))) || ((j && (!decide (x0 = 215))) && (!decide (x0 = 247)))) || (m && (!decide (x0 = 930)))) || q) = false →
 TL (0 : Int) o fun (s : Int) H n2 => m1 x0 ⟨#[59, 44, 123, 125, 40, 41, 91, 93, 61, 33, 60, 62, 43, 45, 42, 47, 37, 38, 124]⟩ s H n2 K)))) (fun y => ?_) (fun y => ?_) ?_
      ·replace h := h.1 y
       have c := y
       simp only [j7 c]
       refine f9 Tryd.call52 h af ?_
       rintro _ p _ ac ag ax ay ⟨m, rfl, rfl, h⟩
       exact ⟨m, p, by rfl, ag, ay, ax, h⟩
      ·exact ⟨false, r, by rw [J4 y], af, fun _ _ _ => rfl, Hle.refl _, h.2 y⟩
      ·clear h
       rintro aw ac ⟨m, p, rfl, ag, ay, ax, h⟩
       simp only [Q7, R8]
       refine a7 (Pu.e (B5 _ _ _) (Pu.g fun hb => by obtain ⟨c, d⟩ := H5 hb; simp only [j7 hb]; with_reducible exact (K2 _ _ _ _ _ _))) ?_
       refine a7 (Pu.g fun hb => by have c := hb; simp only [j7 c, P5 c]; with_reducible exact (r9 _ _)) ?_
       refine a7 (v8 _ _) ?_
       simp only [m5]
       refine y4 (D := fun az ah => ∃ (q : Bool) (o : Hp) , az = (gv ((((k || f) || (decide (x0 = 95))) || ((j && (!decide (x0 = 215))) && (!decide (x0 = 247)))) || (m && (!decide (x0 = 930)))) false (Value.bool q)) ∧ (Inv w0 ps0 H0 o [] ah) ∧ (∀ i, i < ac.heap.size → ¬ inF [] i → ah.heap[i]? = ac.heap[i]?) ∧ Hle p o ∧ (((((((k || f) || (decide (x0 = 95))) || ((j && (!decide (x0 = 215))) && (!decide (x0 = 247)))) || (m && (!decide (x0 = 930)))) || q) = true →
 K 3 o) ∧
 ((((((k || f) || (decide (x0 = 95))) || ((j && (!decide (x0 = 215))) && (!decide (x0 = 247)))) || (m && (!decide (x0 = 930)))) || q) = false →
 TL (0 : Int) o fun (s : Int) H n2 => m1 x0 ⟨#[59, 44, 123, 125, 40, 41, 91, 93, 61, 33, 60, 62, 43, 45, 42, 47, 37, 38, 124]⟩ s H n2 K))) (fun z => ?_) (fun z => ?_) ?_
       ·replace h := h.1 z
        have c := z
        simp only [j7 c]
        refine f9 Tryd.call52 h ag ?_
        rintro _ o _ ah ai ba bb ⟨q, rfl, rfl, h⟩
        exact ⟨q, o, by rfl, ai, bb, ba, h⟩
       ·exact ⟨false, p, by rw [J4 z], ag, fun _ _ _ => rfl, Hle.refl _, h.2 z⟩
       ·clear h
        rintro az ah ⟨q, o, rfl, ai, bb, ba, h⟩
        refine a7 (v8 _ _) ?_
        refine m3 h (fun _ h => ?_) (fun _ h => ?_)
        ·exact hR _ o _ _ ai ⟨3, rfl, rfl, h⟩
        ·have hj1 : ∀ (H : Hp) (w : World) (_ : Inv w0 ps0 H0 H [] w) (_ : s9 H K), a1L w R E := by
          intro H w I h
          unfold a1L
          intro _
          unfold s9 at h
          exact hR _ H _ _ I ⟨6, rfl, rfl, h⟩
         refine u4 fun j1 hx1 => ?_
         obtain ⟨aj, ad, be, bf⟩ := h
         refine B4 (J := fun n l w => ∃ (s : Int) (H : Hp) , n = ad s ∧ l = [(vi s)] ∧ Inv w0 ps0 H0 H [] w ∧ aj s H) ⟨_, 0, o, rfl, rfl, ai, be⟩ ?_
         rintro bl bm w next2 ⟨z8, H, rfl, bc, I, bg⟩ hn2
         simp only [List.map_cons, List.map_nil, List.cons.injEq, and_true] at bc
         have e4 := bc
         simp only [e4]
         obtain ⟨n2, hm2, h⟩ : ∃ n2 : Int → Hp → Prop, (∀ s' H', n2 s' H' → aj s' H' ∧ ad s' < ad z8) ∧ m1 x0 ⟨#[59, 44, 123, 125, 40, 41, 91, 93, 61, 33, 60, 62, 43, 45, 42, 47, 37, 38, 124]⟩ z8 H n2 K := ⟨_, fun _ _ h => h, bf z8 H (fun s' H' => aj s' H' ∧ ad s' < ad z8) bg (fun _ _ a b => ⟨a, b⟩)⟩
         unfold a3H
         unfold m1 at h
         refine a7 (F1 _) ?_
         refine a7 (I0 _ _ _ _ _ _) ?_
         refine g5 h (fun _ h => ?_) (fun _ h => ?_)
         ·obtain ⟨bh, bi, h⟩ := h
          refine a7 (R3 _ _ _ bh bi) ?_
          refine a7 (W6 _ _) ?_
          refine a7 (l0 _ _ _ _ _ _) ?_
          refine g5 h (fun _ h => ?_) (fun _ h => ?_)
          ·exact hR _ H _ _ I ⟨5, rfl, rfl, h⟩
          ·refine a7 (E8 _ _ _ _ _ _) ?_
           exact hn2 _ _ _ (hm2 _ _ h).2 ⟨(IntKind.wrap .i64 (z8 + 1)), H, rfl, rfl, I, (hm2 _ _ h).1⟩
         ·exact hx1 _ _ (hj1 H _ I h)
def J7 (x0 : ByteArray) (x1 : ByteArray) (H : Hp) (K : Bool → Hp → Prop) : Prop :=
 D1 x0 x1 H (fun a b =>
 K a b)
theorem V3 (x0 : ByteArray) (x1 : ByteArray) {H : Hp} {K : Bool → Hp → Prop} (h : J7 x0 x1 H K) : E2 x0 x1 H K := by
 refine Ct.of fun w0 w ps0 H0 R E I hR => a6m ?_
 unfold J7 at h
 unfold F38
 refine f9 Tryd.call57 h I ?_
 rintro _ a _ d b _ _ ⟨c, rfl, rfl, h⟩
 exact hR _ a _ _ b ⟨c, rfl, rfl, h⟩
def g9 (E3 : Int) (g7 : ByteArray) (g8 : Int) (k9 : b5) (l8 : (List a6)) (H : Hp) (K : ByteArray → a8 → (List a6) → Hp → Prop) : Prop :=
 (0 : Int) ≤ E3 ∧ (E3 : Int) ≤ g8 ∧ (g8 : Int) ≤ g7.size ∧
 K (g7.extract (E3 : Int).toNat (g8 : Int).toNat) (a8.mk g7 g8 k9 (Sl.mk none 0 0)) l8 H
def j9 (Z8 : Int) (p8 : Int) (l7 : Bool) (c8 : ByteArray) (d6 : Int) (c6 : b5) (c7 : (List a6)) (H : Hp) (n2 : (Int × Bool × ByteArray × Int × b5 × (List a6)) → Hp → Prop) (K : ByteArray → a8 → (List a6) → Hp → Prop) : Prop :=
 TG (l7 = true) (y9 p8 H) false H (fun (b : Bool) (c : Hp) =>
 ((l7 && b) = true →
 k8 (a8.mk c8 d6 c6 (Sl.mk none 0 0)) c7 c (fun a d e =>
 i8 (f6 a) d e (fun f g i =>
 n2 (f, g, a.fs, a.fn, a.fat, d) i))) ∧
 ((l7 && b) = false →
 g9 Z8 c8 d6 c6 c7 c K))
def o0 (x0 : a8) (a : (List a6)) (H : Hp) (K : ByteArray → a8 → (List a6) → Hp → Prop) : Prop :=
 i8 (f6 x0) a H (fun b c d =>
 TL ((b, c, x0.fs, x0.fn, x0.fat, a) : Int × Bool × ByteArray × Int × b5 × (List a6)) d fun (s : Int × Bool × ByteArray × Int × b5 × (List a6)) H n2 => j9 x0.fn s.1 s.2.1 s.2.2.1 s.2.2.2.1 s.2.2.2.2.1 s.2.2.2.2.2 H n2 K)
theorem A8 (x0 : a8) (q : (List a6)) {H : Hp} {K : ByteArray → a8 → (List a6) → Hp → Prop} (h : o0 x0 q H K) : m7 x0 q H K := by
 intro g0 y z aa
 refine Ct.of fun w0 w ps0 H0 R E I hR => a0n ?_
 unfold o0 at h
 unfold F37
 refine a7 (o7 _) ?_
 refine a7 u6 ?_
 refine q9 (l1 Tryd.isAgg3 I rfl) ?_
 have hj1 : ∀ (g7 : ByteArray) (g8 : Int) (k9 : b5) (l8 : (List a6)) (s4 : Sl) (o5 : Frag) (H : Hp) (w : World) (_ : RowL 33 5 b6 s4 l8 o5) (_ : Inv w0 ps0 H0 H [bx g0 44 [(Value.string g7), (vi g8), (vi k9.r8), (vi k9.y2), (vs s4)], o5] w) (_ : g9 x0.fn g7 g8 k9 l8 H K), N2 (Value.pointer (some ⟨g0, 0, none⟩)) (vi x0.fn) w R E := by
  intro g7 g8 k9 l8 s4 o5 H w F6 I h
  unfold N2
  intro _
  unfold g9 at h
  refine U5 I fun ax r => ?_
  refine p6 (o7 _) ?_
  refine p6 N1 ?_
  refine p6 (o7 _) ?_
  refine p6 u6 ?_
  refine G3 (l1 Tryd.isAgg9 r rfl) ?_
  refine G3 (l1 Tryd.isAgg3 r rfl) ?_
  obtain ⟨al, am, an, h⟩ := h
  refine p6 (U6 g7 Tryd.underlying9 al am an) ?_
  exact hR _ H _ _ ((r.bring 1).bring 1) ⟨(g7.extract (x0.fn : Int).toNat (g8 : Int).toNat), (a8.mk g7 g8 k9 (Sl.mk none 0 0)), l8, s4, o5, rfl, rfl, F6, h⟩
 refine u4 fun j1 hx1 => ?_
 refine f9 Tryd.call20 (h g0 y z aa) ((I.bring 1).bring 1) ?_
 rintro _ ao _ ay ap _ _ ⟨ab, ac, rfl, rfl, h⟩
 refine a7 (d7 _ _ (Value.int .i32 ab) rfl) ?_
 refine a7 (d7 _ _ (Value.bool ac) rfl) ?_
 obtain ⟨t, g, aq, ar⟩ := h
 refine B4 (J := fun n l w => ∃ (s : Int × Bool × ByteArray × Int × b5 × (List a6)) (H : Hp) (m6 : Sl) (m0 : Frag) , n = g s ∧ l = (match s with | (p8, l7, c8, d6, c6, c7) => [(Value.int .i32 p8), (Value.bool l7)]) ∧ (match s with | (p8, l7, c8, d6, c6, c7) => RowL 33 5 b6 m6 c7 m0) ∧ (match s with | (p8, l7, c8, d6, c6, c7) => Inv w0 ps0 H0 H [bx g0 44 [(Value.string c8), (vi d6), (vi c6.r8), (vi c6.y2), (vs m6)], m0] w) ∧ t s H) ⟨_, (ab, ac, x0.fs, x0.fn, x0.fat, q), ao, y, z, rfl, rfl, aa, ((ap.bring 1).bring 1), aq⟩ ?_
 rintro az ba w next2 ⟨⟨p8, l7, c8, d6, c6, c7⟩, H, m6, m0, rfl, u, p9, I, au⟩ hn2
 dsimp only at u I p9
 simp only [List.map_cons, List.map_nil, List.cons.injEq, and_true] at u
 obtain ⟨e6, e7⟩ := u
 simp only [e6, e7]
 obtain ⟨n2, hm2, h⟩ : ∃ n2 : (Int × Bool × ByteArray × Int × b5 × (List a6)) → Hp → Prop, (∀ s' H', n2 s' H' → t s' H' ∧ g s' < g (p8, l7, c8, d6, c6, c7)) ∧ j9 x0.fn p8 l7 c8 d6 c6 c7 H n2 K := ⟨_, fun _ _ h => h, ar (p8, l7, c8, d6, c6, c7) H (fun s' H' => t s' H' ∧ g s' < g (p8, l7, c8, d6, c6, c7)) au (fun _ _ a b => ⟨a, b⟩)⟩
 unfold W7
 unfold j9 at h
 simp only [m5]
 refine y4 (D := fun ad j => ∃ (f : Bool) (c : Hp) , ad = (gv l7 true (Value.bool f)) ∧ (Inv w0 ps0 H0 c [bx g0 44 [(Value.string c8), (vi d6), (vi c6.r8), (vi c6.y2), (vs m6)], m0] j) ∧ (∀ i, i < w.heap.size → ¬ inF [] i → j.heap[i]? = w.heap[i]?) ∧ Hle H c ∧ (((l7 && f) = true →
 k8 (a8.mk c8 d6 c6 (Sl.mk none 0 0)) c7 c (fun (d : a8) (k : (List a6)) (ae : Hp) =>
 i8 (f6 d) k ae (fun (m : Int) (o : Bool) (v : Hp) =>
 n2 (m, o, d.fs, d.fn, d.fat, k) v))) ∧
 ((l7 && f) = false →
 g9 x0.fn c8 d6 c6 c7 c K))) (fun e => ?_) (fun e => ?_) ?_
 ·replace h := h.1 e
  have af := e
  simp only [j7 af]
  refine f9 Tryd.call40 h I ?_
  rintro _ c _ j p ag ah ⟨f, rfl, rfl, h⟩
  exact ⟨f, c, by rfl, p, ah, ag, h⟩
 ·exact ⟨false, H, by rw [J4 e], I, fun _ _ _ => rfl, Hle.refl _, h.2 e⟩
 ·clear h
  rintro ad j ⟨f, c, rfl, p, ah, ag, h⟩
  refine a7 (r9 _ _) ?_
  refine m3 h (fun _ h => ?_) (fun _ h => ?_)
  ·refine f9 Tryd.call56 (h g0 m6 m0 p9) ((p.bring 1).bring 1) ?_
   rintro _ ae _ bb av _ _ ⟨d, k, ai, aj, rfl, rfl, ak, h⟩
   refine f9 Tryd.call20 (h g0 ai aj ak) ((av.bring 1).bring 1) ?_
   rintro _ v _ bc aw _ _ ⟨m, o, rfl, rfl, h⟩
   refine a7 (d7 _ _ (Value.int .i32 m) rfl) ?_
   refine a7 (d7 _ _ (Value.bool o) rfl) ?_
   exact hn2 _ _ _ (hm2 _ _ h).2 ⟨(m, o, d.fs, d.fn, d.fat, k), v, ai, aj, rfl, rfl, ak, ((aw.bring 1).bring 1), (hm2 _ _ h).1⟩
  ·exact hx1 _ _ (hj1 c8 d6 c6 c7 m6 m0 c _ p9 ((p.bring 1).bring 1) h)
def i6 (E3 : Int) (g7 : ByteArray) (g8 : Int) (k9 : b5) (l8 : (List a6)) (H : Hp) (K : ByteArray → a8 → (List a6) → Hp → Prop) : Prop :=
 (0 : Int) ≤ E3 ∧ (E3 : Int) ≤ g8 ∧ (g8 : Int) ≤ g7.size ∧
 K (g7.extract (E3 : Int).toNat (g8 : Int).toNat) (a8.mk g7 g8 k9 (Sl.mk none 0 0)) l8 H
def k6 (Z8 : Int) (p8 : Int) (l7 : Bool) (c8 : ByteArray) (d6 : Int) (c6 : b5) (c7 : (List a6)) (H : Hp) (n2 : (Int × Bool × ByteArray × Int × b5 × (List a6)) → Hp → Prop) (K : ByteArray → a8 → (List a6) → Hp → Prop) : Prop :=
 TG (l7 = true) (z6 p8 H) false H (fun (b : Bool) (c : Hp) =>
 ((l7 && b) = true →
 k8 (a8.mk c8 d6 c6 (Sl.mk none 0 0)) c7 c (fun a d e =>
 i8 (f6 a) d e (fun f g i =>
 n2 (f, g, a.fs, a.fn, a.fat, d) i))) ∧
 ((l7 && b) = false →
 i6 Z8 c8 d6 c6 c7 c K))
def o2 (x0 : a8) (a : (List a6)) (H : Hp) (K : ByteArray → a8 → (List a6) → Hp → Prop) : Prop :=
 i8 (f6 x0) a H (fun b c d =>
 TL ((b, c, x0.fs, x0.fn, x0.fat, a) : Int × Bool × ByteArray × Int × b5 × (List a6)) d fun (s : Int × Bool × ByteArray × Int × b5 × (List a6)) H n2 => k6 x0.fn s.1 s.2.1 s.2.2.1 s.2.2.2.1 s.2.2.2.2.1 s.2.2.2.2.2 H n2 K)
theorem A9 (x0 : a8) (q : (List a6)) {H : Hp} {K : ByteArray → a8 → (List a6) → Hp → Prop} (h : o2 x0 q H K) : m8 x0 q H K := by
 intro g0 y z aa
 refine Ct.of fun w0 w ps0 H0 R E I hR => a0n ?_
 unfold o2 at h
 unfold F37
 refine a7 (o7 _) ?_
 refine a7 u6 ?_
 refine q9 (l1 Tryd.isAgg3 I rfl) ?_
 have hj1 : ∀ (g7 : ByteArray) (g8 : Int) (k9 : b5) (l8 : (List a6)) (s4 : Sl) (o5 : Frag) (H : Hp) (w : World) (_ : RowL 33 5 b6 s4 l8 o5) (_ : Inv w0 ps0 H0 H [bx g0 44 [(Value.string g7), (vi g8), (vi k9.r8), (vi k9.y2), (vs s4)], o5] w) (_ : i6 x0.fn g7 g8 k9 l8 H K), N2 (Value.pointer (some ⟨g0, 0, none⟩)) (vi x0.fn) w R E := by
  intro g7 g8 k9 l8 s4 o5 H w F6 I h
  unfold N2
  intro _
  unfold i6 at h
  refine U5 I fun ax r => ?_
  refine p6 (o7 _) ?_
  refine p6 N1 ?_
  refine p6 (o7 _) ?_
  refine p6 u6 ?_
  refine G3 (l1 Tryd.isAgg9 r rfl) ?_
  refine G3 (l1 Tryd.isAgg3 r rfl) ?_
  obtain ⟨ak, al, am, h⟩ := h
  refine p6 (U6 g7 Tryd.underlying9 ak al am) ?_
  exact hR _ H _ _ ((r.bring 1).bring 1) ⟨(g7.extract (x0.fn : Int).toNat (g8 : Int).toNat), (a8.mk g7 g8 k9 (Sl.mk none 0 0)), l8, s4, o5, rfl, rfl, F6, h⟩
 refine u4 fun j1 hx1 => ?_
 refine f9 Tryd.call20 (h g0 y z aa) ((I.bring 1).bring 1) ?_
 rintro _ an _ ay ao _ _ ⟨ab, ac, rfl, rfl, h⟩
 refine a7 (d7 _ _ (Value.int .i32 ab) rfl) ?_
 refine a7 (d7 _ _ (Value.bool ac) rfl) ?_
 obtain ⟨t, g, ap, aq⟩ := h
 refine B4 (J := fun n l w => ∃ (s : Int × Bool × ByteArray × Int × b5 × (List a6)) (H : Hp) (m6 : Sl) (m0 : Frag) , n = g s ∧ l = (match s with | (p8, l7, c8, d6, c6, c7) => [(Value.int .i32 p8), (Value.bool l7)]) ∧ (match s with | (p8, l7, c8, d6, c6, c7) => RowL 33 5 b6 m6 c7 m0) ∧ (match s with | (p8, l7, c8, d6, c6, c7) => Inv w0 ps0 H0 H [bx g0 44 [(Value.string c8), (vi d6), (vi c6.r8), (vi c6.y2), (vs m6)], m0] w) ∧ t s H) ⟨_, (ab, ac, x0.fs, x0.fn, x0.fat, q), an, y, z, rfl, rfl, aa, ((ao.bring 1).bring 1), ap⟩ ?_
 rintro az ba w next2 ⟨⟨p8, l7, c8, d6, c6, c7⟩, H, m6, m0, rfl, u, p9, I, ar⟩ hn2
 dsimp only at u I p9
 simp only [List.map_cons, List.map_nil, List.cons.injEq, and_true] at u
 obtain ⟨e6, e7⟩ := u
 simp only [e6, e7]
 obtain ⟨n2, hm2, h⟩ : ∃ n2 : (Int × Bool × ByteArray × Int × b5 × (List a6)) → Hp → Prop, (∀ s' H', n2 s' H' → t s' H' ∧ g s' < g (p8, l7, c8, d6, c6, c7)) ∧ k6 x0.fn p8 l7 c8 d6 c6 c7 H n2 K := ⟨_, fun _ _ h => h, aq (p8, l7, c8, d6, c6, c7) H (fun s' H' => t s' H' ∧ g s' < g (p8, l7, c8, d6, c6, c7)) ar (fun _ _ a b => ⟨a, b⟩)⟩
 unfold W7
 unfold k6 at h
 simp only [m5]
 refine y4 (D := fun ad j => ∃ (f : Bool) (c : Hp) , ad = (gv l7 true (Value.bool f)) ∧ (Inv w0 ps0 H0 c [bx g0 44 [(Value.string c8), (vi d6), (vi c6.r8), (vi c6.y2), (vs m6)], m0] j) ∧ (∀ i, i < w.heap.size → ¬ inF [] i → j.heap[i]? = w.heap[i]?) ∧ Hle H c ∧ (((l7 && f) = true →
 k8 (a8.mk c8 d6 c6 (Sl.mk none 0 0)) c7 c (fun (d : a8) (k : (List a6)) (au : Hp) =>
 i8 (f6 d) k au (fun (m : Int) (o : Bool) (v : Hp) =>
 n2 (m, o, d.fs, d.fn, d.fat, k) v))) ∧
 ((l7 && f) = false →
 i6 x0.fn c8 d6 c6 c7 c K))) (fun e => ?_) (fun e => ?_) ?_
 ·replace h := h.1 e
  have ae := e
  simp only [j7 ae]
  refine f9 Tryd.call58 h I ?_
  rintro _ c _ j p af ag ⟨f, rfl, rfl, h⟩
  exact ⟨f, c, by rfl, p, ag, af, h⟩
 ·exact ⟨false, H, by rw [J4 e], I, fun _ _ _ => rfl, Hle.refl _, h.2 e⟩
 ·clear h
  rintro ad j ⟨f, c, rfl, p, ag, af, h⟩
  refine a7 (r9 _ _) ?_
  refine m3 h (fun _ h => ?_) (fun _ h => ?_)
  ·refine f9 Tryd.call56 (h g0 m6 m0 p9) ((p.bring 1).bring 1) ?_
   rintro _ _ _ bb av _ _ ⟨d, k, ah, ai, rfl, rfl, aj, h⟩
   refine f9 Tryd.call20 (h g0 ah ai aj) ((av.bring 1).bring 1) ?_
   rintro _ v _ bc aw _ _ ⟨m, o, rfl, rfl, h⟩
   refine a7 (d7 _ _ (Value.int .i32 m) rfl) ?_
   refine a7 (d7 _ _ (Value.bool o) rfl) ?_
   exact hn2 _ _ _ (hm2 _ _ h).2 ⟨(m, o, d.fs, d.fn, d.fat, k), v, ah, ai, rfl, rfl, aj, ((aw.bring 1).bring 1), (hm2 _ _ h).1⟩
  ·exact hx1 _ _ (hj1 c8 d6 c6 c7 m6 m0 c _ p9 ((p.bring 1).bring 1) h)
def G9 (H : Hp) (K : a6 → Int → Hp → Prop) : Prop :=
 K (a6.mk 0 ⟨#[]⟩ 0 (b5.mk 0 0)) 20 H
theorem P9 {H : Hp} {K : a6 → Int → Hp → Prop} (h : G9 H K) : P7 H K := by
 refine Ct.of fun w0 w ps0 H0 R E I hR => a6s ?_
 unfold G9 at h
 unfold F44
 refine E6 I Tryd.zeroValue33 (cs := [(vi 0), (Value.string ⟨#[]⟩), (vi 0), (vi 0), (vi 0)]) rfl fun c d b e => ?_
 refine a7 (a0V ) ?_
 refine o8 b Tryd.sizeOf33 (vs := [(vi 0), (Value.string ⟨#[]⟩), (vi 0), (vi 0), (vi 0)]) (cs' := [(vi 0), (Value.string ⟨#[]⟩), (vi 0), (vi 0), (vi 0)]) rfl rfl (nb rfl) rfl rfl fun f a g => ?_
 refine E5 Tryd.isAgg33 Tryd.sizeOf33 rfl (a.at1 (o := 0) (vs := [(vi 0), (Value.string ⟨#[]⟩), (vi 0), (vi 0), (vi 0)]) (nb rfl) rfl) ?_
 exact hR _ H _ _ a.drop ⟨(a6.mk 0 ⟨#[]⟩ 0 (b5.mk 0 0)), 20, rfl, rfl, h⟩
end Go.Proofs.YthklmeihgmcljaaDoor
