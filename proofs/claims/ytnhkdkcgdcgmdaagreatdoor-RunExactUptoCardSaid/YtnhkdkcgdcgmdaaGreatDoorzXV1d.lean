/- Typed formulas of the program's functions, and the theorems that the contracts follow from them; printed by lift.py off the code. -/
import Derived.Test.YtnhkdkcgdcgmdaaGreatDoorzXV1
namespace Go.Proofs.YtnhkdkcgdcgmdaaGreatDoor
open Go.RowKit
set_option maxRecDepth 100000
set_option maxHeartbeats 2000000
def G5 (b4J : Bool) (a : Int) (H : Hp) (K : Int → Hp → Prop) : Prop :=
 (b4J = true →
 K 3 H) ∧
 (b4J = false →
 K 6 H)
def S5 (b4K : Bool) (a : Int) (H : Hp) (K : Int → Hp → Prop) : Prop :=
 (b4K = true →
 K 6 H) ∧
 (b4K = false →
 O4 48 57 a H (fun g b =>
 (g = true →
 K 4 b) ∧
 (g = false →
 (a = 95 →
 G5 (decide (a = 95)) a b K) ∧
 (¬ (a = 95) →
 O4 97 122 a b (fun c i =>
 (c = true →
 G5 c a i K) ∧
 (c = false →
 O4 65 90 a i (fun d j =>
 (d = true →
 G5 d a j K) ∧
 (d = false →
 O4 192 591 a j (fun e k =>
 (e = true →
 G5 e a k K) ∧
 (e = false →
 O4 913 969 a k (fun f l =>
 (f = true →
 G5 f a l K) ∧
 (f = false →
 O4 1040 1103 a l (fun m n =>
 G5 m a n K)))))))))))))
def t1 (b3A : Int) (b0n : Bool) (a : Int) (H : Hp) (K : Int → Hp → Prop) : Prop :=
 (b0n = true →
 K 5 H) ∧
 (b0n = false →
 (b3A = 215 →
 S5 (decide (b3A = 215)) a H K) ∧
 (¬ (b3A = 215) →
 (b3A = 247 →
 S5 (decide (b3A = 247)) a H K) ∧
 (¬ (b3A = 247) →
 S5 (decide (b3A = 930)) a H K)))
def S6 (u5 : Int) (U7 : Bool) (a : Int) (H : Hp) (K : Int → Hp → Prop) : Prop :=
 (U7 = true →
 K 1 H) ∧
 (U7 = false →
 (u5 = 10 →
 K 2 H) ∧
 (¬ (u5 = 10) →
 (u5 = 59 →
 t1 u5 (decide (u5 = 59)) a H K) ∧
 (¬ (u5 = 59) →
 (u5 = 44 →
 t1 u5 (decide (u5 = 44)) a H K) ∧
 (¬ (u5 = 44) →
 (u5 = 123 →
 t1 u5 (decide (u5 = 123)) a H K) ∧
 (¬ (u5 = 123) →
 (u5 = 125 →
 t1 u5 (decide (u5 = 125)) a H K) ∧
 (¬ (u5 = 125) →
 (u5 = 40 →
 t1 u5 (decide (u5 = 40)) a H K) ∧
 (¬ (u5 = 40) →
 (u5 = 41 →
 t1 u5 (decide (u5 = 41)) a H K) ∧
 (¬ (u5 = 41) →
 (u5 = 91 →
 t1 u5 (decide (u5 = 91)) a H K) ∧
 (¬ (u5 = 91) →
 (u5 = 93 →
 t1 u5 (decide (u5 = 93)) a H K) ∧
 (¬ (u5 = 93) →
 (u5 = 61 →
 t1 u5 (decide (u5 = 61)) a H K) ∧
 (¬ (u5 = 61) →
 (u5 = 33 →
 t1 u5 (decide (u5 = 33)) a H K) ∧
 (¬ (u5 = 33) →
 (u5 = 60 →
 t1 u5 (decide (u5 = 60)) a H K) ∧
 (¬ (u5 = 60) →
 (u5 = 62 →
 t1 u5 (decide (u5 = 62)) a H K) ∧
 (¬ (u5 = 62) →
 (u5 = 43 →
 t1 u5 (decide (u5 = 43)) a H K) ∧
 (¬ (u5 = 43) →
 (u5 = 45 →
 t1 u5 (decide (u5 = 45)) a H K) ∧
 (¬ (u5 = 45) →
 (u5 = 42 →
 t1 u5 (decide (u5 = 42)) a H K) ∧
 (¬ (u5 = 42) →
 (u5 = 47 →
 t1 u5 (decide (u5 = 47)) a H K) ∧
 (¬ (u5 = 47) →
 (u5 = 37 →
 t1 u5 (decide (u5 = 37)) a H K) ∧
 (¬ (u5 = 37) →
 (u5 = 38 →
 t1 u5 (decide (u5 = 38)) a H K) ∧
 (¬ (u5 = 38) →
 t1 u5 (decide (u5 = 124)) a H K))))))))))))))))))))
def a6H (x0 : Int) (H : Hp) (K : Int → Hp → Prop) : Prop :=
 (x0 = 32 →
 S6 x0 (decide (x0 = 32)) x0 H K) ∧
 (¬ (x0 = 32) →
 (x0 = 9 →
 S6 x0 (decide (x0 = 9)) x0 H K) ∧
 (¬ (x0 = 9) →
 S6 x0 (decide (x0 = 13)) x0 H K))
theorem b4b (x0) {H K} (h : a6H x0 H K) : a4M x0 H K := by
 refine Ct.of fun w0 w ps0 H0 R E I hR => c8x ?_
 unfold a6H at h
 unfold d1y
 refine F0 I (cs := [(Value.int .i32 x0)]) rfl fun a u b v => ?_
 refine b6 (l1 Tryz.isAgg21 b rfl) ?_
 have hj1 : ∀ (U7 : Bool) H w (_ : Inv w0 ps0 H0 H [bx a 21 [(Value.int .i32 x0)]] w) (_ : S6 x0 U7 x0 H K), b7r (Value.pointer (some ⟨a, 0, none⟩)) (Value.int .i32 x0) (vB U7) w R E := by
  intro U7 H w I h
  unfold b7r
  intro _
  unfold S6 at h
  refine m5 h (fun _ h => ?_) (fun _ h => ?_)
  ·exact hR _ H _ _ I.drop ⟨1, rfl, rfl, h⟩
  ·refine a8 pEq ?_
   refine f6 h (fun _ h => ?_) (fun _ h => ?_)
   ·exact hR _ H _ _ I.drop ⟨2, rfl, rfl, h⟩
   ·have hj2 : ∀ (b0n : Bool) H w (_ : Inv w0 ps0 H0 H [bx a 21 [(Value.int .i32 x0)]] w) (_ : t1 x0 b0n x0 H K), b7q (Value.pointer (some ⟨a, 0, none⟩)) (Value.int .i32 x0) (vB b0n) w R E := by
     intro b0n H w I h
     unfold b7q
     intro _
     unfold t1 at h
     refine m5 h (fun _ h => ?_) (fun _ h => ?_)
     ·exact hR _ H _ _ I.drop ⟨5, rfl, rfl, h⟩
     ·have hj3 : ∀ (b4K : Bool) H w (_ : Inv w0 ps0 H0 H [bx a 21 [(Value.int .i32 x0)]] w) (_ : S5 b4K x0 H K), b7p (Value.pointer (some ⟨a, 0, none⟩)) (vB b4K) w R E := by
       intro b4K H w I h
       unfold b7p
       intro _
       unfold S5 at h
       refine m5 h (fun _ h => ?_) (fun _ h => ?_)
       ·exact hR _ H _ _ I.drop ⟨6, rfl, rfl, h⟩
       ·refine a8 (b2k _ _ _) ?_
        refine a8H (cap := [(Value.pointer (some ⟨a, 0, none⟩))]) Tryz.call170 (h a) I ?_
        rintro _ d _ y c _ _ ⟨z, rfl, rfl, h⟩
        refine m5 h (fun _ h => ?_) (fun _ h => ?_)
        ·exact hR _ d _ _ c.drop ⟨4, rfl, rfl, h⟩
        ·have hj4 : ∀ (b4J : Bool) H w (_ : Inv w0 ps0 H0 H [bx a 21 [(Value.int .i32 x0)]] w) (_ : G5 b4J x0 H K), b7o (vB b4J) w R E := by
          intro b4J H w I h
          unfold b7o
          intro _
          unfold G5 at h
          refine m5 h (fun _ h => ?_) (fun _ h => ?_)
          ·exact hR _ H _ _ I.drop ⟨3, rfl, rfl, h⟩
          ·exact hR _ H _ _ I.drop ⟨6, rfl, rfl, h⟩
         refine r5 fun j4 hx4 => ?_
         refine b6 (l1 Tryz.isAgg21 c rfl) (a8 pEq ?_)
         refine f6 h (fun _ h => ?_) (fun _ h => ?_)
         ·exact hx4 _ _ (hj4 (decide (x0 = 95)) d _ c h)
         ·refine a8H (cap := [(Value.pointer (some ⟨a, 0, none⟩))]) Tryz.call170 (h a) c ?_
          rintro _ j _ aa e _ _ ⟨k, rfl, rfl, h⟩
          refine m5 h (fun _ h => ?_) (fun _ h => ?_)
          ·exact hx4 _ _ (hj4 k j _ e h)
          ·refine a8H (cap := [(Value.pointer (some ⟨a, 0, none⟩))]) Tryz.call170 (h a) e ?_
           rintro _ l _ ab f _ _ ⟨m, rfl, rfl, h⟩
           refine m5 h (fun _ h => ?_) (fun _ h => ?_)
           ·exact hx4 _ _ (hj4 m l _ f h)
           ·refine a8H (cap := [(Value.pointer (some ⟨a, 0, none⟩))]) Tryz.call170 (h a) f ?_
            rintro _ n _ ac g _ _ ⟨o, rfl, rfl, h⟩
            refine m5 h (fun _ h => ?_) (fun _ h => ?_)
            ·exact hx4 _ _ (hj4 o n _ g h)
            ·refine a8H (cap := [(Value.pointer (some ⟨a, 0, none⟩))]) Tryz.call170 (h a) g ?_
             rintro _ p _ ad i _ _ ⟨q, rfl, rfl, h⟩
             refine m5 h (fun _ h => ?_) (fun _ h => ?_)
             ·exact hx4 _ _ (hj4 q p _ i h)
             ·refine a8H (cap := [(Value.pointer (some ⟨a, 0, none⟩))]) Tryz.call170 (h a) i ?_
              rintro _ r _ ae s _ _ ⟨t, rfl, rfl, h⟩
              exact hx4 _ _ (hj4 t r _ s h)
      refine r5 fun j3 hx3 => ?_
      refine a8 pEq ?_
      refine f6 h (fun _ h => ?_) (fun _ h => ?_)
      ·exact hx3 _ _ (hj3 (decide (x0 = 215)) H _ I h)
      ·refine a8 pEq ?_
       refine f6 h (fun _ h => ?_) (fun _ h => ?_)
       ·exact hx3 _ _ (hj3 (decide (x0 = 247)) H _ I h)
       ·refine a8 pEq ?_
        exact hx3 _ _ (hj3 (decide (x0 = 930)) H _ I h)
    refine r5 fun j2 hx2 => ?_
    refine a8 pEq ?_
    refine f6 h (fun _ h => ?_) (fun _ h => ?_)
    ·exact hx2 _ _ (hj2 (decide (x0 = 59)) H _ I h)
    ·refine a8 pEq ?_
     refine f6 h (fun _ h => ?_) (fun _ h => ?_)
     ·exact hx2 _ _ (hj2 (decide (x0 = 44)) H _ I h)
     ·refine a8 pEq ?_
      refine f6 h (fun _ h => ?_) (fun _ h => ?_)
      ·exact hx2 _ _ (hj2 (decide (x0 = 123)) H _ I h)
      ·refine a8 pEq ?_
       refine f6 h (fun _ h => ?_) (fun _ h => ?_)
       ·exact hx2 _ _ (hj2 (decide (x0 = 125)) H _ I h)
       ·refine a8 pEq ?_
        refine f6 h (fun _ h => ?_) (fun _ h => ?_)
        ·exact hx2 _ _ (hj2 (decide (x0 = 40)) H _ I h)
        ·refine a8 pEq ?_
         refine f6 h (fun _ h => ?_) (fun _ h => ?_)
         ·exact hx2 _ _ (hj2 (decide (x0 = 41)) H _ I h)
         ·refine a8 pEq ?_
          refine f6 h (fun _ h => ?_) (fun _ h => ?_)
          ·exact hx2 _ _ (hj2 (decide (x0 = 91)) H _ I h)
          ·refine a8 pEq ?_
           refine f6 h (fun _ h => ?_) (fun _ h => ?_)
           ·exact hx2 _ _ (hj2 (decide (x0 = 93)) H _ I h)
           ·refine a8 pEq ?_
            refine f6 h (fun _ h => ?_) (fun _ h => ?_)
            ·exact hx2 _ _ (hj2 (decide (x0 = 61)) H _ I h)
            ·refine a8 pEq ?_
             refine f6 h (fun _ h => ?_) (fun _ h => ?_)
             ·exact hx2 _ _ (hj2 (decide (x0 = 33)) H _ I h)
             ·refine a8 pEq ?_
              refine f6 h (fun _ h => ?_) (fun _ h => ?_)
              ·exact hx2 _ _ (hj2 (decide (x0 = 60)) H _ I h)
              ·refine a8 pEq ?_
               refine f6 h (fun _ h => ?_) (fun _ h => ?_)
               ·exact hx2 _ _ (hj2 (decide (x0 = 62)) H _ I h)
               ·refine a8 pEq ?_
                refine f6 h (fun _ h => ?_) (fun _ h => ?_)
                ·exact hx2 _ _ (hj2 (decide (x0 = 43)) H _ I h)
                ·refine a8 pEq ?_
                 refine f6 h (fun _ h => ?_) (fun _ h => ?_)
                 ·exact hx2 _ _ (hj2 (decide (x0 = 45)) H _ I h)
                 ·refine a8 pEq ?_
                  refine f6 h (fun _ h => ?_) (fun _ h => ?_)
                  ·exact hx2 _ _ (hj2 (decide (x0 = 42)) H _ I h)
                  ·refine a8 pEq ?_
                   refine f6 h (fun _ h => ?_) (fun _ h => ?_)
                   ·exact hx2 _ _ (hj2 (decide (x0 = 47)) H _ I h)
                   ·refine a8 pEq ?_
                    refine f6 h (fun _ h => ?_) (fun _ h => ?_)
                    ·exact hx2 _ _ (hj2 (decide (x0 = 37)) H _ I h)
                    ·refine a8 pEq ?_
                     refine f6 h (fun _ h => ?_) (fun _ h => ?_)
                     ·exact hx2 _ _ (hj2 (decide (x0 = 38)) H _ I h)
                     ·refine a8 pEq ?_
                      exact hx2 _ _ (hj2 (decide (x0 = 124)) H _ I h)
 refine r5 fun j1 hx1 => ?_
 refine a8 pEq ?_
 refine f6 h (fun _ h => ?_) (fun _ h => ?_)
 ·exact hx1 _ _ (hj1 (decide (x0 = 32)) H _ b h)
 ·refine a8 pEq ?_
  refine f6 h (fun _ h => ?_) (fun _ h => ?_)
  ·exact hx1 _ _ (hj1 (decide (x0 = 9)) H _ b h)
  ·refine a8 pEq ?_
   exact hx1 _ _ (hj1 (decide (x0 = 13)) H _ b h)
def a6I (x0 : Int) (H : Hp) (K : Bool → Hp → Prop) : Prop :=
 a4M x0 H (fun a b =>
 K ((decide (a = 3)) || (decide (a = 4))) b)
theorem b4c (x0) {H K} (h : a6I x0 H K) : a6E x0 H K := by
 refine Ct.of fun w0 w ps0 H0 R E I hR => c8w ?_
 unfold a6I at h
 unfold d1x
 refine i6 Tryz.call166 h I ?_
 rintro _ c _ e d _ _ ⟨b, rfl, rfl, h⟩
 refine a8 pEq ?_
 simp only [t8]
 refine a8 (Pu.g fun a => by simp only [g7 a]; exact pEq) ?_
 refine a8 (E8 _ _) ?_
 exact hR _ c _ _ d ⟨((decide (b = 3)) || (decide (b = 4))), rfl, rfl, h⟩
def v6 (u5 : Bool) (H : Hp) (K : Bool → Hp → Prop) : Prop :=
 (u5 = true →
 K true H) ∧
 (u5 = false →
 K false H)
def a7G (x0 : ByteArray) (H : Hp) (K : Bool → Hp → Prop) : Prop :=
 (x0 = ⟨#[118, 97, 114]⟩ →
 v6 (decide (x0 = ⟨#[118, 97, 114]⟩)) H K) ∧
 (¬ (x0 = ⟨#[118, 97, 114]⟩) →
 (x0 = ⟨#[97, 114, 114, 97, 121]⟩ →
 v6 (decide (x0 = ⟨#[97, 114, 114, 97, 121]⟩)) H K) ∧
 (¬ (x0 = ⟨#[97, 114, 114, 97, 121]⟩) →
 (x0 = ⟨#[105, 102]⟩ →
 v6 (decide (x0 = ⟨#[105, 102]⟩)) H K) ∧
 (¬ (x0 = ⟨#[105, 102]⟩) →
 (x0 = ⟨#[101, 108, 115, 101]⟩ →
 v6 (decide (x0 = ⟨#[101, 108, 115, 101]⟩)) H K) ∧
 (¬ (x0 = ⟨#[101, 108, 115, 101]⟩) →
 (x0 = ⟨#[119, 104, 105, 108, 101]⟩ →
 v6 (decide (x0 = ⟨#[119, 104, 105, 108, 101]⟩)) H K) ∧
 (¬ (x0 = ⟨#[119, 104, 105, 108, 101]⟩) →
 (x0 = ⟨#[97, 115, 115, 101, 114, 116]⟩ →
 v6 (decide (x0 = ⟨#[97, 115, 115, 101, 114, 116]⟩)) H K) ∧
 (¬ (x0 = ⟨#[97, 115, 115, 101, 114, 116]⟩) →
 (x0 = ⟨#[97, 115, 115, 117, 109, 101]⟩ →
 v6 (decide (x0 = ⟨#[97, 115, 115, 117, 109, 101]⟩)) H K) ∧
 (¬ (x0 = ⟨#[97, 115, 115, 117, 109, 101]⟩) →
 (x0 = ⟨#[115, 107, 105, 112]⟩ →
 v6 (decide (x0 = ⟨#[115, 107, 105, 112]⟩)) H K) ∧
 (¬ (x0 = ⟨#[115, 107, 105, 112]⟩) →
 (x0 = ⟨#[105, 110, 112, 117, 116]⟩ →
 v6 (decide (x0 = ⟨#[105, 110, 112, 117, 116]⟩)) H K) ∧
 (¬ (x0 = ⟨#[105, 110, 112, 117, 116]⟩) →
 (x0 = ⟨#[116, 114, 117, 101]⟩ →
 v6 (decide (x0 = ⟨#[116, 114, 117, 101]⟩)) H K) ∧
 (¬ (x0 = ⟨#[116, 114, 117, 101]⟩) →
 v6 (decide (x0 = ⟨#[102, 97, 108, 115, 101]⟩)) H K))))))))))
theorem b5n (x0) {H K} (h : a7G x0 H K) : a3W x0 H K := by
 refine Ct.of fun w0 w ps0 H0 R E I hR => c8v ?_
 unfold a7G at h
 unfold d1w
 have hj1 : ∀ (u5 : Bool) H w (_ : Inv w0 ps0 H0 H [] w) (_ : v6 u5 H K), b7n (vB u5) w R E := by
  intro u5 H w I h
  unfold b7n
  intro _
  unfold v6 at h
  refine m5 h (fun _ h => ?_) (fun _ h => ?_)
  ·exact hR _ H _ _ I ⟨true, rfl, rfl, h⟩
  ·exact hR _ H _ _ I ⟨false, rfl, rfl, h⟩
 refine r5 fun j1 hx1 => ?_
 refine a8 (Q3 _ _ _ _ _) ?_
 refine f6 h (fun _ h => ?_) (fun _ h => ?_)
 ·exact hx1 _ _ (hj1 (decide (x0 = ⟨#[118, 97, 114]⟩)) H _ I h)
 ·refine a8 (Q3 _ _ _ _ _) ?_
  refine f6 h (fun _ h => ?_) (fun _ h => ?_)
  ·exact hx1 _ _ (hj1 (decide (x0 = ⟨#[97, 114, 114, 97, 121]⟩)) H _ I h)
  ·refine a8 (Q3 _ _ _ _ _) ?_
   refine f6 h (fun _ h => ?_) (fun _ h => ?_)
   ·exact hx1 _ _ (hj1 (decide (x0 = ⟨#[105, 102]⟩)) H _ I h)
   ·refine a8 (Q3 _ _ _ _ _) ?_
    refine f6 h (fun _ h => ?_) (fun _ h => ?_)
    ·exact hx1 _ _ (hj1 (decide (x0 = ⟨#[101, 108, 115, 101]⟩)) H _ I h)
    ·refine a8 (Q3 _ _ _ _ _) ?_
     refine f6 h (fun _ h => ?_) (fun _ h => ?_)
     ·exact hx1 _ _ (hj1 (decide (x0 = ⟨#[119, 104, 105, 108, 101]⟩)) H _ I h)
     ·refine a8 (Q3 _ _ _ _ _) ?_
      refine f6 h (fun _ h => ?_) (fun _ h => ?_)
      ·exact hx1 _ _ (hj1 (decide (x0 = ⟨#[97, 115, 115, 101, 114, 116]⟩)) H _ I h)
      ·refine a8 (Q3 _ _ _ _ _) ?_
       refine f6 h (fun _ h => ?_) (fun _ h => ?_)
       ·exact hx1 _ _ (hj1 (decide (x0 = ⟨#[97, 115, 115, 117, 109, 101]⟩)) H _ I h)
       ·refine a8 (Q3 _ _ _ _ _) ?_
        refine f6 h (fun _ h => ?_) (fun _ h => ?_)
        ·exact hx1 _ _ (hj1 (decide (x0 = ⟨#[115, 107, 105, 112]⟩)) H _ I h)
        ·refine a8 (Q3 _ _ _ _ _) ?_
         refine f6 h (fun _ h => ?_) (fun _ h => ?_)
         ·exact hx1 _ _ (hj1 (decide (x0 = ⟨#[105, 110, 112, 117, 116]⟩)) H _ I h)
         ·refine a8 (Q3 _ _ _ _ _) ?_
          refine f6 h (fun _ h => ?_) (fun _ h => ?_)
          ·exact hx1 _ _ (hj1 (decide (x0 = ⟨#[116, 114, 117, 101]⟩)) H _ I h)
          ·refine a8 (Q3 _ _ _ _ _) ?_
           exact hx1 _ _ (hj1 (decide (x0 = ⟨#[102, 97, 108, 115, 101]⟩)) H _ I h)
def a6j (x0 : i8) (H : Hp) (K : f7 → Hp → Prop) : Prop :=
 K (f7.O6 (a0N.mk x0)) H
theorem b3B (x0) {H K} (h : a6j x0 H K) : a8M x0 H K := by
 refine Ct.of fun w0 w ps0 H0 R E I hR => d1i ?_
 unfold a6j at h
 unfold F77
 refine F0 I (cs := (o7 x0)) rfl fun b c a d => ?_
 refine b6 (lW Tryz.isAgg71 Tryz.sizeOf71 rfl a) (a8 (b9N _ _) (a8 (b7g (a0N.mk x0)) ?_))
 exact hR _ H _ _ a.drop ⟨(f7.O6 (a0N.mk x0)), rfl, rfl, h⟩
def G7 (d6P : Sl) (b7C : Int) (d6Q : Sl) (c7A : Int) (c3t : Int) (H : Hp) (n4 : (Int × Int) → Hp → Prop) (K : Sl → Hp → Prop) : Prop :=
 n4 (b7C, (IntKind.wrap .i64 (c3t + 1))) H
def G8 (b6v : (List f7)) (H : Hp) (K : Sl → Hp → Prop) : Prop :=
 ∀ (a9K : Sl) (a : Hp), Hle H a → SlH a 1 z7 a9K b6v → a9K.n ≤ a9K.c →
 K a9K a
def G9 (c7B : Sl) (c7C : Int) (a6k : (List f7)) (a5I : Int) (H : Hp) (n3 : ((List f7) × Int) → Hp → Prop) (K : Sl → Hp → Prop) : Prop :=
 (a5I < c7C →
 (0 : Int) ≤ a5I ∧ (a5I : Int) < c7B.n ∧ ∃ b : Sl, EltH H c7B a5I 1 [(vs b)] ∧
 ∃ a : List f7, SlH H 1 z7 b a ∧ (a6k.length + a.length) * 17 ≤ 140737488355328 ∧
 n3 ((a6k ++ a), (IntKind.wrap .i64 (a5I + 1))) H) ∧
 (¬ (a5I < c7C) →
 G8 a6k H K)
def I0 (b7D : Sl) (a7H : Int) (H : Hp) (K : Sl → Hp → Prop) : Prop :=
 U8 a7H H (fun a b =>
 TL ((a, 0) : (List f7) × Int) b fun (s : (List f7) × Int) H n3 => G9 b7D (b7D.n : Int) s.1 s.2 H n3 K)
def J0 (d1S : Sl) (a6f : Sl) (c3u : Int) (a8R : Int) (a5x : Int) (H : Hp) (n4 : (Int × Int) → Hp → Prop) (K : Sl → Hp → Prop) : Prop :=
 (a5x < c3u →
 (0 : Int) ≤ a5x ∧ (a5x : Int) < a6f.n ∧ ∃ a : Sl, EltH H a6f a5x 1 [(vs a)] ∧
 ((IntKind.wrap .i64 (a8R + (a.n : Int))) < 0 →
 False) ∧
 (¬ ((IntKind.wrap .i64 (a8R + (a.n : Int))) < 0) →
 G7 d1S (IntKind.wrap .i64 (a8R + (a.n : Int))) a6f c3u a5x H n4 K)) ∧
 (¬ (a5x < c3u) →
 I0 d1S a8R H K)
def Q0 (x0 : Sl) (H : Hp) (K : Sl → Hp → Prop) : Prop :=
 TL ((0, 0) : Int × Int) H fun (s : Int × Int) H n4 => J0 x0 x0 (x0.n : Int) s.1 s.2 H n4 K
theorem a4p (x0) {H K} (h : Q0 x0 H K) : E1 x0 H K := by
 refine Ct.of fun w0 w ps0 H0 R E I hR => d1g ?_
 unfold Q0 at h
 unfold F75
 have hj1 : ∀ (a7H : Int) H w (_ : Inv w0 ps0 H0 H [] w) (_ : I0 x0 a7H H K), b9V (vs x0) (vi a7H) w R E := by
  intro a7H H w I h
  unfold b9V
  intro _
  unfold I0 at h
  refine i6 Tryz.call119 h I ?_
  rintro _ p _ az q _ _ ⟨r, t, u, rfl, rfl, y, h⟩
  have hj2 : ∀ (b6v : (List f7)) (a9K : Sl) (Fs6j2 : Frag) H w (_ : RowL 150 1 z7 a9K b6v Fs6j2) (_ : Inv w0 ps0 H0 H [Fs6j2] w) (_ : G8 b6v H K), b9U (vs a9K) w R E := by
   intro b6v a9K Fs6j2 H w d4h I h
   unfold b9U
   intro _
   unfold G8 at h
   obtain ⟨m, z, aa, ab, ac⟩ := Inv.freezeC I d4h (by decide)
   replace h := h a9K m aa ab ac
   exact hR _ m _ _ z ⟨a9K, rfl, rfl, h⟩
  refine r5 fun j2 hx2 => ?_
  refine a8 (b6u _ _ _) ?_
  obtain ⟨e, c, ad, ae⟩ := h
  refine y7 (J := fun n l w => ∃ (s : (List f7) × Int) (H : Hp) (b6w : Sl) (Fs6l3 : Frag) , n = c s ∧ l = (match s with | (a6k, a5I) => [(vs b6w), (vi a5I)]) ∧ (match s with | (a6k, a5I) => RowL 150 1 z7 b6w a6k Fs6l3) ∧ (match s with | (a6k, a5I) => Inv w0 ps0 H0 H [Fs6l3] w) ∧ e s H) ⟨_, (r, 0), p, t, u, rfl, rfl, y, q, ad⟩ ?_
  rintro ba bb w next3 ⟨⟨a6k, a5I⟩, H, b6w, Fs6l3, rfl, f, c3v, I, af⟩ hn3
  dsimp only at f I c3v
  simp only [List.map_cons, List.map_nil, List.cons.injEq, and_true] at f
  obtain ⟨e6, e27⟩ := f
  simp only [e6, e27]
  obtain ⟨n3, hm3, h⟩ : ∃ n3 : ((List f7) × Int) → Hp → Prop, (∀ s' H', n3 s' H' → e s' H' ∧ c s' < c (a6k, a5I)) ∧ G9 x0 (x0.n : Int) a6k a5I H n3 K := ⟨_, fun _ _ h => h, ae (a6k, a5I) H (fun s' H' => e s' H' ∧ c s' < c (a6k, a5I)) af (fun _ _ a b => ⟨a, b⟩)⟩
  unfold c4E
  unfold G9 at h
  refine a8 pLs ?_
  refine f6 h (fun _ h => ?_) (fun _ h => ?_)
  ·obtain ⟨ag, ah, ai, g, h⟩ := h
   obtain ⟨bc, bd, aj, g⟩ := g
   refine a8 (b8z aj _ _ _ _ ag ah) (b6 (ld1 (v := (vs ai)) Tryz.isAgg137 (I.atH g)) ?_)
   obtain ⟨ak, al, h⟩ := h
   obtain ⟨am, h⟩ := h
   refine b2I (s := b6w) (xs := a6k) I c3v (SlH.src I al U1) am fun an ao be ap aq bf => ?_
   refine a8 pAd ?_
   exact hn3 _ _ _ (hm3 _ _ h).2 ⟨((a6k ++ ak), (IntKind.wrap .i64 (a5I + 1))), H, an, ao, rfl, rfl, ap, aq, (hm3 _ _ h).1⟩
  ·exact hx2 _ _ (hj2 a6k b6w Fs6l3 H _ c3v I h)
 refine r5 fun j1 hx1 => ?_
 refine a8 (b6u _ _ _) ?_
 obtain ⟨i, d, ar, au⟩ := h
 refine y7 (J := fun n l w => ∃ (s : Int × Int) (H : Hp) , n = d s ∧ l = (match s with | (a8R, a5x) => [(vi a8R), (vi a5x)]) ∧ (match s with | (a8R, a5x) => Inv w0 ps0 H0 H [] w) ∧ i s H) ⟨_, (0, 0), H, rfl, rfl, I, ar⟩ ?_
 rintro bg bh w next4 ⟨⟨a8R, a5x⟩, H, rfl, j, I, av⟩ hn4
 dsimp only at j I
 simp only [List.map_cons, List.map_nil, List.cons.injEq, and_true] at j
 obtain ⟨e3, e11⟩ := j
 simp only [e3, e11]
 obtain ⟨n4, hm4, h⟩ : ∃ n4 : (Int × Int) → Hp → Prop, (∀ s' H', n4 s' H' → i s' H' ∧ d s' < d (a8R, a5x)) ∧ J0 x0 x0 (x0.n : Int) a8R a5x H n4 K := ⟨_, fun _ _ h => h, au (a8R, a5x) H (fun s' H' => i s' H' ∧ d s' < d (a8R, a5x)) av (fun _ _ a b => ⟨a, b⟩)⟩
 unfold c4F
 unfold J0 at h
 refine a8 pLs ?_
 refine f6 h (fun _ h => ?_) (fun _ h => ?_)
 ·have hj5 : ∀ (b7C : Int) H w (_ : Inv w0 ps0 H0 H [] w) (_ : G7 x0 b7C x0 (x0.n : Int) a5x H n4 K), b9W (vs x0) (vi b7C) (vs x0) (vi (x0.n : Int)) (vi a5x) w next4 R E := by
   intro b7C H w I h
   unfold b9W
   intro _
   unfold G7 at h
   refine a8 pAd ?_
   exact hn4 _ _ _ (hm4 _ _ h).2 ⟨(b7C, (IntKind.wrap .i64 (a5x + 1))), H, rfl, rfl, I, (hm4 _ _ h).1⟩
  refine r5 fun j5 hx5 => ?_
  obtain ⟨aw, ax, o, k, h⟩ := h
  obtain ⟨bi, bj, ay, k⟩ := k
  refine a8 (b8z ay _ _ _ _ aw ax) (b6 (ld1 (v := (vs o)) Tryz.isAgg137 (I.atH k)) (a8 (b0l _ _ _) (a8 pAd (a8 pLs ?_))))
  refine f6 h (fun _ h => ?_) (fun _ h => ?_)
  ·refine a8 (c4B _) ?_
   exact h.elim
  ·exact hx5 _ _ (hj5 (IntKind.wrap .i64 (a8R + (o.n : Int))) H _ I h)
 ·exact hx1 _ _ (hj1 a8R H _ I h)
def J8 (d5p : Int) (b4L : Bool) (a : P3) (H : Hp) (K : Bool → Hp → Prop) : Prop :=
 (b4L = true →
 K (decide (d5p = 2)) H) ∧
 (b4L = false →
 K false H)
def R2 (b7E : Int) (a7g : Int) (b4M : Bool) (a : P3) (H : Hp) (K : Bool → Hp → Prop) : Prop :=
 (b4M = true →
 K (decide (b7E = 1)) H) ∧
 (b4M = false →
 (a7g = 6 →
 J8 b7E (decide (a7g = 6)) a H K) ∧
 (¬ (a7g = 6) →
 (a7g = 7 →
 J8 b7E (decide (a7g = 7)) a H K) ∧
 (¬ (a7g = 7) →
 (a7g = 8 →
 J8 b7E (decide (a7g = 8)) a H K) ∧
 (¬ (a7g = 8) →
 (a7g = 9 →
 J8 b7E (decide (a7g = 9)) a H K) ∧
 (¬ (a7g = 9) →
 J8 b7E (decide (a7g = 10)) a H K)))))
def R3 (a7H : Int) (a7h : Int) (b4N : Bool) (a : P3) (H : Hp) (K : Bool → Hp → Prop) : Prop :=
 (b4N = true →
 K (decide (a7H = 0)) H) ∧
 (b4N = false →
 (a7h = 4 →
 R2 a7H a7h (decide (a7h = 4)) a H K) ∧
 (¬ (a7h = 4) →
 R2 a7H a7h (decide (a7h = 5)) a H K))
def a5b (x0 : P3) (H : Hp) (K : Bool → Hp → Prop) : Prop :=
 a3x (f7.L1 x0) H (fun c b a =>
 ((((!decide (x0.z6.b7 = 1)) && (!decide (x0.z6.C9 = 0))) || ((!b) && (!decide (x0.z6.d9 = ⟨#[]⟩)))) = true →
 K false a) ∧
 ((((!decide (x0.z6.b7 = 1)) && (!decide (x0.z6.C9 = 0))) || ((!b) && (!decide (x0.z6.d9 = ⟨#[]⟩)))) = false →
 (x0.z6.b7 = 1 →
 K ((decide (0 ≤ x0.z6.C9)) && (decide ((x0.z6.z8.n : Int) = 0))) a) ∧
 (¬ (x0.z6.b7 = 1) →
 (x0.z6.b7 = 2 →
 R3 (x0.z6.z8.n : Int) x0.z6.b7 (decide (x0.z6.b7 = 2)) x0 a K) ∧
 (¬ (x0.z6.b7 = 2) →
 R3 (x0.z6.z8.n : Int) x0.z6.b7 (decide (x0.z6.b7 = 3)) x0 a K))))
theorem b1H (x0) {H K} (h : a5b x0 H K) : a4W x0 H K := by
 refine Ct.of fun w0 w ps0 H0 R E I hR => c8B ?_
 unfold a5b at h
 unfold d1C
 refine F0 I (cs := (f4 x0.z6)) rfl fun f l i m => ?_
 refine a8 a2o (a8 P5 (b6 (l1 Tryz.isAgg51 i rfl) (a8 (P9 _ _ _) (b6 (lW Tryz.isAgg136 Tryz.sizeOf136 rfl i) ?_))))
 refine a8 (b2H x0) ?_
 refine i6 Tryz.call143 h i ?_
 rintro _ d _ o c _ _ ⟨j, k, rfl, rfl, h⟩
 refine a8 (m8 _ _ (Value.string j) rfl) (a8 (m8 _ _ (vB k) rfl) (a8 a2o (a8 K8 (b6 (l1 Tryz.isAgg3 c rfl) ?_))))
 refine a8 pNe ?_
 refine a8 (Pu.g fun a => by exact a2o) ?_
 refine a8 (Pu.g fun a => by simp only [g7 a]; exact a5v) ?_
 refine b6 (Ld.g fun a => by simp only [g7 a]; exact (l1 Tryz.isAgg2 c rfl)) ?_
 refine a8 (Pu.g fun a => by simp only [g7 a]; exact pNe) ?_
 refine a8 (v7 _ _) ?_
 simp only [t8]
 refine a8 (Pu.g fun a => by simp only [g7 a]; exact (G3 _)) ?_
 simp only [a5t]
 refine a8 (Pu.e (a0f _ _ _) (Pu.g fun hb => by obtain ⟨a, b⟩ := a2T hb; exact a2o)) ?_
 refine a8 (Pu.e (a0f _ _ _) (Pu.g fun hb => by obtain ⟨a, b⟩ := a2T hb; simp only [g7 hb]; exact a3q)) ?_
 refine b6 (Ld.e (a0f _ _ _) (Ld.g fun hb => by obtain ⟨a, b⟩ := a2T hb; simp only [g7 hb]; exact (l1 Tryz.isAgg9 c rfl))) ?_
 refine a8 (Pu.e (a0f _ _ _) (Pu.g fun hb => by obtain ⟨a, b⟩ := a2T hb; simp only [g7 hb]; exact (d0L _ _ _ _ _))) ?_
 refine a8 (Pu.g fun a => by simp only [g7 a, a7O a]; exact (v7 _ _)) ?_
 refine a8 (E8 _ _) ?_
 refine m5 h (fun _ h => ?_) (fun _ h => ?_)
 ·exact hR _ d _ _ c.drop ⟨false, rfl, rfl, h⟩
 ·refine a8 a2o (a8 K8 (b6 (l1 Tryz.isAgg3 c rfl) (a8 pEq ?_)))
  refine f6 h (fun _ h => ?_) (fun _ h => ?_)
  ·refine a8 a2o (a8 a5v (b6 (l1 Tryz.isAgg2 c rfl) (a8 pGe ?_)))
   simp only [t8]
   refine a8 (Pu.g fun a => by simp only [g7 a]; exact pEq) ?_
   refine a8 (v7 _ _) ?_
   exact hR _ d _ _ c.drop ⟨((decide (0 ≤ x0.z6.C9)) && (decide ((x0.z6.z8.n : Int) = 0))), rfl, rfl, h⟩
  ·have hj1 : ∀ (b4N : Bool) H w (_ : Inv w0 ps0 H0 H [bx f 136 (f4 x0.z6)] w) (_ : R3 (x0.z6.z8.n : Int) x0.z6.b7 b4N x0 H K), b7w (vi (x0.z6.z8.n : Int)) (vi x0.z6.b7) (vB b4N) w R E := by
    intro b4N H w I h
    unfold b7w
    intro _
    unfold R3 at h
    refine m5 h (fun _ h => ?_) (fun _ h => ?_)
    ·refine a8 pEq ?_
     exact hR _ H _ _ I.drop ⟨(decide ((x0.z6.z8.n : Int) = 0)), rfl, rfl, h⟩
    ·have hj2 : ∀ (b4M : Bool) H w (_ : Inv w0 ps0 H0 H [bx f 136 (f4 x0.z6)] w) (_ : R2 (x0.z6.z8.n : Int) x0.z6.b7 b4M x0 H K), b7v (vi (x0.z6.z8.n : Int)) (vi x0.z6.b7) (vB b4M) w R E := by
      intro b4M H w I h
      unfold b7v
      intro _
      unfold R2 at h
      refine m5 h (fun _ h => ?_) (fun _ h => ?_)
      ·refine a8 pEq ?_
       exact hR _ H _ _ I.drop ⟨(decide ((x0.z6.z8.n : Int) = 1)), rfl, rfl, h⟩
      ·have hj3 : ∀ (b4L : Bool) H w (_ : Inv w0 ps0 H0 H [bx f 136 (f4 x0.z6)] w) (_ : J8 (x0.z6.z8.n : Int) b4L x0 H K), b7u (vi (x0.z6.z8.n : Int)) (vB b4L) w R E := by
        intro b4L H w I h
        unfold b7u
        intro _
        unfold J8 at h
        refine m5 h (fun _ h => ?_) (fun _ h => ?_)
        ·refine a8 pEq ?_
         exact hR _ H _ _ I.drop ⟨(decide ((x0.z6.z8.n : Int) = 2)), rfl, rfl, h⟩
        ·exact hR _ H _ _ I.drop ⟨false, rfl, rfl, h⟩
       refine r5 fun j3 hx3 => ?_
       refine a8 pEq ?_
       refine f6 h (fun _ h => ?_) (fun _ h => ?_)
       ·exact hx3 _ _ (hj3 (decide (x0.z6.b7 = 6)) H _ I h)
       ·refine a8 pEq ?_
        refine f6 h (fun _ h => ?_) (fun _ h => ?_)
        ·exact hx3 _ _ (hj3 (decide (x0.z6.b7 = 7)) H _ I h)
        ·refine a8 pEq ?_
         refine f6 h (fun _ h => ?_) (fun _ h => ?_)
         ·exact hx3 _ _ (hj3 (decide (x0.z6.b7 = 8)) H _ I h)
         ·refine a8 pEq ?_
          refine f6 h (fun _ h => ?_) (fun _ h => ?_)
          ·exact hx3 _ _ (hj3 (decide (x0.z6.b7 = 9)) H _ I h)
          ·refine a8 pEq ?_
           exact hx3 _ _ (hj3 (decide (x0.z6.b7 = 10)) H _ I h)
     refine r5 fun j2 hx2 => ?_
     refine a8 pEq ?_
     refine f6 h (fun _ h => ?_) (fun _ h => ?_)
     ·exact hx2 _ _ (hj2 (decide (x0.z6.b7 = 4)) H _ I h)
     ·refine a8 pEq ?_
      exact hx2 _ _ (hj2 (decide (x0.z6.b7 = 5)) H _ I h)
   refine r5 fun j1 hx1 => ?_
   refine a8 pEq ?_
   refine f6 h (fun _ h => ?_) (fun _ h => ?_)
   ·exact hx1 _ _ (hj1 (decide (x0.z6.b7 = 2)) d _ c h)
   ·refine a8 pEq ?_
    exact hx1 _ _ (hj1 (decide (x0.z6.b7 = 3)) d _ c h)
def a4A (x0 : P3) (H : Hp) (K : Sl → Hp → Prop) : Prop :=
 B2 x0.z6.z8 H (fun a b =>
 K a b)
theorem b1h (x0) {H K} (h : a4A x0 H K) : a6O x0 H K := by
 refine Ct.of fun w0 w ps0 H0 R E I hR => c8C ?_
 unfold a4A at h
 unfold d1D
 refine F0 I (cs := (f4 x0.z6)) rfl fun e f a g => ?_
 refine a8 a2o (a8 P5 (b6 (l1 Tryz.isAgg51 a rfl) ?_))
 refine i6 Tryz.call189 h a ?_
 rintro _ b _ i c _ _ ⟨d, rfl, rfl, h⟩
 exact hR _ b _ _ c.drop ⟨d, rfl, rfl, h⟩
def R4 (b4O : Bool) (a : M4) (b : V4) (H : Hp) (K : Bool → Hp → Prop) : Prop :=
 (b4O = true →
 K (decide (a.fexprs = 0 ∧ a.fparts = 2)) H) ∧
 (b4O = false →
 K false H)
def R5 (a7h : Int) (b4P : Bool) (a : M4) (b : V4) (H : Hp) (K : Bool → Hp → Prop) : Prop :=
 (b4P = true →
 K (decide (a.fexprs = 0 ∧ a.fparts = 0)) H) ∧
 (b4P = false →
 (a7h = 4 →
 K (decide (a.fexprs = 0 ∧ a.fparts = 1)) H) ∧
 (¬ (a7h = 4) →
 (a7h = 5 →
 R4 (decide (a7h = 5)) a b H K) ∧
 (¬ (a7h = 5) →
 R4 (decide (a7h = 6)) a b H K)))
def a5d (x0 : V4) (H : Hp) (K : Bool → Hp → Prop) : Prop :=
 (x0.u9.b7 = 3 →
 K (((decide (1 ≤ x0.u9.fOp)) && (decide (x0.u9.fOp ≤ 6))) && (decide ((x0.u9.m6.n : Int) = 2 ∧ (x0.u9.v8.n : Int) = 0))) H) ∧
 (¬ (x0.u9.b7 = 3) →
 (¬ (x0.u9.fOp = 0) →
 K false H) ∧
 (x0.u9.fOp = 0 →
 (x0.u9.b7 = 1 →
 R5 x0.u9.b7 (decide (x0.u9.b7 = 1)) (M4.mk (x0.u9.m6.n : Int) (x0.u9.v8.n : Int)) x0 H K) ∧
 (¬ (x0.u9.b7 = 1) →
 R5 x0.u9.b7 (decide (x0.u9.b7 = 2)) (M4.mk (x0.u9.m6.n : Int) (x0.u9.v8.n : Int)) x0 H K)))
theorem b1I (x0) {H K} (h : a5d x0 H K) : a4X x0 H K := by
 refine Ct.of fun w0 w ps0 H0 R E I hR => c8F ?_
 unfold a5d at h
 unfold d1G
 refine F0 I (cs := (h9 x0.u9)) rfl fun e i d j => ?_
 refine a8 a3s (a8 a0k (b6 (l1 Tryz.isAgg51 d rfl) (a8 (P9 _ _ _) (a8 a3s ?_))))
 refine a8 O3 (b6 (l1 Tryz.isAgg57 d rfl) (a8 (a1Z _ _ _) (a8 (a7d _ _) ?_)))
 refine B9 d Tryz.zeroValue236 (cs := [(vi 0), (vi 0)]) rfl fun c k f l => ?_
 refine o4 f Tryz.sizeOf236 (vs := [(vi (x0.u9.m6.n : Int)), (vi (x0.u9.v8.n : Int))]) (cs' := [(vi (x0.u9.m6.n : Int)), (vi (x0.u9.v8.n : Int))]) rfl rfl (nb rfl) rfl rfl fun m b p => ?_
 refine a8 a3s (a8 a5Z (b6 (l1 Tryz.isAgg3 (b.bring 1) rfl) (a8 pEq ?_)))
 refine f6 h (fun _ h => ?_) (fun _ h => ?_)
 ·refine a8 a3s (a8 a5w (b6 (l1 Tryz.isAgg3 (b.bring 1) rfl) (a8 pGe ?_)))
  refine a8 (Pu.g fun a => by exact a3s) ?_
  refine a8 (Pu.g fun a => by simp only [g7 a]; exact a5w) ?_
  refine b6 (Ld.g fun a => by simp only [g7 a]; exact (l1 Tryz.isAgg3 (b.bring 1) rfl)) ?_
  refine a8 (Pu.g fun a => by simp only [g7 a]; exact pLe) ?_
  refine a8 (v7 _ _) ?_
  refine b6 (Ld.g fun a => by exact (ldA Tryz.isAgg236 Tryz.sizeOf236 rfl (b.at1 (o := 0) (vs := [(vi (x0.u9.m6.n : Int)), (vi (x0.u9.v8.n : Int))]) (nb rfl) rfl))) ?_
  refine a8 (Pu.g fun a => by exact (a7d _ _)) ?_
  refine a8 (Pu.g fun a => by simp only [g7 a]; exact (b2b _ _ _ _ _ _)) ?_
  refine a8 (v7 _ _) ?_
  exact hR _ H _ _ b.drop.drop ⟨(((decide (1 ≤ x0.u9.fOp)) && (decide (x0.u9.fOp ≤ 6))) && (decide ((x0.u9.m6.n : Int) = 2 ∧ (x0.u9.v8.n : Int) = 0))), rfl, rfl, h⟩
 ·refine a8 a3s (a8 a5w (b6 (l1 Tryz.isAgg3 (b.bring 1) rfl) (a8 pNe ?_)))
  refine a1v h (fun _ h => ?_) (fun _ h => ?_)
  ·exact hR _ H _ _ b.drop.drop ⟨false, rfl, rfl, h⟩
  ·refine a8 a3s (a8 a5Z (b6 (l1 Tryz.isAgg3 (b.bring 1) rfl) ?_))
   have hj1 : ∀ (b4P : Bool) H w (_ : Inv w0 ps0 H0 H [bx c 236 [(vi (M4.mk (x0.u9.m6.n : Int) (x0.u9.v8.n : Int)).fexprs), (vi (M4.mk (x0.u9.m6.n : Int) (x0.u9.v8.n : Int)).fparts)], bx e 143 (h9 x0.u9)] w) (_ : R5 x0.u9.b7 b4P (M4.mk (x0.u9.m6.n : Int) (x0.u9.v8.n : Int)) x0 H K), b7z (Value.pointer (some ⟨c, 0, none⟩)) (vi x0.u9.b7) (vB b4P) w R E := by
    intro b4P H w I h
    unfold b7z
    intro _
    unfold R5 at h
    refine m5 h (fun _ h => ?_) (fun _ h => ?_)
    ·refine b6 (ldA Tryz.isAgg236 Tryz.sizeOf236 rfl (I.at1 (o := 0) (vs := [(vi (M4.mk (x0.u9.m6.n : Int) (x0.u9.v8.n : Int)).fexprs), (vi (M4.mk (x0.u9.m6.n : Int) (x0.u9.v8.n : Int)).fparts)]) (nb rfl) rfl)) (a8 (c3r ) (a8 (b2b _ _ _ _ _ _) ?_))
     exact hR _ H _ _ I.drop.drop ⟨(decide ((M4.mk (x0.u9.m6.n : Int) (x0.u9.v8.n : Int)).fexprs = 0 ∧ (M4.mk (x0.u9.m6.n : Int) (x0.u9.v8.n : Int)).fparts = 0)), rfl, rfl, h⟩
    ·refine a8 pEq ?_
     refine f6 h (fun _ h => ?_) (fun _ h => ?_)
     ·refine b6 (ldA Tryz.isAgg236 Tryz.sizeOf236 rfl (I.at1 (o := 0) (vs := [(vi (M4.mk (x0.u9.m6.n : Int) (x0.u9.v8.n : Int)).fexprs), (vi (M4.mk (x0.u9.m6.n : Int) (x0.u9.v8.n : Int)).fparts)]) (nb rfl) rfl)) (a8 (a7d _ _) (a8 (b2b _ _ _ _ _ _) ?_))
      exact hR _ H _ _ I.drop.drop ⟨(decide ((M4.mk (x0.u9.m6.n : Int) (x0.u9.v8.n : Int)).fexprs = 0 ∧ (M4.mk (x0.u9.m6.n : Int) (x0.u9.v8.n : Int)).fparts = 1)), rfl, rfl, h⟩
     ·have hj2 : ∀ (b4O : Bool) H w (_ : Inv w0 ps0 H0 H [bx c 236 [(vi (M4.mk (x0.u9.m6.n : Int) (x0.u9.v8.n : Int)).fexprs), (vi (M4.mk (x0.u9.m6.n : Int) (x0.u9.v8.n : Int)).fparts)], bx e 143 (h9 x0.u9)] w) (_ : R4 b4O (M4.mk (x0.u9.m6.n : Int) (x0.u9.v8.n : Int)) x0 H K), b7y (Value.pointer (some ⟨c, 0, none⟩)) (vB b4O) w R E := by
       intro b4O H w I h
       unfold b7y
       intro _
       unfold R4 at h
       refine m5 h (fun _ h => ?_) (fun _ h => ?_)
       ·refine b6 (ldA Tryz.isAgg236 Tryz.sizeOf236 rfl (I.at1 (o := 0) (vs := [(vi (M4.mk (x0.u9.m6.n : Int) (x0.u9.v8.n : Int)).fexprs), (vi (M4.mk (x0.u9.m6.n : Int) (x0.u9.v8.n : Int)).fparts)]) (nb rfl) rfl)) (a8 (a7d _ _) (a8 (b2b _ _ _ _ _ _) ?_))
        exact hR _ H _ _ I.drop.drop ⟨(decide ((M4.mk (x0.u9.m6.n : Int) (x0.u9.v8.n : Int)).fexprs = 0 ∧ (M4.mk (x0.u9.m6.n : Int) (x0.u9.v8.n : Int)).fparts = 2)), rfl, rfl, h⟩
       ·exact hR _ H _ _ I.drop.drop ⟨false, rfl, rfl, h⟩
      refine r5 fun j2 hx2 => ?_
      refine a8 pEq ?_
      refine f6 h (fun _ h => ?_) (fun _ h => ?_)
      ·exact hx2 _ _ (hj2 (decide (x0.u9.b7 = 5)) H _ ((I.bring 1).bring 1) h)
      ·refine a8 pEq ?_
       exact hx2 _ _ (hj2 (decide (x0.u9.b7 = 6)) H _ ((I.bring 1).bring 1) h)
   refine r5 fun j1 hx1 => ?_
   refine a8 pEq ?_
   refine f6 h (fun _ h => ?_) (fun _ h => ?_)
   ·exact hx1 _ _ (hj1 (decide (x0.u9.b7 = 1)) H _ ((b.bring 1).bring 1) h)
   ·refine a8 pEq ?_
    exact hx1 _ _ (hj1 (decide (x0.u9.b7 = 2)) H _ ((b.bring 1).bring 1) h)
def D7 (a2w : (List f7)) (H : Hp) (K : Sl → Hp → Prop) : Prop :=
 ∀ (N6 : Sl) (a : Hp), Hle H a → SlH a 1 z7 N6 a2w → N6.n ≤ N6.c →
 K N6 a
def D8 (a3I : Sl) (a3d : Int) (B3 : (List f7)) (A9 : Int) (H : Hp) (n2 : ((List f7) × Int) → Hp → Prop) (K : Sl → Hp → Prop) : Prop :=
 (A9 < a3d →
 (0 : Int) ≤ A9 ∧ (A9 : Int) < a3I.n ∧ ∃ a : o0, EltH H a3I A9 4 (h9 a) ∧
 a8P a H (fun b c =>
 (B3.length + ([b] : List f7).length) * 17 ≤ 140737488355328 ∧
 n2 ((B3 ++ [b]), (IntKind.wrap .i64 (A9 + 1))) c)) ∧
 (¬ (A9 < a3d) →
 D7 B3 H K)
def M9 (x0 : Sl) (H : Hp) (K : Sl → Hp → Prop) : Prop :=
 TL (([], 0) : (List f7) × Int) H fun (s : (List f7) × Int) H n2 => D8 x0 (x0.n : Int) s.1 s.2 H n2 K
theorem a3i (x0) {H K} (h : M9 x0 H K) : E9 x0 H K := by
 refine Ct.of fun w0 w ps0 H0 R E I hR => c8H ?_
 unfold M9 at h
 unfold d1I
 have hj1 : ∀ (a2w : (List f7)) (N6 : Sl) (Fs5j1 : Frag) H w (_ : RowL 150 1 z7 N6 a2w Fs5j1) (_ : Inv w0 ps0 H0 H [Fs5j1] w) (_ : D7 a2w H K), b7A (vs N6) w R E := by
  intro a2w N6 Fs5j1 H w b3t I h
  unfold b7A
  intro _
  unfold D7 at h
  obtain ⟨k, q, r, t, u⟩ := Inv.freezeC I b3t (by decide)
  replace h := h N6 k r t u
  exact hR _ k _ _ q ⟨N6, rfl, rfl, h⟩
 refine r5 fun j1 hx1 => ?_
 refine a8 (a1Z _ _ _) ?_
 obtain ⟨f, d, v, y⟩ := h
 refine y7 (J := fun n l w => ∃ (s : (List f7) × Int) (H : Hp) (a2x : Sl) (Fs5l2 : Frag) , n = d s ∧ l = (match s with | (B3, A9) => [(vs a2x), (vi A9)]) ∧ (match s with | (B3, A9) => RowL 150 1 z7 a2x B3 Fs5l2) ∧ (match s with | (B3, A9) => Inv w0 ps0 H0 H [Fs5l2] w) ∧ f s H) ⟨_, ([], 0), H, (Sl.mk none 0 0), [], rfl, rfl, (RowL.nil U1 a0g), I.nil, v⟩ ?_
 rintro am an w next2 ⟨⟨B3, A9⟩, H, a2x, Fs5l2, rfl, g, a6d, I, z⟩ hn2
 dsimp only at g I a6d
 simp only [List.map_cons, List.map_nil, List.cons.injEq, and_true] at g
 obtain ⟨e5, e10⟩ := g
 simp only [e5, e10]
 obtain ⟨n2, hm2, h⟩ : ∃ n2 : ((List f7) × Int) → Hp → Prop, (∀ s' H', n2 s' H' → f s' H' ∧ d s' < d (B3, A9)) ∧ D8 x0 (x0.n : Int) B3 A9 H n2 K := ⟨_, fun _ _ h => h, y (B3, A9) H (fun s' H' => f s' H' ∧ d s' < d (B3, A9)) z (fun _ _ a b => ⟨a, b⟩)⟩
 unfold c2s
 unfold D8 at h
 refine a8 pLs ?_
 refine f6 h (fun _ h => ?_) (fun _ h => ?_)
 ·obtain ⟨aa, ab, i, j, h⟩ := h
  obtain ⟨ao, ap, ac, j⟩ := j
  refine a8 (P6 ac _ _ _ _ aa ab) (b6 (ldA (vs := (h9 i)) Tryz.isAgg59 Tryz.sizeOf59 rfl (I.atH j)) ?_)
  refine B9 I Tryz.zeroValue59 (cs := [(vi 0), (vi 0), (nS), (nS)]) rfl fun aq ar ad au => ?_
  refine o4 ad Tryz.sizeOf59 (vs := (h9 i)) (cs' := (h9 i)) rfl rfl (nb rfl) rfl rfl fun av m aw => ?_
  refine b6 (lW Tryz.isAgg59 Tryz.sizeOf59 rfl m) ?_
  refine i6 Tryz.call194 h m ?_
  rintro _ ae _ ax af _ _ ⟨o, rfl, rfl, h⟩
  refine a2l (e := 150) (c := z7) (xs := [o]) af (b3o _) rfl rfl U1 a0g (nb rfl) fun ay az ba ag p bb => ?_
  obtain ⟨ah, h⟩ := h
  refine b2I (s := a2x) (xs := B3) (p.bring 2) a6d (ag.srcO ((p.bring 2).bring 1)) ah fun ai aj bc ak al bd => ?_
  refine a8 pAd ?_
  exact hn2 _ _ _ (hm2 _ _ h).2 ⟨((B3 ++ [o]), (IntKind.wrap .i64 (A9 + 1))), ae, ai, aj, rfl, rfl, ak, ((al.bring 1).drop.bring 1).drop, (hm2 _ _ h).1⟩
 ·exact hx1 _ _ (hj1 B3 a2x Fs5l2 H _ a6d I h)
def a5e (x0 : a0N) (H : Hp) (K : Bool → Hp → Prop) : Prop :=
 K ((decide (0 ≤ x0.a1y.A4)) && (decide (x0.a1y.A4 ≤ 2147483647))) H
theorem b1J (x0) {H K} (h : a5e x0 H K) : a7x x0 H K := by
 refine Ct.of fun w0 w ps0 H0 R E I hR => c8J ?_
 unfold a5e at h
 unfold d1K
 refine F0 I (cs := (o7 x0.a1y)) rfl fun c d b e => ?_
 refine a8 b2t (a8 V9 (b6 (l1 Tryz.isAgg3 b rfl) (a8 pGe ?_)))
 refine a8 (Pu.g fun a => by exact b2t) ?_
 refine a8 (Pu.g fun a => by simp only [g7 a]; exact V9) ?_
 refine b6 (Ld.g fun a => by simp only [g7 a]; exact (l1 Tryz.isAgg3 b rfl)) ?_
 refine a8 (Pu.g fun a => by simp only [g7 a]; exact pLe) ?_
 refine a8 (v7 _ _) ?_
 exact hR _ H _ _ b.drop ⟨((decide (0 ≤ x0.a1y.A4)) && (decide (x0.a1y.A4 ≤ 2147483647))), rfl, rfl, h⟩
end Go.Proofs.YtnhkdkcgdcgmdaaGreatDoor
