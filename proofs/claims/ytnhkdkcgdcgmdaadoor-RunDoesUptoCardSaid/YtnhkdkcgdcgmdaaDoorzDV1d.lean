/- Typed formulas of the program's functions, and the theorems that the contracts follow from them; printed by lift.py off the code. -/
import Derived.Test.YtnhkdkcgdcgmdaaDoorzDV1
namespace Go.Proofs.YtnhkdkcgdcgmdaaDoor
open Go.RowKit
set_option maxRecDepth 100000
set_option maxHeartbeats 2000000
variable {w0 w : World} {ps0 : Nat → Prop} {H0 H : Hp} {R : RT} {E : Pan}
def A4 (b4w : Bool) (g4w : Int) (H : Hp) (K : Int → Hp → Prop) : Prop :=
 (b4w = true →
 K 3 H) ∧
 (b4w = false →
 K 6 H)
def K2 (b4x : Bool) (a0v : Int) (H : Hp) (K : Int → Hp → Prop) : Prop :=
 (b4x = true →
 K 6 H) ∧
 (b4x = false →
 D8 48 57 a0v H (fun (Z6 : Bool) (H_6 : Hp) =>
 (Z6 = true →
 K 4 H_6) ∧
 (Z6 = false →
 (a0v = 95 →
 A4 (decide (a0v = 95)) a0v H_6 K) ∧
 (¬ (a0v = 95) →
 D8 97 122 a0v H_6 (fun (O3 : Bool) (Y0 : Hp) =>
 (O3 = true →
 A4 O3 a0v Y0 K) ∧
 (O3 = false →
 D8 65 90 a0v Y0 (fun (b7k : Bool) (c7t : Hp) =>
 (b7k = true →
 A4 b7k a0v c7t K) ∧
 (b7k = false →
 D8 192 591 a0v c7t (fun (b7l : Bool) (c7u : Hp) =>
 (b7l = true →
 A4 b7l a0v c7u K) ∧
 (b7l = false →
 D8 913 969 a0v c7u (fun (a2B : Bool) (a3V : Hp) =>
 (a2B = true →
 A4 a2B a0v a3V K) ∧
 (a2B = false →
 D8 1040 1103 a0v a3V (fun (c7v : Bool) (d3l : Hp) =>
 A4 c7v a0v d3l K)))))))))))))
def j9 (b5O : Int) (b1C : Bool) (a4b : Int) (H : Hp) (K : Int → Hp → Prop) : Prop :=
 (b1C = true →
 K 5 H) ∧
 (b1C = false →
 (b5O = 215 →
 K2 (decide (b5O = 215)) a4b H K) ∧
 (¬ (b5O = 215) →
 (b5O = 247 →
 K2 (decide (b5O = 247)) a4b H K) ∧
 (¬ (b5O = 247) →
 K2 (decide (b5O = 930)) a4b H K)))
def K3 (q8 : Int) (b1w : Bool) (D7 : Int) (H : Hp) (K : Int → Hp → Prop) : Prop :=
 (b1w = true →
 K 1 H) ∧
 (b1w = false →
 (q8 = 10 →
 K 2 H) ∧
 (¬ (q8 = 10) →
 (q8 = 59 →
 j9 q8 (decide (q8 = 59)) D7 H K) ∧
 (¬ (q8 = 59) →
 (q8 = 44 →
 j9 q8 (decide (q8 = 44)) D7 H K) ∧
 (¬ (q8 = 44) →
 (q8 = 123 →
 j9 q8 (decide (q8 = 123)) D7 H K) ∧
 (¬ (q8 = 123) →
 (q8 = 125 →
 j9 q8 (decide (q8 = 125)) D7 H K) ∧
 (¬ (q8 = 125) →
 (q8 = 40 →
 j9 q8 (decide (q8 = 40)) D7 H K) ∧
 (¬ (q8 = 40) →
 (q8 = 41 →
 j9 q8 (decide (q8 = 41)) D7 H K) ∧
 (¬ (q8 = 41) →
 (q8 = 91 →
 j9 q8 (decide (q8 = 91)) D7 H K) ∧
 (¬ (q8 = 91) →
 (q8 = 93 →
 j9 q8 (decide (q8 = 93)) D7 H K) ∧
 (¬ (q8 = 93) →
 (q8 = 61 →
 j9 q8 (decide (q8 = 61)) D7 H K) ∧
 (¬ (q8 = 61) →
 (q8 = 33 →
 j9 q8 (decide (q8 = 33)) D7 H K) ∧
 (¬ (q8 = 33) →
 (q8 = 60 →
 j9 q8 (decide (q8 = 60)) D7 H K) ∧
 (¬ (q8 = 60) →
 (q8 = 62 →
 j9 q8 (decide (q8 = 62)) D7 H K) ∧
 (¬ (q8 = 62) →
 (q8 = 43 →
 j9 q8 (decide (q8 = 43)) D7 H K) ∧
 (¬ (q8 = 43) →
 (q8 = 45 →
 j9 q8 (decide (q8 = 45)) D7 H K) ∧
 (¬ (q8 = 45) →
 (q8 = 42 →
 j9 q8 (decide (q8 = 42)) D7 H K) ∧
 (¬ (q8 = 42) →
 (q8 = 47 →
 j9 q8 (decide (q8 = 47)) D7 H K) ∧
 (¬ (q8 = 47) →
 (q8 = 37 →
 j9 q8 (decide (q8 = 37)) D7 H K) ∧
 (¬ (q8 = 37) →
 (q8 = 38 →
 j9 q8 (decide (q8 = 38)) D7 H K) ∧
 (¬ (q8 = 38) →
 j9 q8 (decide (q8 = 124)) D7 H K))))))))))))))))))))
def a0Z (x0 : Int) (H : Hp) (K : Int → Hp → Prop) : Prop :=
 (x0 = 32 →
 K3 x0 (decide (x0 = 32)) x0 H K) ∧
 (¬ (x0 = 32) →
 (x0 = 9 →
 K3 x0 (decide (x0 = 9)) x0 H K) ∧
 (¬ (x0 = 9) →
 K3 x0 (decide (x0 = 13)) x0 H K))
theorem b1D (x0 : Int) {K : Int → Hp → Prop} (I : Inv w0 ps0 H0 H [] w) (hR : ∀ (r0 : Int) (H' : Hp) (w' : World) (_ : Inv w0 ps0 H0 H' [] w') (_ : K r0 H'), R (vi r0) w') (h : a0Z x0 H K) : c6J (Value.int .i32 x0) w R E := by
 unfold a0Z at h
 unfold c6J
 refine M1 I (cs := [(Value.int .i32 x0)]) rfl fun g_2 w_3 I_4 k_5 => ?_
 refine b8 (ld1 Tryd.isAgg21 (I_4.at1 (o := 0) (vs := [(Value.int .i32 x0)]) (nb rfl) rfl)) ?_
 have hj1 : ∀ (b1w : Bool) (H : Hp) (w : World) (_ : Inv w0 ps0 H0 H [bx g_2 21 [(Value.int .i32 x0)]] w) (_ : K3 x0 b1w x0 H K), b8R (Value.pointer (some ⟨g_2, 0, none⟩)) (Value.int .i32 x0) (vB b1w) w R E := by
  intro b1w H w I h
  unfold b8R
  intro _
  unfold K3 at h
  refine o4 (fun d3m => ?_) (fun d3m => ?_)
  ·replace h := h.1 d3m
   exact hR 1 H _ I.drop h
  ·replace h := h.2 d3m
   refine a7 (i5 _ _ _ _ _ _) ?_
   refine h9 (fun d3n => ?_) (fun d3n => ?_)
   ·replace h := h.1 d3n
    exact hR 2 H _ I.drop h
   ·replace h := h.2 d3n
    have hj2 : ∀ (b1C : Bool) (H : Hp) (w : World) (_ : Inv w0 ps0 H0 H [bx g_2 21 [(Value.int .i32 x0)]] w) (_ : j9 x0 b1C x0 H K), b8Q (Value.pointer (some ⟨g_2, 0, none⟩)) (Value.int .i32 x0) (vB b1C) w R E := by
     intro b1C H w I h
     unfold b8Q
     intro _
     unfold j9 at h
     refine o4 (fun d3o => ?_) (fun d3o => ?_)
     ·replace h := h.1 d3o
      exact hR 5 H _ I.drop h
     ·replace h := h.2 d3o
      have hj3 : ∀ (b4x : Bool) (H : Hp) (w : World) (_ : Inv w0 ps0 H0 H [bx g_2 21 [(Value.int .i32 x0)]] w) (_ : K2 b4x x0 H K), b8P (Value.pointer (some ⟨g_2, 0, none⟩)) (vB b4x) w R E := by
       intro b4x H w I h
       unfold b8P
       intro _
       unfold K2 at h
       refine o4 (fun b5P => ?_) (fun b5P => ?_)
       ·replace h := h.1 b5P
        exact hR 6 H _ I.drop h
       ·replace h := h.2 b5P
        refine a7 (a9q _ _ _) ?_
        refine b9 (cap := [(Value.pointer (some ⟨g_2, 0, none⟩))]) (fun args w => Tryd.call151 args w) ?_
        refine m2 (Fi := [bx g_2 21 [(Value.int .i32 x0)]]) (Fr := []) I (h g_2) (fun c7m H_6 c7n w_7 I_8 c7o k_9 b1v => ?_) (fun _ _ _ _ _ q => q.elim)
        obtain ⟨Z6, rfl, rfl, h⟩ := b1v
        refine o4 (fun d3p => ?_) (fun d3p => ?_)
        ·replace h := h.1 d3p
         exact hR 4 H_6 _ I_8.drop h
        ·replace h := h.2 d3p
         have hj4 : ∀ (b4w : Bool) (H : Hp) (w : World) (_ : Inv w0 ps0 H0 H [bx g_2 21 [(Value.int .i32 x0)]] w) (_ : A4 b4w x0 H K), b8O (vB b4w) w R E := by
          intro b4w H w I h
          unfold b8O
          intro _
          unfold A4 at h
          refine o4 (fun a4A => ?_) (fun a4A => ?_)
          ·replace h := h.1 a4A
           exact hR 3 H _ I.drop h
          ·replace h := h.2 a4A
           exact hR 6 H _ I.drop h
         refine z7 fun j4 hx4 => ?_
         refine b8 (ld1 Tryd.isAgg21 (I_8.at1 (o := 0) (vs := [(Value.int .i32 x0)]) (nb rfl) rfl)) ?_
         refine a7 (i5 _ _ _ _ _ _) ?_
         refine h9 (fun d3q => ?_) (fun d3q => ?_)
         ·replace h := h.1 d3q
          exact hx4 _ _ (hj4 (decide (x0 = 95)) H_6 _ I_8 h)
         ·replace h := h.2 d3q
          refine b9 (cap := [(Value.pointer (some ⟨g_2, 0, none⟩))]) (fun args w => Tryd.call151 args w) ?_
          refine m2 (Fi := [bx g_2 21 [(Value.int .i32 x0)]]) (Fr := []) I_8 (h g_2) (fun c7h Y0 b1l a1Y a4x b9j c7i b1m => ?_) (fun _ _ _ _ _ q => q.elim)
          obtain ⟨O3, rfl, rfl, h⟩ := b1m
          refine o4 (fun d3r => ?_) (fun d3r => ?_)
          ·replace h := h.1 d3r
           exact hx4 _ _ (hj4 O3 Y0 _ a4x h)
          ·replace h := h.2 d3r
           refine b9 (cap := [(Value.pointer (some ⟨g_2, 0, none⟩))]) (fun args w => Tryd.call151 args w) ?_
           refine m2 (Fi := [bx g_2 21 [(Value.int .i32 x0)]]) (Fr := []) a4x (h g_2) (fun g6w c7t g6x z8 b5Q e8C g1Z g2a => ?_) (fun _ _ _ _ _ q => q.elim)
           obtain ⟨b7k, rfl, rfl, h⟩ := g2a
           refine o4 (fun d3s => ?_) (fun d3s => ?_)
           ·replace h := h.1 d3s
            exact hx4 _ _ (hj4 b7k c7t _ b5Q h)
           ·replace h := h.2 d3s
            refine b9 (cap := [(Value.pointer (some ⟨g_2, 0, none⟩))]) (fun args w => Tryd.call151 args w) ?_
            refine m2 (Fi := [bx g_2 21 [(Value.int .i32 x0)]]) (Fr := []) b5Q (h g_2) (fun g6y c7u g6z a9E a6D b3e c7k g2c => ?_) (fun _ _ _ _ _ q => q.elim)
            obtain ⟨b7l, rfl, rfl, h⟩ := g2c
            refine o4 (fun d3t => ?_) (fun d3t => ?_)
            ·replace h := h.1 d3t
             exact hx4 _ _ (hj4 b7l c7u _ a6D h)
            ·replace h := h.2 d3t
             refine b9 (cap := [(Value.pointer (some ⟨g_2, 0, none⟩))]) (fun args w => Tryd.call151 args w) ?_
             refine m2 (Fi := [bx g_2 21 [(Value.int .i32 x0)]]) (Fr := []) a6D (h g_2) (fun g2d a3V g2e E7 b9n g2f g2g d3u => ?_) (fun _ _ _ _ _ q => q.elim)
             obtain ⟨a2B, rfl, rfl, h⟩ := d3u
             refine o4 (fun d3v => ?_) (fun d3v => ?_)
             ·replace h := h.1 d3v
              exact hx4 _ _ (hj4 a2B a3V _ b9n h)
             ·replace h := h.2 d3v
              refine b9 (cap := [(Value.pointer (some ⟨g_2, 0, none⟩))]) (fun args w => Tryd.call151 args w) ?_
              refine m2 (Fi := [bx g_2 21 [(Value.int .i32 x0)]]) (Fr := []) b9n (h g_2) (fun g6A d3l g6B g6C g2h g6D g6E g2i => ?_) (fun _ _ _ _ _ q => q.elim)
              obtain ⟨c7v, rfl, rfl, h⟩ := g2i
              exact hx4 _ _ (hj4 c7v d3l _ g2h h)
      refine z7 fun j3 hx3 => ?_
      refine a7 (i5 _ _ _ _ _ _) ?_
      refine h9 (fun b5R => ?_) (fun b5R => ?_)
      ·replace h := h.1 b5R
       exact hx3 _ _ (hj3 (decide (x0 = 215)) H _ I h)
      ·replace h := h.2 b5R
       refine a7 (i5 _ _ _ _ _ _) ?_
       refine h9 (fun a7S => ?_) (fun a7S => ?_)
       ·replace h := h.1 a7S
        exact hx3 _ _ (hj3 (decide (x0 = 247)) H _ I h)
       ·replace h := h.2 a7S
        refine a7 (i5 _ _ _ _ _ _) ?_
        exact hx3 _ _ (hj3 (decide (x0 = 930)) H _ I h)
    refine z7 fun j2 hx2 => ?_
    refine a7 (i5 _ _ _ _ _ _) ?_
    refine h9 (fun d3w => ?_) (fun d3w => ?_)
    ·replace h := h.1 d3w
     exact hx2 _ _ (hj2 (decide (x0 = 59)) H _ I h)
    ·replace h := h.2 d3w
     refine a7 (i5 _ _ _ _ _ _) ?_
     refine h9 (fun a7T => ?_) (fun a7T => ?_)
     ·replace h := h.1 a7T
      exact hx2 _ _ (hj2 (decide (x0 = 44)) H _ I h)
     ·replace h := h.2 a7T
      refine a7 (i5 _ _ _ _ _ _) ?_
      refine h9 (fun b5M => ?_) (fun b5M => ?_)
      ·replace h := h.1 b5M
       exact hx2 _ _ (hj2 (decide (x0 = 123)) H _ I h)
      ·replace h := h.2 b5M
       refine a7 (i5 _ _ _ _ _ _) ?_
       refine h9 (fun d3x => ?_) (fun d3x => ?_)
       ·replace h := h.1 d3x
        exact hx2 _ _ (hj2 (decide (x0 = 125)) H _ I h)
       ·replace h := h.2 d3x
        refine a7 (i5 _ _ _ _ _ _) ?_
        refine h9 (fun d3y => ?_) (fun d3y => ?_)
        ·replace h := h.1 d3y
         exact hx2 _ _ (hj2 (decide (x0 = 40)) H _ I h)
        ·replace h := h.2 d3y
         refine a7 (i5 _ _ _ _ _ _) ?_
         refine h9 (fun d3z => ?_) (fun d3z => ?_)
         ·replace h := h.1 d3z
          exact hx2 _ _ (hj2 (decide (x0 = 41)) H _ I h)
         ·replace h := h.2 d3z
          refine a7 (i5 _ _ _ _ _ _) ?_
          refine h9 (fun b5S => ?_) (fun b5S => ?_)
          ·replace h := h.1 b5S
           exact hx2 _ _ (hj2 (decide (x0 = 91)) H _ I h)
          ·replace h := h.2 b5S
           refine a7 (i5 _ _ _ _ _ _) ?_
           refine h9 (fun b5N => ?_) (fun b5N => ?_)
           ·replace h := h.1 b5N
            exact hx2 _ _ (hj2 (decide (x0 = 93)) H _ I h)
           ·replace h := h.2 b5N
            refine a7 (i5 _ _ _ _ _ _) ?_
            refine h9 (fun d3A => ?_) (fun d3A => ?_)
            ·replace h := h.1 d3A
             exact hx2 _ _ (hj2 (decide (x0 = 61)) H _ I h)
            ·replace h := h.2 d3A
             refine a7 (i5 _ _ _ _ _ _) ?_
             refine h9 (fun d3B => ?_) (fun d3B => ?_)
             ·replace h := h.1 d3B
              exact hx2 _ _ (hj2 (decide (x0 = 33)) H _ I h)
             ·replace h := h.2 d3B
              refine a7 (i5 _ _ _ _ _ _) ?_
              refine h9 (fun d3C => ?_) (fun d3C => ?_)
              ·replace h := h.1 d3C
               exact hx2 _ _ (hj2 (decide (x0 = 60)) H _ I h)
              ·replace h := h.2 d3C
               refine a7 (i5 _ _ _ _ _ _) ?_
               refine h9 (fun d3D => ?_) (fun d3D => ?_)
               ·replace h := h.1 d3D
                exact hx2 _ _ (hj2 (decide (x0 = 62)) H _ I h)
               ·replace h := h.2 d3D
                refine a7 (i5 _ _ _ _ _ _) ?_
                refine h9 (fun d3E => ?_) (fun d3E => ?_)
                ·replace h := h.1 d3E
                 exact hx2 _ _ (hj2 (decide (x0 = 43)) H _ I h)
                ·replace h := h.2 d3E
                 refine a7 (i5 _ _ _ _ _ _) ?_
                 refine h9 (fun b5T => ?_) (fun b5T => ?_)
                 ·replace h := h.1 b5T
                  exact hx2 _ _ (hj2 (decide (x0 = 45)) H _ I h)
                 ·replace h := h.2 b5T
                  refine a7 (i5 _ _ _ _ _ _) ?_
                  refine h9 (fun b5U => ?_) (fun b5U => ?_)
                  ·replace h := h.1 b5U
                   exact hx2 _ _ (hj2 (decide (x0 = 42)) H _ I h)
                  ·replace h := h.2 b5U
                   refine a7 (i5 _ _ _ _ _ _) ?_
                   refine h9 (fun d3F => ?_) (fun d3F => ?_)
                   ·replace h := h.1 d3F
                    exact hx2 _ _ (hj2 (decide (x0 = 47)) H _ I h)
                   ·replace h := h.2 d3F
                    refine a7 (i5 _ _ _ _ _ _) ?_
                    refine h9 (fun d3G => ?_) (fun d3G => ?_)
                    ·replace h := h.1 d3G
                     exact hx2 _ _ (hj2 (decide (x0 = 37)) H _ I h)
                    ·replace h := h.2 d3G
                     refine a7 (i5 _ _ _ _ _ _) ?_
                     refine h9 (fun b5V => ?_) (fun b5V => ?_)
                     ·replace h := h.1 b5V
                      exact hx2 _ _ (hj2 (decide (x0 = 38)) H _ I h)
                     ·replace h := h.2 b5V
                      refine a7 (i5 _ _ _ _ _ _) ?_
                      exact hx2 _ _ (hj2 (decide (x0 = 124)) H _ I h)
 refine z7 fun j1 hx1 => ?_
 refine a7 (i5 _ _ _ _ _ _) ?_
 refine h9 (fun d3H => ?_) (fun d3H => ?_)
 ·replace h := h.1 d3H
  exact hx1 _ _ (hj1 (decide (x0 = 32)) H _ I_4 h)
 ·replace h := h.2 d3H
  refine a7 (i5 _ _ _ _ _ _) ?_
  refine h9 (fun d3I => ?_) (fun d3I => ?_)
  ·replace h := h.1 d3I
   exact hx1 _ _ (hj1 (decide (x0 = 9)) H _ I_4 h)
  ·replace h := h.2 d3I
   refine a7 (i5 _ _ _ _ _ _) ?_
   exact hx1 _ _ (hj1 (decide (x0 = 13)) H _ I_4 h)
theorem b2n (x0 : Int) {H : Hp} {K : Int → Hp → Prop} (h : a0Z x0 H K) : a0W x0 H K := by
 intro w I
 refine d8Y ?_
 refine b1D x0 I (fun r0 H' w' I' hk => ⟨H', _, I', r0, rfl, rfl, hk⟩) h
def a1b (x0 : Int) (H : Hp) (K : Bool → Hp → Prop) : Prop :=
 a0W x0 H (fun (C0 : Int) (H_1 : Hp) =>
 K ((decide (C0 = 3)) || (decide (C0 = 4))) H_1)
theorem b1E (x0 : Int) {K : Bool → Hp → Prop} (I : Inv w0 ps0 H0 H [] w) (hR : ∀ (r0 : Bool) (H' : Hp) (w' : World) (_ : Inv w0 ps0 H0 H' [] w') (_ : K r0 H'), R (vB r0) w') (h : a1b x0 H K) : c6I (Value.int .i32 x0) w R E := by
 unfold a1b at h
 unfold c6I
 refine b9 (cap := []) (fun args w => Tryd.call141 args w) ?_
 refine m2 (Fi := []) (Fr := []) I (h) (fun v_5 H_1 F_6 w_2 I_3 l_8 k_4 q_7 => ?_) (fun _ _ _ _ _ q => q.elim)
 obtain ⟨C0, rfl, rfl, h⟩ := q_7
 refine a7 (i5 _ _ _ _ _ _) ?_
 simp only [L6]
 refine a7 (Pu.g fun hb => by have f8 := hb; simp only [m9 f8]; exact (i5 _ _ _ _ _ _)) ?_
 refine a7 (a0g _ _) ?_
 exact hR ((decide (C0 = 3)) || (decide (C0 = 4))) H_1 _ I_3 h
theorem b2o (x0 : Int) {H : Hp} {K : Bool → Hp → Prop} (h : a1b x0 H K) : a2W x0 H K := by
 intro w I
 refine d8W ?_
 refine b1E x0 I (fun r0 H' w' I' hk => ⟨H', _, I', r0, rfl, rfl, hk⟩) h
def N4 (H : Hp) (K : Int → Hp → Prop) : Prop :=
 K (-1) H
def N5 (f8i : (List ByteArray)) (c2O : ByteArray) (a4E : Int) (a0m : Int) (H : Hp) (n2 : Int → Hp → Prop) (K : Int → Hp → Prop) : Prop :=
 (a0m < a4E →
 (0 : Int) ≤ a0m ∧ ∃ x_1 : ByteArray, (f8i)[(a0m : Int).toNat]? = some x_1 ∧
 (c2O = x_1 →
 K a0m H) ∧
 (¬ (c2O = x_1) →
 n2 (IntKind.wrap .i64 (a0m + 1)) H)) ∧
 (¬ (a0m < a4E) →
 N4 H K)
def Q1 (x0 : (List ByteArray)) (x1 : ByteArray) (H : Hp) (K : Int → Hp → Prop) : Prop :=
 TL (0 : Int) H fun (s : Int) H n2 => N5 x0 x1 (x0.length : Int) s H n2 K
theorem a5w (x0 : (List ByteArray)) (x1 : ByteArray) (sx0 : Sl) (Fx0 : Frag) (hx0 : RowL 9 1 B6 sx0 x0 Fx0) {K : Int → Hp → Prop} (I : Inv w0 ps0 H0 H [Fx0] w) (hR : ∀ (r0 : Int) (H' : Hp) (w' : World) (_ : Inv w0 ps0 H0 H' [Fx0] w') (_ : K r0 H'), R (vi r0) w') (h : Q1 x0 x1 H K) : c6K (vs sx0) (Value.string x1) w R E := by
 unfold Q1 at h
 unfold c6K
 have hj1 : ∀ (H : Hp) (w : World) (_ : Inv w0 ps0 H0 H [Fx0] w) (_ : N4 H K), b8S w R E := by
  intro H w I h
  unfold b8S
  intro _
  unfold N4 at h
  exact hR (-1) H _ I h
 refine z7 fun j1 hx1 => ?_
 refine a7 (b6I Tryd.underlying104 hx0) ?_
 obtain ⟨d3J, c2Y, g2j, g2k⟩ := h
 refine K8 (J := fun n l w => ∃ (s : Int) (H : Hp) , n = c2Y s ∧ l = [(vi s)] ∧ Inv w0 ps0 H0 H [Fx0] w ∧ d3J s H) ⟨_, 0, H, rfl, rfl, I, g2j⟩ ?_
 rintro g6F τ_15 w next2 ⟨a0m, H, rfl, d3K, I, a0U⟩ hn2
 simp only [List.map_cons, List.map_nil, List.cons.injEq, and_true] at d3K
 have e8 := d3K
 simp only [e8]
 obtain ⟨n2, hm2, h⟩ : ∃ n2 : Int → Hp → Prop, (∀ s' H', n2 s' H' → d3J s' H' ∧ c2Y s' < c2Y a0m) ∧ N5 x0 x1 (x0.length : Int) a0m H n2 K := ⟨_, fun _ _ h => h, g2k a0m H (fun s' H' => d3J s' H' ∧ c2Y s' < c2Y a0m) a0U (fun _ _ a b => ⟨a, b⟩)⟩
 unfold c5E
 unfold N5 at h
 refine a7 (B8 _ _ _ _ _ _) ?_
 refine h9 (fun c_9 => ?_) (fun c_9 => ?_)
 ·replace h := h.1 c_9
  obtain ⟨h_3, x_1, h_4, h⟩ := h
  obtain ⟨g_2, a_6, h_5, h_7⟩ := hx0.addr h_4
  refine a7 (c9H h_5 _ _ _ _ h_3 (hx0.lt h_3 h_4)) ?_
  refine b8 (ld1 (v := (Value.string x_1)) Tryd.isAgg9 (hx0.atW I h_5 h_4)) ?_
  refine a7 (a0t _ _ _ _ _) ?_
  refine h9 (fun c_8 => ?_) (fun c_8 => ?_)
  ·replace h := h.1 c_8
   exact hR a0m H _ I h
  ·replace h := h.2 c_8
   refine a7 (E9 _ _ _ _ _ _) ?_
   exact hn2 _ _ _ (hm2 _ _ h).2 ⟨(IntKind.wrap .i64 (a0m + 1)), H, rfl, rfl, I, (hm2 _ _ h).1⟩
 ·replace h := h.2 c_9
  exact hx1 _ _ (hj1 H _ I h)
theorem a5R (x0 : (List ByteArray)) (x1 : ByteArray) {H : Hp} {K : Int → Hp → Prop} (h : Q1 x0 x1 H K) : X7 x0 x1 H K := by
 intro sx0 Fx0 hx0 w I
 refine d9a ?_
 refine a5w x0 x1 sx0 Fx0 hx0 I (fun r0 H' w' I' hk => ⟨H', _, I', r0, rfl, rfl, hk⟩) h
def N6 (x0 : (List ByteArray)) (x1 : ByteArray) (H : Hp) (K : Bool → Hp → Prop) : Prop :=
 X7 x0 x1 H (fun (C0 : Int) (H_1 : Hp) =>
 K (decide (0 ≤ C0)) H_1)
theorem a4F (x0 : (List ByteArray)) (x1 : ByteArray) (sx0 : Sl) (Fx0 : Frag) (hx0 : RowL 9 1 B6 sx0 x0 Fx0) {K : Bool → Hp → Prop} (I : Inv w0 ps0 H0 H [Fx0] w) (hR : ∀ (r0 : Bool) (H' : Hp) (w' : World) (_ : Inv w0 ps0 H0 H' [Fx0] w') (_ : K r0 H'), R (vB r0) w') (h : N6 x0 x1 H K) : c6F (vs sx0) (Value.string x1) w R E := by
 unfold N6 at h
 unfold c6F
 refine b9 (cap := []) (fun args w => Tryd.call142 args w) ?_
 refine m2 (Fi := [Fx0]) (Fr := []) I (h sx0 Fx0 hx0) (fun v_5 H_1 F_6 w_2 I_3 l_8 k_4 q_7 => ?_) (fun _ _ _ _ _ q => q.elim)
 obtain ⟨C0, rfl, rfl, h⟩ := q_7
 refine a7 (a9S _ _ _ _ _ _) ?_
 exact hR (decide (0 ≤ C0)) H_1 _ I_3 h
theorem a4T (x0 : (List ByteArray)) (x1 : ByteArray) {H : Hp} {K : Bool → Hp → Prop} (h : N6 x0 x1 H K) : G4 x0 x1 H K := by
 intro sx0 Fx0 hx0 w I
 refine d8Q ?_
 refine a4F x0 x1 sx0 Fx0 hx0 I (fun r0 H' w' I' hk => ⟨H', _, I', r0, rfl, rfl, hk⟩) h
def r6 (a7p : Int) (a7q : Int) (a7r : Int) (a7s : Bool) (a7t : Bool) (a5S : (List ByteArray)) (H : Hp) (K : Bool → g7 → (List ByteArray) → Hp → Prop) : Prop :=
 K true (g7.mk a7p a7q a7r a7s a7t (Sl.mk none 0 0)) a5S H
def S4 (x0 : g7) (S8 : (List ByteArray)) (x1 : a8) (x2 : Int) (H : Hp) (K : Bool → g7 → (List ByteArray) → Hp → Prop) : Prop :=
 (4096 < (IntKind.wrap .i64 (x0.fnodes + 1)) →
 K false (g7.mk (IntKind.wrap .i64 (x0.fnodes + 1)) x0.fdepth 33 x0.fform x0.fnamed (Sl.mk none 0 0)) S8 H) ∧
 (¬ (4096 < (IntKind.wrap .i64 (x0.fnodes + 1))) →
 (64 < x2 →
 K false (g7.mk (IntKind.wrap .i64 (x0.fnodes + 1)) x0.fdepth 32 x0.fform x0.fnamed (Sl.mk none 0 0)) S8 H) ∧
 (¬ (64 < x2) →
 TG (x0.fform = false) (a2x x1 H) false H (fun (A6 : Bool) (b3m : Hp) =>
 a0f x1 b3m (fun (a1P : ByteArray) (b1F : Bool) (a8l : Hp) =>
 (b1F = true →
 TG (x0.fnamed = false) (a1J a1P a8l) false a8l (fun (a1d : Bool) (a9F : Hp) =>
 G4 S8 a1P a9F (fun (a2B : Bool) (a3V : Hp) =>
 ((!a2B) = true →
 (S8.length + ([a1P] : List ByteArray).length) * 17 ≤ 140737488355328 ∧
 r6 (IntKind.wrap .i64 (x0.fnodes + 1)) (if x2 > x0.fdepth then x2 else x0.fdepth) x0.fe (x0.fform || (!A6)) (x0.fnamed || (!a1d)) (S8 ++ [a1P]) a3V K) ∧
 ((!a2B) = false →
 r6 (IntKind.wrap .i64 (x0.fnodes + 1)) (if x2 > x0.fdepth then x2 else x0.fdepth) x0.fe (x0.fform || (!A6)) (x0.fnamed || (!a1d)) S8 a3V K)))) ∧
 (b1F = false →
 r6 (IntKind.wrap .i64 (x0.fnodes + 1)) (if x2 > x0.fdepth then x2 else x0.fdepth) x0.fe (x0.fform || (!A6)) x0.fnamed S8 a8l K)))))
theorem a6s (x0 : g7) (S8 : (List ByteArray)) (x1 : a8) (x2 : Int) (g0 : Nat) (Q9 : Sl) (a1w : Frag) (a9h : RowL 9 1 B6 Q9 S8 a1w) {K : Bool → g7 → (List ByteArray) → Hp → Prop} (I : Inv w0 ps0 H0 H [bx g0 106 [(vi x0.fnodes), (vi x0.fdepth), (vi x0.fe), (vB x0.fform), (vB x0.fnamed), (vs Q9)], a1w] w) (hR : ∀ (r0 : Bool) (y0 : g7) (a4r : (List ByteArray)) (a2t : Sl) (a2u : Frag) (H' : Hp) (w' : World) (_ : RowL 9 1 B6 a2t a4r a2u) (_ : Inv w0 ps0 H0 H' [bx g0 106 [(vi y0.fnodes), (vi y0.fdepth), (vi y0.fe), (vB y0.fform), (vB y0.fnamed), (vs a2t)], a2u] w') (_ : K r0 y0 a4r H'), R (vB r0) w') (h : S4 x0 S8 x1 x2 H K) : c6C (Value.pointer (some ⟨g0, 0, none⟩)) (r9 x1) (vi x2) w R E := by
 unfold S4 at h
 unfold c6C
 refine a7 (o3 _) ?_
 refine a7 a9r ?_
 refine b8 (ld1 Tryd.isAgg3 (I.at1 (o := 0) (vs := [(vi x0.fnodes)]) (nb rfl) rfl)) ?_
 refine a7 (E9 _ _ _ _ _ _) ?_
 refine a7 (o3 _) ?_
 refine a7 a9r ?_
 refine m5 I Tryd.sizeOf3 (vs := [(vi (IntKind.wrap .i64 (x0.fnodes + 1)))]) (cs' := [(vi (IntKind.wrap .i64 (x0.fnodes + 1))), (vi x0.fdepth), (vi x0.fe), (vB x0.fform), (vB x0.fnamed), (vs Q9)]) rfl rfl (nb rfl) rfl rfl fun w_1 I_2 k_3 => ?_
 refine a7 (o3 _) ?_
 refine a7 a9r ?_
 refine b8 (ld1 Tryd.isAgg3 (I_2.at1 (o := 0) (vs := [(vi (IntKind.wrap .i64 (x0.fnodes + 1)))]) (nb rfl) rfl)) ?_
 refine a7 (a1q _ _ _ _ _ _) ?_
 refine h9 (fun b5T => ?_) (fun b5T => ?_)
 ·replace h := h.1 b5T
  refine a7 (o3 _) ?_
  refine a7 a3Z ?_
  refine m5 I_2 Tryd.sizeOf29 (vs := [(vi 33)]) (cs' := [(vi (IntKind.wrap .i64 (x0.fnodes + 1))), (vi x0.fdepth), (vi 33), (vB x0.fform), (vB x0.fnamed), (vs Q9)]) rfl rfl (nb rfl) rfl rfl fun w_4 I_5 k_6 => ?_
  exact hR false (g7.mk (IntKind.wrap .i64 (x0.fnodes + 1)) x0.fdepth 33 x0.fform x0.fnamed (Sl.mk none 0 0)) S8 Q9 a1w H _ a9h ((I_5.bring 1).bring 1) h
 ·replace h := h.2 b5T
  refine a7 (a1q _ _ _ _ _ _) ?_
  refine h9 (fun b5U => ?_) (fun b5U => ?_)
  ·replace h := h.1 b5U
   refine a7 (o3 _) ?_
   refine a7 a3Z ?_
   refine m5 I_2 Tryd.sizeOf29 (vs := [(vi 32)]) (cs' := [(vi (IntKind.wrap .i64 (x0.fnodes + 1))), (vi x0.fdepth), (vi 32), (vB x0.fform), (vB x0.fnamed), (vs Q9)]) rfl rfl (nb rfl) rfl rfl fun w_7 I_8 k_9 => ?_
   exact hR false (g7.mk (IntKind.wrap .i64 (x0.fnodes + 1)) x0.fdepth 32 x0.fform x0.fnamed (Sl.mk none 0 0)) S8 Q9 a1w H _ a9h ((I_8.bring 1).bring 1) h
  ·replace h := h.2 b5U
   refine a7 (o3 _) ?_
   refine a7 b5h ?_
   refine b8 (ld1 Tryd.isAgg3 (I_2.at1 (o := 1) (vs := [(vi x0.fdepth)]) (nb rfl) rfl)) ?_
   refine a7 (e3T _ _ _ _ _) ?_
   refine a7 (o3 _) ?_
   refine a7 b5h ?_
   refine m5 I_2 Tryd.sizeOf3 (vs := [(vi (if x2 > x0.fdepth then x2 else x0.fdepth))]) (cs' := [(vi (IntKind.wrap .i64 (x0.fnodes + 1))), (vi (if x2 > x0.fdepth then x2 else x0.fdepth)), (vi x0.fe), (vB x0.fform), (vB x0.fnamed), (vs Q9)]) rfl rfl (nb rfl) rfl rfl fun m4 a3i b5F => ?_
   refine a7 (o3 _) ?_
   refine a7 a9t ?_
   refine b8 (ld1 Tryd.isAgg4 (a3i.at1 (o := 3) (vs := [(vB x0.fform)]) (nb rfl) rfl)) ?_
   simp only [L6]
   refine a6k (D := fun d2P m8 => ∃ (A6 : Bool) (b3m : Hp), d2P = (gv x0.fform false (vB A6)) ∧ (Inv w0 ps0 H0 b3m [bx g0 106 [(vi (IntKind.wrap .i64 (x0.fnodes + 1))), (vi (if x2 > x0.fdepth then x2 else x0.fdepth)), (vi x0.fe), (vB x0.fform), (vB x0.fnamed), (vs Q9)], a1w] m8) ∧ (∀ i, i < m4.heap.size → ¬ inF [] i → m8.heap[i]? = m4.heap[i]?) ∧ Hle H b3m ∧ (a0f x1 b3m (fun (a1P : ByteArray) (b1F : Bool) (a8l : Hp) =>
 (b1F = true →
 TG (x0.fnamed = false) (a1J a1P a8l) false a8l (fun (a1d : Bool) (a9F : Hp) =>
 G4 S8 a1P a9F (fun (a2B : Bool) (a3V : Hp) =>
 ((!a2B) = true →
 (S8.length + ([a1P] : List ByteArray).length) * 17 ≤ 140737488355328 ∧
 r6 (IntKind.wrap .i64 (x0.fnodes + 1)) (if x2 > x0.fdepth then x2 else x0.fdepth) x0.fe (x0.fform || (!A6)) (x0.fnamed || (!a1d)) (S8 ++ [a1P]) a3V K) ∧
 ((!a2B) = false →
 r6 (IntKind.wrap .i64 (x0.fnodes + 1)) (if x2 > x0.fdepth then x2 else x0.fdepth) x0.fe (x0.fform || (!A6)) (x0.fnamed || (!a1d)) S8 a3V K)))) ∧
 (b1F = false →
 r6 (IntKind.wrap .i64 (x0.fnodes + 1)) (if x2 > x0.fdepth then x2 else x0.fdepth) x0.fe (x0.fform || (!A6)) x0.fnamed S8 a8l K)))) (fun c2Z => ?_) (fun c2Z => ?_) ?_
   ·replace h := h.1 c2Z
    have f8 := c2Z
    simp only [m9 f8]
    refine b0a a3i h (fun A6 b3m m8 c2u b5A d2K h => ?_)
    exact ⟨A6, b3m, by rfl, c2u, d2K, b5A, h⟩
   ·exact ⟨false, H, by rw [b0G c2Z], a3i, fun _ _ _ => rfl, Hle.refl _, h.2 c2Z⟩
   ·clear h
    rintro d2P m8 ⟨A6, b3m, rfl, c2u, d2K, b5A, h⟩
    refine a7 (Pu.g fun hb => by have f8 := hb; simp only [m9 f8]; exact (a0s _)) ?_
    refine a7 (a0g _ _) ?_
    refine a7 (o3 _) ?_
    refine a7 a9t ?_
    refine m5 c2u Tryd.sizeOf4 (vs := [(vB (x0.fform || (!A6)))]) (cs' := [(vi (IntKind.wrap .i64 (x0.fnodes + 1))), (vi (if x2 > x0.fdepth then x2 else x0.fdepth)), (vi x0.fe), (vB (x0.fform || (!A6))), (vB x0.fnamed), (vs Q9)]) rfl rfl (nb rfl) rfl rfl fun a2T c7f g1G => ?_
    have hj1 : ∀ (a7p : Int) (a7q : Int) (a7r : Int) (a7s : Bool) (a7t : Bool) (a5S : (List ByteArray)) (b1G : Sl) (b1H : Frag) (H : Hp) (w : World) (_ : RowL 9 1 B6 b1G a5S b1H) (_ : Inv w0 ps0 H0 H [bx g0 106 [(vi a7p), (vi a7q), (vi a7r), (vB a7s), (vB a7t), (vs b1G)], b1H] w) (_ : r6 a7p a7q a7r a7s a7t a5S H K), b8F w R E := by
     intro a7p a7q a7r a7s a7t a5S b1G b1H H w d3L I h
     unfold b8F
     intro _
     unfold r6 at h
     exact hR true (g7.mk a7p a7q a7r a7s a7t (Sl.mk none 0 0)) a5S b1G b1H H _ d3L ((I.bring 1).bring 1) h
    refine z7 fun j1 hx1 => ?_
    refine b9 (cap := []) (fun args w => Tryd.call118 args w) ?_
    refine m2 (Fi := []) (Fr := [bx g0 106 [(vi (IntKind.wrap .i64 (x0.fnodes + 1))), (vi (if x2 > x0.fdepth then x2 else x0.fdepth)), (vi x0.fe), (vB (x0.fform || (!A6))), (vB x0.fnamed), (vs Q9)], a1w]) c7f (h) (fun g6G a8l b9k a3d b1I g6H e8D g2l => ?_) (fun _ _ _ _ _ q => q.elim)
    obtain ⟨a1P, b1F, rfl, rfl, h⟩ := g2l
    refine a7 (j7 _ _ (Value.string a1P) rfl) ?_
    refine a7 (j7 _ _ (vB b1F) rfl) ?_
    refine o4 (fun b5V => ?_) (fun b5V => ?_)
    ·replace h := h.1 b5V
     refine a7 (o3 _) ?_
     refine a7 a9u ?_
     refine b8 (ld1 Tryd.isAgg4 (b1I.at1 (o := 4) (vs := [(vB x0.fnamed)]) (nb rfl) rfl)) ?_
     simp only [L6]
     refine a6k (D := fun d3M B4 => ∃ (a1d : Bool) (a9F : Hp) , d3M = (gv x0.fnamed false (vB a1d)) ∧ (Inv w0 ps0 H0 a9F [bx g0 106 [(vi (IntKind.wrap .i64 (x0.fnodes + 1))), (vi (if x2 > x0.fdepth then x2 else x0.fdepth)), (vi x0.fe), (vB (x0.fform || (!A6))), (vB x0.fnamed), (vs Q9)], a1w] B4) ∧ (∀ i, i < a3d.heap.size → ¬ inF [] i → B4.heap[i]? = a3d.heap[i]?) ∧ Hle a8l a9F ∧ (G4 S8 a1P a9F (fun (a2B : Bool) (a3V : Hp) =>
 ((!a2B) = true →
 (S8.length + ([a1P] : List ByteArray).length) * 17 ≤ 140737488355328 ∧
 r6 (IntKind.wrap .i64 (x0.fnodes + 1)) (if x2 > x0.fdepth then x2 else x0.fdepth) x0.fe (x0.fform || (!A6)) (x0.fnamed || (!a1d)) (S8 ++ [a1P]) a3V K) ∧
 ((!a2B) = false →
 r6 (IntKind.wrap .i64 (x0.fnodes + 1)) (if x2 > x0.fdepth then x2 else x0.fdepth) x0.fe (x0.fform || (!A6)) (x0.fnamed || (!a1d)) S8 a3V K)))) (fun c3a => ?_) (fun c3a => ?_) ?_
     ·replace h := h.1 c3a
      have f8 := c3a
      simp only [m9 f8]
      refine b9 (cap := []) (fun args w => Tryd.call119 args w) ?_
      refine m2 (Fi := []) (Fr := [bx g0 106 [(vi (IntKind.wrap .i64 (x0.fnodes + 1))), (vi (if x2 > x0.fdepth then x2 else x0.fdepth)), (vi x0.fe), (vB (x0.fform || (!A6))), (vB x0.fnamed), (vs Q9)], a1w]) b1I (h) (fun d3M a9F g6I B4 c2E e8E e8F g2m => ?_) (fun _ _ _ _ _ q => q.elim)
      obtain ⟨a1d, rfl, rfl, h⟩ := g2m
      exact ⟨a1d, a9F, by rfl, c2E, e8F, e8E, h⟩
     ·exact ⟨false, a8l, by rw [b0G c3a], b1I, fun _ _ _ => rfl, Hle.refl _, h.2 c3a⟩
     ·clear h
      rintro d3M B4 ⟨a1d, a9F, rfl, c2E, e8F, e8E, h⟩
      refine a7 (Pu.g fun hb => by have f8 := hb; simp only [m9 f8]; exact (a0s _)) ?_
      refine a7 (a0g _ _) ?_
      refine a7 (o3 _) ?_
      refine a7 a9u ?_
      refine m5 c2E Tryd.sizeOf4 (vs := [(vB (x0.fnamed || (!a1d)))]) (cs' := [(vi (IntKind.wrap .i64 (x0.fnodes + 1))), (vi (if x2 > x0.fdepth then x2 else x0.fdepth)), (vi x0.fe), (vB (x0.fform || (!A6))), (vB (x0.fnamed || (!a1d))), (vs Q9)]) rfl rfl (nb rfl) rfl rfl fun D6 c7g g1K => ?_
      refine a7 (o3 _) ?_
      refine a7 a9v ?_
      refine b8 (ld1 Tryd.isAgg104 (c7g.at1 (o := 5) (vs := [(vs Q9)]) (nb rfl) rfl)) ?_
      refine b9 (cap := []) (fun args w => Tryd.call120 args w) ?_
      refine m2 (Fi := [a1w]) (Fr := [bx g0 106 [(vi (IntKind.wrap .i64 (x0.fnodes + 1))), (vi (if x2 > x0.fdepth then x2 else x0.fdepth)), (vi x0.fe), (vB (x0.fform || (!A6))), (vB (x0.fnamed || (!a1d))), (vs Q9)]]) (c7g.bring 1) (h Q9 a1w a9h) (fun g2d a3V g2e E7 b9n g2f g2g d3u => ?_) (fun _ _ _ _ _ q => q.elim)
      obtain ⟨a2B, rfl, rfl, h⟩ := d3u
      refine a7 (a0s _) ?_
      refine o4 (fun b5R => ?_) (fun b5R => ?_)
      ·replace h := h.1 b5R
       refine a7 (o3 _) ?_
       refine a7 a9v ?_
       refine b8 (ld1 Tryd.isAgg104 ((b9n.bring 1).at1 (o := 5) (vs := [(vs Q9)]) (nb rfl) rfl)) ?_
       refine X3 (e := 9) (c := B6) (xs := [a1P]) b9n (d2C _) rfl rfl b5i b5j (nb rfl) fun a8m g2n b1y d3N c7w g2o => ?_
       obtain ⟨g2p, h⟩ := h
       refine d8x (s := Q9) (xs := S8) (c7w.bring 1) a9h (d3N.srcO ((c7w.bring 1).bring 1)) g2p fun d3O g2q d3P d3Q g2r g6J => ?_
       refine a7 (o3 _) ?_
       refine a7 a9v ?_
       refine m5 ((g2r.bring 1).drop.bring 1) Tryd.sizeOf104 (vs := [(vs d3O)]) (cs' := [(vi (IntKind.wrap .i64 (x0.fnodes + 1))), (vi (if x2 > x0.fdepth then x2 else x0.fdepth)), (vi x0.fe), (vB (x0.fform || (!A6))), (vB (x0.fnamed || (!a1d))), (vs d3O)]) rfl rfl (nb rfl) rfl rfl fun N9 d3R g2s => ?_
       exact hx1 _ _ (hj1 (IntKind.wrap .i64 (x0.fnodes + 1)) (if x2 > x0.fdepth then x2 else x0.fdepth) x0.fe (x0.fform || (!A6)) (x0.fnamed || (!a1d)) (S8 ++ [a1P]) d3O g2q a3V _ d3Q ((d3R.bring 1).bring 1) h)
      ·replace h := h.2 b5R
       exact hx1 _ _ (hj1 (IntKind.wrap .i64 (x0.fnodes + 1)) (if x2 > x0.fdepth then x2 else x0.fdepth) x0.fe (x0.fform || (!A6)) (x0.fnamed || (!a1d)) S8 Q9 a1w a3V _ a9h (b9n.bring 1) h)
    ·replace h := h.2 b5V
     exact hx1 _ _ (hj1 (IntKind.wrap .i64 (x0.fnodes + 1)) (if x2 > x0.fdepth then x2 else x0.fdepth) x0.fe (x0.fform || (!A6)) x0.fnamed S8 Q9 a1w a8l _ a9h ((b1I.bring 1).bring 1) h)
theorem a6G (x0 : g7) (S8 : (List ByteArray)) (x1 : a8) (x2 : Int) {H : Hp} {K : Bool → g7 → (List ByteArray) → Hp → Prop} (h : S4 x0 S8 x1 x2 H K) : a0l x0 S8 x1 x2 H K := by
 intro g0 Q9 a1w a9h w I
 refine d8I ?_
 refine a6s x0 S8 x1 x2 g0 Q9 a1w a9h I (fun r0 y0 a4r a2t a2u H' w' c2X I' hk => ⟨H', _, I', r0, y0, a4r, a2t, a2u, rfl, rfl, c2X, hk⟩) h
def A9 (g6K : Sl) (b9o : Int) (g6L : Sl) (d7q : Int) (c7x : Int) (H : Hp) (n4 : (Int × Int) → Hp → Prop) (K : Sl → Hp → Prop) : Prop :=
 n4 (b9o, (IntKind.wrap .i64 (c7x + 1))) H
def B0 (b7m : (List a8)) (H : Hp) (K : Sl → Hp → Prop) : Prop :=
 ∀ (a6j : Sl) (a6H : Hp), Hle H a6H → SlH a6H 1 m7 a6j b7m → a6j.n ≤ a6j.c →
 K a6j a6H
def B1 (d7r : Sl) (d7s : Int) (a2C : (List a8)) (a1Q : Int) (H : Hp) (n3 : ((List a8) × Int) → Hp → Prop) (K : Sl → Hp → Prop) : Prop :=
 (a1Q < d7s →
 (0 : Int) ≤ a1Q ∧ (a1Q : Int) < d7r.n ∧ ∃ c7y : Sl, EltH H d7r a1Q 1 [(vs c7y)] ∧
 ∃ b7n : List a8, SlH H 1 m7 c7y b7n ∧ (a2C.length + b7n.length) * 17 ≤ 140737488355328 ∧
 n3 ((a2C ++ b7n), (IntKind.wrap .i64 (a1Q + 1))) H) ∧
 (¬ (a1Q < d7s) →
 B0 a2C H K)
def B2 (b9p : Sl) (b1u : Int) (H : Hp) (K : Sl → Hp → Prop) : Prop :=
 L9 b1u H (fun (c7z : (List a8)) (H_9 : Hp) =>
 TL ((c7z, 0) : (List a8) × Int) H_9 fun (s : (List a8) × Int) H n3 => B1 b9p (b9p.n : Int) s.1 s.2 H n3 K)
def B3 (e8G : Sl) (d3S : Sl) (c7A : Int) (a5v : Int) (a1z : Int) (H : Hp) (n4 : (Int × Int) → Hp → Prop) (K : Sl → Hp → Prop) : Prop :=
 (a1z < c7A →
 (0 : Int) ≤ a1z ∧ (a1z : Int) < d3S.n ∧ ∃ x_1 : Sl, EltH H d3S a1z 1 [(vs x_1)] ∧
 ((IntKind.wrap .i64 (a5v + (x_1.n : Int))) < 0 →
 False) ∧
 (¬ ((IntKind.wrap .i64 (a5v + (x_1.n : Int))) < 0) →
 A9 e8G (IntKind.wrap .i64 (a5v + (x_1.n : Int))) d3S c7A a1z H n4 K)) ∧
 (¬ (a1z < c7A) →
 B2 e8G a5v H K)
def B5 (x0 : Sl) (H : Hp) (K : Sl → Hp → Prop) : Prop :=
 TL ((0, 0) : Int × Int) H fun (s : Int × Int) H n4 => B3 x0 x0 (x0.n : Int) s.1 s.2 H n4 K
theorem a0H (x0 : Sl) {K : Sl → Hp → Prop} (I : Inv w0 ps0 H0 H [] w) (hR : ∀ (r0 : Sl) (H' : Hp) (w' : World) (_ : Inv w0 ps0 H0 H' [] w') (_ : K r0 H'), R (vs r0) w') (h : B5 x0 H K) : F87 (vs x0) w R E := by
 unfold B5 at h
 unfold F87
 have hj1 : ∀ (b1u : Int) (H : Hp) (w : World) (_ : Inv w0 ps0 H0 H [] w) (_ : B2 x0 b1u H K), c1y (vs x0) (vi b1u) w R E := by
  intro b1u H w I h
  unfold c1y
  intro _
  unfold B2 at h
  refine b9 (cap := []) (fun args w => Tryd.call117 args w) ?_
  refine m2 (Fi := []) (Fr := []) I (h) (fun g6M H_9 g6N m4 a3i d3K b5F g2t => ?_) (fun _ _ _ _ _ q => q.elim)
  obtain ⟨c7z, e8H, e8I, rfl, rfl, e8J, h⟩ := g2t
  have hj2 : ∀ (b7m : (List a8)) (a6j : Sl) (Fs6j2 : Frag) (H : Hp) (w : World) (_ : RowL 152 1 m7 a6j b7m Fs6j2) (_ : Inv w0 ps0 H0 H [Fs6j2] w) (_ : B0 b7m H K), c1x (vs a6j) w R E := by
   intro b7m a6j Fs6j2 H w f8j I h
   unfold c1x
   intro _
   unfold B0 at h
   obtain ⟨a6H, a6D, e8K, b1n, d3T⟩ := Inv.freezeC I f8j (by decide)
   replace h := h a6j a6H e8K b1n d3T
   exact hR a6j a6H _ a6D h
  refine z7 fun j2 hx2 => ?_
  refine a7 (b6M _ _ _) ?_
  obtain ⟨d3U, c3b, g2u, g2v⟩ := h
  refine K8 (J := fun n l w => ∃ (s : (List a8) × Int) (H : Hp) (b7o : Sl) (Fs6l3 : Frag) , n = c3b s ∧ l = (match s with | (a2C, a1Q) => [(vs b7o), (vi a1Q)]) ∧ (match s with | (a2C, a1Q) => RowL 152 1 m7 b7o a2C Fs6l3) ∧ (match s with | (a2C, a1Q) => Inv w0 ps0 H0 H [Fs6l3] w) ∧ d3U s H) ⟨_, (c7z, 0), H_9, e8H, e8I, rfl, rfl, e8J, a3i, g2u⟩ ?_
  rintro g6O τ_46 w next3 ⟨⟨a2C, a1Q⟩, H, b7o, Fs6l3, rfl, d3V, c7B, I, g2w⟩ hn3
  dsimp only at d3V I c7B
  simp only [List.map_cons, List.map_nil, List.cons.injEq, and_true] at d3V
  obtain ⟨e6, e27⟩ := d3V
  simp only [e6, e27]
  obtain ⟨n3, hm3, h⟩ : ∃ n3 : ((List a8) × Int) → Hp → Prop, (∀ s' H', n3 s' H' → d3U s' H' ∧ c3b s' < c3b (a2C, a1Q)) ∧ B1 x0 (x0.n : Int) a2C a1Q H n3 K := ⟨_, fun _ _ h => h, g2v (a2C, a1Q) H (fun s' H' => d3U s' H' ∧ c3b s' < c3b (a2C, a1Q)) g2w (fun _ _ a b => ⟨a, b⟩)⟩
  unfold c9I
  unfold B1 at h
  refine a7 (B8 _ _ _ _ _ _) ?_
  refine h9 (fun d3W => ?_) (fun d3W => ?_)
  ·replace h := h.1 d3W
   obtain ⟨d3X, c3c, c7y, b5W, h⟩ := h
   obtain ⟨e8l, g6P, c3d, b5W⟩ := b5W
   refine a7 (c0a c3d _ _ _ _ d3X c3c) ?_
   refine b8 (ld1 (v := (vs c7y)) Tryd.isAgg124 (I.atH b5W)) ?_
   obtain ⟨b7n, d3Y, h⟩ := h
   obtain ⟨g2x, h⟩ := h
   refine a9Y (s := b7o) (xs := a2C) I c7B (SlH.src I d3Y K9) g2x fun c2G b9k B9 a5J a5K c7j => ?_
   refine a7 (E9 _ _ _ _ _ _) ?_
   exact hn3 _ _ _ (hm3 _ _ h).2 ⟨((a2C ++ b7n), (IntKind.wrap .i64 (a1Q + 1))), H, c2G, b9k, rfl, rfl, a5J, a5K, (hm3 _ _ h).1⟩
  ·replace h := h.2 d3W
   exact hx2 _ _ (hj2 a2C b7o Fs6l3 H _ c7B I h)
 refine z7 fun j1 hx1 => ?_
 refine a7 (b6M _ _ _) ?_
 obtain ⟨d3Z, c3e, g2y, g2z⟩ := h
 refine K8 (J := fun n l w => ∃ (s : Int × Int) (H : Hp) , n = c3e s ∧ l = (match s with | (a5v, a1z) => [(vi a5v), (vi a1z)]) ∧ (match s with | (a5v, a1z) => Inv w0 ps0 H0 H [] w) ∧ d3Z s H) ⟨_, (0, 0), H, rfl, rfl, I, g2y⟩ ?_
 rintro g6Q τ_55 w next4 ⟨⟨a5v, a1z⟩, H, rfl, d4a, I, g2A⟩ hn4
 dsimp only at d4a I
 simp only [List.map_cons, List.map_nil, List.cons.injEq, and_true] at d4a
 obtain ⟨e3, e11⟩ := d4a
 simp only [e3, e11]
 obtain ⟨n4, hm4, h⟩ : ∃ n4 : (Int × Int) → Hp → Prop, (∀ s' H', n4 s' H' → d3Z s' H' ∧ c3e s' < c3e (a5v, a1z)) ∧ B3 x0 x0 (x0.n : Int) a5v a1z H n4 K := ⟨_, fun _ _ h => h, g2z (a5v, a1z) H (fun s' H' => d3Z s' H' ∧ c3e s' < c3e (a5v, a1z)) g2A (fun _ _ a b => ⟨a, b⟩)⟩
 unfold c9J
 unfold B3 at h
 refine a7 (B8 _ _ _ _ _ _) ?_
 refine h9 (fun d4b => ?_) (fun d4b => ?_)
 ·replace h := h.1 d4b
  have hj5 : ∀ (b9o : Int) (H : Hp) (w : World) (_ : Inv w0 ps0 H0 H [] w) (_ : A9 x0 b9o x0 (x0.n : Int) a1z H n4 K), c1z (vs x0) (vi b9o) (vs x0) (vi (x0.n : Int)) (vi a1z) w next4 R E := by
   intro b9o H w I h
   unfold c1z
   intro _
   unfold A9 at h
   refine a7 (E9 _ _ _ _ _ _) ?_
   exact hn4 _ _ _ (hm4 _ _ h).2 ⟨(b9o, (IntKind.wrap .i64 (a1z + 1))), H, rfl, rfl, I, (hm4 _ _ h).1⟩
  refine z7 fun j5 hx5 => ?_
  obtain ⟨h_4, h_5, x_1, h_7, h⟩ := h
  obtain ⟨g_2, o_3, h_6, h_7⟩ := h_7
  refine a7 (c0a h_6 _ _ _ _ h_4 h_5) ?_
  refine b8 (ld1 (v := (vs x_1)) Tryd.isAgg124 (I.atH h_7)) ?_
  refine a7 (a6T _ _ _) ?_
  refine a7 (E9 _ _ _ _ _ _) ?_
  refine a7 (B8 _ _ _ _ _ _) ?_
  refine h9 (fun c_8 => ?_) (fun c_8 => ?_)
  ·replace h := h.1 c_8
   refine a7 (c9F _) ?_
   exact h.elim
  ·replace h := h.2 c_8
   exact hx5 _ _ (hj5 (IntKind.wrap .i64 (a5v + (x_1.n : Int))) H _ I h)
 ·replace h := h.2 d4b
  exact hx1 _ _ (hj1 a5v H _ I h)
theorem a0N (x0 : Sl) {H : Hp} {K : Sl → Hp → Prop} (h : B5 x0 H K) : v7 x0 H K := by
 intro w I
 refine e4I ?_
 refine a0H x0 I (fun r0 H' w' I' hk => ⟨H', _, I', r0, rfl, rfl, hk⟩) h
def u9 (U5 : (List a8)) (H : Hp) (K : Sl → Hp → Prop) : Prop :=
 ∀ (D5 : Sl) (X8 : Hp), Hle H X8 → SlH X8 1 m7 D5 U5 → D5.n ≤ D5.c →
 K D5 X8
def v6 (a0m : Sl) (X9 : Int) (r5 : (List a8)) (p5 : Int) (H : Hp) (n2 : ((List a8) × Int) → Hp → Prop) (K : Sl → Hp → Prop) : Prop :=
 (p5 < X9 →
 (0 : Int) ≤ p5 ∧ (p5 : Int) < a0m.n ∧ ∃ x_1 : d8, EltH H a0m p5 4 (b6 x_1) ∧
 a5q x_1 H (fun (O3 : a8) (Y0 : Hp) =>
 (r5.length + ([O3] : List a8).length) * 17 ≤ 140737488355328 ∧
 n2 ((r5 ++ [O3]), (IntKind.wrap .i64 (p5 + 1))) Y0)) ∧
 (¬ (p5 < X9) →
 u9 r5 H K)
def z6 (x0 : Sl) (H : Hp) (K : Sl → Hp → Prop) : Prop :=
 TL (([], 0) : (List a8) × Int) H fun (s : (List a8) × Int) H n2 => v6 x0 (x0.n : Int) s.1 s.2 H n2 K
theorem X1 (x0 : Sl) {K : Sl → Hp → Prop} (I : Inv w0 ps0 H0 H [] w) (hR : ∀ (r0 : Sl) (H' : Hp) (w' : World) (_ : Inv w0 ps0 H0 H' [] w') (_ : K r0 H'), R (vs r0) w') (h : z6 x0 H K) : c6P (vs x0) (fC 172) w R E := by
 unfold z6 at h
 unfold c6P
 have hj1 : ∀ (U5 : (List a8)) (D5 : Sl) (Fs5j1 : Frag) (H : Hp) (w : World) (_ : RowL 152 1 m7 D5 U5 Fs5j1) (_ : Inv w0 ps0 H0 H [Fs5j1] w) (_ : u9 U5 H K), b8Z (vs D5) w R E := by
  intro U5 D5 Fs5j1 H w b1k I h
  unfold b8Z
  intro _
  unfold u9 at h
  obtain ⟨X8, a5I, b3e, a7U, a9C⟩ := Inv.freezeC I b1k (by decide)
  replace h := h D5 X8 b3e a7U a9C
  exact hR D5 X8 _ a5I h
 refine z7 fun j1 hx1 => ?_
 refine a7 (a2h _ _ _) ?_
 obtain ⟨a4y, a0T, b5C, b5D⟩ := h
 refine K8 (J := fun n l w => ∃ (s : (List a8) × Int) (H : Hp) (U6 : Sl) (Fs5l2 : Frag) , n = a0T s ∧ l = (match s with | (r5, p5) => [(vs U6), (vi p5)]) ∧ (match s with | (r5, p5) => RowL 152 1 m7 U6 r5 Fs5l2) ∧ (match s with | (r5, p5) => Inv w0 ps0 H0 H [Fs5l2] w) ∧ a4y s H) ⟨_, ([], 0), H, (Sl.mk none 0 0), [], rfl, rfl, (RowL.nil K9 N7), I.nil, b5C⟩ ?_
 rintro d2W τ_50 w next2 ⟨⟨r5, p5⟩, H, U6, Fs5l2, rfl, a3U, a2A, I, b5E⟩ hn2
 dsimp only at a3U I a2A
 simp only [List.map_cons, List.map_nil, List.cons.injEq, and_true] at a3U
 obtain ⟨e5, e10⟩ := a3U
 simp only [e5, e10]
 obtain ⟨n2, hm2, h⟩ : ∃ n2 : ((List a8) × Int) → Hp → Prop, (∀ s' H', n2 s' H' → a4y s' H' ∧ a0T s' < a0T (r5, p5)) ∧ v6 x0 (x0.n : Int) r5 p5 H n2 K := ⟨_, fun _ _ h => h, b5D (r5, p5) H (fun s' H' => a4y s' H' ∧ a0T s' < a0T (r5, p5)) b5E (fun _ _ a b => ⟨a, b⟩)⟩
 unfold c5G
 unfold v6 at h
 refine a7 (B8 _ _ _ _ _ _) ?_
 refine h9 (fun a2z => ?_) (fun a2z => ?_)
 ·replace h := h.1 a2z
  obtain ⟨h_4, h_5, x_1, h_7, h⟩ := h
  obtain ⟨g_2, o_3, h_6, h_7⟩ := h_7
  refine a7 (a0P h_6 _ _ _ _ h_4 h_5) ?_
  refine b8 (ldA (vs := (b6 x_1)) Tryd.isAgg24 Tryd.sizeOf24 rfl (I.atH h_7)) ?_
  refine A0 I Tryd.zeroValue24 (cs := [(vi 0), (vi 0), (eS), (nS)]) rfl fun g_9 m4 a3i b5F => ?_
  refine m5 a3i Tryd.sizeOf24 (vs := (b6 x_1)) (cs' := (b6 x_1)) rfl rfl (nb rfl) rfl rfl fun a0j O7 a1E => ?_
  refine b8 (ldA Tryd.isAgg24 Tryd.sizeOf24 rfl (O7.at1 (o := 0) (vs := (b6 x_1)) (nb rfl) rfl)) ?_
  refine b9 (cap := []) (fun args w => Tryd.call172 args w) ?_
  refine m2 (Fi := []) (Fr := [bx g_9 24 (b6 x_1), Fs5l2]) O7 (h) (fun c7h Y0 b1l a1Y a4x b9j c7i b1m => ?_) (fun _ _ _ _ _ q => q.elim)
  obtain ⟨O3, rfl, rfl, h⟩ := b1m
  refine X3 (e := 152) (c := m7) (xs := [O3]) a4x (b0O _) rfl rfl K9 N7 (nb rfl) fun c2G b9k B9 a5J a5K c7j => ?_
  obtain ⟨b1n, h⟩ := h
  refine a9Y (s := U6) (xs := r5) (a5K.bring 2) a2A (a5J.srcO ((a5K.bring 2).bring 1)) b1n fun b5G b5H C6 b1g a6D c7k => ?_
  refine a7 (E9 _ _ _ _ _ _) ?_
  exact hn2 _ _ _ (hm2 _ _ h).2 ⟨((r5 ++ [O3]), (IntKind.wrap .i64 (p5 + 1))), Y0, b5G, b5H, rfl, rfl, b1g, ((a6D.bring 1).drop.bring 1).drop, (hm2 _ _ h).1⟩
 ·replace h := h.2 a2z
  exact hx1 _ _ (hj1 r5 U6 Fs5l2 H _ a2A I h)
theorem Y9 (x0 : Sl) {H : Hp} {K : Sl → Hp → Prop} (h : z6 x0 H K) : q7 x0 H K := by
 intro w I
 refine d9l ?_
 refine X1 x0 I (fun r0 H' w' I' hk => ⟨H', _, I', r0, rfl, rfl, hk⟩) h
def V1 (x0 : I0) (H : Hp) (K : Sl → Hp → Prop) : Prop :=
 y6 x0.d7.p8 H (fun (a5s : Sl) (H_8 : Hp) =>
 q7 x0.d7.i6 H_8 (fun (a5t : Sl) (b3f : Hp) =>
 p9 x0.d7.G1 b3f (fun (b4y : Sl) (a6I : Hp) =>
 p9 x0.d7.E6 a6I (fun (b4z : Sl) (a6H : Hp) =>
 ∀ (b9q : Sl) (c3f : Hp), Hle a6H c3f → SlH c3f 1 csl b9q [a5s, a5t, b4y, b4z] → b9q.n ≤ b9q.c →
 v7 b9q c3f (fun (c7C : Sl) (d4c : Hp) =>
 K c7C d4c)))))
theorem a7e (x0 : I0) {K : Sl → Hp → Prop} (I : Inv w0 ps0 H0 H [] w) (hR : ∀ (r0 : Sl) (H' : Hp) (w' : World) (_ : Inv w0 ps0 H0 H' [] w') (_ : K r0 H'), R (vs r0) w') (h : V1 x0 H K) : c6Z (Value.agg (f2 x0.d7).toArray) w R E := by
 unfold V1 at h
 unfold c6Z
 refine M1 I (cs := (f2 x0.d7)) rfl fun g_2 w_3 I_4 k_5 => ?_
 refine a0d I_4 fun w_6 I_7 => ?_
 refine i8 G3 ?_
 refine i8 a6S ?_
 refine i8 G3 ?_
 refine i8 a4Y ?_
 refine i8 G3 ?_
 refine i8 a4Z ?_
 refine i8 G3 ?_
 refine i8 a5a ?_
 refine s7 (ld1 Tryd.isAgg25 (I_7.at1 (o := 3) (vs := [(vs x0.d7.p8)]) (nb rfl) rfl)) ?_
 refine s7 (ld1 Tryd.isAgg22 (I_7.at1 (o := 2) (vs := [(vs x0.d7.i6)]) (nb rfl) rfl)) ?_
 refine s7 (ld1 Tryd.isAgg42 (I_7.at1 (o := 4) (vs := [(vs x0.d7.G1)]) (nb rfl) rfl)) ?_
 refine s7 (ld1 Tryd.isAgg42 (I_7.at1 (o := 5) (vs := [(vs x0.d7.E6)]) (nb rfl) rfl)) ?_
 refine b9 (cap := []) (fun args w => Tryd.call175 args w) ?_
 refine m2 (Fi := []) (Fr := [bx g_2 179 (f2 x0.d7)]) I_7 (h) (fun e8p H_8 d2X w_9 b1q e8q b5I c2H => ?_) (fun _ _ _ _ _ q => q.elim)
 obtain ⟨a5s, rfl, rfl, h⟩ := c2H
 refine ⟨(b5I _ I_7.lt1 (Inv.a4U (Fi := []) I_7)), (b5I _ I_7.lt1 (Inv.a4U (Fi := []) I_7)), (b5I _ I_7.lt1 (Inv.a4U (Fi := []) I_7)), ?_⟩
 refine b9 (cap := []) (fun args w => Tryd.call171 args w) ?_
 refine m2 (Fi := []) (Fr := [bx g_2 179 (f2 x0.d7)]) b1q (h) (fun e8r b3f e8s p6 a5u e8t b5J c2I => ?_) (fun _ _ _ _ _ q => q.elim)
 obtain ⟨a5t, rfl, rfl, h⟩ := c2I
 refine ⟨(b5J _ b1q.lt1 (Inv.a4U (Fi := []) b1q)), (b5J _ b1q.lt1 (Inv.a4U (Fi := []) b1q)), ?_⟩
 refine b9 (cap := []) (fun args w => Tryd.call90 args w) ?_
 refine m2 (Fi := []) (Fr := [bx g_2 179 (f2 x0.d7)]) a5u (h) (fun g2B a6I g2C a2U a7Q b9r d4d d4e => ?_) (fun _ _ _ _ _ q => q.elim)
 obtain ⟨b4y, rfl, rfl, h⟩ := d4e
 refine ⟨(d4d _ a5u.lt1 (Inv.a4U (Fi := []) a5u)), ?_⟩
 refine b9 (cap := []) (fun args w => Tryd.call90 args w) ?_
 refine m2 (Fi := []) (Fr := [bx g_2 179 (f2 x0.d7)]) a7Q (h) (fun g2D a6H g2E E5 d4f g2F g2G d4g => ?_) (fun _ _ _ _ _ q => q.elim)
 obtain ⟨b4z, rfl, rfl, h⟩ := d4g
 refine X3 (e := 124) (c := csl) (xs := [a5s, a5t, b4y, b4z]) d4f (d2D _ _ _ _ _ _ _ _ _ _ _ _) rfl rfl b4c b4d (nb rfl) fun b9q g6R b8K g2H c2K e8v => ?_
 obtain ⟨c3f, a9G, g2I, c2S, g2J⟩ := Inv.freezeC c2K g2H (by decide)
 replace h := h b9q c3f g2I c2S g2J
 refine b9 (cap := []) (fun args w => Tryd.call87 args w) ?_
 refine m2 (Fi := []) (Fr := [bx g_2 179 (f2 x0.d7)]) a9G (h) (fun g6S d4c g6T d4h g2K g6U g6V g2L => ?_) (fun _ _ _ _ _ q => q.elim)
 obtain ⟨c7C, rfl, rfl, h⟩ := g2L
 exact hR c7C d4c _ g2K.drop h
theorem a8n (x0 : I0) {H : Hp} {K : Sl → Hp → Prop} (h : V1 x0 H K) : a3h x0 H K := by
 intro w I
 refine e0d ?_
 refine a7e x0 I (fun r0 H' w' I' hk => ⟨H', _, I', r0, rfl, rfl, hk⟩) h
end Go.Proofs.YtnhkdkcgdcgmdaaDoor
