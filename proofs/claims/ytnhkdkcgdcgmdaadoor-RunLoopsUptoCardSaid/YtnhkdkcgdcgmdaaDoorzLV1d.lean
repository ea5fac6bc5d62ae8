/- Typed formulas of the program's functions, and the theorems that the contracts follow from them; printed by lift.py off the code. -/
import Derived.Test.YtnhkdkcgdcgmdaaDoorzLV1
namespace Go.Proofs.YtnhkdkcgdcgmdaaDoor
open Go.RowKit
set_option maxRecDepth 100000
set_option maxHeartbeats 2000000
variable {w0 w : World} {ps0 : Nat → Prop} {H0 H : Hp} {R : RT} {E : Pan}
def A9 (b4Q : Bool) (g4T : Int) (H : Hp) (K : Int → Hp → Prop) : Prop :=
 (b4Q = true →
 K 3 H) ∧
 (b4Q = false →
 K 6 H)
def K8 (b4R : Bool) (a0F : Int) (H : Hp) (K : Int → Hp → Prop) : Prop :=
 (b4R = true →
 K 6 H) ∧
 (b4R = false →
 E5 48 57 a0F H (fun (a0i : Bool) (H_6 : Hp) =>
 (a0i = true →
 K 4 H_6) ∧
 (a0i = false →
 (a0F = 95 →
 A9 (decide (a0F = 95)) a0F H_6 K) ∧
 (¬ (a0F = 95) →
 E5 97 122 a0F H_6 (fun (P0 : Bool) (Z0 : Hp) =>
 (P0 = true →
 A9 P0 a0F Z0 K) ∧
 (P0 = false →
 E5 65 90 a0F Z0 (fun (b7P : Bool) (c7O : Hp) =>
 (b7P = true →
 A9 b7P a0F c7O K) ∧
 (b7P = false →
 E5 192 591 a0F c7O (fun (b7Q : Bool) (c7P : Hp) =>
 (b7Q = true →
 A9 b7Q a0F c7P K) ∧
 (b7Q = false →
 E5 913 969 a0F c7P (fun (a2N : Bool) (a4l : Hp) =>
 (a2N = true →
 A9 a2N a0F a4l K) ∧
 (a2N = false →
 E5 1040 1103 a0F a4l (fun (c7Q : Bool) (d3E : Hp) =>
 A9 c7Q a0F d3E K)))))))))))))
def k5 (b6q : Int) (b1Y : Bool) (a4r : Int) (H : Hp) (K : Int → Hp → Prop) : Prop :=
 (b1Y = true →
 K 5 H) ∧
 (b1Y = false →
 (b6q = 215 →
 K8 (decide (b6q = 215)) a4r H K) ∧
 (¬ (b6q = 215) →
 (b6q = 247 →
 K8 (decide (b6q = 247)) a4r H K) ∧
 (¬ (b6q = 247) →
 K8 (decide (b6q = 930)) a4r H K)))
def K9 (r8 : Int) (b1S : Bool) (E2 : Int) (H : Hp) (K : Int → Hp → Prop) : Prop :=
 (b1S = true →
 K 1 H) ∧
 (b1S = false →
 (r8 = 10 →
 K 2 H) ∧
 (¬ (r8 = 10) →
 (r8 = 59 →
 k5 r8 (decide (r8 = 59)) E2 H K) ∧
 (¬ (r8 = 59) →
 (r8 = 44 →
 k5 r8 (decide (r8 = 44)) E2 H K) ∧
 (¬ (r8 = 44) →
 (r8 = 123 →
 k5 r8 (decide (r8 = 123)) E2 H K) ∧
 (¬ (r8 = 123) →
 (r8 = 125 →
 k5 r8 (decide (r8 = 125)) E2 H K) ∧
 (¬ (r8 = 125) →
 (r8 = 40 →
 k5 r8 (decide (r8 = 40)) E2 H K) ∧
 (¬ (r8 = 40) →
 (r8 = 41 →
 k5 r8 (decide (r8 = 41)) E2 H K) ∧
 (¬ (r8 = 41) →
 (r8 = 91 →
 k5 r8 (decide (r8 = 91)) E2 H K) ∧
 (¬ (r8 = 91) →
 (r8 = 93 →
 k5 r8 (decide (r8 = 93)) E2 H K) ∧
 (¬ (r8 = 93) →
 (r8 = 61 →
 k5 r8 (decide (r8 = 61)) E2 H K) ∧
 (¬ (r8 = 61) →
 (r8 = 33 →
 k5 r8 (decide (r8 = 33)) E2 H K) ∧
 (¬ (r8 = 33) →
 (r8 = 60 →
 k5 r8 (decide (r8 = 60)) E2 H K) ∧
 (¬ (r8 = 60) →
 (r8 = 62 →
 k5 r8 (decide (r8 = 62)) E2 H K) ∧
 (¬ (r8 = 62) →
 (r8 = 43 →
 k5 r8 (decide (r8 = 43)) E2 H K) ∧
 (¬ (r8 = 43) →
 (r8 = 45 →
 k5 r8 (decide (r8 = 45)) E2 H K) ∧
 (¬ (r8 = 45) →
 (r8 = 42 →
 k5 r8 (decide (r8 = 42)) E2 H K) ∧
 (¬ (r8 = 42) →
 (r8 = 47 →
 k5 r8 (decide (r8 = 47)) E2 H K) ∧
 (¬ (r8 = 47) →
 (r8 = 37 →
 k5 r8 (decide (r8 = 37)) E2 H K) ∧
 (¬ (r8 = 37) →
 (r8 = 38 →
 k5 r8 (decide (r8 = 38)) E2 H K) ∧
 (¬ (r8 = 38) →
 k5 r8 (decide (r8 = 124)) E2 H K))))))))))))))))))))
def a1p (x0 : Int) (H : Hp) (K : Int → Hp → Prop) : Prop :=
 (x0 = 32 →
 K9 x0 (decide (x0 = 32)) x0 H K) ∧
 (¬ (x0 = 32) →
 (x0 = 9 →
 K9 x0 (decide (x0 = 9)) x0 H K) ∧
 (¬ (x0 = 9) →
 K9 x0 (decide (x0 = 13)) x0 H K))
theorem b1Z (x0 : Int) {K : Int → Hp → Prop} (I : Inv w0 ps0 H0 H [] w) (hR : ∀ (r0 : Int) (H' : Hp) (w' : World) (_ : Inv w0 ps0 H0 H' [] w') (_ : K r0 H'), R (vi r0) w') (h : a1p x0 H K) : c6Z (Value.int .i32 x0) w R E := by
 unfold a1p at h
 unfold c6Z
 refine L8 I (cs := [(Value.int .i32 x0)]) rfl fun g_2 w_3 I_4 k_5 => ?_
 refine b8 (ld1 Tryd.isAgg21 (I_4.at1 (o := 0) (vs := [(Value.int .i32 x0)]) (nb rfl) rfl)) ?_
 have hj1 : ∀ (b1S : Bool) (H : Hp) (w : World) (_ : Inv w0 ps0 H0 H [bx g_2 21 [(Value.int .i32 x0)]] w) (_ : K9 x0 b1S x0 H K), b9j (Value.pointer (some ⟨g_2, 0, none⟩)) (Value.int .i32 x0) (vB b1S) w R E := by
  intro b1S H w I h
  unfold b9j
  intro _
  unfold K9 at h
  refine p7 (fun d3F => ?_) (fun d3F => ?_)
  ·replace h := h.1 d3F
   exact hR 1 H _ I.drop h
  ·replace h := h.2 d3F
   refine a7 (i8 _ _ _ _ _ _) ?_
   refine i4 (fun d3G => ?_) (fun d3G => ?_)
   ·replace h := h.1 d3G
    exact hR 2 H _ I.drop h
   ·replace h := h.2 d3G
    have hj2 : ∀ (b1Y : Bool) (H : Hp) (w : World) (_ : Inv w0 ps0 H0 H [bx g_2 21 [(Value.int .i32 x0)]] w) (_ : k5 x0 b1Y x0 H K), b9i (Value.pointer (some ⟨g_2, 0, none⟩)) (Value.int .i32 x0) (vB b1Y) w R E := by
     intro b1Y H w I h
     unfold b9i
     intro _
     unfold k5 at h
     refine p7 (fun d3H => ?_) (fun d3H => ?_)
     ·replace h := h.1 d3H
      exact hR 5 H _ I.drop h
     ·replace h := h.2 d3H
      have hj3 : ∀ (b4R : Bool) (H : Hp) (w : World) (_ : Inv w0 ps0 H0 H [bx g_2 21 [(Value.int .i32 x0)]] w) (_ : K8 b4R x0 H K), b9h (Value.pointer (some ⟨g_2, 0, none⟩)) (vB b4R) w R E := by
       intro b4R H w I h
       unfold b9h
       intro _
       unfold K8 at h
       refine p7 (fun b6r => ?_) (fun b6r => ?_)
       ·replace h := h.1 b6r
        exact hR 6 H _ I.drop h
       ·replace h := h.2 b6r
        refine a7 (a9O _ _ _) ?_
        refine d5 (cap := [(Value.pointer (some ⟨g_2, 0, none⟩))]) (fun args w => Tryd.call151 args w) ?_
        refine m5 (Fi := [bx g_2 21 [(Value.int .i32 x0)]]) (Fr := []) I (h g_2) (fun c7H H_6 c7I w_7 I_8 c7J k_9 b1R => ?_) (fun _ _ _ _ _ q => q.elim)
        obtain ⟨a0i, rfl, rfl, h⟩ := b1R
        refine p7 (fun d3I => ?_) (fun d3I => ?_)
        ·replace h := h.1 d3I
         exact hR 4 H_6 _ I_8.drop h
        ·replace h := h.2 d3I
         have hj4 : ∀ (b4Q : Bool) (H : Hp) (w : World) (_ : Inv w0 ps0 H0 H [bx g_2 21 [(Value.int .i32 x0)]] w) (_ : A9 b4Q x0 H K), b9g (vB b4Q) w R E := by
          intro b4Q H w I h
          unfold b9g
          intro _
          unfold A9 at h
          refine p7 (fun a4O => ?_) (fun a4O => ?_)
          ·replace h := h.1 a4O
           exact hR 3 H _ I.drop h
          ·replace h := h.2 a4O
           exact hR 6 H _ I.drop h
         refine A8 fun j4 hx4 => ?_
         refine b8 (ld1 Tryd.isAgg21 (I_8.at1 (o := 0) (vs := [(Value.int .i32 x0)]) (nb rfl) rfl)) ?_
         refine a7 (i8 _ _ _ _ _ _) ?_
         refine i4 (fun d3J => ?_) (fun d3J => ?_)
         ·replace h := h.1 d3J
          exact hx4 _ _ (hj4 (decide (x0 = 95)) H_6 _ I_8 h)
         ·replace h := h.2 d3J
          refine d5 (cap := [(Value.pointer (some ⟨g_2, 0, none⟩))]) (fun args w => Tryd.call151 args w) ?_
          refine m5 (Fi := [bx g_2 21 [(Value.int .i32 x0)]]) (Fr := []) I_8 (h g_2) (fun c7B Z0 c7C a2k a4J b9B c7D b1I => ?_) (fun _ _ _ _ _ q => q.elim)
          obtain ⟨P0, rfl, rfl, h⟩ := b1I
          refine p7 (fun d3K => ?_) (fun d3K => ?_)
          ·replace h := h.1 d3K
           exact hx4 _ _ (hj4 P0 Z0 _ a4J h)
          ·replace h := h.2 d3K
           refine d5 (cap := [(Value.pointer (some ⟨g_2, 0, none⟩))]) (fun args w => Tryd.call151 args w) ?_
           refine m5 (Fi := [bx g_2 21 [(Value.int .i32 x0)]]) (Fr := []) a4J (h g_2) (fun g6R c7O g6S A7 b2a e8V g2D g2E => ?_) (fun _ _ _ _ _ q => q.elim)
           obtain ⟨b7P, rfl, rfl, h⟩ := g2E
           refine p7 (fun d3L => ?_) (fun d3L => ?_)
           ·replace h := h.1 d3L
            exact hx4 _ _ (hj4 b7P c7O _ b2a h)
           ·replace h := h.2 d3L
            refine d5 (cap := [(Value.pointer (some ⟨g_2, 0, none⟩))]) (fun args w => Tryd.call151 args w) ?_
            refine m5 (Fi := [bx g_2 21 [(Value.int .i32 x0)]]) (Fr := []) b2a (h g_2) (fun g6T c7P g6U b0f a6U b3w c7F g2F => ?_) (fun _ _ _ _ _ q => q.elim)
            obtain ⟨b7Q, rfl, rfl, h⟩ := g2F
            refine p7 (fun d3M => ?_) (fun d3M => ?_)
            ·replace h := h.1 d3M
             exact hx4 _ _ (hj4 b7Q c7P _ a6U h)
            ·replace h := h.2 d3M
             refine d5 (cap := [(Value.pointer (some ⟨g_2, 0, none⟩))]) (fun args w => Tryd.call151 args w) ?_
             refine m5 (Fi := [bx g_2 21 [(Value.int .i32 x0)]]) (Fr := []) a6U (h g_2) (fun g2G a4l g2H G1 b9G g2I g2J d3N => ?_) (fun _ _ _ _ _ q => q.elim)
             obtain ⟨a2N, rfl, rfl, h⟩ := d3N
             refine p7 (fun d3O => ?_) (fun d3O => ?_)
             ·replace h := h.1 d3O
              exact hx4 _ _ (hj4 a2N a4l _ b9G h)
             ·replace h := h.2 d3O
              refine d5 (cap := [(Value.pointer (some ⟨g_2, 0, none⟩))]) (fun args w => Tryd.call151 args w) ?_
              refine m5 (Fi := [bx g_2 21 [(Value.int .i32 x0)]]) (Fr := []) b9G (h g_2) (fun g6V d3E g6W g6X g2K g6Y g6Z g2L => ?_) (fun _ _ _ _ _ q => q.elim)
              obtain ⟨c7Q, rfl, rfl, h⟩ := g2L
              exact hx4 _ _ (hj4 c7Q d3E _ g2K h)
      refine A8 fun j3 hx3 => ?_
      refine a7 (i8 _ _ _ _ _ _) ?_
      refine i4 (fun b6s => ?_) (fun b6s => ?_)
      ·replace h := h.1 b6s
       exact hx3 _ _ (hj3 (decide (x0 = 215)) H _ I h)
      ·replace h := h.2 b6s
       refine a7 (i8 _ _ _ _ _ _) ?_
       refine i4 (fun a8m => ?_) (fun a8m => ?_)
       ·replace h := h.1 a8m
        exact hx3 _ _ (hj3 (decide (x0 = 247)) H _ I h)
       ·replace h := h.2 a8m
        refine a7 (i8 _ _ _ _ _ _) ?_
        exact hx3 _ _ (hj3 (decide (x0 = 930)) H _ I h)
    refine A8 fun j2 hx2 => ?_
    refine a7 (i8 _ _ _ _ _ _) ?_
    refine i4 (fun d3P => ?_) (fun d3P => ?_)
    ·replace h := h.1 d3P
     exact hx2 _ _ (hj2 (decide (x0 = 59)) H _ I h)
    ·replace h := h.2 d3P
     refine a7 (i8 _ _ _ _ _ _) ?_
     refine i4 (fun a8n => ?_) (fun a8n => ?_)
     ·replace h := h.1 a8n
      exact hx2 _ _ (hj2 (decide (x0 = 44)) H _ I h)
     ·replace h := h.2 a8n
      refine a7 (i8 _ _ _ _ _ _) ?_
      refine i4 (fun b6o => ?_) (fun b6o => ?_)
      ·replace h := h.1 b6o
       exact hx2 _ _ (hj2 (decide (x0 = 123)) H _ I h)
      ·replace h := h.2 b6o
       refine a7 (i8 _ _ _ _ _ _) ?_
       refine i4 (fun d3Q => ?_) (fun d3Q => ?_)
       ·replace h := h.1 d3Q
        exact hx2 _ _ (hj2 (decide (x0 = 125)) H _ I h)
       ·replace h := h.2 d3Q
        refine a7 (i8 _ _ _ _ _ _) ?_
        refine i4 (fun d3R => ?_) (fun d3R => ?_)
        ·replace h := h.1 d3R
         exact hx2 _ _ (hj2 (decide (x0 = 40)) H _ I h)
        ·replace h := h.2 d3R
         refine a7 (i8 _ _ _ _ _ _) ?_
         refine i4 (fun d3S => ?_) (fun d3S => ?_)
         ·replace h := h.1 d3S
          exact hx2 _ _ (hj2 (decide (x0 = 41)) H _ I h)
         ·replace h := h.2 d3S
          refine a7 (i8 _ _ _ _ _ _) ?_
          refine i4 (fun b6t => ?_) (fun b6t => ?_)
          ·replace h := h.1 b6t
           exact hx2 _ _ (hj2 (decide (x0 = 91)) H _ I h)
          ·replace h := h.2 b6t
           refine a7 (i8 _ _ _ _ _ _) ?_
           refine i4 (fun b6p => ?_) (fun b6p => ?_)
           ·replace h := h.1 b6p
            exact hx2 _ _ (hj2 (decide (x0 = 93)) H _ I h)
           ·replace h := h.2 b6p
            refine a7 (i8 _ _ _ _ _ _) ?_
            refine i4 (fun d3T => ?_) (fun d3T => ?_)
            ·replace h := h.1 d3T
             exact hx2 _ _ (hj2 (decide (x0 = 61)) H _ I h)
            ·replace h := h.2 d3T
             refine a7 (i8 _ _ _ _ _ _) ?_
             refine i4 (fun d3U => ?_) (fun d3U => ?_)
             ·replace h := h.1 d3U
              exact hx2 _ _ (hj2 (decide (x0 = 33)) H _ I h)
             ·replace h := h.2 d3U
              refine a7 (i8 _ _ _ _ _ _) ?_
              refine i4 (fun d3V => ?_) (fun d3V => ?_)
              ·replace h := h.1 d3V
               exact hx2 _ _ (hj2 (decide (x0 = 60)) H _ I h)
              ·replace h := h.2 d3V
               refine a7 (i8 _ _ _ _ _ _) ?_
               refine i4 (fun d3W => ?_) (fun d3W => ?_)
               ·replace h := h.1 d3W
                exact hx2 _ _ (hj2 (decide (x0 = 62)) H _ I h)
               ·replace h := h.2 d3W
                refine a7 (i8 _ _ _ _ _ _) ?_
                refine i4 (fun d3X => ?_) (fun d3X => ?_)
                ·replace h := h.1 d3X
                 exact hx2 _ _ (hj2 (decide (x0 = 43)) H _ I h)
                ·replace h := h.2 d3X
                 refine a7 (i8 _ _ _ _ _ _) ?_
                 refine i4 (fun b6u => ?_) (fun b6u => ?_)
                 ·replace h := h.1 b6u
                  exact hx2 _ _ (hj2 (decide (x0 = 45)) H _ I h)
                 ·replace h := h.2 b6u
                  refine a7 (i8 _ _ _ _ _ _) ?_
                  refine i4 (fun b6v => ?_) (fun b6v => ?_)
                  ·replace h := h.1 b6v
                   exact hx2 _ _ (hj2 (decide (x0 = 42)) H _ I h)
                  ·replace h := h.2 b6v
                   refine a7 (i8 _ _ _ _ _ _) ?_
                   refine i4 (fun d3Y => ?_) (fun d3Y => ?_)
                   ·replace h := h.1 d3Y
                    exact hx2 _ _ (hj2 (decide (x0 = 47)) H _ I h)
                   ·replace h := h.2 d3Y
                    refine a7 (i8 _ _ _ _ _ _) ?_
                    refine i4 (fun d3Z => ?_) (fun d3Z => ?_)
                    ·replace h := h.1 d3Z
                     exact hx2 _ _ (hj2 (decide (x0 = 37)) H _ I h)
                    ·replace h := h.2 d3Z
                     refine a7 (i8 _ _ _ _ _ _) ?_
                     refine i4 (fun b6w => ?_) (fun b6w => ?_)
                     ·replace h := h.1 b6w
                      exact hx2 _ _ (hj2 (decide (x0 = 38)) H _ I h)
                     ·replace h := h.2 b6w
                      refine a7 (i8 _ _ _ _ _ _) ?_
                      exact hx2 _ _ (hj2 (decide (x0 = 124)) H _ I h)
 refine A8 fun j1 hx1 => ?_
 refine a7 (i8 _ _ _ _ _ _) ?_
 refine i4 (fun d4a => ?_) (fun d4a => ?_)
 ·replace h := h.1 d4a
  exact hx1 _ _ (hj1 (decide (x0 = 32)) H _ I_4 h)
 ·replace h := h.2 d4a
  refine a7 (i8 _ _ _ _ _ _) ?_
  refine i4 (fun d4b => ?_) (fun d4b => ?_)
  ·replace h := h.1 d4b
   exact hx1 _ _ (hj1 (decide (x0 = 9)) H _ I_4 h)
  ·replace h := h.2 d4b
   refine a7 (i8 _ _ _ _ _ _) ?_
   exact hx1 _ _ (hj1 (decide (x0 = 13)) H _ I_4 h)
theorem b2H (x0 : Int) {H : Hp} {K : Int → Hp → Prop} (h : a1p x0 H K) : a1l x0 H K := by
 intro w I
 refine d9v ?_
 refine b1Z x0 I (fun r0 H' w' I' hk => ⟨H', _, I', r0, rfl, rfl, hk⟩) h
def a1q (x0 : Int) (H : Hp) (K : Bool → Hp → Prop) : Prop :=
 a1l x0 H (fun (C4 : Int) (H_1 : Hp) =>
 K ((decide (C4 = 3)) || (decide (C4 = 4))) H_1)
theorem b2b (x0 : Int) {K : Bool → Hp → Prop} (I : Inv w0 ps0 H0 H [] w) (hR : ∀ (r0 : Bool) (H' : Hp) (w' : World) (_ : Inv w0 ps0 H0 H' [] w') (_ : K r0 H'), R (vB r0) w') (h : a1q x0 H K) : c6Y (Value.int .i32 x0) w R E := by
 unfold a1q at h
 unfold c6Y
 refine d5 (cap := []) (fun args w => Tryd.call141 args w) ?_
 refine m5 (Fi := []) (Fr := []) I (h) (fun v_5 H_1 F_6 w_2 I_3 l_8 k_4 q_7 => ?_) (fun _ _ _ _ _ q => q.elim)
 obtain ⟨C4, rfl, rfl, h⟩ := q_7
 refine a7 (i8 _ _ _ _ _ _) ?_
 simp only [L3]
 refine a7 (Pu.g fun hb => by have g7 := hb; simp only [o7 g7]; exact (i8 _ _ _ _ _ _)) ?_
 refine a7 (W6 _ _) ?_
 exact hR ((decide (C4 = 3)) || (decide (C4 = 4))) H_1 _ I_3 h
theorem b2I (x0 : Int) {H : Hp} {K : Bool → Hp → Prop} (h : a1q x0 H K) : a3m x0 H K := by
 intro w I
 refine d9t ?_
 refine b2b x0 I (fun r0 H' w' I' hk => ⟨H', _, I', r0, rfl, rfl, hk⟩) h
def N9 (H : Hp) (K : Int → Hp → Prop) : Prop :=
 K (-1) H
def O0 (f8E : (List ByteArray)) (c3a : ByteArray) (a4S : Int) (a0w : Int) (H : Hp) (n2 : Int → Hp → Prop) (K : Int → Hp → Prop) : Prop :=
 (a0w < a4S →
 (0 : Int) ≤ a0w ∧ ∃ x_1 : ByteArray, (f8E)[(a0w : Int).toNat]? = some x_1 ∧
 (c3a = x_1 →
 K a0w H) ∧
 (¬ (c3a = x_1) →
 n2 (IntKind.wrap .i64 (a0w + 1)) H)) ∧
 (¬ (a0w < a4S) →
 N9 H K)
def Q9 (x0 : (List ByteArray)) (x1 : ByteArray) (H : Hp) (K : Int → Hp → Prop) : Prop :=
 TL (0 : Int) H fun (s : Int) H n2 => O0 x0 x1 (x0.length : Int) s H n2 K
theorem a5H (x0 : (List ByteArray)) (x1 : ByteArray) (sx0 : Sl) (Fx0 : Frag) (hx0 : RowL 9 1 C1 sx0 x0 Fx0) {K : Int → Hp → Prop} (I : Inv w0 ps0 H0 H [Fx0] w) (hR : ∀ (r0 : Int) (H' : Hp) (w' : World) (_ : Inv w0 ps0 H0 H' [Fx0] w') (_ : K r0 H'), R (vi r0) w') (h : Q9 x0 x1 H K) : c7a (vs sx0) (Value.string x1) w R E := by
 unfold Q9 at h
 unfold c7a
 have hj1 : ∀ (H : Hp) (w : World) (_ : Inv w0 ps0 H0 H [Fx0] w) (_ : N9 H K), b9k w R E := by
  intro H w I h
  unfold b9k
  intro _
  unfold N9 at h
  exact hR (-1) H _ I h
 refine A8 fun j1 hx1 => ?_
 refine a7 (b7l Tryd.underlying104 hx0) ?_
 obtain ⟨d4c, c3k, g2M, g2N⟩ := h
 refine L9 (J := fun n l w => ∃ (s : Int) (H : Hp) , n = c3k s ∧ l = [(vi s)] ∧ Inv w0 ps0 H0 H [Fx0] w ∧ d4c s H) ⟨_, 0, H, rfl, rfl, I, g2M⟩ ?_
 rintro g7a τ_15 w next2 ⟨a0w, H, rfl, d4d, I, R0⟩ hn2
 simp only [List.map_cons, List.map_nil, List.cons.injEq, and_true] at d4d
 have e8 := d4d
 simp only [e8]
 obtain ⟨n2, hm2, h⟩ : ∃ n2 : Int → Hp → Prop, (∀ s' H', n2 s' H' → d4c s' H' ∧ c3k s' < c3k a0w) ∧ O0 x0 x1 (x0.length : Int) a0w H n2 K := ⟨_, fun _ _ h => h, g2N a0w H (fun s' H' => d4c s' H' ∧ c3k s' < c3k a0w) R0 (fun _ _ a b => ⟨a, b⟩)⟩
 unfold c5T
 unfold O0 at h
 refine a7 (B8 _ _ _ _ _ _) ?_
 refine i4 (fun c_9 => ?_) (fun c_9 => ?_)
 ·replace h := h.1 c_9
  obtain ⟨h_3, x_1, h_4, h⟩ := h
  obtain ⟨g_2, a_6, h_5, h_7⟩ := hx0.addr h_4
  refine a7 (d0a h_5 _ _ _ _ h_3 (hx0.lt h_3 h_4)) ?_
  refine b8 (ld1 (v := (Value.string x_1)) Tryd.isAgg9 (hx0.atW I h_5 h_4)) ?_
  refine a7 (a0D _ _ _ _ _) ?_
  refine i4 (fun c_8 => ?_) (fun c_8 => ?_)
  ·replace h := h.1 c_8
   exact hR a0w H _ I h
  ·replace h := h.2 c_8
   refine a7 (E4 _ _ _ _ _ _) ?_
   exact hn2 _ _ _ (hm2 _ _ h).2 ⟨(IntKind.wrap .i64 (a0w + 1)), H, rfl, rfl, I, (hm2 _ _ h).1⟩
 ·replace h := h.2 c_9
  exact hx1 _ _ (hj1 H _ I h)
theorem a6d (x0 : (List ByteArray)) (x1 : ByteArray) {H : Hp} {K : Int → Hp → Prop} (h : Q9 x0 x1 H K) : Y7 x0 x1 H K := by
 intro sx0 Fx0 hx0 w I
 refine d9x ?_
 refine a5H x0 x1 sx0 Fx0 hx0 I (fun r0 H' w' I' hk => ⟨H', _, I', r0, rfl, rfl, hk⟩) h
def O1 (x0 : (List ByteArray)) (x1 : ByteArray) (H : Hp) (K : Bool → Hp → Prop) : Prop :=
 Y7 x0 x1 H (fun (C4 : Int) (H_1 : Hp) =>
 K (decide (0 ≤ C4)) H_1)
theorem a4T (x0 : (List ByteArray)) (x1 : ByteArray) (sx0 : Sl) (Fx0 : Frag) (hx0 : RowL 9 1 C1 sx0 x0 Fx0) {K : Bool → Hp → Prop} (I : Inv w0 ps0 H0 H [Fx0] w) (hR : ∀ (r0 : Bool) (H' : Hp) (w' : World) (_ : Inv w0 ps0 H0 H' [Fx0] w') (_ : K r0 H'), R (vB r0) w') (h : O1 x0 x1 H K) : c6V (vs sx0) (Value.string x1) w R E := by
 unfold O1 at h
 unfold c6V
 refine d5 (cap := []) (fun args w => Tryd.call142 args w) ?_
 refine m5 (Fi := [Fx0]) (Fr := []) I (h sx0 Fx0 hx0) (fun v_5 H_1 F_6 w_2 I_3 l_8 k_4 q_7 => ?_) (fun _ _ _ _ _ q => q.elim)
 obtain ⟨C4, rfl, rfl, h⟩ := q_7
 refine a7 (a7O _ _ _ _ _ _) ?_
 exact hR (decide (0 ≤ C4)) H_1 _ I_3 h
theorem a5e (x0 : (List ByteArray)) (x1 : ByteArray) {H : Hp} {K : Bool → Hp → Prop} (h : O1 x0 x1 H K) : I0 x0 x1 H K := by
 intro sx0 Fx0 hx0 w I
 refine d9n ?_
 refine a4T x0 x1 sx0 Fx0 hx0 I (fun r0 H' w' I' hk => ⟨H', _, I', r0, rfl, rfl, hk⟩) h
def s6 (a7F : Int) (a7G : Int) (a7H : Int) (a7I : Bool) (a7J : Bool) (a6e : (List ByteArray)) (H : Hp) (K : Bool → g8 → (List ByteArray) → Hp → Prop) : Prop :=
 K true (g8.mk a7F a7G a7H a7I a7J (Sl.mk none 0 0)) a6e H
def T0 (x0 : g8) (T4 : (List ByteArray)) (x1 : a8) (x2 : Int) (H : Hp) (K : Bool → g8 → (List ByteArray) → Hp → Prop) : Prop :=
 (4096 < (IntKind.wrap .i64 (x0.fnodes + 1)) →
 K false (g8.mk (IntKind.wrap .i64 (x0.fnodes + 1)) x0.fdepth 33 x0.fform x0.fnamed (Sl.mk none 0 0)) T4 H) ∧
 (¬ (4096 < (IntKind.wrap .i64 (x0.fnodes + 1))) →
 (64 < x2 →
 K false (g8.mk (IntKind.wrap .i64 (x0.fnodes + 1)) x0.fdepth 32 x0.fform x0.fnamed (Sl.mk none 0 0)) T4 H) ∧
 (¬ (64 < x2) →
 TG (x0.fform = false) (a2I x1 H) false H (fun (C6 : Bool) (b3D : Hp) =>
 a0r x1 b3D (fun (a1Y : ByteArray) (b2c : Bool) (a8G : Hp) =>
 (b2c = true →
 TG (x0.fnamed = false) (a1S a1Y a8G) false a8G (fun (a1r : Bool) (b0g : Hp) =>
 I0 T4 a1Y b0g (fun (a2N : Bool) (a4l : Hp) =>
 ((!a2N) = true →
 (T4.length + ([a1Y] : List ByteArray).length) * 17 ≤ 140737488355328 ∧
 s6 (IntKind.wrap .i64 (x0.fnodes + 1)) (if x2 > x0.fdepth then x2 else x0.fdepth) x0.fe (x0.fform || (!C6)) (x0.fnamed || (!a1r)) (T4 ++ [a1Y]) a4l K) ∧
 ((!a2N) = false →
 s6 (IntKind.wrap .i64 (x0.fnodes + 1)) (if x2 > x0.fdepth then x2 else x0.fdepth) x0.fe (x0.fform || (!C6)) (x0.fnamed || (!a1r)) T4 a4l K)))) ∧
 (b2c = false →
 s6 (IntKind.wrap .i64 (x0.fnodes + 1)) (if x2 > x0.fdepth then x2 else x0.fdepth) x0.fe (x0.fform || (!C6)) x0.fnamed T4 a8G K)))))
theorem a6H (x0 : g8) (T4 : (List ByteArray)) (x1 : a8) (x2 : Int) (g0 : Nat) (S0 : Sl) (a1G : Frag) (a9F : RowL 9 1 C1 S0 T4 a1G) {K : Bool → g8 → (List ByteArray) → Hp → Prop} (I : Inv w0 ps0 H0 H [bx g0 106 [(vi x0.fnodes), (vi x0.fdepth), (vi x0.fe), (vB x0.fform), (vB x0.fnamed), (vs S0)], a1G] w) (hR : ∀ (r0 : Bool) (y0 : g8) (a4G : (List ByteArray)) (a2F : Sl) (a2G : Frag) (H' : Hp) (w' : World) (_ : RowL 9 1 C1 a2F a4G a2G) (_ : Inv w0 ps0 H0 H' [bx g0 106 [(vi y0.fnodes), (vi y0.fdepth), (vi y0.fe), (vB y0.fform), (vB y0.fnamed), (vs a2F)], a2G] w') (_ : K r0 y0 a4G H'), R (vB r0) w') (h : T0 x0 T4 x1 x2 H K) : c6S (Value.pointer (some ⟨g0, 0, none⟩)) (t8 x1) (vi x2) w R E := by
 unfold T0 at h
 unfold c6S
 refine a7 (p6 _) ?_
 refine a7 a9P ?_
 refine b8 (ld1 Tryd.isAgg3 (I.at1 (o := 0) (vs := [(vi x0.fnodes)]) (nb rfl) rfl)) ?_
 refine a7 (E4 _ _ _ _ _ _) ?_
 refine a7 (p6 _) ?_
 refine a7 a9P ?_
 refine m9 I Tryd.sizeOf3 (vs := [(vi (IntKind.wrap .i64 (x0.fnodes + 1)))]) (cs' := [(vi (IntKind.wrap .i64 (x0.fnodes + 1))), (vi x0.fdepth), (vi x0.fe), (vB x0.fform), (vB x0.fnamed), (vs S0)]) rfl rfl (nb rfl) rfl rfl fun w_1 I_2 k_3 => ?_
 refine a7 (p6 _) ?_
 refine a7 a9P ?_
 refine b8 (ld1 Tryd.isAgg3 (I_2.at1 (o := 0) (vs := [(vi (IntKind.wrap .i64 (x0.fnodes + 1)))]) (nb rfl) rfl)) ?_
 refine a7 (a0B _ _ _ _ _ _) ?_
 refine i4 (fun b6u => ?_) (fun b6u => ?_)
 ·replace h := h.1 b6u
  refine a7 (p6 _) ?_
  refine a7 a4p ?_
  refine m9 I_2 Tryd.sizeOf29 (vs := [(vi 33)]) (cs' := [(vi (IntKind.wrap .i64 (x0.fnodes + 1))), (vi x0.fdepth), (vi 33), (vB x0.fform), (vB x0.fnamed), (vs S0)]) rfl rfl (nb rfl) rfl rfl fun w_4 I_5 k_6 => ?_
  exact hR false (g8.mk (IntKind.wrap .i64 (x0.fnodes + 1)) x0.fdepth 33 x0.fform x0.fnamed (Sl.mk none 0 0)) T4 S0 a1G H _ a9F ((I_5.bring 1).bring 1) h
 ·replace h := h.2 b6u
  refine a7 (a0B _ _ _ _ _ _) ?_
  refine i4 (fun b6v => ?_) (fun b6v => ?_)
  ·replace h := h.1 b6v
   refine a7 (p6 _) ?_
   refine a7 a4p ?_
   refine m9 I_2 Tryd.sizeOf29 (vs := [(vi 32)]) (cs' := [(vi (IntKind.wrap .i64 (x0.fnodes + 1))), (vi x0.fdepth), (vi 32), (vB x0.fform), (vB x0.fnamed), (vs S0)]) rfl rfl (nb rfl) rfl rfl fun w_7 I_8 k_9 => ?_
   exact hR false (g8.mk (IntKind.wrap .i64 (x0.fnodes + 1)) x0.fdepth 32 x0.fform x0.fnamed (Sl.mk none 0 0)) T4 S0 a1G H _ a9F ((I_8.bring 1).bring 1) h
  ·replace h := h.2 b6v
   refine a7 (p6 _) ?_
   refine a7 b5C ?_
   refine b8 (ld1 Tryd.isAgg3 (I_2.at1 (o := 1) (vs := [(vi x0.fdepth)]) (nb rfl) rfl)) ?_
   refine a7 (e4q _ _ _ _ _) ?_
   refine a7 (p6 _) ?_
   refine a7 b5C ?_
   refine m9 I_2 Tryd.sizeOf3 (vs := [(vi (if x2 > x0.fdepth then x2 else x0.fdepth))]) (cs' := [(vi (IntKind.wrap .i64 (x0.fnodes + 1))), (vi (if x2 > x0.fdepth then x2 else x0.fdepth)), (vi x0.fe), (vB x0.fform), (vB x0.fnamed), (vs S0)]) rfl rfl (nb rfl) rfl rfl fun m8 a3x b6e => ?_
   refine a7 (p6 _) ?_
   refine a7 a9R ?_
   refine b8 (ld1 Tryd.isAgg4 (a3x.at1 (o := 3) (vs := [(vB x0.fform)]) (nb rfl) rfl)) ?_
   simp only [L3]
   refine a6z (D := fun c7v o2 => ∃ (C6 : Bool) (b3D : Hp), c7v = (gv x0.fform false (vB C6)) ∧ (Inv w0 ps0 H0 b3D [bx g0 106 [(vi (IntKind.wrap .i64 (x0.fnodes + 1))), (vi (if x2 > x0.fdepth then x2 else x0.fdepth)), (vi x0.fe), (vB x0.fform), (vB x0.fnamed), (vs S0)], a1G] o2) ∧ (∀ i, i < m8.heap.size → ¬ inF [] i → o2.heap[i]? = m8.heap[i]?) ∧ Hle H b3D ∧ (a0r x1 b3D (fun (a1Y : ByteArray) (b2c : Bool) (a8G : Hp) =>
 (b2c = true →
 TG (x0.fnamed = false) (a1S a1Y a8G) false a8G (fun (a1r : Bool) (b0g : Hp) =>
 I0 T4 a1Y b0g (fun (a2N : Bool) (a4l : Hp) =>
 ((!a2N) = true →
 (T4.length + ([a1Y] : List ByteArray).length) * 17 ≤ 140737488355328 ∧
 s6 (IntKind.wrap .i64 (x0.fnodes + 1)) (if x2 > x0.fdepth then x2 else x0.fdepth) x0.fe (x0.fform || (!C6)) (x0.fnamed || (!a1r)) (T4 ++ [a1Y]) a4l K) ∧
 ((!a2N) = false →
 s6 (IntKind.wrap .i64 (x0.fnodes + 1)) (if x2 > x0.fdepth then x2 else x0.fdepth) x0.fe (x0.fform || (!C6)) (x0.fnamed || (!a1r)) T4 a4l K)))) ∧
 (b2c = false →
 s6 (IntKind.wrap .i64 (x0.fnodes + 1)) (if x2 > x0.fdepth then x2 else x0.fdepth) x0.fe (x0.fform || (!C6)) x0.fnamed T4 a8G K)))) (fun c3l => ?_) (fun c3l => ?_) ?_
   ·replace h := h.1 c3l
    have g7 := c3l
    simp only [o7 g7]
    refine b0z a3x h (fun C6 b3D o2 b5W b9w c7r h => ?_)
    exact ⟨C6, b3D, by rfl, b5W, c7r, b9w, h⟩
   ·exact ⟨false, H, by rw [b1f c3l], a3x, fun _ _ _ => rfl, Hle.refl _, h.2 c3l⟩
   ·clear h
    rintro c7v o2 ⟨C6, b3D, rfl, b5W, c7r, b9w, h⟩
    refine a7 (Pu.g fun hb => by have g7 := hb; simp only [o7 g7]; exact (a0C _)) ?_
    refine a7 (W6 _ _) ?_
    refine a7 (p6 _) ?_
    refine a7 a9R ?_
    refine m9 b5W Tryd.sizeOf4 (vs := [(vB (x0.fform || (!C6)))]) (cs' := [(vi (IntKind.wrap .i64 (x0.fnodes + 1))), (vi (if x2 > x0.fdepth then x2 else x0.fdepth)), (vi x0.fe), (vB (x0.fform || (!C6))), (vB x0.fnamed), (vs S0)]) rfl rfl (nb rfl) rfl rfl fun a2z c7z g2k => ?_
    have hj1 : ∀ (a7F : Int) (a7G : Int) (a7H : Int) (a7I : Bool) (a7J : Bool) (a6e : (List ByteArray)) (b2d : Sl) (b2e : Frag) (H : Hp) (w : World) (_ : RowL 9 1 C1 b2d a6e b2e) (_ : Inv w0 ps0 H0 H [bx g0 106 [(vi a7F), (vi a7G), (vi a7H), (vB a7I), (vB a7J), (vs b2d)], b2e] w) (_ : s6 a7F a7G a7H a7I a7J a6e H K), b8Y w R E := by
     intro a7F a7G a7H a7I a7J a6e b2d b2e H w d4e I h
     unfold b8Y
     intro _
     unfold s6 at h
     exact hR true (g8.mk a7F a7G a7H a7I a7J (Sl.mk none 0 0)) a6e b2d b2e H _ d4e ((I.bring 1).bring 1) h
    refine A8 fun j1 hx1 => ?_
    refine d5 (cap := []) (fun args w => Tryd.call118 args w) ?_
    refine m5 (Fi := []) (Fr := [bx g0 106 [(vi (IntKind.wrap .i64 (x0.fnodes + 1))), (vi (if x2 > x0.fdepth then x2 else x0.fdepth)), (vi x0.fe), (vB (x0.fform || (!C6))), (vB x0.fnamed), (vs S0)], a1G]) c7z (h) (fun g7b a8G b9C a3l b0h g7c e8W g2O => ?_) (fun _ _ _ _ _ q => q.elim)
    obtain ⟨a1Y, b2c, rfl, rfl, h⟩ := g2O
    refine a7 (m6 _ _ (Value.string a1Y) rfl) ?_
    refine a7 (m6 _ _ (vB b2c) rfl) ?_
    refine p7 (fun b6w => ?_) (fun b6w => ?_)
    ·replace h := h.1 b6w
     refine a7 (p6 _) ?_
     refine a7 a9S ?_
     refine b8 (ld1 Tryd.isAgg4 (b0h.at1 (o := 4) (vs := [(vB x0.fnamed)]) (nb rfl) rfl)) ?_
     simp only [L3]
     refine a6z (D := fun d4f B9 => ∃ (a1r : Bool) (b0g : Hp) , d4f = (gv x0.fnamed false (vB a1r)) ∧ (Inv w0 ps0 H0 b0g [bx g0 106 [(vi (IntKind.wrap .i64 (x0.fnodes + 1))), (vi (if x2 > x0.fdepth then x2 else x0.fdepth)), (vi x0.fe), (vB (x0.fform || (!C6))), (vB x0.fnamed), (vs S0)], a1G] B9) ∧ (∀ i, i < a3l.heap.size → ¬ inF [] i → B9.heap[i]? = a3l.heap[i]?) ∧ Hle a8G b0g ∧ (I0 T4 a1Y b0g (fun (a2N : Bool) (a4l : Hp) =>
 ((!a2N) = true →
 (T4.length + ([a1Y] : List ByteArray).length) * 17 ≤ 140737488355328 ∧
 s6 (IntKind.wrap .i64 (x0.fnodes + 1)) (if x2 > x0.fdepth then x2 else x0.fdepth) x0.fe (x0.fform || (!C6)) (x0.fnamed || (!a1r)) (T4 ++ [a1Y]) a4l K) ∧
 ((!a2N) = false →
 s6 (IntKind.wrap .i64 (x0.fnodes + 1)) (if x2 > x0.fdepth then x2 else x0.fdepth) x0.fe (x0.fform || (!C6)) (x0.fnamed || (!a1r)) T4 a4l K)))) (fun c3m => ?_) (fun c3m => ?_) ?_
     ·replace h := h.1 c3m
      have g7 := c3m
      simp only [o7 g7]
      refine d5 (cap := []) (fun args w => Tryd.call119 args w) ?_
      refine m5 (Fi := []) (Fr := [bx g0 106 [(vi (IntKind.wrap .i64 (x0.fnodes + 1))), (vi (if x2 > x0.fdepth then x2 else x0.fdepth)), (vi x0.fe), (vB (x0.fform || (!C6))), (vB x0.fnamed), (vs S0)], a1G]) b0h (h) (fun d4f b0g g7d B9 c2U e8X e8Y g2P => ?_) (fun _ _ _ _ _ q => q.elim)
      obtain ⟨a1r, rfl, rfl, h⟩ := g2P
      exact ⟨a1r, b0g, by rfl, c2U, e8Y, e8X, h⟩
     ·exact ⟨false, a8G, by rw [b1f c3m], b0h, fun _ _ _ => rfl, Hle.refl _, h.2 c3m⟩
     ·clear h
      rintro d4f B9 ⟨a1r, b0g, rfl, c2U, e8Y, e8X, h⟩
      refine a7 (Pu.g fun hb => by have g7 := hb; simp only [o7 g7]; exact (a0C _)) ?_
      refine a7 (W6 _ _) ?_
      refine a7 (p6 _) ?_
      refine a7 a9S ?_
      refine m9 c2U Tryd.sizeOf4 (vs := [(vB (x0.fnamed || (!a1r)))]) (cs' := [(vi (IntKind.wrap .i64 (x0.fnodes + 1))), (vi (if x2 > x0.fdepth then x2 else x0.fdepth)), (vi x0.fe), (vB (x0.fform || (!C6))), (vB (x0.fnamed || (!a1r))), (vs S0)]) rfl rfl (nb rfl) rfl rfl fun E1 c7A g2o => ?_
      refine a7 (p6 _) ?_
      refine a7 a9T ?_
      refine b8 (ld1 Tryd.isAgg104 (c7A.at1 (o := 5) (vs := [(vs S0)]) (nb rfl) rfl)) ?_
      refine d5 (cap := []) (fun args w => Tryd.call120 args w) ?_
      refine m5 (Fi := [a1G]) (Fr := [bx g0 106 [(vi (IntKind.wrap .i64 (x0.fnodes + 1))), (vi (if x2 > x0.fdepth then x2 else x0.fdepth)), (vi x0.fe), (vB (x0.fform || (!C6))), (vB (x0.fnamed || (!a1r))), (vs S0)]]) (c7A.bring 1) (h S0 a1G a9F) (fun g2G a4l g2H G1 b9G g2I g2J d3N => ?_) (fun _ _ _ _ _ q => q.elim)
      obtain ⟨a2N, rfl, rfl, h⟩ := d3N
      refine a7 (a0C _) ?_
      refine p7 (fun b6s => ?_) (fun b6s => ?_)
      ·replace h := h.1 b6s
       refine a7 (p6 _) ?_
       refine a7 a9T ?_
       refine b8 (ld1 Tryd.isAgg104 ((b9G.bring 1).at1 (o := 5) (vs := [(vs S0)]) (nb rfl) rfl)) ?_
       refine U3 (e := 9) (c := C1) (xs := [a1Y]) b9G (d2U _) rfl rfl b5D b5E (nb rfl) fun a8H g2Q b1U d4g c7R g2R => ?_
       obtain ⟨g2S, h⟩ := h
       refine d8U (s := S0) (xs := T4) (c7R.bring 1) a9F (d4g.srcO ((c7R.bring 1).bring 1)) g2S fun d4h g2T c7S d4i g2U g7e => ?_
       refine a7 (p6 _) ?_
       refine a7 a9T ?_
       refine m9 ((g2U.bring 1).drop.bring 1) Tryd.sizeOf104 (vs := [(vs d4h)]) (cs' := [(vi (IntKind.wrap .i64 (x0.fnodes + 1))), (vi (if x2 > x0.fdepth then x2 else x0.fdepth)), (vi x0.fe), (vB (x0.fform || (!C6))), (vB (x0.fnamed || (!a1r))), (vs d4h)]) rfl rfl (nb rfl) rfl rfl fun O4 g2V g7f => ?_
       exact hx1 _ _ (hj1 (IntKind.wrap .i64 (x0.fnodes + 1)) (if x2 > x0.fdepth then x2 else x0.fdepth) x0.fe (x0.fform || (!C6)) (x0.fnamed || (!a1r)) (T4 ++ [a1Y]) d4h g2T a4l _ d4i ((g2V.bring 1).bring 1) h)
      ·replace h := h.2 b6s
       exact hx1 _ _ (hj1 (IntKind.wrap .i64 (x0.fnodes + 1)) (if x2 > x0.fdepth then x2 else x0.fdepth) x0.fe (x0.fform || (!C6)) (x0.fnamed || (!a1r)) T4 S0 a1G a4l _ a9F (b9G.bring 1) h)
    ·replace h := h.2 b6w
     exact hx1 _ _ (hj1 (IntKind.wrap .i64 (x0.fnodes + 1)) (if x2 > x0.fdepth then x2 else x0.fdepth) x0.fe (x0.fform || (!C6)) x0.fnamed T4 S0 a1G a8G _ a9F ((b0h.bring 1).bring 1) h)
theorem a6X (x0 : g8) (T4 : (List ByteArray)) (x1 : a8) (x2 : Int) {H : Hp} {K : Bool → g8 → (List ByteArray) → Hp → Prop} (h : T0 x0 T4 x1 x2 H K) : a0v x0 T4 x1 x2 H K := by
 intro g0 S0 a1G a9F w I
 refine d9f ?_
 refine a6H x0 T4 x1 x2 g0 S0 a1G a9F I (fun r0 y0 a4G a2F a2G H' w' c3j I' hk => ⟨H', _, I', r0, y0, a4G, a2F, a2G, rfl, rfl, c3j, hk⟩) h
def B3 (g7g : Sl) (b9H : Int) (g7h : Sl) (d7K : Int) (c7T : Int) (H : Hp) (n4 : (Int × Int) → Hp → Prop) (K : Sl → Hp → Prop) : Prop :=
 n4 (b9H, (IntKind.wrap .i64 (c7T + 1))) H
def B4 (b7R : (List a8)) (H : Hp) (K : Sl → Hp → Prop) : Prop :=
 ∀ (a6w : Sl) (a6Y : Hp), Hle H a6Y → SlH a6Y 1 o3 a6w b7R → a6w.n ≤ a6w.c →
 K a6w a6Y
def B5 (d7L : Sl) (d7M : Int) (a2O : (List a8)) (a1Z : Int) (H : Hp) (n3 : ((List a8) × Int) → Hp → Prop) (K : Sl → Hp → Prop) : Prop :=
 (a1Z < d7M →
 (0 : Int) ≤ a1Z ∧ (a1Z : Int) < d7L.n ∧ ∃ c7U : Sl, EltH H d7L a1Z 1 [(vs c7U)] ∧
 ∃ b7S : List a8, SlH H 1 o3 c7U b7S ∧ (a2O.length + b7S.length) * 17 ≤ 140737488355328 ∧
 n3 ((a2O ++ b7S), (IntKind.wrap .i64 (a1Z + 1))) H) ∧
 (¬ (a1Z < d7M) →
 B4 a2O H K)
def B6 (c7V : Sl) (b1Q : Int) (H : Hp) (K : Sl → Hp → Prop) : Prop :=
 M7 b1Q H (fun (c7W : (List a8)) (H_9 : Hp) =>
 TL ((c7W, 0) : (List a8) × Int) H_9 fun (s : (List a8) × Int) H n3 => B5 c7V (c7V.n : Int) s.1 s.2 H n3 K)
def B7 (e8Z : Sl) (d4j : Sl) (c7X : Int) (a5F : Int) (a1J : Int) (H : Hp) (n4 : (Int × Int) → Hp → Prop) (K : Sl → Hp → Prop) : Prop :=
 (a1J < c7X →
 (0 : Int) ≤ a1J ∧ (a1J : Int) < d4j.n ∧ ∃ x_1 : Sl, EltH H d4j a1J 1 [(vs x_1)] ∧
 ((IntKind.wrap .i64 (a5F + (x_1.n : Int))) < 0 →
 False) ∧
 (¬ ((IntKind.wrap .i64 (a5F + (x_1.n : Int))) < 0) →
 B3 e8Z (IntKind.wrap .i64 (a5F + (x_1.n : Int))) d4j c7X a1J H n4 K)) ∧
 (¬ (a1J < c7X) →
 B6 e8Z a5F H K)
def C0 (x0 : Sl) (H : Hp) (K : Sl → Hp → Prop) : Prop :=
 TL ((0, 0) : Int × Int) H fun (s : Int × Int) H n4 => B7 x0 x0 (x0.n : Int) s.1 s.2 H n4 K
theorem a0U (x0 : Sl) {K : Sl → Hp → Prop} (I : Inv w0 ps0 H0 H [] w) (hR : ∀ (r0 : Sl) (H' : Hp) (w' : World) (_ : Inv w0 ps0 H0 H' [] w') (_ : K r0 H'), R (vs r0) w') (h : C0 x0 H K) : F87 (vs x0) w R E := by
 unfold C0 at h
 unfold F87
 have hj1 : ∀ (b1Q : Int) (H : Hp) (w : World) (_ : Inv w0 ps0 H0 H [] w) (_ : B6 x0 b1Q H K), c1S (vs x0) (vi b1Q) w R E := by
  intro b1Q H w I h
  unfold c1S
  intro _
  unfold B6 at h
  refine d5 (cap := []) (fun args w => Tryd.call117 args w) ?_
  refine m5 (Fi := []) (Fr := []) I (h) (fun g7i H_9 g7j m8 a3x d4d b6e g2W => ?_) (fun _ _ _ _ _ q => q.elim)
  obtain ⟨c7W, e9a, e9b, rfl, rfl, e9c, h⟩ := g2W
  have hj2 : ∀ (b7R : (List a8)) (a6w : Sl) (Fs6j2 : Frag) (H : Hp) (w : World) (_ : RowL 152 1 o3 a6w b7R Fs6j2) (_ : Inv w0 ps0 H0 H [Fs6j2] w) (_ : B4 b7R H K), c1R (vs a6w) w R E := by
   intro b7R a6w Fs6j2 H w f8F I h
   unfold c1R
   intro _
   unfold B4 at h
   obtain ⟨a6Y, a6U, e9d, b1J, d4k⟩ := Inv.freezeC I f8F (by decide)
   replace h := h a6w a6Y e9d b1J d4k
   exact hR a6w a6Y _ a6U h
  refine A8 fun j2 hx2 => ?_
  refine a7 (b7r _ _ _) ?_
  obtain ⟨d4l, c3n, g2X, g2Y⟩ := h
  refine L9 (J := fun n l w => ∃ (s : (List a8) × Int) (H : Hp) (b7T : Sl) (Fs6l3 : Frag) , n = c3n s ∧ l = (match s with | (a2O, a1Z) => [(vs b7T), (vi a1Z)]) ∧ (match s with | (a2O, a1Z) => RowL 152 1 o3 b7T a2O Fs6l3) ∧ (match s with | (a2O, a1Z) => Inv w0 ps0 H0 H [Fs6l3] w) ∧ d4l s H) ⟨_, (c7W, 0), H_9, e9a, e9b, rfl, rfl, e9c, a3x, g2X⟩ ?_
  rintro g7k τ_46 w next3 ⟨⟨a2O, a1Z⟩, H, b7T, Fs6l3, rfl, d4m, c7Y, I, g2Z⟩ hn3
  dsimp only at d4m I c7Y
  simp only [List.map_cons, List.map_nil, List.cons.injEq, and_true] at d4m
  obtain ⟨e6, e27⟩ := d4m
  simp only [e6, e27]
  obtain ⟨n3, hm3, h⟩ : ∃ n3 : ((List a8) × Int) → Hp → Prop, (∀ s' H', n3 s' H' → d4l s' H' ∧ c3n s' < c3n (a2O, a1Z)) ∧ B5 x0 (x0.n : Int) a2O a1Z H n3 K := ⟨_, fun _ _ h => h, g2Y (a2O, a1Z) H (fun s' H' => d4l s' H' ∧ c3n s' < c3n (a2O, a1Z)) g2Z (fun _ _ a b => ⟨a, b⟩)⟩
  unfold d0b
  unfold B5 at h
  refine a7 (B8 _ _ _ _ _ _) ?_
  refine i4 (fun d4n => ?_) (fun d4n => ?_)
  ·replace h := h.1 d4n
   obtain ⟨d4o, d4p, c7U, b6x, h⟩ := h
   obtain ⟨e8H, g7l, c3o, b6x⟩ := b6x
   refine a7 (c0v c3o _ _ _ _ d4o d4p) ?_
   refine b8 (ld1 (v := (vs c7U)) Tryd.isAgg124 (I.atH b6x)) ?_
   obtain ⟨b7S, d4q, h⟩ := h
   obtain ⟨g3a, h⟩ := h
   refine b0x (s := b7T) (xs := a2O) I c7Y (SlH.src I d4q M0) g3a fun c2W b9C C3 a4M a5W c7E => ?_
   refine a7 (E4 _ _ _ _ _ _) ?_
   exact hn3 _ _ _ (hm3 _ _ h).2 ⟨((a2O ++ b7S), (IntKind.wrap .i64 (a1Z + 1))), H, c2W, b9C, rfl, rfl, a4M, a5W, (hm3 _ _ h).1⟩
  ·replace h := h.2 d4n
   exact hx2 _ _ (hj2 a2O b7T Fs6l3 H _ c7Y I h)
 refine A8 fun j1 hx1 => ?_
 refine a7 (b7r _ _ _) ?_
 obtain ⟨d4r, c3p, g3b, g3c⟩ := h
 refine L9 (J := fun n l w => ∃ (s : Int × Int) (H : Hp) , n = c3p s ∧ l = (match s with | (a5F, a1J) => [(vi a5F), (vi a1J)]) ∧ (match s with | (a5F, a1J) => Inv w0 ps0 H0 H [] w) ∧ d4r s H) ⟨_, (0, 0), H, rfl, rfl, I, g3b⟩ ?_
 rintro g7m τ_55 w next4 ⟨⟨a5F, a1J⟩, H, rfl, d4s, I, g3d⟩ hn4
 dsimp only at d4s I
 simp only [List.map_cons, List.map_nil, List.cons.injEq, and_true] at d4s
 obtain ⟨e3, e11⟩ := d4s
 simp only [e3, e11]
 obtain ⟨n4, hm4, h⟩ : ∃ n4 : (Int × Int) → Hp → Prop, (∀ s' H', n4 s' H' → d4r s' H' ∧ c3p s' < c3p (a5F, a1J)) ∧ B7 x0 x0 (x0.n : Int) a5F a1J H n4 K := ⟨_, fun _ _ h => h, g3c (a5F, a1J) H (fun s' H' => d4r s' H' ∧ c3p s' < c3p (a5F, a1J)) g3d (fun _ _ a b => ⟨a, b⟩)⟩
 unfold d0c
 unfold B7 at h
 refine a7 (B8 _ _ _ _ _ _) ?_
 refine i4 (fun d4t => ?_) (fun d4t => ?_)
 ·replace h := h.1 d4t
  have hj5 : ∀ (b9H : Int) (H : Hp) (w : World) (_ : Inv w0 ps0 H0 H [] w) (_ : B3 x0 b9H x0 (x0.n : Int) a1J H n4 K), c1T (vs x0) (vi b9H) (vs x0) (vi (x0.n : Int)) (vi a1J) w next4 R E := by
   intro b9H H w I h
   unfold c1T
   intro _
   unfold B3 at h
   refine a7 (E4 _ _ _ _ _ _) ?_
   exact hn4 _ _ _ (hm4 _ _ h).2 ⟨(b9H, (IntKind.wrap .i64 (a1J + 1))), H, rfl, rfl, I, (hm4 _ _ h).1⟩
  refine A8 fun j5 hx5 => ?_
  obtain ⟨h_4, h_5, x_1, h_7, h⟩ := h
  obtain ⟨g_2, o_3, h_6, h_7⟩ := h_7
  refine a7 (c0v h_6 _ _ _ _ h_4 h_5) ?_
  refine b8 (ld1 (v := (vs x_1)) Tryd.isAgg124 (I.atH h_7)) ?_
  refine a7 (a7j _ _ _) ?_
  refine a7 (E4 _ _ _ _ _ _) ?_
  refine a7 (B8 _ _ _ _ _ _) ?_
  refine i4 (fun c_8 => ?_) (fun c_8 => ?_)
  ·replace h := h.1 c_8
   refine a7 (c9Y _) ?_
   exact h.elim
  ·replace h := h.2 c_8
   exact hx5 _ _ (hj5 (IntKind.wrap .i64 (a5F + (x_1.n : Int))) H _ I h)
 ·replace h := h.2 d4t
  exact hx1 _ _ (hj1 a5F H _ I h)
theorem a1d (x0 : Sl) {H : Hp} {K : Sl → Hp → Prop} (h : C0 x0 H K) : y9 x0 H K := by
 intro w I
 refine e5e ?_
 refine a0U x0 I (fun r0 H' w' I' hk => ⟨H', _, I', r0, rfl, rfl, hk⟩) h
def v8 (V2 : (List a8)) (H : Hp) (K : Sl → Hp → Prop) : Prop :=
 ∀ (E0 : Sl) (Y8 : Hp), Hle H Y8 → SlH Y8 1 o3 E0 V2 → E0.n ≤ E0.c →
 K E0 Y8
def y8 (a0w : Sl) (Y9 : Int) (r9 : (List a8)) (q8 : Int) (H : Hp) (n2 : ((List a8) × Int) → Hp → Prop) (K : Sl → Hp → Prop) : Prop :=
 (q8 < Y9 →
 (0 : Int) ≤ q8 ∧ (q8 : Int) < a0w.n ∧ ∃ x_1 : d8, EltH H a0w q8 4 (b6 x_1) ∧
 a5C x_1 H (fun (P0 : a8) (Z0 : Hp) =>
 (r9.length + ([P0] : List a8).length) * 17 ≤ 140737488355328 ∧
 n2 ((r9 ++ [P0]), (IntKind.wrap .i64 (q8 + 1))) Z0)) ∧
 (¬ (q8 < Y9) →
 v8 r9 H K)
def A6 (x0 : Sl) (H : Hp) (K : Sl → Hp → Prop) : Prop :=
 TL (([], 0) : (List a8) × Int) H fun (s : (List a8) × Int) H n2 => y8 x0 (x0.n : Int) s.1 s.2 H n2 K
theorem Y4 (x0 : Sl) {K : Sl → Hp → Prop} (I : Inv w0 ps0 H0 H [] w) (hR : ∀ (r0 : Sl) (H' : Hp) (w' : World) (_ : Inv w0 ps0 H0 H' [] w') (_ : K r0 H'), R (vs r0) w') (h : A6 x0 H K) : c7g (vs x0) (fC 172) w R E := by
 unfold A6 at h
 unfold c7g
 have hj1 : ∀ (V2 : (List a8)) (E0 : Sl) (Fs5j1 : Frag) (H : Hp) (w : World) (_ : RowL 152 1 o3 E0 V2 Fs5j1) (_ : Inv w0 ps0 H0 H [Fs5j1] w) (_ : v8 V2 H K), b9q (vs E0) w R E := by
  intro V2 E0 Fs5j1 H w b1H I h
  unfold b9q
  intro _
  unfold v8 at h
  obtain ⟨Y8, a5V, b3w, a8o, b0d⟩ := Inv.freezeC I b1H (by decide)
  replace h := h E0 Y8 b3w a8o b0d
  exact hR E0 Y8 _ a5V h
 refine A8 fun j1 hx1 => ?_
 refine a7 (a2s _ _ _) ?_
 obtain ⟨a4K, a1j, b6b, b6c⟩ := h
 refine L9 (J := fun n l w => ∃ (s : (List a8) × Int) (H : Hp) (V3 : Sl) (Fs5l2 : Frag) , n = a1j s ∧ l = (match s with | (r9, q8) => [(vs V3), (vi q8)]) ∧ (match s with | (r9, q8) => RowL 152 1 o3 V3 r9 Fs5l2) ∧ (match s with | (r9, q8) => Inv w0 ps0 H0 H [Fs5l2] w) ∧ a4K s H) ⟨_, ([], 0), H, (Sl.mk none 0 0), [], rfl, rfl, (RowL.nil M0 O2), I.nil, b6b⟩ ?_
 rintro d3l τ_50 w next2 ⟨⟨r9, q8⟩, H, V3, Fs5l2, rfl, a4L, a2M, I, b6d⟩ hn2
 dsimp only at a4L I a2M
 simp only [List.map_cons, List.map_nil, List.cons.injEq, and_true] at a4L
 obtain ⟨e5, e10⟩ := a4L
 simp only [e5, e10]
 obtain ⟨n2, hm2, h⟩ : ∃ n2 : ((List a8) × Int) → Hp → Prop, (∀ s' H', n2 s' H' → a4K s' H' ∧ a1j s' < a1j (r9, q8)) ∧ y8 x0 (x0.n : Int) r9 q8 H n2 K := ⟨_, fun _ _ h => h, b6c (r9, q8) H (fun s' H' => a4K s' H' ∧ a1j s' < a1j (r9, q8)) b6d (fun _ _ a b => ⟨a, b⟩)⟩
 unfold c5V
 unfold y8 at h
 refine a7 (B8 _ _ _ _ _ _) ?_
 refine i4 (fun a2L => ?_) (fun a2L => ?_)
 ·replace h := h.1 a2L
  obtain ⟨h_4, h_5, x_1, h_7, h⟩ := h
  obtain ⟨g_2, o_3, h_6, h_7⟩ := h_7
  refine a7 (a1f h_6 _ _ _ _ h_4 h_5) ?_
  refine b8 (ldA (vs := (b6 x_1)) Tryd.isAgg24 Tryd.sizeOf24 rfl (I.atH h_7)) ?_
  refine z7 I Tryd.zeroValue24 (cs := [(vi 0), (vi 0), (eS), (nS)]) rfl fun g_9 m8 a3x b6e => ?_
  refine m9 a3x Tryd.sizeOf24 (vs := (b6 x_1)) (cs' := (b6 x_1)) rfl rfl (nb rfl) rfl rfl fun Y6 M6 a1z => ?_
  refine b8 (ldA Tryd.isAgg24 Tryd.sizeOf24 rfl (M6.at1 (o := 0) (vs := (b6 x_1)) (nb rfl) rfl)) ?_
  refine d5 (cap := []) (fun args w => Tryd.call172 args w) ?_
  refine m5 (Fi := []) (Fr := [bx g_9 24 (b6 x_1), Fs5l2]) M6 (h) (fun c7B Z0 c7C a2k a4J b9B c7D b1I => ?_) (fun _ _ _ _ _ q => q.elim)
  obtain ⟨P0, rfl, rfl, h⟩ := b1I
  refine U3 (e := 152) (c := o3) (xs := [P0]) a4J (b1n _) rfl rfl M0 O2 (nb rfl) fun c2W b9C C3 a4M a5W c7E => ?_
  obtain ⟨b1J, h⟩ := h
  refine b0x (s := V3) (xs := r9) (a5W.bring 2) a2M (a4M.srcO ((a5W.bring 2).bring 1)) b1J fun b6f b6g D2 b1D a6U c7F => ?_
  refine a7 (E4 _ _ _ _ _ _) ?_
  exact hn2 _ _ _ (hm2 _ _ h).2 ⟨((r9 ++ [P0]), (IntKind.wrap .i64 (q8 + 1))), Z0, b6f, b6g, rfl, rfl, b1D, ((a6U.bring 1).drop.bring 1).drop, (hm2 _ _ h).1⟩
 ·replace h := h.2 a2L
  exact hx1 _ _ (hj1 r9 V3 Fs5l2 H _ a2M I h)
theorem Z9 (x0 : Sl) {H : Hp} {K : Sl → Hp → Prop} (h : A6 x0 H K) : r7 x0 H K := by
 intro w I
 refine d9I ?_
 refine Y4 x0 I (fun r0 H' w' I' hk => ⟨H', _, I', r0, rfl, rfl, hk⟩) h
def V8 (x0 : K3) (H : Hp) (K : Sl → Hp → Prop) : Prop :=
 z8 x0.d7.r5 H (fun (a5E : Sl) (H_8 : Hp) =>
 r7 x0.d7.i7 H_8 (fun (a3r : Sl) (a8p : Hp) =>
 r6 x0.d7.G7 a8p (fun (b4S : Sl) (a2P : Hp) =>
 r6 x0.d7.G0 a2P (fun (b2f : Sl) (a6Y : Hp) =>
 ∀ (a5G : Sl) (b3E : Hp), Hle a6Y b3E → SlH b3E 1 csl a5G [a5E, a3r, b4S, b2f] → a5G.n ≤ a5G.c →
 y9 a5G b3E (fun (c7Z : Sl) (d4u : Hp) =>
 K c7Z d4u)))))
theorem a7s (x0 : K3) {K : Sl → Hp → Prop} (I : Inv w0 ps0 H0 H [] w) (hR : ∀ (r0 : Sl) (H' : Hp) (w' : World) (_ : Inv w0 ps0 H0 H' [] w') (_ : K r0 H'), R (vs r0) w') (h : V8 x0 H K) : c7q (Value.agg (d9 x0.d7).toArray) w R E := by
 unfold V8 at h
 unfold c7q
 refine L8 I (cs := (d9 x0.d7)) rfl fun g_2 w_3 I_4 k_5 => ?_
 refine a0p I_4 fun w_6 I_7 => ?_
 refine j8 G9 ?_
 refine j8 a7i ?_
 refine j8 G9 ?_
 refine j8 a5j ?_
 refine j8 G9 ?_
 refine j8 a5k ?_
 refine j8 G9 ?_
 refine j8 a5l ?_
 refine u0 (ld1 Tryd.isAgg25 (I_7.at1 (o := 3) (vs := [(vs x0.d7.r5)]) (nb rfl) rfl)) ?_
 refine u0 (ld1 Tryd.isAgg22 (I_7.at1 (o := 2) (vs := [(vs x0.d7.i7)]) (nb rfl) rfl)) ?_
 refine u0 (ld1 Tryd.isAgg42 (I_7.at1 (o := 4) (vs := [(vs x0.d7.G7)]) (nb rfl) rfl)) ?_
 refine u0 (ld1 Tryd.isAgg42 (I_7.at1 (o := 5) (vs := [(vs x0.d7.G0)]) (nb rfl) rfl)) ?_
 refine d5 (cap := []) (fun args w => Tryd.call175 args w) ?_
 refine m5 (Fi := []) (Fr := [bx g_2 179 (d9 x0.d7)]) I_7 (h) (fun e8M H_8 d3m w_9 b1M e8N b6h c2X => ?_) (fun _ _ _ _ _ q => q.elim)
 obtain ⟨a5E, rfl, rfl, h⟩ := c2X
 refine ⟨(b6h _ I_7.lt1 (Inv.a5f (Fi := []) I_7)), (b6h _ I_7.lt1 (Inv.a5f (Fi := []) I_7)), (b6h _ I_7.lt1 (Inv.a5f (Fi := []) I_7)), ?_⟩
 refine d5 (cap := []) (fun args w => Tryd.call171 args w) ?_
 refine m5 (Fi := []) (Fr := [bx g_2 179 (d9 x0.d7)]) b1M (h) (fun d3n a8p d3o q7 a4k d3p b3x b6i => ?_) (fun _ _ _ _ _ q => q.elim)
 obtain ⟨a3r, rfl, rfl, h⟩ := b6i
 refine ⟨(b3x _ b1M.lt1 (Inv.a5f (Fi := []) b1M)), (b3x _ b1M.lt1 (Inv.a5f (Fi := []) b1M)), ?_⟩
 refine d5 (cap := []) (fun args w => Tryd.call90 args w) ?_
 refine m5 (Fi := []) (Fr := [bx g_2 179 (d9 x0.d7)]) a4k (h) (fun g3e a2P g3f a3j a8l b9I d4v d4w => ?_) (fun _ _ _ _ _ q => q.elim)
 obtain ⟨b4S, rfl, rfl, h⟩ := d4w
 refine ⟨(d4v _ a4k.lt1 (Inv.a5f (Fi := []) a4k)), ?_⟩
 refine d5 (cap := []) (fun args w => Tryd.call90 args w) ?_
 refine m5 (Fi := []) (Fr := [bx g_2 179 (d9 x0.d7)]) a8l (h) (fun g3g a6Y g3h F7 d4x g3i g3j d4y => ?_) (fun _ _ _ _ _ q => q.elim)
 obtain ⟨b2f, rfl, rfl, h⟩ := d4y
 refine U3 (e := 124) (c := csl) (xs := [a5E, a3r, b4S, b2f]) d4x (d2V _ _ _ _ _ _ _ _ _ _ _ _) rfl rfl b4w b4x (nb rfl) fun a5G c3q b5T d4z b6k d3w => ?_
 obtain ⟨b3E, b0i, g3k, c3e, g3l⟩ := Inv.freezeC b6k d4z (by decide)
 replace h := h a5G b3E g3k c3e g3l
 refine d5 (cap := []) (fun args w => Tryd.call87 args w) ?_
 refine m5 (Fi := []) (Fr := [bx g_2 179 (d9 x0.d7)]) b0i (h) (fun g7n d4u g7o d4A g3m g7p g7q g3n => ?_) (fun _ _ _ _ _ q => q.elim)
 obtain ⟨c7Z, rfl, rfl, h⟩ := g3n
 exact hR c7Z d4u _ g3m.drop h
theorem a8I (x0 : K3) {H : Hp} {K : Sl → Hp → Prop} (h : V8 x0 H K) : a3w x0 H K := by
 intro w I
 refine e0A ?_
 refine a7s x0 I (fun r0 H' w' I' hk => ⟨H', _, I', r0, rfl, rfl, hk⟩) h
end Go.Proofs.YtnhkdkcgdcgmdaaDoor
