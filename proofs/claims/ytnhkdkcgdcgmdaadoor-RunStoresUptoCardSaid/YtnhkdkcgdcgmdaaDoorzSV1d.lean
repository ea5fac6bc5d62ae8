/- Typed formulas of the program's functions, and the theorems that the contracts follow from them; printed by lift.py off the code. -/
import Derived.Test.YtnhkdkcgdcgmdaaDoorzSV1
namespace Go.Proofs.YtnhkdkcgdcgmdaaDoor
open Go.RowKit
set_option maxRecDepth 100000
set_option maxHeartbeats 2000000
variable {w0 w : World} {ps0 : Nat → Prop} {H0 H : Hp} {R : RT} {E : Pan}
def A9 (b4M : Bool) (g5Q : Int) (H : Hp) (K : Int → Hp → Prop) : Prop :=
 (b4M = true →
 K 3 H) ∧
 (b4M = false →
 K 6 H)
def L6 (b4N : Bool) (a0H : Int) (H : Hp) (K : Int → Hp → Prop) : Prop :=
 (b4N = true →
 K 6 H) ∧
 (b4N = false →
 E5 48 57 a0H H (fun (a0k : Bool) (H_6 : Hp) =>
 (a0k = true →
 K 4 H_6) ∧
 (a0k = false →
 (a0H = 95 →
 A9 (decide (a0H = 95)) a0H H_6 K) ∧
 (¬ (a0H = 95) →
 E5 97 122 a0H H_6 (fun (P5 : Bool) (Z0 : Hp) =>
 (P5 = true →
 A9 P5 a0H Z0 K) ∧
 (P5 = false →
 E5 65 90 a0H Z0 (fun (b7F : Bool) (c7S : Hp) =>
 (b7F = true →
 A9 b7F a0H c7S K) ∧
 (b7F = false →
 E5 192 591 a0H c7S (fun (b7G : Bool) (c7T : Hp) =>
 (b7G = true →
 A9 b7G a0H c7T K) ∧
 (b7G = false →
 E5 913 969 a0H c7T (fun (a2K : Bool) (a4n : Hp) =>
 (a2K = true →
 A9 a2K a0H a4n K) ∧
 (a2K = false →
 E5 1040 1103 a0H a4n (fun (c7U : Bool) (d4e : Hp) =>
 A9 c7U a0H d4e K)))))))))))))
def k5 (b6j : Int) (b1Q : Bool) (a4q : Int) (H : Hp) (K : Int → Hp → Prop) : Prop :=
 (b1Q = true →
 K 5 H) ∧
 (b1Q = false →
 (b6j = 215 →
 L6 (decide (b6j = 215)) a4q H K) ∧
 (¬ (b6j = 215) →
 (b6j = 247 →
 L6 (decide (b6j = 247)) a4q H K) ∧
 (¬ (b6j = 247) →
 L6 (decide (b6j = 930)) a4q H K)))
def L8 (r7 : Int) (b1L : Bool) (E2 : Int) (H : Hp) (K : Int → Hp → Prop) : Prop :=
 (b1L = true →
 K 1 H) ∧
 (b1L = false →
 (r7 = 10 →
 K 2 H) ∧
 (¬ (r7 = 10) →
 (r7 = 59 →
 k5 r7 (decide (r7 = 59)) E2 H K) ∧
 (¬ (r7 = 59) →
 (r7 = 44 →
 k5 r7 (decide (r7 = 44)) E2 H K) ∧
 (¬ (r7 = 44) →
 (r7 = 123 →
 k5 r7 (decide (r7 = 123)) E2 H K) ∧
 (¬ (r7 = 123) →
 (r7 = 125 →
 k5 r7 (decide (r7 = 125)) E2 H K) ∧
 (¬ (r7 = 125) →
 (r7 = 40 →
 k5 r7 (decide (r7 = 40)) E2 H K) ∧
 (¬ (r7 = 40) →
 (r7 = 41 →
 k5 r7 (decide (r7 = 41)) E2 H K) ∧
 (¬ (r7 = 41) →
 (r7 = 91 →
 k5 r7 (decide (r7 = 91)) E2 H K) ∧
 (¬ (r7 = 91) →
 (r7 = 93 →
 k5 r7 (decide (r7 = 93)) E2 H K) ∧
 (¬ (r7 = 93) →
 (r7 = 61 →
 k5 r7 (decide (r7 = 61)) E2 H K) ∧
 (¬ (r7 = 61) →
 (r7 = 33 →
 k5 r7 (decide (r7 = 33)) E2 H K) ∧
 (¬ (r7 = 33) →
 (r7 = 60 →
 k5 r7 (decide (r7 = 60)) E2 H K) ∧
 (¬ (r7 = 60) →
 (r7 = 62 →
 k5 r7 (decide (r7 = 62)) E2 H K) ∧
 (¬ (r7 = 62) →
 (r7 = 43 →
 k5 r7 (decide (r7 = 43)) E2 H K) ∧
 (¬ (r7 = 43) →
 (r7 = 45 →
 k5 r7 (decide (r7 = 45)) E2 H K) ∧
 (¬ (r7 = 45) →
 (r7 = 42 →
 k5 r7 (decide (r7 = 42)) E2 H K) ∧
 (¬ (r7 = 42) →
 (r7 = 47 →
 k5 r7 (decide (r7 = 47)) E2 H K) ∧
 (¬ (r7 = 47) →
 (r7 = 37 →
 k5 r7 (decide (r7 = 37)) E2 H K) ∧
 (¬ (r7 = 37) →
 (r7 = 38 →
 k5 r7 (decide (r7 = 38)) E2 H K) ∧
 (¬ (r7 = 38) →
 k5 r7 (decide (r7 = 124)) E2 H K))))))))))))))))))))
def a1q (x0 : Int) (H : Hp) (K : Int → Hp → Prop) : Prop :=
 (x0 = 32 →
 L8 x0 (decide (x0 = 32)) x0 H K) ∧
 (¬ (x0 = 32) →
 (x0 = 9 →
 L8 x0 (decide (x0 = 9)) x0 H K) ∧
 (¬ (x0 = 9) →
 L8 x0 (decide (x0 = 13)) x0 H K))
theorem b1R (x0 : Int) {K : Int → Hp → Prop} (I : Inv w0 ps0 H0 H [] w) (hR : ∀ (r0 : Int) (H' : Hp) (w' : World) (_ : Inv w0 ps0 H0 H' [] w') (_ : K r0 H'), R (vi r0) w') (h : a1q x0 H K) : c7d (Value.int .i32 x0) w R E := by
 unfold a1q at h
 unfold c7d
 refine P2 I (cs := [(Value.int .i32 x0)]) rfl fun g_2 w_3 I_4 k_5 => ?_
 refine b6 (ld1 Tryd.isAgg21 (I_4.at1 (o := 0) (vs := [(Value.int .i32 x0)]) (nb rfl) rfl)) ?_
 have hj1 : ∀ (b1L : Bool) (H : Hp) (w : World) (_ : Inv w0 ps0 H0 H [bx g_2 21 [(Value.int .i32 x0)]] w) (_ : L8 x0 b1L x0 H K), b9l (Value.pointer (some ⟨g_2, 0, none⟩)) (Value.int .i32 x0) (vB b1L) w R E := by
  intro b1L H w I h
  unfold b9l
  intro _
  unfold L8 at h
  refine o8 (fun d4f => ?_) (fun d4f => ?_)
  ·replace h := h.1 d4f
   exact hR 1 H _ I.drop h
  ·replace h := h.2 d4f
   refine a7 (i6 _ _ _ _ _ _) ?_
   refine i2 (fun d4g => ?_) (fun d4g => ?_)
   ·replace h := h.1 d4g
    exact hR 2 H _ I.drop h
   ·replace h := h.2 d4g
    have hj2 : ∀ (b1Q : Bool) (H : Hp) (w : World) (_ : Inv w0 ps0 H0 H [bx g_2 21 [(Value.int .i32 x0)]] w) (_ : k5 x0 b1Q x0 H K), b9k (Value.pointer (some ⟨g_2, 0, none⟩)) (Value.int .i32 x0) (vB b1Q) w R E := by
     intro b1Q H w I h
     unfold b9k
     intro _
     unfold k5 at h
     refine o8 (fun d4h => ?_) (fun d4h => ?_)
     ·replace h := h.1 d4h
      exact hR 5 H _ I.drop h
     ·replace h := h.2 d4h
      have hj3 : ∀ (b4N : Bool) (H : Hp) (w : World) (_ : Inv w0 ps0 H0 H [bx g_2 21 [(Value.int .i32 x0)]] w) (_ : L6 b4N x0 H K), b9j (Value.pointer (some ⟨g_2, 0, none⟩)) (vB b4N) w R E := by
       intro b4N H w I h
       unfold b9j
       intro _
       unfold L6 at h
       refine o8 (fun b6k => ?_) (fun b6k => ?_)
       ·replace h := h.1 b6k
        exact hR 6 H _ I.drop h
       ·replace h := h.2 b6k
        refine a7 (a9K _ _ _) ?_
        refine d6 (cap := [(Value.pointer (some ⟨g_2, 0, none⟩))]) (fun args w => Tryd.call151 args w) ?_
        refine m6 (Fi := [bx g_2 21 [(Value.int .i32 x0)]]) (Fr := []) I (h g_2) (fun c7K H_6 c7L w_7 I_8 c7M k_9 b1K => ?_) (fun _ _ _ _ _ q => q.elim)
        obtain ⟨a0k, rfl, rfl, h⟩ := b1K
        refine o8 (fun d4i => ?_) (fun d4i => ?_)
        ·replace h := h.1 d4i
         exact hR 4 H_6 _ I_8.drop h
        ·replace h := h.2 d4i
         have hj4 : ∀ (b4M : Bool) (H : Hp) (w : World) (_ : Inv w0 ps0 H0 H [bx g_2 21 [(Value.int .i32 x0)]] w) (_ : A9 b4M x0 H K), b9i (vB b4M) w R E := by
          intro b4M H w I h
          unfold b9i
          intro _
          unfold A9 at h
          refine o8 (fun a4O => ?_) (fun a4O => ?_)
          ·replace h := h.1 a4O
           exact hR 3 H _ I.drop h
          ·replace h := h.2 a4O
           exact hR 6 H _ I.drop h
         refine A6 fun j4 hx4 => ?_
         refine b6 (ld1 Tryd.isAgg21 (I_8.at1 (o := 0) (vs := [(Value.int .i32 x0)]) (nb rfl) rfl)) ?_
         refine a7 (i6 _ _ _ _ _ _) ?_
         refine i2 (fun d4j => ?_) (fun d4j => ?_)
         ·replace h := h.1 d4j
          exact hx4 _ _ (hj4 (decide (x0 = 95)) H_6 _ I_8 h)
         ·replace h := h.2 d4j
          refine d6 (cap := [(Value.pointer (some ⟨g_2, 0, none⟩))]) (fun args w => Tryd.call151 args w) ?_
          refine m6 (Fi := [bx g_2 21 [(Value.int .i32 x0)]]) (Fr := []) I_8 (h g_2) (fun c7E Z0 c7F a2k a4J b9E c7G b1B => ?_) (fun _ _ _ _ _ q => q.elim)
          obtain ⟨P5, rfl, rfl, h⟩ := b1B
          refine o8 (fun d4k => ?_) (fun d4k => ?_)
          ·replace h := h.1 d4k
           exact hx4 _ _ (hj4 P5 Z0 _ a4J h)
          ·replace h := h.2 d4k
           refine d6 (cap := [(Value.pointer (some ⟨g_2, 0, none⟩))]) (fun args w => Tryd.call151 args w) ?_
           refine m6 (Fi := [bx g_2 21 [(Value.int .i32 x0)]]) (Fr := []) a4J (h g_2) (fun g7Q c7S g7R z6 c3l e9Y g3D g3E => ?_) (fun _ _ _ _ _ q => q.elim)
           obtain ⟨b7F, rfl, rfl, h⟩ := g3E
           refine o8 (fun d4l => ?_) (fun d4l => ?_)
           ·replace h := h.1 d4l
            exact hx4 _ _ (hj4 b7F c7S _ c3l h)
           ·replace h := h.2 d4l
            refine d6 (cap := [(Value.pointer (some ⟨g_2, 0, none⟩))]) (fun args w => Tryd.call151 args w) ?_
            refine m6 (Fi := [bx g_2 21 [(Value.int .i32 x0)]]) (Fr := []) c3l (h g_2) (fun g7S c7T g7T a9Y a6Q b3t c7I g3F => ?_) (fun _ _ _ _ _ q => q.elim)
            obtain ⟨b7G, rfl, rfl, h⟩ := g3F
            refine o8 (fun d4m => ?_) (fun d4m => ?_)
            ·replace h := h.1 d4m
             exact hx4 _ _ (hj4 b7G c7T _ a6Q h)
            ·replace h := h.2 d4m
             refine d6 (cap := [(Value.pointer (some ⟨g_2, 0, none⟩))]) (fun args w => Tryd.call151 args w) ?_
             refine m6 (Fi := [bx g_2 21 [(Value.int .i32 x0)]]) (Fr := []) a6Q (h g_2) (fun g3G a4n g3H F0 b9J g3I g3J d4n => ?_) (fun _ _ _ _ _ q => q.elim)
             obtain ⟨a2K, rfl, rfl, h⟩ := d4n
             refine o8 (fun d4o => ?_) (fun d4o => ?_)
             ·replace h := h.1 d4o
              exact hx4 _ _ (hj4 a2K a4n _ b9J h)
             ·replace h := h.2 d4o
              refine d6 (cap := [(Value.pointer (some ⟨g_2, 0, none⟩))]) (fun args w => Tryd.call151 args w) ?_
              refine m6 (Fi := [bx g_2 21 [(Value.int .i32 x0)]]) (Fr := []) b9J (h g_2) (fun g7U d4e g7V g7W g3K g7X g7Y g3L => ?_) (fun _ _ _ _ _ q => q.elim)
              obtain ⟨c7U, rfl, rfl, h⟩ := g3L
              exact hx4 _ _ (hj4 c7U d4e _ g3K h)
      refine A6 fun j3 hx3 => ?_
      refine a7 (i6 _ _ _ _ _ _) ?_
      refine i2 (fun b6l => ?_) (fun b6l => ?_)
      ·replace h := h.1 b6l
       exact hx3 _ _ (hj3 (decide (x0 = 215)) H _ I h)
      ·replace h := h.2 b6l
       refine a7 (i6 _ _ _ _ _ _) ?_
       refine i2 (fun a8h => ?_) (fun a8h => ?_)
       ·replace h := h.1 a8h
        exact hx3 _ _ (hj3 (decide (x0 = 247)) H _ I h)
       ·replace h := h.2 a8h
        refine a7 (i6 _ _ _ _ _ _) ?_
        exact hx3 _ _ (hj3 (decide (x0 = 930)) H _ I h)
    refine A6 fun j2 hx2 => ?_
    refine a7 (i6 _ _ _ _ _ _) ?_
    refine i2 (fun d4p => ?_) (fun d4p => ?_)
    ·replace h := h.1 d4p
     exact hx2 _ _ (hj2 (decide (x0 = 59)) H _ I h)
    ·replace h := h.2 d4p
     refine a7 (i6 _ _ _ _ _ _) ?_
     refine i2 (fun a8i => ?_) (fun a8i => ?_)
     ·replace h := h.1 a8i
      exact hx2 _ _ (hj2 (decide (x0 = 44)) H _ I h)
     ·replace h := h.2 a8i
      refine a7 (i6 _ _ _ _ _ _) ?_
      refine i2 (fun b6g => ?_) (fun b6g => ?_)
      ·replace h := h.1 b6g
       exact hx2 _ _ (hj2 (decide (x0 = 123)) H _ I h)
      ·replace h := h.2 b6g
       refine a7 (i6 _ _ _ _ _ _) ?_
       refine i2 (fun d4q => ?_) (fun d4q => ?_)
       ·replace h := h.1 d4q
        exact hx2 _ _ (hj2 (decide (x0 = 125)) H _ I h)
       ·replace h := h.2 d4q
        refine a7 (i6 _ _ _ _ _ _) ?_
        refine i2 (fun d4r => ?_) (fun d4r => ?_)
        ·replace h := h.1 d4r
         exact hx2 _ _ (hj2 (decide (x0 = 40)) H _ I h)
        ·replace h := h.2 d4r
         refine a7 (i6 _ _ _ _ _ _) ?_
         refine i2 (fun d4s => ?_) (fun d4s => ?_)
         ·replace h := h.1 d4s
          exact hx2 _ _ (hj2 (decide (x0 = 41)) H _ I h)
         ·replace h := h.2 d4s
          refine a7 (i6 _ _ _ _ _ _) ?_
          refine i2 (fun b6m => ?_) (fun b6m => ?_)
          ·replace h := h.1 b6m
           exact hx2 _ _ (hj2 (decide (x0 = 91)) H _ I h)
          ·replace h := h.2 b6m
           refine a7 (i6 _ _ _ _ _ _) ?_
           refine i2 (fun b6i => ?_) (fun b6i => ?_)
           ·replace h := h.1 b6i
            exact hx2 _ _ (hj2 (decide (x0 = 93)) H _ I h)
           ·replace h := h.2 b6i
            refine a7 (i6 _ _ _ _ _ _) ?_
            refine i2 (fun d4t => ?_) (fun d4t => ?_)
            ·replace h := h.1 d4t
             exact hx2 _ _ (hj2 (decide (x0 = 61)) H _ I h)
            ·replace h := h.2 d4t
             refine a7 (i6 _ _ _ _ _ _) ?_
             refine i2 (fun d4u => ?_) (fun d4u => ?_)
             ·replace h := h.1 d4u
              exact hx2 _ _ (hj2 (decide (x0 = 33)) H _ I h)
             ·replace h := h.2 d4u
              refine a7 (i6 _ _ _ _ _ _) ?_
              refine i2 (fun d4v => ?_) (fun d4v => ?_)
              ·replace h := h.1 d4v
               exact hx2 _ _ (hj2 (decide (x0 = 60)) H _ I h)
              ·replace h := h.2 d4v
               refine a7 (i6 _ _ _ _ _ _) ?_
               refine i2 (fun d4w => ?_) (fun d4w => ?_)
               ·replace h := h.1 d4w
                exact hx2 _ _ (hj2 (decide (x0 = 62)) H _ I h)
               ·replace h := h.2 d4w
                refine a7 (i6 _ _ _ _ _ _) ?_
                refine i2 (fun d4x => ?_) (fun d4x => ?_)
                ·replace h := h.1 d4x
                 exact hx2 _ _ (hj2 (decide (x0 = 43)) H _ I h)
                ·replace h := h.2 d4x
                 refine a7 (i6 _ _ _ _ _ _) ?_
                 refine i2 (fun b6n => ?_) (fun b6n => ?_)
                 ·replace h := h.1 b6n
                  exact hx2 _ _ (hj2 (decide (x0 = 45)) H _ I h)
                 ·replace h := h.2 b6n
                  refine a7 (i6 _ _ _ _ _ _) ?_
                  refine i2 (fun b6o => ?_) (fun b6o => ?_)
                  ·replace h := h.1 b6o
                   exact hx2 _ _ (hj2 (decide (x0 = 42)) H _ I h)
                  ·replace h := h.2 b6o
                   refine a7 (i6 _ _ _ _ _ _) ?_
                   refine i2 (fun d4y => ?_) (fun d4y => ?_)
                   ·replace h := h.1 d4y
                    exact hx2 _ _ (hj2 (decide (x0 = 47)) H _ I h)
                   ·replace h := h.2 d4y
                    refine a7 (i6 _ _ _ _ _ _) ?_
                    refine i2 (fun d4z => ?_) (fun d4z => ?_)
                    ·replace h := h.1 d4z
                     exact hx2 _ _ (hj2 (decide (x0 = 37)) H _ I h)
                    ·replace h := h.2 d4z
                     refine a7 (i6 _ _ _ _ _ _) ?_
                     refine i2 (fun b6p => ?_) (fun b6p => ?_)
                     ·replace h := h.1 b6p
                      exact hx2 _ _ (hj2 (decide (x0 = 38)) H _ I h)
                     ·replace h := h.2 b6p
                      refine a7 (i6 _ _ _ _ _ _) ?_
                      exact hx2 _ _ (hj2 (decide (x0 = 124)) H _ I h)
 refine A6 fun j1 hx1 => ?_
 refine a7 (i6 _ _ _ _ _ _) ?_
 refine i2 (fun d4A => ?_) (fun d4A => ?_)
 ·replace h := h.1 d4A
  exact hx1 _ _ (hj1 (decide (x0 = 32)) H _ I_4 h)
 ·replace h := h.2 d4A
  refine a7 (i6 _ _ _ _ _ _) ?_
  refine i2 (fun d4B => ?_) (fun d4B => ?_)
  ·replace h := h.1 d4B
   exact hx1 _ _ (hj1 (decide (x0 = 9)) H _ I_4 h)
  ·replace h := h.2 d4B
   refine a7 (i6 _ _ _ _ _ _) ?_
   exact hx1 _ _ (hj1 (decide (x0 = 13)) H _ I_4 h)
theorem b2D (x0 : Int) {H : Hp} {K : Int → Hp → Prop} (h : a1q x0 H K) : a1m x0 H K := by
 intro w I
 refine e0r ?_
 refine b1R x0 I (fun r0 H' w' I' hk => ⟨H', _, I', r0, rfl, rfl, hk⟩) h
def a1r (x0 : Int) (H : Hp) (K : Bool → Hp → Prop) : Prop :=
 a1m x0 H (fun (C4 : Int) (H_1 : Hp) =>
 K ((decide (C4 = 3)) || (decide (C4 = 4))) H_1)
theorem b1S (x0 : Int) {K : Bool → Hp → Prop} (I : Inv w0 ps0 H0 H [] w) (hR : ∀ (r0 : Bool) (H' : Hp) (w' : World) (_ : Inv w0 ps0 H0 H' [] w') (_ : K r0 H'), R (vB r0) w') (h : a1r x0 H K) : c7c (Value.int .i32 x0) w R E := by
 unfold a1r at h
 unfold c7c
 refine d6 (cap := []) (fun args w => Tryd.call141 args w) ?_
 refine m6 (Fi := []) (Fr := []) I (h) (fun v_5 H_1 F_6 w_2 I_3 l_8 k_4 q_7 => ?_) (fun _ _ _ _ _ q => q.elim)
 obtain ⟨C4, rfl, rfl, h⟩ := q_7
 refine a7 (i6 _ _ _ _ _ _) ?_
 simp only [G8]
 refine a7 (Pu.g fun hb => by have d8 := hb; simp only [m8 d8]; exact (i6 _ _ _ _ _ _)) ?_
 refine a7 (T4 _ _) ?_
 exact hR ((decide (C4 = 3)) || (decide (C4 = 4))) H_1 _ I_3 h
theorem b2E (x0 : Int) {H : Hp} {K : Bool → Hp → Prop} (h : a1r x0 H K) : a3k x0 H K := by
 intro w I
 refine e0p ?_
 refine b1S x0 I (fun r0 H' w' I' hk => ⟨H', _, I', r0, rfl, rfl, hk⟩) h
def O6 (H : Hp) (K : Int → Hp → Prop) : Prop :=
 K (-1) H
def O7 (f9V : (List ByteArray)) (c3c : ByteArray) (a4S : Int) (a0z : Int) (H : Hp) (n2 : Int → Hp → Prop) (K : Int → Hp → Prop) : Prop :=
 (a0z < a4S →
 (0 : Int) ≤ a0z ∧ ∃ x_1 : ByteArray, (f9V)[(a0z : Int).toNat]? = some x_1 ∧
 (c3c = x_1 →
 K a0z H) ∧
 (¬ (c3c = x_1) →
 n2 (IntKind.wrap .i64 (a0z + 1)) H)) ∧
 (¬ (a0z < a4S) →
 O6 H K)
def R7 (x0 : (List ByteArray)) (x1 : ByteArray) (H : Hp) (K : Int → Hp → Prop) : Prop :=
 TL (0 : Int) H fun (s : Int) H n2 => O7 x0 x1 (x0.length : Int) s H n2 K
theorem a5O (x0 : (List ByteArray)) (x1 : ByteArray) (sx0 : Sl) (Fx0 : Frag) (hx0 : RowL 9 1 C1 sx0 x0 Fx0) {K : Int → Hp → Prop} (I : Inv w0 ps0 H0 H [Fx0] w) (hR : ∀ (r0 : Int) (H' : Hp) (w' : World) (_ : Inv w0 ps0 H0 H' [Fx0] w') (_ : K r0 H'), R (vi r0) w') (h : R7 x0 x1 H K) : c7e (vs sx0) (Value.string x1) w R E := by
 unfold R7 at h
 unfold c7e
 have hj1 : ∀ (H : Hp) (w : World) (_ : Inv w0 ps0 H0 H [Fx0] w) (_ : O6 H K), b9m w R E := by
  intro H w I h
  unfold b9m
  intro _
  unfold O6 at h
  exact hR (-1) H _ I h
 refine A6 fun j1 hx1 => ?_
 refine a7 (b7g Tryd.underlying104 hx0) ?_
 obtain ⟨d4C, c3m, g3M, g3N⟩ := h
 refine M6 (J := fun n l w => ∃ (s : Int) (H : Hp) , n = c3m s ∧ l = [(vi s)] ∧ Inv w0 ps0 H0 H [Fx0] w ∧ d4C s H) ⟨_, 0, H, rfl, rfl, I, g3M⟩ ?_
 rintro g7Z τ_15 w next2 ⟨a0z, H, rfl, d4D, I, a6T⟩ hn2
 simp only [List.map_cons, List.map_nil, List.cons.injEq, and_true] at d4D
 have e8 := d4D
 simp only [e8]
 obtain ⟨n2, hm2, h⟩ : ∃ n2 : Int → Hp → Prop, (∀ s' H', n2 s' H' → d4C s' H' ∧ c3m s' < c3m a0z) ∧ O7 x0 x1 (x0.length : Int) a0z H n2 K := ⟨_, fun _ _ h => h, g3N a0z H (fun s' H' => d4C s' H' ∧ c3m s' < c3m a0z) a6T (fun _ _ a b => ⟨a, b⟩)⟩
 unfold c6a
 unfold O7 at h
 refine a7 (B7 _ _ _ _ _ _) ?_
 refine i2 (fun c_9 => ?_) (fun c_9 => ?_)
 ·replace h := h.1 c_9
  obtain ⟨h_3, x_1, h_4, h⟩ := h
  obtain ⟨g_2, a_6, h_5, h_7⟩ := hx0.addr h_4
  refine a7 (d0s h_5 _ _ _ _ h_3 (hx0.lt h_3 h_4)) ?_
  refine b6 (ld1 (v := (Value.string x_1)) Tryd.isAgg9 (hx0.atW I h_5 h_4)) ?_
  refine a7 (a0F _ _ _ _ _) ?_
  refine i2 (fun c_8 => ?_) (fun c_8 => ?_)
  ·replace h := h.1 c_8
   exact hR a0z H _ I h
  ·replace h := h.2 c_8
   refine a7 (G6 _ _ _ _ _ _) ?_
   exact hn2 _ _ _ (hm2 _ _ h).2 ⟨(IntKind.wrap .i64 (a0z + 1)), H, rfl, rfl, I, (hm2 _ _ h).1⟩
 ·replace h := h.2 c_9
  exact hx1 _ _ (hj1 H _ I h)
theorem a6i (x0 : (List ByteArray)) (x1 : ByteArray) {H : Hp} {K : Int → Hp → Prop} (h : R7 x0 x1 H K) : Y7 x0 x1 H K := by
 intro sx0 Fx0 hx0 w I
 refine e0t ?_
 refine a5O x0 x1 sx0 Fx0 hx0 I (fun r0 H' w' I' hk => ⟨H', _, I', r0, rfl, rfl, hk⟩) h
def O8 (x0 : (List ByteArray)) (x1 : ByteArray) (H : Hp) (K : Bool → Hp → Prop) : Prop :=
 Y7 x0 x1 H (fun (C4 : Int) (H_1 : Hp) =>
 K (decide (0 ≤ C4)) H_1)
theorem a4T (x0 : (List ByteArray)) (x1 : ByteArray) (sx0 : Sl) (Fx0 : Frag) (hx0 : RowL 9 1 C1 sx0 x0 Fx0) {K : Bool → Hp → Prop} (I : Inv w0 ps0 H0 H [Fx0] w) (hR : ∀ (r0 : Bool) (H' : Hp) (w' : World) (_ : Inv w0 ps0 H0 H' [Fx0] w') (_ : K r0 H'), R (vB r0) w') (h : O8 x0 x1 H K) : c6Z (vs sx0) (Value.string x1) w R E := by
 unfold O8 at h
 unfold c6Z
 refine d6 (cap := []) (fun args w => Tryd.call142 args w) ?_
 refine m6 (Fi := [Fx0]) (Fr := []) I (h sx0 Fx0 hx0) (fun v_5 H_1 F_6 w_2 I_3 l_8 k_4 q_7 => ?_) (fun _ _ _ _ _ q => q.elim)
 obtain ⟨C4, rfl, rfl, h⟩ := q_7
 refine a7 (a6y _ _ _ _ _ _) ?_
 exact hR (decide (0 ≤ C4)) H_1 _ I_3 h
theorem a5j (x0 : (List ByteArray)) (x1 : ByteArray) {H : Hp} {K : Bool → Hp → Prop} (h : O8 x0 x1 H K) : K0 x0 x1 H K := by
 intro sx0 Fx0 hx0 w I
 refine e0j ?_
 refine a4T x0 x1 sx0 Fx0 hx0 I (fun r0 H' w' I' hk => ⟨H', _, I', r0, rfl, rfl, hk⟩) h
def t1 (a7C : Int) (a7D : Int) (a7E : Int) (a7F : Bool) (a7G : Bool) (a6j : (List ByteArray)) (H : Hp) (K : Bool → g7 → (List ByteArray) → Hp → Prop) : Prop :=
 K true (g7.mk a7C a7D a7E a7F a7G (Sl.mk none 0 0)) a6j H
def T6 (x0 : g7) (U0 : (List ByteArray)) (x1 : a8) (x2 : Int) (H : Hp) (K : Bool → g7 → (List ByteArray) → Hp → Prop) : Prop :=
 (4096 < (IntKind.wrap .i64 (x0.fnodes + 1)) →
 K false (g7.mk (IntKind.wrap .i64 (x0.fnodes + 1)) x0.fdepth 33 x0.fform x0.fnamed (Sl.mk none 0 0)) U0 H) ∧
 (¬ (4096 < (IntKind.wrap .i64 (x0.fnodes + 1))) →
 (64 < x2 →
 K false (g7.mk (IntKind.wrap .i64 (x0.fnodes + 1)) x0.fdepth 32 x0.fform x0.fnamed (Sl.mk none 0 0)) U0 H) ∧
 (¬ (64 < x2) →
 TG (x0.fform = false) (a2F x1 H) false H (fun (C6 : Bool) (b3A : Hp) =>
 a0s x1 b3A (fun (a1X : ByteArray) (b1T : Bool) (a8C : Hp) =>
 (b1T = true →
 TG (x0.fnamed = false) (a1R a1X a8C) false a8C (fun (a1s : Bool) (a9Z : Hp) =>
 K0 U0 a1X a9Z (fun (a2K : Bool) (a4n : Hp) =>
 ((!a2K) = true →
 (U0.length + ([a1X] : List ByteArray).length) * 17 ≤ 140737488355328 ∧
 t1 (IntKind.wrap .i64 (x0.fnodes + 1)) (if x2 > x0.fdepth then x2 else x0.fdepth) x0.fe (x0.fform || (!C6)) (x0.fnamed || (!a1s)) (U0 ++ [a1X]) a4n K) ∧
 ((!a2K) = false →
 t1 (IntKind.wrap .i64 (x0.fnodes + 1)) (if x2 > x0.fdepth then x2 else x0.fdepth) x0.fe (x0.fform || (!C6)) (x0.fnamed || (!a1s)) U0 a4n K)))) ∧
 (b1T = false →
 t1 (IntKind.wrap .i64 (x0.fnodes + 1)) (if x2 > x0.fdepth then x2 else x0.fdepth) x0.fe (x0.fform || (!C6)) x0.fnamed U0 a8C K)))))
theorem a6G (x0 : g7) (U0 : (List ByteArray)) (x1 : a8) (x2 : Int) (g0 : Nat) (S5 : Sl) (a1G : Frag) (a9A : RowL 9 1 C1 S5 U0 a1G) {K : Bool → g7 → (List ByteArray) → Hp → Prop} (I : Inv w0 ps0 H0 H [bx g0 106 [(vi x0.fnodes), (vi x0.fdepth), (vi x0.fe), (vB x0.fform), (vB x0.fnamed), (vs S5)], a1G] w) (hR : ∀ (r0 : Bool) (y0 : g7) (a4G : (List ByteArray)) (a2C : Sl) (a2D : Frag) (H' : Hp) (w' : World) (_ : RowL 9 1 C1 a2C a4G a2D) (_ : Inv w0 ps0 H0 H' [bx g0 106 [(vi y0.fnodes), (vi y0.fdepth), (vi y0.fe), (vB y0.fform), (vB y0.fnamed), (vs a2C)], a2D] w') (_ : K r0 y0 a4G H'), R (vB r0) w') (h : T6 x0 U0 x1 x2 H K) : c6W (Value.pointer (some ⟨g0, 0, none⟩)) (t8 x1) (vi x2) w R E := by
 unfold T6 at h
 unfold c6W
 refine a7 (o9 _) ?_
 refine a7 a9L ?_
 refine b6 (ld1 Tryd.isAgg3 (I.at1 (o := 0) (vs := [(vi x0.fnodes)]) (nb rfl) rfl)) ?_
 refine a7 (G6 _ _ _ _ _ _) ?_
 refine a7 (o9 _) ?_
 refine a7 a9L ?_
 refine o0 I Tryd.sizeOf3 (vs := [(vi (IntKind.wrap .i64 (x0.fnodes + 1)))]) (cs' := [(vi (IntKind.wrap .i64 (x0.fnodes + 1))), (vi x0.fdepth), (vi x0.fe), (vB x0.fform), (vB x0.fnamed), (vs S5)]) rfl rfl (nb rfl) rfl rfl fun w_1 I_2 k_3 => ?_
 refine a7 (o9 _) ?_
 refine a7 a9L ?_
 refine b6 (ld1 Tryd.isAgg3 (I_2.at1 (o := 0) (vs := [(vi (IntKind.wrap .i64 (x0.fnodes + 1)))]) (nb rfl) rfl)) ?_
 refine a7 (a1f _ _ _ _ _ _) ?_
 refine i2 (fun b6n => ?_) (fun b6n => ?_)
 ·replace h := h.1 b6n
  refine a7 (o9 _) ?_
  refine a7 a4o ?_
  refine o0 I_2 Tryd.sizeOf29 (vs := [(vi 33)]) (cs' := [(vi (IntKind.wrap .i64 (x0.fnodes + 1))), (vi x0.fdepth), (vi 33), (vB x0.fform), (vB x0.fnamed), (vs S5)]) rfl rfl (nb rfl) rfl rfl fun w_4 I_5 k_6 => ?_
  exact hR false (g7.mk (IntKind.wrap .i64 (x0.fnodes + 1)) x0.fdepth 33 x0.fform x0.fnamed (Sl.mk none 0 0)) U0 S5 a1G H _ a9A ((I_5.bring 1).bring 1) h
 ·replace h := h.2 b6n
  refine a7 (a1f _ _ _ _ _ _) ?_
  refine i2 (fun b6o => ?_) (fun b6o => ?_)
  ·replace h := h.1 b6o
   refine a7 (o9 _) ?_
   refine a7 a4o ?_
   refine o0 I_2 Tryd.sizeOf29 (vs := [(vi 32)]) (cs' := [(vi (IntKind.wrap .i64 (x0.fnodes + 1))), (vi x0.fdepth), (vi 32), (vB x0.fform), (vB x0.fnamed), (vs S5)]) rfl rfl (nb rfl) rfl rfl fun w_7 I_8 k_9 => ?_
   exact hR false (g7.mk (IntKind.wrap .i64 (x0.fnodes + 1)) x0.fdepth 32 x0.fform x0.fnamed (Sl.mk none 0 0)) U0 S5 a1G H _ a9A ((I_8.bring 1).bring 1) h
  ·replace h := h.2 b6o
   refine a7 (o9 _) ?_
   refine a7 b5B ?_
   refine b6 (ld1 Tryd.isAgg3 (I_2.at1 (o := 1) (vs := [(vi x0.fdepth)]) (nb rfl) rfl)) ?_
   refine a7 (e5v _ _ _ _ _) ?_
   refine a7 (o9 _) ?_
   refine a7 b5B ?_
   refine o0 I_2 Tryd.sizeOf3 (vs := [(vi (if x2 > x0.fdepth then x2 else x0.fdepth))]) (cs' := [(vi (IntKind.wrap .i64 (x0.fnodes + 1))), (vi (if x2 > x0.fdepth then x2 else x0.fdepth)), (vi x0.fe), (vB x0.fform), (vB x0.fnamed), (vs S5)]) rfl rfl (nb rfl) rfl rfl fun m7 a3x b5Z => ?_
   refine a7 (o9 _) ?_
   refine a7 a9N ?_
   refine b6 (ld1 Tryd.isAgg4 (a3x.at1 (o := 3) (vs := [(vB x0.fform)]) (nb rfl) rfl)) ?_
   simp only [G8]
   refine a6z (D := fun d3A o3 => ∃ (C6 : Bool) (b3A : Hp), d3A = (gv x0.fform false (vB C6)) ∧ (Inv w0 ps0 H0 b3A [bx g0 106 [(vi (IntKind.wrap .i64 (x0.fnodes + 1))), (vi (if x2 > x0.fdepth then x2 else x0.fdepth)), (vi x0.fe), (vB x0.fform), (vB x0.fnamed), (vs S5)], a1G] o3) ∧ (∀ i, i < m7.heap.size → ¬ inF [] i → o3.heap[i]? = m7.heap[i]?) ∧ Hle H b3A ∧ (a0s x1 b3A (fun (a1X : ByteArray) (b1T : Bool) (a8C : Hp) =>
 (b1T = true →
 TG (x0.fnamed = false) (a1R a1X a8C) false a8C (fun (a1s : Bool) (a9Z : Hp) =>
 K0 U0 a1X a9Z (fun (a2K : Bool) (a4n : Hp) =>
 ((!a2K) = true →
 (U0.length + ([a1X] : List ByteArray).length) * 17 ≤ 140737488355328 ∧
 t1 (IntKind.wrap .i64 (x0.fnodes + 1)) (if x2 > x0.fdepth then x2 else x0.fdepth) x0.fe (x0.fform || (!C6)) (x0.fnamed || (!a1s)) (U0 ++ [a1X]) a4n K) ∧
 ((!a2K) = false →
 t1 (IntKind.wrap .i64 (x0.fnodes + 1)) (if x2 > x0.fdepth then x2 else x0.fdepth) x0.fe (x0.fform || (!C6)) (x0.fnamed || (!a1s)) U0 a4n K)))) ∧
 (b1T = false →
 t1 (IntKind.wrap .i64 (x0.fnodes + 1)) (if x2 > x0.fdepth then x2 else x0.fdepth) x0.fe (x0.fform || (!C6)) x0.fnamed U0 a8C K)))) (fun c3n => ?_) (fun c3n => ?_) ?_
   ·replace h := h.1 c3n
    have d8 := c3n
    simp only [m8 d8]
    refine b0p a3x h (fun C6 b3A o3 b5T b9z c7v h => ?_)
    exact ⟨C6, b3A, by rfl, b5T, c7v, b9z, h⟩
   ·exact ⟨false, H, by rw [b0V c3n], a3x, fun _ _ _ => rfl, Hle.refl _, h.2 c3n⟩
   ·clear h
    rintro d3A o3 ⟨C6, b3A, rfl, b5T, c7v, b9z, h⟩
    refine a7 (Pu.g fun hb => by have d8 := hb; simp only [m8 d8]; exact (a0E _)) ?_
    refine a7 (T4 _ _) ?_
    refine a7 (o9 _) ?_
    refine a7 a9N ?_
    refine o0 b5T Tryd.sizeOf4 (vs := [(vB (x0.fform || (!C6)))]) (cs' := [(vi (IntKind.wrap .i64 (x0.fnodes + 1))), (vi (if x2 > x0.fdepth then x2 else x0.fdepth)), (vi x0.fe), (vB (x0.fform || (!C6))), (vB x0.fnamed), (vs S5)]) rfl rfl (nb rfl) rfl rfl fun a3s c7C g3k => ?_
    have hj1 : ∀ (a7C : Int) (a7D : Int) (a7E : Int) (a7F : Bool) (a7G : Bool) (a6j : (List ByteArray)) (b1U : Sl) (b1V : Frag) (H : Hp) (w : World) (_ : RowL 9 1 C1 b1U a6j b1V) (_ : Inv w0 ps0 H0 H [bx g0 106 [(vi a7C), (vi a7D), (vi a7E), (vB a7F), (vB a7G), (vs b1U)], b1V] w) (_ : t1 a7C a7D a7E a7F a7G a6j H K), b8Y w R E := by
     intro a7C a7D a7E a7F a7G a6j b1U b1V H w d4E I h
     unfold b8Y
     intro _
     unfold t1 at h
     exact hR true (g7.mk a7C a7D a7E a7F a7G (Sl.mk none 0 0)) a6j b1U b1V H _ d4E ((I.bring 1).bring 1) h
    refine A6 fun j1 hx1 => ?_
    refine d6 (cap := []) (fun args w => Tryd.call118 args w) ?_
    refine m6 (Fi := []) (Fr := [bx g0 106 [(vi (IntKind.wrap .i64 (x0.fnodes + 1))), (vi (if x2 > x0.fdepth then x2 else x0.fdepth)), (vi x0.fe), (vB (x0.fform || (!C6))), (vB x0.fnamed), (vs S5)], a1G]) c7C (h) (fun g8a a8C b9F a4i c7V g8b g8c g3O => ?_) (fun _ _ _ _ _ q => q.elim)
    obtain ⟨a1X, b1T, rfl, rfl, h⟩ := g3O
    refine a7 (m4 _ _ (Value.string a1X) rfl) ?_
    refine a7 (m4 _ _ (vB b1T) rfl) ?_
    refine o8 (fun b6p => ?_) (fun b6p => ?_)
    ·replace h := h.1 b6p
     refine a7 (o9 _) ?_
     refine a7 a9O ?_
     refine b6 (ld1 Tryd.isAgg4 (c7V.at1 (o := 4) (vs := [(vB x0.fnamed)]) (nb rfl) rfl)) ?_
     simp only [G8]
     refine a6z (D := fun d4F B8 => ∃ (a1s : Bool) (a9Z : Hp) , d4F = (gv x0.fnamed false (vB a1s)) ∧ (Inv w0 ps0 H0 a9Z [bx g0 106 [(vi (IntKind.wrap .i64 (x0.fnodes + 1))), (vi (if x2 > x0.fdepth then x2 else x0.fdepth)), (vi x0.fe), (vB (x0.fform || (!C6))), (vB x0.fnamed), (vs S5)], a1G] B8) ∧ (∀ i, i < a4i.heap.size → ¬ inF [] i → B8.heap[i]? = a4i.heap[i]?) ∧ Hle a8C a9Z ∧ (K0 U0 a1X a9Z (fun (a2K : Bool) (a4n : Hp) =>
 ((!a2K) = true →
 (U0.length + ([a1X] : List ByteArray).length) * 17 ≤ 140737488355328 ∧
 t1 (IntKind.wrap .i64 (x0.fnodes + 1)) (if x2 > x0.fdepth then x2 else x0.fdepth) x0.fe (x0.fform || (!C6)) (x0.fnamed || (!a1s)) (U0 ++ [a1X]) a4n K) ∧
 ((!a2K) = false →
 t1 (IntKind.wrap .i64 (x0.fnodes + 1)) (if x2 > x0.fdepth then x2 else x0.fdepth) x0.fe (x0.fform || (!C6)) (x0.fnamed || (!a1s)) U0 a4n K)))) (fun c3o => ?_) (fun c3o => ?_) ?_
     ·replace h := h.1 c3o
      have d8 := c3o
      simp only [m8 d8]
      refine d6 (cap := []) (fun args w => Tryd.call119 args w) ?_
      refine m6 (Fi := []) (Fr := [bx g0 106 [(vi (IntKind.wrap .i64 (x0.fnodes + 1))), (vi (if x2 > x0.fdepth then x2 else x0.fdepth)), (vi x0.fe), (vB (x0.fform || (!C6))), (vB x0.fnamed), (vs S5)], a1G]) c7V (h) (fun d4F a9Z g8d B8 c2V e9Z f0a g3P => ?_) (fun _ _ _ _ _ q => q.elim)
      obtain ⟨a1s, rfl, rfl, h⟩ := g3P
      exact ⟨a1s, a9Z, by rfl, c2V, f0a, e9Z, h⟩
     ·exact ⟨false, a8C, by rw [b0V c3o], c7V, fun _ _ _ => rfl, Hle.refl _, h.2 c3o⟩
     ·clear h
      rintro d4F B8 ⟨a1s, a9Z, rfl, c2V, f0a, e9Z, h⟩
      refine a7 (Pu.g fun hb => by have d8 := hb; simp only [m8 d8]; exact (a0E _)) ?_
      refine a7 (T4 _ _) ?_
      refine a7 (o9 _) ?_
      refine a7 a9O ?_
      refine o0 c2V Tryd.sizeOf4 (vs := [(vB (x0.fnamed || (!a1s)))]) (cs' := [(vi (IntKind.wrap .i64 (x0.fnodes + 1))), (vi (if x2 > x0.fdepth then x2 else x0.fdepth)), (vi x0.fe), (vB (x0.fform || (!C6))), (vB (x0.fnamed || (!a1s))), (vs S5)]) rfl rfl (nb rfl) rfl rfl fun D5 c7D g3o => ?_
      refine a7 (o9 _) ?_
      refine a7 a9P ?_
      refine b6 (ld1 Tryd.isAgg104 (c7D.at1 (o := 5) (vs := [(vs S5)]) (nb rfl) rfl)) ?_
      refine d6 (cap := []) (fun args w => Tryd.call120 args w) ?_
      refine m6 (Fi := [a1G]) (Fr := [bx g0 106 [(vi (IntKind.wrap .i64 (x0.fnodes + 1))), (vi (if x2 > x0.fdepth then x2 else x0.fdepth)), (vi x0.fe), (vB (x0.fform || (!C6))), (vB (x0.fnamed || (!a1s))), (vs S5)]]) (c7D.bring 1) (h S5 a1G a9A) (fun g3G a4n g3H F0 b9J g3I g3J d4n => ?_) (fun _ _ _ _ _ q => q.elim)
      obtain ⟨a2K, rfl, rfl, h⟩ := d4n
      refine a7 (a0E _) ?_
      refine o8 (fun b6l => ?_) (fun b6l => ?_)
      ·replace h := h.1 b6l
       refine a7 (o9 _) ?_
       refine a7 a9P ?_
       refine b6 (ld1 Tryd.isAgg104 ((b9J.bring 1).at1 (o := 5) (vs := [(vs S5)]) (nb rfl) rfl)) ?_
       refine W7 (e := 9) (c := C1) (xs := [a1X]) b9J (d3m _) rfl rfl b5C b5D (nb rfl) fun a8D g3Q b1M d4G c7W g3R => ?_
       obtain ⟨g3S, h⟩ := h
       refine d9Q (s := S5) (xs := U0) (c7W.bring 1) a9A (d4G.srcO ((c7W.bring 1).bring 1)) g3S fun d4H g3T d4I c3p g3U g8e => ?_
       refine a7 (o9 _) ?_
       refine a7 a9P ?_
       refine o0 ((g3U.bring 1).drop.bring 1) Tryd.sizeOf104 (vs := [(vs d4H)]) (cs' := [(vi (IntKind.wrap .i64 (x0.fnodes + 1))), (vi (if x2 > x0.fdepth then x2 else x0.fdepth)), (vi x0.fe), (vB (x0.fform || (!C6))), (vB (x0.fnamed || (!a1s))), (vs d4H)]) rfl rfl (nb rfl) rfl rfl fun N6 g3V g8f => ?_
       exact hx1 _ _ (hj1 (IntKind.wrap .i64 (x0.fnodes + 1)) (if x2 > x0.fdepth then x2 else x0.fdepth) x0.fe (x0.fform || (!C6)) (x0.fnamed || (!a1s)) (U0 ++ [a1X]) d4H g3T a4n _ c3p ((g3V.bring 1).bring 1) h)
      ·replace h := h.2 b6l
       exact hx1 _ _ (hj1 (IntKind.wrap .i64 (x0.fnodes + 1)) (if x2 > x0.fdepth then x2 else x0.fdepth) x0.fe (x0.fform || (!C6)) (x0.fnamed || (!a1s)) U0 S5 a1G a4n _ a9A (b9J.bring 1) h)
    ·replace h := h.2 b6p
     exact hx1 _ _ (hj1 (IntKind.wrap .i64 (x0.fnodes + 1)) (if x2 > x0.fdepth then x2 else x0.fdepth) x0.fe (x0.fform || (!C6)) x0.fnamed U0 S5 a1G a8C _ a9A ((c7V.bring 1).bring 1) h)
theorem a6U (x0 : g7) (U0 : (List ByteArray)) (x1 : a8) (x2 : Int) {H : Hp} {K : Bool → g7 → (List ByteArray) → Hp → Prop} (h : T6 x0 U0 x1 x2 H K) : a0y x0 U0 x1 x2 H K := by
 intro g0 S5 a1G a9A w I
 refine e0b ?_
 refine a6G x0 U0 x1 x2 g0 S5 a1G a9A I (fun r0 y0 a4G a2C a2D H' w' c3k I' hk => ⟨H', _, I', r0, y0, a4G, a2C, a2D, rfl, rfl, c3k, hk⟩) h
def B2 (g8g : Sl) (b9K : Int) (g8h : Sl) (d8H : Int) (c7X : Int) (H : Hp) (n4 : (Int × Int) → Hp → Prop) (K : Sl → Hp → Prop) : Prop :=
 n4 (b9K, (IntKind.wrap .i64 (c7X + 1))) H
def B3 (b7H : (List a8)) (H : Hp) (K : Sl → Hp → Prop) : Prop :=
 ∀ (a6x : Sl) (b1W : Hp), Hle H b1W → SlH b1W 1 o2 a6x b7H → a6x.n ≤ a6x.c →
 K a6x b1W
def B4 (d8I : Sl) (d8J : Int) (a2L : (List a8)) (a1Y : Int) (H : Hp) (n3 : ((List a8) × Int) → Hp → Prop) (K : Sl → Hp → Prop) : Prop :=
 (a1Y < d8J →
 (0 : Int) ≤ a1Y ∧ (a1Y : Int) < d8I.n ∧ ∃ c7Y : Sl, EltH H d8I a1Y 1 [(vs c7Y)] ∧
 ∃ b7I : List a8, SlH H 1 o2 c7Y b7I ∧ (a2L.length + b7I.length) * 17 ≤ 140737488355328 ∧
 n3 ((a2L ++ b7I), (IntKind.wrap .i64 (a1Y + 1))) H) ∧
 (¬ (a1Y < d8J) →
 B3 a2L H K)
def B5 (c7Z : Sl) (b1J : Int) (H : Hp) (K : Sl → Hp → Prop) : Prop :=
 N2 b1J H (fun (c8a : (List a8)) (H_9 : Hp) =>
 TL ((c8a, 0) : (List a8) × Int) H_9 fun (s : (List a8) × Int) H n3 => B4 c7Z (c7Z.n : Int) s.1 s.2 H n3 K)
def B6 (f0b : Sl) (d4J : Sl) (c8b : Int) (a5L : Int) (a1J : Int) (H : Hp) (n4 : (Int × Int) → Hp → Prop) (K : Sl → Hp → Prop) : Prop :=
 (a1J < c8b →
 (0 : Int) ≤ a1J ∧ (a1J : Int) < d4J.n ∧ ∃ x_1 : Sl, EltH H d4J a1J 1 [(vs x_1)] ∧
 ((IntKind.wrap .i64 (a5L + (x_1.n : Int))) < 0 →
 False) ∧
 (¬ ((IntKind.wrap .i64 (a5L + (x_1.n : Int))) < 0) →
 B2 f0b (IntKind.wrap .i64 (a5L + (x_1.n : Int))) d4J c8b a1J H n4 K)) ∧
 (¬ (a1J < c8b) →
 B5 f0b a5L H K)
def B9 (x0 : Sl) (H : Hp) (K : Sl → Hp → Prop) : Prop :=
 TL ((0, 0) : Int × Int) H fun (s : Int × Int) H n4 => B6 x0 x0 (x0.n : Int) s.1 s.2 H n4 K
theorem a0U (x0 : Sl) {K : Sl → Hp → Prop} (I : Inv w0 ps0 H0 H [] w) (hR : ∀ (r0 : Sl) (H' : Hp) (w' : World) (_ : Inv w0 ps0 H0 H' [] w') (_ : K r0 H'), R (vs r0) w') (h : B9 x0 H K) : F87 (vs x0) w R E := by
 unfold B9 at h
 unfold F87
 have hj1 : ∀ (b1J : Int) (H : Hp) (w : World) (_ : Inv w0 ps0 H0 H [] w) (_ : B5 x0 b1J H K), c1T (vs x0) (vi b1J) w R E := by
  intro b1J H w I h
  unfold c1T
  intro _
  unfold B5 at h
  refine d6 (cap := []) (fun args w => Tryd.call117 args w) ?_
  refine m6 (Fi := []) (Fr := []) I (h) (fun g8i H_9 g8j m7 a3x d4D b5Z g3W => ?_) (fun _ _ _ _ _ q => q.elim)
  obtain ⟨c8a, f0c, f0d, rfl, rfl, f0e, h⟩ := g3W
  have hj2 : ∀ (b7H : (List a8)) (a6x : Sl) (Fs6j2 : Frag) (H : Hp) (w : World) (_ : RowL 152 1 o2 a6x b7H Fs6j2) (_ : Inv w0 ps0 H0 H [Fs6j2] w) (_ : B3 b7H H K), c1S (vs a6x) w R E := by
   intro b7H a6x Fs6j2 H w f9W I h
   unfold c1S
   intro _
   unfold B3 at h
   obtain ⟨b1W, a6Q, f0f, b1C, c3q⟩ := Inv.freezeC I f9W (by decide)
   replace h := h a6x b1W f0f b1C c3q
   exact hR a6x b1W _ a6Q h
  refine A6 fun j2 hx2 => ?_
  refine a7 (b7k _ _ _) ?_
  obtain ⟨d4K, c3r, g3X, g3Y⟩ := h
  refine M6 (J := fun n l w => ∃ (s : (List a8) × Int) (H : Hp) (b7J : Sl) (Fs6l3 : Frag) , n = c3r s ∧ l = (match s with | (a2L, a1Y) => [(vs b7J), (vi a1Y)]) ∧ (match s with | (a2L, a1Y) => RowL 152 1 o2 b7J a2L Fs6l3) ∧ (match s with | (a2L, a1Y) => Inv w0 ps0 H0 H [Fs6l3] w) ∧ d4K s H) ⟨_, (c8a, 0), H_9, f0c, f0d, rfl, rfl, f0e, a3x, g3X⟩ ?_
  rintro g8k τ_46 w next3 ⟨⟨a2L, a1Y⟩, H, b7J, Fs6l3, rfl, d4L, c8c, I, g3Z⟩ hn3
  dsimp only at d4L I c8c
  simp only [List.map_cons, List.map_nil, List.cons.injEq, and_true] at d4L
  obtain ⟨e6, e27⟩ := d4L
  simp only [e6, e27]
  obtain ⟨n3, hm3, h⟩ : ∃ n3 : ((List a8) × Int) → Hp → Prop, (∀ s' H', n3 s' H' → d4K s' H' ∧ c3r s' < c3r (a2L, a1Y)) ∧ B4 x0 (x0.n : Int) a2L a1Y H n3 K := ⟨_, fun _ _ h => h, g3Y (a2L, a1Y) H (fun s' H' => d4K s' H' ∧ c3r s' < c3r (a2L, a1Y)) g3Z (fun _ _ a b => ⟨a, b⟩)⟩
  unfold d0t
  unfold B4 at h
  refine a7 (B7 _ _ _ _ _ _) ?_
  refine i2 (fun d4M => ?_) (fun d4M => ?_)
  ·replace h := h.1 d4M
   obtain ⟨d4N, d4O, c7Y, b6q, h⟩ := h
   obtain ⟨e9O, g8l, c3s, b6q⟩ := b6q
   refine a7 (c0x c3s _ _ _ _ d4N d4O) ?_
   refine b6 (ld1 (v := (vs c7Y)) Tryd.isAgg124 (I.atH b6q)) ?_
   obtain ⟨b7I, d4P, h⟩ := h
   obtain ⟨g4a, h⟩ := h
   refine b0n (s := b7J) (xs := a2L) I c8c (SlH.src I d4P M7) g4a fun c2X b9F C0 a8k a6b c7H => ?_
   refine a7 (G6 _ _ _ _ _ _) ?_
   exact hn3 _ _ _ (hm3 _ _ h).2 ⟨((a2L ++ b7I), (IntKind.wrap .i64 (a1Y + 1))), H, c2X, b9F, rfl, rfl, a8k, a6b, (hm3 _ _ h).1⟩
  ·replace h := h.2 d4M
   exact hx2 _ _ (hj2 a2L b7J Fs6l3 H _ c8c I h)
 refine A6 fun j1 hx1 => ?_
 refine a7 (b7k _ _ _) ?_
 obtain ⟨d4Q, c3t, g4b, g4c⟩ := h
 refine M6 (J := fun n l w => ∃ (s : Int × Int) (H : Hp) , n = c3t s ∧ l = (match s with | (a5L, a1J) => [(vi a5L), (vi a1J)]) ∧ (match s with | (a5L, a1J) => Inv w0 ps0 H0 H [] w) ∧ d4Q s H) ⟨_, (0, 0), H, rfl, rfl, I, g4b⟩ ?_
 rintro g8m τ_55 w next4 ⟨⟨a5L, a1J⟩, H, rfl, d4R, I, g4d⟩ hn4
 dsimp only at d4R I
 simp only [List.map_cons, List.map_nil, List.cons.injEq, and_true] at d4R
 obtain ⟨e3, e11⟩ := d4R
 simp only [e3, e11]
 obtain ⟨n4, hm4, h⟩ : ∃ n4 : (Int × Int) → Hp → Prop, (∀ s' H', n4 s' H' → d4Q s' H' ∧ c3t s' < c3t (a5L, a1J)) ∧ B6 x0 x0 (x0.n : Int) a5L a1J H n4 K := ⟨_, fun _ _ h => h, g4c (a5L, a1J) H (fun s' H' => d4Q s' H' ∧ c3t s' < c3t (a5L, a1J)) g4d (fun _ _ a b => ⟨a, b⟩)⟩
 unfold d0u
 unfold B6 at h
 refine a7 (B7 _ _ _ _ _ _) ?_
 refine i2 (fun d4S => ?_) (fun d4S => ?_)
 ·replace h := h.1 d4S
  have hj5 : ∀ (b9K : Int) (H : Hp) (w : World) (_ : Inv w0 ps0 H0 H [] w) (_ : B2 x0 b9K x0 (x0.n : Int) a1J H n4 K), c1U (vs x0) (vi b9K) (vs x0) (vi (x0.n : Int)) (vi a1J) w next4 R E := by
   intro b9K H w I h
   unfold c1U
   intro _
   unfold B2 at h
   refine a7 (G6 _ _ _ _ _ _) ?_
   exact hn4 _ _ _ (hm4 _ _ h).2 ⟨(b9K, (IntKind.wrap .i64 (a1J + 1))), H, rfl, rfl, I, (hm4 _ _ h).1⟩
  refine A6 fun j5 hx5 => ?_
  obtain ⟨h_4, h_5, x_1, h_7, h⟩ := h
  obtain ⟨g_2, o_3, h_6, h_7⟩ := h_7
  refine a7 (c0x h_6 _ _ _ _ h_4 h_5) ?_
  refine b6 (ld1 (v := (vs x_1)) Tryd.isAgg124 (I.atH h_7)) ?_
  refine a7 (a7h _ _ _) ?_
  refine a7 (G6 _ _ _ _ _ _) ?_
  refine a7 (B7 _ _ _ _ _ _) ?_
  refine i2 (fun c_8 => ?_) (fun c_8 => ?_)
  ·replace h := h.1 c_8
   refine a7 (d0q _) ?_
   exact h.elim
  ·replace h := h.2 c_8
   exact hx5 _ _ (hj5 (IntKind.wrap .i64 (a5L + (x_1.n : Int))) H _ I h)
 ·replace h := h.2 d4S
  exact hx1 _ _ (hj1 a5L H _ I h)
theorem a1d (x0 : Sl) {H : Hp} {K : Sl → Hp → Prop} (h : B9 x0 H K) : y8 x0 H K := by
 intro w I
 refine e6k ?_
 refine a0U x0 I (fun r0 H' w' I' hk => ⟨H', _, I', r0, rfl, rfl, hk⟩) h
def y5 (V7 : (List a8)) (H : Hp) (K : Sl → Hp → Prop) : Prop :=
 ∀ (E0 : Sl) (Y8 : Hp), Hle H Y8 → SlH Y8 1 o2 E0 V7 → E0.n ≤ E0.c →
 K E0 Y8
def y7 (a0z : Sl) (Y9 : Int) (s6 : (List a8)) (p9 : Int) (H : Hp) (n2 : ((List a8) × Int) → Hp → Prop) (K : Sl → Hp → Prop) : Prop :=
 (p9 < Y9 →
 (0 : Int) ≤ p9 ∧ (p9 : Int) < a0z.n ∧ ∃ x_1 : i4, EltH H a0z p9 4 (b8 x_1) ∧
 a5G x_1 H (fun (P5 : a8) (Z0 : Hp) =>
 (s6.length + ([P5] : List a8).length) * 17 ≤ 140737488355328 ∧
 n2 ((s6 ++ [P5]), (IntKind.wrap .i64 (p9 + 1))) Z0)) ∧
 (¬ (p9 < Y9) →
 y5 s6 H K)
def A5 (x0 : Sl) (H : Hp) (K : Sl → Hp → Prop) : Prop :=
 TL (([], 0) : (List a8) × Int) H fun (s : (List a8) × Int) H n2 => y7 x0 (x0.n : Int) s.1 s.2 H n2 K
theorem Y5 (x0 : Sl) {K : Sl → Hp → Prop} (I : Inv w0 ps0 H0 H [] w) (hR : ∀ (r0 : Sl) (H' : Hp) (w' : World) (_ : Inv w0 ps0 H0 H' [] w') (_ : K r0 H'), R (vs r0) w') (h : A5 x0 H K) : c7k (vs x0) (fC 172) w R E := by
 unfold A5 at h
 unfold c7k
 have hj1 : ∀ (V7 : (List a8)) (E0 : Sl) (Fs5j1 : Frag) (H : Hp) (w : World) (_ : RowL 152 1 o2 E0 V7 Fs5j1) (_ : Inv w0 ps0 H0 H [Fs5j1] w) (_ : y5 V7 H K), b9t (vs E0) w R E := by
  intro V7 E0 Fs5j1 H w b1A I h
  unfold b9t
  intro _
  unfold y5 at h
  obtain ⟨Y8, a4K, b3t, a8j, a9W⟩ := Inv.freezeC I b1A (by decide)
  replace h := h E0 Y8 b3t a8j a9W
  exact hR E0 Y8 _ a4K h
 refine A6 fun j1 hx1 => ?_
 refine a7 (a2t _ _ _) ?_
 obtain ⟨a4L, a1j, b5X, b5Y⟩ := h
 refine M6 (J := fun n l w => ∃ (s : (List a8) × Int) (H : Hp) (V8 : Sl) (Fs5l2 : Frag) , n = a1j s ∧ l = (match s with | (s6, p9) => [(vs V8), (vi p9)]) ∧ (match s with | (s6, p9) => RowL 152 1 o2 V8 s6 Fs5l2) ∧ (match s with | (s6, p9) => Inv w0 ps0 H0 H [Fs5l2] w) ∧ a4L s H) ⟨_, ([], 0), H, (Sl.mk none 0 0), [], rfl, rfl, (RowL.nil M7 O9), I.nil, b5X⟩ ?_
 rintro d3I τ_50 w next2 ⟨⟨s6, p9⟩, H, V8, Fs5l2, rfl, a4M, a2I, I, a5I⟩ hn2
 dsimp only at a4M I a2I
 simp only [List.map_cons, List.map_nil, List.cons.injEq, and_true] at a4M
 obtain ⟨e5, e10⟩ := a4M
 simp only [e5, e10]
 obtain ⟨n2, hm2, h⟩ : ∃ n2 : ((List a8) × Int) → Hp → Prop, (∀ s' H', n2 s' H' → a4L s' H' ∧ a1j s' < a1j (s6, p9)) ∧ y7 x0 (x0.n : Int) s6 p9 H n2 K := ⟨_, fun _ _ h => h, b5Y (s6, p9) H (fun s' H' => a4L s' H' ∧ a1j s' < a1j (s6, p9)) a5I (fun _ _ a b => ⟨a, b⟩)⟩
 unfold c6c
 unfold y7 at h
 refine a7 (B7 _ _ _ _ _ _) ?_
 refine i2 (fun a2H => ?_) (fun a2H => ?_)
 ·replace h := h.1 a2H
  obtain ⟨h_4, h_5, x_1, h_7, h⟩ := h
  obtain ⟨g_2, o_3, h_6, h_7⟩ := h_7
  refine a7 (a1g h_6 _ _ _ _ h_4 h_5) ?_
  refine b6 (ldA (vs := (b8 x_1)) Tryd.isAgg24 Tryd.sizeOf24 rfl (I.atH h_7)) ?_
  refine A8 I Tryd.zeroValue24 (cs := [(vi 0), (vi 0), (eS), (nS)]) rfl fun g_9 m7 a3x b5Z => ?_
  refine o0 a3x Tryd.sizeOf24 (vs := (b8 x_1)) (cs' := (b8 x_1)) rfl rfl (nb rfl) rfl rfl fun a0w T2 a2q => ?_
  refine b6 (ldA Tryd.isAgg24 Tryd.sizeOf24 rfl (T2.at1 (o := 0) (vs := (b8 x_1)) (nb rfl) rfl)) ?_
  refine d6 (cap := []) (fun args w => Tryd.call172 args w) ?_
  refine m6 (Fi := []) (Fr := [bx g_9 24 (b8 x_1), Fs5l2]) T2 (h) (fun c7E Z0 c7F a2k a4J b9E c7G b1B => ?_) (fun _ _ _ _ _ q => q.elim)
  obtain ⟨P5, rfl, rfl, h⟩ := b1B
  refine W7 (e := 152) (c := o2) (xs := [P5]) a4J (b1c _) rfl rfl M7 O9 (nb rfl) fun c2X b9F C0 a8k a6b c7H => ?_
  obtain ⟨b1C, h⟩ := h
  refine b0n (s := V8) (xs := s6) (a6b.bring 2) a2I (a8k.srcO ((a6b.bring 2).bring 1)) b1C fun b6a b6b C3 b1w a6Q c7I => ?_
  refine a7 (G6 _ _ _ _ _ _) ?_
  exact hn2 _ _ _ (hm2 _ _ h).2 ⟨((s6 ++ [P5]), (IntKind.wrap .i64 (p9 + 1))), Z0, b6a, b6b, rfl, rfl, b1w, ((a6Q.bring 1).drop.bring 1).drop, (hm2 _ _ h).1⟩
 ·replace h := h.2 a2H
  exact hx1 _ _ (hj1 s6 V8 Fs5l2 H _ a2I I h)
theorem a0b (x0 : Sl) {H : Hp} {K : Sl → Hp → Prop} (h : A5 x0 H K) : r6 x0 H K := by
 intro w I
 refine e0E ?_
 refine Y5 x0 I (fun r0 H' w' I' hk => ⟨H', _, I', r0, rfl, rfl, hk⟩) h
def W4 (x0 : K8) (H : Hp) (K : Sl → Hp → Prop) : Prop :=
 z7 x0.d7.q9 H (fun (a5J : Sl) (H_8 : Hp) =>
 r6 x0.d7.i8 H_8 (fun (a2J : Sl) (a8l : Hp) =>
 r5 x0.d7.G9 a8l (fun (b1X : Sl) (c3u : Hp) =>
 r5 x0.d7.G3 c3u (fun (c8d : Sl) (b1W : Hp) =>
 ∀ (b9L : Sl) (c3v : Hp), Hle b1W c3v → SlH c3v 1 csl b9L [a5J, a2J, b1X, c8d] → b9L.n ≤ b9L.c →
 y8 b9L c3v (fun (c8e : Sl) (d4T : Hp) =>
 K c8e d4T)))))
theorem a7s (x0 : K8) {K : Sl → Hp → Prop} (I : Inv w0 ps0 H0 H [] w) (hR : ∀ (r0 : Sl) (H' : Hp) (w' : World) (_ : Inv w0 ps0 H0 H' [] w') (_ : K r0 H'), R (vs r0) w') (h : W4 x0 H K) : c7u (Value.agg (f8 x0.d7).toArray) w R E := by
 unfold W4 at h
 unfold c7u
 refine P2 I (cs := (f8 x0.d7)) rfl fun g_2 w_3 I_4 k_5 => ?_
 refine a0p I_4 fun w_6 I_7 => ?_
 refine j8 J8 ?_
 refine j8 a7g ?_
 refine j8 J8 ?_
 refine j8 a5p ?_
 refine j8 J8 ?_
 refine j8 a5q ?_
 refine j8 J8 ?_
 refine j8 a5r ?_
 refine u0 (ld1 Tryd.isAgg25 (I_7.at1 (o := 3) (vs := [(vs x0.d7.q9)]) (nb rfl) rfl)) ?_
 refine u0 (ld1 Tryd.isAgg22 (I_7.at1 (o := 2) (vs := [(vs x0.d7.i8)]) (nb rfl) rfl)) ?_
 refine u0 (ld1 Tryd.isAgg42 (I_7.at1 (o := 4) (vs := [(vs x0.d7.G9)]) (nb rfl) rfl)) ?_
 refine u0 (ld1 Tryd.isAgg42 (I_7.at1 (o := 5) (vs := [(vs x0.d7.G3)]) (nb rfl) rfl)) ?_
 refine d6 (cap := []) (fun args w => Tryd.call175 args w) ?_
 refine m6 (Fi := []) (Fr := [bx g_2 179 (f8 x0.d7)]) I_7 (h) (fun e9R H_8 d3J w_9 b1F e9S b6c c2Y => ?_) (fun _ _ _ _ _ q => q.elim)
 obtain ⟨a5J, rfl, rfl, h⟩ := c2Y
 refine ⟨(b6c _ I_7.lt1 (Inv.a5k (Fi := []) I_7)), (b6c _ I_7.lt1 (Inv.a5k (Fi := []) I_7)), (b6c _ I_7.lt1 (Inv.a5k (Fi := []) I_7)), ?_⟩
 refine d6 (cap := []) (fun args w => Tryd.call171 args w) ?_
 refine m6 (Fi := []) (Fr := [bx g_2 179 (f8 x0.d7)]) b1F (h) (fun d3K a8l d3L p8 a4m d3M b3u b6d => ?_) (fun _ _ _ _ _ q => q.elim)
 obtain ⟨a2J, rfl, rfl, h⟩ := b6d
 refine ⟨(b3u _ b1F.lt1 (Inv.a5k (Fi := []) b1F)), (b3u _ b1F.lt1 (Inv.a5k (Fi := []) b1F)), ?_⟩
 refine d6 (cap := []) (fun args w => Tryd.call90 args w) ?_
 refine m6 (Fi := []) (Fr := [bx g_2 179 (f8 x0.d7)]) a4m (h) (fun g4e c3u g4f a3i a8g b9M d4U d4V => ?_) (fun _ _ _ _ _ q => q.elim)
 obtain ⟨b1X, rfl, rfl, h⟩ := d4V
 refine ⟨(d4U _ a4m.lt1 (Inv.a5k (Fi := []) a4m)), ?_⟩
 refine d6 (cap := []) (fun args w => Tryd.call90 args w) ?_
 refine m6 (Fi := []) (Fr := [bx g_2 179 (f8 x0.d7)]) a8g (h) (fun g8n b1W g8o E9 g4g g8p g8q g4h => ?_) (fun _ _ _ _ _ q => q.elim)
 obtain ⟨c8d, rfl, rfl, h⟩ := g4h
 refine W7 (e := 124) (c := csl) (xs := [a5J, a2J, b1X, c8d]) g4g (d3n _ _ _ _ _ _ _ _ _ _ _ _) rfl rfl b4u b4v (nb rfl) fun b9L g8r b9d g4i c2Z e9T => ?_
 obtain ⟨c3v, b0a, g4j, c3g, d4W⟩ := Inv.freezeC c2Z g4i (by decide)
 replace h := h b9L c3v g4j c3g d4W
 refine d6 (cap := []) (fun args w => Tryd.call87 args w) ?_
 refine m6 (Fi := []) (Fr := [bx g_2 179 (f8 x0.d7)]) b0a (h) (fun g8s d4T g8t d4X g4k g8u g8v g4l => ?_) (fun _ _ _ _ _ q => q.elim)
 obtain ⟨c8e, rfl, rfl, h⟩ := g4l
 exact hR c8e d4T _ g4k.drop h
theorem a8E (x0 : K8) {H : Hp} {K : Sl → Hp → Prop} (h : W4 x0 H K) : a3w x0 H K := by
 intro w I
 refine e1w ?_
 refine a7s x0 I (fun r0 H' w' I' hk => ⟨H', _, I', r0, rfl, rfl, hk⟩) h
end Go.Proofs.YtnhkdkcgdcgmdaaDoor
