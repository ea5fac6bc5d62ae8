/- Typed formulas of the program's functions, and the theorems that the contracts follow from them; printed by lift.py off the code. -/
import Derived.Test.YtnhkdkcgdcgmdaaGreatDoorzFV1
namespace Go.Proofs.YtnhkdkcgdcgmdaaGreatDoor
open Go.RowKit
set_option maxRecDepth 100000
set_option maxHeartbeats 2000000
variable {w0 w : World} {ps0 : Nat → Prop} {H0 H : Hp} {R : RT} {E : Pan}
def b0P (x0 : Int) (x1 : Int) (x2 : Int) (H : Hp) (K : Bool → Hp → Prop) : Prop :=
 K ((decide (x0 ≤ x2)) && (decide (x2 ≤ x1))) H
theorem c3M (x0 : Int) (x1 : Int) (x2 : Int) (g2 : Nat) {K : Bool → Hp → Prop} (I : Inv w0 ps0 H0 H [bx g2 21 [(Value.int .i32 x2)]] w) (hR : ∀ (r0 : Bool) (H' : Hp) (w' : World) (_ : Inv w0 ps0 H0 H' [bx g2 21 [(Value.int .i32 x2)]] w') (_ : K r0 H'), R (vB r0) w') (h : b0P x0 x1 x2 H K) : e8v (Value.int .i32 x0) (Value.int .i32 x1) (Value.pointer (some ⟨g2, 0, none⟩)) w R E := by
 unfold b0P at h
 unfold e8v
 refine f7 (ld1 Tryz.isAgg21 (I.at1 (o := 0) (vs := [(Value.int .i32 x2)]) (nb rfl) rfl)) ?_
 refine a7 (b3S _ _ _ _ _ _) ?_
 refine f7 (Ld.g fun hb => by have b9 := hb; exact (ld1 Tryz.isAgg21 (I.at1 (o := 0) (vs := [(Value.int .i32 x2)]) (nb rfl) rfl))) ?_
 simp only [u5]
 refine a7 (Pu.g fun hb => by have b9 := hb; simp only [i7 b9]; exact (b3S _ _ _ _ _ _)) ?_
 refine a7 (s7 _ _) ?_
 exact hR ((decide (x0 ≤ x2)) && (decide (x2 ≤ x1))) H _ I h
theorem c4I (x0 : Int) (x1 : Int) (x2 : Int) {H : Hp} {K : Bool → Hp → Prop} (h : b0P x0 x1 x2 H K) : R9 x0 x1 x2 H K := by
 intro g2 w I
 refine g8u ?_
 refine c3M x0 x1 x2 g2 I (fun r0 H' w' I' hk => ⟨H', _, I', r0, rfl, rfl, hk⟩) h
def K0 (d0l : Bool) (b0Q : Int) (H : Hp) (K : Int → Hp → Prop) : Prop :=
 (d0l = true →
 K 3 H) ∧
 (d0l = false →
 K 6 H)
def X2 (d0m : Bool) (S5 : Int) (H : Hp) (K : Int → Hp → Prop) : Prop :=
 (d0m = true →
 K 6 H) ∧
 (d0m = false →
 R9 48 57 S5 H (fun (C1 : Bool) (H_6 : Hp) =>
 (C1 = true →
 K 4 H_6) ∧
 (C1 = false →
 (S5 = 95 →
 K0 (decide (S5 = 95)) S5 H_6 K) ∧
 (¬ (S5 = 95) →
 R9 97 122 S5 H_6 (fun (D7 : Bool) (R6 : Hp) =>
 (D7 = true →
 K0 D7 S5 R6 K) ∧
 (D7 = false →
 R9 65 90 S5 R6 (fun (b4h : Bool) (d2H : Hp) =>
 (b4h = true →
 K0 b4h S5 d2H K) ∧
 (b4h = false →
 R9 192 591 S5 d2H (fun (o8 : Bool) (b2h : Hp) =>
 (o8 = true →
 K0 o8 S5 b2h K) ∧
 (o8 = false →
 R9 913 969 S5 b2h (fun (l9 : Bool) (a4d : Hp) =>
 (l9 = true →
 K0 l9 S5 a4d K) ∧
 (l9 = false →
 R9 1040 1103 S5 a4d (fun (e9O : Bool) (g0a : Hp) =>
 K0 e9O S5 g0a K)))))))))))))
def t8 (c6w : Int) (d0n : Bool) (N9 : Int) (H : Hp) (K : Int → Hp → Prop) : Prop :=
 (d0n = true →
 K 5 H) ∧
 (d0n = false →
 (c6w = 215 →
 X2 (decide (c6w = 215)) N9 H K) ∧
 (¬ (c6w = 215) →
 (c6w = 247 →
 X2 (decide (c6w = 247)) N9 H K) ∧
 (¬ (c6w = 247) →
 X2 (decide (c6w = 930)) N9 H K)))
def X3 (w7 : Int) (a4C : Bool) (r7 : Int) (H : Hp) (K : Int → Hp → Prop) : Prop :=
 (a4C = true →
 K 1 H) ∧
 (a4C = false →
 (w7 = 10 →
 K 2 H) ∧
 (¬ (w7 = 10) →
 (w7 = 59 →
 t8 w7 (decide (w7 = 59)) r7 H K) ∧
 (¬ (w7 = 59) →
 (w7 = 44 →
 t8 w7 (decide (w7 = 44)) r7 H K) ∧
 (¬ (w7 = 44) →
 (w7 = 123 →
 t8 w7 (decide (w7 = 123)) r7 H K) ∧
 (¬ (w7 = 123) →
 (w7 = 125 →
 t8 w7 (decide (w7 = 125)) r7 H K) ∧
 (¬ (w7 = 125) →
 (w7 = 40 →
 t8 w7 (decide (w7 = 40)) r7 H K) ∧
 (¬ (w7 = 40) →
 (w7 = 41 →
 t8 w7 (decide (w7 = 41)) r7 H K) ∧
 (¬ (w7 = 41) →
 (w7 = 91 →
 t8 w7 (decide (w7 = 91)) r7 H K) ∧
 (¬ (w7 = 91) →
 (w7 = 93 →
 t8 w7 (decide (w7 = 93)) r7 H K) ∧
 (¬ (w7 = 93) →
 (w7 = 61 →
 t8 w7 (decide (w7 = 61)) r7 H K) ∧
 (¬ (w7 = 61) →
 (w7 = 33 →
 t8 w7 (decide (w7 = 33)) r7 H K) ∧
 (¬ (w7 = 33) →
 (w7 = 60 →
 t8 w7 (decide (w7 = 60)) r7 H K) ∧
 (¬ (w7 = 60) →
 (w7 = 62 →
 t8 w7 (decide (w7 = 62)) r7 H K) ∧
 (¬ (w7 = 62) →
 (w7 = 43 →
 t8 w7 (decide (w7 = 43)) r7 H K) ∧
 (¬ (w7 = 43) →
 (w7 = 45 →
 t8 w7 (decide (w7 = 45)) r7 H K) ∧
 (¬ (w7 = 45) →
 (w7 = 42 →
 t8 w7 (decide (w7 = 42)) r7 H K) ∧
 (¬ (w7 = 42) →
 (w7 = 47 →
 t8 w7 (decide (w7 = 47)) r7 H K) ∧
 (¬ (w7 = 47) →
 (w7 = 37 →
 t8 w7 (decide (w7 = 37)) r7 H K) ∧
 (¬ (w7 = 37) →
 (w7 = 38 →
 t8 w7 (decide (w7 = 38)) r7 H K) ∧
 (¬ (w7 = 38) →
 t8 w7 (decide (w7 = 124)) r7 H K))))))))))))))))))))
def a8V (x0 : Int) (H : Hp) (K : Int → Hp → Prop) : Prop :=
 (x0 = 32 →
 X3 x0 (decide (x0 = 32)) x0 H K) ∧
 (¬ (x0 = 32) →
 (x0 = 9 →
 X3 x0 (decide (x0 = 9)) x0 H K) ∧
 (¬ (x0 = 9) →
 X3 x0 (decide (x0 = 13)) x0 H K))
theorem c6x (x0 : Int) {K : Int → Hp → Prop} (I : Inv w0 ps0 H0 H [] w) (hR : ∀ (r0 : Int) (H' : Hp) (w' : World) (_ : Inv w0 ps0 H0 H' [] w') (_ : K r0 H'), R (vi r0) w') (h : a8V x0 H K) : e8s (Value.int .i32 x0) w R E := by
 unfold a8V at h
 unfold e8s
 refine J5 I (cs := [(Value.int .i32 x0)]) rfl fun g_2 w_3 I_4 k_5 => ?_
 refine f7 (ld1 Tryz.isAgg21 (I_4.at1 (o := 0) (vs := [(Value.int .i32 x0)]) (nb rfl) rfl)) ?_
 have hj1 : ∀ (a4C : Bool) (H : Hp) (w : World) (_ : Inv w0 ps0 H0 H [bx g_2 21 [(Value.int .i32 x0)]] w) (_ : X3 x0 a4C x0 H K), d6G (Value.pointer (some ⟨g_2, 0, none⟩)) (Value.int .i32 x0) (vB a4C) w R E := by
  intro a4C H w I h
  unfold d6G
  intro _
  unfold X3 at h
  refine o0 (fun d2I => ?_) (fun d2I => ?_)
  ·replace h := h.1 d2I
   exact hR 1 H _ I.drop h
  ·replace h := h.2 d2I
   refine a7 (i8 _ _ _ _ _ _) ?_
   refine k7 (fun g0b => ?_) (fun g0b => ?_)
   ·replace h := h.1 g0b
    exact hR 2 H _ I.drop h
   ·replace h := h.2 g0b
    have hj2 : ∀ (d0n : Bool) (H : Hp) (w : World) (_ : Inv w0 ps0 H0 H [bx g_2 21 [(Value.int .i32 x0)]] w) (_ : t8 x0 d0n x0 H K), d6F (Value.pointer (some ⟨g_2, 0, none⟩)) (Value.int .i32 x0) (vB d0n) w R E := by
     intro d0n H w I h
     unfold d6F
     intro _
     unfold t8 at h
     refine o0 (fun g0c => ?_) (fun g0c => ?_)
     ·replace h := h.1 g0c
      exact hR 5 H _ I.drop h
     ·replace h := h.2 g0c
      have hj3 : ∀ (d0m : Bool) (H : Hp) (w : World) (_ : Inv w0 ps0 H0 H [bx g_2 21 [(Value.int .i32 x0)]] w) (_ : X2 d0m x0 H K), d6E (Value.pointer (some ⟨g_2, 0, none⟩)) (vB d0m) w R E := by
       intro d0m H w I h
       unfold d6E
       intro _
       unfold X2 at h
       refine o0 (fun d2J => ?_) (fun d2J => ?_)
       ·replace h := h.1 d2J
        exact hR 6 H _ I.drop h
       ·replace h := h.2 d2J
        refine a7 (c3o _ _ _) ?_
        refine g9 (cap := [(Value.pointer (some ⟨g_2, 0, none⟩))]) (fun args w => Tryz.call170 args w) ?_
        refine l7 (Fi := [bx g_2 21 [(Value.int .i32 x0)]]) (Fr := []) I (h g_2) (fun b7c H_6 b5P w_7 I_8 b7d k_9 a6w => ?_) (fun _ _ _ _ _ q => q.elim)
        obtain ⟨C1, rfl, rfl, h⟩ := a6w
        refine o0 (fun d2K => ?_) (fun d2K => ?_)
        ·replace h := h.1 d2K
         exact hR 4 H_6 _ I_8.drop h
        ·replace h := h.2 d2K
         have hj4 : ∀ (d0l : Bool) (H : Hp) (w : World) (_ : Inv w0 ps0 H0 H [bx g_2 21 [(Value.int .i32 x0)]] w) (_ : K0 d0l x0 H K), d6D (vB d0l) w R E := by
          intro d0l H w I h
          unfold d6D
          intro _
          unfold K0 at h
          refine o0 (fun b1v => ?_) (fun b1v => ?_)
          ·replace h := h.1 b1v
           exact hR 3 H _ I.drop h
          ·replace h := h.2 b1v
           exact hR 6 H _ I.drop h
         refine t6 fun j4 hx4 => ?_
         refine f7 (ld1 Tryz.isAgg21 (I_8.at1 (o := 0) (vs := [(Value.int .i32 x0)]) (nb rfl) rfl)) ?_
         refine a7 (i8 _ _ _ _ _ _) ?_
         refine k7 (fun d2p => ?_) (fun d2p => ?_)
         ·replace h := h.1 d2p
          exact hx4 _ _ (hj4 (decide (x0 = 95)) H_6 _ I_8 h)
         ·replace h := h.2 d2p
          refine g9 (cap := [(Value.pointer (some ⟨g_2, 0, none⟩))]) (fun args w => Tryz.call170 args w) ?_
          refine l7 (Fi := [bx g_2 21 [(Value.int .i32 x0)]]) (Fr := []) I_8 (h g_2) (fun c3E R6 c0F a1B a3y c3F c0G a9Z => ?_) (fun _ _ _ _ _ q => q.elim)
          obtain ⟨D7, rfl, rfl, h⟩ := a9Z
          refine o0 (fun d2D => ?_) (fun d2D => ?_)
          ·replace h := h.1 d2D
           exact hx4 _ _ (hj4 D7 R6 _ a3y h)
          ·replace h := h.2 d2D
           refine g9 (cap := [(Value.pointer (some ⟨g_2, 0, none⟩))]) (fun args w => Tryz.call170 args w) ?_
           refine l7 (Fi := [bx g_2 21 [(Value.int .i32 x0)]]) (Fr := []) a3y (h g_2) (fun k2m d2H k2n z2 c3N k2o e9P g0d => ?_) (fun _ _ _ _ _ q => q.elim)
           obtain ⟨b4h, rfl, rfl, h⟩ := g0d
           refine o0 (fun d2L => ?_) (fun d2L => ?_)
           ·replace h := h.1 d2L
            exact hx4 _ _ (hj4 b4h d2H _ c3N h)
           ·replace h := h.2 d2L
            refine g9 (cap := [(Value.pointer (some ⟨g_2, 0, none⟩))]) (fun args w => Tryz.call170 args w) ?_
            refine l7 (Fi := [bx g_2 21 [(Value.int .i32 x0)]]) (Fr := []) c3N (h g_2) (fun i3u b2h i3v b6U a5D b0K b7a e2B => ?_) (fun _ _ _ _ _ q => q.elim)
            obtain ⟨o8, rfl, rfl, h⟩ := e2B
            refine o0 (fun d2M => ?_) (fun d2M => ?_)
            ·replace h := h.1 d2M
             exact hx4 _ _ (hj4 o8 b2h _ a5D h)
            ·replace h := h.2 d2M
             refine g9 (cap := [(Value.pointer (some ⟨g_2, 0, none⟩))]) (fun args w => Tryz.call170 args w) ?_
             refine l7 (Fi := [bx g_2 21 [(Value.int .i32 x0)]]) (Fr := []) a5D (h g_2) (fun e9J a4d e9K E4 b2c e9L d6W c6p => ?_) (fun _ _ _ _ _ q => q.elim)
             obtain ⟨l9, rfl, rfl, h⟩ := c6p
             refine o0 (fun g0e => ?_) (fun g0e => ?_)
             ·replace h := h.1 g0e
              exact hx4 _ _ (hj4 l9 a4d _ b2c h)
             ·replace h := h.2 g0e
              refine g9 (cap := [(Value.pointer (some ⟨g_2, 0, none⟩))]) (fun args w => Tryz.call170 args w) ?_
              refine l7 (Fi := [bx g_2 21 [(Value.int .i32 x0)]]) (Fr := []) b2c (h g_2) (fun l0R g0a l0S d6r k2p l0T l0U k2q => ?_) (fun _ _ _ _ _ q => q.elim)
              obtain ⟨e9O, rfl, rfl, h⟩ := k2q
              exact hx4 _ _ (hj4 e9O g0a _ k2p h)
      refine t6 fun j3 hx3 => ?_
      refine a7 (i8 _ _ _ _ _ _) ?_
      refine k7 (fun d2w => ?_) (fun d2w => ?_)
      ·replace h := h.1 d2w
       exact hx3 _ _ (hj3 (decide (x0 = 215)) H _ I h)
      ·replace h := h.2 d2w
       refine a7 (i8 _ _ _ _ _ _) ?_
       refine k7 (fun d2a => ?_) (fun d2a => ?_)
       ·replace h := h.1 d2a
        exact hx3 _ _ (hj3 (decide (x0 = 247)) H _ I h)
       ·replace h := h.2 d2a
        refine a7 (i8 _ _ _ _ _ _) ?_
        exact hx3 _ _ (hj3 (decide (x0 = 930)) H _ I h)
    refine t6 fun j2 hx2 => ?_
    refine a7 (i8 _ _ _ _ _ _) ?_
    refine k7 (fun d2N => ?_) (fun d2N => ?_)
    ·replace h := h.1 d2N
     exact hx2 _ _ (hj2 (decide (x0 = 59)) H _ I h)
    ·replace h := h.2 d2N
     refine a7 (i8 _ _ _ _ _ _) ?_
     refine k7 (fun d2c => ?_) (fun d2c => ?_)
     ·replace h := h.1 d2c
      exact hx2 _ _ (hj2 (decide (x0 = 44)) H _ I h)
     ·replace h := h.2 d2c
      refine a7 (i8 _ _ _ _ _ _) ?_
      refine k7 (fun d2m => ?_) (fun d2m => ?_)
      ·replace h := h.1 d2m
       exact hx2 _ _ (hj2 (decide (x0 = 123)) H _ I h)
      ·replace h := h.2 d2m
       refine a7 (i8 _ _ _ _ _ _) ?_
       refine k7 (fun g0f => ?_) (fun g0f => ?_)
       ·replace h := h.1 g0f
        exact hx2 _ _ (hj2 (decide (x0 = 125)) H _ I h)
       ·replace h := h.2 g0f
        refine a7 (i8 _ _ _ _ _ _) ?_
        refine k7 (fun g0g => ?_) (fun g0g => ?_)
        ·replace h := h.1 g0g
         exact hx2 _ _ (hj2 (decide (x0 = 40)) H _ I h)
        ·replace h := h.2 g0g
         refine a7 (i8 _ _ _ _ _ _) ?_
         refine k7 (fun g0h => ?_) (fun g0h => ?_)
         ·replace h := h.1 g0h
          exact hx2 _ _ (hj2 (decide (x0 = 41)) H _ I h)
         ·replace h := h.2 g0h
          refine a7 (i8 _ _ _ _ _ _) ?_
          refine k7 (fun g0i => ?_) (fun g0i => ?_)
          ·replace h := h.1 g0i
           exact hx2 _ _ (hj2 (decide (x0 = 91)) H _ I h)
          ·replace h := h.2 g0i
           refine a7 (i8 _ _ _ _ _ _) ?_
           refine k7 (fun c0V => ?_) (fun c0V => ?_)
           ·replace h := h.1 c0V
            exact hx2 _ _ (hj2 (decide (x0 = 93)) H _ I h)
           ·replace h := h.2 c0V
            refine a7 (i8 _ _ _ _ _ _) ?_
            refine k7 (fun d2O => ?_) (fun d2O => ?_)
            ·replace h := h.1 d2O
             exact hx2 _ _ (hj2 (decide (x0 = 61)) H _ I h)
            ·replace h := h.2 d2O
             refine a7 (i8 _ _ _ _ _ _) ?_
             refine k7 (fun d2P => ?_) (fun d2P => ?_)
             ·replace h := h.1 d2P
              exact hx2 _ _ (hj2 (decide (x0 = 33)) H _ I h)
             ·replace h := h.2 d2P
              refine a7 (i8 _ _ _ _ _ _) ?_
              refine k7 (fun d2Q => ?_) (fun d2Q => ?_)
              ·replace h := h.1 d2Q
               exact hx2 _ _ (hj2 (decide (x0 = 60)) H _ I h)
              ·replace h := h.2 d2Q
               refine a7 (i8 _ _ _ _ _ _) ?_
               refine k7 (fun d2R => ?_) (fun d2R => ?_)
               ·replace h := h.1 d2R
                exact hx2 _ _ (hj2 (decide (x0 = 62)) H _ I h)
               ·replace h := h.2 d2R
                refine a7 (i8 _ _ _ _ _ _) ?_
                refine k7 (fun c0L => ?_) (fun c0L => ?_)
                ·replace h := h.1 c0L
                 exact hx2 _ _ (hj2 (decide (x0 = 43)) H _ I h)
                ·replace h := h.2 c0L
                 refine a7 (i8 _ _ _ _ _ _) ?_
                 refine k7 (fun c0Y => ?_) (fun c0Y => ?_)
                 ·replace h := h.1 c0Y
                  exact hx2 _ _ (hj2 (decide (x0 = 45)) H _ I h)
                 ·replace h := h.2 c0Y
                  refine a7 (i8 _ _ _ _ _ _) ?_
                  refine k7 (fun b4F => ?_) (fun b4F => ?_)
                  ·replace h := h.1 b4F
                   exact hx2 _ _ (hj2 (decide (x0 = 42)) H _ I h)
                  ·replace h := h.2 b4F
                   refine a7 (i8 _ _ _ _ _ _) ?_
                   refine k7 (fun c1j => ?_) (fun c1j => ?_)
                   ·replace h := h.1 c1j
                    exact hx2 _ _ (hj2 (decide (x0 = 47)) H _ I h)
                   ·replace h := h.2 c1j
                    refine a7 (i8 _ _ _ _ _ _) ?_
                    refine k7 (fun a8J => ?_) (fun a8J => ?_)
                    ·replace h := h.1 a8J
                     exact hx2 _ _ (hj2 (decide (x0 = 37)) H _ I h)
                    ·replace h := h.2 a8J
                     refine a7 (i8 _ _ _ _ _ _) ?_
                     refine k7 (fun c0Z => ?_) (fun c0Z => ?_)
                     ·replace h := h.1 c0Z
                      exact hx2 _ _ (hj2 (decide (x0 = 38)) H _ I h)
                     ·replace h := h.2 c0Z
                      refine a7 (i8 _ _ _ _ _ _) ?_
                      exact hx2 _ _ (hj2 (decide (x0 = 124)) H _ I h)
 refine t6 fun j1 hx1 => ?_
 refine a7 (i8 _ _ _ _ _ _) ?_
 refine k7 (fun d2S => ?_) (fun d2S => ?_)
 ·replace h := h.1 d2S
  exact hx1 _ _ (hj1 (decide (x0 = 32)) H _ I_4 h)
 ·replace h := h.2 d2S
  refine a7 (i8 _ _ _ _ _ _) ?_
  refine k7 (fun g0j => ?_) (fun g0j => ?_)
  ·replace h := h.1 g0j
   exact hx1 _ _ (hj1 (decide (x0 = 9)) H _ I_4 h)
  ·replace h := h.2 g0j
   refine a7 (i8 _ _ _ _ _ _) ?_
   exact hx1 _ _ (hj1 (decide (x0 = 13)) H _ I_4 h)
theorem c7S (x0 : Int) {H : Hp} {K : Int → Hp → Prop} (h : a8V x0 H K) : a8R x0 H K := by
 intro w I
 refine g8o ?_
 refine c6x x0 I (fun r0 H' w' I' hk => ⟨H', _, I', r0, rfl, rfl, hk⟩) h
def b0u (x0 : ByteArray) (H : Hp) (K : Bool → Hp → Prop) : Prop :=
 a3Y x0 H (fun (B2 : Int) (H_1 : Hp) =>
 K (decide (32 < B2)) H_1)
theorem c9d (x0 : ByteArray) {K : Bool → Hp → Prop} (I : Inv w0 ps0 H0 H [] w) (hR : ∀ (r0 : Bool) (H' : Hp) (w' : World) (_ : Inv w0 ps0 H0 H' [] w') (_ : K r0 H'), R (vB r0) w') (h : b0u x0 H K) : e8p (Value.string x0) w R E := by
 unfold b0u at h
 unfold e8p
 refine g9 (cap := []) (fun args w => Tryz.call169 args w) ?_
 refine l7 (Fi := []) (Fr := []) I (h) (fun v_5 H_1 F_6 w_2 I_3 l_8 k_4 q_7 => ?_) (fun _ _ _ _ _ q => q.elim)
 obtain ⟨B2, rfl, rfl, h⟩ := q_7
 refine a7 (a4M _ _ _ _ _ _) ?_
 exact hR (decide (32 < B2)) H_1 _ I_3 h
theorem d1t (x0 : ByteArray) {H : Hp} {K : Bool → Hp → Prop} (h : b0u x0 H K) : b0l x0 H K := by
 intro w I
 refine g8i ?_
 refine c9d x0 I (fun r0 H' w' I' hk => ⟨H', _, I', r0, rfl, rfl, hk⟩) h
def a1m (H : Hp) (K : Int → Hp → Prop) : Prop :=
 K (-1) H
def a1o (j5n : (List ByteArray)) (c5Q : ByteArray) (b0e : Int) (O0 : Int) (H : Hp) (n2 : Int → Hp → Prop) (K : Int → Hp → Prop) : Prop :=
 (O0 < b0e →
 (0 : Int) ≤ O0 ∧ ∃ x_1 : ByteArray, (j5n)[(O0 : Int).toNat]? = some x_1 ∧
 (c5Q = x_1 →
 K O0 H) ∧
 (¬ (c5Q = x_1) →
 n2 (IntKind.wrap .i64 (O0 + 1)) H)) ∧
 (¬ (O0 < b0e) →
 a1m H K)
def a2N (x0 : (List ByteArray)) (x1 : ByteArray) (H : Hp) (K : Int → Hp → Prop) : Prop :=
 TL (0 : Int) H fun (s : Int) H n2 => a1o x0 x1 (x0.length : Int) s H n2 K
theorem b6C (x0 : (List ByteArray)) (x1 : ByteArray) (sx0 : Sl) (Fx0 : Frag) (hx0 : RowL 9 1 N2 sx0 x0 Fx0) {K : Int → Hp → Prop} (I : Inv w0 ps0 H0 H [Fx0] w) (hR : ∀ (r0 : Int) (H' : Hp) (w' : World) (_ : Inv w0 ps0 H0 H' [Fx0] w') (_ : K r0 H'), R (vi r0) w') (h : a2N x0 x1 H K) : e8t (vs sx0) (Value.string x1) w R E := by
 unfold a2N at h
 unfold e8t
 have hj1 : ∀ (H : Hp) (w : World) (_ : Inv w0 ps0 H0 H [Fx0] w) (_ : a1m H K), d6H w R E := by
  intro H w I h
  unfold d6H
  intro _
  unfold a1m at h
  exact hR (-1) H _ I h
 refine t6 fun j1 hx1 => ?_
 refine a7 (d3A Tryz.underlying88 hx0) ?_
 obtain ⟨g0k, e2C, k2r, k2s⟩ := h
 refine B5 (J := fun n l w => ∃ (s : Int) (H : Hp) , n = e2C s ∧ l = [(vi s)] ∧ Inv w0 ps0 H0 H [Fx0] w ∧ g0k s H) ⟨_, 0, H, rfl, rfl, I, k2r⟩ ?_
 rintro l0V τ_15 w next2 ⟨O0, H, rfl, g0l, I, k2t⟩ hn2
 simp only [List.map_cons, List.map_nil, List.cons.injEq, and_true] at g0l
 have e8 := g0l
 simp only [e8]
 obtain ⟨n2, hm2, h⟩ : ∃ n2 : Int → Hp → Prop, (∀ s' H', n2 s' H' → g0k s' H' ∧ e2C s' < e2C O0) ∧ a1o x0 x1 (x0.length : Int) O0 H n2 K := ⟨_, fun _ _ h => h, k2s O0 H (fun s' H' => g0k s' H' ∧ e2C s' < e2C O0) k2t (fun _ _ a b => ⟨a, b⟩)⟩
 unfold e6E
 unfold a1o at h
 refine a7 (w9 _ _ _ _ _ _) ?_
 refine k7 (fun c_9 => ?_) (fun c_9 => ?_)
 ·replace h := h.1 c_9
  obtain ⟨h_3, x_1, h_4, h⟩ := h
  obtain ⟨g_2, a_6, h_5, h_7⟩ := hx0.addr h_4
  refine a7 (f8E h_5 _ _ _ _ h_3 (hx0.lt h_3 h_4)) ?_
  refine f7 (ld1 (v := (Value.string x_1)) Tryz.isAgg9 (hx0.atW I h_5 h_4)) ?_
  refine a7 (W2 _ _ _ _ _) ?_
  refine k7 (fun c_8 => ?_) (fun c_8 => ?_)
  ·replace h := h.1 c_8
   exact hR O0 H _ I h
  ·replace h := h.2 c_8
   refine a7 (y6 _ _ _ _ _ _) ?_
   exact hn2 _ _ _ (hm2 _ _ h).2 ⟨(IntKind.wrap .i64 (O0 + 1)), H, rfl, rfl, I, (hm2 _ _ h).1⟩
 ·replace h := h.2 c_9
  exact hx1 _ _ (hj1 H _ I h)
theorem b7v (x0 : (List ByteArray)) (x1 : ByteArray) {H : Hp} {K : Int → Hp → Prop} (h : a2N x0 x1 H K) : a6o x0 x1 H K := by
 intro sx0 Fx0 hx0 w I
 refine g8q ?_
 refine b6C x0 x1 sx0 Fx0 hx0 I (fun r0 H' w' I' hk => ⟨H', _, I', r0, rfl, rfl, hk⟩) h
def K8 (e8S : Sl) (d7g : Int) (l0W : Sl) (k5o : Int) (b7U : Int) (H : Hp) (n4 : (Int × Int) → Hp → Prop) (K : Sl → Hp → Prop) : Prop :=
 n4 (d7g, (IntKind.wrap .i64 (b7U + 1))) H
def K9 (d4o : (List i5)) (H : Hp) (K : Sl → Hp → Prop) : Prop :=
 ∀ (b7V : Sl) (b8Y : Hp), Hle H b8Y → SlH b8Y 1 w8 b7V d4o → b7V.n ≤ b7V.c →
 K b7V b8Y
def L0 (g4M : Sl) (g4N : Int) (b1w : (List i5)) (b0v : Int) (H : Hp) (n3 : ((List i5) × Int) → Hp → Prop) (K : Sl → Hp → Prop) : Prop :=
 (b0v < g4N →
 (0 : Int) ≤ b0v ∧ (b0v : Int) < g4M.n ∧ ∃ e9Q : Sl, EltH H g4M b0v 1 [(vs e9Q)] ∧
 ∃ b7W : List i5, SlH H 1 w8 e9Q b7W ∧ (b1w.length + b7W.length) * 17 ≤ 140737488355328 ∧
 n3 ((b1w ++ b7W), (IntKind.wrap .i64 (b0v + 1))) H) ∧
 (¬ (b0v < g4N) →
 K9 b1w H K)
def L1 (d7h : Sl) (b3M : Int) (H : Hp) (K : Sl → Hp → Prop) : Prop :=
 a0i b3M H (fun (e9R : (List i5)) (H_9 : Hp) =>
 TL ((e9R, 0) : (List i5) × Int) H_9 fun (s : (List i5) × Int) H n3 => L0 d7h (d7h.n : Int) s.1 s.2 H n3 K)
def L2 (i3w : Sl) (b1u : Sl) (e9S : Int) (b5W : Int) (a9F : Int) (H : Hp) (n4 : (Int × Int) → Hp → Prop) (K : Sl → Hp → Prop) : Prop :=
 (a9F < e9S →
 (0 : Int) ≤ a9F ∧ (a9F : Int) < b1u.n ∧ ∃ x_1 : Sl, EltH H b1u a9F 1 [(vs x_1)] ∧
 ((IntKind.wrap .i64 (b5W + (x_1.n : Int))) < 0 →
 False) ∧
 (¬ ((IntKind.wrap .i64 (b5W + (x_1.n : Int))) < 0) →
 K8 i3w (IntKind.wrap .i64 (b5W + (x_1.n : Int))) b1u e9S a9F H n4 K)) ∧
 (¬ (a9F < e9S) →
 L1 i3w b5W H K)
def M9 (x0 : Sl) (H : Hp) (K : Sl → Hp → Prop) : Prop :=
 TL ((0, 0) : Int × Int) H fun (s : Int × Int) H n4 => L2 x0 x0 (x0.n : Int) s.1 s.2 H n4 K
theorem a8h (x0 : Sl) {K : Sl → Hp → Prop} (I : Inv w0 ps0 H0 H [] w) (hR : ∀ (r0 : Sl) (H' : Hp) (w' : World) (_ : Inv w0 ps0 H0 H' [] w') (_ : K r0 H'), R (vs r0) w') (h : M9 x0 H K) : F75 (vs x0) w R E := by
 unfold M9 at h
 unfold F75
 have hj1 : ∀ (b3M : Int) (H : Hp) (w : World) (_ : Inv w0 ps0 H0 H [] w) (_ : L1 x0 b3M H K), e0T (vs x0) (vi b3M) w R E := by
  intro b3M H w I h
  unfold e0T
  intro _
  unfold L1 at h
  refine g9 (cap := []) (fun args w => Tryz.call119 args w) ?_
  refine l7 (Fi := []) (Fr := []) I (h) (fun l0X H_9 l0Y p5 a3l g0l b4q k2u => ?_) (fun _ _ _ _ _ q => q.elim)
  obtain ⟨e9R, i3x, i3y, rfl, rfl, i3z, h⟩ := k2u
  have hj2 : ∀ (d4o : (List i5)) (b7V : Sl) (Fs6j2 : Frag) (H : Hp) (w : World) (_ : RowL 150 1 w8 b7V d4o Fs6j2) (_ : Inv w0 ps0 H0 H [Fs6j2] w) (_ : K9 d4o H K), e0Q (vs b7V) w R E := by
   intro d4o b7V Fs6j2 H w j5o I h
   unfold e0Q
   intro _
   unfold K9 at h
   obtain ⟨b8Y, a5D, k2v, b0b, k2w⟩ := Inv.freezeC I j5o (by decide)
   replace h := h b7V b8Y k2v b0b k2w
   exact hR b7V b8Y _ a5D h
  refine t6 fun j2 hx2 => ?_
  refine a7 (d3F _ _ _) ?_
  obtain ⟨g0m, e2D, k2x, k2y⟩ := h
  refine B5 (J := fun n l w => ∃ (s : (List i5) × Int) (H : Hp) (d4p : Sl) (Fs6l3 : Frag) , n = e2D s ∧ l = (match s with | (b1w, b0v) => [(vs d4p), (vi b0v)]) ∧ (match s with | (b1w, b0v) => RowL 150 1 w8 d4p b1w Fs6l3) ∧ (match s with | (b1w, b0v) => Inv w0 ps0 H0 H [Fs6l3] w) ∧ g0m s H) ⟨_, (e9R, 0), H_9, i3x, i3y, rfl, rfl, i3z, a3l, k2x⟩ ?_
  rintro l0Z τ_46 w next3 ⟨⟨b1w, b0v⟩, H, d4p, Fs6l3, rfl, c9e, e9T, I, k2z⟩ hn3
  dsimp only at c9e I e9T
  simp only [List.map_cons, List.map_nil, List.cons.injEq, and_true] at c9e
  obtain ⟨e6, e27⟩ := c9e
  simp only [e6, e27]
  obtain ⟨n3, hm3, h⟩ : ∃ n3 : ((List i5) × Int) → Hp → Prop, (∀ s' H', n3 s' H' → g0m s' H' ∧ e2D s' < e2D (b1w, b0v)) ∧ L0 x0 (x0.n : Int) b1w b0v H n3 K := ⟨_, fun _ _ h => h, k2y (b1w, b0v) H (fun s' H' => g0m s' H' ∧ e2D s' < e2D (b1w, b0v)) k2z (fun _ _ a b => ⟨a, b⟩)⟩
  unfold f6a
  unfold L0 at h
  refine a7 (w9 _ _ _ _ _ _) ?_
  refine k7 (fun g0n => ?_) (fun g0n => ?_)
  ·replace h := h.1 g0n
   obtain ⟨e2E, b7w, e9Q, c1k, h⟩ := h
   obtain ⟨i3i, l1a, c6y, c1k⟩ := c1k
   refine a7 (d7R c6y _ _ _ _ e2E b7w) ?_
   refine f7 (ld1 (v := (vs e9Q)) Tryz.isAgg137 (I.atH c1k)) ?_
   obtain ⟨b7W, g0o, h⟩ := h
   obtain ⟨g0p, h⟩ := h
   refine c4o (s := d4p) (xs := b1w) I e9T (SlH.src I g0o T6) g0p fun b0a b3K B3 a7h T8 a9i => ?_
   refine a7 (y6 _ _ _ _ _ _) ?_
   exact hn3 _ _ _ (hm3 _ _ h).2 ⟨((b1w ++ b7W), (IntKind.wrap .i64 (b0v + 1))), H, b0a, b3K, rfl, rfl, a7h, T8, (hm3 _ _ h).1⟩
  ·replace h := h.2 g0n
   exact hx2 _ _ (hj2 b1w d4p Fs6l3 H _ e9T I h)
 refine t6 fun j1 hx1 => ?_
 refine a7 (d3F _ _ _) ?_
 obtain ⟨g0q, e2F, k2A, k2B⟩ := h
 refine B5 (J := fun n l w => ∃ (s : Int × Int) (H : Hp) , n = e2F s ∧ l = (match s with | (b5W, a9F) => [(vi b5W), (vi a9F)]) ∧ (match s with | (b5W, a9F) => Inv w0 ps0 H0 H [] w) ∧ g0q s H) ⟨_, (0, 0), H, rfl, rfl, I, k2A⟩ ?_
 rintro l1b τ_55 w next4 ⟨⟨b5W, a9F⟩, H, rfl, d7i, I, k2C⟩ hn4
 dsimp only at d7i I
 simp only [List.map_cons, List.map_nil, List.cons.injEq, and_true] at d7i
 obtain ⟨e3, e11⟩ := d7i
 simp only [e3, e11]
 obtain ⟨n4, hm4, h⟩ : ∃ n4 : (Int × Int) → Hp → Prop, (∀ s' H', n4 s' H' → g0q s' H' ∧ e2F s' < e2F (b5W, a9F)) ∧ L2 x0 x0 (x0.n : Int) b5W a9F H n4 K := ⟨_, fun _ _ h => h, k2B (b5W, a9F) H (fun s' H' => g0q s' H' ∧ e2F s' < e2F (b5W, a9F)) k2C (fun _ _ a b => ⟨a, b⟩)⟩
 unfold f6b
 unfold L2 at h
 refine a7 (w9 _ _ _ _ _ _) ?_
 refine k7 (fun g0r => ?_) (fun g0r => ?_)
 ·replace h := h.1 g0r
  have hj5 : ∀ (d7g : Int) (H : Hp) (w : World) (_ : Inv w0 ps0 H0 H [] w) (_ : K8 x0 d7g x0 (x0.n : Int) a9F H n4 K), e0U (vs x0) (vi d7g) (vs x0) (vi (x0.n : Int)) (vi a9F) w next4 R E := by
   intro d7g H w I h
   unfold e0U
   intro _
   unfold K8 at h
   refine a7 (y6 _ _ _ _ _ _) ?_
   exact hn4 _ _ _ (hm4 _ _ h).2 ⟨(d7g, (IntKind.wrap .i64 (a9F + 1))), H, rfl, rfl, I, (hm4 _ _ h).1⟩
  refine t6 fun j5 hx5 => ?_
  obtain ⟨h_4, h_5, x_1, h_7, h⟩ := h
  obtain ⟨g_2, o_3, h_6, h_7⟩ := h_7
  refine a7 (d7R h_6 _ _ _ _ h_4 h_5) ?_
  refine f7 (ld1 (v := (vs x_1)) Tryz.isAgg137 (I.atH h_7)) ?_
  refine a7 (b9n _ _ _) ?_
  refine a7 (y6 _ _ _ _ _ _) ?_
  refine a7 (w9 _ _ _ _ _ _) ?_
  refine k7 (fun c_8 => ?_) (fun c_8 => ?_)
  ·replace h := h.1 c_8
   refine a7 (f5x _) ?_
   exact h.elim
  ·replace h := h.2 c_8
   exact hx5 _ _ (hj5 (IntKind.wrap .i64 (b5W + (x_1.n : Int))) H _ I h)
 ·replace h := h.2 g0r
  exact hx1 _ _ (hj1 b5W H _ I h)
theorem a8y (x0 : Sl) {H : Hp} {K : Sl → Hp → Prop} (h : M9 x0 H K) : I2 x0 H K := by
 intro w I
 refine h7Y ?_
 refine a8h x0 I (fun r0 H' w' I' hk => ⟨H', _, I', r0, rfl, rfl, hk⟩) h
def a2g (x0 : d9) (x1 : Int) (H : Hp) (K : Bool → d9 → Hp → Prop) : Prop :=
 (¬ (x0.fbad = 0) →
 K false x0 H) ∧
 (x0.fbad = 0 →
 (x0.fn = 4096 →
 K false (d9.mk x0.fn x0.fdepth 33) H) ∧
 (¬ (x0.fn = 4096) →
 (64 < x1 →
 K false (d9.mk x0.fn x0.fdepth 32) H) ∧
 (¬ (64 < x1) →
 K true (d9.mk (IntKind.wrap .i64 (x0.fn + 1)) (if x1 > x0.fdepth then x1 else x0.fdepth) x0.fbad) H)))
theorem b5X (x0 : d9) (x1 : Int) (g0 : Nat) {K : Bool → d9 → Hp → Prop} (I : Inv w0 ps0 H0 H [bx g0 108 (k8 x0)] w) (hR : ∀ (r0 : Bool) (y0 : d9) (H' : Hp) (w' : World) (_ : Inv w0 ps0 H0 H' [bx g0 108 (k8 y0)] w') (_ : K r0 y0 H'), R (vB r0) w') (h : a2g x0 x1 H K) : F84 (Value.pointer (some ⟨g0, 0, none⟩)) (vi x1) w R E := by
 unfold a2g at h
 unfold F84
 refine a7 (A7 _) ?_
 refine a7 a0b ?_
 refine f7 (ld1 Tryz.isAgg3 (I.at1 (o := 2) (vs := [(vi x0.fbad)]) (nb rfl) rfl)) ?_
 refine a7 (M7 _ _ _ _ _ _) ?_
 refine a4f (fun b1v => ?_) (fun b1v => ?_)
 ·replace h := h.1 b1v
  exact hR false x0 H _ I h
 ·replace h := h.2 b1v
  refine a7 (A7 _) ?_
  refine a7 c3q ?_
  refine f7 (ld1 Tryz.isAgg3 (I.at1 (o := 0) (vs := [(vi x0.fn)]) (nb rfl) rfl)) ?_
  refine a7 (i8 _ _ _ _ _ _) ?_
  refine k7 (fun c1f => ?_) (fun c1f => ?_)
  ·replace h := h.1 c1f
   refine a7 (A7 _) ?_
   refine a7 a0b ?_
   refine m6 I Tryz.sizeOf3 (vs := [(vi 33)]) (cs' := [(vi x0.fn), (vi x0.fdepth), (vi 33)]) rfl rfl (nb rfl) rfl rfl fun w_1 I_2 k_3 => ?_
   exact hR false (d9.mk x0.fn x0.fdepth 33) H _ I_2 h
  ·replace h := h.2 c1f
   refine a7 (a4M _ _ _ _ _ _) ?_
   refine k7 (fun d2T => ?_) (fun d2T => ?_)
   ·replace h := h.1 d2T
    refine a7 (A7 _) ?_
    refine a7 a0b ?_
    refine m6 I Tryz.sizeOf3 (vs := [(vi 32)]) (cs' := [(vi x0.fn), (vi x0.fdepth), (vi 32)]) rfl rfl (nb rfl) rfl rfl fun w_4 I_5 k_6 => ?_
    exact hR false (d9.mk x0.fn x0.fdepth 32) H _ I_5 h
   ·replace h := h.2 d2T
    refine a7 (A7 _) ?_
    refine a7 c3q ?_
    refine f7 (ld1 Tryz.isAgg3 (I.at1 (o := 0) (vs := [(vi x0.fn)]) (nb rfl) rfl)) ?_
    refine a7 (y6 _ _ _ _ _ _) ?_
    refine a7 (A7 _) ?_
    refine a7 c3q ?_
    refine m6 I Tryz.sizeOf3 (vs := [(vi (IntKind.wrap .i64 (x0.fn + 1)))]) (cs' := [(vi (IntKind.wrap .i64 (x0.fn + 1))), (vi x0.fdepth), (vi x0.fbad)]) rfl rfl (nb rfl) rfl rfl fun w_7 I_8 k_9 => ?_
    refine a7 (A7 _) ?_
    refine a7 d1H ?_
    refine f7 (ld1 Tryz.isAgg3 (I_8.at1 (o := 1) (vs := [(vi x0.fdepth)]) (nb rfl) rfl)) ?_
    refine a7 (f5p _ _ _ _ _) ?_
    refine a7 (A7 _) ?_
    refine a7 d1H ?_
    refine m6 I_8 Tryz.sizeOf3 (vs := [(vi (if x1 > x0.fdepth then x1 else x0.fdepth))]) (cs' := [(vi (IntKind.wrap .i64 (x0.fn + 1))), (vi (if x1 > x0.fdepth then x1 else x0.fdepth)), (vi x0.fbad)]) rfl rfl (nb rfl) rfl rfl fun p5 a3l b4q => ?_
    exact hR true (d9.mk (IntKind.wrap .i64 (x0.fn + 1)) (if x1 > x0.fdepth then x1 else x0.fdepth) x0.fbad) H _ a3l h
theorem b6D (x0 : d9) (x1 : Int) {H : Hp} {K : Bool → d9 → Hp → Prop} (h : a2g x0 x1 H K) : T0 x0 x1 H K := by
 intro g0 w I
 refine h8t ?_
 refine b5X x0 x1 g0 I (fun r0 y0 H' w' I' hk => ⟨H', _, I', r0, y0, rfl, rfl, hk⟩) h
def a1p (m7 : a8) (r7 : a8) (H : Hp) (K : Bool → Hp → Prop) : Prop :=
 K true H
def a1q (c1b : a8) (a3z : a8) (G6 : Int) (H : Hp) (n2 : Int → Hp → Prop) (K : Bool → Hp → Prop) : Prop :=
 (G6 < (a3z.i4.n : Int) →
 (0 : Int) ≤ G6 ∧ (G6 : Int) < a3z.i4.n ∧ ∃ a3A : a8, EltH H a3z.i4 G6 4 (b7 a3A) ∧
 (0 : Int) ≤ G6 ∧ (G6 : Int) < c1b.i4.n ∧ ∃ b0R : a8, EltH H c1b.i4 G6 4 (b7 b0R) ∧
 Z6 a3A b0R H (fun (c6z : Bool) (c1l : Hp) =>
 ((!c6z) = true →
 K false c1l) ∧
 ((!c6z) = false →
 n2 (IntKind.wrap .i64 (G6 + 1)) c1l))) ∧
 (¬ (G6 < (a3z.i4.n : Int)) →
 a1p c1b a3z H K)
def a2O (x0 : a8) (x1 : a8) (H : Hp) (K : Bool → Hp → Prop) : Prop :=
 (((((!decide (x0.b6 = x1.b6)) || (!decide (x0.m8 = x1.m8))) || (!decide (x0.g7 = x1.g7))) || (!decide ((x0.i4.n : Int) = (x1.i4.n : Int)))) = true →
 K false H) ∧
 (((((!decide (x0.b6 = x1.b6)) || (!decide (x0.m8 = x1.m8))) || (!decide (x0.g7 = x1.g7))) || (!decide ((x0.i4.n : Int) = (x1.i4.n : Int)))) = false →
 TL (0 : Int) H fun (s : Int) H n2 => a1q x1 x0 s H n2 K)
theorem b6E (x0 : a8) (x1 : a8) {K : Bool → Hp → Prop} (I : Inv w0 ps0 H0 H [] w) (hR : ∀ (r0 : Bool) (H' : Hp) (w' : World) (_ : Inv w0 ps0 H0 H' [] w') (_ : K r0 H'), R (vB r0) w') (h : a2O x0 x1 H K) : F53 (Value.agg (b7 x0).toArray) (Value.agg (b7 x1).toArray) w R E := by
 unfold a2O at h
 unfold F53
 refine J5 I (cs := (b7 x0)) rfl fun g_2 w_3 I_4 k_5 => ?_
 refine J5 I_4 (cs := (b7 x1)) rfl fun g_7 w_8 I_9 b0M => ?_
 refine a7 F7 ?_
 refine f7 (ld1 Tryz.isAgg3 ((I_9.bring 1).at1 (o := 0) (vs := [(vi x0.b6)]) (nb rfl) rfl)) ?_
 refine a7 F7 ?_
 refine f7 (ld1 Tryz.isAgg3 (I_9.at1 (o := 0) (vs := [(vi x1.b6)]) (nb rfl) rfl)) ?_
 refine a7 (M7 _ _ _ _ _ _) ?_
 refine a7 (Pu.g fun hb => by have b9 := hb; exact a3E) ?_
 refine f7 (Ld.g fun hb => by have b9 := hb; simp only [i7 b9]; exact (ld1 Tryz.isAgg2 ((I_9.bring 1).at1 (o := 1) (vs := [(vi x0.m8)]) (nb rfl) rfl))) ?_
 refine a7 (Pu.g fun hb => by have b9 := hb; exact a3E) ?_
 refine f7 (Ld.g fun hb => by have b9 := hb; simp only [i7 b9]; exact (ld1 Tryz.isAgg2 (I_9.at1 (o := 1) (vs := [(vi x1.m8)]) (nb rfl) rfl))) ?_
 refine a7 (Pu.g fun hb => by have b9 := hb; simp only [i7 b9]; exact (M7 _ _ _ _ _ _)) ?_
 refine a7 (J4 _ _) ?_
 refine a7 (Pu.g fun hb => by have b9 := hb; exact b3e) ?_
 refine f7 (Ld.g fun hb => by have b9 := hb; simp only [i7 b9]; exact (ld1 Tryz.isAgg9 ((I_9.bring 1).at1 (o := 2) (vs := [(Value.string x0.g7)]) (nb rfl) rfl))) ?_
 refine a7 (Pu.g fun hb => by have b9 := hb; exact b3e) ?_
 refine f7 (Ld.g fun hb => by have b9 := hb; simp only [i7 b9]; exact (ld1 Tryz.isAgg9 (I_9.at1 (o := 2) (vs := [(Value.string x1.g7)]) (nb rfl) rfl))) ?_
 refine a7 (Pu.g fun hb => by have b9 := hb; simp only [i7 b9]; exact (d9T _ _ _ _ _)) ?_
 refine a7 (J4 _ _) ?_
 refine a7 (Pu.g fun hb => by have b9 := hb; exact v8) ?_
 refine f7 (Ld.g fun hb => by have b9 := hb; simp only [i7 b9]; exact (ld1 Tryz.isAgg51 ((I_9.bring 1).at1 (o := 3) (vs := [(vs x0.i4)]) (nb rfl) rfl))) ?_
 refine a7 (Pu.g fun hb => by have b9 := hb; simp only [i7 b9]; exact (J3 _ _ _)) ?_
 refine a7 (Pu.g fun hb => by have b9 := hb; exact v8) ?_
 refine f7 (Ld.g fun hb => by have b9 := hb; simp only [i7 b9]; exact (ld1 Tryz.isAgg51 (I_9.at1 (o := 3) (vs := [(vs x1.i4)]) (nb rfl) rfl))) ?_
 refine a7 (Pu.g fun hb => by have b9 := hb; simp only [i7 b9]; exact (J3 _ _ _)) ?_
 refine a7 (Pu.g fun hb => by have b9 := hb; simp only [i7 b9]; exact (M7 _ _ _ _ _ _)) ?_
 refine a7 (J4 _ _) ?_
 refine o0 (fun c1m => ?_) (fun c1m => ?_)
 ·replace h := h.1 c1m
  exact hR false H _ I_9.drop.drop h
 ·replace h := h.2 c1m
  have hj1 : ∀ (H : Hp) (w : World) (_ : Inv w0 ps0 H0 H [bx g_7 53 (b7 x1), bx g_2 53 (b7 x0)] w) (_ : a1p x1 x0 H K), e0G w R E := by
   intro H w I h
   unfold e0G
   intro _
   unfold a1p at h
   exact hR true H _ I.drop.drop h
  refine t6 fun j1 hx1 => ?_
  obtain ⟨g0s, e2G, k2D, k2E⟩ := h
  refine B5 (J := fun n l w => ∃ (s : Int) (H : Hp) , n = e2G s ∧ l = [(vi s)] ∧ Inv w0 ps0 H0 H [bx g_7 53 (b7 x1), bx g_2 53 (b7 x0)] w ∧ g0s s H) ⟨_, 0, H, rfl, rfl, ((I_9.bring 1).bring 1), k2D⟩ ?_
  rintro l1c τ_43 w next2 ⟨G6, H, rfl, d7j, I, c9a⟩ hn2
  simp only [List.map_cons, List.map_nil, List.cons.injEq, and_true] at d7j
  have e5 := d7j
  simp only [e5]
  obtain ⟨n2, hm2, h⟩ : ∃ n2 : Int → Hp → Prop, (∀ s' H', n2 s' H' → g0s s' H' ∧ e2G s' < e2G G6) ∧ a1q x1 x0 G6 H n2 K := ⟨_, fun _ _ h => h, k2E G6 H (fun s' H' => g0s s' H' ∧ e2G s' < e2G G6) c9a (fun _ _ a b => ⟨a, b⟩)⟩
  unfold f5V
  unfold a1q at h
  refine a7 v8 ?_
  refine f7 (ld1 Tryz.isAgg51 ((I.bring 1).at1 (o := 3) (vs := [(vs x0.i4)]) (nb rfl) rfl)) ?_
  refine a7 (J3 _ _ _) ?_
  refine a7 (w9 _ _ _ _ _ _) ?_
  refine k7 (fun g0t => ?_) (fun g0t => ?_)
  ·replace h := h.1 g0t
   refine a5z I fun P0 B1 => ?_
   refine q9 v8 ?_
   refine q9 v8 ?_
   refine A5 (ld1 Tryz.isAgg51 ((B1.bring 1).at1 (o := 3) (vs := [(vs x0.i4)]) (nb rfl) rfl)) ?_
   obtain ⟨a7J, b7t, a3A, a6E, h⟩ := h
   obtain ⟨e9U, e9V, c6A, a6E⟩ := a6E
   refine q9 (A0 c6A _ _ _ _ a7J b7t) ?_
   refine A5 (ldA (vs := (b7 a3A)) Tryz.isAgg53 Tryz.sizeOf53 rfl (B1.atH a6E)) ?_
   refine A5 (ld1 Tryz.isAgg51 (B1.at1 (o := 3) (vs := [(vs x1.i4)]) (nb rfl) rfl)) ?_
   obtain ⟨b7w, c6y, b0R, b1x, h⟩ := h
   obtain ⟨e9W, i3A, c1k, b1x⟩ := b1x
   refine q9 (A0 c1k _ _ _ _ b7w c6y) ?_
   refine A5 (ldA (vs := (b7 b0R)) Tryz.isAgg53 Tryz.sizeOf53 rfl (B1.atH b1x)) ?_
   refine g9 (cap := []) (fun args w => Tryz.call53 args w) ?_
   refine l7 (Fi := []) (Fr := [bx g_7 53 (b7 x1), bx g_2 53 (b7 x0)]) B1 (h) (fun k2F c1l k2G B3 b8Z f9N e9X g0u => ?_) (fun _ _ _ _ _ q => q.elim)
   obtain ⟨c6z, rfl, rfl, h⟩ := g0u
   refine q9 (T4 _) ?_
   refine o0 (fun d2U => ?_) (fun d2U => ?_)
   ·replace h := h.1 d2U
    exact hR false c1l _ b8Z.drop.drop h
   ·replace h := h.2 d2U
    refine a7 (y6 _ _ _ _ _ _) ?_
    exact hn2 _ _ _ (hm2 _ _ h).2 ⟨(IntKind.wrap .i64 (G6 + 1)), c1l, rfl, rfl, ((b8Z.bring 1).bring 1), (hm2 _ _ h).1⟩
  ·replace h := h.2 g0t
   exact hx1 _ _ (hj1 H _ ((I.bring 1).bring 1) h)
theorem b7x (x0 : a8) (x1 : a8) {H : Hp} {K : Bool → Hp → Prop} (h : a2O x0 x1 H K) : Z6 x0 x1 H K := by
 intro w I
 refine h7J ?_
 refine b6E x0 x1 I (fun r0 H' w' I' hk => ⟨H', _, I', r0, rfl, rfl, hk⟩) h
def a1r (Q7 : b8) (N9 : b8) (H : Hp) (K : Bool → Hp → Prop) : Prop :=
 K true H
def a1s (P1 : b8) (a1i : b8) (U5 : Int) (H : Hp) (n3 : Int → Hp → Prop) (K : Bool → Hp → Prop) : Prop :=
 (U5 < (a1i.p8.n : Int) →
 (0 : Int) ≤ U5 ∧ (U5 : Int) < a1i.p8.n ∧ ∃ e9Y : b8, EltH H a1i.p8 U5 4 (d6 e9Y) ∧
 (0 : Int) ≤ U5 ∧ (U5 : Int) < P1.p8.n ∧ ∃ e9Z : b8, EltH H P1.p8 U5 4 (d6 e9Z) ∧
 a2L e9Y e9Z H (fun (b7X : Bool) (c6B : Hp) =>
 ((!b7X) = true →
 K false c6B) ∧
 ((!b7X) = false →
 n3 (IntKind.wrap .i64 (U5 + 1)) c6B))) ∧
 (¬ (U5 < (a1i.p8.n : Int)) →
 a1r P1 a1i H K)
def a1t (m7 : b8) (r7 : b8) (H : Hp) (K : Bool → Hp → Prop) : Prop :=
 TL (0 : Int) H fun (s : Int) H n3 => a1s m7 r7 s H n3 K
def a1u (T5 : b8) (Q8 : b8) (a1E : Int) (H : Hp) (n4 : Int → Hp → Prop) (K : Bool → Hp → Prop) : Prop :=
 (a1E < (Q8.i6.n : Int) →
 (0 : Int) ≤ a1E ∧ (a1E : Int) < Q8.i6.n ∧ ∃ a3A : a8, EltH H Q8.i6 a1E 4 (b7 a3A) ∧
 (0 : Int) ≤ a1E ∧ (a1E : Int) < T5.i6.n ∧ ∃ b0R : a8, EltH H T5.i6 a1E 4 (b7 b0R) ∧
 Z6 a3A b0R H (fun (c6z : Bool) (c1l : Hp) =>
 ((!c6z) = true →
 K false c1l) ∧
 ((!c6z) = false →
 n4 (IntKind.wrap .i64 (a1E + 1)) c1l))) ∧
 (¬ (a1E < (Q8.i6.n : Int)) →
 a1t T5 Q8 H K)
def a2P (x0 : b8) (x1 : b8) (H : Hp) (K : Bool → Hp → Prop) : Prop :=
 (((((!decide (x0.b6 = x1.b6)) || (!decide (x0.fOp = x1.fOp))) || (!decide ((x0.i6.n : Int) = (x1.i6.n : Int)))) || (!decide ((x0.p8.n : Int) = (x1.p8.n : Int)))) = true →
 K false H) ∧
 (((((!decide (x0.b6 = x1.b6)) || (!decide (x0.fOp = x1.fOp))) || (!decide ((x0.i6.n : Int) = (x1.i6.n : Int)))) || (!decide ((x0.p8.n : Int) = (x1.p8.n : Int)))) = false →
 TL (0 : Int) H fun (s : Int) H n4 => a1u x1 x0 s H n4 K)
theorem b6F (x0 : b8) (x1 : b8) {K : Bool → Hp → Prop} (I : Inv w0 ps0 H0 H [] w) (hR : ∀ (r0 : Bool) (H' : Hp) (w' : World) (_ : Inv w0 ps0 H0 H' [] w') (_ : K r0 H'), R (vB r0) w') (h : a2P x0 x1 H K) : F52 (Value.agg (d6 x0).toArray) (Value.agg (d6 x1).toArray) w R E := by
 unfold a2P at h
 unfold F52
 refine J5 I (cs := (d6 x0)) rfl fun g_2 w_3 I_4 k_5 => ?_
 refine J5 I_4 (cs := (d6 x1)) rfl fun g_7 w_8 I_9 b0M => ?_
 refine a7 Q2 ?_
 refine f7 (ld1 Tryz.isAgg3 ((I_9.bring 1).at1 (o := 0) (vs := [(vi x0.b6)]) (nb rfl) rfl)) ?_
 refine a7 Q2 ?_
 refine f7 (ld1 Tryz.isAgg3 (I_9.at1 (o := 0) (vs := [(vi x1.b6)]) (nb rfl) rfl)) ?_
 refine a7 (M7 _ _ _ _ _ _) ?_
 refine a7 (Pu.g fun hb => by have b9 := hb; exact a4N) ?_
 refine f7 (Ld.g fun hb => by have b9 := hb; simp only [i7 b9]; exact (ld1 Tryz.isAgg3 ((I_9.bring 1).at1 (o := 1) (vs := [(vi x0.fOp)]) (nb rfl) rfl))) ?_
 refine a7 (Pu.g fun hb => by have b9 := hb; exact a4N) ?_
 refine f7 (Ld.g fun hb => by have b9 := hb; simp only [i7 b9]; exact (ld1 Tryz.isAgg3 (I_9.at1 (o := 1) (vs := [(vi x1.fOp)]) (nb rfl) rfl))) ?_
 refine a7 (Pu.g fun hb => by have b9 := hb; simp only [i7 b9]; exact (M7 _ _ _ _ _ _)) ?_
 refine a7 (J4 _ _) ?_
 refine a7 (Pu.g fun hb => by have b9 := hb; exact M4) ?_
 refine f7 (Ld.g fun hb => by have b9 := hb; simp only [i7 b9]; exact (ld1 Tryz.isAgg51 ((I_9.bring 1).at1 (o := 2) (vs := [(vs x0.i6)]) (nb rfl) rfl))) ?_
 refine a7 (Pu.g fun hb => by have b9 := hb; simp only [i7 b9]; exact (J3 _ _ _)) ?_
 refine a7 (Pu.g fun hb => by have b9 := hb; exact M4) ?_
 refine f7 (Ld.g fun hb => by have b9 := hb; simp only [i7 b9]; exact (ld1 Tryz.isAgg51 (I_9.at1 (o := 2) (vs := [(vs x1.i6)]) (nb rfl) rfl))) ?_
 refine a7 (Pu.g fun hb => by have b9 := hb; simp only [i7 b9]; exact (J3 _ _ _)) ?_
 refine a7 (Pu.g fun hb => by have b9 := hb; simp only [i7 b9]; exact (M7 _ _ _ _ _ _)) ?_
 refine a7 (J4 _ _) ?_
 refine a7 (Pu.g fun hb => by have b9 := hb; exact E5) ?_
 refine f7 (Ld.g fun hb => by have b9 := hb; simp only [i7 b9]; exact (ld1 Tryz.isAgg57 ((I_9.bring 1).at1 (o := 3) (vs := [(vs x0.p8)]) (nb rfl) rfl))) ?_
 refine a7 (Pu.g fun hb => by have b9 := hb; simp only [i7 b9]; exact (U9 _ _ _)) ?_
 refine a7 (Pu.g fun hb => by have b9 := hb; exact E5) ?_
 refine f7 (Ld.g fun hb => by have b9 := hb; simp only [i7 b9]; exact (ld1 Tryz.isAgg57 (I_9.at1 (o := 3) (vs := [(vs x1.p8)]) (nb rfl) rfl))) ?_
 refine a7 (Pu.g fun hb => by have b9 := hb; simp only [i7 b9]; exact (U9 _ _ _)) ?_
 refine a7 (Pu.g fun hb => by have b9 := hb; simp only [i7 b9]; exact (M7 _ _ _ _ _ _)) ?_
 refine a7 (J4 _ _) ?_
 refine o0 (fun c0V => ?_) (fun c0V => ?_)
 ·replace h := h.1 c0V
  exact hR false H _ I_9.drop.drop h
 ·replace h := h.2 c0V
  have hj1 : ∀ (H : Hp) (w : World) (_ : Inv w0 ps0 H0 H [bx g_7 59 (d6 x1), bx g_2 59 (d6 x0)] w) (_ : a1t x1 x0 H K), e0y (Value.pointer (some ⟨g_2, 0, none⟩)) (Value.pointer (some ⟨g_7, 0, none⟩)) w R E := by
   intro H w I h
   unfold e0y
   intro _
   unfold a1t at h
   have hj2 : ∀ (H : Hp) (w : World) (_ : Inv w0 ps0 H0 H [bx g_7 59 (d6 x1), bx g_2 59 (d6 x0)] w) (_ : a1r x1 x0 H K), e0w w R E := by
    intro H w I h
    unfold e0w
    intro _
    unfold a1r at h
    exact hR true H _ I.drop.drop h
   refine t6 fun j2 hx2 => ?_
   obtain ⟨g0v, e2H, k2H, k2I⟩ := h
   refine B5 (J := fun n l w => ∃ (s : Int) (H : Hp) , n = e2H s ∧ l = [(vi s)] ∧ Inv w0 ps0 H0 H [bx g_7 59 (d6 x1), bx g_2 59 (d6 x0)] w ∧ g0v s H) ⟨_, 0, H, rfl, rfl, ((I.bring 1).bring 1), k2H⟩ ?_
   rintro l1d τ_69 w next3 ⟨U5, H, rfl, d2e, I, k2J⟩ hn3
   simp only [List.map_cons, List.map_nil, List.cons.injEq, and_true] at d2e
   have e6 := d2e
   simp only [e6]
   obtain ⟨n3, hm3, h⟩ : ∃ n3 : Int → Hp → Prop, (∀ s' H', n3 s' H' → g0v s' H' ∧ e2H s' < e2H U5) ∧ a1s x1 x0 U5 H n3 K := ⟨_, fun _ _ h => h, k2I U5 H (fun s' H' => g0v s' H' ∧ e2H s' < e2H U5) k2J (fun _ _ a b => ⟨a, b⟩)⟩
   unfold f5M
   unfold a1s at h
   refine a7 E5 ?_
   refine f7 (ld1 Tryz.isAgg57 ((I.bring 1).at1 (o := 3) (vs := [(vs x0.p8)]) (nb rfl) rfl)) ?_
   refine a7 (U9 _ _ _) ?_
   refine a7 (w9 _ _ _ _ _ _) ?_
   refine k7 (fun d2L => ?_) (fun d2L => ?_)
   ·replace h := h.1 d2L
    refine a5z I fun b2x b2g => ?_
    refine q9 E5 ?_
    refine q9 E5 ?_
    refine A5 (ld1 Tryz.isAgg57 ((b2g.bring 1).at1 (o := 3) (vs := [(vs x0.p8)]) (nb rfl) rfl)) ?_
    obtain ⟨a7g, a6p, e9Y, d2r, h⟩ := h
    obtain ⟨l1e, l1f, e2k, d2r⟩ := d2r
    refine q9 (S7 e2k _ _ _ _ a7g a6p) ?_
    refine A5 (ldA (vs := (d6 e9Y)) Tryz.isAgg59 Tryz.sizeOf59 rfl (b2g.atH d2r)) ?_
    refine A5 (ld1 Tryz.isAgg57 (b2g.at1 (o := 3) (vs := [(vs x1.p8)]) (nb rfl) rfl)) ?_
    obtain ⟨e2I, e2y, e9Z, c3I, h⟩ := h
    obtain ⟨l1g, l1h, d2n, c3I⟩ := c3I
    refine q9 (S7 d2n _ _ _ _ e2I e2y) ?_
    refine A5 (ldA (vs := (d6 e9Z)) Tryz.isAgg59 Tryz.sizeOf59 rfl (b2g.atH c3I)) ?_
    refine g9 (cap := []) (fun args w => Tryz.call52 args w) ?_
    refine l7 (Fi := []) (Fr := [bx g_7 59 (d6 x1), bx g_2 59 (d6 x0)]) b2g (h) (fun k2K c6B k2L K5 c3O k2M g0w g0x => ?_) (fun _ _ _ _ _ q => q.elim)
    obtain ⟨b7X, rfl, rfl, h⟩ := g0x
    refine q9 (T4 _) ?_
    refine o0 (fun d2M => ?_) (fun d2M => ?_)
    ·replace h := h.1 d2M
     exact hR false c6B _ c3O.drop.drop h
    ·replace h := h.2 d2M
     refine a7 (y6 _ _ _ _ _ _) ?_
     exact hn3 _ _ _ (hm3 _ _ h).2 ⟨(IntKind.wrap .i64 (U5 + 1)), c6B, rfl, rfl, ((c3O.bring 1).bring 1), (hm3 _ _ h).1⟩
   ·replace h := h.2 d2L
    exact hx2 _ _ (hj2 H _ ((I.bring 1).bring 1) h)
  refine t6 fun j1 hx1 => ?_
  obtain ⟨c0H, b2M, e1K, e1L⟩ := h
  refine B5 (J := fun n l w => ∃ (s : Int) (H : Hp) , n = b2M s ∧ l = [(vi s)] ∧ Inv w0 ps0 H0 H [bx g_7 59 (d6 x1), bx g_2 59 (d6 x0)] w ∧ c0H s H) ⟨_, 0, H, rfl, rfl, ((I_9.bring 1).bring 1), e1K⟩ ?_
  rintro i3d τ_78 w next4 ⟨a1E, H, rfl, b3G, I, e1M⟩ hn4
  simp only [List.map_cons, List.map_nil, List.cons.injEq, and_true] at b3G
  have e5 := b3G
  simp only [e5]
  obtain ⟨n4, hm4, h⟩ : ∃ n4 : Int → Hp → Prop, (∀ s' H', n4 s' H' → c0H s' H' ∧ b2M s' < b2M a1E) ∧ a1u x1 x0 a1E H n4 K := ⟨_, fun _ _ h => h, e1L a1E H (fun s' H' => c0H s' H' ∧ b2M s' < b2M a1E) e1M (fun _ _ a b => ⟨a, b⟩)⟩
  unfold f5R
  unfold a1u at h
  refine a7 M4 ?_
  refine f7 (ld1 Tryz.isAgg51 ((I.bring 1).at1 (o := 2) (vs := [(vs x0.i6)]) (nb rfl) rfl)) ?_
  refine a7 (J3 _ _ _) ?_
  refine a7 (w9 _ _ _ _ _ _) ?_
  refine k7 (fun a8J => ?_) (fun a8J => ?_)
  ·replace h := h.1 a8J
   refine a5z I fun P0 B1 => ?_
   refine q9 M4 ?_
   refine q9 M4 ?_
   refine A5 (ld1 Tryz.isAgg51 ((B1.bring 1).at1 (o := 2) (vs := [(vs x0.i6)]) (nb rfl) rfl)) ?_
   obtain ⟨a7J, b7t, a3A, a6E, h⟩ := h
   obtain ⟨e9U, e9V, c6A, a6E⟩ := a6E
   refine q9 (A0 c6A _ _ _ _ a7J b7t) ?_
   refine A5 (ldA (vs := (b7 a3A)) Tryz.isAgg53 Tryz.sizeOf53 rfl (B1.atH a6E)) ?_
   refine A5 (ld1 Tryz.isAgg51 (B1.at1 (o := 2) (vs := [(vs x1.i6)]) (nb rfl) rfl)) ?_
   obtain ⟨b7w, c6y, b0R, b1x, h⟩ := h
   obtain ⟨e9W, i3A, c1k, b1x⟩ := b1x
   refine q9 (A0 c1k _ _ _ _ b7w c6y) ?_
   refine A5 (ldA (vs := (b7 b0R)) Tryz.isAgg53 Tryz.sizeOf53 rfl (B1.atH b1x)) ?_
   refine g9 (cap := []) (fun args w => Tryz.call53 args w) ?_
   refine l7 (Fi := []) (Fr := [bx g_7 59 (d6 x1), bx g_2 59 (d6 x0)]) B1 (h) (fun k2F c1l k2G B3 b8Z f9N e9X g0u => ?_) (fun _ _ _ _ _ q => q.elim)
   obtain ⟨c6z, rfl, rfl, h⟩ := g0u
   refine q9 (T4 _) ?_
   refine o0 (fun d2U => ?_) (fun d2U => ?_)
   ·replace h := h.1 d2U
    exact hR false c1l _ b8Z.drop.drop h
   ·replace h := h.2 d2U
    refine a7 (y6 _ _ _ _ _ _) ?_
    exact hn4 _ _ _ (hm4 _ _ h).2 ⟨(IntKind.wrap .i64 (a1E + 1)), c1l, rfl, rfl, ((b8Z.bring 1).bring 1), (hm4 _ _ h).1⟩
  ·replace h := h.2 a8J
   exact hx1 _ _ (hj1 H _ ((I.bring 1).bring 1) h)
theorem b7y (x0 : b8) (x1 : b8) {H : Hp} {K : Bool → Hp → Prop} (h : a2P x0 x1 H K) : a2L x0 x1 H K := by
 intro w I
 refine h7x ?_
 refine b6F x0 x1 I (fun r0 H' w' I' hk => ⟨H', _, I', r0, rfl, rfl, hk⟩) h
def L3 (k2N : Int) (d0o : Bool) (S5 : M2) (H : Hp) (K : Bool → Hp → Prop) : Prop :=
 (d0o = true →
 K (decide (k2N = 2)) H) ∧
 (d0o = false →
 K false H)
def W0 (d7k : Int) (b3l : Int) (d0p : Bool) (N9 : M2) (H : Hp) (K : Bool → Hp → Prop) : Prop :=
 (d0p = true →
 K (decide (d7k = 1)) H) ∧
 (d0p = false →
 (b3l = 6 →
 L3 d7k (decide (b3l = 6)) N9 H K) ∧
 (¬ (b3l = 6) →
 (b3l = 7 →
 L3 d7k (decide (b3l = 7)) N9 H K) ∧
 (¬ (b3l = 7) →
 (b3l = 8 →
 L3 d7k (decide (b3l = 8)) N9 H K) ∧
 (¬ (b3l = 8) →
 (b3l = 9 →
 L3 d7k (decide (b3l = 9)) N9 H K) ∧
 (¬ (b3l = 9) →
 L3 d7k (decide (b3l = 10)) N9 H K)))))
def W1 (b3M : Int) (b3k : Int) (d0q : Bool) (r7 : M2) (H : Hp) (K : Bool → Hp → Prop) : Prop :=
 (d0q = true →
 K (decide (b3M = 0)) H) ∧
 (d0q = false →
 (b3k = 4 →
 W0 b3M b3k (decide (b3k = 4)) r7 H K) ∧
 (¬ (b3k = 4) →
 W0 b3M b3k (decide (b3k = 5)) r7 H K))
def a5O (x0 : M2) (H : Hp) (K : Bool → Hp → Prop) : Prop :=
 a7f (i5.J8 x0) H (fun (C1 : ByteArray) (b2o : Bool) (H_6 : Hp) =>
 ((((!decide (x0.u2.b6 = 1)) && (!decide (x0.u2.m8 = 0))) || ((!b2o) && (!decide (x0.u2.g7 = ⟨#[]⟩)))) = true →
 K false H_6) ∧
 ((((!decide (x0.u2.b6 = 1)) && (!decide (x0.u2.m8 = 0))) || ((!b2o) && (!decide (x0.u2.g7 = ⟨#[]⟩)))) = false →
 (x0.u2.b6 = 1 →
 K ((decide (0 ≤ x0.u2.m8)) && (decide ((x0.u2.i4.n : Int) = 0))) H_6) ∧
 (¬ (x0.u2.b6 = 1) →
 (x0.u2.b6 = 2 →
 W1 (x0.u2.i4.n : Int) x0.u2.b6 (decide (x0.u2.b6 = 2)) x0 H_6 K) ∧
 (¬ (x0.u2.b6 = 2) →
 W1 (x0.u2.i4.n : Int) x0.u2.b6 (decide (x0.u2.b6 = 3)) x0 H_6 K))))
theorem c1n (x0 : M2) {K : Bool → Hp → Prop} (I : Inv w0 ps0 H0 H [] w) (hR : ∀ (r0 : Bool) (H' : Hp) (w' : World) (_ : Inv w0 ps0 H0 H' [] w') (_ : K r0 H'), R (vB r0) w') (h : a5O x0 H K) : e8w (Value.agg (b7 x0.u2).toArray) w R E := by
 unfold a5O at h
 unfold e8w
 refine J5 I (cs := (b7 x0.u2)) rfl fun g_2 w_3 I_4 k_5 => ?_
 refine a7 a4K ?_
 refine a7 v8 ?_
 refine f7 (ld1 Tryz.isAgg51 (I_4.at1 (o := 3) (vs := [(vs x0.u2.i4)]) (nb rfl) rfl)) ?_
 refine a7 (J3 _ _ _) ?_
 refine f7 (ldA Tryz.isAgg136 Tryz.sizeOf136 rfl (I_4.at1 (o := 0) (vs := (b7 x0.u2)) (nb rfl) rfl)) ?_
 refine a7 (b6P x0) ?_
 refine g9 (cap := []) (fun args w => Tryz.call143 args w) ?_
 refine l7 (Fi := []) (Fr := [bx g_2 136 (b7 x0.u2)]) I_4 (h) (fun b7c H_6 b5P w_7 I_8 b7d k_9 a6w => ?_) (fun _ _ _ _ _ q => q.elim)
 obtain ⟨C1, b2o, rfl, rfl, h⟩ := a6w
 refine a7 (o2 _ _ (Value.string C1) rfl) ?_
 refine a7 (o2 _ _ (vB b2o) rfl) ?_
 refine a7 a4K ?_
 refine a7 F7 ?_
 refine f7 (ld1 Tryz.isAgg3 (I_8.at1 (o := 0) (vs := [(vi x0.u2.b6)]) (nb rfl) rfl)) ?_
 refine a7 (M7 _ _ _ _ _ _) ?_
 refine a7 (Pu.g fun hb => by have b9 := hb; exact a4K) ?_
 refine a7 (Pu.g fun hb => by have b9 := hb; simp only [i7 b9]; exact a3E) ?_
 refine f7 (Ld.g fun hb => by have b9 := hb; simp only [i7 b9]; exact (ld1 Tryz.isAgg2 (I_8.at1 (o := 1) (vs := [(vi x0.u2.m8)]) (nb rfl) rfl))) ?_
 refine a7 (Pu.g fun hb => by have b9 := hb; simp only [i7 b9]; exact (M7 _ _ _ _ _ _)) ?_
 refine a7 (s7 _ _) ?_
 simp only [u5]
 refine a7 (Pu.g fun hb => by have b9 := hb; simp only [i7 b9]; exact (T4 _)) ?_
 simp only [b1b]
 refine a7 (Pu.e (a5x _ _ _) (Pu.g fun hb => by obtain ⟨b9, a3x⟩ := a9s hb; exact a4K)) ?_
 refine a7 (Pu.e (a5x _ _ _) (Pu.g fun hb => by obtain ⟨b9, a3x⟩ := a9s hb; simp only [i7 hb]; exact b3e)) ?_
 refine f7 (Ld.e (a5x _ _ _) (Ld.g fun hb => by obtain ⟨b9, a3x⟩ := a9s hb; simp only [i7 hb]; exact (ld1 Tryz.isAgg9 (I_8.at1 (o := 2) (vs := [(Value.string x0.u2.g7)]) (nb rfl) rfl)))) ?_
 refine a7 (Pu.e (a5x _ _ _) (Pu.g fun hb => by obtain ⟨b9, a3x⟩ := a9s hb; simp only [i7 hb]; exact (d9T _ _ _ _ _))) ?_
 refine a7 (Pu.g fun hb => by have b9 := hb; simp only [i7 b9, b5u b9]; exact (s7 _ _)) ?_
 refine a7 (J4 _ _) ?_
 refine o0 (fun d2V => ?_) (fun d2V => ?_)
 ·replace h := h.1 d2V
  exact hR false H_6 _ I_8.drop h
 ·replace h := h.2 d2V
  refine a7 a4K ?_
  refine a7 F7 ?_
  refine f7 (ld1 Tryz.isAgg3 (I_8.at1 (o := 0) (vs := [(vi x0.u2.b6)]) (nb rfl) rfl)) ?_
  refine a7 (i8 _ _ _ _ _ _) ?_
  refine k7 (fun b4K => ?_) (fun b4K => ?_)
  ·replace h := h.1 b4K
   refine a7 a4K ?_
   refine a7 a3E ?_
   refine f7 (ld1 Tryz.isAgg2 (I_8.at1 (o := 1) (vs := [(vi x0.u2.m8)]) (nb rfl) rfl)) ?_
   refine a7 (a7M _ _ _ _ _ _) ?_
   simp only [u5]
   refine a7 (Pu.g fun hb => by have b9 := hb; simp only [i7 b9]; exact (i8 _ _ _ _ _ _)) ?_
   refine a7 (s7 _ _) ?_
   exact hR ((decide (0 ≤ x0.u2.m8)) && (decide ((x0.u2.i4.n : Int) = 0))) H_6 _ I_8.drop h
  ·replace h := h.2 b4K
   have hj1 : ∀ (d0q : Bool) (H : Hp) (w : World) (_ : Inv w0 ps0 H0 H [bx g_2 136 (b7 x0.u2)] w) (_ : W1 (x0.u2.i4.n : Int) x0.u2.b6 d0q x0 H K), d6L (vi (x0.u2.i4.n : Int)) (vi x0.u2.b6) (vB d0q) w R E := by
    intro d0q H w I h
    unfold d6L
    intro _
    unfold W1 at h
    refine o0 (fun b4L => ?_) (fun b4L => ?_)
    ·replace h := h.1 b4L
     refine a7 (i8 _ _ _ _ _ _) ?_
     exact hR (decide ((x0.u2.i4.n : Int) = 0)) H _ I.drop h
    ·replace h := h.2 b4L
     have hj2 : ∀ (d0p : Bool) (H : Hp) (w : World) (_ : Inv w0 ps0 H0 H [bx g_2 136 (b7 x0.u2)] w) (_ : W0 (x0.u2.i4.n : Int) x0.u2.b6 d0p x0 H K), d6K (vi (x0.u2.i4.n : Int)) (vi x0.u2.b6) (vB d0p) w R E := by
      intro d0p H w I h
      unfold d6K
      intro _
      unfold W0 at h
      refine o0 (fun a8M => ?_) (fun a8M => ?_)
      ·replace h := h.1 a8M
       refine a7 (i8 _ _ _ _ _ _) ?_
       exact hR (decide ((x0.u2.i4.n : Int) = 1)) H _ I.drop h
      ·replace h := h.2 a8M
       have hj3 : ∀ (d0o : Bool) (H : Hp) (w : World) (_ : Inv w0 ps0 H0 H [bx g_2 136 (b7 x0.u2)] w) (_ : L3 (x0.u2.i4.n : Int) d0o x0 H K), d6J (vi (x0.u2.i4.n : Int)) (vB d0o) w R E := by
        intro d0o H w I h
        unfold d6J
        intro _
        unfold L3 at h
        refine o0 (fun b1v => ?_) (fun b1v => ?_)
        ·replace h := h.1 b1v
         refine a7 (i8 _ _ _ _ _ _) ?_
         exact hR (decide ((x0.u2.i4.n : Int) = 2)) H _ I.drop h
        ·replace h := h.2 b1v
         exact hR false H _ I.drop h
       refine t6 fun j3 hx3 => ?_
       refine a7 (i8 _ _ _ _ _ _) ?_
       refine k7 (fun c1d => ?_) (fun c1d => ?_)
       ·replace h := h.1 c1d
        exact hx3 _ _ (hj3 (decide (x0.u2.b6 = 6)) H _ I h)
       ·replace h := h.2 c1d
        refine a7 (i8 _ _ _ _ _ _) ?_
        refine k7 (fun c1g => ?_) (fun c1g => ?_)
        ·replace h := h.1 c1g
         exact hx3 _ _ (hj3 (decide (x0.u2.b6 = 7)) H _ I h)
        ·replace h := h.2 c1g
         refine a7 (i8 _ _ _ _ _ _) ?_
         refine k7 (fun b4J => ?_) (fun b4J => ?_)
         ·replace h := h.1 b4J
          exact hx3 _ _ (hj3 (decide (x0.u2.b6 = 8)) H _ I h)
         ·replace h := h.2 b4J
          refine a7 (i8 _ _ _ _ _ _) ?_
          refine k7 (fun c1e => ?_) (fun c1e => ?_)
          ·replace h := h.1 c1e
           exact hx3 _ _ (hj3 (decide (x0.u2.b6 = 9)) H _ I h)
          ·replace h := h.2 c1e
           refine a7 (i8 _ _ _ _ _ _) ?_
           exact hx3 _ _ (hj3 (decide (x0.u2.b6 = 10)) H _ I h)
     refine t6 fun j2 hx2 => ?_
     refine a7 (i8 _ _ _ _ _ _) ?_
     refine k7 (fun b1r => ?_) (fun b1r => ?_)
     ·replace h := h.1 b1r
      exact hx2 _ _ (hj2 (decide (x0.u2.b6 = 4)) H _ I h)
     ·replace h := h.2 b1r
      refine a7 (i8 _ _ _ _ _ _) ?_
      exact hx2 _ _ (hj2 (decide (x0.u2.b6 = 5)) H _ I h)
   refine t6 fun j1 hx1 => ?_
   refine a7 (i8 _ _ _ _ _ _) ?_
   refine k7 (fun c1o => ?_) (fun c1o => ?_)
   ·replace h := h.1 c1o
    exact hx1 _ _ (hj1 (decide (x0.u2.b6 = 2)) H_6 _ I_8 h)
   ·replace h := h.2 c1o
    refine a7 (i8 _ _ _ _ _ _) ?_
    exact hx1 _ _ (hj1 (decide (x0.u2.b6 = 3)) H_6 _ I_8 h)
theorem c2l (x0 : M2) {H : Hp} {K : Bool → Hp → Prop} (h : a5O x0 H K) : a9f x0 H K := by
 intro w I
 refine g8x ?_
 refine c1n x0 I (fun r0 H' w' I' hk => ⟨H', _, I', r0, rfl, rfl, hk⟩) h
def a8i (x0 : a8) (H : Hp) (K : i5 → Hp → Prop) : Prop :=
 K (i5.J8 (M2.mk x0)) H
theorem c4J (x0 : a8) {K : i5 → Hp → Prop} (I : Inv w0 ps0 H0 H [] w) (hR : ∀ (r0 : i5) (H' : Hp) (w' : World) (_ : Inv w0 ps0 H0 H' [] w') (_ : K r0 H'), R (E7 r0) w') (h : a8i x0 H K) : e8A (Value.agg (b7 x0).toArray) w R E := by
 unfold a8i at h
 unfold e8A
 refine J5 I (cs := (b7 x0)) rfl fun g_2 w_3 I_4 k_5 => ?_
 refine f7 (ldA Tryz.isAgg53 Tryz.sizeOf53 rfl (I_4.at1 (o := 0) (vs := (b7 x0)) (nb rfl) rfl)) ?_
 refine a7 (c8g _ _ _ _ _ _) ?_
 refine a7 (b6P (M2.mk x0)) ?_
 exact hR (i5.J8 (M2.mk x0)) H _ I_4.drop h
theorem c6C (x0 : a8) {H : Hp} {K : i5 → Hp → Prop} (h : a8i x0 H K) : b5K x0 H K := by
 intro w I
 refine g8D ?_
 refine c4J x0 I (fun r0 H' w' I' hk => ⟨H', _, I', r0, rfl, rfl, hk⟩) h
def I0 (J6 : (List i5)) (H : Hp) (K : Sl → Hp → Prop) : Prop :=
 ∀ (w6 : Sl) (J9 : Hp), Hle H J9 → SlH J9 1 w8 w6 J6 → w6.n ≤ w6.c →
 K w6 J9
def I1 (O0 : Sl) (a5d : Int) (p9 : (List i5)) (p1 : Int) (H : Hp) (n2 : ((List i5) × Int) → Hp → Prop) (K : Sl → Hp → Prop) : Prop :=
 (p1 < a5d →
 (0 : Int) ≤ p1 ∧ (p1 : Int) < O0.n ∧ ∃ x_1 : b8, EltH H O0 p1 4 (d6 x_1) ∧
 b5L x_1 H (fun (D7 : i5) (R6 : Hp) =>
 (p9.length + ([D7] : List i5).length) * 17 ≤ 140737488355328 ∧
 n2 ((p9 ++ [D7]), (IntKind.wrap .i64 (p1 + 1))) R6)) ∧
 (¬ (p1 < a5d) →
 I0 p9 H K)
def J2 (x0 : Sl) (H : Hp) (K : Sl → Hp → Prop) : Prop :=
 TL (([], 0) : (List i5) × Int) H fun (s : (List i5) × Int) H n2 => I1 x0 (x0.n : Int) s.1 s.2 H n2 K
theorem a6i (x0 : Sl) {K : Sl → Hp → Prop} (I : Inv w0 ps0 H0 H [] w) (hR : ∀ (r0 : Sl) (H' : Hp) (w' : World) (_ : Inv w0 ps0 H0 H' [] w') (_ : K r0 H'), R (vs r0) w') (h : J2 x0 H K) : e8E (vs x0) (fC 194) w R E := by
 unfold J2 at h
 unfold e8E
 have hj1 : ∀ (J6 : (List i5)) (w6 : Sl) (Fs5j1 : Frag) (H : Hp) (w : World) (_ : RowL 150 1 w8 w6 J6 Fs5j1) (_ : Inv w0 ps0 H0 H [Fs5j1] w) (_ : I0 J6 H K), d6P (vs w6) w R E := by
  intro J6 w6 Fs5j1 H w a9B I h
  unfold d6P
  intro _
  unfold I0 at h
  obtain ⟨J9, a9Y, b0K, a7g, a6p⟩ := Inv.freezeC I a9B (by decide)
  replace h := h w6 J9 b0K a7g a6p
  exact hR w6 J9 _ a9Y h
 refine t6 fun j1 hx1 => ?_
 refine a7 (U9 _ _ _) ?_
 obtain ⟨a2t, Q6, b2J, b2K⟩ := h
 refine B5 (J := fun n l w => ∃ (s : (List i5) × Int) (H : Hp) (J7 : Sl) (Fs5l2 : Frag) , n = Q6 s ∧ l = (match s with | (p9, p1) => [(vs J7), (vi p1)]) ∧ (match s with | (p9, p1) => RowL 150 1 w8 J7 p9 Fs5l2) ∧ (match s with | (p9, p1) => Inv w0 ps0 H0 H [Fs5l2] w) ∧ a2t s H) ⟨_, ([], 0), H, (Sl.mk none 0 0), [], rfl, rfl, (RowL.nil T6 V6), I.nil, b2J⟩ ?_
 rintro c8O τ_50 w next2 ⟨⟨p9, p1⟩, H, J7, Fs5l2, rfl, a1D, W7, I, b2L⟩ hn2
 dsimp only at a1D I W7
 simp only [List.map_cons, List.map_nil, List.cons.injEq, and_true] at a1D
 obtain ⟨e5, e10⟩ := a1D
 simp only [e5, e10]
 obtain ⟨n2, hm2, h⟩ : ∃ n2 : ((List i5) × Int) → Hp → Prop, (∀ s' H', n2 s' H' → a2t s' H' ∧ Q6 s' < Q6 (p9, p1)) ∧ I1 x0 (x0.n : Int) p9 p1 H n2 K := ⟨_, fun _ _ h => h, b2K (p9, p1) H (fun s' H' => a2t s' H' ∧ Q6 s' < Q6 (p9, p1)) b2L (fun _ _ a b => ⟨a, b⟩)⟩
 unfold e6I
 unfold I1 at h
 refine a7 (w9 _ _ _ _ _ _) ?_
 refine k7 (fun a0p => ?_) (fun a0p => ?_)
 ·replace h := h.1 a0p
  obtain ⟨h_4, h_5, x_1, h_7, h⟩ := h
  obtain ⟨g_2, o_3, h_6, h_7⟩ := h_7
  refine a7 (S7 h_6 _ _ _ _ h_4 h_5) ?_
  refine f7 (ldA (vs := (d6 x_1)) Tryz.isAgg59 Tryz.sizeOf59 rfl (I.atH h_7)) ?_
  refine z7 I Tryz.zeroValue59 (cs := [(vi 0), (vi 0), (nS), (nS)]) rfl fun g_9 p5 a3l b4q => ?_
  refine m6 a3l Tryz.sizeOf59 (vs := (d6 x_1)) (cs' := (d6 x_1)) rfl rfl (nb rfl) rfl rfl fun a2s L9 a4z => ?_
  refine f7 (ldA Tryz.isAgg59 Tryz.sizeOf59 rfl (L9.at1 (o := 0) (vs := (d6 x_1)) (nb rfl) rfl)) ?_
  refine g9 (cap := []) (fun args w => Tryz.call194 args w) ?_
  refine l7 (Fi := []) (Fr := [bx g_9 59 (d6 x_1), Fs5l2]) L9 (h) (fun c3E R6 c0F a1B a3y c3F c0G a9Z => ?_) (fun _ _ _ _ _ q => q.elim)
  obtain ⟨D7, rfl, rfl, h⟩ := a9Z
  refine a5A (e := 150) (c := w8) (xs := [D7]) a3y (b6Q _) rfl rfl T6 V6 (nb rfl) fun b0a b3K B3 a7h T8 a9i => ?_
  obtain ⟨b0b, h⟩ := h
  refine c4o (s := J7) (xs := p9) (T8.bring 2) W7 (a7h.srcO ((T8.bring 2).bring 1)) b0b fun a8c b0L A6 b0c a5D b7a => ?_
  refine a7 (y6 _ _ _ _ _ _) ?_
  exact hn2 _ _ _ (hm2 _ _ h).2 ⟨((p9 ++ [D7]), (IntKind.wrap .i64 (p1 + 1))), R6, a8c, b0L, rfl, rfl, b0c, ((a5D.bring 1).drop.bring 1).drop, (hm2 _ _ h).1⟩
 ·replace h := h.2 a0p
  exact hx1 _ _ (hj1 p9 J7 Fs5l2 H _ W7 I h)
theorem a6F (x0 : Sl) {H : Hp} {K : Sl → Hp → Prop} (h : J2 x0 H K) : I8 x0 H K := by
 intro w I
 refine g8K ?_
 refine a6i x0 I (fun r0 H' w' I' hk => ⟨H', _, I', r0, rfl, rfl, hk⟩) h
end Go.Proofs.YtnhkdkcgdcgmdaaGreatDoor
