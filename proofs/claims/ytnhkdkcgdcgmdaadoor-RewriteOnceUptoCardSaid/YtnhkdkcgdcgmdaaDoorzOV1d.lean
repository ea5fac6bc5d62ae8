/- Typed formulas of the program's functions, and the theorems that the contracts follow from them; printed by lift.py off the code. -/
import Derived.Test.YtnhkdkcgdcgmdaaDoorzOV1
namespace Go.Proofs.YtnhkdkcgdcgmdaaDoor
open Go.RowKit
set_option maxRecDepth 100000
set_option maxHeartbeats 2000000
variable {w0 w : World} {ps0 : Nat → Prop} {H0 H : Hp} {R : RT} {E : Pan}
def G1 (b9S : Bool) (g8i : Int) (H : Hp) (K : Int → Hp → Prop) : Prop :=
 (b9S = true →
 K 3 H) ∧
 (b9S = false →
 K 6 H)
def Q5 (b9T : Bool) (Y7 : Int) (H : Hp) (K : Int → Hp → Prop) : Prop :=
 (b9T = true →
 K 6 H) ∧
 (b9T = false →
 N1 48 57 Y7 H (fun (D5 : Bool) (H_6 : Hp) =>
 (D5 = true →
 K 4 H_6) ∧
 (D5 = false →
 (Y7 = 95 →
 G1 (decide (Y7 = 95)) Y7 H_6 K) ∧
 (¬ (Y7 = 95) →
 N1 97 122 Y7 H_6 (fun (B3 : Bool) (M5 : Hp) =>
 (B3 = true →
 G1 B3 Y7 M5 K) ∧
 (B3 = false →
 N1 65 90 Y7 M5 (fun (a8A : Bool) (c1v : Hp) =>
 (a8A = true →
 G1 a8A Y7 c1v K) ∧
 (a8A = false →
 N1 192 591 Y7 c1v (fun (i7 : Bool) (a7c : Hp) =>
 (i7 = true →
 G1 i7 Y7 a7c K) ∧
 (i7 = false →
 N1 913 969 Y7 a7c (fun (g7 : Bool) (a0r : Hp) =>
 (g7 = true →
 G1 g7 Y7 a0r K) ∧
 (g7 = false →
 N1 1040 1103 Y7 a0r (fun (d3n : Bool) (e0c : Hp) =>
 G1 d3n Y7 e0c K)))))))))))))
def p7 (c1w : Int) (b6N : Bool) (a1d : Int) (H : Hp) (K : Int → Hp → Prop) : Prop :=
 (b6N = true →
 K 5 H) ∧
 (b6N = false →
 (c1w = 215 →
 Q5 (decide (c1w = 215)) a1d H K) ∧
 (¬ (c1w = 215) →
 (c1w = 247 →
 Q5 (decide (c1w = 247)) a1d H K) ∧
 (¬ (c1w = 247) →
 Q5 (decide (c1w = 930)) a1d H K)))
def Q6 (A5 : Int) (b6H : Bool) (u0 : Int) (H : Hp) (K : Int → Hp → Prop) : Prop :=
 (b6H = true →
 K 1 H) ∧
 (b6H = false →
 (A5 = 10 →
 K 2 H) ∧
 (¬ (A5 = 10) →
 (A5 = 59 →
 p7 A5 (decide (A5 = 59)) u0 H K) ∧
 (¬ (A5 = 59) →
 (A5 = 44 →
 p7 A5 (decide (A5 = 44)) u0 H K) ∧
 (¬ (A5 = 44) →
 (A5 = 123 →
 p7 A5 (decide (A5 = 123)) u0 H K) ∧
 (¬ (A5 = 123) →
 (A5 = 125 →
 p7 A5 (decide (A5 = 125)) u0 H K) ∧
 (¬ (A5 = 125) →
 (A5 = 40 →
 p7 A5 (decide (A5 = 40)) u0 H K) ∧
 (¬ (A5 = 40) →
 (A5 = 41 →
 p7 A5 (decide (A5 = 41)) u0 H K) ∧
 (¬ (A5 = 41) →
 (A5 = 91 →
 p7 A5 (decide (A5 = 91)) u0 H K) ∧
 (¬ (A5 = 91) →
 (A5 = 93 →
 p7 A5 (decide (A5 = 93)) u0 H K) ∧
 (¬ (A5 = 93) →
 (A5 = 61 →
 p7 A5 (decide (A5 = 61)) u0 H K) ∧
 (¬ (A5 = 61) →
 (A5 = 33 →
 p7 A5 (decide (A5 = 33)) u0 H K) ∧
 (¬ (A5 = 33) →
 (A5 = 60 →
 p7 A5 (decide (A5 = 60)) u0 H K) ∧
 (¬ (A5 = 60) →
 (A5 = 62 →
 p7 A5 (decide (A5 = 62)) u0 H K) ∧
 (¬ (A5 = 62) →
 (A5 = 43 →
 p7 A5 (decide (A5 = 43)) u0 H K) ∧
 (¬ (A5 = 43) →
 (A5 = 45 →
 p7 A5 (decide (A5 = 45)) u0 H K) ∧
 (¬ (A5 = 45) →
 (A5 = 42 →
 p7 A5 (decide (A5 = 42)) u0 H K) ∧
 (¬ (A5 = 42) →
 (A5 = 47 →
 p7 A5 (decide (A5 = 47)) u0 H K) ∧
 (¬ (A5 = 47) →
 (A5 = 37 →
 p7 A5 (decide (A5 = 37)) u0 H K) ∧
 (¬ (A5 = 37) →
 (A5 = 38 →
 p7 A5 (decide (A5 = 38)) u0 H K) ∧
 (¬ (A5 = 38) →
 p7 A5 (decide (A5 = 124)) u0 H K))))))))))))))))))))
def a4p (x0 : Int) (H : Hp) (K : Int → Hp → Prop) : Prop :=
 (x0 = 32 →
 Q6 x0 (decide (x0 = 32)) x0 H K) ∧
 (¬ (x0 = 32) →
 (x0 = 9 →
 Q6 x0 (decide (x0 = 9)) x0 H K) ∧
 (¬ (x0 = 9) →
 Q6 x0 (decide (x0 = 13)) x0 H K))
theorem b6O (x0 : Int) {K : Int → Hp → Prop} (I : Inv w0 ps0 H0 H [] w) (hR : ∀ (r0 : Int) (H' : Hp) (w' : World) (_ : Inv w0 ps0 H0 H' [] w') (_ : K r0 H'), R (vi r0) w') (h : a4p x0 H K) : d2D (Value.int .i32 x0) w R E := by
 unfold a4p at h
 unfold d2D
 refine J3 I (cs := [(Value.int .i32 x0)]) rfl fun g_2 w_3 I_4 k_5 => ?_
 refine d6 (ld1 Tryd.isAgg21 (I_4.at1 (o := 0) (vs := [(Value.int .i32 x0)]) (nb rfl) rfl)) ?_
 have hj1 : ∀ (b6H : Bool) (H : Hp) (w : World) (_ : Inv w0 ps0 H0 H [bx g_2 21 [(Value.int .i32 x0)]] w) (_ : Q6 x0 b6H x0 H K), c4O (Value.pointer (some ⟨g_2, 0, none⟩)) (Value.int .i32 x0) (vB b6H) w R E := by
  intro b6H H w I h
  unfold c4O
  intro _
  unfold Q6 at h
  refine u2 (fun c1x => ?_) (fun c1x => ?_)
  ·replace h := h.1 c1x
   exact hR 1 H _ I.drop h
  ·replace h := h.2 c1x
   refine a7 (m9 _ _ _ _ _ _) ?_
   refine j7 (fun e0d => ?_) (fun e0d => ?_)
   ·replace h := h.1 e0d
    exact hR 2 H _ I.drop h
   ·replace h := h.2 e0d
    have hj2 : ∀ (b6N : Bool) (H : Hp) (w : World) (_ : Inv w0 ps0 H0 H [bx g_2 21 [(Value.int .i32 x0)]] w) (_ : p7 x0 b6N x0 H K), c4N (Value.pointer (some ⟨g_2, 0, none⟩)) (Value.int .i32 x0) (vB b6N) w R E := by
     intro b6N H w I h
     unfold c4N
     intro _
     unfold p7 at h
     refine u2 (fun e0e => ?_) (fun e0e => ?_)
     ·replace h := h.1 e0e
      exact hR 5 H _ I.drop h
     ·replace h := h.2 e0e
      have hj3 : ∀ (b9T : Bool) (H : Hp) (w : World) (_ : Inv w0 ps0 H0 H [bx g_2 21 [(Value.int .i32 x0)]] w) (_ : Q5 b9T x0 H K), c4M (Value.pointer (some ⟨g_2, 0, none⟩)) (vB b9T) w R E := by
       intro b9T H w I h
       unfold c4M
       intro _
       unfold Q5 at h
       refine u2 (fun c1y => ?_) (fun c1y => ?_)
       ·replace h := h.1 c1y
        exact hR 6 H _ I.drop h
       ·replace h := h.2 c1y
        refine a7 (b4q _ _ _) ?_
        refine f2 (cap := [(Value.pointer (some ⟨g_2, 0, none⟩))]) (fun args w => Tryd.call151 args w) ?_
        refine i8 (Fi := [bx g_2 21 [(Value.int .i32 x0)]]) (Fr := []) I (h g_2) (fun b6u H_6 b6v w_7 I_8 b6w k_9 a6r => ?_) (fun _ _ _ _ _ q => q.elim)
        obtain ⟨D5, rfl, rfl, h⟩ := a6r
        refine u2 (fun e0f => ?_) (fun e0f => ?_)
        ·replace h := h.1 e0f
         exact hR 4 H_6 _ I_8.drop h
        ·replace h := h.2 e0f
         have hj4 : ∀ (b9S : Bool) (H : Hp) (w : World) (_ : Inv w0 ps0 H0 H [bx g_2 21 [(Value.int .i32 x0)]] w) (_ : G1 b9S x0 H K), c4L (vB b9S) w R E := by
          intro b9S H w I h
          unfold c4L
          intro _
          unfold G1 at h
          refine u2 (fun a8K => ?_) (fun a8K => ?_)
          ·replace h := h.1 a8K
           exact hR 3 H _ I.drop h
          ·replace h := h.2 a8K
           exact hR 6 H _ I.drop h
         refine A7 fun j4 hx4 => ?_
         refine d6 (ld1 Tryd.isAgg21 (I_8.at1 (o := 0) (vs := [(Value.int .i32 x0)]) (nb rfl) rfl)) ?_
         refine a7 (m9 _ _ _ _ _ _) ?_
         refine j7 (fun e0g => ?_) (fun e0g => ?_)
         ·replace h := h.1 e0g
          exact hx4 _ _ (hj4 (decide (x0 = 95)) H_6 _ I_8 h)
         ·replace h := h.2 e0g
          refine f2 (cap := [(Value.pointer (some ⟨g_2, 0, none⟩))]) (fun args w => Tryd.call151 args w) ?_
          refine i8 (Fi := [bx g_2 21 [(Value.int .i32 x0)]]) (Fr := []) I_8 (h g_2) (fun b4E M5 b2v Y8 a0E b4F b4G a5k => ?_) (fun _ _ _ _ _ q => q.elim)
          obtain ⟨B3, rfl, rfl, h⟩ := a5k
          refine u2 (fun e0h => ?_) (fun e0h => ?_)
          ·replace h := h.1 e0h
           exact hx4 _ _ (hj4 B3 M5 _ a0E h)
          ·replace h := h.2 e0h
           refine f2 (cap := [(Value.pointer (some ⟨g_2, 0, none⟩))]) (fun args w => Tryd.call151 args w) ?_
           refine i8 (Fi := [bx g_2 21 [(Value.int .i32 x0)]]) (Fr := []) a0E (h g_2) (fun g5y c1v g5z z6 b0g g5A c8Y e0i => ?_) (fun _ _ _ _ _ q => q.elim)
           obtain ⟨a8A, rfl, rfl, h⟩ := e0i
           refine u2 (fun e0j => ?_) (fun e0j => ?_)
           ·replace h := h.1 e0j
            exact hx4 _ _ (hj4 a8A c1v _ b0g h)
           ·replace h := h.2 e0j
            refine f2 (cap := [(Value.pointer (some ⟨g_2, 0, none⟩))]) (fun args w => Tryd.call151 args w) ?_
            refine i8 (Fi := [bx g_2 21 [(Value.int .i32 x0)]]) (Fr := []) b0g (h g_2) (fun f3O a7c f3P a9z a1x a5W a9X c8Z => ?_) (fun _ _ _ _ _ q => q.elim)
            obtain ⟨i7, rfl, rfl, h⟩ := c8Z
            refine u2 (fun e0k => ?_) (fun e0k => ?_)
            ·replace h := h.1 e0k
             exact hx4 _ _ (hj4 i7 a7c _ a1x h)
            ·replace h := h.2 e0k
             refine f2 (cap := [(Value.pointer (some ⟨g_2, 0, none⟩))]) (fun args w => Tryd.call151 args w) ?_
             refine i8 (Fi := [bx g_2 21 [(Value.int .i32 x0)]]) (Fr := []) a1x (h g_2) (fun d3o a0r d3p N8 b0Y d3q d3r b6P => ?_) (fun _ _ _ _ _ q => q.elim)
             obtain ⟨g7, rfl, rfl, h⟩ := b6P
             refine u2 (fun e0l => ?_) (fun e0l => ?_)
             ·replace h := h.1 e0l
              exact hx4 _ _ (hj4 g7 a0r _ b0Y h)
             ·replace h := h.2 e0l
              refine f2 (cap := [(Value.pointer (some ⟨g_2, 0, none⟩))]) (fun args w => Tryd.call151 args w) ?_
              refine i8 (Fi := [bx g_2 21 [(Value.int .i32 x0)]]) (Fr := []) b0Y (h g_2) (fun h1d e0c h1e f3Q g5B h1f h1g g5C => ?_) (fun _ _ _ _ _ q => q.elim)
              obtain ⟨d3n, rfl, rfl, h⟩ := g5C
              exact hx4 _ _ (hj4 d3n e0c _ g5B h)
      refine A7 fun j3 hx3 => ?_
      refine a7 (m9 _ _ _ _ _ _) ?_
      refine j7 (fun c1z => ?_) (fun c1z => ?_)
      ·replace h := h.1 c1z
       exact hx3 _ _ (hj3 (decide (x0 = 215)) H _ I h)
      ·replace h := h.2 c1z
       refine a7 (m9 _ _ _ _ _ _) ?_
       refine j7 (fun b2r => ?_) (fun b2r => ?_)
       ·replace h := h.1 b2r
        exact hx3 _ _ (hj3 (decide (x0 = 247)) H _ I h)
       ·replace h := h.2 b2r
        refine a7 (m9 _ _ _ _ _ _) ?_
        exact hx3 _ _ (hj3 (decide (x0 = 930)) H _ I h)
    refine A7 fun j2 hx2 => ?_
    refine a7 (m9 _ _ _ _ _ _) ?_
    refine j7 (fun c1A => ?_) (fun c1A => ?_)
    ·replace h := h.1 c1A
     exact hx2 _ _ (hj2 (decide (x0 = 59)) H _ I h)
    ·replace h := h.2 c1A
     refine a7 (m9 _ _ _ _ _ _) ?_
     refine j7 (fun b2t => ?_) (fun b2t => ?_)
     ·replace h := h.1 b2t
      exact hx2 _ _ (hj2 (decide (x0 = 44)) H _ I h)
     ·replace h := h.2 b2t
      refine a7 (m9 _ _ _ _ _ _) ?_
      refine j7 (fun c1s => ?_) (fun c1s => ?_)
      ·replace h := h.1 c1s
       exact hx2 _ _ (hj2 (decide (x0 = 123)) H _ I h)
      ·replace h := h.2 c1s
       refine a7 (m9 _ _ _ _ _ _) ?_
       refine j7 (fun e0m => ?_) (fun e0m => ?_)
       ·replace h := h.1 e0m
        exact hx2 _ _ (hj2 (decide (x0 = 125)) H _ I h)
       ·replace h := h.2 e0m
        refine a7 (m9 _ _ _ _ _ _) ?_
        refine j7 (fun e0n => ?_) (fun e0n => ?_)
        ·replace h := h.1 e0n
         exact hx2 _ _ (hj2 (decide (x0 = 40)) H _ I h)
        ·replace h := h.2 e0n
         refine a7 (m9 _ _ _ _ _ _) ?_
         refine j7 (fun e0o => ?_) (fun e0o => ?_)
         ·replace h := h.1 e0o
          exact hx2 _ _ (hj2 (decide (x0 = 41)) H _ I h)
         ·replace h := h.2 e0o
          refine a7 (m9 _ _ _ _ _ _) ?_
          refine j7 (fun c1B => ?_) (fun c1B => ?_)
          ·replace h := h.1 c1B
           exact hx2 _ _ (hj2 (decide (x0 = 91)) H _ I h)
          ·replace h := h.2 c1B
           refine a7 (m9 _ _ _ _ _ _) ?_
           refine j7 (fun c1t => ?_) (fun c1t => ?_)
           ·replace h := h.1 c1t
            exact hx2 _ _ (hj2 (decide (x0 = 93)) H _ I h)
           ·replace h := h.2 c1t
            refine a7 (m9 _ _ _ _ _ _) ?_
            refine j7 (fun e0p => ?_) (fun e0p => ?_)
            ·replace h := h.1 e0p
             exact hx2 _ _ (hj2 (decide (x0 = 61)) H _ I h)
            ·replace h := h.2 e0p
             refine a7 (m9 _ _ _ _ _ _) ?_
             refine j7 (fun e0q => ?_) (fun e0q => ?_)
             ·replace h := h.1 e0q
              exact hx2 _ _ (hj2 (decide (x0 = 33)) H _ I h)
             ·replace h := h.2 e0q
              refine a7 (m9 _ _ _ _ _ _) ?_
              refine j7 (fun e0r => ?_) (fun e0r => ?_)
              ·replace h := h.1 e0r
               exact hx2 _ _ (hj2 (decide (x0 = 60)) H _ I h)
              ·replace h := h.2 e0r
               refine a7 (m9 _ _ _ _ _ _) ?_
               refine j7 (fun e0s => ?_) (fun e0s => ?_)
               ·replace h := h.1 e0s
                exact hx2 _ _ (hj2 (decide (x0 = 62)) H _ I h)
               ·replace h := h.2 e0s
                refine a7 (m9 _ _ _ _ _ _) ?_
                refine j7 (fun e0t => ?_) (fun e0t => ?_)
                ·replace h := h.1 e0t
                 exact hx2 _ _ (hj2 (decide (x0 = 43)) H _ I h)
                ·replace h := h.2 e0t
                 refine a7 (m9 _ _ _ _ _ _) ?_
                 refine j7 (fun c1C => ?_) (fun c1C => ?_)
                 ·replace h := h.1 c1C
                  exact hx2 _ _ (hj2 (decide (x0 = 45)) H _ I h)
                 ·replace h := h.2 c1C
                  refine a7 (m9 _ _ _ _ _ _) ?_
                  refine j7 (fun c1D => ?_) (fun c1D => ?_)
                  ·replace h := h.1 c1D
                   exact hx2 _ _ (hj2 (decide (x0 = 42)) H _ I h)
                  ·replace h := h.2 c1D
                   refine a7 (m9 _ _ _ _ _ _) ?_
                   refine j7 (fun e0u => ?_) (fun e0u => ?_)
                   ·replace h := h.1 e0u
                    exact hx2 _ _ (hj2 (decide (x0 = 47)) H _ I h)
                   ·replace h := h.2 e0u
                    refine a7 (m9 _ _ _ _ _ _) ?_
                    refine j7 (fun e0v => ?_) (fun e0v => ?_)
                    ·replace h := h.1 e0v
                     exact hx2 _ _ (hj2 (decide (x0 = 37)) H _ I h)
                    ·replace h := h.2 e0v
                     refine a7 (m9 _ _ _ _ _ _) ?_
                     refine j7 (fun c1E => ?_) (fun c1E => ?_)
                     ·replace h := h.1 c1E
                      exact hx2 _ _ (hj2 (decide (x0 = 38)) H _ I h)
                     ·replace h := h.2 c1E
                      refine a7 (m9 _ _ _ _ _ _) ?_
                      exact hx2 _ _ (hj2 (decide (x0 = 124)) H _ I h)
 refine A7 fun j1 hx1 => ?_
 refine a7 (m9 _ _ _ _ _ _) ?_
 refine j7 (fun c1F => ?_) (fun c1F => ?_)
 ·replace h := h.1 c1F
  exact hx1 _ _ (hj1 (decide (x0 = 32)) H _ I_4 h)
 ·replace h := h.2 c1F
  refine a7 (m9 _ _ _ _ _ _) ?_
  refine j7 (fun e0w => ?_) (fun e0w => ?_)
  ·replace h := h.1 e0w
   exact hx1 _ _ (hj1 (decide (x0 = 9)) H _ I_4 h)
  ·replace h := h.2 e0w
   refine a7 (m9 _ _ _ _ _ _) ?_
   exact hx1 _ _ (hj1 (decide (x0 = 13)) H _ I_4 h)
theorem b7L (x0 : Int) {H : Hp} {K : Int → Hp → Prop} (h : a4p x0 H K) : a4h x0 H K := by
 intro w I
 refine e4S ?_
 refine b6O x0 I (fun r0 H' w' I' hk => ⟨H', _, I', r0, rfl, rfl, hk⟩) h
def a4q (x0 : Int) (H : Hp) (K : Bool → Hp → Prop) : Prop :=
 a4h x0 H (fun (K2 : Int) (H_1 : Hp) =>
 K ((decide (K2 = 3)) || (decide (K2 = 4))) H_1)
theorem b6Q (x0 : Int) {K : Bool → Hp → Prop} (I : Inv w0 ps0 H0 H [] w) (hR : ∀ (r0 : Bool) (H' : Hp) (w' : World) (_ : Inv w0 ps0 H0 H' [] w') (_ : K r0 H'), R (vB r0) w') (h : a4q x0 H K) : d2B (Value.int .i32 x0) w R E := by
 unfold a4q at h
 unfold d2B
 refine f2 (cap := []) (fun args w => Tryd.call141 args w) ?_
 refine i8 (Fi := []) (Fr := []) I (h) (fun v_5 H_1 F_6 w_2 I_3 l_8 k_4 q_7 => ?_) (fun _ _ _ _ _ q => q.elim)
 obtain ⟨K2, rfl, rfl, h⟩ := q_7
 refine a7 (m9 _ _ _ _ _ _) ?_
 simp only [O5]
 refine a7 (Pu.g fun hb => by have f4 := hb; simp only [p1 f4]; exact (m9 _ _ _ _ _ _)) ?_
 refine a7 (a5Z _ _) ?_
 exact hR ((decide (K2 = 3)) || (decide (K2 = 4))) H_1 _ I_3 h
theorem b7M (x0 : Int) {H : Hp} {K : Bool → Hp → Prop} (h : a4q x0 H K) : a6W x0 H K := by
 intro w I
 refine e4Q ?_
 refine b6Q x0 I (fun r0 H' w' I' hk => ⟨H', _, I', r0, rfl, rfl, hk⟩) h
def U5 (H : Hp) (K : Int → Hp → Prop) : Prop :=
 K (-1) H
def U6 (g2c : (List ByteArray)) (a7D : ByteArray) (a7d : Int) (K4 : Int) (H : Hp) (n2 : Int → Hp → Prop) (K : Int → Hp → Prop) : Prop :=
 (K4 < a7d →
 (0 : Int) ≤ K4 ∧ ∃ x_1 : ByteArray, (g2c)[(K4 : Int).toNat]? = some x_1 ∧
 (a7D = x_1 →
 K K4 H) ∧
 (¬ (a7D = x_1) →
 n2 (IntKind.wrap .i64 (K4 + 1)) H)) ∧
 (¬ (K4 < a7d) →
 U5 H K)
def X9 (x0 : (List ByteArray)) (x1 : ByteArray) (H : Hp) (K : Int → Hp → Prop) : Prop :=
 TL (0 : Int) H fun (s : Int) H n2 => U6 x0 x1 (x0.length : Int) s H n2 K
theorem a9I (x0 : (List ByteArray)) (x1 : ByteArray) (sx0 : Sl) (Fx0 : Frag) (hx0 : RowL 9 1 J9 sx0 x0 Fx0) {K : Int → Hp → Prop} (I : Inv w0 ps0 H0 H [Fx0] w) (hR : ∀ (r0 : Int) (H' : Hp) (w' : World) (_ : Inv w0 ps0 H0 H' [Fx0] w') (_ : K r0 H'), R (vi r0) w') (h : X9 x0 x1 H K) : d2F (vs sx0) (Value.string x1) w R E := by
 unfold X9 at h
 unfold d2F
 have hj1 : ∀ (H : Hp) (w : World) (_ : Inv w0 ps0 H0 H [Fx0] w) (_ : U5 H K), c4P w R E := by
  intro H w I h
  unfold c4P
  intro _
  unfold U5 at h
  exact hR (-1) H _ I h
 refine A7 fun j1 hx1 => ?_
 refine a7 (c2E Tryd.underlying104 hx0) ?_
 obtain ⟨e0x, c9a, g5D, g5E⟩ := h
 refine M9 (J := fun n l w => ∃ (s : Int) (H : Hp) , n = c9a s ∧ l = [(vi s)] ∧ Inv w0 ps0 H0 H [Fx0] w ∧ e0x s H) ⟨_, 0, H, rfl, rfl, I, g5D⟩ ?_
 rintro h1h τ_15 w next2 ⟨K4, H, rfl, e0y, I, g5F⟩ hn2
 simp only [List.map_cons, List.map_nil, List.cons.injEq, and_true] at e0y
 have e8 := e0y
 simp only [e8]
 obtain ⟨n2, hm2, h⟩ : ∃ n2 : Int → Hp → Prop, (∀ s' H', n2 s' H' → e0x s' H' ∧ c9a s' < c9a K4) ∧ U6 x0 x1 (x0.length : Int) K4 H n2 K := ⟨_, fun _ _ h => h, g5E K4 H (fun s' H' => e0x s' H' ∧ c9a s' < c9a K4) g5F (fun _ _ a b => ⟨a, b⟩)⟩
 unfold d1E
 unfold U6 at h
 refine a7 (F4 _ _ _ _ _ _) ?_
 refine j7 (fun c_9 => ?_) (fun c_9 => ?_)
 ·replace h := h.1 c_9
  obtain ⟨h_3, x_1, h_4, h⟩ := h
  obtain ⟨g_2, a_6, h_5, h_7⟩ := hx0.addr h_4
  refine a7 (d6B h_5 _ _ _ _ h_3 (hx0.lt h_3 h_4)) ?_
  refine d6 (ld1 (v := (Value.string x_1)) Tryd.isAgg9 (hx0.atW I h_5 h_4)) ?_
  refine a7 (a1O _ _ _ _ _) ?_
  refine j7 (fun c_8 => ?_) (fun c_8 => ?_)
  ·replace h := h.1 c_8
   exact hR K4 H _ I h
  ·replace h := h.2 c_8
   refine a7 (K3 _ _ _ _ _ _) ?_
   exact hn2 _ _ _ (hm2 _ _ h).2 ⟨(IntKind.wrap .i64 (K4 + 1)), H, rfl, rfl, I, (hm2 _ _ h).1⟩
 ·replace h := h.2 c_9
  exact hx1 _ _ (hj1 H _ I h)
theorem b0h (x0 : (List ByteArray)) (x1 : ByteArray) {H : Hp} {K : Int → Hp → Prop} (h : X9 x0 x1 H K) : a1X x0 x1 H K := by
 intro sx0 Fx0 hx0 w I
 refine e4U ?_
 refine a9I x0 x1 sx0 Fx0 hx0 I (fun r0 H' w' I' hk => ⟨H', _, I', r0, rfl, rfl, hk⟩) h
def U7 (x0 : (List ByteArray)) (x1 : ByteArray) (H : Hp) (K : Bool → Hp → Prop) : Prop :=
 a1X x0 x1 H (fun (K2 : Int) (H_1 : Hp) =>
 K (decide (0 ≤ K2)) H_1)
theorem a8P (x0 : (List ByteArray)) (x1 : ByteArray) (sx0 : Sl) (Fx0 : Frag) (hx0 : RowL 9 1 J9 sx0 x0 Fx0) {K : Bool → Hp → Prop} (I : Inv w0 ps0 H0 H [Fx0] w) (hR : ∀ (r0 : Bool) (H' : Hp) (w' : World) (_ : Inv w0 ps0 H0 H' [Fx0] w') (_ : K r0 H'), R (vB r0) w') (h : U7 x0 x1 H K) : d2y (vs sx0) (Value.string x1) w R E := by
 unfold U7 at h
 unfold d2y
 refine f2 (cap := []) (fun args w => Tryd.call142 args w) ?_
 refine i8 (Fi := [Fx0]) (Fr := []) I (h sx0 Fx0 hx0) (fun v_5 H_1 F_6 w_2 I_3 l_8 k_4 q_7 => ?_) (fun _ _ _ _ _ q => q.elim)
 obtain ⟨K2, rfl, rfl, h⟩ := q_7
 refine a7 (b7X _ _ _ _ _ _) ?_
 exact hR (decide (0 ≤ K2)) H_1 _ I_3 h
theorem a9b (x0 : (List ByteArray)) (x1 : ByteArray) {H : Hp} {K : Bool → Hp → Prop} (h : U7 x0 x1 H K) : O8 x0 x1 H K := by
 intro sx0 Fx0 hx0 w I
 refine e4K ?_
 refine a8P x0 x1 sx0 Fx0 hx0 I (fun r0 H' w' I' hk => ⟨H', _, I', r0, rfl, rfl, hk⟩) h
def B2 (b1K : Int) (b1L : Int) (b1M : Int) (b1N : Bool) (b1O : Bool) (b0i : (List ByteArray)) (H : Hp) (K : Bool → g9 → (List ByteArray) → Hp → Prop) : Prop :=
 K true (g9.mk b1K b1L b1M b1N b1O (Sl.mk none 0 0)) b0i H
def a0j (x0 : g9) (a0p : (List ByteArray)) (x1 : d7) (x2 : Int) (H : Hp) (K : Bool → g9 → (List ByteArray) → Hp → Prop) : Prop :=
 (4096 < (IntKind.wrap .i64 (x0.fnodes + 1)) →
 K false (g9.mk (IntKind.wrap .i64 (x0.fnodes + 1)) x0.fdepth 33 x0.fform x0.fnamed (Sl.mk none 0 0)) a0p H) ∧
 (¬ (4096 < (IntKind.wrap .i64 (x0.fnodes + 1))) →
 (64 < x2 →
 K false (g9.mk (IntKind.wrap .i64 (x0.fnodes + 1)) x0.fdepth 32 x0.fform x0.fnamed (Sl.mk none 0 0)) a0p H) ∧
 (¬ (64 < x2) →
 TG (x0.fform = false) (a6o x1 H) false H (fun (J1 : Bool) (a1h : Hp) =>
 a2O x1 a1h (fun (r8 : ByteArray) (b6R : Bool) (a0F : Hp) =>
 (b6R = true →
 TG (x0.fnamed = false) (a5s r8 a0F) false a0F (fun (N7 : Bool) (a0e : Hp) =>
 O8 a0p r8 a0e (fun (g7 : Bool) (a0r : Hp) =>
 ((!g7) = true →
 (a0p.length + ([r8] : List ByteArray).length) * 17 ≤ 140737488355328 ∧
 B2 (IntKind.wrap .i64 (x0.fnodes + 1)) (if x2 > x0.fdepth then x2 else x0.fdepth) x0.fe (x0.fform || (!J1)) (x0.fnamed || (!N7)) (a0p ++ [r8]) a0r K) ∧
 ((!g7) = false →
 B2 (IntKind.wrap .i64 (x0.fnodes + 1)) (if x2 > x0.fdepth then x2 else x0.fdepth) x0.fe (x0.fform || (!J1)) (x0.fnamed || (!N7)) a0p a0r K)))) ∧
 (b6R = false →
 B2 (IntKind.wrap .i64 (x0.fnodes + 1)) (if x2 > x0.fdepth then x2 else x0.fdepth) x0.fe (x0.fform || (!J1)) x0.fnamed a0p a0F K)))))
theorem b0I (x0 : g9) (a0p : (List ByteArray)) (x1 : d7) (x2 : Int) (g0 : Nat) (Z5 : Sl) (a4R : Frag) (b4e : RowL 9 1 J9 Z5 a0p a4R) {K : Bool → g9 → (List ByteArray) → Hp → Prop} (I : Inv w0 ps0 H0 H [bx g0 106 [(vi x0.fnodes), (vi x0.fdepth), (vi x0.fe), (vB x0.fform), (vB x0.fnamed), (vs Z5)], a4R] w) (hR : ∀ (r0 : Bool) (y0 : g9) (a8E : (List ByteArray)) (a6h : Sl) (a6i : Frag) (H' : Hp) (w' : World) (_ : RowL 9 1 J9 a6h a8E a6i) (_ : Inv w0 ps0 H0 H' [bx g0 106 [(vi y0.fnodes), (vi y0.fdepth), (vi y0.fe), (vB y0.fform), (vB y0.fnamed), (vs a6h)], a6i] w') (_ : K r0 y0 a8E H'), R (vB r0) w') (h : a0j x0 a0p x1 x2 H K) : d2u (Value.pointer (some ⟨g0, 0, none⟩)) (C0 x1) (vi x2) w R E := by
 unfold a0j at h
 unfold d2u
 refine a7 (I0 _) ?_
 refine a7 b0w ?_
 refine d6 (ld1 Tryd.isAgg3 (I.at1 (o := 0) (vs := [(vi x0.fnodes)]) (nb rfl) rfl)) ?_
 refine a7 (K3 _ _ _ _ _ _) ?_
 refine a7 (I0 _) ?_
 refine a7 b0w ?_
 refine m6 I Tryd.sizeOf3 (vs := [(vi (IntKind.wrap .i64 (x0.fnodes + 1)))]) (cs' := [(vi (IntKind.wrap .i64 (x0.fnodes + 1))), (vi x0.fdepth), (vi x0.fe), (vB x0.fform), (vB x0.fnamed), (vs Z5)]) rfl rfl (nb rfl) rfl rfl fun w_1 I_2 k_3 => ?_
 refine a7 (I0 _) ?_
 refine a7 b0w ?_
 refine d6 (ld1 Tryd.isAgg3 (I_2.at1 (o := 0) (vs := [(vi (IntKind.wrap .i64 (x0.fnodes + 1)))]) (nb rfl) rfl)) ?_
 refine a7 (a7h _ _ _ _ _ _) ?_
 refine j7 (fun c1C => ?_) (fun c1C => ?_)
 ·replace h := h.1 c1C
  refine a7 (I0 _) ?_
  refine a7 a0b ?_
  refine m6 I_2 Tryd.sizeOf29 (vs := [(vi 33)]) (cs' := [(vi (IntKind.wrap .i64 (x0.fnodes + 1))), (vi x0.fdepth), (vi 33), (vB x0.fform), (vB x0.fnamed), (vs Z5)]) rfl rfl (nb rfl) rfl rfl fun w_4 I_5 k_6 => ?_
  exact hR false (g9.mk (IntKind.wrap .i64 (x0.fnodes + 1)) x0.fdepth 33 x0.fform x0.fnamed (Sl.mk none 0 0)) a0p Z5 a4R H _ b4e ((I_5.bring 1).bring 1) h
 ·replace h := h.2 c1C
  refine a7 (a7h _ _ _ _ _ _) ?_
  refine j7 (fun c1D => ?_) (fun c1D => ?_)
  ·replace h := h.1 c1D
   refine a7 (I0 _) ?_
   refine a7 a0b ?_
   refine m6 I_2 Tryd.sizeOf29 (vs := [(vi 32)]) (cs' := [(vi (IntKind.wrap .i64 (x0.fnodes + 1))), (vi x0.fdepth), (vi 32), (vB x0.fform), (vB x0.fnamed), (vs Z5)]) rfl rfl (nb rfl) rfl rfl fun w_7 I_8 k_9 => ?_
   exact hR false (g9.mk (IntKind.wrap .i64 (x0.fnodes + 1)) x0.fdepth 32 x0.fform x0.fnamed (Sl.mk none 0 0)) a0p Z5 a4R H _ b4e ((I_8.bring 1).bring 1) h
  ·replace h := h.2 c1D
   refine a7 (I0 _) ?_
   refine a7 b4s ?_
   refine d6 (ld1 Tryd.isAgg3 (I_2.at1 (o := 1) (vs := [(vi x0.fdepth)]) (nb rfl) rfl)) ?_
   refine a7 (e8q _ _ _ _ _) ?_
   refine a7 (I0 _) ?_
   refine a7 b4s ?_
   refine m6 I_2 Tryd.sizeOf3 (vs := [(vi (if x2 > x0.fdepth then x2 else x0.fdepth))]) (cs' := [(vi (IntKind.wrap .i64 (x0.fnodes + 1))), (vi (if x2 > x0.fdepth then x2 else x0.fdepth)), (vi x0.fe), (vB x0.fform), (vB x0.fnamed), (vs Z5)]) rfl rfl (nb rfl) rfl rfl fun o7 V5 a7A => ?_
   refine a7 (I0 _) ?_
   refine a7 b4u ?_
   refine d6 (ld1 Tryd.isAgg4 (V5.at1 (o := 3) (vs := [(vB x0.fform)]) (nb rfl) rfl)) ?_
   simp only [O5]
   refine V6 (D := fun c5b o8 => ∃ (J1 : Bool) (a1h : Hp), c5b = (gv x0.fform false (vB J1)) ∧ (Inv w0 ps0 H0 a1h [bx g0 106 [(vi (IntKind.wrap .i64 (x0.fnodes + 1))), (vi (if x2 > x0.fdepth then x2 else x0.fdepth)), (vi x0.fe), (vB x0.fform), (vB x0.fnamed), (vs Z5)], a4R] o8) ∧ (∀ i, i < o7.heap.size → ¬ inF [] i → o8.heap[i]? = o7.heap[i]?) ∧ Hle H a1h ∧ (a2O x1 a1h (fun (r8 : ByteArray) (b6R : Bool) (a0F : Hp) =>
 (b6R = true →
 TG (x0.fnamed = false) (a5s r8 a0F) false a0F (fun (N7 : Bool) (a0e : Hp) =>
 O8 a0p r8 a0e (fun (g7 : Bool) (a0r : Hp) =>
 ((!g7) = true →
 (a0p.length + ([r8] : List ByteArray).length) * 17 ≤ 140737488355328 ∧
 B2 (IntKind.wrap .i64 (x0.fnodes + 1)) (if x2 > x0.fdepth then x2 else x0.fdepth) x0.fe (x0.fform || (!J1)) (x0.fnamed || (!N7)) (a0p ++ [r8]) a0r K) ∧
 ((!g7) = false →
 B2 (IntKind.wrap .i64 (x0.fnodes + 1)) (if x2 > x0.fdepth then x2 else x0.fdepth) x0.fe (x0.fform || (!J1)) (x0.fnamed || (!N7)) a0p a0r K)))) ∧
 (b6R = false →
 B2 (IntKind.wrap .i64 (x0.fnodes + 1)) (if x2 > x0.fdepth then x2 else x0.fdepth) x0.fe (x0.fform || (!J1)) x0.fnamed a0p a0F K)))) (fun c9b => ?_) (fun c9b => ?_) ?_
   ·replace h := h.1 c9b
    have f4 := c9b
    simp only [p1 f4]
    refine b5r V5 h (fun J1 a1h o8 b2q c1b b6n h => ?_)
    exact ⟨J1, a1h, by rfl, b2q, b6n, c1b, h⟩
   ·exact ⟨false, H, by rw [a3g c9b], V5, fun _ _ _ => rfl, Hle.refl _, h.2 c9b⟩
   ·clear h
    rintro c5b o8 ⟨J1, a1h, rfl, b2q, b6n, c1b, h⟩
    refine a7 (Pu.g fun hb => by have f4 := hb; simp only [p1 f4]; exact (a1N _)) ?_
    refine a7 (a5Z _ _) ?_
    refine a7 (I0 _) ?_
    refine a7 b4u ?_
    refine m6 b2q Tryd.sizeOf4 (vs := [(vB (x0.fform || (!J1)))]) (cs' := [(vi (IntKind.wrap .i64 (x0.fnodes + 1))), (vi (if x2 > x0.fdepth then x2 else x0.fdepth)), (vi x0.fe), (vB (x0.fform || (!J1))), (vB x0.fnamed), (vs Z5)]) rfl rfl (nb rfl) rfl rfl fun a0D b4C d9E => ?_
    have hj1 : ∀ (b1K : Int) (b1L : Int) (b1M : Int) (b1N : Bool) (b1O : Bool) (b0i : (List ByteArray)) (b6S : Sl) (b6T : Frag) (H : Hp) (w : World) (_ : RowL 9 1 J9 b6S b0i b6T) (_ : Inv w0 ps0 H0 H [bx g0 106 [(vi b1K), (vi b1L), (vi b1M), (vB b1N), (vB b1O), (vs b6S)], b6T] w) (_ : B2 b1K b1L b1M b1N b1O b0i H K), c4F w R E := by
     intro b1K b1L b1M b1N b1O b0i b6S b6T H w e0z I h
     unfold c4F
     intro _
     unfold B2 at h
     exact hR true (g9.mk b1K b1L b1M b1N b1O (Sl.mk none 0 0)) b0i b6S b6T H _ e0z ((I.bring 1).bring 1) h
    refine A7 fun j1 hx1 => ?_
    refine f2 (cap := []) (fun args w => Tryd.call118 args w) ?_
    refine i8 (Fi := []) (Fr := [bx g0 106 [(vi (IntKind.wrap .i64 (x0.fnodes + 1))), (vi (if x2 > x0.fdepth then x2 else x0.fdepth)), (vi x0.fe), (vB (x0.fform || (!J1))), (vB x0.fnamed), (vs Z5)], a4R]) b4C (h) (fun e0A a0F a9x a7p a5m e0B c9c c1G => ?_) (fun _ _ _ _ _ q => q.elim)
    obtain ⟨r8, b6R, rfl, rfl, h⟩ := c1G
    refine a7 (o0 _ _ (Value.string r8) rfl) ?_
    refine a7 (o0 _ _ (vB b6R) rfl) ?_
    refine u2 (fun c1E => ?_) (fun c1E => ?_)
    ·replace h := h.1 c1E
     refine a7 (I0 _) ?_
     refine a7 b4v ?_
     refine d6 (ld1 Tryd.isAgg4 (a5m.at1 (o := 4) (vs := [(vB x0.fnamed)]) (nb rfl) rfl)) ?_
     simp only [O5]
     refine V6 (D := fun c1o E2 => ∃ (N7 : Bool) (a0e : Hp) , c1o = (gv x0.fnamed false (vB N7)) ∧ (Inv w0 ps0 H0 a0e [bx g0 106 [(vi (IntKind.wrap .i64 (x0.fnodes + 1))), (vi (if x2 > x0.fdepth then x2 else x0.fdepth)), (vi x0.fe), (vB (x0.fform || (!J1))), (vB x0.fnamed), (vs Z5)], a4R] E2) ∧ (∀ i, i < a7p.heap.size → ¬ inF [] i → E2.heap[i]? = a7p.heap[i]?) ∧ Hle a0F a0e ∧ (O8 a0p r8 a0e (fun (g7 : Bool) (a0r : Hp) =>
 ((!g7) = true →
 (a0p.length + ([r8] : List ByteArray).length) * 17 ≤ 140737488355328 ∧
 B2 (IntKind.wrap .i64 (x0.fnodes + 1)) (if x2 > x0.fdepth then x2 else x0.fdepth) x0.fe (x0.fform || (!J1)) (x0.fnamed || (!N7)) (a0p ++ [r8]) a0r K) ∧
 ((!g7) = false →
 B2 (IntKind.wrap .i64 (x0.fnodes + 1)) (if x2 > x0.fdepth then x2 else x0.fdepth) x0.fe (x0.fform || (!J1)) (x0.fnamed || (!N7)) a0p a0r K)))) (fun c9d => ?_) (fun c9d => ?_) ?_
     ·replace h := h.1 c9d
      have f4 := c9d
      simp only [p1 f4]
      refine f2 (cap := []) (fun args w => Tryd.call119 args w) ?_
      refine i8 (Fi := []) (Fr := [bx g0 106 [(vi (IntKind.wrap .i64 (x0.fnodes + 1))), (vi (if x2 > x0.fdepth then x2 else x0.fdepth)), (vi x0.fe), (vB (x0.fform || (!J1))), (vB x0.fnamed), (vs Z5)], a4R]) a5m (h) (fun c1o a0e d3g E2 a1u c5f b8M b6F => ?_) (fun _ _ _ _ _ q => q.elim)
      obtain ⟨N7, rfl, rfl, h⟩ := b6F
      exact ⟨N7, a0e, by rfl, a1u, b8M, c5f, h⟩
     ·exact ⟨false, a0F, by rw [a3g c9d], a5m, fun _ _ _ => rfl, Hle.refl _, h.2 c9d⟩
     ·clear h
      rintro c1o E2 ⟨N7, a0e, rfl, a1u, b8M, c5f, h⟩
      refine a7 (Pu.g fun hb => by have f4 := hb; simp only [p1 f4]; exact (a1N _)) ?_
      refine a7 (a5Z _ _) ?_
      refine a7 (I0 _) ?_
      refine a7 b4v ?_
      refine m6 a1u Tryd.sizeOf4 (vs := [(vB (x0.fnamed || (!N7)))]) (cs' := [(vi (IntKind.wrap .i64 (x0.fnodes + 1))), (vi (if x2 > x0.fdepth then x2 else x0.fdepth)), (vi x0.fe), (vB (x0.fform || (!J1))), (vB (x0.fnamed || (!N7))), (vs Z5)]) rfl rfl (nb rfl) rfl rfl fun L9 b2u c8z => ?_
      refine a7 (I0 _) ?_
      refine a7 b4w ?_
      refine d6 (ld1 Tryd.isAgg104 (b2u.at1 (o := 5) (vs := [(vs Z5)]) (nb rfl) rfl)) ?_
      refine f2 (cap := []) (fun args w => Tryd.call120 args w) ?_
      refine i8 (Fi := [a4R]) (Fr := [bx g0 106 [(vi (IntKind.wrap .i64 (x0.fnodes + 1))), (vi (if x2 > x0.fdepth then x2 else x0.fdepth)), (vi x0.fe), (vB (x0.fform || (!J1))), (vB (x0.fnamed || (!N7))), (vs Z5)]]) (b2u.bring 1) (h Z5 a4R b4e) (fun d3o a0r d3p N8 b0Y d3q d3r b6P => ?_) (fun _ _ _ _ _ q => q.elim)
      obtain ⟨g7, rfl, rfl, h⟩ := b6P
      refine a7 (a1N _) ?_
      refine u2 (fun c1z => ?_) (fun c1z => ?_)
      ·replace h := h.1 c1z
       refine a7 (I0 _) ?_
       refine a7 b4w ?_
       refine d6 (ld1 Tryd.isAgg104 ((b0Y.bring 1).at1 (o := 5) (vs := [(vs Z5)]) (nb rfl) rfl)) ?_
       refine a3h (e := 9) (c := J9) (xs := [r8]) b0Y (d9r _) rfl rfl c0J c0K (nb rfl) fun h1i g5G c5h e0C f3R h1j => ?_
       obtain ⟨d3s, h⟩ := h
       refine e4o (s := Z5) (xs := a0p) (f3R.bring 1) b4e (e0C.srcO ((f3R.bring 1).bring 1)) d3s fun e0D g5H c1H e0E b8R c5j => ?_
       refine a7 (I0 _) ?_
       refine a7 b4w ?_
       refine m6 ((b8R.bring 1).drop.bring 1) Tryd.sizeOf104 (vs := [(vs e0D)]) (cs' := [(vi (IntKind.wrap .i64 (x0.fnodes + 1))), (vi (if x2 > x0.fdepth then x2 else x0.fdepth)), (vi x0.fe), (vB (x0.fform || (!J1))), (vB (x0.fnamed || (!N7))), (vs e0D)]) rfl rfl (nb rfl) rfl rfl fun X6 g5I h1k => ?_
       exact hx1 _ _ (hj1 (IntKind.wrap .i64 (x0.fnodes + 1)) (if x2 > x0.fdepth then x2 else x0.fdepth) x0.fe (x0.fform || (!J1)) (x0.fnamed || (!N7)) (a0p ++ [r8]) e0D g5H a0r _ e0E ((g5I.bring 1).bring 1) h)
      ·replace h := h.2 c1z
       exact hx1 _ _ (hj1 (IntKind.wrap .i64 (x0.fnodes + 1)) (if x2 > x0.fdepth then x2 else x0.fdepth) x0.fe (x0.fform || (!J1)) (x0.fnamed || (!N7)) a0p Z5 a4R a0r _ b4e (b0Y.bring 1) h)
    ·replace h := h.2 c1E
     exact hx1 _ _ (hj1 (IntKind.wrap .i64 (x0.fnodes + 1)) (if x2 > x0.fdepth then x2 else x0.fdepth) x0.fe (x0.fform || (!J1)) x0.fnamed a0p Z5 a4R a0F _ b4e ((a5m.bring 1).bring 1) h)
theorem b0Z (x0 : g9) (a0p : (List ByteArray)) (x1 : d7) (x2 : Int) {H : Hp} {K : Bool → g9 → (List ByteArray) → Hp → Prop} (h : a0j x0 a0p x1 x2 H K) : a3m x0 a0p x1 x2 H K := by
 intro g0 Z5 a4R b4e w I
 refine e4C ?_
 refine b0I x0 a0p x1 x2 g0 Z5 a4R b4e I (fun r0 y0 a8E a6h a6i H' w' c8W I' hk => ⟨H', _, I', r0, y0, a8E, a6h, a6i, rfl, rfl, c8W, hk⟩) h
def a4V (x0 : b5) (H : Hp) (K : Int → Hp → Prop) : Prop :=
 ∀ (s_7 : Sl) (a1h : Hp), Hle H a1h → SlH a1h 1 t6 s_7 [(d7.F7 (J4.mk x0))] → s_7.n ≤ s_7.c →
 a0V s_7 a1h (fun (b1s : g9) (c1I : Hp) =>
 K b1s.fe c1I)
theorem b7N (x0 : b5) {K : Int → Hp → Prop} (I : Inv w0 ps0 H0 H [] w) (hR : ∀ (r0 : Int) (H' : Hp) (w' : World) (_ : Inv w0 ps0 H0 H' [] w') (_ : K r0 H'), R (vi r0) w') (h : a4V x0 H K) : F37 (Value.agg (b6 x0).toArray) w R E := by
 unfold a4V at h
 unfold F37
 refine J3 I (cs := (b6 x0)) rfl fun g_2 w_3 I_4 k_5 => ?_
 refine d6 (ldA Tryd.isAgg24 Tryd.sizeOf24 rfl (I_4.at1 (o := 0) (vs := (b6 x0)) (nb rfl) rfl)) ?_
 refine a7 (b8c _ _ _ _ _ _) ?_
 refine a7 (a9L (J4.mk x0)) ?_
 refine a3h (e := 152) (c := t6) (xs := [(d7.F7 (J4.mk x0))]) I_4 (a9M _) rfl rfl O3 P0 (nb rfl) fun s_7 F_8 w_9 b2S V5 a7A => ?_
 obtain ⟨a1h, J6, c1j, b0f, c1J⟩ := Inv.freezeC V5 b2S (by decide)
 replace h := h s_7 a1h c1j b0f c1J
 refine f2 (cap := []) (fun args w => Tryd.call60 args w) ?_
 refine i8 (Fi := []) (Fr := [bx g_2 24 (b6 x0)]) J6 (h) (fun g5J c1I g5K a0D b4C d3m d9E e0F => ?_) (fun _ _ _ _ _ q => q.elim)
 obtain ⟨b1s, f3S, rfl, rfl, h⟩ := e0F
 refine a7 (I0 _) ?_
 refine a7 a0b ?_
 refine d6 (ld1 Tryd.isAgg29 (b4C.at1 (o := 2) (vs := [(vi b1s.fe)]) (nb rfl) rfl)) ?_
 exact hR b1s.fe c1I _ b4C.drop.drop h
theorem b8S (x0 : b5) {H : Hp} {K : Int → Hp → Prop} (h : a4V x0 H K) : a7q x0 H K := by
 intro w I
 refine e8T ?_
 refine b7N x0 I (fun r0 H' w' I' hk => ⟨H', _, I', r0, rfl, rfl, hk⟩) h
def G5 (h1l : Sl) (c5k : Int) (h1m : Sl) (e2U : Int) (d3t : Int) (H : Hp) (n4 : (Int × Int) → Hp → Prop) (K : Sl → Hp → Prop) : Prop :=
 n4 (c5k, (IntKind.wrap .i64 (d3t + 1))) H
def G6 (c3j : (List d7)) (H : Hp) (K : Sl → Hp → Prop) : Prop :=
 ∀ (b0x : Sl) (b6U : Hp), Hle H b6U → SlH b6U 1 t6 b0x c3j → b0x.n ≤ b0x.c →
 K b0x b6U
def G7 (e2V : Sl) (e2W : Int) (a6v : (List d7)) (a5z : Int) (H : Hp) (n3 : ((List d7) × Int) → Hp → Prop) (K : Sl → Hp → Prop) : Prop :=
 (a5z < e2W →
 (0 : Int) ≤ a5z ∧ (a5z : Int) < e2V.n ∧ ∃ d3u : Sl, EltH H e2V a5z 1 [(vs d3u)] ∧
 ∃ c3k : List d7, SlH H 1 t6 d3u c3k ∧ (a6v.length + c3k.length) * 17 ≤ 140737488355328 ∧
 n3 ((a6v ++ c3k), (IntKind.wrap .i64 (a5z + 1))) H) ∧
 (¬ (a5z < e2W) →
 G6 a6v H K)
def G8 (d3v : Sl) (b6G : Int) (H : Hp) (K : Sl → Hp → Prop) : Prop :=
 T2 b6G H (fun (d3w : (List d7)) (H_9 : Hp) =>
 TL ((d3w, 0) : (List d7) × Int) H_9 fun (s : (List d7) × Int) H n3 => G7 d3v (d3v.n : Int) s.1 s.2 H n3 K)
def G9 (f3T : Sl) (e0G : Sl) (d3x : Int) (a9A : Int) (a4W : Int) (H : Hp) (n4 : (Int × Int) → Hp → Prop) (K : Sl → Hp → Prop) : Prop :=
 (a4W < d3x →
 (0 : Int) ≤ a4W ∧ (a4W : Int) < e0G.n ∧ ∃ x_1 : Sl, EltH H e0G a4W 1 [(vs x_1)] ∧
 ((IntKind.wrap .i64 (a9A + (x_1.n : Int))) < 0 →
 False) ∧
 (¬ ((IntKind.wrap .i64 (a9A + (x_1.n : Int))) < 0) →
 G5 f3T (IntKind.wrap .i64 (a9A + (x_1.n : Int))) e0G d3x a4W H n4 K)) ∧
 (¬ (a4W < d3x) →
 G8 f3T a9A H K)
def J8 (x0 : Sl) (H : Hp) (K : Sl → Hp → Prop) : Prop :=
 TL ((0, 0) : Int × Int) H fun (s : Int × Int) H n4 => G9 x0 x0 (x0.n : Int) s.1 s.2 H n4 K
theorem a3L (x0 : Sl) {K : Sl → Hp → Prop} (I : Inv w0 ps0 H0 H [] w) (hR : ∀ (r0 : Sl) (H' : Hp) (w' : World) (_ : Inv w0 ps0 H0 H' [] w') (_ : K r0 H'), R (vs r0) w') (h : J8 x0 H K) : F87 (vs x0) w R E := by
 unfold J8 at h
 unfold F87
 have hj1 : ∀ (b6G : Int) (H : Hp) (w : World) (_ : Inv w0 ps0 H0 H [] w) (_ : G8 x0 b6G H K), c7F (vs x0) (vi b6G) w R E := by
  intro b6G H w I h
  unfold c7F
  intro _
  unfold G8 at h
  refine f2 (cap := []) (fun args w => Tryd.call117 args w) ?_
  refine i8 (Fi := []) (Fr := []) I (h) (fun h1n H_9 h1o o7 V5 e0y a7A g5L => ?_) (fun _ _ _ _ _ q => q.elim)
  obtain ⟨d3w, f3U, f3V, rfl, rfl, f3W, h⟩ := g5L
  have hj2 : ∀ (c3j : (List d7)) (b0x : Sl) (Fs6j2 : Frag) (H : Hp) (w : World) (_ : RowL 152 1 t6 b0x c3j Fs6j2) (_ : Inv w0 ps0 H0 H [Fs6j2] w) (_ : G6 c3j H K), c7E (vs b0x) w R E := by
   intro c3j b0x Fs6j2 H w g2d I h
   unfold c7E
   intro _
   unfold G6 at h
   obtain ⟨b6U, a1x, f3X, a5l, g5M⟩ := Inv.freezeC I g2d (by decide)
   replace h := h b0x b6U f3X a5l g5M
   exact hR b0x b6U _ a1x h
  refine A7 fun j2 hx2 => ?_
  refine a7 (c2I _ _ _) ?_
  obtain ⟨e0H, c9e, g5N, g5O⟩ := h
  refine M9 (J := fun n l w => ∃ (s : (List d7) × Int) (H : Hp) (c3l : Sl) (Fs6l3 : Frag) , n = c9e s ∧ l = (match s with | (a6v, a5z) => [(vs c3l), (vi a5z)]) ∧ (match s with | (a6v, a5z) => RowL 152 1 t6 c3l a6v Fs6l3) ∧ (match s with | (a6v, a5z) => Inv w0 ps0 H0 H [Fs6l3] w) ∧ e0H s H) ⟨_, (d3w, 0), H_9, f3U, f3V, rfl, rfl, f3W, V5, g5N⟩ ?_
  rintro h1p τ_46 w next3 ⟨⟨a6v, a5z⟩, H, c3l, Fs6l3, rfl, e0I, d3y, I, g5P⟩ hn3
  dsimp only at e0I I d3y
  simp only [List.map_cons, List.map_nil, List.cons.injEq, and_true] at e0I
  obtain ⟨e6, e27⟩ := e0I
  simp only [e6, e27]
  obtain ⟨n3, hm3, h⟩ : ∃ n3 : ((List d7) × Int) → Hp → Prop, (∀ s' H', n3 s' H' → e0H s' H' ∧ c9e s' < c9e (a6v, a5z)) ∧ G7 x0 (x0.n : Int) a6v a5z H n3 K := ⟨_, fun _ _ h => h, g5O (a6v, a5z) H (fun s' H' => e0H s' H' ∧ c9e s' < c9e (a6v, a5z)) g5P (fun _ _ a b => ⟨a, b⟩)⟩
  unfold d6G
  unfold G7 at h
  refine a7 (F4 _ _ _ _ _ _) ?_
  refine j7 (fun a8I => ?_) (fun a8I => ?_)
  ·replace h := h.1 a8I
   obtain ⟨a8H, c1K, d3u, c1L, h⟩ := h
   obtain ⟨f3A, h1q, c9f, c1L⟩ := c1L
   refine a7 (c5K c9f _ _ _ _ a8H c1K) ?_
   refine d6 (ld1 (v := (vs d3u)) Tryd.isAgg124 (I.atH c1L)) ?_
   obtain ⟨c3k, g5Q, h⟩ := h
   obtain ⟨g5R, h⟩ := h
   refine b5m (s := c3l) (xs := a6v) I d3y (SlH.src I g5Q O3) g5R fun b0V a9x E5 a4d S8 a8h => ?_
   refine a7 (K3 _ _ _ _ _ _) ?_
   exact hn3 _ _ _ (hm3 _ _ h).2 ⟨((a6v ++ c3k), (IntKind.wrap .i64 (a5z + 1))), H, b0V, a9x, rfl, rfl, a4d, S8, (hm3 _ _ h).1⟩
  ·replace h := h.2 a8I
   exact hx2 _ _ (hj2 a6v c3l Fs6l3 H _ d3y I h)
 refine A7 fun j1 hx1 => ?_
 refine a7 (c2I _ _ _) ?_
 obtain ⟨e0J, c9g, g5S, g5T⟩ := h
 refine M9 (J := fun n l w => ∃ (s : Int × Int) (H : Hp) , n = c9g s ∧ l = (match s with | (a9A, a4W) => [(vi a9A), (vi a4W)]) ∧ (match s with | (a9A, a4W) => Inv w0 ps0 H0 H [] w) ∧ e0J s H) ⟨_, (0, 0), H, rfl, rfl, I, g5S⟩ ?_
 rintro h1r τ_55 w next4 ⟨⟨a9A, a4W⟩, H, rfl, d3z, I, g5U⟩ hn4
 dsimp only at d3z I
 simp only [List.map_cons, List.map_nil, List.cons.injEq, and_true] at d3z
 obtain ⟨e3, e11⟩ := d3z
 simp only [e3, e11]
 obtain ⟨n4, hm4, h⟩ : ∃ n4 : (Int × Int) → Hp → Prop, (∀ s' H', n4 s' H' → e0J s' H' ∧ c9g s' < c9g (a9A, a4W)) ∧ G9 x0 x0 (x0.n : Int) a9A a4W H n4 K := ⟨_, fun _ _ h => h, g5T (a9A, a4W) H (fun s' H' => e0J s' H' ∧ c9g s' < c9g (a9A, a4W)) g5U (fun _ _ a b => ⟨a, b⟩)⟩
 unfold d6H
 unfold G9 at h
 refine a7 (F4 _ _ _ _ _ _) ?_
 refine j7 (fun e0K => ?_) (fun e0K => ?_)
 ·replace h := h.1 e0K
  have hj5 : ∀ (c5k : Int) (H : Hp) (w : World) (_ : Inv w0 ps0 H0 H [] w) (_ : G5 x0 c5k x0 (x0.n : Int) a4W H n4 K), c7G (vs x0) (vi c5k) (vs x0) (vi (x0.n : Int)) (vi a4W) w next4 R E := by
   intro c5k H w I h
   unfold c7G
   intro _
   unfold G5 at h
   refine a7 (K3 _ _ _ _ _ _) ?_
   exact hn4 _ _ _ (hm4 _ _ h).2 ⟨(c5k, (IntKind.wrap .i64 (a4W + 1))), H, rfl, rfl, I, (hm4 _ _ h).1⟩
  refine A7 fun j5 hx5 => ?_
  obtain ⟨h_4, h_5, x_1, h_7, h⟩ := h
  obtain ⟨g_2, o_3, h_6, h_7⟩ := h_7
  refine a7 (c5K h_6 _ _ _ _ h_4 h_5) ?_
  refine d6 (ld1 (v := (vs x_1)) Tryd.isAgg124 (I.atH h_7)) ?_
  refine a7 (b1i _ _ _) ?_
  refine a7 (K3 _ _ _ _ _ _) ?_
  refine a7 (F4 _ _ _ _ _ _) ?_
  refine j7 (fun c_8 => ?_) (fun c_8 => ?_)
  ·replace h := h.1 c_8
   refine a7 (d6A _) ?_
   exact h.elim
  ·replace h := h.2 c_8
   exact hx5 _ _ (hj5 (IntKind.wrap .i64 (a9A + (x_1.n : Int))) H _ I h)
 ·replace h := h.2 e0K
  exact hx1 _ _ (hj1 a9A H _ I h)
theorem a3T (x0 : Sl) {H : Hp} {K : Sl → Hp → Prop} (h : J8 x0 H K) : E0 x0 H K := by
 intro w I
 refine e9H ?_
 refine a3L x0 I (fun r0 H' w' I' hk => ⟨H', _, I', r0, rfl, rfl, hk⟩) h
def a4r (x0 : j6) (H : Hp) (K : Int → Int → Hp → Prop) : Prop :=
 a3u x0 H (fun (D5 : g9) (H_6 : Hp) =>
 (¬ (D5.fe = 0) →
 K 0 D5.fe H_6) ∧
 (D5.fe = 0 →
 K D5.fdepth 0 H_6))
theorem b6V (x0 : j6) {K : Int → Int → Hp → Prop} (I : Inv w0 ps0 H0 H [] w) (hR : ∀ (r0 : Int) (r1 : Int) (H' : Hp) (w' : World) (_ : Inv w0 ps0 H0 H' [] w') (_ : K r0 r1 H'), R (Value.tuple #[(vi r0), (vi r1)]) w') (h : a4r x0 H K) : F32 (Value.agg (f5 x0).toArray) w R E := by
 unfold a4r at h
 unfold F32
 refine J3 I (cs := (f5 x0)) rfl fun g_2 w_3 I_4 k_5 => ?_
 refine d6 (ldA Tryd.isAgg44 Tryd.sizeOf44 rfl (I_4.at1 (o := 0) (vs := (f5 x0)) (nb rfl) rfl)) ?_
 refine f2 (cap := []) (fun args w => Tryd.call52 args w) ?_
 refine i8 (Fi := []) (Fr := [bx g_2 44 (f5 x0)]) I_4 (h) (fun b6u H_6 b6v w_7 I_8 b6w k_9 a6r => ?_) (fun _ _ _ _ _ q => q.elim)
 obtain ⟨D5, d7x, rfl, rfl, h⟩ := a6r
 refine a7 (I0 _) ?_
 refine a7 a0b ?_
 refine d6 (ld1 Tryd.isAgg29 (I_8.at1 (o := 2) (vs := [(vi D5.fe)]) (nb rfl) rfl)) ?_
 refine a7 (T0 _ _ _ _ _ _) ?_
 refine a0s (fun a4e => ?_) (fun a4e => ?_)
 ·replace h := h.1 a4e
  refine a3v I_8 fun s6 a9w => ?_
  refine r9 (I0 _) ?_
  refine r9 a0b ?_
  refine K0 (ld1 Tryd.isAgg29 (a9w.at1 (o := 2) (vs := [(vi D5.fe)]) (nb rfl) rfl)) ?_
  exact hR 0 D5.fe H_6 _ a9w.drop.drop h
 ·replace h := h.2 a4e
  refine a7 (I0 _) ?_
  refine a7 b4s ?_
  refine d6 (ld1 Tryd.isAgg3 (I_8.at1 (o := 1) (vs := [(vi D5.fdepth)]) (nb rfl) rfl)) ?_
  exact hR D5.fdepth 0 H_6 _ I_8.drop.drop h
theorem b7O (x0 : j6) {H : Hp} {K : Int → Int → Hp → Prop} (h : a4r x0 H K) : a4i x0 H K := by
 intro w I
 refine e8N ?_
 refine b6V x0 I (fun r0 r1 H' w' I' hk => ⟨H', _, I', r0, r1, rfl, rfl, hk⟩) h
def a2z (x0 : b5) (x1 : b5) (H : Hp) (K : Bool → Hp → Prop) : Prop :=
 TG ((((decide (x0.a8 = x1.a8)) && (decide (x0.o2 = x1.o2))) && (decide (x0.b7 = x1.b7))) = true) (o6 x0.m7 x1.m7 H) false H (fun (g5 : Bool) (F3 : Hp) =>
 K ((((decide (x0.a8 = x1.a8)) && (decide (x0.o2 = x1.o2))) && (decide (x0.b7 = x1.b7))) && g5) F3)
theorem b3z (x0 : b5) (x1 : b5) {K : Bool → Hp → Prop} (I : Inv w0 ps0 H0 H [] w) (hR : ∀ (r0 : Bool) (H' : Hp) (w' : World) (_ : Inv w0 ps0 H0 H' [] w') (_ : K r0 H'), R (vB r0) w') (h : a2z x0 x1 H K) : F96 (Value.agg (b6 x0).toArray) (Value.agg (b6 x1).toArray) w R E := by
 unfold a2z at h
 unfold F96
 refine J3 I (cs := (b6 x0)) rfl fun g_2 w_3 I_4 k_5 => ?_
 refine J3 I_4 (cs := (b6 x1)) rfl fun g_7 w_8 I_9 a7x => ?_
 refine a7 V7 ?_
 refine d6 (ld1 Tryd.isAgg3 ((I_9.bring 1).at1 (o := 0) (vs := [(vi x0.a8)]) (nb rfl) rfl)) ?_
 refine a7 V7 ?_
 refine d6 (ld1 Tryd.isAgg3 (I_9.at1 (o := 0) (vs := [(vi x1.a8)]) (nb rfl) rfl)) ?_
 refine a7 (m9 _ _ _ _ _ _) ?_
 refine a7 (Pu.g fun hb => by have f4 := hb; exact a6b) ?_
 refine d6 (Ld.g fun hb => by have f4 := hb; simp only [p1 f4]; exact (ld1 Tryd.isAgg2 ((I_9.bring 1).at1 (o := 1) (vs := [(vi x0.o2)]) (nb rfl) rfl))) ?_
 refine a7 (Pu.g fun hb => by have f4 := hb; exact a6b) ?_
 refine d6 (Ld.g fun hb => by have f4 := hb; simp only [p1 f4]; exact (ld1 Tryd.isAgg2 (I_9.at1 (o := 1) (vs := [(vi x1.o2)]) (nb rfl) rfl))) ?_
 refine a7 (Pu.g fun hb => by have f4 := hb; simp only [p1 f4]; exact (m9 _ _ _ _ _ _)) ?_
 refine a7 (A6 _ _) ?_
 refine a7 (Pu.g fun hb => by have f4 := hb; exact a7N) ?_
 refine d6 (Ld.g fun hb => by have f4 := hb; simp only [p1 f4]; exact (ld1 Tryd.isAgg9 ((I_9.bring 1).at1 (o := 2) (vs := [(Value.string x0.b7)]) (nb rfl) rfl))) ?_
 refine a7 (Pu.g fun hb => by have f4 := hb; exact a7N) ?_
 refine d6 (Ld.g fun hb => by have f4 := hb; simp only [p1 f4]; exact (ld1 Tryd.isAgg9 (I_9.at1 (o := 2) (vs := [(Value.string x1.b7)]) (nb rfl) rfl))) ?_
 refine a7 (Pu.g fun hb => by have f4 := hb; simp only [p1 f4]; exact (a1O _ _ _ _ _)) ?_
 refine a7 (A6 _ _) ?_
 refine a7 (Pu.g fun hb => by have f4 := hb; exact J5) ?_
 refine d6 (Ld.g fun hb => by have f4 := hb; simp only [p1 f4]; exact (ld1 Tryd.isAgg22 ((I_9.bring 1).at1 (o := 3) (vs := [(vs x0.m7)]) (nb rfl) rfl))) ?_
 refine a7 (Pu.g fun hb => by have f4 := hb; exact J5) ?_
 refine d6 (Ld.g fun hb => by have f4 := hb; simp only [p1 f4]; exact (ld1 Tryd.isAgg22 (I_9.at1 (o := 3) (vs := [(vs x1.m7)]) (nb rfl) rfl))) ?_
 refine V6 (D := fun a6Z o4 => ∃ (g5 : Bool) (F3 : Hp) , a6Z = (gv (((decide (x0.a8 = x1.a8)) && (decide (x0.o2 = x1.o2))) && (decide (x0.b7 = x1.b7))) true (vB g5)) ∧ (Inv w0 ps0 H0 F3 [bx g_7 24 (b6 x1), bx g_2 24 (b6 x0)] o4) ∧ (∀ i, i < w_8.heap.size → ¬ inF [] i → o4.heap[i]? = w_8.heap[i]?) ∧ Hle H F3 ∧ (K ((((decide (x0.a8 = x1.a8)) && (decide (x0.o2 = x1.o2))) && (decide (x0.b7 = x1.b7))) && g5) F3)) (fun c9h => ?_) (fun c9h => ?_) ?_
 ·replace h := h.1 c9h
  have f4 := c9h
  simp only [p1 f4]
  refine f2 (cap := []) (fun args w => Tryd.call95 args w) ?_
  refine i8 (Fi := []) (Fr := [bx g_7 24 (b6 x1), bx g_2 24 (b6 x0)]) I_9 (h) (fun a6Z F3 b2w o4 R8 a7B a7C a6s => ?_) (fun _ _ _ _ _ q => q.elim)
  obtain ⟨g5, rfl, rfl, h⟩ := a6s
  exact ⟨g5, F3, by rfl, R8, a7C, a7B, h⟩
 ·exact ⟨false, H, by rw [a3g c9h], I_9, fun _ _ _ => rfl, Hle.refl _, h.2 c9h⟩
 ·clear h
  rintro a6Z o4 ⟨g5, F3, rfl, R8, a7C, a7B, h⟩
  refine a7 (A6 _ _) ?_
  exact hR ((((decide (x0.a8 = x1.a8)) && (decide (x0.o2 = x1.o2))) && (decide (x0.b7 = x1.b7))) && g5) F3 _ R8.drop.drop h
theorem b4N (x0 : b5) (x1 : b5) {H : Hp} {K : Bool → Hp → Prop} (h : a2z x0 x1 H K) : a2s x0 x1 H K := by
 intro w I
 refine e9T ?_
 refine b3z x0 x1 I (fun r0 H' w' I' hk => ⟨H', _, I', r0, rfl, rfl, hk⟩) h
def D8 (F5 : (List d7)) (H : Hp) (K : Sl → Hp → Prop) : Prop :=
 ∀ (s8 : Sl) (F8 : Hp), Hle H F8 → SlH F8 1 t6 s8 F5 → s8.n ≤ s8.c →
 K s8 F8
def D9 (K4 : Sl) (R4 : Int) (m8 : (List d7)) (j8 : Int) (H : Hp) (n2 : ((List d7) × Int) → Hp → Prop) (K : Sl → Hp → Prop) : Prop :=
 (j8 < R4 →
 (0 : Int) ≤ j8 ∧ (j8 : Int) < K4.n ∧ ∃ x_1 : b5, EltH H K4 j8 4 (b6 x_1) ∧
 a9u x_1 H (fun (B3 : d7) (M5 : Hp) =>
 (m8.length + ([B3] : List d7).length) * 17 ≤ 140737488355328 ∧
 n2 ((m8 ++ [B3]), (IntKind.wrap .i64 (j8 + 1))) M5)) ∧
 (¬ (j8 < R4) →
 D8 m8 H K)
def F0 (x0 : Sl) (H : Hp) (K : Sl → Hp → Prop) : Prop :=
 TL (([], 0) : (List d7) × Int) H fun (s : (List d7) × Int) H n2 => D9 x0 (x0.n : Int) s.1 s.2 H n2 K
theorem a1T (x0 : Sl) {K : Sl → Hp → Prop} (I : Inv w0 ps0 H0 H [] w) (hR : ∀ (r0 : Sl) (H' : Hp) (w' : World) (_ : Inv w0 ps0 H0 H' [] w') (_ : K r0 H'), R (vs r0) w') (h : F0 x0 H K) : d2K (vs x0) (fC 172) w R E := by
 unfold F0 at h
 unfold d2K
 have hj1 : ∀ (F5 : (List d7)) (s8 : Sl) (Fs5j1 : Frag) (H : Hp) (w : World) (_ : RowL 152 1 t6 s8 F5 Fs5j1) (_ : Inv w0 ps0 H0 H [Fs5j1] w) (_ : D8 F5 H K), c4V (vs s8) w R E := by
  intro F5 s8 Fs5j1 H w a4T I h
  unfold c4V
  intro _
  unfold D8 at h
  obtain ⟨F8, a0Y, a5W, a1v, a3F⟩ := Inv.freezeC I a4T (by decide)
  replace h := h s8 F8 a5W a1v a3F
  exact hR s8 F8 _ a0Y h
 refine A7 fun j1 hx1 => ?_
 refine a7 (Z3 _ _ _) ?_
 obtain ⟨X1, M0, a7y, a0Z⟩ := h
 refine M9 (J := fun n l w => ∃ (s : (List d7) × Int) (H : Hp) (F6 : Sl) (Fs5l2 : Frag) , n = M0 s ∧ l = (match s with | (m8, j8) => [(vs F6), (vi j8)]) ∧ (match s with | (m8, j8) => RowL 152 1 t6 F6 m8 Fs5l2) ∧ (match s with | (m8, j8) => Inv w0 ps0 H0 H [Fs5l2] w) ∧ X1 s H) ⟨_, ([], 0), H, (Sl.mk none 0 0), [], rfl, rfl, (RowL.nil O3 P0), I.nil, a7y⟩ ?_
 rintro b8I τ_50 w next2 ⟨⟨m8, j8⟩, H, F6, Fs5l2, rfl, V4, Q1, I, a7z⟩ hn2
 dsimp only at V4 I Q1
 simp only [List.map_cons, List.map_nil, List.cons.injEq, and_true] at V4
 obtain ⟨e5, e10⟩ := V4
 simp only [e5, e10]
 obtain ⟨n2, hm2, h⟩ : ∃ n2 : ((List d7) × Int) → Hp → Prop, (∀ s' H', n2 s' H' → X1 s' H' ∧ M0 s' < M0 (m8, j8)) ∧ D9 x0 (x0.n : Int) m8 j8 H n2 K := ⟨_, fun _ _ h => h, a0Z (m8, j8) H (fun s' H' => X1 s' H' ∧ M0 s' < M0 (m8, j8)) a7z (fun _ _ a b => ⟨a, b⟩)⟩
 unfold d1G
 unfold D9 at h
 refine a7 (F4 _ _ _ _ _ _) ?_
 refine j7 (fun T5 => ?_) (fun T5 => ?_)
 ·replace h := h.1 T5
  obtain ⟨h_4, h_5, x_1, h_7, h⟩ := h
  obtain ⟨g_2, o_3, h_6, h_7⟩ := h_7
  refine a7 (O0 h_6 _ _ _ _ h_4 h_5) ?_
  refine d6 (ldA (vs := (b6 x_1)) Tryd.isAgg24 Tryd.sizeOf24 rfl (I.atH h_7)) ?_
  refine y8 I Tryd.zeroValue24 (cs := [(vi 0), (vi 0), (eS), (nS)]) rfl fun g_9 o7 V5 a7A => ?_
  refine m6 V5 Tryd.sizeOf24 (vs := (b6 x_1)) (cs' := (b6 x_1)) rfl rfl (nb rfl) rfl rfl fun V0 J6 a1w => ?_
  refine d6 (ldA Tryd.isAgg24 Tryd.sizeOf24 rfl (J6.at1 (o := 0) (vs := (b6 x_1)) (nb rfl) rfl)) ?_
  refine f2 (cap := []) (fun args w => Tryd.call172 args w) ?_
  refine i8 (Fi := []) (Fr := [bx g_9 24 (b6 x_1), Fs5l2]) J6 (h) (fun b4E M5 b2v Y8 a0E b4F b4G a5k => ?_) (fun _ _ _ _ _ q => q.elim)
  obtain ⟨B3, rfl, rfl, h⟩ := a5k
  refine a3h (e := 152) (c := t6) (xs := [B3]) a0E (a9M _) rfl rfl O3 P0 (nb rfl) fun b0V a9x E5 a4d S8 a8h => ?_
  obtain ⟨a5l, h⟩ := h
  refine b5m (s := F6) (xs := m8) (S8.bring 2) Q1 (a4d.srcO ((S8.bring 2).bring 1)) a5l fun a3G a6Y E3 a5j a1x a9X => ?_
  refine a7 (K3 _ _ _ _ _ _) ?_
  exact hn2 _ _ _ (hm2 _ _ h).2 ⟨((m8 ++ [B3]), (IntKind.wrap .i64 (j8 + 1))), M5, a3G, a6Y, rfl, rfl, a5j, ((a1x.bring 1).drop.bring 1).drop, (hm2 _ _ h).1⟩
 ·replace h := h.2 T5
  exact hx1 _ _ (hj1 m8 F6 Fs5l2 H _ Q1 I h)
theorem a2i (x0 : Sl) {H : Hp} {K : Sl → Hp → Prop} (h : F0 x0 H K) : A4 x0 H K := by
 intro w I
 refine e5f ?_
 refine a1T x0 I (fun r0 H' w' I' hk => ⟨H', _, I', r0, rfl, rfl, hk⟩) h
def a1i (x0 : P8) (H : Hp) (K : Sl → Hp → Prop) : Prop :=
 E6 x0.f7.o9 H (fun (i5 : Sl) (H_8 : Hp) =>
 A4 x0.f7.g8 H_8 (fun (i6 : Sl) (a7a : Hp) =>
 A0 x0.f7.v6 a7a (fun (d3A : Sl) (b8T : Hp) =>
 A0 x0.f7.t7 b8T (fun (d3B : Sl) (b6U : Hp) =>
 ∀ (c5l : Sl) (c9i : Hp), Hle b6U c9i → SlH c9i 1 csl c5l [i5, i6, d3A, d3B] → c5l.n ≤ c5l.c →
 E0 c5l c9i (fun (b4f : Sl) (c1M : Hp) =>
 K b4f c1M)))))
theorem b1t (x0 : P8) {K : Sl → Hp → Prop} (I : Inv w0 ps0 H0 H [] w) (hR : ∀ (r0 : Sl) (H' : Hp) (w' : World) (_ : Inv w0 ps0 H0 H' [] w') (_ : K r0 H'), R (vs r0) w') (h : a1i x0 H K) : d2X (Value.agg (d8 x0.f7).toArray) w R E := by
 unfold a1i at h
 unfold d2X
 refine J3 I (cs := (d8 x0.f7)) rfl fun g_2 w_3 I_4 k_5 => ?_
 refine a3v I_4 fun w_6 I_7 => ?_
 refine r9 O7 ?_
 refine r9 a0S ?_
 refine r9 O7 ?_
 refine r9 a3w ?_
 refine r9 O7 ?_
 refine r9 a2o ?_
 refine r9 O7 ?_
 refine r9 a0T ?_
 refine K0 (ld1 Tryd.isAgg25 (I_7.at1 (o := 3) (vs := [(vs x0.f7.o9)]) (nb rfl) rfl)) ?_
 refine K0 (ld1 Tryd.isAgg22 (I_7.at1 (o := 2) (vs := [(vs x0.f7.g8)]) (nb rfl) rfl)) ?_
 refine K0 (ld1 Tryd.isAgg42 (I_7.at1 (o := 4) (vs := [(vs x0.f7.v6)]) (nb rfl) rfl)) ?_
 refine K0 (ld1 Tryd.isAgg42 (I_7.at1 (o := 5) (vs := [(vs x0.f7.t7)]) (nb rfl) rfl)) ?_
 refine f2 (cap := []) (fun args w => Tryd.call175 args w) ?_
 refine i8 (Fi := []) (Fr := [bx g_2 179 (d8 x0.f7)]) I_7 (h) (fun d9L H_8 d9M w_9 a9y c1j b4I c1k => ?_) (fun _ _ _ _ _ q => q.elim)
 obtain ⟨i5, rfl, rfl, h⟩ := c1k
 refine ⟨(b4I _ I_7.lt1 (Inv.a3s (Fi := []) I_7)), (b4I _ I_7.lt1 (Inv.a3s (Fi := []) I_7)), (b4I _ I_7.lt1 (Inv.a3s (Fi := []) I_7)), ?_⟩
 refine f2 (cap := []) (fun args w => Tryd.call171 args w) ?_
 refine i8 (Fi := []) (Fr := [bx g_2 179 (d8 x0.f7)]) a9y (h) (fun d9N a7a d9O v7 a9Z d9P c1l c1m => ?_) (fun _ _ _ _ _ q => q.elim)
 obtain ⟨i6, rfl, rfl, h⟩ := c1m
 refine ⟨(c1l _ a9y.lt1 (Inv.a3s (Fi := []) a9y)), (c1l _ a9y.lt1 (Inv.a3s (Fi := []) a9y)), ?_⟩
 refine f2 (cap := []) (fun args w => Tryd.call90 args w) ?_
 refine i8 (Fi := []) (Fr := [bx g_2 179 (d8 x0.f7)]) a9Z (h) (fun h1s b8T h1t a3z c5a e0L g5V g5W => ?_) (fun _ _ _ _ _ q => q.elim)
 obtain ⟨d3A, rfl, rfl, h⟩ := g5W
 refine ⟨(g5V _ a9Z.lt1 (Inv.a3s (Fi := []) a9Z)), ?_⟩
 refine f2 (cap := []) (fun args w => Tryd.call90 args w) ?_
 refine i8 (Fi := []) (Fr := [bx g_2 179 (d8 x0.f7)]) c5a (h) (fun h1u b6U h1v L2 g5X h1w h1x g5Y => ?_) (fun _ _ _ _ _ q => q.elim)
 obtain ⟨d3B, rfl, rfl, h⟩ := g5Y
 refine a3h (e := 124) (c := csl) (xs := [i5, i6, d3A, d3B]) g5X (d9s _ _ _ _ _ _ _ _ _ _ _ _) rfl rfl c6l c6m (nb rfl) fun c5l h1y c4I g5Z c8E f3F => ?_
 obtain ⟨c9i, b4O, g6a, b8P, d3C⟩ := Inv.freezeC c8E g5Z (by decide)
 replace h := h c5l c9i g6a b8P d3C
 refine f2 (cap := []) (fun args w => Tryd.call87 args w) ?_
 refine i8 (Fi := []) (Fr := [bx g_2 179 (d8 x0.f7)]) b4O (h) (fun g6b c1M g6c b6W b0j g6d b8U e0M => ?_) (fun _ _ _ _ _ q => q.elim)
 obtain ⟨b4f, rfl, rfl, h⟩ := e0M
 exact hR b4f c1M _ b0j.drop h
theorem b2T (x0 : P8) {H : Hp} {K : Sl → Hp → Prop} (h : a1i x0 H K) : a7w x0 H K := by
 intro w I
 refine e5X ?_
 refine b1t x0 I (fun r0 H' w' I' hk => ⟨H', _, I', r0, rfl, rfl, hk⟩) h
end Go.Proofs.YtnhkdkcgdcgmdaaDoor
