/- Typed formulas of the program's functions, and the theorems that the contracts follow from them; printed by lift.py off the code. -/
import Derived.Test.YtnhkdkcgdcgmdaaGreatDoorzRV1
namespace Go.Proofs.YtnhkdkcgdcgmdaaGreatDoor
open Go.RowKit
set_option maxRecDepth 100000
set_option maxHeartbeats 2000000
variable {w0 w : World} {ps0 : Nat → Prop} {H0 H : Hp} {R : RT} {E : Pan}
def a6q (x0 : Int) (x1 : Int) (x2 : Int) (H : Hp) (K : Bool → Hp → Prop) : Prop :=
 K ((decide (x0 ≤ x2)) && (decide (x2 ≤ x1))) H
theorem b5M (x0 : Int) (x1 : Int) (x2 : Int) (g2 : Nat) {K : Bool → Hp → Prop} (I : Inv w0 ps0 H0 H [bx g2 21 [(Value.int .i32 x2)]] w) (hR : ∀ (r0 : Bool) (H' : Hp) (w' : World) (_ : Inv w0 ps0 H0 H' [bx g2 21 [(Value.int .i32 x2)]] w') (_ : K r0 H'), R (vB r0) w') (h : a6q x0 x1 x2 H K) : d7s (Value.int .i32 x0) (Value.int .i32 x1) (Value.pointer (some ⟨g2, 0, none⟩)) w R E := by
 unfold a6q at h
 unfold d7s
 refine d7 (ld1 Tryz.isAgg21 (I.at1 (o := 0) (vs := [(Value.int .i32 x2)]) (nb rfl) rfl)) ?_
 refine a7 (b6m _ _ _ _ _ _) ?_
 refine d7 (Ld.g fun hb => by have i5 := hb; exact (ld1 Tryz.isAgg21 (I.at1 (o := 0) (vs := [(Value.int .i32 x2)]) (nb rfl) rfl))) ?_
 simp only [O5]
 refine a7 (Pu.g fun hb => by have i5 := hb; simp only [s8 i5]; exact (b6m _ _ _ _ _ _)) ?_
 refine a7 (N6 _ _) ?_
 exact hR ((decide (x0 ≤ x2)) && (decide (x2 ≤ x1))) H _ I h
theorem b6B (x0 : Int) (x1 : Int) (x2 : Int) {H : Hp} {K : Bool → Hp → Prop} (h : a6q x0 x1 x2 H K) : P2 x0 x1 x2 H K := by
 intro g2 w I
 refine f1N ?_
 refine b5M x0 x1 x2 g2 I (fun r0 H' w' I' hk => ⟨H', _, I', r0, rfl, rfl, hk⟩) h
def K3 (c1o : Bool) (i1U : Int) (H : Hp) (K : Int → Hp → Prop) : Prop :=
 (c1o = true →
 K 3 H) ∧
 (c1o = false →
 K 6 H)
def T3 (c1p : Bool) (a0t : Int) (H : Hp) (K : Int → Hp → Prop) : Prop :=
 (c1p = true →
 K 6 H) ∧
 (c1p = false →
 P2 48 57 a0t H (fun (X1 : Bool) (H_6 : Hp) =>
 (X1 = true →
 K 4 H_6) ∧
 (X1 = false →
 (a0t = 95 →
 K3 (decide (a0t = 95)) a0t H_6 K) ∧
 (¬ (a0t = 95) →
 P2 97 122 a0t H_6 (fun (C3 : Bool) (O7 : Hp) =>
 (C3 = true →
 K3 C3 a0t O7 K) ∧
 (C3 = false →
 P2 65 90 a0t O7 (fun (a9a : Bool) (c2T : Hp) =>
 (a9a = true →
 K3 a9a a0t c2T K) ∧
 (a9a = false →
 P2 192 591 a0t c2T (fun (m6 : Bool) (a7r : Hp) =>
 (m6 = true →
 K3 m6 a0t a7r K) ∧
 (m6 = false →
 P2 913 969 a0t a7r (fun (i8 : Bool) (a0W : Hp) =>
 (i8 = true →
 K3 i8 a0t a0W K) ∧
 (i8 = false →
 P2 1040 1103 a0t a0W (fun (d8e : Bool) (e5Q : Hp) =>
 K3 d8e a0t e5Q K)))))))))))))
def t1 (c2U : Int) (b7W : Bool) (a0Z : Int) (H : Hp) (K : Int → Hp → Prop) : Prop :=
 (b7W = true →
 K 5 H) ∧
 (b7W = false →
 (c2U = 215 →
 T3 (decide (c2U = 215)) a0Z H K) ∧
 (¬ (c2U = 215) →
 (c2U = 247 →
 T3 (decide (c2U = 247)) a0Z H K) ∧
 (¬ (c2U = 247) →
 T3 (decide (c2U = 930)) a0Z H K)))
def T4 (B6 : Int) (b7T : Bool) (v8 : Int) (H : Hp) (K : Int → Hp → Prop) : Prop :=
 (b7T = true →
 K 1 H) ∧
 (b7T = false →
 (B6 = 10 →
 K 2 H) ∧
 (¬ (B6 = 10) →
 (B6 = 59 →
 t1 B6 (decide (B6 = 59)) v8 H K) ∧
 (¬ (B6 = 59) →
 (B6 = 44 →
 t1 B6 (decide (B6 = 44)) v8 H K) ∧
 (¬ (B6 = 44) →
 (B6 = 123 →
 t1 B6 (decide (B6 = 123)) v8 H K) ∧
 (¬ (B6 = 123) →
 (B6 = 125 →
 t1 B6 (decide (B6 = 125)) v8 H K) ∧
 (¬ (B6 = 125) →
 (B6 = 40 →
 t1 B6 (decide (B6 = 40)) v8 H K) ∧
 (¬ (B6 = 40) →
 (B6 = 41 →
 t1 B6 (decide (B6 = 41)) v8 H K) ∧
 (¬ (B6 = 41) →
 (B6 = 91 →
 t1 B6 (decide (B6 = 91)) v8 H K) ∧
 (¬ (B6 = 91) →
 (B6 = 93 →
 t1 B6 (decide (B6 = 93)) v8 H K) ∧
 (¬ (B6 = 93) →
 (B6 = 61 →
 t1 B6 (decide (B6 = 61)) v8 H K) ∧
 (¬ (B6 = 61) →
 (B6 = 33 →
 t1 B6 (decide (B6 = 33)) v8 H K) ∧
 (¬ (B6 = 33) →
 (B6 = 60 →
 t1 B6 (decide (B6 = 60)) v8 H K) ∧
 (¬ (B6 = 60) →
 (B6 = 62 →
 t1 B6 (decide (B6 = 62)) v8 H K) ∧
 (¬ (B6 = 62) →
 (B6 = 43 →
 t1 B6 (decide (B6 = 43)) v8 H K) ∧
 (¬ (B6 = 43) →
 (B6 = 45 →
 t1 B6 (decide (B6 = 45)) v8 H K) ∧
 (¬ (B6 = 45) →
 (B6 = 42 →
 t1 B6 (decide (B6 = 42)) v8 H K) ∧
 (¬ (B6 = 42) →
 (B6 = 47 →
 t1 B6 (decide (B6 = 47)) v8 H K) ∧
 (¬ (B6 = 47) →
 (B6 = 37 →
 t1 B6 (decide (B6 = 37)) v8 H K) ∧
 (¬ (B6 = 37) →
 (B6 = 38 →
 t1 B6 (decide (B6 = 38)) v8 H K) ∧
 (¬ (B6 = 38) →
 t1 B6 (decide (B6 = 124)) v8 H K))))))))))))))))))))
def a4P (x0 : Int) (H : Hp) (K : Int → Hp → Prop) : Prop :=
 (x0 = 32 →
 T4 x0 (decide (x0 = 32)) x0 H K) ∧
 (¬ (x0 = 32) →
 (x0 = 9 →
 T4 x0 (decide (x0 = 9)) x0 H K) ∧
 (¬ (x0 = 9) →
 T4 x0 (decide (x0 = 13)) x0 H K))
theorem b7X (x0 : Int) {K : Int → Hp → Prop} (I : Inv w0 ps0 H0 H [] w) (hR : ∀ (r0 : Int) (H' : Hp) (w' : World) (_ : Inv w0 ps0 H0 H' [] w') (_ : K r0 H'), R (vi r0) w') (h : a4P x0 H K) : d7p (Value.int .i32 x0) w R E := by
 unfold a4P at h
 unfold d7p
 refine L9 I (cs := [(Value.int .i32 x0)]) rfl fun g_2 w_3 I_4 k_5 => ?_
 refine d7 (ld1 Tryz.isAgg21 (I_4.at1 (o := 0) (vs := [(Value.int .i32 x0)]) (nb rfl) rfl)) ?_
 have hj1 : ∀ (b7T : Bool) (H : Hp) (w : World) (_ : Inv w0 ps0 H0 H [bx g_2 21 [(Value.int .i32 x0)]] w) (_ : T4 x0 b7T x0 H K), c6D (Value.pointer (some ⟨g_2, 0, none⟩)) (Value.int .i32 x0) (vB b7T) w R E := by
  intro b7T H w I h
  unfold c6D
  intro _
  unfold T4 at h
  refine u0 (fun c2V => ?_) (fun c2V => ?_)
  ·replace h := h.1 c2V
   exact hR 1 H _ I.drop h
  ·replace h := h.2 c2V
   refine a7 (o2 _ _ _ _ _ _) ?_
   refine j8 (fun e5R => ?_) (fun e5R => ?_)
   ·replace h := h.1 e5R
    exact hR 2 H _ I.drop h
   ·replace h := h.2 e5R
    have hj2 : ∀ (b7W : Bool) (H : Hp) (w : World) (_ : Inv w0 ps0 H0 H [bx g_2 21 [(Value.int .i32 x0)]] w) (_ : t1 x0 b7W x0 H K), c6C (Value.pointer (some ⟨g_2, 0, none⟩)) (Value.int .i32 x0) (vB b7W) w R E := by
     intro b7W H w I h
     unfold c6C
     intro _
     unfold t1 at h
     refine u0 (fun e5S => ?_) (fun e5S => ?_)
     ·replace h := h.1 e5S
      exact hR 5 H _ I.drop h
     ·replace h := h.2 e5S
      have hj3 : ∀ (c1p : Bool) (H : Hp) (w : World) (_ : Inv w0 ps0 H0 H [bx g_2 21 [(Value.int .i32 x0)]] w) (_ : T3 c1p x0 H K), c6B (Value.pointer (some ⟨g_2, 0, none⟩)) (vB c1p) w R E := by
       intro c1p H w I h
       unfold c6B
       intro _
       unfold T3 at h
       refine u0 (fun c2W => ?_) (fun c2W => ?_)
       ·replace h := h.1 c2W
        exact hR 6 H _ I.drop h
       ·replace h := h.2 c2W
        refine a7 (b1y _ _ _) ?_
        refine d8 (cap := [(Value.pointer (some ⟨g_2, 0, none⟩))]) (fun args w => Tryz.call170 args w) ?_
        refine o0 (Fi := [bx g_2 21 [(Value.int .i32 x0)]]) (Fr := []) I (h g_2) (fun c6R H_6 c6S w_7 I_8 c6T k_9 b0N => ?_) (fun _ _ _ _ _ q => q.elim)
        obtain ⟨X1, rfl, rfl, h⟩ := b0N
        refine u0 (fun e5T => ?_) (fun e5T => ?_)
        ·replace h := h.1 e5T
         exact hR 4 H_6 _ I_8.drop h
        ·replace h := h.2 e5T
         have hj4 : ∀ (c1o : Bool) (H : Hp) (w : World) (_ : Inv w0 ps0 H0 H [bx g_2 21 [(Value.int .i32 x0)]] w) (_ : K3 c1o x0 H K), c6A (vB c1o) w R E := by
          intro c1o H w I h
          unfold c6A
          intro _
          unfold K3 at h
          refine u0 (fun a9z => ?_) (fun a9z => ?_)
          ·replace h := h.1 a9z
           exact hR 3 H _ I.drop h
          ·replace h := h.2 a9z
           exact hR 6 H _ I.drop h
         refine A7 fun j4 hx4 => ?_
         refine d7 (ld1 Tryz.isAgg21 (I_8.at1 (o := 0) (vs := [(Value.int .i32 x0)]) (nb rfl) rfl)) ?_
         refine a7 (o2 _ _ _ _ _ _) ?_
         refine j8 (fun e5U => ?_) (fun e5U => ?_)
         ·replace h := h.1 e5U
          exact hx4 _ _ (hj4 (decide (x0 = 95)) H_6 _ I_8 h)
         ·replace h := h.2 e5U
          refine d8 (cap := [(Value.pointer (some ⟨g_2, 0, none⟩))]) (fun args w => Tryz.call170 args w) ?_
          refine o0 (Fi := [bx g_2 21 [(Value.int .i32 x0)]]) (Fr := []) I_8 (h g_2) (fun b5C O7 b3D X8 a1v b5D b5E a5B => ?_) (fun _ _ _ _ _ q => q.elim)
          obtain ⟨C3, rfl, rfl, h⟩ := a5B
          refine u0 (fun e5V => ?_) (fun e5V => ?_)
          ·replace h := h.1 e5V
           exact hx4 _ _ (hj4 C3 O7 _ a1v h)
          ·replace h := h.2 e5V
           refine d8 (cap := [(Value.pointer (some ⟨g_2, 0, none⟩))]) (fun args w => Tryz.call170 args w) ?_
           refine o0 (Fi := [bx g_2 21 [(Value.int .i32 x0)]]) (Fr := []) a1v (h g_2) (fun h9h c2T h9i A6 b1d h9j d1E e5W => ?_) (fun _ _ _ _ _ q => q.elim)
           obtain ⟨a9a, rfl, rfl, h⟩ := e5W
           refine u0 (fun c2X => ?_) (fun c2X => ?_)
           ·replace h := h.1 c2X
            exact hx4 _ _ (hj4 a9a c2T _ b1d h)
           ·replace h := h.2 c2X
            refine d8 (cap := [(Value.pointer (some ⟨g_2, 0, none⟩))]) (fun args w => Tryz.call170 args w) ?_
            refine o0 (Fi := [bx g_2 21 [(Value.int .i32 x0)]]) (Fr := []) b1d (h g_2) (fun g2k a7r g2l a6O a2p a6n b0M d1F => ?_) (fun _ _ _ _ _ q => q.elim)
            obtain ⟨m6, rfl, rfl, h⟩ := d1F
            refine u0 (fun c2Y => ?_) (fun c2Y => ?_)
            ·replace h := h.1 c2Y
             exact hx4 _ _ (hj4 m6 a7r _ a2p h)
            ·replace h := h.2 c2Y
             refine d8 (cap := [(Value.pointer (some ⟨g_2, 0, none⟩))]) (fun args w => Tryz.call170 args w) ?_
             refine o0 (Fi := [bx g_2 21 [(Value.int .i32 x0)]]) (Fr := []) a2p (h g_2) (fun d7U a0W d7V G4 b2n d7W d7X b7M => ?_) (fun _ _ _ _ _ q => q.elim)
             obtain ⟨i8, rfl, rfl, h⟩ := b7M
             refine u0 (fun e5X => ?_) (fun e5X => ?_)
             ·replace h := h.1 e5X
              exact hx4 _ _ (hj4 i8 a0W _ b2n h)
             ·replace h := h.2 e5X
              refine d8 (cap := [(Value.pointer (some ⟨g_2, 0, none⟩))]) (fun args w => Tryz.call170 args w) ?_
              refine o0 (Fi := [bx g_2 21 [(Value.int .i32 x0)]]) (Fr := []) b2n (h g_2) (fun i4Q e5Q i4R d1G h9k i4S i4T h9l => ?_) (fun _ _ _ _ _ q => q.elim)
              obtain ⟨d8e, rfl, rfl, h⟩ := h9l
              exact hx4 _ _ (hj4 d8e e5Q _ h9k h)
      refine A7 fun j3 hx3 => ?_
      refine a7 (o2 _ _ _ _ _ _) ?_
      refine j8 (fun c2N => ?_) (fun c2N => ?_)
      ·replace h := h.1 c2N
       exact hx3 _ _ (hj3 (decide (x0 = 215)) H _ I h)
      ·replace h := h.2 c2N
       refine a7 (o2 _ _ _ _ _ _) ?_
       refine j8 (fun b3A => ?_) (fun b3A => ?_)
       ·replace h := h.1 b3A
        exact hx3 _ _ (hj3 (decide (x0 = 247)) H _ I h)
       ·replace h := h.2 b3A
        refine a7 (o2 _ _ _ _ _ _) ?_
        exact hx3 _ _ (hj3 (decide (x0 = 930)) H _ I h)
    refine A7 fun j2 hx2 => ?_
    refine a7 (o2 _ _ _ _ _ _) ?_
    refine j8 (fun c2Z => ?_) (fun c2Z => ?_)
    ·replace h := h.1 c2Z
     exact hx2 _ _ (hj2 (decide (x0 = 59)) H _ I h)
    ·replace h := h.2 c2Z
     refine a7 (o2 _ _ _ _ _ _) ?_
     refine j8 (fun b3C => ?_) (fun b3C => ?_)
     ·replace h := h.1 b3C
      exact hx2 _ _ (hj2 (decide (x0 = 44)) H _ I h)
     ·replace h := h.2 b3C
      refine a7 (o2 _ _ _ _ _ _) ?_
      refine j8 (fun c2J => ?_) (fun c2J => ?_)
      ·replace h := h.1 c2J
       exact hx2 _ _ (hj2 (decide (x0 = 123)) H _ I h)
      ·replace h := h.2 c2J
       refine a7 (o2 _ _ _ _ _ _) ?_
       refine j8 (fun e5Y => ?_) (fun e5Y => ?_)
       ·replace h := h.1 e5Y
        exact hx2 _ _ (hj2 (decide (x0 = 125)) H _ I h)
       ·replace h := h.2 e5Y
        refine a7 (o2 _ _ _ _ _ _) ?_
        refine j8 (fun e5Z => ?_) (fun e5Z => ?_)
        ·replace h := h.1 e5Z
         exact hx2 _ _ (hj2 (decide (x0 = 40)) H _ I h)
        ·replace h := h.2 e5Z
         refine a7 (o2 _ _ _ _ _ _) ?_
         refine j8 (fun e6a => ?_) (fun e6a => ?_)
         ·replace h := h.1 e6a
          exact hx2 _ _ (hj2 (decide (x0 = 41)) H _ I h)
         ·replace h := h.2 e6a
          refine a7 (o2 _ _ _ _ _ _) ?_
          refine j8 (fun c3a => ?_) (fun c3a => ?_)
          ·replace h := h.1 c3a
           exact hx2 _ _ (hj2 (decide (x0 = 91)) H _ I h)
          ·replace h := h.2 c3a
           refine a7 (o2 _ _ _ _ _ _) ?_
           refine j8 (fun b3L => ?_) (fun b3L => ?_)
           ·replace h := h.1 b3L
            exact hx2 _ _ (hj2 (decide (x0 = 93)) H _ I h)
           ·replace h := h.2 b3L
            refine a7 (o2 _ _ _ _ _ _) ?_
            refine j8 (fun e6b => ?_) (fun e6b => ?_)
            ·replace h := h.1 e6b
             exact hx2 _ _ (hj2 (decide (x0 = 61)) H _ I h)
            ·replace h := h.2 e6b
             refine a7 (o2 _ _ _ _ _ _) ?_
             refine j8 (fun c3b => ?_) (fun c3b => ?_)
             ·replace h := h.1 c3b
              exact hx2 _ _ (hj2 (decide (x0 = 33)) H _ I h)
             ·replace h := h.2 c3b
              refine a7 (o2 _ _ _ _ _ _) ?_
              refine j8 (fun c3c => ?_) (fun c3c => ?_)
              ·replace h := h.1 c3c
               exact hx2 _ _ (hj2 (decide (x0 = 60)) H _ I h)
              ·replace h := h.2 c3c
               refine a7 (o2 _ _ _ _ _ _) ?_
               refine j8 (fun c3d => ?_) (fun c3d => ?_)
               ·replace h := h.1 c3d
                exact hx2 _ _ (hj2 (decide (x0 = 62)) H _ I h)
               ·replace h := h.2 c3d
                refine a7 (o2 _ _ _ _ _ _) ?_
                refine j8 (fun c3e => ?_) (fun c3e => ?_)
                ·replace h := h.1 c3e
                 exact hx2 _ _ (hj2 (decide (x0 = 43)) H _ I h)
                ·replace h := h.2 c3e
                 refine a7 (o2 _ _ _ _ _ _) ?_
                 refine j8 (fun b3O => ?_) (fun b3O => ?_)
                 ·replace h := h.1 b3O
                  exact hx2 _ _ (hj2 (decide (x0 = 45)) H _ I h)
                 ·replace h := h.2 b3O
                  refine a7 (o2 _ _ _ _ _ _) ?_
                  refine j8 (fun c2K => ?_) (fun c2K => ?_)
                  ·replace h := h.1 c2K
                   exact hx2 _ _ (hj2 (decide (x0 = 42)) H _ I h)
                  ·replace h := h.2 c2K
                   refine a7 (o2 _ _ _ _ _ _) ?_
                   refine j8 (fun e6c => ?_) (fun e6c => ?_)
                   ·replace h := h.1 e6c
                    exact hx2 _ _ (hj2 (decide (x0 = 47)) H _ I h)
                   ·replace h := h.2 e6c
                    refine a7 (o2 _ _ _ _ _ _) ?_
                    refine j8 (fun c3f => ?_) (fun c3f => ?_)
                    ·replace h := h.1 c3f
                     exact hx2 _ _ (hj2 (decide (x0 = 37)) H _ I h)
                    ·replace h := h.2 c3f
                     refine a7 (o2 _ _ _ _ _ _) ?_
                     refine j8 (fun c2M => ?_) (fun c2M => ?_)
                     ·replace h := h.1 c2M
                      exact hx2 _ _ (hj2 (decide (x0 = 38)) H _ I h)
                     ·replace h := h.2 c2M
                      refine a7 (o2 _ _ _ _ _ _) ?_
                      exact hx2 _ _ (hj2 (decide (x0 = 124)) H _ I h)
 refine A7 fun j1 hx1 => ?_
 refine a7 (o2 _ _ _ _ _ _) ?_
 refine j8 (fun c3g => ?_) (fun c3g => ?_)
 ·replace h := h.1 c3g
  exact hx1 _ _ (hj1 (decide (x0 = 32)) H _ I_4 h)
 ·replace h := h.2 c3g
  refine a7 (o2 _ _ _ _ _ _) ?_
  refine j8 (fun e6d => ?_) (fun e6d => ?_)
  ·replace h := h.1 e6d
   exact hx1 _ _ (hj1 (decide (x0 = 9)) H _ I_4 h)
  ·replace h := h.2 e6d
   refine a7 (o2 _ _ _ _ _ _) ?_
   exact hx1 _ _ (hj1 (decide (x0 = 13)) H _ I_4 h)
theorem b8T (x0 : Int) {H : Hp} {K : Int → Hp → Prop} (h : a4P x0 H K) : a4K x0 H K := by
 intro w I
 refine f1H ?_
 refine b7X x0 I (fun r0 H' w' I' hk => ⟨H', _, I', r0, rfl, rfl, hk⟩) h
def a5R (x0 : ByteArray) (H : Hp) (K : Bool → Hp → Prop) : Prop :=
 a0S x0 H (fun (M7 : Int) (H_1 : Hp) =>
 K (decide (32 < M7)) H_1)
theorem c0e (x0 : ByteArray) {K : Bool → Hp → Prop} (I : Inv w0 ps0 H0 H [] w) (hR : ∀ (r0 : Bool) (H' : Hp) (w' : World) (_ : Inv w0 ps0 H0 H' [] w') (_ : K r0 H'), R (vB r0) w') (h : a5R x0 H K) : d7l (Value.string x0) w R E := by
 unfold a5R at h
 unfold d7l
 refine d8 (cap := []) (fun args w => Tryz.call169 args w) ?_
 refine o0 (Fi := []) (Fr := []) I (h) (fun v_5 H_1 F_6 w_2 I_3 l_8 k_4 q_7 => ?_) (fun _ _ _ _ _ q => q.elim)
 obtain ⟨M7, rfl, rfl, h⟩ := q_7
 refine a7 (a3B _ _ _ _ _ _) ?_
 exact hR (decide (32 < M7)) H_1 _ I_3 h
theorem c1X (x0 : ByteArray) {H : Hp} {K : Bool → Hp → Prop} (h : a5R x0 H K) : a5K x0 H K := by
 intro w I
 refine f1B ?_
 refine c0e x0 I (fun r0 H' w' I' hk => ⟨H', _, I', r0, rfl, rfl, hk⟩) h
def X3 (H : Hp) (K : Int → Hp → Prop) : Prop :=
 K (-1) H
def X4 (h4F : (List ByteArray)) (b9S : ByteArray) (a7s : Int) (N0 : Int) (H : Hp) (n2 : Int → Hp → Prop) (K : Int → Hp → Prop) : Prop :=
 (N0 < a7s →
 (0 : Int) ≤ N0 ∧ ∃ x_1 : ByteArray, (h4F)[(N0 : Int).toNat]? = some x_1 ∧
 (b9S = x_1 →
 K N0 H) ∧
 (¬ (b9S = x_1) →
 n2 (IntKind.wrap .i64 (N0 + 1)) H)) ∧
 (¬ (N0 < a7s) →
 X3 H K)
def a0j (x0 : (List ByteArray)) (x1 : ByteArray) (H : Hp) (K : Int → Hp → Prop) : Prop :=
 TL (0 : Int) H fun (s : Int) H n2 => X4 x0 x1 (x0.length : Int) s H n2 K
theorem b0E (x0 : (List ByteArray)) (x1 : ByteArray) (sx0 : Sl) (Fx0 : Frag) (hx0 : RowL 9 1 M3 sx0 x0 Fx0) {K : Int → Hp → Prop} (I : Inv w0 ps0 H0 H [Fx0] w) (hR : ∀ (r0 : Int) (H' : Hp) (w' : World) (_ : Inv w0 ps0 H0 H' [Fx0] w') (_ : K r0 H'), R (vi r0) w') (h : a0j x0 x1 H K) : d7q (vs sx0) (Value.string x1) w R E := by
 unfold a0j at h
 unfold d7q
 have hj1 : ∀ (H : Hp) (w : World) (_ : Inv w0 ps0 H0 H [Fx0] w) (_ : X3 H K), c6E w R E := by
  intro H w I h
  unfold c6E
  intro _
  unfold X3 at h
  exact hR (-1) H _ I h
 refine A7 fun j1 hx1 => ?_
 refine a7 (c4g Tryz.underlying88 hx0) ?_
 obtain ⟨e6e, d1H, h9m, h9n⟩ := h
 refine M6 (J := fun n l w => ∃ (s : Int) (H : Hp) , n = d1H s ∧ l = [(vi s)] ∧ Inv w0 ps0 H0 H [Fx0] w ∧ e6e s H) ⟨_, 0, H, rfl, rfl, I, h9m⟩ ?_
 rintro i4U τ_15 w next2 ⟨N0, H, rfl, e6f, I, h9o⟩ hn2
 simp only [List.map_cons, List.map_nil, List.cons.injEq, and_true] at e6f
 have e8 := e6f
 simp only [e8]
 obtain ⟨n2, hm2, h⟩ : ∃ n2 : Int → Hp → Prop, (∀ s' H', n2 s' H' → e6e s' H' ∧ d1H s' < d1H N0) ∧ X4 x0 x1 (x0.length : Int) N0 H n2 K := ⟨_, fun _ _ h => h, h9n N0 H (fun s' H' => e6e s' H' ∧ d1H s' < d1H N0) h9o (fun _ _ a b => ⟨a, b⟩)⟩
 unfold d5Q
 unfold X4 at h
 refine a7 (D7 _ _ _ _ _ _) ?_
 refine j8 (fun c_9 => ?_) (fun c_9 => ?_)
 ·replace h := h.1 c_9
  obtain ⟨h_3, x_1, h_4, h⟩ := h
  obtain ⟨g_2, a_6, h_5, h_7⟩ := hx0.addr h_4
  refine a7 (e5d h_5 _ _ _ _ h_3 (hx0.lt h_3 h_4)) ?_
  refine d7 (ld1 (v := (Value.string x_1)) Tryz.isAgg9 (hx0.atW I h_5 h_4)) ?_
  refine a7 (a4b _ _ _ _ _) ?_
  refine j8 (fun c_8 => ?_) (fun c_8 => ?_)
  ·replace h := h.1 c_8
   exact hR N0 H _ I h
  ·replace h := h.2 c_8
   refine a7 (L6 _ _ _ _ _ _) ?_
   exact hn2 _ _ _ (hm2 _ _ h).2 ⟨(IntKind.wrap .i64 (N0 + 1)), H, rfl, rfl, I, (hm2 _ _ h).1⟩
 ·replace h := h.2 c_9
  exact hx1 _ _ (hj1 H _ I h)
theorem b1e (x0 : (List ByteArray)) (x1 : ByteArray) {H : Hp} {K : Int → Hp → Prop} (h : a0j x0 x1 H K) : a2N x0 x1 H K := by
 intro sx0 Fx0 hx0 w I
 refine f1J ?_
 refine b0E x0 x1 sx0 Fx0 hx0 I (fun r0 H' w' I' hk => ⟨H', _, I', r0, rfl, rfl, hk⟩) h
def K8 (i4V : Sl) (c6X : Int) (i4W : Sl) (e9K : Int) (d8f : Int) (H : Hp) (n4 : (Int × Int) → Hp → Prop) (K : Sl → Hp → Prop) : Prop :=
 n4 (c6X, (IntKind.wrap .i64 (d8f + 1))) H
def K9 (c4K : (List d9)) (H : Hp) (K : Sl → Hp → Prop) : Prop :=
 ∀ (b1D : Sl) (b7U : Hp), Hle H b7U → SlH b7U 1 v6 b1D c4K → b1D.n ≤ b1D.c →
 K b1D b7U
def L0 (e9L : Sl) (e9M : Int) (a6P : (List d9)) (a5S : Int) (H : Hp) (n3 : ((List d9) × Int) → Hp → Prop) (K : Sl → Hp → Prop) : Prop :=
 (a5S < e9M →
 (0 : Int) ≤ a5S ∧ (a5S : Int) < e9L.n ∧ ∃ d8g : Sl, EltH H e9L a5S 1 [(vs d8g)] ∧
 ∃ c4L : List d9, SlH H 1 v6 d8g c4L ∧ (a6P.length + c4L.length) * 17 ≤ 140737488355328 ∧
 n3 ((a6P ++ c4L), (IntKind.wrap .i64 (a5S + 1))) H) ∧
 (¬ (a5S < e9M) →
 K9 a6P H K)
def L1 (d8h : Sl) (b7Y : Int) (H : Hp) (K : Sl → Hp → Prop) : Prop :=
 V2 b7Y H (fun (d8i : (List d9)) (H_9 : Hp) =>
 TL ((d8i, 0) : (List d9) × Int) H_9 fun (s : (List d9) × Int) H n3 => L0 d8h (d8h.n : Int) s.1 s.2 H n3 K)
def L2 (g2m : Sl) (e6g : Sl) (d8j : Int) (b0o : Int) (a5m : Int) (H : Hp) (n4 : (Int × Int) → Hp → Prop) (K : Sl → Hp → Prop) : Prop :=
 (a5m < d8j →
 (0 : Int) ≤ a5m ∧ (a5m : Int) < e6g.n ∧ ∃ x_1 : Sl, EltH H e6g a5m 1 [(vs x_1)] ∧
 ((IntKind.wrap .i64 (b0o + (x_1.n : Int))) < 0 →
 False) ∧
 (¬ ((IntKind.wrap .i64 (b0o + (x_1.n : Int))) < 0) →
 K8 g2m (IntKind.wrap .i64 (b0o + (x_1.n : Int))) e6g d8j a5m H n4 K)) ∧
 (¬ (a5m < d8j) →
 L1 g2m b0o H K)
def M2 (x0 : Sl) (H : Hp) (K : Sl → Hp → Prop) : Prop :=
 TL ((0, 0) : Int × Int) H fun (s : Int × Int) H n4 => L2 x0 x0 (x0.n : Int) s.1 s.2 H n4 K
theorem a4s (x0 : Sl) {K : Sl → Hp → Prop} (I : Inv w0 ps0 H0 H [] w) (hR : ∀ (r0 : Sl) (H' : Hp) (w' : World) (_ : Inv w0 ps0 H0 H' [] w') (_ : K r0 H'), R (vs r0) w') (h : M2 x0 H K) : F75 (vs x0) w R E := by
 unfold M2 at h
 unfold F75
 have hj1 : ∀ (b7Y : Int) (H : Hp) (w : World) (_ : Inv w0 ps0 H0 H [] w) (_ : L1 x0 b7Y H K), c9X (vs x0) (vi b7Y) w R E := by
  intro b7Y H w I h
  unfold c9X
  intro _
  unfold L1 at h
  refine d8 (cap := []) (fun args w => Tryz.call119 args w) ?_
  refine o0 (Fi := []) (Fr := []) I (h) (fun i4X H_9 i4Y q7 a0V e6f b0j h9p => ?_) (fun _ _ _ _ _ q => q.elim)
  obtain ⟨d8i, g2n, g2o, rfl, rfl, g2p, h⟩ := h9p
  have hj2 : ∀ (c4K : (List d9)) (b1D : Sl) (Fs6j2 : Frag) (H : Hp) (w : World) (_ : RowL 150 1 v6 b1D c4K Fs6j2) (_ : Inv w0 ps0 H0 H [Fs6j2] w) (_ : K9 c4K H K), c9W (vs b1D) w R E := by
   intro c4K b1D Fs6j2 H w h4G I h
   unfold c9W
   intro _
   unfold K9 at h
   obtain ⟨b7U, a2p, g2q, a5C, h9q⟩ := Inv.freezeC I h4G (by decide)
   replace h := h b1D b7U g2q a5C h9q
   exact hR b1D b7U _ a2p h
  refine A7 fun j2 hx2 => ?_
  refine a7 (c4m _ _ _) ?_
  obtain ⟨e6h, d1I, h9r, h9s⟩ := h
  refine M6 (J := fun n l w => ∃ (s : (List d9) × Int) (H : Hp) (c4M : Sl) (Fs6l3 : Frag) , n = d1I s ∧ l = (match s with | (a6P, a5S) => [(vs c4M), (vi a5S)]) ∧ (match s with | (a6P, a5S) => RowL 150 1 v6 c4M a6P Fs6l3) ∧ (match s with | (a6P, a5S) => Inv w0 ps0 H0 H [Fs6l3] w) ∧ e6h s H) ⟨_, (d8i, 0), H_9, g2n, g2o, rfl, rfl, g2p, a0V, h9r⟩ ?_
  rintro i4Z τ_46 w next3 ⟨⟨a6P, a5S⟩, H, c4M, Fs6l3, rfl, e6i, d8k, I, h9t⟩ hn3
  dsimp only at e6i I d8k
  simp only [List.map_cons, List.map_nil, List.cons.injEq, and_true] at e6i
  obtain ⟨e6, e27⟩ := e6i
  simp only [e6, e27]
  obtain ⟨n3, hm3, h⟩ : ∃ n3 : ((List d9) × Int) → Hp → Prop, (∀ s' H', n3 s' H' → e6h s' H' ∧ d1I s' < d1I (a6P, a5S)) ∧ L0 x0 (x0.n : Int) a6P a5S H n3 K := ⟨_, fun _ _ h => h, h9s (a6P, a5S) H (fun s' H' => e6h s' H' ∧ d1I s' < d1I (a6P, a5S)) h9t (fun _ _ a b => ⟨a, b⟩)⟩
  unfold e1z
  unfold L0 at h
  refine a7 (D7 _ _ _ _ _ _) ?_
  refine j8 (fun e6j => ?_) (fun e6j => ?_)
  ·replace h := h.1 e6j
   obtain ⟨e6k, c3h, d8g, b7Z, h⟩ := h
   obtain ⟨g2c, i5a, d1J, b7Z⟩ := b7Z
   refine a7 (c7T d1J _ _ _ _ e6k c3h) ?_
   refine d7 (ld1 (v := (vs d8g)) Tryz.isAgg137 (I.atH b7Z)) ?_
   obtain ⟨c4L, e6l, h⟩ := h
   obtain ⟨e6m, h⟩ := h
   refine b6q (s := c4M) (xs := a6P) I d8k (SlH.src I e6l Q2) e6m fun b2j b0k D8 a4I V9 a8E => ?_
   refine a7 (L6 _ _ _ _ _ _) ?_
   exact hn3 _ _ _ (hm3 _ _ h).2 ⟨((a6P ++ c4L), (IntKind.wrap .i64 (a5S + 1))), H, b2j, b0k, rfl, rfl, a4I, V9, (hm3 _ _ h).1⟩
  ·replace h := h.2 e6j
   exact hx2 _ _ (hj2 a6P c4M Fs6l3 H _ d8k I h)
 refine A7 fun j1 hx1 => ?_
 refine a7 (c4m _ _ _) ?_
 obtain ⟨e6n, d1K, h9u, h9v⟩ := h
 refine M6 (J := fun n l w => ∃ (s : Int × Int) (H : Hp) , n = d1K s ∧ l = (match s with | (b0o, a5m) => [(vi b0o), (vi a5m)]) ∧ (match s with | (b0o, a5m) => Inv w0 ps0 H0 H [] w) ∧ e6n s H) ⟨_, (0, 0), H, rfl, rfl, I, h9u⟩ ?_
 rintro i5b τ_55 w next4 ⟨⟨b0o, a5m⟩, H, rfl, d8l, I, h9w⟩ hn4
 dsimp only at d8l I
 simp only [List.map_cons, List.map_nil, List.cons.injEq, and_true] at d8l
 obtain ⟨e3, e11⟩ := d8l
 simp only [e3, e11]
 obtain ⟨n4, hm4, h⟩ : ∃ n4 : (Int × Int) → Hp → Prop, (∀ s' H', n4 s' H' → e6n s' H' ∧ d1K s' < d1K (b0o, a5m)) ∧ L2 x0 x0 (x0.n : Int) b0o a5m H n4 K := ⟨_, fun _ _ h => h, h9v (b0o, a5m) H (fun s' H' => e6n s' H' ∧ d1K s' < d1K (b0o, a5m)) h9w (fun _ _ a b => ⟨a, b⟩)⟩
 unfold e1A
 unfold L2 at h
 refine a7 (D7 _ _ _ _ _ _) ?_
 refine j8 (fun e6o => ?_) (fun e6o => ?_)
 ·replace h := h.1 e6o
  have hj5 : ∀ (c6X : Int) (H : Hp) (w : World) (_ : Inv w0 ps0 H0 H [] w) (_ : K8 x0 c6X x0 (x0.n : Int) a5m H n4 K), c9Y (vs x0) (vi c6X) (vs x0) (vi (x0.n : Int)) (vi a5m) w next4 R E := by
   intro c6X H w I h
   unfold c9Y
   intro _
   unfold K8 at h
   refine a7 (L6 _ _ _ _ _ _) ?_
   exact hn4 _ _ _ (hm4 _ _ h).2 ⟨(c6X, (IntKind.wrap .i64 (a5m + 1))), H, rfl, rfl, I, (hm4 _ _ h).1⟩
  refine A7 fun j5 hx5 => ?_
  obtain ⟨h_4, h_5, x_1, h_7, h⟩ := h
  obtain ⟨g_2, o_3, h_6, h_7⟩ := h_7
  refine a7 (c7T h_6 _ _ _ _ h_4 h_5) ?_
  refine d7 (ld1 (v := (vs x_1)) Tryz.isAgg137 (I.atH h_7)) ?_
  refine a7 (b2A _ _ _) ?_
  refine a7 (L6 _ _ _ _ _ _) ?_
  refine a7 (D7 _ _ _ _ _ _) ?_
  refine j8 (fun c_8 => ?_) (fun c_8 => ?_)
  ·replace h := h.1 c_8
   refine a7 (e1u _) ?_
   exact h.elim
  ·replace h := h.2 c_8
   exact hx5 _ _ (hj5 (IntKind.wrap .i64 (b0o + (x_1.n : Int))) H _ I h)
 ·replace h := h.2 e6o
  exact hx1 _ _ (hj1 b0o H _ I h)
theorem a4B (x0 : Sl) {H : Hp} {K : Sl → Hp → Prop} (h : M2 x0 H K) : G2 x0 H K := by
 intro w I
 refine f8C ?_
 refine a4s x0 I (fun r0 H' w' I' hk => ⟨H', _, I', r0, rfl, rfl, hk⟩) h
def L3 (h9x : Int) (c1q : Bool) (a0t : M0) (H : Hp) (K : Bool → Hp → Prop) : Prop :=
 (c1q = true →
 K (decide (h9x = 2)) H) ∧
 (c1q = false →
 K false H)
def R9 (c6Y : Int) (a8m : Int) (c1r : Bool) (a0Z : M0) (H : Hp) (K : Bool → Hp → Prop) : Prop :=
 (c1r = true →
 K (decide (c6Y = 1)) H) ∧
 (c1r = false →
 (a8m = 6 →
 L3 c6Y (decide (a8m = 6)) a0Z H K) ∧
 (¬ (a8m = 6) →
 (a8m = 7 →
 L3 c6Y (decide (a8m = 7)) a0Z H K) ∧
 (¬ (a8m = 7) →
 (a8m = 8 →
 L3 c6Y (decide (a8m = 8)) a0Z H K) ∧
 (¬ (a8m = 8) →
 (a8m = 9 →
 L3 c6Y (decide (a8m = 9)) a0Z H K) ∧
 (¬ (a8m = 9) →
 L3 c6Y (decide (a8m = 10)) a0Z H K)))))
def S1 (b7Y : Int) (a8l : Int) (c1s : Bool) (v8 : M0) (H : Hp) (K : Bool → Hp → Prop) : Prop :=
 (c1s = true →
 K (decide (b7Y = 0)) H) ∧
 (c1s = false →
 (a8l = 4 →
 R9 b7Y a8l (decide (a8l = 4)) v8 H K) ∧
 (¬ (a8l = 4) →
 R9 b7Y a8l (decide (a8l = 5)) v8 H K))
def a2x (x0 : M0) (H : Hp) (K : Bool → Hp → Prop) : Prop :=
 a3D (d9.K0 x0) H (fun (X1 : ByteArray) (b2J : Bool) (H_6 : Hp) =>
 ((((!decide (x0.t6.a8 = 1)) && (!decide (x0.t6.p5 = 0))) || ((!b2J) && (!decide (x0.t6.b7 = ⟨#[]⟩)))) = true →
 K false H_6) ∧
 ((((!decide (x0.t6.a8 = 1)) && (!decide (x0.t6.p5 = 0))) || ((!b2J) && (!decide (x0.t6.b7 = ⟨#[]⟩)))) = false →
 (x0.t6.a8 = 1 →
 K ((decide (0 ≤ x0.t6.p5)) && (decide ((x0.t6.o9.n : Int) = 0))) H_6) ∧
 (¬ (x0.t6.a8 = 1) →
 (x0.t6.a8 = 2 →
 S1 (x0.t6.o9.n : Int) x0.t6.a8 (decide (x0.t6.a8 = 2)) x0 H_6 K) ∧
 (¬ (x0.t6.a8 = 2) →
 S1 (x0.t6.o9.n : Int) x0.t6.a8 (decide (x0.t6.a8 = 3)) x0 H_6 K))))
theorem b3X (x0 : M0) {K : Bool → Hp → Prop} (I : Inv w0 ps0 H0 H [] w) (hR : ∀ (r0 : Bool) (H' : Hp) (w' : World) (_ : Inv w0 ps0 H0 H' [] w') (_ : K r0 H'), R (vB r0) w') (h : a2x x0 H K) : d7t (Value.agg (b8 x0.t6).toArray) w R E := by
 unfold a2x at h
 unfold d7t
 refine L9 I (cs := (b8 x0.t6)) rfl fun g_2 w_3 I_4 k_5 => ?_
 refine a7 a1E ?_
 refine a7 K5 ?_
 refine d7 (ld1 Tryz.isAgg51 (I_4.at1 (o := 3) (vs := [(vs x0.t6.o9)]) (nb rfl) rfl)) ?_
 refine a7 (a2l _ _ _) ?_
 refine d7 (ldA Tryz.isAgg136 Tryz.sizeOf136 rfl (I_4.at1 (o := 0) (vs := (b8 x0.t6)) (nb rfl) rfl)) ?_
 refine a7 (b0J x0) ?_
 refine d8 (cap := []) (fun args w => Tryz.call143 args w) ?_
 refine o0 (Fi := []) (Fr := [bx g_2 136 (b8 x0.t6)]) I_4 (h) (fun c6R H_6 c6S w_7 I_8 c6T k_9 b0N => ?_) (fun _ _ _ _ _ q => q.elim)
 obtain ⟨X1, b2J, rfl, rfl, h⟩ := b0N
 refine a7 (m9 _ _ (Value.string X1) rfl) ?_
 refine a7 (m9 _ _ (vB b2J) rfl) ?_
 refine a7 a1E ?_
 refine a7 Q7 ?_
 refine d7 (ld1 Tryz.isAgg3 (I_8.at1 (o := 0) (vs := [(vi x0.t6.a8)]) (nb rfl) rfl)) ?_
 refine a7 (T8 _ _ _ _ _ _) ?_
 refine a7 (Pu.g fun hb => by have i5 := hb; exact a1E) ?_
 refine a7 (Pu.g fun hb => by have i5 := hb; simp only [s8 i5]; exact a6x) ?_
 refine d7 (Ld.g fun hb => by have i5 := hb; simp only [s8 i5]; exact (ld1 Tryz.isAgg2 (I_8.at1 (o := 1) (vs := [(vi x0.t6.p5)]) (nb rfl) rfl))) ?_
 refine a7 (Pu.g fun hb => by have i5 := hb; simp only [s8 i5]; exact (T8 _ _ _ _ _ _)) ?_
 refine a7 (N6 _ _) ?_
 simp only [O5]
 refine a7 (Pu.g fun hb => by have i5 := hb; simp only [s8 i5]; exact (a0X _)) ?_
 simp only [e9E]
 refine a7 (Pu.e (b3a _ _ _) (Pu.g fun hb => by obtain ⟨i5, d1d⟩ := c0Y hb; exact a1E)) ?_
 refine a7 (Pu.e (b3a _ _ _) (Pu.g fun hb => by obtain ⟨i5, d1d⟩ := c0Y hb; simp only [s8 hb]; exact a8e)) ?_
 refine d7 (Ld.e (b3a _ _ _) (Ld.g fun hb => by obtain ⟨i5, d1d⟩ := c0Y hb; simp only [s8 hb]; exact (ld1 Tryz.isAgg9 (I_8.at1 (o := 2) (vs := [(Value.string x0.t6.b7)]) (nb rfl) rfl)))) ?_
 refine a7 (Pu.e (b3a _ _ _) (Pu.g fun hb => by obtain ⟨i5, d1d⟩ := c0Y hb; simp only [s8 hb]; exact (f7w _ _ _ _ _))) ?_
 refine a7 (Pu.g fun hb => by have i5 := hb; simp only [s8 i5, e1h i5]; exact (N6 _ _)) ?_
 refine a7 (a1d _ _) ?_
 refine u0 (fun e6p => ?_) (fun e6p => ?_)
 ·replace h := h.1 e6p
  exact hR false H_6 _ I_8.drop h
 ·replace h := h.2 e6p
  refine a7 a1E ?_
  refine a7 Q7 ?_
  refine d7 (ld1 Tryz.isAgg3 (I_8.at1 (o := 0) (vs := [(vi x0.t6.a8)]) (nb rfl) rfl)) ?_
  refine a7 (o2 _ _ _ _ _ _) ?_
  refine j8 (fun c3i => ?_) (fun c3i => ?_)
  ·replace h := h.1 c3i
   refine a7 a1E ?_
   refine a7 a6x ?_
   refine d7 (ld1 Tryz.isAgg2 (I_8.at1 (o := 1) (vs := [(vi x0.t6.p5)]) (nb rfl) rfl)) ?_
   refine a7 (b6n _ _ _ _ _ _) ?_
   simp only [O5]
   refine a7 (Pu.g fun hb => by have i5 := hb; simp only [s8 i5]; exact (o2 _ _ _ _ _ _)) ?_
   refine a7 (N6 _ _) ?_
   exact hR ((decide (0 ≤ x0.t6.p5)) && (decide ((x0.t6.o9.n : Int) = 0))) H_6 _ I_8.drop h
  ·replace h := h.2 c3i
   have hj1 : ∀ (c1s : Bool) (H : Hp) (w : World) (_ : Inv w0 ps0 H0 H [bx g_2 136 (b8 x0.t6)] w) (_ : S1 (x0.t6.o9.n : Int) x0.t6.a8 c1s x0 H K), c6I (vi (x0.t6.o9.n : Int)) (vi x0.t6.a8) (vB c1s) w R E := by
    intro c1s H w I h
    unfold c6I
    intro _
    unfold S1 at h
    refine u0 (fun c3j => ?_) (fun c3j => ?_)
    ·replace h := h.1 c3j
     refine a7 (o2 _ _ _ _ _ _) ?_
     exact hR (decide ((x0.t6.o9.n : Int) = 0)) H _ I.drop h
    ·replace h := h.2 c3j
     have hj2 : ∀ (c1r : Bool) (H : Hp) (w : World) (_ : Inv w0 ps0 H0 H [bx g_2 136 (b8 x0.t6)] w) (_ : R9 (x0.t6.o9.n : Int) x0.t6.a8 c1r x0 H K), c6H (vi (x0.t6.o9.n : Int)) (vi x0.t6.a8) (vB c1r) w R E := by
      intro c1r H w I h
      unfold c6H
      intro _
      unfold R9 at h
      refine u0 (fun a6N => ?_) (fun a6N => ?_)
      ·replace h := h.1 a6N
       refine a7 (o2 _ _ _ _ _ _) ?_
       exact hR (decide ((x0.t6.o9.n : Int) = 1)) H _ I.drop h
      ·replace h := h.2 a6N
       have hj3 : ∀ (c1q : Bool) (H : Hp) (w : World) (_ : Inv w0 ps0 H0 H [bx g_2 136 (b8 x0.t6)] w) (_ : L3 (x0.t6.o9.n : Int) c1q x0 H K), c6G (vi (x0.t6.o9.n : Int)) (vB c1q) w R E := by
        intro c1q H w I h
        unfold c6G
        intro _
        unfold L3 at h
        refine u0 (fun a9z => ?_) (fun a9z => ?_)
        ·replace h := h.1 a9z
         refine a7 (o2 _ _ _ _ _ _) ?_
         exact hR (decide ((x0.t6.o9.n : Int) = 2)) H _ I.drop h
        ·replace h := h.2 a9z
         exact hR false H _ I.drop h
       refine A7 fun j3 hx3 => ?_
       refine a7 (o2 _ _ _ _ _ _) ?_
       refine j8 (fun b3T => ?_) (fun b3T => ?_)
       ·replace h := h.1 b3T
        exact hx3 _ _ (hj3 (decide (x0.t6.a8 = 6)) H _ I h)
       ·replace h := h.2 b3T
        refine a7 (o2 _ _ _ _ _ _) ?_
        refine j8 (fun a9A => ?_) (fun a9A => ?_)
        ·replace h := h.1 a9A
         exact hx3 _ _ (hj3 (decide (x0.t6.a8 = 7)) H _ I h)
        ·replace h := h.2 a9A
         refine a7 (o2 _ _ _ _ _ _) ?_
         refine j8 (fun a9y => ?_) (fun a9y => ?_)
         ·replace h := h.1 a9y
          exact hx3 _ _ (hj3 (decide (x0.t6.a8 = 8)) H _ I h)
         ·replace h := h.2 a9y
          refine a7 (o2 _ _ _ _ _ _) ?_
          refine j8 (fun b3U => ?_) (fun b3U => ?_)
          ·replace h := h.1 b3U
           exact hx3 _ _ (hj3 (decide (x0.t6.a8 = 9)) H _ I h)
          ·replace h := h.2 b3U
           refine a7 (o2 _ _ _ _ _ _) ?_
           exact hx3 _ _ (hj3 (decide (x0.t6.a8 = 10)) H _ I h)
     refine A7 fun j2 hx2 => ?_
     refine a7 (o2 _ _ _ _ _ _) ?_
     refine j8 (fun a9q => ?_) (fun a9q => ?_)
     ·replace h := h.1 a9q
      exact hx2 _ _ (hj2 (decide (x0.t6.a8 = 4)) H _ I h)
     ·replace h := h.2 a9q
      refine a7 (o2 _ _ _ _ _ _) ?_
      exact hx2 _ _ (hj2 (decide (x0.t6.a8 = 5)) H _ I h)
   refine A7 fun j1 hx1 => ?_
   refine a7 (o2 _ _ _ _ _ _) ?_
   refine j8 (fun e6q => ?_) (fun e6q => ?_)
   ·replace h := h.1 e6q
    exact hx1 _ _ (hj1 (decide (x0.t6.a8 = 2)) H_6 _ I_8 h)
   ·replace h := h.2 e6q
    refine a7 (o2 _ _ _ _ _ _) ?_
    exact hx1 _ _ (hj1 (decide (x0.t6.a8 = 3)) H_6 _ I_8 h)
theorem b4G (x0 : M0) {H : Hp} {K : Bool → Hp → Prop} (h : a2x x0 H K) : a4T x0 H K := by
 intro w I
 refine f1Q ?_
 refine b3X x0 I (fun r0 H' w' I' hk => ⟨H', _, I', r0, rfl, rfl, hk⟩) h
def a4t (x0 : b6) (H : Hp) (K : d9 → Hp → Prop) : Prop :=
 K (d9.K0 (M0.mk x0)) H
theorem b6C (x0 : b6) {K : d9 → Hp → Prop} (I : Inv w0 ps0 H0 H [] w) (hR : ∀ (r0 : d9) (H' : Hp) (w' : World) (_ : Inv w0 ps0 H0 H' [] w') (_ : K r0 H'), R (D1 r0) w') (h : a4t x0 H K) : d7w (Value.agg (b8 x0).toArray) w R E := by
 unfold a4t at h
 unfold d7w
 refine L9 I (cs := (b8 x0)) rfl fun g_2 w_3 I_4 k_5 => ?_
 refine d7 (ldA Tryz.isAgg53 Tryz.sizeOf53 rfl (I_4.at1 (o := 0) (vs := (b8 x0)) (nb rfl) rfl)) ?_
 refine a7 (b9j _ _ _ _ _ _) ?_
 refine a7 (b0J (M0.mk x0)) ?_
 exact hR (d9.K0 (M0.mk x0)) H _ I_4.drop h
theorem b8a (x0 : b6) {H : Hp} {K : d9 → Hp → Prop} (h : a4t x0 H K) : b0h x0 H K := by
 intro w I
 refine f1W ?_
 refine b6C x0 I (fun r0 H' w' I' hk => ⟨H', _, I', r0, rfl, rfl, hk⟩) h
def E9 (J8 : (List d9)) (H : Hp) (K : Sl → Hp → Prop) : Prop :=
 ∀ (u7 : Sl) (K2 : Hp), Hle H K2 → SlH K2 1 v6 u7 J8 → u7.n ≤ u7.c →
 K u7 K2
def F0 (N0 : Sl) (U1 : Int) (p7 : (List d9)) (o7 : Int) (H : Hp) (n2 : ((List d9) × Int) → Hp → Prop) (K : Sl → Hp → Prop) : Prop :=
 (o7 < U1 →
 (0 : Int) ≤ o7 ∧ (o7 : Int) < N0.n ∧ ∃ x_1 : b9, EltH H N0 o7 4 (d6 x_1) ∧
 b0i x_1 H (fun (C3 : d9) (O7 : Hp) =>
 (p7.length + ([C3] : List d9).length) * 17 ≤ 140737488355328 ∧
 n2 ((p7 ++ [C3]), (IntKind.wrap .i64 (o7 + 1))) O7)) ∧
 (¬ (o7 < U1) →
 E9 p7 H K)
def H9 (x0 : Sl) (H : Hp) (K : Sl → Hp → Prop) : Prop :=
 TL (([], 0) : (List d9) × Int) H fun (s : (List d9) × Int) H n2 => F0 x0 (x0.n : Int) s.1 s.2 H n2 K
theorem a2J (x0 : Sl) {K : Sl → Hp → Prop} (I : Inv w0 ps0 H0 H [] w) (hR : ∀ (r0 : Sl) (H' : Hp) (w' : World) (_ : Inv w0 ps0 H0 H' [] w') (_ : K r0 H'), R (vs r0) w') (h : H9 x0 H K) : d7A (vs x0) (fC 194) w R E := by
 unfold H9 at h
 unfold d7A
 have hj1 : ∀ (J8 : (List d9)) (u7 : Sl) (Fs5j1 : Frag) (H : Hp) (w : World) (_ : RowL 150 1 v6 u7 J8 Fs5j1) (_ : Inv w0 ps0 H0 H [Fs5j1] w) (_ : E9 J8 H K), c6M (vs u7) w R E := by
  intro J8 u7 Fs5j1 H w a5i I h
  unfold c6M
  intro _
  unfold E9 at h
  obtain ⟨K2, a5A, a6n, a1u, a3F⟩ := Inv.freezeC I a5i (by decide)
  replace h := h u7 K2 a6n a1u a3F
  exact hR u7 K2 _ a5A h
 refine A7 fun j1 hx1 => ?_
 refine a7 (a6u _ _ _) ?_
 obtain ⟨Z7, O6, a7P, a7Q⟩ := h
 refine M6 (J := fun n l w => ∃ (s : (List d9) × Int) (H : Hp) (J9 : Sl) (Fs5l2 : Frag) , n = O6 s ∧ l = (match s with | (p7, o7) => [(vs J9), (vi o7)]) ∧ (match s with | (p7, o7) => RowL 150 1 v6 J9 p7 Fs5l2) ∧ (match s with | (p7, o7) => Inv w0 ps0 H0 H [Fs5l2] w) ∧ Z7 s H) ⟨_, ([], 0), H, (Sl.mk none 0 0), [], rfl, rfl, (RowL.nil Q2 R5), I.nil, a7P⟩ ?_
 rintro b9O τ_50 w next2 ⟨⟨p7, o7⟩, H, J9, Fs5l2, rfl, Y0, S8, I, a7R⟩ hn2
 dsimp only at Y0 I S8
 simp only [List.map_cons, List.map_nil, List.cons.injEq, and_true] at Y0
 obtain ⟨e5, e10⟩ := Y0
 simp only [e5, e10]
 obtain ⟨n2, hm2, h⟩ : ∃ n2 : ((List d9) × Int) → Hp → Prop, (∀ s' H', n2 s' H' → Z7 s' H' ∧ O6 s' < O6 (p7, o7)) ∧ F0 x0 (x0.n : Int) p7 o7 H n2 K := ⟨_, fun _ _ h => h, a7Q (p7, o7) H (fun s' H' => Z7 s' H' ∧ O6 s' < O6 (p7, o7)) a7R (fun _ _ a b => ⟨a, b⟩)⟩
 unfold d5U
 unfold F0 at h
 refine a7 (D7 _ _ _ _ _ _) ?_
 refine j8 (fun V8 => ?_) (fun V8 => ?_)
 ·replace h := h.1 V8
  obtain ⟨h_4, h_5, x_1, h_7, h⟩ := h
  obtain ⟨g_2, o_3, h_6, h_7⟩ := h_7
  refine a7 (a0P h_6 _ _ _ _ h_4 h_5) ?_
  refine d7 (ldA (vs := (d6 x_1)) Tryz.isAgg59 Tryz.sizeOf59 rfl (I.atH h_7)) ?_
  refine y9 I Tryz.zeroValue59 (cs := [(vi 0), (vi 0), (nS), (nS)]) rfl fun g_9 q7 a0V b0j => ?_
  refine m7 a0V Tryz.sizeOf59 (vs := (d6 x_1)) (cs' := (d6 x_1)) rfl rfl (nb rfl) rfl rfl fun a0e O8 a3V => ?_
  refine d7 (ldA Tryz.isAgg59 Tryz.sizeOf59 rfl (O8.at1 (o := 0) (vs := (d6 x_1)) (nb rfl) rfl)) ?_
  refine d8 (cap := []) (fun args w => Tryz.call194 args w) ?_
  refine o0 (Fi := []) (Fr := [bx g_9 59 (d6 x_1), Fs5l2]) O8 (h) (fun b5C O7 b3D X8 a1v b5D b5E a5B => ?_) (fun _ _ _ _ _ q => q.elim)
  obtain ⟨C3, rfl, rfl, h⟩ := a5B
  refine a1s (e := 150) (c := v6) (xs := [C3]) a1v (b0K _) rfl rfl Q2 R5 (nb rfl) fun b2j b0k D8 a4I V9 a8E => ?_
  obtain ⟨a5C, h⟩ := h
  refine b6q (s := J9) (xs := p7) (V9.bring 2) S8 (a4I.srcO ((V9.bring 2).bring 1)) a5C fun a4o a7p B3 a3W a2p b0M => ?_
  refine a7 (L6 _ _ _ _ _ _) ?_
  exact hn2 _ _ _ (hm2 _ _ h).2 ⟨((p7 ++ [C3]), (IntKind.wrap .i64 (o7 + 1))), O7, a4o, a7p, rfl, rfl, a3W, ((a2p.bring 1).drop.bring 1).drop, (hm2 _ _ h).1⟩
 ·replace h := h.2 V8
  exact hx1 _ _ (hj1 p7 J9 Fs5l2 H _ S8 I h)
theorem a2W (x0 : Sl) {H : Hp} {K : Sl → Hp → Prop} (h : H9 x0 H K) : G7 x0 H K := by
 intro w I
 refine f2d ?_
 refine a2J x0 I (fun r0 H' w' I' hk => ⟨H', _, I', r0, rfl, rfl, hk⟩) h
end Go.Proofs.YtnhkdkcgdcgmdaaGreatDoor
