/- Typed formulas of the program's functions, and the theorems that the contracts follow from them; printed by lift.py off the code. -/
import Derived.Test.YtnhkdkcgdcgmdaaGreatDoorzUV1
namespace Go.Proofs.YtnhkdkcgdcgmdaaGreatDoor
open Go.RowKit
set_option maxRecDepth 100000
set_option maxHeartbeats 2000000
variable {w0 w : World} {ps0 : Nat → Prop} {H0 H : Hp} {R : RT} {E : Pan}
def a9S (x0 : Int) (x1 : Int) (x2 : Int) (H : Hp) (K : Bool → Hp → Prop) : Prop :=
 K ((decide (x0 ≤ x2)) && (decide (x2 ≤ x1))) H
theorem c1k (x0 : Int) (x1 : Int) (x2 : Int) (g2 : Nat) {K : Bool → Hp → Prop} (I : Inv w0 ps0 H0 H [bx g2 21 [(Value.int .i32 x2)]] w) (hR : ∀ (r0 : Bool) (H' : Hp) (w' : World) (_ : Inv w0 ps0 H0 H' [bx g2 21 [(Value.int .i32 x2)]] w') (_ : K r0 H'), R (vB r0) w') (h : a9S x0 x1 x2 H K) : e4h (Value.int .i32 x0) (Value.int .i32 x1) (Value.pointer (some ⟨g2, 0, none⟩)) w R E := by
 unfold a9S at h
 unfold e4h
 refine f2 (ld1 Tryz.isAgg21 (I.at1 (o := 0) (vs := [(Value.int .i32 x2)]) (nb rfl) rfl)) ?_
 refine a7 (b4a _ _ _ _ _ _) ?_
 refine f2 (Ld.g fun hb => by have d7 := hb; exact (ld1 Tryz.isAgg21 (I.at1 (o := 0) (vs := [(Value.int .i32 x2)]) (nb rfl) rfl))) ?_
 simp only [z2]
 refine a7 (Pu.g fun hb => by have d7 := hb; simp only [i6 d7]; exact (b4a _ _ _ _ _ _)) ?_
 refine a7 (w8 _ _) ?_
 exact hR ((decide (x0 ≤ x2)) && (decide (x2 ≤ x1))) H _ I h
theorem c1W (x0 : Int) (x1 : Int) (x2 : Int) {H : Hp} {K : Bool → Hp → Prop} (h : a9S x0 x1 x2 H K) : R8 x0 x1 x2 H K := by
 intro g2 w I
 refine g1z ?_
 refine c1k x0 x1 x2 g2 I (fun r0 H' w' I' hk => ⟨H', _, I', r0, rfl, rfl, hk⟩) h
def M2 (c7c : Bool) (b4G : Int) (H : Hp) (K : Int → Hp → Prop) : Prop :=
 (c7c = true →
 K 3 H) ∧
 (c7c = false →
 K 6 H)
def X8 (c7d : Bool) (S7 : Int) (H : Hp) (K : Int → Hp → Prop) : Prop :=
 (c7d = true →
 K 6 H) ∧
 (c7d = false →
 R8 48 57 S7 H (fun (E1 : Bool) (H_6 : Hp) =>
 (E1 = true →
 K 4 H_6) ∧
 (E1 = false →
 (S7 = 95 →
 M2 (decide (S7 = 95)) S7 H_6 K) ∧
 (¬ (S7 = 95) →
 R8 97 122 S7 H_6 (fun (I0 : Bool) (U1 : Hp) =>
 (I0 = true →
 M2 I0 S7 U1 K) ∧
 (I0 = false →
 R8 65 90 S7 U1 (fun (b2V : Bool) (c9t : Hp) =>
 (b2V = true →
 M2 b2V S7 c9t K) ∧
 (b2V = false →
 R8 192 591 S7 c9t (fun (b2W : Bool) (c5Y : Hp) =>
 (b2W = true →
 M2 b2W S7 c5Y K) ∧
 (b2W = false →
 R8 913 969 S7 c5Y (fun (P2 : Bool) (a6j : Hp) =>
 (P2 = true →
 M2 P2 S7 a6j K) ∧
 (P2 = false →
 R8 1040 1103 S7 a6j (fun (e5I : Bool) (f4C : Hp) =>
 M2 e5I S7 f4C K)))))))))))))
def t1 (c3M : Int) (c7e : Bool) (O0 : Int) (H : Hp) (K : Int → Hp → Prop) : Prop :=
 (c7e = true →
 K 5 H) ∧
 (c7e = false →
 (c3M = 215 →
 X8 (decide (c3M = 215)) O0 H K) ∧
 (¬ (c3M = 215) →
 (c3M = 247 →
 X8 (decide (c3M = 247)) O0 H K) ∧
 (¬ (c3M = 247) →
 X8 (decide (c3M = 930)) O0 H K)))
def X9 (v6 : Int) (a4y : Bool) (p9 : Int) (H : Hp) (K : Int → Hp → Prop) : Prop :=
 (a4y = true →
 K 1 H) ∧
 (a4y = false →
 (v6 = 10 →
 K 2 H) ∧
 (¬ (v6 = 10) →
 (v6 = 59 →
 t1 v6 (decide (v6 = 59)) p9 H K) ∧
 (¬ (v6 = 59) →
 (v6 = 44 →
 t1 v6 (decide (v6 = 44)) p9 H K) ∧
 (¬ (v6 = 44) →
 (v6 = 123 →
 t1 v6 (decide (v6 = 123)) p9 H K) ∧
 (¬ (v6 = 123) →
 (v6 = 125 →
 t1 v6 (decide (v6 = 125)) p9 H K) ∧
 (¬ (v6 = 125) →
 (v6 = 40 →
 t1 v6 (decide (v6 = 40)) p9 H K) ∧
 (¬ (v6 = 40) →
 (v6 = 41 →
 t1 v6 (decide (v6 = 41)) p9 H K) ∧
 (¬ (v6 = 41) →
 (v6 = 91 →
 t1 v6 (decide (v6 = 91)) p9 H K) ∧
 (¬ (v6 = 91) →
 (v6 = 93 →
 t1 v6 (decide (v6 = 93)) p9 H K) ∧
 (¬ (v6 = 93) →
 (v6 = 61 →
 t1 v6 (decide (v6 = 61)) p9 H K) ∧
 (¬ (v6 = 61) →
 (v6 = 33 →
 t1 v6 (decide (v6 = 33)) p9 H K) ∧
 (¬ (v6 = 33) →
 (v6 = 60 →
 t1 v6 (decide (v6 = 60)) p9 H K) ∧
 (¬ (v6 = 60) →
 (v6 = 62 →
 t1 v6 (decide (v6 = 62)) p9 H K) ∧
 (¬ (v6 = 62) →
 (v6 = 43 →
 t1 v6 (decide (v6 = 43)) p9 H K) ∧
 (¬ (v6 = 43) →
 (v6 = 45 →
 t1 v6 (decide (v6 = 45)) p9 H K) ∧
 (¬ (v6 = 45) →
 (v6 = 42 →
 t1 v6 (decide (v6 = 42)) p9 H K) ∧
 (¬ (v6 = 42) →
 (v6 = 47 →
 t1 v6 (decide (v6 = 47)) p9 H K) ∧
 (¬ (v6 = 47) →
 (v6 = 37 →
 t1 v6 (decide (v6 = 37)) p9 H K) ∧
 (¬ (v6 = 37) →
 (v6 = 38 →
 t1 v6 (decide (v6 = 38)) p9 H K) ∧
 (¬ (v6 = 38) →
 t1 v6 (decide (v6 = 124)) p9 H K))))))))))))))))))))
def a8o (x0 : Int) (H : Hp) (K : Int → Hp → Prop) : Prop :=
 (x0 = 32 →
 X9 x0 (decide (x0 = 32)) x0 H K) ∧
 (¬ (x0 = 32) →
 (x0 = 9 →
 X9 x0 (decide (x0 = 9)) x0 H K) ∧
 (¬ (x0 = 9) →
 X9 x0 (decide (x0 = 13)) x0 H K))
theorem c3N (x0 : Int) {K : Int → Hp → Prop} (I : Inv w0 ps0 H0 H [] w) (hR : ∀ (r0 : Int) (H' : Hp) (w' : World) (_ : Inv w0 ps0 H0 H' [] w') (_ : K r0 H'), R (vi r0) w') (h : a8o x0 H K) : e4e (Value.int .i32 x0) w R E := by
 unfold a8o at h
 unfold e4e
 refine K6 I (cs := [(Value.int .i32 x0)]) rfl fun g_2 w_3 I_4 k_5 => ?_
 refine f2 (ld1 Tryz.isAgg21 (I_4.at1 (o := 0) (vs := [(Value.int .i32 x0)]) (nb rfl) rfl)) ?_
 have hj1 : ∀ (a4y : Bool) (H : Hp) (w : World) (_ : Inv w0 ps0 H0 H [bx g_2 21 [(Value.int .i32 x0)]] w) (_ : X9 x0 a4y x0 H K), d3f (Value.pointer (some ⟨g_2, 0, none⟩)) (Value.int .i32 x0) (vB a4y) w R E := by
  intro a4y H w I h
  unfold d3f
  intro _
  unfold X9 at h
  refine o2 (fun f4D => ?_) (fun f4D => ?_)
  ·replace h := h.1 f4D
   exact hR 1 H _ I.drop h
  ·replace h := h.2 f4D
   refine a7 (k7 _ _ _ _ _ _) ?_
   refine k4 (fun f4E => ?_) (fun f4E => ?_)
   ·replace h := h.1 f4E
    exact hR 2 H _ I.drop h
   ·replace h := h.2 f4E
    have hj2 : ∀ (c7e : Bool) (H : Hp) (w : World) (_ : Inv w0 ps0 H0 H [bx g_2 21 [(Value.int .i32 x0)]] w) (_ : t1 x0 c7e x0 H K), d3e (Value.pointer (some ⟨g_2, 0, none⟩)) (Value.int .i32 x0) (vB c7e) w R E := by
     intro c7e H w I h
     unfold d3e
     intro _
     unfold t1 at h
     refine o2 (fun f4F => ?_) (fun f4F => ?_)
     ·replace h := h.1 f4F
      exact hR 5 H _ I.drop h
     ·replace h := h.2 f4F
      have hj3 : ∀ (c7d : Bool) (H : Hp) (w : World) (_ : Inv w0 ps0 H0 H [bx g_2 21 [(Value.int .i32 x0)]] w) (_ : X8 c7d x0 H K), d3d (Value.pointer (some ⟨g_2, 0, none⟩)) (vB c7d) w R E := by
       intro c7d H w I h
       unfold d3d
       intro _
       unfold X8 at h
       refine o2 (fun c9u => ?_) (fun c9u => ?_)
       ·replace h := h.1 c9u
        exact hR 6 H _ I.drop h
       ·replace h := h.2 c9u
        refine a7 (c8s _ _ _) ?_
        refine f7 (cap := [(Value.pointer (some ⟨g_2, 0, none⟩))]) (fun args w => Tryz.call170 args w) ?_
        refine k8 (Fi := [bx g_2 21 [(Value.int .i32 x0)]]) (Fr := []) I (h g_2) (fun b6Z H_6 b7a w_7 I_8 b7b k_9 a7c => ?_) (fun _ _ _ _ _ q => q.elim)
        obtain ⟨E1, rfl, rfl, h⟩ := a7c
        refine o2 (fun c9v => ?_) (fun c9v => ?_)
        ·replace h := h.1 c9v
         exact hR 4 H_6 _ I_8.drop h
        ·replace h := h.2 c9v
         have hj4 : ∀ (c7c : Bool) (H : Hp) (w : World) (_ : Inv w0 ps0 H0 H [bx g_2 21 [(Value.int .i32 x0)]] w) (_ : M2 c7c x0 H K), d3c (vB c7c) w R E := by
          intro c7c H w I h
          unfold d3c
          intro _
          unfold M2 at h
          refine o2 (fun b0w => ?_) (fun b0w => ?_)
          ·replace h := h.1 b0w
           exact hR 3 H _ I.drop h
          ·replace h := h.2 b0w
           exact hR 6 H _ I.drop h
         refine r9 fun j4 hx4 => ?_
         refine f2 (ld1 Tryz.isAgg21 (I_8.at1 (o := 0) (vs := [(Value.int .i32 x0)]) (nb rfl) rfl)) ?_
         refine a7 (k7 _ _ _ _ _ _) ?_
         refine k4 (fun c9a => ?_) (fun c9a => ?_)
         ·replace h := h.1 c9a
          exact hx4 _ _ (hj4 (decide (x0 = 95)) H_6 _ I_8 h)
         ·replace h := h.2 c9a
          refine f7 (cap := [(Value.pointer (some ⟨g_2, 0, none⟩))]) (fun args w => Tryz.call170 args w) ?_
          refine k8 (Fi := [bx g_2 21 [(Value.int .i32 x0)]]) (Fr := []) I_8 (h g_2) (fun c3a U1 c0X a0t a4X c3b c0Y b0o => ?_) (fun _ _ _ _ _ q => q.elim)
          obtain ⟨I0, rfl, rfl, h⟩ := b0o
          refine o2 (fun c9p => ?_) (fun c9p => ?_)
          ·replace h := h.1 c9p
           exact hx4 _ _ (hj4 I0 U1 _ a4X h)
          ·replace h := h.2 c9p
           refine f7 (cap := [(Value.pointer (some ⟨g_2, 0, none⟩))]) (fun args w => Tryz.call170 args w) ?_
           refine k8 (Fi := [bx g_2 21 [(Value.int .i32 x0)]]) (Fr := []) a4X (h g_2) (fun j3s c9t j3t y8 b4H j3u f4G f4H => ?_) (fun _ _ _ _ _ q => q.elim)
           obtain ⟨b2V, rfl, rfl, h⟩ := f4H
           refine o2 (fun c9w => ?_) (fun c9w => ?_)
           ·replace h := h.1 c9w
            exact hx4 _ _ (hj4 b2V c9t _ b4H h)
           ·replace h := h.2 c9w
            refine f7 (cap := [(Value.pointer (some ⟨g_2, 0, none⟩))]) (fun args w => Tryz.call170 args w) ?_
            refine k8 (Fi := [bx g_2 21 [(Value.int .i32 x0)]]) (Fr := []) b4H (h g_2) (fun j3v c5Y j3w b6Q a6L b0n b8K f4I => ?_) (fun _ _ _ _ _ q => q.elim)
            obtain ⟨b2W, rfl, rfl, h⟩ := f4I
            refine o2 (fun c9x => ?_) (fun c9x => ?_)
            ·replace h := h.1 c9x
             exact hx4 _ _ (hj4 b2W c5Y _ a6L h)
            ·replace h := h.2 c9x
             refine f7 (cap := [(Value.pointer (some ⟨g_2, 0, none⟩))]) (fun args w => Tryz.call170 args w) ?_
             refine k8 (Fi := [bx g_2 21 [(Value.int .i32 x0)]]) (Fr := []) a6L (h g_2) (fun e5A a6j e5B D8 b1A e5C d7V c3E => ?_) (fun _ _ _ _ _ q => q.elim)
             obtain ⟨P2, rfl, rfl, h⟩ := c3E
             refine o2 (fun f4J => ?_) (fun f4J => ?_)
             ·replace h := h.1 f4J
              exact hx4 _ _ (hj4 P2 a6j _ b1A h)
             ·replace h := h.2 f4J
              refine f7 (cap := [(Value.pointer (some ⟨g_2, 0, none⟩))]) (fun args w => Tryz.call170 args w) ?_
              refine k8 (Fi := [bx g_2 21 [(Value.int .i32 x0)]]) (Fr := []) b1A (h g_2) (fun k0v f4C k0w b3a j3x h5c k0x j3y => ?_) (fun _ _ _ _ _ q => q.elim)
              obtain ⟨e5I, rfl, rfl, h⟩ := j3y
              exact hx4 _ _ (hj4 e5I f4C _ j3x h)
      refine r9 fun j3 hx3 => ?_
      refine a7 (k7 _ _ _ _ _ _) ?_
      refine k4 (fun c9i => ?_) (fun c9i => ?_)
      ·replace h := h.1 c9i
       exact hx3 _ _ (hj3 (decide (x0 = 215)) H _ I h)
      ·replace h := h.2 c9i
       refine a7 (k7 _ _ _ _ _ _) ?_
       refine k4 (fun c8P => ?_) (fun c8P => ?_)
       ·replace h := h.1 c8P
        exact hx3 _ _ (hj3 (decide (x0 = 247)) H _ I h)
       ·replace h := h.2 c8P
        refine a7 (k7 _ _ _ _ _ _) ?_
        exact hx3 _ _ (hj3 (decide (x0 = 930)) H _ I h)
    refine r9 fun j2 hx2 => ?_
    refine a7 (k7 _ _ _ _ _ _) ?_
    refine k4 (fun f4K => ?_) (fun f4K => ?_)
    ·replace h := h.1 f4K
     exact hx2 _ _ (hj2 (decide (x0 = 59)) H _ I h)
    ·replace h := h.2 f4K
     refine a7 (k7 _ _ _ _ _ _) ?_
     refine k4 (fun b8J => ?_) (fun b8J => ?_)
     ·replace h := h.1 b8J
      exact hx2 _ _ (hj2 (decide (x0 = 44)) H _ I h)
     ·replace h := h.2 b8J
      refine a7 (k7 _ _ _ _ _ _) ?_
      refine k4 (fun b8V => ?_) (fun b8V => ?_)
      ·replace h := h.1 b8V
       exact hx2 _ _ (hj2 (decide (x0 = 123)) H _ I h)
      ·replace h := h.2 b8V
       refine a7 (k7 _ _ _ _ _ _) ?_
       refine k4 (fun f4L => ?_) (fun f4L => ?_)
       ·replace h := h.1 f4L
        exact hx2 _ _ (hj2 (decide (x0 = 125)) H _ I h)
       ·replace h := h.2 f4L
        refine a7 (k7 _ _ _ _ _ _) ?_
        refine k4 (fun f4M => ?_) (fun f4M => ?_)
        ·replace h := h.1 f4M
         exact hx2 _ _ (hj2 (decide (x0 = 40)) H _ I h)
        ·replace h := h.2 f4M
         refine a7 (k7 _ _ _ _ _ _) ?_
         refine k4 (fun f4N => ?_) (fun f4N => ?_)
         ·replace h := h.1 f4N
          exact hx2 _ _ (hj2 (decide (x0 = 41)) H _ I h)
         ·replace h := h.2 f4N
          refine a7 (k7 _ _ _ _ _ _) ?_
          refine k4 (fun f4O => ?_) (fun f4O => ?_)
          ·replace h := h.1 f4O
           exact hx2 _ _ (hj2 (decide (x0 = 91)) H _ I h)
          ·replace h := h.2 f4O
           refine a7 (k7 _ _ _ _ _ _) ?_
           refine k4 (fun b8Y => ?_) (fun b8Y => ?_)
           ·replace h := h.1 b8Y
            exact hx2 _ _ (hj2 (decide (x0 = 93)) H _ I h)
           ·replace h := h.2 b8Y
            refine a7 (k7 _ _ _ _ _ _) ?_
            refine k4 (fun c9y => ?_) (fun c9y => ?_)
            ·replace h := h.1 c9y
             exact hx2 _ _ (hj2 (decide (x0 = 61)) H _ I h)
            ·replace h := h.2 c9y
             refine a7 (k7 _ _ _ _ _ _) ?_
             refine k4 (fun c9z => ?_) (fun c9z => ?_)
             ·replace h := h.1 c9z
              exact hx2 _ _ (hj2 (decide (x0 = 33)) H _ I h)
             ·replace h := h.2 c9z
              refine a7 (k7 _ _ _ _ _ _) ?_
              refine k4 (fun c9A => ?_) (fun c9A => ?_)
              ·replace h := h.1 c9A
               exact hx2 _ _ (hj2 (decide (x0 = 60)) H _ I h)
              ·replace h := h.2 c9A
               refine a7 (k7 _ _ _ _ _ _) ?_
               refine k4 (fun c9B => ?_) (fun c9B => ?_)
               ·replace h := h.1 c9B
                exact hx2 _ _ (hj2 (decide (x0 = 62)) H _ I h)
               ·replace h := h.2 c9B
                refine a7 (k7 _ _ _ _ _ _) ?_
                refine k4 (fun b8O => ?_) (fun b8O => ?_)
                ·replace h := h.1 b8O
                 exact hx2 _ _ (hj2 (decide (x0 = 43)) H _ I h)
                ·replace h := h.2 b8O
                 refine a7 (k7 _ _ _ _ _ _) ?_
                 refine k4 (fun b9c => ?_) (fun b9c => ?_)
                 ·replace h := h.1 b9c
                  exact hx2 _ _ (hj2 (decide (x0 = 45)) H _ I h)
                 ·replace h := h.2 b9c
                  refine a7 (k7 _ _ _ _ _ _) ?_
                  refine k4 (fun b0u => ?_) (fun b0u => ?_)
                  ·replace h := h.1 b0u
                   exact hx2 _ _ (hj2 (decide (x0 = 42)) H _ I h)
                  ·replace h := h.2 b0u
                   refine a7 (k7 _ _ _ _ _ _) ?_
                   refine k4 (fun b9n => ?_) (fun b9n => ?_)
                   ·replace h := h.1 b9n
                    exact hx2 _ _ (hj2 (decide (x0 = 47)) H _ I h)
                   ·replace h := h.2 b9n
                    refine a7 (k7 _ _ _ _ _ _) ?_
                    refine k4 (fun a8d => ?_) (fun a8d => ?_)
                    ·replace h := h.1 a8d
                     exact hx2 _ _ (hj2 (decide (x0 = 37)) H _ I h)
                    ·replace h := h.2 a8d
                     refine a7 (k7 _ _ _ _ _ _) ?_
                     refine k4 (fun b9d => ?_) (fun b9d => ?_)
                     ·replace h := h.1 b9d
                      exact hx2 _ _ (hj2 (decide (x0 = 38)) H _ I h)
                     ·replace h := h.2 b9d
                      refine a7 (k7 _ _ _ _ _ _) ?_
                      exact hx2 _ _ (hj2 (decide (x0 = 124)) H _ I h)
 refine r9 fun j1 hx1 => ?_
 refine a7 (k7 _ _ _ _ _ _) ?_
 refine k4 (fun f4P => ?_) (fun f4P => ?_)
 ·replace h := h.1 f4P
  exact hx1 _ _ (hj1 (decide (x0 = 32)) H _ I_4 h)
 ·replace h := h.2 f4P
  refine a7 (k7 _ _ _ _ _ _) ?_
  refine k4 (fun f4Q => ?_) (fun f4Q => ?_)
  ·replace h := h.1 f4Q
   exact hx1 _ _ (hj1 (decide (x0 = 9)) H _ I_4 h)
  ·replace h := h.2 f4Q
   refine a7 (k7 _ _ _ _ _ _) ?_
   exact hx1 _ _ (hj1 (decide (x0 = 13)) H _ I_4 h)
theorem c4D (x0 : Int) {H : Hp} {K : Int → Hp → Prop} (h : a8o x0 H K) : a8j x0 H K := by
 intro w I
 refine g1t ?_
 refine c3N x0 I (fun r0 H' w' I' hk => ⟨H', _, I', r0, rfl, rfl, hk⟩) h
def a9E (x0 : ByteArray) (H : Hp) (K : Bool → Hp → Prop) : Prop :=
 a4d x0 H (fun (J8 : Int) (H_1 : Hp) =>
 K (decide (32 < J8)) H_1)
theorem c5Z (x0 : ByteArray) {K : Bool → Hp → Prop} (I : Inv w0 ps0 H0 H [] w) (hR : ∀ (r0 : Bool) (H' : Hp) (w' : World) (_ : Inv w0 ps0 H0 H' [] w') (_ : K r0 H'), R (vB r0) w') (h : a9E x0 H K) : e4b (Value.string x0) w R E := by
 unfold a9E at h
 unfold e4b
 refine f7 (cap := []) (fun args w => Tryz.call169 args w) ?_
 refine k8 (Fi := []) (Fr := []) I (h) (fun v_5 H_1 F_6 w_2 I_3 l_8 k_4 q_7 => ?_) (fun _ _ _ _ _ q => q.elim)
 obtain ⟨J8, rfl, rfl, h⟩ := q_7
 refine a7 (a7Q _ _ _ _ _ _) ?_
 exact hR (decide (32 < J8)) H_1 _ I_3 h
theorem c8f (x0 : ByteArray) {H : Hp} {K : Bool → Hp → Prop} (h : a9E x0 H K) : a9w x0 H K := by
 intro w I
 refine g1n ?_
 refine c5Z x0 I (fun r0 H' w' I' hk => ⟨H', _, I', r0, rfl, rfl, hk⟩) h
def a1y (H : Hp) (K : Int → Hp → Prop) : Prop :=
 K (-1) H
def a1z (i6S : (List ByteArray)) (a9R : ByteArray) (b1a : Int) (a0u : Int) (H : Hp) (n2 : Int → Hp → Prop) (K : Int → Hp → Prop) : Prop :=
 (a0u < b1a →
 (0 : Int) ≤ a0u ∧ ∃ x_1 : ByteArray, (i6S)[(a0u : Int).toNat]? = some x_1 ∧
 (a9R = x_1 →
 K a0u H) ∧
 (¬ (a9R = x_1) →
 n2 (IntKind.wrap .i64 (a0u + 1)) H)) ∧
 (¬ (a0u < b1a) →
 a1y H K)
def a3j (x0 : (List ByteArray)) (x1 : ByteArray) (H : Hp) (K : Int → Hp → Prop) : Prop :=
 TL (0 : Int) H fun (s : Int) H n2 => a1z x0 x1 (x0.length : Int) s H n2 K
theorem b5h (x0 : (List ByteArray)) (x1 : ByteArray) (sx0 : Sl) (Fx0 : Frag) (hx0 : RowL 9 1 O8 sx0 x0 Fx0) {K : Int → Hp → Prop} (I : Inv w0 ps0 H0 H [Fx0] w) (hR : ∀ (r0 : Int) (H' : Hp) (w' : World) (_ : Inv w0 ps0 H0 H' [Fx0] w') (_ : K r0 H'), R (vi r0) w') (h : a3j x0 x1 H K) : e4f (vs sx0) (Value.string x1) w R E := by
 unfold a3j at h
 unfold e4f
 have hj1 : ∀ (H : Hp) (w : World) (_ : Inv w0 ps0 H0 H [Fx0] w) (_ : a1y H K), d3g w R E := by
  intro H w I h
  unfold d3g
  intro _
  unfold a1y at h
  exact hR (-1) H _ I h
 refine r9 fun j1 hx1 => ?_
 refine a7 (e3C Tryz.underlying88 hx0) ?_
 obtain ⟨f4R, d8P, j3z, j3A⟩ := h
 refine A7 (J := fun n l w => ∃ (s : Int) (H : Hp) , n = d8P s ∧ l = [(vi s)] ∧ Inv w0 ps0 H0 H [Fx0] w ∧ f4R s H) ⟨_, 0, H, rfl, rfl, I, j3z⟩ ?_
 rintro k0y τ_15 w next2 ⟨a0u, H, rfl, f4S, I, j3B⟩ hn2
 simp only [List.map_cons, List.map_nil, List.cons.injEq, and_true] at f4S
 have e8 := f4S
 simp only [e8]
 obtain ⟨n2, hm2, h⟩ : ∃ n2 : Int → Hp → Prop, (∀ s' H', n2 s' H' → f4R s' H' ∧ d8P s' < d8P a0u) ∧ a1z x0 x1 (x0.length : Int) a0u H n2 K := ⟨_, fun _ _ h => h, j3A a0u H (fun s' H' => f4R s' H' ∧ d8P s' < d8P a0u) j3B (fun _ _ a b => ⟨a, b⟩)⟩
 unfold e2A
 unfold a1z at h
 refine a7 (v7 _ _ _ _ _ _) ?_
 refine k4 (fun c_9 => ?_) (fun c_9 => ?_)
 ·replace h := h.1 c_9
  obtain ⟨h_3, x_1, h_4, h⟩ := h
  obtain ⟨g_2, a_6, h_5, h_7⟩ := hx0.addr h_4
  refine a7 (f3m h_5 _ _ _ _ h_3 (hx0.lt h_3 h_4)) ?_
  refine f2 (ld1 (v := (Value.string x_1)) Tryz.isAgg9 (hx0.atW I h_5 h_4)) ?_
  refine a7 (W6 _ _ _ _ _) ?_
  refine k4 (fun c_8 => ?_) (fun c_8 => ?_)
  ·replace h := h.1 c_8
   exact hR a0u H _ I h
  ·replace h := h.2 c_8
   refine a7 (u7 _ _ _ _ _ _) ?_
   exact hn2 _ _ _ (hm2 _ _ h).2 ⟨(IntKind.wrap .i64 (a0u + 1)), H, rfl, rfl, I, (hm2 _ _ h).1⟩
 ·replace h := h.2 c_9
  exact hx1 _ _ (hj1 H _ I h)
theorem b5Q (x0 : (List ByteArray)) (x1 : ByteArray) {H : Hp} {K : Int → Hp → Prop} (h : a3j x0 x1 H K) : a5V x0 x1 H K := by
 intro sx0 Fx0 hx0 w I
 refine g1v ?_
 refine b5h x0 x1 sx0 Fx0 hx0 I (fun r0 H' w' I' hk => ⟨H', _, I', r0, rfl, rfl, hk⟩) h
def M8 (h4B : Sl) (d3B : Int) (k0z : Sl) (j6G : Int) (i6T : Int) (H : Hp) (n4 : (Int × Int) → Hp → Prop) (K : Sl → Hp → Prop) : Prop :=
 n4 (d3B, (IntKind.wrap .i64 (i6T + 1))) H
def M9 (d1n : (List g8)) (H : Hp) (K : Sl → Hp → Prop) : Prop :=
 ∀ (b6k : Sl) (c3K : Hp), Hle H c3K → SlH c3K 1 v8 b6k d1n → b6k.n ≤ b6k.c →
 K b6k c3K
def N0 (f8a : Sl) (f8b : Int) (b0x : (List g8)) (a9F : Int) (H : Hp) (n3 : ((List g8) × Int) → Hp → Prop) (K : Sl → Hp → Prop) : Prop :=
 (a9F < f8b →
 (0 : Int) ≤ a9F ∧ (a9F : Int) < f8a.n ∧ ∃ e5J : Sl, EltH H f8a a9F 1 [(vs e5J)] ∧
 ∃ d1o : List g8, SlH H 1 v8 e5J d1o ∧ (b0x.length + d1o.length) * 17 ≤ 140737488355328 ∧
 n3 ((b0x ++ d1o), (IntKind.wrap .i64 (a9F + 1))) H) ∧
 (¬ (a9F < f8b) →
 M9 b0x H K)
def N1 (d3C : Sl) (a4z : Int) (H : Hp) (K : Sl → Hp → Prop) : Prop :=
 a0v a4z H (fun (e5K : (List g8)) (H_9 : Hp) =>
 TL ((e5K, 0) : (List g8) × Int) H_9 fun (s : (List g8) × Int) H n3 => N0 d3C (d3C.n : Int) s.1 s.2 H n3 K)
def N2 (h5d : Sl) (a2q : Sl) (e5L : Int) (a6m : Int) (a8S : Int) (H : Hp) (n4 : (Int × Int) → Hp → Prop) (K : Sl → Hp → Prop) : Prop :=
 (a8S < e5L →
 (0 : Int) ≤ a8S ∧ (a8S : Int) < a2q.n ∧ ∃ x_1 : Sl, EltH H a2q a8S 1 [(vs x_1)] ∧
 ((IntKind.wrap .i64 (a6m + (x_1.n : Int))) < 0 →
 False) ∧
 (¬ ((IntKind.wrap .i64 (a6m + (x_1.n : Int))) < 0) →
 M8 h5d (IntKind.wrap .i64 (a6m + (x_1.n : Int))) a2q e5L a8S H n4 K)) ∧
 (¬ (a8S < e5L) →
 N1 h5d a6m H K)
def O5 (x0 : Sl) (H : Hp) (K : Sl → Hp → Prop) : Prop :=
 TL ((0, 0) : Int × Int) H fun (s : Int × Int) H n4 => N2 x0 x0 (x0.n : Int) s.1 s.2 H n4 K
theorem a7A (x0 : Sl) {K : Sl → Hp → Prop} (I : Inv w0 ps0 H0 H [] w) (hR : ∀ (r0 : Sl) (H' : Hp) (w' : World) (_ : Inv w0 ps0 H0 H' [] w') (_ : K r0 H'), R (vs r0) w') (h : O5 x0 H K) : F75 (vs x0) w R E := by
 unfold O5 at h
 unfold F75
 have hj1 : ∀ (a4z : Int) (H : Hp) (w : World) (_ : Inv w0 ps0 H0 H [] w) (_ : N1 x0 a4z H K), d7a (vs x0) (vi a4z) w R E := by
  intro a4z H w I h
  unfold d7a
  intro _
  unfold N1 at h
  refine f7 (cap := []) (fun args w => Tryz.call119 args w) ?_
  refine k8 (Fi := []) (Fr := []) I (h) (fun k0A H_9 k0B o9 a3G f4S b3h j3C => ?_) (fun _ _ _ _ _ q => q.elim)
  obtain ⟨e5K, h5e, h5f, rfl, rfl, h5g, h⟩ := j3C
  have hj2 : ∀ (d1n : (List g8)) (b6k : Sl) (Fs6j2 : Frag) (H : Hp) (w : World) (_ : RowL 150 1 v8 b6k d1n Fs6j2) (_ : Inv w0 ps0 H0 H [Fs6j2] w) (_ : M9 d1n H K), d6X (vs b6k) w R E := by
   intro d1n b6k Fs6j2 H w i6U I h
   unfold d6X
   intro _
   unfold M9 at h
   obtain ⟨c3K, a6L, j3D, b0p, j3E⟩ := Inv.freezeC I i6U (by decide)
   replace h := h b6k c3K j3D b0p j3E
   exact hR b6k c3K _ a6L h
  refine r9 fun j2 hx2 => ?_
  refine a7 (d0t _ _ _) ?_
  obtain ⟨f4T, d8Q, j3F, j3G⟩ := h
  refine A7 (J := fun n l w => ∃ (s : (List g8) × Int) (H : Hp) (d1p : Sl) (Fs6l3 : Frag) , n = d8Q s ∧ l = (match s with | (b0x, a9F) => [(vs d1p), (vi a9F)]) ∧ (match s with | (b0x, a9F) => RowL 150 1 v8 d1p b0x Fs6l3) ∧ (match s with | (b0x, a9F) => Inv w0 ps0 H0 H [Fs6l3] w) ∧ f4T s H) ⟨_, (e5K, 0), H_9, h5e, h5f, rfl, rfl, h5g, a3G, j3F⟩ ?_
  rintro k0C τ_46 w next3 ⟨⟨b0x, a9F⟩, H, d1p, Fs6l3, rfl, f4U, e5M, I, j3H⟩ hn3
  dsimp only at f4U I e5M
  simp only [List.map_cons, List.map_nil, List.cons.injEq, and_true] at f4U
  obtain ⟨e6, e27⟩ := f4U
  simp only [e6, e27]
  obtain ⟨n3, hm3, h⟩ : ∃ n3 : ((List g8) × Int) → Hp → Prop, (∀ s' H', n3 s' H' → f4T s' H' ∧ d8Q s' < d8Q (b0x, a9F)) ∧ N0 x0 (x0.n : Int) b0x a9F H n3 K := ⟨_, fun _ _ h => h, j3G (b0x, a9F) H (fun s' H' => f4T s' H' ∧ d8Q s' < d8Q (b0x, a9F)) j3H (fun _ _ a b => ⟨a, b⟩)⟩
  unfold f0y
  unfold N0 at h
  refine a7 (v7 _ _ _ _ _ _) ?_
  refine k4 (fun f4V => ?_) (fun f4V => ?_)
  ·replace h := h.1 f4V
   obtain ⟨f4W, b9o, e5J, b5R, h⟩ := h
   obtain ⟨h4N, k0D, c3O, b5R⟩ := b5R
   refine a7 (d4f c3O _ _ _ _ f4W b9o) ?_
   refine f2 (ld1 (v := (vs e5J)) Tryz.isAgg137 (I.atH b5R)) ?_
   obtain ⟨d1o, j3I, h⟩ := h
   obtain ⟨j3J, h⟩ := h
   refine c1F (s := d1p) (xs := b0x) I e5M (SlH.src I j3I T5) j3J fun c0Z b4v B0 a8c X3 a9P => ?_
   refine a7 (u7 _ _ _ _ _ _) ?_
   exact hn3 _ _ _ (hm3 _ _ h).2 ⟨((b0x ++ d1o), (IntKind.wrap .i64 (a9F + 1))), H, c0Z, b4v, rfl, rfl, a8c, X3, (hm3 _ _ h).1⟩
  ·replace h := h.2 f4V
   exact hx2 _ _ (hj2 b0x d1p Fs6l3 H _ e5M I h)
 refine r9 fun j1 hx1 => ?_
 refine a7 (d0t _ _ _) ?_
 obtain ⟨f4X, d8R, j3K, j3L⟩ := h
 refine A7 (J := fun n l w => ∃ (s : Int × Int) (H : Hp) , n = d8R s ∧ l = (match s with | (a6m, a8S) => [(vi a6m), (vi a8S)]) ∧ (match s with | (a6m, a8S) => Inv w0 ps0 H0 H [] w) ∧ f4X s H) ⟨_, (0, 0), H, rfl, rfl, I, j3K⟩ ?_
 rintro k0E τ_55 w next4 ⟨⟨a6m, a8S⟩, H, rfl, e5N, I, j3M⟩ hn4
 dsimp only at e5N I
 simp only [List.map_cons, List.map_nil, List.cons.injEq, and_true] at e5N
 obtain ⟨e3, e11⟩ := e5N
 simp only [e3, e11]
 obtain ⟨n4, hm4, h⟩ : ∃ n4 : (Int × Int) → Hp → Prop, (∀ s' H', n4 s' H' → f4X s' H' ∧ d8R s' < d8R (a6m, a8S)) ∧ N2 x0 x0 (x0.n : Int) a6m a8S H n4 K := ⟨_, fun _ _ h => h, j3L (a6m, a8S) H (fun s' H' => f4X s' H' ∧ d8R s' < d8R (a6m, a8S)) j3M (fun _ _ a b => ⟨a, b⟩)⟩
 unfold f0z
 unfold N2 at h
 refine a7 (v7 _ _ _ _ _ _) ?_
 refine k4 (fun c9C => ?_) (fun c9C => ?_)
 ·replace h := h.1 c9C
  have hj5 : ∀ (d3B : Int) (H : Hp) (w : World) (_ : Inv w0 ps0 H0 H [] w) (_ : M8 x0 d3B x0 (x0.n : Int) a8S H n4 K), d7b (vs x0) (vi d3B) (vs x0) (vi (x0.n : Int)) (vi a8S) w next4 R E := by
   intro d3B H w I h
   unfold d7b
   intro _
   unfold M8 at h
   refine a7 (u7 _ _ _ _ _ _) ?_
   exact hn4 _ _ _ (hm4 _ _ h).2 ⟨(d3B, (IntKind.wrap .i64 (a8S + 1))), H, rfl, rfl, I, (hm4 _ _ h).1⟩
  refine r9 fun j5 hx5 => ?_
  obtain ⟨h_4, h_5, x_1, h_7, h⟩ := h
  obtain ⟨g_2, o_3, h_6, h_7⟩ := h_7
  refine a7 (d4f h_6 _ _ _ _ h_4 h_5) ?_
  refine f2 (ld1 (v := (vs x_1)) Tryz.isAgg137 (I.atH h_7)) ?_
  refine a7 (b7v _ _ _) ?_
  refine a7 (u7 _ _ _ _ _ _) ?_
  refine a7 (v7 _ _ _ _ _ _) ?_
  refine k4 (fun c_8 => ?_) (fun c_8 => ?_)
  ·replace h := h.1 c_8
   refine a7 (e9X _) ?_
   exact h.elim
  ·replace h := h.2 c_8
   exact hx5 _ _ (hj5 (IntKind.wrap .i64 (a6m + (x_1.n : Int))) H _ I h)
 ·replace h := h.2 c9C
  exact hx1 _ _ (hj1 a6m H _ I h)
theorem a7O (x0 : Sl) {H : Hp} {K : Sl → Hp → Prop} (h : O5 x0 H K) : J5 x0 H K := by
 intro w I
 refine g9A ?_
 refine a7A x0 I (fun r0 H' w' I' hk => ⟨H', _, I', r0, rfl, rfl, hk⟩) h
def a2C (x0 : d5) (x1 : Int) (H : Hp) (K : Bool → d5 → Hp → Prop) : Prop :=
 (¬ (x0.fbad = 0) →
 K false x0 H) ∧
 (x0.fbad = 0 →
 (x0.fn = 4096 →
 K false (d5.mk x0.fn x0.fdepth 33) H) ∧
 (¬ (x0.fn = 4096) →
 (64 < x1 →
 K false (d5.mk x0.fn x0.fdepth 32) H) ∧
 (¬ (64 < x1) →
 K true (d5.mk (IntKind.wrap .i64 (x0.fn + 1)) (if x1 > x0.fdepth then x1 else x0.fdepth) x0.fbad) H)))
theorem b4I (x0 : d5) (x1 : Int) (g0 : Nat) {K : Bool → d5 → Hp → Prop} (I : Inv w0 ps0 H0 H [bx g0 108 (i7 x0)] w) (hR : ∀ (r0 : Bool) (y0 : d5) (H' : Hp) (w' : World) (_ : Inv w0 ps0 H0 H' [bx g0 108 (i7 y0)] w') (_ : K r0 y0 H'), R (vB r0) w') (h : a2C x0 x1 H K) : F84 (Value.pointer (some ⟨g0, 0, none⟩)) (vi x1) w R E := by
 unfold a2C at h
 unfold F84
 refine a7 (w7 _) ?_
 refine a7 a0k ?_
 refine f2 (ld1 Tryz.isAgg3 (I.at1 (o := 2) (vs := [(vi x0.fbad)]) (nb rfl) rfl)) ?_
 refine a7 (P9 _ _ _ _ _ _) ?_
 refine a5o (fun b0w => ?_) (fun b0w => ?_)
 ·replace h := h.1 b0w
  exact hR false x0 H _ I h
 ·replace h := h.2 b0w
  refine a7 (w7 _) ?_
  refine a7 c0N ?_
  refine f2 (ld1 Tryz.isAgg3 (I.at1 (o := 0) (vs := [(vi x0.fn)]) (nb rfl) rfl)) ?_
  refine a7 (k7 _ _ _ _ _ _) ?_
  refine k4 (fun b9j => ?_) (fun b9j => ?_)
  ·replace h := h.1 b9j
   refine a7 (w7 _) ?_
   refine a7 a0k ?_
   refine m5 I Tryz.sizeOf3 (vs := [(vi 33)]) (cs' := [(vi x0.fn), (vi x0.fdepth), (vi 33)]) rfl rfl (nb rfl) rfl rfl fun w_1 I_2 k_3 => ?_
   exact hR false (d5.mk x0.fn x0.fdepth 33) H _ I_2 h
  ·replace h := h.2 b9j
   refine a7 (a7Q _ _ _ _ _ _) ?_
   refine k4 (fun c9D => ?_) (fun c9D => ?_)
   ·replace h := h.1 c9D
    refine a7 (w7 _) ?_
    refine a7 a0k ?_
    refine m5 I Tryz.sizeOf3 (vs := [(vi 32)]) (cs' := [(vi x0.fn), (vi x0.fdepth), (vi 32)]) rfl rfl (nb rfl) rfl rfl fun w_4 I_5 k_6 => ?_
    exact hR false (d5.mk x0.fn x0.fdepth 32) H _ I_5 h
   ·replace h := h.2 c9D
    refine a7 (w7 _) ?_
    refine a7 c0N ?_
    refine f2 (ld1 Tryz.isAgg3 (I.at1 (o := 0) (vs := [(vi x0.fn)]) (nb rfl) rfl)) ?_
    refine a7 (u7 _ _ _ _ _ _) ?_
    refine a7 (w7 _) ?_
    refine a7 c0N ?_
    refine m5 I Tryz.sizeOf3 (vs := [(vi (IntKind.wrap .i64 (x0.fn + 1)))]) (cs' := [(vi (IntKind.wrap .i64 (x0.fn + 1))), (vi x0.fdepth), (vi x0.fbad)]) rfl rfl (nb rfl) rfl rfl fun w_7 I_8 k_9 => ?_
    refine a7 (w7 _) ?_
    refine a7 c8v ?_
    refine f2 (ld1 Tryz.isAgg3 (I_8.at1 (o := 1) (vs := [(vi x0.fdepth)]) (nb rfl) rfl)) ?_
    refine a7 (e9Q _ _ _ _ _) ?_
    refine a7 (w7 _) ?_
    refine a7 c8v ?_
    refine m5 I_8 Tryz.sizeOf3 (vs := [(vi (if x1 > x0.fdepth then x1 else x0.fdepth))]) (cs' := [(vi (IntKind.wrap .i64 (x0.fn + 1))), (vi (if x1 > x0.fdepth then x1 else x0.fdepth)), (vi x0.fbad)]) rfl rfl (nb rfl) rfl rfl fun o9 a3G b3h => ?_
    exact hR true (d5.mk (IntKind.wrap .i64 (x0.fn + 1)) (if x1 > x0.fdepth then x1 else x0.fdepth) x0.fbad) H _ a3G h
theorem b5i (x0 : d5) (x1 : Int) {H : Hp} {K : Bool → d5 → Hp → Prop} (h : a2C x0 x1 H K) : S8 x0 x1 H K := by
 intro g0 w I
 refine g9S ?_
 refine b4I x0 x1 g0 I (fun r0 y0 H' w' I' hk => ⟨H', _, I', r0, y0, rfl, rfl, hk⟩) h
def a1A (m8 : a8) (p9 : a8) (H : Hp) (K : Bool → Hp → Prop) : Prop :=
 K true H
def a1B (a3C : a8) (S6 : a8) (I5 : Int) (H : Hp) (n2 : Int → Hp → Prop) (K : Bool → Hp → Prop) : Prop :=
 (I5 < (S6.k9.n : Int) →
 (0 : Int) ≤ I5 ∧ (I5 : Int) < S6.k9.n ∧ ∃ a6M : a8, EltH H S6.k9 I5 4 (b8 a6M) ∧
 (0 : Int) ≤ I5 ∧ (I5 : Int) < a3C.k9.n ∧ ∃ a9T : a8, EltH H a3C.k9 I5 4 (b8 a9T) ∧
 a0e a6M a9T H (fun (A9 : Bool) (b1G : Hp) =>
 ((!A9) = true →
 K false b1G) ∧
 ((!A9) = false →
 n2 (IntKind.wrap .i64 (I5 + 1)) b1G))) ∧
 (¬ (I5 < (S6.k9.n : Int)) →
 a1A a3C S6 H K)
def a3k (x0 : a8) (x1 : a8) (H : Hp) (K : Bool → Hp → Prop) : Prop :=
 (((((!decide (x0.b6 = x1.b6)) || (!decide (x0.o6 = x1.o6))) || (!decide (x0.f6 = x1.f6))) || (!decide ((x0.k9.n : Int) = (x1.k9.n : Int)))) = true →
 K false H) ∧
 (((((!decide (x0.b6 = x1.b6)) || (!decide (x0.o6 = x1.o6))) || (!decide (x0.f6 = x1.f6))) || (!decide ((x0.k9.n : Int) = (x1.k9.n : Int)))) = false →
 TL (0 : Int) H fun (s : Int) H n2 => a1B x1 x0 s H n2 K)
theorem b5j (x0 : a8) (x1 : a8) {K : Bool → Hp → Prop} (I : Inv w0 ps0 H0 H [] w) (hR : ∀ (r0 : Bool) (H' : Hp) (w' : World) (_ : Inv w0 ps0 H0 H' [] w') (_ : K r0 H'), R (vB r0) w') (h : a3k x0 x1 H K) : F53 (Value.agg (b8 x0).toArray) (Value.agg (b8 x1).toArray) w R E := by
 unfold a3k at h
 unfold F53
 refine K6 I (cs := (b8 x0)) rfl fun g_2 w_3 I_4 k_5 => ?_
 refine K6 I_4 (cs := (b8 x1)) rfl fun g_7 w_8 I_9 a9j => ?_
 refine a7 U5 ?_
 refine f2 (ld1 Tryz.isAgg3 ((I_9.bring 1).at1 (o := 0) (vs := [(vi x0.b6)]) (nb rfl) rfl)) ?_
 refine a7 U5 ?_
 refine f2 (ld1 Tryz.isAgg3 (I_9.at1 (o := 0) (vs := [(vi x1.b6)]) (nb rfl) rfl)) ?_
 refine a7 (P9 _ _ _ _ _ _) ?_
 refine a7 (Pu.g fun hb => by have d7 := hb; exact a6p) ?_
 refine f2 (Ld.g fun hb => by have d7 := hb; simp only [i6 d7]; exact (ld1 Tryz.isAgg2 ((I_9.bring 1).at1 (o := 1) (vs := [(vi x0.o6)]) (nb rfl) rfl))) ?_
 refine a7 (Pu.g fun hb => by have d7 := hb; exact a6p) ?_
 refine f2 (Ld.g fun hb => by have d7 := hb; simp only [i6 d7]; exact (ld1 Tryz.isAgg2 (I_9.at1 (o := 1) (vs := [(vi x1.o6)]) (nb rfl) rfl))) ?_
 refine a7 (Pu.g fun hb => by have d7 := hb; simp only [i6 d7]; exact (P9 _ _ _ _ _ _)) ?_
 refine a7 (M4 _ _) ?_
 refine a7 (Pu.g fun hb => by have d7 := hb; exact b1W) ?_
 refine f2 (Ld.g fun hb => by have d7 := hb; simp only [i6 d7]; exact (ld1 Tryz.isAgg9 ((I_9.bring 1).at1 (o := 2) (vs := [(Value.string x0.f6)]) (nb rfl) rfl))) ?_
 refine a7 (Pu.g fun hb => by have d7 := hb; exact b1W) ?_
 refine f2 (Ld.g fun hb => by have d7 := hb; simp only [i6 d7]; exact (ld1 Tryz.isAgg9 (I_9.at1 (o := 2) (vs := [(Value.string x1.f6)]) (nb rfl) rfl))) ?_
 refine a7 (Pu.g fun hb => by have d7 := hb; simp only [i6 d7]; exact (d5P _ _ _ _ _)) ?_
 refine a7 (M4 _ _) ?_
 refine a7 (Pu.g fun hb => by have d7 := hb; exact B2) ?_
 refine f2 (Ld.g fun hb => by have d7 := hb; simp only [i6 d7]; exact (ld1 Tryz.isAgg51 ((I_9.bring 1).at1 (o := 3) (vs := [(vs x0.k9)]) (nb rfl) rfl))) ?_
 refine a7 (Pu.g fun hb => by have d7 := hb; simp only [i6 d7]; exact (K0 _ _ _)) ?_
 refine a7 (Pu.g fun hb => by have d7 := hb; exact B2) ?_
 refine f2 (Ld.g fun hb => by have d7 := hb; simp only [i6 d7]; exact (ld1 Tryz.isAgg51 (I_9.at1 (o := 3) (vs := [(vs x1.k9)]) (nb rfl) rfl))) ?_
 refine a7 (Pu.g fun hb => by have d7 := hb; simp only [i6 d7]; exact (K0 _ _ _)) ?_
 refine a7 (Pu.g fun hb => by have d7 := hb; simp only [i6 d7]; exact (P9 _ _ _ _ _ _)) ?_
 refine a7 (M4 _ _) ?_
 refine o2 (fun c9E => ?_) (fun c9E => ?_)
 ·replace h := h.1 c9E
  exact hR false H _ I_9.drop.drop h
 ·replace h := h.2 c9E
  have hj1 : ∀ (H : Hp) (w : World) (_ : Inv w0 ps0 H0 H [bx g_7 53 (b8 x1), bx g_2 53 (b8 x0)] w) (_ : a1A x1 x0 H K), d6M w R E := by
   intro H w I h
   unfold d6M
   intro _
   unfold a1A at h
   exact hR true H _ I.drop.drop h
  refine r9 fun j1 hx1 => ?_
  obtain ⟨f4Y, d8S, j3N, j3O⟩ := h
  refine A7 (J := fun n l w => ∃ (s : Int) (H : Hp) , n = d8S s ∧ l = [(vi s)] ∧ Inv w0 ps0 H0 H [bx g_7 53 (b8 x1), bx g_2 53 (b8 x0)] w ∧ f4Y s H) ⟨_, 0, H, rfl, rfl, ((I_9.bring 1).bring 1), j3N⟩ ?_
  rintro k0F τ_43 w next2 ⟨I5, H, rfl, d3D, I, c5W⟩ hn2
  simp only [List.map_cons, List.map_nil, List.cons.injEq, and_true] at d3D
  have e5 := d3D
  simp only [e5]
  obtain ⟨n2, hm2, h⟩ : ∃ n2 : Int → Hp → Prop, (∀ s' H', n2 s' H' → f4Y s' H' ∧ d8S s' < d8S I5) ∧ a1B x1 x0 I5 H n2 K := ⟨_, fun _ _ h => h, j3O I5 H (fun s' H' => f4Y s' H' ∧ d8S s' < d8S I5) c5W (fun _ _ a b => ⟨a, b⟩)⟩
  unfold f0u
  unfold a1B at h
  refine a7 B2 ?_
  refine f2 (ld1 Tryz.isAgg51 ((I.bring 1).at1 (o := 3) (vs := [(vs x0.k9)]) (nb rfl) rfl)) ?_
  refine a7 (K0 _ _ _) ?_
  refine a7 (v7 _ _ _ _ _ _) ?_
  refine k4 (fun f4Z => ?_) (fun f4Z => ?_)
  ·replace h := h.1 f4Z
   refine a3D I fun S5 B1 => ?_
   refine o7 B2 ?_
   refine o7 B2 ?_
   refine y9 (ld1 Tryz.isAgg51 ((B1.bring 1).at1 (o := 3) (vs := [(vs x0.k9)]) (nb rfl) rfl)) ?_
   obtain ⟨a8e, b9f, a6M, a9l, h⟩ := h
   obtain ⟨f5a, f5b, c9F, a9l⟩ := a9l
   refine o7 (G7 c9F _ _ _ _ a8e b9f) ?_
   refine y9 (ldA (vs := (b8 a6M)) Tryz.isAgg53 Tryz.sizeOf53 rfl (B1.atH a9l)) ?_
   refine y9 (ld1 Tryz.isAgg51 (B1.at1 (o := 3) (vs := [(vs x1.k9)]) (nb rfl) rfl)) ?_
   obtain ⟨b9o, c3O, a9T, a9m, h⟩ := h
   obtain ⟨h5h, h5i, b5R, a9m⟩ := a9m
   refine o7 (G7 b5R _ _ _ _ b9o c3O) ?_
   refine y9 (ldA (vs := (b8 a9T)) Tryz.isAgg53 Tryz.sizeOf53 rfl (B1.atH a9m)) ?_
   refine f7 (cap := []) (fun args w => Tryz.call53 args w) ?_
   refine k8 (Fi := []) (Fr := [bx g_7 53 (b8 x1), bx g_2 53 (b8 x0)]) B1 (h) (fun h5j b1G h5k B0 b9p e5D e5O d8T => ?_) (fun _ _ _ _ _ q => q.elim)
   obtain ⟨A9, rfl, rfl, h⟩ := d8T
   refine o7 (T4 _) ?_
   refine o2 (fun c9G => ?_) (fun c9G => ?_)
   ·replace h := h.1 c9G
    exact hR false b1G _ b9p.drop.drop h
   ·replace h := h.2 c9G
    refine a7 (u7 _ _ _ _ _ _) ?_
    exact hn2 _ _ _ (hm2 _ _ h).2 ⟨(IntKind.wrap .i64 (I5 + 1)), b1G, rfl, rfl, ((b9p.bring 1).bring 1), (hm2 _ _ h).1⟩
  ·replace h := h.2 f4Z
   exact hx1 _ _ (hj1 H _ ((I.bring 1).bring 1) h)
theorem b5S (x0 : a8) (x1 : a8) {H : Hp} {K : Bool → Hp → Prop} (h : a3k x0 x1 H K) : a0e x0 x1 H K := by
 intro w I
 refine g9j ?_
 refine b5j x0 x1 I (fun r0 H' w' I' hk => ⟨H', _, I', r0, rfl, rfl, hk⟩) h
def a1C (V4 : b7) (O0 : b7) (H : Hp) (K : Bool → Hp → Prop) : Prop :=
 K true H
def a1D (D7 : b7) (Q0 : b7) (U3 : Int) (H : Hp) (n3 : Int → Hp → Prop) (K : Bool → Hp → Prop) : Prop :=
 (U3 < (Q0.o3.n : Int) →
 (0 : Int) ≤ U3 ∧ (U3 : Int) < Q0.o3.n ∧ ∃ e5P : b7, EltH H Q0.o3 U3 4 (d8 e5P) ∧
 (0 : Int) ≤ U3 ∧ (U3 : Int) < D7.o3.n ∧ ∃ e5Q : b7, EltH H D7.o3 U3 4 (d8 e5Q) ∧
 a3g e5P e5Q H (fun (b6l : Bool) (c3P : Hp) =>
 ((!b6l) = true →
 K false c3P) ∧
 ((!b6l) = false →
 n3 (IntKind.wrap .i64 (U3 + 1)) c3P))) ∧
 (¬ (U3 < (Q0.o3.n : Int)) →
 a1C D7 Q0 H K)
def a1E (m8 : b7) (p9 : b7) (H : Hp) (K : Bool → Hp → Prop) : Prop :=
 TL (0 : Int) H fun (s : Int) H n3 => a1D m8 p9 s H n3 K
def a1F (I1 : b7) (K1 : b7) (a1Y : Int) (H : Hp) (n4 : Int → Hp → Prop) (K : Bool → Hp → Prop) : Prop :=
 (a1Y < (K1.f5.n : Int) →
 (0 : Int) ≤ a1Y ∧ (a1Y : Int) < K1.f5.n ∧ ∃ a6M : a8, EltH H K1.f5 a1Y 4 (b8 a6M) ∧
 (0 : Int) ≤ a1Y ∧ (a1Y : Int) < I1.f5.n ∧ ∃ a9T : a8, EltH H I1.f5 a1Y 4 (b8 a9T) ∧
 a0e a6M a9T H (fun (A9 : Bool) (b1G : Hp) =>
 ((!A9) = true →
 K false b1G) ∧
 ((!A9) = false →
 n4 (IntKind.wrap .i64 (a1Y + 1)) b1G))) ∧
 (¬ (a1Y < (K1.f5.n : Int)) →
 a1E I1 K1 H K)
def a3l (x0 : b7) (x1 : b7) (H : Hp) (K : Bool → Hp → Prop) : Prop :=
 (((((!decide (x0.b6 = x1.b6)) || (!decide (x0.fOp = x1.fOp))) || (!decide ((x0.f5.n : Int) = (x1.f5.n : Int)))) || (!decide ((x0.o3.n : Int) = (x1.o3.n : Int)))) = true →
 K false H) ∧
 (((((!decide (x0.b6 = x1.b6)) || (!decide (x0.fOp = x1.fOp))) || (!decide ((x0.f5.n : Int) = (x1.f5.n : Int)))) || (!decide ((x0.o3.n : Int) = (x1.o3.n : Int)))) = false →
 TL (0 : Int) H fun (s : Int) H n4 => a1F x1 x0 s H n4 K)
theorem b5k (x0 : b7) (x1 : b7) {K : Bool → Hp → Prop} (I : Inv w0 ps0 H0 H [] w) (hR : ∀ (r0 : Bool) (H' : Hp) (w' : World) (_ : Inv w0 ps0 H0 H' [] w') (_ : K r0 H'), R (vB r0) w') (h : a3l x0 x1 H K) : F52 (Value.agg (d8 x0).toArray) (Value.agg (d8 x1).toArray) w R E := by
 unfold a3l at h
 unfold F52
 refine K6 I (cs := (d8 x0)) rfl fun g_2 w_3 I_4 k_5 => ?_
 refine K6 I_4 (cs := (d8 x1)) rfl fun g_7 w_8 I_9 a9j => ?_
 refine a7 a2X ?_
 refine f2 (ld1 Tryz.isAgg3 ((I_9.bring 1).at1 (o := 0) (vs := [(vi x0.b6)]) (nb rfl) rfl)) ?_
 refine a7 a2X ?_
 refine f2 (ld1 Tryz.isAgg3 (I_9.at1 (o := 0) (vs := [(vi x1.b6)]) (nb rfl) rfl)) ?_
 refine a7 (P9 _ _ _ _ _ _) ?_
 refine a7 (Pu.g fun hb => by have d7 := hb; exact a6q) ?_
 refine f2 (Ld.g fun hb => by have d7 := hb; simp only [i6 d7]; exact (ld1 Tryz.isAgg3 ((I_9.bring 1).at1 (o := 1) (vs := [(vi x0.fOp)]) (nb rfl) rfl))) ?_
 refine a7 (Pu.g fun hb => by have d7 := hb; exact a6q) ?_
 refine f2 (Ld.g fun hb => by have d7 := hb; simp only [i6 d7]; exact (ld1 Tryz.isAgg3 (I_9.at1 (o := 1) (vs := [(vi x1.fOp)]) (nb rfl) rfl))) ?_
 refine a7 (Pu.g fun hb => by have d7 := hb; simp only [i6 d7]; exact (P9 _ _ _ _ _ _)) ?_
 refine a7 (M4 _ _) ?_
 refine a7 (Pu.g fun hb => by have d7 := hb; exact O4) ?_
 refine f2 (Ld.g fun hb => by have d7 := hb; simp only [i6 d7]; exact (ld1 Tryz.isAgg51 ((I_9.bring 1).at1 (o := 2) (vs := [(vs x0.f5)]) (nb rfl) rfl))) ?_
 refine a7 (Pu.g fun hb => by have d7 := hb; simp only [i6 d7]; exact (K0 _ _ _)) ?_
 refine a7 (Pu.g fun hb => by have d7 := hb; exact O4) ?_
 refine f2 (Ld.g fun hb => by have d7 := hb; simp only [i6 d7]; exact (ld1 Tryz.isAgg51 (I_9.at1 (o := 2) (vs := [(vs x1.f5)]) (nb rfl) rfl))) ?_
 refine a7 (Pu.g fun hb => by have d7 := hb; simp only [i6 d7]; exact (K0 _ _ _)) ?_
 refine a7 (Pu.g fun hb => by have d7 := hb; simp only [i6 d7]; exact (P9 _ _ _ _ _ _)) ?_
 refine a7 (M4 _ _) ?_
 refine a7 (Pu.g fun hb => by have d7 := hb; exact M5) ?_
 refine f2 (Ld.g fun hb => by have d7 := hb; simp only [i6 d7]; exact (ld1 Tryz.isAgg57 ((I_9.bring 1).at1 (o := 3) (vs := [(vs x0.o3)]) (nb rfl) rfl))) ?_
 refine a7 (Pu.g fun hb => by have d7 := hb; simp only [i6 d7]; exact (V0 _ _ _)) ?_
 refine a7 (Pu.g fun hb => by have d7 := hb; exact M5) ?_
 refine f2 (Ld.g fun hb => by have d7 := hb; simp only [i6 d7]; exact (ld1 Tryz.isAgg57 (I_9.at1 (o := 3) (vs := [(vs x1.o3)]) (nb rfl) rfl))) ?_
 refine a7 (Pu.g fun hb => by have d7 := hb; simp only [i6 d7]; exact (V0 _ _ _)) ?_
 refine a7 (Pu.g fun hb => by have d7 := hb; simp only [i6 d7]; exact (P9 _ _ _ _ _ _)) ?_
 refine a7 (M4 _ _) ?_
 refine o2 (fun b8Y => ?_) (fun b8Y => ?_)
 ·replace h := h.1 b8Y
  exact hR false H _ I_9.drop.drop h
 ·replace h := h.2 b8Y
  have hj1 : ∀ (H : Hp) (w : World) (_ : Inv w0 ps0 H0 H [bx g_7 59 (d8 x1), bx g_2 59 (d8 x0)] w) (_ : a1E x1 x0 H K), d6E (Value.pointer (some ⟨g_2, 0, none⟩)) (Value.pointer (some ⟨g_7, 0, none⟩)) w R E := by
   intro H w I h
   unfold d6E
   intro _
   unfold a1E at h
   have hj2 : ∀ (H : Hp) (w : World) (_ : Inv w0 ps0 H0 H [bx g_7 59 (d8 x1), bx g_2 59 (d8 x0)] w) (_ : a1C x1 x0 H K), d6C w R E := by
    intro H w I h
    unfold d6C
    intro _
    unfold a1C at h
    exact hR true H _ I.drop.drop h
   refine r9 fun j2 hx2 => ?_
   obtain ⟨f5c, d8U, j3P, j3Q⟩ := h
   refine A7 (J := fun n l w => ∃ (s : Int) (H : Hp) , n = d8U s ∧ l = [(vi s)] ∧ Inv w0 ps0 H0 H [bx g_7 59 (d8 x1), bx g_2 59 (d8 x0)] w ∧ f5c s H) ⟨_, 0, H, rfl, rfl, ((I.bring 1).bring 1), j3P⟩ ?_
   rintro k0G τ_69 w next3 ⟨U3, H, rfl, c8S, I, j3R⟩ hn3
   simp only [List.map_cons, List.map_nil, List.cons.injEq, and_true] at c8S
   have e6 := c8S
   simp only [e6]
   obtain ⟨n3, hm3, h⟩ : ∃ n3 : Int → Hp → Prop, (∀ s' H', n3 s' H' → f5c s' H' ∧ d8U s' < d8U U3) ∧ a1D x1 x0 U3 H n3 K := ⟨_, fun _ _ h => h, j3Q U3 H (fun s' H' => f5c s' H' ∧ d8U s' < d8U U3) j3R (fun _ _ a b => ⟨a, b⟩)⟩
   unfold f0l
   unfold a1D at h
   refine a7 M5 ?_
   refine f2 (ld1 Tryz.isAgg57 ((I.bring 1).at1 (o := 3) (vs := [(vs x0.o3)]) (nb rfl) rfl)) ?_
   refine a7 (V0 _ _ _) ?_
   refine a7 (v7 _ _ _ _ _ _) ?_
   refine k4 (fun c9w => ?_) (fun c9w => ?_)
   ·replace h := h.1 c9w
    refine a3D I fun b2Z a8g => ?_
    refine o7 M5 ?_
    refine o7 M5 ?_
    refine y9 (ld1 Tryz.isAgg57 ((a8g.bring 1).at1 (o := 3) (vs := [(vs x0.o3)]) (nb rfl) rfl)) ?_
    obtain ⟨a5v, a5W, e5P, c9c, h⟩ := h
    obtain ⟨k0H, k0I, d8C, c9c⟩ := c9c
    refine o7 (a1T d8C _ _ _ _ a5v a5W) ?_
    refine y9 (ldA (vs := (d8 e5P)) Tryz.isAgg59 Tryz.sizeOf59 rfl (a8g.atH c9c)) ?_
    refine y9 (ld1 Tryz.isAgg57 (a8g.at1 (o := 3) (vs := [(vs x1.o3)]) (nb rfl) rfl)) ?_
    obtain ⟨c9H, c9q, e5Q, b7e, h⟩ := h
    obtain ⟨k0J, k0K, d8u, b7e⟩ := b7e
    refine o7 (a1T d8u _ _ _ _ c9H c9q) ?_
    refine y9 (ldA (vs := (d8 e5Q)) Tryz.isAgg59 Tryz.sizeOf59 rfl (a8g.atH b7e)) ?_
    refine f7 (cap := []) (fun args w => Tryz.call52 args w) ?_
    refine k8 (Fi := []) (Fr := [bx g_7 59 (d8 x1), bx g_2 59 (d8 x0)]) a8g (h) (fun j3S c3P j3T N9 c3Q j3U f5d f5e => ?_) (fun _ _ _ _ _ q => q.elim)
    obtain ⟨b6l, rfl, rfl, h⟩ := f5e
    refine o7 (T4 _) ?_
    refine o2 (fun c9x => ?_) (fun c9x => ?_)
    ·replace h := h.1 c9x
     exact hR false c3P _ c3Q.drop.drop h
    ·replace h := h.2 c9x
     refine a7 (u7 _ _ _ _ _ _) ?_
     exact hn3 _ _ _ (hm3 _ _ h).2 ⟨(IntKind.wrap .i64 (U3 + 1)), c3P, rfl, rfl, ((c3Q.bring 1).bring 1), (hm3 _ _ h).1⟩
   ·replace h := h.2 c9w
    exact hx2 _ _ (hj2 H _ ((I.bring 1).bring 1) h)
  refine r9 fun j1 hx1 => ?_
  obtain ⟨b8L, b1B, d7W, d7X⟩ := h
  refine A7 (J := fun n l w => ∃ (s : Int) (H : Hp) , n = b1B s ∧ l = [(vi s)] ∧ Inv w0 ps0 H0 H [bx g_7 59 (d8 x1), bx g_2 59 (d8 x0)] w ∧ b8L s H) ⟨_, 0, H, rfl, rfl, ((I_9.bring 1).bring 1), d7W⟩ ?_
  rintro h4z τ_78 w next4 ⟨a1Y, H, rfl, b2z, I, d7Y⟩ hn4
  simp only [List.map_cons, List.map_nil, List.cons.injEq, and_true] at b2z
  have e5 := b2z
  simp only [e5]
  obtain ⟨n4, hm4, h⟩ : ∃ n4 : Int → Hp → Prop, (∀ s' H', n4 s' H' → b8L s' H' ∧ b1B s' < b1B a1Y) ∧ a1F x1 x0 a1Y H n4 K := ⟨_, fun _ _ h => h, d7X a1Y H (fun s' H' => b8L s' H' ∧ b1B s' < b1B a1Y) d7Y (fun _ _ a b => ⟨a, b⟩)⟩
  unfold f0q
  unfold a1F at h
  refine a7 O4 ?_
  refine f2 (ld1 Tryz.isAgg51 ((I.bring 1).at1 (o := 2) (vs := [(vs x0.f5)]) (nb rfl) rfl)) ?_
  refine a7 (K0 _ _ _) ?_
  refine a7 (v7 _ _ _ _ _ _) ?_
  refine k4 (fun a8d => ?_) (fun a8d => ?_)
  ·replace h := h.1 a8d
   refine a3D I fun S5 B1 => ?_
   refine o7 O4 ?_
   refine o7 O4 ?_
   refine y9 (ld1 Tryz.isAgg51 ((B1.bring 1).at1 (o := 2) (vs := [(vs x0.f5)]) (nb rfl) rfl)) ?_
   obtain ⟨a8e, b9f, a6M, a9l, h⟩ := h
   obtain ⟨f5a, f5b, c9F, a9l⟩ := a9l
   refine o7 (G7 c9F _ _ _ _ a8e b9f) ?_
   refine y9 (ldA (vs := (b8 a6M)) Tryz.isAgg53 Tryz.sizeOf53 rfl (B1.atH a9l)) ?_
   refine y9 (ld1 Tryz.isAgg51 (B1.at1 (o := 2) (vs := [(vs x1.f5)]) (nb rfl) rfl)) ?_
   obtain ⟨b9o, c3O, a9T, a9m, h⟩ := h
   obtain ⟨h5h, h5i, b5R, a9m⟩ := a9m
   refine o7 (G7 b5R _ _ _ _ b9o c3O) ?_
   refine y9 (ldA (vs := (b8 a9T)) Tryz.isAgg53 Tryz.sizeOf53 rfl (B1.atH a9m)) ?_
   refine f7 (cap := []) (fun args w => Tryz.call53 args w) ?_
   refine k8 (Fi := []) (Fr := [bx g_7 59 (d8 x1), bx g_2 59 (d8 x0)]) B1 (h) (fun h5j b1G h5k B0 b9p e5D e5O d8T => ?_) (fun _ _ _ _ _ q => q.elim)
   obtain ⟨A9, rfl, rfl, h⟩ := d8T
   refine o7 (T4 _) ?_
   refine o2 (fun c9G => ?_) (fun c9G => ?_)
   ·replace h := h.1 c9G
    exact hR false b1G _ b9p.drop.drop h
   ·replace h := h.2 c9G
    refine a7 (u7 _ _ _ _ _ _) ?_
    exact hn4 _ _ _ (hm4 _ _ h).2 ⟨(IntKind.wrap .i64 (a1Y + 1)), b1G, rfl, rfl, ((b9p.bring 1).bring 1), (hm4 _ _ h).1⟩
  ·replace h := h.2 a8d
   exact hx1 _ _ (hj1 H _ ((I.bring 1).bring 1) h)
theorem b5T (x0 : b7) (x1 : b7) {H : Hp} {K : Bool → Hp → Prop} (h : a3l x0 x1 H K) : a3g x0 x1 H K := by
 intro w I
 refine g8X ?_
 refine b5k x0 x1 I (fun r0 H' w' I' hk => ⟨H', _, I', r0, rfl, rfl, hk⟩) h
def N3 (j3V : Int) (c7f : Bool) (S7 : O3) (H : Hp) (K : Bool → Hp → Prop) : Prop :=
 (c7f = true →
 K (decide (j3V = 2)) H) ∧
 (c7f = false →
 K false H)
def W4 (b5U : Int) (b2d : Int) (c7g : Bool) (O0 : O3) (H : Hp) (K : Bool → Hp → Prop) : Prop :=
 (c7g = true →
 K (decide (b5U = 1)) H) ∧
 (c7g = false →
 (b2d = 6 →
 N3 b5U (decide (b2d = 6)) O0 H K) ∧
 (¬ (b2d = 6) →
 (b2d = 7 →
 N3 b5U (decide (b2d = 7)) O0 H K) ∧
 (¬ (b2d = 7) →
 (b2d = 8 →
 N3 b5U (decide (b2d = 8)) O0 H K) ∧
 (¬ (b2d = 8) →
 (b2d = 9 →
 N3 b5U (decide (b2d = 9)) O0 H K) ∧
 (¬ (b2d = 9) →
 N3 b5U (decide (b2d = 10)) O0 H K)))))
def W5 (a4z : Int) (b2c : Int) (c7h : Bool) (p9 : O3) (H : Hp) (K : Bool → Hp → Prop) : Prop :=
 (c7h = true →
 K (decide (a4z = 0)) H) ∧
 (c7h = false →
 (b2c = 4 →
 W4 a4z b2c (decide (b2c = 4)) p9 H K) ∧
 (¬ (b2c = 4) →
 W4 a4z b2c (decide (b2c = 5)) p9 H K))
def a5D (x0 : O3) (H : Hp) (K : Bool → Hp → Prop) : Prop :=
 a6I (g8.M0 x0) H (fun (E1 : ByteArray) (b7F : Bool) (H_6 : Hp) =>
 ((((!decide (x0.t7.b6 = 1)) && (!decide (x0.t7.o6 = 0))) || ((!b7F) && (!decide (x0.t7.f6 = ⟨#[]⟩)))) = true →
 K false H_6) ∧
 ((((!decide (x0.t7.b6 = 1)) && (!decide (x0.t7.o6 = 0))) || ((!b7F) && (!decide (x0.t7.f6 = ⟨#[]⟩)))) = false →
 (x0.t7.b6 = 1 →
 K ((decide (0 ≤ x0.t7.o6)) && (decide ((x0.t7.k9.n : Int) = 0))) H_6) ∧
 (¬ (x0.t7.b6 = 1) →
 (x0.t7.b6 = 2 →
 W5 (x0.t7.k9.n : Int) x0.t7.b6 (decide (x0.t7.b6 = 2)) x0 H_6 K) ∧
 (¬ (x0.t7.b6 = 2) →
 W5 (x0.t7.k9.n : Int) x0.t7.b6 (decide (x0.t7.b6 = 3)) x0 H_6 K))))
theorem b9q (x0 : O3) {K : Bool → Hp → Prop} (I : Inv w0 ps0 H0 H [] w) (hR : ∀ (r0 : Bool) (H' : Hp) (w' : World) (_ : Inv w0 ps0 H0 H' [] w') (_ : K r0 H'), R (vB r0) w') (h : a5D x0 H K) : e4i (Value.agg (b8 x0.t7).toArray) w R E := by
 unfold a5D at h
 unfold e4i
 refine K6 I (cs := (b8 x0.t7)) rfl fun g_2 w_3 I_4 k_5 => ?_
 refine a7 a4H ?_
 refine a7 B2 ?_
 refine f2 (ld1 Tryz.isAgg51 (I_4.at1 (o := 3) (vs := [(vs x0.t7.k9)]) (nb rfl) rfl)) ?_
 refine a7 (K0 _ _ _) ?_
 refine f2 (ldA Tryz.isAgg136 Tryz.sizeOf136 rfl (I_4.at1 (o := 0) (vs := (b8 x0.t7)) (nb rfl) rfl)) ?_
 refine a7 (b5v x0) ?_
 refine f7 (cap := []) (fun args w => Tryz.call143 args w) ?_
 refine k8 (Fi := []) (Fr := [bx g_2 136 (b8 x0.t7)]) I_4 (h) (fun b6Z H_6 b7a w_7 I_8 b7b k_9 a7c => ?_) (fun _ _ _ _ _ q => q.elim)
 obtain ⟨E1, b7F, rfl, rfl, h⟩ := a7c
 refine a7 (r6 _ _ (Value.string E1) rfl) ?_
 refine a7 (r6 _ _ (vB b7F) rfl) ?_
 refine a7 a4H ?_
 refine a7 U5 ?_
 refine f2 (ld1 Tryz.isAgg3 (I_8.at1 (o := 0) (vs := [(vi x0.t7.b6)]) (nb rfl) rfl)) ?_
 refine a7 (P9 _ _ _ _ _ _) ?_
 refine a7 (Pu.g fun hb => by have d7 := hb; exact a4H) ?_
 refine a7 (Pu.g fun hb => by have d7 := hb; simp only [i6 d7]; exact a6p) ?_
 refine f2 (Ld.g fun hb => by have d7 := hb; simp only [i6 d7]; exact (ld1 Tryz.isAgg2 (I_8.at1 (o := 1) (vs := [(vi x0.t7.o6)]) (nb rfl) rfl))) ?_
 refine a7 (Pu.g fun hb => by have d7 := hb; simp only [i6 d7]; exact (P9 _ _ _ _ _ _)) ?_
 refine a7 (w8 _ _) ?_
 simp only [z2]
 refine a7 (Pu.g fun hb => by have d7 := hb; simp only [i6 d7]; exact (T4 _)) ?_
 simp only [b1S]
 refine a7 (Pu.e (a8C _ _ _) (Pu.g fun hb => by obtain ⟨d7, a5u⟩ := b1R hb; exact a4H)) ?_
 refine a7 (Pu.e (a8C _ _ _) (Pu.g fun hb => by obtain ⟨d7, a5u⟩ := b1R hb; simp only [i6 hb]; exact b1W)) ?_
 refine f2 (Ld.e (a8C _ _ _) (Ld.g fun hb => by obtain ⟨d7, a5u⟩ := b1R hb; simp only [i6 hb]; exact (ld1 Tryz.isAgg9 (I_8.at1 (o := 2) (vs := [(Value.string x0.t7.f6)]) (nb rfl) rfl)))) ?_
 refine a7 (Pu.e (a8C _ _ _) (Pu.g fun hb => by obtain ⟨d7, a5u⟩ := b1R hb; simp only [i6 hb]; exact (d5P _ _ _ _ _))) ?_
 refine a7 (Pu.g fun hb => by have d7 := hb; simp only [i6 d7, b8l d7]; exact (w8 _ _)) ?_
 refine a7 (M4 _ _) ?_
 refine o2 (fun c9I => ?_) (fun c9I => ?_)
 ·replace h := h.1 c9I
  exact hR false H_6 _ I_8.drop h
 ·replace h := h.2 c9I
  refine a7 a4H ?_
  refine a7 U5 ?_
  refine f2 (ld1 Tryz.isAgg3 (I_8.at1 (o := 0) (vs := [(vi x0.t7.b6)]) (nb rfl) rfl)) ?_
  refine a7 (k7 _ _ _ _ _ _) ?_
  refine k4 (fun b9r => ?_) (fun b9r => ?_)
  ·replace h := h.1 b9r
   refine a7 a4H ?_
   refine a7 a6p ?_
   refine f2 (ld1 Tryz.isAgg2 (I_8.at1 (o := 1) (vs := [(vi x0.t7.o6)]) (nb rfl) rfl)) ?_
   refine a7 (a7e _ _ _ _ _ _) ?_
   simp only [z2]
   refine a7 (Pu.g fun hb => by have d7 := hb; simp only [i6 d7]; exact (k7 _ _ _ _ _ _)) ?_
   refine a7 (w8 _ _) ?_
   exact hR ((decide (0 ≤ x0.t7.o6)) && (decide ((x0.t7.k9.n : Int) = 0))) H_6 _ I_8.drop h
  ·replace h := h.2 b9r
   have hj1 : ∀ (c7h : Bool) (H : Hp) (w : World) (_ : Inv w0 ps0 H0 H [bx g_2 136 (b8 x0.t7)] w) (_ : W5 (x0.t7.k9.n : Int) x0.t7.b6 c7h x0 H K), d3l (vi (x0.t7.k9.n : Int)) (vi x0.t7.b6) (vB c7h) w R E := by
    intro c7h H w I h
    unfold d3l
    intro _
    unfold W5 at h
    refine o2 (fun b3z => ?_) (fun b3z => ?_)
    ·replace h := h.1 b3z
     refine a7 (k7 _ _ _ _ _ _) ?_
     exact hR (decide ((x0.t7.k9.n : Int) = 0)) H _ I.drop h
    ·replace h := h.2 b3z
     have hj2 : ∀ (c7g : Bool) (H : Hp) (w : World) (_ : Inv w0 ps0 H0 H [bx g_2 136 (b8 x0.t7)] w) (_ : W4 (x0.t7.k9.n : Int) x0.t7.b6 c7g x0 H K), d3k (vi (x0.t7.k9.n : Int)) (vi x0.t7.b6) (vB c7g) w R E := by
      intro c7g H w I h
      unfold d3k
      intro _
      unfold W4 at h
      refine o2 (fun b3w => ?_) (fun b3w => ?_)
      ·replace h := h.1 b3w
       refine a7 (k7 _ _ _ _ _ _) ?_
       exact hR (decide ((x0.t7.k9.n : Int) = 1)) H _ I.drop h
      ·replace h := h.2 b3w
       have hj3 : ∀ (c7f : Bool) (H : Hp) (w : World) (_ : Inv w0 ps0 H0 H [bx g_2 136 (b8 x0.t7)] w) (_ : N3 (x0.t7.k9.n : Int) c7f x0 H K), d3j (vi (x0.t7.k9.n : Int)) (vB c7f) w R E := by
        intro c7f H w I h
        unfold d3j
        intro _
        unfold N3 at h
        refine o2 (fun b0w => ?_) (fun b0w => ?_)
        ·replace h := h.1 b0w
         refine a7 (k7 _ _ _ _ _ _) ?_
         exact hR (decide ((x0.t7.k9.n : Int) = 2)) H _ I.drop h
        ·replace h := h.2 b0w
         exact hR false H _ I.drop h
       refine r9 fun j3 hx3 => ?_
       refine a7 (k7 _ _ _ _ _ _) ?_
       refine k4 (fun b9h => ?_) (fun b9h => ?_)
       ·replace h := h.1 b9h
        exact hx3 _ _ (hj3 (decide (x0.t7.b6 = 6)) H _ I h)
       ·replace h := h.2 b9h
        refine a7 (k7 _ _ _ _ _ _) ?_
        refine k4 (fun b9k => ?_) (fun b9k => ?_)
        ·replace h := h.1 b9k
         exact hx3 _ _ (hj3 (decide (x0.t7.b6 = 7)) H _ I h)
        ·replace h := h.2 b9k
         refine a7 (k7 _ _ _ _ _ _) ?_
         refine k4 (fun b3x => ?_) (fun b3x => ?_)
         ·replace h := h.1 b3x
          exact hx3 _ _ (hj3 (decide (x0.t7.b6 = 8)) H _ I h)
         ·replace h := h.2 b3x
          refine a7 (k7 _ _ _ _ _ _) ?_
          refine k4 (fun b9i => ?_) (fun b9i => ?_)
          ·replace h := h.1 b9i
           exact hx3 _ _ (hj3 (decide (x0.t7.b6 = 9)) H _ I h)
          ·replace h := h.2 b9i
           refine a7 (k7 _ _ _ _ _ _) ?_
           exact hx3 _ _ (hj3 (decide (x0.t7.b6 = 10)) H _ I h)
     refine r9 fun j2 hx2 => ?_
     refine a7 (k7 _ _ _ _ _ _) ?_
     refine k4 (fun b8U => ?_) (fun b8U => ?_)
     ·replace h := h.1 b8U
      exact hx2 _ _ (hj2 (decide (x0.t7.b6 = 4)) H _ I h)
     ·replace h := h.2 b8U
      refine a7 (k7 _ _ _ _ _ _) ?_
      exact hx2 _ _ (hj2 (decide (x0.t7.b6 = 5)) H _ I h)
   refine r9 fun j1 hx1 => ?_
   refine a7 (k7 _ _ _ _ _ _) ?_
   refine k4 (fun c9J => ?_) (fun c9J => ?_)
   ·replace h := h.1 c9J
    exact hx1 _ _ (hj1 (decide (x0.t7.b6 = 2)) H_6 _ I_8 h)
   ·replace h := h.2 c9J
    refine a7 (k7 _ _ _ _ _ _) ?_
    exact hx1 _ _ (hj1 (decide (x0.t7.b6 = 3)) H_6 _ I_8 h)
theorem c0d (x0 : O3) {H : Hp} {K : Bool → Hp → Prop} (h : a5D x0 H K) : a8v x0 H K := by
 intro w I
 refine g1C ?_
 refine b9q x0 I (fun r0 H' w' I' hk => ⟨H', _, I', r0, rfl, rfl, hk⟩) h
def a7B (x0 : a8) (H : Hp) (K : g8 → Hp → Prop) : Prop :=
 K (g8.M0 (O3.mk x0)) H
theorem c1X (x0 : a8) {K : g8 → Hp → Prop} (I : Inv w0 ps0 H0 H [] w) (hR : ∀ (r0 : g8) (H' : Hp) (w' : World) (_ : Inv w0 ps0 H0 H' [] w') (_ : K r0 H'), R (E8 r0) w') (h : a7B x0 H K) : e4l (Value.agg (b8 x0).toArray) w R E := by
 unfold a7B at h
 unfold e4l
 refine K6 I (cs := (b8 x0)) rfl fun g_2 w_3 I_4 k_5 => ?_
 refine f2 (ldA Tryz.isAgg53 Tryz.sizeOf53 rfl (I_4.at1 (o := 0) (vs := (b8 x0)) (nb rfl) rfl)) ?_
 refine a7 (c4P _ _ _ _ _ _) ?_
 refine a7 (b5v (O3.mk x0)) ?_
 exact hR (g8.M0 (O3.mk x0)) H _ I_4.drop h
theorem c3R (x0 : a8) {H : Hp} {K : g8 → Hp → Prop} (h : a7B x0 H K) : b4s x0 H K := by
 intro w I
 refine g1I ?_
 refine c1X x0 I (fun r0 H' w' I' hk => ⟨H', _, I', r0, rfl, rfl, hk⟩) h
def J2 (C6 : (List g8)) (H : Hp) (K : Sl → Hp → Prop) : Prop :=
 ∀ (r7 : Sl) (M1 : Hp), Hle H M1 → SlH M1 1 v8 r7 C6 → r7.n ≤ r7.c →
 K r7 M1
def J3 (a0u : Sl) (a4V : Int) (m6 : (List g8)) (o0 : Int) (H : Hp) (n2 : ((List g8) × Int) → Hp → Prop) (K : Sl → Hp → Prop) : Prop :=
 (o0 < a4V →
 (0 : Int) ≤ o0 ∧ (o0 : Int) < a0u.n ∧ ∃ x_1 : b7, EltH H a0u o0 4 (d8 x_1) ∧
 b4t x_1 H (fun (I0 : g8) (U1 : Hp) =>
 (m6.length + ([I0] : List g8).length) * 17 ≤ 140737488355328 ∧
 n2 ((m6 ++ [I0]), (IntKind.wrap .i64 (o0 + 1))) U1)) ∧
 (¬ (o0 < a4V) →
 J2 m6 H K)
def L6 (x0 : Sl) (H : Hp) (K : Sl → Hp → Prop) : Prop :=
 TL (([], 0) : (List g8) × Int) H fun (s : (List g8) × Int) H n2 => J3 x0 (x0.n : Int) s.1 s.2 H n2 K
theorem a5Q (x0 : Sl) {K : Sl → Hp → Prop} (I : Inv w0 ps0 H0 H [] w) (hR : ∀ (r0 : Sl) (H' : Hp) (w' : World) (_ : Inv w0 ps0 H0 H' [] w') (_ : K r0 H'), R (vs r0) w') (h : L6 x0 H K) : e4p (vs x0) (fC 194) w R E := by
 unfold L6 at h
 unfold e4p
 have hj1 : ∀ (C6 : (List g8)) (r7 : Sl) (Fs5j1 : Frag) (H : Hp) (w : World) (_ : RowL 150 1 v8 r7 C6 Fs5j1) (_ : Inv w0 ps0 H0 H [Fs5j1] w) (_ : J2 C6 H K), d3p (vs r7) w R E := by
  intro C6 r7 Fs5j1 H w a6v I h
  unfold d3p
  intro _
  unfold J2 at h
  obtain ⟨M1, a6K, b0n, a5v, a5W⟩ := Inv.freezeC I a6v (by decide)
  replace h := h r7 M1 b0n a5v a5W
  exact hR r7 M1 _ a6K h
 refine r9 fun j1 hx1 => ?_
 refine a7 (V0 _ _ _) ?_
 obtain ⟨a2N, R4, b1x, b1y⟩ := h
 refine A7 (J := fun n l w => ∃ (s : (List g8) × Int) (H : Hp) (B9 : Sl) (Fs5l2 : Frag) , n = R4 s ∧ l = (match s with | (m6, o0) => [(vs B9), (vi o0)]) ∧ (match s with | (m6, o0) => RowL 150 1 v8 B9 m6 Fs5l2) ∧ (match s with | (m6, o0) => Inv w0 ps0 H0 H [Fs5l2] w) ∧ a2N s H) ⟨_, ([], 0), H, (Sl.mk none 0 0), [], rfl, rfl, (RowL.nil T5 W0), I.nil, b1x⟩ ?_
 rintro c5F τ_50 w next2 ⟨⟨m6, o0⟩, H, B9, Fs5l2, rfl, a1W, Q2, I, b1z⟩ hn2
 dsimp only at a1W I Q2
 simp only [List.map_cons, List.map_nil, List.cons.injEq, and_true] at a1W
 obtain ⟨e5, e10⟩ := a1W
 simp only [e5, e10]
 obtain ⟨n2, hm2, h⟩ : ∃ n2 : ((List g8) × Int) → Hp → Prop, (∀ s' H', n2 s' H' → a2N s' H' ∧ R4 s' < R4 (m6, o0)) ∧ J3 x0 (x0.n : Int) m6 o0 H n2 K := ⟨_, fun _ _ h => h, b1y (m6, o0) H (fun s' H' => a2N s' H' ∧ R4 s' < R4 (m6, o0)) b1z (fun _ _ a b => ⟨a, b⟩)⟩
 unfold e2E
 unfold J3 at h
 refine a7 (v7 _ _ _ _ _ _) ?_
 refine k4 (fun a0H => ?_) (fun a0H => ?_)
 ·replace h := h.1 a0H
  obtain ⟨h_4, h_5, x_1, h_7, h⟩ := h
  obtain ⟨g_2, o_3, h_6, h_7⟩ := h_7
  refine a7 (a1T h_6 _ _ _ _ h_4 h_5) ?_
  refine f2 (ldA (vs := (d8 x_1)) Tryz.isAgg59 Tryz.sizeOf59 rfl (I.atH h_7)) ?_
  refine z8 I Tryz.zeroValue59 (cs := [(vi 0), (vi 0), (nS), (nS)]) rfl fun g_9 o9 a3G b3h => ?_
  refine m5 a3G Tryz.sizeOf59 (vs := (d8 x_1)) (cs' := (d8 x_1)) rfl rfl (nb rfl) rfl rfl fun a3F P1 a4W => ?_
  refine f2 (ldA Tryz.isAgg59 Tryz.sizeOf59 rfl (P1.at1 (o := 0) (vs := (d8 x_1)) (nb rfl) rfl)) ?_
  refine f7 (cap := []) (fun args w => Tryz.call194 args w) ?_
  refine k8 (Fi := []) (Fr := [bx g_9 59 (d8 x_1), Fs5l2]) P1 (h) (fun c3a U1 c0X a0t a4X c3b c0Y b0o => ?_) (fun _ _ _ _ _ q => q.elim)
  obtain ⟨I0, rfl, rfl, h⟩ := b0o
  refine a4b (e := 150) (c := v8) (xs := [I0]) a4X (b5w _) rfl rfl T5 W0 (nb rfl) fun c0Z b4v B0 a8c X3 a9P => ?_
  obtain ⟨b0p, h⟩ := h
  refine c1F (s := B9) (xs := m6) (X3.bring 2) Q2 (a8c.srcO ((X3.bring 2).bring 1)) b0p fun a7u a9Q A6 a9i a6L b8K => ?_
  refine a7 (u7 _ _ _ _ _ _) ?_
  exact hn2 _ _ _ (hm2 _ _ h).2 ⟨((m6 ++ [I0]), (IntKind.wrap .i64 (o0 + 1))), U1, a7u, a9Q, rfl, rfl, a9i, ((a6L.bring 1).drop.bring 1).drop, (hm2 _ _ h).1⟩
 ·replace h := h.2 a0H
  exact hx1 _ _ (hj1 m6 B9 Fs5l2 H _ Q2 I h)
theorem a6n (x0 : Sl) {H : Hp} {K : Sl → Hp → Prop} (h : L6 x0 H K) : K7 x0 H K := by
 intro w I
 refine g1P ?_
 refine a5Q x0 I (fun r0 H' w' I' hk => ⟨H', _, I', r0, rfl, rfl, hk⟩) h
end Go.Proofs.YtnhkdkcgdcgmdaaGreatDoor
