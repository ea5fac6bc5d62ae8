/- Typed formulas of the program's functions, and the theorems that the contracts follow from them; printed by lift.py off the code. -/
import Derived.Test.YtnhkdkcgdcgmdaaDoorzZV1
namespace Go.Proofs.YtnhkdkcgdcgmdaaDoor
open Go.RowKit
set_option maxRecDepth 100000
set_option maxHeartbeats 2000000
variable {w0 w : World} {ps0 : Nat → Prop} {H0 H : Hp} {R : RT} {E : Pan}
def B5 (b5q : Bool) (g6N : Int) (H : Hp) (K : Int → Hp → Prop) : Prop :=
 (b5q = true →
 K 3 H) ∧
 (b5q = false →
 K 6 H)
def M0 (b5r : Bool) (a1f : Int) (H : Hp) (K : Int → Hp → Prop) : Prop :=
 (b5r = true →
 K 6 H) ∧
 (b5r = false →
 F7 48 57 a1f H (fun (a0D : Bool) (H_6 : Hp) =>
 (a0D = true →
 K 4 H_6) ∧
 (a0D = false →
 (a1f = 95 →
 B5 (decide (a1f = 95)) a1f H_6 K) ∧
 (¬ (a1f = 95) →
 F7 97 122 a1f H_6 (fun (Q0 : Bool) (a0i : Hp) =>
 (Q0 = true →
 B5 Q0 a1f a0i K) ∧
 (Q0 = false →
 F7 65 90 a1f a0i (fun (b8q : Bool) (c8O : Hp) =>
 (b8q = true →
 B5 b8q a1f c8O K) ∧
 (b8q = false →
 F7 192 591 a1f c8O (fun (b8r : Bool) (c8P : Hp) =>
 (b8r = true →
 B5 b8r a1f c8P K) ∧
 (b8r = false →
 F7 913 969 a1f c8P (fun (a3i : Bool) (a4J : Hp) =>
 (a3i = true →
 B5 a3i a1f a4J K) ∧
 (a3i = false →
 F7 1040 1103 a1f a4J (fun (c8Q : Bool) (d4V : Hp) =>
 B5 c8Q a1f d4V K)))))))))))))
def m6 (b6R : Int) (b2y : Bool) (a4O : Int) (H : Hp) (K : Int → Hp → Prop) : Prop :=
 (b2y = true →
 K 5 H) ∧
 (b2y = false →
 (b6R = 215 →
 M0 (decide (b6R = 215)) a4O H K) ∧
 (¬ (b6R = 215) →
 (b6R = 247 →
 M0 (decide (b6R = 247)) a4O H K) ∧
 (¬ (b6R = 247) →
 M0 (decide (b6R = 930)) a4O H K)))
def M1 (t7 : Int) (b2t : Bool) (F0 : Int) (H : Hp) (K : Int → Hp → Prop) : Prop :=
 (b2t = true →
 K 1 H) ∧
 (b2t = false →
 (t7 = 10 →
 K 2 H) ∧
 (¬ (t7 = 10) →
 (t7 = 59 →
 m6 t7 (decide (t7 = 59)) F0 H K) ∧
 (¬ (t7 = 59) →
 (t7 = 44 →
 m6 t7 (decide (t7 = 44)) F0 H K) ∧
 (¬ (t7 = 44) →
 (t7 = 123 →
 m6 t7 (decide (t7 = 123)) F0 H K) ∧
 (¬ (t7 = 123) →
 (t7 = 125 →
 m6 t7 (decide (t7 = 125)) F0 H K) ∧
 (¬ (t7 = 125) →
 (t7 = 40 →
 m6 t7 (decide (t7 = 40)) F0 H K) ∧
 (¬ (t7 = 40) →
 (t7 = 41 →
 m6 t7 (decide (t7 = 41)) F0 H K) ∧
 (¬ (t7 = 41) →
 (t7 = 91 →
 m6 t7 (decide (t7 = 91)) F0 H K) ∧
 (¬ (t7 = 91) →
 (t7 = 93 →
 m6 t7 (decide (t7 = 93)) F0 H K) ∧
 (¬ (t7 = 93) →
 (t7 = 61 →
 m6 t7 (decide (t7 = 61)) F0 H K) ∧
 (¬ (t7 = 61) →
 (t7 = 33 →
 m6 t7 (decide (t7 = 33)) F0 H K) ∧
 (¬ (t7 = 33) →
 (t7 = 60 →
 m6 t7 (decide (t7 = 60)) F0 H K) ∧
 (¬ (t7 = 60) →
 (t7 = 62 →
 m6 t7 (decide (t7 = 62)) F0 H K) ∧
 (¬ (t7 = 62) →
 (t7 = 43 →
 m6 t7 (decide (t7 = 43)) F0 H K) ∧
 (¬ (t7 = 43) →
 (t7 = 45 →
 m6 t7 (decide (t7 = 45)) F0 H K) ∧
 (¬ (t7 = 45) →
 (t7 = 42 →
 m6 t7 (decide (t7 = 42)) F0 H K) ∧
 (¬ (t7 = 42) →
 (t7 = 47 →
 m6 t7 (decide (t7 = 47)) F0 H K) ∧
 (¬ (t7 = 47) →
 (t7 = 37 →
 m6 t7 (decide (t7 = 37)) F0 H K) ∧
 (¬ (t7 = 37) →
 (t7 = 38 →
 m6 t7 (decide (t7 = 38)) F0 H K) ∧
 (¬ (t7 = 38) →
 m6 t7 (decide (t7 = 124)) F0 H K))))))))))))))))))))
def a1L (x0 : Int) (H : Hp) (K : Int → Hp → Prop) : Prop :=
 (x0 = 32 →
 M1 x0 (decide (x0 = 32)) x0 H K) ∧
 (¬ (x0 = 32) →
 (x0 = 9 →
 M1 x0 (decide (x0 = 9)) x0 H K) ∧
 (¬ (x0 = 9) →
 M1 x0 (decide (x0 = 13)) x0 H K))
theorem b2z (x0 : Int) {K : Int → Hp → Prop} (I : Inv w0 ps0 H0 H [] w) (hR : ∀ (r0 : Int) (H' : Hp) (w' : World) (_ : Inv w0 ps0 H0 H' [] w') (_ : K r0 H'), R (vi r0) w') (h : a1L x0 H K) : c8d (Value.int .i32 x0) w R E := by
 unfold a1L at h
 unfold c8d
 refine M5 I (cs := [(Value.int .i32 x0)]) rfl fun g_2 w_3 I_4 k_5 => ?_
 refine d6 (ld1 Tryd.isAgg21 (I_4.at1 (o := 0) (vs := [(Value.int .i32 x0)]) (nb rfl) rfl)) ?_
 have hj1 : ∀ (b2t : Bool) (H : Hp) (w : World) (_ : Inv w0 ps0 H0 H [bx g_2 21 [(Value.int .i32 x0)]] w) (_ : M1 x0 b2t x0 H K), b9O (Value.pointer (some ⟨g_2, 0, none⟩)) (Value.int .i32 x0) (vB b2t) w R E := by
  intro b2t H w I h
  unfold b9O
  intro _
  unfold M1 at h
  refine p5 (fun d4W => ?_) (fun d4W => ?_)
  ·replace h := h.1 d4W
   exact hR 1 H _ I.drop h
  ·replace h := h.2 d4W
   refine a7 (l0 _ _ _ _ _ _) ?_
   refine j7 (fun d4X => ?_) (fun d4X => ?_)
   ·replace h := h.1 d4X
    exact hR 2 H _ I.drop h
   ·replace h := h.2 d4X
    have hj2 : ∀ (b2y : Bool) (H : Hp) (w : World) (_ : Inv w0 ps0 H0 H [bx g_2 21 [(Value.int .i32 x0)]] w) (_ : m6 x0 b2y x0 H K), b9N (Value.pointer (some ⟨g_2, 0, none⟩)) (Value.int .i32 x0) (vB b2y) w R E := by
     intro b2y H w I h
     unfold b9N
     intro _
     unfold m6 at h
     refine p5 (fun d4Y => ?_) (fun d4Y => ?_)
     ·replace h := h.1 d4Y
      exact hR 5 H _ I.drop h
     ·replace h := h.2 d4Y
      have hj3 : ∀ (b5r : Bool) (H : Hp) (w : World) (_ : Inv w0 ps0 H0 H [bx g_2 21 [(Value.int .i32 x0)]] w) (_ : M0 b5r x0 H K), b9M (Value.pointer (some ⟨g_2, 0, none⟩)) (vB b5r) w R E := by
       intro b5r H w I h
       unfold b9M
       intro _
       unfold M0 at h
       refine p5 (fun b6S => ?_) (fun b6S => ?_)
       ·replace h := h.1 b6S
        exact hR 6 H _ I.drop h
       ·replace h := h.2 b6S
        refine a7 (b0m _ _ _) ?_
        refine d8 (cap := [(Value.pointer (some ⟨g_2, 0, none⟩))]) (fun args w => Tryd.call151 args w) ?_
        refine m9 (Fi := [bx g_2 21 [(Value.int .i32 x0)]]) (Fr := []) I (h g_2) (fun c8I H_6 c8J w_7 I_8 c8K k_9 b2s => ?_) (fun _ _ _ _ _ q => q.elim)
        obtain ⟨a0D, rfl, rfl, h⟩ := b2s
        refine p5 (fun d4Z => ?_) (fun d4Z => ?_)
        ·replace h := h.1 d4Z
         exact hR 4 H_6 _ I_8.drop h
        ·replace h := h.2 d4Z
         have hj4 : ∀ (b5q : Bool) (H : Hp) (w : World) (_ : Inv w0 ps0 H0 H [bx g_2 21 [(Value.int .i32 x0)]] w) (_ : B5 b5q x0 H K), b9L (vB b5q) w R E := by
          intro b5q H w I h
          unfold b9L
          intro _
          unfold B5 at h
          refine p5 (fun a5j => ?_) (fun a5j => ?_)
          ·replace h := h.1 a5j
           exact hR 3 H _ I.drop h
          ·replace h := h.2 a5j
           exact hR 6 H _ I.drop h
         refine A8 fun j4 hx4 => ?_
         refine d6 (ld1 Tryd.isAgg21 (I_8.at1 (o := 0) (vs := [(Value.int .i32 x0)]) (nb rfl) rfl)) ?_
         refine a7 (l0 _ _ _ _ _ _) ?_
         refine j7 (fun d5a => ?_) (fun d5a => ?_)
         ·replace h := h.1 d5a
          exact hx4 _ _ (hj4 (decide (x0 = 95)) H_6 _ I_8 h)
         ·replace h := h.2 d5a
          refine d8 (cap := [(Value.pointer (some ⟨g_2, 0, none⟩))]) (fun args w => Tryd.call151 args w) ?_
          refine m9 (Fi := [bx g_2 21 [(Value.int .i32 x0)]]) (Fr := []) I_8 (h g_2) (fun c8C a0i c8D a2H a5e c0h c8E b2j => ?_) (fun _ _ _ _ _ q => q.elim)
          obtain ⟨Q0, rfl, rfl, h⟩ := b2j
          refine p5 (fun d5b => ?_) (fun d5b => ?_)
          ·replace h := h.1 d5b
           exact hx4 _ _ (hj4 Q0 a0i _ a5e h)
          ·replace h := h.2 d5b
           refine d8 (cap := [(Value.pointer (some ⟨g_2, 0, none⟩))]) (fun args w => Tryd.call151 args w) ?_
           refine m9 (Fi := [bx g_2 21 [(Value.int .i32 x0)]]) (Fr := []) a5e (h g_2) (fun g8z c8O g8A A9 b2A f0U g4J g4K => ?_) (fun _ _ _ _ _ q => q.elim)
           obtain ⟨b8q, rfl, rfl, h⟩ := g4K
           refine p5 (fun d5c => ?_) (fun d5c => ?_)
           ·replace h := h.1 d5c
            exact hx4 _ _ (hj4 b8q c8O _ b2A h)
           ·replace h := h.2 d5c
            refine d8 (cap := [(Value.pointer (some ⟨g_2, 0, none⟩))]) (fun args w => Tryd.call151 args w) ?_
            refine m9 (Fi := [bx g_2 21 [(Value.int .i32 x0)]]) (Fr := []) b2A (h g_2) (fun g8B c8P g8C b0C a7p b3Y c8G g4L => ?_) (fun _ _ _ _ _ q => q.elim)
            obtain ⟨b8r, rfl, rfl, h⟩ := g4L
            refine p5 (fun d5d => ?_) (fun d5d => ?_)
            ·replace h := h.1 d5d
             exact hx4 _ _ (hj4 b8r c8P _ a7p h)
            ·replace h := h.2 d5d
             refine d8 (cap := [(Value.pointer (some ⟨g_2, 0, none⟩))]) (fun args w => Tryd.call151 args w) ?_
             refine m9 (Fi := [bx g_2 21 [(Value.int .i32 x0)]]) (Fr := []) a7p (h g_2) (fun g4M a4J g4N G4 c0n g4O g4P a3J => ?_) (fun _ _ _ _ _ q => q.elim)
             obtain ⟨a3i, rfl, rfl, h⟩ := a3J
             refine p5 (fun d5e => ?_) (fun d5e => ?_)
             ·replace h := h.1 d5e
              exact hx4 _ _ (hj4 a3i a4J _ c0n h)
             ·replace h := h.2 d5e
              refine d8 (cap := [(Value.pointer (some ⟨g_2, 0, none⟩))]) (fun args w => Tryd.call151 args w) ?_
              refine m9 (Fi := [bx g_2 21 [(Value.int .i32 x0)]]) (Fr := []) c0n (h g_2) (fun g8D d4V g8E f0V g4Q g8F g8G g4R => ?_) (fun _ _ _ _ _ q => q.elim)
              obtain ⟨c8Q, rfl, rfl, h⟩ := g4R
              exact hx4 _ _ (hj4 c8Q d4V _ g4Q h)
      refine A8 fun j3 hx3 => ?_
      refine a7 (l0 _ _ _ _ _ _) ?_
      refine j7 (fun b6T => ?_) (fun b6T => ?_)
      ·replace h := h.1 b6T
       exact hx3 _ _ (hj3 (decide (x0 = 215)) H _ I h)
      ·replace h := h.2 b6T
       refine a7 (l0 _ _ _ _ _ _) ?_
       refine j7 (fun a8I => ?_) (fun a8I => ?_)
       ·replace h := h.1 a8I
        exact hx3 _ _ (hj3 (decide (x0 = 247)) H _ I h)
       ·replace h := h.2 a8I
        refine a7 (l0 _ _ _ _ _ _) ?_
        exact hx3 _ _ (hj3 (decide (x0 = 930)) H _ I h)
    refine A8 fun j2 hx2 => ?_
    refine a7 (l0 _ _ _ _ _ _) ?_
    refine j7 (fun d5f => ?_) (fun d5f => ?_)
    ·replace h := h.1 d5f
     exact hx2 _ _ (hj2 (decide (x0 = 59)) H _ I h)
    ·replace h := h.2 d5f
     refine a7 (l0 _ _ _ _ _ _) ?_
     refine j7 (fun a8J => ?_) (fun a8J => ?_)
     ·replace h := h.1 a8J
      exact hx2 _ _ (hj2 (decide (x0 = 44)) H _ I h)
     ·replace h := h.2 a8J
      refine a7 (l0 _ _ _ _ _ _) ?_
      refine j7 (fun b6P => ?_) (fun b6P => ?_)
      ·replace h := h.1 b6P
       exact hx2 _ _ (hj2 (decide (x0 = 123)) H _ I h)
      ·replace h := h.2 b6P
       refine a7 (l0 _ _ _ _ _ _) ?_
       refine j7 (fun d5g => ?_) (fun d5g => ?_)
       ·replace h := h.1 d5g
        exact hx2 _ _ (hj2 (decide (x0 = 125)) H _ I h)
       ·replace h := h.2 d5g
        refine a7 (l0 _ _ _ _ _ _) ?_
        refine j7 (fun d5h => ?_) (fun d5h => ?_)
        ·replace h := h.1 d5h
         exact hx2 _ _ (hj2 (decide (x0 = 40)) H _ I h)
        ·replace h := h.2 d5h
         refine a7 (l0 _ _ _ _ _ _) ?_
         refine j7 (fun d5i => ?_) (fun d5i => ?_)
         ·replace h := h.1 d5i
          exact hx2 _ _ (hj2 (decide (x0 = 41)) H _ I h)
         ·replace h := h.2 d5i
          refine a7 (l0 _ _ _ _ _ _) ?_
          refine j7 (fun b6U => ?_) (fun b6U => ?_)
          ·replace h := h.1 b6U
           exact hx2 _ _ (hj2 (decide (x0 = 91)) H _ I h)
          ·replace h := h.2 b6U
           refine a7 (l0 _ _ _ _ _ _) ?_
           refine j7 (fun b6Q => ?_) (fun b6Q => ?_)
           ·replace h := h.1 b6Q
            exact hx2 _ _ (hj2 (decide (x0 = 93)) H _ I h)
           ·replace h := h.2 b6Q
            refine a7 (l0 _ _ _ _ _ _) ?_
            refine j7 (fun d5j => ?_) (fun d5j => ?_)
            ·replace h := h.1 d5j
             exact hx2 _ _ (hj2 (decide (x0 = 61)) H _ I h)
            ·replace h := h.2 d5j
             refine a7 (l0 _ _ _ _ _ _) ?_
             refine j7 (fun d5k => ?_) (fun d5k => ?_)
             ·replace h := h.1 d5k
              exact hx2 _ _ (hj2 (decide (x0 = 33)) H _ I h)
             ·replace h := h.2 d5k
              refine a7 (l0 _ _ _ _ _ _) ?_
              refine j7 (fun d5l => ?_) (fun d5l => ?_)
              ·replace h := h.1 d5l
               exact hx2 _ _ (hj2 (decide (x0 = 60)) H _ I h)
              ·replace h := h.2 d5l
               refine a7 (l0 _ _ _ _ _ _) ?_
               refine j7 (fun d5m => ?_) (fun d5m => ?_)
               ·replace h := h.1 d5m
                exact hx2 _ _ (hj2 (decide (x0 = 62)) H _ I h)
               ·replace h := h.2 d5m
                refine a7 (l0 _ _ _ _ _ _) ?_
                refine j7 (fun d5n => ?_) (fun d5n => ?_)
                ·replace h := h.1 d5n
                 exact hx2 _ _ (hj2 (decide (x0 = 43)) H _ I h)
                ·replace h := h.2 d5n
                 refine a7 (l0 _ _ _ _ _ _) ?_
                 refine j7 (fun b6V => ?_) (fun b6V => ?_)
                 ·replace h := h.1 b6V
                  exact hx2 _ _ (hj2 (decide (x0 = 45)) H _ I h)
                 ·replace h := h.2 b6V
                  refine a7 (l0 _ _ _ _ _ _) ?_
                  refine j7 (fun b6W => ?_) (fun b6W => ?_)
                  ·replace h := h.1 b6W
                   exact hx2 _ _ (hj2 (decide (x0 = 42)) H _ I h)
                  ·replace h := h.2 b6W
                   refine a7 (l0 _ _ _ _ _ _) ?_
                   refine j7 (fun d5o => ?_) (fun d5o => ?_)
                   ·replace h := h.1 d5o
                    exact hx2 _ _ (hj2 (decide (x0 = 47)) H _ I h)
                   ·replace h := h.2 d5o
                    refine a7 (l0 _ _ _ _ _ _) ?_
                    refine j7 (fun d5p => ?_) (fun d5p => ?_)
                    ·replace h := h.1 d5p
                     exact hx2 _ _ (hj2 (decide (x0 = 37)) H _ I h)
                    ·replace h := h.2 d5p
                     refine a7 (l0 _ _ _ _ _ _) ?_
                     refine j7 (fun b6X => ?_) (fun b6X => ?_)
                     ·replace h := h.1 b6X
                      exact hx2 _ _ (hj2 (decide (x0 = 38)) H _ I h)
                     ·replace h := h.2 b6X
                      refine a7 (l0 _ _ _ _ _ _) ?_
                      exact hx2 _ _ (hj2 (decide (x0 = 124)) H _ I h)
 refine A8 fun j1 hx1 => ?_
 refine a7 (l0 _ _ _ _ _ _) ?_
 refine j7 (fun d5q => ?_) (fun d5q => ?_)
 ·replace h := h.1 d5q
  exact hx1 _ _ (hj1 (decide (x0 = 32)) H _ I_4 h)
 ·replace h := h.2 d5q
  refine a7 (l0 _ _ _ _ _ _) ?_
  refine j7 (fun d5r => ?_) (fun d5r => ?_)
  ·replace h := h.1 d5r
   exact hx1 _ _ (hj1 (decide (x0 = 9)) H _ I_4 h)
  ·replace h := h.2 d5r
   refine a7 (l0 _ _ _ _ _ _) ?_
   exact hx1 _ _ (hj1 (decide (x0 = 13)) H _ I_4 h)
theorem b3k (x0 : Int) {H : Hp} {K : Int → Hp → Prop} (h : a1L x0 H K) : a1I x0 H K := by
 intro w I
 refine e0M ?_
 refine b2z x0 I (fun r0 H' w' I' hk => ⟨H', _, I', r0, rfl, rfl, hk⟩) h
def a1M (x0 : Int) (H : Hp) (K : Bool → Hp → Prop) : Prop :=
 a1I x0 H (fun (E7 : Int) (H_1 : Hp) =>
 K ((decide (E7 = 3)) || (decide (E7 = 4))) H_1)
theorem b2B (x0 : Int) {K : Bool → Hp → Prop} (I : Inv w0 ps0 H0 H [] w) (hR : ∀ (r0 : Bool) (H' : Hp) (w' : World) (_ : Inv w0 ps0 H0 H' [] w') (_ : K r0 H'), R (vB r0) w') (h : a1M x0 H K) : c8c (Value.int .i32 x0) w R E := by
 unfold a1M at h
 unfold c8c
 refine d8 (cap := []) (fun args w => Tryd.call141 args w) ?_
 refine m9 (Fi := []) (Fr := []) I (h) (fun v_5 H_1 F_6 w_2 I_3 l_8 k_4 q_7 => ?_) (fun _ _ _ _ _ q => q.elim)
 obtain ⟨E7, rfl, rfl, h⟩ := q_7
 refine a7 (l0 _ _ _ _ _ _) ?_
 simp only [P6]
 refine a7 (Pu.g fun hb => by have j9 := hb; simp only [s6 j9]; exact (l0 _ _ _ _ _ _)) ?_
 refine a7 (a1X _ _) ?_
 exact hR ((decide (E7 = 3)) || (decide (E7 = 4))) H_1 _ I_3 h
theorem b3l (x0 : Int) {H : Hp} {K : Bool → Hp → Prop} (h : a1M x0 H K) : a3G x0 H K := by
 intro w I
 refine e0K ?_
 refine b2B x0 I (fun r0 H' w' I' hk => ⟨H', _, I', r0, rfl, rfl, hk⟩) h
def O6 (H : Hp) (K : Int → Hp → Prop) : Prop :=
 K (-1) H
def O7 (g0I : (List ByteArray)) (c3Z : ByteArray) (a5n : Int) (a0V : Int) (H : Hp) (n2 : Int → Hp → Prop) (K : Int → Hp → Prop) : Prop :=
 (a0V < a5n →
 (0 : Int) ≤ a0V ∧ ∃ x_1 : ByteArray, (g0I)[(a0V : Int).toNat]? = some x_1 ∧
 (c3Z = x_1 →
 K a0V H) ∧
 (¬ (c3Z = x_1) →
 n2 (IntKind.wrap .i64 (a0V + 1)) H)) ∧
 (¬ (a0V < a5n) →
 O6 H K)
def S1 (x0 : (List ByteArray)) (x1 : ByteArray) (H : Hp) (K : Int → Hp → Prop) : Prop :=
 TL (0 : Int) H fun (s : Int) H n2 => O7 x0 x1 (x0.length : Int) s H n2 K
theorem a6f (x0 : (List ByteArray)) (x1 : ByteArray) (sx0 : Sl) (Fx0 : Frag) (hx0 : RowL 9 1 C8 sx0 x0 Fx0) {K : Int → Hp → Prop} (I : Inv w0 ps0 H0 H [Fx0] w) (hR : ∀ (r0 : Int) (H' : Hp) (w' : World) (_ : Inv w0 ps0 H0 H' [Fx0] w') (_ : K r0 H'), R (vi r0) w') (h : S1 x0 x1 H K) : c8e (vs sx0) (Value.string x1) w R E := by
 unfold S1 at h
 unfold c8e
 have hj1 : ∀ (H : Hp) (w : World) (_ : Inv w0 ps0 H0 H [Fx0] w) (_ : O6 H K), b9P w R E := by
  intro H w I h
  unfold b9P
  intro _
  unfold O6 at h
  exact hR (-1) H _ I h
 refine A8 fun j1 hx1 => ?_
 refine a7 (b7N Tryd.underlying104 hx0) ?_
 obtain ⟨d5s, c4j, g4S, g4T⟩ := h
 refine M7 (J := fun n l w => ∃ (s : Int) (H : Hp) , n = c4j s ∧ l = [(vi s)] ∧ Inv w0 ps0 H0 H [Fx0] w ∧ d5s s H) ⟨_, 0, H, rfl, rfl, I, g4S⟩ ?_
 rintro g8H τ_15 w next2 ⟨a0V, H, rfl, d5t, I, S2⟩ hn2
 simp only [List.map_cons, List.map_nil, List.cons.injEq, and_true] at d5t
 have e8 := d5t
 simp only [e8]
 obtain ⟨n2, hm2, h⟩ : ∃ n2 : Int → Hp → Prop, (∀ s' H', n2 s' H' → d5s s' H' ∧ c4j s' < c4j a0V) ∧ O7 x0 x1 (x0.length : Int) a0V H n2 K := ⟨_, fun _ _ h => h, g4T a0V H (fun s' H' => d5s s' H' ∧ c4j s' < c4j a0V) S2 (fun _ _ a b => ⟨a, b⟩)⟩
 unfold c6V
 unfold O7 at h
 refine a7 (C5 _ _ _ _ _ _) ?_
 refine j7 (fun c_9 => ?_) (fun c_9 => ?_)
 ·replace h := h.1 c_9
  obtain ⟨h_3, x_1, h_4, h⟩ := h
  obtain ⟨g_2, a_6, h_5, h_7⟩ := hx0.addr h_4
  refine a7 (d1q h_5 _ _ _ _ h_3 (hx0.lt h_3 h_4)) ?_
  refine d6 (ld1 (v := (Value.string x_1)) Tryd.isAgg9 (hx0.atW I h_5 h_4)) ?_
  refine a7 (a1d _ _ _ _ _) ?_
  refine j7 (fun c_8 => ?_) (fun c_8 => ?_)
  ·replace h := h.1 c_8
   exact hR a0V H _ I h
  ·replace h := h.2 c_8
   refine a7 (J0 _ _ _ _ _ _) ?_
   exact hn2 _ _ _ (hm2 _ _ h).2 ⟨(IntKind.wrap .i64 (a0V + 1)), H, rfl, rfl, I, (hm2 _ _ h).1⟩
 ·replace h := h.2 c_9
  exact hx1 _ _ (hj1 H _ I h)
theorem a6B (x0 : (List ByteArray)) (x1 : ByteArray) {H : Hp} {K : Int → Hp → Prop} (h : S1 x0 x1 H K) : a0e x0 x1 H K := by
 intro sx0 Fx0 hx0 w I
 refine e0O ?_
 refine a6f x0 x1 sx0 Fx0 hx0 I (fun r0 H' w' I' hk => ⟨H', _, I', r0, rfl, rfl, hk⟩) h
def O8 (x0 : (List ByteArray)) (x1 : ByteArray) (H : Hp) (K : Bool → Hp → Prop) : Prop :=
 a0e x0 x1 H (fun (E7 : Int) (H_1 : Hp) =>
 K (decide (0 ≤ E7)) H_1)
theorem a5o (x0 : (List ByteArray)) (x1 : ByteArray) (sx0 : Sl) (Fx0 : Frag) (hx0 : RowL 9 1 C8 sx0 x0 Fx0) {K : Bool → Hp → Prop} (I : Inv w0 ps0 H0 H [Fx0] w) (hR : ∀ (r0 : Bool) (H' : Hp) (w' : World) (_ : Inv w0 ps0 H0 H' [Fx0] w') (_ : K r0 H'), R (vB r0) w') (h : O8 x0 x1 H K) : c7Z (vs sx0) (Value.string x1) w R E := by
 unfold O8 at h
 unfold c7Z
 refine d8 (cap := []) (fun args w => Tryd.call142 args w) ?_
 refine m9 (Fi := [Fx0]) (Fr := []) I (h sx0 Fx0 hx0) (fun v_5 H_1 F_6 w_2 I_3 l_8 k_4 q_7 => ?_) (fun _ _ _ _ _ q => q.elim)
 obtain ⟨E7, rfl, rfl, h⟩ := q_7
 refine a7 (b0P _ _ _ _ _ _) ?_
 exact hR (decide (0 ≤ E7)) H_1 _ I_3 h
theorem a5z (x0 : (List ByteArray)) (x1 : ByteArray) {H : Hp} {K : Bool → Hp → Prop} (h : O8 x0 x1 H K) : K4 x0 x1 H K := by
 intro sx0 Fx0 hx0 w I
 refine e0E ?_
 refine a5o x0 x1 sx0 Fx0 hx0 I (fun r0 H' w' I' hk => ⟨H', _, I', r0, rfl, rfl, hk⟩) h
def u1 (a7Z : Int) (a8a : Int) (a8b : Int) (a8c : Bool) (a8d : Bool) (a6C : (List ByteArray)) (H : Hp) (K : Bool → i7 → (List ByteArray) → Hp → Prop) : Prop :=
 K true (i7.mk a7Z a8a a8b a8c a8d (Sl.mk none 0 0)) a6C H
def U3 (x0 : i7) (U8 : (List ByteArray)) (x1 : a8) (x2 : Int) (H : Hp) (K : Bool → i7 → (List ByteArray) → Hp → Prop) : Prop :=
 (4096 < (IntKind.wrap .i64 (x0.fnodes + 1)) →
 K false (i7.mk (IntKind.wrap .i64 (x0.fnodes + 1)) x0.fdepth 33 x0.fform x0.fnamed (Sl.mk none 0 0)) U8 H) ∧
 (¬ (4096 < (IntKind.wrap .i64 (x0.fnodes + 1))) →
 (64 < x2 →
 K false (i7.mk (IntKind.wrap .i64 (x0.fnodes + 1)) x0.fdepth 32 x0.fform x0.fnamed (Sl.mk none 0 0)) U8 H) ∧
 (¬ (64 < x2) →
 TG (x0.fform = false) (a3e x1 H) false H (fun (D3 : Bool) (b4f : Hp) =>
 a0M x1 b4f (fun (a2w : ByteArray) (b2C : Bool) (a9b : Hp) =>
 (b2C = true →
 TG (x0.fnamed = false) (a2q a2w a9b) false a9b (fun (a1N : Bool) (b0D : Hp) =>
 K4 U8 a2w b0D (fun (a3i : Bool) (a4J : Hp) =>
 ((!a3i) = true →
 (U8.length + ([a2w] : List ByteArray).length) * 17 ≤ 140737488355328 ∧
 u1 (IntKind.wrap .i64 (x0.fnodes + 1)) (if x2 > x0.fdepth then x2 else x0.fdepth) x0.fe (x0.fform || (!D3)) (x0.fnamed || (!a1N)) (U8 ++ [a2w]) a4J K) ∧
 ((!a3i) = false →
 u1 (IntKind.wrap .i64 (x0.fnodes + 1)) (if x2 > x0.fdepth then x2 else x0.fdepth) x0.fe (x0.fform || (!D3)) (x0.fnamed || (!a1N)) U8 a4J K)))) ∧
 (b2C = false →
 u1 (IntKind.wrap .i64 (x0.fnodes + 1)) (if x2 > x0.fdepth then x2 else x0.fdepth) x0.fe (x0.fform || (!D3)) x0.fnamed U8 a9b K)))))
theorem a7b (x0 : i7) (U8 : (List ByteArray)) (x1 : a8) (x2 : Int) (g0 : Nat) (T3 : Sl) (a2d : Frag) (b0c : RowL 9 1 C8 T3 U8 a2d) {K : Bool → i7 → (List ByteArray) → Hp → Prop} (I : Inv w0 ps0 H0 H [bx g0 106 [(vi x0.fnodes), (vi x0.fdepth), (vi x0.fe), (vB x0.fform), (vB x0.fnamed), (vs T3)], a2d] w) (hR : ∀ (r0 : Bool) (y0 : i7) (a5c : (List ByteArray)) (a2Z : Sl) (a3b : Frag) (H' : Hp) (w' : World) (_ : RowL 9 1 C8 a2Z a5c a3b) (_ : Inv w0 ps0 H0 H' [bx g0 106 [(vi y0.fnodes), (vi y0.fdepth), (vi y0.fe), (vB y0.fform), (vB y0.fnamed), (vs a2Z)], a3b] w') (_ : K r0 y0 a5c H'), R (vB r0) w') (h : U3 x0 U8 x1 x2 H K) : c7W (Value.pointer (some ⟨g0, 0, none⟩)) (u7 x1) (vi x2) w R E := by
 unfold U3 at h
 unfold c7W
 refine a7 (r5 _) ?_
 refine a7 b0n ?_
 refine d6 (ld1 Tryd.isAgg3 (I.at1 (o := 0) (vs := [(vi x0.fnodes)]) (nb rfl) rfl)) ?_
 refine a7 (J0 _ _ _ _ _ _) ?_
 refine a7 (r5 _) ?_
 refine a7 b0n ?_
 refine o7 I Tryd.sizeOf3 (vs := [(vi (IntKind.wrap .i64 (x0.fnodes + 1)))]) (cs' := [(vi (IntKind.wrap .i64 (x0.fnodes + 1))), (vi x0.fdepth), (vi x0.fe), (vB x0.fform), (vB x0.fnamed), (vs T3)]) rfl rfl (nb rfl) rfl rfl fun w_1 I_2 k_3 => ?_
 refine a7 (r5 _) ?_
 refine a7 b0n ?_
 refine d6 (ld1 Tryd.isAgg3 (I_2.at1 (o := 0) (vs := [(vi (IntKind.wrap .i64 (x0.fnodes + 1)))]) (nb rfl) rfl)) ?_
 refine a7 (a1W _ _ _ _ _ _) ?_
 refine j7 (fun b6V => ?_) (fun b6V => ?_)
 ·replace h := h.1 b6V
  refine a7 (r5 _) ?_
  refine a7 a4M ?_
  refine o7 I_2 Tryd.sizeOf29 (vs := [(vi 33)]) (cs' := [(vi (IntKind.wrap .i64 (x0.fnodes + 1))), (vi x0.fdepth), (vi 33), (vB x0.fform), (vB x0.fnamed), (vs T3)]) rfl rfl (nb rfl) rfl rfl fun w_4 I_5 k_6 => ?_
  exact hR false (i7.mk (IntKind.wrap .i64 (x0.fnodes + 1)) x0.fdepth 33 x0.fform x0.fnamed (Sl.mk none 0 0)) U8 T3 a2d H _ b0c ((I_5.bring 1).bring 1) h
 ·replace h := h.2 b6V
  refine a7 (a1W _ _ _ _ _ _) ?_
  refine j7 (fun b6W => ?_) (fun b6W => ?_)
  ·replace h := h.1 b6W
   refine a7 (r5 _) ?_
   refine a7 a4M ?_
   refine o7 I_2 Tryd.sizeOf29 (vs := [(vi 32)]) (cs' := [(vi (IntKind.wrap .i64 (x0.fnodes + 1))), (vi x0.fdepth), (vi 32), (vB x0.fform), (vB x0.fnamed), (vs T3)]) rfl rfl (nb rfl) rfl rfl fun w_7 I_8 k_9 => ?_
   exact hR false (i7.mk (IntKind.wrap .i64 (x0.fnodes + 1)) x0.fdepth 32 x0.fform x0.fnamed (Sl.mk none 0 0)) U8 T3 a2d H _ b0c ((I_8.bring 1).bring 1) h
  ·replace h := h.2 b6W
   refine a7 (r5 _) ?_
   refine a7 b6g ?_
   refine d6 (ld1 Tryd.isAgg3 (I_2.at1 (o := 1) (vs := [(vi x0.fdepth)]) (nb rfl) rfl)) ?_
   refine a7 (e6q _ _ _ _ _) ?_
   refine a7 (r5 _) ?_
   refine a7 b6g ?_
   refine o7 I_2 Tryd.sizeOf3 (vs := [(vi (if x2 > x0.fdepth then x2 else x0.fdepth))]) (cs' := [(vi (IntKind.wrap .i64 (x0.fnodes + 1))), (vi (if x2 > x0.fdepth then x2 else x0.fdepth)), (vi x0.fe), (vB x0.fform), (vB x0.fnamed), (vs T3)]) rfl rfl (nb rfl) rfl rfl fun o3 a3U b6G => ?_
   refine a7 (r5 _) ?_
   refine a7 b0p ?_
   refine d6 (ld1 Tryd.isAgg4 (a3U.at1 (o := 3) (vs := [(vB x0.fform)]) (nb rfl) rfl)) ?_
   simp only [P6]
   refine a6T (D := fun d4z o9 => ∃ (D3 : Bool) (b4f : Hp), d4z = (gv x0.fform false (vB D3)) ∧ (Inv w0 ps0 H0 b4f [bx g0 106 [(vi (IntKind.wrap .i64 (x0.fnodes + 1))), (vi (if x2 > x0.fdepth then x2 else x0.fdepth)), (vi x0.fe), (vB x0.fform), (vB x0.fnamed), (vs T3)], a2d] o9) ∧ (∀ i, i < o3.heap.size → ¬ inF [] i → o9.heap[i]? = o3.heap[i]?) ∧ Hle H b4f ∧ (a0M x1 b4f (fun (a2w : ByteArray) (b2C : Bool) (a9b : Hp) =>
 (b2C = true →
 TG (x0.fnamed = false) (a2q a2w a9b) false a9b (fun (a1N : Bool) (b0D : Hp) =>
 K4 U8 a2w b0D (fun (a3i : Bool) (a4J : Hp) =>
 ((!a3i) = true →
 (U8.length + ([a2w] : List ByteArray).length) * 17 ≤ 140737488355328 ∧
 u1 (IntKind.wrap .i64 (x0.fnodes + 1)) (if x2 > x0.fdepth then x2 else x0.fdepth) x0.fe (x0.fform || (!D3)) (x0.fnamed || (!a1N)) (U8 ++ [a2w]) a4J K) ∧
 ((!a3i) = false →
 u1 (IntKind.wrap .i64 (x0.fnodes + 1)) (if x2 > x0.fdepth then x2 else x0.fdepth) x0.fe (x0.fform || (!D3)) (x0.fnamed || (!a1N)) U8 a4J K)))) ∧
 (b2C = false →
 u1 (IntKind.wrap .i64 (x0.fnodes + 1)) (if x2 > x0.fdepth then x2 else x0.fdepth) x0.fe (x0.fform || (!D3)) x0.fnamed U8 a9b K)))) (fun c4k => ?_) (fun c4k => ?_) ?_
   ·replace h := h.1 c4k
    have j9 := c4k
    simp only [s6 j9]
    refine b0W a3U h (fun D3 b4f o9 c3J c0b d4t h => ?_)
    exact ⟨D3, b4f, by rfl, c3J, d4t, c0b, h⟩
   ·exact ⟨false, H, by rw [b1D c4k], a3U, fun _ _ _ => rfl, Hle.refl _, h.2 c4k⟩
   ·clear h
    rintro d4z o9 ⟨D3, b4f, rfl, c3J, d4t, c0b, h⟩
    refine a7 (Pu.g fun hb => by have j9 := hb; simp only [s6 j9]; exact (a1b _)) ?_
    refine a7 (a1X _ _) ?_
    refine a7 (r5 _) ?_
    refine a7 b0p ?_
    refine o7 c3J Tryd.sizeOf4 (vs := [(vB (x0.fform || (!D3)))]) (cs' := [(vi (IntKind.wrap .i64 (x0.fnodes + 1))), (vi (if x2 > x0.fdepth then x2 else x0.fdepth)), (vi x0.fe), (vB (x0.fform || (!D3))), (vB x0.fnamed), (vs T3)]) rfl rfl (nb rfl) rfl rfl fun a2U c8A g4q => ?_
    have hj1 : ∀ (a7Z : Int) (a8a : Int) (a8b : Int) (a8c : Bool) (a8d : Bool) (a6C : (List ByteArray)) (b2D : Sl) (b2E : Frag) (H : Hp) (w : World) (_ : RowL 9 1 C8 b2D a6C b2E) (_ : Inv w0 ps0 H0 H [bx g0 106 [(vi a7Z), (vi a8a), (vi a8b), (vB a8c), (vB a8d), (vs b2D)], b2E] w) (_ : u1 a7Z a8a a8b a8c a8d a6C H K), b9D w R E := by
     intro a7Z a8a a8b a8c a8d a6C b2D b2E H w d5u I h
     unfold b9D
     intro _
     unfold u1 at h
     exact hR true (i7.mk a7Z a8a a8b a8c a8d (Sl.mk none 0 0)) a6C b2D b2E H _ d5u ((I.bring 1).bring 1) h
    refine A8 fun j1 hx1 => ?_
    refine d8 (cap := []) (fun args w => Tryd.call118 args w) ?_
    refine m9 (Fi := []) (Fr := [bx g0 106 [(vi (IntKind.wrap .i64 (x0.fnodes + 1))), (vi (if x2 > x0.fdepth then x2 else x0.fdepth)), (vi x0.fe), (vB (x0.fform || (!D3))), (vB x0.fnamed), (vs T3)], a2d]) c8A (h) (fun g8I a9b c0i a3F b0E g8J f0W g4U => ?_) (fun _ _ _ _ _ q => q.elim)
    obtain ⟨a2w, b2C, rfl, rfl, h⟩ := g4U
    refine a7 (o2 _ _ (Value.string a2w) rfl) ?_
    refine a7 (o2 _ _ (vB b2C) rfl) ?_
    refine p5 (fun b6X => ?_) (fun b6X => ?_)
    ·replace h := h.1 b6X
     refine a7 (r5 _) ?_
     refine a7 b0q ?_
     refine d6 (ld1 Tryd.isAgg4 (b0E.at1 (o := 4) (vs := [(vB x0.fnamed)]) (nb rfl) rfl)) ?_
     simp only [P6]
     refine a6T (D := fun d5v C3 => ∃ (a1N : Bool) (b0D : Hp) , d5v = (gv x0.fnamed false (vB a1N)) ∧ (Inv w0 ps0 H0 b0D [bx g0 106 [(vi (IntKind.wrap .i64 (x0.fnodes + 1))), (vi (if x2 > x0.fdepth then x2 else x0.fdepth)), (vi x0.fe), (vB (x0.fform || (!D3))), (vB x0.fnamed), (vs T3)], a2d] C3) ∧ (∀ i, i < a3F.heap.size → ¬ inF [] i → C3.heap[i]? = a3F.heap[i]?) ∧ Hle a9b b0D ∧ (K4 U8 a2w b0D (fun (a3i : Bool) (a4J : Hp) =>
 ((!a3i) = true →
 (U8.length + ([a2w] : List ByteArray).length) * 17 ≤ 140737488355328 ∧
 u1 (IntKind.wrap .i64 (x0.fnodes + 1)) (if x2 > x0.fdepth then x2 else x0.fdepth) x0.fe (x0.fform || (!D3)) (x0.fnamed || (!a1N)) (U8 ++ [a2w]) a4J K) ∧
 ((!a3i) = false →
 u1 (IntKind.wrap .i64 (x0.fnodes + 1)) (if x2 > x0.fdepth then x2 else x0.fdepth) x0.fe (x0.fform || (!D3)) (x0.fnamed || (!a1N)) U8 a4J K)))) (fun c4l => ?_) (fun c4l => ?_) ?_
     ·replace h := h.1 c4l
      have j9 := c4l
      simp only [s6 j9]
      refine d8 (cap := []) (fun args w => Tryd.call119 args w) ?_
      refine m9 (Fi := []) (Fr := [bx g0 106 [(vi (IntKind.wrap .i64 (x0.fnodes + 1))), (vi (if x2 > x0.fdepth then x2 else x0.fdepth)), (vi x0.fe), (vB (x0.fform || (!D3))), (vB x0.fnamed), (vs T3)], a2d]) b0E (h) (fun d5v b0D g8K C3 c3R f0X f0Y g4V => ?_) (fun _ _ _ _ _ q => q.elim)
      obtain ⟨a1N, rfl, rfl, h⟩ := g4V
      exact ⟨a1N, b0D, by rfl, c3R, f0Y, f0X, h⟩
     ·exact ⟨false, a9b, by rw [b1D c4l], b0E, fun _ _ _ => rfl, Hle.refl _, h.2 c4l⟩
     ·clear h
      rintro d5v C3 ⟨a1N, b0D, rfl, c3R, f0Y, f0X, h⟩
      refine a7 (Pu.g fun hb => by have j9 := hb; simp only [s6 j9]; exact (a1b _)) ?_
      refine a7 (a1X _ _) ?_
      refine a7 (r5 _) ?_
      refine a7 b0q ?_
      refine o7 c3R Tryd.sizeOf4 (vs := [(vB (x0.fnamed || (!a1N)))]) (cs' := [(vi (IntKind.wrap .i64 (x0.fnodes + 1))), (vi (if x2 > x0.fdepth then x2 else x0.fdepth)), (vi x0.fe), (vB (x0.fform || (!D3))), (vB (x0.fnamed || (!a1N))), (vs T3)]) rfl rfl (nb rfl) rfl rfl fun E2 c8B g4u => ?_
      refine a7 (r5 _) ?_
      refine a7 b0r ?_
      refine d6 (ld1 Tryd.isAgg104 (c8B.at1 (o := 5) (vs := [(vs T3)]) (nb rfl) rfl)) ?_
      refine d8 (cap := []) (fun args w => Tryd.call120 args w) ?_
      refine m9 (Fi := [a2d]) (Fr := [bx g0 106 [(vi (IntKind.wrap .i64 (x0.fnodes + 1))), (vi (if x2 > x0.fdepth then x2 else x0.fdepth)), (vi x0.fe), (vB (x0.fform || (!D3))), (vB (x0.fnamed || (!a1N))), (vs T3)]]) (c8B.bring 1) (h T3 a2d b0c) (fun g4M a4J g4N G4 c0n g4O g4P a3J => ?_) (fun _ _ _ _ _ q => q.elim)
      obtain ⟨a3i, rfl, rfl, h⟩ := a3J
      refine a7 (a1b _) ?_
      refine p5 (fun b6T => ?_) (fun b6T => ?_)
      ·replace h := h.1 b6T
       refine a7 (r5 _) ?_
       refine a7 b0r ?_
       refine d6 (ld1 Tryd.isAgg104 ((c0n.bring 1).at1 (o := 5) (vs := [(vs T3)]) (nb rfl) rfl)) ?_
       refine U6 (e := 9) (c := C8) (xs := [a2w]) c0n (d4l _) rfl rfl b6h b6i (nb rfl) fun a9c g4W b2v d5w c8R g4X => ?_
       obtain ⟨g4Y, h⟩ := h
       refine e0l (s := T3) (xs := U8) (c8R.bring 1) b0c (d5w.srcO ((c8R.bring 1).bring 1)) g4Y fun d5x g4Z d5y d5z g5a g8L => ?_
       refine a7 (r5 _) ?_
       refine a7 b0r ?_
       refine o7 ((g5a.bring 1).drop.bring 1) Tryd.sizeOf104 (vs := [(vs d5x)]) (cs' := [(vi (IntKind.wrap .i64 (x0.fnodes + 1))), (vi (if x2 > x0.fdepth then x2 else x0.fdepth)), (vi x0.fe), (vB (x0.fform || (!D3))), (vB (x0.fnamed || (!a1N))), (vs d5x)]) rfl rfl (nb rfl) rfl rfl fun P3 g5b g8M => ?_
       exact hx1 _ _ (hj1 (IntKind.wrap .i64 (x0.fnodes + 1)) (if x2 > x0.fdepth then x2 else x0.fdepth) x0.fe (x0.fform || (!D3)) (x0.fnamed || (!a1N)) (U8 ++ [a2w]) d5x g4Z a4J _ d5z ((g5b.bring 1).bring 1) h)
      ·replace h := h.2 b6T
       exact hx1 _ _ (hj1 (IntKind.wrap .i64 (x0.fnodes + 1)) (if x2 > x0.fdepth then x2 else x0.fdepth) x0.fe (x0.fform || (!D3)) (x0.fnamed || (!a1N)) U8 T3 a2d a4J _ b0c (c0n.bring 1) h)
    ·replace h := h.2 b6X
     exact hx1 _ _ (hj1 (IntKind.wrap .i64 (x0.fnodes + 1)) (if x2 > x0.fdepth then x2 else x0.fdepth) x0.fe (x0.fform || (!D3)) x0.fnamed U8 T3 a2d a9b _ b0c ((b0E.bring 1).bring 1) h)
theorem a7t (x0 : i7) (U8 : (List ByteArray)) (x1 : a8) (x2 : Int) {H : Hp} {K : Bool → i7 → (List ByteArray) → Hp → Prop} (h : U3 x0 U8 x1 x2 H K) : a0U x0 U8 x1 x2 H K := by
 intro g0 T3 a2d b0c w I
 refine e0w ?_
 refine a7b x0 U8 x1 x2 g0 T3 a2d b0c I (fun r0 y0 a5c a2Z a3b H' w' c4i I' hk => ⟨H', _, I', r0, y0, a5c, a2Z, a3b, rfl, rfl, c4i, hk⟩) h
def B8 (g8N : Sl) (c0o : Int) (g8O : Sl) (d9g : Int) (c8S : Int) (H : Hp) (n4 : (Int × Int) → Hp → Prop) (K : Sl → Hp → Prop) : Prop :=
 n4 (c0o, (IntKind.wrap .i64 (c8S + 1))) H
def B9 (b8s : (List a8)) (H : Hp) (K : Sl → Hp → Prop) : Prop :=
 ∀ (a6S : Sl) (b2F : Hp), Hle H b2F → SlH b2F 1 p7 a6S b8s → a6S.n ≤ a6S.c →
 K a6S b2F
def C0 (d9h : Sl) (d9i : Int) (a3j : (List a8)) (a2x : Int) (H : Hp) (n3 : ((List a8) × Int) → Hp → Prop) (K : Sl → Hp → Prop) : Prop :=
 (a2x < d9i →
 (0 : Int) ≤ a2x ∧ (a2x : Int) < d9h.n ∧ ∃ c8T : Sl, EltH H d9h a2x 1 [(vs c8T)] ∧
 ∃ b8t : List a8, SlH H 1 p7 c8T b8t ∧ (a3j.length + b8t.length) * 17 ≤ 140737488355328 ∧
 n3 ((a3j ++ b8t), (IntKind.wrap .i64 (a2x + 1))) H) ∧
 (¬ (a2x < d9i) →
 B9 a3j H K)
def C1 (c8U : Sl) (b2r : Int) (H : Hp) (K : Sl → Hp → Prop) : Prop :=
 N6 b2r H (fun (c8V : (List a8)) (H_9 : Hp) =>
 TL ((c8V, 0) : (List a8) × Int) H_9 fun (s : (List a8) × Int) H n3 => C0 c8U (c8U.n : Int) s.1 s.2 H n3 K)
def C2 (f0Z : Sl) (d5A : Sl) (c8W : Int) (a6e : Int) (a2g : Int) (H : Hp) (n4 : (Int × Int) → Hp → Prop) (K : Sl → Hp → Prop) : Prop :=
 (a2g < c8W →
 (0 : Int) ≤ a2g ∧ (a2g : Int) < d5A.n ∧ ∃ x_1 : Sl, EltH H d5A a2g 1 [(vs x_1)] ∧
 ((IntKind.wrap .i64 (a6e + (x_1.n : Int))) < 0 →
 False) ∧
 (¬ ((IntKind.wrap .i64 (a6e + (x_1.n : Int))) < 0) →
 B8 f0Z (IntKind.wrap .i64 (a6e + (x_1.n : Int))) d5A c8W a2g H n4 K)) ∧
 (¬ (a2g < c8W) →
 C1 f0Z a6e H K)
def C6 (x0 : Sl) (H : Hp) (K : Sl → Hp → Prop) : Prop :=
 TL ((0, 0) : Int × Int) H fun (s : Int × Int) H n4 => C2 x0 x0 (x0.n : Int) s.1 s.2 H n4 K
theorem a1v (x0 : Sl) {K : Sl → Hp → Prop} (I : Inv w0 ps0 H0 H [] w) (hR : ∀ (r0 : Sl) (H' : Hp) (w' : World) (_ : Inv w0 ps0 H0 H' [] w') (_ : K r0 H'), R (vs r0) w') (h : C6 x0 H K) : F87 (vs x0) w R E := by
 unfold C6 at h
 unfold F87
 have hj1 : ∀ (b2r : Int) (H : Hp) (w : World) (_ : Inv w0 ps0 H0 H [] w) (_ : C1 x0 b2r H K), c2J (vs x0) (vi b2r) w R E := by
  intro b2r H w I h
  unfold c2J
  intro _
  unfold C1 at h
  refine d8 (cap := []) (fun args w => Tryd.call117 args w) ?_
  refine m9 (Fi := []) (Fr := []) I (h) (fun g8P H_9 g8Q o3 a3U d5t b6G g5c => ?_) (fun _ _ _ _ _ q => q.elim)
  obtain ⟨c8V, f1a, f1b, rfl, rfl, f1c, h⟩ := g5c
  have hj2 : ∀ (b8s : (List a8)) (a6S : Sl) (Fs6j2 : Frag) (H : Hp) (w : World) (_ : RowL 152 1 p7 a6S b8s Fs6j2) (_ : Inv w0 ps0 H0 H [Fs6j2] w) (_ : B9 b8s H K), c2I (vs a6S) w R E := by
   intro b8s a6S Fs6j2 H w g0J I h
   unfold c2I
   intro _
   unfold B9 at h
   obtain ⟨b2F, a7p, f1d, b2k, d5B⟩ := Inv.freezeC I g0J (by decide)
   replace h := h a6S b2F f1d b2k d5B
   exact hR a6S b2F _ a7p h
  refine A8 fun j2 hx2 => ?_
  refine a7 (b7S _ _ _) ?_
  obtain ⟨d5C, c4m, g5d, g5e⟩ := h
  refine M7 (J := fun n l w => ∃ (s : (List a8) × Int) (H : Hp) (b8u : Sl) (Fs6l3 : Frag) , n = c4m s ∧ l = (match s with | (a3j, a2x) => [(vs b8u), (vi a2x)]) ∧ (match s with | (a3j, a2x) => RowL 152 1 p7 b8u a3j Fs6l3) ∧ (match s with | (a3j, a2x) => Inv w0 ps0 H0 H [Fs6l3] w) ∧ d5C s H) ⟨_, (c8V, 0), H_9, f1a, f1b, rfl, rfl, f1c, a3U, g5d⟩ ?_
  rintro g8R τ_46 w next3 ⟨⟨a3j, a2x⟩, H, b8u, Fs6l3, rfl, d5D, c8X, I, g5f⟩ hn3
  dsimp only at d5D I c8X
  simp only [List.map_cons, List.map_nil, List.cons.injEq, and_true] at d5D
  obtain ⟨e6, e27⟩ := d5D
  simp only [e6, e27]
  obtain ⟨n3, hm3, h⟩ : ∃ n3 : ((List a8) × Int) → Hp → Prop, (∀ s' H', n3 s' H' → d5C s' H' ∧ c4m s' < c4m (a3j, a2x)) ∧ C0 x0 (x0.n : Int) a3j a2x H n3 K := ⟨_, fun _ _ h => h, g5e (a3j, a2x) H (fun s' H' => d5C s' H' ∧ c4m s' < c4m (a3j, a2x)) g5f (fun _ _ a b => ⟨a, b⟩)⟩
  unfold d1r
  unfold C0 at h
  refine a7 (C5 _ _ _ _ _ _) ?_
  refine j7 (fun d5E => ?_) (fun d5E => ?_)
  ·replace h := h.1 d5E
   obtain ⟨d5F, d5G, c8T, b6Y, h⟩ := h
   obtain ⟨f0E, g8S, c4n, b6Y⟩ := b6Y
   refine a7 (c1d c4n _ _ _ _ d5F d5G) ?_
   refine d6 (ld1 (v := (vs c8T)) Tryd.isAgg124 (I.atH b6Y)) ?_
   obtain ⟨b8t, d5H, h⟩ := h
   obtain ⟨g5g, h⟩ := h
   refine b0U (s := b8u) (xs := a3j) I c8X (SlH.src I d5H M8) g5g fun c3T c0i C7 a5h a6u c8F => ?_
   refine a7 (J0 _ _ _ _ _ _) ?_
   exact hn3 _ _ _ (hm3 _ _ h).2 ⟨((a3j ++ b8t), (IntKind.wrap .i64 (a2x + 1))), H, c3T, c0i, rfl, rfl, a5h, a6u, (hm3 _ _ h).1⟩
  ·replace h := h.2 d5E
   exact hx2 _ _ (hj2 a3j b8u Fs6l3 H _ c8X I h)
 refine A8 fun j1 hx1 => ?_
 refine a7 (b7S _ _ _) ?_
 obtain ⟨d5I, c4o, g5h, g5i⟩ := h
 refine M7 (J := fun n l w => ∃ (s : Int × Int) (H : Hp) , n = c4o s ∧ l = (match s with | (a6e, a2g) => [(vi a6e), (vi a2g)]) ∧ (match s with | (a6e, a2g) => Inv w0 ps0 H0 H [] w) ∧ d5I s H) ⟨_, (0, 0), H, rfl, rfl, I, g5h⟩ ?_
 rintro g8T τ_55 w next4 ⟨⟨a6e, a2g⟩, H, rfl, d5J, I, g5j⟩ hn4
 dsimp only at d5J I
 simp only [List.map_cons, List.map_nil, List.cons.injEq, and_true] at d5J
 obtain ⟨e3, e11⟩ := d5J
 simp only [e3, e11]
 obtain ⟨n4, hm4, h⟩ : ∃ n4 : (Int × Int) → Hp → Prop, (∀ s' H', n4 s' H' → d5I s' H' ∧ c4o s' < c4o (a6e, a2g)) ∧ C2 x0 x0 (x0.n : Int) a6e a2g H n4 K := ⟨_, fun _ _ h => h, g5i (a6e, a2g) H (fun s' H' => d5I s' H' ∧ c4o s' < c4o (a6e, a2g)) g5j (fun _ _ a b => ⟨a, b⟩)⟩
 unfold d1s
 unfold C2 at h
 refine a7 (C5 _ _ _ _ _ _) ?_
 refine j7 (fun d5K => ?_) (fun d5K => ?_)
 ·replace h := h.1 d5K
  have hj5 : ∀ (c0o : Int) (H : Hp) (w : World) (_ : Inv w0 ps0 H0 H [] w) (_ : B8 x0 c0o x0 (x0.n : Int) a2g H n4 K), c2K (vs x0) (vi c0o) (vs x0) (vi (x0.n : Int)) (vi a2g) w next4 R E := by
   intro c0o H w I h
   unfold c2K
   intro _
   unfold B8 at h
   refine a7 (J0 _ _ _ _ _ _) ?_
   exact hn4 _ _ _ (hm4 _ _ h).2 ⟨(c0o, (IntKind.wrap .i64 (a2g + 1))), H, rfl, rfl, I, (hm4 _ _ h).1⟩
  refine A8 fun j5 hx5 => ?_
  obtain ⟨h_4, h_5, x_1, h_7, h⟩ := h
  obtain ⟨g_2, o_3, h_6, h_7⟩ := h_7
  refine a7 (c1d h_6 _ _ _ _ h_4 h_5) ?_
  refine d6 (ld1 (v := (vs x_1)) Tryd.isAgg124 (I.atH h_7)) ?_
  refine a7 (a7E _ _ _) ?_
  refine a7 (J0 _ _ _ _ _ _) ?_
  refine a7 (C5 _ _ _ _ _ _) ?_
  refine j7 (fun c_8 => ?_) (fun c_8 => ?_)
  ·replace h := h.1 c_8
   refine a7 (d1o _) ?_
   exact h.elim
  ·replace h := h.2 c_8
   exact hx5 _ _ (hj5 (IntKind.wrap .i64 (a6e + (x_1.n : Int))) H _ I h)
 ·replace h := h.2 d5K
  exact hx1 _ _ (hj1 a6e H _ I h)
theorem a1A (x0 : Sl) {H : Hp} {K : Sl → Hp → Prop} (h : C6 x0 H K) : A6 x0 H K := by
 intro w I
 refine e7g ?_
 refine a1v x0 I (fun r0 H' w' I' hk => ⟨H', _, I', r0, rfl, rfl, hk⟩) h
def A4 (W6 : (List a8)) (H : Hp) (K : Sl → Hp → Prop) : Prop :=
 ∀ (E8 : Sl) (a0g : Hp), Hle H a0g → SlH a0g 1 p7 E8 W6 → E8.n ≤ E8.c →
 K E8 a0g
def A5 (a0V : Sl) (a0h : Int) (u0 : (List a8)) (r8 : Int) (H : Hp) (n2 : ((List a8) × Int) → Hp → Prop) (K : Sl → Hp → Prop) : Prop :=
 (r8 < a0h →
 (0 : Int) ≤ r8 ∧ (r8 : Int) < a0V.n ∧ ∃ x_1 : i4, EltH H a0V r8 4 (d5 x_1) ∧
 a5Z x_1 H (fun (Q0 : a8) (a0i : Hp) =>
 (u0.length + ([Q0] : List a8).length) * 17 ≤ 140737488355328 ∧
 n2 ((u0 ++ [Q0]), (IntKind.wrap .i64 (r8 + 1))) a0i)) ∧
 (¬ (r8 < a0h) →
 A4 u0 H K)
def B4 (x0 : Sl) (H : Hp) (K : Sl → Hp → Prop) : Prop :=
 TL (([], 0) : (List a8) × Int) H fun (s : (List a8) × Int) H n2 => A5 x0 (x0.n : Int) s.1 s.2 H n2 K
theorem Z7 (x0 : Sl) {K : Sl → Hp → Prop} (I : Inv w0 ps0 H0 H [] w) (hR : ∀ (r0 : Sl) (H' : Hp) (w' : World) (_ : Inv w0 ps0 H0 H' [] w') (_ : K r0 H'), R (vs r0) w') (h : B4 x0 H K) : c8k (vs x0) (fC 172) w R E := by
 unfold B4 at h
 unfold c8k
 have hj1 : ∀ (W6 : (List a8)) (E8 : Sl) (Fs5j1 : Frag) (H : Hp) (w : World) (_ : RowL 152 1 p7 E8 W6 Fs5j1) (_ : Inv w0 ps0 H0 H [Fs5j1] w) (_ : A4 W6 H K), b9V (vs E8) w R E := by
  intro W6 E8 Fs5j1 H w b2i I h
  unfold b9V
  intro _
  unfold A4 at h
  obtain ⟨a0g, a6t, b3Y, a8K, b0A⟩ := Inv.freezeC I b2i (by decide)
  replace h := h E8 a0g b3Y a8K b0A
  exact hR E8 a0g _ a6t h
 refine A8 fun j1 hx1 => ?_
 refine a7 (a2O _ _ _) ?_
 obtain ⟨a5f, a1F, b6D, b6E⟩ := h
 refine M7 (J := fun n l w => ∃ (s : (List a8) × Int) (H : Hp) (W7 : Sl) (Fs5l2 : Frag) , n = a1F s ∧ l = (match s with | (u0, r8) => [(vs W7), (vi r8)]) ∧ (match s with | (u0, r8) => RowL 152 1 p7 W7 u0 Fs5l2) ∧ (match s with | (u0, r8) => Inv w0 ps0 H0 H [Fs5l2] w) ∧ a5f s H) ⟨_, ([], 0), H, (Sl.mk none 0 0), [], rfl, rfl, (RowL.nil M8 P1), I.nil, b6D⟩ ?_
 rintro d4G τ_50 w next2 ⟨⟨u0, r8⟩, H, W7, Fs5l2, rfl, a5g, a3h, I, b6F⟩ hn2
 dsimp only at a5g I a3h
 simp only [List.map_cons, List.map_nil, List.cons.injEq, and_true] at a5g
 obtain ⟨e5, e10⟩ := a5g
 simp only [e5, e10]
 obtain ⟨n2, hm2, h⟩ : ∃ n2 : ((List a8) × Int) → Hp → Prop, (∀ s' H', n2 s' H' → a5f s' H' ∧ a1F s' < a1F (u0, r8)) ∧ A5 x0 (x0.n : Int) u0 r8 H n2 K := ⟨_, fun _ _ h => h, b6E (u0, r8) H (fun s' H' => a5f s' H' ∧ a1F s' < a1F (u0, r8)) b6F (fun _ _ a b => ⟨a, b⟩)⟩
 unfold c6X
 unfold A5 at h
 refine a7 (C5 _ _ _ _ _ _) ?_
 refine j7 (fun a3g => ?_) (fun a3g => ?_)
 ·replace h := h.1 a3g
  obtain ⟨h_4, h_5, x_1, h_7, h⟩ := h
  obtain ⟨g_2, o_3, h_6, h_7⟩ := h_7
  refine a7 (a1D h_6 _ _ _ _ h_4 h_5) ?_
  refine d6 (ldA (vs := (d5 x_1)) Tryd.isAgg24 Tryd.sizeOf24 rfl (I.atH h_7)) ?_
  refine u6 I Tryd.zeroValue24 (cs := [(vi 0), (vi 0), (eS), (nS)]) rfl fun g_9 o3 a3U b6G => ?_
  refine o7 a3U Tryd.sizeOf24 (vs := (d5 x_1)) (cs' := (d5 x_1)) rfl rfl (nb rfl) rfl rfl fun a0I N5 a1T => ?_
  refine d6 (ldA Tryd.isAgg24 Tryd.sizeOf24 rfl (N5.at1 (o := 0) (vs := (d5 x_1)) (nb rfl) rfl)) ?_
  refine d8 (cap := []) (fun args w => Tryd.call172 args w) ?_
  refine m9 (Fi := []) (Fr := [bx g_9 24 (d5 x_1), Fs5l2]) N5 (h) (fun c8C a0i c8D a2H a5e c0h c8E b2j => ?_) (fun _ _ _ _ _ q => q.elim)
  obtain ⟨Q0, rfl, rfl, h⟩ := b2j
  refine U6 (e := 152) (c := p7) (xs := [Q0]) a5e (b1L _) rfl rfl M8 P1 (nb rfl) fun c3T c0i C7 a5h a6u c8F => ?_
  obtain ⟨b2k, h⟩ := h
  refine b0U (s := W7) (xs := u0) (a6u.bring 2) a3h (a5h.srcO ((a6u.bring 2).bring 1)) b2k fun b6H b6I D1 b2e a7p c8G => ?_
  refine a7 (J0 _ _ _ _ _ _) ?_
  exact hn2 _ _ _ (hm2 _ _ h).2 ⟨((u0 ++ [Q0]), (IntKind.wrap .i64 (r8 + 1))), a0i, b6H, b6I, rfl, rfl, b2e, ((a7p.bring 1).drop.bring 1).drop, (hm2 _ _ h).1⟩
 ·replace h := h.2 a3g
  exact hx1 _ _ (hj1 u0 W7 Fs5l2 H _ a3h I h)
theorem a0s (x0 : Sl) {H : Hp} {K : Sl → Hp → Prop} (h : B4 x0 H K) : t6 x0 H K := by
 intro w I
 refine e0Z ?_
 refine Z7 x0 I (fun r0 H' w' I' hk => ⟨H', _, I', r0, rfl, rfl, hk⟩) h
def X2 (x0 : L2) (H : Hp) (K : Sl → Hp → Prop) : Prop :=
 B0 x0.i2.s8 H (fun (a6b : Sl) (H_8 : Hp) =>
 t6 x0.i2.m2 H_8 (fun (a6c : Sl) (b3Z : Hp) =>
 t1 x0.i2.K1 b3Z (fun (c8Y : Sl) (a4K : Hp) =>
 t1 x0.i2.G8 a4K (fun (c8Z : Sl) (b2F : Hp) =>
 ∀ (c0p : Sl) (c4p : Hp), Hle b2F c4p → SlH c4p 1 csl c0p [a6b, a6c, c8Y, c8Z] → c0p.n ≤ c0p.c →
 A6 c0p c4p (fun (c9a : Sl) (d5L : Hp) =>
 K c9a d5L)))))
theorem a7O (x0 : L2) {K : Sl → Hp → Prop} (I : Inv w0 ps0 H0 H [] w) (hR : ∀ (r0 : Sl) (H' : Hp) (w' : World) (_ : Inv w0 ps0 H0 H' [] w') (_ : K r0 H'), R (vs r0) w') (h : X2 x0 H K) : c8u (Value.agg (i5 x0.i2).toArray) w R E := by
 unfold X2 at h
 unfold c8u
 refine M5 I (cs := (i5 x0.i2)) rfl fun g_2 w_3 I_4 k_5 => ?_
 refine Z9 I_4 fun w_6 I_7 => ?_
 refine m4 K3 ?_
 refine m4 a7D ?_
 refine m4 K3 ?_
 refine m4 a5G ?_
 refine m4 K3 ?_
 refine m4 a5H ?_
 refine m4 K3 ?_
 refine m4 a5I ?_
 refine u9 (ld1 Tryd.isAgg25 (I_7.at1 (o := 3) (vs := [(vs x0.i2.s8)]) (nb rfl) rfl)) ?_
 refine u9 (ld1 Tryd.isAgg22 (I_7.at1 (o := 2) (vs := [(vs x0.i2.m2)]) (nb rfl) rfl)) ?_
 refine u9 (ld1 Tryd.isAgg42 (I_7.at1 (o := 4) (vs := [(vs x0.i2.K1)]) (nb rfl) rfl)) ?_
 refine u9 (ld1 Tryd.isAgg42 (I_7.at1 (o := 5) (vs := [(vs x0.i2.G8)]) (nb rfl) rfl)) ?_
 refine d8 (cap := []) (fun args w => Tryd.call175 args w) ?_
 refine m9 (Fi := []) (Fr := [bx g_2 179 (i5 x0.i2)]) I_7 (h) (fun f0H H_8 d4H w_9 b2n f0I b6J c3U => ?_) (fun _ _ _ _ _ q => q.elim)
 obtain ⟨a6b, rfl, rfl, h⟩ := c3U
 refine ⟨(b6J _ I_7.lt1 (Inv.a5A (Fi := []) I_7)), (b6J _ I_7.lt1 (Inv.a5A (Fi := []) I_7)), (b6J _ I_7.lt1 (Inv.a5A (Fi := []) I_7)), ?_⟩
 refine d8 (cap := []) (fun args w => Tryd.call171 args w) ?_
 refine m9 (Fi := []) (Fr := [bx g_2 179 (i5 x0.i2)]) b2n (h) (fun f0J b3Z f0K r7 a6d f0L b6K c3V => ?_) (fun _ _ _ _ _ q => q.elim)
 obtain ⟨a6c, rfl, rfl, h⟩ := c3V
 refine ⟨(b6K _ b2n.lt1 (Inv.a5A (Fi := []) b2n)), (b6K _ b2n.lt1 (Inv.a5A (Fi := []) b2n)), ?_⟩
 refine d8 (cap := []) (fun args w => Tryd.call90 args w) ?_
 refine m9 (Fi := []) (Fr := [bx g_2 179 (i5 x0.i2)]) a6d (h) (fun g8U a4K g8V a3N b1Z c4q f1e g5k => ?_) (fun _ _ _ _ _ q => q.elim)
 obtain ⟨c8Y, rfl, rfl, h⟩ := g5k
 refine ⟨(f1e _ a6d.lt1 (Inv.a5A (Fi := []) a6d)), ?_⟩
 refine d8 (cap := []) (fun args w => Tryd.call90 args w) ?_
 refine m9 (Fi := []) (Fr := [bx g_2 179 (i5 x0.i2)]) b1Z (h) (fun g8W b2F g8X G3 g5l g8Y g8Z g5m => ?_) (fun _ _ _ _ _ q => q.elim)
 obtain ⟨c8Z, rfl, rfl, h⟩ := g5m
 refine U6 (e := 124) (c := csl) (xs := [a6b, a6c, c8Y, c8Z]) g5l (d4m _ _ _ _ _ _ _ _ _ _ _ _) rfl rfl b4W b4X (nb rfl) fun c0p g9a b3I g5n c3W f0N => ?_
 obtain ⟨c4p, b0F, g5o, c4d, g5p⟩ := Inv.freezeC c3W g5n (by decide)
 replace h := h c0p c4p g5o c4d g5p
 refine d8 (cap := []) (fun args w => Tryd.call87 args w) ?_
 refine m9 (Fi := []) (Fr := [bx g_2 179 (i5 x0.i2)]) b0F (h) (fun g9b d5L g9c c0q g5q g9d g9e g5r => ?_) (fun _ _ _ _ _ q => q.elim)
 obtain ⟨c9a, rfl, rfl, h⟩ := g5r
 exact hR c9a d5L _ g5q.drop h
theorem a9d (x0 : L2) {H : Hp} {K : Sl → Hp → Prop} (h : X2 x0 H K) : a3T x0 H K := by
 intro w I
 refine e1R ?_
 refine a7O x0 I (fun r0 H' w' I' hk => ⟨H', _, I', r0, rfl, rfl, hk⟩) h
end Go.Proofs.YtnhkdkcgdcgmdaaDoor
