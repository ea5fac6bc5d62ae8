/- Typed formulas of the program's functions, and the theorems that the contracts follow from them; printed by lift.py off the code. -/
import Derived.Test.YtnhkdkcgdcgmdaaGreatDoorzPV1
namespace Go.Proofs.YtnhkdkcgdcgmdaaGreatDoor
open Go.RowKit
set_option maxRecDepth 100000
set_option maxHeartbeats 2000000
variable {w0 w : World} {ps0 : Nat → Prop} {H0 H : Hp} {R : RT} {E : Pan}
def a6a (x0 : Int) (x1 : Int) (x2 : Int) (H : Hp) (K : Bool → Hp → Prop) : Prop :=
 K ((decide (x0 ≤ x2)) && (decide (x2 ≤ x1))) H
theorem b5e (x0 : Int) (x1 : Int) (x2 : Int) (g2 : Nat) {K : Bool → Hp → Prop} (I : Inv w0 ps0 H0 H [bx g2 21 [(Value.int .i32 x2)]] w) (hR : ∀ (r0 : Bool) (H' : Hp) (w' : World) (_ : Inv w0 ps0 H0 H' [bx g2 21 [(Value.int .i32 x2)]] w') (_ : K r0 H'), R (vB r0) w') (h : a6a x0 x1 x2 H K) : d5P (Value.int .i32 x0) (Value.int .i32 x1) (Value.pointer (some ⟨g2, 0, none⟩)) w R E := by
 unfold a6a at h
 unfold d5P
 refine d6 (ld1 Tryz.isAgg21 (I.at1 (o := 0) (vs := [(Value.int .i32 x2)]) (nb rfl) rfl)) ?_
 refine a7 (b8C _ _ _ _ _ _) ?_
 refine d6 (Ld.g fun hb => by have i5 := hb; exact (ld1 Tryz.isAgg21 (I.at1 (o := 0) (vs := [(Value.int .i32 x2)]) (nb rfl) rfl))) ?_
 simp only [Q0]
 refine a7 (Pu.g fun hb => by have i5 := hb; simp only [r8 i5]; exact (b8C _ _ _ _ _ _)) ?_
 refine a7 (P7 _ _) ?_
 exact hR ((decide (x0 ≤ x2)) && (decide (x2 ≤ x1))) H _ I h
theorem b5Q (x0 : Int) (x1 : Int) (x2 : Int) {H : Hp} {K : Bool → Hp → Prop} (h : a6a x0 x1 x2 H K) : O4 x0 x1 x2 H K := by
 intro g2 w I
 refine f0j ?_
 refine b5e x0 x1 x2 g2 I (fun r0 H' w' I' hk => ⟨H', _, I', r0, rfl, rfl, hk⟩) h
def K2 (c0R : Bool) (i0p : Int) (H : Hp) (K : Int → Hp → Prop) : Prop :=
 (c0R = true →
 K 3 H) ∧
 (c0R = false →
 K 6 H)
def S5 (c0S : Bool) (a0l : Int) (H : Hp) (K : Int → Hp → Prop) : Prop :=
 (c0S = true →
 K 6 H) ∧
 (c0S = false →
 O4 48 57 a0l H (fun (W4 : Bool) (H_6 : Hp) =>
 (W4 = true →
 K 4 H_6) ∧
 (W4 = false →
 (a0l = 95 →
 K2 (decide (a0l = 95)) a0l H_6 K) ∧
 (¬ (a0l = 95) →
 O4 97 122 a0l H_6 (fun (E0 : Bool) (Q2 : Hp) =>
 (E0 = true →
 K2 E0 a0l Q2 K) ∧
 (E0 = false →
 O4 65 90 a0l Q2 (fun (a8E : Bool) (c2t : Hp) =>
 (a8E = true →
 K2 a8E a0l c2t K) ∧
 (a8E = false →
 O4 192 591 a0l c2t (fun (a8F : Bool) (b9D : Hp) =>
 (a8F = true →
 K2 a8F a0l b9D K) ∧
 (a8F = false →
 O4 913 969 a0l b9D (fun (N7 : Bool) (a4E : Hp) =>
 (N7 = true →
 K2 N7 a0l a4E K) ∧
 (N7 = false →
 O4 1040 1103 a0l a4E (fun (d6u : Bool) (e4m : Hp) =>
 K2 d6u a0l e4m K)))))))))))))
def q9 (c2u : Int) (b7r : Bool) (a0U : Int) (H : Hp) (K : Int → Hp → Prop) : Prop :=
 (b7r = true →
 K 5 H) ∧
 (b7r = false →
 (c2u = 215 →
 S5 (decide (c2u = 215)) a0U H K) ∧
 (¬ (c2u = 215) →
 (c2u = 247 →
 S5 (decide (c2u = 247)) a0U H K) ∧
 (¬ (c2u = 247) →
 S5 (decide (c2u = 930)) a0U H K)))
def S6 (A5 : Int) (b7p : Bool) (y6 : Int) (H : Hp) (K : Int → Hp → Prop) : Prop :=
 (b7p = true →
 K 1 H) ∧
 (b7p = false →
 (A5 = 10 →
 K 2 H) ∧
 (¬ (A5 = 10) →
 (A5 = 59 →
 q9 A5 (decide (A5 = 59)) y6 H K) ∧
 (¬ (A5 = 59) →
 (A5 = 44 →
 q9 A5 (decide (A5 = 44)) y6 H K) ∧
 (¬ (A5 = 44) →
 (A5 = 123 →
 q9 A5 (decide (A5 = 123)) y6 H K) ∧
 (¬ (A5 = 123) →
 (A5 = 125 →
 q9 A5 (decide (A5 = 125)) y6 H K) ∧
 (¬ (A5 = 125) →
 (A5 = 40 →
 q9 A5 (decide (A5 = 40)) y6 H K) ∧
 (¬ (A5 = 40) →
 (A5 = 41 →
 q9 A5 (decide (A5 = 41)) y6 H K) ∧
 (¬ (A5 = 41) →
 (A5 = 91 →
 q9 A5 (decide (A5 = 91)) y6 H K) ∧
 (¬ (A5 = 91) →
 (A5 = 93 →
 q9 A5 (decide (A5 = 93)) y6 H K) ∧
 (¬ (A5 = 93) →
 (A5 = 61 →
 q9 A5 (decide (A5 = 61)) y6 H K) ∧
 (¬ (A5 = 61) →
 (A5 = 33 →
 q9 A5 (decide (A5 = 33)) y6 H K) ∧
 (¬ (A5 = 33) →
 (A5 = 60 →
 q9 A5 (decide (A5 = 60)) y6 H K) ∧
 (¬ (A5 = 60) →
 (A5 = 62 →
 q9 A5 (decide (A5 = 62)) y6 H K) ∧
 (¬ (A5 = 62) →
 (A5 = 43 →
 q9 A5 (decide (A5 = 43)) y6 H K) ∧
 (¬ (A5 = 43) →
 (A5 = 45 →
 q9 A5 (decide (A5 = 45)) y6 H K) ∧
 (¬ (A5 = 45) →
 (A5 = 42 →
 q9 A5 (decide (A5 = 42)) y6 H K) ∧
 (¬ (A5 = 42) →
 (A5 = 47 →
 q9 A5 (decide (A5 = 47)) y6 H K) ∧
 (¬ (A5 = 47) →
 (A5 = 37 →
 q9 A5 (decide (A5 = 37)) y6 H K) ∧
 (¬ (A5 = 37) →
 (A5 = 38 →
 q9 A5 (decide (A5 = 38)) y6 H K) ∧
 (¬ (A5 = 38) →
 q9 A5 (decide (A5 = 124)) y6 H K))))))))))))))))))))
def a4J (x0 : Int) (H : Hp) (K : Int → Hp → Prop) : Prop :=
 (x0 = 32 →
 S6 x0 (decide (x0 = 32)) x0 H K) ∧
 (¬ (x0 = 32) →
 (x0 = 9 →
 S6 x0 (decide (x0 = 9)) x0 H K) ∧
 (¬ (x0 = 9) →
 S6 x0 (decide (x0 = 13)) x0 H K))
theorem b7s (x0 : Int) {K : Int → Hp → Prop} (I : Inv w0 ps0 H0 H [] w) (hR : ∀ (r0 : Int) (H' : Hp) (w' : World) (_ : Inv w0 ps0 H0 H' [] w') (_ : K r0 H'), R (vi r0) w') (h : a4J x0 H K) : d5M (Value.int .i32 x0) w R E := by
 unfold a4J at h
 unfold d5M
 refine M4 I (cs := [(Value.int .i32 x0)]) rfl fun g_2 w_3 I_4 k_5 => ?_
 refine d6 (ld1 Tryz.isAgg21 (I_4.at1 (o := 0) (vs := [(Value.int .i32 x0)]) (nb rfl) rfl)) ?_
 have hj1 : ∀ (b7p : Bool) (H : Hp) (w : World) (_ : Inv w0 ps0 H0 H [bx g_2 21 [(Value.int .i32 x0)]] w) (_ : S6 x0 b7p x0 H K), c5J (Value.pointer (some ⟨g_2, 0, none⟩)) (Value.int .i32 x0) (vB b7p) w R E := by
  intro b7p H w I h
  unfold c5J
  intro _
  unfold S6 at h
  refine s6 (fun e4n => ?_) (fun e4n => ?_)
  ·replace h := h.1 e4n
   exact hR 1 H _ I.drop h
  ·replace h := h.2 e4n
   refine a7 (m5 _ _ _ _ _ _) ?_
   refine i8 (fun e4o => ?_) (fun e4o => ?_)
   ·replace h := h.1 e4o
    exact hR 2 H _ I.drop h
   ·replace h := h.2 e4o
    have hj2 : ∀ (b7r : Bool) (H : Hp) (w : World) (_ : Inv w0 ps0 H0 H [bx g_2 21 [(Value.int .i32 x0)]] w) (_ : q9 x0 b7r x0 H K), c5I (Value.pointer (some ⟨g_2, 0, none⟩)) (Value.int .i32 x0) (vB b7r) w R E := by
     intro b7r H w I h
     unfold c5I
     intro _
     unfold q9 at h
     refine s6 (fun e4p => ?_) (fun e4p => ?_)
     ·replace h := h.1 e4p
      exact hR 5 H _ I.drop h
     ·replace h := h.2 e4p
      have hj3 : ∀ (c0S : Bool) (H : Hp) (w : World) (_ : Inv w0 ps0 H0 H [bx g_2 21 [(Value.int .i32 x0)]] w) (_ : S5 c0S x0 H K), c5H (Value.pointer (some ⟨g_2, 0, none⟩)) (vB c0S) w R E := by
       intro c0S H w I h
       unfold c5H
       intro _
       unfold S5 at h
       refine s6 (fun c2v => ?_) (fun c2v => ?_)
       ·replace h := h.1 c2v
        exact hR 6 H _ I.drop h
       ·replace h := h.2 c2v
        refine a7 (b4L _ _ _) ?_
        refine d8 (cap := [(Value.pointer (some ⟨g_2, 0, none⟩))]) (fun args w => Tryz.call170 args w) ?_
        refine m4 (Fi := [bx g_2 21 [(Value.int .i32 x0)]]) (Fr := []) I (h g_2) (fun c5Y H_6 c5Z w_7 I_8 c6a k_9 b0g => ?_) (fun _ _ _ _ _ q => q.elim)
        obtain ⟨W4, rfl, rfl, h⟩ := b0g
        refine s6 (fun e4q => ?_) (fun e4q => ?_)
        ·replace h := h.1 e4q
         exact hR 4 H_6 _ I_8.drop h
        ·replace h := h.2 e4q
         have hj4 : ∀ (c0R : Bool) (H : Hp) (w : World) (_ : Inv w0 ps0 H0 H [bx g_2 21 [(Value.int .i32 x0)]] w) (_ : K2 c0R x0 H K), c5G (vB c0R) w R E := by
          intro c0R H w I h
          unfold c5G
          intro _
          unfold K2 at h
          refine s6 (fun a8U => ?_) (fun a8U => ?_)
          ·replace h := h.1 a8U
           exact hR 3 H _ I.drop h
          ·replace h := h.2 a8U
           exact hR 6 H _ I.drop h
         refine v8 fun j4 hx4 => ?_
         refine d6 (ld1 Tryz.isAgg21 (I_8.at1 (o := 0) (vs := [(Value.int .i32 x0)]) (nb rfl) rfl)) ?_
         refine a7 (m5 _ _ _ _ _ _) ?_
         refine i8 (fun e4r => ?_) (fun e4r => ?_)
         ·replace h := h.1 e4r
          exact hx4 _ _ (hj4 (decide (x0 = 95)) H_6 _ I_8 h)
         ·replace h := h.2 e4r
          refine d8 (cap := [(Value.pointer (some ⟨g_2, 0, none⟩))]) (fun args w => Tryz.call170 args w) ?_
          refine m4 (Fi := [bx g_2 21 [(Value.int .i32 x0)]]) (Fr := []) I_8 (h g_2) (fun b6V Q2 b4V a0q a2F b6W b6X a6z => ?_) (fun _ _ _ _ _ q => q.elim)
          obtain ⟨E0, rfl, rfl, h⟩ := a6z
          refine s6 (fun e4s => ?_) (fun e4s => ?_)
          ·replace h := h.1 e4s
           exact hx4 _ _ (hj4 E0 Q2 _ a2F h)
          ·replace h := h.2 e4s
           refine d8 (cap := [(Value.pointer (some ⟨g_2, 0, none⟩))]) (fun args w => Tryz.call170 args w) ?_
           refine m4 (Fi := [bx g_2 21 [(Value.int .i32 x0)]]) (Fr := []) a2F (h g_2) (fun h7E c2t h7F y7 a7E h7G d6v e4t => ?_) (fun _ _ _ _ _ q => q.elim)
           obtain ⟨a8E, rfl, rfl, h⟩ := e4t
           refine s6 (fun c2w => ?_) (fun c2w => ?_)
           ·replace h := h.1 c2w
            exact hx4 _ _ (hj4 a8E c2t _ a7E h)
           ·replace h := h.2 c2w
            refine d8 (cap := [(Value.pointer (some ⟨g_2, 0, none⟩))]) (fun args w => Tryz.call170 args w) ?_
            refine m4 (Fi := [bx g_2 21 [(Value.int .i32 x0)]]) (Fr := []) a7E (h g_2) (fun h7H b9D h7I a7c a3C a6y b2U e4u => ?_) (fun _ _ _ _ _ q => q.elim)
            obtain ⟨a8F, rfl, rfl, h⟩ := e4u
            refine s6 (fun c2x => ?_) (fun c2x => ?_)
            ·replace h := h.1 c2x
             exact hx4 _ _ (hj4 a8F b9D _ a3C h)
            ·replace h := h.2 c2x
             refine d8 (cap := [(Value.pointer (some ⟨g_2, 0, none⟩))]) (fun args w => Tryz.call170 args w) ?_
             refine m4 (Fi := [bx g_2 21 [(Value.int .i32 x0)]]) (Fr := []) a3C (h g_2) (fun e3Z a4E e4a K6 b5b e4b e4c c2o => ?_) (fun _ _ _ _ _ q => q.elim)
             obtain ⟨N7, rfl, rfl, h⟩ := c2o
             refine s6 (fun e4v => ?_) (fun e4v => ?_)
             ·replace h := h.1 e4v
              exact hx4 _ _ (hj4 N7 a4E _ b5b h)
             ·replace h := h.2 e4v
              refine d8 (cap := [(Value.pointer (some ⟨g_2, 0, none⟩))]) (fun args w => Tryz.call170 args w) ?_
              refine m4 (Fi := [bx g_2 21 [(Value.int .i32 x0)]]) (Fr := []) b5b (h g_2) (fun i3K e4m i3L b9E h7J i3M i3N h7K => ?_) (fun _ _ _ _ _ q => q.elim)
              obtain ⟨d6u, rfl, rfl, h⟩ := h7K
              exact hx4 _ _ (hj4 d6u e4m _ h7J h)
      refine v8 fun j3 hx3 => ?_
      refine a7 (m5 _ _ _ _ _ _) ?_
      refine i8 (fun c2p => ?_) (fun c2p => ?_)
      ·replace h := h.1 c2p
       exact hx3 _ _ (hj3 (decide (x0 = 215)) H _ I h)
      ·replace h := h.2 c2p
       refine a7 (m5 _ _ _ _ _ _) ?_
       refine i8 (fun b2R => ?_) (fun b2R => ?_)
       ·replace h := h.1 b2R
        exact hx3 _ _ (hj3 (decide (x0 = 247)) H _ I h)
       ·replace h := h.2 b2R
        refine a7 (m5 _ _ _ _ _ _) ?_
        exact hx3 _ _ (hj3 (decide (x0 = 930)) H _ I h)
    refine v8 fun j2 hx2 => ?_
    refine a7 (m5 _ _ _ _ _ _) ?_
    refine i8 (fun e4w => ?_) (fun e4w => ?_)
    ·replace h := h.1 e4w
     exact hx2 _ _ (hj2 (decide (x0 = 59)) H _ I h)
    ·replace h := h.2 e4w
     refine a7 (m5 _ _ _ _ _ _) ?_
     refine i8 (fun b2T => ?_) (fun b2T => ?_)
     ·replace h := h.1 b2T
      exact hx2 _ _ (hj2 (decide (x0 = 44)) H _ I h)
     ·replace h := h.2 b2T
      refine a7 (m5 _ _ _ _ _ _) ?_
      refine i8 (fun c2h => ?_) (fun c2h => ?_)
      ·replace h := h.1 c2h
       exact hx2 _ _ (hj2 (decide (x0 = 123)) H _ I h)
      ·replace h := h.2 c2h
       refine a7 (m5 _ _ _ _ _ _) ?_
       refine i8 (fun e4x => ?_) (fun e4x => ?_)
       ·replace h := h.1 e4x
        exact hx2 _ _ (hj2 (decide (x0 = 125)) H _ I h)
       ·replace h := h.2 e4x
        refine a7 (m5 _ _ _ _ _ _) ?_
        refine i8 (fun e4y => ?_) (fun e4y => ?_)
        ·replace h := h.1 e4y
         exact hx2 _ _ (hj2 (decide (x0 = 40)) H _ I h)
        ·replace h := h.2 e4y
         refine a7 (m5 _ _ _ _ _ _) ?_
         refine i8 (fun e4z => ?_) (fun e4z => ?_)
         ·replace h := h.1 e4z
          exact hx2 _ _ (hj2 (decide (x0 = 41)) H _ I h)
         ·replace h := h.2 e4z
          refine a7 (m5 _ _ _ _ _ _) ?_
          refine i8 (fun c2y => ?_) (fun c2y => ?_)
          ·replace h := h.1 c2y
           exact hx2 _ _ (hj2 (decide (x0 = 91)) H _ I h)
          ·replace h := h.2 c2y
           refine a7 (m5 _ _ _ _ _ _) ?_
           refine i8 (fun b3e => ?_) (fun b3e => ?_)
           ·replace h := h.1 b3e
            exact hx2 _ _ (hj2 (decide (x0 = 93)) H _ I h)
           ·replace h := h.2 b3e
            refine a7 (m5 _ _ _ _ _ _) ?_
            refine i8 (fun e4A => ?_) (fun e4A => ?_)
            ·replace h := h.1 e4A
             exact hx2 _ _ (hj2 (decide (x0 = 61)) H _ I h)
            ·replace h := h.2 e4A
             refine a7 (m5 _ _ _ _ _ _) ?_
             refine i8 (fun e4B => ?_) (fun e4B => ?_)
             ·replace h := h.1 e4B
              exact hx2 _ _ (hj2 (decide (x0 = 33)) H _ I h)
             ·replace h := h.2 e4B
              refine a7 (m5 _ _ _ _ _ _) ?_
              refine i8 (fun c2z => ?_) (fun c2z => ?_)
              ·replace h := h.1 c2z
               exact hx2 _ _ (hj2 (decide (x0 = 60)) H _ I h)
              ·replace h := h.2 c2z
               refine a7 (m5 _ _ _ _ _ _) ?_
               refine i8 (fun c2A => ?_) (fun c2A => ?_)
               ·replace h := h.1 c2A
                exact hx2 _ _ (hj2 (decide (x0 = 62)) H _ I h)
               ·replace h := h.2 c2A
                refine a7 (m5 _ _ _ _ _ _) ?_
                refine i8 (fun c2B => ?_) (fun c2B => ?_)
                ·replace h := h.1 c2B
                 exact hx2 _ _ (hj2 (decide (x0 = 43)) H _ I h)
                ·replace h := h.2 c2B
                 refine a7 (m5 _ _ _ _ _ _) ?_
                 refine i8 (fun c2k => ?_) (fun c2k => ?_)
                 ·replace h := h.1 c2k
                  exact hx2 _ _ (hj2 (decide (x0 = 45)) H _ I h)
                 ·replace h := h.2 c2k
                  refine a7 (m5 _ _ _ _ _ _) ?_
                  refine i8 (fun c2l => ?_) (fun c2l => ?_)
                  ·replace h := h.1 c2l
                   exact hx2 _ _ (hj2 (decide (x0 = 42)) H _ I h)
                  ·replace h := h.2 c2l
                   refine a7 (m5 _ _ _ _ _ _) ?_
                   refine i8 (fun e4C => ?_) (fun e4C => ?_)
                   ·replace h := h.1 e4C
                    exact hx2 _ _ (hj2 (decide (x0 = 47)) H _ I h)
                   ·replace h := h.2 e4C
                    refine a7 (m5 _ _ _ _ _ _) ?_
                    refine i8 (fun c2C => ?_) (fun c2C => ?_)
                    ·replace h := h.1 c2C
                     exact hx2 _ _ (hj2 (decide (x0 = 37)) H _ I h)
                    ·replace h := h.2 c2C
                     refine a7 (m5 _ _ _ _ _ _) ?_
                     refine i8 (fun c2n => ?_) (fun c2n => ?_)
                     ·replace h := h.1 c2n
                      exact hx2 _ _ (hj2 (decide (x0 = 38)) H _ I h)
                     ·replace h := h.2 c2n
                      refine a7 (m5 _ _ _ _ _ _) ?_
                      exact hx2 _ _ (hj2 (decide (x0 = 124)) H _ I h)
 refine v8 fun j1 hx1 => ?_
 refine a7 (m5 _ _ _ _ _ _) ?_
 refine i8 (fun e4D => ?_) (fun e4D => ?_)
 ·replace h := h.1 e4D
  exact hx1 _ _ (hj1 (decide (x0 = 32)) H _ I_4 h)
 ·replace h := h.2 e4D
  refine a7 (m5 _ _ _ _ _ _) ?_
  refine i8 (fun e4E => ?_) (fun e4E => ?_)
  ·replace h := h.1 e4E
   exact hx1 _ _ (hj1 (decide (x0 = 9)) H _ I_4 h)
  ·replace h := h.2 e4E
   refine a7 (m5 _ _ _ _ _ _) ?_
   exact hx1 _ _ (hj1 (decide (x0 = 13)) H _ I_4 h)
theorem b8t (x0 : Int) {H : Hp} {K : Int → Hp → Prop} (h : a4J x0 H K) : a4F x0 H K := by
 intro w I
 refine f0d ?_
 refine b7s x0 I (fun r0 H' w' I' hk => ⟨H', _, I', r0, rfl, rfl, hk⟩) h
def a5F (x0 : ByteArray) (H : Hp) (K : Bool → Hp → Prop) : Prop :=
 a0P x0 H (fun (M3 : Int) (H_1 : Hp) =>
 K (decide (32 < M3)) H_1)
theorem b9F (x0 : ByteArray) {K : Bool → Hp → Prop} (I : Inv w0 ps0 H0 H [] w) (hR : ∀ (r0 : Bool) (H' : Hp) (w' : World) (_ : Inv w0 ps0 H0 H' [] w') (_ : K r0 H'), R (vB r0) w') (h : a5F x0 H K) : d5I (Value.string x0) w R E := by
 unfold a5F at h
 unfold d5I
 refine d8 (cap := []) (fun args w => Tryz.call169 args w) ?_
 refine m4 (Fi := []) (Fr := []) I (h) (fun v_5 H_1 F_6 w_2 I_3 l_8 k_4 q_7 => ?_) (fun _ _ _ _ _ q => q.elim)
 obtain ⟨M3, rfl, rfl, h⟩ := q_7
 refine a7 (a3q _ _ _ _ _ _) ?_
 exact hR (decide (32 < M3)) H_1 _ I_3 h
theorem c1y (x0 : ByteArray) {H : Hp} {K : Bool → Hp → Prop} (h : a5F x0 H K) : a5y x0 H K := by
 intro w I
 refine e9X ?_
 refine b9F x0 I (fun r0 H' w' I' hk => ⟨H', _, I', r0, rfl, rfl, hk⟩) h
def W6 (H : Hp) (K : Int → Hp → Prop) : Prop :=
 K (-1) H
def W7 (h2N : (List ByteArray)) (a9I : ByteArray) (a8W : Int) (U6 : Int) (H : Hp) (n2 : Int → Hp → Prop) (K : Int → Hp → Prop) : Prop :=
 (U6 < a8W →
 (0 : Int) ≤ U6 ∧ ∃ x_1 : ByteArray, (h2N)[(U6 : Int).toNat]? = some x_1 ∧
 (a9I = x_1 →
 K U6 H) ∧
 (¬ (a9I = x_1) →
 n2 (IntKind.wrap .i64 (U6 + 1)) H)) ∧
 (¬ (U6 < a8W) →
 W6 H K)
def Z6 (x0 : (List ByteArray)) (x1 : ByteArray) (H : Hp) (K : Int → Hp → Prop) : Prop :=
 TL (0 : Int) H fun (s : Int) H n2 => W7 x0 x1 (x0.length : Int) s H n2 K
theorem a9W (x0 : (List ByteArray)) (x1 : ByteArray) (sx0 : Sl) (Fx0 : Frag) (hx0 : RowL 9 1 M0 sx0 x0 Fx0) {K : Int → Hp → Prop} (I : Inv w0 ps0 H0 H [Fx0] w) (hR : ∀ (r0 : Int) (H' : Hp) (w' : World) (_ : Inv w0 ps0 H0 H' [Fx0] w') (_ : K r0 H'), R (vi r0) w') (h : Z6 x0 x1 H K) : d5N (vs sx0) (Value.string x1) w R E := by
 unfold Z6 at h
 unfold d5N
 have hj1 : ∀ (H : Hp) (w : World) (_ : Inv w0 ps0 H0 H [Fx0] w) (_ : W6 H K), c5L w R E := by
  intro H w I h
  unfold c5L
  intro _
  unfold W6 at h
  exact hR (-1) H _ I h
 refine v8 fun j1 hx1 => ?_
 refine a7 (c3z Tryz.underlying88 hx0) ?_
 obtain ⟨e4F, d0z, h7L, h7M⟩ := h
 refine L6 (J := fun n l w => ∃ (s : Int) (H : Hp) , n = d0z s ∧ l = [(vi s)] ∧ Inv w0 ps0 H0 H [Fx0] w ∧ e4F s H) ⟨_, 0, H, rfl, rfl, I, h7L⟩ ?_
 rintro i3O τ_15 w next2 ⟨U6, H, rfl, e4G, I, h7N⟩ hn2
 simp only [List.map_cons, List.map_nil, List.cons.injEq, and_true] at e4G
 have e8 := e4G
 simp only [e8]
 obtain ⟨n2, hm2, h⟩ : ∃ n2 : Int → Hp → Prop, (∀ s' H', n2 s' H' → e4F s' H' ∧ d0z s' < d0z U6) ∧ W7 x0 x1 (x0.length : Int) U6 H n2 K := ⟨_, fun _ _ h => h, h7M U6 H (fun s' H' => e4F s' H' ∧ d0z s' < d0z U6) h7N (fun _ _ a b => ⟨a, b⟩)⟩
 unfold d4r
 unfold W7 at h
 refine a7 (C2 _ _ _ _ _ _) ?_
 refine i8 (fun c_9 => ?_) (fun c_9 => ?_)
 ·replace h := h.1 c_9
  obtain ⟨h_3, x_1, h_4, h⟩ := h
  obtain ⟨g_2, a_6, h_5, h_7⟩ := hx0.addr h_4
  refine a7 (e3y h_5 _ _ _ _ h_3 (hx0.lt h_3 h_4)) ?_
  refine d6 (ld1 (v := (Value.string x_1)) Tryz.isAgg9 (hx0.atW I h_5 h_4)) ?_
  refine a7 (a3V _ _ _ _ _) ?_
  refine i8 (fun c_8 => ?_) (fun c_8 => ?_)
  ·replace h := h.1 c_8
   exact hR U6 H _ I h
  ·replace h := h.2 c_8
   refine a7 (J8 _ _ _ _ _ _) ?_
   exact hn2 _ _ _ (hm2 _ _ h).2 ⟨(IntKind.wrap .i64 (U6 + 1)), H, rfl, rfl, I, (hm2 _ _ h).1⟩
 ·replace h := h.2 c_9
  exact hx1 _ _ (hj1 H _ I h)
theorem b0w (x0 : (List ByteArray)) (x1 : ByteArray) {H : Hp} {K : Int → Hp → Prop} (h : Z6 x0 x1 H K) : a2E x0 x1 H K := by
 intro sx0 Fx0 hx0 w I
 refine f0f ?_
 refine a9W x0 x1 sx0 Fx0 hx0 I (fun r0 H' w' I' hk => ⟨H', _, I', r0, rfl, rfl, hk⟩) h
def K8 (i3P : Sl) (c6i : Int) (i3Q : Sl) (e7W : Int) (d6w : Int) (H : Hp) (n4 : (Int × Int) → Hp → Prop) (K : Sl → Hp → Prop) : Prop :=
 n4 (c6i, (IntKind.wrap .i64 (d6w + 1))) H
def K9 (c4d : (List d9)) (H : Hp) (K : Sl → Hp → Prop) : Prop :=
 ∀ (b0S : Sl) (b7q : Hp), Hle H b7q → SlH b7q 1 s8 b0S c4d → b0S.n ≤ b0S.c →
 K b0S b7q
def L0 (e7X : Sl) (e7Y : Int) (a6D : (List d9)) (a5G : Int) (H : Hp) (n3 : ((List d9) × Int) → Hp → Prop) (K : Sl → Hp → Prop) : Prop :=
 (a5G < e7Y →
 (0 : Int) ≤ a5G ∧ (a5G : Int) < e7X.n ∧ ∃ d6x : Sl, EltH H e7X a5G 1 [(vs d6x)] ∧
 ∃ c4e : List d9, SlH H 1 s8 d6x c4e ∧ (a6D.length + c4e.length) * 17 ≤ 140737488355328 ∧
 n3 ((a6D ++ c4e), (IntKind.wrap .i64 (a5G + 1))) H) ∧
 (¬ (a5G < e7Y) →
 K9 a6D H K)
def L1 (d6y : Sl) (b7t : Int) (H : Hp) (K : Sl → Hp → Prop) : Prop :=
 U8 b7t H (fun (d6z : (List d9)) (H_9 : Hp) =>
 TL ((d6z, 0) : (List d9) × Int) H_9 fun (s : (List d9) × Int) H n3 => L0 d6y (d6y.n : Int) s.1 s.2 H n3 K)
def L2 (g0R : Sl) (e4H : Sl) (d6A : Int) (a9L : Int) (a5g : Int) (H : Hp) (n4 : (Int × Int) → Hp → Prop) (K : Sl → Hp → Prop) : Prop :=
 (a5g < d6A →
 (0 : Int) ≤ a5g ∧ (a5g : Int) < e4H.n ∧ ∃ x_1 : Sl, EltH H e4H a5g 1 [(vs x_1)] ∧
 ((IntKind.wrap .i64 (a9L + (x_1.n : Int))) < 0 →
 False) ∧
 (¬ ((IntKind.wrap .i64 (a9L + (x_1.n : Int))) < 0) →
 K8 g0R (IntKind.wrap .i64 (a9L + (x_1.n : Int))) e4H d6A a5g H n4 K)) ∧
 (¬ (a5g < d6A) →
 L1 g0R a9L H K)
def L8 (x0 : Sl) (H : Hp) (K : Sl → Hp → Prop) : Prop :=
 TL ((0, 0) : Int × Int) H fun (s : Int × Int) H n4 => L2 x0 x0 (x0.n : Int) s.1 s.2 H n4 K
theorem a4q (x0 : Sl) {K : Sl → Hp → Prop} (I : Inv w0 ps0 H0 H [] w) (hR : ∀ (r0 : Sl) (H' : Hp) (w' : World) (_ : Inv w0 ps0 H0 H' [] w') (_ : K r0 H'), R (vs r0) w') (h : L8 x0 H K) : F75 (vs x0) w R E := by
 unfold L8 at h
 unfold F75
 have hj1 : ∀ (b7t : Int) (H : Hp) (w : World) (_ : Inv w0 ps0 H0 H [] w) (_ : L1 x0 b7t H K), c8W (vs x0) (vi b7t) w R E := by
  intro b7t H w I h
  unfold c8W
  intro _
  unfold L1 at h
  refine d8 (cap := []) (fun args w => Tryz.call119 args w) ?_
  refine m4 (Fi := []) (Fr := []) I (h) (fun i3R H_9 i3S o7 a0R e4G a9D h7O => ?_) (fun _ _ _ _ _ q => q.elim)
  obtain ⟨d6z, g0S, g0T, rfl, rfl, g0U, h⟩ := h7O
  have hj2 : ∀ (c4d : (List d9)) (b0S : Sl) (Fs6j2 : Frag) (H : Hp) (w : World) (_ : RowL 150 1 s8 b0S c4d Fs6j2) (_ : Inv w0 ps0 H0 H [Fs6j2] w) (_ : K9 c4d H K), c8V (vs b0S) w R E := by
   intro c4d b0S Fs6j2 H w h2O I h
   unfold c8V
   intro _
   unfold K9 at h
   obtain ⟨b7q, a3C, g0V, a6A, h7P⟩ := Inv.freezeC I h2O (by decide)
   replace h := h b0S b7q g0V a6A h7P
   exact hR b0S b7q _ a3C h
  refine v8 fun j2 hx2 => ?_
  refine a7 (c3I _ _ _) ?_
  obtain ⟨e4I, d0A, h7Q, h7R⟩ := h
  refine L6 (J := fun n l w => ∃ (s : (List d9) × Int) (H : Hp) (c4f : Sl) (Fs6l3 : Frag) , n = d0A s ∧ l = (match s with | (a6D, a5G) => [(vs c4f), (vi a5G)]) ∧ (match s with | (a6D, a5G) => RowL 150 1 s8 c4f a6D Fs6l3) ∧ (match s with | (a6D, a5G) => Inv w0 ps0 H0 H [Fs6l3] w) ∧ e4I s H) ⟨_, (d6z, 0), H_9, g0S, g0T, rfl, rfl, g0U, a0R, h7Q⟩ ?_
  rintro i3T τ_46 w next3 ⟨⟨a6D, a5G⟩, H, c4f, Fs6l3, rfl, e4J, d6B, I, h7S⟩ hn3
  dsimp only at e4J I d6B
  simp only [List.map_cons, List.map_nil, List.cons.injEq, and_true] at e4J
  obtain ⟨e6, e27⟩ := e4J
  simp only [e6, e27]
  obtain ⟨n3, hm3, h⟩ : ∃ n3 : ((List d9) × Int) → Hp → Prop, (∀ s' H', n3 s' H' → e4I s' H' ∧ d0A s' < d0A (a6D, a5G)) ∧ L0 x0 (x0.n : Int) a6D a5G H n3 K := ⟨_, fun _ _ h => h, h7R (a6D, a5G) H (fun s' H' => e4I s' H' ∧ d0A s' < d0A (a6D, a5G)) h7S (fun _ _ a b => ⟨a, b⟩)⟩
  unfold d9M
  unfold L0 at h
  refine a7 (C2 _ _ _ _ _ _) ?_
  refine i8 (fun e4K => ?_) (fun e4K => ?_)
  ·replace h := h.1 e4K
   obtain ⟨e4L, c2D, d6x, b7u, h⟩ := h
   obtain ⟨g0F, i3U, d0B, b7u⟩ := b7u
   refine a7 (c6T d0B _ _ _ _ e4L c2D) ?_
   refine d6 (ld1 (v := (vs d6x)) Tryz.isAgg137 (I.atH b7u)) ?_
   obtain ⟨c4e, e4M, h⟩ := h
   obtain ⟨e4N, h⟩ := h
   refine b5F (s := c4f) (xs := a6D) I d6B (SlH.src I e4M P9) e4N fun b1y a9E C4 a4D V5 a7D => ?_
   refine a7 (J8 _ _ _ _ _ _) ?_
   exact hn3 _ _ _ (hm3 _ _ h).2 ⟨((a6D ++ c4e), (IntKind.wrap .i64 (a5G + 1))), H, b1y, a9E, rfl, rfl, a4D, V5, (hm3 _ _ h).1⟩
  ·replace h := h.2 e4K
   exact hx2 _ _ (hj2 a6D c4f Fs6l3 H _ d6B I h)
 refine v8 fun j1 hx1 => ?_
 refine a7 (c3I _ _ _) ?_
 obtain ⟨e4O, d0C, h7T, h7U⟩ := h
 refine L6 (J := fun n l w => ∃ (s : Int × Int) (H : Hp) , n = d0C s ∧ l = (match s with | (a9L, a5g) => [(vi a9L), (vi a5g)]) ∧ (match s with | (a9L, a5g) => Inv w0 ps0 H0 H [] w) ∧ e4O s H) ⟨_, (0, 0), H, rfl, rfl, I, h7T⟩ ?_
 rintro i3V τ_55 w next4 ⟨⟨a9L, a5g⟩, H, rfl, d6C, I, h7V⟩ hn4
 dsimp only at d6C I
 simp only [List.map_cons, List.map_nil, List.cons.injEq, and_true] at d6C
 obtain ⟨e3, e11⟩ := d6C
 simp only [e3, e11]
 obtain ⟨n4, hm4, h⟩ : ∃ n4 : (Int × Int) → Hp → Prop, (∀ s' H', n4 s' H' → e4O s' H' ∧ d0C s' < d0C (a9L, a5g)) ∧ L2 x0 x0 (x0.n : Int) a9L a5g H n4 K := ⟨_, fun _ _ h => h, h7U (a9L, a5g) H (fun s' H' => e4O s' H' ∧ d0C s' < d0C (a9L, a5g)) h7V (fun _ _ a b => ⟨a, b⟩)⟩
 unfold d9N
 unfold L2 at h
 refine a7 (C2 _ _ _ _ _ _) ?_
 refine i8 (fun c2E => ?_) (fun c2E => ?_)
 ·replace h := h.1 c2E
  have hj5 : ∀ (c6i : Int) (H : Hp) (w : World) (_ : Inv w0 ps0 H0 H [] w) (_ : K8 x0 c6i x0 (x0.n : Int) a5g H n4 K), c8X (vs x0) (vi c6i) (vs x0) (vi (x0.n : Int)) (vi a5g) w next4 R E := by
   intro c6i H w I h
   unfold c8X
   intro _
   unfold K8 at h
   refine a7 (J8 _ _ _ _ _ _) ?_
   exact hn4 _ _ _ (hm4 _ _ h).2 ⟨(c6i, (IntKind.wrap .i64 (a5g + 1))), H, rfl, rfl, I, (hm4 _ _ h).1⟩
  refine v8 fun j5 hx5 => ?_
  obtain ⟨h_4, h_5, x_1, h_7, h⟩ := h
  obtain ⟨g_2, o_3, h_6, h_7⟩ := h_7
  refine a7 (c6T h_6 _ _ _ _ h_4 h_5) ?_
  refine d6 (ld1 (v := (vs x_1)) Tryz.isAgg137 (I.atH h_7)) ?_
  refine a7 (b1T _ _ _) ?_
  refine a7 (J8 _ _ _ _ _ _) ?_
  refine a7 (C2 _ _ _ _ _ _) ?_
  refine i8 (fun c_8 => ?_) (fun c_8 => ?_)
  ·replace h := h.1 c_8
   refine a7 (d9I _) ?_
   exact h.elim
  ·replace h := h.2 c_8
   exact hx5 _ _ (hj5 (IntKind.wrap .i64 (a9L + (x_1.n : Int))) H _ I h)
 ·replace h := h.2 c2E
  exact hx1 _ _ (hj1 a9L H _ I h)
theorem a4y (x0 : Sl) {H : Hp} {K : Sl → Hp → Prop} (h : L8 x0 H K) : G4 x0 H K := by
 intro w I
 refine f6X ?_
 refine a4q x0 I (fun r0 H' w' I' hk => ⟨H', _, I', r0, rfl, rfl, hk⟩) h
def L3 (h7W : Int) (c0T : Bool) (a0l : L5) (H : Hp) (K : Bool → Hp → Prop) : Prop :=
 (c0T = true →
 K (decide (h7W = 2)) H) ∧
 (c0T = false →
 K false H)
def R3 (c6j : Int) (a7Y : Int) (c0U : Bool) (a0U : L5) (H : Hp) (K : Bool → Hp → Prop) : Prop :=
 (c0U = true →
 K (decide (c6j = 1)) H) ∧
 (c0U = false →
 (a7Y = 6 →
 L3 c6j (decide (a7Y = 6)) a0U H K) ∧
 (¬ (a7Y = 6) →
 (a7Y = 7 →
 L3 c6j (decide (a7Y = 7)) a0U H K) ∧
 (¬ (a7Y = 7) →
 (a7Y = 8 →
 L3 c6j (decide (a7Y = 8)) a0U H K) ∧
 (¬ (a7Y = 8) →
 (a7Y = 9 →
 L3 c6j (decide (a7Y = 9)) a0U H K) ∧
 (¬ (a7Y = 9) →
 L3 c6j (decide (a7Y = 10)) a0U H K)))))
def R4 (b7t : Int) (a7X : Int) (c0V : Bool) (y6 : L5) (H : Hp) (K : Bool → Hp → Prop) : Prop :=
 (c0V = true →
 K (decide (b7t = 0)) H) ∧
 (c0V = false →
 (a7X = 4 →
 R3 b7t a7X (decide (a7X = 4)) y6 H K) ∧
 (¬ (a7X = 4) →
 R3 b7t a7X (decide (a7X = 5)) y6 H K))
def a2m (x0 : L5) (H : Hp) (K : Bool → Hp → Prop) : Prop :=
 a3z (d9.J9 x0) H (fun (W4 : ByteArray) (b2b : Bool) (H_6 : Hp) =>
 ((((!decide (x0.r6.a8 = 1)) && (!decide (x0.r6.o2 = 0))) || ((!b2b) && (!decide (x0.r6.b8 = ⟨#[]⟩)))) = true →
 K false H_6) ∧
 ((((!decide (x0.r6.a8 = 1)) && (!decide (x0.r6.o2 = 0))) || ((!b2b) && (!decide (x0.r6.b8 = ⟨#[]⟩)))) = false →
 (x0.r6.a8 = 1 →
 K ((decide (0 ≤ x0.r6.o2)) && (decide ((x0.r6.o0.n : Int) = 0))) H_6) ∧
 (¬ (x0.r6.a8 = 1) →
 (x0.r6.a8 = 2 →
 R4 (x0.r6.o0.n : Int) x0.r6.a8 (decide (x0.r6.a8 = 2)) x0 H_6 K) ∧
 (¬ (x0.r6.a8 = 2) →
 R4 (x0.r6.o0.n : Int) x0.r6.a8 (decide (x0.r6.a8 = 3)) x0 H_6 K))))
theorem b3q (x0 : L5) {K : Bool → Hp → Prop} (I : Inv w0 ps0 H0 H [] w) (hR : ∀ (r0 : Bool) (H' : Hp) (w' : World) (_ : Inv w0 ps0 H0 H' [] w') (_ : K r0 H'), R (vB r0) w') (h : a2m x0 H K) : d5Q (Value.agg (b7 x0.r6).toArray) w R E := by
 unfold a2m at h
 unfold d5Q
 refine M4 I (cs := (b7 x0.r6)) rfl fun g_2 w_3 I_4 k_5 => ?_
 refine a7 a1v ?_
 refine a7 K4 ?_
 refine d6 (ld1 Tryz.isAgg51 (I_4.at1 (o := 3) (vs := [(vs x0.r6.o0)]) (nb rfl) rfl)) ?_
 refine a7 (a1Z _ _ _) ?_
 refine d6 (ldA Tryz.isAgg136 Tryz.sizeOf136 rfl (I_4.at1 (o := 0) (vs := (b7 x0.r6)) (nb rfl) rfl)) ?_
 refine a7 (b0b x0) ?_
 refine d8 (cap := []) (fun args w => Tryz.call143 args w) ?_
 refine m4 (Fi := []) (Fr := [bx g_2 136 (b7 x0.r6)]) I_4 (h) (fun c5Y H_6 c5Z w_7 I_8 c6a k_9 b0g => ?_) (fun _ _ _ _ _ q => q.elim)
 obtain ⟨W4, b2b, rfl, rfl, h⟩ := b0g
 refine a7 (m2 _ _ (Value.string W4) rfl) ?_
 refine a7 (m2 _ _ (vB b2b) rfl) ?_
 refine a7 a1v ?_
 refine a7 Q4 ?_
 refine d6 (ld1 Tryz.isAgg3 (I_8.at1 (o := 0) (vs := [(vi x0.r6.a8)]) (nb rfl) rfl)) ?_
 refine a7 (T0 _ _ _ _ _ _) ?_
 refine a7 (Pu.g fun hb => by have i5 := hb; exact a1v) ?_
 refine a7 (Pu.g fun hb => by have i5 := hb; simp only [r8 i5]; exact a6g) ?_
 refine d6 (Ld.g fun hb => by have i5 := hb; simp only [r8 i5]; exact (ld1 Tryz.isAgg2 (I_8.at1 (o := 1) (vs := [(vi x0.r6.o2)]) (nb rfl) rfl))) ?_
 refine a7 (Pu.g fun hb => by have i5 := hb; simp only [r8 i5]; exact (T0 _ _ _ _ _ _)) ?_
 refine a7 (P7 _ _) ?_
 simp only [Q0]
 refine a7 (Pu.g fun hb => by have i5 := hb; simp only [r8 i5]; exact (a0S _)) ?_
 simp only [e7Q]
 refine a7 (Pu.e (b2q _ _ _) (Pu.g fun hb => by obtain ⟨i5, c9Z⟩ := c0B hb; exact a1v)) ?_
 refine a7 (Pu.e (b2q _ _ _) (Pu.g fun hb => by obtain ⟨i5, c9Z⟩ := c0B hb; simp only [r8 hb]; exact a7Q)) ?_
 refine d6 (Ld.e (b2q _ _ _) (Ld.g fun hb => by obtain ⟨i5, c9Z⟩ := c0B hb; simp only [r8 hb]; exact (ld1 Tryz.isAgg9 (I_8.at1 (o := 2) (vs := [(Value.string x0.r6.b8)]) (nb rfl) rfl)))) ?_
 refine a7 (Pu.e (b2q _ _ _) (Pu.g fun hb => by obtain ⟨i5, c9Z⟩ := c0B hb; simp only [r8 hb]; exact (f5S _ _ _ _ _))) ?_
 refine a7 (Pu.g fun hb => by have i5 := hb; simp only [r8 i5, d9w i5]; exact (P7 _ _)) ?_
 refine a7 (a0E _ _) ?_
 refine s6 (fun e4P => ?_) (fun e4P => ?_)
 ·replace h := h.1 e4P
  exact hR false H_6 _ I_8.drop h
 ·replace h := h.2 e4P
  refine a7 a1v ?_
  refine a7 Q4 ?_
  refine d6 (ld1 Tryz.isAgg3 (I_8.at1 (o := 0) (vs := [(vi x0.r6.a8)]) (nb rfl) rfl)) ?_
  refine a7 (m5 _ _ _ _ _ _) ?_
  refine i8 (fun c2F => ?_) (fun c2F => ?_)
  ·replace h := h.1 c2F
   refine a7 a1v ?_
   refine a7 a6g ?_
   refine d6 (ld1 Tryz.isAgg2 (I_8.at1 (o := 1) (vs := [(vi x0.r6.o2)]) (nb rfl) rfl)) ?_
   refine a7 (b5B _ _ _ _ _ _) ?_
   simp only [Q0]
   refine a7 (Pu.g fun hb => by have i5 := hb; simp only [r8 i5]; exact (m5 _ _ _ _ _ _)) ?_
   refine a7 (P7 _ _) ?_
   exact hR ((decide (0 ≤ x0.r6.o2)) && (decide ((x0.r6.o0.n : Int) = 0))) H_6 _ I_8.drop h
  ·replace h := h.2 c2F
   have hj1 : ∀ (c0V : Bool) (H : Hp) (w : World) (_ : Inv w0 ps0 H0 H [bx g_2 136 (b7 x0.r6)] w) (_ : R4 (x0.r6.o0.n : Int) x0.r6.a8 c0V x0 H K), c5Q (vi (x0.r6.o0.n : Int)) (vi x0.r6.a8) (vB c0V) w R E := by
    intro c0V H w I h
    unfold c5Q
    intro _
    unfold R4 at h
    refine s6 (fun c2G => ?_) (fun c2G => ?_)
    ·replace h := h.1 c2G
     refine a7 (m5 _ _ _ _ _ _) ?_
     exact hR (decide ((x0.r6.o0.n : Int) = 0)) H _ I.drop h
    ·replace h := h.2 c2G
     have hj2 : ∀ (c0U : Bool) (H : Hp) (w : World) (_ : Inv w0 ps0 H0 H [bx g_2 136 (b7 x0.r6)] w) (_ : R3 (x0.r6.o0.n : Int) x0.r6.a8 c0U x0 H K), c5P (vi (x0.r6.o0.n : Int)) (vi x0.r6.a8) (vB c0U) w R E := by
      intro c0U H w I h
      unfold c5P
      intro _
      unfold R3 at h
      refine s6 (fun a6C => ?_) (fun a6C => ?_)
      ·replace h := h.1 a6C
       refine a7 (m5 _ _ _ _ _ _) ?_
       exact hR (decide ((x0.r6.o0.n : Int) = 1)) H _ I.drop h
      ·replace h := h.2 a6C
       have hj3 : ∀ (c0T : Bool) (H : Hp) (w : World) (_ : Inv w0 ps0 H0 H [bx g_2 136 (b7 x0.r6)] w) (_ : L3 (x0.r6.o0.n : Int) c0T x0 H K), c5O (vi (x0.r6.o0.n : Int)) (vB c0T) w R E := by
        intro c0T H w I h
        unfold c5O
        intro _
        unfold L3 at h
        refine s6 (fun a8U => ?_) (fun a8U => ?_)
        ·replace h := h.1 a8U
         refine a7 (m5 _ _ _ _ _ _) ?_
         exact hR (decide ((x0.r6.o0.n : Int) = 2)) H _ I.drop h
        ·replace h := h.2 a8U
         exact hR false H _ I.drop h
       refine v8 fun j3 hx3 => ?_
       refine a7 (m5 _ _ _ _ _ _) ?_
       refine i8 (fun b3l => ?_) (fun b3l => ?_)
       ·replace h := h.1 b3l
        exact hx3 _ _ (hj3 (decide (x0.r6.a8 = 6)) H _ I h)
       ·replace h := h.2 b3l
        refine a7 (m5 _ _ _ _ _ _) ?_
        refine i8 (fun a8V => ?_) (fun a8V => ?_)
        ·replace h := h.1 a8V
         exact hx3 _ _ (hj3 (decide (x0.r6.a8 = 7)) H _ I h)
        ·replace h := h.2 a8V
         refine a7 (m5 _ _ _ _ _ _) ?_
         refine i8 (fun a8T => ?_) (fun a8T => ?_)
         ·replace h := h.1 a8T
          exact hx3 _ _ (hj3 (decide (x0.r6.a8 = 8)) H _ I h)
         ·replace h := h.2 a8T
          refine a7 (m5 _ _ _ _ _ _) ?_
          refine i8 (fun b3m => ?_) (fun b3m => ?_)
          ·replace h := h.1 b3m
           exact hx3 _ _ (hj3 (decide (x0.r6.a8 = 9)) H _ I h)
          ·replace h := h.2 b3m
           refine a7 (m5 _ _ _ _ _ _) ?_
           exact hx3 _ _ (hj3 (decide (x0.r6.a8 = 10)) H _ I h)
     refine v8 fun j2 hx2 => ?_
     refine a7 (m5 _ _ _ _ _ _) ?_
     refine i8 (fun a8N => ?_) (fun a8N => ?_)
     ·replace h := h.1 a8N
      exact hx2 _ _ (hj2 (decide (x0.r6.a8 = 4)) H _ I h)
     ·replace h := h.2 a8N
      refine a7 (m5 _ _ _ _ _ _) ?_
      exact hx2 _ _ (hj2 (decide (x0.r6.a8 = 5)) H _ I h)
   refine v8 fun j1 hx1 => ?_
   refine a7 (m5 _ _ _ _ _ _) ?_
   refine i8 (fun e4Q => ?_) (fun e4Q => ?_)
   ·replace h := h.1 e4Q
    exact hx1 _ _ (hj1 (decide (x0.r6.a8 = 2)) H_6 _ I_8 h)
   ·replace h := h.2 e4Q
    refine a7 (m5 _ _ _ _ _ _) ?_
    exact hx1 _ _ (hj1 (decide (x0.r6.a8 = 3)) H_6 _ I_8 h)
theorem b3Y (x0 : L5) {H : Hp} {K : Bool → Hp → Prop} (h : a2m x0 H K) : a4O x0 H K := by
 intro w I
 refine f0m ?_
 refine b3q x0 I (fun r0 H' w' I' hk => ⟨H', _, I', r0, rfl, rfl, hk⟩) h
def a4r (x0 : b6) (H : Hp) (K : d9 → Hp → Prop) : Prop :=
 K (d9.J9 (L5.mk x0)) H
theorem b5R (x0 : b6) {K : d9 → Hp → Prop} (I : Inv w0 ps0 H0 H [] w) (hR : ∀ (r0 : d9) (H' : Hp) (w' : World) (_ : Inv w0 ps0 H0 H' [] w') (_ : K r0 H'), R (C3 r0) w') (h : a4r x0 H K) : d5T (Value.agg (b7 x0).toArray) w R E := by
 unfold a4r at h
 unfold d5T
 refine M4 I (cs := (b7 x0)) rfl fun g_2 w_3 I_4 k_5 => ?_
 refine d6 (ldA Tryz.isAgg53 Tryz.sizeOf53 rfl (I_4.at1 (o := 0) (vs := (b7 x0)) (nb rfl) rfl)) ?_
 refine a7 (b8L _ _ _ _ _ _) ?_
 refine a7 (b0b (L5.mk x0)) ?_
 exact hR (d9.J9 (L5.mk x0)) H _ I_4.drop h
theorem b7v (x0 : b6) {H : Hp} {K : d9 → Hp → Prop} (h : a4r x0 H K) : a9B x0 H K := by
 intro w I
 refine f0s ?_
 refine b5R x0 I (fun r0 H' w' I' hk => ⟨H', _, I', r0, rfl, rfl, hk⟩) h
def G1 (D9 : (List d9)) (H : Hp) (K : Sl → Hp → Prop) : Prop :=
 ∀ (q8 : Sl) (K1 : Hp), Hle H K1 → SlH K1 1 s8 q8 D9 → q8.n ≤ q8.c →
 K q8 K1
def G3 (U6 : Sl) (T4 : Int) (m3 : (List d9)) (m6 : Int) (H : Hp) (n2 : ((List d9) × Int) → Hp → Prop) (K : Sl → Hp → Prop) : Prop :=
 (m6 < T4 →
 (0 : Int) ≤ m6 ∧ (m6 : Int) < U6.n ∧ ∃ x_1 : b9, EltH H U6 m6 4 (d5 x_1) ∧
 a9C x_1 H (fun (E0 : d9) (Q2 : Hp) =>
 (m3.length + ([E0] : List d9).length) * 17 ≤ 140737488355328 ∧
 n2 ((m3 ++ [E0]), (IntKind.wrap .i64 (m6 + 1))) Q2)) ∧
 (¬ (m6 < T4) →
 G1 m3 H K)
def G9 (x0 : Sl) (H : Hp) (K : Sl → Hp → Prop) : Prop :=
 TL (([], 0) : (List d9) × Int) H fun (s : (List d9) × Int) H n2 => G3 x0 (x0.n : Int) s.1 s.2 H n2 K
theorem a2A (x0 : Sl) {K : Sl → Hp → Prop} (I : Inv w0 ps0 H0 H [] w) (hR : ∀ (r0 : Sl) (H' : Hp) (w' : World) (_ : Inv w0 ps0 H0 H' [] w') (_ : K r0 H'), R (vs r0) w') (h : G9 x0 H K) : d5X (vs x0) (fC 194) w R E := by
 unfold G9 at h
 unfold d5X
 have hj1 : ∀ (D9 : (List d9)) (q8 : Sl) (Fs5j1 : Frag) (H : Hp) (w : World) (_ : RowL 150 1 s8 q8 D9 Fs5j1) (_ : Inv w0 ps0 H0 H [Fs5j1] w) (_ : G1 D9 H K), c5U (vs q8) w R E := by
  intro D9 q8 Fs5j1 H w a4i I h
  unfold c5U
  intro _
  unfold G1 at h
  obtain ⟨K1, a3A, a6y, a1l, a3B⟩ := Inv.freezeC I a4i (by decide)
  replace h := h q8 K1 a6y a1l a3B
  exact hR q8 K1 _ a3A h
 refine v8 fun j1 hx1 => ?_
 refine a7 (a7o _ _ _) ?_
 obtain ⟨Y6, N9, a7A, a7B⟩ := h
 refine L6 (J := fun n l w => ∃ (s : (List d9) × Int) (H : Hp) (A7 : Sl) (Fs5l2 : Frag) , n = N9 s ∧ l = (match s with | (m3, m6) => [(vs A7), (vi m6)]) ∧ (match s with | (m3, m6) => RowL 150 1 s8 A7 m3 Fs5l2) ∧ (match s with | (m3, m6) => Inv w0 ps0 H0 H [Fs5l2] w) ∧ Y6 s H) ⟨_, ([], 0), H, (Sl.mk none 0 0), [], rfl, rfl, (RowL.nil P9 Q9), I.nil, a7A⟩ ?_
 rintro b9q τ_50 w next2 ⟨⟨m3, m6⟩, H, A7, Fs5l2, rfl, X2, P3, I, a7C⟩ hn2
 dsimp only at X2 I P3
 simp only [List.map_cons, List.map_nil, List.cons.injEq, and_true] at X2
 obtain ⟨e5, e10⟩ := X2
 simp only [e5, e10]
 obtain ⟨n2, hm2, h⟩ : ∃ n2 : ((List d9) × Int) → Hp → Prop, (∀ s' H', n2 s' H' → Y6 s' H' ∧ N9 s' < N9 (m3, m6)) ∧ G3 x0 (x0.n : Int) m3 m6 H n2 K := ⟨_, fun _ _ h => h, a7B (m3, m6) H (fun s' H' => Y6 s' H' ∧ N9 s' < N9 (m3, m6)) a7C (fun _ _ a b => ⟨a, b⟩)⟩
 unfold d4v
 unfold G3 at h
 refine a7 (C2 _ _ _ _ _ _) ?_
 refine i8 (fun V4 => ?_) (fun V4 => ?_)
 ·replace h := h.1 V4
  obtain ⟨h_4, h_5, x_1, h_7, h⟩ := h
  obtain ⟨g_2, o_3, h_6, h_7⟩ := h_7
  refine a7 (a1B h_6 _ _ _ _ h_4 h_5) ?_
  refine d6 (ldA (vs := (d5 x_1)) Tryz.isAgg59 Tryz.sizeOf59 rfl (I.atH h_7)) ?_
  refine u1 I Tryz.zeroValue59 (cs := [(vi 0), (vi 0), (nS), (nS)]) rfl fun g_9 o7 a0R a9D => ?_
  refine l9 a0R Tryz.sizeOf59 (vs := (d5 x_1)) (cs' := (d5 x_1)) rfl rfl (nb rfl) rfl rfl fun Z2 P0 a3P => ?_
  refine d6 (ldA Tryz.isAgg59 Tryz.sizeOf59 rfl (P0.at1 (o := 0) (vs := (d5 x_1)) (nb rfl) rfl)) ?_
  refine d8 (cap := []) (fun args w => Tryz.call194 args w) ?_
  refine m4 (Fi := []) (Fr := [bx g_9 59 (d5 x_1), Fs5l2]) P0 (h) (fun b6V Q2 b4V a0q a2F b6W b6X a6z => ?_) (fun _ _ _ _ _ q => q.elim)
  obtain ⟨E0, rfl, rfl, h⟩ := a6z
  refine a0m (e := 150) (c := s8) (xs := [E0]) a2F (b0c _) rfl rfl P9 Q9 (nb rfl) fun b1y a9E C4 a4D V5 a7D => ?_
  obtain ⟨a6A, h⟩ := h
  refine b5F (s := A7) (xs := m3) (V5.bring 2) P3 (a4D.srcO ((V5.bring 2).bring 1)) a6A fun a4j a6B A6 a3Q a3C b2U => ?_
  refine a7 (J8 _ _ _ _ _ _) ?_
  exact hn2 _ _ _ (hm2 _ _ h).2 ⟨((m3 ++ [E0]), (IntKind.wrap .i64 (m6 + 1))), Q2, a4j, a6B, rfl, rfl, a3Q, ((a3C.bring 1).drop.bring 1).drop, (hm2 _ _ h).1⟩
 ·replace h := h.2 V4
  exact hx1 _ _ (hj1 m3 A7 Fs5l2 H _ P3 I h)
theorem a2O (x0 : Sl) {H : Hp} {K : Sl → Hp → Prop} (h : G9 x0 H K) : G5 x0 H K := by
 intro w I
 refine f0z ?_
 refine a2A x0 I (fun r0 H' w' I' hk => ⟨H', _, I', r0, rfl, rfl, hk⟩) h
end Go.Proofs.YtnhkdkcgdcgmdaaGreatDoor
