/- Typed formulas of the program's functions, and the theorems that the contracts follow from them; printed by lift.py off the code. -/
import Derived.Test.YtnhkdkcgdcgmdaaDoorzRV1
namespace Go.Proofs.YtnhkdkcgdcgmdaaDoor
open Go.RowKit
set_option maxRecDepth 100000
set_option maxHeartbeats 2000000
def B1 (b9J : Bool) (cr_1j4 : Int) (H : Hp) (K : Int → Hp → Prop) : Prop :=
 (b9J = true →
 K 3 H) ∧
 (b9J = false →
 K 6 H)
def L4 (b9K : Bool) (cr_1j3 : Int) (H : Hp) (K : Int → Hp → Prop) : Prop :=
 (b9K = true →
 K 6 H) ∧
 (b9K = false →
 G4 48 57 cr_1j3 H (fun (T2 : Bool) (H_6 : Hp) =>
 (T2 = true →
 K 4 H_6) ∧
 (T2 = false →
 (cr_1j3 = 95 →
 B1 (decide (cr_1j3 = 95)) cr_1j3 H_6 K) ∧
 (¬ (cr_1j3 = 95) →
 G4 97 122 cr_1j3 H_6 (fun (L0 : Bool) (Z9 : Hp) =>
 (L0 = true →
 B1 L0 cr_1j3 Z9 K) ∧
 (L0 = false →
 G4 65 90 cr_1j3 Z9 (fun (c3k : Bool) (d4H : Hp) =>
 (c3k = true →
 B1 c3k cr_1j3 d4H K) ∧
 (c3k = false →
 G4 192 591 cr_1j3 d4H (fun (c3l : Bool) (d4I : Hp) =>
 (c3l = true →
 B1 c3l cr_1j3 d4I K) ∧
 (c3l = false →
 G4 913 969 cr_1j3 d4I (fun (B7 : Bool) (a3y : Hp) =>
 (B7 = true →
 B1 B7 cr_1j3 a3y K) ∧
 (B7 = false →
 G4 1040 1103 cr_1j3 a3y (fun (d4J : Bool) (e2d : Hp) =>
 B1 d4J cr_1j3 e2d K)))))))))))))
def m5 (b6T : Int) (b9L : Bool) (cr_1j2 : Int) (H : Hp) (K : Int → Hp → Prop) : Prop :=
 (b9L = true →
 K 5 H) ∧
 (b9L = false →
 (b6T = 215 →
 L4 (decide (b6T = 215)) cr_1j2 H K) ∧
 (¬ (b6T = 215) →
 (b6T = 247 →
 L4 (decide (b6T = 247)) cr_1j2 H K) ∧
 (¬ (b6T = 247) →
 L4 (decide (b6T = 930)) cr_1j2 H K)))
def L5 (o9 : Int) (a4D : Bool) (cr_1j1 : Int) (H : Hp) (K : Int → Hp → Prop) : Prop :=
 (a4D = true →
 K 1 H) ∧
 (a4D = false →
 (o9 = 10 →
 K 2 H) ∧
 (¬ (o9 = 10) →
 (o9 = 59 →
 m5 o9 (decide (o9 = 59)) cr_1j1 H K) ∧
 (¬ (o9 = 59) →
 (o9 = 44 →
 m5 o9 (decide (o9 = 44)) cr_1j1 H K) ∧
 (¬ (o9 = 44) →
 (o9 = 123 →
 m5 o9 (decide (o9 = 123)) cr_1j1 H K) ∧
 (¬ (o9 = 123) →
 (o9 = 125 →
 m5 o9 (decide (o9 = 125)) cr_1j1 H K) ∧
 (¬ (o9 = 125) →
 (o9 = 40 →
 m5 o9 (decide (o9 = 40)) cr_1j1 H K) ∧
 (¬ (o9 = 40) →
 (o9 = 41 →
 m5 o9 (decide (o9 = 41)) cr_1j1 H K) ∧
 (¬ (o9 = 41) →
 (o9 = 91 →
 m5 o9 (decide (o9 = 91)) cr_1j1 H K) ∧
 (¬ (o9 = 91) →
 (o9 = 93 →
 m5 o9 (decide (o9 = 93)) cr_1j1 H K) ∧
 (¬ (o9 = 93) →
 (o9 = 61 →
 m5 o9 (decide (o9 = 61)) cr_1j1 H K) ∧
 (¬ (o9 = 61) →
 (o9 = 33 →
 m5 o9 (decide (o9 = 33)) cr_1j1 H K) ∧
 (¬ (o9 = 33) →
 (o9 = 60 →
 m5 o9 (decide (o9 = 60)) cr_1j1 H K) ∧
 (¬ (o9 = 60) →
 (o9 = 62 →
 m5 o9 (decide (o9 = 62)) cr_1j1 H K) ∧
 (¬ (o9 = 62) →
 (o9 = 43 →
 m5 o9 (decide (o9 = 43)) cr_1j1 H K) ∧
 (¬ (o9 = 43) →
 (o9 = 45 →
 m5 o9 (decide (o9 = 45)) cr_1j1 H K) ∧
 (¬ (o9 = 45) →
 (o9 = 42 →
 m5 o9 (decide (o9 = 42)) cr_1j1 H K) ∧
 (¬ (o9 = 42) →
 (o9 = 47 →
 m5 o9 (decide (o9 = 47)) cr_1j1 H K) ∧
 (¬ (o9 = 47) →
 (o9 = 37 →
 m5 o9 (decide (o9 = 37)) cr_1j1 H K) ∧
 (¬ (o9 = 37) →
 (o9 = 38 →
 m5 o9 (decide (o9 = 38)) cr_1j1 H K) ∧
 (¬ (o9 = 38) →
 m5 o9 (decide (o9 = 124)) cr_1j1 H K))))))))))))))))))))
def a3I (x0 : Int) (H : Hp) (K : Int → Hp → Prop) : Prop :=
 (x0 = 32 →
 L5 x0 (decide (x0 = 32)) x0 H K) ∧
 (¬ (x0 = 32) →
 (x0 = 9 →
 L5 x0 (decide (x0 = 9)) x0 H K) ∧
 (¬ (x0 = 9) →
 L5 x0 (decide (x0 = 13)) x0 H K))
theorem b6U (x0 : Int) {w0 w : World} {ps0 : Nat → Prop} {H0 H : Hp} {K : Int → Hp → Prop} {R : Value → World → Prop} {E : Pan} (I : Inv w0 ps0 H0 H [] w) (hR : ∀ (r0 : Int) (H' : Hp) (w' : World) (_ : Inv w0 ps0 H0 H' [] w') (_ : K r0 H'), R (vi r0) w') (h : a3I x0 H K) : d3P (Value.int .i32 x0) w R E := by
 unfold a3I at h
 unfold d3P
 refine F7 I (cs := [(Value.int .i32 x0)]) rfl fun g_2 w_3 I_4 k_5 => ?_
 refine d9 (ld1 Tryd.isAgg21 (I_4.at1 (o := 0) (vs := [(Value.int .i32 x0)]) (nb rfl) rfl)) ?_
 have hj1 : ∀ (a4D : Bool) (H : Hp) (w : World) (_ : Inv w0 ps0 H0 H [bx g_2 21 [(Value.int .i32 x0)]] w) (_ : L5 x0 a4D x0 H K), c4J (Value.pointer (some ⟨g_2, 0, none⟩)) (Value.int .i32 x0) (Value.bool a4D) w R E := by
  intro a4D H w I h
  unfold c4J
  intro _
  unfold L5 at h
  refine j9 (fun e2e => ?_) (fun e2e => ?_)
  ·replace h := h.1 e2e
   exact hR 1 H _ I.drop h
  ·replace h := h.2 e2e
   refine a8 (f4 _ _ _ _ _ _) ?_
   refine g8 (fun e2f => ?_) (fun e2f => ?_)
   ·replace h := h.1 e2f
    exact hR 2 H _ I.drop h
   ·replace h := h.2 e2f
    have hj2 : ∀ (b9L : Bool) (H : Hp) (w : World) (_ : Inv w0 ps0 H0 H [bx g_2 21 [(Value.int .i32 x0)]] w) (_ : m5 x0 b9L x0 H K), c4I (Value.pointer (some ⟨g_2, 0, none⟩)) (Value.int .i32 x0) (Value.bool b9L) w R E := by
     intro b9L H w I h
     unfold c4I
     intro _
     unfold m5 at h
     refine j9 (fun e2g => ?_) (fun e2g => ?_)
     ·replace h := h.1 e2g
      exact hR 5 H _ I.drop h
     ·replace h := h.2 e2g
      have hj3 : ∀ (b9K : Bool) (H : Hp) (w : World) (_ : Inv w0 ps0 H0 H [bx g_2 21 [(Value.int .i32 x0)]] w) (_ : L4 b9K x0 H K), c4H (Value.pointer (some ⟨g_2, 0, none⟩)) (Value.bool b9K) w R E := by
       intro b9K H w I h
       unfold c4H
       intro _
       unfold L4 at h
       refine j9 (fun c1K => ?_) (fun c1K => ?_)
       ·replace h := h.1 c1K
        exact hR 6 H _ I.drop h
       ·replace h := h.2 c1K
        refine a8 (c0S _ _ _) ?_
        refine f5 (cap := [(Value.pointer (some ⟨g_2, 0, none⟩))]) (fun args w => Tryd.call151 args w) ?_
        refine i6 (Fi := [bx g_2 21 [(Value.int .i32 x0)]]) (Fr := []) I (h g_2) (fun c1t H_6 b8E w_7 I_8 c1u k_9 a7Z => ?_) (fun _ _ _ _ _ q => q.elim)
        obtain ⟨T2, rfl, rfl, h⟩ := a7Z
        refine j9 (fun c1L => ?_) (fun c1L => ?_)
        ·replace h := h.1 c1L
         exact hR 4 H_6 _ I_8.drop h
        ·replace h := h.2 c1L
         have hj4 : ∀ (b9J : Bool) (H : Hp) (w : World) (_ : Inv w0 ps0 H0 H [bx g_2 21 [(Value.int .i32 x0)]] w) (_ : B1 b9J x0 H K), c4G (Value.bool b9J) w R E := by
          intro b9J H w I h
          unfold c4G
          intro _
          unfold B1 at h
          refine j9 (fun a5v => ?_) (fun a5v => ?_)
          ·replace h := h.1 a5v
           exact hR 3 H _ I.drop h
          ·replace h := h.2 a5v
           exact hR 6 H _ I.drop h
         refine s8 fun j4 hx4 => ?_
         refine d9 (ld1 Tryd.isAgg21 (I_8.at1 (o := 0) (vs := [(Value.int .i32 x0)]) (nb rfl) rfl)) ?_
         refine a8 (f4 _ _ _ _ _ _) ?_
         refine g8 (fun c1E => ?_) (fun c1E => ?_)
         ·replace h := h.1 c1E
          exact hx4 _ _ (hj4 (decide (x0 = 95)) H_6 _ I_8 h)
         ·replace h := h.2 c1E
          refine f5 (cap := [(Value.pointer (some ⟨g_2, 0, none⟩))]) (fun args w => Tryd.call151 args w) ?_
          refine i6 (Fi := [bx g_2 21 [(Value.int .i32 x0)]]) (Fr := []) I_8 (h g_2) (fun c9g Z9 c5f a1C a5r c9h c9i b2p => ?_) (fun _ _ _ _ _ q => q.elim)
          obtain ⟨L0, rfl, rfl, h⟩ := b2p
          refine j9 (fun e2h => ?_) (fun e2h => ?_)
          ·replace h := h.1 e2h
           exact hx4 _ _ (hj4 L0 Z9 _ a5r h)
          ·replace h := h.2 e2h
           refine f5 (cap := [(Value.pointer (some ⟨g_2, 0, none⟩))]) (fun args w => Tryd.call151 args w) ?_
           refine i6 (Fi := [bx g_2 21 [(Value.int .i32 x0)]]) (Fr := []) a5r (h g_2) (fun i0R d4H i0S t7 d4K i0T i0U h4b => ?_) (fun _ _ _ _ _ q => q.elim)
           obtain ⟨c3k, rfl, rfl, h⟩ := h4b
           refine j9 (fun c1G => ?_) (fun c1G => ?_)
           ·replace h := h.1 c1G
            exact hx4 _ _ (hj4 c3k d4H _ d4K h)
           ·replace h := h.2 c1G
            refine f5 (cap := [(Value.pointer (some ⟨g_2, 0, none⟩))]) (fun args w => Tryd.call151 args w) ?_
            refine i6 (Fi := [bx g_2 21 [(Value.int .i32 x0)]]) (Fr := []) d4K (h g_2) (fun i0V d4I i0W c1M a7w b4P c5h h4c => ?_) (fun _ _ _ _ _ q => q.elim)
            obtain ⟨c3l, rfl, rfl, h⟩ := h4c
            refine j9 (fun c1I => ?_) (fun c1I => ?_)
            ·replace h := h.1 c1I
             exact hx4 _ _ (hj4 c3l d4I _ a7w h)
            ·replace h := h.2 c1I
             refine f5 (cap := [(Value.pointer (some ⟨g_2, 0, none⟩))]) (fun args w => Tryd.call151 args w) ?_
             refine i6 (Fi := [bx g_2 21 [(Value.int .i32 x0)]]) (Fr := []) a7w (h g_2) (fun e2i a3y e2j D9 b4U e2k e2l c1N => ?_) (fun _ _ _ _ _ q => q.elim)
             obtain ⟨B7, rfl, rfl, h⟩ := c1N
             refine j9 (fun e2m => ?_) (fun e2m => ?_)
             ·replace h := h.1 e2m
              exact hx4 _ _ (hj4 B7 a3y _ b4U h)
             ·replace h := h.2 e2m
              refine f5 (cap := [(Value.pointer (some ⟨g_2, 0, none⟩))]) (fun args w => Tryd.call151 args w) ?_
              refine i6 (Fi := [bx g_2 21 [(Value.int .i32 x0)]]) (Fr := []) b4U (h g_2) (fun i0X e2d i0Y d4L h4d i0Z i1a h4e => ?_) (fun _ _ _ _ _ q => q.elim)
              obtain ⟨d4J, rfl, rfl, h⟩ := h4e
              exact hx4 _ _ (hj4 d4J e2d _ h4d h)
      refine s8 fun j3 hx3 => ?_
      refine a8 (f4 _ _ _ _ _ _) ?_
      refine g8 (fun c1O => ?_) (fun c1O => ?_)
      ·replace h := h.1 c1O
       exact hx3 _ _ (hj3 (decide (x0 = 215)) H _ I h)
      ·replace h := h.2 c1O
       refine a8 (f4 _ _ _ _ _ _) ?_
       refine g8 (fun c1p => ?_) (fun c1p => ?_)
       ·replace h := h.1 c1p
        exact hx3 _ _ (hj3 (decide (x0 = 247)) H _ I h)
       ·replace h := h.2 c1p
        refine a8 (f4 _ _ _ _ _ _) ?_
        exact hx3 _ _ (hj3 (decide (x0 = 930)) H _ I h)
    refine s8 fun j2 hx2 => ?_
    refine a8 (f4 _ _ _ _ _ _) ?_
    refine g8 (fun e2n => ?_) (fun e2n => ?_)
    ·replace h := h.1 e2n
     exact hx2 _ _ (hj2 (decide (x0 = 59)) H _ I h)
    ·replace h := h.2 e2n
     refine a8 (f4 _ _ _ _ _ _) ?_
     refine g8 (fun c1s => ?_) (fun c1s => ?_)
     ·replace h := h.1 c1s
      exact hx2 _ _ (hj2 (decide (x0 = 44)) H _ I h)
     ·replace h := h.2 c1s
      refine a8 (f4 _ _ _ _ _ _) ?_
      refine g8 (fun c1C => ?_) (fun c1C => ?_)
      ·replace h := h.1 c1C
       exact hx2 _ _ (hj2 (decide (x0 = 123)) H _ I h)
      ·replace h := h.2 c1C
       refine a8 (f4 _ _ _ _ _ _) ?_
       refine g8 (fun e2o => ?_) (fun e2o => ?_)
       ·replace h := h.1 e2o
        exact hx2 _ _ (hj2 (decide (x0 = 125)) H _ I h)
       ·replace h := h.2 e2o
        refine a8 (f4 _ _ _ _ _ _) ?_
        refine g8 (fun e2p => ?_) (fun e2p => ?_)
        ·replace h := h.1 e2p
         exact hx2 _ _ (hj2 (decide (x0 = 40)) H _ I h)
        ·replace h := h.2 e2p
         refine a8 (f4 _ _ _ _ _ _) ?_
         refine g8 (fun e2q => ?_) (fun e2q => ?_)
         ·replace h := h.1 e2q
          exact hx2 _ _ (hj2 (decide (x0 = 41)) H _ I h)
         ·replace h := h.2 e2q
          refine a8 (f4 _ _ _ _ _ _) ?_
          refine g8 (fun e2r => ?_) (fun e2r => ?_)
          ·replace h := h.1 e2r
           exact hx2 _ _ (hj2 (decide (x0 = 91)) H _ I h)
          ·replace h := h.2 e2r
           refine a8 (f4 _ _ _ _ _ _) ?_
           refine g8 (fun b2E => ?_) (fun b2E => ?_)
           ·replace h := h.1 b2E
            exact hx2 _ _ (hj2 (decide (x0 = 93)) H _ I h)
           ·replace h := h.2 b2E
            refine a8 (f4 _ _ _ _ _ _) ?_
            refine g8 (fun c1P => ?_) (fun c1P => ?_)
            ·replace h := h.1 c1P
             exact hx2 _ _ (hj2 (decide (x0 = 61)) H _ I h)
            ·replace h := h.2 c1P
             refine a8 (f4 _ _ _ _ _ _) ?_
             refine g8 (fun c1Q => ?_) (fun c1Q => ?_)
             ·replace h := h.1 c1Q
              exact hx2 _ _ (hj2 (decide (x0 = 33)) H _ I h)
             ·replace h := h.2 c1Q
              refine a8 (f4 _ _ _ _ _ _) ?_
              refine g8 (fun c1R => ?_) (fun c1R => ?_)
              ·replace h := h.1 c1R
               exact hx2 _ _ (hj2 (decide (x0 = 60)) H _ I h)
              ·replace h := h.2 c1R
               refine a8 (f4 _ _ _ _ _ _) ?_
               refine g8 (fun c1S => ?_) (fun c1S => ?_)
               ·replace h := h.1 c1S
                exact hx2 _ _ (hj2 (decide (x0 = 62)) H _ I h)
               ·replace h := h.2 c1S
                refine a8 (f4 _ _ _ _ _ _) ?_
                refine g8 (fun c1T => ?_) (fun c1T => ?_)
                ·replace h := h.1 c1T
                 exact hx2 _ _ (hj2 (decide (x0 = 43)) H _ I h)
                ·replace h := h.2 c1T
                 refine a8 (f4 _ _ _ _ _ _) ?_
                 refine g8 (fun b2K => ?_) (fun b2K => ?_)
                 ·replace h := h.1 b2K
                  exact hx2 _ _ (hj2 (decide (x0 = 45)) H _ I h)
                 ·replace h := h.2 b2K
                  refine a8 (f4 _ _ _ _ _ _) ?_
                  refine g8 (fun a8j => ?_) (fun a8j => ?_)
                  ·replace h := h.1 a8j
                   exact hx2 _ _ (hj2 (decide (x0 = 42)) H _ I h)
                  ·replace h := h.2 a8j
                   refine a8 (f4 _ _ _ _ _ _) ?_
                   refine g8 (fun b2L => ?_) (fun b2L => ?_)
                   ·replace h := h.1 b2L
                    exact hx2 _ _ (hj2 (decide (x0 = 47)) H _ I h)
                   ·replace h := h.2 b2L
                    refine a8 (f4 _ _ _ _ _ _) ?_
                    refine g8 (fun a5t => ?_) (fun a5t => ?_)
                    ·replace h := h.1 a5t
                     exact hx2 _ _ (hj2 (decide (x0 = 37)) H _ I h)
                    ·replace h := h.2 a5t
                     refine a8 (f4 _ _ _ _ _ _) ?_
                     refine g8 (fun b2M => ?_) (fun b2M => ?_)
                     ·replace h := h.1 b2M
                      exact hx2 _ _ (hj2 (decide (x0 = 38)) H _ I h)
                     ·replace h := h.2 b2M
                      refine a8 (f4 _ _ _ _ _ _) ?_
                      exact hx2 _ _ (hj2 (decide (x0 = 124)) H _ I h)
 refine s8 fun j1 hx1 => ?_
 refine a8 (f4 _ _ _ _ _ _) ?_
 refine g8 (fun e2s => ?_) (fun e2s => ?_)
 ·replace h := h.1 e2s
  exact hx1 _ _ (hj1 (decide (x0 = 32)) H _ I_4 h)
 ·replace h := h.2 e2s
  refine a8 (f4 _ _ _ _ _ _) ?_
  refine g8 (fun e2t => ?_) (fun e2t => ?_)
  ·replace h := h.1 e2t
   exact hx1 _ _ (hj1 (decide (x0 = 9)) H _ I_4 h)
  ·replace h := h.2 e2t
   refine a8 (f4 _ _ _ _ _ _) ?_
   exact hx1 _ _ (hj1 (decide (x0 = 13)) H _ I_4 h)
theorem b7J (x0 : Int) {H : Hp} {K : Int → Hp → Prop} (h : a3I x0 H K) : a3G x0 H K := by
 intro w I
 refine e8v ?_
 refine b6U x0 I (fun r0 H' w' I' hk => ⟨H', _, I', r0, rfl, rfl, hk⟩) h
def a3J (x0 : Int) (H : Hp) (K : Bool → Hp → Prop) : Prop :=
 a3G x0 H (fun (s7 : Int) (H_1 : Hp) =>
 K ((decide (s7 = 3)) || (decide (s7 = 4))) H_1)
theorem b6V (x0 : Int) {w0 w : World} {ps0 : Nat → Prop} {H0 H : Hp} {K : Bool → Hp → Prop} {R : Value → World → Prop} {E : Pan} (I : Inv w0 ps0 H0 H [] w) (hR : ∀ (r0 : Bool) (H' : Hp) (w' : World) (_ : Inv w0 ps0 H0 H' [] w') (_ : K r0 H'), R (Value.bool r0) w') (h : a3J x0 H K) : d3O (Value.int .i32 x0) w R E := by
 unfold a3J at h
 unfold d3O
 refine f5 (cap := []) (fun args w => Tryd.call141 args w) ?_
 refine i6 (Fi := []) (Fr := []) I (h) (fun v_5 H_1 F_6 w_2 I_3 l_8 k_4 q_7 => ?_) (fun _ _ _ _ _ q => q.elim)
 obtain ⟨s7, rfl, rfl, h⟩ := q_7
 refine a8 (f4 _ _ _ _ _ _) ?_
 try simp only [m4]
 refine a8 (Pu.g fun hb => by have b6 := hb; first | exact (f4 _ _ _ _ _ _) | (simp only [b7 b6]; exact (f4 _ _ _ _ _ _)) | (simp only [d7 b6, b7 b6, b7 hb, l9 b6, f9]; exact (f4 _ _ _ _ _ _))) ?_
 refine a8 (A5 _ _) ?_
 exact hR ((decide (s7 = 3)) || (decide (s7 = 4))) H_1 _ I_3 h
theorem b7K (x0 : Int) {H : Hp} {K : Bool → Hp → Prop} (h : a3J x0 H K) : a5T x0 H K := by
 intro w I
 refine e8t ?_
 refine b6V x0 I (fun r0 H' w' I' hk => ⟨H', _, I', r0, rfl, rfl, hk⟩) h
def Q5 (H : Hp) (K : Int → Hp → Prop) : Prop :=
 K (-1) H
def Q6 (g9g : (List ByteArray)) (c9n : ByteArray) (a5U : Int) (a0X : Int) (H : Hp) (n2 : Int → Hp → Prop) (K : Int → Hp → Prop) : Prop :=
 (a0X < a5U →
 (0 : Int) ≤ a0X ∧ ∃ x_1 : ByteArray, (g9g)[(a0X : Int).toNat]? = some x_1 ∧
 (c9n = x_1 →
 K a0X H) ∧
 (¬ (c9n = x_1) →
 n2 (IntKind.wrap .i64 (a0X + 1)) H)) ∧
 (¬ (a0X < a5U) →
 Q5 H K)
def V0 (x0 : (List ByteArray)) (x1 : ByteArray) (H : Hp) (K : Int → Hp → Prop) : Prop :=
 TL (0 : Int) H fun (s : Int) H n2 => Q6 x0 x1 (x0.length : Int) s H n2 K
theorem a9x (x0 : (List ByteArray)) (x1 : ByteArray) (sx0 : Sl) (Fx0 : Frag) (hx0 : RowL 9 1 D8 sx0 x0 Fx0) {w0 w : World} {ps0 : Nat → Prop} {H0 H : Hp} {K : Int → Hp → Prop} {R : Value → World → Prop} {E : Pan} (I : Inv w0 ps0 H0 H [Fx0] w) (hR : ∀ (r0 : Int) (H' : Hp) (w' : World) (_ : Inv w0 ps0 H0 H' [Fx0] w') (_ : K r0 H'), R (vi r0) w') (h : V0 x0 x1 H K) : d3Q (vs sx0) (Value.string x1) w R E := by
 unfold V0 at h
 unfold d3Q
 have hj1 : ∀ (H : Hp) (w : World) (_ : Inv w0 ps0 H0 H [Fx0] w) (_ : Q5 H K), c4K w R E := by
  intro H w I h
  unfold c4K
  intro _
  unfold Q5 at h
  exact hR (-1) H _ I h
 refine s8 fun j1 hx1 => ?_
 refine a8 (d3x Tryd.underlying104 hx0) ?_
 obtain ⟨e2u, c9A, h4f, h4g⟩ := h
 refine I0 (J := fun n l w => ∃ (s : Int) (H : Hp) , n = c9A s ∧ l = [(vi s)] ∧ Inv w0 ps0 H0 H [Fx0] w ∧ e2u s H) ⟨_, 0, H, rfl, rfl, I, h4f⟩ ?_
 rintro i1b τ_15 w next2 ⟨a0X, H, rfl, e2v, I, h4h⟩ hn2
 simp only [List.map_cons, List.map_nil, List.cons.injEq, and_true] at e2v
 have e8 := e2v
 simp only [e8]
 obtain ⟨n2, hm2, h⟩ : ∃ n2 : Int → Hp → Prop, (∀ s' H', n2 s' H' → e2u s' H' ∧ c9A s' < c9A a0X) ∧ Q6 x0 x1 (x0.length : Int) a0X H n2 K := ⟨_, fun _ _ h => h, h4g a0X H (fun s' H' => e2u s' H' ∧ c9A s' < c9A a0X) h4h (fun _ _ a b => ⟨a, b⟩)⟩
 unfold d2u
 unfold Q6 at h
 refine a8 (o3 _ _ _ _ _ _) ?_
 refine g8 (fun c_9 => ?_) (fun c_9 => ?_)
 ·replace h := h.1 c_9
  obtain ⟨h_3, x_1, h_4, h⟩ := h
  obtain ⟨g_2, a_6, h_5, h_7⟩ := hx0.addr h_4
  refine a8 (d8Q h_5 _ _ _ _ h_3 (hx0.lt h_3 h_4)) ?_
  refine d9 (ld1 (v := (Value.string x_1)) Tryd.isAgg9 (hx0.atW I h_5 h_4)) ?_
  refine a8 (I6 _ _ _ _ _) ?_
  refine g8 (fun c_8 => ?_) (fun c_8 => ?_)
  ·replace h := h.1 c_8
   exact hR a0X H _ I h
  ·replace h := h.2 c_8
   refine a8 (s9 _ _ _ _ _ _) ?_
   exact hn2 _ _ _ (hm2 _ _ h).2 ⟨(IntKind.wrap .i64 (a0X + 1)), H, rfl, rfl, I, (hm2 _ _ h).1⟩
 ·replace h := h.2 c_9
  exact hx1 _ _ (hj1 H _ I h)
theorem b0c (x0 : (List ByteArray)) (x1 : ByteArray) {H : Hp} {K : Int → Hp → Prop} (h : V0 x0 x1 H K) : a1D x0 x1 H K := by
 intro sx0 Fx0 hx0 w I
 refine e8x ?_
 refine a9x x0 x1 sx0 Fx0 hx0 I (fun r0 H' w' I' hk => ⟨H', _, I', r0, rfl, rfl, hk⟩) h
def Q7 (x0 : (List ByteArray)) (x1 : ByteArray) (H : Hp) (K : Bool → Hp → Prop) : Prop :=
 a1D x0 x1 H (fun (s7 : Int) (H_1 : Hp) =>
 K (decide (0 ≤ s7)) H_1)
theorem a8k (x0 : (List ByteArray)) (x1 : ByteArray) (sx0 : Sl) (Fx0 : Frag) (hx0 : RowL 9 1 D8 sx0 x0 Fx0) {w0 w : World} {ps0 : Nat → Prop} {H0 H : Hp} {K : Bool → Hp → Prop} {R : Value → World → Prop} {E : Pan} (I : Inv w0 ps0 H0 H [Fx0] w) (hR : ∀ (r0 : Bool) (H' : Hp) (w' : World) (_ : Inv w0 ps0 H0 H' [Fx0] w') (_ : K r0 H'), R (Value.bool r0) w') (h : Q7 x0 x1 H K) : d3L (vs sx0) (Value.string x1) w R E := by
 unfold Q7 at h
 unfold d3L
 refine f5 (cap := []) (fun args w => Tryd.call142 args w) ?_
 refine i6 (Fi := [Fx0]) (Fr := []) I (h sx0 Fx0 hx0) (fun v_5 H_1 F_6 w_2 I_3 l_8 k_4 q_7 => ?_) (fun _ _ _ _ _ q => q.elim)
 obtain ⟨s7, rfl, rfl, h⟩ := q_7
 refine a8 (a0y _ _ _ _ _ _) ?_
 exact hR (decide (0 ≤ s7)) H_1 _ I_3 h
theorem a8y (x0 : (List ByteArray)) (x1 : ByteArray) {H : Hp} {K : Bool → Hp → Prop} (h : Q7 x0 x1 H K) : J2 x0 x1 H K := by
 intro sx0 Fx0 hx0 w I
 refine e8n ?_
 refine a8k x0 x1 sx0 Fx0 hx0 I (fun r0 H' w' I' hk => ⟨H', _, I', r0, rfl, rfl, hk⟩) h
def v7 (b1L : Int) (b1M : Int) (b1N : Int) (b1O : Bool) (b1P : Bool) (b0d : (List ByteArray)) (H : Hp) (K : Bool → i9 → (List ByteArray) → Hp → Prop) : Prop :=
 K true (i9.mk b1L b1M b1N b1O b1P (Sl.mk none 0 0)) b0d H
def Y4 (x0 : i9) (Z7 : (List ByteArray)) (x1 : f6) (x2 : Int) (H : Hp) (K : Bool → i9 → (List ByteArray) → Hp → Prop) : Prop :=
 (4096 < (IntKind.wrap .i64 (x0.fnodes + 1)) →
 K false (i9.mk (IntKind.wrap .i64 (x0.fnodes + 1)) x0.fdepth 33 x0.fform x0.fnamed (Sl.mk none 0 0)) Z7 H) ∧
 (¬ (4096 < (IntKind.wrap .i64 (x0.fnodes + 1))) →
 (64 < x2 →
 K false (i9.mk (IntKind.wrap .i64 (x0.fnodes + 1)) x0.fdepth 32 x0.fform x0.fnamed (Sl.mk none 0 0)) Z7 H) ∧
 (¬ (64 < x2) →
 TG (x0.fform = false) (a5q x1 H) false H (fun (o8 : Bool) (a3z : Hp) =>
 a2i x1 a3z (fun (r7 : ByteArray) (b6W : Bool) (a3A : Hp) =>
 (b6W = true →
 TG (x0.fnamed = false) (a4I r7 a3A) false a3A (fun (a3K : Bool) (a7y : Hp) =>
 J2 Z7 r7 a7y (fun (B7 : Bool) (a3y : Hp) =>
 ((!B7) = true →
 (Z7.length + ([r7] : List ByteArray).length) * 17 ≤ 140737488355328 ∧
 v7 (IntKind.wrap .i64 (x0.fnodes + 1)) (if x2 > x0.fdepth then x2 else x0.fdepth) x0.fe (x0.fform || (!o8)) (x0.fnamed || (!a3K)) (Z7 ++ [r7]) a3y K) ∧
 ((!B7) = false →
 v7 (IntKind.wrap .i64 (x0.fnodes + 1)) (if x2 > x0.fdepth then x2 else x0.fdepth) x0.fe (x0.fform || (!o8)) (x0.fnamed || (!a3K)) Z7 a3y K)))) ∧
 (b6W = false →
 v7 (IntKind.wrap .i64 (x0.fnodes + 1)) (if x2 > x0.fdepth then x2 else x0.fdepth) x0.fe (x0.fform || (!o8)) x0.fnamed Z7 a3A K)))))
theorem b0B (x0 : i9) (Z7 : (List ByteArray)) (x1 : f6) (x2 : Int) (g0 : Nat) (W5 : Sl) (a4i : Frag) (b4h : RowL 9 1 D8 W5 Z7 a4i) {w0 w : World} {ps0 : Nat → Prop} {H0 H : Hp} {K : Bool → i9 → (List ByteArray) → Hp → Prop} {R : Value → World → Prop} {E : Pan} (I : Inv w0 ps0 H0 H [bx g0 106 [(vi x0.fnodes), (vi x0.fdepth), (vi x0.fe), (Value.bool x0.fform), (Value.bool x0.fnamed), (vs W5)], a4i] w) (hR : ∀ (r0 : Bool) (y0 : i9) (a7W : (List ByteArray)) (a5j : Sl) (a5k : Frag) (H' : Hp) (w' : World) (_ : RowL 9 1 D8 a5j a7W a5k) (_ : Inv w0 ps0 H0 H' [bx g0 106 [(vi y0.fnodes), (vi y0.fdepth), (vi y0.fe), (Value.bool y0.fform), (Value.bool y0.fnamed), (vs a5j)], a5k] w') (_ : K r0 y0 a7W H'), R (Value.bool r0) w') (h : Y4 x0 Z7 x1 x2 H K) : d3H (Value.pointer (some ⟨g0, 0, none⟩)) (A6 x1) (vi x2) w R E := by
 unfold Y4 at h
 unfold d3H
 refine a8 (r8 _) ?_
 refine a8 b4z ?_
 refine d9 (ld1 Tryd.isAgg3 (I.at1 (o := 0) (vs := [(vi x0.fnodes)]) (nb rfl) rfl)) ?_
 refine a8 (s9 _ _ _ _ _ _) ?_
 refine a8 (r8 _) ?_
 refine a8 b4z ?_
 refine k3 I Tryd.sizeOf3 (vs := [(vi (IntKind.wrap .i64 (x0.fnodes + 1)))]) (cs' := [(vi (IntKind.wrap .i64 (x0.fnodes + 1))), (vi x0.fdepth), (vi x0.fe), (Value.bool x0.fform), (Value.bool x0.fnamed), (vs W5)]) rfl rfl (nb rfl) rfl rfl fun w_1 I_2 k_3 => ?_
 refine a8 (r8 _) ?_
 refine a8 b4z ?_
 refine d9 (ld1 Tryd.isAgg3 (I_2.at1 (o := 0) (vs := [(vi (IntKind.wrap .i64 (x0.fnodes + 1)))]) (nb rfl) rfl)) ?_
 refine a8 (D7 _ _ _ _ _ _) ?_
 refine g8 (fun b2K => ?_) (fun b2K => ?_)
 ·replace h := h.1 b2K
  refine a8 (r8 _) ?_
  refine a8 a5Q ?_
  refine k3 I_2 Tryd.sizeOf29 (vs := [(vi 33)]) (cs' := [(vi (IntKind.wrap .i64 (x0.fnodes + 1))), (vi x0.fdepth), (vi 33), (Value.bool x0.fform), (Value.bool x0.fnamed), (vs W5)]) rfl rfl (nb rfl) rfl rfl fun w_4 I_5 k_6 => ?_
  exact hR false (i9.mk (IntKind.wrap .i64 (x0.fnodes + 1)) x0.fdepth 33 x0.fform x0.fnamed (Sl.mk none 0 0)) Z7 W5 a4i H _ b4h ((I_5.bring 1).bring 1) h
 ·replace h := h.2 b2K
  refine a8 (D7 _ _ _ _ _ _) ?_
  refine g8 (fun a8j => ?_) (fun a8j => ?_)
  ·replace h := h.1 a8j
   refine a8 (r8 _) ?_
   refine a8 a5Q ?_
   refine k3 I_2 Tryd.sizeOf29 (vs := [(vi 32)]) (cs' := [(vi (IntKind.wrap .i64 (x0.fnodes + 1))), (vi x0.fdepth), (vi 32), (Value.bool x0.fform), (Value.bool x0.fnamed), (vs W5)]) rfl rfl (nb rfl) rfl rfl fun w_7 I_8 k_9 => ?_
   exact hR false (i9.mk (IntKind.wrap .i64 (x0.fnodes + 1)) x0.fdepth 32 x0.fform x0.fnamed (Sl.mk none 0 0)) Z7 W5 a4i H _ b4h ((I_8.bring 1).bring 1) h
  ·replace h := h.2 a8j
   refine a8 (r8 _) ?_
   refine a8 c0T ?_
   refine d9 (ld1 Tryd.isAgg3 (I_2.at1 (o := 1) (vs := [(vi x0.fdepth)]) (nb rfl) rfl)) ?_
   refine a8 (d8L _ _ _ _ _) ?_
   refine a8 (r8 _) ?_
   refine a8 c0T ?_
   refine k3 I_2 Tryd.sizeOf3 (vs := [(vi (if x2 > x0.fdepth then x2 else x0.fdepth))]) (cs' := [(vi (IntKind.wrap .i64 (x0.fnodes + 1))), (vi (if x2 > x0.fdepth then x2 else x0.fdepth)), (vi x0.fe), (Value.bool x0.fform), (Value.bool x0.fnamed), (vs W5)]) rfl rfl (nb rfl) rfl rfl fun l0 a3w b4Q => ?_
   refine a8 (r8 _) ?_
   refine a8 b4C ?_
   refine d9 (ld1 Tryd.isAgg4 (a3w.at1 (o := 3) (vs := [(Value.bool x0.fform)]) (nb rfl) rfl)) ?_
   try simp only [m4]
   refine W1 (D := fun c4Z l8 => ∃ (o8 : Bool) (a3z : Hp), c4Z = (gv x0.fform false (Value.bool o8)) ∧ (Inv w0 ps0 H0 a3z [bx g0 106 [(vi (IntKind.wrap .i64 (x0.fnodes + 1))), (vi (if x2 > x0.fdepth then x2 else x0.fdepth)), (vi x0.fe), (Value.bool x0.fform), (Value.bool x0.fnamed), (vs W5)], a4i] l8) ∧ (∀ i, i < l0.heap.size → ¬ inF [] i → l8.heap[i]? = l0.heap[i]?) ∧ Hle H a3z ∧ (a2i x1 a3z (fun (r7 : ByteArray) (b6W : Bool) (a3A : Hp) =>
 (b6W = true →
 TG (x0.fnamed = false) (a4I r7 a3A) false a3A (fun (a3K : Bool) (a7y : Hp) =>
 J2 Z7 r7 a7y (fun (B7 : Bool) (a3y : Hp) =>
 ((!B7) = true →
 (Z7.length + ([r7] : List ByteArray).length) * 17 ≤ 140737488355328 ∧
 v7 (IntKind.wrap .i64 (x0.fnodes + 1)) (if x2 > x0.fdepth then x2 else x0.fdepth) x0.fe (x0.fform || (!o8)) (x0.fnamed || (!a3K)) (Z7 ++ [r7]) a3y K) ∧
 ((!B7) = false →
 v7 (IntKind.wrap .i64 (x0.fnodes + 1)) (if x2 > x0.fdepth then x2 else x0.fdepth) x0.fe (x0.fform || (!o8)) (x0.fnamed || (!a3K)) Z7 a3y K)))) ∧
 (b6W = false →
 v7 (IntKind.wrap .i64 (x0.fnodes + 1)) (if x2 > x0.fdepth then x2 else x0.fdepth) x0.fe (x0.fform || (!o8)) x0.fnamed Z7 a3A K)))) (fun c5o => ?_) (fun c5o => ?_) ?_
   ·replace h := h.1 c5o
    have b6 := c5o
    try simp only [b7 b6]
    refine b5y a3w h (fun o8 a3z l8 c1o b2l c8X h => ?_)
    exact ⟨o8, a3z, by first | rfl | rw [b7 c5o], c1o, c8X, b2l, h⟩
   ·exact ⟨false, H, by first | rfl | rw [a3k c5o], a3w, fun _ _ _ => rfl, Hle.refl _, h.2 c5o⟩
   ·clear h
    rintro c4Z l8 ⟨o8, a3z, rfl, c1o, c8X, b2l, h⟩
    refine a8 (Pu.g fun hb => by have b6 := hb; first | exact (C4 _) | (simp only [b7 b6]; exact (C4 _)) | (simp only [d7 b6, b7 b6, b7 hb, l9 b6, f9]; exact (C4 _))) ?_
    refine a8 (A5 _ _) ?_
    refine a8 (r8 _) ?_
    refine a8 b4C ?_
    refine k3 c1o Tryd.sizeOf4 (vs := [(Value.bool (x0.fform || (!o8)))]) (cs' := [(vi (IntKind.wrap .i64 (x0.fnodes + 1))), (vi (if x2 > x0.fdepth then x2 else x0.fdepth)), (vi x0.fe), (Value.bool (x0.fform || (!o8))), (Value.bool x0.fnamed), (vs W5)]) rfl rfl (nb rfl) rfl rfl fun Z4 b0N e1B => ?_
    have hj1 : ∀ (b1L : Int) (b1M : Int) (b1N : Int) (b1O : Bool) (b1P : Bool) (b0d : (List ByteArray)) (b6X : Sl) (b6Y : Frag) (H : Hp) (w : World) (_ : RowL 9 1 D8 b6X b0d b6Y) (_ : Inv w0 ps0 H0 H [bx g0 106 [(vi b1L), (vi b1M), (vi b1N), (Value.bool b1O), (Value.bool b1P), (vs b6X)], b6Y] w) (_ : v7 b1L b1M b1N b1O b1P b0d H K), c4A w R E := by
     intro b1L b1M b1N b1O b1P b0d b6X b6Y H w e2w I h
     unfold c4A
     intro _
     unfold v7 at h
     exact hR true (i9.mk b1L b1M b1N b1O b1P (Sl.mk none 0 0)) b0d b6X b6Y H _ e2w ((I.bring 1).bring 1) h
    refine s8 fun j1 hx1 => ?_
    refine f5 (cap := []) (fun args w => Tryd.call118 args w) ?_
    refine i6 (Fi := []) (Fr := [bx g0 106 [(vi (IntKind.wrap .i64 (x0.fnodes + 1))), (vi (if x2 > x0.fdepth then x2 else x0.fdepth)), (vi x0.fe), (Value.bool (x0.fform || (!o8))), (Value.bool x0.fnamed), (vs W5)], a4i]) b0N (h) (fun h4i a3A b8F b4H b8L h4j f9T e2x => ?_) (fun _ _ _ _ _ q => q.elim)
    obtain ⟨r7, b6W, rfl, rfl, h⟩ := e2x
    refine a8 (i4 _ _ (Value.string r7) rfl) ?_
    refine a8 (i4 _ _ (Value.bool b6W) rfl) ?_
    refine j9 (fun b2M => ?_) (fun b2M => ?_)
    ·replace h := h.1 b2M
     refine a8 (r8 _) ?_
     refine a8 b4D ?_
     refine d9 (ld1 Tryd.isAgg4 (b8L.at1 (o := 4) (vs := [(Value.bool x0.fnamed)]) (nb rfl) rfl)) ?_
     try simp only [m4]
     refine W1 (D := fun c9B w5 => ∃ (a3K : Bool) (a7y : Hp) , c9B = (gv x0.fnamed false (Value.bool a3K)) ∧ (Inv w0 ps0 H0 a7y [bx g0 106 [(vi (IntKind.wrap .i64 (x0.fnodes + 1))), (vi (if x2 > x0.fdepth then x2 else x0.fdepth)), (vi x0.fe), (Value.bool (x0.fform || (!o8))), (Value.bool x0.fnamed), (vs W5)], a4i] w5) ∧ (∀ i, i < b4H.heap.size → ¬ inF [] i → w5.heap[i]? = b4H.heap[i]?) ∧ Hle a3A a7y ∧ (J2 Z7 r7 a7y (fun (B7 : Bool) (a3y : Hp) =>
 ((!B7) = true →
 (Z7.length + ([r7] : List ByteArray).length) * 17 ≤ 140737488355328 ∧
 v7 (IntKind.wrap .i64 (x0.fnodes + 1)) (if x2 > x0.fdepth then x2 else x0.fdepth) x0.fe (x0.fform || (!o8)) (x0.fnamed || (!a3K)) (Z7 ++ [r7]) a3y K) ∧
 ((!B7) = false →
 v7 (IntKind.wrap .i64 (x0.fnodes + 1)) (if x2 > x0.fdepth then x2 else x0.fdepth) x0.fe (x0.fform || (!o8)) (x0.fnamed || (!a3K)) Z7 a3y K)))) (fun a8l => ?_) (fun a8l => ?_) ?_
     ·replace h := h.1 a8l
      have b6 := a8l
      try simp only [b7 b6]
      refine f5 (cap := []) (fun args w => Tryd.call119 args w) ?_
      refine i6 (Fi := []) (Fr := [bx g0 106 [(vi (IntKind.wrap .i64 (x0.fnodes + 1))), (vi (if x2 > x0.fdepth then x2 else x0.fdepth)), (vi x0.fe), (Value.bool (x0.fform || (!o8))), (Value.bool x0.fnamed), (vs W5)], a4i]) b8L (h) (fun c9B a7y f9U w5 a3u d4M b8M c9C => ?_) (fun _ _ _ _ _ q => q.elim)
      obtain ⟨a3K, rfl, rfl, h⟩ := c9C
      exact ⟨a3K, a7y, by first | rfl | rw [b7 a8l], a3u, b8M, d4M, h⟩
     ·exact ⟨false, a3A, by first | rfl | rw [a3k a8l], b8L, fun _ _ _ => rfl, Hle.refl _, h.2 a8l⟩
     ·clear h
      rintro c9B w5 ⟨a3K, a7y, rfl, a3u, b8M, d4M, h⟩
      refine a8 (Pu.g fun hb => by have b6 := hb; first | exact (C4 _) | (simp only [b7 b6]; exact (C4 _)) | (simp only [d7 b6, b7 b6, b7 hb, l9 b6, f9]; exact (C4 _))) ?_
      refine a8 (A5 _ _) ?_
      refine a8 (r8 _) ?_
      refine a8 b4D ?_
      refine k3 a3u Tryd.sizeOf4 (vs := [(Value.bool (x0.fnamed || (!a3K)))]) (cs' := [(vi (IntKind.wrap .i64 (x0.fnodes + 1))), (vi (if x2 > x0.fdepth then x2 else x0.fdepth)), (vi x0.fe), (Value.bool (x0.fform || (!o8))), (Value.bool (x0.fnamed || (!a3K))), (vs W5)]) rfl rfl (nb rfl) rfl rfl fun F5 c5c f9M => ?_
      refine a8 (r8 _) ?_
      refine a8 b4E ?_
      refine d9 (ld1 Tryd.isAgg104 (c5c.at1 (o := 5) (vs := [(vs W5)]) (nb rfl) rfl)) ?_
      refine f5 (cap := []) (fun args w => Tryd.call120 args w) ?_
      refine i6 (Fi := [a4i]) (Fr := [bx g0 106 [(vi (IntKind.wrap .i64 (x0.fnodes + 1))), (vi (if x2 > x0.fdepth then x2 else x0.fdepth)), (vi x0.fe), (Value.bool (x0.fform || (!o8))), (Value.bool (x0.fnamed || (!a3K))), (vs W5)]]) (c5c.bring 1) (h W5 a4i b4h) (fun e2i a3y e2j D9 b4U e2k e2l c1N => ?_) (fun _ _ _ _ _ q => q.elim)
      obtain ⟨B7, rfl, rfl, h⟩ := c1N
      refine a8 (C4 _) ?_
      refine j9 (fun c1O => ?_) (fun c1O => ?_)
      ·replace h := h.1 c1O
       refine a8 (r8 _) ?_
       refine a8 b4E ?_
       refine d9 (ld1 Tryd.isAgg104 ((b4U.bring 1).at1 (o := 5) (vs := [(vs W5)]) (nb rfl) rfl)) ?_
       refine a5R (e := 9) (c := D8) (xs := [r7]) b4U (e1h _) rfl rfl c0V c0W (nb rfl) fun i1c i1d c5l b6Z f9V i1e => ?_
       obtain ⟨d4N, h⟩ := h
       refine e7K (s := W5) (xs := Z7) (f9V.bring 1) b4h (b6Z.srcO ((f9V.bring 1).bring 1)) d4N fun e2y h4k b8N c9e b8O c5p => ?_
       refine a8 (r8 _) ?_
       refine a8 b4E ?_
       refine k3 ((b8O.bring 1).drop.bring 1) Tryd.sizeOf104 (vs := [(vs e2y)]) (cs' := [(vi (IntKind.wrap .i64 (x0.fnodes + 1))), (vi (if x2 > x0.fdepth then x2 else x0.fdepth)), (vi x0.fe), (Value.bool (x0.fform || (!o8))), (Value.bool (x0.fnamed || (!a3K))), (vs e2y)]) rfl rfl (nb rfl) rfl rfl fun U0 h4l i1f => ?_
       exact hx1 _ _ (hj1 (IntKind.wrap .i64 (x0.fnodes + 1)) (if x2 > x0.fdepth then x2 else x0.fdepth) x0.fe (x0.fform || (!o8)) (x0.fnamed || (!a3K)) (Z7 ++ [r7]) e2y h4k a3y _ c9e ((h4l.bring 1).bring 1) h)
      ·replace h := h.2 c1O
       exact hx1 _ _ (hj1 (IntKind.wrap .i64 (x0.fnodes + 1)) (if x2 > x0.fdepth then x2 else x0.fdepth) x0.fe (x0.fform || (!o8)) (x0.fnamed || (!a3K)) Z7 W5 a4i a3y _ b4h (b4U.bring 1) h)
    ·replace h := h.2 b2M
     exact hx1 _ _ (hj1 (IntKind.wrap .i64 (x0.fnodes + 1)) (if x2 > x0.fdepth then x2 else x0.fdepth) x0.fe (x0.fform || (!o8)) x0.fnamed Z7 W5 a4i a3A _ b4h ((b8L.bring 1).bring 1) h)
theorem b0R (x0 : i9) (Z7 : (List ByteArray)) (x1 : f6) (x2 : Int) {H : Hp} {K : Bool → i9 → (List ByteArray) → Hp → Prop} (h : Y4 x0 Z7 x1 x2 H K) : a2x x0 Z7 x1 x2 H K := by
 intro g0 W5 a4i b4h w I
 refine e8d ?_
 refine b0B x0 Z7 x1 x2 g0 W5 a4i b4h I (fun r0 y0 a7W a5j a5k H' w' c9s I' hk => ⟨H', _, I', r0, y0, a7W, a5j, a5k, rfl, rfl, c9s, hk⟩) h
def a4m (x0 : a7) (H : Hp) (K : Int → Hp → Prop) : Prop :=
 ∀ (s_7 : Sl) (a3z : Hp), Hle H a3z → SlH a3z 1 p9 s_7 [(f6.B0 (C8.mk x0))] → s_7.n ≤ s_7.c →
 a2K s_7 a3z (fun (b1m : i9) (c1U : Hp) =>
 K b1m.fe c1U)
theorem b7L (x0 : a7) {w0 w : World} {ps0 : Nat → Prop} {H0 H : Hp} {K : Int → Hp → Prop} {R : Value → World → Prop} {E : Pan} (I : Inv w0 ps0 H0 H [] w) (hR : ∀ (r0 : Int) (H' : Hp) (w' : World) (_ : Inv w0 ps0 H0 H' [] w') (_ : K r0 H'), R (vi r0) w') (h : a4m x0 H K) : F37 (Value.agg (b8 x0).toArray) w R E := by
 unfold a4m at h
 unfold F37
 refine F7 I (cs := (b8 x0)) rfl fun g_2 w_3 I_4 k_5 => ?_
 refine d9 (ldA Tryd.isAgg24 Tryd.sizeOf24 rfl (I_4.at1 (o := 0) (vs := (b8 x0)) (nb rfl) rfl)) ?_
 refine a8 (b7V _ _ _ _ _ _) ?_
 refine a8 (a9G (C8.mk x0)) ?_
 refine a5R (e := 152) (c := p9) (xs := [(f6.B0 (C8.mk x0))]) I_4 (b1V _) rfl rfl N0 R4 (nb rfl) fun s_7 F_8 w_9 a6J a3w b4Q => ?_
 obtain ⟨a3z, J7, c1x, a9Y, a9Z⟩ := Inv.freezeC a3w a6J (by decide)
 replace h := h s_7 a3z c1x a9Y a9Z
 refine f5 (cap := []) (fun args w => Tryd.call60 args w) ?_
 refine i6 (Fi := []) (Fr := [bx g_2 24 (b8 x0)]) J7 (h) (fun h4m c1U h4n Z4 b0N h4o e1B e2z => ?_) (fun _ _ _ _ _ q => q.elim)
 obtain ⟨b1m, f9W, rfl, rfl, h⟩ := e2z
 refine a8 (r8 _) ?_
 refine a8 a5Q ?_
 refine d9 (ld1 Tryd.isAgg29 (b0N.at1 (o := 2) (vs := [(vi b1m.fe)]) (nb rfl) rfl)) ?_
 exact hR b1m.fe c1U _ b0N.drop.drop h
theorem b8P (x0 : a7) {H : Hp} {K : Int → Hp → Prop} (h : a4m x0 H K) : a6z x0 H K := by
 intro w I
 refine f4R ?_
 refine b7L x0 I (fun r0 H' w' I' hk => ⟨H', _, I', r0, rfl, rfl, hk⟩) h
def Q8 (cr_6j1 : a7) (cr_1j1 : a7) (H : Hp) (K : Bool → Hp → Prop) : Prop :=
 K true H
def Q9 (cr_6l2 : a7) (cr_1l2 : a7) (a0b : Int) (H : Hp) (n2 : Int → Hp → Prop) (K : Bool → Hp → Prop) : Prop :=
 (a0b < (cr_1l2.d8.n : Int) →
 (0 : Int) ≤ a0b ∧ (a0b : Int) < cr_1l2.d8.n ∧ ∃ X7 : a7, EltH H cr_1l2.d8 a0b 4 (b8 X7) ∧
 (0 : Int) ≤ a0b ∧ (a0b : Int) < cr_6l2.d8.n ∧ ∃ a4Y : a7, EltH H cr_6l2.d8 a0b 4 (b8 a4Y) ∧
 E4 X7 a4Y H (fun (b6Q : Bool) (b2F : Hp) =>
 ((!b6Q) = true →
 K false b2F) ∧
 ((!b6Q) = false →
 n2 (IntKind.wrap .i64 (a0b + 1)) b2F))) ∧
 (¬ (a0b < (cr_1l2.d8.n : Int)) →
 Q8 cr_6l2 cr_1l2 H K)
def V1 (x0 : a7) (x1 : a7) (H : Hp) (K : Bool → Hp → Prop) : Prop :=
 (((((!decide (x0.b9 = x1.b9)) || (!decide (x0.g9 = x1.g9))) || (!decide (x0.g1 = x1.g1))) || (!decide ((x0.d8.n : Int) = (x1.d8.n : Int)))) = true →
 K false H) ∧
 (((((!decide (x0.b9 = x1.b9)) || (!decide (x0.g9 = x1.g9))) || (!decide (x0.g1 = x1.g1))) || (!decide ((x0.d8.n : Int) = (x1.d8.n : Int)))) = false →
 TL (0 : Int) H fun (s : Int) H n2 => Q9 x1 x0 s H n2 K)
theorem a9y (x0 : a7) (x1 : a7) {w0 w : World} {ps0 : Nat → Prop} {H0 H : Hp} {K : Bool → Hp → Prop} {R : Value → World → Prop} {E : Pan} (I : Inv w0 ps0 H0 H [] w) (hR : ∀ (r0 : Bool) (H' : Hp) (w' : World) (_ : Inv w0 ps0 H0 H' [] w') (_ : K r0 H'), R (Value.bool r0) w') (h : V1 x0 x1 H K) : F15 (Value.agg (b8 x0).toArray) (Value.agg (b8 x1).toArray) w R E := by
 unfold V1 at h
 unfold F15
 refine F7 I (cs := (b8 x0)) rfl fun g_2 w_3 I_4 k_5 => ?_
 refine F7 I_4 (cs := (b8 x1)) rfl fun g_7 w_8 I_9 a6F => ?_
 refine a8 m9 ?_
 refine d9 (ld1 Tryd.isAgg3 ((I_9.bring 1).at1 (o := 0) (vs := [(vi x0.b9)]) (nb rfl) rfl)) ?_
 refine a8 m9 ?_
 refine d9 (ld1 Tryd.isAgg3 (I_9.at1 (o := 0) (vs := [(vi x1.b9)]) (nb rfl) rfl)) ?_
 refine a8 (o4 _ _ _ _ _ _) ?_
 refine a8 (Pu.g fun hb => by have b6 := hb; first | exact B4 | (simp only [d7 b6, b7 b6, b7 hb, J1 b6]; exact B4) | (simp only [d7 b6, b7 b6, b7 hb, l9 b6, f9]; exact B4)) ?_
 refine d9 (Ld.g fun hb => by have b6 := hb; first | exact (ld1 Tryd.isAgg2 ((I_9.bring 1).at1 (o := 1) (vs := [(vi x0.g9)]) (nb rfl) rfl)) | (simp only [b7 b6]; exact (ld1 Tryd.isAgg2 ((I_9.bring 1).at1 (o := 1) (vs := [(vi x0.g9)]) (nb rfl) rfl))) | (simp only [d7 b6, b7 b6, b7 hb, l9 b6, f9]; exact (ld1 Tryd.isAgg2 ((I_9.bring 1).at1 (o := 1) (vs := [(vi x0.g9)]) (nb rfl) rfl)))) ?_
 refine a8 (Pu.g fun hb => by have b6 := hb; first | exact B4 | (simp only [d7 b6, b7 b6, b7 hb, J1 b6]; exact B4) | (simp only [d7 b6, b7 b6, b7 hb, l9 b6, f9]; exact B4)) ?_
 refine d9 (Ld.g fun hb => by have b6 := hb; first | exact (ld1 Tryd.isAgg2 (I_9.at1 (o := 1) (vs := [(vi x1.g9)]) (nb rfl) rfl)) | (simp only [b7 b6]; exact (ld1 Tryd.isAgg2 (I_9.at1 (o := 1) (vs := [(vi x1.g9)]) (nb rfl) rfl))) | (simp only [d7 b6, b7 b6, b7 hb, l9 b6, f9]; exact (ld1 Tryd.isAgg2 (I_9.at1 (o := 1) (vs := [(vi x1.g9)]) (nb rfl) rfl)))) ?_
 refine a8 (Pu.g fun hb => by have b6 := hb; first | exact (o4 _ _ _ _ _ _) | (simp only [b7 b6]; exact (o4 _ _ _ _ _ _)) | (simp only [d7 b6, b7 b6, b7 hb, l9 b6, f9]; exact (o4 _ _ _ _ _ _))) ?_
 refine a8 (A5 _ _) ?_
 refine a8 (Pu.g fun hb => by have b6 := hb; first | exact U6 | (simp only [d7 b6, b7 b6, b7 hb, J1 b6]; exact U6) | (simp only [d7 b6, b7 b6, b7 hb, l9 b6, f9]; exact U6)) ?_
 refine d9 (Ld.g fun hb => by have b6 := hb; first | exact (ld1 Tryd.isAgg9 ((I_9.bring 1).at1 (o := 2) (vs := [(Value.string x0.g1)]) (nb rfl) rfl)) | (simp only [b7 b6]; exact (ld1 Tryd.isAgg9 ((I_9.bring 1).at1 (o := 2) (vs := [(Value.string x0.g1)]) (nb rfl) rfl))) | (simp only [d7 b6, b7 b6, b7 hb, l9 b6, f9]; exact (ld1 Tryd.isAgg9 ((I_9.bring 1).at1 (o := 2) (vs := [(Value.string x0.g1)]) (nb rfl) rfl)))) ?_
 refine a8 (Pu.g fun hb => by have b6 := hb; first | exact U6 | (simp only [d7 b6, b7 b6, b7 hb, J1 b6]; exact U6) | (simp only [d7 b6, b7 b6, b7 hb, l9 b6, f9]; exact U6)) ?_
 refine d9 (Ld.g fun hb => by have b6 := hb; first | exact (ld1 Tryd.isAgg9 (I_9.at1 (o := 2) (vs := [(Value.string x1.g1)]) (nb rfl) rfl)) | (simp only [b7 b6]; exact (ld1 Tryd.isAgg9 (I_9.at1 (o := 2) (vs := [(Value.string x1.g1)]) (nb rfl) rfl))) | (simp only [d7 b6, b7 b6, b7 hb, l9 b6, f9]; exact (ld1 Tryd.isAgg9 (I_9.at1 (o := 2) (vs := [(Value.string x1.g1)]) (nb rfl) rfl)))) ?_
 refine a8 (Pu.g fun hb => by have b6 := hb; first | exact (b1S _ _ _ _ _) | (simp only [b7 b6]; exact (b1S _ _ _ _ _)) | (simp only [d7 b6, b7 b6, b7 hb, l9 b6, f9]; exact (b1S _ _ _ _ _))) ?_
 refine a8 (A5 _ _) ?_
 refine a8 (Pu.g fun hb => by have b6 := hb; first | exact i8 | (simp only [d7 b6, b7 b6, b7 hb, J1 b6]; exact i8) | (simp only [d7 b6, b7 b6, b7 hb, l9 b6, f9]; exact i8)) ?_
 refine d9 (Ld.g fun hb => by have b6 := hb; first | exact (ld1 Tryd.isAgg22 ((I_9.bring 1).at1 (o := 3) (vs := [(vs x0.d8)]) (nb rfl) rfl)) | (simp only [b7 b6]; exact (ld1 Tryd.isAgg22 ((I_9.bring 1).at1 (o := 3) (vs := [(vs x0.d8)]) (nb rfl) rfl))) | (simp only [d7 b6, b7 b6, b7 hb, l9 b6, f9]; exact (ld1 Tryd.isAgg22 ((I_9.bring 1).at1 (o := 3) (vs := [(vs x0.d8)]) (nb rfl) rfl)))) ?_
 refine a8 (Pu.g fun hb => by have b6 := hb; first | exact (q6 _ _ _) | (simp only [b7 b6]; exact (q6 _ _ _)) | (simp only [d7 b6, b7 b6, b7 hb, l9 b6, f9]; exact (q6 _ _ _))) ?_
 refine a8 (Pu.g fun hb => by have b6 := hb; first | exact i8 | (simp only [d7 b6, b7 b6, b7 hb, J1 b6]; exact i8) | (simp only [d7 b6, b7 b6, b7 hb, l9 b6, f9]; exact i8)) ?_
 refine d9 (Ld.g fun hb => by have b6 := hb; first | exact (ld1 Tryd.isAgg22 (I_9.at1 (o := 3) (vs := [(vs x1.d8)]) (nb rfl) rfl)) | (simp only [b7 b6]; exact (ld1 Tryd.isAgg22 (I_9.at1 (o := 3) (vs := [(vs x1.d8)]) (nb rfl) rfl))) | (simp only [d7 b6, b7 b6, b7 hb, l9 b6, f9]; exact (ld1 Tryd.isAgg22 (I_9.at1 (o := 3) (vs := [(vs x1.d8)]) (nb rfl) rfl)))) ?_
 refine a8 (Pu.g fun hb => by have b6 := hb; first | exact (q6 _ _ _) | (simp only [b7 b6]; exact (q6 _ _ _)) | (simp only [d7 b6, b7 b6, b7 hb, l9 b6, f9]; exact (q6 _ _ _))) ?_
 refine a8 (Pu.g fun hb => by have b6 := hb; first | exact (o4 _ _ _ _ _ _) | (simp only [b7 b6]; exact (o4 _ _ _ _ _ _)) | (simp only [d7 b6, b7 b6, b7 hb, l9 b6, f9]; exact (o4 _ _ _ _ _ _))) ?_
 refine a8 (A5 _ _) ?_
 refine j9 (fun e2A => ?_) (fun e2A => ?_)
 ·replace h := h.1 e2A
  exact hR false H _ I_9.drop.drop h
 ·replace h := h.2 e2A
  have hj1 : ∀ (H : Hp) (w : World) (_ : Inv w0 ps0 H0 H [bx g_7 24 (b8 x1), bx g_2 24 (b8 x0)] w) (_ : Q8 x1 x0 H K), c7K w R E := by
   intro H w I h
   unfold c7K
   intro _
   unfold Q8 at h
   exact hR true H _ I.drop.drop h
  refine s8 fun j1 hx1 => ?_
  obtain ⟨e2B, c9D, h4p, h4q⟩ := h
  refine I0 (J := fun n l w => ∃ (s : Int) (H : Hp) , n = c9D s ∧ l = [(vi s)] ∧ Inv w0 ps0 H0 H [bx g_7 24 (b8 x1), bx g_2 24 (b8 x0)] w ∧ e2B s H) ⟨_, 0, H, rfl, rfl, ((I_9.bring 1).bring 1), h4p⟩ ?_
  rintro i1g τ_43 w next2 ⟨a0b, H, rfl, c1V, I, b8Q⟩ hn2
  simp only [List.map_cons, List.map_nil, List.cons.injEq, and_true] at c1V
  have e5 := c1V
  simp only [e5]
  obtain ⟨n2, hm2, h⟩ : ∃ n2 : Int → Hp → Prop, (∀ s' H', n2 s' H' → e2B s' H' ∧ c9D s' < c9D a0b) ∧ Q9 x1 x0 a0b H n2 K := ⟨_, fun _ _ h => h, h4q a0b H (fun s' H' => e2B s' H' ∧ c9D s' < c9D a0b) b8Q (fun _ _ a b => ⟨a, b⟩)⟩
  unfold d8R
  unfold Q9 at h
  refine a8 i8 ?_
  refine d9 (ld1 Tryd.isAgg22 ((I.bring 1).at1 (o := 3) (vs := [(vs x0.d8)]) (nb rfl) rfl)) ?_
  refine a8 (q6 _ _ _) ?_
  refine a8 (o3 _ _ _ _ _ _) ?_
  refine g8 (fun e2C => ?_) (fun e2C => ?_)
  ·replace h := h.1 e2C
   refine a9F I fun K6 q5 => ?_
   refine t1 i8 ?_
   refine t1 i8 ?_
   refine G8 (ld1 Tryd.isAgg22 ((q5.bring 1).at1 (o := 3) (vs := [(vs x0.d8)]) (nb rfl) rfl)) ?_
   obtain ⟨a9Y, a9Z, X7, a1M, h⟩ := h
   obtain ⟨d4F, d4G, b6R, a1M⟩ := a1M
   refine t1 (m7 b6R _ _ _ _ a9Y a9Z) ?_
   refine G8 (ldA (vs := (b8 X7)) Tryd.isAgg24 Tryd.sizeOf24 rfl (q5.atH a1M)) ?_
   refine G8 (ld1 Tryd.isAgg22 (q5.at1 (o := 3) (vs := [(vs x1.d8)]) (nb rfl) rfl)) ?_
   obtain ⟨b0a, b6S, a4Y, a5x, h⟩ := h
   obtain ⟨f9R, f9S, b2G, a5x⟩ := a5x
   refine t1 (m7 b2G _ _ _ _ b0a b6S) ?_
   refine G8 (ldA (vs := (b8 a4Y)) Tryd.isAgg24 Tryd.sizeOf24 rfl (q5.atH a5x)) ?_
   refine f5 (cap := []) (fun args w => Tryd.call15 args w) ?_
   refine i6 (Fi := []) (Fr := [bx g_7 24 (b8 x1), bx g_2 24 (b8 x0)]) q5 (h) (fun h3Z b2F h4a w4 b2H e1C e2b e2c => ?_) (fun _ _ _ _ _ q => q.elim)
   obtain ⟨b6Q, rfl, rfl, h⟩ := e2c
   refine t1 (C4 _) ?_
   refine j9 (fun c1J => ?_) (fun c1J => ?_)
   ·replace h := h.1 c1J
    exact hR false b2F _ b2H.drop.drop h
   ·replace h := h.2 c1J
    refine a8 (s9 _ _ _ _ _ _) ?_
    exact hn2 _ _ _ (hm2 _ _ h).2 ⟨(IntKind.wrap .i64 (a0b + 1)), b2F, rfl, rfl, ((b2H.bring 1).bring 1), (hm2 _ _ h).1⟩
  ·replace h := h.2 e2C
   exact hx1 _ _ (hj1 H _ ((I.bring 1).bring 1) h)
theorem b0e (x0 : a7) (x1 : a7) {H : Hp} {K : Bool → Hp → Prop} (h : V1 x0 x1 H K) : E4 x0 x1 H K := by
 intro w I
 refine f4t ?_
 refine a9y x0 x1 I (fun r0 H' w' I' hk => ⟨H', _, I', r0, rfl, rfl, hk⟩) h
def B8 (i1h : Sl) (c5q : Int) (i1i : Sl) (h6w : Int) (b0s : Int) (H : Hp) (n4 : (Int × Int) → Hp → Prop) (K : Sl → Hp → Prop) : Prop :=
 n4 (c5q, (IntKind.wrap .i64 (b0s + 1))) H
def B9 (c3m : (List f6)) (H : Hp) (K : Sl → Hp → Prop) : Prop :=
 ∀ (b0t : Sl) (b7a : Hp), Hle H b7a → SlH b7a 1 p9 b0t c3m → b0t.n ≤ b0t.c →
 K b0t b7a
def C0 (e5P : Sl) (e5Q : Int) (a5y : (List f6)) (a4O : Int) (H : Hp) (n3 : ((List f6) × Int) → Hp → Prop) (K : Sl → Hp → Prop) : Prop :=
 (a4O < e5Q →
 (0 : Int) ≤ a4O ∧ (a4O : Int) < e5P.n ∧ ∃ d4O : Sl, EltH H e5P a4O 1 [(vs d4O)] ∧
 ∃ c3n : List f6, SlH H 1 p9 d4O c3n ∧ (a5y.length + c3n.length) * 17 ≤ 140737488355328 ∧
 n3 ((a5y ++ c3n), (IntKind.wrap .i64 (a4O + 1))) H) ∧
 (¬ (a4O < e5Q) →
 B9 a5y H K)
def C1 (c5r : Sl) (a7x : Int) (H : Hp) (K : Sl → Hp → Prop) : Prop :=
 N7 a7x H (fun (d4P : (List f6)) (H_9 : Hp) =>
 TL ((d4P, 0) : (List f6) × Int) H_9 fun (s : (List f6) × Int) H n3 => C0 c5r (c5r.n : Int) s.1 s.2 H n3 K)
def C2 (f9X : Sl) (e2D : Sl) (d4Q : Int) (a8Y : Int) (a4n : Int) (H : Hp) (n4 : (Int × Int) → Hp → Prop) (K : Sl → Hp → Prop) : Prop :=
 (a4n < d4Q →
 (0 : Int) ≤ a4n ∧ (a4n : Int) < e2D.n ∧ ∃ x_1 : Sl, EltH H e2D a4n 1 [(vs x_1)] ∧
 ((IntKind.wrap .i64 (a8Y + (x_1.n : Int))) < 0 →
 False) ∧
 (¬ ((IntKind.wrap .i64 (a8Y + (x_1.n : Int))) < 0) →
 B8 f9X (IntKind.wrap .i64 (a8Y + (x_1.n : Int))) e2D d4Q a4n H n4 K)) ∧
 (¬ (a4n < d4Q) →
 C1 f9X a8Y H K)
def D2 (x0 : Sl) (H : Hp) (K : Sl → Hp → Prop) : Prop :=
 TL ((0, 0) : Int × Int) H fun (s : Int × Int) H n4 => C2 x0 x0 (x0.n : Int) s.1 s.2 H n4 K
theorem a2X (x0 : Sl) {w0 w : World} {ps0 : Nat → Prop} {H0 H : Hp} {K : Sl → Hp → Prop} {R : Value → World → Prop} {E : Pan} (I : Inv w0 ps0 H0 H [] w) (hR : ∀ (r0 : Sl) (H' : Hp) (w' : World) (_ : Inv w0 ps0 H0 H' [] w') (_ : K r0 H'), R (vs r0) w') (h : D2 x0 H K) : F87 (vs x0) w R E := by
 unfold D2 at h
 unfold F87
 have hj1 : ∀ (a7x : Int) (H : Hp) (w : World) (_ : Inv w0 ps0 H0 H [] w) (_ : C1 x0 a7x H K), c8r (vs x0) (vi a7x) w R E := by
  intro a7x H w I h
  unfold c8r
  intro _
  unfold C1 at h
  refine f5 (cap := []) (fun args w => Tryd.call117 args w) ?_
  refine i6 (Fi := []) (Fr := []) I (h) (fun i1j H_9 i1k l0 a3w e2v b4Q h4r => ?_) (fun _ _ _ _ _ q => q.elim)
  obtain ⟨d4P, f9Y, f9Z, rfl, rfl, g0a, h⟩ := h4r
  have hj2 : ∀ (c3m : (List f6)) (b0t : Sl) (Fs6j2 : Frag) (H : Hp) (w : World) (_ : RowL 152 1 p9 b0t c3m Fs6j2) (_ : Inv w0 ps0 H0 H [Fs6j2] w) (_ : B9 c3m H K), c8q (vs b0t) w R E := by
   intro c3m b0t Fs6j2 H w g9h I h
   unfold c8q
   intro _
   unfold B9 at h
   obtain ⟨b7a, a7w, h4s, b2q, h4t⟩ := Inv.freezeC I g9h (by decide)
   replace h := h b0t b7a h4s b2q h4t
   exact hR b0t b7a _ a7w h
  refine s8 fun j2 hx2 => ?_
  refine a8 (c2T _ _ _) ?_
  obtain ⟨e2E, c9E, h4u, h4v⟩ := h
  refine I0 (J := fun n l w => ∃ (s : (List f6) × Int) (H : Hp) (c3o : Sl) (Fs6l3 : Frag) , n = c9E s ∧ l = (match s with | (a5y, a4O) => [(vs c3o), (vi a4O)]) ∧ (match s with | (a5y, a4O) => RowL 152 1 p9 c3o a5y Fs6l3) ∧ (match s with | (a5y, a4O) => Inv w0 ps0 H0 H [Fs6l3] w) ∧ e2E s H) ⟨_, (d4P, 0), H_9, f9Y, f9Z, rfl, rfl, g0a, a3w, h4u⟩ ?_
  rintro i1l τ_46 w next3 ⟨⟨a5y, a4O⟩, H, c3o, Fs6l3, rfl, c9F, d4R, I, h4w⟩ hn3
  dsimp only at c9F I d4R
  simp only [List.map_cons, List.map_nil, List.cons.injEq, and_true] at c9F
  obtain ⟨e6, e27⟩ := c9F
  simp only [e6, e27]
  obtain ⟨n3, hm3, h⟩ : ∃ n3 : ((List f6) × Int) → Hp → Prop, (∀ s' H', n3 s' H' → e2E s' H' ∧ c9E s' < c9E (a5y, a4O)) ∧ C0 x0 (x0.n : Int) a5y a4O H n3 K := ⟨_, fun _ _ h => h, h4v (a5y, a4O) H (fun s' H' => e2E s' H' ∧ c9E s' < c9E (a5y, a4O)) h4w (fun _ _ a b => ⟨a, b⟩)⟩
  unfold d9i
  unfold C0 at h
  refine a8 (o3 _ _ _ _ _ _) ?_
  refine g8 (fun e2F => ?_) (fun e2F => ?_)
  ·replace h := h.1 e2F
   obtain ⟨c9G, b0a, d4O, b2G, h⟩ := h
   obtain ⟨f9K, i1m, b6S, b2G⟩ := b2G
   refine a8 (c6e b6S _ _ _ _ c9G b0a) ?_
   refine d9 (ld1 (v := (vs d4O)) Tryd.isAgg124 (I.atH b2G)) ?_
   obtain ⟨c3n, h4x, h⟩ := h
   obtain ⟨h4y, h⟩ := h
   refine b9w (s := c3o) (xs := a5y) I d4R (SlH.src I h4x N0) h4y fun c5g b8F w4 a8a a0F a8V => ?_
   refine a8 (s9 _ _ _ _ _ _) ?_
   exact hn3 _ _ _ (hm3 _ _ h).2 ⟨((a5y ++ c3n), (IntKind.wrap .i64 (a4O + 1))), H, c5g, b8F, rfl, rfl, a8a, a0F, (hm3 _ _ h).1⟩
  ·replace h := h.2 e2F
   exact hx2 _ _ (hj2 a5y c3o Fs6l3 H _ d4R I h)
 refine s8 fun j1 hx1 => ?_
 refine a8 (c2T _ _ _) ?_
 obtain ⟨e2G, c9H, h4z, h4A⟩ := h
 refine I0 (J := fun n l w => ∃ (s : Int × Int) (H : Hp) , n = c9H s ∧ l = (match s with | (a8Y, a4n) => [(vi a8Y), (vi a4n)]) ∧ (match s with | (a8Y, a4n) => Inv w0 ps0 H0 H [] w) ∧ e2G s H) ⟨_, (0, 0), H, rfl, rfl, I, h4z⟩ ?_
 rintro i1n τ_55 w next4 ⟨⟨a8Y, a4n⟩, H, rfl, c9I, I, h4B⟩ hn4
 dsimp only at c9I I
 simp only [List.map_cons, List.map_nil, List.cons.injEq, and_true] at c9I
 obtain ⟨e3, e11⟩ := c9I
 simp only [e3, e11]
 obtain ⟨n4, hm4, h⟩ : ∃ n4 : (Int × Int) → Hp → Prop, (∀ s' H', n4 s' H' → e2G s' H' ∧ c9H s' < c9H (a8Y, a4n)) ∧ C2 x0 x0 (x0.n : Int) a8Y a4n H n4 K := ⟨_, fun _ _ h => h, h4A (a8Y, a4n) H (fun s' H' => e2G s' H' ∧ c9H s' < c9H (a8Y, a4n)) h4B (fun _ _ a b => ⟨a, b⟩)⟩
 unfold d9j
 unfold C2 at h
 refine a8 (o3 _ _ _ _ _ _) ?_
 refine g8 (fun b2N => ?_) (fun b2N => ?_)
 ·replace h := h.1 b2N
  have hj5 : ∀ (c5q : Int) (H : Hp) (w : World) (_ : Inv w0 ps0 H0 H [] w) (_ : B8 x0 c5q x0 (x0.n : Int) a4n H n4 K), c8s (vs x0) (vi c5q) (vs x0) (vi (x0.n : Int)) (vi a4n) w next4 R E := by
   intro c5q H w I h
   unfold c8s
   intro _
   unfold B8 at h
   refine a8 (s9 _ _ _ _ _ _) ?_
   exact hn4 _ _ _ (hm4 _ _ h).2 ⟨(c5q, (IntKind.wrap .i64 (a4n + 1))), H, rfl, rfl, I, (hm4 _ _ h).1⟩
  refine s8 fun j5 hx5 => ?_
  obtain ⟨h_4, h_5, x_1, h_7, h⟩ := h
  obtain ⟨g_2, o_3, h_6, h_7⟩ := h_7
  refine a8 (c6e h_6 _ _ _ _ h_4 h_5) ?_
  refine d9 (ld1 (v := (vs x_1)) Tryd.isAgg124 (I.atH h_7)) ?_
  refine a8 (b1d _ _ _) ?_
  refine a8 (s9 _ _ _ _ _ _) ?_
  refine a8 (o3 _ _ _ _ _ _) ?_
  refine g8 (fun c_8 => ?_) (fun c_8 => ?_)
  ·replace h := h.1 c_8
   refine a8 (d8P _) ?_
   exact h.elim
  ·replace h := h.2 c_8
   exact hx5 _ _ (hj5 (IntKind.wrap .i64 (a8Y + (x_1.n : Int))) H _ I h)
 ·replace h := h.2 b2N
  exact hx1 _ _ (hj1 a8Y H _ I h)
theorem a3j (x0 : Sl) {H : Hp} {K : Sl → Hp → Prop} (h : D2 x0 H K) : D1 x0 H K := by
 intro w I
 refine f5Q ?_
 refine a2X x0 I (fun r0 H' w' I' hk => ⟨H', _, I', r0, rfl, rfl, hk⟩) h
def y7 (R9 : (List f6)) (H : Hp) (K : Sl → Hp → Prop) : Prop :=
 ∀ (A7 : Sl) (U8 : Hp), Hle H U8 → SlH U8 1 p9 A7 R9 → A7.n ≤ A7.c →
 K A7 U8
def y8 (a0X : Sl) (a6H : Int) (r6 : (List f6)) (p6 : Int) (H : Hp) (n2 : ((List f6) × Int) → Hp → Prop) (K : Sl → Hp → Prop) : Prop :=
 (p6 < a6H →
 (0 : Int) ≤ p6 ∧ (p6 : Int) < a0X.n ∧ ∃ x_1 : a7, EltH H a0X p6 4 (b8 x_1) ∧
 a8Q x_1 H (fun (L0 : f6) (Z9 : Hp) =>
 (r6.length + ([L0] : List f6).length) * 17 ≤ 140737488355328 ∧
 n2 ((r6 ++ [L0]), (IntKind.wrap .i64 (p6 + 1))) Z9)) ∧
 (¬ (p6 < a6H) →
 y7 r6 H K)
def A4 (x0 : Sl) (H : Hp) (K : Sl → Hp → Prop) : Prop :=
 TL (([], 0) : (List f6) × Int) H fun (s : (List f6) × Int) H n2 => y8 x0 (x0.n : Int) s.1 s.2 H n2 K
theorem a1y (x0 : Sl) {w0 w : World} {ps0 : Nat → Prop} {H0 H : Hp} {K : Sl → Hp → Prop} {R : Value → World → Prop} {E : Pan} (I : Inv w0 ps0 H0 H [] w) (hR : ∀ (r0 : Sl) (H' : Hp) (w' : World) (_ : Inv w0 ps0 H0 H' [] w') (_ : K r0 H'), R (vs r0) w') (h : A4 x0 H K) : d3V (vs x0) (Value.func (.func 172) #[] #[]) w R E := by
 unfold A4 at h
 unfold d3V
 have hj1 : ∀ (R9 : (List f6)) (A7 : Sl) (Fs5j1 : Frag) (H : Hp) (w : World) (_ : RowL 152 1 p9 A7 R9 Fs5j1) (_ : Inv w0 ps0 H0 H [Fs5j1] w) (_ : y7 R9 H K), c4P (vs A7) w R E := by
  intro R9 A7 Fs5j1 H w b1i I h
  unfold c4P
  intro _
  unfold y7 at h
  obtain ⟨U8, b2o, b4P, a5V, a6I⟩ := Inv.freezeC I b1i (by decide)
  replace h := h A7 U8 b4P a5V a6I
  exact hR A7 U8 _ b2o h
 refine s8 fun j1 hx1 => ?_
 refine a8 (q6 _ _ _) ?_
 obtain ⟨a5u, a0E, b6A, b6B⟩ := h
 refine I0 (J := fun n l w => ∃ (s : (List f6) × Int) (H : Hp) (S2 : Sl) (Fs5l2 : Frag) , n = a0E s ∧ l = (match s with | (r6, p6) => [(vs S2), (vi p6)]) ∧ (match s with | (r6, p6) => RowL 152 1 p9 S2 r6 Fs5l2) ∧ (match s with | (r6, p6) => Inv w0 ps0 H0 H [Fs5l2] w) ∧ a5u s H) ⟨_, ([], 0), H, (Sl.mk none 0 0), [], rfl, rfl, (RowL.nil N0 R4), I.nil, b6A⟩ ?_
 rintro d4u τ_50 w next2 ⟨⟨r6, p6⟩, H, S2, Fs5l2, rfl, a4C, a2S, I, b6C⟩ hn2
 dsimp only at a4C I a2S
 simp only [List.map_cons, List.map_nil, List.cons.injEq, and_true] at a4C
 obtain ⟨e5, e10⟩ := a4C
 simp only [e5, e10]
 obtain ⟨n2, hm2, h⟩ : ∃ n2 : ((List f6) × Int) → Hp → Prop, (∀ s' H', n2 s' H' → a5u s' H' ∧ a0E s' < a0E (r6, p6)) ∧ y8 x0 (x0.n : Int) r6 p6 H n2 K := ⟨_, fun _ _ h => h, b6B (r6, p6) H (fun s' H' => a5u s' H' ∧ a0E s' < a0E (r6, p6)) b6C (fun _ _ a b => ⟨a, b⟩)⟩
 unfold d2w
 unfold y8 at h
 refine a8 (o3 _ _ _ _ _ _) ?_
 refine g8 (fun a3v => ?_) (fun a3v => ?_)
 ·replace h := h.1 a3v
  obtain ⟨h_4, h_5, x_1, h_7, h⟩ := h
  obtain ⟨g_2, o_3, h_6, h_7⟩ := h_7
  refine a8 (m7 h_6 _ _ _ _ h_4 h_5) ?_
  refine d9 (ldA (vs := (b8 x_1)) Tryd.isAgg24 Tryd.sizeOf24 rfl (I.atH h_7)) ?_
  refine u2 I Tryd.zeroValue24 (cs := [(vi 0), (vi 0), (Value.string ⟨#[]⟩), (Value.slice none 0 0)]) rfl fun g_9 l0 a3w b4Q => ?_
  refine k3 a3w Tryd.sizeOf24 (vs := (b8 x_1)) (cs' := (b8 x_1)) rfl rfl (nb rfl) rfl rfl fun a2w J7 a2T => ?_
  refine d9 (ldA Tryd.isAgg24 Tryd.sizeOf24 rfl (J7.at1 (o := 0) (vs := (b8 x_1)) (nb rfl) rfl)) ?_
  refine f5 (cap := []) (fun args w => Tryd.call172 args w) ?_
  refine i6 (Fi := []) (Fr := [bx g_9 24 (b8 x_1), Fs5l2]) J7 (h) (fun c9g Z9 c5f a1C a5r c9h c9i b2p => ?_) (fun _ _ _ _ _ q => q.elim)
  obtain ⟨L0, rfl, rfl, h⟩ := b2p
  refine a5R (e := 152) (c := p9) (xs := [L0]) a5r (b1V _) rfl rfl N0 R4 (nb rfl) fun c5g b8F w4 a8a a0F a8V => ?_
  obtain ⟨b2q, h⟩ := h
  refine b9w (s := S2) (xs := r6) (a0F.bring 2) a2S (a8a.srcO ((a0F.bring 2).bring 1)) b2q fun a7v b0P z2 a9Q a7w c5h => ?_
  refine a8 (s9 _ _ _ _ _ _) ?_
  exact hn2 _ _ _ (hm2 _ _ h).2 ⟨((r6 ++ [L0]), (IntKind.wrap .i64 (p6 + 1))), Z9, a7v, b0P, rfl, rfl, a9Q, ((a7w.bring 1).drop.bring 1).drop, (hm2 _ _ h).1⟩
 ·replace h := h.2 a3v
  exact hx1 _ _ (hj1 r6 S2 Fs5l2 H _ a2S I h)
theorem a1N (x0 : Sl) {H : Hp} {K : Sl → Hp → Prop} (h : A4 x0 H K) : t8 x0 H K := by
 intro w I
 refine e8I ?_
 refine a1y x0 I (fun r0 H' w' I' hk => ⟨H', _, I', r0, rfl, rfl, hk⟩) h
def a0K (x0 : K4) (H : Hp) (K : Sl → Hp → Prop) : Prop :=
 z7 x0.f7.q9 H (fun (b6F : Sl) (H_8 : Hp) =>
 t8 x0.f7.g5 H_8 (fun (b6G : Sl) (c9j : Hp) =>
 z6 x0.f7.M8 c9j (fun (d4S : Sl) (b8R : Hp) =>
 z6 x0.f7.I5 b8R (fun (d4T : Sl) (b7a : Hp) =>
 ∀ (b8Q : Sl) (c9J : Hp), Hle b7a c9J → SlH c9J 1 csl b8Q [b6F, b6G, d4S, d4T] → b8Q.n ≤ b8Q.c →
 D1 b8Q c9J (fun (b4i : Sl) (c1W : Hp) =>
 K b4i c1W)))))
theorem b1n (x0 : K4) {w0 w : World} {ps0 : Nat → Prop} {H0 H : Hp} {K : Sl → Hp → Prop} {R : Value → World → Prop} {E : Pan} (I : Inv w0 ps0 H0 H [] w) (hR : ∀ (r0 : Sl) (H' : Hp) (w' : World) (_ : Inv w0 ps0 H0 H' [] w') (_ : K r0 H'), R (vs r0) w') (h : a0K x0 H K) : d4f (Value.agg (v6 x0.f7).toArray) w R E := by
 unfold a0K at h
 unfold d4f
 refine F7 I (cs := (v6 x0.f7)) rfl fun g_2 w_3 I_4 k_5 => ?_
 refine a9F I_4 fun w_6 I_7 => ?_
 refine t1 E0 ?_
 refine t1 c2N ?_
 refine t1 E0 ?_
 refine t1 c2O ?_
 refine t1 E0 ?_
 refine t1 c2P ?_
 refine t1 E0 ?_
 refine t1 a8B ?_
 refine G8 (ld1 Tryd.isAgg25 (I_7.at1 (o := 3) (vs := [(vs x0.f7.q9)]) (nb rfl) rfl)) ?_
 refine G8 (ld1 Tryd.isAgg22 (I_7.at1 (o := 2) (vs := [(vs x0.f7.g5)]) (nb rfl) rfl)) ?_
 refine G8 (ld1 Tryd.isAgg42 (I_7.at1 (o := 4) (vs := [(vs x0.f7.M8)]) (nb rfl) rfl)) ?_
 refine G8 (ld1 Tryd.isAgg42 (I_7.at1 (o := 5) (vs := [(vs x0.f7.I5)]) (nb rfl) rfl)) ?_
 refine f5 (cap := []) (fun args w => Tryd.call175 args w) ?_
 refine i6 (Fi := []) (Fr := [bx g_2 179 (v6 x0.f7)]) I_7 (h) (fun h3u H_8 h3v w_9 a9S c1x c1y e1L => ?_) (fun _ _ _ _ _ q => q.elim)
 obtain ⟨b6F, rfl, rfl, h⟩ := e1L
 refine ⟨(c1y _ I_7.lt1 (Inv.a5J (Fi := []) I_7)), (c1y _ I_7.lt1 (Inv.a5J (Fi := []) I_7)), (c1y _ I_7.lt1 (Inv.a5J (Fi := []) I_7)), ?_⟩
 refine f5 (cap := []) (fun args w => Tryd.call171 args w) ?_
 refine i6 (Fi := []) (Fr := [bx g_2 179 (v6 x0.f7)]) a9S (h) (fun h3w c9j h3x p5 c1z h3y d4w e1M => ?_) (fun _ _ _ _ _ q => q.elim)
 obtain ⟨b6G, rfl, rfl, h⟩ := e1M
 refine ⟨(d4w _ a9S.lt1 (Inv.a5J (Fi := []) a9S)), (d4w _ a9S.lt1 (Inv.a5J (Fi := []) a9S)), ?_⟩
 refine f5 (cap := []) (fun args w => Tryd.call90 args w) ?_
 refine i6 (Fi := []) (Fr := [bx g_2 179 (v6 x0.f7)]) c1z (h) (fun i1o b8R i1p a7V b8A i1q h4C h4D => ?_) (fun _ _ _ _ _ q => q.elim)
 obtain ⟨d4S, rfl, rfl, h⟩ := h4D
 refine ⟨(h4C _ c1z.lt1 (Inv.a5J (Fi := []) c1z)), ?_⟩
 refine f5 (cap := []) (fun args w => Tryd.call90 args w) ?_
 refine i6 (Fi := []) (Fr := [bx g_2 179 (v6 x0.f7)]) b8A (h) (fun i1r b7a i1s F1 h4E i1t i1u h4F => ?_) (fun _ _ _ _ _ q => q.elim)
 obtain ⟨d4T, rfl, rfl, h⟩ := h4F
 refine a5R (e := 124) (c := csl) (xs := [b6F, b6G, d4S, d4T]) h4E (e1i _ _ _ _ _ _ _ _ _ _ _ _) rfl rfl d3z d3A (nb rfl) fun b8Q i1v b0L e2H c9x f9P => ?_
 obtain ⟨c9J, c5s, c9K, b4R, b8S⟩ := Inv.freezeC c9x e2H (by decide)
 replace h := h b8Q c9J c9K b4R b8S
 refine f5 (cap := []) (fun args w => Tryd.call87 args w) ?_
 refine i6 (Fi := []) (Fr := [bx g_2 179 (v6 x0.f7)]) c5s (h) (fun h4G c1W h4H c1X b2O c9u c1Y e2I => ?_) (fun _ _ _ _ _ q => q.elim)
 obtain ⟨b4i, rfl, rfl, h⟩ := e2I
 exact hR b4i c1W _ b2O.drop h
theorem b2P (x0 : K4) {H : Hp} {K : Sl → Hp → Prop} (h : a0K x0 H K) : a6E x0 H K := by
 intro w I
 refine e9A ?_
 refine b1n x0 I (fun r0 H' w' I' hk => ⟨H', _, I', r0, rfl, rfl, hk⟩) h
end Go.Proofs.YtnhkdkcgdcgmdaaDoor
