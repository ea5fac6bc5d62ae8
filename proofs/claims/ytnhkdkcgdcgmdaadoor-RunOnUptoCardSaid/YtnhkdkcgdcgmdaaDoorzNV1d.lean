/- Typed formulas of the program's functions, and the theorems that the contracts follow from them; printed by lift.py off the code. -/
import Derived.Test.YtnhkdkcgdcgmdaaDoorzNV1
namespace Go.Proofs.YtnhkdkcgdcgmdaaDoor
open Go.RowKit
set_option maxRecDepth 100000
set_option maxHeartbeats 2000000
variable {w0 w : World} {ps0 : Nat → Prop} {H0 H : Hp} {R : RT} {E : Pan}
def B4 (b5F : Bool) (g7I : Int) (H : Hp) (K : Int → Hp → Prop) : Prop :=
 (b5F = true →
 K 3 H) ∧
 (b5F = false →
 K 6 H)
def M4 (b5G : Bool) (a0N : Int) (H : Hp) (K : Int → Hp → Prop) : Prop :=
 (b5G = true →
 K 6 H) ∧
 (b5G = false →
 G2 48 57 a0N H (fun (U8 : Bool) (H_6 : Hp) =>
 (U8 = true →
 K 4 H_6) ∧
 (U8 = false →
 (a0N = 95 →
 B4 (decide (a0N = 95)) a0N H_6 K) ∧
 (¬ (a0N = 95) →
 G2 97 122 a0N H_6 (fun (Q8 : Bool) (a2O : Hp) =>
 (Q8 = true →
 B4 Q8 a0N a2O K) ∧
 (Q8 = false →
 G2 65 90 a0N a2O (fun (b8z : Bool) (c9J : Hp) =>
 (b8z = true →
 B4 b8z a0N c9J K) ∧
 (b8z = false →
 G2 192 591 a0N c9J (fun (b8A : Bool) (c9K : Hp) =>
 (b8A = true →
 B4 b8A a0N c9K K) ∧
 (b8A = false →
 G2 913 969 a0N c9K (fun (a3j : Bool) (a4J : Hp) =>
 (a3j = true →
 B4 a3j a0N a4J K) ∧
 (a3j = false →
 G2 1040 1103 a0N a4J (fun (c9L : Bool) (d6f : Hp) =>
 B4 c9L a0N d6f K)))))))))))))
def m2 (b6W : Int) (b2L : Bool) (a3T : Int) (H : Hp) (K : Int → Hp → Prop) : Prop :=
 (b2L = true →
 K 5 H) ∧
 (b2L = false →
 (b6W = 215 →
 M4 (decide (b6W = 215)) a3T H K) ∧
 (¬ (b6W = 215) →
 (b6W = 247 →
 M4 (decide (b6W = 247)) a3T H K) ∧
 (¬ (b6W = 247) →
 M4 (decide (b6W = 930)) a3T H K)))
def M5 (t6 : Int) (b2F : Bool) (D2 : Int) (H : Hp) (K : Int → Hp → Prop) : Prop :=
 (b2F = true →
 K 1 H) ∧
 (b2F = false →
 (t6 = 10 →
 K 2 H) ∧
 (¬ (t6 = 10) →
 (t6 = 59 →
 m2 t6 (decide (t6 = 59)) D2 H K) ∧
 (¬ (t6 = 59) →
 (t6 = 44 →
 m2 t6 (decide (t6 = 44)) D2 H K) ∧
 (¬ (t6 = 44) →
 (t6 = 123 →
 m2 t6 (decide (t6 = 123)) D2 H K) ∧
 (¬ (t6 = 123) →
 (t6 = 125 →
 m2 t6 (decide (t6 = 125)) D2 H K) ∧
 (¬ (t6 = 125) →
 (t6 = 40 →
 m2 t6 (decide (t6 = 40)) D2 H K) ∧
 (¬ (t6 = 40) →
 (t6 = 41 →
 m2 t6 (decide (t6 = 41)) D2 H K) ∧
 (¬ (t6 = 41) →
 (t6 = 91 →
 m2 t6 (decide (t6 = 91)) D2 H K) ∧
 (¬ (t6 = 91) →
 (t6 = 93 →
 m2 t6 (decide (t6 = 93)) D2 H K) ∧
 (¬ (t6 = 93) →
 (t6 = 61 →
 m2 t6 (decide (t6 = 61)) D2 H K) ∧
 (¬ (t6 = 61) →
 (t6 = 33 →
 m2 t6 (decide (t6 = 33)) D2 H K) ∧
 (¬ (t6 = 33) →
 (t6 = 60 →
 m2 t6 (decide (t6 = 60)) D2 H K) ∧
 (¬ (t6 = 60) →
 (t6 = 62 →
 m2 t6 (decide (t6 = 62)) D2 H K) ∧
 (¬ (t6 = 62) →
 (t6 = 43 →
 m2 t6 (decide (t6 = 43)) D2 H K) ∧
 (¬ (t6 = 43) →
 (t6 = 45 →
 m2 t6 (decide (t6 = 45)) D2 H K) ∧
 (¬ (t6 = 45) →
 (t6 = 42 →
 m2 t6 (decide (t6 = 42)) D2 H K) ∧
 (¬ (t6 = 42) →
 (t6 = 47 →
 m2 t6 (decide (t6 = 47)) D2 H K) ∧
 (¬ (t6 = 47) →
 (t6 = 37 →
 m2 t6 (decide (t6 = 37)) D2 H K) ∧
 (¬ (t6 = 37) →
 (t6 = 38 →
 m2 t6 (decide (t6 = 38)) D2 H K) ∧
 (¬ (t6 = 38) →
 m2 t6 (decide (t6 = 124)) D2 H K))))))))))))))))))))
def a1L (x0 : Int) (H : Hp) (K : Int → Hp → Prop) : Prop :=
 (x0 = 32 →
 M5 x0 (decide (x0 = 32)) x0 H K) ∧
 (¬ (x0 = 32) →
 (x0 = 9 →
 M5 x0 (decide (x0 = 9)) x0 H K) ∧
 (¬ (x0 = 9) →
 M5 x0 (decide (x0 = 13)) x0 H K))
theorem b2M (x0 : Int) {K : Int → Hp → Prop} (I : Inv w0 ps0 H0 H [] w) (hR : ∀ (r0 : Int) (H' : Hp) (w' : World) (_ : Inv w0 ps0 H0 H' [] w') (_ : K r0 H'), R (vi r0) w') (h : a1L x0 H K) : c8Y (Value.int .i32 x0) w R E := by
 unfold a1L at h
 unfold c8Y
 refine O4 I (cs := [(Value.int .i32 x0)]) rfl fun g_2 w_3 I_4 k_5 => ?_
 refine b6 (ld1 Tryd.isAgg21 (I_4.at1 (o := 0) (vs := [(Value.int .i32 x0)]) (nb rfl) rfl)) ?_
 have hj1 : ∀ (b2F : Bool) (H : Hp) (w : World) (_ : Inv w0 ps0 H0 H [bx g_2 21 [(Value.int .i32 x0)]] w) (_ : M5 x0 b2F x0 H K), c0b (Value.pointer (some ⟨g_2, 0, none⟩)) (Value.int .i32 x0) (vB b2F) w R E := by
  intro b2F H w I h
  unfold c0b
  intro _
  unfold M5 at h
  refine o4 (fun b6X => ?_) (fun b6X => ?_)
  ·replace h := h.1 b6X
   exact hR 1 H _ I.drop h
  ·replace h := h.2 b6X
   refine a7 (j8 _ _ _ _ _ _) ?_
   refine i5 (fun d6g => ?_) (fun d6g => ?_)
   ·replace h := h.1 d6g
    exact hR 2 H _ I.drop h
   ·replace h := h.2 d6g
    have hj2 : ∀ (b2L : Bool) (H : Hp) (w : World) (_ : Inv w0 ps0 H0 H [bx g_2 21 [(Value.int .i32 x0)]] w) (_ : m2 x0 b2L x0 H K), c0a (Value.pointer (some ⟨g_2, 0, none⟩)) (Value.int .i32 x0) (vB b2L) w R E := by
     intro b2L H w I h
     unfold c0a
     intro _
     unfold m2 at h
     refine o4 (fun d6h => ?_) (fun d6h => ?_)
     ·replace h := h.1 d6h
      exact hR 5 H _ I.drop h
     ·replace h := h.2 d6h
      have hj3 : ∀ (b5G : Bool) (H : Hp) (w : World) (_ : Inv w0 ps0 H0 H [bx g_2 21 [(Value.int .i32 x0)]] w) (_ : M4 b5G x0 H K), b9Z (Value.pointer (some ⟨g_2, 0, none⟩)) (vB b5G) w R E := by
       intro b5G H w I h
       unfold b9Z
       intro _
       unfold M4 at h
       refine o4 (fun b6Y => ?_) (fun b6Y => ?_)
       ·replace h := h.1 b6Y
        exact hR 6 H _ I.drop h
       ·replace h := h.2 b6Y
        refine a7 (b0B _ _ _) ?_
        refine d5 (cap := [(Value.pointer (some ⟨g_2, 0, none⟩))]) (fun args w => Tryd.call151 args w) ?_
        refine m8 (Fi := [bx g_2 21 [(Value.int .i32 x0)]]) (Fr := []) I (h g_2) (fun c4g H_6 c4h w_7 I_8 c4i k_9 a9b => ?_) (fun _ _ _ _ _ q => q.elim)
        obtain ⟨U8, rfl, rfl, h⟩ := a9b
        refine o4 (fun d6i => ?_) (fun d6i => ?_)
        ·replace h := h.1 d6i
         exact hR 4 H_6 _ I_8.drop h
        ·replace h := h.2 d6i
         have hj4 : ∀ (b5F : Bool) (H : Hp) (w : World) (_ : Inv w0 ps0 H0 H [bx g_2 21 [(Value.int .i32 x0)]] w) (_ : B4 b5F x0 H K), b9Y (vB b5F) w R E := by
          intro b5F H w I h
          unfold b9Y
          intro _
          unfold B4 at h
          refine o4 (fun a5l => ?_) (fun a5l => ?_)
          ·replace h := h.1 a5l
           exact hR 3 H _ I.drop h
          ·replace h := h.2 a5l
           exact hR 6 H _ I.drop h
         refine u7 fun j4 hx4 => ?_
         refine b6 (ld1 Tryd.isAgg21 (I_8.at1 (o := 0) (vs := [(Value.int .i32 x0)]) (nb rfl) rfl)) ?_
         refine a7 (j8 _ _ _ _ _ _) ?_
         refine i5 (fun d6j => ?_) (fun d6j => ?_)
         ·replace h := h.1 d6j
          exact hx4 _ _ (hj4 (decide (x0 = 95)) H_6 _ I_8 h)
         ·replace h := h.2 d6j
          refine d5 (cap := [(Value.pointer (some ⟨g_2, 0, none⟩))]) (fun args w => Tryd.call151 args w) ?_
          refine m8 (Fi := [bx g_2 21 [(Value.int .i32 x0)]]) (Fr := []) I_8 (h g_2) (fun c9y a2O c9z a3F a5g c9A c9B b2w => ?_) (fun _ _ _ _ _ q => q.elim)
          obtain ⟨Q8, rfl, rfl, h⟩ := b2w
          refine o4 (fun d6k => ?_) (fun d6k => ?_)
          ·replace h := h.1 d6k
           exact hx4 _ _ (hj4 Q8 a2O _ a5g h)
          ·replace h := h.2 d6k
           refine d5 (cap := [(Value.pointer (some ⟨g_2, 0, none⟩))]) (fun args w => Tryd.call151 args w) ?_
           refine m8 (Fi := [bx g_2 21 [(Value.int .i32 x0)]]) (Fr := []) a5g (h g_2) (fun g9I c9J g9J A6 b6Z f1O f1P g5r => ?_) (fun _ _ _ _ _ q => q.elim)
           obtain ⟨b8z, rfl, rfl, h⟩ := g5r
           refine o4 (fun b7a => ?_) (fun b7a => ?_)
           ·replace h := h.1 b7a
            exact hx4 _ _ (hj4 b8z c9J _ b6Z h)
           ·replace h := h.2 b7a
            refine d5 (cap := [(Value.pointer (some ⟨g_2, 0, none⟩))]) (fun args w => Tryd.call151 args w) ?_
            refine m8 (Fi := [bx g_2 21 [(Value.int .i32 x0)]]) (Fr := []) b6Z (h g_2) (fun g9K c9K g9L b0N a7z b4o c9C g5s => ?_) (fun _ _ _ _ _ q => q.elim)
            obtain ⟨b8A, rfl, rfl, h⟩ := g5s
            refine o4 (fun b7b => ?_) (fun b7b => ?_)
            ·replace h := h.1 b7b
             exact hx4 _ _ (hj4 b8A c9K _ a7z h)
            ·replace h := h.2 b7b
             refine d5 (cap := [(Value.pointer (some ⟨g_2, 0, none⟩))]) (fun args w => Tryd.call151 args w) ?_
             refine m8 (Fi := [bx g_2 21 [(Value.int .i32 x0)]]) (Fr := []) a7z (h g_2) (fun g5t a4J g5u G7 c0w g5v g5w d6l => ?_) (fun _ _ _ _ _ q => q.elim)
             obtain ⟨a3j, rfl, rfl, h⟩ := d6l
             refine o4 (fun d6m => ?_) (fun d6m => ?_)
             ·replace h := h.1 d6m
              exact hx4 _ _ (hj4 a3j a4J _ c0w h)
             ·replace h := h.2 d6m
              refine d5 (cap := [(Value.pointer (some ⟨g_2, 0, none⟩))]) (fun args w => Tryd.call151 args w) ?_
              refine m8 (Fi := [bx g_2 21 [(Value.int .i32 x0)]]) (Fr := []) c0w (h g_2) (fun g9M d6f g9N g9O g5x g9P g9Q g5y => ?_) (fun _ _ _ _ _ q => q.elim)
              obtain ⟨c9L, rfl, rfl, h⟩ := g5y
              exact hx4 _ _ (hj4 c9L d6f _ g5x h)
      refine u7 fun j3 hx3 => ?_
      refine a7 (j8 _ _ _ _ _ _) ?_
      refine i5 (fun b7c => ?_) (fun b7c => ?_)
      ·replace h := h.1 b7c
       exact hx3 _ _ (hj3 (decide (x0 = 215)) H _ I h)
      ·replace h := h.2 b7c
       refine a7 (j8 _ _ _ _ _ _) ?_
       refine i5 (fun a8S => ?_) (fun a8S => ?_)
       ·replace h := h.1 a8S
        exact hx3 _ _ (hj3 (decide (x0 = 247)) H _ I h)
       ·replace h := h.2 a8S
        refine a7 (j8 _ _ _ _ _ _) ?_
        exact hx3 _ _ (hj3 (decide (x0 = 930)) H _ I h)
    refine u7 fun j2 hx2 => ?_
    refine a7 (j8 _ _ _ _ _ _) ?_
    refine i5 (fun d6n => ?_) (fun d6n => ?_)
    ·replace h := h.1 d6n
     exact hx2 _ _ (hj2 (decide (x0 = 59)) H _ I h)
    ·replace h := h.2 d6n
     refine a7 (j8 _ _ _ _ _ _) ?_
     refine i5 (fun a8T => ?_) (fun a8T => ?_)
     ·replace h := h.1 a8T
      exact hx2 _ _ (hj2 (decide (x0 = 44)) H _ I h)
     ·replace h := h.2 a8T
      refine a7 (j8 _ _ _ _ _ _) ?_
      refine i5 (fun b6V => ?_) (fun b6V => ?_)
      ·replace h := h.1 b6V
       exact hx2 _ _ (hj2 (decide (x0 = 123)) H _ I h)
      ·replace h := h.2 b6V
       refine a7 (j8 _ _ _ _ _ _) ?_
       refine i5 (fun d6o => ?_) (fun d6o => ?_)
       ·replace h := h.1 d6o
        exact hx2 _ _ (hj2 (decide (x0 = 125)) H _ I h)
       ·replace h := h.2 d6o
        refine a7 (j8 _ _ _ _ _ _) ?_
        refine i5 (fun d6p => ?_) (fun d6p => ?_)
        ·replace h := h.1 d6p
         exact hx2 _ _ (hj2 (decide (x0 = 40)) H _ I h)
        ·replace h := h.2 d6p
         refine a7 (j8 _ _ _ _ _ _) ?_
         refine i5 (fun d6q => ?_) (fun d6q => ?_)
         ·replace h := h.1 d6q
          exact hx2 _ _ (hj2 (decide (x0 = 41)) H _ I h)
         ·replace h := h.2 d6q
          refine a7 (j8 _ _ _ _ _ _) ?_
          refine i5 (fun b7d => ?_) (fun b7d => ?_)
          ·replace h := h.1 b7d
           exact hx2 _ _ (hj2 (decide (x0 = 91)) H _ I h)
          ·replace h := h.2 b7d
           refine a7 (j8 _ _ _ _ _ _) ?_
           refine i5 (fun a9l => ?_) (fun a9l => ?_)
           ·replace h := h.1 a9l
            exact hx2 _ _ (hj2 (decide (x0 = 93)) H _ I h)
           ·replace h := h.2 a9l
            refine a7 (j8 _ _ _ _ _ _) ?_
            refine i5 (fun d6r => ?_) (fun d6r => ?_)
            ·replace h := h.1 d6r
             exact hx2 _ _ (hj2 (decide (x0 = 61)) H _ I h)
            ·replace h := h.2 d6r
             refine a7 (j8 _ _ _ _ _ _) ?_
             refine i5 (fun d6s => ?_) (fun d6s => ?_)
             ·replace h := h.1 d6s
              exact hx2 _ _ (hj2 (decide (x0 = 33)) H _ I h)
             ·replace h := h.2 d6s
              refine a7 (j8 _ _ _ _ _ _) ?_
              refine i5 (fun d6t => ?_) (fun d6t => ?_)
              ·replace h := h.1 d6t
               exact hx2 _ _ (hj2 (decide (x0 = 60)) H _ I h)
              ·replace h := h.2 d6t
               refine a7 (j8 _ _ _ _ _ _) ?_
               refine i5 (fun d6u => ?_) (fun d6u => ?_)
               ·replace h := h.1 d6u
                exact hx2 _ _ (hj2 (decide (x0 = 62)) H _ I h)
               ·replace h := h.2 d6u
                refine a7 (j8 _ _ _ _ _ _) ?_
                refine i5 (fun d6v => ?_) (fun d6v => ?_)
                ·replace h := h.1 d6v
                 exact hx2 _ _ (hj2 (decide (x0 = 43)) H _ I h)
                ·replace h := h.2 d6v
                 refine a7 (j8 _ _ _ _ _ _) ?_
                 refine i5 (fun b7e => ?_) (fun b7e => ?_)
                 ·replace h := h.1 b7e
                  exact hx2 _ _ (hj2 (decide (x0 = 45)) H _ I h)
                 ·replace h := h.2 b7e
                  refine a7 (j8 _ _ _ _ _ _) ?_
                  refine i5 (fun b7f => ?_) (fun b7f => ?_)
                  ·replace h := h.1 b7f
                   exact hx2 _ _ (hj2 (decide (x0 = 42)) H _ I h)
                  ·replace h := h.2 b7f
                   refine a7 (j8 _ _ _ _ _ _) ?_
                   refine i5 (fun d6w => ?_) (fun d6w => ?_)
                   ·replace h := h.1 d6w
                    exact hx2 _ _ (hj2 (decide (x0 = 47)) H _ I h)
                   ·replace h := h.2 d6w
                    refine a7 (j8 _ _ _ _ _ _) ?_
                    refine i5 (fun b7g => ?_) (fun b7g => ?_)
                    ·replace h := h.1 b7g
                     exact hx2 _ _ (hj2 (decide (x0 = 37)) H _ I h)
                    ·replace h := h.2 b7g
                     refine a7 (j8 _ _ _ _ _ _) ?_
                     refine i5 (fun b7h => ?_) (fun b7h => ?_)
                     ·replace h := h.1 b7h
                      exact hx2 _ _ (hj2 (decide (x0 = 38)) H _ I h)
                     ·replace h := h.2 b7h
                      refine a7 (j8 _ _ _ _ _ _) ?_
                      exact hx2 _ _ (hj2 (decide (x0 = 124)) H _ I h)
 refine u7 fun j1 hx1 => ?_
 refine a7 (j8 _ _ _ _ _ _) ?_
 refine i5 (fun d6x => ?_) (fun d6x => ?_)
 ·replace h := h.1 d6x
  exact hx1 _ _ (hj1 (decide (x0 = 32)) H _ I_4 h)
 ·replace h := h.2 d6x
  refine a7 (j8 _ _ _ _ _ _) ?_
  refine i5 (fun b7i => ?_) (fun b7i => ?_)
  ·replace h := h.1 b7i
   exact hx1 _ _ (hj1 (decide (x0 = 9)) H _ I_4 h)
  ·replace h := h.2 b7i
   refine a7 (j8 _ _ _ _ _ _) ?_
   exact hx1 _ _ (hj1 (decide (x0 = 13)) H _ I_4 h)
theorem b3w (x0 : Int) {H : Hp} {K : Int → Hp → Prop} (h : a1L x0 H K) : a1I x0 H K := by
 intro w I
 refine e2c ?_
 refine b2M x0 I (fun r0 H' w' I' hk => ⟨H', _, I', r0, rfl, rfl, hk⟩) h
def a1M (x0 : Int) (H : Hp) (K : Bool → Hp → Prop) : Prop :=
 a1I x0 H (fun (E8 : Int) (H_1 : Hp) =>
 K ((decide (E8 = 3)) || (decide (E8 = 4))) H_1)
theorem b2N (x0 : Int) {K : Bool → Hp → Prop} (I : Inv w0 ps0 H0 H [] w) (hR : ∀ (r0 : Bool) (H' : Hp) (w' : World) (_ : Inv w0 ps0 H0 H' [] w') (_ : K r0 H'), R (vB r0) w') (h : a1M x0 H K) : c8X (Value.int .i32 x0) w R E := by
 unfold a1M at h
 unfold c8X
 refine d5 (cap := []) (fun args w => Tryd.call141 args w) ?_
 refine m8 (Fi := []) (Fr := []) I (h) (fun v_5 H_1 F_6 w_2 I_3 l_8 k_4 q_7 => ?_) (fun _ _ _ _ _ q => q.elim)
 obtain ⟨E8, rfl, rfl, h⟩ := q_7
 refine a7 (j8 _ _ _ _ _ _) ?_
 simp only [L2]
 refine a7 (Pu.g fun hb => by have b7 := hb; simp only [l9 b7]; exact (j8 _ _ _ _ _ _)) ?_
 refine a7 (Q5 _ _) ?_
 exact hR ((decide (E8 = 3)) || (decide (E8 = 4))) H_1 _ I_3 h
theorem b3x (x0 : Int) {H : Hp} {K : Bool → Hp → Prop} (h : a1M x0 H K) : a3I x0 H K := by
 intro w I
 refine e2a ?_
 refine b2N x0 I (fun r0 H' w' I' hk => ⟨H', _, I', r0, rfl, rfl, hk⟩) h
def Q0 (H : Hp) (K : Int → Hp → Prop) : Prop :=
 K (-1) H
def Q1 (g1H : (List ByteArray)) (a1U : ByteArray) (a5p : Int) (a0S : Int) (H : Hp) (n2 : Int → Hp → Prop) (K : Int → Hp → Prop) : Prop :=
 (a0S < a5p →
 (0 : Int) ≤ a0S ∧ ∃ x_1 : ByteArray, (g1H)[(a0S : Int).toNat]? = some x_1 ∧
 (a1U = x_1 →
 K a0S H) ∧
 (¬ (a1U = x_1) →
 n2 (IntKind.wrap .i64 (a0S + 1)) H)) ∧
 (¬ (a0S < a5p) →
 Q0 H K)
def S9 (x0 : (List ByteArray)) (x1 : ByteArray) (H : Hp) (K : Int → Hp → Prop) : Prop :=
 TL (0 : Int) H fun (s : Int) H n2 => Q1 x0 x1 (x0.length : Int) s H n2 K
theorem a6m (x0 : (List ByteArray)) (x1 : ByteArray) (sx0 : Sl) (Fx0 : Frag) (hx0 : RowL 9 1 C9 sx0 x0 Fx0) {K : Int → Hp → Prop} (I : Inv w0 ps0 H0 H [Fx0] w) (hR : ∀ (r0 : Int) (H' : Hp) (w' : World) (_ : Inv w0 ps0 H0 H' [Fx0] w') (_ : K r0 H'), R (vi r0) w') (h : S9 x0 x1 H K) : c8Z (vs sx0) (Value.string x1) w R E := by
 unfold S9 at h
 unfold c8Z
 have hj1 : ∀ (H : Hp) (w : World) (_ : Inv w0 ps0 H0 H [Fx0] w) (_ : Q0 H K), c0c w R E := by
  intro H w I h
  unfold c0c
  intro _
  unfold Q0 at h
  exact hR (-1) H _ I h
 refine u7 fun j1 hx1 => ?_
 refine a7 (b1R Tryd.underlying104 hx0) ?_
 obtain ⟨d6y, c4x, g5z, g5A⟩ := h
 refine H7 (J := fun n l w => ∃ (s : Int) (H : Hp) , n = c4x s ∧ l = [(vi s)] ∧ Inv w0 ps0 H0 H [Fx0] w ∧ d6y s H) ⟨_, 0, H, rfl, rfl, I, g5z⟩ ?_
 rintro g9R τ_15 w next2 ⟨a0S, H, rfl, d6z, I, a7B⟩ hn2
 simp only [List.map_cons, List.map_nil, List.cons.injEq, and_true] at d6z
 have e8 := d6z
 simp only [e8]
 obtain ⟨n2, hm2, h⟩ : ∃ n2 : Int → Hp → Prop, (∀ s' H', n2 s' H' → d6y s' H' ∧ c4x s' < c4x a0S) ∧ Q1 x0 x1 (x0.length : Int) a0S H n2 K := ⟨_, fun _ _ h => h, g5A a0S H (fun s' H' => d6y s' H' ∧ c4x s' < c4x a0S) a7B (fun _ _ a b => ⟨a, b⟩)⟩
 unfold c7I
 unfold Q1 at h
 refine a7 (A7 _ _ _ _ _ _) ?_
 refine i5 (fun c_9 => ?_) (fun c_9 => ?_)
 ·replace h := h.1 c_9
  obtain ⟨h_3, x_1, h_4, h⟩ := h
  obtain ⟨g_2, a_6, h_5, h_7⟩ := hx0.addr h_4
  refine a7 (d2j h_5 _ _ _ _ h_3 (hx0.lt h_3 h_4)) ?_
  refine b6 (ld1 (v := (Value.string x_1)) Tryd.isAgg9 (hx0.atW I h_5 h_4)) ?_
  refine a7 (a0Y _ _ _ _ _) ?_
  refine i5 (fun c_8 => ?_) (fun c_8 => ?_)
  ·replace h := h.1 c_8
   exact hR a0S H _ I h
  ·replace h := h.2 c_8
   refine a7 (C6 _ _ _ _ _ _) ?_
   exact hn2 _ _ _ (hm2 _ _ h).2 ⟨(IntKind.wrap .i64 (a0S + 1)), H, rfl, rfl, I, (hm2 _ _ h).1⟩
 ·replace h := h.2 c_9
  exact hx1 _ _ (hj1 H _ I h)
theorem a6J (x0 : (List ByteArray)) (x1 : ByteArray) {H : Hp} {K : Int → Hp → Prop} (h : S9 x0 x1 H K) : a0m x0 x1 H K := by
 intro sx0 Fx0 hx0 w I
 refine e2e ?_
 refine a6m x0 x1 sx0 Fx0 hx0 I (fun r0 H' w' I' hk => ⟨H', _, I', r0, rfl, rfl, hk⟩) h
def Q2 (x0 : (List ByteArray)) (x1 : ByteArray) (H : Hp) (K : Bool → Hp → Prop) : Prop :=
 a0m x0 x1 H (fun (E8 : Int) (H_1 : Hp) =>
 K (decide (0 ≤ E8)) H_1)
theorem a5q (x0 : (List ByteArray)) (x1 : ByteArray) (sx0 : Sl) (Fx0 : Frag) (hx0 : RowL 9 1 C9 sx0 x0 Fx0) {K : Bool → Hp → Prop} (I : Inv w0 ps0 H0 H [Fx0] w) (hR : ∀ (r0 : Bool) (H' : Hp) (w' : World) (_ : Inv w0 ps0 H0 H' [Fx0] w') (_ : K r0 H'), R (vB r0) w') (h : Q2 x0 x1 H K) : c8U (vs sx0) (Value.string x1) w R E := by
 unfold Q2 at h
 unfold c8U
 refine d5 (cap := []) (fun args w => Tryd.call142 args w) ?_
 refine m8 (Fi := [Fx0]) (Fr := []) I (h sx0 Fx0 hx0) (fun v_5 H_1 F_6 w_2 I_3 l_8 k_4 q_7 => ?_) (fun _ _ _ _ _ q => q.elim)
 obtain ⟨E8, rfl, rfl, h⟩ := q_7
 refine a7 (a8y _ _ _ _ _ _) ?_
 exact hR (decide (0 ≤ E8)) H_1 _ I_3 h
theorem a5G (x0 : (List ByteArray)) (x1 : ByteArray) {H : Hp} {K : Bool → Hp → Prop} (h : Q2 x0 x1 H K) : K6 x0 x1 H K := by
 intro sx0 Fx0 hx0 w I
 refine e1U ?_
 refine a5q x0 x1 sx0 Fx0 hx0 I (fun r0 H' w' I' hk => ⟨H', _, I', r0, rfl, rfl, hk⟩) h
def u0 (a8p : Int) (a8q : Int) (a8r : Int) (a8s : Bool) (a8t : Bool) (a6K : (List ByteArray)) (H : Hp) (K : Bool → g8 → (List ByteArray) → Hp → Prop) : Prop :=
 K true (g8.mk a8p a8q a8r a8s a8t (Sl.mk none 0 0)) a6K H
def U9 (x0 : g8) (V4 : (List ByteArray)) (x1 : a8) (x2 : Int) (H : Hp) (K : Bool → g8 → (List ByteArray) → Hp → Prop) : Prop :=
 (4096 < (IntKind.wrap .i64 (x0.fnodes + 1)) →
 K false (g8.mk (IntKind.wrap .i64 (x0.fnodes + 1)) x0.fdepth 33 x0.fform x0.fnamed (Sl.mk none 0 0)) V4 H) ∧
 (¬ (4096 < (IntKind.wrap .i64 (x0.fnodes + 1))) →
 (64 < x2 →
 K false (g8.mk (IntKind.wrap .i64 (x0.fnodes + 1)) x0.fdepth 32 x0.fform x0.fnamed (Sl.mk none 0 0)) V4 H) ∧
 (¬ (64 < x2) →
 TG (x0.fform = false) (a3b x1 H) false H (fun (D4 : Bool) (b4w : Hp) =>
 a0M x1 b4w (fun (a2A : ByteArray) (b2O : Bool) (a9o : Hp) =>
 (b2O = true →
 TG (x0.fnamed = false) (a2u a2A a9o) false a9o (fun (a1N : Bool) (b0O : Hp) =>
 K6 V4 a2A b0O (fun (a3j : Bool) (a4J : Hp) =>
 ((!a3j) = true →
 (V4.length + ([a2A] : List ByteArray).length) * 17 ≤ 140737488355328 ∧
 u0 (IntKind.wrap .i64 (x0.fnodes + 1)) (if x2 > x0.fdepth then x2 else x0.fdepth) x0.fe (x0.fform || (!D4)) (x0.fnamed || (!a1N)) (V4 ++ [a2A]) a4J K) ∧
 ((!a3j) = false →
 u0 (IntKind.wrap .i64 (x0.fnodes + 1)) (if x2 > x0.fdepth then x2 else x0.fdepth) x0.fe (x0.fform || (!D4)) (x0.fnamed || (!a1N)) V4 a4J K)))) ∧
 (b2O = false →
 u0 (IntKind.wrap .i64 (x0.fnodes + 1)) (if x2 > x0.fdepth then x2 else x0.fdepth) x0.fe (x0.fform || (!D4)) x0.fnamed V4 a9o K)))))
theorem a7k (x0 : g8) (V4 : (List ByteArray)) (x1 : a8) (x2 : Int) (g0 : Nat) (T8 : Sl) (a2i : Frag) (b0r : RowL 9 1 C9 T8 V4 a2i) {K : Bool → g8 → (List ByteArray) → Hp → Prop} (I : Inv w0 ps0 H0 H [bx g0 106 [(vi x0.fnodes), (vi x0.fdepth), (vi x0.fe), (vB x0.fform), (vB x0.fnamed), (vs T8)], a2i] w) (hR : ∀ (r0 : Bool) (y0 : g8) (a5e : (List ByteArray)) (a2X : Sl) (a2Y : Frag) (H' : Hp) (w' : World) (_ : RowL 9 1 C9 a2X a5e a2Y) (_ : Inv w0 ps0 H0 H' [bx g0 106 [(vi y0.fnodes), (vi y0.fdepth), (vi y0.fe), (vB y0.fform), (vB y0.fnamed), (vs a2X)], a2Y] w') (_ : K r0 y0 a5e H'), R (vB r0) w') (h : U9 x0 V4 x1 x2 H K) : c8R (Value.pointer (some ⟨g0, 0, none⟩)) (u6 x1) (vi x2) w R E := by
 unfold U9 at h
 unfold c8R
 refine a7 (p7 _) ?_
 refine a7 b0C ?_
 refine b6 (ld1 Tryd.isAgg3 (I.at1 (o := 0) (vs := [(vi x0.fnodes)]) (nb rfl) rfl)) ?_
 refine a7 (C6 _ _ _ _ _ _) ?_
 refine a7 (p7 _) ?_
 refine a7 b0C ?_
 refine o9 I Tryd.sizeOf3 (vs := [(vi (IntKind.wrap .i64 (x0.fnodes + 1)))]) (cs' := [(vi (IntKind.wrap .i64 (x0.fnodes + 1))), (vi x0.fdepth), (vi x0.fe), (vB x0.fform), (vB x0.fnamed), (vs T8)]) rfl rfl (nb rfl) rfl rfl fun w_1 I_2 k_3 => ?_
 refine a7 (p7 _) ?_
 refine a7 b0C ?_
 refine b6 (ld1 Tryd.isAgg3 (I_2.at1 (o := 0) (vs := [(vi (IntKind.wrap .i64 (x0.fnodes + 1)))]) (nb rfl) rfl)) ?_
 refine a7 (a0b _ _ _ _ _ _) ?_
 refine i5 (fun b7e => ?_) (fun b7e => ?_)
 ·replace h := h.1 b7e
  refine a7 (p7 _) ?_
  refine a7 a4K ?_
  refine o9 I_2 Tryd.sizeOf29 (vs := [(vi 33)]) (cs' := [(vi (IntKind.wrap .i64 (x0.fnodes + 1))), (vi x0.fdepth), (vi 33), (vB x0.fform), (vB x0.fnamed), (vs T8)]) rfl rfl (nb rfl) rfl rfl fun w_4 I_5 k_6 => ?_
  exact hR false (g8.mk (IntKind.wrap .i64 (x0.fnodes + 1)) x0.fdepth 33 x0.fform x0.fnamed (Sl.mk none 0 0)) V4 T8 a2i H _ b0r ((I_5.bring 1).bring 1) h
 ·replace h := h.2 b7e
  refine a7 (a0b _ _ _ _ _ _) ?_
  refine i5 (fun b7f => ?_) (fun b7f => ?_)
  ·replace h := h.1 b7f
   refine a7 (p7 _) ?_
   refine a7 a4K ?_
   refine o9 I_2 Tryd.sizeOf29 (vs := [(vi 32)]) (cs' := [(vi (IntKind.wrap .i64 (x0.fnodes + 1))), (vi x0.fdepth), (vi 32), (vB x0.fform), (vB x0.fnamed), (vs T8)]) rfl rfl (nb rfl) rfl rfl fun w_7 I_8 k_9 => ?_
   exact hR false (g8.mk (IntKind.wrap .i64 (x0.fnodes + 1)) x0.fdepth 32 x0.fform x0.fnamed (Sl.mk none 0 0)) V4 T8 a2i H _ b0r ((I_8.bring 1).bring 1) h
  ·replace h := h.2 b7f
   refine a7 (p7 _) ?_
   refine a7 b6q ?_
   refine b6 (ld1 Tryd.isAgg3 (I_2.at1 (o := 1) (vs := [(vi x0.fdepth)]) (nb rfl) rfl)) ?_
   refine a7 (e7j _ _ _ _ _) ?_
   refine a7 (p7 _) ?_
   refine a7 b6q ?_
   refine o9 I_2 Tryd.sizeOf3 (vs := [(vi (if x2 > x0.fdepth then x2 else x0.fdepth))]) (cs' := [(vi (IntKind.wrap .i64 (x0.fnodes + 1))), (vi (if x2 > x0.fdepth then x2 else x0.fdepth)), (vi x0.fe), (vB x0.fform), (vB x0.fnamed), (vs T8)]) rfl rfl (nb rfl) rfl rfl fun o0 a5j c0r => ?_
   refine a7 (p7 _) ?_
   refine a7 b0E ?_
   refine b6 (ld1 Tryd.isAgg4 (a5j.at1 (o := 3) (vs := [(vB x0.fform)]) (nb rfl) rfl)) ?_
   simp only [L2]
   refine a3y (D := fun d5K p5 => ∃ (D4 : Bool) (b4w : Hp), d5K = (gv x0.fform false (vB D4)) ∧ (Inv w0 ps0 H0 b4w [bx g0 106 [(vi (IntKind.wrap .i64 (x0.fnodes + 1))), (vi (if x2 > x0.fdepth then x2 else x0.fdepth)), (vi x0.fe), (vB x0.fform), (vB x0.fnamed), (vs T8)], a2i] p5) ∧ (∀ i, i < o0.heap.size → ¬ inF [] i → p5.heap[i]? = o0.heap[i]?) ∧ Hle H b4w ∧ (a0M x1 b4w (fun (a2A : ByteArray) (b2O : Bool) (a9o : Hp) =>
 (b2O = true →
 TG (x0.fnamed = false) (a2u a2A a9o) false a9o (fun (a1N : Bool) (b0O : Hp) =>
 K6 V4 a2A b0O (fun (a3j : Bool) (a4J : Hp) =>
 ((!a3j) = true →
 (V4.length + ([a2A] : List ByteArray).length) * 17 ≤ 140737488355328 ∧
 u0 (IntKind.wrap .i64 (x0.fnodes + 1)) (if x2 > x0.fdepth then x2 else x0.fdepth) x0.fe (x0.fform || (!D4)) (x0.fnamed || (!a1N)) (V4 ++ [a2A]) a4J K) ∧
 ((!a3j) = false →
 u0 (IntKind.wrap .i64 (x0.fnodes + 1)) (if x2 > x0.fdepth then x2 else x0.fdepth) x0.fe (x0.fform || (!D4)) (x0.fnamed || (!a1N)) V4 a4J K)))) ∧
 (b2O = false →
 u0 (IntKind.wrap .i64 (x0.fnodes + 1)) (if x2 > x0.fdepth then x2 else x0.fdepth) x0.fe (x0.fform || (!D4)) x0.fnamed V4 a9o K)))) (fun c4y => ?_) (fun c4y => ?_) ?_
   ·replace h := h.1 c4y
    have b7 := c4y
    simp only [l9 b7]
    refine b1h a5j h (fun D4 b4w p5 c3T c0n d5E h => ?_)
    exact ⟨D4, b4w, by rfl, c3T, d5E, c0n, h⟩
   ·exact ⟨false, H, by rw [a6p c4y], a5j, fun _ _ _ => rfl, Hle.refl _, h.2 c4y⟩
   ·clear h
    rintro d5K p5 ⟨D4, b4w, rfl, c3T, d5E, c0n, h⟩
    refine a7 (Pu.g fun hb => by have b7 := hb; simp only [l9 b7]; exact (V5 _)) ?_
    refine a7 (Q5 _ _) ?_
    refine a7 (p7 _) ?_
    refine a7 b0E ?_
    refine o9 c3T Tryd.sizeOf4 (vs := [(vB (x0.fform || (!D4)))]) (cs' := [(vi (IntKind.wrap .i64 (x0.fnodes + 1))), (vi (if x2 > x0.fdepth then x2 else x0.fdepth)), (vi x0.fe), (vB (x0.fform || (!D4))), (vB x0.fnamed), (vs T8)]) rfl rfl (nb rfl) rfl rfl fun a5U c9v g5b => ?_
    have hj1 : ∀ (a8p : Int) (a8q : Int) (a8r : Int) (a8s : Bool) (a8t : Bool) (a6K : (List ByteArray)) (b2P : Sl) (b2Q : Frag) (H : Hp) (w : World) (_ : RowL 9 1 C9 b2P a6K b2Q) (_ : Inv w0 ps0 H0 H [bx g0 106 [(vi a8p), (vi a8q), (vi a8r), (vB a8s), (vB a8t), (vs b2P)], b2Q] w) (_ : u0 a8p a8q a8r a8s a8t a6K H K), b9O w R E := by
     intro a8p a8q a8r a8s a8t a6K b2P b2Q H w d6A I h
     unfold b9O
     intro _
     unfold u0 at h
     exact hR true (g8.mk a8p a8q a8r a8s a8t (Sl.mk none 0 0)) a6K b2P b2Q H _ d6A ((I.bring 1).bring 1) h
    refine u7 fun j1 hx1 => ?_
    refine d5 (cap := []) (fun args w => Tryd.call118 args w) ?_
    refine m8 (Fi := []) (Fr := [bx g0 106 [(vi (IntKind.wrap .i64 (x0.fnodes + 1))), (vi (if x2 > x0.fdepth then x2 else x0.fdepth)), (vi x0.fe), (vB (x0.fform || (!D4))), (vB x0.fnamed), (vs T8)], a2i]) c9v (h) (fun g9S a9o c0s a4C c9M g9T g9U g5B => ?_) (fun _ _ _ _ _ q => q.elim)
    obtain ⟨a2A, b2O, rfl, rfl, h⟩ := g5B
    refine a7 (m3 _ _ (Value.string a2A) rfl) ?_
    refine a7 (m3 _ _ (vB b2O) rfl) ?_
    refine o4 (fun b7h => ?_) (fun b7h => ?_)
    ·replace h := h.1 b7h
     refine a7 (p7 _) ?_
     refine a7 b0F ?_
     refine b6 (ld1 Tryd.isAgg4 (c9M.at1 (o := 4) (vs := [(vB x0.fnamed)]) (nb rfl) rfl)) ?_
     simp only [L2]
     refine a3y (D := fun d6B C3 => ∃ (a1N : Bool) (b0O : Hp) , d6B = (gv x0.fnamed false (vB a1N)) ∧ (Inv w0 ps0 H0 b0O [bx g0 106 [(vi (IntKind.wrap .i64 (x0.fnodes + 1))), (vi (if x2 > x0.fdepth then x2 else x0.fdepth)), (vi x0.fe), (vB (x0.fform || (!D4))), (vB x0.fnamed), (vs T8)], a2i] C3) ∧ (∀ i, i < a4C.heap.size → ¬ inF [] i → C3.heap[i]? = a4C.heap[i]?) ∧ Hle a9o b0O ∧ (K6 V4 a2A b0O (fun (a3j : Bool) (a4J : Hp) =>
 ((!a3j) = true →
 (V4.length + ([a2A] : List ByteArray).length) * 17 ≤ 140737488355328 ∧
 u0 (IntKind.wrap .i64 (x0.fnodes + 1)) (if x2 > x0.fdepth then x2 else x0.fdepth) x0.fe (x0.fform || (!D4)) (x0.fnamed || (!a1N)) (V4 ++ [a2A]) a4J K) ∧
 ((!a3j) = false →
 u0 (IntKind.wrap .i64 (x0.fnodes + 1)) (if x2 > x0.fdepth then x2 else x0.fdepth) x0.fe (x0.fform || (!D4)) (x0.fnamed || (!a1N)) V4 a4J K)))) (fun c4z => ?_) (fun c4z => ?_) ?_
     ·replace h := h.1 c4z
      have b7 := c4z
      simp only [l9 b7]
      refine d5 (cap := []) (fun args w => Tryd.call119 args w) ?_
      refine m8 (Fi := []) (Fr := [bx g0 106 [(vi (IntKind.wrap .i64 (x0.fnodes + 1))), (vi (if x2 > x0.fdepth then x2 else x0.fdepth)), (vi x0.fe), (vB (x0.fform || (!D4))), (vB x0.fnamed), (vs T8)], a2i]) c9M (h) (fun d6B b0O g9V C3 c3Z f1Q f1R g5C => ?_) (fun _ _ _ _ _ q => q.elim)
      obtain ⟨a1N, rfl, rfl, h⟩ := g5C
      exact ⟨a1N, b0O, by rfl, c3Z, f1R, f1Q, h⟩
     ·exact ⟨false, a9o, by rw [a6p c4z], c9M, fun _ _ _ => rfl, Hle.refl _, h.2 c4z⟩
     ·clear h
      rintro d6B C3 ⟨a1N, b0O, rfl, c3Z, f1R, f1Q, h⟩
      refine a7 (Pu.g fun hb => by have b7 := hb; simp only [l9 b7]; exact (V5 _)) ?_
      refine a7 (Q5 _ _) ?_
      refine a7 (p7 _) ?_
      refine a7 b0F ?_
      refine o9 c3Z Tryd.sizeOf4 (vs := [(vB (x0.fnamed || (!a1N)))]) (cs' := [(vi (IntKind.wrap .i64 (x0.fnodes + 1))), (vi (if x2 > x0.fdepth then x2 else x0.fdepth)), (vi x0.fe), (vB (x0.fform || (!D4))), (vB (x0.fnamed || (!a1N))), (vs T8)]) rfl rfl (nb rfl) rfl rfl fun E3 c9x g5e => ?_
      refine a7 (p7 _) ?_
      refine a7 b0G ?_
      refine b6 (ld1 Tryd.isAgg104 (c9x.at1 (o := 5) (vs := [(vs T8)]) (nb rfl) rfl)) ?_
      refine d5 (cap := []) (fun args w => Tryd.call120 args w) ?_
      refine m8 (Fi := [a2i]) (Fr := [bx g0 106 [(vi (IntKind.wrap .i64 (x0.fnodes + 1))), (vi (if x2 > x0.fdepth then x2 else x0.fdepth)), (vi x0.fe), (vB (x0.fform || (!D4))), (vB (x0.fnamed || (!a1N))), (vs T8)]]) (c9x.bring 1) (h T8 a2i b0r) (fun g5t a4J g5u G7 c0w g5v g5w d6l => ?_) (fun _ _ _ _ _ q => q.elim)
      obtain ⟨a3j, rfl, rfl, h⟩ := d6l
      refine a7 (V5 _) ?_
      refine o4 (fun b7c => ?_) (fun b7c => ?_)
      ·replace h := h.1 b7c
       refine a7 (p7 _) ?_
       refine a7 b0G ?_
       refine b6 (ld1 Tryd.isAgg104 ((c0w.bring 1).at1 (o := 5) (vs := [(vs T8)]) (nb rfl) rfl)) ?_
       refine a1Q (e := 9) (c := C9) (xs := [a2A]) c0w (d5w _) rfl rfl b6r b6s (nb rfl) fun a9p f1S b2H d6C c9N g5D => ?_
       obtain ⟨g5E, h⟩ := h
       refine e1B (s := T8) (xs := V4) (c9N.bring 1) b0r (d6C.srcO ((c9N.bring 1).bring 1)) g5E fun d6D g5F d6E d6F g5G g9W => ?_
       refine a7 (p7 _) ?_
       refine a7 b0G ?_
       refine o9 ((g5G.bring 1).drop.bring 1) Tryd.sizeOf104 (vs := [(vs d6D)]) (cs' := [(vi (IntKind.wrap .i64 (x0.fnodes + 1))), (vi (if x2 > x0.fdepth then x2 else x0.fdepth)), (vi x0.fe), (vB (x0.fform || (!D4))), (vB (x0.fnamed || (!a1N))), (vs d6D)]) rfl rfl (nb rfl) rfl rfl fun O9 g5H g9X => ?_
       exact hx1 _ _ (hj1 (IntKind.wrap .i64 (x0.fnodes + 1)) (if x2 > x0.fdepth then x2 else x0.fdepth) x0.fe (x0.fform || (!D4)) (x0.fnamed || (!a1N)) (V4 ++ [a2A]) d6D g5F a4J _ d6F ((g5H.bring 1).bring 1) h)
      ·replace h := h.2 b7c
       exact hx1 _ _ (hj1 (IntKind.wrap .i64 (x0.fnodes + 1)) (if x2 > x0.fdepth then x2 else x0.fdepth) x0.fe (x0.fform || (!D4)) (x0.fnamed || (!a1N)) V4 T8 a2i a4J _ b0r (c0w.bring 1) h)
    ·replace h := h.2 b7h
     exact hx1 _ _ (hj1 (IntKind.wrap .i64 (x0.fnodes + 1)) (if x2 > x0.fdepth then x2 else x0.fdepth) x0.fe (x0.fform || (!D4)) x0.fnamed V4 T8 a2i a9o _ b0r ((c9M.bring 1).bring 1) h)
theorem a7C (x0 : g8) (V4 : (List ByteArray)) (x1 : a8) (x2 : Int) {H : Hp} {K : Bool → g8 → (List ByteArray) → Hp → Prop} (h : U9 x0 V4 x1 x2 H K) : a0Q x0 V4 x1 x2 H K := by
 intro g0 T8 a2i b0r w I
 refine e1M ?_
 refine a7k x0 V4 x1 x2 g0 T8 a2i b0r I (fun r0 y0 a5e a2X a2Y H' w' c4w I' hk => ⟨H', _, I', r0, y0, a5e, a2X, a2Y, rfl, rfl, c4w, hk⟩) h
def B7 (g9Y : Sl) (c0x : Int) (g9Z : Sl) (e0o : Int) (c9O : Int) (H : Hp) (n4 : (Int × Int) → Hp → Prop) (K : Sl → Hp → Prop) : Prop :=
 n4 (c0x, (IntKind.wrap .i64 (c9O + 1))) H
def B8 (b8B : (List a8)) (H : Hp) (K : Sl → Hp → Prop) : Prop :=
 ∀ (a7c : Sl) (b2R : Hp), Hle H b2R → SlH b2R 1 o7 a7c b8B → a7c.n ≤ a7c.c →
 K a7c b2R
def B9 (e0p : Sl) (e0q : Int) (a3k : (List a8)) (a2B : Int) (H : Hp) (n3 : ((List a8) × Int) → Hp → Prop) (K : Sl → Hp → Prop) : Prop :=
 (a2B < e0q →
 (0 : Int) ≤ a2B ∧ (a2B : Int) < e0p.n ∧ ∃ c9P : Sl, EltH H e0p a2B 1 [(vs c9P)] ∧
 ∃ b8C : List a8, SlH H 1 o7 c9P b8C ∧ (a3k.length + b8C.length) * 17 ≤ 140737488355328 ∧
 n3 ((a3k ++ b8C), (IntKind.wrap .i64 (a2B + 1))) H) ∧
 (¬ (a2B < e0q) →
 B8 a3k H K)
def C0 (c9Q : Sl) (a8Z : Int) (H : Hp) (K : Sl → Hp → Prop) : Prop :=
 O2 a8Z H (fun (c9R : (List a8)) (H_9 : Hp) =>
 TL ((c9R, 0) : (List a8) × Int) H_9 fun (s : (List a8) × Int) H n3 => B9 c9Q (c9Q.n : Int) s.1 s.2 H n3 K)
def C1 (f1T : Sl) (d6G : Sl) (c9S : Int) (a6j : Int) (a2l : Int) (H : Hp) (n4 : (Int × Int) → Hp → Prop) (K : Sl → Hp → Prop) : Prop :=
 (a2l < c9S →
 (0 : Int) ≤ a2l ∧ (a2l : Int) < d6G.n ∧ ∃ x_1 : Sl, EltH H d6G a2l 1 [(vs x_1)] ∧
 ((IntKind.wrap .i64 (a6j + (x_1.n : Int))) < 0 →
 False) ∧
 (¬ ((IntKind.wrap .i64 (a6j + (x_1.n : Int))) < 0) →
 B7 f1T (IntKind.wrap .i64 (a6j + (x_1.n : Int))) d6G c9S a2l H n4 K)) ∧
 (¬ (a2l < c9S) →
 C0 f1T a6j H K)
def C7 (x0 : Sl) (H : Hp) (K : Sl → Hp → Prop) : Prop :=
 TL ((0, 0) : Int × Int) H fun (s : Int × Int) H n4 => C1 x0 x0 (x0.n : Int) s.1 s.2 H n4 K
theorem a1s (x0 : Sl) {K : Sl → Hp → Prop} (I : Inv w0 ps0 H0 H [] w) (hR : ∀ (r0 : Sl) (H' : Hp) (w' : World) (_ : Inv w0 ps0 H0 H' [] w') (_ : K r0 H'), R (vs r0) w') (h : C7 x0 H K) : F87 (vs x0) w R E := by
 unfold C7 at h
 unfold F87
 have hj1 : ∀ (a8Z : Int) (H : Hp) (w : World) (_ : Inv w0 ps0 H0 H [] w) (_ : C0 x0 a8Z H K), c2U (vs x0) (vi a8Z) w R E := by
  intro a8Z H w I h
  unfold c2U
  intro _
  unfold C0 at h
  refine d5 (cap := []) (fun args w => Tryd.call117 args w) ?_
  refine m8 (Fi := []) (Fr := []) I (h) (fun h0a H_9 h0b o0 a5j d6z c0r g5I => ?_) (fun _ _ _ _ _ q => q.elim)
  obtain ⟨c9R, f1U, f1V, rfl, rfl, f1W, h⟩ := g5I
  have hj2 : ∀ (b8B : (List a8)) (a7c : Sl) (Fs6j2 : Frag) (H : Hp) (w : World) (_ : RowL 152 1 o7 a7c b8B Fs6j2) (_ : Inv w0 ps0 H0 H [Fs6j2] w) (_ : B8 b8B H K), c2T (vs a7c) w R E := by
   intro b8B a7c Fs6j2 H w g1I I h
   unfold c2T
   intro _
   unfold B8 at h
   obtain ⟨b2R, a7z, f1X, b2y, d6H⟩ := Inv.freezeC I g1I (by decide)
   replace h := h a7c b2R f1X b2y d6H
   exact hR a7c b2R _ a7z h
  refine u7 fun j2 hx2 => ?_
  refine a7 (b8d _ _ _) ?_
  obtain ⟨d6I, c4A, g5J, g5K⟩ := h
  refine H7 (J := fun n l w => ∃ (s : (List a8) × Int) (H : Hp) (b8D : Sl) (Fs6l3 : Frag) , n = c4A s ∧ l = (match s with | (a3k, a2B) => [(vs b8D), (vi a2B)]) ∧ (match s with | (a3k, a2B) => RowL 152 1 o7 b8D a3k Fs6l3) ∧ (match s with | (a3k, a2B) => Inv w0 ps0 H0 H [Fs6l3] w) ∧ d6I s H) ⟨_, (c9R, 0), H_9, f1U, f1V, rfl, rfl, f1W, a5j, g5J⟩ ?_
  rintro h0c τ_46 w next3 ⟨⟨a3k, a2B⟩, H, b8D, Fs6l3, rfl, d6J, c9T, I, g5L⟩ hn3
  dsimp only at d6J I c9T
  simp only [List.map_cons, List.map_nil, List.cons.injEq, and_true] at d6J
  obtain ⟨e6, e27⟩ := d6J
  simp only [e6, e27]
  obtain ⟨n3, hm3, h⟩ : ∃ n3 : ((List a8) × Int) → Hp → Prop, (∀ s' H', n3 s' H' → d6I s' H' ∧ c4A s' < c4A (a3k, a2B)) ∧ B9 x0 (x0.n : Int) a3k a2B H n3 K := ⟨_, fun _ _ h => h, g5K (a3k, a2B) H (fun s' H' => d6I s' H' ∧ c4A s' < c4A (a3k, a2B)) g5L (fun _ _ a b => ⟨a, b⟩)⟩
  unfold d2k
  unfold B9 at h
  refine a7 (A7 _ _ _ _ _ _) ?_
  refine i5 (fun d6K => ?_) (fun d6K => ?_)
  ·replace h := h.1 d6K
   obtain ⟨d6L, d6M, c9P, b7j, h⟩ := h
   obtain ⟨f1w, h0d, d6N, b7j⟩ := b7j
   refine a7 (c1p d6N _ _ _ _ d6L d6M) ?_
   refine b6 (ld1 (v := (vs c9P)) Tryd.isAgg124 (I.atH b7j)) ?_
   obtain ⟨b8C, c4B, h⟩ := h
   obtain ⟨d6O, h⟩ := h
   refine b1d (s := b8D) (xs := a3k) I c9T (SlH.src I c4B N5) d6O fun b2x c0s C8 a8U a4H c4b => ?_
   refine a7 (C6 _ _ _ _ _ _) ?_
   exact hn3 _ _ _ (hm3 _ _ h).2 ⟨((a3k ++ b8C), (IntKind.wrap .i64 (a2B + 1))), H, b2x, c0s, rfl, rfl, a8U, a4H, (hm3 _ _ h).1⟩
  ·replace h := h.2 d6K
   exact hx2 _ _ (hj2 a3k b8D Fs6l3 H _ c9T I h)
 refine u7 fun j1 hx1 => ?_
 refine a7 (b8d _ _ _) ?_
 obtain ⟨d6P, c4C, g5M, g5N⟩ := h
 refine H7 (J := fun n l w => ∃ (s : Int × Int) (H : Hp) , n = c4C s ∧ l = (match s with | (a6j, a2l) => [(vi a6j), (vi a2l)]) ∧ (match s with | (a6j, a2l) => Inv w0 ps0 H0 H [] w) ∧ d6P s H) ⟨_, (0, 0), H, rfl, rfl, I, g5M⟩ ?_
 rintro h0e τ_55 w next4 ⟨⟨a6j, a2l⟩, H, rfl, c0y, I, g5O⟩ hn4
 dsimp only at c0y I
 simp only [List.map_cons, List.map_nil, List.cons.injEq, and_true] at c0y
 obtain ⟨e3, e11⟩ := c0y
 simp only [e3, e11]
 obtain ⟨n4, hm4, h⟩ : ∃ n4 : (Int × Int) → Hp → Prop, (∀ s' H', n4 s' H' → d6P s' H' ∧ c4C s' < c4C (a6j, a2l)) ∧ C1 x0 x0 (x0.n : Int) a6j a2l H n4 K := ⟨_, fun _ _ h => h, g5N (a6j, a2l) H (fun s' H' => d6P s' H' ∧ c4C s' < c4C (a6j, a2l)) g5O (fun _ _ a b => ⟨a, b⟩)⟩
 unfold d2l
 unfold C1 at h
 refine a7 (A7 _ _ _ _ _ _) ?_
 refine i5 (fun d6Q => ?_) (fun d6Q => ?_)
 ·replace h := h.1 d6Q
  have hj5 : ∀ (c0x : Int) (H : Hp) (w : World) (_ : Inv w0 ps0 H0 H [] w) (_ : B7 x0 c0x x0 (x0.n : Int) a2l H n4 K), c2V (vs x0) (vi c0x) (vs x0) (vi (x0.n : Int)) (vi a2l) w next4 R E := by
   intro c0x H w I h
   unfold c2V
   intro _
   unfold B7 at h
   refine a7 (C6 _ _ _ _ _ _) ?_
   exact hn4 _ _ _ (hm4 _ _ h).2 ⟨(c0x, (IntKind.wrap .i64 (a2l + 1))), H, rfl, rfl, I, (hm4 _ _ h).1⟩
  refine u7 fun j5 hx5 => ?_
  obtain ⟨h_4, h_5, x_1, h_7, h⟩ := h
  obtain ⟨g_2, o_3, h_6, h_7⟩ := h_7
  refine a7 (c1p h_6 _ _ _ _ h_4 h_5) ?_
  refine b6 (ld1 (v := (vs x_1)) Tryd.isAgg124 (I.atH h_7)) ?_
  refine a7 (a7S _ _ _) ?_
  refine a7 (C6 _ _ _ _ _ _) ?_
  refine a7 (A7 _ _ _ _ _ _) ?_
  refine i5 (fun c_8 => ?_) (fun c_8 => ?_)
  ·replace h := h.1 c_8
   refine a7 (d2h _) ?_
   exact h.elim
  ·replace h := h.2 c_8
   exact hx5 _ _ (hj5 (IntKind.wrap .i64 (a6j + (x_1.n : Int))) H _ I h)
 ·replace h := h.2 d6Q
  exact hx1 _ _ (hj1 a6j H _ I h)
theorem a1A (x0 : Sl) {H : Hp} {K : Sl → Hp → Prop} (h : C7 x0 H K) : A0 x0 H K := by
 intro w I
 refine e7Y ?_
 refine a1s x0 I (fun r0 H' w' I' hk => ⟨H', _, I', r0, rfl, rfl, hk⟩) h
def z7 (X8 : (List a8)) (H : Hp) (K : Sl → Hp → Prop) : Prop :=
 ∀ (E9 : Sl) (a0o : Hp), Hle H a0o → SlH a0o 1 o7 E9 X8 → E9.n ≤ E9.c →
 K E9 a0o
def z8 (a0S : Sl) (a0p : Int) (t8 : (List a8)) (r8 : Int) (H : Hp) (n2 : ((List a8) × Int) → Hp → Prop) (K : Sl → Hp → Prop) : Prop :=
 (r8 < a0p →
 (0 : Int) ≤ r8 ∧ (r8 : Int) < a0S.n ∧ ∃ x_1 : l7, EltH H a0S r8 4 (d9 x_1) ∧
 a6e x_1 H (fun (Q8 : a8) (a2O : Hp) =>
 (t8.length + ([Q8] : List a8).length) * 17 ≤ 140737488355328 ∧
 n2 ((t8 ++ [Q8]), (IntKind.wrap .i64 (r8 + 1))) a2O)) ∧
 (¬ (r8 < a0p) →
 z7 t8 H K)
def B2 (x0 : Sl) (H : Hp) (K : Sl → Hp → Prop) : Prop :=
 TL (([], 0) : (List a8) × Int) H fun (s : (List a8) × Int) H n2 => z8 x0 (x0.n : Int) s.1 s.2 H n2 K
theorem a0h (x0 : Sl) {K : Sl → Hp → Prop} (I : Inv w0 ps0 H0 H [] w) (hR : ∀ (r0 : Sl) (H' : Hp) (w' : World) (_ : Inv w0 ps0 H0 H' [] w') (_ : K r0 H'), R (vs r0) w') (h : B2 x0 H K) : c9e (vs x0) (fC 172) w R E := by
 unfold B2 at h
 unfold c9e
 have hj1 : ∀ (X8 : (List a8)) (E9 : Sl) (Fs5j1 : Frag) (H : Hp) (w : World) (_ : RowL 152 1 o7 E9 X8 Fs5j1) (_ : Inv w0 ps0 H0 H [Fs5j1] w) (_ : z7 X8 H K), c0i (vs E9) w R E := by
  intro X8 E9 Fs5j1 H w b2v I h
  unfold c0i
  intro _
  unfold z7 at h
  obtain ⟨a0o, a6B, b4o, a6C, a7y⟩ := Inv.freezeC I b2v (by decide)
  replace h := h E9 a0o b4o a6C a7y
  exact hR E9 a0o _ a6B h
 refine u7 fun j1 hx1 => ?_
 refine a7 (a2R _ _ _) ?_
 obtain ⟨a5h, a1H, b6O, b6P⟩ := h
 refine H7 (J := fun n l w => ∃ (s : (List a8) × Int) (H : Hp) (X9 : Sl) (Fs5l2 : Frag) , n = a1H s ∧ l = (match s with | (t8, r8) => [(vs X9), (vi r8)]) ∧ (match s with | (t8, r8) => RowL 152 1 o7 X9 t8 Fs5l2) ∧ (match s with | (t8, r8) => Inv w0 ps0 H0 H [Fs5l2] w) ∧ a5h s H) ⟨_, ([], 0), H, (Sl.mk none 0 0), [], rfl, rfl, (RowL.nil N5 Q3), I.nil, b6O⟩ ?_
 rintro d5R τ_50 w next2 ⟨⟨t8, r8⟩, H, X9, Fs5l2, rfl, a5i, a3f, I, b6Q⟩ hn2
 dsimp only at a5i I a3f
 simp only [List.map_cons, List.map_nil, List.cons.injEq, and_true] at a5i
 obtain ⟨e5, e10⟩ := a5i
 simp only [e5, e10]
 obtain ⟨n2, hm2, h⟩ : ∃ n2 : ((List a8) × Int) → Hp → Prop, (∀ s' H', n2 s' H' → a5h s' H' ∧ a1H s' < a1H (t8, r8)) ∧ z8 x0 (x0.n : Int) t8 r8 H n2 K := ⟨_, fun _ _ h => h, b6P (t8, r8) H (fun s' H' => a5h s' H' ∧ a1H s' < a1H (t8, r8)) b6Q (fun _ _ a b => ⟨a, b⟩)⟩
 unfold c7K
 unfold z8 at h
 refine a7 (A7 _ _ _ _ _ _) ?_
 refine i5 (fun a3e => ?_) (fun a3e => ?_)
 ·replace h := h.1 a3e
  obtain ⟨h_4, h_5, x_1, h_7, h⟩ := h
  obtain ⟨g_2, o_3, h_6, h_7⟩ := h_7
  refine a7 (a1C h_6 _ _ _ _ h_4 h_5) ?_
  refine b6 (ldA (vs := (d9 x_1)) Tryd.isAgg24 Tryd.sizeOf24 rfl (I.atH h_7)) ?_
  refine C2 I Tryd.zeroValue24 (cs := [(vi 0), (vi 0), (eS), (nS)]) rfl fun g_9 o0 a5j c0r => ?_
  refine o9 a5j Tryd.sizeOf24 (vs := (d9 x_1)) (cs' := (d9 x_1)) rfl rfl (nb rfl) rfl rfl fun T6 Y0 a3g => ?_
  refine b6 (ldA Tryd.isAgg24 Tryd.sizeOf24 rfl (Y0.at1 (o := 0) (vs := (d9 x_1)) (nb rfl) rfl)) ?_
  refine d5 (cap := []) (fun args w => Tryd.call172 args w) ?_
  refine m8 (Fi := []) (Fr := [bx g_9 24 (d9 x_1), Fs5l2]) Y0 (h) (fun c9y a2O c9z a3F a5g c9A c9B b2w => ?_) (fun _ _ _ _ _ q => q.elim)
  obtain ⟨Q8, rfl, rfl, h⟩ := b2w
  refine a1Q (e := 152) (c := o7) (xs := [Q8]) a5g (b1Z _) rfl rfl N5 Q3 (nb rfl) fun b2x c0s C8 a8U a4H c4b => ?_
  obtain ⟨b2y, h⟩ := h
  refine b1d (s := X9) (xs := t8) (a4H.bring 2) a3f (a8U.srcO ((a4H.bring 2).bring 1)) b2y fun b6R b6S D3 a6z a7z c9C => ?_
  refine a7 (C6 _ _ _ _ _ _) ?_
  exact hn2 _ _ _ (hm2 _ _ h).2 ⟨((t8 ++ [Q8]), (IntKind.wrap .i64 (r8 + 1))), a2O, b6R, b6S, rfl, rfl, a6z, ((a7z.bring 1).drop.bring 1).drop, (hm2 _ _ h).1⟩
 ·replace h := h.2 a3e
  exact hx1 _ _ (hj1 t8 X9 Fs5l2 H _ a3f I h)
theorem a0y (x0 : Sl) {H : Hp} {K : Sl → Hp → Prop} (h : B2 x0 H K) : t1 x0 H K := by
 intro w I
 refine e2p ?_
 refine a0h x0 I (fun r0 H' w' I' hk => ⟨H', _, I', r0, rfl, rfl, hk⟩) h
def Y5 (x0 : L5) (H : Hp) (K : Sl → Hp → Prop) : Prop :=
 A8 x0.d8.s6 H (fun (a6h : Sl) (H_8 : Hp) =>
 t1 x0.d8.j7 H_8 (fun (a6i : Sl) (b4p : Hp) =>
 s8 x0.d8.K3 b4p (fun (c9U : Sl) (f1Y : Hp) =>
 s8 x0.d8.H9 f1Y (fun (c9V : Sl) (b2R : Hp) =>
 ∀ (c0z : Sl) (c4D : Hp), Hle b2R c4D → SlH c4D 1 csl c0z [a6h, a6i, c9U, c9V] → c0z.n ≤ c0z.c →
 A0 c0z c4D (fun (c9W : Sl) (d6R : Hp) =>
 K c9W d6R)))))
theorem a8b (x0 : L5) {K : Sl → Hp → Prop} (I : Inv w0 ps0 H0 H [] w) (hR : ∀ (r0 : Sl) (H' : Hp) (w' : World) (_ : Inv w0 ps0 H0 H' [] w') (_ : K r0 H'), R (vs r0) w') (h : Y5 x0 H K) : c9o (Value.agg (g7 x0.d8).toArray) w R E := by
 unfold Y5 at h
 unfold c9o
 refine O4 I (cs := (g7 x0.d8)) rfl fun g_2 w_3 I_4 k_5 => ?_
 refine V2 I_4 fun w_6 I_7 => ?_
 refine i8 K5 ?_
 refine i8 a7R ?_
 refine i8 K5 ?_
 refine i8 a5K ?_
 refine i8 K5 ?_
 refine i8 a5L ?_
 refine i8 K5 ?_
 refine i8 a5M ?_
 refine r5 (ld1 Tryd.isAgg25 (I_7.at1 (o := 3) (vs := [(vs x0.d8.s6)]) (nb rfl) rfl)) ?_
 refine r5 (ld1 Tryd.isAgg22 (I_7.at1 (o := 2) (vs := [(vs x0.d8.j7)]) (nb rfl) rfl)) ?_
 refine r5 (ld1 Tryd.isAgg42 (I_7.at1 (o := 4) (vs := [(vs x0.d8.K3)]) (nb rfl) rfl)) ?_
 refine r5 (ld1 Tryd.isAgg42 (I_7.at1 (o := 5) (vs := [(vs x0.d8.H9)]) (nb rfl) rfl)) ?_
 refine d5 (cap := []) (fun args w => Tryd.call175 args w) ?_
 refine m8 (Fi := []) (Fr := [bx g_2 179 (g7 x0.d8)]) I_7 (h) (fun f1A H_8 f1B w_9 b2B f1C b6T c4c => ?_) (fun _ _ _ _ _ q => q.elim)
 obtain ⟨a6h, rfl, rfl, h⟩ := c4c
 refine ⟨(b6T _ I_7.lt1 (Inv.a5H (Fi := []) I_7)), (b6T _ I_7.lt1 (Inv.a5H (Fi := []) I_7)), (b6T _ I_7.lt1 (Inv.a5H (Fi := []) I_7)), ?_⟩
 refine d5 (cap := []) (fun args w => Tryd.call171 args w) ?_
 refine m8 (Fi := []) (Fr := [bx g_2 179 (g7 x0.d8)]) b2B (h) (fun f1D b4p f1E r7 a8W f1F c0u c4d => ?_) (fun _ _ _ _ _ q => q.elim)
 obtain ⟨a6i, rfl, rfl, h⟩ := c4d
 refine ⟨(c0u _ b2B.lt1 (Inv.a5H (Fi := []) b2B)), (c0u _ b2B.lt1 (Inv.a5H (Fi := []) b2B)), ?_⟩
 refine d5 (cap := []) (fun args w => Tryd.call90 args w) ?_
 refine m8 (Fi := []) (Fr := [bx g_2 179 (g7 x0.d8)]) a8W (h) (fun h0f f1Y h0g a3N b2n c4E f1Z g5P => ?_) (fun _ _ _ _ _ q => q.elim)
 obtain ⟨c9U, rfl, rfl, h⟩ := g5P
 refine ⟨(f1Z _ a8W.lt1 (Inv.a5H (Fi := []) a8W)), ?_⟩
 refine d5 (cap := []) (fun args w => Tryd.call90 args w) ?_
 refine m8 (Fi := []) (Fr := [bx g_2 179 (g7 x0.d8)]) b2n (h) (fun h0h b2R h0i G6 g5Q h0j h0k g5R => ?_) (fun _ _ _ _ _ q => q.elim)
 obtain ⟨c9V, rfl, rfl, h⟩ := g5R
 refine a1Q (e := 124) (c := csl) (xs := [a6h, a6i, c9U, c9V]) g5Q (d5x _ _ _ _ _ _ _ _ _ _ _ _) rfl rfl b5m b5n (nb rfl) fun c0z h0l b9T g5S c4f f1H => ?_
 obtain ⟨c4D, b0P, g5T, c4r, g5U⟩ := Inv.freezeC c4f g5S (by decide)
 replace h := h c0z c4D g5T c4r g5U
 refine d5 (cap := []) (fun args w => Tryd.call87 args w) ?_
 refine m8 (Fi := []) (Fr := [bx g_2 179 (g7 x0.d8)]) b0P (h) (fun h0m d6R h0n d6S g5V h0o h0p g5W => ?_) (fun _ _ _ _ _ q => q.elim)
 obtain ⟨c9W, rfl, rfl, h⟩ := g5W
 exact hR c9W d6R _ g5V.drop h
theorem a9q (x0 : L5) {H : Hp} {K : Sl → Hp → Prop} (h : Y5 x0 H K) : a3S x0 H K := by
 intro w I
 refine e3h ?_
 refine a8b x0 I (fun r0 H' w' I' hk => ⟨H', _, I', r0, rfl, rfl, hk⟩) h
end Go.Proofs.YtnhkdkcgdcgmdaaDoor
