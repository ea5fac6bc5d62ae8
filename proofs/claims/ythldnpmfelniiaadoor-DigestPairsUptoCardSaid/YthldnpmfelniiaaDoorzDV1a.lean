/- Typed formulas of the program's functions, and the theorems that the contracts follow from them; printed by lift.py off the code. -/
import Derived.Test.YthldnpmfelniiaaDoorzDV1
namespace Go.Proofs.YthldnpmfelniiaaDoor
open Go.RowKit
set_option maxRecDepth 100000
set_option maxHeartbeats 2000000
def a1p (x0 : A4) (H : Hp) (K : b9 → Hp → Prop) : Prop :=
 K (b9.H9 (N8.mk x0)) H
theorem b1j (x0 : A4) {w0 w : World} {ps0 : Nat → Prop} {H0 H : Hp} {K : b9 → Hp → Prop} {R : Value → World → Prop} {E : Pan} (I : Inv w0 ps0 H0 H [] w) (hR : ∀ (r0 : b9) (H' : Hp) (w' : World) (_ : Inv w0 ps0 H0 H' [] w') (_ : K r0 H'), R (u2 r0) w') (h : a1p x0 H K) : F96 (Value.agg (k8 x0).toArray) w R E := by
 unfold a1p at h
 unfold F96
 refine D8 I (cs := (k8 x0)) rfl fun g_2 w_3 I_4 k_5 => ?_
 refine b7 (ldA Tryd.isAgg67 Tryd.sizeOf67 rfl (I_4.at1 (o := 0) (vs := (k8 x0)) (nb rfl) rfl)) ?_
 refine a8 (b9M _ _) ?_
 refine a8 (b7K (N8.mk x0)) ?_
 exact hR (b9.H9 (N8.mk x0)) H _ I_4.drop h
theorem b1U (x0 : A4) {H : Hp} {K : b9 → Hp → Prop} (h : a1p x0 H K) : a6i x0 H K := by
 intro w I
 refine e2O ?_
 refine b1j x0 I (fun r0 H' w' I' hk => ⟨H', _, I', r0, rfl, rfl, hk⟩) h
def a2Q (x0 : Int) (x1 : Int) (x2 : Int) (H : Hp) (K : Bool → Hp → Prop) : Prop :=
 K ((decide (x0 ≤ x2)) && (decide (x2 ≤ x1))) H
theorem b0v (x0 : Int) (x1 : Int) (x2 : Int) (g2 : Nat) {w0 w : World} {ps0 : Nat → Prop} {H0 H : Hp} {K : Bool → Hp → Prop} {R : Value → World → Prop} {E : Pan} (I : Inv w0 ps0 H0 H [bx g2 21 [(Value.int .i32 x2)]] w) (hR : ∀ (r0 : Bool) (H' : Hp) (w' : World) (_ : Inv w0 ps0 H0 H' [bx g2 21 [(Value.int .i32 x2)]] w') (_ : K r0 H'), R (Value.bool r0) w') (h : a2Q x0 x1 x2 H K) : c5e (Value.int .i32 x0) (Value.int .i32 x1) (Value.pointer (some ⟨g2, 0, none⟩)) w R E := by
 unfold a2Q at h
 unfold c5e
 refine b7 (ld1 Tryd.isAgg21 (I.at1 (o := 0) (vs := [(Value.int .i32 x2)]) (nb rfl) rfl)) ?_
 refine a8 (a4z _ _ _ _ _ _) ?_
 refine b7 (Ld.g fun hb => by have a7 := hb; first | exact (ld1 Tryd.isAgg21 (I.at1 (o := 0) (vs := [(Value.int .i32 x2)]) (nb rfl) rfl)) | (simp only [b5 a7, b3 a7, b3 hb, q8 a7]; exact (ld1 Tryd.isAgg21 (I.at1 (o := 0) (vs := [(Value.int .i32 x2)]) (nb rfl) rfl))) | (simp only [b5 a7, b3 a7, b3 hb, d9 a7, d6]; exact (ld1 Tryd.isAgg21 (I.at1 (o := 0) (vs := [(Value.int .i32 x2)]) (nb rfl) rfl)))) ?_
 try simp only [J1]
 refine a8 (Pu.g fun hb => by have a7 := hb; first | exact (a4z _ _ _ _ _ _) | (simp only [b3 a7]; exact (a4z _ _ _ _ _ _)) | (simp only [b5 a7, b3 a7, b3 hb, d9 a7, d6]; exact (a4z _ _ _ _ _ _))) ?_
 refine a8 (u5 _ _) ?_
 exact hR ((decide (x0 ≤ x2)) && (decide (x2 ≤ x1))) H _ I h
theorem b1k (x0 : Int) (x1 : Int) (x2 : Int) {H : Hp} {K : Bool → Hp → Prop} (h : a2Q x0 x1 x2 H K) : G8 x0 x1 x2 H K := by
 intro g2 w I
 refine d5S ?_
 refine b0v x0 x1 x2 g2 I (fun r0 H' w' I' hk => ⟨H', _, I', r0, rfl, rfl, hk⟩) h
def a2B (x0 : ByteArray) (H : Hp) (K : Bool → Hp → Prop) : Prop :=
 W6 x0 H (fun (T4 : Int) (H_1 : Hp) =>
 K (decide (32 < T4)) H_1)
theorem b3X (x0 : ByteArray) {w0 w : World} {ps0 : Nat → Prop} {H0 H : Hp} {K : Bool → Hp → Prop} {R : Value → World → Prop} {E : Pan} (I : Inv w0 ps0 H0 H [] w) (hR : ∀ (r0 : Bool) (H' : Hp) (w' : World) (_ : Inv w0 ps0 H0 H' [] w') (_ : K r0 H'), R (Value.bool r0) w') (h : a2B x0 H K) : c4Y (Value.string x0) w R E := by
 unfold a2B at h
 unfold c4Y
 refine d7 (cap := []) (fun args w => Tryd.call130 args w) ?_
 refine i6 (Fi := []) (Fr := []) I (h) (fun v_5 H_1 F_6 w_2 I_3 l_8 k_4 q_7 => ?_) (fun _ _ _ _ _ q => q.elim)
 obtain ⟨T4, rfl, rfl, h⟩ := q_7
 refine a8 (b0P _ _ _ _ _ _) ?_
 exact hR (decide (32 < T4)) H_1 _ I_3 h
theorem b5h (x0 : ByteArray) {H : Hp} {K : Bool → Hp → Prop} (h : a2B x0 H K) : a2z x0 H K := by
 intro w I
 refine d5G ?_
 refine b3X x0 I (fun r0 H' w' I' hk => ⟨H', _, I', r0, rfl, rfl, hk⟩) h
def k7 (r6 : Bool) (H : Hp) (K : Bool → Hp → Prop) : Prop :=
 (r6 = true →
 K true H) ∧
 (r6 = false →
 K false H)
def a2C (x0 : ByteArray) (H : Hp) (K : Bool → Hp → Prop) : Prop :=
 (x0 = ⟨#[118, 97, 114]⟩ →
 k7 (decide (x0 = ⟨#[118, 97, 114]⟩)) H K) ∧
 (¬ (x0 = ⟨#[118, 97, 114]⟩) →
 (x0 = ⟨#[97, 114, 114, 97, 121]⟩ →
 k7 (decide (x0 = ⟨#[97, 114, 114, 97, 121]⟩)) H K) ∧
 (¬ (x0 = ⟨#[97, 114, 114, 97, 121]⟩) →
 (x0 = ⟨#[105, 102]⟩ →
 k7 (decide (x0 = ⟨#[105, 102]⟩)) H K) ∧
 (¬ (x0 = ⟨#[105, 102]⟩) →
 (x0 = ⟨#[101, 108, 115, 101]⟩ →
 k7 (decide (x0 = ⟨#[101, 108, 115, 101]⟩)) H K) ∧
 (¬ (x0 = ⟨#[101, 108, 115, 101]⟩) →
 (x0 = ⟨#[119, 104, 105, 108, 101]⟩ →
 k7 (decide (x0 = ⟨#[119, 104, 105, 108, 101]⟩)) H K) ∧
 (¬ (x0 = ⟨#[119, 104, 105, 108, 101]⟩) →
 (x0 = ⟨#[97, 115, 115, 101, 114, 116]⟩ →
 k7 (decide (x0 = ⟨#[97, 115, 115, 101, 114, 116]⟩)) H K) ∧
 (¬ (x0 = ⟨#[97, 115, 115, 101, 114, 116]⟩) →
 (x0 = ⟨#[97, 115, 115, 117, 109, 101]⟩ →
 k7 (decide (x0 = ⟨#[97, 115, 115, 117, 109, 101]⟩)) H K) ∧
 (¬ (x0 = ⟨#[97, 115, 115, 117, 109, 101]⟩) →
 (x0 = ⟨#[115, 107, 105, 112]⟩ →
 k7 (decide (x0 = ⟨#[115, 107, 105, 112]⟩)) H K) ∧
 (¬ (x0 = ⟨#[115, 107, 105, 112]⟩) →
 (x0 = ⟨#[105, 110, 112, 117, 116]⟩ →
 k7 (decide (x0 = ⟨#[105, 110, 112, 117, 116]⟩)) H K) ∧
 (¬ (x0 = ⟨#[105, 110, 112, 117, 116]⟩) →
 (x0 = ⟨#[116, 114, 117, 101]⟩ →
 k7 (decide (x0 = ⟨#[116, 114, 117, 101]⟩)) H K) ∧
 (¬ (x0 = ⟨#[116, 114, 117, 101]⟩) →
 k7 (decide (x0 = ⟨#[102, 97, 108, 115, 101]⟩)) H K))))))))))
theorem b3Y (x0 : ByteArray) {w0 w : World} {ps0 : Nat → Prop} {H0 H : Hp} {K : Bool → Hp → Prop} {R : Value → World → Prop} {E : Pan} (I : Inv w0 ps0 H0 H [] w) (hR : ∀ (r0 : Bool) (H' : Hp) (w' : World) (_ : Inv w0 ps0 H0 H' [] w') (_ : K r0 H'), R (Value.bool r0) w') (h : a2C x0 H K) : c4Z (Value.string x0) w R E := by
 unfold a2C at h
 unfold c4Z
 have hj1 : ∀ (r6 : Bool) (H : Hp) (w : World) (_ : Inv w0 ps0 H0 H [] w) (_ : k7 r6 H K), b7S (Value.bool r6) w R E := by
  intro r6 H w I h
  unfold b7S
  intro _
  unfold k7 at h
  refine m5 (fun c_1 => ?_) (fun c_1 => ?_)
  ·replace h := h.1 c_1
   exact hR true H _ I h
  ·replace h := h.2 c_1
   exact hR false H _ I h
 refine t7 fun j1 hx1 => ?_
 refine a8 (T0 _ _ _ _ _) ?_
 refine h9 (fun d0U => ?_) (fun d0U => ?_)
 ·replace h := h.1 d0U
  exact hx1 _ _ (hj1 (decide (x0 = ⟨#[118, 97, 114]⟩)) H _ I h)
 ·replace h := h.2 d0U
  refine a8 (T0 _ _ _ _ _) ?_
  refine h9 (fun d0V => ?_) (fun d0V => ?_)
  ·replace h := h.1 d0V
   exact hx1 _ _ (hj1 (decide (x0 = ⟨#[97, 114, 114, 97, 121]⟩)) H _ I h)
  ·replace h := h.2 d0V
   refine a8 (T0 _ _ _ _ _) ?_
   refine h9 (fun c_9 => ?_) (fun c_9 => ?_)
   ·replace h := h.1 c_9
    exact hx1 _ _ (hj1 (decide (x0 = ⟨#[105, 102]⟩)) H _ I h)
   ·replace h := h.2 c_9
    refine a8 (T0 _ _ _ _ _) ?_
    refine h9 (fun c_8 => ?_) (fun c_8 => ?_)
    ·replace h := h.1 c_8
     exact hx1 _ _ (hj1 (decide (x0 = ⟨#[101, 108, 115, 101]⟩)) H _ I h)
    ·replace h := h.2 c_8
     refine a8 (T0 _ _ _ _ _) ?_
     refine h9 (fun c_7 => ?_) (fun c_7 => ?_)
     ·replace h := h.1 c_7
      exact hx1 _ _ (hj1 (decide (x0 = ⟨#[119, 104, 105, 108, 101]⟩)) H _ I h)
     ·replace h := h.2 c_7
      refine a8 (T0 _ _ _ _ _) ?_
      refine h9 (fun c_6 => ?_) (fun c_6 => ?_)
      ·replace h := h.1 c_6
       exact hx1 _ _ (hj1 (decide (x0 = ⟨#[97, 115, 115, 101, 114, 116]⟩)) H _ I h)
      ·replace h := h.2 c_6
       refine a8 (T0 _ _ _ _ _) ?_
       refine h9 (fun c_5 => ?_) (fun c_5 => ?_)
       ·replace h := h.1 c_5
        exact hx1 _ _ (hj1 (decide (x0 = ⟨#[97, 115, 115, 117, 109, 101]⟩)) H _ I h)
       ·replace h := h.2 c_5
        refine a8 (T0 _ _ _ _ _) ?_
        refine h9 (fun c_4 => ?_) (fun c_4 => ?_)
        ·replace h := h.1 c_4
         exact hx1 _ _ (hj1 (decide (x0 = ⟨#[115, 107, 105, 112]⟩)) H _ I h)
        ·replace h := h.2 c_4
         refine a8 (T0 _ _ _ _ _) ?_
         refine h9 (fun c_3 => ?_) (fun c_3 => ?_)
         ·replace h := h.1 c_3
          exact hx1 _ _ (hj1 (decide (x0 = ⟨#[105, 110, 112, 117, 116]⟩)) H _ I h)
         ·replace h := h.2 c_3
          refine a8 (T0 _ _ _ _ _) ?_
          refine h9 (fun c_2 => ?_) (fun c_2 => ?_)
          ·replace h := h.1 c_2
           exact hx1 _ _ (hj1 (decide (x0 = ⟨#[116, 114, 117, 101]⟩)) H _ I h)
          ·replace h := h.2 c_2
           refine a8 (T0 _ _ _ _ _) ?_
           exact hx1 _ _ (hj1 (decide (x0 = ⟨#[102, 97, 108, 115, 101]⟩)) H _ I h)
theorem b5i (x0 : ByteArray) {H : Hp} {K : Bool → Hp → Prop} (h : a2C x0 H K) : a1i x0 H K := by
 intro w I
 refine d5I ?_
 refine b3Y x0 I (fun r0 H' w' I' hk => ⟨H', _, I', r0, rfl, rfl, hk⟩) h
def a0I (x0 : h7) (x1 : h7) (H : Hp) (K : Bool → Hp → Prop) : Prop :=
 TG ((((decide (x0.d4 = x1.d4)) && (decide (x0.F9 = x1.F9))) && (decide (x0.d8 = x1.d8))) = true) (h8 x0.m9 x1.m9 H) false H (fun (m7 : Bool) (E5 : Hp) =>
 K ((((decide (x0.d4 = x1.d4)) && (decide (x0.F9 = x1.F9))) && (decide (x0.d8 = x1.d8))) && m7) E5)
theorem a9D (x0 : h7) (x1 : h7) {w0 w : World} {ps0 : Nat → Prop} {H0 H : Hp} {K : Bool → Hp → Prop} {R : Value → World → Prop} {E : Pan} (I : Inv w0 ps0 H0 H [] w) (hR : ∀ (r0 : Bool) (H' : Hp) (w' : World) (_ : Inv w0 ps0 H0 H' [] w') (_ : K r0 H'), R (Value.bool r0) w') (h : a0I x0 x1 H K) : F84 (Value.agg (c8 x0).toArray) (Value.agg (c8 x1).toArray) w R E := by
 unfold a0I at h
 unfold F84
 refine D8 I (cs := (c8 x0)) rfl fun g_2 w_3 I_4 k_5 => ?_
 refine D8 I_4 (cs := (c8 x1)) rfl fun g_7 w_8 I_9 a7H => ?_
 refine a8 Y0 ?_
 refine b7 (ld1 Tryd.isAgg3 ((I_9.bring 1).at1 (o := 0) (vs := [(vi x0.d4)]) (nb rfl) rfl)) ?_
 refine a8 Y0 ?_
 refine b7 (ld1 Tryd.isAgg3 (I_9.at1 (o := 0) (vs := [(vi x1.d4)]) (nb rfl) rfl)) ?_
 refine a8 (f7 _ _ _ _ _ _) ?_
 refine a8 (Pu.g fun hb => by have a7 := hb; first | exact L3 | (simp only [b5 a7, b3 a7, b3 hb, q8 a7]; exact L3) | (simp only [b5 a7, b3 a7, b3 hb, d9 a7, d6]; exact L3)) ?_
 refine b7 (Ld.g fun hb => by have a7 := hb; first | exact (ld1 Tryd.isAgg2 ((I_9.bring 1).at1 (o := 1) (vs := [(vi x0.F9)]) (nb rfl) rfl)) | (simp only [b3 a7]; exact (ld1 Tryd.isAgg2 ((I_9.bring 1).at1 (o := 1) (vs := [(vi x0.F9)]) (nb rfl) rfl))) | (simp only [b5 a7, b3 a7, b3 hb, d9 a7, d6]; exact (ld1 Tryd.isAgg2 ((I_9.bring 1).at1 (o := 1) (vs := [(vi x0.F9)]) (nb rfl) rfl)))) ?_
 refine a8 (Pu.g fun hb => by have a7 := hb; first | exact L3 | (simp only [b5 a7, b3 a7, b3 hb, q8 a7]; exact L3) | (simp only [b5 a7, b3 a7, b3 hb, d9 a7, d6]; exact L3)) ?_
 refine b7 (Ld.g fun hb => by have a7 := hb; first | exact (ld1 Tryd.isAgg2 (I_9.at1 (o := 1) (vs := [(vi x1.F9)]) (nb rfl) rfl)) | (simp only [b3 a7]; exact (ld1 Tryd.isAgg2 (I_9.at1 (o := 1) (vs := [(vi x1.F9)]) (nb rfl) rfl))) | (simp only [b5 a7, b3 a7, b3 hb, d9 a7, d6]; exact (ld1 Tryd.isAgg2 (I_9.at1 (o := 1) (vs := [(vi x1.F9)]) (nb rfl) rfl)))) ?_
 refine a8 (Pu.g fun hb => by have a7 := hb; first | exact (f7 _ _ _ _ _ _) | (simp only [b3 a7]; exact (f7 _ _ _ _ _ _)) | (simp only [b5 a7, b3 a7, b3 hb, d9 a7, d6]; exact (f7 _ _ _ _ _ _))) ?_
 refine a8 (u5 _ _) ?_
 refine a8 (Pu.g fun hb => by have a7 := hb; first | exact K0 | (simp only [b5 a7, b3 a7, b3 hb, q8 a7]; exact K0) | (simp only [b5 a7, b3 a7, b3 hb, d9 a7, d6]; exact K0)) ?_
 refine b7 (Ld.g fun hb => by have a7 := hb; first | exact (ld1 Tryd.isAgg9 ((I_9.bring 1).at1 (o := 2) (vs := [(Value.string x0.d8)]) (nb rfl) rfl)) | (simp only [b3 a7]; exact (ld1 Tryd.isAgg9 ((I_9.bring 1).at1 (o := 2) (vs := [(Value.string x0.d8)]) (nb rfl) rfl))) | (simp only [b5 a7, b3 a7, b3 hb, d9 a7, d6]; exact (ld1 Tryd.isAgg9 ((I_9.bring 1).at1 (o := 2) (vs := [(Value.string x0.d8)]) (nb rfl) rfl)))) ?_
 refine a8 (Pu.g fun hb => by have a7 := hb; first | exact K0 | (simp only [b5 a7, b3 a7, b3 hb, q8 a7]; exact K0) | (simp only [b5 a7, b3 a7, b3 hb, d9 a7, d6]; exact K0)) ?_
 refine b7 (Ld.g fun hb => by have a7 := hb; first | exact (ld1 Tryd.isAgg9 (I_9.at1 (o := 2) (vs := [(Value.string x1.d8)]) (nb rfl) rfl)) | (simp only [b3 a7]; exact (ld1 Tryd.isAgg9 (I_9.at1 (o := 2) (vs := [(Value.string x1.d8)]) (nb rfl) rfl))) | (simp only [b5 a7, b3 a7, b3 hb, d9 a7, d6]; exact (ld1 Tryd.isAgg9 (I_9.at1 (o := 2) (vs := [(Value.string x1.d8)]) (nb rfl) rfl)))) ?_
 refine a8 (Pu.g fun hb => by have a7 := hb; first | exact (T0 _ _ _ _ _) | (simp only [b3 a7]; exact (T0 _ _ _ _ _)) | (simp only [b5 a7, b3 a7, b3 hb, d9 a7, d6]; exact (T0 _ _ _ _ _))) ?_
 refine a8 (u5 _ _) ?_
 refine a8 (Pu.g fun hb => by have a7 := hb; first | exact F0 | (simp only [b5 a7, b3 a7, b3 hb, q8 a7]; exact F0) | (simp only [b5 a7, b3 a7, b3 hb, d9 a7, d6]; exact F0)) ?_
 refine b7 (Ld.g fun hb => by have a7 := hb; first | exact (ld1 Tryd.isAgg28 ((I_9.bring 1).at1 (o := 3) (vs := [(vs x0.m9)]) (nb rfl) rfl)) | (simp only [b3 a7]; exact (ld1 Tryd.isAgg28 ((I_9.bring 1).at1 (o := 3) (vs := [(vs x0.m9)]) (nb rfl) rfl))) | (simp only [b5 a7, b3 a7, b3 hb, d9 a7, d6]; exact (ld1 Tryd.isAgg28 ((I_9.bring 1).at1 (o := 3) (vs := [(vs x0.m9)]) (nb rfl) rfl)))) ?_
 refine a8 (Pu.g fun hb => by have a7 := hb; first | exact F0 | (simp only [b5 a7, b3 a7, b3 hb, q8 a7]; exact F0) | (simp only [b5 a7, b3 a7, b3 hb, d9 a7, d6]; exact F0)) ?_
 refine b7 (Ld.g fun hb => by have a7 := hb; first | exact (ld1 Tryd.isAgg28 (I_9.at1 (o := 3) (vs := [(vs x1.m9)]) (nb rfl) rfl)) | (simp only [b3 a7]; exact (ld1 Tryd.isAgg28 (I_9.at1 (o := 3) (vs := [(vs x1.m9)]) (nb rfl) rfl))) | (simp only [b5 a7, b3 a7, b3 hb, d9 a7, d6]; exact (ld1 Tryd.isAgg28 (I_9.at1 (o := 3) (vs := [(vs x1.m9)]) (nb rfl) rfl)))) ?_
 refine R3 (D := fun a4X k6 => ∃ (m7 : Bool) (E5 : Hp) , a4X = (gv (((decide (x0.d4 = x1.d4)) && (decide (x0.F9 = x1.F9))) && (decide (x0.d8 = x1.d8))) true (Value.bool m7)) ∧ (Inv w0 ps0 H0 E5 [bx g_7 30 (c8 x1), bx g_2 30 (c8 x0)] k6) ∧ (∀ i, i < w_8.heap.size → ¬ inF [] i → k6.heap[i]? = w_8.heap[i]?) ∧ Hle H E5 ∧ (K ((((decide (x0.d4 = x1.d4)) && (decide (x0.F9 = x1.F9))) && (decide (x0.d8 = x1.d8))) && m7) E5)) (fun b8h => ?_) (fun b8h => ?_) ?_
 ·replace h := h.1 b8h
  have a7 := b8h
  try simp only [b3 a7]
  refine d7 (cap := []) (fun args w => Tryd.call83 args w) ?_
  refine i6 (Fi := []) (Fr := [bx g_7 30 (c8 x1), bx g_2 30 (c8 x0)]) I_9 (h) (fun a4X E5 b8i k6 L6 a7I a7J a6U => ?_) (fun _ _ _ _ _ q => q.elim)
  obtain ⟨m7, rfl, rfl, h⟩ := a6U
  exact ⟨m7, E5, by first | rfl | rw [b3 b8h], L6, a7J, a7I, h⟩
 ·exact ⟨false, H, by first | rfl | rw [a0X b8h], I_9, fun _ _ _ => rfl, Hle.refl _, h.2 b8h⟩
 ·clear h
  rintro a4X k6 ⟨m7, E5, rfl, L6, a7J, a7I, h⟩
  refine a8 (u5 _ _) ?_
  exact hR ((((decide (x0.d4 = x1.d4)) && (decide (x0.F9 = x1.F9))) && (decide (x0.d8 = x1.d8))) && m7) E5 _ L6.drop.drop h
theorem b0w (x0 : h7) (x1 : h7) {H : Hp} {K : Bool → Hp → Prop} (h : a0I x0 x1 H K) : a0F x0 x1 H K := by
 intro w I
 refine e0g ?_
 refine a9D x0 x1 I (fun r0 H' w' I' hk => ⟨H', _, I', r0, rfl, rfl, hk⟩) h
def l8 (H : Hp) (K : Bool → Hp → Prop) : Prop :=
 K true H
def j6 (a2w : Sl) (a9Y : Sl) (a9Z : Int) (D2 : Int) (H : Hp) (n2 : Int → Hp → Prop) (K : Bool → Hp → Prop) : Prop :=
 (D2 < a9Z →
 (0 : Int) ≤ D2 ∧ (D2 : Int) < a9Y.n ∧ ∃ x_1 : h7, EltH H a9Y D2 4 (c8 x_1) ∧
 (0 : Int) ≤ D2 ∧ (D2 : Int) < a2w.n ∧ ∃ a0Q : h7, EltH H a2w D2 4 (c8 a0Q) ∧
 a0F x_1 a0Q H (fun (Q1 : Bool) (Z6 : Hp) =>
 ((!Q1) = true →
 K false Z6) ∧
 ((!Q1) = false →
 n2 (IntKind.wrap .i64 (D2 + 1)) Z6))) ∧
 (¬ (D2 < a9Z) →
 l8 H K)
def k3 (x0 : Sl) (x1 : Sl) (H : Hp) (K : Bool → Hp → Prop) : Prop :=
 (¬ ((x0.n : Int) = (x1.n : Int)) →
 K false H) ∧
 ((x0.n : Int) = (x1.n : Int) →
 TL (0 : Int) H fun (s : Int) H n2 => j6 x1 x0 (x0.n : Int) s H n2 K)
theorem G2 (x0 : Sl) (x1 : Sl) {w0 w : World} {ps0 : Nat → Prop} {H0 H : Hp} {K : Bool → Hp → Prop} {R : Value → World → Prop} {E : Pan} (I : Inv w0 ps0 H0 H [] w) (hR : ∀ (r0 : Bool) (H' : Hp) (w' : World) (_ : Inv w0 ps0 H0 H' [] w') (_ : K r0 H'), R (Value.bool r0) w') (h : k3 x0 x1 H K) : F83 (vs x0) (vs x1) (Value.func (.func 84) #[] #[]) w R E := by
 unfold k3 at h
 unfold F83
 refine a8 (q7 _ _ _) ?_
 refine a8 (q7 _ _ _) ?_
 refine a8 (t1 _ _ _ _ _ _) ?_
 refine a2L (fun a8X => ?_) (fun a8X => ?_)
 ·replace h := h.1 a8X
  exact hR false H _ I h
 ·replace h := h.2 a8X
  have hj1 : ∀ (H : Hp) (w : World) (_ : Inv w0 ps0 H0 H [] w) (_ : l8 H K), c0x w R E := by
   intro H w I h
   unfold c0x
   intro _
   unfold l8 at h
   exact hR true H _ I h
  refine t7 fun j1 hx1 => ?_
  refine a8 (q7 _ _ _) ?_
  obtain ⟨a8Y, a4e, c1z, c1A⟩ := h
  refine y9 (J := fun n l w => ∃ (s : Int) (H : Hp) , n = a4e s ∧ l = [(vi s)] ∧ Inv w0 ps0 H0 H [] w ∧ a8Y s H) ⟨_, 0, H, rfl, rfl, I, c1z⟩ ?_
  rintro e5D τ_47 w next2 ⟨D2, H, rfl, b3Z, I, c1B⟩ hn2
  simp only [List.map_cons, List.map_nil, List.cons.injEq, and_true] at b3Z
  have e17 := b3Z
  simp only [e17]
  obtain ⟨n2, hm2, h⟩ : ∃ n2 : Int → Hp → Prop, (∀ s' H', n2 s' H' → a8Y s' H' ∧ a4e s' < a4e D2) ∧ j6 x1 x0 (x0.n : Int) D2 H n2 K := ⟨_, fun _ _ h => h, c1A D2 H (fun s' H' => a8Y s' H' ∧ a4e s' < a4e D2) c1B (fun _ _ a b => ⟨a, b⟩)⟩
  unfold c8A
  unfold j6 at h
  refine a8 (C4 _ _ _ _ _ _) ?_
  refine h9 (fun a8Z => ?_) (fun a8Z => ?_)
  ·replace h := h.1 a8Z
   obtain ⟨h_4, h_5, x_1, h_7, h⟩ := h
   obtain ⟨g_2, o_3, h_6, h_7⟩ := h_7
   refine a8 (W4 h_6 _ _ _ _ h_4 h_5) ?_
   refine b7 (ldA (vs := (c8 x_1)) Tryd.isAgg30 Tryd.sizeOf30 rfl (I.atH h_7)) ?_
   refine C1 I Tryd.zeroValue30 (cs := [(vi 0), (vi 0), (Value.string ⟨#[]⟩), (Value.slice none 0 0)]) rfl fun g_9 k9 a1q b0x => ?_
   refine o8 a1q Tryd.sizeOf30 (vs := (c8 x_1)) (cs' := (c8 x_1)) rfl rfl (nb rfl) rfl rfl fun a2N a1Y b5D => ?_
   obtain ⟨a4Y, c1C, a0Q, a6V, h⟩ := h
   obtain ⟨e5E, e5F, c1D, a6V⟩ := a6V
   refine a8 (W4 c1D _ _ _ _ a4Y c1C) ?_
   refine b7 (ldA (vs := (c8 a0Q)) Tryd.isAgg30 Tryd.sizeOf30 rfl (a1Y.atH a6V)) ?_
   refine C1 a1Y Tryd.zeroValue30 (cs := [(vi 0), (vi 0), (Value.string ⟨#[]⟩), (Value.slice none 0 0)]) rfl fun c1E a8Q b5E d0W => ?_
   refine o8 b5E Tryd.sizeOf30 (vs := (c8 a0Q)) (cs' := (c8 a0Q)) rfl rfl (nb rfl) rfl rfl fun u7 a4f c5s => ?_
   refine b7 (ldA Tryd.isAgg30 Tryd.sizeOf30 rfl ((a4f.bring 1).at1 (o := 0) (vs := (c8 x_1)) (nb rfl) rfl)) ?_
   refine b7 (ldA Tryd.isAgg30 Tryd.sizeOf30 rfl (a4f.at1 (o := 0) (vs := (c8 a0Q)) (nb rfl) rfl)) ?_
   refine d7 (cap := []) (fun args w => Tryd.call84 args w) ?_
   refine i6 (Fi := []) (Fr := [bx c1E 30 (c8 a0Q), bx g_9 30 (c8 x_1)]) a4f (h) (fun b8j Z6 d0X y8 a6m c1F c1G b5F => ?_) (fun _ _ _ _ _ q => q.elim)
   obtain ⟨Q1, rfl, rfl, h⟩ := b5F
   refine a8 (p7 _) ?_
   refine m5 (fun a4Z => ?_) (fun a4Z => ?_)
   ·replace h := h.1 a4Z
    exact hR false Z6 _ a6m.drop.drop h
   ·replace h := h.2 a4Z
    refine a8 (s6 _ _ _ _ _ _) ?_
    exact hn2 _ _ _ (hm2 _ _ h).2 ⟨(IntKind.wrap .i64 (D2 + 1)), Z6, rfl, rfl, a6m.drop.drop, (hm2 _ _ h).1⟩
  ·replace h := h.2 a8Z
   exact hx1 _ _ (hj1 H _ I h)
theorem G5 (x0 : Sl) (x1 : Sl) {H : Hp} {K : Bool → Hp → Prop} (h : k3 x0 x1 H K) : h8 x0 x1 H K := by
 intro w I
 refine e0e ?_
 refine G2 x0 x1 I (fun r0 H' w' I' hk => ⟨H', _, I', r0, rfl, rfl, hk⟩) h
def a0b (x0 : f6) (H : Hp) (K : Bool → Hp → Prop) : Prop :=
 a1e x0 H (fun (E3 : b4) (H_6 : Hp) =>
 K (decide (E3.fbad = 0)) H_6)
theorem a9a (x0 : f6) {w0 w : World} {ps0 : Nat → Prop} {H0 H : Hp} {K : Bool → Hp → Prop} {R : Value → World → Prop} {E : Pan} (I : Inv w0 ps0 H0 H [] w) (hR : ∀ (r0 : Bool) (H' : Hp) (w' : World) (_ : Inv w0 ps0 H0 H' [] w') (_ : K r0 H'), R (Value.bool r0) w') (h : a0b x0 H K) : F55 (Value.agg (b6 x0).toArray) w R E := by
 unfold a0b at h
 unfold F55
 refine D8 I (cs := (b6 x0)) rfl fun g_2 w_3 I_4 k_5 => ?_
 refine b7 (ldA Tryd.isAgg25 Tryd.sizeOf25 rfl (I_4.at1 (o := 0) (vs := (b6 x0)) (nb rfl) rfl)) ?_
 refine d7 (cap := []) (fun args w => Tryd.call63 args w) ?_
 refine i6 (Fi := []) (Fr := [bx g_2 25 (b6 x0)]) I_4 (h) (fun a7K H_6 a7L w_7 I_8 a7M k_9 a1f => ?_) (fun _ _ _ _ _ q => q.elim)
 obtain ⟨E3, rfl, rfl, h⟩ := a1f
 refine a8 c3A ?_
 refine a8 (f7 _ _ _ _ _ _) ?_
 exact hR (decide (E3.fbad = 0)) H_6 _ I_8.drop h
theorem a9E (x0 : f6) {H : Hp} {K : Bool → Hp → Prop} (h : a0b x0 H K) : Z8 x0 H K := by
 intro w I
 refine d7Y ?_
 refine a9a x0 I (fun r0 H' w' I' hk => ⟨H', _, I', r0, rfl, rfl, hk⟩) h
def O1 (_s0j3 : Sl) (_s1j3 : Sl) (f2E : Int) (H : Hp) (n2 : Int → Hp → Prop) (_K : Bool → Hp → Prop) : Prop :=
 n2 (IntKind.wrap .i64 (f2E + 1)) H
def O2 (f2F : Sl) (f2G : Sl) (f2H : Int) (cr_22l6 : g8) (cr_17l6 : g8) (a5a : Int) (H : Hp) (n2 : Int → Hp → Prop) (n6 : Int → Hp → Prop) (K : Bool → Hp → Prop) : Prop :=
 (a5a < (cr_17l6.c7.n : Int) →
 (0 : Int) ≤ a5a ∧ (a5a : Int) < cr_17l6.c7.n ∧ ∃ c5t : h7, EltH H cr_17l6.c7 a5a 4 (c8 c5t) ∧
 (0 : Int) ≤ a5a ∧ (a5a : Int) < cr_22l6.c7.n ∧ ∃ c5u : h7, EltH H cr_22l6.c7 a5a 4 (c8 c5u) ∧
 N1 c5t c5u H (fun (c1H : Bool) (c1I : Hp) =>
 ((!c1H) = true →
 K false c1I) ∧
 ((!c1H) = false →
 n6 (IntKind.wrap .i64 (a5a + 1)) c1I))) ∧
 (¬ (a5a < (cr_17l6.c7.n : Int)) →
 O1 f2F f2G f2H H n2 K)
def O3 (f2I : Sl) (f2J : Sl) (f2K : Int) (cr_22j5 : g8) (cr_17j5 : g8) (H : Hp) (n2 : Int → Hp → Prop) (K : Bool → Hp → Prop) : Prop :=
 TL (0 : Int) H fun (s : Int) H n6 => O2 f2I f2J f2K cr_22j5 cr_17j5 s H n2 n6 K
def E6 (f2L : Sl) (f2M : Sl) (f2N : Int) (cr_22l7 : g8) (cr_17l7 : g8) (a5b : Int) (H : Hp) (n2 : Int → Hp → Prop) (n7 : Int → Hp → Prop) (K : Bool → Hp → Prop) : Prop :=
 (a5b < (cr_17l7.f5.n : Int) →
 (0 : Int) ≤ a5b ∧ (a5b : Int) < cr_17l7.f5.n ∧ ∃ c5v : g9, EltH H cr_17l7.f5 a5b 4 (c6 c5v) ∧
 (0 : Int) ≤ a5b ∧ (a5b : Int) < cr_22l7.f5.n ∧ ∃ c5w : g9, EltH H cr_22l7.f5 a5b 4 (c6 c5w) ∧
 T3 c5v c5w H (fun (c5x : Bool) (c1J : Hp) =>
 ((!c5x) = true →
 K false c1J) ∧
 ((!c5x) = false →
 n7 (IntKind.wrap .i64 (a5b + 1)) c1J))) ∧
 (¬ (a5b < (cr_17l7.f5.n : Int)) →
 O3 f2L f2M f2N cr_22l7 cr_17l7 H n2 K)
def J8 (f2O : Sl) (f2P : Sl) (f2Q : Int) (cr_22j4 : g8) (cr_17j4 : g8) (H : Hp) (n2 : Int → Hp → Prop) (K : Bool → Hp → Prop) : Prop :=
 TG (((((!decide (cr_17j4.d4 = cr_22j4.d4)) || (!decide (cr_17j4.d8 = cr_22j4.d8))) || (!decide ((cr_17j4.f5.n : Int) = (cr_22j4.f5.n : Int)))) || (!decide ((cr_17j4.c7.n : Int) = (cr_22j4.c7.n : Int)))) = false) (B1 cr_17j4.r9 cr_22j4.r9 H) false H (fun (a3Q : Bool) (a1r : Hp) =>
 TG ((((((!decide (cr_17j4.d4 = cr_22j4.d4)) || (!decide (cr_17j4.d8 = cr_22j4.d8))) || (!decide ((cr_17j4.f5.n : Int) = (cr_22j4.f5.n : Int)))) || (!decide ((cr_17j4.c7.n : Int) = (cr_22j4.c7.n : Int)))) || (!a3Q)) = false) (B1 cr_17j4.o6 cr_22j4.o6 a1r) false a1r (fun (a4M : Bool) (a5c : Hp) =>
 (((((((!decide (cr_17j4.d4 = cr_22j4.d4)) || (!decide (cr_17j4.d8 = cr_22j4.d8))) || (!decide ((cr_17j4.f5.n : Int) = (cr_22j4.f5.n : Int)))) || (!decide ((cr_17j4.c7.n : Int) = (cr_22j4.c7.n : Int)))) || (!a3Q)) || (!a4M)) = true →
 K false a5c) ∧
 (((((((!decide (cr_17j4.d4 = cr_22j4.d4)) || (!decide (cr_17j4.d8 = cr_22j4.d8))) || (!decide ((cr_17j4.f5.n : Int) = (cr_22j4.f5.n : Int)))) || (!decide ((cr_17j4.c7.n : Int) = (cr_22j4.c7.n : Int)))) || (!a3Q)) || (!a4M)) = false →
 TL (0 : Int) a5c fun (s : Int) H n7 => E6 f2O f2P f2Q cr_22j4 cr_17j4 s H n2 n7 K)))
def O4 (H : Hp) (K : Bool → Hp → Prop) : Prop :=
 K true H
def O5 (b4a : Sl) (a2w : Sl) (D5 : Int) (H : Hp) (n2 : Int → Hp → Prop) (K : Bool → Hp → Prop) : Prop :=
 (D5 < (b4a.n : Int) →
 (0 : Int) ≤ D5 ∧ (D5 : Int) < b4a.n ∧ ∃ x_3 : g8, EltH H b4a D5 6 (b8 x_3) ∧
 (0 : Int) ≤ D5 ∧ (D5 : Int) < a2w.n ∧ ∃ a3M : g8, EltH H a2w D5 6 (b8 a3M) ∧
 J8 b4a a2w D5 a3M x_3 H n2 K) ∧
 (¬ (D5 < (b4a.n : Int)) →
 O4 H K)
def R9 (x0 : Sl) (x1 : Sl) (H : Hp) (K : Bool → Hp → Prop) : Prop :=
 (¬ ((x0.n : Int) = (x1.n : Int)) →
 K false H) ∧
 ((x0.n : Int) = (x1.n : Int) →
 TL (0 : Int) H fun (s : Int) H n2 => O5 x0 x1 s H n2 K)
theorem a6n (x0 : Sl) (x1 : Sl) {w0 w : World} {ps0 : Nat → Prop} {H0 H : Hp} {K : Bool → Hp → Prop} {R : Value → World → Prop} {E : Pan} (I : Inv w0 ps0 H0 H [] w) (hR : ∀ (r0 : Bool) (H' : Hp) (w' : World) (_ : Inv w0 ps0 H0 H' [] w') (_ : K r0 H'), R (Value.bool r0) w') (h : R9 x0 x1 H K) : F56 (vs x0) (vs x1) w R E := by
 unfold R9 at h
 unfold F56
 refine a8 (M6 _ _ _) ?_
 refine a8 (M6 _ _ _) ?_
 refine a8 (t1 _ _ _ _ _ _) ?_
 refine a2L (fun c5y => ?_) (fun c5y => ?_)
 ·replace h := h.1 c5y
  exact hR false H _ I h
 ·replace h := h.2 c5y
  have hj1 : ∀ (H : Hp) (w : World) (_ : Inv w0 ps0 H0 H [] w) (_ : O4 H K), c0d w R E := by
   intro H w I h
   unfold c0d
   intro _
   unfold O4 at h
   exact hR true H _ I h
  refine t7 fun j1 hx1 => ?_
  obtain ⟨c5z, b7a, e9H, e9I⟩ := h
  refine y9 (J := fun n l w => ∃ (s : Int) (H : Hp) , n = b7a s ∧ l = [(vi s)] ∧ Inv w0 ps0 H0 H [] w ∧ c5z s H) ⟨_, 0, H, rfl, rfl, I, e9H⟩ ?_
  rintro f5C τ_146 w next2 ⟨D5, H, rfl, d3E, I, e9J⟩ hn2
  simp only [List.map_cons, List.map_nil, List.cons.injEq, and_true] at d3E
  have e5 := d3E
  simp only [e5]
  obtain ⟨n2, hm2, h⟩ : ∃ n2 : Int → Hp → Prop, (∀ s' H', n2 s' H' → c5z s' H' ∧ b7a s' < b7a D5) ∧ O5 x0 x1 D5 H n2 K := ⟨_, fun _ _ h => h, e9I D5 H (fun s' H' => c5z s' H' ∧ b7a s' < b7a D5) e9J (fun _ _ a b => ⟨a, b⟩)⟩
  unfold c8q
  unfold O5 at h
  refine a8 (M6 _ _ _) ?_
  refine a8 (C4 _ _ _ _ _ _) ?_
  refine h9 (fun c5A => ?_) (fun c5A => ?_)
  ·replace h := h.1 c5A
   have hj3 : ∀ (H : Hp) (w : World) (_ : Inv w0 ps0 H0 H [] w) (_ : O1 x0 x1 D5 H n2 K), c0e (vs x0) (vs x1) (vi D5) w next2 R E := by
    intro H w I h
    unfold c0e
    intro _
    unfold O1 at h
    refine a8 (s6 _ _ _ _ _ _) ?_
    exact hn2 _ _ _ (hm2 _ _ h).2 ⟨(IntKind.wrap .i64 (D5 + 1)), H, rfl, rfl, I, (hm2 _ _ h).1⟩
   refine t7 fun j3 hx3 => ?_
   have hj4 : ∀ (cr_22j4 : g8) (cr_17j4 : g8) (gbr_22j4 : Nat) (gbr_17j4 : Nat) (H : Hp) (w : World) (_ : Inv w0 ps0 H0 H [bx gbr_22j4 88 (b8 cr_22j4), bx gbr_17j4 88 (b8 cr_17j4)] w) (_ : J8 x0 x1 D5 cr_22j4 cr_17j4 H n2 K), c0k (vs x0) (vs x1) (vi D5) (Value.pointer (some ⟨gbr_17j4, 0, none⟩)) (Value.pointer (some ⟨gbr_22j4, 0, none⟩)) w j3 R E := by
    intro cr_22j4 cr_17j4 gbr_22j4 gbr_17j4 H w I h
    unfold c0k
    intro _
    unfold J8 at h
    refine a8 a0E ?_
    refine b7 (ld1 Tryd.isAgg3 ((I.bring 1).at1 (o := 0) (vs := [(vi cr_17j4.d4)]) (nb rfl) rfl)) ?_
    refine a8 a0E ?_
    refine b7 (ld1 Tryd.isAgg3 (I.at1 (o := 0) (vs := [(vi cr_22j4.d4)]) (nb rfl) rfl)) ?_
    refine a8 (t1 _ _ _ _ _ _) ?_
    refine a8 (Pu.g fun hb => by have a7 := hb; first | exact L4 | (simp only [b5 a7, b3 a7, b3 hb, J2 a7]; exact L4) | (simp only [b5 a7, b3 a7, b3 hb, i4 a7, d6]; exact L4)) ?_
    refine b7 (Ld.g fun hb => by have a7 := hb; first | exact (ld1 Tryd.isAgg9 ((I.bring 1).at1 (o := 1) (vs := [(Value.string cr_17j4.d8)]) (nb rfl) rfl)) | (simp only [b3 a7]; exact (ld1 Tryd.isAgg9 ((I.bring 1).at1 (o := 1) (vs := [(Value.string cr_17j4.d8)]) (nb rfl) rfl))) | (simp only [b5 a7, b3 a7, b3 hb, i4 a7, d6]; exact (ld1 Tryd.isAgg9 ((I.bring 1).at1 (o := 1) (vs := [(Value.string cr_17j4.d8)]) (nb rfl) rfl)))) ?_
    refine a8 (Pu.g fun hb => by have a7 := hb; first | exact L4 | (simp only [b5 a7, b3 a7, b3 hb, J2 a7]; exact L4) | (simp only [b5 a7, b3 a7, b3 hb, i4 a7, d6]; exact L4)) ?_
    refine b7 (Ld.g fun hb => by have a7 := hb; first | exact (ld1 Tryd.isAgg9 (I.at1 (o := 1) (vs := [(Value.string cr_22j4.d8)]) (nb rfl) rfl)) | (simp only [b3 a7]; exact (ld1 Tryd.isAgg9 (I.at1 (o := 1) (vs := [(Value.string cr_22j4.d8)]) (nb rfl) rfl))) | (simp only [b5 a7, b3 a7, b3 hb, i4 a7, d6]; exact (ld1 Tryd.isAgg9 (I.at1 (o := 1) (vs := [(Value.string cr_22j4.d8)]) (nb rfl) rfl)))) ?_
    refine a8 (Pu.g fun hb => by have a7 := hb; first | exact (a4A _ _ _ _ _) | (simp only [b3 a7]; exact (a4A _ _ _ _ _)) | (simp only [b5 a7, b3 a7, b3 hb, i4 a7, d6]; exact (a4A _ _ _ _ _))) ?_
    refine a8 (U3 _ _) ?_
    refine a8 (Pu.g fun hb => by have a7 := hb; first | exact F5 | (simp only [b5 a7, b3 a7, b3 hb, J2 a7]; exact F5) | (simp only [b5 a7, b3 a7, b3 hb, i4 a7, d6]; exact F5)) ?_
    refine b7 (Ld.g fun hb => by have a7 := hb; first | exact (ld1 Tryd.isAgg31 ((I.bring 1).at1 (o := 3) (vs := [(vs cr_17j4.f5)]) (nb rfl) rfl)) | (simp only [b3 a7]; exact (ld1 Tryd.isAgg31 ((I.bring 1).at1 (o := 3) (vs := [(vs cr_17j4.f5)]) (nb rfl) rfl))) | (simp only [b5 a7, b3 a7, b3 hb, i4 a7, d6]; exact (ld1 Tryd.isAgg31 ((I.bring 1).at1 (o := 3) (vs := [(vs cr_17j4.f5)]) (nb rfl) rfl)))) ?_
    refine a8 (Pu.g fun hb => by have a7 := hb; first | exact (C8 _ _ _) | (simp only [b3 a7]; exact (C8 _ _ _)) | (simp only [b5 a7, b3 a7, b3 hb, i4 a7, d6]; exact (C8 _ _ _))) ?_
    refine a8 (Pu.g fun hb => by have a7 := hb; first | exact F5 | (simp only [b5 a7, b3 a7, b3 hb, J2 a7]; exact F5) | (simp only [b5 a7, b3 a7, b3 hb, i4 a7, d6]; exact F5)) ?_
    refine b7 (Ld.g fun hb => by have a7 := hb; first | exact (ld1 Tryd.isAgg31 (I.at1 (o := 3) (vs := [(vs cr_22j4.f5)]) (nb rfl) rfl)) | (simp only [b3 a7]; exact (ld1 Tryd.isAgg31 (I.at1 (o := 3) (vs := [(vs cr_22j4.f5)]) (nb rfl) rfl))) | (simp only [b5 a7, b3 a7, b3 hb, i4 a7, d6]; exact (ld1 Tryd.isAgg31 (I.at1 (o := 3) (vs := [(vs cr_22j4.f5)]) (nb rfl) rfl)))) ?_
    refine a8 (Pu.g fun hb => by have a7 := hb; first | exact (C8 _ _ _) | (simp only [b3 a7]; exact (C8 _ _ _)) | (simp only [b5 a7, b3 a7, b3 hb, i4 a7, d6]; exact (C8 _ _ _))) ?_
    refine a8 (Pu.g fun hb => by have a7 := hb; first | exact (t1 _ _ _ _ _ _) | (simp only [b3 a7]; exact (t1 _ _ _ _ _ _)) | (simp only [b5 a7, b3 a7, b3 hb, i4 a7, d6]; exact (t1 _ _ _ _ _ _))) ?_
    refine a8 (U3 _ _) ?_
    refine a8 (Pu.g fun hb => by have a7 := hb; first | exact F4 | (simp only [b5 a7, b3 a7, b3 hb, J2 a7]; exact F4) | (simp only [b5 a7, b3 a7, b3 hb, i4 a7, d6]; exact F4)) ?_
    refine b7 (Ld.g fun hb => by have a7 := hb; first | exact (ld1 Tryd.isAgg28 ((I.bring 1).at1 (o := 2) (vs := [(vs cr_17j4.c7)]) (nb rfl) rfl)) | (simp only [b3 a7]; exact (ld1 Tryd.isAgg28 ((I.bring 1).at1 (o := 2) (vs := [(vs cr_17j4.c7)]) (nb rfl) rfl))) | (simp only [b5 a7, b3 a7, b3 hb, i4 a7, d6]; exact (ld1 Tryd.isAgg28 ((I.bring 1).at1 (o := 2) (vs := [(vs cr_17j4.c7)]) (nb rfl) rfl)))) ?_
    refine a8 (Pu.g fun hb => by have a7 := hb; first | exact (q7 _ _ _) | (simp only [b3 a7]; exact (q7 _ _ _)) | (simp only [b5 a7, b3 a7, b3 hb, i4 a7, d6]; exact (q7 _ _ _))) ?_
    refine a8 (Pu.g fun hb => by have a7 := hb; first | exact F4 | (simp only [b5 a7, b3 a7, b3 hb, J2 a7]; exact F4) | (simp only [b5 a7, b3 a7, b3 hb, i4 a7, d6]; exact F4)) ?_
    refine b7 (Ld.g fun hb => by have a7 := hb; first | exact (ld1 Tryd.isAgg28 (I.at1 (o := 2) (vs := [(vs cr_22j4.c7)]) (nb rfl) rfl)) | (simp only [b3 a7]; exact (ld1 Tryd.isAgg28 (I.at1 (o := 2) (vs := [(vs cr_22j4.c7)]) (nb rfl) rfl))) | (simp only [b5 a7, b3 a7, b3 hb, i4 a7, d6]; exact (ld1 Tryd.isAgg28 (I.at1 (o := 2) (vs := [(vs cr_22j4.c7)]) (nb rfl) rfl)))) ?_
    refine a8 (Pu.g fun hb => by have a7 := hb; first | exact (q7 _ _ _) | (simp only [b3 a7]; exact (q7 _ _ _)) | (simp only [b5 a7, b3 a7, b3 hb, i4 a7, d6]; exact (q7 _ _ _))) ?_
    refine a8 (Pu.g fun hb => by have a7 := hb; first | exact (t1 _ _ _ _ _ _) | (simp only [b3 a7]; exact (t1 _ _ _ _ _ _)) | (simp only [b5 a7, b3 a7, b3 hb, i4 a7, d6]; exact (t1 _ _ _ _ _ _))) ?_
    refine a8 (U3 _ _) ?_
    refine a8 (Pu.g fun hb => by have a7 := hb; first | exact K2 | (simp only [b5 a7, b3 a7, b3 hb, J2 a7]; exact K2) | (simp only [b5 a7, b3 a7, b3 hb, i4 a7, d6]; exact K2)) ?_
    refine b7 (Ld.g fun hb => by have a7 := hb; first | exact (ld1 Tryd.isAgg23 ((I.bring 1).at1 (o := 4) (vs := [(vs cr_17j4.r9)]) (nb rfl) rfl)) | (simp only [b3 a7]; exact (ld1 Tryd.isAgg23 ((I.bring 1).at1 (o := 4) (vs := [(vs cr_17j4.r9)]) (nb rfl) rfl))) | (simp only [b5 a7, b3 a7, b3 hb, i4 a7, d6]; exact (ld1 Tryd.isAgg23 ((I.bring 1).at1 (o := 4) (vs := [(vs cr_17j4.r9)]) (nb rfl) rfl)))) ?_
    refine a8 (Pu.g fun hb => by have a7 := hb; first | exact K2 | (simp only [b5 a7, b3 a7, b3 hb, J2 a7]; exact K2) | (simp only [b5 a7, b3 a7, b3 hb, i4 a7, d6]; exact K2)) ?_
    refine b7 (Ld.g fun hb => by have a7 := hb; first | exact (ld1 Tryd.isAgg23 (I.at1 (o := 4) (vs := [(vs cr_22j4.r9)]) (nb rfl) rfl)) | (simp only [b3 a7]; exact (ld1 Tryd.isAgg23 (I.at1 (o := 4) (vs := [(vs cr_22j4.r9)]) (nb rfl) rfl))) | (simp only [b5 a7, b3 a7, b3 hb, i4 a7, d6]; exact (ld1 Tryd.isAgg23 (I.at1 (o := 4) (vs := [(vs cr_22j4.r9)]) (nb rfl) rfl)))) ?_
    refine R3 (D := fun d0Y v2 => ∃ (a3Q : Bool) (a1r : Hp) , d0Y = (gv ((((!decide (cr_17j4.d4 = cr_22j4.d4)) || (!decide (cr_17j4.d8 = cr_22j4.d8))) || (!decide ((cr_17j4.f5.n : Int) = (cr_22j4.f5.n : Int)))) || (!decide ((cr_17j4.c7.n : Int) = (cr_22j4.c7.n : Int)))) false (Value.bool a3Q)) ∧ (Inv w0 ps0 H0 a1r [bx gbr_22j4 88 (b8 cr_22j4), bx gbr_17j4 88 (b8 cr_17j4)] v2) ∧ (∀ i, i < w.heap.size → ¬ inF [] i → v2.heap[i]? = w.heap[i]?) ∧ Hle H a1r ∧ (TG ((((((!decide (cr_17j4.d4 = cr_22j4.d4)) || (!decide (cr_17j4.d8 = cr_22j4.d8))) || (!decide ((cr_17j4.f5.n : Int) = (cr_22j4.f5.n : Int)))) || (!decide ((cr_17j4.c7.n : Int) = (cr_22j4.c7.n : Int)))) || (!a3Q)) = false) (B1 cr_17j4.o6 cr_22j4.o6 a1r) false a1r (fun (a4M : Bool) (a5c : Hp) =>
 (((((((!decide (cr_17j4.d4 = cr_22j4.d4)) || (!decide (cr_17j4.d8 = cr_22j4.d8))) || (!decide ((cr_17j4.f5.n : Int) = (cr_22j4.f5.n : Int)))) || (!decide ((cr_17j4.c7.n : Int) = (cr_22j4.c7.n : Int)))) || (!a3Q)) || (!a4M)) = true →
 K false a5c) ∧
 (((((((!decide (cr_17j4.d4 = cr_22j4.d4)) || (!decide (cr_17j4.d8 = cr_22j4.d8))) || (!decide ((cr_17j4.f5.n : Int) = (cr_22j4.f5.n : Int)))) || (!decide ((cr_17j4.c7.n : Int) = (cr_22j4.c7.n : Int)))) || (!a3Q)) || (!a4M)) = false →
 TL (0 : Int) a5c fun (s : Int) H n7 => E6 x0 x1 D5 cr_22j4 cr_17j4 s H n2 n7 K)))) (fun b4N => ?_) (fun b4N => ?_) ?_
    ·replace h := h.1 b4N
     have a7 := b4N
     try simp only [b3 a7]
     refine d7 (cap := []) (fun args w => Tryd.call56 args w) ?_
     refine i6 (Fi := []) (Fr := [bx gbr_22j4 88 (b8 cr_22j4), bx gbr_17j4 88 (b8 cr_17j4)]) I (h) (fun d0Y a1r f7F v2 b0y e5G e5H f2R => ?_) (fun _ _ _ _ _ q => q.elim)
     obtain ⟨a3Q, rfl, rfl, h⟩ := f2R
     exact ⟨a3Q, a1r, by first | rfl | rw [b3 b4N], b0y, e5H, e5G, h⟩
    ·exact ⟨false, H, by first | rfl | rw [a0X b4N], I, fun _ _ _ => rfl, Hle.refl _, h.2 b4N⟩
    ·clear h
     rintro d0Y v2 ⟨a3Q, a1r, rfl, b0y, e5H, e5G, h⟩
     refine a8 (Pu.g fun hb => by have a7 := hb; first | exact (p7 _) | (simp only [b3 a7]; exact (p7 _)) | (simp only [b5 a7, b3 a7, b3 hb, i4 a7, d6]; exact (p7 _))) ?_
     refine a8 (U3 _ _) ?_
     refine a8 (Pu.g fun hb => by have a7 := hb; first | exact F6 | (simp only [b5 a7, b3 a7, b3 hb, J2 a7]; exact F6) | (simp only [b5 a7, b3 a7, b3 hb, i4 a7, d6]; exact F6)) ?_
     refine b7 (Ld.g fun hb => by have a7 := hb; first | exact (ld1 Tryd.isAgg23 ((b0y.bring 1).at1 (o := 5) (vs := [(vs cr_17j4.o6)]) (nb rfl) rfl)) | (simp only [b3 a7]; exact (ld1 Tryd.isAgg23 ((b0y.bring 1).at1 (o := 5) (vs := [(vs cr_17j4.o6)]) (nb rfl) rfl))) | (simp only [b5 a7, b3 a7, b3 hb, i4 a7, d6]; exact (ld1 Tryd.isAgg23 ((b0y.bring 1).at1 (o := 5) (vs := [(vs cr_17j4.o6)]) (nb rfl) rfl)))) ?_
     refine a8 (Pu.g fun hb => by have a7 := hb; first | exact F6 | (simp only [b5 a7, b3 a7, b3 hb, J2 a7]; exact F6) | (simp only [b5 a7, b3 a7, b3 hb, i4 a7, d6]; exact F6)) ?_
     refine b7 (Ld.g fun hb => by have a7 := hb; first | exact (ld1 Tryd.isAgg23 (b0y.at1 (o := 5) (vs := [(vs cr_22j4.o6)]) (nb rfl) rfl)) | (simp only [b3 a7]; exact (ld1 Tryd.isAgg23 (b0y.at1 (o := 5) (vs := [(vs cr_22j4.o6)]) (nb rfl) rfl))) | (simp only [b5 a7, b3 a7, b3 hb, i4 a7, d6]; exact (ld1 Tryd.isAgg23 (b0y.at1 (o := 5) (vs := [(vs cr_22j4.o6)]) (nb rfl) rfl)))) ?_
     refine R3 (D := fun d0Z b3E => ∃ (a4M : Bool) (a5c : Hp) , d0Z = (gv (((((!decide (cr_17j4.d4 = cr_22j4.d4)) || (!decide (cr_17j4.d8 = cr_22j4.d8))) || (!decide ((cr_17j4.f5.n : Int) = (cr_22j4.f5.n : Int)))) || (!decide ((cr_17j4.c7.n : Int) = (cr_22j4.c7.n : Int)))) || (!a3Q)) false (Value.bool a4M)) ∧ (Inv w0 ps0 H0 a5c [bx gbr_22j4 88 (b8 cr_22j4), bx gbr_17j4 88 (b8 cr_17j4)] b3E) ∧ (∀ i, i < v2.heap.size → ¬ inF [] i → b3E.heap[i]? = v2.heap[i]?) ∧ Hle a1r a5c ∧ ((((((((!decide (cr_17j4.d4 = cr_22j4.d4)) || (!decide (cr_17j4.d8 = cr_22j4.d8))) || (!decide ((cr_17j4.f5.n : Int) = (cr_22j4.f5.n : Int)))) || (!decide ((cr_17j4.c7.n : Int) = (cr_22j4.c7.n : Int)))) || (!a3Q)) || (!a4M)) = true →
 K false a5c) ∧
 (((((((!decide (cr_17j4.d4 = cr_22j4.d4)) || (!decide (cr_17j4.d8 = cr_22j4.d8))) || (!decide ((cr_17j4.f5.n : Int) = (cr_22j4.f5.n : Int)))) || (!decide ((cr_17j4.c7.n : Int) = (cr_22j4.c7.n : Int)))) || (!a3Q)) || (!a4M)) = false →
 TL (0 : Int) a5c fun (s : Int) H n7 => E6 x0 x1 D5 cr_22j4 cr_17j4 s H n2 n7 K))) (fun b4O => ?_) (fun b4O => ?_) ?_
     ·replace h := h.1 b4O
      have a7 := b4O
      try simp only [b3 a7]
      refine d7 (cap := []) (fun args w => Tryd.call56 args w) ?_
      refine i6 (Fi := []) (Fr := [bx gbr_22j4 88 (b8 cr_22j4), bx gbr_17j4 88 (b8 cr_17j4)]) b0y (h) (fun d0Z a5c f7G b3E c5B e5I e5J f2S => ?_) (fun _ _ _ _ _ q => q.elim)
      obtain ⟨a4M, rfl, rfl, h⟩ := f2S
      exact ⟨a4M, a5c, by first | rfl | rw [b3 b4O], c5B, e5J, e5I, h⟩
     ·exact ⟨false, a1r, by first | rfl | rw [a0X b4O], b0y, fun _ _ _ => rfl, Hle.refl _, h.2 b4O⟩
     ·clear h
      rintro d0Z b3E ⟨a4M, a5c, rfl, c5B, e5J, e5I, h⟩
      refine a8 (Pu.g fun hb => by have a7 := hb; first | exact (p7 _) | (simp only [b3 a7]; exact (p7 _)) | (simp only [b5 a7, b3 a7, b3 hb, i4 a7, d6]; exact (p7 _))) ?_
      refine a8 (U3 _ _) ?_
      refine m5 (fun c5C => ?_) (fun c5C => ?_)
      ·replace h := h.1 c5C
       exact hR false a5c _ c5B.drop.drop h
      ·replace h := h.2 c5C
       have hj5 : ∀ (H : Hp) (w : World) (_ : Inv w0 ps0 H0 H [bx gbr_22j4 88 (b8 cr_22j4), bx gbr_17j4 88 (b8 cr_17j4)] w) (_ : O3 x0 x1 D5 cr_22j4 cr_17j4 H n2 K), c0j (vs x0) (vs x1) (vi D5) (Value.pointer (some ⟨gbr_17j4, 0, none⟩)) (Value.pointer (some ⟨gbr_22j4, 0, none⟩)) w j3 R E := by
        intro H w I h
        unfold c0j
        intro _
        unfold O3 at h
        obtain ⟨c5D, b7b, e9K, e9L⟩ := h
        refine y9 (J := fun n l w => ∃ (s : Int) (H : Hp) , n = b7b s ∧ l = [(vi s)] ∧ Inv w0 ps0 H0 H [bx gbr_22j4 88 (b8 cr_22j4), bx gbr_17j4 88 (b8 cr_17j4)] w ∧ c5D s H) ⟨_, 0, H, rfl, rfl, ((I.bring 1).bring 1), e9K⟩ ?_
        rintro f5D τ_109 w next6 ⟨a5a, H, rfl, d3F, I, e9M⟩ hn6
        simp only [List.map_cons, List.map_nil, List.cons.injEq, and_true] at d3F
        have e9 := d3F
        simp only [e9]
        obtain ⟨n6, hm6, h⟩ : ∃ n6 : Int → Hp → Prop, (∀ s' H', n6 s' H' → c5D s' H' ∧ b7b s' < b7b a5a) ∧ O2 x0 x1 D5 cr_22j4 cr_17j4 a5a H n2 n6 K := ⟨_, fun _ _ h => h, e9L a5a H (fun s' H' => c5D s' H' ∧ b7b s' < b7b a5a) e9M (fun _ _ a b => ⟨a, b⟩)⟩
        unfold c8o
        unfold O2 at h
        refine a8 F4 ?_
        refine b7 (ld1 Tryd.isAgg28 ((I.bring 1).at1 (o := 2) (vs := [(vs cr_17j4.c7)]) (nb rfl) rfl)) ?_
        refine a8 (q7 _ _ _) ?_
        refine a8 (C4 _ _ _ _ _ _) ?_
        refine h9 (fun c5E => ?_) (fun c5E => ?_)
        ·replace h := h.1 c5E
         refine a4O I fun f2T b4b => ?_
         refine o3 F4 ?_
         refine o3 F4 ?_
         refine E8 (ld1 Tryd.isAgg28 ((b4b.bring 1).at1 (o := 2) (vs := [(vs cr_17j4.c7)]) (nb rfl) rfl)) ?_
         obtain ⟨f2U, f2V, c5t, d1a, h⟩ := h
         obtain ⟨e5K, f7H, f2W, d1a⟩ := d1a
         refine o3 (W4 f2W _ _ _ _ f2U f2V) ?_
         refine E8 (ldA (vs := (c8 c5t)) Tryd.isAgg30 Tryd.sizeOf30 rfl (b4b.atH d1a)) ?_
         refine E8 (ld1 Tryd.isAgg28 (b4b.at1 (o := 2) (vs := [(vs cr_22j4.c7)]) (nb rfl) rfl)) ?_
         obtain ⟨d1b, f2X, c5u, c1K, h⟩ := h
         obtain ⟨f7I, f7J, d1c, c1K⟩ := c1K
         refine o3 (W4 d1c _ _ _ _ d1b f2X) ?_
         refine E8 (ldA (vs := (c8 c5u)) Tryd.isAgg30 Tryd.sizeOf30 rfl (b4b.atH c1K)) ?_
         refine d7 (cap := []) (fun args w => Tryd.call88 args w) ?_
         refine i6 (Fi := []) (Fr := [bx gbr_22j4 88 (b8 cr_22j4), bx gbr_17j4 88 (b8 cr_17j4)]) b4b (h) (fun f7K c1I f7L a3I e5L f5E f7M f2Y => ?_) (fun _ _ _ _ _ q => q.elim)
         obtain ⟨c1H, rfl, rfl, h⟩ := f2Y
         refine o3 (p7 _) ?_
         refine m5 (fun c5F => ?_) (fun c5F => ?_)
         ·replace h := h.1 c5F
          exact hR false c1I _ e5L.drop.drop h
         ·replace h := h.2 c5F
          refine a8 (s6 _ _ _ _ _ _) ?_
          exact hn6 _ _ _ (hm6 _ _ h).2 ⟨(IntKind.wrap .i64 (a5a + 1)), c1I, rfl, rfl, ((e5L.bring 1).bring 1), (hm6 _ _ h).1⟩
        ·replace h := h.2 c5E
         exact hx3 _ _ (hj3 H _ I.drop.drop h)
       refine t7 fun j5 hx5 => ?_
       obtain ⟨c5G, b7c, e9N, e9O⟩ := h
       refine y9 (J := fun n l w => ∃ (s : Int) (H : Hp) , n = b7c s ∧ l = [(vi s)] ∧ Inv w0 ps0 H0 H [bx gbr_22j4 88 (b8 cr_22j4), bx gbr_17j4 88 (b8 cr_17j4)] w ∧ c5G s H) ⟨_, 0, a5c, rfl, rfl, ((c5B.bring 1).bring 1), e9N⟩ ?_
       rintro f5F τ_118 w next7 ⟨a5b, H, rfl, d3G, I, e9P⟩ hn7
       simp only [List.map_cons, List.map_nil, List.cons.injEq, and_true] at d3G
       have e8 := d3G
       simp only [e8]
       obtain ⟨n7, hm7, h⟩ : ∃ n7 : Int → Hp → Prop, (∀ s' H', n7 s' H' → c5G s' H' ∧ b7c s' < b7c a5b) ∧ E6 x0 x1 D5 cr_22j4 cr_17j4 a5b H n2 n7 K := ⟨_, fun _ _ h => h, e9O a5b H (fun s' H' => c5G s' H' ∧ b7c s' < b7c a5b) e9P (fun _ _ a b => ⟨a, b⟩)⟩
       unfold c8p
       unfold E6 at h
       refine a8 F5 ?_
       refine b7 (ld1 Tryd.isAgg31 ((I.bring 1).at1 (o := 3) (vs := [(vs cr_17j4.f5)]) (nb rfl) rfl)) ?_
       refine a8 (C8 _ _ _) ?_
       refine a8 (C4 _ _ _ _ _ _) ?_
       refine h9 (fun c5H => ?_) (fun c5H => ?_)
       ·replace h := h.1 c5H
        refine a4O I fun d9P b5G => ?_
        refine o3 F5 ?_
        refine o3 F5 ?_
        refine E8 (ld1 Tryd.isAgg31 ((b5G.bring 1).at1 (o := 3) (vs := [(vs cr_17j4.f5)]) (nb rfl) rfl)) ?_
        obtain ⟨d1d, f2Z, c5v, b5H, h⟩ := h
        obtain ⟨f7N, f7O, f3a, b5H⟩ := b5H
        refine o3 (a1E f3a _ _ _ _ d1d f2Z) ?_
        refine E8 (ldA (vs := (c6 c5v)) Tryd.isAgg33 Tryd.sizeOf33 rfl (b5G.atH b5H)) ?_
        refine E8 (ld1 Tryd.isAgg31 (b5G.at1 (o := 3) (vs := [(vs cr_22j4.f5)]) (nb rfl) rfl)) ?_
        obtain ⟨d1e, f3b, c5w, d1f, h⟩ := h
        obtain ⟨f7P, f7Q, d1g, d1f⟩ := d1f
        refine o3 (a1E d1g _ _ _ _ d1e f3b) ?_
        refine E8 (ldA (vs := (c6 c5w)) Tryd.isAgg33 Tryd.sizeOf33 rfl (b5G.atH d1f)) ?_
        refine d7 (cap := []) (fun args w => Tryd.call87 args w) ?_
        refine i6 (Fi := []) (Fr := [bx gbr_22j4 88 (b8 cr_22j4), bx gbr_17j4 88 (b8 cr_17j4)]) b5G (h) (fun f7R c1J f7S X8 e5M f7T f7U f3c => ?_) (fun _ _ _ _ _ q => q.elim)
        obtain ⟨c5x, rfl, rfl, h⟩ := f3c
        refine o3 (p7 _) ?_
        refine m5 (fun b5I => ?_) (fun b5I => ?_)
        ·replace h := h.1 b5I
         exact hR false c1J _ e5M.drop.drop h
        ·replace h := h.2 b5I
         refine a8 (s6 _ _ _ _ _ _) ?_
         exact hn7 _ _ _ (hm7 _ _ h).2 ⟨(IntKind.wrap .i64 (a5b + 1)), c1J, rfl, rfl, ((e5M.bring 1).bring 1), (hm7 _ _ h).1⟩
       ·replace h := h.2 c5H
        exact hx5 _ _ (hj5 H _ ((I.bring 1).bring 1) h)
   refine t7 fun j4 hx4 => ?_
   refine a4O I fun w_1 I_2 => ?_
   obtain ⟨h_6, h_7, x_3, h_9, h⟩ := h
   obtain ⟨g_4, o_5, h_8, h_9⟩ := h_9
   refine o3 (a2W h_8 _ _ _ _ h_6 h_7) ?_
   obtain ⟨d1h, d1i, a3M, a3g, h⟩ := h
   obtain ⟨f3d, f3e, d1j, a3g⟩ := a3g
   refine o3 (a2W d1j _ _ _ _ d1h d1i) ?_
   refine E8 (ldA (vs := (b8 x_3)) Tryd.isAgg88 Tryd.sizeOf88 rfl (I_2.atH h_9)) ?_
   refine E8 (ldA (vs := (b8 a3M)) Tryd.isAgg88 Tryd.sizeOf88 rfl (I_2.atH a3g)) ?_
   refine ⟨?_, ?_⟩
   ·refine C1 I_2 Tryd.zeroValue88 (cs := [(vi 0), (Value.string ⟨#[]⟩), (Value.slice none 0 0), (Value.slice none 0 0), (Value.slice none 0 0), (Value.slice none 0 0)]) rfl fun f3f a7G b4c c5I => ?_
    refine ⟨(c5I _ (I_2.a7r a3g)), (c5I _ (I_2.a7r h_9)), ?_⟩
    refine C1 b4c Tryd.zeroValue88 (cs := [(vi 0), (Value.string ⟨#[]⟩), (Value.slice none 0 0), (Value.slice none 0 0), (Value.slice none 0 0), (Value.slice none 0 0)]) rfl fun f3g p8 a5d c5J => ?_
    refine ⟨(c5J _ (b4c.a7r a3g)), (c5J _ (b4c.a7r h_9)), ?_⟩
    refine o8 (a5d.bring 1) Tryd.sizeOf88 (vs := (b8 x_3)) (cs' := (b8 x_3)) rfl rfl (nb rfl) rfl rfl fun a6c b0z d1k => ?_
    refine ⟨(d1k _ (Inv.d7s (a5d.bring 1) a3g)), ?_⟩
    refine o8 (b0z.bring 1) Tryd.sizeOf88 (vs := (b8 a3M)) (cs' := (b8 a3M)) rfl rfl (nb rfl) rfl rfl fun o5 L9 a4g => ?_
    exact hx4 _ _ (hj4 a3M x_3 f3g f3f H _ ((L9.bring 1).bring 1) h)
   ·refine C1 I_2 Tryd.zeroValue88 (cs := [(vi 0), (Value.string ⟨#[]⟩), (Value.slice none 0 0), (Value.slice none 0 0), (Value.slice none 0 0), (Value.slice none 0 0)]) rfl fun e9Q a8b b1V c5K => ?_
    refine ⟨(c5K _ (I_2.a7r a3g)), (c5K _ (I_2.a7r h_9)), ?_⟩
    refine C1 b1V Tryd.zeroValue88 (cs := [(vi 0), (Value.string ⟨#[]⟩), (Value.slice none 0 0), (Value.slice none 0 0), (Value.slice none 0 0), (Value.slice none 0 0)]) rfl fun e9R f5G d3H d3I => ?_
    refine ⟨(d3I _ (b1V.a7r a3g)), (d3I _ (b1V.a7r h_9)), ?_⟩
    refine o8 d3H Tryd.sizeOf88 (vs := (b8 x_3)) (cs' := (b8 x_3)) rfl rfl (nb rfl) rfl rfl fun b9m e9S e9T => ?_
    refine ⟨(e9T _ (Inv.d7s d3H a3g)), ?_⟩
    refine o8 (e9S.bring 1) Tryd.sizeOf88 (vs := (b8 a3M)) (cs' := (b8 a3M)) rfl rfl (nb rfl) rfl rfl fun f5H e9U f5I => ?_
    exact hx4 _ _ (hj4 a3M x_3 e9Q e9R H _ ((e9U.bring 1).bring 1) h)
  ·replace h := h.2 c5A
   exact hx1 _ _ (hj1 H _ I h)
theorem a6E (x0 : Sl) (x1 : Sl) {H : Hp} {K : Bool → Hp → Prop} (h : R9 x0 x1 H K) : B1 x0 x1 H K := by
 intro w I
 refine d8L ?_
 refine a6n x0 x1 I (fun r0 H' w' I' hk => ⟨H', _, I', r0, rfl, rfl, hk⟩) h
def K6 (b4P : Bool) (cr_6j2 : E2) (_cr_1j2 : L1) (H : Hp) (K : Bool → Hp → Prop) : Prop :=
 (b4P = true →
 K (decide (cr_6j2.fexprs = 0 ∧ cr_6j2.fparts = 2)) H) ∧
 (b4P = false →
 K false H)
def K7 (a4n : Int) (b4Q : Bool) (cr_6j1 : E2) (cr_1j1 : L1) (H : Hp) (K : Bool → Hp → Prop) : Prop :=
 (b4Q = true →
 K (decide (cr_6j1.fexprs = 0 ∧ cr_6j1.fparts = 0)) H) ∧
 (b4Q = false →
 (a4n = 4 →
 K (decide (cr_6j1.fexprs = 0 ∧ cr_6j1.fparts = 1)) H) ∧
 (¬ (a4n = 4) →
 (a4n = 5 →
 K6 (decide (a4n = 5)) cr_6j1 cr_1j1 H K) ∧
 (¬ (a4n = 5) →
 K6 (decide (a4n = 6)) cr_6j1 cr_1j1 H K)))
def a0d (x0 : L1) (H : Hp) (K : Bool → Hp → Prop) : Prop :=
 (x0.i5.d4 = 3 →
 K (((decide (1 ≤ x0.i5.fOp)) && (decide (x0.i5.fOp ≤ 6))) && (decide ((x0.i5.c7.n : Int) = 2 ∧ (x0.i5.j9.n : Int) = 0))) H) ∧
 (¬ (x0.i5.d4 = 3) →
 (¬ (x0.i5.fOp = 0) →
 K false H) ∧
 (x0.i5.fOp = 0 →
 (x0.i5.d4 = 1 →
 K7 x0.i5.d4 (decide (x0.i5.d4 = 1)) (E2.mk (x0.i5.c7.n : Int) (x0.i5.j9.n : Int)) x0 H K) ∧
 (¬ (x0.i5.d4 = 1) →
 K7 x0.i5.d4 (decide (x0.i5.d4 = 2)) (E2.mk (x0.i5.c7.n : Int) (x0.i5.j9.n : Int)) x0 H K)))
theorem a9b (x0 : L1) {w0 w : World} {ps0 : Nat → Prop} {H0 H : Hp} {K : Bool → Hp → Prop} {R : Value → World → Prop} {E : Pan} (I : Inv w0 ps0 H0 H [] w) (hR : ∀ (r0 : Bool) (H' : Hp) (w' : World) (_ : Inv w0 ps0 H0 H' [] w') (_ : K r0 H'), R (Value.bool r0) w') (h : a0d x0 H K) : c5j (Value.agg (c6 x0.i5).toArray) w R E := by
 unfold a0d at h
 unfold c5j
 refine D8 I (cs := (c6 x0.i5)) rfl fun g_2 w_3 I_4 k_5 => ?_
 refine a8 U7 ?_
 refine a8 F1 ?_
 refine b7 (ld1 Tryd.isAgg28 (I_4.at1 (o := 2) (vs := [(vs x0.i5.c7)]) (nb rfl) rfl)) ?_
 refine a8 (q7 _ _ _) ?_
 refine a8 U7 ?_
 refine a8 F3 ?_
 refine b7 (ld1 Tryd.isAgg31 (I_4.at1 (o := 3) (vs := [(vs x0.i5.j9)]) (nb rfl) rfl)) ?_
 refine a8 (C8 _ _ _) ?_
 refine a8 (a1B _ _) ?_
 refine C1 I_4 Tryd.zeroValue209 (cs := [(vi 0), (vi 0)]) rfl fun g_7 w_8 I_9 a7H => ?_
 refine o8 I_9 Tryd.sizeOf209 (vs := [(vi (x0.i5.c7.n : Int)), (vi (x0.i5.j9.n : Int))]) (cs' := [(vi (x0.i5.c7.n : Int)), (vi (x0.i5.j9.n : Int))]) rfl rfl (nb rfl) rfl rfl fun a1m C3 b8k => ?_
 refine a8 U7 ?_
 refine a8 a2V ?_
 refine b7 (ld1 Tryd.isAgg3 ((C3.bring 1).at1 (o := 0) (vs := [(vi x0.i5.d4)]) (nb rfl) rfl)) ?_
 refine a8 (f7 _ _ _ _ _ _) ?_
 refine h9 (fun a9c => ?_) (fun a9c => ?_)
 ·replace h := h.1 a9c
  refine a8 U7 ?_
  refine a8 K1 ?_
  refine b7 (ld1 Tryd.isAgg3 ((C3.bring 1).at1 (o := 1) (vs := [(vi x0.i5.fOp)]) (nb rfl) rfl)) ?_
  refine a8 (b6x _ _ _ _ _ _) ?_
  refine a8 (Pu.g fun hb => by have a7 := hb; first | exact U7 | (simp only [b5 a7, b3 a7, b3 hb, q8 a7]; exact U7) | (simp only [b5 a7, b3 a7, b3 hb, d9 a7, d6]; exact U7)) ?_
  refine a8 (Pu.g fun hb => by have a7 := hb; first | exact K1 | (simp only [b3 a7]; exact K1) | (simp only [b5 a7, b3 a7, b3 hb, d9 a7, d6]; exact K1)) ?_
  refine b7 (Ld.g fun hb => by have a7 := hb; first | exact (ld1 Tryd.isAgg3 ((C3.bring 1).at1 (o := 1) (vs := [(vi x0.i5.fOp)]) (nb rfl) rfl)) | (simp only [b3 a7]; exact (ld1 Tryd.isAgg3 ((C3.bring 1).at1 (o := 1) (vs := [(vi x0.i5.fOp)]) (nb rfl) rfl))) | (simp only [b5 a7, b3 a7, b3 hb, d9 a7, d6]; exact (ld1 Tryd.isAgg3 ((C3.bring 1).at1 (o := 1) (vs := [(vi x0.i5.fOp)]) (nb rfl) rfl)))) ?_
  refine a8 (Pu.g fun hb => by have a7 := hb; first | exact (a4z _ _ _ _ _ _) | (simp only [b3 a7]; exact (a4z _ _ _ _ _ _)) | (simp only [b5 a7, b3 a7, b3 hb, d9 a7, d6]; exact (a4z _ _ _ _ _ _))) ?_
  refine a8 (u5 _ _) ?_
  refine b7 (Ld.g fun hb => by have a7 := hb; first | exact (ldA Tryd.isAgg209 Tryd.sizeOf209 rfl (C3.at1 (o := 0) (vs := [(vi (x0.i5.c7.n : Int)), (vi (x0.i5.j9.n : Int))]) (nb rfl) rfl)) | (simp only [b5 a7, b3 a7, b3 hb, q8 a7]; exact (ldA Tryd.isAgg209 Tryd.sizeOf209 rfl (C3.at1 (o := 0) (vs := [(vi (x0.i5.c7.n : Int)), (vi (x0.i5.j9.n : Int))]) (nb rfl) rfl))) | (simp only [b5 a7, b3 a7, b3 hb, d9 a7, d6]; exact (ldA Tryd.isAgg209 Tryd.sizeOf209 rfl (C3.at1 (o := 0) (vs := [(vi (x0.i5.c7.n : Int)), (vi (x0.i5.j9.n : Int))]) (nb rfl) rfl)))) ?_
  refine a8 (Pu.g fun hb => by have a7 := hb; first | exact (a1B _ _) | (simp only [b5 a7, b3 a7, b3 hb, q8 a7]; exact (a1B _ _)) | (simp only [b5 a7, b3 a7, b3 hb, d9 a7, d6]; exact (a1B _ _))) ?_
  refine a8 (Pu.g fun hb => by have a7 := hb; first | exact (a5x _ _ _ _ _ _) | (simp only [b3 a7]; exact (a5x _ _ _ _ _ _)) | (simp only [b5 a7, b3 a7, b3 hb, d9 a7, d6]; exact (a5x _ _ _ _ _ _))) ?_
  refine a8 (u5 _ _) ?_
  exact hR (((decide (1 ≤ x0.i5.fOp)) && (decide (x0.i5.fOp ≤ 6))) && (decide ((x0.i5.c7.n : Int) = 2 ∧ (x0.i5.j9.n : Int) = 0))) H _ C3.drop.drop h
 ·replace h := h.2 a9c
  refine a8 U7 ?_
  refine a8 K1 ?_
  refine b7 (ld1 Tryd.isAgg3 ((C3.bring 1).at1 (o := 1) (vs := [(vi x0.i5.fOp)]) (nb rfl) rfl)) ?_
  refine a8 (t1 _ _ _ _ _ _) ?_
  refine a2L (fun a9d => ?_) (fun a9d => ?_)
  ·replace h := h.1 a9d
   exact hR false H _ C3.drop.drop h
  ·replace h := h.2 a9d
   refine a8 U7 ?_
   refine a8 a2V ?_
   refine b7 (ld1 Tryd.isAgg3 ((C3.bring 1).at1 (o := 0) (vs := [(vi x0.i5.d4)]) (nb rfl) rfl)) ?_
   have hj1 : ∀ (b4Q : Bool) (H : Hp) (w : World) (_ : Inv w0 ps0 H0 H [bx g_7 209 [(vi (E2.mk (x0.i5.c7.n : Int) (x0.i5.j9.n : Int)).fexprs), (vi (E2.mk (x0.i5.c7.n : Int) (x0.i5.j9.n : Int)).fparts)], bx g_2 106 (c6 x0.i5)] w) (_ : K7 x0.i5.d4 b4Q (E2.mk (x0.i5.c7.n : Int) (x0.i5.j9.n : Int)) x0 H K), b8e (Value.pointer (some ⟨g_7, 0, none⟩)) (vi x0.i5.d4) (Value.bool b4Q) w R E := by
    intro b4Q H w I h
    unfold b8e
    intro _
    unfold K7 at h
    refine m5 (fun a5e => ?_) (fun a5e => ?_)
    ·replace h := h.1 a5e
     refine b7 (ldA Tryd.isAgg209 Tryd.sizeOf209 rfl (I.at1 (o := 0) (vs := [(vi (E2.mk (x0.i5.c7.n : Int) (x0.i5.j9.n : Int)).fexprs), (vi (E2.mk (x0.i5.c7.n : Int) (x0.i5.j9.n : Int)).fparts)]) (nb rfl) rfl)) ?_
     refine a8 (c4A ) ?_
     refine a8 (a5x _ _ _ _ _ _) ?_
     exact hR (decide ((E2.mk (x0.i5.c7.n : Int) (x0.i5.j9.n : Int)).fexprs = 0 ∧ (E2.mk (x0.i5.c7.n : Int) (x0.i5.j9.n : Int)).fparts = 0)) H _ I.drop.drop h
    ·replace h := h.2 a5e
     refine a8 (f7 _ _ _ _ _ _) ?_
     refine h9 (fun a9e => ?_) (fun a9e => ?_)
     ·replace h := h.1 a9e
      refine b7 (ldA Tryd.isAgg209 Tryd.sizeOf209 rfl (I.at1 (o := 0) (vs := [(vi (E2.mk (x0.i5.c7.n : Int) (x0.i5.j9.n : Int)).fexprs), (vi (E2.mk (x0.i5.c7.n : Int) (x0.i5.j9.n : Int)).fparts)]) (nb rfl) rfl)) ?_
      refine a8 (a1B _ _) ?_
      refine a8 (a5x _ _ _ _ _ _) ?_
      exact hR (decide ((E2.mk (x0.i5.c7.n : Int) (x0.i5.j9.n : Int)).fexprs = 0 ∧ (E2.mk (x0.i5.c7.n : Int) (x0.i5.j9.n : Int)).fparts = 1)) H _ I.drop.drop h
     ·replace h := h.2 a9e
      have hj2 : ∀ (b4P : Bool) (H : Hp) (w : World) (_ : Inv w0 ps0 H0 H [bx g_7 209 [(vi (E2.mk (x0.i5.c7.n : Int) (x0.i5.j9.n : Int)).fexprs), (vi (E2.mk (x0.i5.c7.n : Int) (x0.i5.j9.n : Int)).fparts)], bx g_2 106 (c6 x0.i5)] w) (_ : K6 b4P (E2.mk (x0.i5.c7.n : Int) (x0.i5.j9.n : Int)) x0 H K), b8d (Value.pointer (some ⟨g_7, 0, none⟩)) (Value.bool b4P) w R E := by
       intro b4P H w I h
       unfold b8d
       intro _
       unfold K6 at h
       refine m5 (fun a9f => ?_) (fun a9f => ?_)
       ·replace h := h.1 a9f
        refine b7 (ldA Tryd.isAgg209 Tryd.sizeOf209 rfl (I.at1 (o := 0) (vs := [(vi (E2.mk (x0.i5.c7.n : Int) (x0.i5.j9.n : Int)).fexprs), (vi (E2.mk (x0.i5.c7.n : Int) (x0.i5.j9.n : Int)).fparts)]) (nb rfl) rfl)) ?_
        refine a8 (a1B _ _) ?_
        refine a8 (a5x _ _ _ _ _ _) ?_
        exact hR (decide ((E2.mk (x0.i5.c7.n : Int) (x0.i5.j9.n : Int)).fexprs = 0 ∧ (E2.mk (x0.i5.c7.n : Int) (x0.i5.j9.n : Int)).fparts = 2)) H _ I.drop.drop h
       ·replace h := h.2 a9f
        exact hR false H _ I.drop.drop h
      refine t7 fun j2 hx2 => ?_
      refine a8 (f7 _ _ _ _ _ _) ?_
      refine h9 (fun a3h => ?_) (fun a3h => ?_)
      ·replace h := h.1 a3h
       exact hx2 _ _ (hj2 (decide (x0.i5.d4 = 5)) H _ ((I.bring 1).bring 1) h)
      ·replace h := h.2 a3h
       refine a8 (f7 _ _ _ _ _ _) ?_
       exact hx2 _ _ (hj2 (decide (x0.i5.d4 = 6)) H _ ((I.bring 1).bring 1) h)
   refine t7 fun j1 hx1 => ?_
   refine a8 (f7 _ _ _ _ _ _) ?_
   refine h9 (fun a5f => ?_) (fun a5f => ?_)
   ·replace h := h.1 a5f
    exact hx1 _ _ (hj1 (decide (x0.i5.d4 = 1)) H _ ((C3.bring 1).bring 1) h)
   ·replace h := h.2 a5f
    refine a8 (f7 _ _ _ _ _ _) ?_
    exact hx1 _ _ (hj1 (decide (x0.i5.d4 = 2)) H _ ((C3.bring 1).bring 1) h)
theorem a9F (x0 : L1) {H : Hp} {K : Bool → Hp → Prop} (h : a0d x0 H K) : a1W x0 H K := by
 intro w I
 refine d6e ?_
 refine a9b x0 I (fun r0 H' w' I' hk => ⟨H', _, I', r0, rfl, rfl, hk⟩) h
def v6 (Y1 : (List b9)) (H : Hp) (K : Sl → Hp → Prop) : Prop :=
 ∀ (F7 : Sl) (a0s : Hp), Hle H a0s → SlH a0s 1 m6 F7 Y1 → F7.n ≤ F7.c →
 K F7 a0s
def v7 (N2 : Sl) (a6o : Int) (s7 : (List b9)) (p6 : Int) (H : Hp) (n2 : ((List b9) × Int) → Hp → Prop) (K : Sl → Hp → Prop) : Prop :=
 (p6 < a6o →
 (0 : Int) ≤ p6 ∧ (p6 : Int) < N2.n ∧ ∃ x_1 : g9, EltH H N2 p6 4 (c6 x_1) ∧
 a6l x_1 H (fun (R4 : b9) (a2R : Hp) =>
 (s7.length + ([R4] : List b9).length) * 17 ≤ 140737488355328 ∧
 n2 ((s7 ++ [R4]), (IntKind.wrap .i64 (p6 + 1))) a2R)) ∧
 (¬ (p6 < a6o) →
 v6 s7 H K)
def z6 (x0 : Sl) (H : Hp) (K : Sl → Hp → Prop) : Prop :=
 TL (([], 0) : (List b9) × Int) H fun (s : (List b9) × Int) H n2 => v7 x0 (x0.n : Int) s.1 s.2 H n2 K
theorem a0l (x0 : Sl) {w0 w : World} {ps0 : Nat → Prop} {H0 H : Hp} {K : Sl → Hp → Prop} {R : Value → World → Prop} {E : Pan} (I : Inv w0 ps0 H0 H [] w) (hR : ∀ (r0 : Sl) (H' : Hp) (w' : World) (_ : Inv w0 ps0 H0 H' [] w') (_ : K r0 H'), R (vs r0) w') (h : z6 x0 H K) : c5m (vs x0) (Value.func (.func 155) #[] #[]) w R E := by
 unfold z6 at h
 unfold c5m
 have hj1 : ∀ (Y1 : (List b9)) (F7 : Sl) (Fs5j1 : Frag) (H : Hp) (w : World) (_ : RowL 141 1 m6 F7 Y1 Fs5j1) (_ : Inv w0 ps0 H0 H [Fs5j1] w) (_ : v6 Y1 H K), b8f (vs F7) w R E := by
  intro Y1 F7 Fs5j1 H w b1W I h
  unfold b8f
  intro _
  unfold v6 at h
  obtain ⟨a0s, a1Z, b4d, b1X, a6W⟩ := Inv.freezeC I b1W (by decide)
  replace h := h F7 a0s b4d b1X a6W
  exact hR F7 a0s _ a1Z h
 refine t7 fun j1 hx1 => ?_
 refine a8 (C8 _ _ _) ?_
 obtain ⟨a5g, a1H, b5J, a2x⟩ := h
 refine y9 (J := fun n l w => ∃ (s : (List b9) × Int) (H : Hp) (Y2 : Sl) (Fs5l2 : Frag) , n = a1H s ∧ l = (match s with | (s7, p6) => [(vs Y2), (vi p6)]) ∧ (match s with | (s7, p6) => RowL 141 1 m6 Y2 s7 Fs5l2) ∧ (match s with | (s7, p6) => Inv w0 ps0 H0 H [Fs5l2] w) ∧ a5g s H) ⟨_, ([], 0), H, (Sl.mk none 0 0), [], rfl, rfl, (RowL.nil N0 R1), I.nil, b5J⟩ ?_
 rintro d1l τ_50 w next2 ⟨⟨s7, p6⟩, H, Y2, Fs5l2, rfl, a5h, a3i, I, b5K⟩ hn2
 dsimp only at a5h I a3i
 simp only [List.map_cons, List.map_nil, List.cons.injEq, and_true] at a5h
 obtain ⟨e5, e10⟩ := a5h
 simp only [e5, e10]
 obtain ⟨n2, hm2, h⟩ : ∃ n2 : ((List b9) × Int) → Hp → Prop, (∀ s' H', n2 s' H' → a5g s' H' ∧ a1H s' < a1H (s7, p6)) ∧ v7 x0 (x0.n : Int) s7 p6 H n2 K := ⟨_, fun _ _ h => h, a2x (s7, p6) H (fun s' H' => a5g s' H' ∧ a1H s' < a1H (s7, p6)) b5K (fun _ _ a b => ⟨a, b⟩)⟩
 unfold c4b
 unfold v7 at h
 refine a8 (C4 _ _ _ _ _ _) ?_
 refine h9 (fun a3j => ?_) (fun a3j => ?_)
 ·replace h := h.1 a3j
  obtain ⟨h_4, h_5, x_1, h_7, h⟩ := h
  obtain ⟨g_2, o_3, h_6, h_7⟩ := h_7
  refine a8 (a1E h_6 _ _ _ _ h_4 h_5) ?_
  refine b7 (ldA (vs := (c6 x_1)) Tryd.isAgg33 Tryd.sizeOf33 rfl (I.atH h_7)) ?_
  refine C1 I Tryd.zeroValue33 (cs := [(vi 0), (vi 0), (Value.slice none 0 0), (Value.slice none 0 0)]) rfl fun g_9 k9 a1q b0x => ?_
  refine o8 a1q Tryd.sizeOf33 (vs := (c6 x_1)) (cs' := (c6 x_1)) rfl rfl (nb rfl) rfl rfl fun a2N a1Y b5D => ?_
  refine b7 (ldA Tryd.isAgg33 Tryd.sizeOf33 rfl (a1Y.at1 (o := 0) (vs := (c6 x_1)) (nb rfl) rfl)) ?_
  refine d7 (cap := []) (fun args w => Tryd.call155 args w) ?_
  refine i6 (Fi := []) (Fr := [bx g_9 33 (c6 x_1), Fs5l2]) a1Y (h) (fun c5L a2R c5M a3J a3k c5N c1L b1Y => ?_) (fun _ _ _ _ _ q => q.elim)
  obtain ⟨R4, rfl, rfl, h⟩ := b1Y
  refine a6N (e := 141) (c := m6) (xs := [R4]) a3k (b4G _) rfl rfl N0 R1 (nb rfl) fun b5L b8l u7 b1Z a6X c5O => ?_
  obtain ⟨b2a, h⟩ := h
  refine b3j (s := Y2) (xs := s7) (a6X.bring 2) a3i (b1Z.srcO ((a6X.bring 2).bring 1)) b2a fun b5M b5N v2 b2b a7N c5P => ?_
  refine a8 (s6 _ _ _ _ _ _) ?_
  exact hn2 _ _ _ (hm2 _ _ h).2 ⟨((s7 ++ [R4]), (IntKind.wrap .i64 (p6 + 1))), a2R, b5M, b5N, rfl, rfl, b2b, ((a7N.bring 1).drop.bring 1).drop, (hm2 _ _ h).1⟩
 ·replace h := h.2 a3j
  exact hx1 _ _ (hj1 s7 Y2 Fs5l2 H _ a3i I h)
theorem a0t (x0 : Sl) {H : Hp} {K : Sl → Hp → Prop} (h : z6 x0 H K) : z2 x0 H K := by
 intro w I
 refine d6i ?_
 refine a0l x0 I (fun r0 H' w' I' hk => ⟨H', _, I', r0, rfl, rfl, hk⟩) h
def Y3 (x0 : L1) (H : Hp) (K : Sl → Hp → Prop) : Prop :=
 r5 x0.i5.c7 H (fun (a6p : Sl) (H_8 : Hp) =>
 z2 x0.i5.j9 H_8 (fun (a6q : Sl) (b4e : Hp) =>
 ∀ (a6Y : Sl) (a1r : Hp), Hle b4e a1r → SlH a1r 1 csl a6Y [a6p, a6q] → a6Y.n ≤ a6Y.c →
 y7 a6Y a1r (fun (J0 : Sl) (O6 : Hp) =>
 K J0 O6)))
theorem a8f (x0 : L1) {w0 w : World} {ps0 : Nat → Prop} {H0 H : Hp} {K : Sl → Hp → Prop} {R : Value → World → Prop} {E : Pan} (I : Inv w0 ps0 H0 H [] w) (hR : ∀ (r0 : Sl) (H' : Hp) (w' : World) (_ : Inv w0 ps0 H0 H' [] w') (_ : K r0 H'), R (vs r0) w') (h : Y3 x0 H K) : c5l (Value.agg (c6 x0.i5).toArray) w R E := by
 unfold Y3 at h
 unfold c5l
 refine D8 I (cs := (c6 x0.i5)) rfl fun g_2 w_3 I_4 k_5 => ?_
 refine a4O I_4 fun w_6 I_7 => ?_
 refine o3 U7 ?_
 refine o3 F1 ?_
 refine o3 U7 ?_
 refine o3 F3 ?_
 refine E8 (ld1 Tryd.isAgg28 (I_7.at1 (o := 2) (vs := [(vs x0.i5.c7)]) (nb rfl) rfl)) ?_
 refine E8 (ld1 Tryd.isAgg31 (I_7.at1 (o := 3) (vs := [(vs x0.i5.j9)]) (nb rfl) rfl)) ?_
 refine d7 (cap := []) (fun args w => Tryd.call150 args w) ?_
 refine i6 (Fi := []) (Fr := [bx g_2 106 (c6 x0.i5)]) I_7 (h) (fun e5N H_8 e5O w_9 b2c b8m b5O c1M => ?_) (fun _ _ _ _ _ q => q.elim)
 obtain ⟨a6p, rfl, rfl, h⟩ := c1M
 refine ⟨(b5O _ I_7.lt1 (Inv.a5M (Fi := []) I_7)), ?_⟩
 refine d7 (cap := []) (fun args w => Tryd.call154 args w) ?_
 refine i6 (Fi := []) (Fr := [bx g_2 106 (c6 x0.i5)]) b2c (h) (fun e5P b4e e5Q p9 b2d e5R c1N c1O => ?_) (fun _ _ _ _ _ q => q.elim)
 obtain ⟨a6q, rfl, rfl, h⟩ := c1O
 refine a6N (e := 97) (c := csl) (xs := [a6p, a6q]) b2d (b9L _ _ _ _ _ _) rfl rfl b9i b9j (nb rfl) fun a6Y e5S d0K d1m L9 a4g => ?_
 obtain ⟨a1r, c1P, c1m, c1Q, d1n⟩ := Inv.freezeC L9 d1m (by decide)
 replace h := h a6Y a1r c1m c1Q d1n
 refine d7 (cap := []) (fun args w => Tryd.call94 args w) ?_
 refine i6 (Fi := []) (Fr := [bx g_2 106 (c6 x0.i5)]) c1P (h) (fun b0A O6 c5Q a6d a1Z b4f b4g b2e => ?_) (fun _ _ _ _ _ q => q.elim)
 obtain ⟨J0, rfl, rfl, h⟩ := b2e
 exact hR J0 O6 _ a1Z.drop h
theorem a9g (x0 : L1) {H : Hp} {K : Sl → Hp → Prop} (h : Y3 x0 H K) : a4b x0 H K := by
 intro w I
 refine d6g ?_
 refine a8f x0 I (fun r0 H' w' I' hk => ⟨H', _, I', r0, rfl, rfl, hk⟩) h
end Go.Proofs.YthldnpmfelniiaaDoor
