/- Typed formulas of the program's functions, and the theorems that the contracts follow from them; printed by lift.py off the code. -/
import Derived.Test.YthldnpmfelniiaaDoorzVV1
namespace Go.Proofs.YthldnpmfelniiaaDoor
open Go.RowKit
set_option maxRecDepth 100000
set_option maxHeartbeats 2000000
def S5 (x0 : f7) (H : Hp) (K : a8 → Hp → Prop) : Prop :=
 K (a8.A4 (E3.mk x0)) H
theorem a5E (x0 : f7) {w0 w : World} {ps0 : Nat → Prop} {H0 H : Hp} {K : a8 → Hp → Prop} {R : Value → World → Prop} {E : Pan} (I : Inv w0 ps0 H0 H [] w) (hR : ∀ (r0 : a8) (H' : Hp) (w' : World) (_ : Inv w0 ps0 H0 H' [] w') (_ : K r0 H'), R (m3 r0) w') (h : S5 x0 H K) : F96 (Value.agg (c7 x0).toArray) w R E := by
 unfold S5 at h
 unfold F96
 refine J2 I (cs := (c7 x0)) rfl fun g_2 w_3 I_4 k_5 => ?_
 refine b9 (ldA Tryd.isAgg67 Tryd.sizeOf67 rfl (I_4.at1 (o := 0) (vs := (c7 x0)) (nb rfl) rfl)) ?_
 refine a6 (b3o _ _) ?_
 refine a6 (b1d (E3.mk x0)) ?_
 exact hR (a8.A4 (E3.mk x0)) H _ I_4.drop h
theorem a6p (x0 : f7) {H : Hp} {K : a8 → Hp → Prop} (h : S5 x0 H K) : a2i x0 H K := by
 intro w I
 refine c8X ?_
 refine a5E x0 I (fun r0 H' w' I' hk => ⟨H', _, I', r0, rfl, rfl, hk⟩) h
def X7 (x0 : Int) (x1 : Int) (x2 : Int) (H : Hp) (K : Bool → Hp → Prop) : Prop :=
 K ((decide (x0 ≤ x2)) && (decide (x2 ≤ x1))) H
theorem a5s (x0 : Int) (x1 : Int) (x2 : Int) (g2 : Nat) {w0 w : World} {ps0 : Nat → Prop} {H0 H : Hp} {K : Bool → Hp → Prop} {R : Value → World → Prop} {E : Pan} (I : Inv w0 ps0 H0 H [bx g2 21 [(Value.int .i32 x2)]] w) (hR : ∀ (r0 : Bool) (H' : Hp) (w' : World) (_ : Inv w0 ps0 H0 H' [bx g2 21 [(Value.int .i32 x2)]] w') (_ : K r0 H'), R (Value.bool r0) w') (h : X7 x0 x1 x2 H K) : b6L (Value.int .i32 x0) (Value.int .i32 x1) (Value.pointer (some ⟨g2, 0, none⟩)) w R E := by
 unfold X7 at h
 unfold b6L
 refine b9 (ld1 Tryd.isAgg21 (I.at1 (o := 0) (vs := [(Value.int .i32 x2)]) (nb rfl) rfl)) ?_
 refine a6 (a1o _ _ _ _ _ _) ?_
 refine b9 (Ld.g fun hb => by have a7 := hb; first | exact (ld1 Tryd.isAgg21 (I.at1 (o := 0) (vs := [(Value.int .i32 x2)]) (nb rfl) rfl)) | (simp only [c8 a7, b5 a7, b5 hb, G2 a7]; exact (ld1 Tryd.isAgg21 (I.at1 (o := 0) (vs := [(Value.int .i32 x2)]) (nb rfl) rfl))) | (simp only [c8 a7, b5 a7, b5 hb, m5 a7, m4]; exact (ld1 Tryd.isAgg21 (I.at1 (o := 0) (vs := [(Value.int .i32 x2)]) (nb rfl) rfl)))) ?_
 try simp only [K6]
 refine a6 (Pu.g fun hb => by have a7 := hb; first | exact (a1o _ _ _ _ _ _) | (simp only [b5 a7]; exact (a1o _ _ _ _ _ _)) | (simp only [c8 a7, b5 a7, b5 hb, m5 a7, m4]; exact (a1o _ _ _ _ _ _))) ?_
 refine a6 (K1 _ _) ?_
 exact hR ((decide (x0 ≤ x2)) && (decide (x2 ≤ x1))) H _ I h
theorem a5F (x0 : Int) (x1 : Int) (x2 : Int) {H : Hp} {K : Bool → Hp → Prop} (h : X7 x0 x1 x2 H K) : z8 x0 x1 x2 H K := by
 intro g2 w I
 refine c5z ?_
 refine a5s x0 x1 x2 g2 I (fun r0 H' w' I' hk => ⟨H', _, I', r0, rfl, rfl, hk⟩) h
def W3 (x0 : ByteArray) (H : Hp) (K : Bool → Hp → Prop) : Prop :=
 L5 x0 H (fun (J5 : Int) (H_1 : Hp) =>
 K (decide (32 < J5)) H_1)
theorem a7E (x0 : ByteArray) {w0 w : World} {ps0 : Nat → Prop} {H0 H : Hp} {K : Bool → Hp → Prop} {R : Value → World → Prop} {E : Pan} (I : Inv w0 ps0 H0 H [] w) (hR : ∀ (r0 : Bool) (H' : Hp) (w' : World) (_ : Inv w0 ps0 H0 H' [] w') (_ : K r0 H'), R (Value.bool r0) w') (h : W3 x0 H K) : b6D (Value.string x0) w R E := by
 unfold W3 at h
 unfold b6D
 refine d6 (cap := []) (fun args w => Tryd.call130 args w) ?_
 refine i7 (Fi := []) (Fr := []) I (h) (fun v_5 H_1 F_6 w_2 I_3 l_8 k_4 q_7 => ?_) (fun _ _ _ _ _ q => q.elim)
 obtain ⟨J5, rfl, rfl, h⟩ := q_7
 refine a6 (a1p _ _ _ _ _ _) ?_
 exact hR (decide (32 < J5)) H_1 _ I_3 h
theorem a8D (x0 : ByteArray) {H : Hp} {K : Bool → Hp → Prop} (h : W3 x0 H K) : W1 x0 H K := by
 intro w I
 refine c5n ?_
 refine a7E x0 I (fun r0 H' w' I' hk => ⟨H', _, I', r0, rfl, rfl, hk⟩) h
def g9 (l7 : Bool) (H : Hp) (K : Bool → Hp → Prop) : Prop :=
 (l7 = true →
 K true H) ∧
 (l7 = false →
 K false H)
def W4 (x0 : ByteArray) (H : Hp) (K : Bool → Hp → Prop) : Prop :=
 (x0 = ⟨#[118, 97, 114]⟩ →
 g9 (decide (x0 = ⟨#[118, 97, 114]⟩)) H K) ∧
 (¬ (x0 = ⟨#[118, 97, 114]⟩) →
 (x0 = ⟨#[97, 114, 114, 97, 121]⟩ →
 g9 (decide (x0 = ⟨#[97, 114, 114, 97, 121]⟩)) H K) ∧
 (¬ (x0 = ⟨#[97, 114, 114, 97, 121]⟩) →
 (x0 = ⟨#[105, 102]⟩ →
 g9 (decide (x0 = ⟨#[105, 102]⟩)) H K) ∧
 (¬ (x0 = ⟨#[105, 102]⟩) →
 (x0 = ⟨#[101, 108, 115, 101]⟩ →
 g9 (decide (x0 = ⟨#[101, 108, 115, 101]⟩)) H K) ∧
 (¬ (x0 = ⟨#[101, 108, 115, 101]⟩) →
 (x0 = ⟨#[119, 104, 105, 108, 101]⟩ →
 g9 (decide (x0 = ⟨#[119, 104, 105, 108, 101]⟩)) H K) ∧
 (¬ (x0 = ⟨#[119, 104, 105, 108, 101]⟩) →
 (x0 = ⟨#[97, 115, 115, 101, 114, 116]⟩ →
 g9 (decide (x0 = ⟨#[97, 115, 115, 101, 114, 116]⟩)) H K) ∧
 (¬ (x0 = ⟨#[97, 115, 115, 101, 114, 116]⟩) →
 (x0 = ⟨#[97, 115, 115, 117, 109, 101]⟩ →
 g9 (decide (x0 = ⟨#[97, 115, 115, 117, 109, 101]⟩)) H K) ∧
 (¬ (x0 = ⟨#[97, 115, 115, 117, 109, 101]⟩) →
 (x0 = ⟨#[115, 107, 105, 112]⟩ →
 g9 (decide (x0 = ⟨#[115, 107, 105, 112]⟩)) H K) ∧
 (¬ (x0 = ⟨#[115, 107, 105, 112]⟩) →
 (x0 = ⟨#[105, 110, 112, 117, 116]⟩ →
 g9 (decide (x0 = ⟨#[105, 110, 112, 117, 116]⟩)) H K) ∧
 (¬ (x0 = ⟨#[105, 110, 112, 117, 116]⟩) →
 (x0 = ⟨#[116, 114, 117, 101]⟩ →
 g9 (decide (x0 = ⟨#[116, 114, 117, 101]⟩)) H K) ∧
 (¬ (x0 = ⟨#[116, 114, 117, 101]⟩) →
 g9 (decide (x0 = ⟨#[102, 97, 108, 115, 101]⟩)) H K))))))))))
theorem a7F (x0 : ByteArray) {w0 w : World} {ps0 : Nat → Prop} {H0 H : Hp} {K : Bool → Hp → Prop} {R : Value → World → Prop} {E : Pan} (I : Inv w0 ps0 H0 H [] w) (hR : ∀ (r0 : Bool) (H' : Hp) (w' : World) (_ : Inv w0 ps0 H0 H' [] w') (_ : K r0 H'), R (Value.bool r0) w') (h : W4 x0 H K) : b6E (Value.string x0) w R E := by
 unfold W4 at h
 unfold b6E
 have hj1 : ∀ (l7 : Bool) (H : Hp) (w : World) (_ : Inv w0 ps0 H0 H [] w) (_ : g9 l7 H K), b1m (Value.bool l7) w R E := by
  intro l7 H w I h
  unfold b1m
  intro _
  unfold g9 at h
  refine p5 (fun c_1 => ?_) (fun c_1 => ?_)
  ·replace h := h.1 c_1
   exact hR true H _ I h
  ·replace h := h.2 c_1
   exact hR false H _ I h
 refine u4 fun j1 hx1 => ?_
 refine a6 (Q9 _ _ _ _ _) ?_
 refine d8 (fun c1q => ?_) (fun c1q => ?_)
 ·replace h := h.1 c1q
  exact hx1 _ _ (hj1 (decide (x0 = ⟨#[118, 97, 114]⟩)) H _ I h)
 ·replace h := h.2 c1q
  refine a6 (Q9 _ _ _ _ _) ?_
  refine d8 (fun c1r => ?_) (fun c1r => ?_)
  ·replace h := h.1 c1r
   exact hx1 _ _ (hj1 (decide (x0 = ⟨#[97, 114, 114, 97, 121]⟩)) H _ I h)
  ·replace h := h.2 c1r
   refine a6 (Q9 _ _ _ _ _) ?_
   refine d8 (fun c_9 => ?_) (fun c_9 => ?_)
   ·replace h := h.1 c_9
    exact hx1 _ _ (hj1 (decide (x0 = ⟨#[105, 102]⟩)) H _ I h)
   ·replace h := h.2 c_9
    refine a6 (Q9 _ _ _ _ _) ?_
    refine d8 (fun c_8 => ?_) (fun c_8 => ?_)
    ·replace h := h.1 c_8
     exact hx1 _ _ (hj1 (decide (x0 = ⟨#[101, 108, 115, 101]⟩)) H _ I h)
    ·replace h := h.2 c_8
     refine a6 (Q9 _ _ _ _ _) ?_
     refine d8 (fun c_7 => ?_) (fun c_7 => ?_)
     ·replace h := h.1 c_7
      exact hx1 _ _ (hj1 (decide (x0 = ⟨#[119, 104, 105, 108, 101]⟩)) H _ I h)
     ·replace h := h.2 c_7
      refine a6 (Q9 _ _ _ _ _) ?_
      refine d8 (fun c_6 => ?_) (fun c_6 => ?_)
      ·replace h := h.1 c_6
       exact hx1 _ _ (hj1 (decide (x0 = ⟨#[97, 115, 115, 101, 114, 116]⟩)) H _ I h)
      ·replace h := h.2 c_6
       refine a6 (Q9 _ _ _ _ _) ?_
       refine d8 (fun c_5 => ?_) (fun c_5 => ?_)
       ·replace h := h.1 c_5
        exact hx1 _ _ (hj1 (decide (x0 = ⟨#[97, 115, 115, 117, 109, 101]⟩)) H _ I h)
       ·replace h := h.2 c_5
        refine a6 (Q9 _ _ _ _ _) ?_
        refine d8 (fun c_4 => ?_) (fun c_4 => ?_)
        ·replace h := h.1 c_4
         exact hx1 _ _ (hj1 (decide (x0 = ⟨#[115, 107, 105, 112]⟩)) H _ I h)
        ·replace h := h.2 c_4
         refine a6 (Q9 _ _ _ _ _) ?_
         refine d8 (fun c_3 => ?_) (fun c_3 => ?_)
         ·replace h := h.1 c_3
          exact hx1 _ _ (hj1 (decide (x0 = ⟨#[105, 110, 112, 117, 116]⟩)) H _ I h)
         ·replace h := h.2 c_3
          refine a6 (Q9 _ _ _ _ _) ?_
          refine d8 (fun c_2 => ?_) (fun c_2 => ?_)
          ·replace h := h.1 c_2
           exact hx1 _ _ (hj1 (decide (x0 = ⟨#[116, 114, 117, 101]⟩)) H _ I h)
          ·replace h := h.2 c_2
           refine a6 (Q9 _ _ _ _ _) ?_
           exact hx1 _ _ (hj1 (decide (x0 = ⟨#[102, 97, 108, 115, 101]⟩)) H _ I h)
theorem a8E (x0 : ByteArray) {H : Hp} {K : Bool → Hp → Prop} (h : W4 x0 H K) : S2 x0 H K := by
 intro w I
 refine c5p ?_
 refine a7F x0 I (fun r0 H' w' I' hk => ⟨H', _, I', r0, rfl, rfl, hk⟩) h
def B4 (a8m : Bool) (cr_6j2 : v8) (_cr_1j2 : B9) (H : Hp) (K : Bool → Hp → Prop) : Prop :=
 (a8m = true →
 K (decide (cr_6j2.fexprs = 0 ∧ cr_6j2.fparts = 2)) H) ∧
 (a8m = false →
 K false H)
def B5 (a0Z : Int) (a8n : Bool) (cr_6j1 : v8) (cr_1j1 : B9) (H : Hp) (K : Bool → Hp → Prop) : Prop :=
 (a8n = true →
 K (decide (cr_6j1.fexprs = 0 ∧ cr_6j1.fparts = 0)) H) ∧
 (a8n = false →
 (a0Z = 4 →
 K (decide (cr_6j1.fexprs = 0 ∧ cr_6j1.fparts = 1)) H) ∧
 (¬ (a0Z = 4) →
 (a0Z = 5 →
 B4 (decide (a0Z = 5)) cr_6j1 cr_1j1 H K) ∧
 (¬ (a0Z = 5) →
 B4 (decide (a0Z = 6)) cr_6j1 cr_1j1 H K)))
def N9 (x0 : B9) (H : Hp) (K : Bool → Hp → Prop) : Prop :=
 (x0.d7.d5 = 3 →
 K (((decide (1 ≤ x0.d7.fOp)) && (decide (x0.d7.fOp ≤ 6))) && (decide ((x0.d7.c5.n : Int) = 2 ∧ (x0.d7.o5.n : Int) = 0))) H) ∧
 (¬ (x0.d7.d5 = 3) →
 (¬ (x0.d7.fOp = 0) →
 K false H) ∧
 (x0.d7.fOp = 0 →
 (x0.d7.d5 = 1 →
 B5 x0.d7.d5 (decide (x0.d7.d5 = 1)) (v8.mk (x0.d7.c5.n : Int) (x0.d7.o5.n : Int)) x0 H K) ∧
 (¬ (x0.d7.d5 = 1) →
 B5 x0.d7.d5 (decide (x0.d7.d5 = 2)) (v8.mk (x0.d7.c5.n : Int) (x0.d7.o5.n : Int)) x0 H K)))
theorem a4j (x0 : B9) {w0 w : World} {ps0 : Nat → Prop} {H0 H : Hp} {K : Bool → Hp → Prop} {R : Value → World → Prop} {E : Pan} (I : Inv w0 ps0 H0 H [] w) (hR : ∀ (r0 : Bool) (H' : Hp) (w' : World) (_ : Inv w0 ps0 H0 H' [] w') (_ : K r0 H'), R (Value.bool r0) w') (h : N9 x0 H K) : b6R (Value.agg (f6 x0.d7).toArray) w R E := by
 unfold N9 at h
 unfold b6R
 refine J2 I (cs := (f6 x0.d7)) rfl fun g_2 w_3 I_4 k_5 => ?_
 refine a6 K7 ?_
 refine a6 a6a ?_
 refine b9 (ld1 Tryd.isAgg28 (I_4.at1 (o := 2) (vs := [(vs x0.d7.c5)]) (nb rfl) rfl)) ?_
 refine a6 (a0y _ _ _) ?_
 refine a6 K7 ?_
 refine a6 a6b ?_
 refine b9 (ld1 Tryd.isAgg31 (I_4.at1 (o := 3) (vs := [(vs x0.d7.o5)]) (nb rfl) rfl)) ?_
 refine a6 (a3i _ _ _) ?_
 refine a6 (T4 _ _) ?_
 refine F6 I_4 Tryd.zeroValue209 (cs := [(vi 0), (vi 0)]) rfl fun g_7 w_8 I_9 d2r => ?_
 refine t6 I_9 Tryd.sizeOf209 (vs := [(vi (x0.d7.c5.n : Int)), (vi (x0.d7.o5.n : Int))]) (cs' := [(vi (x0.d7.c5.n : Int)), (vi (x0.d7.o5.n : Int))]) rfl rfl (nb rfl) rfl rfl fun O8 A5 a9c => ?_
 refine a6 K7 ?_
 refine a6 b0c ?_
 refine b9 (ld1 Tryd.isAgg3 ((A5.bring 1).at1 (o := 0) (vs := [(vi x0.d7.d5)]) (nb rfl) rfl)) ?_
 refine a6 (g7 _ _ _ _ _ _) ?_
 refine d8 (fun a4k => ?_) (fun a4k => ?_)
 ·replace h := h.1 a4k
  refine a6 K7 ?_
  refine a6 a2d ?_
  refine b9 (ld1 Tryd.isAgg3 ((A5.bring 1).at1 (o := 1) (vs := [(vi x0.d7.fOp)]) (nb rfl) rfl)) ?_
  refine a6 (a9V _ _ _ _ _ _) ?_
  refine a6 (Pu.g fun hb => by have a7 := hb; first | exact K7 | (simp only [c8 a7, b5 a7, b5 hb, G2 a7]; exact K7) | (simp only [c8 a7, b5 a7, b5 hb, m5 a7, m4]; exact K7)) ?_
  refine a6 (Pu.g fun hb => by have a7 := hb; first | exact a2d | (simp only [b5 a7]; exact a2d) | (simp only [c8 a7, b5 a7, b5 hb, m5 a7, m4]; exact a2d)) ?_
  refine b9 (Ld.g fun hb => by have a7 := hb; first | exact (ld1 Tryd.isAgg3 ((A5.bring 1).at1 (o := 1) (vs := [(vi x0.d7.fOp)]) (nb rfl) rfl)) | (simp only [b5 a7]; exact (ld1 Tryd.isAgg3 ((A5.bring 1).at1 (o := 1) (vs := [(vi x0.d7.fOp)]) (nb rfl) rfl))) | (simp only [c8 a7, b5 a7, b5 hb, m5 a7, m4]; exact (ld1 Tryd.isAgg3 ((A5.bring 1).at1 (o := 1) (vs := [(vi x0.d7.fOp)]) (nb rfl) rfl)))) ?_
  refine a6 (Pu.g fun hb => by have a7 := hb; first | exact (a1o _ _ _ _ _ _) | (simp only [b5 a7]; exact (a1o _ _ _ _ _ _)) | (simp only [c8 a7, b5 a7, b5 hb, m5 a7, m4]; exact (a1o _ _ _ _ _ _))) ?_
  refine a6 (K1 _ _) ?_
  refine b9 (Ld.g fun hb => by have a7 := hb; first | exact (ldA Tryd.isAgg209 Tryd.sizeOf209 rfl (A5.at1 (o := 0) (vs := [(vi (x0.d7.c5.n : Int)), (vi (x0.d7.o5.n : Int))]) (nb rfl) rfl)) | (simp only [c8 a7, b5 a7, b5 hb, G2 a7]; exact (ldA Tryd.isAgg209 Tryd.sizeOf209 rfl (A5.at1 (o := 0) (vs := [(vi (x0.d7.c5.n : Int)), (vi (x0.d7.o5.n : Int))]) (nb rfl) rfl))) | (simp only [c8 a7, b5 a7, b5 hb, m5 a7, m4]; exact (ldA Tryd.isAgg209 Tryd.sizeOf209 rfl (A5.at1 (o := 0) (vs := [(vi (x0.d7.c5.n : Int)), (vi (x0.d7.o5.n : Int))]) (nb rfl) rfl)))) ?_
  refine a6 (Pu.g fun hb => by have a7 := hb; first | exact (T4 _ _) | (simp only [c8 a7, b5 a7, b5 hb, G2 a7]; exact (T4 _ _)) | (simp only [c8 a7, b5 a7, b5 hb, m5 a7, m4]; exact (T4 _ _))) ?_
  refine a6 (Pu.g fun hb => by have a7 := hb; first | exact (a1T _ _ _ _ _ _) | (simp only [b5 a7]; exact (a1T _ _ _ _ _ _)) | (simp only [c8 a7, b5 a7, b5 hb, m5 a7, m4]; exact (a1T _ _ _ _ _ _))) ?_
  refine a6 (K1 _ _) ?_
  exact hR (((decide (1 ≤ x0.d7.fOp)) && (decide (x0.d7.fOp ≤ 6))) && (decide ((x0.d7.c5.n : Int) = 2 ∧ (x0.d7.o5.n : Int) = 0))) H _ A5.drop.drop h
 ·replace h := h.2 a4k
  refine a6 K7 ?_
  refine a6 a2d ?_
  refine b9 (ld1 Tryd.isAgg3 ((A5.bring 1).at1 (o := 1) (vs := [(vi x0.d7.fOp)]) (nb rfl) rfl)) ?_
  refine a6 (T6 _ _ _ _ _ _) ?_
  refine a5A (fun a4l => ?_) (fun a4l => ?_)
  ·replace h := h.1 a4l
   exact hR false H _ A5.drop.drop h
  ·replace h := h.2 a4l
   refine a6 K7 ?_
   refine a6 b0c ?_
   refine b9 (ld1 Tryd.isAgg3 ((A5.bring 1).at1 (o := 0) (vs := [(vi x0.d7.d5)]) (nb rfl) rfl)) ?_
   have hj1 : ∀ (a8n : Bool) (H : Hp) (w : World) (_ : Inv w0 ps0 H0 H [bx g_7 209 [(vi (v8.mk (x0.d7.c5.n : Int) (x0.d7.o5.n : Int)).fexprs), (vi (v8.mk (x0.d7.c5.n : Int) (x0.d7.o5.n : Int)).fparts)], bx g_2 106 (f6 x0.d7)] w) (_ : B5 x0.d7.d5 a8n (v8.mk (x0.d7.c5.n : Int) (x0.d7.o5.n : Int)) x0 H K), b1z (Value.pointer (some ⟨g_7, 0, none⟩)) (vi x0.d7.d5) (Value.bool a8n) w R E := by
    intro a8n H w I h
    unfold b1z
    intro _
    unfold B5 at h
    refine p5 (fun a4m => ?_) (fun a4m => ?_)
    ·replace h := h.1 a4m
     refine b9 (ldA Tryd.isAgg209 Tryd.sizeOf209 rfl (I.at1 (o := 0) (vs := [(vi (v8.mk (x0.d7.c5.n : Int) (x0.d7.o5.n : Int)).fexprs), (vi (v8.mk (x0.d7.c5.n : Int) (x0.d7.o5.n : Int)).fparts)]) (nb rfl) rfl)) ?_
     refine a6 (b6s ) ?_
     refine a6 (a1T _ _ _ _ _ _) ?_
     exact hR (decide ((v8.mk (x0.d7.c5.n : Int) (x0.d7.o5.n : Int)).fexprs = 0 ∧ (v8.mk (x0.d7.c5.n : Int) (x0.d7.o5.n : Int)).fparts = 0)) H _ I.drop.drop h
    ·replace h := h.2 a4m
     refine a6 (g7 _ _ _ _ _ _) ?_
     refine d8 (fun a4n => ?_) (fun a4n => ?_)
     ·replace h := h.1 a4n
      refine b9 (ldA Tryd.isAgg209 Tryd.sizeOf209 rfl (I.at1 (o := 0) (vs := [(vi (v8.mk (x0.d7.c5.n : Int) (x0.d7.o5.n : Int)).fexprs), (vi (v8.mk (x0.d7.c5.n : Int) (x0.d7.o5.n : Int)).fparts)]) (nb rfl) rfl)) ?_
      refine a6 (T4 _ _) ?_
      refine a6 (a1T _ _ _ _ _ _) ?_
      exact hR (decide ((v8.mk (x0.d7.c5.n : Int) (x0.d7.o5.n : Int)).fexprs = 0 ∧ (v8.mk (x0.d7.c5.n : Int) (x0.d7.o5.n : Int)).fparts = 1)) H _ I.drop.drop h
     ·replace h := h.2 a4n
      have hj2 : ∀ (a8m : Bool) (H : Hp) (w : World) (_ : Inv w0 ps0 H0 H [bx g_7 209 [(vi (v8.mk (x0.d7.c5.n : Int) (x0.d7.o5.n : Int)).fexprs), (vi (v8.mk (x0.d7.c5.n : Int) (x0.d7.o5.n : Int)).fparts)], bx g_2 106 (f6 x0.d7)] w) (_ : B4 a8m (v8.mk (x0.d7.c5.n : Int) (x0.d7.o5.n : Int)) x0 H K), b1y (Value.pointer (some ⟨g_7, 0, none⟩)) (Value.bool a8m) w R E := by
       intro a8m H w I h
       unfold b1y
       intro _
       unfold B4 at h
       refine p5 (fun a9d => ?_) (fun a9d => ?_)
       ·replace h := h.1 a9d
        refine b9 (ldA Tryd.isAgg209 Tryd.sizeOf209 rfl (I.at1 (o := 0) (vs := [(vi (v8.mk (x0.d7.c5.n : Int) (x0.d7.o5.n : Int)).fexprs), (vi (v8.mk (x0.d7.c5.n : Int) (x0.d7.o5.n : Int)).fparts)]) (nb rfl) rfl)) ?_
        refine a6 (T4 _ _) ?_
        refine a6 (a1T _ _ _ _ _ _) ?_
        exact hR (decide ((v8.mk (x0.d7.c5.n : Int) (x0.d7.o5.n : Int)).fexprs = 0 ∧ (v8.mk (x0.d7.c5.n : Int) (x0.d7.o5.n : Int)).fparts = 2)) H _ I.drop.drop h
       ·replace h := h.2 a9d
        exact hR false H _ I.drop.drop h
      refine u4 fun j2 hx2 => ?_
      refine a6 (g7 _ _ _ _ _ _) ?_
      refine d8 (fun a1G => ?_) (fun a1G => ?_)
      ·replace h := h.1 a1G
       exact hx2 _ _ (hj2 (decide (x0.d7.d5 = 5)) H _ ((I.bring 1).bring 1) h)
      ·replace h := h.2 a1G
       refine a6 (g7 _ _ _ _ _ _) ?_
       exact hx2 _ _ (hj2 (decide (x0.d7.d5 = 6)) H _ ((I.bring 1).bring 1) h)
   refine u4 fun j1 hx1 => ?_
   refine a6 (g7 _ _ _ _ _ _) ?_
   refine d8 (fun a4o => ?_) (fun a4o => ?_)
   ·replace h := h.1 a4o
    exact hx1 _ _ (hj1 (decide (x0.d7.d5 = 1)) H _ ((A5.bring 1).bring 1) h)
   ·replace h := h.2 a4o
    refine a6 (g7 _ _ _ _ _ _) ?_
    exact hx1 _ _ (hj1 (decide (x0.d7.d5 = 2)) H _ ((A5.bring 1).bring 1) h)
theorem a4R (x0 : B9) {H : Hp} {K : Bool → Hp → Prop} (h : N9 x0 H K) : U8 x0 H K := by
 intro w I
 refine c5L ?_
 refine a4j x0 I (fun r0 H' w' I' hk => ⟨H', _, I', r0, rfl, rfl, hk⟩) h
def m6 (N0 : (List a8)) (H : Hp) (K : Sl → Hp → Prop) : Prop :=
 ∀ (z2 : Sl) (P0 : Hp), Hle H P0 → SlH P0 1 h8 z2 N0 → z2.n ≤ z2.c →
 K z2 P0
def m7 (R7 : Sl) (P1 : Int) (m0 : (List a8)) (j7 : Int) (H : Hp) (n2 : ((List a8) × Int) → Hp → Prop) (K : Sl → Hp → Prop) : Prop :=
 (j7 < P1 →
 (0 : Int) ≤ j7 ∧ (j7 : Int) < R7.n ∧ ∃ x_1 : r6, EltH H R7 j7 4 (f6 x_1) ∧
 a2l x_1 H (fun (G6 : a8) (X8 : Hp) =>
 (m0.length + ([G6] : List a8).length) * 17 ≤ 140737488355328 ∧
 n2 ((m0 ++ [G6]), (IntKind.wrap .i64 (j7 + 1))) X8)) ∧
 (¬ (j7 < P1) →
 m6 m0 H K)
def p7 (x0 : Sl) (H : Hp) (K : Sl → Hp → Prop) : Prop :=
 TL (([], 0) : (List a8) × Int) H fun (s : (List a8) × Int) H n2 => m7 x0 (x0.n : Int) s.1 s.2 H n2 K
theorem O4 (x0 : Sl) {w0 w : World} {ps0 : Nat → Prop} {H0 H : Hp} {K : Sl → Hp → Prop} {R : Value → World → Prop} {E : Pan} (I : Inv w0 ps0 H0 H [] w) (hR : ∀ (r0 : Sl) (H' : Hp) (w' : World) (_ : Inv w0 ps0 H0 H' [] w') (_ : K r0 H'), R (vs r0) w') (h : p7 x0 H K) : b6U (vs x0) (Value.func (.func 155) #[] #[]) w R E := by
 unfold p7 at h
 unfold b6U
 have hj1 : ∀ (N0 : (List a8)) (z2 : Sl) (Fs5j1 : Frag) (H : Hp) (w : World) (_ : RowL 141 1 h8 z2 N0 Fs5j1) (_ : Inv w0 ps0 H0 H [Fs5j1] w) (_ : m6 N0 H K), b1A (vs z2) w R E := by
  intro N0 z2 Fs5j1 H w a6q I h
  unfold b1A
  intro _
  unfold m6 at h
  obtain ⟨P0, a4p, a7G, a4q, a3u⟩ := Inv.freezeC I a6q (by decide)
  replace h := h z2 P0 a7G a4q a3u
  exact hR z2 P0 _ a4p h
 refine u4 fun j1 hx1 => ?_
 refine a6 (a3i _ _ _) ?_
 obtain ⟨a1H, T9, a9e, a9f⟩ := h
 refine F7 (J := fun n l w => ∃ (s : (List a8) × Int) (H : Hp) (N1 : Sl) (Fs5l2 : Frag) , n = T9 s ∧ l = (match s with | (m0, j7) => [(vs N1), (vi j7)]) ∧ (match s with | (m0, j7) => RowL 141 1 h8 N1 m0 Fs5l2) ∧ (match s with | (m0, j7) => Inv w0 ps0 H0 H [Fs5l2] w) ∧ a1H s H) ⟨_, ([], 0), H, (Sl.mk none 0 0), [], rfl, rfl, (RowL.nil D5 F8), I.nil, a9e⟩ ?_
 rintro c1s τ_50 w next2 ⟨⟨m0, j7⟩, H, N1, Fs5l2, rfl, a1I, Z3, I, a9g⟩ hn2
 dsimp only at a1I I Z3
 simp only [List.map_cons, List.map_nil, List.cons.injEq, and_true] at a1I
 obtain ⟨e5, e10⟩ := a1I
 simp only [e5, e10]
 obtain ⟨n2, hm2, h⟩ : ∃ n2 : ((List a8) × Int) → Hp → Prop, (∀ s' H', n2 s' H' → a1H s' H' ∧ T9 s' < T9 (m0, j7)) ∧ m7 x0 (x0.n : Int) m0 j7 H n2 K := ⟨_, fun _ _ h => h, a9f (m0, j7) H (fun s' H' => a1H s' H' ∧ T9 s' < T9 (m0, j7)) a9g (fun _ _ a b => ⟨a, b⟩)⟩
 unfold b5S
 unfold m7 at h
 refine a6 (D1 _ _ _ _ _ _) ?_
 refine d8 (fun Z4 => ?_) (fun Z4 => ?_)
 ·replace h := h.1 Z4
  obtain ⟨h_4, h_5, x_1, h_7, h⟩ := h
  obtain ⟨g_2, o_3, h_6, h_7⟩ := h_7
  refine a6 (a8U h_6 _ _ _ _ h_4 h_5) ?_
  refine b9 (ldA (vs := (f6 x_1)) Tryd.isAgg33 Tryd.sizeOf33 rfl (I.atH h_7)) ?_
  refine F6 I Tryd.zeroValue33 (cs := [(vi 0), (vi 0), (Value.slice none 0 0), (Value.slice none 0 0)]) rfl fun g_9 l9 a2D b4h => ?_
  refine t6 a2D Tryd.sizeOf33 (vs := (f6 x_1)) (cs' := (f6 x_1)) rfl rfl (nb rfl) rfl rfl fun a0z a4r c1t => ?_
  refine b9 (ldA Tryd.isAgg33 Tryd.sizeOf33 rfl (a4r.at1 (o := 0) (vs := (f6 x_1)) (nb rfl) rfl)) ?_
  refine d6 (cap := []) (fun args w => Tryd.call155 args w) ?_
  refine i7 (Fi := []) (Fr := [bx g_9 33 (f6 x_1), Fs5l2]) a4r (h) (fun b7b X8 b7c a1h a0N b7d b7e a6r => ?_) (fun _ _ _ _ _ q => q.elim)
  obtain ⟨G6, rfl, rfl, h⟩ := a6r
  refine a1A (e := 141) (c := h8) (xs := [G6]) a0N (a8f _) rfl rfl D5 F8 (nb rfl) fun b4i b1D D8 a6s a2E b7f => ?_
  obtain ⟨a6t, h⟩ := h
  refine a7p (s := N1) (xs := m0) (a2E.bring 2) Z3 (a6s.srcO ((a2E.bring 2).bring 1)) a6t fun a9h a9i D9 a6u a3v b7g => ?_
  refine a6 (B2 _ _ _ _ _ _) ?_
  exact hn2 _ _ _ (hm2 _ _ h).2 ⟨((m0 ++ [G6]), (IntKind.wrap .i64 (j7 + 1))), X8, a9h, a9i, rfl, rfl, a6u, ((a3v.bring 1).drop.bring 1).drop, (hm2 _ _ h).1⟩
 ·replace h := h.2 Z4
  exact hx1 _ _ (hj1 m0 N1 Fs5l2 H _ Z3 I h)
theorem P2 (x0 : Sl) {H : Hp} {K : Sl → Hp → Prop} (h : p7 x0 H K) : p6 x0 H K := by
 intro w I
 refine c5P ?_
 refine O4 x0 I (fun r0 H' w' I' hk => ⟨H', _, I', r0, rfl, rfl, hk⟩) h
def N2 (x0 : B9) (H : Hp) (K : Sl → Hp → Prop) : Prop :=
 j9 x0.d7.c5 H (fun (a2m : Sl) (H_8 : Hp) =>
 p6 x0.d7.o5 H_8 (fun (a2o : Sl) (a7H : Hp) =>
 ∀ (a2F : Sl) (a2p : Hp), Hle a7H a2p → SlH a2p 1 csl a2F [a2m, a2o] → a2F.n ≤ a2F.c →
 o6 a2F a2p (fun (a8o : Sl) (b1E : Hp) =>
 K a8o b1E)))
theorem a3I (x0 : B9) {w0 w : World} {ps0 : Nat → Prop} {H0 H : Hp} {K : Sl → Hp → Prop} {R : Value → World → Prop} {E : Pan} (I : Inv w0 ps0 H0 H [] w) (hR : ∀ (r0 : Sl) (H' : Hp) (w' : World) (_ : Inv w0 ps0 H0 H' [] w') (_ : K r0 H'), R (vs r0) w') (h : N2 x0 H K) : b6T (Value.agg (f6 x0.d7).toArray) w R E := by
 unfold N2 at h
 unfold b6T
 refine J2 I (cs := (f6 x0.d7)) rfl fun g_2 w_3 I_4 k_5 => ?_
 refine a1z I_4 fun w_6 I_7 => ?_
 refine j6 K7 ?_
 refine j6 a6a ?_
 refine j6 K7 ?_
 refine j6 a6b ?_
 refine G1 (ld1 Tryd.isAgg28 (I_7.at1 (o := 2) (vs := [(vs x0.d7.c5)]) (nb rfl) rfl)) ?_
 refine G1 (ld1 Tryd.isAgg31 (I_7.at1 (o := 3) (vs := [(vs x0.d7.o5)]) (nb rfl) rfl)) ?_
 refine d6 (cap := []) (fun args w => Tryd.call150 args w) ?_
 refine i7 (Fi := []) (Fr := [bx g_2 106 (f6 x0.d7)]) I_7 (h) (fun d2s H_8 d2t w_9 a6v d2u a9j b4j => ?_) (fun _ _ _ _ _ q => q.elim)
 obtain ⟨a2m, rfl, rfl, h⟩ := b4j
 refine ⟨(a9j _ I_7.lt1 (Inv.a1Y (Fi := []) I_7)), ?_⟩
 refine d6 (cap := []) (fun args w => Tryd.call154 args w) ?_
 refine i7 (Fi := []) (Fr := [bx g_2 106 (f6 x0.d7)]) a6v (h) (fun d2v a7H d2w t8 a4s d2x b1F b4k => ?_) (fun _ _ _ _ _ q => q.elim)
 obtain ⟨a2o, rfl, rfl, h⟩ := b4k
 refine a1A (e := 97) (c := csl) (xs := [a2m, a2o]) a4s (b3n _ _ _ _ _ _) rfl rfl b2E b2F (nb rfl) fun a2F d2y d9A c1u b4l d2z => ?_
 obtain ⟨a2p, c1v, b3R, b4m, c1w⟩ := Inv.freezeC b4l c1u (by decide)
 replace h := h a2F a2p b3R b4m c1w
 refine d6 (cap := []) (fun args w => Tryd.call94 args w) ?_
 refine i7 (Fi := []) (Fr := [bx g_2 106 (f6 x0.d7)]) c1v (h) (fun d9B b1E d9C d2A a4p d9D d9E c1x => ?_) (fun _ _ _ _ _ q => q.elim)
 obtain ⟨a8o, rfl, rfl, h⟩ := c1x
 exact hR a8o b1E _ a4p.drop h
theorem a4t (x0 : B9) {H : Hp} {K : Sl → Hp → Prop} (h : N2 x0 H K) : a0K x0 H K := by
 intro w I
 refine c5N ?_
 refine a3I x0 I (fun r0 H' w' I' hk => ⟨H', _, I', r0, rfl, rfl, hk⟩) h
end Go.Proofs.YthldnpmfelniiaaDoor
