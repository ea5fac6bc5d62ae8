/- Typed formulas of the program's functions, and the theorems that the contracts follow from them; printed by lift.py off the code. -/
import Derived.Test.YthldnpmfelniiaaDoorzSV1
namespace Go.Proofs.YthldnpmfelniiaaDoor
open Go.RowKit
set_option maxRecDepth 100000
set_option maxHeartbeats 2000000
def N4 (x0 : z6) (H : Hp) (K : b3 → Hp → Prop) : Prop :=
 K (b3.t1 (A0.mk x0)) H
theorem a4j (x0 : z6) {w0 w : World} {ps0 : Nat → Prop} {H0 H : Hp} {K : b3 → Hp → Prop} {R : Value → World → Prop} {E : Pan} (I : Inv w0 ps0 H0 H [] w) (hR : ∀ (r0 : b3) (H' : Hp) (w' : World) (_ : Inv w0 ps0 H0 H' [] w') (_ : K r0 H'), R (i8 r0) w') (h : N4 x0 H K) : F96 (Value.agg (i5 x0).toArray) w R E := by
 unfold N4 at h
 unfold F96
 refine M1 I (cs := (i5 x0)) rfl fun g_2 w_3 I_4 k_5 => ?_
 refine b7 (ldA Tryd.isAgg67 Tryd.sizeOf67 rfl (I_4.at1 (o := 0) (vs := (i5 x0)) (nb rfl) rfl)) ?_
 refine a7 (b0L _ _) ?_
 refine a7 (a8M (A0.mk x0)) ?_
 exact hR (b3.t1 (A0.mk x0)) H _ I_4.drop h
theorem a4P (x0 : z6) {H : Hp} {K : b3 → Hp → Prop} (h : N4 x0 H K) : a1h x0 H K := by
 intro w I
 refine c4O ?_
 refine a4j x0 I (fun r0 H' w' I' hk => ⟨H', _, I', r0, rfl, rfl, hk⟩) h
def T1 (x0 : Int) (x1 : Int) (x2 : Int) (H : Hp) (K : Bool → Hp → Prop) : Prop :=
 K ((decide (x0 ≤ x2)) && (decide (x2 ≤ x1))) H
theorem a3V (x0 : Int) (x1 : Int) (x2 : Int) (g2 : Nat) {w0 w : World} {ps0 : Nat → Prop} {H0 H : Hp} {K : Bool → Hp → Prop} {R : Value → World → Prop} {E : Pan} (I : Inv w0 ps0 H0 H [bx g2 21 [(Value.int .i32 x2)]] w) (hR : ∀ (r0 : Bool) (H' : Hp) (w' : World) (_ : Inv w0 ps0 H0 H' [bx g2 21 [(Value.int .i32 x2)]] w') (_ : K r0 H'), R (Value.bool r0) w') (h : T1 x0 x1 x2 H K) : b3W (Value.int .i32 x0) (Value.int .i32 x1) (Value.pointer (some ⟨g2, 0, none⟩)) w R E := by
 unfold T1 at h
 unfold b3W
 refine b7 (ld1 Tryd.isAgg21 (I.at1 (o := 0) (vs := [(Value.int .i32 x2)]) (nb rfl) rfl)) ?_
 refine a7 (a0e _ _ _ _ _ _) ?_
 refine b7 (Ld.g fun hb => by have a8 := hb; first | exact (ld1 Tryd.isAgg21 (I.at1 (o := 0) (vs := [(Value.int .i32 x2)]) (nb rfl) rfl)) | (simp only [c6 a8, b5 a8, b5 hb, B5 a8]; exact (ld1 Tryd.isAgg21 (I.at1 (o := 0) (vs := [(Value.int .i32 x2)]) (nb rfl) rfl))) | (simp only [c6 a8, b5 a8, b5 hb, k9 a8, m3]; exact (ld1 Tryd.isAgg21 (I.at1 (o := 0) (vs := [(Value.int .i32 x2)]) (nb rfl) rfl)))) ?_
 try simp only [M9]
 refine a7 (Pu.g fun hb => by have a8 := hb; first | exact (a0e _ _ _ _ _ _) | (simp only [b5 a8]; exact (a0e _ _ _ _ _ _)) | (simp only [c6 a8, b5 a8, b5 hb, k9 a8, m3]; exact (a0e _ _ _ _ _ _))) ?_
 refine a7 (E8 _ _) ?_
 exact hR ((decide (x0 ≤ x2)) && (decide (x2 ≤ x1))) H _ I h
theorem a4k (x0 : Int) (x1 : Int) (x2 : Int) {H : Hp} {K : Bool → Hp → Prop} (h : T1 x0 x1 x2 H K) : s7 x0 x1 x2 H K := by
 intro g2 w I
 refine c1O ?_
 refine a3V x0 x1 x2 g2 I (fun r0 H' w' I' hk => ⟨H', _, I', r0, rfl, rfl, hk⟩) h
def R9 (x0 : ByteArray) (H : Hp) (K : Bool → Hp → Prop) : Prop :=
 E4 x0 H (fun (A8 : Int) (H_1 : Hp) =>
 K (decide (32 < A8)) H_1)
theorem a5Z (x0 : ByteArray) {w0 w : World} {ps0 : Nat → Prop} {H0 H : Hp} {K : Bool → Hp → Prop} {R : Value → World → Prop} {E : Pan} (I : Inv w0 ps0 H0 H [] w) (hR : ∀ (r0 : Bool) (H' : Hp) (w' : World) (_ : Inv w0 ps0 H0 H' [] w') (_ : K r0 H'), R (Value.bool r0) w') (h : R9 x0 H K) : b3P (Value.string x0) w R E := by
 unfold R9 at h
 unfold b3P
 refine d6 (cap := []) (fun args w => Tryd.call130 args w) ?_
 refine i2 (Fi := []) (Fr := []) I (h) (fun v_5 H_1 F_6 w_2 I_3 l_8 k_4 q_7 => ?_) (fun _ _ _ _ _ q => q.elim)
 obtain ⟨A8, rfl, rfl, h⟩ := q_7
 refine a7 (a5B _ _ _ _ _ _) ?_
 exact hR (decide (32 < A8)) H_1 _ I_3 h
theorem a6S (x0 : ByteArray) {H : Hp} {K : Bool → Hp → Prop} (h : R9 x0 H K) : R7 x0 H K := by
 intro w I
 refine c1C ?_
 refine a5Z x0 I (fun r0 H' w' I' hk => ⟨H', _, I', r0, rfl, rfl, hk⟩) h
def d9 (h9 : Bool) (H : Hp) (K : Bool → Hp → Prop) : Prop :=
 (h9 = true →
 K true H) ∧
 (h9 = false →
 K false H)
def S0 (x0 : ByteArray) (H : Hp) (K : Bool → Hp → Prop) : Prop :=
 (x0 = ⟨#[118, 97, 114]⟩ →
 d9 (decide (x0 = ⟨#[118, 97, 114]⟩)) H K) ∧
 (¬ (x0 = ⟨#[118, 97, 114]⟩) →
 (x0 = ⟨#[97, 114, 114, 97, 121]⟩ →
 d9 (decide (x0 = ⟨#[97, 114, 114, 97, 121]⟩)) H K) ∧
 (¬ (x0 = ⟨#[97, 114, 114, 97, 121]⟩) →
 (x0 = ⟨#[105, 102]⟩ →
 d9 (decide (x0 = ⟨#[105, 102]⟩)) H K) ∧
 (¬ (x0 = ⟨#[105, 102]⟩) →
 (x0 = ⟨#[101, 108, 115, 101]⟩ →
 d9 (decide (x0 = ⟨#[101, 108, 115, 101]⟩)) H K) ∧
 (¬ (x0 = ⟨#[101, 108, 115, 101]⟩) →
 (x0 = ⟨#[119, 104, 105, 108, 101]⟩ →
 d9 (decide (x0 = ⟨#[119, 104, 105, 108, 101]⟩)) H K) ∧
 (¬ (x0 = ⟨#[119, 104, 105, 108, 101]⟩) →
 (x0 = ⟨#[97, 115, 115, 101, 114, 116]⟩ →
 d9 (decide (x0 = ⟨#[97, 115, 115, 101, 114, 116]⟩)) H K) ∧
 (¬ (x0 = ⟨#[97, 115, 115, 101, 114, 116]⟩) →
 (x0 = ⟨#[97, 115, 115, 117, 109, 101]⟩ →
 d9 (decide (x0 = ⟨#[97, 115, 115, 117, 109, 101]⟩)) H K) ∧
 (¬ (x0 = ⟨#[97, 115, 115, 117, 109, 101]⟩) →
 (x0 = ⟨#[115, 107, 105, 112]⟩ →
 d9 (decide (x0 = ⟨#[115, 107, 105, 112]⟩)) H K) ∧
 (¬ (x0 = ⟨#[115, 107, 105, 112]⟩) →
 (x0 = ⟨#[105, 110, 112, 117, 116]⟩ →
 d9 (decide (x0 = ⟨#[105, 110, 112, 117, 116]⟩)) H K) ∧
 (¬ (x0 = ⟨#[105, 110, 112, 117, 116]⟩) →
 (x0 = ⟨#[116, 114, 117, 101]⟩ →
 d9 (decide (x0 = ⟨#[116, 114, 117, 101]⟩)) H K) ∧
 (¬ (x0 = ⟨#[116, 114, 117, 101]⟩) →
 d9 (decide (x0 = ⟨#[102, 97, 108, 115, 101]⟩)) H K))))))))))
theorem a6a (x0 : ByteArray) {w0 w : World} {ps0 : Nat → Prop} {H0 H : Hp} {K : Bool → Hp → Prop} {R : Value → World → Prop} {E : Pan} (I : Inv w0 ps0 H0 H [] w) (hR : ∀ (r0 : Bool) (H' : Hp) (w' : World) (_ : Inv w0 ps0 H0 H' [] w') (_ : K r0 H'), R (Value.bool r0) w') (h : S0 x0 H K) : b3Q (Value.string x0) w R E := by
 unfold S0 at h
 unfold b3Q
 have hj1 : ∀ (h9 : Bool) (H : Hp) (w : World) (_ : Inv w0 ps0 H0 H [] w) (_ : d9 h9 H K), a8W (Value.bool h9) w R E := by
  intro h9 H w I h
  unfold a8W
  intro _
  unfold d9 at h
  refine o4 (fun c_1 => ?_) (fun c_1 => ?_)
  ·replace h := h.1 c_1
   exact hR true H _ I h
  ·replace h := h.2 c_1
   exact hR false H _ I h
 refine t7 fun j1 hx1 => ?_
 refine a7 (N0 _ _ _ _ _) ?_
 refine d8 (fun b8i => ?_) (fun b8i => ?_)
 ·replace h := h.1 b8i
  exact hx1 _ _ (hj1 (decide (x0 = ⟨#[118, 97, 114]⟩)) H _ I h)
 ·replace h := h.2 b8i
  refine a7 (N0 _ _ _ _ _) ?_
  refine d8 (fun b8j => ?_) (fun b8j => ?_)
  ·replace h := h.1 b8j
   exact hx1 _ _ (hj1 (decide (x0 = ⟨#[97, 114, 114, 97, 121]⟩)) H _ I h)
  ·replace h := h.2 b8j
   refine a7 (N0 _ _ _ _ _) ?_
   refine d8 (fun c_9 => ?_) (fun c_9 => ?_)
   ·replace h := h.1 c_9
    exact hx1 _ _ (hj1 (decide (x0 = ⟨#[105, 102]⟩)) H _ I h)
   ·replace h := h.2 c_9
    refine a7 (N0 _ _ _ _ _) ?_
    refine d8 (fun c_8 => ?_) (fun c_8 => ?_)
    ·replace h := h.1 c_8
     exact hx1 _ _ (hj1 (decide (x0 = ⟨#[101, 108, 115, 101]⟩)) H _ I h)
    ·replace h := h.2 c_8
     refine a7 (N0 _ _ _ _ _) ?_
     refine d8 (fun c_7 => ?_) (fun c_7 => ?_)
     ·replace h := h.1 c_7
      exact hx1 _ _ (hj1 (decide (x0 = ⟨#[119, 104, 105, 108, 101]⟩)) H _ I h)
     ·replace h := h.2 c_7
      refine a7 (N0 _ _ _ _ _) ?_
      refine d8 (fun c_6 => ?_) (fun c_6 => ?_)
      ·replace h := h.1 c_6
       exact hx1 _ _ (hj1 (decide (x0 = ⟨#[97, 115, 115, 101, 114, 116]⟩)) H _ I h)
      ·replace h := h.2 c_6
       refine a7 (N0 _ _ _ _ _) ?_
       refine d8 (fun c_5 => ?_) (fun c_5 => ?_)
       ·replace h := h.1 c_5
        exact hx1 _ _ (hj1 (decide (x0 = ⟨#[97, 115, 115, 117, 109, 101]⟩)) H _ I h)
       ·replace h := h.2 c_5
        refine a7 (N0 _ _ _ _ _) ?_
        refine d8 (fun c_4 => ?_) (fun c_4 => ?_)
        ·replace h := h.1 c_4
         exact hx1 _ _ (hj1 (decide (x0 = ⟨#[115, 107, 105, 112]⟩)) H _ I h)
        ·replace h := h.2 c_4
         refine a7 (N0 _ _ _ _ _) ?_
         refine d8 (fun c_3 => ?_) (fun c_3 => ?_)
         ·replace h := h.1 c_3
          exact hx1 _ _ (hj1 (decide (x0 = ⟨#[105, 110, 112, 117, 116]⟩)) H _ I h)
         ·replace h := h.2 c_3
          refine a7 (N0 _ _ _ _ _) ?_
          refine d8 (fun c_2 => ?_) (fun c_2 => ?_)
          ·replace h := h.1 c_2
           exact hx1 _ _ (hj1 (decide (x0 = ⟨#[116, 114, 117, 101]⟩)) H _ I h)
          ·replace h := h.2 c_2
           refine a7 (N0 _ _ _ _ _) ?_
           exact hx1 _ _ (hj1 (decide (x0 = ⟨#[102, 97, 108, 115, 101]⟩)) H _ I h)
theorem a6T (x0 : ByteArray) {H : Hp} {K : Bool → Hp → Prop} (h : S0 x0 H K) : N1 x0 H K := by
 intro w I
 refine c1E ?_
 refine a6a x0 I (fun r0 H' w' I' hk => ⟨H', _, I', r0, rfl, rfl, hk⟩) h
def v2 (a6D : Bool) (cr_6j2 : r6) (_cr_1j2 : w5) (H : Hp) (K : Bool → Hp → Prop) : Prop :=
 (a6D = true →
 K (decide (cr_6j2.fexprs = 0 ∧ cr_6j2.fparts = 2)) H) ∧
 (a6D = false →
 K false H)
def v6 (Z0 : Int) (a6E : Bool) (cr_6j1 : r6) (cr_1j1 : w5) (H : Hp) (K : Bool → Hp → Prop) : Prop :=
 (a6E = true →
 K (decide (cr_6j1.fexprs = 0 ∧ cr_6j1.fparts = 0)) H) ∧
 (a6E = false →
 (Z0 = 4 →
 K (decide (cr_6j1.fexprs = 0 ∧ cr_6j1.fparts = 1)) H) ∧
 (¬ (Z0 = 4) →
 (Z0 = 5 →
 v2 (decide (Z0 = 5)) cr_6j1 cr_1j1 H K) ∧
 (¬ (Z0 = 5) →
 v2 (decide (Z0 = 6)) cr_6j1 cr_1j1 H K)))
def J3 (x0 : w5) (H : Hp) (K : Bool → Hp → Prop) : Prop :=
 (x0.c8.c7 = 3 →
 K (((decide (1 ≤ x0.c8.fOp)) && (decide (x0.c8.fOp ≤ 6))) && (decide ((x0.c8.b8.n : Int) = 2 ∧ (x0.c8.j6.n : Int) = 0))) H) ∧
 (¬ (x0.c8.c7 = 3) →
 (¬ (x0.c8.fOp = 0) →
 K false H) ∧
 (x0.c8.fOp = 0 →
 (x0.c8.c7 = 1 →
 v6 x0.c8.c7 (decide (x0.c8.c7 = 1)) (r6.mk (x0.c8.b8.n : Int) (x0.c8.j6.n : Int)) x0 H K) ∧
 (¬ (x0.c8.c7 = 1) →
 v6 x0.c8.c7 (decide (x0.c8.c7 = 2)) (r6.mk (x0.c8.b8.n : Int) (x0.c8.j6.n : Int)) x0 H K)))
theorem a2N (x0 : w5) {w0 w : World} {ps0 : Nat → Prop} {H0 H : Hp} {K : Bool → Hp → Prop} {R : Value → World → Prop} {E : Pan} (I : Inv w0 ps0 H0 H [] w) (hR : ∀ (r0 : Bool) (H' : Hp) (w' : World) (_ : Inv w0 ps0 H0 H' [] w') (_ : K r0 H'), R (Value.bool r0) w') (h : J3 x0 H K) : b4b (Value.agg (d7 x0.c8).toArray) w R E := by
 unfold J3 at h
 unfold b4b
 refine M1 I (cs := (d7 x0.c8)) rfl fun g_2 w_3 I_4 k_5 => ?_
 refine a7 C7 ?_
 refine a7 a2j ?_
 refine b7 (ld1 Tryd.isAgg28 (I_4.at1 (o := 2) (vs := [(vs x0.c8.b8)]) (nb rfl) rfl)) ?_
 refine a7 (O3 _ _ _) ?_
 refine a7 C7 ?_
 refine a7 a2k ?_
 refine b7 (ld1 Tryd.isAgg31 (I_4.at1 (o := 3) (vs := [(vs x0.c8.j6)]) (nb rfl) rfl)) ?_
 refine a7 (X1 _ _ _) ?_
 refine a7 (O6 _ _) ?_
 refine y8 I_4 Tryd.zeroValue209 (cs := [(vi 0), (vi 0)]) rfl fun g_7 w_8 I_9 c8c => ?_
 refine o3 I_9 Tryd.sizeOf209 (vs := [(vi (x0.c8.b8.n : Int)), (vi (x0.c8.j6.n : Int))]) (cs' := [(vi (x0.c8.b8.n : Int)), (vi (x0.c8.j6.n : Int))]) rfl rfl (nb rfl) rfl rfl fun Q0 u0 a9l => ?_
 refine a7 C7 ?_
 refine a7 a4z ?_
 refine b7 (ld1 Tryd.isAgg3 ((u0.bring 1).at1 (o := 0) (vs := [(vi x0.c8.c7)]) (nb rfl) rfl)) ?_
 refine a7 (f4 _ _ _ _ _ _) ?_
 refine d8 (fun a2O => ?_) (fun a2O => ?_)
 ·replace h := h.1 a2O
  refine a7 C7 ?_
  refine a7 Y6 ?_
  refine b7 (ld1 Tryd.isAgg3 ((u0.bring 1).at1 (o := 1) (vs := [(vi x0.c8.fOp)]) (nb rfl) rfl)) ?_
  refine a7 (a7P _ _ _ _ _ _) ?_
  refine a7 (Pu.g fun hb => by have a8 := hb; first | exact C7 | (simp only [c6 a8, b5 a8, b5 hb, B5 a8]; exact C7) | (simp only [c6 a8, b5 a8, b5 hb, k9 a8, m3]; exact C7)) ?_
  refine a7 (Pu.g fun hb => by have a8 := hb; first | exact Y6 | (simp only [b5 a8]; exact Y6) | (simp only [c6 a8, b5 a8, b5 hb, k9 a8, m3]; exact Y6)) ?_
  refine b7 (Ld.g fun hb => by have a8 := hb; first | exact (ld1 Tryd.isAgg3 ((u0.bring 1).at1 (o := 1) (vs := [(vi x0.c8.fOp)]) (nb rfl) rfl)) | (simp only [b5 a8]; exact (ld1 Tryd.isAgg3 ((u0.bring 1).at1 (o := 1) (vs := [(vi x0.c8.fOp)]) (nb rfl) rfl))) | (simp only [c6 a8, b5 a8, b5 hb, k9 a8, m3]; exact (ld1 Tryd.isAgg3 ((u0.bring 1).at1 (o := 1) (vs := [(vi x0.c8.fOp)]) (nb rfl) rfl)))) ?_
  refine a7 (Pu.g fun hb => by have a8 := hb; first | exact (a0e _ _ _ _ _ _) | (simp only [b5 a8]; exact (a0e _ _ _ _ _ _)) | (simp only [c6 a8, b5 a8, b5 hb, k9 a8, m3]; exact (a0e _ _ _ _ _ _))) ?_
  refine a7 (E8 _ _) ?_
  refine b7 (Ld.g fun hb => by have a8 := hb; first | exact (ldA Tryd.isAgg209 Tryd.sizeOf209 rfl (u0.at1 (o := 0) (vs := [(vi (x0.c8.b8.n : Int)), (vi (x0.c8.j6.n : Int))]) (nb rfl) rfl)) | (simp only [c6 a8, b5 a8, b5 hb, B5 a8]; exact (ldA Tryd.isAgg209 Tryd.sizeOf209 rfl (u0.at1 (o := 0) (vs := [(vi (x0.c8.b8.n : Int)), (vi (x0.c8.j6.n : Int))]) (nb rfl) rfl))) | (simp only [c6 a8, b5 a8, b5 hb, k9 a8, m3]; exact (ldA Tryd.isAgg209 Tryd.sizeOf209 rfl (u0.at1 (o := 0) (vs := [(vi (x0.c8.b8.n : Int)), (vi (x0.c8.j6.n : Int))]) (nb rfl) rfl)))) ?_
  refine a7 (Pu.g fun hb => by have a8 := hb; first | exact (O6 _ _) | (simp only [c6 a8, b5 a8, b5 hb, B5 a8]; exact (O6 _ _)) | (simp only [c6 a8, b5 a8, b5 hb, k9 a8, m3]; exact (O6 _ _))) ?_
  refine a7 (Pu.g fun hb => by have a8 := hb; first | exact (a0D _ _ _ _ _ _) | (simp only [b5 a8]; exact (a0D _ _ _ _ _ _)) | (simp only [c6 a8, b5 a8, b5 hb, k9 a8, m3]; exact (a0D _ _ _ _ _ _))) ?_
  refine a7 (E8 _ _) ?_
  exact hR (((decide (1 ≤ x0.c8.fOp)) && (decide (x0.c8.fOp ≤ 6))) && (decide ((x0.c8.b8.n : Int) = 2 ∧ (x0.c8.j6.n : Int) = 0))) H _ u0.drop.drop h
 ·replace h := h.2 a2O
  refine a7 C7 ?_
  refine a7 Y6 ?_
  refine b7 (ld1 Tryd.isAgg3 ((u0.bring 1).at1 (o := 1) (vs := [(vi x0.c8.fOp)]) (nb rfl) rfl)) ?_
  refine a7 (a0f _ _ _ _ _ _) ?_
  refine b3c (fun a2P => ?_) (fun a2P => ?_)
  ·replace h := h.1 a2P
   exact hR false H _ u0.drop.drop h
  ·replace h := h.2 a2P
   refine a7 C7 ?_
   refine a7 a4z ?_
   refine b7 (ld1 Tryd.isAgg3 ((u0.bring 1).at1 (o := 0) (vs := [(vi x0.c8.c7)]) (nb rfl) rfl)) ?_
   have hj1 : ∀ (a6E : Bool) (H : Hp) (w : World) (_ : Inv w0 ps0 H0 H [bx g_7 209 [(vi (r6.mk (x0.c8.b8.n : Int) (x0.c8.j6.n : Int)).fexprs), (vi (r6.mk (x0.c8.b8.n : Int) (x0.c8.j6.n : Int)).fparts)], bx g_2 106 (d7 x0.c8)] w) (_ : v6 x0.c8.c7 a6E (r6.mk (x0.c8.b8.n : Int) (x0.c8.j6.n : Int)) x0 H K), a9i (Value.pointer (some ⟨g_7, 0, none⟩)) (vi x0.c8.c7) (Value.bool a6E) w R E := by
    intro a6E H w I h
    unfold a9i
    intro _
    unfold v6 at h
    refine o4 (fun a2Q => ?_) (fun a2Q => ?_)
    ·replace h := h.1 a2Q
     refine b7 (ldA Tryd.isAgg209 Tryd.sizeOf209 rfl (I.at1 (o := 0) (vs := [(vi (r6.mk (x0.c8.b8.n : Int) (x0.c8.j6.n : Int)).fexprs), (vi (r6.mk (x0.c8.b8.n : Int) (x0.c8.j6.n : Int)).fparts)]) (nb rfl) rfl)) ?_
     refine a7 (b3K ) ?_
     refine a7 (a0D _ _ _ _ _ _) ?_
     exact hR (decide ((r6.mk (x0.c8.b8.n : Int) (x0.c8.j6.n : Int)).fexprs = 0 ∧ (r6.mk (x0.c8.b8.n : Int) (x0.c8.j6.n : Int)).fparts = 0)) H _ I.drop.drop h
    ·replace h := h.2 a2Q
     refine a7 (f4 _ _ _ _ _ _) ?_
     refine d8 (fun a2R => ?_) (fun a2R => ?_)
     ·replace h := h.1 a2R
      refine b7 (ldA Tryd.isAgg209 Tryd.sizeOf209 rfl (I.at1 (o := 0) (vs := [(vi (r6.mk (x0.c8.b8.n : Int) (x0.c8.j6.n : Int)).fexprs), (vi (r6.mk (x0.c8.b8.n : Int) (x0.c8.j6.n : Int)).fparts)]) (nb rfl) rfl)) ?_
      refine a7 (O6 _ _) ?_
      refine a7 (a0D _ _ _ _ _ _) ?_
      exact hR (decide ((r6.mk (x0.c8.b8.n : Int) (x0.c8.j6.n : Int)).fexprs = 0 ∧ (r6.mk (x0.c8.b8.n : Int) (x0.c8.j6.n : Int)).fparts = 1)) H _ I.drop.drop h
     ·replace h := h.2 a2R
      have hj2 : ∀ (a6D : Bool) (H : Hp) (w : World) (_ : Inv w0 ps0 H0 H [bx g_7 209 [(vi (r6.mk (x0.c8.b8.n : Int) (x0.c8.j6.n : Int)).fexprs), (vi (r6.mk (x0.c8.b8.n : Int) (x0.c8.j6.n : Int)).fparts)], bx g_2 106 (d7 x0.c8)] w) (_ : v2 a6D (r6.mk (x0.c8.b8.n : Int) (x0.c8.j6.n : Int)) x0 H K), a9h (Value.pointer (some ⟨g_7, 0, none⟩)) (Value.bool a6D) w R E := by
       intro a6D H w I h
       unfold a9h
       intro _
       unfold v2 at h
       refine o4 (fun a7o => ?_) (fun a7o => ?_)
       ·replace h := h.1 a7o
        refine b7 (ldA Tryd.isAgg209 Tryd.sizeOf209 rfl (I.at1 (o := 0) (vs := [(vi (r6.mk (x0.c8.b8.n : Int) (x0.c8.j6.n : Int)).fexprs), (vi (r6.mk (x0.c8.b8.n : Int) (x0.c8.j6.n : Int)).fparts)]) (nb rfl) rfl)) ?_
        refine a7 (O6 _ _) ?_
        refine a7 (a0D _ _ _ _ _ _) ?_
        exact hR (decide ((r6.mk (x0.c8.b8.n : Int) (x0.c8.j6.n : Int)).fexprs = 0 ∧ (r6.mk (x0.c8.b8.n : Int) (x0.c8.j6.n : Int)).fparts = 2)) H _ I.drop.drop h
       ·replace h := h.2 a7o
        exact hR false H _ I.drop.drop h
      refine t7 fun j2 hx2 => ?_
      refine a7 (f4 _ _ _ _ _ _) ?_
      refine d8 (fun a0r => ?_) (fun a0r => ?_)
      ·replace h := h.1 a0r
       exact hx2 _ _ (hj2 (decide (x0.c8.c7 = 5)) H _ ((I.bring 1).bring 1) h)
      ·replace h := h.2 a0r
       refine a7 (f4 _ _ _ _ _ _) ?_
       exact hx2 _ _ (hj2 (decide (x0.c8.c7 = 6)) H _ ((I.bring 1).bring 1) h)
   refine t7 fun j1 hx1 => ?_
   refine a7 (f4 _ _ _ _ _ _) ?_
   refine d8 (fun a2S => ?_) (fun a2S => ?_)
   ·replace h := h.1 a2S
    exact hx1 _ _ (hj1 (decide (x0.c8.c7 = 1)) H _ ((u0.bring 1).bring 1) h)
   ·replace h := h.2 a2S
    refine a7 (f4 _ _ _ _ _ _) ?_
    exact hx1 _ _ (hj1 (decide (x0.c8.c7 = 2)) H _ ((u0.bring 1).bring 1) h)
theorem a3q (x0 : w5) {H : Hp} {K : Bool → Hp → Prop} (h : J3 x0 H K) : Q2 x0 H K := by
 intro w I
 refine c2a ?_
 refine a2N x0 I (fun r0 H' w' I' hk => ⟨H', _, I', r0, rfl, rfl, hk⟩) h
def j7 (G3 : (List b3)) (H : Hp) (K : Sl → Hp → Prop) : Prop :=
 ∀ (s0 : Sl) (F7 : Hp), Hle H F7 → SlH F7 1 g6 s0 G3 → s0.n ≤ s0.c →
 K s0 F7
def j8 (z1 : Sl) (a1l : Int) (i4 : (List b3)) (g8 : Int) (H : Hp) (n2 : ((List b3) × Int) → Hp → Prop) (K : Sl → Hp → Prop) : Prop :=
 (g8 < a1l →
 (0 : Int) ≤ g8 ∧ (g8 : Int) < z1.n ∧ ∃ x_1 : o9, EltH H z1 g8 4 (d7 x_1) ∧
 a1k x_1 H (fun (B6 : b3) (T2 : Hp) =>
 (i4.length + ([B6] : List b3).length) * 17 ≤ 140737488355328 ∧
 n2 ((i4 ++ [B6]), (IntKind.wrap .i64 (g8 + 1))) T2)) ∧
 (¬ (g8 < a1l) →
 j7 i4 H K)
def l9 (x0 : Sl) (H : Hp) (K : Sl → Hp → Prop) : Prop :=
 TL (([], 0) : (List b3) × Int) H fun (s : (List b3) × Int) H n2 => j8 x0 (x0.n : Int) s.1 s.2 H n2 K
theorem K1 (x0 : Sl) {w0 w : World} {ps0 : Nat → Prop} {H0 H : Hp} {K : Sl → Hp → Prop} {R : Value → World → Prop} {E : Pan} (I : Inv w0 ps0 H0 H [] w) (hR : ∀ (r0 : Sl) (H' : Hp) (w' : World) (_ : Inv w0 ps0 H0 H' [] w') (_ : K r0 H'), R (vs r0) w') (h : l9 x0 H K) : b4e (vs x0) (Value.func (.func 155) #[] #[]) w R E := by
 unfold l9 at h
 unfold b4e
 have hj1 : ∀ (G3 : (List b3)) (s0 : Sl) (Fs5j1 : Frag) (H : Hp) (w : World) (_ : RowL 141 1 g6 s0 G3 Fs5j1) (_ : Inv w0 ps0 H0 H [Fs5j1] w) (_ : j7 G3 H K), a9j (vs s0) w R E := by
  intro G3 s0 Fs5j1 H w a4Q I h
  unfold a9j
  intro _
  unfold j7 at h
  obtain ⟨F7, a2T, a6b, a7p, a7q⟩ := Inv.freezeC I a4Q (by decide)
  replace h := h s0 F7 a6b a7p a7q
  exact hR s0 F7 _ a2T h
 refine t7 fun j1 hx1 => ?_
 refine a7 (X1 _ _ _) ?_
 obtain ⟨a0s, O9, a7r, a7s⟩ := h
 refine B7 (J := fun n l w => ∃ (s : (List b3) × Int) (H : Hp) (G4 : Sl) (Fs5l2 : Frag) , n = O9 s ∧ l = (match s with | (i4, g8) => [(vs G4), (vi g8)]) ∧ (match s with | (i4, g8) => RowL 141 1 g6 G4 i4 Fs5l2) ∧ (match s with | (i4, g8) => Inv w0 ps0 H0 H [Fs5l2] w) ∧ a0s s H) ⟨_, ([], 0), H, (Sl.mk none 0 0), [], rfl, rfl, (RowL.nil y9 B4), I.nil, a7r⟩ ?_
 rintro b8k τ_50 w next2 ⟨⟨i4, g8⟩, H, G4, Fs5l2, rfl, a0t, U9, I, a7t⟩ hn2
 dsimp only at a0t I U9
 simp only [List.map_cons, List.map_nil, List.cons.injEq, and_true] at a0t
 obtain ⟨e5, e10⟩ := a0t
 simp only [e5, e10]
 obtain ⟨n2, hm2, h⟩ : ∃ n2 : ((List b3) × Int) → Hp → Prop, (∀ s' H', n2 s' H' → a0s s' H' ∧ O9 s' < O9 (i4, g8)) ∧ j8 x0 (x0.n : Int) i4 g8 H n2 K := ⟨_, fun _ _ h => h, a7s (i4, g8) H (fun s' H' => a0s s' H' ∧ O9 s' < O9 (i4, g8)) a7t (fun _ _ a b => ⟨a, b⟩)⟩
 unfold b3o
 unfold j8 at h
 refine a7 (E7 _ _ _ _ _ _) ?_
 refine d8 (fun V0 => ?_) (fun V0 => ?_)
 ·replace h := h.1 V0
  obtain ⟨h_4, h_5, x_1, h_7, h⟩ := h
  obtain ⟨g_2, o_3, h_6, h_7⟩ := h_7
  refine a7 (a7i h_6 _ _ _ _ h_4 h_5) ?_
  refine b7 (ldA (vs := (d7 x_1)) Tryd.isAgg33 Tryd.sizeOf33 rfl (I.atH h_7)) ?_
  refine y8 I Tryd.zeroValue33 (cs := [(vi 0), (vi 0), (Value.slice none 0 0), (Value.slice none 0 0)]) rfl fun g_9 l0 a0b a9m => ?_
  refine o3 a0b Tryd.sizeOf33 (vs := (d7 x_1)) (cs' := (d7 x_1)) rfl rfl (nb rfl) rfl rfl fun a1X a2U b8l => ?_
  refine b7 (ldA Tryd.isAgg33 Tryd.sizeOf33 rfl (a2U.at1 (o := 0) (vs := (d7 x_1)) (nb rfl) rfl)) ?_
  refine d6 (cap := []) (fun args w => Tryd.call155 args w) ?_
  refine i2 (Fi := []) (Fr := [bx g_9 33 (d7 x_1), Fs5l2]) a2U (h) (fun b4o T2 b4p Z4 V1 b4q b1J a4R => ?_) (fun _ _ _ _ _ q => q.elim)
  obtain ⟨B6, rfl, rfl, h⟩ := a4R
  refine a0S (e := 141) (c := g6) (xs := [B6]) V1 (a6y _) rfl rfl y9 B4 (nb rfl) fun b1K a9n C1 a4S a1D b4r => ?_
  obtain ⟨a2V, h⟩ := h
  refine a5F (s := G4) (xs := i4) (a1D.bring 2) U9 (a4S.srcO ((a1D.bring 2).bring 1)) a2V fun a7u a7v C8 a4T a1Z b4s => ?_
  refine a7 (A6 _ _ _ _ _ _) ?_
  exact hn2 _ _ _ (hm2 _ _ h).2 ⟨((i4 ++ [B6]), (IntKind.wrap .i64 (g8 + 1))), T2, a7u, a7v, rfl, rfl, a4T, ((a1Z.bring 1).drop.bring 1).drop, (hm2 _ _ h).1⟩
 ·replace h := h.2 V0
  exact hx1 _ _ (hj1 i4 G4 Fs5l2 H _ U9 I h)
theorem K7 (x0 : Sl) {H : Hp} {K : Sl → Hp → Prop} (h : l9 x0 H K) : l8 x0 H K := by
 intro w I
 refine c2e ?_
 refine K1 x0 I (fun r0 H' w' I' hk => ⟨H', _, I', r0, rfl, rfl, hk⟩) h
def G5 (x0 : w5) (H : Hp) (K : Sl → Hp → Prop) : Prop :=
 h8 x0.c8.b8 H (fun (a1m : Sl) (H_8 : Hp) =>
 l8 x0.c8.j6 H_8 (fun (a1o : Sl) (a6c : Hp) =>
 ∀ (T3 : Sl) (a2W : Hp), Hle a6c a2W → SlH a2W 1 csl T3 [a1m, a1o] → T3.n ≤ T3.c →
 k8 T3 a2W (fun (a6F : Sl) (a9o : Hp) =>
 K a6F a9o)))
theorem a2s (x0 : w5) {w0 w : World} {ps0 : Nat → Prop} {H0 H : Hp} {K : Sl → Hp → Prop} {R : Value → World → Prop} {E : Pan} (I : Inv w0 ps0 H0 H [] w) (hR : ∀ (r0 : Sl) (H' : Hp) (w' : World) (_ : Inv w0 ps0 H0 H' [] w') (_ : K r0 H'), R (vs r0) w') (h : G5 x0 H K) : b4d (Value.agg (d7 x0.c8).toArray) w R E := by
 unfold G5 at h
 unfold b4d
 refine M1 I (cs := (d7 x0.c8)) rfl fun g_2 w_3 I_4 k_5 => ?_
 refine a7f I_4 fun w_6 I_7 => ?_
 refine s6 C7 ?_
 refine s6 a2j ?_
 refine s6 C7 ?_
 refine s6 a2k ?_
 refine T5 (ld1 Tryd.isAgg28 (I_7.at1 (o := 2) (vs := [(vs x0.c8.b8)]) (nb rfl) rfl)) ?_
 refine T5 (ld1 Tryd.isAgg31 (I_7.at1 (o := 3) (vs := [(vs x0.c8.j6)]) (nb rfl) rfl)) ?_
 refine d6 (cap := []) (fun args w => Tryd.call150 args w) ?_
 refine i2 (Fi := []) (Fr := [bx g_2 106 (d7 x0.c8)]) I_7 (h) (fun c8d H_8 c8e w_9 a4U a9p a7w b1L => ?_) (fun _ _ _ _ _ q => q.elim)
 obtain ⟨a1m, rfl, rfl, h⟩ := b1L
 refine ⟨(a7w _ I_7.lt1 (Inv.a0R (Fi := []) I_7)), ?_⟩
 refine d6 (cap := []) (fun args w => Tryd.call154 args w) ?_
 refine i2 (Fi := []) (Fr := [bx g_2 106 (d7 x0.c8)]) a4U (h) (fun c8f a6c b8m s5 a4V c8g b1M b1N => ?_) (fun _ _ _ _ _ q => q.elim)
 obtain ⟨a1o, rfl, rfl, h⟩ := b1N
 refine a0S (e := 97) (c := csl) (xs := [a1m, a1o]) a4V (b0K _ _ _ _ _ _) rfl rfl b0i b0j (nb rfl) fun T3 b8n c8h b1O a4W b4t => ?_
 obtain ⟨a2W, b1P, b1o, b1Q, b1R⟩ := Inv.freezeC a4W b1O (by decide)
 replace h := h T3 a2W b1o b1Q b1R
 refine d6 (cap := []) (fun args w => Tryd.call94 args w) ?_
 refine i2 (Fi := []) (Fr := [bx g_2 106 (d7 x0.c8)]) b1P (h) (fun d3G a9o d3H d3I a2T d3J d3K b8o => ?_) (fun _ _ _ _ _ q => q.elim)
 obtain ⟨a6F, rfl, rfl, h⟩ := b8o
 exact hR a6F a9o _ a2T.drop h
theorem a2X (x0 : w5) {H : Hp} {K : Sl → Hp → Prop} (h : G5 x0 H K) : X8 x0 H K := by
 intro w I
 refine c2c ?_
 refine a2s x0 I (fun r0 H' w' I' hk => ⟨H', _, I', r0, rfl, rfl, hk⟩) h
end Go.Proofs.YthldnpmfelniiaaDoor
