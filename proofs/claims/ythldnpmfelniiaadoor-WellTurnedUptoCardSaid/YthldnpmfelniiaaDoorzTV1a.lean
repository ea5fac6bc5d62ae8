/- Typed formulas of the program's functions, and the theorems that the contracts follow from them; printed by lift.py off the code. -/
import Derived.Test.YthldnpmfelniiaaDoorzTV1
namespace Go.Proofs.YthldnpmfelniiaaDoor
open Go.RowKit
set_option maxRecDepth 100000
set_option maxHeartbeats 2000000
def R1 (x0 : d6) (H : Hp) (K : a8 → Hp → Prop) : Prop :=
 K (a8.y8 (D3.mk x0)) H
theorem a4T (x0 : d6) {w0 w : World} {ps0 : Nat → Prop} {H0 H : Hp} {K : a8 → Hp → Prop} {R : Value → World → Prop} {E : Pan} (I : Inv w0 ps0 H0 H [] w) (hR : ∀ (r0 : a8) (H' : Hp) (w' : World) (_ : Inv w0 ps0 H0 H' [] w') (_ : K r0 H'), R (l9 r0) w') (h : R1 x0 H K) : F96 (Value.agg (g7 x0).toArray) w R E := by
 unfold R1 at h
 unfold F96
 refine M6 I (cs := (g7 x0)) rfl fun g_2 w_3 I_4 k_5 => ?_
 refine c5 (ldA Tryd.isAgg67 Tryd.sizeOf67 rfl (I_4.at1 (o := 0) (vs := (g7 x0)) (nb rfl) rfl)) ?_
 refine a6 (b2o _ _) ?_
 refine a6 (b0k (D3.mk x0)) ?_
 exact hR (a8.y8 (D3.mk x0)) H _ I_4.drop h
theorem a5E (x0 : d6) {H : Hp} {K : a8 → Hp → Prop} (h : R1 x0 H K) : a1K x0 H K := by
 intro w I
 refine c7m ?_
 refine a4T x0 I (fun r0 H' w' I' hk => ⟨H', _, I', r0, rfl, rfl, hk⟩) h
def W5 (x0 : Int) (x1 : Int) (x2 : Int) (H : Hp) (K : Bool → Hp → Prop) : Prop :=
 K ((decide (x0 ≤ x2)) && (decide (x2 ≤ x1))) H
theorem a4H (x0 : Int) (x1 : Int) (x2 : Int) (g2 : Nat) {w0 w : World} {ps0 : Nat → Prop} {H0 H : Hp} {K : Bool → Hp → Prop} {R : Value → World → Prop} {E : Pan} (I : Inv w0 ps0 H0 H [bx g2 21 [(Value.int .i32 x2)]] w) (hR : ∀ (r0 : Bool) (H' : Hp) (w' : World) (_ : Inv w0 ps0 H0 H' [bx g2 21 [(Value.int .i32 x2)]] w') (_ : K r0 H'), R (Value.bool r0) w') (h : W5 x0 x1 x2 H K) : b5u (Value.int .i32 x0) (Value.int .i32 x1) (Value.pointer (some ⟨g2, 0, none⟩)) w R E := by
 unfold W5 at h
 unfold b5u
 refine c5 (ld1 Tryd.isAgg21 (I.at1 (o := 0) (vs := [(Value.int .i32 x2)]) (nb rfl) rfl)) ?_
 refine a6 (a0M _ _ _ _ _ _) ?_
 refine c5 (Ld.g fun hb => by have a7 := hb; first | exact (ld1 Tryd.isAgg21 (I.at1 (o := 0) (vs := [(Value.int .i32 x2)]) (nb rfl) rfl)) | (simp only [c7 a7, b5 a7, b5 hb, E3 a7]; exact (ld1 Tryd.isAgg21 (I.at1 (o := 0) (vs := [(Value.int .i32 x2)]) (nb rfl) rfl))) | (simp only [c7 a7, b5 a7, b5 hb, m8 a7, p1]; exact (ld1 Tryd.isAgg21 (I.at1 (o := 0) (vs := [(Value.int .i32 x2)]) (nb rfl) rfl)))) ?_
 try simp only [Q8]
 refine a6 (Pu.g fun hb => by have a7 := hb; first | exact (a0M _ _ _ _ _ _) | (simp only [b5 a7]; exact (a0M _ _ _ _ _ _)) | (simp only [c7 a7, b5 a7, b5 hb, m8 a7, p1]; exact (a0M _ _ _ _ _ _))) ?_
 refine a6 (J0 _ _) ?_
 exact hR ((decide (x0 ≤ x2)) && (decide (x2 ≤ x1))) H _ I h
theorem a4U (x0 : Int) (x1 : Int) (x2 : Int) {H : Hp} {K : Bool → Hp → Prop} (h : W5 x0 x1 x2 H K) : y6 x0 x1 x2 H K := by
 intro g2 w I
 refine c3Q ?_
 refine a4H x0 x1 x2 g2 I (fun r0 H' w' I' hk => ⟨H', _, I', r0, rfl, rfl, hk⟩) h
def U9 (x0 : ByteArray) (H : Hp) (K : Bool → Hp → Prop) : Prop :=
 J8 x0 H (fun (G5 : Int) (H_1 : Hp) =>
 K (decide (32 < G5)) H_1)
theorem a6Z (x0 : ByteArray) {w0 w : World} {ps0 : Nat → Prop} {H0 H : Hp} {K : Bool → Hp → Prop} {R : Value → World → Prop} {E : Pan} (I : Inv w0 ps0 H0 H [] w) (hR : ∀ (r0 : Bool) (H' : Hp) (w' : World) (_ : Inv w0 ps0 H0 H' [] w') (_ : K r0 H'), R (Value.bool r0) w') (h : U9 x0 H K) : b5o (Value.string x0) w R E := by
 unfold U9 at h
 unfold b5o
 refine f8 (cap := []) (fun args w => Tryd.call130 args w) ?_
 refine j8 (Fi := []) (Fr := []) I (h) (fun v_5 H_1 F_6 w_2 I_3 l_8 k_4 q_7 => ?_) (fun _ _ _ _ _ q => q.elim)
 obtain ⟨G5, rfl, rfl, h⟩ := q_7
 refine a6 (a2B _ _ _ _ _ _) ?_
 exact hR (decide (32 < G5)) H_1 _ I_3 h
theorem a7U (x0 : ByteArray) {H : Hp} {K : Bool → Hp → Prop} (h : U9 x0 H K) : U7 x0 H K := by
 intro w I
 refine c3E ?_
 refine a6Z x0 I (fun r0 H' w' I' hk => ⟨H', _, I', r0, rfl, rfl, hk⟩) h
def g5 (i7 : Bool) (H : Hp) (K : Bool → Hp → Prop) : Prop :=
 (i7 = true →
 K true H) ∧
 (i7 = false →
 K false H)
def V0 (x0 : ByteArray) (H : Hp) (K : Bool → Hp → Prop) : Prop :=
 (x0 = ⟨#[118, 97, 114]⟩ →
 g5 (decide (x0 = ⟨#[118, 97, 114]⟩)) H K) ∧
 (¬ (x0 = ⟨#[118, 97, 114]⟩) →
 (x0 = ⟨#[97, 114, 114, 97, 121]⟩ →
 g5 (decide (x0 = ⟨#[97, 114, 114, 97, 121]⟩)) H K) ∧
 (¬ (x0 = ⟨#[97, 114, 114, 97, 121]⟩) →
 (x0 = ⟨#[105, 102]⟩ →
 g5 (decide (x0 = ⟨#[105, 102]⟩)) H K) ∧
 (¬ (x0 = ⟨#[105, 102]⟩) →
 (x0 = ⟨#[101, 108, 115, 101]⟩ →
 g5 (decide (x0 = ⟨#[101, 108, 115, 101]⟩)) H K) ∧
 (¬ (x0 = ⟨#[101, 108, 115, 101]⟩) →
 (x0 = ⟨#[119, 104, 105, 108, 101]⟩ →
 g5 (decide (x0 = ⟨#[119, 104, 105, 108, 101]⟩)) H K) ∧
 (¬ (x0 = ⟨#[119, 104, 105, 108, 101]⟩) →
 (x0 = ⟨#[97, 115, 115, 101, 114, 116]⟩ →
 g5 (decide (x0 = ⟨#[97, 115, 115, 101, 114, 116]⟩)) H K) ∧
 (¬ (x0 = ⟨#[97, 115, 115, 101, 114, 116]⟩) →
 (x0 = ⟨#[97, 115, 115, 117, 109, 101]⟩ →
 g5 (decide (x0 = ⟨#[97, 115, 115, 117, 109, 101]⟩)) H K) ∧
 (¬ (x0 = ⟨#[97, 115, 115, 117, 109, 101]⟩) →
 (x0 = ⟨#[115, 107, 105, 112]⟩ →
 g5 (decide (x0 = ⟨#[115, 107, 105, 112]⟩)) H K) ∧
 (¬ (x0 = ⟨#[115, 107, 105, 112]⟩) →
 (x0 = ⟨#[105, 110, 112, 117, 116]⟩ →
 g5 (decide (x0 = ⟨#[105, 110, 112, 117, 116]⟩)) H K) ∧
 (¬ (x0 = ⟨#[105, 110, 112, 117, 116]⟩) →
 (x0 = ⟨#[116, 114, 117, 101]⟩ →
 g5 (decide (x0 = ⟨#[116, 114, 117, 101]⟩)) H K) ∧
 (¬ (x0 = ⟨#[116, 114, 117, 101]⟩) →
 g5 (decide (x0 = ⟨#[102, 97, 108, 115, 101]⟩)) H K))))))))))
theorem a7a (x0 : ByteArray) {w0 w : World} {ps0 : Nat → Prop} {H0 H : Hp} {K : Bool → Hp → Prop} {R : Value → World → Prop} {E : Pan} (I : Inv w0 ps0 H0 H [] w) (hR : ∀ (r0 : Bool) (H' : Hp) (w' : World) (_ : Inv w0 ps0 H0 H' [] w') (_ : K r0 H'), R (Value.bool r0) w') (h : V0 x0 H K) : b5p (Value.string x0) w R E := by
 unfold V0 at h
 unfold b5p
 have hj1 : ∀ (i7 : Bool) (H : Hp) (w : World) (_ : Inv w0 ps0 H0 H [] w) (_ : g5 i7 H K), b0t (Value.bool i7) w R E := by
  intro i7 H w I h
  unfold b0t
  intro _
  unfold g5 at h
  refine r8 (fun c_1 => ?_) (fun c_1 => ?_)
  ·replace h := h.1 c_1
   exact hR true H _ I h
  ·replace h := h.2 c_1
   exact hR false H _ I h
 refine v2 fun j1 hx1 => ?_
 refine a6 (P9 _ _ _ _ _) ?_
 refine d7 (fun b9U => ?_) (fun b9U => ?_)
 ·replace h := h.1 b9U
  exact hx1 _ _ (hj1 (decide (x0 = ⟨#[118, 97, 114]⟩)) H _ I h)
 ·replace h := h.2 b9U
  refine a6 (P9 _ _ _ _ _) ?_
  refine d7 (fun b9V => ?_) (fun b9V => ?_)
  ·replace h := h.1 b9V
   exact hx1 _ _ (hj1 (decide (x0 = ⟨#[97, 114, 114, 97, 121]⟩)) H _ I h)
  ·replace h := h.2 b9V
   refine a6 (P9 _ _ _ _ _) ?_
   refine d7 (fun c_9 => ?_) (fun c_9 => ?_)
   ·replace h := h.1 c_9
    exact hx1 _ _ (hj1 (decide (x0 = ⟨#[105, 102]⟩)) H _ I h)
   ·replace h := h.2 c_9
    refine a6 (P9 _ _ _ _ _) ?_
    refine d7 (fun c_8 => ?_) (fun c_8 => ?_)
    ·replace h := h.1 c_8
     exact hx1 _ _ (hj1 (decide (x0 = ⟨#[101, 108, 115, 101]⟩)) H _ I h)
    ·replace h := h.2 c_8
     refine a6 (P9 _ _ _ _ _) ?_
     refine d7 (fun c_7 => ?_) (fun c_7 => ?_)
     ·replace h := h.1 c_7
      exact hx1 _ _ (hj1 (decide (x0 = ⟨#[119, 104, 105, 108, 101]⟩)) H _ I h)
     ·replace h := h.2 c_7
      refine a6 (P9 _ _ _ _ _) ?_
      refine d7 (fun c_6 => ?_) (fun c_6 => ?_)
      ·replace h := h.1 c_6
       exact hx1 _ _ (hj1 (decide (x0 = ⟨#[97, 115, 115, 101, 114, 116]⟩)) H _ I h)
      ·replace h := h.2 c_6
       refine a6 (P9 _ _ _ _ _) ?_
       refine d7 (fun c_5 => ?_) (fun c_5 => ?_)
       ·replace h := h.1 c_5
        exact hx1 _ _ (hj1 (decide (x0 = ⟨#[97, 115, 115, 117, 109, 101]⟩)) H _ I h)
       ·replace h := h.2 c_5
        refine a6 (P9 _ _ _ _ _) ?_
        refine d7 (fun c_4 => ?_) (fun c_4 => ?_)
        ·replace h := h.1 c_4
         exact hx1 _ _ (hj1 (decide (x0 = ⟨#[115, 107, 105, 112]⟩)) H _ I h)
        ·replace h := h.2 c_4
         refine a6 (P9 _ _ _ _ _) ?_
         refine d7 (fun c_3 => ?_) (fun c_3 => ?_)
         ·replace h := h.1 c_3
          exact hx1 _ _ (hj1 (decide (x0 = ⟨#[105, 110, 112, 117, 116]⟩)) H _ I h)
         ·replace h := h.2 c_3
          refine a6 (P9 _ _ _ _ _) ?_
          refine d7 (fun c_2 => ?_) (fun c_2 => ?_)
          ·replace h := h.1 c_2
           exact hx1 _ _ (hj1 (decide (x0 = ⟨#[116, 114, 117, 101]⟩)) H _ I h)
          ·replace h := h.2 c_2
           refine a6 (P9 _ _ _ _ _) ?_
           exact hx1 _ _ (hj1 (decide (x0 = ⟨#[102, 97, 108, 115, 101]⟩)) H _ I h)
theorem a7V (x0 : ByteArray) {H : Hp} {K : Bool → Hp → Prop} (h : V0 x0 H K) : Q9 x0 H K := by
 intro w I
 refine c3G ?_
 refine a7a x0 I (fun r0 H' w' I' hk => ⟨H', _, I', r0, rfl, rfl, hk⟩) h
def A8 (a7D : Bool) (cr_6j2 : u1) (_cr_1j2 : B3) (H : Hp) (K : Bool → Hp → Prop) : Prop :=
 (a7D = true →
 K (decide (cr_6j2.fexprs = 0 ∧ cr_6j2.fparts = 2)) H) ∧
 (a7D = false →
 K false H)
def A9 (a0A : Int) (a7E : Bool) (cr_6j1 : u1) (cr_1j1 : B3) (H : Hp) (K : Bool → Hp → Prop) : Prop :=
 (a7E = true →
 K (decide (cr_6j1.fexprs = 0 ∧ cr_6j1.fparts = 0)) H) ∧
 (a7E = false →
 (a0A = 4 →
 K (decide (cr_6j1.fexprs = 0 ∧ cr_6j1.fparts = 1)) H) ∧
 (¬ (a0A = 4) →
 (a0A = 5 →
 A8 (decide (a0A = 5)) cr_6j1 cr_1j1 H K) ∧
 (¬ (a0A = 5) →
 A8 (decide (a0A = 6)) cr_6j1 cr_1j1 H K)))
def M7 (x0 : B3) (H : Hp) (K : Bool → Hp → Prop) : Prop :=
 (x0.d5.d4 = 3 →
 K (((decide (1 ≤ x0.d5.fOp)) && (decide (x0.d5.fOp ≤ 6))) && (decide ((x0.d5.b9.n : Int) = 2 ∧ (x0.d5.m9.n : Int) = 0))) H) ∧
 (¬ (x0.d5.d4 = 3) →
 (¬ (x0.d5.fOp = 0) →
 K false H) ∧
 (x0.d5.fOp = 0 →
 (x0.d5.d4 = 1 →
 A9 x0.d5.d4 (decide (x0.d5.d4 = 1)) (u1.mk (x0.d5.b9.n : Int) (x0.d5.m9.n : Int)) x0 H K) ∧
 (¬ (x0.d5.d4 = 1) →
 A9 x0.d5.d4 (decide (x0.d5.d4 = 2)) (u1.mk (x0.d5.b9.n : Int) (x0.d5.m9.n : Int)) x0 H K)))
theorem a3E (x0 : B3) {w0 w : World} {ps0 : Nat → Prop} {H0 H : Hp} {K : Bool → Hp → Prop} {R : Value → World → Prop} {E : Pan} (I : Inv w0 ps0 H0 H [] w) (hR : ∀ (r0 : Bool) (H' : Hp) (w' : World) (_ : Inv w0 ps0 H0 H' [] w') (_ : K r0 H'), R (Value.bool r0) w') (h : M7 x0 H K) : b5A (Value.agg (d9 x0.d5).toArray) w R E := by
 unfold M7 at h
 unfold b5A
 refine M6 I (cs := (d9 x0.d5)) rfl fun g_2 w_3 I_4 k_5 => ?_
 refine a6 J1 ?_
 refine a6 a5n ?_
 refine c5 (ld1 Tryd.isAgg28 (I_4.at1 (o := 2) (vs := [(vs x0.d5.b9)]) (nb rfl) rfl)) ?_
 refine a6 (a0h _ _ _) ?_
 refine a6 J1 ?_
 refine a6 a5o ?_
 refine c5 (ld1 Tryd.isAgg31 (I_4.at1 (o := 3) (vs := [(vs x0.d5.m9)]) (nb rfl) rfl)) ?_
 refine a6 (a2D _ _ _) ?_
 refine a6 (R8 _ _) ?_
 refine E7 I_4 Tryd.zeroValue209 (cs := [(vi 0), (vi 0)]) rfl fun g_7 w_8 I_9 d0K => ?_
 refine s6 I_9 Tryd.sizeOf209 (vs := [(vi (x0.d5.b9.n : Int)), (vi (x0.d5.m9.n : Int))]) (cs' := [(vi (x0.d5.b9.n : Int)), (vi (x0.d5.m9.n : Int))]) rfl rfl (nb rfl) rfl rfl fun S3 A0 b0K => ?_
 refine a6 J1 ?_
 refine a6 a9l ?_
 refine c5 (ld1 Tryd.isAgg3 ((A0.bring 1).at1 (o := 0) (vs := [(vi x0.d5.d4)]) (nb rfl) rfl)) ?_
 refine a6 (f7 _ _ _ _ _ _) ?_
 refine d7 (fun a3F => ?_) (fun a3F => ?_)
 ·replace h := h.1 a3F
  refine a6 J1 ?_
  refine a6 a1y ?_
  refine c5 (ld1 Tryd.isAgg3 ((A0.bring 1).at1 (o := 1) (vs := [(vi x0.d5.fOp)]) (nb rfl) rfl)) ?_
  refine a6 (a6C _ _ _ _ _ _) ?_
  refine a6 (Pu.g fun hb => by have a7 := hb; first | exact J1 | (simp only [c7 a7, b5 a7, b5 hb, E3 a7]; exact J1) | (simp only [c7 a7, b5 a7, b5 hb, m8 a7, p1]; exact J1)) ?_
  refine a6 (Pu.g fun hb => by have a7 := hb; first | exact a1y | (simp only [b5 a7]; exact a1y) | (simp only [c7 a7, b5 a7, b5 hb, m8 a7, p1]; exact a1y)) ?_
  refine c5 (Ld.g fun hb => by have a7 := hb; first | exact (ld1 Tryd.isAgg3 ((A0.bring 1).at1 (o := 1) (vs := [(vi x0.d5.fOp)]) (nb rfl) rfl)) | (simp only [b5 a7]; exact (ld1 Tryd.isAgg3 ((A0.bring 1).at1 (o := 1) (vs := [(vi x0.d5.fOp)]) (nb rfl) rfl))) | (simp only [c7 a7, b5 a7, b5 hb, m8 a7, p1]; exact (ld1 Tryd.isAgg3 ((A0.bring 1).at1 (o := 1) (vs := [(vi x0.d5.fOp)]) (nb rfl) rfl)))) ?_
  refine a6 (Pu.g fun hb => by have a7 := hb; first | exact (a0M _ _ _ _ _ _) | (simp only [b5 a7]; exact (a0M _ _ _ _ _ _)) | (simp only [c7 a7, b5 a7, b5 hb, m8 a7, p1]; exact (a0M _ _ _ _ _ _))) ?_
  refine a6 (J0 _ _) ?_
  refine c5 (Ld.g fun hb => by have a7 := hb; first | exact (ldA Tryd.isAgg209 Tryd.sizeOf209 rfl (A0.at1 (o := 0) (vs := [(vi (x0.d5.b9.n : Int)), (vi (x0.d5.m9.n : Int))]) (nb rfl) rfl)) | (simp only [c7 a7, b5 a7, b5 hb, E3 a7]; exact (ldA Tryd.isAgg209 Tryd.sizeOf209 rfl (A0.at1 (o := 0) (vs := [(vi (x0.d5.b9.n : Int)), (vi (x0.d5.m9.n : Int))]) (nb rfl) rfl))) | (simp only [c7 a7, b5 a7, b5 hb, m8 a7, p1]; exact (ldA Tryd.isAgg209 Tryd.sizeOf209 rfl (A0.at1 (o := 0) (vs := [(vi (x0.d5.b9.n : Int)), (vi (x0.d5.m9.n : Int))]) (nb rfl) rfl)))) ?_
  refine a6 (Pu.g fun hb => by have a7 := hb; first | exact (R8 _ _) | (simp only [c7 a7, b5 a7, b5 hb, E3 a7]; exact (R8 _ _)) | (simp only [c7 a7, b5 a7, b5 hb, m8 a7, p1]; exact (R8 _ _))) ?_
  refine a6 (Pu.g fun hb => by have a7 := hb; first | exact (a1m _ _ _ _ _ _) | (simp only [b5 a7]; exact (a1m _ _ _ _ _ _)) | (simp only [c7 a7, b5 a7, b5 hb, m8 a7, p1]; exact (a1m _ _ _ _ _ _))) ?_
  refine a6 (J0 _ _) ?_
  exact hR (((decide (1 ≤ x0.d5.fOp)) && (decide (x0.d5.fOp ≤ 6))) && (decide ((x0.d5.b9.n : Int) = 2 ∧ (x0.d5.m9.n : Int) = 0))) H _ A0.drop.drop h
 ·replace h := h.2 a3F
  refine a6 J1 ?_
  refine a6 a1y ?_
  refine c5 (ld1 Tryd.isAgg3 ((A0.bring 1).at1 (o := 1) (vs := [(vi x0.d5.fOp)]) (nb rfl) rfl)) ?_
  refine a6 (Z0 _ _ _ _ _ _) ?_
  refine b0g (fun a3G => ?_) (fun a3G => ?_)
  ·replace h := h.1 a3G
   exact hR false H _ A0.drop.drop h
  ·replace h := h.2 a3G
   refine a6 J1 ?_
   refine a6 a9l ?_
   refine c5 (ld1 Tryd.isAgg3 ((A0.bring 1).at1 (o := 0) (vs := [(vi x0.d5.d4)]) (nb rfl) rfl)) ?_
   have hj1 : ∀ (a7E : Bool) (H : Hp) (w : World) (_ : Inv w0 ps0 H0 H [bx g_7 209 [(vi (u1.mk (x0.d5.b9.n : Int) (x0.d5.m9.n : Int)).fexprs), (vi (u1.mk (x0.d5.b9.n : Int) (x0.d5.m9.n : Int)).fparts)], bx g_2 106 (d9 x0.d5)] w) (_ : A9 x0.d5.d4 a7E (u1.mk (x0.d5.b9.n : Int) (x0.d5.m9.n : Int)) x0 H K), b0G (Value.pointer (some ⟨g_7, 0, none⟩)) (vi x0.d5.d4) (Value.bool a7E) w R E := by
    intro a7E H w I h
    unfold b0G
    intro _
    unfold A9 at h
    refine r8 (fun a3H => ?_) (fun a3H => ?_)
    ·replace h := h.1 a3H
     refine c5 (ldA Tryd.isAgg209 Tryd.sizeOf209 rfl (I.at1 (o := 0) (vs := [(vi (u1.mk (x0.d5.b9.n : Int) (x0.d5.m9.n : Int)).fexprs), (vi (u1.mk (x0.d5.b9.n : Int) (x0.d5.m9.n : Int)).fparts)]) (nb rfl) rfl)) ?_
     refine a6 (b5d ) ?_
     refine a6 (a1m _ _ _ _ _ _) ?_
     exact hR (decide ((u1.mk (x0.d5.b9.n : Int) (x0.d5.m9.n : Int)).fexprs = 0 ∧ (u1.mk (x0.d5.b9.n : Int) (x0.d5.m9.n : Int)).fparts = 0)) H _ I.drop.drop h
    ·replace h := h.2 a3H
     refine a6 (f7 _ _ _ _ _ _) ?_
     refine d7 (fun a3I => ?_) (fun a3I => ?_)
     ·replace h := h.1 a3I
      refine c5 (ldA Tryd.isAgg209 Tryd.sizeOf209 rfl (I.at1 (o := 0) (vs := [(vi (u1.mk (x0.d5.b9.n : Int) (x0.d5.m9.n : Int)).fexprs), (vi (u1.mk (x0.d5.b9.n : Int) (x0.d5.m9.n : Int)).fparts)]) (nb rfl) rfl)) ?_
      refine a6 (R8 _ _) ?_
      refine a6 (a1m _ _ _ _ _ _) ?_
      exact hR (decide ((u1.mk (x0.d5.b9.n : Int) (x0.d5.m9.n : Int)).fexprs = 0 ∧ (u1.mk (x0.d5.b9.n : Int) (x0.d5.m9.n : Int)).fparts = 1)) H _ I.drop.drop h
     ·replace h := h.2 a3I
      have hj2 : ∀ (a7D : Bool) (H : Hp) (w : World) (_ : Inv w0 ps0 H0 H [bx g_7 209 [(vi (u1.mk (x0.d5.b9.n : Int) (x0.d5.m9.n : Int)).fexprs), (vi (u1.mk (x0.d5.b9.n : Int) (x0.d5.m9.n : Int)).fparts)], bx g_2 106 (d9 x0.d5)] w) (_ : A8 a7D (u1.mk (x0.d5.b9.n : Int) (x0.d5.m9.n : Int)) x0 H K), b0F (Value.pointer (some ⟨g_7, 0, none⟩)) (Value.bool a7D) w R E := by
       intro a7D H w I h
       unfold b0F
       intro _
       unfold A8 at h
       refine r8 (fun a8y => ?_) (fun a8y => ?_)
       ·replace h := h.1 a8y
        refine c5 (ldA Tryd.isAgg209 Tryd.sizeOf209 rfl (I.at1 (o := 0) (vs := [(vi (u1.mk (x0.d5.b9.n : Int) (x0.d5.m9.n : Int)).fexprs), (vi (u1.mk (x0.d5.b9.n : Int) (x0.d5.m9.n : Int)).fparts)]) (nb rfl) rfl)) ?_
        refine a6 (R8 _ _) ?_
        refine a6 (a1m _ _ _ _ _ _) ?_
        exact hR (decide ((u1.mk (x0.d5.b9.n : Int) (x0.d5.m9.n : Int)).fexprs = 0 ∧ (u1.mk (x0.d5.b9.n : Int) (x0.d5.m9.n : Int)).fparts = 2)) H _ I.drop.drop h
       ·replace h := h.2 a8y
        exact hR false H _ I.drop.drop h
      refine v2 fun j2 hx2 => ?_
      refine a6 (f7 _ _ _ _ _ _) ?_
      refine d7 (fun a0Z => ?_) (fun a0Z => ?_)
      ·replace h := h.1 a0Z
       exact hx2 _ _ (hj2 (decide (x0.d5.d4 = 5)) H _ ((I.bring 1).bring 1) h)
      ·replace h := h.2 a0Z
       refine a6 (f7 _ _ _ _ _ _) ?_
       exact hx2 _ _ (hj2 (decide (x0.d5.d4 = 6)) H _ ((I.bring 1).bring 1) h)
   refine v2 fun j1 hx1 => ?_
   refine a6 (f7 _ _ _ _ _ _) ?_
   refine d7 (fun a3J => ?_) (fun a3J => ?_)
   ·replace h := h.1 a3J
    exact hx1 _ _ (hj1 (decide (x0.d5.d4 = 1)) H _ ((A0.bring 1).bring 1) h)
   ·replace h := h.2 a3J
    refine a6 (f7 _ _ _ _ _ _) ?_
    exact hx1 _ _ (hj1 (decide (x0.d5.d4 = 2)) H _ ((A0.bring 1).bring 1) h)
theorem a4i (x0 : B3) {H : Hp} {K : Bool → Hp → Prop} (h : M7 x0 H K) : T4 x0 H K := by
 intro w I
 refine c4c ?_
 refine a3E x0 I (fun r0 H' w' I' hk => ⟨H', _, I', r0, rfl, rfl, hk⟩) h
def m0 (L4 : (List a8)) (H : Hp) (K : Sl → Hp → Prop) : Prop :=
 ∀ (u9 : Sl) (O0 : Hp), Hle H O0 → SlH O0 1 h7 u9 L4 → u9.n ≤ u9.c →
 K u9 O0
def m1 (Q4 : Sl) (O1 : Int) (j9 : (List a8)) (i5 : Int) (H : Hp) (n2 : ((List a8) × Int) → Hp → Prop) (K : Sl → Hp → Prop) : Prop :=
 (i5 < O1 →
 (0 : Int) ≤ i5 ∧ (i5 : Int) < Q4.n ∧ ∃ x_1 : p8, EltH H Q4 i5 4 (d9 x_1) ∧
 a1N x_1 H (fun (E5 : a8) (W6 : Hp) =>
 (j9.length + ([E5] : List a8).length) * 17 ≤ 140737488355328 ∧
 n2 ((j9 ++ [E5]), (IntKind.wrap .i64 (i5 + 1))) W6)) ∧
 (¬ (i5 < O1) →
 m0 j9 H K)
def o4 (x0 : Sl) (H : Hp) (K : Sl → Hp → Prop) : Prop :=
 TL (([], 0) : (List a8) × Int) H fun (s : (List a8) × Int) H n2 => m1 x0 (x0.n : Int) s.1 s.2 H n2 K
theorem N3 (x0 : Sl) {w0 w : World} {ps0 : Nat → Prop} {H0 H : Hp} {K : Sl → Hp → Prop} {R : Value → World → Prop} {E : Pan} (I : Inv w0 ps0 H0 H [] w) (hR : ∀ (r0 : Sl) (H' : Hp) (w' : World) (_ : Inv w0 ps0 H0 H' [] w') (_ : K r0 H'), R (vs r0) w') (h : o4 x0 H K) : b5D (vs x0) (Value.func (.func 155) #[] #[]) w R E := by
 unfold o4 at h
 unfold b5D
 have hj1 : ∀ (L4 : (List a8)) (u9 : Sl) (Fs5j1 : Frag) (H : Hp) (w : World) (_ : RowL 141 1 h7 u9 L4 Fs5j1) (_ : Inv w0 ps0 H0 H [Fs5j1] w) (_ : m0 L4 H K), b0H (vs u9) w R E := by
  intro L4 u9 Fs5j1 H w a5F I h
  unfold b0H
  intro _
  unfold m0 at h
  obtain ⟨O0, a3K, a7b, a3L, a4I⟩ := Inv.freezeC I a5F (by decide)
  replace h := h u9 O0 a7b a3L a4I
  exact hR u9 O0 _ a3K h
 refine v2 fun j1 hx1 => ?_
 refine a6 (a2D _ _ _) ?_
 obtain ⟨a1b, S5, a8z, a8A⟩ := h
 refine G2 (J := fun n l w => ∃ (s : (List a8) × Int) (H : Hp) (L5 : Sl) (Fs5l2 : Frag) , n = S5 s ∧ l = (match s with | (j9, i5) => [(vs L5), (vi i5)]) ∧ (match s with | (j9, i5) => RowL 141 1 h7 L5 j9 Fs5l2) ∧ (match s with | (j9, i5) => Inv w0 ps0 H0 H [Fs5l2] w) ∧ a1b s H) ⟨_, ([], 0), H, (Sl.mk none 0 0), [], rfl, rfl, (RowL.nil C7 E2), I.nil, a8z⟩ ?_
 rintro b9W τ_50 w next2 ⟨⟨j9, i5⟩, H, L5, Fs5l2, rfl, a1d, X9, I, a8B⟩ hn2
 dsimp only at a1d I X9
 simp only [List.map_cons, List.map_nil, List.cons.injEq, and_true] at a1d
 obtain ⟨e5, e10⟩ := a1d
 simp only [e5, e10]
 obtain ⟨n2, hm2, h⟩ : ∃ n2 : ((List a8) × Int) → Hp → Prop, (∀ s' H', n2 s' H' → a1b s' H' ∧ S5 s' < S5 (j9, i5)) ∧ m1 x0 (x0.n : Int) j9 i5 H n2 K := ⟨_, fun _ _ h => h, a8A (j9, i5) H (fun s' H' => a1b s' H' ∧ S5 s' < S5 (j9, i5)) a8B (fun _ _ a b => ⟨a, b⟩)⟩
 unfold b4G
 unfold m1 at h
 refine a6 (K7 _ _ _ _ _ _) ?_
 refine d7 (fun Y0 => ?_) (fun Y0 => ?_)
 ·replace h := h.1 Y0
  obtain ⟨h_4, h_5, x_1, h_7, h⟩ := h
  obtain ⟨g_2, o_3, h_6, h_7⟩ := h_7
  refine a6 (a8p h_6 _ _ _ _ h_4 h_5) ?_
  refine c5 (ldA (vs := (d9 x_1)) Tryd.isAgg33 Tryd.sizeOf33 rfl (I.atH h_7)) ?_
  refine E7 I Tryd.zeroValue33 (cs := [(vi 0), (vi 0), (Value.slice none 0 0), (Value.slice none 0 0)]) rfl fun g_9 o2 a2b b2W => ?_
  refine s6 a2b Tryd.sizeOf33 (vs := (d9 x_1)) (cs' := (d9 x_1)) rfl rfl (nb rfl) rfl rfl fun a3x a3M b9X => ?_
  refine c5 (ldA Tryd.isAgg33 Tryd.sizeOf33 rfl (a3M.at1 (o := 0) (vs := (d9 x_1)) (nb rfl) rfl)) ?_
  refine f8 (cap := []) (fun args w => Tryd.call155 args w) ?_
  refine j8 (Fi := []) (Fr := [bx g_9 33 (d9 x_1), Fs5l2]) a3M (h) (fun b5K W6 b5L a0F a0o b5M b5N a5G => ?_) (fun _ _ _ _ _ q => q.elim)
  obtain ⟨E5, rfl, rfl, h⟩ := a5G
  refine a1w (e := 141) (c := h7) (xs := [E5]) a0o (a7x _) rfl rfl C7 E2 (nb rfl) fun b2X b0L G4 a5H a0I b2Y => ?_
  obtain ⟨a5I, h⟩ := h
  refine a6H (s := L5) (xs := j9) (a0I.bring 2) X9 (a5H.srcO ((a0I.bring 2).bring 1)) a5I fun a8C a8D J3 a5J a2N b5O => ?_
  refine a6 (F8 _ _ _ _ _ _) ?_
  exact hn2 _ _ _ (hm2 _ _ h).2 ⟨((j9 ++ [E5]), (IntKind.wrap .i64 (i5 + 1))), W6, a8C, a8D, rfl, rfl, a5J, ((a2N.bring 1).drop.bring 1).drop, (hm2 _ _ h).1⟩
 ·replace h := h.2 Y0
  exact hx1 _ _ (hj1 j9 L5 Fs5l2 H _ X9 I h)
theorem O2 (x0 : Sl) {H : Hp} {K : Sl → Hp → Prop} (h : o4 x0 H K) : o3 x0 H K := by
 intro w I
 refine c4g ?_
 refine N3 x0 I (fun r0 H' w' I' hk => ⟨H', _, I', r0, rfl, rfl, hk⟩) h
def L6 (x0 : B3) (H : Hp) (K : Sl → Hp → Prop) : Prop :=
 j7 x0.d5.b9 H (fun (a1O : Sl) (H_8 : Hp) =>
 o3 x0.d5.m9 H_8 (fun (a1P : Sl) (a7c : Hp) =>
 ∀ (a2d : Sl) (a3N : Hp), Hle a7c a3N → SlH a3N 1 csl a2d [a1O, a1P] → a2d.n ≤ a2d.c →
 o0 a2d a3N (fun (a7F : Sl) (b0M : Hp) =>
 K a7F b0M)))
theorem a3b (x0 : B3) {w0 w : World} {ps0 : Nat → Prop} {H0 H : Hp} {K : Sl → Hp → Prop} {R : Value → World → Prop} {E : Pan} (I : Inv w0 ps0 H0 H [] w) (hR : ∀ (r0 : Sl) (H' : Hp) (w' : World) (_ : Inv w0 ps0 H0 H' [] w') (_ : K r0 H'), R (vs r0) w') (h : L6 x0 H K) : b5C (Value.agg (d9 x0.d5).toArray) w R E := by
 unfold L6 at h
 unfold b5C
 refine M6 I (cs := (d9 x0.d5)) rfl fun g_2 w_3 I_4 k_5 => ?_
 refine a1u I_4 fun w_6 I_7 => ?_
 refine i8 J1 ?_
 refine i8 a5n ?_
 refine i8 J1 ?_
 refine i8 a5o ?_
 refine E8 (ld1 Tryd.isAgg28 (I_7.at1 (o := 2) (vs := [(vs x0.d5.b9)]) (nb rfl) rfl)) ?_
 refine E8 (ld1 Tryd.isAgg31 (I_7.at1 (o := 3) (vs := [(vs x0.d5.m9)]) (nb rfl) rfl)) ?_
 refine f8 (cap := []) (fun args w => Tryd.call150 args w) ?_
 refine j8 (Fi := []) (Fr := [bx g_2 106 (d9 x0.d5)]) I_7 (h) (fun d0L H_8 d0M w_9 a5K d0N a8E b2Z => ?_) (fun _ _ _ _ _ q => q.elim)
 obtain ⟨a1O, rfl, rfl, h⟩ := b2Z
 refine ⟨(a8E _ I_7.lt1 (Inv.a1v (Fi := []) I_7)), ?_⟩
 refine f8 (cap := []) (fun args w => Tryd.call154 args w) ?_
 refine j8 (Fi := []) (Fr := [bx g_2 106 (d9 x0.d5)]) a5K (h) (fun d0O a7c d0P y9 a3O d0Q b0N b3a => ?_) (fun _ _ _ _ _ q => q.elim)
 obtain ⟨a1P, rfl, rfl, h⟩ := b3a
 refine a1w (e := 97) (c := csl) (xs := [a1O, a1P]) a3O (b2n _ _ _ _ _ _) rfl rfl b1M b1N (nb rfl) fun a2d d0R d0S b9Y b3b d0T => ?_
 obtain ⟨a3N, b9Z, b2M, b3c, c0a⟩ := Inv.freezeC b3b b9Y (by decide)
 replace h := h a2d a3N b2M b3c c0a
 refine f8 (cap := []) (fun args w => Tryd.call94 args w) ?_
 refine j8 (Fi := []) (Fr := [bx g_2 106 (d9 x0.d5)]) b9Z (h) (fun d6T b0M d6U d6V a3K d6W d6X c0b => ?_) (fun _ _ _ _ _ q => q.elim)
 obtain ⟨a7F, rfl, rfl, h⟩ := c0b
 exact hR a7F b0M _ a3K.drop h
theorem a3P (x0 : B3) {H : Hp} {K : Sl → Hp → Prop} (h : L6 x0 H K) : a0k x0 H K := by
 intro w I
 refine c4e ?_
 refine a3b x0 I (fun r0 H' w' I' hk => ⟨H', _, I', r0, rfl, rfl, hk⟩) h
end Go.Proofs.YthldnpmfelniiaaDoor
