/- Typed formulas of the program's functions, and the theorems that the contracts follow from them; printed by lift.py off the code. -/
import Derived.Test.YthldnpmfelniiaaDoorzWV1
namespace Go.Proofs.YthldnpmfelniiaaDoor
open Go.RowKit
set_option maxRecDepth 100000
set_option maxHeartbeats 2000000
def a3M (x0 : i4) (H : Hp) (K : c7 → Hp → Prop) : Prop :=
 K (c7.K7 (R1.mk x0)) H
theorem b4G (x0 : i4) {w0 w : World} {ps0 : Nat → Prop} {H0 H : Hp} {K : c7 → Hp → Prop} {R : Value → World → Prop} {E : Pan} (I : Inv w0 ps0 H0 H [] w) (hR : ∀ (r0 : c7) (H' : Hp) (w' : World) (_ : Inv w0 ps0 H0 H' [] w') (_ : K r0 H'), R (A6 r0) w') (h : a3M x0 H K) : F96 (Value.agg (g9 x0).toArray) w R E := by
 unfold a3M at h
 unfold F96
 refine K2 I (cs := (g9 x0)) rfl fun g_2 w_3 I_4 k_5 => ?_
 refine c5 (ldA Tryd.isAgg67 Tryd.sizeOf67 rfl (I_4.at1 (o := 0) (vs := (g9 x0)) (nb rfl) rfl)) ?_
 refine a6 (c5R _ _) ?_
 refine a6 (c2U (R1.mk x0)) ?_
 exact hR (c7.K7 (R1.mk x0)) H _ I_4.drop h
theorem b5z (x0 : i4) {H : Hp} {K : c7 → Hp → Prop} (h : a3M x0 H K) : a8N x0 H K := by
 intro w I
 refine f2W ?_
 refine b4G x0 I (fun r0 H' w' I' hk => ⟨H', _, I', r0, rfl, rfl, hk⟩) h
def a5y (x0 : Int) (x1 : Int) (x2 : Int) (H : Hp) (K : Bool → Hp → Prop) : Prop :=
 K ((decide (x0 ≤ x2)) && (decide (x2 ≤ x1))) H
theorem b4a (x0 : Int) (x1 : Int) (x2 : Int) (g2 : Nat) {w0 w : World} {ps0 : Nat → Prop} {H0 H : Hp} {K : Bool → Hp → Prop} {R : Value → World → Prop} {E : Pan} (I : Inv w0 ps0 H0 H [bx g2 21 [(Value.int .i32 x2)]] w) (hR : ∀ (r0 : Bool) (H' : Hp) (w' : World) (_ : Inv w0 ps0 H0 H' [bx g2 21 [(Value.int .i32 x2)]] w') (_ : K r0 H'), R (Value.bool r0) w') (h : a5y x0 x1 x2 H K) : d2g (Value.int .i32 x0) (Value.int .i32 x1) (Value.pointer (some ⟨g2, 0, none⟩)) w R E := by
 unfold a5y at h
 unfold d2g
 refine c5 (ld1 Tryd.isAgg21 (I.at1 (o := 0) (vs := [(Value.int .i32 x2)]) (nb rfl) rfl)) ?_
 refine a6 (a1o _ _ _ _ _ _) ?_
 refine c5 (Ld.g fun hb => by have a7 := hb; first | exact (ld1 Tryd.isAgg21 (I.at1 (o := 0) (vs := [(Value.int .i32 x2)]) (nb rfl) rfl)) | (simp only [b8 a7, a8 a7, a8 hb, r9 a7]; exact (ld1 Tryd.isAgg21 (I.at1 (o := 0) (vs := [(Value.int .i32 x2)]) (nb rfl) rfl))) | (simp only [b8 a7, a8 a7, a8 hb, d9 a7, h7]; exact (ld1 Tryd.isAgg21 (I.at1 (o := 0) (vs := [(Value.int .i32 x2)]) (nb rfl) rfl)))) ?_
 try simp only [o6]
 refine a6 (Pu.g fun hb => by have a7 := hb; first | exact (a1o _ _ _ _ _ _) | (simp only [a8 a7]; exact (a1o _ _ _ _ _ _)) | (simp only [b8 a7, a8 a7, a8 hb, d9 a7, h7]; exact (a1o _ _ _ _ _ _))) ?_
 refine a6 (p1 _ _) ?_
 exact hR ((decide (x0 ≤ x2)) && (decide (x2 ≤ x1))) H _ I h
theorem b4H (x0 : Int) (x1 : Int) (x2 : Int) {H : Hp} {K : Bool → Hp → Prop} (h : a5y x0 x1 x2 H K) : K6 x0 x1 x2 H K := by
 intro g2 w I
 refine e5W ?_
 refine b4a x0 x1 x2 g2 I (fun r0 H' w' I' hk => ⟨H', _, I', r0, rfl, rfl, hk⟩) h
def a5k (x0 : ByteArray) (H : Hp) (K : Bool → Hp → Prop) : Prop :=
 a1k x0 H (fun (L9 : Int) (H_1 : Hp) =>
 K (decide (32 < L9)) H_1)
theorem b7K (x0 : ByteArray) {w0 w : World} {ps0 : Nat → Prop} {H0 H : Hp} {K : Bool → Hp → Prop} {R : Value → World → Prop} {E : Pan} (I : Inv w0 ps0 H0 H [] w) (hR : ∀ (r0 : Bool) (H' : Hp) (w' : World) (_ : Inv w0 ps0 H0 H' [] w') (_ : K r0 H'), R (Value.bool r0) w') (h : a5k x0 H K) : d2a (Value.string x0) w R E := by
 unfold a5k at h
 unfold d2a
 refine f7 (cap := []) (fun args w => Tryd.call130 args w) ?_
 refine m2 (Fi := []) (Fr := []) I (h) (fun v_5 H_1 F_6 w_2 I_3 l_8 k_4 q_7 => ?_) (fun _ _ _ _ _ q => q.elim)
 obtain ⟨L9, rfl, rfl, h⟩ := q_7
 refine a6 (T7 _ _ _ _ _ _) ?_
 exact hR (decide (32 < L9)) H_1 _ I_3 h
theorem b9l (x0 : ByteArray) {H : Hp} {K : Bool → Hp → Prop} (h : a5k x0 H K) : a5i x0 H K := by
 intro w I
 refine e5K ?_
 refine b7K x0 I (fun r0 H' w' I' hk => ⟨H', _, I', r0, rfl, rfl, hk⟩) h
def o5 (o9 : Bool) (H : Hp) (K : Bool → Hp → Prop) : Prop :=
 (o9 = true →
 K true H) ∧
 (o9 = false →
 K false H)
def a5l (x0 : ByteArray) (H : Hp) (K : Bool → Hp → Prop) : Prop :=
 (x0 = ⟨#[118, 97, 114]⟩ →
 o5 (decide (x0 = ⟨#[118, 97, 114]⟩)) H K) ∧
 (¬ (x0 = ⟨#[118, 97, 114]⟩) →
 (x0 = ⟨#[97, 114, 114, 97, 121]⟩ →
 o5 (decide (x0 = ⟨#[97, 114, 114, 97, 121]⟩)) H K) ∧
 (¬ (x0 = ⟨#[97, 114, 114, 97, 121]⟩) →
 (x0 = ⟨#[105, 102]⟩ →
 o5 (decide (x0 = ⟨#[105, 102]⟩)) H K) ∧
 (¬ (x0 = ⟨#[105, 102]⟩) →
 (x0 = ⟨#[101, 108, 115, 101]⟩ →
 o5 (decide (x0 = ⟨#[101, 108, 115, 101]⟩)) H K) ∧
 (¬ (x0 = ⟨#[101, 108, 115, 101]⟩) →
 (x0 = ⟨#[119, 104, 105, 108, 101]⟩ →
 o5 (decide (x0 = ⟨#[119, 104, 105, 108, 101]⟩)) H K) ∧
 (¬ (x0 = ⟨#[119, 104, 105, 108, 101]⟩) →
 (x0 = ⟨#[97, 115, 115, 101, 114, 116]⟩ →
 o5 (decide (x0 = ⟨#[97, 115, 115, 101, 114, 116]⟩)) H K) ∧
 (¬ (x0 = ⟨#[97, 115, 115, 101, 114, 116]⟩) →
 (x0 = ⟨#[97, 115, 115, 117, 109, 101]⟩ →
 o5 (decide (x0 = ⟨#[97, 115, 115, 117, 109, 101]⟩)) H K) ∧
 (¬ (x0 = ⟨#[97, 115, 115, 117, 109, 101]⟩) →
 (x0 = ⟨#[115, 107, 105, 112]⟩ →
 o5 (decide (x0 = ⟨#[115, 107, 105, 112]⟩)) H K) ∧
 (¬ (x0 = ⟨#[115, 107, 105, 112]⟩) →
 (x0 = ⟨#[105, 110, 112, 117, 116]⟩ →
 o5 (decide (x0 = ⟨#[105, 110, 112, 117, 116]⟩)) H K) ∧
 (¬ (x0 = ⟨#[105, 110, 112, 117, 116]⟩) →
 (x0 = ⟨#[116, 114, 117, 101]⟩ →
 o5 (decide (x0 = ⟨#[116, 114, 117, 101]⟩)) H K) ∧
 (¬ (x0 = ⟨#[116, 114, 117, 101]⟩) →
 o5 (decide (x0 = ⟨#[102, 97, 108, 115, 101]⟩)) H K))))))))))
theorem b7L (x0 : ByteArray) {w0 w : World} {ps0 : Nat → Prop} {H0 H : Hp} {K : Bool → Hp → Prop} {R : Value → World → Prop} {E : Pan} (I : Inv w0 ps0 H0 H [] w) (hR : ∀ (r0 : Bool) (H' : Hp) (w' : World) (_ : Inv w0 ps0 H0 H' [] w') (_ : K r0 H'), R (Value.bool r0) w') (h : a5l x0 H K) : d2b (Value.string x0) w R E := by
 unfold a5l at h
 unfold d2b
 have hj1 : ∀ (o9 : Bool) (H : Hp) (w : World) (_ : Inv w0 ps0 H0 H [] w) (_ : o5 o9 H K), c3b (Value.bool o9) w R E := by
  intro o9 H w I h
  unfold c3b
  intro _
  unfold o5 at h
  refine m5 (fun c_1 => ?_) (fun c_1 => ?_)
  ·replace h := h.1 c_1
   exact hR true H _ I h
  ·replace h := h.2 c_1
   exact hR false H _ I h
 refine o3 fun j1 hx1 => ?_
 refine a6 (L3 _ _ _ _ _) ?_
 refine g8 (fun b2n => ?_) (fun b2n => ?_)
 ·replace h := h.1 b2n
  exact hx1 _ _ (hj1 (decide (x0 = ⟨#[118, 97, 114]⟩)) H _ I h)
 ·replace h := h.2 b2n
  refine a6 (L3 _ _ _ _ _) ?_
  refine g8 (fun b9I => ?_) (fun b9I => ?_)
  ·replace h := h.1 b9I
   exact hx1 _ _ (hj1 (decide (x0 = ⟨#[97, 114, 114, 97, 121]⟩)) H _ I h)
  ·replace h := h.2 b9I
   refine a6 (L3 _ _ _ _ _) ?_
   refine g8 (fun c_9 => ?_) (fun c_9 => ?_)
   ·replace h := h.1 c_9
    exact hx1 _ _ (hj1 (decide (x0 = ⟨#[105, 102]⟩)) H _ I h)
   ·replace h := h.2 c_9
    refine a6 (L3 _ _ _ _ _) ?_
    refine g8 (fun c_8 => ?_) (fun c_8 => ?_)
    ·replace h := h.1 c_8
     exact hx1 _ _ (hj1 (decide (x0 = ⟨#[101, 108, 115, 101]⟩)) H _ I h)
    ·replace h := h.2 c_8
     refine a6 (L3 _ _ _ _ _) ?_
     refine g8 (fun c_7 => ?_) (fun c_7 => ?_)
     ·replace h := h.1 c_7
      exact hx1 _ _ (hj1 (decide (x0 = ⟨#[119, 104, 105, 108, 101]⟩)) H _ I h)
     ·replace h := h.2 c_7
      refine a6 (L3 _ _ _ _ _) ?_
      refine g8 (fun c_6 => ?_) (fun c_6 => ?_)
      ·replace h := h.1 c_6
       exact hx1 _ _ (hj1 (decide (x0 = ⟨#[97, 115, 115, 101, 114, 116]⟩)) H _ I h)
      ·replace h := h.2 c_6
       refine a6 (L3 _ _ _ _ _) ?_
       refine g8 (fun c_5 => ?_) (fun c_5 => ?_)
       ·replace h := h.1 c_5
        exact hx1 _ _ (hj1 (decide (x0 = ⟨#[97, 115, 115, 117, 109, 101]⟩)) H _ I h)
       ·replace h := h.2 c_5
        refine a6 (L3 _ _ _ _ _) ?_
        refine g8 (fun c_4 => ?_) (fun c_4 => ?_)
        ·replace h := h.1 c_4
         exact hx1 _ _ (hj1 (decide (x0 = ⟨#[115, 107, 105, 112]⟩)) H _ I h)
        ·replace h := h.2 c_4
         refine a6 (L3 _ _ _ _ _) ?_
         refine g8 (fun c_3 => ?_) (fun c_3 => ?_)
         ·replace h := h.1 c_3
          exact hx1 _ _ (hj1 (decide (x0 = ⟨#[105, 110, 112, 117, 116]⟩)) H _ I h)
         ·replace h := h.2 c_3
          refine a6 (L3 _ _ _ _ _) ?_
          refine g8 (fun c_2 => ?_) (fun c_2 => ?_)
          ·replace h := h.1 c_2
           exact hx1 _ _ (hj1 (decide (x0 = ⟨#[116, 114, 117, 101]⟩)) H _ I h)
          ·replace h := h.2 c_2
           refine a6 (L3 _ _ _ _ _) ?_
           exact hx1 _ _ (hj1 (decide (x0 = ⟨#[102, 97, 108, 115, 101]⟩)) H _ I h)
theorem b9m (x0 : ByteArray) {H : Hp} {K : Bool → Hp → Prop} (h : a5l x0 H K) : a3E x0 H K := by
 intro w I
 refine e5M ?_
 refine b7L x0 I (fun r0 H' w' I' hk => ⟨H', _, I', r0, rfl, rfl, hk⟩) h
def N2 (b8G : Bool) (cr_6j2 : H9) (_cr_1j2 : N7) (H : Hp) (K : Bool → Hp → Prop) : Prop :=
 (b8G = true →
 K (decide (cr_6j2.fexprs = 0 ∧ cr_6j2.fparts = 2)) H) ∧
 (b8G = false →
 K false H)
def N3 (a7m : Int) (b8H : Bool) (cr_6j1 : H9) (cr_1j1 : N7) (H : Hp) (K : Bool → Hp → Prop) : Prop :=
 (b8H = true →
 K (decide (cr_6j1.fexprs = 0 ∧ cr_6j1.fparts = 0)) H) ∧
 (b8H = false →
 (a7m = 4 →
 K (decide (cr_6j1.fexprs = 0 ∧ cr_6j1.fparts = 1)) H) ∧
 (¬ (a7m = 4) →
 (a7m = 5 →
 N2 (decide (a7m = 5)) cr_6j1 cr_1j1 H K) ∧
 (¬ (a7m = 5) →
 N2 (decide (a7m = 6)) cr_6j1 cr_1j1 H K)))
def a2k (x0 : N7) (H : Hp) (K : Bool → Hp → Prop) : Prop :=
 (x0.m3.c6 = 3 →
 K (((decide (1 ≤ x0.m3.fOp)) && (decide (x0.m3.fOp ≤ 6))) && (decide ((x0.m3.g5.n : Int) = 2 ∧ (x0.m3.p5.n : Int) = 0))) H) ∧
 (¬ (x0.m3.c6 = 3) →
 (¬ (x0.m3.fOp = 0) →
 K false H) ∧
 (x0.m3.fOp = 0 →
 (x0.m3.c6 = 1 →
 N3 x0.m3.c6 (decide (x0.m3.c6 = 1)) (H9.mk (x0.m3.g5.n : Int) (x0.m3.p5.n : Int)) x0 H K) ∧
 (¬ (x0.m3.c6 = 1) →
 N3 x0.m3.c6 (decide (x0.m3.c6 = 2)) (H9.mk (x0.m3.g5.n : Int) (x0.m3.p5.n : Int)) x0 H K)))
theorem b2o (x0 : N7) {w0 w : World} {ps0 : Nat → Prop} {H0 H : Hp} {K : Bool → Hp → Prop} {R : Value → World → Prop} {E : Pan} (I : Inv w0 ps0 H0 H [] w) (hR : ∀ (r0 : Bool) (H' : Hp) (w' : World) (_ : Inv w0 ps0 H0 H' [] w') (_ : K r0 H'), R (Value.bool r0) w') (h : a2k x0 H K) : d2l (Value.agg (g7 x0.m3).toArray) w R E := by
 unfold a2k at h
 unfold d2l
 refine K2 I (cs := (g7 x0.m3)) rfl fun g_2 w_3 I_4 k_5 => ?_
 refine a6 a0O ?_
 refine a6 a0V ?_
 refine c5 (ld1 Tryd.isAgg28 (I_4.at1 (o := 2) (vs := [(vs x0.m3.g5)]) (nb rfl) rfl)) ?_
 refine a6 (G2 _ _ _) ?_
 refine a6 a0O ?_
 refine a6 a0W ?_
 refine c5 (ld1 Tryd.isAgg31 (I_4.at1 (o := 3) (vs := [(vs x0.m3.p5)]) (nb rfl) rfl)) ?_
 refine a6 (Q7 _ _ _) ?_
 refine a6 (a3Z _ _) ?_
 refine L8 I_4 Tryd.zeroValue209 (cs := [(vi 0), (vi 0)]) rfl fun g_7 w_8 I_9 d2v => ?_
 refine u1 I_9 Tryd.sizeOf209 (vs := [(vi (x0.m3.g5.n : Int)), (vi (x0.m3.p5.n : Int))]) (cs' := [(vi (x0.m3.g5.n : Int)), (vi (x0.m3.p5.n : Int))]) rfl rfl (nb rfl) rfl rfl fun a1j G9 b5A => ?_
 refine a6 a0O ?_
 refine a6 b1i ?_
 refine c5 (ld1 Tryd.isAgg3 ((G9.bring 1).at1 (o := 0) (vs := [(vi x0.m3.c6)]) (nb rfl) rfl)) ?_
 refine a6 (c8 _ _ _ _ _ _) ?_
 refine g8 (fun b2p => ?_) (fun b2p => ?_)
 ·replace h := h.1 b2p
  refine a6 a0O ?_
  refine a6 a2M ?_
  refine c5 (ld1 Tryd.isAgg3 ((G9.bring 1).at1 (o := 1) (vs := [(vi x0.m3.fOp)]) (nb rfl) rfl)) ?_
  refine a6 (a1p _ _ _ _ _ _) ?_
  refine a6 (Pu.g fun hb => by have a7 := hb; first | exact a0O | (simp only [b8 a7, a8 a7, a8 hb, r9 a7]; exact a0O) | (simp only [b8 a7, a8 a7, a8 hb, d9 a7, h7]; exact a0O)) ?_
  refine a6 (Pu.g fun hb => by have a7 := hb; first | exact a2M | (simp only [a8 a7]; exact a2M) | (simp only [b8 a7, a8 a7, a8 hb, d9 a7, h7]; exact a2M)) ?_
  refine c5 (Ld.g fun hb => by have a7 := hb; first | exact (ld1 Tryd.isAgg3 ((G9.bring 1).at1 (o := 1) (vs := [(vi x0.m3.fOp)]) (nb rfl) rfl)) | (simp only [a8 a7]; exact (ld1 Tryd.isAgg3 ((G9.bring 1).at1 (o := 1) (vs := [(vi x0.m3.fOp)]) (nb rfl) rfl))) | (simp only [b8 a7, a8 a7, a8 hb, d9 a7, h7]; exact (ld1 Tryd.isAgg3 ((G9.bring 1).at1 (o := 1) (vs := [(vi x0.m3.fOp)]) (nb rfl) rfl)))) ?_
  refine a6 (Pu.g fun hb => by have a7 := hb; first | exact (a1o _ _ _ _ _ _) | (simp only [a8 a7]; exact (a1o _ _ _ _ _ _)) | (simp only [b8 a7, a8 a7, a8 hb, d9 a7, h7]; exact (a1o _ _ _ _ _ _))) ?_
  refine a6 (p1 _ _) ?_
  refine c5 (Ld.g fun hb => by have a7 := hb; first | exact (ldA Tryd.isAgg209 Tryd.sizeOf209 rfl (G9.at1 (o := 0) (vs := [(vi (x0.m3.g5.n : Int)), (vi (x0.m3.p5.n : Int))]) (nb rfl) rfl)) | (simp only [b8 a7, a8 a7, a8 hb, r9 a7]; exact (ldA Tryd.isAgg209 Tryd.sizeOf209 rfl (G9.at1 (o := 0) (vs := [(vi (x0.m3.g5.n : Int)), (vi (x0.m3.p5.n : Int))]) (nb rfl) rfl))) | (simp only [b8 a7, a8 a7, a8 hb, d9 a7, h7]; exact (ldA Tryd.isAgg209 Tryd.sizeOf209 rfl (G9.at1 (o := 0) (vs := [(vi (x0.m3.g5.n : Int)), (vi (x0.m3.p5.n : Int))]) (nb rfl) rfl)))) ?_
  refine a6 (Pu.g fun hb => by have a7 := hb; first | exact (a3Z _ _) | (simp only [b8 a7, a8 a7, a8 hb, r9 a7]; exact (a3Z _ _)) | (simp only [b8 a7, a8 a7, a8 hb, d9 a7, h7]; exact (a3Z _ _))) ?_
  refine a6 (Pu.g fun hb => by have a7 := hb; first | exact (a8v _ _ _ _ _ _) | (simp only [a8 a7]; exact (a8v _ _ _ _ _ _)) | (simp only [b8 a7, a8 a7, a8 hb, d9 a7, h7]; exact (a8v _ _ _ _ _ _))) ?_
  refine a6 (p1 _ _) ?_
  exact hR (((decide (1 ≤ x0.m3.fOp)) && (decide (x0.m3.fOp ≤ 6))) && (decide ((x0.m3.g5.n : Int) = 2 ∧ (x0.m3.p5.n : Int) = 0))) H _ G9.drop.drop h
 ·replace h := h.2 b2p
  refine a6 a0O ?_
  refine a6 a2M ?_
  refine c5 (ld1 Tryd.isAgg3 ((G9.bring 1).at1 (o := 1) (vs := [(vi x0.m3.fOp)]) (nb rfl) rfl)) ?_
  refine a6 (B8 _ _ _ _ _ _) ?_
  refine a3Y (fun b2q => ?_) (fun b2q => ?_)
  ·replace h := h.1 b2q
   exact hR false H _ G9.drop.drop h
  ·replace h := h.2 b2q
   refine a6 a0O ?_
   refine a6 b1i ?_
   refine c5 (ld1 Tryd.isAgg3 ((G9.bring 1).at1 (o := 0) (vs := [(vi x0.m3.c6)]) (nb rfl) rfl)) ?_
   have hj1 : ∀ (b8H : Bool) (H : Hp) (w : World) (_ : Inv w0 ps0 H0 H [bx g_7 209 [(vi (H9.mk (x0.m3.g5.n : Int) (x0.m3.p5.n : Int)).fexprs), (vi (H9.mk (x0.m3.g5.n : Int) (x0.m3.p5.n : Int)).fparts)], bx g_2 106 (g7 x0.m3)] w) (_ : N3 x0.m3.c6 b8H (H9.mk (x0.m3.g5.n : Int) (x0.m3.p5.n : Int)) x0 H K), c3o (Value.pointer (some ⟨g_7, 0, none⟩)) (vi x0.m3.c6) (Value.bool b8H) w R E := by
    intro b8H H w I h
    unfold c3o
    intro _
    unfold N3 at h
    refine m5 (fun a4k => ?_) (fun a4k => ?_)
    ·replace h := h.1 a4k
     refine c5 (ldA Tryd.isAgg209 Tryd.sizeOf209 rfl (I.at1 (o := 0) (vs := [(vi (H9.mk (x0.m3.g5.n : Int) (x0.m3.p5.n : Int)).fexprs), (vi (H9.mk (x0.m3.g5.n : Int) (x0.m3.p5.n : Int)).fparts)]) (nb rfl) rfl)) ?_
     refine a6 (d1R ) ?_
     refine a6 (a8v _ _ _ _ _ _) ?_
     exact hR (decide ((H9.mk (x0.m3.g5.n : Int) (x0.m3.p5.n : Int)).fexprs = 0 ∧ (H9.mk (x0.m3.g5.n : Int) (x0.m3.p5.n : Int)).fparts = 0)) H _ I.drop.drop h
    ·replace h := h.2 a4k
     refine a6 (c8 _ _ _ _ _ _) ?_
     refine g8 (fun b2r => ?_) (fun b2r => ?_)
     ·replace h := h.1 b2r
      refine c5 (ldA Tryd.isAgg209 Tryd.sizeOf209 rfl (I.at1 (o := 0) (vs := [(vi (H9.mk (x0.m3.g5.n : Int) (x0.m3.p5.n : Int)).fexprs), (vi (H9.mk (x0.m3.g5.n : Int) (x0.m3.p5.n : Int)).fparts)]) (nb rfl) rfl)) ?_
      refine a6 (a3Z _ _) ?_
      refine a6 (a8v _ _ _ _ _ _) ?_
      exact hR (decide ((H9.mk (x0.m3.g5.n : Int) (x0.m3.p5.n : Int)).fexprs = 0 ∧ (H9.mk (x0.m3.g5.n : Int) (x0.m3.p5.n : Int)).fparts = 1)) H _ I.drop.drop h
     ·replace h := h.2 b2r
      have hj2 : ∀ (b8G : Bool) (H : Hp) (w : World) (_ : Inv w0 ps0 H0 H [bx g_7 209 [(vi (H9.mk (x0.m3.g5.n : Int) (x0.m3.p5.n : Int)).fexprs), (vi (H9.mk (x0.m3.g5.n : Int) (x0.m3.p5.n : Int)).fparts)], bx g_2 106 (g7 x0.m3)] w) (_ : N2 b8G (H9.mk (x0.m3.g5.n : Int) (x0.m3.p5.n : Int)) x0 H K), c3n (Value.pointer (some ⟨g_7, 0, none⟩)) (Value.bool b8G) w R E := by
       intro b8G H w I h
       unfold c3n
       intro _
       unfold N2 at h
       refine m5 (fun b2s => ?_) (fun b2s => ?_)
       ·replace h := h.1 b2s
        refine c5 (ldA Tryd.isAgg209 Tryd.sizeOf209 rfl (I.at1 (o := 0) (vs := [(vi (H9.mk (x0.m3.g5.n : Int) (x0.m3.p5.n : Int)).fexprs), (vi (H9.mk (x0.m3.g5.n : Int) (x0.m3.p5.n : Int)).fparts)]) (nb rfl) rfl)) ?_
        refine a6 (a3Z _ _) ?_
        refine a6 (a8v _ _ _ _ _ _) ?_
        exact hR (decide ((H9.mk (x0.m3.g5.n : Int) (x0.m3.p5.n : Int)).fexprs = 0 ∧ (H9.mk (x0.m3.g5.n : Int) (x0.m3.p5.n : Int)).fparts = 2)) H _ I.drop.drop h
       ·replace h := h.2 b2s
        exact hR false H _ I.drop.drop h
      refine o3 fun j2 hx2 => ?_
      refine a6 (c8 _ _ _ _ _ _) ?_
      refine g8 (fun a5U => ?_) (fun a5U => ?_)
      ·replace h := h.1 a5U
       exact hx2 _ _ (hj2 (decide (x0.m3.c6 = 5)) H _ ((I.bring 1).bring 1) h)
      ·replace h := h.2 a5U
       refine a6 (c8 _ _ _ _ _ _) ?_
       exact hx2 _ _ (hj2 (decide (x0.m3.c6 = 6)) H _ ((I.bring 1).bring 1) h)
   refine o3 fun j1 hx1 => ?_
   refine a6 (c8 _ _ _ _ _ _) ?_
   refine g8 (fun a5V => ?_) (fun a5V => ?_)
   ·replace h := h.1 a5V
    exact hx1 _ _ (hj1 (decide (x0.m3.c6 = 1)) H _ ((G9.bring 1).bring 1) h)
   ·replace h := h.2 a5V
    refine a6 (c8 _ _ _ _ _ _) ?_
    exact hx1 _ _ (hj1 (decide (x0.m3.c6 = 2)) H _ ((G9.bring 1).bring 1) h)
theorem b3z (x0 : N7) {H : Hp} {K : Bool → Hp → Prop} (h : a2k x0 H K) : a4F x0 H K := by
 intro w I
 refine e6i ?_
 refine b2o x0 I (fun r0 H' w' I' hk => ⟨H', _, I', r0, rfl, rfl, hk⟩) h
def B0 (a1M : (List c7)) (H : Hp) (K : Sl → Hp → Prop) : Prop :=
 ∀ (J8 : Sl) (a2x : Hp), Hle H a2x → SlH a2x 1 q6 J8 a1M → J8.n ≤ J8.c →
 K J8 a2x
def B1 (a3r : Sl) (a2y : Int) (y9 : (List c7)) (v1 : Int) (H : Hp) (n2 : ((List c7) × Int) → Hp → Prop) (K : Sl → Hp → Prop) : Prop :=
 (v1 < a2y →
 (0 : Int) ≤ v1 ∧ (v1 : Int) < a3r.n ∧ ∃ x_1 : m8, EltH H a3r v1 4 (g7 x_1) ∧
 a8Q x_1 H (fun (W7 : c7) (a2z : Hp) =>
 (y9.length + ([W7] : List c7).length) * 17 ≤ 140737488355328 ∧
 n2 ((y9 ++ [W7]), (IntKind.wrap .i64 (v1 + 1))) a2z)) ∧
 (¬ (v1 < a2y) →
 B0 y9 H K)
def C5 (x0 : Sl) (H : Hp) (K : Sl → Hp → Prop) : Prop :=
 TL (([], 0) : (List c7) × Int) H fun (s : (List c7) × Int) H n2 => B1 x0 (x0.n : Int) s.1 s.2 H n2 K
theorem a2q (x0 : Sl) {w0 w : World} {ps0 : Nat → Prop} {H0 H : Hp} {K : Sl → Hp → Prop} {R : Value → World → Prop} {E : Pan} (I : Inv w0 ps0 H0 H [] w) (hR : ∀ (r0 : Sl) (H' : Hp) (w' : World) (_ : Inv w0 ps0 H0 H' [] w') (_ : K r0 H'), R (vs r0) w') (h : C5 x0 H K) : d2o (vs x0) (Value.func (.func 155) #[] #[]) w R E := by
 unfold C5 at h
 unfold d2o
 have hj1 : ∀ (a1M : (List c7)) (J8 : Sl) (Fs5j1 : Frag) (H : Hp) (w : World) (_ : RowL 141 1 q6 J8 a1M Fs5j1) (_ : Inv w0 ps0 H0 H [Fs5j1] w) (_ : B0 a1M H K), c3p (vs J8) w R E := by
  intro a1M J8 Fs5j1 H w b5B I h
  unfold c3p
  intro _
  unfold B0 at h
  obtain ⟨a2x, b2t, b5C, b2u, a8R⟩ := Inv.freezeC I b5B (by decide)
  replace h := h J8 a2x b5C b2u a8R
  exact hR J8 a2x _ b2t h
 refine o3 fun j1 hx1 => ?_
 refine a6 (Q7 _ _ _) ?_
 obtain ⟨a7X, a4l, b9J, b9K⟩ := h
 refine t6 (J := fun n l w => ∃ (s : (List c7) × Int) (H : Hp) (a1N : Sl) (Fs5l2 : Frag) , n = a4l s ∧ l = (match s with | (y9, v1) => [(vs a1N), (vi v1)]) ∧ (match s with | (y9, v1) => RowL 141 1 q6 a1N y9 Fs5l2) ∧ (match s with | (y9, v1) => Inv w0 ps0 H0 H [Fs5l2] w) ∧ a7X s H) ⟨_, ([], 0), H, (Sl.mk none 0 0), [], rfl, rfl, (RowL.nil Q1 V9), I.nil, b9J⟩ ?_
 rintro d9J τ_50 w next2 ⟨⟨y9, v1⟩, H, a1N, Fs5l2, rfl, a7Y, a5W, I, b9L⟩ hn2
 dsimp only at a7Y I a5W
 simp only [List.map_cons, List.map_nil, List.cons.injEq, and_true] at a7Y
 obtain ⟨e5, e10⟩ := a7Y
 simp only [e5, e10]
 obtain ⟨n2, hm2, h⟩ : ∃ n2 : ((List c7) × Int) → Hp → Prop, (∀ s' H', n2 s' H' → a7X s' H' ∧ a4l s' < a4l (y9, v1)) ∧ B1 x0 (x0.n : Int) y9 v1 H n2 K := ⟨_, fun _ _ h => h, b9K (y9, v1) H (fun s' H' => a7X s' H' ∧ a4l s' < a4l (y9, v1)) b9L (fun _ _ a b => ⟨a, b⟩)⟩
 unfold d0T
 unfold B1 at h
 refine a6 (p6 _ _ _ _ _ _) ?_
 refine g8 (fun a4m => ?_) (fun a4m => ?_)
 ·replace h := h.1 a4m
  obtain ⟨h_4, h_5, x_1, h_7, h⟩ := h
  obtain ⟨g_2, o_3, h_6, h_7⟩ := h_7
  refine a6 (a5I h_6 _ _ _ _ h_4 h_5) ?_
  refine c5 (ldA (vs := (g7 x_1)) Tryd.isAgg33 Tryd.sizeOf33 rfl (I.atH h_7)) ?_
  refine L8 I Tryd.zeroValue33 (cs := [(vi 0), (vi 0), (Value.slice none 0 0), (Value.slice none 0 0)]) rfl fun g_9 o2 a5z b7M => ?_
  refine u1 a5z Tryd.sizeOf33 (vs := (g7 x_1)) (cs' := (g7 x_1)) rfl rfl (nb rfl) rfl rfl fun a0b a3N c3r => ?_
  refine c5 (ldA Tryd.isAgg33 Tryd.sizeOf33 rfl (a3N.at1 (o := 0) (vs := (g7 x_1)) (nb rfl) rfl)) ?_
  refine f7 (cap := []) (fun args w => Tryd.call155 args w) ?_
  refine m2 (Fi := []) (Fr := [bx g_9 33 (g7 x_1), Fs5l2]) a3N (h) (fun d2w a2z d2x a5M a5X d2y c7f b5D => ?_) (fun _ _ _ _ _ q => q.elim)
  obtain ⟨W7, rfl, rfl, h⟩ := b5D
  refine a5G (e := 141) (c := q6) (xs := [W7]) a5X (b8A _) rfl rfl Q1 V9 (nb rfl) fun b5E c3s y7 b2v a6x b9M => ?_
  obtain ⟨a9T, h⟩ := h
  refine b7c (s := a1N) (xs := y9) (a6x.bring 2) a5W (b2v.srcO ((a6x.bring 2).bring 1)) a9T fun b9N b7N A8 b2w a3s c7g => ?_
  refine a6 (o4 _ _ _ _ _ _) ?_
  exact hn2 _ _ _ (hm2 _ _ h).2 ⟨((y9 ++ [W7]), (IntKind.wrap .i64 (v1 + 1))), a2z, b9N, b7N, rfl, rfl, b2w, ((a3s.bring 1).drop.bring 1).drop, (hm2 _ _ h).1⟩
 ·replace h := h.2 a4m
  exact hx1 _ _ (hj1 y9 a1N Fs5l2 H _ a5W I h)
theorem a2A (x0 : Sl) {H : Hp} {K : Sl → Hp → Prop} (h : C5 x0 H K) : C4 x0 H K := by
 intro w I
 refine e6m ?_
 refine a2q x0 I (fun r0 H' w' I' hk => ⟨H', _, I', r0, rfl, rfl, hk⟩) h
def a1O (x0 : N7) (H : Hp) (K : Sl → Hp → Prop) : Prop :=
 v7 x0.m3.g5 H (fun (a8S : Sl) (H_8 : Hp) =>
 C4 x0.m3.p5 H_8 (fun (a8T : Sl) (b7O : Hp) =>
 ∀ (a6X : Sl) (a8U : Hp), Hle b7O a8U → SlH a8U 1 csl a6X [a8S, a8T] → a6X.n ≤ a6X.c →
 B9 a6X a8U (fun (b8I : Sl) (c3t : Hp) =>
 K b8I c3t)))
theorem b1o (x0 : N7) {w0 w : World} {ps0 : Nat → Prop} {H0 H : Hp} {K : Sl → Hp → Prop} {R : Value → World → Prop} {E : Pan} (I : Inv w0 ps0 H0 H [] w) (hR : ∀ (r0 : Sl) (H' : Hp) (w' : World) (_ : Inv w0 ps0 H0 H' [] w') (_ : K r0 H'), R (vs r0) w') (h : a1O x0 H K) : d2n (Value.agg (g7 x0.m3).toArray) w R E := by
 unfold a1O at h
 unfold d2n
 refine K2 I (cs := (g7 x0.m3)) rfl fun g_2 w_3 I_4 k_5 => ?_
 refine a5F I_4 fun w_6 I_7 => ?_
 refine q8 a0O ?_
 refine q8 a0V ?_
 refine q8 a0O ?_
 refine q8 a0W ?_
 refine M2 (ld1 Tryd.isAgg28 (I_7.at1 (o := 2) (vs := [(vs x0.m3.g5)]) (nb rfl) rfl)) ?_
 refine M2 (ld1 Tryd.isAgg31 (I_7.at1 (o := 3) (vs := [(vs x0.m3.p5)]) (nb rfl) rfl)) ?_
 refine f7 (cap := []) (fun args w => Tryd.call150 args w) ?_
 refine m2 (Fi := []) (Fr := [bx g_2 106 (g7 x0.m3)]) I_7 (h) (fun f5Z H_8 f6a w_9 b5F b7P b9O c7h => ?_) (fun _ _ _ _ _ q => q.elim)
 obtain ⟨a8S, rfl, rfl, h⟩ := c7h
 refine ⟨(b9O _ I_7.lt1 (Inv.a8D (Fi := []) I_7)), ?_⟩
 refine f7 (cap := []) (fun args w => Tryd.call154 args w) ?_
 refine m2 (Fi := []) (Fr := [bx g_2 106 (g7 x0.m3)]) b5F (h) (fun f6b b7O d2z r5 b2x f6c c3u c7i => ?_) (fun _ _ _ _ _ q => q.elim)
 obtain ⟨a8T, rfl, rfl, h⟩ := c7i
 refine a5G (e := 97) (c := csl) (xs := [a8S, a8T]) b2x (c5Q _ _ _ _ _ _) rfl rfl c4Y c4Z (nb rfl) fun a6X c3v b0P b9P a7Z c7j => ?_
 obtain ⟨a8U, d9K, b7y, b5G, d9L⟩ := Inv.freezeC a7Z b9P (by decide)
 replace h := h a6X a8U b7y b5G d9L
 refine f7 (cap := []) (fun args w => Tryd.call94 args w) ?_
 refine m2 (Fi := []) (Fr := [bx g_2 106 (g7 x0.m3)]) d9K (h) (fun h0W c3t h0X d1T b2t c7k h0Y d9M => ?_) (fun _ _ _ _ _ q => q.elim)
 obtain ⟨b8I, rfl, rfl, h⟩ := d9M
 exact hR b8I c3t _ b2t.drop h
theorem b2y (x0 : N7) {H : Hp} {K : Sl → Hp → Prop} (h : a1O x0 H K) : a6U x0 H K := by
 intro w I
 refine e6k ?_
 refine b1o x0 I (fun r0 H' w' I' hk => ⟨H', _, I', r0, rfl, rfl, hk⟩) h
end Go.Proofs.YthldnpmfelniiaaDoor
