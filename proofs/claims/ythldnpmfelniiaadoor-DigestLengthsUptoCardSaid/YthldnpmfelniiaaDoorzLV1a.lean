/- Typed formulas of the program's functions, and the theorems that the contracts follow from them; printed by lift.py off the code. -/
import Derived.Test.YthldnpmfelniiaaDoorzLV1
namespace Go.Proofs.YthldnpmfelniiaaDoor
open Go.RowKit
set_option maxRecDepth 100000
set_option maxHeartbeats 2000000
def T5 (x0 : z6) (H : Hp) (K : b4 → Hp → Prop) : Prop :=
 K (b4.w9 (D9.mk x0)) H
theorem a6p (x0 : z6) {w0 w : World} {ps0 : Nat → Prop} {H0 H : Hp} {K : b4 → Hp → Prop} {R : Value → World → Prop} {E : Pan} (I : Inv w0 ps0 H0 H [] w) (hR : ∀ (r0 : b4) (H' : Hp) (w' : World) (_ : Inv w0 ps0 H0 H' [] w') (_ : K r0 H'), R (l8 r0) w') (h : T5 x0 H K) : F96 (Value.agg (j8 x0).toArray) w R E := by
 unfold T5 at h
 unfold F96
 refine K1 I (cs := (j8 x0)) rfl fun g_2 w_3 I_4 k_5 => ?_
 refine b7 (ldA Tryd.isAgg67 Tryd.sizeOf67 rfl (I_4.at1 (o := 0) (vs := (j8 x0)) (nb rfl) rfl)) ?_
 refine a7 (b3Q _ _) ?_
 refine a7 (b1K (D9.mk x0)) ?_
 exact hR (b4.w9 (D9.mk x0)) H _ I_4.drop h
theorem a6U (x0 : z6) {H : Hp} {K : b4 → Hp → Prop} (h : T5 x0 H K) : a2O x0 H K := by
 intro w I
 refine c9K ?_
 refine a6p x0 I (fun r0 H' w' I' hk => ⟨H', _, I', r0, rfl, rfl, hk⟩) h
def a0g (x0 : Int) (x1 : Int) (x2 : Int) (H : Hp) (K : Bool → Hp → Prop) : Prop :=
 K ((decide (x0 ≤ x2)) && (decide (x2 ≤ x1))) H
theorem a6b (x0 : Int) (x1 : Int) (x2 : Int) (g2 : Nat) {w0 w : World} {ps0 : Nat → Prop} {H0 H : Hp} {K : Bool → Hp → Prop} {R : Value → World → Prop} {E : Pan} (I : Inv w0 ps0 H0 H [bx g2 21 [(Value.int .i32 x2)]] w) (hR : ∀ (r0 : Bool) (H' : Hp) (w' : World) (_ : Inv w0 ps0 H0 H' [bx g2 21 [(Value.int .i32 x2)]] w') (_ : K r0 H'), R (Value.bool r0) w') (h : a0g x0 x1 x2 H K) : b7G (Value.int .i32 x0) (Value.int .i32 x1) (Value.pointer (some ⟨g2, 0, none⟩)) w R E := by
 unfold a0g at h
 unfold b7G
 refine b7 (ld1 Tryd.isAgg21 (I.at1 (o := 0) (vs := [(Value.int .i32 x2)]) (nb rfl) rfl)) ?_
 refine a7 (a1G _ _ _ _ _ _) ?_
 refine b7 (Ld.g fun hb => by have b3 := hb; first | exact (ld1 Tryd.isAgg21 (I.at1 (o := 0) (vs := [(Value.int .i32 x2)]) (nb rfl) rfl)) | (simp only [d4 b3, b6 b3, b6 hb, G7 b3]; exact (ld1 Tryd.isAgg21 (I.at1 (o := 0) (vs := [(Value.int .i32 x2)]) (nb rfl) rfl))) | (simp only [d4 b3, b6 b3, b6 hb, m0 b3, l9]; exact (ld1 Tryd.isAgg21 (I.at1 (o := 0) (vs := [(Value.int .i32 x2)]) (nb rfl) rfl)))) ?_
 try simp only [P4]
 refine a7 (Pu.g fun hb => by have b3 := hb; first | exact (a1G _ _ _ _ _ _) | (simp only [b6 b3]; exact (a1G _ _ _ _ _ _)) | (simp only [d4 b3, b6 b3, b6 hb, m0 b3, l9]; exact (a1G _ _ _ _ _ _))) ?_
 refine a7 (J8 _ _) ?_
 exact hR ((decide (x0 ≤ x2)) && (decide (x2 ≤ x1))) H _ I h
theorem a6q (x0 : Int) (x1 : Int) (x2 : Int) {H : Hp} {K : Bool → Hp → Prop} (h : a0g x0 x1 x2 H K) : w5 x0 x1 x2 H K := by
 intro g2 w I
 refine c6w ?_
 refine a6b x0 x1 x2 g2 I (fun r0 H' w' I' hk => ⟨H', _, I', r0, rfl, rfl, hk⟩) h
def Y9 (x0 : ByteArray) (H : Hp) (K : Bool → Hp → Prop) : Prop :=
 L8 x0 H (fun (I1 : Int) (H_1 : Hp) =>
 K (decide (32 < I1)) H_1)
theorem a8k (x0 : ByteArray) {w0 w : World} {ps0 : Nat → Prop} {H0 H : Hp} {K : Bool → Hp → Prop} {R : Value → World → Prop} {E : Pan} (I : Inv w0 ps0 H0 H [] w) (hR : ∀ (r0 : Bool) (H' : Hp) (w' : World) (_ : Inv w0 ps0 H0 H' [] w') (_ : K r0 H'), R (Value.bool r0) w') (h : Y9 x0 H K) : b7A (Value.string x0) w R E := by
 unfold Y9 at h
 unfold b7A
 refine d7 (cap := []) (fun args w => Tryd.call130 args w) ?_
 refine h9 (Fi := []) (Fr := []) I (h) (fun v_5 H_1 F_6 w_2 I_3 l_8 k_4 q_7 => ?_) (fun _ _ _ _ _ q => q.elim)
 obtain ⟨I1, rfl, rfl, h⟩ := q_7
 refine a7 (a7L _ _ _ _ _ _) ?_
 exact hR (decide (32 < I1)) H_1 _ I_3 h
theorem a9t (x0 : ByteArray) {H : Hp} {K : Bool → Hp → Prop} (h : Y9 x0 H K) : Y6 x0 H K := by
 intro w I
 refine c6k ?_
 refine a8k x0 I (fun r0 H' w' I' hk => ⟨H', _, I', r0, rfl, rfl, hk⟩) h
def g7 (k5 : Bool) (H : Hp) (K : Bool → Hp → Prop) : Prop :=
 (k5 = true →
 K true H) ∧
 (k5 = false →
 K false H)
def Z0 (x0 : ByteArray) (H : Hp) (K : Bool → Hp → Prop) : Prop :=
 (x0 = ⟨#[118, 97, 114]⟩ →
 g7 (decide (x0 = ⟨#[118, 97, 114]⟩)) H K) ∧
 (¬ (x0 = ⟨#[118, 97, 114]⟩) →
 (x0 = ⟨#[97, 114, 114, 97, 121]⟩ →
 g7 (decide (x0 = ⟨#[97, 114, 114, 97, 121]⟩)) H K) ∧
 (¬ (x0 = ⟨#[97, 114, 114, 97, 121]⟩) →
 (x0 = ⟨#[105, 102]⟩ →
 g7 (decide (x0 = ⟨#[105, 102]⟩)) H K) ∧
 (¬ (x0 = ⟨#[105, 102]⟩) →
 (x0 = ⟨#[101, 108, 115, 101]⟩ →
 g7 (decide (x0 = ⟨#[101, 108, 115, 101]⟩)) H K) ∧
 (¬ (x0 = ⟨#[101, 108, 115, 101]⟩) →
 (x0 = ⟨#[119, 104, 105, 108, 101]⟩ →
 g7 (decide (x0 = ⟨#[119, 104, 105, 108, 101]⟩)) H K) ∧
 (¬ (x0 = ⟨#[119, 104, 105, 108, 101]⟩) →
 (x0 = ⟨#[97, 115, 115, 101, 114, 116]⟩ →
 g7 (decide (x0 = ⟨#[97, 115, 115, 101, 114, 116]⟩)) H K) ∧
 (¬ (x0 = ⟨#[97, 115, 115, 101, 114, 116]⟩) →
 (x0 = ⟨#[97, 115, 115, 117, 109, 101]⟩ →
 g7 (decide (x0 = ⟨#[97, 115, 115, 117, 109, 101]⟩)) H K) ∧
 (¬ (x0 = ⟨#[97, 115, 115, 117, 109, 101]⟩) →
 (x0 = ⟨#[115, 107, 105, 112]⟩ →
 g7 (decide (x0 = ⟨#[115, 107, 105, 112]⟩)) H K) ∧
 (¬ (x0 = ⟨#[115, 107, 105, 112]⟩) →
 (x0 = ⟨#[105, 110, 112, 117, 116]⟩ →
 g7 (decide (x0 = ⟨#[105, 110, 112, 117, 116]⟩)) H K) ∧
 (¬ (x0 = ⟨#[105, 110, 112, 117, 116]⟩) →
 (x0 = ⟨#[116, 114, 117, 101]⟩ →
 g7 (decide (x0 = ⟨#[116, 114, 117, 101]⟩)) H K) ∧
 (¬ (x0 = ⟨#[116, 114, 117, 101]⟩) →
 g7 (decide (x0 = ⟨#[102, 97, 108, 115, 101]⟩)) H K))))))))))
theorem a8l (x0 : ByteArray) {w0 w : World} {ps0 : Nat → Prop} {H0 H : Hp} {K : Bool → Hp → Prop} {R : Value → World → Prop} {E : Pan} (I : Inv w0 ps0 H0 H [] w) (hR : ∀ (r0 : Bool) (H' : Hp) (w' : World) (_ : Inv w0 ps0 H0 H' [] w') (_ : K r0 H'), R (Value.bool r0) w') (h : Z0 x0 H K) : b7B (Value.string x0) w R E := by
 unfold Z0 at h
 unfold b7B
 have hj1 : ∀ (k5 : Bool) (H : Hp) (w : World) (_ : Inv w0 ps0 H0 H [] w) (_ : g7 k5 H K), b1S (Value.bool k5) w R E := by
  intro k5 H w I h
  unfold b1S
  intro _
  unfold g7 at h
  refine p1 (fun c_1 => ?_) (fun c_1 => ?_)
  ·replace h := h.1 c_1
   exact hR true H _ I h
  ·replace h := h.2 c_1
   exact hR false H _ I h
 refine o8 fun j1 hx1 => ?_
 refine a7 (T0 _ _ _ _ _) ?_
 refine d9 (fun c2v => ?_) (fun c2v => ?_)
 ·replace h := h.1 c2v
  exact hx1 _ _ (hj1 (decide (x0 = ⟨#[118, 97, 114]⟩)) H _ I h)
 ·replace h := h.2 c2v
  refine a7 (T0 _ _ _ _ _) ?_
  refine d9 (fun c2w => ?_) (fun c2w => ?_)
  ·replace h := h.1 c2w
   exact hx1 _ _ (hj1 (decide (x0 = ⟨#[97, 114, 114, 97, 121]⟩)) H _ I h)
  ·replace h := h.2 c2w
   refine a7 (T0 _ _ _ _ _) ?_
   refine d9 (fun c_9 => ?_) (fun c_9 => ?_)
   ·replace h := h.1 c_9
    exact hx1 _ _ (hj1 (decide (x0 = ⟨#[105, 102]⟩)) H _ I h)
   ·replace h := h.2 c_9
    refine a7 (T0 _ _ _ _ _) ?_
    refine d9 (fun c_8 => ?_) (fun c_8 => ?_)
    ·replace h := h.1 c_8
     exact hx1 _ _ (hj1 (decide (x0 = ⟨#[101, 108, 115, 101]⟩)) H _ I h)
    ·replace h := h.2 c_8
     refine a7 (T0 _ _ _ _ _) ?_
     refine d9 (fun c_7 => ?_) (fun c_7 => ?_)
     ·replace h := h.1 c_7
      exact hx1 _ _ (hj1 (decide (x0 = ⟨#[119, 104, 105, 108, 101]⟩)) H _ I h)
     ·replace h := h.2 c_7
      refine a7 (T0 _ _ _ _ _) ?_
      refine d9 (fun c_6 => ?_) (fun c_6 => ?_)
      ·replace h := h.1 c_6
       exact hx1 _ _ (hj1 (decide (x0 = ⟨#[97, 115, 115, 101, 114, 116]⟩)) H _ I h)
      ·replace h := h.2 c_6
       refine a7 (T0 _ _ _ _ _) ?_
       refine d9 (fun c_5 => ?_) (fun c_5 => ?_)
       ·replace h := h.1 c_5
        exact hx1 _ _ (hj1 (decide (x0 = ⟨#[97, 115, 115, 117, 109, 101]⟩)) H _ I h)
       ·replace h := h.2 c_5
        refine a7 (T0 _ _ _ _ _) ?_
        refine d9 (fun c_4 => ?_) (fun c_4 => ?_)
        ·replace h := h.1 c_4
         exact hx1 _ _ (hj1 (decide (x0 = ⟨#[115, 107, 105, 112]⟩)) H _ I h)
        ·replace h := h.2 c_4
         refine a7 (T0 _ _ _ _ _) ?_
         refine d9 (fun c_3 => ?_) (fun c_3 => ?_)
         ·replace h := h.1 c_3
          exact hx1 _ _ (hj1 (decide (x0 = ⟨#[105, 110, 112, 117, 116]⟩)) H _ I h)
         ·replace h := h.2 c_3
          refine a7 (T0 _ _ _ _ _) ?_
          refine d9 (fun c_2 => ?_) (fun c_2 => ?_)
          ·replace h := h.1 c_2
           exact hx1 _ _ (hj1 (decide (x0 = ⟨#[116, 114, 117, 101]⟩)) H _ I h)
          ·replace h := h.2 c_2
           refine a7 (T0 _ _ _ _ _) ?_
           exact hx1 _ _ (hj1 (decide (x0 = ⟨#[102, 97, 108, 115, 101]⟩)) H _ I h)
theorem a9u (x0 : ByteArray) {H : Hp} {K : Bool → Hp → Prop} (h : Z0 x0 H K) : T1 x0 H K := by
 intro w I
 refine c6m ?_
 refine a8l x0 I (fun r0 H' w' I' hk => ⟨H', _, I', r0, rfl, rfl, hk⟩) h
def V5 (x0 : i5) (H : Hp) (K : Int → Int → Hp → Prop) : Prop :=
 Y8 x0 H (fun (C0 : b8) (H_6 : Hp) =>
 (¬ (C0.fe = 0) →
 K 0 C0.fe H_6) ∧
 (C0.fe = 0 →
 K C0.fnodes 0 H_6))
theorem a6V (x0 : i5) {w0 w : World} {ps0 : Nat → Prop} {H0 H : Hp} {K : Int → Int → Hp → Prop} {R : Value → World → Prop} {E : Pan} (I : Inv w0 ps0 H0 H [] w) (hR : ∀ (r0 : Int) (r1 : Int) (H' : Hp) (w' : World) (_ : Inv w0 ps0 H0 H' [] w') (_ : K r0 r1 H'), R (Value.tuple #[(vi r0), (vi r1)]) w') (h : V5 x0 H K) : F25 (Value.agg (f9 x0).toArray) w R E := by
 unfold V5 at h
 unfold F25
 refine K1 I (cs := (f9 x0)) rfl fun g_2 w_3 I_4 k_5 => ?_
 refine b7 (ldA Tryd.isAgg25 Tryd.sizeOf25 rfl (I_4.at1 (o := 0) (vs := (f9 x0)) (nb rfl) rfl)) ?_
 refine d7 (cap := []) (fun args w => Tryd.call66 args w) ?_
 refine h9 (Fi := []) (Fr := [bx g_2 25 (f9 x0)]) I_4 (h) (fun a8m H_6 a8n w_7 I_8 a8o k_9 a0Z => ?_) (fun _ _ _ _ _ q => q.elim)
 obtain ⟨C0, d2W, rfl, rfl, h⟩ := a0Z
 refine a7 (D7 _) ?_
 refine a7 a0k ?_
 refine b7 (ld1 Tryd.isAgg34 (I_8.at1 (o := 2) (vs := [(vi C0.fe)]) (nb rfl) rfl)) ?_
 refine a7 (a0D _ _ _ _ _ _) ?_
 refine a8O (fun a1Z => ?_) (fun a1Z => ?_)
 ·replace h := h.1 a1Z
  refine a7M I_8 fun r7 a3p => ?_
  refine u6 (D7 _) ?_
  refine u6 a0k ?_
  refine Y4 (ld1 Tryd.isAgg34 (a3p.at1 (o := 2) (vs := [(vi C0.fe)]) (nb rfl) rfl)) ?_
  exact hR 0 C0.fe H_6 _ a3p.drop.drop h
 ·replace h := h.2 a1Z
  refine a7 (D7 _) ?_
  refine a7 a4k ?_
  refine b7 (ld1 Tryd.isAgg3 (I_8.at1 (o := 0) (vs := [(vi C0.fnodes)]) (nb rfl) rfl)) ?_
  exact hR C0.fnodes 0 H_6 _ I_8.drop.drop h
theorem a7B (x0 : i5) {H : Hp} {K : Int → Int → Hp → Prop} (h : V5 x0 H K) : a0O x0 H K := by
 intro w I
 refine c8m ?_
 refine a6V x0 I (fun r0 r1 H' w' I' hk => ⟨H', _, I', r0, r1, rfl, rfl, hk⟩) h
def A6 (a8X : Bool) (cr_6j2 : u4) (_cr_1j2 : B1) (H : Hp) (K : Bool → Hp → Prop) : Prop :=
 (a8X = true →
 K (decide (cr_6j2.fexprs = 0 ∧ cr_6j2.fparts = 2)) H) ∧
 (a8X = false →
 K false H)
def A7 (a1r : Int) (a8Y : Bool) (cr_6j1 : u4) (cr_1j1 : B1) (H : Hp) (K : Bool → Hp → Prop) : Prop :=
 (a8Y = true →
 K (decide (cr_6j1.fexprs = 0 ∧ cr_6j1.fparts = 0)) H) ∧
 (a8Y = false →
 (a1r = 4 →
 K (decide (cr_6j1.fexprs = 0 ∧ cr_6j1.fparts = 1)) H) ∧
 (¬ (a1r = 4) →
 (a1r = 5 →
 A6 (decide (a1r = 5)) cr_6j1 cr_1j1 H K) ∧
 (¬ (a1r = 5) →
 A6 (decide (a1r = 6)) cr_6j1 cr_1j1 H K)))
def O6 (x0 : B1) (H : Hp) (K : Bool → Hp → Prop) : Prop :=
 (x0.d8.c7 = 3 →
 K (((decide (1 ≤ x0.d8.fOp)) && (decide (x0.d8.fOp ≤ 6))) && (decide ((x0.d8.b9.n : Int) = 2 ∧ (x0.d8.j9.n : Int) = 0))) H) ∧
 (¬ (x0.d8.c7 = 3) →
 (¬ (x0.d8.fOp = 0) →
 K false H) ∧
 (x0.d8.fOp = 0 →
 (x0.d8.c7 = 1 →
 A7 x0.d8.c7 (decide (x0.d8.c7 = 1)) (u4.mk (x0.d8.b9.n : Int) (x0.d8.j9.n : Int)) x0 H K) ∧
 (¬ (x0.d8.c7 = 1) →
 A7 x0.d8.c7 (decide (x0.d8.c7 = 2)) (u4.mk (x0.d8.b9.n : Int) (x0.d8.j9.n : Int)) x0 H K)))
theorem a4V (x0 : B1) {w0 w : World} {ps0 : Nat → Prop} {H0 H : Hp} {K : Bool → Hp → Prop} {R : Value → World → Prop} {E : Pan} (I : Inv w0 ps0 H0 H [] w) (hR : ∀ (r0 : Bool) (H' : Hp) (w' : World) (_ : Inv w0 ps0 H0 H' [] w') (_ : K r0 H'), R (Value.bool r0) w') (h : O6 x0 H K) : b7L (Value.agg (c9 x0.d8).toArray) w R E := by
 unfold O6 at h
 unfold b7L
 refine K1 I (cs := (c9 x0.d8)) rfl fun g_2 w_3 I_4 k_5 => ?_
 refine a7 J9 ?_
 refine a7 a1h ?_
 refine b7 (ld1 Tryd.isAgg28 (I_4.at1 (o := 2) (vs := [(vs x0.d8.b9)]) (nb rfl) rfl)) ?_
 refine a7 (M0 _ _ _) ?_
 refine a7 J9 ?_
 refine a7 a1i ?_
 refine b7 (ld1 Tryd.isAgg31 (I_4.at1 (o := 3) (vs := [(vs x0.d8.j9)]) (nb rfl) rfl)) ?_
 refine a7 (X3 _ _ _) ?_
 refine a7 (U7 _ _) ?_
 refine B9 I_4 Tryd.zeroValue209 (cs := [(vi 0), (vi 0)]) rfl fun g_7 w_8 I_9 c2x => ?_
 refine r5 I_9 Tryd.sizeOf209 (vs := [(vi (x0.d8.b9.n : Int)), (vi (x0.d8.j9.n : Int))]) (cs' := [(vi (x0.d8.b9.n : Int)), (vi (x0.d8.j9.n : Int))]) rfl rfl (nb rfl) rfl rfl fun W3 y9 b2i => ?_
 refine a7 J9 ?_
 refine a7 a6J ?_
 refine b7 (ld1 Tryd.isAgg3 ((y9.bring 1).at1 (o := 0) (vs := [(vi x0.d8.c7)]) (nb rfl) rfl)) ?_
 refine a7 (f5 _ _ _ _ _ _) ?_
 refine d9 (fun a4W => ?_) (fun a4W => ?_)
 ·replace h := h.1 a4W
  refine a7 J9 ?_
  refine a7 a1j ?_
  refine b7 (ld1 Tryd.isAgg3 ((y9.bring 1).at1 (o := 1) (vs := [(vi x0.d8.fOp)]) (nb rfl) rfl)) ?_
  refine a7 (b0w _ _ _ _ _ _) ?_
  refine a7 (Pu.g fun hb => by have b3 := hb; first | exact J9 | (simp only [d4 b3, b6 b3, b6 hb, G7 b3]; exact J9) | (simp only [d4 b3, b6 b3, b6 hb, m0 b3, l9]; exact J9)) ?_
  refine a7 (Pu.g fun hb => by have b3 := hb; first | exact a1j | (simp only [b6 b3]; exact a1j) | (simp only [d4 b3, b6 b3, b6 hb, m0 b3, l9]; exact a1j)) ?_
  refine b7 (Ld.g fun hb => by have b3 := hb; first | exact (ld1 Tryd.isAgg3 ((y9.bring 1).at1 (o := 1) (vs := [(vi x0.d8.fOp)]) (nb rfl) rfl)) | (simp only [b6 b3]; exact (ld1 Tryd.isAgg3 ((y9.bring 1).at1 (o := 1) (vs := [(vi x0.d8.fOp)]) (nb rfl) rfl))) | (simp only [d4 b3, b6 b3, b6 hb, m0 b3, l9]; exact (ld1 Tryd.isAgg3 ((y9.bring 1).at1 (o := 1) (vs := [(vi x0.d8.fOp)]) (nb rfl) rfl)))) ?_
  refine a7 (Pu.g fun hb => by have b3 := hb; first | exact (a1G _ _ _ _ _ _) | (simp only [b6 b3]; exact (a1G _ _ _ _ _ _)) | (simp only [d4 b3, b6 b3, b6 hb, m0 b3, l9]; exact (a1G _ _ _ _ _ _))) ?_
  refine a7 (J8 _ _) ?_
  refine b7 (Ld.g fun hb => by have b3 := hb; first | exact (ldA Tryd.isAgg209 Tryd.sizeOf209 rfl (y9.at1 (o := 0) (vs := [(vi (x0.d8.b9.n : Int)), (vi (x0.d8.j9.n : Int))]) (nb rfl) rfl)) | (simp only [d4 b3, b6 b3, b6 hb, G7 b3]; exact (ldA Tryd.isAgg209 Tryd.sizeOf209 rfl (y9.at1 (o := 0) (vs := [(vi (x0.d8.b9.n : Int)), (vi (x0.d8.j9.n : Int))]) (nb rfl) rfl))) | (simp only [d4 b3, b6 b3, b6 hb, m0 b3, l9]; exact (ldA Tryd.isAgg209 Tryd.sizeOf209 rfl (y9.at1 (o := 0) (vs := [(vi (x0.d8.b9.n : Int)), (vi (x0.d8.j9.n : Int))]) (nb rfl) rfl)))) ?_
  refine a7 (Pu.g fun hb => by have b3 := hb; first | exact (U7 _ _) | (simp only [d4 b3, b6 b3, b6 hb, G7 b3]; exact (U7 _ _)) | (simp only [d4 b3, b6 b3, b6 hb, m0 b3, l9]; exact (U7 _ _))) ?_
  refine a7 (Pu.g fun hb => by have b3 := hb; first | exact (a2o _ _ _ _ _ _) | (simp only [b6 b3]; exact (a2o _ _ _ _ _ _)) | (simp only [d4 b3, b6 b3, b6 hb, m0 b3, l9]; exact (a2o _ _ _ _ _ _))) ?_
  refine a7 (J8 _ _) ?_
  exact hR (((decide (1 ≤ x0.d8.fOp)) && (decide (x0.d8.fOp ≤ 6))) && (decide ((x0.d8.b9.n : Int) = 2 ∧ (x0.d8.j9.n : Int) = 0))) H _ y9.drop.drop h
 ·replace h := h.2 a4W
  refine a7 J9 ?_
  refine a7 a1j ?_
  refine b7 (ld1 Tryd.isAgg3 ((y9.bring 1).at1 (o := 1) (vs := [(vi x0.d8.fOp)]) (nb rfl) rfl)) ?_
  refine a7 (a0D _ _ _ _ _ _) ?_
  refine a8O (fun a4X => ?_) (fun a4X => ?_)
  ·replace h := h.1 a4X
   exact hR false H _ y9.drop.drop h
  ·replace h := h.2 a4X
   refine a7 J9 ?_
   refine a7 a6J ?_
   refine b7 (ld1 Tryd.isAgg3 ((y9.bring 1).at1 (o := 0) (vs := [(vi x0.d8.c7)]) (nb rfl) rfl)) ?_
   have hj1 : ∀ (a8Y : Bool) (H : Hp) (w : World) (_ : Inv w0 ps0 H0 H [bx g_7 209 [(vi (u4.mk (x0.d8.b9.n : Int) (x0.d8.j9.n : Int)).fexprs), (vi (u4.mk (x0.d8.b9.n : Int) (x0.d8.j9.n : Int)).fparts)], bx g_2 106 (c9 x0.d8)] w) (_ : A7 x0.d8.c7 a8Y (u4.mk (x0.d8.b9.n : Int) (x0.d8.j9.n : Int)) x0 H K), b2e (Value.pointer (some ⟨g_7, 0, none⟩)) (vi x0.d8.c7) (Value.bool a8Y) w R E := by
    intro a8Y H w I h
    unfold b2e
    intro _
    unfold A7 at h
    refine p1 (fun a4Y => ?_) (fun a4Y => ?_)
    ·replace h := h.1 a4Y
     refine b7 (ldA Tryd.isAgg209 Tryd.sizeOf209 rfl (I.at1 (o := 0) (vs := [(vi (u4.mk (x0.d8.b9.n : Int) (x0.d8.j9.n : Int)).fexprs), (vi (u4.mk (x0.d8.b9.n : Int) (x0.d8.j9.n : Int)).fparts)]) (nb rfl) rfl)) ?_
     refine a7 (b7v ) ?_
     refine a7 (a2o _ _ _ _ _ _) ?_
     exact hR (decide ((u4.mk (x0.d8.b9.n : Int) (x0.d8.j9.n : Int)).fexprs = 0 ∧ (u4.mk (x0.d8.b9.n : Int) (x0.d8.j9.n : Int)).fparts = 0)) H _ I.drop.drop h
    ·replace h := h.2 a4Y
     refine a7 (f5 _ _ _ _ _ _) ?_
     refine d9 (fun a4Z => ?_) (fun a4Z => ?_)
     ·replace h := h.1 a4Z
      refine b7 (ldA Tryd.isAgg209 Tryd.sizeOf209 rfl (I.at1 (o := 0) (vs := [(vi (u4.mk (x0.d8.b9.n : Int) (x0.d8.j9.n : Int)).fexprs), (vi (u4.mk (x0.d8.b9.n : Int) (x0.d8.j9.n : Int)).fparts)]) (nb rfl) rfl)) ?_
      refine a7 (U7 _ _) ?_
      refine a7 (a2o _ _ _ _ _ _) ?_
      exact hR (decide ((u4.mk (x0.d8.b9.n : Int) (x0.d8.j9.n : Int)).fexprs = 0 ∧ (u4.mk (x0.d8.b9.n : Int) (x0.d8.j9.n : Int)).fparts = 1)) H _ I.drop.drop h
     ·replace h := h.2 a4Z
      have hj2 : ∀ (a8X : Bool) (H : Hp) (w : World) (_ : Inv w0 ps0 H0 H [bx g_7 209 [(vi (u4.mk (x0.d8.b9.n : Int) (x0.d8.j9.n : Int)).fexprs), (vi (u4.mk (x0.d8.b9.n : Int) (x0.d8.j9.n : Int)).fparts)], bx g_2 106 (c9 x0.d8)] w) (_ : A6 a8X (u4.mk (x0.d8.b9.n : Int) (x0.d8.j9.n : Int)) x0 H K), b2d (Value.pointer (some ⟨g_7, 0, none⟩)) (Value.bool a8X) w R E := by
       intro a8X H w I h
       unfold b2d
       intro _
       unfold A6 at h
       refine p1 (fun a9Q => ?_) (fun a9Q => ?_)
       ·replace h := h.1 a9Q
        refine b7 (ldA Tryd.isAgg209 Tryd.sizeOf209 rfl (I.at1 (o := 0) (vs := [(vi (u4.mk (x0.d8.b9.n : Int) (x0.d8.j9.n : Int)).fexprs), (vi (u4.mk (x0.d8.b9.n : Int) (x0.d8.j9.n : Int)).fparts)]) (nb rfl) rfl)) ?_
        refine a7 (U7 _ _) ?_
        refine a7 (a2o _ _ _ _ _ _) ?_
        exact hR (decide ((u4.mk (x0.d8.b9.n : Int) (x0.d8.j9.n : Int)).fexprs = 0 ∧ (u4.mk (x0.d8.b9.n : Int) (x0.d8.j9.n : Int)).fparts = 2)) H _ I.drop.drop h
       ·replace h := h.2 a9Q
        exact hR false H _ I.drop.drop h
      refine o8 fun j2 hx2 => ?_
      refine a7 (f5 _ _ _ _ _ _) ?_
      refine d9 (fun a2b => ?_) (fun a2b => ?_)
      ·replace h := h.1 a2b
       exact hx2 _ _ (hj2 (decide (x0.d8.c7 = 5)) H _ ((I.bring 1).bring 1) h)
      ·replace h := h.2 a2b
       refine a7 (f5 _ _ _ _ _ _) ?_
       exact hx2 _ _ (hj2 (decide (x0.d8.c7 = 6)) H _ ((I.bring 1).bring 1) h)
   refine o8 fun j1 hx1 => ?_
   refine a7 (f5 _ _ _ _ _ _) ?_
   refine d9 (fun a1Z => ?_) (fun a1Z => ?_)
   ·replace h := h.1 a1Z
    exact hx1 _ _ (hj1 (decide (x0.d8.c7 = 1)) H _ ((y9.bring 1).bring 1) h)
   ·replace h := h.2 a1Z
    refine a7 (f5 _ _ _ _ _ _) ?_
    exact hx1 _ _ (hj1 (decide (x0.d8.c7 = 2)) H _ ((y9.bring 1).bring 1) h)
theorem a5y (x0 : B1) {H : Hp} {K : Bool → Hp → Prop} (h : O6 x0 H K) : W8 x0 H K := by
 intro w I
 refine c6I ?_
 refine a4V x0 I (fun r0 H' w' I' hk => ⟨H', _, I', r0, rfl, rfl, hk⟩) h
def m1 (N0 : (List b4)) (H : Hp) (K : Sl → Hp → Prop) : Prop :=
 ∀ (u9 : Sl) (Q2 : Hp), Hle H Q2 → SlH Q2 1 g9 u9 N0 → u9.n ≤ u9.c →
 K u9 Q2
def m2 (D3 : Sl) (a2S : Int) (k6 : (List b4)) (j7 : Int) (H : Hp) (n2 : ((List b4) × Int) → Hp → Prop) (K : Sl → Hp → Prop) : Prop :=
 (j7 < a2S →
 (0 : Int) ≤ j7 ∧ (j7 : Int) < D3.n ∧ ∃ x_1 : i7, EltH H D3 j7 4 (c9 x_1) ∧
 a2R x_1 H (fun (G8 : b4) (Q3 : Hp) =>
 (k6.length + ([G8] : List b4).length) * 17 ≤ 140737488355328 ∧
 n2 ((k6 ++ [G8]), (IntKind.wrap .i64 (j7 + 1))) Q3)) ∧
 (¬ (j7 < a2S) →
 m1 k6 H K)
def o3 (x0 : Sl) (H : Hp) (K : Sl → Hp → Prop) : Prop :=
 TL (([], 0) : (List b4) × Int) H fun (s : (List b4) × Int) H n2 => m2 x0 (x0.n : Int) s.1 s.2 H n2 K
theorem P5 (x0 : Sl) {w0 w : World} {ps0 : Nat → Prop} {H0 H : Hp} {K : Sl → Hp → Prop} {R : Value → World → Prop} {E : Pan} (I : Inv w0 ps0 H0 H [] w) (hR : ∀ (r0 : Sl) (H' : Hp) (w' : World) (_ : Inv w0 ps0 H0 H' [] w') (_ : K r0 H'), R (vs r0) w') (h : o3 x0 H K) : b7O (vs x0) (Value.func (.func 155) #[] #[]) w R E := by
 unfold o3 at h
 unfold b7O
 have hj1 : ∀ (N0 : (List b4)) (u9 : Sl) (Fs5j1 : Frag) (H : Hp) (w : World) (_ : RowL 141 1 g9 u9 N0 Fs5j1) (_ : Inv w0 ps0 H0 H [Fs5j1] w) (_ : m1 N0 H K), b2f (vs u9) w R E := by
  intro N0 u9 Fs5j1 H w a6W I h
  unfold b2f
  intro _
  unfold m1 at h
  obtain ⟨Q2, a5a, a6c, a9R, a9S⟩ := Inv.freezeC I a6W (by decide)
  replace h := h u9 Q2 a6c a9R a9S
  exact hR u9 Q2 _ a5a h
 refine o8 fun j1 hx1 => ?_
 refine a7 (X3 _ _ _) ?_
 obtain ⟨a2d, V1, a9T, a9U⟩ := h
 refine y8 (J := fun n l w => ∃ (s : (List b4) × Int) (H : Hp) (N1 : Sl) (Fs5l2 : Frag) , n = V1 s ∧ l = (match s with | (k6, j7) => [(vs N1), (vi j7)]) ∧ (match s with | (k6, j7) => RowL 141 1 g9 N1 k6 Fs5l2) ∧ (match s with | (k6, j7) => Inv w0 ps0 H0 H [Fs5l2] w) ∧ a2d s H) ⟨_, ([], 0), H, (Sl.mk none 0 0), [], rfl, rfl, (RowL.nil C9 G5), I.nil, a9T⟩ ?_
 rintro c2y τ_50 w next2 ⟨⟨k6, j7⟩, H, N1, Fs5l2, rfl, a2e, a0s, I, a9V⟩ hn2
 dsimp only at a2e I a0s
 simp only [List.map_cons, List.map_nil, List.cons.injEq, and_true] at a2e
 obtain ⟨e5, e10⟩ := a2e
 simp only [e5, e10]
 obtain ⟨n2, hm2, h⟩ : ∃ n2 : ((List b4) × Int) → Hp → Prop, (∀ s' H', n2 s' H' → a2d s' H' ∧ V1 s' < V1 (k6, j7)) ∧ m2 x0 (x0.n : Int) k6 j7 H n2 K := ⟨_, fun _ _ h => h, a9U (k6, j7) H (fun s' H' => a2d s' H' ∧ V1 s' < V1 (k6, j7)) a9V (fun _ _ a b => ⟨a, b⟩)⟩
 unfold b6R
 unfold m2 at h
 refine a7 (C3 _ _ _ _ _ _) ?_
 refine d9 (fun a0t => ?_) (fun a0t => ?_)
 ·replace h := h.1 a0t
  obtain ⟨h_4, h_5, x_1, h_7, h⟩ := h
  obtain ⟨g_2, o_3, h_6, h_7⟩ := h_7
  refine a7 (a4K h_6 _ _ _ _ h_4 h_5) ?_
  refine b7 (ldA (vs := (c9 x_1)) Tryd.isAgg33 Tryd.sizeOf33 rfl (I.atH h_7)) ?_
  refine B9 I Tryd.zeroValue33 (cs := [(vi 0), (vi 0), (Value.slice none 0 0), (Value.slice none 0 0)]) rfl fun g_9 k8 Y3 a8p => ?_
  refine r5 Y3 Tryd.sizeOf33 (vs := (c9 x_1)) (cs' := (c9 x_1)) rfl rfl (nb rfl) rfl rfl fun a3V a0h b7Y => ?_
  refine b7 (ldA Tryd.isAgg33 Tryd.sizeOf33 rfl (a0h.at1 (o := 0) (vs := (c9 x_1)) (nb rfl) rfl)) ?_
  refine d7 (cap := []) (fun args w => Tryd.call155 args w) ?_
  refine h9 (Fi := []) (Fr := [bx g_9 33 (c9 x_1), Fs5l2]) a0h (h) (fun b7Z Q3 b8a a1x a0u b8b b4S a6X => ?_) (fun _ _ _ _ _ q => q.elim)
  obtain ⟨G8, rfl, rfl, h⟩ := a6X
  refine a1S (e := 141) (c := g9) (xs := [G8]) a0u (a8S _) rfl rfl C9 G5 (nb rfl) fun b4T b2j B5 a5b a3q b8c => ?_
  obtain ⟨a5c, h⟩ := h
  refine a7Q (s := N1) (xs := k6) (a3q.bring 2) a0s (a5b.srcO ((a3q.bring 2).bring 1)) a5c fun a9W a9X D5 a5d a3X b8d => ?_
  refine a7 (v7 _ _ _ _ _ _) ?_
  exact hn2 _ _ _ (hm2 _ _ h).2 ⟨((k6 ++ [G8]), (IntKind.wrap .i64 (j7 + 1))), Q3, a9W, a9X, rfl, rfl, a5d, ((a3X.bring 1).drop.bring 1).drop, (hm2 _ _ h).1⟩
 ·replace h := h.2 a0t
  exact hx1 _ _ (hj1 k6 N1 Fs5l2 H _ a0s I h)
theorem Q4 (x0 : Sl) {H : Hp} {K : Sl → Hp → Prop} (h : o3 x0 H K) : o2 x0 H K := by
 intro w I
 refine c6M ?_
 refine P5 x0 I (fun r0 H' w' I' hk => ⟨H', _, I', r0, rfl, rfl, hk⟩) h
def N2 (x0 : B1) (H : Hp) (K : Sl → Hp → Prop) : Prop :=
 k4 x0.d8.b9 H (fun (a2T : Sl) (H_8 : Hp) =>
 o2 x0.d8.j9 H_8 (fun (a2U : Sl) (a8q : Hp) =>
 ∀ (a3r : Sl) (a5e : Hp), Hle a8q a5e → SlH a5e 1 csl a3r [a2T, a2U] → a3r.n ≤ a3r.c →
 m9 a3r a5e (fun (a8Z : Sl) (b2k : Hp) =>
 K a8Z b2k)))
theorem a4r (x0 : B1) {w0 w : World} {ps0 : Nat → Prop} {H0 H : Hp} {K : Sl → Hp → Prop} {R : Value → World → Prop} {E : Pan} (I : Inv w0 ps0 H0 H [] w) (hR : ∀ (r0 : Sl) (H' : Hp) (w' : World) (_ : Inv w0 ps0 H0 H' [] w') (_ : K r0 H'), R (vs r0) w') (h : N2 x0 H K) : b7N (Value.agg (c9 x0.d8).toArray) w R E := by
 unfold N2 at h
 unfold b7N
 refine K1 I (cs := (c9 x0.d8)) rfl fun g_2 w_3 I_4 k_5 => ?_
 refine a7M I_4 fun w_6 I_7 => ?_
 refine u6 J9 ?_
 refine u6 a1h ?_
 refine u6 J9 ?_
 refine u6 a1i ?_
 refine Y4 (ld1 Tryd.isAgg28 (I_7.at1 (o := 2) (vs := [(vs x0.d8.b9)]) (nb rfl) rfl)) ?_
 refine Y4 (ld1 Tryd.isAgg31 (I_7.at1 (o := 3) (vs := [(vs x0.d8.j9)]) (nb rfl) rfl)) ?_
 refine d7 (cap := []) (fun args w => Tryd.call150 args w) ?_
 refine h9 (Fi := []) (Fr := [bx g_2 106 (c9 x0.d8)]) I_7 (h) (fun d2X H_8 d2Y w_9 a6Y b2l a9Y b4U => ?_) (fun _ _ _ _ _ q => q.elim)
 obtain ⟨a2T, rfl, rfl, h⟩ := b4U
 refine ⟨(a9Y _ I_7.lt1 (Inv.a2A (Fi := []) I_7)), ?_⟩
 refine d7 (cap := []) (fun args w => Tryd.call154 args w) ?_
 refine h9 (Fi := []) (Fr := [bx g_2 106 (c9 x0.d8)]) a6Y (h) (fun d2Z a8q d3a s7 a6Z d3b b4V b4W => ?_) (fun _ _ _ _ _ q => q.elim)
 obtain ⟨a2U, rfl, rfl, h⟩ := b4W
 refine a1S (e := 97) (c := csl) (xs := [a2T, a2U]) a6Z (b3P _ _ _ _ _ _) rfl rfl b3b b3c (nb rfl) fun a3r d3c e1h c2z a7a b8e => ?_
 obtain ⟨a5e, b4X, b4w, a5f, b4Y⟩ := Inv.freezeC a7a c2z (by decide)
 replace h := h a3r a5e b4w a5f b4Y
 refine d7 (cap := []) (fun args w => Tryd.call94 args w) ?_
 refine h9 (Fi := []) (Fr := [bx g_2 106 (c9 x0.d8)]) b4X (h) (fun e1i b2k e1j e1k a5a b4Z e1l c2A => ?_) (fun _ _ _ _ _ q => q.elim)
 obtain ⟨a8Z, rfl, rfl, h⟩ := c2A
 exact hR a8Z b2k _ a5a.drop h
theorem a5g (x0 : B1) {H : Hp} {K : Sl → Hp → Prop} (h : N2 x0 H K) : a0W x0 H K := by
 intro w I
 refine c6K ?_
 refine a4r x0 I (fun r0 H' w' I' hk => ⟨H', _, I', r0, rfl, rfl, hk⟩) h
end Go.Proofs.YthldnpmfelniiaaDoor
