/- Typed formulas of the program's functions, and the theorems that the contracts follow from them; printed by lift.py off the code. -/
import Derived.Test.YthldnpmfelniiaaDoorCV1
namespace Go.Proofs.YthldnpmfelniiaaDoor
open Go.RowKit
set_option maxRecDepth 100000
set_option maxHeartbeats 2000000
def a3g (x0 : B8) (H : Hp) (K : c8 → Hp → Prop) : Prop :=
 K (c8.J9 (Q7.mk x0)) H
theorem b3y (x0 : B8) {w0 w : World} {ps0 : Nat → Prop} {H0 H : Hp} {K : c8 → Hp → Prop} {R : Value → World → Prop} {E : Pan} (I : Inv w0 ps0 H0 H [] w) (hR : ∀ (r0 : c8) (H' : Hp) (w' : World) (_ : Inv w0 ps0 H0 H' [] w') (_ : K r0 H'), R (y7 r0) w') (h : a3g x0 H K) : F96 (Value.agg (p7 x0).toArray) w R E := by
 unfold a3g at h
 unfold F96
 refine G7 I (cs := (p7 x0)) rfl fun g_2 w_3 I_4 k_5 => ?_
 refine c7 (ldA Tryd.isAgg67 Tryd.sizeOf67 rfl (I_4.at1 (o := 0) (vs := (p7 x0)) (nb rfl) rfl)) ?_
 refine a7 (c3z _ _) ?_
 refine a7 (c0Z (Q7.mk x0)) ?_
 exact hR (c8.J9 (Q7.mk x0)) H _ I_4.drop h
theorem b4k (x0 : B8) {H : Hp} {K : c8 → Hp → Prop} (h : a3g x0 H K) : a7Q x0 H K := by
 intro w I
 refine e7X ?_
 refine b3y x0 I (fun r0 H' w' I' hk => ⟨H', _, I', r0, rfl, rfl, hk⟩) h
def a4S (x0 : Int) (x1 : Int) (x2 : Int) (H : Hp) (K : Bool → Hp → Prop) : Prop :=
 K ((decide (x0 ≤ x2)) && (decide (x2 ≤ x1))) H
theorem b2R (x0 : Int) (x1 : Int) (x2 : Int) (g2 : Nat) {w0 w : World} {ps0 : Nat → Prop} {H0 H : Hp} {K : Bool → Hp → Prop} {R : Value → World → Prop} {E : Pan} (I : Inv w0 ps0 H0 H [bx g2 21 [(Value.int .i32 x2)]] w) (hR : ∀ (r0 : Bool) (H' : Hp) (w' : World) (_ : Inv w0 ps0 H0 H' [bx g2 21 [(Value.int .i32 x2)]] w') (_ : K r0 H'), R (Value.bool r0) w') (h : a4S x0 x1 x2 H K) : c9j (Value.int .i32 x0) (Value.int .i32 x1) (Value.pointer (some ⟨g2, 0, none⟩)) w R E := by
 unfold a4S at h
 unfold c9j
 refine c7 (ld1 Tryd.isAgg21 (I.at1 (o := 0) (vs := [(Value.int .i32 x2)]) (nb rfl) rfl)) ?_
 refine a7 (a0N _ _ _ _ _ _) ?_
 refine c7 (Ld.g fun hb => by have a6 := hb; first | exact (ld1 Tryd.isAgg21 (I.at1 (o := 0) (vs := [(Value.int .i32 x2)]) (nb rfl) rfl)) | (simp only [b7 a6, a8 a6, a8 hb, l9 a6]; exact (ld1 Tryd.isAgg21 (I.at1 (o := 0) (vs := [(Value.int .i32 x2)]) (nb rfl) rfl))) | (simp only [b7 a6, a8 a6, a8 hb, c9 a6, d9]; exact (ld1 Tryd.isAgg21 (I.at1 (o := 0) (vs := [(Value.int .i32 x2)]) (nb rfl) rfl)))) ?_
 try simp only [m9]
 refine a7 (Pu.g fun hb => by have a6 := hb; first | exact (a0N _ _ _ _ _ _) | (simp only [a8 a6]; exact (a0N _ _ _ _ _ _)) | (simp only [b7 a6, a8 a6, a8 hb, c9 a6, d9]; exact (a0N _ _ _ _ _ _))) ?_
 refine a7 (k7 _ _) ?_
 exact hR ((decide (x0 ≤ x2)) && (decide (x2 ≤ x1))) H _ I h
theorem b3z (x0 : Int) (x1 : Int) (x2 : Int) {H : Hp} {K : Bool → Hp → Prop} (h : a4S x0 x1 x2 H K) : J8 x0 x1 x2 H K := by
 intro g2 w I
 refine e0C ?_
 refine b2R x0 x1 x2 g2 I (fun r0 H' w' I' hk => ⟨H', _, I', r0, rfl, rfl, hk⟩) h
def a4C (x0 : ByteArray) (H : Hp) (K : Bool → Hp → Prop) : Prop :=
 a0H x0 H (fun (K1 : Int) (H_1 : Hp) =>
 K (decide (32 < K1)) H_1)
theorem b6x (x0 : ByteArray) {w0 w : World} {ps0 : Nat → Prop} {H0 H : Hp} {K : Bool → Hp → Prop} {R : Value → World → Prop} {E : Pan} (I : Inv w0 ps0 H0 H [] w) (hR : ∀ (r0 : Bool) (H' : Hp) (w' : World) (_ : Inv w0 ps0 H0 H' [] w') (_ : K r0 H'), R (Value.bool r0) w') (h : a4C x0 H K) : c9c (Value.string x0) w R E := by
 unfold a4C at h
 unfold c9c
 refine f8 (cap := []) (fun args w => Tryd.call130 args w) ?_
 refine i6 (Fi := []) (Fr := []) I (h) (fun v_5 H_1 F_6 w_2 I_3 l_8 k_4 q_7 => ?_) (fun _ _ _ _ _ q => q.elim)
 obtain ⟨K1, rfl, rfl, h⟩ := q_7
 refine a7 (a2W _ _ _ _ _ _) ?_
 exact hR (decide (32 < K1)) H_1 _ I_3 h
theorem b7O (x0 : ByteArray) {H : Hp} {K : Bool → Hp → Prop} (h : a4C x0 H K) : a4A x0 H K := by
 intro w I
 refine e0q ?_
 refine b6x x0 I (fun r0 H' w' I' hk => ⟨H', _, I', r0, rfl, rfl, hk⟩) h
def o2 (o4 : Bool) (H : Hp) (K : Bool → Hp → Prop) : Prop :=
 (o4 = true →
 K true H) ∧
 (o4 = false →
 K false H)
def a4D (x0 : ByteArray) (H : Hp) (K : Bool → Hp → Prop) : Prop :=
 (x0 = ⟨#[118, 97, 114]⟩ →
 o2 (decide (x0 = ⟨#[118, 97, 114]⟩)) H K) ∧
 (¬ (x0 = ⟨#[118, 97, 114]⟩) →
 (x0 = ⟨#[97, 114, 114, 97, 121]⟩ →
 o2 (decide (x0 = ⟨#[97, 114, 114, 97, 121]⟩)) H K) ∧
 (¬ (x0 = ⟨#[97, 114, 114, 97, 121]⟩) →
 (x0 = ⟨#[105, 102]⟩ →
 o2 (decide (x0 = ⟨#[105, 102]⟩)) H K) ∧
 (¬ (x0 = ⟨#[105, 102]⟩) →
 (x0 = ⟨#[101, 108, 115, 101]⟩ →
 o2 (decide (x0 = ⟨#[101, 108, 115, 101]⟩)) H K) ∧
 (¬ (x0 = ⟨#[101, 108, 115, 101]⟩) →
 (x0 = ⟨#[119, 104, 105, 108, 101]⟩ →
 o2 (decide (x0 = ⟨#[119, 104, 105, 108, 101]⟩)) H K) ∧
 (¬ (x0 = ⟨#[119, 104, 105, 108, 101]⟩) →
 (x0 = ⟨#[97, 115, 115, 101, 114, 116]⟩ →
 o2 (decide (x0 = ⟨#[97, 115, 115, 101, 114, 116]⟩)) H K) ∧
 (¬ (x0 = ⟨#[97, 115, 115, 101, 114, 116]⟩) →
 (x0 = ⟨#[97, 115, 115, 117, 109, 101]⟩ →
 o2 (decide (x0 = ⟨#[97, 115, 115, 117, 109, 101]⟩)) H K) ∧
 (¬ (x0 = ⟨#[97, 115, 115, 117, 109, 101]⟩) →
 (x0 = ⟨#[115, 107, 105, 112]⟩ →
 o2 (decide (x0 = ⟨#[115, 107, 105, 112]⟩)) H K) ∧
 (¬ (x0 = ⟨#[115, 107, 105, 112]⟩) →
 (x0 = ⟨#[105, 110, 112, 117, 116]⟩ →
 o2 (decide (x0 = ⟨#[105, 110, 112, 117, 116]⟩)) H K) ∧
 (¬ (x0 = ⟨#[105, 110, 112, 117, 116]⟩) →
 (x0 = ⟨#[116, 114, 117, 101]⟩ →
 o2 (decide (x0 = ⟨#[116, 114, 117, 101]⟩)) H K) ∧
 (¬ (x0 = ⟨#[116, 114, 117, 101]⟩) →
 o2 (decide (x0 = ⟨#[102, 97, 108, 115, 101]⟩)) H K))))))))))
theorem b6y (x0 : ByteArray) {w0 w : World} {ps0 : Nat → Prop} {H0 H : Hp} {K : Bool → Hp → Prop} {R : Value → World → Prop} {E : Pan} (I : Inv w0 ps0 H0 H [] w) (hR : ∀ (r0 : Bool) (H' : Hp) (w' : World) (_ : Inv w0 ps0 H0 H' [] w') (_ : K r0 H'), R (Value.bool r0) w') (h : a4D x0 H K) : c9d (Value.string x0) w R E := by
 unfold a4D at h
 unfold c9d
 have hj1 : ∀ (o4 : Bool) (H : Hp) (w : World) (_ : Inv w0 ps0 H0 H [] w) (_ : o2 o4 H K), c1f (Value.bool o4) w R E := by
  intro o4 H w I h
  unfold c1f
  intro _
  unfold o2 at h
  refine k9 (fun c_1 => ?_) (fun c_1 => ?_)
  ·replace h := h.1 c_1
   exact hR true H _ I h
  ·replace h := h.2 c_1
   exact hR false H _ I h
 refine p9 fun j1 hx1 => ?_
 refine a7 (F0 _ _ _ _ _) ?_
 refine g9 (fun b1p => ?_) (fun b1p => ?_)
 ·replace h := h.1 b1p
  exact hx1 _ _ (hj1 (decide (x0 = ⟨#[118, 97, 114]⟩)) H _ I h)
 ·replace h := h.2 b1p
  refine a7 (F0 _ _ _ _ _) ?_
  refine g9 (fun b8i => ?_) (fun b8i => ?_)
  ·replace h := h.1 b8i
   exact hx1 _ _ (hj1 (decide (x0 = ⟨#[97, 114, 114, 97, 121]⟩)) H _ I h)
  ·replace h := h.2 b8i
   refine a7 (F0 _ _ _ _ _) ?_
   refine g9 (fun c_9 => ?_) (fun c_9 => ?_)
   ·replace h := h.1 c_9
    exact hx1 _ _ (hj1 (decide (x0 = ⟨#[105, 102]⟩)) H _ I h)
   ·replace h := h.2 c_9
    refine a7 (F0 _ _ _ _ _) ?_
    refine g9 (fun c_8 => ?_) (fun c_8 => ?_)
    ·replace h := h.1 c_8
     exact hx1 _ _ (hj1 (decide (x0 = ⟨#[101, 108, 115, 101]⟩)) H _ I h)
    ·replace h := h.2 c_8
     refine a7 (F0 _ _ _ _ _) ?_
     refine g9 (fun c_7 => ?_) (fun c_7 => ?_)
     ·replace h := h.1 c_7
      exact hx1 _ _ (hj1 (decide (x0 = ⟨#[119, 104, 105, 108, 101]⟩)) H _ I h)
     ·replace h := h.2 c_7
      refine a7 (F0 _ _ _ _ _) ?_
      refine g9 (fun c_6 => ?_) (fun c_6 => ?_)
      ·replace h := h.1 c_6
       exact hx1 _ _ (hj1 (decide (x0 = ⟨#[97, 115, 115, 101, 114, 116]⟩)) H _ I h)
      ·replace h := h.2 c_6
       refine a7 (F0 _ _ _ _ _) ?_
       refine g9 (fun c_5 => ?_) (fun c_5 => ?_)
       ·replace h := h.1 c_5
        exact hx1 _ _ (hj1 (decide (x0 = ⟨#[97, 115, 115, 117, 109, 101]⟩)) H _ I h)
       ·replace h := h.2 c_5
        refine a7 (F0 _ _ _ _ _) ?_
        refine g9 (fun c_4 => ?_) (fun c_4 => ?_)
        ·replace h := h.1 c_4
         exact hx1 _ _ (hj1 (decide (x0 = ⟨#[115, 107, 105, 112]⟩)) H _ I h)
        ·replace h := h.2 c_4
         refine a7 (F0 _ _ _ _ _) ?_
         refine g9 (fun c_3 => ?_) (fun c_3 => ?_)
         ·replace h := h.1 c_3
          exact hx1 _ _ (hj1 (decide (x0 = ⟨#[105, 110, 112, 117, 116]⟩)) H _ I h)
         ·replace h := h.2 c_3
          refine a7 (F0 _ _ _ _ _) ?_
          refine g9 (fun c_2 => ?_) (fun c_2 => ?_)
          ·replace h := h.1 c_2
           exact hx1 _ _ (hj1 (decide (x0 = ⟨#[116, 114, 117, 101]⟩)) H _ I h)
          ·replace h := h.2 c_2
           refine a7 (F0 _ _ _ _ _) ?_
           exact hx1 _ _ (hj1 (decide (x0 = ⟨#[102, 97, 108, 115, 101]⟩)) H _ I h)
theorem b7P (x0 : ByteArray) {H : Hp} {K : Bool → Hp → Prop} (h : a4D x0 H K) : a2X x0 H K := by
 intro w I
 refine e0s ?_
 refine b6y x0 I (fun r0 H' w' I' hk => ⟨H', _, I', r0, rfl, rfl, hk⟩) h
def a3I (x0 : g5) (H : Hp) (K : Int → Int → Hp → Prop) : Prop :=
 a1A x0 H (fun (o0 : g6) (H_6 : Hp) =>
 (¬ (o0.fe = 0) →
 K 0 o0.fe H_6) ∧
 (o0.fe = 0 →
 K o0.fnodes 0 H_6))
theorem b4l (x0 : g5) {w0 w : World} {ps0 : Nat → Prop} {H0 H : Hp} {K : Int → Int → Hp → Prop} {R : Value → World → Prop} {E : Pan} (I : Inv w0 ps0 H0 H [] w) (hR : ∀ (r0 : Int) (r1 : Int) (H' : Hp) (w' : World) (_ : Inv w0 ps0 H0 H' [] w') (_ : K r0 r1 H'), R (Value.tuple #[(vi r0), (vi r1)]) w') (h : a3I x0 H K) : F25 (Value.agg (d7 x0).toArray) w R E := by
 unfold a3I at h
 unfold F25
 refine G7 I (cs := (d7 x0)) rfl fun g_2 w_3 I_4 k_5 => ?_
 refine c7 (ldA Tryd.isAgg25 Tryd.sizeOf25 rfl (I_4.at1 (o := 0) (vs := (d7 x0)) (nb rfl) rfl)) ?_
 refine f8 (cap := []) (fun args w => Tryd.call66 args w) ?_
 refine i6 (Fi := []) (Fr := [bx g_2 25 (d7 x0)]) I_4 (h) (fun a6Q H_6 a6q w_7 I_8 a6R k_9 a0J => ?_) (fun _ _ _ _ _ q => q.elim)
 obtain ⟨o0, c4I, rfl, rfl, h⟩ := a0J
 refine a7 (i7 _) ?_
 refine a7 a0t ?_
 refine c7 (ld1 Tryd.isAgg34 (I_8.at1 (o := 2) (vs := [(vi o0.fe)]) (nb rfl) rfl)) ?_
 refine a7 (u7 _ _ _ _ _ _) ?_
 refine a2H (fun a0K => ?_) (fun a0K => ?_)
 ·replace h := h.1 a0K
  refine a9L I_8 fun q7 a5i => ?_
  refine D5 (i7 _) ?_
  refine D5 a0t ?_
  refine a1b (ld1 Tryd.isAgg34 (a5i.at1 (o := 2) (vs := [(vi o0.fe)]) (nb rfl) rfl)) ?_
  exact hR 0 o0.fe H_6 _ a5i.drop.drop h
 ·replace h := h.2 a0K
  refine a7 (i7 _) ?_
  refine a7 b0e ?_
  refine c7 (ld1 Tryd.isAgg3 (I_8.at1 (o := 0) (vs := [(vi o0.fnodes)]) (nb rfl) rfl)) ?_
  exact hR o0.fnodes 0 H_6 _ I_8.drop.drop h
theorem b5x (x0 : g5) {H : Hp} {K : Int → Int → Hp → Prop} (h : a3I x0 H K) : a3G x0 H K := by
 intro w I
 refine e3X ?_
 refine b4l x0 I (fun r0 r1 H' w' I' hk => ⟨H', _, I', r0, r1, rfl, rfl, hk⟩) h
def a2q (x0 : h9) (x1 : h9) (H : Hp) (K : Bool → Hp → Prop) : Prop :=
 TG ((((decide (x0.b9 = x1.b9)) && (decide (x0.I3 = x1.I3))) && (decide (x0.g7 = x1.g7))) = true) (j8 x0.t1 x1.t1 H) false H (fun (y6 : Bool) (Q0 : Hp) =>
 K ((((decide (x0.b9 = x1.b9)) && (decide (x0.I3 = x1.I3))) && (decide (x0.g7 = x1.g7))) && y6) Q0)
theorem b2q (x0 : h9) (x1 : h9) {w0 w : World} {ps0 : Nat → Prop} {H0 H : Hp} {K : Bool → Hp → Prop} {R : Value → World → Prop} {E : Pan} (I : Inv w0 ps0 H0 H [] w) (hR : ∀ (r0 : Bool) (H' : Hp) (w' : World) (_ : Inv w0 ps0 H0 H' [] w') (_ : K r0 H'), R (Value.bool r0) w') (h : a2q x0 x1 H K) : F84 (Value.agg (f4 x0).toArray) (Value.agg (f4 x1).toArray) w R E := by
 unfold a2q at h
 unfold F84
 refine G7 I (cs := (f4 x0)) rfl fun g_2 w_3 I_4 k_5 => ?_
 refine G7 I_4 (cs := (f4 x1)) rfl fun g_7 w_8 I_9 b6z => ?_
 refine a7 G1 ?_
 refine c7 (ld1 Tryd.isAgg3 ((I_9.bring 1).at1 (o := 0) (vs := [(vi x0.b9)]) (nb rfl) rfl)) ?_
 refine a7 G1 ?_
 refine c7 (ld1 Tryd.isAgg3 (I_9.at1 (o := 0) (vs := [(vi x1.b9)]) (nb rfl) rfl)) ?_
 refine a7 (d6 _ _ _ _ _ _) ?_
 refine a7 (Pu.g fun hb => by have a6 := hb; first | exact M7 | (simp only [b7 a6, a8 a6, a8 hb, l9 a6]; exact M7) | (simp only [b7 a6, a8 a6, a8 hb, c9 a6, d9]; exact M7)) ?_
 refine c7 (Ld.g fun hb => by have a6 := hb; first | exact (ld1 Tryd.isAgg2 ((I_9.bring 1).at1 (o := 1) (vs := [(vi x0.I3)]) (nb rfl) rfl)) | (simp only [a8 a6]; exact (ld1 Tryd.isAgg2 ((I_9.bring 1).at1 (o := 1) (vs := [(vi x0.I3)]) (nb rfl) rfl))) | (simp only [b7 a6, a8 a6, a8 hb, c9 a6, d9]; exact (ld1 Tryd.isAgg2 ((I_9.bring 1).at1 (o := 1) (vs := [(vi x0.I3)]) (nb rfl) rfl)))) ?_
 refine a7 (Pu.g fun hb => by have a6 := hb; first | exact M7 | (simp only [b7 a6, a8 a6, a8 hb, l9 a6]; exact M7) | (simp only [b7 a6, a8 a6, a8 hb, c9 a6, d9]; exact M7)) ?_
 refine c7 (Ld.g fun hb => by have a6 := hb; first | exact (ld1 Tryd.isAgg2 (I_9.at1 (o := 1) (vs := [(vi x1.I3)]) (nb rfl) rfl)) | (simp only [a8 a6]; exact (ld1 Tryd.isAgg2 (I_9.at1 (o := 1) (vs := [(vi x1.I3)]) (nb rfl) rfl))) | (simp only [b7 a6, a8 a6, a8 hb, c9 a6, d9]; exact (ld1 Tryd.isAgg2 (I_9.at1 (o := 1) (vs := [(vi x1.I3)]) (nb rfl) rfl)))) ?_
 refine a7 (Pu.g fun hb => by have a6 := hb; first | exact (d6 _ _ _ _ _ _) | (simp only [a8 a6]; exact (d6 _ _ _ _ _ _)) | (simp only [b7 a6, a8 a6, a8 hb, c9 a6, d9]; exact (d6 _ _ _ _ _ _))) ?_
 refine a7 (k7 _ _) ?_
 refine a7 (Pu.g fun hb => by have a6 := hb; first | exact Y6 | (simp only [b7 a6, a8 a6, a8 hb, l9 a6]; exact Y6) | (simp only [b7 a6, a8 a6, a8 hb, c9 a6, d9]; exact Y6)) ?_
 refine c7 (Ld.g fun hb => by have a6 := hb; first | exact (ld1 Tryd.isAgg9 ((I_9.bring 1).at1 (o := 2) (vs := [(Value.string x0.g7)]) (nb rfl) rfl)) | (simp only [a8 a6]; exact (ld1 Tryd.isAgg9 ((I_9.bring 1).at1 (o := 2) (vs := [(Value.string x0.g7)]) (nb rfl) rfl))) | (simp only [b7 a6, a8 a6, a8 hb, c9 a6, d9]; exact (ld1 Tryd.isAgg9 ((I_9.bring 1).at1 (o := 2) (vs := [(Value.string x0.g7)]) (nb rfl) rfl)))) ?_
 refine a7 (Pu.g fun hb => by have a6 := hb; first | exact Y6 | (simp only [b7 a6, a8 a6, a8 hb, l9 a6]; exact Y6) | (simp only [b7 a6, a8 a6, a8 hb, c9 a6, d9]; exact Y6)) ?_
 refine c7 (Ld.g fun hb => by have a6 := hb; first | exact (ld1 Tryd.isAgg9 (I_9.at1 (o := 2) (vs := [(Value.string x1.g7)]) (nb rfl) rfl)) | (simp only [a8 a6]; exact (ld1 Tryd.isAgg9 (I_9.at1 (o := 2) (vs := [(Value.string x1.g7)]) (nb rfl) rfl))) | (simp only [b7 a6, a8 a6, a8 hb, c9 a6, d9]; exact (ld1 Tryd.isAgg9 (I_9.at1 (o := 2) (vs := [(Value.string x1.g7)]) (nb rfl) rfl)))) ?_
 refine a7 (Pu.g fun hb => by have a6 := hb; first | exact (F0 _ _ _ _ _) | (simp only [a8 a6]; exact (F0 _ _ _ _ _)) | (simp only [b7 a6, a8 a6, a8 hb, c9 a6, d9]; exact (F0 _ _ _ _ _))) ?_
 refine a7 (k7 _ _) ?_
 refine a7 (Pu.g fun hb => by have a6 := hb; first | exact M6 | (simp only [b7 a6, a8 a6, a8 hb, l9 a6]; exact M6) | (simp only [b7 a6, a8 a6, a8 hb, c9 a6, d9]; exact M6)) ?_
 refine c7 (Ld.g fun hb => by have a6 := hb; first | exact (ld1 Tryd.isAgg28 ((I_9.bring 1).at1 (o := 3) (vs := [(vs x0.t1)]) (nb rfl) rfl)) | (simp only [a8 a6]; exact (ld1 Tryd.isAgg28 ((I_9.bring 1).at1 (o := 3) (vs := [(vs x0.t1)]) (nb rfl) rfl))) | (simp only [b7 a6, a8 a6, a8 hb, c9 a6, d9]; exact (ld1 Tryd.isAgg28 ((I_9.bring 1).at1 (o := 3) (vs := [(vs x0.t1)]) (nb rfl) rfl)))) ?_
 refine a7 (Pu.g fun hb => by have a6 := hb; first | exact M6 | (simp only [b7 a6, a8 a6, a8 hb, l9 a6]; exact M6) | (simp only [b7 a6, a8 a6, a8 hb, c9 a6, d9]; exact M6)) ?_
 refine c7 (Ld.g fun hb => by have a6 := hb; first | exact (ld1 Tryd.isAgg28 (I_9.at1 (o := 3) (vs := [(vs x1.t1)]) (nb rfl) rfl)) | (simp only [a8 a6]; exact (ld1 Tryd.isAgg28 (I_9.at1 (o := 3) (vs := [(vs x1.t1)]) (nb rfl) rfl))) | (simp only [b7 a6, a8 a6, a8 hb, c9 a6, d9]; exact (ld1 Tryd.isAgg28 (I_9.at1 (o := 3) (vs := [(vs x1.t1)]) (nb rfl) rfl)))) ?_
 refine L2 (D := fun a9O k6 => ∃ (y6 : Bool) (Q0 : Hp) , a9O = (gv (((decide (x0.b9 = x1.b9)) && (decide (x0.I3 = x1.I3))) && (decide (x0.g7 = x1.g7))) true (Value.bool y6)) ∧ (Inv w0 ps0 H0 Q0 [bx g_7 30 (f4 x1), bx g_2 30 (f4 x0)] k6) ∧ (∀ i, i < w_8.heap.size → ¬ inF [] i → k6.heap[i]? = w_8.heap[i]?) ∧ Hle H Q0 ∧ (K ((((decide (x0.b9 = x1.b9)) && (decide (x0.I3 = x1.I3))) && (decide (x0.g7 = x1.g7))) && y6) Q0)) (fun c1u => ?_) (fun c1u => ?_) ?_
 ·replace h := h.1 c1u
  have a6 := c1u
  try simp only [a8 a6]
  refine f8 (cap := []) (fun args w => Tryd.call83 args w) ?_
  refine i6 (Fi := []) (Fr := [bx g_7 30 (f4 x1), bx g_2 30 (f4 x0)]) I_9 (h) (fun a9O Q0 d5a k6 a0L b1q b4m b8j => ?_) (fun _ _ _ _ _ q => q.elim)
  obtain ⟨y6, rfl, rfl, h⟩ := b8j
  exact ⟨y6, Q0, by first | rfl | rw [a8 c1u], a0L, b4m, b1q, h⟩
 ·exact ⟨false, H, by first | rfl | rw [a0E c1u], I_9, fun _ _ _ => rfl, Hle.refl _, h.2 c1u⟩
 ·clear h
  rintro a9O k6 ⟨y6, Q0, rfl, a0L, b4m, b1q, h⟩
  refine a7 (k7 _ _) ?_
  exact hR ((((decide (x0.b9 = x1.b9)) && (decide (x0.I3 = x1.I3))) && (decide (x0.g7 = x1.g7))) && y6) Q0 _ a0L.drop.drop h
theorem b2S (x0 : h9) (x1 : h9) {H : Hp} {K : Bool → Hp → Prop} (h : a2q x0 x1 H K) : a2m x0 x1 H K := by
 intro w I
 refine e5Z ?_
 refine b2q x0 x1 I (fun r0 H' w' I' hk => ⟨H', _, I', r0, rfl, rfl, hk⟩) h
def o9 (H : Hp) (K : Bool → Hp → Prop) : Prop :=
 K true H
def m3 (a0M : Sl) (b2H : Sl) (b2I : Int) (E6 : Int) (H : Hp) (n2 : Int → Hp → Prop) (K : Bool → Hp → Prop) : Prop :=
 (E6 < b2I →
 (0 : Int) ≤ E6 ∧ (E6 : Int) < b2H.n ∧ ∃ x_1 : h9, EltH H b2H E6 4 (f4 x_1) ∧
 (0 : Int) ≤ E6 ∧ (E6 : Int) < a0M.n ∧ ∃ a2F : h9, EltH H a0M E6 4 (f4 a2F) ∧
 a2m x_1 a2F H (fun (T6 : Bool) (a1E : Hp) =>
 ((!T6) = true →
 K false a1E) ∧
 ((!T6) = false →
 n2 (IntKind.wrap .i64 (E6 + 1)) a1E))) ∧
 (¬ (E6 < b2I) →
 o9 H K)
def m6 (x0 : Sl) (x1 : Sl) (H : Hp) (K : Bool → Hp → Prop) : Prop :=
 (¬ ((x0.n : Int) = (x1.n : Int)) →
 K false H) ∧
 ((x0.n : Int) = (x1.n : Int) →
 TL (0 : Int) H fun (s : Int) H n2 => m3 x1 x0 (x0.n : Int) s H n2 K)
theorem J2 (x0 : Sl) (x1 : Sl) {w0 w : World} {ps0 : Nat → Prop} {H0 H : Hp} {K : Bool → Hp → Prop} {R : Value → World → Prop} {E : Pan} (I : Inv w0 ps0 H0 H [] w) (hR : ∀ (r0 : Bool) (H' : Hp) (w' : World) (_ : Inv w0 ps0 H0 H' [] w') (_ : K r0 H'), R (Value.bool r0) w') (h : m6 x0 x1 H K) : F83 (vs x0) (vs x1) (Value.func (.func 84) #[] #[]) w R E := by
 unfold m6 at h
 unfold F83
 refine a7 (F5 _ _ _) ?_
 refine a7 (F5 _ _ _) ?_
 refine a7 (u7 _ _ _ _ _ _) ?_
 refine a2H (fun b1r => ?_) (fun b1r => ?_)
 ·replace h := h.1 b1r
  exact hR false H _ I h
 ·replace h := h.2 b1r
  have hj1 : ∀ (H : Hp) (w : World) (_ : Inv w0 ps0 H0 H [] w) (_ : o9 H K), c4c w R E := by
   intro H w I h
   unfold c4c
   intro _
   unfold o9 at h
   exact hR true H _ I h
  refine p9 fun j1 hx1 => ?_
  refine a7 (F5 _ _ _) ?_
  obtain ⟨b1s, a5R, c4J, c4K⟩ := h
  refine v6 (J := fun n l w => ∃ (s : Int) (H : Hp) , n = a5R s ∧ l = [(vi s)] ∧ Inv w0 ps0 H0 H [] w ∧ b1s s H) ⟨_, 0, H, rfl, rfl, I, c4J⟩ ?_
  rintro f0T τ_47 w next2 ⟨E6, H, rfl, b6A, I, c4L⟩ hn2
  simp only [List.map_cons, List.map_nil, List.cons.injEq, and_true] at b6A
  have e17 := b6A
  simp only [e17]
  obtain ⟨n2, hm2, h⟩ : ∃ n2 : Int → Hp → Prop, (∀ s' H', n2 s' H' → b1s s' H' ∧ a5R s' < a5R E6) ∧ m3 x1 x0 (x0.n : Int) E6 H n2 K := ⟨_, fun _ _ h => h, c4K E6 H (fun s' H' => b1s s' H' ∧ a5R s' < a5R E6) c4L (fun _ _ a b => ⟨a, b⟩)⟩
  unfold d2X
  unfold m3 at h
  refine a7 (r8 _ _ _ _ _ _) ?_
  refine g9 (fun b1t => ?_) (fun b1t => ?_)
  ·replace h := h.1 b1t
   obtain ⟨h_4, h_5, x_1, h_7, h⟩ := h
   obtain ⟨g_2, o_3, h_6, h_7⟩ := h_7
   refine a7 (a2O h_6 _ _ _ _ h_4 h_5) ?_
   refine c7 (ldA (vs := (f4 x_1)) Tryd.isAgg30 Tryd.sizeOf30 rfl (I.atH h_7)) ?_
   refine L5 I Tryd.zeroValue30 (cs := [(vi 0), (vi 0), (Value.string ⟨#[]⟩), (Value.slice none 0 0)]) rfl fun g_9 m1 a0Y a8S => ?_
   refine u1 a0Y Tryd.sizeOf30 (vs := (f4 x_1)) (cs' := (f4 x_1)) rfl rfl (nb rfl) rfl rfl fun V5 T2 b2T => ?_
   obtain ⟨b1u, b4n, a2F, a6S, h⟩ := h
   obtain ⟨f0U, f0V, c4M, a6S⟩ := a6S
   refine a7 (a2O c4M _ _ _ _ b1u b4n) ?_
   refine c7 (ldA (vs := (f4 a2F)) Tryd.isAgg30 Tryd.sizeOf30 rfl (T2.atH a6S)) ?_
   refine L5 T2 Tryd.zeroValue30 (cs := [(vi 0), (vi 0), (Value.string ⟨#[]⟩), (Value.slice none 0 0)]) rfl fun a5S a6m a8T c4N => ?_
   refine u1 a8T Tryd.sizeOf30 (vs := (f4 a2F)) (cs' := (f4 a2F)) rfl rfl (nb rfl) rfl rfl fun v8 a5T c9y => ?_
   refine c7 (ldA Tryd.isAgg30 Tryd.sizeOf30 rfl ((a5T.bring 1).at1 (o := 0) (vs := (f4 x_1)) (nb rfl) rfl)) ?_
   refine c7 (ldA Tryd.isAgg30 Tryd.sizeOf30 rfl (a5T.at1 (o := 0) (vs := (f4 a2F)) (nb rfl) rfl)) ?_
   refine f8 (cap := []) (fun args w => Tryd.call84 args w) ?_
   refine i6 (Fi := []) (Fr := [bx a5S 30 (f4 a2F), bx g_9 30 (f4 x_1)]) a5T (h) (fun c1v a1E d5b y8 a7U c4O c4P b8k => ?_) (fun _ _ _ _ _ q => q.elim)
   obtain ⟨T6, rfl, rfl, h⟩ := b8k
   refine a7 (I7 _) ?_
   refine k9 (fun a6T => ?_) (fun a6T => ?_)
   ·replace h := h.1 a6T
    exact hR false a1E _ a7U.drop.drop h
   ·replace h := h.2 a6T
    refine a7 (q8 _ _ _ _ _ _) ?_
    exact hn2 _ _ _ (hm2 _ _ h).2 ⟨(IntKind.wrap .i64 (E6 + 1)), a1E, rfl, rfl, a7U.drop.drop, (hm2 _ _ h).1⟩
  ·replace h := h.2 b1t
   exact hx1 _ _ (hj1 H _ I h)
theorem J5 (x0 : Sl) (x1 : Sl) {H : Hp} {K : Bool → Hp → Prop} (h : m6 x0 x1 H K) : j8 x0 x1 H K := by
 intro w I
 refine e5X ?_
 refine J2 x0 x1 I (fun r0 H' w' I' hk => ⟨H', _, I', r0, rfl, rfl, hk⟩) h
def a0Q (H : Hp) (K : Bool → Hp → Prop) : Prop :=
 G2 H (fun (K1 : g5) (H_1 : Hp) =>
 a3F K1 H_1 (fun (o6 : Int) (a0w : Int) (a1T : Hp) =>
 G2 a1T (fun (C1 : g5) (Q2 : Hp) =>
 a3G C1 Q2 (fun (E7 : Int) (a2r : Int) (a1U : Hp) =>
 TG (((((decide (a0w = 0)) && (decide (a2r = 0))) && (decide (o6 = 3))) && (decide (E7 = 5))) = true) (a5M (h9.mk 1 (-1) ⟨#[]⟩ (Sl.mk none 0 0)) a1U) 0 a1U (fun (D6 : Int) (Y3 : Hp) =>
 TG ((((((decide (a0w = 0)) && (decide (a2r = 0))) && (decide (o6 = 3))) && (decide (E7 = 5))) && (decide (D6 = 30))) = true) (G2 Y3) (g5.mk (Sl.mk none 0 0) (Sl.mk none 0 0)) Y3 (fun (W0 : g5) (V7 : Hp) =>
 TG ((((((decide (a0w = 0)) && (decide (a2r = 0))) && (decide (o6 = 3))) && (decide (E7 = 5))) && (decide (D6 = 30))) = true) (G2 V7) (g5.mk (Sl.mk none 0 0) (Sl.mk none 0 0)) V7 (fun (a7V : g5) (a3h : Hp) =>
 TG ((((((decide (a0w = 0)) && (decide (a2r = 0))) && (decide (o6 = 3))) && (decide (E7 = 5))) && (decide (D6 = 30))) = true) (a0l W0 a7V a3h) false a3h (fun (a5F : Bool) (a6U : Hp) =>
 K ((((((decide (a0w = 0)) && (decide (a2r = 0))) && (decide (o6 = 3))) && (decide (E7 = 5))) && (decide (D6 = 30))) && a5F) a6U))))))))
theorem a9P {w0 w : World} {ps0 : Nat → Prop} {H0 H : Hp} {K : Bool → Hp → Prop} {R : Value → World → Prop} {E : Pan} (I : Inv w0 ps0 H0 H [] w) (hR : ∀ (r0 : Bool) (H' : Hp) (w' : World) (_ : Inv w0 ps0 H0 H' [] w') (_ : K r0 H'), R (Value.bool r0) w') (h : a0Q H K) : F14 w R E := by
 unfold a0Q at h
 unfold F14
 refine f8 (cap := []) (fun args w => Tryd.call50 args w) ?_
 refine i6 (Fi := []) (Fr := []) I (h) (fun v_5 H_1 F_6 w_2 I_3 l_8 k_4 q_7 => ?_) (fun _ _ _ _ _ q => q.elim)
 obtain ⟨K1, rfl, rfl, h⟩ := q_7
 refine f8 (cap := []) (fun args w => Tryd.call24 args w) ?_
 refine i6 (Fi := []) (Fr := []) I_3 (h) (fun c1w a1T d5c Y2 G6 b6B b4o b8l => ?_) (fun _ _ _ _ _ q => q.elim)
 obtain ⟨o6, a0w, rfl, rfl, h⟩ := b8l
 refine a7 (v7 _ _ _ rfl) ?_
 refine a7 (v7 _ _ _ rfl) ?_
 refine f8 (cap := []) (fun args w => Tryd.call50 args w) ?_
 refine i6 (Fi := []) (Fr := []) G6 (h) (fun b4p Q2 c4Q o7 a3i b8m b2U b8n => ?_) (fun _ _ _ _ _ q => q.elim)
 obtain ⟨C1, rfl, rfl, h⟩ := b8n
 refine f8 (cap := []) (fun args w => Tryd.call25 args w) ?_
 refine i6 (Fi := []) (Fr := []) a3i (h) (fun c9z a1U b4q a8R a4s b4j b6C d5d => ?_) (fun _ _ _ _ _ q => q.elim)
 obtain ⟨E7, a2r, rfl, rfl, h⟩ := d5d
 refine a7 (v7 _ _ _ rfl) ?_
 refine a7 (v7 _ _ _ rfl) ?_
 refine a7 (d6 _ _ _ _ _ _) ?_
 try simp only [m9]
 refine a7 (Pu.g fun hb => by have a6 := hb; first | exact (d6 _ _ _ _ _ _) | (simp only [a8 a6]; exact (d6 _ _ _ _ _ _)) | (simp only [b7 a6, a8 a6, a8 hb, c9 a6, d9]; exact (d6 _ _ _ _ _ _))) ?_
 refine a7 (k7 _ _) ?_
 try simp only [m9]
 refine a7 (Pu.g fun hb => by have a6 := hb; first | exact (d6 _ _ _ _ _ _) | (simp only [a8 a6]; exact (d6 _ _ _ _ _ _)) | (simp only [b7 a6, a8 a6, a8 hb, c9 a6, d9]; exact (d6 _ _ _ _ _ _))) ?_
 refine a7 (k7 _ _) ?_
 try simp only [m9]
 refine a7 (Pu.g fun hb => by have a6 := hb; first | exact (d6 _ _ _ _ _ _) | (simp only [a8 a6]; exact (d6 _ _ _ _ _ _)) | (simp only [b7 a6, a8 a6, a8 hb, c9 a6, d9]; exact (d6 _ _ _ _ _ _))) ?_
 refine a7 (k7 _ _) ?_
 refine a7 (Pu.g fun hb => by have a6 := hb; first | exact (a9M _ _) | (simp only [b7 a6, a8 a6, a8 hb, l9 a6]; exact (a9M _ _)) | (simp only [b7 a6, a8 a6, a8 hb, c9 a6, d9]; exact (a9M _ _))) ?_
 refine L2 (D := fun b6D v2 => ∃ (D6 : Int) (Y3 : Hp) , b6D = (gv ((((decide (a0w = 0)) && (decide (a2r = 0))) && (decide (o6 = 3))) && (decide (E7 = 5))) true (vi D6)) ∧ (Inv w0 ps0 H0 Y3 [] v2) ∧ (∀ i, i < a8R.heap.size → ¬ inF [] i → v2.heap[i]? = a8R.heap[i]?) ∧ Hle a1U Y3 ∧ (TG ((((((decide (a0w = 0)) && (decide (a2r = 0))) && (decide (o6 = 3))) && (decide (E7 = 5))) && (decide (D6 = 30))) = true) (G2 Y3) (g5.mk (Sl.mk none 0 0) (Sl.mk none 0 0)) Y3 (fun (W0 : g5) (V7 : Hp) =>
 TG ((((((decide (a0w = 0)) && (decide (a2r = 0))) && (decide (o6 = 3))) && (decide (E7 = 5))) && (decide (D6 = 30))) = true) (G2 V7) (g5.mk (Sl.mk none 0 0) (Sl.mk none 0 0)) V7 (fun (a7V : g5) (a3h : Hp) =>
 TG ((((((decide (a0w = 0)) && (decide (a2r = 0))) && (decide (o6 = 3))) && (decide (E7 = 5))) && (decide (D6 = 30))) = true) (a0l W0 a7V a3h) false a3h (fun (a5F : Bool) (a6U : Hp) =>
 K ((((((decide (a0w = 0)) && (decide (a2r = 0))) && (decide (o6 = 3))) && (decide (E7 = 5))) && (decide (D6 = 30))) && a5F) a6U))))) (fun b2V => ?_) (fun b2V => ?_) ?_
 ·replace h := h.1 b2V
  have a6 := b2V
  try simp only [a8 a6]
  refine f8 (cap := []) (fun args w => Tryd.call17 args w) ?_
  refine i6 (Fi := []) (Fr := []) a4s (h) (fun b6D Y3 f0W v2 b1v c1x c1y c4R => ?_) (fun _ _ _ _ _ q => q.elim)
  obtain ⟨D6, rfl, rfl, h⟩ := c4R
  exact ⟨D6, Y3, by first | rfl | rw [a8 b2V], b1v, c1y, c1x, h⟩
 ·exact ⟨0, a1U, by first | rfl | rw [a0E b2V], a4s, fun _ _ _ => rfl, Hle.refl _, h.2 b2V⟩
 ·clear h
  rintro b6D v2 ⟨D6, Y3, rfl, b1v, c1y, c1x, h⟩
  refine a7 (Pu.g fun hb => by have a6 := hb; first | exact (d6 _ _ _ _ _ _) | (simp only [a8 a6]; exact (d6 _ _ _ _ _ _)) | (simp only [b7 a6, a8 a6, a8 hb, c9 a6, d9]; exact (d6 _ _ _ _ _ _))) ?_
  refine a7 (k7 _ _) ?_
  refine L2 (D := fun b8o a6o => ∃ (W0 : g5) (V7 : Hp) , b8o = (gv (((((decide (a0w = 0)) && (decide (a2r = 0))) && (decide (o6 = 3))) && (decide (E7 = 5))) && (decide (D6 = 30))) true (Value.agg (d7 W0).toArray)) ∧ (Inv w0 ps0 H0 V7 [] a6o) ∧ (∀ i, i < v2.heap.size → ¬ inF [] i → a6o.heap[i]? = v2.heap[i]?) ∧ Hle Y3 V7 ∧ (TG ((((((decide (a0w = 0)) && (decide (a2r = 0))) && (decide (o6 = 3))) && (decide (E7 = 5))) && (decide (D6 = 30))) = true) (G2 V7) (g5.mk (Sl.mk none 0 0) (Sl.mk none 0 0)) V7 (fun (a7V : g5) (a3h : Hp) =>
 TG ((((((decide (a0w = 0)) && (decide (a2r = 0))) && (decide (o6 = 3))) && (decide (E7 = 5))) && (decide (D6 = 30))) = true) (a0l W0 a7V a3h) false a3h (fun (a5F : Bool) (a6U : Hp) =>
 K ((((((decide (a0w = 0)) && (decide (a2r = 0))) && (decide (o6 = 3))) && (decide (E7 = 5))) && (decide (D6 = 30))) && a5F) a6U)))) (fun c1z => ?_) (fun c1z => ?_) ?_
  ·replace h := h.1 c1z
   have a6 := c1z
   try simp only [a8 a6]
   refine f8 (cap := []) (fun args w => Tryd.call50 args w) ?_
   refine i6 (Fi := []) (Fr := []) b1v (h) (fun b8o V7 g1W a6o b1w b8p c4S d5e => ?_) (fun _ _ _ _ _ q => q.elim)
   obtain ⟨W0, rfl, rfl, h⟩ := d5e
   exact ⟨W0, V7, by first | rfl | rw [a8 c1z], b1w, c4S, b8p, h⟩
  ·exact ⟨(g5.mk (Sl.mk none 0 0) (Sl.mk none 0 0)), Y3, by first | rfl | rw [a0E c1z], b1v, fun _ _ _ => rfl, Hle.refl _, h.2 c1z⟩
  ·clear h
   rintro b8o a6o ⟨W0, V7, rfl, b1w, c4S, b8p, h⟩
   refine L2 (D := fun d5f L4 => ∃ (a7V : g5) (a3h : Hp) , d5f = (gv (((((decide (a0w = 0)) && (decide (a2r = 0))) && (decide (o6 = 3))) && (decide (E7 = 5))) && (decide (D6 = 30))) true (Value.agg (d7 a7V).toArray)) ∧ (Inv w0 ps0 H0 a3h [] L4) ∧ (∀ i, i < a6o.heap.size → ¬ inF [] i → L4.heap[i]? = a6o.heap[i]?) ∧ Hle V7 a3h ∧ (TG ((((((decide (a0w = 0)) && (decide (a2r = 0))) && (decide (o6 = 3))) && (decide (E7 = 5))) && (decide (D6 = 30))) = true) (a0l W0 a7V a3h) false a3h (fun (a5F : Bool) (a6U : Hp) =>
 K ((((((decide (a0w = 0)) && (decide (a2r = 0))) && (decide (o6 = 3))) && (decide (E7 = 5))) && (decide (D6 = 30))) && a5F) a6U))) (fun c1A => ?_) (fun c1A => ?_) ?_
   ·replace h := h.1 c1A
    have a6 := c1A
    try simp only [a8 a6]
    refine f8 (cap := []) (fun args w => Tryd.call50 args w) ?_
    refine i6 (Fi := []) (Fr := []) b1w (h) (fun d5f a3h f0X L4 b8q c9A d5g g1X => ?_) (fun _ _ _ _ _ q => q.elim)
    obtain ⟨a7V, rfl, rfl, h⟩ := g1X
    exact ⟨a7V, a3h, by first | rfl | rw [a8 c1A], b8q, d5g, c9A, h⟩
   ·exact ⟨(g5.mk (Sl.mk none 0 0) (Sl.mk none 0 0)), V7, by first | rfl | rw [a0E c1A], b1w, fun _ _ _ => rfl, Hle.refl _, h.2 c1A⟩
   ·clear h
    rintro d5f L4 ⟨a7V, a3h, rfl, b8q, d5g, c9A, h⟩
    refine L2 (D := fun d5h b6f => ∃ (a5F : Bool) (a6U : Hp) , d5h = (gv (((((decide (a0w = 0)) && (decide (a2r = 0))) && (decide (o6 = 3))) && (decide (E7 = 5))) && (decide (D6 = 30))) true (Value.bool a5F)) ∧ (Inv w0 ps0 H0 a6U [] b6f) ∧ (∀ i, i < L4.heap.size → ¬ inF [] i → b6f.heap[i]? = L4.heap[i]?) ∧ Hle a3h a6U ∧ (K ((((((decide (a0w = 0)) && (decide (a2r = 0))) && (decide (o6 = 3))) && (decide (E7 = 5))) && (decide (D6 = 30))) && a5F) a6U)) (fun c1B => ?_) (fun c1B => ?_) ?_
    ·replace h := h.1 c1B
     have a6 := c1B
     try simp only [a8 a6]
     refine f8 (cap := []) (fun args w => Tryd.call15 args w) ?_
     refine i6 (Fi := []) (Fr := []) b8q (h) (fun d5h a6U g6Z b6f c4T f0Y d5i g1Y => ?_) (fun _ _ _ _ _ q => q.elim)
     obtain ⟨a5F, rfl, rfl, h⟩ := g1Y
     exact ⟨a5F, a6U, by first | rfl | rw [a8 c1B], c4T, d5i, f0Y, h⟩
    ·exact ⟨false, a3h, by first | rfl | rw [a0E c1B], b8q, fun _ _ _ => rfl, Hle.refl _, h.2 c1B⟩
    ·clear h
     rintro d5h b6f ⟨a5F, a6U, rfl, c4T, d5i, f0Y, h⟩
     refine a7 (k7 _ _) ?_
     exact hR ((((((decide (a0w = 0)) && (decide (a2r = 0))) && (decide (o6 = 3))) && (decide (E7 = 5))) && (decide (D6 = 30))) && a5F) a6U _ c4T h
theorem b0m {H : Hp} {K : Bool → Hp → Prop} (h : a0Q H K) : a3b H K := by
 intro w I
 refine e3M ?_
 refine a9P I (fun r0 H' w' I' hk => ⟨H', _, I', r0, rfl, rfl, hk⟩) h
def L8 (b7k : Bool) (cr_6j2 : G8) (_cr_1j2 : M4) (H : Hp) (K : Bool → Hp → Prop) : Prop :=
 (b7k = true →
 K (decide (cr_6j2.fexprs = 0 ∧ cr_6j2.fparts = 2)) H) ∧
 (b7k = false →
 K false H)
def L9 (a6e : Int) (b7l : Bool) (cr_6j1 : G8) (cr_1j1 : M4) (H : Hp) (K : Bool → Hp → Prop) : Prop :=
 (b7l = true →
 K (decide (cr_6j1.fexprs = 0 ∧ cr_6j1.fparts = 0)) H) ∧
 (b7l = false →
 (a6e = 4 →
 K (decide (cr_6j1.fexprs = 0 ∧ cr_6j1.fparts = 1)) H) ∧
 (¬ (a6e = 4) →
 (a6e = 5 →
 L8 (decide (a6e = 5)) cr_6j1 cr_1j1 H K) ∧
 (¬ (a6e = 5) →
 L8 (decide (a6e = 6)) cr_6j1 cr_1j1 H K)))
def a1G (x0 : M4) (H : Hp) (K : Bool → Hp → Prop) : Prop :=
 (x0.k5.b9 = 3 →
 K (((decide (1 ≤ x0.k5.fOp)) && (decide (x0.k5.fOp ≤ 6))) && (decide ((x0.k5.f9.n : Int) = 2 ∧ (x0.k5.o5.n : Int) = 0))) H) ∧
 (¬ (x0.k5.b9 = 3) →
 (¬ (x0.k5.fOp = 0) →
 K false H) ∧
 (x0.k5.fOp = 0 →
 (x0.k5.b9 = 1 →
 L9 x0.k5.b9 (decide (x0.k5.b9 = 1)) (G8.mk (x0.k5.f9.n : Int) (x0.k5.o5.n : Int)) x0 H K) ∧
 (¬ (x0.k5.b9 = 1) →
 L9 x0.k5.b9 (decide (x0.k5.b9 = 2)) (G8.mk (x0.k5.f9.n : Int) (x0.k5.o5.n : Int)) x0 H K)))
theorem b1x (x0 : M4) {w0 w : World} {ps0 : Nat → Prop} {H0 H : Hp} {K : Bool → Hp → Prop} {R : Value → World → Prop} {E : Pan} (I : Inv w0 ps0 H0 H [] w) (hR : ∀ (r0 : Bool) (H' : Hp) (w' : World) (_ : Inv w0 ps0 H0 H' [] w') (_ : K r0 H'), R (Value.bool r0) w') (h : a1G x0 H K) : c9o (Value.agg (f7 x0.k5).toArray) w R E := by
 unfold a1G at h
 unfold c9o
 refine G7 I (cs := (f7 x0.k5)) rfl fun g_2 w_3 I_4 k_5 => ?_
 refine a7 a0m ?_
 refine a7 M8 ?_
 refine c7 (ld1 Tryd.isAgg28 (I_4.at1 (o := 2) (vs := [(vs x0.k5.f9)]) (nb rfl) rfl)) ?_
 refine a7 (F5 _ _ _) ?_
 refine a7 a0m ?_
 refine a7 M9 ?_
 refine c7 (ld1 Tryd.isAgg31 (I_4.at1 (o := 3) (vs := [(vs x0.k5.o5)]) (nb rfl) rfl)) ?_
 refine a7 (O9 _ _ _) ?_
 refine a7 (a3s _ _) ?_
 refine L5 I_4 Tryd.zeroValue209 (cs := [(vi 0), (vi 0)]) rfl fun g_7 w_8 I_9 b6z => ?_
 refine u1 I_9 Tryd.sizeOf209 (vs := [(vi (x0.k5.f9.n : Int)), (vi (x0.k5.o5.n : Int))]) (cs' := [(vi (x0.k5.f9.n : Int)), (vi (x0.k5.o5.n : Int))]) rfl rfl (nb rfl) rfl rfl fun Y2 G6 b4o => ?_
 refine a7 a0m ?_
 refine a7 a6a ?_
 refine c7 (ld1 Tryd.isAgg3 ((G6.bring 1).at1 (o := 0) (vs := [(vi x0.k5.b9)]) (nb rfl) rfl)) ?_
 refine a7 (d6 _ _ _ _ _ _) ?_
 refine g9 (fun b1y => ?_) (fun b1y => ?_)
 ·replace h := h.1 b1y
  refine a7 a0m ?_
  refine a7 P3 ?_
  refine c7 (ld1 Tryd.isAgg3 ((G6.bring 1).at1 (o := 1) (vs := [(vi x0.k5.fOp)]) (nb rfl) rfl)) ?_
  refine a7 (a1d _ _ _ _ _ _) ?_
  refine a7 (Pu.g fun hb => by have a6 := hb; first | exact a0m | (simp only [b7 a6, a8 a6, a8 hb, l9 a6]; exact a0m) | (simp only [b7 a6, a8 a6, a8 hb, c9 a6, d9]; exact a0m)) ?_
  refine a7 (Pu.g fun hb => by have a6 := hb; first | exact P3 | (simp only [a8 a6]; exact P3) | (simp only [b7 a6, a8 a6, a8 hb, c9 a6, d9]; exact P3)) ?_
  refine c7 (Ld.g fun hb => by have a6 := hb; first | exact (ld1 Tryd.isAgg3 ((G6.bring 1).at1 (o := 1) (vs := [(vi x0.k5.fOp)]) (nb rfl) rfl)) | (simp only [a8 a6]; exact (ld1 Tryd.isAgg3 ((G6.bring 1).at1 (o := 1) (vs := [(vi x0.k5.fOp)]) (nb rfl) rfl))) | (simp only [b7 a6, a8 a6, a8 hb, c9 a6, d9]; exact (ld1 Tryd.isAgg3 ((G6.bring 1).at1 (o := 1) (vs := [(vi x0.k5.fOp)]) (nb rfl) rfl)))) ?_
  refine a7 (Pu.g fun hb => by have a6 := hb; first | exact (a0N _ _ _ _ _ _) | (simp only [a8 a6]; exact (a0N _ _ _ _ _ _)) | (simp only [b7 a6, a8 a6, a8 hb, c9 a6, d9]; exact (a0N _ _ _ _ _ _))) ?_
  refine a7 (k7 _ _) ?_
  refine c7 (Ld.g fun hb => by have a6 := hb; first | exact (ldA Tryd.isAgg209 Tryd.sizeOf209 rfl (G6.at1 (o := 0) (vs := [(vi (x0.k5.f9.n : Int)), (vi (x0.k5.o5.n : Int))]) (nb rfl) rfl)) | (simp only [b7 a6, a8 a6, a8 hb, l9 a6]; exact (ldA Tryd.isAgg209 Tryd.sizeOf209 rfl (G6.at1 (o := 0) (vs := [(vi (x0.k5.f9.n : Int)), (vi (x0.k5.o5.n : Int))]) (nb rfl) rfl))) | (simp only [b7 a6, a8 a6, a8 hb, c9 a6, d9]; exact (ldA Tryd.isAgg209 Tryd.sizeOf209 rfl (G6.at1 (o := 0) (vs := [(vi (x0.k5.f9.n : Int)), (vi (x0.k5.o5.n : Int))]) (nb rfl) rfl)))) ?_
  refine a7 (Pu.g fun hb => by have a6 := hb; first | exact (a3s _ _) | (simp only [b7 a6, a8 a6, a8 hb, l9 a6]; exact (a3s _ _)) | (simp only [b7 a6, a8 a6, a8 hb, c9 a6, d9]; exact (a3s _ _))) ?_
  refine a7 (Pu.g fun hb => by have a6 := hb; first | exact (a7q _ _ _ _ _ _) | (simp only [a8 a6]; exact (a7q _ _ _ _ _ _)) | (simp only [b7 a6, a8 a6, a8 hb, c9 a6, d9]; exact (a7q _ _ _ _ _ _))) ?_
  refine a7 (k7 _ _) ?_
  exact hR (((decide (1 ≤ x0.k5.fOp)) && (decide (x0.k5.fOp ≤ 6))) && (decide ((x0.k5.f9.n : Int) = 2 ∧ (x0.k5.o5.n : Int) = 0))) H _ G6.drop.drop h
 ·replace h := h.2 b1y
  refine a7 a0m ?_
  refine a7 P3 ?_
  refine c7 (ld1 Tryd.isAgg3 ((G6.bring 1).at1 (o := 1) (vs := [(vi x0.k5.fOp)]) (nb rfl) rfl)) ?_
  refine a7 (u7 _ _ _ _ _ _) ?_
  refine a2H (fun b1z => ?_) (fun b1z => ?_)
  ·replace h := h.1 b1z
   exact hR false H _ G6.drop.drop h
  ·replace h := h.2 b1z
   refine a7 a0m ?_
   refine a7 a6a ?_
   refine c7 (ld1 Tryd.isAgg3 ((G6.bring 1).at1 (o := 0) (vs := [(vi x0.k5.b9)]) (nb rfl) rfl)) ?_
   have hj1 : ∀ (b7l : Bool) (H : Hp) (w : World) (_ : Inv w0 ps0 H0 H [bx g_7 209 [(vi (G8.mk (x0.k5.f9.n : Int) (x0.k5.o5.n : Int)).fexprs), (vi (G8.mk (x0.k5.f9.n : Int) (x0.k5.o5.n : Int)).fparts)], bx g_2 106 (f7 x0.k5)] w) (_ : L9 x0.k5.b9 b7l (G8.mk (x0.k5.f9.n : Int) (x0.k5.o5.n : Int)) x0 H K), c1r (Value.pointer (some ⟨g_7, 0, none⟩)) (vi x0.k5.b9) (Value.bool b7l) w R E := by
    intro b7l H w I h
    unfold c1r
    intro _
    unfold L9 at h
    refine k9 (fun a3A => ?_) (fun a3A => ?_)
    ·replace h := h.1 a3A
     refine c7 (ldA Tryd.isAgg209 Tryd.sizeOf209 rfl (I.at1 (o := 0) (vs := [(vi (G8.mk (x0.k5.f9.n : Int) (x0.k5.o5.n : Int)).fexprs), (vi (G8.mk (x0.k5.f9.n : Int) (x0.k5.o5.n : Int)).fparts)]) (nb rfl) rfl)) ?_
     refine a7 (c8N ) ?_
     refine a7 (a7q _ _ _ _ _ _) ?_
     exact hR (decide ((G8.mk (x0.k5.f9.n : Int) (x0.k5.o5.n : Int)).fexprs = 0 ∧ (G8.mk (x0.k5.f9.n : Int) (x0.k5.o5.n : Int)).fparts = 0)) H _ I.drop.drop h
    ·replace h := h.2 a3A
     refine a7 (d6 _ _ _ _ _ _) ?_
     refine g9 (fun b1A => ?_) (fun b1A => ?_)
     ·replace h := h.1 b1A
      refine c7 (ldA Tryd.isAgg209 Tryd.sizeOf209 rfl (I.at1 (o := 0) (vs := [(vi (G8.mk (x0.k5.f9.n : Int) (x0.k5.o5.n : Int)).fexprs), (vi (G8.mk (x0.k5.f9.n : Int) (x0.k5.o5.n : Int)).fparts)]) (nb rfl) rfl)) ?_
      refine a7 (a3s _ _) ?_
      refine a7 (a7q _ _ _ _ _ _) ?_
      exact hR (decide ((G8.mk (x0.k5.f9.n : Int) (x0.k5.o5.n : Int)).fexprs = 0 ∧ (G8.mk (x0.k5.f9.n : Int) (x0.k5.o5.n : Int)).fparts = 1)) H _ I.drop.drop h
     ·replace h := h.2 b1A
      have hj2 : ∀ (b7k : Bool) (H : Hp) (w : World) (_ : Inv w0 ps0 H0 H [bx g_7 209 [(vi (G8.mk (x0.k5.f9.n : Int) (x0.k5.o5.n : Int)).fexprs), (vi (G8.mk (x0.k5.f9.n : Int) (x0.k5.o5.n : Int)).fparts)], bx g_2 106 (f7 x0.k5)] w) (_ : L8 b7k (G8.mk (x0.k5.f9.n : Int) (x0.k5.o5.n : Int)) x0 H K), c1q (Value.pointer (some ⟨g_7, 0, none⟩)) (Value.bool b7k) w R E := by
       intro b7k H w I h
       unfold c1q
       intro _
       unfold L8 at h
       refine k9 (fun b1B => ?_) (fun b1B => ?_)
       ·replace h := h.1 b1B
        refine c7 (ldA Tryd.isAgg209 Tryd.sizeOf209 rfl (I.at1 (o := 0) (vs := [(vi (G8.mk (x0.k5.f9.n : Int) (x0.k5.o5.n : Int)).fexprs), (vi (G8.mk (x0.k5.f9.n : Int) (x0.k5.o5.n : Int)).fparts)]) (nb rfl) rfl)) ?_
        refine a7 (a3s _ _) ?_
        refine a7 (a7q _ _ _ _ _ _) ?_
        exact hR (decide ((G8.mk (x0.k5.f9.n : Int) (x0.k5.o5.n : Int)).fexprs = 0 ∧ (G8.mk (x0.k5.f9.n : Int) (x0.k5.o5.n : Int)).fparts = 2)) H _ I.drop.drop h
       ·replace h := h.2 b1B
        exact hR false H _ I.drop.drop h
      refine p9 fun j2 hx2 => ?_
      refine a7 (d6 _ _ _ _ _ _) ?_
      refine g9 (fun a5j => ?_) (fun a5j => ?_)
      ·replace h := h.1 a5j
       exact hx2 _ _ (hj2 (decide (x0.k5.b9 = 5)) H _ ((I.bring 1).bring 1) h)
      ·replace h := h.2 a5j
       refine a7 (d6 _ _ _ _ _ _) ?_
       exact hx2 _ _ (hj2 (decide (x0.k5.b9 = 6)) H _ ((I.bring 1).bring 1) h)
   refine p9 fun j1 hx1 => ?_
   refine a7 (d6 _ _ _ _ _ _) ?_
   refine g9 (fun a0K => ?_) (fun a0K => ?_)
   ·replace h := h.1 a0K
    exact hx1 _ _ (hj1 (decide (x0.k5.b9 = 1)) H _ ((G6.bring 1).bring 1) h)
   ·replace h := h.2 a0K
    refine a7 (d6 _ _ _ _ _ _) ?_
    exact hx1 _ _ (hj1 (decide (x0.k5.b9 = 2)) H _ ((G6.bring 1).bring 1) h)
theorem b2r (x0 : M4) {H : Hp} {K : Bool → Hp → Prop} (h : a1G x0 H K) : a3T x0 H K := by
 intro w I
 refine e0O ?_
 refine b1x x0 I (fun r0 H' w' I' hk => ⟨H', _, I', r0, rfl, rfl, hk⟩) h
def z2 (a1l : (List c8)) (H : Hp) (K : Sl → Hp → Prop) : Prop :=
 ∀ (I4 : Sl) (a1V : Hp), Hle H a1V → SlH a1V 1 o8 I4 a1l → I4.n ≤ I4.c →
 K I4 a1V
def z6 (a2V : Sl) (a7W : Int) (w3 : (List c8)) (t8 : Int) (H : Hp) (n2 : ((List c8) × Int) → Hp → Prop) (K : Sl → Hp → Prop) : Prop :=
 (t8 < a7W →
 (0 : Int) ≤ t8 ∧ (t8 : Int) < a2V.n ∧ ∃ x_1 : k4, EltH H a2V t8 4 (f7 x_1) ∧
 a7T x_1 H (fun (W1 : c8) (a1W : Hp) =>
 (w3.length + ([W1] : List c8).length) * 17 ≤ 140737488355328 ∧
 n2 ((w3 ++ [W1]), (IntKind.wrap .i64 (t8 + 1))) a1W)) ∧
 (¬ (t8 < a7W) →
 z2 w3 H K)
def B4 (x0 : Sl) (H : Hp) (K : Sl → Hp → Prop) : Prop :=
 TL (([], 0) : (List c8) × Int) H fun (s : (List c8) × Int) H n2 => z6 x0 (x0.n : Int) s.1 s.2 H n2 K
theorem a1M (x0 : Sl) {w0 w : World} {ps0 : Nat → Prop} {H0 H : Hp} {K : Sl → Hp → Prop} {R : Value → World → Prop} {E : Pan} (I : Inv w0 ps0 H0 H [] w) (hR : ∀ (r0 : Sl) (H' : Hp) (w' : World) (_ : Inv w0 ps0 H0 H' [] w') (_ : K r0 H'), R (vs r0) w') (h : B4 x0 H K) : c9r (vs x0) (Value.func (.func 155) #[] #[]) w R E := by
 unfold B4 at h
 unfold c9r
 have hj1 : ∀ (a1l : (List c8)) (I4 : Sl) (Fs5j1 : Frag) (H : Hp) (w : World) (_ : RowL 141 1 o8 I4 a1l Fs5j1) (_ : Inv w0 ps0 H0 H [Fs5j1] w) (_ : z2 a1l H K), c1s (vs I4) w R E := by
  intro a1l I4 Fs5j1 H w b4r I h
  unfold c1s
  intro _
  unfold z2 at h
  obtain ⟨a1V, a4t, b6E, b8r, b1C⟩ := Inv.freezeC I b4r (by decide)
  replace h := h I4 a1V b6E b8r b1C
  exact hR I4 a1V _ a4t h
 refine p9 fun j1 hx1 => ?_
 refine a7 (O9 _ _ _) ?_
 obtain ⟨a6V, a3B, b8s, a4u⟩ := h
 refine v6 (J := fun n l w => ∃ (s : (List c8) × Int) (H : Hp) (a1m : Sl) (Fs5l2 : Frag) , n = a3B s ∧ l = (match s with | (w3, t8) => [(vs a1m), (vi t8)]) ∧ (match s with | (w3, t8) => RowL 141 1 o8 a1m w3 Fs5l2) ∧ (match s with | (w3, t8) => Inv w0 ps0 H0 H [Fs5l2] w) ∧ a6V s H) ⟨_, ([], 0), H, (Sl.mk none 0 0), [], rfl, rfl, (RowL.nil L6 P5), I.nil, b8s⟩ ?_
 rintro d5j τ_50 w next2 ⟨⟨w3, t8⟩, H, a1m, Fs5l2, rfl, a6W, a5k, I, b8t⟩ hn2
 dsimp only at a6W I a5k
 simp only [List.map_cons, List.map_nil, List.cons.injEq, and_true] at a6W
 obtain ⟨e5, e10⟩ := a6W
 simp only [e5, e10]
 obtain ⟨n2, hm2, h⟩ : ∃ n2 : ((List c8) × Int) → Hp → Prop, (∀ s' H', n2 s' H' → a6V s' H' ∧ a3B s' < a3B (w3, t8)) ∧ z6 x0 (x0.n : Int) w3 t8 H n2 K := ⟨_, fun _ _ h => h, a4u (w3, t8) H (fun s' H' => a6V s' H' ∧ a3B s' < a3B (w3, t8)) b8t (fun _ _ a b => ⟨a, b⟩)⟩
 unfold c7X
 unfold z6 at h
 refine a7 (r8 _ _ _ _ _ _) ?_
 refine g9 (fun a5l => ?_) (fun a5l => ?_)
 ·replace h := h.1 a5l
  obtain ⟨h_4, h_5, x_1, h_7, h⟩ := h
  obtain ⟨g_2, o_3, h_6, h_7⟩ := h_7
  refine a7 (a4X h_6 _ _ _ _ h_4 h_5) ?_
  refine c7 (ldA (vs := (f7 x_1)) Tryd.isAgg33 Tryd.sizeOf33 rfl (I.atH h_7)) ?_
  refine L5 I Tryd.zeroValue33 (cs := [(vi 0), (vi 0), (Value.slice none 0 0), (Value.slice none 0 0)]) rfl fun g_9 m1 a0Y a8S => ?_
  refine u1 a0Y Tryd.sizeOf33 (vs := (f7 x_1)) (cs' := (f7 x_1)) rfl rfl (nb rfl) rfl rfl fun V5 T2 b2T => ?_
  refine c7 (ldA Tryd.isAgg33 Tryd.sizeOf33 rfl (T2.at1 (o := 0) (vs := (f7 x_1)) (nb rfl) rfl)) ?_
  refine f8 (cap := []) (fun args w => Tryd.call155 args w) ?_
  refine i6 (Fi := []) (Fr := [bx g_9 33 (f7 x_1), Fs5l2]) T2 (h) (fun c9B a1W c9C a5c a4v c9D c1C b4s => ?_) (fun _ _ _ _ _ q => q.elim)
  obtain ⟨W1, rfl, rfl, h⟩ := b4s
  refine a6l (e := 141) (c := o8) (xs := [W1]) a4v (b3l _) rfl rfl L6 P5 (nb rfl) fun b4t b8u v8 b1D a4s b6C => ?_
  obtain ⟨b4u, h⟩ := h
  refine b5M (s := a1m) (xs := w3) (a4s.bring 2) a5k (b1D.srcO ((a4s.bring 2).bring 1)) b4u fun b8v b4q A8 a8U a9Q c9E => ?_
  refine a7 (q8 _ _ _ _ _ _) ?_
  exact hn2 _ _ _ (hm2 _ _ h).2 ⟨((w3 ++ [W1]), (IntKind.wrap .i64 (t8 + 1))), a1W, b8v, b4q, rfl, rfl, a8U, ((a9Q.bring 1).drop.bring 1).drop, (hm2 _ _ h).1⟩
 ·replace h := h.2 a5l
  exact hx1 _ _ (hj1 w3 a1m Fs5l2 H _ a5k I h)
theorem a1X (x0 : Sl) {H : Hp} {K : Sl → Hp → Prop} (h : B4 x0 H K) : B3 x0 H K := by
 intro w I
 refine e0S ?_
 refine a1M x0 I (fun r0 H' w' I' hk => ⟨H', _, I', r0, rfl, rfl, hk⟩) h
def a1o (x0 : M4) (H : Hp) (K : Sl → Hp → Prop) : Prop :=
 u4 x0.k5.f9 H (fun (a7X : Sl) (H_8 : Hp) =>
 B3 x0.k5.o5 H_8 (fun (a7Y : Sl) (b6F : Hp) =>
 ∀ (a8V : Sl) (a7Z : Hp), Hle b6F a7Z → SlH a7Z 1 csl a8V [a7X, a7Y] → a8V.n ≤ a8V.c →
 A7 a8V a7Z (fun (K8 : Sl) (Q3 : Hp) =>
 K K8 Q3)))
theorem b0n (x0 : M4) {w0 w : World} {ps0 : Nat → Prop} {H0 H : Hp} {K : Sl → Hp → Prop} {R : Value → World → Prop} {E : Pan} (I : Inv w0 ps0 H0 H [] w) (hR : ∀ (r0 : Sl) (H' : Hp) (w' : World) (_ : Inv w0 ps0 H0 H' [] w') (_ : K r0 H'), R (vs r0) w') (h : a1o x0 H K) : c9q (Value.agg (f7 x0.k5).toArray) w R E := by
 unfold a1o at h
 unfold c9q
 refine G7 I (cs := (f7 x0.k5)) rfl fun g_2 w_3 I_4 k_5 => ?_
 refine a9L I_4 fun w_6 I_7 => ?_
 refine D5 a0m ?_
 refine D5 M8 ?_
 refine D5 a0m ?_
 refine D5 M9 ?_
 refine a1b (ld1 Tryd.isAgg28 (I_7.at1 (o := 2) (vs := [(vs x0.k5.f9)]) (nb rfl) rfl)) ?_
 refine a1b (ld1 Tryd.isAgg31 (I_7.at1 (o := 3) (vs := [(vs x0.k5.o5)]) (nb rfl) rfl)) ?_
 refine f8 (cap := []) (fun args w => Tryd.call150 args w) ?_
 refine i6 (Fi := []) (Fr := [bx g_2 106 (f7 x0.k5)]) I_7 (h) (fun f0Z H_8 f1a w_9 b4v c1D b8w c4U => ?_) (fun _ _ _ _ _ q => q.elim)
 obtain ⟨a7X, rfl, rfl, h⟩ := c4U
 refine ⟨(b8w _ I_7.lt1 (Inv.a7y (Fi := []) I_7)), ?_⟩
 refine f8 (cap := []) (fun args w => Tryd.call154 args w) ?_
 refine i6 (Fi := []) (Fr := [bx g_2 106 (f7 x0.k5)]) b4v (h) (fun f1b b6F f1c r6 b1E f1d c1E c4V => ?_) (fun _ _ _ _ _ q => q.elim)
 obtain ⟨a7Y, rfl, rfl, h⟩ := c4V
 refine a6l (e := 97) (c := csl) (xs := [a7X, a7Y]) b1E (c3y _ _ _ _ _ _) rfl rfl c2T c2U (nb rfl) fun a8V f1e a8R d5k a1p b4w => ?_
 obtain ⟨a7Z, d5l, b4j, b1F, b4x⟩ := Inv.freezeC a1p d5k (by decide)
 replace h := h a8V a7Z b4j b1F b4x
 refine f8 (cap := []) (fun args w => Tryd.call94 args w) ?_
 refine i6 (Fi := []) (Fr := [bx g_2 106 (f7 x0.k5)]) d5l (h) (fun b2W Q3 c9F a7J a4t a9R b6G b4y => ?_) (fun _ _ _ _ _ q => q.elim)
 obtain ⟨K8, rfl, rfl, h⟩ := b4y
 exact hR K8 Q3 _ a4t.drop h
theorem b1G (x0 : M4) {H : Hp} {K : Sl → Hp → Prop} (h : a1o x0 H K) : a5O x0 H K := by
 intro w I
 refine e0Q ?_
 refine b0n x0 I (fun r0 H' w' I' hk => ⟨H', _, I', r0, rfl, rfl, hk⟩) h
end Go.Proofs.YthldnpmfelniiaaDoor
