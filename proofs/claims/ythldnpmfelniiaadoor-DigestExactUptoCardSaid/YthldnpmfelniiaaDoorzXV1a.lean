/- Typed formulas of the program's functions, and the theorems that the contracts follow from them; printed by lift.py off the code. -/
import Derived.Test.YthldnpmfelniiaaDoorzXV1
namespace Go.Proofs.YthldnpmfelniiaaDoor
open Go.RowKit
set_option maxRecDepth 100000
set_option maxHeartbeats 2000000
def a2Q (x0 : E8) (H : Hp) (K : c8 → Hp → Prop) : Prop :=
 K (c8.G2 (N8.mk x0)) H
theorem b3e (x0 : E8) {w0 w : World} {ps0 : Nat → Prop} {H0 H : Hp} {K : c8 → Hp → Prop} {R : Value → World → Prop} {E : Pan} (I : Inv w0 ps0 H0 H [] w) (hR : ∀ (r0 : c8) (H' : Hp) (w' : World) (_ : Inv w0 ps0 H0 H' [] w') (_ : K r0 H'), R (u0 r0) w') (h : a2Q x0 H K) : F96 (Value.agg (p5 x0).toArray) w R E := by
 unfold a2Q at h
 unfold F96
 refine J4 I (cs := (p5 x0)) rfl fun g_2 w_3 I_4 k_5 => ?_
 refine c5 (ldA Tryd.isAgg67 Tryd.sizeOf67 rfl (I_4.at1 (o := 0) (vs := (p5 x0)) (nb rfl) rfl)) ?_
 refine a7 (c2W _ _) ?_
 refine a7 (c0J (N8.mk x0)) ?_
 exact hR (c8.G2 (N8.mk x0)) H _ I_4.drop h
theorem b3P (x0 : E8) {H : Hp} {K : c8 → Hp → Prop} (h : a2Q x0 H K) : a7S x0 H K := by
 intro w I
 refine e7X ?_
 refine b3e x0 I (fun r0 H' w' I' hk => ⟨H', _, I', r0, rfl, rfl, hk⟩) h
def a4I (x0 : Int) (x1 : Int) (x2 : Int) (H : Hp) (K : Bool → Hp → Prop) : Prop :=
 K ((decide (x0 ≤ x2)) && (decide (x2 ≤ x1))) H
theorem b2F (x0 : Int) (x1 : Int) (x2 : Int) (g2 : Nat) {w0 w : World} {ps0 : Nat → Prop} {H0 H : Hp} {K : Bool → Hp → Prop} {R : Value → World → Prop} {E : Pan} (I : Inv w0 ps0 H0 H [bx g2 21 [(Value.int .i32 x2)]] w) (hR : ∀ (r0 : Bool) (H' : Hp) (w' : World) (_ : Inv w0 ps0 H0 H' [bx g2 21 [(Value.int .i32 x2)]] w') (_ : K r0 H'), R (Value.bool r0) w') (h : a4I x0 x1 x2 H K) : c9p (Value.int .i32 x0) (Value.int .i32 x1) (Value.pointer (some ⟨g2, 0, none⟩)) w R E := by
 unfold a4I at h
 unfold c9p
 refine c5 (ld1 Tryd.isAgg21 (I.at1 (o := 0) (vs := [(Value.int .i32 x2)]) (nb rfl) rfl)) ?_
 refine a7 (a0A _ _ _ _ _ _) ?_
 refine c5 (Ld.g fun hb => by have a8 := hb; first | exact (ld1 Tryd.isAgg21 (I.at1 (o := 0) (vs := [(Value.int .i32 x2)]) (nb rfl) rfl)) | (simp only [b9 a8, b6 a8, b6 hb, o7 a8]; exact (ld1 Tryd.isAgg21 (I.at1 (o := 0) (vs := [(Value.int .i32 x2)]) (nb rfl) rfl))) | (simp only [b9 a8, b6 a8, b6 hb, d8 a8, f8]; exact (ld1 Tryd.isAgg21 (I.at1 (o := 0) (vs := [(Value.int .i32 x2)]) (nb rfl) rfl)))) ?_
 try simp only [m1]
 refine a7 (Pu.g fun hb => by have a8 := hb; first | exact (a0A _ _ _ _ _ _) | (simp only [b6 a8]; exact (a0A _ _ _ _ _ _)) | (simp only [b9 a8, b6 a8, b6 hb, d8 a8, f8]; exact (a0A _ _ _ _ _ _))) ?_
 refine a7 (m3 _ _) ?_
 exact hR ((decide (x0 ≤ x2)) && (decide (x2 ≤ x1))) H _ I h
theorem b3f (x0 : Int) (x1 : Int) (x2 : Int) {H : Hp} {K : Bool → Hp → Prop} (h : a4I x0 x1 x2 H K) : F8 x0 x1 x2 H K := by
 intro g2 w I
 refine e1S ?_
 refine b2F x0 x1 x2 g2 I (fun r0 H' w' I' hk => ⟨H', _, I', r0, rfl, rfl, hk⟩) h
def a4r (x0 : ByteArray) (H : Hp) (K : Bool → Hp → Prop) : Prop :=
 a0w x0 H (fun (I0 : Int) (H_1 : Hp) =>
 K (decide (32 < I0)) H_1)
theorem b5U (x0 : ByteArray) {w0 w : World} {ps0 : Nat → Prop} {H0 H : Hp} {K : Bool → Hp → Prop} {R : Value → World → Prop} {E : Pan} (I : Inv w0 ps0 H0 H [] w) (hR : ∀ (r0 : Bool) (H' : Hp) (w' : World) (_ : Inv w0 ps0 H0 H' [] w') (_ : K r0 H'), R (Value.bool r0) w') (h : a4r x0 H K) : c9i (Value.string x0) w R E := by
 unfold a4r at h
 unfold c9i
 refine f6 (cap := []) (fun args w => Tryd.call130 args w) ?_
 refine i6 (Fi := []) (Fr := []) I (h) (fun v_5 H_1 F_6 w_2 I_3 l_8 k_4 q_7 => ?_) (fun _ _ _ _ _ q => q.elim)
 obtain ⟨I0, rfl, rfl, h⟩ := q_7
 refine a7 (a2H _ _ _ _ _ _) ?_
 exact hR (decide (32 < I0)) H_1 _ I_3 h
theorem b7n (x0 : ByteArray) {H : Hp} {K : Bool → Hp → Prop} (h : a4r x0 H K) : a4p x0 H K := by
 intro w I
 refine e1G ?_
 refine b5U x0 I (fun r0 H' w' I' hk => ⟨H', _, I', r0, rfl, rfl, hk⟩) h
def l8 (m0 : Bool) (H : Hp) (K : Bool → Hp → Prop) : Prop :=
 (m0 = true →
 K true H) ∧
 (m0 = false →
 K false H)
def a4s (x0 : ByteArray) (H : Hp) (K : Bool → Hp → Prop) : Prop :=
 (x0 = ⟨#[118, 97, 114]⟩ →
 l8 (decide (x0 = ⟨#[118, 97, 114]⟩)) H K) ∧
 (¬ (x0 = ⟨#[118, 97, 114]⟩) →
 (x0 = ⟨#[97, 114, 114, 97, 121]⟩ →
 l8 (decide (x0 = ⟨#[97, 114, 114, 97, 121]⟩)) H K) ∧
 (¬ (x0 = ⟨#[97, 114, 114, 97, 121]⟩) →
 (x0 = ⟨#[105, 102]⟩ →
 l8 (decide (x0 = ⟨#[105, 102]⟩)) H K) ∧
 (¬ (x0 = ⟨#[105, 102]⟩) →
 (x0 = ⟨#[101, 108, 115, 101]⟩ →
 l8 (decide (x0 = ⟨#[101, 108, 115, 101]⟩)) H K) ∧
 (¬ (x0 = ⟨#[101, 108, 115, 101]⟩) →
 (x0 = ⟨#[119, 104, 105, 108, 101]⟩ →
 l8 (decide (x0 = ⟨#[119, 104, 105, 108, 101]⟩)) H K) ∧
 (¬ (x0 = ⟨#[119, 104, 105, 108, 101]⟩) →
 (x0 = ⟨#[97, 115, 115, 101, 114, 116]⟩ →
 l8 (decide (x0 = ⟨#[97, 115, 115, 101, 114, 116]⟩)) H K) ∧
 (¬ (x0 = ⟨#[97, 115, 115, 101, 114, 116]⟩) →
 (x0 = ⟨#[97, 115, 115, 117, 109, 101]⟩ →
 l8 (decide (x0 = ⟨#[97, 115, 115, 117, 109, 101]⟩)) H K) ∧
 (¬ (x0 = ⟨#[97, 115, 115, 117, 109, 101]⟩) →
 (x0 = ⟨#[115, 107, 105, 112]⟩ →
 l8 (decide (x0 = ⟨#[115, 107, 105, 112]⟩)) H K) ∧
 (¬ (x0 = ⟨#[115, 107, 105, 112]⟩) →
 (x0 = ⟨#[105, 110, 112, 117, 116]⟩ →
 l8 (decide (x0 = ⟨#[105, 110, 112, 117, 116]⟩)) H K) ∧
 (¬ (x0 = ⟨#[105, 110, 112, 117, 116]⟩) →
 (x0 = ⟨#[116, 114, 117, 101]⟩ →
 l8 (decide (x0 = ⟨#[116, 114, 117, 101]⟩)) H K) ∧
 (¬ (x0 = ⟨#[116, 114, 117, 101]⟩) →
 l8 (decide (x0 = ⟨#[102, 97, 108, 115, 101]⟩)) H K))))))))))
theorem b5V (x0 : ByteArray) {w0 w : World} {ps0 : Nat → Prop} {H0 H : Hp} {K : Bool → Hp → Prop} {R : Value → World → Prop} {E : Pan} (I : Inv w0 ps0 H0 H [] w) (hR : ∀ (r0 : Bool) (H' : Hp) (w' : World) (_ : Inv w0 ps0 H0 H' [] w') (_ : K r0 H'), R (Value.bool r0) w') (h : a4s x0 H K) : c9j (Value.string x0) w R E := by
 unfold a4s at h
 unfold c9j
 have hj1 : ∀ (m0 : Bool) (H : Hp) (w : World) (_ : Inv w0 ps0 H0 H [] w) (_ : l8 m0 H K), c0O (Value.bool m0) w R E := by
  intro m0 H w I h
  unfold c0O
  intro _
  unfold l8 at h
  refine k8 (fun c_1 => ?_) (fun c_1 => ?_)
  ·replace h := h.1 c_1
   exact hR true H _ I h
  ·replace h := h.2 c_1
   exact hR false H _ I h
 refine m6 fun j1 hx1 => ?_
 refine a7 (G8 _ _ _ _ _) ?_
 refine g6 (fun b0Z => ?_) (fun b0Z => ?_)
 ·replace h := h.1 b0Z
  exact hx1 _ _ (hj1 (decide (x0 = ⟨#[118, 97, 114]⟩)) H _ I h)
 ·replace h := h.2 b0Z
  refine a7 (G8 _ _ _ _ _) ?_
  refine g6 (fun b7N => ?_) (fun b7N => ?_)
  ·replace h := h.1 b7N
   exact hx1 _ _ (hj1 (decide (x0 = ⟨#[97, 114, 114, 97, 121]⟩)) H _ I h)
  ·replace h := h.2 b7N
   refine a7 (G8 _ _ _ _ _) ?_
   refine g6 (fun c_9 => ?_) (fun c_9 => ?_)
   ·replace h := h.1 c_9
    exact hx1 _ _ (hj1 (decide (x0 = ⟨#[105, 102]⟩)) H _ I h)
   ·replace h := h.2 c_9
    refine a7 (G8 _ _ _ _ _) ?_
    refine g6 (fun c_8 => ?_) (fun c_8 => ?_)
    ·replace h := h.1 c_8
     exact hx1 _ _ (hj1 (decide (x0 = ⟨#[101, 108, 115, 101]⟩)) H _ I h)
    ·replace h := h.2 c_8
     refine a7 (G8 _ _ _ _ _) ?_
     refine g6 (fun c_7 => ?_) (fun c_7 => ?_)
     ·replace h := h.1 c_7
      exact hx1 _ _ (hj1 (decide (x0 = ⟨#[119, 104, 105, 108, 101]⟩)) H _ I h)
     ·replace h := h.2 c_7
      refine a7 (G8 _ _ _ _ _) ?_
      refine g6 (fun c_6 => ?_) (fun c_6 => ?_)
      ·replace h := h.1 c_6
       exact hx1 _ _ (hj1 (decide (x0 = ⟨#[97, 115, 115, 101, 114, 116]⟩)) H _ I h)
      ·replace h := h.2 c_6
       refine a7 (G8 _ _ _ _ _) ?_
       refine g6 (fun c_5 => ?_) (fun c_5 => ?_)
       ·replace h := h.1 c_5
        exact hx1 _ _ (hj1 (decide (x0 = ⟨#[97, 115, 115, 117, 109, 101]⟩)) H _ I h)
       ·replace h := h.2 c_5
        refine a7 (G8 _ _ _ _ _) ?_
        refine g6 (fun c_4 => ?_) (fun c_4 => ?_)
        ·replace h := h.1 c_4
         exact hx1 _ _ (hj1 (decide (x0 = ⟨#[115, 107, 105, 112]⟩)) H _ I h)
        ·replace h := h.2 c_4
         refine a7 (G8 _ _ _ _ _) ?_
         refine g6 (fun c_3 => ?_) (fun c_3 => ?_)
         ·replace h := h.1 c_3
          exact hx1 _ _ (hj1 (decide (x0 = ⟨#[105, 110, 112, 117, 116]⟩)) H _ I h)
         ·replace h := h.2 c_3
          refine a7 (G8 _ _ _ _ _) ?_
          refine g6 (fun c_2 => ?_) (fun c_2 => ?_)
          ·replace h := h.1 c_2
           exact hx1 _ _ (hj1 (decide (x0 = ⟨#[116, 114, 117, 101]⟩)) H _ I h)
          ·replace h := h.2 c_2
           refine a7 (G8 _ _ _ _ _) ?_
           exact hx1 _ _ (hj1 (decide (x0 = ⟨#[102, 97, 108, 115, 101]⟩)) H _ I h)
theorem b7o (x0 : ByteArray) {H : Hp} {K : Bool → Hp → Prop} (h : a4s x0 H K) : a2I x0 H K := by
 intro w I
 refine e1I ?_
 refine b5V x0 I (fun r0 H' w' I' hk => ⟨H', _, I', r0, rfl, rfl, hk⟩) h
def J8 (b6Q : Bool) (cr_6j2 : D5) (_cr_1j2 : K3) (H : Hp) (K : Bool → Hp → Prop) : Prop :=
 (b6Q = true →
 K (decide (cr_6j2.fexprs = 0 ∧ cr_6j2.fparts = 2)) H) ∧
 (b6Q = false →
 K false H)
def J9 (a6b : Int) (b6R : Bool) (cr_6j1 : D5) (cr_1j1 : K3) (H : Hp) (K : Bool → Hp → Prop) : Prop :=
 (b6R = true →
 K (decide (cr_6j1.fexprs = 0 ∧ cr_6j1.fparts = 0)) H) ∧
 (b6R = false →
 (a6b = 4 →
 K (decide (cr_6j1.fexprs = 0 ∧ cr_6j1.fparts = 1)) H) ∧
 (¬ (a6b = 4) →
 (a6b = 5 →
 J8 (decide (a6b = 5)) cr_6j1 cr_1j1 H K) ∧
 (¬ (a6b = 5) →
 J8 (decide (a6b = 6)) cr_6j1 cr_1j1 H K)))
def a1w (x0 : K3) (H : Hp) (K : Bool → Hp → Prop) : Prop :=
 (x0.i7.c6 = 3 →
 K (((decide (1 ≤ x0.i7.fOp)) && (decide (x0.i7.fOp ≤ 6))) && (decide ((x0.i7.d7.n : Int) = 2 ∧ (x0.i7.l9.n : Int) = 0))) H) ∧
 (¬ (x0.i7.c6 = 3) →
 (¬ (x0.i7.fOp = 0) →
 K false H) ∧
 (x0.i7.fOp = 0 →
 (x0.i7.c6 = 1 →
 J9 x0.i7.c6 (decide (x0.i7.c6 = 1)) (D5.mk (x0.i7.d7.n : Int) (x0.i7.l9.n : Int)) x0 H K) ∧
 (¬ (x0.i7.c6 = 1) →
 J9 x0.i7.c6 (decide (x0.i7.c6 = 2)) (D5.mk (x0.i7.d7.n : Int) (x0.i7.l9.n : Int)) x0 H K)))
theorem b1a (x0 : K3) {w0 w : World} {ps0 : Nat → Prop} {H0 H : Hp} {K : Bool → Hp → Prop} {R : Value → World → Prop} {E : Pan} (I : Inv w0 ps0 H0 H [] w) (hR : ∀ (r0 : Bool) (H' : Hp) (w' : World) (_ : Inv w0 ps0 H0 H' [] w') (_ : K r0 H'), R (Value.bool r0) w') (h : a1w x0 H K) : c9u (Value.agg (f5 x0.i7).toArray) w R E := by
 unfold a1w at h
 unfold c9u
 refine J4 I (cs := (f5 x0.i7)) rfl fun g_2 w_3 I_4 k_5 => ?_
 refine a7 Y8 ?_
 refine a7 R7 ?_
 refine c5 (ld1 Tryd.isAgg28 (I_4.at1 (o := 2) (vs := [(vs x0.i7.d7)]) (nb rfl) rfl)) ?_
 refine a7 (v8 _ _ _) ?_
 refine a7 Y8 ?_
 refine a7 R8 ?_
 refine c5 (ld1 Tryd.isAgg31 (I_4.at1 (o := 3) (vs := [(vs x0.i7.l9)]) (nb rfl) rfl)) ?_
 refine a7 (H8 _ _ _) ?_
 refine a7 (a3f _ _) ?_
 refine G4 I_4 Tryd.zeroValue209 (cs := [(vi 0), (vi 0)]) rfl fun g_7 w_8 I_9 d6e => ?_
 refine p7 I_9 Tryd.sizeOf209 (vs := [(vi (x0.i7.d7.n : Int)), (vi (x0.i7.l9.n : Int))]) (cs' := [(vi (x0.i7.d7.n : Int)), (vi (x0.i7.l9.n : Int))]) rfl rfl (nb rfl) rfl rfl fun a0P E7 b5W => ?_
 refine a7 Y8 ?_
 refine a7 a5X ?_
 refine c5 (ld1 Tryd.isAgg3 ((E7.bring 1).at1 (o := 0) (vs := [(vi x0.i7.c6)]) (nb rfl) rfl)) ?_
 refine a7 (d4 _ _ _ _ _ _) ?_
 refine g6 (fun b1b => ?_) (fun b1b => ?_)
 ·replace h := h.1 b1b
  refine a7 Y8 ?_
  refine a7 Z5 ?_
  refine c5 (ld1 Tryd.isAgg3 ((E7.bring 1).at1 (o := 1) (vs := [(vi x0.i7.fOp)]) (nb rfl) rfl)) ?_
  refine a7 (a0B _ _ _ _ _ _) ?_
  refine a7 (Pu.g fun hb => by have a8 := hb; first | exact Y8 | (simp only [b9 a8, b6 a8, b6 hb, o7 a8]; exact Y8) | (simp only [b9 a8, b6 a8, b6 hb, d8 a8, f8]; exact Y8)) ?_
  refine a7 (Pu.g fun hb => by have a8 := hb; first | exact Z5 | (simp only [b6 a8]; exact Z5) | (simp only [b9 a8, b6 a8, b6 hb, d8 a8, f8]; exact Z5)) ?_
  refine c5 (Ld.g fun hb => by have a8 := hb; first | exact (ld1 Tryd.isAgg3 ((E7.bring 1).at1 (o := 1) (vs := [(vi x0.i7.fOp)]) (nb rfl) rfl)) | (simp only [b6 a8]; exact (ld1 Tryd.isAgg3 ((E7.bring 1).at1 (o := 1) (vs := [(vi x0.i7.fOp)]) (nb rfl) rfl))) | (simp only [b9 a8, b6 a8, b6 hb, d8 a8, f8]; exact (ld1 Tryd.isAgg3 ((E7.bring 1).at1 (o := 1) (vs := [(vi x0.i7.fOp)]) (nb rfl) rfl)))) ?_
  refine a7 (Pu.g fun hb => by have a8 := hb; first | exact (a0A _ _ _ _ _ _) | (simp only [b6 a8]; exact (a0A _ _ _ _ _ _)) | (simp only [b9 a8, b6 a8, b6 hb, d8 a8, f8]; exact (a0A _ _ _ _ _ _))) ?_
  refine a7 (m3 _ _) ?_
  refine c5 (Ld.g fun hb => by have a8 := hb; first | exact (ldA Tryd.isAgg209 Tryd.sizeOf209 rfl (E7.at1 (o := 0) (vs := [(vi (x0.i7.d7.n : Int)), (vi (x0.i7.l9.n : Int))]) (nb rfl) rfl)) | (simp only [b9 a8, b6 a8, b6 hb, o7 a8]; exact (ldA Tryd.isAgg209 Tryd.sizeOf209 rfl (E7.at1 (o := 0) (vs := [(vi (x0.i7.d7.n : Int)), (vi (x0.i7.l9.n : Int))]) (nb rfl) rfl))) | (simp only [b9 a8, b6 a8, b6 hb, d8 a8, f8]; exact (ldA Tryd.isAgg209 Tryd.sizeOf209 rfl (E7.at1 (o := 0) (vs := [(vi (x0.i7.d7.n : Int)), (vi (x0.i7.l9.n : Int))]) (nb rfl) rfl)))) ?_
  refine a7 (Pu.g fun hb => by have a8 := hb; first | exact (a3f _ _) | (simp only [b9 a8, b6 a8, b6 hb, o7 a8]; exact (a3f _ _)) | (simp only [b9 a8, b6 a8, b6 hb, d8 a8, f8]; exact (a3f _ _))) ?_
  refine a7 (Pu.g fun hb => by have a8 := hb; first | exact (a7i _ _ _ _ _ _) | (simp only [b6 a8]; exact (a7i _ _ _ _ _ _)) | (simp only [b9 a8, b6 a8, b6 hb, d8 a8, f8]; exact (a7i _ _ _ _ _ _))) ?_
  refine a7 (m3 _ _) ?_
  exact hR (((decide (1 ≤ x0.i7.fOp)) && (decide (x0.i7.fOp ≤ 6))) && (decide ((x0.i7.d7.n : Int) = 2 ∧ (x0.i7.l9.n : Int) = 0))) H _ E7.drop.drop h
 ·replace h := h.2 b1b
  refine a7 Y8 ?_
  refine a7 Z5 ?_
  refine c5 (ld1 Tryd.isAgg3 ((E7.bring 1).at1 (o := 1) (vs := [(vi x0.i7.fOp)]) (nb rfl) rfl)) ?_
  refine a7 (F6 _ _ _ _ _ _) ?_
  refine a8O (fun b1c => ?_) (fun b1c => ?_)
  ·replace h := h.1 b1c
   exact hR false H _ E7.drop.drop h
  ·replace h := h.2 b1c
   refine a7 Y8 ?_
   refine a7 a5X ?_
   refine c5 (ld1 Tryd.isAgg3 ((E7.bring 1).at1 (o := 0) (vs := [(vi x0.i7.c6)]) (nb rfl) rfl)) ?_
   have hj1 : ∀ (b6R : Bool) (H : Hp) (w : World) (_ : Inv w0 ps0 H0 H [bx g_7 209 [(vi (D5.mk (x0.i7.d7.n : Int) (x0.i7.l9.n : Int)).fexprs), (vi (D5.mk (x0.i7.d7.n : Int) (x0.i7.l9.n : Int)).fparts)], bx g_2 106 (f5 x0.i7)] w) (_ : J9 x0.i7.c6 b6R (D5.mk (x0.i7.d7.n : Int) (x0.i7.l9.n : Int)) x0 H K), c1a (Value.pointer (some ⟨g_7, 0, none⟩)) (vi x0.i7.c6) (Value.bool b6R) w R E := by
    intro b6R H w I h
    unfold c1a
    intro _
    unfold J9 at h
    refine k8 (fun a6K => ?_) (fun a6K => ?_)
    ·replace h := h.1 a6K
     refine c5 (ldA Tryd.isAgg209 Tryd.sizeOf209 rfl (I.at1 (o := 0) (vs := [(vi (D5.mk (x0.i7.d7.n : Int) (x0.i7.l9.n : Int)).fexprs), (vi (D5.mk (x0.i7.d7.n : Int) (x0.i7.l9.n : Int)).fparts)]) (nb rfl) rfl)) ?_
     refine a7 (c8Y ) ?_
     refine a7 (a7i _ _ _ _ _ _) ?_
     exact hR (decide ((D5.mk (x0.i7.d7.n : Int) (x0.i7.l9.n : Int)).fexprs = 0 ∧ (D5.mk (x0.i7.d7.n : Int) (x0.i7.l9.n : Int)).fparts = 0)) H _ I.drop.drop h
    ·replace h := h.2 a6K
     refine a7 (d4 _ _ _ _ _ _) ?_
     refine g6 (fun b1d => ?_) (fun b1d => ?_)
     ·replace h := h.1 b1d
      refine c5 (ldA Tryd.isAgg209 Tryd.sizeOf209 rfl (I.at1 (o := 0) (vs := [(vi (D5.mk (x0.i7.d7.n : Int) (x0.i7.l9.n : Int)).fexprs), (vi (D5.mk (x0.i7.d7.n : Int) (x0.i7.l9.n : Int)).fparts)]) (nb rfl) rfl)) ?_
      refine a7 (a3f _ _) ?_
      refine a7 (a7i _ _ _ _ _ _) ?_
      exact hR (decide ((D5.mk (x0.i7.d7.n : Int) (x0.i7.l9.n : Int)).fexprs = 0 ∧ (D5.mk (x0.i7.d7.n : Int) (x0.i7.l9.n : Int)).fparts = 1)) H _ I.drop.drop h
     ·replace h := h.2 b1d
      have hj2 : ∀ (b6Q : Bool) (H : Hp) (w : World) (_ : Inv w0 ps0 H0 H [bx g_7 209 [(vi (D5.mk (x0.i7.d7.n : Int) (x0.i7.l9.n : Int)).fexprs), (vi (D5.mk (x0.i7.d7.n : Int) (x0.i7.l9.n : Int)).fparts)], bx g_2 106 (f5 x0.i7)] w) (_ : J8 b6Q (D5.mk (x0.i7.d7.n : Int) (x0.i7.l9.n : Int)) x0 H K), c0Z (Value.pointer (some ⟨g_7, 0, none⟩)) (Value.bool b6Q) w R E := by
       intro b6Q H w I h
       unfold c0Z
       intro _
       unfold J8 at h
       refine k8 (fun b1e => ?_) (fun b1e => ?_)
       ·replace h := h.1 b1e
        refine c5 (ldA Tryd.isAgg209 Tryd.sizeOf209 rfl (I.at1 (o := 0) (vs := [(vi (D5.mk (x0.i7.d7.n : Int) (x0.i7.l9.n : Int)).fexprs), (vi (D5.mk (x0.i7.d7.n : Int) (x0.i7.l9.n : Int)).fparts)]) (nb rfl) rfl)) ?_
        refine a7 (a3f _ _) ?_
        refine a7 (a7i _ _ _ _ _ _) ?_
        exact hR (decide ((D5.mk (x0.i7.d7.n : Int) (x0.i7.l9.n : Int)).fexprs = 0 ∧ (D5.mk (x0.i7.d7.n : Int) (x0.i7.l9.n : Int)).fparts = 2)) H _ I.drop.drop h
       ·replace h := h.2 b1e
        exact hR false H _ I.drop.drop h
      refine m6 fun j2 hx2 => ?_
      refine a7 (d4 _ _ _ _ _ _) ?_
      refine g6 (fun a4X => ?_) (fun a4X => ?_)
      ·replace h := h.1 a4X
       exact hx2 _ _ (hj2 (decide (x0.i7.c6 = 5)) H _ ((I.bring 1).bring 1) h)
      ·replace h := h.2 a4X
       refine a7 (d4 _ _ _ _ _ _) ?_
       exact hx2 _ _ (hj2 (decide (x0.i7.c6 = 6)) H _ ((I.bring 1).bring 1) h)
   refine m6 fun j1 hx1 => ?_
   refine a7 (d4 _ _ _ _ _ _) ?_
   refine g6 (fun b1f => ?_) (fun b1f => ?_)
   ·replace h := h.1 b1f
    exact hx1 _ _ (hj1 (decide (x0.i7.c6 = 1)) H _ ((E7.bring 1).bring 1) h)
   ·replace h := h.2 b1f
    refine a7 (d4 _ _ _ _ _ _) ?_
    exact hx1 _ _ (hj1 (decide (x0.i7.c6 = 2)) H _ ((E7.bring 1).bring 1) h)
theorem b1U (x0 : K3) {H : Hp} {K : Bool → Hp → Prop} (h : a1w x0 H K) : a3N x0 H K := by
 intro w I
 refine e2e ?_
 refine b1a x0 I (fun r0 H' w' I' hk => ⟨H', _, I', r0, rfl, rfl, hk⟩) h
def u2 (S3 : (List c8)) (H : Hp) (K : Sl → Hp → Prop) : Prop :=
 ∀ (C0 : Sl) (a1O : Hp), Hle H a1O → SlH a1O 1 m7 C0 S3 → C0.n ≤ C0.c →
 K C0 a1O
def u4 (N2 : Sl) (a7W : Int) (p6 : (List c8)) (q9 : Int) (H : Hp) (n2 : ((List c8) × Int) → Hp → Prop) (K : Sl → Hp → Prop) : Prop :=
 (q9 < a7W →
 (0 : Int) ≤ q9 ∧ (q9 : Int) < N2.n ∧ ∃ x_1 : k3, EltH H N2 q9 4 (f5 x_1) ∧
 a7V x_1 H (fun (N0 : c8) (a2R : Hp) =>
 (p6.length + ([N0] : List c8).length) * 17 ≤ 140737488355328 ∧
 n2 ((p6 ++ [N0]), (IntKind.wrap .i64 (q9 + 1))) a2R)) ∧
 (¬ (q9 < a7W) →
 u2 p6 H K)
def y7 (x0 : Sl) (H : Hp) (K : Sl → Hp → Prop) : Prop :=
 TL (([], 0) : (List c8) × Int) H fun (s : (List c8) × Int) H n2 => u4 x0 (x0.n : Int) s.1 s.2 H n2 K
theorem a1H (x0 : Sl) {w0 w : World} {ps0 : Nat → Prop} {H0 H : Hp} {K : Sl → Hp → Prop} {R : Value → World → Prop} {E : Pan} (I : Inv w0 ps0 H0 H [] w) (hR : ∀ (r0 : Sl) (H' : Hp) (w' : World) (_ : Inv w0 ps0 H0 H' [] w') (_ : K r0 H'), R (vs r0) w') (h : y7 x0 H K) : c9x (vs x0) (Value.func (.func 155) #[] #[]) w R E := by
 unfold y7 at h
 unfold c9x
 have hj1 : ∀ (S3 : (List c8)) (C0 : Sl) (Fs5j1 : Frag) (H : Hp) (w : World) (_ : RowL 141 1 m7 C0 S3 Fs5j1) (_ : Inv w0 ps0 H0 H [Fs5j1] w) (_ : u2 S3 H K), c1b (vs C0) w R E := by
  intro S3 C0 Fs5j1 H w b0h I h
  unfold c1b
  intro _
  unfold u2 at h
  obtain ⟨a1O, a8X, b5X, b7O, b3Q⟩ := Inv.freezeC I b0h (by decide)
  replace h := h C0 a1O b5X b7O b3Q
  exact hR C0 a1O _ a8X h
 refine m6 fun j1 hx1 => ?_
 refine a7 (H8 _ _ _) ?_
 obtain ⟨a6L, a3p, b7P, b7Q⟩ := h
 refine p9 (J := fun n l w => ∃ (s : (List c8) × Int) (H : Hp) (S4 : Sl) (Fs5l2 : Frag) , n = a3p s ∧ l = (match s with | (p6, q9) => [(vs S4), (vi q9)]) ∧ (match s with | (p6, q9) => RowL 141 1 m7 S4 p6 Fs5l2) ∧ (match s with | (p6, q9) => Inv w0 ps0 H0 H [Fs5l2] w) ∧ a6L s H) ⟨_, ([], 0), H, (Sl.mk none 0 0), [], rfl, rfl, (RowL.nil N1 R2), I.nil, b7P⟩ ?_
 rintro d6f τ_50 w next2 ⟨⟨p6, q9⟩, H, S4, Fs5l2, rfl, a5Q, a2S, I, b5Y⟩ hn2
 dsimp only at a5Q I a2S
 simp only [List.map_cons, List.map_nil, List.cons.injEq, and_true] at a5Q
 obtain ⟨e5, e10⟩ := a5Q
 simp only [e5, e10]
 obtain ⟨n2, hm2, h⟩ : ∃ n2 : ((List c8) × Int) → Hp → Prop, (∀ s' H', n2 s' H' → a6L s' H' ∧ a3p s' < a3p (p6, q9)) ∧ u4 x0 (x0.n : Int) p6 q9 H n2 K := ⟨_, fun _ _ h => h, b7Q (p6, q9) H (fun s' H' => a6L s' H' ∧ a3p s' < a3p (p6, q9)) b5Y (fun _ _ a b => ⟨a, b⟩)⟩
 unfold c8l
 unfold u4 at h
 refine a7 (o2 _ _ _ _ _ _) ?_
 refine g6 (fun a4Y => ?_) (fun a4Y => ?_)
 ·replace h := h.1 a4Y
  obtain ⟨h_4, h_5, x_1, h_7, h⟩ := h
  obtain ⟨g_2, o_3, h_6, h_7⟩ := h_7
  refine a7 (a4N h_6 _ _ _ _ h_4 h_5) ?_
  refine c5 (ldA (vs := (f5 x_1)) Tryd.isAgg33 Tryd.sizeOf33 rfl (I.atH h_7)) ?_
  refine G4 I Tryd.zeroValue33 (cs := [(vi 0), (vi 0), (Value.slice none 0 0), (Value.slice none 0 0)]) rfl fun g_9 m2 a3q b3R => ?_
  refine p7 a3q Tryd.sizeOf33 (vs := (f5 x_1)) (cs' := (f5 x_1)) rfl rfl (nb rfl) rfl rfl fun a2K a3r c1d => ?_
  refine c5 (ldA Tryd.isAgg33 Tryd.sizeOf33 rfl (a3r.at1 (o := 0) (vs := (f5 x_1)) (nb rfl) rfl)) ?_
  refine f6 (cap := []) (fun args w => Tryd.call155 args w) ?_
  refine i6 (Fi := []) (Fr := [bx g_9 33 (f5 x_1), Fs5l2]) a3r (h) (fun c4x a2R c4y a4G a3s c4z b7R b1g => ?_) (fun _ _ _ _ _ q => q.elim)
  obtain ⟨N0, rfl, rfl, h⟩ := b1g
  refine a5y (e := 141) (c := m7) (xs := [N0]) a3s (b6K _) rfl rfl N1 R2 (nb rfl) fun c4A b5Z w9 b1h a5C b7S => ?_
  obtain ⟨b3S, h⟩ := h
  refine b5h (s := S4) (xs := p6) (a5C.bring 2) a2S (b1h.srcO ((a5C.bring 2).bring 1)) b3S fun b7T b6a z7 a8Y a9N c9E => ?_
  refine a7 (m4 _ _ _ _ _ _) ?_
  exact hn2 _ _ _ (hm2 _ _ h).2 ⟨((p6 ++ [N0]), (IntKind.wrap .i64 (q9 + 1))), a2R, b7T, b6a, rfl, rfl, a8Y, ((a9N.bring 1).drop.bring 1).drop, (hm2 _ _ h).1⟩
 ·replace h := h.2 a4Y
  exact hx1 _ _ (hj1 p6 S4 Fs5l2 H _ a2S I h)
theorem a1P (x0 : Sl) {H : Hp} {K : Sl → Hp → Prop} (h : y7 x0 H K) : y6 x0 H K := by
 intro w I
 refine e2i ?_
 refine a1H x0 I (fun r0 H' w' I' hk => ⟨H', _, I', r0, rfl, rfl, hk⟩) h
def a0Z (x0 : K3) (H : Hp) (K : Sl → Hp → Prop) : Prop :=
 r9 x0.i7.d7 H (fun (a7X : Sl) (H_8 : Hp) =>
 y6 x0.i7.l9 H_8 (fun (a7Y : Sl) (b6b : Hp) =>
 ∀ (a8Z : Sl) (a7Z : Hp), Hle b6b a7Z → SlH a7Z 1 csl a8Z [a7X, a7Y] → a8Z.n ≤ a8Z.c →
 v7 a8Z a7Z (fun (a9p : Sl) (b2G : Hp) =>
 K a9p b2G)))
theorem b0i (x0 : K3) {w0 w : World} {ps0 : Nat → Prop} {H0 H : Hp} {K : Sl → Hp → Prop} {R : Value → World → Prop} {E : Pan} (I : Inv w0 ps0 H0 H [] w) (hR : ∀ (r0 : Sl) (H' : Hp) (w' : World) (_ : Inv w0 ps0 H0 H' [] w') (_ : K r0 H'), R (vs r0) w') (h : a0Z x0 H K) : c9w (Value.agg (f5 x0.i7).toArray) w R E := by
 unfold a0Z at h
 unfold c9w
 refine J4 I (cs := (f5 x0.i7)) rfl fun g_2 w_3 I_4 k_5 => ?_
 refine b5e I_4 fun w_6 I_7 => ?_
 refine B5 Y8 ?_
 refine B5 R7 ?_
 refine B5 Y8 ?_
 refine B5 R8 ?_
 refine a2J (ld1 Tryd.isAgg28 (I_7.at1 (o := 2) (vs := [(vs x0.i7.d7)]) (nb rfl) rfl)) ?_
 refine a2J (ld1 Tryd.isAgg31 (I_7.at1 (o := 3) (vs := [(vs x0.i7.l9)]) (nb rfl) rfl)) ?_
 refine f6 (cap := []) (fun args w => Tryd.call150 args w) ?_
 refine i6 (Fi := []) (Fr := [bx g_2 106 (f5 x0.i7)]) I_7 (h) (fun f0Q H_8 f0R w_9 b3T a8a b7U c4B => ?_) (fun _ _ _ _ _ q => q.elim)
 obtain ⟨a7X, rfl, rfl, h⟩ := c4B
 refine ⟨(b7U _ I_7.lt1 (Inv.a7w (Fi := []) I_7)), ?_⟩
 refine f6 (cap := []) (fun args w => Tryd.call154 args w) ?_
 refine i6 (Fi := []) (Fr := [bx g_2 106 (f5 x0.i7)]) b3T (h) (fun f0S b6b f0T p8 b3U f0U c4C c4D => ?_) (fun _ _ _ _ _ q => q.elim)
 obtain ⟨a7Y, rfl, rfl, h⟩ := c4D
 refine a5y (e := 97) (c := csl) (xs := [a7X, a7Y]) b3U (c2V _ _ _ _ _ _) rfl rfl c2s c2t (nb rfl) fun a8Z f0V b2A c4E b7V d6g => ?_
 obtain ⟨a7Z, b7W, b5J, b3V, b7X⟩ := Inv.freezeC b7V c4E (by decide)
 replace h := h a8Z a7Z b5J b3V b7X
 refine f6 (cap := []) (fun args w => Tryd.call94 args w) ?_
 refine i6 (Fi := []) (Fr := [bx g_2 106 (f5 x0.i7)]) b7W (h) (fun f0W b2G f0X b7F a8X f0Y f0Z c4F => ?_) (fun _ _ _ _ _ q => q.elim)
 obtain ⟨a9p, rfl, rfl, h⟩ := c4F
 exact hR a9p b2G _ a8X.drop h
theorem b1i (x0 : K3) {H : Hp} {K : Sl → Hp → Prop} (h : a0Z x0 H K) : a5N x0 H K := by
 intro w I
 refine e2g ?_
 refine b0i x0 I (fun r0 H' w' I' hk => ⟨H', _, I', r0, rfl, rfl, hk⟩) h
end Go.Proofs.YthldnpmfelniiaaDoor
