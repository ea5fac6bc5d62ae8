/- Typed formulas of the program's functions, and the theorems that the contracts follow from them; printed by lift.py off the code. -/
import Derived.Test.YtnhkdkcgdcgmdaaDoorzSV1
namespace Go.Proofs.YtnhkdkcgdcgmdaaDoor
open Go.RowKit
set_option maxRecDepth 100000
set_option maxHeartbeats 2000000
variable {w0 w : World} {ps0 : Nat → Prop} {H0 H : Hp} {R : RT} {E : Pan}
def m5 (r7 : Bool) (H : Hp) (K : Bool → Hp → Prop) : Prop :=
 (r7 = true →
 K true H) ∧
 (r7 = false →
 K false H)
def a1U (x0 : ByteArray) (H : Hp) (K : Bool → Hp → Prop) : Prop :=
 (x0 = ⟨#[118, 97, 114]⟩ →
 m5 (decide (x0 = ⟨#[118, 97, 114]⟩)) H K) ∧
 (¬ (x0 = ⟨#[118, 97, 114]⟩) →
 (x0 = ⟨#[97, 114, 114, 97, 121]⟩ →
 m5 (decide (x0 = ⟨#[97, 114, 114, 97, 121]⟩)) H K) ∧
 (¬ (x0 = ⟨#[97, 114, 114, 97, 121]⟩) →
 (x0 = ⟨#[105, 102]⟩ →
 m5 (decide (x0 = ⟨#[105, 102]⟩)) H K) ∧
 (¬ (x0 = ⟨#[105, 102]⟩) →
 (x0 = ⟨#[101, 108, 115, 101]⟩ →
 m5 (decide (x0 = ⟨#[101, 108, 115, 101]⟩)) H K) ∧
 (¬ (x0 = ⟨#[101, 108, 115, 101]⟩) →
 (x0 = ⟨#[119, 104, 105, 108, 101]⟩ →
 m5 (decide (x0 = ⟨#[119, 104, 105, 108, 101]⟩)) H K) ∧
 (¬ (x0 = ⟨#[119, 104, 105, 108, 101]⟩) →
 (x0 = ⟨#[97, 115, 115, 101, 114, 116]⟩ →
 m5 (decide (x0 = ⟨#[97, 115, 115, 101, 114, 116]⟩)) H K) ∧
 (¬ (x0 = ⟨#[97, 115, 115, 101, 114, 116]⟩) →
 (x0 = ⟨#[97, 115, 115, 117, 109, 101]⟩ →
 m5 (decide (x0 = ⟨#[97, 115, 115, 117, 109, 101]⟩)) H K) ∧
 (¬ (x0 = ⟨#[97, 115, 115, 117, 109, 101]⟩) →
 (x0 = ⟨#[115, 107, 105, 112]⟩ →
 m5 (decide (x0 = ⟨#[115, 107, 105, 112]⟩)) H K) ∧
 (¬ (x0 = ⟨#[115, 107, 105, 112]⟩) →
 (x0 = ⟨#[105, 110, 112, 117, 116]⟩ →
 m5 (decide (x0 = ⟨#[105, 110, 112, 117, 116]⟩)) H K) ∧
 (¬ (x0 = ⟨#[105, 110, 112, 117, 116]⟩) →
 (x0 = ⟨#[116, 114, 117, 101]⟩ →
 m5 (decide (x0 = ⟨#[116, 114, 117, 101]⟩)) H K) ∧
 (¬ (x0 = ⟨#[116, 114, 117, 101]⟩) →
 m5 (decide (x0 = ⟨#[102, 97, 108, 115, 101]⟩)) H K))))))))))
theorem b3v (x0 : ByteArray) {K : Bool → Hp → Prop} (I : Inv w0 ps0 H0 H [] w) (hR : ∀ (r0 : Bool) (H' : Hp) (w' : World) (_ : Inv w0 ps0 H0 H' [] w') (_ : K r0 H'), R (vB r0) w') (h : a1U x0 H K) : c7b (Value.string x0) w R E := by
 unfold a1U at h
 unfold c7b
 have hj1 : ∀ (r7 : Bool) (H : Hp) (w : World) (_ : Inv w0 ps0 H0 H [] w) (_ : m5 r7 H K), b9h (vB r7) w R E := by
  intro r7 H w I h
  unfold b9h
  intro _
  unfold m5 at h
  refine o8 (fun c_1 => ?_) (fun c_1 => ?_)
  ·replace h := h.1 c_1
   exact hR true H _ I h
  ·replace h := h.2 c_1
   exact hR false H _ I h
 refine A6 fun j1 hx1 => ?_
 refine a7 (a0F _ _ _ _ _) ?_
 refine i2 (fun a8o => ?_) (fun a8o => ?_)
 ·replace h := h.1 a8o
  exact hx1 _ _ (hj1 (decide (x0 = ⟨#[118, 97, 114]⟩)) H _ I h)
 ·replace h := h.2 a8o
  refine a7 (a0F _ _ _ _ _) ?_
  refine i2 (fun d3U => ?_) (fun d3U => ?_)
  ·replace h := h.1 d3U
   exact hx1 _ _ (hj1 (decide (x0 = ⟨#[97, 114, 114, 97, 121]⟩)) H _ I h)
  ·replace h := h.2 d3U
   refine a7 (a0F _ _ _ _ _) ?_
   refine i2 (fun c_9 => ?_) (fun c_9 => ?_)
   ·replace h := h.1 c_9
    exact hx1 _ _ (hj1 (decide (x0 = ⟨#[105, 102]⟩)) H _ I h)
   ·replace h := h.2 c_9
    refine a7 (a0F _ _ _ _ _) ?_
    refine i2 (fun c_8 => ?_) (fun c_8 => ?_)
    ·replace h := h.1 c_8
     exact hx1 _ _ (hj1 (decide (x0 = ⟨#[101, 108, 115, 101]⟩)) H _ I h)
    ·replace h := h.2 c_8
     refine a7 (a0F _ _ _ _ _) ?_
     refine i2 (fun c_7 => ?_) (fun c_7 => ?_)
     ·replace h := h.1 c_7
      exact hx1 _ _ (hj1 (decide (x0 = ⟨#[119, 104, 105, 108, 101]⟩)) H _ I h)
     ·replace h := h.2 c_7
      refine a7 (a0F _ _ _ _ _) ?_
      refine i2 (fun c_6 => ?_) (fun c_6 => ?_)
      ·replace h := h.1 c_6
       exact hx1 _ _ (hj1 (decide (x0 = ⟨#[97, 115, 115, 101, 114, 116]⟩)) H _ I h)
      ·replace h := h.2 c_6
       refine a7 (a0F _ _ _ _ _) ?_
       refine i2 (fun c_5 => ?_) (fun c_5 => ?_)
       ·replace h := h.1 c_5
        exact hx1 _ _ (hj1 (decide (x0 = ⟨#[97, 115, 115, 117, 109, 101]⟩)) H _ I h)
       ·replace h := h.2 c_5
        refine a7 (a0F _ _ _ _ _) ?_
        refine i2 (fun c_4 => ?_) (fun c_4 => ?_)
        ·replace h := h.1 c_4
         exact hx1 _ _ (hj1 (decide (x0 = ⟨#[115, 107, 105, 112]⟩)) H _ I h)
        ·replace h := h.2 c_4
         refine a7 (a0F _ _ _ _ _) ?_
         refine i2 (fun c_3 => ?_) (fun c_3 => ?_)
         ·replace h := h.1 c_3
          exact hx1 _ _ (hj1 (decide (x0 = ⟨#[105, 110, 112, 117, 116]⟩)) H _ I h)
         ·replace h := h.2 c_3
          refine a7 (a0F _ _ _ _ _) ?_
          refine i2 (fun c_2 => ?_) (fun c_2 => ?_)
          ·replace h := h.1 c_2
           exact hx1 _ _ (hj1 (decide (x0 = ⟨#[116, 114, 117, 101]⟩)) H _ I h)
          ·replace h := h.2 c_2
           refine a7 (a0F _ _ _ _ _) ?_
           exact hx1 _ _ (hj1 (decide (x0 = ⟨#[102, 97, 108, 115, 101]⟩)) H _ I h)
theorem b5m (x0 : ByteArray) {H : Hp} {K : Bool → Hp → Prop} (h : a1U x0 H K) : a0G x0 H K := by
 intro w I
 refine e0n ?_
 refine b3v x0 I (fun r0 H' w' I' hk => ⟨H', _, I', r0, rfl, rfl, hk⟩) h
def a0S (x0 : j7) (H : Hp) (K : a8 → Hp → Prop) : Prop :=
 K (a8.E8 (N3.mk x0)) H
theorem b0v (x0 : j7) {K : a8 → Hp → Prop} (I : Inv w0 ps0 H0 H [] w) (hR : ∀ (r0 : a8) (H' : Hp) (w' : World) (_ : Inv w0 ps0 H0 H' [] w') (_ : K r0 H'), R (t8 r0) w') (h : a0S x0 H K) : F89 (Value.agg (m3 x0).toArray) w R E := by
 unfold a0S at h
 unfold F89
 refine P2 I (cs := (m3 x0)) rfl fun g_2 w_3 I_4 k_5 => ?_
 refine b6 (ldA Tryd.isAgg58 Tryd.sizeOf58 rfl (I_4.at1 (o := 0) (vs := (m3 x0)) (nb rfl) rfl)) ?_
 refine a7 (c1O _ _) ?_
 refine a7 (b8V (N3.mk x0)) ?_
 exact hR (a8.E8 (N3.mk x0)) H _ I_4.drop h
theorem b1G (x0 : j7) {H : Hp} {K : a8 → Hp → Prop} (h : a0S x0 H K) : a5E x0 H K := by
 intro w I
 refine e6o ?_
 refine b0v x0 I (fun r0 H' w' I' hk => ⟨H', _, I', r0, rfl, rfl, hk⟩) h
def a0T (x0 : m9) (H : Hp) (K : a8 → Hp → Prop) : Prop :=
 K (a8.C9 (K8.mk x0)) H
theorem b0w (x0 : m9) {K : a8 → Hp → Prop} (I : Inv w0 ps0 H0 H [] w) (hR : ∀ (r0 : a8) (H' : Hp) (w' : World) (_ : Inv w0 ps0 H0 H' [] w') (_ : K r0 H'), R (t8 r0) w') (h : a0T x0 H K) : F91 (Value.agg (f8 x0).toArray) w R E := by
 unfold a0T at h
 unfold F91
 refine P2 I (cs := (f8 x0)) rfl fun g_2 w_3 I_4 k_5 => ?_
 refine b6 (ldA Tryd.isAgg63 Tryd.sizeOf63 rfl (I_4.at1 (o := 0) (vs := (f8 x0)) (nb rfl) rfl)) ?_
 refine a7 (c1P _ _ _ _ _ _ _ _ _ _ _ _ _ _) ?_
 refine a7 (b8W (K8.mk x0)) ?_
 exact hR (a8.C9 (K8.mk x0)) H _ I_4.drop h
theorem b1H (x0 : m9) {H : Hp} {K : a8 → Hp → Prop} (h : a0T x0 H K) : a5F x0 H K := by
 intro w I
 refine e6s ?_
 refine b0w x0 I (fun r0 H' w' I' hk => ⟨H', _, I', r0, rfl, rfl, hk⟩) h
def a1V (x0 : q8) (H : Hp) (K : g7 → Hp → Prop) : Prop :=
 D6 x0.a2j H (fun (a5J : Sl) (H_8 : Hp) =>
 r5 x0.a3D H_8 (fun (a2J : Sl) (a8l : Hp) =>
 ∀ (a6c : Sl) (a8m : Hp), Hle a8l a8m → SlH a8m 1 csl a6c [a5J, a2J] → a6c.n ≤ a6c.c →
 y8 a6c a8m (fun (b4F : Sl) (b9G : Hp) =>
 a2E b4F b9G (fun (c7J : g7) (b1I : Hp) =>
 K c7J b1I))))
theorem b3w (x0 : q8) {K : g7 → Hp → Prop} (I : Inv w0 ps0 H0 H [] w) (hR : ∀ (r0 : g7) (gr0 : Nat) (H' : Hp) (w' : World) (_ : Inv w0 ps0 H0 H' [bx gr0 106 (a3M r0)] w') (_ : K r0 H'), R (Value.pointer (some ⟨gr0, 0, none⟩)) w') (h : a1V x0 H K) : F52 (Value.agg (u6 x0).toArray) w R E := by
 unfold a1V at h
 unfold F52
 refine P2 I (cs := (u6 x0)) rfl fun g_2 w_3 I_4 k_5 => ?_
 refine a0p I_4 fun w_6 I_7 => ?_
 refine j8 a7f ?_
 refine j8 b1a ?_
 refine u0 (ld1 Tryd.isAgg41 (I_7.at1 (o := 0) (vs := [(vs x0.a2j)]) (nb rfl) rfl)) ?_
 refine u0 (ld1 Tryd.isAgg42 (I_7.at1 (o := 1) (vs := [(vs x0.a3D)]) (nb rfl) rfl)) ?_
 refine d6 (cap := []) (fun args w => Tryd.call88 args w) ?_
 refine m6 (Fi := []) (Fr := [bx g_2 44 (u6 x0)]) I_7 (h) (fun e9R H_8 d3J w_9 b1F e9S b6c c2Y => ?_) (fun _ _ _ _ _ q => q.elim)
 obtain ⟨a5J, rfl, rfl, h⟩ := c2Y
 refine ⟨(b6c _ I_7.lt1 (Inv.a5k (Fi := []) I_7)), ?_⟩
 refine d6 (cap := []) (fun args w => Tryd.call90 args w) ?_
 refine m6 (Fi := []) (Fr := [bx g_2 44 (u6 x0)]) b1F (h) (fun d3K a8l d3L p8 a4m d3M b3u b6d => ?_) (fun _ _ _ _ _ q => q.elim)
 obtain ⟨a2J, rfl, rfl, h⟩ := b6d
 refine W7 (e := 124) (c := csl) (xs := [a5J, a2J]) a4m (c1N _ _ _ _ _ _) rfl rfl b4u b4v (nb rfl) fun a6c e9Q d3N d3O b5V e9P => ?_
 obtain ⟨a8m, d3P, c2q, c2W, d3Q⟩ := Inv.freezeC b5V d3O (by decide)
 replace h := h a6c a8m c2q c2W d3Q
 refine d6 (cap := []) (fun args w => Tryd.call87 args w) ?_
 refine m6 (Fi := []) (Fr := [bx g_2 44 (u6 x0)]) d3P (h) (fun g3p b9G g3q d3R a4K g3r d3S d3T => ?_) (fun _ _ _ _ _ q => q.elim)
 obtain ⟨b4F, rfl, rfl, h⟩ := d3T
 refine d6 (cap := []) (fun args w => Tryd.call60 args w) ?_
 refine m6 (Fi := []) (Fr := [bx g_2 44 (u6 x0)]) a4K (h) (fun g7E b1I g7F J0 c2Z g7G e9T g3s => ?_) (fun _ _ _ _ _ q => q.elim)
 obtain ⟨c7J, e9U, rfl, rfl, h⟩ := g3s
 exact hR c7J e9U b1I _ (c2Z.bring 1).drop h
theorem b5n (x0 : q8) {H : Hp} {K : g7 → Hp → Prop} (h : a1V x0 H K) : a4k x0 H K := by
 intro w I
 refine e5K ?_
 refine b3w x0 I (fun r0 gr0 H' w' I' hk => ⟨H', _, I', r0, gr0, rfl, rfl, hk⟩) h
def B1 (g3t : Int) (b4G : Bool) (a0H : D9) (H : Hp) (K : Bool → Hp → Prop) : Prop :=
 (b4G = true →
 K (decide (g3t = 2)) H) ∧
 (b4G = false →
 K false H)
def K1 (b9H : Int) (a3T : Int) (b4H : Bool) (a4q : D9) (H : Hp) (K : Bool → Hp → Prop) : Prop :=
 (b4H = true →
 K (decide (b9H = 1)) H) ∧
 (b4H = false →
 (a3T = 6 →
 B1 b9H (decide (a3T = 6)) a4q H K) ∧
 (¬ (a3T = 6) →
 (a3T = 7 →
 B1 b9H (decide (a3T = 7)) a4q H K) ∧
 (¬ (a3T = 7) →
 (a3T = 8 →
 B1 b9H (decide (a3T = 8)) a4q H K) ∧
 (¬ (a3T = 8) →
 (a3T = 9 →
 B1 b9H (decide (a3T = 9)) a4q H K) ∧
 (¬ (a3T = 9) →
 B1 b9H (decide (a3T = 10)) a4q H K)))))
def K2 (b1J : Int) (a3U : Int) (b4I : Bool) (E2 : D9) (H : Hp) (K : Bool → Hp → Prop) : Prop :=
 (b4I = true →
 K (decide (b1J = 0)) H) ∧
 (b4I = false →
 (a3U = 4 →
 K1 b1J a3U (decide (a3U = 4)) E2 H K) ∧
 (¬ (a3U = 4) →
 K1 b1J a3U (decide (a3U = 5)) E2 H K))
def X0 (x0 : D9) (H : Hp) (K : Bool → Hp → Prop) : Prop :=
 a0s (a8.C2 x0) H (fun (a0k : ByteArray) (c1e : Bool) (H_6 : Hp) =>
 ((((!decide (x0.l0.b9 = 1)) && (!decide (x0.l0.I0 = 0))) || ((!c1e) && (!decide (x0.l0.d5 = ⟨#[]⟩)))) = true →
 K false H_6) ∧
 ((((!decide (x0.l0.b9 = 1)) && (!decide (x0.l0.I0 = 0))) || ((!c1e) && (!decide (x0.l0.d5 = ⟨#[]⟩)))) = false →
 (x0.l0.b9 = 1 →
 K ((decide (0 ≤ x0.l0.I0)) && (decide ((x0.l0.y9.n : Int) = 0))) H_6) ∧
 (¬ (x0.l0.b9 = 1) →
 (x0.l0.b9 = 2 →
 K2 (x0.l0.y9.n : Int) x0.l0.b9 (decide (x0.l0.b9 = 2)) x0 H_6 K) ∧
 (¬ (x0.l0.b9 = 2) →
 K2 (x0.l0.y9.n : Int) x0.l0.b9 (decide (x0.l0.b9 = 3)) x0 H_6 K))))
theorem a8p (x0 : D9) {K : Bool → Hp → Prop} (I : Inv w0 ps0 H0 H [] w) (hR : ∀ (r0 : Bool) (H' : Hp) (w' : World) (_ : Inv w0 ps0 H0 H' [] w') (_ : K r0 H'), R (vB r0) w') (h : X0 x0 H K) : c7i (Value.agg (b8 x0.l0).toArray) w R E := by
 unfold X0 at h
 unfold c7i
 refine P2 I (cs := (b8 x0.l0)) rfl fun g_2 w_3 I_4 k_5 => ?_
 refine a7 U7 ?_
 refine a7 a3H ?_
 refine b6 (ld1 Tryd.isAgg22 (I_4.at1 (o := 3) (vs := [(vs x0.l0.y9)]) (nb rfl) rfl)) ?_
 refine a7 (a2t _ _ _) ?_
 refine b6 (ldA Tryd.isAgg123 Tryd.sizeOf123 rfl (I_4.at1 (o := 0) (vs := (b8 x0.l0)) (nb rfl) rfl)) ?_
 refine a7 (b0m x0) ?_
 refine d6 (cap := []) (fun args w => Tryd.call118 args w) ?_
 refine m6 (Fi := []) (Fr := [bx g_2 123 (b8 x0.l0)]) I_4 (h) (fun c7K H_6 c7L w_7 I_8 c7M k_9 b1K => ?_) (fun _ _ _ _ _ q => q.elim)
 obtain ⟨a0k, c1e, rfl, rfl, h⟩ := b1K
 refine a7 (m4 _ _ (Value.string a0k) rfl) ?_
 refine a7 (m4 _ _ (vB c1e) rfl) ?_
 refine a7 U7 ?_
 refine a7 V3 ?_
 refine b6 (ld1 Tryd.isAgg3 (I_8.at1 (o := 0) (vs := [(vi x0.l0.b9)]) (nb rfl) rfl)) ?_
 refine a7 (Y0 _ _ _ _ _ _) ?_
 refine a7 (Pu.g fun hb => by have d8 := hb; exact U7) ?_
 refine a7 (Pu.g fun hb => by have d8 := hb; simp only [m8 d8]; exact a7d) ?_
 refine b6 (Ld.g fun hb => by have d8 := hb; simp only [m8 d8]; exact (ld1 Tryd.isAgg2 (I_8.at1 (o := 1) (vs := [(vi x0.l0.I0)]) (nb rfl) rfl))) ?_
 refine a7 (Pu.g fun hb => by have d8 := hb; simp only [m8 d8]; exact (Y0 _ _ _ _ _ _)) ?_
 refine a7 (J9 _ _) ?_
 simp only [G8]
 refine a7 (Pu.g fun hb => by have d8 := hb; simp only [m8 d8]; exact (a0E _)) ?_
 simp only [d8C]
 refine a7 (Pu.e (a7y _ _ _) (Pu.g fun hb => by obtain ⟨d8, c2U⟩ := b4s hb; exact U7)) ?_
 refine a7 (Pu.e (a7y _ _ _) (Pu.g fun hb => by obtain ⟨d8, c2U⟩ := b4s hb; simp only [m8 hb]; exact a3J)) ?_
 refine b6 (Ld.e (a7y _ _ _) (Ld.g fun hb => by obtain ⟨d8, c2U⟩ := b4s hb; simp only [m8 hb]; exact (ld1 Tryd.isAgg9 (I_8.at1 (o := 2) (vs := [(Value.string x0.l0.d5)]) (nb rfl) rfl)))) ?_
 refine a7 (Pu.e (a7y _ _ _) (Pu.g fun hb => by obtain ⟨d8, c2U⟩ := b4s hb; simp only [m8 hb]; exact (e5w _ _ _ _ _))) ?_
 refine a7 (Pu.g fun hb => by have d8 := hb; simp only [m8 d8, d0j d8]; exact (J9 _ _)) ?_
 refine a7 (T4 _ _) ?_
 refine o8 (fun d3V => ?_) (fun d3V => ?_)
 ·replace h := h.1 d3V
  exact hR false H_6 _ I_8.drop h
 ·replace h := h.2 d3V
  refine a7 U7 ?_
  refine a7 V3 ?_
  refine b6 (ld1 Tryd.isAgg3 (I_8.at1 (o := 0) (vs := [(vi x0.l0.b9)]) (nb rfl) rfl)) ?_
  refine a7 (i6 _ _ _ _ _ _) ?_
  refine i2 (fun b6e => ?_) (fun b6e => ?_)
  ·replace h := h.1 b6e
   refine a7 U7 ?_
   refine a7 a7d ?_
   refine b6 (ld1 Tryd.isAgg2 (I_8.at1 (o := 1) (vs := [(vi x0.l0.I0)]) (nb rfl) rfl)) ?_
   refine a7 (a6y _ _ _ _ _ _) ?_
   simp only [G8]
   refine a7 (Pu.g fun hb => by have d8 := hb; simp only [m8 d8]; exact (i6 _ _ _ _ _ _)) ?_
   refine a7 (J9 _ _) ?_
   exact hR ((decide (0 ≤ x0.l0.I0)) && (decide ((x0.l0.y9.n : Int) = 0))) H_6 _ I_8.drop h
  ·replace h := h.2 b6e
   have hj1 : ∀ (b4I : Bool) (H : Hp) (w : World) (_ : Inv w0 ps0 H0 H [bx g_2 123 (b8 x0.l0)] w) (_ : K2 (x0.l0.y9.n : Int) x0.l0.b9 b4I x0 H K), b9r (vi (x0.l0.y9.n : Int)) (vi x0.l0.b9) (vB b4I) w R E := by
    intro b4I H w I h
    unfold b9r
    intro _
    unfold K2 at h
    refine o8 (fun d3W => ?_) (fun d3W => ?_)
    ·replace h := h.1 d3W
     refine a7 (i6 _ _ _ _ _ _) ?_
     exact hR (decide ((x0.l0.y9.n : Int) = 0)) H _ I.drop h
    ·replace h := h.2 d3W
     have hj2 : ∀ (b4H : Bool) (H : Hp) (w : World) (_ : Inv w0 ps0 H0 H [bx g_2 123 (b8 x0.l0)] w) (_ : K1 (x0.l0.y9.n : Int) x0.l0.b9 b4H x0 H K), b9q (vi (x0.l0.y9.n : Int)) (vi x0.l0.b9) (vB b4H) w R E := by
      intro b4H H w I h
      unfold b9q
      intro _
      unfold K1 at h
      refine o8 (fun a4N => ?_) (fun a4N => ?_)
      ·replace h := h.1 a4N
       refine a7 (i6 _ _ _ _ _ _) ?_
       exact hR (decide ((x0.l0.y9.n : Int) = 1)) H _ I.drop h
      ·replace h := h.2 a4N
       have hj3 : ∀ (b4G : Bool) (H : Hp) (w : World) (_ : Inv w0 ps0 H0 H [bx g_2 123 (b8 x0.l0)] w) (_ : B1 (x0.l0.y9.n : Int) b4G x0 H K), b9p (vi (x0.l0.y9.n : Int)) (vB b4G) w R E := by
        intro b4G H w I h
        unfold b9p
        intro _
        unfold B1 at h
        refine o8 (fun a4O => ?_) (fun a4O => ?_)
        ·replace h := h.1 a4O
         refine a7 (i6 _ _ _ _ _ _) ?_
         exact hR (decide ((x0.l0.y9.n : Int) = 2)) H _ I.drop h
        ·replace h := h.2 a4O
         exact hR false H _ I.drop h
       refine A6 fun j3 hx3 => ?_
       refine a7 (i6 _ _ _ _ _ _) ?_
       refine i2 (fun a8q => ?_) (fun a8q => ?_)
       ·replace h := h.1 a8q
        exact hx3 _ _ (hj3 (decide (x0.l0.b9 = 6)) H _ I h)
       ·replace h := h.2 a8q
        refine a7 (i6 _ _ _ _ _ _) ?_
        refine i2 (fun a8r => ?_) (fun a8r => ?_)
        ·replace h := h.1 a8r
         exact hx3 _ _ (hj3 (decide (x0.l0.b9 = 7)) H _ I h)
        ·replace h := h.2 a8r
         refine a7 (i6 _ _ _ _ _ _) ?_
         refine i2 (fun a8s => ?_) (fun a8s => ?_)
         ·replace h := h.1 a8s
          exact hx3 _ _ (hj3 (decide (x0.l0.b9 = 8)) H _ I h)
         ·replace h := h.2 a8s
          refine a7 (i6 _ _ _ _ _ _) ?_
          refine i2 (fun a8t => ?_) (fun a8t => ?_)
          ·replace h := h.1 a8t
           exact hx3 _ _ (hj3 (decide (x0.l0.b9 = 9)) H _ I h)
          ·replace h := h.2 a8t
           refine a7 (i6 _ _ _ _ _ _) ?_
           exact hx3 _ _ (hj3 (decide (x0.l0.b9 = 10)) H _ I h)
     refine A6 fun j2 hx2 => ?_
     refine a7 (i6 _ _ _ _ _ _) ?_
     refine i2 (fun a8u => ?_) (fun a8u => ?_)
     ·replace h := h.1 a8u
      exact hx2 _ _ (hj2 (decide (x0.l0.b9 = 4)) H _ I h)
     ·replace h := h.2 a8u
      refine a7 (i6 _ _ _ _ _ _) ?_
      exact hx2 _ _ (hj2 (decide (x0.l0.b9 = 5)) H _ I h)
   refine A6 fun j1 hx1 => ?_
   refine a7 (i6 _ _ _ _ _ _) ?_
   refine i2 (fun d3X => ?_) (fun d3X => ?_)
   ·replace h := h.1 d3X
    exact hx1 _ _ (hj1 (decide (x0.l0.b9 = 2)) H_6 _ I_8 h)
   ·replace h := h.2 d3X
    refine a7 (i6 _ _ _ _ _ _) ?_
    exact hx1 _ _ (hj1 (decide (x0.l0.b9 = 3)) H_6 _ I_8 h)
theorem a9g (x0 : D9) {H : Hp} {K : Bool → Hp → Prop} (h : X0 x0 H K) : a1v x0 H K := by
 intro w I
 refine e0A ?_
 refine a8p x0 I (fun r0 H' w' I' hk => ⟨H', _, I', r0, rfl, rfl, hk⟩) h
def K3 (b4J : Bool) (d1n : D4) (a4q : K7) (H : Hp) (K : Bool → Hp → Prop) : Prop :=
 (b4J = true →
 K (decide (d1n.fexprs = 0 ∧ d1n.fparts = 2)) H) ∧
 (b4J = false →
 K false H)
def K4 (a3U : Int) (b4K : Bool) (a3y : D4) (E2 : K7) (H : Hp) (K : Bool → Hp → Prop) : Prop :=
 (b4K = true →
 K (decide (a3y.fexprs = 0 ∧ a3y.fparts = 0)) H) ∧
 (b4K = false →
 (a3U = 4 →
 K (decide (a3y.fexprs = 0 ∧ a3y.fparts = 1)) H) ∧
 (¬ (a3U = 4) →
 (a3U = 5 →
 K3 (decide (a3U = 5)) a3y E2 H K) ∧
 (¬ (a3U = 5) →
 K3 (decide (a3U = 6)) a3y E2 H K)))
def X1 (x0 : K7) (H : Hp) (K : Bool → Hp → Prop) : Prop :=
 (x0.j9.b9 = 3 →
 K (((decide (1 ≤ x0.j9.fOp)) && (decide (x0.j9.fOp ≤ 6))) && (decide ((x0.j9.i8.n : Int) = 2 ∧ (x0.j9.t6.n : Int) = 0))) H) ∧
 (¬ (x0.j9.b9 = 3) →
 (¬ (x0.j9.fOp = 0) →
 K false H) ∧
 (x0.j9.fOp = 0 →
 (x0.j9.b9 = 1 →
 K4 x0.j9.b9 (decide (x0.j9.b9 = 1)) (D4.mk (x0.j9.i8.n : Int) (x0.j9.t6.n : Int)) x0 H K) ∧
 (¬ (x0.j9.b9 = 1) →
 K4 x0.j9.b9 (decide (x0.j9.b9 = 2)) (D4.mk (x0.j9.i8.n : Int) (x0.j9.t6.n : Int)) x0 H K)))
theorem a8v (x0 : K7) {K : Bool → Hp → Prop} (I : Inv w0 ps0 H0 H [] w) (hR : ∀ (r0 : Bool) (H' : Hp) (w' : World) (_ : Inv w0 ps0 H0 H' [] w') (_ : K r0 H'), R (vB r0) w') (h : X1 x0 H K) : c7m (Value.agg (i7 x0.j9).toArray) w R E := by
 unfold X1 at h
 unfold c7m
 refine P2 I (cs := (i7 x0.j9)) rfl fun g_2 w_3 I_4 k_5 => ?_
 refine a7 a0j ?_
 refine a7 a5m ?_
 refine b6 (ld1 Tryd.isAgg22 (I_4.at1 (o := 2) (vs := [(vs x0.j9.i8)]) (nb rfl) rfl)) ?_
 refine a7 (a2t _ _ _) ?_
 refine a7 a0j ?_
 refine a7 a1B ?_
 refine b6 (ld1 Tryd.isAgg25 (I_4.at1 (o := 3) (vs := [(vs x0.j9.t6)]) (nb rfl) rfl)) ?_
 refine a7 (a6A _ _ _) ?_
 refine a7 (a3L _ _) ?_
 refine A8 I_4 Tryd.zeroValue223 (cs := [(vi 0), (vi 0)]) rfl fun g_7 w_8 I_9 d3E => ?_
 refine o0 I_9 Tryd.sizeOf223 (vs := [(vi (x0.j9.i8.n : Int)), (vi (x0.j9.t6.n : Int))]) (cs' := [(vi (x0.j9.i8.n : Int)), (vi (x0.j9.t6.n : Int))]) rfl rfl (nb rfl) rfl rfl fun a0I P1 b5S => ?_
 refine a7 a0j ?_
 refine a7 a7a ?_
 refine b6 (ld1 Tryd.isAgg3 ((P1.bring 1).at1 (o := 0) (vs := [(vi x0.j9.b9)]) (nb rfl) rfl)) ?_
 refine a7 (i6 _ _ _ _ _ _) ?_
 refine i2 (fun a4N => ?_) (fun a4N => ?_)
 ·replace h := h.1 a4N
  refine a7 a0j ?_
  refine a7 a7e ?_
  refine b6 (ld1 Tryd.isAgg3 ((P1.bring 1).at1 (o := 1) (vs := [(vi x0.j9.fOp)]) (nb rfl) rfl)) ?_
  refine a7 (a6y _ _ _ _ _ _) ?_
  refine a7 (Pu.g fun hb => by have d8 := hb; exact a0j) ?_
  refine a7 (Pu.g fun hb => by have d8 := hb; simp only [m8 d8]; exact a7e) ?_
  refine b6 (Ld.g fun hb => by have d8 := hb; simp only [m8 d8]; exact (ld1 Tryd.isAgg3 ((P1.bring 1).at1 (o := 1) (vs := [(vi x0.j9.fOp)]) (nb rfl) rfl))) ?_
  refine a7 (Pu.g fun hb => by have d8 := hb; simp only [m8 d8]; exact (b2K _ _ _ _ _ _)) ?_
  refine a7 (J9 _ _) ?_
  refine b6 (Ld.g fun hb => by have d8 := hb; exact (ldA Tryd.isAgg223 Tryd.sizeOf223 rfl (P1.at1 (o := 0) (vs := [(vi (x0.j9.i8.n : Int)), (vi (x0.j9.t6.n : Int))]) (nb rfl) rfl))) ?_
  refine a7 (Pu.g fun hb => by have d8 := hb; exact (a3L _ _)) ?_
  refine a7 (Pu.g fun hb => by have d8 := hb; simp only [m8 d8]; exact (a9t _ _ _ _ _ _)) ?_
  refine a7 (J9 _ _) ?_
  exact hR (((decide (1 ≤ x0.j9.fOp)) && (decide (x0.j9.fOp ≤ 6))) && (decide ((x0.j9.i8.n : Int) = 2 ∧ (x0.j9.t6.n : Int) = 0))) H _ P1.drop.drop h
 ·replace h := h.2 a4N
  refine a7 a0j ?_
  refine a7 a7e ?_
  refine b6 (ld1 Tryd.isAgg3 ((P1.bring 1).at1 (o := 1) (vs := [(vi x0.j9.fOp)]) (nb rfl) rfl)) ?_
  refine a7 (Y0 _ _ _ _ _ _) ?_
  refine a5a (fun a8q => ?_) (fun a8q => ?_)
  ·replace h := h.1 a8q
   exact hR false H _ P1.drop.drop h
  ·replace h := h.2 a8q
   refine a7 a0j ?_
   refine a7 a7a ?_
   refine b6 (ld1 Tryd.isAgg3 ((P1.bring 1).at1 (o := 0) (vs := [(vi x0.j9.b9)]) (nb rfl) rfl)) ?_
   have hj1 : ∀ (b4K : Bool) (H : Hp) (w : World) (_ : Inv w0 ps0 H0 H [bx g_7 223 [(vi (D4.mk (x0.j9.i8.n : Int) (x0.j9.t6.n : Int)).fexprs), (vi (D4.mk (x0.j9.i8.n : Int) (x0.j9.t6.n : Int)).fparts)], bx g_2 138 (i7 x0.j9)] w) (_ : K4 x0.j9.b9 b4K (D4.mk (x0.j9.i8.n : Int) (x0.j9.t6.n : Int)) x0 H K), b9v (Value.pointer (some ⟨g_7, 0, none⟩)) (vi x0.j9.b9) (vB b4K) w R E := by
    intro b4K H w I h
    unfold b9v
    intro _
    unfold K4 at h
    refine o8 (fun a8s => ?_) (fun a8s => ?_)
    ·replace h := h.1 a8s
     refine b6 (ldA Tryd.isAgg223 Tryd.sizeOf223 rfl (I.at1 (o := 0) (vs := [(vi (D4.mk (x0.j9.i8.n : Int) (x0.j9.t6.n : Int)).fexprs), (vi (D4.mk (x0.j9.i8.n : Int) (x0.j9.t6.n : Int)).fparts)]) (nb rfl) rfl)) ?_
     refine a7 (c6U ) ?_
     refine a7 (a9t _ _ _ _ _ _) ?_
     exact hR (decide ((D4.mk (x0.j9.i8.n : Int) (x0.j9.t6.n : Int)).fexprs = 0 ∧ (D4.mk (x0.j9.i8.n : Int) (x0.j9.t6.n : Int)).fparts = 0)) H _ I.drop.drop h
    ·replace h := h.2 a8s
     refine a7 (i6 _ _ _ _ _ _) ?_
     refine i2 (fun a8t => ?_) (fun a8t => ?_)
     ·replace h := h.1 a8t
      refine b6 (ldA Tryd.isAgg223 Tryd.sizeOf223 rfl (I.at1 (o := 0) (vs := [(vi (D4.mk (x0.j9.i8.n : Int) (x0.j9.t6.n : Int)).fexprs), (vi (D4.mk (x0.j9.i8.n : Int) (x0.j9.t6.n : Int)).fparts)]) (nb rfl) rfl)) ?_
      refine a7 (a3L _ _) ?_
      refine a7 (a9t _ _ _ _ _ _) ?_
      exact hR (decide ((D4.mk (x0.j9.i8.n : Int) (x0.j9.t6.n : Int)).fexprs = 0 ∧ (D4.mk (x0.j9.i8.n : Int) (x0.j9.t6.n : Int)).fparts = 1)) H _ I.drop.drop h
     ·replace h := h.2 a8t
      have hj2 : ∀ (b4J : Bool) (H : Hp) (w : World) (_ : Inv w0 ps0 H0 H [bx g_7 223 [(vi (D4.mk (x0.j9.i8.n : Int) (x0.j9.t6.n : Int)).fexprs), (vi (D4.mk (x0.j9.i8.n : Int) (x0.j9.t6.n : Int)).fparts)], bx g_2 138 (i7 x0.j9)] w) (_ : K3 b4J (D4.mk (x0.j9.i8.n : Int) (x0.j9.t6.n : Int)) x0 H K), b9u (Value.pointer (some ⟨g_7, 0, none⟩)) (vB b4J) w R E := by
       intro b4J H w I h
       unfold b9u
       intro _
       unfold K3 at h
       refine o8 (fun b6f => ?_) (fun b6f => ?_)
       ·replace h := h.1 b6f
        refine b6 (ldA Tryd.isAgg223 Tryd.sizeOf223 rfl (I.at1 (o := 0) (vs := [(vi (D4.mk (x0.j9.i8.n : Int) (x0.j9.t6.n : Int)).fexprs), (vi (D4.mk (x0.j9.i8.n : Int) (x0.j9.t6.n : Int)).fparts)]) (nb rfl) rfl)) ?_
        refine a7 (a3L _ _) ?_
        refine a7 (a9t _ _ _ _ _ _) ?_
        exact hR (decide ((D4.mk (x0.j9.i8.n : Int) (x0.j9.t6.n : Int)).fexprs = 0 ∧ (D4.mk (x0.j9.i8.n : Int) (x0.j9.t6.n : Int)).fparts = 2)) H _ I.drop.drop h
       ·replace h := h.2 b6f
        exact hR false H _ I.drop.drop h
      refine A6 fun j2 hx2 => ?_
      refine a7 (i6 _ _ _ _ _ _) ?_
      refine i2 (fun a4O => ?_) (fun a4O => ?_)
      ·replace h := h.1 a4O
       exact hx2 _ _ (hj2 (decide (x0.j9.b9 = 5)) H _ ((I.bring 1).bring 1) h)
      ·replace h := h.2 a4O
       refine a7 (i6 _ _ _ _ _ _) ?_
       exact hx2 _ _ (hj2 (decide (x0.j9.b9 = 6)) H _ ((I.bring 1).bring 1) h)
   refine A6 fun j1 hx1 => ?_
   refine a7 (i6 _ _ _ _ _ _) ?_
   refine i2 (fun a8r => ?_) (fun a8r => ?_)
   ·replace h := h.1 a8r
    exact hx1 _ _ (hj1 (decide (x0.j9.b9 = 1)) H _ ((P1.bring 1).bring 1) h)
   ·replace h := h.2 a8r
    refine a7 (i6 _ _ _ _ _ _) ?_
    exact hx1 _ _ (hj1 (decide (x0.j9.b9 = 2)) H _ ((P1.bring 1).bring 1) h)
theorem a9h (x0 : K7) {H : Hp} {K : Bool → Hp → Prop} (h : X1 x0 H K) : a1w x0 H K := by
 intro w I
 refine e0J ?_
 refine a8v x0 I (fun r0 H' w' I' hk => ⟨H', _, I', r0, rfl, rfl, hk⟩) h
def v8 (V7 : (List a8)) (H : Hp) (K : Sl → Hp → Prop) : Prop :=
 ∀ (E0 : Sl) (Y8 : Hp), Hle H Y8 → SlH Y8 1 o2 E0 V7 → E0.n ≤ E0.c →
 K E0 Y8
def y4 (a0z : Sl) (Y9 : Int) (s6 : (List a8)) (p9 : Int) (H : Hp) (n2 : ((List a8) × Int) → Hp → Prop) (K : Sl → Hp → Prop) : Prop :=
 (p9 < Y9 →
 (0 : Int) ≤ p9 ∧ (p9 : Int) < a0z.n ∧ ∃ x_1 : u5, EltH H a0z p9 4 (i7 x_1) ∧
 a5H x_1 H (fun (P5 : a8) (Z0 : Hp) =>
 (s6.length + ([P5] : List a8).length) * 17 ≤ 140737488355328 ∧
 n2 ((s6 ++ [P5]), (IntKind.wrap .i64 (p9 + 1))) Z0)) ∧
 (¬ (p9 < Y9) →
 v8 s6 H K)
def A4 (x0 : Sl) (H : Hp) (K : Sl → Hp → Prop) : Prop :=
 TL (([], 0) : (List a8) × Int) H fun (s : (List a8) × Int) H n2 => y4 x0 (x0.n : Int) s.1 s.2 H n2 K
theorem Y4 (x0 : Sl) {K : Sl → Hp → Prop} (I : Inv w0 ps0 H0 H [] w) (hR : ∀ (r0 : Sl) (H' : Hp) (w' : World) (_ : Inv w0 ps0 H0 H' [] w') (_ : K r0 H'), R (vs r0) w') (h : A4 x0 H K) : c7p (vs x0) (fC 176) w R E := by
 unfold A4 at h
 unfold c7p
 have hj1 : ∀ (V7 : (List a8)) (E0 : Sl) (Fs5j1 : Frag) (H : Hp) (w : World) (_ : RowL 152 1 o2 E0 V7 Fs5j1) (_ : Inv w0 ps0 H0 H [Fs5j1] w) (_ : v8 V7 H K), b9w (vs E0) w R E := by
  intro V7 E0 Fs5j1 H w b1A I h
  unfold b9w
  intro _
  unfold v8 at h
  obtain ⟨Y8, a4K, b3t, a8j, a9W⟩ := Inv.freezeC I b1A (by decide)
  replace h := h E0 Y8 b3t a8j a9W
  exact hR E0 Y8 _ a4K h
 refine A6 fun j1 hx1 => ?_
 refine a7 (a6A _ _ _) ?_
 obtain ⟨a4L, a1j, b5X, b5Y⟩ := h
 refine M6 (J := fun n l w => ∃ (s : (List a8) × Int) (H : Hp) (V8 : Sl) (Fs5l2 : Frag) , n = a1j s ∧ l = (match s with | (s6, p9) => [(vs V8), (vi p9)]) ∧ (match s with | (s6, p9) => RowL 152 1 o2 V8 s6 Fs5l2) ∧ (match s with | (s6, p9) => Inv w0 ps0 H0 H [Fs5l2] w) ∧ a4L s H) ⟨_, ([], 0), H, (Sl.mk none 0 0), [], rfl, rfl, (RowL.nil M7 O9), I.nil, b5X⟩ ?_
 rintro d3I τ_50 w next2 ⟨⟨s6, p9⟩, H, V8, Fs5l2, rfl, a4M, a2I, I, a5I⟩ hn2
 dsimp only at a4M I a2I
 simp only [List.map_cons, List.map_nil, List.cons.injEq, and_true] at a4M
 obtain ⟨e5, e10⟩ := a4M
 simp only [e5, e10]
 obtain ⟨n2, hm2, h⟩ : ∃ n2 : ((List a8) × Int) → Hp → Prop, (∀ s' H', n2 s' H' → a4L s' H' ∧ a1j s' < a1j (s6, p9)) ∧ y4 x0 (x0.n : Int) s6 p9 H n2 K := ⟨_, fun _ _ h => h, b5Y (s6, p9) H (fun s' H' => a4L s' H' ∧ a1j s' < a1j (s6, p9)) a5I (fun _ _ a b => ⟨a, b⟩)⟩
 unfold c6e
 unfold y4 at h
 refine a7 (B7 _ _ _ _ _ _) ?_
 refine i2 (fun a2H => ?_) (fun a2H => ?_)
 ·replace h := h.1 a2H
  obtain ⟨h_4, h_5, x_1, h_7, h⟩ := h
  obtain ⟨g_2, o_3, h_6, h_7⟩ := h_7
  refine a7 (a2x h_6 _ _ _ _ h_4 h_5) ?_
  refine b6 (ldA (vs := (i7 x_1)) Tryd.isAgg27 Tryd.sizeOf27 rfl (I.atH h_7)) ?_
  refine A8 I Tryd.zeroValue27 (cs := [(vi 0), (vi 0), (nS), (nS)]) rfl fun g_9 m7 a3x b5Z => ?_
  refine o0 a3x Tryd.sizeOf27 (vs := (i7 x_1)) (cs' := (i7 x_1)) rfl rfl (nb rfl) rfl rfl fun a0w T2 a2q => ?_
  refine b6 (ldA Tryd.isAgg27 Tryd.sizeOf27 rfl (T2.at1 (o := 0) (vs := (i7 x_1)) (nb rfl) rfl)) ?_
  refine d6 (cap := []) (fun args w => Tryd.call176 args w) ?_
  refine m6 (Fi := []) (Fr := [bx g_9 27 (i7 x_1), Fs5l2]) T2 (h) (fun c7E Z0 c7F a2k a4J b9E c7G b1B => ?_) (fun _ _ _ _ _ q => q.elim)
  obtain ⟨P5, rfl, rfl, h⟩ := b1B
  refine W7 (e := 152) (c := o2) (xs := [P5]) a4J (b1c _) rfl rfl M7 O9 (nb rfl) fun c2X b9F C0 a8k a6b c7H => ?_
  obtain ⟨b1C, h⟩ := h
  refine b0n (s := V8) (xs := s6) (a6b.bring 2) a2I (a8k.srcO ((a6b.bring 2).bring 1)) b1C fun b6a b6b C3 b1w a6Q c7I => ?_
  refine a7 (G6 _ _ _ _ _ _) ?_
  exact hn2 _ _ _ (hm2 _ _ h).2 ⟨((s6 ++ [P5]), (IntKind.wrap .i64 (p9 + 1))), Z0, b6a, b6b, rfl, rfl, b1w, ((a6Q.bring 1).drop.bring 1).drop, (hm2 _ _ h).1⟩
 ·replace h := h.2 a2H
  exact hx1 _ _ (hj1 s6 V8 Fs5l2 H _ a2I I h)
theorem Z3 (x0 : Sl) {H : Hp} {K : Sl → Hp → Prop} (h : A4 x0 H K) : z7 x0 H K := by
 intro w I
 refine e0N ?_
 refine Y4 x0 I (fun r0 H' w' I' hk => ⟨H', _, I', r0, rfl, rfl, hk⟩) h
def X2 (x0 : N3) (H : Hp) (K : Bool → Hp → Prop) : Prop :=
 K ((decide (0 ≤ x0.N4.E4)) && (decide (x0.N4.E4 ≤ 2147483647))) H
theorem a8w (x0 : N3) {K : Bool → Hp → Prop} (I : Inv w0 ps0 H0 H [] w) (hR : ∀ (r0 : Bool) (H' : Hp) (w' : World) (_ : Inv w0 ps0 H0 H' [] w') (_ : K r0 H'), R (vB r0) w') (h : X2 x0 H K) : c7r (Value.agg (m3 x0.N4).toArray) w R E := by
 unfold X2 at h
 unfold c7r
 refine P2 I (cs := (m3 x0.N4)) rfl fun g_2 w_3 I_4 k_5 => ?_
 refine a7 a9Q ?_
 refine a7 a2y ?_
 refine b6 (ld1 Tryd.isAgg3 (I_4.at1 (o := 1) (vs := [(vi x0.N4.E4)]) (nb rfl) rfl)) ?_
 refine a7 (a6y _ _ _ _ _ _) ?_
 refine a7 (Pu.g fun hb => by have d8 := hb; exact a9Q) ?_
 refine a7 (Pu.g fun hb => by have d8 := hb; simp only [m8 d8]; exact a2y) ?_
 refine b6 (Ld.g fun hb => by have d8 := hb; simp only [m8 d8]; exact (ld1 Tryd.isAgg3 (I_4.at1 (o := 1) (vs := [(vi x0.N4.E4)]) (nb rfl) rfl))) ?_
 refine a7 (Pu.g fun hb => by have d8 := hb; simp only [m8 d8]; exact (b2K _ _ _ _ _ _)) ?_
 refine a7 (J9 _ _) ?_
 exact hR ((decide (0 ≤ x0.N4.E4)) && (decide (x0.N4.E4 ≤ 2147483647))) H _ I_4.drop h
theorem a9i (x0 : N3) {H : Hp} {K : Bool → Hp → Prop} (h : X2 x0 H K) : a4h x0 H K := by
 intro w I
 refine e0R ?_
 refine a8w x0 I (fun r0 H' w' I' hk => ⟨H', _, I', r0, rfl, rfl, hk⟩) h
def K5 (b1L : Bool) (d8G : Int) (b4L : Bool) (a3y : L1) (E2 : K8) (H : Hp) (K : Bool → Hp → Prop) : Prop :=
 (b4L = true →
 K (b1L && (decide (a3y.fexprs = 0 ∧ a3y.fconds = 1))) H) ∧
 (b4L = false →
 (d8G = 7 →
 K (b1L && (decide (a3y.fexprs = 0 ∧ a3y.fconds = 0))) H) ∧
 (¬ (d8G = 7) →
 K false H))
def X3 (x0 : K8) (H : Hp) (K : Bool → Hp → Prop) : Prop :=
 (x0.d7.b9 = 1 →
 K ((!(decide (0 < (IntKind.wrap .i64 ((x0.d7.G9.n : Int) + (x0.d7.G3.n : Int)))))) && (decide ((x0.d7.i8.n : Int) = 1 ∧ (x0.d7.q9.n : Int) = 0))) H) ∧
 (¬ (x0.d7.b9 = 1) →
 (x0.d7.b9 = 2 →
 K ((!(decide (0 < (IntKind.wrap .i64 ((x0.d7.G9.n : Int) + (x0.d7.G3.n : Int)))))) && (decide ((x0.d7.i8.n : Int) = 2 ∧ (x0.d7.q9.n : Int) = 0))) H) ∧
 (¬ (x0.d7.b9 = 2) →
 (x0.d7.b9 = 3 →
 K ((decide (x0.d7.d5 = ⟨#[]⟩)) && (decide ((x0.d7.i8.n : Int) = 0 ∧ (x0.d7.q9.n : Int) = 1))) H) ∧
 (¬ (x0.d7.b9 = 3) →
 (x0.d7.b9 = 4 →
 K (((decide (x0.d7.d5 = ⟨#[]⟩)) && (decide ((x0.d7.G3.n : Int) = 0))) && (decide ((x0.d7.i8.n : Int) = 0 ∧ (x0.d7.q9.n : Int) = 1))) H) ∧
 (¬ (x0.d7.b9 = 4) →
 (x0.d7.b9 = 5 →
 K5 ((decide (x0.d7.d5 = ⟨#[]⟩)) && (!(decide (0 < (IntKind.wrap .i64 ((x0.d7.G9.n : Int) + (x0.d7.G3.n : Int))))))) x0.d7.b9 (decide (x0.d7.b9 = 5)) (L1.mk (x0.d7.i8.n : Int) (x0.d7.q9.n : Int)) x0 H K) ∧
 (¬ (x0.d7.b9 = 5) →
 K5 ((decide (x0.d7.d5 = ⟨#[]⟩)) && (!(decide (0 < (IntKind.wrap .i64 ((x0.d7.G9.n : Int) + (x0.d7.G3.n : Int))))))) x0.d7.b9 (decide (x0.d7.b9 = 6)) (L1.mk (x0.d7.i8.n : Int) (x0.d7.q9.n : Int)) x0 H K)))))
theorem a8x (x0 : K8) {K : Bool → Hp → Prop} (I : Inv w0 ps0 H0 H [] w) (hR : ∀ (r0 : Bool) (H' : Hp) (w' : World) (_ : Inv w0 ps0 H0 H' [] w') (_ : K r0 H'), R (vB r0) w') (h : X3 x0 H K) : c7t (Value.agg (f8 x0.d7).toArray) w R E := by
 unfold X3 at h
 unfold c7t
 refine P2 I (cs := (f8 x0.d7)) rfl fun g_2 w_3 I_4 k_5 => ?_
 refine a7 J8 ?_
 refine a7 a5q ?_
 refine b6 (ld1 Tryd.isAgg42 (I_4.at1 (o := 4) (vs := [(vs x0.d7.G9)]) (nb rfl) rfl)) ?_
 refine a7 (a5c _ _ _) ?_
 refine a7 J8 ?_
 refine a7 a5r ?_
 refine b6 (ld1 Tryd.isAgg42 (I_4.at1 (o := 5) (vs := [(vs x0.d7.G3)]) (nb rfl) rfl)) ?_
 refine a7 (a5c _ _ _) ?_
 refine a7 (G6 _ _ _ _ _ _) ?_
 refine a7 (a1f _ _ _ _ _ _) ?_
 refine a7 J8 ?_
 refine a7 a5p ?_
 refine b6 (ld1 Tryd.isAgg22 (I_4.at1 (o := 2) (vs := [(vs x0.d7.i8)]) (nb rfl) rfl)) ?_
 refine a7 (a2t _ _ _) ?_
 refine a7 J8 ?_
 refine a7 a7g ?_
 refine b6 (ld1 Tryd.isAgg25 (I_4.at1 (o := 3) (vs := [(vs x0.d7.q9)]) (nb rfl) rfl)) ?_
 refine a7 (a6A _ _ _) ?_
 refine a7 (a1b _ _) ?_
 refine A8 I_4 Tryd.zeroValue227 (cs := [(vi 0), (vi 0)]) rfl fun g_7 w_8 I_9 d3E => ?_
 refine o0 I_9 Tryd.sizeOf227 (vs := [(vi (x0.d7.i8.n : Int)), (vi (x0.d7.q9.n : Int))]) (cs' := [(vi (x0.d7.i8.n : Int)), (vi (x0.d7.q9.n : Int))]) rfl rfl (nb rfl) rfl rfl fun a0I P1 b5S => ?_
 refine a7 J8 ?_
 refine a7 a1C ?_
 refine b6 (ld1 Tryd.isAgg9 ((P1.bring 1).at1 (o := 1) (vs := [(Value.string x0.d7.d5)]) (nb rfl) rfl)) ?_
 refine a7 (a0F _ _ _ _ _) ?_
 simp only [G8]
 refine a7 (Pu.g fun hb => by have d8 := hb; simp only [m8 d8]; exact (a0E _)) ?_
 refine a7 (J9 _ _) ?_
 refine a7 J8 ?_
 refine a7 a5o ?_
 refine b6 (ld1 Tryd.isAgg3 ((P1.bring 1).at1 (o := 0) (vs := [(vi x0.d7.b9)]) (nb rfl) rfl)) ?_
 refine a7 (i6 _ _ _ _ _ _) ?_
 refine i2 (fun a4N => ?_) (fun a4N => ?_)
 ·replace h := h.1 a4N
  refine a7 (a0E _) ?_
  refine b6 (Ld.g fun hb => by have d8 := hb; exact (ldA Tryd.isAgg227 Tryd.sizeOf227 rfl (P1.at1 (o := 0) (vs := [(vi (x0.d7.i8.n : Int)), (vi (x0.d7.q9.n : Int))]) (nb rfl) rfl))) ?_
  refine a7 (Pu.g fun hb => by have d8 := hb; exact (a1b _ _)) ?_
  refine a7 (Pu.g fun hb => by have d8 := hb; simp only [m8 d8]; exact (a5d _ _ _ _ _ _)) ?_
  refine a7 (J9 _ _) ?_
  exact hR ((!(decide (0 < (IntKind.wrap .i64 ((x0.d7.G9.n : Int) + (x0.d7.G3.n : Int)))))) && (decide ((x0.d7.i8.n : Int) = 1 ∧ (x0.d7.q9.n : Int) = 0))) H _ P1.drop.drop h
 ·replace h := h.2 a4N
  refine a7 (i6 _ _ _ _ _ _) ?_
  refine i2 (fun a8q => ?_) (fun a8q => ?_)
  ·replace h := h.1 a8q
   refine a7 (a0E _) ?_
   refine b6 (Ld.g fun hb => by have d8 := hb; exact (ldA Tryd.isAgg227 Tryd.sizeOf227 rfl (P1.at1 (o := 0) (vs := [(vi (x0.d7.i8.n : Int)), (vi (x0.d7.q9.n : Int))]) (nb rfl) rfl))) ?_
   refine a7 (Pu.g fun hb => by have d8 := hb; exact (a1b _ _)) ?_
   refine a7 (Pu.g fun hb => by have d8 := hb; simp only [m8 d8]; exact (a5d _ _ _ _ _ _)) ?_
   refine a7 (J9 _ _) ?_
   exact hR ((!(decide (0 < (IntKind.wrap .i64 ((x0.d7.G9.n : Int) + (x0.d7.G3.n : Int)))))) && (decide ((x0.d7.i8.n : Int) = 2 ∧ (x0.d7.q9.n : Int) = 0))) H _ P1.drop.drop h
  ·replace h := h.2 a8q
   refine a7 (i6 _ _ _ _ _ _) ?_
   refine i2 (fun a8r => ?_) (fun a8r => ?_)
   ·replace h := h.1 a8r
    refine a7 J8 ?_
    refine a7 a1C ?_
    refine b6 (ld1 Tryd.isAgg9 ((P1.bring 1).at1 (o := 1) (vs := [(Value.string x0.d7.d5)]) (nb rfl) rfl)) ?_
    refine a7 (a0F _ _ _ _ _) ?_
    refine b6 (Ld.g fun hb => by have d8 := hb; exact (ldA Tryd.isAgg227 Tryd.sizeOf227 rfl (P1.at1 (o := 0) (vs := [(vi (x0.d7.i8.n : Int)), (vi (x0.d7.q9.n : Int))]) (nb rfl) rfl))) ?_
    refine a7 (Pu.g fun hb => by have d8 := hb; exact (a1b _ _)) ?_
    refine a7 (Pu.g fun hb => by have d8 := hb; simp only [m8 d8]; exact (a5d _ _ _ _ _ _)) ?_
    refine a7 (J9 _ _) ?_
    exact hR ((decide (x0.d7.d5 = ⟨#[]⟩)) && (decide ((x0.d7.i8.n : Int) = 0 ∧ (x0.d7.q9.n : Int) = 1))) H _ P1.drop.drop h
   ·replace h := h.2 a8r
    refine a7 (i6 _ _ _ _ _ _) ?_
    refine i2 (fun a8s => ?_) (fun a8s => ?_)
    ·replace h := h.1 a8s
     refine a7 J8 ?_
     refine a7 a1C ?_
     refine b6 (ld1 Tryd.isAgg9 ((P1.bring 1).at1 (o := 1) (vs := [(Value.string x0.d7.d5)]) (nb rfl) rfl)) ?_
     refine a7 (a0F _ _ _ _ _) ?_
     refine a7 (Pu.g fun hb => by have d8 := hb; exact J8) ?_
     refine a7 (Pu.g fun hb => by have d8 := hb; simp only [m8 d8]; exact a5r) ?_
     refine b6 (Ld.g fun hb => by have d8 := hb; simp only [m8 d8]; exact (ld1 Tryd.isAgg42 ((P1.bring 1).at1 (o := 5) (vs := [(vs x0.d7.G3)]) (nb rfl) rfl))) ?_
     refine a7 (Pu.g fun hb => by have d8 := hb; simp only [m8 d8]; exact (a5c _ _ _)) ?_
     refine a7 (Pu.g fun hb => by have d8 := hb; simp only [m8 d8]; exact (i6 _ _ _ _ _ _)) ?_
     refine a7 (J9 _ _) ?_
     refine b6 (Ld.g fun hb => by have d8 := hb; exact (ldA Tryd.isAgg227 Tryd.sizeOf227 rfl (P1.at1 (o := 0) (vs := [(vi (x0.d7.i8.n : Int)), (vi (x0.d7.q9.n : Int))]) (nb rfl) rfl))) ?_
     refine a7 (Pu.g fun hb => by have d8 := hb; exact (a1b _ _)) ?_
     refine a7 (Pu.g fun hb => by have d8 := hb; simp only [m8 d8]; exact (a5d _ _ _ _ _ _)) ?_
     refine a7 (J9 _ _) ?_
     exact hR (((decide (x0.d7.d5 = ⟨#[]⟩)) && (decide ((x0.d7.G3.n : Int) = 0))) && (decide ((x0.d7.i8.n : Int) = 0 ∧ (x0.d7.q9.n : Int) = 1))) H _ P1.drop.drop h
    ·replace h := h.2 a8s
     have hj1 : ∀ (b4L : Bool) (H : Hp) (w : World) (_ : Inv w0 ps0 H0 H [bx g_7 227 [(vi (L1.mk (x0.d7.i8.n : Int) (x0.d7.q9.n : Int)).fexprs), (vi (L1.mk (x0.d7.i8.n : Int) (x0.d7.q9.n : Int)).fconds)], bx g_2 179 (f8 x0.d7)] w) (_ : K5 ((decide (x0.d7.d5 = ⟨#[]⟩)) && (!(decide (0 < (IntKind.wrap .i64 ((x0.d7.G9.n : Int) + (x0.d7.G3.n : Int))))))) x0.d7.b9 b4L (L1.mk (x0.d7.i8.n : Int) (x0.d7.q9.n : Int)) x0 H K), b9x (Value.pointer (some ⟨g_7, 0, none⟩)) (vB ((decide (x0.d7.d5 = ⟨#[]⟩)) && (!(decide (0 < (IntKind.wrap .i64 ((x0.d7.G9.n : Int) + (x0.d7.G3.n : Int)))))))) (vi x0.d7.b9) (vB b4L) w R E := by
      intro b4L H w I h
      unfold b9x
      intro _
      unfold K5 at h
      refine o8 (fun a4O => ?_) (fun a4O => ?_)
      ·replace h := h.1 a4O
       refine b6 (Ld.g fun hb => by have d8 := hb; exact (ldA Tryd.isAgg227 Tryd.sizeOf227 rfl (I.at1 (o := 0) (vs := [(vi (L1.mk (x0.d7.i8.n : Int) (x0.d7.q9.n : Int)).fexprs), (vi (L1.mk (x0.d7.i8.n : Int) (x0.d7.q9.n : Int)).fconds)]) (nb rfl) rfl))) ?_
       refine a7 (Pu.g fun hb => by have d8 := hb; exact (a1b _ _)) ?_
       refine a7 (Pu.g fun hb => by have d8 := hb; simp only [m8 d8]; exact (a5d _ _ _ _ _ _)) ?_
       refine a7 (J9 _ _) ?_
       exact hR (((decide (x0.d7.d5 = ⟨#[]⟩)) && (!(decide (0 < (IntKind.wrap .i64 ((x0.d7.G9.n : Int) + (x0.d7.G3.n : Int))))))) && (decide ((L1.mk (x0.d7.i8.n : Int) (x0.d7.q9.n : Int)).fexprs = 0 ∧ (L1.mk (x0.d7.i8.n : Int) (x0.d7.q9.n : Int)).fconds = 1))) H _ I.drop.drop h
      ·replace h := h.2 a4O
       refine a7 (i6 _ _ _ _ _ _) ?_
       refine i2 (fun b6f => ?_) (fun b6f => ?_)
       ·replace h := h.1 b6f
        refine b6 (Ld.g fun hb => by have d8 := hb; exact (ldA Tryd.isAgg227 Tryd.sizeOf227 rfl (I.at1 (o := 0) (vs := [(vi (L1.mk (x0.d7.i8.n : Int) (x0.d7.q9.n : Int)).fexprs), (vi (L1.mk (x0.d7.i8.n : Int) (x0.d7.q9.n : Int)).fconds)]) (nb rfl) rfl))) ?_
        refine a7 (Pu.g fun hb => by have d8 := hb; exact (c6V )) ?_
        refine a7 (Pu.g fun hb => by have d8 := hb; simp only [m8 d8]; exact (a5d _ _ _ _ _ _)) ?_
        refine a7 (J9 _ _) ?_
        exact hR (((decide (x0.d7.d5 = ⟨#[]⟩)) && (!(decide (0 < (IntKind.wrap .i64 ((x0.d7.G9.n : Int) + (x0.d7.G3.n : Int))))))) && (decide ((L1.mk (x0.d7.i8.n : Int) (x0.d7.q9.n : Int)).fexprs = 0 ∧ (L1.mk (x0.d7.i8.n : Int) (x0.d7.q9.n : Int)).fconds = 0))) H _ I.drop.drop h
       ·replace h := h.2 b6f
        exact hR false H _ I.drop.drop h
     refine A6 fun j1 hx1 => ?_
     refine a7 (i6 _ _ _ _ _ _) ?_
     refine i2 (fun a8t => ?_) (fun a8t => ?_)
     ·replace h := h.1 a8t
      exact hx1 _ _ (hj1 (decide (x0.d7.b9 = 5)) H _ ((P1.bring 1).bring 1) h)
     ·replace h := h.2 a8t
      refine a7 (i6 _ _ _ _ _ _) ?_
      exact hx1 _ _ (hj1 (decide (x0.d7.b9 = 6)) H _ ((P1.bring 1).bring 1) h)
theorem a9j (x0 : K8) {H : Hp} {K : Bool → Hp → Prop} (h : X3 x0 H K) : a1x x0 H K := by
 intro w I
 refine e1u ?_
 refine a8x x0 I (fun r0 H' w' I' hk => ⟨H', _, I', r0, rfl, rfl, hk⟩) h
end Go.Proofs.YtnhkdkcgdcgmdaaDoor
