/- Typed formulas of the program's functions, and the theorems that the contracts follow from them; printed by lift.py off the code. -/
import Derived.Test.YtnhkdkcgdcgmdaaDoorzLV1
namespace Go.Proofs.YtnhkdkcgdcgmdaaDoor
open Go.RowKit
set_option maxRecDepth 100000
set_option maxHeartbeats 2000000
variable {w0 w : World} {ps0 : Nat → Prop} {H0 H : Hp} {R : RT} {E : Pan}
def m7 (r8 : Bool) (H : Hp) (K : Bool → Hp → Prop) : Prop :=
 (r8 = true →
 K true H) ∧
 (r8 = false →
 K false H)
def a1V (x0 : ByteArray) (H : Hp) (K : Bool → Hp → Prop) : Prop :=
 (x0 = ⟨#[118, 97, 114]⟩ →
 m7 (decide (x0 = ⟨#[118, 97, 114]⟩)) H K) ∧
 (¬ (x0 = ⟨#[118, 97, 114]⟩) →
 (x0 = ⟨#[97, 114, 114, 97, 121]⟩ →
 m7 (decide (x0 = ⟨#[97, 114, 114, 97, 121]⟩)) H K) ∧
 (¬ (x0 = ⟨#[97, 114, 114, 97, 121]⟩) →
 (x0 = ⟨#[105, 102]⟩ →
 m7 (decide (x0 = ⟨#[105, 102]⟩)) H K) ∧
 (¬ (x0 = ⟨#[105, 102]⟩) →
 (x0 = ⟨#[101, 108, 115, 101]⟩ →
 m7 (decide (x0 = ⟨#[101, 108, 115, 101]⟩)) H K) ∧
 (¬ (x0 = ⟨#[101, 108, 115, 101]⟩) →
 (x0 = ⟨#[119, 104, 105, 108, 101]⟩ →
 m7 (decide (x0 = ⟨#[119, 104, 105, 108, 101]⟩)) H K) ∧
 (¬ (x0 = ⟨#[119, 104, 105, 108, 101]⟩) →
 (x0 = ⟨#[97, 115, 115, 101, 114, 116]⟩ →
 m7 (decide (x0 = ⟨#[97, 115, 115, 101, 114, 116]⟩)) H K) ∧
 (¬ (x0 = ⟨#[97, 115, 115, 101, 114, 116]⟩) →
 (x0 = ⟨#[97, 115, 115, 117, 109, 101]⟩ →
 m7 (decide (x0 = ⟨#[97, 115, 115, 117, 109, 101]⟩)) H K) ∧
 (¬ (x0 = ⟨#[97, 115, 115, 117, 109, 101]⟩) →
 (x0 = ⟨#[115, 107, 105, 112]⟩ →
 m7 (decide (x0 = ⟨#[115, 107, 105, 112]⟩)) H K) ∧
 (¬ (x0 = ⟨#[115, 107, 105, 112]⟩) →
 (x0 = ⟨#[105, 110, 112, 117, 116]⟩ →
 m7 (decide (x0 = ⟨#[105, 110, 112, 117, 116]⟩)) H K) ∧
 (¬ (x0 = ⟨#[105, 110, 112, 117, 116]⟩) →
 (x0 = ⟨#[116, 114, 117, 101]⟩ →
 m7 (decide (x0 = ⟨#[116, 114, 117, 101]⟩)) H K) ∧
 (¬ (x0 = ⟨#[116, 114, 117, 101]⟩) →
 m7 (decide (x0 = ⟨#[102, 97, 108, 115, 101]⟩)) H K))))))))))
theorem b3y (x0 : ByteArray) {K : Bool → Hp → Prop} (I : Inv w0 ps0 H0 H [] w) (hR : ∀ (r0 : Bool) (H' : Hp) (w' : World) (_ : Inv w0 ps0 H0 H' [] w') (_ : K r0 H'), R (vB r0) w') (h : a1V x0 H K) : c6X (Value.string x0) w R E := by
 unfold a1V at h
 unfold c6X
 have hj1 : ∀ (r8 : Bool) (H : Hp) (w : World) (_ : Inv w0 ps0 H0 H [] w) (_ : m7 r8 H K), b9f (vB r8) w R E := by
  intro r8 H w I h
  unfold b9f
  intro _
  unfold m7 at h
  refine p7 (fun c_1 => ?_) (fun c_1 => ?_)
  ·replace h := h.1 c_1
   exact hR true H _ I h
  ·replace h := h.2 c_1
   exact hR false H _ I h
 refine A8 fun j1 hx1 => ?_
 refine a7 (a0D _ _ _ _ _) ?_
 refine i4 (fun a8s => ?_) (fun a8s => ?_)
 ·replace h := h.1 a8s
  exact hx1 _ _ (hj1 (decide (x0 = ⟨#[118, 97, 114]⟩)) H _ I h)
 ·replace h := h.2 a8s
  refine a7 (a0D _ _ _ _ _) ?_
  refine i4 (fun d3v => ?_) (fun d3v => ?_)
  ·replace h := h.1 d3v
   exact hx1 _ _ (hj1 (decide (x0 = ⟨#[97, 114, 114, 97, 121]⟩)) H _ I h)
  ·replace h := h.2 d3v
   refine a7 (a0D _ _ _ _ _) ?_
   refine i4 (fun c_9 => ?_) (fun c_9 => ?_)
   ·replace h := h.1 c_9
    exact hx1 _ _ (hj1 (decide (x0 = ⟨#[105, 102]⟩)) H _ I h)
   ·replace h := h.2 c_9
    refine a7 (a0D _ _ _ _ _) ?_
    refine i4 (fun c_8 => ?_) (fun c_8 => ?_)
    ·replace h := h.1 c_8
     exact hx1 _ _ (hj1 (decide (x0 = ⟨#[101, 108, 115, 101]⟩)) H _ I h)
    ·replace h := h.2 c_8
     refine a7 (a0D _ _ _ _ _) ?_
     refine i4 (fun c_7 => ?_) (fun c_7 => ?_)
     ·replace h := h.1 c_7
      exact hx1 _ _ (hj1 (decide (x0 = ⟨#[119, 104, 105, 108, 101]⟩)) H _ I h)
     ·replace h := h.2 c_7
      refine a7 (a0D _ _ _ _ _) ?_
      refine i4 (fun c_6 => ?_) (fun c_6 => ?_)
      ·replace h := h.1 c_6
       exact hx1 _ _ (hj1 (decide (x0 = ⟨#[97, 115, 115, 101, 114, 116]⟩)) H _ I h)
      ·replace h := h.2 c_6
       refine a7 (a0D _ _ _ _ _) ?_
       refine i4 (fun c_5 => ?_) (fun c_5 => ?_)
       ·replace h := h.1 c_5
        exact hx1 _ _ (hj1 (decide (x0 = ⟨#[97, 115, 115, 117, 109, 101]⟩)) H _ I h)
       ·replace h := h.2 c_5
        refine a7 (a0D _ _ _ _ _) ?_
        refine i4 (fun c_4 => ?_) (fun c_4 => ?_)
        ·replace h := h.1 c_4
         exact hx1 _ _ (hj1 (decide (x0 = ⟨#[115, 107, 105, 112]⟩)) H _ I h)
        ·replace h := h.2 c_4
         refine a7 (a0D _ _ _ _ _) ?_
         refine i4 (fun c_3 => ?_) (fun c_3 => ?_)
         ·replace h := h.1 c_3
          exact hx1 _ _ (hj1 (decide (x0 = ⟨#[105, 110, 112, 117, 116]⟩)) H _ I h)
         ·replace h := h.2 c_3
          refine a7 (a0D _ _ _ _ _) ?_
          refine i4 (fun c_2 => ?_) (fun c_2 => ?_)
          ·replace h := h.1 c_2
           exact hx1 _ _ (hj1 (decide (x0 = ⟨#[116, 114, 117, 101]⟩)) H _ I h)
          ·replace h := h.2 c_2
           refine a7 (a0D _ _ _ _ _) ?_
           exact hx1 _ _ (hj1 (decide (x0 = ⟨#[102, 97, 108, 115, 101]⟩)) H _ I h)
theorem b5n (x0 : ByteArray) {H : Hp} {K : Bool → Hp → Prop} (h : a1V x0 H K) : a0E x0 H K := by
 intro w I
 refine d9r ?_
 refine b3y x0 I (fun r0 H' w' I' hk => ⟨H', _, I', r0, rfl, rfl, hk⟩) h
def a0S (x0 : j7) (H : Hp) (K : a8 → Hp → Prop) : Prop :=
 K (a8.E8 (M8.mk x0)) H
theorem b0F (x0 : j7) {K : a8 → Hp → Prop} (I : Inv w0 ps0 H0 H [] w) (hR : ∀ (r0 : a8) (H' : Hp) (w' : World) (_ : Inv w0 ps0 H0 H' [] w') (_ : K r0 H'), R (t8 r0) w') (h : a0S x0 H K) : F89 (Value.agg (m4 x0).toArray) w R E := by
 unfold a0S at h
 unfold F89
 refine L8 I (cs := (m4 x0)) rfl fun g_2 w_3 I_4 k_5 => ?_
 refine b8 (ldA Tryd.isAgg58 Tryd.sizeOf58 rfl (I_4.at1 (o := 0) (vs := (m4 x0)) (nb rfl) rfl)) ?_
 refine a7 (c1N _ _) ?_
 refine a7 (b8V (M8.mk x0)) ?_
 exact hR (a8.E8 (M8.mk x0)) H _ I_4.drop h
theorem b1N (x0 : j7) {H : Hp} {K : a8 → Hp → Prop} (h : a0S x0 H K) : a5A x0 H K := by
 intro w I
 refine e5i ?_
 refine b0F x0 I (fun r0 H' w' I' hk => ⟨H', _, I', r0, rfl, rfl, hk⟩) h
def a0T (x0 : o0) (H : Hp) (K : a8 → Hp → Prop) : Prop :=
 K (a8.C8 (K3.mk x0)) H
theorem b0G (x0 : o0) {K : a8 → Hp → Prop} (I : Inv w0 ps0 H0 H [] w) (hR : ∀ (r0 : a8) (H' : Hp) (w' : World) (_ : Inv w0 ps0 H0 H' [] w') (_ : K r0 H'), R (t8 r0) w') (h : a0T x0 H K) : F91 (Value.agg (d9 x0).toArray) w R E := by
 unfold a0T at h
 unfold F91
 refine L8 I (cs := (d9 x0)) rfl fun g_2 w_3 I_4 k_5 => ?_
 refine b8 (ldA Tryd.isAgg63 Tryd.sizeOf63 rfl (I_4.at1 (o := 0) (vs := (d9 x0)) (nb rfl) rfl)) ?_
 refine a7 (c1O _ _ _ _ _ _ _ _ _ _ _ _ _ _) ?_
 refine a7 (b8W (K3.mk x0)) ?_
 exact hR (a8.C8 (K3.mk x0)) H _ I_4.drop h
theorem b1O (x0 : o0) {H : Hp} {K : a8 → Hp → Prop} (h : a0T x0 H K) : a5B x0 H K := by
 intro w I
 refine e5m ?_
 refine b0G x0 I (fun r0 H' w' I' hk => ⟨H', _, I', r0, rfl, rfl, hk⟩) h
def a1W (x0 : B0) (H : Hp) (K : g8 → Hp → Prop) : Prop :=
 D5 x0.a4m H (fun (a5E : Sl) (H_8 : Hp) =>
 r6 x0.a6s H_8 (fun (a3r : Sl) (a8p : Hp) =>
 ∀ (a5X : Sl) (a8q : Hp), Hle a8p a8q → SlH a8q 1 csl a5X [a5E, a3r] → a5X.n ≤ a5X.c →
 y9 a5X a8q (fun (b4J : Sl) (b9D : Hp) =>
 a2H b4J b9D (fun (c7G : g8) (b1P : Hp) =>
 K c7G b1P))))
theorem b3z (x0 : B0) {K : g8 → Hp → Prop} (I : Inv w0 ps0 H0 H [] w) (hR : ∀ (r0 : g8) (gr0 : Nat) (H' : Hp) (w' : World) (_ : Inv w0 ps0 H0 H' [bx gr0 106 (a3L r0)] w') (_ : K r0 H'), R (Value.pointer (some ⟨gr0, 0, none⟩)) w') (h : a1W x0 H K) : F52 (Value.agg (u4 x0).toArray) w R E := by
 unfold a1W at h
 unfold F52
 refine L8 I (cs := (u4 x0)) rfl fun g_2 w_3 I_4 k_5 => ?_
 refine a0p I_4 fun w_6 I_7 => ?_
 refine j8 a7h ?_
 refine j8 b1l ?_
 refine u0 (ld1 Tryd.isAgg41 (I_7.at1 (o := 0) (vs := [(vs x0.a4m)]) (nb rfl) rfl)) ?_
 refine u0 (ld1 Tryd.isAgg42 (I_7.at1 (o := 1) (vs := [(vs x0.a6s)]) (nb rfl) rfl)) ?_
 refine d5 (cap := []) (fun args w => Tryd.call88 args w) ?_
 refine m5 (Fi := []) (Fr := [bx g_2 44 (u4 x0)]) I_7 (h) (fun e8M H_8 d3m w_9 b1M e8N b6h c2X => ?_) (fun _ _ _ _ _ q => q.elim)
 obtain ⟨a5E, rfl, rfl, h⟩ := c2X
 refine ⟨(b6h _ I_7.lt1 (Inv.a5f (Fi := []) I_7)), ?_⟩
 refine d5 (cap := []) (fun args w => Tryd.call90 args w) ?_
 refine m5 (Fi := []) (Fr := [bx g_2 44 (u4 x0)]) b1M (h) (fun d3n a8p d3o q7 a4k d3p b3x b6i => ?_) (fun _ _ _ _ _ q => q.elim)
 obtain ⟨a3r, rfl, rfl, h⟩ := b6i
 refine U3 (e := 124) (c := csl) (xs := [a5E, a3r]) a4k (c1M _ _ _ _ _ _) rfl rfl b4w b4x (nb rfl) fun a5X e8L d3q b6j b5Y e8I => ?_
 obtain ⟨a8q, d3r, c2p, c2V, d3s⟩ := Inv.freezeC b5Y b6j (by decide)
 replace h := h a5X a8q c2p c2V d3s
 refine d5 (cap := []) (fun args w => Tryd.call87 args w) ?_
 refine m5 (Fi := []) (Fr := [bx g_2 44 (u4 x0)]) d3r (h) (fun g2p b9D g2q d3t a5V g2r e8O d3u => ?_) (fun _ _ _ _ _ q => q.elim)
 obtain ⟨b4J, rfl, rfl, h⟩ := d3u
 refine d5 (cap := []) (fun args w => Tryd.call60 args w) ?_
 refine m5 (Fi := []) (Fr := [bx g_2 44 (u4 x0)]) a5V (h) (fun g6F b1P g6G K4 b6k g6H d3w g2s => ?_) (fun _ _ _ _ _ q => q.elim)
 obtain ⟨c7G, e8P, rfl, rfl, h⟩ := g2s
 exact hR c7G e8P b1P _ (b6k.bring 1).drop h
theorem b5o (x0 : B0) {H : Hp} {K : g8 → Hp → Prop} (h : a1W x0 H K) : a4j x0 H K := by
 intro w I
 refine e4E ?_
 refine b3z x0 I (fun r0 gr0 H' w' I' hk => ⟨H', _, I', r0, gr0, rfl, rfl, hk⟩) h
def B2 (g2t : Int) (b4K : Bool) (a0F : D7) (H : Hp) (K : Bool → Hp → Prop) : Prop :=
 (b4K = true →
 K (decide (g2t = 2)) H) ∧
 (b4K = false →
 K false H)
def J0 (b9E : Int) (a3R : Int) (b4L : Bool) (a4r : D7) (H : Hp) (K : Bool → Hp → Prop) : Prop :=
 (b4L = true →
 K (decide (b9E = 1)) H) ∧
 (b4L = false →
 (a3R = 6 →
 B2 b9E (decide (a3R = 6)) a4r H K) ∧
 (¬ (a3R = 6) →
 (a3R = 7 →
 B2 b9E (decide (a3R = 7)) a4r H K) ∧
 (¬ (a3R = 7) →
 (a3R = 8 →
 B2 b9E (decide (a3R = 8)) a4r H K) ∧
 (¬ (a3R = 8) →
 (a3R = 9 →
 B2 b9E (decide (a3R = 9)) a4r H K) ∧
 (¬ (a3R = 9) →
 B2 b9E (decide (a3R = 10)) a4r H K)))))
def J8 (b1Q : Int) (a3S : Int) (b4M : Bool) (E2 : D7) (H : Hp) (K : Bool → Hp → Prop) : Prop :=
 (b4M = true →
 K (decide (b1Q = 0)) H) ∧
 (b4M = false →
 (a3S = 4 →
 J0 b1Q a3S (decide (a3S = 4)) E2 H K) ∧
 (¬ (a3S = 4) →
 J0 b1Q a3S (decide (a3S = 5)) E2 H K))
def W9 (x0 : D7) (H : Hp) (K : Bool → Hp → Prop) : Prop :=
 a0r (a8.C2 x0) H (fun (a0i : ByteArray) (c1b : Bool) (H_6 : Hp) =>
 ((((!decide (x0.l0.b9 = 1)) && (!decide (x0.l0.G8 = 0))) || ((!c1b) && (!decide (x0.l0.d6 = ⟨#[]⟩)))) = true →
 K false H_6) ∧
 ((((!decide (x0.l0.b9 = 1)) && (!decide (x0.l0.G8 = 0))) || ((!c1b) && (!decide (x0.l0.d6 = ⟨#[]⟩)))) = false →
 (x0.l0.b9 = 1 →
 K ((decide (0 ≤ x0.l0.G8)) && (decide ((x0.l0.z6.n : Int) = 0))) H_6) ∧
 (¬ (x0.l0.b9 = 1) →
 (x0.l0.b9 = 2 →
 J8 (x0.l0.z6.n : Int) x0.l0.b9 (decide (x0.l0.b9 = 2)) x0 H_6 K) ∧
 (¬ (x0.l0.b9 = 2) →
 J8 (x0.l0.z6.n : Int) x0.l0.b9 (decide (x0.l0.b9 = 3)) x0 H_6 K))))
theorem a8t (x0 : D7) {K : Bool → Hp → Prop} (I : Inv w0 ps0 H0 H [] w) (hR : ∀ (r0 : Bool) (H' : Hp) (w' : World) (_ : Inv w0 ps0 H0 H' [] w') (_ : K r0 H'), R (vB r0) w') (h : W9 x0 H K) : c7e (Value.agg (b6 x0.l0).toArray) w R E := by
 unfold W9 at h
 unfold c7e
 refine L8 I (cs := (b6 x0.l0)) rfl fun g_2 w_3 I_4 k_5 => ?_
 refine a7 U4 ?_
 refine a7 a3G ?_
 refine b8 (ld1 Tryd.isAgg22 (I_4.at1 (o := 3) (vs := [(vs x0.l0.z6)]) (nb rfl) rfl)) ?_
 refine a7 (a2s _ _ _) ?_
 refine b8 (ldA Tryd.isAgg123 Tryd.sizeOf123 rfl (I_4.at1 (o := 0) (vs := (b6 x0.l0)) (nb rfl) rfl)) ?_
 refine a7 (b0w x0) ?_
 refine d5 (cap := []) (fun args w => Tryd.call118 args w) ?_
 refine m5 (Fi := []) (Fr := [bx g_2 123 (b6 x0.l0)]) I_4 (h) (fun c7H H_6 c7I w_7 I_8 c7J k_9 b1R => ?_) (fun _ _ _ _ _ q => q.elim)
 obtain ⟨a0i, c1b, rfl, rfl, h⟩ := b1R
 refine a7 (m6 _ _ (Value.string a0i) rfl) ?_
 refine a7 (m6 _ _ (vB c1b) rfl) ?_
 refine a7 U4 ?_
 refine a7 U7 ?_
 refine b8 (ld1 Tryd.isAgg3 (I_8.at1 (o := 0) (vs := [(vi x0.l0.b9)]) (nb rfl) rfl)) ?_
 refine a7 (a0m _ _ _ _ _ _) ?_
 refine a7 (Pu.g fun hb => by have g7 := hb; exact U4) ?_
 refine a7 (Pu.g fun hb => by have g7 := hb; simp only [o7 g7]; exact a7f) ?_
 refine b8 (Ld.g fun hb => by have g7 := hb; simp only [o7 g7]; exact (ld1 Tryd.isAgg2 (I_8.at1 (o := 1) (vs := [(vi x0.l0.G8)]) (nb rfl) rfl))) ?_
 refine a7 (Pu.g fun hb => by have g7 := hb; simp only [o7 g7]; exact (a0m _ _ _ _ _ _)) ?_
 refine a7 (O7 _ _) ?_
 simp only [L3]
 refine a7 (Pu.g fun hb => by have g7 := hb; simp only [o7 g7]; exact (a0C _)) ?_
 simp only [d7F]
 refine a7 (Pu.e (a7B _ _ _) (Pu.g fun hb => by obtain ⟨g7, c2R⟩ := b4u hb; exact U4)) ?_
 refine a7 (Pu.e (a7B _ _ _) (Pu.g fun hb => by obtain ⟨g7, c2R⟩ := b4u hb; simp only [o7 hb]; exact a3I)) ?_
 refine b8 (Ld.e (a7B _ _ _) (Ld.g fun hb => by obtain ⟨g7, c2R⟩ := b4u hb; simp only [o7 hb]; exact (ld1 Tryd.isAgg9 (I_8.at1 (o := 2) (vs := [(Value.string x0.l0.d6)]) (nb rfl) rfl)))) ?_
 refine a7 (Pu.e (a7B _ _ _) (Pu.g fun hb => by obtain ⟨g7, c2R⟩ := b4u hb; simp only [o7 hb]; exact (e4r _ _ _ _ _))) ?_
 refine a7 (Pu.g fun hb => by have g7 := hb; simp only [o7 g7, c9S g7]; exact (O7 _ _)) ?_
 refine a7 (W6 _ _) ?_
 refine p7 (fun d3x => ?_) (fun d3x => ?_)
 ·replace h := h.1 d3x
  exact hR false H_6 _ I_8.drop h
 ·replace h := h.2 d3x
  refine a7 U4 ?_
  refine a7 U7 ?_
  refine b8 (ld1 Tryd.isAgg3 (I_8.at1 (o := 0) (vs := [(vi x0.l0.b9)]) (nb rfl) rfl)) ?_
  refine a7 (i8 _ _ _ _ _ _) ?_
  refine i4 (fun b6l => ?_) (fun b6l => ?_)
  ·replace h := h.1 b6l
   refine a7 U4 ?_
   refine a7 a7f ?_
   refine b8 (ld1 Tryd.isAgg2 (I_8.at1 (o := 1) (vs := [(vi x0.l0.G8)]) (nb rfl) rfl)) ?_
   refine a7 (a7O _ _ _ _ _ _) ?_
   simp only [L3]
   refine a7 (Pu.g fun hb => by have g7 := hb; simp only [o7 g7]; exact (i8 _ _ _ _ _ _)) ?_
   refine a7 (O7 _ _) ?_
   exact hR ((decide (0 ≤ x0.l0.G8)) && (decide ((x0.l0.z6.n : Int) = 0))) H_6 _ I_8.drop h
  ·replace h := h.2 b6l
   have hj1 : ∀ (b4M : Bool) (H : Hp) (w : World) (_ : Inv w0 ps0 H0 H [bx g_2 123 (b6 x0.l0)] w) (_ : J8 (x0.l0.z6.n : Int) x0.l0.b9 b4M x0 H K), b9p (vi (x0.l0.z6.n : Int)) (vi x0.l0.b9) (vB b4M) w R E := by
    intro b4M H w I h
    unfold b9p
    intro _
    unfold J8 at h
    refine p7 (fun d3y => ?_) (fun d3y => ?_)
    ·replace h := h.1 d3y
     refine a7 (i8 _ _ _ _ _ _) ?_
     exact hR (decide ((x0.l0.z6.n : Int) = 0)) H _ I.drop h
    ·replace h := h.2 d3y
     have hj2 : ∀ (b4L : Bool) (H : Hp) (w : World) (_ : Inv w0 ps0 H0 H [bx g_2 123 (b6 x0.l0)] w) (_ : J0 (x0.l0.z6.n : Int) x0.l0.b9 b4L x0 H K), b9o (vi (x0.l0.z6.n : Int)) (vi x0.l0.b9) (vB b4L) w R E := by
      intro b4L H w I h
      unfold b9o
      intro _
      unfold J0 at h
      refine p7 (fun a4N => ?_) (fun a4N => ?_)
      ·replace h := h.1 a4N
       refine a7 (i8 _ _ _ _ _ _) ?_
       exact hR (decide ((x0.l0.z6.n : Int) = 1)) H _ I.drop h
      ·replace h := h.2 a4N
       have hj3 : ∀ (b4K : Bool) (H : Hp) (w : World) (_ : Inv w0 ps0 H0 H [bx g_2 123 (b6 x0.l0)] w) (_ : B2 (x0.l0.z6.n : Int) b4K x0 H K), b9n (vi (x0.l0.z6.n : Int)) (vB b4K) w R E := by
        intro b4K H w I h
        unfold b9n
        intro _
        unfold B2 at h
        refine p7 (fun a4O => ?_) (fun a4O => ?_)
        ·replace h := h.1 a4O
         refine a7 (i8 _ _ _ _ _ _) ?_
         exact hR (decide ((x0.l0.z6.n : Int) = 2)) H _ I.drop h
        ·replace h := h.2 a4O
         exact hR false H _ I.drop h
       refine A8 fun j3 hx3 => ?_
       refine a7 (i8 _ _ _ _ _ _) ?_
       refine i4 (fun a8u => ?_) (fun a8u => ?_)
       ·replace h := h.1 a8u
        exact hx3 _ _ (hj3 (decide (x0.l0.b9 = 6)) H _ I h)
       ·replace h := h.2 a8u
        refine a7 (i8 _ _ _ _ _ _) ?_
        refine i4 (fun a8v => ?_) (fun a8v => ?_)
        ·replace h := h.1 a8v
         exact hx3 _ _ (hj3 (decide (x0.l0.b9 = 7)) H _ I h)
        ·replace h := h.2 a8v
         refine a7 (i8 _ _ _ _ _ _) ?_
         refine i4 (fun a8w => ?_) (fun a8w => ?_)
         ·replace h := h.1 a8w
          exact hx3 _ _ (hj3 (decide (x0.l0.b9 = 8)) H _ I h)
         ·replace h := h.2 a8w
          refine a7 (i8 _ _ _ _ _ _) ?_
          refine i4 (fun a8x => ?_) (fun a8x => ?_)
          ·replace h := h.1 a8x
           exact hx3 _ _ (hj3 (decide (x0.l0.b9 = 9)) H _ I h)
          ·replace h := h.2 a8x
           refine a7 (i8 _ _ _ _ _ _) ?_
           exact hx3 _ _ (hj3 (decide (x0.l0.b9 = 10)) H _ I h)
     refine A8 fun j2 hx2 => ?_
     refine a7 (i8 _ _ _ _ _ _) ?_
     refine i4 (fun a8y => ?_) (fun a8y => ?_)
     ·replace h := h.1 a8y
      exact hx2 _ _ (hj2 (decide (x0.l0.b9 = 4)) H _ I h)
     ·replace h := h.2 a8y
      refine a7 (i8 _ _ _ _ _ _) ?_
      exact hx2 _ _ (hj2 (decide (x0.l0.b9 = 5)) H _ I h)
   refine A8 fun j1 hx1 => ?_
   refine a7 (i8 _ _ _ _ _ _) ?_
   refine i4 (fun d3z => ?_) (fun d3z => ?_)
   ·replace h := h.1 d3z
    exact hx1 _ _ (hj1 (decide (x0.l0.b9 = 2)) H_6 _ I_8 h)
   ·replace h := h.2 d3z
    refine a7 (i8 _ _ _ _ _ _) ?_
    exact hx1 _ _ (hj1 (decide (x0.l0.b9 = 3)) H_6 _ I_8 h)
theorem a9j (x0 : D7) {H : Hp} {K : Bool → Hp → Prop} (h : W9 x0 H K) : a1w x0 H K := by
 intro w I
 refine d9E ?_
 refine a8t x0 I (fun r0 H' w' I' hk => ⟨H', _, I', r0, rfl, rfl, hk⟩) h
def J9 (b4N : Bool) (d0V : D4) (a4r : K2) (H : Hp) (K : Bool → Hp → Prop) : Prop :=
 (b4N = true →
 K (decide (d0V.fexprs = 0 ∧ d0V.fparts = 2)) H) ∧
 (b4N = false →
 K false H)
def K0 (a3S : Int) (b4O : Bool) (a3y : D4) (E2 : K2) (H : Hp) (K : Bool → Hp → Prop) : Prop :=
 (b4O = true →
 K (decide (a3y.fexprs = 0 ∧ a3y.fparts = 0)) H) ∧
 (b4O = false →
 (a3S = 4 →
 K (decide (a3y.fexprs = 0 ∧ a3y.fparts = 1)) H) ∧
 (¬ (a3S = 4) →
 (a3S = 5 →
 J9 (decide (a3S = 5)) a3y E2 H K) ∧
 (¬ (a3S = 5) →
 J9 (decide (a3S = 6)) a3y E2 H K)))
def X0 (x0 : K2) (H : Hp) (K : Bool → Hp → Prop) : Prop :=
 (x0.j9.b9 = 3 →
 K (((decide (1 ≤ x0.j9.fOp)) && (decide (x0.j9.fOp ≤ 6))) && (decide ((x0.j9.i7.n : Int) = 2 ∧ (x0.j9.t7.n : Int) = 0))) H) ∧
 (¬ (x0.j9.b9 = 3) →
 (¬ (x0.j9.fOp = 0) →
 K false H) ∧
 (x0.j9.fOp = 0 →
 (x0.j9.b9 = 1 →
 K0 x0.j9.b9 (decide (x0.j9.b9 = 1)) (D4.mk (x0.j9.i7.n : Int) (x0.j9.t7.n : Int)) x0 H K) ∧
 (¬ (x0.j9.b9 = 1) →
 K0 x0.j9.b9 (decide (x0.j9.b9 = 2)) (D4.mk (x0.j9.i7.n : Int) (x0.j9.t7.n : Int)) x0 H K)))
theorem a8z (x0 : K2) {K : Bool → Hp → Prop} (I : Inv w0 ps0 H0 H [] w) (hR : ∀ (r0 : Bool) (H' : Hp) (w' : World) (_ : Inv w0 ps0 H0 H' [] w') (_ : K r0 H'), R (vB r0) w') (h : X0 x0 H K) : c7i (Value.agg (i5 x0.j9).toArray) w R E := by
 unfold X0 at h
 unfold c7i
 refine L8 I (cs := (i5 x0.j9)) rfl fun g_2 w_3 I_4 k_5 => ?_
 refine a7 a0h ?_
 refine a7 a5g ?_
 refine b8 (ld1 Tryd.isAgg22 (I_4.at1 (o := 2) (vs := [(vs x0.j9.i7)]) (nb rfl) rfl)) ?_
 refine a7 (a2s _ _ _) ?_
 refine a7 a0h ?_
 refine a7 a1C ?_
 refine b8 (ld1 Tryd.isAgg25 (I_4.at1 (o := 3) (vs := [(vs x0.j9.t7)]) (nb rfl) rfl)) ?_
 refine a7 (a6A _ _ _) ?_
 refine a7 (a3K _ _) ?_
 refine z7 I_4 Tryd.zeroValue223 (cs := [(vi 0), (vi 0)]) rfl fun g_7 w_8 I_9 c2T => ?_
 refine m9 I_9 Tryd.sizeOf223 (vs := [(vi (x0.j9.i7.n : Int)), (vi (x0.j9.t7.n : Int))]) (cs' := [(vi (x0.j9.i7.n : Int)), (vi (x0.j9.t7.n : Int))]) rfl rfl (nb rfl) rfl rfl fun a0I O6 b5V => ?_
 refine a7 a0h ?_
 refine a7 a7e ?_
 refine b8 (ld1 Tryd.isAgg3 ((O6.bring 1).at1 (o := 0) (vs := [(vi x0.j9.b9)]) (nb rfl) rfl)) ?_
 refine a7 (i8 _ _ _ _ _ _) ?_
 refine i4 (fun a4N => ?_) (fun a4N => ?_)
 ·replace h := h.1 a4N
  refine a7 a0h ?_
  refine a7 a7g ?_
  refine b8 (ld1 Tryd.isAgg3 ((O6.bring 1).at1 (o := 1) (vs := [(vi x0.j9.fOp)]) (nb rfl) rfl)) ?_
  refine a7 (a7O _ _ _ _ _ _) ?_
  refine a7 (Pu.g fun hb => by have g7 := hb; exact a0h) ?_
  refine a7 (Pu.g fun hb => by have g7 := hb; simp only [o7 g7]; exact a7g) ?_
  refine b8 (Ld.g fun hb => by have g7 := hb; simp only [o7 g7]; exact (ld1 Tryd.isAgg3 ((O6.bring 1).at1 (o := 1) (vs := [(vi x0.j9.fOp)]) (nb rfl) rfl))) ?_
  refine a7 (Pu.g fun hb => by have g7 := hb; simp only [o7 g7]; exact (b2O _ _ _ _ _ _)) ?_
  refine a7 (O7 _ _) ?_
  refine b8 (Ld.g fun hb => by have g7 := hb; exact (ldA Tryd.isAgg223 Tryd.sizeOf223 rfl (O6.at1 (o := 0) (vs := [(vi (x0.j9.i7.n : Int)), (vi (x0.j9.t7.n : Int))]) (nb rfl) rfl))) ?_
  refine a7 (Pu.g fun hb => by have g7 := hb; exact (a3K _ _)) ?_
  refine a7 (Pu.g fun hb => by have g7 := hb; simp only [o7 g7]; exact (a9y _ _ _ _ _ _)) ?_
  refine a7 (O7 _ _) ?_
  exact hR (((decide (1 ≤ x0.j9.fOp)) && (decide (x0.j9.fOp ≤ 6))) && (decide ((x0.j9.i7.n : Int) = 2 ∧ (x0.j9.t7.n : Int) = 0))) H _ O6.drop.drop h
 ·replace h := h.2 a4N
  refine a7 a0h ?_
  refine a7 a7g ?_
  refine b8 (ld1 Tryd.isAgg3 ((O6.bring 1).at1 (o := 1) (vs := [(vi x0.j9.fOp)]) (nb rfl) rfl)) ?_
  refine a7 (a0m _ _ _ _ _ _) ?_
  refine a5L (fun a8u => ?_) (fun a8u => ?_)
  ·replace h := h.1 a8u
   exact hR false H _ O6.drop.drop h
  ·replace h := h.2 a8u
   refine a7 a0h ?_
   refine a7 a7e ?_
   refine b8 (ld1 Tryd.isAgg3 ((O6.bring 1).at1 (o := 0) (vs := [(vi x0.j9.b9)]) (nb rfl) rfl)) ?_
   have hj1 : ∀ (b4O : Bool) (H : Hp) (w : World) (_ : Inv w0 ps0 H0 H [bx g_7 223 [(vi (D4.mk (x0.j9.i7.n : Int) (x0.j9.t7.n : Int)).fexprs), (vi (D4.mk (x0.j9.i7.n : Int) (x0.j9.t7.n : Int)).fparts)], bx g_2 138 (i5 x0.j9)] w) (_ : K0 x0.j9.b9 b4O (D4.mk (x0.j9.i7.n : Int) (x0.j9.t7.n : Int)) x0 H K), b9s (Value.pointer (some ⟨g_7, 0, none⟩)) (vi x0.j9.b9) (vB b4O) w R E := by
    intro b4O H w I h
    unfold b9s
    intro _
    unfold K0 at h
    refine p7 (fun a8w => ?_) (fun a8w => ?_)
    ·replace h := h.1 a8w
     refine b8 (ldA Tryd.isAgg223 Tryd.sizeOf223 rfl (I.at1 (o := 0) (vs := [(vi (D4.mk (x0.j9.i7.n : Int) (x0.j9.t7.n : Int)).fexprs), (vi (D4.mk (x0.j9.i7.n : Int) (x0.j9.t7.n : Int)).fparts)]) (nb rfl) rfl)) ?_
     refine a7 (c6Q ) ?_
     refine a7 (a9y _ _ _ _ _ _) ?_
     exact hR (decide ((D4.mk (x0.j9.i7.n : Int) (x0.j9.t7.n : Int)).fexprs = 0 ∧ (D4.mk (x0.j9.i7.n : Int) (x0.j9.t7.n : Int)).fparts = 0)) H _ I.drop.drop h
    ·replace h := h.2 a8w
     refine a7 (i8 _ _ _ _ _ _) ?_
     refine i4 (fun a8x => ?_) (fun a8x => ?_)
     ·replace h := h.1 a8x
      refine b8 (ldA Tryd.isAgg223 Tryd.sizeOf223 rfl (I.at1 (o := 0) (vs := [(vi (D4.mk (x0.j9.i7.n : Int) (x0.j9.t7.n : Int)).fexprs), (vi (D4.mk (x0.j9.i7.n : Int) (x0.j9.t7.n : Int)).fparts)]) (nb rfl) rfl)) ?_
      refine a7 (a3K _ _) ?_
      refine a7 (a9y _ _ _ _ _ _) ?_
      exact hR (decide ((D4.mk (x0.j9.i7.n : Int) (x0.j9.t7.n : Int)).fexprs = 0 ∧ (D4.mk (x0.j9.i7.n : Int) (x0.j9.t7.n : Int)).fparts = 1)) H _ I.drop.drop h
     ·replace h := h.2 a8x
      have hj2 : ∀ (b4N : Bool) (H : Hp) (w : World) (_ : Inv w0 ps0 H0 H [bx g_7 223 [(vi (D4.mk (x0.j9.i7.n : Int) (x0.j9.t7.n : Int)).fexprs), (vi (D4.mk (x0.j9.i7.n : Int) (x0.j9.t7.n : Int)).fparts)], bx g_2 138 (i5 x0.j9)] w) (_ : J9 b4N (D4.mk (x0.j9.i7.n : Int) (x0.j9.t7.n : Int)) x0 H K), b9r (Value.pointer (some ⟨g_7, 0, none⟩)) (vB b4N) w R E := by
       intro b4N H w I h
       unfold b9r
       intro _
       unfold J9 at h
       refine p7 (fun b6m => ?_) (fun b6m => ?_)
       ·replace h := h.1 b6m
        refine b8 (ldA Tryd.isAgg223 Tryd.sizeOf223 rfl (I.at1 (o := 0) (vs := [(vi (D4.mk (x0.j9.i7.n : Int) (x0.j9.t7.n : Int)).fexprs), (vi (D4.mk (x0.j9.i7.n : Int) (x0.j9.t7.n : Int)).fparts)]) (nb rfl) rfl)) ?_
        refine a7 (a3K _ _) ?_
        refine a7 (a9y _ _ _ _ _ _) ?_
        exact hR (decide ((D4.mk (x0.j9.i7.n : Int) (x0.j9.t7.n : Int)).fexprs = 0 ∧ (D4.mk (x0.j9.i7.n : Int) (x0.j9.t7.n : Int)).fparts = 2)) H _ I.drop.drop h
       ·replace h := h.2 b6m
        exact hR false H _ I.drop.drop h
      refine A8 fun j2 hx2 => ?_
      refine a7 (i8 _ _ _ _ _ _) ?_
      refine i4 (fun a4O => ?_) (fun a4O => ?_)
      ·replace h := h.1 a4O
       exact hx2 _ _ (hj2 (decide (x0.j9.b9 = 5)) H _ ((I.bring 1).bring 1) h)
      ·replace h := h.2 a4O
       refine a7 (i8 _ _ _ _ _ _) ?_
       exact hx2 _ _ (hj2 (decide (x0.j9.b9 = 6)) H _ ((I.bring 1).bring 1) h)
   refine A8 fun j1 hx1 => ?_
   refine a7 (i8 _ _ _ _ _ _) ?_
   refine i4 (fun a8v => ?_) (fun a8v => ?_)
   ·replace h := h.1 a8v
    exact hx1 _ _ (hj1 (decide (x0.j9.b9 = 1)) H _ ((O6.bring 1).bring 1) h)
   ·replace h := h.2 a8v
    refine a7 (i8 _ _ _ _ _ _) ?_
    exact hx1 _ _ (hj1 (decide (x0.j9.b9 = 2)) H _ ((O6.bring 1).bring 1) h)
theorem a9k (x0 : K2) {H : Hp} {K : Bool → Hp → Prop} (h : X0 x0 H K) : a1x x0 H K := by
 intro w I
 refine d9N ?_
 refine a8z x0 I (fun r0 H' w' I' hk => ⟨H', _, I', r0, rfl, rfl, hk⟩) h
def v6 (V2 : (List a8)) (H : Hp) (K : Sl → Hp → Prop) : Prop :=
 ∀ (E0 : Sl) (Y8 : Hp), Hle H Y8 → SlH Y8 1 o3 E0 V2 → E0.n ≤ E0.c →
 K E0 Y8
def v7 (a0w : Sl) (Y9 : Int) (r9 : (List a8)) (q8 : Int) (H : Hp) (n2 : ((List a8) × Int) → Hp → Prop) (K : Sl → Hp → Prop) : Prop :=
 (q8 < Y9 →
 (0 : Int) ≤ q8 ∧ (q8 : Int) < a0w.n ∧ ∃ x_1 : o9, EltH H a0w q8 4 (i5 x_1) ∧
 a5D x_1 H (fun (P0 : a8) (Z0 : Hp) =>
 (r9.length + ([P0] : List a8).length) * 17 ≤ 140737488355328 ∧
 n2 ((r9 ++ [P0]), (IntKind.wrap .i64 (q8 + 1))) Z0)) ∧
 (¬ (q8 < Y9) →
 v6 r9 H K)
def A5 (x0 : Sl) (H : Hp) (K : Sl → Hp → Prop) : Prop :=
 TL (([], 0) : (List a8) × Int) H fun (s : (List a8) × Int) H n2 => v7 x0 (x0.n : Int) s.1 s.2 H n2 K
theorem Y3 (x0 : Sl) {K : Sl → Hp → Prop} (I : Inv w0 ps0 H0 H [] w) (hR : ∀ (r0 : Sl) (H' : Hp) (w' : World) (_ : Inv w0 ps0 H0 H' [] w') (_ : K r0 H'), R (vs r0) w') (h : A5 x0 H K) : c7l (vs x0) (fC 176) w R E := by
 unfold A5 at h
 unfold c7l
 have hj1 : ∀ (V2 : (List a8)) (E0 : Sl) (Fs5j1 : Frag) (H : Hp) (w : World) (_ : RowL 152 1 o3 E0 V2 Fs5j1) (_ : Inv w0 ps0 H0 H [Fs5j1] w) (_ : v6 V2 H K), b9t (vs E0) w R E := by
  intro V2 E0 Fs5j1 H w b1H I h
  unfold b9t
  intro _
  unfold v6 at h
  obtain ⟨Y8, a5V, b3w, a8o, b0d⟩ := Inv.freezeC I b1H (by decide)
  replace h := h E0 Y8 b3w a8o b0d
  exact hR E0 Y8 _ a5V h
 refine A8 fun j1 hx1 => ?_
 refine a7 (a6A _ _ _) ?_
 obtain ⟨a4K, a1j, b6b, b6c⟩ := h
 refine L9 (J := fun n l w => ∃ (s : (List a8) × Int) (H : Hp) (V3 : Sl) (Fs5l2 : Frag) , n = a1j s ∧ l = (match s with | (r9, q8) => [(vs V3), (vi q8)]) ∧ (match s with | (r9, q8) => RowL 152 1 o3 V3 r9 Fs5l2) ∧ (match s with | (r9, q8) => Inv w0 ps0 H0 H [Fs5l2] w) ∧ a4K s H) ⟨_, ([], 0), H, (Sl.mk none 0 0), [], rfl, rfl, (RowL.nil M0 O2), I.nil, b6b⟩ ?_
 rintro d3l τ_50 w next2 ⟨⟨r9, q8⟩, H, V3, Fs5l2, rfl, a4L, a2M, I, b6d⟩ hn2
 dsimp only at a4L I a2M
 simp only [List.map_cons, List.map_nil, List.cons.injEq, and_true] at a4L
 obtain ⟨e5, e10⟩ := a4L
 simp only [e5, e10]
 obtain ⟨n2, hm2, h⟩ : ∃ n2 : ((List a8) × Int) → Hp → Prop, (∀ s' H', n2 s' H' → a4K s' H' ∧ a1j s' < a1j (r9, q8)) ∧ v7 x0 (x0.n : Int) r9 q8 H n2 K := ⟨_, fun _ _ h => h, b6c (r9, q8) H (fun s' H' => a4K s' H' ∧ a1j s' < a1j (r9, q8)) b6d (fun _ _ a b => ⟨a, b⟩)⟩
 unfold c5X
 unfold v7 at h
 refine a7 (B8 _ _ _ _ _ _) ?_
 refine i4 (fun a2L => ?_) (fun a2L => ?_)
 ·replace h := h.1 a2L
  obtain ⟨h_4, h_5, x_1, h_7, h⟩ := h
  obtain ⟨g_2, o_3, h_6, h_7⟩ := h_7
  refine a7 (a2w h_6 _ _ _ _ h_4 h_5) ?_
  refine b8 (ldA (vs := (i5 x_1)) Tryd.isAgg27 Tryd.sizeOf27 rfl (I.atH h_7)) ?_
  refine z7 I Tryd.zeroValue27 (cs := [(vi 0), (vi 0), (nS), (nS)]) rfl fun g_9 m8 a3x b6e => ?_
  refine m9 a3x Tryd.sizeOf27 (vs := (i5 x_1)) (cs' := (i5 x_1)) rfl rfl (nb rfl) rfl rfl fun Y6 M6 a1z => ?_
  refine b8 (ldA Tryd.isAgg27 Tryd.sizeOf27 rfl (M6.at1 (o := 0) (vs := (i5 x_1)) (nb rfl) rfl)) ?_
  refine d5 (cap := []) (fun args w => Tryd.call176 args w) ?_
  refine m5 (Fi := []) (Fr := [bx g_9 27 (i5 x_1), Fs5l2]) M6 (h) (fun c7B Z0 c7C a2k a4J b9B c7D b1I => ?_) (fun _ _ _ _ _ q => q.elim)
  obtain ⟨P0, rfl, rfl, h⟩ := b1I
  refine U3 (e := 152) (c := o3) (xs := [P0]) a4J (b1n _) rfl rfl M0 O2 (nb rfl) fun c2W b9C C3 a4M a5W c7E => ?_
  obtain ⟨b1J, h⟩ := h
  refine b0x (s := V3) (xs := r9) (a5W.bring 2) a2M (a4M.srcO ((a5W.bring 2).bring 1)) b1J fun b6f b6g D2 b1D a6U c7F => ?_
  refine a7 (E4 _ _ _ _ _ _) ?_
  exact hn2 _ _ _ (hm2 _ _ h).2 ⟨((r9 ++ [P0]), (IntKind.wrap .i64 (q8 + 1))), Z0, b6f, b6g, rfl, rfl, b1D, ((a6U.bring 1).drop.bring 1).drop, (hm2 _ _ h).1⟩
 ·replace h := h.2 a2L
  exact hx1 _ _ (hj1 r9 V3 Fs5l2 H _ a2M I h)
theorem Z3 (x0 : Sl) {H : Hp} {K : Sl → Hp → Prop} (h : A5 x0 H K) : z8 x0 H K := by
 intro w I
 refine d9R ?_
 refine Y3 x0 I (fun r0 H' w' I' hk => ⟨H', _, I', r0, rfl, rfl, hk⟩) h
def X1 (x0 : M8) (H : Hp) (K : Bool → Hp → Prop) : Prop :=
 K ((decide (0 ≤ x0.M9.D3)) && (decide (x0.M9.D3 ≤ 2147483647))) H
theorem a8A (x0 : M8) {K : Bool → Hp → Prop} (I : Inv w0 ps0 H0 H [] w) (hR : ∀ (r0 : Bool) (H' : Hp) (w' : World) (_ : Inv w0 ps0 H0 H' [] w') (_ : K r0 H'), R (vB r0) w') (h : X1 x0 H K) : c7n (Value.agg (m4 x0.M9).toArray) w R E := by
 unfold X1 at h
 unfold c7n
 refine L8 I (cs := (m4 x0.M9)) rfl fun g_2 w_3 I_4 k_5 => ?_
 refine a7 a9U ?_
 refine a7 a2x ?_
 refine b8 (ld1 Tryd.isAgg3 (I_4.at1 (o := 1) (vs := [(vi x0.M9.D3)]) (nb rfl) rfl)) ?_
 refine a7 (a7O _ _ _ _ _ _) ?_
 refine a7 (Pu.g fun hb => by have g7 := hb; exact a9U) ?_
 refine a7 (Pu.g fun hb => by have g7 := hb; simp only [o7 g7]; exact a2x) ?_
 refine b8 (Ld.g fun hb => by have g7 := hb; simp only [o7 g7]; exact (ld1 Tryd.isAgg3 (I_4.at1 (o := 1) (vs := [(vi x0.M9.D3)]) (nb rfl) rfl))) ?_
 refine a7 (Pu.g fun hb => by have g7 := hb; simp only [o7 g7]; exact (b2O _ _ _ _ _ _)) ?_
 refine a7 (O7 _ _) ?_
 exact hR ((decide (0 ≤ x0.M9.D3)) && (decide (x0.M9.D3 ≤ 2147483647))) H _ I_4.drop h
theorem a9l (x0 : M8) {H : Hp} {K : Bool → Hp → Prop} (h : X1 x0 H K) : a4h x0 H K := by
 intro w I
 refine d9V ?_
 refine a8A x0 I (fun r0 H' w' I' hk => ⟨H', _, I', r0, rfl, rfl, hk⟩) h
def K1 (b1S : Bool) (d7J : Int) (b4P : Bool) (a3y : K6) (E2 : K3) (H : Hp) (K : Bool → Hp → Prop) : Prop :=
 (b4P = true →
 K (b1S && (decide (a3y.fexprs = 0 ∧ a3y.fconds = 1))) H) ∧
 (b4P = false →
 (d7J = 7 →
 K (b1S && (decide (a3y.fexprs = 0 ∧ a3y.fconds = 0))) H) ∧
 (¬ (d7J = 7) →
 K false H))
def X2 (x0 : K3) (H : Hp) (K : Bool → Hp → Prop) : Prop :=
 (x0.d7.b9 = 1 →
 K ((!(decide (0 < (IntKind.wrap .i64 ((x0.d7.G7.n : Int) + (x0.d7.G0.n : Int)))))) && (decide ((x0.d7.i7.n : Int) = 1 ∧ (x0.d7.r5.n : Int) = 0))) H) ∧
 (¬ (x0.d7.b9 = 1) →
 (x0.d7.b9 = 2 →
 K ((!(decide (0 < (IntKind.wrap .i64 ((x0.d7.G7.n : Int) + (x0.d7.G0.n : Int)))))) && (decide ((x0.d7.i7.n : Int) = 2 ∧ (x0.d7.r5.n : Int) = 0))) H) ∧
 (¬ (x0.d7.b9 = 2) →
 (x0.d7.b9 = 3 →
 K ((decide (x0.d7.d6 = ⟨#[]⟩)) && (decide ((x0.d7.i7.n : Int) = 0 ∧ (x0.d7.r5.n : Int) = 1))) H) ∧
 (¬ (x0.d7.b9 = 3) →
 (x0.d7.b9 = 4 →
 K (((decide (x0.d7.d6 = ⟨#[]⟩)) && (decide ((x0.d7.G0.n : Int) = 0))) && (decide ((x0.d7.i7.n : Int) = 0 ∧ (x0.d7.r5.n : Int) = 1))) H) ∧
 (¬ (x0.d7.b9 = 4) →
 (x0.d7.b9 = 5 →
 K1 ((decide (x0.d7.d6 = ⟨#[]⟩)) && (!(decide (0 < (IntKind.wrap .i64 ((x0.d7.G7.n : Int) + (x0.d7.G0.n : Int))))))) x0.d7.b9 (decide (x0.d7.b9 = 5)) (K6.mk (x0.d7.i7.n : Int) (x0.d7.r5.n : Int)) x0 H K) ∧
 (¬ (x0.d7.b9 = 5) →
 K1 ((decide (x0.d7.d6 = ⟨#[]⟩)) && (!(decide (0 < (IntKind.wrap .i64 ((x0.d7.G7.n : Int) + (x0.d7.G0.n : Int))))))) x0.d7.b9 (decide (x0.d7.b9 = 6)) (K6.mk (x0.d7.i7.n : Int) (x0.d7.r5.n : Int)) x0 H K)))))
theorem a8B (x0 : K3) {K : Bool → Hp → Prop} (I : Inv w0 ps0 H0 H [] w) (hR : ∀ (r0 : Bool) (H' : Hp) (w' : World) (_ : Inv w0 ps0 H0 H' [] w') (_ : K r0 H'), R (vB r0) w') (h : X2 x0 H K) : c7p (Value.agg (d9 x0.d7).toArray) w R E := by
 unfold X2 at h
 unfold c7p
 refine L8 I (cs := (d9 x0.d7)) rfl fun g_2 w_3 I_4 k_5 => ?_
 refine a7 G9 ?_
 refine a7 a5k ?_
 refine b8 (ld1 Tryd.isAgg42 (I_4.at1 (o := 4) (vs := [(vs x0.d7.G7)]) (nb rfl) rfl)) ?_
 refine a7 (a4X _ _ _) ?_
 refine a7 G9 ?_
 refine a7 a5l ?_
 refine b8 (ld1 Tryd.isAgg42 (I_4.at1 (o := 5) (vs := [(vs x0.d7.G0)]) (nb rfl) rfl)) ?_
 refine a7 (a4X _ _ _) ?_
 refine a7 (E4 _ _ _ _ _ _) ?_
 refine a7 (a0B _ _ _ _ _ _) ?_
 refine a7 G9 ?_
 refine a7 a5j ?_
 refine b8 (ld1 Tryd.isAgg22 (I_4.at1 (o := 2) (vs := [(vs x0.d7.i7)]) (nb rfl) rfl)) ?_
 refine a7 (a2s _ _ _) ?_
 refine a7 G9 ?_
 refine a7 a7i ?_
 refine b8 (ld1 Tryd.isAgg25 (I_4.at1 (o := 3) (vs := [(vs x0.d7.r5)]) (nb rfl) rfl)) ?_
 refine a7 (a6A _ _ _) ?_
 refine a7 (a1b _ _) ?_
 refine z7 I_4 Tryd.zeroValue227 (cs := [(vi 0), (vi 0)]) rfl fun g_7 w_8 I_9 c2T => ?_
 refine m9 I_9 Tryd.sizeOf227 (vs := [(vi (x0.d7.i7.n : Int)), (vi (x0.d7.r5.n : Int))]) (cs' := [(vi (x0.d7.i7.n : Int)), (vi (x0.d7.r5.n : Int))]) rfl rfl (nb rfl) rfl rfl fun a0I O6 b5V => ?_
 refine a7 G9 ?_
 refine a7 a1D ?_
 refine b8 (ld1 Tryd.isAgg9 ((O6.bring 1).at1 (o := 1) (vs := [(Value.string x0.d7.d6)]) (nb rfl) rfl)) ?_
 refine a7 (a0D _ _ _ _ _) ?_
 simp only [L3]
 refine a7 (Pu.g fun hb => by have g7 := hb; simp only [o7 g7]; exact (a0C _)) ?_
 refine a7 (O7 _ _) ?_
 refine a7 G9 ?_
 refine a7 a5i ?_
 refine b8 (ld1 Tryd.isAgg3 ((O6.bring 1).at1 (o := 0) (vs := [(vi x0.d7.b9)]) (nb rfl) rfl)) ?_
 refine a7 (i8 _ _ _ _ _ _) ?_
 refine i4 (fun a4N => ?_) (fun a4N => ?_)
 ·replace h := h.1 a4N
  refine a7 (a0C _) ?_
  refine b8 (Ld.g fun hb => by have g7 := hb; exact (ldA Tryd.isAgg227 Tryd.sizeOf227 rfl (O6.at1 (o := 0) (vs := [(vi (x0.d7.i7.n : Int)), (vi (x0.d7.r5.n : Int))]) (nb rfl) rfl))) ?_
  refine a7 (Pu.g fun hb => by have g7 := hb; exact (a1b _ _)) ?_
  refine a7 (Pu.g fun hb => by have g7 := hb; simp only [o7 g7]; exact (a4Y _ _ _ _ _ _)) ?_
  refine a7 (O7 _ _) ?_
  exact hR ((!(decide (0 < (IntKind.wrap .i64 ((x0.d7.G7.n : Int) + (x0.d7.G0.n : Int)))))) && (decide ((x0.d7.i7.n : Int) = 1 ∧ (x0.d7.r5.n : Int) = 0))) H _ O6.drop.drop h
 ·replace h := h.2 a4N
  refine a7 (i8 _ _ _ _ _ _) ?_
  refine i4 (fun a8u => ?_) (fun a8u => ?_)
  ·replace h := h.1 a8u
   refine a7 (a0C _) ?_
   refine b8 (Ld.g fun hb => by have g7 := hb; exact (ldA Tryd.isAgg227 Tryd.sizeOf227 rfl (O6.at1 (o := 0) (vs := [(vi (x0.d7.i7.n : Int)), (vi (x0.d7.r5.n : Int))]) (nb rfl) rfl))) ?_
   refine a7 (Pu.g fun hb => by have g7 := hb; exact (a1b _ _)) ?_
   refine a7 (Pu.g fun hb => by have g7 := hb; simp only [o7 g7]; exact (a4Y _ _ _ _ _ _)) ?_
   refine a7 (O7 _ _) ?_
   exact hR ((!(decide (0 < (IntKind.wrap .i64 ((x0.d7.G7.n : Int) + (x0.d7.G0.n : Int)))))) && (decide ((x0.d7.i7.n : Int) = 2 ∧ (x0.d7.r5.n : Int) = 0))) H _ O6.drop.drop h
  ·replace h := h.2 a8u
   refine a7 (i8 _ _ _ _ _ _) ?_
   refine i4 (fun a8v => ?_) (fun a8v => ?_)
   ·replace h := h.1 a8v
    refine a7 G9 ?_
    refine a7 a1D ?_
    refine b8 (ld1 Tryd.isAgg9 ((O6.bring 1).at1 (o := 1) (vs := [(Value.string x0.d7.d6)]) (nb rfl) rfl)) ?_
    refine a7 (a0D _ _ _ _ _) ?_
    refine b8 (Ld.g fun hb => by have g7 := hb; exact (ldA Tryd.isAgg227 Tryd.sizeOf227 rfl (O6.at1 (o := 0) (vs := [(vi (x0.d7.i7.n : Int)), (vi (x0.d7.r5.n : Int))]) (nb rfl) rfl))) ?_
    refine a7 (Pu.g fun hb => by have g7 := hb; exact (a1b _ _)) ?_
    refine a7 (Pu.g fun hb => by have g7 := hb; simp only [o7 g7]; exact (a4Y _ _ _ _ _ _)) ?_
    refine a7 (O7 _ _) ?_
    exact hR ((decide (x0.d7.d6 = ⟨#[]⟩)) && (decide ((x0.d7.i7.n : Int) = 0 ∧ (x0.d7.r5.n : Int) = 1))) H _ O6.drop.drop h
   ·replace h := h.2 a8v
    refine a7 (i8 _ _ _ _ _ _) ?_
    refine i4 (fun a8w => ?_) (fun a8w => ?_)
    ·replace h := h.1 a8w
     refine a7 G9 ?_
     refine a7 a1D ?_
     refine b8 (ld1 Tryd.isAgg9 ((O6.bring 1).at1 (o := 1) (vs := [(Value.string x0.d7.d6)]) (nb rfl) rfl)) ?_
     refine a7 (a0D _ _ _ _ _) ?_
     refine a7 (Pu.g fun hb => by have g7 := hb; exact G9) ?_
     refine a7 (Pu.g fun hb => by have g7 := hb; simp only [o7 g7]; exact a5l) ?_
     refine b8 (Ld.g fun hb => by have g7 := hb; simp only [o7 g7]; exact (ld1 Tryd.isAgg42 ((O6.bring 1).at1 (o := 5) (vs := [(vs x0.d7.G0)]) (nb rfl) rfl))) ?_
     refine a7 (Pu.g fun hb => by have g7 := hb; simp only [o7 g7]; exact (a4X _ _ _)) ?_
     refine a7 (Pu.g fun hb => by have g7 := hb; simp only [o7 g7]; exact (i8 _ _ _ _ _ _)) ?_
     refine a7 (O7 _ _) ?_
     refine b8 (Ld.g fun hb => by have g7 := hb; exact (ldA Tryd.isAgg227 Tryd.sizeOf227 rfl (O6.at1 (o := 0) (vs := [(vi (x0.d7.i7.n : Int)), (vi (x0.d7.r5.n : Int))]) (nb rfl) rfl))) ?_
     refine a7 (Pu.g fun hb => by have g7 := hb; exact (a1b _ _)) ?_
     refine a7 (Pu.g fun hb => by have g7 := hb; simp only [o7 g7]; exact (a4Y _ _ _ _ _ _)) ?_
     refine a7 (O7 _ _) ?_
     exact hR (((decide (x0.d7.d6 = ⟨#[]⟩)) && (decide ((x0.d7.G0.n : Int) = 0))) && (decide ((x0.d7.i7.n : Int) = 0 ∧ (x0.d7.r5.n : Int) = 1))) H _ O6.drop.drop h
    ·replace h := h.2 a8w
     have hj1 : ∀ (b4P : Bool) (H : Hp) (w : World) (_ : Inv w0 ps0 H0 H [bx g_7 227 [(vi (K6.mk (x0.d7.i7.n : Int) (x0.d7.r5.n : Int)).fexprs), (vi (K6.mk (x0.d7.i7.n : Int) (x0.d7.r5.n : Int)).fconds)], bx g_2 179 (d9 x0.d7)] w) (_ : K1 ((decide (x0.d7.d6 = ⟨#[]⟩)) && (!(decide (0 < (IntKind.wrap .i64 ((x0.d7.G7.n : Int) + (x0.d7.G0.n : Int))))))) x0.d7.b9 b4P (K6.mk (x0.d7.i7.n : Int) (x0.d7.r5.n : Int)) x0 H K), b9u (Value.pointer (some ⟨g_7, 0, none⟩)) (vB ((decide (x0.d7.d6 = ⟨#[]⟩)) && (!(decide (0 < (IntKind.wrap .i64 ((x0.d7.G7.n : Int) + (x0.d7.G0.n : Int)))))))) (vi x0.d7.b9) (vB b4P) w R E := by
      intro b4P H w I h
      unfold b9u
      intro _
      unfold K1 at h
      refine p7 (fun a4O => ?_) (fun a4O => ?_)
      ·replace h := h.1 a4O
       refine b8 (Ld.g fun hb => by have g7 := hb; exact (ldA Tryd.isAgg227 Tryd.sizeOf227 rfl (I.at1 (o := 0) (vs := [(vi (K6.mk (x0.d7.i7.n : Int) (x0.d7.r5.n : Int)).fexprs), (vi (K6.mk (x0.d7.i7.n : Int) (x0.d7.r5.n : Int)).fconds)]) (nb rfl) rfl))) ?_
       refine a7 (Pu.g fun hb => by have g7 := hb; exact (a1b _ _)) ?_
       refine a7 (Pu.g fun hb => by have g7 := hb; simp only [o7 g7]; exact (a4Y _ _ _ _ _ _)) ?_
       refine a7 (O7 _ _) ?_
       exact hR (((decide (x0.d7.d6 = ⟨#[]⟩)) && (!(decide (0 < (IntKind.wrap .i64 ((x0.d7.G7.n : Int) + (x0.d7.G0.n : Int))))))) && (decide ((K6.mk (x0.d7.i7.n : Int) (x0.d7.r5.n : Int)).fexprs = 0 ∧ (K6.mk (x0.d7.i7.n : Int) (x0.d7.r5.n : Int)).fconds = 1))) H _ I.drop.drop h
      ·replace h := h.2 a4O
       refine a7 (i8 _ _ _ _ _ _) ?_
       refine i4 (fun b6m => ?_) (fun b6m => ?_)
       ·replace h := h.1 b6m
        refine b8 (Ld.g fun hb => by have g7 := hb; exact (ldA Tryd.isAgg227 Tryd.sizeOf227 rfl (I.at1 (o := 0) (vs := [(vi (K6.mk (x0.d7.i7.n : Int) (x0.d7.r5.n : Int)).fexprs), (vi (K6.mk (x0.d7.i7.n : Int) (x0.d7.r5.n : Int)).fconds)]) (nb rfl) rfl))) ?_
        refine a7 (Pu.g fun hb => by have g7 := hb; exact (c6R )) ?_
        refine a7 (Pu.g fun hb => by have g7 := hb; simp only [o7 g7]; exact (a4Y _ _ _ _ _ _)) ?_
        refine a7 (O7 _ _) ?_
        exact hR (((decide (x0.d7.d6 = ⟨#[]⟩)) && (!(decide (0 < (IntKind.wrap .i64 ((x0.d7.G7.n : Int) + (x0.d7.G0.n : Int))))))) && (decide ((K6.mk (x0.d7.i7.n : Int) (x0.d7.r5.n : Int)).fexprs = 0 ∧ (K6.mk (x0.d7.i7.n : Int) (x0.d7.r5.n : Int)).fconds = 0))) H _ I.drop.drop h
       ·replace h := h.2 b6m
        exact hR false H _ I.drop.drop h
     refine A8 fun j1 hx1 => ?_
     refine a7 (i8 _ _ _ _ _ _) ?_
     refine i4 (fun a8x => ?_) (fun a8x => ?_)
     ·replace h := h.1 a8x
      exact hx1 _ _ (hj1 (decide (x0.d7.b9 = 5)) H _ ((O6.bring 1).bring 1) h)
     ·replace h := h.2 a8x
      refine a7 (i8 _ _ _ _ _ _) ?_
      exact hx1 _ _ (hj1 (decide (x0.d7.b9 = 6)) H _ ((O6.bring 1).bring 1) h)
theorem a9m (x0 : K3) {H : Hp} {K : Bool → Hp → Prop} (h : X2 x0 H K) : a1y x0 H K := by
 intro w I
 refine e0y ?_
 refine a8B x0 I (fun r0 H' w' I' hk => ⟨H', _, I', r0, rfl, rfl, hk⟩) h
end Go.Proofs.YtnhkdkcgdcgmdaaDoor
