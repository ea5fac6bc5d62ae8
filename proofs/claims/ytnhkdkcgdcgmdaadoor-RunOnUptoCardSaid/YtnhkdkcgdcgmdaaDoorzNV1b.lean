/- Typed formulas of the program's functions, and the theorems that the contracts follow from them; printed by lift.py off the code. -/
import Derived.Test.YtnhkdkcgdcgmdaaDoorzNV1
namespace Go.Proofs.YtnhkdkcgdcgmdaaDoor
open Go.RowKit
set_option maxRecDepth 100000
set_option maxHeartbeats 2000000
variable {w0 w : World} {ps0 : Nat → Prop} {H0 H : Hp} {R : RT} {E : Pan}
def m9 (t6 : Bool) (H : Hp) (K : Bool → Hp → Prop) : Prop :=
 (t6 = true →
 K true H) ∧
 (t6 = false →
 K false H)
def a2x (x0 : ByteArray) (H : Hp) (K : Bool → Hp → Prop) : Prop :=
 (x0 = ⟨#[118, 97, 114]⟩ →
 m9 (decide (x0 = ⟨#[118, 97, 114]⟩)) H K) ∧
 (¬ (x0 = ⟨#[118, 97, 114]⟩) →
 (x0 = ⟨#[97, 114, 114, 97, 121]⟩ →
 m9 (decide (x0 = ⟨#[97, 114, 114, 97, 121]⟩)) H K) ∧
 (¬ (x0 = ⟨#[97, 114, 114, 97, 121]⟩) →
 (x0 = ⟨#[105, 102]⟩ →
 m9 (decide (x0 = ⟨#[105, 102]⟩)) H K) ∧
 (¬ (x0 = ⟨#[105, 102]⟩) →
 (x0 = ⟨#[101, 108, 115, 101]⟩ →
 m9 (decide (x0 = ⟨#[101, 108, 115, 101]⟩)) H K) ∧
 (¬ (x0 = ⟨#[101, 108, 115, 101]⟩) →
 (x0 = ⟨#[119, 104, 105, 108, 101]⟩ →
 m9 (decide (x0 = ⟨#[119, 104, 105, 108, 101]⟩)) H K) ∧
 (¬ (x0 = ⟨#[119, 104, 105, 108, 101]⟩) →
 (x0 = ⟨#[97, 115, 115, 101, 114, 116]⟩ →
 m9 (decide (x0 = ⟨#[97, 115, 115, 101, 114, 116]⟩)) H K) ∧
 (¬ (x0 = ⟨#[97, 115, 115, 101, 114, 116]⟩) →
 (x0 = ⟨#[97, 115, 115, 117, 109, 101]⟩ →
 m9 (decide (x0 = ⟨#[97, 115, 115, 117, 109, 101]⟩)) H K) ∧
 (¬ (x0 = ⟨#[97, 115, 115, 117, 109, 101]⟩) →
 (x0 = ⟨#[115, 107, 105, 112]⟩ →
 m9 (decide (x0 = ⟨#[115, 107, 105, 112]⟩)) H K) ∧
 (¬ (x0 = ⟨#[115, 107, 105, 112]⟩) →
 (x0 = ⟨#[105, 110, 112, 117, 116]⟩ →
 m9 (decide (x0 = ⟨#[105, 110, 112, 117, 116]⟩)) H K) ∧
 (¬ (x0 = ⟨#[105, 110, 112, 117, 116]⟩) →
 (x0 = ⟨#[116, 114, 117, 101]⟩ →
 m9 (decide (x0 = ⟨#[116, 114, 117, 101]⟩)) H K) ∧
 (¬ (x0 = ⟨#[116, 114, 117, 101]⟩) →
 m9 (decide (x0 = ⟨#[102, 97, 108, 115, 101]⟩)) H K))))))))))
theorem b4q (x0 : ByteArray) {K : Bool → Hp → Prop} (I : Inv w0 ps0 H0 H [] w) (hR : ∀ (r0 : Bool) (H' : Hp) (w' : World) (_ : Inv w0 ps0 H0 H' [] w') (_ : K r0 H'), R (vB r0) w') (h : a2x x0 H K) : c8W (Value.string x0) w R E := by
 unfold a2x at h
 unfold c8W
 have hj1 : ∀ (t6 : Bool) (H : Hp) (w : World) (_ : Inv w0 ps0 H0 H [] w) (_ : m9 t6 H K), b9X (vB t6) w R E := by
  intro t6 H w I h
  unfold b9X
  intro _
  unfold m9 at h
  refine o4 (fun c_1 => ?_) (fun c_1 => ?_)
  ·replace h := h.1 c_1
   exact hR true H _ I h
  ·replace h := h.2 c_1
   exact hR false H _ I h
 refine u7 fun j1 hx1 => ?_
 refine a7 (a0Y _ _ _ _ _) ?_
 refine i5 (fun a8Y => ?_) (fun a8Y => ?_)
 ·replace h := h.1 a8Y
  exact hx1 _ _ (hj1 (decide (x0 = ⟨#[118, 97, 114]⟩)) H _ I h)
 ·replace h := h.2 a8Y
  refine a7 (a0Y _ _ _ _ _) ?_
  refine i5 (fun d5W => ?_) (fun d5W => ?_)
  ·replace h := h.1 d5W
   exact hx1 _ _ (hj1 (decide (x0 = ⟨#[97, 114, 114, 97, 121]⟩)) H _ I h)
  ·replace h := h.2 d5W
   refine a7 (a0Y _ _ _ _ _) ?_
   refine i5 (fun c_9 => ?_) (fun c_9 => ?_)
   ·replace h := h.1 c_9
    exact hx1 _ _ (hj1 (decide (x0 = ⟨#[105, 102]⟩)) H _ I h)
   ·replace h := h.2 c_9
    refine a7 (a0Y _ _ _ _ _) ?_
    refine i5 (fun c_8 => ?_) (fun c_8 => ?_)
    ·replace h := h.1 c_8
     exact hx1 _ _ (hj1 (decide (x0 = ⟨#[101, 108, 115, 101]⟩)) H _ I h)
    ·replace h := h.2 c_8
     refine a7 (a0Y _ _ _ _ _) ?_
     refine i5 (fun c_7 => ?_) (fun c_7 => ?_)
     ·replace h := h.1 c_7
      exact hx1 _ _ (hj1 (decide (x0 = ⟨#[119, 104, 105, 108, 101]⟩)) H _ I h)
     ·replace h := h.2 c_7
      refine a7 (a0Y _ _ _ _ _) ?_
      refine i5 (fun c_6 => ?_) (fun c_6 => ?_)
      ·replace h := h.1 c_6
       exact hx1 _ _ (hj1 (decide (x0 = ⟨#[97, 115, 115, 101, 114, 116]⟩)) H _ I h)
      ·replace h := h.2 c_6
       refine a7 (a0Y _ _ _ _ _) ?_
       refine i5 (fun c_5 => ?_) (fun c_5 => ?_)
       ·replace h := h.1 c_5
        exact hx1 _ _ (hj1 (decide (x0 = ⟨#[97, 115, 115, 117, 109, 101]⟩)) H _ I h)
       ·replace h := h.2 c_5
        refine a7 (a0Y _ _ _ _ _) ?_
        refine i5 (fun c_4 => ?_) (fun c_4 => ?_)
        ·replace h := h.1 c_4
         exact hx1 _ _ (hj1 (decide (x0 = ⟨#[115, 107, 105, 112]⟩)) H _ I h)
        ·replace h := h.2 c_4
         refine a7 (a0Y _ _ _ _ _) ?_
         refine i5 (fun c_3 => ?_) (fun c_3 => ?_)
         ·replace h := h.1 c_3
          exact hx1 _ _ (hj1 (decide (x0 = ⟨#[105, 110, 112, 117, 116]⟩)) H _ I h)
         ·replace h := h.2 c_3
          refine a7 (a0Y _ _ _ _ _) ?_
          refine i5 (fun c_2 => ?_) (fun c_2 => ?_)
          ·replace h := h.1 c_2
           exact hx1 _ _ (hj1 (decide (x0 = ⟨#[116, 114, 117, 101]⟩)) H _ I h)
          ·replace h := h.2 c_2
           refine a7 (a0Y _ _ _ _ _) ?_
           exact hx1 _ _ (hj1 (decide (x0 = ⟨#[102, 97, 108, 115, 101]⟩)) H _ I h)
theorem b6c (x0 : ByteArray) {H : Hp} {K : Bool → Hp → Prop} (h : a2x x0 H K) : a1b x0 H K := by
 intro w I
 refine e1Y ?_
 refine b4q x0 I (fun r0 H' w' I' hk => ⟨H', _, I', r0, rfl, rfl, hk⟩) h
def a1q (x0 : j9) (H : Hp) (K : a8 → Hp → Prop) : Prop :=
 K (a8.G5 (O5.mk x0)) H
theorem b1n (x0 : j9) {K : a8 → Hp → Prop} (I : Inv w0 ps0 H0 H [] w) (hR : ∀ (r0 : a8) (H' : Hp) (w' : World) (_ : Inv w0 ps0 H0 H' [] w') (_ : K r0 H'), R (u6 r0) w') (h : a1q x0 H K) : F89 (Value.agg (m7 x0).toArray) w R E := by
 unfold a1q at h
 unfold F89
 refine O4 I (cs := (m7 x0)) rfl fun g_2 w_3 I_4 k_5 => ?_
 refine b6 (ldA Tryd.isAgg58 Tryd.sizeOf58 rfl (I_4.at1 (o := 0) (vs := (m7 x0)) (nb rfl) rfl)) ?_
 refine a7 (c2O _ _) ?_
 refine a7 (b9K (O5.mk x0)) ?_
 exact hR (a8.G5 (O5.mk x0)) H _ I_4.drop h
theorem b2C (x0 : j9) {H : Hp} {K : a8 → Hp → Prop} (h : a1q x0 H K) : a6c x0 H K := by
 intro w I
 refine e8c ?_
 refine b1n x0 I (fun r0 H' w' I' hk => ⟨H', _, I', r0, rfl, rfl, hk⟩) h
def a1r (x0 : r6) (H : Hp) (K : a8 → Hp → Prop) : Prop :=
 K (a8.D7 (L5.mk x0)) H
theorem b1o (x0 : r6) {K : a8 → Hp → Prop} (I : Inv w0 ps0 H0 H [] w) (hR : ∀ (r0 : a8) (H' : Hp) (w' : World) (_ : Inv w0 ps0 H0 H' [] w') (_ : K r0 H'), R (u6 r0) w') (h : a1r x0 H K) : F91 (Value.agg (g7 x0).toArray) w R E := by
 unfold a1r at h
 unfold F91
 refine O4 I (cs := (g7 x0)) rfl fun g_2 w_3 I_4 k_5 => ?_
 refine b6 (ldA Tryd.isAgg63 Tryd.sizeOf63 rfl (I_4.at1 (o := 0) (vs := (g7 x0)) (nb rfl) rfl)) ?_
 refine a7 (c2P _ _ _ _ _ _ _ _ _ _ _ _ _ _) ?_
 refine a7 (b9L (L5.mk x0)) ?_
 exact hR (a8.D7 (L5.mk x0)) H _ I_4.drop h
theorem b2D (x0 : r6) {H : Hp} {K : a8 → Hp → Prop} (h : a1r x0 H K) : a6d x0 H K := by
 intro w I
 refine e8g ?_
 refine b1o x0 I (fun r0 H' w' I' hk => ⟨H', _, I', r0, rfl, rfl, hk⟩) h
def a2y (x0 : r9) (H : Hp) (K : g8 → Hp → Prop) : Prop :=
 E4 x0.a3z H (fun (a6h : Sl) (H_8 : Hp) =>
 s8 x0.a4T H_8 (fun (a6i : Sl) (b4p : Hp) =>
 ∀ (a6D : Sl) (a8V : Hp), Hle b4p a8V → SlH a8V 1 csl a6D [a6h, a6i] → a6D.n ≤ a6D.c →
 A0 a6D a8V (fun (b5y : Sl) (c0t : Hp) =>
 a2Z b5y c0t (fun (c9E : g8) (b2E : Hp) =>
 K c9E b2E))))
theorem b4r (x0 : r9) {K : g8 → Hp → Prop} (I : Inv w0 ps0 H0 H [] w) (hR : ∀ (r0 : g8) (gr0 : Nat) (H' : Hp) (w' : World) (_ : Inv w0 ps0 H0 H' [bx gr0 106 (a4h r0)] w') (_ : K r0 H'), R (Value.pointer (some ⟨gr0, 0, none⟩)) w') (h : a2y x0 H K) : F52 (Value.agg (m6 x0).toArray) w R E := by
 unfold a2y at h
 unfold F52
 refine O4 I (cs := (m6 x0)) rfl fun g_2 w_3 I_4 k_5 => ?_
 refine V2 I_4 fun w_6 I_7 => ?_
 refine i8 a7Q ?_
 refine i8 b1X ?_
 refine r5 (ld1 Tryd.isAgg41 (I_7.at1 (o := 0) (vs := [(vs x0.a3z)]) (nb rfl) rfl)) ?_
 refine r5 (ld1 Tryd.isAgg42 (I_7.at1 (o := 1) (vs := [(vs x0.a4T)]) (nb rfl) rfl)) ?_
 refine d5 (cap := []) (fun args w => Tryd.call88 args w) ?_
 refine m8 (Fi := []) (Fr := [bx g_2 44 (m6 x0)]) I_7 (h) (fun f1A H_8 f1B w_9 b2B f1C b6T c4c => ?_) (fun _ _ _ _ _ q => q.elim)
 obtain ⟨a6h, rfl, rfl, h⟩ := c4c
 refine ⟨(b6T _ I_7.lt1 (Inv.a5H (Fi := []) I_7)), ?_⟩
 refine d5 (cap := []) (fun args w => Tryd.call90 args w) ?_
 refine m8 (Fi := []) (Fr := [bx g_2 44 (m6 x0)]) b2B (h) (fun f1D b4p f1E r7 a8W f1F c0u c4d => ?_) (fun _ _ _ _ _ q => q.elim)
 obtain ⟨a6i, rfl, rfl, h⟩ := c4d
 refine a1Q (e := 124) (c := csl) (xs := [a6h, a6i]) a8W (c2N _ _ _ _ _ _) rfl rfl b5m b5n (nb rfl) fun a6D f1z c9D d5S b6L f1x => ?_
 obtain ⟨a8V, c4e, c3s, c4a, d5T⟩ := Inv.freezeC b6L d5S (by decide)
 replace h := h a6D a8V c3s c4a d5T
 refine d5 (cap := []) (fun args w => Tryd.call87 args w) ?_
 refine m8 (Fi := []) (Fr := [bx g_2 44 (m6 x0)]) c4e (h) (fun g5f c0t g5g d5U a6B g5h f1G d5V => ?_) (fun _ _ _ _ _ q => q.elim)
 obtain ⟨b5y, rfl, rfl, h⟩ := d5V
 refine d5 (cap := []) (fun args w => Tryd.call60 args w) ?_
 refine m8 (Fi := []) (Fr := [bx g_2 44 (m6 x0)]) a6B (h) (fun g9w b2E g9x K4 c4f g9y f1H g5i => ?_) (fun _ _ _ _ _ q => q.elim)
 obtain ⟨c9E, f1I, rfl, rfl, h⟩ := g5i
 exact hR c9E f1I b2E _ (c4f.bring 1).drop h
theorem b6d (x0 : r9) {H : Hp} {K : g8 → Hp → Prop} (h : a2y x0 H K) : a4E x0 H K := by
 intro w I
 refine e7y ?_
 refine b4r x0 I (fun r0 gr0 H' w' I' hk => ⟨H', _, I', r0, gr0, rfl, rfl, hk⟩) h
def B6 (f1J : Int) (b5z : Bool) (a0N : E7) (H : Hp) (K : Bool → Hp → Prop) : Prop :=
 (b5z = true →
 K (decide (f1J = 2)) H) ∧
 (b5z = false →
 K false H)
def K7 (c0v : Int) (a4n : Int) (b5A : Bool) (a3T : E7) (H : Hp) (K : Bool → Hp → Prop) : Prop :=
 (b5A = true →
 K (decide (c0v = 1)) H) ∧
 (b5A = false →
 (a4n = 6 →
 B6 c0v (decide (a4n = 6)) a3T H K) ∧
 (¬ (a4n = 6) →
 (a4n = 7 →
 B6 c0v (decide (a4n = 7)) a3T H K) ∧
 (¬ (a4n = 7) →
 (a4n = 8 →
 B6 c0v (decide (a4n = 8)) a3T H K) ∧
 (¬ (a4n = 8) →
 (a4n = 9 →
 B6 c0v (decide (a4n = 9)) a3T H K) ∧
 (¬ (a4n = 9) →
 B6 c0v (decide (a4n = 10)) a3T H K)))))
def K8 (a8Z : Int) (a4o : Int) (b5B : Bool) (D2 : E7) (H : Hp) (K : Bool → Hp → Prop) : Prop :=
 (b5B = true →
 K (decide (a8Z = 0)) H) ∧
 (b5B = false →
 (a4o = 4 →
 K7 a8Z a4o (decide (a4o = 4)) D2 H K) ∧
 (¬ (a4o = 4) →
 K7 a8Z a4o (decide (a4o = 5)) D2 H K))
def Z0 (x0 : E7) (H : Hp) (K : Bool → Hp → Prop) : Prop :=
 a0M (a8.D1 x0) H (fun (U8 : ByteArray) (c1Y : Bool) (H_6 : Hp) =>
 ((((!decide (x0.m5.b9 = 1)) && (!decide (x0.m5.C4 = 0))) || ((!c1Y) && (!decide (x0.m5.d6 = ⟨#[]⟩)))) = true →
 K false H_6) ∧
 ((((!decide (x0.m5.b9 = 1)) && (!decide (x0.m5.C4 = 0))) || ((!c1Y) && (!decide (x0.m5.d6 = ⟨#[]⟩)))) = false →
 (x0.m5.b9 = 1 →
 K ((decide (0 ≤ x0.m5.C4)) && (decide ((x0.m5.A5.n : Int) = 0))) H_6) ∧
 (¬ (x0.m5.b9 = 1) →
 (x0.m5.b9 = 2 →
 K8 (x0.m5.A5.n : Int) x0.m5.b9 (decide (x0.m5.b9 = 2)) x0 H_6 K) ∧
 (¬ (x0.m5.b9 = 2) →
 K8 (x0.m5.A5.n : Int) x0.m5.b9 (decide (x0.m5.b9 = 3)) x0 H_6 K))))
theorem a9a (x0 : E7) {K : Bool → Hp → Prop} (I : Inv w0 ps0 H0 H [] w) (hR : ∀ (r0 : Bool) (H' : Hp) (w' : World) (_ : Inv w0 ps0 H0 H' [] w') (_ : K r0 H'), R (vB r0) w') (h : Z0 x0 H K) : c9c (Value.agg (d9 x0.m5).toArray) w R E := by
 unfold Z0 at h
 unfold c9c
 refine O4 I (cs := (d9 x0.m5)) rfl fun g_2 w_3 I_4 k_5 => ?_
 refine a7 W8 ?_
 refine a7 a4b ?_
 refine b6 (ld1 Tryd.isAgg22 (I_4.at1 (o := 3) (vs := [(vs x0.m5.A5)]) (nb rfl) rfl)) ?_
 refine a7 (a2R _ _ _) ?_
 refine b6 (ldA Tryd.isAgg123 Tryd.sizeOf123 rfl (I_4.at1 (o := 0) (vs := (d9 x0.m5)) (nb rfl) rfl)) ?_
 refine a7 (b1c x0) ?_
 refine d5 (cap := []) (fun args w => Tryd.call118 args w) ?_
 refine m8 (Fi := []) (Fr := [bx g_2 123 (d9 x0.m5)]) I_4 (h) (fun c4g H_6 c4h w_7 I_8 c4i k_9 a9b => ?_) (fun _ _ _ _ _ q => q.elim)
 obtain ⟨U8, c1Y, rfl, rfl, h⟩ := a9b
 refine a7 (m3 _ _ (Value.string U8) rfl) ?_
 refine a7 (m3 _ _ (vB c1Y) rfl) ?_
 refine a7 W8 ?_
 refine a7 X1 ?_
 refine b6 (ld1 Tryd.isAgg3 (I_8.at1 (o := 0) (vs := [(vi x0.m5.b9)]) (nb rfl) rfl)) ?_
 refine a7 (N4 _ _ _ _ _ _) ?_
 refine a7 (Pu.g fun hb => by have b7 := hb; exact W8) ?_
 refine a7 (Pu.g fun hb => by have b7 := hb; simp only [l9 b7]; exact a7O) ?_
 refine b6 (Ld.g fun hb => by have b7 := hb; simp only [l9 b7]; exact (ld1 Tryd.isAgg2 (I_8.at1 (o := 1) (vs := [(vi x0.m5.C4)]) (nb rfl) rfl))) ?_
 refine a7 (Pu.g fun hb => by have b7 := hb; simp only [l9 b7]; exact (N4 _ _ _ _ _ _)) ?_
 refine a7 (N0 _ _) ?_
 simp only [L2]
 refine a7 (Pu.g fun hb => by have b7 := hb; simp only [l9 b7]; exact (V5 _)) ?_
 simp only [c8G]
 refine a7 (Pu.e (a3X _ _ _) (Pu.g fun hb => by obtain ⟨b7, b4n⟩ := a7L hb; exact W8)) ?_
 refine a7 (Pu.e (a3X _ _ _) (Pu.g fun hb => by obtain ⟨b7, b4n⟩ := a7L hb; simp only [l9 hb]; exact a4e)) ?_
 refine b6 (Ld.e (a3X _ _ _) (Ld.g fun hb => by obtain ⟨b7, b4n⟩ := a7L hb; simp only [l9 hb]; exact (ld1 Tryd.isAgg9 (I_8.at1 (o := 2) (vs := [(Value.string x0.m5.d6)]) (nb rfl) rfl)))) ?_
 refine a7 (Pu.e (a3X _ _ _) (Pu.g fun hb => by obtain ⟨b7, b4n⟩ := a7L hb; simp only [l9 hb]; exact (e7k _ _ _ _ _))) ?_
 refine a7 (Pu.g fun hb => by have b7 := hb; simp only [l9 b7, c2x b7]; exact (N0 _ _)) ?_
 refine a7 (Q5 _ _) ?_
 refine o4 (fun d5X => ?_) (fun d5X => ?_)
 ·replace h := h.1 d5X
  exact hR false H_6 _ I_8.drop h
 ·replace h := h.2 d5X
  refine a7 W8 ?_
  refine a7 X1 ?_
  refine b6 (ld1 Tryd.isAgg3 (I_8.at1 (o := 0) (vs := [(vi x0.m5.b9)]) (nb rfl) rfl)) ?_
  refine a7 (j8 _ _ _ _ _ _) ?_
  refine i5 (fun d5Y => ?_) (fun d5Y => ?_)
  ·replace h := h.1 d5Y
   refine a7 W8 ?_
   refine a7 a7O ?_
   refine b6 (ld1 Tryd.isAgg2 (I_8.at1 (o := 1) (vs := [(vi x0.m5.C4)]) (nb rfl) rfl)) ?_
   refine a7 (a8y _ _ _ _ _ _) ?_
   simp only [L2]
   refine a7 (Pu.g fun hb => by have b7 := hb; simp only [l9 b7]; exact (j8 _ _ _ _ _ _)) ?_
   refine a7 (N0 _ _) ?_
   exact hR ((decide (0 ≤ x0.m5.C4)) && (decide ((x0.m5.A5.n : Int) = 0))) H_6 _ I_8.drop h
  ·replace h := h.2 d5Y
   have hj1 : ∀ (b5B : Bool) (H : Hp) (w : World) (_ : Inv w0 ps0 H0 H [bx g_2 123 (d9 x0.m5)] w) (_ : K8 (x0.m5.A5.n : Int) x0.m5.b9 b5B x0 H K), c0h (vi (x0.m5.A5.n : Int)) (vi x0.m5.b9) (vB b5B) w R E := by
    intro b5B H w I h
    unfold c0h
    intro _
    unfold K8 at h
    refine o4 (fun d5Z => ?_) (fun d5Z => ?_)
    ·replace h := h.1 d5Z
     refine a7 (j8 _ _ _ _ _ _) ?_
     exact hR (decide ((x0.m5.A5.n : Int) = 0)) H _ I.drop h
    ·replace h := h.2 d5Z
     have hj2 : ∀ (b5A : Bool) (H : Hp) (w : World) (_ : Inv w0 ps0 H0 H [bx g_2 123 (d9 x0.m5)] w) (_ : K7 (x0.m5.A5.n : Int) x0.m5.b9 b5A x0 H K), c0g (vi (x0.m5.A5.n : Int)) (vi x0.m5.b9) (vB b5A) w R E := by
      intro b5A H w I h
      unfold c0g
      intro _
      unfold K7 at h
      refine o4 (fun a5k => ?_) (fun a5k => ?_)
      ·replace h := h.1 a5k
       refine a7 (j8 _ _ _ _ _ _) ?_
       exact hR (decide ((x0.m5.A5.n : Int) = 1)) H _ I.drop h
      ·replace h := h.2 a5k
       have hj3 : ∀ (b5z : Bool) (H : Hp) (w : World) (_ : Inv w0 ps0 H0 H [bx g_2 123 (d9 x0.m5)] w) (_ : B6 (x0.m5.A5.n : Int) b5z x0 H K), c0f (vi (x0.m5.A5.n : Int)) (vB b5z) w R E := by
        intro b5z H w I h
        unfold c0f
        intro _
        unfold B6 at h
        refine o4 (fun a5l => ?_) (fun a5l => ?_)
        ·replace h := h.1 a5l
         refine a7 (j8 _ _ _ _ _ _) ?_
         exact hR (decide ((x0.m5.A5.n : Int) = 2)) H _ I.drop h
        ·replace h := h.2 a5l
         exact hR false H _ I.drop h
       refine u7 fun j3 hx3 => ?_
       refine a7 (j8 _ _ _ _ _ _) ?_
       refine i5 (fun a9c => ?_) (fun a9c => ?_)
       ·replace h := h.1 a9c
        exact hx3 _ _ (hj3 (decide (x0.m5.b9 = 6)) H _ I h)
       ·replace h := h.2 a9c
        refine a7 (j8 _ _ _ _ _ _) ?_
        refine i5 (fun a3h => ?_) (fun a3h => ?_)
        ·replace h := h.1 a3h
         exact hx3 _ _ (hj3 (decide (x0.m5.b9 = 7)) H _ I h)
        ·replace h := h.2 a3h
         refine a7 (j8 _ _ _ _ _ _) ?_
         refine i5 (fun a3i => ?_) (fun a3i => ?_)
         ·replace h := h.1 a3i
          exact hx3 _ _ (hj3 (decide (x0.m5.b9 = 8)) H _ I h)
         ·replace h := h.2 a3i
          refine a7 (j8 _ _ _ _ _ _) ?_
          refine i5 (fun a9d => ?_) (fun a9d => ?_)
          ·replace h := h.1 a9d
           exact hx3 _ _ (hj3 (decide (x0.m5.b9 = 9)) H _ I h)
          ·replace h := h.2 a9d
           refine a7 (j8 _ _ _ _ _ _) ?_
           exact hx3 _ _ (hj3 (decide (x0.m5.b9 = 10)) H _ I h)
     refine u7 fun j2 hx2 => ?_
     refine a7 (j8 _ _ _ _ _ _) ?_
     refine i5 (fun a9e => ?_) (fun a9e => ?_)
     ·replace h := h.1 a9e
      exact hx2 _ _ (hj2 (decide (x0.m5.b9 = 4)) H _ I h)
     ·replace h := h.2 a9e
      refine a7 (j8 _ _ _ _ _ _) ?_
      exact hx2 _ _ (hj2 (decide (x0.m5.b9 = 5)) H _ I h)
   refine u7 fun j1 hx1 => ?_
   refine a7 (j8 _ _ _ _ _ _) ?_
   refine i5 (fun d6a => ?_) (fun d6a => ?_)
   ·replace h := h.1 d6a
    exact hx1 _ _ (hj1 (decide (x0.m5.b9 = 2)) H_6 _ I_8 h)
   ·replace h := h.2 d6a
    refine a7 (j8 _ _ _ _ _ _) ?_
    exact hx1 _ _ (hj1 (decide (x0.m5.b9 = 3)) H_6 _ I_8 h)
theorem a9X (x0 : E7) {H : Hp} {K : Bool → Hp → Prop} (h : Z0 x0 H K) : a1R x0 H K := by
 intro w I
 refine e2l ?_
 refine a9a x0 I (fun r0 H' w' I' hk => ⟨H', _, I', r0, rfl, rfl, hk⟩) h
def K9 (b5C : Bool) (c4j : E2) (a3T : L4) (H : Hp) (K : Bool → Hp → Prop) : Prop :=
 (b5C = true →
 K (decide (c4j.fexprs = 0 ∧ c4j.fparts = 2)) H) ∧
 (b5C = false →
 K false H)
def L0 (a4o : Int) (b5D : Bool) (a2P : E2) (D2 : L4) (H : Hp) (K : Bool → Hp → Prop) : Prop :=
 (b5D = true →
 K (decide (a2P.fexprs = 0 ∧ a2P.fparts = 0)) H) ∧
 (b5D = false →
 (a4o = 4 →
 K (decide (a2P.fexprs = 0 ∧ a2P.fparts = 1)) H) ∧
 (¬ (a4o = 4) →
 (a4o = 5 →
 K9 (decide (a4o = 5)) a2P D2 H K) ∧
 (¬ (a4o = 5) →
 K9 (decide (a4o = 6)) a2P D2 H K)))
def Z1 (x0 : L4) (H : Hp) (K : Bool → Hp → Prop) : Prop :=
 (x0.k5.b9 = 3 →
 K (((decide (1 ≤ x0.k5.fOp)) && (decide (x0.k5.fOp ≤ 6))) && (decide ((x0.k5.j7.n : Int) = 2 ∧ (x0.k5.u5.n : Int) = 0))) H) ∧
 (¬ (x0.k5.b9 = 3) →
 (¬ (x0.k5.fOp = 0) →
 K false H) ∧
 (x0.k5.fOp = 0 →
 (x0.k5.b9 = 1 →
 L0 x0.k5.b9 (decide (x0.k5.b9 = 1)) (E2.mk (x0.k5.j7.n : Int) (x0.k5.u5.n : Int)) x0 H K) ∧
 (¬ (x0.k5.b9 = 1) →
 L0 x0.k5.b9 (decide (x0.k5.b9 = 2)) (E2.mk (x0.k5.j7.n : Int) (x0.k5.u5.n : Int)) x0 H K)))
theorem a9f (x0 : L4) {K : Bool → Hp → Prop} (I : Inv w0 ps0 H0 H [] w) (hR : ∀ (r0 : Bool) (H' : Hp) (w' : World) (_ : Inv w0 ps0 H0 H' [] w') (_ : K r0 H'), R (vB r0) w') (h : Z1 x0 H K) : c9g (Value.agg (i7 x0.k5).toArray) w R E := by
 unfold Z1 at h
 unfold c9g
 refine O4 I (cs := (i7 x0.k5)) rfl fun g_2 w_3 I_4 k_5 => ?_
 refine a7 a0G ?_
 refine a7 a5I ?_
 refine b6 (ld1 Tryd.isAgg22 (I_4.at1 (o := 2) (vs := [(vs x0.k5.j7)]) (nb rfl) rfl)) ?_
 refine a7 (a2R _ _ _) ?_
 refine a7 a0G ?_
 refine a7 a2b ?_
 refine b6 (ld1 Tryd.isAgg25 (I_4.at1 (o := 3) (vs := [(vs x0.k5.u5)]) (nb rfl) rfl)) ?_
 refine a7 (a7e _ _ _) ?_
 refine a7 (a4g _ _) ?_
 refine C2 I_4 Tryd.zeroValue223 (cs := [(vi 0), (vi 0)]) rfl fun g_7 w_8 I_9 d5O => ?_
 refine o9 I_9 Tryd.sizeOf223 (vs := [(vi (x0.k5.j7.n : Int)), (vi (x0.k5.u5.n : Int))]) (cs' := [(vi (x0.k5.j7.n : Int)), (vi (x0.k5.u5.n : Int))]) rfl rfl (nb rfl) rfl rfl fun a1e Q4 b6J => ?_
 refine a7 a0G ?_
 refine a7 a7N ?_
 refine b6 (ld1 Tryd.isAgg3 ((Q4.bring 1).at1 (o := 0) (vs := [(vi x0.k5.b9)]) (nb rfl) rfl)) ?_
 refine a7 (j8 _ _ _ _ _ _) ?_
 refine i5 (fun a5k => ?_) (fun a5k => ?_)
 ·replace h := h.1 a5k
  refine a7 a0G ?_
  refine a7 a7P ?_
  refine b6 (ld1 Tryd.isAgg3 ((Q4.bring 1).at1 (o := 1) (vs := [(vi x0.k5.fOp)]) (nb rfl) rfl)) ?_
  refine a7 (a8y _ _ _ _ _ _) ?_
  refine a7 (Pu.g fun hb => by have b7 := hb; exact a0G) ?_
  refine a7 (Pu.g fun hb => by have b7 := hb; simp only [l9 b7]; exact a7P) ?_
  refine b6 (Ld.g fun hb => by have b7 := hb; simp only [l9 b7]; exact (ld1 Tryd.isAgg3 ((Q4.bring 1).at1 (o := 1) (vs := [(vi x0.k5.fOp)]) (nb rfl) rfl))) ?_
  refine a7 (Pu.g fun hb => by have b7 := hb; simp only [l9 b7]; exact (b3D _ _ _ _ _ _)) ?_
  refine a7 (N0 _ _) ?_
  refine b6 (Ld.g fun hb => by have b7 := hb; exact (ldA Tryd.isAgg223 Tryd.sizeOf223 rfl (Q4.at1 (o := 0) (vs := [(vi (x0.k5.j7.n : Int)), (vi (x0.k5.u5.n : Int))]) (nb rfl) rfl))) ?_
  refine a7 (Pu.g fun hb => by have b7 := hb; exact (a4g _ _)) ?_
  refine a7 (Pu.g fun hb => by have b7 := hb; simp only [l9 b7]; exact (b0l _ _ _ _ _ _)) ?_
  refine a7 (N0 _ _) ?_
  exact hR (((decide (1 ≤ x0.k5.fOp)) && (decide (x0.k5.fOp ≤ 6))) && (decide ((x0.k5.j7.n : Int) = 2 ∧ (x0.k5.u5.n : Int) = 0))) H _ Q4.drop.drop h
 ·replace h := h.2 a5k
  refine a7 a0G ?_
  refine a7 a7P ?_
  refine b6 (ld1 Tryd.isAgg3 ((Q4.bring 1).at1 (o := 1) (vs := [(vi x0.k5.fOp)]) (nb rfl) rfl)) ?_
  refine a7 (N4 _ _ _ _ _ _) ?_
  refine a1W (fun a9c => ?_) (fun a9c => ?_)
  ·replace h := h.1 a9c
   exact hR false H _ Q4.drop.drop h
  ·replace h := h.2 a9c
   refine a7 a0G ?_
   refine a7 a7N ?_
   refine b6 (ld1 Tryd.isAgg3 ((Q4.bring 1).at1 (o := 0) (vs := [(vi x0.k5.b9)]) (nb rfl) rfl)) ?_
   have hj1 : ∀ (b5D : Bool) (H : Hp) (w : World) (_ : Inv w0 ps0 H0 H [bx g_7 223 [(vi (E2.mk (x0.k5.j7.n : Int) (x0.k5.u5.n : Int)).fexprs), (vi (E2.mk (x0.k5.j7.n : Int) (x0.k5.u5.n : Int)).fparts)], bx g_2 138 (i7 x0.k5)] w) (_ : L0 x0.k5.b9 b5D (E2.mk (x0.k5.j7.n : Int) (x0.k5.u5.n : Int)) x0 H K), c0k (Value.pointer (some ⟨g_7, 0, none⟩)) (vi x0.k5.b9) (vB b5D) w R E := by
    intro b5D H w I h
    unfold c0k
    intro _
    unfold L0 at h
    refine o4 (fun a3i => ?_) (fun a3i => ?_)
    ·replace h := h.1 a3i
     refine b6 (ldA Tryd.isAgg223 Tryd.sizeOf223 rfl (I.at1 (o := 0) (vs := [(vi (E2.mk (x0.k5.j7.n : Int) (x0.k5.u5.n : Int)).fexprs), (vi (E2.mk (x0.k5.j7.n : Int) (x0.k5.u5.n : Int)).fparts)]) (nb rfl) rfl)) ?_
     refine a7 (c8P ) ?_
     refine a7 (b0l _ _ _ _ _ _) ?_
     exact hR (decide ((E2.mk (x0.k5.j7.n : Int) (x0.k5.u5.n : Int)).fexprs = 0 ∧ (E2.mk (x0.k5.j7.n : Int) (x0.k5.u5.n : Int)).fparts = 0)) H _ I.drop.drop h
    ·replace h := h.2 a3i
     refine a7 (j8 _ _ _ _ _ _) ?_
     refine i5 (fun a9d => ?_) (fun a9d => ?_)
     ·replace h := h.1 a9d
      refine b6 (ldA Tryd.isAgg223 Tryd.sizeOf223 rfl (I.at1 (o := 0) (vs := [(vi (E2.mk (x0.k5.j7.n : Int) (x0.k5.u5.n : Int)).fexprs), (vi (E2.mk (x0.k5.j7.n : Int) (x0.k5.u5.n : Int)).fparts)]) (nb rfl) rfl)) ?_
      refine a7 (a4g _ _) ?_
      refine a7 (b0l _ _ _ _ _ _) ?_
      exact hR (decide ((E2.mk (x0.k5.j7.n : Int) (x0.k5.u5.n : Int)).fexprs = 0 ∧ (E2.mk (x0.k5.j7.n : Int) (x0.k5.u5.n : Int)).fparts = 1)) H _ I.drop.drop h
     ·replace h := h.2 a9d
      have hj2 : ∀ (b5C : Bool) (H : Hp) (w : World) (_ : Inv w0 ps0 H0 H [bx g_7 223 [(vi (E2.mk (x0.k5.j7.n : Int) (x0.k5.u5.n : Int)).fexprs), (vi (E2.mk (x0.k5.j7.n : Int) (x0.k5.u5.n : Int)).fparts)], bx g_2 138 (i7 x0.k5)] w) (_ : K9 b5C (E2.mk (x0.k5.j7.n : Int) (x0.k5.u5.n : Int)) x0 H K), c0j (Value.pointer (some ⟨g_7, 0, none⟩)) (vB b5C) w R E := by
       intro b5C H w I h
       unfold c0j
       intro _
       unfold K9 at h
       refine o4 (fun b6U => ?_) (fun b6U => ?_)
       ·replace h := h.1 b6U
        refine b6 (ldA Tryd.isAgg223 Tryd.sizeOf223 rfl (I.at1 (o := 0) (vs := [(vi (E2.mk (x0.k5.j7.n : Int) (x0.k5.u5.n : Int)).fexprs), (vi (E2.mk (x0.k5.j7.n : Int) (x0.k5.u5.n : Int)).fparts)]) (nb rfl) rfl)) ?_
        refine a7 (a4g _ _) ?_
        refine a7 (b0l _ _ _ _ _ _) ?_
        exact hR (decide ((E2.mk (x0.k5.j7.n : Int) (x0.k5.u5.n : Int)).fexprs = 0 ∧ (E2.mk (x0.k5.j7.n : Int) (x0.k5.u5.n : Int)).fparts = 2)) H _ I.drop.drop h
       ·replace h := h.2 b6U
        exact hR false H _ I.drop.drop h
      refine u7 fun j2 hx2 => ?_
      refine a7 (j8 _ _ _ _ _ _) ?_
      refine i5 (fun a5l => ?_) (fun a5l => ?_)
      ·replace h := h.1 a5l
       exact hx2 _ _ (hj2 (decide (x0.k5.b9 = 5)) H _ ((I.bring 1).bring 1) h)
      ·replace h := h.2 a5l
       refine a7 (j8 _ _ _ _ _ _) ?_
       exact hx2 _ _ (hj2 (decide (x0.k5.b9 = 6)) H _ ((I.bring 1).bring 1) h)
   refine u7 fun j1 hx1 => ?_
   refine a7 (j8 _ _ _ _ _ _) ?_
   refine i5 (fun a3h => ?_) (fun a3h => ?_)
   ·replace h := h.1 a3h
    exact hx1 _ _ (hj1 (decide (x0.k5.b9 = 1)) H _ ((Q4.bring 1).bring 1) h)
   ·replace h := h.2 a3h
    refine a7 (j8 _ _ _ _ _ _) ?_
    exact hx1 _ _ (hj1 (decide (x0.k5.b9 = 2)) H _ ((Q4.bring 1).bring 1) h)
theorem a9Y (x0 : L4) {H : Hp} {K : Bool → Hp → Prop} (h : Z1 x0 H K) : a1S x0 H K := by
 intro w I
 refine e2u ?_
 refine a9f x0 I (fun r0 H' w' I' hk => ⟨H', _, I', r0, rfl, rfl, hk⟩) h
def y9 (X8 : (List a8)) (H : Hp) (K : Sl → Hp → Prop) : Prop :=
 ∀ (E9 : Sl) (a0o : Hp), Hle H a0o → SlH a0o 1 o7 E9 X8 → E9.n ≤ E9.c →
 K E9 a0o
def z6 (a0S : Sl) (a0p : Int) (t8 : (List a8)) (r8 : Int) (H : Hp) (n2 : ((List a8) × Int) → Hp → Prop) (K : Sl → Hp → Prop) : Prop :=
 (r8 < a0p →
 (0 : Int) ≤ r8 ∧ (r8 : Int) < a0S.n ∧ ∃ x_1 : u1, EltH H a0S r8 4 (i7 x_1) ∧
 a6f x_1 H (fun (Q8 : a8) (a2O : Hp) =>
 (t8.length + ([Q8] : List a8).length) * 17 ≤ 140737488355328 ∧
 n2 ((t8 ++ [Q8]), (IntKind.wrap .i64 (r8 + 1))) a2O)) ∧
 (¬ (r8 < a0p) →
 y9 t8 H K)
def B1 (x0 : Sl) (H : Hp) (K : Sl → Hp → Prop) : Prop :=
 TL (([], 0) : (List a8) × Int) H fun (s : (List a8) × Int) H n2 => z6 x0 (x0.n : Int) s.1 s.2 H n2 K
theorem a0g (x0 : Sl) {K : Sl → Hp → Prop} (I : Inv w0 ps0 H0 H [] w) (hR : ∀ (r0 : Sl) (H' : Hp) (w' : World) (_ : Inv w0 ps0 H0 H' [] w') (_ : K r0 H'), R (vs r0) w') (h : B1 x0 H K) : c9j (vs x0) (fC 176) w R E := by
 unfold B1 at h
 unfold c9j
 have hj1 : ∀ (X8 : (List a8)) (E9 : Sl) (Fs5j1 : Frag) (H : Hp) (w : World) (_ : RowL 152 1 o7 E9 X8 Fs5j1) (_ : Inv w0 ps0 H0 H [Fs5j1] w) (_ : y9 X8 H K), c0l (vs E9) w R E := by
  intro X8 E9 Fs5j1 H w b2v I h
  unfold c0l
  intro _
  unfold y9 at h
  obtain ⟨a0o, a6B, b4o, a6C, a7y⟩ := Inv.freezeC I b2v (by decide)
  replace h := h E9 a0o b4o a6C a7y
  exact hR E9 a0o _ a6B h
 refine u7 fun j1 hx1 => ?_
 refine a7 (a7e _ _ _) ?_
 obtain ⟨a5h, a1H, b6O, b6P⟩ := h
 refine H7 (J := fun n l w => ∃ (s : (List a8) × Int) (H : Hp) (X9 : Sl) (Fs5l2 : Frag) , n = a1H s ∧ l = (match s with | (t8, r8) => [(vs X9), (vi r8)]) ∧ (match s with | (t8, r8) => RowL 152 1 o7 X9 t8 Fs5l2) ∧ (match s with | (t8, r8) => Inv w0 ps0 H0 H [Fs5l2] w) ∧ a5h s H) ⟨_, ([], 0), H, (Sl.mk none 0 0), [], rfl, rfl, (RowL.nil N5 Q3), I.nil, b6O⟩ ?_
 rintro d5R τ_50 w next2 ⟨⟨t8, r8⟩, H, X9, Fs5l2, rfl, a5i, a3f, I, b6Q⟩ hn2
 dsimp only at a5i I a3f
 simp only [List.map_cons, List.map_nil, List.cons.injEq, and_true] at a5i
 obtain ⟨e5, e10⟩ := a5i
 simp only [e5, e10]
 obtain ⟨n2, hm2, h⟩ : ∃ n2 : ((List a8) × Int) → Hp → Prop, (∀ s' H', n2 s' H' → a5h s' H' ∧ a1H s' < a1H (t8, r8)) ∧ z6 x0 (x0.n : Int) t8 r8 H n2 K := ⟨_, fun _ _ h => h, b6P (t8, r8) H (fun s' H' => a5h s' H' ∧ a1H s' < a1H (t8, r8)) b6Q (fun _ _ a b => ⟨a, b⟩)⟩
 unfold c7M
 unfold z6 at h
 refine a7 (A7 _ _ _ _ _ _) ?_
 refine i5 (fun a3e => ?_) (fun a3e => ?_)
 ·replace h := h.1 a3e
  obtain ⟨h_4, h_5, x_1, h_7, h⟩ := h
  obtain ⟨g_2, o_3, h_6, h_7⟩ := h_7
  refine a7 (a2V h_6 _ _ _ _ h_4 h_5) ?_
  refine b6 (ldA (vs := (i7 x_1)) Tryd.isAgg27 Tryd.sizeOf27 rfl (I.atH h_7)) ?_
  refine C2 I Tryd.zeroValue27 (cs := [(vi 0), (vi 0), (nS), (nS)]) rfl fun g_9 o0 a5j c0r => ?_
  refine o9 a5j Tryd.sizeOf27 (vs := (i7 x_1)) (cs' := (i7 x_1)) rfl rfl (nb rfl) rfl rfl fun T6 Y0 a3g => ?_
  refine b6 (ldA Tryd.isAgg27 Tryd.sizeOf27 rfl (Y0.at1 (o := 0) (vs := (i7 x_1)) (nb rfl) rfl)) ?_
  refine d5 (cap := []) (fun args w => Tryd.call176 args w) ?_
  refine m8 (Fi := []) (Fr := [bx g_9 27 (i7 x_1), Fs5l2]) Y0 (h) (fun c9y a2O c9z a3F a5g c9A c9B b2w => ?_) (fun _ _ _ _ _ q => q.elim)
  obtain ⟨Q8, rfl, rfl, h⟩ := b2w
  refine a1Q (e := 152) (c := o7) (xs := [Q8]) a5g (b1Z _) rfl rfl N5 Q3 (nb rfl) fun b2x c0s C8 a8U a4H c4b => ?_
  obtain ⟨b2y, h⟩ := h
  refine b1d (s := X9) (xs := t8) (a4H.bring 2) a3f (a8U.srcO ((a4H.bring 2).bring 1)) b2y fun b6R b6S D3 a6z a7z c9C => ?_
  refine a7 (C6 _ _ _ _ _ _) ?_
  exact hn2 _ _ _ (hm2 _ _ h).2 ⟨((t8 ++ [Q8]), (IntKind.wrap .i64 (r8 + 1))), a2O, b6R, b6S, rfl, rfl, a6z, ((a7z.bring 1).drop.bring 1).drop, (hm2 _ _ h).1⟩
 ·replace h := h.2 a3e
  exact hx1 _ _ (hj1 t8 X9 Fs5l2 H _ a3f I h)
theorem a0s (x0 : Sl) {H : Hp} {K : Sl → Hp → Prop} (h : B1 x0 H K) : A8 x0 H K := by
 intro w I
 refine e2y ?_
 refine a0g x0 I (fun r0 H' w' I' hk => ⟨H', _, I', r0, rfl, rfl, hk⟩) h
def Z2 (x0 : O5) (H : Hp) (K : Bool → Hp → Prop) : Prop :=
 K ((decide (0 ≤ x0.O6.E6)) && (decide (x0.O6.E6 ≤ 2147483647))) H
theorem a9g (x0 : O5) {K : Bool → Hp → Prop} (I : Inv w0 ps0 H0 H [] w) (hR : ∀ (r0 : Bool) (H' : Hp) (w' : World) (_ : Inv w0 ps0 H0 H' [] w') (_ : K r0 H'), R (vB r0) w') (h : Z2 x0 H K) : c9l (Value.agg (m7 x0.O6).toArray) w R E := by
 unfold Z2 at h
 unfold c9l
 refine O4 I (cs := (m7 x0.O6)) rfl fun g_2 w_3 I_4 k_5 => ?_
 refine a7 b0H ?_
 refine a7 a2W ?_
 refine b6 (ld1 Tryd.isAgg3 (I_4.at1 (o := 1) (vs := [(vi x0.O6.E6)]) (nb rfl) rfl)) ?_
 refine a7 (a8y _ _ _ _ _ _) ?_
 refine a7 (Pu.g fun hb => by have b7 := hb; exact b0H) ?_
 refine a7 (Pu.g fun hb => by have b7 := hb; simp only [l9 b7]; exact a2W) ?_
 refine b6 (Ld.g fun hb => by have b7 := hb; simp only [l9 b7]; exact (ld1 Tryd.isAgg3 (I_4.at1 (o := 1) (vs := [(vi x0.O6.E6)]) (nb rfl) rfl))) ?_
 refine a7 (Pu.g fun hb => by have b7 := hb; simp only [l9 b7]; exact (b3D _ _ _ _ _ _)) ?_
 refine a7 (N0 _ _) ?_
 exact hR ((decide (0 ≤ x0.O6.E6)) && (decide (x0.O6.E6 ≤ 2147483647))) H _ I_4.drop h
theorem a9Z (x0 : O5) {H : Hp} {K : Bool → Hp → Prop} (h : Z2 x0 H K) : a4B x0 H K := by
 intro w I
 refine e2C ?_
 refine a9g x0 I (fun r0 H' w' I' hk => ⟨H', _, I', r0, rfl, rfl, hk⟩) h
def L1 (b2F : Bool) (e0n : Int) (b5E : Bool) (a2P : L9) (D2 : L5) (H : Hp) (K : Bool → Hp → Prop) : Prop :=
 (b5E = true →
 K (b2F && (decide (a2P.fexprs = 0 ∧ a2P.fconds = 1))) H) ∧
 (b5E = false →
 (e0n = 7 →
 K (b2F && (decide (a2P.fexprs = 0 ∧ a2P.fconds = 0))) H) ∧
 (¬ (e0n = 7) →
 K false H))
def Z3 (x0 : L5) (H : Hp) (K : Bool → Hp → Prop) : Prop :=
 (x0.d8.b9 = 1 →
 K ((!(decide (0 < (IntKind.wrap .i64 ((x0.d8.K3.n : Int) + (x0.d8.H9.n : Int)))))) && (decide ((x0.d8.j7.n : Int) = 1 ∧ (x0.d8.s6.n : Int) = 0))) H) ∧
 (¬ (x0.d8.b9 = 1) →
 (x0.d8.b9 = 2 →
 K ((!(decide (0 < (IntKind.wrap .i64 ((x0.d8.K3.n : Int) + (x0.d8.H9.n : Int)))))) && (decide ((x0.d8.j7.n : Int) = 2 ∧ (x0.d8.s6.n : Int) = 0))) H) ∧
 (¬ (x0.d8.b9 = 2) →
 (x0.d8.b9 = 3 →
 K ((decide (x0.d8.d6 = ⟨#[]⟩)) && (decide ((x0.d8.j7.n : Int) = 0 ∧ (x0.d8.s6.n : Int) = 1))) H) ∧
 (¬ (x0.d8.b9 = 3) →
 (x0.d8.b9 = 4 →
 K (((decide (x0.d8.d6 = ⟨#[]⟩)) && (decide ((x0.d8.H9.n : Int) = 0))) && (decide ((x0.d8.j7.n : Int) = 0 ∧ (x0.d8.s6.n : Int) = 1))) H) ∧
 (¬ (x0.d8.b9 = 4) →
 (x0.d8.b9 = 5 →
 L1 ((decide (x0.d8.d6 = ⟨#[]⟩)) && (!(decide (0 < (IntKind.wrap .i64 ((x0.d8.K3.n : Int) + (x0.d8.H9.n : Int))))))) x0.d8.b9 (decide (x0.d8.b9 = 5)) (L9.mk (x0.d8.j7.n : Int) (x0.d8.s6.n : Int)) x0 H K) ∧
 (¬ (x0.d8.b9 = 5) →
 L1 ((decide (x0.d8.d6 = ⟨#[]⟩)) && (!(decide (0 < (IntKind.wrap .i64 ((x0.d8.K3.n : Int) + (x0.d8.H9.n : Int))))))) x0.d8.b9 (decide (x0.d8.b9 = 6)) (L9.mk (x0.d8.j7.n : Int) (x0.d8.s6.n : Int)) x0 H K)))))
theorem a9h (x0 : L5) {K : Bool → Hp → Prop} (I : Inv w0 ps0 H0 H [] w) (hR : ∀ (r0 : Bool) (H' : Hp) (w' : World) (_ : Inv w0 ps0 H0 H' [] w') (_ : K r0 H'), R (vB r0) w') (h : Z3 x0 H K) : c9n (Value.agg (g7 x0.d8).toArray) w R E := by
 unfold Z3 at h
 unfold c9n
 refine O4 I (cs := (g7 x0.d8)) rfl fun g_2 w_3 I_4 k_5 => ?_
 refine a7 K5 ?_
 refine a7 a5L ?_
 refine b6 (ld1 Tryd.isAgg42 (I_4.at1 (o := 4) (vs := [(vs x0.d8.K3)]) (nb rfl) rfl)) ?_
 refine a7 (a5y _ _ _) ?_
 refine a7 K5 ?_
 refine a7 a5M ?_
 refine b6 (ld1 Tryd.isAgg42 (I_4.at1 (o := 5) (vs := [(vs x0.d8.H9)]) (nb rfl) rfl)) ?_
 refine a7 (a5y _ _ _) ?_
 refine a7 (C6 _ _ _ _ _ _) ?_
 refine a7 (a0b _ _ _ _ _ _) ?_
 refine a7 K5 ?_
 refine a7 a5K ?_
 refine b6 (ld1 Tryd.isAgg22 (I_4.at1 (o := 2) (vs := [(vs x0.d8.j7)]) (nb rfl) rfl)) ?_
 refine a7 (a2R _ _ _) ?_
 refine a7 K5 ?_
 refine a7 a7R ?_
 refine b6 (ld1 Tryd.isAgg25 (I_4.at1 (o := 3) (vs := [(vs x0.d8.s6)]) (nb rfl) rfl)) ?_
 refine a7 (a7e _ _ _) ?_
 refine a7 (a1z _ _) ?_
 refine C2 I_4 Tryd.zeroValue227 (cs := [(vi 0), (vi 0)]) rfl fun g_7 w_8 I_9 d5O => ?_
 refine o9 I_9 Tryd.sizeOf227 (vs := [(vi (x0.d8.j7.n : Int)), (vi (x0.d8.s6.n : Int))]) (cs' := [(vi (x0.d8.j7.n : Int)), (vi (x0.d8.s6.n : Int))]) rfl rfl (nb rfl) rfl rfl fun a1e Q4 b6J => ?_
 refine a7 K5 ?_
 refine a7 a2d ?_
 refine b6 (ld1 Tryd.isAgg9 ((Q4.bring 1).at1 (o := 1) (vs := [(Value.string x0.d8.d6)]) (nb rfl) rfl)) ?_
 refine a7 (a0Y _ _ _ _ _) ?_
 simp only [L2]
 refine a7 (Pu.g fun hb => by have b7 := hb; simp only [l9 b7]; exact (V5 _)) ?_
 refine a7 (N0 _ _) ?_
 refine a7 K5 ?_
 refine a7 a5J ?_
 refine b6 (ld1 Tryd.isAgg3 ((Q4.bring 1).at1 (o := 0) (vs := [(vi x0.d8.b9)]) (nb rfl) rfl)) ?_
 refine a7 (j8 _ _ _ _ _ _) ?_
 refine i5 (fun a5k => ?_) (fun a5k => ?_)
 ·replace h := h.1 a5k
  refine a7 (V5 _) ?_
  refine b6 (Ld.g fun hb => by have b7 := hb; exact (ldA Tryd.isAgg227 Tryd.sizeOf227 rfl (Q4.at1 (o := 0) (vs := [(vi (x0.d8.j7.n : Int)), (vi (x0.d8.s6.n : Int))]) (nb rfl) rfl))) ?_
  refine a7 (Pu.g fun hb => by have b7 := hb; exact (a1z _ _)) ?_
  refine a7 (Pu.g fun hb => by have b7 := hb; simp only [l9 b7]; exact (a5z _ _ _ _ _ _)) ?_
  refine a7 (N0 _ _) ?_
  exact hR ((!(decide (0 < (IntKind.wrap .i64 ((x0.d8.K3.n : Int) + (x0.d8.H9.n : Int)))))) && (decide ((x0.d8.j7.n : Int) = 1 ∧ (x0.d8.s6.n : Int) = 0))) H _ Q4.drop.drop h
 ·replace h := h.2 a5k
  refine a7 (j8 _ _ _ _ _ _) ?_
  refine i5 (fun a9c => ?_) (fun a9c => ?_)
  ·replace h := h.1 a9c
   refine a7 (V5 _) ?_
   refine b6 (Ld.g fun hb => by have b7 := hb; exact (ldA Tryd.isAgg227 Tryd.sizeOf227 rfl (Q4.at1 (o := 0) (vs := [(vi (x0.d8.j7.n : Int)), (vi (x0.d8.s6.n : Int))]) (nb rfl) rfl))) ?_
   refine a7 (Pu.g fun hb => by have b7 := hb; exact (a1z _ _)) ?_
   refine a7 (Pu.g fun hb => by have b7 := hb; simp only [l9 b7]; exact (a5z _ _ _ _ _ _)) ?_
   refine a7 (N0 _ _) ?_
   exact hR ((!(decide (0 < (IntKind.wrap .i64 ((x0.d8.K3.n : Int) + (x0.d8.H9.n : Int)))))) && (decide ((x0.d8.j7.n : Int) = 2 ∧ (x0.d8.s6.n : Int) = 0))) H _ Q4.drop.drop h
  ·replace h := h.2 a9c
   refine a7 (j8 _ _ _ _ _ _) ?_
   refine i5 (fun a3h => ?_) (fun a3h => ?_)
   ·replace h := h.1 a3h
    refine a7 K5 ?_
    refine a7 a2d ?_
    refine b6 (ld1 Tryd.isAgg9 ((Q4.bring 1).at1 (o := 1) (vs := [(Value.string x0.d8.d6)]) (nb rfl) rfl)) ?_
    refine a7 (a0Y _ _ _ _ _) ?_
    refine b6 (Ld.g fun hb => by have b7 := hb; exact (ldA Tryd.isAgg227 Tryd.sizeOf227 rfl (Q4.at1 (o := 0) (vs := [(vi (x0.d8.j7.n : Int)), (vi (x0.d8.s6.n : Int))]) (nb rfl) rfl))) ?_
    refine a7 (Pu.g fun hb => by have b7 := hb; exact (a1z _ _)) ?_
    refine a7 (Pu.g fun hb => by have b7 := hb; simp only [l9 b7]; exact (a5z _ _ _ _ _ _)) ?_
    refine a7 (N0 _ _) ?_
    exact hR ((decide (x0.d8.d6 = ⟨#[]⟩)) && (decide ((x0.d8.j7.n : Int) = 0 ∧ (x0.d8.s6.n : Int) = 1))) H _ Q4.drop.drop h
   ·replace h := h.2 a3h
    refine a7 (j8 _ _ _ _ _ _) ?_
    refine i5 (fun a3i => ?_) (fun a3i => ?_)
    ·replace h := h.1 a3i
     refine a7 K5 ?_
     refine a7 a2d ?_
     refine b6 (ld1 Tryd.isAgg9 ((Q4.bring 1).at1 (o := 1) (vs := [(Value.string x0.d8.d6)]) (nb rfl) rfl)) ?_
     refine a7 (a0Y _ _ _ _ _) ?_
     refine a7 (Pu.g fun hb => by have b7 := hb; exact K5) ?_
     refine a7 (Pu.g fun hb => by have b7 := hb; simp only [l9 b7]; exact a5M) ?_
     refine b6 (Ld.g fun hb => by have b7 := hb; simp only [l9 b7]; exact (ld1 Tryd.isAgg42 ((Q4.bring 1).at1 (o := 5) (vs := [(vs x0.d8.H9)]) (nb rfl) rfl))) ?_
     refine a7 (Pu.g fun hb => by have b7 := hb; simp only [l9 b7]; exact (a5y _ _ _)) ?_
     refine a7 (Pu.g fun hb => by have b7 := hb; simp only [l9 b7]; exact (j8 _ _ _ _ _ _)) ?_
     refine a7 (N0 _ _) ?_
     refine b6 (Ld.g fun hb => by have b7 := hb; exact (ldA Tryd.isAgg227 Tryd.sizeOf227 rfl (Q4.at1 (o := 0) (vs := [(vi (x0.d8.j7.n : Int)), (vi (x0.d8.s6.n : Int))]) (nb rfl) rfl))) ?_
     refine a7 (Pu.g fun hb => by have b7 := hb; exact (a1z _ _)) ?_
     refine a7 (Pu.g fun hb => by have b7 := hb; simp only [l9 b7]; exact (a5z _ _ _ _ _ _)) ?_
     refine a7 (N0 _ _) ?_
     exact hR (((decide (x0.d8.d6 = ⟨#[]⟩)) && (decide ((x0.d8.H9.n : Int) = 0))) && (decide ((x0.d8.j7.n : Int) = 0 ∧ (x0.d8.s6.n : Int) = 1))) H _ Q4.drop.drop h
    ·replace h := h.2 a3i
     have hj1 : ∀ (b5E : Bool) (H : Hp) (w : World) (_ : Inv w0 ps0 H0 H [bx g_7 227 [(vi (L9.mk (x0.d8.j7.n : Int) (x0.d8.s6.n : Int)).fexprs), (vi (L9.mk (x0.d8.j7.n : Int) (x0.d8.s6.n : Int)).fconds)], bx g_2 179 (g7 x0.d8)] w) (_ : L1 ((decide (x0.d8.d6 = ⟨#[]⟩)) && (!(decide (0 < (IntKind.wrap .i64 ((x0.d8.K3.n : Int) + (x0.d8.H9.n : Int))))))) x0.d8.b9 b5E (L9.mk (x0.d8.j7.n : Int) (x0.d8.s6.n : Int)) x0 H K), c0m (Value.pointer (some ⟨g_7, 0, none⟩)) (vB ((decide (x0.d8.d6 = ⟨#[]⟩)) && (!(decide (0 < (IntKind.wrap .i64 ((x0.d8.K3.n : Int) + (x0.d8.H9.n : Int)))))))) (vi x0.d8.b9) (vB b5E) w R E := by
      intro b5E H w I h
      unfold c0m
      intro _
      unfold L1 at h
      refine o4 (fun a5l => ?_) (fun a5l => ?_)
      ·replace h := h.1 a5l
       refine b6 (Ld.g fun hb => by have b7 := hb; exact (ldA Tryd.isAgg227 Tryd.sizeOf227 rfl (I.at1 (o := 0) (vs := [(vi (L9.mk (x0.d8.j7.n : Int) (x0.d8.s6.n : Int)).fexprs), (vi (L9.mk (x0.d8.j7.n : Int) (x0.d8.s6.n : Int)).fconds)]) (nb rfl) rfl))) ?_
       refine a7 (Pu.g fun hb => by have b7 := hb; exact (a1z _ _)) ?_
       refine a7 (Pu.g fun hb => by have b7 := hb; simp only [l9 b7]; exact (a5z _ _ _ _ _ _)) ?_
       refine a7 (N0 _ _) ?_
       exact hR (((decide (x0.d8.d6 = ⟨#[]⟩)) && (!(decide (0 < (IntKind.wrap .i64 ((x0.d8.K3.n : Int) + (x0.d8.H9.n : Int))))))) && (decide ((L9.mk (x0.d8.j7.n : Int) (x0.d8.s6.n : Int)).fexprs = 0 ∧ (L9.mk (x0.d8.j7.n : Int) (x0.d8.s6.n : Int)).fconds = 1))) H _ I.drop.drop h
      ·replace h := h.2 a5l
       refine a7 (j8 _ _ _ _ _ _) ?_
       refine i5 (fun b6U => ?_) (fun b6U => ?_)
       ·replace h := h.1 b6U
        refine b6 (Ld.g fun hb => by have b7 := hb; exact (ldA Tryd.isAgg227 Tryd.sizeOf227 rfl (I.at1 (o := 0) (vs := [(vi (L9.mk (x0.d8.j7.n : Int) (x0.d8.s6.n : Int)).fexprs), (vi (L9.mk (x0.d8.j7.n : Int) (x0.d8.s6.n : Int)).fconds)]) (nb rfl) rfl))) ?_
        refine a7 (Pu.g fun hb => by have b7 := hb; exact (c8Q )) ?_
        refine a7 (Pu.g fun hb => by have b7 := hb; simp only [l9 b7]; exact (a5z _ _ _ _ _ _)) ?_
        refine a7 (N0 _ _) ?_
        exact hR (((decide (x0.d8.d6 = ⟨#[]⟩)) && (!(decide (0 < (IntKind.wrap .i64 ((x0.d8.K3.n : Int) + (x0.d8.H9.n : Int))))))) && (decide ((L9.mk (x0.d8.j7.n : Int) (x0.d8.s6.n : Int)).fexprs = 0 ∧ (L9.mk (x0.d8.j7.n : Int) (x0.d8.s6.n : Int)).fconds = 0))) H _ I.drop.drop h
       ·replace h := h.2 b6U
        exact hR false H _ I.drop.drop h
     refine u7 fun j1 hx1 => ?_
     refine a7 (j8 _ _ _ _ _ _) ?_
     refine i5 (fun a9d => ?_) (fun a9d => ?_)
     ·replace h := h.1 a9d
      exact hx1 _ _ (hj1 (decide (x0.d8.b9 = 5)) H _ ((Q4.bring 1).bring 1) h)
     ·replace h := h.2 a9d
      refine a7 (j8 _ _ _ _ _ _) ?_
      exact hx1 _ _ (hj1 (decide (x0.d8.b9 = 6)) H _ ((Q4.bring 1).bring 1) h)
theorem b0a (x0 : L5) {H : Hp} {K : Bool → Hp → Prop} (h : Z3 x0 H K) : a1T x0 H K := by
 intro w I
 refine e3f ?_
 refine a9h x0 I (fun r0 H' w' I' hk => ⟨H', _, I', r0, rfl, rfl, hk⟩) h
end Go.Proofs.YtnhkdkcgdcgmdaaDoor
