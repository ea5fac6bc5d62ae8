/- Typed formulas of the program's functions, and the theorems that the contracts follow from them; printed by lift.py off the code. -/
import Derived.Test.YtnhkdkcgdcgmdaaDoorzDV1
namespace Go.Proofs.YtnhkdkcgdcgmdaaDoor
open Go.RowKit
set_option maxRecDepth 100000
set_option maxHeartbeats 2000000
variable {w0 w : World} {ps0 : Nat → Prop} {H0 H : Hp} {R : RT} {E : Pan}
def m3 (q8 : Bool) (H : Hp) (K : Bool → Hp → Prop) : Prop :=
 (q8 = true →
 K true H) ∧
 (q8 = false →
 K false H)
def a1M (x0 : ByteArray) (H : Hp) (K : Bool → Hp → Prop) : Prop :=
 (x0 = ⟨#[118, 97, 114]⟩ →
 m3 (decide (x0 = ⟨#[118, 97, 114]⟩)) H K) ∧
 (¬ (x0 = ⟨#[118, 97, 114]⟩) →
 (x0 = ⟨#[97, 114, 114, 97, 121]⟩ →
 m3 (decide (x0 = ⟨#[97, 114, 114, 97, 121]⟩)) H K) ∧
 (¬ (x0 = ⟨#[97, 114, 114, 97, 121]⟩) →
 (x0 = ⟨#[105, 102]⟩ →
 m3 (decide (x0 = ⟨#[105, 102]⟩)) H K) ∧
 (¬ (x0 = ⟨#[105, 102]⟩) →
 (x0 = ⟨#[101, 108, 115, 101]⟩ →
 m3 (decide (x0 = ⟨#[101, 108, 115, 101]⟩)) H K) ∧
 (¬ (x0 = ⟨#[101, 108, 115, 101]⟩) →
 (x0 = ⟨#[119, 104, 105, 108, 101]⟩ →
 m3 (decide (x0 = ⟨#[119, 104, 105, 108, 101]⟩)) H K) ∧
 (¬ (x0 = ⟨#[119, 104, 105, 108, 101]⟩) →
 (x0 = ⟨#[97, 115, 115, 101, 114, 116]⟩ →
 m3 (decide (x0 = ⟨#[97, 115, 115, 101, 114, 116]⟩)) H K) ∧
 (¬ (x0 = ⟨#[97, 115, 115, 101, 114, 116]⟩) →
 (x0 = ⟨#[97, 115, 115, 117, 109, 101]⟩ →
 m3 (decide (x0 = ⟨#[97, 115, 115, 117, 109, 101]⟩)) H K) ∧
 (¬ (x0 = ⟨#[97, 115, 115, 117, 109, 101]⟩) →
 (x0 = ⟨#[115, 107, 105, 112]⟩ →
 m3 (decide (x0 = ⟨#[115, 107, 105, 112]⟩)) H K) ∧
 (¬ (x0 = ⟨#[115, 107, 105, 112]⟩) →
 (x0 = ⟨#[105, 110, 112, 117, 116]⟩ →
 m3 (decide (x0 = ⟨#[105, 110, 112, 117, 116]⟩)) H K) ∧
 (¬ (x0 = ⟨#[105, 110, 112, 117, 116]⟩) →
 (x0 = ⟨#[116, 114, 117, 101]⟩ →
 m3 (decide (x0 = ⟨#[116, 114, 117, 101]⟩)) H K) ∧
 (¬ (x0 = ⟨#[116, 114, 117, 101]⟩) →
 m3 (decide (x0 = ⟨#[102, 97, 108, 115, 101]⟩)) H K))))))))))
theorem b3g (x0 : ByteArray) {K : Bool → Hp → Prop} (I : Inv w0 ps0 H0 H [] w) (hR : ∀ (r0 : Bool) (H' : Hp) (w' : World) (_ : Inv w0 ps0 H0 H' [] w') (_ : K r0 H'), R (vB r0) w') (h : a1M x0 H K) : c6H (Value.string x0) w R E := by
 unfold a1M at h
 unfold c6H
 have hj1 : ∀ (q8 : Bool) (H : Hp) (w : World) (_ : Inv w0 ps0 H0 H [] w) (_ : m3 q8 H K), b8N (vB q8) w R E := by
  intro q8 H w I h
  unfold b8N
  intro _
  unfold m3 at h
  refine o4 (fun c_1 => ?_) (fun c_1 => ?_)
  ·replace h := h.1 c_1
   exact hR true H _ I h
  ·replace h := h.2 c_1
   exact hR false H _ I h
 refine z7 fun j1 hx1 => ?_
 refine a7 (a0t _ _ _ _ _) ?_
 refine h9 (fun a7X => ?_) (fun a7X => ?_)
 ·replace h := h.1 a7X
  exact hx1 _ _ (hj1 (decide (x0 = ⟨#[118, 97, 114]⟩)) H _ I h)
 ·replace h := h.2 a7X
  refine a7 (a0t _ _ _ _ _) ?_
  refine h9 (fun d3d => ?_) (fun d3d => ?_)
  ·replace h := h.1 d3d
   exact hx1 _ _ (hj1 (decide (x0 = ⟨#[97, 114, 114, 97, 121]⟩)) H _ I h)
  ·replace h := h.2 d3d
   refine a7 (a0t _ _ _ _ _) ?_
   refine h9 (fun c_9 => ?_) (fun c_9 => ?_)
   ·replace h := h.1 c_9
    exact hx1 _ _ (hj1 (decide (x0 = ⟨#[105, 102]⟩)) H _ I h)
   ·replace h := h.2 c_9
    refine a7 (a0t _ _ _ _ _) ?_
    refine h9 (fun c_8 => ?_) (fun c_8 => ?_)
    ·replace h := h.1 c_8
     exact hx1 _ _ (hj1 (decide (x0 = ⟨#[101, 108, 115, 101]⟩)) H _ I h)
    ·replace h := h.2 c_8
     refine a7 (a0t _ _ _ _ _) ?_
     refine h9 (fun c_7 => ?_) (fun c_7 => ?_)
     ·replace h := h.1 c_7
      exact hx1 _ _ (hj1 (decide (x0 = ⟨#[119, 104, 105, 108, 101]⟩)) H _ I h)
     ·replace h := h.2 c_7
      refine a7 (a0t _ _ _ _ _) ?_
      refine h9 (fun c_6 => ?_) (fun c_6 => ?_)
      ·replace h := h.1 c_6
       exact hx1 _ _ (hj1 (decide (x0 = ⟨#[97, 115, 115, 101, 114, 116]⟩)) H _ I h)
      ·replace h := h.2 c_6
       refine a7 (a0t _ _ _ _ _) ?_
       refine h9 (fun c_5 => ?_) (fun c_5 => ?_)
       ·replace h := h.1 c_5
        exact hx1 _ _ (hj1 (decide (x0 = ⟨#[97, 115, 115, 117, 109, 101]⟩)) H _ I h)
       ·replace h := h.2 c_5
        refine a7 (a0t _ _ _ _ _) ?_
        refine h9 (fun c_4 => ?_) (fun c_4 => ?_)
        ·replace h := h.1 c_4
         exact hx1 _ _ (hj1 (decide (x0 = ⟨#[115, 107, 105, 112]⟩)) H _ I h)
        ·replace h := h.2 c_4
         refine a7 (a0t _ _ _ _ _) ?_
         refine h9 (fun c_3 => ?_) (fun c_3 => ?_)
         ·replace h := h.1 c_3
          exact hx1 _ _ (hj1 (decide (x0 = ⟨#[105, 110, 112, 117, 116]⟩)) H _ I h)
         ·replace h := h.2 c_3
          refine a7 (a0t _ _ _ _ _) ?_
          refine h9 (fun c_2 => ?_) (fun c_2 => ?_)
          ·replace h := h.1 c_2
           exact hx1 _ _ (hj1 (decide (x0 = ⟨#[116, 114, 117, 101]⟩)) H _ I h)
          ·replace h := h.2 c_2
           refine a7 (a0t _ _ _ _ _) ?_
           exact hx1 _ _ (hj1 (decide (x0 = ⟨#[102, 97, 108, 115, 101]⟩)) H _ I h)
theorem b4S (x0 : ByteArray) {H : Hp} {K : Bool → Hp → Prop} (h : a1M x0 H K) : a0u x0 H K := by
 intro w I
 refine d8U ?_
 refine b3g x0 I (fun r0 H' w' I' hk => ⟨H', _, I', r0, rfl, rfl, hk⟩) h
def a0F (x0 : i7) (H : Hp) (K : a8 → Hp → Prop) : Prop :=
 K (a8.E1 (M2.mk x0)) H
theorem b0g (x0 : i7) {K : a8 → Hp → Prop} (I : Inv w0 ps0 H0 H [] w) (hR : ∀ (r0 : a8) (H' : Hp) (w' : World) (_ : Inv w0 ps0 H0 H' [] w') (_ : K r0 H'), R (r9 r0) w') (h : a0F x0 H K) : F89 (Value.agg (l9 x0).toArray) w R E := by
 unfold a0F at h
 unfold F89
 refine M1 I (cs := (l9 x0)) rfl fun g_2 w_3 I_4 k_5 => ?_
 refine b8 (ldA Tryd.isAgg58 Tryd.sizeOf58 rfl (I_4.at1 (o := 0) (vs := (l9 x0)) (nb rfl) rfl)) ?_
 refine a7 (c1t _ _) ?_
 refine a7 (b8C (M2.mk x0)) ?_
 exact hR (a8.E1 (M2.mk x0)) H _ I_4.drop h
theorem b1r (x0 : i7) {H : Hp} {K : a8 → Hp → Prop} (h : a0F x0 H K) : a5o x0 H K := by
 intro w I
 refine e4M ?_
 refine b0g x0 I (fun r0 H' w' I' hk => ⟨H', _, I', r0, rfl, rfl, hk⟩) h
def a0G (x0 : m6) (H : Hp) (K : a8 → Hp → Prop) : Prop :=
 K (a8.C3 (I0.mk x0)) H
theorem b0h (x0 : m6) {K : a8 → Hp → Prop} (I : Inv w0 ps0 H0 H [] w) (hR : ∀ (r0 : a8) (H' : Hp) (w' : World) (_ : Inv w0 ps0 H0 H' [] w') (_ : K r0 H'), R (r9 r0) w') (h : a0G x0 H K) : F91 (Value.agg (f2 x0).toArray) w R E := by
 unfold a0G at h
 unfold F91
 refine M1 I (cs := (f2 x0)) rfl fun g_2 w_3 I_4 k_5 => ?_
 refine b8 (ldA Tryd.isAgg63 Tryd.sizeOf63 rfl (I_4.at1 (o := 0) (vs := (f2 x0)) (nb rfl) rfl)) ?_
 refine a7 (c1u _ _ _ _ _ _ _ _ _ _ _ _ _ _) ?_
 refine a7 (b8D (I0.mk x0)) ?_
 exact hR (a8.C3 (I0.mk x0)) H _ I_4.drop h
theorem b1s (x0 : m6) {H : Hp} {K : a8 → Hp → Prop} (h : a0G x0 H K) : a5p x0 H K := by
 intro w I
 refine e4Q ?_
 refine b0h x0 I (fun r0 H' w' I' hk => ⟨H', _, I', r0, rfl, rfl, hk⟩) h
def a1N (x0 : A5) (H : Hp) (K : g7 → Hp → Prop) : Prop :=
 C9 x0.a3X H (fun (a5s : Sl) (H_8 : Hp) =>
 p9 x0.a6f H_8 (fun (a5t : Sl) (b3f : Hp) =>
 ∀ (a5L : Sl) (a7V : Hp), Hle b3f a7V → SlH a7V 1 csl a5L [a5s, a5t] → a5L.n ≤ a5L.c →
 v7 a5L a7V (fun (b4p : Sl) (b9l : Hp) =>
 a2v b4p b9l (fun (c7l : g7) (b1t : Hp) =>
 K c7l b1t))))
theorem b3h (x0 : A5) {K : g7 → Hp → Prop} (I : Inv w0 ps0 H0 H [] w) (hR : ∀ (r0 : g7) (gr0 : Nat) (H' : Hp) (w' : World) (_ : Inv w0 ps0 H0 H' [bx gr0 106 (a3x r0)] w') (_ : K r0 H'), R (Value.pointer (some ⟨gr0, 0, none⟩)) w') (h : a1N x0 H K) : F52 (Value.agg (t7 x0).toArray) w R E := by
 unfold a1N at h
 unfold F52
 refine M1 I (cs := (t7 x0)) rfl fun g_2 w_3 I_4 k_5 => ?_
 refine a0d I_4 fun w_6 I_7 => ?_
 refine i8 a6R ?_
 refine i8 b0M ?_
 refine s7 (ld1 Tryd.isAgg41 (I_7.at1 (o := 0) (vs := [(vs x0.a3X)]) (nb rfl) rfl)) ?_
 refine s7 (ld1 Tryd.isAgg42 (I_7.at1 (o := 1) (vs := [(vs x0.a6f)]) (nb rfl) rfl)) ?_
 refine b9 (cap := []) (fun args w => Tryd.call88 args w) ?_
 refine m2 (Fi := []) (Fr := [bx g_2 44 (t7 x0)]) I_7 (h) (fun e8p H_8 d2X w_9 b1q e8q b5I c2H => ?_) (fun _ _ _ _ _ q => q.elim)
 obtain ⟨a5s, rfl, rfl, h⟩ := c2H
 refine ⟨(b5I _ I_7.lt1 (Inv.a4U (Fi := []) I_7)), ?_⟩
 refine b9 (cap := []) (fun args w => Tryd.call90 args w) ?_
 refine m2 (Fi := []) (Fr := [bx g_2 44 (t7 x0)]) b1q (h) (fun e8r b3f e8s p6 a5u e8t b5J c2I => ?_) (fun _ _ _ _ _ q => q.elim)
 obtain ⟨a5t, rfl, rfl, h⟩ := c2I
 refine X3 (e := 124) (c := csl) (xs := [a5s, a5t]) a5u (c1s _ _ _ _ _ _) rfl rfl b4c b4d (nb rfl) fun a5L e8o d2Y c2J b5B e8n => ?_
 obtain ⟨a7V, d2Z, c1V, c2F, d3a⟩ := Inv.freezeC b5B c2J (by decide)
 replace h := h a5L a7V c1V c2F d3a
 refine b9 (cap := []) (fun args w => Tryd.call87 args w) ?_
 refine m2 (Fi := []) (Fr := [bx g_2 44 (t7 x0)]) d2Z (h) (fun g1L b9l g1M d3b a5I g1N e8u d3c => ?_) (fun _ _ _ _ _ q => q.elim)
 obtain ⟨b4p, rfl, rfl, h⟩ := d3c
 refine b9 (cap := []) (fun args w => Tryd.call60 args w) ?_
 refine m2 (Fi := []) (Fr := [bx g_2 44 (t7 x0)]) a5I (h) (fun g6k b1t g6l J0 c2K g6m e8v g1O => ?_) (fun _ _ _ _ _ q => q.elim)
 obtain ⟨c7l, e8w, rfl, rfl, h⟩ := g1O
 exact hR c7l e8w b1t _ (c2K.bring 1).drop h
theorem b4T (x0 : A5) {H : Hp} {K : g7 → Hp → Prop} (h : a1N x0 H K) : a3S x0 H K := by
 intro w I
 refine e4i ?_
 refine b3h x0 I (fun r0 gr0 H' w' I' hk => ⟨H', _, I', r0, gr0, rfl, rfl, hk⟩) h
def A8 (g1P : Int) (b4q : Bool) (a0v : D2) (H : Hp) (K : Bool → Hp → Prop) : Prop :=
 (b4q = true →
 K (decide (g1P = 2)) H) ∧
 (b4q = false →
 K false H)
def G5 (b9m : Int) (a3C : Int) (b4r : Bool) (a4b : D2) (H : Hp) (K : Bool → Hp → Prop) : Prop :=
 (b4r = true →
 K (decide (b9m = 1)) H) ∧
 (b4r = false →
 (a3C = 6 →
 A8 b9m (decide (a3C = 6)) a4b H K) ∧
 (¬ (a3C = 6) →
 (a3C = 7 →
 A8 b9m (decide (a3C = 7)) a4b H K) ∧
 (¬ (a3C = 7) →
 (a3C = 8 →
 A8 b9m (decide (a3C = 8)) a4b H K) ∧
 (¬ (a3C = 8) →
 (a3C = 9 →
 A8 b9m (decide (a3C = 9)) a4b H K) ∧
 (¬ (a3C = 9) →
 A8 b9m (decide (a3C = 10)) a4b H K)))))
def G6 (b1u : Int) (a3D : Int) (b4s : Bool) (D7 : D2) (H : Hp) (K : Bool → Hp → Prop) : Prop :=
 (b4s = true →
 K (decide (b1u = 0)) H) ∧
 (b4s = false →
 (a3D = 4 →
 G5 b1u a3D (decide (a3D = 4)) D7 H K) ∧
 (¬ (a3D = 4) →
 G5 b1u a3D (decide (a3D = 5)) D7 H K))
def V5 (x0 : D2) (H : Hp) (K : Bool → Hp → Prop) : Prop :=
 a0f (a8.B7 x0) H (fun (Z6 : ByteArray) (c0G : Bool) (H_6 : Hp) =>
 ((((!decide (x0.k5.d5 = 1)) && (!decide (x0.k5.G2 = 0))) || ((!c0G) && (!decide (x0.k5.d6 = ⟨#[]⟩)))) = true →
 K false H_6) ∧
 ((((!decide (x0.k5.d5 = 1)) && (!decide (x0.k5.G2 = 0))) || ((!c0G) && (!decide (x0.k5.d6 = ⟨#[]⟩)))) = false →
 (x0.k5.d5 = 1 →
 K ((decide (0 ≤ x0.k5.G2)) && (decide ((x0.k5.v8.n : Int) = 0))) H_6) ∧
 (¬ (x0.k5.d5 = 1) →
 (x0.k5.d5 = 2 →
 G6 (x0.k5.v8.n : Int) x0.k5.d5 (decide (x0.k5.d5 = 2)) x0 H_6 K) ∧
 (¬ (x0.k5.d5 = 2) →
 G6 (x0.k5.v8.n : Int) x0.k5.d5 (decide (x0.k5.d5 = 3)) x0 H_6 K))))
theorem a7Y (x0 : D2) {K : Bool → Hp → Prop} (I : Inv w0 ps0 H0 H [] w) (hR : ∀ (r0 : Bool) (H' : Hp) (w' : World) (_ : Inv w0 ps0 H0 H' [] w') (_ : K r0 H'), R (vB r0) w') (h : V5 x0 H K) : c6N (Value.agg (b6 x0.k5).toArray) w R E := by
 unfold V5 at h
 unfold c6N
 refine M1 I (cs := (b6 x0.k5)) rfl fun g_2 w_3 I_4 k_5 => ?_
 refine a7 T7 ?_
 refine a7 a3t ?_
 refine b8 (ld1 Tryd.isAgg22 (I_4.at1 (o := 3) (vs := [(vs x0.k5.v8)]) (nb rfl) rfl)) ?_
 refine a7 (a2h _ _ _) ?_
 refine b8 (ldA Tryd.isAgg123 Tryd.sizeOf123 rfl (I_4.at1 (o := 0) (vs := (b6 x0.k5)) (nb rfl) rfl)) ?_
 refine a7 (a9X x0) ?_
 refine b9 (cap := []) (fun args w => Tryd.call118 args w) ?_
 refine m2 (Fi := []) (Fr := [bx g_2 123 (b6 x0.k5)]) I_4 (h) (fun c7m H_6 c7n w_7 I_8 c7o k_9 b1v => ?_) (fun _ _ _ _ _ q => q.elim)
 obtain ⟨Z6, c0G, rfl, rfl, h⟩ := b1v
 refine a7 (j7 _ _ (Value.string Z6) rfl) ?_
 refine a7 (j7 _ _ (vB c0G) rfl) ?_
 refine a7 T7 ?_
 refine a7 U0 ?_
 refine b8 (ld1 Tryd.isAgg3 (I_8.at1 (o := 0) (vs := [(vi x0.k5.d5)]) (nb rfl) rfl)) ?_
 refine a7 (W7 _ _ _ _ _ _) ?_
 refine a7 (Pu.g fun hb => by have f8 := hb; exact T7) ?_
 refine a7 (Pu.g fun hb => by have f8 := hb; simp only [m9 f8]; exact a6P) ?_
 refine b8 (Ld.g fun hb => by have f8 := hb; simp only [m9 f8]; exact (ld1 Tryd.isAgg2 (I_8.at1 (o := 1) (vs := [(vi x0.k5.G2)]) (nb rfl) rfl))) ?_
 refine a7 (Pu.g fun hb => by have f8 := hb; simp only [m9 f8]; exact (W7 _ _ _ _ _ _)) ?_
 refine a7 (L8 _ _) ?_
 simp only [L6]
 refine a7 (Pu.g fun hb => by have f8 := hb; simp only [m9 f8]; exact (a0s _)) ?_
 simp only [d7l]
 refine a7 (Pu.e (a7l _ _ _) (Pu.g fun hb => by obtain ⟨f8, c2D⟩ := b4a hb; exact T7)) ?_
 refine a7 (Pu.e (a7l _ _ _) (Pu.g fun hb => by obtain ⟨f8, c2D⟩ := b4a hb; simp only [m9 hb]; exact a3u)) ?_
 refine b8 (Ld.e (a7l _ _ _) (Ld.g fun hb => by obtain ⟨f8, c2D⟩ := b4a hb; simp only [m9 hb]; exact (ld1 Tryd.isAgg9 (I_8.at1 (o := 2) (vs := [(Value.string x0.k5.d6)]) (nb rfl) rfl)))) ?_
 refine a7 (Pu.e (a7l _ _ _) (Pu.g fun hb => by obtain ⟨f8, c2D⟩ := b4a hb; simp only [m9 hb]; exact (e3U _ _ _ _ _))) ?_
 refine a7 (Pu.g fun hb => by have f8 := hb; simp only [m9 f8, c9z f8]; exact (L8 _ _)) ?_
 refine a7 (a0g _ _) ?_
 refine o4 (fun d3e => ?_) (fun d3e => ?_)
 ·replace h := h.1 d3e
  exact hR false H_6 _ I_8.drop h
 ·replace h := h.2 d3e
  refine a7 T7 ?_
  refine a7 U0 ?_
  refine b8 (ld1 Tryd.isAgg3 (I_8.at1 (o := 0) (vs := [(vi x0.k5.d5)]) (nb rfl) rfl)) ?_
  refine a7 (i5 _ _ _ _ _ _) ?_
  refine h9 (fun b5K => ?_) (fun b5K => ?_)
  ·replace h := h.1 b5K
   refine a7 T7 ?_
   refine a7 a6P ?_
   refine b8 (ld1 Tryd.isAgg2 (I_8.at1 (o := 1) (vs := [(vi x0.k5.G2)]) (nb rfl) rfl)) ?_
   refine a7 (a9S _ _ _ _ _ _) ?_
   simp only [L6]
   refine a7 (Pu.g fun hb => by have f8 := hb; simp only [m9 f8]; exact (i5 _ _ _ _ _ _)) ?_
   refine a7 (L8 _ _) ?_
   exact hR ((decide (0 ≤ x0.k5.G2)) && (decide ((x0.k5.v8.n : Int) = 0))) H_6 _ I_8.drop h
  ·replace h := h.2 b5K
   have hj1 : ∀ (b4s : Bool) (H : Hp) (w : World) (_ : Inv w0 ps0 H0 H [bx g_2 123 (b6 x0.k5)] w) (_ : G6 (x0.k5.v8.n : Int) x0.k5.d5 b4s x0 H K), b8Y (vi (x0.k5.v8.n : Int)) (vi x0.k5.d5) (vB b4s) w R E := by
    intro b4s H w I h
    unfold b8Y
    intro _
    unfold G6 at h
    refine o4 (fun d3f => ?_) (fun d3f => ?_)
    ·replace h := h.1 d3f
     refine a7 (i5 _ _ _ _ _ _) ?_
     exact hR (decide ((x0.k5.v8.n : Int) = 0)) H _ I.drop h
    ·replace h := h.2 d3f
     have hj2 : ∀ (b4r : Bool) (H : Hp) (w : World) (_ : Inv w0 ps0 H0 H [bx g_2 123 (b6 x0.k5)] w) (_ : G5 (x0.k5.v8.n : Int) x0.k5.d5 b4r x0 H K), b8W (vi (x0.k5.v8.n : Int)) (vi x0.k5.d5) (vB b4r) w R E := by
      intro b4r H w I h
      unfold b8W
      intro _
      unfold G5 at h
      refine o4 (fun a4z => ?_) (fun a4z => ?_)
      ·replace h := h.1 a4z
       refine a7 (i5 _ _ _ _ _ _) ?_
       exact hR (decide ((x0.k5.v8.n : Int) = 1)) H _ I.drop h
      ·replace h := h.2 a4z
       have hj3 : ∀ (b4q : Bool) (H : Hp) (w : World) (_ : Inv w0 ps0 H0 H [bx g_2 123 (b6 x0.k5)] w) (_ : A8 (x0.k5.v8.n : Int) b4q x0 H K), b8V (vi (x0.k5.v8.n : Int)) (vB b4q) w R E := by
        intro b4q H w I h
        unfold b8V
        intro _
        unfold A8 at h
        refine o4 (fun a4A => ?_) (fun a4A => ?_)
        ·replace h := h.1 a4A
         refine a7 (i5 _ _ _ _ _ _) ?_
         exact hR (decide ((x0.k5.v8.n : Int) = 2)) H _ I.drop h
        ·replace h := h.2 a4A
         exact hR false H _ I.drop h
       refine z7 fun j3 hx3 => ?_
       refine a7 (i5 _ _ _ _ _ _) ?_
       refine h9 (fun a7Z => ?_) (fun a7Z => ?_)
       ·replace h := h.1 a7Z
        exact hx3 _ _ (hj3 (decide (x0.k5.d5 = 6)) H _ I h)
       ·replace h := h.2 a7Z
        refine a7 (i5 _ _ _ _ _ _) ?_
        refine h9 (fun a8a => ?_) (fun a8a => ?_)
        ·replace h := h.1 a8a
         exact hx3 _ _ (hj3 (decide (x0.k5.d5 = 7)) H _ I h)
        ·replace h := h.2 a8a
         refine a7 (i5 _ _ _ _ _ _) ?_
         refine h9 (fun a8b => ?_) (fun a8b => ?_)
         ·replace h := h.1 a8b
          exact hx3 _ _ (hj3 (decide (x0.k5.d5 = 8)) H _ I h)
         ·replace h := h.2 a8b
          refine a7 (i5 _ _ _ _ _ _) ?_
          refine h9 (fun a8c => ?_) (fun a8c => ?_)
          ·replace h := h.1 a8c
           exact hx3 _ _ (hj3 (decide (x0.k5.d5 = 9)) H _ I h)
          ·replace h := h.2 a8c
           refine a7 (i5 _ _ _ _ _ _) ?_
           exact hx3 _ _ (hj3 (decide (x0.k5.d5 = 10)) H _ I h)
     refine z7 fun j2 hx2 => ?_
     refine a7 (i5 _ _ _ _ _ _) ?_
     refine h9 (fun a8d => ?_) (fun a8d => ?_)
     ·replace h := h.1 a8d
      exact hx2 _ _ (hj2 (decide (x0.k5.d5 = 4)) H _ I h)
     ·replace h := h.2 a8d
      refine a7 (i5 _ _ _ _ _ _) ?_
      exact hx2 _ _ (hj2 (decide (x0.k5.d5 = 5)) H _ I h)
   refine z7 fun j1 hx1 => ?_
   refine a7 (i5 _ _ _ _ _ _) ?_
   refine h9 (fun d3g => ?_) (fun d3g => ?_)
   ·replace h := h.1 d3g
    exact hx1 _ _ (hj1 (decide (x0.k5.d5 = 2)) H_6 _ I_8 h)
   ·replace h := h.2 d3g
    refine a7 (i5 _ _ _ _ _ _) ?_
    exact hx1 _ _ (hj1 (decide (x0.k5.d5 = 3)) H_6 _ I_8 h)
theorem a8N (x0 : D2) {H : Hp} {K : Bool → Hp → Prop} (h : V5 x0 H K) : a1h x0 H K := by
 intro w I
 refine d9h ?_
 refine a7Y x0 I (fun r0 H' w' I' hk => ⟨H', _, I', r0, rfl, rfl, hk⟩) h
def G7 (b4t : Bool) (d0C : C8) (a4b : H9) (H : Hp) (K : Bool → Hp → Prop) : Prop :=
 (b4t = true →
 K (decide (d0C.fexprs = 0 ∧ d0C.fparts = 2)) H) ∧
 (b4t = false →
 K false H)
def G8 (a3D : Int) (b4u : Bool) (a3j : C8) (D7 : H9) (H : Hp) (K : Bool → Hp → Prop) : Prop :=
 (b4u = true →
 K (decide (a3j.fexprs = 0 ∧ a3j.fparts = 0)) H) ∧
 (b4u = false →
 (a3D = 4 →
 K (decide (a3j.fexprs = 0 ∧ a3j.fparts = 1)) H) ∧
 (¬ (a3D = 4) →
 (a3D = 5 →
 G7 (decide (a3D = 5)) a3j D7 H K) ∧
 (¬ (a3D = 5) →
 G7 (decide (a3D = 6)) a3j D7 H K)))
def V6 (x0 : H9) (H : Hp) (K : Bool → Hp → Prop) : Prop :=
 (x0.j8.d5 = 3 →
 K (((decide (1 ≤ x0.j8.fOp)) && (decide (x0.j8.fOp ≤ 6))) && (decide ((x0.j8.i6.n : Int) = 2 ∧ (x0.j8.r8.n : Int) = 0))) H) ∧
 (¬ (x0.j8.d5 = 3) →
 (¬ (x0.j8.fOp = 0) →
 K false H) ∧
 (x0.j8.fOp = 0 →
 (x0.j8.d5 = 1 →
 G8 x0.j8.d5 (decide (x0.j8.d5 = 1)) (C8.mk (x0.j8.i6.n : Int) (x0.j8.r8.n : Int)) x0 H K) ∧
 (¬ (x0.j8.d5 = 1) →
 G8 x0.j8.d5 (decide (x0.j8.d5 = 2)) (C8.mk (x0.j8.i6.n : Int) (x0.j8.r8.n : Int)) x0 H K)))
theorem a8e (x0 : H9) {K : Bool → Hp → Prop} (I : Inv w0 ps0 H0 H [] w) (hR : ∀ (r0 : Bool) (H' : Hp) (w' : World) (_ : Inv w0 ps0 H0 H' [] w') (_ : K r0 H'), R (vB r0) w') (h : V6 x0 H K) : c6R (Value.agg (i4 x0.j8).toArray) w R E := by
 unfold V6 at h
 unfold c6R
 refine M1 I (cs := (i4 x0.j8)) rfl fun g_2 w_3 I_4 k_5 => ?_
 refine a7 Z5 ?_
 refine a7 a4V ?_
 refine b8 (ld1 Tryd.isAgg22 (I_4.at1 (o := 2) (vs := [(vs x0.j8.i6)]) (nb rfl) rfl)) ?_
 refine a7 (a2h _ _ _) ?_
 refine a7 Z5 ?_
 refine a7 a1s ?_
 refine b8 (ld1 Tryd.isAgg25 (I_4.at1 (o := 3) (vs := [(vs x0.j8.r8)]) (nb rfl) rfl)) ?_
 refine a7 (a6l _ _ _) ?_
 refine a7 (a3w _ _) ?_
 refine A0 I_4 Tryd.zeroValue223 (cs := [(vi 0), (vi 0)]) rfl fun g_7 w_8 I_9 c7e => ?_
 refine m5 I_9 Tryd.sizeOf223 (vs := [(vi (x0.j8.i6.n : Int)), (vi (x0.j8.r8.n : Int))]) (cs' := [(vi (x0.j8.i6.n : Int)), (vi (x0.j8.r8.n : Int))]) rfl rfl (nb rfl) rfl rfl fun a0i M6 b3a => ?_
 refine a7 Z5 ?_
 refine a7 a6O ?_
 refine b8 (ld1 Tryd.isAgg3 ((M6.bring 1).at1 (o := 0) (vs := [(vi x0.j8.d5)]) (nb rfl) rfl)) ?_
 refine a7 (i5 _ _ _ _ _ _) ?_
 refine h9 (fun a4z => ?_) (fun a4z => ?_)
 ·replace h := h.1 a4z
  refine a7 Z5 ?_
  refine a7 a6Q ?_
  refine b8 (ld1 Tryd.isAgg3 ((M6.bring 1).at1 (o := 1) (vs := [(vi x0.j8.fOp)]) (nb rfl) rfl)) ?_
  refine a7 (a9S _ _ _ _ _ _) ?_
  refine a7 (Pu.g fun hb => by have f8 := hb; exact Z5) ?_
  refine a7 (Pu.g fun hb => by have f8 := hb; simp only [m9 f8]; exact a6Q) ?_
  refine b8 (Ld.g fun hb => by have f8 := hb; simp only [m9 f8]; exact (ld1 Tryd.isAgg3 ((M6.bring 1).at1 (o := 1) (vs := [(vi x0.j8.fOp)]) (nb rfl) rfl))) ?_
  refine a7 (Pu.g fun hb => by have f8 := hb; simp only [m9 f8]; exact (b2u _ _ _ _ _ _)) ?_
  refine a7 (L8 _ _) ?_
  refine b8 (Ld.g fun hb => by have f8 := hb; exact (ldA Tryd.isAgg223 Tryd.sizeOf223 rfl (M6.at1 (o := 0) (vs := [(vi (x0.j8.i6.n : Int)), (vi (x0.j8.r8.n : Int))]) (nb rfl) rfl))) ?_
  refine a7 (Pu.g fun hb => by have f8 := hb; exact (a3w _ _)) ?_
  refine a7 (Pu.g fun hb => by have f8 := hb; simp only [m9 f8]; exact (a9b _ _ _ _ _ _)) ?_
  refine a7 (L8 _ _) ?_
  exact hR (((decide (1 ≤ x0.j8.fOp)) && (decide (x0.j8.fOp ≤ 6))) && (decide ((x0.j8.i6.n : Int) = 2 ∧ (x0.j8.r8.n : Int) = 0))) H _ M6.drop.drop h
 ·replace h := h.2 a4z
  refine a7 Z5 ?_
  refine a7 a6Q ?_
  refine b8 (ld1 Tryd.isAgg3 ((M6.bring 1).at1 (o := 1) (vs := [(vi x0.j8.fOp)]) (nb rfl) rfl)) ?_
  refine a7 (W7 _ _ _ _ _ _) ?_
  refine a4K (fun a7Z => ?_) (fun a7Z => ?_)
  ·replace h := h.1 a7Z
   exact hR false H _ M6.drop.drop h
  ·replace h := h.2 a7Z
   refine a7 Z5 ?_
   refine a7 a6O ?_
   refine b8 (ld1 Tryd.isAgg3 ((M6.bring 1).at1 (o := 0) (vs := [(vi x0.j8.d5)]) (nb rfl) rfl)) ?_
   have hj1 : ∀ (b4u : Bool) (H : Hp) (w : World) (_ : Inv w0 ps0 H0 H [bx g_7 223 [(vi (C8.mk (x0.j8.i6.n : Int) (x0.j8.r8.n : Int)).fexprs), (vi (C8.mk (x0.j8.i6.n : Int) (x0.j8.r8.n : Int)).fparts)], bx g_2 138 (i4 x0.j8)] w) (_ : G8 x0.j8.d5 b4u (C8.mk (x0.j8.i6.n : Int) (x0.j8.r8.n : Int)) x0 H K), b9b (Value.pointer (some ⟨g_7, 0, none⟩)) (vi x0.j8.d5) (vB b4u) w R E := by
    intro b4u H w I h
    unfold b9b
    intro _
    unfold G8 at h
    refine o4 (fun a8b => ?_) (fun a8b => ?_)
    ·replace h := h.1 a8b
     refine b8 (ldA Tryd.isAgg223 Tryd.sizeOf223 rfl (I.at1 (o := 0) (vs := [(vi (C8.mk (x0.j8.i6.n : Int) (x0.j8.r8.n : Int)).fexprs), (vi (C8.mk (x0.j8.i6.n : Int) (x0.j8.r8.n : Int)).fparts)]) (nb rfl) rfl)) ?_
     refine a7 (c6A ) ?_
     refine a7 (a9b _ _ _ _ _ _) ?_
     exact hR (decide ((C8.mk (x0.j8.i6.n : Int) (x0.j8.r8.n : Int)).fexprs = 0 ∧ (C8.mk (x0.j8.i6.n : Int) (x0.j8.r8.n : Int)).fparts = 0)) H _ I.drop.drop h
    ·replace h := h.2 a8b
     refine a7 (i5 _ _ _ _ _ _) ?_
     refine h9 (fun a8c => ?_) (fun a8c => ?_)
     ·replace h := h.1 a8c
      refine b8 (ldA Tryd.isAgg223 Tryd.sizeOf223 rfl (I.at1 (o := 0) (vs := [(vi (C8.mk (x0.j8.i6.n : Int) (x0.j8.r8.n : Int)).fexprs), (vi (C8.mk (x0.j8.i6.n : Int) (x0.j8.r8.n : Int)).fparts)]) (nb rfl) rfl)) ?_
      refine a7 (a3w _ _) ?_
      refine a7 (a9b _ _ _ _ _ _) ?_
      exact hR (decide ((C8.mk (x0.j8.i6.n : Int) (x0.j8.r8.n : Int)).fexprs = 0 ∧ (C8.mk (x0.j8.i6.n : Int) (x0.j8.r8.n : Int)).fparts = 1)) H _ I.drop.drop h
     ·replace h := h.2 a8c
      have hj2 : ∀ (b4t : Bool) (H : Hp) (w : World) (_ : Inv w0 ps0 H0 H [bx g_7 223 [(vi (C8.mk (x0.j8.i6.n : Int) (x0.j8.r8.n : Int)).fexprs), (vi (C8.mk (x0.j8.i6.n : Int) (x0.j8.r8.n : Int)).fparts)], bx g_2 138 (i4 x0.j8)] w) (_ : G7 b4t (C8.mk (x0.j8.i6.n : Int) (x0.j8.r8.n : Int)) x0 H K), b9a (Value.pointer (some ⟨g_7, 0, none⟩)) (vB b4t) w R E := by
       intro b4t H w I h
       unfold b9a
       intro _
       unfold G7 at h
       refine o4 (fun b5L => ?_) (fun b5L => ?_)
       ·replace h := h.1 b5L
        refine b8 (ldA Tryd.isAgg223 Tryd.sizeOf223 rfl (I.at1 (o := 0) (vs := [(vi (C8.mk (x0.j8.i6.n : Int) (x0.j8.r8.n : Int)).fexprs), (vi (C8.mk (x0.j8.i6.n : Int) (x0.j8.r8.n : Int)).fparts)]) (nb rfl) rfl)) ?_
        refine a7 (a3w _ _) ?_
        refine a7 (a9b _ _ _ _ _ _) ?_
        exact hR (decide ((C8.mk (x0.j8.i6.n : Int) (x0.j8.r8.n : Int)).fexprs = 0 ∧ (C8.mk (x0.j8.i6.n : Int) (x0.j8.r8.n : Int)).fparts = 2)) H _ I.drop.drop h
       ·replace h := h.2 b5L
        exact hR false H _ I.drop.drop h
      refine z7 fun j2 hx2 => ?_
      refine a7 (i5 _ _ _ _ _ _) ?_
      refine h9 (fun a4A => ?_) (fun a4A => ?_)
      ·replace h := h.1 a4A
       exact hx2 _ _ (hj2 (decide (x0.j8.d5 = 5)) H _ ((I.bring 1).bring 1) h)
      ·replace h := h.2 a4A
       refine a7 (i5 _ _ _ _ _ _) ?_
       exact hx2 _ _ (hj2 (decide (x0.j8.d5 = 6)) H _ ((I.bring 1).bring 1) h)
   refine z7 fun j1 hx1 => ?_
   refine a7 (i5 _ _ _ _ _ _) ?_
   refine h9 (fun a8a => ?_) (fun a8a => ?_)
   ·replace h := h.1 a8a
    exact hx1 _ _ (hj1 (decide (x0.j8.d5 = 1)) H _ ((M6.bring 1).bring 1) h)
   ·replace h := h.2 a8a
    refine a7 (i5 _ _ _ _ _ _) ?_
    exact hx1 _ _ (hj1 (decide (x0.j8.d5 = 2)) H _ ((M6.bring 1).bring 1) h)
theorem a8O (x0 : H9) {H : Hp} {K : Bool → Hp → Prop} (h : V6 x0 H K) : a1i x0 H K := by
 intro w I
 refine d9q ?_
 refine a8e x0 I (fun r0 H' w' I' hk => ⟨H', _, I', r0, rfl, rfl, hk⟩) h
def u6 (U5 : (List a8)) (H : Hp) (K : Sl → Hp → Prop) : Prop :=
 ∀ (D5 : Sl) (X8 : Hp), Hle H X8 → SlH X8 1 m7 D5 U5 → D5.n ≤ D5.c →
 K D5 X8
def u7 (a0m : Sl) (X9 : Int) (r5 : (List a8)) (p5 : Int) (H : Hp) (n2 : ((List a8) × Int) → Hp → Prop) (K : Sl → Hp → Prop) : Prop :=
 (p5 < X9 →
 (0 : Int) ≤ p5 ∧ (p5 : Int) < a0m.n ∧ ∃ x_1 : t6, EltH H a0m p5 4 (i4 x_1) ∧
 a5r x_1 H (fun (O3 : a8) (Y0 : Hp) =>
 (r5.length + ([O3] : List a8).length) * 17 ≤ 140737488355328 ∧
 n2 ((r5 ++ [O3]), (IntKind.wrap .i64 (p5 + 1))) Y0)) ∧
 (¬ (p5 < X9) →
 u6 r5 H K)
def y9 (x0 : Sl) (H : Hp) (K : Sl → Hp → Prop) : Prop :=
 TL (([], 0) : (List a8) × Int) H fun (s : (List a8) × Int) H n2 => u7 x0 (x0.n : Int) s.1 s.2 H n2 K
theorem X0 (x0 : Sl) {K : Sl → Hp → Prop} (I : Inv w0 ps0 H0 H [] w) (hR : ∀ (r0 : Sl) (H' : Hp) (w' : World) (_ : Inv w0 ps0 H0 H' [] w') (_ : K r0 H'), R (vs r0) w') (h : y9 x0 H K) : c6U (vs x0) (fC 176) w R E := by
 unfold y9 at h
 unfold c6U
 have hj1 : ∀ (U5 : (List a8)) (D5 : Sl) (Fs5j1 : Frag) (H : Hp) (w : World) (_ : RowL 152 1 m7 D5 U5 Fs5j1) (_ : Inv w0 ps0 H0 H [Fs5j1] w) (_ : u6 U5 H K), b9c (vs D5) w R E := by
  intro U5 D5 Fs5j1 H w b1k I h
  unfold b9c
  intro _
  unfold u6 at h
  obtain ⟨X8, a5I, b3e, a7U, a9C⟩ := Inv.freezeC I b1k (by decide)
  replace h := h D5 X8 b3e a7U a9C
  exact hR D5 X8 _ a5I h
 refine z7 fun j1 hx1 => ?_
 refine a7 (a6l _ _ _) ?_
 obtain ⟨a4y, a0T, b5C, b5D⟩ := h
 refine K8 (J := fun n l w => ∃ (s : (List a8) × Int) (H : Hp) (U6 : Sl) (Fs5l2 : Frag) , n = a0T s ∧ l = (match s with | (r5, p5) => [(vs U6), (vi p5)]) ∧ (match s with | (r5, p5) => RowL 152 1 m7 U6 r5 Fs5l2) ∧ (match s with | (r5, p5) => Inv w0 ps0 H0 H [Fs5l2] w) ∧ a4y s H) ⟨_, ([], 0), H, (Sl.mk none 0 0), [], rfl, rfl, (RowL.nil K9 N7), I.nil, b5C⟩ ?_
 rintro d2W τ_50 w next2 ⟨⟨r5, p5⟩, H, U6, Fs5l2, rfl, a3U, a2A, I, b5E⟩ hn2
 dsimp only at a3U I a2A
 simp only [List.map_cons, List.map_nil, List.cons.injEq, and_true] at a3U
 obtain ⟨e5, e10⟩ := a3U
 simp only [e5, e10]
 obtain ⟨n2, hm2, h⟩ : ∃ n2 : ((List a8) × Int) → Hp → Prop, (∀ s' H', n2 s' H' → a4y s' H' ∧ a0T s' < a0T (r5, p5)) ∧ u7 x0 (x0.n : Int) r5 p5 H n2 K := ⟨_, fun _ _ h => h, b5D (r5, p5) H (fun s' H' => a4y s' H' ∧ a0T s' < a0T (r5, p5)) b5E (fun _ _ a b => ⟨a, b⟩)⟩
 unfold c5I
 unfold u7 at h
 refine a7 (B8 _ _ _ _ _ _) ?_
 refine h9 (fun a2z => ?_) (fun a2z => ?_)
 ·replace h := h.1 a2z
  obtain ⟨h_4, h_5, x_1, h_7, h⟩ := h
  obtain ⟨g_2, o_3, h_6, h_7⟩ := h_7
  refine a7 (a2l h_6 _ _ _ _ h_4 h_5) ?_
  refine b8 (ldA (vs := (i4 x_1)) Tryd.isAgg27 Tryd.sizeOf27 rfl (I.atH h_7)) ?_
  refine A0 I Tryd.zeroValue27 (cs := [(vi 0), (vi 0), (nS), (nS)]) rfl fun g_9 m4 a3i b5F => ?_
  refine m5 a3i Tryd.sizeOf27 (vs := (i4 x_1)) (cs' := (i4 x_1)) rfl rfl (nb rfl) rfl rfl fun a0j O7 a1E => ?_
  refine b8 (ldA Tryd.isAgg27 Tryd.sizeOf27 rfl (O7.at1 (o := 0) (vs := (i4 x_1)) (nb rfl) rfl)) ?_
  refine b9 (cap := []) (fun args w => Tryd.call176 args w) ?_
  refine m2 (Fi := []) (Fr := [bx g_9 27 (i4 x_1), Fs5l2]) O7 (h) (fun c7h Y0 b1l a1Y a4x b9j c7i b1m => ?_) (fun _ _ _ _ _ q => q.elim)
  obtain ⟨O3, rfl, rfl, h⟩ := b1m
  refine X3 (e := 152) (c := m7) (xs := [O3]) a4x (b0O _) rfl rfl K9 N7 (nb rfl) fun c2G b9k B9 a5J a5K c7j => ?_
  obtain ⟨b1n, h⟩ := h
  refine a9Y (s := U6) (xs := r5) (a5K.bring 2) a2A (a5J.srcO ((a5K.bring 2).bring 1)) b1n fun b5G b5H C6 b1g a6D c7k => ?_
  refine a7 (E9 _ _ _ _ _ _) ?_
  exact hn2 _ _ _ (hm2 _ _ h).2 ⟨((r5 ++ [O3]), (IntKind.wrap .i64 (p5 + 1))), Y0, b5G, b5H, rfl, rfl, b1g, ((a6D.bring 1).drop.bring 1).drop, (hm2 _ _ h).1⟩
 ·replace h := h.2 a2z
  exact hx1 _ _ (hj1 r5 U6 Fs5l2 H _ a2A I h)
theorem Y3 (x0 : Sl) {H : Hp} {K : Sl → Hp → Prop} (h : y9 x0 H K) : y6 x0 H K := by
 intro w I
 refine d9u ?_
 refine X0 x0 I (fun r0 H' w' I' hk => ⟨H', _, I', r0, rfl, rfl, hk⟩) h
def V7 (x0 : M2) (H : Hp) (K : Bool → Hp → Prop) : Prop :=
 K ((decide (0 ≤ x0.M3.C7)) && (decide (x0.M3.C7 ≤ 2147483647))) H
theorem a8f (x0 : M2) {K : Bool → Hp → Prop} (I : Inv w0 ps0 H0 H [] w) (hR : ∀ (r0 : Bool) (H' : Hp) (w' : World) (_ : Inv w0 ps0 H0 H' [] w') (_ : K r0 H'), R (vB r0) w') (h : V7 x0 H K) : c6W (Value.agg (l9 x0.M3).toArray) w R E := by
 unfold V7 at h
 unfold c6W
 refine M1 I (cs := (l9 x0.M3)) rfl fun g_2 w_3 I_4 k_5 => ?_
 refine a7 a9w ?_
 refine a7 a2m ?_
 refine b8 (ld1 Tryd.isAgg3 (I_4.at1 (o := 1) (vs := [(vi x0.M3.C7)]) (nb rfl) rfl)) ?_
 refine a7 (a9S _ _ _ _ _ _) ?_
 refine a7 (Pu.g fun hb => by have f8 := hb; exact a9w) ?_
 refine a7 (Pu.g fun hb => by have f8 := hb; simp only [m9 f8]; exact a2m) ?_
 refine b8 (Ld.g fun hb => by have f8 := hb; simp only [m9 f8]; exact (ld1 Tryd.isAgg3 (I_4.at1 (o := 1) (vs := [(vi x0.M3.C7)]) (nb rfl) rfl))) ?_
 refine a7 (Pu.g fun hb => by have f8 := hb; simp only [m9 f8]; exact (b2u _ _ _ _ _ _)) ?_
 refine a7 (L8 _ _) ?_
 exact hR ((decide (0 ≤ x0.M3.C7)) && (decide (x0.M3.C7 ≤ 2147483647))) H _ I_4.drop h
theorem a8P (x0 : M2) {H : Hp} {K : Bool → Hp → Prop} (h : V7 x0 H K) : a3Q x0 H K := by
 intro w I
 refine d9y ?_
 refine a8f x0 I (fun r0 H' w' I' hk => ⟨H', _, I', r0, rfl, rfl, hk⟩) h
def G9 (b1w : Bool) (d7p : Int) (b4v : Bool) (a3j : K0) (D7 : I0) (H : Hp) (K : Bool → Hp → Prop) : Prop :=
 (b4v = true →
 K (b1w && (decide (a3j.fexprs = 0 ∧ a3j.fconds = 1))) H) ∧
 (b4v = false →
 (d7p = 7 →
 K (b1w && (decide (a3j.fexprs = 0 ∧ a3j.fconds = 0))) H) ∧
 (¬ (d7p = 7) →
 K false H))
def V8 (x0 : I0) (H : Hp) (K : Bool → Hp → Prop) : Prop :=
 (x0.d7.d5 = 1 →
 K ((!(decide (0 < (IntKind.wrap .i64 ((x0.d7.G1.n : Int) + (x0.d7.E6.n : Int)))))) && (decide ((x0.d7.i6.n : Int) = 1 ∧ (x0.d7.p8.n : Int) = 0))) H) ∧
 (¬ (x0.d7.d5 = 1) →
 (x0.d7.d5 = 2 →
 K ((!(decide (0 < (IntKind.wrap .i64 ((x0.d7.G1.n : Int) + (x0.d7.E6.n : Int)))))) && (decide ((x0.d7.i6.n : Int) = 2 ∧ (x0.d7.p8.n : Int) = 0))) H) ∧
 (¬ (x0.d7.d5 = 2) →
 (x0.d7.d5 = 3 →
 K ((decide (x0.d7.d6 = ⟨#[]⟩)) && (decide ((x0.d7.i6.n : Int) = 0 ∧ (x0.d7.p8.n : Int) = 1))) H) ∧
 (¬ (x0.d7.d5 = 3) →
 (x0.d7.d5 = 4 →
 K (((decide (x0.d7.d6 = ⟨#[]⟩)) && (decide ((x0.d7.E6.n : Int) = 0))) && (decide ((x0.d7.i6.n : Int) = 0 ∧ (x0.d7.p8.n : Int) = 1))) H) ∧
 (¬ (x0.d7.d5 = 4) →
 (x0.d7.d5 = 5 →
 G9 ((decide (x0.d7.d6 = ⟨#[]⟩)) && (!(decide (0 < (IntKind.wrap .i64 ((x0.d7.G1.n : Int) + (x0.d7.E6.n : Int))))))) x0.d7.d5 (decide (x0.d7.d5 = 5)) (K0.mk (x0.d7.i6.n : Int) (x0.d7.p8.n : Int)) x0 H K) ∧
 (¬ (x0.d7.d5 = 5) →
 G9 ((decide (x0.d7.d6 = ⟨#[]⟩)) && (!(decide (0 < (IntKind.wrap .i64 ((x0.d7.G1.n : Int) + (x0.d7.E6.n : Int))))))) x0.d7.d5 (decide (x0.d7.d5 = 6)) (K0.mk (x0.d7.i6.n : Int) (x0.d7.p8.n : Int)) x0 H K)))))
theorem a8g (x0 : I0) {K : Bool → Hp → Prop} (I : Inv w0 ps0 H0 H [] w) (hR : ∀ (r0 : Bool) (H' : Hp) (w' : World) (_ : Inv w0 ps0 H0 H' [] w') (_ : K r0 H'), R (vB r0) w') (h : V8 x0 H K) : c6Y (Value.agg (f2 x0.d7).toArray) w R E := by
 unfold V8 at h
 unfold c6Y
 refine M1 I (cs := (f2 x0.d7)) rfl fun g_2 w_3 I_4 k_5 => ?_
 refine a7 G3 ?_
 refine a7 a4Z ?_
 refine b8 (ld1 Tryd.isAgg42 (I_4.at1 (o := 4) (vs := [(vs x0.d7.G1)]) (nb rfl) rfl)) ?_
 refine a7 (a4L _ _ _) ?_
 refine a7 G3 ?_
 refine a7 a5a ?_
 refine b8 (ld1 Tryd.isAgg42 (I_4.at1 (o := 5) (vs := [(vs x0.d7.E6)]) (nb rfl) rfl)) ?_
 refine a7 (a4L _ _ _) ?_
 refine a7 (E9 _ _ _ _ _ _) ?_
 refine a7 (a1q _ _ _ _ _ _) ?_
 refine a7 G3 ?_
 refine a7 a4Y ?_
 refine b8 (ld1 Tryd.isAgg22 (I_4.at1 (o := 2) (vs := [(vs x0.d7.i6)]) (nb rfl) rfl)) ?_
 refine a7 (a2h _ _ _) ?_
 refine a7 G3 ?_
 refine a7 a6S ?_
 refine b8 (ld1 Tryd.isAgg25 (I_4.at1 (o := 3) (vs := [(vs x0.d7.p8)]) (nb rfl) rfl)) ?_
 refine a7 (a6l _ _ _) ?_
 refine a7 (a0M _ _) ?_
 refine A0 I_4 Tryd.zeroValue227 (cs := [(vi 0), (vi 0)]) rfl fun g_7 w_8 I_9 c7e => ?_
 refine m5 I_9 Tryd.sizeOf227 (vs := [(vi (x0.d7.i6.n : Int)), (vi (x0.d7.p8.n : Int))]) (cs' := [(vi (x0.d7.i6.n : Int)), (vi (x0.d7.p8.n : Int))]) rfl rfl (nb rfl) rfl rfl fun a0i M6 b3a => ?_
 refine a7 G3 ?_
 refine a7 a1t ?_
 refine b8 (ld1 Tryd.isAgg9 ((M6.bring 1).at1 (o := 1) (vs := [(Value.string x0.d7.d6)]) (nb rfl) rfl)) ?_
 refine a7 (a0t _ _ _ _ _) ?_
 simp only [L6]
 refine a7 (Pu.g fun hb => by have f8 := hb; simp only [m9 f8]; exact (a0s _)) ?_
 refine a7 (L8 _ _) ?_
 refine a7 G3 ?_
 refine a7 a4X ?_
 refine b8 (ld1 Tryd.isAgg3 ((M6.bring 1).at1 (o := 0) (vs := [(vi x0.d7.d5)]) (nb rfl) rfl)) ?_
 refine a7 (i5 _ _ _ _ _ _) ?_
 refine h9 (fun a4z => ?_) (fun a4z => ?_)
 ·replace h := h.1 a4z
  refine a7 (a0s _) ?_
  refine b8 (Ld.g fun hb => by have f8 := hb; exact (ldA Tryd.isAgg227 Tryd.sizeOf227 rfl (M6.at1 (o := 0) (vs := [(vi (x0.d7.i6.n : Int)), (vi (x0.d7.p8.n : Int))]) (nb rfl) rfl))) ?_
  refine a7 (Pu.g fun hb => by have f8 := hb; exact (a0M _ _)) ?_
  refine a7 (Pu.g fun hb => by have f8 := hb; simp only [m9 f8]; exact (a4M _ _ _ _ _ _)) ?_
  refine a7 (L8 _ _) ?_
  exact hR ((!(decide (0 < (IntKind.wrap .i64 ((x0.d7.G1.n : Int) + (x0.d7.E6.n : Int)))))) && (decide ((x0.d7.i6.n : Int) = 1 ∧ (x0.d7.p8.n : Int) = 0))) H _ M6.drop.drop h
 ·replace h := h.2 a4z
  refine a7 (i5 _ _ _ _ _ _) ?_
  refine h9 (fun a7Z => ?_) (fun a7Z => ?_)
  ·replace h := h.1 a7Z
   refine a7 (a0s _) ?_
   refine b8 (Ld.g fun hb => by have f8 := hb; exact (ldA Tryd.isAgg227 Tryd.sizeOf227 rfl (M6.at1 (o := 0) (vs := [(vi (x0.d7.i6.n : Int)), (vi (x0.d7.p8.n : Int))]) (nb rfl) rfl))) ?_
   refine a7 (Pu.g fun hb => by have f8 := hb; exact (a0M _ _)) ?_
   refine a7 (Pu.g fun hb => by have f8 := hb; simp only [m9 f8]; exact (a4M _ _ _ _ _ _)) ?_
   refine a7 (L8 _ _) ?_
   exact hR ((!(decide (0 < (IntKind.wrap .i64 ((x0.d7.G1.n : Int) + (x0.d7.E6.n : Int)))))) && (decide ((x0.d7.i6.n : Int) = 2 ∧ (x0.d7.p8.n : Int) = 0))) H _ M6.drop.drop h
  ·replace h := h.2 a7Z
   refine a7 (i5 _ _ _ _ _ _) ?_
   refine h9 (fun a8a => ?_) (fun a8a => ?_)
   ·replace h := h.1 a8a
    refine a7 G3 ?_
    refine a7 a1t ?_
    refine b8 (ld1 Tryd.isAgg9 ((M6.bring 1).at1 (o := 1) (vs := [(Value.string x0.d7.d6)]) (nb rfl) rfl)) ?_
    refine a7 (a0t _ _ _ _ _) ?_
    refine b8 (Ld.g fun hb => by have f8 := hb; exact (ldA Tryd.isAgg227 Tryd.sizeOf227 rfl (M6.at1 (o := 0) (vs := [(vi (x0.d7.i6.n : Int)), (vi (x0.d7.p8.n : Int))]) (nb rfl) rfl))) ?_
    refine a7 (Pu.g fun hb => by have f8 := hb; exact (a0M _ _)) ?_
    refine a7 (Pu.g fun hb => by have f8 := hb; simp only [m9 f8]; exact (a4M _ _ _ _ _ _)) ?_
    refine a7 (L8 _ _) ?_
    exact hR ((decide (x0.d7.d6 = ⟨#[]⟩)) && (decide ((x0.d7.i6.n : Int) = 0 ∧ (x0.d7.p8.n : Int) = 1))) H _ M6.drop.drop h
   ·replace h := h.2 a8a
    refine a7 (i5 _ _ _ _ _ _) ?_
    refine h9 (fun a8b => ?_) (fun a8b => ?_)
    ·replace h := h.1 a8b
     refine a7 G3 ?_
     refine a7 a1t ?_
     refine b8 (ld1 Tryd.isAgg9 ((M6.bring 1).at1 (o := 1) (vs := [(Value.string x0.d7.d6)]) (nb rfl) rfl)) ?_
     refine a7 (a0t _ _ _ _ _) ?_
     refine a7 (Pu.g fun hb => by have f8 := hb; exact G3) ?_
     refine a7 (Pu.g fun hb => by have f8 := hb; simp only [m9 f8]; exact a5a) ?_
     refine b8 (Ld.g fun hb => by have f8 := hb; simp only [m9 f8]; exact (ld1 Tryd.isAgg42 ((M6.bring 1).at1 (o := 5) (vs := [(vs x0.d7.E6)]) (nb rfl) rfl))) ?_
     refine a7 (Pu.g fun hb => by have f8 := hb; simp only [m9 f8]; exact (a4L _ _ _)) ?_
     refine a7 (Pu.g fun hb => by have f8 := hb; simp only [m9 f8]; exact (i5 _ _ _ _ _ _)) ?_
     refine a7 (L8 _ _) ?_
     refine b8 (Ld.g fun hb => by have f8 := hb; exact (ldA Tryd.isAgg227 Tryd.sizeOf227 rfl (M6.at1 (o := 0) (vs := [(vi (x0.d7.i6.n : Int)), (vi (x0.d7.p8.n : Int))]) (nb rfl) rfl))) ?_
     refine a7 (Pu.g fun hb => by have f8 := hb; exact (a0M _ _)) ?_
     refine a7 (Pu.g fun hb => by have f8 := hb; simp only [m9 f8]; exact (a4M _ _ _ _ _ _)) ?_
     refine a7 (L8 _ _) ?_
     exact hR (((decide (x0.d7.d6 = ⟨#[]⟩)) && (decide ((x0.d7.E6.n : Int) = 0))) && (decide ((x0.d7.i6.n : Int) = 0 ∧ (x0.d7.p8.n : Int) = 1))) H _ M6.drop.drop h
    ·replace h := h.2 a8b
     have hj1 : ∀ (b4v : Bool) (H : Hp) (w : World) (_ : Inv w0 ps0 H0 H [bx g_7 227 [(vi (K0.mk (x0.d7.i6.n : Int) (x0.d7.p8.n : Int)).fexprs), (vi (K0.mk (x0.d7.i6.n : Int) (x0.d7.p8.n : Int)).fconds)], bx g_2 179 (f2 x0.d7)] w) (_ : G9 ((decide (x0.d7.d6 = ⟨#[]⟩)) && (!(decide (0 < (IntKind.wrap .i64 ((x0.d7.G1.n : Int) + (x0.d7.E6.n : Int))))))) x0.d7.d5 b4v (K0.mk (x0.d7.i6.n : Int) (x0.d7.p8.n : Int)) x0 H K), b9d (Value.pointer (some ⟨g_7, 0, none⟩)) (vB ((decide (x0.d7.d6 = ⟨#[]⟩)) && (!(decide (0 < (IntKind.wrap .i64 ((x0.d7.G1.n : Int) + (x0.d7.E6.n : Int)))))))) (vi x0.d7.d5) (vB b4v) w R E := by
      intro b4v H w I h
      unfold b9d
      intro _
      unfold G9 at h
      refine o4 (fun a4A => ?_) (fun a4A => ?_)
      ·replace h := h.1 a4A
       refine b8 (Ld.g fun hb => by have f8 := hb; exact (ldA Tryd.isAgg227 Tryd.sizeOf227 rfl (I.at1 (o := 0) (vs := [(vi (K0.mk (x0.d7.i6.n : Int) (x0.d7.p8.n : Int)).fexprs), (vi (K0.mk (x0.d7.i6.n : Int) (x0.d7.p8.n : Int)).fconds)]) (nb rfl) rfl))) ?_
       refine a7 (Pu.g fun hb => by have f8 := hb; exact (a0M _ _)) ?_
       refine a7 (Pu.g fun hb => by have f8 := hb; simp only [m9 f8]; exact (a4M _ _ _ _ _ _)) ?_
       refine a7 (L8 _ _) ?_
       exact hR (((decide (x0.d7.d6 = ⟨#[]⟩)) && (!(decide (0 < (IntKind.wrap .i64 ((x0.d7.G1.n : Int) + (x0.d7.E6.n : Int))))))) && (decide ((K0.mk (x0.d7.i6.n : Int) (x0.d7.p8.n : Int)).fexprs = 0 ∧ (K0.mk (x0.d7.i6.n : Int) (x0.d7.p8.n : Int)).fconds = 1))) H _ I.drop.drop h
      ·replace h := h.2 a4A
       refine a7 (i5 _ _ _ _ _ _) ?_
       refine h9 (fun b5L => ?_) (fun b5L => ?_)
       ·replace h := h.1 b5L
        refine b8 (Ld.g fun hb => by have f8 := hb; exact (ldA Tryd.isAgg227 Tryd.sizeOf227 rfl (I.at1 (o := 0) (vs := [(vi (K0.mk (x0.d7.i6.n : Int) (x0.d7.p8.n : Int)).fexprs), (vi (K0.mk (x0.d7.i6.n : Int) (x0.d7.p8.n : Int)).fconds)]) (nb rfl) rfl))) ?_
        refine a7 (Pu.g fun hb => by have f8 := hb; exact (c6B )) ?_
        refine a7 (Pu.g fun hb => by have f8 := hb; simp only [m9 f8]; exact (a4M _ _ _ _ _ _)) ?_
        refine a7 (L8 _ _) ?_
        exact hR (((decide (x0.d7.d6 = ⟨#[]⟩)) && (!(decide (0 < (IntKind.wrap .i64 ((x0.d7.G1.n : Int) + (x0.d7.E6.n : Int))))))) && (decide ((K0.mk (x0.d7.i6.n : Int) (x0.d7.p8.n : Int)).fexprs = 0 ∧ (K0.mk (x0.d7.i6.n : Int) (x0.d7.p8.n : Int)).fconds = 0))) H _ I.drop.drop h
       ·replace h := h.2 b5L
        exact hR false H _ I.drop.drop h
     refine z7 fun j1 hx1 => ?_
     refine a7 (i5 _ _ _ _ _ _) ?_
     refine h9 (fun a8c => ?_) (fun a8c => ?_)
     ·replace h := h.1 a8c
      exact hx1 _ _ (hj1 (decide (x0.d7.d5 = 5)) H _ ((M6.bring 1).bring 1) h)
     ·replace h := h.2 a8c
      refine a7 (i5 _ _ _ _ _ _) ?_
      exact hx1 _ _ (hj1 (decide (x0.d7.d5 = 6)) H _ ((M6.bring 1).bring 1) h)
theorem a8Q (x0 : I0) {H : Hp} {K : Bool → Hp → Prop} (h : V8 x0 H K) : a1j x0 H K := by
 intro w I
 refine e0b ?_
 refine a8g x0 I (fun r0 H' w' I' hk => ⟨H', _, I', r0, rfl, rfl, hk⟩) h
end Go.Proofs.YtnhkdkcgdcgmdaaDoor
