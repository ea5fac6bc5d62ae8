/- Typed formulas of the program's functions, and the theorems that the contracts follow from them; printed by lift.py off the code. -/
import Derived.Test.YtnhkdkcgdcgmdaaDoorzZV1
namespace Go.Proofs.YtnhkdkcgdcgmdaaDoor
open Go.RowKit
set_option maxRecDepth 100000
set_option maxHeartbeats 2000000
variable {w0 w : World} {ps0 : Nat → Prop} {H0 H : Hp} {R : RT} {E : Pan}
def o4 (t7 : Bool) (H : Hp) (K : Bool → Hp → Prop) : Prop :=
 (t7 = true →
 K true H) ∧
 (t7 = false →
 K false H)
def a2t (x0 : ByteArray) (H : Hp) (K : Bool → Hp → Prop) : Prop :=
 (x0 = ⟨#[118, 97, 114]⟩ →
 o4 (decide (x0 = ⟨#[118, 97, 114]⟩)) H K) ∧
 (¬ (x0 = ⟨#[118, 97, 114]⟩) →
 (x0 = ⟨#[97, 114, 114, 97, 121]⟩ →
 o4 (decide (x0 = ⟨#[97, 114, 114, 97, 121]⟩)) H K) ∧
 (¬ (x0 = ⟨#[97, 114, 114, 97, 121]⟩) →
 (x0 = ⟨#[105, 102]⟩ →
 o4 (decide (x0 = ⟨#[105, 102]⟩)) H K) ∧
 (¬ (x0 = ⟨#[105, 102]⟩) →
 (x0 = ⟨#[101, 108, 115, 101]⟩ →
 o4 (decide (x0 = ⟨#[101, 108, 115, 101]⟩)) H K) ∧
 (¬ (x0 = ⟨#[101, 108, 115, 101]⟩) →
 (x0 = ⟨#[119, 104, 105, 108, 101]⟩ →
 o4 (decide (x0 = ⟨#[119, 104, 105, 108, 101]⟩)) H K) ∧
 (¬ (x0 = ⟨#[119, 104, 105, 108, 101]⟩) →
 (x0 = ⟨#[97, 115, 115, 101, 114, 116]⟩ →
 o4 (decide (x0 = ⟨#[97, 115, 115, 101, 114, 116]⟩)) H K) ∧
 (¬ (x0 = ⟨#[97, 115, 115, 101, 114, 116]⟩) →
 (x0 = ⟨#[97, 115, 115, 117, 109, 101]⟩ →
 o4 (decide (x0 = ⟨#[97, 115, 115, 117, 109, 101]⟩)) H K) ∧
 (¬ (x0 = ⟨#[97, 115, 115, 117, 109, 101]⟩) →
 (x0 = ⟨#[115, 107, 105, 112]⟩ →
 o4 (decide (x0 = ⟨#[115, 107, 105, 112]⟩)) H K) ∧
 (¬ (x0 = ⟨#[115, 107, 105, 112]⟩) →
 (x0 = ⟨#[105, 110, 112, 117, 116]⟩ →
 o4 (decide (x0 = ⟨#[105, 110, 112, 117, 116]⟩)) H K) ∧
 (¬ (x0 = ⟨#[105, 110, 112, 117, 116]⟩) →
 (x0 = ⟨#[116, 114, 117, 101]⟩ →
 o4 (decide (x0 = ⟨#[116, 114, 117, 101]⟩)) H K) ∧
 (¬ (x0 = ⟨#[116, 114, 117, 101]⟩) →
 o4 (decide (x0 = ⟨#[102, 97, 108, 115, 101]⟩)) H K))))))))))
theorem b4a (x0 : ByteArray) {K : Bool → Hp → Prop} (I : Inv w0 ps0 H0 H [] w) (hR : ∀ (r0 : Bool) (H' : Hp) (w' : World) (_ : Inv w0 ps0 H0 H' [] w') (_ : K r0 H'), R (vB r0) w') (h : a2t x0 H K) : c8b (Value.string x0) w R E := by
 unfold a2t at h
 unfold c8b
 have hj1 : ∀ (t7 : Bool) (H : Hp) (w : World) (_ : Inv w0 ps0 H0 H [] w) (_ : o4 t7 H K), b9K (vB t7) w R E := by
  intro t7 H w I h
  unfold b9K
  intro _
  unfold o4 at h
  refine p5 (fun c_1 => ?_) (fun c_1 => ?_)
  ·replace h := h.1 c_1
   exact hR true H _ I h
  ·replace h := h.2 c_1
   exact hR false H _ I h
 refine A8 fun j1 hx1 => ?_
 refine a7 (a1d _ _ _ _ _) ?_
 refine j7 (fun a8N => ?_) (fun a8N => ?_)
 ·replace h := h.1 a8N
  exact hx1 _ _ (hj1 (decide (x0 = ⟨#[118, 97, 114]⟩)) H _ I h)
 ·replace h := h.2 a8N
  refine a7 (a1d _ _ _ _ _) ?_
  refine j7 (fun d4N => ?_) (fun d4N => ?_)
  ·replace h := h.1 d4N
   exact hx1 _ _ (hj1 (decide (x0 = ⟨#[97, 114, 114, 97, 121]⟩)) H _ I h)
  ·replace h := h.2 d4N
   refine a7 (a1d _ _ _ _ _) ?_
   refine j7 (fun c_9 => ?_) (fun c_9 => ?_)
   ·replace h := h.1 c_9
    exact hx1 _ _ (hj1 (decide (x0 = ⟨#[105, 102]⟩)) H _ I h)
   ·replace h := h.2 c_9
    refine a7 (a1d _ _ _ _ _) ?_
    refine j7 (fun c_8 => ?_) (fun c_8 => ?_)
    ·replace h := h.1 c_8
     exact hx1 _ _ (hj1 (decide (x0 = ⟨#[101, 108, 115, 101]⟩)) H _ I h)
    ·replace h := h.2 c_8
     refine a7 (a1d _ _ _ _ _) ?_
     refine j7 (fun c_7 => ?_) (fun c_7 => ?_)
     ·replace h := h.1 c_7
      exact hx1 _ _ (hj1 (decide (x0 = ⟨#[119, 104, 105, 108, 101]⟩)) H _ I h)
     ·replace h := h.2 c_7
      refine a7 (a1d _ _ _ _ _) ?_
      refine j7 (fun c_6 => ?_) (fun c_6 => ?_)
      ·replace h := h.1 c_6
       exact hx1 _ _ (hj1 (decide (x0 = ⟨#[97, 115, 115, 101, 114, 116]⟩)) H _ I h)
      ·replace h := h.2 c_6
       refine a7 (a1d _ _ _ _ _) ?_
       refine j7 (fun c_5 => ?_) (fun c_5 => ?_)
       ·replace h := h.1 c_5
        exact hx1 _ _ (hj1 (decide (x0 = ⟨#[97, 115, 115, 117, 109, 101]⟩)) H _ I h)
       ·replace h := h.2 c_5
        refine a7 (a1d _ _ _ _ _) ?_
        refine j7 (fun c_4 => ?_) (fun c_4 => ?_)
        ·replace h := h.1 c_4
         exact hx1 _ _ (hj1 (decide (x0 = ⟨#[115, 107, 105, 112]⟩)) H _ I h)
        ·replace h := h.2 c_4
         refine a7 (a1d _ _ _ _ _) ?_
         refine j7 (fun c_3 => ?_) (fun c_3 => ?_)
         ·replace h := h.1 c_3
          exact hx1 _ _ (hj1 (decide (x0 = ⟨#[105, 110, 112, 117, 116]⟩)) H _ I h)
         ·replace h := h.2 c_3
          refine a7 (a1d _ _ _ _ _) ?_
          refine j7 (fun c_2 => ?_) (fun c_2 => ?_)
          ·replace h := h.1 c_2
           exact hx1 _ _ (hj1 (decide (x0 = ⟨#[116, 114, 117, 101]⟩)) H _ I h)
          ·replace h := h.2 c_2
           refine a7 (a1d _ _ _ _ _) ?_
           exact hx1 _ _ (hj1 (decide (x0 = ⟨#[102, 97, 108, 115, 101]⟩)) H _ I h)
theorem b5R (x0 : ByteArray) {H : Hp} {K : Bool → Hp → Prop} (h : a2t x0 H K) : a1e x0 H K := by
 intro w I
 refine e0I ?_
 refine b4a x0 I (fun r0 H' w' I' hk => ⟨H', _, I', r0, rfl, rfl, hk⟩) h
def a1t (x0 : m3) (H : Hp) (K : a8 → Hp → Prop) : Prop :=
 K (a8.G2 (N7.mk x0)) H
theorem b1c (x0 : m3) {K : a8 → Hp → Prop} (I : Inv w0 ps0 H0 H [] w) (hR : ∀ (r0 : a8) (H' : Hp) (w' : World) (_ : Inv w0 ps0 H0 H' [] w') (_ : K r0 H'), R (u7 r0) w') (h : a1t x0 H K) : F89 (Value.agg (m7 x0).toArray) w R E := by
 unfold a1t at h
 unfold F89
 refine M5 I (cs := (m7 x0)) rfl fun g_2 w_3 I_4 k_5 => ?_
 refine d6 (ldA Tryd.isAgg58 Tryd.sizeOf58 rfl (I_4.at1 (o := 0) (vs := (m7 x0)) (nb rfl) rfl)) ?_
 refine a7 (c2E _ _) ?_
 refine a7 (b9A (N7.mk x0)) ?_
 exact hR (a8.G2 (N7.mk x0)) H _ I_4.drop h
theorem b2o (x0 : m3) {H : Hp} {K : a8 → Hp → Prop} (h : a1t x0 H K) : a5X x0 H K := by
 intro w I
 refine e7k ?_
 refine b1c x0 I (fun r0 H' w' I' hk => ⟨H', _, I', r0, rfl, rfl, hk⟩) h
def a1u (x0 : p6) (H : Hp) (K : a8 → Hp → Prop) : Prop :=
 K (a8.D5 (L2.mk x0)) H
theorem b1d (x0 : p6) {K : a8 → Hp → Prop} (I : Inv w0 ps0 H0 H [] w) (hR : ∀ (r0 : a8) (H' : Hp) (w' : World) (_ : Inv w0 ps0 H0 H' [] w') (_ : K r0 H'), R (u7 r0) w') (h : a1u x0 H K) : F91 (Value.agg (i5 x0).toArray) w R E := by
 unfold a1u at h
 unfold F91
 refine M5 I (cs := (i5 x0)) rfl fun g_2 w_3 I_4 k_5 => ?_
 refine d6 (ldA Tryd.isAgg63 Tryd.sizeOf63 rfl (I_4.at1 (o := 0) (vs := (i5 x0)) (nb rfl) rfl)) ?_
 refine a7 (c2F _ _ _ _ _ _ _ _ _ _ _ _ _ _) ?_
 refine a7 (b9B (L2.mk x0)) ?_
 exact hR (a8.D5 (L2.mk x0)) H _ I_4.drop h
theorem b2p (x0 : p6) {H : Hp} {K : a8 → Hp → Prop} (h : a1u x0 H K) : a5Y x0 H K := by
 intro w I
 refine e7o ?_
 refine b1d x0 I (fun r0 H' w' I' hk => ⟨H', _, I', r0, rfl, rfl, hk⟩) h
def a2u (x0 : C4) (H : Hp) (K : i7 → Hp → Prop) : Prop :=
 E3 x0.a4L H (fun (a6b : Sl) (H_8 : Hp) =>
 t1 x0.a6O H_8 (fun (a6c : Sl) (b3Z : Hp) =>
 ∀ (a6v : Sl) (a8L : Hp), Hle b3Z a8L → SlH a8L 1 csl a6v [a6b, a6c] → a6v.n ≤ a6v.c →
 A6 a6v a8L (fun (b5j : Sl) (c0j : Hp) =>
 a3d b5j c0j (fun (c8H : i7) (b2q : Hp) =>
 K c8H b2q))))
theorem b4b (x0 : C4) {K : i7 → Hp → Prop} (I : Inv w0 ps0 H0 H [] w) (hR : ∀ (r0 : i7) (gr0 : Nat) (H' : Hp) (w' : World) (_ : Inv w0 ps0 H0 H' [bx gr0 106 (a4j r0)] w') (_ : K r0 H'), R (Value.pointer (some ⟨gr0, 0, none⟩)) w') (h : a2u x0 H K) : F52 (Value.agg (q9 x0).toArray) w R E := by
 unfold a2u at h
 unfold F52
 refine M5 I (cs := (q9 x0)) rfl fun g_2 w_3 I_4 k_5 => ?_
 refine Z9 I_4 fun w_6 I_7 => ?_
 refine m4 a7C ?_
 refine m4 b1J ?_
 refine u9 (ld1 Tryd.isAgg41 (I_7.at1 (o := 0) (vs := [(vs x0.a4L)]) (nb rfl) rfl)) ?_
 refine u9 (ld1 Tryd.isAgg42 (I_7.at1 (o := 1) (vs := [(vs x0.a6O)]) (nb rfl) rfl)) ?_
 refine d8 (cap := []) (fun args w => Tryd.call88 args w) ?_
 refine m9 (Fi := []) (Fr := [bx g_2 44 (q9 x0)]) I_7 (h) (fun f0H H_8 d4H w_9 b2n f0I b6J c3U => ?_) (fun _ _ _ _ _ q => q.elim)
 obtain ⟨a6b, rfl, rfl, h⟩ := c3U
 refine ⟨(b6J _ I_7.lt1 (Inv.a5A (Fi := []) I_7)), ?_⟩
 refine d8 (cap := []) (fun args w => Tryd.call90 args w) ?_
 refine m9 (Fi := []) (Fr := [bx g_2 44 (q9 x0)]) b2n (h) (fun f0J b3Z f0K r7 a6d f0L b6K c3V => ?_) (fun _ _ _ _ _ q => q.elim)
 obtain ⟨a6c, rfl, rfl, h⟩ := c3V
 refine U6 (e := 124) (c := csl) (xs := [a6b, a6c]) a6d (c2D _ _ _ _ _ _) rfl rfl b4W b4X (nb rfl) fun a6v f0G d4I b6L b6B f0F => ?_
 obtain ⟨a8L, d4J, c3k, c3S, d4K⟩ := Inv.freezeC b6B b6L (by decide)
 replace h := h a6v a8L c3k c3S d4K
 refine d8 (cap := []) (fun args w => Tryd.call87 args w) ?_
 refine m9 (Fi := []) (Fr := [bx g_2 44 (q9 x0)]) d4J (h) (fun g4v c0j g4w d4L a6t g4x f0M d4M => ?_) (fun _ _ _ _ _ q => q.elim)
 obtain ⟨b5j, rfl, rfl, h⟩ := d4M
 refine d8 (cap := []) (fun args w => Tryd.call60 args w) ?_
 refine m9 (Fi := []) (Fr := [bx g_2 44 (q9 x0)]) a6t (h) (fun g8n b2q g8o L3 c3W g8p f0N g4y => ?_) (fun _ _ _ _ _ q => q.elim)
 obtain ⟨c8H, f0O, rfl, rfl, h⟩ := g4y
 exact hR c8H f0O b2q _ (c3W.bring 1).drop h
theorem b5S (x0 : C4) {H : Hp} {K : i7 → Hp → Prop} (h : a2u x0 H K) : a4H x0 H K := by
 intro w I
 refine e6G ?_
 refine b4b x0 I (fun r0 gr0 H' w' I' hk => ⟨H', _, I', r0, gr0, rfl, rfl, hk⟩) h
def B7 (g4z : Int) (b5k : Bool) (a1f : E5) (H : Hp) (K : Bool → Hp → Prop) : Prop :=
 (b5k = true →
 K (decide (g4z = 2)) H) ∧
 (b5k = false →
 K false H)
def K6 (c0k : Int) (a4o : Int) (b5l : Bool) (a4O : E5) (H : Hp) (K : Bool → Hp → Prop) : Prop :=
 (b5l = true →
 K (decide (c0k = 1)) H) ∧
 (b5l = false →
 (a4o = 6 →
 B7 c0k (decide (a4o = 6)) a4O H K) ∧
 (¬ (a4o = 6) →
 (a4o = 7 →
 B7 c0k (decide (a4o = 7)) a4O H K) ∧
 (¬ (a4o = 7) →
 (a4o = 8 →
 B7 c0k (decide (a4o = 8)) a4O H K) ∧
 (¬ (a4o = 8) →
 (a4o = 9 →
 B7 c0k (decide (a4o = 9)) a4O H K) ∧
 (¬ (a4o = 9) →
 B7 c0k (decide (a4o = 10)) a4O H K)))))
def K7 (b2r : Int) (a4p : Int) (b5m : Bool) (F0 : E5) (H : Hp) (K : Bool → Hp → Prop) : Prop :=
 (b5m = true →
 K (decide (b2r = 0)) H) ∧
 (b5m = false →
 (a4p = 4 →
 K6 b2r a4p (decide (a4p = 4)) F0 H K) ∧
 (¬ (a4p = 4) →
 K6 b2r a4p (decide (a4p = 5)) F0 H K))
def Y2 (x0 : E5) (H : Hp) (K : Bool → Hp → Prop) : Prop :=
 a0M (a8.C9 x0) H (fun (a0D : ByteArray) (c1J : Bool) (H_6 : Hp) =>
 ((((!decide (x0.m8.d9 = 1)) && (!decide (x0.m8.K2 = 0))) || ((!c1J) && (!decide (x0.m8.g7 = ⟨#[]⟩)))) = true →
 K false H_6) ∧
 ((((!decide (x0.m8.d9 = 1)) && (!decide (x0.m8.K2 = 0))) || ((!c1J) && (!decide (x0.m8.g7 = ⟨#[]⟩)))) = false →
 (x0.m8.d9 = 1 →
 K ((decide (0 ≤ x0.m8.K2)) && (decide ((x0.m8.A7.n : Int) = 0))) H_6) ∧
 (¬ (x0.m8.d9 = 1) →
 (x0.m8.d9 = 2 →
 K7 (x0.m8.A7.n : Int) x0.m8.d9 (decide (x0.m8.d9 = 2)) x0 H_6 K) ∧
 (¬ (x0.m8.d9 = 2) →
 K7 (x0.m8.A7.n : Int) x0.m8.d9 (decide (x0.m8.d9 = 3)) x0 H_6 K))))
theorem a8O (x0 : E5) {K : Bool → Hp → Prop} (I : Inv w0 ps0 H0 H [] w) (hR : ∀ (r0 : Bool) (H' : Hp) (w' : World) (_ : Inv w0 ps0 H0 H' [] w') (_ : K r0 H'), R (vB r0) w') (h : Y2 x0 H K) : c8i (Value.agg (d5 x0.m8).toArray) w R E := by
 unfold Y2 at h
 unfold c8i
 refine M5 I (cs := (d5 x0.m8)) rfl fun g_2 w_3 I_4 k_5 => ?_
 refine a7 V7 ?_
 refine a7 a4e ?_
 refine d6 (ld1 Tryd.isAgg22 (I_4.at1 (o := 3) (vs := [(vs x0.m8.A7)]) (nb rfl) rfl)) ?_
 refine a7 (a2O _ _ _) ?_
 refine d6 (ldA Tryd.isAgg123 Tryd.sizeOf123 rfl (I_4.at1 (o := 0) (vs := (d5 x0.m8)) (nb rfl) rfl)) ?_
 refine a7 (b0T x0) ?_
 refine d8 (cap := []) (fun args w => Tryd.call118 args w) ?_
 refine m9 (Fi := []) (Fr := [bx g_2 123 (d5 x0.m8)]) I_4 (h) (fun c8I H_6 c8J w_7 I_8 c8K k_9 b2s => ?_) (fun _ _ _ _ _ q => q.elim)
 obtain ⟨a0D, c1J, rfl, rfl, h⟩ := b2s
 refine a7 (o2 _ _ (Value.string a0D) rfl) ?_
 refine a7 (o2 _ _ (vB c1J) rfl) ?_
 refine a7 V7 ?_
 refine a7 W0 ?_
 refine d6 (ld1 Tryd.isAgg3 (I_8.at1 (o := 0) (vs := [(vi x0.m8.d9)]) (nb rfl) rfl)) ?_
 refine a7 (a1C _ _ _ _ _ _) ?_
 refine a7 (Pu.g fun hb => by have j9 := hb; exact V7) ?_
 refine a7 (Pu.g fun hb => by have j9 := hb; simp only [s6 j9]; exact a7A) ?_
 refine d6 (Ld.g fun hb => by have j9 := hb; simp only [s6 j9]; exact (ld1 Tryd.isAgg2 (I_8.at1 (o := 1) (vs := [(vi x0.m8.K2)]) (nb rfl) rfl))) ?_
 refine a7 (Pu.g fun hb => by have j9 := hb; simp only [s6 j9]; exact (a1C _ _ _ _ _ _)) ?_
 refine a7 (P7 _ _) ?_
 simp only [P6]
 refine a7 (Pu.g fun hb => by have j9 := hb; simp only [s6 j9]; exact (a1b _)) ?_
 simp only [d9a]
 refine a7 (Pu.e (a7V _ _ _) (Pu.g fun hb => by obtain ⟨j9, c3P⟩ := b4U hb; exact V7)) ?_
 refine a7 (Pu.e (a7V _ _ _) (Pu.g fun hb => by obtain ⟨j9, c3P⟩ := b4U hb; simp only [s6 hb]; exact a4g)) ?_
 refine d6 (Ld.e (a7V _ _ _) (Ld.g fun hb => by obtain ⟨j9, c3P⟩ := b4U hb; simp only [s6 hb]; exact (ld1 Tryd.isAgg9 (I_8.at1 (o := 2) (vs := [(Value.string x0.m8.g7)]) (nb rfl) rfl)))) ?_
 refine a7 (Pu.e (a7V _ _ _) (Pu.g fun hb => by obtain ⟨j9, c3P⟩ := b4U hb; simp only [s6 hb]; exact (e6s _ _ _ _ _))) ?_
 refine a7 (Pu.g fun hb => by have j9 := hb; simp only [s6 j9, d1i j9]; exact (P7 _ _)) ?_
 refine a7 (a1X _ _) ?_
 refine p5 (fun d4O => ?_) (fun d4O => ?_)
 ·replace h := h.1 d4O
  exact hR false H_6 _ I_8.drop h
 ·replace h := h.2 d4O
  refine a7 V7 ?_
  refine a7 W0 ?_
  refine d6 (ld1 Tryd.isAgg3 (I_8.at1 (o := 0) (vs := [(vi x0.m8.d9)]) (nb rfl) rfl)) ?_
  refine a7 (l0 _ _ _ _ _ _) ?_
  refine j7 (fun b6M => ?_) (fun b6M => ?_)
  ·replace h := h.1 b6M
   refine a7 V7 ?_
   refine a7 a7A ?_
   refine d6 (ld1 Tryd.isAgg2 (I_8.at1 (o := 1) (vs := [(vi x0.m8.K2)]) (nb rfl) rfl)) ?_
   refine a7 (b0P _ _ _ _ _ _) ?_
   simp only [P6]
   refine a7 (Pu.g fun hb => by have j9 := hb; simp only [s6 j9]; exact (l0 _ _ _ _ _ _)) ?_
   refine a7 (P7 _ _) ?_
   exact hR ((decide (0 ≤ x0.m8.K2)) && (decide ((x0.m8.A7.n : Int) = 0))) H_6 _ I_8.drop h
  ·replace h := h.2 b6M
   have hj1 : ∀ (b5m : Bool) (H : Hp) (w : World) (_ : Inv w0 ps0 H0 H [bx g_2 123 (d5 x0.m8)] w) (_ : K7 (x0.m8.A7.n : Int) x0.m8.d9 b5m x0 H K), b9U (vi (x0.m8.A7.n : Int)) (vi x0.m8.d9) (vB b5m) w R E := by
    intro b5m H w I h
    unfold b9U
    intro _
    unfold K7 at h
    refine p5 (fun d4P => ?_) (fun d4P => ?_)
    ·replace h := h.1 d4P
     refine a7 (l0 _ _ _ _ _ _) ?_
     exact hR (decide ((x0.m8.A7.n : Int) = 0)) H _ I.drop h
    ·replace h := h.2 d4P
     have hj2 : ∀ (b5l : Bool) (H : Hp) (w : World) (_ : Inv w0 ps0 H0 H [bx g_2 123 (d5 x0.m8)] w) (_ : K6 (x0.m8.A7.n : Int) x0.m8.d9 b5l x0 H K), b9T (vi (x0.m8.A7.n : Int)) (vi x0.m8.d9) (vB b5l) w R E := by
      intro b5l H w I h
      unfold b9T
      intro _
      unfold K6 at h
      refine p5 (fun a5i => ?_) (fun a5i => ?_)
      ·replace h := h.1 a5i
       refine a7 (l0 _ _ _ _ _ _) ?_
       exact hR (decide ((x0.m8.A7.n : Int) = 1)) H _ I.drop h
      ·replace h := h.2 a5i
       have hj3 : ∀ (b5k : Bool) (H : Hp) (w : World) (_ : Inv w0 ps0 H0 H [bx g_2 123 (d5 x0.m8)] w) (_ : B7 (x0.m8.A7.n : Int) b5k x0 H K), b9S (vi (x0.m8.A7.n : Int)) (vB b5k) w R E := by
        intro b5k H w I h
        unfold b9S
        intro _
        unfold B7 at h
        refine p5 (fun a5j => ?_) (fun a5j => ?_)
        ·replace h := h.1 a5j
         refine a7 (l0 _ _ _ _ _ _) ?_
         exact hR (decide ((x0.m8.A7.n : Int) = 2)) H _ I.drop h
        ·replace h := h.2 a5j
         exact hR false H _ I.drop h
       refine A8 fun j3 hx3 => ?_
       refine a7 (l0 _ _ _ _ _ _) ?_
       refine j7 (fun a8P => ?_) (fun a8P => ?_)
       ·replace h := h.1 a8P
        exact hx3 _ _ (hj3 (decide (x0.m8.d9 = 6)) H _ I h)
       ·replace h := h.2 a8P
        refine a7 (l0 _ _ _ _ _ _) ?_
        refine j7 (fun a8Q => ?_) (fun a8Q => ?_)
        ·replace h := h.1 a8Q
         exact hx3 _ _ (hj3 (decide (x0.m8.d9 = 7)) H _ I h)
        ·replace h := h.2 a8Q
         refine a7 (l0 _ _ _ _ _ _) ?_
         refine j7 (fun a8R => ?_) (fun a8R => ?_)
         ·replace h := h.1 a8R
          exact hx3 _ _ (hj3 (decide (x0.m8.d9 = 8)) H _ I h)
         ·replace h := h.2 a8R
          refine a7 (l0 _ _ _ _ _ _) ?_
          refine j7 (fun a8S => ?_) (fun a8S => ?_)
          ·replace h := h.1 a8S
           exact hx3 _ _ (hj3 (decide (x0.m8.d9 = 9)) H _ I h)
          ·replace h := h.2 a8S
           refine a7 (l0 _ _ _ _ _ _) ?_
           exact hx3 _ _ (hj3 (decide (x0.m8.d9 = 10)) H _ I h)
     refine A8 fun j2 hx2 => ?_
     refine a7 (l0 _ _ _ _ _ _) ?_
     refine j7 (fun a8T => ?_) (fun a8T => ?_)
     ·replace h := h.1 a8T
      exact hx2 _ _ (hj2 (decide (x0.m8.d9 = 4)) H _ I h)
     ·replace h := h.2 a8T
      refine a7 (l0 _ _ _ _ _ _) ?_
      exact hx2 _ _ (hj2 (decide (x0.m8.d9 = 5)) H _ I h)
   refine A8 fun j1 hx1 => ?_
   refine a7 (l0 _ _ _ _ _ _) ?_
   refine j7 (fun d4Q => ?_) (fun d4Q => ?_)
   ·replace h := h.1 d4Q
    exact hx1 _ _ (hj1 (decide (x0.m8.d9 = 2)) H_6 _ I_8 h)
   ·replace h := h.2 d4Q
    refine a7 (l0 _ _ _ _ _ _) ?_
    exact hx1 _ _ (hj1 (decide (x0.m8.d9 = 3)) H_6 _ I_8 h)
theorem a9G (x0 : E5) {H : Hp} {K : Bool → Hp → Prop} (h : Y2 x0 H K) : a1Q x0 H K := by
 intro w I
 refine e0V ?_
 refine a8O x0 I (fun r0 H' w' I' hk => ⟨H', _, I', r0, rfl, rfl, hk⟩) h
def K8 (b5n : Bool) (d2l : E1) (a4O : L1) (H : Hp) (K : Bool → Hp → Prop) : Prop :=
 (b5n = true →
 K (decide (d2l.fexprs = 0 ∧ d2l.fparts = 2)) H) ∧
 (b5n = false →
 K false H)
def K9 (a4p : Int) (b5o : Bool) (a3V : E1) (F0 : L1) (H : Hp) (K : Bool → Hp → Prop) : Prop :=
 (b5o = true →
 K (decide (a3V.fexprs = 0 ∧ a3V.fparts = 0)) H) ∧
 (b5o = false →
 (a4p = 4 →
 K (decide (a3V.fexprs = 0 ∧ a3V.fparts = 1)) H) ∧
 (¬ (a4p = 4) →
 (a4p = 5 →
 K8 (decide (a4p = 5)) a3V F0 H K) ∧
 (¬ (a4p = 5) →
 K8 (decide (a4p = 6)) a3V F0 H K)))
def Y3 (x0 : L1) (H : Hp) (K : Bool → Hp → Prop) : Prop :=
 (x0.m5.d9 = 3 →
 K (((decide (1 ≤ x0.m5.fOp)) && (decide (x0.m5.fOp ≤ 6))) && (decide ((x0.m5.m2.n : Int) = 2 ∧ (x0.m5.u5.n : Int) = 0))) H) ∧
 (¬ (x0.m5.d9 = 3) →
 (¬ (x0.m5.fOp = 0) →
 K false H) ∧
 (x0.m5.fOp = 0 →
 (x0.m5.d9 = 1 →
 K9 x0.m5.d9 (decide (x0.m5.d9 = 1)) (E1.mk (x0.m5.m2.n : Int) (x0.m5.u5.n : Int)) x0 H K) ∧
 (¬ (x0.m5.d9 = 1) →
 K9 x0.m5.d9 (decide (x0.m5.d9 = 2)) (E1.mk (x0.m5.m2.n : Int) (x0.m5.u5.n : Int)) x0 H K)))
theorem a8U (x0 : L1) {K : Bool → Hp → Prop} (I : Inv w0 ps0 H0 H [] w) (hR : ∀ (r0 : Bool) (H' : Hp) (w' : World) (_ : Inv w0 ps0 H0 H' [] w') (_ : K r0 H'), R (vB r0) w') (h : Y3 x0 H K) : c8m (Value.agg (g8 x0.m5).toArray) w R E := by
 unfold Y3 at h
 unfold c8m
 refine M5 I (cs := (g8 x0.m5)) rfl fun g_2 w_3 I_4 k_5 => ?_
 refine a7 a0C ?_
 refine a7 a5D ?_
 refine d6 (ld1 Tryd.isAgg22 (I_4.at1 (o := 2) (vs := [(vs x0.m5.m2)]) (nb rfl) rfl)) ?_
 refine a7 (a2O _ _ _) ?_
 refine a7 a0C ?_
 refine a7 a1Y ?_
 refine d6 (ld1 Tryd.isAgg25 (I_4.at1 (o := 3) (vs := [(vs x0.m5.u5)]) (nb rfl) rfl)) ?_
 refine a7 (a6U _ _ _) ?_
 refine a7 (a4i _ _) ?_
 refine u6 I_4 Tryd.zeroValue223 (cs := [(vi 0), (vi 0)]) rfl fun g_7 w_8 I_9 c3Q => ?_
 refine o7 I_9 Tryd.sizeOf223 (vs := [(vi (x0.m5.m2.n : Int)), (vi (x0.m5.u5.n : Int))]) (cs' := [(vi (x0.m5.m2.n : Int)), (vi (x0.m5.u5.n : Int))]) rfl rfl (nb rfl) rfl rfl fun a1i P5 b6z => ?_
 refine a7 a0C ?_
 refine a7 a5C ?_
 refine d6 (ld1 Tryd.isAgg3 ((P5.bring 1).at1 (o := 0) (vs := [(vi x0.m5.d9)]) (nb rfl) rfl)) ?_
 refine a7 (l0 _ _ _ _ _ _) ?_
 refine j7 (fun a5i => ?_) (fun a5i => ?_)
 ·replace h := h.1 a5i
  refine a7 a0C ?_
  refine a7 a7B ?_
  refine d6 (ld1 Tryd.isAgg3 ((P5.bring 1).at1 (o := 1) (vs := [(vi x0.m5.fOp)]) (nb rfl) rfl)) ?_
  refine a7 (b0P _ _ _ _ _ _) ?_
  refine a7 (Pu.g fun hb => by have j9 := hb; exact a0C) ?_
  refine a7 (Pu.g fun hb => by have j9 := hb; simp only [s6 j9]; exact a7B) ?_
  refine d6 (Ld.g fun hb => by have j9 := hb; simp only [s6 j9]; exact (ld1 Tryd.isAgg3 ((P5.bring 1).at1 (o := 1) (vs := [(vi x0.m5.fOp)]) (nb rfl) rfl))) ?_
  refine a7 (Pu.g fun hb => by have j9 := hb; simp only [s6 j9]; exact (b3r _ _ _ _ _ _)) ?_
  refine a7 (P7 _ _) ?_
  refine d6 (Ld.g fun hb => by have j9 := hb; exact (ldA Tryd.isAgg223 Tryd.sizeOf223 rfl (P5.at1 (o := 0) (vs := [(vi (x0.m5.m2.n : Int)), (vi (x0.m5.u5.n : Int))]) (nb rfl) rfl))) ?_
  refine a7 (Pu.g fun hb => by have j9 := hb; exact (a4i _ _)) ?_
  refine a7 (Pu.g fun hb => by have j9 := hb; simp only [s6 j9]; exact (a9V _ _ _ _ _ _)) ?_
  refine a7 (P7 _ _) ?_
  exact hR (((decide (1 ≤ x0.m5.fOp)) && (decide (x0.m5.fOp ≤ 6))) && (decide ((x0.m5.m2.n : Int) = 2 ∧ (x0.m5.u5.n : Int) = 0))) H _ P5.drop.drop h
 ·replace h := h.2 a5i
  refine a7 a0C ?_
  refine a7 a7B ?_
  refine d6 (ld1 Tryd.isAgg3 ((P5.bring 1).at1 (o := 1) (vs := [(vi x0.m5.fOp)]) (nb rfl) rfl)) ?_
  refine a7 (a1C _ _ _ _ _ _) ?_
  refine a6i (fun a8P => ?_) (fun a8P => ?_)
  ·replace h := h.1 a8P
   exact hR false H _ P5.drop.drop h
  ·replace h := h.2 a8P
   refine a7 a0C ?_
   refine a7 a5C ?_
   refine d6 (ld1 Tryd.isAgg3 ((P5.bring 1).at1 (o := 0) (vs := [(vi x0.m5.d9)]) (nb rfl) rfl)) ?_
   have hj1 : ∀ (b5o : Bool) (H : Hp) (w : World) (_ : Inv w0 ps0 H0 H [bx g_7 223 [(vi (E1.mk (x0.m5.m2.n : Int) (x0.m5.u5.n : Int)).fexprs), (vi (E1.mk (x0.m5.m2.n : Int) (x0.m5.u5.n : Int)).fparts)], bx g_2 138 (g8 x0.m5)] w) (_ : K9 x0.m5.d9 b5o (E1.mk (x0.m5.m2.n : Int) (x0.m5.u5.n : Int)) x0 H K), b9X (Value.pointer (some ⟨g_7, 0, none⟩)) (vi x0.m5.d9) (vB b5o) w R E := by
    intro b5o H w I h
    unfold b9X
    intro _
    unfold K9 at h
    refine p5 (fun a8R => ?_) (fun a8R => ?_)
    ·replace h := h.1 a8R
     refine d6 (ldA Tryd.isAgg223 Tryd.sizeOf223 rfl (I.at1 (o := 0) (vs := [(vi (E1.mk (x0.m5.m2.n : Int) (x0.m5.u5.n : Int)).fexprs), (vi (E1.mk (x0.m5.m2.n : Int) (x0.m5.u5.n : Int)).fparts)]) (nb rfl) rfl)) ?_
     refine a7 (c7U ) ?_
     refine a7 (a9V _ _ _ _ _ _) ?_
     exact hR (decide ((E1.mk (x0.m5.m2.n : Int) (x0.m5.u5.n : Int)).fexprs = 0 ∧ (E1.mk (x0.m5.m2.n : Int) (x0.m5.u5.n : Int)).fparts = 0)) H _ I.drop.drop h
    ·replace h := h.2 a8R
     refine a7 (l0 _ _ _ _ _ _) ?_
     refine j7 (fun a8S => ?_) (fun a8S => ?_)
     ·replace h := h.1 a8S
      refine d6 (ldA Tryd.isAgg223 Tryd.sizeOf223 rfl (I.at1 (o := 0) (vs := [(vi (E1.mk (x0.m5.m2.n : Int) (x0.m5.u5.n : Int)).fexprs), (vi (E1.mk (x0.m5.m2.n : Int) (x0.m5.u5.n : Int)).fparts)]) (nb rfl) rfl)) ?_
      refine a7 (a4i _ _) ?_
      refine a7 (a9V _ _ _ _ _ _) ?_
      exact hR (decide ((E1.mk (x0.m5.m2.n : Int) (x0.m5.u5.n : Int)).fexprs = 0 ∧ (E1.mk (x0.m5.m2.n : Int) (x0.m5.u5.n : Int)).fparts = 1)) H _ I.drop.drop h
     ·replace h := h.2 a8S
      have hj2 : ∀ (b5n : Bool) (H : Hp) (w : World) (_ : Inv w0 ps0 H0 H [bx g_7 223 [(vi (E1.mk (x0.m5.m2.n : Int) (x0.m5.u5.n : Int)).fexprs), (vi (E1.mk (x0.m5.m2.n : Int) (x0.m5.u5.n : Int)).fparts)], bx g_2 138 (g8 x0.m5)] w) (_ : K8 b5n (E1.mk (x0.m5.m2.n : Int) (x0.m5.u5.n : Int)) x0 H K), b9W (Value.pointer (some ⟨g_7, 0, none⟩)) (vB b5n) w R E := by
       intro b5n H w I h
       unfold b9W
       intro _
       unfold K8 at h
       refine p5 (fun b6N => ?_) (fun b6N => ?_)
       ·replace h := h.1 b6N
        refine d6 (ldA Tryd.isAgg223 Tryd.sizeOf223 rfl (I.at1 (o := 0) (vs := [(vi (E1.mk (x0.m5.m2.n : Int) (x0.m5.u5.n : Int)).fexprs), (vi (E1.mk (x0.m5.m2.n : Int) (x0.m5.u5.n : Int)).fparts)]) (nb rfl) rfl)) ?_
        refine a7 (a4i _ _) ?_
        refine a7 (a9V _ _ _ _ _ _) ?_
        exact hR (decide ((E1.mk (x0.m5.m2.n : Int) (x0.m5.u5.n : Int)).fexprs = 0 ∧ (E1.mk (x0.m5.m2.n : Int) (x0.m5.u5.n : Int)).fparts = 2)) H _ I.drop.drop h
       ·replace h := h.2 b6N
        exact hR false H _ I.drop.drop h
      refine A8 fun j2 hx2 => ?_
      refine a7 (l0 _ _ _ _ _ _) ?_
      refine j7 (fun a5j => ?_) (fun a5j => ?_)
      ·replace h := h.1 a5j
       exact hx2 _ _ (hj2 (decide (x0.m5.d9 = 5)) H _ ((I.bring 1).bring 1) h)
      ·replace h := h.2 a5j
       refine a7 (l0 _ _ _ _ _ _) ?_
       exact hx2 _ _ (hj2 (decide (x0.m5.d9 = 6)) H _ ((I.bring 1).bring 1) h)
   refine A8 fun j1 hx1 => ?_
   refine a7 (l0 _ _ _ _ _ _) ?_
   refine j7 (fun a8Q => ?_) (fun a8Q => ?_)
   ·replace h := h.1 a8Q
    exact hx1 _ _ (hj1 (decide (x0.m5.d9 = 1)) H _ ((P5.bring 1).bring 1) h)
   ·replace h := h.2 a8Q
    refine a7 (l0 _ _ _ _ _ _) ?_
    exact hx1 _ _ (hj1 (decide (x0.m5.d9 = 2)) H _ ((P5.bring 1).bring 1) h)
theorem a9H (x0 : L1) {H : Hp} {K : Bool → Hp → Prop} (h : Y3 x0 H K) : a1R x0 H K := by
 intro w I
 refine e1e ?_
 refine a8U x0 I (fun r0 H' w' I' hk => ⟨H', _, I', r0, rfl, rfl, hk⟩) h
def z8 (W6 : (List a8)) (H : Hp) (K : Sl → Hp → Prop) : Prop :=
 ∀ (E8 : Sl) (a0g : Hp), Hle H a0g → SlH a0g 1 p7 E8 W6 → E8.n ≤ E8.c →
 K E8 a0g
def A0 (a0V : Sl) (a0h : Int) (u0 : (List a8)) (r8 : Int) (H : Hp) (n2 : ((List a8) × Int) → Hp → Prop) (K : Sl → Hp → Prop) : Prop :=
 (r8 < a0h →
 (0 : Int) ≤ r8 ∧ (r8 : Int) < a0V.n ∧ ∃ x_1 : o8, EltH H a0V r8 4 (g8 x_1) ∧
 a6a x_1 H (fun (Q0 : a8) (a0i : Hp) =>
 (u0.length + ([Q0] : List a8).length) * 17 ≤ 140737488355328 ∧
 n2 ((u0 ++ [Q0]), (IntKind.wrap .i64 (r8 + 1))) a0i)) ∧
 (¬ (r8 < a0h) →
 z8 u0 H K)
def B3 (x0 : Sl) (H : Hp) (K : Sl → Hp → Prop) : Prop :=
 TL (([], 0) : (List a8) × Int) H fun (s : (List a8) × Int) H n2 => A0 x0 (x0.n : Int) s.1 s.2 H n2 K
theorem Z6 (x0 : Sl) {K : Sl → Hp → Prop} (I : Inv w0 ps0 H0 H [] w) (hR : ∀ (r0 : Sl) (H' : Hp) (w' : World) (_ : Inv w0 ps0 H0 H' [] w') (_ : K r0 H'), R (vs r0) w') (h : B3 x0 H K) : c8p (vs x0) (fC 176) w R E := by
 unfold B3 at h
 unfold c8p
 have hj1 : ∀ (W6 : (List a8)) (E8 : Sl) (Fs5j1 : Frag) (H : Hp) (w : World) (_ : RowL 152 1 p7 E8 W6 Fs5j1) (_ : Inv w0 ps0 H0 H [Fs5j1] w) (_ : z8 W6 H K), b9Y (vs E8) w R E := by
  intro W6 E8 Fs5j1 H w b2i I h
  unfold b9Y
  intro _
  unfold z8 at h
  obtain ⟨a0g, a6t, b3Y, a8K, b0A⟩ := Inv.freezeC I b2i (by decide)
  replace h := h E8 a0g b3Y a8K b0A
  exact hR E8 a0g _ a6t h
 refine A8 fun j1 hx1 => ?_
 refine a7 (a6U _ _ _) ?_
 obtain ⟨a5f, a1F, b6D, b6E⟩ := h
 refine M7 (J := fun n l w => ∃ (s : (List a8) × Int) (H : Hp) (W7 : Sl) (Fs5l2 : Frag) , n = a1F s ∧ l = (match s with | (u0, r8) => [(vs W7), (vi r8)]) ∧ (match s with | (u0, r8) => RowL 152 1 p7 W7 u0 Fs5l2) ∧ (match s with | (u0, r8) => Inv w0 ps0 H0 H [Fs5l2] w) ∧ a5f s H) ⟨_, ([], 0), H, (Sl.mk none 0 0), [], rfl, rfl, (RowL.nil M8 P1), I.nil, b6D⟩ ?_
 rintro d4G τ_50 w next2 ⟨⟨u0, r8⟩, H, W7, Fs5l2, rfl, a5g, a3h, I, b6F⟩ hn2
 dsimp only at a5g I a3h
 simp only [List.map_cons, List.map_nil, List.cons.injEq, and_true] at a5g
 obtain ⟨e5, e10⟩ := a5g
 simp only [e5, e10]
 obtain ⟨n2, hm2, h⟩ : ∃ n2 : ((List a8) × Int) → Hp → Prop, (∀ s' H', n2 s' H' → a5f s' H' ∧ a1F s' < a1F (u0, r8)) ∧ A0 x0 (x0.n : Int) u0 r8 H n2 K := ⟨_, fun _ _ h => h, b6E (u0, r8) H (fun s' H' => a5f s' H' ∧ a1F s' < a1F (u0, r8)) b6F (fun _ _ a b => ⟨a, b⟩)⟩
 unfold c6Z
 unfold A0 at h
 refine a7 (C5 _ _ _ _ _ _) ?_
 refine j7 (fun a3g => ?_) (fun a3g => ?_)
 ·replace h := h.1 a3g
  obtain ⟨h_4, h_5, x_1, h_7, h⟩ := h
  obtain ⟨g_2, o_3, h_6, h_7⟩ := h_7
  refine a7 (a2R h_6 _ _ _ _ h_4 h_5) ?_
  refine d6 (ldA (vs := (g8 x_1)) Tryd.isAgg27 Tryd.sizeOf27 rfl (I.atH h_7)) ?_
  refine u6 I Tryd.zeroValue27 (cs := [(vi 0), (vi 0), (nS), (nS)]) rfl fun g_9 o3 a3U b6G => ?_
  refine o7 a3U Tryd.sizeOf27 (vs := (g8 x_1)) (cs' := (g8 x_1)) rfl rfl (nb rfl) rfl rfl fun a0I N5 a1T => ?_
  refine d6 (ldA Tryd.isAgg27 Tryd.sizeOf27 rfl (N5.at1 (o := 0) (vs := (g8 x_1)) (nb rfl) rfl)) ?_
  refine d8 (cap := []) (fun args w => Tryd.call176 args w) ?_
  refine m9 (Fi := []) (Fr := [bx g_9 27 (g8 x_1), Fs5l2]) N5 (h) (fun c8C a0i c8D a2H a5e c0h c8E b2j => ?_) (fun _ _ _ _ _ q => q.elim)
  obtain ⟨Q0, rfl, rfl, h⟩ := b2j
  refine U6 (e := 152) (c := p7) (xs := [Q0]) a5e (b1L _) rfl rfl M8 P1 (nb rfl) fun c3T c0i C7 a5h a6u c8F => ?_
  obtain ⟨b2k, h⟩ := h
  refine b0U (s := W7) (xs := u0) (a6u.bring 2) a3h (a5h.srcO ((a6u.bring 2).bring 1)) b2k fun b6H b6I D1 b2e a7p c8G => ?_
  refine a7 (J0 _ _ _ _ _ _) ?_
  exact hn2 _ _ _ (hm2 _ _ h).2 ⟨((u0 ++ [Q0]), (IntKind.wrap .i64 (r8 + 1))), a0i, b6H, b6I, rfl, rfl, b2e, ((a7p.bring 1).drop.bring 1).drop, (hm2 _ _ h).1⟩
 ·replace h := h.2 a3g
  exact hx1 _ _ (hj1 u0 W7 Fs5l2 H _ a3h I h)
theorem a0l (x0 : Sl) {H : Hp} {K : Sl → Hp → Prop} (h : B3 x0 H K) : B0 x0 H K := by
 intro w I
 refine e1i ?_
 refine Z6 x0 I (fun r0 H' w' I' hk => ⟨H', _, I', r0, rfl, rfl, hk⟩) h
def Y4 (x0 : N7) (H : Hp) (K : Bool → Hp → Prop) : Prop :=
 K ((decide (0 ≤ x0.N8.E0)) && (decide (x0.N8.E0 ≤ 2147483647))) H
theorem a8V (x0 : N7) {K : Bool → Hp → Prop} (I : Inv w0 ps0 H0 H [] w) (hR : ∀ (r0 : Bool) (H' : Hp) (w' : World) (_ : Inv w0 ps0 H0 H' [] w') (_ : K r0 H'), R (vB r0) w') (h : Y4 x0 H K) : c8r (Value.agg (m7 x0.N8).toArray) w R E := by
 unfold Y4 at h
 unfold c8r
 refine M5 I (cs := (m7 x0.N8)) rfl fun g_2 w_3 I_4 k_5 => ?_
 refine a7 b0s ?_
 refine a7 a2S ?_
 refine d6 (ld1 Tryd.isAgg3 (I_4.at1 (o := 1) (vs := [(vi x0.N8.E0)]) (nb rfl) rfl)) ?_
 refine a7 (b0P _ _ _ _ _ _) ?_
 refine a7 (Pu.g fun hb => by have j9 := hb; exact b0s) ?_
 refine a7 (Pu.g fun hb => by have j9 := hb; simp only [s6 j9]; exact a2S) ?_
 refine d6 (Ld.g fun hb => by have j9 := hb; simp only [s6 j9]; exact (ld1 Tryd.isAgg3 (I_4.at1 (o := 1) (vs := [(vi x0.N8.E0)]) (nb rfl) rfl))) ?_
 refine a7 (Pu.g fun hb => by have j9 := hb; simp only [s6 j9]; exact (b3r _ _ _ _ _ _)) ?_
 refine a7 (P7 _ _) ?_
 exact hR ((decide (0 ≤ x0.N8.E0)) && (decide (x0.N8.E0 ≤ 2147483647))) H _ I_4.drop h
theorem a9I (x0 : N7) {H : Hp} {K : Bool → Hp → Prop} (h : Y4 x0 H K) : a4F x0 H K := by
 intro w I
 refine e1m ?_
 refine a8V x0 I (fun r0 H' w' I' hk => ⟨H', _, I', r0, rfl, rfl, hk⟩) h
def L0 (b2t : Bool) (d9f : Int) (b5p : Bool) (a3V : L5) (F0 : L2) (H : Hp) (K : Bool → Hp → Prop) : Prop :=
 (b5p = true →
 K (b2t && (decide (a3V.fexprs = 0 ∧ a3V.fconds = 1))) H) ∧
 (b5p = false →
 (d9f = 7 →
 K (b2t && (decide (a3V.fexprs = 0 ∧ a3V.fconds = 0))) H) ∧
 (¬ (d9f = 7) →
 K false H))
def Y5 (x0 : L2) (H : Hp) (K : Bool → Hp → Prop) : Prop :=
 (x0.i2.d9 = 1 →
 K ((!(decide (0 < (IntKind.wrap .i64 ((x0.i2.K1.n : Int) + (x0.i2.G8.n : Int)))))) && (decide ((x0.i2.m2.n : Int) = 1 ∧ (x0.i2.s8.n : Int) = 0))) H) ∧
 (¬ (x0.i2.d9 = 1) →
 (x0.i2.d9 = 2 →
 K ((!(decide (0 < (IntKind.wrap .i64 ((x0.i2.K1.n : Int) + (x0.i2.G8.n : Int)))))) && (decide ((x0.i2.m2.n : Int) = 2 ∧ (x0.i2.s8.n : Int) = 0))) H) ∧
 (¬ (x0.i2.d9 = 2) →
 (x0.i2.d9 = 3 →
 K ((decide (x0.i2.g7 = ⟨#[]⟩)) && (decide ((x0.i2.m2.n : Int) = 0 ∧ (x0.i2.s8.n : Int) = 1))) H) ∧
 (¬ (x0.i2.d9 = 3) →
 (x0.i2.d9 = 4 →
 K (((decide (x0.i2.g7 = ⟨#[]⟩)) && (decide ((x0.i2.G8.n : Int) = 0))) && (decide ((x0.i2.m2.n : Int) = 0 ∧ (x0.i2.s8.n : Int) = 1))) H) ∧
 (¬ (x0.i2.d9 = 4) →
 (x0.i2.d9 = 5 →
 L0 ((decide (x0.i2.g7 = ⟨#[]⟩)) && (!(decide (0 < (IntKind.wrap .i64 ((x0.i2.K1.n : Int) + (x0.i2.G8.n : Int))))))) x0.i2.d9 (decide (x0.i2.d9 = 5)) (L5.mk (x0.i2.m2.n : Int) (x0.i2.s8.n : Int)) x0 H K) ∧
 (¬ (x0.i2.d9 = 5) →
 L0 ((decide (x0.i2.g7 = ⟨#[]⟩)) && (!(decide (0 < (IntKind.wrap .i64 ((x0.i2.K1.n : Int) + (x0.i2.G8.n : Int))))))) x0.i2.d9 (decide (x0.i2.d9 = 6)) (L5.mk (x0.i2.m2.n : Int) (x0.i2.s8.n : Int)) x0 H K)))))
theorem a8W (x0 : L2) {K : Bool → Hp → Prop} (I : Inv w0 ps0 H0 H [] w) (hR : ∀ (r0 : Bool) (H' : Hp) (w' : World) (_ : Inv w0 ps0 H0 H' [] w') (_ : K r0 H'), R (vB r0) w') (h : Y5 x0 H K) : c8t (Value.agg (i5 x0.i2).toArray) w R E := by
 unfold Y5 at h
 unfold c8t
 refine M5 I (cs := (i5 x0.i2)) rfl fun g_2 w_3 I_4 k_5 => ?_
 refine a7 K3 ?_
 refine a7 a5H ?_
 refine d6 (ld1 Tryd.isAgg42 (I_4.at1 (o := 4) (vs := [(vs x0.i2.K1)]) (nb rfl) rfl)) ?_
 refine a7 (a5s _ _ _) ?_
 refine a7 K3 ?_
 refine a7 a5I ?_
 refine d6 (ld1 Tryd.isAgg42 (I_4.at1 (o := 5) (vs := [(vs x0.i2.G8)]) (nb rfl) rfl)) ?_
 refine a7 (a5s _ _ _) ?_
 refine a7 (J0 _ _ _ _ _ _) ?_
 refine a7 (a1W _ _ _ _ _ _) ?_
 refine a7 K3 ?_
 refine a7 a5G ?_
 refine d6 (ld1 Tryd.isAgg22 (I_4.at1 (o := 2) (vs := [(vs x0.i2.m2)]) (nb rfl) rfl)) ?_
 refine a7 (a2O _ _ _) ?_
 refine a7 K3 ?_
 refine a7 a7D ?_
 refine d6 (ld1 Tryd.isAgg25 (I_4.at1 (o := 3) (vs := [(vs x0.i2.s8)]) (nb rfl) rfl)) ?_
 refine a7 (a6U _ _ _) ?_
 refine a7 (a1z _ _) ?_
 refine u6 I_4 Tryd.zeroValue227 (cs := [(vi 0), (vi 0)]) rfl fun g_7 w_8 I_9 c3Q => ?_
 refine o7 I_9 Tryd.sizeOf227 (vs := [(vi (x0.i2.m2.n : Int)), (vi (x0.i2.s8.n : Int))]) (cs' := [(vi (x0.i2.m2.n : Int)), (vi (x0.i2.s8.n : Int))]) rfl rfl (nb rfl) rfl rfl fun a1i P5 b6z => ?_
 refine a7 K3 ?_
 refine a7 a1Z ?_
 refine d6 (ld1 Tryd.isAgg9 ((P5.bring 1).at1 (o := 1) (vs := [(Value.string x0.i2.g7)]) (nb rfl) rfl)) ?_
 refine a7 (a1d _ _ _ _ _) ?_
 simp only [P6]
 refine a7 (Pu.g fun hb => by have j9 := hb; simp only [s6 j9]; exact (a1b _)) ?_
 refine a7 (P7 _ _) ?_
 refine a7 K3 ?_
 refine a7 a5F ?_
 refine d6 (ld1 Tryd.isAgg3 ((P5.bring 1).at1 (o := 0) (vs := [(vi x0.i2.d9)]) (nb rfl) rfl)) ?_
 refine a7 (l0 _ _ _ _ _ _) ?_
 refine j7 (fun a5i => ?_) (fun a5i => ?_)
 ·replace h := h.1 a5i
  refine a7 (a1b _) ?_
  refine d6 (Ld.g fun hb => by have j9 := hb; exact (ldA Tryd.isAgg227 Tryd.sizeOf227 rfl (P5.at1 (o := 0) (vs := [(vi (x0.i2.m2.n : Int)), (vi (x0.i2.s8.n : Int))]) (nb rfl) rfl))) ?_
  refine a7 (Pu.g fun hb => by have j9 := hb; exact (a1z _ _)) ?_
  refine a7 (Pu.g fun hb => by have j9 := hb; simp only [s6 j9]; exact (a5t _ _ _ _ _ _)) ?_
  refine a7 (P7 _ _) ?_
  exact hR ((!(decide (0 < (IntKind.wrap .i64 ((x0.i2.K1.n : Int) + (x0.i2.G8.n : Int)))))) && (decide ((x0.i2.m2.n : Int) = 1 ∧ (x0.i2.s8.n : Int) = 0))) H _ P5.drop.drop h
 ·replace h := h.2 a5i
  refine a7 (l0 _ _ _ _ _ _) ?_
  refine j7 (fun a8P => ?_) (fun a8P => ?_)
  ·replace h := h.1 a8P
   refine a7 (a1b _) ?_
   refine d6 (Ld.g fun hb => by have j9 := hb; exact (ldA Tryd.isAgg227 Tryd.sizeOf227 rfl (P5.at1 (o := 0) (vs := [(vi (x0.i2.m2.n : Int)), (vi (x0.i2.s8.n : Int))]) (nb rfl) rfl))) ?_
   refine a7 (Pu.g fun hb => by have j9 := hb; exact (a1z _ _)) ?_
   refine a7 (Pu.g fun hb => by have j9 := hb; simp only [s6 j9]; exact (a5t _ _ _ _ _ _)) ?_
   refine a7 (P7 _ _) ?_
   exact hR ((!(decide (0 < (IntKind.wrap .i64 ((x0.i2.K1.n : Int) + (x0.i2.G8.n : Int)))))) && (decide ((x0.i2.m2.n : Int) = 2 ∧ (x0.i2.s8.n : Int) = 0))) H _ P5.drop.drop h
  ·replace h := h.2 a8P
   refine a7 (l0 _ _ _ _ _ _) ?_
   refine j7 (fun a8Q => ?_) (fun a8Q => ?_)
   ·replace h := h.1 a8Q
    refine a7 K3 ?_
    refine a7 a1Z ?_
    refine d6 (ld1 Tryd.isAgg9 ((P5.bring 1).at1 (o := 1) (vs := [(Value.string x0.i2.g7)]) (nb rfl) rfl)) ?_
    refine a7 (a1d _ _ _ _ _) ?_
    refine d6 (Ld.g fun hb => by have j9 := hb; exact (ldA Tryd.isAgg227 Tryd.sizeOf227 rfl (P5.at1 (o := 0) (vs := [(vi (x0.i2.m2.n : Int)), (vi (x0.i2.s8.n : Int))]) (nb rfl) rfl))) ?_
    refine a7 (Pu.g fun hb => by have j9 := hb; exact (a1z _ _)) ?_
    refine a7 (Pu.g fun hb => by have j9 := hb; simp only [s6 j9]; exact (a5t _ _ _ _ _ _)) ?_
    refine a7 (P7 _ _) ?_
    exact hR ((decide (x0.i2.g7 = ⟨#[]⟩)) && (decide ((x0.i2.m2.n : Int) = 0 ∧ (x0.i2.s8.n : Int) = 1))) H _ P5.drop.drop h
   ·replace h := h.2 a8Q
    refine a7 (l0 _ _ _ _ _ _) ?_
    refine j7 (fun a8R => ?_) (fun a8R => ?_)
    ·replace h := h.1 a8R
     refine a7 K3 ?_
     refine a7 a1Z ?_
     refine d6 (ld1 Tryd.isAgg9 ((P5.bring 1).at1 (o := 1) (vs := [(Value.string x0.i2.g7)]) (nb rfl) rfl)) ?_
     refine a7 (a1d _ _ _ _ _) ?_
     refine a7 (Pu.g fun hb => by have j9 := hb; exact K3) ?_
     refine a7 (Pu.g fun hb => by have j9 := hb; simp only [s6 j9]; exact a5I) ?_
     refine d6 (Ld.g fun hb => by have j9 := hb; simp only [s6 j9]; exact (ld1 Tryd.isAgg42 ((P5.bring 1).at1 (o := 5) (vs := [(vs x0.i2.G8)]) (nb rfl) rfl))) ?_
     refine a7 (Pu.g fun hb => by have j9 := hb; simp only [s6 j9]; exact (a5s _ _ _)) ?_
     refine a7 (Pu.g fun hb => by have j9 := hb; simp only [s6 j9]; exact (l0 _ _ _ _ _ _)) ?_
     refine a7 (P7 _ _) ?_
     refine d6 (Ld.g fun hb => by have j9 := hb; exact (ldA Tryd.isAgg227 Tryd.sizeOf227 rfl (P5.at1 (o := 0) (vs := [(vi (x0.i2.m2.n : Int)), (vi (x0.i2.s8.n : Int))]) (nb rfl) rfl))) ?_
     refine a7 (Pu.g fun hb => by have j9 := hb; exact (a1z _ _)) ?_
     refine a7 (Pu.g fun hb => by have j9 := hb; simp only [s6 j9]; exact (a5t _ _ _ _ _ _)) ?_
     refine a7 (P7 _ _) ?_
     exact hR (((decide (x0.i2.g7 = ⟨#[]⟩)) && (decide ((x0.i2.G8.n : Int) = 0))) && (decide ((x0.i2.m2.n : Int) = 0 ∧ (x0.i2.s8.n : Int) = 1))) H _ P5.drop.drop h
    ·replace h := h.2 a8R
     have hj1 : ∀ (b5p : Bool) (H : Hp) (w : World) (_ : Inv w0 ps0 H0 H [bx g_7 227 [(vi (L5.mk (x0.i2.m2.n : Int) (x0.i2.s8.n : Int)).fexprs), (vi (L5.mk (x0.i2.m2.n : Int) (x0.i2.s8.n : Int)).fconds)], bx g_2 179 (i5 x0.i2)] w) (_ : L0 ((decide (x0.i2.g7 = ⟨#[]⟩)) && (!(decide (0 < (IntKind.wrap .i64 ((x0.i2.K1.n : Int) + (x0.i2.G8.n : Int))))))) x0.i2.d9 b5p (L5.mk (x0.i2.m2.n : Int) (x0.i2.s8.n : Int)) x0 H K), b9Z (Value.pointer (some ⟨g_7, 0, none⟩)) (vB ((decide (x0.i2.g7 = ⟨#[]⟩)) && (!(decide (0 < (IntKind.wrap .i64 ((x0.i2.K1.n : Int) + (x0.i2.G8.n : Int)))))))) (vi x0.i2.d9) (vB b5p) w R E := by
      intro b5p H w I h
      unfold b9Z
      intro _
      unfold L0 at h
      refine p5 (fun a5j => ?_) (fun a5j => ?_)
      ·replace h := h.1 a5j
       refine d6 (Ld.g fun hb => by have j9 := hb; exact (ldA Tryd.isAgg227 Tryd.sizeOf227 rfl (I.at1 (o := 0) (vs := [(vi (L5.mk (x0.i2.m2.n : Int) (x0.i2.s8.n : Int)).fexprs), (vi (L5.mk (x0.i2.m2.n : Int) (x0.i2.s8.n : Int)).fconds)]) (nb rfl) rfl))) ?_
       refine a7 (Pu.g fun hb => by have j9 := hb; exact (a1z _ _)) ?_
       refine a7 (Pu.g fun hb => by have j9 := hb; simp only [s6 j9]; exact (a5t _ _ _ _ _ _)) ?_
       refine a7 (P7 _ _) ?_
       exact hR (((decide (x0.i2.g7 = ⟨#[]⟩)) && (!(decide (0 < (IntKind.wrap .i64 ((x0.i2.K1.n : Int) + (x0.i2.G8.n : Int))))))) && (decide ((L5.mk (x0.i2.m2.n : Int) (x0.i2.s8.n : Int)).fexprs = 0 ∧ (L5.mk (x0.i2.m2.n : Int) (x0.i2.s8.n : Int)).fconds = 1))) H _ I.drop.drop h
      ·replace h := h.2 a5j
       refine a7 (l0 _ _ _ _ _ _) ?_
       refine j7 (fun b6N => ?_) (fun b6N => ?_)
       ·replace h := h.1 b6N
        refine d6 (Ld.g fun hb => by have j9 := hb; exact (ldA Tryd.isAgg227 Tryd.sizeOf227 rfl (I.at1 (o := 0) (vs := [(vi (L5.mk (x0.i2.m2.n : Int) (x0.i2.s8.n : Int)).fexprs), (vi (L5.mk (x0.i2.m2.n : Int) (x0.i2.s8.n : Int)).fconds)]) (nb rfl) rfl))) ?_
        refine a7 (Pu.g fun hb => by have j9 := hb; exact (c7V )) ?_
        refine a7 (Pu.g fun hb => by have j9 := hb; simp only [s6 j9]; exact (a5t _ _ _ _ _ _)) ?_
        refine a7 (P7 _ _) ?_
        exact hR (((decide (x0.i2.g7 = ⟨#[]⟩)) && (!(decide (0 < (IntKind.wrap .i64 ((x0.i2.K1.n : Int) + (x0.i2.G8.n : Int))))))) && (decide ((L5.mk (x0.i2.m2.n : Int) (x0.i2.s8.n : Int)).fexprs = 0 ∧ (L5.mk (x0.i2.m2.n : Int) (x0.i2.s8.n : Int)).fconds = 0))) H _ I.drop.drop h
       ·replace h := h.2 b6N
        exact hR false H _ I.drop.drop h
     refine A8 fun j1 hx1 => ?_
     refine a7 (l0 _ _ _ _ _ _) ?_
     refine j7 (fun a8S => ?_) (fun a8S => ?_)
     ·replace h := h.1 a8S
      exact hx1 _ _ (hj1 (decide (x0.i2.d9 = 5)) H _ ((P5.bring 1).bring 1) h)
     ·replace h := h.2 a8S
      refine a7 (l0 _ _ _ _ _ _) ?_
      exact hx1 _ _ (hj1 (decide (x0.i2.d9 = 6)) H _ ((P5.bring 1).bring 1) h)
theorem a9J (x0 : L2) {H : Hp} {K : Bool → Hp → Prop} (h : Y5 x0 H K) : a1S x0 H K := by
 intro w I
 refine e1P ?_
 refine a8W x0 I (fun r0 H' w' I' hk => ⟨H', _, I', r0, rfl, rfl, hk⟩) h
end Go.Proofs.YtnhkdkcgdcgmdaaDoor
