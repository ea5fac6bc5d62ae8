/- Typed formulas of the program's functions that few laws need; printed by lift.py off the code. -/
import Derived.Test.YtnhkdkcgdcgmdaaGreatDoorzFV1
import Derived.Test.YtnhkdkcgdcgmdaaGreatDoorzFG1r
namespace Go.Proofs.YtnhkdkcgdcgmdaaGreatDoor
open Go.RowKit
set_option maxRecDepth 100000
set_option maxHeartbeats 2000000
variable {w0 w : World} {ps0 : Nat → Prop} {H0 H : Hp} {R : RT} {E : Pan}
def b1A (x0 : Int) (x1 : Int) (H : Hp) (K : Int → Int → Hp → Prop) : Prop :=
 ((((decide (x0 < 0)) != (decide (x1 < 0))) && ((decide ((IntKind.wrap .i64 (x0 - x1)) < 0)) != (decide (x0 < 0)))) = true →
 K 0 1 H) ∧
 ((((decide (x0 < 0)) != (decide (x1 < 0))) && ((decide ((IntKind.wrap .i64 (x0 - x1)) < 0)) != (decide (x0 < 0)))) = false →
 K (IntKind.wrap .i64 (x0 - x1)) 0 H)
theorem d1u (x0 : Int) (x1 : Int) {K : Int → Int → Hp → Prop} (I : Inv w0 ps0 H0 H [] w) (hR : ∀ (r0 : Int) (r1 : Int) (H' : Hp) (w' : World) (_ : Inv w0 ps0 H0 H' [] w') (_ : K r0 r1 H'), R (Value.tuple #[(vi r0), (vi r1)]) w') (h : b1A x0 x1 H K) : f1B (vi x0) (vi x1) w R E := by
 unfold b1A at h
 unfold f1B
 refine a7 (b2r _ _ _ _ _ _) ?_
 refine a7 (w9 _ _ _ _ _ _) ?_
 refine a7 (w9 _ _ _ _ _ _) ?_
 refine a7 (c5u _ _ _ _) ?_
 simp only [u5]
 refine a7 (Pu.g fun hb => by have b9 := hb; simp only [i7 b9]; exact (w9 _ _ _ _ _ _)) ?_
 refine a7 (Pu.g fun hb => by have b9 := hb; simp only [i7 b9]; exact (w9 _ _ _ _ _ _)) ?_
 refine a7 (Pu.g fun hb => by have b9 := hb; simp only [i7 b9]; exact (c5u _ _ _ _)) ?_
 refine a7 (s7 _ _) ?_
 refine o0 (fun c_1 => ?_) (fun c_1 => ?_)
 ·replace h := h.1 c_1
  exact hR 0 1 H _ I h
 ·replace h := h.2 c_1
  exact hR (IntKind.wrap .i64 (x0 - x1)) 0 H _ I h
theorem d3f (x0 : Int) (x1 : Int) {H : Hp} {K : Int → Int → Hp → Prop} (h : b1A x0 x1 H K) : a8G x0 x1 H K := by
 intro w I
 refine h1c ?_
 refine d1u x0 x1 I (fun r0 r1 H' w' I' hk => ⟨H', _, I', r0, r1, rfl, rfl, hk⟩) h
def b1B (x0 : Int) (H : Hp) (K : Int → Int → Hp → Prop) : Prop :=
 a8G 0 x0 H (fun (B2 : Int) (b6j : Int) (H_1 : Hp) =>
 K B2 b6j H_1)
theorem d1v (x0 : Int) {K : Int → Int → Hp → Prop} (I : Inv w0 ps0 H0 H [] w) (hR : ∀ (r0 : Int) (r1 : Int) (H' : Hp) (w' : World) (_ : Inv w0 ps0 H0 H' [] w') (_ : K r0 r1 H'), R (Value.tuple #[(vi r0), (vi r1)]) w') (h : b1B x0 H K) : f1z (vi x0) w R E := by
 unfold b1B at h
 unfold f1z
 refine g9 (cap := []) (fun args w => Tryz.call114 args w) ?_
 refine l7 (Fi := []) (Fr := []) I (h) (fun v_5 H_1 F_6 w_2 I_3 l_8 k_4 q_7 => ?_) (fun _ _ _ _ _ q => q.elim)
 obtain ⟨B2, b6j, rfl, rfl, h⟩ := q_7
 refine a7 (o2 _ _ (vi B2) rfl) ?_
 refine a7 (o2 _ _ (vi b6j) rfl) ?_
 exact hR B2 b6j H_1 _ I_3 h
theorem d3g (x0 : Int) {H : Hp} {K : Int → Int → Hp → Prop} (h : b1B x0 H K) : b1j x0 H K := by
 intro w I
 refine h0Y ?_
 refine d1v x0 I (fun r0 r1 H' w' I' hk => ⟨H', _, I', r0, r1, rfl, rfl, hk⟩) h
def b1C (x0 : Int) (x1 : Int) (H : Hp) (K : Int → Int → Hp → Prop) : Prop :=
 ((((decide (x0 < 0)) == (decide (x1 < 0))) && ((decide ((IntKind.wrap .i64 (x0 + x1)) < 0)) != (decide (x0 < 0)))) = true →
 K 0 1 H) ∧
 ((((decide (x0 < 0)) == (decide (x1 < 0))) && ((decide ((IntKind.wrap .i64 (x0 + x1)) < 0)) != (decide (x0 < 0)))) = false →
 K (IntKind.wrap .i64 (x0 + x1)) 0 H)
theorem d1w (x0 : Int) (x1 : Int) {K : Int → Int → Hp → Prop} (I : Inv w0 ps0 H0 H [] w) (hR : ∀ (r0 : Int) (r1 : Int) (H' : Hp) (w' : World) (_ : Inv w0 ps0 H0 H' [] w') (_ : K r0 r1 H'), R (Value.tuple #[(vi r0), (vi r1)]) w') (h : b1C x0 x1 H K) : f1A (vi x0) (vi x1) w R E := by
 unfold b1C at h
 unfold f1A
 refine a7 (y6 _ _ _ _ _ _) ?_
 refine a7 (w9 _ _ _ _ _ _) ?_
 refine a7 (w9 _ _ _ _ _ _) ?_
 refine a7 (f8D _ _ _ _) ?_
 simp only [u5]
 refine a7 (Pu.g fun hb => by have b9 := hb; simp only [i7 b9]; exact (w9 _ _ _ _ _ _)) ?_
 refine a7 (Pu.g fun hb => by have b9 := hb; simp only [i7 b9]; exact (w9 _ _ _ _ _ _)) ?_
 refine a7 (Pu.g fun hb => by have b9 := hb; simp only [i7 b9]; exact (c5u _ _ _ _)) ?_
 refine a7 (s7 _ _) ?_
 refine o0 (fun c_1 => ?_) (fun c_1 => ?_)
 ·replace h := h.1 c_1
  exact hR 0 1 H _ I h
 ·replace h := h.2 c_1
  exact hR (IntKind.wrap .i64 (x0 + x1)) 0 H _ I h
theorem d3h (x0 : Int) (x1 : Int) {H : Hp} {K : Int → Int → Hp → Prop} (h : b1C x0 x1 H K) : b1k x0 x1 H K := by
 intro w I
 refine h1a ?_
 refine d1w x0 x1 I (fun r0 r1 H' w' I' hk => ⟨H', _, I', r0, r1, rfl, rfl, hk⟩) h
def b0w (x0 : Int) (H : Hp) (K : Int → Hp → Prop) : Prop :=
 (x0 < 0 →
 K (IntKind.wrap .u64 (0 - (IntKind.wrap .u64 x0))) H) ∧
 (¬ (x0 < 0) →
 K (IntKind.wrap .u64 x0) H)
theorem c9A (x0 : Int) {K : Int → Hp → Prop} (I : Inv w0 ps0 H0 H [] w) (hR : ∀ (r0 : Int) (H' : Hp) (w' : World) (_ : Inv w0 ps0 H0 H' [] w') (_ : K r0 H'), R (Value.int .u64 r0) w') (h : b0w x0 H K) : f1N (vi x0) w R E := by
 unfold b0w at h
 unfold f1N
 refine a7 (w9 _ _ _ _ _ _) ?_
 refine k7 (fun c_1 => ?_) (fun c_1 => ?_)
 ·replace h := h.1 c_1
  refine a7 (d1J _ _) ?_
  refine a7 (c4m _ _) ?_
  exact hR (IntKind.wrap .u64 (0 - (IntKind.wrap .u64 x0))) H _ I h
 ·replace h := h.2 c_1
  refine a7 (d1J _ _) ?_
  exact hR (IntKind.wrap .u64 x0) H _ I h
theorem d1x (x0 : Int) {H : Hp} {K : Int → Hp → Prop} (h : b0w x0 H K) : b0n x0 H K := by
 intro w I
 refine h1A ?_
 refine c9A x0 I (fun r0 H' w' I' hk => ⟨H', _, I', r0, rfl, rfl, hk⟩) h
def b0x (x0 : Int) (x1 : Int) (H : Hp) (K : Int → Int → Hp → Prop) : Prop :=
 K (IntKind.wrap .u64 ((IntKind.wrap .u64 ((IntKind.wrap .u64 ((Int.fdiv x0 (2 ^ 32)) * (Int.fdiv x1 (2 ^ 32)))) + (Int.fdiv (IntKind.wrap .u64 ((IntKind.wrap .u64 ((Int.fdiv x0 (2 ^ 32)) * (bandI .u64 x1 4294967295))) + (Int.fdiv (IntKind.wrap .u64 ((bandI .u64 x0 4294967295) * (bandI .u64 x1 4294967295))) (2 ^ 32)))) (2 ^ 32)))) + (Int.fdiv (IntKind.wrap .u64 ((bandI .u64 (IntKind.wrap .u64 ((IntKind.wrap .u64 ((Int.fdiv x0 (2 ^ 32)) * (bandI .u64 x1 4294967295))) + (Int.fdiv (IntKind.wrap .u64 ((bandI .u64 x0 4294967295) * (bandI .u64 x1 4294967295))) (2 ^ 32)))) 4294967295) + (IntKind.wrap .u64 ((bandI .u64 x0 4294967295) * (Int.fdiv x1 (2 ^ 32)))))) (2 ^ 32)))) (IntKind.wrap .u64 (x0 * x1)) H
theorem c9B (x0 : Int) (x1 : Int) {K : Int → Int → Hp → Prop} (I : Inv w0 ps0 H0 H [] w) (hR : ∀ (r0 : Int) (r1 : Int) (H' : Hp) (w' : World) (_ : Inv w0 ps0 H0 H' [] w') (_ : K r0 r1 H'), R (Value.tuple #[(Value.int .u64 r0), (Value.int .u64 r1)]) w') (h : b0x x0 x1 H K) : f1M (Value.int .u64 x0) (Value.int .u64 x1) w R E := by
 unfold b0x at h
 unfold f1M
 refine a7 (d6h _ _ _ _ _ _) ?_
 refine a7 (c7Z _ _ _ _ _ _ _ (by decide) (by decide)) ?_
 refine a7 (d6h _ _ _ _ _ _) ?_
 refine a7 (c7Z _ _ _ _ _ _ _ (by decide) (by decide)) ?_
 refine a7 (b5t _ _ _ _ _ _) ?_
 refine a7 (b5t _ _ _ _ _ _) ?_
 refine a7 (c7Z _ _ _ _ _ _ _ (by decide) (by decide)) ?_
 refine a7 (y6 _ _ _ _ _ _) ?_
 refine a7 (d6h _ _ _ _ _ _) ?_
 refine a7 (c7Z _ _ _ _ _ _ _ (by decide) (by decide)) ?_
 refine a7 (b5t _ _ _ _ _ _) ?_
 refine a7 (y6 _ _ _ _ _ _) ?_
 refine a7 (b5t _ _ _ _ _ _) ?_
 refine a7 (y6 _ _ _ _ _ _) ?_
 refine a7 (c7Z _ _ _ _ _ _ _ (by decide) (by decide)) ?_
 refine a7 (y6 _ _ _ _ _ _) ?_
 refine a7 (b5t _ _ _ _ _ _) ?_
 exact hR (IntKind.wrap .u64 ((IntKind.wrap .u64 ((IntKind.wrap .u64 ((Int.fdiv x0 (2 ^ 32)) * (Int.fdiv x1 (2 ^ 32)))) + (Int.fdiv (IntKind.wrap .u64 ((IntKind.wrap .u64 ((Int.fdiv x0 (2 ^ 32)) * (bandI .u64 x1 4294967295))) + (Int.fdiv (IntKind.wrap .u64 ((bandI .u64 x0 4294967295) * (bandI .u64 x1 4294967295))) (2 ^ 32)))) (2 ^ 32)))) + (Int.fdiv (IntKind.wrap .u64 ((bandI .u64 (IntKind.wrap .u64 ((IntKind.wrap .u64 ((Int.fdiv x0 (2 ^ 32)) * (bandI .u64 x1 4294967295))) + (Int.fdiv (IntKind.wrap .u64 ((bandI .u64 x0 4294967295) * (bandI .u64 x1 4294967295))) (2 ^ 32)))) 4294967295) + (IntKind.wrap .u64 ((bandI .u64 x0 4294967295) * (Int.fdiv x1 (2 ^ 32)))))) (2 ^ 32)))) (IntKind.wrap .u64 (x0 * x1)) H _ I h
theorem d1y (x0 : Int) (x1 : Int) {H : Hp} {K : Int → Int → Hp → Prop} (h : b0x x0 x1 H K) : b3H x0 x1 H K := by
 intro w I
 refine h1y ?_
 refine c9B x0 x1 I (fun r0 r1 H' w' I' hk => ⟨H', _, I', r0, r1, rfl, rfl, hk⟩) h
def a3t (d7h : Int) (d2X : Int) (i8r : Int) (i8s : Int) (b3O : Int) (H : Hp) (K : Int → Int → Hp → Prop) : Prop :=
 (((!decide (i8r = 0)) || (decide (b3O < i8s))) = true →
 K 0 1 H) ∧
 (((!decide (i8r = 0)) || (decide (b3O < i8s))) = false →
 K (IntKind.wrap .i64 (d7h * d2X)) 0 H)
def b1D (x0 : Int) (x1 : Int) (H : Hp) (K : Int → Int → Hp → Prop) : Prop :=
 b0n x0 H (fun (B2 : Int) (H_1 : Hp) =>
 b0n x1 H_1 (fun (y9 : Int) (a1h : Hp) =>
 b3H B2 y9 a1h (fun (E6 : Int) (b6k : Int) (Q4 : Hp) =>
 (((decide (x0 < 0)) != (decide (x1 < 0))) = true →
 a3t x0 x1 E6 b6k (IntKind.wrap .u64 (9223372036854775807 + 1)) Q4 K) ∧
 (((decide (x0 < 0)) != (decide (x1 < 0))) = false →
 a3t x0 x1 E6 b6k 9223372036854775807 Q4 K))))
theorem d1z (x0 : Int) (x1 : Int) {K : Int → Int → Hp → Prop} (I : Inv w0 ps0 H0 H [] w) (hR : ∀ (r0 : Int) (r1 : Int) (H' : Hp) (w' : World) (_ : Inv w0 ps0 H0 H' [] w') (_ : K r0 r1 H'), R (Value.tuple #[(vi r0), (vi r1)]) w') (h : b1D x0 x1 H K) : f1C (vi x0) (vi x1) w R E := by
 unfold b1D at h
 unfold f1C
 refine g9 (cap := []) (fun args w => Tryz.call147 args w) ?_
 refine l7 (Fi := []) (Fr := []) I (h) (fun v_5 H_1 F_6 w_2 I_3 l_8 k_4 q_7 => ?_) (fun _ _ _ _ _ q => q.elim)
 obtain ⟨B2, rfl, rfl, h⟩ := q_7
 refine g9 (cap := []) (fun args w => Tryz.call147 args w) ?_
 refine l7 (Fi := []) (Fr := []) I_3 (h) (fun c5I a1h d6R P0 B1 c0E b6Y b6Z => ?_) (fun _ _ _ _ _ q => q.elim)
 obtain ⟨y9, rfl, rfl, h⟩ := b6Z
 refine g9 (cap := []) (fun args w => Tryz.call146 args w) ?_
 refine l7 (Fi := []) (Fr := []) B1 (h) (fun c3C Q4 e8K r9 a0h c3D b4p c5J => ?_) (fun _ _ _ _ _ q => q.elim)
 obtain ⟨E6, b6k, rfl, rfl, h⟩ := c5J
 refine a7 (o2 _ _ (Value.int .u64 E6) rfl) ?_
 refine a7 (o2 _ _ (Value.int .u64 b6k) rfl) ?_
 have hj1 : ∀ (b3O : Int) (H : Hp) (w : World) (_ : Inv w0 ps0 H0 H [] w) (_ : a3t x0 x1 E6 b6k b3O H K), d7x (vi x0) (vi x1) (Value.int .u64 E6) (Value.int .u64 b6k) (Value.int .u64 b3O) w R E := by
  intro b3O H w I h
  unfold d7x
  intro _
  unfold a3t at h
  refine a7 (M7 _ _ _ _ _ _) ?_
  simp only [u5]
  refine a7 (Pu.g fun hb => by have b9 := hb; simp only [i7 b9]; exact (a4M _ _ _ _ _ _)) ?_
  refine a7 (J4 _ _) ?_
  refine o0 (fun d3a => ?_) (fun d3a => ?_)
  ·replace h := h.1 d3a
   exact hR 0 1 H _ I h
  ·replace h := h.2 d3a
   refine a7 (b5t _ _ _ _ _ _) ?_
   exact hR (IntKind.wrap .i64 (x0 * x1)) 0 H _ I h
 refine t6 fun j1 hx1 => ?_
 refine a7 (w9 _ _ _ _ _ _) ?_
 refine a7 (w9 _ _ _ _ _ _) ?_
 refine a7 (c5u _ _ _ _) ?_
 refine o0 (fun c0S => ?_) (fun c0S => ?_)
 ·replace h := h.1 c0S
  refine a7 (y6 _ _ _ _ _ _) ?_
  exact hx1 _ _ (hj1 (IntKind.wrap .u64 (9223372036854775807 + 1)) Q4 _ a0h h)
 ·replace h := h.2 c0S
  exact hx1 _ _ (hj1 9223372036854775807 Q4 _ a0h h)
theorem d3i (x0 : Int) (x1 : Int) {H : Hp} {K : Int → Int → Hp → Prop} (h : b1D x0 x1 H K) : b1l x0 x1 H K := by
 intro w I
 refine h1e ?_
 refine d1z x0 x1 I (fun r0 r1 H' w' I' hk => ⟨H', _, I', r0, r1, rfl, rfl, hk⟩) h
def a8l (x0 : Int) (x1 : Int) (H : Hp) (K : Int → Hp → Prop) : Prop :=
 (x1 = 0 →
 K 2 H) ∧
 (¬ (x1 = 0) →
 (((decide (x0 = (-9223372036854775808))) && (decide (x1 = (-1)))) = true →
 K 1 H) ∧
 (((decide (x0 = (-9223372036854775808))) && (decide (x1 = (-1)))) = false →
 K 0 H))
theorem c4U (x0 : Int) (x1 : Int) {K : Int → Hp → Prop} (I : Inv w0 ps0 H0 H [] w) (hR : ∀ (r0 : Int) (H' : Hp) (w' : World) (_ : Inv w0 ps0 H0 H' [] w') (_ : K r0 H'), R (vi r0) w') (h : a8l x0 x1 H K) : f1O (vi x0) (vi x1) w R E := by
 unfold a8l at h
 unfold f1O
 refine a7 (i8 _ _ _ _ _ _) ?_
 refine k7 (fun c_2 => ?_) (fun c_2 => ?_)
 ·replace h := h.1 c_2
  exact hR 2 H _ I h
 ·replace h := h.2 c_2
  refine a7 (i8 _ _ _ _ _ _) ?_
  simp only [u5]
  refine a7 (Pu.g fun hb => by have b9 := hb; simp only [i7 b9]; exact (i8 _ _ _ _ _ _)) ?_
  refine a7 (s7 _ _) ?_
  refine o0 (fun c_1 => ?_) (fun c_1 => ?_)
  ·replace h := h.1 c_1
   exact hR 1 H _ I h
  ·replace h := h.2 c_1
   exact hR 0 H _ I h
theorem c6Y (x0 : Int) (x1 : Int) {H : Hp} {K : Int → Hp → Prop} (h : a8l x0 x1 H K) : a7U x0 x1 H K := by
 intro w I
 refine h1C ?_
 refine c4U x0 x1 I (fun r0 H' w' I' hk => ⟨H', _, I', r0, rfl, rfl, hk⟩) h
def b4T (x0 : Int) (x1 : Int) (H : Hp) (K : Int → Int → Hp → Prop) : Prop :=
 a7U x0 x1 H (fun (B2 : Int) (H_1 : Hp) =>
 (¬ (B2 = 0) →
 K 0 B2 H_1) ∧
 (B2 = 0 →
 (x1 : Int) ≠ 0 ∧
 K (IntKind.wrap .i64 (Int.tdiv x0 x1)) 0 H_1))
theorem d1A (x0 : Int) (x1 : Int) {K : Int → Int → Hp → Prop} (I : Inv w0 ps0 H0 H [] w) (hR : ∀ (r0 : Int) (r1 : Int) (H' : Hp) (w' : World) (_ : Inv w0 ps0 H0 H' [] w') (_ : K r0 r1 H'), R (Value.tuple #[(vi r0), (vi r1)]) w') (h : b4T x0 x1 H K) : f1D (vi x0) (vi x1) w R E := by
 unfold b4T at h
 unfold f1D
 refine g9 (cap := []) (fun args w => Tryz.call148 args w) ?_
 refine l7 (Fi := []) (Fr := []) I (h) (fun v_5 H_1 F_6 w_2 I_3 l_8 k_4 q_7 => ?_) (fun _ _ _ _ _ q => q.elim)
 obtain ⟨B2, rfl, rfl, h⟩ := q_7
 refine a7 (M7 _ _ _ _ _ _) ?_
 refine a4f (fun a6D => ?_) (fun a6D => ?_)
 ·replace h := h.1 a6D
  exact hR 0 B2 H_1 _ I_3 h
 ·replace h := h.2 a6D
  obtain ⟨b2Q, h⟩ := h
  refine a7 (d3z _ _ _ _ _ _ b2Q) ?_
  exact hR (IntKind.wrap .i64 (Int.tdiv x0 x1)) 0 H_1 _ I_3 h
theorem d3j (x0 : Int) (x1 : Int) {H : Hp} {K : Int → Int → Hp → Prop} (h : b4T x0 x1 H K) : b1m x0 x1 H K := by
 intro w I
 refine h1g ?_
 refine d1A x0 x1 I (fun r0 r1 H' w' I' hk => ⟨H', _, I', r0, r1, rfl, rfl, hk⟩) h
def b4U (x0 : Int) (x1 : Int) (H : Hp) (K : Int → Int → Hp → Prop) : Prop :=
 a7U x0 x1 H (fun (B2 : Int) (H_1 : Hp) =>
 (¬ (B2 = 0) →
 K 0 B2 H_1) ∧
 (B2 = 0 →
 (x1 : Int) ≠ 0 ∧
 K (Int.tmod x0 x1) 0 H_1))
theorem d1B (x0 : Int) (x1 : Int) {K : Int → Int → Hp → Prop} (I : Inv w0 ps0 H0 H [] w) (hR : ∀ (r0 : Int) (r1 : Int) (H' : Hp) (w' : World) (_ : Inv w0 ps0 H0 H' [] w') (_ : K r0 r1 H'), R (Value.tuple #[(vi r0), (vi r1)]) w') (h : b4U x0 x1 H K) : f1E (vi x0) (vi x1) w R E := by
 unfold b4U at h
 unfold f1E
 refine g9 (cap := []) (fun args w => Tryz.call148 args w) ?_
 refine l7 (Fi := []) (Fr := []) I (h) (fun v_5 H_1 F_6 w_2 I_3 l_8 k_4 q_7 => ?_) (fun _ _ _ _ _ q => q.elim)
 obtain ⟨B2, rfl, rfl, h⟩ := q_7
 refine a7 (M7 _ _ _ _ _ _) ?_
 refine a4f (fun a6D => ?_) (fun a6D => ?_)
 ·replace h := h.1 a6D
  exact hR 0 B2 H_1 _ I_3 h
 ·replace h := h.2 a6D
  obtain ⟨b2Q, h⟩ := h
  refine a7 (h5z _ _ _ _ _ _ b2Q) ?_
  exact hR (Int.tmod x0 x1) 0 H_1 _ I_3 h
theorem d3k (x0 : Int) (x1 : Int) {H : Hp} {K : Int → Int → Hp → Prop} (h : b4U x0 x1 H K) : b1n x0 x1 H K := by
 intro w I
 refine h1i ?_
 refine d1B x0 x1 I (fun r0 r1 H' w' I' hk => ⟨H', _, I', r0, r1, rfl, rfl, hk⟩) h
def a7w (H : Hp) (K : Hp → Prop) : Prop :=
 K H
theorem c3T {K : Hp → Prop} (I : Inv w0 ps0 H0 H [] w) (hR : ∀ (H' : Hp) (w' : World) (_ : Inv w0 ps0 H0 H' [] w') (_ : K H'), R (Value.agg #[(fC 149), (fC 150), (fC 151), (fC 152), (fC 153), (fC 154), (fC 155)]) w') (h : a7w H K) : f1F w R E := by
 unfold a7w at h
 unfold f1F
 refine z7 I Tryz.zeroValue177 (cs := [Value.nilFunc, Value.nilFunc, Value.nilFunc, Value.nilFunc, Value.nilFunc, Value.nilFunc, Value.nilFunc]) rfl fun g_2 w_3 I_4 k_5 => ?_
 refine a7 b1Y ?_
 refine m6 I_4 Tryz.sizeOf177 (vs := [(fC 149), (fC 150), (fC 151), (fC 152), (fC 153), (fC 154), (fC 155)]) (cs' := [(fC 149), (fC 150), (fC 151), (fC 152), (fC 153), (fC 154), (fC 155)]) rfl rfl (nb rfl) rfl rfl fun w_6 I_7 k_8 => ?_
 refine B0 Tryz.isAgg177 Tryz.sizeOf177 rfl (I_7.at1 (o := 0) (vs := [(fC 149), (fC 150), (fC 151), (fC 152), (fC 153), (fC 154), (fC 155)]) (nb rfl) rfl) ?_
 exact hR H _ I_7.drop h
theorem c4V {H : Hp} {K : Hp → Prop} (h : a7w H K) : b0F H K := by
 intro w I
 refine h1k ?_
 refine c3T I (fun H' w' I' hk => ⟨H', _, I', rfl, rfl, hk⟩) h
def a5P (x0 : Int) (x1 : Int) (H : Hp) (K : Bool → Hp → Prop) : Prop :=
 K (decide (x0 < x1)) H
theorem c1F (x0 : Int) (x1 : Int) {K : Bool → Hp → Prop} (I : Inv w0 ps0 H0 H [] w) (hR : ∀ (r0 : Bool) (H' : Hp) (w' : World) (_ : Inv w0 ps0 H0 H' [] w') (_ : K r0 H'), R (vB r0) w') (h : a5P x0 x1 H K) : f1P (vi x0) (vi x1) w R E := by
 unfold a5P at h
 unfold f1P
 refine a7 (w9 _ _ _ _ _ _) ?_
 exact hR (decide (x0 < x1)) H _ I h
theorem c2m (x0 : Int) (x1 : Int) {H : Hp} {K : Bool → Hp → Prop} (h : a5P x0 x1 H K) : b3w x0 x1 H K := by
 intro w I
 refine h1E ?_
 refine c1F x0 x1 I (fun r0 H' w' I' hk => ⟨H', _, I', r0, rfl, rfl, hk⟩) h
def a5Q (x0 : Int) (x1 : Int) (H : Hp) (K : Bool → Hp → Prop) : Prop :=
 K (decide (x0 ≤ x1)) H
theorem c1G (x0 : Int) (x1 : Int) {K : Bool → Hp → Prop} (I : Inv w0 ps0 H0 H [] w) (hR : ∀ (r0 : Bool) (H' : Hp) (w' : World) (_ : Inv w0 ps0 H0 H' [] w') (_ : K r0 H'), R (vB r0) w') (h : a5Q x0 x1 H K) : f1Q (vi x0) (vi x1) w R E := by
 unfold a5Q at h
 unfold f1Q
 refine a7 (b3S _ _ _ _ _ _) ?_
 exact hR (decide (x0 ≤ x1)) H _ I h
theorem c2n (x0 : Int) (x1 : Int) {H : Hp} {K : Bool → Hp → Prop} (h : a5Q x0 x1 H K) : b3x x0 x1 H K := by
 intro w I
 refine h1G ?_
 refine c1G x0 x1 I (fun r0 H' w' I' hk => ⟨H', _, I', r0, rfl, rfl, hk⟩) h
def a5R (x0 : Int) (x1 : Int) (H : Hp) (K : Bool → Hp → Prop) : Prop :=
 K (decide (x0 = x1)) H
theorem c1H (x0 : Int) (x1 : Int) {K : Bool → Hp → Prop} (I : Inv w0 ps0 H0 H [] w) (hR : ∀ (r0 : Bool) (H' : Hp) (w' : World) (_ : Inv w0 ps0 H0 H' [] w') (_ : K r0 H'), R (vB r0) w') (h : a5R x0 x1 H K) : f1R (vi x0) (vi x1) w R E := by
 unfold a5R at h
 unfold f1R
 refine a7 (i8 _ _ _ _ _ _) ?_
 exact hR (decide (x0 = x1)) H _ I h
theorem c2o (x0 : Int) (x1 : Int) {H : Hp} {K : Bool → Hp → Prop} (h : a5R x0 x1 H K) : b3y x0 x1 H K := by
 intro w I
 refine h1I ?_
 refine c1H x0 x1 I (fun r0 H' w' I' hk => ⟨H', _, I', r0, rfl, rfl, hk⟩) h
def a5S (x0 : Int) (x1 : Int) (H : Hp) (K : Bool → Hp → Prop) : Prop :=
 K (!decide (x0 = x1)) H
theorem c1I (x0 : Int) (x1 : Int) {K : Bool → Hp → Prop} (I : Inv w0 ps0 H0 H [] w) (hR : ∀ (r0 : Bool) (H' : Hp) (w' : World) (_ : Inv w0 ps0 H0 H' [] w') (_ : K r0 H'), R (vB r0) w') (h : a5S x0 x1 H K) : f1S (vi x0) (vi x1) w R E := by
 unfold a5S at h
 unfold f1S
 refine a7 (M7 _ _ _ _ _ _) ?_
 exact hR (!decide (x0 = x1)) H _ I h
theorem c2p (x0 : Int) (x1 : Int) {H : Hp} {K : Bool → Hp → Prop} (h : a5S x0 x1 H K) : b3z x0 x1 H K := by
 intro w I
 refine h1K ?_
 refine c1I x0 x1 I (fun r0 H' w' I' hk => ⟨H', _, I', r0, rfl, rfl, hk⟩) h
def a5T (x0 : Int) (x1 : Int) (H : Hp) (K : Bool → Hp → Prop) : Prop :=
 K (decide (x1 < x0)) H
theorem c1J (x0 : Int) (x1 : Int) {K : Bool → Hp → Prop} (I : Inv w0 ps0 H0 H [] w) (hR : ∀ (r0 : Bool) (H' : Hp) (w' : World) (_ : Inv w0 ps0 H0 H' [] w') (_ : K r0 H'), R (vB r0) w') (h : a5T x0 x1 H K) : f1T (vi x0) (vi x1) w R E := by
 unfold a5T at h
 unfold f1T
 refine a7 (a4M _ _ _ _ _ _) ?_
 exact hR (decide (x1 < x0)) H _ I h
theorem c2q (x0 : Int) (x1 : Int) {H : Hp} {K : Bool → Hp → Prop} (h : a5T x0 x1 H K) : b3A x0 x1 H K := by
 intro w I
 refine h1M ?_
 refine c1J x0 x1 I (fun r0 H' w' I' hk => ⟨H', _, I', r0, rfl, rfl, hk⟩) h
def a5U (x0 : Int) (x1 : Int) (H : Hp) (K : Bool → Hp → Prop) : Prop :=
 K (decide (x1 ≤ x0)) H
theorem c1K (x0 : Int) (x1 : Int) {K : Bool → Hp → Prop} (I : Inv w0 ps0 H0 H [] w) (hR : ∀ (r0 : Bool) (H' : Hp) (w' : World) (_ : Inv w0 ps0 H0 H' [] w') (_ : K r0 H'), R (vB r0) w') (h : a5U x0 x1 H K) : f1U (vi x0) (vi x1) w R E := by
 unfold a5U at h
 unfold f1U
 refine a7 (a7M _ _ _ _ _ _) ?_
 exact hR (decide (x1 ≤ x0)) H _ I h
theorem c2r (x0 : Int) (x1 : Int) {H : Hp} {K : Bool → Hp → Prop} (h : a5U x0 x1 H K) : b3B x0 x1 H K := by
 intro w I
 refine h1O ?_
 refine c1K x0 x1 I (fun r0 H' w' I' hk => ⟨H', _, I', r0, rfl, rfl, hk⟩) h
def b1E (x0 : Int) (x1 : Int) (x2 : Int) (H : Hp) (K : Bool → Hp → Prop) : Prop :=
 (((decide (x0 < 1)) || (decide (6 < x0))) = true →
 K false H) ∧
 (((decide (x0 < 1)) || (decide (6 < x0))) = false →
 b0F H (fun (H_1 : Hp) =>
 (0 : Int) ≤ x0 ∧ (x0 : Int) < 7 ∧
 ∃ c3U : Bool → Hp → Prop, (∀ (a6R : Bool) (a9l : Hp), c3U a6R a9l →
 K a6R a9l) ∧ ((x0 : Int) = 0 → c8L x1 x2 H_1 c3U) ∧ ((x0 : Int) = 1 → b3w x1 x2 H_1 c3U) ∧ ((x0 : Int) = 2 → b3x x1 x2 H_1 c3U) ∧ ((x0 : Int) = 3 → b3y x1 x2 H_1 c3U) ∧ ((x0 : Int) = 4 → b3z x1 x2 H_1 c3U) ∧ ((x0 : Int) = 5 → b3A x1 x2 H_1 c3U) ∧ ((x0 : Int) = 6 → b3B x1 x2 H_1 c3U)))
theorem d1C (x0 : Int) (x1 : Int) (x2 : Int) {K : Bool → Hp → Prop} (I : Inv w0 ps0 H0 H [] w) (hR : ∀ (r0 : Bool) (H' : Hp) (w' : World) (_ : Inv w0 ps0 H0 H' [] w') (_ : K r0 H'), R (vB r0) w') (h : b1E x0 x1 x2 H K) : F73 (vi x0) (vi x1) (vi x2) w R E := by
 unfold b1E at h
 unfold F73
 refine a7 (w9 _ _ _ _ _ _) ?_
 simp only [u5]
 refine a7 (Pu.g fun hb => by have b9 := hb; simp only [i7 b9]; exact (a4M _ _ _ _ _ _)) ?_
 refine a7 (J4 _ _) ?_
 refine o0 (fun d2l => ?_) (fun d2l => ?_)
 ·replace h := h.1 d2l
  exact hR false H _ I h
 ·replace h := h.2 d2l
  refine g9 (cap := []) (fun args w => Tryz.call118 args w) ?_
  refine l7 (Fi := []) (Fr := []) I (h) (fun v_5 H_1 F_6 w_2 I_3 l_8 k_4 q_7 => ?_) (fun _ _ _ _ _ q => q.elim)
  obtain ⟨rfl, rfl, h⟩ := q_7
  obtain ⟨b2Q, f1W, h⟩ := h
  refine a7 (a2H _ _ b2Q f1W) ?_
  obtain ⟨c3U, e2E, b7w, c6y, c1k, b1x, k3v, g2e, a7h⟩ := h
  refine g6P (D := fun c6Z a2s => ∃ (a6R : Bool) (a9l : Hp), c6Z = (vB a6R) ∧ (Inv w0 ps0 H0 a9l [] a2s) ∧ (∀ i, i < w_2.heap.size → ¬ inF [] i → a2s.heap[i]? = w_2.heap[i]?) ∧ Hle H_1 a9l ∧ (c3U a6R a9l)) ?_ ?_
  ·obtain e | e | e | e | e | e | e := (by omega : (x0 : Int) = 0 ∨ (x0 : Int) = 1 ∨ (x0 : Int) = 2 ∨ (x0 : Int) = 3 ∨ (x0 : Int) = 4 ∨ (x0 : Int) = 5 ∨ (x0 : Int) = 6)
   ·replace h := b7w e
    refine c2J (s' := xCall (fC 149) [(vi x1), (vi x2)]) (by rw [e]; rfl) ?_
    refine g9 (cap := []) (fun args w => Tryz.call149 args w) ?_
    refine l7 (Fi := []) (Fr := []) I_3 (h) (fun c6Z a9l d7y a2s L9 a8Y a4z b7F => ?_) (fun _ _ _ _ _ q => q.elim)
    obtain ⟨a6R, rfl, rfl, h⟩ := b7F
    exact ⟨a6R, a9l, rfl, L9, a4z, a8Y, h⟩
   ·replace h := c6y e
    refine c2J (s' := xCall (fC 150) [(vi x1), (vi x2)]) (by rw [e]; rfl) ?_
    refine g9 (cap := []) (fun args w => Tryz.call150 args w) ?_
    refine l7 (Fi := []) (Fr := []) I_3 (h) (fun c6Z a9l d7y a2s L9 a8Y a4z b7F => ?_) (fun _ _ _ _ _ q => q.elim)
    obtain ⟨a6R, rfl, rfl, h⟩ := b7F
    exact ⟨a6R, a9l, rfl, L9, a4z, a8Y, h⟩
   ·replace h := c1k e
    refine c2J (s' := xCall (fC 151) [(vi x1), (vi x2)]) (by rw [e]; rfl) ?_
    refine g9 (cap := []) (fun args w => Tryz.call151 args w) ?_
    refine l7 (Fi := []) (Fr := []) I_3 (h) (fun c6Z a9l d7y a2s L9 a8Y a4z b7F => ?_) (fun _ _ _ _ _ q => q.elim)
    obtain ⟨a6R, rfl, rfl, h⟩ := b7F
    exact ⟨a6R, a9l, rfl, L9, a4z, a8Y, h⟩
   ·replace h := b1x e
    refine c2J (s' := xCall (fC 152) [(vi x1), (vi x2)]) (by rw [e]; rfl) ?_
    refine g9 (cap := []) (fun args w => Tryz.call152 args w) ?_
    refine l7 (Fi := []) (Fr := []) I_3 (h) (fun c6Z a9l d7y a2s L9 a8Y a4z b7F => ?_) (fun _ _ _ _ _ q => q.elim)
    obtain ⟨a6R, rfl, rfl, h⟩ := b7F
    exact ⟨a6R, a9l, rfl, L9, a4z, a8Y, h⟩
   ·replace h := k3v e
    refine c2J (s' := xCall (fC 153) [(vi x1), (vi x2)]) (by rw [e]; rfl) ?_
    refine g9 (cap := []) (fun args w => Tryz.call153 args w) ?_
    refine l7 (Fi := []) (Fr := []) I_3 (h) (fun c6Z a9l d7y a2s L9 a8Y a4z b7F => ?_) (fun _ _ _ _ _ q => q.elim)
    obtain ⟨a6R, rfl, rfl, h⟩ := b7F
    exact ⟨a6R, a9l, rfl, L9, a4z, a8Y, h⟩
   ·replace h := g2e e
    refine c2J (s' := xCall (fC 154) [(vi x1), (vi x2)]) (by rw [e]; rfl) ?_
    refine g9 (cap := []) (fun args w => Tryz.call154 args w) ?_
    refine l7 (Fi := []) (Fr := []) I_3 (h) (fun c6Z a9l d7y a2s L9 a8Y a4z b7F => ?_) (fun _ _ _ _ _ q => q.elim)
    obtain ⟨a6R, rfl, rfl, h⟩ := b7F
    exact ⟨a6R, a9l, rfl, L9, a4z, a8Y, h⟩
   ·replace h := a7h e
    refine c2J (s' := xCall (fC 155) [(vi x1), (vi x2)]) (by rw [e]; rfl) ?_
    refine g9 (cap := []) (fun args w => Tryz.call155 args w) ?_
    refine l7 (Fi := []) (Fr := []) I_3 (h) (fun c6Z a9l d7y a2s L9 a8Y a4z b7F => ?_) (fun _ _ _ _ _ q => q.elim)
    obtain ⟨a6R, rfl, rfl, h⟩ := b7F
    exact ⟨a6R, a9l, rfl, L9, a4z, a8Y, h⟩
  ·rintro c6Z a2s ⟨a6R, a9l, rfl, L9, a4z, a8Y, h⟩
   replace h := e2E _ _ h
   exact hR a6R a9l _ L9 h
theorem d3l (x0 : Int) (x1 : Int) (x2 : Int) {H : Hp} {K : Bool → Hp → Prop} (h : b1E x0 x1 x2 H K) : b4n x0 x1 x2 H K := by
 intro w I
 refine i6Y ?_
 refine d1C x0 x1 x2 I (fun r0 H' w' I' hk => ⟨H', _, I', r0, rfl, rfl, hk⟩) h
def a5V (x0 : Int) (H : Hp) (K : Int → Int → Hp → Prop) : Prop :=
 (x0 = (-9223372036854775808) →
 K 0 1 H) ∧
 (¬ (x0 = (-9223372036854775808)) →
 K (IntKind.wrap .i64 (0 - x0)) 0 H)
theorem c1L (x0 : Int) {K : Int → Int → Hp → Prop} (I : Inv w0 ps0 H0 H [] w) (hR : ∀ (r0 : Int) (r1 : Int) (H' : Hp) (w' : World) (_ : Inv w0 ps0 H0 H' [] w') (_ : K r0 r1 H'), R (Value.tuple #[(vi r0), (vi r1)]) w') (h : a5V x0 H K) : f1G (vi x0) w R E := by
 unfold a5V at h
 unfold f1G
 refine a7 (i8 _ _ _ _ _ _) ?_
 refine k7 (fun c_1 => ?_) (fun c_1 => ?_)
 ·replace h := h.1 c_1
  exact hR 0 1 H _ I h
 ·replace h := h.2 c_1
  refine a7 (c4m _ _) ?_
  exact hR (IntKind.wrap .i64 (0 - x0)) 0 H _ I h
theorem c2s (x0 : Int) {H : Hp} {K : Int → Int → Hp → Prop} (h : a5V x0 H K) : a3j x0 H K := by
 intro w I
 refine h1m ?_
 refine c1L x0 I (fun r0 r1 H' w' I' hk => ⟨H', _, I', r0, r1, rfl, rfl, hk⟩) h
def a5W (x0 : Int) (x1 : Int) (H : Hp) (K : Int → Int → Hp → Prop) : Prop :=
 ((((decide (0 < x1)) && (decide ((IntKind.wrap .i64 (9223372036854775807 - x1)) < x0))) || ((decide (x1 < 0)) && (decide (x0 < (IntKind.wrap .i64 ((-9223372036854775808) - x1)))))) = true →
 K 0 1 H) ∧
 ((((decide (0 < x1)) && (decide ((IntKind.wrap .i64 (9223372036854775807 - x1)) < x0))) || ((decide (x1 < 0)) && (decide (x0 < (IntKind.wrap .i64 ((-9223372036854775808) - x1)))))) = false →
 K (IntKind.wrap .i64 (x0 + x1)) 0 H)
theorem c1M (x0 : Int) (x1 : Int) {K : Int → Int → Hp → Prop} (I : Inv w0 ps0 H0 H [] w) (hR : ∀ (r0 : Int) (r1 : Int) (H' : Hp) (w' : World) (_ : Inv w0 ps0 H0 H' [] w') (_ : K r0 r1 H'), R (Value.tuple #[(vi r0), (vi r1)]) w') (h : a5W x0 x1 H K) : f1H (vi x0) (vi x1) w R E := by
 unfold a5W at h
 unfold f1H
 refine a7 (a4M _ _ _ _ _ _) ?_
 simp only [u5]
 refine a7 (Pu.g fun hb => by have b9 := hb; simp only [i7 b9]; exact (b2r _ _ _ _ _ _)) ?_
 refine a7 (Pu.g fun hb => by have b9 := hb; simp only [i7 b9]; exact (a4M _ _ _ _ _ _)) ?_
 refine a7 (s7 _ _) ?_
 simp only [u5]
 refine a7 (Pu.g fun hb => by have b9 := hb; simp only [i7 b9]; exact (w9 _ _ _ _ _ _)) ?_
 simp only [b1b, b8n]
 refine a7 (Pu.e (a5x _ _ _) (Pu.g fun hb => by obtain ⟨b9, a3x⟩ := a9s hb; simp only [i7 hb]; exact (b2r _ _ _ _ _ _))) ?_
 refine a7 (Pu.e (a5x _ _ _) (Pu.g fun hb => by obtain ⟨b9, a3x⟩ := a9s hb; simp only [i7 hb]; exact (w9 _ _ _ _ _ _))) ?_
 refine a7 (Pu.g fun hb => by have b9 := hb; simp only [i7 b9, b5u b9]; exact (s7 _ _)) ?_
 refine a7 (J4 _ _) ?_
 refine o0 (fun c_1 => ?_) (fun c_1 => ?_)
 ·replace h := h.1 c_1
  exact hR 0 1 H _ I h
 ·replace h := h.2 c_1
  refine a7 (y6 _ _ _ _ _ _) ?_
  exact hR (IntKind.wrap .i64 (x0 + x1)) 0 H _ I h
theorem c2t (x0 : Int) (x1 : Int) {H : Hp} {K : Int → Int → Hp → Prop} (h : a5W x0 x1 H K) : a8Z x0 x1 H K := by
 intro w I
 refine h1o ?_
 refine c1M x0 x1 I (fun r0 r1 H' w' I' hk => ⟨H', _, I', r0, r1, rfl, rfl, hk⟩) h
def a5X (x0 : Int) (x1 : Int) (H : Hp) (K : Int → Int → Hp → Prop) : Prop :=
 ((((decide (x1 < 0)) && (decide ((IntKind.wrap .i64 (9223372036854775807 + x1)) < x0))) || ((decide (0 < x1)) && (decide (x0 < (IntKind.wrap .i64 ((-9223372036854775808) + x1)))))) = true →
 K 0 1 H) ∧
 ((((decide (x1 < 0)) && (decide ((IntKind.wrap .i64 (9223372036854775807 + x1)) < x0))) || ((decide (0 < x1)) && (decide (x0 < (IntKind.wrap .i64 ((-9223372036854775808) + x1)))))) = false →
 K (IntKind.wrap .i64 (x0 - x1)) 0 H)
theorem c1N (x0 : Int) (x1 : Int) {K : Int → Int → Hp → Prop} (I : Inv w0 ps0 H0 H [] w) (hR : ∀ (r0 : Int) (r1 : Int) (H' : Hp) (w' : World) (_ : Inv w0 ps0 H0 H' [] w') (_ : K r0 r1 H'), R (Value.tuple #[(vi r0), (vi r1)]) w') (h : a5X x0 x1 H K) : f1I (vi x0) (vi x1) w R E := by
 unfold a5X at h
 unfold f1I
 refine a7 (w9 _ _ _ _ _ _) ?_
 simp only [u5]
 refine a7 (Pu.g fun hb => by have b9 := hb; simp only [i7 b9]; exact (y6 _ _ _ _ _ _)) ?_
 refine a7 (Pu.g fun hb => by have b9 := hb; simp only [i7 b9]; exact (a4M _ _ _ _ _ _)) ?_
 refine a7 (s7 _ _) ?_
 simp only [u5]
 refine a7 (Pu.g fun hb => by have b9 := hb; simp only [i7 b9]; exact (a4M _ _ _ _ _ _)) ?_
 simp only [b1b, b8n]
 refine a7 (Pu.e (a5x _ _ _) (Pu.g fun hb => by obtain ⟨b9, a3x⟩ := a9s hb; simp only [i7 hb]; exact (y6 _ _ _ _ _ _))) ?_
 refine a7 (Pu.e (a5x _ _ _) (Pu.g fun hb => by obtain ⟨b9, a3x⟩ := a9s hb; simp only [i7 hb]; exact (w9 _ _ _ _ _ _))) ?_
 refine a7 (Pu.g fun hb => by have b9 := hb; simp only [i7 b9, b5u b9]; exact (s7 _ _)) ?_
 refine a7 (J4 _ _) ?_
 refine o0 (fun c_1 => ?_) (fun c_1 => ?_)
 ·replace h := h.1 c_1
  exact hR 0 1 H _ I h
 ·replace h := h.2 c_1
  refine a7 (b2r _ _ _ _ _ _) ?_
  exact hR (IntKind.wrap .i64 (x0 - x1)) 0 H _ I h
theorem c2u (x0 : Int) (x1 : Int) {H : Hp} {K : Int → Int → Hp → Prop} (h : a5X x0 x1 H K) : a9a x0 x1 H K := by
 intro w I
 refine h1q ?_
 refine c1N x0 x1 I (fun r0 r1 H' w' I' hk => ⟨H', _, I', r0, r1, rfl, rfl, hk⟩) h
def a5Y (x0 : Int) (x1 : Int) (H : Hp) (K : Int → Int → Hp → Prop) : Prop :=
 (((decide (x0 = 0)) || (decide (x1 = 0))) = true →
 K 0 0 H) ∧
 (((decide (x0 = 0)) || (decide (x1 = 0))) = false →
 (x0 = (-1) →
 a3j x1 H (fun (B2 : Int) (b6j : Int) (H_1 : Hp) =>
 K B2 b6j H_1)) ∧
 (¬ (x0 = (-1)) →
 (x1 = (-1) →
 a3j x0 H (fun (y9 : Int) (b2p : Int) (a1h : Hp) =>
 K y9 b2p a1h)) ∧
 (¬ (x1 = (-1)) →
 (x1 : Int) ≠ 0 ∧
 (¬ ((IntKind.wrap .i64 (Int.tdiv (IntKind.wrap .i64 (x0 * x1)) x1)) = x0) →
 K 0 1 H) ∧
 ((IntKind.wrap .i64 (Int.tdiv (IntKind.wrap .i64 (x0 * x1)) x1)) = x0 →
 K (IntKind.wrap .i64 (x0 * x1)) 0 H))))
theorem c1O (x0 : Int) (x1 : Int) {K : Int → Int → Hp → Prop} (I : Inv w0 ps0 H0 H [] w) (hR : ∀ (r0 : Int) (r1 : Int) (H' : Hp) (w' : World) (_ : Inv w0 ps0 H0 H' [] w') (_ : K r0 r1 H'), R (Value.tuple #[(vi r0), (vi r1)]) w') (h : a5Y x0 x1 H K) : f1J (vi x0) (vi x1) w R E := by
 unfold a5Y at h
 unfold f1J
 refine a7 (i8 _ _ _ _ _ _) ?_
 simp only [u5]
 refine a7 (Pu.g fun hb => by have b9 := hb; simp only [i7 b9]; exact (i8 _ _ _ _ _ _)) ?_
 refine a7 (J4 _ _) ?_
 refine o0 (fun c1o => ?_) (fun c1o => ?_)
 ·replace h := h.1 c1o
  exact hR 0 0 H _ I h
 ·replace h := h.2 c1o
  refine a7 (i8 _ _ _ _ _ _) ?_
  refine k7 (fun b4L => ?_) (fun b4L => ?_)
  ·replace h := h.1 b4L
   refine g9 (cap := []) (fun args w => Tryz.call125 args w) ?_
   refine l7 (Fi := []) (Fr := []) I (h) (fun v_5 H_1 F_6 w_2 I_3 l_8 k_4 q_7 => ?_) (fun _ _ _ _ _ q => q.elim)
   obtain ⟨B2, b6j, rfl, rfl, h⟩ := q_7
   refine a7 (o2 _ _ (vi B2) rfl) ?_
   refine a7 (o2 _ _ (vi b6j) rfl) ?_
   exact hR B2 b6j H_1 _ I_3 h
  ·replace h := h.2 b4L
   refine a7 (i8 _ _ _ _ _ _) ?_
   refine k7 (fun b1r => ?_) (fun b1r => ?_)
   ·replace h := h.1 b1r
    refine g9 (cap := []) (fun args w => Tryz.call125 args w) ?_
    refine l7 (Fi := []) (Fr := []) I (h) (fun c5I a1h d6R P0 B1 c0E b6Y b6Z => ?_) (fun _ _ _ _ _ q => q.elim)
    obtain ⟨y9, b2p, rfl, rfl, h⟩ := b6Z
    refine a7 (o2 _ _ (vi y9) rfl) ?_
    refine a7 (o2 _ _ (vi b2p) rfl) ?_
    exact hR y9 b2p a1h _ B1 h
   ·replace h := h.2 b1r
    refine a7 (b5t _ _ _ _ _ _) ?_
    obtain ⟨a6E, h⟩ := h
    refine a7 (d3z _ _ _ _ _ _ a6E) ?_
    refine a7 (M7 _ _ _ _ _ _) ?_
    refine a4f (fun a8M => ?_) (fun a8M => ?_)
    ·replace h := h.1 a8M
     exact hR 0 1 H _ I h
    ·replace h := h.2 a8M
     exact hR (IntKind.wrap .i64 (x0 * x1)) 0 H _ I h
theorem c2v (x0 : Int) (x1 : Int) {H : Hp} {K : Int → Int → Hp → Prop} (h : a5Y x0 x1 H K) : a9b x0 x1 H K := by
 intro w I
 refine h1s ?_
 refine c1O x0 x1 I (fun r0 r1 H' w' I' hk => ⟨H', _, I', r0, r1, rfl, rfl, hk⟩) h
def a3s (x0 : Int) (x1 : Int) (H : Hp) (K : Int → Hp → Prop) : Prop :=
 (x1 = 0 →
 K 2 H) ∧
 (¬ (x1 = 0) →
 (((decide (x0 = (-9223372036854775808))) && (decide (x1 = (-1)))) = true →
 K 1 H) ∧
 (((decide (x0 = (-9223372036854775808))) && (decide (x1 = (-1)))) = false →
 K 0 H))
theorem b7G (x0 : Int) (x1 : Int) {K : Int → Hp → Prop} (I : Inv w0 ps0 H0 H [] w) (hR : ∀ (r0 : Int) (H' : Hp) (w' : World) (_ : Inv w0 ps0 H0 H' [] w') (_ : K r0 H'), R (vi r0) w') (h : a3s x0 x1 H K) : f1V (vi x0) (vi x1) w R E := by
 unfold a3s at h
 unfold f1V
 refine a7 (i8 _ _ _ _ _ _) ?_
 refine k7 (fun c_2 => ?_) (fun c_2 => ?_)
 ·replace h := h.1 c_2
  exact hR 2 H _ I h
 ·replace h := h.2 c_2
  refine a7 (i8 _ _ _ _ _ _) ?_
  simp only [u5]
  refine a7 (Pu.g fun hb => by have b9 := hb; simp only [i7 b9]; exact (i8 _ _ _ _ _ _)) ?_
  refine a7 (s7 _ _) ?_
  refine o0 (fun c_1 => ?_) (fun c_1 => ?_)
  ·replace h := h.1 c_1
   exact hR 1 H _ I h
  ·replace h := h.2 c_1
   exact hR 0 H _ I h
theorem b8B (x0 : Int) (x1 : Int) {H : Hp} {K : Int → Hp → Prop} (h : a3s x0 x1 H K) : a3o x0 x1 H K := by
 intro w I
 refine h1Q ?_
 refine b7G x0 x1 I (fun r0 H' w' I' hk => ⟨H', _, I', r0, rfl, rfl, hk⟩) h
def a9m (x0 : Int) (x1 : Int) (H : Hp) (K : Int → Int → Hp → Prop) : Prop :=
 a3o x0 x1 H (fun (B2 : Int) (H_1 : Hp) =>
 (¬ (B2 = 0) →
 K 0 B2 H_1) ∧
 (B2 = 0 →
 (x1 : Int) ≠ 0 ∧
 K (IntKind.wrap .i64 (Int.tdiv x0 x1)) 0 H_1))
theorem c1P (x0 : Int) (x1 : Int) {K : Int → Int → Hp → Prop} (I : Inv w0 ps0 H0 H [] w) (hR : ∀ (r0 : Int) (r1 : Int) (H' : Hp) (w' : World) (_ : Inv w0 ps0 H0 H' [] w') (_ : K r0 r1 H'), R (Value.tuple #[(vi r0), (vi r1)]) w') (h : a9m x0 x1 H K) : f1K (vi x0) (vi x1) w R E := by
 unfold a9m at h
 unfold f1K
 refine g9 (cap := []) (fun args w => Tryz.call157 args w) ?_
 refine l7 (Fi := []) (Fr := []) I (h) (fun v_5 H_1 F_6 w_2 I_3 l_8 k_4 q_7 => ?_) (fun _ _ _ _ _ q => q.elim)
 obtain ⟨B2, rfl, rfl, h⟩ := q_7
 refine a7 (M7 _ _ _ _ _ _) ?_
 refine a4f (fun a6D => ?_) (fun a6D => ?_)
 ·replace h := h.1 a6D
  exact hR 0 B2 H_1 _ I_3 h
 ·replace h := h.2 a6D
  obtain ⟨b2Q, h⟩ := h
  refine a7 (d3z _ _ _ _ _ _ b2Q) ?_
  exact hR (IntKind.wrap .i64 (Int.tdiv x0 x1)) 0 H_1 _ I_3 h
theorem c2w (x0 : Int) (x1 : Int) {H : Hp} {K : Int → Int → Hp → Prop} (h : a9m x0 x1 H K) : a9c x0 x1 H K := by
 intro w I
 refine h1u ?_
 refine c1P x0 x1 I (fun r0 r1 H' w' I' hk => ⟨H', _, I', r0, r1, rfl, rfl, hk⟩) h
def a9n (x0 : Int) (x1 : Int) (H : Hp) (K : Int → Int → Hp → Prop) : Prop :=
 a3o x0 x1 H (fun (B2 : Int) (H_1 : Hp) =>
 (¬ (B2 = 0) →
 K 0 B2 H_1) ∧
 (B2 = 0 →
 (x1 : Int) ≠ 0 ∧
 K (IntKind.wrap .i64 (x0 - (IntKind.wrap .i64 ((IntKind.wrap .i64 (Int.tdiv x0 x1)) * x1)))) 0 H_1))
theorem c1Q (x0 : Int) (x1 : Int) {K : Int → Int → Hp → Prop} (I : Inv w0 ps0 H0 H [] w) (hR : ∀ (r0 : Int) (r1 : Int) (H' : Hp) (w' : World) (_ : Inv w0 ps0 H0 H' [] w') (_ : K r0 r1 H'), R (Value.tuple #[(vi r0), (vi r1)]) w') (h : a9n x0 x1 H K) : f1L (vi x0) (vi x1) w R E := by
 unfold a9n at h
 unfold f1L
 refine g9 (cap := []) (fun args w => Tryz.call157 args w) ?_
 refine l7 (Fi := []) (Fr := []) I (h) (fun v_5 H_1 F_6 w_2 I_3 l_8 k_4 q_7 => ?_) (fun _ _ _ _ _ q => q.elim)
 obtain ⟨B2, rfl, rfl, h⟩ := q_7
 refine a7 (M7 _ _ _ _ _ _) ?_
 refine a4f (fun a6D => ?_) (fun a6D => ?_)
 ·replace h := h.1 a6D
  exact hR 0 B2 H_1 _ I_3 h
 ·replace h := h.2 a6D
  obtain ⟨b2Q, h⟩ := h
  refine a7 (d3z _ _ _ _ _ _ b2Q) ?_
  refine a7 (b5t _ _ _ _ _ _) ?_
  refine a7 (b2r _ _ _ _ _ _) ?_
  exact hR (IntKind.wrap .i64 (x0 - (IntKind.wrap .i64 ((IntKind.wrap .i64 (Int.tdiv x0 x1)) * x1)))) 0 H_1 _ I_3 h
theorem c2x (x0 : Int) (x1 : Int) {H : Hp} {K : Int → Int → Hp → Prop} (h : a9n x0 x1 H K) : a9d x0 x1 H K := by
 intro w I
 refine h1w ?_
 refine c1Q x0 x1 I (fun r0 r1 H' w' I' hk => ⟨H', _, I', r0, r1, rfl, rfl, hk⟩) h
def a6S (x0 : Int) (x1 : Int) (x2 : Int) (H : Hp) (K : Int → Int → Hp → Prop) : Prop :=
 (x0 = 5 →
 a3j x1 H (fun (B2 : Int) (b6j : Int) (H_1 : Hp) =>
 K B2 b6j H_1)) ∧
 (¬ (x0 = 5) →
 (x0 = 6 →
 a8Z x1 x2 H (fun (y9 : Int) (b2p : Int) (a1h : Hp) =>
 K y9 b2p a1h)) ∧
 (¬ (x0 = 6) →
 (x0 = 7 →
 a9a x1 x2 H (fun (E6 : Int) (b6k : Int) (Q4 : Hp) =>
 K E6 b6k Q4)) ∧
 (¬ (x0 = 7) →
 (x0 = 8 →
 a9b x1 x2 H (fun (a1v : Int) (d8Z : Int) (b1y : Hp) =>
 K a1v d8Z b1y)) ∧
 (¬ (x0 = 8) →
 (x0 = 9 →
 a9c x1 x2 H (fun (a2R : Int) (d9a : Int) (a9k : Hp) =>
 K a2R d9a a9k)) ∧
 (¬ (x0 = 9) →
 a9d x1 x2 H (fun (a5m : Int) (d9b : Int) (a7K : Hp) =>
 K a5m d9b a7K))))))
theorem c2y (x0 : Int) (x1 : Int) (x2 : Int) {K : Int → Int → Hp → Prop} (I : Inv w0 ps0 H0 H [] w) (hR : ∀ (r0 : Int) (r1 : Int) (H' : Hp) (w' : World) (_ : Inv w0 ps0 H0 H' [] w') (_ : K r0 r1 H'), R (Value.tuple #[(vi r0), (vi r1)]) w') (h : a6S x0 x1 x2 H K) : F98 (vi x0) (vi x1) (vi x2) w R E := by
 unfold a6S at h
 unfold F98
 refine a7 (i8 _ _ _ _ _ _) ?_
 refine k7 (fun c1D => ?_) (fun c1D => ?_)
 ·replace h := h.1 c1D
  refine g9 (cap := []) (fun args w => Tryz.call125 args w) ?_
  refine l7 (Fi := []) (Fr := []) I (h) (fun v_5 H_1 F_6 w_2 I_3 l_8 k_4 q_7 => ?_) (fun _ _ _ _ _ q => q.elim)
  obtain ⟨B2, b6j, rfl, rfl, h⟩ := q_7
  refine a7 (o2 _ _ (vi B2) rfl) ?_
  refine a7 (o2 _ _ (vi b6j) rfl) ?_
  exact hR B2 b6j H_1 _ I_3 h
 ·replace h := h.2 c1D
  refine a7 (i8 _ _ _ _ _ _) ?_
  refine k7 (fun c1A => ?_) (fun c1A => ?_)
  ·replace h := h.1 c1A
   refine g9 (cap := []) (fun args w => Tryz.call126 args w) ?_
   refine l7 (Fi := []) (Fr := []) I (h) (fun c5I a1h d6R P0 B1 c0E b6Y b6Z => ?_) (fun _ _ _ _ _ q => q.elim)
   obtain ⟨y9, b2p, rfl, rfl, h⟩ := b6Z
   refine a7 (o2 _ _ (vi y9) rfl) ?_
   refine a7 (o2 _ _ (vi b2p) rfl) ?_
   exact hR y9 b2p a1h _ B1 h
  ·replace h := h.2 c1A
   refine a7 (i8 _ _ _ _ _ _) ?_
   refine k7 (fun d2Y => ?_) (fun d2Y => ?_)
   ·replace h := h.1 d2Y
    refine g9 (cap := []) (fun args w => Tryz.call127 args w) ?_
    refine l7 (Fi := []) (Fr := []) I (h) (fun c3C Q4 e8K r9 a0h c3D b4p c5J => ?_) (fun _ _ _ _ _ q => q.elim)
    obtain ⟨E6, b6k, rfl, rfl, h⟩ := c5J
    refine a7 (o2 _ _ (vi E6) rfl) ?_
    refine a7 (o2 _ _ (vi b6k) rfl) ?_
    exact hR E6 b6k Q4 _ a0h h
   ·replace h := h.2 d2Y
    refine a7 (i8 _ _ _ _ _ _) ?_
    refine k7 (fun d2q => ?_) (fun d2q => ?_)
    ·replace h := h.1 d2q
     refine g9 (cap := []) (fun args w => Tryz.call128 args w) ?_
     refine l7 (Fi := []) (Fr := []) I (h) (fun f0z b1y b0L a4y T8 c5C a9i g1E => ?_) (fun _ _ _ _ _ q => q.elim)
     obtain ⟨a1v, d8Z, rfl, rfl, h⟩ := g1E
     refine a7 (o2 _ _ (vi a1v) rfl) ?_
     refine a7 (o2 _ _ (vi d8Z) rfl) ?_
     exact hR a1v d8Z b1y _ T8 h
    ·replace h := h.2 d2q
     refine a7 (i8 _ _ _ _ _ _) ?_
     refine k7 (fun d2E => ?_) (fun d2E => ?_)
     ·replace h := h.1 d2E
      refine g9 (cap := []) (fun args w => Tryz.call129 args w) ?_
      refine l7 (Fi := []) (Fr := []) I (h) (fun f0A a9k k2T C7 b4I d7j g1F g1G => ?_) (fun _ _ _ _ _ q => q.elim)
      obtain ⟨a2R, d9a, rfl, rfl, h⟩ := g1G
      refine a7 (o2 _ _ (vi a2R) rfl) ?_
      refine a7 (o2 _ _ (vi d9a) rfl) ?_
      exact hR a2R d9a a9k _ b4I h
     ·replace h := h.2 d2E
      refine g9 (cap := []) (fun args w => Tryz.call130 args w) ?_
      refine l7 (Fi := []) (Fr := []) I (h) (fun f0B a7K k2U b5A c9t e2A g1H g1I => ?_) (fun _ _ _ _ _ q => q.elim)
      obtain ⟨a5m, d9b, rfl, rfl, h⟩ := g1I
      refine a7 (o2 _ _ (vi a5m) rfl) ?_
      refine a7 (o2 _ _ (vi d9b) rfl) ?_
      exact hR a5m d9b a7K _ c9t h
theorem c3V (x0 : Int) (x1 : Int) (x2 : Int) {H : Hp} {K : Int → Int → Hp → Prop} (h : a6S x0 x1 x2 H K) : a9X x0 x1 x2 H K := by
 intro w I
 refine i7i ?_
 refine c2y x0 x1 x2 I (fun r0 r1 H' w' I' hk => ⟨H', _, I', r0, r1, rfl, rfl, hk⟩) h
def a5Z (x0 : Int) (x1 : Int) (x2 : Int) (H : Hp) (K : Bool → Hp → Prop) : Prop :=
 (x0 = 1 →
 K (decide (x1 < x2)) H) ∧
 (¬ (x0 = 1) →
 (x0 = 2 →
 K (decide (x1 ≤ x2)) H) ∧
 (¬ (x0 = 2) →
 (x0 = 3 →
 K (decide (x1 = x2)) H) ∧
 (¬ (x0 = 3) →
 (x0 = 4 →
 K (!decide (x1 = x2)) H) ∧
 (¬ (x0 = 4) →
 (x0 = 5 →
 K (decide (x2 < x1)) H) ∧
 (¬ (x0 = 5) →
 (x0 = 6 →
 K (decide (x2 ≤ x1)) H) ∧
 (¬ (x0 = 6) →
 K false H))))))
theorem c1R (x0 : Int) (x1 : Int) (x2 : Int) {K : Bool → Hp → Prop} (I : Inv w0 ps0 H0 H [] w) (hR : ∀ (r0 : Bool) (H' : Hp) (w' : World) (_ : Inv w0 ps0 H0 H' [] w') (_ : K r0 H'), R (vB r0) w') (h : a5Z x0 x1 x2 H K) : F96 (vi x0) (vi x1) (vi x2) w R E := by
 unfold a5Z at h
 unfold F96
 refine a7 (i8 _ _ _ _ _ _) ?_
 refine k7 (fun c_6 => ?_) (fun c_6 => ?_)
 ·replace h := h.1 c_6
  refine a7 (w9 _ _ _ _ _ _) ?_
  exact hR (decide (x1 < x2)) H _ I h
 ·replace h := h.2 c_6
  refine a7 (i8 _ _ _ _ _ _) ?_
  refine k7 (fun c_5 => ?_) (fun c_5 => ?_)
  ·replace h := h.1 c_5
   refine a7 (b3S _ _ _ _ _ _) ?_
   exact hR (decide (x1 ≤ x2)) H _ I h
  ·replace h := h.2 c_5
   refine a7 (i8 _ _ _ _ _ _) ?_
   refine k7 (fun c_4 => ?_) (fun c_4 => ?_)
   ·replace h := h.1 c_4
    refine a7 (i8 _ _ _ _ _ _) ?_
    exact hR (decide (x1 = x2)) H _ I h
   ·replace h := h.2 c_4
    refine a7 (i8 _ _ _ _ _ _) ?_
    refine k7 (fun c_3 => ?_) (fun c_3 => ?_)
    ·replace h := h.1 c_3
     refine a7 (M7 _ _ _ _ _ _) ?_
     exact hR (!decide (x1 = x2)) H _ I h
    ·replace h := h.2 c_3
     refine a7 (i8 _ _ _ _ _ _) ?_
     refine k7 (fun c_2 => ?_) (fun c_2 => ?_)
     ·replace h := h.1 c_2
      refine a7 (a4M _ _ _ _ _ _) ?_
      exact hR (decide (x2 < x1)) H _ I h
     ·replace h := h.2 c_2
      refine a7 (i8 _ _ _ _ _ _) ?_
      refine k7 (fun c_1 => ?_) (fun c_1 => ?_)
      ·replace h := h.1 c_1
       refine a7 (a7M _ _ _ _ _ _) ?_
       exact hR (decide (x2 ≤ x1)) H _ I h
      ·replace h := h.2 c_1
       exact hR false H _ I h
theorem c2z (x0 : Int) (x1 : Int) (x2 : Int) {H : Hp} {K : Bool → Hp → Prop} (h : a5Z x0 x1 x2 H K) : a9e x0 x1 x2 H K := by
 intro w I
 refine i7e ?_
 refine c1R x0 x1 x2 I (fun r0 H' w' I' hk => ⟨H', _, I', r0, rfl, rfl, hk⟩) h
end Go.Proofs.YtnhkdkcgdcgmdaaGreatDoor
