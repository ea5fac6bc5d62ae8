/- Typed formulas of the program's functions that few laws need; printed by lift.py off the code. -/
import Derived.Test.YtnhkdkcgdcgmdaaGreatDoorzPV1
import Derived.Test.YtnhkdkcgdcgmdaaGreatDoorzPG1r
namespace Go.Proofs.YtnhkdkcgdcgmdaaGreatDoor
open Go.RowKit
set_option maxRecDepth 100000
set_option maxHeartbeats 2000000
variable {w0 w : World} {ps0 : Nat → Prop} {H0 H : Hp} {R : RT} {E : Pan}
def a6G (x0 : Int) (x1 : Int) (H : Hp) (K : Int → Int → Hp → Prop) : Prop :=
 ((((decide (x0 < 0)) != (decide (x1 < 0))) && ((decide ((IntKind.wrap .i64 (x0 - x1)) < 0)) != (decide (x0 < 0)))) = true →
 K 0 1 H) ∧
 ((((decide (x0 < 0)) != (decide (x1 < 0))) && ((decide ((IntKind.wrap .i64 (x0 - x1)) < 0)) != (decide (x0 < 0)))) = false →
 K (IntKind.wrap .i64 (x0 - x1)) 0 H)
theorem c1z (x0 : Int) (x1 : Int) {K : Int → Int → Hp → Prop} (I : Inv w0 ps0 H0 H [] w) (hR : ∀ (r0 : Int) (r1 : Int) (H' : Hp) (w' : World) (_ : Inv w0 ps0 H0 H' [] w') (_ : K r0 r1 H'), R (Value.tuple #[(vi r0), (vi r1)]) w') (h : a6G x0 x1 H K) : d6L (vi x0) (vi x1) w R E := by
 unfold a6G at h
 unfold d6L
 refine a7 (b8D _ _ _ _ _ _) ?_
 refine a7 (C2 _ _ _ _ _ _) ?_
 refine a7 (C2 _ _ _ _ _ _) ?_
 refine a7 (b6I _ _ _ _) ?_
 simp only [Q0]
 refine a7 (Pu.g fun hb => by have i5 := hb; simp only [r8 i5]; exact (C2 _ _ _ _ _ _)) ?_
 refine a7 (Pu.g fun hb => by have i5 := hb; simp only [r8 i5]; exact (C2 _ _ _ _ _ _)) ?_
 refine a7 (Pu.g fun hb => by have i5 := hb; simp only [r8 i5]; exact (b6I _ _ _ _)) ?_
 refine a7 (P7 _ _) ?_
 refine s6 (fun c_1 => ?_) (fun c_1 => ?_)
 ·replace h := h.1 c_1
  exact hR 0 1 H _ I h
 ·replace h := h.2 c_1
  exact hR (IntKind.wrap .i64 (x0 - x1)) 0 H _ I h
theorem c2J (x0 : Int) (x1 : Int) {H : Hp} {K : Int → Int → Hp → Prop} (h : a6G x0 x1 H K) : a4A x0 x1 H K := by
 intro w I
 refine f1A ?_
 refine c1z x0 x1 I (fun r0 r1 H' w' I' hk => ⟨H', _, I', r0, r1, rfl, rfl, hk⟩) h
def a6H (x0 : Int) (H : Hp) (K : Int → Int → Hp → Prop) : Prop :=
 a4A 0 x0 H (fun (M3 : Int) (d7c : Int) (H_1 : Hp) =>
 K M3 d7c H_1)
theorem c1A (x0 : Int) {K : Int → Int → Hp → Prop} (I : Inv w0 ps0 H0 H [] w) (hR : ∀ (r0 : Int) (r1 : Int) (H' : Hp) (w' : World) (_ : Inv w0 ps0 H0 H' [] w') (_ : K r0 r1 H'), R (Value.tuple #[(vi r0), (vi r1)]) w') (h : a6H x0 H K) : d6J (vi x0) w R E := by
 unfold a6H at h
 unfold d6J
 refine d8 (cap := []) (fun args w => Tryz.call114 args w) ?_
 refine m4 (Fi := []) (Fr := []) I (h) (fun v_5 H_1 F_6 w_2 I_3 l_8 k_4 q_7 => ?_) (fun _ _ _ _ _ q => q.elim)
 obtain ⟨M3, d7c, rfl, rfl, h⟩ := q_7
 refine a7 (m2 _ _ (vi M3) rfl) ?_
 refine a7 (m2 _ _ (vi d7c) rfl) ?_
 exact hR M3 d7c H_1 _ I_3 h
theorem c2K (x0 : Int) {H : Hp} {K : Int → Int → Hp → Prop} (h : a6H x0 H K) : a6r x0 H K := by
 intro w I
 refine f1w ?_
 refine c1A x0 I (fun r0 r1 H' w' I' hk => ⟨H', _, I', r0, r1, rfl, rfl, hk⟩) h
def a6I (x0 : Int) (x1 : Int) (H : Hp) (K : Int → Int → Hp → Prop) : Prop :=
 ((((decide (x0 < 0)) == (decide (x1 < 0))) && ((decide ((IntKind.wrap .i64 (x0 + x1)) < 0)) != (decide (x0 < 0)))) = true →
 K 0 1 H) ∧
 ((((decide (x0 < 0)) == (decide (x1 < 0))) && ((decide ((IntKind.wrap .i64 (x0 + x1)) < 0)) != (decide (x0 < 0)))) = false →
 K (IntKind.wrap .i64 (x0 + x1)) 0 H)
theorem c1B (x0 : Int) (x1 : Int) {K : Int → Int → Hp → Prop} (I : Inv w0 ps0 H0 H [] w) (hR : ∀ (r0 : Int) (r1 : Int) (H' : Hp) (w' : World) (_ : Inv w0 ps0 H0 H' [] w') (_ : K r0 r1 H'), R (Value.tuple #[(vi r0), (vi r1)]) w') (h : a6I x0 x1 H K) : d6K (vi x0) (vi x1) w R E := by
 unfold a6I at h
 unfold d6K
 refine a7 (J8 _ _ _ _ _ _) ?_
 refine a7 (C2 _ _ _ _ _ _) ?_
 refine a7 (C2 _ _ _ _ _ _) ?_
 refine a7 (e3x _ _ _ _) ?_
 simp only [Q0]
 refine a7 (Pu.g fun hb => by have i5 := hb; simp only [r8 i5]; exact (C2 _ _ _ _ _ _)) ?_
 refine a7 (Pu.g fun hb => by have i5 := hb; simp only [r8 i5]; exact (C2 _ _ _ _ _ _)) ?_
 refine a7 (Pu.g fun hb => by have i5 := hb; simp only [r8 i5]; exact (b6I _ _ _ _)) ?_
 refine a7 (P7 _ _) ?_
 refine s6 (fun c_1 => ?_) (fun c_1 => ?_)
 ·replace h := h.1 c_1
  exact hR 0 1 H _ I h
 ·replace h := h.2 c_1
  exact hR (IntKind.wrap .i64 (x0 + x1)) 0 H _ I h
theorem c2L (x0 : Int) (x1 : Int) {H : Hp} {K : Int → Int → Hp → Prop} (h : a6I x0 x1 H K) : a6s x0 x1 H K := by
 intro w I
 refine f1y ?_
 refine c1B x0 x1 I (fun r0 r1 H' w' I' hk => ⟨H', _, I', r0, r1, rfl, rfl, hk⟩) h
def a5H (x0 : Int) (H : Hp) (K : Int → Hp → Prop) : Prop :=
 (x0 < 0 →
 K (IntKind.wrap .u64 (0 - (IntKind.wrap .u64 x0))) H) ∧
 (¬ (x0 < 0) →
 K (IntKind.wrap .u64 x0) H)
theorem b9L (x0 : Int) {K : Int → Hp → Prop} (I : Inv w0 ps0 H0 H [] w) (hR : ∀ (r0 : Int) (H' : Hp) (w' : World) (_ : Inv w0 ps0 H0 H' [] w') (_ : K r0 H'), R (Value.int .u64 r0) w') (h : a5H x0 H K) : d6U (vi x0) w R E := by
 unfold a5H at h
 unfold d6U
 refine a7 (C2 _ _ _ _ _ _) ?_
 refine i8 (fun c_1 => ?_) (fun c_1 => ?_)
 ·replace h := h.1 c_1
  refine a7 (c1O _ _) ?_
  refine a7 (c3w _ _) ?_
  exact hR (IntKind.wrap .u64 (0 - (IntKind.wrap .u64 x0))) H _ I h
 ·replace h := h.2 c_1
  refine a7 (c1O _ _) ?_
  exact hR (IntKind.wrap .u64 x0) H _ I h
theorem c1C (x0 : Int) {H : Hp} {K : Int → Hp → Prop} (h : a5H x0 H K) : a5A x0 H K := by
 intro w I
 refine f1M ?_
 refine b9L x0 I (fun r0 H' w' I' hk => ⟨H', _, I', r0, rfl, rfl, hk⟩) h
def a5I (x0 : Int) (x1 : Int) (H : Hp) (K : Int → Int → Hp → Prop) : Prop :=
 K (IntKind.wrap .u64 ((IntKind.wrap .u64 ((IntKind.wrap .u64 ((Int.fdiv x0 (2 ^ 32)) * (Int.fdiv x1 (2 ^ 32)))) + (Int.fdiv (IntKind.wrap .u64 ((IntKind.wrap .u64 ((Int.fdiv x0 (2 ^ 32)) * (bandI .u64 x1 4294967295))) + (Int.fdiv (IntKind.wrap .u64 ((bandI .u64 x0 4294967295) * (bandI .u64 x1 4294967295))) (2 ^ 32)))) (2 ^ 32)))) + (Int.fdiv (IntKind.wrap .u64 ((bandI .u64 (IntKind.wrap .u64 ((IntKind.wrap .u64 ((Int.fdiv x0 (2 ^ 32)) * (bandI .u64 x1 4294967295))) + (Int.fdiv (IntKind.wrap .u64 ((bandI .u64 x0 4294967295) * (bandI .u64 x1 4294967295))) (2 ^ 32)))) 4294967295) + (IntKind.wrap .u64 ((bandI .u64 x0 4294967295) * (Int.fdiv x1 (2 ^ 32)))))) (2 ^ 32)))) (IntKind.wrap .u64 (x0 * x1)) H
theorem b9M (x0 : Int) (x1 : Int) {K : Int → Int → Hp → Prop} (I : Inv w0 ps0 H0 H [] w) (hR : ∀ (r0 : Int) (r1 : Int) (H' : Hp) (w' : World) (_ : Inv w0 ps0 H0 H' [] w') (_ : K r0 r1 H'), R (Value.tuple #[(Value.int .u64 r0), (Value.int .u64 r1)]) w') (h : a5I x0 x1 H K) : d6T (Value.int .u64 x0) (Value.int .u64 x1) w R E := by
 unfold a5I at h
 unfold d6T
 refine a7 (c5q _ _ _ _ _ _) ?_
 refine a7 (b8E _ _ _ _ _ _ _ (by decide) (by decide)) ?_
 refine a7 (c5q _ _ _ _ _ _) ?_
 refine a7 (b8E _ _ _ _ _ _ _ (by decide) (by decide)) ?_
 refine a7 (b5C _ _ _ _ _ _) ?_
 refine a7 (b5C _ _ _ _ _ _) ?_
 refine a7 (b8E _ _ _ _ _ _ _ (by decide) (by decide)) ?_
 refine a7 (J8 _ _ _ _ _ _) ?_
 refine a7 (c5q _ _ _ _ _ _) ?_
 refine a7 (b8E _ _ _ _ _ _ _ (by decide) (by decide)) ?_
 refine a7 (b5C _ _ _ _ _ _) ?_
 refine a7 (J8 _ _ _ _ _ _) ?_
 refine a7 (b5C _ _ _ _ _ _) ?_
 refine a7 (J8 _ _ _ _ _ _) ?_
 refine a7 (b8E _ _ _ _ _ _ _ (by decide) (by decide)) ?_
 refine a7 (J8 _ _ _ _ _ _) ?_
 refine a7 (b5C _ _ _ _ _ _) ?_
 exact hR (IntKind.wrap .u64 ((IntKind.wrap .u64 ((IntKind.wrap .u64 ((Int.fdiv x0 (2 ^ 32)) * (Int.fdiv x1 (2 ^ 32)))) + (Int.fdiv (IntKind.wrap .u64 ((IntKind.wrap .u64 ((Int.fdiv x0 (2 ^ 32)) * (bandI .u64 x1 4294967295))) + (Int.fdiv (IntKind.wrap .u64 ((bandI .u64 x0 4294967295) * (bandI .u64 x1 4294967295))) (2 ^ 32)))) (2 ^ 32)))) + (Int.fdiv (IntKind.wrap .u64 ((bandI .u64 (IntKind.wrap .u64 ((IntKind.wrap .u64 ((Int.fdiv x0 (2 ^ 32)) * (bandI .u64 x1 4294967295))) + (Int.fdiv (IntKind.wrap .u64 ((bandI .u64 x0 4294967295) * (bandI .u64 x1 4294967295))) (2 ^ 32)))) 4294967295) + (IntKind.wrap .u64 ((bandI .u64 x0 4294967295) * (Int.fdiv x1 (2 ^ 32)))))) (2 ^ 32)))) (IntKind.wrap .u64 (x0 * x1)) H _ I h
theorem c1D (x0 : Int) (x1 : Int) {H : Hp} {K : Int → Int → Hp → Prop} (h : a5I x0 x1 H K) : a8l x0 x1 H K := by
 intro w I
 refine f1K ?_
 refine b9M x0 x1 I (fun r0 r1 H' w' I' hk => ⟨H', _, I', r0, r1, rfl, rfl, hk⟩) h
def a0v (d6y : Int) (d0N : Int) (g1V : Int) (b7y : Int) (c6l : Int) (H : Hp) (K : Int → Int → Hp → Prop) : Prop :=
 (((!decide (g1V = 0)) || (decide (c6l < b7y))) = true →
 K 0 1 H) ∧
 (((!decide (g1V = 0)) || (decide (c6l < b7y))) = false →
 K (IntKind.wrap .i64 (d6y * d0N)) 0 H)
def a6J (x0 : Int) (x1 : Int) (H : Hp) (K : Int → Int → Hp → Prop) : Prop :=
 a5A x0 H (fun (M3 : Int) (H_1 : Hp) =>
 a5A x1 H_1 (fun (L4 : Int) (a5t : Hp) =>
 a8l M3 L4 a5t (fun (a2i : Int) (c0Y : Int) (a4g : Hp) =>
 (((decide (x0 < 0)) != (decide (x1 < 0))) = true →
 a0v x0 x1 a2i c0Y (IntKind.wrap .u64 (9223372036854775807 + 1)) a4g K) ∧
 (((decide (x0 < 0)) != (decide (x1 < 0))) = false →
 a0v x0 x1 a2i c0Y 9223372036854775807 a4g K))))
theorem c1E (x0 : Int) (x1 : Int) {K : Int → Int → Hp → Prop} (I : Inv w0 ps0 H0 H [] w) (hR : ∀ (r0 : Int) (r1 : Int) (H' : Hp) (w' : World) (_ : Inv w0 ps0 H0 H' [] w') (_ : K r0 r1 H'), R (Value.tuple #[(vi r0), (vi r1)]) w') (h : a6J x0 x1 H K) : d6M (vi x0) (vi x1) w R E := by
 unfold a6J at h
 unfold d6M
 refine d8 (cap := []) (fun args w => Tryz.call147 args w) ?_
 refine m4 (Fi := []) (Fr := []) I (h) (fun v_5 H_1 F_6 w_2 I_3 l_8 k_4 q_7 => ?_) (fun _ _ _ _ _ q => q.elim)
 obtain ⟨M3, rfl, rfl, h⟩ := q_7
 refine d8 (cap := []) (fun args w => Tryz.call147 args w) ?_
 refine m4 (Fi := []) (Fr := []) I_3 (h) (fun c9R a5t g0w R7 D8 c2c b6S c9T => ?_) (fun _ _ _ _ _ q => q.elim)
 obtain ⟨L4, rfl, rfl, h⟩ := c9T
 refine d8 (cap := []) (fun args w => Tryz.call146 args w) ?_
 refine m4 (Fi := []) (Fr := []) D8 (h) (fun d6d a4g h6Z t7 a0B c9V b6T e3E => ?_) (fun _ _ _ _ _ q => q.elim)
 obtain ⟨a2i, c0Y, rfl, rfl, h⟩ := e3E
 refine a7 (m2 _ _ (Value.int .u64 a2i) rfl) ?_
 refine a7 (m2 _ _ (Value.int .u64 c0Y) rfl) ?_
 have hj1 : ∀ (c6l : Int) (H : Hp) (w : World) (_ : Inv w0 ps0 H0 H [] w) (_ : a0v x0 x1 a2i c0Y c6l H K), c6k (vi x0) (vi x1) (Value.int .u64 a2i) (Value.int .u64 c0Y) (Value.int .u64 c6l) w R E := by
  intro c6l H w I h
  unfold c6k
  intro _
  unfold a0v at h
  refine a7 (T0 _ _ _ _ _ _) ?_
  simp only [Q0]
  refine a7 (Pu.g fun hb => by have i5 := hb; simp only [r8 i5]; exact (a3q _ _ _ _ _ _)) ?_
  refine a7 (a0E _ _) ?_
  refine s6 (fun e5d => ?_) (fun e5d => ?_)
  ·replace h := h.1 e5d
   exact hR 0 1 H _ I h
  ·replace h := h.2 e5d
   refine a7 (b5C _ _ _ _ _ _) ?_
   exact hR (IntKind.wrap .i64 (x0 * x1)) 0 H _ I h
 refine v8 fun j1 hx1 => ?_
 refine a7 (C2 _ _ _ _ _ _) ?_
 refine a7 (C2 _ _ _ _ _ _) ?_
 refine a7 (b6I _ _ _ _) ?_
 refine s6 (fun c2g => ?_) (fun c2g => ?_)
 ·replace h := h.1 c2g
  refine a7 (J8 _ _ _ _ _ _) ?_
  exact hx1 _ _ (hj1 (IntKind.wrap .u64 (9223372036854775807 + 1)) a4g _ a0B h)
 ·replace h := h.2 c2g
  exact hx1 _ _ (hj1 9223372036854775807 a4g _ a0B h)
theorem c2M (x0 : Int) (x1 : Int) {H : Hp} {K : Int → Int → Hp → Prop} (h : a6J x0 x1 H K) : a6t x0 x1 H K := by
 intro w I
 refine f1C ?_
 refine c1E x0 x1 I (fun r0 r1 H' w' I' hk => ⟨H', _, I', r0, r1, rfl, rfl, hk⟩) h
def a4s (x0 : Int) (x1 : Int) (H : Hp) (K : Int → Hp → Prop) : Prop :=
 (x1 = 0 →
 K 2 H) ∧
 (¬ (x1 = 0) →
 (((decide (x0 = (-9223372036854775808))) && (decide (x1 = (-1)))) = true →
 K 1 H) ∧
 (((decide (x0 = (-9223372036854775808))) && (decide (x1 = (-1)))) = false →
 K 0 H))
theorem b5V (x0 : Int) (x1 : Int) {K : Int → Hp → Prop} (I : Inv w0 ps0 H0 H [] w) (hR : ∀ (r0 : Int) (H' : Hp) (w' : World) (_ : Inv w0 ps0 H0 H' [] w') (_ : K r0 H'), R (vi r0) w') (h : a4s x0 x1 H K) : d6V (vi x0) (vi x1) w R E := by
 unfold a4s at h
 unfold d6V
 refine a7 (m5 _ _ _ _ _ _) ?_
 refine i8 (fun c_2 => ?_) (fun c_2 => ?_)
 ·replace h := h.1 c_2
  exact hR 2 H _ I h
 ·replace h := h.2 c_2
  refine a7 (m5 _ _ _ _ _ _) ?_
  simp only [Q0]
  refine a7 (Pu.g fun hb => by have i5 := hb; simp only [r8 i5]; exact (m5 _ _ _ _ _ _)) ?_
  refine a7 (P7 _ _) ?_
  refine s6 (fun c_1 => ?_) (fun c_1 => ?_)
  ·replace h := h.1 c_1
   exact hR 1 H _ I h
  ·replace h := h.2 c_1
   exact hR 0 H _ I h
theorem b7z (x0 : Int) (x1 : Int) {H : Hp} {K : Int → Hp → Prop} (h : a4s x0 x1 H K) : a4d x0 x1 H K := by
 intro w I
 refine f1O ?_
 refine b5V x0 x1 I (fun r0 H' w' I' hk => ⟨H', _, I', r0, rfl, rfl, hk⟩) h
def a8X (x0 : Int) (x1 : Int) (H : Hp) (K : Int → Int → Hp → Prop) : Prop :=
 a4d x0 x1 H (fun (M3 : Int) (H_1 : Hp) =>
 (¬ (M3 = 0) →
 K 0 M3 H_1) ∧
 (M3 = 0 →
 (x1 : Int) ≠ 0 ∧
 K (IntKind.wrap .i64 (Int.tdiv x0 x1)) 0 H_1))
theorem c1F (x0 : Int) (x1 : Int) {K : Int → Int → Hp → Prop} (I : Inv w0 ps0 H0 H [] w) (hR : ∀ (r0 : Int) (r1 : Int) (H' : Hp) (w' : World) (_ : Inv w0 ps0 H0 H' [] w') (_ : K r0 r1 H'), R (Value.tuple #[(vi r0), (vi r1)]) w') (h : a8X x0 x1 H K) : d6Q (vi x0) (vi x1) w R E := by
 unfold a8X at h
 unfold d6Q
 refine d8 (cap := []) (fun args w => Tryz.call148 args w) ?_
 refine m4 (Fi := []) (Fr := []) I (h) (fun v_5 H_1 F_6 w_2 I_3 l_8 k_4 q_7 => ?_) (fun _ _ _ _ _ q => q.elim)
 obtain ⟨M3, rfl, rfl, h⟩ := q_7
 refine a7 (T0 _ _ _ _ _ _) ?_
 refine a2C (fun b3g => ?_) (fun b3g => ?_)
 ·replace h := h.1 b3g
  exact hR 0 M3 H_1 _ I_3 h
 ·replace h := h.2 b3g
  obtain ⟨b3i, h⟩ := h
  refine a7 (f5V _ _ _ _ _ _ b3i) ?_
  exact hR (IntKind.wrap .i64 (Int.tdiv x0 x1)) 0 H_1 _ I_3 h
theorem c2N (x0 : Int) (x1 : Int) {H : Hp} {K : Int → Int → Hp → Prop} (h : a8X x0 x1 H K) : a6u x0 x1 H K := by
 intro w I
 refine f1E ?_
 refine c1F x0 x1 I (fun r0 r1 H' w' I' hk => ⟨H', _, I', r0, r1, rfl, rfl, hk⟩) h
def a8Y (x0 : Int) (x1 : Int) (H : Hp) (K : Int → Int → Hp → Prop) : Prop :=
 a4d x0 x1 H (fun (M3 : Int) (H_1 : Hp) =>
 (¬ (M3 = 0) →
 K 0 M3 H_1) ∧
 (M3 = 0 →
 (x1 : Int) ≠ 0 ∧
 K (Int.tmod x0 x1) 0 H_1))
theorem c1G (x0 : Int) (x1 : Int) {K : Int → Int → Hp → Prop} (I : Inv w0 ps0 H0 H [] w) (hR : ∀ (r0 : Int) (r1 : Int) (H' : Hp) (w' : World) (_ : Inv w0 ps0 H0 H' [] w') (_ : K r0 r1 H'), R (Value.tuple #[(vi r0), (vi r1)]) w') (h : a8Y x0 x1 H K) : d6R (vi x0) (vi x1) w R E := by
 unfold a8Y at h
 unfold d6R
 refine d8 (cap := []) (fun args w => Tryz.call148 args w) ?_
 refine m4 (Fi := []) (Fr := []) I (h) (fun v_5 H_1 F_6 w_2 I_3 l_8 k_4 q_7 => ?_) (fun _ _ _ _ _ q => q.elim)
 obtain ⟨M3, rfl, rfl, h⟩ := q_7
 refine a7 (T0 _ _ _ _ _ _) ?_
 refine a2C (fun b3g => ?_) (fun b3g => ?_)
 ·replace h := h.1 b3g
  exact hR 0 M3 H_1 _ I_3 h
 ·replace h := h.2 b3g
  obtain ⟨b3i, h⟩ := h
  refine a7 (f5W _ _ _ _ _ _ b3i) ?_
  exact hR (Int.tmod x0 x1) 0 H_1 _ I_3 h
theorem c2O (x0 : Int) (x1 : Int) {H : Hp} {K : Int → Int → Hp → Prop} (h : a8Y x0 x1 H K) : a6v x0 x1 H K := by
 intro w I
 refine f1G ?_
 refine c1G x0 x1 I (fun r0 r1 H' w' I' hk => ⟨H', _, I', r0, r1, rfl, rfl, hk⟩) h
def a3G (H : Hp) (K : Hp → Prop) : Prop :=
 K H
theorem b5i {K : Hp → Prop} (I : Inv w0 ps0 H0 H [] w) (hR : ∀ (H' : Hp) (w' : World) (_ : Inv w0 ps0 H0 H' [] w') (_ : K H'), R (Value.agg #[(fC 149), (fC 150), (fC 151), (fC 152), (fC 153), (fC 154), (fC 155)]) w') (h : a3G H K) : d6S w R E := by
 unfold a3G at h
 unfold d6S
 refine u1 I Tryz.zeroValue177 (cs := [Value.nilFunc, Value.nilFunc, Value.nilFunc, Value.nilFunc, Value.nilFunc, Value.nilFunc, Value.nilFunc]) rfl fun g_2 w_3 I_4 k_5 => ?_
 refine a7 a6U ?_
 refine l9 I_4 Tryz.sizeOf177 (vs := [(fC 149), (fC 150), (fC 151), (fC 152), (fC 153), (fC 154), (fC 155)]) (cs' := [(fC 149), (fC 150), (fC 151), (fC 152), (fC 153), (fC 154), (fC 155)]) rfl rfl (nb rfl) rfl rfl fun w_6 I_7 k_8 => ?_
 refine J0 Tryz.isAgg177 Tryz.sizeOf177 rfl (I_7.at1 (o := 0) (vs := [(fC 149), (fC 150), (fC 151), (fC 152), (fC 153), (fC 154), (fC 155)]) (nb rfl) rfl) ?_
 exact hR H _ I_7.drop h
theorem b5W {H : Hp} {K : Hp → Prop} (h : a3G H K) : a5U H K := by
 intro w I
 refine f1I ?_
 refine b5i I (fun H' w' I' hk => ⟨H', _, I', rfl, rfl, hk⟩) h
def a2o (x0 : Int) (x1 : Int) (H : Hp) (K : Bool → Hp → Prop) : Prop :=
 K (decide (x0 < x1)) H
theorem b3u (x0 : Int) (x1 : Int) {K : Bool → Hp → Prop} (I : Inv w0 ps0 H0 H [] w) (hR : ∀ (r0 : Bool) (H' : Hp) (w' : World) (_ : Inv w0 ps0 H0 H' [] w') (_ : K r0 H'), R (vB r0) w') (h : a2o x0 x1 H K) : d6W (vi x0) (vi x1) w R E := by
 unfold a2o at h
 unfold d6W
 refine a7 (C2 _ _ _ _ _ _) ?_
 exact hR (decide (x0 < x1)) H _ I h
theorem b3Z (x0 : Int) (x1 : Int) {H : Hp} {K : Bool → Hp → Prop} (h : a2o x0 x1 H K) : a8e x0 x1 H K := by
 intro w I
 refine f1Q ?_
 refine b3u x0 x1 I (fun r0 H' w' I' hk => ⟨H', _, I', r0, rfl, rfl, hk⟩) h
def a2p (x0 : Int) (x1 : Int) (H : Hp) (K : Bool → Hp → Prop) : Prop :=
 K (decide (x0 ≤ x1)) H
theorem b3v (x0 : Int) (x1 : Int) {K : Bool → Hp → Prop} (I : Inv w0 ps0 H0 H [] w) (hR : ∀ (r0 : Bool) (H' : Hp) (w' : World) (_ : Inv w0 ps0 H0 H' [] w') (_ : K r0 H'), R (vB r0) w') (h : a2p x0 x1 H K) : d6X (vi x0) (vi x1) w R E := by
 unfold a2p at h
 unfold d6X
 refine a7 (b8C _ _ _ _ _ _) ?_
 exact hR (decide (x0 ≤ x1)) H _ I h
theorem b4a (x0 : Int) (x1 : Int) {H : Hp} {K : Bool → Hp → Prop} (h : a2p x0 x1 H K) : a8f x0 x1 H K := by
 intro w I
 refine f1S ?_
 refine b3v x0 x1 I (fun r0 H' w' I' hk => ⟨H', _, I', r0, rfl, rfl, hk⟩) h
def a2q (x0 : Int) (x1 : Int) (H : Hp) (K : Bool → Hp → Prop) : Prop :=
 K (decide (x0 = x1)) H
theorem b3w (x0 : Int) (x1 : Int) {K : Bool → Hp → Prop} (I : Inv w0 ps0 H0 H [] w) (hR : ∀ (r0 : Bool) (H' : Hp) (w' : World) (_ : Inv w0 ps0 H0 H' [] w') (_ : K r0 H'), R (vB r0) w') (h : a2q x0 x1 H K) : d6Y (vi x0) (vi x1) w R E := by
 unfold a2q at h
 unfold d6Y
 refine a7 (m5 _ _ _ _ _ _) ?_
 exact hR (decide (x0 = x1)) H _ I h
theorem b4b (x0 : Int) (x1 : Int) {H : Hp} {K : Bool → Hp → Prop} (h : a2q x0 x1 H K) : a8g x0 x1 H K := by
 intro w I
 refine f1U ?_
 refine b3w x0 x1 I (fun r0 H' w' I' hk => ⟨H', _, I', r0, rfl, rfl, hk⟩) h
def a2r (x0 : Int) (x1 : Int) (H : Hp) (K : Bool → Hp → Prop) : Prop :=
 K (!decide (x0 = x1)) H
theorem b3x (x0 : Int) (x1 : Int) {K : Bool → Hp → Prop} (I : Inv w0 ps0 H0 H [] w) (hR : ∀ (r0 : Bool) (H' : Hp) (w' : World) (_ : Inv w0 ps0 H0 H' [] w') (_ : K r0 H'), R (vB r0) w') (h : a2r x0 x1 H K) : d6Z (vi x0) (vi x1) w R E := by
 unfold a2r at h
 unfold d6Z
 refine a7 (T0 _ _ _ _ _ _) ?_
 exact hR (!decide (x0 = x1)) H _ I h
theorem b4c (x0 : Int) (x1 : Int) {H : Hp} {K : Bool → Hp → Prop} (h : a2r x0 x1 H K) : a8h x0 x1 H K := by
 intro w I
 refine f1W ?_
 refine b3x x0 x1 I (fun r0 H' w' I' hk => ⟨H', _, I', r0, rfl, rfl, hk⟩) h
def a2s (x0 : Int) (x1 : Int) (H : Hp) (K : Bool → Hp → Prop) : Prop :=
 K (decide (x1 < x0)) H
theorem b3y (x0 : Int) (x1 : Int) {K : Bool → Hp → Prop} (I : Inv w0 ps0 H0 H [] w) (hR : ∀ (r0 : Bool) (H' : Hp) (w' : World) (_ : Inv w0 ps0 H0 H' [] w') (_ : K r0 H'), R (vB r0) w') (h : a2s x0 x1 H K) : d7a (vi x0) (vi x1) w R E := by
 unfold a2s at h
 unfold d7a
 refine a7 (a3q _ _ _ _ _ _) ?_
 exact hR (decide (x1 < x0)) H _ I h
theorem b4d (x0 : Int) (x1 : Int) {H : Hp} {K : Bool → Hp → Prop} (h : a2s x0 x1 H K) : a8i x0 x1 H K := by
 intro w I
 refine f1Y ?_
 refine b3y x0 x1 I (fun r0 H' w' I' hk => ⟨H', _, I', r0, rfl, rfl, hk⟩) h
def a2t (x0 : Int) (x1 : Int) (H : Hp) (K : Bool → Hp → Prop) : Prop :=
 K (decide (x1 ≤ x0)) H
theorem b3z (x0 : Int) (x1 : Int) {K : Bool → Hp → Prop} (I : Inv w0 ps0 H0 H [] w) (hR : ∀ (r0 : Bool) (H' : Hp) (w' : World) (_ : Inv w0 ps0 H0 H' [] w') (_ : K r0 H'), R (vB r0) w') (h : a2t x0 x1 H K) : d7b (vi x0) (vi x1) w R E := by
 unfold a2t at h
 unfold d7b
 refine a7 (b5B _ _ _ _ _ _) ?_
 exact hR (decide (x1 ≤ x0)) H _ I h
theorem b4e (x0 : Int) (x1 : Int) {H : Hp} {K : Bool → Hp → Prop} (h : a2t x0 x1 H K) : a8j x0 x1 H K := by
 intro w I
 refine f2a ?_
 refine b3z x0 x1 I (fun r0 H' w' I' hk => ⟨H', _, I', r0, rfl, rfl, hk⟩) h
def a6K (x0 : Int) (x1 : Int) (x2 : Int) (H : Hp) (K : Bool → Hp → Prop) : Prop :=
 (((decide (x0 < 1)) || (decide (6 < x0))) = true →
 K false H) ∧
 (((decide (x0 < 1)) || (decide (6 < x0))) = false →
 a5U H (fun (H_1 : Hp) =>
 (0 : Int) ≤ x0 ∧ (x0 : Int) < 7 ∧
 ∃ b5j : Bool → Hp → Prop, (∀ (a3j : Bool) (a4S : Hp), b5j a3j a4S →
 K a3j a4S) ∧ ((x0 : Int) = 0 → b9n x1 x2 H_1 b5j) ∧ ((x0 : Int) = 1 → a8e x1 x2 H_1 b5j) ∧ ((x0 : Int) = 2 → a8f x1 x2 H_1 b5j) ∧ ((x0 : Int) = 3 → a8g x1 x2 H_1 b5j) ∧ ((x0 : Int) = 4 → a8h x1 x2 H_1 b5j) ∧ ((x0 : Int) = 5 → a8i x1 x2 H_1 b5j) ∧ ((x0 : Int) = 6 → a8j x1 x2 H_1 b5j)))
theorem c1H (x0 : Int) (x1 : Int) (x2 : Int) {K : Bool → Hp → Prop} (I : Inv w0 ps0 H0 H [] w) (hR : ∀ (r0 : Bool) (H' : Hp) (w' : World) (_ : Inv w0 ps0 H0 H' [] w') (_ : K r0 H'), R (vB r0) w') (h : a6K x0 x1 x2 H K) : F73 (vi x0) (vi x1) (vi x2) w R E := by
 unfold a6K at h
 unfold F73
 refine a7 (C2 _ _ _ _ _ _) ?_
 simp only [Q0]
 refine a7 (Pu.g fun hb => by have i5 := hb; simp only [r8 i5]; exact (a3q _ _ _ _ _ _)) ?_
 refine a7 (a0E _ _) ?_
 refine s6 (fun c2f => ?_) (fun c2f => ?_)
 ·replace h := h.1 c2f
  exact hR false H _ I h
 ·replace h := h.2 c2f
  refine d8 (cap := []) (fun args w => Tryz.call118 args w) ?_
  refine m4 (Fi := []) (Fr := []) I (h) (fun v_5 H_1 F_6 w_2 I_3 l_8 k_4 q_7 => ?_) (fun _ _ _ _ _ q => q.elim)
  obtain ⟨rfl, rfl, h⟩ := q_7
  obtain ⟨b3i, d7d, h⟩ := h
  refine a7 (Y9 _ _ b3i d7d) ?_
  obtain ⟨b5j, e4L, c2D, d0B, b7u, b0x, e5e, d0O, a4D⟩ := h
  refine e9y (D := fun b7A Z2 => ∃ (a3j : Bool) (a4S : Hp), b7A = (vB a3j) ∧ (Inv w0 ps0 H0 a4S [] Z2) ∧ (∀ i, i < w_2.heap.size → ¬ inF [] i → Z2.heap[i]? = w_2.heap[i]?) ∧ Hle H_1 a4S ∧ (b5j a3j a4S)) ?_ ?_
  ·obtain e | e | e | e | e | e | e := (by omega : (x0 : Int) = 0 ∨ (x0 : Int) = 1 ∨ (x0 : Int) = 2 ∨ (x0 : Int) = 3 ∨ (x0 : Int) = 4 ∨ (x0 : Int) = 5 ∨ (x0 : Int) = 6)
   ·replace h := c2D e
    refine b4m (s' := xCall (fC 149) [(vi x1), (vi x2)]) (by rw [e]; rfl) ?_
    refine d8 (cap := []) (fun args w => Tryz.call149 args w) ?_
    refine m4 (Fi := []) (Fr := []) I_3 (h) (fun b7A a4S c6m Z2 P0 a5O a3P b0y => ?_) (fun _ _ _ _ _ q => q.elim)
    obtain ⟨a3j, rfl, rfl, h⟩ := b0y
    exact ⟨a3j, a4S, rfl, P0, a3P, a5O, h⟩
   ·replace h := d0B e
    refine b4m (s' := xCall (fC 150) [(vi x1), (vi x2)]) (by rw [e]; rfl) ?_
    refine d8 (cap := []) (fun args w => Tryz.call150 args w) ?_
    refine m4 (Fi := []) (Fr := []) I_3 (h) (fun b7A a4S c6m Z2 P0 a5O a3P b0y => ?_) (fun _ _ _ _ _ q => q.elim)
    obtain ⟨a3j, rfl, rfl, h⟩ := b0y
    exact ⟨a3j, a4S, rfl, P0, a3P, a5O, h⟩
   ·replace h := b7u e
    refine b4m (s' := xCall (fC 151) [(vi x1), (vi x2)]) (by rw [e]; rfl) ?_
    refine d8 (cap := []) (fun args w => Tryz.call151 args w) ?_
    refine m4 (Fi := []) (Fr := []) I_3 (h) (fun b7A a4S c6m Z2 P0 a5O a3P b0y => ?_) (fun _ _ _ _ _ q => q.elim)
    obtain ⟨a3j, rfl, rfl, h⟩ := b0y
    exact ⟨a3j, a4S, rfl, P0, a3P, a5O, h⟩
   ·replace h := b0x e
    refine b4m (s' := xCall (fC 152) [(vi x1), (vi x2)]) (by rw [e]; rfl) ?_
    refine d8 (cap := []) (fun args w => Tryz.call152 args w) ?_
    refine m4 (Fi := []) (Fr := []) I_3 (h) (fun b7A a4S c6m Z2 P0 a5O a3P b0y => ?_) (fun _ _ _ _ _ q => q.elim)
    obtain ⟨a3j, rfl, rfl, h⟩ := b0y
    exact ⟨a3j, a4S, rfl, P0, a3P, a5O, h⟩
   ·replace h := e5e e
    refine b4m (s' := xCall (fC 153) [(vi x1), (vi x2)]) (by rw [e]; rfl) ?_
    refine d8 (cap := []) (fun args w => Tryz.call153 args w) ?_
    refine m4 (Fi := []) (Fr := []) I_3 (h) (fun b7A a4S c6m Z2 P0 a5O a3P b0y => ?_) (fun _ _ _ _ _ q => q.elim)
    obtain ⟨a3j, rfl, rfl, h⟩ := b0y
    exact ⟨a3j, a4S, rfl, P0, a3P, a5O, h⟩
   ·replace h := d0O e
    refine b4m (s' := xCall (fC 154) [(vi x1), (vi x2)]) (by rw [e]; rfl) ?_
    refine d8 (cap := []) (fun args w => Tryz.call154 args w) ?_
    refine m4 (Fi := []) (Fr := []) I_3 (h) (fun b7A a4S c6m Z2 P0 a5O a3P b0y => ?_) (fun _ _ _ _ _ q => q.elim)
    obtain ⟨a3j, rfl, rfl, h⟩ := b0y
    exact ⟨a3j, a4S, rfl, P0, a3P, a5O, h⟩
   ·replace h := a4D e
    refine b4m (s' := xCall (fC 155) [(vi x1), (vi x2)]) (by rw [e]; rfl) ?_
    refine d8 (cap := []) (fun args w => Tryz.call155 args w) ?_
    refine m4 (Fi := []) (Fr := []) I_3 (h) (fun b7A a4S c6m Z2 P0 a5O a3P b0y => ?_) (fun _ _ _ _ _ q => q.elim)
    obtain ⟨a3j, rfl, rfl, h⟩ := b0y
    exact ⟨a3j, a4S, rfl, P0, a3P, a5O, h⟩
  ·rintro b7A Z2 ⟨a3j, a4S, rfl, P0, a3P, a5O, h⟩
   replace h := e4L _ _ h
   exact hR a3j a4S _ P0 h
theorem c2P (x0 : Int) (x1 : Int) (x2 : Int) {H : Hp} {K : Bool → Hp → Prop} (h : a6K x0 x1 x2 H K) : a8K x0 x1 x2 H K := by
 intro w I
 refine g1b ?_
 refine c1H x0 x1 x2 I (fun r0 H' w' I' hk => ⟨H', _, I', r0, rfl, rfl, hk⟩) h
end Go.Proofs.YtnhkdkcgdcgmdaaGreatDoor
