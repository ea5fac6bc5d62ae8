/- Typed formulas of the program's functions that few laws need; printed by lift.py off the code. -/
import Derived.Test.YtnhkdkcgdcgmdaaDoorzZV1
import Derived.Test.YtnhkdkcgdcgmdaaDoorzZG1r
namespace Go.Proofs.YtnhkdkcgdcgmdaaDoor
open Go.RowKit
set_option maxRecDepth 100000
set_option maxHeartbeats 2000000
variable {w0 w : World} {ps0 : Nat → Prop} {H0 H : Hp} {R : RT} {E : Pan}
def a3l (x0 : Int) (x1 : Int) (H : Hp) (K : Int → Int → Hp → Prop) : Prop :=
 ((((decide (x0 < 0)) != (decide (x1 < 0))) && ((decide ((IntKind.wrap .i64 (x0 - x1)) < 0)) != (decide (x0 < 0)))) = true →
 K 0 1 H) ∧
 ((((decide (x0 < 0)) != (decide (x1 < 0))) && ((decide ((IntKind.wrap .i64 (x0 - x1)) < 0)) != (decide (x0 < 0)))) = false →
 K (IntKind.wrap .i64 (x0 - x1)) 0 H)
theorem b5U (x0 : Int) (x1 : Int) {K : Int → Int → Hp → Prop} (I : Inv w0 ps0 H0 H [] w) (hR : ∀ (r0 : Int) (r1 : Int) (H' : Hp) (w' : World) (_ : Inv w0 ps0 H0 H' [] w') (_ : K r0 r1 H'), R (Value.tuple #[(vi r0), (vi r1)]) w') (h : a3l x0 x1 H K) : F27 (vi x0) (vi x1) w R E := by
 unfold a3l at h
 unfold F27
 refine a7 (b3s _ _ _ _ _ _) ?_
 refine a7 (C5 _ _ _ _ _ _) ?_
 refine a7 (C5 _ _ _ _ _ _) ?_
 refine a7 (a6j _ _ _ _) ?_
 simp only [P6]
 refine a7 (Pu.g fun hb => by have j9 := hb; simp only [s6 j9]; exact (C5 _ _ _ _ _ _)) ?_
 refine a7 (Pu.g fun hb => by have j9 := hb; simp only [s6 j9]; exact (C5 _ _ _ _ _ _)) ?_
 refine a7 (Pu.g fun hb => by have j9 := hb; simp only [s6 j9]; exact (a6j _ _ _ _)) ?_
 refine a7 (P7 _ _) ?_
 refine p5 (fun c_1 => ?_) (fun c_1 => ?_)
 ·replace h := h.1 c_1
  exact hR 0 1 H _ I h
 ·replace h := h.2 c_1
  exact hR (IntKind.wrap .i64 (x0 - x1)) 0 H _ I h
theorem b7a (x0 : Int) (x1 : Int) {H : Hp} {K : Int → Int → Hp → Prop} (h : a3l x0 x1 H K) : a5d x0 x1 H K := by
 intro w I
 refine f1k ?_
 refine b5U x0 x1 I (fun r0 r1 H' w' I' hk => ⟨H', _, I', r0, r1, rfl, rfl, hk⟩) h
def a3m (x0 : Int) (H : Hp) (K : Int → Int → Hp → Prop) : Prop :=
 a5d 0 x0 H (fun (E7 : Int) (c9q : Int) (H_1 : Hp) =>
 K E7 c9q H_1)
theorem b5V (x0 : Int) {K : Int → Int → Hp → Prop} (I : Inv w0 ps0 H0 H [] w) (hR : ∀ (r0 : Int) (r1 : Int) (H' : Hp) (w' : World) (_ : Inv w0 ps0 H0 H' [] w') (_ : K r0 r1 H'), R (Value.tuple #[(vi r0), (vi r1)]) w') (h : a3m x0 H K) : c9i (vi x0) w R E := by
 unfold a3m at h
 unfold c9i
 refine d8 (cap := []) (fun args w => Tryd.call27 args w) ?_
 refine m9 (Fi := []) (Fr := []) I (h) (fun v_5 H_1 F_6 w_2 I_3 l_8 k_4 q_7 => ?_) (fun _ _ _ _ _ q => q.elim)
 obtain ⟨E7, c9q, rfl, rfl, h⟩ := q_7
 refine a7 (o2 _ _ (vi E7) rfl) ?_
 refine a7 (o2 _ _ (vi c9q) rfl) ?_
 exact hR E7 c9q H_1 _ I_3 h
theorem b7b (x0 : Int) {H : Hp} {K : Int → Int → Hp → Prop} (h : a3m x0 H K) : a8B x0 H K := by
 intro w I
 refine e2e ?_
 refine b5V x0 I (fun r0 r1 H' w' I' hk => ⟨H', _, I', r0, r1, rfl, rfl, hk⟩) h
def a3o (x0 : Int) (x1 : Int) (H : Hp) (K : Int → Int → Hp → Prop) : Prop :=
 ((((decide (x0 < 0)) == (decide (x1 < 0))) && ((decide ((IntKind.wrap .i64 (x0 + x1)) < 0)) != (decide (x0 < 0)))) = true →
 K 0 1 H) ∧
 ((((decide (x0 < 0)) == (decide (x1 < 0))) && ((decide ((IntKind.wrap .i64 (x0 + x1)) < 0)) != (decide (x0 < 0)))) = false →
 K (IntKind.wrap .i64 (x0 + x1)) 0 H)
theorem b5W (x0 : Int) (x1 : Int) {K : Int → Int → Hp → Prop} (I : Inv w0 ps0 H0 H [] w) (hR : ∀ (r0 : Int) (r1 : Int) (H' : Hp) (w' : World) (_ : Inv w0 ps0 H0 H' [] w') (_ : K r0 r1 H'), R (Value.tuple #[(vi r0), (vi r1)]) w') (h : a3o x0 x1 H K) : F26 (vi x0) (vi x1) w R E := by
 unfold a3o at h
 unfold F26
 refine a7 (J0 _ _ _ _ _ _) ?_
 refine a7 (C5 _ _ _ _ _ _) ?_
 refine a7 (C5 _ _ _ _ _ _) ?_
 refine a7 (d4k _ _ _ _) ?_
 simp only [P6]
 refine a7 (Pu.g fun hb => by have j9 := hb; simp only [s6 j9]; exact (C5 _ _ _ _ _ _)) ?_
 refine a7 (Pu.g fun hb => by have j9 := hb; simp only [s6 j9]; exact (C5 _ _ _ _ _ _)) ?_
 refine a7 (Pu.g fun hb => by have j9 := hb; simp only [s6 j9]; exact (a6j _ _ _ _)) ?_
 refine a7 (P7 _ _) ?_
 refine p5 (fun c_1 => ?_) (fun c_1 => ?_)
 ·replace h := h.1 c_1
  exact hR 0 1 H _ I h
 ·replace h := h.2 c_1
  exact hR (IntKind.wrap .i64 (x0 + x1)) 0 H _ I h
theorem b7c (x0 : Int) (x1 : Int) {H : Hp} {K : Int → Int → Hp → Prop} (h : a3o x0 x1 H K) : a8C x0 x1 H K := by
 intro w I
 refine f1i ?_
 refine b5W x0 x1 I (fun r0 r1 H' w' I' hk => ⟨H', _, I', r0, r1, rfl, rfl, hk⟩) h
def a2y (x0 : Int) (H : Hp) (K : Int → Hp → Prop) : Prop :=
 (x0 < 0 →
 K (IntKind.wrap .u64 (0 - (IntKind.wrap .u64 x0))) H) ∧
 (¬ (x0 < 0) →
 K (IntKind.wrap .u64 x0) H)
theorem b4l (x0 : Int) {K : Int → Hp → Prop} (I : Inv w0 ps0 H0 H [] w) (hR : ∀ (r0 : Int) (H' : Hp) (w' : World) (_ : Inv w0 ps0 H0 H' [] w') (_ : K r0 H'), R (Value.int .u64 r0) w') (h : a2y x0 H K) : F48 (vi x0) w R E := by
 unfold a2y at h
 unfold F48
 refine a7 (C5 _ _ _ _ _ _) ?_
 refine j7 (fun c_1 => ?_) (fun c_1 => ?_)
 ·replace h := h.1 c_1
  refine a7 (b7R _ _) ?_
  refine a7 (c2q _ _) ?_
  exact hR (IntKind.wrap .u64 (0 - (IntKind.wrap .u64 x0))) H _ I h
 ·replace h := h.2 c_1
  refine a7 (b7R _ _) ?_
  exact hR (IntKind.wrap .u64 x0) H _ I h
theorem b5X (x0 : Int) {H : Hp} {K : Int → Hp → Prop} (h : a2y x0 H K) : a2r x0 H K := by
 intro w I
 refine f1H ?_
 refine b4l x0 I (fun r0 H' w' I' hk => ⟨H', _, I', r0, rfl, rfl, hk⟩) h
def a2z (x0 : Int) (x1 : Int) (H : Hp) (K : Int → Int → Hp → Prop) : Prop :=
 K (IntKind.wrap .u64 ((IntKind.wrap .u64 ((IntKind.wrap .u64 ((Int.fdiv x0 (2 ^ 32)) * (Int.fdiv x1 (2 ^ 32)))) + (Int.fdiv (IntKind.wrap .u64 ((IntKind.wrap .u64 ((Int.fdiv x0 (2 ^ 32)) * (bandI .u64 x1 4294967295))) + (Int.fdiv (IntKind.wrap .u64 ((bandI .u64 x0 4294967295) * (bandI .u64 x1 4294967295))) (2 ^ 32)))) (2 ^ 32)))) + (Int.fdiv (IntKind.wrap .u64 ((bandI .u64 (IntKind.wrap .u64 ((IntKind.wrap .u64 ((Int.fdiv x0 (2 ^ 32)) * (bandI .u64 x1 4294967295))) + (Int.fdiv (IntKind.wrap .u64 ((bandI .u64 x0 4294967295) * (bandI .u64 x1 4294967295))) (2 ^ 32)))) 4294967295) + (IntKind.wrap .u64 ((bandI .u64 x0 4294967295) * (Int.fdiv x1 (2 ^ 32)))))) (2 ^ 32)))) (IntKind.wrap .u64 (x0 * x1)) H
theorem b4m (x0 : Int) (x1 : Int) {K : Int → Int → Hp → Prop} (I : Inv w0 ps0 H0 H [] w) (hR : ∀ (r0 : Int) (r1 : Int) (H' : Hp) (w' : World) (_ : Inv w0 ps0 H0 H' [] w') (_ : K r0 r1 H'), R (Value.tuple #[(Value.int .u64 r0), (Value.int .u64 r1)]) w') (h : a2z x0 x1 H K) : F47 (Value.int .u64 x0) (Value.int .u64 x1) w R E := by
 unfold a2z at h
 unfold F47
 refine a7 (b9w _ _ _ _ _ _) ?_
 refine a7 (b3t _ _ _ _ _ _ _ (by decide) (by decide)) ?_
 refine a7 (b9w _ _ _ _ _ _) ?_
 refine a7 (b3t _ _ _ _ _ _ _ (by decide) (by decide)) ?_
 refine a7 (b0Q _ _ _ _ _ _) ?_
 refine a7 (b0Q _ _ _ _ _ _) ?_
 refine a7 (b3t _ _ _ _ _ _ _ (by decide) (by decide)) ?_
 refine a7 (J0 _ _ _ _ _ _) ?_
 refine a7 (b9w _ _ _ _ _ _) ?_
 refine a7 (b3t _ _ _ _ _ _ _ (by decide) (by decide)) ?_
 refine a7 (b0Q _ _ _ _ _ _) ?_
 refine a7 (J0 _ _ _ _ _ _) ?_
 refine a7 (b0Q _ _ _ _ _ _) ?_
 refine a7 (J0 _ _ _ _ _ _) ?_
 refine a7 (b3t _ _ _ _ _ _ _ (by decide) (by decide)) ?_
 refine a7 (J0 _ _ _ _ _ _) ?_
 refine a7 (b0Q _ _ _ _ _ _) ?_
 exact hR (IntKind.wrap .u64 ((IntKind.wrap .u64 ((IntKind.wrap .u64 ((Int.fdiv x0 (2 ^ 32)) * (Int.fdiv x1 (2 ^ 32)))) + (Int.fdiv (IntKind.wrap .u64 ((IntKind.wrap .u64 ((Int.fdiv x0 (2 ^ 32)) * (bandI .u64 x1 4294967295))) + (Int.fdiv (IntKind.wrap .u64 ((bandI .u64 x0 4294967295) * (bandI .u64 x1 4294967295))) (2 ^ 32)))) (2 ^ 32)))) + (Int.fdiv (IntKind.wrap .u64 ((bandI .u64 (IntKind.wrap .u64 ((IntKind.wrap .u64 ((Int.fdiv x0 (2 ^ 32)) * (bandI .u64 x1 4294967295))) + (Int.fdiv (IntKind.wrap .u64 ((bandI .u64 x0 4294967295) * (bandI .u64 x1 4294967295))) (2 ^ 32)))) 4294967295) + (IntKind.wrap .u64 ((bandI .u64 x0 4294967295) * (Int.fdiv x1 (2 ^ 32)))))) (2 ^ 32)))) (IntKind.wrap .u64 (x0 * x1)) H _ I h
theorem b5Y (x0 : Int) (x1 : Int) {H : Hp} {K : Int → Int → Hp → Prop} (h : a2z x0 x1 H K) : a4G x0 x1 H K := by
 intro w I
 refine f1F ?_
 refine b4m x0 x1 I (fun r0 r1 H' w' I' hk => ⟨H', _, I', r0, r1, rfl, rfl, hk⟩) h
def T5 (c8U : Int) (g5v : Int) (f2d : Int) (b2J : Int) (c0r : Int) (H : Hp) (K : Int → Int → Hp → Prop) : Prop :=
 (((!decide (f2d = 0)) || (decide (c0r < b2J))) = true →
 K 0 1 H) ∧
 (((!decide (f2d = 0)) || (decide (c0r < b2J))) = false →
 K (IntKind.wrap .i64 (c8U * g5v)) 0 H)
def a3p (x0 : Int) (x1 : Int) (H : Hp) (K : Int → Int → Hp → Prop) : Prop :=
 a2r x0 H (fun (E7 : Int) (H_1 : Hp) =>
 a2r x1 H_1 (fun (D3 : Int) (a3I : Hp) =>
 a4G E7 D3 a3I (fun (Y1 : Int) (b5v : Int) (a1p : Hp) =>
 (((decide (x0 < 0)) != (decide (x1 < 0))) = true →
 T5 x0 x1 Y1 b5v (IntKind.wrap .u64 (9223372036854775807 + 1)) a1p K) ∧
 (((decide (x0 < 0)) != (decide (x1 < 0))) = false →
 T5 x0 x1 Y1 b5v 9223372036854775807 a1p K))))
theorem b5Z (x0 : Int) (x1 : Int) {K : Int → Int → Hp → Prop} (I : Inv w0 ps0 H0 H [] w) (hR : ∀ (r0 : Int) (r1 : Int) (H' : Hp) (w' : World) (_ : Inv w0 ps0 H0 H' [] w') (_ : K r0 r1 H'), R (Value.tuple #[(vi r0), (vi r1)]) w') (h : a3p x0 x1 H K) : F28 (vi x0) (vi x1) w R E := by
 unfold a3p at h
 unfold F28
 refine d8 (cap := []) (fun args w => Tryd.call48 args w) ?_
 refine m9 (Fi := []) (Fr := []) I (h) (fun v_5 H_1 F_6 w_2 I_3 l_8 k_4 q_7 => ?_) (fun _ _ _ _ _ q => q.elim)
 obtain ⟨E7, rfl, rfl, h⟩ := q_7
 refine d8 (cap := []) (fun args w => Tryd.call48 args w) ?_
 refine m9 (Fi := []) (Fr := []) I_3 (h) (fun c8v a3I g4g a1i P5 c0b b6z d4u => ?_) (fun _ _ _ _ _ q => q.elim)
 obtain ⟨D3, rfl, rfl, h⟩ := d4u
 refine d8 (cap := []) (fun args w => Tryd.call47 args w) ?_
 refine m9 (Fi := []) (Fr := []) P5 (h) (fun c8w a1p g4h r9 a6m d4v c0c d4w => ?_) (fun _ _ _ _ _ q => q.elim)
 obtain ⟨Y1, b5v, rfl, rfl, h⟩ := d4w
 refine a7 (o2 _ _ (Value.int .u64 Y1) rfl) ?_
 refine a7 (o2 _ _ (Value.int .u64 b5v) rfl) ?_
 have hj1 : ∀ (c0r : Int) (H : Hp) (w : World) (_ : Inv w0 ps0 H0 H [] w) (_ : T5 x0 x1 Y1 b5v c0r H K), c4w (vi x0) (vi x1) (Value.int .u64 Y1) (Value.int .u64 b5v) (Value.int .u64 c0r) w R E := by
  intro c0r H w I h
  unfold c4w
  intro _
  unfold T5 at h
  refine a7 (a1C _ _ _ _ _ _) ?_
  simp only [P6]
  refine a7 (Pu.g fun hb => by have j9 := hb; simp only [s6 j9]; exact (a1W _ _ _ _ _ _)) ?_
  refine a7 (a1X _ _) ?_
  refine p5 (fun d6a => ?_) (fun d6a => ?_)
  ·replace h := h.1 d6a
   exact hR 0 1 H _ I h
  ·replace h := h.2 d6a
   refine a7 (b0Q _ _ _ _ _ _) ?_
   exact hR (IntKind.wrap .i64 (x0 * x1)) 0 H _ I h
 refine A8 fun j1 hx1 => ?_
 refine a7 (C5 _ _ _ _ _ _) ?_
 refine a7 (C5 _ _ _ _ _ _) ?_
 refine a7 (a6j _ _ _ _) ?_
 refine p5 (fun b6A => ?_) (fun b6A => ?_)
 ·replace h := h.1 b6A
  refine a7 (J0 _ _ _ _ _ _) ?_
  exact hx1 _ _ (hj1 (IntKind.wrap .u64 (9223372036854775807 + 1)) a1p _ a6m h)
 ·replace h := h.2 b6A
  exact hx1 _ _ (hj1 9223372036854775807 a1p _ a6m h)
theorem b7d (x0 : Int) (x1 : Int) {H : Hp} {K : Int → Int → Hp → Prop} (h : a3p x0 x1 H K) : a8D x0 x1 H K := by
 intro w I
 refine f1p ?_
 refine b5Z x0 x1 I (fun r0 r1 H' w' I' hk => ⟨H', _, I', r0, r1, rfl, rfl, hk⟩) h
def a1w (x0 : Int) (x1 : Int) (H : Hp) (K : Int → Hp → Prop) : Prop :=
 (x1 = 0 →
 K 2 H) ∧
 (¬ (x1 = 0) →
 (((decide (x0 = (-9223372036854775808))) && (decide (x1 = (-1)))) = true →
 K 1 H) ∧
 (((decide (x0 = (-9223372036854775808))) && (decide (x1 = (-1)))) = false →
 K 0 H))
theorem b1f (x0 : Int) (x1 : Int) {K : Int → Hp → Prop} (I : Inv w0 ps0 H0 H [] w) (hR : ∀ (r0 : Int) (H' : Hp) (w' : World) (_ : Inv w0 ps0 H0 H' [] w') (_ : K r0 H'), R (vi r0) w') (h : a1w x0 x1 H K) : F49 (vi x0) (vi x1) w R E := by
 unfold a1w at h
 unfold F49
 refine a7 (l0 _ _ _ _ _ _) ?_
 refine j7 (fun c_2 => ?_) (fun c_2 => ?_)
 ·replace h := h.1 c_2
  exact hR 2 H _ I h
 ·replace h := h.2 c_2
  refine a7 (l0 _ _ _ _ _ _) ?_
  simp only [P6]
  refine a7 (Pu.g fun hb => by have j9 := hb; simp only [s6 j9]; exact (l0 _ _ _ _ _ _)) ?_
  refine a7 (P7 _ _) ?_
  refine p5 (fun c_1 => ?_) (fun c_1 => ?_)
  ·replace h := h.1 c_1
   exact hR 1 H _ I h
  ·replace h := h.2 c_1
   exact hR 0 H _ I h
theorem b2K (x0 : Int) (x1 : Int) {H : Hp} {K : Int → Hp → Prop} (h : a1w x0 x1 H K) : a1o x0 x1 H K := by
 intro w I
 refine f1J ?_
 refine b1f x0 x1 I (fun r0 H' w' I' hk => ⟨H', _, I', r0, rfl, rfl, hk⟩) h
def a5p (x0 : Int) (x1 : Int) (H : Hp) (K : Int → Int → Hp → Prop) : Prop :=
 a1o x0 x1 H (fun (E7 : Int) (H_1 : Hp) =>
 (¬ (E7 = 0) →
 K 0 E7 H_1) ∧
 (E7 = 0 →
 (x1 : Int) ≠ 0 ∧
 K (IntKind.wrap .i64 (Int.tdiv x0 x1)) 0 H_1))
theorem b6a (x0 : Int) (x1 : Int) {K : Int → Int → Hp → Prop} (I : Inv w0 ps0 H0 H [] w) (hR : ∀ (r0 : Int) (r1 : Int) (H' : Hp) (w' : World) (_ : Inv w0 ps0 H0 H' [] w') (_ : K r0 r1 H'), R (Value.tuple #[(vi r0), (vi r1)]) w') (h : a5p x0 x1 H K) : F29 (vi x0) (vi x1) w R E := by
 unfold a5p at h
 unfold F29
 refine d8 (cap := []) (fun args w => Tryd.call49 args w) ?_
 refine m9 (Fi := []) (Fr := []) I (h) (fun v_5 H_1 F_6 w_2 I_3 l_8 k_4 q_7 => ?_) (fun _ _ _ _ _ q => q.elim)
 obtain ⟨E7, rfl, rfl, h⟩ := q_7
 refine a7 (a1C _ _ _ _ _ _) ?_
 refine a6i (fun a8N => ?_) (fun a8N => ?_)
 ·replace h := h.1 a8N
  exact hR 0 E7 H_1 _ I_3 h
 ·replace h := h.2 a8N
  obtain ⟨b7e, h⟩ := h
  refine a7 (e6v _ _ _ _ _ _ b7e) ?_
  exact hR (IntKind.wrap .i64 (Int.tdiv x0 x1)) 0 H_1 _ I_3 h
theorem b7f (x0 : Int) (x1 : Int) {H : Hp} {K : Int → Int → Hp → Prop} (h : a5p x0 x1 H K) : a8E x0 x1 H K := by
 intro w I
 refine f1r ?_
 refine b6a x0 x1 I (fun r0 r1 H' w' I' hk => ⟨H', _, I', r0, r1, rfl, rfl, hk⟩) h
def a5q (x0 : Int) (x1 : Int) (H : Hp) (K : Int → Int → Hp → Prop) : Prop :=
 a1o x0 x1 H (fun (E7 : Int) (H_1 : Hp) =>
 (¬ (E7 = 0) →
 K 0 E7 H_1) ∧
 (E7 = 0 →
 (x1 : Int) ≠ 0 ∧
 K (Int.tmod x0 x1) 0 H_1))
theorem b6b (x0 : Int) (x1 : Int) {K : Int → Int → Hp → Prop} (I : Inv w0 ps0 H0 H [] w) (hR : ∀ (r0 : Int) (r1 : Int) (H' : Hp) (w' : World) (_ : Inv w0 ps0 H0 H' [] w') (_ : K r0 r1 H'), R (Value.tuple #[(vi r0), (vi r1)]) w') (h : a5q x0 x1 H K) : F30 (vi x0) (vi x1) w R E := by
 unfold a5q at h
 unfold F30
 refine d8 (cap := []) (fun args w => Tryd.call49 args w) ?_
 refine m9 (Fi := []) (Fr := []) I (h) (fun v_5 H_1 F_6 w_2 I_3 l_8 k_4 q_7 => ?_) (fun _ _ _ _ _ q => q.elim)
 obtain ⟨E7, rfl, rfl, h⟩ := q_7
 refine a7 (a1C _ _ _ _ _ _) ?_
 refine a6i (fun a8N => ?_) (fun a8N => ?_)
 ·replace h := h.1 a8N
  exact hR 0 E7 H_1 _ I_3 h
 ·replace h := h.2 a8N
  obtain ⟨b7e, h⟩ := h
  refine a7 (e6w _ _ _ _ _ _ b7e) ?_
  exact hR (Int.tmod x0 x1) 0 H_1 _ I_3 h
theorem b7g (x0 : Int) (x1 : Int) {H : Hp} {K : Int → Int → Hp → Prop} (h : a5q x0 x1 H K) : a8F x0 x1 H K := by
 intro w I
 refine f1t ?_
 refine b6b x0 x1 I (fun r0 r1 H' w' I' hk => ⟨H', _, I', r0, r1, rfl, rfl, hk⟩) h
def a0P (H : Hp) (K : Hp → Prop) : Prop :=
 K H
theorem b0J {K : Hp → Prop} (I : Inv w0 ps0 H0 H [] w) (hR : ∀ (H' : Hp) (w' : World) (_ : Inv w0 ps0 H0 H' [] w') (_ : K H'), R (Value.agg #[(fC 123), (fC 124), (fC 125), (fC 126), (fC 127), (fC 128), (fC 129)]) w') (h : a0P H K) : c9j w R E := by
 unfold a0P at h
 unfold c9j
 refine u6 I Tryd.zeroValue171 (cs := [Value.nilFunc, Value.nilFunc, Value.nilFunc, Value.nilFunc, Value.nilFunc, Value.nilFunc, Value.nilFunc]) rfl fun g_2 w_3 I_4 k_5 => ?_
 refine a7 a3A ?_
 refine o7 I_4 Tryd.sizeOf171 (vs := [(fC 123), (fC 124), (fC 125), (fC 126), (fC 127), (fC 128), (fC 129)]) (cs' := [(fC 123), (fC 124), (fC 125), (fC 126), (fC 127), (fC 128), (fC 129)]) rfl rfl (nb rfl) rfl rfl fun w_6 I_7 k_8 => ?_
 refine a2G Tryd.isAgg171 Tryd.sizeOf171 rfl (I_7.at1 (o := 0) (vs := [(fC 123), (fC 124), (fC 125), (fC 126), (fC 127), (fC 128), (fC 129)]) (nb rfl) rfl) ?_
 exact hR H _ I_7.drop h
theorem b1g {H : Hp} {K : Hp → Prop} (h : a0P H K) : a2J H K := by
 intro w I
 refine e2g ?_
 refine b0J I (fun H' w' I' hk => ⟨H', _, I', rfl, rfl, hk⟩) h
def Y6 (x0 : Int) (x1 : Int) (H : Hp) (K : Bool → Hp → Prop) : Prop :=
 K (decide (x0 < x1)) H
theorem a9g (x0 : Int) (x1 : Int) {K : Bool → Hp → Prop} (I : Inv w0 ps0 H0 H [] w) (hR : ∀ (r0 : Bool) (H' : Hp) (w' : World) (_ : Inv w0 ps0 H0 H' [] w') (_ : K r0 H'), R (vB r0) w') (h : Y6 x0 x1 H K) : c9k (vi x0) (vi x1) w R E := by
 unfold Y6 at h
 unfold c9k
 refine a7 (C5 _ _ _ _ _ _) ?_
 exact hR (decide (x0 < x1)) H _ I h
theorem a9L (x0 : Int) (x1 : Int) {H : Hp} {K : Bool → Hp → Prop} (h : Y6 x0 x1 H K) : a4x x0 x1 H K := by
 intro w I
 refine e2i ?_
 refine a9g x0 x1 I (fun r0 H' w' I' hk => ⟨H', _, I', r0, rfl, rfl, hk⟩) h
def Y7 (x0 : Int) (x1 : Int) (H : Hp) (K : Bool → Hp → Prop) : Prop :=
 K (decide (x0 ≤ x1)) H
theorem a9h (x0 : Int) (x1 : Int) {K : Bool → Hp → Prop} (I : Inv w0 ps0 H0 H [] w) (hR : ∀ (r0 : Bool) (H' : Hp) (w' : World) (_ : Inv w0 ps0 H0 H' [] w') (_ : K r0 H'), R (vB r0) w') (h : Y7 x0 x1 H K) : c9l (vi x0) (vi x1) w R E := by
 unfold Y7 at h
 unfold c9l
 refine a7 (b3r _ _ _ _ _ _) ?_
 exact hR (decide (x0 ≤ x1)) H _ I h
theorem a9M (x0 : Int) (x1 : Int) {H : Hp} {K : Bool → Hp → Prop} (h : Y7 x0 x1 H K) : a4y x0 x1 H K := by
 intro w I
 refine e2k ?_
 refine a9h x0 x1 I (fun r0 H' w' I' hk => ⟨H', _, I', r0, rfl, rfl, hk⟩) h
def Y8 (x0 : Int) (x1 : Int) (H : Hp) (K : Bool → Hp → Prop) : Prop :=
 K (decide (x0 = x1)) H
theorem a9i (x0 : Int) (x1 : Int) {K : Bool → Hp → Prop} (I : Inv w0 ps0 H0 H [] w) (hR : ∀ (r0 : Bool) (H' : Hp) (w' : World) (_ : Inv w0 ps0 H0 H' [] w') (_ : K r0 H'), R (vB r0) w') (h : Y8 x0 x1 H K) : c9m (vi x0) (vi x1) w R E := by
 unfold Y8 at h
 unfold c9m
 refine a7 (l0 _ _ _ _ _ _) ?_
 exact hR (decide (x0 = x1)) H _ I h
theorem a9N (x0 : Int) (x1 : Int) {H : Hp} {K : Bool → Hp → Prop} (h : Y8 x0 x1 H K) : a4z x0 x1 H K := by
 intro w I
 refine e2m ?_
 refine a9i x0 x1 I (fun r0 H' w' I' hk => ⟨H', _, I', r0, rfl, rfl, hk⟩) h
def Y9 (x0 : Int) (x1 : Int) (H : Hp) (K : Bool → Hp → Prop) : Prop :=
 K (!decide (x0 = x1)) H
theorem a9j (x0 : Int) (x1 : Int) {K : Bool → Hp → Prop} (I : Inv w0 ps0 H0 H [] w) (hR : ∀ (r0 : Bool) (H' : Hp) (w' : World) (_ : Inv w0 ps0 H0 H' [] w') (_ : K r0 H'), R (vB r0) w') (h : Y9 x0 x1 H K) : c9n (vi x0) (vi x1) w R E := by
 unfold Y9 at h
 unfold c9n
 refine a7 (a1C _ _ _ _ _ _) ?_
 exact hR (!decide (x0 = x1)) H _ I h
theorem a9O (x0 : Int) (x1 : Int) {H : Hp} {K : Bool → Hp → Prop} (h : Y9 x0 x1 H K) : a4A x0 x1 H K := by
 intro w I
 refine e2o ?_
 refine a9j x0 x1 I (fun r0 H' w' I' hk => ⟨H', _, I', r0, rfl, rfl, hk⟩) h
def Z0 (x0 : Int) (x1 : Int) (H : Hp) (K : Bool → Hp → Prop) : Prop :=
 K (decide (x1 < x0)) H
theorem a9k (x0 : Int) (x1 : Int) {K : Bool → Hp → Prop} (I : Inv w0 ps0 H0 H [] w) (hR : ∀ (r0 : Bool) (H' : Hp) (w' : World) (_ : Inv w0 ps0 H0 H' [] w') (_ : K r0 H'), R (vB r0) w') (h : Z0 x0 x1 H K) : c9o (vi x0) (vi x1) w R E := by
 unfold Z0 at h
 unfold c9o
 refine a7 (a1W _ _ _ _ _ _) ?_
 exact hR (decide (x1 < x0)) H _ I h
theorem a9P (x0 : Int) (x1 : Int) {H : Hp} {K : Bool → Hp → Prop} (h : Z0 x0 x1 H K) : a4B x0 x1 H K := by
 intro w I
 refine e2q ?_
 refine a9k x0 x1 I (fun r0 H' w' I' hk => ⟨H', _, I', r0, rfl, rfl, hk⟩) h
def Z1 (x0 : Int) (x1 : Int) (H : Hp) (K : Bool → Hp → Prop) : Prop :=
 K (decide (x1 ≤ x0)) H
theorem a9l (x0 : Int) (x1 : Int) {K : Bool → Hp → Prop} (I : Inv w0 ps0 H0 H [] w) (hR : ∀ (r0 : Bool) (H' : Hp) (w' : World) (_ : Inv w0 ps0 H0 H' [] w') (_ : K r0 H'), R (vB r0) w') (h : Z1 x0 x1 H K) : c9p (vi x0) (vi x1) w R E := by
 unfold Z1 at h
 unfold c9p
 refine a7 (b0P _ _ _ _ _ _) ?_
 exact hR (decide (x1 ≤ x0)) H _ I h
theorem a9Q (x0 : Int) (x1 : Int) {H : Hp} {K : Bool → Hp → Prop} (h : Z1 x0 x1 H K) : a4C x0 x1 H K := by
 intro w I
 refine e2s ?_
 refine a9l x0 x1 I (fun r0 H' w' I' hk => ⟨H', _, I', r0, rfl, rfl, hk⟩) h
def a3q (x0 : Int) (x1 : Int) (x2 : Int) (H : Hp) (K : Bool → Hp → Prop) : Prop :=
 (((decide (x0 < 1)) || (decide (6 < x0))) = true →
 K false H) ∧
 (((decide (x0 < 1)) || (decide (6 < x0))) = false →
 a2J H (fun (H_1 : Hp) =>
 (0 : Int) ≤ x0 ∧ (x0 : Int) < 7 ∧
 ∃ b0K : Bool → Hp → Prop, (∀ (a0F : Bool) (a1U : Hp), b0K a0F a1U →
 K a0F a1U) ∧ ((x0 : Int) = 0 → b3V x1 x2 H_1 b0K) ∧ ((x0 : Int) = 1 → a4x x1 x2 H_1 b0K) ∧ ((x0 : Int) = 2 → a4y x1 x2 H_1 b0K) ∧ ((x0 : Int) = 3 → a4z x1 x2 H_1 b0K) ∧ ((x0 : Int) = 4 → a4A x1 x2 H_1 b0K) ∧ ((x0 : Int) = 5 → a4B x1 x2 H_1 b0K) ∧ ((x0 : Int) = 6 → a4C x1 x2 H_1 b0K)))
theorem b6c (x0 : Int) (x1 : Int) (x2 : Int) {K : Bool → Hp → Prop} (I : Inv w0 ps0 H0 H [] w) (hR : ∀ (r0 : Bool) (H' : Hp) (w' : World) (_ : Inv w0 ps0 H0 H' [] w') (_ : K r0 H'), R (vB r0) w') (h : a3q x0 x1 x2 H K) : F75 (vi x0) (vi x1) (vi x2) w R E := by
 unfold a3q at h
 unfold F75
 refine a7 (C5 _ _ _ _ _ _) ?_
 simp only [P6]
 refine a7 (Pu.g fun hb => by have j9 := hb; simp only [s6 j9]; exact (a1W _ _ _ _ _ _)) ?_
 refine a7 (a1X _ _) ?_
 refine p5 (fun b6y => ?_) (fun b6y => ?_)
 ·replace h := h.1 b6y
  exact hR false H _ I h
 ·replace h := h.2 b6y
  refine d8 (cap := []) (fun args w => Tryd.call110 args w) ?_
  refine m9 (Fi := []) (Fr := []) I (h) (fun v_5 H_1 F_6 w_2 I_3 l_8 k_4 q_7 => ?_) (fun _ _ _ _ _ q => q.elim)
  obtain ⟨rfl, rfl, h⟩ := q_7
  obtain ⟨b7e, g5w, h⟩ := h
  refine a7 (R7 _ _ b7e g5w) ?_
  obtain ⟨b0K, d5F, d5G, c4n, b6Y, g5x, d6b, g5y, a5h⟩ := h
  refine e0h (D := fun b2L a0I => ∃ (a0F : Bool) (a1U : Hp), b2L = (vB a0F) ∧ (Inv w0 ps0 H0 a1U [] a0I) ∧ (∀ i, i < w_2.heap.size → ¬ inF [] i → a0I.heap[i]? = w_2.heap[i]?) ∧ Hle H_1 a1U ∧ (b0K a0F a1U)) ?_ ?_
  ·obtain e | e | e | e | e | e | e := (by omega : (x0 : Int) = 0 ∨ (x0 : Int) = 1 ∨ (x0 : Int) = 2 ∨ (x0 : Int) = 3 ∨ (x0 : Int) = 4 ∨ (x0 : Int) = 5 ∨ (x0 : Int) = 6)
   ·replace h := d5G e
    refine a9T (s' := xCall (fC 123) [(vi x1), (vi x2)]) (by rw [e]; rfl) ?_
    refine d8 (cap := []) (fun args w => Tryd.call123 args w) ?_
    refine m9 (Fi := []) (Fr := []) I_3 (h) (fun b2L a1U c0s a0I N5 a3D a1T a6D => ?_) (fun _ _ _ _ _ q => q.elim)
    obtain ⟨a0F, rfl, rfl, h⟩ := a6D
    exact ⟨a0F, a1U, rfl, N5, a1T, a3D, h⟩
   ·replace h := c4n e
    refine a9T (s' := xCall (fC 124) [(vi x1), (vi x2)]) (by rw [e]; rfl) ?_
    refine d8 (cap := []) (fun args w => Tryd.call124 args w) ?_
    refine m9 (Fi := []) (Fr := []) I_3 (h) (fun b2L a1U c0s a0I N5 a3D a1T a6D => ?_) (fun _ _ _ _ _ q => q.elim)
    obtain ⟨a0F, rfl, rfl, h⟩ := a6D
    exact ⟨a0F, a1U, rfl, N5, a1T, a3D, h⟩
   ·replace h := b6Y e
    refine a9T (s' := xCall (fC 125) [(vi x1), (vi x2)]) (by rw [e]; rfl) ?_
    refine d8 (cap := []) (fun args w => Tryd.call125 args w) ?_
    refine m9 (Fi := []) (Fr := []) I_3 (h) (fun b2L a1U c0s a0I N5 a3D a1T a6D => ?_) (fun _ _ _ _ _ q => q.elim)
    obtain ⟨a0F, rfl, rfl, h⟩ := a6D
    exact ⟨a0F, a1U, rfl, N5, a1T, a3D, h⟩
   ·replace h := g5x e
    refine a9T (s' := xCall (fC 126) [(vi x1), (vi x2)]) (by rw [e]; rfl) ?_
    refine d8 (cap := []) (fun args w => Tryd.call126 args w) ?_
    refine m9 (Fi := []) (Fr := []) I_3 (h) (fun b2L a1U c0s a0I N5 a3D a1T a6D => ?_) (fun _ _ _ _ _ q => q.elim)
    obtain ⟨a0F, rfl, rfl, h⟩ := a6D
    exact ⟨a0F, a1U, rfl, N5, a1T, a3D, h⟩
   ·replace h := d6b e
    refine a9T (s' := xCall (fC 127) [(vi x1), (vi x2)]) (by rw [e]; rfl) ?_
    refine d8 (cap := []) (fun args w => Tryd.call127 args w) ?_
    refine m9 (Fi := []) (Fr := []) I_3 (h) (fun b2L a1U c0s a0I N5 a3D a1T a6D => ?_) (fun _ _ _ _ _ q => q.elim)
    obtain ⟨a0F, rfl, rfl, h⟩ := a6D
    exact ⟨a0F, a1U, rfl, N5, a1T, a3D, h⟩
   ·replace h := g5y e
    refine a9T (s' := xCall (fC 128) [(vi x1), (vi x2)]) (by rw [e]; rfl) ?_
    refine d8 (cap := []) (fun args w => Tryd.call128 args w) ?_
    refine m9 (Fi := []) (Fr := []) I_3 (h) (fun b2L a1U c0s a0I N5 a3D a1T a6D => ?_) (fun _ _ _ _ _ q => q.elim)
    obtain ⟨a0F, rfl, rfl, h⟩ := a6D
    exact ⟨a0F, a1U, rfl, N5, a1T, a3D, h⟩
   ·replace h := a5h e
    refine a9T (s' := xCall (fC 129) [(vi x1), (vi x2)]) (by rw [e]; rfl) ?_
    refine d8 (cap := []) (fun args w => Tryd.call129 args w) ?_
    refine m9 (Fi := []) (Fr := []) I_3 (h) (fun b2L a1U c0s a0I N5 a3D a1T a6D => ?_) (fun _ _ _ _ _ q => q.elim)
    obtain ⟨a0F, rfl, rfl, h⟩ := a6D
    exact ⟨a0F, a1U, rfl, N5, a1T, a3D, h⟩
  ·rintro b2L a0I ⟨a0F, a1U, rfl, N5, a1T, a3D, h⟩
   replace h := d5F _ _ h
   exact hR a0F a1U _ N5 h
theorem b7h (x0 : Int) (x1 : Int) (x2 : Int) {H : Hp} {K : Bool → Hp → Prop} (h : a3q x0 x1 x2 H K) : a8G x0 x1 x2 H K := by
 intro w I
 refine f1L ?_
 refine b6c x0 x1 x2 I (fun r0 H' w' I' hk => ⟨H', _, I', r0, rfl, rfl, hk⟩) h
end Go.Proofs.YtnhkdkcgdcgmdaaDoor
