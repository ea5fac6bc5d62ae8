/- Typed formulas of the program's functions that few laws need; printed by lift.py off the code. -/
import Derived.Test.YtnhkdkcgdcgmdaaDoorzDV1
import Derived.Test.YtnhkdkcgdcgmdaaDoorzDG1r
namespace Go.Proofs.YtnhkdkcgdcgmdaaDoor
open Go.RowKit
set_option maxRecDepth 100000
set_option maxHeartbeats 2000000
variable {w0 w : World} {ps0 : Nat → Prop} {H0 H : Hp} {R : RT} {E : Pan}
def a2E (x0 : Int) (x1 : Int) (H : Hp) (K : Int → Int → Hp → Prop) : Prop :=
 ((((decide (x0 < 0)) != (decide (x1 < 0))) && ((decide ((IntKind.wrap .i64 (x0 - x1)) < 0)) != (decide (x0 < 0)))) = true →
 K 0 1 H) ∧
 ((((decide (x0 < 0)) != (decide (x1 < 0))) && ((decide ((IntKind.wrap .i64 (x0 - x1)) < 0)) != (decide (x0 < 0)))) = false →
 K (IntKind.wrap .i64 (x0 - x1)) 0 H)
theorem b4V (x0 : Int) (x1 : Int) {K : Int → Int → Hp → Prop} (I : Inv w0 ps0 H0 H [] w) (hR : ∀ (r0 : Int) (r1 : Int) (H' : Hp) (w' : World) (_ : Inv w0 ps0 H0 H' [] w') (_ : K r0 r1 H'), R (Value.tuple #[(vi r0), (vi r1)]) w') (h : a2E x0 x1 H K) : F27 (vi x0) (vi x1) w R E := by
 unfold a2E at h
 unfold F27
 refine a7 (b2v _ _ _ _ _ _) ?_
 refine a7 (B8 _ _ _ _ _ _) ?_
 refine a7 (B8 _ _ _ _ _ _) ?_
 refine a7 (b0L _ _ _ _) ?_
 simp only [L6]
 refine a7 (Pu.g fun hb => by have f8 := hb; simp only [m9 f8]; exact (B8 _ _ _ _ _ _)) ?_
 refine a7 (Pu.g fun hb => by have f8 := hb; simp only [m9 f8]; exact (B8 _ _ _ _ _ _)) ?_
 refine a7 (Pu.g fun hb => by have f8 := hb; simp only [m9 f8]; exact (b0L _ _ _ _)) ?_
 refine a7 (L8 _ _) ?_
 refine o4 (fun c_1 => ?_) (fun c_1 => ?_)
 ·replace h := h.1 c_1
  exact hR 0 1 H _ I h
 ·replace h := h.2 c_1
  exact hR (IntKind.wrap .i64 (x0 - x1)) 0 H _ I h
theorem b5Y (x0 : Int) (x1 : Int) {H : Hp} {K : Int → Int → Hp → Prop} (h : a2E x0 x1 H K) : a2w x0 x1 H K := by
 intro w I
 refine e8Q ?_
 refine b4V x0 x1 I (fun r0 r1 H' w' I' hk => ⟨H', _, I', r0, r1, rfl, rfl, hk⟩) h
def a2F (x0 : Int) (H : Hp) (K : Int → Int → Hp → Prop) : Prop :=
 a2w 0 x0 H (fun (C0 : Int) (c7S : Int) (H_1 : Hp) =>
 K C0 c7S H_1)
theorem b4W (x0 : Int) {K : Int → Int → Hp → Prop} (I : Inv w0 ps0 H0 H [] w) (hR : ∀ (r0 : Int) (r1 : Int) (H' : Hp) (w' : World) (_ : Inv w0 ps0 H0 H' [] w') (_ : K r0 r1 H'), R (Value.tuple #[(vi r0), (vi r1)]) w') (h : a2F x0 H K) : c7K (vi x0) w R E := by
 unfold a2F at h
 unfold c7K
 refine b9 (cap := []) (fun args w => Tryd.call27 args w) ?_
 refine m2 (Fi := []) (Fr := []) I (h) (fun v_5 H_1 F_6 w_2 I_3 l_8 k_4 q_7 => ?_) (fun _ _ _ _ _ q => q.elim)
 obtain ⟨C0, c7S, rfl, rfl, h⟩ := q_7
 refine a7 (j7 _ _ (vi C0) rfl) ?_
 refine a7 (j7 _ _ (vi c7S) rfl) ?_
 exact hR C0 c7S H_1 _ I_3 h
theorem b5Z (x0 : Int) {H : Hp} {K : Int → Int → Hp → Prop} (h : a2F x0 H K) : a7O x0 H K := by
 intro w I
 refine e0q ?_
 refine b4W x0 I (fun r0 r1 H' w' I' hk => ⟨H', _, I', r0, r1, rfl, rfl, hk⟩) h
def a2G (x0 : Int) (x1 : Int) (H : Hp) (K : Int → Int → Hp → Prop) : Prop :=
 ((((decide (x0 < 0)) == (decide (x1 < 0))) && ((decide ((IntKind.wrap .i64 (x0 + x1)) < 0)) != (decide (x0 < 0)))) = true →
 K 0 1 H) ∧
 ((((decide (x0 < 0)) == (decide (x1 < 0))) && ((decide ((IntKind.wrap .i64 (x0 + x1)) < 0)) != (decide (x0 < 0)))) = false →
 K (IntKind.wrap .i64 (x0 + x1)) 0 H)
theorem b4X (x0 : Int) (x1 : Int) {K : Int → Int → Hp → Prop} (I : Inv w0 ps0 H0 H [] w) (hR : ∀ (r0 : Int) (r1 : Int) (H' : Hp) (w' : World) (_ : Inv w0 ps0 H0 H' [] w') (_ : K r0 r1 H'), R (Value.tuple #[(vi r0), (vi r1)]) w') (h : a2G x0 x1 H K) : F26 (vi x0) (vi x1) w R E := by
 unfold a2G at h
 unfold F26
 refine a7 (E9 _ _ _ _ _ _) ?_
 refine a7 (B8 _ _ _ _ _ _) ?_
 refine a7 (B8 _ _ _ _ _ _) ?_
 refine a7 (d2B _ _ _ _) ?_
 simp only [L6]
 refine a7 (Pu.g fun hb => by have f8 := hb; simp only [m9 f8]; exact (B8 _ _ _ _ _ _)) ?_
 refine a7 (Pu.g fun hb => by have f8 := hb; simp only [m9 f8]; exact (B8 _ _ _ _ _ _)) ?_
 refine a7 (Pu.g fun hb => by have f8 := hb; simp only [m9 f8]; exact (b0L _ _ _ _)) ?_
 refine a7 (L8 _ _) ?_
 refine o4 (fun c_1 => ?_) (fun c_1 => ?_)
 ·replace h := h.1 c_1
  exact hR 0 1 H _ I h
 ·replace h := h.2 c_1
  exact hR (IntKind.wrap .i64 (x0 + x1)) 0 H _ I h
theorem b6a (x0 : Int) (x1 : Int) {H : Hp} {K : Int → Int → Hp → Prop} (h : a2G x0 x1 H K) : a4s x0 x1 H K := by
 intro w I
 refine e8O ?_
 refine b4X x0 x1 I (fun r0 r1 H' w' I' hk => ⟨H', _, I', r0, r1, rfl, rfl, hk⟩) h
def a1R (x0 : Int) (H : Hp) (K : Int → Hp → Prop) : Prop :=
 (x0 < 0 →
 K (IntKind.wrap .u64 (0 - (IntKind.wrap .u64 x0))) H) ∧
 (¬ (x0 < 0) →
 K (IntKind.wrap .u64 x0) H)
theorem b3s (x0 : Int) {K : Int → Hp → Prop} (I : Inv w0 ps0 H0 H [] w) (hR : ∀ (r0 : Int) (H' : Hp) (w' : World) (_ : Inv w0 ps0 H0 H' [] w') (_ : K r0 H'), R (Value.int .u64 r0) w') (h : a1R x0 H K) : F48 (vi x0) w R E := by
 unfold a1R at h
 unfold F48
 refine a7 (B8 _ _ _ _ _ _) ?_
 refine h9 (fun c_1 => ?_) (fun c_1 => ?_)
 ·replace h := h.1 c_1
  refine a7 (b6L _ _) ?_
  refine a7 (c1f _ _) ?_
  exact hR (IntKind.wrap .u64 (0 - (IntKind.wrap .u64 x0))) H _ I h
 ·replace h := h.2 c_1
  refine a7 (b6L _ _) ?_
  exact hR (IntKind.wrap .u64 x0) H _ I h
theorem b4Y (x0 : Int) {H : Hp} {K : Int → Hp → Prop} (h : a1R x0 H K) : a1K x0 H K := by
 intro w I
 refine e9n ?_
 refine b3s x0 I (fun r0 H' w' I' hk => ⟨H', _, I', r0, rfl, rfl, hk⟩) h
def a1S (x0 : Int) (x1 : Int) (H : Hp) (K : Int → Int → Hp → Prop) : Prop :=
 K (IntKind.wrap .u64 ((IntKind.wrap .u64 ((IntKind.wrap .u64 ((Int.fdiv x0 (2 ^ 32)) * (Int.fdiv x1 (2 ^ 32)))) + (Int.fdiv (IntKind.wrap .u64 ((IntKind.wrap .u64 ((Int.fdiv x0 (2 ^ 32)) * (bandI .u64 x1 4294967295))) + (Int.fdiv (IntKind.wrap .u64 ((bandI .u64 x0 4294967295) * (bandI .u64 x1 4294967295))) (2 ^ 32)))) (2 ^ 32)))) + (Int.fdiv (IntKind.wrap .u64 ((bandI .u64 (IntKind.wrap .u64 ((IntKind.wrap .u64 ((Int.fdiv x0 (2 ^ 32)) * (bandI .u64 x1 4294967295))) + (Int.fdiv (IntKind.wrap .u64 ((bandI .u64 x0 4294967295) * (bandI .u64 x1 4294967295))) (2 ^ 32)))) 4294967295) + (IntKind.wrap .u64 ((bandI .u64 x0 4294967295) * (Int.fdiv x1 (2 ^ 32)))))) (2 ^ 32)))) (IntKind.wrap .u64 (x0 * x1)) H
theorem b3t (x0 : Int) (x1 : Int) {K : Int → Int → Hp → Prop} (I : Inv w0 ps0 H0 H [] w) (hR : ∀ (r0 : Int) (r1 : Int) (H' : Hp) (w' : World) (_ : Inv w0 ps0 H0 H' [] w') (_ : K r0 r1 H'), R (Value.tuple #[(Value.int .u64 r0), (Value.int .u64 r1)]) w') (h : a1S x0 x1 H K) : F47 (Value.int .u64 x0) (Value.int .u64 x1) w R E := by
 unfold a1S at h
 unfold F47
 refine a7 (b8z _ _ _ _ _ _) ?_
 refine a7 (b2w _ _ _ _ _ _ _ (by decide) (by decide)) ?_
 refine a7 (b8z _ _ _ _ _ _) ?_
 refine a7 (b2w _ _ _ _ _ _ _ (by decide) (by decide)) ?_
 refine a7 (a9T _ _ _ _ _ _) ?_
 refine a7 (a9T _ _ _ _ _ _) ?_
 refine a7 (b2w _ _ _ _ _ _ _ (by decide) (by decide)) ?_
 refine a7 (E9 _ _ _ _ _ _) ?_
 refine a7 (b8z _ _ _ _ _ _) ?_
 refine a7 (b2w _ _ _ _ _ _ _ (by decide) (by decide)) ?_
 refine a7 (a9T _ _ _ _ _ _) ?_
 refine a7 (E9 _ _ _ _ _ _) ?_
 refine a7 (a9T _ _ _ _ _ _) ?_
 refine a7 (E9 _ _ _ _ _ _) ?_
 refine a7 (b2w _ _ _ _ _ _ _ (by decide) (by decide)) ?_
 refine a7 (E9 _ _ _ _ _ _) ?_
 refine a7 (a9T _ _ _ _ _ _) ?_
 exact hR (IntKind.wrap .u64 ((IntKind.wrap .u64 ((IntKind.wrap .u64 ((Int.fdiv x0 (2 ^ 32)) * (Int.fdiv x1 (2 ^ 32)))) + (Int.fdiv (IntKind.wrap .u64 ((IntKind.wrap .u64 ((Int.fdiv x0 (2 ^ 32)) * (bandI .u64 x1 4294967295))) + (Int.fdiv (IntKind.wrap .u64 ((bandI .u64 x0 4294967295) * (bandI .u64 x1 4294967295))) (2 ^ 32)))) (2 ^ 32)))) + (Int.fdiv (IntKind.wrap .u64 ((bandI .u64 (IntKind.wrap .u64 ((IntKind.wrap .u64 ((Int.fdiv x0 (2 ^ 32)) * (bandI .u64 x1 4294967295))) + (Int.fdiv (IntKind.wrap .u64 ((bandI .u64 x0 4294967295) * (bandI .u64 x1 4294967295))) (2 ^ 32)))) 4294967295) + (IntKind.wrap .u64 ((bandI .u64 x0 4294967295) * (Int.fdiv x1 (2 ^ 32)))))) (2 ^ 32)))) (IntKind.wrap .u64 (x0 * x1)) H _ I h
theorem b4Z (x0 : Int) (x1 : Int) {H : Hp} {K : Int → Int → Hp → Prop} (h : a1S x0 x1 H K) : a3R x0 x1 H K := by
 intro w I
 refine e9l ?_
 refine b3t x0 x1 I (fun r0 r1 H' w' I' hk => ⟨H', _, I', r0, r1, rfl, rfl, hk⟩) h
def R4 (b9p : Int) (d4w : Int) (e9J : Int) (a3W : Int) (a4G : Int) (H : Hp) (K : Int → Int → Hp → Prop) : Prop :=
 (((!decide (e9J = 0)) || (decide (a4G < a3W))) = true →
 K 0 1 H) ∧
 (((!decide (e9J = 0)) || (decide (a4G < a3W))) = false →
 K (IntKind.wrap .i64 (b9p * d4w)) 0 H)
def a2H (x0 : Int) (x1 : Int) (H : Hp) (K : Int → Int → Hp → Prop) : Prop :=
 a1K x0 H (fun (C0 : Int) (H_1 : Hp) =>
 a1K x1 H_1 (fun (A6 : Int) (a1k : Hp) =>
 a3R C0 A6 a1k (fun (V4 : Int) (b4B : Int) (a0B : Hp) =>
 (((decide (x0 < 0)) != (decide (x1 < 0))) = true →
 R4 x0 x1 V4 b4B (IntKind.wrap .u64 (9223372036854775807 + 1)) a0B K) ∧
 (((decide (x0 < 0)) != (decide (x1 < 0))) = false →
 R4 x0 x1 V4 b4B 9223372036854775807 a0B K))))
theorem b5a (x0 : Int) (x1 : Int) {K : Int → Int → Hp → Prop} (I : Inv w0 ps0 H0 H [] w) (hR : ∀ (r0 : Int) (r1 : Int) (H' : Hp) (w' : World) (_ : Inv w0 ps0 H0 H' [] w') (_ : K r0 r1 H'), R (Value.tuple #[(vi r0), (vi r1)]) w') (h : a2H x0 x1 H K) : F28 (vi x0) (vi x1) w R E := by
 unfold a2H at h
 unfold F28
 refine b9 (cap := []) (fun args w => Tryd.call48 args w) ?_
 refine m2 (Fi := []) (Fr := []) I (h) (fun v_5 H_1 F_6 w_2 I_3 l_8 k_4 q_7 => ?_) (fun _ _ _ _ _ q => q.elim)
 obtain ⟨C0, rfl, rfl, h⟩ := q_7
 refine b9 (cap := []) (fun args w => Tryd.call48 args w) ?_
 refine m2 (Fi := []) (Fr := []) I_3 (h) (fun c2w a1k e8m a0i M6 b5A b3a c2y => ?_) (fun _ _ _ _ _ q => q.elim)
 obtain ⟨A6, rfl, rfl, h⟩ := c2y
 refine b9 (cap := []) (fun args w => Tryd.call47 args w) ?_
 refine m2 (Fi := []) (Fr := []) M6 (h) (fun c7a a0B g1w p7 a7R d2L c2A d2M => ?_) (fun _ _ _ _ _ q => q.elim)
 obtain ⟨V4, b4B, rfl, rfl, h⟩ := d2M
 refine a7 (j7 _ _ (Value.int .u64 V4) rfl) ?_
 refine a7 (j7 _ _ (Value.int .u64 b4B) rfl) ?_
 have hj1 : ∀ (a4G : Int) (H : Hp) (w : World) (_ : Inv w0 ps0 H0 H [] w) (_ : R4 x0 x1 V4 b4B a4G H K), c3l (vi x0) (vi x1) (Value.int .u64 V4) (Value.int .u64 b4B) (Value.int .u64 a4G) w R E := by
  intro a4G H w I h
  unfold c3l
  intro _
  unfold R4 at h
  refine a7 (W7 _ _ _ _ _ _) ?_
  simp only [L6]
  refine a7 (Pu.g fun hb => by have f8 := hb; simp only [m9 f8]; exact (a1q _ _ _ _ _ _)) ?_
  refine a7 (a0g _ _) ?_
  refine o4 (fun d4x => ?_) (fun d4x => ?_)
  ·replace h := h.1 d4x
   exact hR 0 1 H _ I h
  ·replace h := h.2 d4x
   refine a7 (a9T _ _ _ _ _ _) ?_
   exact hR (IntKind.wrap .i64 (x0 * x1)) 0 H _ I h
 refine z7 fun j1 hx1 => ?_
 refine a7 (B8 _ _ _ _ _ _) ?_
 refine a7 (B8 _ _ _ _ _ _) ?_
 refine a7 (b0L _ _ _ _) ?_
 refine o4 (fun b5z => ?_) (fun b5z => ?_)
 ·replace h := h.1 b5z
  refine a7 (E9 _ _ _ _ _ _) ?_
  exact hx1 _ _ (hj1 (IntKind.wrap .u64 (9223372036854775807 + 1)) a0B _ a7R h)
 ·replace h := h.2 b5z
  exact hx1 _ _ (hj1 9223372036854775807 a0B _ a7R h)
theorem b6b (x0 : Int) (x1 : Int) {H : Hp} {K : Int → Int → Hp → Prop} (h : a2H x0 x1 H K) : a4t x0 x1 H K := by
 intro w I
 refine e8V ?_
 refine b5a x0 x1 I (fun r0 r1 H' w' I' hk => ⟨H', _, I', r0, r1, rfl, rfl, hk⟩) h
def a0I (x0 : Int) (x1 : Int) (H : Hp) (K : Int → Hp → Prop) : Prop :=
 (x1 = 0 →
 K 2 H) ∧
 (¬ (x1 = 0) →
 (((decide (x0 = (-9223372036854775808))) && (decide (x1 = (-1)))) = true →
 K 1 H) ∧
 (((decide (x0 = (-9223372036854775808))) && (decide (x1 = (-1)))) = false →
 K 0 H))
theorem b0i (x0 : Int) (x1 : Int) {K : Int → Hp → Prop} (I : Inv w0 ps0 H0 H [] w) (hR : ∀ (r0 : Int) (H' : Hp) (w' : World) (_ : Inv w0 ps0 H0 H' [] w') (_ : K r0 H'), R (vi r0) w') (h : a0I x0 x1 H K) : F49 (vi x0) (vi x1) w R E := by
 unfold a0I at h
 unfold F49
 refine a7 (i5 _ _ _ _ _ _) ?_
 refine h9 (fun c_2 => ?_) (fun c_2 => ?_)
 ·replace h := h.1 c_2
  exact hR 2 H _ I h
 ·replace h := h.2 c_2
  refine a7 (i5 _ _ _ _ _ _) ?_
  simp only [L6]
  refine a7 (Pu.g fun hb => by have f8 := hb; simp only [m9 f8]; exact (i5 _ _ _ _ _ _)) ?_
  refine a7 (L8 _ _) ?_
  refine o4 (fun c_1 => ?_) (fun c_1 => ?_)
  ·replace h := h.1 c_1
   exact hR 1 H _ I h
  ·replace h := h.2 c_1
   exact hR 0 H _ I h
theorem b1M (x0 : Int) (x1 : Int) {H : Hp} {K : Int → Hp → Prop} (h : a0I x0 x1 H K) : a0z x0 x1 H K := by
 intro w I
 refine e9p ?_
 refine b0i x0 x1 I (fun r0 H' w' I' hk => ⟨H', _, I', r0, rfl, rfl, hk⟩) h
def a4H (x0 : Int) (x1 : Int) (H : Hp) (K : Int → Int → Hp → Prop) : Prop :=
 a0z x0 x1 H (fun (C0 : Int) (H_1 : Hp) =>
 (¬ (C0 = 0) →
 K 0 C0 H_1) ∧
 (C0 = 0 →
 (x1 : Int) ≠ 0 ∧
 K (IntKind.wrap .i64 (Int.tdiv x0 x1)) 0 H_1))
theorem b5b (x0 : Int) (x1 : Int) {K : Int → Int → Hp → Prop} (I : Inv w0 ps0 H0 H [] w) (hR : ∀ (r0 : Int) (r1 : Int) (H' : Hp) (w' : World) (_ : Inv w0 ps0 H0 H' [] w') (_ : K r0 r1 H'), R (Value.tuple #[(vi r0), (vi r1)]) w') (h : a4H x0 x1 H K) : F29 (vi x0) (vi x1) w R E := by
 unfold a4H at h
 unfold F29
 refine b9 (cap := []) (fun args w => Tryd.call49 args w) ?_
 refine m2 (Fi := []) (Fr := []) I (h) (fun v_5 H_1 F_6 w_2 I_3 l_8 k_4 q_7 => ?_) (fun _ _ _ _ _ q => q.elim)
 obtain ⟨C0, rfl, rfl, h⟩ := q_7
 refine a7 (W7 _ _ _ _ _ _) ?_
 refine a4K (fun a7X => ?_) (fun a7X => ?_)
 ·replace h := h.1 a7X
  exact hR 0 C0 H_1 _ I_3 h
 ·replace h := h.2 a7X
  obtain ⟨b6c, h⟩ := h
  refine a7 (e3X _ _ _ _ _ _ b6c) ?_
  exact hR (IntKind.wrap .i64 (Int.tdiv x0 x1)) 0 H_1 _ I_3 h
theorem b6d (x0 : Int) (x1 : Int) {H : Hp} {K : Int → Int → Hp → Prop} (h : a4H x0 x1 H K) : a4u x0 x1 H K := by
 intro w I
 refine e8X ?_
 refine b5b x0 x1 I (fun r0 r1 H' w' I' hk => ⟨H', _, I', r0, r1, rfl, rfl, hk⟩) h
def a4I (x0 : Int) (x1 : Int) (H : Hp) (K : Int → Int → Hp → Prop) : Prop :=
 a0z x0 x1 H (fun (C0 : Int) (H_1 : Hp) =>
 (¬ (C0 = 0) →
 K 0 C0 H_1) ∧
 (C0 = 0 →
 (x1 : Int) ≠ 0 ∧
 K (Int.tmod x0 x1) 0 H_1))
theorem b5c (x0 : Int) (x1 : Int) {K : Int → Int → Hp → Prop} (I : Inv w0 ps0 H0 H [] w) (hR : ∀ (r0 : Int) (r1 : Int) (H' : Hp) (w' : World) (_ : Inv w0 ps0 H0 H' [] w') (_ : K r0 r1 H'), R (Value.tuple #[(vi r0), (vi r1)]) w') (h : a4I x0 x1 H K) : F30 (vi x0) (vi x1) w R E := by
 unfold a4I at h
 unfold F30
 refine b9 (cap := []) (fun args w => Tryd.call49 args w) ?_
 refine m2 (Fi := []) (Fr := []) I (h) (fun v_5 H_1 F_6 w_2 I_3 l_8 k_4 q_7 => ?_) (fun _ _ _ _ _ q => q.elim)
 obtain ⟨C0, rfl, rfl, h⟩ := q_7
 refine a7 (W7 _ _ _ _ _ _) ?_
 refine a4K (fun a7X => ?_) (fun a7X => ?_)
 ·replace h := h.1 a7X
  exact hR 0 C0 H_1 _ I_3 h
 ·replace h := h.2 a7X
  obtain ⟨b6c, h⟩ := h
  refine a7 (e3Y _ _ _ _ _ _ b6c) ?_
  exact hR (Int.tmod x0 x1) 0 H_1 _ I_3 h
theorem b6e (x0 : Int) (x1 : Int) {H : Hp} {K : Int → Int → Hp → Prop} (h : a4I x0 x1 H K) : a4v x0 x1 H K := by
 intro w I
 refine e8Z ?_
 refine b5c x0 x1 I (fun r0 r1 H' w' I' hk => ⟨H', _, I', r0, r1, rfl, rfl, hk⟩) h
def a0h (H : Hp) (K : Hp → Prop) : Prop :=
 K H
theorem a9K {K : Hp → Prop} (I : Inv w0 ps0 H0 H [] w) (hR : ∀ (H' : Hp) (w' : World) (_ : Inv w0 ps0 H0 H' [] w') (_ : K H'), R (Value.agg #[(fC 123), (fC 124), (fC 125), (fC 126), (fC 127), (fC 128), (fC 129)]) w') (h : a0h H K) : c7L w R E := by
 unfold a0h at h
 unfold c7L
 refine A0 I Tryd.zeroValue171 (cs := [Value.nilFunc, Value.nilFunc, Value.nilFunc, Value.nilFunc, Value.nilFunc, Value.nilFunc, Value.nilFunc]) rfl fun g_2 w_3 I_4 k_5 => ?_
 refine a7 a2Q ?_
 refine m5 I_4 Tryd.sizeOf171 (vs := [(fC 123), (fC 124), (fC 125), (fC 126), (fC 127), (fC 128), (fC 129)]) (cs' := [(fC 123), (fC 124), (fC 125), (fC 126), (fC 127), (fC 128), (fC 129)]) rfl rfl (nb rfl) rfl rfl fun w_6 I_7 k_8 => ?_
 refine a3p Tryd.isAgg171 Tryd.sizeOf171 rfl (I_7.at1 (o := 0) (vs := [(fC 123), (fC 124), (fC 125), (fC 126), (fC 127), (fC 128), (fC 129)]) (nb rfl) rfl) ?_
 exact hR H _ I_7.drop h
theorem b0j {H : Hp} {K : Hp → Prop} (h : a0h H K) : a2b H K := by
 intro w I
 refine e0s ?_
 refine a9K I (fun H' w' I' hk => ⟨H', _, I', rfl, rfl, hk⟩) h
def V9 (x0 : Int) (x1 : Int) (H : Hp) (K : Bool → Hp → Prop) : Prop :=
 K (decide (x0 < x1)) H
theorem a8q (x0 : Int) (x1 : Int) {K : Bool → Hp → Prop} (I : Inv w0 ps0 H0 H [] w) (hR : ∀ (r0 : Bool) (H' : Hp) (w' : World) (_ : Inv w0 ps0 H0 H' [] w') (_ : K r0 H'), R (vB r0) w') (h : V9 x0 x1 H K) : c7M (vi x0) (vi x1) w R E := by
 unfold V9 at h
 unfold c7M
 refine a7 (B8 _ _ _ _ _ _) ?_
 exact hR (decide (x0 < x1)) H _ I h
theorem a8S (x0 : Int) (x1 : Int) {H : Hp} {K : Bool → Hp → Prop} (h : V9 x0 x1 H K) : a3K x0 x1 H K := by
 intro w I
 refine e0u ?_
 refine a8q x0 x1 I (fun r0 H' w' I' hk => ⟨H', _, I', r0, rfl, rfl, hk⟩) h
def W0 (x0 : Int) (x1 : Int) (H : Hp) (K : Bool → Hp → Prop) : Prop :=
 K (decide (x0 ≤ x1)) H
theorem a8r (x0 : Int) (x1 : Int) {K : Bool → Hp → Prop} (I : Inv w0 ps0 H0 H [] w) (hR : ∀ (r0 : Bool) (H' : Hp) (w' : World) (_ : Inv w0 ps0 H0 H' [] w') (_ : K r0 H'), R (vB r0) w') (h : W0 x0 x1 H K) : c7N (vi x0) (vi x1) w R E := by
 unfold W0 at h
 unfold c7N
 refine a7 (b2u _ _ _ _ _ _) ?_
 exact hR (decide (x0 ≤ x1)) H _ I h
theorem a8T (x0 : Int) (x1 : Int) {H : Hp} {K : Bool → Hp → Prop} (h : W0 x0 x1 H K) : a3L x0 x1 H K := by
 intro w I
 refine e0w ?_
 refine a8r x0 x1 I (fun r0 H' w' I' hk => ⟨H', _, I', r0, rfl, rfl, hk⟩) h
def W2 (x0 : Int) (x1 : Int) (H : Hp) (K : Bool → Hp → Prop) : Prop :=
 K (decide (x0 = x1)) H
theorem a8s (x0 : Int) (x1 : Int) {K : Bool → Hp → Prop} (I : Inv w0 ps0 H0 H [] w) (hR : ∀ (r0 : Bool) (H' : Hp) (w' : World) (_ : Inv w0 ps0 H0 H' [] w') (_ : K r0 H'), R (vB r0) w') (h : W2 x0 x1 H K) : c7O (vi x0) (vi x1) w R E := by
 unfold W2 at h
 unfold c7O
 refine a7 (i5 _ _ _ _ _ _) ?_
 exact hR (decide (x0 = x1)) H _ I h
theorem a8U (x0 : Int) (x1 : Int) {H : Hp} {K : Bool → Hp → Prop} (h : W2 x0 x1 H K) : a3M x0 x1 H K := by
 intro w I
 refine e0y ?_
 refine a8s x0 x1 I (fun r0 H' w' I' hk => ⟨H', _, I', r0, rfl, rfl, hk⟩) h
def W3 (x0 : Int) (x1 : Int) (H : Hp) (K : Bool → Hp → Prop) : Prop :=
 K (!decide (x0 = x1)) H
theorem a8t (x0 : Int) (x1 : Int) {K : Bool → Hp → Prop} (I : Inv w0 ps0 H0 H [] w) (hR : ∀ (r0 : Bool) (H' : Hp) (w' : World) (_ : Inv w0 ps0 H0 H' [] w') (_ : K r0 H'), R (vB r0) w') (h : W3 x0 x1 H K) : c7P (vi x0) (vi x1) w R E := by
 unfold W3 at h
 unfold c7P
 refine a7 (W7 _ _ _ _ _ _) ?_
 exact hR (!decide (x0 = x1)) H _ I h
theorem a8V (x0 : Int) (x1 : Int) {H : Hp} {K : Bool → Hp → Prop} (h : W3 x0 x1 H K) : a3N x0 x1 H K := by
 intro w I
 refine e0A ?_
 refine a8t x0 x1 I (fun r0 H' w' I' hk => ⟨H', _, I', r0, rfl, rfl, hk⟩) h
def W4 (x0 : Int) (x1 : Int) (H : Hp) (K : Bool → Hp → Prop) : Prop :=
 K (decide (x1 < x0)) H
theorem a8u (x0 : Int) (x1 : Int) {K : Bool → Hp → Prop} (I : Inv w0 ps0 H0 H [] w) (hR : ∀ (r0 : Bool) (H' : Hp) (w' : World) (_ : Inv w0 ps0 H0 H' [] w') (_ : K r0 H'), R (vB r0) w') (h : W4 x0 x1 H K) : c7Q (vi x0) (vi x1) w R E := by
 unfold W4 at h
 unfold c7Q
 refine a7 (a1q _ _ _ _ _ _) ?_
 exact hR (decide (x1 < x0)) H _ I h
theorem a8W (x0 : Int) (x1 : Int) {H : Hp} {K : Bool → Hp → Prop} (h : W4 x0 x1 H K) : a3O x0 x1 H K := by
 intro w I
 refine e0C ?_
 refine a8u x0 x1 I (fun r0 H' w' I' hk => ⟨H', _, I', r0, rfl, rfl, hk⟩) h
def W5 (x0 : Int) (x1 : Int) (H : Hp) (K : Bool → Hp → Prop) : Prop :=
 K (decide (x1 ≤ x0)) H
theorem a8v (x0 : Int) (x1 : Int) {K : Bool → Hp → Prop} (I : Inv w0 ps0 H0 H [] w) (hR : ∀ (r0 : Bool) (H' : Hp) (w' : World) (_ : Inv w0 ps0 H0 H' [] w') (_ : K r0 H'), R (vB r0) w') (h : W5 x0 x1 H K) : c7R (vi x0) (vi x1) w R E := by
 unfold W5 at h
 unfold c7R
 refine a7 (a9S _ _ _ _ _ _) ?_
 exact hR (decide (x1 ≤ x0)) H _ I h
theorem a8X (x0 : Int) (x1 : Int) {H : Hp} {K : Bool → Hp → Prop} (h : W5 x0 x1 H K) : a3P x0 x1 H K := by
 intro w I
 refine e0E ?_
 refine a8v x0 x1 I (fun r0 H' w' I' hk => ⟨H', _, I', r0, rfl, rfl, hk⟩) h
def a2I (x0 : Int) (x1 : Int) (x2 : Int) (H : Hp) (K : Bool → Hp → Prop) : Prop :=
 (((decide (x0 < 1)) || (decide (6 < x0))) = true →
 K false H) ∧
 (((decide (x0 < 1)) || (decide (6 < x0))) = false →
 a2b H (fun (H_1 : Hp) =>
 (0 : Int) ≤ x0 ∧ (x0 : Int) < 7 ∧
 ∃ a9L : Bool → Hp → Prop, (∀ (Z8 : Bool) (a1l : Hp), a9L Z8 a1l →
 K Z8 a1l) ∧ ((x0 : Int) = 0 → b2Z x1 x2 H_1 a9L) ∧ ((x0 : Int) = 1 → a3K x1 x2 H_1 a9L) ∧ ((x0 : Int) = 2 → a3L x1 x2 H_1 a9L) ∧ ((x0 : Int) = 3 → a3M x1 x2 H_1 a9L) ∧ ((x0 : Int) = 4 → a3N x1 x2 H_1 a9L) ∧ ((x0 : Int) = 5 → a3O x1 x2 H_1 a9L) ∧ ((x0 : Int) = 6 → a3P x1 x2 H_1 a9L)))
theorem b5d (x0 : Int) (x1 : Int) (x2 : Int) {K : Bool → Hp → Prop} (I : Inv w0 ps0 H0 H [] w) (hR : ∀ (r0 : Bool) (H' : Hp) (w' : World) (_ : Inv w0 ps0 H0 H' [] w') (_ : K r0 H'), R (vB r0) w') (h : a2I x0 x1 x2 H K) : F75 (vi x0) (vi x1) (vi x2) w R E := by
 unfold a2I at h
 unfold F75
 refine a7 (B8 _ _ _ _ _ _) ?_
 simp only [L6]
 refine a7 (Pu.g fun hb => by have f8 := hb; simp only [m9 f8]; exact (a1q _ _ _ _ _ _)) ?_
 refine a7 (a0g _ _) ?_
 refine o4 (fun b5y => ?_) (fun b5y => ?_)
 ·replace h := h.1 b5y
  exact hR false H _ I h
 ·replace h := h.2 b5y
  refine b9 (cap := []) (fun args w => Tryd.call110 args w) ?_
  refine m2 (Fi := []) (Fr := []) I (h) (fun v_5 H_1 F_6 w_2 I_3 l_8 k_4 q_7 => ?_) (fun _ _ _ _ _ q => q.elim)
  obtain ⟨rfl, rfl, h⟩ := q_7
  obtain ⟨b6c, g2P, h⟩ := h
  refine a7 (P7 _ _ b6c g2P) ?_
  obtain ⟨a9L, d3X, c3c, c3d, b5W, g2Q, d4y, g2R, a5J⟩ := h
  refine d8t (D := fun b1N a0j => ∃ (Z8 : Bool) (a1l : Hp), b1N = (vB Z8) ∧ (Inv w0 ps0 H0 a1l [] a0j) ∧ (∀ i, i < w_2.heap.size → ¬ inF [] i → a0j.heap[i]? = w_2.heap[i]?) ∧ Hle H_1 a1l ∧ (a9L Z8 a1l)) ?_ ?_
  ·obtain e | e | e | e | e | e | e := (by omega : (x0 : Int) = 0 ∨ (x0 : Int) = 1 ∨ (x0 : Int) = 2 ∨ (x0 : Int) = 3 ∨ (x0 : Int) = 4 ∨ (x0 : Int) = 5 ∨ (x0 : Int) = 6)
   ·replace h := c3c e
    refine a8Z (s' := xCall (fC 123) [(vi x1), (vi x2)]) (by rw [e]; rfl) ?_
    refine b9 (cap := []) (fun args w => Tryd.call123 args w) ?_
    refine m2 (Fi := []) (Fr := []) I_3 (h) (fun b1N a1l b9s a0j O7 a2S a1E a5T => ?_) (fun _ _ _ _ _ q => q.elim)
    obtain ⟨Z8, rfl, rfl, h⟩ := a5T
    exact ⟨Z8, a1l, rfl, O7, a1E, a2S, h⟩
   ·replace h := c3d e
    refine a8Z (s' := xCall (fC 124) [(vi x1), (vi x2)]) (by rw [e]; rfl) ?_
    refine b9 (cap := []) (fun args w => Tryd.call124 args w) ?_
    refine m2 (Fi := []) (Fr := []) I_3 (h) (fun b1N a1l b9s a0j O7 a2S a1E a5T => ?_) (fun _ _ _ _ _ q => q.elim)
    obtain ⟨Z8, rfl, rfl, h⟩ := a5T
    exact ⟨Z8, a1l, rfl, O7, a1E, a2S, h⟩
   ·replace h := b5W e
    refine a8Z (s' := xCall (fC 125) [(vi x1), (vi x2)]) (by rw [e]; rfl) ?_
    refine b9 (cap := []) (fun args w => Tryd.call125 args w) ?_
    refine m2 (Fi := []) (Fr := []) I_3 (h) (fun b1N a1l b9s a0j O7 a2S a1E a5T => ?_) (fun _ _ _ _ _ q => q.elim)
    obtain ⟨Z8, rfl, rfl, h⟩ := a5T
    exact ⟨Z8, a1l, rfl, O7, a1E, a2S, h⟩
   ·replace h := g2Q e
    refine a8Z (s' := xCall (fC 126) [(vi x1), (vi x2)]) (by rw [e]; rfl) ?_
    refine b9 (cap := []) (fun args w => Tryd.call126 args w) ?_
    refine m2 (Fi := []) (Fr := []) I_3 (h) (fun b1N a1l b9s a0j O7 a2S a1E a5T => ?_) (fun _ _ _ _ _ q => q.elim)
    obtain ⟨Z8, rfl, rfl, h⟩ := a5T
    exact ⟨Z8, a1l, rfl, O7, a1E, a2S, h⟩
   ·replace h := d4y e
    refine a8Z (s' := xCall (fC 127) [(vi x1), (vi x2)]) (by rw [e]; rfl) ?_
    refine b9 (cap := []) (fun args w => Tryd.call127 args w) ?_
    refine m2 (Fi := []) (Fr := []) I_3 (h) (fun b1N a1l b9s a0j O7 a2S a1E a5T => ?_) (fun _ _ _ _ _ q => q.elim)
    obtain ⟨Z8, rfl, rfl, h⟩ := a5T
    exact ⟨Z8, a1l, rfl, O7, a1E, a2S, h⟩
   ·replace h := g2R e
    refine a8Z (s' := xCall (fC 128) [(vi x1), (vi x2)]) (by rw [e]; rfl) ?_
    refine b9 (cap := []) (fun args w => Tryd.call128 args w) ?_
    refine m2 (Fi := []) (Fr := []) I_3 (h) (fun b1N a1l b9s a0j O7 a2S a1E a5T => ?_) (fun _ _ _ _ _ q => q.elim)
    obtain ⟨Z8, rfl, rfl, h⟩ := a5T
    exact ⟨Z8, a1l, rfl, O7, a1E, a2S, h⟩
   ·replace h := a5J e
    refine a8Z (s' := xCall (fC 129) [(vi x1), (vi x2)]) (by rw [e]; rfl) ?_
    refine b9 (cap := []) (fun args w => Tryd.call129 args w) ?_
    refine m2 (Fi := []) (Fr := []) I_3 (h) (fun b1N a1l b9s a0j O7 a2S a1E a5T => ?_) (fun _ _ _ _ _ q => q.elim)
    obtain ⟨Z8, rfl, rfl, h⟩ := a5T
    exact ⟨Z8, a1l, rfl, O7, a1E, a2S, h⟩
  ·rintro b1N a0j ⟨Z8, a1l, rfl, O7, a1E, a2S, h⟩
   replace h := d3X _ _ h
   exact hR Z8 a1l _ O7 h
theorem b6f (x0 : Int) (x1 : Int) (x2 : Int) {H : Hp} {K : Bool → Hp → Prop} (h : a2I x0 x1 x2 H K) : a7P x0 x1 x2 H K := by
 intro w I
 refine e9r ?_
 refine b5d x0 x1 x2 I (fun r0 H' w' I' hk => ⟨H', _, I', r0, rfl, rfl, hk⟩) h
end Go.Proofs.YtnhkdkcgdcgmdaaDoor
