/- Typed formulas of the program's functions that few laws need; printed by lift.py off the code. -/
import Derived.Test.YtnhkdkcgdcgmdaaDoorzLV1
import Derived.Test.YtnhkdkcgdcgmdaaDoorzLG1r
namespace Go.Proofs.YtnhkdkcgdcgmdaaDoor
open Go.RowKit
set_option maxRecDepth 100000
set_option maxHeartbeats 2000000
variable {w0 w : World} {ps0 : Nat → Prop} {H0 H : Hp} {R : RT} {E : Pan}
def a2R (x0 : Int) (x1 : Int) (H : Hp) (K : Int → Int → Hp → Prop) : Prop :=
 ((((decide (x0 < 0)) != (decide (x1 < 0))) && ((decide ((IntKind.wrap .i64 (x0 - x1)) < 0)) != (decide (x0 < 0)))) = true →
 K 0 1 H) ∧
 ((((decide (x0 < 0)) != (decide (x1 < 0))) && ((decide ((IntKind.wrap .i64 (x0 - x1)) < 0)) != (decide (x0 < 0)))) = false →
 K (IntKind.wrap .i64 (x0 - x1)) 0 H)
theorem b5q (x0 : Int) (x1 : Int) {K : Int → Int → Hp → Prop} (I : Inv w0 ps0 H0 H [] w) (hR : ∀ (r0 : Int) (r1 : Int) (H' : Hp) (w' : World) (_ : Inv w0 ps0 H0 H' [] w') (_ : K r0 r1 H'), R (Value.tuple #[(vi r0), (vi r1)]) w') (h : a2R x0 x1 H K) : F27 (vi x0) (vi x1) w R E := by
 unfold a2R at h
 unfold F27
 refine a7 (b2P _ _ _ _ _ _) ?_
 refine a7 (B8 _ _ _ _ _ _) ?_
 refine a7 (B8 _ _ _ _ _ _) ?_
 refine a7 (b1k _ _ _ _) ?_
 simp only [L3]
 refine a7 (Pu.g fun hb => by have g7 := hb; simp only [o7 g7]; exact (B8 _ _ _ _ _ _)) ?_
 refine a7 (Pu.g fun hb => by have g7 := hb; simp only [o7 g7]; exact (B8 _ _ _ _ _ _)) ?_
 refine a7 (Pu.g fun hb => by have g7 := hb; simp only [o7 g7]; exact (b1k _ _ _ _)) ?_
 refine a7 (O7 _ _) ?_
 refine p7 (fun c_1 => ?_) (fun c_1 => ?_)
 ·replace h := h.1 c_1
  exact hR 0 1 H _ I h
 ·replace h := h.2 c_1
  exact hR (IntKind.wrap .i64 (x0 - x1)) 0 H _ I h
theorem b6z (x0 : Int) (x1 : Int) {H : Hp} {K : Int → Int → Hp → Prop} (h : a2R x0 x1 H K) : a4H x0 x1 H K := by
 intro w I
 refine e9j ?_
 refine b5q x0 x1 I (fun r0 r1 H' w' I' hk => ⟨H', _, I', r0, r1, rfl, rfl, hk⟩) h
def a2S (x0 : Int) (H : Hp) (K : Int → Int → Hp → Prop) : Prop :=
 a4H 0 x0 H (fun (C4 : Int) (c8p : Int) (H_1 : Hp) =>
 K C4 c8p H_1)
theorem b5r (x0 : Int) {K : Int → Int → Hp → Prop} (I : Inv w0 ps0 H0 H [] w) (hR : ∀ (r0 : Int) (r1 : Int) (H' : Hp) (w' : World) (_ : Inv w0 ps0 H0 H' [] w') (_ : K r0 r1 H'), R (Value.tuple #[(vi r0), (vi r1)]) w') (h : a2S x0 H K) : c8h (vi x0) w R E := by
 unfold a2S at h
 unfold c8h
 refine d5 (cap := []) (fun args w => Tryd.call27 args w) ?_
 refine m5 (Fi := []) (Fr := []) I (h) (fun v_5 H_1 F_6 w_2 I_3 l_8 k_4 q_7 => ?_) (fun _ _ _ _ _ q => q.elim)
 obtain ⟨C4, c8p, rfl, rfl, h⟩ := q_7
 refine a7 (m6 _ _ (vi C4) rfl) ?_
 refine a7 (m6 _ _ (vi c8p) rfl) ?_
 exact hR C4 c8p H_1 _ I_3 h
theorem b6A (x0 : Int) {H : Hp} {K : Int → Int → Hp → Prop} (h : a2S x0 H K) : a8f x0 H K := by
 intro w I
 refine e0N ?_
 refine b5r x0 I (fun r0 r1 H' w' I' hk => ⟨H', _, I', r0, r1, rfl, rfl, hk⟩) h
def a2T (x0 : Int) (x1 : Int) (H : Hp) (K : Int → Int → Hp → Prop) : Prop :=
 ((((decide (x0 < 0)) == (decide (x1 < 0))) && ((decide ((IntKind.wrap .i64 (x0 + x1)) < 0)) != (decide (x0 < 0)))) = true →
 K 0 1 H) ∧
 ((((decide (x0 < 0)) == (decide (x1 < 0))) && ((decide ((IntKind.wrap .i64 (x0 + x1)) < 0)) != (decide (x0 < 0)))) = false →
 K (IntKind.wrap .i64 (x0 + x1)) 0 H)
theorem b5s (x0 : Int) (x1 : Int) {K : Int → Int → Hp → Prop} (I : Inv w0 ps0 H0 H [] w) (hR : ∀ (r0 : Int) (r1 : Int) (H' : Hp) (w' : World) (_ : Inv w0 ps0 H0 H' [] w') (_ : K r0 r1 H'), R (Value.tuple #[(vi r0), (vi r1)]) w') (h : a2T x0 x1 H K) : F26 (vi x0) (vi x1) w R E := by
 unfold a2T at h
 unfold F26
 refine a7 (E4 _ _ _ _ _ _) ?_
 refine a7 (B8 _ _ _ _ _ _) ?_
 refine a7 (B8 _ _ _ _ _ _) ?_
 refine a7 (d2T _ _ _ _) ?_
 simp only [L3]
 refine a7 (Pu.g fun hb => by have g7 := hb; simp only [o7 g7]; exact (B8 _ _ _ _ _ _)) ?_
 refine a7 (Pu.g fun hb => by have g7 := hb; simp only [o7 g7]; exact (B8 _ _ _ _ _ _)) ?_
 refine a7 (Pu.g fun hb => by have g7 := hb; simp only [o7 g7]; exact (b1k _ _ _ _)) ?_
 refine a7 (O7 _ _) ?_
 refine p7 (fun c_1 => ?_) (fun c_1 => ?_)
 ·replace h := h.1 c_1
  exact hR 0 1 H _ I h
 ·replace h := h.2 c_1
  exact hR (IntKind.wrap .i64 (x0 + x1)) 0 H _ I h
theorem b6B (x0 : Int) (x1 : Int) {H : Hp} {K : Int → Int → Hp → Prop} (h : a2T x0 x1 H K) : a8g x0 x1 H K := by
 intro w I
 refine e9h ?_
 refine b5s x0 x1 I (fun r0 r1 H' w' I' hk => ⟨H', _, I', r0, r1, rfl, rfl, hk⟩) h
def a2b (x0 : Int) (H : Hp) (K : Int → Hp → Prop) : Prop :=
 (x0 < 0 →
 K (IntKind.wrap .u64 (0 - (IntKind.wrap .u64 x0))) H) ∧
 (¬ (x0 < 0) →
 K (IntKind.wrap .u64 x0) H)
theorem b3K (x0 : Int) {K : Int → Hp → Prop} (I : Inv w0 ps0 H0 H [] w) (hR : ∀ (r0 : Int) (H' : Hp) (w' : World) (_ : Inv w0 ps0 H0 H' [] w') (_ : K r0 H'), R (Value.int .u64 r0) w') (h : a2b x0 H K) : F48 (vi x0) w R E := by
 unfold a2b at h
 unfold F48
 refine a7 (B8 _ _ _ _ _ _) ?_
 refine i4 (fun c_1 => ?_) (fun c_1 => ?_)
 ·replace h := h.1 c_1
  refine a7 (b7q _ _) ?_
  refine a7 (c1y _ _) ?_
  exact hR (IntKind.wrap .u64 (0 - (IntKind.wrap .u64 x0))) H _ I h
 ·replace h := h.2 c_1
  refine a7 (b7q _ _) ?_
  exact hR (IntKind.wrap .u64 x0) H _ I h
theorem b5t (x0 : Int) {H : Hp} {K : Int → Hp → Prop} (h : a2b x0 H K) : a1T x0 H K := by
 intro w I
 refine e9G ?_
 refine b3K x0 I (fun r0 H' w' I' hk => ⟨H', _, I', r0, rfl, rfl, hk⟩) h
def a2d (x0 : Int) (x1 : Int) (H : Hp) (K : Int → Int → Hp → Prop) : Prop :=
 K (IntKind.wrap .u64 ((IntKind.wrap .u64 ((IntKind.wrap .u64 ((Int.fdiv x0 (2 ^ 32)) * (Int.fdiv x1 (2 ^ 32)))) + (Int.fdiv (IntKind.wrap .u64 ((IntKind.wrap .u64 ((Int.fdiv x0 (2 ^ 32)) * (bandI .u64 x1 4294967295))) + (Int.fdiv (IntKind.wrap .u64 ((bandI .u64 x0 4294967295) * (bandI .u64 x1 4294967295))) (2 ^ 32)))) (2 ^ 32)))) + (Int.fdiv (IntKind.wrap .u64 ((bandI .u64 (IntKind.wrap .u64 ((IntKind.wrap .u64 ((Int.fdiv x0 (2 ^ 32)) * (bandI .u64 x1 4294967295))) + (Int.fdiv (IntKind.wrap .u64 ((bandI .u64 x0 4294967295) * (bandI .u64 x1 4294967295))) (2 ^ 32)))) 4294967295) + (IntKind.wrap .u64 ((bandI .u64 x0 4294967295) * (Int.fdiv x1 (2 ^ 32)))))) (2 ^ 32)))) (IntKind.wrap .u64 (x0 * x1)) H
theorem b3L (x0 : Int) (x1 : Int) {K : Int → Int → Hp → Prop} (I : Inv w0 ps0 H0 H [] w) (hR : ∀ (r0 : Int) (r1 : Int) (H' : Hp) (w' : World) (_ : Inv w0 ps0 H0 H' [] w') (_ : K r0 r1 H'), R (Value.tuple #[(Value.int .u64 r0), (Value.int .u64 r1)]) w') (h : a2d x0 x1 H K) : F47 (Value.int .u64 x0) (Value.int .u64 x1) w R E := by
 unfold a2d at h
 unfold F47
 refine a7 (b8R _ _ _ _ _ _) ?_
 refine a7 (b2Q _ _ _ _ _ _ _ (by decide) (by decide)) ?_
 refine a7 (b8R _ _ _ _ _ _) ?_
 refine a7 (b2Q _ _ _ _ _ _ _ (by decide) (by decide)) ?_
 refine a7 (a6y _ _ _ _ _ _) ?_
 refine a7 (a6y _ _ _ _ _ _) ?_
 refine a7 (b2Q _ _ _ _ _ _ _ (by decide) (by decide)) ?_
 refine a7 (E4 _ _ _ _ _ _) ?_
 refine a7 (b8R _ _ _ _ _ _) ?_
 refine a7 (b2Q _ _ _ _ _ _ _ (by decide) (by decide)) ?_
 refine a7 (a6y _ _ _ _ _ _) ?_
 refine a7 (E4 _ _ _ _ _ _) ?_
 refine a7 (a6y _ _ _ _ _ _) ?_
 refine a7 (E4 _ _ _ _ _ _) ?_
 refine a7 (b2Q _ _ _ _ _ _ _ (by decide) (by decide)) ?_
 refine a7 (E4 _ _ _ _ _ _) ?_
 refine a7 (a6y _ _ _ _ _ _) ?_
 exact hR (IntKind.wrap .u64 ((IntKind.wrap .u64 ((IntKind.wrap .u64 ((Int.fdiv x0 (2 ^ 32)) * (Int.fdiv x1 (2 ^ 32)))) + (Int.fdiv (IntKind.wrap .u64 ((IntKind.wrap .u64 ((Int.fdiv x0 (2 ^ 32)) * (bandI .u64 x1 4294967295))) + (Int.fdiv (IntKind.wrap .u64 ((bandI .u64 x0 4294967295) * (bandI .u64 x1 4294967295))) (2 ^ 32)))) (2 ^ 32)))) + (Int.fdiv (IntKind.wrap .u64 ((bandI .u64 (IntKind.wrap .u64 ((IntKind.wrap .u64 ((Int.fdiv x0 (2 ^ 32)) * (bandI .u64 x1 4294967295))) + (Int.fdiv (IntKind.wrap .u64 ((bandI .u64 x0 4294967295) * (bandI .u64 x1 4294967295))) (2 ^ 32)))) 4294967295) + (IntKind.wrap .u64 ((bandI .u64 x0 4294967295) * (Int.fdiv x1 (2 ^ 32)))))) (2 ^ 32)))) (IntKind.wrap .u64 (x0 * x1)) H _ I h
theorem b5u (x0 : Int) (x1 : Int) {H : Hp} {K : Int → Int → Hp → Prop} (h : a2d x0 x1 H K) : a4i x0 x1 H K := by
 intro w I
 refine e9E ?_
 refine b3L x0 x1 I (fun r0 r1 H' w' I' hk => ⟨H', _, I', r0, r1, rfl, rfl, hk⟩) h
def S2 (c7V : Int) (g3r : Int) (f0c : Int) (b2j : Int) (b9J : Int) (H : Hp) (K : Int → Int → Hp → Prop) : Prop :=
 (((!decide (f0c = 0)) || (decide (b9J < b2j))) = true →
 K 0 1 H) ∧
 (((!decide (f0c = 0)) || (decide (b9J < b2j))) = false →
 K (IntKind.wrap .i64 (c7V * g3r)) 0 H)
def a2U (x0 : Int) (x1 : Int) (H : Hp) (K : Int → Int → Hp → Prop) : Prop :=
 a1T x0 H (fun (C4 : Int) (H_1 : Hp) =>
 a1T x1 H_1 (fun (C6 : Int) (a3p : Hp) =>
 a4i C4 C6 a3p (fun (W8 : Int) (b4U : Int) (a0O : Hp) =>
 (((decide (x0 < 0)) != (decide (x1 < 0))) = true →
 S2 x0 x1 W8 b4U (IntKind.wrap .u64 (9223372036854775807 + 1)) a0O K) ∧
 (((decide (x0 < 0)) != (decide (x1 < 0))) = false →
 S2 x0 x1 W8 b4U 9223372036854775807 a0O K))))
theorem b5v (x0 : Int) (x1 : Int) {K : Int → Int → Hp → Prop} (I : Inv w0 ps0 H0 H [] w) (hR : ∀ (r0 : Int) (r1 : Int) (H' : Hp) (w' : World) (_ : Inv w0 ps0 H0 H' [] w') (_ : K r0 r1 H'), R (Value.tuple #[(vi r0), (vi r1)]) w') (h : a2U x0 x1 H K) : F28 (vi x0) (vi x1) w R E := by
 unfold a2U at h
 unfold F28
 refine d5 (cap := []) (fun args w => Tryd.call48 args w) ?_
 refine m5 (Fi := []) (Fr := []) I (h) (fun v_5 H_1 F_6 w_2 I_3 l_8 k_4 q_7 => ?_) (fun _ _ _ _ _ q => q.elim)
 obtain ⟨C4, rfl, rfl, h⟩ := q_7
 refine d5 (cap := []) (fun args w => Tryd.call48 args w) ?_
 refine m5 (Fi := []) (Fr := []) I_3 (h) (fun c7s a3p g1Z a0I O6 b9w b5V d3c => ?_) (fun _ _ _ _ _ q => q.elim)
 obtain ⟨C6, rfl, rfl, h⟩ := d3c
 refine d5 (cap := []) (fun args w => Tryd.call47 args w) ?_
 refine m5 (Fi := []) (Fr := []) O6 (h) (fun c7t a0O g2a q9 a5O d3d b9x d3e => ?_) (fun _ _ _ _ _ q => q.elim)
 obtain ⟨W8, b4U, rfl, rfl, h⟩ := d3e
 refine a7 (m6 _ _ (Value.int .u64 W8) rfl) ?_
 refine a7 (m6 _ _ (Value.int .u64 b4U) rfl) ?_
 have hj1 : ∀ (b9J : Int) (H : Hp) (w : World) (_ : Inv w0 ps0 H0 H [] w) (_ : S2 x0 x1 W8 b4U b9J H K), c3w (vi x0) (vi x1) (Value.int .u64 W8) (Value.int .u64 b4U) (Value.int .u64 b9J) w R E := by
  intro b9J H w I h
  unfold c3w
  intro _
  unfold S2 at h
  refine a7 (a0m _ _ _ _ _ _) ?_
  simp only [L3]
  refine a7 (Pu.g fun hb => by have g7 := hb; simp only [o7 g7]; exact (a0B _ _ _ _ _ _)) ?_
  refine a7 (W6 _ _) ?_
  refine p7 (fun d4P => ?_) (fun d4P => ?_)
  ·replace h := h.1 d4P
   exact hR 0 1 H _ I h
  ·replace h := h.2 d4P
   refine a7 (a6y _ _ _ _ _ _) ?_
   exact hR (IntKind.wrap .i64 (x0 * x1)) 0 H _ I h
 refine A8 fun j1 hx1 => ?_
 refine a7 (B8 _ _ _ _ _ _) ?_
 refine a7 (B8 _ _ _ _ _ _) ?_
 refine a7 (b1k _ _ _ _) ?_
 refine p7 (fun b5X => ?_) (fun b5X => ?_)
 ·replace h := h.1 b5X
  refine a7 (E4 _ _ _ _ _ _) ?_
  exact hx1 _ _ (hj1 (IntKind.wrap .u64 (9223372036854775807 + 1)) a0O _ a5O h)
 ·replace h := h.2 b5X
  exact hx1 _ _ (hj1 9223372036854775807 a0O _ a5O h)
theorem b6C (x0 : Int) (x1 : Int) {H : Hp} {K : Int → Int → Hp → Prop} (h : a2U x0 x1 H K) : a8h x0 x1 H K := by
 intro w I
 refine e9o ?_
 refine b5v x0 x1 I (fun r0 r1 H' w' I' hk => ⟨H', _, I', r0, r1, rfl, rfl, hk⟩) h
def a0V (x0 : Int) (x1 : Int) (H : Hp) (K : Int → Hp → Prop) : Prop :=
 (x1 = 0 →
 K 2 H) ∧
 (¬ (x1 = 0) →
 (((decide (x0 = (-9223372036854775808))) && (decide (x1 = (-1)))) = true →
 K 1 H) ∧
 (((decide (x0 = (-9223372036854775808))) && (decide (x1 = (-1)))) = false →
 K 0 H))
theorem b0H (x0 : Int) (x1 : Int) {K : Int → Hp → Prop} (I : Inv w0 ps0 H0 H [] w) (hR : ∀ (r0 : Int) (H' : Hp) (w' : World) (_ : Inv w0 ps0 H0 H' [] w') (_ : K r0 H'), R (vi r0) w') (h : a0V x0 x1 H K) : F49 (vi x0) (vi x1) w R E := by
 unfold a0V at h
 unfold F49
 refine a7 (i8 _ _ _ _ _ _) ?_
 refine i4 (fun c_2 => ?_) (fun c_2 => ?_)
 ·replace h := h.1 c_2
  exact hR 2 H _ I h
 ·replace h := h.2 c_2
  refine a7 (i8 _ _ _ _ _ _) ?_
  simp only [L3]
  refine a7 (Pu.g fun hb => by have g7 := hb; simp only [o7 g7]; exact (i8 _ _ _ _ _ _)) ?_
  refine a7 (O7 _ _) ?_
  refine p7 (fun c_1 => ?_) (fun c_1 => ?_)
  ·replace h := h.1 c_1
   exact hR 1 H _ I h
  ·replace h := h.2 c_1
   exact hR 0 H _ I h
theorem b2k (x0 : Int) (x1 : Int) {H : Hp} {K : Int → Hp → Prop} (h : a0V x0 x1 H K) : a0M x0 x1 H K := by
 intro w I
 refine e9I ?_
 refine b0H x0 x1 I (fun r0 H' w' I' hk => ⟨H', _, I', r0, rfl, rfl, hk⟩) h
def a4U (x0 : Int) (x1 : Int) (H : Hp) (K : Int → Int → Hp → Prop) : Prop :=
 a0M x0 x1 H (fun (C4 : Int) (H_1 : Hp) =>
 (¬ (C4 = 0) →
 K 0 C4 H_1) ∧
 (C4 = 0 →
 (x1 : Int) ≠ 0 ∧
 K (IntKind.wrap .i64 (Int.tdiv x0 x1)) 0 H_1))
theorem b5w (x0 : Int) (x1 : Int) {K : Int → Int → Hp → Prop} (I : Inv w0 ps0 H0 H [] w) (hR : ∀ (r0 : Int) (r1 : Int) (H' : Hp) (w' : World) (_ : Inv w0 ps0 H0 H' [] w') (_ : K r0 r1 H'), R (Value.tuple #[(vi r0), (vi r1)]) w') (h : a4U x0 x1 H K) : F29 (vi x0) (vi x1) w R E := by
 unfold a4U at h
 unfold F29
 refine d5 (cap := []) (fun args w => Tryd.call49 args w) ?_
 refine m5 (Fi := []) (Fr := []) I (h) (fun v_5 H_1 F_6 w_2 I_3 l_8 k_4 q_7 => ?_) (fun _ _ _ _ _ q => q.elim)
 obtain ⟨C4, rfl, rfl, h⟩ := q_7
 refine a7 (a0m _ _ _ _ _ _) ?_
 refine a5L (fun a8s => ?_) (fun a8s => ?_)
 ·replace h := h.1 a8s
  exact hR 0 C4 H_1 _ I_3 h
 ·replace h := h.2 a8s
  obtain ⟨b6D, h⟩ := h
  refine a7 (c9R _ _ _ _ _ _ b6D) ?_
  exact hR (IntKind.wrap .i64 (Int.tdiv x0 x1)) 0 H_1 _ I_3 h
theorem b6E (x0 : Int) (x1 : Int) {H : Hp} {K : Int → Int → Hp → Prop} (h : a4U x0 x1 H K) : a8i x0 x1 H K := by
 intro w I
 refine e9q ?_
 refine b5w x0 x1 I (fun r0 r1 H' w' I' hk => ⟨H', _, I', r0, r1, rfl, rfl, hk⟩) h
def a4V (x0 : Int) (x1 : Int) (H : Hp) (K : Int → Int → Hp → Prop) : Prop :=
 a0M x0 x1 H (fun (C4 : Int) (H_1 : Hp) =>
 (¬ (C4 = 0) →
 K 0 C4 H_1) ∧
 (C4 = 0 →
 (x1 : Int) ≠ 0 ∧
 K (Int.tmod x0 x1) 0 H_1))
theorem b5x (x0 : Int) (x1 : Int) {K : Int → Int → Hp → Prop} (I : Inv w0 ps0 H0 H [] w) (hR : ∀ (r0 : Int) (r1 : Int) (H' : Hp) (w' : World) (_ : Inv w0 ps0 H0 H' [] w') (_ : K r0 r1 H'), R (Value.tuple #[(vi r0), (vi r1)]) w') (h : a4V x0 x1 H K) : F30 (vi x0) (vi x1) w R E := by
 unfold a4V at h
 unfold F30
 refine d5 (cap := []) (fun args w => Tryd.call49 args w) ?_
 refine m5 (Fi := []) (Fr := []) I (h) (fun v_5 H_1 F_6 w_2 I_3 l_8 k_4 q_7 => ?_) (fun _ _ _ _ _ q => q.elim)
 obtain ⟨C4, rfl, rfl, h⟩ := q_7
 refine a7 (a0m _ _ _ _ _ _) ?_
 refine a5L (fun a8s => ?_) (fun a8s => ?_)
 ·replace h := h.1 a8s
  exact hR 0 C4 H_1 _ I_3 h
 ·replace h := h.2 a8s
  obtain ⟨b6D, h⟩ := h
  refine a7 (e4u _ _ _ _ _ _ b6D) ?_
  exact hR (Int.tmod x0 x1) 0 H_1 _ I_3 h
theorem b6F (x0 : Int) (x1 : Int) {H : Hp} {K : Int → Int → Hp → Prop} (h : a4V x0 x1 H K) : a8j x0 x1 H K := by
 intro w I
 refine e9s ?_
 refine b5x x0 x1 I (fun r0 r1 H' w' I' hk => ⟨H', _, I', r0, r1, rfl, rfl, hk⟩) h
def a0s (H : Hp) (K : Hp → Prop) : Prop :=
 K H
theorem b0m {K : Hp → Prop} (I : Inv w0 ps0 H0 H [] w) (hR : ∀ (H' : Hp) (w' : World) (_ : Inv w0 ps0 H0 H' [] w') (_ : K H'), R (Value.agg #[(fC 123), (fC 124), (fC 125), (fC 126), (fC 127), (fC 128), (fC 129)]) w') (h : a0s H K) : c8i w R E := by
 unfold a0s at h
 unfold c8i
 refine z7 I Tryd.zeroValue171 (cs := [Value.nilFunc, Value.nilFunc, Value.nilFunc, Value.nilFunc, Value.nilFunc, Value.nilFunc, Value.nilFunc]) rfl fun g_2 w_3 I_4 k_5 => ?_
 refine a7 a3f ?_
 refine m9 I_4 Tryd.sizeOf171 (vs := [(fC 123), (fC 124), (fC 125), (fC 126), (fC 127), (fC 128), (fC 129)]) (cs' := [(fC 123), (fC 124), (fC 125), (fC 126), (fC 127), (fC 128), (fC 129)]) rfl rfl (nb rfl) rfl rfl fun w_6 I_7 k_8 => ?_
 refine a2j Tryd.isAgg171 Tryd.sizeOf171 rfl (I_7.at1 (o := 0) (vs := [(fC 123), (fC 124), (fC 125), (fC 126), (fC 127), (fC 128), (fC 129)]) (nb rfl) rfl) ?_
 exact hR H _ I_7.drop h
theorem b0I {H : Hp} {K : Hp → Prop} (h : a0s H K) : a2m H K := by
 intro w I
 refine e0P ?_
 refine b0m I (fun H' w' I' hk => ⟨H', _, I', rfl, rfl, hk⟩) h
def X3 (x0 : Int) (x1 : Int) (H : Hp) (K : Bool → Hp → Prop) : Prop :=
 K (decide (x0 < x1)) H
theorem a8L (x0 : Int) (x1 : Int) {K : Bool → Hp → Prop} (I : Inv w0 ps0 H0 H [] w) (hR : ∀ (r0 : Bool) (H' : Hp) (w' : World) (_ : Inv w0 ps0 H0 H' [] w') (_ : K r0 H'), R (vB r0) w') (h : X3 x0 x1 H K) : c8j (vi x0) (vi x1) w R E := by
 unfold X3 at h
 unfold c8j
 refine a7 (B8 _ _ _ _ _ _) ?_
 exact hR (decide (x0 < x1)) H _ I h
theorem a9o (x0 : Int) (x1 : Int) {H : Hp} {K : Bool → Hp → Prop} (h : X3 x0 x1 H K) : a3Z x0 x1 H K := by
 intro w I
 refine e0R ?_
 refine a8L x0 x1 I (fun r0 H' w' I' hk => ⟨H', _, I', r0, rfl, rfl, hk⟩) h
def X4 (x0 : Int) (x1 : Int) (H : Hp) (K : Bool → Hp → Prop) : Prop :=
 K (decide (x0 ≤ x1)) H
theorem a8M (x0 : Int) (x1 : Int) {K : Bool → Hp → Prop} (I : Inv w0 ps0 H0 H [] w) (hR : ∀ (r0 : Bool) (H' : Hp) (w' : World) (_ : Inv w0 ps0 H0 H' [] w') (_ : K r0 H'), R (vB r0) w') (h : X4 x0 x1 H K) : c8k (vi x0) (vi x1) w R E := by
 unfold X4 at h
 unfold c8k
 refine a7 (b2O _ _ _ _ _ _) ?_
 exact hR (decide (x0 ≤ x1)) H _ I h
theorem a9p (x0 : Int) (x1 : Int) {H : Hp} {K : Bool → Hp → Prop} (h : X4 x0 x1 H K) : a4b x0 x1 H K := by
 intro w I
 refine e0T ?_
 refine a8M x0 x1 I (fun r0 H' w' I' hk => ⟨H', _, I', r0, rfl, rfl, hk⟩) h
def X5 (x0 : Int) (x1 : Int) (H : Hp) (K : Bool → Hp → Prop) : Prop :=
 K (decide (x0 = x1)) H
theorem a8N (x0 : Int) (x1 : Int) {K : Bool → Hp → Prop} (I : Inv w0 ps0 H0 H [] w) (hR : ∀ (r0 : Bool) (H' : Hp) (w' : World) (_ : Inv w0 ps0 H0 H' [] w') (_ : K r0 H'), R (vB r0) w') (h : X5 x0 x1 H K) : c8l (vi x0) (vi x1) w R E := by
 unfold X5 at h
 unfold c8l
 refine a7 (i8 _ _ _ _ _ _) ?_
 exact hR (decide (x0 = x1)) H _ I h
theorem a9q (x0 : Int) (x1 : Int) {H : Hp} {K : Bool → Hp → Prop} (h : X5 x0 x1 H K) : a4d x0 x1 H K := by
 intro w I
 refine e0V ?_
 refine a8N x0 x1 I (fun r0 H' w' I' hk => ⟨H', _, I', r0, rfl, rfl, hk⟩) h
def X6 (x0 : Int) (x1 : Int) (H : Hp) (K : Bool → Hp → Prop) : Prop :=
 K (!decide (x0 = x1)) H
theorem a8O (x0 : Int) (x1 : Int) {K : Bool → Hp → Prop} (I : Inv w0 ps0 H0 H [] w) (hR : ∀ (r0 : Bool) (H' : Hp) (w' : World) (_ : Inv w0 ps0 H0 H' [] w') (_ : K r0 H'), R (vB r0) w') (h : X6 x0 x1 H K) : c8m (vi x0) (vi x1) w R E := by
 unfold X6 at h
 unfold c8m
 refine a7 (a0m _ _ _ _ _ _) ?_
 exact hR (!decide (x0 = x1)) H _ I h
theorem a9r (x0 : Int) (x1 : Int) {H : Hp} {K : Bool → Hp → Prop} (h : X6 x0 x1 H K) : a4e x0 x1 H K := by
 intro w I
 refine e0X ?_
 refine a8O x0 x1 I (fun r0 H' w' I' hk => ⟨H', _, I', r0, rfl, rfl, hk⟩) h
def X7 (x0 : Int) (x1 : Int) (H : Hp) (K : Bool → Hp → Prop) : Prop :=
 K (decide (x1 < x0)) H
theorem a8P (x0 : Int) (x1 : Int) {K : Bool → Hp → Prop} (I : Inv w0 ps0 H0 H [] w) (hR : ∀ (r0 : Bool) (H' : Hp) (w' : World) (_ : Inv w0 ps0 H0 H' [] w') (_ : K r0 H'), R (vB r0) w') (h : X7 x0 x1 H K) : c8n (vi x0) (vi x1) w R E := by
 unfold X7 at h
 unfold c8n
 refine a7 (a0B _ _ _ _ _ _) ?_
 exact hR (decide (x1 < x0)) H _ I h
theorem a9s (x0 : Int) (x1 : Int) {H : Hp} {K : Bool → Hp → Prop} (h : X7 x0 x1 H K) : a4f x0 x1 H K := by
 intro w I
 refine e0Z ?_
 refine a8P x0 x1 I (fun r0 H' w' I' hk => ⟨H', _, I', r0, rfl, rfl, hk⟩) h
def X8 (x0 : Int) (x1 : Int) (H : Hp) (K : Bool → Hp → Prop) : Prop :=
 K (decide (x1 ≤ x0)) H
theorem a8Q (x0 : Int) (x1 : Int) {K : Bool → Hp → Prop} (I : Inv w0 ps0 H0 H [] w) (hR : ∀ (r0 : Bool) (H' : Hp) (w' : World) (_ : Inv w0 ps0 H0 H' [] w') (_ : K r0 H'), R (vB r0) w') (h : X8 x0 x1 H K) : c8o (vi x0) (vi x1) w R E := by
 unfold X8 at h
 unfold c8o
 refine a7 (a7O _ _ _ _ _ _) ?_
 exact hR (decide (x1 ≤ x0)) H _ I h
theorem a9t (x0 : Int) (x1 : Int) {H : Hp} {K : Bool → Hp → Prop} (h : X8 x0 x1 H K) : a4g x0 x1 H K := by
 intro w I
 refine e1b ?_
 refine a8Q x0 x1 I (fun r0 H' w' I' hk => ⟨H', _, I', r0, rfl, rfl, hk⟩) h
def a2V (x0 : Int) (x1 : Int) (x2 : Int) (H : Hp) (K : Bool → Hp → Prop) : Prop :=
 (((decide (x0 < 1)) || (decide (6 < x0))) = true →
 K false H) ∧
 (((decide (x0 < 1)) || (decide (6 < x0))) = false →
 a2m H (fun (H_1 : Hp) =>
 (0 : Int) ≤ x0 ∧ (x0 : Int) < 7 ∧
 ∃ b0n : Bool → Hp → Prop, (∀ (a0k : Bool) (a1A : Hp), b0n a0k a1A →
 K a0k a1A) ∧ ((x0 : Int) = 0 → b3r x1 x2 H_1 b0n) ∧ ((x0 : Int) = 1 → a3Z x1 x2 H_1 b0n) ∧ ((x0 : Int) = 2 → a4b x1 x2 H_1 b0n) ∧ ((x0 : Int) = 3 → a4d x1 x2 H_1 b0n) ∧ ((x0 : Int) = 4 → a4e x1 x2 H_1 b0n) ∧ ((x0 : Int) = 5 → a4f x1 x2 H_1 b0n) ∧ ((x0 : Int) = 6 → a4g x1 x2 H_1 b0n)))
theorem b5y (x0 : Int) (x1 : Int) (x2 : Int) {K : Bool → Hp → Prop} (I : Inv w0 ps0 H0 H [] w) (hR : ∀ (r0 : Bool) (H' : Hp) (w' : World) (_ : Inv w0 ps0 H0 H' [] w') (_ : K r0 H'), R (vB r0) w') (h : a2V x0 x1 x2 H K) : F75 (vi x0) (vi x1) (vi x2) w R E := by
 unfold a2V at h
 unfold F75
 refine a7 (B8 _ _ _ _ _ _) ?_
 simp only [L3]
 refine a7 (Pu.g fun hb => by have g7 := hb; simp only [o7 g7]; exact (a0B _ _ _ _ _ _)) ?_
 refine a7 (W6 _ _) ?_
 refine p7 (fun b5U => ?_) (fun b5U => ?_)
 ·replace h := h.1 b5U
  exact hR false H _ I h
 ·replace h := h.2 b5U
  refine d5 (cap := []) (fun args w => Tryd.call110 args w) ?_
  refine m5 (Fi := []) (Fr := []) I (h) (fun v_5 H_1 F_6 w_2 I_3 l_8 k_4 q_7 => ?_) (fun _ _ _ _ _ q => q.elim)
  obtain ⟨rfl, rfl, h⟩ := q_7
  obtain ⟨b6D, g3s, h⟩ := h
  refine a7 (Q4 _ _ b6D g3s) ?_
  obtain ⟨b0n, d4o, d4p, c3o, b6x, g3t, d4Q, g3u, a4M⟩ := h
  refine d8Q (D := fun b2l Y6 => ∃ (a0k : Bool) (a1A : Hp), b2l = (vB a0k) ∧ (Inv w0 ps0 H0 a1A [] Y6) ∧ (∀ i, i < w_2.heap.size → ¬ inF [] i → Y6.heap[i]? = w_2.heap[i]?) ∧ Hle H_1 a1A ∧ (b0n a0k a1A)) ?_ ?_
  ·obtain e | e | e | e | e | e | e := (by omega : (x0 : Int) = 0 ∨ (x0 : Int) = 1 ∨ (x0 : Int) = 2 ∨ (x0 : Int) = 3 ∨ (x0 : Int) = 4 ∨ (x0 : Int) = 5 ∨ (x0 : Int) = 6)
   ·replace h := d4p e
    refine a9w (s' := xCall (fC 123) [(vi x1), (vi x2)]) (by rw [e]; rfl) ?_
    refine d5 (cap := []) (fun args w => Tryd.call123 args w) ?_
    refine m5 (Fi := []) (Fr := []) I_3 (h) (fun b2l a1A b9K Y6 M6 a3i a1z a6f => ?_) (fun _ _ _ _ _ q => q.elim)
    obtain ⟨a0k, rfl, rfl, h⟩ := a6f
    exact ⟨a0k, a1A, rfl, M6, a1z, a3i, h⟩
   ·replace h := c3o e
    refine a9w (s' := xCall (fC 124) [(vi x1), (vi x2)]) (by rw [e]; rfl) ?_
    refine d5 (cap := []) (fun args w => Tryd.call124 args w) ?_
    refine m5 (Fi := []) (Fr := []) I_3 (h) (fun b2l a1A b9K Y6 M6 a3i a1z a6f => ?_) (fun _ _ _ _ _ q => q.elim)
    obtain ⟨a0k, rfl, rfl, h⟩ := a6f
    exact ⟨a0k, a1A, rfl, M6, a1z, a3i, h⟩
   ·replace h := b6x e
    refine a9w (s' := xCall (fC 125) [(vi x1), (vi x2)]) (by rw [e]; rfl) ?_
    refine d5 (cap := []) (fun args w => Tryd.call125 args w) ?_
    refine m5 (Fi := []) (Fr := []) I_3 (h) (fun b2l a1A b9K Y6 M6 a3i a1z a6f => ?_) (fun _ _ _ _ _ q => q.elim)
    obtain ⟨a0k, rfl, rfl, h⟩ := a6f
    exact ⟨a0k, a1A, rfl, M6, a1z, a3i, h⟩
   ·replace h := g3t e
    refine a9w (s' := xCall (fC 126) [(vi x1), (vi x2)]) (by rw [e]; rfl) ?_
    refine d5 (cap := []) (fun args w => Tryd.call126 args w) ?_
    refine m5 (Fi := []) (Fr := []) I_3 (h) (fun b2l a1A b9K Y6 M6 a3i a1z a6f => ?_) (fun _ _ _ _ _ q => q.elim)
    obtain ⟨a0k, rfl, rfl, h⟩ := a6f
    exact ⟨a0k, a1A, rfl, M6, a1z, a3i, h⟩
   ·replace h := d4Q e
    refine a9w (s' := xCall (fC 127) [(vi x1), (vi x2)]) (by rw [e]; rfl) ?_
    refine d5 (cap := []) (fun args w => Tryd.call127 args w) ?_
    refine m5 (Fi := []) (Fr := []) I_3 (h) (fun b2l a1A b9K Y6 M6 a3i a1z a6f => ?_) (fun _ _ _ _ _ q => q.elim)
    obtain ⟨a0k, rfl, rfl, h⟩ := a6f
    exact ⟨a0k, a1A, rfl, M6, a1z, a3i, h⟩
   ·replace h := g3u e
    refine a9w (s' := xCall (fC 128) [(vi x1), (vi x2)]) (by rw [e]; rfl) ?_
    refine d5 (cap := []) (fun args w => Tryd.call128 args w) ?_
    refine m5 (Fi := []) (Fr := []) I_3 (h) (fun b2l a1A b9K Y6 M6 a3i a1z a6f => ?_) (fun _ _ _ _ _ q => q.elim)
    obtain ⟨a0k, rfl, rfl, h⟩ := a6f
    exact ⟨a0k, a1A, rfl, M6, a1z, a3i, h⟩
   ·replace h := a4M e
    refine a9w (s' := xCall (fC 129) [(vi x1), (vi x2)]) (by rw [e]; rfl) ?_
    refine d5 (cap := []) (fun args w => Tryd.call129 args w) ?_
    refine m5 (Fi := []) (Fr := []) I_3 (h) (fun b2l a1A b9K Y6 M6 a3i a1z a6f => ?_) (fun _ _ _ _ _ q => q.elim)
    obtain ⟨a0k, rfl, rfl, h⟩ := a6f
    exact ⟨a0k, a1A, rfl, M6, a1z, a3i, h⟩
  ·rintro b2l Y6 ⟨a0k, a1A, rfl, M6, a1z, a3i, h⟩
   replace h := d4o _ _ h
   exact hR a0k a1A _ M6 h
theorem b6G (x0 : Int) (x1 : Int) (x2 : Int) {H : Hp} {K : Bool → Hp → Prop} (h : a2V x0 x1 x2 H K) : a8k x0 x1 x2 H K := by
 intro w I
 refine e9K ?_
 refine b5y x0 x1 x2 I (fun r0 H' w' I' hk => ⟨H', _, I', r0, rfl, rfl, hk⟩) h
end Go.Proofs.YtnhkdkcgdcgmdaaDoor
