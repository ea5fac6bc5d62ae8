/- Typed formulas of the program's functions that few laws need; printed by lift.py off the code. -/
import Derived.Test.YtnhkdkcgdcgmdaaDoorzSV1
import Derived.Test.YtnhkdkcgdcgmdaaDoorzSG1r
namespace Go.Proofs.YtnhkdkcgdcgmdaaDoor
open Go.RowKit
set_option maxRecDepth 100000
set_option maxHeartbeats 2000000
variable {w0 w : World} {ps0 : Nat → Prop} {H0 H : Hp} {R : RT} {E : Pan}
def a2N (x0 : Int) (x1 : Int) (H : Hp) (K : Int → Int → Hp → Prop) : Prop :=
 ((((decide (x0 < 0)) != (decide (x1 < 0))) && ((decide ((IntKind.wrap .i64 (x0 - x1)) < 0)) != (decide (x0 < 0)))) = true →
 K 0 1 H) ∧
 ((((decide (x0 < 0)) != (decide (x1 < 0))) && ((decide ((IntKind.wrap .i64 (x0 - x1)) < 0)) != (decide (x0 < 0)))) = false →
 K (IntKind.wrap .i64 (x0 - x1)) 0 H)
theorem b5p (x0 : Int) (x1 : Int) {K : Int → Int → Hp → Prop} (I : Inv w0 ps0 H0 H [] w) (hR : ∀ (r0 : Int) (r1 : Int) (H' : Hp) (w' : World) (_ : Inv w0 ps0 H0 H' [] w') (_ : K r0 r1 H'), R (Value.tuple #[(vi r0), (vi r1)]) w') (h : a2N x0 x1 H K) : F27 (vi x0) (vi x1) w R E := by
 unfold a2N at h
 unfold F27
 refine a7 (b2L _ _ _ _ _ _) ?_
 refine a7 (B7 _ _ _ _ _ _) ?_
 refine a7 (B7 _ _ _ _ _ _) ?_
 refine a7 (b0Z _ _ _ _) ?_
 simp only [G8]
 refine a7 (Pu.g fun hb => by have d8 := hb; simp only [m8 d8]; exact (B7 _ _ _ _ _ _)) ?_
 refine a7 (Pu.g fun hb => by have d8 := hb; simp only [m8 d8]; exact (B7 _ _ _ _ _ _)) ?_
 refine a7 (Pu.g fun hb => by have d8 := hb; simp only [m8 d8]; exact (b0Z _ _ _ _)) ?_
 refine a7 (J9 _ _) ?_
 refine o8 (fun c_1 => ?_) (fun c_1 => ?_)
 ·replace h := h.1 c_1
  exact hR 0 1 H _ I h
 ·replace h := h.2 c_1
  exact hR (IntKind.wrap .i64 (x0 - x1)) 0 H _ I h
theorem b6s (x0 : Int) (x1 : Int) {H : Hp} {K : Int → Int → Hp → Prop} (h : a2N x0 x1 H K) : a4H x0 x1 H K := by
 intro w I
 refine f0l ?_
 refine b5p x0 x1 I (fun r0 r1 H' w' I' hk => ⟨H', _, I', r0, r1, rfl, rfl, hk⟩) h
def a2O (x0 : Int) (H : Hp) (K : Int → Int → Hp → Prop) : Prop :=
 a4H 0 x0 H (fun (C4 : Int) (c8u : Int) (H_1 : Hp) =>
 K C4 c8u H_1)
theorem b5q (x0 : Int) {K : Int → Int → Hp → Prop} (I : Inv w0 ps0 H0 H [] w) (hR : ∀ (r0 : Int) (r1 : Int) (H' : Hp) (w' : World) (_ : Inv w0 ps0 H0 H' [] w') (_ : K r0 r1 H'), R (Value.tuple #[(vi r0), (vi r1)]) w') (h : a2O x0 H K) : c8m (vi x0) w R E := by
 unfold a2O at h
 unfold c8m
 refine d6 (cap := []) (fun args w => Tryd.call27 args w) ?_
 refine m6 (Fi := []) (Fr := []) I (h) (fun v_5 H_1 F_6 w_2 I_3 l_8 k_4 q_7 => ?_) (fun _ _ _ _ _ q => q.elim)
 obtain ⟨C4, c8u, rfl, rfl, h⟩ := q_7
 refine a7 (m4 _ _ (vi C4) rfl) ?_
 refine a7 (m4 _ _ (vi c8u) rfl) ?_
 exact hR C4 c8u H_1 _ I_3 h
theorem b6t (x0 : Int) {H : Hp} {K : Int → Int → Hp → Prop} (h : a2O x0 H K) : a8a x0 H K := by
 intro w I
 refine e1J ?_
 refine b5q x0 I (fun r0 r1 H' w' I' hk => ⟨H', _, I', r0, r1, rfl, rfl, hk⟩) h
def a2P (x0 : Int) (x1 : Int) (H : Hp) (K : Int → Int → Hp → Prop) : Prop :=
 ((((decide (x0 < 0)) == (decide (x1 < 0))) && ((decide ((IntKind.wrap .i64 (x0 + x1)) < 0)) != (decide (x0 < 0)))) = true →
 K 0 1 H) ∧
 ((((decide (x0 < 0)) == (decide (x1 < 0))) && ((decide ((IntKind.wrap .i64 (x0 + x1)) < 0)) != (decide (x0 < 0)))) = false →
 K (IntKind.wrap .i64 (x0 + x1)) 0 H)
theorem b5r (x0 : Int) (x1 : Int) {K : Int → Int → Hp → Prop} (I : Inv w0 ps0 H0 H [] w) (hR : ∀ (r0 : Int) (r1 : Int) (H' : Hp) (w' : World) (_ : Inv w0 ps0 H0 H' [] w') (_ : K r0 r1 H'), R (Value.tuple #[(vi r0), (vi r1)]) w') (h : a2P x0 x1 H K) : F26 (vi x0) (vi x1) w R E := by
 unfold a2P at h
 unfold F26
 refine a7 (G6 _ _ _ _ _ _) ?_
 refine a7 (B7 _ _ _ _ _ _) ?_
 refine a7 (B7 _ _ _ _ _ _) ?_
 refine a7 (d3l _ _ _ _) ?_
 simp only [G8]
 refine a7 (Pu.g fun hb => by have d8 := hb; simp only [m8 d8]; exact (B7 _ _ _ _ _ _)) ?_
 refine a7 (Pu.g fun hb => by have d8 := hb; simp only [m8 d8]; exact (B7 _ _ _ _ _ _)) ?_
 refine a7 (Pu.g fun hb => by have d8 := hb; simp only [m8 d8]; exact (b0Z _ _ _ _)) ?_
 refine a7 (J9 _ _) ?_
 refine o8 (fun c_1 => ?_) (fun c_1 => ?_)
 ·replace h := h.1 c_1
  exact hR 0 1 H _ I h
 ·replace h := h.2 c_1
  exact hR (IntKind.wrap .i64 (x0 + x1)) 0 H _ I h
theorem b6u (x0 : Int) (x1 : Int) {H : Hp} {K : Int → Int → Hp → Prop} (h : a2P x0 x1 H K) : a8b x0 x1 H K := by
 intro w I
 refine f0j ?_
 refine b5r x0 x1 I (fun r0 r1 H' w' I' hk => ⟨H', _, I', r0, r1, rfl, rfl, hk⟩) h
def a1Z (x0 : Int) (H : Hp) (K : Int → Hp → Prop) : Prop :=
 (x0 < 0 →
 K (IntKind.wrap .u64 (0 - (IntKind.wrap .u64 x0))) H) ∧
 (¬ (x0 < 0) →
 K (IntKind.wrap .u64 x0) H)
theorem b3G (x0 : Int) {K : Int → Hp → Prop} (I : Inv w0 ps0 H0 H [] w) (hR : ∀ (r0 : Int) (H' : Hp) (w' : World) (_ : Inv w0 ps0 H0 H' [] w') (_ : K r0 H'), R (Value.int .u64 r0) w') (h : a1Z x0 H K) : F48 (vi x0) w R E := by
 unfold a1Z at h
 unfold F48
 refine a7 (B7 _ _ _ _ _ _) ?_
 refine i2 (fun c_1 => ?_) (fun c_1 => ?_)
 ·replace h := h.1 c_1
  refine a7 (b7j _ _) ?_
  refine a7 (c1B _ _) ?_
  exact hR (IntKind.wrap .u64 (0 - (IntKind.wrap .u64 x0))) H _ I h
 ·replace h := h.2 c_1
  refine a7 (b7j _ _) ?_
  exact hR (IntKind.wrap .u64 x0) H _ I h
theorem b5s (x0 : Int) {H : Hp} {K : Int → Hp → Prop} (h : a1Z x0 H K) : a1S x0 H K := by
 intro w I
 refine f0I ?_
 refine b3G x0 I (fun r0 H' w' I' hk => ⟨H', _, I', r0, rfl, rfl, hk⟩) h
def a2b (x0 : Int) (x1 : Int) (H : Hp) (K : Int → Int → Hp → Prop) : Prop :=
 K (IntKind.wrap .u64 ((IntKind.wrap .u64 ((IntKind.wrap .u64 ((Int.fdiv x0 (2 ^ 32)) * (Int.fdiv x1 (2 ^ 32)))) + (Int.fdiv (IntKind.wrap .u64 ((IntKind.wrap .u64 ((Int.fdiv x0 (2 ^ 32)) * (bandI .u64 x1 4294967295))) + (Int.fdiv (IntKind.wrap .u64 ((bandI .u64 x0 4294967295) * (bandI .u64 x1 4294967295))) (2 ^ 32)))) (2 ^ 32)))) + (Int.fdiv (IntKind.wrap .u64 ((bandI .u64 (IntKind.wrap .u64 ((IntKind.wrap .u64 ((Int.fdiv x0 (2 ^ 32)) * (bandI .u64 x1 4294967295))) + (Int.fdiv (IntKind.wrap .u64 ((bandI .u64 x0 4294967295) * (bandI .u64 x1 4294967295))) (2 ^ 32)))) 4294967295) + (IntKind.wrap .u64 ((bandI .u64 x0 4294967295) * (Int.fdiv x1 (2 ^ 32)))))) (2 ^ 32)))) (IntKind.wrap .u64 (x0 * x1)) H
theorem b3H (x0 : Int) (x1 : Int) {K : Int → Int → Hp → Prop} (I : Inv w0 ps0 H0 H [] w) (hR : ∀ (r0 : Int) (r1 : Int) (H' : Hp) (w' : World) (_ : Inv w0 ps0 H0 H' [] w') (_ : K r0 r1 H'), R (Value.tuple #[(Value.int .u64 r0), (Value.int .u64 r1)]) w') (h : a2b x0 x1 H K) : F47 (Value.int .u64 x0) (Value.int .u64 x1) w R E := by
 unfold a2b at h
 unfold F47
 refine a7 (b8S _ _ _ _ _ _) ?_
 refine a7 (b2M _ _ _ _ _ _ _ (by decide) (by decide)) ?_
 refine a7 (b8S _ _ _ _ _ _) ?_
 refine a7 (b2M _ _ _ _ _ _ _ (by decide) (by decide)) ?_
 refine a7 (b0j _ _ _ _ _ _) ?_
 refine a7 (b0j _ _ _ _ _ _) ?_
 refine a7 (b2M _ _ _ _ _ _ _ (by decide) (by decide)) ?_
 refine a7 (G6 _ _ _ _ _ _) ?_
 refine a7 (b8S _ _ _ _ _ _) ?_
 refine a7 (b2M _ _ _ _ _ _ _ (by decide) (by decide)) ?_
 refine a7 (b0j _ _ _ _ _ _) ?_
 refine a7 (G6 _ _ _ _ _ _) ?_
 refine a7 (b0j _ _ _ _ _ _) ?_
 refine a7 (G6 _ _ _ _ _ _) ?_
 refine a7 (b2M _ _ _ _ _ _ _ (by decide) (by decide)) ?_
 refine a7 (G6 _ _ _ _ _ _) ?_
 refine a7 (b0j _ _ _ _ _ _) ?_
 exact hR (IntKind.wrap .u64 ((IntKind.wrap .u64 ((IntKind.wrap .u64 ((Int.fdiv x0 (2 ^ 32)) * (Int.fdiv x1 (2 ^ 32)))) + (Int.fdiv (IntKind.wrap .u64 ((IntKind.wrap .u64 ((Int.fdiv x0 (2 ^ 32)) * (bandI .u64 x1 4294967295))) + (Int.fdiv (IntKind.wrap .u64 ((bandI .u64 x0 4294967295) * (bandI .u64 x1 4294967295))) (2 ^ 32)))) (2 ^ 32)))) + (Int.fdiv (IntKind.wrap .u64 ((bandI .u64 (IntKind.wrap .u64 ((IntKind.wrap .u64 ((Int.fdiv x0 (2 ^ 32)) * (bandI .u64 x1 4294967295))) + (Int.fdiv (IntKind.wrap .u64 ((bandI .u64 x0 4294967295) * (bandI .u64 x1 4294967295))) (2 ^ 32)))) 4294967295) + (IntKind.wrap .u64 ((bandI .u64 x0 4294967295) * (Int.fdiv x1 (2 ^ 32)))))) (2 ^ 32)))) (IntKind.wrap .u64 (x0 * x1)) H _ I h
theorem b5t (x0 : Int) (x1 : Int) {H : Hp} {K : Int → Int → Hp → Prop} (h : a2b x0 x1 H K) : a4j x0 x1 H K := by
 intro w I
 refine f0G ?_
 refine b3H x0 x1 I (fun r0 r1 H' w' I' hk => ⟨H', _, I', r0, r1, rfl, rfl, hk⟩) h
def S7 (c7Z : Int) (g4p : Int) (f1e : Int) (b2b : Int) (b9N : Int) (H : Hp) (K : Int → Int → Hp → Prop) : Prop :=
 (((!decide (f1e = 0)) || (decide (b9N < b2b))) = true →
 K 0 1 H) ∧
 (((!decide (f1e = 0)) || (decide (b9N < b2b))) = false →
 K (IntKind.wrap .i64 (c7Z * g4p)) 0 H)
def a2Q (x0 : Int) (x1 : Int) (H : Hp) (K : Int → Int → Hp → Prop) : Prop :=
 a1S x0 H (fun (C4 : Int) (H_1 : Hp) =>
 a1S x1 H_1 (fun (C6 : Int) (a3m : Hp) =>
 a4j C4 C6 a3m (fun (W9 : Int) (b4P : Int) (a0O : Hp) =>
 (((decide (x0 < 0)) != (decide (x1 < 0))) = true →
 S7 x0 x1 W9 b4P (IntKind.wrap .u64 (9223372036854775807 + 1)) a0O K) ∧
 (((decide (x0 < 0)) != (decide (x1 < 0))) = false →
 S7 x0 x1 W9 b4P 9223372036854775807 a0O K))))
theorem b5u (x0 : Int) (x1 : Int) {K : Int → Int → Hp → Prop} (I : Inv w0 ps0 H0 H [] w) (hR : ∀ (r0 : Int) (r1 : Int) (H' : Hp) (w' : World) (_ : Inv w0 ps0 H0 H' [] w') (_ : K r0 r1 H'), R (Value.tuple #[(vi r0), (vi r1)]) w') (h : a2Q x0 x1 H K) : F28 (vi x0) (vi x1) w R E := by
 unfold a2Q at h
 unfold F28
 refine d6 (cap := []) (fun args w => Tryd.call48 args w) ?_
 refine m6 (Fi := []) (Fr := []) I (h) (fun v_5 H_1 F_6 w_2 I_3 l_8 k_4 q_7 => ?_) (fun _ _ _ _ _ q => q.elim)
 obtain ⟨C4, rfl, rfl, h⟩ := q_7
 refine d6 (cap := []) (fun args w => Tryd.call48 args w) ?_
 refine m6 (Fi := []) (Fr := []) I_3 (h) (fun c7w a3m g2Z a0I P1 b9z b5S d3v => ?_) (fun _ _ _ _ _ q => q.elim)
 obtain ⟨C6, rfl, rfl, h⟩ := d3v
 refine d6 (cap := []) (fun args w => Tryd.call47 args w) ?_
 refine m6 (Fi := []) (Fr := []) P1 (h) (fun c7x a0O g3a q7 b1s d3w c7y d3x => ?_) (fun _ _ _ _ _ q => q.elim)
 obtain ⟨W9, b4P, rfl, rfl, h⟩ := d3x
 refine a7 (m4 _ _ (Value.int .u64 W9) rfl) ?_
 refine a7 (m4 _ _ (Value.int .u64 b4P) rfl) ?_
 have hj1 : ∀ (b9N : Int) (H : Hp) (w : World) (_ : Inv w0 ps0 H0 H [] w) (_ : S7 x0 x1 W9 b4P b9N H K), c3B (vi x0) (vi x1) (Value.int .u64 W9) (Value.int .u64 b4P) (Value.int .u64 b9N) w R E := by
  intro b9N H w I h
  unfold c3B
  intro _
  unfold S7 at h
  refine a7 (Y0 _ _ _ _ _ _) ?_
  simp only [G8]
  refine a7 (Pu.g fun hb => by have d8 := hb; simp only [m8 d8]; exact (a1f _ _ _ _ _ _)) ?_
  refine a7 (T4 _ _) ?_
  refine o8 (fun d5m => ?_) (fun d5m => ?_)
  ·replace h := h.1 d5m
   exact hR 0 1 H _ I h
  ·replace h := h.2 d5m
   refine a7 (b0j _ _ _ _ _ _) ?_
   exact hR (IntKind.wrap .i64 (x0 * x1)) 0 H _ I h
 refine A6 fun j1 hx1 => ?_
 refine a7 (B7 _ _ _ _ _ _) ?_
 refine a7 (B7 _ _ _ _ _ _) ?_
 refine a7 (b0Z _ _ _ _) ?_
 refine o8 (fun b5U => ?_) (fun b5U => ?_)
 ·replace h := h.1 b5U
  refine a7 (G6 _ _ _ _ _ _) ?_
  exact hx1 _ _ (hj1 (IntKind.wrap .u64 (9223372036854775807 + 1)) a0O _ b1s h)
 ·replace h := h.2 b5U
  exact hx1 _ _ (hj1 9223372036854775807 a0O _ b1s h)
theorem b6v (x0 : Int) (x1 : Int) {H : Hp} {K : Int → Int → Hp → Prop} (h : a2Q x0 x1 H K) : a8c x0 x1 H K := by
 intro w I
 refine f0q ?_
 refine b5u x0 x1 I (fun r0 r1 H' w' I' hk => ⟨H', _, I', r0, r1, rfl, rfl, hk⟩) h
def a0V (x0 : Int) (x1 : Int) (H : Hp) (K : Int → Hp → Prop) : Prop :=
 (x1 = 0 →
 K 2 H) ∧
 (¬ (x1 = 0) →
 (((decide (x0 = (-9223372036854775808))) && (decide (x1 = (-1)))) = true →
 K 1 H) ∧
 (((decide (x0 = (-9223372036854775808))) && (decide (x1 = (-1)))) = false →
 K 0 H))
theorem b0x (x0 : Int) (x1 : Int) {K : Int → Hp → Prop} (I : Inv w0 ps0 H0 H [] w) (hR : ∀ (r0 : Int) (H' : Hp) (w' : World) (_ : Inv w0 ps0 H0 H' [] w') (_ : K r0 H'), R (vi r0) w') (h : a0V x0 x1 H K) : F49 (vi x0) (vi x1) w R E := by
 unfold a0V at h
 unfold F49
 refine a7 (i6 _ _ _ _ _ _) ?_
 refine i2 (fun c_2 => ?_) (fun c_2 => ?_)
 ·replace h := h.1 c_2
  exact hR 2 H _ I h
 ·replace h := h.2 c_2
  refine a7 (i6 _ _ _ _ _ _) ?_
  simp only [G8]
  refine a7 (Pu.g fun hb => by have d8 := hb; simp only [m8 d8]; exact (i6 _ _ _ _ _ _)) ?_
  refine a7 (J9 _ _) ?_
  refine o8 (fun c_1 => ?_) (fun c_1 => ?_)
  ·replace h := h.1 c_1
   exact hR 1 H _ I h
  ·replace h := h.2 c_1
   exact hR 0 H _ I h
theorem b2c (x0 : Int) (x1 : Int) {H : Hp} {K : Int → Hp → Prop} (h : a0V x0 x1 H K) : a0M x0 x1 H K := by
 intro w I
 refine f0K ?_
 refine b0x x0 x1 I (fun r0 H' w' I' hk => ⟨H', _, I', r0, rfl, rfl, hk⟩) h
def a4U (x0 : Int) (x1 : Int) (H : Hp) (K : Int → Int → Hp → Prop) : Prop :=
 a0M x0 x1 H (fun (C4 : Int) (H_1 : Hp) =>
 (¬ (C4 = 0) →
 K 0 C4 H_1) ∧
 (C4 = 0 →
 (x1 : Int) ≠ 0 ∧
 K (IntKind.wrap .i64 (Int.tdiv x0 x1)) 0 H_1))
theorem b5v (x0 : Int) (x1 : Int) {K : Int → Int → Hp → Prop} (I : Inv w0 ps0 H0 H [] w) (hR : ∀ (r0 : Int) (r1 : Int) (H' : Hp) (w' : World) (_ : Inv w0 ps0 H0 H' [] w') (_ : K r0 r1 H'), R (Value.tuple #[(vi r0), (vi r1)]) w') (h : a4U x0 x1 H K) : F29 (vi x0) (vi x1) w R E := by
 unfold a4U at h
 unfold F29
 refine d6 (cap := []) (fun args w => Tryd.call49 args w) ?_
 refine m6 (Fi := []) (Fr := []) I (h) (fun v_5 H_1 F_6 w_2 I_3 l_8 k_4 q_7 => ?_) (fun _ _ _ _ _ q => q.elim)
 obtain ⟨C4, rfl, rfl, h⟩ := q_7
 refine a7 (Y0 _ _ _ _ _ _) ?_
 refine a5a (fun a8o => ?_) (fun a8o => ?_)
 ·replace h := h.1 a8o
  exact hR 0 C4 H_1 _ I_3 h
 ·replace h := h.2 a8o
  obtain ⟨b6w, h⟩ := h
  refine a7 (e5z _ _ _ _ _ _ b6w) ?_
  exact hR (IntKind.wrap .i64 (Int.tdiv x0 x1)) 0 H_1 _ I_3 h
theorem b6x (x0 : Int) (x1 : Int) {H : Hp} {K : Int → Int → Hp → Prop} (h : a4U x0 x1 H K) : a8d x0 x1 H K := by
 intro w I
 refine f0s ?_
 refine b5v x0 x1 I (fun r0 r1 H' w' I' hk => ⟨H', _, I', r0, r1, rfl, rfl, hk⟩) h
def a4V (x0 : Int) (x1 : Int) (H : Hp) (K : Int → Int → Hp → Prop) : Prop :=
 a0M x0 x1 H (fun (C4 : Int) (H_1 : Hp) =>
 (¬ (C4 = 0) →
 K 0 C4 H_1) ∧
 (C4 = 0 →
 (x1 : Int) ≠ 0 ∧
 K (Int.tmod x0 x1) 0 H_1))
theorem b5w (x0 : Int) (x1 : Int) {K : Int → Int → Hp → Prop} (I : Inv w0 ps0 H0 H [] w) (hR : ∀ (r0 : Int) (r1 : Int) (H' : Hp) (w' : World) (_ : Inv w0 ps0 H0 H' [] w') (_ : K r0 r1 H'), R (Value.tuple #[(vi r0), (vi r1)]) w') (h : a4V x0 x1 H K) : F30 (vi x0) (vi x1) w R E := by
 unfold a4V at h
 unfold F30
 refine d6 (cap := []) (fun args w => Tryd.call49 args w) ?_
 refine m6 (Fi := []) (Fr := []) I (h) (fun v_5 H_1 F_6 w_2 I_3 l_8 k_4 q_7 => ?_) (fun _ _ _ _ _ q => q.elim)
 obtain ⟨C4, rfl, rfl, h⟩ := q_7
 refine a7 (Y0 _ _ _ _ _ _) ?_
 refine a5a (fun a8o => ?_) (fun a8o => ?_)
 ·replace h := h.1 a8o
  exact hR 0 C4 H_1 _ I_3 h
 ·replace h := h.2 a8o
  obtain ⟨b6w, h⟩ := h
  refine a7 (e5A _ _ _ _ _ _ b6w) ?_
  exact hR (Int.tmod x0 x1) 0 H_1 _ I_3 h
theorem b6y (x0 : Int) (x1 : Int) {H : Hp} {K : Int → Int → Hp → Prop} (h : a4V x0 x1 H K) : a8e x0 x1 H K := by
 intro w I
 refine f0u ?_
 refine b5w x0 x1 I (fun r0 r1 H' w' I' hk => ⟨H', _, I', r0, r1, rfl, rfl, hk⟩) h
def a0t (H : Hp) (K : Hp → Prop) : Prop :=
 K H
theorem b0e {K : Hp → Prop} (I : Inv w0 ps0 H0 H [] w) (hR : ∀ (H' : Hp) (w' : World) (_ : Inv w0 ps0 H0 H' [] w') (_ : K H'), R (Value.agg #[(fC 123), (fC 124), (fC 125), (fC 126), (fC 127), (fC 128), (fC 129)]) w') (h : a0t H K) : c8n w R E := by
 unfold a0t at h
 unfold c8n
 refine A8 I Tryd.zeroValue171 (cs := [Value.nilFunc, Value.nilFunc, Value.nilFunc, Value.nilFunc, Value.nilFunc, Value.nilFunc, Value.nilFunc]) rfl fun g_2 w_3 I_4 k_5 => ?_
 refine a7 a3f ?_
 refine o0 I_4 Tryd.sizeOf171 (vs := [(fC 123), (fC 124), (fC 125), (fC 126), (fC 127), (fC 128), (fC 129)]) (cs' := [(fC 123), (fC 124), (fC 125), (fC 126), (fC 127), (fC 128), (fC 129)]) rfl rfl (nb rfl) rfl rfl fun w_6 I_7 k_8 => ?_
 refine a4Z Tryd.isAgg171 Tryd.sizeOf171 rfl (I_7.at1 (o := 0) (vs := [(fC 123), (fC 124), (fC 125), (fC 126), (fC 127), (fC 128), (fC 129)]) (nb rfl) rfl) ?_
 exact hR H _ I_7.drop h
theorem b0y {H : Hp} {K : Hp → Prop} (h : a0t H K) : a2m H K := by
 intro w I
 refine e1L ?_
 refine b0e I (fun H' w' I' hk => ⟨H', _, I', rfl, rfl, hk⟩) h
def X4 (x0 : Int) (x1 : Int) (H : Hp) (K : Bool → Hp → Prop) : Prop :=
 K (decide (x0 < x1)) H
theorem a8H (x0 : Int) (x1 : Int) {K : Bool → Hp → Prop} (I : Inv w0 ps0 H0 H [] w) (hR : ∀ (r0 : Bool) (H' : Hp) (w' : World) (_ : Inv w0 ps0 H0 H' [] w') (_ : K r0 H'), R (vB r0) w') (h : X4 x0 x1 H K) : c8o (vi x0) (vi x1) w R E := by
 unfold X4 at h
 unfold c8o
 refine a7 (B7 _ _ _ _ _ _) ?_
 exact hR (decide (x0 < x1)) H _ I h
theorem a9l (x0 : Int) (x1 : Int) {H : Hp} {K : Bool → Hp → Prop} (h : X4 x0 x1 H K) : a4b x0 x1 H K := by
 intro w I
 refine e1N ?_
 refine a8H x0 x1 I (fun r0 H' w' I' hk => ⟨H', _, I', r0, rfl, rfl, hk⟩) h
def X5 (x0 : Int) (x1 : Int) (H : Hp) (K : Bool → Hp → Prop) : Prop :=
 K (decide (x0 ≤ x1)) H
theorem a8I (x0 : Int) (x1 : Int) {K : Bool → Hp → Prop} (I : Inv w0 ps0 H0 H [] w) (hR : ∀ (r0 : Bool) (H' : Hp) (w' : World) (_ : Inv w0 ps0 H0 H' [] w') (_ : K r0 H'), R (vB r0) w') (h : X5 x0 x1 H K) : c8p (vi x0) (vi x1) w R E := by
 unfold X5 at h
 unfold c8p
 refine a7 (b2K _ _ _ _ _ _) ?_
 exact hR (decide (x0 ≤ x1)) H _ I h
theorem a9m (x0 : Int) (x1 : Int) {H : Hp} {K : Bool → Hp → Prop} (h : X5 x0 x1 H K) : a4c x0 x1 H K := by
 intro w I
 refine e1P ?_
 refine a8I x0 x1 I (fun r0 H' w' I' hk => ⟨H', _, I', r0, rfl, rfl, hk⟩) h
def X6 (x0 : Int) (x1 : Int) (H : Hp) (K : Bool → Hp → Prop) : Prop :=
 K (decide (x0 = x1)) H
theorem a8J (x0 : Int) (x1 : Int) {K : Bool → Hp → Prop} (I : Inv w0 ps0 H0 H [] w) (hR : ∀ (r0 : Bool) (H' : Hp) (w' : World) (_ : Inv w0 ps0 H0 H' [] w') (_ : K r0 H'), R (vB r0) w') (h : X6 x0 x1 H K) : c8q (vi x0) (vi x1) w R E := by
 unfold X6 at h
 unfold c8q
 refine a7 (i6 _ _ _ _ _ _) ?_
 exact hR (decide (x0 = x1)) H _ I h
theorem a9n (x0 : Int) (x1 : Int) {H : Hp} {K : Bool → Hp → Prop} (h : X6 x0 x1 H K) : a4d x0 x1 H K := by
 intro w I
 refine e1R ?_
 refine a8J x0 x1 I (fun r0 H' w' I' hk => ⟨H', _, I', r0, rfl, rfl, hk⟩) h
def X7 (x0 : Int) (x1 : Int) (H : Hp) (K : Bool → Hp → Prop) : Prop :=
 K (!decide (x0 = x1)) H
theorem a8K (x0 : Int) (x1 : Int) {K : Bool → Hp → Prop} (I : Inv w0 ps0 H0 H [] w) (hR : ∀ (r0 : Bool) (H' : Hp) (w' : World) (_ : Inv w0 ps0 H0 H' [] w') (_ : K r0 H'), R (vB r0) w') (h : X7 x0 x1 H K) : c8r (vi x0) (vi x1) w R E := by
 unfold X7 at h
 unfold c8r
 refine a7 (Y0 _ _ _ _ _ _) ?_
 exact hR (!decide (x0 = x1)) H _ I h
theorem a9o (x0 : Int) (x1 : Int) {H : Hp} {K : Bool → Hp → Prop} (h : X7 x0 x1 H K) : a4e x0 x1 H K := by
 intro w I
 refine e1T ?_
 refine a8K x0 x1 I (fun r0 H' w' I' hk => ⟨H', _, I', r0, rfl, rfl, hk⟩) h
def X8 (x0 : Int) (x1 : Int) (H : Hp) (K : Bool → Hp → Prop) : Prop :=
 K (decide (x1 < x0)) H
theorem a8L (x0 : Int) (x1 : Int) {K : Bool → Hp → Prop} (I : Inv w0 ps0 H0 H [] w) (hR : ∀ (r0 : Bool) (H' : Hp) (w' : World) (_ : Inv w0 ps0 H0 H' [] w') (_ : K r0 H'), R (vB r0) w') (h : X8 x0 x1 H K) : c8s (vi x0) (vi x1) w R E := by
 unfold X8 at h
 unfold c8s
 refine a7 (a1f _ _ _ _ _ _) ?_
 exact hR (decide (x1 < x0)) H _ I h
theorem a9p (x0 : Int) (x1 : Int) {H : Hp} {K : Bool → Hp → Prop} (h : X8 x0 x1 H K) : a4f x0 x1 H K := by
 intro w I
 refine e1V ?_
 refine a8L x0 x1 I (fun r0 H' w' I' hk => ⟨H', _, I', r0, rfl, rfl, hk⟩) h
def X9 (x0 : Int) (x1 : Int) (H : Hp) (K : Bool → Hp → Prop) : Prop :=
 K (decide (x1 ≤ x0)) H
theorem a8M (x0 : Int) (x1 : Int) {K : Bool → Hp → Prop} (I : Inv w0 ps0 H0 H [] w) (hR : ∀ (r0 : Bool) (H' : Hp) (w' : World) (_ : Inv w0 ps0 H0 H' [] w') (_ : K r0 H'), R (vB r0) w') (h : X9 x0 x1 H K) : c8t (vi x0) (vi x1) w R E := by
 unfold X9 at h
 unfold c8t
 refine a7 (a6y _ _ _ _ _ _) ?_
 exact hR (decide (x1 ≤ x0)) H _ I h
theorem a9q (x0 : Int) (x1 : Int) {H : Hp} {K : Bool → Hp → Prop} (h : X9 x0 x1 H K) : a4g x0 x1 H K := by
 intro w I
 refine e1X ?_
 refine a8M x0 x1 I (fun r0 H' w' I' hk => ⟨H', _, I', r0, rfl, rfl, hk⟩) h
def a2R (x0 : Int) (x1 : Int) (x2 : Int) (H : Hp) (K : Bool → Hp → Prop) : Prop :=
 (((decide (x0 < 1)) || (decide (6 < x0))) = true →
 K false H) ∧
 (((decide (x0 < 1)) || (decide (6 < x0))) = false →
 a2m H (fun (H_1 : Hp) =>
 (0 : Int) ≤ x0 ∧ (x0 : Int) < 7 ∧
 ∃ b0f : Bool → Hp → Prop, (∀ (a0m : Bool) (a1y : Hp), b0f a0m a1y →
 K a0m a1y) ∧ ((x0 : Int) = 0 → b3q x1 x2 H_1 b0f) ∧ ((x0 : Int) = 1 → a4b x1 x2 H_1 b0f) ∧ ((x0 : Int) = 2 → a4c x1 x2 H_1 b0f) ∧ ((x0 : Int) = 3 → a4d x1 x2 H_1 b0f) ∧ ((x0 : Int) = 4 → a4e x1 x2 H_1 b0f) ∧ ((x0 : Int) = 5 → a4f x1 x2 H_1 b0f) ∧ ((x0 : Int) = 6 → a4g x1 x2 H_1 b0f)))
theorem b5x (x0 : Int) (x1 : Int) (x2 : Int) {K : Bool → Hp → Prop} (I : Inv w0 ps0 H0 H [] w) (hR : ∀ (r0 : Bool) (H' : Hp) (w' : World) (_ : Inv w0 ps0 H0 H' [] w') (_ : K r0 H'), R (vB r0) w') (h : a2R x0 x1 x2 H K) : F75 (vi x0) (vi x1) (vi x2) w R E := by
 unfold a2R at h
 unfold F75
 refine a7 (B7 _ _ _ _ _ _) ?_
 simp only [G8]
 refine a7 (Pu.g fun hb => by have d8 := hb; simp only [m8 d8]; exact (a1f _ _ _ _ _ _)) ?_
 refine a7 (T4 _ _) ?_
 refine o8 (fun b5R => ?_) (fun b5R => ?_)
 ·replace h := h.1 b5R
  exact hR false H _ I h
 ·replace h := h.2 b5R
  refine d6 (cap := []) (fun args w => Tryd.call110 args w) ?_
  refine m6 (Fi := []) (Fr := []) I (h) (fun v_5 H_1 F_6 w_2 I_3 l_8 k_4 q_7 => ?_) (fun _ _ _ _ _ q => q.elim)
  obtain ⟨rfl, rfl, h⟩ := q_7
  obtain ⟨b6w, g4q, h⟩ := h
  refine a7 (R3 _ _ b6w g4q) ?_
  obtain ⟨b0f, d4N, d4O, c3s, b6q, g4r, d5n, g4s, a8k⟩ := h
  refine d9M (D := fun b2d a0w => ∃ (a0m : Bool) (a1y : Hp), b2d = (vB a0m) ∧ (Inv w0 ps0 H0 a1y [] a0w) ∧ (∀ i, i < w_2.heap.size → ¬ inF [] i → a0w.heap[i]? = w_2.heap[i]?) ∧ Hle H_1 a1y ∧ (b0f a0m a1y)) ?_ ?_
  ·obtain e | e | e | e | e | e | e := (by omega : (x0 : Int) = 0 ∨ (x0 : Int) = 1 ∨ (x0 : Int) = 2 ∨ (x0 : Int) = 3 ∨ (x0 : Int) = 4 ∨ (x0 : Int) = 5 ∨ (x0 : Int) = 6)
   ·replace h := d4O e
    refine a9r (s' := xCall (fC 123) [(vi x1), (vi x2)]) (by rw [e]; rfl) ?_
    refine d6 (cap := []) (fun args w => Tryd.call123 args w) ?_
    refine m6 (Fi := []) (Fr := []) I_3 (h) (fun b2d a1y b9O a0w T2 a3h a2q a6k => ?_) (fun _ _ _ _ _ q => q.elim)
    obtain ⟨a0m, rfl, rfl, h⟩ := a6k
    exact ⟨a0m, a1y, rfl, T2, a2q, a3h, h⟩
   ·replace h := c3s e
    refine a9r (s' := xCall (fC 124) [(vi x1), (vi x2)]) (by rw [e]; rfl) ?_
    refine d6 (cap := []) (fun args w => Tryd.call124 args w) ?_
    refine m6 (Fi := []) (Fr := []) I_3 (h) (fun b2d a1y b9O a0w T2 a3h a2q a6k => ?_) (fun _ _ _ _ _ q => q.elim)
    obtain ⟨a0m, rfl, rfl, h⟩ := a6k
    exact ⟨a0m, a1y, rfl, T2, a2q, a3h, h⟩
   ·replace h := b6q e
    refine a9r (s' := xCall (fC 125) [(vi x1), (vi x2)]) (by rw [e]; rfl) ?_
    refine d6 (cap := []) (fun args w => Tryd.call125 args w) ?_
    refine m6 (Fi := []) (Fr := []) I_3 (h) (fun b2d a1y b9O a0w T2 a3h a2q a6k => ?_) (fun _ _ _ _ _ q => q.elim)
    obtain ⟨a0m, rfl, rfl, h⟩ := a6k
    exact ⟨a0m, a1y, rfl, T2, a2q, a3h, h⟩
   ·replace h := g4r e
    refine a9r (s' := xCall (fC 126) [(vi x1), (vi x2)]) (by rw [e]; rfl) ?_
    refine d6 (cap := []) (fun args w => Tryd.call126 args w) ?_
    refine m6 (Fi := []) (Fr := []) I_3 (h) (fun b2d a1y b9O a0w T2 a3h a2q a6k => ?_) (fun _ _ _ _ _ q => q.elim)
    obtain ⟨a0m, rfl, rfl, h⟩ := a6k
    exact ⟨a0m, a1y, rfl, T2, a2q, a3h, h⟩
   ·replace h := d5n e
    refine a9r (s' := xCall (fC 127) [(vi x1), (vi x2)]) (by rw [e]; rfl) ?_
    refine d6 (cap := []) (fun args w => Tryd.call127 args w) ?_
    refine m6 (Fi := []) (Fr := []) I_3 (h) (fun b2d a1y b9O a0w T2 a3h a2q a6k => ?_) (fun _ _ _ _ _ q => q.elim)
    obtain ⟨a0m, rfl, rfl, h⟩ := a6k
    exact ⟨a0m, a1y, rfl, T2, a2q, a3h, h⟩
   ·replace h := g4s e
    refine a9r (s' := xCall (fC 128) [(vi x1), (vi x2)]) (by rw [e]; rfl) ?_
    refine d6 (cap := []) (fun args w => Tryd.call128 args w) ?_
    refine m6 (Fi := []) (Fr := []) I_3 (h) (fun b2d a1y b9O a0w T2 a3h a2q a6k => ?_) (fun _ _ _ _ _ q => q.elim)
    obtain ⟨a0m, rfl, rfl, h⟩ := a6k
    exact ⟨a0m, a1y, rfl, T2, a2q, a3h, h⟩
   ·replace h := a8k e
    refine a9r (s' := xCall (fC 129) [(vi x1), (vi x2)]) (by rw [e]; rfl) ?_
    refine d6 (cap := []) (fun args w => Tryd.call129 args w) ?_
    refine m6 (Fi := []) (Fr := []) I_3 (h) (fun b2d a1y b9O a0w T2 a3h a2q a6k => ?_) (fun _ _ _ _ _ q => q.elim)
    obtain ⟨a0m, rfl, rfl, h⟩ := a6k
    exact ⟨a0m, a1y, rfl, T2, a2q, a3h, h⟩
  ·rintro b2d a0w ⟨a0m, a1y, rfl, T2, a2q, a3h, h⟩
   replace h := d4N _ _ h
   exact hR a0m a1y _ T2 h
theorem b6z (x0 : Int) (x1 : Int) (x2 : Int) {H : Hp} {K : Bool → Hp → Prop} (h : a2R x0 x1 x2 H K) : a8f x0 x1 x2 H K := by
 intro w I
 refine f0M ?_
 refine b5x x0 x1 x2 I (fun r0 H' w' I' hk => ⟨H', _, I', r0, rfl, rfl, hk⟩) h
end Go.Proofs.YtnhkdkcgdcgmdaaDoor
