/- Typed formulas of the program's functions that few laws need; printed by lift.py off the code. -/
import Derived.Test.YtnhkdkcgdcgmdaaDoorzNV1
import Derived.Test.YtnhkdkcgdcgmdaaDoorzNG1r
namespace Go.Proofs.YtnhkdkcgdcgmdaaDoor
open Go.RowKit
set_option maxRecDepth 100000
set_option maxHeartbeats 2000000
variable {w0 w : World} {ps0 : Nat → Prop} {H0 H : Hp} {R : RT} {E : Pan}
def a3o (x0 : Int) (x1 : Int) (H : Hp) (K : Int → Int → Hp → Prop) : Prop :=
 ((((decide (x0 < 0)) != (decide (x1 < 0))) && ((decide ((IntKind.wrap .i64 (x0 - x1)) < 0)) != (decide (x0 < 0)))) = true →
 K 0 1 H) ∧
 ((((decide (x0 < 0)) != (decide (x1 < 0))) && ((decide ((IntKind.wrap .i64 (x0 - x1)) < 0)) != (decide (x0 < 0)))) = false →
 K (IntKind.wrap .i64 (x0 - x1)) 0 H)
theorem b6f (x0 : Int) (x1 : Int) {K : Int → Int → Hp → Prop} (I : Inv w0 ps0 H0 H [] w) (hR : ∀ (r0 : Int) (r1 : Int) (H' : Hp) (w' : World) (_ : Inv w0 ps0 H0 H' [] w') (_ : K r0 r1 H'), R (Value.tuple #[(vi r0), (vi r1)]) w') (h : a3o x0 x1 H K) : F27 (vi x0) (vi x1) w R E := by
 unfold a3o at h
 unfold F27
 refine a7 (b0Z _ _ _ _ _ _) ?_
 refine a7 (A7 _ _ _ _ _ _) ?_
 refine a7 (A7 _ _ _ _ _ _) ?_
 refine a7 (b1W _ _ _ _) ?_
 simp only [L2]
 refine a7 (Pu.g fun hb => by have b7 := hb; simp only [l9 b7]; exact (A7 _ _ _ _ _ _)) ?_
 refine a7 (Pu.g fun hb => by have b7 := hb; simp only [l9 b7]; exact (A7 _ _ _ _ _ _)) ?_
 refine a7 (Pu.g fun hb => by have b7 := hb; simp only [l9 b7]; exact (b1W _ _ _ _)) ?_
 refine a7 (N0 _ _) ?_
 refine o4 (fun c_1 => ?_) (fun c_1 => ?_)
 ·replace h := h.1 c_1
  exact hR 0 1 H _ I h
 ·replace h := h.2 c_1
  exact hR (IntKind.wrap .i64 (x0 - x1)) 0 H _ I h
theorem b7l (x0 : Int) (x1 : Int) {H : Hp} {K : Int → Int → Hp → Prop} (h : a3o x0 x1 H K) : a5f x0 x1 H K := by
 intro w I
 refine f2f ?_
 refine b6f x0 x1 I (fun r0 r1 H' w' I' hk => ⟨H', _, I', r0, r1, rfl, rfl, hk⟩) h
def a3p (x0 : Int) (H : Hp) (K : Int → Int → Hp → Prop) : Prop :=
 a5f 0 x0 H (fun (E8 : Int) (d0o : Int) (H_1 : Hp) =>
 K E8 d0o H_1)
theorem b6g (x0 : Int) {K : Int → Int → Hp → Prop} (I : Inv w0 ps0 H0 H [] w) (hR : ∀ (r0 : Int) (r1 : Int) (H' : Hp) (w' : World) (_ : Inv w0 ps0 H0 H' [] w') (_ : K r0 r1 H'), R (Value.tuple #[(vi r0), (vi r1)]) w') (h : a3p x0 H K) : d0g (vi x0) w R E := by
 unfold a3p at h
 unfold d0g
 refine d5 (cap := []) (fun args w => Tryd.call27 args w) ?_
 refine m8 (Fi := []) (Fr := []) I (h) (fun v_5 H_1 F_6 w_2 I_3 l_8 k_4 q_7 => ?_) (fun _ _ _ _ _ q => q.elim)
 obtain ⟨E8, d0o, rfl, rfl, h⟩ := q_7
 refine a7 (m3 _ _ (vi E8) rfl) ?_
 refine a7 (m3 _ _ (vi d0o) rfl) ?_
 exact hR E8 d0o H_1 _ I_3 h
theorem b7m (x0 : Int) {H : Hp} {K : Int → Int → Hp → Prop} (h : a3p x0 H K) : a8M x0 H K := by
 intro w I
 refine e3u ?_
 refine b6g x0 I (fun r0 r1 H' w' I' hk => ⟨H', _, I', r0, r1, rfl, rfl, hk⟩) h
def a3q (x0 : Int) (x1 : Int) (H : Hp) (K : Int → Int → Hp → Prop) : Prop :=
 ((((decide (x0 < 0)) == (decide (x1 < 0))) && ((decide ((IntKind.wrap .i64 (x0 + x1)) < 0)) != (decide (x0 < 0)))) = true →
 K 0 1 H) ∧
 ((((decide (x0 < 0)) == (decide (x1 < 0))) && ((decide ((IntKind.wrap .i64 (x0 + x1)) < 0)) != (decide (x0 < 0)))) = false →
 K (IntKind.wrap .i64 (x0 + x1)) 0 H)
theorem b6h (x0 : Int) (x1 : Int) {K : Int → Int → Hp → Prop} (I : Inv w0 ps0 H0 H [] w) (hR : ∀ (r0 : Int) (r1 : Int) (H' : Hp) (w' : World) (_ : Inv w0 ps0 H0 H' [] w') (_ : K r0 r1 H'), R (Value.tuple #[(vi r0), (vi r1)]) w') (h : a3q x0 x1 H K) : F26 (vi x0) (vi x1) w R E := by
 unfold a3q at h
 unfold F26
 refine a7 (C6 _ _ _ _ _ _) ?_
 refine a7 (A7 _ _ _ _ _ _) ?_
 refine a7 (A7 _ _ _ _ _ _) ?_
 refine a7 (d5v _ _ _ _) ?_
 simp only [L2]
 refine a7 (Pu.g fun hb => by have b7 := hb; simp only [l9 b7]; exact (A7 _ _ _ _ _ _)) ?_
 refine a7 (Pu.g fun hb => by have b7 := hb; simp only [l9 b7]; exact (A7 _ _ _ _ _ _)) ?_
 refine a7 (Pu.g fun hb => by have b7 := hb; simp only [l9 b7]; exact (b1W _ _ _ _)) ?_
 refine a7 (N0 _ _) ?_
 refine o4 (fun c_1 => ?_) (fun c_1 => ?_)
 ·replace h := h.1 c_1
  exact hR 0 1 H _ I h
 ·replace h := h.2 c_1
  exact hR (IntKind.wrap .i64 (x0 + x1)) 0 H _ I h
theorem b7n (x0 : Int) (x1 : Int) {H : Hp} {K : Int → Int → Hp → Prop} (h : a3q x0 x1 H K) : a8N x0 x1 H K := by
 intro w I
 refine f2d ?_
 refine b6h x0 x1 I (fun r0 r1 H' w' I' hk => ⟨H', _, I', r0, r1, rfl, rfl, hk⟩) h
def a2C (x0 : Int) (H : Hp) (K : Int → Hp → Prop) : Prop :=
 (x0 < 0 →
 K (IntKind.wrap .u64 (0 - (IntKind.wrap .u64 x0))) H) ∧
 (¬ (x0 < 0) →
 K (IntKind.wrap .u64 x0) H)
theorem b4C (x0 : Int) {K : Int → Hp → Prop} (I : Inv w0 ps0 H0 H [] w) (hR : ∀ (r0 : Int) (H' : Hp) (w' : World) (_ : Inv w0 ps0 H0 H' [] w') (_ : K r0 H'), R (Value.int .u64 r0) w') (h : a2C x0 H K) : F48 (vi x0) w R E := by
 unfold a2C at h
 unfold F48
 refine a7 (A7 _ _ _ _ _ _) ?_
 refine i5 (fun c_1 => ?_) (fun c_1 => ?_)
 ·replace h := h.1 c_1
  refine a7 (b8c _ _) ?_
  refine a7 (d2c _ _) ?_
  exact hR (IntKind.wrap .u64 (0 - (IntKind.wrap .u64 x0))) H _ I h
 ·replace h := h.2 c_1
  refine a7 (b8c _ _) ?_
  exact hR (IntKind.wrap .u64 x0) H _ I h
theorem b6i (x0 : Int) {H : Hp} {K : Int → Hp → Prop} (h : a2C x0 H K) : a2v x0 H K := by
 intro w I
 refine f2C ?_
 refine b4C x0 I (fun r0 H' w' I' hk => ⟨H', _, I', r0, rfl, rfl, hk⟩) h
def a2D (x0 : Int) (x1 : Int) (H : Hp) (K : Int → Int → Hp → Prop) : Prop :=
 K (IntKind.wrap .u64 ((IntKind.wrap .u64 ((IntKind.wrap .u64 ((Int.fdiv x0 (2 ^ 32)) * (Int.fdiv x1 (2 ^ 32)))) + (Int.fdiv (IntKind.wrap .u64 ((IntKind.wrap .u64 ((Int.fdiv x0 (2 ^ 32)) * (bandI .u64 x1 4294967295))) + (Int.fdiv (IntKind.wrap .u64 ((bandI .u64 x0 4294967295) * (bandI .u64 x1 4294967295))) (2 ^ 32)))) (2 ^ 32)))) + (Int.fdiv (IntKind.wrap .u64 ((bandI .u64 (IntKind.wrap .u64 ((IntKind.wrap .u64 ((Int.fdiv x0 (2 ^ 32)) * (bandI .u64 x1 4294967295))) + (Int.fdiv (IntKind.wrap .u64 ((bandI .u64 x0 4294967295) * (bandI .u64 x1 4294967295))) (2 ^ 32)))) 4294967295) + (IntKind.wrap .u64 ((bandI .u64 x0 4294967295) * (Int.fdiv x1 (2 ^ 32)))))) (2 ^ 32)))) (IntKind.wrap .u64 (x0 * x1)) H
theorem b4D (x0 : Int) (x1 : Int) {K : Int → Int → Hp → Prop} (I : Inv w0 ps0 H0 H [] w) (hR : ∀ (r0 : Int) (r1 : Int) (H' : Hp) (w' : World) (_ : Inv w0 ps0 H0 H' [] w') (_ : K r0 r1 H'), R (Value.tuple #[(Value.int .u64 r0), (Value.int .u64 r1)]) w') (h : a2D x0 x1 H K) : F47 (Value.int .u64 x0) (Value.int .u64 x1) w R E := by
 unfold a2D at h
 unfold F47
 refine a7 (b9H _ _ _ _ _ _) ?_
 refine a7 (b3E _ _ _ _ _ _ _ (by decide) (by decide)) ?_
 refine a7 (b9H _ _ _ _ _ _) ?_
 refine a7 (b3E _ _ _ _ _ _ _ (by decide) (by decide)) ?_
 refine a7 (b1a _ _ _ _ _ _) ?_
 refine a7 (b1a _ _ _ _ _ _) ?_
 refine a7 (b3E _ _ _ _ _ _ _ (by decide) (by decide)) ?_
 refine a7 (C6 _ _ _ _ _ _) ?_
 refine a7 (b9H _ _ _ _ _ _) ?_
 refine a7 (b3E _ _ _ _ _ _ _ (by decide) (by decide)) ?_
 refine a7 (b1a _ _ _ _ _ _) ?_
 refine a7 (C6 _ _ _ _ _ _) ?_
 refine a7 (b1a _ _ _ _ _ _) ?_
 refine a7 (C6 _ _ _ _ _ _) ?_
 refine a7 (b3E _ _ _ _ _ _ _ (by decide) (by decide)) ?_
 refine a7 (C6 _ _ _ _ _ _) ?_
 refine a7 (b1a _ _ _ _ _ _) ?_
 exact hR (IntKind.wrap .u64 ((IntKind.wrap .u64 ((IntKind.wrap .u64 ((Int.fdiv x0 (2 ^ 32)) * (Int.fdiv x1 (2 ^ 32)))) + (Int.fdiv (IntKind.wrap .u64 ((IntKind.wrap .u64 ((Int.fdiv x0 (2 ^ 32)) * (bandI .u64 x1 4294967295))) + (Int.fdiv (IntKind.wrap .u64 ((bandI .u64 x0 4294967295) * (bandI .u64 x1 4294967295))) (2 ^ 32)))) (2 ^ 32)))) + (Int.fdiv (IntKind.wrap .u64 ((bandI .u64 (IntKind.wrap .u64 ((IntKind.wrap .u64 ((Int.fdiv x0 (2 ^ 32)) * (bandI .u64 x1 4294967295))) + (Int.fdiv (IntKind.wrap .u64 ((bandI .u64 x0 4294967295) * (bandI .u64 x1 4294967295))) (2 ^ 32)))) 4294967295) + (IntKind.wrap .u64 ((bandI .u64 x0 4294967295) * (Int.fdiv x1 (2 ^ 32)))))) (2 ^ 32)))) (IntKind.wrap .u64 (x0 * x1)) H _ I h
theorem b6j (x0 : Int) (x1 : Int) {H : Hp} {K : Int → Int → Hp → Prop} (h : a2D x0 x1 H K) : a4D x0 x1 H K := by
 intro w I
 refine f2A ?_
 refine b4D x0 x1 I (fun r0 r1 H' w' I' hk => ⟨H', _, I', r0, r1, rfl, rfl, hk⟩) h
def U1 (c9Q : Int) (c4O : Int) (f2Y : Int) (b2V : Int) (c0A : Int) (H : Hp) (K : Int → Int → Hp → Prop) : Prop :=
 (((!decide (f2Y = 0)) || (decide (c0A < b2V))) = true →
 K 0 1 H) ∧
 (((!decide (f2Y = 0)) || (decide (c0A < b2V))) = false →
 K (IntKind.wrap .i64 (c9Q * c4O)) 0 H)
def a3r (x0 : Int) (x1 : Int) (H : Hp) (K : Int → Int → Hp → Prop) : Prop :=
 a2v x0 H (fun (E8 : Int) (H_1 : Hp) =>
 a2v x1 H_1 (fun (D4 : Int) (a3K : Hp) =>
 a4D E8 D4 a3K (fun (Y9 : Int) (b5I : Int) (a1l : Hp) =>
 (((decide (x0 < 0)) != (decide (x1 < 0))) = true →
 U1 x0 x1 Y9 b5I (IntKind.wrap .u64 (9223372036854775807 + 1)) a1l K) ∧
 (((decide (x0 < 0)) != (decide (x1 < 0))) = false →
 U1 x0 x1 Y9 b5I 9223372036854775807 a1l K))))
theorem b6k (x0 : Int) (x1 : Int) {K : Int → Int → Hp → Prop} (I : Inv w0 ps0 H0 H [] w) (hR : ∀ (r0 : Int) (r1 : Int) (H' : Hp) (w' : World) (_ : Inv w0 ps0 H0 H' [] w') (_ : K r0 r1 H'), R (Value.tuple #[(vi r0), (vi r1)]) w') (h : a3r x0 x1 H K) : F28 (vi x0) (vi x1) w R E := by
 unfold a3r at h
 unfold F28
 refine d5 (cap := []) (fun args w => Tryd.call48 args w) ?_
 refine m8 (Fi := []) (Fr := []) I (h) (fun v_5 H_1 F_6 w_2 I_3 l_8 k_4 q_7 => ?_) (fun _ _ _ _ _ q => q.elim)
 obtain ⟨E8, rfl, rfl, h⟩ := q_7
 refine d5 (cap := []) (fun args w => Tryd.call48 args w) ?_
 refine m8 (Fi := []) (Fr := []) I_3 (h) (fun c9p a3K g4R a1e Q4 c0n b6J d5F => ?_) (fun _ _ _ _ _ q => q.elim)
 obtain ⟨D4, rfl, rfl, h⟩ := d5F
 refine d5 (cap := []) (fun args w => Tryd.call47 args w) ?_
 refine m8 (Fi := []) (Fr := []) Q4 (h) (fun c9q a1l g4S q7 a4G d5G c9r d5H => ?_) (fun _ _ _ _ _ q => q.elim)
 obtain ⟨Y9, b5I, rfl, rfl, h⟩ := d5H
 refine a7 (m3 _ _ (Value.int .u64 Y9) rfl) ?_
 refine a7 (m3 _ _ (Value.int .u64 b5I) rfl) ?_
 have hj1 : ∀ (c0A : Int) (H : Hp) (w : World) (_ : Inv w0 ps0 H0 H [] w) (_ : U1 x0 x1 Y9 b5I c0A H K), c4M (vi x0) (vi x1) (Value.int .u64 Y9) (Value.int .u64 b5I) (Value.int .u64 c0A) w R E := by
  intro c0A H w I h
  unfold c4M
  intro _
  unfold U1 at h
  refine a7 (N4 _ _ _ _ _ _) ?_
  simp only [L2]
  refine a7 (Pu.g fun hb => by have b7 := hb; simp only [l9 b7]; exact (a0b _ _ _ _ _ _)) ?_
  refine a7 (Q5 _ _) ?_
  refine o4 (fun d7h => ?_) (fun d7h => ?_)
  ·replace h := h.1 d7h
   exact hR 0 1 H _ I h
  ·replace h := h.2 d7h
   refine a7 (b1a _ _ _ _ _ _) ?_
   exact hR (IntKind.wrap .i64 (x0 * x1)) 0 H _ I h
 refine u7 fun j1 hx1 => ?_
 refine a7 (A7 _ _ _ _ _ _) ?_
 refine a7 (A7 _ _ _ _ _ _) ?_
 refine a7 (b1W _ _ _ _) ?_
 refine o4 (fun b6K => ?_) (fun b6K => ?_)
 ·replace h := h.1 b6K
  refine a7 (C6 _ _ _ _ _ _) ?_
  exact hx1 _ _ (hj1 (IntKind.wrap .u64 (9223372036854775807 + 1)) a1l _ a4G h)
 ·replace h := h.2 b6K
  exact hx1 _ _ (hj1 9223372036854775807 a1l _ a4G h)
theorem b7o (x0 : Int) (x1 : Int) {H : Hp} {K : Int → Int → Hp → Prop} (h : a3r x0 x1 H K) : a8O x0 x1 H K := by
 intro w I
 refine f2k ?_
 refine b6k x0 x1 I (fun r0 r1 H' w' I' hk => ⟨H', _, I', r0, r1, rfl, rfl, hk⟩) h
def a1t (x0 : Int) (x1 : Int) (H : Hp) (K : Int → Hp → Prop) : Prop :=
 (x1 = 0 →
 K 2 H) ∧
 (¬ (x1 = 0) →
 (((decide (x0 = (-9223372036854775808))) && (decide (x1 = (-1)))) = true →
 K 1 H) ∧
 (((decide (x0 = (-9223372036854775808))) && (decide (x1 = (-1)))) = false →
 K 0 H))
theorem b1r (x0 : Int) (x1 : Int) {K : Int → Hp → Prop} (I : Inv w0 ps0 H0 H [] w) (hR : ∀ (r0 : Int) (H' : Hp) (w' : World) (_ : Inv w0 ps0 H0 H' [] w') (_ : K r0 H'), R (vi r0) w') (h : a1t x0 x1 H K) : F49 (vi x0) (vi x1) w R E := by
 unfold a1t at h
 unfold F49
 refine a7 (j8 _ _ _ _ _ _) ?_
 refine i5 (fun c_2 => ?_) (fun c_2 => ?_)
 ·replace h := h.1 c_2
  exact hR 2 H _ I h
 ·replace h := h.2 c_2
  refine a7 (j8 _ _ _ _ _ _) ?_
  simp only [L2]
  refine a7 (Pu.g fun hb => by have b7 := hb; simp only [l9 b7]; exact (j8 _ _ _ _ _ _)) ?_
  refine a7 (N0 _ _) ?_
  refine o4 (fun c_1 => ?_) (fun c_1 => ?_)
  ·replace h := h.1 c_1
   exact hR 1 H _ I h
  ·replace h := h.2 c_1
   exact hR 0 H _ I h
theorem b2W (x0 : Int) (x1 : Int) {H : Hp} {K : Int → Hp → Prop} (h : a1t x0 x1 H K) : a1j x0 x1 H K := by
 intro w I
 refine f2E ?_
 refine b1r x0 x1 I (fun r0 H' w' I' hk => ⟨H', _, I', r0, rfl, rfl, hk⟩) h
def a5r (x0 : Int) (x1 : Int) (H : Hp) (K : Int → Int → Hp → Prop) : Prop :=
 a1j x0 x1 H (fun (E8 : Int) (H_1 : Hp) =>
 (¬ (E8 = 0) →
 K 0 E8 H_1) ∧
 (E8 = 0 →
 (x1 : Int) ≠ 0 ∧
 K (IntKind.wrap .i64 (Int.tdiv x0 x1)) 0 H_1))
theorem b6l (x0 : Int) (x1 : Int) {K : Int → Int → Hp → Prop} (I : Inv w0 ps0 H0 H [] w) (hR : ∀ (r0 : Int) (r1 : Int) (H' : Hp) (w' : World) (_ : Inv w0 ps0 H0 H' [] w') (_ : K r0 r1 H'), R (Value.tuple #[(vi r0), (vi r1)]) w') (h : a5r x0 x1 H K) : F29 (vi x0) (vi x1) w R E := by
 unfold a5r at h
 unfold F29
 refine d5 (cap := []) (fun args w => Tryd.call49 args w) ?_
 refine m8 (Fi := []) (Fr := []) I (h) (fun v_5 H_1 F_6 w_2 I_3 l_8 k_4 q_7 => ?_) (fun _ _ _ _ _ q => q.elim)
 obtain ⟨E8, rfl, rfl, h⟩ := q_7
 refine a7 (N4 _ _ _ _ _ _) ?_
 refine a1W (fun a8Y => ?_) (fun a8Y => ?_)
 ·replace h := h.1 a8Y
  exact hR 0 E8 H_1 _ I_3 h
 ·replace h := h.2 a8Y
  obtain ⟨c4P, h⟩ := h
  refine a7 (e7n _ _ _ _ _ _ c4P) ?_
  exact hR (IntKind.wrap .i64 (Int.tdiv x0 x1)) 0 H_1 _ I_3 h
theorem b7p (x0 : Int) (x1 : Int) {H : Hp} {K : Int → Int → Hp → Prop} (h : a5r x0 x1 H K) : a8P x0 x1 H K := by
 intro w I
 refine f2m ?_
 refine b6l x0 x1 I (fun r0 r1 H' w' I' hk => ⟨H', _, I', r0, r1, rfl, rfl, hk⟩) h
def a5s (x0 : Int) (x1 : Int) (H : Hp) (K : Int → Int → Hp → Prop) : Prop :=
 a1j x0 x1 H (fun (E8 : Int) (H_1 : Hp) =>
 (¬ (E8 = 0) →
 K 0 E8 H_1) ∧
 (E8 = 0 →
 (x1 : Int) ≠ 0 ∧
 K (Int.tmod x0 x1) 0 H_1))
theorem b6m (x0 : Int) (x1 : Int) {K : Int → Int → Hp → Prop} (I : Inv w0 ps0 H0 H [] w) (hR : ∀ (r0 : Int) (r1 : Int) (H' : Hp) (w' : World) (_ : Inv w0 ps0 H0 H' [] w') (_ : K r0 r1 H'), R (Value.tuple #[(vi r0), (vi r1)]) w') (h : a5s x0 x1 H K) : F30 (vi x0) (vi x1) w R E := by
 unfold a5s at h
 unfold F30
 refine d5 (cap := []) (fun args w => Tryd.call49 args w) ?_
 refine m8 (Fi := []) (Fr := []) I (h) (fun v_5 H_1 F_6 w_2 I_3 l_8 k_4 q_7 => ?_) (fun _ _ _ _ _ q => q.elim)
 obtain ⟨E8, rfl, rfl, h⟩ := q_7
 refine a7 (N4 _ _ _ _ _ _) ?_
 refine a1W (fun a8Y => ?_) (fun a8Y => ?_)
 ·replace h := h.1 a8Y
  exact hR 0 E8 H_1 _ I_3 h
 ·replace h := h.2 a8Y
  obtain ⟨c4P, h⟩ := h
  refine a7 (e7o _ _ _ _ _ _ c4P) ?_
  exact hR (Int.tmod x0 x1) 0 H_1 _ I_3 h
theorem b7q (x0 : Int) (x1 : Int) {H : Hp} {K : Int → Int → Hp → Prop} (h : a5s x0 x1 H K) : a8Q x0 x1 H K := by
 intro w I
 refine f2o ?_
 refine b6m x0 x1 I (fun r0 r1 H' w' I' hk => ⟨H', _, I', r0, r1, rfl, rfl, hk⟩) h
def a0O (H : Hp) (K : Hp → Prop) : Prop :=
 K H
theorem b0T {K : Hp → Prop} (I : Inv w0 ps0 H0 H [] w) (hR : ∀ (H' : Hp) (w' : World) (_ : Inv w0 ps0 H0 H' [] w') (_ : K H'), R (Value.agg #[(fC 123), (fC 124), (fC 125), (fC 126), (fC 127), (fC 128), (fC 129)]) w') (h : a0O H K) : d0h w R E := by
 unfold a0O at h
 unfold d0h
 refine C2 I Tryd.zeroValue171 (cs := [Value.nilFunc, Value.nilFunc, Value.nilFunc, Value.nilFunc, Value.nilFunc, Value.nilFunc, Value.nilFunc]) rfl fun g_2 w_3 I_4 k_5 => ?_
 refine a7 a3E ?_
 refine o9 I_4 Tryd.sizeOf171 (vs := [(fC 123), (fC 124), (fC 125), (fC 126), (fC 127), (fC 128), (fC 129)]) (cs' := [(fC 123), (fC 124), (fC 125), (fC 126), (fC 127), (fC 128), (fC 129)]) rfl rfl (nb rfl) rfl rfl fun w_6 I_7 k_8 => ?_
 refine b1b Tryd.isAgg171 Tryd.sizeOf171 rfl (I_7.at1 (o := 0) (vs := [(fC 123), (fC 124), (fC 125), (fC 126), (fC 127), (fC 128), (fC 129)]) (nb rfl) rfl) ?_
 exact hR H _ I_7.drop h
theorem b1s {H : Hp} {K : Hp → Prop} (h : a0O H K) : a2L H K := by
 intro w I
 refine e3w ?_
 refine b0T I (fun H' w' I' hk => ⟨H', _, I', rfl, rfl, hk⟩) h
def Z4 (x0 : Int) (x1 : Int) (H : Hp) (K : Bool → Hp → Prop) : Prop :=
 K (decide (x0 < x1)) H
theorem a9t (x0 : Int) (x1 : Int) {K : Bool → Hp → Prop} (I : Inv w0 ps0 H0 H [] w) (hR : ∀ (r0 : Bool) (H' : Hp) (w' : World) (_ : Inv w0 ps0 H0 H' [] w') (_ : K r0 H'), R (vB r0) w') (h : Z4 x0 x1 H K) : d0i (vi x0) (vi x1) w R E := by
 unfold Z4 at h
 unfold d0i
 refine a7 (A7 _ _ _ _ _ _) ?_
 exact hR (decide (x0 < x1)) H _ I h
theorem b0c (x0 : Int) (x1 : Int) {H : Hp} {K : Bool → Hp → Prop} (h : Z4 x0 x1 H K) : a4v x0 x1 H K := by
 intro w I
 refine e3y ?_
 refine a9t x0 x1 I (fun r0 H' w' I' hk => ⟨H', _, I', r0, rfl, rfl, hk⟩) h
def Z5 (x0 : Int) (x1 : Int) (H : Hp) (K : Bool → Hp → Prop) : Prop :=
 K (decide (x0 ≤ x1)) H
theorem a9u (x0 : Int) (x1 : Int) {K : Bool → Hp → Prop} (I : Inv w0 ps0 H0 H [] w) (hR : ∀ (r0 : Bool) (H' : Hp) (w' : World) (_ : Inv w0 ps0 H0 H' [] w') (_ : K r0 H'), R (vB r0) w') (h : Z5 x0 x1 H K) : d0j (vi x0) (vi x1) w R E := by
 unfold Z5 at h
 unfold d0j
 refine a7 (b3D _ _ _ _ _ _) ?_
 exact hR (decide (x0 ≤ x1)) H _ I h
theorem b0d (x0 : Int) (x1 : Int) {H : Hp} {K : Bool → Hp → Prop} (h : Z5 x0 x1 H K) : a4w x0 x1 H K := by
 intro w I
 refine e3A ?_
 refine a9u x0 x1 I (fun r0 H' w' I' hk => ⟨H', _, I', r0, rfl, rfl, hk⟩) h
def Z6 (x0 : Int) (x1 : Int) (H : Hp) (K : Bool → Hp → Prop) : Prop :=
 K (decide (x0 = x1)) H
theorem a9v (x0 : Int) (x1 : Int) {K : Bool → Hp → Prop} (I : Inv w0 ps0 H0 H [] w) (hR : ∀ (r0 : Bool) (H' : Hp) (w' : World) (_ : Inv w0 ps0 H0 H' [] w') (_ : K r0 H'), R (vB r0) w') (h : Z6 x0 x1 H K) : d0k (vi x0) (vi x1) w R E := by
 unfold Z6 at h
 unfold d0k
 refine a7 (j8 _ _ _ _ _ _) ?_
 exact hR (decide (x0 = x1)) H _ I h
theorem b0e (x0 : Int) (x1 : Int) {H : Hp} {K : Bool → Hp → Prop} (h : Z6 x0 x1 H K) : a4x x0 x1 H K := by
 intro w I
 refine e3C ?_
 refine a9v x0 x1 I (fun r0 H' w' I' hk => ⟨H', _, I', r0, rfl, rfl, hk⟩) h
def Z7 (x0 : Int) (x1 : Int) (H : Hp) (K : Bool → Hp → Prop) : Prop :=
 K (!decide (x0 = x1)) H
theorem a9w (x0 : Int) (x1 : Int) {K : Bool → Hp → Prop} (I : Inv w0 ps0 H0 H [] w) (hR : ∀ (r0 : Bool) (H' : Hp) (w' : World) (_ : Inv w0 ps0 H0 H' [] w') (_ : K r0 H'), R (vB r0) w') (h : Z7 x0 x1 H K) : d0l (vi x0) (vi x1) w R E := by
 unfold Z7 at h
 unfold d0l
 refine a7 (N4 _ _ _ _ _ _) ?_
 exact hR (!decide (x0 = x1)) H _ I h
theorem b0f (x0 : Int) (x1 : Int) {H : Hp} {K : Bool → Hp → Prop} (h : Z7 x0 x1 H K) : a4y x0 x1 H K := by
 intro w I
 refine e3E ?_
 refine a9w x0 x1 I (fun r0 H' w' I' hk => ⟨H', _, I', r0, rfl, rfl, hk⟩) h
def Z8 (x0 : Int) (x1 : Int) (H : Hp) (K : Bool → Hp → Prop) : Prop :=
 K (decide (x1 < x0)) H
theorem a9x (x0 : Int) (x1 : Int) {K : Bool → Hp → Prop} (I : Inv w0 ps0 H0 H [] w) (hR : ∀ (r0 : Bool) (H' : Hp) (w' : World) (_ : Inv w0 ps0 H0 H' [] w') (_ : K r0 H'), R (vB r0) w') (h : Z8 x0 x1 H K) : d0m (vi x0) (vi x1) w R E := by
 unfold Z8 at h
 unfold d0m
 refine a7 (a0b _ _ _ _ _ _) ?_
 exact hR (decide (x1 < x0)) H _ I h
theorem b0g (x0 : Int) (x1 : Int) {H : Hp} {K : Bool → Hp → Prop} (h : Z8 x0 x1 H K) : a4z x0 x1 H K := by
 intro w I
 refine e3G ?_
 refine a9x x0 x1 I (fun r0 H' w' I' hk => ⟨H', _, I', r0, rfl, rfl, hk⟩) h
def Z9 (x0 : Int) (x1 : Int) (H : Hp) (K : Bool → Hp → Prop) : Prop :=
 K (decide (x1 ≤ x0)) H
theorem a9y (x0 : Int) (x1 : Int) {K : Bool → Hp → Prop} (I : Inv w0 ps0 H0 H [] w) (hR : ∀ (r0 : Bool) (H' : Hp) (w' : World) (_ : Inv w0 ps0 H0 H' [] w') (_ : K r0 H'), R (vB r0) w') (h : Z9 x0 x1 H K) : d0n (vi x0) (vi x1) w R E := by
 unfold Z9 at h
 unfold d0n
 refine a7 (a8y _ _ _ _ _ _) ?_
 exact hR (decide (x1 ≤ x0)) H _ I h
theorem b0h (x0 : Int) (x1 : Int) {H : Hp} {K : Bool → Hp → Prop} (h : Z9 x0 x1 H K) : a4A x0 x1 H K := by
 intro w I
 refine e3I ?_
 refine a9y x0 x1 I (fun r0 H' w' I' hk => ⟨H', _, I', r0, rfl, rfl, hk⟩) h
def a3s (x0 : Int) (x1 : Int) (x2 : Int) (H : Hp) (K : Bool → Hp → Prop) : Prop :=
 (((decide (x0 < 1)) || (decide (6 < x0))) = true →
 K false H) ∧
 (((decide (x0 < 1)) || (decide (6 < x0))) = false →
 a2L H (fun (H_1 : Hp) =>
 (0 : Int) ≤ x0 ∧ (x0 : Int) < 7 ∧
 ∃ b0U : Bool → Hp → Prop, (∀ (a0I : Bool) (a1V : Hp), b0U a0I a1V →
 K a0I a1V) ∧ ((x0 : Int) = 0 → b4k x1 x2 H_1 b0U) ∧ ((x0 : Int) = 1 → a4v x1 x2 H_1 b0U) ∧ ((x0 : Int) = 2 → a4w x1 x2 H_1 b0U) ∧ ((x0 : Int) = 3 → a4x x1 x2 H_1 b0U) ∧ ((x0 : Int) = 4 → a4y x1 x2 H_1 b0U) ∧ ((x0 : Int) = 5 → a4z x1 x2 H_1 b0U) ∧ ((x0 : Int) = 6 → a4A x1 x2 H_1 b0U)))
theorem b6n (x0 : Int) (x1 : Int) (x2 : Int) {K : Bool → Hp → Prop} (I : Inv w0 ps0 H0 H [] w) (hR : ∀ (r0 : Bool) (H' : Hp) (w' : World) (_ : Inv w0 ps0 H0 H' [] w') (_ : K r0 H'), R (vB r0) w') (h : a3s x0 x1 x2 H K) : F75 (vi x0) (vi x1) (vi x2) w R E := by
 unfold a3s at h
 unfold F75
 refine a7 (A7 _ _ _ _ _ _) ?_
 simp only [L2]
 refine a7 (Pu.g fun hb => by have b7 := hb; simp only [l9 b7]; exact (a0b _ _ _ _ _ _)) ?_
 refine a7 (Q5 _ _) ?_
 refine o4 (fun b6I => ?_) (fun b6I => ?_)
 ·replace h := h.1 b6I
  exact hR false H _ I h
 ·replace h := h.2 b6I
  refine d5 (cap := []) (fun args w => Tryd.call110 args w) ?_
  refine m8 (Fi := []) (Fr := []) I (h) (fun v_5 H_1 F_6 w_2 I_3 l_8 k_4 q_7 => ?_) (fun _ _ _ _ _ q => q.elim)
  obtain ⟨rfl, rfl, h⟩ := q_7
  obtain ⟨c4P, g6a, h⟩ := h
  refine a7 (S5 _ _ c4P g6a) ?_
  obtain ⟨b0U, d6L, d6M, d6N, b7j, d7i, c4Q, c4R, a8U⟩ := h
  refine e1w (D := fun b2X T6 => ∃ (a0I : Bool) (a1V : Hp), b2X = (vB a0I) ∧ (Inv w0 ps0 H0 a1V [] T6) ∧ (∀ i, i < w_2.heap.size → ¬ inF [] i → T6.heap[i]? = w_2.heap[i]?) ∧ Hle H_1 a1V ∧ (b0U a0I a1V)) ?_ ?_
  ·obtain e | e | e | e | e | e | e := (by omega : (x0 : Int) = 0 ∨ (x0 : Int) = 1 ∨ (x0 : Int) = 2 ∨ (x0 : Int) = 3 ∨ (x0 : Int) = 4 ∨ (x0 : Int) = 5 ∨ (x0 : Int) = 6)
   ·replace h := d6M e
    refine b0i (s' := xCall (fC 123) [(vi x1), (vi x2)]) (by rw [e]; rfl) ?_
    refine d5 (cap := []) (fun args w => Tryd.call123 args w) ?_
    refine m8 (Fi := []) (Fr := []) I_3 (h) (fun b2X a1V c0B T6 Y0 a3G a3g a6L => ?_) (fun _ _ _ _ _ q => q.elim)
    obtain ⟨a0I, rfl, rfl, h⟩ := a6L
    exact ⟨a0I, a1V, rfl, Y0, a3g, a3G, h⟩
   ·replace h := d6N e
    refine b0i (s' := xCall (fC 124) [(vi x1), (vi x2)]) (by rw [e]; rfl) ?_
    refine d5 (cap := []) (fun args w => Tryd.call124 args w) ?_
    refine m8 (Fi := []) (Fr := []) I_3 (h) (fun b2X a1V c0B T6 Y0 a3G a3g a6L => ?_) (fun _ _ _ _ _ q => q.elim)
    obtain ⟨a0I, rfl, rfl, h⟩ := a6L
    exact ⟨a0I, a1V, rfl, Y0, a3g, a3G, h⟩
   ·replace h := b7j e
    refine b0i (s' := xCall (fC 125) [(vi x1), (vi x2)]) (by rw [e]; rfl) ?_
    refine d5 (cap := []) (fun args w => Tryd.call125 args w) ?_
    refine m8 (Fi := []) (Fr := []) I_3 (h) (fun b2X a1V c0B T6 Y0 a3G a3g a6L => ?_) (fun _ _ _ _ _ q => q.elim)
    obtain ⟨a0I, rfl, rfl, h⟩ := a6L
    exact ⟨a0I, a1V, rfl, Y0, a3g, a3G, h⟩
   ·replace h := d7i e
    refine b0i (s' := xCall (fC 126) [(vi x1), (vi x2)]) (by rw [e]; rfl) ?_
    refine d5 (cap := []) (fun args w => Tryd.call126 args w) ?_
    refine m8 (Fi := []) (Fr := []) I_3 (h) (fun b2X a1V c0B T6 Y0 a3G a3g a6L => ?_) (fun _ _ _ _ _ q => q.elim)
    obtain ⟨a0I, rfl, rfl, h⟩ := a6L
    exact ⟨a0I, a1V, rfl, Y0, a3g, a3G, h⟩
   ·replace h := c4Q e
    refine b0i (s' := xCall (fC 127) [(vi x1), (vi x2)]) (by rw [e]; rfl) ?_
    refine d5 (cap := []) (fun args w => Tryd.call127 args w) ?_
    refine m8 (Fi := []) (Fr := []) I_3 (h) (fun b2X a1V c0B T6 Y0 a3G a3g a6L => ?_) (fun _ _ _ _ _ q => q.elim)
    obtain ⟨a0I, rfl, rfl, h⟩ := a6L
    exact ⟨a0I, a1V, rfl, Y0, a3g, a3G, h⟩
   ·replace h := c4R e
    refine b0i (s' := xCall (fC 128) [(vi x1), (vi x2)]) (by rw [e]; rfl) ?_
    refine d5 (cap := []) (fun args w => Tryd.call128 args w) ?_
    refine m8 (Fi := []) (Fr := []) I_3 (h) (fun b2X a1V c0B T6 Y0 a3G a3g a6L => ?_) (fun _ _ _ _ _ q => q.elim)
    obtain ⟨a0I, rfl, rfl, h⟩ := a6L
    exact ⟨a0I, a1V, rfl, Y0, a3g, a3G, h⟩
   ·replace h := a8U e
    refine b0i (s' := xCall (fC 129) [(vi x1), (vi x2)]) (by rw [e]; rfl) ?_
    refine d5 (cap := []) (fun args w => Tryd.call129 args w) ?_
    refine m8 (Fi := []) (Fr := []) I_3 (h) (fun b2X a1V c0B T6 Y0 a3G a3g a6L => ?_) (fun _ _ _ _ _ q => q.elim)
    obtain ⟨a0I, rfl, rfl, h⟩ := a6L
    exact ⟨a0I, a1V, rfl, Y0, a3g, a3G, h⟩
  ·rintro b2X T6 ⟨a0I, a1V, rfl, Y0, a3g, a3G, h⟩
   replace h := d6L _ _ h
   exact hR a0I a1V _ Y0 h
theorem b7r (x0 : Int) (x1 : Int) (x2 : Int) {H : Hp} {K : Bool → Hp → Prop} (h : a3s x0 x1 x2 H K) : a8R x0 x1 x2 H K := by
 intro w I
 refine f2G ?_
 refine b6n x0 x1 x2 I (fun r0 H' w' I' hk => ⟨H', _, I', r0, rfl, rfl, hk⟩) h
end Go.Proofs.YtnhkdkcgdcgmdaaDoor
