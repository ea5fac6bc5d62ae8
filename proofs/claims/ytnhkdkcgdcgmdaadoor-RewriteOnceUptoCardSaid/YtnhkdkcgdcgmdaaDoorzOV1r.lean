/- Typed formulas of the program's functions that few laws need; printed by lift.py off the code. -/
import Derived.Test.YtnhkdkcgdcgmdaaDoorzOV1
import Derived.Test.YtnhkdkcgdcgmdaaDoorzOG1r
namespace Go.Proofs.YtnhkdkcgdcgmdaaDoor
open Go.RowKit
set_option maxRecDepth 100000
set_option maxHeartbeats 2000000
variable {w0 w : World} {ps0 : Nat → Prop} {H0 H : Hp} {R : RT} {E : Pan}
def a6y (x0 : Int) (x1 : Int) (H : Hp) (K : Int → Int → Hp → Prop) : Prop :=
 ((((decide (x0 < 0)) != (decide (x1 < 0))) && ((decide ((IntKind.wrap .i64 (x0 - x1)) < 0)) != (decide (x0 < 0)))) = true →
 K 0 1 H) ∧
 ((((decide (x0 < 0)) != (decide (x1 < 0))) && ((decide ((IntKind.wrap .i64 (x0 - x1)) < 0)) != (decide (x0 < 0)))) = false →
 K (IntKind.wrap .i64 (x0 - x1)) 0 H)
theorem c0y (x0 : Int) (x1 : Int) {K : Int → Int → Hp → Prop} (I : Inv w0 ps0 H0 H [] w) (hR : ∀ (r0 : Int) (r1 : Int) (H' : Hp) (w' : World) (_ : Inv w0 ps0 H0 H' [] w') (_ : K r0 r1 H'), R (Value.tuple #[(vi r0), (vi r1)]) w') (h : a6y x0 x1 H K) : F27 (vi x0) (vi x1) w R E := by
 unfold a6y at h
 unfold F27
 refine a7 (c2B _ _ _ _ _ _) ?_
 refine a7 (F4 _ _ _ _ _ _) ?_
 refine a7 (F4 _ _ _ _ _ _) ?_
 refine a7 (b6a _ _ _ _) ?_
 simp only [O5]
 refine a7 (Pu.g fun hb => by have f4 := hb; simp only [p1 f4]; exact (F4 _ _ _ _ _ _)) ?_
 refine a7 (Pu.g fun hb => by have f4 := hb; simp only [p1 f4]; exact (F4 _ _ _ _ _ _)) ?_
 refine a7 (Pu.g fun hb => by have f4 := hb; simp only [p1 f4]; exact (b6a _ _ _ _)) ?_
 refine a7 (A6 _ _) ?_
 refine u2 (fun c_1 => ?_) (fun c_1 => ?_)
 ·replace h := h.1 c_1
  exact hR 0 1 H _ I h
 ·replace h := h.2 c_1
  exact hR (IntKind.wrap .i64 (x0 - x1)) 0 H _ I h
theorem c1R (x0 : Int) (x1 : Int) {H : Hp} {K : Int → Int → Hp → Prop} (h : a6y x0 x1 H K) : a4b x0 x1 H K := by
 intro w I
 refine f4h ?_
 refine c0y x0 x1 I (fun r0 r1 H' w' I' hk => ⟨H', _, I', r0, r1, rfl, rfl, hk⟩) h
def a6z (x0 : Int) (H : Hp) (K : Int → Int → Hp → Prop) : Prop :=
 a4b 0 x0 H (fun (K2 : Int) (d3V : Int) (H_1 : Hp) =>
 K K2 d3V H_1)
theorem c0z (x0 : Int) {K : Int → Int → Hp → Prop} (I : Inv w0 ps0 H0 H [] w) (hR : ∀ (r0 : Int) (r1 : Int) (H' : Hp) (w' : World) (_ : Inv w0 ps0 H0 H' [] w') (_ : K r0 r1 H'), R (Value.tuple #[(vi r0), (vi r1)]) w') (h : a6z x0 H K) : d3N (vi x0) w R E := by
 unfold a6z at h
 unfold d3N
 refine f2 (cap := []) (fun args w => Tryd.call27 args w) ?_
 refine i8 (Fi := []) (Fr := []) I (h) (fun v_5 H_1 F_6 w_2 I_3 l_8 k_4 q_7 => ?_) (fun _ _ _ _ _ q => q.elim)
 obtain ⟨K2, d3V, rfl, rfl, h⟩ := q_7
 refine a7 (o0 _ _ (vi K2) rfl) ?_
 refine a7 (o0 _ _ (vi d3V) rfl) ?_
 exact hR K2 d3V H_1 _ I_3 h
theorem c1S (x0 : Int) {H : Hp} {K : Int → Int → Hp → Prop} (h : a6z x0 H K) : a6j x0 H K := by
 intro w I
 refine e6m ?_
 refine c0z x0 I (fun r0 r1 H' w' I' hk => ⟨H', _, I', r0, r1, rfl, rfl, hk⟩) h
def a6A (x0 : Int) (x1 : Int) (H : Hp) (K : Int → Int → Hp → Prop) : Prop :=
 ((((decide (x0 < 0)) == (decide (x1 < 0))) && ((decide ((IntKind.wrap .i64 (x0 + x1)) < 0)) != (decide (x0 < 0)))) = true →
 K 0 1 H) ∧
 ((((decide (x0 < 0)) == (decide (x1 < 0))) && ((decide ((IntKind.wrap .i64 (x0 + x1)) < 0)) != (decide (x0 < 0)))) = false →
 K (IntKind.wrap .i64 (x0 + x1)) 0 H)
theorem c0A (x0 : Int) (x1 : Int) {K : Int → Int → Hp → Prop} (I : Inv w0 ps0 H0 H [] w) (hR : ∀ (r0 : Int) (r1 : Int) (H' : Hp) (w' : World) (_ : Inv w0 ps0 H0 H' [] w') (_ : K r0 r1 H'), R (Value.tuple #[(vi r0), (vi r1)]) w') (h : a6A x0 x1 H K) : F26 (vi x0) (vi x1) w R E := by
 unfold a6A at h
 unfold F26
 refine a7 (K3 _ _ _ _ _ _) ?_
 refine a7 (F4 _ _ _ _ _ _) ?_
 refine a7 (F4 _ _ _ _ _ _) ?_
 refine a7 (d9p _ _ _ _) ?_
 simp only [O5]
 refine a7 (Pu.g fun hb => by have f4 := hb; simp only [p1 f4]; exact (F4 _ _ _ _ _ _)) ?_
 refine a7 (Pu.g fun hb => by have f4 := hb; simp only [p1 f4]; exact (F4 _ _ _ _ _ _)) ?_
 refine a7 (Pu.g fun hb => by have f4 := hb; simp only [p1 f4]; exact (b6a _ _ _ _)) ?_
 refine a7 (A6 _ _) ?_
 refine u2 (fun c_1 => ?_) (fun c_1 => ?_)
 ·replace h := h.1 c_1
  exact hR 0 1 H _ I h
 ·replace h := h.2 c_1
  exact hR (IntKind.wrap .i64 (x0 + x1)) 0 H _ I h
theorem c1T (x0 : Int) (x1 : Int) {H : Hp} {K : Int → Int → Hp → Prop} (h : a6A x0 x1 H K) : a6k x0 x1 H K := by
 intro w I
 refine f4f ?_
 refine c0A x0 x1 I (fun r0 r1 H' w' I' hk => ⟨H', _, I', r0, r1, rfl, rfl, hk⟩) h
def a5A (x0 : Int) (H : Hp) (K : Int → Hp → Prop) : Prop :=
 (x0 < 0 →
 K (IntKind.wrap .u64 (0 - (IntKind.wrap .u64 x0))) H) ∧
 (¬ (x0 < 0) →
 K (IntKind.wrap .u64 x0) H)
theorem b9a (x0 : Int) {K : Int → Hp → Prop} (I : Inv w0 ps0 H0 H [] w) (hR : ∀ (r0 : Int) (H' : Hp) (w' : World) (_ : Inv w0 ps0 H0 H' [] w') (_ : K r0 H'), R (Value.int .u64 r0) w') (h : a5A x0 H K) : F48 (vi x0) w R E := by
 unfold a5A at h
 unfold F48
 refine a7 (F4 _ _ _ _ _ _) ?_
 refine j7 (fun c_1 => ?_) (fun c_1 => ?_)
 ·replace h := h.1 c_1
  refine a7 (c2H _ _) ?_
  refine a7 (c6Y _ _) ?_
  exact hR (IntKind.wrap .u64 (0 - (IntKind.wrap .u64 x0))) H _ I h
 ·replace h := h.2 c_1
  refine a7 (c2H _ _) ?_
  exact hR (IntKind.wrap .u64 x0) H _ I h
theorem c0B (x0 : Int) {H : Hp} {K : Int → Hp → Prop} (h : a5A x0 H K) : a5t x0 H K := by
 intro w I
 refine f4C ?_
 refine b9a x0 I (fun r0 H' w' I' hk => ⟨H', _, I', r0, rfl, rfl, hk⟩) h
def a5B (x0 : Int) (x1 : Int) (H : Hp) (K : Int → Int → Hp → Prop) : Prop :=
 K (IntKind.wrap .u64 ((IntKind.wrap .u64 ((IntKind.wrap .u64 ((Int.fdiv x0 (2 ^ 32)) * (Int.fdiv x1 (2 ^ 32)))) + (Int.fdiv (IntKind.wrap .u64 ((IntKind.wrap .u64 ((Int.fdiv x0 (2 ^ 32)) * (bandI .u64 x1 4294967295))) + (Int.fdiv (IntKind.wrap .u64 ((bandI .u64 x0 4294967295) * (bandI .u64 x1 4294967295))) (2 ^ 32)))) (2 ^ 32)))) + (Int.fdiv (IntKind.wrap .u64 ((bandI .u64 (IntKind.wrap .u64 ((IntKind.wrap .u64 ((Int.fdiv x0 (2 ^ 32)) * (bandI .u64 x1 4294967295))) + (Int.fdiv (IntKind.wrap .u64 ((bandI .u64 x0 4294967295) * (bandI .u64 x1 4294967295))) (2 ^ 32)))) 4294967295) + (IntKind.wrap .u64 ((bandI .u64 x0 4294967295) * (Int.fdiv x1 (2 ^ 32)))))) (2 ^ 32)))) (IntKind.wrap .u64 (x0 * x1)) H
theorem b9b (x0 : Int) (x1 : Int) {K : Int → Int → Hp → Prop} (I : Inv w0 ps0 H0 H [] w) (hR : ∀ (r0 : Int) (r1 : Int) (H' : Hp) (w' : World) (_ : Inv w0 ps0 H0 H' [] w') (_ : K r0 r1 H'), R (Value.tuple #[(Value.int .u64 r0), (Value.int .u64 r1)]) w') (h : a5B x0 x1 H K) : F47 (Value.int .u64 x0) (Value.int .u64 x1) w R E := by
 unfold a5B at h
 unfold F47
 refine a7 (c4x _ _ _ _ _ _) ?_
 refine a7 (b7Y _ _ _ _ _ _ _ (by decide) (by decide)) ?_
 refine a7 (c4x _ _ _ _ _ _) ?_
 refine a7 (b7Y _ _ _ _ _ _ _ (by decide) (by decide)) ?_
 refine a7 (b5k _ _ _ _ _ _) ?_
 refine a7 (b5k _ _ _ _ _ _) ?_
 refine a7 (b7Y _ _ _ _ _ _ _ (by decide) (by decide)) ?_
 refine a7 (K3 _ _ _ _ _ _) ?_
 refine a7 (c4x _ _ _ _ _ _) ?_
 refine a7 (b7Y _ _ _ _ _ _ _ (by decide) (by decide)) ?_
 refine a7 (b5k _ _ _ _ _ _) ?_
 refine a7 (K3 _ _ _ _ _ _) ?_
 refine a7 (b5k _ _ _ _ _ _) ?_
 refine a7 (K3 _ _ _ _ _ _) ?_
 refine a7 (b7Y _ _ _ _ _ _ _ (by decide) (by decide)) ?_
 refine a7 (K3 _ _ _ _ _ _) ?_
 refine a7 (b5k _ _ _ _ _ _) ?_
 exact hR (IntKind.wrap .u64 ((IntKind.wrap .u64 ((IntKind.wrap .u64 ((Int.fdiv x0 (2 ^ 32)) * (Int.fdiv x1 (2 ^ 32)))) + (Int.fdiv (IntKind.wrap .u64 ((IntKind.wrap .u64 ((Int.fdiv x0 (2 ^ 32)) * (bandI .u64 x1 4294967295))) + (Int.fdiv (IntKind.wrap .u64 ((bandI .u64 x0 4294967295) * (bandI .u64 x1 4294967295))) (2 ^ 32)))) (2 ^ 32)))) + (Int.fdiv (IntKind.wrap .u64 ((bandI .u64 (IntKind.wrap .u64 ((IntKind.wrap .u64 ((Int.fdiv x0 (2 ^ 32)) * (bandI .u64 x1 4294967295))) + (Int.fdiv (IntKind.wrap .u64 ((bandI .u64 x0 4294967295) * (bandI .u64 x1 4294967295))) (2 ^ 32)))) 4294967295) + (IntKind.wrap .u64 ((bandI .u64 x0 4294967295) * (Int.fdiv x1 (2 ^ 32)))))) (2 ^ 32)))) (IntKind.wrap .u64 (x0 * x1)) H _ I h
theorem c0C (x0 : Int) (x1 : Int) {H : Hp} {K : Int → Int → Hp → Prop} (h : a5B x0 x1 H K) : a8g x0 x1 H K := by
 intro w I
 refine f4A ?_
 refine b9b x0 x1 I (fun r0 r1 H' w' I' hk => ⟨H', _, I', r0, r1, rfl, rfl, hk⟩) h
def Z8 (d3v : Int) (c9y : Int) (f4Y : Int) (b7a : Int) (c5n : Int) (H : Hp) (K : Int → Int → Hp → Prop) : Prop :=
 (((!decide (f4Y = 0)) || (decide (c5n < b7a))) = true →
 K 0 1 H) ∧
 (((!decide (f4Y = 0)) || (decide (c5n < b7a))) = false →
 K (IntKind.wrap .i64 (d3v * c9y)) 0 H)
def a6B (x0 : Int) (x1 : Int) (H : Hp) (K : Int → Int → Hp → Prop) : Prop :=
 a5t x0 H (fun (K2 : Int) (H_1 : Hp) =>
 a5t x1 H_1 (fun (J1 : Int) (a5h : Hp) =>
 a8g K2 J1 a5h (fun (a1A : Int) (b9W : Int) (a3D : Hp) =>
 (((decide (x0 < 0)) != (decide (x1 < 0))) = true →
 Z8 x0 x1 a1A b9W (IntKind.wrap .u64 (9223372036854775807 + 1)) a3D K) ∧
 (((decide (x0 < 0)) != (decide (x1 < 0))) = false →
 Z8 x0 x1 a1A b9W 9223372036854775807 a3D K))))
theorem c0D (x0 : Int) (x1 : Int) {K : Int → Int → Hp → Prop} (I : Inv w0 ps0 H0 H [] w) (hR : ∀ (r0 : Int) (r1 : Int) (H' : Hp) (w' : World) (_ : Inv w0 ps0 H0 H' [] w') (_ : K r0 r1 H'), R (Value.tuple #[(vi r0), (vi r1)]) w') (h : a6B x0 x1 H K) : F28 (vi x0) (vi x1) w R E := by
 unfold a6B at h
 unfold F28
 refine f2 (cap := []) (fun args w => Tryd.call48 args w) ?_
 refine i8 (Fi := []) (Fr := []) I (h) (fun v_5 H_1 F_6 w_2 I_3 l_8 k_4 q_7 => ?_) (fun _ _ _ _ _ q => q.elim)
 obtain ⟨K2, rfl, rfl, h⟩ := q_7
 refine f2 (cap := []) (fun args w => Tryd.call48 args w) ?_
 refine i8 (Fi := []) (Fr := []) I_3 (h) (fun c8o a5h f3B P9 C6 c1b b6m c8q => ?_) (fun _ _ _ _ _ q => q.elim)
 obtain ⟨J1, rfl, rfl, h⟩ := c8q
 refine f2 (cap := []) (fun args w => Tryd.call47 args w) ?_
 refine i8 (Fi := []) (Fr := []) C6 (h) (fun d2Z a3D g5d u1 a4D c8s b8F d9x => ?_) (fun _ _ _ _ _ q => q.elim)
 obtain ⟨a1A, b9W, rfl, rfl, h⟩ := d9x
 refine a7 (o0 _ _ (Value.int .u64 a1A) rfl) ?_
 refine a7 (o0 _ _ (Value.int .u64 b9W) rfl) ?_
 have hj1 : ∀ (c5n : Int) (H : Hp) (w : World) (_ : Inv w0 ps0 H0 H [] w) (_ : Z8 x0 x1 a1A b9W c5n H K), c9t (vi x0) (vi x1) (Value.int .u64 a1A) (Value.int .u64 b9W) (Value.int .u64 c5n) w R E := by
  intro c5n H w I h
  unfold c9t
  intro _
  unfold Z8 at h
  refine a7 (T0 _ _ _ _ _ _) ?_
  simp only [O5]
  refine a7 (Pu.g fun hb => by have f4 := hb; simp only [p1 f4]; exact (a7h _ _ _ _ _ _)) ?_
  refine a7 (a5Z _ _) ?_
  refine u2 (fun e1e => ?_) (fun e1e => ?_)
  ·replace h := h.1 e1e
   exact hR 0 1 H _ I h
  ·replace h := h.2 e1e
   refine a7 (b5k _ _ _ _ _ _) ?_
   exact hR (IntKind.wrap .i64 (x0 * x1)) 0 H _ I h
 refine A7 fun j1 hx1 => ?_
 refine a7 (F4 _ _ _ _ _ _) ?_
 refine a7 (F4 _ _ _ _ _ _) ?_
 refine a7 (b6a _ _ _ _) ?_
 refine u2 (fun c1a => ?_) (fun c1a => ?_)
 ·replace h := h.1 c1a
  refine a7 (K3 _ _ _ _ _ _) ?_
  exact hx1 _ _ (hj1 (IntKind.wrap .u64 (9223372036854775807 + 1)) a3D _ a4D h)
 ·replace h := h.2 c1a
  exact hx1 _ _ (hj1 9223372036854775807 a3D _ a4D h)
theorem c1U (x0 : Int) (x1 : Int) {H : Hp} {K : Int → Int → Hp → Prop} (h : a6B x0 x1 H K) : a6l x0 x1 H K := by
 intro w I
 refine f4k ?_
 refine c0D x0 x1 I (fun r0 r1 H' w' I' hk => ⟨H', _, I', r0, r1, rfl, rfl, hk⟩) h
def a3M (x0 : Int) (x1 : Int) (H : Hp) (K : Int → Hp → Prop) : Prop :=
 (x1 = 0 →
 K 2 H) ∧
 (¬ (x1 = 0) →
 (((decide (x0 = (-9223372036854775808))) && (decide (x1 = (-1)))) = true →
 K 1 H) ∧
 (((decide (x0 = (-9223372036854775808))) && (decide (x1 = (-1)))) = false →
 K 0 H))
theorem b5D (x0 : Int) (x1 : Int) {K : Int → Hp → Prop} (I : Inv w0 ps0 H0 H [] w) (hR : ∀ (r0 : Int) (H' : Hp) (w' : World) (_ : Inv w0 ps0 H0 H' [] w') (_ : K r0 H'), R (vi r0) w') (h : a3M x0 x1 H K) : F49 (vi x0) (vi x1) w R E := by
 unfold a3M at h
 unfold F49
 refine a7 (m9 _ _ _ _ _ _) ?_
 refine j7 (fun c_2 => ?_) (fun c_2 => ?_)
 ·replace h := h.1 c_2
  exact hR 2 H _ I h
 ·replace h := h.2 c_2
  refine a7 (m9 _ _ _ _ _ _) ?_
  simp only [O5]
  refine a7 (Pu.g fun hb => by have f4 := hb; simp only [p1 f4]; exact (m9 _ _ _ _ _ _)) ?_
  refine a7 (A6 _ _) ?_
  refine u2 (fun c_1 => ?_) (fun c_1 => ?_)
  ·replace h := h.1 c_1
   exact hR 1 H _ I h
  ·replace h := h.2 c_1
   exact hR 0 H _ I h
theorem b7b (x0 : Int) (x1 : Int) {H : Hp} {K : Int → Hp → Prop} (h : a3M x0 x1 H K) : a3A x0 x1 H K := by
 intro w I
 refine f4E ?_
 refine b5D x0 x1 I (fun r0 H' w' I' hk => ⟨H', _, I', r0, rfl, rfl, hk⟩) h
def a8Q (x0 : Int) (x1 : Int) (H : Hp) (K : Int → Int → Hp → Prop) : Prop :=
 a3A x0 x1 H (fun (K2 : Int) (H_1 : Hp) =>
 (¬ (K2 = 0) →
 K 0 K2 H_1) ∧
 (K2 = 0 →
 (x1 : Int) ≠ 0 ∧
 K (IntKind.wrap .i64 (Int.tdiv x0 x1)) 0 H_1))
theorem c0E (x0 : Int) (x1 : Int) {K : Int → Int → Hp → Prop} (I : Inv w0 ps0 H0 H [] w) (hR : ∀ (r0 : Int) (r1 : Int) (H' : Hp) (w' : World) (_ : Inv w0 ps0 H0 H' [] w') (_ : K r0 r1 H'), R (Value.tuple #[(vi r0), (vi r1)]) w') (h : a8Q x0 x1 H K) : F29 (vi x0) (vi x1) w R E := by
 unfold a8Q at h
 unfold F29
 refine f2 (cap := []) (fun args w => Tryd.call49 args w) ?_
 refine i8 (Fi := []) (Fr := []) I (h) (fun v_5 H_1 F_6 w_2 I_3 l_8 k_4 q_7 => ?_) (fun _ _ _ _ _ q => q.elim)
 obtain ⟨K2, rfl, rfl, h⟩ := q_7
 refine a7 (T0 _ _ _ _ _ _) ?_
 refine a0s (fun b2C => ?_) (fun b2C => ?_)
 ·replace h := h.1 b2C
  exact hR 0 K2 H_1 _ I_3 h
 ·replace h := h.2 b2C
  obtain ⟨b2S, h⟩ := h
  refine a7 (e8u _ _ _ _ _ _ b2S) ?_
  exact hR (IntKind.wrap .i64 (Int.tdiv x0 x1)) 0 H_1 _ I_3 h
theorem c1V (x0 : Int) (x1 : Int) {H : Hp} {K : Int → Int → Hp → Prop} (h : a8Q x0 x1 H K) : a6m x0 x1 H K := by
 intro w I
 refine f4m ?_
 refine c0E x0 x1 I (fun r0 r1 H' w' I' hk => ⟨H', _, I', r0, r1, rfl, rfl, hk⟩) h
def a8R (x0 : Int) (x1 : Int) (H : Hp) (K : Int → Int → Hp → Prop) : Prop :=
 a3A x0 x1 H (fun (K2 : Int) (H_1 : Hp) =>
 (¬ (K2 = 0) →
 K 0 K2 H_1) ∧
 (K2 = 0 →
 (x1 : Int) ≠ 0 ∧
 K (Int.tmod x0 x1) 0 H_1))
theorem c0F (x0 : Int) (x1 : Int) {K : Int → Int → Hp → Prop} (I : Inv w0 ps0 H0 H [] w) (hR : ∀ (r0 : Int) (r1 : Int) (H' : Hp) (w' : World) (_ : Inv w0 ps0 H0 H' [] w') (_ : K r0 r1 H'), R (Value.tuple #[(vi r0), (vi r1)]) w') (h : a8R x0 x1 H K) : F30 (vi x0) (vi x1) w R E := by
 unfold a8R at h
 unfold F30
 refine f2 (cap := []) (fun args w => Tryd.call49 args w) ?_
 refine i8 (Fi := []) (Fr := []) I (h) (fun v_5 H_1 F_6 w_2 I_3 l_8 k_4 q_7 => ?_) (fun _ _ _ _ _ q => q.elim)
 obtain ⟨K2, rfl, rfl, h⟩ := q_7
 refine a7 (T0 _ _ _ _ _ _) ?_
 refine a0s (fun b2C => ?_) (fun b2C => ?_)
 ·replace h := h.1 b2C
  exact hR 0 K2 H_1 _ I_3 h
 ·replace h := h.2 b2C
  obtain ⟨b2S, h⟩ := h
  refine a7 (e8v _ _ _ _ _ _ b2S) ?_
  exact hR (Int.tmod x0 x1) 0 H_1 _ I_3 h
theorem c1W (x0 : Int) (x1 : Int) {H : Hp} {K : Int → Int → Hp → Prop} (h : a8R x0 x1 H K) : a6n x0 x1 H K := by
 intro w I
 refine f4o ?_
 refine c0F x0 x1 I (fun r0 r1 H' w' I' hk => ⟨H', _, I', r0, r1, rfl, rfl, hk⟩) h
def a2W (H : Hp) (K : Hp → Prop) : Prop :=
 K H
theorem b4S {K : Hp → Prop} (I : Inv w0 ps0 H0 H [] w) (hR : ∀ (H' : Hp) (w' : World) (_ : Inv w0 ps0 H0 H' [] w') (_ : K H'), R (Value.agg #[(fC 123), (fC 124), (fC 125), (fC 126), (fC 127), (fC 128), (fC 129)]) w') (h : a2W H K) : d3O w R E := by
 unfold a2W at h
 unfold d3O
 refine y8 I Tryd.zeroValue171 (cs := [Value.nilFunc, Value.nilFunc, Value.nilFunc, Value.nilFunc, Value.nilFunc, Value.nilFunc, Value.nilFunc]) rfl fun g_2 w_3 I_4 k_5 => ?_
 refine a7 a6U ?_
 refine m6 I_4 Tryd.sizeOf171 (vs := [(fC 123), (fC 124), (fC 125), (fC 126), (fC 127), (fC 128), (fC 129)]) (cs' := [(fC 123), (fC 124), (fC 125), (fC 126), (fC 127), (fC 128), (fC 129)]) rfl rfl (nb rfl) rfl rfl fun w_6 I_7 k_8 => ?_
 refine K6 Tryd.isAgg171 Tryd.sizeOf171 rfl (I_7.at1 (o := 0) (vs := [(fC 123), (fC 124), (fC 125), (fC 126), (fC 127), (fC 128), (fC 129)]) (nb rfl) rfl) ?_
 exact hR H _ I_7.drop h
theorem b5E {H : Hp} {K : Hp → Prop} (h : a2W H K) : a5P H K := by
 intro w I
 refine e6o ?_
 refine b4S I (fun H' w' I' hk => ⟨H', _, I', rfl, rfl, hk⟩) h
def a1F (x0 : Int) (x1 : Int) (H : Hp) (K : Bool → Hp → Prop) : Prop :=
 K (decide (x0 < x1)) H
theorem b2W (x0 : Int) (x1 : Int) {K : Bool → Hp → Prop} (I : Inv w0 ps0 H0 H [] w) (hR : ∀ (r0 : Bool) (H' : Hp) (w' : World) (_ : Inv w0 ps0 H0 H' [] w') (_ : K r0 H'), R (vB r0) w') (h : a1F x0 x1 H K) : d3P (vi x0) (vi x1) w R E := by
 unfold a1F at h
 unfold d3P
 refine a7 (F4 _ _ _ _ _ _) ?_
 exact hR (decide (x0 < x1)) H _ I h
theorem b3A (x0 : Int) (x1 : Int) {H : Hp} {K : Bool → Hp → Prop} (h : a1F x0 x1 H K) : a7X x0 x1 H K := by
 intro w I
 refine e6q ?_
 refine b2W x0 x1 I (fun r0 H' w' I' hk => ⟨H', _, I', r0, rfl, rfl, hk⟩) h
def a1G (x0 : Int) (x1 : Int) (H : Hp) (K : Bool → Hp → Prop) : Prop :=
 K (decide (x0 ≤ x1)) H
theorem b2X (x0 : Int) (x1 : Int) {K : Bool → Hp → Prop} (I : Inv w0 ps0 H0 H [] w) (hR : ∀ (r0 : Bool) (H' : Hp) (w' : World) (_ : Inv w0 ps0 H0 H' [] w') (_ : K r0 H'), R (vB r0) w') (h : a1G x0 x1 H K) : d3Q (vi x0) (vi x1) w R E := by
 unfold a1G at h
 unfold d3Q
 refine a7 (b1S _ _ _ _ _ _) ?_
 exact hR (decide (x0 ≤ x1)) H _ I h
theorem b3B (x0 : Int) (x1 : Int) {H : Hp} {K : Bool → Hp → Prop} (h : a1G x0 x1 H K) : a7Y x0 x1 H K := by
 intro w I
 refine e6s ?_
 refine b2X x0 x1 I (fun r0 H' w' I' hk => ⟨H', _, I', r0, rfl, rfl, hk⟩) h
def a1H (x0 : Int) (x1 : Int) (H : Hp) (K : Bool → Hp → Prop) : Prop :=
 K (decide (x0 = x1)) H
theorem b2Y (x0 : Int) (x1 : Int) {K : Bool → Hp → Prop} (I : Inv w0 ps0 H0 H [] w) (hR : ∀ (r0 : Bool) (H' : Hp) (w' : World) (_ : Inv w0 ps0 H0 H' [] w') (_ : K r0 H'), R (vB r0) w') (h : a1H x0 x1 H K) : d3R (vi x0) (vi x1) w R E := by
 unfold a1H at h
 unfold d3R
 refine a7 (m9 _ _ _ _ _ _) ?_
 exact hR (decide (x0 = x1)) H _ I h
theorem b3C (x0 : Int) (x1 : Int) {H : Hp} {K : Bool → Hp → Prop} (h : a1H x0 x1 H K) : a7Z x0 x1 H K := by
 intro w I
 refine e6u ?_
 refine b2Y x0 x1 I (fun r0 H' w' I' hk => ⟨H', _, I', r0, rfl, rfl, hk⟩) h
def a1I (x0 : Int) (x1 : Int) (H : Hp) (K : Bool → Hp → Prop) : Prop :=
 K (!decide (x0 = x1)) H
theorem b2Z (x0 : Int) (x1 : Int) {K : Bool → Hp → Prop} (I : Inv w0 ps0 H0 H [] w) (hR : ∀ (r0 : Bool) (H' : Hp) (w' : World) (_ : Inv w0 ps0 H0 H' [] w') (_ : K r0 H'), R (vB r0) w') (h : a1I x0 x1 H K) : d3S (vi x0) (vi x1) w R E := by
 unfold a1I at h
 unfold d3S
 refine a7 (T0 _ _ _ _ _ _) ?_
 exact hR (!decide (x0 = x1)) H _ I h
theorem b3D (x0 : Int) (x1 : Int) {H : Hp} {K : Bool → Hp → Prop} (h : a1I x0 x1 H K) : a8a x0 x1 H K := by
 intro w I
 refine e6w ?_
 refine b2Z x0 x1 I (fun r0 H' w' I' hk => ⟨H', _, I', r0, rfl, rfl, hk⟩) h
def a1J (x0 : Int) (x1 : Int) (H : Hp) (K : Bool → Hp → Prop) : Prop :=
 K (decide (x1 < x0)) H
theorem b3a (x0 : Int) (x1 : Int) {K : Bool → Hp → Prop} (I : Inv w0 ps0 H0 H [] w) (hR : ∀ (r0 : Bool) (H' : Hp) (w' : World) (_ : Inv w0 ps0 H0 H' [] w') (_ : K r0 H'), R (vB r0) w') (h : a1J x0 x1 H K) : d3T (vi x0) (vi x1) w R E := by
 unfold a1J at h
 unfold d3T
 refine a7 (a7h _ _ _ _ _ _) ?_
 exact hR (decide (x1 < x0)) H _ I h
theorem b3E (x0 : Int) (x1 : Int) {H : Hp} {K : Bool → Hp → Prop} (h : a1J x0 x1 H K) : a8b x0 x1 H K := by
 intro w I
 refine e6y ?_
 refine b3a x0 x1 I (fun r0 H' w' I' hk => ⟨H', _, I', r0, rfl, rfl, hk⟩) h
def a1K (x0 : Int) (x1 : Int) (H : Hp) (K : Bool → Hp → Prop) : Prop :=
 K (decide (x1 ≤ x0)) H
theorem b3b (x0 : Int) (x1 : Int) {K : Bool → Hp → Prop} (I : Inv w0 ps0 H0 H [] w) (hR : ∀ (r0 : Bool) (H' : Hp) (w' : World) (_ : Inv w0 ps0 H0 H' [] w') (_ : K r0 H'), R (vB r0) w') (h : a1K x0 x1 H K) : d3U (vi x0) (vi x1) w R E := by
 unfold a1K at h
 unfold d3U
 refine a7 (b7X _ _ _ _ _ _) ?_
 exact hR (decide (x1 ≤ x0)) H _ I h
theorem b3F (x0 : Int) (x1 : Int) {H : Hp} {K : Bool → Hp → Prop} (h : a1K x0 x1 H K) : a8c x0 x1 H K := by
 intro w I
 refine e6A ?_
 refine b3b x0 x1 I (fun r0 H' w' I' hk => ⟨H', _, I', r0, rfl, rfl, hk⟩) h
def a6C (x0 : Int) (x1 : Int) (x2 : Int) (H : Hp) (K : Bool → Hp → Prop) : Prop :=
 (((decide (x0 < 1)) || (decide (6 < x0))) = true →
 K false H) ∧
 (((decide (x0 < 1)) || (decide (6 < x0))) = false →
 a5P H (fun (H_1 : Hp) =>
 (0 : Int) ≤ x0 ∧ (x0 : Int) < 7 ∧
 ∃ b4T : Bool → Hp → Prop, (∀ (a2A : Bool) (a4G : Hp), b4T a2A a4G →
 K a2A a4G) ∧ ((x0 : Int) = 0 → b8C x1 x2 H_1 b4T) ∧ ((x0 : Int) = 1 → a7X x1 x2 H_1 b4T) ∧ ((x0 : Int) = 2 → a7Y x1 x2 H_1 b4T) ∧ ((x0 : Int) = 3 → a7Z x1 x2 H_1 b4T) ∧ ((x0 : Int) = 4 → a8a x1 x2 H_1 b4T) ∧ ((x0 : Int) = 5 → a8b x1 x2 H_1 b4T) ∧ ((x0 : Int) = 6 → a8c x1 x2 H_1 b4T)))
theorem c0G (x0 : Int) (x1 : Int) (x2 : Int) {K : Bool → Hp → Prop} (I : Inv w0 ps0 H0 H [] w) (hR : ∀ (r0 : Bool) (H' : Hp) (w' : World) (_ : Inv w0 ps0 H0 H' [] w') (_ : K r0 H'), R (vB r0) w') (h : a6C x0 x1 x2 H K) : F75 (vi x0) (vi x1) (vi x2) w R E := by
 unfold a6C at h
 unfold F75
 refine a7 (F4 _ _ _ _ _ _) ?_
 simp only [O5]
 refine a7 (Pu.g fun hb => by have f4 := hb; simp only [p1 f4]; exact (a7h _ _ _ _ _ _)) ?_
 refine a7 (a5Z _ _) ?_
 refine u2 (fun c0Z => ?_) (fun c0Z => ?_)
 ·replace h := h.1 c0Z
  exact hR false H _ I h
 ·replace h := h.2 c0Z
  refine f2 (cap := []) (fun args w => Tryd.call110 args w) ?_
  refine i8 (Fi := []) (Fr := []) I (h) (fun v_5 H_1 F_6 w_2 I_3 l_8 k_4 q_7 => ?_) (fun _ _ _ _ _ q => q.elim)
  obtain ⟨rfl, rfl, h⟩ := q_7
  obtain ⟨b2S, d3W, h⟩ := h
  refine a7 (X4 _ _ b2S d3W) ?_
  obtain ⟨b4T, a8H, c1K, c9f, c1L, b3c, g6h, e1f, a4d⟩ := h
  refine e4k (D := fun b7c V0 => ∃ (a2A : Bool) (a4G : Hp), b7c = (vB a2A) ∧ (Inv w0 ps0 H0 a4G [] V0) ∧ (∀ i, i < w_2.heap.size → ¬ inF [] i → V0.heap[i]? = w_2.heap[i]?) ∧ Hle H_1 a4G ∧ (b4T a2A a4G)) ?_ ?_
  ·obtain e | e | e | e | e | e | e := (by omega : (x0 : Int) = 0 ∨ (x0 : Int) = 1 ∨ (x0 : Int) = 2 ∨ (x0 : Int) = 3 ∨ (x0 : Int) = 4 ∨ (x0 : Int) = 5 ∨ (x0 : Int) = 6)
   ·replace h := c1K e
    refine b3O (s' := xCall (fC 123) [(vi x1), (vi x2)]) (by rw [e]; rfl) ?_
    refine f2 (cap := []) (fun args w => Tryd.call123 args w) ?_
    refine i8 (Fi := []) (Fr := []) I_3 (h) (fun b7c a4G c5o V0 J6 a5M a1w b0k => ?_) (fun _ _ _ _ _ q => q.elim)
    obtain ⟨a2A, rfl, rfl, h⟩ := b0k
    exact ⟨a2A, a4G, rfl, J6, a1w, a5M, h⟩
   ·replace h := c9f e
    refine b3O (s' := xCall (fC 124) [(vi x1), (vi x2)]) (by rw [e]; rfl) ?_
    refine f2 (cap := []) (fun args w => Tryd.call124 args w) ?_
    refine i8 (Fi := []) (Fr := []) I_3 (h) (fun b7c a4G c5o V0 J6 a5M a1w b0k => ?_) (fun _ _ _ _ _ q => q.elim)
    obtain ⟨a2A, rfl, rfl, h⟩ := b0k
    exact ⟨a2A, a4G, rfl, J6, a1w, a5M, h⟩
   ·replace h := c1L e
    refine b3O (s' := xCall (fC 125) [(vi x1), (vi x2)]) (by rw [e]; rfl) ?_
    refine f2 (cap := []) (fun args w => Tryd.call125 args w) ?_
    refine i8 (Fi := []) (Fr := []) I_3 (h) (fun b7c a4G c5o V0 J6 a5M a1w b0k => ?_) (fun _ _ _ _ _ q => q.elim)
    obtain ⟨a2A, rfl, rfl, h⟩ := b0k
    exact ⟨a2A, a4G, rfl, J6, a1w, a5M, h⟩
   ·replace h := b3c e
    refine b3O (s' := xCall (fC 126) [(vi x1), (vi x2)]) (by rw [e]; rfl) ?_
    refine f2 (cap := []) (fun args w => Tryd.call126 args w) ?_
    refine i8 (Fi := []) (Fr := []) I_3 (h) (fun b7c a4G c5o V0 J6 a5M a1w b0k => ?_) (fun _ _ _ _ _ q => q.elim)
    obtain ⟨a2A, rfl, rfl, h⟩ := b0k
    exact ⟨a2A, a4G, rfl, J6, a1w, a5M, h⟩
   ·replace h := g6h e
    refine b3O (s' := xCall (fC 127) [(vi x1), (vi x2)]) (by rw [e]; rfl) ?_
    refine f2 (cap := []) (fun args w => Tryd.call127 args w) ?_
    refine i8 (Fi := []) (Fr := []) I_3 (h) (fun b7c a4G c5o V0 J6 a5M a1w b0k => ?_) (fun _ _ _ _ _ q => q.elim)
    obtain ⟨a2A, rfl, rfl, h⟩ := b0k
    exact ⟨a2A, a4G, rfl, J6, a1w, a5M, h⟩
   ·replace h := e1f e
    refine b3O (s' := xCall (fC 128) [(vi x1), (vi x2)]) (by rw [e]; rfl) ?_
    refine f2 (cap := []) (fun args w => Tryd.call128 args w) ?_
    refine i8 (Fi := []) (Fr := []) I_3 (h) (fun b7c a4G c5o V0 J6 a5M a1w b0k => ?_) (fun _ _ _ _ _ q => q.elim)
    obtain ⟨a2A, rfl, rfl, h⟩ := b0k
    exact ⟨a2A, a4G, rfl, J6, a1w, a5M, h⟩
   ·replace h := a4d e
    refine b3O (s' := xCall (fC 129) [(vi x1), (vi x2)]) (by rw [e]; rfl) ?_
    refine f2 (cap := []) (fun args w => Tryd.call129 args w) ?_
    refine i8 (Fi := []) (Fr := []) I_3 (h) (fun b7c a4G c5o V0 J6 a5M a1w b0k => ?_) (fun _ _ _ _ _ q => q.elim)
    obtain ⟨a2A, rfl, rfl, h⟩ := b0k
    exact ⟨a2A, a4G, rfl, J6, a1w, a5M, h⟩
  ·rintro b7c V0 ⟨a2A, a4G, rfl, J6, a1w, a5M, h⟩
   replace h := a8H _ _ h
   exact hR a2A a4G _ J6 h
theorem c1X (x0 : Int) (x1 : Int) (x2 : Int) {H : Hp} {K : Bool → Hp → Prop} (h : a6C x0 x1 x2 H K) : a8F x0 x1 x2 H K := by
 intro w I
 refine f4G ?_
 refine c0G x0 x1 x2 I (fun r0 H' w' I' hk => ⟨H', _, I', r0, rfl, rfl, hk⟩) h
end Go.Proofs.YtnhkdkcgdcgmdaaDoor
