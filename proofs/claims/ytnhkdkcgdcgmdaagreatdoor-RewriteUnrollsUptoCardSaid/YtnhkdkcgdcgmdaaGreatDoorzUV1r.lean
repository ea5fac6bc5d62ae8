/- Typed formulas of the program's functions that few laws need; printed by lift.py off the code. -/
import Derived.Test.YtnhkdkcgdcgmdaaGreatDoorzUV1
import Derived.Test.YtnhkdkcgdcgmdaaGreatDoorzUG1r
namespace Go.Proofs.YtnhkdkcgdcgmdaaGreatDoor
open Go.RowKit
set_option maxRecDepth 100000
set_option maxHeartbeats 2000000
variable {w0 w : World} {ps0 : Nat → Prop} {H0 H : Hp} {R : RT} {E : Pan}
def b0z (x0 : Int) (x1 : Int) (H : Hp) (K : Int → Int → Hp → Prop) : Prop :=
 ((((decide (x0 < 0)) != (decide (x1 < 0))) && ((decide ((IntKind.wrap .i64 (x0 - x1)) < 0)) != (decide (x0 < 0)))) = true →
 K 0 1 H) ∧
 ((((decide (x0 < 0)) != (decide (x1 < 0))) && ((decide ((IntKind.wrap .i64 (x0 - x1)) < 0)) != (decide (x0 < 0)))) = false →
 K (IntKind.wrap .i64 (x0 - x1)) 0 H)
theorem c8g (x0 : Int) (x1 : Int) {K : Int → Int → Hp → Prop} (I : Inv w0 ps0 H0 H [] w) (hR : ∀ (r0 : Int) (r1 : Int) (H' : Hp) (w' : World) (_ : Inv w0 ps0 H0 H' [] w') (_ : K r0 r1 H'), R (Value.tuple #[(vi r0), (vi r1)]) w') (h : b0z x0 x1 H K) : e7n (vi x0) (vi x1) w R E := by
 unfold b0z at h
 unfold e7n
 refine a7 (b0N _ _ _ _ _ _) ?_
 refine a7 (v7 _ _ _ _ _ _) ?_
 refine a7 (v7 _ _ _ _ _ _) ?_
 refine a7 (c2E _ _ _ _) ?_
 simp only [z2]
 refine a7 (Pu.g fun hb => by have d7 := hb; simp only [i6 d7]; exact (v7 _ _ _ _ _ _)) ?_
 refine a7 (Pu.g fun hb => by have d7 := hb; simp only [i6 d7]; exact (v7 _ _ _ _ _ _)) ?_
 refine a7 (Pu.g fun hb => by have d7 := hb; simp only [i6 d7]; exact (c2E _ _ _ _)) ?_
 refine a7 (w8 _ _) ?_
 refine o2 (fun c_1 => ?_) (fun c_1 => ?_)
 ·replace h := h.1 c_1
  exact hR 0 1 H _ I h
 ·replace h := h.2 c_1
  exact hR (IntKind.wrap .i64 (x0 - x1)) 0 H _ I h
theorem c9V (x0 : Int) (x1 : Int) {H : Hp} {K : Int → Int → Hp → Prop} (h : b0z x0 x1 H K) : a7Z x0 x1 H K := by
 intro w I
 refine g4h ?_
 refine c8g x0 x1 I (fun r0 r1 H' w' I' hk => ⟨H', _, I', r0, r1, rfl, rfl, hk⟩) h
def b0A (x0 : Int) (H : Hp) (K : Int → Int → Hp → Prop) : Prop :=
 a7Z 0 x0 H (fun (J8 : Int) (e7D : Int) (H_1 : Hp) =>
 K J8 e7D H_1)
theorem c8h (x0 : Int) {K : Int → Int → Hp → Prop} (I : Inv w0 ps0 H0 H [] w) (hR : ∀ (r0 : Int) (r1 : Int) (H' : Hp) (w' : World) (_ : Inv w0 ps0 H0 H' [] w') (_ : K r0 r1 H'), R (Value.tuple #[(vi r0), (vi r1)]) w') (h : b0A x0 H K) : e7l (vi x0) w R E := by
 unfold b0A at h
 unfold e7l
 refine f7 (cap := []) (fun args w => Tryz.call114 args w) ?_
 refine k8 (Fi := []) (Fr := []) I (h) (fun v_5 H_1 F_6 w_2 I_3 l_8 k_4 q_7 => ?_) (fun _ _ _ _ _ q => q.elim)
 obtain ⟨J8, e7D, rfl, rfl, h⟩ := q_7
 refine a7 (r6 _ _ (vi J8) rfl) ?_
 refine a7 (r6 _ _ (vi e7D) rfl) ?_
 exact hR J8 e7D H_1 _ I_3 h
theorem c9W (x0 : Int) {H : Hp} {K : Int → Int → Hp → Prop} (h : b0A x0 H K) : b0g x0 H K := by
 intro w I
 refine g4d ?_
 refine c8h x0 I (fun r0 r1 H' w' I' hk => ⟨H', _, I', r0, r1, rfl, rfl, hk⟩) h
def b0B (x0 : Int) (x1 : Int) (H : Hp) (K : Int → Int → Hp → Prop) : Prop :=
 ((((decide (x0 < 0)) == (decide (x1 < 0))) && ((decide ((IntKind.wrap .i64 (x0 + x1)) < 0)) != (decide (x0 < 0)))) = true →
 K 0 1 H) ∧
 ((((decide (x0 < 0)) == (decide (x1 < 0))) && ((decide ((IntKind.wrap .i64 (x0 + x1)) < 0)) != (decide (x0 < 0)))) = false →
 K (IntKind.wrap .i64 (x0 + x1)) 0 H)
theorem c8i (x0 : Int) (x1 : Int) {K : Int → Int → Hp → Prop} (I : Inv w0 ps0 H0 H [] w) (hR : ∀ (r0 : Int) (r1 : Int) (H' : Hp) (w' : World) (_ : Inv w0 ps0 H0 H' [] w') (_ : K r0 r1 H'), R (Value.tuple #[(vi r0), (vi r1)]) w') (h : b0B x0 x1 H K) : e7m (vi x0) (vi x1) w R E := by
 unfold b0B at h
 unfold e7m
 refine a7 (u7 _ _ _ _ _ _) ?_
 refine a7 (v7 _ _ _ _ _ _) ?_
 refine a7 (v7 _ _ _ _ _ _) ?_
 refine a7 (f3l _ _ _ _) ?_
 simp only [z2]
 refine a7 (Pu.g fun hb => by have d7 := hb; simp only [i6 d7]; exact (v7 _ _ _ _ _ _)) ?_
 refine a7 (Pu.g fun hb => by have d7 := hb; simp only [i6 d7]; exact (v7 _ _ _ _ _ _)) ?_
 refine a7 (Pu.g fun hb => by have d7 := hb; simp only [i6 d7]; exact (c2E _ _ _ _)) ?_
 refine a7 (w8 _ _) ?_
 refine o2 (fun c_1 => ?_) (fun c_1 => ?_)
 ·replace h := h.1 c_1
  exact hR 0 1 H _ I h
 ·replace h := h.2 c_1
  exact hR (IntKind.wrap .i64 (x0 + x1)) 0 H _ I h
theorem c9X (x0 : Int) (x1 : Int) {H : Hp} {K : Int → Int → Hp → Prop} (h : b0B x0 x1 H K) : b0h x0 x1 H K := by
 intro w I
 refine g4f ?_
 refine c8i x0 x1 I (fun r0 r1 H' w' I' hk => ⟨H', _, I', r0, r1, rfl, rfl, hk⟩) h
def a9G (x0 : Int) (H : Hp) (K : Int → Hp → Prop) : Prop :=
 (x0 < 0 →
 K (IntKind.wrap .u64 (0 - (IntKind.wrap .u64 x0))) H) ∧
 (¬ (x0 < 0) →
 K (IntKind.wrap .u64 x0) H)
theorem c6v (x0 : Int) {K : Int → Hp → Prop} (I : Inv w0 ps0 H0 H [] w) (hR : ∀ (r0 : Int) (H' : Hp) (w' : World) (_ : Inv w0 ps0 H0 H' [] w') (_ : K r0 H'), R (Value.int .u64 r0) w') (h : a9G x0 H K) : e7v (vi x0) w R E := by
 unfold a9G at h
 unfold e7v
 refine a7 (v7 _ _ _ _ _ _) ?_
 refine k4 (fun c_1 => ?_) (fun c_1 => ?_)
 ·replace h := h.1 c_1
  refine a7 (c8y _ _) ?_
  refine a7 (d5N _ _) ?_
  exact hR (IntKind.wrap .u64 (0 - (IntKind.wrap .u64 x0))) H _ I h
 ·replace h := h.2 c_1
  refine a7 (c8y _ _) ?_
  exact hR (IntKind.wrap .u64 x0) H _ I h
theorem c8j (x0 : Int) {H : Hp} {K : Int → Hp → Prop} (h : a9G x0 H K) : a9y x0 H K := by
 intro w I
 refine g4t ?_
 refine c6v x0 I (fun r0 H' w' I' hk => ⟨H', _, I', r0, rfl, rfl, hk⟩) h
def a9H (x0 : Int) (x1 : Int) (H : Hp) (K : Int → Int → Hp → Prop) : Prop :=
 K (IntKind.wrap .u64 ((IntKind.wrap .u64 ((IntKind.wrap .u64 ((Int.fdiv x0 (2 ^ 32)) * (Int.fdiv x1 (2 ^ 32)))) + (Int.fdiv (IntKind.wrap .u64 ((IntKind.wrap .u64 ((Int.fdiv x0 (2 ^ 32)) * (bandI .u64 x1 4294967295))) + (Int.fdiv (IntKind.wrap .u64 ((bandI .u64 x0 4294967295) * (bandI .u64 x1 4294967295))) (2 ^ 32)))) (2 ^ 32)))) + (Int.fdiv (IntKind.wrap .u64 ((bandI .u64 (IntKind.wrap .u64 ((IntKind.wrap .u64 ((Int.fdiv x0 (2 ^ 32)) * (bandI .u64 x1 4294967295))) + (Int.fdiv (IntKind.wrap .u64 ((bandI .u64 x0 4294967295) * (bandI .u64 x1 4294967295))) (2 ^ 32)))) 4294967295) + (IntKind.wrap .u64 ((bandI .u64 x0 4294967295) * (Int.fdiv x1 (2 ^ 32)))))) (2 ^ 32)))) (IntKind.wrap .u64 (x0 * x1)) H
theorem c6w (x0 : Int) (x1 : Int) {K : Int → Int → Hp → Prop} (I : Inv w0 ps0 H0 H [] w) (hR : ∀ (r0 : Int) (r1 : Int) (H' : Hp) (w' : World) (_ : Inv w0 ps0 H0 H' [] w') (_ : K r0 r1 H'), R (Value.tuple #[(Value.int .u64 r0), (Value.int .u64 r1)]) w') (h : a9H x0 x1 H K) : e7t (Value.int .u64 x0) (Value.int .u64 x1) w R E := by
 unfold a9H at h
 unfold e7t
 refine a7 (d2J _ _ _ _ _ _) ?_
 refine a7 (c4K _ _ _ _ _ _ _ (by decide) (by decide)) ?_
 refine a7 (d2J _ _ _ _ _ _) ?_
 refine a7 (c4K _ _ _ _ _ _ _ (by decide) (by decide)) ?_
 refine a7 (b8j _ _ _ _ _ _) ?_
 refine a7 (b8j _ _ _ _ _ _) ?_
 refine a7 (c4K _ _ _ _ _ _ _ (by decide) (by decide)) ?_
 refine a7 (u7 _ _ _ _ _ _) ?_
 refine a7 (d2J _ _ _ _ _ _) ?_
 refine a7 (c4K _ _ _ _ _ _ _ (by decide) (by decide)) ?_
 refine a7 (b8j _ _ _ _ _ _) ?_
 refine a7 (u7 _ _ _ _ _ _) ?_
 refine a7 (b8j _ _ _ _ _ _) ?_
 refine a7 (u7 _ _ _ _ _ _) ?_
 refine a7 (c4K _ _ _ _ _ _ _ (by decide) (by decide)) ?_
 refine a7 (u7 _ _ _ _ _ _) ?_
 refine a7 (b8j _ _ _ _ _ _) ?_
 exact hR (IntKind.wrap .u64 ((IntKind.wrap .u64 ((IntKind.wrap .u64 ((Int.fdiv x0 (2 ^ 32)) * (Int.fdiv x1 (2 ^ 32)))) + (Int.fdiv (IntKind.wrap .u64 ((IntKind.wrap .u64 ((Int.fdiv x0 (2 ^ 32)) * (bandI .u64 x1 4294967295))) + (Int.fdiv (IntKind.wrap .u64 ((bandI .u64 x0 4294967295) * (bandI .u64 x1 4294967295))) (2 ^ 32)))) (2 ^ 32)))) + (Int.fdiv (IntKind.wrap .u64 ((bandI .u64 (IntKind.wrap .u64 ((IntKind.wrap .u64 ((Int.fdiv x0 (2 ^ 32)) * (bandI .u64 x1 4294967295))) + (Int.fdiv (IntKind.wrap .u64 ((bandI .u64 x0 4294967295) * (bandI .u64 x1 4294967295))) (2 ^ 32)))) 4294967295) + (IntKind.wrap .u64 ((bandI .u64 x0 4294967295) * (Int.fdiv x1 (2 ^ 32)))))) (2 ^ 32)))) (IntKind.wrap .u64 (x0 * x1)) H _ I h
theorem c8k (x0 : Int) (x1 : Int) {H : Hp} {K : Int → Int → Hp → Prop} (h : a9H x0 x1 H K) : b2A x0 x1 H K := by
 intro w I
 refine g4r ?_
 refine c6w x0 x1 I (fun r0 r1 H' w' I' hk => ⟨H', _, I', r0, r1, rfl, rfl, hk⟩) h
def a3O (d3C : Int) (c9L : Int) (h9L : Int) (h9M : Int) (b2H : Int) (H : Hp) (K : Int → Int → Hp → Prop) : Prop :=
 (((!decide (h9L = 0)) || (decide (b2H < h9M))) = true →
 K 0 1 H) ∧
 (((!decide (h9L = 0)) || (decide (b2H < h9M))) = false →
 K (IntKind.wrap .i64 (d3C * c9L)) 0 H)
def b0C (x0 : Int) (x1 : Int) (H : Hp) (K : Int → Int → Hp → Prop) : Prop :=
 a9y x0 H (fun (J8 : Int) (H_1 : Hp) =>
 a9y x1 H_1 (fun (A4 : Int) (a4w : Hp) =>
 b2A J8 A4 a4w (fun (K4 : Int) (c7y : Int) (X7 : Hp) =>
 (((decide (x0 < 0)) != (decide (x1 < 0))) = true →
 a3O x0 x1 K4 c7y (IntKind.wrap .u64 (9223372036854775807 + 1)) X7 K) ∧
 (((decide (x0 < 0)) != (decide (x1 < 0))) = false →
 a3O x0 x1 K4 c7y 9223372036854775807 X7 K))))
theorem c8l (x0 : Int) (x1 : Int) {K : Int → Int → Hp → Prop} (I : Inv w0 ps0 H0 H [] w) (hR : ∀ (r0 : Int) (r1 : Int) (H' : Hp) (w' : World) (_ : Inv w0 ps0 H0 H' [] w') (_ : K r0 r1 H'), R (Value.tuple #[(vi r0), (vi r1)]) w') (h : b0C x0 x1 H K) : e7o (vi x0) (vi x1) w R E := by
 unfold b0C at h
 unfold e7o
 refine f7 (cap := []) (fun args w => Tryz.call147 args w) ?_
 refine k8 (Fi := []) (Fr := []) I (h) (fun v_5 H_1 F_6 w_2 I_3 l_8 k_4 q_7 => ?_) (fun _ _ _ _ _ q => q.elim)
 obtain ⟨J8, rfl, rfl, h⟩ := q_7
 refine f7 (cap := []) (fun args w => Tryz.call147 args w) ?_
 refine k8 (Fi := []) (Fr := []) I_3 (h) (fun c8M a4w e4v S5 B1 c2V b6V c2W => ?_) (fun _ _ _ _ _ q => q.elim)
 obtain ⟨A4, rfl, rfl, h⟩ := c2W
 refine f7 (cap := []) (fun args w => Tryz.call146 args w) ?_
 refine k8 (Fi := []) (Fr := []) B1 (h) (fun c2X X7 f3z t8 a0f c2Y b3g c8N => ?_) (fun _ _ _ _ _ q => q.elim)
 obtain ⟨K4, c7y, rfl, rfl, h⟩ := c8N
 refine a7 (r6 _ _ (Value.int .u64 K4) rfl) ?_
 refine a7 (r6 _ _ (Value.int .u64 c7y) rfl) ?_
 have hj1 : ∀ (b2H : Int) (H : Hp) (w : World) (_ : Inv w0 ps0 H0 H [] w) (_ : a3O x0 x1 K4 c7y b2H H K), d3O (vi x0) (vi x1) (Value.int .u64 K4) (Value.int .u64 c7y) (Value.int .u64 b2H) w R E := by
  intro b2H H w I h
  unfold d3O
  intro _
  unfold a3O at h
  refine a7 (P9 _ _ _ _ _ _) ?_
  simp only [z2]
  refine a7 (Pu.g fun hb => by have d7 := hb; simp only [i6 d7]; exact (a7Q _ _ _ _ _ _)) ?_
  refine a7 (M4 _ _) ?_
  refine o2 (fun c9Q => ?_) (fun c9Q => ?_)
  ·replace h := h.1 c9Q
   exact hR 0 1 H _ I h
  ·replace h := h.2 c9Q
   refine a7 (b8j _ _ _ _ _ _) ?_
   exact hR (IntKind.wrap .i64 (x0 * x1)) 0 H _ I h
 refine r9 fun j1 hx1 => ?_
 refine a7 (v7 _ _ _ _ _ _) ?_
 refine a7 (v7 _ _ _ _ _ _) ?_
 refine a7 (c2E _ _ _ _) ?_
 refine o2 (fun b8T => ?_) (fun b8T => ?_)
 ·replace h := h.1 b8T
  refine a7 (u7 _ _ _ _ _ _) ?_
  exact hx1 _ _ (hj1 (IntKind.wrap .u64 (9223372036854775807 + 1)) X7 _ a0f h)
 ·replace h := h.2 b8T
  exact hx1 _ _ (hj1 9223372036854775807 X7 _ a0f h)
theorem c9Y (x0 : Int) (x1 : Int) {H : Hp} {K : Int → Int → Hp → Prop} (h : b0C x0 x1 H K) : b0i x0 x1 H K := by
 intro w I
 refine g4j ?_
 refine c8l x0 x1 I (fun r0 r1 H' w' I' hk => ⟨H', _, I', r0, r1, rfl, rfl, hk⟩) h
def a7D (x0 : Int) (x1 : Int) (H : Hp) (K : Int → Hp → Prop) : Prop :=
 (x1 = 0 →
 K 2 H) ∧
 (¬ (x1 = 0) →
 (((decide (x0 = (-9223372036854775808))) && (decide (x1 = (-1)))) = true →
 K 1 H) ∧
 (((decide (x0 = (-9223372036854775808))) && (decide (x1 = (-1)))) = false →
 K 0 H))
theorem c2i (x0 : Int) (x1 : Int) {K : Int → Hp → Prop} (I : Inv w0 ps0 H0 H [] w) (hR : ∀ (r0 : Int) (H' : Hp) (w' : World) (_ : Inv w0 ps0 H0 H' [] w') (_ : K r0 H'), R (vi r0) w') (h : a7D x0 x1 H K) : e7w (vi x0) (vi x1) w R E := by
 unfold a7D at h
 unfold e7w
 refine a7 (k7 _ _ _ _ _ _) ?_
 refine k4 (fun c_2 => ?_) (fun c_2 => ?_)
 ·replace h := h.1 c_2
  exact hR 2 H _ I h
 ·replace h := h.2 c_2
  refine a7 (k7 _ _ _ _ _ _) ?_
  simp only [z2]
  refine a7 (Pu.g fun hb => by have d7 := hb; simp only [i6 d7]; exact (k7 _ _ _ _ _ _)) ?_
  refine a7 (w8 _ _) ?_
  refine o2 (fun c_1 => ?_) (fun c_1 => ?_)
  ·replace h := h.1 c_1
   exact hR 1 H _ I h
  ·replace h := h.2 c_1
   exact hR 0 H _ I h
theorem c4f (x0 : Int) (x1 : Int) {H : Hp} {K : Int → Hp → Prop} (h : a7D x0 x1 H K) : a7o x0 x1 H K := by
 intro w I
 refine g4v ?_
 refine c2i x0 x1 I (fun r0 H' w' I' hk => ⟨H', _, I', r0, rfl, rfl, hk⟩) h
def b3G (x0 : Int) (x1 : Int) (H : Hp) (K : Int → Int → Hp → Prop) : Prop :=
 a7o x0 x1 H (fun (J8 : Int) (H_1 : Hp) =>
 (¬ (J8 = 0) →
 K 0 J8 H_1) ∧
 (J8 = 0 →
 (x1 : Int) ≠ 0 ∧
 K (IntKind.wrap .i64 (Int.tdiv x0 x1)) 0 H_1))
theorem c8m (x0 : Int) (x1 : Int) {K : Int → Int → Hp → Prop} (I : Inv w0 ps0 H0 H [] w) (hR : ∀ (r0 : Int) (r1 : Int) (H' : Hp) (w' : World) (_ : Inv w0 ps0 H0 H' [] w') (_ : K r0 r1 H'), R (Value.tuple #[(vi r0), (vi r1)]) w') (h : b3G x0 x1 H K) : e7p (vi x0) (vi x1) w R E := by
 unfold b3G at h
 unfold e7p
 refine f7 (cap := []) (fun args w => Tryz.call148 args w) ?_
 refine k8 (Fi := []) (Fr := []) I (h) (fun v_5 H_1 F_6 w_2 I_3 l_8 k_4 q_7 => ?_) (fun _ _ _ _ _ q => q.elim)
 obtain ⟨J8, rfl, rfl, h⟩ := q_7
 refine a7 (P9 _ _ _ _ _ _) ?_
 refine a5o (fun b0t => ?_) (fun b0t => ?_)
 ·replace h := h.1 b0t
  exact hR 0 J8 H_1 _ I_3 h
 ·replace h := h.2 b0t
  obtain ⟨b1F, h⟩ := h
  refine a7 (g7g _ _ _ _ _ _ b1F) ?_
  exact hR (IntKind.wrap .i64 (Int.tdiv x0 x1)) 0 H_1 _ I_3 h
theorem c9Z (x0 : Int) (x1 : Int) {H : Hp} {K : Int → Int → Hp → Prop} (h : b3G x0 x1 H K) : b0j x0 x1 H K := by
 intro w I
 refine g4l ?_
 refine c8m x0 x1 I (fun r0 r1 H' w' I' hk => ⟨H', _, I', r0, r1, rfl, rfl, hk⟩) h
def b3H (x0 : Int) (x1 : Int) (H : Hp) (K : Int → Int → Hp → Prop) : Prop :=
 a7o x0 x1 H (fun (J8 : Int) (H_1 : Hp) =>
 (¬ (J8 = 0) →
 K 0 J8 H_1) ∧
 (J8 = 0 →
 (x1 : Int) ≠ 0 ∧
 K (Int.tmod x0 x1) 0 H_1))
theorem c8n (x0 : Int) (x1 : Int) {K : Int → Int → Hp → Prop} (I : Inv w0 ps0 H0 H [] w) (hR : ∀ (r0 : Int) (r1 : Int) (H' : Hp) (w' : World) (_ : Inv w0 ps0 H0 H' [] w') (_ : K r0 r1 H'), R (Value.tuple #[(vi r0), (vi r1)]) w') (h : b3H x0 x1 H K) : e7r (vi x0) (vi x1) w R E := by
 unfold b3H at h
 unfold e7r
 refine f7 (cap := []) (fun args w => Tryz.call148 args w) ?_
 refine k8 (Fi := []) (Fr := []) I (h) (fun v_5 H_1 F_6 w_2 I_3 l_8 k_4 q_7 => ?_) (fun _ _ _ _ _ q => q.elim)
 obtain ⟨J8, rfl, rfl, h⟩ := q_7
 refine a7 (P9 _ _ _ _ _ _) ?_
 refine a5o (fun b0t => ?_) (fun b0t => ?_)
 ·replace h := h.1 b0t
  exact hR 0 J8 H_1 _ I_3 h
 ·replace h := h.2 b0t
  obtain ⟨b1F, h⟩ := h
  refine a7 (g7h _ _ _ _ _ _ b1F) ?_
  exact hR (Int.tmod x0 x1) 0 H_1 _ I_3 h
theorem d0a (x0 : Int) (x1 : Int) {H : Hp} {K : Int → Int → Hp → Prop} (h : b3H x0 x1 H K) : b0k x0 x1 H K := by
 intro w I
 refine g4n ?_
 refine c8n x0 x1 I (fun r0 r1 H' w' I' hk => ⟨H', _, I', r0, r1, rfl, rfl, hk⟩) h
def a6R (H : Hp) (K : Hp → Prop) : Prop :=
 K H
theorem c1p {K : Hp → Prop} (I : Inv w0 ps0 H0 H [] w) (hR : ∀ (H' : Hp) (w' : World) (_ : Inv w0 ps0 H0 H' [] w') (_ : K H'), R (Value.agg #[(fC 149), (fC 150), (fC 151), (fC 152), (fC 153), (fC 154), (fC 155)]) w') (h : a6R H K) : e7s w R E := by
 unfold a6R at h
 unfold e7s
 refine z8 I Tryz.zeroValue177 (cs := [Value.nilFunc, Value.nilFunc, Value.nilFunc, Value.nilFunc, Value.nilFunc, Value.nilFunc, Value.nilFunc]) rfl fun g_2 w_3 I_4 k_5 => ?_
 refine a7 b0V ?_
 refine m5 I_4 Tryz.sizeOf177 (vs := [(fC 149), (fC 150), (fC 151), (fC 152), (fC 153), (fC 154), (fC 155)]) (cs' := [(fC 149), (fC 150), (fC 151), (fC 152), (fC 153), (fC 154), (fC 155)]) rfl rfl (nb rfl) rfl rfl fun w_6 I_7 k_8 => ?_
 refine J4 Tryz.isAgg177 Tryz.sizeOf177 rfl (I_7.at1 (o := 0) (vs := [(fC 149), (fC 150), (fC 151), (fC 152), (fC 153), (fC 154), (fC 155)]) (nb rfl) rfl) ?_
 exact hR H _ I_7.drop h
theorem c2j {H : Hp} {K : Hp → Prop} (h : a6R H K) : a9M H K := by
 intro w I
 refine g4p ?_
 refine c1p I (fun H' w' I' hk => ⟨H', _, I', rfl, rfl, hk⟩) h
def a5E (x0 : Int) (x1 : Int) (H : Hp) (K : Bool → Hp → Prop) : Prop :=
 K (decide (x0 < x1)) H
theorem b9F (x0 : Int) (x1 : Int) {K : Bool → Hp → Prop} (I : Inv w0 ps0 H0 H [] w) (hR : ∀ (r0 : Bool) (H' : Hp) (w' : World) (_ : Inv w0 ps0 H0 H' [] w') (_ : K r0 H'), R (vB r0) w') (h : a5E x0 x1 H K) : e7x (vi x0) (vi x1) w R E := by
 unfold a5E at h
 unfold e7x
 refine a7 (v7 _ _ _ _ _ _) ?_
 exact hR (decide (x0 < x1)) H _ I h
theorem c0e (x0 : Int) (x1 : Int) {H : Hp} {K : Bool → Hp → Prop} (h : a5E x0 x1 H K) : b2p x0 x1 H K := by
 intro w I
 refine g4x ?_
 refine b9F x0 x1 I (fun r0 H' w' I' hk => ⟨H', _, I', r0, rfl, rfl, hk⟩) h
def a5F (x0 : Int) (x1 : Int) (H : Hp) (K : Bool → Hp → Prop) : Prop :=
 K (decide (x0 ≤ x1)) H
theorem b9G (x0 : Int) (x1 : Int) {K : Bool → Hp → Prop} (I : Inv w0 ps0 H0 H [] w) (hR : ∀ (r0 : Bool) (H' : Hp) (w' : World) (_ : Inv w0 ps0 H0 H' [] w') (_ : K r0 H'), R (vB r0) w') (h : a5F x0 x1 H K) : e7y (vi x0) (vi x1) w R E := by
 unfold a5F at h
 unfold e7y
 refine a7 (b4a _ _ _ _ _ _) ?_
 exact hR (decide (x0 ≤ x1)) H _ I h
theorem c0f (x0 : Int) (x1 : Int) {H : Hp} {K : Bool → Hp → Prop} (h : a5F x0 x1 H K) : b2q x0 x1 H K := by
 intro w I
 refine g4z ?_
 refine b9G x0 x1 I (fun r0 H' w' I' hk => ⟨H', _, I', r0, rfl, rfl, hk⟩) h
def a5G (x0 : Int) (x1 : Int) (H : Hp) (K : Bool → Hp → Prop) : Prop :=
 K (decide (x0 = x1)) H
theorem b9H (x0 : Int) (x1 : Int) {K : Bool → Hp → Prop} (I : Inv w0 ps0 H0 H [] w) (hR : ∀ (r0 : Bool) (H' : Hp) (w' : World) (_ : Inv w0 ps0 H0 H' [] w') (_ : K r0 H'), R (vB r0) w') (h : a5G x0 x1 H K) : e7z (vi x0) (vi x1) w R E := by
 unfold a5G at h
 unfold e7z
 refine a7 (k7 _ _ _ _ _ _) ?_
 exact hR (decide (x0 = x1)) H _ I h
theorem c0g (x0 : Int) (x1 : Int) {H : Hp} {K : Bool → Hp → Prop} (h : a5G x0 x1 H K) : b2r x0 x1 H K := by
 intro w I
 refine g4B ?_
 refine b9H x0 x1 I (fun r0 H' w' I' hk => ⟨H', _, I', r0, rfl, rfl, hk⟩) h
def a5H (x0 : Int) (x1 : Int) (H : Hp) (K : Bool → Hp → Prop) : Prop :=
 K (!decide (x0 = x1)) H
theorem b9I (x0 : Int) (x1 : Int) {K : Bool → Hp → Prop} (I : Inv w0 ps0 H0 H [] w) (hR : ∀ (r0 : Bool) (H' : Hp) (w' : World) (_ : Inv w0 ps0 H0 H' [] w') (_ : K r0 H'), R (vB r0) w') (h : a5H x0 x1 H K) : e7A (vi x0) (vi x1) w R E := by
 unfold a5H at h
 unfold e7A
 refine a7 (P9 _ _ _ _ _ _) ?_
 exact hR (!decide (x0 = x1)) H _ I h
theorem c0h (x0 : Int) (x1 : Int) {H : Hp} {K : Bool → Hp → Prop} (h : a5H x0 x1 H K) : b2s x0 x1 H K := by
 intro w I
 refine g4D ?_
 refine b9I x0 x1 I (fun r0 H' w' I' hk => ⟨H', _, I', r0, rfl, rfl, hk⟩) h
def a5I (x0 : Int) (x1 : Int) (H : Hp) (K : Bool → Hp → Prop) : Prop :=
 K (decide (x1 < x0)) H
theorem b9J (x0 : Int) (x1 : Int) {K : Bool → Hp → Prop} (I : Inv w0 ps0 H0 H [] w) (hR : ∀ (r0 : Bool) (H' : Hp) (w' : World) (_ : Inv w0 ps0 H0 H' [] w') (_ : K r0 H'), R (vB r0) w') (h : a5I x0 x1 H K) : e7B (vi x0) (vi x1) w R E := by
 unfold a5I at h
 unfold e7B
 refine a7 (a7Q _ _ _ _ _ _) ?_
 exact hR (decide (x1 < x0)) H _ I h
theorem c0i (x0 : Int) (x1 : Int) {H : Hp} {K : Bool → Hp → Prop} (h : a5I x0 x1 H K) : b2t x0 x1 H K := by
 intro w I
 refine g4F ?_
 refine b9J x0 x1 I (fun r0 H' w' I' hk => ⟨H', _, I', r0, rfl, rfl, hk⟩) h
def a5J (x0 : Int) (x1 : Int) (H : Hp) (K : Bool → Hp → Prop) : Prop :=
 K (decide (x1 ≤ x0)) H
theorem b9K (x0 : Int) (x1 : Int) {K : Bool → Hp → Prop} (I : Inv w0 ps0 H0 H [] w) (hR : ∀ (r0 : Bool) (H' : Hp) (w' : World) (_ : Inv w0 ps0 H0 H' [] w') (_ : K r0 H'), R (vB r0) w') (h : a5J x0 x1 H K) : e7C (vi x0) (vi x1) w R E := by
 unfold a5J at h
 unfold e7C
 refine a7 (a7e _ _ _ _ _ _) ?_
 exact hR (decide (x1 ≤ x0)) H _ I h
theorem c0j (x0 : Int) (x1 : Int) {H : Hp} {K : Bool → Hp → Prop} (h : a5J x0 x1 H K) : b2u x0 x1 H K := by
 intro w I
 refine g4H ?_
 refine b9K x0 x1 I (fun r0 H' w' I' hk => ⟨H', _, I', r0, rfl, rfl, hk⟩) h
def b0D (x0 : Int) (x1 : Int) (x2 : Int) (H : Hp) (K : Bool → Hp → Prop) : Prop :=
 (((decide (x0 < 1)) || (decide (6 < x0))) = true →
 K false H) ∧
 (((decide (x0 < 1)) || (decide (6 < x0))) = false →
 a9M H (fun (H_1 : Hp) =>
 (0 : Int) ≤ x0 ∧ (x0 : Int) < 7 ∧
 ∃ c1q : Bool → Hp → Prop, (∀ (a6z : Bool) (a8A : Hp), c1q a6z a8A →
 K a6z a8A) ∧ ((x0 : Int) = 0 → c5D x1 x2 H_1 c1q) ∧ ((x0 : Int) = 1 → b2p x1 x2 H_1 c1q) ∧ ((x0 : Int) = 2 → b2q x1 x2 H_1 c1q) ∧ ((x0 : Int) = 3 → b2r x1 x2 H_1 c1q) ∧ ((x0 : Int) = 4 → b2s x1 x2 H_1 c1q) ∧ ((x0 : Int) = 5 → b2t x1 x2 H_1 c1q) ∧ ((x0 : Int) = 6 → b2u x1 x2 H_1 c1q)))
theorem c8o (x0 : Int) (x1 : Int) (x2 : Int) {K : Bool → Hp → Prop} (I : Inv w0 ps0 H0 H [] w) (hR : ∀ (r0 : Bool) (H' : Hp) (w' : World) (_ : Inv w0 ps0 H0 H' [] w') (_ : K r0 H'), R (vB r0) w') (h : b0D x0 x1 x2 H K) : F73 (vi x0) (vi x1) (vi x2) w R E := by
 unfold b0D at h
 unfold F73
 refine a7 (v7 _ _ _ _ _ _) ?_
 simp only [z2]
 refine a7 (Pu.g fun hb => by have d7 := hb; simp only [i6 d7]; exact (a7Q _ _ _ _ _ _)) ?_
 refine a7 (M4 _ _) ?_
 refine o2 (fun c8Y => ?_) (fun c8Y => ?_)
 ·replace h := h.1 c8Y
  exact hR false H _ I h
 ·replace h := h.2 c8Y
  refine f7 (cap := []) (fun args w => Tryz.call118 args w) ?_
  refine k8 (Fi := []) (Fr := []) I (h) (fun v_5 H_1 F_6 w_2 I_3 l_8 k_4 q_7 => ?_) (fun _ _ _ _ _ q => q.elim)
  obtain ⟨rfl, rfl, h⟩ := q_7
  obtain ⟨b1F, c6x, h⟩ := h
  refine a7 (a2V _ _ b1F c6x) ?_
  obtain ⟨c1q, f4W, b9o, c3O, b5R, a9m, f6N, e0x, a8c⟩ := h
  refine f9U (D := fun c4g a3F => ∃ (a6z : Bool) (a8A : Hp), c4g = (vB a6z) ∧ (Inv w0 ps0 H0 a8A [] a3F) ∧ (∀ i, i < w_2.heap.size → ¬ inF [] i → a3F.heap[i]? = w_2.heap[i]?) ∧ Hle H_1 a8A ∧ (c1q a6z a8A)) ?_ ?_
  ·obtain e | e | e | e | e | e | e := (by omega : (x0 : Int) = 0 ∨ (x0 : Int) = 1 ∨ (x0 : Int) = 2 ∨ (x0 : Int) = 3 ∨ (x0 : Int) = 4 ∨ (x0 : Int) = 5 ∨ (x0 : Int) = 6)
   ·replace h := b9o e
    refine c0r (s' := xCall (fC 149) [(vi x1), (vi x2)]) (by rw [e]; rfl) ?_
    refine f7 (cap := []) (fun args w => Tryz.call149 args w) ?_
    refine k8 (Fi := []) (Fr := []) I_3 (h) (fun c4g a8A d3P a3F P1 a8s a4W b6b => ?_) (fun _ _ _ _ _ q => q.elim)
    obtain ⟨a6z, rfl, rfl, h⟩ := b6b
    exact ⟨a6z, a8A, rfl, P1, a4W, a8s, h⟩
   ·replace h := c3O e
    refine c0r (s' := xCall (fC 150) [(vi x1), (vi x2)]) (by rw [e]; rfl) ?_
    refine f7 (cap := []) (fun args w => Tryz.call150 args w) ?_
    refine k8 (Fi := []) (Fr := []) I_3 (h) (fun c4g a8A d3P a3F P1 a8s a4W b6b => ?_) (fun _ _ _ _ _ q => q.elim)
    obtain ⟨a6z, rfl, rfl, h⟩ := b6b
    exact ⟨a6z, a8A, rfl, P1, a4W, a8s, h⟩
   ·replace h := b5R e
    refine c0r (s' := xCall (fC 151) [(vi x1), (vi x2)]) (by rw [e]; rfl) ?_
    refine f7 (cap := []) (fun args w => Tryz.call151 args w) ?_
    refine k8 (Fi := []) (Fr := []) I_3 (h) (fun c4g a8A d3P a3F P1 a8s a4W b6b => ?_) (fun _ _ _ _ _ q => q.elim)
    obtain ⟨a6z, rfl, rfl, h⟩ := b6b
    exact ⟨a6z, a8A, rfl, P1, a4W, a8s, h⟩
   ·replace h := a9m e
    refine c0r (s' := xCall (fC 152) [(vi x1), (vi x2)]) (by rw [e]; rfl) ?_
    refine f7 (cap := []) (fun args w => Tryz.call152 args w) ?_
    refine k8 (Fi := []) (Fr := []) I_3 (h) (fun c4g a8A d3P a3F P1 a8s a4W b6b => ?_) (fun _ _ _ _ _ q => q.elim)
    obtain ⟨a6z, rfl, rfl, h⟩ := b6b
    exact ⟨a6z, a8A, rfl, P1, a4W, a8s, h⟩
   ·replace h := f6N e
    refine c0r (s' := xCall (fC 153) [(vi x1), (vi x2)]) (by rw [e]; rfl) ?_
    refine f7 (cap := []) (fun args w => Tryz.call153 args w) ?_
    refine k8 (Fi := []) (Fr := []) I_3 (h) (fun c4g a8A d3P a3F P1 a8s a4W b6b => ?_) (fun _ _ _ _ _ q => q.elim)
    obtain ⟨a6z, rfl, rfl, h⟩ := b6b
    exact ⟨a6z, a8A, rfl, P1, a4W, a8s, h⟩
   ·replace h := e0x e
    refine c0r (s' := xCall (fC 154) [(vi x1), (vi x2)]) (by rw [e]; rfl) ?_
    refine f7 (cap := []) (fun args w => Tryz.call154 args w) ?_
    refine k8 (Fi := []) (Fr := []) I_3 (h) (fun c4g a8A d3P a3F P1 a8s a4W b6b => ?_) (fun _ _ _ _ _ q => q.elim)
    obtain ⟨a6z, rfl, rfl, h⟩ := b6b
    exact ⟨a6z, a8A, rfl, P1, a4W, a8s, h⟩
   ·replace h := a8c e
    refine c0r (s' := xCall (fC 155) [(vi x1), (vi x2)]) (by rw [e]; rfl) ?_
    refine f7 (cap := []) (fun args w => Tryz.call155 args w) ?_
    refine k8 (Fi := []) (Fr := []) I_3 (h) (fun c4g a8A d3P a3F P1 a8s a4W b6b => ?_) (fun _ _ _ _ _ q => q.elim)
    obtain ⟨a6z, rfl, rfl, h⟩ := b6b
    exact ⟨a6z, a8A, rfl, P1, a4W, a8s, h⟩
  ·rintro c4g a3F ⟨a6z, a8A, rfl, P1, a4W, a8s, h⟩
   replace h := f4W _ _ h
   exact hR a6z a8A _ P1 h
theorem d0b (x0 : Int) (x1 : Int) (x2 : Int) {H : Hp} {K : Bool → Hp → Prop} (h : b0D x0 x1 x2 H K) : b3e x0 x1 x2 H K := by
 intro w I
 refine h8V ?_
 refine c8o x0 x1 x2 I (fun r0 H' w' I' hk => ⟨H', _, I', r0, rfl, rfl, hk⟩) h
end Go.Proofs.YtnhkdkcgdcgmdaaGreatDoor
