/- Typed formulas of the program's functions that few laws need; printed by lift.py off the code. -/
import Derived.Test.YtnhkdkcgdcgmdaaGreatDoorzRV1
import Derived.Test.YtnhkdkcgdcgmdaaGreatDoorzRG1r
namespace Go.Proofs.YtnhkdkcgdcgmdaaGreatDoor
open Go.RowKit
set_option maxRecDepth 100000
set_option maxHeartbeats 2000000
variable {w0 w : World} {ps0 : Nat → Prop} {H0 H : Hp} {R : RT} {E : Pan}
def a6T (x0 : Int) (x1 : Int) (H : Hp) (K : Int → Int → Hp → Prop) : Prop :=
 ((((decide (x0 < 0)) != (decide (x1 < 0))) && ((decide ((IntKind.wrap .i64 (x0 - x1)) < 0)) != (decide (x0 < 0)))) = true →
 K 0 1 H) ∧
 ((((decide (x0 < 0)) != (decide (x1 < 0))) && ((decide ((IntKind.wrap .i64 (x0 - x1)) < 0)) != (decide (x0 < 0)))) = false →
 K (IntKind.wrap .i64 (x0 - x1)) 0 H)
theorem c1Y (x0 : Int) (x1 : Int) {K : Int → Int → Hp → Prop} (I : Inv w0 ps0 H0 H [] w) (hR : ∀ (r0 : Int) (r1 : Int) (H' : Hp) (w' : World) (_ : Inv w0 ps0 H0 H' [] w') (_ : K r0 r1 H'), R (Value.tuple #[(vi r0), (vi r1)]) w') (h : a6T x0 x1 H K) : d8u (vi x0) (vi x1) w R E := by
 unfold a6T at h
 unfold d8u
 refine a7 (b9c _ _ _ _ _ _) ?_
 refine a7 (D7 _ _ _ _ _ _) ?_
 refine a7 (D7 _ _ _ _ _ _) ?_
 refine a7 (b7r _ _ _ _) ?_
 simp only [O5]
 refine a7 (Pu.g fun hb => by have i5 := hb; simp only [s8 i5]; exact (D7 _ _ _ _ _ _)) ?_
 refine a7 (Pu.g fun hb => by have i5 := hb; simp only [s8 i5]; exact (D7 _ _ _ _ _ _)) ?_
 refine a7 (Pu.g fun hb => by have i5 := hb; simp only [s8 i5]; exact (b7r _ _ _ _)) ?_
 refine a7 (N6 _ _) ?_
 refine u0 (fun c_1 => ?_) (fun c_1 => ?_)
 ·replace h := h.1 c_1
  exact hR 0 1 H _ I h
 ·replace h := h.2 c_1
  exact hR (IntKind.wrap .i64 (x0 - x1)) 0 H _ I h
theorem c3l (x0 : Int) (x1 : Int) {H : Hp} {K : Int → Int → Hp → Prop} (h : a6T x0 x1 H K) : a4G x0 x1 H K := by
 intro w I
 refine f3e ?_
 refine c1Y x0 x1 I (fun r0 r1 H' w' I' hk => ⟨H', _, I', r0, r1, rfl, rfl, hk⟩) h
def a6U (x0 : Int) (H : Hp) (K : Int → Int → Hp → Prop) : Prop :=
 a4G 0 x0 H (fun (M7 : Int) (d8K : Int) (H_1 : Hp) =>
 K M7 d8K H_1)
theorem c1Z (x0 : Int) {K : Int → Int → Hp → Prop} (I : Inv w0 ps0 H0 H [] w) (hR : ∀ (r0 : Int) (r1 : Int) (H' : Hp) (w' : World) (_ : Inv w0 ps0 H0 H' [] w') (_ : K r0 r1 H'), R (Value.tuple #[(vi r0), (vi r1)]) w') (h : a6U x0 H K) : d8s (vi x0) w R E := by
 unfold a6U at h
 unfold d8s
 refine d8 (cap := []) (fun args w => Tryz.call114 args w) ?_
 refine o0 (Fi := []) (Fr := []) I (h) (fun v_5 H_1 F_6 w_2 I_3 l_8 k_4 q_7 => ?_) (fun _ _ _ _ _ q => q.elim)
 obtain ⟨M7, d8K, rfl, rfl, h⟩ := q_7
 refine a7 (m9 _ _ (vi M7) rfl) ?_
 refine a7 (m9 _ _ (vi d8K) rfl) ?_
 exact hR M7 d8K H_1 _ I_3 h
theorem c3m (x0 : Int) {H : Hp} {K : Int → Int → Hp → Prop} (h : a6U x0 H K) : a6F x0 H K := by
 intro w I
 refine f3a ?_
 refine c1Z x0 I (fun r0 r1 H' w' I' hk => ⟨H', _, I', r0, r1, rfl, rfl, hk⟩) h
def a6V (x0 : Int) (x1 : Int) (H : Hp) (K : Int → Int → Hp → Prop) : Prop :=
 ((((decide (x0 < 0)) == (decide (x1 < 0))) && ((decide ((IntKind.wrap .i64 (x0 + x1)) < 0)) != (decide (x0 < 0)))) = true →
 K 0 1 H) ∧
 ((((decide (x0 < 0)) == (decide (x1 < 0))) && ((decide ((IntKind.wrap .i64 (x0 + x1)) < 0)) != (decide (x0 < 0)))) = false →
 K (IntKind.wrap .i64 (x0 + x1)) 0 H)
theorem c2a (x0 : Int) (x1 : Int) {K : Int → Int → Hp → Prop} (I : Inv w0 ps0 H0 H [] w) (hR : ∀ (r0 : Int) (r1 : Int) (H' : Hp) (w' : World) (_ : Inv w0 ps0 H0 H' [] w') (_ : K r0 r1 H'), R (Value.tuple #[(vi r0), (vi r1)]) w') (h : a6V x0 x1 H K) : d8t (vi x0) (vi x1) w R E := by
 unfold a6V at h
 unfold d8t
 refine a7 (L6 _ _ _ _ _ _) ?_
 refine a7 (D7 _ _ _ _ _ _) ?_
 refine a7 (D7 _ _ _ _ _ _) ?_
 refine a7 (e5c _ _ _ _) ?_
 simp only [O5]
 refine a7 (Pu.g fun hb => by have i5 := hb; simp only [s8 i5]; exact (D7 _ _ _ _ _ _)) ?_
 refine a7 (Pu.g fun hb => by have i5 := hb; simp only [s8 i5]; exact (D7 _ _ _ _ _ _)) ?_
 refine a7 (Pu.g fun hb => by have i5 := hb; simp only [s8 i5]; exact (b7r _ _ _ _)) ?_
 refine a7 (N6 _ _) ?_
 refine u0 (fun c_1 => ?_) (fun c_1 => ?_)
 ·replace h := h.1 c_1
  exact hR 0 1 H _ I h
 ·replace h := h.2 c_1
  exact hR (IntKind.wrap .i64 (x0 + x1)) 0 H _ I h
theorem c3n (x0 : Int) (x1 : Int) {H : Hp} {K : Int → Int → Hp → Prop} (h : a6V x0 x1 H K) : a6G x0 x1 H K := by
 intro w I
 refine f3c ?_
 refine c2a x0 x1 I (fun r0 r1 H' w' I' hk => ⟨H', _, I', r0, r1, rfl, rfl, hk⟩) h
def a5T (x0 : Int) (H : Hp) (K : Int → Hp → Prop) : Prop :=
 (x0 < 0 →
 K (IntKind.wrap .u64 (0 - (IntKind.wrap .u64 x0))) H) ∧
 (¬ (x0 < 0) →
 K (IntKind.wrap .u64 x0) H)
theorem c0k (x0 : Int) {K : Int → Hp → Prop} (I : Inv w0 ps0 H0 H [] w) (hR : ∀ (r0 : Int) (H' : Hp) (w' : World) (_ : Inv w0 ps0 H0 H' [] w') (_ : K r0 H'), R (Value.int .u64 r0) w') (h : a5T x0 H K) : d8C (vi x0) w R E := by
 unfold a5T at h
 unfold d8C
 refine a7 (D7 _ _ _ _ _ _) ?_
 refine j8 (fun c_1 => ?_) (fun c_1 => ?_)
 ·replace h := h.1 c_1
  refine a7 (c2n _ _) ?_
  refine a7 (c4e _ _) ?_
  exact hR (IntKind.wrap .u64 (0 - (IntKind.wrap .u64 x0))) H _ I h
 ·replace h := h.2 c_1
  refine a7 (c2n _ _) ?_
  exact hR (IntKind.wrap .u64 x0) H _ I h
theorem c2b (x0 : Int) {H : Hp} {K : Int → Hp → Prop} (h : a5T x0 H K) : a5M x0 H K := by
 intro w I
 refine f3q ?_
 refine c0k x0 I (fun r0 H' w' I' hk => ⟨H', _, I', r0, rfl, rfl, hk⟩) h
def a5U (x0 : Int) (x1 : Int) (H : Hp) (K : Int → Int → Hp → Prop) : Prop :=
 K (IntKind.wrap .u64 ((IntKind.wrap .u64 ((IntKind.wrap .u64 ((Int.fdiv x0 (2 ^ 32)) * (Int.fdiv x1 (2 ^ 32)))) + (Int.fdiv (IntKind.wrap .u64 ((IntKind.wrap .u64 ((Int.fdiv x0 (2 ^ 32)) * (bandI .u64 x1 4294967295))) + (Int.fdiv (IntKind.wrap .u64 ((bandI .u64 x0 4294967295) * (bandI .u64 x1 4294967295))) (2 ^ 32)))) (2 ^ 32)))) + (Int.fdiv (IntKind.wrap .u64 ((bandI .u64 (IntKind.wrap .u64 ((IntKind.wrap .u64 ((Int.fdiv x0 (2 ^ 32)) * (bandI .u64 x1 4294967295))) + (Int.fdiv (IntKind.wrap .u64 ((bandI .u64 x0 4294967295) * (bandI .u64 x1 4294967295))) (2 ^ 32)))) 4294967295) + (IntKind.wrap .u64 ((bandI .u64 x0 4294967295) * (Int.fdiv x1 (2 ^ 32)))))) (2 ^ 32)))) (IntKind.wrap .u64 (x0 * x1)) H
theorem c0l (x0 : Int) (x1 : Int) {K : Int → Int → Hp → Prop} (I : Inv w0 ps0 H0 H [] w) (hR : ∀ (r0 : Int) (r1 : Int) (H' : Hp) (w' : World) (_ : Inv w0 ps0 H0 H' [] w') (_ : K r0 r1 H'), R (Value.tuple #[(Value.int .u64 r0), (Value.int .u64 r1)]) w') (h : a5U x0 x1 H K) : d8B (Value.int .u64 x0) (Value.int .u64 x1) w R E := by
 unfold a5U at h
 unfold d8B
 refine a7 (c6k _ _ _ _ _ _) ?_
 refine a7 (b9d _ _ _ _ _ _ _ (by decide) (by decide)) ?_
 refine a7 (c6k _ _ _ _ _ _) ?_
 refine a7 (b9d _ _ _ _ _ _ _ (by decide) (by decide)) ?_
 refine a7 (b6o _ _ _ _ _ _) ?_
 refine a7 (b6o _ _ _ _ _ _) ?_
 refine a7 (b9d _ _ _ _ _ _ _ (by decide) (by decide)) ?_
 refine a7 (L6 _ _ _ _ _ _) ?_
 refine a7 (c6k _ _ _ _ _ _) ?_
 refine a7 (b9d _ _ _ _ _ _ _ (by decide) (by decide)) ?_
 refine a7 (b6o _ _ _ _ _ _) ?_
 refine a7 (L6 _ _ _ _ _ _) ?_
 refine a7 (b6o _ _ _ _ _ _) ?_
 refine a7 (L6 _ _ _ _ _ _) ?_
 refine a7 (b9d _ _ _ _ _ _ _ (by decide) (by decide)) ?_
 refine a7 (L6 _ _ _ _ _ _) ?_
 refine a7 (b6o _ _ _ _ _ _) ?_
 exact hR (IntKind.wrap .u64 ((IntKind.wrap .u64 ((IntKind.wrap .u64 ((Int.fdiv x0 (2 ^ 32)) * (Int.fdiv x1 (2 ^ 32)))) + (Int.fdiv (IntKind.wrap .u64 ((IntKind.wrap .u64 ((Int.fdiv x0 (2 ^ 32)) * (bandI .u64 x1 4294967295))) + (Int.fdiv (IntKind.wrap .u64 ((bandI .u64 x0 4294967295) * (bandI .u64 x1 4294967295))) (2 ^ 32)))) (2 ^ 32)))) + (Int.fdiv (IntKind.wrap .u64 ((bandI .u64 (IntKind.wrap .u64 ((IntKind.wrap .u64 ((Int.fdiv x0 (2 ^ 32)) * (bandI .u64 x1 4294967295))) + (Int.fdiv (IntKind.wrap .u64 ((bandI .u64 x0 4294967295) * (bandI .u64 x1 4294967295))) (2 ^ 32)))) 4294967295) + (IntKind.wrap .u64 ((bandI .u64 x0 4294967295) * (Int.fdiv x1 (2 ^ 32)))))) (2 ^ 32)))) (IntKind.wrap .u64 (x0 * x1)) H _ I h
theorem c2c (x0 : Int) (x1 : Int) {H : Hp} {K : Int → Int → Hp → Prop} (h : a5U x0 x1 H K) : a8C x0 x1 H K := by
 intro w I
 refine f3o ?_
 refine c0l x0 x1 I (fun r0 r1 H' w' I' hk => ⟨H', _, I', r0, r1, rfl, rfl, hk⟩) h
def a0z (d8h : Int) (d1W : Int) (g3q : Int) (b8c : Int) (c7a : Int) (H : Hp) (K : Int → Int → Hp → Prop) : Prop :=
 (((!decide (g3q = 0)) || (decide (c7a < b8c))) = true →
 K 0 1 H) ∧
 (((!decide (g3q = 0)) || (decide (c7a < b8c))) = false →
 K (IntKind.wrap .i64 (d8h * d1W)) 0 H)
def a6W (x0 : Int) (x1 : Int) (H : Hp) (K : Int → Int → Hp → Prop) : Prop :=
 a5M x0 H (fun (M7 : Int) (H_1 : Hp) =>
 a5M x1 H_1 (fun (L8 : Int) (a5z : Hp) =>
 a8C M7 L8 a5z (fun (a2t : Int) (c1w : Int) (a4m : Hp) =>
 (((decide (x0 < 0)) != (decide (x1 < 0))) = true →
 a0z x0 x1 a2t c1w (IntKind.wrap .u64 (9223372036854775807 + 1)) a4m K) ∧
 (((decide (x0 < 0)) != (decide (x1 < 0))) = false →
 a0z x0 x1 a2t c1w 9223372036854775807 a4m K))))
theorem c2d (x0 : Int) (x1 : Int) {K : Int → Int → Hp → Prop} (I : Inv w0 ps0 H0 H [] w) (hR : ∀ (r0 : Int) (r1 : Int) (H' : Hp) (w' : World) (_ : Inv w0 ps0 H0 H' [] w') (_ : K r0 r1 H'), R (Value.tuple #[(vi r0), (vi r1)]) w') (h : a6W x0 x1 H K) : d8v (vi x0) (vi x1) w R E := by
 unfold a6W at h
 unfold d8v
 refine d8 (cap := []) (fun args w => Tryz.call147 args w) ?_
 refine o0 (Fi := []) (Fr := []) I (h) (fun v_5 H_1 F_6 w_2 I_3 l_8 k_4 q_7 => ?_) (fun _ _ _ _ _ q => q.elim)
 obtain ⟨M7, rfl, rfl, h⟩ := q_7
 refine d8 (cap := []) (fun args w => Tryz.call147 args w) ?_
 refine o0 (Fi := []) (Fr := []) I_3 (h) (fun d0V a5z g1Y R1 D2 c2C b5A d0X => ?_) (fun _ _ _ _ _ q => q.elim)
 obtain ⟨L8, rfl, rfl, h⟩ := d0X
 refine d8 (cap := []) (fun args w => Tryz.call146 args w) ?_
 refine o0 (Fi := []) (Fr := []) D2 (h) (fun d7G a4m h8y u9 a1U d0Z b9M e5j => ?_) (fun _ _ _ _ _ q => q.elim)
 obtain ⟨a2t, c1w, rfl, rfl, h⟩ := e5j
 refine a7 (m9 _ _ (Value.int .u64 a2t) rfl) ?_
 refine a7 (m9 _ _ (Value.int .u64 c1w) rfl) ?_
 have hj1 : ∀ (c7a : Int) (H : Hp) (w : World) (_ : Inv w0 ps0 H0 H [] w) (_ : a0z x0 x1 a2t c1w c7a H K), c6Z (vi x0) (vi x1) (Value.int .u64 a2t) (Value.int .u64 c1w) (Value.int .u64 c7a) w R E := by
  intro c7a H w I h
  unfold c6Z
  intro _
  unfold a0z at h
  refine a7 (T8 _ _ _ _ _ _) ?_
  simp only [O5]
  refine a7 (Pu.g fun hb => by have i5 := hb; simp only [s8 i5]; exact (a3B _ _ _ _ _ _)) ?_
  refine a7 (a1d _ _) ?_
  refine u0 (fun e6D => ?_) (fun e6D => ?_)
  ·replace h := h.1 e6D
   exact hR 0 1 H _ I h
  ·replace h := h.2 e6D
   refine a7 (b6o _ _ _ _ _ _) ?_
   exact hR (IntKind.wrap .i64 (x0 * x1)) 0 H _ I h
 refine A7 fun j1 hx1 => ?_
 refine a7 (D7 _ _ _ _ _ _) ?_
 refine a7 (D7 _ _ _ _ _ _) ?_
 refine a7 (b7r _ _ _ _) ?_
 refine u0 (fun c2I => ?_) (fun c2I => ?_)
 ·replace h := h.1 c2I
  refine a7 (L6 _ _ _ _ _ _) ?_
  exact hx1 _ _ (hj1 (IntKind.wrap .u64 (9223372036854775807 + 1)) a4m _ a1U h)
 ·replace h := h.2 c2I
  exact hx1 _ _ (hj1 9223372036854775807 a4m _ a1U h)
theorem c3o (x0 : Int) (x1 : Int) {H : Hp} {K : Int → Int → Hp → Prop} (h : a6W x0 x1 H K) : a6H x0 x1 H K := by
 intro w I
 refine f3g ?_
 refine c2d x0 x1 I (fun r0 r1 H' w' I' hk => ⟨H', _, I', r0, r1, rfl, rfl, hk⟩) h
def a4u (x0 : Int) (x1 : Int) (H : Hp) (K : Int → Hp → Prop) : Prop :=
 (x1 = 0 →
 K 2 H) ∧
 (¬ (x1 = 0) →
 (((decide (x0 = (-9223372036854775808))) && (decide (x1 = (-1)))) = true →
 K 1 H) ∧
 (((decide (x0 = (-9223372036854775808))) && (decide (x1 = (-1)))) = false →
 K 0 H))
theorem b6F (x0 : Int) (x1 : Int) {K : Int → Hp → Prop} (I : Inv w0 ps0 H0 H [] w) (hR : ∀ (r0 : Int) (H' : Hp) (w' : World) (_ : Inv w0 ps0 H0 H' [] w') (_ : K r0 H'), R (vi r0) w') (h : a4u x0 x1 H K) : d8D (vi x0) (vi x1) w R E := by
 unfold a4u at h
 unfold d8D
 refine a7 (o2 _ _ _ _ _ _) ?_
 refine j8 (fun c_2 => ?_) (fun c_2 => ?_)
 ·replace h := h.1 c_2
  exact hR 2 H _ I h
 ·replace h := h.2 c_2
  refine a7 (o2 _ _ _ _ _ _) ?_
  simp only [O5]
  refine a7 (Pu.g fun hb => by have i5 := hb; simp only [s8 i5]; exact (o2 _ _ _ _ _ _)) ?_
  refine a7 (N6 _ _) ?_
  refine u0 (fun c_1 => ?_) (fun c_1 => ?_)
  ·replace h := h.1 c_1
   exact hR 1 H _ I h
  ·replace h := h.2 c_1
   exact hR 0 H _ I h
theorem b8d (x0 : Int) (x1 : Int) {H : Hp} {K : Int → Hp → Prop} (h : a4u x0 x1 H K) : a4i x0 x1 H K := by
 intro w I
 refine f3s ?_
 refine b6F x0 x1 I (fun r0 H' w' I' hk => ⟨H', _, I', r0, rfl, rfl, hk⟩) h
def a9B (x0 : Int) (x1 : Int) (H : Hp) (K : Int → Int → Hp → Prop) : Prop :=
 a4i x0 x1 H (fun (M7 : Int) (H_1 : Hp) =>
 (¬ (M7 = 0) →
 K 0 M7 H_1) ∧
 (M7 = 0 →
 (x1 : Int) ≠ 0 ∧
 K (IntKind.wrap .i64 (Int.tdiv x0 x1)) 0 H_1))
theorem c2e (x0 : Int) (x1 : Int) {K : Int → Int → Hp → Prop} (I : Inv w0 ps0 H0 H [] w) (hR : ∀ (r0 : Int) (r1 : Int) (H' : Hp) (w' : World) (_ : Inv w0 ps0 H0 H' [] w') (_ : K r0 r1 H'), R (Value.tuple #[(vi r0), (vi r1)]) w') (h : a9B x0 x1 H K) : d8y (vi x0) (vi x1) w R E := by
 unfold a9B at h
 unfold d8y
 refine d8 (cap := []) (fun args w => Tryz.call148 args w) ?_
 refine o0 (Fi := []) (Fr := []) I (h) (fun v_5 H_1 F_6 w_2 I_3 l_8 k_4 q_7 => ?_) (fun _ _ _ _ _ q => q.elim)
 obtain ⟨M7, rfl, rfl, h⟩ := q_7
 refine a7 (T8 _ _ _ _ _ _) ?_
 refine a2L (fun b3N => ?_) (fun b3N => ?_)
 ·replace h := h.1 b3N
  exact hR 0 M7 H_1 _ I_3 h
 ·replace h := h.2 b3N
  obtain ⟨b3Q, h⟩ := h
  refine a7 (f7z _ _ _ _ _ _ b3Q) ?_
  exact hR (IntKind.wrap .i64 (Int.tdiv x0 x1)) 0 H_1 _ I_3 h
theorem c3p (x0 : Int) (x1 : Int) {H : Hp} {K : Int → Int → Hp → Prop} (h : a9B x0 x1 H K) : a6I x0 x1 H K := by
 intro w I
 refine f3i ?_
 refine c2e x0 x1 I (fun r0 r1 H' w' I' hk => ⟨H', _, I', r0, r1, rfl, rfl, hk⟩) h
def a9C (x0 : Int) (x1 : Int) (H : Hp) (K : Int → Int → Hp → Prop) : Prop :=
 a4i x0 x1 H (fun (M7 : Int) (H_1 : Hp) =>
 (¬ (M7 = 0) →
 K 0 M7 H_1) ∧
 (M7 = 0 →
 (x1 : Int) ≠ 0 ∧
 K (Int.tmod x0 x1) 0 H_1))
theorem c2f (x0 : Int) (x1 : Int) {K : Int → Int → Hp → Prop} (I : Inv w0 ps0 H0 H [] w) (hR : ∀ (r0 : Int) (r1 : Int) (H' : Hp) (w' : World) (_ : Inv w0 ps0 H0 H' [] w') (_ : K r0 r1 H'), R (Value.tuple #[(vi r0), (vi r1)]) w') (h : a9C x0 x1 H K) : d8z (vi x0) (vi x1) w R E := by
 unfold a9C at h
 unfold d8z
 refine d8 (cap := []) (fun args w => Tryz.call148 args w) ?_
 refine o0 (Fi := []) (Fr := []) I (h) (fun v_5 H_1 F_6 w_2 I_3 l_8 k_4 q_7 => ?_) (fun _ _ _ _ _ q => q.elim)
 obtain ⟨M7, rfl, rfl, h⟩ := q_7
 refine a7 (T8 _ _ _ _ _ _) ?_
 refine a2L (fun b3N => ?_) (fun b3N => ?_)
 ·replace h := h.1 b3N
  exact hR 0 M7 H_1 _ I_3 h
 ·replace h := h.2 b3N
  obtain ⟨b3Q, h⟩ := h
  refine a7 (f7A _ _ _ _ _ _ b3Q) ?_
  exact hR (Int.tmod x0 x1) 0 H_1 _ I_3 h
theorem c3q (x0 : Int) (x1 : Int) {H : Hp} {K : Int → Int → Hp → Prop} (h : a9C x0 x1 H K) : a6J x0 x1 H K := by
 intro w I
 refine f3k ?_
 refine c2f x0 x1 I (fun r0 r1 H' w' I' hk => ⟨H', _, I', r0, r1, rfl, rfl, hk⟩) h
def a3K (H : Hp) (K : Hp → Prop) : Prop :=
 K H
theorem b5Q {K : Hp → Prop} (I : Inv w0 ps0 H0 H [] w) (hR : ∀ (H' : Hp) (w' : World) (_ : Inv w0 ps0 H0 H' [] w') (_ : K H'), R (Value.agg #[(fC 149), (fC 150), (fC 151), (fC 152), (fC 153), (fC 154), (fC 155)]) w') (h : a3K H K) : d8A w R E := by
 unfold a3K at h
 unfold d8A
 refine y9 I Tryz.zeroValue177 (cs := [Value.nilFunc, Value.nilFunc, Value.nilFunc, Value.nilFunc, Value.nilFunc, Value.nilFunc, Value.nilFunc]) rfl fun g_2 w_3 I_4 k_5 => ?_
 refine a7 a7k ?_
 refine m7 I_4 Tryz.sizeOf177 (vs := [(fC 149), (fC 150), (fC 151), (fC 152), (fC 153), (fC 154), (fC 155)]) (cs' := [(fC 149), (fC 150), (fC 151), (fC 152), (fC 153), (fC 154), (fC 155)]) rfl rfl (nb rfl) rfl rfl fun w_6 I_7 k_8 => ?_
 refine L4 Tryz.isAgg177 Tryz.sizeOf177 rfl (I_7.at1 (o := 0) (vs := [(fC 149), (fC 150), (fC 151), (fC 152), (fC 153), (fC 154), (fC 155)]) (nb rfl) rfl) ?_
 exact hR H _ I_7.drop h
theorem b6G {H : Hp} {K : Hp → Prop} (h : a3K H K) : a6h H K := by
 intro w I
 refine f3m ?_
 refine b5Q I (fun H' w' I' hk => ⟨H', _, I', rfl, rfl, hk⟩) h
def a2y (x0 : Int) (x1 : Int) (H : Hp) (K : Bool → Hp → Prop) : Prop :=
 K (decide (x0 < x1)) H
theorem b4a (x0 : Int) (x1 : Int) {K : Bool → Hp → Prop} (I : Inv w0 ps0 H0 H [] w) (hR : ∀ (r0 : Bool) (H' : Hp) (w' : World) (_ : Inv w0 ps0 H0 H' [] w') (_ : K r0 H'), R (vB r0) w') (h : a2y x0 x1 H K) : d8E (vi x0) (vi x1) w R E := by
 unfold a2y at h
 unfold d8E
 refine a7 (D7 _ _ _ _ _ _) ?_
 exact hR (decide (x0 < x1)) H _ I h
theorem b4H (x0 : Int) (x1 : Int) {H : Hp} {K : Bool → Hp → Prop} (h : a2y x0 x1 H K) : a8u x0 x1 H K := by
 intro w I
 refine f3u ?_
 refine b4a x0 x1 I (fun r0 H' w' I' hk => ⟨H', _, I', r0, rfl, rfl, hk⟩) h
def a2z (x0 : Int) (x1 : Int) (H : Hp) (K : Bool → Hp → Prop) : Prop :=
 K (decide (x0 ≤ x1)) H
theorem b4b (x0 : Int) (x1 : Int) {K : Bool → Hp → Prop} (I : Inv w0 ps0 H0 H [] w) (hR : ∀ (r0 : Bool) (H' : Hp) (w' : World) (_ : Inv w0 ps0 H0 H' [] w') (_ : K r0 H'), R (vB r0) w') (h : a2z x0 x1 H K) : d8F (vi x0) (vi x1) w R E := by
 unfold a2z at h
 unfold d8F
 refine a7 (b6m _ _ _ _ _ _) ?_
 exact hR (decide (x0 ≤ x1)) H _ I h
theorem b4I (x0 : Int) (x1 : Int) {H : Hp} {K : Bool → Hp → Prop} (h : a2z x0 x1 H K) : a8v x0 x1 H K := by
 intro w I
 refine f3w ?_
 refine b4b x0 x1 I (fun r0 H' w' I' hk => ⟨H', _, I', r0, rfl, rfl, hk⟩) h
def a2A (x0 : Int) (x1 : Int) (H : Hp) (K : Bool → Hp → Prop) : Prop :=
 K (decide (x0 = x1)) H
theorem b4c (x0 : Int) (x1 : Int) {K : Bool → Hp → Prop} (I : Inv w0 ps0 H0 H [] w) (hR : ∀ (r0 : Bool) (H' : Hp) (w' : World) (_ : Inv w0 ps0 H0 H' [] w') (_ : K r0 H'), R (vB r0) w') (h : a2A x0 x1 H K) : d8G (vi x0) (vi x1) w R E := by
 unfold a2A at h
 unfold d8G
 refine a7 (o2 _ _ _ _ _ _) ?_
 exact hR (decide (x0 = x1)) H _ I h
theorem b4J (x0 : Int) (x1 : Int) {H : Hp} {K : Bool → Hp → Prop} (h : a2A x0 x1 H K) : a8w x0 x1 H K := by
 intro w I
 refine f3y ?_
 refine b4c x0 x1 I (fun r0 H' w' I' hk => ⟨H', _, I', r0, rfl, rfl, hk⟩) h
def a2B (x0 : Int) (x1 : Int) (H : Hp) (K : Bool → Hp → Prop) : Prop :=
 K (!decide (x0 = x1)) H
theorem b4d (x0 : Int) (x1 : Int) {K : Bool → Hp → Prop} (I : Inv w0 ps0 H0 H [] w) (hR : ∀ (r0 : Bool) (H' : Hp) (w' : World) (_ : Inv w0 ps0 H0 H' [] w') (_ : K r0 H'), R (vB r0) w') (h : a2B x0 x1 H K) : d8H (vi x0) (vi x1) w R E := by
 unfold a2B at h
 unfold d8H
 refine a7 (T8 _ _ _ _ _ _) ?_
 exact hR (!decide (x0 = x1)) H _ I h
theorem b4K (x0 : Int) (x1 : Int) {H : Hp} {K : Bool → Hp → Prop} (h : a2B x0 x1 H K) : a8x x0 x1 H K := by
 intro w I
 refine f3A ?_
 refine b4d x0 x1 I (fun r0 H' w' I' hk => ⟨H', _, I', r0, rfl, rfl, hk⟩) h
def a2C (x0 : Int) (x1 : Int) (H : Hp) (K : Bool → Hp → Prop) : Prop :=
 K (decide (x1 < x0)) H
theorem b4e (x0 : Int) (x1 : Int) {K : Bool → Hp → Prop} (I : Inv w0 ps0 H0 H [] w) (hR : ∀ (r0 : Bool) (H' : Hp) (w' : World) (_ : Inv w0 ps0 H0 H' [] w') (_ : K r0 H'), R (vB r0) w') (h : a2C x0 x1 H K) : d8I (vi x0) (vi x1) w R E := by
 unfold a2C at h
 unfold d8I
 refine a7 (a3B _ _ _ _ _ _) ?_
 exact hR (decide (x1 < x0)) H _ I h
theorem b4L (x0 : Int) (x1 : Int) {H : Hp} {K : Bool → Hp → Prop} (h : a2C x0 x1 H K) : a8y x0 x1 H K := by
 intro w I
 refine f3C ?_
 refine b4e x0 x1 I (fun r0 H' w' I' hk => ⟨H', _, I', r0, rfl, rfl, hk⟩) h
def a2D (x0 : Int) (x1 : Int) (H : Hp) (K : Bool → Hp → Prop) : Prop :=
 K (decide (x1 ≤ x0)) H
theorem b4f (x0 : Int) (x1 : Int) {K : Bool → Hp → Prop} (I : Inv w0 ps0 H0 H [] w) (hR : ∀ (r0 : Bool) (H' : Hp) (w' : World) (_ : Inv w0 ps0 H0 H' [] w') (_ : K r0 H'), R (vB r0) w') (h : a2D x0 x1 H K) : d8J (vi x0) (vi x1) w R E := by
 unfold a2D at h
 unfold d8J
 refine a7 (b6n _ _ _ _ _ _) ?_
 exact hR (decide (x1 ≤ x0)) H _ I h
theorem b4M (x0 : Int) (x1 : Int) {H : Hp} {K : Bool → Hp → Prop} (h : a2D x0 x1 H K) : a8z x0 x1 H K := by
 intro w I
 refine f3E ?_
 refine b4f x0 x1 I (fun r0 H' w' I' hk => ⟨H', _, I', r0, rfl, rfl, hk⟩) h
def a6X (x0 : Int) (x1 : Int) (x2 : Int) (H : Hp) (K : Bool → Hp → Prop) : Prop :=
 (((decide (x0 < 1)) || (decide (6 < x0))) = true →
 K false H) ∧
 (((decide (x0 < 1)) || (decide (6 < x0))) = false →
 a6h H (fun (H_1 : Hp) =>
 (0 : Int) ≤ x0 ∧ (x0 : Int) < 7 ∧
 ∃ b5R : Bool → Hp → Prop, (∀ (a3t : Bool) (a4Y : Hp), b5R a3t a4Y →
 K a3t a4Y) ∧ ((x0 : Int) = 0 → b9K x1 x2 H_1 b5R) ∧ ((x0 : Int) = 1 → a8u x1 x2 H_1 b5R) ∧ ((x0 : Int) = 2 → a8v x1 x2 H_1 b5R) ∧ ((x0 : Int) = 3 → a8w x1 x2 H_1 b5R) ∧ ((x0 : Int) = 4 → a8x x1 x2 H_1 b5R) ∧ ((x0 : Int) = 5 → a8y x1 x2 H_1 b5R) ∧ ((x0 : Int) = 6 → a8z x1 x2 H_1 b5R)))
theorem c2g (x0 : Int) (x1 : Int) (x2 : Int) {K : Bool → Hp → Prop} (I : Inv w0 ps0 H0 H [] w) (hR : ∀ (r0 : Bool) (H' : Hp) (w' : World) (_ : Inv w0 ps0 H0 H' [] w') (_ : K r0 H'), R (vB r0) w') (h : a6X x0 x1 x2 H K) : F73 (vi x0) (vi x1) (vi x2) w R E := by
 unfold a6X at h
 unfold F73
 refine a7 (D7 _ _ _ _ _ _) ?_
 simp only [O5]
 refine a7 (Pu.g fun hb => by have i5 := hb; simp only [s8 i5]; exact (a3B _ _ _ _ _ _)) ?_
 refine a7 (a1d _ _) ?_
 refine u0 (fun c2H => ?_) (fun c2H => ?_)
 ·replace h := h.1 c2H
  exact hR false H _ I h
 ·replace h := h.2 c2H
  refine d8 (cap := []) (fun args w => Tryz.call118 args w) ?_
  refine o0 (Fi := []) (Fr := []) I (h) (fun v_5 H_1 F_6 w_2 I_3 l_8 k_4 q_7 => ?_) (fun _ _ _ _ _ q => q.elim)
  obtain ⟨rfl, rfl, h⟩ := q_7
  obtain ⟨b3Q, d8L, h⟩ := h
  refine a7 (a0b _ _ b3Q d8L) ?_
  obtain ⟨b5R, e6k, c3h, d1J, b7Z, b1f, e6E, c3r, a4I⟩ := h
  refine f1c (D := fun b8e a0e => ∃ (a3t : Bool) (a4Y : Hp), b8e = (vB a3t) ∧ (Inv w0 ps0 H0 a4Y [] a0e) ∧ (∀ i, i < w_2.heap.size → ¬ inF [] i → a0e.heap[i]? = w_2.heap[i]?) ∧ Hle H_1 a4Y ∧ (b5R a3t a4Y)) ?_ ?_
  ·obtain e | e | e | e | e | e | e := (by omega : (x0 : Int) = 0 ∨ (x0 : Int) = 1 ∨ (x0 : Int) = 2 ∨ (x0 : Int) = 3 ∨ (x0 : Int) = 4 ∨ (x0 : Int) = 5 ∨ (x0 : Int) = 6)
   ·replace h := c3h e
    refine b4V (s' := xCall (fC 149) [(vi x1), (vi x2)]) (by rw [e]; rfl) ?_
    refine d8 (cap := []) (fun args w => Tryz.call149 args w) ?_
    refine o0 (Fi := []) (Fr := []) I_3 (h) (fun b8e a4Y c7b a0e O8 a6b a3V b1g => ?_) (fun _ _ _ _ _ q => q.elim)
    obtain ⟨a3t, rfl, rfl, h⟩ := b1g
    exact ⟨a3t, a4Y, rfl, O8, a3V, a6b, h⟩
   ·replace h := d1J e
    refine b4V (s' := xCall (fC 150) [(vi x1), (vi x2)]) (by rw [e]; rfl) ?_
    refine d8 (cap := []) (fun args w => Tryz.call150 args w) ?_
    refine o0 (Fi := []) (Fr := []) I_3 (h) (fun b8e a4Y c7b a0e O8 a6b a3V b1g => ?_) (fun _ _ _ _ _ q => q.elim)
    obtain ⟨a3t, rfl, rfl, h⟩ := b1g
    exact ⟨a3t, a4Y, rfl, O8, a3V, a6b, h⟩
   ·replace h := b7Z e
    refine b4V (s' := xCall (fC 151) [(vi x1), (vi x2)]) (by rw [e]; rfl) ?_
    refine d8 (cap := []) (fun args w => Tryz.call151 args w) ?_
    refine o0 (Fi := []) (Fr := []) I_3 (h) (fun b8e a4Y c7b a0e O8 a6b a3V b1g => ?_) (fun _ _ _ _ _ q => q.elim)
    obtain ⟨a3t, rfl, rfl, h⟩ := b1g
    exact ⟨a3t, a4Y, rfl, O8, a3V, a6b, h⟩
   ·replace h := b1f e
    refine b4V (s' := xCall (fC 152) [(vi x1), (vi x2)]) (by rw [e]; rfl) ?_
    refine d8 (cap := []) (fun args w => Tryz.call152 args w) ?_
    refine o0 (Fi := []) (Fr := []) I_3 (h) (fun b8e a4Y c7b a0e O8 a6b a3V b1g => ?_) (fun _ _ _ _ _ q => q.elim)
    obtain ⟨a3t, rfl, rfl, h⟩ := b1g
    exact ⟨a3t, a4Y, rfl, O8, a3V, a6b, h⟩
   ·replace h := e6E e
    refine b4V (s' := xCall (fC 153) [(vi x1), (vi x2)]) (by rw [e]; rfl) ?_
    refine d8 (cap := []) (fun args w => Tryz.call153 args w) ?_
    refine o0 (Fi := []) (Fr := []) I_3 (h) (fun b8e a4Y c7b a0e O8 a6b a3V b1g => ?_) (fun _ _ _ _ _ q => q.elim)
    obtain ⟨a3t, rfl, rfl, h⟩ := b1g
    exact ⟨a3t, a4Y, rfl, O8, a3V, a6b, h⟩
   ·replace h := c3r e
    refine b4V (s' := xCall (fC 154) [(vi x1), (vi x2)]) (by rw [e]; rfl) ?_
    refine d8 (cap := []) (fun args w => Tryz.call154 args w) ?_
    refine o0 (Fi := []) (Fr := []) I_3 (h) (fun b8e a4Y c7b a0e O8 a6b a3V b1g => ?_) (fun _ _ _ _ _ q => q.elim)
    obtain ⟨a3t, rfl, rfl, h⟩ := b1g
    exact ⟨a3t, a4Y, rfl, O8, a3V, a6b, h⟩
   ·replace h := a4I e
    refine b4V (s' := xCall (fC 155) [(vi x1), (vi x2)]) (by rw [e]; rfl) ?_
    refine d8 (cap := []) (fun args w => Tryz.call155 args w) ?_
    refine o0 (Fi := []) (Fr := []) I_3 (h) (fun b8e a4Y c7b a0e O8 a6b a3V b1g => ?_) (fun _ _ _ _ _ q => q.elim)
    obtain ⟨a3t, rfl, rfl, h⟩ := b1g
    exact ⟨a3t, a4Y, rfl, O8, a3V, a6b, h⟩
  ·rintro b8e a0e ⟨a3t, a4Y, rfl, O8, a3V, a6b, h⟩
   replace h := e6k _ _ h
   exact hR a3t a4Y _ O8 h
theorem c3s (x0 : Int) (x1 : Int) (x2 : Int) {H : Hp} {K : Bool → Hp → Prop} (h : a6X x0 x1 x2 H K) : a9l x0 x1 x2 H K := by
 intro w I
 refine g2w ?_
 refine c2g x0 x1 x2 I (fun r0 H' w' I' hk => ⟨H', _, I', r0, rfl, rfl, hk⟩) h
end Go.Proofs.YtnhkdkcgdcgmdaaGreatDoor
