/- Typed formulas of the program's functions that few laws need; printed by lift.py off the code. -/
import Derived.Test.YtnhkdkcgdcgmdaaDoorzRV1
import Derived.Test.YtnhkdkcgdcgmdaaDoorzRG1r
namespace Go.Proofs.YtnhkdkcgdcgmdaaDoor
open Go.RowKit
set_option maxRecDepth 100000
set_option maxHeartbeats 2000000
def a5A (x0 : Int) (x1 : Int) (H : Hp) (K : Int → Int → Hp → Prop) : Prop :=
 ((((decide (x0 < 0)) != (decide (x1 < 0))) && ((decide ((IntKind.wrap .i64 (x0 - x1)) < 0)) != (decide (x0 < 0)))) = true →
 K 0 1 H) ∧
 ((((decide (x0 < 0)) != (decide (x1 < 0))) && ((decide ((IntKind.wrap .i64 (x0 - x1)) < 0)) != (decide (x0 < 0)))) = false →
 K (IntKind.wrap .i64 (x0 - x1)) 0 H)
theorem c0H (x0 : Int) (x1 : Int) {w0 w : World} {ps0 : Nat → Prop} {H0 H : Hp} {K : Int → Int → Hp → Prop} {R : Value → World → Prop} {E : Pan} (I : Inv w0 ps0 H0 H [] w) (hR : ∀ (r0 : Int) (r1 : Int) (H' : Hp) (w' : World) (_ : Inv w0 ps0 H0 H' [] w') (_ : K r0 r1 H'), R (Value.tuple #[(vi r0), (vi r1)]) w') (h : a5A x0 x1 H K) : F27 (vi x0) (vi x1) w R E := by
 unfold a5A at h
 unfold F27
 refine a8 (a2C _ _ _ _ _ _) ?_
 refine a8 (o3 _ _ _ _ _ _) ?_
 refine a8 (o3 _ _ _ _ _ _) ?_
 refine a8 (a6o _ _ _ _) ?_
 try simp only [m4]
 refine a8 (Pu.g fun hb => by have b6 := hb; first | exact (o3 _ _ _ _ _ _) | (simp only [b7 b6]; exact (o3 _ _ _ _ _ _)) | (simp only [d7 b6, b7 b6, b7 hb, f8 b6, f9]; exact (o3 _ _ _ _ _ _))) ?_
 try simp only [m4, F8, P1, M9, G2, P5, P2, P3, P4, P6]
 refine a8 (Pu.g fun hb => by have b6 := hb; first | exact (o3 _ _ _ _ _ _) | (simp only [b7 b6]; exact (o3 _ _ _ _ _ _)) | (simp only [d7 b6, b7 b6, b7 hb, f8 b6, f9]; exact (o3 _ _ _ _ _ _))) ?_
 refine a8 (Pu.g fun hb => by have b6 := hb; first | exact (a6o _ _ _ _) | (simp only [b7 b6]; exact (a6o _ _ _ _)) | (simp only [d7 b6, b7 b6, b7 hb, f8 b6, f9]; exact (a6o _ _ _ _))) ?_
 refine a8 (k9 _ _) ?_
 refine j9 (fun c_1 => ?_) (fun c_1 => ?_)
 ·replace h := h.1 c_1
  exact hR 0 1 H _ I h
 ·replace h := h.2 c_1
  exact hR (IntKind.wrap .i64 (x0 - x1)) 0 H _ I h
theorem c2n (x0 : Int) (x1 : Int) {H : Hp} {K : Int → Int → Hp → Prop} (h : a5A x0 x1 H K) : a3p x0 x1 H K := by
 intro w I
 refine g2M ?_
 refine c0H x0 x1 I (fun r0 r1 H' w' I' hk => ⟨H', _, I', r0, r1, rfl, rfl, hk⟩) h
def a5B (x0 : Int) (H : Hp) (K : Int → Int → Hp → Prop) : Prop :=
 a3p 0 x0 H (fun (s7 : Int) (a9h : Int) (H_1 : Hp) =>
 K s7 a9h H_1)
theorem c0I (x0 : Int) {w0 w : World} {ps0 : Nat → Prop} {H0 H : Hp} {K : Int → Int → Hp → Prop} {R : Value → World → Prop} {E : Pan} (I : Inv w0 ps0 H0 H [] w) (hR : ∀ (r0 : Int) (r1 : Int) (H' : Hp) (w' : World) (_ : Inv w0 ps0 H0 H' [] w') (_ : K r0 r1 H'), R (Value.tuple #[(vi r0), (vi r1)]) w') (h : a5B x0 H K) : d5C (vi x0) w R E := by
 unfold a5B at h
 unfold d5C
 refine f5 (cap := []) (fun args w => Tryd.call27 args w) ?_
 refine i6 (Fi := []) (Fr := []) I (h) (fun v_5 H_1 F_6 w_2 I_3 l_8 k_4 q_7 => ?_) (fun _ _ _ _ _ q => q.elim)
 obtain ⟨s7, a9h, rfl, rfl, h⟩ := q_7
 refine a8 (i4 _ _ (vi s7) rfl) ?_
 refine a8 (i4 _ _ (vi a9h) rfl) ?_
 exact hR s7 a9h H_1 _ I_3 h
theorem c2o (x0 : Int) {H : Hp} {K : Int → Int → Hp → Prop} (h : a5B x0 H K) : a5l x0 H K := by
 intro w I
 refine f0H ?_
 refine c0I x0 I (fun r0 r1 H' w' I' hk => ⟨H', _, I', r0, r1, rfl, rfl, hk⟩) h
def a5C (x0 : Int) (x1 : Int) (H : Hp) (K : Int → Int → Hp → Prop) : Prop :=
 ((((decide (x0 < 0)) == (decide (x1 < 0))) && ((decide ((IntKind.wrap .i64 (x0 + x1)) < 0)) != (decide (x0 < 0)))) = true →
 K 0 1 H) ∧
 ((((decide (x0 < 0)) == (decide (x1 < 0))) && ((decide ((IntKind.wrap .i64 (x0 + x1)) < 0)) != (decide (x0 < 0)))) = false →
 K (IntKind.wrap .i64 (x0 + x1)) 0 H)
theorem c0J (x0 : Int) (x1 : Int) {w0 w : World} {ps0 : Nat → Prop} {H0 H : Hp} {K : Int → Int → Hp → Prop} {R : Value → World → Prop} {E : Pan} (I : Inv w0 ps0 H0 H [] w) (hR : ∀ (r0 : Int) (r1 : Int) (H' : Hp) (w' : World) (_ : Inv w0 ps0 H0 H' [] w') (_ : K r0 r1 H'), R (Value.tuple #[(vi r0), (vi r1)]) w') (h : a5C x0 x1 H K) : F26 (vi x0) (vi x1) w R E := by
 unfold a5C at h
 unfold F26
 refine a8 (s9 _ _ _ _ _ _) ?_
 refine a8 (o3 _ _ _ _ _ _) ?_
 refine a8 (o3 _ _ _ _ _ _) ?_
 refine a8 (e1e _ _ _ _) ?_
 try simp only [m4]
 refine a8 (Pu.g fun hb => by have b6 := hb; first | exact (o3 _ _ _ _ _ _) | (simp only [b7 b6]; exact (o3 _ _ _ _ _ _)) | (simp only [d7 b6, b7 b6, b7 hb, f8 b6, f9]; exact (o3 _ _ _ _ _ _))) ?_
 try simp only [m4, F8, P1, M9, G2, P5, P2, P3, P4, P6]
 refine a8 (Pu.g fun hb => by have b6 := hb; first | exact (o3 _ _ _ _ _ _) | (simp only [b7 b6]; exact (o3 _ _ _ _ _ _)) | (simp only [d7 b6, b7 b6, b7 hb, f8 b6, f9]; exact (o3 _ _ _ _ _ _))) ?_
 refine a8 (Pu.g fun hb => by have b6 := hb; first | exact (a6o _ _ _ _) | (simp only [b7 b6]; exact (a6o _ _ _ _)) | (simp only [d7 b6, b7 b6, b7 hb, f8 b6, f9]; exact (a6o _ _ _ _))) ?_
 refine a8 (k9 _ _) ?_
 refine j9 (fun c_1 => ?_) (fun c_1 => ?_)
 ·replace h := h.1 c_1
  exact hR 0 1 H _ I h
 ·replace h := h.2 c_1
  exact hR (IntKind.wrap .i64 (x0 + x1)) 0 H _ I h
theorem c2p (x0 : Int) (x1 : Int) {H : Hp} {K : Int → Int → Hp → Prop} (h : a5C x0 x1 H K) : a5m x0 x1 H K := by
 intro w I
 refine g2K ?_
 refine c0J x0 x1 I (fun r0 r1 H' w' I' hk => ⟨H', _, I', r0, r1, rfl, rfl, hk⟩) h
def a4P (x0 : Int) (H : Hp) (K : Int → Hp → Prop) : Prop :=
 (x0 < 0 →
 K (IntKind.wrap .u64 (0 - (IntKind.wrap .u64 x0))) H) ∧
 (¬ (x0 < 0) →
 K (IntKind.wrap .u64 x0) H)
theorem b9i (x0 : Int) {w0 w : World} {ps0 : Nat → Prop} {H0 H : Hp} {K : Int → Hp → Prop} {R : Value → World → Prop} {E : Pan} (I : Inv w0 ps0 H0 H [] w) (hR : ∀ (r0 : Int) (H' : Hp) (w' : World) (_ : Inv w0 ps0 H0 H' [] w') (_ : K r0 H'), R (Value.int .u64 r0) w') (h : a4P x0 H K) : F48 (vi x0) w R E := by
 unfold a4P at h
 unfold F48
 refine a8 (o3 _ _ _ _ _ _) ?_
 refine g8 (fun c_1 => ?_) (fun c_1 => ?_)
 ·replace h := h.1 c_1
  refine a8 (c2S _ _) ?_
  refine a8 (b5k _ _) ?_
  exact hR (IntKind.wrap .u64 (0 - (IntKind.wrap .u64 x0))) H _ I h
 ·replace h := h.2 c_1
  refine a8 (c2S _ _) ?_
  exact hR (IntKind.wrap .u64 x0) H _ I h
theorem c0K (x0 : Int) {H : Hp} {K : Int → Hp → Prop} (h : a4P x0 H K) : a4J x0 H K := by
 intro w I
 refine g3h ?_
 refine b9i x0 I (fun r0 H' w' I' hk => ⟨H', _, I', r0, rfl, rfl, hk⟩) h
def a4Q (x0 : Int) (x1 : Int) (H : Hp) (K : Int → Int → Hp → Prop) : Prop :=
 K (IntKind.wrap .u64 ((IntKind.wrap .u64 ((IntKind.wrap .u64 ((Int.fdiv x0 (2 ^ 32)) * (Int.fdiv x1 (2 ^ 32)))) + (Int.fdiv (IntKind.wrap .u64 ((IntKind.wrap .u64 ((Int.fdiv x0 (2 ^ 32)) * (bandI .u64 x1 4294967295))) + (Int.fdiv (IntKind.wrap .u64 ((bandI .u64 x0 4294967295) * (bandI .u64 x1 4294967295))) (2 ^ 32)))) (2 ^ 32)))) + (Int.fdiv (IntKind.wrap .u64 ((bandI .u64 (IntKind.wrap .u64 ((IntKind.wrap .u64 ((Int.fdiv x0 (2 ^ 32)) * (bandI .u64 x1 4294967295))) + (Int.fdiv (IntKind.wrap .u64 ((bandI .u64 x0 4294967295) * (bandI .u64 x1 4294967295))) (2 ^ 32)))) 4294967295) + (IntKind.wrap .u64 ((bandI .u64 x0 4294967295) * (Int.fdiv x1 (2 ^ 32)))))) (2 ^ 32)))) (IntKind.wrap .u64 (x0 * x1)) H
theorem b9j (x0 : Int) (x1 : Int) {w0 w : World} {ps0 : Nat → Prop} {H0 H : Hp} {K : Int → Int → Hp → Prop} {R : Value → World → Prop} {E : Pan} (I : Inv w0 ps0 H0 H [] w) (hR : ∀ (r0 : Int) (r1 : Int) (H' : Hp) (w' : World) (_ : Inv w0 ps0 H0 H' [] w') (_ : K r0 r1 H'), R (Value.tuple #[(Value.int .u64 r0), (Value.int .u64 r1)]) w') (h : a4Q x0 x1 H K) : F47 (Value.int .u64 x0) (Value.int .u64 x1) w R E := by
 unfold a4Q at h
 unfold F47
 refine a8 (c4v _ _ _ _ _ _) ?_
 refine a8 (b7R _ _ _ _ _ _ _ (by decide) (by decide)) ?_
 refine a8 (c4v _ _ _ _ _ _) ?_
 refine a8 (b7R _ _ _ _ _ _ _ (by decide) (by decide)) ?_
 refine a8 (a8z _ _ _ _ _ _) ?_
 refine a8 (a8z _ _ _ _ _ _) ?_
 refine a8 (b7R _ _ _ _ _ _ _ (by decide) (by decide)) ?_
 refine a8 (s9 _ _ _ _ _ _) ?_
 refine a8 (c4v _ _ _ _ _ _) ?_
 refine a8 (b7R _ _ _ _ _ _ _ (by decide) (by decide)) ?_
 refine a8 (a8z _ _ _ _ _ _) ?_
 refine a8 (s9 _ _ _ _ _ _) ?_
 refine a8 (a8z _ _ _ _ _ _) ?_
 refine a8 (s9 _ _ _ _ _ _) ?_
 refine a8 (b7R _ _ _ _ _ _ _ (by decide) (by decide)) ?_
 refine a8 (s9 _ _ _ _ _ _) ?_
 refine a8 (a8z _ _ _ _ _ _) ?_
 exact hR (IntKind.wrap .u64 ((IntKind.wrap .u64 ((IntKind.wrap .u64 ((Int.fdiv x0 (2 ^ 32)) * (Int.fdiv x1 (2 ^ 32)))) + (Int.fdiv (IntKind.wrap .u64 ((IntKind.wrap .u64 ((Int.fdiv x0 (2 ^ 32)) * (bandI .u64 x1 4294967295))) + (Int.fdiv (IntKind.wrap .u64 ((bandI .u64 x0 4294967295) * (bandI .u64 x1 4294967295))) (2 ^ 32)))) (2 ^ 32)))) + (Int.fdiv (IntKind.wrap .u64 ((bandI .u64 (IntKind.wrap .u64 ((IntKind.wrap .u64 ((Int.fdiv x0 (2 ^ 32)) * (bandI .u64 x1 4294967295))) + (Int.fdiv (IntKind.wrap .u64 ((bandI .u64 x0 4294967295) * (bandI .u64 x1 4294967295))) (2 ^ 32)))) 4294967295) + (IntKind.wrap .u64 ((bandI .u64 x0 4294967295) * (Int.fdiv x1 (2 ^ 32)))))) (2 ^ 32)))) (IntKind.wrap .u64 (x0 * x1)) H _ I h
theorem c0L (x0 : Int) (x1 : Int) {H : Hp} {K : Int → Int → Hp → Prop} (h : a4Q x0 x1 H K) : a7t x0 x1 H K := by
 intro w I
 refine g3f ?_
 refine b9j x0 x1 I (fun r0 r1 H' w' I' hk => ⟨H', _, I', r0, r1, rfl, rfl, hk⟩) h
def X1 (c5r : Int) (c2e : Int) (g4i : Int) (g4j : Int) (a7A : Int) (H : Hp) (K : Int → Int → Hp → Prop) : Prop :=
 (((!decide (g4i = 0)) || (decide (a7A < g4j))) = true →
 K 0 1 H) ∧
 (((!decide (g4i = 0)) || (decide (a7A < g4j))) = false →
 K (IntKind.wrap .i64 (c5r * c2e)) 0 H)
def a5D (x0 : Int) (x1 : Int) (H : Hp) (K : Int → Int → Hp → Prop) : Prop :=
 a4J x0 H (fun (s7 : Int) (H_1 : Hp) =>
 a4J x1 H_1 (fun (o8 : Int) (P9 : Hp) =>
 a7t s7 o8 P9 (fun (w3 : Int) (a9i : Int) (F4 : Hp) =>
 (((decide (x0 < 0)) != (decide (x1 < 0))) = true →
 X1 x0 x1 w3 a9i (IntKind.wrap .u64 (9223372036854775807 + 1)) F4 K) ∧
 (((decide (x0 < 0)) != (decide (x1 < 0))) = false →
 X1 x0 x1 w3 a9i 9223372036854775807 F4 K))))
theorem c0M (x0 : Int) (x1 : Int) {w0 w : World} {ps0 : Nat → Prop} {H0 H : Hp} {K : Int → Int → Hp → Prop} {R : Value → World → Prop} {E : Pan} (I : Inv w0 ps0 H0 H [] w) (hR : ∀ (r0 : Int) (r1 : Int) (H' : Hp) (w' : World) (_ : Inv w0 ps0 H0 H' [] w') (_ : K r0 r1 H'), R (Value.tuple #[(vi r0), (vi r1)]) w') (h : a5D x0 x1 H K) : F28 (vi x0) (vi x1) w R E := by
 unfold a5D at h
 unfold F28
 refine f5 (cap := []) (fun args w => Tryd.call48 args w) ?_
 refine i6 (Fi := []) (Fr := []) I (h) (fun v_5 H_1 F_6 w_2 I_3 l_8 k_4 q_7 => ?_) (fun _ _ _ _ _ q => q.elim)
 obtain ⟨s7, rfl, rfl, h⟩ := q_7
 refine f5 (cap := []) (fun args w => Tryd.call48 args w) ?_
 refine i6 (Fi := []) (Fr := []) I_3 (h) (fun b6s P9 c4X K6 q5 b2l a8S a9O => ?_) (fun _ _ _ _ _ q => q.elim)
 obtain ⟨o8, rfl, rfl, h⟩ := a9O
 refine f5 (cap := []) (fun args w => Tryd.call47 args w) ?_
 refine i6 (Fi := []) (Fr := []) q5 (h) (fun b4K F4 d4g o7 X6 b4L a9P b6t => ?_) (fun _ _ _ _ _ q => q.elim)
 obtain ⟨w3, a9i, rfl, rfl, h⟩ := b6t
 refine a8 (i4 _ _ (Value.int .u64 w3) rfl) ?_
 refine a8 (i4 _ _ (Value.int .u64 a9i) rfl) ?_
 have hj1 : ∀ (a7A : Int) (H : Hp) (w : World) (_ : Inv w0 ps0 H0 H [] w) (_ : X1 x0 x1 w3 a9i a7A H K), d0V (vi x0) (vi x1) (Value.int .u64 w3) (Value.int .u64 a9i) (Value.int .u64 a7A) w R E := by
  intro a7A H w I h
  unfold d0V
  intro _
  unfold X1 at h
  refine a8 (o4 _ _ _ _ _ _) ?_
  try simp only [m4]
  try simp only [m4, F8, P1, M9, G2, P5, P2, P3, P4, P6]
  refine a8 (Pu.g fun hb => by have b6 := hb; first | exact (D7 _ _ _ _ _ _) | (simp only [b7 b6]; exact (D7 _ _ _ _ _ _)) | (simp only [d7 b6, b7 b6, b7 hb, l9 b6, f9]; exact (D7 _ _ _ _ _ _))) ?_
  refine a8 (A5 _ _) ?_
  refine j9 (fun c2h => ?_) (fun c2h => ?_)
  ·replace h := h.1 c2h
   exact hR 0 1 H _ I h
  ·replace h := h.2 c2h
   refine a8 (a8z _ _ _ _ _ _) ?_
   exact hR (IntKind.wrap .i64 (x0 * x1)) 0 H _ I h
 refine s8 fun j1 hx1 => ?_
 refine a8 (o3 _ _ _ _ _ _) ?_
 refine a8 (o3 _ _ _ _ _ _) ?_
 refine a8 (a6o _ _ _ _) ?_
 refine j9 (fun b2k => ?_) (fun b2k => ?_)
 ·replace h := h.1 b2k
  refine a8 (s9 _ _ _ _ _ _) ?_
  exact hx1 _ _ (hj1 (IntKind.wrap .u64 (9223372036854775807 + 1)) F4 _ X6 h)
 ·replace h := h.2 b2k
  exact hx1 _ _ (hj1 9223372036854775807 F4 _ X6 h)
theorem c2q (x0 : Int) (x1 : Int) {H : Hp} {K : Int → Int → Hp → Prop} (h : a5D x0 x1 H K) : a5n x0 x1 H K := by
 intro w I
 refine g2Q ?_
 refine c0M x0 x1 I (fun r0 r1 H' w' I' hk => ⟨H', _, I', r0, r1, rfl, rfl, hk⟩) h
def a3b (x0 : Int) (x1 : Int) (H : Hp) (K : Int → Hp → Prop) : Prop :=
 (x1 = 0 →
 K 2 H) ∧
 (¬ (x1 = 0) →
 (((decide (x0 = (-9223372036854775808))) && (decide (x1 = (-1)))) = true →
 K 1 H) ∧
 (((decide (x0 = (-9223372036854775808))) && (decide (x1 = (-1)))) = false →
 K 0 H))
theorem b5K (x0 : Int) (x1 : Int) {w0 w : World} {ps0 : Nat → Prop} {H0 H : Hp} {K : Int → Hp → Prop} {R : Value → World → Prop} {E : Pan} (I : Inv w0 ps0 H0 H [] w) (hR : ∀ (r0 : Int) (H' : Hp) (w' : World) (_ : Inv w0 ps0 H0 H' [] w') (_ : K r0 H'), R (vi r0) w') (h : a3b x0 x1 H K) : F49 (vi x0) (vi x1) w R E := by
 unfold a3b at h
 unfold F49
 refine a8 (f4 _ _ _ _ _ _) ?_
 refine g8 (fun c_2 => ?_) (fun c_2 => ?_)
 ·replace h := h.1 c_2
  exact hR 2 H _ I h
 ·replace h := h.2 c_2
  refine a8 (f4 _ _ _ _ _ _) ?_
  try simp only [m4]
  refine a8 (Pu.g fun hb => by have b6 := hb; first | exact (f4 _ _ _ _ _ _) | (simp only [b7 b6]; exact (f4 _ _ _ _ _ _)) | (simp only [d7 b6, b7 b6, b7 hb, f8 b6, f9]; exact (f4 _ _ _ _ _ _))) ?_
  refine a8 (k9 _ _) ?_
  refine j9 (fun c_1 => ?_) (fun c_1 => ?_)
  ·replace h := h.1 c_1
   exact hR 1 H _ I h
  ·replace h := h.2 c_1
   exact hR 0 H _ I h
theorem b7n (x0 : Int) (x1 : Int) {H : Hp} {K : Int → Hp → Prop} (h : a3b x0 x1 H K) : a2L x0 x1 H K := by
 intro w I
 refine g3j ?_
 refine b5K x0 x1 I (fun r0 H' w' I' hk => ⟨H', _, I', r0, rfl, rfl, hk⟩) h
def a8o (x0 : Int) (x1 : Int) (H : Hp) (K : Int → Int → Hp → Prop) : Prop :=
 a2L x0 x1 H (fun (s7 : Int) (H_1 : Hp) =>
 (¬ (s7 = 0) →
 K 0 s7 H_1) ∧
 (s7 = 0 →
 (x1 : Int) ≠ 0 ∧
 K (IntKind.wrap .i64 (Int.tdiv x0 x1)) 0 H_1))
theorem c0N (x0 : Int) (x1 : Int) {w0 w : World} {ps0 : Nat → Prop} {H0 H : Hp} {K : Int → Int → Hp → Prop} {R : Value → World → Prop} {E : Pan} (I : Inv w0 ps0 H0 H [] w) (hR : ∀ (r0 : Int) (r1 : Int) (H' : Hp) (w' : World) (_ : Inv w0 ps0 H0 H' [] w') (_ : K r0 r1 H'), R (Value.tuple #[(vi r0), (vi r1)]) w') (h : a8o x0 x1 H K) : F29 (vi x0) (vi x1) w R E := by
 unfold a8o at h
 unfold F29
 refine f5 (cap := []) (fun args w => Tryd.call49 args w) ?_
 refine i6 (Fi := []) (Fr := []) I (h) (fun v_5 H_1 F_6 w_2 I_3 l_8 k_4 q_7 => ?_) (fun _ _ _ _ _ q => q.elim)
 obtain ⟨s7, rfl, rfl, h⟩ := q_7
 refine a8 (o4 _ _ _ _ _ _) ?_
 refine a3g (fun a1F => ?_) (fun a1F => ?_)
 ·replace h := h.1 a1F
  exact hR 0 s7 H_1 _ I_3 h
 ·replace h := h.2 a1F
  obtain ⟨a6J, h⟩ := h
  refine a8 (c2K _ _ _ _ _ _ a6J) ?_
  exact hR (IntKind.wrap .i64 (Int.tdiv x0 x1)) 0 H_1 _ I_3 h
theorem c2r (x0 : Int) (x1 : Int) {H : Hp} {K : Int → Int → Hp → Prop} (h : a8o x0 x1 H K) : a5o x0 x1 H K := by
 intro w I
 refine g2S ?_
 refine c0N x0 x1 I (fun r0 r1 H' w' I' hk => ⟨H', _, I', r0, r1, rfl, rfl, hk⟩) h
def a8p (x0 : Int) (x1 : Int) (H : Hp) (K : Int → Int → Hp → Prop) : Prop :=
 a2L x0 x1 H (fun (s7 : Int) (H_1 : Hp) =>
 (¬ (s7 = 0) →
 K 0 s7 H_1) ∧
 (s7 = 0 →
 (x1 : Int) ≠ 0 ∧
 K (Int.tmod x0 x1) 0 H_1))
theorem c0O (x0 : Int) (x1 : Int) {w0 w : World} {ps0 : Nat → Prop} {H0 H : Hp} {K : Int → Int → Hp → Prop} {R : Value → World → Prop} {E : Pan} (I : Inv w0 ps0 H0 H [] w) (hR : ∀ (r0 : Int) (r1 : Int) (H' : Hp) (w' : World) (_ : Inv w0 ps0 H0 H' [] w') (_ : K r0 r1 H'), R (Value.tuple #[(vi r0), (vi r1)]) w') (h : a8p x0 x1 H K) : F30 (vi x0) (vi x1) w R E := by
 unfold a8p at h
 unfold F30
 refine f5 (cap := []) (fun args w => Tryd.call49 args w) ?_
 refine i6 (Fi := []) (Fr := []) I (h) (fun v_5 H_1 F_6 w_2 I_3 l_8 k_4 q_7 => ?_) (fun _ _ _ _ _ q => q.elim)
 obtain ⟨s7, rfl, rfl, h⟩ := q_7
 refine a8 (o4 _ _ _ _ _ _) ?_
 refine a3g (fun a1F => ?_) (fun a1F => ?_)
 ·replace h := h.1 a1F
  exact hR 0 s7 H_1 _ I_3 h
 ·replace h := h.2 a1F
  obtain ⟨a6J, h⟩ := h
  refine a8 (f3U _ _ _ _ _ _ a6J) ?_
  exact hR (Int.tmod x0 x1) 0 H_1 _ I_3 h
theorem c2s (x0 : Int) (x1 : Int) {H : Hp} {K : Int → Int → Hp → Prop} (h : a8p x0 x1 H K) : a5p x0 x1 H K := by
 intro w I
 refine g2U ?_
 refine c0O x0 x1 I (fun r0 r1 H' w' I' hk => ⟨H', _, I', r0, r1, rfl, rfl, hk⟩) h
def a2p (H : Hp) (K : Hp → Prop) : Prop :=
 K H
theorem b4Z {w0 w : World} {ps0 : Nat → Prop} {H0 H : Hp} {K : Hp → Prop} {R : Value → World → Prop} {E : Pan} (I : Inv w0 ps0 H0 H [] w) (hR : ∀ (H' : Hp) (w' : World) (_ : Inv w0 ps0 H0 H' [] w') (_ : K H'), R (Value.agg #[(Value.func (.func 123) #[] #[]), (Value.func (.func 124) #[] #[]), (Value.func (.func 125) #[] #[]), (Value.func (.func 126) #[] #[]), (Value.func (.func 127) #[] #[]), (Value.func (.func 128) #[] #[]), (Value.func (.func 129) #[] #[])]) w') (h : a2p H K) : d5J w R E := by
 unfold a2p at h
 unfold d5J
 refine u2 I Tryd.zeroValue171 (cs := [Value.nilFunc, Value.nilFunc, Value.nilFunc, Value.nilFunc, Value.nilFunc, Value.nilFunc, Value.nilFunc]) rfl fun g_2 w_3 I_4 k_5 => ?_
 refine a8 a5S ?_
 refine k3 I_4 Tryd.sizeOf171 (vs := [(Value.func (.func 123) #[] #[]), (Value.func (.func 124) #[] #[]), (Value.func (.func 125) #[] #[]), (Value.func (.func 126) #[] #[]), (Value.func (.func 127) #[] #[]), (Value.func (.func 128) #[] #[]), (Value.func (.func 129) #[] #[])]) (cs' := [(Value.func (.func 123) #[] #[]), (Value.func (.func 124) #[] #[]), (Value.func (.func 125) #[] #[]), (Value.func (.func 126) #[] #[]), (Value.func (.func 127) #[] #[]), (Value.func (.func 128) #[] #[]), (Value.func (.func 129) #[] #[])]) rfl rfl (nb rfl) rfl rfl fun w_6 I_7 k_8 => ?_
 refine t6 Tryd.isAgg171 Tryd.sizeOf171 rfl (I_7.at1 (o := 0) (vs := [(Value.func (.func 123) #[] #[]), (Value.func (.func 124) #[] #[]), (Value.func (.func 125) #[] #[]), (Value.func (.func 126) #[] #[]), (Value.func (.func 127) #[] #[]), (Value.func (.func 128) #[] #[]), (Value.func (.func 129) #[] #[])]) (nb rfl) rfl) ?_
 exact hR H _ I_7.drop h
theorem b5L {H : Hp} {K : Hp → Prop} (h : a2p H K) : a4V H K := by
 intro w I
 refine f0V ?_
 refine b4Z I (fun H' w' I' hk => ⟨H', _, I', rfl, rfl, hk⟩) h
def a1h (x0 : Int) (x1 : Int) (H : Hp) (K : Bool → Hp → Prop) : Prop :=
 K (decide (x0 < x1)) H
theorem b3d (x0 : Int) (x1 : Int) {w0 w : World} {ps0 : Nat → Prop} {H0 H : Hp} {K : Bool → Hp → Prop} {R : Value → World → Prop} {E : Pan} (I : Inv w0 ps0 H0 H [] w) (hR : ∀ (r0 : Bool) (H' : Hp) (w' : World) (_ : Inv w0 ps0 H0 H' [] w') (_ : K r0 H'), R (Value.bool r0) w') (h : a1h x0 x1 H K) : d5L (vi x0) (vi x1) w R E := by
 unfold a1h at h
 unfold d5L
 refine a8 (o3 _ _ _ _ _ _) ?_
 exact hR (decide (x0 < x1)) H _ I h
theorem b3J (x0 : Int) (x1 : Int) {H : Hp} {K : Bool → Hp → Prop} (h : a1h x0 x1 H K) : a7l x0 x1 H K := by
 intro w I
 refine f0Z ?_
 refine b3d x0 x1 I (fun r0 H' w' I' hk => ⟨H', _, I', r0, rfl, rfl, hk⟩) h
def a1i (x0 : Int) (x1 : Int) (H : Hp) (K : Bool → Hp → Prop) : Prop :=
 K (decide (x0 ≤ x1)) H
theorem b3e (x0 : Int) (x1 : Int) {w0 w : World} {ps0 : Nat → Prop} {H0 H : Hp} {K : Bool → Hp → Prop} {R : Value → World → Prop} {E : Pan} (I : Inv w0 ps0 H0 H [] w) (hR : ∀ (r0 : Bool) (H' : Hp) (w' : World) (_ : Inv w0 ps0 H0 H' [] w') (_ : K r0 H'), R (Value.bool r0) w') (h : a1i x0 x1 H K) : d5M (vi x0) (vi x1) w R E := by
 unfold a1i at h
 unfold d5M
 refine a8 (a0x _ _ _ _ _ _) ?_
 exact hR (decide (x0 ≤ x1)) H _ I h
theorem b3K (x0 : Int) (x1 : Int) {H : Hp} {K : Bool → Hp → Prop} (h : a1i x0 x1 H K) : a7m x0 x1 H K := by
 intro w I
 refine f1b ?_
 refine b3e x0 x1 I (fun r0 H' w' I' hk => ⟨H', _, I', r0, rfl, rfl, hk⟩) h
def a1j (x0 : Int) (x1 : Int) (H : Hp) (K : Bool → Hp → Prop) : Prop :=
 K (decide (x0 = x1)) H
theorem b3f (x0 : Int) (x1 : Int) {w0 w : World} {ps0 : Nat → Prop} {H0 H : Hp} {K : Bool → Hp → Prop} {R : Value → World → Prop} {E : Pan} (I : Inv w0 ps0 H0 H [] w) (hR : ∀ (r0 : Bool) (H' : Hp) (w' : World) (_ : Inv w0 ps0 H0 H' [] w') (_ : K r0 H'), R (Value.bool r0) w') (h : a1j x0 x1 H K) : d5N (vi x0) (vi x1) w R E := by
 unfold a1j at h
 unfold d5N
 refine a8 (f4 _ _ _ _ _ _) ?_
 exact hR (decide (x0 = x1)) H _ I h
theorem b3L (x0 : Int) (x1 : Int) {H : Hp} {K : Bool → Hp → Prop} (h : a1j x0 x1 H K) : a7n x0 x1 H K := by
 intro w I
 refine f1d ?_
 refine b3f x0 x1 I (fun r0 H' w' I' hk => ⟨H', _, I', r0, rfl, rfl, hk⟩) h
def a1k (x0 : Int) (x1 : Int) (H : Hp) (K : Bool → Hp → Prop) : Prop :=
 K (!decide (x0 = x1)) H
theorem b3g (x0 : Int) (x1 : Int) {w0 w : World} {ps0 : Nat → Prop} {H0 H : Hp} {K : Bool → Hp → Prop} {R : Value → World → Prop} {E : Pan} (I : Inv w0 ps0 H0 H [] w) (hR : ∀ (r0 : Bool) (H' : Hp) (w' : World) (_ : Inv w0 ps0 H0 H' [] w') (_ : K r0 H'), R (Value.bool r0) w') (h : a1k x0 x1 H K) : d5O (vi x0) (vi x1) w R E := by
 unfold a1k at h
 unfold d5O
 refine a8 (o4 _ _ _ _ _ _) ?_
 exact hR (!decide (x0 = x1)) H _ I h
theorem b3M (x0 : Int) (x1 : Int) {H : Hp} {K : Bool → Hp → Prop} (h : a1k x0 x1 H K) : a7o x0 x1 H K := by
 intro w I
 refine f1f ?_
 refine b3g x0 x1 I (fun r0 H' w' I' hk => ⟨H', _, I', r0, rfl, rfl, hk⟩) h
def a1l (x0 : Int) (x1 : Int) (H : Hp) (K : Bool → Hp → Prop) : Prop :=
 K (decide (x1 < x0)) H
theorem b3h (x0 : Int) (x1 : Int) {w0 w : World} {ps0 : Nat → Prop} {H0 H : Hp} {K : Bool → Hp → Prop} {R : Value → World → Prop} {E : Pan} (I : Inv w0 ps0 H0 H [] w) (hR : ∀ (r0 : Bool) (H' : Hp) (w' : World) (_ : Inv w0 ps0 H0 H' [] w') (_ : K r0 H'), R (Value.bool r0) w') (h : a1l x0 x1 H K) : d5P (vi x0) (vi x1) w R E := by
 unfold a1l at h
 unfold d5P
 refine a8 (D7 _ _ _ _ _ _) ?_
 exact hR (decide (x1 < x0)) H _ I h
theorem b3N (x0 : Int) (x1 : Int) {H : Hp} {K : Bool → Hp → Prop} (h : a1l x0 x1 H K) : a7p x0 x1 H K := by
 intro w I
 refine f1h ?_
 refine b3h x0 x1 I (fun r0 H' w' I' hk => ⟨H', _, I', r0, rfl, rfl, hk⟩) h
def a1m (x0 : Int) (x1 : Int) (H : Hp) (K : Bool → Hp → Prop) : Prop :=
 K (decide (x1 ≤ x0)) H
theorem b3i (x0 : Int) (x1 : Int) {w0 w : World} {ps0 : Nat → Prop} {H0 H : Hp} {K : Bool → Hp → Prop} {R : Value → World → Prop} {E : Pan} (I : Inv w0 ps0 H0 H [] w) (hR : ∀ (r0 : Bool) (H' : Hp) (w' : World) (_ : Inv w0 ps0 H0 H' [] w') (_ : K r0 H'), R (Value.bool r0) w') (h : a1m x0 x1 H K) : d5Q (vi x0) (vi x1) w R E := by
 unfold a1m at h
 unfold d5Q
 refine a8 (a0y _ _ _ _ _ _) ?_
 exact hR (decide (x1 ≤ x0)) H _ I h
theorem b3O (x0 : Int) (x1 : Int) {H : Hp} {K : Bool → Hp → Prop} (h : a1m x0 x1 H K) : a7q x0 x1 H K := by
 intro w I
 refine f1j ?_
 refine b3i x0 x1 I (fun r0 H' w' I' hk => ⟨H', _, I', r0, rfl, rfl, hk⟩) h
def a5E (x0 : Int) (x1 : Int) (x2 : Int) (H : Hp) (K : Bool → Hp → Prop) : Prop :=
 (((decide (x0 < 1)) || (decide (6 < x0))) = true →
 K false H) ∧
 (((decide (x0 < 1)) || (decide (6 < x0))) = false →
 a4V H (fun (H_1 : Hp) =>
 (0 : Int) ≤ x0 ∧ (x0 : Int) < 7 ∧
 ∃ b5a : Bool → Hp → Prop, (∀ (a2b : Bool) (a3Z : Hp), b5a a2b a3Z →
 K a2b a3Z) ∧ ((x0 : Int) = 0 → b8z x1 x2 H_1 b5a) ∧ ((x0 : Int) = 1 → a7l x1 x2 H_1 b5a) ∧ ((x0 : Int) = 2 → a7m x1 x2 H_1 b5a) ∧ ((x0 : Int) = 3 → a7n x1 x2 H_1 b5a) ∧ ((x0 : Int) = 4 → a7o x1 x2 H_1 b5a) ∧ ((x0 : Int) = 5 → a7p x1 x2 H_1 b5a) ∧ ((x0 : Int) = 6 → a7q x1 x2 H_1 b5a)))
theorem c0P (x0 : Int) (x1 : Int) (x2 : Int) {w0 w : World} {ps0 : Nat → Prop} {H0 H : Hp} {K : Bool → Hp → Prop} {R : Value → World → Prop} {E : Pan} (I : Inv w0 ps0 H0 H [] w) (hR : ∀ (r0 : Bool) (H' : Hp) (w' : World) (_ : Inv w0 ps0 H0 H' [] w') (_ : K r0 H'), R (Value.bool r0) w') (h : a5E x0 x1 x2 H K) : F75 (vi x0) (vi x1) (vi x2) w R E := by
 unfold a5E at h
 unfold F75
 refine a8 (o3 _ _ _ _ _ _) ?_
 try simp only [m4]
 refine a8 (Pu.g fun hb => by have b6 := hb; first | exact (D7 _ _ _ _ _ _) | (simp only [b7 b6]; exact (D7 _ _ _ _ _ _)) | (simp only [d7 b6, b7 b6, b7 hb, l9 b6, f9]; exact (D7 _ _ _ _ _ _))) ?_
 refine a8 (A5 _ _) ?_
 refine j9 (fun c1n => ?_) (fun c1n => ?_)
 ·replace h := h.1 c1n
  exact hR false H _ I h
 ·replace h := h.2 c1n
  refine f5 (cap := []) (fun args w => Tryd.call110 args w) ?_
  refine i6 (Fi := []) (Fr := []) I (h) (fun v_5 H_1 F_6 w_2 I_3 l_8 k_4 q_7 => ?_) (fun _ _ _ _ _ q => q.elim)
  obtain ⟨rfl, rfl, h⟩ := q_7
  obtain ⟨a6J, h5o, h⟩ := h
  refine a8 (U4 _ _ a6J h5o) ?_
  obtain ⟨b5a, c9G, b0a, b6S, b2G, a5x, h5p, h5q, a8a⟩ := h
  refine e7G (D := fun b7o a2w => ∃ (a2b : Bool) (a3Z : Hp), b7o = (Value.bool a2b) ∧ (Inv w0 ps0 H0 a3Z [] a2w) ∧ (∀ i, i < w_2.heap.size → ¬ inF [] i → a2w.heap[i]? = w_2.heap[i]?) ∧ Hle H_1 a3Z ∧ (b5a a2b a3Z)) ?_ ?_
  ·obtain e | e | e | e | e | e | e := (by omega : (x0 : Int) = 0 ∨ (x0 : Int) = 1 ∨ (x0 : Int) = 2 ∨ (x0 : Int) = 3 ∨ (x0 : Int) = 4 ∨ (x0 : Int) = 5 ∨ (x0 : Int) = 6)
   ·replace h := b0a e
    refine b4b (s' := xCall (Value.func (.func 123) #[] #[]) [(vi x1), (vi x2)]) (by rw [e]; rfl) ?_
    refine f5 (cap := []) (fun args w => Tryd.call123 args w) ?_
    refine i6 (Fi := []) (Fr := []) I_3 (h) (fun b7o a3Z c5M a2w J7 a4T a2T b0j => ?_) (fun _ _ _ _ _ q => q.elim)
    obtain ⟨a2b, rfl, rfl, h⟩ := b0j
    exact ⟨a2b, a3Z, rfl, J7, a2T, a4T, h⟩
   ·replace h := b6S e
    refine b4b (s' := xCall (Value.func (.func 124) #[] #[]) [(vi x1), (vi x2)]) (by rw [e]; rfl) ?_
    refine f5 (cap := []) (fun args w => Tryd.call124 args w) ?_
    refine i6 (Fi := []) (Fr := []) I_3 (h) (fun b7o a3Z c5M a2w J7 a4T a2T b0j => ?_) (fun _ _ _ _ _ q => q.elim)
    obtain ⟨a2b, rfl, rfl, h⟩ := b0j
    exact ⟨a2b, a3Z, rfl, J7, a2T, a4T, h⟩
   ·replace h := b2G e
    refine b4b (s' := xCall (Value.func (.func 125) #[] #[]) [(vi x1), (vi x2)]) (by rw [e]; rfl) ?_
    refine f5 (cap := []) (fun args w => Tryd.call125 args w) ?_
    refine i6 (Fi := []) (Fr := []) I_3 (h) (fun b7o a3Z c5M a2w J7 a4T a2T b0j => ?_) (fun _ _ _ _ _ q => q.elim)
    obtain ⟨a2b, rfl, rfl, h⟩ := b0j
    exact ⟨a2b, a3Z, rfl, J7, a2T, a4T, h⟩
   ·replace h := a5x e
    refine b4b (s' := xCall (Value.func (.func 126) #[] #[]) [(vi x1), (vi x2)]) (by rw [e]; rfl) ?_
    refine f5 (cap := []) (fun args w => Tryd.call126 args w) ?_
    refine i6 (Fi := []) (Fr := []) I_3 (h) (fun b7o a3Z c5M a2w J7 a4T a2T b0j => ?_) (fun _ _ _ _ _ q => q.elim)
    obtain ⟨a2b, rfl, rfl, h⟩ := b0j
    exact ⟨a2b, a3Z, rfl, J7, a2T, a4T, h⟩
   ·replace h := h5p e
    refine b4b (s' := xCall (Value.func (.func 127) #[] #[]) [(vi x1), (vi x2)]) (by rw [e]; rfl) ?_
    refine f5 (cap := []) (fun args w => Tryd.call127 args w) ?_
    refine i6 (Fi := []) (Fr := []) I_3 (h) (fun b7o a3Z c5M a2w J7 a4T a2T b0j => ?_) (fun _ _ _ _ _ q => q.elim)
    obtain ⟨a2b, rfl, rfl, h⟩ := b0j
    exact ⟨a2b, a3Z, rfl, J7, a2T, a4T, h⟩
   ·replace h := h5q e
    refine b4b (s' := xCall (Value.func (.func 128) #[] #[]) [(vi x1), (vi x2)]) (by rw [e]; rfl) ?_
    refine f5 (cap := []) (fun args w => Tryd.call128 args w) ?_
    refine i6 (Fi := []) (Fr := []) I_3 (h) (fun b7o a3Z c5M a2w J7 a4T a2T b0j => ?_) (fun _ _ _ _ _ q => q.elim)
    obtain ⟨a2b, rfl, rfl, h⟩ := b0j
    exact ⟨a2b, a3Z, rfl, J7, a2T, a4T, h⟩
   ·replace h := a8a e
    refine b4b (s' := xCall (Value.func (.func 129) #[] #[]) [(vi x1), (vi x2)]) (by rw [e]; rfl) ?_
    refine f5 (cap := []) (fun args w => Tryd.call129 args w) ?_
    refine i6 (Fi := []) (Fr := []) I_3 (h) (fun b7o a3Z c5M a2w J7 a4T a2T b0j => ?_) (fun _ _ _ _ _ q => q.elim)
    obtain ⟨a2b, rfl, rfl, h⟩ := b0j
    exact ⟨a2b, a3Z, rfl, J7, a2T, a4T, h⟩
  ·rintro b7o a2w ⟨a2b, a3Z, rfl, J7, a2T, a4T, h⟩
   replace h := c9G _ _ h
   exact hR a2b a3Z _ J7 h
theorem c2t (x0 : Int) (x1 : Int) (x2 : Int) {H : Hp} {K : Bool → Hp → Prop} (h : a5E x0 x1 x2 H K) : a7X x0 x1 x2 H K := by
 intro w I
 refine g3t ?_
 refine c0P x0 x1 x2 I (fun r0 H' w' I' hk => ⟨H', _, I', r0, rfl, rfl, hk⟩) h
def a1o (x0 : Int) (H : Hp) (K : Int → Int → Hp → Prop) : Prop :=
 (x0 = (-9223372036854775808) →
 K 0 1 H) ∧
 (¬ (x0 = (-9223372036854775808)) →
 K (IntKind.wrap .i64 (0 - x0)) 0 H)
theorem b3j (x0 : Int) {w0 w : World} {ps0 : Nat → Prop} {H0 H : Hp} {K : Int → Int → Hp → Prop} {R : Value → World → Prop} {E : Pan} (I : Inv w0 ps0 H0 H [] w) (hR : ∀ (r0 : Int) (r1 : Int) (H' : Hp) (w' : World) (_ : Inv w0 ps0 H0 H' [] w') (_ : K r0 r1 H'), R (Value.tuple #[(vi r0), (vi r1)]) w') (h : a1o x0 H K) : d5D (vi x0) w R E := by
 unfold a1o at h
 unfold d5D
 refine a8 (f4 _ _ _ _ _ _) ?_
 refine g8 (fun c_1 => ?_) (fun c_1 => ?_)
 ·replace h := h.1 c_1
  exact hR 0 1 H _ I h
 ·replace h := h.2 c_1
  refine a8 (b5k _ _) ?_
  exact hR (IntKind.wrap .i64 (0 - x0)) 0 H _ I h
theorem b3P (x0 : Int) {H : Hp} {K : Int → Int → Hp → Prop} (h : a1o x0 H K) : W2 x0 H K := by
 intro w I
 refine f0J ?_
 refine b3j x0 I (fun r0 r1 H' w' I' hk => ⟨H', _, I', r0, r1, rfl, rfl, hk⟩) h
def a1p (x0 : Int) (x1 : Int) (H : Hp) (K : Int → Int → Hp → Prop) : Prop :=
 ((((decide (0 < x1)) && (decide ((IntKind.wrap .i64 (9223372036854775807 - x1)) < x0))) || ((decide (x1 < 0)) && (decide (x0 < (IntKind.wrap .i64 ((-9223372036854775808) - x1)))))) = true →
 K 0 1 H) ∧
 ((((decide (0 < x1)) && (decide ((IntKind.wrap .i64 (9223372036854775807 - x1)) < x0))) || ((decide (x1 < 0)) && (decide (x0 < (IntKind.wrap .i64 ((-9223372036854775808) - x1)))))) = false →
 K (IntKind.wrap .i64 (x0 + x1)) 0 H)
theorem b3k (x0 : Int) (x1 : Int) {w0 w : World} {ps0 : Nat → Prop} {H0 H : Hp} {K : Int → Int → Hp → Prop} {R : Value → World → Prop} {E : Pan} (I : Inv w0 ps0 H0 H [] w) (hR : ∀ (r0 : Int) (r1 : Int) (H' : Hp) (w' : World) (_ : Inv w0 ps0 H0 H' [] w') (_ : K r0 r1 H'), R (Value.tuple #[(vi r0), (vi r1)]) w') (h : a1p x0 x1 H K) : d5E (vi x0) (vi x1) w R E := by
 unfold a1p at h
 unfold d5E
 refine a8 (D7 _ _ _ _ _ _) ?_
 try simp only [m4]
 try simp only [m4, F8, P1, M9, G2, P5, P2, P3, P4, P6]
 refine a8 (Pu.g fun hb => by have b6 := hb; first | exact (a2C _ _ _ _ _ _) | (simp only [b7 b6]; exact (a2C _ _ _ _ _ _)) | (simp only [d7 b6, b7 b6, b7 hb, f8 b6, f9]; exact (a2C _ _ _ _ _ _))) ?_
 refine a8 (Pu.g fun hb => by have b6 := hb; first | exact (D7 _ _ _ _ _ _) | (simp only [b7 b6]; exact (D7 _ _ _ _ _ _)) | (simp only [d7 b6, b7 b6, b7 hb, f8 b6, f9]; exact (D7 _ _ _ _ _ _))) ?_
 refine a8 (k9 _ _) ?_
 try simp only [m4]
 refine a8 (Pu.g fun hb => by have b6 := hb; first | exact (o3 _ _ _ _ _ _) | (simp only [b7 b6]; exact (o3 _ _ _ _ _ _)) | (simp only [d7 b6, b7 b6, b7 hb, l9 b6, f9]; exact (o3 _ _ _ _ _ _))) ?_
 try simp only [F8, G2]
 try simp only [m4, F8, P1, M9, G2, P5, P2, P3, P4, P6]
 try simp only [m4, F8, P1, M9, G2, P5, P2, P3, P4, P6]
 refine a8 (Pu.e (E3 _ _ _) (Pu.g fun hb => by obtain ⟨b6, i5⟩ := J3 hb; first | exact (a2C _ _ _ _ _ _) | (simp only [b7 hb]; exact (a2C _ _ _ _ _ _)) | (simp only [d7 b6, b7 b6, d7 i5, b7 i5, b7 hb, m8 hb]; exact (a2C _ _ _ _ _ _)) | (simp only [d7 b6, b7 b6, d7 i5, b7 i5, b7 hb, f8 hb, f9]; exact (a2C _ _ _ _ _ _)))) ?_
 refine a8 (Pu.e (E3 _ _ _) (Pu.g fun hb => by obtain ⟨b6, i5⟩ := J3 hb; first | exact (o3 _ _ _ _ _ _) | (simp only [b7 hb]; exact (o3 _ _ _ _ _ _)) | (simp only [d7 b6, b7 b6, d7 i5, b7 i5, b7 hb, m8 hb]; exact (o3 _ _ _ _ _ _)) | (simp only [d7 b6, b7 b6, d7 i5, b7 i5, b7 hb, f8 hb, f9]; exact (o3 _ _ _ _ _ _)))) ?_
 refine a8 (Pu.g fun hb => by have b6 := hb; first | exact (k9 _ _) | (simp only [b7 b6, J1 b6]; exact (k9 _ _)) | (simp only [d7 b6, b7 b6, b7 hb, l9 b6, f9]; exact (k9 _ _))) ?_
 refine a8 (A5 _ _) ?_
 refine j9 (fun c_1 => ?_) (fun c_1 => ?_)
 ·replace h := h.1 c_1
  exact hR 0 1 H _ I h
 ·replace h := h.2 c_1
  refine a8 (s9 _ _ _ _ _ _) ?_
  exact hR (IntKind.wrap .i64 (x0 + x1)) 0 H _ I h
theorem b3Q (x0 : Int) (x1 : Int) {H : Hp} {K : Int → Int → Hp → Prop} (h : a1p x0 x1 H K) : a3P x0 x1 H K := by
 intro w I
 refine f0L ?_
 refine b3k x0 x1 I (fun r0 r1 H' w' I' hk => ⟨H', _, I', r0, r1, rfl, rfl, hk⟩) h
def a1q (x0 : Int) (x1 : Int) (H : Hp) (K : Int → Int → Hp → Prop) : Prop :=
 ((((decide (x1 < 0)) && (decide ((IntKind.wrap .i64 (9223372036854775807 + x1)) < x0))) || ((decide (0 < x1)) && (decide (x0 < (IntKind.wrap .i64 ((-9223372036854775808) + x1)))))) = true →
 K 0 1 H) ∧
 ((((decide (x1 < 0)) && (decide ((IntKind.wrap .i64 (9223372036854775807 + x1)) < x0))) || ((decide (0 < x1)) && (decide (x0 < (IntKind.wrap .i64 ((-9223372036854775808) + x1)))))) = false →
 K (IntKind.wrap .i64 (x0 - x1)) 0 H)
theorem b3l (x0 : Int) (x1 : Int) {w0 w : World} {ps0 : Nat → Prop} {H0 H : Hp} {K : Int → Int → Hp → Prop} {R : Value → World → Prop} {E : Pan} (I : Inv w0 ps0 H0 H [] w) (hR : ∀ (r0 : Int) (r1 : Int) (H' : Hp) (w' : World) (_ : Inv w0 ps0 H0 H' [] w') (_ : K r0 r1 H'), R (Value.tuple #[(vi r0), (vi r1)]) w') (h : a1q x0 x1 H K) : d5F (vi x0) (vi x1) w R E := by
 unfold a1q at h
 unfold d5F
 refine a8 (o3 _ _ _ _ _ _) ?_
 try simp only [m4]
 try simp only [m4, F8, P1, M9, G2, P5, P2, P3, P4, P6]
 refine a8 (Pu.g fun hb => by have b6 := hb; first | exact (s9 _ _ _ _ _ _) | (simp only [b7 b6]; exact (s9 _ _ _ _ _ _)) | (simp only [d7 b6, b7 b6, b7 hb, f8 b6, f9]; exact (s9 _ _ _ _ _ _))) ?_
 refine a8 (Pu.g fun hb => by have b6 := hb; first | exact (D7 _ _ _ _ _ _) | (simp only [b7 b6]; exact (D7 _ _ _ _ _ _)) | (simp only [d7 b6, b7 b6, b7 hb, f8 b6, f9]; exact (D7 _ _ _ _ _ _))) ?_
 refine a8 (k9 _ _) ?_
 try simp only [m4]
 refine a8 (Pu.g fun hb => by have b6 := hb; first | exact (D7 _ _ _ _ _ _) | (simp only [b7 b6]; exact (D7 _ _ _ _ _ _)) | (simp only [d7 b6, b7 b6, b7 hb, l9 b6, f9]; exact (D7 _ _ _ _ _ _))) ?_
 try simp only [F8, G2]
 try simp only [m4, F8, P1, M9, G2, P5, P2, P3, P4, P6]
 try simp only [m4, F8, P1, M9, G2, P5, P2, P3, P4, P6]
 refine a8 (Pu.e (E3 _ _ _) (Pu.g fun hb => by obtain ⟨b6, i5⟩ := J3 hb; first | exact (s9 _ _ _ _ _ _) | (simp only [b7 hb]; exact (s9 _ _ _ _ _ _)) | (simp only [d7 b6, b7 b6, d7 i5, b7 i5, b7 hb, m8 hb]; exact (s9 _ _ _ _ _ _)) | (simp only [d7 b6, b7 b6, d7 i5, b7 i5, b7 hb, f8 hb, f9]; exact (s9 _ _ _ _ _ _)))) ?_
 refine a8 (Pu.e (E3 _ _ _) (Pu.g fun hb => by obtain ⟨b6, i5⟩ := J3 hb; first | exact (o3 _ _ _ _ _ _) | (simp only [b7 hb]; exact (o3 _ _ _ _ _ _)) | (simp only [d7 b6, b7 b6, d7 i5, b7 i5, b7 hb, m8 hb]; exact (o3 _ _ _ _ _ _)) | (simp only [d7 b6, b7 b6, d7 i5, b7 i5, b7 hb, f8 hb, f9]; exact (o3 _ _ _ _ _ _)))) ?_
 refine a8 (Pu.g fun hb => by have b6 := hb; first | exact (k9 _ _) | (simp only [b7 b6, J1 b6]; exact (k9 _ _)) | (simp only [d7 b6, b7 b6, b7 hb, l9 b6, f9]; exact (k9 _ _))) ?_
 refine a8 (A5 _ _) ?_
 refine j9 (fun c_1 => ?_) (fun c_1 => ?_)
 ·replace h := h.1 c_1
  exact hR 0 1 H _ I h
 ·replace h := h.2 c_1
  refine a8 (a2C _ _ _ _ _ _) ?_
  exact hR (IntKind.wrap .i64 (x0 - x1)) 0 H _ I h
theorem b3R (x0 : Int) (x1 : Int) {H : Hp} {K : Int → Int → Hp → Prop} (h : a1q x0 x1 H K) : a3Q x0 x1 H K := by
 intro w I
 refine f0N ?_
 refine b3l x0 x1 I (fun r0 r1 H' w' I' hk => ⟨H', _, I', r0, r1, rfl, rfl, hk⟩) h
def a1r (x0 : Int) (x1 : Int) (H : Hp) (K : Int → Int → Hp → Prop) : Prop :=
 (((decide (x0 = 0)) || (decide (x1 = 0))) = true →
 K 0 0 H) ∧
 (((decide (x0 = 0)) || (decide (x1 = 0))) = false →
 (x0 = (-1) →
 W2 x1 H (fun (s7 : Int) (a9h : Int) (H_1 : Hp) =>
 K s7 a9h H_1)) ∧
 (¬ (x0 = (-1)) →
 (x1 = (-1) →
 W2 x0 H (fun (o8 : Int) (a6b : Int) (P9 : Hp) =>
 K o8 a6b P9)) ∧
 (¬ (x1 = (-1)) →
 (x1 : Int) ≠ 0 ∧
 (¬ ((IntKind.wrap .i64 (Int.tdiv (IntKind.wrap .i64 (x0 * x1)) x1)) = x0) →
 K 0 1 H) ∧
 ((IntKind.wrap .i64 (Int.tdiv (IntKind.wrap .i64 (x0 * x1)) x1)) = x0 →
 K (IntKind.wrap .i64 (x0 * x1)) 0 H))))
theorem b3m (x0 : Int) (x1 : Int) {w0 w : World} {ps0 : Nat → Prop} {H0 H : Hp} {K : Int → Int → Hp → Prop} {R : Value → World → Prop} {E : Pan} (I : Inv w0 ps0 H0 H [] w) (hR : ∀ (r0 : Int) (r1 : Int) (H' : Hp) (w' : World) (_ : Inv w0 ps0 H0 H' [] w') (_ : K r0 r1 H'), R (Value.tuple #[(vi r0), (vi r1)]) w') (h : a1r x0 x1 H K) : d5G (vi x0) (vi x1) w R E := by
 unfold a1r at h
 unfold d5G
 refine a8 (f4 _ _ _ _ _ _) ?_
 try simp only [m4]
 refine a8 (Pu.g fun hb => by have b6 := hb; first | exact (f4 _ _ _ _ _ _) | (simp only [b7 b6]; exact (f4 _ _ _ _ _ _)) | (simp only [d7 b6, b7 b6, b7 hb, l9 b6, f9]; exact (f4 _ _ _ _ _ _))) ?_
 refine a8 (A5 _ _) ?_
 refine j9 (fun b2x => ?_) (fun b2x => ?_)
 ·replace h := h.1 b2x
  exact hR 0 0 H _ I h
 ·replace h := h.2 b2x
  refine a8 (f4 _ _ _ _ _ _) ?_
  refine g8 (fun b2t => ?_) (fun b2t => ?_)
  ·replace h := h.1 b2t
   refine f5 (cap := []) (fun args w => Tryd.call104 args w) ?_
   refine i6 (Fi := []) (Fr := []) I (h) (fun v_5 H_1 F_6 w_2 I_3 l_8 k_4 q_7 => ?_) (fun _ _ _ _ _ q => q.elim)
   obtain ⟨s7, a9h, rfl, rfl, h⟩ := q_7
   refine a8 (i4 _ _ (vi s7) rfl) ?_
   refine a8 (i4 _ _ (vi a9h) rfl) ?_
   exact hR s7 a9h H_1 _ I_3 h
  ·replace h := h.2 b2t
   refine a8 (f4 _ _ _ _ _ _) ?_
   refine g8 (fun a5w => ?_) (fun a5w => ?_)
   ·replace h := h.1 a5w
    refine f5 (cap := []) (fun args w => Tryd.call104 args w) ?_
    refine i6 (Fi := []) (Fr := []) I (h) (fun b6s P9 c4X K6 q5 b2l a8S a9O => ?_) (fun _ _ _ _ _ q => q.elim)
    obtain ⟨o8, a6b, rfl, rfl, h⟩ := a9O
    refine a8 (i4 _ _ (vi o8) rfl) ?_
    refine a8 (i4 _ _ (vi a6b) rfl) ?_
    exact hR o8 a6b P9 _ q5 h
   ·replace h := h.2 a5w
    refine a8 (a8z _ _ _ _ _ _) ?_
    obtain ⟨a1M, h⟩ := h
    refine a8 (c2K _ _ _ _ _ _ a1M) ?_
    refine a8 (o4 _ _ _ _ _ _) ?_
    refine a3g (fun a3x => ?_) (fun a3x => ?_)
    ·replace h := h.1 a3x
     exact hR 0 1 H _ I h
    ·replace h := h.2 a3x
     exact hR (IntKind.wrap .i64 (x0 * x1)) 0 H _ I h
theorem b3S (x0 : Int) (x1 : Int) {H : Hp} {K : Int → Int → Hp → Prop} (h : a1r x0 x1 H K) : a3R x0 x1 H K := by
 intro w I
 refine f0P ?_
 refine b3m x0 x1 I (fun r0 r1 H' w' I' hk => ⟨H', _, I', r0, r1, rfl, rfl, hk⟩) h
def X0 (x0 : Int) (x1 : Int) (H : Hp) (K : Int → Hp → Prop) : Prop :=
 (x1 = 0 →
 K 2 H) ∧
 (¬ (x1 = 0) →
 (((decide (x0 = (-9223372036854775808))) && (decide (x1 = (-1)))) = true →
 K 1 H) ∧
 (((decide (x0 = (-9223372036854775808))) && (decide (x1 = (-1)))) = false →
 K 0 H))
theorem b0k (x0 : Int) (x1 : Int) {w0 w : World} {ps0 : Nat → Prop} {H0 H : Hp} {K : Int → Hp → Prop} {R : Value → World → Prop} {E : Pan} (I : Inv w0 ps0 H0 H [] w) (hR : ∀ (r0 : Int) (H' : Hp) (w' : World) (_ : Inv w0 ps0 H0 H' [] w') (_ : K r0 H'), R (vi r0) w') (h : X0 x0 x1 H K) : d5K (vi x0) (vi x1) w R E := by
 unfold X0 at h
 unfold d5K
 refine a8 (f4 _ _ _ _ _ _) ?_
 refine g8 (fun c_2 => ?_) (fun c_2 => ?_)
 ·replace h := h.1 c_2
  exact hR 2 H _ I h
 ·replace h := h.2 c_2
  refine a8 (f4 _ _ _ _ _ _) ?_
  try simp only [m4]
  refine a8 (Pu.g fun hb => by have b6 := hb; first | exact (f4 _ _ _ _ _ _) | (simp only [b7 b6]; exact (f4 _ _ _ _ _ _)) | (simp only [d7 b6, b7 b6, b7 hb, f8 b6, f9]; exact (f4 _ _ _ _ _ _))) ?_
  refine a8 (k9 _ _) ?_
  refine j9 (fun c_1 => ?_) (fun c_1 => ?_)
  ·replace h := h.1 c_1
   exact hR 1 H _ I h
  ·replace h := h.2 c_1
   exact hR 0 H _ I h
theorem b0E (x0 : Int) (x1 : Int) {H : Hp} {K : Int → Hp → Prop} (h : X0 x0 x1 H K) : W6 x0 x1 H K := by
 intro w I
 refine f0X ?_
 refine b0k x0 x1 I (fun r0 H' w' I' hk => ⟨H', _, I', r0, rfl, rfl, hk⟩) h
def a4a (x0 : Int) (x1 : Int) (H : Hp) (K : Int → Int → Hp → Prop) : Prop :=
 W6 x0 x1 H (fun (s7 : Int) (H_1 : Hp) =>
 (¬ (s7 = 0) →
 K 0 s7 H_1) ∧
 (s7 = 0 →
 (x1 : Int) ≠ 0 ∧
 K (IntKind.wrap .i64 (Int.tdiv x0 x1)) 0 H_1))
theorem b3n (x0 : Int) (x1 : Int) {w0 w : World} {ps0 : Nat → Prop} {H0 H : Hp} {K : Int → Int → Hp → Prop} {R : Value → World → Prop} {E : Pan} (I : Inv w0 ps0 H0 H [] w) (hR : ∀ (r0 : Int) (r1 : Int) (H' : Hp) (w' : World) (_ : Inv w0 ps0 H0 H' [] w') (_ : K r0 r1 H'), R (Value.tuple #[(vi r0), (vi r1)]) w') (h : a4a x0 x1 H K) : d5H (vi x0) (vi x1) w R E := by
 unfold a4a at h
 unfold d5H
 refine f5 (cap := []) (fun args w => Tryd.call122 args w) ?_
 refine i6 (Fi := []) (Fr := []) I (h) (fun v_5 H_1 F_6 w_2 I_3 l_8 k_4 q_7 => ?_) (fun _ _ _ _ _ q => q.elim)
 obtain ⟨s7, rfl, rfl, h⟩ := q_7
 refine a8 (o4 _ _ _ _ _ _) ?_
 refine a3g (fun a1F => ?_) (fun a1F => ?_)
 ·replace h := h.1 a1F
  exact hR 0 s7 H_1 _ I_3 h
 ·replace h := h.2 a1F
  obtain ⟨a6J, h⟩ := h
  refine a8 (c2K _ _ _ _ _ _ a6J) ?_
  exact hR (IntKind.wrap .i64 (Int.tdiv x0 x1)) 0 H_1 _ I_3 h
theorem b3T (x0 : Int) (x1 : Int) {H : Hp} {K : Int → Int → Hp → Prop} (h : a4a x0 x1 H K) : a3S x0 x1 H K := by
 intro w I
 refine f0R ?_
 refine b3n x0 x1 I (fun r0 r1 H' w' I' hk => ⟨H', _, I', r0, r1, rfl, rfl, hk⟩) h
def a4b (x0 : Int) (x1 : Int) (H : Hp) (K : Int → Int → Hp → Prop) : Prop :=
 W6 x0 x1 H (fun (s7 : Int) (H_1 : Hp) =>
 (¬ (s7 = 0) →
 K 0 s7 H_1) ∧
 (s7 = 0 →
 (x1 : Int) ≠ 0 ∧
 K (IntKind.wrap .i64 (x0 - (IntKind.wrap .i64 ((IntKind.wrap .i64 (Int.tdiv x0 x1)) * x1)))) 0 H_1))
theorem b3o (x0 : Int) (x1 : Int) {w0 w : World} {ps0 : Nat → Prop} {H0 H : Hp} {K : Int → Int → Hp → Prop} {R : Value → World → Prop} {E : Pan} (I : Inv w0 ps0 H0 H [] w) (hR : ∀ (r0 : Int) (r1 : Int) (H' : Hp) (w' : World) (_ : Inv w0 ps0 H0 H' [] w') (_ : K r0 r1 H'), R (Value.tuple #[(vi r0), (vi r1)]) w') (h : a4b x0 x1 H K) : d5I (vi x0) (vi x1) w R E := by
 unfold a4b at h
 unfold d5I
 refine f5 (cap := []) (fun args w => Tryd.call122 args w) ?_
 refine i6 (Fi := []) (Fr := []) I (h) (fun v_5 H_1 F_6 w_2 I_3 l_8 k_4 q_7 => ?_) (fun _ _ _ _ _ q => q.elim)
 obtain ⟨s7, rfl, rfl, h⟩ := q_7
 refine a8 (o4 _ _ _ _ _ _) ?_
 refine a3g (fun a1F => ?_) (fun a1F => ?_)
 ·replace h := h.1 a1F
  exact hR 0 s7 H_1 _ I_3 h
 ·replace h := h.2 a1F
  obtain ⟨a6J, h⟩ := h
  refine a8 (c2K _ _ _ _ _ _ a6J) ?_
  refine a8 (a8z _ _ _ _ _ _) ?_
  refine a8 (a2C _ _ _ _ _ _) ?_
  exact hR (IntKind.wrap .i64 (x0 - (IntKind.wrap .i64 ((IntKind.wrap .i64 (Int.tdiv x0 x1)) * x1)))) 0 H_1 _ I_3 h
theorem b3U (x0 : Int) (x1 : Int) {H : Hp} {K : Int → Int → Hp → Prop} (h : a4b x0 x1 H K) : a3T x0 x1 H K := by
 intro w I
 refine f0T ?_
 refine b3o x0 x1 I (fun r0 r1 H' w' I' hk => ⟨H', _, I', r0, r1, rfl, rfl, hk⟩) h
def a2d (x0 : Int) (x1 : Int) (x2 : Int) (H : Hp) (K : Int → Int → Hp → Prop) : Prop :=
 (x0 = 5 →
 W2 x1 H (fun (s7 : Int) (a9h : Int) (H_1 : Hp) =>
 K s7 a9h H_1)) ∧
 (¬ (x0 = 5) →
 (x0 = 6 →
 a3P x1 x2 H (fun (o8 : Int) (a6b : Int) (P9 : Hp) =>
 K o8 a6b P9)) ∧
 (¬ (x0 = 6) →
 (x0 = 7 →
 a3Q x1 x2 H (fun (w3 : Int) (a9i : Int) (F4 : Hp) =>
 K w3 a9i F4)) ∧
 (¬ (x0 = 7) →
 (x0 = 8 →
 a3R x1 x2 H (fun (R0 : Int) (c6R : Int) (a5z : Hp) =>
 K R0 c6R a5z)) ∧
 (¬ (x0 = 8) →
 (x0 = 9 →
 a3S x1 x2 H (fun (G5 : Int) (a3d : Int) (a2z : Hp) =>
 K G5 a3d a2z)) ∧
 (¬ (x0 = 9) →
 a3T x1 x2 H (fun (a0M : Int) (c6S : Int) (a2A : Hp) =>
 K a0M c6S a2A))))))
theorem b3V (x0 : Int) (x1 : Int) (x2 : Int) {w0 w : World} {ps0 : Nat → Prop} {H0 H : Hp} {K : Int → Int → Hp → Prop} {R : Value → World → Prop} {E : Pan} (I : Inv w0 ps0 H0 H [] w) (hR : ∀ (r0 : Int) (r1 : Int) (H' : Hp) (w' : World) (_ : Inv w0 ps0 H0 H' [] w') (_ : K r0 r1 H'), R (Value.tuple #[(vi r0), (vi r1)]) w') (h : a2d x0 x1 x2 H K) : F71 (vi x0) (vi x1) (vi x2) w R E := by
 unfold a2d at h
 unfold F71
 refine a8 (f4 _ _ _ _ _ _) ?_
 refine g8 (fun c2i => ?_) (fun c2i => ?_)
 ·replace h := h.1 c2i
  refine f5 (cap := []) (fun args w => Tryd.call104 args w) ?_
  refine i6 (Fi := []) (Fr := []) I (h) (fun v_5 H_1 F_6 w_2 I_3 l_8 k_4 q_7 => ?_) (fun _ _ _ _ _ q => q.elim)
  obtain ⟨s7, a9h, rfl, rfl, h⟩ := q_7
  refine a8 (i4 _ _ (vi s7) rfl) ?_
  refine a8 (i4 _ _ (vi a9h) rfl) ?_
  exact hR s7 a9h H_1 _ I_3 h
 ·replace h := h.2 c2i
  refine a8 (f4 _ _ _ _ _ _) ?_
  refine g8 (fun c2f => ?_) (fun c2f => ?_)
  ·replace h := h.1 c2f
   refine f5 (cap := []) (fun args w => Tryd.call105 args w) ?_
   refine i6 (Fi := []) (Fr := []) I (h) (fun b6s P9 c4X K6 q5 b2l a8S a9O => ?_) (fun _ _ _ _ _ q => q.elim)
   obtain ⟨o8, a6b, rfl, rfl, h⟩ := a9O
   refine a8 (i4 _ _ (vi o8) rfl) ?_
   refine a8 (i4 _ _ (vi a6b) rfl) ?_
   exact hR o8 a6b P9 _ q5 h
  ·replace h := h.2 c2f
   refine a8 (f4 _ _ _ _ _ _) ?_
   refine g8 (fun c2g => ?_) (fun c2g => ?_)
   ·replace h := h.1 c2g
    refine f5 (cap := []) (fun args w => Tryd.call106 args w) ?_
    refine i6 (Fi := []) (Fr := []) I (h) (fun b4K F4 d4g o7 X6 b4L a9P b6t => ?_) (fun _ _ _ _ _ q => q.elim)
    obtain ⟨w3, a9i, rfl, rfl, h⟩ := b6t
    refine a8 (i4 _ _ (vi w3) rfl) ?_
    refine a8 (i4 _ _ (vi a9i) rfl) ?_
    exact hR w3 a9i F4 _ X6 h
   ·replace h := h.2 c2g
    refine a8 (f4 _ _ _ _ _ _) ?_
    refine g8 (fun c1F => ?_) (fun c1F => ?_)
    ·replace h := h.1 c1F
     refine f5 (cap := []) (fun args w => Tryd.call107 args w) ?_
     refine i6 (Fi := []) (Fr := []) I (h) (fun d5h a5z b0P a8b a0F c1l a8V e3b => ?_) (fun _ _ _ _ _ q => q.elim)
     obtain ⟨R0, c6R, rfl, rfl, h⟩ := e3b
     refine a8 (i4 _ _ (vi R0) rfl) ?_
     refine a8 (i4 _ _ (vi c6R) rfl) ?_
     exact hR R0 c6R a5z _ a0F h
    ·replace h := h.2 c1F
     refine a8 (f4 _ _ _ _ _ _) ?_
     refine g8 (fun e3B => ?_) (fun e3B => ?_)
     ·replace h := h.1 e3B
      refine f5 (cap := []) (fun args w => Tryd.call108 args w) ?_
      refine i6 (Fi := []) (Fr := []) I (h) (fun d0J a2z g2D D3 b4X c1V d5i d0K => ?_) (fun _ _ _ _ _ q => q.elim)
      obtain ⟨G5, a3d, rfl, rfl, h⟩ := d0K
      refine a8 (i4 _ _ (vi G5) rfl) ?_
      refine a8 (i4 _ _ (vi a3d) rfl) ?_
      exact hR G5 a3d a2z _ b4X h
     ·replace h := h.2 e3B
      refine f5 (cap := []) (fun args w => Tryd.call109 args w) ?_
      refine i6 (Fi := []) (Fr := []) I (h) (fun d5j a2A h4M b0L c5F c9K e3c e3d => ?_) (fun _ _ _ _ _ q => q.elim)
      obtain ⟨a0M, c6S, rfl, rfl, h⟩ := e3d
      refine a8 (i4 _ _ (vi a0M) rfl) ?_
      refine a8 (i4 _ _ (vi c6S) rfl) ?_
      exact hR a0M c6S a2A _ c5F h
theorem b5b (x0 : Int) (x1 : Int) (x2 : Int) {H : Hp} {K : Int → Int → Hp → Prop} (h : a2d x0 x1 x2 H K) : a4A x0 x1 x2 H K := by
 intro w I
 refine g3q ?_
 refine b3V x0 x1 x2 I (fun r0 r1 H' w' I' hk => ⟨H', _, I', r0, r1, rfl, rfl, hk⟩) h
def a1s (x0 : Int) (x1 : Int) (x2 : Int) (H : Hp) (K : Bool → Hp → Prop) : Prop :=
 (x0 = 1 →
 K (decide (x1 < x2)) H) ∧
 (¬ (x0 = 1) →
 (x0 = 2 →
 K (decide (x1 ≤ x2)) H) ∧
 (¬ (x0 = 2) →
 (x0 = 3 →
 K (decide (x1 = x2)) H) ∧
 (¬ (x0 = 3) →
 (x0 = 4 →
 K (!decide (x1 = x2)) H) ∧
 (¬ (x0 = 4) →
 (x0 = 5 →
 K (decide (x2 < x1)) H) ∧
 (¬ (x0 = 5) →
 (x0 = 6 →
 K (decide (x2 ≤ x1)) H) ∧
 (¬ (x0 = 6) →
 K false H))))))
theorem b3p (x0 : Int) (x1 : Int) (x2 : Int) {w0 w : World} {ps0 : Nat → Prop} {H0 H : Hp} {K : Bool → Hp → Prop} {R : Value → World → Prop} {E : Pan} (I : Inv w0 ps0 H0 H [] w) (hR : ∀ (r0 : Bool) (H' : Hp) (w' : World) (_ : Inv w0 ps0 H0 H' [] w') (_ : K r0 H'), R (Value.bool r0) w') (h : a1s x0 x1 x2 H K) : F80 (vi x0) (vi x1) (vi x2) w R E := by
 unfold a1s at h
 unfold F80
 refine a8 (f4 _ _ _ _ _ _) ?_
 refine g8 (fun c_6 => ?_) (fun c_6 => ?_)
 ·replace h := h.1 c_6
  refine a8 (o3 _ _ _ _ _ _) ?_
  exact hR (decide (x1 < x2)) H _ I h
 ·replace h := h.2 c_6
  refine a8 (f4 _ _ _ _ _ _) ?_
  refine g8 (fun c_5 => ?_) (fun c_5 => ?_)
  ·replace h := h.1 c_5
   refine a8 (a0x _ _ _ _ _ _) ?_
   exact hR (decide (x1 ≤ x2)) H _ I h
  ·replace h := h.2 c_5
   refine a8 (f4 _ _ _ _ _ _) ?_
   refine g8 (fun c_4 => ?_) (fun c_4 => ?_)
   ·replace h := h.1 c_4
    refine a8 (f4 _ _ _ _ _ _) ?_
    exact hR (decide (x1 = x2)) H _ I h
   ·replace h := h.2 c_4
    refine a8 (f4 _ _ _ _ _ _) ?_
    refine g8 (fun c_3 => ?_) (fun c_3 => ?_)
    ·replace h := h.1 c_3
     refine a8 (o4 _ _ _ _ _ _) ?_
     exact hR (!decide (x1 = x2)) H _ I h
    ·replace h := h.2 c_3
     refine a8 (f4 _ _ _ _ _ _) ?_
     refine g8 (fun c_2 => ?_) (fun c_2 => ?_)
     ·replace h := h.1 c_2
      refine a8 (D7 _ _ _ _ _ _) ?_
      exact hR (decide (x2 < x1)) H _ I h
     ·replace h := h.2 c_2
      refine a8 (f4 _ _ _ _ _ _) ?_
      refine g8 (fun c_1 => ?_) (fun c_1 => ?_)
      ·replace h := h.1 c_1
       refine a8 (a0y _ _ _ _ _ _) ?_
       exact hR (decide (x2 ≤ x1)) H _ I h
      ·replace h := h.2 c_1
       exact hR false H _ I h
theorem b3W (x0 : Int) (x1 : Int) (x2 : Int) {H : Hp} {K : Bool → Hp → Prop} (h : a1s x0 x1 x2 H K) : a3U x0 x1 x2 H K := by
 intro w I
 refine g3A ?_
 refine b3p x0 x1 x2 I (fun r0 H' w' I' hk => ⟨H', _, I', r0, rfl, rfl, hk⟩) h
end Go.Proofs.YtnhkdkcgdcgmdaaDoor
