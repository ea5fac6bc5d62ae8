/- Typed formulas of the program's functions that few laws need; printed by lift.py off the code. -/
import Derived.Test.YthldnpmfelniiaaDoorzLV1
import Derived.Test.YthldnpmfelniiaaDoorzLG1y
namespace Go.Proofs.YthldnpmfelniiaaDoor
open Go.RowKit
set_option maxRecDepth 100000
set_option maxHeartbeats 2000000
def E9 (a1u : (List a8)) (_cr_1j2 : i6) (H : Hp) (K : (List a8) → Hp → Prop) : Prop :=
 K a1u H
def F0 (cr_1l3 : i6) (K4 : (List a8)) (a1B : Int) (H : Hp) (n3 : ((List a8) × Int) → Hp → Prop) (K : (List a8) → Hp → Prop) : Prop :=
 (a1B < (cr_1l3.p6.n : Int) →
 (0 : Int) ≤ a1B ∧ (a1B : Int) < cr_1l3.p6.n ∧ ∃ b8P : i6, EltH H cr_1l3.p6 a1B 4 (c5 b8P) ∧
 D1 K4 b8P H (fun (b8Q : (List a8)) (c3Y : Hp) =>
 n3 (b8Q, (IntKind.wrap .i64 (a1B + 1))) c3Y)) ∧
 (¬ (a1B < (cr_1l3.p6.n : Int)) →
 E9 K4 cr_1l3 H K)
def v2 (S2 : (List a8)) (cr_1j1 : i6) (H : Hp) (K : (List a8) → Hp → Prop) : Prop :=
 TL ((S2, 0) : (List a8) × Int) H fun (s : (List a8) × Int) H n3 => F0 cr_1j1 s.1 s.2 H n3 K
def I9 (x0 : (List a8)) (x1 : i6) (H : Hp) (K : (List a8) → Hp → Prop) : Prop :=
 (((decide (x1.c7 = 2)) || (decide (x1.c7 = 4))) = true →
 (x0.length + ([(a8.mk x1.g8 (decide (x1.c7 = 4)))] : List a8).length) * 25 ≤ 140737488355328 ∧
 v2 (x0 ++ [(a8.mk x1.g8 (decide (x1.c7 = 4)))]) x1 H K) ∧
 (((decide (x1.c7 = 2)) || (decide (x1.c7 = 4))) = false →
 v2 x0 x1 H K)
theorem a3f (x0 : (List a8)) (x1 : i6) (sx0 : Sl) (Fx0 : Frag) (hx0 : RowL 71 2 d6 sx0 x0 Fx0) {w0 w : World} {ps0 : Nat → Prop} {H0 H : Hp} {K : (List a8) → Hp → Prop} {R : Value → World → Prop} {E : Pan} (I : Inv w0 ps0 H0 H [Fx0] w) (hR : ∀ (r0 : (List a8)) (sr0 : Sl) (Fr0 : Frag) (H' : Hp) (w' : World) (_ : RowL 71 2 d6 sr0 r0 Fr0) (_ : Inv w0 ps0 H0 H' [Fr0] w') (_ : K r0 H'), R (vs sr0) w') (h : I9 x0 x1 H K) : b8O (vs sx0) (Value.agg (c5 x1).toArray) w R E := by
 unfold I9 at h
 unfold b8O
 refine K1 I (cs := (c5 x1)) rfl fun g_2 w_3 I_4 k_5 => ?_
 have hj1 : ∀ (S2 : (List a8)) (a0S : Sl) (Fs0j1 : Frag) (H : Hp) (w : World) (_ : RowL 71 2 d6 a0S S2 Fs0j1) (_ : Inv w0 ps0 H0 H [bx g_2 30 (c5 x1), Fs0j1] w) (_ : v2 S2 x1 H K), b2A (vs a0S) (Value.pointer (some ⟨g_2, 0, none⟩)) w R E := by
  intro S2 a0S Fs0j1 H w b1o I h
  unfold b2A
  intro _
  unfold v2 at h
  have hj2 : ∀ (a1u : (List a8)) (a4w : Sl) (Fs0j2 : Frag) (H : Hp) (w : World) (_ : RowL 71 2 d6 a4w a1u Fs0j2) (_ : Inv w0 ps0 H0 H [bx g_2 30 (c5 x1), Fs0j2] w) (_ : E9 a1u x1 H K), b2z (vs a4w) w R E := by
   intro a1u a4w Fs0j2 H w b8R I h
   unfold b2z
   intro _
   unfold E9 at h
   exact hR a1u a4w Fs0j2 H _ b8R I.drop h
  refine o8 fun j2 hx2 => ?_
  obtain ⟨c3Z, b5H, e2F, e2G⟩ := h
  refine y8 (J := fun n l w => ∃ (s : (List a8) × Int) (H : Hp) (a2X : Sl) (Fs0l3 : Frag) , n = b5H s ∧ l = (match s with | (K4, a1B) => [(vs a2X), (vi a1B)]) ∧ (match s with | (K4, a1B) => RowL 71 2 d6 a2X K4 Fs0l3) ∧ (match s with | (K4, a1B) => Inv w0 ps0 H0 H [bx g_2 30 (c5 x1), Fs0l3] w) ∧ c3Z s H) ⟨_, (S2, 0), H, a0S, Fs0j1, rfl, rfl, b1o, ((I.bring 1).bring 1), e2F⟩ ?_
  rintro e7d τ_42 w next3 ⟨⟨K4, a1B⟩, H, a2X, Fs0l3, rfl, c4a, a7w, I, e2H⟩ hn3
  dsimp only at c4a I a7w
  simp only [List.map_cons, List.map_nil, List.cons.injEq, and_true] at c4a
  obtain ⟨e0, e5⟩ := c4a
  simp only [e0, e5]
  obtain ⟨n3, hm3, h⟩ : ∃ n3 : ((List a8) × Int) → Hp → Prop, (∀ s' H', n3 s' H' → c3Z s' H' ∧ b5H s' < b5H (K4, a1B)) ∧ F0 x1 K4 a1B H n3 K := ⟨_, fun _ _ h => h, e2G (K4, a1B) H (fun s' H' => c3Z s' H' ∧ b5H s' < b5H (K4, a1B)) e2H (fun _ _ a b => ⟨a, b⟩)⟩
  unfold b6Y
  unfold F0 at h
  refine a7 a1g ?_
  refine b7 (ld1 Tryd.isAgg28 (I.at1 (o := 3) (vs := [(vs x1.p6)]) (nb rfl) rfl)) ?_
  refine a7 (M0 _ _ _) ?_
  refine a7 (C3 _ _ _ _ _ _) ?_
  refine d9 (fun c4b => ?_) (fun c4b => ?_)
  ·replace h := h.1 c4b
   refine a7 a1g ?_
   refine b7 (ld1 Tryd.isAgg28 (I.at1 (o := 3) (vs := [(vs x1.p6)]) (nb rfl) rfl)) ?_
   obtain ⟨c2F, c2G, b8P, b0r, h⟩ := h
   obtain ⟨R9, e7e, a9Z, b0r⟩ := b0r
   refine a7 (a1T a9Z _ _ _ _ c2F c2G) ?_
   refine b7 (ldA (vs := (c5 b8P)) Tryd.isAgg30 Tryd.sizeOf30 rfl (I.atH b0r)) ?_
   refine d7 (cap := []) (fun args w => Tryd.call102 args w) ?_
   refine h9 (Fi := [Fs0l3]) (Fr := [bx g_2 30 (c5 x1)]) (I.bring 1) (h a2X Fs0l3 a7w) (fun e7f c3Y e7g B5 e2I d3v e7h e2J => ?_) (fun _ _ _ _ _ q => q.elim)
   obtain ⟨b8Q, d4Q, d4R, rfl, rfl, d4S, h⟩ := e2J
   refine a7 (v7 _ _ _ _ _ _) ?_
   exact hn3 _ _ _ (hm3 _ _ h).2 ⟨(b8Q, (IntKind.wrap .i64 (a1B + 1))), c3Y, d4Q, d4R, rfl, rfl, d4S, (e2I.bring 1), (hm3 _ _ h).1⟩
  ·replace h := h.2 c4b
   exact hx2 _ _ (hj2 K4 a2X Fs0l3 H _ a7w ((I.bring 1).bring 1) h)
 refine o8 fun j1 hx1 => ?_
 refine a7 K2 ?_
 refine b7 (ld1 Tryd.isAgg3 (I_4.at1 (o := 0) (vs := [(vi x1.c7)]) (nb rfl) rfl)) ?_
 refine a7 (f5 _ _ _ _ _ _) ?_
 refine a7 (Pu.g fun hb => by have b3 := hb; first | exact K2 | (simp only [d4 b3, b6 b3, b6 hb, a4J b3]; exact K2) | (simp only [d4 b3, b6 b3, b6 hb, E3 b3, l9]; exact K2)) ?_
 refine b7 (Ld.g fun hb => by have b3 := hb; first | exact (ld1 Tryd.isAgg3 (I_4.at1 (o := 0) (vs := [(vi x1.c7)]) (nb rfl) rfl)) | (simp only [b6 b3]; exact (ld1 Tryd.isAgg3 (I_4.at1 (o := 0) (vs := [(vi x1.c7)]) (nb rfl) rfl))) | (simp only [d4 b3, b6 b3, b6 hb, E3 b3, l9]; exact (ld1 Tryd.isAgg3 (I_4.at1 (o := 0) (vs := [(vi x1.c7)]) (nb rfl) rfl)))) ?_
 refine a7 (Pu.g fun hb => by have b3 := hb; first | exact (f5 _ _ _ _ _ _) | (simp only [b6 b3]; exact (f5 _ _ _ _ _ _)) | (simp only [d4 b3, b6 b3, b6 hb, E3 b3, l9]; exact (f5 _ _ _ _ _ _))) ?_
 refine a7 (a1f _ _) ?_
 refine p1 (fun b0p => ?_) (fun b0p => ?_)
 ·replace h := h.1 b0p
  refine a7 a0l ?_
  refine b7 (ld1 Tryd.isAgg9 (I_4.at1 (o := 2) (vs := [(Value.string x1.g8)]) (nb rfl) rfl)) ?_
  refine a7 K2 ?_
  refine b7 (ld1 Tryd.isAgg3 (I_4.at1 (o := 0) (vs := [(vi x1.c7)]) (nb rfl) rfl)) ?_
  refine a7 (f5 _ _ _ _ _ _) ?_
  refine a7 (a7A _ _) ?_
  refine a1S (e := 71) (c := d6) (xs := [(a8.mk x1.g8 (decide (x1.c7 = 4)))]) I_4 (b6J _ _) rfl rfl a0K a0L (nb rfl) fun s_7 F_8 w_9 b5I Y3 a8p => ?_
  obtain ⟨b5J, h⟩ := h
  refine c0t (s := sx0) (xs := x0) (Y3.bring 2) hx0 (b5I.srcO ((Y3.bring 2).bring 1)) b5J fun b5K b8i a3U c4c a3p c3A => ?_
  exact hx1 _ _ (hj1 (x0 ++ [(a8.mk x1.g8 (decide (x1.c7 = 4)))]) b5K b8i H _ c4c ((a3p.bring 1).drop.bring 1) h)
 ·replace h := h.2 b0p
  exact hx1 _ _ (hj1 x0 sx0 Fx0 H _ hx0 ((I_4.bring 1).bring 1) h)
theorem a3B (x0 : (List a8)) (x1 : i6) {H : Hp} {K : (List a8) → Hp → Prop} (h : I9 x0 x1 H K) : D1 x0 x1 H K := by
 intro sx0 Fx0 hx0 w I
 refine c7O ?_
 refine a3f x0 x1 sx0 Fx0 hx0 I (fun r0 sr0 Fr0 H' w' khr0 I' hk => ⟨H', _, I', r0, sr0, Fr0, rfl, rfl, khr0, hk⟩) h
def F1 (a1u : (List a8)) (_cr_1j2 : i7) (H : Hp) (K : (List a8) → Hp → Prop) : Prop :=
 K a1u H
def F3 (cr_1l3 : i7) (K4 : (List a8)) (a0R : Int) (H : Hp) (n3 : ((List a8) × Int) → Hp → Prop) (K : (List a8) → Hp → Prop) : Prop :=
 (a0R < (cr_1l3.j9.n : Int) →
 (0 : Int) ≤ a0R ∧ (a0R : Int) < cr_1l3.j9.n ∧ ∃ b8S : i7, EltH H cr_1l3.j9 a0R 4 (c9 b8S) ∧
 I0 K4 b8S H (fun (b8T : (List a8)) (c4d : Hp) =>
 n3 (b8T, (IntKind.wrap .i64 (a0R + 1))) c4d)) ∧
 (¬ (a0R < (cr_1l3.j9.n : Int)) →
 F1 K4 cr_1l3 H K)
def F4 (S2 : (List a8)) (cr_1j1 : i7) (H : Hp) (K : (List a8) → Hp → Prop) : Prop :=
 TL ((S2, 0) : (List a8) × Int) H fun (s : (List a8) × Int) H n3 => F3 cr_1j1 s.1 s.2 H n3 K
def F5 (cr_1l4 : i7) (a1O : (List a8)) (a1C : Int) (H : Hp) (n4 : ((List a8) × Int) → Hp → Prop) (K : (List a8) → Hp → Prop) : Prop :=
 (a1C < (cr_1l4.b9.n : Int) →
 (0 : Int) ≤ a1C ∧ (a1C : Int) < cr_1l4.b9.n ∧ ∃ x_6 : i6, EltH H cr_1l4.b9 a1C 4 (c5 x_6) ∧
 D1 a1O x_6 H (fun (b8U : (List a8)) (a3Y : Hp) =>
 n4 (b8U, (IntKind.wrap .i64 (a1C + 1))) a3Y)) ∧
 (¬ (a1C < (cr_1l4.b9.n : Int)) →
 F4 a1O cr_1l4 H K)
def J0 (x0 : (List a8)) (x1 : i7) (H : Hp) (K : (List a8) → Hp → Prop) : Prop :=
 TL ((x0, 0) : (List a8) × Int) H fun (s : (List a8) × Int) H n4 => F5 x1 s.1 s.2 H n4 K
theorem a3g (x0 : (List a8)) (x1 : i7) (sx0 : Sl) (Fx0 : Frag) (hx0 : RowL 71 2 d6 sx0 x0 Fx0) {w0 w : World} {ps0 : Nat → Prop} {H0 H : Hp} {K : (List a8) → Hp → Prop} {R : Value → World → Prop} {E : Pan} (I : Inv w0 ps0 H0 H [Fx0] w) (hR : ∀ (r0 : (List a8)) (sr0 : Sl) (Fr0 : Frag) (H' : Hp) (w' : World) (_ : RowL 71 2 d6 sr0 r0 Fr0) (_ : Inv w0 ps0 H0 H' [Fr0] w') (_ : K r0 H'), R (vs sr0) w') (h : J0 x0 x1 H K) : b8N (vs sx0) (Value.agg (c9 x1).toArray) w R E := by
 unfold J0 at h
 unfold b8N
 refine K1 I (cs := (c9 x1)) rfl fun g_2 w_3 I_4 k_5 => ?_
 have hj1 : ∀ (S2 : (List a8)) (a0S : Sl) (Fs0j1 : Frag) (H : Hp) (w : World) (_ : RowL 71 2 d6 a0S S2 Fs0j1) (_ : Inv w0 ps0 H0 H [bx g_2 33 (c9 x1), Fs0j1] w) (_ : F4 S2 x1 H K), b2y (vs a0S) (Value.pointer (some ⟨g_2, 0, none⟩)) w R E := by
  intro S2 a0S Fs0j1 H w b1o I h
  unfold b2y
  intro _
  unfold F4 at h
  have hj2 : ∀ (a1u : (List a8)) (a4w : Sl) (Fs0j2 : Frag) (H : Hp) (w : World) (_ : RowL 71 2 d6 a4w a1u Fs0j2) (_ : Inv w0 ps0 H0 H [bx g_2 33 (c9 x1), Fs0j2] w) (_ : F1 a1u x1 H K), b2x (vs a4w) w R E := by
   intro a1u a4w Fs0j2 H w b8R I h
   unfold b2x
   intro _
   unfold F1 at h
   exact hR a1u a4w Fs0j2 H _ b8R I.drop h
  refine o8 fun j2 hx2 => ?_
  obtain ⟨c4e, b5L, e2K, e2L⟩ := h
  refine y8 (J := fun n l w => ∃ (s : (List a8) × Int) (H : Hp) (a2X : Sl) (Fs0l3 : Frag) , n = b5L s ∧ l = (match s with | (K4, a0R) => [(vs a2X), (vi a0R)]) ∧ (match s with | (K4, a0R) => RowL 71 2 d6 a2X K4 Fs0l3) ∧ (match s with | (K4, a0R) => Inv w0 ps0 H0 H [bx g_2 33 (c9 x1), Fs0l3] w) ∧ c4e s H) ⟨_, (S2, 0), H, a0S, Fs0j1, rfl, rfl, b1o, ((I.bring 1).bring 1), e2K⟩ ?_
  rintro e7i τ_44 w next3 ⟨⟨K4, a0R⟩, H, a2X, Fs0l3, rfl, b4Z, a7w, I, e2M⟩ hn3
  dsimp only at b4Z I a7w
  simp only [List.map_cons, List.map_nil, List.cons.injEq, and_true] at b4Z
  obtain ⟨e0, e6⟩ := b4Z
  simp only [e0, e6]
  obtain ⟨n3, hm3, h⟩ : ∃ n3 : ((List a8) × Int) → Hp → Prop, (∀ s' H', n3 s' H' → c4e s' H' ∧ b5L s' < b5L (K4, a0R)) ∧ F3 x1 K4 a0R H n3 K := ⟨_, fun _ _ h => h, e2L (K4, a0R) H (fun s' H' => c4e s' H' ∧ b5L s' < b5L (K4, a0R)) e2M (fun _ _ a b => ⟨a, b⟩)⟩
  unfold b6W
  unfold F3 at h
  refine a7 a1i ?_
  refine b7 (ld1 Tryd.isAgg31 (I.at1 (o := 3) (vs := [(vs x1.j9)]) (nb rfl) rfl)) ?_
  refine a7 (X3 _ _ _) ?_
  refine a7 (C3 _ _ _ _ _ _) ?_
  refine d9 (fun c4f => ?_) (fun c4f => ?_)
  ·replace h := h.1 c4f
   refine a7 a1i ?_
   refine b7 (ld1 Tryd.isAgg31 (I.at1 (o := 3) (vs := [(vs x1.j9)]) (nb rfl) rfl)) ?_
   obtain ⟨a9Z, b0r, b8S, c4g, h⟩ := h
   obtain ⟨e7j, e7k, e2N, c4g⟩ := c4g
   refine a7 (a4K e2N _ _ _ _ a9Z b0r) ?_
   refine b7 (ldA (vs := (c9 b8S)) Tryd.isAgg33 Tryd.sizeOf33 rfl (I.atH c4g)) ?_
   refine d7 (cap := []) (fun args w => Tryd.call101 args w) ?_
   refine h9 (Fi := [Fs0l3]) (Fr := [bx g_2 33 (c9 x1)]) (I.bring 1) (h a2X Fs0l3 a7w) (fun e7l c4d e7m C5 a7a e7n b8e e2O => ?_) (fun _ _ _ _ _ q => q.elim)
   obtain ⟨b8T, d4T, d4U, rfl, rfl, d4V, h⟩ := e2O
   refine a7 (v7 _ _ _ _ _ _) ?_
   exact hn3 _ _ _ (hm3 _ _ h).2 ⟨(b8T, (IntKind.wrap .i64 (a0R + 1))), c4d, d4T, d4U, rfl, rfl, d4V, (a7a.bring 1), (hm3 _ _ h).1⟩
  ·replace h := h.2 c4f
   exact hx2 _ _ (hj2 K4 a2X Fs0l3 H _ a7w ((I.bring 1).bring 1) h)
 refine o8 fun j1 hx1 => ?_
 obtain ⟨c4h, b5M, e2P, e2Q⟩ := h
 refine y8 (J := fun n l w => ∃ (s : (List a8) × Int) (H : Hp) (b1p : Sl) (Fs0l4 : Frag) , n = b5M s ∧ l = (match s with | (a1O, a1C) => [(vs b1p), (vi a1C)]) ∧ (match s with | (a1O, a1C) => RowL 71 2 d6 b1p a1O Fs0l4) ∧ (match s with | (a1O, a1C) => Inv w0 ps0 H0 H [bx g_2 33 (c9 x1), Fs0l4] w) ∧ c4h s H) ⟨_, (x0, 0), H, sx0, Fx0, rfl, rfl, hx0, ((I_4.bring 1).bring 1), e2P⟩ ?_
 rintro e7o τ_53 w next4 ⟨⟨a1O, a1C⟩, H, b1p, Fs0l4, rfl, b8D, b8V, I, e2R⟩ hn4
 dsimp only at b8D I b8V
 simp only [List.map_cons, List.map_nil, List.cons.injEq, and_true] at b8D
 obtain ⟨e0, e5⟩ := b8D
 simp only [e0, e5]
 obtain ⟨n4, hm4, h⟩ : ∃ n4 : ((List a8) × Int) → Hp → Prop, (∀ s' H', n4 s' H' → c4h s' H' ∧ b5M s' < b5M (a1O, a1C)) ∧ F5 x1 a1O a1C H n4 K := ⟨_, fun _ _ h => h, e2Q (a1O, a1C) H (fun s' H' => c4h s' H' ∧ b5M s' < b5M (a1O, a1C)) e2R (fun _ _ a b => ⟨a, b⟩)⟩
 unfold b6X
 unfold F5 at h
 refine a7 a1h ?_
 refine b7 (ld1 Tryd.isAgg28 (I.at1 (o := 2) (vs := [(vs x1.b9)]) (nb rfl) rfl)) ?_
 refine a7 (M0 _ _ _) ?_
 refine a7 (C3 _ _ _ _ _ _) ?_
 refine d9 (fun c4i => ?_) (fun c4i => ?_)
 ·replace h := h.1 c4i
  refine a7 a1h ?_
  refine b7 (ld1 Tryd.isAgg28 (I.at1 (o := 2) (vs := [(vs x1.b9)]) (nb rfl) rfl)) ?_
  obtain ⟨h_9, b5I, x_6, c4j, h⟩ := h
  obtain ⟨g_7, o_8, e2S, c4j⟩ := c4j
  refine a7 (a1T e2S _ _ _ _ h_9 b5I) ?_
  refine b7 (ldA (vs := (c5 x_6)) Tryd.isAgg30 Tryd.sizeOf30 rfl (I.atH c4j)) ?_
  refine d7 (cap := []) (fun args w => Tryd.call102 args w) ?_
  refine h9 (Fi := [Fs0l4]) (Fr := [bx g_2 33 (c9 x1)]) (I.bring 1) (h b1p Fs0l4 b8V) (fun e7p a3Y e2T o0 b0a e7q b8l e2U => ?_) (fun _ _ _ _ _ q => q.elim)
  obtain ⟨b8U, d4W, d4X, rfl, rfl, d4Y, h⟩ := e2U
  refine a7 (v7 _ _ _ _ _ _) ?_
  exact hn4 _ _ _ (hm4 _ _ h).2 ⟨(b8U, (IntKind.wrap .i64 (a1C + 1))), a3Y, d4W, d4X, rfl, rfl, d4Y, (b0a.bring 1), (hm4 _ _ h).1⟩
 ·replace h := h.2 c4i
  exact hx1 _ _ (hj1 a1O b1p Fs0l4 H _ b8V ((I.bring 1).bring 1) h)
theorem a3C (x0 : (List a8)) (x1 : i7) {H : Hp} {K : (List a8) → Hp → Prop} (h : J0 x0 x1 H K) : I0 x0 x1 H K := by
 intro sx0 Fx0 hx0 w I
 refine c7M ?_
 refine a3g x0 x1 sx0 Fx0 hx0 I (fun r0 sr0 Fr0 H' w' khr0 I' hk => ⟨H', _, I', r0, sr0, Fr0, rfl, rfl, khr0, hk⟩) h
def F6 (a9k : (List a8)) (_s1j3 : Sl) (e2V : Int) (H : Hp) (n2 : ((List a8) × Int) → Hp → Prop) (_K : (List a8) → Hp → Prop) : Prop :=
 n2 (a9k, (IntKind.wrap .i64 (e2V + 1))) H
def F7 (b1q : (List a8)) (e2W : Sl) (e2X : Int) (cr_8j6 : i8) (H : Hp) (n2 : ((List a8) × Int) → Hp → Prop) (K : (List a8) → Hp → Prop) : Prop :=
 D2 b1q cr_8j6.w3 H (fun (c5e : (List a8)) (d4Z : Hp) =>
 D2 c5e cr_8j6.t1 d4Z (fun (b8W : (List a8)) (c4k : Hp) =>
 F6 b8W e2W e2X c4k n2 K))
def F9 (e2Y : Sl) (e2Z : Int) (cr_8l7 : i8) (a1P : (List a8)) (a1D : Int) (H : Hp) (n2 : ((List a8) × Int) → Hp → Prop) (n7 : ((List a8) × Int) → Hp → Prop) (K : (List a8) → Hp → Prop) : Prop :=
 (a1D < (cr_8l7.b9.n : Int) →
 (0 : Int) ≤ a1D ∧ (a1D : Int) < cr_8l7.b9.n ∧ ∃ b8X : i6, EltH H cr_8l7.b9 a1D 4 (c5 b8X) ∧
 D1 a1P b8X H (fun (b8Y : (List a8)) (c4l : Hp) =>
 n7 (b8Y, (IntKind.wrap .i64 (a1D + 1))) c4l)) ∧
 (¬ (a1D < (cr_8l7.b9.n : Int)) →
 F7 a1P e2Y e2Z cr_8l7 H n2 K)
def G1 (a9l : (List a8)) (e3a : Sl) (e3b : Int) (cr_8j5 : i8) (H : Hp) (n2 : ((List a8) × Int) → Hp → Prop) (K : (List a8) → Hp → Prop) : Prop :=
 TL ((a9l, 0) : (List a8) × Int) H fun (s : (List a8) × Int) H n7 => F9 e3a e3b cr_8j5 s.1 s.2 H n2 n7 K
def G2 (e3c : Sl) (e3d : Int) (cr_8l8 : i8) (a1Q : (List a8)) (a1E : Int) (H : Hp) (n2 : ((List a8) × Int) → Hp → Prop) (n8 : ((List a8) × Int) → Hp → Prop) (K : (List a8) → Hp → Prop) : Prop :=
 (a1E < (cr_8l8.g6.n : Int) →
 (0 : Int) ≤ a1E ∧ (a1E : Int) < cr_8l8.g6.n ∧ ∃ b8Z : i7, EltH H cr_8l8.g6 a1E 4 (c9 b8Z) ∧
 I0 a1Q b8Z H (fun (b9a : (List a8)) (c4m : Hp) =>
 n8 (b9a, (IntKind.wrap .i64 (a1E + 1))) c4m)) ∧
 (¬ (a1E < (cr_8l8.g6.n : Int)) →
 G1 a1Q e3c e3d cr_8l8 H n2 K)
def v6 (a9m : (List a8)) (e3e : Sl) (e3f : Int) (cr_8j4 : i8) (H : Hp) (n2 : ((List a8) × Int) → Hp → Prop) (K : (List a8) → Hp → Prop) : Prop :=
 TL ((a9m, 0) : (List a8) × Int) H fun (s : (List a8) × Int) H n8 => G2 e3e e3f cr_8j4 s.1 s.2 H n2 n8 K
def G3 (S2 : (List a8)) (H : Hp) (K : (List a8) → Hp → Prop) : Prop :=
 K S2 H
def G4 (a4c : Sl) (U2 : (List a8)) (R4 : Int) (H : Hp) (n2 : ((List a8) × Int) → Hp → Prop) (K : (List a8) → Hp → Prop) : Prop :=
 (R4 < (a4c.n : Int) →
 (0 : Int) ≤ R4 ∧ (R4 : Int) < a4c.n ∧ ∃ x_1 : i8, EltH H a4c R4 6 (d5 x_1) ∧
 (((decide (x_1.c7 = 1)) || (decide (x_1.c7 = 2))) = true →
 (U2.length + ([(a8.mk x_1.g8 (decide (x_1.c7 = 2)))] : List a8).length) * 25 ≤ 140737488355328 ∧
 v6 (U2 ++ [(a8.mk x_1.g8 (decide (x_1.c7 = 2)))]) a4c R4 x_1 H n2 K) ∧
 (((decide (x_1.c7 = 1)) || (decide (x_1.c7 = 2))) = false →
 v6 U2 a4c R4 x_1 H n2 K)) ∧
 (¬ (R4 < (a4c.n : Int)) →
 G3 U2 H K)
def J1 (x0 : (List a8)) (x1 : Sl) (H : Hp) (K : (List a8) → Hp → Prop) : Prop :=
 TL ((x0, 0) : (List a8) × Int) H fun (s : (List a8) × Int) H n2 => G4 x1 s.1 s.2 H n2 K
theorem a3h (x0 : (List a8)) (x1 : Sl) (sx0 : Sl) (Fx0 : Frag) (hx0 : RowL 71 2 d6 sx0 x0 Fx0) {w0 w : World} {ps0 : Nat → Prop} {H0 H : Hp} {K : (List a8) → Hp → Prop} {R : Value → World → Prop} {E : Pan} (I : Inv w0 ps0 H0 H [Fx0] w) (hR : ∀ (r0 : (List a8)) (sr0 : Sl) (Fr0 : Frag) (H' : Hp) (w' : World) (_ : RowL 71 2 d6 sr0 r0 Fr0) (_ : Inv w0 ps0 H0 H' [Fr0] w') (_ : K r0 H'), R (vs sr0) w') (h : J1 x0 x1 H K) : F74 (vs sx0) (vs x1) w R E := by
 unfold J1 at h
 unfold F74
 have hj1 : ∀ (S2 : (List a8)) (a0S : Sl) (Fs0j1 : Frag) (H : Hp) (w : World) (_ : RowL 71 2 d6 a0S S2 Fs0j1) (_ : Inv w0 ps0 H0 H [Fs0j1] w) (_ : G3 S2 H K), b5C (vs a0S) w R E := by
  intro S2 a0S Fs0j1 H w b1o I h
  unfold b5C
  intro _
  unfold G3 at h
  exact hR S2 a0S Fs0j1 H _ b1o I h
 refine o8 fun j1 hx1 => ?_
 obtain ⟨b9b, b1r, d8S, d8T⟩ := h
 refine y8 (J := fun n l w => ∃ (s : (List a8) × Int) (H : Hp) (a9n : Sl) (Fs0l2 : Frag) , n = b1r s ∧ l = (match s with | (U2, R4) => [(vs a9n), (vi R4)]) ∧ (match s with | (U2, R4) => RowL 71 2 d6 a9n U2 Fs0l2) ∧ (match s with | (U2, R4) => Inv w0 ps0 H0 H [Fs0l2] w) ∧ b9b s H) ⟨_, (x0, 0), H, sx0, Fx0, rfl, rfl, hx0, I, d8S⟩ ?_
 rintro e4A τ_105 w next2 ⟨⟨U2, R4⟩, H, a9n, Fs0l2, rfl, b9c, b3k, I, d8U⟩ hn2
 dsimp only at b9c I b3k
 simp only [List.map_cons, List.map_nil, List.cons.injEq, and_true] at b9c
 obtain ⟨e0, e5⟩ := b9c
 simp only [e0, e5]
 obtain ⟨n2, hm2, h⟩ : ∃ n2 : ((List a8) × Int) → Hp → Prop, (∀ s' H', n2 s' H' → b9b s' H' ∧ b1r s' < b1r (U2, R4)) ∧ G4 x1 U2 R4 H n2 K := ⟨_, fun _ _ h => h, d8T (U2, R4) H (fun s' H' => b9b s' H' ∧ b1r s' < b1r (U2, R4)) d8U (fun _ _ a b => ⟨a, b⟩)⟩
 unfold c1x
 unfold G4 at h
 refine a7 (U4 _ _ _) ?_
 refine a7 (C3 _ _ _ _ _ _) ?_
 refine d9 (fun c4n => ?_) (fun c4n => ?_)
 ·replace h := h.1 c4n
  have hj3 : ∀ (a9k : (List a8)) (b3l : Sl) (Fs0j3 : Frag) (H : Hp) (w : World) (_ : RowL 71 2 d6 b3l a9k Fs0j3) (_ : Inv w0 ps0 H0 H [Fs0j3] w) (_ : F6 a9k x1 R4 H n2 K), b5D (vs b3l) (vs x1) (vi R4) w next2 R E := by
   intro a9k b3l Fs0j3 H w d8V I h
   unfold b5D
   intro _
   unfold F6 at h
   refine a7 (v7 _ _ _ _ _ _) ?_
   exact hn2 _ _ _ (hm2 _ _ h).2 ⟨(a9k, (IntKind.wrap .i64 (R4 + 1))), H, b3l, Fs0j3, rfl, rfl, d8V, I, (hm2 _ _ h).1⟩
  refine o8 fun j3 hx3 => ?_
  obtain ⟨h_4, h_5, x_1, h_7, h⟩ := h
  obtain ⟨g_2, o_3, h_6, h_7⟩ := h_7
  refine a7 (a9L h_6 _ _ _ _ h_4 h_5) ?_
  refine b7 (ldA (vs := (d5 x_1)) Tryd.isAgg88 Tryd.sizeOf88 rfl (I.atH h_7)) ?_
  refine B9 I Tryd.zeroValue88 (cs := [(vi 0), (Value.string ⟨#[]⟩), (Value.slice none 0 0), (Value.slice none 0 0), (Value.slice none 0 0), (Value.slice none 0 0)]) rfl fun g_9 k8 Y3 a8p => ?_
  refine r5 Y3 Tryd.sizeOf88 (vs := (d5 x_1)) (cs' := (d5 x_1)) rfl rfl (nb rfl) rfl rfl fun a3V a0h b7Y => ?_
  have hj4 : ∀ (a9m : (List a8)) (b3m : Sl) (Fs0j4 : Frag) (H : Hp) (w : World) (_ : RowL 71 2 d6 b3m a9m Fs0j4) (_ : Inv w0 ps0 H0 H [bx g_9 88 (d5 x_1), Fs0j4] w) (_ : v6 a9m x1 R4 x_1 H n2 K), b5G (vs b3m) (vs x1) (vi R4) (Value.pointer (some ⟨g_9, 0, none⟩)) w j3 R E := by
   intro a9m b3m Fs0j4 H w d8W I h
   unfold b5G
   intro _
   unfold v6 at h
   have hj5 : ∀ (a9l : (List a8)) (b3n : Sl) (Fs0j5 : Frag) (H : Hp) (w : World) (_ : RowL 71 2 d6 b3n a9l Fs0j5) (_ : Inv w0 ps0 H0 H [bx g_9 88 (d5 x_1), Fs0j5] w) (_ : G1 a9l x1 R4 x_1 H n2 K), b5F (vs b3n) (vs x1) (vi R4) (Value.pointer (some ⟨g_9, 0, none⟩)) w j3 R E := by
    intro a9l b3n Fs0j5 H w d8X I h
    unfold b5F
    intro _
    unfold G1 at h
    have hj6 : ∀ (b1q : (List a8)) (b3o : Sl) (Fs0j6 : Frag) (H : Hp) (w : World) (_ : RowL 71 2 d6 b3o b1q Fs0j6) (_ : Inv w0 ps0 H0 H [bx g_9 88 (d5 x_1), Fs0j6] w) (_ : F7 b1q x1 R4 x_1 H n2 K), b5E (vs b3o) (vs x1) (vi R4) (Value.pointer (some ⟨g_9, 0, none⟩)) w j3 R E := by
     intro b1q b3o Fs0j6 H w d8Y I h
     unfold b5E
     intro _
     unfold F7 at h
     refine a7 a2F ?_
     refine b7 (ld1 Tryd.isAgg23 (I.at1 (o := 4) (vs := [(vs x_1.w3)]) (nb rfl) rfl)) ?_
     refine d7 (cap := []) (fun args w => Tryd.call74 args w) ?_
     refine h9 (Fi := [Fs0j6]) (Fr := [bx g_9 88 (d5 x_1)]) (I.bring 1) (h b3o Fs0j6 d8Y) (fun e7r d4Z e7s d5a d5b e7t e7u e3g => ?_) (fun _ _ _ _ _ q => q.elim)
     obtain ⟨c5e, d5c, c1y, rfl, rfl, d5d, h⟩ := e3g
     refine a7 X4 ?_
     refine b7 (ld1 Tryd.isAgg23 ((d5b.bring 1).at1 (o := 5) (vs := [(vs x_1.t1)]) (nb rfl) rfl)) ?_
     refine d7 (cap := []) (fun args w => Tryd.call74 args w) ?_
     refine h9 (Fi := [c1y]) (Fr := [bx g_9 88 (d5 x_1)]) d5b (h d5c c1y d5d) (fun e7v c4k e7w Y1 e3h e7x e7y e3i => ?_) (fun _ _ _ _ _ q => q.elim)
     obtain ⟨b8W, d5e, d5f, rfl, rfl, d5g, h⟩ := e3i
     exact hx3 _ _ (hj3 b8W d5e d5f c4k _ d5g (e3h.bring 1).drop h)
    refine o8 fun j6 hx6 => ?_
    obtain ⟨c4o, b5N, e3j, a8u⟩ := h
    refine y8 (J := fun n l w => ∃ (s : (List a8) × Int) (H : Hp) (b1s : Sl) (Fs0l7 : Frag) , n = b5N s ∧ l = (match s with | (a1P, a1D) => [(vs b1s), (vi a1D)]) ∧ (match s with | (a1P, a1D) => RowL 71 2 d6 b1s a1P Fs0l7) ∧ (match s with | (a1P, a1D) => Inv w0 ps0 H0 H [bx g_9 88 (d5 x_1), Fs0l7] w) ∧ c4o s H) ⟨_, (a9l, 0), H, b3n, Fs0j5, rfl, rfl, d8X, ((I.bring 1).bring 1), e3j⟩ ?_
    rintro e7z τ_86 w next7 ⟨⟨a1P, a1D⟩, H, b1s, Fs0l7, rfl, b5O, b9d, I, e3k⟩ hn7
    dsimp only at b5O I b9d
    simp only [List.map_cons, List.map_nil, List.cons.injEq, and_true] at b5O
    obtain ⟨e0, e8⟩ := b5O
    simp only [e0, e8]
    obtain ⟨n7, hm7, h⟩ : ∃ n7 : ((List a8) × Int) → Hp → Prop, (∀ s' H', n7 s' H' → c4o s' H' ∧ b5N s' < b5N (a1P, a1D)) ∧ F9 x1 R4 x_1 a1P a1D H n2 n7 K := ⟨_, fun _ _ h => h, a8u (a1P, a1D) H (fun s' H' => c4o s' H' ∧ b5N s' < b5N (a1P, a1D)) e3k (fun _ _ a b => ⟨a, b⟩)⟩
    unfold c1v
    unfold F9 at h
    refine a7 a1l ?_
    refine b7 (ld1 Tryd.isAgg28 (I.at1 (o := 2) (vs := [(vs x_1.b9)]) (nb rfl) rfl)) ?_
    refine a7 (M0 _ _ _) ?_
    refine a7 (C3 _ _ _ _ _ _) ?_
    refine d9 (fun b0l => ?_) (fun b0l => ?_)
    ·replace h := h.1 b0l
     refine a7 a1l ?_
     refine b7 (ld1 Tryd.isAgg28 (I.at1 (o := 2) (vs := [(vs x_1.b9)]) (nb rfl) rfl)) ?_
     obtain ⟨c4p, e3l, b8X, a7l, h⟩ := h
     obtain ⟨e7A, e7B, b5n, a7l⟩ := a7l
     refine a7 (a1T b5n _ _ _ _ c4p e3l) ?_
     refine b7 (ldA (vs := (c5 b8X)) Tryd.isAgg30 Tryd.sizeOf30 rfl (I.atH a7l)) ?_
     refine d7 (cap := []) (fun args w => Tryd.call102 args w) ?_
     refine h9 (Fi := [Fs0l7]) (Fr := [bx g_9 88 (d5 x_1)]) (I.bring 1) (h b1s Fs0l7 b9d) (fun e7C c4l d5h R7 b9e e7D e3m e3n => ?_) (fun _ _ _ _ _ q => q.elim)
     obtain ⟨b8Y, d5i, d5j, rfl, rfl, d5k, h⟩ := e3n
     refine a7 (v7 _ _ _ _ _ _) ?_
     exact hn7 _ _ _ (hm7 _ _ h).2 ⟨(b8Y, (IntKind.wrap .i64 (a1D + 1))), c4l, d5i, d5j, rfl, rfl, d5k, (b9e.bring 1), (hm7 _ _ h).1⟩
    ·replace h := h.2 b0l
     exact hx6 _ _ (hj6 a1P b1s Fs0l7 H _ b9d ((I.bring 1).bring 1) h)
   refine o8 fun j5 hx5 => ?_
   obtain ⟨c4q, b5P, e3o, e3p⟩ := h
   refine y8 (J := fun n l w => ∃ (s : (List a8) × Int) (H : Hp) (b1t : Sl) (Fs0l8 : Frag) , n = b5P s ∧ l = (match s with | (a1Q, a1E) => [(vs b1t), (vi a1E)]) ∧ (match s with | (a1Q, a1E) => RowL 71 2 d6 b1t a1Q Fs0l8) ∧ (match s with | (a1Q, a1E) => Inv w0 ps0 H0 H [bx g_9 88 (d5 x_1), Fs0l8] w) ∧ c4q s H) ⟨_, (a9m, 0), H, b3m, Fs0j4, rfl, rfl, d8W, ((I.bring 1).bring 1), e3o⟩ ?_
   rintro e7E τ_95 w next8 ⟨⟨a1Q, a1E⟩, H, b1t, Fs0l8, rfl, c4r, b9f, I, e3q⟩ hn8
   dsimp only at c4r I b9f
   simp only [List.map_cons, List.map_nil, List.cons.injEq, and_true] at c4r
   obtain ⟨e0, e7⟩ := c4r
   simp only [e0, e7]
   obtain ⟨n8, hm8, h⟩ : ∃ n8 : ((List a8) × Int) → Hp → Prop, (∀ s' H', n8 s' H' → c4q s' H' ∧ b5P s' < b5P (a1Q, a1E)) ∧ G2 x1 R4 x_1 a1Q a1E H n2 n8 K := ⟨_, fun _ _ h => h, e3p (a1Q, a1E) H (fun s' H' => c4q s' H' ∧ b5P s' < b5P (a1Q, a1E)) e3q (fun _ _ a b => ⟨a, b⟩)⟩
   unfold c1w
   unfold G2 at h
   refine a7 a1m ?_
   refine b7 (ld1 Tryd.isAgg31 (I.at1 (o := 3) (vs := [(vs x_1.g6)]) (nb rfl) rfl)) ?_
   refine a7 (X3 _ _ _) ?_
   refine a7 (C3 _ _ _ _ _ _) ?_
   refine d9 (fun b0f => ?_) (fun b0f => ?_)
   ·replace h := h.1 b0f
    refine a7 a1m ?_
    refine b7 (ld1 Tryd.isAgg31 (I.at1 (o := 3) (vs := [(vs x_1.g6)]) (nb rfl) rfl)) ?_
    obtain ⟨e3r, c2H, b8Z, a5f, h⟩ := h
    obtain ⟨e7F, e7G, a5d, a5f⟩ := a5f
    refine a7 (a4K a5d _ _ _ _ e3r c2H) ?_
    refine b7 (ldA (vs := (c9 b8Z)) Tryd.isAgg33 Tryd.sizeOf33 rfl (I.atH a5f)) ?_
    refine d7 (cap := []) (fun args w => Tryd.call101 args w) ?_
    refine h9 (Fi := [Fs0l8]) (Fr := [bx g_9 88 (d5 x_1)]) (I.bring 1) (h b1t Fs0l8 b9f) (fun e7H c4m e7I E0 c4s e7J e3s e3t => ?_) (fun _ _ _ _ _ q => q.elim)
    obtain ⟨b9a, d5l, d5m, rfl, rfl, d5n, h⟩ := e3t
    refine a7 (v7 _ _ _ _ _ _) ?_
    exact hn8 _ _ _ (hm8 _ _ h).2 ⟨(b9a, (IntKind.wrap .i64 (a1E + 1))), c4m, d5l, d5m, rfl, rfl, d5n, (c4s.bring 1), (hm8 _ _ h).1⟩
   ·replace h := h.2 b0f
    exact hx5 _ _ (hj5 a1Q b1t Fs0l8 H _ b9f ((I.bring 1).bring 1) h)
  refine o8 fun j4 hx4 => ?_
  refine a7 M9 ?_
  refine b7 (ld1 Tryd.isAgg3 (a0h.at1 (o := 0) (vs := [(vi x_1.c7)]) (nb rfl) rfl)) ?_
  refine a7 (f5 _ _ _ _ _ _) ?_
  refine a7 (Pu.g fun hb => by have b3 := hb; first | exact M9 | (simp only [d4 b3, b6 b3, b6 hb, a4J b3]; exact M9) | (simp only [d4 b3, b6 b3, b6 hb, E3 b3, l9]; exact M9)) ?_
  refine b7 (Ld.g fun hb => by have b3 := hb; first | exact (ld1 Tryd.isAgg3 (a0h.at1 (o := 0) (vs := [(vi x_1.c7)]) (nb rfl) rfl)) | (simp only [b6 b3]; exact (ld1 Tryd.isAgg3 (a0h.at1 (o := 0) (vs := [(vi x_1.c7)]) (nb rfl) rfl))) | (simp only [d4 b3, b6 b3, b6 hb, E3 b3, l9]; exact (ld1 Tryd.isAgg3 (a0h.at1 (o := 0) (vs := [(vi x_1.c7)]) (nb rfl) rfl)))) ?_
  refine a7 (Pu.g fun hb => by have b3 := hb; first | exact (f5 _ _ _ _ _ _) | (simp only [b6 b3]; exact (f5 _ _ _ _ _ _)) | (simp only [d4 b3, b6 b3, b6 hb, E3 b3, l9]; exact (f5 _ _ _ _ _ _))) ?_
  refine a7 (a1f _ _) ?_
  refine p1 (fun c4t => ?_) (fun c4t => ?_)
  ·replace h := h.1 c4t
   refine a7 a1k ?_
   refine b7 (ld1 Tryd.isAgg9 (a0h.at1 (o := 1) (vs := [(Value.string x_1.g8)]) (nb rfl) rfl)) ?_
   refine a7 M9 ?_
   refine b7 (ld1 Tryd.isAgg3 (a0h.at1 (o := 0) (vs := [(vi x_1.c7)]) (nb rfl) rfl)) ?_
   refine a7 (f5 _ _ _ _ _ _) ?_
   refine a7 (a7A _ _) ?_
   refine a1S (e := 71) (c := d6) (xs := [(a8.mk x_1.g8 (decide (x_1.c7 = 2)))]) a0h (b6J _ _) rfl rfl a0K a0L (nb rfl) fun d3x e2T a5Y c4u a7j b8u => ?_
   obtain ⟨a5b, h⟩ := h
   refine c0t (s := a9n) (xs := U2) (a7j.bring 2) b3k (c4u.srcO ((a7j.bring 2).bring 1)) a5b fun e3u d3n a7V b0r b8t e1K => ?_
   exact hx4 _ _ (hj4 (U2 ++ [(a8.mk x_1.g8 (decide (x_1.c7 = 2)))]) e3u d3n H _ b0r ((b8t.bring 1).drop.bring 1) h)
  ·replace h := h.2 c4t
   exact hx4 _ _ (hj4 U2 a9n Fs0l2 H _ b3k ((a0h.bring 1).bring 1) h)
 ·replace h := h.2 c4n
  exact hx1 _ _ (hj1 U2 a9n Fs0l2 H _ b3k I h)
theorem a3D (x0 : (List a8)) (x1 : Sl) {H : Hp} {K : (List a8) → Hp → Prop} (h : J1 x0 x1 H K) : D2 x0 x1 H K := by
 intro sx0 Fx0 hx0 w I
 refine d4l ?_
 refine a3h x0 x1 sx0 Fx0 hx0 I (fun r0 sr0 Fr0 H' w' khr0 I' hk => ⟨H', _, I', r0, sr0, Fr0, rfl, rfl, khr0, hk⟩) h
def N7 (x0 : i5) (H : Hp) (K : Sl → Hp → Prop) : Prop :=
 D2 [] x0.a3F H (fun (c5f : (List a8)) (H_7 : Hp) =>
 ∀ (a5s : Sl) (Q3 : Hp), Hle H_7 Q3 → SlH Q3 2 d6 a5s c5f → a5s.n ≤ a5s.c →
 K a5s Q3)
theorem a4x (x0 : i5) {w0 w : World} {ps0 : Nat → Prop} {H0 H : Hp} {K : Sl → Hp → Prop} {R : Value → World → Prop} {E : Pan} (I : Inv w0 ps0 H0 H [] w) (hR : ∀ (r0 : Sl) (H' : Hp) (w' : World) (_ : Inv w0 ps0 H0 H' [] w') (_ : K r0 H'), R (vs r0) w') (h : N7 x0 H K) : F37 (Value.agg (f9 x0).toArray) w R E := by
 unfold N7 at h
 unfold F37
 refine K1 I (cs := (f9 x0)) rfl fun g_2 w_3 I_4 k_5 => ?_
 refine a7 a6I ?_
 refine b7 (ld1 Tryd.isAgg23 (I_4.at1 (o := 1) (vs := [(vs x0.a3F)]) (nb rfl) rfl)) ?_
 refine d7 (cap := []) (fun args w => Tryd.call74 args w) ?_
 refine h9 (Fi := [[]]) (Fr := [bx g_2 25 (f9 x0)]) I_4.nil (h (Sl.mk none 0 0) ([]) (RowL.nil (e := 71) a0K a0L)) (fun e7K H_7 e7L w_8 I_9 e7M c2x e3v => ?_) (fun _ _ _ _ _ q => q.elim)
 obtain ⟨c5f, a5s, e4s, rfl, rfl, d5o, h⟩ := e3v
 obtain ⟨Q3, a3p, e3w, b5J, c4u⟩ := Inv.freezeC I_9 d5o (by decide)
 replace h := h a5s Q3 e3w b5J c4u
 exact hR a5s Q3 _ a3p.drop h
theorem a5t (x0 : i5) {H : Hp} {K : Sl → Hp → Prop} (h : N7 x0 H K) : V0 x0 H K := by
 intro w I
 refine d3B ?_
 refine a4x x0 I (fun r0 H' w' I' hk => ⟨H', _, I', r0, rfl, rfl, hk⟩) h
end Go.Proofs.YthldnpmfelniiaaDoor
