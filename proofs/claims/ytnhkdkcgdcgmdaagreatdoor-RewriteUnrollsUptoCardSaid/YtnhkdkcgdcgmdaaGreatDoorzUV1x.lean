/- Typed formulas of the program's functions that few laws need; printed by lift.py off the code. -/
import Derived.Test.YtnhkdkcgdcgmdaaGreatDoorzUV1
import Derived.Test.YtnhkdkcgdcgmdaaGreatDoorzUG1x
namespace Go.Proofs.YtnhkdkcgdcgmdaaGreatDoor
open Go.RowKit
set_option maxRecDepth 100000
set_option maxHeartbeats 2000000
variable {w0 w : World} {ps0 : Nat → Prop} {H0 H : Hp} {R : RT} {E : Pan}
def P8 (x0 : Sl) (H : Hp) (K : Sl → Hp → Prop) : Prop :=
 (x0.a.isNone = true →
 K (Sl.mk none 0 0) H) ∧
 (x0.a.isNone = false →
 ∃ d5F : List E0, SlH H 2 w6 x0 d5F ∧ (([] : List E0).length + d5F.length) * 25 ≤ 140737488355328 ∧
 ∀ (s_8 : Sl) (b3l : Hp), Hle H b3l → SlH b3l 2 w6 s_8 d5F → s_8.n ≤ s_8.c →
 K s_8 b3l)
theorem a8r (x0 : Sl) {K : Sl → Hp → Prop} (I : Inv w0 ps0 H0 H [] w) (hR : ∀ (r0 : Sl) (H' : Hp) (w' : World) (_ : Inv w0 ps0 H0 H' [] w') (_ : K r0 H'), R (vs r0) w') (h : P8 x0 H K) : F44 (vs x0) w R E := by
 unfold P8 at h
 unfold F44
 refine a7 (e1Y _ _ x0) ?_
 refine o2 (fun b3z => ?_) (fun b3z => ?_)
 ·replace h := h.1 b3z
  exact hR (Sl.mk none 0 0) H _ I h
 ·replace h := h.2 b3z
  refine a4b (e := 71) (c := w6) (xs := []) I (f9Y) rfl rfl a8D b6O (nb rfl) fun s_2 F_3 w_4 h_5 I_6 k_7 => ?_
  obtain ⟨d5F, a8e, h⟩ := h
  obtain ⟨f3X, h⟩ := h
  refine d5U (s := s_2) (xs := []) I_6 h_5 (SlH.src I_6 a8e a8D) f3X fun s_8 F_9 o9 c6x B1 b6V => ?_
  simp only [List.nil_append] at c6x
  obtain ⟨b3l, a4X, a8s, f6T, j5Q⟩ := Inv.freezeC B1 c6x (by decide)
  replace h := h s_8 b3l a8s f6T j5Q
  exact hR s_8 b3l _ a4X h
theorem a8B (x0 : Sl) {H : Hp} {K : Sl → Hp → Prop} (h : P8 x0 H K) : V9 x0 H K := by
 intro w I
 refine i4F ?_
 refine a8r x0 I (fun r0 H' w' I' hk => ⟨H', _, I', r0, rfl, rfl, hk⟩) h
def a6B (x0 : a8) (H : Hp) (K : a8 → Hp → Prop) : Prop :=
 B6 x0.k9 H (fun (m9 : Sl) (Z0 : Hp) =>
 K (a8.mk x0.b6 x0.o6 x0.f6 m9) Z0)
theorem c0o (x0 : a8) {K : a8 → Hp → Prop} (I : Inv w0 ps0 H0 H [] w) (hR : ∀ (r0 : a8) (H' : Hp) (w' : World) (_ : Inv w0 ps0 H0 H' [] w') (_ : K r0 H'), R (Value.agg (b8 r0).toArray) w') (h : a6B x0 H K) : F81 (Value.agg (b8 x0).toArray) w R E := by
 unfold a6B at h
 unfold F81
 refine K6 I (cs := (b8 x0)) rfl fun g_2 w_3 I_4 k_5 => ?_
 refine z8 I_4 Tryz.zeroValue53 (cs := [(vi 0), (vi 0), (eS), (nS)]) rfl fun g_7 w_8 I_9 a9j => ?_
 refine a7 B2 ?_
 refine f2 (ld1 Tryz.isAgg51 ((I_9.bring 1).at1 (o := 3) (vs := [(vs x0.k9)]) (nb rfl) rfl)) ?_
 refine f7 (cap := []) (fun args w => Tryz.call80 args w) ?_
 refine k8 (Fi := []) (Fr := [bx g_7 53 [(vi 0), (vi 0), (eS), (nS)], bx g_2 53 (b8 x0)]) I_9 (h) (fun c9l Z0 c9m p8 a6l c3J c9n b3u => ?_) (fun _ _ _ _ _ q => q.elim)
 obtain ⟨m9, rfl, rfl, h⟩ := b3u
 refine a7 B2 ?_
 refine m5 (a6l.bring 1) Tryz.sizeOf51 (vs := [(vs m9)]) (cs' := [(vi x0.b6), (vi x0.o6), (Value.string x0.f6), (vs m9)]) rfl rfl (nb rfl) rfl rfl fun t8 a0f b3g => ?_
 refine f2 (ldA Tryz.isAgg53 Tryz.sizeOf53 rfl (a0f.at1 (o := 0) (vs := [(vi x0.b6), (vi x0.o6), (Value.string x0.f6), (vs m9)]) (nb rfl) rfl)) ?_
 refine m5 (a0f.bring 1) Tryz.sizeOf53 (vs := [(vi x0.b6), (vi x0.o6), (Value.string x0.f6), (vs m9)]) (cs' := [(vi x0.b6), (vi x0.o6), (Value.string x0.f6), (vs m9)]) rfl rfl (nb rfl) rfl rfl fun a6X a6k c9g => ?_
 refine J4 Tryz.isAgg53 Tryz.sizeOf53 rfl (a6k.at1 (o := 0) (vs := [(vi x0.b6), (vi x0.o6), (Value.string x0.f6), (vs m9)]) (nb rfl) rfl) ?_
 exact hR (a8.mk x0.b6 x0.o6 x0.f6 m9) Z0 _ a6k.drop.drop h
theorem c1z (x0 : a8) {H : Hp} {K : a8 → Hp → Prop} (h : a6B x0 H K) : a9f x0 H K := by
 intro w I
 refine i4R ?_
 refine c0o x0 I (fun r0 H' w' I' hk => ⟨H', _, I', r0, rfl, rfl, hk⟩) h
def E2 (C6 : (List a8)) (H : Hp) (K : Sl → Hp → Prop) : Prop :=
 ∀ (r7 : Sl) (M1 : Hp), Hle H M1 → SlH M1 4 b8 r7 C6 → r7.n ≤ r7.c →
 K r7 M1
def E3 (a0u : Sl) (a4V : Int) (m6 : (List a8)) (o0 : Int) (H : Hp) (n2 : ((List a8) × Int) → Hp → Prop) (K : Sl → Hp → Prop) : Prop :=
 (o0 < a4V →
 (0 : Int) ≤ o0 ∧ (o0 : Int) < a0u.n ∧ ∃ x_1 : a8, EltH H a0u o0 4 (b8 x_1) ∧
 a9f x_1 H (fun (I0 : a8) (U1 : Hp) =>
 (m6.length + ([I0] : List a8).length) * 57 ≤ 140737488355328 ∧
 n2 ((m6 ++ [I0]), (IntKind.wrap .i64 (o0 + 1))) U1)) ∧
 (¬ (o0 < a4V) →
 E2 m6 H K)
def I2 (x0 : Sl) (H : Hp) (K : Sl → Hp → Prop) : Prop :=
 TL (([], 0) : (List a8) × Int) H fun (s : (List a8) × Int) H n2 => E3 x0 (x0.n : Int) s.1 s.2 H n2 K
theorem a4E (x0 : Sl) {K : Sl → Hp → Prop} (I : Inv w0 ps0 H0 H [] w) (hR : ∀ (r0 : Sl) (H' : Hp) (w' : World) (_ : Inv w0 ps0 H0 H' [] w') (_ : K r0 H'), R (vs r0) w') (h : I2 x0 H K) : F80 (vs x0) (fC 81) w R E := by
 unfold I2 at h
 unfold F80
 have hj1 : ∀ (C6 : (List a8)) (r7 : Sl) (Fs5j1 : Frag) (H : Hp) (w : World) (_ : RowL 53 4 b8 r7 C6 Fs5j1) (_ : Inv w0 ps0 H0 H [Fs5j1] w) (_ : E2 C6 H K), e1M (vs r7) w R E := by
  intro C6 r7 Fs5j1 H w a6v I h
  unfold e1M
  intro _
  unfold E2 at h
  obtain ⟨M1, a6K, b0n, a5v, a5W⟩ := Inv.freezeC I a6v (by decide)
  replace h := h r7 M1 b0n a5v a5W
  exact hR r7 M1 _ a6K h
 refine r9 fun j1 hx1 => ?_
 refine a7 (K0 _ _ _) ?_
 obtain ⟨a2N, R4, b1x, b1y⟩ := h
 refine A7 (J := fun n l w => ∃ (s : (List a8) × Int) (H : Hp) (B9 : Sl) (Fs5l2 : Frag) , n = R4 s ∧ l = (match s with | (m6, o0) => [(vs B9), (vi o0)]) ∧ (match s with | (m6, o0) => RowL 53 4 b8 B9 m6 Fs5l2) ∧ (match s with | (m6, o0) => Inv w0 ps0 H0 H [Fs5l2] w) ∧ a2N s H) ⟨_, ([], 0), H, (Sl.mk none 0 0), [], rfl, rfl, (RowL.nil T8 T9), I.nil, b1x⟩ ?_
 rintro c5F τ_50 w next2 ⟨⟨m6, o0⟩, H, B9, Fs5l2, rfl, a1W, Q2, I, b1z⟩ hn2
 dsimp only at a1W I Q2
 simp only [List.map_cons, List.map_nil, List.cons.injEq, and_true] at a1W
 obtain ⟨e5, e10⟩ := a1W
 simp only [e5, e10]
 obtain ⟨n2, hm2, h⟩ : ∃ n2 : ((List a8) × Int) → Hp → Prop, (∀ s' H', n2 s' H' → a2N s' H' ∧ R4 s' < R4 (m6, o0)) ∧ E3 x0 (x0.n : Int) m6 o0 H n2 K := ⟨_, fun _ _ h => h, b1y (m6, o0) H (fun s' H' => a2N s' H' ∧ R4 s' < R4 (m6, o0)) b1z (fun _ _ a b => ⟨a, b⟩)⟩
 unfold f2O
 unfold E3 at h
 refine a7 (v7 _ _ _ _ _ _) ?_
 refine k4 (fun a0H => ?_) (fun a0H => ?_)
 ·replace h := h.1 a0H
  obtain ⟨h_4, h_5, x_1, h_7, h⟩ := h
  obtain ⟨g_2, o_3, h_6, h_7⟩ := h_7
  refine a7 (G7 h_6 _ _ _ _ h_4 h_5) ?_
  refine f2 (ldA (vs := (b8 x_1)) Tryz.isAgg53 Tryz.sizeOf53 rfl (I.atH h_7)) ?_
  refine z8 I Tryz.zeroValue53 (cs := [(vi 0), (vi 0), (eS), (nS)]) rfl fun g_9 o9 a3G b3h => ?_
  refine m5 a3G Tryz.sizeOf53 (vs := (b8 x_1)) (cs' := (b8 x_1)) rfl rfl (nb rfl) rfl rfl fun a3F P1 a4W => ?_
  refine f2 (ldA Tryz.isAgg53 Tryz.sizeOf53 rfl (P1.at1 (o := 0) (vs := (b8 x_1)) (nb rfl) rfl)) ?_
  refine f7 (cap := []) (fun args w => Tryz.call81 args w) ?_
  refine k8 (Fi := []) (Fr := [bx g_9 53 (b8 x_1), Fs5l2]) P1 (h) (fun c3a U1 c0X a0t a4X c3b c0Y b0o => ?_) (fun _ _ _ _ _ q => q.elim)
  obtain ⟨I0, rfl, rfl, h⟩ := b0o
  refine a4b (e := 53) (c := b8) (xs := [I0]) a4X (b7V _ _ _ _ _ _) rfl rfl T8 T9 (nb rfl) fun c0Z b4v B0 a8c X3 a9P => ?_
  obtain ⟨b0p, h⟩ := h
  refine c4O (s := B9) (xs := m6) (X3.bring 2) Q2 (a8c.srcO ((X3.bring 2).bring 1)) b0p fun a7u a9Q A6 a9i a6L b8K => ?_
  refine a7 (u7 _ _ _ _ _ _) ?_
  exact hn2 _ _ _ (hm2 _ _ h).2 ⟨((m6 ++ [I0]), (IntKind.wrap .i64 (o0 + 1))), U1, a7u, a9Q, rfl, rfl, a9i, ((a6L.bring 1).drop.bring 1).drop, (hm2 _ _ h).1⟩
 ·replace h := h.2 a0H
  exact hx1 _ _ (hj1 m6 B9 Fs5l2 H _ Q2 I h)
theorem a5l (x0 : Sl) {H : Hp} {K : Sl → Hp → Prop} (h : I2 x0 H K) : B6 x0 H K := by
 intro w I
 refine i4P ?_
 refine a4E x0 I (fun r0 H' w' I' hk => ⟨H', _, I', r0, rfl, rfl, hk⟩) h
def a6C (x0 : b7) (H : Hp) (K : b7 → Hp → Prop) : Prop :=
 B6 x0.f5 H (fun (u5 : Sl) (a1X : Hp) =>
 G9 x0.o3 a1X (fun (u2 : Sl) (a4x : Hp) =>
 K (b7.mk x0.b6 x0.fOp u5 u2) a4x))
theorem c0p (x0 : b7) {K : b7 → Hp → Prop} (I : Inv w0 ps0 H0 H [] w) (hR : ∀ (r0 : b7) (H' : Hp) (w' : World) (_ : Inv w0 ps0 H0 H' [] w') (_ : K r0 H'), R (Value.agg (d8 r0).toArray) w') (h : a6C x0 H K) : F83 (Value.agg (d8 x0).toArray) w R E := by
 unfold a6C at h
 unfold F83
 refine K6 I (cs := (d8 x0)) rfl fun g_2 w_3 I_4 k_5 => ?_
 refine z8 I_4 Tryz.zeroValue59 (cs := [(vi 0), (vi 0), (nS), (nS)]) rfl fun g_7 w_8 I_9 a9j => ?_
 refine a3D I_9 fun S5 B1 => ?_
 refine o7 O4 ?_
 refine o7 M5 ?_
 refine y9 (ld1 Tryz.isAgg51 ((B1.bring 1).at1 (o := 2) (vs := [(vs x0.f5)]) (nb rfl) rfl)) ?_
 refine y9 (ld1 Tryz.isAgg57 ((B1.bring 1).at1 (o := 3) (vs := [(vs x0.o3)]) (nb rfl) rfl)) ?_
 refine f7 (cap := []) (fun args w => Tryz.call80 args w) ?_
 refine k8 (Fi := []) (Fr := [bx g_7 59 [(vi 0), (vi 0), (nS), (nS)], bx g_2 59 (d8 x0)]) B1 (h) (fun e8t a1X e8u p6 b3m c6p b8S c4m => ?_) (fun _ _ _ _ _ q => q.elim)
 obtain ⟨u5, rfl, rfl, h⟩ := c4m
 refine ⟨(b8S _ (B1.bring 1).lt1 (Inv.a1t (Fi := []) (B1.bring 1))), ?_⟩
 refine o7 O4 ?_
 refine f7 (cap := []) (fun args w => Tryz.call82 args w) ?_
 refine k8 (Fi := []) (Fr := [bx g_7 59 [(vi 0), (vi 0), (nS), (nS)], bx g_2 59 (d8 x0)]) b3m (h) (fun f4o a4x b4v a6X a6k c3D c9g c9h => ?_) (fun _ _ _ _ _ q => q.elim)
 obtain ⟨u2, rfl, rfl, h⟩ := c9h
 refine m5 (a6k.bring 1) Tryz.sizeOf51 (vs := [(vs u5)]) (cs' := [(vi x0.b6), (vi x0.fOp), (vs u5), (vs x0.o3)]) rfl rfl (nb rfl) rfl rfl fun b1m b3J i4f => ?_
 refine o7 M5 ?_
 refine m5 b3J Tryz.sizeOf57 (vs := [(vs u2)]) (cs' := [(vi x0.b6), (vi x0.fOp), (vs u5), (vs u2)]) rfl rfl (nb rfl) rfl rfl fun A6 a4Y c1b => ?_
 refine f2 (ldA Tryz.isAgg59 Tryz.sizeOf59 rfl (a4Y.at1 (o := 0) (vs := [(vi x0.b6), (vi x0.fOp), (vs u5), (vs u2)]) (nb rfl) rfl)) ?_
 refine m5 (a4Y.bring 1) Tryz.sizeOf59 (vs := [(vi x0.b6), (vi x0.fOp), (vs u5), (vs u2)]) (cs' := [(vi x0.b6), (vi x0.fOp), (vs u5), (vs u2)]) rfl rfl (nb rfl) rfl rfl fun b2Z a8g d3A => ?_
 refine J4 Tryz.isAgg59 Tryz.sizeOf59 rfl (a8g.at1 (o := 0) (vs := [(vi x0.b6), (vi x0.fOp), (vs u5), (vs u2)]) (nb rfl) rfl) ?_
 exact hR (b7.mk x0.b6 x0.fOp u5 u2) a4x _ a8g.drop.drop h
theorem c1A (x0 : b7) {H : Hp} {K : b7 → Hp → Prop} (h : a6C x0 H K) : a9g x0 H K := by
 intro w I
 refine i4W ?_
 refine c0p x0 I (fun r0 H' w' I' hk => ⟨H', _, I', r0, rfl, rfl, hk⟩) h
def E4 (C6 : (List b7)) (H : Hp) (K : Sl → Hp → Prop) : Prop :=
 ∀ (r7 : Sl) (M1 : Hp), Hle H M1 → SlH M1 4 d8 r7 C6 → r7.n ≤ r7.c →
 K r7 M1
def E5 (a0u : Sl) (a4V : Int) (m6 : (List b7)) (o0 : Int) (H : Hp) (n2 : ((List b7) × Int) → Hp → Prop) (K : Sl → Hp → Prop) : Prop :=
 (o0 < a4V →
 (0 : Int) ≤ o0 ∧ (o0 : Int) < a0u.n ∧ ∃ x_1 : b7, EltH H a0u o0 4 (d8 x_1) ∧
 a9g x_1 H (fun (I0 : b7) (U1 : Hp) =>
 (m6.length + ([I0] : List b7).length) * 65 ≤ 140737488355328 ∧
 n2 ((m6 ++ [I0]), (IntKind.wrap .i64 (o0 + 1))) U1)) ∧
 (¬ (o0 < a4V) →
 E4 m6 H K)
def I3 (x0 : Sl) (H : Hp) (K : Sl → Hp → Prop) : Prop :=
 TL (([], 0) : (List b7) × Int) H fun (s : (List b7) × Int) H n2 => E5 x0 (x0.n : Int) s.1 s.2 H n2 K
theorem a4F (x0 : Sl) {K : Sl → Hp → Prop} (I : Inv w0 ps0 H0 H [] w) (hR : ∀ (r0 : Sl) (H' : Hp) (w' : World) (_ : Inv w0 ps0 H0 H' [] w') (_ : K r0 H'), R (vs r0) w') (h : I3 x0 H K) : F82 (vs x0) (fC 83) w R E := by
 unfold I3 at h
 unfold F82
 have hj1 : ∀ (C6 : (List b7)) (r7 : Sl) (Fs5j1 : Frag) (H : Hp) (w : World) (_ : RowL 59 4 d8 r7 C6 Fs5j1) (_ : Inv w0 ps0 H0 H [Fs5j1] w) (_ : E4 C6 H K), e1N (vs r7) w R E := by
  intro C6 r7 Fs5j1 H w a6v I h
  unfold e1N
  intro _
  unfold E4 at h
  obtain ⟨M1, a6K, b0n, a5v, a5W⟩ := Inv.freezeC I a6v (by decide)
  replace h := h r7 M1 b0n a5v a5W
  exact hR r7 M1 _ a6K h
 refine r9 fun j1 hx1 => ?_
 refine a7 (V0 _ _ _) ?_
 obtain ⟨a2N, R4, b1x, b1y⟩ := h
 refine A7 (J := fun n l w => ∃ (s : (List b7) × Int) (H : Hp) (B9 : Sl) (Fs5l2 : Frag) , n = R4 s ∧ l = (match s with | (m6, o0) => [(vs B9), (vi o0)]) ∧ (match s with | (m6, o0) => RowL 59 4 d8 B9 m6 Fs5l2) ∧ (match s with | (m6, o0) => Inv w0 ps0 H0 H [Fs5l2] w) ∧ a2N s H) ⟨_, ([], 0), H, (Sl.mk none 0 0), [], rfl, rfl, (RowL.nil a5p a5q), I.nil, b1x⟩ ?_
 rintro c5F τ_50 w next2 ⟨⟨m6, o0⟩, H, B9, Fs5l2, rfl, a1W, Q2, I, b1z⟩ hn2
 dsimp only at a1W I Q2
 simp only [List.map_cons, List.map_nil, List.cons.injEq, and_true] at a1W
 obtain ⟨e5, e10⟩ := a1W
 simp only [e5, e10]
 obtain ⟨n2, hm2, h⟩ : ∃ n2 : ((List b7) × Int) → Hp → Prop, (∀ s' H', n2 s' H' → a2N s' H' ∧ R4 s' < R4 (m6, o0)) ∧ E5 x0 (x0.n : Int) m6 o0 H n2 K := ⟨_, fun _ _ h => h, b1y (m6, o0) H (fun s' H' => a2N s' H' ∧ R4 s' < R4 (m6, o0)) b1z (fun _ _ a b => ⟨a, b⟩)⟩
 unfold f2P
 unfold E5 at h
 refine a7 (v7 _ _ _ _ _ _) ?_
 refine k4 (fun a0H => ?_) (fun a0H => ?_)
 ·replace h := h.1 a0H
  obtain ⟨h_4, h_5, x_1, h_7, h⟩ := h
  obtain ⟨g_2, o_3, h_6, h_7⟩ := h_7
  refine a7 (a1T h_6 _ _ _ _ h_4 h_5) ?_
  refine f2 (ldA (vs := (d8 x_1)) Tryz.isAgg59 Tryz.sizeOf59 rfl (I.atH h_7)) ?_
  refine z8 I Tryz.zeroValue59 (cs := [(vi 0), (vi 0), (nS), (nS)]) rfl fun g_9 o9 a3G b3h => ?_
  refine m5 a3G Tryz.sizeOf59 (vs := (d8 x_1)) (cs' := (d8 x_1)) rfl rfl (nb rfl) rfl rfl fun a3F P1 a4W => ?_
  refine f2 (ldA Tryz.isAgg59 Tryz.sizeOf59 rfl (P1.at1 (o := 0) (vs := (d8 x_1)) (nb rfl) rfl)) ?_
  refine f7 (cap := []) (fun args w => Tryz.call83 args w) ?_
  refine k8 (Fi := []) (Fr := [bx g_9 59 (d8 x_1), Fs5l2]) P1 (h) (fun c3a U1 c0X a0t a4X c3b c0Y b0o => ?_) (fun _ _ _ _ _ q => q.elim)
  obtain ⟨I0, rfl, rfl, h⟩ := b0o
  refine a4b (e := 59) (c := d8) (xs := [I0]) a4X (c6Q _ _ _ _ _ _ _ _) rfl rfl a5p a5q (nb rfl) fun c0Z b4v B0 a8c X3 a9P => ?_
  obtain ⟨b0p, h⟩ := h
  refine d0p (s := B9) (xs := m6) (X3.bring 2) Q2 (a8c.srcO ((X3.bring 2).bring 1)) b0p fun a7u a9Q A6 a9i a6L b8K => ?_
  refine a7 (u7 _ _ _ _ _ _) ?_
  exact hn2 _ _ _ (hm2 _ _ h).2 ⟨((m6 ++ [I0]), (IntKind.wrap .i64 (o0 + 1))), U1, a7u, a9Q, rfl, rfl, a9i, ((a6L.bring 1).drop.bring 1).drop, (hm2 _ _ h).1⟩
 ·replace h := h.2 a0H
  exact hx1 _ _ (hj1 m6 B9 Fs5l2 H _ Q2 I h)
theorem a5m (x0 : Sl) {H : Hp} {K : Sl → Hp → Prop} (h : I3 x0 H K) : G9 x0 H K := by
 intro w I
 refine i4T ?_
 refine a4F x0 I (fun r0 H' w' I' hk => ⟨H', _, I', r0, rfl, rfl, hk⟩) h
def a6D (x0 : d6) (H : Hp) (K : d6 → Hp → Prop) : Prop :=
 B6 x0.f5 H (fun (u5 : Sl) (a1X : Hp) =>
 G9 x0.i4 a1X (fun (u2 : Sl) (a4x : Hp) =>
 B7 x0.A5 a4x (fun (b6r : Sl) (M1 : Hp) =>
 B7 x0.z6 M1 (fun (b7T : Sl) (f7K : Hp) =>
 K (d6.mk x0.b6 x0.f6 u5 u2 b6r b7T) f7K))))
theorem c0q (x0 : d6) {K : d6 → Hp → Prop} (I : Inv w0 ps0 H0 H [] w) (hR : ∀ (r0 : d6) (H' : Hp) (w' : World) (_ : Inv w0 ps0 H0 H' [] w') (_ : K r0 H'), R (Value.agg (d9 r0).toArray) w') (h : a6D x0 H K) : F46 (Value.agg (d9 x0).toArray) w R E := by
 unfold a6D at h
 unfold F46
 refine K6 I (cs := (d9 x0)) rfl fun g_2 w_3 I_4 k_5 => ?_
 refine z8 I_4 Tryz.zeroValue73 (cs := [(vi 0), (eS), (nS), (nS), (nS), (nS)]) rfl fun g_7 w_8 I_9 a9j => ?_
 refine a3D I_9 fun S5 B1 => ?_
 refine o7 S9 ?_
 refine o7 R7 ?_
 refine y9 (ld1 Tryz.isAgg51 ((B1.bring 1).at1 (o := 2) (vs := [(vs x0.f5)]) (nb rfl) rfl)) ?_
 refine y9 (ld1 Tryz.isAgg57 ((B1.bring 1).at1 (o := 3) (vs := [(vs x0.i4)]) (nb rfl) rfl)) ?_
 refine f7 (cap := []) (fun args w => Tryz.call80 args w) ?_
 refine k8 (Fi := []) (Fr := [bx g_7 73 [(vi 0), (eS), (nS), (nS), (nS), (nS)], bx g_2 73 (d9 x0)]) B1 (h) (fun e8t a1X e8u p6 b3m c6p b8S c4m => ?_) (fun _ _ _ _ _ q => q.elim)
 obtain ⟨u5, rfl, rfl, h⟩ := c4m
 refine ⟨(b8S _ (B1.bring 1).lt1 (Inv.a1t (Fi := []) (B1.bring 1))), ?_⟩
 refine o7 S9 ?_
 refine f7 (cap := []) (fun args w => Tryz.call82 args w) ?_
 refine k8 (Fi := []) (Fr := [bx g_7 73 [(vi 0), (eS), (nS), (nS), (nS), (nS)], bx g_2 73 (d9 x0)]) b3m (h) (fun f4o a4x b4v a6X a6k c3D c9g c9h => ?_) (fun _ _ _ _ _ q => q.elim)
 obtain ⟨u2, rfl, rfl, h⟩ := c9h
 refine m5 (a6k.bring 1) Tryz.sizeOf51 (vs := [(vs u5)]) (cs' := [(vi x0.b6), (Value.string x0.f6), (vs u5), (vs x0.i4), (vs x0.A5), (vs x0.z6)]) rfl rfl (nb rfl) rfl rfl fun b1m b3J i4f => ?_
 refine o7 R7 ?_
 refine m5 b3J Tryz.sizeOf57 (vs := [(vs u2)]) (cs' := [(vi x0.b6), (Value.string x0.f6), (vs u5), (vs u2), (vs x0.A5), (vs x0.z6)]) rfl rfl (nb rfl) rfl rfl fun A6 a4Y c1b => ?_
 refine a3D a4Y fun b2Z a8g => ?_
 refine o7 U6 ?_
 refine o7 Z2 ?_
 refine y9 (ld1 Tryz.isAgg23 (a8g.at1 (o := 4) (vs := [(vs x0.A5)]) (nb rfl) rfl)) ?_
 refine y9 (ld1 Tryz.isAgg23 (a8g.at1 (o := 5) (vs := [(vs x0.z6)]) (nb rfl) rfl)) ?_
 refine f7 (cap := []) (fun args w => Tryz.call45 args w) ?_
 refine k8 (Fi := []) (Fr := [bx g_2 73 [(vi x0.b6), (Value.string x0.f6), (vs u5), (vs u2), (vs x0.A5), (vs x0.z6)], bx g_7 73 [(vi 0), (eS), (nS), (nS), (nS), (nS)]]) a8g (h) (fun k1V M1 j5l J7 c5R k1W e5z j5R => ?_) (fun _ _ _ _ _ q => q.elim)
 obtain ⟨b6r, rfl, rfl, h⟩ := j5R
 refine ⟨(e5z _ a8g.lt1 (Inv.a1t (Fi := []) a8g)), ?_⟩
 refine o7 U6 ?_
 refine f7 (cap := []) (fun args w => Tryz.call45 args w) ?_
 refine k8 (Fi := []) (Fr := [bx g_2 73 [(vi x0.b6), (Value.string x0.f6), (vs u5), (vs u2), (vs x0.A5), (vs x0.z6)], bx g_7 73 [(vi 0), (eS), (nS), (nS), (nS), (nS)]]) c5R (h) (fun k1X f7K k1Y c0T e8o i0w j5a j5S => ?_) (fun _ _ _ _ _ q => q.elim)
 obtain ⟨b7T, rfl, rfl, h⟩ := j5S
 refine m5 e8o Tryz.sizeOf23 (vs := [(vs b6r)]) (cs' := [(vi x0.b6), (Value.string x0.f6), (vs u5), (vs u2), (vs b6r), (vs x0.z6)]) rfl rfl (nb rfl) rfl rfl fun b4g b3y c5X => ?_
 refine o7 Z2 ?_
 refine m5 b3y Tryz.sizeOf23 (vs := [(vs b7T)]) (cs' := [(vi x0.b6), (Value.string x0.f6), (vs u5), (vs u2), (vs b6r), (vs b7T)]) rfl rfl (nb rfl) rfl rfl fun S4 e1r f7j => ?_
 refine f2 (ldA Tryz.isAgg73 Tryz.sizeOf73 rfl (e1r.at1 (o := 0) (vs := [(vi x0.b6), (Value.string x0.f6), (vs u5), (vs u2), (vs b6r), (vs b7T)]) (nb rfl) rfl)) ?_
 refine m5 (e1r.bring 1) Tryz.sizeOf73 (vs := [(vi x0.b6), (Value.string x0.f6), (vs u5), (vs u2), (vs b6r), (vs b7T)]) (cs' := [(vi x0.b6), (Value.string x0.f6), (vs u5), (vs u2), (vs b6r), (vs b7T)]) rfl rfl (nb rfl) rfl rfl fun b4h e8C i4j => ?_
 refine J4 Tryz.isAgg73 Tryz.sizeOf73 rfl (e8C.at1 (o := 0) (vs := [(vi x0.b6), (Value.string x0.f6), (vs u5), (vs u2), (vs b6r), (vs b7T)]) (nb rfl) rfl) ?_
 exact hR (d6.mk x0.b6 x0.f6 u5 u2 b6r b7T) f7K _ e8C.drop.drop h
theorem c1B (x0 : d6) {H : Hp} {K : d6 → Hp → Prop} (h : a6D x0 H K) : a9h x0 H K := by
 intro w I
 refine i4N ?_
 refine c0q x0 I (fun r0 H' w' I' hk => ⟨H', _, I', r0, rfl, rfl, hk⟩) h
def E6 (C6 : (List d6)) (H : Hp) (K : Sl → Hp → Prop) : Prop :=
 ∀ (r7 : Sl) (M1 : Hp), Hle H M1 → SlH M1 6 d9 r7 C6 → r7.n ≤ r7.c →
 K r7 M1
def E7 (a0u : Sl) (a4V : Int) (m6 : (List d6)) (o0 : Int) (H : Hp) (n2 : ((List d6) × Int) → Hp → Prop) (K : Sl → Hp → Prop) : Prop :=
 (o0 < a4V →
 (0 : Int) ≤ o0 ∧ (o0 : Int) < a0u.n ∧ ∃ x_1 : d6, EltH H a0u o0 6 (d9 x_1) ∧
 a9h x_1 H (fun (I0 : d6) (U1 : Hp) =>
 (m6.length + ([I0] : List d6).length) * 121 ≤ 140737488355328 ∧
 n2 ((m6 ++ [I0]), (IntKind.wrap .i64 (o0 + 1))) U1)) ∧
 (¬ (o0 < a4V) →
 E6 m6 H K)
def I4 (x0 : Sl) (H : Hp) (K : Sl → Hp → Prop) : Prop :=
 TL (([], 0) : (List d6) × Int) H fun (s : (List d6) × Int) H n2 => E7 x0 (x0.n : Int) s.1 s.2 H n2 K
theorem a4G (x0 : Sl) {K : Sl → Hp → Prop} (I : Inv w0 ps0 H0 H [] w) (hR : ∀ (r0 : Sl) (H' : Hp) (w' : World) (_ : Inv w0 ps0 H0 H' [] w') (_ : K r0 H'), R (vs r0) w') (h : I4 x0 H K) : F45 (vs x0) (fC 46) w R E := by
 unfold I4 at h
 unfold F45
 have hj1 : ∀ (C6 : (List d6)) (r7 : Sl) (Fs5j1 : Frag) (H : Hp) (w : World) (_ : RowL 73 6 d9 r7 C6 Fs5j1) (_ : Inv w0 ps0 H0 H [Fs5j1] w) (_ : E6 C6 H K), e1J (vs r7) w R E := by
  intro C6 r7 Fs5j1 H w a6v I h
  unfold e1J
  intro _
  unfold E6 at h
  obtain ⟨M1, a6K, b0n, a5v, a5W⟩ := Inv.freezeC I a6v (by decide)
  replace h := h r7 M1 b0n a5v a5W
  exact hR r7 M1 _ a6K h
 refine r9 fun j1 hx1 => ?_
 refine a7 (W8 _ _ _) ?_
 obtain ⟨a2N, R4, b1x, b1y⟩ := h
 refine A7 (J := fun n l w => ∃ (s : (List d6) × Int) (H : Hp) (B9 : Sl) (Fs5l2 : Frag) , n = R4 s ∧ l = (match s with | (m6, o0) => [(vs B9), (vi o0)]) ∧ (match s with | (m6, o0) => RowL 73 6 d9 B9 m6 Fs5l2) ∧ (match s with | (m6, o0) => Inv w0 ps0 H0 H [Fs5l2] w) ∧ a2N s H) ⟨_, ([], 0), H, (Sl.mk none 0 0), [], rfl, rfl, (RowL.nil U0 Z7), I.nil, b1x⟩ ?_
 rintro c5F τ_50 w next2 ⟨⟨m6, o0⟩, H, B9, Fs5l2, rfl, a1W, Q2, I, b1z⟩ hn2
 dsimp only at a1W I Q2
 simp only [List.map_cons, List.map_nil, List.cons.injEq, and_true] at a1W
 obtain ⟨e5, e10⟩ := a1W
 simp only [e5, e10]
 obtain ⟨n2, hm2, h⟩ : ∃ n2 : ((List d6) × Int) → Hp → Prop, (∀ s' H', n2 s' H' → a2N s' H' ∧ R4 s' < R4 (m6, o0)) ∧ E7 x0 (x0.n : Int) m6 o0 H n2 K := ⟨_, fun _ _ h => h, b1y (m6, o0) H (fun s' H' => a2N s' H' ∧ R4 s' < R4 (m6, o0)) b1z (fun _ _ a b => ⟨a, b⟩)⟩
 unfold f2N
 unfold E7 at h
 refine a7 (v7 _ _ _ _ _ _) ?_
 refine k4 (fun a0H => ?_) (fun a0H => ?_)
 ·replace h := h.1 a0H
  obtain ⟨h_4, h_5, x_1, h_7, h⟩ := h
  obtain ⟨g_2, o_3, h_6, h_7⟩ := h_7
  refine a7 (a6W h_6 _ _ _ _ h_4 h_5) ?_
  refine f2 (ldA (vs := (d9 x_1)) Tryz.isAgg73 Tryz.sizeOf73 rfl (I.atH h_7)) ?_
  refine z8 I Tryz.zeroValue73 (cs := [(vi 0), (eS), (nS), (nS), (nS), (nS)]) rfl fun g_9 o9 a3G b3h => ?_
  refine m5 a3G Tryz.sizeOf73 (vs := (d9 x_1)) (cs' := (d9 x_1)) rfl rfl (nb rfl) rfl rfl fun a3F P1 a4W => ?_
  refine f2 (ldA Tryz.isAgg73 Tryz.sizeOf73 rfl (P1.at1 (o := 0) (vs := (d9 x_1)) (nb rfl) rfl)) ?_
  refine f7 (cap := []) (fun args w => Tryz.call46 args w) ?_
  refine k8 (Fi := []) (Fr := [bx g_9 73 (d9 x_1), Fs5l2]) P1 (h) (fun c3a U1 c0X a0t a4X c3b c0Y b0o => ?_) (fun _ _ _ _ _ q => q.elim)
  obtain ⟨I0, rfl, rfl, h⟩ := b0o
  refine a4b (e := 73) (c := d9) (xs := [I0]) a4X (b5t _ _ _ _ _ _ _ _ _ _ _ _ _ _) rfl rfl U0 Z7 (nb rfl) fun c0Z b4v B0 a8c X3 a9P => ?_
  obtain ⟨b0p, h⟩ := h
  refine b4b (s := B9) (xs := m6) (X3.bring 2) Q2 (a8c.srcO ((X3.bring 2).bring 1)) b0p fun a7u a9Q A6 a9i a6L b8K => ?_
  refine a7 (u7 _ _ _ _ _ _) ?_
  exact hn2 _ _ _ (hm2 _ _ h).2 ⟨((m6 ++ [I0]), (IntKind.wrap .i64 (o0 + 1))), U1, a7u, a9Q, rfl, rfl, a9i, ((a6L.bring 1).drop.bring 1).drop, (hm2 _ _ h).1⟩
 ·replace h := h.2 a0H
  exact hx1 _ _ (hj1 m6 B9 Fs5l2 H _ Q2 I h)
theorem a5n (x0 : Sl) {H : Hp} {K : Sl → Hp → Prop} (h : I4 x0 H K) : B7 x0 H K := by
 intro w I
 refine i4H ?_
 refine a4G x0 I (fun r0 H' w' I' hk => ⟨H', _, I', r0, rfl, rfl, hk⟩) h
def a9a (x0 : g7) (H : Hp) (K : g7 → Int → Hp → Prop) : Prop :=
 a8k x0 H (fun (m9 : Int) (Z0 : Hp) =>
 (¬ (m9 = 0) →
 K (g7.mk (Sl.mk none 0 0) (Sl.mk none 0 0)) m9 Z0) ∧
 (m9 = 0 →
 V9 x0.r5 Z0 (fun (b2V : Sl) (c9t : Hp) =>
 B7 x0.G3 c9t (fun (b2W : Sl) (c5Y : Hp) =>
 K (g7.mk b2V b2W) 0 c5Y))))
theorem c4G (x0 : g7) {K : g7 → Int → Hp → Prop} (I : Inv w0 ps0 H0 H [] w) (hR : ∀ (r0 : g7) (r1 : Int) (H' : Hp) (w' : World) (_ : Inv w0 ps0 H0 H' [] w') (_ : K r0 r1 H'), R (Value.tuple #[(Value.agg (i5 r0).toArray), (vi r1)]) w') (h : a9a x0 H K) : F25 (Value.agg (i5 x0).toArray) w R E := by
 unfold a9a at h
 unfold F25
 refine K6 I (cs := (i5 x0)) rfl fun g_2 w_3 I_4 k_5 => ?_
 refine z8 I_4 Tryz.zeroValue25 (cs := [(nS), (nS)]) rfl fun g_7 w_8 I_9 a9j => ?_
 refine f2 (ldA Tryz.isAgg25 Tryz.sizeOf25 rfl ((I_9.bring 1).at1 (o := 0) (vs := (i5 x0)) (nb rfl) rfl)) ?_
 refine f7 (cap := []) (fun args w => Tryz.call24 args w) ?_
 refine k8 (Fi := []) (Fr := [bx g_7 25 [(nS), (nS)], bx g_2 25 (i5 x0)]) I_9 (h) (fun c9l Z0 c9m p8 a6l c3J c9n b3u => ?_) (fun _ _ _ _ _ q => q.elim)
 obtain ⟨m9, rfl, rfl, h⟩ := b3u
 refine a7 (P9 _ _ _ _ _ _) ?_
 refine a5o (fun c9E => ?_) (fun c9E => ?_)
 ·replace h := h.1 c9E
  refine a7 (b3K ) ?_
  refine m5 a6l Tryz.sizeOf25 (vs := [(nS), (nS)]) (cs' := [(nS), (nS)]) rfl rfl (nb rfl) rfl rfl fun t8 a0f b3g => ?_
  refine J4 Tryz.isAgg25 Tryz.sizeOf25 rfl (a0f.at1 (o := 0) (vs := [(nS), (nS)]) (nb rfl) rfl) ?_
  exact hR (g7.mk (Sl.mk none 0 0) (Sl.mk none 0 0)) m9 Z0 _ a0f.drop.drop h
 ·replace h := h.2 c9E
  refine a3D a6l fun a6X a6k => ?_
  refine o7 Z1 ?_
  refine o7 a4J ?_
  refine y9 (ld1 Tryz.isAgg22 ((a6k.bring 1).at1 (o := 0) (vs := [(vs x0.r5)]) (nb rfl) rfl)) ?_
  refine y9 (ld1 Tryz.isAgg23 ((a6k.bring 1).at1 (o := 1) (vs := [(vs x0.G3)]) (nb rfl) rfl)) ?_
  refine f7 (cap := []) (fun args w => Tryz.call44 args w) ?_
  refine k8 (Fi := []) (Fr := [bx g_7 25 [(nS), (nS)], bx g_2 25 (i5 x0)]) a6k (h) (fun j3s c9t j3t y8 b4H j3u f4G f4H => ?_) (fun _ _ _ _ _ q => q.elim)
  obtain ⟨b2V, rfl, rfl, h⟩ := f4H
  refine ⟨(f4G _ (a6k.bring 1).lt1 (Inv.a1t (Fi := []) (a6k.bring 1))), ?_⟩
  refine f7 (cap := []) (fun args w => Tryz.call45 args w) ?_
  refine k8 (Fi := []) (Fr := [bx g_7 25 [(nS), (nS)], bx g_2 25 (i5 x0)]) b4H (h) (fun j3v c5Y j3w b6Q a6L b0n b8K f4I => ?_) (fun _ _ _ _ _ q => q.elim)
  obtain ⟨b2W, rfl, rfl, h⟩ := f4I
  refine o7 (b0O _ _ _ _ _ _) ?_
  refine m5 a6L Tryz.sizeOf25 (vs := [(vs b2V), (vs b2W)]) (cs' := [(vs b2V), (vs b2W)]) rfl rfl (nb rfl) rfl rfl fun b5x b6Y d8c => ?_
  refine J4 Tryz.isAgg25 Tryz.sizeOf25 rfl (b6Y.at1 (o := 0) (vs := [(vs b2V), (vs b2W)]) (nb rfl) rfl) ?_
  exact hR (g7.mk b2V b2W) 0 c5Y _ b6Y.drop.drop h
theorem c6J (x0 : g7) {H : Hp} {K : g7 → Int → Hp → Prop} (h : a9a x0 H K) : b1s x0 H K := by
 intro w I
 refine i4D ?_
 refine c4G x0 I (fun r0 r1 H' w' I' hk => ⟨H', _, I', r0, r1, rfl, rfl, hk⟩) h
def a1G (a0B : Int) (a0C : Int) (a7I : ByteArray) (a3Z : (List a8)) (m8 : a8) (p9 : a8) (H : Hp) (K : a8 → Hp → Prop) : Prop :=
 ∀ (T2 : Sl) (b2E : Hp), Hle H b2E → SlH b2E 4 b8 T2 a3Z → T2.n ≤ T2.c →
 K (a8.mk a0B a0C a7I T2) b2E
def a1H (S6 : a8) (O7 : Int) (a2Q : Int) (a2R : Int) (a2S : ByteArray) (a1r : (List a8)) (a3C : a8) (H : Hp) (n2 : (Int × Int × Int × ByteArray × (List a8) × a8) → Hp → Prop) (K : a8 → Hp → Prop) : Prop :=
 (O7 < (S6.k9.n : Int) →
 (0 : Int) ≤ O7 ∧ (O7 : Int) < S6.k9.n ∧ ∃ e9t : a8, EltH H S6.k9 O7 4 (b8 e9t) ∧
 a0d e9t H (fun (b7K : a8) (c9S : Hp) =>
 (a1r.length + ([b7K] : List a8).length) * 57 ≤ 140737488355328 ∧
 n2 ((IntKind.wrap .i64 (O7 + 1)), a2Q, a2R, a2S, (a1r ++ [b7K]), a3C) c9S)) ∧
 (¬ (O7 < (S6.k9.n : Int)) →
 a1G a2Q a2R a2S a1r a3C S6 H K)
def a3z (x0 : a8) (H : Hp) (K : a8 → Hp → Prop) : Prop :=
 TL ((0, x0.b6, x0.o6, x0.f6, [], (a8.mk 0 0 ⟨#[]⟩ (Sl.mk none 0 0))) : Int × Int × Int × ByteArray × (List a8) × a8) H fun (s : Int × Int × Int × ByteArray × (List a8) × a8) H n2 => a1H x0 s.1 s.2.1 s.2.2.1 s.2.2.2.1 s.2.2.2.2.1 s.2.2.2.2.2 H n2 K
theorem b5q (x0 : a8) {K : a8 → Hp → Prop} (I : Inv w0 ps0 H0 H [] w) (hR : ∀ (r0 : a8) (H' : Hp) (w' : World) (_ : Inv w0 ps0 H0 H' [] w') (_ : K r0 H'), R (Value.agg (b8 r0).toArray) w') (h : a3z x0 H K) : F92 (Value.agg (b8 x0).toArray) w R E := by
 unfold a3z at h
 unfold F92
 refine K6 I (cs := (b8 x0)) rfl fun g_2 w_3 I_4 k_5 => ?_
 refine z8 I_4 Tryz.zeroValue53 (cs := [(vi 0), (vi 0), (eS), (nS)]) rfl fun g_7 w_8 I_9 a9j => ?_
 refine a7 U5 ?_
 refine f2 (ld1 Tryz.isAgg3 ((I_9.bring 1).at1 (o := 0) (vs := [(vi x0.b6)]) (nb rfl) rfl)) ?_
 refine a7 a6p ?_
 refine f2 (ld1 Tryz.isAgg2 ((I_9.bring 1).at1 (o := 1) (vs := [(vi x0.o6)]) (nb rfl) rfl)) ?_
 refine a7 b1W ?_
 refine f2 (ld1 Tryz.isAgg9 ((I_9.bring 1).at1 (o := 2) (vs := [(Value.string x0.f6)]) (nb rfl) rfl)) ?_
 refine a7 (d0s _ _ _) ?_
 refine z8 I_9 Tryz.zeroValue53 (cs := [(vi 0), (vi 0), (eS), (nS)]) rfl fun a7v a3F P1 a4W => ?_
 refine m5 P1 Tryz.sizeOf53 (vs := [(vi x0.b6), (vi x0.o6), (Value.string x0.f6), (nS)]) (cs' := [(vi x0.b6), (vi x0.o6), (Value.string x0.f6), (nS)]) rfl rfl (nb rfl) rfl rfl fun q8 b0q d7U => ?_
 have hj1 : ∀ (a0B : Int) (a0C : Int) (a7I : ByteArray) (a3Z : (List a8)) (m8 : a8) (T2 : Sl) (Fcr_11j1_3 : Frag) (H : Hp) (w : World) (_ : RowL 53 4 b8 T2 a3Z Fcr_11j1_3) (_ : Inv w0 ps0 H0 H [bx a7v 53 [(vi a0B), (vi a0C), (Value.string a7I), (vs T2)], bx g_7 53 (b8 m8), bx g_2 53 (b8 x0), Fcr_11j1_3] w) (_ : a1G a0B a0C a7I a3Z m8 x0 H K), e1Q (Value.pointer (some ⟨g_7, 0, none⟩)) (Value.pointer (some ⟨a7v, 0, none⟩)) w R E := by
  intro a0B a0C a7I a3Z m8 T2 Fcr_11j1_3 H w c4s I h
  unfold e1Q
  intro _
  unfold a1G at h
  refine f2 (ldA Tryz.isAgg53 Tryz.sizeOf53 rfl (I.at1 (o := 0) (vs := [(vi a0B), (vi a0C), (Value.string a7I), (vs T2)]) (nb rfl) rfl)) ?_
  refine m5 (I.bring 1) Tryz.sizeOf53 (vs := [(vi a0B), (vi a0C), (Value.string a7I), (vs T2)]) (cs' := [(vi a0B), (vi a0C), (Value.string a7I), (vs T2)]) rfl rfl (nb rfl) rfl rfl fun N9 c3Q f5d => ?_
  refine J4 Tryz.isAgg53 Tryz.sizeOf53 rfl (c3Q.at1 (o := 0) (vs := [(vi a0B), (vi a0C), (Value.string a7I), (vs T2)]) (nb rfl) rfl) ?_
  obtain ⟨b2E, b3y, h5c, d7Z, d8a⟩ := Inv.freezeC (c3Q.bring 3) c4s (by decide)
  replace h := h T2 b2E h5c d7Z d8a
  exact hR (a8.mk a0B a0C a7I T2) b2E _ b3y.drop.drop.drop h
 refine r9 fun j1 hx1 => ?_
 obtain ⟨c3u, b4D, e4Z, e5a⟩ := h
 refine A7 (J := fun n l w => ∃ (s : Int × Int × Int × ByteArray × (List a8) × a8) (H : Hp) (b0I : Sl) (Fcr_11l2_3 : Frag) , n = b4D s ∧ l = (match s with | (O7, a2Q, a2R, a2S, a1r, a3C) => [(vi O7)]) ∧ (match s with | (O7, a2Q, a2R, a2S, a1r, a3C) => RowL 53 4 b8 b0I a1r Fcr_11l2_3) ∧ (match s with | (O7, a2Q, a2R, a2S, a1r, a3C) => Inv w0 ps0 H0 H [bx a7v 53 [(vi a2Q), (vi a2R), (Value.string a2S), (vs b0I)], bx g_7 53 (b8 a3C), bx g_2 53 (b8 x0), Fcr_11l2_3] w) ∧ c3u s H) ⟨_, (0, x0.b6, x0.o6, x0.f6, [], (a8.mk 0 0 ⟨#[]⟩ (Sl.mk none 0 0))), H, (Sl.mk none 0 0), [], rfl, rfl, (RowL.nil T8 T9), (((b0q.nil.bring 3).bring 3).bring 3), e4Z⟩ ?_
 rintro i6r τ_112 w next2 ⟨⟨O7, a2Q, a2R, a2S, a1r, a3C⟩, H, b0I, Fcr_11l2_3, rfl, c3v, c4t, I, e5b⟩ hn2
 dsimp only at c3v I c4t
 simp only [List.map_cons, List.map_nil, List.cons.injEq, and_true] at c3v
 have e4 := c3v
 simp only [e4]
 obtain ⟨n2, hm2, h⟩ : ∃ n2 : (Int × Int × Int × ByteArray × (List a8) × a8) → Hp → Prop, (∀ s' H', n2 s' H' → c3u s' H' ∧ b4D s' < b4D (O7, a2Q, a2R, a2S, a1r, a3C)) ∧ a1H x0 O7 a2Q a2R a2S a1r a3C H n2 K := ⟨_, fun _ _ h => h, e5a (O7, a2Q, a2R, a2S, a1r, a3C) H (fun s' H' => c3u s' H' ∧ b4D s' < b4D (O7, a2Q, a2R, a2S, a1r, a3C)) e5b (fun _ _ a b => ⟨a, b⟩)⟩
 unfold f2W
 unfold a1H at h
 refine a7 B2 ?_
 refine f2 (ld1 Tryz.isAgg51 ((I.bring 2).at1 (o := 3) (vs := [(vs x0.k9)]) (nb rfl) rfl)) ?_
 refine a7 (K0 _ _ _) ?_
 refine a7 (v7 _ _ _ _ _ _) ?_
 refine k4 (fun c3w => ?_) (fun c3w => ?_)
 ·replace h := h.1 c3w
  refine a3D I fun b2x d4a => ?_
  refine o7 B2 ?_
  refine o7 B2 ?_
  refine y9 (ld1 Tryz.isAgg51 (d4a.at1 (o := 3) (vs := [(vs b0I)]) (nb rfl) rfl)) ?_
  refine y9 (ld1 Tryz.isAgg51 ((d4a.bring 2).at1 (o := 3) (vs := [(vs x0.k9)]) (nb rfl) rfl)) ?_
  obtain ⟨j5T, j5U, e9t, d3U, h⟩ := h
  obtain ⟨k1Z, k2a, e7S, d3U⟩ := d3U
  refine o7 (G7 e7S _ _ _ _ j5T j5U) ?_
  refine y9 (ldA (vs := (b8 e9t)) Tryz.isAgg53 Tryz.sizeOf53 rfl (d4a.atH d3U)) ?_
  refine f7 (cap := []) (fun args w => Tryz.call92 args w) ?_
  refine k8 (Fi := []) (Fr := [bx a7v 53 [(vi a2Q), (vi a2R), (Value.string a2S), (vs b0I)], bx g_7 53 (b8 a3C), bx g_2 53 (b8 x0), Fcr_11l2_3]) d4a (h) (fun j4y c9S j4z b7n e7b f6F h8T f6G => ?_) (fun _ _ _ _ _ q => q.elim)
  obtain ⟨b7K, rfl, rfl, h⟩ := f6G
  refine ⟨(h8T _ d4a.lt1 (Inv.a1t (Fi := []) d4a)), ?_⟩
  refine a4b (e := 53) (c := b8) (xs := [b7K]) e7b (b7V _ _ _ _ _ _) rfl rfl T8 T9 (nb rfl) fun k2b k2c a3E c5P i5B j5V => ?_
  refine ⟨(j5V _ e7b.lt1), ?_⟩
  obtain ⟨e7e, h⟩ := h
  refine c4O (s := b0I) (xs := a1r) (i5B.bring 4) c4t (c5P.srcO ((i5B.bring 4).bring 1)) e7e fun d7T j5W a6F f7g c0E f8z => ?_
  refine o7 B2 ?_
  refine m5 ((c0E.bring 1).drop.bring 1) Tryz.sizeOf51 (vs := [(vs d7T)]) (cs' := [(vi a2Q), (vi a2R), (Value.string a2S), (vs d7T)]) rfl rfl (nb rfl) rfl rfl fun d1W e9k j1u => ?_
  refine a7 (u7 _ _ _ _ _ _) ?_
  exact hn2 _ _ _ (hm2 _ _ h).2 ⟨((IntKind.wrap .i64 (O7 + 1)), a2Q, a2R, a2S, (a1r ++ [b7K]), a3C), c9S, d7T, j5W, rfl, rfl, f7g, ((((e9k.bring 1).bring 3).bring 3).bring 3), (hm2 _ _ h).1⟩
 ·replace h := h.2 c3w
  exact hx1 _ _ (hj1 a2Q a2R a2S a1r a3C b0I Fcr_11l2_3 H _ c4t ((((I.bring 3).bring 3).bring 3).bring 3) h)
theorem b6f (x0 : a8) {H : Hp} {K : a8 → Hp → Prop} (h : a3z x0 H K) : a0d x0 H K := by
 intro w I
 refine i5A ?_
 refine b5q x0 I (fun r0 H' w' I' hk => ⟨H', _, I', r0, rfl, rfl, hk⟩) h
def a1I (a7J : Int) (a7K : Int) (b5b : (List a8)) (b5c : (List b7)) (V4 : b7) (O0 : b7) (H : Hp) (K : b7 → Hp → Prop) : Prop :=
 ∀ (T3 : Sl) (e1R : Hp), Hle H e1R → SlH e1R 4 b8 T3 b5b → T3.n ≤ T3.c →
 ∀ (a2l : Sl) (c1g : Hp), Hle e1R c1g → SlH c1g 4 d8 a2l b5c → a2l.n ≤ a2l.c →
 K (b7.mk a7J a7K T3 a2l) c1g
def a1J (e9u : (List a8)) (Q0 : b7) (T7 : Int) (a2T : Int) (a2U : Int) (a1s : (List b7)) (D7 : b7) (H : Hp) (n3 : (Int × Int × Int × (List b7) × b7) → Hp → Prop) (K : b7 → Hp → Prop) : Prop :=
 (T7 < (Q0.o3.n : Int) →
 (0 : Int) ≤ T7 ∧ (T7 : Int) < Q0.o3.n ∧ ∃ d5G : b7, EltH H Q0.o3 T7 4 (d8 d5G) ∧
 a3f d5G H (fun (c6K : b7) (e9v : Hp) =>
 (a1s.length + ([c6K] : List b7).length) * 65 ≤ 140737488355328 ∧
 n3 ((IntKind.wrap .i64 (T7 + 1)), a2T, a2U, (a1s ++ [c6K]), D7) e9v)) ∧
 (¬ (T7 < (Q0.o3.n : Int)) →
 a1I a2T a2U e9u a1s D7 Q0 H K)
def a1K (a0B : Int) (a0C : Int) (b0J : (List a8)) (a3Z : (List b7)) (m8 : b7) (p9 : b7) (H : Hp) (K : b7 → Hp → Prop) : Prop :=
 TL ((0, a0B, a0C, a3Z, m8) : Int × Int × Int × (List b7) × b7) H fun (s : Int × Int × Int × (List b7) × b7) H n3 => a1J b0J p9 s.1 s.2.1 s.2.2.1 s.2.2.2.1 s.2.2.2.2 H n3 K
def a1L (K1 : b7) (V1 : Int) (a1R : Int) (a1S : Int) (Z6 : (List a8)) (a2m : (List b7)) (I1 : b7) (H : Hp) (n4 : (Int × Int × Int × (List a8) × (List b7) × b7) → Hp → Prop) (K : b7 → Hp → Prop) : Prop :=
 (V1 < (K1.f5.n : Int) →
 (0 : Int) ≤ V1 ∧ (V1 : Int) < K1.f5.n ∧ ∃ d5H : a8, EltH H K1.f5 V1 4 (b8 d5H) ∧
 a0d d5H H (fun (c6L : a8) (e9w : Hp) =>
 (Z6.length + ([c6L] : List a8).length) * 57 ≤ 140737488355328 ∧
 n4 ((IntKind.wrap .i64 (V1 + 1)), a1R, a1S, (Z6 ++ [c6L]), a2m, I1) e9w)) ∧
 (¬ (V1 < (K1.f5.n : Int)) →
 a1K a1R a1S Z6 a2m I1 K1 H K)
def a3A (x0 : b7) (H : Hp) (K : b7 → Hp → Prop) : Prop :=
 TL ((0, x0.b6, x0.fOp, [], [], (b7.mk 0 0 (Sl.mk none 0 0) (Sl.mk none 0 0))) : Int × Int × Int × (List a8) × (List b7) × b7) H fun (s : Int × Int × Int × (List a8) × (List b7) × b7) H n4 => a1L x0 s.1 s.2.1 s.2.2.1 s.2.2.2.1 s.2.2.2.2.1 s.2.2.2.2.2 H n4 K
theorem b5r (x0 : b7) {K : b7 → Hp → Prop} (I : Inv w0 ps0 H0 H [] w) (hR : ∀ (r0 : b7) (H' : Hp) (w' : World) (_ : Inv w0 ps0 H0 H' [] w') (_ : K r0 H'), R (Value.agg (d8 r0).toArray) w') (h : a3A x0 H K) : F90 (Value.agg (d8 x0).toArray) w R E := by
 unfold a3A at h
 unfold F90
 refine K6 I (cs := (d8 x0)) rfl fun g_2 w_3 I_4 k_5 => ?_
 refine z8 I_4 Tryz.zeroValue59 (cs := [(vi 0), (vi 0), (nS), (nS)]) rfl fun g_7 w_8 I_9 a9j => ?_
 refine a7 a2X ?_
 refine f2 (ld1 Tryz.isAgg3 ((I_9.bring 1).at1 (o := 0) (vs := [(vi x0.b6)]) (nb rfl) rfl)) ?_
 refine a7 a6q ?_
 refine f2 (ld1 Tryz.isAgg3 ((I_9.bring 1).at1 (o := 1) (vs := [(vi x0.fOp)]) (nb rfl) rfl)) ?_
 refine a7 (d4C _ _) ?_
 refine z8 I_9 Tryz.zeroValue59 (cs := [(vi 0), (vi 0), (nS), (nS)]) rfl fun a7v a3F P1 a4W => ?_
 refine m5 P1 Tryz.sizeOf59 (vs := [(vi x0.b6), (vi x0.fOp), (nS), (nS)]) (cs' := [(vi x0.b6), (vi x0.fOp), (nS), (nS)]) rfl rfl (nb rfl) rfl rfl fun q8 b0q d7U => ?_
 have hj1 : ∀ (a0B : Int) (a0C : Int) (b0J : (List a8)) (a3Z : (List b7)) (m8 : b7) (T3 : Sl) (Fcr_11j1_2 : Frag) (T2 : Sl) (Fcr_11j1_3 : Frag) (H : Hp) (w : World) (_ : RowL 53 4 b8 T3 b0J Fcr_11j1_2) (_ : RowL 59 4 d8 T2 a3Z Fcr_11j1_3) (_ : Inv w0 ps0 H0 H [bx a7v 59 [(vi a0B), (vi a0C), (vs T3), (vs T2)], bx g_7 59 (d8 m8), bx g_2 59 (d8 x0), Fcr_11j1_2, Fcr_11j1_3] w) (_ : a1K a0B a0C b0J a3Z m8 x0 H K), e1P (Value.pointer (some ⟨g_2, 0, none⟩)) (Value.pointer (some ⟨g_7, 0, none⟩)) (Value.pointer (some ⟨a7v, 0, none⟩)) w R E := by
  intro a0B a0C b0J a3Z m8 T3 Fcr_11j1_2 T2 Fcr_11j1_3 H w e9x c4s I h
  unfold e1P
  intro _
  unfold a1K at h
  have hj2 : ∀ (a7J : Int) (a7K : Int) (b5b : (List a8)) (b5c : (List b7)) (V4 : b7) (Fcr_11j2_2 : Frag) (a2l : Sl) (Fcr_11j2_3 : Frag) (H : Hp) (w : World) (_ : RowL 53 4 b8 T3 b5b Fcr_11j2_2) (_ : RowL 59 4 d8 a2l b5c Fcr_11j2_3) (_ : Inv w0 ps0 H0 H [bx a7v 59 [(vi a7J), (vi a7K), (vs T3), (vs a2l)], bx g_7 59 (d8 V4), bx g_2 59 (d8 x0), Fcr_11j2_2, Fcr_11j2_3] w) (_ : a1I a7J a7K b5b b5c V4 x0 H K), e1O (Value.pointer (some ⟨g_7, 0, none⟩)) (Value.pointer (some ⟨a7v, 0, none⟩)) w R E := by
   intro a7J a7K b5b b5c V4 Fcr_11j2_2 a2l Fcr_11j2_3 H w e9y e9z I h
   unfold e1O
   intro _
   unfold a1I at h
   refine f2 (ldA Tryz.isAgg59 Tryz.sizeOf59 rfl (I.at1 (o := 0) (vs := [(vi a7J), (vi a7K), (vs T3), (vs a2l)]) (nb rfl) rfl)) ?_
   refine m5 (I.bring 1) Tryz.sizeOf59 (vs := [(vi a7J), (vi a7K), (vs T3), (vs a2l)]) (cs' := [(vi a7J), (vi a7K), (vs T3), (vs a2l)]) rfl rfl (nb rfl) rfl rfl fun e0Q i5C k2d => ?_
   refine J4 Tryz.isAgg59 Tryz.sizeOf59 rfl (i5C.at1 (o := 0) (vs := [(vi a7J), (vi a7K), (vs T3), (vs a2l)]) (nb rfl) rfl) ?_
   obtain ⟨e1R, f6D, j5X, c9d, c3x⟩ := Inv.freezeC (i5C.bring 3) e9y (by decide)
   replace h := h T3 e1R j5X c9d c3x
   obtain ⟨c1g, j5Y, d7I, d2m, e7d⟩ := Inv.freezeC (f6D.bring 3) e9z (by decide)
   replace h := h a2l c1g d7I d2m e7d
   exact hR (b7.mk a7J a7K T3 a2l) c1g _ j5Y.drop.drop.drop h
  refine r9 fun j2 hx2 => ?_
  obtain ⟨e9A, d2G, j1B, j1C⟩ := h
  refine A7 (J := fun n l w => ∃ (s : Int × Int × Int × (List b7) × b7) (H : Hp) (b0K : Sl) (Fcr_11l3_3 : Frag) , n = d2G s ∧ l = (match s with | (T7, a2T, a2U, a1s, D7) => [(vi T7)]) ∧ (match s with | (T7, a2T, a2U, a1s, D7) => RowL 59 4 d8 b0K a1s Fcr_11l3_3) ∧ (match s with | (T7, a2T, a2U, a1s, D7) => Inv w0 ps0 H0 H [bx a7v 59 [(vi a2T), (vi a2U), (vs T3), (vs b0K)], bx g_7 59 (d8 D7), bx g_2 59 (d8 x0), Fcr_11j1_2, Fcr_11l3_3] w) ∧ e9A s H) ⟨_, (0, a0B, a0C, a3Z, m8), H, T2, Fcr_11j1_3, rfl, rfl, c4s, (((((I.bring 4).bring 4).bring 4).bring 4).bring 4), j1B⟩ ?_
  rintro j9u τ_152 w next3 ⟨⟨T7, a2T, a2U, a1s, D7⟩, H, b0K, Fcr_11l3_3, rfl, d0T, c4u, I, j1D⟩ hn3
  dsimp only at d0T I c4u
  simp only [List.map_cons, List.map_nil, List.cons.injEq, and_true] at d0T
  have e5 := d0T
  simp only [e5]
  obtain ⟨n3, hm3, h⟩ : ∃ n3 : (Int × Int × Int × (List b7) × b7) → Hp → Prop, (∀ s' H', n3 s' H' → e9A s' H' ∧ d2G s' < d2G (T7, a2T, a2U, a1s, D7)) ∧ a1J b0J x0 T7 a2T a2U a1s D7 H n3 K := ⟨_, fun _ _ h => h, j1C (T7, a2T, a2U, a1s, D7) H (fun s' H' => e9A s' H' ∧ d2G s' < d2G (T7, a2T, a2U, a1s, D7)) j1D (fun _ _ a b => ⟨a, b⟩)⟩
  unfold f2Q
  unfold a1J at h
  refine a7 M5 ?_
  refine f2 (ld1 Tryz.isAgg57 ((I.bring 2).at1 (o := 3) (vs := [(vs x0.o3)]) (nb rfl) rfl)) ?_
  refine a7 (V0 _ _ _) ?_
  refine a7 (v7 _ _ _ _ _ _) ?_
  refine k4 (fun e9B => ?_) (fun e9B => ?_)
  ·replace h := h.1 e9B
   refine a3D I fun d5h c8b => ?_
   refine o7 M5 ?_
   refine o7 M5 ?_
   refine y9 (ld1 Tryz.isAgg57 (c8b.at1 (o := 3) (vs := [(vs b0K)]) (nb rfl) rfl)) ?_
   refine y9 (ld1 Tryz.isAgg57 ((c8b.bring 2).at1 (o := 3) (vs := [(vs x0.o3)]) (nb rfl) rfl)) ?_
   obtain ⟨j1E, j1F, d5G, e9C, h⟩ := h
   obtain ⟨j9v, j9w, e9l, e9C⟩ := e9C
   refine o7 (a1T e9l _ _ _ _ j1E j1F) ?_
   refine y9 (ldA (vs := (d8 d5G)) Tryz.isAgg59 Tryz.sizeOf59 rfl (c8b.atH e9C)) ?_
   refine f7 (cap := []) (fun args w => Tryz.call90 args w) ?_
   refine k8 (Fi := []) (Fr := [bx a7v 59 [(vi a2T), (vi a2U), (vs T3), (vs b0K)], bx g_7 59 (d8 D7), bx g_2 59 (d8 x0), Fcr_11j1_2, Fcr_11l3_3]) c8b (h) (fun j9x e9v j9y j9z f9J e5Z j1G j1H => ?_) (fun _ _ _ _ _ q => q.elim)
   obtain ⟨c6K, rfl, rfl, h⟩ := j1H
   refine ⟨(j1G _ c8b.lt1 (Inv.a1t (Fi := []) c8b)), ?_⟩
   refine a4b (e := 59) (c := d8) (xs := [c6K]) f9J (c6Q _ _ _ _ _ _ _ _) rfl rfl a5p a5q (nb rfl) fun j9A i9A a7l j1I d4Z f8B => ?_
   refine ⟨(f8B _ f9J.lt1), ?_⟩
   obtain ⟨j1J, h⟩ := h
   refine d0p (s := b0K) (xs := a1s) (d4Z.bring 5) c4u (j1I.srcO ((d4Z.bring 5).bring 1)) j1J fun e9D f8A b0c j1K j1L j9B => ?_
   refine o7 M5 ?_
   refine m5 ((j1L.bring 1).drop.bring 1) Tryz.sizeOf57 (vs := [(vs e9D)]) (cs' := [(vi a2T), (vi a2U), (vs T3), (vs e9D)]) rfl rfl (nb rfl) rfl rfl fun d4K j1M j9C => ?_
   refine a7 (u7 _ _ _ _ _ _) ?_
   exact hn3 _ _ _ (hm3 _ _ h).2 ⟨((IntKind.wrap .i64 (T7 + 1)), a2T, a2U, (a1s ++ [c6K]), D7), e9v, e9D, f8A, rfl, rfl, j1K, (((((j1M.bring 1).bring 4).bring 4).bring 4).bring 4), (hm3 _ _ h).1⟩
  ·replace h := h.2 e9B
   exact hx2 _ _ (hj2 a2T a2U b0J a1s D7 Fcr_11j1_2 b0K Fcr_11l3_3 H _ e9x c4u (((((I.bring 4).bring 4).bring 4).bring 4).bring 4) h)
 refine r9 fun j1 hx1 => ?_
 obtain ⟨e9E, d2H, j1N, j1O⟩ := h
 refine A7 (J := fun n l w => ∃ (s : Int × Int × Int × (List a8) × (List b7) × b7) (H : Hp) (b0L : Sl) (Fcr_11l4_2 : Frag) (b0M : Sl) (Fcr_11l4_3 : Frag) , n = d2H s ∧ l = (match s with | (V1, a1R, a1S, Z6, a2m, I1) => [(vi V1)]) ∧ (match s with | (V1, a1R, a1S, Z6, a2m, I1) => RowL 53 4 b8 b0L Z6 Fcr_11l4_2) ∧ (match s with | (V1, a1R, a1S, Z6, a2m, I1) => RowL 59 4 d8 b0M a2m Fcr_11l4_3) ∧ (match s with | (V1, a1R, a1S, Z6, a2m, I1) => Inv w0 ps0 H0 H [bx a7v 59 [(vi a1R), (vi a1S), (vs b0L), (vs b0M)], bx g_7 59 (d8 I1), bx g_2 59 (d8 x0), Fcr_11l4_2, Fcr_11l4_3] w) ∧ e9E s H) ⟨_, (0, x0.b6, x0.fOp, [], [], (b7.mk 0 0 (Sl.mk none 0 0) (Sl.mk none 0 0))), H, (Sl.mk none 0 0), [], (Sl.mk none 0 0), [], rfl, rfl, (RowL.nil T8 T9), (RowL.nil a5p a5q), ((((b0q.nil.nil.bring 1).bring 4).bring 4).bring 4), j1N⟩ ?_
 rintro j9D τ_205 w next4 ⟨⟨V1, a1R, a1S, Z6, a2m, I1⟩, H, b0L, Fcr_11l4_2, b0M, Fcr_11l4_3, rfl, d2v, c4v, c4w, I, j1P⟩ hn4
 dsimp only at d2v I c4v c4w
 simp only [List.map_cons, List.map_nil, List.cons.injEq, and_true] at d2v
 have e4 := d2v
 simp only [e4]
 obtain ⟨n4, hm4, h⟩ : ∃ n4 : (Int × Int × Int × (List a8) × (List b7) × b7) → Hp → Prop, (∀ s' H', n4 s' H' → e9E s' H' ∧ d2H s' < d2H (V1, a1R, a1S, Z6, a2m, I1)) ∧ a1L x0 V1 a1R a1S Z6 a2m I1 H n4 K := ⟨_, fun _ _ h => h, j1O (V1, a1R, a1S, Z6, a2m, I1) H (fun s' H' => e9E s' H' ∧ d2H s' < d2H (V1, a1R, a1S, Z6, a2m, I1)) j1P (fun _ _ a b => ⟨a, b⟩)⟩
 unfold f2T
 unfold a1L at h
 refine a7 O4 ?_
 refine f2 (ld1 Tryz.isAgg51 ((I.bring 2).at1 (o := 2) (vs := [(vs x0.f5)]) (nb rfl) rfl)) ?_
 refine a7 (K0 _ _ _) ?_
 refine a7 (v7 _ _ _ _ _ _) ?_
 refine k4 (fun e9F => ?_) (fun e9F => ?_)
 ·replace h := h.1 e9F
  refine a3D I fun e5u c0z => ?_
  refine o7 O4 ?_
  refine o7 O4 ?_
  refine y9 (ld1 Tryz.isAgg51 (c0z.at1 (o := 2) (vs := [(vs b0L)]) (nb rfl) rfl)) ?_
  refine y9 (ld1 Tryz.isAgg51 ((c0z.bring 2).at1 (o := 2) (vs := [(vs x0.f5)]) (nb rfl) rfl)) ?_
  obtain ⟨d2j, d2i, d5H, d2q, h⟩ := h
  obtain ⟨j9E, j9F, j1Q, d2q⟩ := d2q
  refine o7 (G7 j1Q _ _ _ _ d2j d2i) ?_
  refine y9 (ldA (vs := (b8 d5H)) Tryz.isAgg53 Tryz.sizeOf53 rfl (c0z.atH d2q)) ?_
  refine f7 (cap := []) (fun args w => Tryz.call92 args w) ?_
  refine k8 (Fi := []) (Fr := [bx a7v 59 [(vi a1R), (vi a1S), (vs b0L), (vs b0M)], bx g_7 59 (d8 I1), bx g_2 59 (d8 x0), Fcr_11l4_2, Fcr_11l4_3]) c0z (h) (fun j9G e9w j9H f8h f9K j9I j1R j1S => ?_) (fun _ _ _ _ _ q => q.elim)
  obtain ⟨c6L, rfl, rfl, h⟩ := j1S
  refine ⟨(j1R _ c0z.lt1 (Inv.a1t (Fi := []) c0z)), ?_⟩
  refine a4b (e := 53) (c := b8) (xs := [c6L]) f9K (b7V _ _ _ _ _ _) rfl rfl T8 T9 (nb rfl) fun f8C j9J f8N d2k f9L j1T => ?_
  refine ⟨(j1T _ f9K.lt1), ?_⟩
  obtain ⟨d1m, h⟩ := h
  refine c4O (s := b0L) (xs := Z6) (f9L.bring 4) c4v (d2k.srcO ((f9L.bring 4).bring 1)) d1m fun d2r f9l f9m d5y d5z f9n => ?_
  refine o7 O4 ?_
  refine m5 ((d5z.bring 1).drop.bring 1) Tryz.sizeOf51 (vs := [(vs d2r)]) (cs' := [(vi a1R), (vi a1S), (vs d2r), (vs b0M)]) rfl rfl (nb rfl) rfl rfl fun f8k j1U j9K => ?_
  refine a7 (u7 _ _ _ _ _ _) ?_
  exact hn4 _ _ _ (hm4 _ _ h).2 ⟨((IntKind.wrap .i64 (V1 + 1)), a1R, a1S, (Z6 ++ [c6L]), a2m, I1), e9w, d2r, f9l, b0M, Fcr_11l4_3, rfl, rfl, d5y, c4w, (((((j1U.bring 4).bring 2).bring 4).bring 4).bring 4), (hm4 _ _ h).1⟩
 ·replace h := h.2 e9F
  exact hx1 _ _ (hj1 a1R a1S Z6 a2m I1 b0L Fcr_11l4_2 b0M Fcr_11l4_3 H _ c4v c4w (((((I.bring 4).bring 4).bring 4).bring 4).bring 4) h)
theorem b6g (x0 : b7) {H : Hp} {K : b7 → Hp → Prop} (h : a3A x0 H K) : a3f x0 H K := by
 intro w I
 refine i5q ?_
 refine b5r x0 I (fun r0 H' w' I' hk => ⟨H', _, I', r0, rfl, rfl, hk⟩) h
end Go.Proofs.YtnhkdkcgdcgmdaaGreatDoor
