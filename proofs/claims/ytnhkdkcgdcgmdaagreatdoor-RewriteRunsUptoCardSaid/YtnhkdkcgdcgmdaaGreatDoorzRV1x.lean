/- Typed formulas of the program's functions that few laws need; printed by lift.py off the code. -/
import Derived.Test.YtnhkdkcgdcgmdaaGreatDoorzRV1
import Derived.Test.YtnhkdkcgdcgmdaaGreatDoorzRG1x
namespace Go.Proofs.YtnhkdkcgdcgmdaaGreatDoor
open Go.RowKit
set_option maxRecDepth 100000
set_option maxHeartbeats 2000000
variable {w0 w : World} {ps0 : Nat → Prop} {H0 H : Hp} {R : RT} {E : Pan}
def N4 (x0 : Sl) (H : Hp) (K : Sl → Hp → Prop) : Prop :=
 (x0.a.isNone = true →
 K (Sl.mk none 0 0) H) ∧
 (x0.a.isNone = false →
 ∃ c9f : List r6, SlH H 2 r9 x0 c9f ∧ (([] : List r6).length + c9f.length) * 25 ≤ 140737488355328 ∧
 ∀ (s_8 : Sl) (a4W : Hp), Hle H a4W → SlH a4W 2 r9 s_8 c9f → s_8.n ≤ s_8.c →
 K s_8 a4W)
theorem a4S (x0 : Sl) {K : Sl → Hp → Prop} (I : Inv w0 ps0 H0 H [] w) (hR : ∀ (r0 : Sl) (H' : Hp) (w' : World) (_ : Inv w0 ps0 H0 H' [] w') (_ : K r0 H'), R (vs r0) w') (h : N4 x0 H K) : F44 (vs x0) w R E := by
 unfold N4 at h
 unfold F44
 refine a7 (d5k _ _ x0) ?_
 refine u0 (fun c3j => ?_) (fun c3j => ?_)
 ·replace h := h.1 c3j
  exact hR (Sl.mk none 0 0) H _ I h
 ·replace h := h.2 c3j
  refine a1s (e := 71) (c := r9) (xs := []) I (f1f) rfl rfl b8O c8v (nb rfl) fun s_2 F_3 w_4 h_5 I_6 k_7 => ?_
  obtain ⟨c9f, a9x, h⟩ := h
  obtain ⟨e7D, h⟩ := h
  refine f7L (s := s_2) (xs := []) I_6 h_5 (SlH.src I_6 a9x b8O) e7D fun s_8 F_9 q7 d8L D2 b5A => ?_
  simp only [List.nil_append] at d8L
  obtain ⟨a4W, a1v, a6b, e6L, e7E⟩ := Inv.freezeC D2 d8L (by decide)
  replace h := h s_8 a4W a6b e6L e7E
  exact hR s_8 a4W _ a1v h
theorem a5a (x0 : Sl) {H : Hp} {K : Sl → Hp → Prop} (h : N4 x0 H K) : R4 x0 H K := by
 intro w I
 refine g7M ?_
 refine a4S x0 I (fun r0 H' w' I' hk => ⟨H', _, I', r0, rfl, rfl, hk⟩) h
def a3x (x0 : b6) (H : Hp) (K : b6 → Hp → Prop) : Prop :=
 B0 x0.o9 H (fun (o4 : Sl) (W2 : Hp) =>
 K (b6.mk x0.a8 x0.p5 x0.b7 o4) W2)
theorem b4S (x0 : b6) {K : b6 → Hp → Prop} (I : Inv w0 ps0 H0 H [] w) (hR : ∀ (r0 : b6) (H' : Hp) (w' : World) (_ : Inv w0 ps0 H0 H' [] w') (_ : K r0 H'), R (Value.agg (b8 r0).toArray) w') (h : a3x x0 H K) : F81 (Value.agg (b8 x0).toArray) w R E := by
 unfold a3x at h
 unfold F81
 refine L9 I (cs := (b8 x0)) rfl fun g_2 w_3 I_4 k_5 => ?_
 refine y9 I_4 Tryz.zeroValue53 (cs := [(vi 0), (vi 0), (eS), (nS)]) rfl fun g_7 w_8 I_9 a9w => ?_
 refine a7 K5 ?_
 refine d7 (ld1 Tryz.isAgg51 ((I_9.bring 1).at1 (o := 3) (vs := [(vs x0.o9)]) (nb rfl) rfl)) ?_
 refine d8 (cap := []) (fun args w => Tryz.call80 args w) ?_
 refine o0 (Fi := []) (Fr := [bx g_7 53 [(vi 0), (vi 0), (eS), (nS)], bx g_2 53 (b8 x0)]) I_9 (h) (fun b8q W2 c0x q9 a3G b5U b5X b1k => ?_) (fun _ _ _ _ _ q => q.elim)
 obtain ⟨o4, rfl, rfl, h⟩ := b1k
 refine a7 K5 ?_
 refine m7 (a3G.bring 1) Tryz.sizeOf51 (vs := [(vs o4)]) (cs' := [(vi x0.a8), (vi x0.p5), (Value.string x0.b7), (vs o4)]) rfl rfl (nb rfl) rfl rfl fun u9 a1U b9M => ?_
 refine d7 (ldA Tryz.isAgg53 Tryz.sizeOf53 rfl (a1U.at1 (o := 0) (vs := [(vi x0.a8), (vi x0.p5), (Value.string x0.b7), (vs o4)]) (nb rfl) rfl)) ?_
 refine m7 (a1U.bring 1) Tryz.sizeOf53 (vs := [(vi x0.a8), (vi x0.p5), (Value.string x0.b7), (vs o4)]) (cs' := [(vi x0.a8), (vi x0.p5), (Value.string x0.b7), (vs o4)]) rfl rfl (nb rfl) rfl rfl fun a0R a5D d1y => ?_
 refine L4 Tryz.isAgg53 Tryz.sizeOf53 rfl (a5D.at1 (o := 0) (vs := [(vi x0.a8), (vi x0.p5), (Value.string x0.b7), (vs o4)]) (nb rfl) rfl) ?_
 exact hR (b6.mk x0.a8 x0.p5 x0.b7 o4) W2 _ a5D.drop.drop h
theorem b6h (x0 : b6) {H : Hp} {K : b6 → Hp → Prop} (h : a3x x0 H K) : a5w x0 H K := by
 intro w I
 refine g7X ?_
 refine b4S x0 I (fun r0 H' w' I' hk => ⟨H', _, I', r0, rfl, rfl, hk⟩) h
def C4 (J8 : (List b6)) (H : Hp) (K : Sl → Hp → Prop) : Prop :=
 ∀ (u7 : Sl) (K2 : Hp), Hle H K2 → SlH K2 4 b8 u7 J8 → u7.n ≤ u7.c →
 K u7 K2
def C5 (N0 : Sl) (U1 : Int) (p7 : (List b6)) (o7 : Int) (H : Hp) (n2 : ((List b6) × Int) → Hp → Prop) (K : Sl → Hp → Prop) : Prop :=
 (o7 < U1 →
 (0 : Int) ≤ o7 ∧ (o7 : Int) < N0.n ∧ ∃ x_1 : b6, EltH H N0 o7 4 (b8 x_1) ∧
 a5w x_1 H (fun (C3 : b6) (O7 : Hp) =>
 (p7.length + ([C3] : List b6).length) * 57 ≤ 140737488355328 ∧
 n2 ((p7 ++ [C3]), (IntKind.wrap .i64 (o7 + 1))) O7)) ∧
 (¬ (o7 < U1) →
 C4 p7 H K)
def E0 (x0 : Sl) (H : Hp) (K : Sl → Hp → Prop) : Prop :=
 TL (([], 0) : (List b6) × Int) H fun (s : (List b6) × Int) H n2 => C5 x0 (x0.n : Int) s.1 s.2 H n2 K
theorem a1B (x0 : Sl) {K : Sl → Hp → Prop} (I : Inv w0 ps0 H0 H [] w) (hR : ∀ (r0 : Sl) (H' : Hp) (w' : World) (_ : Inv w0 ps0 H0 H' [] w') (_ : K r0 H'), R (vs r0) w') (h : E0 x0 H K) : F80 (vs x0) (fC 81) w R E := by
 unfold E0 at h
 unfold F80
 have hj1 : ∀ (J8 : (List b6)) (u7 : Sl) (Fs5j1 : Frag) (H : Hp) (w : World) (_ : RowL 53 4 b8 u7 J8 Fs5j1) (_ : Inv w0 ps0 H0 H [Fs5j1] w) (_ : C4 J8 H K), d3r (vs u7) w R E := by
  intro J8 u7 Fs5j1 H w a5i I h
  unfold d3r
  intro _
  unfold C4 at h
  obtain ⟨K2, a5A, a6n, a1u, a3F⟩ := Inv.freezeC I a5i (by decide)
  replace h := h u7 K2 a6n a1u a3F
  exact hR u7 K2 _ a5A h
 refine A7 fun j1 hx1 => ?_
 refine a7 (a2l _ _ _) ?_
 obtain ⟨Z7, O6, a7P, a7Q⟩ := h
 refine M6 (J := fun n l w => ∃ (s : (List b6) × Int) (H : Hp) (J9 : Sl) (Fs5l2 : Frag) , n = O6 s ∧ l = (match s with | (p7, o7) => [(vs J9), (vi o7)]) ∧ (match s with | (p7, o7) => RowL 53 4 b8 J9 p7 Fs5l2) ∧ (match s with | (p7, o7) => Inv w0 ps0 H0 H [Fs5l2] w) ∧ Z7 s H) ⟨_, ([], 0), H, (Sl.mk none 0 0), [], rfl, rfl, (RowL.nil a2j a2k), I.nil, a7P⟩ ?_
 rintro b9O τ_50 w next2 ⟨⟨p7, o7⟩, H, J9, Fs5l2, rfl, Y0, S8, I, a7R⟩ hn2
 dsimp only at Y0 I S8
 simp only [List.map_cons, List.map_nil, List.cons.injEq, and_true] at Y0
 obtain ⟨e5, e10⟩ := Y0
 simp only [e5, e10]
 obtain ⟨n2, hm2, h⟩ : ∃ n2 : ((List b6) × Int) → Hp → Prop, (∀ s' H', n2 s' H' → Z7 s' H' ∧ O6 s' < O6 (p7, o7)) ∧ C5 x0 (x0.n : Int) p7 o7 H n2 K := ⟨_, fun _ _ h => h, a7Q (p7, o7) H (fun s' H' => Z7 s' H' ∧ O6 s' < O6 (p7, o7)) a7R (fun _ _ a b => ⟨a, b⟩)⟩
 unfold e3h
 unfold C5 at h
 refine a7 (D7 _ _ _ _ _ _) ?_
 refine j8 (fun V8 => ?_) (fun V8 => ?_)
 ·replace h := h.1 V8
  obtain ⟨h_4, h_5, x_1, h_7, h⟩ := h
  obtain ⟨g_2, o_3, h_6, h_7⟩ := h_7
  refine a7 (M4 h_6 _ _ _ _ h_4 h_5) ?_
  refine d7 (ldA (vs := (b8 x_1)) Tryz.isAgg53 Tryz.sizeOf53 rfl (I.atH h_7)) ?_
  refine y9 I Tryz.zeroValue53 (cs := [(vi 0), (vi 0), (eS), (nS)]) rfl fun g_9 q7 a0V b0j => ?_
  refine m7 a0V Tryz.sizeOf53 (vs := (b8 x_1)) (cs' := (b8 x_1)) rfl rfl (nb rfl) rfl rfl fun a0e O8 a3V => ?_
  refine d7 (ldA Tryz.isAgg53 Tryz.sizeOf53 rfl (O8.at1 (o := 0) (vs := (b8 x_1)) (nb rfl) rfl)) ?_
  refine d8 (cap := []) (fun args w => Tryz.call81 args w) ?_
  refine o0 (Fi := []) (Fr := [bx g_9 53 (b8 x_1), Fs5l2]) O8 (h) (fun b5C O7 b3D X8 a1v b5D b5E a5B => ?_) (fun _ _ _ _ _ q => q.elim)
  obtain ⟨C3, rfl, rfl, h⟩ := a5B
  refine a1s (e := 53) (c := b8) (xs := [C3]) a1v (c6o _ _ _ _ _ _) rfl rfl a2j a2k (nb rfl) fun b2j b0k D8 a4I V9 a8E => ?_
  obtain ⟨a5C, h⟩ := h
  refine e1n (s := J9) (xs := p7) (V9.bring 2) S8 (a4I.srcO ((V9.bring 2).bring 1)) a5C fun a4o a7p B3 a3W a2p b0M => ?_
  refine a7 (L6 _ _ _ _ _ _) ?_
  exact hn2 _ _ _ (hm2 _ _ h).2 ⟨((p7 ++ [C3]), (IntKind.wrap .i64 (o7 + 1))), O7, a4o, a7p, rfl, rfl, a3W, ((a2p.bring 1).drop.bring 1).drop, (hm2 _ _ h).1⟩
 ·replace h := h.2 V8
  exact hx1 _ _ (hj1 p7 J9 Fs5l2 H _ S8 I h)
theorem a2f (x0 : Sl) {H : Hp} {K : Sl → Hp → Prop} (h : E0 x0 H K) : B0 x0 H K := by
 intro w I
 refine g7V ?_
 refine a1B x0 I (fun r0 H' w' I' hk => ⟨H', _, I', r0, rfl, rfl, hk⟩) h
def a3y (x0 : b9) (H : Hp) (K : b9 → Hp → Prop) : Prop :=
 B0 x0.j7 H (fun (v7 : Sl) (a1Z : Hp) =>
 D9 x0.t7 a1Z (fun (u1 : Sl) (a1w : Hp) =>
 K (b9.mk x0.a8 x0.fOp v7 u1) a1w))
theorem b4T (x0 : b9) {K : b9 → Hp → Prop} (I : Inv w0 ps0 H0 H [] w) (hR : ∀ (r0 : b9) (H' : Hp) (w' : World) (_ : Inv w0 ps0 H0 H' [] w') (_ : K r0 H'), R (Value.agg (d6 r0).toArray) w') (h : a3y x0 H K) : F83 (Value.agg (d6 x0).toArray) w R E := by
 unfold a3y at h
 unfold F83
 refine L9 I (cs := (d6 x0)) rfl fun g_2 w_3 I_4 k_5 => ?_
 refine y9 I_4 Tryz.zeroValue59 (cs := [(vi 0), (vi 0), (nS), (nS)]) rfl fun g_7 w_8 I_9 a9w => ?_
 refine X7 I_9 fun R1 D2 => ?_
 refine m8 a1L ?_
 refine m8 V6 ?_
 refine y7 (ld1 Tryz.isAgg51 ((D2.bring 1).at1 (o := 2) (vs := [(vs x0.j7)]) (nb rfl) rfl)) ?_
 refine y7 (ld1 Tryz.isAgg57 ((D2.bring 1).at1 (o := 3) (vs := [(vs x0.t7)]) (nb rfl) rfl)) ?_
 refine d8 (cap := []) (fun args w => Tryz.call80 args w) ?_
 refine o0 (Fi := []) (Fr := [bx g_7 59 [(vi 0), (vi 0), (nS), (nS)], bx g_2 59 (d6 x0)]) D2 (h) (fun g7u a1Z g7v p9 a9p g7w b5G d3c => ?_) (fun _ _ _ _ _ q => q.elim)
 obtain ⟨v7, rfl, rfl, h⟩ := d3c
 refine ⟨(b5G _ (D2.bring 1).lt1 (Inv.a4c (Fi := []) (D2.bring 1))), ?_⟩
 refine m8 a1L ?_
 refine d8 (cap := []) (fun args w => Tryz.call82 args w) ?_
 refine o0 (Fi := []) (Fr := [bx g_7 59 [(vi 0), (vi 0), (nS), (nS)], bx g_2 59 (d6 x0)]) a9p (h) (fun e5D a1w b0k a0R a5D e5E d1y c2L => ?_) (fun _ _ _ _ _ q => q.elim)
 obtain ⟨u1, rfl, rfl, h⟩ := c2L
 refine m7 (a5D.bring 1) Tryz.sizeOf51 (vs := [(vs v7)]) (cs' := [(vi x0.a8), (vi x0.fOp), (vs v7), (vs x0.t7)]) rfl rfl (nb rfl) rfl rfl fun a7u c0A e7a => ?_
 refine m8 V6 ?_
 refine m7 c0A Tryz.sizeOf57 (vs := [(vs u1)]) (cs' := [(vi x0.a8), (vi x0.fOp), (vs v7), (vs u1)]) rfl rfl (nb rfl) rfl rfl fun B3 a4v c3y => ?_
 refine d7 (ldA Tryz.isAgg59 Tryz.sizeOf59 rfl (a4v.at1 (o := 0) (vs := [(vi x0.a8), (vi x0.fOp), (vs v7), (vs u1)]) (nb rfl) rfl)) ?_
 refine m7 (a4v.bring 1) Tryz.sizeOf59 (vs := [(vi x0.a8), (vi x0.fOp), (vs v7), (vs u1)]) (cs' := [(vi x0.a8), (vi x0.fOp), (vs v7), (vs u1)]) rfl rfl (nb rfl) rfl rfl fun b0n a7q d7Z => ?_
 refine L4 Tryz.isAgg59 Tryz.sizeOf59 rfl (a7q.at1 (o := 0) (vs := [(vi x0.a8), (vi x0.fOp), (vs v7), (vs u1)]) (nb rfl) rfl) ?_
 exact hR (b9.mk x0.a8 x0.fOp v7 u1) a1w _ a7q.drop.drop h
theorem b6i (x0 : b9) {H : Hp} {K : b9 → Hp → Prop} (h : a3y x0 H K) : a5x x0 H K := by
 intro w I
 refine g8c ?_
 refine b4T x0 I (fun r0 H' w' I' hk => ⟨H', _, I', r0, rfl, rfl, hk⟩) h
def C6 (J8 : (List b9)) (H : Hp) (K : Sl → Hp → Prop) : Prop :=
 ∀ (u7 : Sl) (K2 : Hp), Hle H K2 → SlH K2 4 d6 u7 J8 → u7.n ≤ u7.c →
 K u7 K2
def C7 (N0 : Sl) (U1 : Int) (p7 : (List b9)) (o7 : Int) (H : Hp) (n2 : ((List b9) × Int) → Hp → Prop) (K : Sl → Hp → Prop) : Prop :=
 (o7 < U1 →
 (0 : Int) ≤ o7 ∧ (o7 : Int) < N0.n ∧ ∃ x_1 : b9, EltH H N0 o7 4 (d6 x_1) ∧
 a5x x_1 H (fun (C3 : b9) (O7 : Hp) =>
 (p7.length + ([C3] : List b9).length) * 65 ≤ 140737488355328 ∧
 n2 ((p7 ++ [C3]), (IntKind.wrap .i64 (o7 + 1))) O7)) ∧
 (¬ (o7 < U1) →
 C6 p7 H K)
def E1 (x0 : Sl) (H : Hp) (K : Sl → Hp → Prop) : Prop :=
 TL (([], 0) : (List b9) × Int) H fun (s : (List b9) × Int) H n2 => C7 x0 (x0.n : Int) s.1 s.2 H n2 K
theorem a1C (x0 : Sl) {K : Sl → Hp → Prop} (I : Inv w0 ps0 H0 H [] w) (hR : ∀ (r0 : Sl) (H' : Hp) (w' : World) (_ : Inv w0 ps0 H0 H' [] w') (_ : K r0 H'), R (vs r0) w') (h : E1 x0 H K) : F82 (vs x0) (fC 83) w R E := by
 unfold E1 at h
 unfold F82
 have hj1 : ∀ (J8 : (List b9)) (u7 : Sl) (Fs5j1 : Frag) (H : Hp) (w : World) (_ : RowL 59 4 d6 u7 J8 Fs5j1) (_ : Inv w0 ps0 H0 H [Fs5j1] w) (_ : C6 J8 H K), d3s (vs u7) w R E := by
  intro J8 u7 Fs5j1 H w a5i I h
  unfold d3s
  intro _
  unfold C6 at h
  obtain ⟨K2, a5A, a6n, a1u, a3F⟩ := Inv.freezeC I a5i (by decide)
  replace h := h u7 K2 a6n a1u a3F
  exact hR u7 K2 _ a5A h
 refine A7 fun j1 hx1 => ?_
 refine a7 (a6u _ _ _) ?_
 obtain ⟨Z7, O6, a7P, a7Q⟩ := h
 refine M6 (J := fun n l w => ∃ (s : (List b9) × Int) (H : Hp) (J9 : Sl) (Fs5l2 : Frag) , n = O6 s ∧ l = (match s with | (p7, o7) => [(vs J9), (vi o7)]) ∧ (match s with | (p7, o7) => RowL 59 4 d6 J9 p7 Fs5l2) ∧ (match s with | (p7, o7) => Inv w0 ps0 H0 H [Fs5l2] w) ∧ Z7 s H) ⟨_, ([], 0), H, (Sl.mk none 0 0), [], rfl, rfl, (RowL.nil a8V a8W), I.nil, a7P⟩ ?_
 rintro b9O τ_50 w next2 ⟨⟨p7, o7⟩, H, J9, Fs5l2, rfl, Y0, S8, I, a7R⟩ hn2
 dsimp only at Y0 I S8
 simp only [List.map_cons, List.map_nil, List.cons.injEq, and_true] at Y0
 obtain ⟨e5, e10⟩ := Y0
 simp only [e5, e10]
 obtain ⟨n2, hm2, h⟩ : ∃ n2 : ((List b9) × Int) → Hp → Prop, (∀ s' H', n2 s' H' → Z7 s' H' ∧ O6 s' < O6 (p7, o7)) ∧ C7 x0 (x0.n : Int) p7 o7 H n2 K := ⟨_, fun _ _ h => h, a7Q (p7, o7) H (fun s' H' => Z7 s' H' ∧ O6 s' < O6 (p7, o7)) a7R (fun _ _ a b => ⟨a, b⟩)⟩
 unfold e3i
 unfold C7 at h
 refine a7 (D7 _ _ _ _ _ _) ?_
 refine j8 (fun V8 => ?_) (fun V8 => ?_)
 ·replace h := h.1 V8
  obtain ⟨h_4, h_5, x_1, h_7, h⟩ := h
  obtain ⟨g_2, o_3, h_6, h_7⟩ := h_7
  refine a7 (a0P h_6 _ _ _ _ h_4 h_5) ?_
  refine d7 (ldA (vs := (d6 x_1)) Tryz.isAgg59 Tryz.sizeOf59 rfl (I.atH h_7)) ?_
  refine y9 I Tryz.zeroValue59 (cs := [(vi 0), (vi 0), (nS), (nS)]) rfl fun g_9 q7 a0V b0j => ?_
  refine m7 a0V Tryz.sizeOf59 (vs := (d6 x_1)) (cs' := (d6 x_1)) rfl rfl (nb rfl) rfl rfl fun a0e O8 a3V => ?_
  refine d7 (ldA Tryz.isAgg59 Tryz.sizeOf59 rfl (O8.at1 (o := 0) (vs := (d6 x_1)) (nb rfl) rfl)) ?_
  refine d8 (cap := []) (fun args w => Tryz.call83 args w) ?_
  refine o0 (Fi := []) (Fr := [bx g_9 59 (d6 x_1), Fs5l2]) O8 (h) (fun b5C O7 b3D X8 a1v b5D b5E a5B => ?_) (fun _ _ _ _ _ q => q.elim)
  obtain ⟨C3, rfl, rfl, h⟩ := a5B
  refine a1s (e := 59) (c := d6) (xs := [C3]) a1v (d5I _ _ _ _ _ _ _ _) rfl rfl a8V a8W (nb rfl) fun b2j b0k D8 a4I V9 a8E => ?_
  obtain ⟨a5C, h⟩ := h
  refine e1m (s := J9) (xs := p7) (V9.bring 2) S8 (a4I.srcO ((V9.bring 2).bring 1)) a5C fun a4o a7p B3 a3W a2p b0M => ?_
  refine a7 (L6 _ _ _ _ _ _) ?_
  exact hn2 _ _ _ (hm2 _ _ h).2 ⟨((p7 ++ [C3]), (IntKind.wrap .i64 (o7 + 1))), O7, a4o, a7p, rfl, rfl, a3W, ((a2p.bring 1).drop.bring 1).drop, (hm2 _ _ h).1⟩
 ·replace h := h.2 V8
  exact hx1 _ _ (hj1 p7 J9 Fs5l2 H _ S8 I h)
theorem a2g (x0 : Sl) {H : Hp} {K : Sl → Hp → Prop} (h : E1 x0 H K) : D9 x0 H K := by
 intro w I
 refine g7Z ?_
 refine a1C x0 I (fun r0 H' w' I' hk => ⟨H', _, I', r0, rfl, rfl, hk⟩) h
def a3z (x0 : d5) (H : Hp) (K : d5 → Hp → Prop) : Prop :=
 B0 x0.j7 H (fun (v7 : Sl) (a1Z : Hp) =>
 D9 x0.r8 a1Z (fun (u1 : Sl) (a1w : Hp) =>
 B1 x0.A4 a1w (fun (b1I : Sl) (K2 : Hp) =>
 B1 x0.z7 K2 (fun (b2R : Sl) (e7F : Hp) =>
 K (d5.mk x0.a8 x0.b7 v7 u1 b1I b2R) e7F))))
theorem b4U (x0 : d5) {K : d5 → Hp → Prop} (I : Inv w0 ps0 H0 H [] w) (hR : ∀ (r0 : d5) (H' : Hp) (w' : World) (_ : Inv w0 ps0 H0 H' [] w') (_ : K r0 H'), R (Value.agg (g7 r0).toArray) w') (h : a3z x0 H K) : F46 (Value.agg (g7 x0).toArray) w R E := by
 unfold a3z at h
 unfold F46
 refine L9 I (cs := (g7 x0)) rfl fun g_2 w_3 I_4 k_5 => ?_
 refine y9 I_4 Tryz.zeroValue73 (cs := [(vi 0), (eS), (nS), (nS), (nS), (nS)]) rfl fun g_7 w_8 I_9 a9w => ?_
 refine X7 I_9 fun R1 D2 => ?_
 refine m8 a4g ?_
 refine m8 a3e ?_
 refine y7 (ld1 Tryz.isAgg51 ((D2.bring 1).at1 (o := 2) (vs := [(vs x0.j7)]) (nb rfl) rfl)) ?_
 refine y7 (ld1 Tryz.isAgg57 ((D2.bring 1).at1 (o := 3) (vs := [(vs x0.r8)]) (nb rfl) rfl)) ?_
 refine d8 (cap := []) (fun args w => Tryz.call80 args w) ?_
 refine o0 (Fi := []) (Fr := [bx g_7 73 [(vi 0), (eS), (nS), (nS), (nS), (nS)], bx g_2 73 (g7 x0)]) D2 (h) (fun g7u a1Z g7v p9 a9p g7w b5G d3c => ?_) (fun _ _ _ _ _ q => q.elim)
 obtain ⟨v7, rfl, rfl, h⟩ := d3c
 refine ⟨(b5G _ (D2.bring 1).lt1 (Inv.a4c (Fi := []) (D2.bring 1))), ?_⟩
 refine m8 a4g ?_
 refine d8 (cap := []) (fun args w => Tryz.call82 args w) ?_
 refine o0 (Fi := []) (Fr := [bx g_7 73 [(vi 0), (eS), (nS), (nS), (nS), (nS)], bx g_2 73 (g7 x0)]) a9p (h) (fun e5D a1w b0k a0R a5D e5E d1y c2L => ?_) (fun _ _ _ _ _ q => q.elim)
 obtain ⟨u1, rfl, rfl, h⟩ := c2L
 refine m7 (a5D.bring 1) Tryz.sizeOf51 (vs := [(vs v7)]) (cs' := [(vi x0.a8), (Value.string x0.b7), (vs v7), (vs x0.r8), (vs x0.A4), (vs x0.z7)]) rfl rfl (nb rfl) rfl rfl fun a7u c0A e7a => ?_
 refine m8 a3e ?_
 refine m7 c0A Tryz.sizeOf57 (vs := [(vs u1)]) (cs' := [(vi x0.a8), (Value.string x0.b7), (vs v7), (vs u1), (vs x0.A4), (vs x0.z7)]) rfl rfl (nb rfl) rfl rfl fun B3 a4v c3y => ?_
 refine X7 a4v fun b0n a7q => ?_
 refine m8 a3f ?_
 refine m8 a3g ?_
 refine y7 (ld1 Tryz.isAgg23 (a7q.at1 (o := 4) (vs := [(vs x0.A4)]) (nb rfl) rfl)) ?_
 refine y7 (ld1 Tryz.isAgg23 (a7q.at1 (o := 5) (vs := [(vs x0.z7)]) (nb rfl) rfl)) ?_
 refine d8 (cap := []) (fun args w => Tryz.call45 args w) ?_
 refine o0 (Fi := []) (Fr := [bx g_2 73 [(vi x0.a8), (Value.string x0.b7), (vs v7), (vs u1), (vs x0.A4), (vs x0.z7)], bx g_7 73 [(vi 0), (eS), (nS), (nS), (nS), (nS)]]) a7q (h) (fun i5J K2 i5K G3 b3P d9P d1B i1b => ?_) (fun _ _ _ _ _ q => q.elim)
 obtain ⟨b1I, rfl, rfl, h⟩ := i1b
 refine ⟨(d1B _ a7q.lt1 (Inv.a4c (Fi := []) a7q)), ?_⟩
 refine m8 a3f ?_
 refine d8 (cap := []) (fun args w => Tryz.call45 args w) ?_
 refine o0 (Fi := []) (Fr := [bx g_2 73 [(vi x0.a8), (Value.string x0.b7), (vs v7), (vs u1), (vs x0.A4), (vs x0.z7)], bx g_7 73 [(vi 0), (eS), (nS), (nS), (nS), (nS)]]) b3P (h) (fun i5L e7F i5M b0L d9z g3X i0m i1c => ?_) (fun _ _ _ _ _ q => q.elim)
 obtain ⟨b2R, rfl, rfl, h⟩ := i1c
 refine m7 d9z Tryz.sizeOf23 (vs := [(vs b1I)]) (cs' := [(vi x0.a8), (Value.string x0.b7), (vs v7), (vs u1), (vs b1I), (vs x0.z7)]) rfl rfl (nb rfl) rfl rfl fun b7V b1c c0d => ?_
 refine m8 a3g ?_
 refine m7 b1c Tryz.sizeOf23 (vs := [(vs b2R)]) (cs' := [(vi x0.a8), (Value.string x0.b7), (vs v7), (vs u1), (vs b1I), (vs b2R)]) rfl rfl (nb rfl) rfl rfl fun Q4 d9Y i1d => ?_
 refine d7 (ldA Tryz.isAgg73 Tryz.sizeOf73 rfl (d9Y.at1 (o := 0) (vs := [(vi x0.a8), (Value.string x0.b7), (vs v7), (vs u1), (vs b1I), (vs b2R)]) (nb rfl) rfl)) ?_
 refine m7 (d9Y.bring 1) Tryz.sizeOf73 (vs := [(vi x0.a8), (Value.string x0.b7), (vs v7), (vs u1), (vs b1I), (vs b2R)]) (cs' := [(vi x0.a8), (Value.string x0.b7), (vs v7), (vs u1), (vs b1I), (vs b2R)]) rfl rfl (nb rfl) rfl rfl fun d2v b8u i1e => ?_
 refine L4 Tryz.isAgg73 Tryz.sizeOf73 rfl (b8u.at1 (o := 0) (vs := [(vi x0.a8), (Value.string x0.b7), (vs v7), (vs u1), (vs b1I), (vs b2R)]) (nb rfl) rfl) ?_
 exact hR (d5.mk x0.a8 x0.b7 v7 u1 b1I b2R) e7F _ b8u.drop.drop h
theorem b6j (x0 : d5) {H : Hp} {K : d5 → Hp → Prop} (h : a3z x0 H K) : a5y x0 H K := by
 intro w I
 refine g7T ?_
 refine b4U x0 I (fun r0 H' w' I' hk => ⟨H', _, I', r0, rfl, rfl, hk⟩) h
def C8 (J8 : (List d5)) (H : Hp) (K : Sl → Hp → Prop) : Prop :=
 ∀ (u7 : Sl) (K2 : Hp), Hle H K2 → SlH K2 6 g7 u7 J8 → u7.n ≤ u7.c →
 K u7 K2
def C9 (N0 : Sl) (U1 : Int) (p7 : (List d5)) (o7 : Int) (H : Hp) (n2 : ((List d5) × Int) → Hp → Prop) (K : Sl → Hp → Prop) : Prop :=
 (o7 < U1 →
 (0 : Int) ≤ o7 ∧ (o7 : Int) < N0.n ∧ ∃ x_1 : d5, EltH H N0 o7 6 (g7 x_1) ∧
 a5y x_1 H (fun (C3 : d5) (O7 : Hp) =>
 (p7.length + ([C3] : List d5).length) * 121 ≤ 140737488355328 ∧
 n2 ((p7 ++ [C3]), (IntKind.wrap .i64 (o7 + 1))) O7)) ∧
 (¬ (o7 < U1) →
 C8 p7 H K)
def E2 (x0 : Sl) (H : Hp) (K : Sl → Hp → Prop) : Prop :=
 TL (([], 0) : (List d5) × Int) H fun (s : (List d5) × Int) H n2 => C9 x0 (x0.n : Int) s.1 s.2 H n2 K
theorem a1D (x0 : Sl) {K : Sl → Hp → Prop} (I : Inv w0 ps0 H0 H [] w) (hR : ∀ (r0 : Sl) (H' : Hp) (w' : World) (_ : Inv w0 ps0 H0 H' [] w') (_ : K r0 H'), R (vs r0) w') (h : E2 x0 H K) : F45 (vs x0) (fC 46) w R E := by
 unfold E2 at h
 unfold F45
 have hj1 : ∀ (J8 : (List d5)) (u7 : Sl) (Fs5j1 : Frag) (H : Hp) (w : World) (_ : RowL 73 6 g7 u7 J8 Fs5j1) (_ : Inv w0 ps0 H0 H [Fs5j1] w) (_ : C8 J8 H K), d3o (vs u7) w R E := by
  intro J8 u7 Fs5j1 H w a5i I h
  unfold d3o
  intro _
  unfold C8 at h
  obtain ⟨K2, a5A, a6n, a1u, a3F⟩ := Inv.freezeC I a5i (by decide)
  replace h := h u7 K2 a6n a1u a3F
  exact hR u7 K2 _ a5A h
 refine A7 fun j1 hx1 => ?_
 refine a7 (a6t _ _ _) ?_
 obtain ⟨Z7, O6, a7P, a7Q⟩ := h
 refine M6 (J := fun n l w => ∃ (s : (List d5) × Int) (H : Hp) (J9 : Sl) (Fs5l2 : Frag) , n = O6 s ∧ l = (match s with | (p7, o7) => [(vs J9), (vi o7)]) ∧ (match s with | (p7, o7) => RowL 73 6 g7 J9 p7 Fs5l2) ∧ (match s with | (p7, o7) => Inv w0 ps0 H0 H [Fs5l2] w) ∧ Z7 s H) ⟨_, ([], 0), H, (Sl.mk none 0 0), [], rfl, rfl, (RowL.nil a7e a8U), I.nil, a7P⟩ ?_
 rintro b9O τ_50 w next2 ⟨⟨p7, o7⟩, H, J9, Fs5l2, rfl, Y0, S8, I, a7R⟩ hn2
 dsimp only at Y0 I S8
 simp only [List.map_cons, List.map_nil, List.cons.injEq, and_true] at Y0
 obtain ⟨e5, e10⟩ := Y0
 simp only [e5, e10]
 obtain ⟨n2, hm2, h⟩ : ∃ n2 : ((List d5) × Int) → Hp → Prop, (∀ s' H', n2 s' H' → Z7 s' H' ∧ O6 s' < O6 (p7, o7)) ∧ C9 x0 (x0.n : Int) p7 o7 H n2 K := ⟨_, fun _ _ h => h, a7Q (p7, o7) H (fun s' H' => Z7 s' H' ∧ O6 s' < O6 (p7, o7)) a7R (fun _ _ a b => ⟨a, b⟩)⟩
 unfold e3g
 unfold C9 at h
 refine a7 (D7 _ _ _ _ _ _) ?_
 refine j8 (fun V8 => ?_) (fun V8 => ?_)
 ·replace h := h.1 V8
  obtain ⟨h_4, h_5, x_1, h_7, h⟩ := h
  obtain ⟨g_2, o_3, h_6, h_7⟩ := h_7
  refine a7 (b3q h_6 _ _ _ _ h_4 h_5) ?_
  refine d7 (ldA (vs := (g7 x_1)) Tryz.isAgg73 Tryz.sizeOf73 rfl (I.atH h_7)) ?_
  refine y9 I Tryz.zeroValue73 (cs := [(vi 0), (eS), (nS), (nS), (nS), (nS)]) rfl fun g_9 q7 a0V b0j => ?_
  refine m7 a0V Tryz.sizeOf73 (vs := (g7 x_1)) (cs' := (g7 x_1)) rfl rfl (nb rfl) rfl rfl fun a0e O8 a3V => ?_
  refine d7 (ldA Tryz.isAgg73 Tryz.sizeOf73 rfl (O8.at1 (o := 0) (vs := (g7 x_1)) (nb rfl) rfl)) ?_
  refine d8 (cap := []) (fun args w => Tryz.call46 args w) ?_
  refine o0 (Fi := []) (Fr := [bx g_9 73 (g7 x_1), Fs5l2]) O8 (h) (fun b5C O7 b3D X8 a1v b5D b5E a5B => ?_) (fun _ _ _ _ _ q => q.elim)
  obtain ⟨C3, rfl, rfl, h⟩ := a5B
  refine a1s (e := 73) (c := g7) (xs := [C3]) a1v (d5J _ _ _ _ _ _ _ _ _ _ _ _ _ _) rfl rfl a7e a8U (nb rfl) fun b2j b0k D8 a4I V9 a8E => ?_
  obtain ⟨a5C, h⟩ := h
  refine e1o (s := J9) (xs := p7) (V9.bring 2) S8 (a4I.srcO ((V9.bring 2).bring 1)) a5C fun a4o a7p B3 a3W a2p b0M => ?_
  refine a7 (L6 _ _ _ _ _ _) ?_
  exact hn2 _ _ _ (hm2 _ _ h).2 ⟨((p7 ++ [C3]), (IntKind.wrap .i64 (o7 + 1))), O7, a4o, a7p, rfl, rfl, a3W, ((a2p.bring 1).drop.bring 1).drop, (hm2 _ _ h).1⟩
 ·replace h := h.2 V8
  exact hx1 _ _ (hj1 p7 J9 Fs5l2 H _ S8 I h)
theorem a2h (x0 : Sl) {H : Hp} {K : Sl → Hp → Prop} (h : E2 x0 H K) : B1 x0 H K := by
 intro w I
 refine g7O ?_
 refine a1D x0 I (fun r0 H' w' I' hk => ⟨H', _, I', r0, rfl, rfl, hk⟩) h
def a5o (x0 : r7) (H : Hp) (K : r7 → Int → Hp → Prop) : Prop :=
 a4L x0 H (fun (o4 : Int) (W2 : Hp) =>
 (¬ (o4 = 0) →
 K (r7.mk (Sl.mk none 0 0) (Sl.mk none 0 0)) o4 W2) ∧
 (o4 = 0 →
 R4 x0.a0C W2 (fun (a9a : Sl) (c2T : Hp) =>
 B1 x0.a5H c2T (fun (m6 : Sl) (a7r : Hp) =>
 K (r7.mk a9a m6) 0 a7r))))
theorem b8W (x0 : r7) {K : r7 → Int → Hp → Prop} (I : Inv w0 ps0 H0 H [] w) (hR : ∀ (r0 : r7) (r1 : Int) (H' : Hp) (w' : World) (_ : Inv w0 ps0 H0 H' [] w') (_ : K r0 r1 H'), R (Value.tuple #[(Value.agg (p8 r0).toArray), (vi r1)]) w') (h : a5o x0 H K) : F25 (Value.agg (p8 x0).toArray) w R E := by
 unfold a5o at h
 unfold F25
 refine L9 I (cs := (p8 x0)) rfl fun g_2 w_3 I_4 k_5 => ?_
 refine y9 I_4 Tryz.zeroValue25 (cs := [(nS), (nS)]) rfl fun g_7 w_8 I_9 a9w => ?_
 refine d7 (ldA Tryz.isAgg25 Tryz.sizeOf25 rfl ((I_9.bring 1).at1 (o := 0) (vs := (p8 x0)) (nb rfl) rfl)) ?_
 refine d8 (cap := []) (fun args w => Tryz.call24 args w) ?_
 refine o0 (Fi := []) (Fr := [bx g_7 25 [(nS), (nS)], bx g_2 25 (p8 x0)]) I_9 (h) (fun b8q W2 c0x q9 a3G b5U b5X b1k => ?_) (fun _ _ _ _ _ q => q.elim)
 obtain ⟨o4, rfl, rfl, h⟩ := b1k
 refine a7 (T8 _ _ _ _ _ _) ?_
 refine a2L (fun c3D => ?_) (fun c3D => ?_)
 ·replace h := h.1 c3D
  refine a7 (c7S ) ?_
  refine m7 a3G Tryz.sizeOf25 (vs := [(nS), (nS)]) (cs' := [(nS), (nS)]) rfl rfl (nb rfl) rfl rfl fun u9 a1U b9M => ?_
  refine L4 Tryz.isAgg25 Tryz.sizeOf25 rfl (a1U.at1 (o := 0) (vs := [(nS), (nS)]) (nb rfl) rfl) ?_
  exact hR (r7.mk (Sl.mk none 0 0) (Sl.mk none 0 0)) o4 W2 _ a1U.drop.drop h
 ·replace h := h.2 c3D
  refine X7 a3G fun a0R a5D => ?_
  refine m8 a9U ?_
  refine m8 a8c ?_
  refine y7 (ld1 Tryz.isAgg22 ((a5D.bring 1).at1 (o := 0) (vs := [(vs x0.a0C)]) (nb rfl) rfl)) ?_
  refine y7 (ld1 Tryz.isAgg23 ((a5D.bring 1).at1 (o := 1) (vs := [(vs x0.a5H)]) (nb rfl) rfl)) ?_
  refine d8 (cap := []) (fun args w => Tryz.call44 args w) ?_
  refine o0 (Fi := []) (Fr := [bx g_7 25 [(nS), (nS)], bx g_2 25 (p8 x0)]) a5D (h) (fun h9h c2T h9i A6 b1d h9j d1E e5W => ?_) (fun _ _ _ _ _ q => q.elim)
  obtain ⟨a9a, rfl, rfl, h⟩ := e5W
  refine ⟨(d1E _ (a5D.bring 1).lt1 (Inv.a4c (Fi := []) (a5D.bring 1))), ?_⟩
  refine d8 (cap := []) (fun args w => Tryz.call45 args w) ?_
  refine o0 (Fi := []) (Fr := [bx g_7 25 [(nS), (nS)], bx g_2 25 (p8 x0)]) b1d (h) (fun g2k a7r g2l a6O a2p a6n b0M d1F => ?_) (fun _ _ _ _ _ q => q.elim)
  obtain ⟨m6, rfl, rfl, h⟩ := d1F
  refine m8 (c8u _ _ _ _ _ _) ?_
  refine m7 a2p Tryz.sizeOf25 (vs := [(vs a9a), (vs m6)]) (cs' := [(vs a9a), (vs m6)]) rfl rfl (nb rfl) rfl rfl fun b3w b6b e6W => ?_
  refine L4 Tryz.isAgg25 Tryz.sizeOf25 rfl (b6b.at1 (o := 0) (vs := [(vs a9a), (vs m6)]) (nb rfl) rfl) ?_
  exact hR (r7.mk a9a m6) 0 a7r _ b6b.drop.drop h
theorem c0D (x0 : r7) {H : Hp} {K : r7 → Int → Hp → Prop} (h : a5o x0 H K) : a7J x0 H K := by
 intro w I
 refine g7K ?_
 refine b8W x0 I (fun r0 r1 H' w' I' hk => ⟨H', _, I', r0, r1, rfl, rfl, hk⟩) h
end Go.Proofs.YtnhkdkcgdcgmdaaGreatDoor
