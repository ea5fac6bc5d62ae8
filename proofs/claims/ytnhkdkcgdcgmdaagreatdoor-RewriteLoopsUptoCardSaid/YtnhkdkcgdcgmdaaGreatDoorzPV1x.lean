/- Typed formulas of the program's functions that few laws need; printed by lift.py off the code. -/
import Derived.Test.YtnhkdkcgdcgmdaaGreatDoorzPV1
import Derived.Test.YtnhkdkcgdcgmdaaGreatDoorzPG1x
namespace Go.Proofs.YtnhkdkcgdcgmdaaGreatDoor
open Go.RowKit
set_option maxRecDepth 100000
set_option maxHeartbeats 2000000
variable {w0 w : World} {ps0 : Nat → Prop} {H0 H : Hp} {R : RT} {E : Pan}
def M7 (x0 : Sl) (H : Hp) (K : Sl → Hp → Prop) : Prop :=
 (x0.a.isNone = true →
 K (Sl.mk none 0 0) H) ∧
 (x0.a.isNone = false →
 ∃ c8g : List p5, SlH H 2 p8 x0 c8g ∧ (([] : List p5).length + c8g.length) * 25 ≤ 140737488355328 ∧
 ∀ (s_8 : Sl) (a8M : Hp), Hle H a8M → SlH a8M 2 p8 s_8 c8g → s_8.n ≤ s_8.c →
 K s_8 a8M)
theorem a4M (x0 : Sl) {K : Sl → Hp → Prop} (I : Inv w0 ps0 H0 H [] w) (hR : ∀ (r0 : Sl) (H' : Hp) (w' : World) (_ : Inv w0 ps0 H0 H' [] w') (_ : K r0 H'), R (vs r0) w') (h : M7 x0 H K) : F44 (vs x0) w R E := by
 unfold M7 at h
 unfold F44
 refine a7 (d3Q _ _ x0) ?_
 refine s6 (fun c2G => ?_) (fun c2G => ?_)
 ·replace h := h.1 c2G
  exact hR (Sl.mk none 0 0) H _ I h
 ·replace h := h.2 c2G
  refine a0m (e := 71) (c := p8) (xs := []) I (e9B) rfl rfl b8o c7s (nb rfl) fun s_2 F_3 w_4 h_5 I_6 k_7 => ?_
  obtain ⟨c8g, a8S, h⟩ := h
  obtain ⟨e5V, h⟩ := h
  refine f6g (s := s_2) (xs := []) I_6 h_5 (SlH.src I_6 a8S b8o) e5V fun s_8 F_9 o7 d7d D8 b6S => ?_
  simp only [List.nil_append] at d7d
  obtain ⟨a8M, a2F, a5O, e5j, e5W⟩ := Inv.freezeC D8 d7d (by decide)
  replace h := h s_8 a8M a5O e5j e5W
  exact hR s_8 a8M _ a2F h
theorem a4V (x0 : Sl) {H : Hp} {K : Sl → Hp → Prop} (h : M7 x0 H K) : Q7 x0 H K := by
 intro w I
 refine g6f ?_
 refine a4M x0 I (fun r0 H' w' I' hk => ⟨H', _, I', r0, rfl, rfl, hk⟩) h
def a3l (x0 : b6) (H : Hp) (K : b6 → Hp → Prop) : Prop :=
 y9 x0.o0 H (fun (m7 : Sl) (T8 : Hp) =>
 K (b6.mk x0.a8 x0.o2 x0.b8 m7) T8)
theorem b4j (x0 : b6) {K : b6 → Hp → Prop} (I : Inv w0 ps0 H0 H [] w) (hR : ∀ (r0 : b6) (H' : Hp) (w' : World) (_ : Inv w0 ps0 H0 H' [] w') (_ : K r0 H'), R (Value.agg (b7 r0).toArray) w') (h : a3l x0 H K) : F81 (Value.agg (b7 x0).toArray) w R E := by
 unfold a3l at h
 unfold F81
 refine M4 I (cs := (b7 x0)) rfl fun g_2 w_3 I_4 k_5 => ?_
 refine u1 I_4 Tryz.zeroValue53 (cs := [(vi 0), (vi 0), (eS), (nS)]) rfl fun g_7 w_8 I_9 a9J => ?_
 refine a7 K4 ?_
 refine d6 (ld1 Tryz.isAgg51 ((I_9.bring 1).at1 (o := 3) (vs := [(vs x0.o0)]) (nb rfl) rfl)) ?_
 refine d8 (cap := []) (fun args w => Tryz.call80 args w) ?_
 refine m4 (Fi := []) (Fr := [bx g_7 53 [(vi 0), (vi 0), (eS), (nS)], bx g_2 53 (b7 x0)]) I_9 (h) (fun b7Q T8 b9Z p7 a2f b5m b5p b0B => ?_) (fun _ _ _ _ _ q => q.elim)
 obtain ⟨m7, rfl, rfl, h⟩ := b0B
 refine a7 K4 ?_
 refine l9 (a2f.bring 1) Tryz.sizeOf51 (vs := [(vs m7)]) (cs' := [(vi x0.a8), (vi x0.o2), (Value.string x0.b8), (vs m7)]) rfl rfl (nb rfl) rfl rfl fun t7 a0B b6T => ?_
 refine d6 (ldA Tryz.isAgg53 Tryz.sizeOf53 rfl (a0B.at1 (o := 0) (vs := [(vi x0.a8), (vi x0.o2), (Value.string x0.b8), (vs m7)]) (nb rfl) rfl)) ?_
 refine l9 (a0B.bring 1) Tryz.sizeOf53 (vs := [(vi x0.a8), (vi x0.o2), (Value.string x0.b8), (vs m7)]) (cs' := [(vi x0.a8), (vi x0.o2), (Value.string x0.b8), (vs m7)]) rfl rfl (nb rfl) rfl rfl fun a0y a4m c6e => ?_
 refine J0 Tryz.isAgg53 Tryz.sizeOf53 rfl (a4m.at1 (o := 0) (vs := [(vi x0.a8), (vi x0.o2), (Value.string x0.b8), (vs m7)]) (nb rfl) rfl) ?_
 exact hR (b6.mk x0.a8 x0.o2 x0.b8 m7) T8 _ a4m.drop.drop h
theorem b5v (x0 : b6) {H : Hp} {K : b6 → Hp → Prop} (h : a3l x0 H K) : a5q x0 H K := by
 intro w I
 refine g6r ?_
 refine b4j x0 I (fun r0 H' w' I' hk => ⟨H', _, I', r0, rfl, rfl, hk⟩) h
def B6 (D9 : (List b6)) (H : Hp) (K : Sl → Hp → Prop) : Prop :=
 ∀ (q8 : Sl) (K1 : Hp), Hle H K1 → SlH K1 4 b7 q8 D9 → q8.n ≤ q8.c →
 K q8 K1
def B7 (U6 : Sl) (T4 : Int) (m3 : (List b6)) (m6 : Int) (H : Hp) (n2 : ((List b6) × Int) → Hp → Prop) (K : Sl → Hp → Prop) : Prop :=
 (m6 < T4 →
 (0 : Int) ≤ m6 ∧ (m6 : Int) < U6.n ∧ ∃ x_1 : b6, EltH H U6 m6 4 (b7 x_1) ∧
 a5q x_1 H (fun (E0 : b6) (Q2 : Hp) =>
 (m3.length + ([E0] : List b6).length) * 57 ≤ 140737488355328 ∧
 n2 ((m3 ++ [E0]), (IntKind.wrap .i64 (m6 + 1))) Q2)) ∧
 (¬ (m6 < T4) →
 B6 m3 H K)
def E2 (x0 : Sl) (H : Hp) (K : Sl → Hp → Prop) : Prop :=
 TL (([], 0) : (List b6) × Int) H fun (s : (List b6) × Int) H n2 => B7 x0 (x0.n : Int) s.1 s.2 H n2 K
theorem a1s (x0 : Sl) {K : Sl → Hp → Prop} (I : Inv w0 ps0 H0 H [] w) (hR : ∀ (r0 : Sl) (H' : Hp) (w' : World) (_ : Inv w0 ps0 H0 H' [] w') (_ : K r0 H'), R (vs r0) w') (h : E2 x0 H K) : F80 (vs x0) (fC 81) w R E := by
 unfold E2 at h
 unfold F80
 have hj1 : ∀ (D9 : (List b6)) (q8 : Sl) (Fs5j1 : Frag) (H : Hp) (w : World) (_ : RowL 53 4 b7 q8 D9 Fs5j1) (_ : Inv w0 ps0 H0 H [Fs5j1] w) (_ : B6 D9 H K), d2i (vs q8) w R E := by
  intro D9 q8 Fs5j1 H w a4i I h
  unfold d2i
  intro _
  unfold B6 at h
  obtain ⟨K1, a3A, a6y, a1l, a3B⟩ := Inv.freezeC I a4i (by decide)
  replace h := h q8 K1 a6y a1l a3B
  exact hR q8 K1 _ a3A h
 refine v8 fun j1 hx1 => ?_
 refine a7 (a1Z _ _ _) ?_
 obtain ⟨Y6, N9, a7A, a7B⟩ := h
 refine L6 (J := fun n l w => ∃ (s : (List b6) × Int) (H : Hp) (A7 : Sl) (Fs5l2 : Frag) , n = N9 s ∧ l = (match s with | (m3, m6) => [(vs A7), (vi m6)]) ∧ (match s with | (m3, m6) => RowL 53 4 b7 A7 m3 Fs5l2) ∧ (match s with | (m3, m6) => Inv w0 ps0 H0 H [Fs5l2] w) ∧ Y6 s H) ⟨_, ([], 0), H, (Sl.mk none 0 0), [], rfl, rfl, (RowL.nil a1X a1Y), I.nil, a7A⟩ ?_
 rintro b9q τ_50 w next2 ⟨⟨m3, m6⟩, H, A7, Fs5l2, rfl, X2, P3, I, a7C⟩ hn2
 dsimp only at X2 I P3
 simp only [List.map_cons, List.map_nil, List.cons.injEq, and_true] at X2
 obtain ⟨e5, e10⟩ := X2
 simp only [e5, e10]
 obtain ⟨n2, hm2, h⟩ : ∃ n2 : ((List b6) × Int) → Hp → Prop, (∀ s' H', n2 s' H' → Y6 s' H' ∧ N9 s' < N9 (m3, m6)) ∧ B7 x0 (x0.n : Int) m3 m6 H n2 K := ⟨_, fun _ _ h => h, a7B (m3, m6) H (fun s' H' => Y6 s' H' ∧ N9 s' < N9 (m3, m6)) a7C (fun _ _ a b => ⟨a, b⟩)⟩
 unfold e1E
 unfold B7 at h
 refine a7 (C2 _ _ _ _ _ _) ?_
 refine i8 (fun V4 => ?_) (fun V4 => ?_)
 ·replace h := h.1 V4
  obtain ⟨h_4, h_5, x_1, h_7, h⟩ := h
  obtain ⟨g_2, o_3, h_6, h_7⟩ := h_7
  refine a7 (M1 h_6 _ _ _ _ h_4 h_5) ?_
  refine d6 (ldA (vs := (b7 x_1)) Tryz.isAgg53 Tryz.sizeOf53 rfl (I.atH h_7)) ?_
  refine u1 I Tryz.zeroValue53 (cs := [(vi 0), (vi 0), (eS), (nS)]) rfl fun g_9 o7 a0R a9D => ?_
  refine l9 a0R Tryz.sizeOf53 (vs := (b7 x_1)) (cs' := (b7 x_1)) rfl rfl (nb rfl) rfl rfl fun Z2 P0 a3P => ?_
  refine d6 (ldA Tryz.isAgg53 Tryz.sizeOf53 rfl (P0.at1 (o := 0) (vs := (b7 x_1)) (nb rfl) rfl)) ?_
  refine d8 (cap := []) (fun args w => Tryz.call81 args w) ?_
  refine m4 (Fi := []) (Fr := [bx g_9 53 (b7 x_1), Fs5l2]) P0 (h) (fun b6V Q2 b4V a0q a2F b6W b6X a6z => ?_) (fun _ _ _ _ _ q => q.elim)
  obtain ⟨E0, rfl, rfl, h⟩ := a6z
  refine a0m (e := 53) (c := b7) (xs := [E0]) a2F (c5u _ _ _ _ _ _) rfl rfl a1X a1Y (nb rfl) fun b1y a9E C4 a4D V5 a7D => ?_
  obtain ⟨a6A, h⟩ := h
  refine d9C (s := A7) (xs := m3) (V5.bring 2) P3 (a4D.srcO ((V5.bring 2).bring 1)) a6A fun a4j a6B A6 a3Q a3C b2U => ?_
  refine a7 (J8 _ _ _ _ _ _) ?_
  exact hn2 _ _ _ (hm2 _ _ h).2 ⟨((m3 ++ [E0]), (IntKind.wrap .i64 (m6 + 1))), Q2, a4j, a6B, rfl, rfl, a3Q, ((a3C.bring 1).drop.bring 1).drop, (hm2 _ _ h).1⟩
 ·replace h := h.2 V4
  exact hx1 _ _ (hj1 m3 A7 Fs5l2 H _ P3 I h)
theorem a1T (x0 : Sl) {H : Hp} {K : Sl → Hp → Prop} (h : E2 x0 H K) : y9 x0 H K := by
 intro w I
 refine g6p ?_
 refine a1s x0 I (fun r0 H' w' I' hk => ⟨H', _, I', r0, rfl, rfl, hk⟩) h
def a3m (x0 : b9) (H : Hp) (K : b9 → Hp → Prop) : Prop :=
 y9 x0.f2 H (fun (t1 : Sl) (a1P : Hp) =>
 D7 x0.r7 a1P (fun (r9 : Sl) (a1m : Hp) =>
 K (b9.mk x0.a8 x0.fOp t1 r9) a1m))
theorem b4k (x0 : b9) {K : b9 → Hp → Prop} (I : Inv w0 ps0 H0 H [] w) (hR : ∀ (r0 : b9) (H' : Hp) (w' : World) (_ : Inv w0 ps0 H0 H' [] w') (_ : K r0 H'), R (Value.agg (d5 r0).toArray) w') (h : a3m x0 H K) : F83 (Value.agg (d5 x0).toArray) w R E := by
 unfold a3m at h
 unfold F83
 refine M4 I (cs := (d5 x0)) rfl fun g_2 w_3 I_4 k_5 => ?_
 refine u1 I_4 Tryz.zeroValue59 (cs := [(vi 0), (vi 0), (nS), (nS)]) rfl fun g_7 w_8 I_9 a9J => ?_
 refine V0 I_9 fun R7 D8 => ?_
 refine l7 a1C ?_
 refine l7 V3 ?_
 refine t6 (ld1 Tryz.isAgg51 ((D8.bring 1).at1 (o := 2) (vs := [(vs x0.f2)]) (nb rfl) rfl)) ?_
 refine t6 (ld1 Tryz.isAgg57 ((D8.bring 1).at1 (o := 3) (vs := [(vs x0.r7)]) (nb rfl) rfl)) ?_
 refine d8 (cap := []) (fun args w => Tryz.call80 args w) ?_
 refine m4 (Fi := []) (Fr := [bx g_7 59 [(vi 0), (vi 0), (nS), (nS)], bx g_2 59 (d5 x0)]) D8 (h) (fun g5K a1P g5L o8 b3a g5M b6Z d1S => ?_) (fun _ _ _ _ _ q => q.elim)
 obtain ⟨t1, rfl, rfl, h⟩ := d1S
 refine ⟨(b6Z _ (D8.bring 1).lt1 (Inv.a3r (Fi := []) (D8.bring 1))), ?_⟩
 refine l7 a1C ?_
 refine d8 (cap := []) (fun args w => Tryz.call82 args w) ?_
 refine m4 (Fi := []) (Fr := [bx g_7 59 [(vi 0), (vi 0), (nS), (nS)], bx g_2 59 (d5 x0)]) b3a (h) (fun e3W a1m a9E a0y a4m e3X c6e c2m => ?_) (fun _ _ _ _ _ q => q.elim)
 obtain ⟨r9, rfl, rfl, h⟩ := c2m
 refine l9 (a4m.bring 1) Tryz.sizeOf51 (vs := [(vs t1)]) (cs' := [(vi x0.a8), (vi x0.fOp), (vs t1), (vs x0.r7)]) rfl rfl (nb rfl) rfl rfl fun a8o c0b e5w => ?_
 refine l7 V3 ?_
 refine l9 c0b Tryz.sizeOf57 (vs := [(vs r9)]) (cs' := [(vi x0.a8), (vi x0.fOp), (vs t1), (vs r9)]) rfl rfl (nb rfl) rfl rfl fun A6 a4U c2V => ?_
 refine d6 (ldA Tryz.isAgg59 Tryz.sizeOf59 rfl (a4U.at1 (o := 0) (vs := [(vi x0.a8), (vi x0.fOp), (vs t1), (vs r9)]) (nb rfl) rfl)) ?_
 refine l9 (a4U.bring 1) Tryz.sizeOf59 (vs := [(vi x0.a8), (vi x0.fOp), (vs t1), (vs r9)]) (cs' := [(vi x0.a8), (vi x0.fOp), (vs t1), (vs r9)]) rfl rfl (nb rfl) rfl rfl fun b0u a7b d6r => ?_
 refine J0 Tryz.isAgg59 Tryz.sizeOf59 rfl (a7b.at1 (o := 0) (vs := [(vi x0.a8), (vi x0.fOp), (vs t1), (vs r9)]) (nb rfl) rfl) ?_
 exact hR (b9.mk x0.a8 x0.fOp t1 r9) a1m _ a7b.drop.drop h
theorem b5w (x0 : b9) {H : Hp} {K : b9 → Hp → Prop} (h : a3m x0 H K) : a5r x0 H K := by
 intro w I
 refine g6w ?_
 refine b4k x0 I (fun r0 H' w' I' hk => ⟨H', _, I', r0, rfl, rfl, hk⟩) h
def B8 (D9 : (List b9)) (H : Hp) (K : Sl → Hp → Prop) : Prop :=
 ∀ (q8 : Sl) (K1 : Hp), Hle H K1 → SlH K1 4 d5 q8 D9 → q8.n ≤ q8.c →
 K q8 K1
def B9 (U6 : Sl) (T4 : Int) (m3 : (List b9)) (m6 : Int) (H : Hp) (n2 : ((List b9) × Int) → Hp → Prop) (K : Sl → Hp → Prop) : Prop :=
 (m6 < T4 →
 (0 : Int) ≤ m6 ∧ (m6 : Int) < U6.n ∧ ∃ x_1 : b9, EltH H U6 m6 4 (d5 x_1) ∧
 a5r x_1 H (fun (E0 : b9) (Q2 : Hp) =>
 (m3.length + ([E0] : List b9).length) * 65 ≤ 140737488355328 ∧
 n2 ((m3 ++ [E0]), (IntKind.wrap .i64 (m6 + 1))) Q2)) ∧
 (¬ (m6 < T4) →
 B8 m3 H K)
def E3 (x0 : Sl) (H : Hp) (K : Sl → Hp → Prop) : Prop :=
 TL (([], 0) : (List b9) × Int) H fun (s : (List b9) × Int) H n2 => B9 x0 (x0.n : Int) s.1 s.2 H n2 K
theorem a1t (x0 : Sl) {K : Sl → Hp → Prop} (I : Inv w0 ps0 H0 H [] w) (hR : ∀ (r0 : Sl) (H' : Hp) (w' : World) (_ : Inv w0 ps0 H0 H' [] w') (_ : K r0 H'), R (vs r0) w') (h : E3 x0 H K) : F82 (vs x0) (fC 83) w R E := by
 unfold E3 at h
 unfold F82
 have hj1 : ∀ (D9 : (List b9)) (q8 : Sl) (Fs5j1 : Frag) (H : Hp) (w : World) (_ : RowL 59 4 d5 q8 D9 Fs5j1) (_ : Inv w0 ps0 H0 H [Fs5j1] w) (_ : B8 D9 H K), d2j (vs q8) w R E := by
  intro D9 q8 Fs5j1 H w a4i I h
  unfold d2j
  intro _
  unfold B8 at h
  obtain ⟨K1, a3A, a6y, a1l, a3B⟩ := Inv.freezeC I a4i (by decide)
  replace h := h q8 K1 a6y a1l a3B
  exact hR q8 K1 _ a3A h
 refine v8 fun j1 hx1 => ?_
 refine a7 (a7o _ _ _) ?_
 obtain ⟨Y6, N9, a7A, a7B⟩ := h
 refine L6 (J := fun n l w => ∃ (s : (List b9) × Int) (H : Hp) (A7 : Sl) (Fs5l2 : Frag) , n = N9 s ∧ l = (match s with | (m3, m6) => [(vs A7), (vi m6)]) ∧ (match s with | (m3, m6) => RowL 59 4 d5 A7 m3 Fs5l2) ∧ (match s with | (m3, m6) => Inv w0 ps0 H0 H [Fs5l2] w) ∧ Y6 s H) ⟨_, ([], 0), H, (Sl.mk none 0 0), [], rfl, rfl, (RowL.nil a8z a8A), I.nil, a7A⟩ ?_
 rintro b9q τ_50 w next2 ⟨⟨m3, m6⟩, H, A7, Fs5l2, rfl, X2, P3, I, a7C⟩ hn2
 dsimp only at X2 I P3
 simp only [List.map_cons, List.map_nil, List.cons.injEq, and_true] at X2
 obtain ⟨e5, e10⟩ := X2
 simp only [e5, e10]
 obtain ⟨n2, hm2, h⟩ : ∃ n2 : ((List b9) × Int) → Hp → Prop, (∀ s' H', n2 s' H' → Y6 s' H' ∧ N9 s' < N9 (m3, m6)) ∧ B9 x0 (x0.n : Int) m3 m6 H n2 K := ⟨_, fun _ _ h => h, a7B (m3, m6) H (fun s' H' => Y6 s' H' ∧ N9 s' < N9 (m3, m6)) a7C (fun _ _ a b => ⟨a, b⟩)⟩
 unfold e1F
 unfold B9 at h
 refine a7 (C2 _ _ _ _ _ _) ?_
 refine i8 (fun V4 => ?_) (fun V4 => ?_)
 ·replace h := h.1 V4
  obtain ⟨h_4, h_5, x_1, h_7, h⟩ := h
  obtain ⟨g_2, o_3, h_6, h_7⟩ := h_7
  refine a7 (a1B h_6 _ _ _ _ h_4 h_5) ?_
  refine d6 (ldA (vs := (d5 x_1)) Tryz.isAgg59 Tryz.sizeOf59 rfl (I.atH h_7)) ?_
  refine u1 I Tryz.zeroValue59 (cs := [(vi 0), (vi 0), (nS), (nS)]) rfl fun g_9 o7 a0R a9D => ?_
  refine l9 a0R Tryz.sizeOf59 (vs := (d5 x_1)) (cs' := (d5 x_1)) rfl rfl (nb rfl) rfl rfl fun Z2 P0 a3P => ?_
  refine d6 (ldA Tryz.isAgg59 Tryz.sizeOf59 rfl (P0.at1 (o := 0) (vs := (d5 x_1)) (nb rfl) rfl)) ?_
  refine d8 (cap := []) (fun args w => Tryz.call83 args w) ?_
  refine m4 (Fi := []) (Fr := [bx g_9 59 (d5 x_1), Fs5l2]) P0 (h) (fun b6V Q2 b4V a0q a2F b6W b6X a6z => ?_) (fun _ _ _ _ _ q => q.elim)
  obtain ⟨E0, rfl, rfl, h⟩ := a6z
  refine a0m (e := 59) (c := d5) (xs := [E0]) a2F (d4k _ _ _ _ _ _ _ _) rfl rfl a8z a8A (nb rfl) fun b1y a9E C4 a4D V5 a7D => ?_
  obtain ⟨a6A, h⟩ := h
  refine d9B (s := A7) (xs := m3) (V5.bring 2) P3 (a4D.srcO ((V5.bring 2).bring 1)) a6A fun a4j a6B A6 a3Q a3C b2U => ?_
  refine a7 (J8 _ _ _ _ _ _) ?_
  exact hn2 _ _ _ (hm2 _ _ h).2 ⟨((m3 ++ [E0]), (IntKind.wrap .i64 (m6 + 1))), Q2, a4j, a6B, rfl, rfl, a3Q, ((a3C.bring 1).drop.bring 1).drop, (hm2 _ _ h).1⟩
 ·replace h := h.2 V4
  exact hx1 _ _ (hj1 m3 A7 Fs5l2 H _ P3 I h)
theorem a1U (x0 : Sl) {H : Hp} {K : Sl → Hp → Prop} (h : E3 x0 H K) : D7 x0 H K := by
 intro w I
 refine g6t ?_
 refine a1t x0 I (fun r0 H' w' I' hk => ⟨H', _, I', r0, rfl, rfl, hk⟩) h
def a3o (x0 : d7) (H : Hp) (K : d7 → Hp → Prop) : Prop :=
 y9 x0.f2 H (fun (t1 : Sl) (a1P : Hp) =>
 D7 x0.j7 a1P (fun (r9 : Sl) (a1m : Hp) =>
 z6 x0.E5 a1m (fun (b0V : Sl) (K1 : Hp) =>
 z6 x0.B5 K1 (fun (b2j : Sl) (e5X : Hp) =>
 K (d7.mk x0.a8 x0.b8 t1 r9 b0V b2j) e5X))))
theorem b4l (x0 : d7) {K : d7 → Hp → Prop} (I : Inv w0 ps0 H0 H [] w) (hR : ∀ (r0 : d7) (H' : Hp) (w' : World) (_ : Inv w0 ps0 H0 H' [] w') (_ : K r0 H'), R (Value.agg (g7 r0).toArray) w') (h : a3o x0 H K) : F46 (Value.agg (g7 x0).toArray) w R E := by
 unfold a3o at h
 unfold F46
 refine M4 I (cs := (g7 x0)) rfl fun g_2 w_3 I_4 k_5 => ?_
 refine u1 I_4 Tryz.zeroValue73 (cs := [(vi 0), (eS), (nS), (nS), (nS), (nS)]) rfl fun g_7 w_8 I_9 a9J => ?_
 refine V0 I_9 fun R7 D8 => ?_
 refine l7 a6i ?_
 refine l7 a6h ?_
 refine t6 (ld1 Tryz.isAgg51 ((D8.bring 1).at1 (o := 2) (vs := [(vs x0.f2)]) (nb rfl) rfl)) ?_
 refine t6 (ld1 Tryz.isAgg57 ((D8.bring 1).at1 (o := 3) (vs := [(vs x0.j7)]) (nb rfl) rfl)) ?_
 refine d8 (cap := []) (fun args w => Tryz.call80 args w) ?_
 refine m4 (Fi := []) (Fr := [bx g_7 73 [(vi 0), (eS), (nS), (nS), (nS), (nS)], bx g_2 73 (g7 x0)]) D8 (h) (fun g5K a1P g5L o8 b3a g5M b6Z d1S => ?_) (fun _ _ _ _ _ q => q.elim)
 obtain ⟨t1, rfl, rfl, h⟩ := d1S
 refine ⟨(b6Z _ (D8.bring 1).lt1 (Inv.a3r (Fi := []) (D8.bring 1))), ?_⟩
 refine l7 a6i ?_
 refine d8 (cap := []) (fun args w => Tryz.call82 args w) ?_
 refine m4 (Fi := []) (Fr := [bx g_7 73 [(vi 0), (eS), (nS), (nS), (nS), (nS)], bx g_2 73 (g7 x0)]) b3a (h) (fun e3W a1m a9E a0y a4m e3X c6e c2m => ?_) (fun _ _ _ _ _ q => q.elim)
 obtain ⟨r9, rfl, rfl, h⟩ := c2m
 refine l9 (a4m.bring 1) Tryz.sizeOf51 (vs := [(vs t1)]) (cs' := [(vi x0.a8), (Value.string x0.b8), (vs t1), (vs x0.j7), (vs x0.E5), (vs x0.B5)]) rfl rfl (nb rfl) rfl rfl fun a8o c0b e5w => ?_
 refine l7 a6h ?_
 refine l9 c0b Tryz.sizeOf57 (vs := [(vs r9)]) (cs' := [(vi x0.a8), (Value.string x0.b8), (vs t1), (vs r9), (vs x0.E5), (vs x0.B5)]) rfl rfl (nb rfl) rfl rfl fun A6 a4U c2V => ?_
 refine V0 a4U fun b0u a7b => ?_
 refine l7 a2V ?_
 refine l7 a3Z ?_
 refine t6 (ld1 Tryz.isAgg23 (a7b.at1 (o := 4) (vs := [(vs x0.E5)]) (nb rfl) rfl)) ?_
 refine t6 (ld1 Tryz.isAgg23 (a7b.at1 (o := 5) (vs := [(vs x0.B5)]) (nb rfl) rfl)) ?_
 refine d8 (cap := []) (fun args w => Tryz.call45 args w) ?_
 refine m4 (Fi := []) (Fr := [bx g_2 73 [(vi x0.a8), (Value.string x0.b8), (vs t1), (vs r9), (vs x0.E5), (vs x0.B5)], bx g_7 73 [(vi 0), (eS), (nS), (nS), (nS), (nS)]]) a7b (h) (fun i4K K1 h9j H9 b9x i4L d6p h9u => ?_) (fun _ _ _ _ _ q => q.elim)
 obtain ⟨b0V, rfl, rfl, h⟩ := h9u
 refine ⟨(d6p _ a7b.lt1 (Inv.a3r (Fi := []) a7b)), ?_⟩
 refine l7 a2V ?_
 refine d8 (cap := []) (fun args w => Tryz.call45 args w) ?_
 refine m4 (Fi := []) (Fr := [bx g_2 73 [(vi x0.a8), (Value.string x0.b8), (vs t1), (vs r9), (vs x0.E5), (vs x0.B5)], bx g_7 73 [(vi 0), (eS), (nS), (nS), (nS), (nS)]]) b9x (h) (fun i4M e5X i4N b0f d7S g2A h8J h9v => ?_) (fun _ _ _ _ _ q => q.elim)
 obtain ⟨b2j, rfl, rfl, h⟩ := h9v
 refine l9 d7S Tryz.sizeOf23 (vs := [(vs b0V)]) (cs' := [(vi x0.a8), (Value.string x0.b8), (vs t1), (vs r9), (vs b0V), (vs x0.B5)]) rfl rfl (nb rfl) rfl rfl fun b3o b0v b9C => ?_
 refine l7 a3Z ?_
 refine l9 b0v Tryz.sizeOf23 (vs := [(vs b2j)]) (cs' := [(vi x0.a8), (Value.string x0.b8), (vs t1), (vs r9), (vs b0V), (vs b2j)]) rfl rfl (nb rfl) rfl rfl fun R8 c2Y d8n => ?_
 refine d6 (ldA Tryz.isAgg73 Tryz.sizeOf73 rfl (c2Y.at1 (o := 0) (vs := [(vi x0.a8), (Value.string x0.b8), (vs t1), (vs r9), (vs b0V), (vs b2j)]) (nb rfl) rfl)) ?_
 refine l9 (c2Y.bring 1) Tryz.sizeOf73 (vs := [(vi x0.a8), (Value.string x0.b8), (vs t1), (vs r9), (vs b0V), (vs b2j)]) (cs' := [(vi x0.a8), (Value.string x0.b8), (vs t1), (vs r9), (vs b0V), (vs b2j)]) rfl rfl (nb rfl) rfl rfl fun b3D b7U e5C => ?_
 refine J0 Tryz.isAgg73 Tryz.sizeOf73 rfl (b7U.at1 (o := 0) (vs := [(vi x0.a8), (Value.string x0.b8), (vs t1), (vs r9), (vs b0V), (vs b2j)]) (nb rfl) rfl) ?_
 exact hR (d7.mk x0.a8 x0.b8 t1 r9 b0V b2j) e5X _ b7U.drop.drop h
theorem b5x (x0 : d7) {H : Hp} {K : d7 → Hp → Prop} (h : a3o x0 H K) : a5s x0 H K := by
 intro w I
 refine g6n ?_
 refine b4l x0 I (fun r0 H' w' I' hk => ⟨H', _, I', r0, rfl, rfl, hk⟩) h
def C0 (D9 : (List d7)) (H : Hp) (K : Sl → Hp → Prop) : Prop :=
 ∀ (q8 : Sl) (K1 : Hp), Hle H K1 → SlH K1 6 g7 q8 D9 → q8.n ≤ q8.c →
 K q8 K1
def C1 (U6 : Sl) (T4 : Int) (m3 : (List d7)) (m6 : Int) (H : Hp) (n2 : ((List d7) × Int) → Hp → Prop) (K : Sl → Hp → Prop) : Prop :=
 (m6 < T4 →
 (0 : Int) ≤ m6 ∧ (m6 : Int) < U6.n ∧ ∃ x_1 : d7, EltH H U6 m6 6 (g7 x_1) ∧
 a5s x_1 H (fun (E0 : d7) (Q2 : Hp) =>
 (m3.length + ([E0] : List d7).length) * 121 ≤ 140737488355328 ∧
 n2 ((m3 ++ [E0]), (IntKind.wrap .i64 (m6 + 1))) Q2)) ∧
 (¬ (m6 < T4) →
 C0 m3 H K)
def E4 (x0 : Sl) (H : Hp) (K : Sl → Hp → Prop) : Prop :=
 TL (([], 0) : (List d7) × Int) H fun (s : (List d7) × Int) H n2 => C1 x0 (x0.n : Int) s.1 s.2 H n2 K
theorem a1u (x0 : Sl) {K : Sl → Hp → Prop} (I : Inv w0 ps0 H0 H [] w) (hR : ∀ (r0 : Sl) (H' : Hp) (w' : World) (_ : Inv w0 ps0 H0 H' [] w') (_ : K r0 H'), R (vs r0) w') (h : E4 x0 H K) : F45 (vs x0) (fC 46) w R E := by
 unfold E4 at h
 unfold F45
 have hj1 : ∀ (D9 : (List d7)) (q8 : Sl) (Fs5j1 : Frag) (H : Hp) (w : World) (_ : RowL 73 6 g7 q8 D9 Fs5j1) (_ : Inv w0 ps0 H0 H [Fs5j1] w) (_ : C0 D9 H K), d2f (vs q8) w R E := by
  intro D9 q8 Fs5j1 H w a4i I h
  unfold d2f
  intro _
  unfold C0 at h
  obtain ⟨K1, a3A, a6y, a1l, a3B⟩ := Inv.freezeC I a4i (by decide)
  replace h := h q8 K1 a6y a1l a3B
  exact hR q8 K1 _ a3A h
 refine v8 fun j1 hx1 => ?_
 refine a7 (a6c _ _ _) ?_
 obtain ⟨Y6, N9, a7A, a7B⟩ := h
 refine L6 (J := fun n l w => ∃ (s : (List d7) × Int) (H : Hp) (A7 : Sl) (Fs5l2 : Frag) , n = N9 s ∧ l = (match s with | (m3, m6) => [(vs A7), (vi m6)]) ∧ (match s with | (m3, m6) => RowL 73 6 g7 A7 m3 Fs5l2) ∧ (match s with | (m3, m6) => Inv w0 ps0 H0 H [Fs5l2] w) ∧ Y6 s H) ⟨_, ([], 0), H, (Sl.mk none 0 0), [], rfl, rfl, (RowL.nil V8 a0F), I.nil, a7A⟩ ?_
 rintro b9q τ_50 w next2 ⟨⟨m3, m6⟩, H, A7, Fs5l2, rfl, X2, P3, I, a7C⟩ hn2
 dsimp only at X2 I P3
 simp only [List.map_cons, List.map_nil, List.cons.injEq, and_true] at X2
 obtain ⟨e5, e10⟩ := X2
 simp only [e5, e10]
 obtain ⟨n2, hm2, h⟩ : ∃ n2 : ((List d7) × Int) → Hp → Prop, (∀ s' H', n2 s' H' → Y6 s' H' ∧ N9 s' < N9 (m3, m6)) ∧ C1 x0 (x0.n : Int) m3 m6 H n2 K := ⟨_, fun _ _ h => h, a7B (m3, m6) H (fun s' H' => Y6 s' H' ∧ N9 s' < N9 (m3, m6)) a7C (fun _ _ a b => ⟨a, b⟩)⟩
 unfold e1D
 unfold C1 at h
 refine a7 (C2 _ _ _ _ _ _) ?_
 refine i8 (fun V4 => ?_) (fun V4 => ?_)
 ·replace h := h.1 V4
  obtain ⟨h_4, h_5, x_1, h_7, h⟩ := h
  obtain ⟨g_2, o_3, h_6, h_7⟩ := h_7
  refine a7 (b2F h_6 _ _ _ _ h_4 h_5) ?_
  refine d6 (ldA (vs := (g7 x_1)) Tryz.isAgg73 Tryz.sizeOf73 rfl (I.atH h_7)) ?_
  refine u1 I Tryz.zeroValue73 (cs := [(vi 0), (eS), (nS), (nS), (nS), (nS)]) rfl fun g_9 o7 a0R a9D => ?_
  refine l9 a0R Tryz.sizeOf73 (vs := (g7 x_1)) (cs' := (g7 x_1)) rfl rfl (nb rfl) rfl rfl fun Z2 P0 a3P => ?_
  refine d6 (ldA Tryz.isAgg73 Tryz.sizeOf73 rfl (P0.at1 (o := 0) (vs := (g7 x_1)) (nb rfl) rfl)) ?_
  refine d8 (cap := []) (fun args w => Tryz.call46 args w) ?_
  refine m4 (Fi := []) (Fr := [bx g_9 73 (g7 x_1), Fs5l2]) P0 (h) (fun b6V Q2 b4V a0q a2F b6W b6X a6z => ?_) (fun _ _ _ _ _ q => q.elim)
  obtain ⟨E0, rfl, rfl, h⟩ := a6z
  refine a0m (e := 73) (c := g7) (xs := [E0]) a2F (b5D _ _ _ _ _ _ _ _ _ _ _ _ _ _) rfl rfl V8 a0F (nb rfl) fun b1y a9E C4 a4D V5 a7D => ?_
  obtain ⟨a6A, h⟩ := h
  refine b2G (s := A7) (xs := m3) (V5.bring 2) P3 (a4D.srcO ((V5.bring 2).bring 1)) a6A fun a4j a6B A6 a3Q a3C b2U => ?_
  refine a7 (J8 _ _ _ _ _ _) ?_
  exact hn2 _ _ _ (hm2 _ _ h).2 ⟨((m3 ++ [E0]), (IntKind.wrap .i64 (m6 + 1))), Q2, a4j, a6B, rfl, rfl, a3Q, ((a3C.bring 1).drop.bring 1).drop, (hm2 _ _ h).1⟩
 ·replace h := h.2 V4
  exact hx1 _ _ (hj1 m3 A7 Fs5l2 H _ P3 I h)
theorem a1V (x0 : Sl) {H : Hp} {K : Sl → Hp → Prop} (h : E4 x0 H K) : z6 x0 H K := by
 intro w I
 refine g6h ?_
 refine a1u x0 I (fun r0 H' w' I' hk => ⟨H', _, I', r0, rfl, rfl, hk⟩) h
def a5k (x0 : o9) (H : Hp) (K : o9 → Int → Hp → Prop) : Prop :=
 a2w x0 H (fun (m7 : Int) (T8 : Hp) =>
 (¬ (m7 = 0) →
 K (o9.mk (Sl.mk none 0 0) (Sl.mk none 0 0)) m7 T8) ∧
 (m7 = 0 →
 Q7 x0.a3s T8 (fun (a8E : Sl) (c2t : Hp) =>
 z6 x0.a5w c2t (fun (a8F : Sl) (b9D : Hp) =>
 K (o9.mk a8E a8F) 0 b9D))))
theorem b8w (x0 : o9) {K : o9 → Int → Hp → Prop} (I : Inv w0 ps0 H0 H [] w) (hR : ∀ (r0 : o9) (r1 : Int) (H' : Hp) (w' : World) (_ : Inv w0 ps0 H0 H' [] w') (_ : K r0 r1 H'), R (Value.tuple #[(Value.agg (m9 r0).toArray), (vi r1)]) w') (h : a5k x0 H K) : F25 (Value.agg (m9 x0).toArray) w R E := by
 unfold a5k at h
 unfold F25
 refine M4 I (cs := (m9 x0)) rfl fun g_2 w_3 I_4 k_5 => ?_
 refine u1 I_4 Tryz.zeroValue25 (cs := [(nS), (nS)]) rfl fun g_7 w_8 I_9 a9J => ?_
 refine d6 (ldA Tryz.isAgg25 Tryz.sizeOf25 rfl ((I_9.bring 1).at1 (o := 0) (vs := (m9 x0)) (nb rfl) rfl)) ?_
 refine d8 (cap := []) (fun args w => Tryz.call24 args w) ?_
 refine m4 (Fi := []) (Fr := [bx g_7 25 [(nS), (nS)], bx g_2 25 (m9 x0)]) I_9 (h) (fun b7Q T8 b9Z p7 a2f b5m b5p b0B => ?_) (fun _ _ _ _ _ q => q.elim)
 obtain ⟨m7, rfl, rfl, h⟩ := b0B
 refine a7 (T0 _ _ _ _ _ _) ?_
 refine a2C (fun e5Y => ?_) (fun e5Y => ?_)
 ·replace h := h.1 e5Y
  refine a7 (b8I ) ?_
  refine l9 a2f Tryz.sizeOf25 (vs := [(nS), (nS)]) (cs' := [(nS), (nS)]) rfl rfl (nb rfl) rfl rfl fun t7 a0B b6T => ?_
  refine J0 Tryz.isAgg25 Tryz.sizeOf25 rfl (a0B.at1 (o := 0) (vs := [(nS), (nS)]) (nb rfl) rfl) ?_
  exact hR (o9.mk (Sl.mk none 0 0) (Sl.mk none 0 0)) m7 T8 _ a0B.drop.drop h
 ·replace h := h.2 e5Y
  refine V0 a2f fun a0y a4m => ?_
  refine l7 a7O ?_
  refine l7 a9o ?_
  refine t6 (ld1 Tryz.isAgg22 ((a4m.bring 1).at1 (o := 0) (vs := [(vs x0.a3s)]) (nb rfl) rfl)) ?_
  refine t6 (ld1 Tryz.isAgg23 ((a4m.bring 1).at1 (o := 1) (vs := [(vs x0.a5w)]) (nb rfl) rfl)) ?_
  refine d8 (cap := []) (fun args w => Tryz.call44 args w) ?_
  refine m4 (Fi := []) (Fr := [bx g_7 25 [(nS), (nS)], bx g_2 25 (m9 x0)]) a4m (h) (fun h7E c2t h7F y7 a7E h7G d6v e4t => ?_) (fun _ _ _ _ _ q => q.elim)
  obtain ⟨a8E, rfl, rfl, h⟩ := e4t
  refine ⟨(d6v _ (a4m.bring 1).lt1 (Inv.a3r (Fi := []) (a4m.bring 1))), ?_⟩
  refine d8 (cap := []) (fun args w => Tryz.call45 args w) ?_
  refine m4 (Fi := []) (Fr := [bx g_7 25 [(nS), (nS)], bx g_2 25 (m9 x0)]) a7E (h) (fun h7H b9D h7I a7c a3C a6y b2U e4u => ?_) (fun _ _ _ _ _ q => q.elim)
  obtain ⟨a8F, rfl, rfl, h⟩ := e4u
  refine l7 (b8n _ _ _ _ _ _) ?_
  refine l9 a3C Tryz.sizeOf25 (vs := [(vs a8E), (vs a8F)]) (cs' := [(vs a8E), (vs a8F)]) rfl rfl (nb rfl) rfl rfl fun b1w c2U g5J => ?_
  refine J0 Tryz.isAgg25 Tryz.sizeOf25 rfl (c2U.at1 (o := 0) (vs := [(vs a8E), (vs a8F)]) (nb rfl) rfl) ?_
  exact hR (o9.mk a8E a8F) 0 b9D _ c2U.drop.drop h
theorem c0e (x0 : o9) {H : Hp} {K : o9 → Int → Hp → Prop} (h : a5k x0 H K) : a7v x0 H K := by
 intro w I
 refine g6d ?_
 refine b8w x0 I (fun r0 r1 H' w' I' hk => ⟨H', _, I', r0, r1, rfl, rfl, hk⟩) h
end Go.Proofs.YtnhkdkcgdcgmdaaGreatDoor
