/- Typed formulas of the program's functions that few laws need; printed by lift.py off the code. -/
import Derived.Test.YtnhkdkcgdcgmdaaGreatDoorzPV1
import Derived.Test.YtnhkdkcgdcgmdaaGreatDoorzPG1t
namespace Go.Proofs.YtnhkdkcgdcgmdaaGreatDoor
open Go.RowKit
set_option maxRecDepth 100000
set_option maxHeartbeats 2000000
variable {w0 w : World} {ps0 : Nat → Prop} {H0 H : Hp} {R : RT} {E : Pan}
def a1R (x0 : Int) (H : Hp) (K : b6 → Hp → Prop) : Prop :=
 K (b6.mk 1 x0 ⟨#[]⟩ (Sl.mk none 0 0)) H
theorem b2d (x0 : Int) {K : b6 → Hp → Prop} (I : Inv w0 ps0 H0 H [] w) (hR : ∀ (r0 : b6) (H' : Hp) (w' : World) (_ : Inv w0 ps0 H0 H' [] w') (_ : K r0 H'), R (Value.agg (b7 r0).toArray) w') (h : a1R x0 H K) : F22 (vi x0) w R E := by
 unfold a1R at h
 unfold F22
 refine u1 I Tryz.zeroValue53 (cs := [(vi 0), (vi 0), (eS), (nS)]) rfl fun g_2 w_3 I_4 k_5 => ?_
 refine a7 (b1u _ _) ?_
 refine l9 I_4 Tryz.sizeOf53 (vs := [(vi 1), (vi x0), (eS), (nS)]) (cs' := [(vi 1), (vi x0), (eS), (nS)]) rfl rfl (nb rfl) rfl rfl fun w_6 I_7 k_8 => ?_
 refine J0 Tryz.isAgg53 Tryz.sizeOf53 rfl (I_7.at1 (o := 0) (vs := [(vi 1), (vi x0), (eS), (nS)]) (nb rfl) rfl) ?_
 exact hR (b6.mk 1 x0 ⟨#[]⟩ (Sl.mk none 0 0)) H _ I_7.drop h
theorem b3F (x0 : Int) {H : Hp} {K : b6 → Hp → Prop} (h : a1R x0 H K) : T5 x0 H K := by
 intro w I
 refine g2S ?_
 refine b2d x0 I (fun r0 H' w' I' hk => ⟨H', _, I', r0, rfl, rfl, hk⟩) h
def X4 (x0 : b6) (H : Hp) (K : Int → Bool → Hp → Prop) : Prop :=
 (x0.a8 = 1 →
 K x0.o2 true H) ∧
 (¬ (x0.a8 = 1) →
 ∃ x_6 : b6, ((decide (x0.a8 = 5)) = true → (0 : Int) ≤ 0 ∧ (0 : Int) < x0.o0.n ∧ EltH H x0.o0 0 4 (b7 x_6)) ∧
 (((decide (x0.a8 = 5)) && (decide (x_6.a8 = 1))) = true →
 (0 : Int) ≤ 0 ∧ (0 : Int) < x0.o0.n ∧ ∃ a4T : b6, EltH H x0.o0 0 4 (b7 a4T) ∧
 K (IntKind.wrap .i64 (0 - a4T.o2)) true H) ∧
 (((decide (x0.a8 = 5)) && (decide (x_6.a8 = 1))) = false →
 K 0 false H))
theorem b1G (x0 : b6) {K : Int → Bool → Hp → Prop} (I : Inv w0 ps0 H0 H [] w) (hR : ∀ (r0 : Int) (r1 : Bool) (H' : Hp) (w' : World) (_ : Inv w0 ps0 H0 H' [] w') (_ : K r0 r1 H'), R (Value.tuple #[(vi r0), (vB r1)]) w') (h : X4 x0 H K) : F67 (Value.agg (b7 x0).toArray) w R E := by
 unfold X4 at h
 unfold F67
 refine M4 I (cs := (b7 x0)) rfl fun g_2 w_3 I_4 k_5 => ?_
 refine a7 Q4 ?_
 refine d6 (ld1 Tryz.isAgg3 (I_4.at1 (o := 0) (vs := [(vi x0.a8)]) (nb rfl) rfl)) ?_
 refine a7 (m5 _ _ _ _ _ _) ?_
 refine i8 (fun a8N => ?_) (fun a8N => ?_)
 ·replace h := h.1 a8N
  refine a7 a6g ?_
  refine d6 (ld1 Tryz.isAgg2 (I_4.at1 (o := 1) (vs := [(vi x0.o2)]) (nb rfl) rfl)) ?_
  exact hR x0.o2 true H _ I_4.drop h
 ·replace h := h.2 a8N
  refine a7 Q4 ?_
  refine d6 (ld1 Tryz.isAgg3 (I_4.at1 (o := 0) (vs := [(vi x0.a8)]) (nb rfl) rfl)) ?_
  refine a7 (m5 _ _ _ _ _ _) ?_
  refine a7 (Pu.g fun hb => by have i5 := hb; exact K4) ?_
  refine d6 (Ld.g fun hb => by have i5 := hb; simp only [r8 i5]; exact (ld1 Tryz.isAgg51 (I_4.at1 (o := 3) (vs := [(vs x0.o0)]) (nb rfl) rfl))) ?_
  obtain ⟨x_6, a9b, h⟩ := h
  obtain ⟨g_7, o_8, a9b⟩ := c3y a9b
  refine a7 (Pu.g fun hb => by have i5 := hb; simp only [r8 i5]; exact (M1 (a9b hb).2.2.1 _ _ _ _ (a9b hb).1 (a9b hb).2.1)) ?_
  refine a7 (Pu.g fun hb => by have i5 := hb; simp only [r8 i5]; exact Q4) ?_
  refine d6 (Ld.g fun hb => by have i5 := hb; simp only [r8 i5]; exact (ld1 (v := (vi x_6.a8)) Tryz.isAgg3 ((I_4.atH (a9b hb).2.2.2).sub (k := 0) (n := 1) (nb rfl)))) ?_
  refine a7 (Pu.g fun hb => by have i5 := hb; simp only [r8 i5]; exact (m5 _ _ _ _ _ _)) ?_
  refine a7 (P7 _ _) ?_
  refine s6 (fun a6C => ?_) (fun a6C => ?_)
  ·replace h := h.1 a6C
   refine a7 K4 ?_
   refine d6 (ld1 Tryz.isAgg51 (I_4.at1 (o := 3) (vs := [(vs x0.o0)]) (nb rfl) rfl)) ?_
   obtain ⟨a8S, b7n, a4T, a7I, h⟩ := h
   obtain ⟨g5v, g5w, c2R, a7I⟩ := a7I
   refine a7 (M1 c2R _ _ _ _ a8S b7n) ?_
   refine a7 a6g ?_
   refine d6 (ld1 (v := (vi a4T.o2)) Tryz.isAgg2 ((I_4.atH a7I).sub (k := 1) (n := 1) (nb rfl))) ?_
   refine a7 (c3w _ _) ?_
   exact hR (IntKind.wrap .i64 (0 - a4T.o2)) true H _ I_4.drop h
  ·replace h := h.2 a6C
   exact hR 0 false H _ I_4.drop h
theorem b2e (x0 : b6) {H : Hp} {K : Int → Bool → Hp → Prop} (h : X4 x0 H K) : P5 x0 H K := by
 intro w I
 refine g4n ?_
 refine b1G x0 I (fun r0 r1 H' w' I' hk => ⟨H', _, I', r0, r1, rfl, rfl, hk⟩) h
def a4K (x0 : b6) (x1 : Int) (H : Hp) (K : Bool → Hp → Prop) : Prop :=
 P5 x0 H (fun (W4 : Int) (b2b : Bool) (H_6 : Hp) =>
 K (b2b && (decide (W4 = x1))) H_6)
theorem b7J (x0 : b6) (x1 : Int) {K : Bool → Hp → Prop} (I : Inv w0 ps0 H0 H [] w) (hR : ∀ (r0 : Bool) (H' : Hp) (w' : World) (_ : Inv w0 ps0 H0 H' [] w') (_ : K r0 H'), R (vB r0) w') (h : a4K x0 x1 H K) : F70 (Value.agg (b7 x0).toArray) (vi x1) w R E := by
 unfold a4K at h
 unfold F70
 refine M4 I (cs := (b7 x0)) rfl fun g_2 w_3 I_4 k_5 => ?_
 refine d6 (ldA Tryz.isAgg53 Tryz.sizeOf53 rfl (I_4.at1 (o := 0) (vs := (b7 x0)) (nb rfl) rfl)) ?_
 refine d8 (cap := []) (fun args w => Tryz.call67 args w) ?_
 refine m4 (Fi := []) (Fr := [bx g_2 53 (b7 x0)]) I_4 (h) (fun c5Y H_6 c5Z w_7 I_8 c6a k_9 b0g => ?_) (fun _ _ _ _ _ q => q.elim)
 obtain ⟨W4, b2b, rfl, rfl, h⟩ := b0g
 refine a7 (m2 _ _ (vi W4) rfl) ?_
 refine a7 (m2 _ _ (vB b2b) rfl) ?_
 simp only [Q0]
 refine a7 (Pu.g fun hb => by have i5 := hb; simp only [r8 i5]; exact (m5 _ _ _ _ _ _)) ?_
 refine a7 (P7 _ _) ?_
 exact hR (b2b && (decide (W4 = x1))) H_6 _ I_8.drop h
theorem b8v (x0 : b6) (x1 : Int) {H : Hp} {K : Bool → Hp → Prop} (h : a4K x0 x1 H K) : X1 x0 x1 H K := by
 intro w I
 refine g5e ?_
 refine b7J x0 x1 I (fun r0 H' w' I' hk => ⟨H', _, I', r0, rfl, rfl, hk⟩) h
def A8 (D9 : (List b6)) (H : Hp) (K : Sl → Hp → Prop) : Prop :=
 ∀ (q8 : Sl) (K1 : Hp), Hle H K1 → SlH K1 4 b7 q8 D9 → q8.n ≤ q8.c →
 K q8 K1
def A9 (U6 : Sl) (T4 : Int) (m3 : (List b6)) (m6 : Int) (H : Hp) (n2 : ((List b6) × Int) → Hp → Prop) (K : Sl → Hp → Prop) : Prop :=
 (m6 < T4 →
 (0 : Int) ≤ m6 ∧ (m6 : Int) < U6.n ∧ ∃ x_1 : b6, EltH H U6 m6 4 (b7 x_1) ∧
 a3E x_1 H (fun (E0 : b6) (Q2 : Hp) =>
 (m3.length + ([E0] : List b6).length) * 57 ≤ 140737488355328 ∧
 n2 ((m3 ++ [E0]), (IntKind.wrap .i64 (m6 + 1))) Q2)) ∧
 (¬ (m6 < T4) →
 A8 m3 H K)
def D4 (x0 : Sl) (H : Hp) (K : Sl → Hp → Prop) : Prop :=
 TL (([], 0) : (List b6) × Int) H fun (s : (List b6) × Int) H n2 => A9 x0 (x0.n : Int) s.1 s.2 H n2 K
theorem a1o (x0 : Sl) {K : Sl → Hp → Prop} (I : Inv w0 ps0 H0 H [] w) (hR : ∀ (r0 : Sl) (H' : Hp) (w' : World) (_ : Inv w0 ps0 H0 H' [] w') (_ : K r0 H'), R (vs r0) w') (h : D4 x0 H K) : F66 (vs x0) (fC 40) w R E := by
 unfold D4 at h
 unfold F66
 have hj1 : ∀ (D9 : (List b6)) (q8 : Sl) (Fs5j1 : Frag) (H : Hp) (w : World) (_ : RowL 53 4 b7 q8 D9 Fs5j1) (_ : Inv w0 ps0 H0 H [Fs5j1] w) (_ : A8 D9 H K), d1E (vs q8) w R E := by
  intro D9 q8 Fs5j1 H w a4i I h
  unfold d1E
  intro _
  unfold A8 at h
  obtain ⟨K1, a3A, a6y, a1l, a3B⟩ := Inv.freezeC I a4i (by decide)
  replace h := h q8 K1 a6y a1l a3B
  exact hR q8 K1 _ a3A h
 refine v8 fun j1 hx1 => ?_
 refine a7 (a1Z _ _ _) ?_
 obtain ⟨Y6, N9, a7A, a7B⟩ := h
 refine L6 (J := fun n l w => ∃ (s : (List b6) × Int) (H : Hp) (A7 : Sl) (Fs5l2 : Frag) , n = N9 s ∧ l = (match s with | (m3, m6) => [(vs A7), (vi m6)]) ∧ (match s with | (m3, m6) => RowL 53 4 b7 A7 m3 Fs5l2) ∧ (match s with | (m3, m6) => Inv w0 ps0 H0 H [Fs5l2] w) ∧ Y6 s H) ⟨_, ([], 0), H, (Sl.mk none 0 0), [], rfl, rfl, (RowL.nil a1X a1Y), I.nil, a7A⟩ ?_
 rintro b9q τ_50 w next2 ⟨⟨m3, m6⟩, H, A7, Fs5l2, rfl, X2, P3, I, a7C⟩ hn2
 dsimp only at X2 I P3
 simp only [List.map_cons, List.map_nil, List.cons.injEq, and_true] at X2
 obtain ⟨e5, e10⟩ := X2
 simp only [e5, e10]
 obtain ⟨n2, hm2, h⟩ : ∃ n2 : ((List b6) × Int) → Hp → Prop, (∀ s' H', n2 s' H' → Y6 s' H' ∧ N9 s' < N9 (m3, m6)) ∧ A9 x0 (x0.n : Int) m3 m6 H n2 K := ⟨_, fun _ _ h => h, a7B (m3, m6) H (fun s' H' => Y6 s' H' ∧ N9 s' < N9 (m3, m6)) a7C (fun _ _ a b => ⟨a, b⟩)⟩
 unfold e1b
 unfold A9 at h
 refine a7 (C2 _ _ _ _ _ _) ?_
 refine i8 (fun V4 => ?_) (fun V4 => ?_)
 ·replace h := h.1 V4
  obtain ⟨h_4, h_5, x_1, h_7, h⟩ := h
  obtain ⟨g_2, o_3, h_6, h_7⟩ := h_7
  refine a7 (M1 h_6 _ _ _ _ h_4 h_5) ?_
  refine d6 (ldA (vs := (b7 x_1)) Tryz.isAgg53 Tryz.sizeOf53 rfl (I.atH h_7)) ?_
  refine u1 I Tryz.zeroValue53 (cs := [(vi 0), (vi 0), (eS), (nS)]) rfl fun g_9 o7 a0R a9D => ?_
  refine l9 a0R Tryz.sizeOf53 (vs := (b7 x_1)) (cs' := (b7 x_1)) rfl rfl (nb rfl) rfl rfl fun Z2 P0 a3P => ?_
  refine d6 (ldA Tryz.isAgg53 Tryz.sizeOf53 rfl (P0.at1 (o := 0) (vs := (b7 x_1)) (nb rfl) rfl)) ?_
  refine d8 (cap := []) (fun args w => Tryz.call40 args w) ?_
  refine m4 (Fi := []) (Fr := [bx g_9 53 (b7 x_1), Fs5l2]) P0 (h) (fun b6V Q2 b4V a0q a2F b6W b6X a6z => ?_) (fun _ _ _ _ _ q => q.elim)
  obtain ⟨E0, rfl, rfl, h⟩ := a6z
  refine a0m (e := 53) (c := b7) (xs := [E0]) a2F (c5u _ _ _ _ _ _) rfl rfl a1X a1Y (nb rfl) fun b1y a9E C4 a4D V5 a7D => ?_
  obtain ⟨a6A, h⟩ := h
  refine d9C (s := A7) (xs := m3) (V5.bring 2) P3 (a4D.srcO ((V5.bring 2).bring 1)) a6A fun a4j a6B A6 a3Q a3C b2U => ?_
  refine a7 (J8 _ _ _ _ _ _) ?_
  exact hn2 _ _ _ (hm2 _ _ h).2 ⟨((m3 ++ [E0]), (IntKind.wrap .i64 (m6 + 1))), Q2, a4j, a6B, rfl, rfl, a3Q, ((a3C.bring 1).drop.bring 1).drop, (hm2 _ _ h).1⟩
 ·replace h := h.2 V4
  exact hx1 _ _ (hj1 m3 A7 Fs5l2 H _ P3 I h)
theorem a1q (x0 : Sl) {H : Hp} {K : Sl → Hp → Prop} (h : D4 x0 H K) : D3 x0 H K := by
 intro w I
 refine g4l ?_
 refine a1o x0 I (fun r0 H' w' I' hk => ⟨H', _, I', r0, rfl, rfl, hk⟩) h
def a3k (x0 : Int) (H : Hp) (K : b6 → Hp → Prop) : Prop :=
 (x0 < 0 →
 ∀ (s_7 : Sl) (Q2 : Hp), Hle H Q2 → SlH Q2 4 b7 s_7 [(b6.mk 1 (IntKind.wrap .i64 (0 - x0)) ⟨#[]⟩ (Sl.mk none 0 0))] → s_7.n ≤ s_7.c →
 K (b6.mk 5 0 ⟨#[]⟩ s_7) Q2) ∧
 (¬ (x0 < 0) →
 K (b6.mk 1 x0 ⟨#[]⟩ (Sl.mk none 0 0)) H)
theorem b4f (x0 : Int) {K : b6 → Hp → Prop} (I : Inv w0 ps0 H0 H [] w) (hR : ∀ (r0 : b6) (H' : Hp) (w' : World) (_ : Inv w0 ps0 H0 H' [] w') (_ : K r0 H'), R (Value.agg (b7 r0).toArray) w') (h : a3k x0 H K) : F68 (vi x0) w R E := by
 unfold a3k at h
 unfold F68
 refine u1 I Tryz.zeroValue53 (cs := [(vi 0), (vi 0), (eS), (nS)]) rfl fun g_2 w_3 I_4 k_5 => ?_
 refine a7 (C2 _ _ _ _ _ _) ?_
 refine i8 (fun c2F => ?_) (fun c2F => ?_)
 ·replace h := h.1 c2F
  refine a7 (c3w _ _) ?_
  refine a7 (b1u _ _) ?_
  refine a0m (e := 53) (c := b7) (xs := [(b6.mk 1 (IntKind.wrap .i64 (0 - x0)) ⟨#[]⟩ (Sl.mk none 0 0))]) I_4 (c5u _ _ _ _ _ _) rfl rfl a1X a1Y (nb rfl) fun s_7 F_8 w_9 b3i a0R a9D => ?_
  refine a7 (b1t _ _ _ _) ?_
  refine l9 (a0R.bring 1) Tryz.sizeOf53 (vs := [(vi 5), (vi 0), (eS), (vs s_7)]) (cs' := [(vi 5), (vi 0), (eS), (vs s_7)]) rfl rfl (nb rfl) rfl rfl fun Z2 P0 a3P => ?_
  refine J0 Tryz.isAgg53 Tryz.sizeOf53 rfl (P0.at1 (o := 0) (vs := [(vi 5), (vi 0), (eS), (vs s_7)]) (nb rfl) rfl) ?_
  obtain ⟨Q2, a9K, b5m, a7I, e5j⟩ := Inv.freezeC (P0.bring 1) b3i (by decide)
  replace h := h s_7 Q2 b5m a7I e5j
  exact hR (b6.mk 5 0 ⟨#[]⟩ s_7) Q2 _ a9K.drop h
 ·replace h := h.2 c2F
  refine a7 (b1u _ _) ?_
  refine l9 I_4 Tryz.sizeOf53 (vs := [(vi 1), (vi x0), (eS), (nS)]) (cs' := [(vi 1), (vi x0), (eS), (nS)]) rfl rfl (nb rfl) rfl rfl fun Z3 d6i h7i => ?_
  refine J0 Tryz.isAgg53 Tryz.sizeOf53 rfl (d6i.at1 (o := 0) (vs := [(vi 1), (vi x0), (eS), (nS)]) (nb rfl) rfl) ?_
  exact hR (b6.mk 1 x0 ⟨#[]⟩ (Sl.mk none 0 0)) H _ d6i.drop h
theorem b5n (x0 : Int) {H : Hp} {K : b6 → Hp → Prop} (h : a3k x0 H K) : a3f x0 H K := by
 intro w I
 refine g4p ?_
 refine b4f x0 I (fun r0 H' w' I' hk => ⟨H', _, I', r0, rfl, rfl, hk⟩) h
def C5 (b9X : Int) (b7K : Int) (b3j : a4w) (a0U : b6) (H : Hp) (K : Int → Bool → Hp → Prop) : Prop :=
 K b9X ((decide (b7K = 0)) && (!decide (b9X = (-9223372036854775808)))) H
def Z7 (o4 : a4w) (y6 : b6) (H : Hp) (K : Int → Bool → Hp → Prop) : Prop :=
 (y6.a8 = 5 →
 (0 : Int) ≤ 0 ∧ (0 : Int) < 2 ∧
 a6r (([o4.f0, o4.f1] : List Int).getD (0 : Int).toNat 0) H (fun (N7 : Int) (a9Q : Int) (a4E : Hp) =>
 C5 N7 a9Q o4 y6 a4E K)) ∧
 (¬ (y6.a8 = 5) →
 (y6.a8 = 6 →
 (0 : Int) ≤ 0 ∧ (0 : Int) < 2 ∧
 (0 : Int) ≤ 1 ∧ (1 : Int) < 2 ∧
 a6s (([o4.f0, o4.f1] : List Int).getD (0 : Int).toNat 0) (([o4.f0, o4.f1] : List Int).getD (1 : Int).toNat 0) H (fun (b4v : Int) (c7K : Int) (c2s : Hp) =>
 C5 b4v c7K o4 y6 c2s K)) ∧
 (¬ (y6.a8 = 6) →
 (y6.a8 = 7 →
 (0 : Int) ≤ 0 ∧ (0 : Int) < 2 ∧
 (0 : Int) ≤ 1 ∧ (1 : Int) < 2 ∧
 a4A (([o4.f0, o4.f1] : List Int).getD (0 : Int).toNat 0) (([o4.f0, o4.f1] : List Int).getD (1 : Int).toNat 0) H (fun (a4f : Int) (c7L : Int) (a8L : Hp) =>
 C5 a4f c7L o4 y6 a8L K)) ∧
 (¬ (y6.a8 = 7) →
 (y6.a8 = 8 →
 (0 : Int) ≤ 0 ∧ (0 : Int) < 2 ∧
 (0 : Int) ≤ 1 ∧ (1 : Int) < 2 ∧
 a6t (([o4.f0, o4.f1] : List Int).getD (0 : Int).toNat 0) (([o4.f0, o4.f1] : List Int).getD (1 : Int).toNat 0) H (fun (c7M : Int) (c7N : Int) (e5k : Hp) =>
 C5 c7M c7N o4 y6 e5k K)) ∧
 (¬ (y6.a8 = 8) →
 (y6.a8 = 9 →
 (0 : Int) ≤ 0 ∧ (0 : Int) < 2 ∧
 (0 : Int) ≤ 1 ∧ (1 : Int) < 2 ∧
 a6u (([o4.f0, o4.f1] : List Int).getD (0 : Int).toNat 0) (([o4.f0, o4.f1] : List Int).getD (1 : Int).toNat 0) H (fun (c4H : Int) (c4I : Int) (e5l : Hp) =>
 C5 c4H c4I o4 y6 e5l K)) ∧
 (¬ (y6.a8 = 9) →
 (y6.a8 = 10 →
 (0 : Int) ≤ 0 ∧ (0 : Int) < 2 ∧
 (0 : Int) ≤ 1 ∧ (1 : Int) < 2 ∧
 a6v (([o4.f0, o4.f1] : List Int).getD (0 : Int).toNat 0) (([o4.f0, o4.f1] : List Int).getD (1 : Int).toNat 0) H (fun (c4J : Int) (c4K : Int) (d7k : Hp) =>
 C5 c4J c4K o4 y6 d7k K)) ∧
 (¬ (y6.a8 = 10) →
 C5 0 2 o4 y6 H K))))))
def Z8 (e8k : Sl) (e8l : Int) (a9R : b6) (a1S : Int) (Y7 : a4w) (H : Hp) (n3 : (Int × a4w) → Hp → Prop) (K : Int → Bool → Hp → Prop) : Prop :=
 (a1S < e8l →
 (0 : Int) ≤ a1S ∧ (a1S : Int) < e8k.n ∧ ∃ b4y : b6, EltH H e8k a1S 4 (b7 b4y) ∧
 P5 b4y H (fun (a9S : Int) (c4L : Bool) (c4M : Hp) =>
 ((!c4L) = true →
 K 0 false c4M) ∧
 ((!c4L) = false →
 (0 : Int) ≤ a1S ∧ (a1S : Int) < 2 ∧
 n3 ((IntKind.wrap .i64 (a1S + 1)), (a4w.mk (if a1S = 0 then a9S else Y7.f0) (if a1S = 1 then a9S else Y7.f1))) c4M))) ∧
 (¬ (a1S < e8l) →
 Z7 Y7 a9R H K)
def a1e (x0 : b6) (H : Hp) (K : Int → Bool → Hp → Prop) : Prop :=
 TL ((0, (a4w.mk 0 0)) : Int × a4w) H fun (s : Int × a4w) H n3 => Z8 x0.o0 (x0.o0.n : Int) x0 s.1 s.2 H n3 K
theorem b1H (x0 : b6) {K : Int → Bool → Hp → Prop} (I : Inv w0 ps0 H0 H [] w) (hR : ∀ (r0 : Int) (r1 : Bool) (H' : Hp) (w' : World) (_ : Inv w0 ps0 H0 H' [] w') (_ : K r0 r1 H'), R (Value.tuple #[(vi r0), (vB r1)]) w') (h : a1e x0 H K) : F69 (Value.agg (b7 x0).toArray) w R E := by
 unfold a1e at h
 unfold F69
 refine M4 I (cs := (b7 x0)) rfl fun g_2 w_3 I_4 k_5 => ?_
 refine u1 I_4 Tryz.zeroValue173 (cs := [(vi 0), (vi 0)]) rfl fun g_7 w_8 I_9 a9J => ?_
 have hj1 : ∀ (o4 : a4w) (H : Hp) (w : World) (_ : Inv w0 ps0 H0 H [bx g_7 173 [(vi o4.f0), (vi o4.f1)], bx g_2 53 (b7 x0)] w) (_ : Z7 o4 x0 H K), d1L (Value.pointer (some ⟨g_2, 0, none⟩)) (Value.pointer (some ⟨g_7, 0, none⟩)) w R E := by
  intro o4 H w I h
  unfold d1L
  intro _
  unfold Z7 at h
  have hj2 : ∀ (b9X : Int) (b7K : Int) (H : Hp) (w : World) (_ : Inv w0 ps0 H0 H [bx g_7 173 [(vi o4.f0), (vi o4.f1)], bx g_2 53 (b7 x0)] w) (_ : C5 b9X b7K o4 x0 H K), d1K (vi b9X) (vi b7K) w R E := by
   intro b9X b7K H w I h
   unfold d1K
   intro _
   unfold C5 at h
   refine a7 (m5 _ _ _ _ _ _) ?_
   simp only [Q0]
   refine a7 (Pu.g fun hb => by have i5 := hb; simp only [r8 i5]; exact (T0 _ _ _ _ _ _)) ?_
   refine a7 (P7 _ _) ?_
   exact hR b9X ((decide (b7K = 0)) && (!decide (b9X = (-9223372036854775808)))) H _ I.drop.drop h
  refine v8 fun j2 hx2 => ?_
  refine a7 Q4 ?_
  refine d6 (ld1 Tryz.isAgg3 ((I.bring 1).at1 (o := 0) (vs := [(vi x0.a8)]) (nb rfl) rfl)) ?_
  refine a7 (m5 _ _ _ _ _ _) ?_
  refine i8 (fun d7l => ?_) (fun d7l => ?_)
  ·replace h := h.1 d7l
   obtain ⟨b7L, a1l, h⟩ := h
   refine a7 (a0G _ _ b7L a1l) ?_
   refine d6 (ld1 (v := (vi (([o4.f0, o4.f1] : List Int).getD (0 : Int).toNat 0))) Tryz.isAgg2 (Inv.b2D (n := 2) (k := .i64) (l := [o4.f0, o4.f1]) I rfl rfl b7L a1l)) ?_
   refine d8 (cap := []) (fun args w => Tryz.call112 args w) ?_
   refine m4 (Fi := []) (Fr := [bx g_7 173 [(vi o4.f0), (vi o4.f1)], bx g_2 53 (b7 x0)]) I (h) (fun e3Z a4E e4a K6 b5b e4b e4c c2o => ?_) (fun _ _ _ _ _ q => q.elim)
   obtain ⟨N7, a9Q, rfl, rfl, h⟩ := c2o
   refine a7 (m2 _ _ (vi N7) rfl) ?_
   refine a7 (m2 _ _ (vi a9Q) rfl) ?_
   exact hx2 _ _ (hj2 N7 a9Q a4E _ ((b5b.bring 1).bring 1) h)
  ·replace h := h.2 d7l
   refine a7 (m5 _ _ _ _ _ _) ?_
   refine i8 (fun b7M => ?_) (fun b7M => ?_)
   ·replace h := h.1 b7M
    obtain ⟨b4X, d6l, h⟩ := h
    refine a7 (a0G _ _ b4X d6l) ?_
    refine d6 (ld1 (v := (vi (([o4.f0, o4.f1] : List Int).getD (0 : Int).toNat 0))) Tryz.isAgg2 (Inv.b2D (n := 2) (k := .i64) (l := [o4.f0, o4.f1]) I rfl rfl b4X d6l)) ?_
    obtain ⟨b9u, c6h, h⟩ := h
    refine a7 (a0G _ _ b9u c6h) ?_
    refine d6 (ld1 (v := (vi (([o4.f0, o4.f1] : List Int).getD (1 : Int).toNat 0))) Tryz.isAgg2 (Inv.b2D (n := 2) (k := .i64) (l := [o4.f0, o4.f1]) I rfl rfl b9u c6h)) ?_
    refine d8 (cap := []) (fun args w => Tryz.call113 args w) ?_
    refine m4 (Fi := []) (Fr := [bx g_7 173 [(vi o4.f0), (vi o4.f1)], bx g_2 53 (b7 x0)]) I (h) (fun h7B c2s h7C b3o b0v h7D b9C e4l => ?_) (fun _ _ _ _ _ q => q.elim)
    obtain ⟨b4v, c7K, rfl, rfl, h⟩ := e4l
    refine a7 (m2 _ _ (vi b4v) rfl) ?_
    refine a7 (m2 _ _ (vi c7K) rfl) ?_
    exact hx2 _ _ (hj2 b4v c7K c2s _ ((b0v.bring 1).bring 1) h)
   ·replace h := h.2 b7M
    refine a7 (m5 _ _ _ _ _ _) ?_
    refine i8 (fun b7N => ?_) (fun b7N => ?_)
    ·replace h := h.1 b7N
     obtain ⟨d6q, d7m, h⟩ := h
     refine a7 (a0G _ _ d6q d7m) ?_
     refine d6 (ld1 (v := (vi (([o4.f0, o4.f1] : List Int).getD (0 : Int).toNat 0))) Tryz.isAgg2 (Inv.b2D (n := 2) (k := .i64) (l := [o4.f0, o4.f1]) I rfl rfl d6q d7m)) ?_
     obtain ⟨d7n, c6n, h⟩ := h
     refine a7 (a0G _ _ d7n c6n) ?_
     refine d6 (ld1 (v := (vi (([o4.f0, o4.f1] : List Int).getD (1 : Int).toNat 0))) Tryz.isAgg2 (Inv.b2D (n := 2) (k := .i64) (l := [o4.f0, o4.f1]) I rfl rfl d7n c6n)) ?_
     refine d8 (cap := []) (fun args w => Tryz.call114 args w) ?_
     refine m4 (Fi := []) (Fr := [bx g_7 173 [(vi o4.f0), (vi o4.f1)], bx g_2 53 (b7 x0)]) I (h) (fun c5W a8L e3J S3 b2S e3K d6f c2d => ?_) (fun _ _ _ _ _ q => q.elim)
     obtain ⟨a4f, c7L, rfl, rfl, h⟩ := c2d
     refine a7 (m2 _ _ (vi a4f) rfl) ?_
     refine a7 (m2 _ _ (vi c7L) rfl) ?_
     exact hx2 _ _ (hj2 a4f c7L a8L _ ((b2S.bring 1).bring 1) h)
    ·replace h := h.2 b7N
     refine a7 (m5 _ _ _ _ _ _) ?_
     refine i8 (fun d7o => ?_) (fun d7o => ?_)
     ·replace h := h.1 d7o
      obtain ⟨g5x, g5y, h⟩ := h
      refine a7 (a0G _ _ g5x g5y) ?_
      refine d6 (ld1 (v := (vi (([o4.f0, o4.f1] : List Int).getD (0 : Int).toNat 0))) Tryz.isAgg2 (Inv.b2D (n := 2) (k := .i64) (l := [o4.f0, o4.f1]) I rfl rfl g5x g5y)) ?_
      obtain ⟨g5z, g5A, h⟩ := h
      refine a7 (a0G _ _ g5z g5A) ?_
      refine d6 (ld1 (v := (vi (([o4.f0, o4.f1] : List Int).getD (1 : Int).toNat 0))) Tryz.isAgg2 (Inv.b2D (n := 2) (k := .i64) (l := [o4.f0, o4.f1]) I rfl rfl g5z g5A)) ?_
      refine d8 (cap := []) (fun args w => Tryz.call115 args w) ?_
      refine m4 (Fi := []) (Fr := [bx g_7 173 [(vi o4.f0), (vi o4.f1)], bx g_2 53 (b7 x0)]) I (h) (fun i3W e5k i3X b7F h8p d7p i3Y h8q => ?_) (fun _ _ _ _ _ q => q.elim)
      obtain ⟨c7M, c7N, rfl, rfl, h⟩ := h8q
      refine a7 (m2 _ _ (vi c7M) rfl) ?_
      refine a7 (m2 _ _ (vi c7N) rfl) ?_
      exact hx2 _ _ (hj2 c7M c7N e5k _ ((h8p.bring 1).bring 1) h)
     ·replace h := h.2 d7o
      refine a7 (m5 _ _ _ _ _ _) ?_
      refine i8 (fun d7q => ?_) (fun d7q => ?_)
      ·replace h := h.1 d7q
       obtain ⟨g5B, g5C, h⟩ := h
       refine a7 (a0G _ _ g5B g5C) ?_
       refine d6 (ld1 (v := (vi (([o4.f0, o4.f1] : List Int).getD (0 : Int).toNat 0))) Tryz.isAgg2 (Inv.b2D (n := 2) (k := .i64) (l := [o4.f0, o4.f1]) I rfl rfl g5B g5C)) ?_
       obtain ⟨g5D, d7r, h⟩ := h
       refine a7 (a0G _ _ g5D d7r) ?_
       refine d6 (ld1 (v := (vi (([o4.f0, o4.f1] : List Int).getD (1 : Int).toNat 0))) Tryz.isAgg2 (Inv.b2D (n := 2) (k := .i64) (l := [o4.f0, o4.f1]) I rfl rfl g5D d7r)) ?_
       refine d8 (cap := []) (fun args w => Tryz.call116 args w) ?_
       refine m4 (Fi := []) (Fr := [bx g_7 173 [(vi o4.f0), (vi o4.f1)], bx g_2 53 (b7 x0)]) I (h) (fun i3Z e5l i0r a5R h8r i0s i4a h3g => ?_) (fun _ _ _ _ _ q => q.elim)
       obtain ⟨c4H, c4I, rfl, rfl, h⟩ := h3g
       refine a7 (m2 _ _ (vi c4H) rfl) ?_
       refine a7 (m2 _ _ (vi c4I) rfl) ?_
       exact hx2 _ _ (hj2 c4H c4I e5l _ ((h8r.bring 1).bring 1) h)
      ·replace h := h.2 d7q
       refine a7 (m5 _ _ _ _ _ _) ?_
       refine i8 (fun d7s => ?_) (fun d7s => ?_)
       ·replace h := h.1 d7s
        obtain ⟨e8m, e8n, h⟩ := h
        refine a7 (a0G _ _ e8m e8n) ?_
        refine d6 (ld1 (v := (vi (([o4.f0, o4.f1] : List Int).getD (0 : Int).toNat 0))) Tryz.isAgg2 (Inv.b2D (n := 2) (k := .i64) (l := [o4.f0, o4.f1]) I rfl rfl e8m e8n)) ?_
        obtain ⟨c7O, e8o, h⟩ := h
        refine a7 (a0G _ _ c7O e8o) ?_
        refine d6 (ld1 (v := (vi (([o4.f0, o4.f1] : List Int).getD (1 : Int).toNat 0))) Tryz.isAgg2 (Inv.b2D (n := 2) (k := .i64) (l := [o4.f0, o4.f1]) I rfl rfl c7O e8o)) ?_
        refine d8 (cap := []) (fun args w => Tryz.call117 args w) ?_
        refine m4 (Fi := []) (Fr := [bx g_7 173 [(vi o4.f0), (vi o4.f1)], bx g_2 53 (b7 x0)]) I (h) (fun i0t d7k i0u c0Z h3h i0v i0w h3i => ?_) (fun _ _ _ _ _ q => q.elim)
        obtain ⟨c4J, c4K, rfl, rfl, h⟩ := h3i
        refine a7 (m2 _ _ (vi c4J) rfl) ?_
        refine a7 (m2 _ _ (vi c4K) rfl) ?_
        exact hx2 _ _ (hj2 c4J c4K d7k _ ((h3h.bring 1).bring 1) h)
       ·replace h := h.2 d7s
        exact hx2 _ _ (hj2 0 2 H _ ((I.bring 1).bring 1) h)
 refine v8 fun j1 hx1 => ?_
 refine a7 K4 ?_
 refine d6 (ld1 Tryz.isAgg51 ((I_9.bring 1).at1 (o := 3) (vs := [(vs x0.o0)]) (nb rfl) rfl)) ?_
 refine a7 (a1Z _ _ _) ?_
 obtain ⟨d7t, c4N, h3j, h3k⟩ := h
 refine L6 (J := fun n l w => ∃ (s : Int × a4w) (H : Hp) , n = c4N s ∧ l = (match s with | (a1S, Y7) => [(vi a1S)]) ∧ (match s with | (a1S, Y7) => Inv w0 ps0 H0 H [bx g_7 173 [(vi Y7.f0), (vi Y7.f1)], bx g_2 53 (b7 x0)] w) ∧ d7t s H) ⟨_, (0, (a4w.mk 0 0)), H, rfl, rfl, ((I_9.bring 1).bring 1), h3j⟩ ?_
 rintro i0x τ_168 w next3 ⟨⟨a1S, Y7⟩, H, rfl, d7u, I, h3l⟩ hn3
 dsimp only at d7u I
 simp only [List.map_cons, List.map_nil, List.cons.injEq, and_true] at d7u
 have e14 := d7u
 simp only [e14]
 obtain ⟨n3, hm3, h⟩ : ∃ n3 : (Int × a4w) → Hp → Prop, (∀ s' H', n3 s' H' → d7t s' H' ∧ c4N s' < c4N (a1S, Y7)) ∧ Z8 x0.o0 (x0.o0.n : Int) x0 a1S Y7 H n3 K := ⟨_, fun _ _ h => h, h3k (a1S, Y7) H (fun s' H' => d7t s' H' ∧ c4N s' < c4N (a1S, Y7)) h3l (fun _ _ a b => ⟨a, b⟩)⟩
 unfold e1h
 unfold Z8 at h
 refine a7 (C2 _ _ _ _ _ _) ?_
 refine i8 (fun d7v => ?_) (fun d7v => ?_)
 ·replace h := h.1 d7v
  obtain ⟨h3m, h3n, b4y, d7w, h⟩ := h
  obtain ⟨i0y, i0z, d7x, d7w⟩ := d7w
  refine a7 (M1 d7x _ _ _ _ h3m h3n) ?_
  refine d6 (ldA (vs := (b7 b4y)) Tryz.isAgg53 Tryz.sizeOf53 rfl (I.atH d7w)) ?_
  refine u1 I Tryz.zeroValue53 (cs := [(vi 0), (vi 0), (eS), (nS)]) rfl fun h3o e8p h3p i0A => ?_
  refine l9 h3p Tryz.sizeOf53 (vs := (b7 b4y)) (cs' := (b7 b4y)) rfl rfl (nb rfl) rfl rfl fun b1W e8q i0B => ?_
  refine d6 (ldA Tryz.isAgg53 Tryz.sizeOf53 rfl (e8q.at1 (o := 0) (vs := (b7 b4y)) (nb rfl) rfl)) ?_
  refine d8 (cap := []) (fun args w => Tryz.call67 args w) ?_
  refine m4 (Fi := []) (Fr := [bx h3o 53 (b7 b4y), bx g_7 173 [(vi Y7.f0), (vi Y7.f1)], bx g_2 53 (b7 x0)]) e8q (h) (fun i0C c4M i0D b6Q e8r i0E i0F h3q => ?_) (fun _ _ _ _ _ q => q.elim)
  obtain ⟨a9S, c4L, rfl, rfl, h⟩ := h3q
  refine a7 (m2 _ _ (vi a9S) rfl) ?_
  refine a7 (m2 _ _ (vB c4L) rfl) ?_
  refine a7 (a0S _) ?_
  refine s6 (fun d7y => ?_) (fun d7y => ?_)
  ·replace h := h.1 d7y
   exact hR 0 false c4M _ e8r.drop.drop.drop h
  ·replace h := h.2 d7y
   obtain ⟨c7P, c7Q, h⟩ := h
   refine a7 (a0G _ _ c7P c7Q) ?_
   refine l9 (e8r.bring 1) Tryz.sizeOf2 (vs := [(vi a9S)]) (cs' := [(vi (if a1S = 0 then a9S else Y7.f0)), (vi (if a1S = 1 then a9S else Y7.f1))]) rfl rfl (by simp only [List.length_cons, List.length_nil]; omega) rfl (e3v c7P c7Q) fun b6R h3r i0G => ?_
   refine a7 (J8 _ _ _ _ _ _) ?_
   exact hn3 _ _ _ (hm3 _ _ h).2 ⟨((IntKind.wrap .i64 (a1S + 1)), (a4w.mk (if a1S = 0 then a9S else Y7.f0) (if a1S = 1 then a9S else Y7.f1))), c4M, rfl, rfl, (((h3r.bring 1).drop.bring 1).bring 1), (hm3 _ _ h).1⟩
 ·replace h := h.2 d7v
  exact hx1 _ _ (hj1 Y7 H _ ((I.bring 1).bring 1) h)
theorem b2f (x0 : b6) {H : Hp} {K : Int → Bool → Hp → Prop} (h : a1e x0 H K) : a4e x0 H K := by
 intro w I
 refine g5b ?_
 refine b1H x0 I (fun r0 r1 H' w' I' hk => ⟨H', _, I', r0, r1, rfl, rfl, hk⟩) h
def T6 (y6 : b6) (o4 : b6) (H : Hp) (K : b6 → Hp → Prop) : Prop :=
 K y6 H
def Y8 (h8s : Int) (a0l : b6) (g5E : b6) (H : Hp) (K : b6 → Hp → Prop) : Prop :=
 (0 : Int) ≤ 1 ∧ (1 : Int) < a0l.o0.n ∧ ∃ d7z : b6, EltH H a0l.o0 1 4 (b7 d7z) ∧
 X1 d7z h8s H (fun (d1P : Bool) (c6o : Hp) =>
 (d1P = true →
 (0 : Int) ≤ 0 ∧ (0 : Int) < a0l.o0.n ∧ ∃ a6L : b6, EltH c6o a0l.o0 0 4 (b7 a6L) ∧
 K a6L c6o) ∧
 (d1P = false →
 T6 a0l g5E c6o K))
def T7 (a0U : b6) (b3j : b6) (H : Hp) (K : b6 → Hp → Prop) : Prop :=
 (0 : Int) ≤ 1 ∧ (1 : Int) < a0U.o0.n ∧ ∃ c7R : b6, EltH H a0U.o0 1 4 (b7 c7R) ∧
 X1 c7R 1 H (fun (d1Q : Bool) (c1a : Hp) =>
 (d1Q = true →
 (0 : Int) ≤ 0 ∧ (0 : Int) < a0U.o0.n ∧ ∃ b4z : b6, EltH c1a a0U.o0 0 4 (b7 b4z) ∧
 K b4z c1a) ∧
 (d1Q = false →
 T6 a0U b3j c1a K))
def a3H (x0 : b6) (H : Hp) (K : b6 → Hp → Prop) : Prop :=
 D3 x0.o0 H (fun (m7 : Sl) (T8 : Hp) =>
 P5 (b6.mk x0.a8 x0.o2 x0.b8 m7) T8 (fun (a3i : Int) (c7S : Bool) (a5u : Hp) =>
 (c7S = true →
 a3f a3i a5u (fun (a5j : b6) (a7a : Hp) =>
 K a5j a7a)) ∧
 (c7S = false →
 a4e (b6.mk x0.a8 x0.o2 x0.b8 m7) a5u (fun (b7O : Int) (b2g : Bool) (a8p : Hp) =>
 (b2g = true →
 a3f b7O a8p (fun (b0T : b6) (b7P : Hp) =>
 K b0T b7P)) ∧
 (b2g = false →
 (x0.a8 = 6 →
 (0 : Int) ≤ 0 ∧ (0 : Int) < m7.n ∧ ∃ d7A : b6, EltH a8p m7 0 4 (b7 d7A) ∧
 X1 d7A 0 a8p (fun (a7i : Bool) (a4R : Hp) =>
 (a7i = true →
 (0 : Int) ≤ 1 ∧ (1 : Int) < m7.n ∧ ∃ b9Y : b6, EltH a4R m7 1 4 (b7 b9Y) ∧
 K b9Y a4R) ∧
 (a7i = false →
 Y8 0 (b6.mk x0.a8 x0.o2 x0.b8 m7) (b6.mk 0 0 ⟨#[]⟩ (Sl.mk none 0 0)) a4R K))) ∧
 (¬ (x0.a8 = 6) →
 (x0.a8 = 7 →
 Y8 0 (b6.mk x0.a8 x0.o2 x0.b8 m7) (b6.mk 0 0 ⟨#[]⟩ (Sl.mk none 0 0)) a8p K) ∧
 (¬ (x0.a8 = 7) →
 (x0.a8 = 8 →
 (0 : Int) ≤ 0 ∧ (0 : Int) < m7.n ∧ ∃ c7T : b6, EltH a8p m7 0 4 (b7 c7T) ∧
 X1 c7T 1 a8p (fun (b1m : Bool) (c1b : Hp) =>
 ∃ c7U : b6, (b1m = true → (0 : Int) ≤ 1 ∧ (1 : Int) < m7.n ∧ EltH c1b m7 1 4 (b7 c7U)) ∧
 TG (b1m = true) (X1 c7U 1 c1b) false c1b (fun (a9T : Bool) (a7j : Hp) =>
 ((b1m && (!a9T)) = true →
 (0 : Int) ≤ 1 ∧ (1 : Int) < m7.n ∧ ∃ a9U : b6, EltH a7j m7 1 4 (b7 a9U) ∧
 K a9U a7j) ∧
 ((b1m && (!a9T)) = false →
 T7 (b6.mk x0.a8 x0.o2 x0.b8 m7) (b6.mk 0 0 ⟨#[]⟩ (Sl.mk none 0 0)) a7j K)))) ∧
 (¬ (x0.a8 = 8) →
 (x0.a8 = 9 →
 T7 (b6.mk x0.a8 x0.o2 x0.b8 m7) (b6.mk 0 0 ⟨#[]⟩ (Sl.mk none 0 0)) a8p K) ∧
 (¬ (x0.a8 = 9) →
 T6 (b6.mk x0.a8 x0.o2 x0.b8 m7) (b6.mk 0 0 ⟨#[]⟩ (Sl.mk none 0 0)) a8p K)))))))))
theorem b5o (x0 : b6) {K : b6 → Hp → Prop} (I : Inv w0 ps0 H0 H [] w) (hR : ∀ (r0 : b6) (H' : Hp) (w' : World) (_ : Inv w0 ps0 H0 H' [] w') (_ : K r0 H'), R (Value.agg (b7 r0).toArray) w') (h : a3H x0 H K) : F40 (Value.agg (b7 x0).toArray) w R E := by
 unfold a3H at h
 unfold F40
 refine M4 I (cs := (b7 x0)) rfl fun g_2 w_3 I_4 k_5 => ?_
 refine u1 I_4 Tryz.zeroValue53 (cs := [(vi 0), (vi 0), (eS), (nS)]) rfl fun g_7 w_8 I_9 a9J => ?_
 refine a7 K4 ?_
 refine d6 (ld1 Tryz.isAgg51 ((I_9.bring 1).at1 (o := 3) (vs := [(vs x0.o0)]) (nb rfl) rfl)) ?_
 refine d8 (cap := []) (fun args w => Tryz.call66 args w) ?_
 refine m4 (Fi := []) (Fr := [bx g_7 53 [(vi 0), (vi 0), (eS), (nS)], bx g_2 53 (b7 x0)]) I_9 (h) (fun b7Q T8 b9Z p7 a2f b5m b5p b0B => ?_) (fun _ _ _ _ _ q => q.elim)
 obtain ⟨m7, rfl, rfl, h⟩ := b0B
 refine a7 K4 ?_
 refine l9 (a2f.bring 1) Tryz.sizeOf51 (vs := [(vs m7)]) (cs' := [(vi x0.a8), (vi x0.o2), (Value.string x0.b8), (vs m7)]) rfl rfl (nb rfl) rfl rfl fun t7 a0B b6T => ?_
 refine d6 (ldA Tryz.isAgg53 Tryz.sizeOf53 rfl (a0B.at1 (o := 0) (vs := [(vi x0.a8), (vi x0.o2), (Value.string x0.b8), (vs m7)]) (nb rfl) rfl)) ?_
 refine d8 (cap := []) (fun args w => Tryz.call67 args w) ?_
 refine m4 (Fi := []) (Fr := [bx g_2 53 [(vi x0.a8), (vi x0.o2), (Value.string x0.b8), (vs m7)], bx g_7 53 [(vi 0), (vi 0), (eS), (nS)]]) a0B (h) (fun e4g a5u d0d v6 a5Z e4h d6j c2q => ?_) (fun _ _ _ _ _ q => q.elim)
 obtain ⟨a3i, c7S, rfl, rfl, h⟩ := c2q
 refine a7 (m2 _ _ (vi a3i) rfl) ?_
 refine a7 (m2 _ _ (vB c7S) rfl) ?_
 refine s6 (fun d7B => ?_) (fun d7B => ?_)
 ·replace h := h.1 d7B
  refine d8 (cap := []) (fun args w => Tryz.call68 args w) ?_
  refine m4 (Fi := []) (Fr := [bx g_2 53 [(vi x0.a8), (vi x0.o2), (Value.string x0.b8), (vs m7)], bx g_7 53 [(vi 0), (vi 0), (eS), (nS)]]) a5Z (h) (fun h8t a7a h8u a7H c2e h8v h8w e5m => ?_) (fun _ _ _ _ _ q => q.elim)
  obtain ⟨a5j, rfl, rfl, h⟩ := e5m
  refine l9 (c2e.bring 1) Tryz.sizeOf53 (vs := (b7 a5j)) (cs' := (b7 a5j)) rfl rfl (nb rfl) rfl rfl fun b2O g5F i4b => ?_
  refine J0 Tryz.isAgg53 Tryz.sizeOf53 rfl (g5F.at1 (o := 0) (vs := (b7 a5j)) (nb rfl) rfl) ?_
  exact hR a5j a7a _ g5F.drop.drop h
 ·replace h := h.2 d7B
  refine d6 (ldA Tryz.isAgg53 Tryz.sizeOf53 rfl (a5Z.at1 (o := 0) (vs := [(vi x0.a8), (vi x0.o2), (Value.string x0.b8), (vs m7)]) (nb rfl) rfl)) ?_
  refine d8 (cap := []) (fun args w => Tryz.call69 args w) ?_
  refine m4 (Fi := []) (Fr := [bx g_2 53 [(vi x0.a8), (vi x0.o2), (Value.string x0.b8), (vs m7)], bx g_7 53 [(vi 0), (vi 0), (eS), (nS)]]) a5Z (h) (fun h8x a8p h8y a8H a9c X2 h8z e5n => ?_) (fun _ _ _ _ _ q => q.elim)
  obtain ⟨b7O, b2g, rfl, rfl, h⟩ := e5n
  refine a7 (m2 _ _ (vi b7O) rfl) ?_
  refine a7 (m2 _ _ (vB b2g) rfl) ?_
  refine s6 (fun d7C => ?_) (fun d7C => ?_)
  ·replace h := h.1 d7C
   refine d8 (cap := []) (fun args w => Tryz.call68 args w) ?_
   refine m4 (Fi := []) (Fr := [bx g_2 53 [(vi x0.a8), (vi x0.o2), (Value.string x0.b8), (vs m7)], bx g_7 53 [(vi 0), (vi 0), (eS), (nS)]]) a9c (h) (fun h8A b7P h8B O0 c6p h8C g5G e5o => ?_) (fun _ _ _ _ _ q => q.elim)
   obtain ⟨b0T, rfl, rfl, h⟩ := e5o
   refine l9 (c6p.bring 1) Tryz.sizeOf53 (vs := (b7 b0T)) (cs' := (b7 b0T)) rfl rfl (nb rfl) rfl rfl fun Q1 b9z c6f => ?_
   refine J0 Tryz.isAgg53 Tryz.sizeOf53 rfl (b9z.at1 (o := 0) (vs := (b7 b0T)) (nb rfl) rfl) ?_
   exact hR b0T b7P _ b9z.drop.drop h
  ·replace h := h.2 d7C
   have hj1 : ∀ (H : Hp) (w : World) (_ : Inv w0 ps0 H0 H [bx g_2 53 [(vi (b6.mk x0.a8 x0.o2 x0.b8 m7).a8), (vi (b6.mk x0.a8 x0.o2 x0.b8 m7).o2), (Value.string (b6.mk x0.a8 x0.o2 x0.b8 m7).b8), (Value.slice (b6.mk x0.a8 x0.o2 x0.b8 m7).o0.a (b6.mk x0.a8 x0.o2 x0.b8 m7).o0.n (b6.mk x0.a8 x0.o2 x0.b8 m7).o0.c)], bx g_7 53 [(vi (b6.mk 0 0 ⟨#[]⟩ (Sl.mk none 0 0)).a8), (vi (b6.mk 0 0 ⟨#[]⟩ (Sl.mk none 0 0)).o2), (Value.string (b6.mk 0 0 ⟨#[]⟩ (Sl.mk none 0 0)).b8), (Value.slice (b6.mk 0 0 ⟨#[]⟩ (Sl.mk none 0 0)).o0.a (b6.mk 0 0 ⟨#[]⟩ (Sl.mk none 0 0)).o0.n (b6.mk 0 0 ⟨#[]⟩ (Sl.mk none 0 0)).o0.c)]] w) (_ : T6 (b6.mk x0.a8 x0.o2 x0.b8 m7) (b6.mk 0 0 ⟨#[]⟩ (Sl.mk none 0 0)) H K), d1q (Value.pointer (some ⟨g_2, 0, none⟩)) (Value.pointer (some ⟨g_7, 0, none⟩)) w R E := by
    intro H w I h
    unfold d1q
    intro _
    unfold T6 at h
    refine d6 (ldA Tryz.isAgg53 Tryz.sizeOf53 rfl (I.at1 (o := 0) (vs := [(vi (b6.mk x0.a8 x0.o2 x0.b8 m7).a8), (vi (b6.mk x0.a8 x0.o2 x0.b8 m7).o2), (Value.string (b6.mk x0.a8 x0.o2 x0.b8 m7).b8), (Value.slice (b6.mk x0.a8 x0.o2 x0.b8 m7).o0.a (b6.mk x0.a8 x0.o2 x0.b8 m7).o0.n (b6.mk x0.a8 x0.o2 x0.b8 m7).o0.c)]) (nb rfl) rfl)) ?_
    refine l9 (I.bring 1) Tryz.sizeOf53 (vs := [(vi (b6.mk x0.a8 x0.o2 x0.b8 m7).a8), (vi (b6.mk x0.a8 x0.o2 x0.b8 m7).o2), (Value.string (b6.mk x0.a8 x0.o2 x0.b8 m7).b8), (Value.slice (b6.mk x0.a8 x0.o2 x0.b8 m7).o0.a (b6.mk x0.a8 x0.o2 x0.b8 m7).o0.n (b6.mk x0.a8 x0.o2 x0.b8 m7).o0.c)]) (cs' := [(vi (b6.mk x0.a8 x0.o2 x0.b8 m7).a8), (vi (b6.mk x0.a8 x0.o2 x0.b8 m7).o2), (Value.string (b6.mk x0.a8 x0.o2 x0.b8 m7).b8), (Value.slice (b6.mk x0.a8 x0.o2 x0.b8 m7).o0.a (b6.mk x0.a8 x0.o2 x0.b8 m7).o0.n (b6.mk x0.a8 x0.o2 x0.b8 m7).o0.c)]) rfl rfl (nb rfl) rfl rfl fun d7h c4O h3s => ?_
    refine J0 Tryz.isAgg53 Tryz.sizeOf53 rfl (c4O.at1 (o := 0) (vs := [(vi (b6.mk x0.a8 x0.o2 x0.b8 m7).a8), (vi (b6.mk x0.a8 x0.o2 x0.b8 m7).o2), (Value.string (b6.mk x0.a8 x0.o2 x0.b8 m7).b8), (Value.slice (b6.mk x0.a8 x0.o2 x0.b8 m7).o0.a (b6.mk x0.a8 x0.o2 x0.b8 m7).o0.n (b6.mk x0.a8 x0.o2 x0.b8 m7).o0.c)]) (nb rfl) rfl) ?_
    exact hR (b6.mk x0.a8 x0.o2 x0.b8 m7) H _ c4O.drop.drop h
   refine v8 fun j1 hx1 => ?_
   refine a7 Q4 ?_
   refine d6 (ld1 Tryz.isAgg3 (a9c.at1 (o := 0) (vs := [(vi x0.a8)]) (nb rfl) rfl)) ?_
   have hj2 : ∀ (H : Hp) (w : World) (_ : Inv w0 ps0 H0 H [bx g_2 53 [(vi (b6.mk x0.a8 x0.o2 x0.b8 m7).a8), (vi (b6.mk x0.a8 x0.o2 x0.b8 m7).o2), (Value.string (b6.mk x0.a8 x0.o2 x0.b8 m7).b8), (Value.slice (b6.mk x0.a8 x0.o2 x0.b8 m7).o0.a (b6.mk x0.a8 x0.o2 x0.b8 m7).o0.n (b6.mk x0.a8 x0.o2 x0.b8 m7).o0.c)], bx g_7 53 [(vi (b6.mk 0 0 ⟨#[]⟩ (Sl.mk none 0 0)).a8), (vi (b6.mk 0 0 ⟨#[]⟩ (Sl.mk none 0 0)).o2), (Value.string (b6.mk 0 0 ⟨#[]⟩ (Sl.mk none 0 0)).b8), (Value.slice (b6.mk 0 0 ⟨#[]⟩ (Sl.mk none 0 0)).o0.a (b6.mk 0 0 ⟨#[]⟩ (Sl.mk none 0 0)).o0.n (b6.mk 0 0 ⟨#[]⟩ (Sl.mk none 0 0)).o0.c)]] w) (_ : T7 (b6.mk x0.a8 x0.o2 x0.b8 m7) (b6.mk 0 0 ⟨#[]⟩ (Sl.mk none 0 0)) H K), d1r (Value.pointer (some ⟨g_2, 0, none⟩)) (Value.pointer (some ⟨g_7, 0, none⟩)) w j1 R E := by
    intro H w I h
    unfold d1r
    intro _
    unfold T7 at h
    refine a7 K4 ?_
    refine d6 (ld1 Tryz.isAgg51 (I.at1 (o := 3) (vs := [(Value.slice (b6.mk x0.a8 x0.o2 x0.b8 m7).o0.a (b6.mk x0.a8 x0.o2 x0.b8 m7).o0.n (b6.mk x0.a8 x0.o2 x0.b8 m7).o0.c)]) (nb rfl) rfl)) ?_
    obtain ⟨h3t, h3u, c7R, d7D, h⟩ := h
    obtain ⟨i0H, i0I, d7E, d7D⟩ := d7D
    refine a7 (M1 d7E _ _ _ _ h3t h3u) ?_
    refine d6 (ldA (vs := (b7 c7R)) Tryz.isAgg53 Tryz.sizeOf53 rfl (I.atH d7D)) ?_
    refine d8 (cap := []) (fun args w => Tryz.call70 args w) ?_
    refine m4 (Fi := []) (Fr := [bx g_2 53 [(vi (b6.mk x0.a8 x0.o2 x0.b8 m7).a8), (vi (b6.mk x0.a8 x0.o2 x0.b8 m7).o2), (Value.string (b6.mk x0.a8 x0.o2 x0.b8 m7).b8), (Value.slice (b6.mk x0.a8 x0.o2 x0.b8 m7).o0.a (b6.mk x0.a8 x0.o2 x0.b8 m7).o0.n (b6.mk x0.a8 x0.o2 x0.b8 m7).o0.c)], bx g_7 53 [(vi (b6.mk 0 0 ⟨#[]⟩ (Sl.mk none 0 0)).a8), (vi (b6.mk 0 0 ⟨#[]⟩ (Sl.mk none 0 0)).o2), (Value.string (b6.mk 0 0 ⟨#[]⟩ (Sl.mk none 0 0)).b8), (Value.slice (b6.mk 0 0 ⟨#[]⟩ (Sl.mk none 0 0)).o0.a (b6.mk 0 0 ⟨#[]⟩ (Sl.mk none 0 0)).o0.n (b6.mk 0 0 ⟨#[]⟩ (Sl.mk none 0 0)).o0.c)]]) I (h) (fun i0J c1a i0K d7F c7V e8s i0L h3v => ?_) (fun _ _ _ _ _ q => q.elim)
    obtain ⟨d1Q, rfl, rfl, h⟩ := h3v
    refine s6 (fun d7G => ?_) (fun d7G => ?_)
    ·replace h := h.1 d7G
     refine a7 K4 ?_
     refine d6 (ld1 Tryz.isAgg51 (c7V.at1 (o := 3) (vs := [(Value.slice (b6.mk x0.a8 x0.o2 x0.b8 m7).o0.a (b6.mk x0.a8 x0.o2 x0.b8 m7).o0.n (b6.mk x0.a8 x0.o2 x0.b8 m7).o0.c)]) (nb rfl) rfl)) ?_
     obtain ⟨h3w, h3x, b4z, d7H, h⟩ := h
     obtain ⟨i0M, i0N, d7I, d7H⟩ := d7H
     refine a7 (M1 d7I _ _ _ _ h3w h3x) ?_
     refine d6 (ldA (vs := (b7 b4z)) Tryz.isAgg53 Tryz.sizeOf53 rfl (c7V.atH d7H)) ?_
     refine l9 (c7V.bring 1) Tryz.sizeOf53 (vs := (b7 b4z)) (cs' := (b7 b4z)) rfl rfl (nb rfl) rfl rfl fun c7W e8t i0O => ?_
     refine J0 Tryz.isAgg53 Tryz.sizeOf53 rfl (e8t.at1 (o := 0) (vs := (b7 b4z)) (nb rfl) rfl) ?_
     exact hR b4z c1a _ e8t.drop.drop h
    ·replace h := h.2 d7G
     exact hx1 _ _ (hj1 c1a _ ((c7V.bring 1).bring 1) h)
   refine v8 fun j2 hx2 => ?_
   have hj3 : ∀ (H : Hp) (w : World) (_ : Inv w0 ps0 H0 H [bx g_2 53 [(vi (b6.mk x0.a8 x0.o2 x0.b8 m7).a8), (vi (b6.mk x0.a8 x0.o2 x0.b8 m7).o2), (Value.string (b6.mk x0.a8 x0.o2 x0.b8 m7).b8), (Value.slice (b6.mk x0.a8 x0.o2 x0.b8 m7).o0.a (b6.mk x0.a8 x0.o2 x0.b8 m7).o0.n (b6.mk x0.a8 x0.o2 x0.b8 m7).o0.c)], bx g_7 53 [(vi (b6.mk 0 0 ⟨#[]⟩ (Sl.mk none 0 0)).a8), (vi (b6.mk 0 0 ⟨#[]⟩ (Sl.mk none 0 0)).o2), (Value.string (b6.mk 0 0 ⟨#[]⟩ (Sl.mk none 0 0)).b8), (Value.slice (b6.mk 0 0 ⟨#[]⟩ (Sl.mk none 0 0)).o0.a (b6.mk 0 0 ⟨#[]⟩ (Sl.mk none 0 0)).o0.n (b6.mk 0 0 ⟨#[]⟩ (Sl.mk none 0 0)).o0.c)]] w) (_ : Y8 0 (b6.mk x0.a8 x0.o2 x0.b8 m7) (b6.mk 0 0 ⟨#[]⟩ (Sl.mk none 0 0)) H K), d1s (Value.pointer (some ⟨g_2, 0, none⟩)) (Value.pointer (some ⟨g_7, 0, none⟩)) (vi 0) w j1 R E := by
    intro H w I h
    unfold d1s
    intro _
    unfold Y8 at h
    refine a7 K4 ?_
    refine d6 (ld1 Tryz.isAgg51 (I.at1 (o := 3) (vs := [(Value.slice (b6.mk x0.a8 x0.o2 x0.b8 m7).o0.a (b6.mk x0.a8 x0.o2 x0.b8 m7).o0.n (b6.mk x0.a8 x0.o2 x0.b8 m7).o0.c)]) (nb rfl) rfl)) ?_
    obtain ⟨d7r, h8D, d7z, c2S, h⟩ := h
    obtain ⟨i4c, i4d, h8E, c2S⟩ := c2S
    refine a7 (M1 h8E _ _ _ _ d7r h8D) ?_
    refine d6 (ldA (vs := (b7 d7z)) Tryz.isAgg53 Tryz.sizeOf53 rfl (I.atH c2S)) ?_
    refine d8 (cap := []) (fun args w => Tryz.call70 args w) ?_
    refine m4 (Fi := []) (Fr := [bx g_2 53 [(vi (b6.mk x0.a8 x0.o2 x0.b8 m7).a8), (vi (b6.mk x0.a8 x0.o2 x0.b8 m7).o2), (Value.string (b6.mk x0.a8 x0.o2 x0.b8 m7).b8), (Value.slice (b6.mk x0.a8 x0.o2 x0.b8 m7).o0.a (b6.mk x0.a8 x0.o2 x0.b8 m7).o0.n (b6.mk x0.a8 x0.o2 x0.b8 m7).o0.c)], bx g_7 53 [(vi (b6.mk 0 0 ⟨#[]⟩ (Sl.mk none 0 0)).a8), (vi (b6.mk 0 0 ⟨#[]⟩ (Sl.mk none 0 0)).o2), (Value.string (b6.mk 0 0 ⟨#[]⟩ (Sl.mk none 0 0)).b8), (Value.slice (b6.mk 0 0 ⟨#[]⟩ (Sl.mk none 0 0)).o0.a (b6.mk 0 0 ⟨#[]⟩ (Sl.mk none 0 0)).o0.n (b6.mk 0 0 ⟨#[]⟩ (Sl.mk none 0 0)).o0.c)]]) I (h) (fun i0P c6o i0Q b7G c7X i0R i0S h3y => ?_) (fun _ _ _ _ _ q => q.elim)
    obtain ⟨d1P, rfl, rfl, h⟩ := h3y
    refine s6 (fun b7N => ?_) (fun b7N => ?_)
    ·replace h := h.1 b7N
     refine a7 K4 ?_
     refine d6 (ld1 Tryz.isAgg51 (c7X.at1 (o := 3) (vs := [(Value.slice (b6.mk x0.a8 x0.o2 x0.b8 m7).o0.a (b6.mk x0.a8 x0.o2 x0.b8 m7).o0.n (b6.mk x0.a8 x0.o2 x0.b8 m7).o0.c)]) (nb rfl) rfl)) ?_
     obtain ⟨d7J, c4P, a6L, b0U, h⟩ := h
     obtain ⟨h3z, h3A, h3B, b0U⟩ := b0U
     refine a7 (M1 h3B _ _ _ _ d7J c4P) ?_
     refine d6 (ldA (vs := (b7 a6L)) Tryz.isAgg53 Tryz.sizeOf53 rfl (c7X.atH b0U)) ?_
     refine l9 (c7X.bring 1) Tryz.sizeOf53 (vs := (b7 a6L)) (cs' := (b7 a6L)) rfl rfl (nb rfl) rfl rfl fun a0X c7Y h3C => ?_
     refine J0 Tryz.isAgg53 Tryz.sizeOf53 rfl (c7Y.at1 (o := 0) (vs := (b7 a6L)) (nb rfl) rfl) ?_
     exact hR a6L c6o _ c7Y.drop.drop h
    ·replace h := h.2 b7N
     exact hx1 _ _ (hj1 c6o _ ((c7X.bring 1).bring 1) h)
   refine v8 fun j3 hx3 => ?_
   refine a7 (m5 _ _ _ _ _ _) ?_
   refine i8 (fun d7K => ?_) (fun d7K => ?_)
   ·replace h := h.1 d7K
    refine a7 K4 ?_
    refine d6 (ld1 Tryz.isAgg51 (a9c.at1 (o := 3) (vs := [(vs m7)]) (nb rfl) rfl)) ?_
    obtain ⟨c6n, d1R, d7A, e5p, h⟩ := h
    obtain ⟨g5H, i4e, h8F, e5p⟩ := e5p
    refine a7 (M1 h8F _ _ _ _ c6n d1R) ?_
    refine d6 (ldA (vs := (b7 d7A)) Tryz.isAgg53 Tryz.sizeOf53 rfl (a9c.atH e5p)) ?_
    refine d8 (cap := []) (fun args w => Tryz.call70 args w) ?_
    refine m4 (Fi := []) (Fr := [bx g_2 53 [(vi x0.a8), (vi x0.o2), (Value.string x0.b8), (vs m7)], bx g_7 53 [(vi 0), (vi 0), (eS), (nS)]]) a9c (h) (fun d6m a4R h7p c2j b7b b9c e3R e3S => ?_) (fun _ _ _ _ _ q => q.elim)
    obtain ⟨a7i, rfl, rfl, h⟩ := e3S
    refine s6 (fun b7M => ?_) (fun b7M => ?_)
    ·replace h := h.1 b7M
     refine a7 K4 ?_
     refine d6 (ld1 Tryz.isAgg51 (b7b.at1 (o := 3) (vs := [(vs m7)]) (nb rfl) rfl)) ?_
     obtain ⟨h8G, h8H, b9Y, e5q, h⟩ := h
     obtain ⟨i4f, i4g, h8I, e5q⟩ := e5q
     refine a7 (M1 h8I _ _ _ _ h8G h8H) ?_
     refine d6 (ldA (vs := (b7 b9Y)) Tryz.isAgg53 Tryz.sizeOf53 rfl (b7b.atH e5q)) ?_
     refine l9 (b7b.bring 1) Tryz.sizeOf53 (vs := (b7 b9Y)) (cs' := (b7 b9Y)) rfl rfl (nb rfl) rfl rfl fun V9 g5I i4h => ?_
     refine J0 Tryz.isAgg53 Tryz.sizeOf53 rfl (g5I.at1 (o := 0) (vs := (b7 b9Y)) (nb rfl) rfl) ?_
     exact hR b9Y a4R _ g5I.drop.drop h
    ·replace h := h.2 b7M
     exact hx3 _ _ (hj3 a4R _ ((b7b.bring 1).bring 1) h)
   ·replace h := h.2 d7K
    refine a7 (m5 _ _ _ _ _ _) ?_
    refine i8 (fun d7L => ?_) (fun d7L => ?_)
    ·replace h := h.1 d7L
     exact hx3 _ _ (hj3 a8p _ ((a9c.bring 1).bring 1) h)
    ·replace h := h.2 d7L
     refine a7 (m5 _ _ _ _ _ _) ?_
     refine i8 (fun d7M => ?_) (fun d7M => ?_)
     ·replace h := h.1 d7M
      refine a7 K4 ?_
      refine d6 (ld1 Tryz.isAgg51 (a9c.at1 (o := 3) (vs := [(vs m7)]) (nb rfl) rfl)) ?_
      obtain ⟨h3D, h3E, c7T, c4Q, h⟩ := h
      obtain ⟨i0T, i0U, h3F, c4Q⟩ := c4Q
      refine a7 (M1 h3F _ _ _ _ h3D h3E) ?_
      refine d6 (ldA (vs := (b7 c7T)) Tryz.isAgg53 Tryz.sizeOf53 rfl (a9c.atH c4Q)) ?_
      refine d8 (cap := []) (fun args w => Tryz.call70 args w) ?_
      refine m4 (Fi := []) (Fr := [bx g_2 53 [(vi x0.a8), (vi x0.o2), (Value.string x0.b8), (vs m7)], bx g_7 53 [(vi 0), (vi 0), (eS), (nS)]]) a9c (h) (fun i0V c1b i0W a7h c7Z c8a i0X h3G => ?_) (fun _ _ _ _ _ q => q.elim)
      obtain ⟨b1m, rfl, rfl, h⟩ := h3G
      refine a7 (Pu.g fun hb => by have i5 := hb; exact K4) ?_
      refine d6 (Ld.g fun hb => by have i5 := hb; simp only [r8 i5]; exact (ld1 Tryz.isAgg51 (c7Z.at1 (o := 3) (vs := [(vs m7)]) (nb rfl) rfl))) ?_
      obtain ⟨c7U, c1c, h⟩ := h
      obtain ⟨i0Y, i0Z, c1c⟩ := c3y c1c
      refine a7 (Pu.g fun hb => by have i5 := hb; simp only [r8 i5]; exact (M1 (c1c hb).2.2.1 _ _ _ _ (c1c hb).1 (c1c hb).2.1)) ?_
      refine d6 (Ld.g fun hb => by have i5 := hb; simp only [r8 i5]; exact (ldA (vs := (b7 c7U)) Tryz.isAgg53 Tryz.sizeOf53 rfl (c7Z.atH (c1c hb).2.2.2))) ?_
      refine a7m (D := fun d7N b0Q => ∃ (a9T : Bool) (a7j : Hp) , d7N = (gv b1m true (vB a9T)) ∧ (Inv w0 ps0 H0 a7j [bx g_2 53 [(vi x0.a8), (vi x0.o2), (Value.string x0.b8), (vs m7)], bx g_7 53 [(vi 0), (vi 0), (eS), (nS)]] b0Q) ∧ (∀ i, i < a7h.heap.size → ¬ inF [] i → b0Q.heap[i]? = a7h.heap[i]?) ∧ Hle c1b a7j ∧ (((b1m && (!a9T)) = true →
 (0 : Int) ≤ 1 ∧ (1 : Int) < m7.n ∧ ∃ a9U : b6, EltH a7j m7 1 4 (b7 a9U) ∧
 K a9U a7j) ∧
 ((b1m && (!a9T)) = false →
 T7 (b6.mk x0.a8 x0.o2 x0.b8 m7) (b6.mk 0 0 ⟨#[]⟩ (Sl.mk none 0 0)) a7j K))) (fun c4R => ?_) (fun c4R => ?_) ?_
      ·replace h := h.1 c4R
       have i5 := c4R
       simp only [r8 i5]
       refine d8 (cap := []) (fun args w => Tryz.call70 args w) ?_
       refine m4 (Fi := []) (Fr := [bx g_2 53 [(vi x0.a8), (vi x0.o2), (Value.string x0.b8), (vs m7)], bx g_7 53 [(vi 0), (vi 0), (eS), (nS)]]) c7Z (h) (fun d7N a7j i1a b0Q c1d e8u e8v h3H => ?_) (fun _ _ _ _ _ q => q.elim)
       obtain ⟨a9T, rfl, rfl, h⟩ := h3H
       exact ⟨a9T, a7j, by rfl, c1d, e8v, e8u, h⟩
      ·exact ⟨false, c1b, by rw [b1s c4R], c7Z, fun _ _ _ => rfl, Hle.refl _, h.2 c4R⟩
      ·clear h
       rintro d7N b0Q ⟨a9T, a7j, rfl, c1d, e8v, e8u, h⟩
       refine a7 (Pu.g fun hb => by have i5 := hb; simp only [r8 i5]; exact (a0S _)) ?_
       refine a7 (P7 _ _) ?_
       refine s6 (fun d7O => ?_) (fun d7O => ?_)
       ·replace h := h.1 d7O
        refine a7 K4 ?_
        refine d6 (ld1 Tryz.isAgg51 (c1d.at1 (o := 3) (vs := [(vs m7)]) (nb rfl) rfl)) ?_
        obtain ⟨c7Q, d7P, a9U, d7Q, h⟩ := h
        obtain ⟨i1b, i1c, h3I, d7Q⟩ := d7Q
        refine a7 (M1 h3I _ _ _ _ c7Q d7P) ?_
        refine d6 (ldA (vs := (b7 a9U)) Tryz.isAgg53 Tryz.sizeOf53 rfl (c1d.atH d7Q)) ?_
        refine l9 (c1d.bring 1) Tryz.sizeOf53 (vs := (b7 a9U)) (cs' := (b7 a9U)) rfl rfl (nb rfl) rfl rfl fun c4E e8w i1d => ?_
        refine J0 Tryz.isAgg53 Tryz.sizeOf53 rfl (e8w.at1 (o := 0) (vs := (b7 a9U)) (nb rfl) rfl) ?_
        exact hR a9U a7j _ e8w.drop.drop h
       ·replace h := h.2 d7O
        exact hx2 _ _ (hj2 a7j _ ((c1d.bring 1).bring 1) h)
     ·replace h := h.2 d7M
      refine a7 (m5 _ _ _ _ _ _) ?_
      refine i8 (fun d7R => ?_) (fun d7R => ?_)
      ·replace h := h.1 d7R
       exact hx2 _ _ (hj2 a8p _ ((a9c.bring 1).bring 1) h)
      ·replace h := h.2 d7R
       exact hx1 _ _ (hj1 a8p _ ((a9c.bring 1).bring 1) h)
theorem b6d (x0 : b6) {H : Hp} {K : b6 → Hp → Prop} (h : a3H x0 H K) : a3E x0 H K := by
 intro w I
 refine g3M ?_
 refine b5o x0 I (fun r0 H' w' I' hk => ⟨H', _, I', r0, rfl, rfl, hk⟩) h
def a3I (x0 : b6) (H : Hp) (K : b6 → Int → Hp → Prop) : Prop :=
 a7t x0 H (fun (m7 : Int) (T8 : Hp) =>
 (¬ (m7 = 0) →
 K (b6.mk 0 0 ⟨#[]⟩ (Sl.mk none 0 0)) m7 T8) ∧
 (m7 = 0 →
 a3E x0 T8 (fun (a3i : b6) (a5u : Hp) =>
 K a3i 0 a5u)))
theorem b5q (x0 : b6) {K : b6 → Int → Hp → Prop} (I : Inv w0 ps0 H0 H [] w) (hR : ∀ (r0 : b6) (r1 : Int) (H' : Hp) (w' : World) (_ : Inv w0 ps0 H0 H' [] w') (_ : K r0 r1 H'), R (Value.tuple #[(Value.agg (b7 r0).toArray), (vi r1)]) w') (h : a3I x0 H K) : F21 (Value.agg (b7 x0).toArray) w R E := by
 unfold a3I at h
 unfold F21
 refine M4 I (cs := (b7 x0)) rfl fun g_2 w_3 I_4 k_5 => ?_
 refine u1 I_4 Tryz.zeroValue53 (cs := [(vi 0), (vi 0), (eS), (nS)]) rfl fun g_7 w_8 I_9 a9J => ?_
 refine d6 (ldA Tryz.isAgg53 Tryz.sizeOf53 rfl ((I_9.bring 1).at1 (o := 0) (vs := (b7 x0)) (nb rfl) rfl)) ?_
 refine d8 (cap := []) (fun args w => Tryz.call39 args w) ?_
 refine m4 (Fi := []) (Fr := [bx g_7 53 [(vi 0), (vi 0), (eS), (nS)], bx g_2 53 (b7 x0)]) I_9 (h) (fun b7Q T8 b9Z p7 a2f b5m b5p b0B => ?_) (fun _ _ _ _ _ q => q.elim)
 obtain ⟨m7, rfl, rfl, h⟩ := b0B
 refine a7 (T0 _ _ _ _ _ _) ?_
 refine a2C (fun c2T => ?_) (fun c2T => ?_)
 ·replace h := h.1 c2T
  refine a7 (d9E ) ?_
  refine l9 a2f Tryz.sizeOf53 (vs := [(vi 0), (vi 0), (eS), (nS)]) (cs' := [(vi 0), (vi 0), (eS), (nS)]) rfl rfl (nb rfl) rfl rfl fun t7 a0B b6T => ?_
  refine J0 Tryz.isAgg53 Tryz.sizeOf53 rfl (a0B.at1 (o := 0) (vs := [(vi 0), (vi 0), (eS), (nS)]) (nb rfl) rfl) ?_
  exact hR (b6.mk 0 0 ⟨#[]⟩ (Sl.mk none 0 0)) m7 T8 _ a0B.drop.drop h
 ·replace h := h.2 c2T
  refine d6 (ldA Tryz.isAgg53 Tryz.sizeOf53 rfl ((a2f.bring 1).at1 (o := 0) (vs := (b7 x0)) (nb rfl) rfl)) ?_
  refine d8 (cap := []) (fun args w => Tryz.call40 args w) ?_
  refine m4 (Fi := []) (Fr := [bx g_7 53 [(vi 0), (vi 0), (eS), (nS)], bx g_2 53 (b7 x0)]) a2f (h) (fun e4g a5u d0d v6 a5Z e4h d6j c2q => ?_) (fun _ _ _ _ _ q => q.elim)
  obtain ⟨a3i, rfl, rfl, h⟩ := c2q
  refine l9 a5Z Tryz.sizeOf53 (vs := (b7 a3i)) (cs' := (b7 a3i)) rfl rfl (nb rfl) rfl rfl fun D6 b3h d6o => ?_
  refine J0 Tryz.isAgg53 Tryz.sizeOf53 rfl (b3h.at1 (o := 0) (vs := (b7 a3i)) (nb rfl) rfl) ?_
  exact hR a3i 0 a5u _ b3h.drop.drop h
theorem b6e (x0 : b6) {H : Hp} {K : b6 → Int → Hp → Prop} (h : a3I x0 H K) : a5T x0 H K := by
 intro w I
 refine g2Q ?_
 refine b5q x0 I (fun r0 r1 H' w' I' hk => ⟨H', _, I', r0, r1, rfl, rfl, hk⟩) h
def B0 (D9 : (List b9)) (H : Hp) (K : Sl → Hp → Prop) : Prop :=
 ∀ (q8 : Sl) (K1 : Hp), Hle H K1 → SlH K1 4 d5 q8 D9 → q8.n ≤ q8.c →
 K q8 K1
def B1 (U6 : Sl) (T4 : Int) (m3 : (List b9)) (m6 : Int) (H : Hp) (n2 : ((List b9) × Int) → Hp → Prop) (K : Sl → Hp → Prop) : Prop :=
 (m6 < T4 →
 (0 : Int) ≤ m6 ∧ (m6 : Int) < U6.n ∧ ∃ x_1 : b9, EltH H U6 m6 4 (d5 x_1) ∧
 a3F x_1 H (fun (E0 : b9) (Q2 : Hp) =>
 (m3.length + ([E0] : List b9).length) * 65 ≤ 140737488355328 ∧
 n2 ((m3 ++ [E0]), (IntKind.wrap .i64 (m6 + 1))) Q2)) ∧
 (¬ (m6 < T4) →
 B0 m3 H K)
def D5 (x0 : Sl) (H : Hp) (K : Sl → Hp → Prop) : Prop :=
 TL (([], 0) : (List b9) × Int) H fun (s : (List b9) × Int) H n2 => B1 x0 (x0.n : Int) s.1 s.2 H n2 K
theorem a1p (x0 : Sl) {K : Sl → Hp → Prop} (I : Inv w0 ps0 H0 H [] w) (hR : ∀ (r0 : Sl) (H' : Hp) (w' : World) (_ : Inv w0 ps0 H0 H' [] w') (_ : K r0 H'), R (vs r0) w') (h : D5 x0 H K) : F71 (vs x0) (fC 42) w R E := by
 unfold D5 at h
 unfold F71
 have hj1 : ∀ (D9 : (List b9)) (q8 : Sl) (Fs5j1 : Frag) (H : Hp) (w : World) (_ : RowL 59 4 d5 q8 D9 Fs5j1) (_ : Inv w0 ps0 H0 H [Fs5j1] w) (_ : B0 D9 H K), d1M (vs q8) w R E := by
  intro D9 q8 Fs5j1 H w a4i I h
  unfold d1M
  intro _
  unfold B0 at h
  obtain ⟨K1, a3A, a6y, a1l, a3B⟩ := Inv.freezeC I a4i (by decide)
  replace h := h q8 K1 a6y a1l a3B
  exact hR q8 K1 _ a3A h
 refine v8 fun j1 hx1 => ?_
 refine a7 (a7o _ _ _) ?_
 obtain ⟨Y6, N9, a7A, a7B⟩ := h
 refine L6 (J := fun n l w => ∃ (s : (List b9) × Int) (H : Hp) (A7 : Sl) (Fs5l2 : Frag) , n = N9 s ∧ l = (match s with | (m3, m6) => [(vs A7), (vi m6)]) ∧ (match s with | (m3, m6) => RowL 59 4 d5 A7 m3 Fs5l2) ∧ (match s with | (m3, m6) => Inv w0 ps0 H0 H [Fs5l2] w) ∧ Y6 s H) ⟨_, ([], 0), H, (Sl.mk none 0 0), [], rfl, rfl, (RowL.nil a8z a8A), I.nil, a7A⟩ ?_
 rintro b9q τ_50 w next2 ⟨⟨m3, m6⟩, H, A7, Fs5l2, rfl, X2, P3, I, a7C⟩ hn2
 dsimp only at X2 I P3
 simp only [List.map_cons, List.map_nil, List.cons.injEq, and_true] at X2
 obtain ⟨e5, e10⟩ := X2
 simp only [e5, e10]
 obtain ⟨n2, hm2, h⟩ : ∃ n2 : ((List b9) × Int) → Hp → Prop, (∀ s' H', n2 s' H' → Y6 s' H' ∧ N9 s' < N9 (m3, m6)) ∧ B1 x0 (x0.n : Int) m3 m6 H n2 K := ⟨_, fun _ _ h => h, a7B (m3, m6) H (fun s' H' => Y6 s' H' ∧ N9 s' < N9 (m3, m6)) a7C (fun _ _ a b => ⟨a, b⟩)⟩
 unfold e1j
 unfold B1 at h
 refine a7 (C2 _ _ _ _ _ _) ?_
 refine i8 (fun V4 => ?_) (fun V4 => ?_)
 ·replace h := h.1 V4
  obtain ⟨h_4, h_5, x_1, h_7, h⟩ := h
  obtain ⟨g_2, o_3, h_6, h_7⟩ := h_7
  refine a7 (a1B h_6 _ _ _ _ h_4 h_5) ?_
  refine d6 (ldA (vs := (d5 x_1)) Tryz.isAgg59 Tryz.sizeOf59 rfl (I.atH h_7)) ?_
  refine u1 I Tryz.zeroValue59 (cs := [(vi 0), (vi 0), (nS), (nS)]) rfl fun g_9 o7 a0R a9D => ?_
  refine l9 a0R Tryz.sizeOf59 (vs := (d5 x_1)) (cs' := (d5 x_1)) rfl rfl (nb rfl) rfl rfl fun Z2 P0 a3P => ?_
  refine d6 (ldA Tryz.isAgg59 Tryz.sizeOf59 rfl (P0.at1 (o := 0) (vs := (d5 x_1)) (nb rfl) rfl)) ?_
  refine d8 (cap := []) (fun args w => Tryz.call42 args w) ?_
  refine m4 (Fi := []) (Fr := [bx g_9 59 (d5 x_1), Fs5l2]) P0 (h) (fun b6V Q2 b4V a0q a2F b6W b6X a6z => ?_) (fun _ _ _ _ _ q => q.elim)
  obtain ⟨E0, rfl, rfl, h⟩ := a6z
  refine a0m (e := 59) (c := d5) (xs := [E0]) a2F (d4k _ _ _ _ _ _ _ _) rfl rfl a8z a8A (nb rfl) fun b1y a9E C4 a4D V5 a7D => ?_
  obtain ⟨a6A, h⟩ := h
  refine d9B (s := A7) (xs := m3) (V5.bring 2) P3 (a4D.srcO ((V5.bring 2).bring 1)) a6A fun a4j a6B A6 a3Q a3C b2U => ?_
  refine a7 (J8 _ _ _ _ _ _) ?_
  exact hn2 _ _ _ (hm2 _ _ h).2 ⟨((m3 ++ [E0]), (IntKind.wrap .i64 (m6 + 1))), Q2, a4j, a6B, rfl, rfl, a3Q, ((a3C.bring 1).drop.bring 1).drop, (hm2 _ _ h).1⟩
 ·replace h := h.2 V4
  exact hx1 _ _ (hj1 m3 A7 Fs5l2 H _ P3 I h)
theorem a1r (x0 : Sl) {H : Hp} {K : Sl → Hp → Prop} (h : D5 x0 H K) : L9 x0 H K := by
 intro w I
 refine g5g ?_
 refine a1p x0 I (fun r0 H' w' I' hk => ⟨H', _, I', r0, rfl, rfl, hk⟩) h
def a0C (x0 : Bool) (H : Hp) (K : b9 → Hp → Prop) : Prop :=
 (x0 = true →
 K (b9.mk 1 0 (Sl.mk none 0 0) (Sl.mk none 0 0)) H) ∧
 (x0 = false →
 K (b9.mk 2 0 (Sl.mk none 0 0) (Sl.mk none 0 0)) H)
theorem b4g (x0 : Bool) {K : b9 → Hp → Prop} (I : Inv w0 ps0 H0 H [] w) (hR : ∀ (r0 : b9) (H' : Hp) (w' : World) (_ : Inv w0 ps0 H0 H' [] w') (_ : K r0 H'), R (Value.agg (d5 r0).toArray) w') (h : a0C x0 H K) : F72 (vB x0) w R E := by
 unfold a0C at h
 unfold F72
 refine u1 I Tryz.zeroValue59 (cs := [(vi 0), (vi 0), (nS), (nS)]) rfl fun g_2 w_3 I_4 k_5 => ?_
 refine s6 (fun e5r => ?_) (fun e5r => ?_)
 ·replace h := h.1 e5r
  refine a7 (c1N _) ?_
  refine l9 I_4 Tryz.sizeOf59 (vs := [(vi 1), (vi 0), (nS), (nS)]) (cs' := [(vi 1), (vi 0), (nS), (nS)]) rfl rfl (nb rfl) rfl rfl fun w_6 I_7 k_8 => ?_
  refine J0 Tryz.isAgg59 Tryz.sizeOf59 rfl (I_7.at1 (o := 0) (vs := [(vi 1), (vi 0), (nS), (nS)]) (nb rfl) rfl) ?_
  exact hR (b9.mk 1 0 (Sl.mk none 0 0) (Sl.mk none 0 0)) H _ I_7.drop h
 ·replace h := h.2 e5r
  refine a7 (c1N _) ?_
  refine l9 I_4 Tryz.sizeOf59 (vs := [(vi 2), (vi 0), (nS), (nS)]) (cs' := [(vi 2), (vi 0), (nS), (nS)]) rfl rfl (nb rfl) rfl rfl fun w_9 b1A b9r => ?_
  refine J0 Tryz.isAgg59 Tryz.sizeOf59 rfl (b1A.at1 (o := 0) (vs := [(vi 2), (vi 0), (nS), (nS)]) (nb rfl) rfl) ?_
  exact hR (b9.mk 2 0 (Sl.mk none 0 0) (Sl.mk none 0 0)) H _ b1A.drop h
theorem b5r (x0 : Bool) {H : Hp} {K : b9 → Hp → Prop} (h : a0C x0 H K) : a3g x0 H K := by
 intro w I
 refine g5i ?_
 refine b4g x0 I (fun r0 H' w' I' hk => ⟨H', _, I', r0, rfl, rfl, hk⟩) h
def W2 (c1e : Bool) (i0m : b9) (f2Y : b9) (b3j : b9) (a0U : b9) (H : Hp) (K : b9 → Hp → Prop) : Prop :=
 (c1e = true →
 K f2Y H) ∧
 (c1e = false →
 K a0U H)
def a0K (d0N : Int) (b4W : Int) (a0V : b9) (W8 : b9) (o4 : b9) (y6 : b9) (H : Hp) (K : b9 → Hp → Prop) : Prop :=
 (W8.a8 = d0N →
 K a0V H) ∧
 (¬ (W8.a8 = d0N) →
 (W8.a8 = b4W →
 W2 (decide (W8.a8 = b4W)) a0V W8 o4 y6 H K) ∧
 (¬ (W8.a8 = b4W) →
 W2 (decide (a0V.a8 = d0N)) a0V W8 o4 y6 H K))
def a2u (x0 : b9) (x1 : Int) (x2 : Int) (H : Hp) (K : b9 → Hp → Prop) : Prop :=
 (0 : Int) ≤ 0 ∧ (0 : Int) < x0.r7.n ∧ ∃ a4T : b9, EltH H x0.r7 0 4 (d5 a4T) ∧
 (0 : Int) ≤ 1 ∧ (1 : Int) < x0.r7.n ∧ ∃ b5s : b9, EltH H x0.r7 1 4 (d5 b5s) ∧
 a0K x1 x2 b5s a4T (b9.mk 0 0 (Sl.mk none 0 0) (Sl.mk none 0 0)) x0 H K
theorem b3G (x0 : b9) (x1 : Int) (x2 : Int) {K : b9 → Hp → Prop} (I : Inv w0 ps0 H0 H [] w) (hR : ∀ (r0 : b9) (H' : Hp) (w' : World) (_ : Inv w0 ps0 H0 H' [] w') (_ : K r0 H'), R (Value.agg (d5 r0).toArray) w') (h : a2u x0 x1 x2 H K) : F74 (Value.agg (d5 x0).toArray) (vi x1) (vi x2) w R E := by
 unfold a2u at h
 unfold F74
 refine M4 I (cs := (d5 x0)) rfl fun g_2 w_3 I_4 k_5 => ?_
 refine u1 I_4 Tryz.zeroValue59 (cs := [(vi 0), (vi 0), (nS), (nS)]) rfl fun g_7 w_8 I_9 a9J => ?_
 have hj1 : ∀ (a0V : b9) (W8 : b9) (b7R : Nat) (b3H : Nat) (H : Hp) (w : World) (_ : Inv w0 ps0 H0 H [bx b7R 59 (d5 a0V), bx b3H 59 (d5 W8), bx g_7 59 [(vi (b9.mk 0 0 (Sl.mk none 0 0) (Sl.mk none 0 0)).a8), (vi (b9.mk 0 0 (Sl.mk none 0 0) (Sl.mk none 0 0)).fOp), (Value.slice (b9.mk 0 0 (Sl.mk none 0 0) (Sl.mk none 0 0)).f2.a (b9.mk 0 0 (Sl.mk none 0 0) (Sl.mk none 0 0)).f2.n (b9.mk 0 0 (Sl.mk none 0 0) (Sl.mk none 0 0)).f2.c), (Value.slice (b9.mk 0 0 (Sl.mk none 0 0) (Sl.mk none 0 0)).r7.a (b9.mk 0 0 (Sl.mk none 0 0) (Sl.mk none 0 0)).r7.n (b9.mk 0 0 (Sl.mk none 0 0) (Sl.mk none 0 0)).r7.c)], bx g_2 59 (d5 x0)] w) (_ : a0K x1 x2 a0V W8 (b9.mk 0 0 (Sl.mk none 0 0) (Sl.mk none 0 0)) x0 H K), d1O (vi x1) (vi x2) (Value.pointer (some ⟨g_2, 0, none⟩)) (Value.pointer (some ⟨g_7, 0, none⟩)) (Value.pointer (some ⟨b3H, 0, none⟩)) (Value.pointer (some ⟨b7R, 0, none⟩)) w R E := by
  intro a0V W8 b7R b3H H w I h
  unfold d1O
  intro _
  unfold a0K at h
  refine a7 a2U ?_
  refine d6 (ld1 Tryz.isAgg3 ((I.bring 1).at1 (o := 0) (vs := [(vi W8.a8)]) (nb rfl) rfl)) ?_
  refine a7 (m5 _ _ _ _ _ _) ?_
  refine i8 (fun e5s => ?_) (fun e5s => ?_)
  ·replace h := h.1 e5s
   refine d6 (ldA Tryz.isAgg59 Tryz.sizeOf59 rfl (I.at1 (o := 0) (vs := (d5 a0V)) (nb rfl) rfl)) ?_
   refine l9 (I.bring 2) Tryz.sizeOf59 (vs := (d5 a0V)) (cs' := (d5 a0V)) rfl rfl (nb rfl) rfl rfl fun b1w c2U g5J => ?_
   refine J0 Tryz.isAgg59 Tryz.sizeOf59 rfl (c2U.at1 (o := 0) (vs := (d5 a0V)) (nb rfl) rfl) ?_
   exact hR a0V H _ c2U.drop.drop.drop.drop h
  ·replace h := h.2 e5s
   have hj2 : ∀ (c1e : Bool) (H : Hp) (w : World) (_ : Inv w0 ps0 H0 H [bx b7R 59 (d5 a0V), bx b3H 59 (d5 W8), bx g_7 59 [(vi (b9.mk 0 0 (Sl.mk none 0 0) (Sl.mk none 0 0)).a8), (vi (b9.mk 0 0 (Sl.mk none 0 0) (Sl.mk none 0 0)).fOp), (Value.slice (b9.mk 0 0 (Sl.mk none 0 0) (Sl.mk none 0 0)).f2.a (b9.mk 0 0 (Sl.mk none 0 0) (Sl.mk none 0 0)).f2.n (b9.mk 0 0 (Sl.mk none 0 0) (Sl.mk none 0 0)).f2.c), (Value.slice (b9.mk 0 0 (Sl.mk none 0 0) (Sl.mk none 0 0)).r7.a (b9.mk 0 0 (Sl.mk none 0 0) (Sl.mk none 0 0)).r7.n (b9.mk 0 0 (Sl.mk none 0 0) (Sl.mk none 0 0)).r7.c)], bx g_2 59 (d5 x0)] w) (_ : W2 c1e a0V W8 (b9.mk 0 0 (Sl.mk none 0 0) (Sl.mk none 0 0)) x0 H K), d1N (Value.pointer (some ⟨g_2, 0, none⟩)) (Value.pointer (some ⟨g_7, 0, none⟩)) (Value.pointer (some ⟨b3H, 0, none⟩)) (vB c1e) w R E := by
    intro c1e H w I h
    unfold d1N
    intro _
    unfold W2 at h
    refine s6 (fun e5t => ?_) (fun e5t => ?_)
    ·replace h := h.1 e5t
     refine d6 (ldA Tryz.isAgg59 Tryz.sizeOf59 rfl ((I.bring 1).at1 (o := 0) (vs := (d5 W8)) (nb rfl) rfl)) ?_
     refine l9 (I.bring 2) Tryz.sizeOf59 (vs := (d5 W8)) (cs' := (d5 W8)) rfl rfl (nb rfl) rfl rfl fun M9 b1I e5u => ?_
     refine J0 Tryz.isAgg59 Tryz.sizeOf59 rfl (b1I.at1 (o := 0) (vs := (d5 W8)) (nb rfl) rfl) ?_
     exact hR W8 H _ b1I.drop.drop.drop.drop h
    ·replace h := h.2 e5t
     refine d6 (ldA Tryz.isAgg59 Tryz.sizeOf59 rfl ((I.bring 3).at1 (o := 0) (vs := (d5 x0)) (nb rfl) rfl)) ?_
     refine l9 (I.bring 2) Tryz.sizeOf59 (vs := (d5 x0)) (cs' := (d5 x0)) rfl rfl (nb rfl) rfl rfl fun b0f d7S h8J => ?_
     refine J0 Tryz.isAgg59 Tryz.sizeOf59 rfl (d7S.at1 (o := 0) (vs := (d5 x0)) (nb rfl) rfl) ?_
     exact hR x0 H _ d7S.drop.drop.drop.drop h
   refine v8 fun j2 hx2 => ?_
   refine a7 a2U ?_
   refine d6 (ld1 Tryz.isAgg3 ((I.bring 1).at1 (o := 0) (vs := [(vi W8.a8)]) (nb rfl) rfl)) ?_
   refine a7 (m5 _ _ _ _ _ _) ?_
   refine i8 (fun e5v => ?_) (fun e5v => ?_)
   ·replace h := h.1 e5v
    exact hx2 _ _ (hj2 (decide (W8.a8 = x2)) H _ ((((I.bring 3).bring 3).bring 3).bring 3) h)
   ·replace h := h.2 e5v
    refine a7 a2U ?_
    refine d6 (ld1 Tryz.isAgg3 (I.at1 (o := 0) (vs := [(vi a0V.a8)]) (nb rfl) rfl)) ?_
    refine a7 (m5 _ _ _ _ _ _) ?_
    exact hx2 _ _ (hj2 (decide (a0V.a8 = x1)) H _ ((((I.bring 3).bring 3).bring 3).bring 3) h)
 refine v8 fun j1 hx1 => ?_
 refine V0 I_9 fun R7 D8 => ?_
 refine l7 V3 ?_
 refine l7 V3 ?_
 refine t6 (ld1 Tryz.isAgg57 ((D8.bring 1).at1 (o := 3) (vs := [(vs x0.r7)]) (nb rfl) rfl)) ?_
 obtain ⟨a8S, b7n, a4T, a7I, h⟩ := h
 obtain ⟨g5v, g5w, c2R, a7I⟩ := a7I
 refine l7 (a1B c2R _ _ _ _ a8S b7n) ?_
 refine t6 (ldA (vs := (d5 a4T)) Tryz.isAgg59 Tryz.sizeOf59 rfl (D8.atH a7I)) ?_
 refine t6 (ld1 Tryz.isAgg57 ((D8.bring 1).at1 (o := 3) (vs := [(vs x0.r7)]) (nb rfl) rfl)) ?_
 obtain ⟨c2D, d0B, b5s, b0x, h⟩ := h
 obtain ⟨i4i, i4j, b7u, b0x⟩ := b0x
 refine l7 (a1B b7u _ _ _ _ c2D d0B) ?_
 refine t6 (ldA (vs := (d5 b5s)) Tryz.isAgg59 Tryz.sizeOf59 rfl (D8.atH b0x)) ?_
 refine ⟨?_, ?_⟩
 ·refine u1 D8 Tryz.zeroValue59 (cs := [(vi 0), (vi 0), (nS), (nS)]) rfl fun h8K a9H V5 a7D => ?_
  refine ⟨(a7D _ (D8.b0Y b0x)), (a7D _ (D8.bring 1).lt1), (a7D _ (D8.b0Y a7I)), (a7D _ (D8.bring 1).lt1), ?_⟩
  refine u1 V5 Tryz.zeroValue59 (cs := [(vi 0), (vi 0), (nS), (nS)]) rfl fun h8L A6 a4U c2V => ?_
  refine ⟨(c2V _ (V5.b0Y b0x)), (c2V _ (V5.bring 2).lt1), (c2V _ (V5.b0Y a7I)), (c2V _ (V5.bring 2).lt1), ?_⟩
  refine l9 (a4U.bring 1) Tryz.sizeOf59 (vs := (d5 a4T)) (cs' := (d5 a4T)) rfl rfl (nb rfl) rfl rfl fun b0u a7b d6r => ?_
  refine ⟨(d6r _ (Inv.f5Y (a4U.bring 1) b0x)), (d6r _ (Inv.e3r ((a4U.bring 3).bring 2))), ?_⟩
  refine l9 (a7b.bring 1) Tryz.sizeOf59 (vs := (d5 b5s)) (cs' := (d5 b5s)) rfl rfl (nb rfl) rfl rfl fun H9 b9x d6p => ?_
  exact hx1 _ _ (hj1 b5s a4T h8L h8K H _ ((((b9x.bring 3).bring 3).bring 3).bring 3) h)
 ·refine u1 D8 Tryz.zeroValue59 (cs := [(vi 0), (vi 0), (nS), (nS)]) rfl fun h8M b3o b0v b9C => ?_
  refine ⟨(b9C _ (D8.b0Y b0x)), (b9C _ (D8.bring 1).lt1), (b9C _ (D8.b0Y a7I)), (b9C _ (D8.bring 1).lt1), ?_⟩
  refine u1 b0v Tryz.zeroValue59 (cs := [(vi 0), (vi 0), (nS), (nS)]) rfl fun h8N Q1 b9z c6f => ?_
  refine ⟨(c6f _ (b0v.b0Y b0x)), (c6f _ (b0v.bring 2).lt1), (c6f _ (b0v.b0Y a7I)), (c6f _ (b0v.bring 2).lt1), ?_⟩
  refine l9 b9z Tryz.sizeOf59 (vs := (d5 a4T)) (cs' := (d5 a4T)) rfl rfl (nb rfl) rfl rfl fun b1x e3H e3I => ?_
  refine ⟨(e3I _ (Inv.f5Y b9z b0x)), (e3I _ (Inv.e3r ((b9z.bring 3).bring 1))), ?_⟩
  refine l9 (e3H.bring 1) Tryz.sizeOf59 (vs := (d5 b5s)) (cs' := (d5 b5s)) rfl rfl (nb rfl) rfl rfl fun W9 h8O i4k => ?_
  exact hx1 _ _ (hj1 b5s a4T h8M h8N H _ ((((h8O.bring 3).bring 3).bring 3).bring 3) h)
theorem b4h (x0 : b9) (x1 : Int) (x2 : Int) {H : Hp} {K : b9 → Hp → Prop} (h : a2u x0 x1 x2 H K) : a2h x0 x1 x2 H K := by
 intro w I
 refine g5u ?_
 refine b3G x0 x1 x2 I (fun r0 H' w' I' hk => ⟨H', _, I', r0, rfl, rfl, hk⟩) h
def T9 (y6 : b9) (o4 : b9) (H : Hp) (K : b9 → Hp → Prop) : Prop :=
 K y6 H
def a3J (x0 : b9) (H : Hp) (K : b9 → Hp → Prop) : Prop :=
 D3 x0.f2 H (fun (t1 : Sl) (a1P : Hp) =>
 L9 x0.r7 a1P (fun (r9 : Sl) (a1m : Hp) =>
 (x0.a8 = 3 →
 (0 : Int) ≤ 0 ∧ (0 : Int) < t1.n ∧ ∃ d7T : b6, EltH a1m t1 0 4 (b7 d7T) ∧
 P5 d7T a1m (fun (b7O : Int) (b2g : Bool) (a8p : Hp) =>
 (0 : Int) ≤ 1 ∧ (1 : Int) < t1.n ∧ ∃ d7U : b6, EltH a8p t1 1 4 (b7 d7U) ∧
 P5 d7U a8p (fun (b7S : Int) (c8b : Bool) (c2W : Hp) =>
 ((b2g && c8b) = true →
 a8K x0.fOp b7O b7S c2W (fun (a4f : Bool) (a8L : Hp) =>
 a3g a4f a8L (fun (a5B : b9) (a5X : Hp) =>
 K a5B a5X))) ∧
 ((b2g && c8b) = false →
 T9 (b9.mk x0.a8 x0.fOp t1 r9) (b9.mk 0 0 (Sl.mk none 0 0) (Sl.mk none 0 0)) c2W K)))) ∧
 (¬ (x0.a8 = 3) →
 (x0.a8 = 4 →
 (0 : Int) ≤ 0 ∧ (0 : Int) < r9.n ∧ ∃ c0a : b9, EltH a1m r9 0 4 (d5 c0a) ∧
 (((decide (c0a.a8 = 1)) || (decide (c0a.a8 = 2))) = true →
 a3g (decide (c0a.a8 = 2)) a1m (fun (b6f : b9) (d7V : Hp) =>
 K b6f d7V)) ∧
 (((decide (c0a.a8 = 1)) || (decide (c0a.a8 = 2))) = false →
 T9 (b9.mk x0.a8 x0.fOp t1 r9) (b9.mk 0 0 (Sl.mk none 0 0) (Sl.mk none 0 0)) a1m K)) ∧
 (¬ (x0.a8 = 4) →
 (x0.a8 = 5 →
 a2h (b9.mk x0.a8 x0.fOp t1 r9) 1 2 a1m (fun (b6g : b9) (d7W : Hp) =>
 K b6g d7W)) ∧
 (¬ (x0.a8 = 5) →
 (x0.a8 = 6 →
 a2h (b9.mk x0.a8 x0.fOp t1 r9) 2 1 a1m (fun (b6h : b9) (d7X : Hp) =>
 K b6h d7X)) ∧
 (¬ (x0.a8 = 6) →
 T9 (b9.mk x0.a8 x0.fOp t1 r9) (b9.mk 0 0 (Sl.mk none 0 0) (Sl.mk none 0 0)) a1m K))))))
theorem b5t (x0 : b9) {K : b9 → Hp → Prop} (I : Inv w0 ps0 H0 H [] w) (hR : ∀ (r0 : b9) (H' : Hp) (w' : World) (_ : Inv w0 ps0 H0 H' [] w') (_ : K r0 H'), R (Value.agg (d5 r0).toArray) w') (h : a3J x0 H K) : F42 (Value.agg (d5 x0).toArray) w R E := by
 unfold a3J at h
 unfold F42
 refine M4 I (cs := (d5 x0)) rfl fun g_2 w_3 I_4 k_5 => ?_
 refine u1 I_4 Tryz.zeroValue59 (cs := [(vi 0), (vi 0), (nS), (nS)]) rfl fun g_7 w_8 I_9 a9J => ?_
 refine V0 I_9 fun R7 D8 => ?_
 refine l7 a1C ?_
 refine l7 V3 ?_
 refine t6 (ld1 Tryz.isAgg51 ((D8.bring 1).at1 (o := 2) (vs := [(vs x0.f2)]) (nb rfl) rfl)) ?_
 refine t6 (ld1 Tryz.isAgg57 ((D8.bring 1).at1 (o := 3) (vs := [(vs x0.r7)]) (nb rfl) rfl)) ?_
 refine d8 (cap := []) (fun args w => Tryz.call66 args w) ?_
 refine m4 (Fi := []) (Fr := [bx g_7 59 [(vi 0), (vi 0), (nS), (nS)], bx g_2 59 (d5 x0)]) D8 (h) (fun g5K a1P g5L o8 b3a g5M b6Z d1S => ?_) (fun _ _ _ _ _ q => q.elim)
 obtain ⟨t1, rfl, rfl, h⟩ := d1S
 refine ⟨(b6Z _ (D8.bring 1).lt1 (Inv.a3r (Fi := []) (D8.bring 1))), ?_⟩
 refine l7 a1C ?_
 refine d8 (cap := []) (fun args w => Tryz.call71 args w) ?_
 refine m4 (Fi := []) (Fr := [bx g_7 59 [(vi 0), (vi 0), (nS), (nS)], bx g_2 59 (d5 x0)]) b3a (h) (fun e3W a1m a9E a0y a4m e3X c6e c2m => ?_) (fun _ _ _ _ _ q => q.elim)
 obtain ⟨r9, rfl, rfl, h⟩ := c2m
 refine l9 (a4m.bring 1) Tryz.sizeOf51 (vs := [(vs t1)]) (cs' := [(vi x0.a8), (vi x0.fOp), (vs t1), (vs x0.r7)]) rfl rfl (nb rfl) rfl rfl fun a8o c0b e5w => ?_
 refine l7 V3 ?_
 refine l9 c0b Tryz.sizeOf57 (vs := [(vs r9)]) (cs' := [(vi x0.a8), (vi x0.fOp), (vs t1), (vs r9)]) rfl rfl (nb rfl) rfl rfl fun A6 a4U c2V => ?_
 have hj1 : ∀ (H : Hp) (w : World) (_ : Inv w0 ps0 H0 H [bx g_2 59 [(vi (b9.mk x0.a8 x0.fOp t1 r9).a8), (vi (b9.mk x0.a8 x0.fOp t1 r9).fOp), (Value.slice (b9.mk x0.a8 x0.fOp t1 r9).f2.a (b9.mk x0.a8 x0.fOp t1 r9).f2.n (b9.mk x0.a8 x0.fOp t1 r9).f2.c), (Value.slice (b9.mk x0.a8 x0.fOp t1 r9).r7.a (b9.mk x0.a8 x0.fOp t1 r9).r7.n (b9.mk x0.a8 x0.fOp t1 r9).r7.c)], bx g_7 59 [(vi (b9.mk 0 0 (Sl.mk none 0 0) (Sl.mk none 0 0)).a8), (vi (b9.mk 0 0 (Sl.mk none 0 0) (Sl.mk none 0 0)).fOp), (Value.slice (b9.mk 0 0 (Sl.mk none 0 0) (Sl.mk none 0 0)).f2.a (b9.mk 0 0 (Sl.mk none 0 0) (Sl.mk none 0 0)).f2.n (b9.mk 0 0 (Sl.mk none 0 0) (Sl.mk none 0 0)).f2.c), (Value.slice (b9.mk 0 0 (Sl.mk none 0 0) (Sl.mk none 0 0)).r7.a (b9.mk 0 0 (Sl.mk none 0 0) (Sl.mk none 0 0)).r7.n (b9.mk 0 0 (Sl.mk none 0 0) (Sl.mk none 0 0)).r7.c)]] w) (_ : T9 (b9.mk x0.a8 x0.fOp t1 r9) (b9.mk 0 0 (Sl.mk none 0 0) (Sl.mk none 0 0)) H K), d1w (Value.pointer (some ⟨g_2, 0, none⟩)) (Value.pointer (some ⟨g_7, 0, none⟩)) w R E := by
  intro H w I h
  unfold d1w
  intro _
  unfold T9 at h
  refine d6 (ldA Tryz.isAgg59 Tryz.sizeOf59 rfl (I.at1 (o := 0) (vs := [(vi (b9.mk x0.a8 x0.fOp t1 r9).a8), (vi (b9.mk x0.a8 x0.fOp t1 r9).fOp), (Value.slice (b9.mk x0.a8 x0.fOp t1 r9).f2.a (b9.mk x0.a8 x0.fOp t1 r9).f2.n (b9.mk x0.a8 x0.fOp t1 r9).f2.c), (Value.slice (b9.mk x0.a8 x0.fOp t1 r9).r7.a (b9.mk x0.a8 x0.fOp t1 r9).r7.n (b9.mk x0.a8 x0.fOp t1 r9).r7.c)]) (nb rfl) rfl)) ?_
  refine l9 (I.bring 1) Tryz.sizeOf59 (vs := [(vi (b9.mk x0.a8 x0.fOp t1 r9).a8), (vi (b9.mk x0.a8 x0.fOp t1 r9).fOp), (Value.slice (b9.mk x0.a8 x0.fOp t1 r9).f2.a (b9.mk x0.a8 x0.fOp t1 r9).f2.n (b9.mk x0.a8 x0.fOp t1 r9).f2.c), (Value.slice (b9.mk x0.a8 x0.fOp t1 r9).r7.a (b9.mk x0.a8 x0.fOp t1 r9).r7.n (b9.mk x0.a8 x0.fOp t1 r9).r7.c)]) (cs' := [(vi (b9.mk x0.a8 x0.fOp t1 r9).a8), (vi (b9.mk x0.a8 x0.fOp t1 r9).fOp), (Value.slice (b9.mk x0.a8 x0.fOp t1 r9).f2.a (b9.mk x0.a8 x0.fOp t1 r9).f2.n (b9.mk x0.a8 x0.fOp t1 r9).f2.c), (Value.slice (b9.mk x0.a8 x0.fOp t1 r9).r7.a (b9.mk x0.a8 x0.fOp t1 r9).r7.n (b9.mk x0.a8 x0.fOp t1 r9).r7.c)]) rfl rfl (nb rfl) rfl rfl fun a3y g5N i4l => ?_
  refine J0 Tryz.isAgg59 Tryz.sizeOf59 rfl (g5N.at1 (o := 0) (vs := [(vi (b9.mk x0.a8 x0.fOp t1 r9).a8), (vi (b9.mk x0.a8 x0.fOp t1 r9).fOp), (Value.slice (b9.mk x0.a8 x0.fOp t1 r9).f2.a (b9.mk x0.a8 x0.fOp t1 r9).f2.n (b9.mk x0.a8 x0.fOp t1 r9).f2.c), (Value.slice (b9.mk x0.a8 x0.fOp t1 r9).r7.a (b9.mk x0.a8 x0.fOp t1 r9).r7.n (b9.mk x0.a8 x0.fOp t1 r9).r7.c)]) (nb rfl) rfl) ?_
  exact hR (b9.mk x0.a8 x0.fOp t1 r9) H _ g5N.drop.drop h
 refine v8 fun j1 hx1 => ?_
 refine a7 a2U ?_
 refine d6 (ld1 Tryz.isAgg3 (a4U.at1 (o := 0) (vs := [(vi x0.a8)]) (nb rfl) rfl)) ?_
 refine a7 (m5 _ _ _ _ _ _) ?_
 refine i8 (fun d7Y => ?_) (fun d7Y => ?_)
 ·replace h := h.1 d7Y
  refine a7 a1C ?_
  refine d6 (ld1 Tryz.isAgg51 (a4U.at1 (o := 2) (vs := [(vs t1)]) (nb rfl) rfl)) ?_
  obtain ⟨h8P, b7L, d7T, a3B, h⟩ := h
  obtain ⟨i4m, i4n, a1l, a3B⟩ := a3B
  refine a7 (M1 a1l _ _ _ _ h8P b7L) ?_
  refine d6 (ldA (vs := (b7 d7T)) Tryz.isAgg53 Tryz.sizeOf53 rfl (a4U.atH a3B)) ?_
  refine d8 (cap := []) (fun args w => Tryz.call67 args w) ?_
  refine m4 (Fi := []) (Fr := [bx g_2 59 [(vi x0.a8), (vi x0.fOp), (vs t1), (vs r9)], bx g_7 59 [(vi 0), (vi 0), (nS), (nS)]]) a4U (h) (fun h8x a8p h8y a8H a9c X2 h8z e5n => ?_) (fun _ _ _ _ _ q => q.elim)
  obtain ⟨b7O, b2g, rfl, rfl, h⟩ := e5n
  refine a7 (m2 _ _ (vi b7O) rfl) ?_
  refine a7 (m2 _ _ (vB b2g) rfl) ?_
  refine a7 a1C ?_
  refine d6 (ld1 Tryz.isAgg51 (a9c.at1 (o := 2) (vs := [(vs t1)]) (nb rfl) rfl)) ?_
  obtain ⟨e4d, h8Q, d7U, e5x, h⟩ := h
  obtain ⟨i4o, i4p, h8R, e5x⟩ := e5x
  refine a7 (M1 h8R _ _ _ _ e4d h8Q) ?_
  refine d6 (ldA (vs := (b7 d7U)) Tryz.isAgg53 Tryz.sizeOf53 rfl (a9c.atH e5x)) ?_
  refine d8 (cap := []) (fun args w => Tryz.call67 args w) ?_
  refine m4 (Fi := []) (Fr := [bx g_2 59 [(vi x0.a8), (vi x0.fOp), (vs t1), (vs r9)], bx g_7 59 [(vi 0), (vi 0), (nS), (nS)]]) a9c (h) (fun h8S c2W h8T b7i d1T h8U h8V e5y => ?_) (fun _ _ _ _ _ q => q.elim)
  obtain ⟨b7S, c8b, rfl, rfl, h⟩ := e5y
  refine a7 (m2 _ _ (vi b7S) rfl) ?_
  refine a7 (m2 _ _ (vB c8b) rfl) ?_
  simp only [Q0]
  refine a7 (P7 _ _) ?_
  refine s6 (fun e5z => ?_) (fun e5z => ?_)
  ·replace h := h.1 e5z
   refine a7 a9q ?_
   refine d6 (ld1 Tryz.isAgg3 (d1T.at1 (o := 1) (vs := [(vi x0.fOp)]) (nb rfl) rfl)) ?_
   refine d8 (cap := []) (fun args w => Tryz.call73 args w) ?_
   refine m4 (Fi := []) (Fr := [bx g_2 59 [(vi x0.a8), (vi x0.fOp), (vs t1), (vs r9)], bx g_7 59 [(vi 0), (vi 0), (nS), (nS)]]) d1T (h) (fun c5W a8L e3J S3 b2S e3K d6f c2d => ?_) (fun _ _ _ _ _ q => q.elim)
   obtain ⟨a4f, rfl, rfl, h⟩ := c2d
   refine d8 (cap := []) (fun args w => Tryz.call72 args w) ?_
   refine m4 (Fi := []) (Fr := [bx g_2 59 [(vi x0.a8), (vi x0.fOp), (vs t1), (vs r9)], bx g_7 59 [(vi 0), (vi 0), (nS), (nS)]]) b2S (h) (fun c9Y a5X g0y a5Y b9p d6g d6h d0a => ?_) (fun _ _ _ _ _ q => q.elim)
   obtain ⟨a5B, rfl, rfl, h⟩ := d0a
   refine l9 (b9p.bring 1) Tryz.sizeOf59 (vs := (d5 a5B)) (cs' := (d5 a5B)) rfl rfl (nb rfl) rfl rfl fun b9W g5O i4q => ?_
   refine J0 Tryz.isAgg59 Tryz.sizeOf59 rfl (g5O.at1 (o := 0) (vs := (d5 a5B)) (nb rfl) rfl) ?_
   exact hR a5B a5X _ g5O.drop.drop h
  ·replace h := h.2 e5z
   exact hx1 _ _ (hj1 c2W _ ((d1T.bring 1).bring 1) h)
 ·replace h := h.2 d7Y
  refine a7 (m5 _ _ _ _ _ _) ?_
  refine i8 (fun d7Z => ?_) (fun d7Z => ?_)
  ·replace h := h.1 d7Z
   refine a7 V3 ?_
   refine d6 (ld1 Tryz.isAgg57 (a4U.at1 (o := 3) (vs := [(vs r9)]) (nb rfl) rfl)) ?_
   obtain ⟨c2S, h8W, c0a, d8a, h⟩ := h
   obtain ⟨i4r, i4s, h8X, d8a⟩ := d8a
   refine a7 (a1B h8X _ _ _ _ c2S h8W) ?_
   refine a7 a2U ?_
   refine d6 (ld1 (v := (vi c0a.a8)) Tryz.isAgg3 ((a4U.atH d8a).sub (k := 0) (n := 1) (nb rfl))) ?_
   refine a7 (m5 _ _ _ _ _ _) ?_
   simp only [Q0]
   refine a7 (Pu.g fun hb => by have i5 := hb; simp only [r8 i5]; exact (m5 _ _ _ _ _ _)) ?_
   refine a7 (a0E _ _) ?_
   refine s6 (fun d8b => ?_) (fun d8b => ?_)
   ·replace h := h.1 d8b
    refine a7 (m5 _ _ _ _ _ _) ?_
    refine d8 (cap := []) (fun args w => Tryz.call72 args w) ?_
    refine m4 (Fi := []) (Fr := [bx g_2 59 [(vi x0.a8), (vi x0.fOp), (vs t1), (vs r9)], bx g_7 59 [(vi 0), (vi 0), (nS), (nS)]]) a4U (h) (fun i1e d7V i1f Z5 h3J i1g i1h h3K => ?_) (fun _ _ _ _ _ q => q.elim)
    obtain ⟨b6f, rfl, rfl, h⟩ := h3K
    refine l9 (h3J.bring 1) Tryz.sizeOf59 (vs := (d5 b6f)) (cs' := (d5 b6f)) rfl rfl (nb rfl) rfl rfl fun a8B e8x i1i => ?_
    refine J0 Tryz.isAgg59 Tryz.sizeOf59 rfl (e8x.at1 (o := 0) (vs := (d5 b6f)) (nb rfl) rfl) ?_
    exact hR b6f d7V _ e8x.drop.drop h
   ·replace h := h.2 d8b
    exact hx1 _ _ (hj1 a1m _ ((a4U.bring 1).bring 1) h)
  ·replace h := h.2 d7Z
   refine a7 (m5 _ _ _ _ _ _) ?_
   refine i8 (fun d8c => ?_) (fun d8c => ?_)
   ·replace h := h.1 d8c
    refine d6 (ldA Tryz.isAgg59 Tryz.sizeOf59 rfl (a4U.at1 (o := 0) (vs := [(vi x0.a8), (vi x0.fOp), (vs t1), (vs r9)]) (nb rfl) rfl)) ?_
    refine d8 (cap := []) (fun args w => Tryz.call74 args w) ?_
    refine m4 (Fi := []) (Fr := [bx g_2 59 [(vi x0.a8), (vi x0.fOp), (vs t1), (vs r9)], bx g_7 59 [(vi 0), (vi 0), (nS), (nS)]]) a4U (h) (fun i1j d7W i1k c4C h3L i1l i1m h3M => ?_) (fun _ _ _ _ _ q => q.elim)
    obtain ⟨b6g, rfl, rfl, h⟩ := h3M
    refine l9 (h3L.bring 1) Tryz.sizeOf59 (vs := (d5 b6g)) (cs' := (d5 b6g)) rfl rfl (nb rfl) rfl rfl fun i1n e8y i1o => ?_
    refine J0 Tryz.isAgg59 Tryz.sizeOf59 rfl (e8y.at1 (o := 0) (vs := (d5 b6g)) (nb rfl) rfl) ?_
    exact hR b6g d7W _ e8y.drop.drop h
   ·replace h := h.2 d8c
    refine a7 (m5 _ _ _ _ _ _) ?_
    refine i8 (fun d8d => ?_) (fun d8d => ?_)
    ·replace h := h.1 d8d
     refine d6 (ldA Tryz.isAgg59 Tryz.sizeOf59 rfl (a4U.at1 (o := 0) (vs := [(vi x0.a8), (vi x0.fOp), (vs t1), (vs r9)]) (nb rfl) rfl)) ?_
     refine d8 (cap := []) (fun args w => Tryz.call74 args w) ?_
     refine m4 (Fi := []) (Fr := [bx g_2 59 [(vi x0.a8), (vi x0.fOp), (vs t1), (vs r9)], bx g_7 59 [(vi 0), (vi 0), (nS), (nS)]]) a4U (h) (fun i1p d7X i1q h3N h3O i1r i1s h3P => ?_) (fun _ _ _ _ _ q => q.elim)
     obtain ⟨b6h, rfl, rfl, h⟩ := h3P
     refine l9 (h3O.bring 1) Tryz.sizeOf59 (vs := (d5 b6h)) (cs' := (d5 b6h)) rfl rfl (nb rfl) rfl rfl fun i1t e8z i1u => ?_
     refine J0 Tryz.isAgg59 Tryz.sizeOf59 rfl (e8z.at1 (o := 0) (vs := (d5 b6h)) (nb rfl) rfl) ?_
     exact hR b6h d7X _ e8z.drop.drop h
    ·replace h := h.2 d8d
     exact hx1 _ _ (hj1 a1m _ ((a4U.bring 1).bring 1) h)
theorem b6i (x0 : b9) {H : Hp} {K : b9 → Hp → Prop} (h : a3J x0 H K) : a3F x0 H K := by
 intro w I
 refine g4j ?_
 refine b5t x0 I (fun r0 H' w' I' hk => ⟨H', _, I', r0, rfl, rfl, hk⟩) h
def a3K (x0 : b9) (H : Hp) (K : b9 → Int → Hp → Prop) : Prop :=
 a7u x0 H (fun (m7 : Int) (T8 : Hp) =>
 (¬ (m7 = 0) →
 K (b9.mk 0 0 (Sl.mk none 0 0) (Sl.mk none 0 0)) m7 T8) ∧
 (m7 = 0 →
 a3F x0 T8 (fun (a3i : b9) (a5u : Hp) =>
 K a3i 0 a5u)))
theorem b5u (x0 : b9) {K : b9 → Int → Hp → Prop} (I : Inv w0 ps0 H0 H [] w) (hR : ∀ (r0 : b9) (r1 : Int) (H' : Hp) (w' : World) (_ : Inv w0 ps0 H0 H' [] w') (_ : K r0 r1 H'), R (Value.tuple #[(Value.agg (d5 r0).toArray), (vi r1)]) w') (h : a3K x0 H K) : F23 (Value.agg (d5 x0).toArray) w R E := by
 unfold a3K at h
 unfold F23
 refine M4 I (cs := (d5 x0)) rfl fun g_2 w_3 I_4 k_5 => ?_
 refine u1 I_4 Tryz.zeroValue59 (cs := [(vi 0), (vi 0), (nS), (nS)]) rfl fun g_7 w_8 I_9 a9J => ?_
 refine d6 (ldA Tryz.isAgg59 Tryz.sizeOf59 rfl ((I_9.bring 1).at1 (o := 0) (vs := (d5 x0)) (nb rfl) rfl)) ?_
 refine d8 (cap := []) (fun args w => Tryz.call41 args w) ?_
 refine m4 (Fi := []) (Fr := [bx g_7 59 [(vi 0), (vi 0), (nS), (nS)], bx g_2 59 (d5 x0)]) I_9 (h) (fun b7Q T8 b9Z p7 a2f b5m b5p b0B => ?_) (fun _ _ _ _ _ q => q.elim)
 obtain ⟨m7, rfl, rfl, h⟩ := b0B
 refine a7 (T0 _ _ _ _ _ _) ?_
 refine a2C (fun c2T => ?_) (fun c2T => ?_)
 ·replace h := h.1 c2T
  refine a7 (d9F ) ?_
  refine l9 a2f Tryz.sizeOf59 (vs := [(vi 0), (vi 0), (nS), (nS)]) (cs' := [(vi 0), (vi 0), (nS), (nS)]) rfl rfl (nb rfl) rfl rfl fun t7 a0B b6T => ?_
  refine J0 Tryz.isAgg59 Tryz.sizeOf59 rfl (a0B.at1 (o := 0) (vs := [(vi 0), (vi 0), (nS), (nS)]) (nb rfl) rfl) ?_
  exact hR (b9.mk 0 0 (Sl.mk none 0 0) (Sl.mk none 0 0)) m7 T8 _ a0B.drop.drop h
 ·replace h := h.2 c2T
  refine d6 (ldA Tryz.isAgg59 Tryz.sizeOf59 rfl ((a2f.bring 1).at1 (o := 0) (vs := (d5 x0)) (nb rfl) rfl)) ?_
  refine d8 (cap := []) (fun args w => Tryz.call42 args w) ?_
  refine m4 (Fi := []) (Fr := [bx g_7 59 [(vi 0), (vi 0), (nS), (nS)], bx g_2 59 (d5 x0)]) a2f (h) (fun e4g a5u d0d v6 a5Z e4h d6j c2q => ?_) (fun _ _ _ _ _ q => q.elim)
  obtain ⟨a3i, rfl, rfl, h⟩ := c2q
  refine l9 a5Z Tryz.sizeOf59 (vs := (d5 a3i)) (cs' := (d5 a3i)) rfl rfl (nb rfl) rfl rfl fun D6 b3h d6o => ?_
  refine J0 Tryz.isAgg59 Tryz.sizeOf59 rfl (b3h.at1 (o := 0) (vs := (d5 a3i)) (nb rfl) rfl) ?_
  exact hR a3i 0 a5u _ b3h.drop.drop h
theorem b6j (x0 : b9) {H : Hp} {K : b9 → Int → Hp → Prop} (h : a3K x0 H K) : a5V x0 H K := by
 intro w I
 refine g2U ?_
 refine b5u x0 I (fun r0 r1 H' w' I' hk => ⟨H', _, I', r0, r1, rfl, rfl, hk⟩) h
def a0L (H : Hp) (K : Bool → Hp → Prop) : Prop :=
 T5 1 H (fun (M3 : b6) (H_1 : Hp) =>
 T5 2 H_1 (fun (L4 : b6) (a5t : Hp) =>
 ∀ (c2X : Sl) (b9B : Hp), Hle a5t b9B → SlH b9B 4 b7 c2X [M3, L4] → c2X.n ≤ c2X.c →
 ∀ (a4j : Sl) (b1z : Hp), Hle b9B b1z → SlH b1z 4 b7 a4j [(b6.mk 6 0 ⟨#[]⟩ c2X), (b6.mk 2 0 ⟨#[120]⟩ (Sl.mk none 0 0))] → a4j.n ≤ a4j.c →
 a5T (b6.mk 8 0 ⟨#[]⟩ a4j) b1z (fun (N7 : b6) (a9Q : Int) (a4E : Hp) =>
 T5 1 a4E (fun (b7S : b6) (c2W : Hp) =>
 T5 2 c2W (fun (a4f : b6) (a8L : Hp) =>
 ∀ (c6q : Sl) (d1U : Hp), Hle a8L d1U → SlH d1U 4 b7 c6q [b7S, a4f] → c6q.n ≤ c6q.c →
 a5V (b9.mk 3 1 c6q (Sl.mk none 0 0)) d1U (fun (c1f : b9) (c1g : Int) (d1V : Hp) =>
 ∃ a6L : b6, (((((decide (a9Q = 0)) && (decide (c1g = 0))) && (decide (N7.a8 = 8))) && (decide ((N7.o0.n : Int) = 2))) = true → (0 : Int) ≤ 0 ∧ (0 : Int) < N7.o0.n ∧ EltH d1V N7.o0 0 4 (b7 a6L)) ∧
 ∃ c4S : b6, ((((((decide (a9Q = 0)) && (decide (c1g = 0))) && (decide (N7.a8 = 8))) && (decide ((N7.o0.n : Int) = 2))) && (decide (a6L.a8 = 1))) = true → (0 : Int) ≤ 0 ∧ (0 : Int) < N7.o0.n ∧ EltH d1V N7.o0 0 4 (b7 c4S)) ∧
 K (((((((decide (a9Q = 0)) && (decide (c1g = 0))) && (decide (N7.a8 = 8))) && (decide ((N7.o0.n : Int) = 2))) && (decide (a6L.a8 = 1))) && (decide (c4S.o2 = 3))) && (decide (c1f.a8 = 1))) d1V))))))
theorem b1n {K : Bool → Hp → Prop} (I : Inv w0 ps0 H0 H [] w) (hR : ∀ (r0 : Bool) (H' : Hp) (w' : World) (_ : Inv w0 ps0 H0 H' [] w') (_ : K r0 H'), R (vB r0) w') (h : a0L H K) : F8 w R E := by
 unfold a0L at h
 unfold F8
 refine d8 (cap := []) (fun args w => Tryz.call22 args w) ?_
 refine m4 (Fi := []) (Fr := []) I (h) (fun v_5 H_1 F_6 w_2 I_3 l_8 k_4 q_7 => ?_) (fun _ _ _ _ _ q => q.elim)
 obtain ⟨M3, rfl, rfl, h⟩ := q_7
 refine d8 (cap := []) (fun args w => Tryz.call22 args w) ?_
 refine m4 (Fi := []) (Fr := []) I_3 (h) (fun c9R a5t g0w R7 D8 c2c b6S c9T => ?_) (fun _ _ _ _ _ q => q.elim)
 obtain ⟨L4, rfl, rfl, h⟩ := c9T
 refine a0m (e := 53) (c := b7) (xs := [M3, L4]) D8 (c5t _ _ _ _ _ _ _ _ _ _ _ _) rfl rfl a1X a1Y (nb rfl) fun c2X b4V u6 c2D a4m c6e => ?_
 refine a7 (b1t _ _ _ _) ?_
 refine a7 (c7r _ _) ?_
 obtain ⟨b9B, a7E, d0i, a4D, d0e⟩ := Inv.freezeC a4m c2D (by decide)
 replace h := h c2X b9B d0i a4D d0e
 refine a0m (e := 53) (c := b7) (xs := [(b6.mk 6 0 ⟨#[]⟩ c2X), (b6.mk 2 0 ⟨#[120]⟩ (Sl.mk none 0 0))]) a7E (c5t _ _ _ _ _ _ _ _ _ _ _ _) rfl rfl a1X a1Y (nb rfl) fun a4j a6B A6 a3Q a3C b2U => ?_
 refine a7 (b1t _ _ _ _) ?_
 obtain ⟨b1z, e5A, d7j, b7L, a1l⟩ := Inv.freezeC a3C a3Q (by decide)
 replace h := h a4j b1z d7j b7L a1l
 refine d8 (cap := []) (fun args w => Tryz.call21 args w) ?_
 refine m4 (Fi := []) (Fr := []) e5A (h) (fun e3Z a4E e4a K6 b5b e4b e4c c2o => ?_) (fun _ _ _ _ _ q => q.elim)
 obtain ⟨N7, a9Q, rfl, rfl, h⟩ := c2o
 refine a7 (m2 _ _ _ rfl) ?_
 refine a7 (m2 _ _ (vi a9Q) rfl) ?_
 refine u1 b5b Tryz.zeroValue53 (cs := [(vi 0), (vi 0), (eS), (nS)]) rfl fun e5B O0 c6p g5G => ?_
 refine l9 c6p Tryz.sizeOf53 (vs := (b7 N7)) (cs' := (b7 N7)) rfl rfl (nb rfl) rfl rfl fun b3o b0v b9C => ?_
 refine d8 (cap := []) (fun args w => Tryz.call22 args w) ?_
 refine m4 (Fi := []) (Fr := [bx e5B 53 (b7 N7)]) b0v (h) (fun h8S c2W h8T b7i d1T h8U h8V e5y => ?_) (fun _ _ _ _ _ q => q.elim)
 obtain ⟨b7S, rfl, rfl, h⟩ := e5y
 refine d8 (cap := []) (fun args w => Tryz.call22 args w) ?_
 refine m4 (Fi := []) (Fr := [bx e5B 53 (b7 N7)]) d1T (h) (fun c5W a8L e3J S3 b2S e3K d6f c2d => ?_) (fun _ _ _ _ _ q => q.elim)
 obtain ⟨a4f, rfl, rfl, h⟩ := c2d
 refine a0m (e := 53) (c := b7) (xs := [b7S, a4f]) b2S (c5t _ _ _ _ _ _ _ _ _ _ _ _) rfl rfl a1X a1Y (nb rfl) fun c6q i4t b5l h8Y h8Z i4u => ?_
 refine a7 (c3F _ _ _ _ _) ?_
 obtain ⟨d1U, h9a, h9b, h9c, h9d⟩ := Inv.freezeC h8Z h8Y (by decide)
 replace h := h c6q d1U h9b h9c h9d
 refine d8 (cap := []) (fun args w => Tryz.call23 args w) ?_
 refine m4 (Fi := []) (Fr := [bx e5B 53 (b7 N7)]) h9a (h) (fun i4v d1V h9e a8n c6r f8Y i4w h9f => ?_) (fun _ _ _ _ _ q => q.elim)
 obtain ⟨c1f, c1g, rfl, rfl, h⟩ := h9f
 refine a7 (m2 _ _ _ rfl) ?_
 refine a7 (m2 _ _ (vi c1g) rfl) ?_
 refine u1 c6r Tryz.zeroValue59 (cs := [(vi 0), (vi 0), (nS), (nS)]) rfl fun i1v b7H h3Q i1w => ?_
 refine l9 h3Q Tryz.sizeOf59 (vs := (d5 c1f)) (cs' := (d5 c1f)) rfl rfl (nb rfl) rfl rfl fun a0H b4A i1x => ?_
 refine a7 (m5 _ _ _ _ _ _) ?_
 simp only [Q0]
 refine a7 (Pu.g fun hb => by have i5 := hb; simp only [r8 i5]; exact (m5 _ _ _ _ _ _)) ?_
 refine a7 (P7 _ _) ?_
 refine a7 (Pu.g fun hb => by have i5 := hb; exact Q4) ?_
 refine d6 (Ld.g fun hb => by have i5 := hb; simp only [r8 i5]; exact (ld1 Tryz.isAgg3 ((b4A.bring 1).at1 (o := 0) (vs := [(vi N7.a8)]) (nb rfl) rfl))) ?_
 refine a7 (Pu.g fun hb => by have i5 := hb; simp only [r8 i5]; exact (m5 _ _ _ _ _ _)) ?_
 refine a7 (P7 _ _) ?_
 refine a7 (Pu.g fun hb => by have i5 := hb; exact K4) ?_
 refine d6 (Ld.g fun hb => by have i5 := hb; simp only [r8 i5]; exact (ld1 Tryz.isAgg51 ((b4A.bring 1).at1 (o := 3) (vs := [(vs N7.o0)]) (nb rfl) rfl))) ?_
 refine a7 (Pu.g fun hb => by have i5 := hb; simp only [r8 i5]; exact (a1Z _ _ _)) ?_
 refine a7 (Pu.g fun hb => by have i5 := hb; simp only [r8 i5]; exact (m5 _ _ _ _ _ _)) ?_
 refine a7 (P7 _ _) ?_
 refine a7 (Pu.g fun hb => by have i5 := hb; exact K4) ?_
 refine d6 (Ld.g fun hb => by have i5 := hb; simp only [r8 i5]; exact (ld1 Tryz.isAgg51 ((b4A.bring 1).at1 (o := 3) (vs := [(vs N7.o0)]) (nb rfl) rfl))) ?_
 obtain ⟨a6L, b0U, h⟩ := h
 obtain ⟨h3z, h3A, b0U⟩ := c3y b0U
 refine a7 (Pu.g fun hb => by have i5 := hb; simp only [r8 i5]; exact (M1 (b0U hb).2.2.1 _ _ _ _ (b0U hb).1 (b0U hb).2.1)) ?_
 refine a7 (Pu.g fun hb => by have i5 := hb; simp only [r8 i5]; exact Q4) ?_
 refine d6 (Ld.g fun hb => by have i5 := hb; simp only [r8 i5]; exact (ld1 (v := (vi a6L.a8)) Tryz.isAgg3 ((b4A.atH (b0U hb).2.2.2).sub (k := 0) (n := 1) (nb rfl)))) ?_
 refine a7 (Pu.g fun hb => by have i5 := hb; simp only [r8 i5]; exact (m5 _ _ _ _ _ _)) ?_
 refine a7 (P7 _ _) ?_
 refine a7 (Pu.g fun hb => by have i5 := hb; exact K4) ?_
 refine d6 (Ld.g fun hb => by have i5 := hb; simp only [r8 i5]; exact (ld1 Tryz.isAgg51 ((b4A.bring 1).at1 (o := 3) (vs := [(vs N7.o0)]) (nb rfl) rfl))) ?_
 obtain ⟨c4S, c1h, h⟩ := h
 obtain ⟨i1y, i1z, c1h⟩ := c3y c1h
 refine a7 (Pu.g fun hb => by have i5 := hb; simp only [r8 i5]; exact (M1 (c1h hb).2.2.1 _ _ _ _ (c1h hb).1 (c1h hb).2.1)) ?_
 refine a7 (Pu.g fun hb => by have i5 := hb; simp only [r8 i5]; exact a6g) ?_
 refine d6 (Ld.g fun hb => by have i5 := hb; simp only [r8 i5]; exact (ld1 (v := (vi c4S.o2)) Tryz.isAgg2 ((b4A.atH (c1h hb).2.2.2).sub (k := 1) (n := 1) (nb rfl)))) ?_
 refine a7 (Pu.g fun hb => by have i5 := hb; simp only [r8 i5]; exact (m5 _ _ _ _ _ _)) ?_
 refine a7 (P7 _ _) ?_
 refine a7 (Pu.g fun hb => by have i5 := hb; exact a2U) ?_
 refine d6 (Ld.g fun hb => by have i5 := hb; simp only [r8 i5]; exact (ld1 Tryz.isAgg3 (b4A.at1 (o := 0) (vs := [(vi c1f.a8)]) (nb rfl) rfl))) ?_
 refine a7 (Pu.g fun hb => by have i5 := hb; simp only [r8 i5]; exact (m5 _ _ _ _ _ _)) ?_
 refine a7 (P7 _ _) ?_
 exact hR (((((((decide (a9Q = 0)) && (decide (c1g = 0))) && (decide (N7.a8 = 8))) && (decide ((N7.o0.n : Int) = 2))) && (decide (a6L.a8 = 1))) && (decide (c4S.o2 = 3))) && (decide (c1f.a8 = 1))) d1V _ b4A.drop.drop h
theorem b1J {H : Hp} {K : Bool → Hp → Prop} (h : a0L H K) : a3O H K := by
 intro w I
 refine h2V ?_
 refine b1n I (fun r0 H' w' I' hk => ⟨H', _, I', r0, rfl, rfl, hk⟩) h
def Z9 (i4x : Int) (i1A : (List d7)) (i4y : Sl) (c0c : (List d7)) (i1B : Sl) (i1C : Int) (i1D : Int) (i1E : Int) (h3R : Int) (i0n : d7) (g5P : d7) (H : Hp) (n2 : ((List d7) × Int) → Hp → Prop) (n5 : (Int × Int × ByteArray × Sl × Sl × Sl × Sl) → Hp → Prop) (K : Sl → Hp → Prop) : Prop :=
 ∀ (a6T : Sl) (c1i : Hp), Hle H c1i → SlH c1i 6 g7 a6T c0c → a6T.n ≤ a6T.c →
 n5 ((IntKind.wrap .i64 (h3R + 1)), 3, ⟨#[]⟩, (Sl.mk none 0 0), g5P.j7, a6T, (Sl.mk none 0 0)) c1i
def N4 (i4z : Int) (c1j : (List d7)) (e8A : Sl) (e8B : Int) (h3S : Int) (H : Hp) (n2 : ((List d7) × Int) → Hp → Prop) (K : Sl → Hp → Prop) : Prop :=
 n2 (c1j, (IntKind.wrap .i64 (h3S + 1))) H
def a0b (h9g : Int) (b4B : (List d7)) (d8e : Sl) (d8f : Int) (h3T : Int) (a8a : d7) (i0q : d7) (H : Hp) (n2 : ((List d7) × Int) → Hp → Prop) (K : Sl → Hp → Prop) : Prop :=
 (b4B.length + ([a8a] : List d7).length) * 121 ≤ 140737488355328 ∧
 N4 h9g (b4B ++ [a8a]) d8e d8f h3T H n2 K
def U0 (g5Q : Int) (e8C : (List d7)) (g5R : Sl) (e8D : Sl) (e8E : Int) (e8F : Int) (d8g : Int) (e1n : d7) (a7k : Int) (C6 : Int) (C7 : ByteArray) (C8 : Sl) (C9 : Sl) (D1 : Sl) (D2 : Sl) (H : Hp) (n2 : ((List d7) × Int) → Hp → Prop) (n5 : (Int × Int × ByteArray × Sl × Sl × Sl × Sl) → Hp → Prop) (K : Sl → Hp → Prop) : Prop :=
 (a7k < d8g →
 ∃ b3I : List d7, SlH H 6 g7 g5R b3I ∧ (([] : List d7).length + b3I.length) * 121 ≤ 140737488355328 ∧
 (b3I.length + ([(d7.mk C6 C7 C8 C9 D1 D2)] : List d7).length) * 121 ≤ 140737488355328 ∧
 Z9 g5Q e8C g5R (b3I ++ [(d7.mk C6 C7 C8 C9 D1 D2)]) e8D e8E e8F d8g a7k (d7.mk C6 C7 C8 C9 D1 D2) e1n H n2 n5 K) ∧
 (¬ (a7k < d8g) →
 a0b g5Q e8C e8D e8E e8F (d7.mk C6 C7 C8 C9 D1 D2) e1n H n2 K)
def a0d (D9 : (List d7)) (H : Hp) (K : Sl → Hp → Prop) : Prop :=
 ∀ (q8 : Sl) (c1k : Hp), Hle H c1k → SlH c1k 6 g7 q8 D9 → q8.n ≤ q8.c →
 K q8 c1k
def a0e (a9I : Int) (a1M : Sl) (c8c : Int) (m3 : (List d7)) (a1f : Int) (H : Hp) (n2 : ((List d7) × Int) → Hp → Prop) (K : Sl → Hp → Prop) : Prop :=
 (a1f < c8c →
 (0 : Int) ≤ a1f ∧ (a1f : Int) < a1M.n ∧ ∃ x_1 : d7, EltH H a1M a1f 6 (g7 x_1) ∧
 P6 x_1.E5 a9I H (fun (u5 : Sl) (b5c : Hp) =>
 P6 x_1.B5 a9I b5c (fun (z8 : Sl) (d1W : Hp) =>
 (¬ (x_1.a8 = 4) →
 (m3.length + ([(d7.mk x_1.a8 x_1.b8 x_1.f2 x_1.j7 u5 z8)] : List d7).length) * 121 ≤ 140737488355328 ∧
 N4 a9I (m3 ++ [(d7.mk x_1.a8 x_1.b8 x_1.f2 x_1.j7 u5 z8)]) a1M c8c a1f d1W n2 K) ∧
 (x_1.a8 = 4 →
 TL ((0, x_1.a8, x_1.b8, x_1.f2, x_1.j7, u5, z8) : Int × Int × ByteArray × Sl × Sl × Sl × Sl) d1W fun (s : Int × Int × ByteArray × Sl × Sl × Sl × Sl) H n5 => U0 a9I m3 u5 a1M c8c a1f a9I (d7.mk x_1.a8 x_1.b8 x_1.f2 x_1.j7 u5 z8) s.1 s.2.1 s.2.2.1 s.2.2.2.1 s.2.2.2.2.1 s.2.2.2.2.2.1 s.2.2.2.2.2.2 H n2 n5 K)))) ∧
 (¬ (a1f < c8c) →
 a0d m3 H K)
def a1g (x0 : Sl) (x1 : Int) (H : Hp) (K : Sl → Hp → Prop) : Prop :=
 TL (([], 0) : (List d7) × Int) H fun (s : (List d7) × Int) H n2 => a0e x1 x0 (x0.n : Int) s.1 s.2 H n2 K
theorem b1K (x0 : Sl) (x1 : Int) {K : Sl → Hp → Prop} (I : Inv w0 ps0 H0 H [] w) (hR : ∀ (r0 : Sl) (H' : Hp) (w' : World) (_ : Inv w0 ps0 H0 H' [] w') (_ : K r0 H'), R (vs r0) w') (h : a1g x0 x1 H K) : F26 (vs x0) (vi x1) w R E := by
 unfold a1g at h
 unfold F26
 have hj1 : ∀ (D9 : (List d7)) (q8 : Sl) (Fs5j1 : Frag) (H : Hp) (w : World) (_ : RowL 73 6 g7 q8 D9 Fs5j1) (_ : Inv w0 ps0 H0 H [Fs5j1] w) (_ : a0d D9 H K), d1k (vs q8) w R E := by
  intro D9 q8 Fs5j1 H w a4i I h
  unfold d1k
  intro _
  unfold a0d at h
  obtain ⟨c1k, h3U, h3V, d8h, d8i⟩ := Inv.freezeC I a4i (by decide)
  replace h := h q8 c1k h3V d8h d8i
  exact hR q8 c1k _ h3U h
 refine v8 fun j1 hx1 => ?_
 refine a7 (a6c _ _ _) ?_
 obtain ⟨d8j, c4T, h3W, h3X⟩ := h
 refine L6 (J := fun n l w => ∃ (s : (List d7) × Int) (H : Hp) (A7 : Sl) (Fs5l2 : Frag) , n = c4T s ∧ l = (match s with | (m3, a1f) => [(vs A7), (vi a1f)]) ∧ (match s with | (m3, a1f) => RowL 73 6 g7 A7 m3 Fs5l2) ∧ (match s with | (m3, a1f) => Inv w0 ps0 H0 H [Fs5l2] w) ∧ d8j s H) ⟨_, ([], 0), H, (Sl.mk none 0 0), [], rfl, rfl, (RowL.nil V8 a0F), I.nil, h3W⟩ ?_
 rintro i1F τ_226 w next2 ⟨⟨m3, a1f⟩, H, A7, Fs5l2, rfl, d8k, P3, I, h3Y⟩ hn2
 dsimp only at d8k I P3
 simp only [List.map_cons, List.map_nil, List.cons.injEq, and_true] at d8k
 obtain ⟨e5, e13⟩ := d8k
 simp only [e5, e13]
 obtain ⟨n2, hm2, h⟩ : ∃ n2 : ((List d7) × Int) → Hp → Prop, (∀ s' H', n2 s' H' → d8j s' H' ∧ c4T s' < c4T (m3, a1f)) ∧ a0e x1 x0 (x0.n : Int) m3 a1f H n2 K := ⟨_, fun _ _ h => h, h3X (m3, a1f) H (fun s' H' => d8j s' H' ∧ c4T s' < c4T (m3, a1f)) h3Y (fun _ _ a b => ⟨a, b⟩)⟩
 unfold e0V
 unfold a0e at h
 refine a7 (C2 _ _ _ _ _ _) ?_
 refine i8 (fun d8l => ?_) (fun d8l => ?_)
 ·replace h := h.1 d8l
  have hj3 : ∀ (c1j : (List d7)) (c8d : Sl) (Fs5j3 : Frag) (H : Hp) (w : World) (_ : RowL 73 6 g7 c8d c1j Fs5j3) (_ : Inv w0 ps0 H0 H [Fs5j3] w) (_ : N4 x1 c1j x0 (x0.n : Int) a1f H n2 K), d1l (vi x1) (vs c8d) (vs x0) (vi (x0.n : Int)) (vi a1f) w next2 R E := by
   intro c1j c8d Fs5j3 H w h3Z I h
   unfold d1l
   intro _
   unfold N4 at h
   refine a7 (J8 _ _ _ _ _ _) ?_
   exact hn2 _ _ _ (hm2 _ _ h).2 ⟨(c1j, (IntKind.wrap .i64 (a1f + 1))), H, c8d, Fs5j3, rfl, rfl, h3Z, I, (hm2 _ _ h).1⟩
  refine v8 fun j3 hx3 => ?_
  obtain ⟨h_4, h_5, x_1, h_7, h⟩ := h
  obtain ⟨g_2, o_3, h_6, h_7⟩ := h_7
  refine a7 (b2F h_6 _ _ _ _ h_4 h_5) ?_
  refine d6 (ldA (vs := (g7 x_1)) Tryz.isAgg73 Tryz.sizeOf73 rfl (I.atH h_7)) ?_
  refine u1 I Tryz.zeroValue73 (cs := [(vi 0), (eS), (nS), (nS), (nS), (nS)]) rfl fun g_9 o7 a0R a9D => ?_
  refine l9 a0R Tryz.sizeOf73 (vs := (g7 x_1)) (cs' := (g7 x_1)) rfl rfl (nb rfl) rfl rfl fun Z2 P0 a3P => ?_
  refine V0 P0 fun r5 a9K => ?_
  refine l7 a2V ?_
  refine l7 a3Z ?_
  refine t6 (ld1 Tryz.isAgg23 (a9K.at1 (o := 4) (vs := [(vs x_1.E5)]) (nb rfl) rfl)) ?_
  refine t6 (ld1 Tryz.isAgg23 (a9K.at1 (o := 5) (vs := [(vs x_1.B5)]) (nb rfl) rfl)) ?_
  refine d8 (cap := []) (fun args w => Tryz.call26 args w) ?_
  refine m4 (Fi := []) (Fr := [bx g_9 73 (g7 x_1), Fs5l2]) a9K (h) (fun g0O b5c g0P T2 b1E d0v d0t d0w => ?_) (fun _ _ _ _ _ q => q.elim)
  obtain ⟨u5, rfl, rfl, h⟩ := d0w
  refine ⟨(d0t _ a9K.lt1 (Inv.a3r (Fi := []) a9K)), ?_⟩
  refine l7 a2V ?_
  refine d8 (cap := []) (fun args w => Tryz.call26 args w) ?_
  refine m4 (Fi := []) (Fr := [bx g_9 73 (g7 x_1), Fs5l2]) b1E (h) (fun i4A d1W i4B C4 h9h g0N i4C h9i => ?_) (fun _ _ _ _ _ q => q.elim)
  obtain ⟨z8, rfl, rfl, h⟩ := h9i
  refine l9 h9h Tryz.sizeOf23 (vs := [(vs u5)]) (cs' := [(vi x_1.a8), (Value.string x_1.b8), (vs x_1.f2), (vs x_1.j7), (vs u5), (vs x_1.B5)]) rfl rfl (nb rfl) rfl rfl fun K5 e4k h7x => ?_
  refine l7 a3Z ?_
  refine l9 e4k Tryz.sizeOf23 (vs := [(vs z8)]) (cs' := [(vi x_1.a8), (Value.string x_1.b8), (vs x_1.f2), (vs x_1.j7), (vs u5), (vs z8)]) rfl rfl (nb rfl) rfl rfl fun b1B a3A g0E => ?_
  refine a7 a7P ?_
  refine d6 (ld1 Tryz.isAgg3 (a3A.at1 (o := 0) (vs := [(vi x_1.a8)]) (nb rfl) rfl)) ?_
  refine a7 (T0 _ _ _ _ _ _) ?_
  refine a2C (fun d8m => ?_) (fun d8m => ?_)
  ·replace h := h.1 d8m
   refine d6 (ldA Tryz.isAgg73 Tryz.sizeOf73 rfl (a3A.at1 (o := 0) (vs := [(vi x_1.a8), (Value.string x_1.b8), (vs x_1.f2), (vs x_1.j7), (vs u5), (vs z8)]) (nb rfl) rfl)) ?_
   refine a0m (e := 73) (c := g7) (xs := [(d7.mk x_1.a8 x_1.b8 x_1.f2 x_1.j7 u5 z8)]) a3A (b5D _ _ _ _ _ _ _ _ _ _ _ _ _ _) rfl rfl V8 a0F (nb rfl) fun i4D h9j a8H h9k b1I e5u => ?_
   obtain ⟨c6h, h⟩ := h
   refine b2G (s := A7) (xs := m3) (b1I.bring 2) P3 (h9k.srcO ((b1I.bring 2).bring 1)) c6h fun h9l h9m a8Z b4X h9n i4E => ?_
   exact hx3 _ _ (hj3 (m3 ++ [(d7.mk x_1.a8 x_1.b8 x_1.f2 x_1.j7 u5 z8)]) h9l h9m d1W _ b4X ((h9n.bring 1).drop.bring 1).drop h)
  ·replace h := h.2 d8m
   refine V0 a3A fun O8 b9y => ?_
   refine l7 a2V ?_
   refine t6 (ldA Tryz.isAgg73 Tryz.sizeOf73 rfl (b9y.at1 (o := 0) (vs := [(vi x_1.a8), (Value.string x_1.b8), (vs x_1.f2), (vs x_1.j7), (vs u5), (vs z8)]) (nb rfl) rfl)) ?_
   refine t6 (ld1 Tryz.isAgg23 (b9y.at1 (o := 4) (vs := [(vs u5)]) (nb rfl) rfl)) ?_
   refine u1 b9y Tryz.zeroValue73 (cs := [(vi 0), (eS), (nS), (nS), (nS), (nS)]) rfl fun b7T R8 c2Y d8n => ?_
   refine ⟨(d8n _ b9y.lt1), (d8n _ b9y.lt1), ?_⟩
   refine l9 c2Y Tryz.sizeOf73 (vs := [(vi x_1.a8), (Value.string x_1.b8), (vs x_1.f2), (vs x_1.j7), (vs u5), (vs z8)]) (cs' := [(vi x_1.a8), (Value.string x_1.b8), (vs x_1.f2), (vs x_1.j7), (vs u5), (vs z8)]) rfl rfl (nb rfl) rfl rfl fun b3D b7U e5C => ?_
   refine ⟨(e5C _ (Inv.e3r ((c2Y.bring 1).bring 1))), ?_⟩
   have hj4 : ∀ (b4B : (List d7)) (a8a : d7) (Fs5j4 : Frag) (H : Hp) (w : World) (_ : RowL 73 6 g7 A7 b4B Fs5j4) (_ : Inv w0 ps0 H0 H [bx b7T 73 (g7 a8a), bx g_9 73 [(vi (d7.mk x_1.a8 x_1.b8 x_1.f2 x_1.j7 u5 z8).a8), (Value.string (d7.mk x_1.a8 x_1.b8 x_1.f2 x_1.j7 u5 z8).b8), (Value.slice (d7.mk x_1.a8 x_1.b8 x_1.f2 x_1.j7 u5 z8).f2.a (d7.mk x_1.a8 x_1.b8 x_1.f2 x_1.j7 u5 z8).f2.n (d7.mk x_1.a8 x_1.b8 x_1.f2 x_1.j7 u5 z8).f2.c), (Value.slice (d7.mk x_1.a8 x_1.b8 x_1.f2 x_1.j7 u5 z8).j7.a (d7.mk x_1.a8 x_1.b8 x_1.f2 x_1.j7 u5 z8).j7.n (d7.mk x_1.a8 x_1.b8 x_1.f2 x_1.j7 u5 z8).j7.c), (Value.slice (d7.mk x_1.a8 x_1.b8 x_1.f2 x_1.j7 u5 z8).E5.a (d7.mk x_1.a8 x_1.b8 x_1.f2 x_1.j7 u5 z8).E5.n (d7.mk x_1.a8 x_1.b8 x_1.f2 x_1.j7 u5 z8).E5.c), (Value.slice (d7.mk x_1.a8 x_1.b8 x_1.f2 x_1.j7 u5 z8).B5.a (d7.mk x_1.a8 x_1.b8 x_1.f2 x_1.j7 u5 z8).B5.n (d7.mk x_1.a8 x_1.b8 x_1.f2 x_1.j7 u5 z8).B5.c)], Fs5j4] w) (_ : a0b x1 b4B x0 (x0.n : Int) a1f a8a (d7.mk x_1.a8 x_1.b8 x_1.f2 x_1.j7 u5 z8) H n2 K), d1m (vi x1) (vs A7) (Value.pointer (some ⟨b7T, 0, none⟩)) (vs x0) (vi (x0.n : Int)) (vi a1f) w j3 R E := by
    intro b4B a8a Fs5j4 H w h4a I h
    unfold d1m
    intro _
    unfold a0b at h
    refine d6 (ldA Tryz.isAgg73 Tryz.sizeOf73 rfl (I.at1 (o := 0) (vs := (g7 a8a)) (nb rfl) rfl)) ?_
    refine a0m (e := 73) (c := g7) (xs := [a8a]) I (b5D _ _ _ _ _ _ _ _ _ _ _ _ _ _) rfl rfl V8 a0F (nb rfl) fun i1G i1H h3N c4Q e8G i1I => ?_
    obtain ⟨d7x, h⟩ := h
    refine b2G (s := A7) (xs := b4B) (e8G.bring 3) h4a (c4Q.srcO ((e8G.bring 3).bring 1)) d7x fun h4b h4c i1J h4d h4e i1K => ?_
    exact hx3 _ _ (hj3 (b4B ++ [a8a]) h4b h4c H _ h4d (((h4e.bring 1).drop.bring 1).drop.bring 1).drop h)
   refine v8 fun j4 hx4 => ?_
   obtain ⟨d8o, c4U, h4f, h4g⟩ := h
   refine L6 (J := fun n l w => ∃ (s : Int × Int × ByteArray × Sl × Sl × Sl × Sl) (H : Hp) , n = c4U s ∧ l = (match s with | (a7k, C6, C7, C8, C9, D1, D2) => [(vi a7k)]) ∧ (match s with | (a7k, C6, C7, C8, C9, D1, D2) => Inv w0 ps0 H0 H [bx b7T 73 [(vi C6), (Value.string C7), (vs C8), (vs C9), (vs D1), (vs D2)], bx g_9 73 [(vi (d7.mk x_1.a8 x_1.b8 x_1.f2 x_1.j7 u5 z8).a8), (Value.string (d7.mk x_1.a8 x_1.b8 x_1.f2 x_1.j7 u5 z8).b8), (Value.slice (d7.mk x_1.a8 x_1.b8 x_1.f2 x_1.j7 u5 z8).f2.a (d7.mk x_1.a8 x_1.b8 x_1.f2 x_1.j7 u5 z8).f2.n (d7.mk x_1.a8 x_1.b8 x_1.f2 x_1.j7 u5 z8).f2.c), (Value.slice (d7.mk x_1.a8 x_1.b8 x_1.f2 x_1.j7 u5 z8).j7.a (d7.mk x_1.a8 x_1.b8 x_1.f2 x_1.j7 u5 z8).j7.n (d7.mk x_1.a8 x_1.b8 x_1.f2 x_1.j7 u5 z8).j7.c), (Value.slice (d7.mk x_1.a8 x_1.b8 x_1.f2 x_1.j7 u5 z8).E5.a (d7.mk x_1.a8 x_1.b8 x_1.f2 x_1.j7 u5 z8).E5.n (d7.mk x_1.a8 x_1.b8 x_1.f2 x_1.j7 u5 z8).E5.c), (Value.slice (d7.mk x_1.a8 x_1.b8 x_1.f2 x_1.j7 u5 z8).B5.a (d7.mk x_1.a8 x_1.b8 x_1.f2 x_1.j7 u5 z8).B5.n (d7.mk x_1.a8 x_1.b8 x_1.f2 x_1.j7 u5 z8).B5.c)], Fs5l2] w) ∧ d8o s H) ⟨_, (0, x_1.a8, x_1.b8, x_1.f2, x_1.j7, u5, z8), d1W, rfl, rfl, (((b7U.bring 2).bring 2).bring 2), h4f⟩ ?_
   rintro i1L τ_211 w next5 ⟨⟨a7k, C6, C7, C8, C9, D1, D2⟩, H, rfl, d8p, I, h4h⟩ hn5
   dsimp only at d8p I
   simp only [List.map_cons, List.map_nil, List.cons.injEq, and_true] at d8p
   have e38 := d8p
   simp only [e38]
   obtain ⟨n5, hm5, h⟩ : ∃ n5 : (Int × Int × ByteArray × Sl × Sl × Sl × Sl) → Hp → Prop, (∀ s' H', n5 s' H' → d8o s' H' ∧ c4U s' < c4U (a7k, C6, C7, C8, C9, D1, D2)) ∧ U0 x1 m3 u5 x0 (x0.n : Int) a1f x1 (d7.mk x_1.a8 x_1.b8 x_1.f2 x_1.j7 u5 z8) a7k C6 C7 C8 C9 D1 D2 H n2 n5 K := ⟨_, fun _ _ h => h, h4g (a7k, C6, C7, C8, C9, D1, D2) H (fun s' H' => d8o s' H' ∧ c4U s' < c4U (a7k, C6, C7, C8, C9, D1, D2)) h4h (fun _ _ a b => ⟨a, b⟩)⟩
   unfold e0T
   unfold U0 at h
   refine a7 (C2 _ _ _ _ _ _) ?_
   refine i8 (fun d8q => ?_) (fun d8q => ?_)
   ·replace h := h.1 d8q
    have hj6 : ∀ (c0c : (List d7)) (a6T : Sl) (Fs10j6 : Frag) (H : Hp) (w : World) (_ : RowL 73 6 g7 a6T c0c Fs10j6) (_ : Inv w0 ps0 H0 H [bx b7T 73 [(vi (d7.mk C6 C7 C8 C9 D1 D2).a8), (Value.string (d7.mk C6 C7 C8 C9 D1 D2).b8), (Value.slice (d7.mk C6 C7 C8 C9 D1 D2).f2.a (d7.mk C6 C7 C8 C9 D1 D2).f2.n (d7.mk C6 C7 C8 C9 D1 D2).f2.c), (Value.slice (d7.mk C6 C7 C8 C9 D1 D2).j7.a (d7.mk C6 C7 C8 C9 D1 D2).j7.n (d7.mk C6 C7 C8 C9 D1 D2).j7.c), (Value.slice (d7.mk C6 C7 C8 C9 D1 D2).E5.a (d7.mk C6 C7 C8 C9 D1 D2).E5.n (d7.mk C6 C7 C8 C9 D1 D2).E5.c), (Value.slice (d7.mk C6 C7 C8 C9 D1 D2).B5.a (d7.mk C6 C7 C8 C9 D1 D2).B5.n (d7.mk C6 C7 C8 C9 D1 D2).B5.c)], bx g_9 73 [(vi (d7.mk x_1.a8 x_1.b8 x_1.f2 x_1.j7 u5 z8).a8), (Value.string (d7.mk x_1.a8 x_1.b8 x_1.f2 x_1.j7 u5 z8).b8), (Value.slice (d7.mk x_1.a8 x_1.b8 x_1.f2 x_1.j7 u5 z8).f2.a (d7.mk x_1.a8 x_1.b8 x_1.f2 x_1.j7 u5 z8).f2.n (d7.mk x_1.a8 x_1.b8 x_1.f2 x_1.j7 u5 z8).f2.c), (Value.slice (d7.mk x_1.a8 x_1.b8 x_1.f2 x_1.j7 u5 z8).j7.a (d7.mk x_1.a8 x_1.b8 x_1.f2 x_1.j7 u5 z8).j7.n (d7.mk x_1.a8 x_1.b8 x_1.f2 x_1.j7 u5 z8).j7.c), (Value.slice (d7.mk x_1.a8 x_1.b8 x_1.f2 x_1.j7 u5 z8).E5.a (d7.mk x_1.a8 x_1.b8 x_1.f2 x_1.j7 u5 z8).E5.n (d7.mk x_1.a8 x_1.b8 x_1.f2 x_1.j7 u5 z8).E5.c), (Value.slice (d7.mk x_1.a8 x_1.b8 x_1.f2 x_1.j7 u5 z8).B5.a (d7.mk x_1.a8 x_1.b8 x_1.f2 x_1.j7 u5 z8).B5.n (d7.mk x_1.a8 x_1.b8 x_1.f2 x_1.j7 u5 z8).B5.c)], Fs5l2, Fs10j6] w) (_ : Z9 x1 m3 u5 c0c x0 (x0.n : Int) a1f x1 a7k (d7.mk C6 C7 C8 C9 D1 D2) (d7.mk x_1.a8 x_1.b8 x_1.f2 x_1.j7 u5 z8) H n2 n5 K), d1n (vi x1) (vs A7) (Value.pointer (some ⟨g_9, 0, none⟩)) (Value.pointer (some ⟨b7T, 0, none⟩)) (vs u5) (vs a6T) (vs x0) (vi (x0.n : Int)) (vi a1f) (vi x1) (vi a7k) w next5 R E := by
     intro c0c a6T Fs10j6 H w g5S I h
     unfold d1n
     intro _
     unfold Z9 at h
     refine a7 a6h ?_
     refine d6 (ld1 Tryz.isAgg57 ((I.bring 1).at1 (o := 3) (vs := [(Value.slice (d7.mk x_1.a8 x_1.b8 x_1.f2 x_1.j7 u5 z8).j7.a (d7.mk x_1.a8 x_1.b8 x_1.f2 x_1.j7 u5 z8).j7.n (d7.mk x_1.a8 x_1.b8 x_1.f2 x_1.j7 u5 z8).j7.c)]) (nb rfl) rfl)) ?_
     refine a7 (c3H _ _ _ _ _ _ _) ?_
     refine l9 I Tryz.sizeOf73 (vs := [(vi 3), (eS), (nS), (Value.slice (d7.mk x_1.a8 x_1.b8 x_1.f2 x_1.j7 u5 z8).j7.a (d7.mk x_1.a8 x_1.b8 x_1.f2 x_1.j7 u5 z8).j7.n (d7.mk x_1.a8 x_1.b8 x_1.f2 x_1.j7 u5 z8).j7.c), (vs a6T), (nS)]) (cs' := [(vi 3), (eS), (nS), (Value.slice (d7.mk x_1.a8 x_1.b8 x_1.f2 x_1.j7 u5 z8).j7.a (d7.mk x_1.a8 x_1.b8 x_1.f2 x_1.j7 u5 z8).j7.n (d7.mk x_1.a8 x_1.b8 x_1.f2 x_1.j7 u5 z8).j7.c), (vs a6T), (nS)]) rfl rfl (nb rfl) rfl rfl fun i1M h4i i1N => ?_
     refine a7 (J8 _ _ _ _ _ _) ?_
     obtain ⟨c1i, h4j, e8s, h4k, h4l⟩ := Inv.freezeC (h4i.bring 3) g5S (by decide)
     replace h := h a6T c1i e8s h4k h4l
     exact hn5 _ _ _ (hm5 _ _ h).2 ⟨((IntKind.wrap .i64 (a7k + 1)), 3, ⟨#[]⟩, (Sl.mk none 0 0), (d7.mk x_1.a8 x_1.b8 x_1.f2 x_1.j7 u5 z8).j7, a6T, (Sl.mk none 0 0)), c1i, rfl, rfl, (((h4j.bring 2).bring 2).bring 2), (hm5 _ _ h).1⟩
    refine v8 fun j6 hx6 => ?_
    refine V0 I fun e8H c1l => ?_
    refine t6 (ldA Tryz.isAgg73 Tryz.sizeOf73 rfl (c1l.at1 (o := 0) (vs := [(vi C6), (Value.string C7), (vs C8), (vs C9), (vs D1), (vs D2)]) (nb rfl) rfl)) ?_
    refine ⟨?_, ?_⟩
    ·obtain ⟨b3I, d7P, h⟩ := h
     obtain ⟨c7P, h⟩ := h
     refine b2G (s := ⟨none, 0, 0⟩) (xs := []) c1l.nil (RowL.nil V8 a0F) (SlH.src c1l.nil d7P V8) c7P fun h4m i1O c0J e8I h4n h4o => ?_
     simp only [List.nil_append] at e8I
     refine ⟨(h4o _ (c1l.nil.bring 1).lt1 (Inv.c8x ((c1l.nil.bring 1).bring 1))), ?_⟩
     refine a0m (e := 73) (c := g7) (xs := [(d7.mk C6 C7 C8 C9 D1 D2)]) h4n (b5D _ _ _ _ _ _ _ _ _ _ _ _ _ _) rfl rfl V8 a0F (nb rfl) fun i1P i1Q e8J h4p e8K i1R => ?_
     obtain ⟨h4q, h⟩ := h
     refine b2G (s := h4m) (xs := b3I) (e8K.bring 1) e8I (h4p.srcO ((e8K.bring 1).bring 1)) h4q fun h4r h4s b4C d7E h4t i1S => ?_
     exact hx6 _ _ (hj6 (b3I ++ [(d7.mk C6 C7 C8 C9 D1 D2)]) h4r h4s H _ d7E ((((h4t.bring 1).drop.bring 3).bring 3).bring 3) h)
    ·refine a0m (e := 73) (c := g7) (xs := [(d7.mk C6 C7 C8 C9 D1 D2)]) c1l (b5D _ _ _ _ _ _ _ _ _ _ _ _ _ _) rfl rfl V8 a0F (nb rfl) fun i1T i1U i1V d7I c8e i1W => ?_
     obtain ⟨e1o, h4u, h⟩ := h
     obtain ⟨h4v, h⟩ := h
     refine b2G (s := ⟨none, 0, 0⟩) (xs := []) c8e.nil (RowL.nil V8 a0F) (SlH.src c8e.nil h4u V8) h4v fun h4w i1X e8L e8M e8N h4x => ?_
     simp only [List.nil_append] at e8M
     refine ⟨(h4x _ (c8e.nil.bring 2).lt1 (Inv.c8x ((c8e.nil.bring 2).bring 1))), ?_⟩
     obtain ⟨h4y, h⟩ := h
     refine b2G (s := h4w) (xs := e1o) e8N e8M (d7I.srcO (e8N.bring 1)) h4y fun h4z h4A i1Y h4B h4C i1Z => ?_
     exact hx6 _ _ (hj6 (e1o ++ [(d7.mk C6 C7 C8 C9 D1 D2)]) h4z h4A H _ h4B ((((h4C.bring 1).drop.bring 3).bring 3).bring 3) h)
   ·replace h := h.2 d8q
    exact hx4 _ _ (hj4 m3 (d7.mk C6 C7 C8 C9 D1 D2) Fs5l2 H _ P3 (((I.bring 2).bring 2).bring 2) h)
 ·replace h := h.2 d8l
  exact hx1 _ _ (hj1 m3 A7 Fs5l2 H _ P3 I h)
theorem b2h (x0 : Sl) (x1 : Int) {H : Hp} {K : Sl → Hp → Prop} (h : a1g x0 x1 H K) : P6 x0 x1 H K := by
 intro w I
 refine g3r ?_
 refine b1K x0 x1 I (fun r0 H' w' I' hk => ⟨H', _, I', r0, rfl, rfl, hk⟩) h
def a2v (x0 : o9) (x1 : Int) (H : Hp) (K : o9 → Int → Hp → Prop) : Prop :=
 a2w x0 H (fun (m7 : Int) (T8 : Hp) =>
 (¬ (m7 = 0) →
 K (o9.mk (Sl.mk none 0 0) (Sl.mk none 0 0)) m7 T8) ∧
 (m7 = 0 →
 (((decide (x1 < 0)) || (decide (8 < x1))) = true →
 K (o9.mk (Sl.mk none 0 0) (Sl.mk none 0 0)) 290 T8) ∧
 (((decide (x1 < 0)) || (decide (8 < x1))) = false →
 P6 x0.a5w x1 T8 (fun (e8O : Sl) (g5T : Hp) =>
 a7v (o9.mk x0.a3s e8O) g5T (fun (c1m : o9) (c8f : Int) (e5D : Hp) =>
 K c1m c8f e5D)))))
theorem b3J (x0 : o9) (x1 : Int) {K : o9 → Int → Hp → Prop} (I : Inv w0 ps0 H0 H [] w) (hR : ∀ (r0 : o9) (r1 : Int) (H' : Hp) (w' : World) (_ : Inv w0 ps0 H0 H' [] w') (_ : K r0 r1 H'), R (Value.tuple #[(Value.agg (m9 r0).toArray), (vi r1)]) w') (h : a2v x0 x1 H K) : F9 (Value.agg (m9 x0).toArray) (vi x1) w R E := by
 unfold a2v at h
 unfold F9
 refine M4 I (cs := (m9 x0)) rfl fun g_2 w_3 I_4 k_5 => ?_
 refine u1 I_4 Tryz.zeroValue25 (cs := [(nS), (nS)]) rfl fun g_7 w_8 I_9 a9J => ?_
 refine d6 (ldA Tryz.isAgg25 Tryz.sizeOf25 rfl ((I_9.bring 1).at1 (o := 0) (vs := (m9 x0)) (nb rfl) rfl)) ?_
 refine d8 (cap := []) (fun args w => Tryz.call24 args w) ?_
 refine m4 (Fi := []) (Fr := [bx g_7 25 [(nS), (nS)], bx g_2 25 (m9 x0)]) I_9 (h) (fun b7Q T8 b9Z p7 a2f b5m b5p b0B => ?_) (fun _ _ _ _ _ q => q.elim)
 obtain ⟨m7, rfl, rfl, h⟩ := b0B
 refine a7 (T0 _ _ _ _ _ _) ?_
 refine a2C (fun e5E => ?_) (fun e5E => ?_)
 ·replace h := h.1 e5E
  refine a7 (b8I ) ?_
  refine l9 a2f Tryz.sizeOf25 (vs := [(nS), (nS)]) (cs' := [(nS), (nS)]) rfl rfl (nb rfl) rfl rfl fun t7 a0B b6T => ?_
  refine J0 Tryz.isAgg25 Tryz.sizeOf25 rfl (a0B.at1 (o := 0) (vs := [(nS), (nS)]) (nb rfl) rfl) ?_
  exact hR (o9.mk (Sl.mk none 0 0) (Sl.mk none 0 0)) m7 T8 _ a0B.drop.drop h
 ·replace h := h.2 e5E
  refine a7 (C2 _ _ _ _ _ _) ?_
  simp only [Q0]
  refine a7 (Pu.g fun hb => by have i5 := hb; simp only [r8 i5]; exact (a3q _ _ _ _ _ _)) ?_
  refine a7 (a0E _ _) ?_
  refine s6 (fun c2E => ?_) (fun c2E => ?_)
  ·replace h := h.1 c2E
   refine a7 (b8I ) ?_
   refine l9 a2f Tryz.sizeOf25 (vs := [(nS), (nS)]) (cs' := [(nS), (nS)]) rfl rfl (nb rfl) rfl rfl fun a0y a4m c6e => ?_
   refine J0 Tryz.isAgg25 Tryz.sizeOf25 rfl (a4m.at1 (o := 0) (vs := [(nS), (nS)]) (nb rfl) rfl) ?_
   exact hR (o9.mk (Sl.mk none 0 0) (Sl.mk none 0 0)) 290 T8 _ a4m.drop.drop h
  ·replace h := h.2 c2E
   refine V0 a2f fun y7 a7E => ?_
   refine l7 a7O ?_
   refine l7 a9o ?_
   refine t6 (ld1 Tryz.isAgg22 ((a7E.bring 1).at1 (o := 0) (vs := [(vs x0.a3s)]) (nb rfl) rfl)) ?_
   refine t6 (ld1 Tryz.isAgg23 ((a7E.bring 1).at1 (o := 1) (vs := [(vs x0.a5w)]) (nb rfl) rfl)) ?_
   refine d8 (cap := []) (fun args w => Tryz.call26 args w) ?_
   refine m4 (Fi := []) (Fr := [bx g_7 25 [(nS), (nS)], bx g_2 25 (m9 x0)]) a7E (h) (fun i4F g5T a6B a9H V5 c5K a7D h9o => ?_) (fun _ _ _ _ _ q => q.elim)
   obtain ⟨e8O, rfl, rfl, h⟩ := h9o
   refine ⟨(a7D _ (a7E.bring 1).lt1 (Inv.a3r (Fi := []) (a7E.bring 1))), ?_⟩
   refine l7 (b8n _ _ _ _ _ _) ?_
   refine d8 (cap := []) (fun args w => Tryz.call25 args w) ?_
   refine m4 (Fi := []) (Fr := [bx g_7 25 [(nS), (nS)], bx g_2 25 (m9 x0)]) V5 (h) (fun i4G e5D i4H K0 e5A i4I i4J h9p => ?_) (fun _ _ _ _ _ q => q.elim)
   obtain ⟨c1m, c8f, rfl, rfl, h⟩ := h9p
   refine l7 (m2 _ _ _ rfl) ?_
   refine l7 (m2 _ _ (vi c8f) rfl) ?_
   refine l9 e5A Tryz.sizeOf25 (vs := (m9 c1m)) (cs' := (m9 c1m)) rfl rfl (nb rfl) rfl rfl fun M9 b1I e5u => ?_
   refine J0 Tryz.isAgg25 Tryz.sizeOf25 rfl (b1I.at1 (o := 0) (vs := (m9 c1m)) (nb rfl) rfl) ?_
   exact hR c1m c8f e5D _ b1I.drop.drop h
theorem b4i (x0 : o9) (x1 : Int) {H : Hp} {K : o9 → Int → Hp → Prop} (h : a2v x0 x1 H K) : a4N x0 x1 H K := by
 intro w I
 refine h2X ?_
 refine b3J x0 x1 I (fun r0 r1 H' w' I' hk => ⟨H', _, I', r0, r1, rfl, rfl, hk⟩) h
end Go.Proofs.YtnhkdkcgdcgmdaaGreatDoor
