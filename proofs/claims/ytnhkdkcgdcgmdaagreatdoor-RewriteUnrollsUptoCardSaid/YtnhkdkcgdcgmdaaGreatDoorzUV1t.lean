/- Typed formulas of the program's functions that few laws need; printed by lift.py off the code. -/
import Derived.Test.YtnhkdkcgdcgmdaaGreatDoorzUV1
import Derived.Test.YtnhkdkcgdcgmdaaGreatDoorzUG1t
namespace Go.Proofs.YtnhkdkcgdcgmdaaGreatDoor
open Go.RowKit
set_option maxRecDepth 100000
set_option maxHeartbeats 2000000
variable {w0 w : World} {ps0 : Nat → Prop} {H0 H : Hp} {R : RT} {E : Pan}
def a5j (x0 : Int) (H : Hp) (K : a8 → Hp → Prop) : Prop :=
 K (a8.mk 1 x0 ⟨#[]⟩ (Sl.mk none 0 0)) H
theorem b7M (x0 : Int) {K : a8 → Hp → Prop} (I : Inv w0 ps0 H0 H [] w) (hR : ∀ (r0 : a8) (H' : Hp) (w' : World) (_ : Inv w0 ps0 H0 H' [] w') (_ : K r0 H'), R (Value.agg (b8 r0).toArray) w') (h : a5j x0 H K) : F22 (vi x0) w R E := by
 unfold a5j at h
 unfold F22
 refine z8 I Tryz.zeroValue53 (cs := [(vi 0), (vi 0), (eS), (nS)]) rfl fun g_2 w_3 I_4 k_5 => ?_
 refine a7 (b6P _ _) ?_
 refine m5 I_4 Tryz.sizeOf53 (vs := [(vi 1), (vi x0), (eS), (nS)]) (cs' := [(vi 1), (vi x0), (eS), (nS)]) rfl rfl (nb rfl) rfl rfl fun w_6 I_7 k_8 => ?_
 refine J4 Tryz.isAgg53 Tryz.sizeOf53 rfl (I_7.at1 (o := 0) (vs := [(vi 1), (vi x0), (eS), (nS)]) (nb rfl) rfl) ?_
 exact hR (a8.mk 1 x0 ⟨#[]⟩ (Sl.mk none 0 0)) H _ I_7.drop h
theorem b9P (x0 : Int) {H : Hp} {K : a8 → Hp → Prop} (h : a5j x0 H K) : a0b x0 H K := by
 intro w I
 refine i0S ?_
 refine b7M x0 I (fun r0 H' w' I' hk => ⟨H', _, I', r0, rfl, rfl, hk⟩) h
def a2g (x0 : a8) (H : Hp) (K : Int → Bool → Hp → Prop) : Prop :=
 (x0.b6 = 1 →
 K x0.o6 true H) ∧
 (¬ (x0.b6 = 1) →
 ∃ x_6 : a8, ((decide (x0.b6 = 5)) = true → (0 : Int) ≤ 0 ∧ (0 : Int) < x0.k9.n ∧ EltH H x0.k9 0 4 (b8 x_6)) ∧
 (((decide (x0.b6 = 5)) && (decide (x_6.b6 = 1))) = true →
 (0 : Int) ≤ 0 ∧ (0 : Int) < x0.k9.n ∧ ∃ a6M : a8, EltH H x0.k9 0 4 (b8 a6M) ∧
 K (IntKind.wrap .i64 (0 - a6M.o6)) true H) ∧
 (((decide (x0.b6 = 5)) && (decide (x_6.b6 = 1))) = false →
 K 0 false H))
theorem b7o (x0 : a8) {K : Int → Bool → Hp → Prop} (I : Inv w0 ps0 H0 H [] w) (hR : ∀ (r0 : Int) (r1 : Bool) (H' : Hp) (w' : World) (_ : Inv w0 ps0 H0 H' [] w') (_ : K r0 r1 H'), R (Value.tuple #[(vi r0), (vB r1)]) w') (h : a2g x0 H K) : F67 (Value.agg (b8 x0).toArray) w R E := by
 unfold a2g at h
 unfold F67
 refine K6 I (cs := (b8 x0)) rfl fun g_2 w_3 I_4 k_5 => ?_
 refine a7 U5 ?_
 refine f2 (ld1 Tryz.isAgg3 (I_4.at1 (o := 0) (vs := [(vi x0.b6)]) (nb rfl) rfl)) ?_
 refine a7 (k7 _ _ _ _ _ _) ?_
 refine k4 (fun b8U => ?_) (fun b8U => ?_)
 ·replace h := h.1 b8U
  refine a7 a6p ?_
  refine f2 (ld1 Tryz.isAgg2 (I_4.at1 (o := 1) (vs := [(vi x0.o6)]) (nb rfl) rfl)) ?_
  exact hR x0.o6 true H _ I_4.drop h
 ·replace h := h.2 b8U
  refine a7 U5 ?_
  refine f2 (ld1 Tryz.isAgg3 (I_4.at1 (o := 0) (vs := [(vi x0.b6)]) (nb rfl) rfl)) ?_
  refine a7 (k7 _ _ _ _ _ _) ?_
  refine a7 (Pu.g fun hb => by have d7 := hb; exact B2) ?_
  refine f2 (Ld.g fun hb => by have d7 := hb; simp only [i6 d7]; exact (ld1 Tryz.isAgg51 (I_4.at1 (o := 3) (vs := [(vs x0.k9)]) (nb rfl) rfl))) ?_
  obtain ⟨x_6, b4S, h⟩ := h
  obtain ⟨g_7, o_8, b4S⟩ := c6O b4S
  refine a7 (Pu.g fun hb => by have d7 := hb; simp only [i6 d7]; exact (G7 (b4S hb).2.2.1 _ _ _ _ (b4S hb).1 (b4S hb).2.1)) ?_
  refine a7 (Pu.g fun hb => by have d7 := hb; simp only [i6 d7]; exact U5) ?_
  refine f2 (Ld.g fun hb => by have d7 := hb; simp only [i6 d7]; exact (ld1 (v := (vi x_6.b6)) Tryz.isAgg3 ((I_4.atH (b4S hb).2.2.2).sub (k := 0) (n := 1) (nb rfl)))) ?_
  refine a7 (Pu.g fun hb => by have d7 := hb; simp only [i6 d7]; exact (k7 _ _ _ _ _ _)) ?_
  refine a7 (w8 _ _) ?_
  refine o2 (fun b3w => ?_) (fun b3w => ?_)
  ·replace h := h.1 b3w
   refine a7 B2 ?_
   refine f2 (ld1 Tryz.isAgg51 (I_4.at1 (o := 3) (vs := [(vs x0.k9)]) (nb rfl) rfl)) ?_
   obtain ⟨a8e, b9f, a6M, a9l, h⟩ := h
   obtain ⟨f5a, f5b, c9F, a9l⟩ := a9l
   refine a7 (G7 c9F _ _ _ _ a8e b9f) ?_
   refine a7 a6p ?_
   refine f2 (ld1 (v := (vi a6M.o6)) Tryz.isAgg2 ((I_4.atH a9l).sub (k := 1) (n := 1) (nb rfl))) ?_
   refine a7 (d5N _ _) ?_
   exact hR (IntKind.wrap .i64 (0 - a6M.o6)) true H _ I_4.drop h
  ·replace h := h.2 b3w
   exact hR 0 false H _ I_4.drop h
theorem b7N (x0 : a8) {H : Hp} {K : Int → Bool → Hp → Prop} (h : a2g x0 H K) : T0 x0 H K := by
 intro w I
 refine i2P ?_
 refine b7o x0 I (fun r0 r1 H' w' I' hk => ⟨H', _, I', r0, r1, rfl, rfl, hk⟩) h
def a8q (x0 : a8) (x1 : Int) (H : Hp) (K : Bool → Hp → Prop) : Prop :=
 T0 x0 H (fun (E1 : Int) (b7F : Bool) (H_6 : Hp) =>
 K (b7F && (decide (E1 = x1))) H_6)
theorem c4h (x0 : a8) (x1 : Int) {K : Bool → Hp → Prop} (I : Inv w0 ps0 H0 H [] w) (hR : ∀ (r0 : Bool) (H' : Hp) (w' : World) (_ : Inv w0 ps0 H0 H' [] w') (_ : K r0 H'), R (vB r0) w') (h : a8q x0 x1 H K) : F70 (Value.agg (b8 x0).toArray) (vi x1) w R E := by
 unfold a8q at h
 unfold F70
 refine K6 I (cs := (b8 x0)) rfl fun g_2 w_3 I_4 k_5 => ?_
 refine f2 (ldA Tryz.isAgg53 Tryz.sizeOf53 rfl (I_4.at1 (o := 0) (vs := (b8 x0)) (nb rfl) rfl)) ?_
 refine f7 (cap := []) (fun args w => Tryz.call67 args w) ?_
 refine k8 (Fi := []) (Fr := [bx g_2 53 (b8 x0)]) I_4 (h) (fun b6Z H_6 b7a w_7 I_8 b7b k_9 a7c => ?_) (fun _ _ _ _ _ q => q.elim)
 obtain ⟨E1, b7F, rfl, rfl, h⟩ := a7c
 refine a7 (r6 _ _ (vi E1) rfl) ?_
 refine a7 (r6 _ _ (vB b7F) rfl) ?_
 simp only [z2]
 refine a7 (Pu.g fun hb => by have d7 := hb; simp only [i6 d7]; exact (k7 _ _ _ _ _ _)) ?_
 refine a7 (w8 _ _) ?_
 exact hR (b7F && (decide (E1 = x1))) H_6 _ I_8.drop h
theorem c4F (x0 : a8) (x1 : Int) {H : Hp} {K : Bool → Hp → Prop} (h : a8q x0 x1 H K) : a1V x0 x1 H K := by
 intro w I
 refine i3s ?_
 refine c4h x0 x1 I (fun r0 H' w' I' hk => ⟨H', _, I', r0, rfl, rfl, hk⟩) h
def D2 (C6 : (List a8)) (H : Hp) (K : Sl → Hp → Prop) : Prop :=
 ∀ (r7 : Sl) (M1 : Hp), Hle H M1 → SlH M1 4 b8 r7 C6 → r7.n ≤ r7.c →
 K r7 M1
def D3 (a0u : Sl) (a4V : Int) (m6 : (List a8)) (o0 : Int) (H : Hp) (n2 : ((List a8) × Int) → Hp → Prop) (K : Sl → Hp → Prop) : Prop :=
 (o0 < a4V →
 (0 : Int) ≤ o0 ∧ (o0 : Int) < a0u.n ∧ ∃ x_1 : a8, EltH H a0u o0 4 (b8 x_1) ∧
 a6P x_1 H (fun (I0 : a8) (U1 : Hp) =>
 (m6.length + ([I0] : List a8).length) * 57 ≤ 140737488355328 ∧
 n2 ((m6 ++ [I0]), (IntKind.wrap .i64 (o0 + 1))) U1)) ∧
 (¬ (o0 < a4V) →
 D2 m6 H K)
def G5 (x0 : Sl) (H : Hp) (K : Sl → Hp → Prop) : Prop :=
 TL (([], 0) : (List a8) × Int) H fun (s : (List a8) × Int) H n2 => D3 x0 (x0.n : Int) s.1 s.2 H n2 K
theorem a4A (x0 : Sl) {K : Sl → Hp → Prop} (I : Inv w0 ps0 H0 H [] w) (hR : ∀ (r0 : Sl) (H' : Hp) (w' : World) (_ : Inv w0 ps0 H0 H' [] w') (_ : K r0 H'), R (vs r0) w') (h : G5 x0 H K) : F66 (vs x0) (fC 40) w R E := by
 unfold G5 at h
 unfold F66
 have hj1 : ∀ (C6 : (List a8)) (r7 : Sl) (Fs5j1 : Frag) (H : Hp) (w : World) (_ : RowL 53 4 b8 r7 C6 Fs5j1) (_ : Inv w0 ps0 H0 H [Fs5j1] w) (_ : D2 C6 H K), e1d (vs r7) w R E := by
  intro C6 r7 Fs5j1 H w a6v I h
  unfold e1d
  intro _
  unfold D2 at h
  obtain ⟨M1, a6K, b0n, a5v, a5W⟩ := Inv.freezeC I a6v (by decide)
  replace h := h r7 M1 b0n a5v a5W
  exact hR r7 M1 _ a6K h
 refine r9 fun j1 hx1 => ?_
 refine a7 (K0 _ _ _) ?_
 obtain ⟨a2N, R4, b1x, b1y⟩ := h
 refine A7 (J := fun n l w => ∃ (s : (List a8) × Int) (H : Hp) (B9 : Sl) (Fs5l2 : Frag) , n = R4 s ∧ l = (match s with | (m6, o0) => [(vs B9), (vi o0)]) ∧ (match s with | (m6, o0) => RowL 53 4 b8 B9 m6 Fs5l2) ∧ (match s with | (m6, o0) => Inv w0 ps0 H0 H [Fs5l2] w) ∧ a2N s H) ⟨_, ([], 0), H, (Sl.mk none 0 0), [], rfl, rfl, (RowL.nil T8 T9), I.nil, b1x⟩ ?_
 rintro c5F τ_50 w next2 ⟨⟨m6, o0⟩, H, B9, Fs5l2, rfl, a1W, Q2, I, b1z⟩ hn2
 dsimp only at a1W I Q2
 simp only [List.map_cons, List.map_nil, List.cons.injEq, and_true] at a1W
 obtain ⟨e5, e10⟩ := a1W
 simp only [e5, e10]
 obtain ⟨n2, hm2, h⟩ : ∃ n2 : ((List a8) × Int) → Hp → Prop, (∀ s' H', n2 s' H' → a2N s' H' ∧ R4 s' < R4 (m6, o0)) ∧ D3 x0 (x0.n : Int) m6 o0 H n2 K := ⟨_, fun _ _ h => h, b1y (m6, o0) H (fun s' H' => a2N s' H' ∧ R4 s' < R4 (m6, o0)) b1z (fun _ _ a b => ⟨a, b⟩)⟩
 unfold f2k
 unfold D3 at h
 refine a7 (v7 _ _ _ _ _ _) ?_
 refine k4 (fun a0H => ?_) (fun a0H => ?_)
 ·replace h := h.1 a0H
  obtain ⟨h_4, h_5, x_1, h_7, h⟩ := h
  obtain ⟨g_2, o_3, h_6, h_7⟩ := h_7
  refine a7 (G7 h_6 _ _ _ _ h_4 h_5) ?_
  refine f2 (ldA (vs := (b8 x_1)) Tryz.isAgg53 Tryz.sizeOf53 rfl (I.atH h_7)) ?_
  refine z8 I Tryz.zeroValue53 (cs := [(vi 0), (vi 0), (eS), (nS)]) rfl fun g_9 o9 a3G b3h => ?_
  refine m5 a3G Tryz.sizeOf53 (vs := (b8 x_1)) (cs' := (b8 x_1)) rfl rfl (nb rfl) rfl rfl fun a3F P1 a4W => ?_
  refine f2 (ldA Tryz.isAgg53 Tryz.sizeOf53 rfl (P1.at1 (o := 0) (vs := (b8 x_1)) (nb rfl) rfl)) ?_
  refine f7 (cap := []) (fun args w => Tryz.call40 args w) ?_
  refine k8 (Fi := []) (Fr := [bx g_9 53 (b8 x_1), Fs5l2]) P1 (h) (fun c3a U1 c0X a0t a4X c3b c0Y b0o => ?_) (fun _ _ _ _ _ q => q.elim)
  obtain ⟨I0, rfl, rfl, h⟩ := b0o
  refine a4b (e := 53) (c := b8) (xs := [I0]) a4X (b7V _ _ _ _ _ _) rfl rfl T8 T9 (nb rfl) fun c0Z b4v B0 a8c X3 a9P => ?_
  obtain ⟨b0p, h⟩ := h
  refine c4O (s := B9) (xs := m6) (X3.bring 2) Q2 (a8c.srcO ((X3.bring 2).bring 1)) b0p fun a7u a9Q A6 a9i a6L b8K => ?_
  refine a7 (u7 _ _ _ _ _ _) ?_
  exact hn2 _ _ _ (hm2 _ _ h).2 ⟨((m6 ++ [I0]), (IntKind.wrap .i64 (o0 + 1))), U1, a7u, a9Q, rfl, rfl, a9i, ((a6L.bring 1).drop.bring 1).drop, (hm2 _ _ h).1⟩
 ·replace h := h.2 a0H
  exact hx1 _ _ (hj1 m6 B9 Fs5l2 H _ Q2 I h)
theorem a4C (x0 : Sl) {H : Hp} {K : Sl → Hp → Prop} (h : G5 x0 H K) : G4 x0 H K := by
 intro w I
 refine i2K ?_
 refine a4A x0 I (fun r0 H' w' I' hk => ⟨H', _, I', r0, rfl, rfl, hk⟩) h
def a6A (x0 : Int) (H : Hp) (K : a8 → Hp → Prop) : Prop :=
 (x0 < 0 →
 ∀ (s_7 : Sl) (U1 : Hp), Hle H U1 → SlH U1 4 b8 s_7 [(a8.mk 1 (IntKind.wrap .i64 (0 - x0)) ⟨#[]⟩ (Sl.mk none 0 0))] → s_7.n ≤ s_7.c →
 K (a8.mk 5 0 ⟨#[]⟩ s_7) U1) ∧
 (¬ (x0 < 0) →
 K (a8.mk 1 x0 ⟨#[]⟩ (Sl.mk none 0 0)) H)
theorem c0k (x0 : Int) {K : a8 → Hp → Prop} (I : Inv w0 ps0 H0 H [] w) (hR : ∀ (r0 : a8) (H' : Hp) (w' : World) (_ : Inv w0 ps0 H0 H' [] w') (_ : K r0 H'), R (Value.agg (b8 r0).toArray) w') (h : a6A x0 H K) : F68 (vi x0) w R E := by
 unfold a6A at h
 unfold F68
 refine z8 I Tryz.zeroValue53 (cs := [(vi 0), (vi 0), (eS), (nS)]) rfl fun g_2 w_3 I_4 k_5 => ?_
 refine a7 (v7 _ _ _ _ _ _) ?_
 refine k4 (fun b9r => ?_) (fun b9r => ?_)
 ·replace h := h.1 b9r
  refine a7 (d5N _ _) ?_
  refine a7 (b6P _ _) ?_
  refine a4b (e := 53) (c := b8) (xs := [(a8.mk 1 (IntKind.wrap .i64 (0 - x0)) ⟨#[]⟩ (Sl.mk none 0 0))]) I_4 (b7V _ _ _ _ _ _) rfl rfl T8 T9 (nb rfl) fun s_7 F_8 w_9 b1F a3G b3h => ?_
  refine a7 (b6N _ _ _ _) ?_
  refine m5 (a3G.bring 1) Tryz.sizeOf53 (vs := [(vi 5), (vi 0), (eS), (vs s_7)]) (cs' := [(vi 5), (vi 0), (eS), (vs s_7)]) rfl rfl (nb rfl) rfl rfl fun a3F P1 a4W => ?_
  refine J4 Tryz.isAgg53 Tryz.sizeOf53 rfl (P1.at1 (o := 0) (vs := [(vi 5), (vi 0), (eS), (vs s_7)]) (nb rfl) rfl) ?_
  obtain ⟨U1, b0q, c3J, a9l, f6T⟩ := Inv.freezeC (P1.bring 1) b1F (by decide)
  replace h := h s_7 U1 c3J a9l f6T
  exact hR (a8.mk 5 0 ⟨#[]⟩ s_7) U1 _ b0q.drop h
 ·replace h := h.2 b9r
  refine a7 (b6P _ _) ?_
  refine m5 I_4 Tryz.sizeOf53 (vs := [(vi 1), (vi x0), (eS), (nS)]) (cs' := [(vi 1), (vi x0), (eS), (nS)]) rfl rfl (nb rfl) rfl rfl fun a3e b5C e4R => ?_
  refine J4 Tryz.isAgg53 Tryz.sizeOf53 rfl (b5C.at1 (o := 0) (vs := [(vi 1), (vi x0), (eS), (nS)]) (nb rfl) rfl) ?_
  exact hR (a8.mk 1 x0 ⟨#[]⟩ (Sl.mk none 0 0)) H _ b5C.drop h
theorem c1s (x0 : Int) {H : Hp} {K : a8 → Hp → Prop} (h : a6A x0 H K) : a6t x0 H K := by
 intro w I
 refine i2R ?_
 refine c0k x0 I (fun r0 H' w' I' hk => ⟨H', _, I', r0, rfl, rfl, hk⟩) h
def E9 (b9A : Int) (a6y : Int) (V4 : a7M) (O0 : a8) (H : Hp) (K : Int → Bool → Hp → Prop) : Prop :=
 K b9A ((decide (a6y = 0)) && (!decide (b9A = (-9223372036854775808)))) H
def a3t (m8 : a7M) (p9 : a8) (H : Hp) (K : Int → Bool → Hp → Prop) : Prop :=
 (p9.b6 = 5 →
 (0 : Int) ≤ 0 ∧ (0 : Int) < 2 ∧
 b0g (([m8.f0, m8.f1] : List Int).getD (0 : Int).toNat 0) H (fun (P2 : Int) (b4T : Int) (a6j : Hp) =>
 E9 P2 b4T m8 p9 a6j K)) ∧
 (¬ (p9.b6 = 5) →
 (p9.b6 = 6 →
 (0 : Int) ≤ 0 ∧ (0 : Int) < 2 ∧
 (0 : Int) ≤ 1 ∧ (1 : Int) < 2 ∧
 b0h (([m8.f0, m8.f1] : List Int).getD (0 : Int).toNat 0) (([m8.f0, m8.f1] : List Int).getD (1 : Int).toNat 0) H (fun (c0B : Int) (d5i : Int) (c9s : Hp) =>
 E9 c0B d5i m8 p9 c9s K)) ∧
 (¬ (p9.b6 = 6) →
 (p9.b6 = 7 →
 (0 : Int) ≤ 0 ∧ (0 : Int) < 2 ∧
 (0 : Int) ≤ 1 ∧ (1 : Int) < 2 ∧
 a7Z (([m8.f0, m8.f1] : List Int).getD (0 : Int).toNat 0) (([m8.f0, m8.f1] : List Int).getD (1 : Int).toNat 0) H (fun (a7s : Int) (d5j : Int) (b3f : Hp) =>
 E9 a7s d5j m8 p9 b3f K)) ∧
 (¬ (p9.b6 = 7) →
 (p9.b6 = 8 →
 (0 : Int) ≤ 0 ∧ (0 : Int) < 2 ∧
 (0 : Int) ≤ 1 ∧ (1 : Int) < 2 ∧
 b0i (([m8.f0, m8.f1] : List Int).getD (0 : Int).toNat 0) (([m8.f0, m8.f1] : List Int).getD (1 : Int).toNat 0) H (fun (d5k : Int) (d5l : Int) (f6U : Hp) =>
 E9 d5k d5l m8 p9 f6U K)) ∧
 (¬ (p9.b6 = 8) →
 (p9.b6 = 9 →
 (0 : Int) ≤ 0 ∧ (0 : Int) < 2 ∧
 (0 : Int) ≤ 1 ∧ (1 : Int) < 2 ∧
 b0j (([m8.f0, m8.f1] : List Int).getD (0 : Int).toNat 0) (([m8.f0, m8.f1] : List Int).getD (1 : Int).toNat 0) H (fun (d2b : Int) (d2c : Int) (c9e : Hp) =>
 E9 d2b d2c m8 p9 c9e K)) ∧
 (¬ (p9.b6 = 9) →
 (p9.b6 = 10 →
 (0 : Int) ≤ 0 ∧ (0 : Int) < 2 ∧
 (0 : Int) ≤ 1 ∧ (1 : Int) < 2 ∧
 b0k (([m8.f0, m8.f1] : List Int).getD (0 : Int).toNat 0) (([m8.f0, m8.f1] : List Int).getD (1 : Int).toNat 0) H (fun (d2d : Int) (d2e : Int) (e7O : Hp) =>
 E9 d2d d2e m8 p9 e7O K)) ∧
 (¬ (p9.b6 = 10) →
 E9 0 2 m8 p9 H K))))))
def a3u (f8T : Sl) (f8U : Int) (Q0 : a8) (a5k : Int) (D7 : a7M) (H : Hp) (n3 : (Int × a7M) → Hp → Prop) (K : Int → Bool → Hp → Prop) : Prop :=
 (a5k < f8U →
 (0 : Int) ≤ a5k ∧ (a5k : Int) < f8T.n ∧ ∃ a8V : a8, EltH H f8T a5k 4 (b8 a8V) ∧
 T0 a8V H (fun (a8W : Int) (d2f : Bool) (b6p : Hp) =>
 ((!d2f) = true →
 K 0 false b6p) ∧
 ((!d2f) = false →
 (0 : Int) ≤ a5k ∧ (a5k : Int) < 2 ∧
 n3 ((IntKind.wrap .i64 (a5k + 1)), (a7M.mk (if a5k = 0 then a8W else D7.f0) (if a5k = 1 then a8W else D7.f1))) b6p))) ∧
 (¬ (a5k < f8U) →
 a3t D7 Q0 H K)
def a4s (x0 : a8) (H : Hp) (K : Int → Bool → Hp → Prop) : Prop :=
 TL ((0, (a7M.mk 0 0)) : Int × a7M) H fun (s : Int × a7M) H n3 => a3u x0.k9 (x0.k9.n : Int) x0 s.1 s.2 H n3 K
theorem b7p (x0 : a8) {K : Int → Bool → Hp → Prop} (I : Inv w0 ps0 H0 H [] w) (hR : ∀ (r0 : Int) (r1 : Bool) (H' : Hp) (w' : World) (_ : Inv w0 ps0 H0 H' [] w') (_ : K r0 r1 H'), R (Value.tuple #[(vi r0), (vB r1)]) w') (h : a4s x0 H K) : F69 (Value.agg (b8 x0).toArray) w R E := by
 unfold a4s at h
 unfold F69
 refine K6 I (cs := (b8 x0)) rfl fun g_2 w_3 I_4 k_5 => ?_
 refine z8 I_4 Tryz.zeroValue173 (cs := [(vi 0), (vi 0)]) rfl fun g_7 w_8 I_9 a9j => ?_
 have hj1 : ∀ (m8 : a7M) (H : Hp) (w : World) (_ : Inv w0 ps0 H0 H [bx g_7 173 [(vi m8.f0), (vi m8.f1)], bx g_2 53 (b8 x0)] w) (_ : a3t m8 x0 H K), e1f (Value.pointer (some ⟨g_2, 0, none⟩)) (Value.pointer (some ⟨g_7, 0, none⟩)) w R E := by
  intro m8 H w I h
  unfold e1f
  intro _
  unfold a3t at h
  have hj2 : ∀ (b9A : Int) (a6y : Int) (H : Hp) (w : World) (_ : Inv w0 ps0 H0 H [bx g_7 173 [(vi m8.f0), (vi m8.f1)], bx g_2 53 (b8 x0)] w) (_ : E9 b9A a6y m8 x0 H K), e1e (vi b9A) (vi a6y) w R E := by
   intro b9A a6y H w I h
   unfold e1e
   intro _
   unfold E9 at h
   refine a7 (k7 _ _ _ _ _ _) ?_
   simp only [z2]
   refine a7 (Pu.g fun hb => by have d7 := hb; simp only [i6 d7]; exact (P9 _ _ _ _ _ _)) ?_
   refine a7 (w8 _ _) ?_
   exact hR b9A ((decide (a6y = 0)) && (!decide (b9A = (-9223372036854775808)))) H _ I.drop.drop h
  refine r9 fun j2 hx2 => ?_
  refine a7 U5 ?_
  refine f2 (ld1 Tryz.isAgg3 ((I.bring 1).at1 (o := 0) (vs := [(vi x0.b6)]) (nb rfl) rfl)) ?_
  refine a7 (k7 _ _ _ _ _ _) ?_
  refine k4 (fun e7P => ?_) (fun e7P => ?_)
  ·replace h := h.1 e7P
   obtain ⟨d3T, a5v, h⟩ := h
   refine a7 (a3R _ _ d3T a5v) ?_
   refine f2 (ld1 (v := (vi (([m8.f0, m8.f1] : List Int).getD (0 : Int).toNat 0))) Tryz.isAgg2 (Inv.b8m (n := 2) (k := .i64) (l := [m8.f0, m8.f1]) I rfl rfl d3T a5v)) ?_
   refine f7 (cap := []) (fun args w => Tryz.call112 args w) ?_
   refine k8 (Fi := []) (Fr := [bx g_7 173 [(vi m8.f0), (vi m8.f1)], bx g_2 53 (b8 x0)]) I (h) (fun e5A a6j e5B D8 b1A e5C d7V c3E => ?_) (fun _ _ _ _ _ q => q.elim)
   obtain ⟨P2, b4T, rfl, rfl, h⟩ := c3E
   refine a7 (r6 _ _ (vi P2) rfl) ?_
   refine a7 (r6 _ _ (vi b4T) rfl) ?_
   exact hx2 _ _ (hj2 P2 b4T a6j _ ((b1A.bring 1).bring 1) h)
  ·replace h := h.2 e7P
   refine a7 (k7 _ _ _ _ _ _) ?_
   refine k4 (fun b4x => ?_) (fun b4x => ?_)
   ·replace h := h.1 b4x
    obtain ⟨b7e, c1e, h⟩ := h
    refine a7 (a3R _ _ b7e c1e) ?_
    refine f2 (ld1 (v := (vi (([m8.f0, m8.f1] : List Int).getD (0 : Int).toNat 0))) Tryz.isAgg2 (Inv.b8m (n := 2) (k := .i64) (l := [m8.f0, m8.f1]) I rfl rfl b7e c1e)) ?_
    obtain ⟨c1d, c1j, h⟩ := h
    refine a7 (a3R _ _ c1d c1j) ?_
    refine f2 (ld1 (v := (vi (([m8.f0, m8.f1] : List Int).getD (1 : Int).toNat 0))) Tryz.isAgg2 (Inv.b8m (n := 2) (k := .i64) (l := [m8.f0, m8.f1]) I rfl rfl c1d c1j)) ?_
    refine f7 (cap := []) (fun args w => Tryz.call113 args w) ?_
    refine k8 (Fi := []) (Fr := [bx g_7 173 [(vi m8.f0), (vi m8.f1)], bx g_2 53 (b8 x0)]) I (h) (fun j3q c9s j3r b4g b3y c9b c5X f4B => ?_) (fun _ _ _ _ _ q => q.elim)
    obtain ⟨c0B, d5i, rfl, rfl, h⟩ := f4B
    refine a7 (r6 _ _ (vi c0B) rfl) ?_
    refine a7 (r6 _ _ (vi d5i) rfl) ?_
    exact hx2 _ _ (hj2 c0B d5i c9s _ ((b3y.bring 1).bring 1) h)
   ·replace h := h.2 b4x
    refine a7 (k7 _ _ _ _ _ _) ?_
    refine k4 (fun c4i => ?_) (fun c4i => ?_)
    ·replace h := h.1 c4i
     obtain ⟨c5I, d3x, h⟩ := h
     refine a7 (a3R _ _ c5I d3x) ?_
     refine f2 (ld1 (v := (vi (([m8.f0, m8.f1] : List Int).getD (0 : Int).toNat 0))) Tryz.isAgg2 (Inv.b8m (n := 2) (k := .i64) (l := [m8.f0, m8.f1]) I rfl rfl c5I d3x)) ?_
     obtain ⟨i4a, e7Q, h⟩ := h
     refine a7 (a3R _ _ i4a e7Q) ?_
     refine f2 (ld1 (v := (vi (([m8.f0, m8.f1] : List Int).getD (1 : Int).toNat 0))) Tryz.isAgg2 (Inv.b8m (n := 2) (k := .i64) (l := [m8.f0, m8.f1]) I rfl rfl i4a e7Q)) ?_
     refine f7 (cap := []) (fun args w => Tryz.call114 args w) ?_
     refine k8 (Fi := []) (Fr := [bx g_7 173 [(vi m8.f0), (vi m8.f1)], bx g_2 53 (b8 x0)]) I (h) (fun d3r b3f f3E W9 c0W f3F e4x c8Q => ?_) (fun _ _ _ _ _ q => q.elim)
     obtain ⟨a7s, d5j, rfl, rfl, h⟩ := c8Q
     refine a7 (r6 _ _ (vi a7s) rfl) ?_
     refine a7 (r6 _ _ (vi d5j) rfl) ?_
     exact hx2 _ _ (hj2 a7s d5j b3f _ ((c0W.bring 1).bring 1) h)
    ·replace h := h.2 c4i
     refine a7 (k7 _ _ _ _ _ _) ?_
     refine k4 (fun e7R => ?_) (fun e7R => ?_)
     ·replace h := h.1 e7R
      obtain ⟨e7S, d3U, h⟩ := h
      refine a7 (a3R _ _ e7S d3U) ?_
      refine f2 (ld1 (v := (vi (([m8.f0, m8.f1] : List Int).getD (0 : Int).toNat 0))) Tryz.isAgg2 (Inv.b8m (n := 2) (k := .i64) (l := [m8.f0, m8.f1]) I rfl rfl e7S d3U)) ?_
      obtain ⟨i4b, i4c, h⟩ := h
      refine a7 (a3R _ _ i4b i4c) ?_
      refine f2 (ld1 (v := (vi (([m8.f0, m8.f1] : List Int).getD (1 : Int).toNat 0))) Tryz.isAgg2 (Inv.b8m (n := 2) (k := .i64) (l := [m8.f0, m8.f1]) I rfl rfl i4b i4c)) ?_
      refine f7 (cap := []) (fun args w => Tryz.call115 args w) ?_
      refine k8 (Fi := []) (Fr := [bx g_7 173 [(vi m8.f0), (vi m8.f1)], bx g_2 53 (b8 x0)]) I (h) (fun k1h f6U k1i c1r e7T k1j j4Q j4R => ?_) (fun _ _ _ _ _ q => q.elim)
      obtain ⟨d5k, d5l, rfl, rfl, h⟩ := j4R
      refine a7 (r6 _ _ (vi d5k) rfl) ?_
      refine a7 (r6 _ _ (vi d5l) rfl) ?_
      exact hx2 _ _ (hj2 d5k d5l f6U _ ((e7T.bring 1).bring 1) h)
     ·replace h := h.2 e7R
      refine a7 (k7 _ _ _ _ _ _) ?_
      refine k4 (fun c3Z => ?_) (fun c3Z => ?_)
      ·replace h := h.1 c3Z
       obtain ⟨d3w, c5H, h⟩ := h
       refine a7 (a3R _ _ d3w c5H) ?_
       refine f2 (ld1 (v := (vi (([m8.f0, m8.f1] : List Int).getD (0 : Int).toNat 0))) Tryz.isAgg2 (Inv.b8m (n := 2) (k := .i64) (l := [m8.f0, m8.f1]) I rfl rfl d3w c5H)) ?_
       obtain ⟨c5P, b7g, h⟩ := h
       refine a7 (a3R _ _ c5P b7g) ?_
       refine f2 (ld1 (v := (vi (([m8.f0, m8.f1] : List Int).getD (1 : Int).toNat 0))) Tryz.isAgg2 (Inv.b8m (n := 2) (k := .i64) (l := [m8.f0, m8.f1]) I rfl rfl c5P b7g)) ?_
       refine f7 (cap := []) (fun args w => Tryz.call116 args w) ?_
       refine k8 (Fi := []) (Fr := [bx g_7 173 [(vi m8.f0), (vi m8.f1)], bx g_2 53 (b8 x0)]) I (h) (fun j3d c9e i6v a5T f4m i6w j3e e5j => ?_) (fun _ _ _ _ _ q => q.elim)
       obtain ⟨d2b, d2c, rfl, rfl, h⟩ := e5j
       refine a7 (r6 _ _ (vi d2b) rfl) ?_
       refine a7 (r6 _ _ (vi d2c) rfl) ?_
       exact hx2 _ _ (hj2 d2b d2c c9e _ ((f4m.bring 1).bring 1) h)
      ·replace h := h.2 c3Z
       refine a7 (k7 _ _ _ _ _ _) ?_
       refine k4 (fun c3W => ?_) (fun c3W => ?_)
       ·replace h := h.1 c3W
        obtain ⟨c7u, f8V, h⟩ := h
        refine a7 (a3R _ _ c7u f8V) ?_
        refine f2 (ld1 (v := (vi (([m8.f0, m8.f1] : List Int).getD (0 : Int).toNat 0))) Tryz.isAgg2 (Inv.b8m (n := 2) (k := .i64) (l := [m8.f0, m8.f1]) I rfl rfl c7u f8V)) ?_
        obtain ⟨f8W, f8X, h⟩ := h
        refine a7 (a3R _ _ f8W f8X) ?_
        refine f2 (ld1 (v := (vi (([m8.f0, m8.f1] : List Int).getD (1 : Int).toNat 0))) Tryz.isAgg2 (Inv.b8m (n := 2) (k := .i64) (l := [m8.f0, m8.f1]) I rfl rfl f8W f8X)) ?_
        refine f7 (cap := []) (fun args w => Tryz.call117 args w) ?_
        refine k8 (Fi := []) (Fr := [bx g_7 173 [(vi m8.f0), (vi m8.f1)], bx g_2 53 (b8 x0)]) I (h) (fun j7p e7O e7U c7A i8Y j7q j7r i8Z => ?_) (fun _ _ _ _ _ q => q.elim)
        obtain ⟨d2d, d2e, rfl, rfl, h⟩ := i8Z
        refine a7 (r6 _ _ (vi d2d) rfl) ?_
        refine a7 (r6 _ _ (vi d2e) rfl) ?_
        exact hx2 _ _ (hj2 d2d d2e e7O _ ((i8Y.bring 1).bring 1) h)
       ·replace h := h.2 c3W
        exact hx2 _ _ (hj2 0 2 H _ ((I.bring 1).bring 1) h)
 refine r9 fun j1 hx1 => ?_
 refine a7 B2 ?_
 refine f2 (ld1 Tryz.isAgg51 ((I_9.bring 1).at1 (o := 3) (vs := [(vs x0.k9)]) (nb rfl) rfl)) ?_
 refine a7 (K0 _ _ _) ?_
 obtain ⟨e7V, d2g, i9a, i9b⟩ := h
 refine A7 (J := fun n l w => ∃ (s : Int × a7M) (H : Hp) , n = d2g s ∧ l = (match s with | (a5k, D7) => [(vi a5k)]) ∧ (match s with | (a5k, D7) => Inv w0 ps0 H0 H [bx g_7 173 [(vi D7.f0), (vi D7.f1)], bx g_2 53 (b8 x0)] w) ∧ e7V s H) ⟨_, (0, (a7M.mk 0 0)), H, rfl, rfl, ((I_9.bring 1).bring 1), i9a⟩ ?_
 rintro j7s τ_168 w next3 ⟨⟨a5k, D7⟩, H, rfl, e7W, I, i9c⟩ hn3
 dsimp only at e7W I
 simp only [List.map_cons, List.map_nil, List.cons.injEq, and_true] at e7W
 have e14 := e7W
 simp only [e14]
 obtain ⟨n3, hm3, h⟩ : ∃ n3 : (Int × a7M) → Hp → Prop, (∀ s' H', n3 s' H' → e7V s' H' ∧ d2g s' < d2g (a5k, D7)) ∧ a3u x0.k9 (x0.k9.n : Int) x0 a5k D7 H n3 K := ⟨_, fun _ _ h => h, i9b (a5k, D7) H (fun s' H' => e7V s' H' ∧ d2g s' < d2g (a5k, D7)) i9c (fun _ _ a b => ⟨a, b⟩)⟩
 unfold f2p
 unfold a3u at h
 refine a7 (v7 _ _ _ _ _ _) ?_
 refine k4 (fun e7X => ?_) (fun e7X => ?_)
 ·replace h := h.1 e7X
  obtain ⟨i9d, i9e, a8V, b6n, h⟩ := h
  obtain ⟨i8u, i8v, e7Y, b6n⟩ := b6n
  refine a7 (G7 e7Y _ _ _ _ i9d i9e) ?_
  refine f2 (ldA (vs := (b8 a8V)) Tryz.isAgg53 Tryz.sizeOf53 rfl (I.atH b6n)) ?_
  refine z8 I Tryz.zeroValue53 (cs := [(vi 0), (vi 0), (eS), (nS)]) rfl fun f8D j7t i9f j7u => ?_
  refine m5 i9f Tryz.sizeOf53 (vs := (b8 a8V)) (cs' := (b8 a8V)) rfl rfl (nb rfl) rfl rfl fun a9u d2h i9g => ?_
  refine f2 (ldA Tryz.isAgg53 Tryz.sizeOf53 rfl (d2h.at1 (o := 0) (vs := (b8 a8V)) (nb rfl) rfl)) ?_
  refine f7 (cap := []) (fun args w => Tryz.call67 args w) ?_
  refine k8 (Fi := []) (Fr := [bx f8D 53 (b8 a8V), bx g_7 173 [(vi D7.f0), (vi D7.f1)], bx g_2 53 (b8 x0)]) d2h (h) (fun i9h b6p i9i a9q d5m i9j i9k e7Z => ?_) (fun _ _ _ _ _ q => q.elim)
  obtain ⟨a8W, d2f, rfl, rfl, h⟩ := e7Z
  refine a7 (r6 _ _ (vi a8W) rfl) ?_
  refine a7 (r6 _ _ (vB d2f) rfl) ?_
  refine a7 (T4 _) ?_
  refine o2 (fun e8a => ?_) (fun e8a => ?_)
  ·replace h := h.1 e8a
   exact hR 0 false b6p _ d5m.drop.drop.drop h
  ·replace h := h.2 e8a
   obtain ⟨d5n, d5o, h⟩ := h
   refine a7 (a3R _ _ d5n d5o) ?_
   refine m5 (d5m.bring 1) Tryz.sizeOf2 (vs := [(vi a8W)]) (cs' := [(vi (if a5k = 0 then a8W else D7.f0)), (vi (if a5k = 1 then a8W else D7.f1))]) rfl rfl (by simp only [List.length_cons, List.length_nil]; omega) rfl (f3j d5n d5o) fun c2U i9l j7v => ?_
   refine a7 (u7 _ _ _ _ _ _) ?_
   exact hn3 _ _ _ (hm3 _ _ h).2 ⟨((IntKind.wrap .i64 (a5k + 1)), (a7M.mk (if a5k = 0 then a8W else D7.f0) (if a5k = 1 then a8W else D7.f1))), b6p, rfl, rfl, (((i9l.bring 1).drop.bring 1).bring 1), (hm3 _ _ h).1⟩
 ·replace h := h.2 e7X
  exact hx1 _ _ (hj1 D7 H _ ((I.bring 1).bring 1) h)
theorem b7O (x0 : a8) {H : Hp} {K : Int → Bool → Hp → Prop} (h : a4s x0 H K) : a7p x0 H K := by
 intro w I
 refine i3q ?_
 refine b7p x0 I (fun r0 r1 H' w' I' hk => ⟨H', _, I', r0, r1, rfl, rfl, hk⟩) h
def a0g (p9 : a8) (m8 : a8) (H : Hp) (K : a8 → Hp → Prop) : Prop :=
 K p9 H
def a2O (c6q : Int) (S7 : a8) (f2y : a8) (H : Hp) (K : a8 → Hp → Prop) : Prop :=
 (0 : Int) ≤ 1 ∧ (1 : Int) < S7.k9.n ∧ ∃ c4a : a8, EltH H S7.k9 1 4 (b8 c4a) ∧
 a1V c4a c6q H (fun (e1m : Bool) (c1o : Hp) =>
 (e1m = true →
 (0 : Int) ≤ 0 ∧ (0 : Int) < S7.k9.n ∧ ∃ b0E : a8, EltH c1o S7.k9 0 4 (b8 b0E) ∧
 K b0E c1o) ∧
 (e1m = false →
 a0g S7 f2y c1o K))
def a0h (O0 : a8) (V4 : a8) (H : Hp) (K : a8 → Hp → Prop) : Prop :=
 (0 : Int) ≤ 1 ∧ (1 : Int) < O0.k9.n ∧ ∃ d5p : a8, EltH H O0.k9 1 4 (b8 d5p) ∧
 a1V d5p 1 H (fun (e1n : Bool) (c7G : Hp) =>
 (e1n = true →
 (0 : Int) ≤ 0 ∧ (0 : Int) < O0.k9.n ∧ ∃ c0G : a8, EltH c7G O0.k9 0 4 (b8 c0G) ∧
 K c0G c7G) ∧
 (e1n = false →
 a0g O0 V4 c7G K))
def a6S (x0 : a8) (H : Hp) (K : a8 → Hp → Prop) : Prop :=
 G4 x0.k9 H (fun (m9 : Sl) (Z0 : Hp) =>
 T0 (a8.mk x0.b6 x0.o6 x0.f6 m9) Z0 (fun (a6x : Int) (d5q : Bool) (a9k : Hp) =>
 (d5q = true →
 a6t a6x a9k (fun (b2g : a8) (b1E : Hp) =>
 K b2g b1E)) ∧
 (d5q = false →
 a7p (a8.mk x0.b6 x0.o6 x0.f6 m9) a9k (fun (c4j : Int) (b7P : Bool) (b2I : Hp) =>
 (b7P = true →
 a6t c4j b2I (fun (b6l : a8) (c3P : Hp) =>
 K b6l c3P)) ∧
 (b7P = false →
 (x0.b6 = 6 →
 (0 : Int) ≤ 0 ∧ (0 : Int) < m9.n ∧ ∃ e8b : a8, EltH b2I m9 0 4 (b8 e8b) ∧
 a1V e8b 0 b2I (fun (b1e : Bool) (a8y : Hp) =>
 (b1e = true →
 (0 : Int) ≤ 1 ∧ (1 : Int) < m9.n ∧ ∃ c6B : a8, EltH a8y m9 1 4 (b8 c6B) ∧
 K c6B a8y) ∧
 (b1e = false →
 a2O 0 (a8.mk x0.b6 x0.o6 x0.f6 m9) (a8.mk 0 0 ⟨#[]⟩ (Sl.mk none 0 0)) a8y K))) ∧
 (¬ (x0.b6 = 6) →
 (x0.b6 = 7 →
 a2O 0 (a8.mk x0.b6 x0.o6 x0.f6 m9) (a8.mk 0 0 ⟨#[]⟩ (Sl.mk none 0 0)) b2I K) ∧
 (¬ (x0.b6 = 7) →
 (x0.b6 = 8 →
 (0 : Int) ≤ 0 ∧ (0 : Int) < m9.n ∧ ∃ b7B : a8, EltH b2I m9 0 4 (b8 b7B) ∧
 a1V b7B 1 b2I (fun (b6H : Bool) (b6j : Hp) =>
 ∃ d5r : a8, (b6H = true → (0 : Int) ≤ 1 ∧ (1 : Int) < m9.n ∧ EltH b6j m9 1 4 (b8 d5r)) ∧
 TG (b6H = true) (a1V d5r 1 b6j) false b6j (fun (b4U : Bool) (b1h : Hp) =>
 ((b6H && (!b4U)) = true →
 (0 : Int) ≤ 1 ∧ (1 : Int) < m9.n ∧ ∃ b4V : a8, EltH b1h m9 1 4 (b8 b4V) ∧
 K b4V b1h) ∧
 ((b6H && (!b4U)) = false →
 a0h (a8.mk x0.b6 x0.o6 x0.f6 m9) (a8.mk 0 0 ⟨#[]⟩ (Sl.mk none 0 0)) b1h K)))) ∧
 (¬ (x0.b6 = 8) →
 (x0.b6 = 9 →
 a0h (a8.mk x0.b6 x0.o6 x0.f6 m9) (a8.mk 0 0 ⟨#[]⟩ (Sl.mk none 0 0)) b2I K) ∧
 (¬ (x0.b6 = 9) →
 a0g (a8.mk x0.b6 x0.o6 x0.f6 m9) (a8.mk 0 0 ⟨#[]⟩ (Sl.mk none 0 0)) b2I K)))))))))
theorem c1t (x0 : a8) {K : a8 → Hp → Prop} (I : Inv w0 ps0 H0 H [] w) (hR : ∀ (r0 : a8) (H' : Hp) (w' : World) (_ : Inv w0 ps0 H0 H' [] w') (_ : K r0 H'), R (Value.agg (b8 r0).toArray) w') (h : a6S x0 H K) : F40 (Value.agg (b8 x0).toArray) w R E := by
 unfold a6S at h
 unfold F40
 refine K6 I (cs := (b8 x0)) rfl fun g_2 w_3 I_4 k_5 => ?_
 refine z8 I_4 Tryz.zeroValue53 (cs := [(vi 0), (vi 0), (eS), (nS)]) rfl fun g_7 w_8 I_9 a9j => ?_
 refine a7 B2 ?_
 refine f2 (ld1 Tryz.isAgg51 ((I_9.bring 1).at1 (o := 3) (vs := [(vs x0.k9)]) (nb rfl) rfl)) ?_
 refine f7 (cap := []) (fun args w => Tryz.call66 args w) ?_
 refine k8 (Fi := []) (Fr := [bx g_7 53 [(vi 0), (vi 0), (eS), (nS)], bx g_2 53 (b8 x0)]) I_9 (h) (fun c9l Z0 c9m p8 a6l c3J c9n b3u => ?_) (fun _ _ _ _ _ q => q.elim)
 obtain ⟨m9, rfl, rfl, h⟩ := b3u
 refine a7 B2 ?_
 refine m5 (a6l.bring 1) Tryz.sizeOf51 (vs := [(vs m9)]) (cs' := [(vi x0.b6), (vi x0.o6), (Value.string x0.f6), (vs m9)]) rfl rfl (nb rfl) rfl rfl fun t8 a0f b3g => ?_
 refine f2 (ldA Tryz.isAgg53 Tryz.sizeOf53 rfl (a0f.at1 (o := 0) (vs := [(vi x0.b6), (vi x0.o6), (Value.string x0.f6), (vs m9)]) (nb rfl) rfl)) ?_
 refine f7 (cap := []) (fun args w => Tryz.call67 args w) ?_
 refine k8 (Fi := []) (Fr := [bx g_2 53 [(vi x0.b6), (vi x0.o6), (Value.string x0.f6), (vs m9)], bx g_7 53 [(vi 0), (vi 0), (eS), (nS)]]) a0f (h) (fun f4s a9k d8l v2 a8f f4t c8V c9j => ?_) (fun _ _ _ _ _ q => q.elim)
 obtain ⟨a6x, d5q, rfl, rfl, h⟩ := c9j
 refine a7 (r6 _ _ (vi a6x) rfl) ?_
 refine a7 (r6 _ _ (vB d5q) rfl) ?_
 refine o2 (fun e8c => ?_) (fun e8c => ?_)
 ·replace h := h.1 e8c
  refine f7 (cap := []) (fun args w => Tryz.call68 args w) ?_
  refine k8 (Fi := []) (Fr := [bx g_2 53 [(vi x0.b6), (vi x0.o6), (Value.string x0.f6), (vs m9)], bx g_7 53 [(vi 0), (vi 0), (eS), (nS)]]) a8f (h) (fun j4S b1E j4T a9e c8W j4U j4V f6V => ?_) (fun _ _ _ _ _ q => q.elim)
  obtain ⟨b2g, rfl, rfl, h⟩ := f6V
  refine m5 (c8W.bring 1) Tryz.sizeOf53 (vs := (b8 b2g)) (cs' := (b8 b2g)) rfl rfl (nb rfl) rfl rfl fun c4X i4d k1k => ?_
  refine J4 Tryz.isAgg53 Tryz.sizeOf53 rfl (i4d.at1 (o := 0) (vs := (b8 b2g)) (nb rfl) rfl) ?_
  exact hR b2g b1E _ i4d.drop.drop h
 ·replace h := h.2 e8c
  refine f2 (ldA Tryz.isAgg53 Tryz.sizeOf53 rfl (a8f.at1 (o := 0) (vs := [(vi x0.b6), (vi x0.o6), (Value.string x0.f6), (vs m9)]) (nb rfl) rfl)) ?_
  refine f7 (cap := []) (fun args w => Tryz.call69 args w) ?_
  refine k8 (Fi := []) (Fr := [bx g_2 53 [(vi x0.b6), (vi x0.o6), (Value.string x0.f6), (vs m9)], bx g_7 53 [(vi 0), (vi 0), (eS), (nS)]]) a8f (h) (fun j4W b2I j4X c2K b3I a1W j4Y f6W => ?_) (fun _ _ _ _ _ q => q.elim)
  obtain ⟨c4j, b7P, rfl, rfl, h⟩ := f6W
  refine a7 (r6 _ _ (vi c4j) rfl) ?_
  refine a7 (r6 _ _ (vB b7P) rfl) ?_
  refine o2 (fun e8d => ?_) (fun e8d => ?_)
  ·replace h := h.1 e8d
   refine f7 (cap := []) (fun args w => Tryz.call68 args w) ?_
   refine k8 (Fi := []) (Fr := [bx g_2 53 [(vi x0.b6), (vi x0.o6), (Value.string x0.f6), (vs m9)], bx g_7 53 [(vi 0), (vi 0), (eS), (nS)]]) b3I (h) (fun j3S c3P j3T N9 c3Q j3U f5d f5e => ?_) (fun _ _ _ _ _ q => q.elim)
   obtain ⟨b6l, rfl, rfl, h⟩ := f5e
   refine m5 (c3Q.bring 1) Tryz.sizeOf53 (vs := (b8 b6l)) (cs' := (b8 b6l)) rfl rfl (nb rfl) rfl rfl fun T6 c5T d3z => ?_
   refine J4 Tryz.isAgg53 Tryz.sizeOf53 rfl (c5T.at1 (o := 0) (vs := (b8 b6l)) (nb rfl) rfl) ?_
   exact hR b6l c3P _ c5T.drop.drop h
  ·replace h := h.2 e8d
   have hj1 : ∀ (H : Hp) (w : World) (_ : Inv w0 ps0 H0 H [bx g_2 53 [(vi (a8.mk x0.b6 x0.o6 x0.f6 m9).b6), (vi (a8.mk x0.b6 x0.o6 x0.f6 m9).o6), (Value.string (a8.mk x0.b6 x0.o6 x0.f6 m9).f6), (Value.slice (a8.mk x0.b6 x0.o6 x0.f6 m9).k9.a (a8.mk x0.b6 x0.o6 x0.f6 m9).k9.n (a8.mk x0.b6 x0.o6 x0.f6 m9).k9.c)], bx g_7 53 [(vi (a8.mk 0 0 ⟨#[]⟩ (Sl.mk none 0 0)).b6), (vi (a8.mk 0 0 ⟨#[]⟩ (Sl.mk none 0 0)).o6), (Value.string (a8.mk 0 0 ⟨#[]⟩ (Sl.mk none 0 0)).f6), (Value.slice (a8.mk 0 0 ⟨#[]⟩ (Sl.mk none 0 0)).k9.a (a8.mk 0 0 ⟨#[]⟩ (Sl.mk none 0 0)).k9.n (a8.mk 0 0 ⟨#[]⟩ (Sl.mk none 0 0)).k9.c)]] w) (_ : a0g (a8.mk x0.b6 x0.o6 x0.f6 m9) (a8.mk 0 0 ⟨#[]⟩ (Sl.mk none 0 0)) H K), e0T (Value.pointer (some ⟨g_2, 0, none⟩)) (Value.pointer (some ⟨g_7, 0, none⟩)) w R E := by
    intro H w I h
    unfold e0T
    intro _
    unfold a0g at h
    refine f2 (ldA Tryz.isAgg53 Tryz.sizeOf53 rfl (I.at1 (o := 0) (vs := [(vi (a8.mk x0.b6 x0.o6 x0.f6 m9).b6), (vi (a8.mk x0.b6 x0.o6 x0.f6 m9).o6), (Value.string (a8.mk x0.b6 x0.o6 x0.f6 m9).f6), (Value.slice (a8.mk x0.b6 x0.o6 x0.f6 m9).k9.a (a8.mk x0.b6 x0.o6 x0.f6 m9).k9.n (a8.mk x0.b6 x0.o6 x0.f6 m9).k9.c)]) (nb rfl) rfl)) ?_
    refine m5 (I.bring 1) Tryz.sizeOf53 (vs := [(vi (a8.mk x0.b6 x0.o6 x0.f6 m9).b6), (vi (a8.mk x0.b6 x0.o6 x0.f6 m9).o6), (Value.string (a8.mk x0.b6 x0.o6 x0.f6 m9).f6), (Value.slice (a8.mk x0.b6 x0.o6 x0.f6 m9).k9.a (a8.mk x0.b6 x0.o6 x0.f6 m9).k9.n (a8.mk x0.b6 x0.o6 x0.f6 m9).k9.c)]) (cs' := [(vi (a8.mk x0.b6 x0.o6 x0.f6 m9).b6), (vi (a8.mk x0.b6 x0.o6 x0.f6 m9).o6), (Value.string (a8.mk x0.b6 x0.o6 x0.f6 m9).f6), (Value.slice (a8.mk x0.b6 x0.o6 x0.f6 m9).k9.a (a8.mk x0.b6 x0.o6 x0.f6 m9).k9.n (a8.mk x0.b6 x0.o6 x0.f6 m9).k9.c)]) rfl rfl (nb rfl) rfl rfl fun b6h f8Y j7w => ?_
    refine J4 Tryz.isAgg53 Tryz.sizeOf53 rfl (f8Y.at1 (o := 0) (vs := [(vi (a8.mk x0.b6 x0.o6 x0.f6 m9).b6), (vi (a8.mk x0.b6 x0.o6 x0.f6 m9).o6), (Value.string (a8.mk x0.b6 x0.o6 x0.f6 m9).f6), (Value.slice (a8.mk x0.b6 x0.o6 x0.f6 m9).k9.a (a8.mk x0.b6 x0.o6 x0.f6 m9).k9.n (a8.mk x0.b6 x0.o6 x0.f6 m9).k9.c)]) (nb rfl) rfl) ?_
    exact hR (a8.mk x0.b6 x0.o6 x0.f6 m9) H _ f8Y.drop.drop h
   refine r9 fun j1 hx1 => ?_
   refine a7 U5 ?_
   refine f2 (ld1 Tryz.isAgg3 (b3I.at1 (o := 0) (vs := [(vi x0.b6)]) (nb rfl) rfl)) ?_
   have hj2 : ∀ (H : Hp) (w : World) (_ : Inv w0 ps0 H0 H [bx g_2 53 [(vi (a8.mk x0.b6 x0.o6 x0.f6 m9).b6), (vi (a8.mk x0.b6 x0.o6 x0.f6 m9).o6), (Value.string (a8.mk x0.b6 x0.o6 x0.f6 m9).f6), (Value.slice (a8.mk x0.b6 x0.o6 x0.f6 m9).k9.a (a8.mk x0.b6 x0.o6 x0.f6 m9).k9.n (a8.mk x0.b6 x0.o6 x0.f6 m9).k9.c)], bx g_7 53 [(vi (a8.mk 0 0 ⟨#[]⟩ (Sl.mk none 0 0)).b6), (vi (a8.mk 0 0 ⟨#[]⟩ (Sl.mk none 0 0)).o6), (Value.string (a8.mk 0 0 ⟨#[]⟩ (Sl.mk none 0 0)).f6), (Value.slice (a8.mk 0 0 ⟨#[]⟩ (Sl.mk none 0 0)).k9.a (a8.mk 0 0 ⟨#[]⟩ (Sl.mk none 0 0)).k9.n (a8.mk 0 0 ⟨#[]⟩ (Sl.mk none 0 0)).k9.c)]] w) (_ : a0h (a8.mk x0.b6 x0.o6 x0.f6 m9) (a8.mk 0 0 ⟨#[]⟩ (Sl.mk none 0 0)) H K), e0U (Value.pointer (some ⟨g_2, 0, none⟩)) (Value.pointer (some ⟨g_7, 0, none⟩)) w j1 R E := by
    intro H w I h
    unfold e0U
    intro _
    unfold a0h at h
    refine a7 B2 ?_
    refine f2 (ld1 Tryz.isAgg51 (I.at1 (o := 3) (vs := [(Value.slice (a8.mk x0.b6 x0.o6 x0.f6 m9).k9.a (a8.mk x0.b6 x0.o6 x0.f6 m9).k9.n (a8.mk x0.b6 x0.o6 x0.f6 m9).k9.c)]) (nb rfl) rfl)) ?_
    obtain ⟨i9m, i9n, d5p, d2i, h⟩ := h
    obtain ⟨j7x, j7y, d2j, d2i⟩ := d2i
    refine a7 (G7 d2j _ _ _ _ i9m i9n) ?_
    refine f2 (ldA (vs := (b8 d5p)) Tryz.isAgg53 Tryz.sizeOf53 rfl (I.atH d2i)) ?_
    refine f7 (cap := []) (fun args w => Tryz.call70 args w) ?_
    refine k8 (Fi := []) (Fr := [bx g_2 53 [(vi (a8.mk x0.b6 x0.o6 x0.f6 m9).b6), (vi (a8.mk x0.b6 x0.o6 x0.f6 m9).o6), (Value.string (a8.mk x0.b6 x0.o6 x0.f6 m9).f6), (Value.slice (a8.mk x0.b6 x0.o6 x0.f6 m9).k9.a (a8.mk x0.b6 x0.o6 x0.f6 m9).k9.n (a8.mk x0.b6 x0.o6 x0.f6 m9).k9.c)], bx g_7 53 [(vi (a8.mk 0 0 ⟨#[]⟩ (Sl.mk none 0 0)).b6), (vi (a8.mk 0 0 ⟨#[]⟩ (Sl.mk none 0 0)).o6), (Value.string (a8.mk 0 0 ⟨#[]⟩ (Sl.mk none 0 0)).f6), (Value.slice (a8.mk 0 0 ⟨#[]⟩ (Sl.mk none 0 0)).k9.a (a8.mk 0 0 ⟨#[]⟩ (Sl.mk none 0 0)).k9.n (a8.mk 0 0 ⟨#[]⟩ (Sl.mk none 0 0)).k9.c)]]) I (h) (fun j7z c7G i9o f8g d5s f8Z j7A i9p => ?_) (fun _ _ _ _ _ q => q.elim)
    obtain ⟨e1n, rfl, rfl, h⟩ := i9p
    refine o2 (fun e8e => ?_) (fun e8e => ?_)
    ·replace h := h.1 e8e
     refine a7 B2 ?_
     refine f2 (ld1 Tryz.isAgg51 (d5s.at1 (o := 3) (vs := [(Value.slice (a8.mk x0.b6 x0.o6 x0.f6 m9).k9.a (a8.mk x0.b6 x0.o6 x0.f6 m9).k9.n (a8.mk x0.b6 x0.o6 x0.f6 m9).k9.c)]) (nb rfl) rfl)) ?_
     obtain ⟨i9q, e8f, c0G, d2k, h⟩ := h
     obtain ⟨j7B, j7C, e8g, d2k⟩ := d2k
     refine a7 (G7 e8g _ _ _ _ i9q e8f) ?_
     refine f2 (ldA (vs := (b8 c0G)) Tryz.isAgg53 Tryz.sizeOf53 rfl (d5s.atH d2k)) ?_
     refine m5 (d5s.bring 1) Tryz.sizeOf53 (vs := (b8 c0G)) (cs' := (b8 c0G)) rfl rfl (nb rfl) rfl rfl fun f8O f9a j7D => ?_
     refine J4 Tryz.isAgg53 Tryz.sizeOf53 rfl (f9a.at1 (o := 0) (vs := (b8 c0G)) (nb rfl) rfl) ?_
     exact hR c0G c7G _ f9a.drop.drop h
    ·replace h := h.2 e8e
     exact hx1 _ _ (hj1 c7G _ ((d5s.bring 1).bring 1) h)
   refine r9 fun j2 hx2 => ?_
   have hj3 : ∀ (H : Hp) (w : World) (_ : Inv w0 ps0 H0 H [bx g_2 53 [(vi (a8.mk x0.b6 x0.o6 x0.f6 m9).b6), (vi (a8.mk x0.b6 x0.o6 x0.f6 m9).o6), (Value.string (a8.mk x0.b6 x0.o6 x0.f6 m9).f6), (Value.slice (a8.mk x0.b6 x0.o6 x0.f6 m9).k9.a (a8.mk x0.b6 x0.o6 x0.f6 m9).k9.n (a8.mk x0.b6 x0.o6 x0.f6 m9).k9.c)], bx g_7 53 [(vi (a8.mk 0 0 ⟨#[]⟩ (Sl.mk none 0 0)).b6), (vi (a8.mk 0 0 ⟨#[]⟩ (Sl.mk none 0 0)).o6), (Value.string (a8.mk 0 0 ⟨#[]⟩ (Sl.mk none 0 0)).f6), (Value.slice (a8.mk 0 0 ⟨#[]⟩ (Sl.mk none 0 0)).k9.a (a8.mk 0 0 ⟨#[]⟩ (Sl.mk none 0 0)).k9.n (a8.mk 0 0 ⟨#[]⟩ (Sl.mk none 0 0)).k9.c)]] w) (_ : a2O 0 (a8.mk x0.b6 x0.o6 x0.f6 m9) (a8.mk 0 0 ⟨#[]⟩ (Sl.mk none 0 0)) H K), e0V (Value.pointer (some ⟨g_2, 0, none⟩)) (Value.pointer (some ⟨g_7, 0, none⟩)) (vi 0) w j1 R E := by
    intro H w I h
    unfold e0V
    intro _
    unfold a2O at h
    refine a7 B2 ?_
    refine f2 (ld1 Tryz.isAgg51 (I.at1 (o := 3) (vs := [(Value.slice (a8.mk x0.b6 x0.o6 x0.f6 m9).k9.a (a8.mk x0.b6 x0.o6 x0.f6 m9).k9.n (a8.mk x0.b6 x0.o6 x0.f6 m9).k9.c)]) (nb rfl) rfl)) ?_
    obtain ⟨b7g, c9d, c4a, c4b, h⟩ := h
    obtain ⟨j4v, j4w, c3x, c4b⟩ := c4b
    refine a7 (G7 c3x _ _ _ _ b7g c9d) ?_
    refine f2 (ldA (vs := (b8 c4a)) Tryz.isAgg53 Tryz.sizeOf53 rfl (I.atH c4b)) ?_
    refine f7 (cap := []) (fun args w => Tryz.call70 args w) ?_
    refine k8 (Fi := []) (Fr := [bx g_2 53 [(vi (a8.mk x0.b6 x0.o6 x0.f6 m9).b6), (vi (a8.mk x0.b6 x0.o6 x0.f6 m9).o6), (Value.string (a8.mk x0.b6 x0.o6 x0.f6 m9).f6), (Value.slice (a8.mk x0.b6 x0.o6 x0.f6 m9).k9.a (a8.mk x0.b6 x0.o6 x0.f6 m9).k9.n (a8.mk x0.b6 x0.o6 x0.f6 m9).k9.c)], bx g_7 53 [(vi (a8.mk 0 0 ⟨#[]⟩ (Sl.mk none 0 0)).b6), (vi (a8.mk 0 0 ⟨#[]⟩ (Sl.mk none 0 0)).o6), (Value.string (a8.mk 0 0 ⟨#[]⟩ (Sl.mk none 0 0)).f6), (Value.slice (a8.mk 0 0 ⟨#[]⟩ (Sl.mk none 0 0)).k9.a (a8.mk 0 0 ⟨#[]⟩ (Sl.mk none 0 0)).k9.n (a8.mk 0 0 ⟨#[]⟩ (Sl.mk none 0 0)).k9.c)]]) I (h) (fun i7S c1o i7T d3M c0E e5Y f8z e6B => ?_) (fun _ _ _ _ _ q => q.elim)
    obtain ⟨e1m, rfl, rfl, h⟩ := e6B
    refine o2 (fun c4i => ?_) (fun c4i => ?_)
    ·replace h := h.1 c4i
     refine a7 B2 ?_
     refine f2 (ld1 Tryz.isAgg51 (c0E.at1 (o := 3) (vs := [(Value.slice (a8.mk x0.b6 x0.o6 x0.f6 m9).k9.a (a8.mk x0.b6 x0.o6 x0.f6 m9).k9.n (a8.mk x0.b6 x0.o6 x0.f6 m9).k9.c)]) (nb rfl) rfl)) ?_
     obtain ⟨i9r, i9s, b0E, b6q, h⟩ := h
     obtain ⟨i9t, i9u, i9v, b6q⟩ := b6q
     refine a7 (G7 i9v _ _ _ _ i9r i9s) ?_
     refine f2 (ldA (vs := (b8 b0E)) Tryz.isAgg53 Tryz.sizeOf53 rfl (c0E.atH b6q)) ?_
     refine m5 (c0E.bring 1) Tryz.sizeOf53 (vs := (b8 b0E)) (cs' := (b8 b0E)) rfl rfl (nb rfl) rfl rfl fun a7n f9b j7E => ?_
     refine J4 Tryz.isAgg53 Tryz.sizeOf53 rfl (f9b.at1 (o := 0) (vs := (b8 b0E)) (nb rfl) rfl) ?_
     exact hR b0E c1o _ f9b.drop.drop h
    ·replace h := h.2 c4i
     exact hx1 _ _ (hj1 c1o _ ((c0E.bring 1).bring 1) h)
   refine r9 fun j3 hx3 => ?_
   refine a7 (k7 _ _ _ _ _ _) ?_
   refine k4 (fun e8h => ?_) (fun e8h => ?_)
   ·replace h := h.1 e8h
    refine a7 B2 ?_
    refine f2 (ld1 Tryz.isAgg51 (b3I.at1 (o := 3) (vs := [(vs m9)]) (nb rfl) rfl)) ?_
    obtain ⟨e7Q, f6X, e8b, f6Y, h⟩ := h
    obtain ⟨k1l, k1m, e1o, f6Y⟩ := f6Y
    refine a7 (G7 e1o _ _ _ _ e7Q f6X) ?_
    refine f2 (ldA (vs := (b8 e8b)) Tryz.isAgg53 Tryz.sizeOf53 rfl (b3I.atH f6Y)) ?_
    refine f7 (cap := []) (fun args w => Tryz.call70 args w) ?_
    refine k8 (Fi := []) (Fr := [bx g_2 53 [(vi x0.b6), (vi x0.o6), (Value.string x0.f6), (vs m9)], bx g_7 53 [(vi 0), (vi 0), (eS), (nS)]]) b3I (h) (fun e4V a8y j2S c3p c3q b2z f4f f4g => ?_) (fun _ _ _ _ _ q => q.elim)
    obtain ⟨b1e, rfl, rfl, h⟩ := f4g
    refine o2 (fun b4x => ?_) (fun b4x => ?_)
    ·replace h := h.1 b4x
     refine a7 B2 ?_
     refine f2 (ld1 Tryz.isAgg51 (c3q.at1 (o := 3) (vs := [(vs m9)]) (nb rfl) rfl)) ?_
     obtain ⟨f3S, d8e, c6B, e0k, h⟩ := h
     obtain ⟨k1n, k1o, j4Z, e0k⟩ := e0k
     refine a7 (G7 j4Z _ _ _ _ f3S d8e) ?_
     refine f2 (ldA (vs := (b8 c6B)) Tryz.isAgg53 Tryz.sizeOf53 rfl (c3q.atH e0k)) ?_
     refine m5 (c3q.bring 1) Tryz.sizeOf53 (vs := (b8 c6B)) (cs' := (b8 c6B)) rfl rfl (nb rfl) rfl rfl fun a2p i4e k1p => ?_
     refine J4 Tryz.isAgg53 Tryz.sizeOf53 rfl (i4e.at1 (o := 0) (vs := (b8 c6B)) (nb rfl) rfl) ?_
     exact hR c6B a8y _ i4e.drop.drop h
    ·replace h := h.2 b4x
     exact hx3 _ _ (hj3 a8y _ ((c3q.bring 1).bring 1) h)
   ·replace h := h.2 e8h
    refine a7 (k7 _ _ _ _ _ _) ?_
    refine k4 (fun e8i => ?_) (fun e8i => ?_)
    ·replace h := h.1 e8i
     exact hx3 _ _ (hj3 b2I _ ((b3I.bring 1).bring 1) h)
    ·replace h := h.2 e8i
     refine a7 (k7 _ _ _ _ _ _) ?_
     refine k4 (fun e8j => ?_) (fun e8j => ?_)
     ·replace h := h.1 e8j
      refine a7 B2 ?_
      refine f2 (ld1 Tryz.isAgg51 (b3I.at1 (o := 3) (vs := [(vs m9)]) (nb rfl) rfl)) ?_
      obtain ⟨e5m, e5n, b7B, b4F, h⟩ := h
      obtain ⟨i6A, i6B, e5o, b4F⟩ := b4F
      refine a7 (G7 e5o _ _ _ _ e5m e5n) ?_
      refine f2 (ldA (vs := (b8 b7B)) Tryz.isAgg53 Tryz.sizeOf53 rfl (b3I.atH b4F)) ?_
      refine f7 (cap := []) (fun args w => Tryz.call70 args w) ?_
      refine k8 (Fi := []) (Fr := [bx g_2 53 [(vi x0.b6), (vi x0.o6), (Value.string x0.f6), (vs m9)], bx g_7 53 [(vi 0), (vi 0), (eS), (nS)]]) b3I (h) (fun i6C b6j i6D a7k c6Y i6E i6F e5p => ?_) (fun _ _ _ _ _ q => q.elim)
      obtain ⟨b6H, rfl, rfl, h⟩ := e5p
      refine a7 (Pu.g fun hb => by have d7 := hb; exact B2) ?_
      refine f2 (Ld.g fun hb => by have d7 := hb; simp only [i6 d7]; exact (ld1 Tryz.isAgg51 (c6Y.at1 (o := 3) (vs := [(vs m9)]) (nb rfl) rfl))) ?_
      obtain ⟨d5r, c7H, h⟩ := h
      obtain ⟨j7F, j7G, c7H⟩ := c6O c7H
      refine a7 (Pu.g fun hb => by have d7 := hb; simp only [i6 d7]; exact (G7 (c7H hb).2.2.1 _ _ _ _ (c7H hb).1 (c7H hb).2.1)) ?_
      refine f2 (Ld.g fun hb => by have d7 := hb; simp only [i6 d7]; exact (ldA (vs := (b8 d5r)) Tryz.isAgg53 Tryz.sizeOf53 rfl (c6Y.atH (c7H hb).2.2.2))) ?_
      refine a4I (D := fun e8k a6s => ∃ (b4U : Bool) (b1h : Hp) , e8k = (gv b6H true (vB b4U)) ∧ (Inv w0 ps0 H0 b1h [bx g_2 53 [(vi x0.b6), (vi x0.o6), (Value.string x0.f6), (vs m9)], bx g_7 53 [(vi 0), (vi 0), (eS), (nS)]] a6s) ∧ (∀ i, i < a7k.heap.size → ¬ inF [] i → a6s.heap[i]? = a7k.heap[i]?) ∧ Hle b6j b1h ∧ (((b6H && (!b4U)) = true →
 (0 : Int) ≤ 1 ∧ (1 : Int) < m9.n ∧ ∃ b4V : a8, EltH b1h m9 1 4 (b8 b4V) ∧
 K b4V b1h) ∧
 ((b6H && (!b4U)) = false →
 a0h (a8.mk x0.b6 x0.o6 x0.f6 m9) (a8.mk 0 0 ⟨#[]⟩ (Sl.mk none 0 0)) b1h K))) (fun d2l => ?_) (fun d2l => ?_) ?_
      ·replace h := h.1 d2l
       have d7 := d2l
       simp only [i6 d7]
       refine f7 (cap := []) (fun args w => Tryz.call70 args w) ?_
       refine k8 (Fi := []) (Fr := [bx g_2 53 [(vi x0.b6), (vi x0.o6), (Value.string x0.f6), (vs m9)], bx g_7 53 [(vi 0), (vi 0), (eS), (nS)]]) c6Y (h) (fun e8k b1h j7H a6s b6o f9c e7h i9w => ?_) (fun _ _ _ _ _ q => q.elim)
       obtain ⟨b4U, rfl, rfl, h⟩ := i9w
       exact ⟨b4U, b1h, by rfl, b6o, e7h, f9c, h⟩
      ·exact ⟨false, b6j, by rw [a9I d2l], c6Y, fun _ _ _ => rfl, Hle.refl _, h.2 d2l⟩
      ·clear h
       rintro e8k a6s ⟨b4U, b1h, rfl, b6o, e7h, f9c, h⟩
       refine a7 (Pu.g fun hb => by have d7 := hb; simp only [i6 d7]; exact (T4 _)) ?_
       refine a7 (w8 _ _) ?_
       refine o2 (fun e8l => ?_) (fun e8l => ?_)
       ·replace h := h.1 e8l
        refine a7 B2 ?_
        refine f2 (ld1 Tryz.isAgg51 (b6o.at1 (o := 3) (vs := [(vs m9)]) (nb rfl) rfl)) ?_
        obtain ⟨d5o, e8m, b4V, d1i, h⟩ := h
        obtain ⟨j7I, j7J, e5t, d1i⟩ := d1i
        refine a7 (G7 e5t _ _ _ _ d5o e8m) ?_
        refine f2 (ldA (vs := (b8 b4V)) Tryz.isAgg53 Tryz.sizeOf53 rfl (b6o.atH d1i)) ?_
        refine m5 (b6o.bring 1) Tryz.sizeOf53 (vs := (b8 b4V)) (cs' := (b8 b4V)) rfl rfl (nb rfl) rfl rfl fun c2G f9d j7K => ?_
        refine J4 Tryz.isAgg53 Tryz.sizeOf53 rfl (f9d.at1 (o := 0) (vs := (b8 b4V)) (nb rfl) rfl) ?_
        exact hR b4V b1h _ f9d.drop.drop h
       ·replace h := h.2 e8l
        exact hx2 _ _ (hj2 b1h _ ((b6o.bring 1).bring 1) h)
     ·replace h := h.2 e8j
      refine a7 (k7 _ _ _ _ _ _) ?_
      refine k4 (fun e8n => ?_) (fun e8n => ?_)
      ·replace h := h.1 e8n
       exact hx2 _ _ (hj2 b2I _ ((b3I.bring 1).bring 1) h)
      ·replace h := h.2 e8n
       exact hx1 _ _ (hj1 b2I _ ((b3I.bring 1).bring 1) h)
theorem c2p (x0 : a8) {H : Hp} {K : a8 → Hp → Prop} (h : a6S x0 H K) : a6P x0 H K := by
 intro w I
 refine i1S ?_
 refine c1t x0 I (fun r0 H' w' I' hk => ⟨H', _, I', r0, rfl, rfl, hk⟩) h
def a6T (x0 : a8) (H : Hp) (K : a8 → Int → Hp → Prop) : Prop :=
 b1q x0 H (fun (m9 : Int) (Z0 : Hp) =>
 (¬ (m9 = 0) →
 K (a8.mk 0 0 ⟨#[]⟩ (Sl.mk none 0 0)) m9 Z0) ∧
 (m9 = 0 →
 a6P x0 Z0 (fun (a6x : a8) (a9k : Hp) =>
 K a6x 0 a9k)))
theorem c1u (x0 : a8) {K : a8 → Int → Hp → Prop} (I : Inv w0 ps0 H0 H [] w) (hR : ∀ (r0 : a8) (r1 : Int) (H' : Hp) (w' : World) (_ : Inv w0 ps0 H0 H' [] w') (_ : K r0 r1 H'), R (Value.tuple #[(Value.agg (b8 r0).toArray), (vi r1)]) w') (h : a6T x0 H K) : F21 (Value.agg (b8 x0).toArray) w R E := by
 unfold a6T at h
 unfold F21
 refine K6 I (cs := (b8 x0)) rfl fun g_2 w_3 I_4 k_5 => ?_
 refine z8 I_4 Tryz.zeroValue53 (cs := [(vi 0), (vi 0), (eS), (nS)]) rfl fun g_7 w_8 I_9 a9j => ?_
 refine f2 (ldA Tryz.isAgg53 Tryz.sizeOf53 rfl ((I_9.bring 1).at1 (o := 0) (vs := (b8 x0)) (nb rfl) rfl)) ?_
 refine f7 (cap := []) (fun args w => Tryz.call39 args w) ?_
 refine k8 (Fi := []) (Fr := [bx g_7 53 [(vi 0), (vi 0), (eS), (nS)], bx g_2 53 (b8 x0)]) I_9 (h) (fun c9l Z0 c9m p8 a6l c3J c9n b3u => ?_) (fun _ _ _ _ _ q => q.elim)
 obtain ⟨m9, rfl, rfl, h⟩ := b3u
 refine a7 (P9 _ _ _ _ _ _) ?_
 refine a5o (fun d0e => ?_) (fun d0e => ?_)
 ·replace h := h.1 d0e
  refine a7 (e9U ) ?_
  refine m5 a6l Tryz.sizeOf53 (vs := [(vi 0), (vi 0), (eS), (nS)]) (cs' := [(vi 0), (vi 0), (eS), (nS)]) rfl rfl (nb rfl) rfl rfl fun t8 a0f b3g => ?_
  refine J4 Tryz.isAgg53 Tryz.sizeOf53 rfl (a0f.at1 (o := 0) (vs := [(vi 0), (vi 0), (eS), (nS)]) (nb rfl) rfl) ?_
  exact hR (a8.mk 0 0 ⟨#[]⟩ (Sl.mk none 0 0)) m9 Z0 _ a0f.drop.drop h
 ·replace h := h.2 d0e
  refine f2 (ldA Tryz.isAgg53 Tryz.sizeOf53 rfl ((a6l.bring 1).at1 (o := 0) (vs := (b8 x0)) (nb rfl) rfl)) ?_
  refine f7 (cap := []) (fun args w => Tryz.call40 args w) ?_
  refine k8 (Fi := []) (Fr := [bx g_7 53 [(vi 0), (vi 0), (eS), (nS)], bx g_2 53 (b8 x0)]) a6l (h) (fun f4s a9k d8l v2 a8f f4t c8V c9j => ?_) (fun _ _ _ _ _ q => q.elim)
  obtain ⟨a6x, rfl, rfl, h⟩ := c9j
  refine m5 a8f Tryz.sizeOf53 (vs := (b8 a6x)) (cs' := (b8 a6x)) rfl rfl (nb rfl) rfl rfl fun C3 b9e e5y => ?_
  refine J4 Tryz.isAgg53 Tryz.sizeOf53 rfl (b9e.at1 (o := 0) (vs := (b8 a6x)) (nb rfl) rfl) ?_
  exact hR a6x 0 a9k _ b9e.drop.drop h
theorem c2q (x0 : a8) {H : Hp} {K : a8 → Int → Hp → Prop} (h : a6T x0 H K) : a9L x0 H K := by
 intro w I
 refine i0Q ?_
 refine c1u x0 I (fun r0 r1 H' w' I' hk => ⟨H', _, I', r0, r1, rfl, rfl, hk⟩) h
def D4 (C6 : (List b7)) (H : Hp) (K : Sl → Hp → Prop) : Prop :=
 ∀ (r7 : Sl) (M1 : Hp), Hle H M1 → SlH M1 4 d8 r7 C6 → r7.n ≤ r7.c →
 K r7 M1
def D5 (a0u : Sl) (a4V : Int) (m6 : (List b7)) (o0 : Int) (H : Hp) (n2 : ((List b7) × Int) → Hp → Prop) (K : Sl → Hp → Prop) : Prop :=
 (o0 < a4V →
 (0 : Int) ≤ o0 ∧ (o0 : Int) < a0u.n ∧ ∃ x_1 : b7, EltH H a0u o0 4 (d8 x_1) ∧
 a6Q x_1 H (fun (I0 : b7) (U1 : Hp) =>
 (m6.length + ([I0] : List b7).length) * 65 ≤ 140737488355328 ∧
 n2 ((m6 ++ [I0]), (IntKind.wrap .i64 (o0 + 1))) U1)) ∧
 (¬ (o0 < a4V) →
 D4 m6 H K)
def G6 (x0 : Sl) (H : Hp) (K : Sl → Hp → Prop) : Prop :=
 TL (([], 0) : (List b7) × Int) H fun (s : (List b7) × Int) H n2 => D5 x0 (x0.n : Int) s.1 s.2 H n2 K
theorem a4B (x0 : Sl) {K : Sl → Hp → Prop} (I : Inv w0 ps0 H0 H [] w) (hR : ∀ (r0 : Sl) (H' : Hp) (w' : World) (_ : Inv w0 ps0 H0 H' [] w') (_ : K r0 H'), R (vs r0) w') (h : G6 x0 H K) : F71 (vs x0) (fC 42) w R E := by
 unfold G6 at h
 unfold F71
 have hj1 : ∀ (C6 : (List b7)) (r7 : Sl) (Fs5j1 : Frag) (H : Hp) (w : World) (_ : RowL 59 4 d8 r7 C6 Fs5j1) (_ : Inv w0 ps0 H0 H [Fs5j1] w) (_ : D4 C6 H K), e1g (vs r7) w R E := by
  intro C6 r7 Fs5j1 H w a6v I h
  unfold e1g
  intro _
  unfold D4 at h
  obtain ⟨M1, a6K, b0n, a5v, a5W⟩ := Inv.freezeC I a6v (by decide)
  replace h := h r7 M1 b0n a5v a5W
  exact hR r7 M1 _ a6K h
 refine r9 fun j1 hx1 => ?_
 refine a7 (V0 _ _ _) ?_
 obtain ⟨a2N, R4, b1x, b1y⟩ := h
 refine A7 (J := fun n l w => ∃ (s : (List b7) × Int) (H : Hp) (B9 : Sl) (Fs5l2 : Frag) , n = R4 s ∧ l = (match s with | (m6, o0) => [(vs B9), (vi o0)]) ∧ (match s with | (m6, o0) => RowL 59 4 d8 B9 m6 Fs5l2) ∧ (match s with | (m6, o0) => Inv w0 ps0 H0 H [Fs5l2] w) ∧ a2N s H) ⟨_, ([], 0), H, (Sl.mk none 0 0), [], rfl, rfl, (RowL.nil a5p a5q), I.nil, b1x⟩ ?_
 rintro c5F τ_50 w next2 ⟨⟨m6, o0⟩, H, B9, Fs5l2, rfl, a1W, Q2, I, b1z⟩ hn2
 dsimp only at a1W I Q2
 simp only [List.map_cons, List.map_nil, List.cons.injEq, and_true] at a1W
 obtain ⟨e5, e10⟩ := a1W
 simp only [e5, e10]
 obtain ⟨n2, hm2, h⟩ : ∃ n2 : ((List b7) × Int) → Hp → Prop, (∀ s' H', n2 s' H' → a2N s' H' ∧ R4 s' < R4 (m6, o0)) ∧ D5 x0 (x0.n : Int) m6 o0 H n2 K := ⟨_, fun _ _ h => h, b1y (m6, o0) H (fun s' H' => a2N s' H' ∧ R4 s' < R4 (m6, o0)) b1z (fun _ _ a b => ⟨a, b⟩)⟩
 unfold f2r
 unfold D5 at h
 refine a7 (v7 _ _ _ _ _ _) ?_
 refine k4 (fun a0H => ?_) (fun a0H => ?_)
 ·replace h := h.1 a0H
  obtain ⟨h_4, h_5, x_1, h_7, h⟩ := h
  obtain ⟨g_2, o_3, h_6, h_7⟩ := h_7
  refine a7 (a1T h_6 _ _ _ _ h_4 h_5) ?_
  refine f2 (ldA (vs := (d8 x_1)) Tryz.isAgg59 Tryz.sizeOf59 rfl (I.atH h_7)) ?_
  refine z8 I Tryz.zeroValue59 (cs := [(vi 0), (vi 0), (nS), (nS)]) rfl fun g_9 o9 a3G b3h => ?_
  refine m5 a3G Tryz.sizeOf59 (vs := (d8 x_1)) (cs' := (d8 x_1)) rfl rfl (nb rfl) rfl rfl fun a3F P1 a4W => ?_
  refine f2 (ldA Tryz.isAgg59 Tryz.sizeOf59 rfl (P1.at1 (o := 0) (vs := (d8 x_1)) (nb rfl) rfl)) ?_
  refine f7 (cap := []) (fun args w => Tryz.call42 args w) ?_
  refine k8 (Fi := []) (Fr := [bx g_9 59 (d8 x_1), Fs5l2]) P1 (h) (fun c3a U1 c0X a0t a4X c3b c0Y b0o => ?_) (fun _ _ _ _ _ q => q.elim)
  obtain ⟨I0, rfl, rfl, h⟩ := b0o
  refine a4b (e := 59) (c := d8) (xs := [I0]) a4X (c6Q _ _ _ _ _ _ _ _) rfl rfl a5p a5q (nb rfl) fun c0Z b4v B0 a8c X3 a9P => ?_
  obtain ⟨b0p, h⟩ := h
  refine d0p (s := B9) (xs := m6) (X3.bring 2) Q2 (a8c.srcO ((X3.bring 2).bring 1)) b0p fun a7u a9Q A6 a9i a6L b8K => ?_
  refine a7 (u7 _ _ _ _ _ _) ?_
  exact hn2 _ _ _ (hm2 _ _ h).2 ⟨((m6 ++ [I0]), (IntKind.wrap .i64 (o0 + 1))), U1, a7u, a9Q, rfl, rfl, a9i, ((a6L.bring 1).drop.bring 1).drop, (hm2 _ _ h).1⟩
 ·replace h := h.2 a0H
  exact hx1 _ _ (hj1 m6 B9 Fs5l2 H _ Q2 I h)
theorem a4D (x0 : Sl) {H : Hp} {K : Sl → Hp → Prop} (h : G6 x0 H K) : O6 x0 H K := by
 intro w I
 refine i3u ?_
 refine a4B x0 I (fun r0 H' w' I' hk => ⟨H', _, I', r0, rfl, rfl, hk⟩) h
def a3Q (x0 : Bool) (H : Hp) (K : b7 → Hp → Prop) : Prop :=
 (x0 = true →
 K (b7.mk 1 0 (Sl.mk none 0 0) (Sl.mk none 0 0)) H) ∧
 (x0 = false →
 K (b7.mk 2 0 (Sl.mk none 0 0) (Sl.mk none 0 0)) H)
theorem c0l (x0 : Bool) {K : b7 → Hp → Prop} (I : Inv w0 ps0 H0 H [] w) (hR : ∀ (r0 : b7) (H' : Hp) (w' : World) (_ : Inv w0 ps0 H0 H' [] w') (_ : K r0 H'), R (Value.agg (d8 r0).toArray) w') (h : a3Q x0 H K) : F72 (vB x0) w R E := by
 unfold a3Q at h
 unfold F72
 refine z8 I Tryz.zeroValue59 (cs := [(vi 0), (vi 0), (nS), (nS)]) rfl fun g_2 w_3 I_4 k_5 => ?_
 refine o2 (fun c9M => ?_) (fun c9M => ?_)
 ·replace h := h.1 c9M
  refine a7 (c8x _) ?_
  refine m5 I_4 Tryz.sizeOf59 (vs := [(vi 1), (vi 0), (nS), (nS)]) (cs' := [(vi 1), (vi 0), (nS), (nS)]) rfl rfl (nb rfl) rfl rfl fun w_6 I_7 k_8 => ?_
  refine J4 Tryz.isAgg59 Tryz.sizeOf59 rfl (I_7.at1 (o := 0) (vs := [(vi 1), (vi 0), (nS), (nS)]) (nb rfl) rfl) ?_
  exact hR (b7.mk 1 0 (Sl.mk none 0 0) (Sl.mk none 0 0)) H _ I_7.drop h
 ·replace h := h.2 c9M
  refine a7 (c8x _) ?_
  refine m5 I_4 Tryz.sizeOf59 (vs := [(vi 2), (vi 0), (nS), (nS)]) (cs' := [(vi 2), (vi 0), (nS), (nS)]) rfl rfl (nb rfl) rfl rfl fun w_9 b7d c5L => ?_
  refine J4 Tryz.isAgg59 Tryz.sizeOf59 rfl (b7d.at1 (o := 0) (vs := [(vi 2), (vi 0), (nS), (nS)]) (nb rfl) rfl) ?_
  exact hR (b7.mk 2 0 (Sl.mk none 0 0) (Sl.mk none 0 0)) H _ b7d.drop h
theorem c1v (x0 : Bool) {H : Hp} {K : b7 → Hp → Prop} (h : a3Q x0 H K) : a6u x0 H K := by
 intro w I
 refine i3w ?_
 refine c0l x0 I (fun r0 H' w' I' hk => ⟨H', _, I', r0, rfl, rfl, hk⟩) h
def a1v (c7I : Bool) (j6a : b7) (g6H : b7) (V4 : b7) (O0 : b7) (H : Hp) (K : b7 → Hp → Prop) : Prop :=
 (c7I = true →
 K g6H H) ∧
 (c7I = false →
 K O0 H)
def a3W (c9L : Int) (b2D : Int) (a4h : b7) (a1M : b7) (m8 : b7) (p9 : b7) (H : Hp) (K : b7 → Hp → Prop) : Prop :=
 (a1M.b6 = c9L →
 K a4h H) ∧
 (¬ (a1M.b6 = c9L) →
 (a1M.b6 = b2D →
 a1v (decide (a1M.b6 = b2D)) a4h a1M m8 p9 H K) ∧
 (¬ (a1M.b6 = b2D) →
 a1v (decide (a4h.b6 = c9L)) a4h a1M m8 p9 H K))
def a5K (x0 : b7) (x1 : Int) (x2 : Int) (H : Hp) (K : b7 → Hp → Prop) : Prop :=
 (0 : Int) ≤ 0 ∧ (0 : Int) < x0.o3.n ∧ ∃ a6M : b7, EltH H x0.o3 0 4 (d8 a6M) ∧
 (0 : Int) ≤ 1 ∧ (1 : Int) < x0.o3.n ∧ ∃ a9T : b7, EltH H x0.o3 1 4 (d8 a9T) ∧
 a3W x1 x2 a9T a6M (b7.mk 0 0 (Sl.mk none 0 0) (Sl.mk none 0 0)) x0 H K
theorem b9Q (x0 : b7) (x1 : Int) (x2 : Int) {K : b7 → Hp → Prop} (I : Inv w0 ps0 H0 H [] w) (hR : ∀ (r0 : b7) (H' : Hp) (w' : World) (_ : Inv w0 ps0 H0 H' [] w') (_ : K r0 H'), R (Value.agg (d8 r0).toArray) w') (h : a5K x0 x1 x2 H K) : F74 (Value.agg (d8 x0).toArray) (vi x1) (vi x2) w R E := by
 unfold a5K at h
 unfold F74
 refine K6 I (cs := (d8 x0)) rfl fun g_2 w_3 I_4 k_5 => ?_
 refine z8 I_4 Tryz.zeroValue59 (cs := [(vi 0), (vi 0), (nS), (nS)]) rfl fun g_7 w_8 I_9 a9j => ?_
 have hj1 : ∀ (a4h : b7) (a1M : b7) (c4k : Nat) (b9R : Nat) (H : Hp) (w : World) (_ : Inv w0 ps0 H0 H [bx c4k 59 (d8 a4h), bx b9R 59 (d8 a1M), bx g_7 59 [(vi (b7.mk 0 0 (Sl.mk none 0 0) (Sl.mk none 0 0)).b6), (vi (b7.mk 0 0 (Sl.mk none 0 0) (Sl.mk none 0 0)).fOp), (Value.slice (b7.mk 0 0 (Sl.mk none 0 0) (Sl.mk none 0 0)).f5.a (b7.mk 0 0 (Sl.mk none 0 0) (Sl.mk none 0 0)).f5.n (b7.mk 0 0 (Sl.mk none 0 0) (Sl.mk none 0 0)).f5.c), (Value.slice (b7.mk 0 0 (Sl.mk none 0 0) (Sl.mk none 0 0)).o3.a (b7.mk 0 0 (Sl.mk none 0 0) (Sl.mk none 0 0)).o3.n (b7.mk 0 0 (Sl.mk none 0 0) (Sl.mk none 0 0)).o3.c)], bx g_2 59 (d8 x0)] w) (_ : a3W x1 x2 a4h a1M (b7.mk 0 0 (Sl.mk none 0 0) (Sl.mk none 0 0)) x0 H K), e1i (vi x1) (vi x2) (Value.pointer (some ⟨g_2, 0, none⟩)) (Value.pointer (some ⟨g_7, 0, none⟩)) (Value.pointer (some ⟨b9R, 0, none⟩)) (Value.pointer (some ⟨c4k, 0, none⟩)) w R E := by
  intro a4h a1M c4k b9R H w I h
  unfold e1i
  intro _
  unfold a3W at h
  refine a7 a2X ?_
  refine f2 (ld1 Tryz.isAgg3 ((I.bring 1).at1 (o := 0) (vs := [(vi a1M.b6)]) (nb rfl) rfl)) ?_
  refine a7 (k7 _ _ _ _ _ _) ?_
  refine k4 (fun c9r => ?_) (fun c9r => ?_)
  ·replace h := h.1 c9r
   refine f2 (ldA Tryz.isAgg59 Tryz.sizeOf59 rfl (I.at1 (o := 0) (vs := (d8 a4h)) (nb rfl) rfl)) ?_
   refine m5 (I.bring 2) Tryz.sizeOf59 (vs := (d8 a4h)) (cs' := (d8 a4h)) rfl rfl (nb rfl) rfl rfl fun b5x b6Y d8c => ?_
   refine J4 Tryz.isAgg59 Tryz.sizeOf59 rfl (b6Y.at1 (o := 0) (vs := (d8 a4h)) (nb rfl) rfl) ?_
   exact hR a4h H _ b6Y.drop.drop.drop.drop h
  ·replace h := h.2 c9r
   have hj2 : ∀ (c7I : Bool) (H : Hp) (w : World) (_ : Inv w0 ps0 H0 H [bx c4k 59 (d8 a4h), bx b9R 59 (d8 a1M), bx g_7 59 [(vi (b7.mk 0 0 (Sl.mk none 0 0) (Sl.mk none 0 0)).b6), (vi (b7.mk 0 0 (Sl.mk none 0 0) (Sl.mk none 0 0)).fOp), (Value.slice (b7.mk 0 0 (Sl.mk none 0 0) (Sl.mk none 0 0)).f5.a (b7.mk 0 0 (Sl.mk none 0 0) (Sl.mk none 0 0)).f5.n (b7.mk 0 0 (Sl.mk none 0 0) (Sl.mk none 0 0)).f5.c), (Value.slice (b7.mk 0 0 (Sl.mk none 0 0) (Sl.mk none 0 0)).o3.a (b7.mk 0 0 (Sl.mk none 0 0) (Sl.mk none 0 0)).o3.n (b7.mk 0 0 (Sl.mk none 0 0) (Sl.mk none 0 0)).o3.c)], bx g_2 59 (d8 x0)] w) (_ : a1v c7I a4h a1M (b7.mk 0 0 (Sl.mk none 0 0) (Sl.mk none 0 0)) x0 H K), e1h (Value.pointer (some ⟨g_2, 0, none⟩)) (Value.pointer (some ⟨g_7, 0, none⟩)) (Value.pointer (some ⟨b9R, 0, none⟩)) (vB c7I) w R E := by
    intro c7I H w I h
    unfold e1h
    intro _
    unfold a1v at h
    refine o2 (fun f6Z => ?_) (fun f6Z => ?_)
    ·replace h := h.1 f6Z
     refine f2 (ldA Tryz.isAgg59 Tryz.sizeOf59 rfl ((I.bring 1).at1 (o := 0) (vs := (d8 a1M)) (nb rfl) rfl)) ?_
     refine m5 (I.bring 2) Tryz.sizeOf59 (vs := (d8 a1M)) (cs' := (d8 a1M)) rfl rfl (nb rfl) rfl rfl fun G8 b2J f7a => ?_
     refine J4 Tryz.isAgg59 Tryz.sizeOf59 rfl (b2J.at1 (o := 0) (vs := (d8 a1M)) (nb rfl) rfl) ?_
     exact hR a1M H _ b2J.drop.drop.drop.drop h
    ·replace h := h.2 f6Z
     refine f2 (ldA Tryz.isAgg59 Tryz.sizeOf59 rfl ((I.bring 3).at1 (o := 0) (vs := (d8 x0)) (nb rfl) rfl)) ?_
     refine m5 (I.bring 2) Tryz.sizeOf59 (vs := (d8 x0)) (cs' := (d8 x0)) rfl rfl (nb rfl) rfl rfl fun c0T e8o j5a => ?_
     refine J4 Tryz.isAgg59 Tryz.sizeOf59 rfl (e8o.at1 (o := 0) (vs := (d8 x0)) (nb rfl) rfl) ?_
     exact hR x0 H _ e8o.drop.drop.drop.drop h
   refine r9 fun j2 hx2 => ?_
   refine a7 a2X ?_
   refine f2 (ld1 Tryz.isAgg3 ((I.bring 1).at1 (o := 0) (vs := [(vi a1M.b6)]) (nb rfl) rfl)) ?_
   refine a7 (k7 _ _ _ _ _ _) ?_
   refine k4 (fun f7b => ?_) (fun f7b => ?_)
   ·replace h := h.1 f7b
    exact hx2 _ _ (hj2 (decide (a1M.b6 = x2)) H _ ((((I.bring 3).bring 3).bring 3).bring 3) h)
   ·replace h := h.2 f7b
    refine a7 a2X ?_
    refine f2 (ld1 Tryz.isAgg3 (I.at1 (o := 0) (vs := [(vi a4h.b6)]) (nb rfl) rfl)) ?_
    refine a7 (k7 _ _ _ _ _ _) ?_
    exact hx2 _ _ (hj2 (decide (a4h.b6 = x1)) H _ ((((I.bring 3).bring 3).bring 3).bring 3) h)
 refine r9 fun j1 hx1 => ?_
 refine a3D I_9 fun S5 B1 => ?_
 refine o7 M5 ?_
 refine o7 M5 ?_
 refine y9 (ld1 Tryz.isAgg57 ((B1.bring 1).at1 (o := 3) (vs := [(vs x0.o3)]) (nb rfl) rfl)) ?_
 obtain ⟨a8e, b9f, a6M, a9l, h⟩ := h
 obtain ⟨f5a, f5b, c9F, a9l⟩ := a9l
 refine o7 (a1T c9F _ _ _ _ a8e b9f) ?_
 refine y9 (ldA (vs := (d8 a6M)) Tryz.isAgg59 Tryz.sizeOf59 rfl (B1.atH a9l)) ?_
 refine y9 (ld1 Tryz.isAgg57 ((B1.bring 1).at1 (o := 3) (vs := [(vs x0.o3)]) (nb rfl) rfl)) ?_
 obtain ⟨b9o, c3O, a9T, a9m, h⟩ := h
 obtain ⟨h5h, h5i, b5R, a9m⟩ := a9m
 refine o7 (a1T b5R _ _ _ _ b9o c3O) ?_
 refine y9 (ldA (vs := (d8 a9T)) Tryz.isAgg59 Tryz.sizeOf59 rfl (B1.atH a9m)) ?_
 refine ⟨?_, ?_⟩
 ·refine z8 B1 Tryz.zeroValue59 (cs := [(vi 0), (vi 0), (nS), (nS)]) rfl fun j5b a6Y X3 a9P => ?_
  refine ⟨(a9P _ (B1.a7f a9m)), (a9P _ (B1.bring 1).lt1), (a9P _ (B1.a7f a9l)), (a9P _ (B1.bring 1).lt1), ?_⟩
  refine z8 X3 Tryz.zeroValue59 (cs := [(vi 0), (vi 0), (nS), (nS)]) rfl fun j5c A6 a4Y c1b => ?_
  refine ⟨(c1b _ (X3.a7f a9m)), (c1b _ (X3.bring 2).lt1), (c1b _ (X3.a7f a9l)), (c1b _ (X3.bring 2).lt1), ?_⟩
  refine m5 (a4Y.bring 1) Tryz.sizeOf59 (vs := (d8 a6M)) (cs' := (d8 a6M)) rfl rfl (nb rfl) rfl rfl fun b2Z a8g d3A => ?_
  refine ⟨(d3A _ (Inv.e3B (a4Y.bring 1) a9m)), (d3A _ (Inv.f3g ((a4Y.bring 3).bring 2))), ?_⟩
  refine m5 (a8g.bring 1) Tryz.sizeOf59 (vs := (d8 a9T)) (cs' := (d8 a9T)) rfl rfl (nb rfl) rfl rfl fun J7 c5R e5z => ?_
  exact hx1 _ _ (hj1 a9T a6M j5c j5b H _ ((((c5R.bring 3).bring 3).bring 3).bring 3) h)
 ·refine z8 B1 Tryz.zeroValue59 (cs := [(vi 0), (vi 0), (nS), (nS)]) rfl fun j5d b4g b3y c5X => ?_
  refine ⟨(c5X _ (B1.a7f a9m)), (c5X _ (B1.bring 1).lt1), (c5X _ (B1.a7f a9l)), (c5X _ (B1.bring 1).lt1), ?_⟩
  refine z8 b3y Tryz.zeroValue59 (cs := [(vi 0), (vi 0), (nS), (nS)]) rfl fun h4D T6 c5T d3z => ?_
  refine ⟨(d3z _ (b3y.a7f a9m)), (d3z _ (b3y.bring 2).lt1), (d3z _ (b3y.a7f a9l)), (d3z _ (b3y.bring 2).lt1), ?_⟩
  refine m5 c5T Tryz.sizeOf59 (vs := (d8 a6M)) (cs' := (d8 a6M)) rfl rfl (nb rfl) rfl rfl fun b1n f3C f3D => ?_
  refine ⟨(f3D _ (Inv.e3B c5T a9m)), (f3D _ (Inv.f3g ((c5T.bring 3).bring 1))), ?_⟩
  refine m5 (f3C.bring 1) Tryz.sizeOf59 (vs := (d8 a9T)) (cs' := (d8 a9T)) rfl rfl (nb rfl) rfl rfl fun Z9 d3y h4F => ?_
  exact hx1 _ _ (hj1 a9T a6M j5d h4D H _ ((((d3y.bring 3).bring 3).bring 3).bring 3) h)
theorem c0m (x0 : b7) (x1 : Int) (x2 : Int) {H : Hp} {K : b7 → Hp → Prop} (h : a5K x0 x1 x2 H K) : a5x x0 x1 x2 H K := by
 intro w I
 refine i3I ?_
 refine b9Q x0 x1 x2 I (fun r0 H' w' I' hk => ⟨H', _, I', r0, rfl, rfl, hk⟩) h
def a0i (p9 : b7) (m8 : b7) (H : Hp) (K : b7 → Hp → Prop) : Prop :=
 K p9 H
def a6U (x0 : b7) (H : Hp) (K : b7 → Hp → Prop) : Prop :=
 G4 x0.f5 H (fun (u5 : Sl) (a1X : Hp) =>
 O6 x0.o3 a1X (fun (u2 : Sl) (a4x : Hp) =>
 (x0.b6 = 3 →
 (0 : Int) ≤ 0 ∧ (0 : Int) < u5.n ∧ ∃ e8p : a8, EltH a4x u5 0 4 (b8 e8p) ∧
 T0 e8p a4x (fun (c4j : Int) (b7P : Bool) (b2I : Hp) =>
 (0 : Int) ≤ 1 ∧ (1 : Int) < u5.n ∧ ∃ c3h : a8, EltH b2I u5 1 4 (b8 c3h) ∧
 T0 c3h b2I (fun (c4l : Int) (d5t : Bool) (d0f : Hp) =>
 ((b7P && d5t) = true →
 b3e x0.fOp c4j c4l d0f (fun (a7s : Bool) (b3f : Hp) =>
 a6u a7s b3f (fun (a9z : b7) (b2C : Hp) =>
 K a9z b2C))) ∧
 ((b7P && d5t) = false →
 a0i (b7.mk x0.b6 x0.fOp u5 u2) (b7.mk 0 0 (Sl.mk none 0 0) (Sl.mk none 0 0)) d0f K)))) ∧
 (¬ (x0.b6 = 3) →
 (x0.b6 = 4 →
 (0 : Int) ≤ 0 ∧ (0 : Int) < u2.n ∧ ∃ c6C : b7, EltH a4x u2 0 4 (d8 c6C) ∧
 (((decide (c6C.b6 = 1)) || (decide (c6C.b6 = 2))) = true →
 a6u (decide (c6C.b6 = 2)) a4x (fun (c2r : b7) (e8q : Hp) =>
 K c2r e8q)) ∧
 (((decide (c6C.b6 = 1)) || (decide (c6C.b6 = 2))) = false →
 a0i (b7.mk x0.b6 x0.fOp u5 u2) (b7.mk 0 0 (Sl.mk none 0 0) (Sl.mk none 0 0)) a4x K)) ∧
 (¬ (x0.b6 = 4) →
 (x0.b6 = 5 →
 a5x (b7.mk x0.b6 x0.fOp u5 u2) 1 2 a4x (fun (c2s : b7) (e8r : Hp) =>
 K c2s e8r)) ∧
 (¬ (x0.b6 = 5) →
 (x0.b6 = 6 →
 a5x (b7.mk x0.b6 x0.fOp u5 u2) 2 1 a4x (fun (c2t : b7) (e8s : Hp) =>
 K c2t e8s)) ∧
 (¬ (x0.b6 = 6) →
 a0i (b7.mk x0.b6 x0.fOp u5 u2) (b7.mk 0 0 (Sl.mk none 0 0) (Sl.mk none 0 0)) a4x K))))))
theorem c1w (x0 : b7) {K : b7 → Hp → Prop} (I : Inv w0 ps0 H0 H [] w) (hR : ∀ (r0 : b7) (H' : Hp) (w' : World) (_ : Inv w0 ps0 H0 H' [] w') (_ : K r0 H'), R (Value.agg (d8 r0).toArray) w') (h : a6U x0 H K) : F42 (Value.agg (d8 x0).toArray) w R E := by
 unfold a6U at h
 unfold F42
 refine K6 I (cs := (d8 x0)) rfl fun g_2 w_3 I_4 k_5 => ?_
 refine z8 I_4 Tryz.zeroValue59 (cs := [(vi 0), (vi 0), (nS), (nS)]) rfl fun g_7 w_8 I_9 a9j => ?_
 refine a3D I_9 fun S5 B1 => ?_
 refine o7 O4 ?_
 refine o7 M5 ?_
 refine y9 (ld1 Tryz.isAgg51 ((B1.bring 1).at1 (o := 2) (vs := [(vs x0.f5)]) (nb rfl) rfl)) ?_
 refine y9 (ld1 Tryz.isAgg57 ((B1.bring 1).at1 (o := 3) (vs := [(vs x0.o3)]) (nb rfl) rfl)) ?_
 refine f7 (cap := []) (fun args w => Tryz.call66 args w) ?_
 refine k8 (Fi := []) (Fr := [bx g_7 59 [(vi 0), (vi 0), (nS), (nS)], bx g_2 59 (d8 x0)]) B1 (h) (fun e8t a1X e8u p6 b3m c6p b8S c4m => ?_) (fun _ _ _ _ _ q => q.elim)
 obtain ⟨u5, rfl, rfl, h⟩ := c4m
 refine ⟨(b8S _ (B1.bring 1).lt1 (Inv.a1t (Fi := []) (B1.bring 1))), ?_⟩
 refine o7 O4 ?_
 refine f7 (cap := []) (fun args w => Tryz.call71 args w) ?_
 refine k8 (Fi := []) (Fr := [bx g_7 59 [(vi 0), (vi 0), (nS), (nS)], bx g_2 59 (d8 x0)]) b3m (h) (fun f4o a4x b4v a6X a6k c3D c9g c9h => ?_) (fun _ _ _ _ _ q => q.elim)
 obtain ⟨u2, rfl, rfl, h⟩ := c9h
 refine m5 (a6k.bring 1) Tryz.sizeOf51 (vs := [(vs u5)]) (cs' := [(vi x0.b6), (vi x0.fOp), (vs u5), (vs x0.o3)]) rfl rfl (nb rfl) rfl rfl fun b1m b3J i4f => ?_
 refine o7 M5 ?_
 refine m5 b3J Tryz.sizeOf57 (vs := [(vs u2)]) (cs' := [(vi x0.b6), (vi x0.fOp), (vs u5), (vs u2)]) rfl rfl (nb rfl) rfl rfl fun A6 a4Y c1b => ?_
 have hj1 : ∀ (H : Hp) (w : World) (_ : Inv w0 ps0 H0 H [bx g_2 59 [(vi (b7.mk x0.b6 x0.fOp u5 u2).b6), (vi (b7.mk x0.b6 x0.fOp u5 u2).fOp), (Value.slice (b7.mk x0.b6 x0.fOp u5 u2).f5.a (b7.mk x0.b6 x0.fOp u5 u2).f5.n (b7.mk x0.b6 x0.fOp u5 u2).f5.c), (Value.slice (b7.mk x0.b6 x0.fOp u5 u2).o3.a (b7.mk x0.b6 x0.fOp u5 u2).o3.n (b7.mk x0.b6 x0.fOp u5 u2).o3.c)], bx g_7 59 [(vi (b7.mk 0 0 (Sl.mk none 0 0) (Sl.mk none 0 0)).b6), (vi (b7.mk 0 0 (Sl.mk none 0 0) (Sl.mk none 0 0)).fOp), (Value.slice (b7.mk 0 0 (Sl.mk none 0 0) (Sl.mk none 0 0)).f5.a (b7.mk 0 0 (Sl.mk none 0 0) (Sl.mk none 0 0)).f5.n (b7.mk 0 0 (Sl.mk none 0 0) (Sl.mk none 0 0)).f5.c), (Value.slice (b7.mk 0 0 (Sl.mk none 0 0) (Sl.mk none 0 0)).o3.a (b7.mk 0 0 (Sl.mk none 0 0) (Sl.mk none 0 0)).o3.n (b7.mk 0 0 (Sl.mk none 0 0) (Sl.mk none 0 0)).o3.c)]] w) (_ : a0i (b7.mk x0.b6 x0.fOp u5 u2) (b7.mk 0 0 (Sl.mk none 0 0) (Sl.mk none 0 0)) H K), e0W (Value.pointer (some ⟨g_2, 0, none⟩)) (Value.pointer (some ⟨g_7, 0, none⟩)) w R E := by
  intro H w I h
  unfold e0W
  intro _
  unfold a0i at h
  refine f2 (ldA Tryz.isAgg59 Tryz.sizeOf59 rfl (I.at1 (o := 0) (vs := [(vi (b7.mk x0.b6 x0.fOp u5 u2).b6), (vi (b7.mk x0.b6 x0.fOp u5 u2).fOp), (Value.slice (b7.mk x0.b6 x0.fOp u5 u2).f5.a (b7.mk x0.b6 x0.fOp u5 u2).f5.n (b7.mk x0.b6 x0.fOp u5 u2).f5.c), (Value.slice (b7.mk x0.b6 x0.fOp u5 u2).o3.a (b7.mk x0.b6 x0.fOp u5 u2).o3.n (b7.mk x0.b6 x0.fOp u5 u2).o3.c)]) (nb rfl) rfl)) ?_
  refine m5 (I.bring 1) Tryz.sizeOf59 (vs := [(vi (b7.mk x0.b6 x0.fOp u5 u2).b6), (vi (b7.mk x0.b6 x0.fOp u5 u2).fOp), (Value.slice (b7.mk x0.b6 x0.fOp u5 u2).f5.a (b7.mk x0.b6 x0.fOp u5 u2).f5.n (b7.mk x0.b6 x0.fOp u5 u2).f5.c), (Value.slice (b7.mk x0.b6 x0.fOp u5 u2).o3.a (b7.mk x0.b6 x0.fOp u5 u2).o3.n (b7.mk x0.b6 x0.fOp u5 u2).o3.c)]) (cs' := [(vi (b7.mk x0.b6 x0.fOp u5 u2).b6), (vi (b7.mk x0.b6 x0.fOp u5 u2).fOp), (Value.slice (b7.mk x0.b6 x0.fOp u5 u2).f5.a (b7.mk x0.b6 x0.fOp u5 u2).f5.n (b7.mk x0.b6 x0.fOp u5 u2).f5.c), (Value.slice (b7.mk x0.b6 x0.fOp u5 u2).o3.a (b7.mk x0.b6 x0.fOp u5 u2).o3.n (b7.mk x0.b6 x0.fOp u5 u2).o3.c)]) rfl rfl (nb rfl) rfl rfl fun a3d e8v f7c => ?_
  refine J4 Tryz.isAgg59 Tryz.sizeOf59 rfl (e8v.at1 (o := 0) (vs := [(vi (b7.mk x0.b6 x0.fOp u5 u2).b6), (vi (b7.mk x0.b6 x0.fOp u5 u2).fOp), (Value.slice (b7.mk x0.b6 x0.fOp u5 u2).f5.a (b7.mk x0.b6 x0.fOp u5 u2).f5.n (b7.mk x0.b6 x0.fOp u5 u2).f5.c), (Value.slice (b7.mk x0.b6 x0.fOp u5 u2).o3.a (b7.mk x0.b6 x0.fOp u5 u2).o3.n (b7.mk x0.b6 x0.fOp u5 u2).o3.c)]) (nb rfl) rfl) ?_
  exact hR (b7.mk x0.b6 x0.fOp u5 u2) H _ e8v.drop.drop h
 refine r9 fun j1 hx1 => ?_
 refine a7 a2X ?_
 refine f2 (ld1 Tryz.isAgg3 (a4Y.at1 (o := 0) (vs := [(vi x0.b6)]) (nb rfl) rfl)) ?_
 refine a7 (k7 _ _ _ _ _ _) ?_
 refine k4 (fun c4c => ?_) (fun c4c => ?_)
 ·replace h := h.1 c4c
  refine a7 O4 ?_
  refine f2 (ld1 Tryz.isAgg51 (a4Y.at1 (o := 2) (vs := [(vs u5)]) (nb rfl) rfl)) ?_
  obtain ⟨f7d, d3T, e8p, a5W, h⟩ := h
  obtain ⟨k1q, k1r, a5v, a5W⟩ := a5W
  refine a7 (G7 a5v _ _ _ _ f7d d3T) ?_
  refine f2 (ldA (vs := (b8 e8p)) Tryz.isAgg53 Tryz.sizeOf53 rfl (a4Y.atH a5W)) ?_
  refine f7 (cap := []) (fun args w => Tryz.call67 args w) ?_
  refine k8 (Fi := []) (Fr := [bx g_2 59 [(vi x0.b6), (vi x0.fOp), (vs u5), (vs u2)], bx g_7 59 [(vi 0), (vi 0), (nS), (nS)]]) a4Y (h) (fun j4W b2I j4X c2K b3I a1W j4Y f6W => ?_) (fun _ _ _ _ _ q => q.elim)
  obtain ⟨c4j, b7P, rfl, rfl, h⟩ := f6W
  refine a7 (r6 _ _ (vi c4j) rfl) ?_
  refine a7 (r6 _ _ (vB b7P) rfl) ?_
  refine a7 O4 ?_
  refine f2 (ld1 Tryz.isAgg51 (b3I.at1 (o := 2) (vs := [(vs u5)]) (nb rfl) rfl)) ?_
  obtain ⟨b8N, f3U, c3h, b8M, h⟩ := h
  obtain ⟨f3V, j2B, f3W, b8M⟩ := b8M
  refine a7 (G7 f3W _ _ _ _ b8N f3U) ?_
  refine f2 (ldA (vs := (b8 c3h)) Tryz.isAgg53 Tryz.sizeOf53 rfl (b3I.atH b8M)) ?_
  refine f7 (cap := []) (fun args w => Tryz.call67 args w) ?_
  refine k8 (Fi := []) (Fr := [bx g_2 59 [(vi x0.b6), (vi x0.fOp), (vs u5), (vs u2)], bx g_7 59 [(vi 0), (vi 0), (nS), (nS)]]) b3I (h) (fun j5e d0f j5f b5y d0g j5g j5h f7e => ?_) (fun _ _ _ _ _ q => q.elim)
  obtain ⟨c4l, d5t, rfl, rfl, h⟩ := f7e
  refine a7 (r6 _ _ (vi c4l) rfl) ?_
  refine a7 (r6 _ _ (vB d5t) rfl) ?_
  simp only [z2]
  refine a7 (w8 _ _) ?_
  refine o2 (fun f7f => ?_) (fun f7f => ?_)
  ·replace h := h.1 f7f
   refine a7 a6q ?_
   refine f2 (ld1 Tryz.isAgg3 (d0g.at1 (o := 1) (vs := [(vi x0.fOp)]) (nb rfl) rfl)) ?_
   refine f7 (cap := []) (fun args w => Tryz.call73 args w) ?_
   refine k8 (Fi := []) (Fr := [bx g_2 59 [(vi x0.b6), (vi x0.fOp), (vs u5), (vs u2)], bx g_7 59 [(vi 0), (vi 0), (nS), (nS)]]) d0g (h) (fun d3r b3f f3E W9 c0W f3F e4x c8Q => ?_) (fun _ _ _ _ _ q => q.elim)
   obtain ⟨a7s, rfl, rfl, h⟩ := c8Q
   refine f7 (cap := []) (fun args w => Tryz.call72 args w) ?_
   refine k8 (Fi := []) (Fr := [bx g_2 59 [(vi x0.b6), (vi x0.fOp), (vs u5), (vs u2)], bx g_7 59 [(vi 0), (vi 0), (nS), (nS)]]) c0W (h) (fun e4y b2C j2c a6Z d3t f3G f3H f3I => ?_) (fun _ _ _ _ _ q => q.elim)
   obtain ⟨a9z, rfl, rfl, h⟩ := f3I
   refine m5 (d3t.bring 1) Tryz.sizeOf59 (vs := (d8 a9z)) (cs' := (d8 a9z)) rfl rfl (nb rfl) rfl rfl fun d3Q i4g k1s => ?_
   refine J4 Tryz.isAgg59 Tryz.sizeOf59 rfl (i4g.at1 (o := 0) (vs := (d8 a9z)) (nb rfl) rfl) ?_
   exact hR a9z b2C _ i4g.drop.drop h
  ·replace h := h.2 f7f
   exact hx1 _ _ (hj1 d0f _ ((d0g.bring 1).bring 1) h)
 ·replace h := h.2 c4c
  refine a7 (k7 _ _ _ _ _ _) ?_
  refine k4 (fun c3i => ?_) (fun c3i => ?_)
  ·replace h := h.1 c3i
   refine a7 M5 ?_
   refine f2 (ld1 Tryz.isAgg57 (a4Y.at1 (o := 3) (vs := [(vs u2)]) (nb rfl) rfl)) ?_
   obtain ⟨c4b, j5i, c6C, d2m, h⟩ := h
   obtain ⟨k1t, k1u, f7g, d2m⟩ := d2m
   refine a7 (a1T f7g _ _ _ _ c4b j5i) ?_
   refine a7 a2X ?_
   refine f2 (ld1 (v := (vi c6C.b6)) Tryz.isAgg3 ((a4Y.atH d2m).sub (k := 0) (n := 1) (nb rfl))) ?_
   refine a7 (k7 _ _ _ _ _ _) ?_
   simp only [z2]
   refine a7 (Pu.g fun hb => by have d7 := hb; simp only [i6 d7]; exact (k7 _ _ _ _ _ _)) ?_
   refine a7 (M4 _ _) ?_
   refine o2 (fun c3X => ?_) (fun c3X => ?_)
   ·replace h := h.1 c3X
    refine a7 (k7 _ _ _ _ _ _) ?_
    refine f7 (cap := []) (fun args w => Tryz.call72 args w) ?_
    refine k8 (Fi := []) (Fr := [bx g_2 59 [(vi x0.b6), (vi x0.fOp), (vs u5), (vs u2)], bx g_7 59 [(vi 0), (vi 0), (nS), (nS)]]) a4Y (h) (fun j7L e8q j7M a2Y i9x j7N j7O i9y => ?_) (fun _ _ _ _ _ q => q.elim)
    obtain ⟨c2r, rfl, rfl, h⟩ := i9y
    refine m5 (i9x.bring 1) Tryz.sizeOf59 (vs := (d8 c2r)) (cs' := (d8 c2r)) rfl rfl (nb rfl) rfl rfl fun a7m d4V i7O => ?_
    refine J4 Tryz.isAgg59 Tryz.sizeOf59 rfl (d4V.at1 (o := 0) (vs := (d8 c2r)) (nb rfl) rfl) ?_
    exact hR c2r e8q _ d4V.drop.drop h
   ·replace h := h.2 c3X
    exact hx1 _ _ (hj1 a4x _ ((a4Y.bring 1).bring 1) h)
  ·replace h := h.2 c3i
   refine a7 (k7 _ _ _ _ _ _) ?_
   refine k4 (fun e8w => ?_) (fun e8w => ?_)
   ·replace h := h.1 e8w
    refine f2 (ldA Tryz.isAgg59 Tryz.sizeOf59 rfl (a4Y.at1 (o := 0) (vs := [(vi x0.b6), (vi x0.fOp), (vs u5), (vs u2)]) (nb rfl) rfl)) ?_
    refine f7 (cap := []) (fun args w => Tryz.call74 args w) ?_
    refine k8 (Fi := []) (Fr := [bx g_2 59 [(vi x0.b6), (vi x0.fOp), (vs u5), (vs u2)], bx g_7 59 [(vi 0), (vi 0), (nS), (nS)]]) a4Y (h) (fun j7P e8r j7Q d1X e8x d5b f9e i9z => ?_) (fun _ _ _ _ _ q => q.elim)
    obtain ⟨c2s, rfl, rfl, h⟩ := i9z
    refine m5 (e8x.bring 1) Tryz.sizeOf59 (vs := (d8 c2s)) (cs' := (d8 c2s)) rfl rfl (nb rfl) rfl rfl fun c7C f9f j7R => ?_
    refine J4 Tryz.isAgg59 Tryz.sizeOf59 rfl (f9f.at1 (o := 0) (vs := (d8 c2s)) (nb rfl) rfl) ?_
    exact hR c2s e8r _ f9f.drop.drop h
   ·replace h := h.2 e8w
    refine a7 (k7 _ _ _ _ _ _) ?_
    refine k4 (fun c3y => ?_) (fun c3y => ?_)
    ·replace h := h.1 c3y
     refine f2 (ldA Tryz.isAgg59 Tryz.sizeOf59 rfl (a4Y.at1 (o := 0) (vs := [(vi x0.b6), (vi x0.fOp), (vs u5), (vs u2)]) (nb rfl) rfl)) ?_
     refine f7 (cap := []) (fun args w => Tryz.call74 args w) ?_
     refine k8 (Fi := []) (Fr := [bx g_2 59 [(vi x0.b6), (vi x0.fOp), (vs u5), (vs u2)], bx g_7 59 [(vi 0), (vi 0), (nS), (nS)]]) a4Y (h) (fun j7S e8s i9A i9B i9C j7T j7U i9D => ?_) (fun _ _ _ _ _ q => q.elim)
     obtain ⟨c2t, rfl, rfl, h⟩ := i9D
     refine m5 (i9C.bring 1) Tryz.sizeOf59 (vs := (d8 c2t)) (cs' := (d8 c2t)) rfl rfl (nb rfl) rfl rfl fun d1Z d5u i9E => ?_
     refine J4 Tryz.isAgg59 Tryz.sizeOf59 rfl (d5u.at1 (o := 0) (vs := (d8 c2t)) (nb rfl) rfl) ?_
     exact hR c2t e8s _ d5u.drop.drop h
    ·replace h := h.2 c3y
     exact hx1 _ _ (hj1 a4x _ ((a4Y.bring 1).bring 1) h)
theorem c2u (x0 : b7) {H : Hp} {K : b7 → Hp → Prop} (h : a6U x0 H K) : a6Q x0 H K := by
 intro w I
 refine i2u ?_
 refine c1w x0 I (fun r0 H' w' I' hk => ⟨H', _, I', r0, rfl, rfl, hk⟩) h
def a6V (x0 : b7) (H : Hp) (K : b7 → Int → Hp → Prop) : Prop :=
 b1r x0 H (fun (m9 : Int) (Z0 : Hp) =>
 (¬ (m9 = 0) →
 K (b7.mk 0 0 (Sl.mk none 0 0) (Sl.mk none 0 0)) m9 Z0) ∧
 (m9 = 0 →
 a6Q x0 Z0 (fun (a6x : b7) (a9k : Hp) =>
 K a6x 0 a9k)))
theorem c1x (x0 : b7) {K : b7 → Int → Hp → Prop} (I : Inv w0 ps0 H0 H [] w) (hR : ∀ (r0 : b7) (r1 : Int) (H' : Hp) (w' : World) (_ : Inv w0 ps0 H0 H' [] w') (_ : K r0 r1 H'), R (Value.tuple #[(Value.agg (d8 r0).toArray), (vi r1)]) w') (h : a6V x0 H K) : F23 (Value.agg (d8 x0).toArray) w R E := by
 unfold a6V at h
 unfold F23
 refine K6 I (cs := (d8 x0)) rfl fun g_2 w_3 I_4 k_5 => ?_
 refine z8 I_4 Tryz.zeroValue59 (cs := [(vi 0), (vi 0), (nS), (nS)]) rfl fun g_7 w_8 I_9 a9j => ?_
 refine f2 (ldA Tryz.isAgg59 Tryz.sizeOf59 rfl ((I_9.bring 1).at1 (o := 0) (vs := (d8 x0)) (nb rfl) rfl)) ?_
 refine f7 (cap := []) (fun args w => Tryz.call41 args w) ?_
 refine k8 (Fi := []) (Fr := [bx g_7 59 [(vi 0), (vi 0), (nS), (nS)], bx g_2 59 (d8 x0)]) I_9 (h) (fun c9l Z0 c9m p8 a6l c3J c9n b3u => ?_) (fun _ _ _ _ _ q => q.elim)
 obtain ⟨m9, rfl, rfl, h⟩ := b3u
 refine a7 (P9 _ _ _ _ _ _) ?_
 refine a5o (fun d0e => ?_) (fun d0e => ?_)
 ·replace h := h.1 d0e
  refine a7 (e9V ) ?_
  refine m5 a6l Tryz.sizeOf59 (vs := [(vi 0), (vi 0), (nS), (nS)]) (cs' := [(vi 0), (vi 0), (nS), (nS)]) rfl rfl (nb rfl) rfl rfl fun t8 a0f b3g => ?_
  refine J4 Tryz.isAgg59 Tryz.sizeOf59 rfl (a0f.at1 (o := 0) (vs := [(vi 0), (vi 0), (nS), (nS)]) (nb rfl) rfl) ?_
  exact hR (b7.mk 0 0 (Sl.mk none 0 0) (Sl.mk none 0 0)) m9 Z0 _ a0f.drop.drop h
 ·replace h := h.2 d0e
  refine f2 (ldA Tryz.isAgg59 Tryz.sizeOf59 rfl ((a6l.bring 1).at1 (o := 0) (vs := (d8 x0)) (nb rfl) rfl)) ?_
  refine f7 (cap := []) (fun args w => Tryz.call42 args w) ?_
  refine k8 (Fi := []) (Fr := [bx g_7 59 [(vi 0), (vi 0), (nS), (nS)], bx g_2 59 (d8 x0)]) a6l (h) (fun f4s a9k d8l v2 a8f f4t c8V c9j => ?_) (fun _ _ _ _ _ q => q.elim)
  obtain ⟨a6x, rfl, rfl, h⟩ := c9j
  refine m5 a8f Tryz.sizeOf59 (vs := (d8 a6x)) (cs' := (d8 a6x)) rfl rfl (nb rfl) rfl rfl fun C3 b9e e5y => ?_
  refine J4 Tryz.isAgg59 Tryz.sizeOf59 rfl (b9e.at1 (o := 0) (vs := (d8 a6x)) (nb rfl) rfl) ?_
  exact hR a6x 0 a9k _ b9e.drop.drop h
theorem c2v (x0 : b7) {H : Hp} {K : b7 → Int → Hp → Prop} (h : a6V x0 H K) : a9N x0 H K := by
 intro w I
 refine i0U ?_
 refine c1x x0 I (fun r0 r1 H' w' I' hk => ⟨H', _, I', r0, r1, rfl, rfl, hk⟩) h
def a3X (H : Hp) (K : Bool → Hp → Prop) : Prop :=
 a0b 1 H (fun (J8 : a8) (H_1 : Hp) =>
 a0b 2 H_1 (fun (A4 : a8) (a4w : Hp) =>
 ∀ (d0h : Sl) (c5V : Hp), Hle a4w c5V → SlH c5V 4 b8 d0h [J8, A4] → d0h.n ≤ d0h.c →
 ∀ (a7u : Sl) (b7c : Hp), Hle c5V b7c → SlH b7c 4 b8 a7u [(a8.mk 6 0 ⟨#[]⟩ d0h), (a8.mk 2 0 ⟨#[120]⟩ (Sl.mk none 0 0))] → a7u.n ≤ a7u.c →
 a9L (a8.mk 8 0 ⟨#[]⟩ a7u) b7c (fun (P2 : a8) (b4T : Int) (a6j : Hp) =>
 a0b 1 a6j (fun (c4l : a8) (d0f : Hp) =>
 a0b 2 d0f (fun (a7s : a8) (b3f : Hp) =>
 ∀ (d3V : Sl) (e1p : Hp), Hle b3f e1p → SlH e1p 4 b8 d3V [c4l, a7s] → d3V.n ≤ d3V.c →
 a9N (b7.mk 3 1 d3V (Sl.mk none 0 0)) e1p (fun (c0w : b7) (c7J : Int) (c3e : Hp) =>
 ∃ b0E : a8, (((((decide (b4T = 0)) && (decide (c7J = 0))) && (decide (P2.b6 = 8))) && (decide ((P2.k9.n : Int) = 2))) = true → (0 : Int) ≤ 0 ∧ (0 : Int) < P2.k9.n ∧ EltH c3e P2.k9 0 4 (b8 b0E)) ∧
 ∃ d2n : a8, ((((((decide (b4T = 0)) && (decide (c7J = 0))) && (decide (P2.b6 = 8))) && (decide ((P2.k9.n : Int) = 2))) && (decide (b0E.b6 = 1))) = true → (0 : Int) ≤ 0 ∧ (0 : Int) < P2.k9.n ∧ EltH c3e P2.k9 0 4 (b8 d2n)) ∧
 K (((((((decide (b4T = 0)) && (decide (c7J = 0))) && (decide (P2.b6 = 8))) && (decide ((P2.k9.n : Int) = 2))) && (decide (b0E.b6 = 1))) && (decide (d2n.o6 = 3))) && (decide (c0w.b6 = 1))) c3e))))))
theorem b6I {K : Bool → Hp → Prop} (I : Inv w0 ps0 H0 H [] w) (hR : ∀ (r0 : Bool) (H' : Hp) (w' : World) (_ : Inv w0 ps0 H0 H' [] w') (_ : K r0 H'), R (vB r0) w') (h : a3X H K) : F8 w R E := by
 unfold a3X at h
 unfold F8
 refine f7 (cap := []) (fun args w => Tryz.call22 args w) ?_
 refine k8 (Fi := []) (Fr := []) I (h) (fun v_5 H_1 F_6 w_2 I_3 l_8 k_4 q_7 => ?_) (fun _ _ _ _ _ q => q.elim)
 obtain ⟨J8, rfl, rfl, h⟩ := q_7
 refine f7 (cap := []) (fun args w => Tryz.call22 args w) ?_
 refine k8 (Fi := []) (Fr := []) I_3 (h) (fun c8M a4w e4v S5 B1 c2V b6V c2W => ?_) (fun _ _ _ _ _ q => q.elim)
 obtain ⟨A4, rfl, rfl, h⟩ := c2W
 refine a4b (e := 53) (c := b8) (xs := [J8, A4]) B1 (d2M _ _ _ _ _ _ _ _ _ _ _ _) rfl rfl T8 T9 (nb rfl) fun d0h c0X w9 b9o a6k c9g => ?_
 refine a7 (b6N _ _ _ _) ?_
 refine a7 (d4z _ _) ?_
 obtain ⟨c5V, b4H, d8r, a8c, d8m⟩ := Inv.freezeC a6k b9o (by decide)
 replace h := h d0h c5V d8r a8c d8m
 refine a4b (e := 53) (c := b8) (xs := [(a8.mk 6 0 ⟨#[]⟩ d0h), (a8.mk 2 0 ⟨#[120]⟩ (Sl.mk none 0 0))]) b4H (d2M _ _ _ _ _ _ _ _ _ _ _ _) rfl rfl T8 T9 (nb rfl) fun a7u a9Q A6 a9i a6L b8K => ?_
 refine a7 (b6N _ _ _ _) ?_
 obtain ⟨b7c, b3v, c8U, d3T, a5v⟩ := Inv.freezeC a6L a9i (by decide)
 replace h := h a7u b7c c8U d3T a5v
 refine f7 (cap := []) (fun args w => Tryz.call21 args w) ?_
 refine k8 (Fi := []) (Fr := []) b3v (h) (fun e5A a6j e5B D8 b1A e5C d7V c3E => ?_) (fun _ _ _ _ _ q => q.elim)
 obtain ⟨P2, b4T, rfl, rfl, h⟩ := c3E
 refine a7 (r6 _ _ _ rfl) ?_
 refine a7 (r6 _ _ (vi b4T) rfl) ?_
 refine z8 b1A Tryz.zeroValue53 (cs := [(vi 0), (vi 0), (eS), (nS)]) rfl fun f7h N9 c3Q f5d => ?_
 refine m5 c3Q Tryz.sizeOf53 (vs := (b8 P2)) (cs' := (b8 P2)) rfl rfl (nb rfl) rfl rfl fun b4g b3y c5X => ?_
 refine f7 (cap := []) (fun args w => Tryz.call22 args w) ?_
 refine k8 (Fi := []) (Fr := [bx f7h 53 (b8 P2)]) b3y (h) (fun j5e d0f j5f b5y d0g j5g j5h f7e => ?_) (fun _ _ _ _ _ q => q.elim)
 obtain ⟨c4l, rfl, rfl, h⟩ := f7e
 refine f7 (cap := []) (fun args w => Tryz.call22 args w) ?_
 refine k8 (Fi := []) (Fr := [bx f7h 53 (b8 P2)]) d0g (h) (fun d3r b3f f3E W9 c0W f3F e4x c8Q => ?_) (fun _ _ _ _ _ q => q.elim)
 obtain ⟨a7s, rfl, rfl, h⟩ := c8Q
 refine a4b (e := 53) (c := b8) (xs := [c4l, a7s]) c0W (d2M _ _ _ _ _ _ _ _ _ _ _ _) rfl rfl T8 T9 (nb rfl) fun d3V k1v b7n f3R j5j k1w => ?_
 refine a7 (d0o _ _ _ _ _) ?_
 obtain ⟨e1p, j5k, f6F, f6C, d8f⟩ := Inv.freezeC j5j f3R (by decide)
 replace h := h d3V e1p f6F f6C d8f
 refine f7 (cap := []) (fun args w => Tryz.call23 args w) ?_
 refine k8 (Fi := []) (Fr := [bx f7h 53 (b8 P2)]) j5k (h) (fun j2g c3e j2h c3g f3M f3x j2i f3N => ?_) (fun _ _ _ _ _ q => q.elim)
 obtain ⟨c0w, c7J, rfl, rfl, h⟩ := f3N
 refine a7 (r6 _ _ _ rfl) ?_
 refine a7 (r6 _ _ (vi c7J) rfl) ?_
 refine z8 f3M Tryz.zeroValue59 (cs := [(vi 0), (vi 0), (nS), (nS)]) rfl fun j7V d5g i9F j7W => ?_
 refine m5 i9F Tryz.sizeOf59 (vs := (d8 c0w)) (cs' := (d8 c0w)) rfl rfl (nb rfl) rfl rfl fun a4K c0H j7X => ?_
 refine a7 (k7 _ _ _ _ _ _) ?_
 simp only [z2]
 refine a7 (Pu.g fun hb => by have d7 := hb; simp only [i6 d7]; exact (k7 _ _ _ _ _ _)) ?_
 refine a7 (w8 _ _) ?_
 refine a7 (Pu.g fun hb => by have d7 := hb; exact U5) ?_
 refine f2 (Ld.g fun hb => by have d7 := hb; simp only [i6 d7]; exact (ld1 Tryz.isAgg3 ((c0H.bring 1).at1 (o := 0) (vs := [(vi P2.b6)]) (nb rfl) rfl))) ?_
 refine a7 (Pu.g fun hb => by have d7 := hb; simp only [i6 d7]; exact (k7 _ _ _ _ _ _)) ?_
 refine a7 (w8 _ _) ?_
 refine a7 (Pu.g fun hb => by have d7 := hb; exact B2) ?_
 refine f2 (Ld.g fun hb => by have d7 := hb; simp only [i6 d7]; exact (ld1 Tryz.isAgg51 ((c0H.bring 1).at1 (o := 3) (vs := [(vs P2.k9)]) (nb rfl) rfl))) ?_
 refine a7 (Pu.g fun hb => by have d7 := hb; simp only [i6 d7]; exact (K0 _ _ _)) ?_
 refine a7 (Pu.g fun hb => by have d7 := hb; simp only [i6 d7]; exact (k7 _ _ _ _ _ _)) ?_
 refine a7 (w8 _ _) ?_
 refine a7 (Pu.g fun hb => by have d7 := hb; exact B2) ?_
 refine f2 (Ld.g fun hb => by have d7 := hb; simp only [i6 d7]; exact (ld1 Tryz.isAgg51 ((c0H.bring 1).at1 (o := 3) (vs := [(vs P2.k9)]) (nb rfl) rfl))) ?_
 obtain ⟨b0E, b6q, h⟩ := h
 obtain ⟨i9t, i9u, b6q⟩ := c6O b6q
 refine a7 (Pu.g fun hb => by have d7 := hb; simp only [i6 d7]; exact (G7 (b6q hb).2.2.1 _ _ _ _ (b6q hb).1 (b6q hb).2.1)) ?_
 refine a7 (Pu.g fun hb => by have d7 := hb; simp only [i6 d7]; exact U5) ?_
 refine f2 (Ld.g fun hb => by have d7 := hb; simp only [i6 d7]; exact (ld1 (v := (vi b0E.b6)) Tryz.isAgg3 ((c0H.atH (b6q hb).2.2.2).sub (k := 0) (n := 1) (nb rfl)))) ?_
 refine a7 (Pu.g fun hb => by have d7 := hb; simp only [i6 d7]; exact (k7 _ _ _ _ _ _)) ?_
 refine a7 (w8 _ _) ?_
 refine a7 (Pu.g fun hb => by have d7 := hb; exact B2) ?_
 refine f2 (Ld.g fun hb => by have d7 := hb; simp only [i6 d7]; exact (ld1 Tryz.isAgg51 ((c0H.bring 1).at1 (o := 3) (vs := [(vs P2.k9)]) (nb rfl) rfl))) ?_
 obtain ⟨d2n, c0I, h⟩ := h
 obtain ⟨j7Y, j7Z, c0I⟩ := c6O c0I
 refine a7 (Pu.g fun hb => by have d7 := hb; simp only [i6 d7]; exact (G7 (c0I hb).2.2.1 _ _ _ _ (c0I hb).1 (c0I hb).2.1)) ?_
 refine a7 (Pu.g fun hb => by have d7 := hb; simp only [i6 d7]; exact a6p) ?_
 refine f2 (Ld.g fun hb => by have d7 := hb; simp only [i6 d7]; exact (ld1 (v := (vi d2n.o6)) Tryz.isAgg2 ((c0H.atH (c0I hb).2.2.2).sub (k := 1) (n := 1) (nb rfl)))) ?_
 refine a7 (Pu.g fun hb => by have d7 := hb; simp only [i6 d7]; exact (k7 _ _ _ _ _ _)) ?_
 refine a7 (w8 _ _) ?_
 refine a7 (Pu.g fun hb => by have d7 := hb; exact a2X) ?_
 refine f2 (Ld.g fun hb => by have d7 := hb; simp only [i6 d7]; exact (ld1 Tryz.isAgg3 (c0H.at1 (o := 0) (vs := [(vi c0w.b6)]) (nb rfl) rfl))) ?_
 refine a7 (Pu.g fun hb => by have d7 := hb; simp only [i6 d7]; exact (k7 _ _ _ _ _ _)) ?_
 refine a7 (w8 _ _) ?_
 exact hR (((((((decide (b4T = 0)) && (decide (c7J = 0))) && (decide (P2.b6 = 8))) && (decide ((P2.k9.n : Int) = 2))) && (decide (b0E.b6 = 1))) && (decide (d2n.o6 = 3))) && (decide (c0w.b6 = 1))) c3e _ c0H.drop.drop h
theorem b7q {H : Hp} {K : Bool → Hp → Prop} (h : a3X H K) : a7b H K := by
 intro w I
 refine i8G ?_
 refine b6I I (fun r0 H' w' I' hk => ⟨H', _, I', r0, rfl, rfl, hk⟩) h
def a3v (k1x : Int) (j8a : (List d6)) (k1y : Sl) (c6D : (List d6)) (j8b : Sl) (j8c : Int) (j8d : Int) (j8e : Int) (i9G : Int) (j6b : d6) (i4h : d6) (H : Hp) (n2 : ((List d6) × Int) → Hp → Prop) (n5 : (Int × Int × ByteArray × Sl × Sl × Sl × Sl) → Hp → Prop) (K : Sl → Hp → Prop) : Prop :=
 ∀ (b0T : Sl) (c7K : Hp), Hle H c7K → SlH c7K 6 d9 b0T c6D → b0T.n ≤ b0T.c →
 n5 ((IntKind.wrap .i64 (i9G + 1)), 3, ⟨#[]⟩, (Sl.mk none 0 0), i4h.i4, b0T, (Sl.mk none 0 0)) c7K
def R1 (j2j : Int) (c7L : (List d6)) (c3V : Sl) (j8f : Int) (i9H : Int) (H : Hp) (n2 : ((List d6) × Int) → Hp → Prop) (K : Sl → Hp → Prop) : Prop :=
 n2 (c7L, (IntKind.wrap .i64 (i9H + 1))) H
def a3w (f3O : Int) (c0J : (List d6)) (i9I : Sl) (i9J : Int) (i9K : Int) (b2h : d6) (j6e : d6) (H : Hp) (n2 : ((List d6) × Int) → Hp → Prop) (K : Sl → Hp → Prop) : Prop :=
 (c0J.length + ([b2h] : List d6).length) * 121 ≤ 140737488355328 ∧
 R1 f3O (c0J ++ [b2h]) i9I i9J i9K H n2 K
def a0j (i4i : Int) (f9g : (List d6)) (b1c : Sl) (f9h : Sl) (f9i : Int) (f9j : Int) (e8y : Int) (f2z : d6) (b1i : Int) (F0 : Int) (F5 : ByteArray) (F6 : Sl) (F7 : Sl) (G1 : Sl) (G2 : Sl) (H : Hp) (n2 : ((List d6) × Int) → Hp → Prop) (n5 : (Int × Int × ByteArray × Sl × Sl × Sl × Sl) → Hp → Prop) (K : Sl → Hp → Prop) : Prop :=
 (b1i < e8y →
 ∃ b9S : List d6, SlH H 6 d9 b1c b9S ∧ (([] : List d6).length + b9S.length) * 121 ≤ 140737488355328 ∧
 (b9S.length + ([(d6.mk F0 F5 F6 F7 G1 G2)] : List d6).length) * 121 ≤ 140737488355328 ∧
 a3v i4i f9g b1c (b9S ++ [(d6.mk F0 F5 F6 F7 G1 G2)]) f9h f9i f9j e8y b1i (d6.mk F0 F5 F6 F7 G1 G2) f2z H n2 n5 K) ∧
 (¬ (b1i < e8y) →
 a3w i4i f9g f9h f9i f9j (d6.mk F0 F5 F6 F7 G1 G2) f2z H n2 K)
def a3x (C6 : (List d6)) (H : Hp) (K : Sl → Hp → Prop) : Prop :=
 ∀ (r7 : Sl) (c7M : Hp), Hle H c7M → SlH c7M 6 d9 r7 C6 → r7.n ≤ r7.c →
 K r7 c7M
def a3y (a9R : Int) (a5b : Sl) (d5v : Int) (m6 : (List d6)) (a4t : Int) (H : Hp) (n2 : ((List d6) × Int) → Hp → Prop) (K : Sl → Hp → Prop) : Prop :=
 (a4t < d5v →
 (0 : Int) ≤ a4t ∧ (a4t : Int) < a5b.n ∧ ∃ x_1 : d6, EltH H a5b a4t 6 (d9 x_1) ∧
 T1 x_1.A5 a9R H (fun (z7 : Sl) (c1i : Hp) =>
 T1 x_1.z6 a9R c1i (fun (A9 : Sl) (b1G : Hp) =>
 (¬ (x_1.b6 = 4) →
 (m6.length + ([(d6.mk x_1.b6 x_1.f6 x_1.f5 x_1.i4 z7 A9)] : List d6).length) * 121 ≤ 140737488355328 ∧
 R1 a9R (m6 ++ [(d6.mk x_1.b6 x_1.f6 x_1.f5 x_1.i4 z7 A9)]) a5b d5v a4t b1G n2 K) ∧
 (x_1.b6 = 4 →
 TL ((0, x_1.b6, x_1.f6, x_1.f5, x_1.i4, z7, A9) : Int × Int × ByteArray × Sl × Sl × Sl × Sl) b1G fun (s : Int × Int × ByteArray × Sl × Sl × Sl × Sl) H n5 => a0j a9R m6 z7 a5b d5v a4t a9R (d6.mk x_1.b6 x_1.f6 x_1.f5 x_1.i4 z7 A9) s.1 s.2.1 s.2.2.1 s.2.2.2.1 s.2.2.2.2.1 s.2.2.2.2.2.1 s.2.2.2.2.2.2 H n2 n5 K)))) ∧
 (¬ (a4t < d5v) →
 a3x m6 H K)
def a4u (x0 : Sl) (x1 : Int) (H : Hp) (K : Sl → Hp → Prop) : Prop :=
 TL (([], 0) : (List d6) × Int) H fun (s : (List d6) × Int) H n2 => a3y x1 x0 (x0.n : Int) s.1 s.2 H n2 K
theorem b7r (x0 : Sl) (x1 : Int) {K : Sl → Hp → Prop} (I : Inv w0 ps0 H0 H [] w) (hR : ∀ (r0 : Sl) (H' : Hp) (w' : World) (_ : Inv w0 ps0 H0 H' [] w') (_ : K r0 H'), R (vs r0) w') (h : a4u x0 x1 H K) : F26 (vs x0) (vi x1) w R E := by
 unfold a4u at h
 unfold F26
 have hj1 : ∀ (C6 : (List d6)) (r7 : Sl) (Fs5j1 : Frag) (H : Hp) (w : World) (_ : RowL 73 6 d9 r7 C6 Fs5j1) (_ : Inv w0 ps0 H0 H [Fs5j1] w) (_ : a3x C6 H K), e0L (vs r7) w R E := by
  intro C6 r7 Fs5j1 H w a6v I h
  unfold e0L
  intro _
  unfold a3x at h
  obtain ⟨c7M, i9L, i9M, i9N, i9O⟩ := Inv.freezeC I a6v (by decide)
  replace h := h r7 c7M i9M i9N i9O
  exact hR r7 c7M _ i9L h
 refine r9 fun j1 hx1 => ?_
 refine a7 (W8 _ _ _) ?_
 obtain ⟨e8z, d2o, i9P, i9Q⟩ := h
 refine A7 (J := fun n l w => ∃ (s : (List d6) × Int) (H : Hp) (B9 : Sl) (Fs5l2 : Frag) , n = d2o s ∧ l = (match s with | (m6, a4t) => [(vs B9), (vi a4t)]) ∧ (match s with | (m6, a4t) => RowL 73 6 d9 B9 m6 Fs5l2) ∧ (match s with | (m6, a4t) => Inv w0 ps0 H0 H [Fs5l2] w) ∧ e8z s H) ⟨_, ([], 0), H, (Sl.mk none 0 0), [], rfl, rfl, (RowL.nil U0 Z7), I.nil, i9P⟩ ?_
 rintro j8g τ_226 w next2 ⟨⟨m6, a4t⟩, H, B9, Fs5l2, rfl, e8A, Q2, I, i9R⟩ hn2
 dsimp only at e8A I Q2
 simp only [List.map_cons, List.map_nil, List.cons.injEq, and_true] at e8A
 obtain ⟨e5, e13⟩ := e8A
 simp only [e5, e13]
 obtain ⟨n2, hm2, h⟩ : ∃ n2 : ((List d6) × Int) → Hp → Prop, (∀ s' H', n2 s' H' → e8z s' H' ∧ d2o s' < d2o (m6, a4t)) ∧ a3y x1 x0 (x0.n : Int) m6 a4t H n2 K := ⟨_, fun _ _ h => h, i9Q (m6, a4t) H (fun s' H' => e8z s' H' ∧ d2o s' < d2o (m6, a4t)) i9R (fun _ _ a b => ⟨a, b⟩)⟩
 unfold f1Z
 unfold a3y at h
 refine a7 (v7 _ _ _ _ _ _) ?_
 refine k4 (fun e8B => ?_) (fun e8B => ?_)
 ·replace h := h.1 e8B
  have hj3 : ∀ (c7L : (List d6)) (d5w : Sl) (Fs5j3 : Frag) (H : Hp) (w : World) (_ : RowL 73 6 d9 d5w c7L Fs5j3) (_ : Inv w0 ps0 H0 H [Fs5j3] w) (_ : R1 x1 c7L x0 (x0.n : Int) a4t H n2 K), e0M (vi x1) (vs d5w) (vs x0) (vi (x0.n : Int)) (vi a4t) w next2 R E := by
   intro c7L d5w Fs5j3 H w i9S I h
   unfold e0M
   intro _
   unfold R1 at h
   refine a7 (u7 _ _ _ _ _ _) ?_
   exact hn2 _ _ _ (hm2 _ _ h).2 ⟨(c7L, (IntKind.wrap .i64 (a4t + 1))), H, d5w, Fs5j3, rfl, rfl, i9S, I, (hm2 _ _ h).1⟩
  refine r9 fun j3 hx3 => ?_
  obtain ⟨h_4, h_5, x_1, h_7, h⟩ := h
  obtain ⟨g_2, o_3, h_6, h_7⟩ := h_7
  refine a7 (a6W h_6 _ _ _ _ h_4 h_5) ?_
  refine f2 (ldA (vs := (d9 x_1)) Tryz.isAgg73 Tryz.sizeOf73 rfl (I.atH h_7)) ?_
  refine z8 I Tryz.zeroValue73 (cs := [(vi 0), (eS), (nS), (nS), (nS), (nS)]) rfl fun g_9 o9 a3G b3h => ?_
  refine m5 a3G Tryz.sizeOf73 (vs := (d9 x_1)) (cs' := (d9 x_1)) rfl rfl (nb rfl) rfl rfl fun a3F P1 a4W => ?_
  refine a3D P1 fun q8 b0q => ?_
  refine o7 U6 ?_
  refine o7 Z2 ?_
  refine y9 (ld1 Tryz.isAgg23 (b0q.at1 (o := 4) (vs := [(vs x_1.A5)]) (nb rfl) rfl)) ?_
  refine y9 (ld1 Tryz.isAgg23 (b0q.at1 (o := 5) (vs := [(vs x_1.z6)]) (nb rfl) rfl)) ?_
  refine f7 (cap := []) (fun args w => Tryz.call26 args w) ?_
  refine k8 (Fi := []) (Fr := [bx g_9 73 (d9 x_1), Fs5l2]) b0q (h) (fun h4X c1i h4Y X1 b0Y h4Z c3k d8K => ?_) (fun _ _ _ _ _ q => q.elim)
  obtain ⟨z7, rfl, rfl, h⟩ := d8K
  refine ⟨(c3k _ b0q.lt1 (Inv.a1t (Fi := []) b0q)), ?_⟩
  refine o7 U6 ?_
  refine f7 (cap := []) (fun args w => Tryz.call26 args w) ?_
  refine k8 (Fi := []) (Fr := [bx g_9 73 (d9 x_1), Fs5l2]) b0Y (h) (fun h5j b1G h5k B0 b9p e5D e5O d8T => ?_) (fun _ _ _ _ _ q => q.elim)
  obtain ⟨A9, rfl, rfl, h⟩ := d8T
  refine m5 b9p Tryz.sizeOf23 (vs := [(vs z7)]) (cs' := [(vi x_1.b6), (Value.string x_1.f6), (vs x_1.f5), (vs x_1.i4), (vs z7), (vs x_1.z6)]) rfl rfl (nb rfl) rfl rfl fun J6 f4A j3o => ?_
  refine o7 Z2 ?_
  refine m5 f4A Tryz.sizeOf23 (vs := [(vs A9)]) (cs' := [(vi x_1.b6), (Value.string x_1.f6), (vs x_1.f5), (vs x_1.i4), (vs z7), (vs A9)]) rfl rfl (nb rfl) rfl rfl fun b6R a6K h4M => ?_
  refine a7 a0F ?_
  refine f2 (ld1 Tryz.isAgg3 (a6K.at1 (o := 0) (vs := [(vi x_1.b6)]) (nb rfl) rfl)) ?_
  refine a7 (P9 _ _ _ _ _ _) ?_
  refine a5o (fun c4n => ?_) (fun c4n => ?_)
  ·replace h := h.1 c4n
   refine f2 (ldA Tryz.isAgg73 Tryz.sizeOf73 rfl (a6K.at1 (o := 0) (vs := [(vi x_1.b6), (Value.string x_1.f6), (vs x_1.f5), (vs x_1.i4), (vs z7), (vs A9)]) (nb rfl) rfl)) ?_
   refine a4b (e := 73) (c := d9) (xs := [(d6.mk x_1.b6 x_1.f6 x_1.f5 x_1.i4 z7 A9)]) a6K (b5t _ _ _ _ _ _ _ _ _ _ _ _ _ _) rfl rfl U0 Z7 (nb rfl) fun k1z j5l c2K b8Z b2J f7a => ?_
   obtain ⟨c1j, h⟩ := h
   refine b4b (s := B9) (xs := m6) (b2J.bring 2) Q2 (b8Z.srcO ((b2J.bring 2).bring 1)) c1j fun j5m j5n b4f b7e f7i j5o => ?_
   exact hx3 _ _ (hj3 (m6 ++ [(d6.mk x_1.b6 x_1.f6 x_1.f5 x_1.i4 z7 A9)]) j5m j5n b1G _ b7e ((f7i.bring 1).drop.bring 1).drop h)
  ·replace h := h.2 c4n
   refine a3D a6K fun P4 c5S => ?_
   refine o7 U6 ?_
   refine y9 (ldA Tryz.isAgg73 Tryz.sizeOf73 rfl (c5S.at1 (o := 0) (vs := [(vi x_1.b6), (Value.string x_1.f6), (vs x_1.f5), (vs x_1.i4), (vs z7), (vs A9)]) (nb rfl) rfl)) ?_
   refine y9 (ld1 Tryz.isAgg23 (c5S.at1 (o := 4) (vs := [(vs z7)]) (nb rfl) rfl)) ?_
   refine z8 c5S Tryz.zeroValue73 (cs := [(vi 0), (eS), (nS), (nS), (nS), (nS)]) rfl fun e1q S4 e1r f7j => ?_
   refine ⟨(f7j _ c5S.lt1), (f7j _ c5S.lt1), ?_⟩
   refine m5 e1r Tryz.sizeOf73 (vs := [(vi x_1.b6), (Value.string x_1.f6), (vs x_1.f5), (vs x_1.i4), (vs z7), (vs A9)]) (cs' := [(vi x_1.b6), (Value.string x_1.f6), (vs x_1.f5), (vs x_1.i4), (vs z7), (vs A9)]) rfl rfl (nb rfl) rfl rfl fun b4h e8C i4j => ?_
   refine ⟨(i4j _ (Inv.f3g ((e1r.bring 1).bring 1))), ?_⟩
   have hj4 : ∀ (c0J : (List d6)) (b2h : d6) (Fs5j4 : Frag) (H : Hp) (w : World) (_ : RowL 73 6 d9 B9 c0J Fs5j4) (_ : Inv w0 ps0 H0 H [bx e1q 73 (d9 b2h), bx g_9 73 [(vi (d6.mk x_1.b6 x_1.f6 x_1.f5 x_1.i4 z7 A9).b6), (Value.string (d6.mk x_1.b6 x_1.f6 x_1.f5 x_1.i4 z7 A9).f6), (Value.slice (d6.mk x_1.b6 x_1.f6 x_1.f5 x_1.i4 z7 A9).f5.a (d6.mk x_1.b6 x_1.f6 x_1.f5 x_1.i4 z7 A9).f5.n (d6.mk x_1.b6 x_1.f6 x_1.f5 x_1.i4 z7 A9).f5.c), (Value.slice (d6.mk x_1.b6 x_1.f6 x_1.f5 x_1.i4 z7 A9).i4.a (d6.mk x_1.b6 x_1.f6 x_1.f5 x_1.i4 z7 A9).i4.n (d6.mk x_1.b6 x_1.f6 x_1.f5 x_1.i4 z7 A9).i4.c), (Value.slice (d6.mk x_1.b6 x_1.f6 x_1.f5 x_1.i4 z7 A9).A5.a (d6.mk x_1.b6 x_1.f6 x_1.f5 x_1.i4 z7 A9).A5.n (d6.mk x_1.b6 x_1.f6 x_1.f5 x_1.i4 z7 A9).A5.c), (Value.slice (d6.mk x_1.b6 x_1.f6 x_1.f5 x_1.i4 z7 A9).z6.a (d6.mk x_1.b6 x_1.f6 x_1.f5 x_1.i4 z7 A9).z6.n (d6.mk x_1.b6 x_1.f6 x_1.f5 x_1.i4 z7 A9).z6.c)], Fs5j4] w) (_ : a3w x1 c0J x0 (x0.n : Int) a4t b2h (d6.mk x_1.b6 x_1.f6 x_1.f5 x_1.i4 z7 A9) H n2 K), e0N (vi x1) (vs B9) (Value.pointer (some ⟨e1q, 0, none⟩)) (vs x0) (vi (x0.n : Int)) (vi a4t) w j3 R E := by
    intro c0J b2h Fs5j4 H w i9T I h
    unfold e0N
    intro _
    unfold a3w at h
    refine f2 (ldA Tryz.isAgg73 Tryz.sizeOf73 rfl (I.at1 (o := 0) (vs := (d9 b2h)) (nb rfl) rfl)) ?_
    refine a4b (e := 73) (c := d9) (xs := [b2h]) I (b5t _ _ _ _ _ _ _ _ _ _ _ _ _ _) rfl rfl U0 Z7 (nb rfl) fun j8h i9U i9B b4F f9k j8i => ?_
    obtain ⟨e7Y, h⟩ := h
    refine b4b (s := B9) (xs := c0J) (f9k.bring 3) i9T (b4F.srcO ((f9k.bring 3).bring 1)) e7Y fun i9V i9W b2R i9X e4Q f7X => ?_
    exact hx3 _ _ (hj3 (c0J ++ [b2h]) i9V i9W H _ i9X (((e4Q.bring 1).drop.bring 1).drop.bring 1).drop h)
   refine r9 fun j4 hx4 => ?_
   obtain ⟨e8D, d2p, i9Y, i9Z⟩ := h
   refine A7 (J := fun n l w => ∃ (s : Int × Int × ByteArray × Sl × Sl × Sl × Sl) (H : Hp) , n = d2p s ∧ l = (match s with | (b1i, F0, F5, F6, F7, G1, G2) => [(vi b1i)]) ∧ (match s with | (b1i, F0, F5, F6, F7, G1, G2) => Inv w0 ps0 H0 H [bx e1q 73 [(vi F0), (Value.string F5), (vs F6), (vs F7), (vs G1), (vs G2)], bx g_9 73 [(vi (d6.mk x_1.b6 x_1.f6 x_1.f5 x_1.i4 z7 A9).b6), (Value.string (d6.mk x_1.b6 x_1.f6 x_1.f5 x_1.i4 z7 A9).f6), (Value.slice (d6.mk x_1.b6 x_1.f6 x_1.f5 x_1.i4 z7 A9).f5.a (d6.mk x_1.b6 x_1.f6 x_1.f5 x_1.i4 z7 A9).f5.n (d6.mk x_1.b6 x_1.f6 x_1.f5 x_1.i4 z7 A9).f5.c), (Value.slice (d6.mk x_1.b6 x_1.f6 x_1.f5 x_1.i4 z7 A9).i4.a (d6.mk x_1.b6 x_1.f6 x_1.f5 x_1.i4 z7 A9).i4.n (d6.mk x_1.b6 x_1.f6 x_1.f5 x_1.i4 z7 A9).i4.c), (Value.slice (d6.mk x_1.b6 x_1.f6 x_1.f5 x_1.i4 z7 A9).A5.a (d6.mk x_1.b6 x_1.f6 x_1.f5 x_1.i4 z7 A9).A5.n (d6.mk x_1.b6 x_1.f6 x_1.f5 x_1.i4 z7 A9).A5.c), (Value.slice (d6.mk x_1.b6 x_1.f6 x_1.f5 x_1.i4 z7 A9).z6.a (d6.mk x_1.b6 x_1.f6 x_1.f5 x_1.i4 z7 A9).z6.n (d6.mk x_1.b6 x_1.f6 x_1.f5 x_1.i4 z7 A9).z6.c)], Fs5l2] w) ∧ e8D s H) ⟨_, (0, x_1.b6, x_1.f6, x_1.f5, x_1.i4, z7, A9), b1G, rfl, rfl, (((e8C.bring 2).bring 2).bring 2), i9Y⟩ ?_
   rintro j8j τ_211 w next5 ⟨⟨b1i, F0, F5, F6, F7, G1, G2⟩, H, rfl, e8E, I, j0a⟩ hn5
   dsimp only at e8E I
   simp only [List.map_cons, List.map_nil, List.cons.injEq, and_true] at e8E
   have e38 := e8E
   simp only [e38]
   obtain ⟨n5, hm5, h⟩ : ∃ n5 : (Int × Int × ByteArray × Sl × Sl × Sl × Sl) → Hp → Prop, (∀ s' H', n5 s' H' → e8D s' H' ∧ d2p s' < d2p (b1i, F0, F5, F6, F7, G1, G2)) ∧ a0j x1 m6 z7 x0 (x0.n : Int) a4t x1 (d6.mk x_1.b6 x_1.f6 x_1.f5 x_1.i4 z7 A9) b1i F0 F5 F6 F7 G1 G2 H n2 n5 K := ⟨_, fun _ _ h => h, i9Z (b1i, F0, F5, F6, F7, G1, G2) H (fun s' H' => e8D s' H' ∧ d2p s' < d2p (b1i, F0, F5, F6, F7, G1, G2)) j0a (fun _ _ a b => ⟨a, b⟩)⟩
   unfold f1X
   unfold a0j at h
   refine a7 (v7 _ _ _ _ _ _) ?_
   refine k4 (fun e8F => ?_) (fun e8F => ?_)
   ·replace h := h.1 e8F
    have hj6 : ∀ (c6D : (List d6)) (b0T : Sl) (Fs10j6 : Frag) (H : Hp) (w : World) (_ : RowL 73 6 d9 b0T c6D Fs10j6) (_ : Inv w0 ps0 H0 H [bx e1q 73 [(vi (d6.mk F0 F5 F6 F7 G1 G2).b6), (Value.string (d6.mk F0 F5 F6 F7 G1 G2).f6), (Value.slice (d6.mk F0 F5 F6 F7 G1 G2).f5.a (d6.mk F0 F5 F6 F7 G1 G2).f5.n (d6.mk F0 F5 F6 F7 G1 G2).f5.c), (Value.slice (d6.mk F0 F5 F6 F7 G1 G2).i4.a (d6.mk F0 F5 F6 F7 G1 G2).i4.n (d6.mk F0 F5 F6 F7 G1 G2).i4.c), (Value.slice (d6.mk F0 F5 F6 F7 G1 G2).A5.a (d6.mk F0 F5 F6 F7 G1 G2).A5.n (d6.mk F0 F5 F6 F7 G1 G2).A5.c), (Value.slice (d6.mk F0 F5 F6 F7 G1 G2).z6.a (d6.mk F0 F5 F6 F7 G1 G2).z6.n (d6.mk F0 F5 F6 F7 G1 G2).z6.c)], bx g_9 73 [(vi (d6.mk x_1.b6 x_1.f6 x_1.f5 x_1.i4 z7 A9).b6), (Value.string (d6.mk x_1.b6 x_1.f6 x_1.f5 x_1.i4 z7 A9).f6), (Value.slice (d6.mk x_1.b6 x_1.f6 x_1.f5 x_1.i4 z7 A9).f5.a (d6.mk x_1.b6 x_1.f6 x_1.f5 x_1.i4 z7 A9).f5.n (d6.mk x_1.b6 x_1.f6 x_1.f5 x_1.i4 z7 A9).f5.c), (Value.slice (d6.mk x_1.b6 x_1.f6 x_1.f5 x_1.i4 z7 A9).i4.a (d6.mk x_1.b6 x_1.f6 x_1.f5 x_1.i4 z7 A9).i4.n (d6.mk x_1.b6 x_1.f6 x_1.f5 x_1.i4 z7 A9).i4.c), (Value.slice (d6.mk x_1.b6 x_1.f6 x_1.f5 x_1.i4 z7 A9).A5.a (d6.mk x_1.b6 x_1.f6 x_1.f5 x_1.i4 z7 A9).A5.n (d6.mk x_1.b6 x_1.f6 x_1.f5 x_1.i4 z7 A9).A5.c), (Value.slice (d6.mk x_1.b6 x_1.f6 x_1.f5 x_1.i4 z7 A9).z6.a (d6.mk x_1.b6 x_1.f6 x_1.f5 x_1.i4 z7 A9).z6.n (d6.mk x_1.b6 x_1.f6 x_1.f5 x_1.i4 z7 A9).z6.c)], Fs5l2, Fs10j6] w) (_ : a3v x1 m6 z7 c6D x0 (x0.n : Int) a4t x1 b1i (d6.mk F0 F5 F6 F7 G1 G2) (d6.mk x_1.b6 x_1.f6 x_1.f5 x_1.i4 z7 A9) H n2 n5 K), e0O (vi x1) (vs B9) (Value.pointer (some ⟨g_9, 0, none⟩)) (Value.pointer (some ⟨e1q, 0, none⟩)) (vs z7) (vs b0T) (vs x0) (vi (x0.n : Int)) (vi a4t) (vi x1) (vi b1i) w next5 R E := by
     intro c6D b0T Fs10j6 H w i4k I h
     unfold e0O
     intro _
     unfold a3v at h
     refine a7 R7 ?_
     refine f2 (ld1 Tryz.isAgg57 ((I.bring 1).at1 (o := 3) (vs := [(Value.slice (d6.mk x_1.b6 x_1.f6 x_1.f5 x_1.i4 z7 A9).i4.a (d6.mk x_1.b6 x_1.f6 x_1.f5 x_1.i4 z7 A9).i4.n (d6.mk x_1.b6 x_1.f6 x_1.f5 x_1.i4 z7 A9).i4.c)]) (nb rfl) rfl)) ?_
     refine a7 (d0q _ _ _ _ _ _ _) ?_
     refine m5 I Tryz.sizeOf73 (vs := [(vi 3), (eS), (nS), (Value.slice (d6.mk x_1.b6 x_1.f6 x_1.f5 x_1.i4 z7 A9).i4.a (d6.mk x_1.b6 x_1.f6 x_1.f5 x_1.i4 z7 A9).i4.n (d6.mk x_1.b6 x_1.f6 x_1.f5 x_1.i4 z7 A9).i4.c), (vs b0T), (nS)]) (cs' := [(vi 3), (eS), (nS), (Value.slice (d6.mk x_1.b6 x_1.f6 x_1.f5 x_1.i4 z7 A9).i4.a (d6.mk x_1.b6 x_1.f6 x_1.f5 x_1.i4 z7 A9).i4.n (d6.mk x_1.b6 x_1.f6 x_1.f5 x_1.i4 z7 A9).i4.c), (vs b0T), (nS)]) rfl rfl (nb rfl) rfl rfl fun f7Q j0b j8k => ?_
     refine a7 (u7 _ _ _ _ _ _) ?_
     obtain ⟨c7K, j0c, f8Z, j0d, j0e⟩ := Inv.freezeC (j0b.bring 3) i4k (by decide)
     replace h := h b0T c7K f8Z j0d j0e
     exact hn5 _ _ _ (hm5 _ _ h).2 ⟨((IntKind.wrap .i64 (b1i + 1)), 3, ⟨#[]⟩, (Sl.mk none 0 0), (d6.mk x_1.b6 x_1.f6 x_1.f5 x_1.i4 z7 A9).i4, b0T, (Sl.mk none 0 0)), c7K, rfl, rfl, (((j0c.bring 2).bring 2).bring 2), (hm5 _ _ h).1⟩
    refine r9 fun j6 hx6 => ?_
    refine a3D I fun j8l c7N => ?_
    refine y9 (ldA Tryz.isAgg73 Tryz.sizeOf73 rfl (c7N.at1 (o := 0) (vs := [(vi F0), (Value.string F5), (vs F6), (vs F7), (vs G1), (vs G2)]) (nb rfl) rfl)) ?_
    refine ⟨?_, ?_⟩
    ·obtain ⟨b9S, e8m, h⟩ := h
     obtain ⟨d5n, h⟩ := h
     refine b4b (s := ⟨none, 0, 0⟩) (xs := []) c7N.nil (RowL.nil U0 Z7) (SlH.src c7N.nil e8m U0) d5n fun j0f j8m b2S d5d j0g j0h => ?_
     simp only [List.nil_append] at d5d
     refine ⟨(j0h _ (c7N.nil.bring 1).lt1 (Inv.c2C ((c7N.nil.bring 1).bring 1))), ?_⟩
     refine a4b (e := 73) (c := d9) (xs := [(d6.mk F0 F5 F6 F7 G1 G2)]) j0g (b5t _ _ _ _ _ _ _ _ _ _ _ _ _ _) rfl rfl U0 Z7 (nb rfl) fun j8n i8y c7m e6I c0K j8o => ?_
     obtain ⟨d2q, h⟩ := h
     refine b4b (s := j0f) (xs := b9S) (c0K.bring 1) d5d (e6I.srcO ((c0K.bring 1).bring 1)) d2q fun j0i j0j c0C d2j j0k j8p => ?_
     exact hx6 _ _ (hj6 (b9S ++ [(d6.mk F0 F5 F6 F7 G1 G2)]) j0i j0j H _ d2j ((((j0k.bring 1).drop.bring 3).bring 3).bring 3) h)
    ·refine a4b (e := 73) (c := d9) (xs := [(d6.mk F0 F5 F6 F7 G1 G2)]) c7N (b5t _ _ _ _ _ _ _ _ _ _ _ _ _ _) rfl rfl U0 Z7 (nb rfl) fun j8q j8r f8i e8g d5x j8s => ?_
     obtain ⟨f2A, d1J, h⟩ := h
     obtain ⟨d1m, h⟩ := h
     refine b4b (s := ⟨none, 0, 0⟩) (xs := []) d5x.nil (RowL.nil U0 Z7) (SlH.src d5x.nil d1J U0) d1m fun d2r f9l f9m d5y d5z f9n => ?_
     simp only [List.nil_append] at d5y
     refine ⟨(f9n _ (d5x.nil.bring 2).lt1 (Inv.c2C ((d5x.nil.bring 2).bring 1))), ?_⟩
     obtain ⟨j0l, h⟩ := h
     refine b4b (s := d2r) (xs := f2A) d5z d5y (e8g.srcO (d5z.bring 1)) j0l fun j0m j0n f8l j0o e6P i8i => ?_
     exact hx6 _ _ (hj6 (f2A ++ [(d6.mk F0 F5 F6 F7 G1 G2)]) j0m j0n H _ j0o ((((e6P.bring 1).drop.bring 3).bring 3).bring 3) h)
   ·replace h := h.2 e8F
    exact hx4 _ _ (hj4 m6 (d6.mk F0 F5 F6 F7 G1 G2) Fs5l2 H _ Q2 (((I.bring 2).bring 2).bring 2) h)
 ·replace h := h.2 e8B
  exact hx1 _ _ (hj1 m6 B9 Fs5l2 H _ Q2 I h)
theorem b7Q (x0 : Sl) (x1 : Int) {H : Hp} {K : Sl → Hp → Prop} (h : a4u x0 x1 H K) : T1 x0 x1 H K := by
 intro w I
 refine i1q ?_
 refine b7r x0 x1 I (fun r0 H' w' I' hk => ⟨H', _, I', r0, rfl, rfl, hk⟩) h
def a5L (x0 : g7) (x1 : Int) (H : Hp) (K : g7 → Int → Hp → Prop) : Prop :=
 a8k x0 H (fun (m9 : Int) (Z0 : Hp) =>
 (¬ (m9 = 0) →
 K (g7.mk (Sl.mk none 0 0) (Sl.mk none 0 0)) m9 Z0) ∧
 (m9 = 0 →
 (((decide (x1 < 0)) || (decide (8 < x1))) = true →
 K (g7.mk (Sl.mk none 0 0) (Sl.mk none 0 0)) 290 Z0) ∧
 (((decide (x1 < 0)) || (decide (8 < x1))) = false →
 T1 x0.G3 x1 Z0 (fun (a2E : Sl) (b1b : Hp) =>
 b1s (g7.mk x0.r5 a2E) b1b (fun (a2f : g7) (d5A : Int) (a8z : Hp) =>
 K a2f d5A a8z)))))
theorem b9T (x0 : g7) (x1 : Int) {K : g7 → Int → Hp → Prop} (I : Inv w0 ps0 H0 H [] w) (hR : ∀ (r0 : g7) (r1 : Int) (H' : Hp) (w' : World) (_ : Inv w0 ps0 H0 H' [] w') (_ : K r0 r1 H'), R (Value.tuple #[(Value.agg (i5 r0).toArray), (vi r1)]) w') (h : a5L x0 x1 H K) : F9 (Value.agg (i5 x0).toArray) (vi x1) w R E := by
 unfold a5L at h
 unfold F9
 refine K6 I (cs := (i5 x0)) rfl fun g_2 w_3 I_4 k_5 => ?_
 refine z8 I_4 Tryz.zeroValue25 (cs := [(nS), (nS)]) rfl fun g_7 w_8 I_9 a9j => ?_
 refine f2 (ldA Tryz.isAgg25 Tryz.sizeOf25 rfl ((I_9.bring 1).at1 (o := 0) (vs := (i5 x0)) (nb rfl) rfl)) ?_
 refine f7 (cap := []) (fun args w => Tryz.call24 args w) ?_
 refine k8 (Fi := []) (Fr := [bx g_7 25 [(nS), (nS)], bx g_2 25 (i5 x0)]) I_9 (h) (fun c9l Z0 c9m p8 a6l c3J c9n b3u => ?_) (fun _ _ _ _ _ q => q.elim)
 obtain ⟨m9, rfl, rfl, h⟩ := b3u
 refine a7 (P9 _ _ _ _ _ _) ?_
 refine a5o (fun f7k => ?_) (fun f7k => ?_)
 ·replace h := h.1 f7k
  refine a7 (b3K ) ?_
  refine m5 a6l Tryz.sizeOf25 (vs := [(nS), (nS)]) (cs' := [(nS), (nS)]) rfl rfl (nb rfl) rfl rfl fun t8 a0f b3g => ?_
  refine J4 Tryz.isAgg25 Tryz.sizeOf25 rfl (a0f.at1 (o := 0) (vs := [(nS), (nS)]) (nb rfl) rfl) ?_
  exact hR (g7.mk (Sl.mk none 0 0) (Sl.mk none 0 0)) m9 Z0 _ a0f.drop.drop h
 ·replace h := h.2 f7k
  refine a7 (v7 _ _ _ _ _ _) ?_
  simp only [z2]
  refine a7 (Pu.g fun hb => by have d7 := hb; simp only [i6 d7]; exact (a7Q _ _ _ _ _ _)) ?_
  refine a7 (M4 _ _) ?_
  refine o2 (fun c9C => ?_) (fun c9C => ?_)
  ·replace h := h.1 c9C
   refine a7 (b3K ) ?_
   refine m5 a6l Tryz.sizeOf25 (vs := [(nS), (nS)]) (cs' := [(nS), (nS)]) rfl rfl (nb rfl) rfl rfl fun a6X a6k c9g => ?_
   refine J4 Tryz.isAgg25 Tryz.sizeOf25 rfl (a6k.at1 (o := 0) (vs := [(nS), (nS)]) (nb rfl) rfl) ?_
   exact hR (g7.mk (Sl.mk none 0 0) (Sl.mk none 0 0)) 290 Z0 _ a6k.drop.drop h
  ·replace h := h.2 c9C
   refine a3D a6l fun y8 b4H => ?_
   refine o7 Z1 ?_
   refine o7 a4J ?_
   refine y9 (ld1 Tryz.isAgg22 ((b4H.bring 1).at1 (o := 0) (vs := [(vs x0.r5)]) (nb rfl) rfl)) ?_
   refine y9 (ld1 Tryz.isAgg23 ((b4H.bring 1).at1 (o := 1) (vs := [(vs x0.G3)]) (nb rfl) rfl)) ?_
   refine f7 (cap := []) (fun args w => Tryz.call26 args w) ?_
   refine k8 (Fi := []) (Fr := [bx g_7 25 [(nS), (nS)], bx g_2 25 (i5 x0)]) b4H (h) (fun e6f b1b a9Q a6Y X3 c2R a9P f6k => ?_) (fun _ _ _ _ _ q => q.elim)
   obtain ⟨a2E, rfl, rfl, h⟩ := f6k
   refine ⟨(a9P _ (b4H.bring 1).lt1 (Inv.a1t (Fi := []) (b4H.bring 1))), ?_⟩
   refine o7 (b0O _ _ _ _ _ _) ?_
   refine f7 (cap := []) (fun args w => Tryz.call25 args w) ?_
   refine k8 (Fi := []) (Fr := [bx g_7 25 [(nS), (nS)], bx g_2 25 (i5 x0)]) X3 (h) (fun e6g a8z j4c C2 b3v d3D f6l f6m => ?_) (fun _ _ _ _ _ q => q.elim)
   obtain ⟨a2f, d5A, rfl, rfl, h⟩ := f6m
   refine o7 (r6 _ _ _ rfl) ?_
   refine o7 (r6 _ _ (vi d5A) rfl) ?_
   refine m5 b3v Tryz.sizeOf25 (vs := (i5 a2f)) (cs' := (i5 a2f)) rfl rfl (nb rfl) rfl rfl fun G8 b2J f7a => ?_
   refine J4 Tryz.isAgg25 Tryz.sizeOf25 rfl (b2J.at1 (o := 0) (vs := (i5 a2f)) (nb rfl) rfl) ?_
   exact hR a2f d5A a8z _ b2J.drop.drop h
theorem c0n (x0 : g7) (x1 : Int) {H : Hp} {K : g7 → Int → Hp → Prop} (h : a5L x0 x1 H K) : a8u x0 x1 H K := by
 intro w I
 refine i8I ?_
 refine b9T x0 x1 I (fun r0 r1 H' w' I' hk => ⟨H', _, I', r0, r1, rfl, rfl, hk⟩) h
def a2J (a4z : Int) (p9 : a8) (H : Hp) (K : Int → Hp → Prop) : Prop :=
 K a4z H
def a2K (S6 : a8) (a3I : Int) (O7 : Int) (H : Hp) (n2 : (Int × Int) → Hp → Prop) (K : Int → Hp → Prop) : Prop :=
 (O7 < (S6.k9.n : Int) →
 (0 : Int) ≤ O7 ∧ (O7 : Int) < S6.k9.n ∧ ∃ x_6 : a8, EltH H S6.k9 O7 4 (b8 x_6) ∧
 a1u x_6 H (fun (u5 : Int) (a1X : Hp) =>
 n2 ((IntKind.wrap .i64 (a3I + u5)), (IntKind.wrap .i64 (O7 + 1))) a1X)) ∧
 (¬ (O7 < (S6.k9.n : Int)) →
 a2J a3I S6 H K)
def a3Y (x0 : a8) (H : Hp) (K : Int → Hp → Prop) : Prop :=
 TL ((1, 0) : Int × Int) H fun (s : Int × Int) H n2 => a2K x0 s.1 s.2 H n2 K
theorem b6J (x0 : a8) {K : Int → Hp → Prop} (I : Inv w0 ps0 H0 H [] w) (hR : ∀ (r0 : Int) (H' : Hp) (w' : World) (_ : Inv w0 ps0 H0 H' [] w') (_ : K r0 H'), R (vi r0) w') (h : a3Y x0 H K) : F91 (Value.agg (b8 x0).toArray) w R E := by
 unfold a3Y at h
 unfold F91
 refine K6 I (cs := (b8 x0)) rfl fun g_2 w_3 I_4 k_5 => ?_
 have hj1 : ∀ (a4z : Int) (H : Hp) (w : World) (_ : Inv w0 ps0 H0 H [bx g_2 53 (b8 x0)] w) (_ : a2J a4z x0 H K), e1l (vi a4z) w R E := by
  intro a4z H w I h
  unfold e1l
  intro _
  unfold a2J at h
  exact hR a4z H _ I.drop h
 refine r9 fun j1 hx1 => ?_
 obtain ⟨f7l, e1s, j5p, j5q⟩ := h
 refine A7 (J := fun n l w => ∃ (s : Int × Int) (H : Hp) , n = e1s s ∧ l = (match s with | (a3I, O7) => [(vi a3I), (vi O7)]) ∧ (match s with | (a3I, O7) => Inv w0 ps0 H0 H [bx g_2 53 (b8 x0)] w) ∧ f7l s H) ⟨_, (1, 0), H, rfl, rfl, I_4, j5p⟩ ?_
 rintro k1A τ_28 w next2 ⟨⟨a3I, O7⟩, H, rfl, c3D, I, j5r⟩ hn2
 dsimp only at c3D I
 simp only [List.map_cons, List.map_nil, List.cons.injEq, and_true] at c3D
 obtain ⟨e3, e4⟩ := c3D
 simp only [e3, e4]
 obtain ⟨n2, hm2, h⟩ : ∃ n2 : (Int × Int) → Hp → Prop, (∀ s' H', n2 s' H' → f7l s' H' ∧ e1s s' < e1s (a3I, O7)) ∧ a2K x0 a3I O7 H n2 K := ⟨_, fun _ _ h => h, j5q (a3I, O7) H (fun s' H' => f7l s' H' ∧ e1s s' < e1s (a3I, O7)) j5r (fun _ _ a b => ⟨a, b⟩)⟩
 unfold f2x
 unfold a2K at h
 refine a7 B2 ?_
 refine f2 (ld1 Tryz.isAgg51 (I.at1 (o := 3) (vs := [(vs x0.k9)]) (nb rfl) rfl)) ?_
 refine a7 (K0 _ _ _) ?_
 refine a7 (v7 _ _ _ _ _ _) ?_
 refine k4 (fun b3z => ?_) (fun b3z => ?_)
 ·replace h := h.1 b3z
  refine a7 B2 ?_
  refine f2 (ld1 Tryz.isAgg51 (I.at1 (o := 3) (vs := [(vs x0.k9)]) (nb rfl) rfl)) ?_
  obtain ⟨h_9, b1F, x_6, b4S, h⟩ := h
  obtain ⟨g_7, o_8, c6x, b4S⟩ := b4S
  refine a7 (G7 c6x _ _ _ _ h_9 b1F) ?_
  refine f2 (ldA (vs := (b8 x_6)) Tryz.isAgg53 Tryz.sizeOf53 rfl (I.atH b4S)) ?_
  refine f7 (cap := []) (fun args w => Tryz.call91 args w) ?_
  refine k8 (Fi := []) (Fr := [bx g_2 53 (b8 x0)]) I (h) (fun e8t a1X e8u p6 b3m c6p b8S c4m => ?_) (fun _ _ _ _ _ q => q.elim)
  obtain ⟨u5, rfl, rfl, h⟩ := c4m
  refine a7 (u7 _ _ _ _ _ _) ?_
  refine a7 (u7 _ _ _ _ _ _) ?_
  exact hn2 _ _ _ (hm2 _ _ h).2 ⟨((IntKind.wrap .i64 (a3I + u5)), (IntKind.wrap .i64 (O7 + 1))), a1X, rfl, rfl, b3m, (hm2 _ _ h).1⟩
 ·replace h := h.2 b3z
  exact hx1 _ _ (hj1 a3I H _ I h)
theorem b7s (x0 : a8) {H : Hp} {K : Int → Hp → Prop} (h : a3Y x0 H K) : a1u x0 H K := by
 intro w I
 refine i3Z ?_
 refine b6J x0 I (fun r0 H' w' I' hk => ⟨H', _, I', r0, rfl, rfl, hk⟩) h
def a0m (b5U : Int) (O0 : b7) (H : Hp) (K : Int → Hp → Prop) : Prop :=
 K b5U H
def a0o (Q0 : b7) (b7t : Int) (T7 : Int) (H : Hp) (n3 : (Int × Int) → Hp → Prop) (K : Int → Hp → Prop) : Prop :=
 (T7 < (Q0.o3.n : Int) →
 (0 : Int) ≤ T7 ∧ (T7 : Int) < Q0.o3.n ∧ ∃ e8G : b7, EltH H Q0.o3 T7 4 (d8 e8G) ∧
 a2d e8G H (fun (a9D : Int) (b0v : Hp) =>
 n3 ((IntKind.wrap .i64 (b7t + a9D)), (IntKind.wrap .i64 (T7 + 1))) b0v)) ∧
 (¬ (T7 < (Q0.o3.n : Int)) →
 a0m b7t Q0 H K)
def a0p (a4z : Int) (p9 : b7) (H : Hp) (K : Int → Hp → Prop) : Prop :=
 TL ((a4z, 0) : Int × Int) H fun (s : Int × Int) H n3 => a0o p9 s.1 s.2 H n3 K
def a0q (K1 : b7) (a6m : Int) (V1 : Int) (H : Hp) (n4 : (Int × Int) → Hp → Prop) (K : Int → Hp → Prop) : Prop :=
 (V1 < (K1.f5.n : Int) →
 (0 : Int) ≤ V1 ∧ (V1 : Int) < K1.f5.n ∧ ∃ x_6 : a8, EltH H K1.f5 V1 4 (b8 x_6) ∧
 a1u x_6 H (fun (u5 : Int) (a1X : Hp) =>
 n4 ((IntKind.wrap .i64 (a6m + u5)), (IntKind.wrap .i64 (V1 + 1))) a1X)) ∧
 (¬ (V1 < (K1.f5.n : Int)) →
 a0p a6m K1 H K)
def a2h (x0 : b7) (H : Hp) (K : Int → Hp → Prop) : Prop :=
 TL ((1, 0) : Int × Int) H fun (s : Int × Int) H n4 => a0q x0 s.1 s.2 H n4 K
theorem b3Z (x0 : b7) {K : Int → Hp → Prop} (I : Inv w0 ps0 H0 H [] w) (hR : ∀ (r0 : Int) (H' : Hp) (w' : World) (_ : Inv w0 ps0 H0 H' [] w') (_ : K r0 H'), R (vi r0) w') (h : a2h x0 H K) : F89 (Value.agg (d8 x0).toArray) w R E := by
 unfold a2h at h
 unfold F89
 refine K6 I (cs := (d8 x0)) rfl fun g_2 w_3 I_4 k_5 => ?_
 have hj1 : ∀ (a4z : Int) (H : Hp) (w : World) (_ : Inv w0 ps0 H0 H [bx g_2 59 (d8 x0)] w) (_ : a0p a4z x0 H K), e1k (Value.pointer (some ⟨g_2, 0, none⟩)) (vi a4z) w R E := by
  intro a4z H w I h
  unfold e1k
  intro _
  unfold a0p at h
  have hj2 : ∀ (b5U : Int) (H : Hp) (w : World) (_ : Inv w0 ps0 H0 H [bx g_2 59 (d8 x0)] w) (_ : a0m b5U x0 H K), e1j (vi b5U) w R E := by
   intro b5U H w I h
   unfold e1j
   intro _
   unfold a0m at h
   exact hR b5U H _ I.drop h
  refine r9 fun j2 hx2 => ?_
  obtain ⟨f7m, e1t, j5s, j5t⟩ := h
  refine A7 (J := fun n l w => ∃ (s : Int × Int) (H : Hp) , n = e1t s ∧ l = (match s with | (b7t, T7) => [(vi b7t), (vi T7)]) ∧ (match s with | (b7t, T7) => Inv w0 ps0 H0 H [bx g_2 59 (d8 x0)] w) ∧ f7m s H) ⟨_, (a4z, 0), H, rfl, rfl, I, j5s⟩ ?_
  rintro k1B τ_44 w next3 ⟨⟨b7t, T7⟩, H, rfl, d8o, I, j5u⟩ hn3
  dsimp only at d8o I
  simp only [List.map_cons, List.map_nil, List.cons.injEq, and_true] at d8o
  obtain ⟨e3, e5⟩ := d8o
  simp only [e3, e5]
  obtain ⟨n3, hm3, h⟩ : ∃ n3 : (Int × Int) → Hp → Prop, (∀ s' H', n3 s' H' → f7m s' H' ∧ e1t s' < e1t (b7t, T7)) ∧ a0o x0 b7t T7 H n3 K := ⟨_, fun _ _ h => h, j5t (b7t, T7) H (fun s' H' => f7m s' H' ∧ e1t s' < e1t (b7t, T7)) j5u (fun _ _ a b => ⟨a, b⟩)⟩
  unfold f2v
  unfold a0o at h
  refine a7 M5 ?_
  refine f2 (ld1 Tryz.isAgg57 (I.at1 (o := 3) (vs := [(vs x0.o3)]) (nb rfl) rfl)) ?_
  refine a7 (V0 _ _ _) ?_
  refine a7 (v7 _ _ _ _ _ _) ?_
  refine k4 (fun c9O => ?_) (fun c9O => ?_)
  ·replace h := h.1 c9O
   refine a7 M5 ?_
   refine f2 (ld1 Tryz.isAgg57 (I.at1 (o := 3) (vs := [(vs x0.o3)]) (nb rfl) rfl)) ?_
   obtain ⟨b5R, a9m, e8G, e0x, h⟩ := h
   obtain ⟨h4G, k1C, f6N, e0x⟩ := e0x
   refine a7 (a1T f6N _ _ _ _ b5R a9m) ?_
   refine f2 (ldA (vs := (d8 e8G)) Tryz.isAgg59 Tryz.sizeOf59 rfl (I.atH e0x)) ?_
   refine f7 (cap := []) (fun args w => Tryz.call89 args w) ?_
   refine k8 (Fi := []) (Fr := [bx g_2 59 (d8 x0)]) I (h) (fun e5E b0v j3j C0 b4u c9o c8O f4x => ?_) (fun _ _ _ _ _ q => q.elim)
   obtain ⟨a9D, rfl, rfl, h⟩ := f4x
   refine a7 (u7 _ _ _ _ _ _) ?_
   refine a7 (u7 _ _ _ _ _ _) ?_
   exact hn3 _ _ _ (hm3 _ _ h).2 ⟨((IntKind.wrap .i64 (b7t + a9D)), (IntKind.wrap .i64 (T7 + 1))), b0v, rfl, rfl, b4u, (hm3 _ _ h).1⟩
  ·replace h := h.2 c9O
   exact hx2 _ _ (hj2 b7t H _ I h)
 refine r9 fun j1 hx1 => ?_
 obtain ⟨f7n, e1u, j5v, j5w⟩ := h
 refine A7 (J := fun n l w => ∃ (s : Int × Int) (H : Hp) , n = e1u s ∧ l = (match s with | (a6m, V1) => [(vi a6m), (vi V1)]) ∧ (match s with | (a6m, V1) => Inv w0 ps0 H0 H [bx g_2 59 (d8 x0)] w) ∧ f7n s H) ⟨_, (1, 0), H, rfl, rfl, I_4, j5v⟩ ?_
 rintro k1D τ_53 w next4 ⟨⟨a6m, V1⟩, H, rfl, d8A, I, j5x⟩ hn4
 dsimp only at d8A I
 simp only [List.map_cons, List.map_nil, List.cons.injEq, and_true] at d8A
 obtain ⟨e3, e4⟩ := d8A
 simp only [e3, e4]
 obtain ⟨n4, hm4, h⟩ : ∃ n4 : (Int × Int) → Hp → Prop, (∀ s' H', n4 s' H' → f7n s' H' ∧ e1u s' < e1u (a6m, V1)) ∧ a0q x0 a6m V1 H n4 K := ⟨_, fun _ _ h => h, j5w (a6m, V1) H (fun s' H' => f7n s' H' ∧ e1u s' < e1u (a6m, V1)) j5x (fun _ _ a b => ⟨a, b⟩)⟩
 unfold f2w
 unfold a0q at h
 refine a7 O4 ?_
 refine f2 (ld1 Tryz.isAgg51 (I.at1 (o := 2) (vs := [(vs x0.f5)]) (nb rfl) rfl)) ?_
 refine a7 (K0 _ _ _) ?_
 refine a7 (v7 _ _ _ _ _ _) ?_
 refine k4 (fun f7o => ?_) (fun f7o => ?_)
 ·replace h := h.1 f7o
  refine a7 O4 ?_
  refine f2 (ld1 Tryz.isAgg51 (I.at1 (o := 2) (vs := [(vs x0.f5)]) (nb rfl) rfl)) ?_
  obtain ⟨h_9, b1F, x_6, b4S, h⟩ := h
  obtain ⟨g_7, o_8, c6x, b4S⟩ := b4S
  refine a7 (G7 c6x _ _ _ _ h_9 b1F) ?_
  refine f2 (ldA (vs := (b8 x_6)) Tryz.isAgg53 Tryz.sizeOf53 rfl (I.atH b4S)) ?_
  refine f7 (cap := []) (fun args w => Tryz.call91 args w) ?_
  refine k8 (Fi := []) (Fr := [bx g_2 59 (d8 x0)]) I (h) (fun e8t a1X e8u p6 b3m c6p b8S c4m => ?_) (fun _ _ _ _ _ q => q.elim)
  obtain ⟨u5, rfl, rfl, h⟩ := c4m
  refine a7 (u7 _ _ _ _ _ _) ?_
  refine a7 (u7 _ _ _ _ _ _) ?_
  exact hn4 _ _ _ (hm4 _ _ h).2 ⟨((IntKind.wrap .i64 (a6m + u5)), (IntKind.wrap .i64 (V1 + 1))), a1X, rfl, rfl, b3m, (hm4 _ _ h).1⟩
 ·replace h := h.2 f7o
  exact hx1 _ _ (hj1 a6m H _ I h)
theorem b4W (x0 : b7) {H : Hp} {K : Int → Hp → Prop} (h : a2h x0 H K) : a2d x0 H K := by
 intro w I
 refine i3W ?_
 refine b3Z x0 I (fun r0 H' w' I' hk => ⟨H', _, I', r0, rfl, rfl, hk⟩) h
def N4 (a7F : Int) (a7G : ByteArray) (e8H : (List a8)) (e8I : (List b7)) (b4X : (List d6)) (e8J : (List d6)) (a0U : g9) (f2y : d6) (S7 : d6) (H : Hp) (K : d6 → g9 → Hp → Prop) : Prop :=
 ∀ (P7 : Sl) (d2s : Hp), Hle H d2s → SlH d2s 4 b8 P7 e8H → P7.n ≤ P7.c →
 ∀ (J9 : Sl) (d2t : Hp), Hle d2s d2t → SlH d2t 4 d8 J9 e8I → J9.n ≤ J9.c →
 ∀ (a2i : Sl) (d2u : Hp), Hle d2t d2u → SlH d2u 6 d9 a2i b4X → a2i.n ≤ a2i.c →
 ∀ (a4i : Sl) (c7O : Hp), Hle d2u c7O → SlH c7O 6 d9 a4i e8J → a4i.n ≤ a4i.c →
 K (d6.mk a7F a7G P7 J9 a2i a4i) a0U c7O
def V5 (d8G : Int) (a7H : Int) (a2P : ByteArray) (b0F : (List a8)) (b0G : (List b7)) (b6K : Sl) (b1M : Sl) (a5d : g9) (V4 : d6) (O0 : d6) (H : Hp) (K : d6 → g9 → Hp → Prop) : Prop :=
 R9 a5d O0.A5 H (fun (b9U : (List d6)) (e1v : g9) (f9o : Hp) =>
 R9 e1v O0.z6 f9o (fun (a8W : (List d6)) (b4Y : g9) (b6p : Hp) =>
 ((((decide (O0.b6 = 4)) && (decide (0 < d8G))) && (decide (0 ≤ b4Y.fleft))) = true →
 Z3 b4Y O0 (IntKind.wrap .i64 (d8G - 1)) b6p (fun (c6E : d6) (e1w : g9) (e8K : Hp) =>
 (b9U.length + ([c6E] : List d6).length) * 121 ≤ 140737488355328 ∧
 N4 3 a2P b0F b0G (b9U ++ [c6E]) a8W e1w V4 O0 e8K K)) ∧
 ((((decide (O0.b6 = 4)) && (decide (0 < d8G))) && (decide (0 ≤ b4Y.fleft))) = false →
 N4 a7H a2P b0F b0G b9U a8W b4Y V4 O0 b6p K)))
def V6 (f4k : Int) (e8L : (List b7)) (K1 : d6) (a2q : Int) (a1N : Int) (a1O : ByteArray) (a1q : (List a8)) (a1P : Sl) (a1Q : Sl) (L8 : g9) (I1 : d6) (H : Hp) (n4 : (Int × Int × ByteArray × (List a8) × Sl × Sl × g9 × d6) → Hp → Prop) (K : d6 → g9 → Hp → Prop) : Prop :=
 (a2q < (K1.f5.n : Int) →
 (0 : Int) ≤ a2q ∧ (a2q : Int) < K1.f5.n ∧ ∃ c7P : a8, EltH H K1.f5 a2q 4 (b8 c7P) ∧
 a1u c7P H (fun (c2w : Int) (f9p : Hp) =>
 a0d c7P f9p (fun (c6F : a8) (e8M : Hp) =>
 (a1q.length + ([c6F] : List a8).length) * 57 ≤ 140737488355328 ∧
 n4 ((IntKind.wrap .i64 (a2q + 1)), a1N, a1O, (a1q ++ [c6F]), a1P, a1Q, (g9.mk L8.fn (IntKind.wrap .i64 (L8.fleft - c2w))), I1) e8M))) ∧
 (¬ (a2q < (K1.f5.n : Int)) →
 V5 f4k a1N a1O a1q e8L a1P a1Q L8 I1 K1 H K)
def V7 (b2D : Int) (b3T : Int) (b3U : ByteArray) (b2i : (List a8)) (b0H : (List b7)) (b3V : Sl) (b3W : Sl) (K5 : g9) (m8 : d6) (p9 : d6) (H : Hp) (K : d6 → g9 → Hp → Prop) : Prop :=
 TL ((0, b3T, b3U, b2i, b3V, b3W, K5, m8) : Int × Int × ByteArray × (List a8) × Sl × Sl × g9 × d6) H fun (s : Int × Int × ByteArray × (List a8) × Sl × Sl × g9 × d6) H n4 => V6 b2D b0H p9 s.1 s.2.1 s.2.2.1 s.2.2.2.1 s.2.2.2.2.1 s.2.2.2.2.2.1 s.2.2.2.2.2.2.1 s.2.2.2.2.2.2.2 H n4 K
def V8 (e5d : Int) (a3B : d6) (a3H : Int) (a0x : Int) (a0y : ByteArray) (a2j : (List a8)) (Z4 : (List b7)) (a0z : Sl) (a0A : Sl) (B8 : g9) (a7i : d6) (H : Hp) (n5 : (Int × Int × ByteArray × (List a8) × (List b7) × Sl × Sl × g9 × d6) → Hp → Prop) (K : d6 → g9 → Hp → Prop) : Prop :=
 (a3H < (a3B.i4.n : Int) →
 (0 : Int) ≤ a3H ∧ (a3H : Int) < a3B.i4.n ∧ ∃ c7Q : b7, EltH H a3B.i4 a3H 4 (d8 c7Q) ∧
 a2d c7Q H (fun (c2x : Int) (f9q : Hp) =>
 a3f c7Q f9q (fun (c6G : b7) (e8N : Hp) =>
 (Z4.length + ([c6G] : List b7).length) * 65 ≤ 140737488355328 ∧
 n5 ((IntKind.wrap .i64 (a3H + 1)), a0x, a0y, a2j, (Z4 ++ [c6G]), a0z, a0A, (g9.mk B8.fn (IntKind.wrap .i64 (B8.fleft - c2x))), a7i) e8N))) ∧
 (¬ (a3H < (a3B.i4.n : Int)) →
 V7 e5d a0x a0y a2j Z4 a0z a0A B8 a7i a3B H K)
def Z5 (x0 : g9) (x1 : d6) (x2 : Int) (H : Hp) (K : d6 → g9 → Hp → Prop) : Prop :=
 TL ((0, x1.b6, x1.f6, [], [], (Sl.mk none 0 0), (Sl.mk none 0 0), (g9.mk x0.fn (IntKind.wrap .i64 (x0.fleft - 1))), (d6.mk 0 ⟨#[]⟩ (Sl.mk none 0 0) (Sl.mk none 0 0) (Sl.mk none 0 0) (Sl.mk none 0 0))) : Int × Int × ByteArray × (List a8) × (List b7) × Sl × Sl × g9 × d6) H fun (s : Int × Int × ByteArray × (List a8) × (List b7) × Sl × Sl × g9 × d6) H n5 => V8 x2 x1 s.1 s.2.1 s.2.2.1 s.2.2.2.1 s.2.2.2.2.1 s.2.2.2.2.2.1 s.2.2.2.2.2.2.1 s.2.2.2.2.2.2.2.1 s.2.2.2.2.2.2.2.2 H n5 K
theorem b2j (x0 : g9) (x1 : d6) (x2 : Int) (g0 : Nat) {K : d6 → g9 → Hp → Prop} (I : Inv w0 ps0 H0 H [bx g0 67 (q9 x0)] w) (hR : ∀ (r0 : d6) (y0 : g9) (H' : Hp) (w' : World) (_ : Inv w0 ps0 H0 H' [bx g0 67 (q9 y0)] w') (_ : K r0 y0 H'), R (Value.agg (d9 r0).toArray) w') (h : Z5 x0 x1 x2 H K) : F51 (Value.pointer (some ⟨g0, 0, none⟩)) (Value.agg (d9 x1).toArray) (vi x2) w R E := by
 unfold Z5 at h
 unfold F51
 refine K6 I (cs := (d9 x1)) rfl fun g_2 w_3 I_4 k_5 => ?_
 refine z8 I_4 Tryz.zeroValue73 (cs := [(vi 0), (eS), (nS), (nS), (nS), (nS)]) rfl fun g_7 w_8 I_9 a9j => ?_
 refine a7 (w7 _) ?_
 refine a7 a7j ?_
 refine f2 (ld1 Tryz.isAgg3 ((I_9.bring 2).at1 (o := 1) (vs := [(vi x0.fleft)]) (nb rfl) rfl)) ?_
 refine a7 (b0N _ _ _ _ _ _) ?_
 refine a7 (w7 _) ?_
 refine a7 a7j ?_
 refine m5 (I_9.bring 2) Tryz.sizeOf3 (vs := [(vi (IntKind.wrap .i64 (x0.fleft - 1)))]) (cs' := [(vi x0.fn), (vi (IntKind.wrap .i64 (x0.fleft - 1)))]) rfl rfl (nb rfl) rfl rfl fun S5 B1 b6V => ?_
 refine a7 a0F ?_
 refine f2 (ld1 Tryz.isAgg3 ((B1.bring 2).at1 (o := 0) (vs := [(vi x1.b6)]) (nb rfl) rfl)) ?_
 refine a7 a8J ?_
 refine f2 (ld1 Tryz.isAgg9 ((B1.bring 2).at1 (o := 1) (vs := [(Value.string x1.f6)]) (nb rfl) rfl)) ?_
 refine a7 (d4B _ _) ?_
 refine z8 B1 Tryz.zeroValue73 (cs := [(vi 0), (eS), (nS), (nS), (nS), (nS)]) rfl fun a7d q8 b0q d7U => ?_
 refine m5 b0q Tryz.sizeOf73 (vs := [(vi x1.b6), (Value.string x1.f6), (nS), (nS), (nS), (nS)]) (cs' := [(vi x1.b6), (Value.string x1.f6), (nS), (nS), (nS), (nS)]) rfl rfl (nb rfl) rfl rfl fun X1 b0Y c3k => ?_
 have hj1 : ∀ (b3T : Int) (b3U : ByteArray) (b2i : (List a8)) (b0H : (List b7)) (b3V : Sl) (b3W : Sl) (K5 : g9) (m8 : d6) (b7R : Sl) (Fcr_14j1_2 : Frag) (J9 : Sl) (Fcr_14j1_3 : Frag) (H : Hp) (w : World) (_ : RowL 53 4 b8 b7R b2i Fcr_14j1_2) (_ : RowL 59 4 d8 J9 b0H Fcr_14j1_3) (_ : Inv w0 ps0 H0 H [bx a7d 73 [(vi b3T), (Value.string b3U), (vs b7R), (vs J9), (vs b3V), (vs b3W)], bx g0 67 (q9 K5), bx g_7 73 (d9 m8), bx g_2 73 (d9 x1), Fcr_14j1_2, Fcr_14j1_3] w) (_ : V7 x2 b3T b3U b2i b0H b3V b3W K5 m8 x1 H K), e1c (Value.pointer (some ⟨g0, 0, none⟩)) (vi x2) (Value.pointer (some ⟨g_2, 0, none⟩)) (Value.pointer (some ⟨g_7, 0, none⟩)) (Value.pointer (some ⟨a7d, 0, none⟩)) w R E := by
  intro b3T b3U b2i b0H b3V b3W K5 m8 b7R Fcr_14j1_2 J9 Fcr_14j1_3 H w e8O e8P I h
  unfold e1c
  intro _
  unfold V7 at h
  have hj2 : ∀ (a7H : Int) (a2P : ByteArray) (b0F : (List a8)) (b0G : (List b7)) (b6K : Sl) (b1M : Sl) (a5d : g9) (V4 : d6) (P7 : Sl) (Fcr_14j2_2 : Frag) (Fcr_14j2_3 : Frag) (H : Hp) (w : World) (_ : RowL 53 4 b8 P7 b0F Fcr_14j2_2) (_ : RowL 59 4 d8 J9 b0G Fcr_14j2_3) (_ : Inv w0 ps0 H0 H [bx a7d 73 [(vi a7H), (Value.string a2P), (vs P7), (vs J9), (vs b6K), (vs b1M)], bx g0 67 (q9 a5d), bx g_7 73 (d9 V4), bx g_2 73 (d9 x1), Fcr_14j2_2, Fcr_14j2_3] w) (_ : V5 x2 a7H a2P b0F b0G b6K b1M a5d V4 x1 H K), e1a (Value.pointer (some ⟨g0, 0, none⟩)) (vi x2) (Value.pointer (some ⟨g_2, 0, none⟩)) (Value.pointer (some ⟨g_7, 0, none⟩)) (Value.pointer (some ⟨a7d, 0, none⟩)) w R E := by
   intro a7H a2P b0F b0G b6K b1M a5d V4 P7 Fcr_14j2_2 Fcr_14j2_3 H w e8Q e8R I h
   unfold e1a
   intro _
   unfold V5 at h
   refine a7 U6 ?_
   refine f2 (ld1 Tryz.isAgg23 ((I.bring 3).at1 (o := 4) (vs := [(vs x1.A5)]) (nb rfl) rfl)) ?_
   refine f7 (cap := []) (fun args w => Tryz.call28 args w) ?_
   refine k8 (Fi := [bx g0 67 (q9 a5d)]) (Fr := [bx a7d 73 [(vi a7H), (Value.string a2P), (vs P7), (vs J9), (vs b6K), (vs b1M)], bx g_7 73 (d9 V4), bx g_2 73 (d9 x1), Fcr_14j2_2, Fcr_14j2_3]) (I.bring 1) (h g0) (fun j8t f9o j8u d1Z d5u j8v i9E j0p => ?_) (fun _ _ _ _ _ q => q.elim)
   obtain ⟨b9U, e1v, b2k, d3W, rfl, rfl, e3l, h⟩ := j0p
   refine a7 U6 ?_
   refine m5 (d5u.bring 2) Tryz.sizeOf23 (vs := [(vs b2k)]) (cs' := [(vi a7H), (Value.string a2P), (vs P7), (vs J9), (vs b2k), (vs b1M)]) rfl rfl (nb rfl) rfl rfl fun a9u d2h i9g => ?_
   refine a7 Z2 ?_
   refine f2 (ld1 Tryz.isAgg23 ((d2h.bring 4).at1 (o := 5) (vs := [(vs x1.z6)]) (nb rfl) rfl)) ?_
   refine f7 (cap := []) (fun args w => Tryz.call28 args w) ?_
   refine k8 (Fi := [bx g0 67 (q9 e1v)]) (Fr := [bx a7d 73 [(vi a7H), (Value.string a2P), (vs P7), (vs J9), (vs b2k), (vs b1M)], d3W, bx g_7 73 (d9 V4), bx g_2 73 (d9 x1), Fcr_14j2_2, Fcr_14j2_3]) (d2h.bring 1) (h g0) (fun i9h b6p i9i a9q d5m i9j i9k e7Z => ?_) (fun _ _ _ _ _ q => q.elim)
   obtain ⟨a8W, b4Y, a4i, e3m, rfl, rfl, g6I, h⟩ := e7Z
   refine a7 Z2 ?_
   refine m5 (d5m.bring 2) Tryz.sizeOf23 (vs := [(vs a4i)]) (cs' := [(vi a7H), (Value.string a2P), (vs P7), (vs J9), (vs b2k), (vs a4i)]) rfl rfl (nb rfl) rfl rfl fun d0w c7w i8z => ?_
   have hj3 : ∀ (a7F : Int) (a7G : ByteArray) (b4X : (List d6)) (a0U : g9) (a2i : Sl) (Fcr_14j3_4 : Frag) (H : Hp) (w : World) (_ : RowL 73 6 d9 a2i b4X Fcr_14j3_4) (_ : Inv w0 ps0 H0 H [bx a7d 73 [(vi a7F), (Value.string a7G), (vs P7), (vs J9), (vs a2i), (vs a4i)], bx g0 67 (q9 a0U), bx g_7 73 (d9 V4), bx g_2 73 (d9 x1), Fcr_14j2_2, Fcr_14j2_3, e3m, Fcr_14j3_4] w) (_ : N4 a7F a7G b0F b0G b4X a8W a0U V4 x1 H K), e0Z (Value.pointer (some ⟨g_7, 0, none⟩)) (Value.pointer (some ⟨a7d, 0, none⟩)) w R E := by
    intro a7F a7G b4X a0U a2i Fcr_14j3_4 H w e8S I h
    unfold e0Z
    intro _
    unfold N4 at h
    refine f2 (ldA Tryz.isAgg73 Tryz.sizeOf73 rfl (I.at1 (o := 0) (vs := [(vi a7F), (Value.string a7G), (vs P7), (vs J9), (vs a2i), (vs a4i)]) (nb rfl) rfl)) ?_
    refine m5 (I.bring 2) Tryz.sizeOf73 (vs := [(vi a7F), (Value.string a7G), (vs P7), (vs J9), (vs a2i), (vs a4i)]) (cs' := [(vi a7F), (Value.string a7G), (vs P7), (vs J9), (vs a2i), (vs a4i)]) rfl rfl (nb rfl) rfl rfl fun f9m f9r j8w => ?_
    refine J4 Tryz.isAgg73 Tryz.sizeOf73 rfl (f9r.at1 (o := 0) (vs := [(vi a7F), (Value.string a7G), (vs P7), (vs J9), (vs a2i), (vs a4i)]) (nb rfl) rfl) ?_
    obtain ⟨d2s, j0q, j0r, d1J, e6O⟩ := Inv.freezeC (f9r.bring 4) e8Q (by decide)
    replace h := h P7 d2s j0r d1J e6O
    obtain ⟨d2t, j0s, j0t, j0u, j0v⟩ := Inv.freezeC (j0q.bring 4) e8R (by decide)
    replace h := h J9 d2t j0t j0u j0v
    obtain ⟨d2u, j0w, d2v, j0x, j0y⟩ := Inv.freezeC (j0s.bring 5) e8S (by decide)
    replace h := h a2i d2u d2v j0x j0y
    obtain ⟨c7O, j0z, j0A, j0B, j0C⟩ := Inv.freezeC (j0w.bring 4) g6I (by decide)
    replace h := h a4i c7O j0A j0B j0C
    exact hR (d6.mk a7F a7G P7 J9 a2i a4i) a0U c7O _ (j0z.drop.drop.bring 1).drop h
   refine r9 fun j3 hx3 => ?_
   refine a7 a0F ?_
   refine f2 (ld1 Tryz.isAgg3 ((c7w.bring 5).at1 (o := 0) (vs := [(vi x1.b6)]) (nb rfl) rfl)) ?_
   refine a7 (k7 _ _ _ _ _ _) ?_
   simp only [z2]
   refine a7 (Pu.g fun hb => by have d7 := hb; simp only [i6 d7]; exact (a7Q _ _ _ _ _ _)) ?_
   refine a7 (w8 _ _) ?_
   simp only [z2]
   refine a7 (Pu.g fun hb => by have d7 := hb; simp only [i6 d7]; exact (w7 _)) ?_
   refine a7 (Pu.g fun hb => by have d7 := hb; simp only [i6 d7]; exact a7j) ?_
   refine f2 (Ld.g fun hb => by have d7 := hb; simp only [i6 d7]; exact (ld1 Tryz.isAgg3 ((c7w.bring 1).at1 (o := 1) (vs := [(vi b4Y.fleft)]) (nb rfl) rfl))) ?_
   refine a7 (Pu.g fun hb => by have d7 := hb; simp only [i6 d7]; exact (a7e _ _ _ _ _ _)) ?_
   refine a7 (w8 _ _) ?_
   refine o2 (fun c4n => ?_) (fun c4n => ?_)
   ·replace h := h.1 c4n
    refine a7 a0F ?_
    refine m5 c7w Tryz.sizeOf3 (vs := [(vi 3)]) (cs' := [(vi 3), (Value.string a2P), (vs P7), (vs J9), (vs b2k), (vs a4i)]) rfl rfl (nb rfl) rfl rfl fun f8e j0D j8x => ?_
    refine a3D j0D fun e3M c0K => ?_
    refine o7 U6 ?_
    refine o7 (b0N _ _ _ _ _ _) ?_
    refine y9 (ld1 Tryz.isAgg23 (c0K.at1 (o := 4) (vs := [(vs b2k)]) (nb rfl) rfl)) ?_
    refine y9 (ldA Tryz.isAgg73 Tryz.sizeOf73 rfl ((c0K.bring 5).at1 (o := 0) (vs := (d9 x1)) (nb rfl) rfl)) ?_
    refine f7 (cap := []) (fun args w => Tryz.call51 args w) ?_
    refine k8 (Fi := [bx g0 67 (q9 b4Y)]) (Fr := [bx a7d 73 [(vi 3), (Value.string a2P), (vs P7), (vs J9), (vs b2k), (vs a4i)], e3m, d3W, bx g_7 73 (d9 V4), bx g_2 73 (d9 x1), Fcr_14j2_2, Fcr_14j2_3]) (c0K.bring 1) (h g0) (fun j8y e8K j8z f8f f9s d5c j0E j0F => ?_) (fun _ _ _ _ _ q => q.elim)
    obtain ⟨c6E, e1w, rfl, rfl, h⟩ := j0F
    refine ⟨(j0E _ c0K.lt1 (Inv.a1t (Fi := [bx g0 67 (q9 b4Y)]) (c0K.bring 1))), ?_⟩
    refine a4b (e := 73) (c := d9) (xs := [c6E]) f9s (b5t _ _ _ _ _ _ _ _ _ _ _ _ _ _) rfl rfl U0 Z7 (nb rfl) fun j8A i9o j8B j0G f9t j0H => ?_
    refine ⟨(j0H _ (f9s.bring 1).lt1), ?_⟩
    obtain ⟨j0I, h⟩ := h
    refine b4b (s := b2k) (xs := b9U) (f9t.bring 4) e3l (j0G.srcO ((f9t.bring 4).bring 1)) j0I fun e8T j0J e7L e8f j0K j8C => ?_
    refine o7 U6 ?_
    refine m5 ((j0K.bring 1).drop.bring 2) Tryz.sizeOf23 (vs := [(vs e8T)]) (cs' := [(vi 3), (Value.string a2P), (vs P7), (vs J9), (vs e8T), (vs a4i)]) rfl rfl (nb rfl) rfl rfl fun f8j j0L j8D => ?_
    exact hx3 _ _ (hj3 3 a2P (b9U ++ [c6E]) e1w e8T j0J e8K _ e8f ((((((((j0L.bring 1).bring 3).bring 7).bring 7).bring 7).bring 7).bring 7).bring 7) h)
   ·replace h := h.2 c4n
    exact hx3 _ _ (hj3 a7H a2P b9U b4Y b2k d3W b6p _ e3l ((((((((c7w.bring 3).bring 3).bring 7).bring 7).bring 7).bring 7).bring 7).bring 7) h)
  refine r9 fun j2 hx2 => ?_
  obtain ⟨e8U, d2w, j0M, j0N⟩ := h
  refine A7 (J := fun n l w => ∃ (s : Int × Int × ByteArray × (List a8) × Sl × Sl × g9 × d6) (H : Hp) (a8X : Sl) (Fcr_14l4_2 : Frag) , n = d2w s ∧ l = (match s with | (a2q, a1N, a1O, a1q, a1P, a1Q, L8, I1) => [(vi a2q)]) ∧ (match s with | (a2q, a1N, a1O, a1q, a1P, a1Q, L8, I1) => RowL 53 4 b8 a8X a1q Fcr_14l4_2) ∧ (match s with | (a2q, a1N, a1O, a1q, a1P, a1Q, L8, I1) => Inv w0 ps0 H0 H [bx a7d 73 [(vi a1N), (Value.string a1O), (vs a8X), (vs J9), (vs a1P), (vs a1Q)], bx g0 67 (q9 L8), bx g_7 73 (d9 I1), bx g_2 73 (d9 x1), Fcr_14j1_3, Fcr_14l4_2] w) ∧ e8U s H) ⟨_, (0, b3T, b3U, b2i, b3V, b3W, K5, m8), H, b7R, Fcr_14j1_2, rfl, rfl, e8O, ((((((I.bring 4).bring 5).bring 5).bring 5).bring 5).bring 5), j0M⟩ ?_
  rintro j8E τ_286 w next4 ⟨⟨a2q, a1N, a1O, a1q, a1P, a1Q, L8, I1⟩, H, a8X, Fcr_14l4_2, rfl, e8V, c4o, I, j0O⟩ hn4
  dsimp only at e8V I c4o
  simp only [List.map_cons, List.map_nil, List.cons.injEq, and_true] at e8V
  have e9 := e8V
  simp only [e9]
  obtain ⟨n4, hm4, h⟩ : ∃ n4 : (Int × Int × ByteArray × (List a8) × Sl × Sl × g9 × d6) → Hp → Prop, (∀ s' H', n4 s' H' → e8U s' H' ∧ d2w s' < d2w (a2q, a1N, a1O, a1q, a1P, a1Q, L8, I1)) ∧ V6 x2 b0H x1 a2q a1N a1O a1q a1P a1Q L8 I1 H n4 K := ⟨_, fun _ _ h => h, j0N (a2q, a1N, a1O, a1q, a1P, a1Q, L8, I1) H (fun s' H' => e8U s' H' ∧ d2w s' < d2w (a2q, a1N, a1O, a1q, a1P, a1Q, L8, I1)) j0O (fun _ _ a b => ⟨a, b⟩)⟩
  unfold f2i
  unfold V6 at h
  refine a7 S9 ?_
  refine f2 (ld1 Tryz.isAgg51 ((I.bring 3).at1 (o := 2) (vs := [(vs x1.f5)]) (nb rfl) rfl)) ?_
  refine a7 (K0 _ _ _) ?_
  refine a7 (v7 _ _ _ _ _ _) ?_
  refine k4 (fun e8W => ?_) (fun e8W => ?_)
  ·replace h := h.1 e8W
   refine a3D I fun f8o c7R => ?_
   refine o7 (w7 _) ?_
   refine o7 a7j ?_
   refine o7 S9 ?_
   refine y9 (ld1 Tryz.isAgg3 ((c7R.bring 1).at1 (o := 1) (vs := [(vi L8.fleft)]) (nb rfl) rfl)) ?_
   refine y9 (ld1 Tryz.isAgg51 ((c7R.bring 3).at1 (o := 2) (vs := [(vs x1.f5)]) (nb rfl) rfl)) ?_
   obtain ⟨f9u, f9v, c7P, d5B, h⟩ := h
   obtain ⟨j8F, j8G, f9w, d5B⟩ := d5B
   refine o7 (G7 f9w _ _ _ _ f9u f9v) ?_
   refine y9 (ldA (vs := (b8 c7P)) Tryz.isAgg53 Tryz.sizeOf53 rfl (c7R.atH d5B)) ?_
   refine f7 (cap := []) (fun args w => Tryz.call91 args w) ?_
   refine k8 (Fi := []) (Fr := [bx a7d 73 [(vi a1N), (Value.string a1O), (vs a8X), (vs J9), (vs a1P), (vs a1Q)], bx g0 67 (q9 L8), bx g_7 73 (d9 I1), bx g_2 73 (d9 x1), Fcr_14j1_3, Fcr_14l4_2]) c7R (h) (fun j8H f9p j8I e5X j0P j0Q j0R j0S => ?_) (fun _ _ _ _ _ q => q.elim)
   obtain ⟨c2w, rfl, rfl, h⟩ := j0S
   refine ⟨(j0R _ (c7R.bring 1).lt1 (Inv.a1t (Fi := []) (c7R.bring 1))), ?_⟩
   refine o7 (b0N _ _ _ _ _ _) ?_
   refine o7 (w7 _) ?_
   refine o7 a7j ?_
   refine m5 (j0P.bring 1) Tryz.sizeOf3 (vs := [(vi (IntKind.wrap .i64 (L8.fleft - c2w)))]) (cs' := [(vi L8.fn), (vi (IntKind.wrap .i64 (L8.fleft - c2w)))]) rfl rfl (nb rfl) rfl rfl fun f8q j0T j8J => ?_
   refine a3D j0T fun j8K c7S => ?_
   refine o7 S9 ?_
   refine o7 S9 ?_
   refine y9 (ld1 Tryz.isAgg51 ((c7S.bring 1).at1 (o := 2) (vs := [(vs a8X)]) (nb rfl) rfl)) ?_
   refine y9 (ld1 Tryz.isAgg51 ((c7S.bring 3).at1 (o := 2) (vs := [(vs x1.f5)]) (nb rfl) rfl)) ?_
   refine o7 (G7 f9w _ _ _ _ f9u f9v) ?_
   refine y9 (ldA (vs := (b8 c7P)) Tryz.isAgg53 Tryz.sizeOf53 rfl (c7S.atH (d5B.le j0Q))) ?_
   refine f7 (cap := []) (fun args w => Tryz.call92 args w) ?_
   refine k8 (Fi := []) (Fr := [bx g0 67 [(vi L8.fn), (vi (IntKind.wrap .i64 (L8.fleft - c2w)))], bx a7d 73 [(vi a1N), (Value.string a1O), (vs a8X), (vs J9), (vs a1P), (vs a1Q)], bx g_7 73 (d9 I1), bx g_2 73 (d9 x1), Fcr_14j1_3, Fcr_14l4_2]) c7S (h) (fun j8L e8M j8M j8N f9x j8O j0U j0V => ?_) (fun _ _ _ _ _ q => q.elim)
   obtain ⟨c6F, rfl, rfl, h⟩ := j0V
   refine ⟨(j0U _ (c7S.bring 1).lt1 (Inv.a1t (Fi := []) (c7S.bring 1))), ?_⟩
   refine a4b (e := 53) (c := b8) (xs := [c6F]) f9x (b7V _ _ _ _ _ _) rfl rfl T8 T9 (nb rfl) fun j8P j8Q j8R j0W f9y j0X => ?_
   refine ⟨(j0X _ (f9x.bring 1).lt1), ?_⟩
   obtain ⟨j0Y, h⟩ := h
   refine c4O (s := a8X) (xs := a1q) (f9y.bring 6) c4o (j0W.srcO ((f9y.bring 6).bring 1)) j0Y fun e8X j0Z j8S j1a j1b j8T => ?_
   refine o7 S9 ?_
   refine m5 ((j1b.bring 1).drop.bring 2) Tryz.sizeOf51 (vs := [(vs e8X)]) (cs' := [(vi a1N), (Value.string a1O), (vs e8X), (vs J9), (vs a1P), (vs a1Q)]) rfl rfl (nb rfl) rfl rfl fun j8U j1c j8V => ?_
   refine a7 (u7 _ _ _ _ _ _) ?_
   exact hn4 _ _ _ (hm4 _ _ h).2 ⟨((IntKind.wrap .i64 (a2q + 1)), a1N, a1O, (a1q ++ [c6F]), a1P, a1Q, (g9.mk L8.fn (IntKind.wrap .i64 (L8.fleft - c2w))), I1), e8M, e8X, j0Z, rfl, rfl, j1a, ((((((j1c.bring 1).bring 5).bring 5).bring 5).bring 5).bring 5), (hm4 _ _ h).1⟩
  ·replace h := h.2 e8W
   exact hx2 _ _ (hj2 a1N a1O a1q b0H a1P a1Q L8 I1 a8X Fcr_14l4_2 Fcr_14j1_3 H _ c4o e8P ((((((I.bring 4).bring 5).bring 5).bring 5).bring 5).bring 5) h)
 refine r9 fun j1 hx1 => ?_
 obtain ⟨e8Y, d2x, j1d, j1e⟩ := h
 refine A7 (J := fun n l w => ∃ (s : Int × Int × ByteArray × (List a8) × (List b7) × Sl × Sl × g9 × d6) (H : Hp) (a8Y : Sl) (Fcr_14l5_2 : Frag) (a8Z : Sl) (Fcr_14l5_3 : Frag) , n = d2x s ∧ l = (match s with | (a3H, a0x, a0y, a2j, Z4, a0z, a0A, B8, a7i) => [(vi a3H)]) ∧ (match s with | (a3H, a0x, a0y, a2j, Z4, a0z, a0A, B8, a7i) => RowL 53 4 b8 a8Y a2j Fcr_14l5_2) ∧ (match s with | (a3H, a0x, a0y, a2j, Z4, a0z, a0A, B8, a7i) => RowL 59 4 d8 a8Z Z4 Fcr_14l5_3) ∧ (match s with | (a3H, a0x, a0y, a2j, Z4, a0z, a0A, B8, a7i) => Inv w0 ps0 H0 H [bx a7d 73 [(vi a0x), (Value.string a0y), (vs a8Y), (vs a8Z), (vs a0z), (vs a0A)], bx g0 67 (q9 B8), bx g_7 73 (d9 a7i), bx g_2 73 (d9 x1), Fcr_14l5_2, Fcr_14l5_3] w) ∧ e8Y s H) ⟨_, (0, x1.b6, x1.f6, [], [], (Sl.mk none 0 0), (Sl.mk none 0 0), (g9.mk x0.fn (IntKind.wrap .i64 (x0.fleft - 1))), (d6.mk 0 ⟨#[]⟩ (Sl.mk none 0 0) (Sl.mk none 0 0) (Sl.mk none 0 0) (Sl.mk none 0 0))), H, (Sl.mk none 0 0), [], (Sl.mk none 0 0), [], rfl, rfl, (RowL.nil T8 T9), (RowL.nil a5p a5q), (((((b0Y.nil.nil.bring 1).bring 5).bring 5).bring 5).bring 5), j1d⟩ ?_
 rintro j8W τ_360 w next5 ⟨⟨a3H, a0x, a0y, a2j, Z4, a0z, a0A, B8, a7i⟩, H, a8Y, Fcr_14l5_2, a8Z, Fcr_14l5_3, rfl, e8Z, c4p, c4q, I, j1f⟩ hn5
 dsimp only at e8Z I c4p c4q
 simp only [List.map_cons, List.map_nil, List.cons.injEq, and_true] at e8Z
 have e8 := e8Z
 simp only [e8]
 obtain ⟨n5, hm5, h⟩ : ∃ n5 : (Int × Int × ByteArray × (List a8) × (List b7) × Sl × Sl × g9 × d6) → Hp → Prop, (∀ s' H', n5 s' H' → e8Y s' H' ∧ d2x s' < d2x (a3H, a0x, a0y, a2j, Z4, a0z, a0A, B8, a7i)) ∧ V8 x2 x1 a3H a0x a0y a2j Z4 a0z a0A B8 a7i H n5 K := ⟨_, fun _ _ h => h, j1e (a3H, a0x, a0y, a2j, Z4, a0z, a0A, B8, a7i) H (fun s' H' => e8Y s' H' ∧ d2x s' < d2x (a3H, a0x, a0y, a2j, Z4, a0z, a0A, B8, a7i)) j1f (fun _ _ a b => ⟨a, b⟩)⟩
 unfold f2j
 unfold V8 at h
 refine a7 R7 ?_
 refine f2 (ld1 Tryz.isAgg57 ((I.bring 3).at1 (o := 3) (vs := [(vs x1.i4)]) (nb rfl) rfl)) ?_
 refine a7 (V0 _ _ _) ?_
 refine a7 (v7 _ _ _ _ _ _) ?_
 refine k4 (fun e9a => ?_) (fun e9a => ?_)
 ·replace h := h.1 e9a
  refine a3D I fun j8X c7T => ?_
  refine o7 (w7 _) ?_
  refine o7 a7j ?_
  refine o7 R7 ?_
  refine y9 (ld1 Tryz.isAgg3 ((c7T.bring 1).at1 (o := 1) (vs := [(vi B8.fleft)]) (nb rfl) rfl)) ?_
  refine y9 (ld1 Tryz.isAgg57 ((c7T.bring 3).at1 (o := 3) (vs := [(vs x1.i4)]) (nb rfl) rfl)) ?_
  obtain ⟨f9z, f9A, c7Q, d5C, h⟩ := h
  obtain ⟨j8Y, j8Z, f9B, d5C⟩ := d5C
  refine o7 (a1T f9B _ _ _ _ f9z f9A) ?_
  refine y9 (ldA (vs := (d8 c7Q)) Tryz.isAgg59 Tryz.sizeOf59 rfl (c7T.atH d5C)) ?_
  refine f7 (cap := []) (fun args w => Tryz.call89 args w) ?_
  refine k8 (Fi := []) (Fr := [bx a7d 73 [(vi a0x), (Value.string a0y), (vs a8Y), (vs a8Z), (vs a0z), (vs a0A)], bx g0 67 (q9 B8), bx g_7 73 (d9 a7i), bx g_2 73 (d9 x1), Fcr_14l5_2, Fcr_14l5_3]) c7T (h) (fun j9a f9q j9b j9c j1g j1h j1i j1j => ?_) (fun _ _ _ _ _ q => q.elim)
  obtain ⟨c2x, rfl, rfl, h⟩ := j1j
  refine ⟨(j1i _ (c7T.bring 1).lt1 (Inv.a1t (Fi := []) (c7T.bring 1))), ?_⟩
  refine o7 (b0N _ _ _ _ _ _) ?_
  refine o7 (w7 _) ?_
  refine o7 a7j ?_
  refine m5 (j1g.bring 1) Tryz.sizeOf3 (vs := [(vi (IntKind.wrap .i64 (B8.fleft - c2x)))]) (cs' := [(vi B8.fn), (vi (IntKind.wrap .i64 (B8.fleft - c2x)))]) rfl rfl (nb rfl) rfl rfl fun j9d j1k j9e => ?_
  refine a3D j1k fun j9f c7U => ?_
  refine o7 R7 ?_
  refine o7 R7 ?_
  refine y9 (ld1 Tryz.isAgg57 ((c7U.bring 1).at1 (o := 3) (vs := [(vs a8Z)]) (nb rfl) rfl)) ?_
  refine y9 (ld1 Tryz.isAgg57 ((c7U.bring 3).at1 (o := 3) (vs := [(vs x1.i4)]) (nb rfl) rfl)) ?_
  refine o7 (a1T f9B _ _ _ _ f9z f9A) ?_
  refine y9 (ldA (vs := (d8 c7Q)) Tryz.isAgg59 Tryz.sizeOf59 rfl (c7U.atH (d5C.le j1h))) ?_
  refine f7 (cap := []) (fun args w => Tryz.call90 args w) ?_
  refine k8 (Fi := []) (Fr := [bx g0 67 [(vi B8.fn), (vi (IntKind.wrap .i64 (B8.fleft - c2x)))], bx a7d 73 [(vi a0x), (Value.string a0y), (vs a8Y), (vs a8Z), (vs a0z), (vs a0A)], bx g_7 73 (d9 a7i), bx g_2 73 (d9 x1), Fcr_14l5_2, Fcr_14l5_3]) c7U (h) (fun j9g e8N j9h j9i f9C j9j j1l j1m => ?_) (fun _ _ _ _ _ q => q.elim)
  obtain ⟨c6G, rfl, rfl, h⟩ := j1m
  refine ⟨(j1l _ (c7U.bring 1).lt1 (Inv.a1t (Fi := []) (c7U.bring 1))), ?_⟩
  refine a4b (e := 59) (c := d8) (xs := [c6G]) f9C (c6Q _ _ _ _ _ _ _ _) rfl rfl a5p a5q (nb rfl) fun j9k j9l j9m j1n f9D j1o => ?_
  refine ⟨(j1o _ (f9C.bring 1).lt1), ?_⟩
  obtain ⟨j1p, h⟩ := h
  refine d0p (s := a8Z) (xs := Z4) (f9D.bring 6) c4q (j1n.srcO ((f9D.bring 6).bring 1)) j1p fun e9b j1q j9n j1r j1s j9o => ?_
  refine o7 R7 ?_
  refine m5 ((j1s.bring 1).drop.bring 2) Tryz.sizeOf57 (vs := [(vs e9b)]) (cs' := [(vi a0x), (Value.string a0y), (vs a8Y), (vs e9b), (vs a0z), (vs a0A)]) rfl rfl (nb rfl) rfl rfl fun j9p j1t j9q => ?_
  refine a7 (u7 _ _ _ _ _ _) ?_
  exact hn5 _ _ _ (hm5 _ _ h).2 ⟨((IntKind.wrap .i64 (a3H + 1)), a0x, a0y, a2j, (Z4 ++ [c6G]), a0z, a0A, (g9.mk B8.fn (IntKind.wrap .i64 (B8.fleft - c2x))), a7i), e8N, a8Y, Fcr_14l5_2, e9b, j1q, rfl, rfl, c4p, j1r, ((((((j1t.bring 1).bring 5).bring 5).bring 5).bring 5).bring 5), (hm5 _ _ h).1⟩
 ·replace h := h.2 e9a
  exact hx1 _ _ (hj1 a0x a0y a2j Z4 a0z a0A B8 a7i a8Y Fcr_14l5_2 a8Z Fcr_14l5_3 H _ c4p c4q ((((((I.bring 5).bring 5).bring 5).bring 5).bring 5).bring 5) h)
theorem b2K (x0 : g9) (x1 : d6) (x2 : Int) {H : Hp} {K : d6 → g9 → Hp → Prop} (h : Z5 x0 x1 x2 H K) : Z3 x0 x1 x2 H K := by
 intro g0 w I
 refine i2I ?_
 refine b2j x0 x1 x2 g0 I (fun r0 y0 H' w' I' hk => ⟨H', _, I', r0, y0, rfl, rfl, hk⟩) h
def U8 (C6 : (List d6)) (K5 : g9) (H : Hp) (K : (List d6) → g9 → Hp → Prop) : Prop :=
 K C6 K5 H
def U9 (a9R : Sl) (m6 : (List d6)) (b2L : Int) (N7 : g9) (H : Hp) (n2 : ((List d6) × Int × g9) → Hp → Prop) (K : (List d6) → g9 → Hp → Prop) : Prop :=
 (((decide (b2L < (a9R.n : Int))) && (decide (0 ≤ N7.fleft))) = true →
 (0 : Int) ≤ b2L ∧ (b2L : Int) < a9R.n ∧ ∃ e9c : d6, EltH H a9R b2L 6 (d9 e9c) ∧
 Z3 N7 e9c N7.fn H (fun (d2y : d6) (e9d : g9) (c3L : Hp) =>
 (m6.length + ([d2y] : List d6).length) * 121 ≤ 140737488355328 ∧
 n2 ((m6 ++ [d2y]), (IntKind.wrap .i64 (b2L + 1)), e9d) c3L)) ∧
 (((decide (b2L < (a9R.n : Int))) && (decide (0 ≤ N7.fleft))) = false →
 U8 m6 N7 H K)
def Y3 (x0 : g9) (x1 : Sl) (H : Hp) (K : (List d6) → g9 → Hp → Prop) : Prop :=
 TL (([], 0, x0) : (List d6) × Int × g9) H fun (s : (List d6) × Int × g9) H n2 => U9 x1 s.1 s.2.1 s.2.2 H n2 K
theorem b1N (x0 : g9) (x1 : Sl) (g0 : Nat) {K : (List d6) → g9 → Hp → Prop} (I : Inv w0 ps0 H0 H [bx g0 67 (q9 x0)] w) (hR : ∀ (r0 : (List d6)) (y0 : g9) (sr0 : Sl) (Fr0 : Frag) (H' : Hp) (w' : World) (_ : RowL 73 6 d9 sr0 r0 Fr0) (_ : Inv w0 ps0 H0 H' [bx g0 67 (q9 y0), Fr0] w') (_ : K r0 y0 H'), R (vs sr0) w') (h : Y3 x0 x1 H K) : F28 (Value.pointer (some ⟨g0, 0, none⟩)) (vs x1) w R E := by
 unfold Y3 at h
 unfold F28
 have hj1 : ∀ (C6 : (List d6)) (K5 : g9) (r7 : Sl) (Fs5j1 : Frag) (H : Hp) (w : World) (_ : RowL 73 6 d9 r7 C6 Fs5j1) (_ : Inv w0 ps0 H0 H [bx g0 67 (q9 K5), Fs5j1] w) (_ : U8 C6 K5 H K), e0R (vs r7) w R E := by
  intro C6 K5 r7 Fs5j1 H w a6v I h
  unfold e0R
  intro _
  unfold U8 at h
  exact hR C6 K5 r7 Fs5j1 H _ a6v ((I.bring 1).bring 1) h
 refine r9 fun j1 hx1 => ?_
 obtain ⟨f7p, e1x, j5y, j5z⟩ := h
 refine A7 (J := fun n l w => ∃ (s : (List d6) × Int × g9) (H : Hp) (B9 : Sl) (Fs5l2 : Frag) , n = e1x s ∧ l = (match s with | (m6, b2L, N7) => [(vs B9), (vi b2L)]) ∧ (match s with | (m6, b2L, N7) => RowL 73 6 d9 B9 m6 Fs5l2) ∧ (match s with | (m6, b2L, N7) => Inv w0 ps0 H0 H [bx g0 67 (q9 N7), Fs5l2] w) ∧ f7p s H) ⟨_, ([], 0, x0), H, (Sl.mk none 0 0), [], rfl, rfl, (RowL.nil U0 Z7), (I.nil.bring 1), j5y⟩ ?_
 rintro k1E τ_80 w next2 ⟨⟨m6, b2L, N7⟩, H, B9, Fs5l2, rfl, f7q, Q2, I, j5A⟩ hn2
 dsimp only at f7q I Q2
 simp only [List.map_cons, List.map_nil, List.cons.injEq, and_true] at f7q
 obtain ⟨e5, e6⟩ := f7q
 simp only [e5, e6]
 obtain ⟨n2, hm2, h⟩ : ∃ n2 : ((List d6) × Int × g9) → Hp → Prop, (∀ s' H', n2 s' H' → f7p s' H' ∧ e1x s' < e1x (m6, b2L, N7)) ∧ U9 x1 m6 b2L N7 H n2 K := ⟨_, fun _ _ h => h, j5z (m6, b2L, N7) H (fun s' H' => f7p s' H' ∧ e1x s' < e1x (m6, b2L, N7)) j5A (fun _ _ a b => ⟨a, b⟩)⟩
 unfold f2b
 unfold U9 at h
 refine a7 (W8 _ _ _) ?_
 refine a7 (v7 _ _ _ _ _ _) ?_
 simp only [z2]
 refine a7 (Pu.g fun hb => by have d7 := hb; simp only [i6 d7]; exact (w7 _)) ?_
 refine a7 (Pu.g fun hb => by have d7 := hb; simp only [i6 d7]; exact a7j) ?_
 refine f2 (Ld.g fun hb => by have d7 := hb; simp only [i6 d7]; exact (ld1 Tryz.isAgg3 (I.at1 (o := 1) (vs := [(vi N7.fleft)]) (nb rfl) rfl))) ?_
 refine a7 (Pu.g fun hb => by have d7 := hb; simp only [i6 d7]; exact (a7e _ _ _ _ _ _)) ?_
 refine a7 (w8 _ _) ?_
 refine o2 (fun b0u => ?_) (fun b0u => ?_)
 ·replace h := h.1 b0u
  refine a3D I fun C7 f7r => ?_
  obtain ⟨f6y, d8O, e9c, c9q, h⟩ := h
  obtain ⟨k1F, k1G, c9H, c9q⟩ := c9q
  refine o7 (a6W c9H _ _ _ _ f6y d8O) ?_
  refine o7 (w7 _) ?_
  refine o7 e3G ?_
  refine y9 (ldA (vs := (d9 e9c)) Tryz.isAgg73 Tryz.sizeOf73 rfl (f7r.atH c9q)) ?_
  refine y9 (ld1 Tryz.isAgg3 (f7r.at1 (o := 0) (vs := [(vi N7.fn)]) (nb rfl) rfl)) ?_
  refine f7 (cap := []) (fun args w => Tryz.call51 args w) ?_
  refine k8 (Fi := [bx g0 67 (q9 N7)]) (Fr := [Fs5l2]) f7r (h g0) (fun k1H c3L k1I P3 f7i k1J j5o j5B => ?_) (fun _ _ _ _ _ q => q.elim)
  obtain ⟨d2y, e9d, rfl, rfl, h⟩ := j5B
  refine a4b (e := 73) (c := d9) (xs := [d2y]) f7i (b5t _ _ _ _ _ _ _ _ _ _ _ _ _ _) rfl rfl U0 Z7 (nb rfl) fun k1K h4O b4h d8h d3u h4A => ?_
  obtain ⟨j5C, h⟩ := h
  refine b4b (s := B9) (xs := m6) (d3u.bring 2) Q2 (d8h.srcO ((d3u.bring 2).bring 1)) j5C fun f6x f3J b3b e1o c0W e4x => ?_
  refine a7 (u7 _ _ _ _ _ _) ?_
  exact hn2 _ _ _ (hm2 _ _ h).2 ⟨((m6 ++ [d2y]), (IntKind.wrap .i64 (b2L + 1)), e9d), c3L, f6x, f3J, rfl, rfl, e1o, ((c0W.bring 1).drop.bring 1), (hm2 _ _ h).1⟩
 ·replace h := h.2 b0u
  exact hx1 _ _ (hj1 m6 N7 B9 Fs5l2 H _ Q2 ((I.bring 1).bring 1) h)
theorem b2l (x0 : g9) (x1 : Sl) {H : Hp} {K : (List d6) → g9 → Hp → Prop} (h : Y3 x0 x1 H K) : R9 x0 x1 H K := by
 intro g0 w I
 refine i1v ?_
 refine b1N x0 x1 g0 I (fun r0 y0 sr0 Fr0 H' w' khr0 I' hk => ⟨H', _, I', r0, y0, sr0, Fr0, rfl, rfl, khr0, hk⟩) h
def X4 (b1L : Int) (g6J : g7) (j6c : g9) (V4 : g7) (O0 : g7) (H : Hp) (K : g7 → Int → Hp → Prop) : Prop :=
 (¬ (b1L = 0) →
 K (g7.mk (Sl.mk none 0 0) (Sl.mk none 0 0)) b1L H) ∧
 (b1L = 0 →
 K g6J 0 H)
def a2k (b4Z : (List E0)) (b5a : (List d6)) (a8G : g9) (m8 : g7) (p9 : g7) (H : Hp) (K : g7 → Int → Hp → Prop) : Prop :=
 ∀ (y6 : Sl) (e1y : Hp), Hle H e1y → SlH e1y 2 w6 y6 b4Z → y6.n ≤ y6.c →
 ∀ (y7 : Sl) (b0Z : Hp), Hle e1y b0Z → SlH b0Z 6 d9 y7 b5a → y7.n ≤ y7.c →
 a4l (g7.mk y6 y7) b0Z (fun (d2z : Int) (e1z : Hp) =>
 (((decide (a8G.fleft < 0)) && (decide (d2z = 0))) = true →
 X4 33 (g7.mk y6 y7) a8G m8 p9 e1z K) ∧
 (((decide (a8G.fleft < 0)) && (decide (d2z = 0))) = false →
 X4 d2z (g7.mk y6 y7) a8G m8 p9 e1z K))
def a3N (x0 : g7) (x1 : Int) (H : Hp) (K : g7 → Int → Hp → Prop) : Prop :=
 a4l x0 H (fun (m9 : Int) (Z0 : Hp) =>
 (¬ (m9 = 0) →
 K (g7.mk (Sl.mk none 0 0) (Sl.mk none 0 0)) m9 Z0) ∧
 (m9 = 0 →
 (((decide (x1 < 0)) || (decide (8 < x1))) = true →
 K (g7.mk (Sl.mk none 0 0) (Sl.mk none 0 0)) 290 Z0) ∧
 (((decide (x1 < 0)) || (decide (8 < x1))) = false →
 ∃ c7V : List E0, SlH Z0 2 w6 x0.r5 c7V ∧ (([] : List E0).length + c7V.length) * 25 ≤ 140737488355328 ∧
 R9 (g9.mk x1 (IntKind.wrap .i64 (4096 - (x0.r5.n : Int)))) x0.G3 Z0 (fun (P2 : (List d6)) (e9e : g9) (a6j : Hp) =>
 a2k c7V P2 e9e (g7.mk (Sl.mk none 0 0) (Sl.mk none 0 0)) x0 a6j K))))
theorem b6d (x0 : g7) (x1 : Int) {K : g7 → Int → Hp → Prop} (I : Inv w0 ps0 H0 H [] w) (hR : ∀ (r0 : g7) (r1 : Int) (H' : Hp) (w' : World) (_ : Inv w0 ps0 H0 H' [] w') (_ : K r0 r1 H'), R (Value.tuple #[(Value.agg (i5 r0).toArray), (vi r1)]) w') (h : a3N x0 x1 H K) : F10 (Value.agg (i5 x0).toArray) (vi x1) w R E := by
 unfold a3N at h
 unfold F10
 refine K6 I (cs := (i5 x0)) rfl fun g_2 w_3 I_4 k_5 => ?_
 refine z8 I_4 Tryz.zeroValue25 (cs := [(nS), (nS)]) rfl fun g_7 w_8 I_9 a9j => ?_
 refine f2 (ldA Tryz.isAgg25 Tryz.sizeOf25 rfl ((I_9.bring 1).at1 (o := 0) (vs := (i5 x0)) (nb rfl) rfl)) ?_
 refine f7 (cap := []) (fun args w => Tryz.call27 args w) ?_
 refine k8 (Fi := []) (Fr := [bx g_7 25 [(nS), (nS)], bx g_2 25 (i5 x0)]) I_9 (h) (fun c9l Z0 c9m p8 a6l c3J c9n b3u => ?_) (fun _ _ _ _ _ q => q.elim)
 obtain ⟨m9, rfl, rfl, h⟩ := b3u
 refine a7 (P9 _ _ _ _ _ _) ?_
 refine a5o (fun e9f => ?_) (fun e9f => ?_)
 ·replace h := h.1 e9f
  refine a7 (b3K ) ?_
  refine m5 a6l Tryz.sizeOf25 (vs := [(nS), (nS)]) (cs' := [(nS), (nS)]) rfl rfl (nb rfl) rfl rfl fun t8 a0f b3g => ?_
  refine J4 Tryz.isAgg25 Tryz.sizeOf25 rfl (a0f.at1 (o := 0) (vs := [(nS), (nS)]) (nb rfl) rfl) ?_
  exact hR (g7.mk (Sl.mk none 0 0) (Sl.mk none 0 0)) m9 Z0 _ a0f.drop.drop h
 ·replace h := h.2 e9f
  refine a7 (v7 _ _ _ _ _ _) ?_
  simp only [z2]
  refine a7 (Pu.g fun hb => by have d7 := hb; simp only [i6 d7]; exact (a7Q _ _ _ _ _ _)) ?_
  refine a7 (M4 _ _) ?_
  refine o2 (fun e9g => ?_) (fun e9g => ?_)
  ·replace h := h.1 e9g
   refine a7 (b3K ) ?_
   refine m5 a6l Tryz.sizeOf25 (vs := [(nS), (nS)]) (cs' := [(nS), (nS)]) rfl rfl (nb rfl) rfl rfl fun a6X a6k c9g => ?_
   refine J4 Tryz.isAgg25 Tryz.sizeOf25 rfl (a6k.at1 (o := 0) (vs := [(nS), (nS)]) (nb rfl) rfl) ?_
   exact hR (g7.mk (Sl.mk none 0 0) (Sl.mk none 0 0)) 290 Z0 _ a6k.drop.drop h
  ·replace h := h.2 e9g
   refine a7 Z1 ?_
   refine f2 (ld1 Tryz.isAgg22 ((a6l.bring 1).at1 (o := 0) (vs := [(vs x0.r5)]) (nb rfl) rfl)) ?_
   refine a7 (a9V _ _ _) ?_
   refine a7 (b0N _ _ _ _ _ _) ?_
   refine a7 (d4A _ _) ?_
   refine K6 a6l (cs := [(vi x1), (vi (IntKind.wrap .i64 (4096 - (x0.r5.n : Int))))]) rfl fun c1y B0 b9p e5O => ?_
   have hj1 : ∀ (b4Z : (List E0)) (b5a : (List d6)) (a8G : g9) (y6 : Sl) (Fcr_53j1_0 : Frag) (y7 : Sl) (Fcr_53j1_1 : Frag) (b6e : Nat) (H : Hp) (w : World) (_ : RowL 71 2 w6 y6 b4Z Fcr_53j1_0) (_ : RowL 73 6 d9 y7 b5a Fcr_53j1_1) (_ : Inv w0 ps0 H0 H [bx b6e 25 [(vs y6), (vs y7)], bx c1y 67 (q9 a8G), bx g_7 25 [(Value.slice (g7.mk (Sl.mk none 0 0) (Sl.mk none 0 0)).r5.a (g7.mk (Sl.mk none 0 0) (Sl.mk none 0 0)).r5.n (g7.mk (Sl.mk none 0 0) (Sl.mk none 0 0)).r5.c), (Value.slice (g7.mk (Sl.mk none 0 0) (Sl.mk none 0 0)).G3.a (g7.mk (Sl.mk none 0 0) (Sl.mk none 0 0)).G3.n (g7.mk (Sl.mk none 0 0) (Sl.mk none 0 0)).G3.c)], bx g_2 25 (i5 x0), Fcr_53j1_0, Fcr_53j1_1] w) (_ : a2k b4Z b5a a8G (g7.mk (Sl.mk none 0 0) (Sl.mk none 0 0)) x0 H K), e0H (Value.pointer (some ⟨g_7, 0, none⟩)) (Value.pointer (some ⟨c1y, 0, none⟩)) (Value.pointer (some ⟨b6e, 0, none⟩)) w R E := by
    intro b4Z b5a a8G y6 Fcr_53j1_0 y7 Fcr_53j1_1 b6e H w e9h e9i I h
    unfold e0H
    intro _
    unfold a2k at h
    refine f2 (ldA Tryz.isAgg25 Tryz.sizeOf25 rfl (I.at1 (o := 0) (vs := [(vs y6), (vs y7)]) (nb rfl) rfl)) ?_
    obtain ⟨e1y, d0g, c9b, d8h, c5I⟩ := Inv.freezeC (I.bring 4) e9h (by decide)
    replace h := h y6 e1y c9b d8h c5I
    obtain ⟨b0Z, f4r, j5D, f6X, e1o⟩ := Inv.freezeC (d0g.bring 4) e9i (by decide)
    replace h := h y7 b0Z j5D f6X e1o
    refine f7 (cap := []) (fun args w => Tryz.call27 args w) ?_
    refine k8 (Fi := []) (Fr := [bx b6e 25 [(vs y6), (vs y7)], bx c1y 67 (q9 a8G), bx g_7 25 [(Value.slice (g7.mk (Sl.mk none 0 0) (Sl.mk none 0 0)).r5.a (g7.mk (Sl.mk none 0 0) (Sl.mk none 0 0)).r5.n (g7.mk (Sl.mk none 0 0) (Sl.mk none 0 0)).r5.c), (Value.slice (g7.mk (Sl.mk none 0 0) (Sl.mk none 0 0)).G3.a (g7.mk (Sl.mk none 0 0) (Sl.mk none 0 0)).G3.n (g7.mk (Sl.mk none 0 0) (Sl.mk none 0 0)).G3.c)], bx g_2 25 (i5 x0)]) f4r (h) (fun k1L e1z k1M a0r f7s k1N k1O j5E => ?_) (fun _ _ _ _ _ q => q.elim)
    obtain ⟨d2z, rfl, rfl, h⟩ := j5E
    have hj2 : ∀ (b1L : Int) (H : Hp) (w : World) (_ : Inv w0 ps0 H0 H [bx b6e 25 [(Value.slice (g7.mk y6 y7).r5.a (g7.mk y6 y7).r5.n (g7.mk y6 y7).r5.c), (Value.slice (g7.mk y6 y7).G3.a (g7.mk y6 y7).G3.n (g7.mk y6 y7).G3.c)], bx c1y 67 (q9 a8G), bx g_7 25 [(Value.slice (g7.mk (Sl.mk none 0 0) (Sl.mk none 0 0)).r5.a (g7.mk (Sl.mk none 0 0) (Sl.mk none 0 0)).r5.n (g7.mk (Sl.mk none 0 0) (Sl.mk none 0 0)).r5.c), (Value.slice (g7.mk (Sl.mk none 0 0) (Sl.mk none 0 0)).G3.a (g7.mk (Sl.mk none 0 0) (Sl.mk none 0 0)).G3.n (g7.mk (Sl.mk none 0 0) (Sl.mk none 0 0)).G3.c)], bx g_2 25 (i5 x0)] w) (_ : X4 b1L (g7.mk y6 y7) a8G (g7.mk (Sl.mk none 0 0) (Sl.mk none 0 0)) x0 H K), e0F (Value.pointer (some ⟨g_7, 0, none⟩)) (vi b1L) (Value.pointer (some ⟨b6e, 0, none⟩)) w R E := by
     intro b1L H w I h
     unfold e0F
     intro _
     unfold X4 at h
     refine a7 (P9 _ _ _ _ _ _) ?_
     refine a5o (fun b8V => ?_) (fun b8V => ?_)
     ·replace h := h.1 b8V
      refine a7 (b3K ) ?_
      refine m5 (I.bring 2) Tryz.sizeOf25 (vs := [(nS), (nS)]) (cs' := [(nS), (nS)]) rfl rfl (nb rfl) rfl rfl fun a3b i4l k1P => ?_
      refine J4 Tryz.isAgg25 Tryz.sizeOf25 rfl (i4l.at1 (o := 0) (vs := [(nS), (nS)]) (nb rfl) rfl) ?_
      exact hR (g7.mk (Sl.mk none 0 0) (Sl.mk none 0 0)) b1L H _ i4l.drop.drop.drop.drop h
     ·replace h := h.2 b8V
      refine f2 (ldA Tryz.isAgg25 Tryz.sizeOf25 rfl (I.at1 (o := 0) (vs := [(Value.slice (g7.mk y6 y7).r5.a (g7.mk y6 y7).r5.n (g7.mk y6 y7).r5.c), (Value.slice (g7.mk y6 y7).G3.a (g7.mk y6 y7).G3.n (g7.mk y6 y7).G3.c)]) (nb rfl) rfl)) ?_
      refine m5 (I.bring 2) Tryz.sizeOf25 (vs := [(Value.slice (g7.mk y6 y7).r5.a (g7.mk y6 y7).r5.n (g7.mk y6 y7).r5.c), (Value.slice (g7.mk y6 y7).G3.a (g7.mk y6 y7).G3.n (g7.mk y6 y7).G3.c)]) (cs' := [(Value.slice (g7.mk y6 y7).r5.a (g7.mk y6 y7).r5.n (g7.mk y6 y7).r5.c), (Value.slice (g7.mk y6 y7).G3.a (g7.mk y6 y7).G3.n (g7.mk y6 y7).G3.c)]) rfl rfl (nb rfl) rfl rfl fun c1r e7T j4Q => ?_
      refine J4 Tryz.isAgg25 Tryz.sizeOf25 rfl (e7T.at1 (o := 0) (vs := [(Value.slice (g7.mk y6 y7).r5.a (g7.mk y6 y7).r5.n (g7.mk y6 y7).r5.c), (Value.slice (g7.mk y6 y7).G3.a (g7.mk y6 y7).G3.n (g7.mk y6 y7).G3.c)]) (nb rfl) rfl) ?_
      exact hR (g7.mk y6 y7) 0 H _ e7T.drop.drop.drop.drop h
    refine r9 fun j2 hx2 => ?_
    refine a7 (w7 _) ?_
    refine a7 a7j ?_
    refine f2 (ld1 Tryz.isAgg3 ((f7s.bring 1).at1 (o := 1) (vs := [(vi a8G.fleft)]) (nb rfl) rfl)) ?_
    refine a7 (v7 _ _ _ _ _ _) ?_
    simp only [z2]
    refine a7 (Pu.g fun hb => by have d7 := hb; simp only [i6 d7]; exact (k7 _ _ _ _ _ _)) ?_
    refine a7 (w8 _ _) ?_
    refine o2 (fun b8J => ?_) (fun b8J => ?_)
    ·replace h := h.1 b8J
     exact hx2 _ _ (hj2 33 e1z _ ((((f7s.bring 3).bring 3).bring 3).bring 3) h)
    ·replace h := h.2 b8J
     exact hx2 _ _ (hj2 d2z e1z _ ((((f7s.bring 3).bring 3).bring 3).bring 3) h)
   refine r9 fun j1 hx1 => ?_
   refine a3D b9p fun b1m b3J => ?_
   refine o7 Z1 ?_
   refine o7 a4J ?_
   refine y9 (ld1 Tryz.isAgg22 ((b3J.bring 2).at1 (o := 0) (vs := [(vs x0.r5)]) (nb rfl) rfl)) ?_
   refine y9 (ld1 Tryz.isAgg23 ((b3J.bring 2).at1 (o := 1) (vs := [(vs x0.G3)]) (nb rfl) rfl)) ?_
   refine ⟨?_, ?_⟩
   ·obtain ⟨c7V, a5v, h⟩ := h
    obtain ⟨f7d, h⟩ := h
    refine d5U (s := ⟨none, 0, 0⟩) (xs := []) b3J.nil (RowL.nil a8D b6O) (SlH.src b3J.nil a5v a8D) f7d fun d3X e9j J6 c8X a8g d3A => ?_
    simp only [List.nil_append] at c8X
    refine ⟨(d3A _ (b3J.nil.bring 3).lt1 (Inv.c2C ((b3J.nil.bring 3).bring 1))), ?_⟩
    refine ⟨?_, ?_⟩
    ·refine f7 (cap := []) (fun args w => Tryz.call28 args w) ?_
     refine k8 (Fi := [bx c1y 67 [(vi x1), (vi (IntKind.wrap .i64 (4096 - (x0.r5.n : Int))))]]) (Fr := [e9j, bx g_7 25 [(nS), (nS)], bx g_2 25 (i5 x0)]) (a8g.bring 1) (h c1y) (fun e5A a6j e5B D8 b1A e5C d7V c3E => ?_) (fun _ _ _ _ _ q => q.elim)
     obtain ⟨P2, e9e, e1A, i4m, rfl, rfl, i4n, h⟩ := c3E
     refine o7 (b0O _ _ _ _ _ _) ?_
     refine z8 b1A Tryz.zeroValue25 (cs := [(nS), (nS)]) rfl fun f3V b6S e4T i4o => ?_
     refine ⟨(i4o _ (b1A.bring 4).lt1), (i4o _ (b1A.bring 4).lt1), ?_⟩
     refine m5 e4T Tryz.sizeOf25 (vs := [(vs d3X), (vs e1A)]) (cs' := [(vs d3X), (vs e1A)]) rfl rfl (nb rfl) rfl rfl fun P0 c3o h4P => ?_
     exact hx1 _ _ (hj1 c7V P2 e9e d3X e9j e1A i4m f3V a6j _ c8X i4n ((((((c3o.bring 2).bring 3).bring 5).bring 5).bring 5).bring 5) h)
    ·refine z8 a8g Tryz.zeroValue25 (cs := [(nS), (nS)]) rfl fun f4l a3d e8v f7c => ?_
     refine ⟨(f7c _ (a8g.bring 3).lt1), (f7c _ (a8g.bring 3).lt1), ?_⟩
     refine f7 (cap := []) (fun args w => Tryz.call28 args w) ?_
     refine k8 (Fi := [bx c1y 67 [(vi x1), (vi (IntKind.wrap .i64 (4096 - (x0.r5.n : Int))))]]) (Fr := [bx f4l 25 [(nS), (nS)], e9j, bx g_7 25 [(nS), (nS)], bx g_2 25 (i5 x0)]) (e8v.bring 2) (h c1y) (fun j2y c8T j2z a1U e4K i6k j2A f3T => ?_) (fun _ _ _ _ _ q => q.elim)
     obtain ⟨c5G, i4p, d3Y, g6K, rfl, rfl, g6L, h⟩ := f3T
     refine o7 (b0O _ _ _ _ _ _) ?_
     refine m5 (e4K.bring 2) Tryz.sizeOf25 (vs := [(vs d3X), (vs d3Y)]) (cs' := [(vs d3X), (vs d3Y)]) rfl rfl (nb rfl) rfl rfl fun d1W e9k j1u => ?_
     exact hx1 _ _ (hj1 c7V c5G i4p d3X e9j d3Y g6K f4l c8T _ c8X g6L ((((((e9k.bring 2).bring 3).bring 5).bring 5).bring 5).bring 5) h)
   ·refine z8 b3J Tryz.zeroValue25 (cs := [(nS), (nS)]) rfl fun f9E a4j d5D f9F => ?_
    refine ⟨(f9F _ (b3J.bring 2).lt1), (f9F _ (b3J.bring 2).lt1), ?_⟩
    obtain ⟨i4q, c0I, h⟩ := h
    obtain ⟨e9l, h⟩ := h
    refine d5U (s := ⟨none, 0, 0⟩) (xs := []) d5D.nil (RowL.nil a8D b6O) (SlH.src d5D.nil c0I a8D) e9l fun d1f e7U a7n f9G e8x f9e => ?_
    simp only [List.nil_append] at f9G
    refine ⟨(f9e _ (d5D.nil.bring 4).lt1 (Inv.c2C ((d5D.nil.bring 4).bring 1))), ?_⟩
    refine f7 (cap := []) (fun args w => Tryz.call28 args w) ?_
    refine k8 (Fi := [bx c1y 67 [(vi x1), (vi (IntKind.wrap .i64 (4096 - (x0.r5.n : Int))))]]) (Fr := [e7U, bx f9E 25 [(nS), (nS)], bx g_7 25 [(nS), (nS)], bx g_2 25 (i5 x0)]) (e8x.bring 2) (h c1y) (fun j9r j1v i9U a5w j1w j9s j9t j1x => ?_) (fun _ _ _ _ _ q => q.elim)
    obtain ⟨i4r, i4s, d3Z, g6M, rfl, rfl, g6N, h⟩ := j1x
    refine o7 (b0O _ _ _ _ _ _) ?_
    refine m5 (j1w.bring 3) Tryz.sizeOf25 (vs := [(vs d1f), (vs d3Z)]) (cs' := [(vs d1f), (vs d3Z)]) rfl rfl (nb rfl) rfl rfl fun d1b d4Q e4P => ?_
    exact hx1 _ _ (hj1 i4q i4r i4s d1f e7U d3Z g6M f9E j1v _ f9G g6N ((((((d4Q.bring 2).bring 3).bring 5).bring 5).bring 5).bring 5) h)
theorem b6L (x0 : g7) (x1 : Int) {H : Hp} {K : g7 → Int → Hp → Prop} (h : a3N x0 x1 H K) : a6J x0 x1 H K := by
 intro w I
 refine i0O ?_
 refine b6d x0 x1 I (fun r0 r1 H' w' I' hk => ⟨H', _, I', r0, r1, rfl, rfl, hk⟩) h
def Y4 (x0 : g7) (x1 : Int) (H : Hp) (K : Bool → Hp → Prop) : Prop :=
 a7b H (fun (E1 : Bool) (H_6 : Hp) =>
 ((!E1) = true →
 K false H_6) ∧
 ((!E1) = false →
 a8u x0 x1 H_6 (fun (b2m : g7) (d5E : Int) (i4t : Hp) =>
 a6J x0 x1 i4t (fun (b2g : g7) (c7W : Int) (b1E : Hp) =>
 (¬ (d5E = c7W) →
 K false b1E) ∧
 (d5E = c7W →
 (¬ (c7W = 0) →
 K ((decide ((b2m.r5.n : Int) = 0)) && (decide ((b2m.G3.n : Int) = 0))) b1E) ∧
 (c7W = 0 →
 a7r b2m b2g b1E (fun (e9m : Bool) (f7t : Hp) =>
 K e9m f7t)))))))
theorem b1O (x0 : g7) (x1 : Int) {K : Bool → Hp → Prop} (I : Inv w0 ps0 H0 H [] w) (hR : ∀ (r0 : Bool) (H' : Hp) (w' : World) (_ : Inv w0 ps0 H0 H' [] w') (_ : K r0 H'), R (vB r0) w') (h : Y4 x0 x1 H K) : F3 (Value.agg (i5 x0).toArray) (vi x1) w R E := by
 unfold Y4 at h
 unfold F3
 refine K6 I (cs := (i5 x0)) rfl fun g_2 w_3 I_4 k_5 => ?_
 refine f7 (cap := []) (fun args w => Tryz.call8 args w) ?_
 refine k8 (Fi := []) (Fr := [bx g_2 25 (i5 x0)]) I_4 (h) (fun b6Z H_6 b7a w_7 I_8 b7b k_9 a7c => ?_) (fun _ _ _ _ _ q => q.elim)
 obtain ⟨E1, rfl, rfl, h⟩ := a7c
 refine a7 (T4 _) ?_
 refine o2 (fun f7u => ?_) (fun f7u => ?_)
 ·replace h := h.1 f7u
  exact hR false H_6 _ I_8.drop h
 ·replace h := h.2 f7u
  refine f2 (ldA Tryz.isAgg25 Tryz.sizeOf25 rfl (I_8.at1 (o := 0) (vs := (i5 x0)) (nb rfl) rfl)) ?_
  refine f7 (cap := []) (fun args w => Tryz.call9 args w) ?_
  refine k8 (Fi := []) (Fr := [bx g_2 25 (i5 x0)]) I_8 (h) (fun k1Q i4t k1R q8 b0q k1S d7U j5F => ?_) (fun _ _ _ _ _ q => q.elim)
  obtain ⟨b2m, d5E, rfl, rfl, h⟩ := j5F
  refine a7 (r6 _ _ _ rfl) ?_
  refine a7 (r6 _ _ (vi d5E) rfl) ?_
  refine z8 b0q Tryz.zeroValue25 (cs := [(nS), (nS)]) rfl fun i4u y8 b4H f4G => ?_
  refine m5 b4H Tryz.sizeOf25 (vs := (i5 b2m)) (cs' := (i5 b2m)) rfl rfl (nb rfl) rfl rfl fun a6Y X3 a9P => ?_
  refine f2 (ldA Tryz.isAgg25 Tryz.sizeOf25 rfl ((X3.bring 1).at1 (o := 0) (vs := (i5 x0)) (nb rfl) rfl)) ?_
  refine f7 (cap := []) (fun args w => Tryz.call10 args w) ?_
  refine k8 (Fi := []) (Fr := [bx i4u 25 (i5 b2m), bx g_2 25 (i5 x0)]) X3 (h) (fun j4S b1E j4T a9e c8W j4U j4V f6V => ?_) (fun _ _ _ _ _ q => q.elim)
  obtain ⟨b2g, c7W, rfl, rfl, h⟩ := f6V
  refine a7 (r6 _ _ _ rfl) ?_
  refine a7 (r6 _ _ (vi c7W) rfl) ?_
  refine z8 c8W Tryz.zeroValue25 (cs := [(nS), (nS)]) rfl fun j5G b5x b6Y d8c => ?_
  refine m5 b6Y Tryz.sizeOf25 (vs := (i5 b2g)) (cs' := (i5 b2g)) rfl rfl (nb rfl) rfl rfl fun G8 b2J f7a => ?_
  refine a7 (P9 _ _ _ _ _ _) ?_
  refine a5o (fun c9R => ?_) (fun c9R => ?_)
  ·replace h := h.1 c9R
   exact hR false b1E _ b2J.drop.drop.drop h
  ·replace h := h.2 c9R
   refine a7 (P9 _ _ _ _ _ _) ?_
   refine a5o (fun c9N => ?_) (fun c9N => ?_)
   ·replace h := h.1 c9N
    refine a7 Z1 ?_
    refine f2 (ld1 Tryz.isAgg22 ((b2J.bring 1).at1 (o := 0) (vs := [(vs b2m.r5)]) (nb rfl) rfl)) ?_
    refine a7 (a9V _ _ _) ?_
    refine a7 (k7 _ _ _ _ _ _) ?_
    refine a7 (Pu.g fun hb => by have d7 := hb; exact a4J) ?_
    refine f2 (Ld.g fun hb => by have d7 := hb; simp only [i6 d7]; exact (ld1 Tryz.isAgg23 ((b2J.bring 1).at1 (o := 1) (vs := [(vs b2m.G3)]) (nb rfl) rfl))) ?_
    refine a7 (Pu.g fun hb => by have d7 := hb; simp only [i6 d7]; exact (W8 _ _ _)) ?_
    refine a7 (Pu.g fun hb => by have d7 := hb; simp only [i6 d7]; exact (k7 _ _ _ _ _ _)) ?_
    refine a7 (w8 _ _) ?_
    exact hR ((decide ((b2m.r5.n : Int) = 0)) && (decide ((b2m.G3.n : Int) = 0))) b1E _ b2J.drop.drop.drop h
   ·replace h := h.2 c9N
    refine f2 (ldA Tryz.isAgg25 Tryz.sizeOf25 rfl ((b2J.bring 1).at1 (o := 0) (vs := (i5 b2m)) (nb rfl) rfl)) ?_
    refine f2 (ldA Tryz.isAgg25 Tryz.sizeOf25 rfl (b2J.at1 (o := 0) (vs := (i5 b2g)) (nb rfl) rfl)) ?_
    refine f7 (cap := []) (fun args w => Tryz.call11 args w) ?_
    refine k8 (Fi := []) (Fr := [bx j5G 25 (i5 b2g), bx i4u 25 (i5 b2m), bx g_2 25 (i5 x0)]) b2J (h) (fun k1T f7t j3g M6 j5H e5N k1U j5I => ?_) (fun _ _ _ _ _ q => q.elim)
    obtain ⟨e9m, rfl, rfl, h⟩ := j5I
    exact hR e9m f7t _ j5H.drop.drop.drop h
theorem b2n (x0 : g7) (x1 : Int) {H : Hp} {K : Bool → Hp → Prop} (h : Y4 x0 x1 H K) : a3h x0 x1 H K := by
 intro w I
 refine i8E ?_
 refine b1O x0 x1 I (fun r0 H' w' I' hk => ⟨H', _, I', r0, rfl, rfl, hk⟩) h
end Go.Proofs.YtnhkdkcgdcgmdaaGreatDoor
