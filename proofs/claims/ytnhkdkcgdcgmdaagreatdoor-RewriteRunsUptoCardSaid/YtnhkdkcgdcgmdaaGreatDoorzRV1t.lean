/- Typed formulas of the program's functions that few laws need; printed by lift.py off the code. -/
import Derived.Test.YtnhkdkcgdcgmdaaGreatDoorzRV1
import Derived.Test.YtnhkdkcgdcgmdaaGreatDoorzRG1t
namespace Go.Proofs.YtnhkdkcgdcgmdaaGreatDoor
open Go.RowKit
set_option maxRecDepth 100000
set_option maxHeartbeats 2000000
variable {w0 w : World} {ps0 : Nat → Prop} {H0 H : Hp} {R : RT} {E : Pan}
def a2d (x0 : Int) (H : Hp) (K : b6 → Hp → Prop) : Prop :=
 K (b6.mk 1 x0 ⟨#[]⟩ (Sl.mk none 0 0)) H
theorem b2M (x0 : Int) {K : b6 → Hp → Prop} (I : Inv w0 ps0 H0 H [] w) (hR : ∀ (r0 : b6) (H' : Hp) (w' : World) (_ : Inv w0 ps0 H0 H' [] w') (_ : K r0 H'), R (Value.agg (b8 r0).toArray) w') (h : a2d x0 H K) : F22 (vi x0) w R E := by
 unfold a2d at h
 unfold F22
 refine y9 I Tryz.zeroValue53 (cs := [(vi 0), (vi 0), (eS), (nS)]) rfl fun g_2 w_3 I_4 k_5 => ?_
 refine a7 (b2f _ _) ?_
 refine m7 I_4 Tryz.sizeOf53 (vs := [(vi 1), (vi x0), (eS), (nS)]) (cs' := [(vi 1), (vi x0), (eS), (nS)]) rfl rfl (nb rfl) rfl rfl fun w_6 I_7 k_8 => ?_
 refine L4 Tryz.isAgg53 Tryz.sizeOf53 rfl (I_7.at1 (o := 0) (vs := [(vi 1), (vi x0), (eS), (nS)]) (nb rfl) rfl) ?_
 exact hR (b6.mk 1 x0 ⟨#[]⟩ (Sl.mk none 0 0)) H _ I_7.drop h
theorem b4k (x0 : Int) {H : Hp} {K : b6 → Hp → Prop} (h : a2d x0 H K) : U2 x0 H K := by
 intro w I
 refine g4u ?_
 refine b2M x0 I (fun r0 H' w' I' hk => ⟨H', _, I', r0, rfl, rfl, hk⟩) h
def Y2 (x0 : b6) (H : Hp) (K : Int → Bool → Hp → Prop) : Prop :=
 (x0.a8 = 1 →
 K x0.p5 true H) ∧
 (¬ (x0.a8 = 1) →
 ∃ x_6 : b6, ((decide (x0.a8 = 5)) = true → (0 : Int) ≤ 0 ∧ (0 : Int) < x0.o9.n ∧ EltH H x0.o9 0 4 (b8 x_6)) ∧
 (((decide (x0.a8 = 5)) && (decide (x_6.a8 = 1))) = true →
 (0 : Int) ≤ 0 ∧ (0 : Int) < x0.o9.n ∧ ∃ a4Z : b6, EltH H x0.o9 0 4 (b8 a4Z) ∧
 K (IntKind.wrap .i64 (0 - a4Z.p5)) true H) ∧
 (((decide (x0.a8 = 5)) && (decide (x_6.a8 = 1))) = false →
 K 0 false H))
theorem b2p (x0 : b6) {K : Int → Bool → Hp → Prop} (I : Inv w0 ps0 H0 H [] w) (hR : ∀ (r0 : Int) (r1 : Bool) (H' : Hp) (w' : World) (_ : Inv w0 ps0 H0 H' [] w') (_ : K r0 r1 H'), R (Value.tuple #[(vi r0), (vB r1)]) w') (h : Y2 x0 H K) : F67 (Value.agg (b8 x0).toArray) w R E := by
 unfold Y2 at h
 unfold F67
 refine L9 I (cs := (b8 x0)) rfl fun g_2 w_3 I_4 k_5 => ?_
 refine a7 Q7 ?_
 refine d7 (ld1 Tryz.isAgg3 (I_4.at1 (o := 0) (vs := [(vi x0.a8)]) (nb rfl) rfl)) ?_
 refine a7 (o2 _ _ _ _ _ _) ?_
 refine j8 (fun a9q => ?_) (fun a9q => ?_)
 ·replace h := h.1 a9q
  refine a7 a6x ?_
  refine d7 (ld1 Tryz.isAgg2 (I_4.at1 (o := 1) (vs := [(vi x0.p5)]) (nb rfl) rfl)) ?_
  exact hR x0.p5 true H _ I_4.drop h
 ·replace h := h.2 a9q
  refine a7 Q7 ?_
  refine d7 (ld1 Tryz.isAgg3 (I_4.at1 (o := 0) (vs := [(vi x0.a8)]) (nb rfl) rfl)) ?_
  refine a7 (o2 _ _ _ _ _ _) ?_
  refine a7 (Pu.g fun hb => by have i5 := hb; exact K5) ?_
  refine d7 (Ld.g fun hb => by have i5 := hb; simp only [s8 i5]; exact (ld1 Tryz.isAgg51 (I_4.at1 (o := 3) (vs := [(vs x0.o9)]) (nb rfl) rfl))) ?_
  obtain ⟨x_6, a9D, h⟩ := h
  obtain ⟨g_7, o_8, a9D⟩ := c0Z a9D
  refine a7 (Pu.g fun hb => by have i5 := hb; simp only [s8 i5]; exact (M4 (a9D hb).2.2.1 _ _ _ _ (a9D hb).1 (a9D hb).2.1)) ?_
  refine a7 (Pu.g fun hb => by have i5 := hb; simp only [s8 i5]; exact Q7) ?_
  refine d7 (Ld.g fun hb => by have i5 := hb; simp only [s8 i5]; exact (ld1 (v := (vi x_6.a8)) Tryz.isAgg3 ((I_4.atH (a9D hb).2.2.2).sub (k := 0) (n := 1) (nb rfl)))) ?_
  refine a7 (Pu.g fun hb => by have i5 := hb; simp only [s8 i5]; exact (o2 _ _ _ _ _ _)) ?_
  refine a7 (N6 _ _) ?_
  refine u0 (fun a6N => ?_) (fun a6N => ?_)
  ·replace h := h.1 a6N
   refine a7 K5 ?_
   refine d7 (ld1 Tryz.isAgg51 (I_4.at1 (o := 3) (vs := [(vs x0.o9)]) (nb rfl) rfl)) ?_
   obtain ⟨a9x, b7R, a4Z, a7U, h⟩ := h
   obtain ⟨g7g, g7h, c3v, a7U⟩ := a7U
   refine a7 (M4 c3v _ _ _ _ a9x b7R) ?_
   refine a7 a6x ?_
   refine d7 (ld1 (v := (vi a4Z.p5)) Tryz.isAgg2 ((I_4.atH a7U).sub (k := 1) (n := 1) (nb rfl))) ?_
   refine a7 (c4e _ _) ?_
   exact hR (IntKind.wrap .i64 (0 - a4Z.p5)) true H _ I_4.drop h
  ·replace h := h.2 a6N
   exact hR 0 false H _ I_4.drop h
theorem b2N (x0 : b6) {H : Hp} {K : Int → Bool → Hp → Prop} (h : Y2 x0 H K) : Q0 x0 H K := by
 intro w I
 refine g5W ?_
 refine b2p x0 I (fun r0 r1 H' w' I' hk => ⟨H', _, I', r0, r1, rfl, rfl, hk⟩) h
def a4Q (x0 : b6) (x1 : Int) (H : Hp) (K : Bool → Hp → Prop) : Prop :=
 Q0 x0 H (fun (X1 : Int) (b2J : Bool) (H_6 : Hp) =>
 K (b2J && (decide (X1 = x1))) H_6)
theorem b8j (x0 : b6) (x1 : Int) {K : Bool → Hp → Prop} (I : Inv w0 ps0 H0 H [] w) (hR : ∀ (r0 : Bool) (H' : Hp) (w' : World) (_ : Inv w0 ps0 H0 H' [] w') (_ : K r0 H'), R (vB r0) w') (h : a4Q x0 x1 H K) : F70 (Value.agg (b8 x0).toArray) (vi x1) w R E := by
 unfold a4Q at h
 unfold F70
 refine L9 I (cs := (b8 x0)) rfl fun g_2 w_3 I_4 k_5 => ?_
 refine d7 (ldA Tryz.isAgg53 Tryz.sizeOf53 rfl (I_4.at1 (o := 0) (vs := (b8 x0)) (nb rfl) rfl)) ?_
 refine d8 (cap := []) (fun args w => Tryz.call67 args w) ?_
 refine o0 (Fi := []) (Fr := [bx g_2 53 (b8 x0)]) I_4 (h) (fun c6R H_6 c6S w_7 I_8 c6T k_9 b0N => ?_) (fun _ _ _ _ _ q => q.elim)
 obtain ⟨X1, b2J, rfl, rfl, h⟩ := b0N
 refine a7 (m9 _ _ (vi X1) rfl) ?_
 refine a7 (m9 _ _ (vB b2J) rfl) ?_
 simp only [O5]
 refine a7 (Pu.g fun hb => by have i5 := hb; simp only [s8 i5]; exact (o2 _ _ _ _ _ _)) ?_
 refine a7 (N6 _ _) ?_
 exact hR (b2J && (decide (X1 = x1))) H_6 _ I_8.drop h
theorem b8V (x0 : b6) (x1 : Int) {H : Hp} {K : Bool → Hp → Prop} (h : a4Q x0 x1 H K) : X9 x0 x1 H K := by
 intro w I
 refine g6N ?_
 refine b8j x0 x1 I (fun r0 H' w' I' hk => ⟨H', _, I', r0, rfl, rfl, hk⟩) h
def B8 (J8 : (List b6)) (H : Hp) (K : Sl → Hp → Prop) : Prop :=
 ∀ (u7 : Sl) (K2 : Hp), Hle H K2 → SlH K2 4 b8 u7 J8 → u7.n ≤ u7.c →
 K u7 K2
def B9 (N0 : Sl) (U1 : Int) (p7 : (List b6)) (o7 : Int) (H : Hp) (n2 : ((List b6) × Int) → Hp → Prop) (K : Sl → Hp → Prop) : Prop :=
 (o7 < U1 →
 (0 : Int) ≤ o7 ∧ (o7 : Int) < N0.n ∧ ∃ x_1 : b6, EltH H N0 o7 4 (b8 x_1) ∧
 a3I x_1 H (fun (C3 : b6) (O7 : Hp) =>
 (p7.length + ([C3] : List b6).length) * 57 ≤ 140737488355328 ∧
 n2 ((p7 ++ [C3]), (IntKind.wrap .i64 (o7 + 1))) O7)) ∧
 (¬ (o7 < U1) →
 B8 p7 H K)
def D5 (x0 : Sl) (H : Hp) (K : Sl → Hp → Prop) : Prop :=
 TL (([], 0) : (List b6) × Int) H fun (s : (List b6) × Int) H n2 => B9 x0 (x0.n : Int) s.1 s.2 H n2 K
theorem a1x (x0 : Sl) {K : Sl → Hp → Prop} (I : Inv w0 ps0 H0 H [] w) (hR : ∀ (r0 : Sl) (H' : Hp) (w' : World) (_ : Inv w0 ps0 H0 H' [] w') (_ : K r0 H'), R (vs r0) w') (h : D5 x0 H K) : F66 (vs x0) (fC 40) w R E := by
 unfold D5 at h
 unfold F66
 have hj1 : ∀ (J8 : (List b6)) (u7 : Sl) (Fs5j1 : Frag) (H : Hp) (w : World) (_ : RowL 53 4 b8 u7 J8 Fs5j1) (_ : Inv w0 ps0 H0 H [Fs5j1] w) (_ : B8 J8 H K), d2N (vs u7) w R E := by
  intro J8 u7 Fs5j1 H w a5i I h
  unfold d2N
  intro _
  unfold B8 at h
  obtain ⟨K2, a5A, a6n, a1u, a3F⟩ := Inv.freezeC I a5i (by decide)
  replace h := h u7 K2 a6n a1u a3F
  exact hR u7 K2 _ a5A h
 refine A7 fun j1 hx1 => ?_
 refine a7 (a2l _ _ _) ?_
 obtain ⟨Z7, O6, a7P, a7Q⟩ := h
 refine M6 (J := fun n l w => ∃ (s : (List b6) × Int) (H : Hp) (J9 : Sl) (Fs5l2 : Frag) , n = O6 s ∧ l = (match s with | (p7, o7) => [(vs J9), (vi o7)]) ∧ (match s with | (p7, o7) => RowL 53 4 b8 J9 p7 Fs5l2) ∧ (match s with | (p7, o7) => Inv w0 ps0 H0 H [Fs5l2] w) ∧ Z7 s H) ⟨_, ([], 0), H, (Sl.mk none 0 0), [], rfl, rfl, (RowL.nil a2j a2k), I.nil, a7P⟩ ?_
 rintro b9O τ_50 w next2 ⟨⟨p7, o7⟩, H, J9, Fs5l2, rfl, Y0, S8, I, a7R⟩ hn2
 dsimp only at Y0 I S8
 simp only [List.map_cons, List.map_nil, List.cons.injEq, and_true] at Y0
 obtain ⟨e5, e10⟩ := Y0
 simp only [e5, e10]
 obtain ⟨n2, hm2, h⟩ : ∃ n2 : ((List b6) × Int) → Hp → Prop, (∀ s' H', n2 s' H' → Z7 s' H' ∧ O6 s' < O6 (p7, o7)) ∧ B9 x0 (x0.n : Int) p7 o7 H n2 K := ⟨_, fun _ _ h => h, a7Q (p7, o7) H (fun s' H' => Z7 s' H' ∧ O6 s' < O6 (p7, o7)) a7R (fun _ _ a b => ⟨a, b⟩)⟩
 unfold e2K
 unfold B9 at h
 refine a7 (D7 _ _ _ _ _ _) ?_
 refine j8 (fun V8 => ?_) (fun V8 => ?_)
 ·replace h := h.1 V8
  obtain ⟨h_4, h_5, x_1, h_7, h⟩ := h
  obtain ⟨g_2, o_3, h_6, h_7⟩ := h_7
  refine a7 (M4 h_6 _ _ _ _ h_4 h_5) ?_
  refine d7 (ldA (vs := (b8 x_1)) Tryz.isAgg53 Tryz.sizeOf53 rfl (I.atH h_7)) ?_
  refine y9 I Tryz.zeroValue53 (cs := [(vi 0), (vi 0), (eS), (nS)]) rfl fun g_9 q7 a0V b0j => ?_
  refine m7 a0V Tryz.sizeOf53 (vs := (b8 x_1)) (cs' := (b8 x_1)) rfl rfl (nb rfl) rfl rfl fun a0e O8 a3V => ?_
  refine d7 (ldA Tryz.isAgg53 Tryz.sizeOf53 rfl (O8.at1 (o := 0) (vs := (b8 x_1)) (nb rfl) rfl)) ?_
  refine d8 (cap := []) (fun args w => Tryz.call40 args w) ?_
  refine o0 (Fi := []) (Fr := [bx g_9 53 (b8 x_1), Fs5l2]) O8 (h) (fun b5C O7 b3D X8 a1v b5D b5E a5B => ?_) (fun _ _ _ _ _ q => q.elim)
  obtain ⟨C3, rfl, rfl, h⟩ := a5B
  refine a1s (e := 53) (c := b8) (xs := [C3]) a1v (c6o _ _ _ _ _ _) rfl rfl a2j a2k (nb rfl) fun b2j b0k D8 a4I V9 a8E => ?_
  obtain ⟨a5C, h⟩ := h
  refine e1n (s := J9) (xs := p7) (V9.bring 2) S8 (a4I.srcO ((V9.bring 2).bring 1)) a5C fun a4o a7p B3 a3W a2p b0M => ?_
  refine a7 (L6 _ _ _ _ _ _) ?_
  exact hn2 _ _ _ (hm2 _ _ h).2 ⟨((p7 ++ [C3]), (IntKind.wrap .i64 (o7 + 1))), O7, a4o, a7p, rfl, rfl, a3W, ((a2p.bring 1).drop.bring 1).drop, (hm2 _ _ h).1⟩
 ·replace h := h.2 V8
  exact hx1 _ _ (hj1 p7 J9 Fs5l2 H _ S8 I h)
theorem a1z (x0 : Sl) {H : Hp} {K : Sl → Hp → Prop} (h : D5 x0 H K) : A9 x0 H K := by
 intro w I
 refine g5U ?_
 refine a1x x0 I (fun r0 H' w' I' hk => ⟨H', _, I', r0, rfl, rfl, hk⟩) h
def a3u (x0 : Int) (H : Hp) (K : b6 → Hp → Prop) : Prop :=
 (x0 < 0 →
 ∀ (s_7 : Sl) (O7 : Hp), Hle H O7 → SlH O7 4 b8 s_7 [(b6.mk 1 (IntKind.wrap .i64 (0 - x0)) ⟨#[]⟩ (Sl.mk none 0 0))] → s_7.n ≤ s_7.c →
 K (b6.mk 5 0 ⟨#[]⟩ s_7) O7) ∧
 (¬ (x0 < 0) →
 K (b6.mk 1 x0 ⟨#[]⟩ (Sl.mk none 0 0)) H)
theorem b4N (x0 : Int) {K : b6 → Hp → Prop} (I : Inv w0 ps0 H0 H [] w) (hR : ∀ (r0 : b6) (H' : Hp) (w' : World) (_ : Inv w0 ps0 H0 H' [] w') (_ : K r0 H'), R (Value.agg (b8 r0).toArray) w') (h : a3u x0 H K) : F68 (vi x0) w R E := by
 unfold a3u at h
 unfold F68
 refine y9 I Tryz.zeroValue53 (cs := [(vi 0), (vi 0), (eS), (nS)]) rfl fun g_2 w_3 I_4 k_5 => ?_
 refine a7 (D7 _ _ _ _ _ _) ?_
 refine j8 (fun c3i => ?_) (fun c3i => ?_)
 ·replace h := h.1 c3i
  refine a7 (c4e _ _) ?_
  refine a7 (b2f _ _) ?_
  refine a1s (e := 53) (c := b8) (xs := [(b6.mk 1 (IntKind.wrap .i64 (0 - x0)) ⟨#[]⟩ (Sl.mk none 0 0))]) I_4 (c6o _ _ _ _ _ _) rfl rfl a2j a2k (nb rfl) fun s_7 F_8 w_9 b3Q a0V b0j => ?_
  refine a7 (b2e _ _ _ _) ?_
  refine m7 (a0V.bring 1) Tryz.sizeOf53 (vs := [(vi 5), (vi 0), (eS), (vs s_7)]) (cs' := [(vi 5), (vi 0), (eS), (vs s_7)]) rfl rfl (nb rfl) rfl rfl fun a0e O8 a3V => ?_
  refine L4 Tryz.isAgg53 Tryz.sizeOf53 rfl (O8.at1 (o := 0) (vs := [(vi 5), (vi 0), (eS), (vs s_7)]) (nb rfl) rfl) ?_
  obtain ⟨O7, c0a, b5U, a7U, e6L⟩ := Inv.freezeC (O8.bring 1) b3Q (by decide)
  replace h := h s_7 O7 b5U a7U e6L
  exact hR (b6.mk 5 0 ⟨#[]⟩ s_7) O7 _ c0a.drop h
 ·replace h := h.2 c3i
  refine a7 (b2f _ _) ?_
  refine m7 I_4 Tryz.sizeOf53 (vs := [(vi 1), (vi x0), (eS), (nS)]) (cs' := [(vi 1), (vi x0), (eS), (nS)]) rfl rfl (nb rfl) rfl rfl fun a0f d7N h8I => ?_
  refine L4 Tryz.isAgg53 Tryz.sizeOf53 rfl (d7N.at1 (o := 0) (vs := [(vi 1), (vi x0), (eS), (nS)]) (nb rfl) rfl) ?_
  exact hR (b6.mk 1 x0 ⟨#[]⟩ (Sl.mk none 0 0)) H _ d7N.drop h
theorem b5V (x0 : Int) {H : Hp} {K : b6 → Hp → Prop} (h : a3u x0 H K) : a3p x0 H K := by
 intro w I
 refine g5Y ?_
 refine b4N x0 I (fun r0 H' w' I' hk => ⟨H', _, I', r0, rfl, rfl, hk⟩) h
def D3 (c0v : Int) (b8k : Int) (b3R : a4z) (a0Z : b6) (H : Hp) (K : Int → Bool → Hp → Prop) : Prop :=
 K c0v ((decide (b8k = 0)) && (!decide (c0v = (-9223372036854775808)))) H
def a0k (q8 : a4z) (v8 : b6) (H : Hp) (K : Int → Bool → Hp → Prop) : Prop :=
 (v8.a8 = 5 →
 (0 : Int) ≤ 0 ∧ (0 : Int) < 2 ∧
 a6F (([q8.f0, q8.f1] : List Int).getD (0 : Int).toNat 0) H (fun (i8 : Int) (b0u : Int) (a0W : Hp) =>
 D3 i8 b0u q8 v8 a0W K)) ∧
 (¬ (v8.a8 = 5) →
 (v8.a8 = 6 →
 (0 : Int) ≤ 0 ∧ (0 : Int) < 2 ∧
 (0 : Int) ≤ 1 ∧ (1 : Int) < 2 ∧
 a6G (([q8.f0, q8.f1] : List Int).getD (0 : Int).toNat 0) (([q8.f0, q8.f1] : List Int).getD (1 : Int).toNat 0) H (fun (b5e : Int) (c8N : Int) (c2S : Hp) =>
 D3 b5e c8N q8 v8 c2S K)) ∧
 (¬ (v8.a8 = 6) →
 (v8.a8 = 7 →
 (0 : Int) ≤ 0 ∧ (0 : Int) < 2 ∧
 (0 : Int) ≤ 1 ∧ (1 : Int) < 2 ∧
 a4G (([q8.f0, q8.f1] : List Int).getD (0 : Int).toNat 0) (([q8.f0, q8.f1] : List Int).getD (1 : Int).toNat 0) H (fun (a4l : Int) (c8O : Int) (a9n : Hp) =>
 D3 a4l c8O q8 v8 a9n K)) ∧
 (¬ (v8.a8 = 7) →
 (v8.a8 = 8 →
 (0 : Int) ≤ 0 ∧ (0 : Int) < 2 ∧
 (0 : Int) ≤ 1 ∧ (1 : Int) < 2 ∧
 a6H (([q8.f0, q8.f1] : List Int).getD (0 : Int).toNat 0) (([q8.f0, q8.f1] : List Int).getD (1 : Int).toNat 0) H (fun (c8P : Int) (c8Q : Int) (e6M : Hp) =>
 D3 c8P c8Q q8 v8 e6M K)) ∧
 (¬ (v8.a8 = 8) →
 (v8.a8 = 9 →
 (0 : Int) ≤ 0 ∧ (0 : Int) < 2 ∧
 (0 : Int) ≤ 1 ∧ (1 : Int) < 2 ∧
 a6I (([q8.f0, q8.f1] : List Int).getD (0 : Int).toNat 0) (([q8.f0, q8.f1] : List Int).getD (1 : Int).toNat 0) H (fun (c5o : Int) (c5p : Int) (e6N : Hp) =>
 D3 c5o c5p q8 v8 e6N K)) ∧
 (¬ (v8.a8 = 9) →
 (v8.a8 = 10 →
 (0 : Int) ≤ 0 ∧ (0 : Int) < 2 ∧
 (0 : Int) ≤ 1 ∧ (1 : Int) < 2 ∧
 a6J (([q8.f0, q8.f1] : List Int).getD (0 : Int).toNat 0) (([q8.f0, q8.f1] : List Int).getD (1 : Int).toNat 0) H (fun (c5q : Int) (c5r : Int) (d8T : Hp) =>
 D3 c5q c5r q8 v8 d8T K)) ∧
 (¬ (v8.a8 = 10) →
 D3 0 2 q8 v8 H K))))))
def a0l (f0a : Sl) (f0b : Int) (b0v : b6) (a2e : Int) (Z8 : a4z) (H : Hp) (n3 : (Int × a4z) → Hp → Prop) (K : Int → Bool → Hp → Prop) : Prop :=
 (a2e < f0b →
 (0 : Int) ≤ a2e ∧ (a2e : Int) < f0a.n ∧ ∃ b5g : b6, EltH H f0a a2e 4 (b8 b5g) ∧
 Q0 b5g H (fun (b0w : Int) (c5s : Bool) (c5t : Hp) =>
 ((!c5s) = true →
 K 0 false c5t) ∧
 ((!c5s) = false →
 (0 : Int) ≤ a2e ∧ (a2e : Int) < 2 ∧
 n3 ((IntKind.wrap .i64 (a2e + 1)), (a4z.mk (if a2e = 0 then b0w else Z8.f0) (if a2e = 1 then b0w else Z8.f1))) c5t))) ∧
 (¬ (a2e < f0b) →
 a0k Z8 b0v H K)
def a1k (x0 : b6) (H : Hp) (K : Int → Bool → Hp → Prop) : Prop :=
 TL ((0, (a4z.mk 0 0)) : Int × a4z) H fun (s : Int × a4z) H n3 => a0l x0.o9 (x0.o9.n : Int) x0 s.1 s.2 H n3 K
theorem b2q (x0 : b6) {K : Int → Bool → Hp → Prop} (I : Inv w0 ps0 H0 H [] w) (hR : ∀ (r0 : Int) (r1 : Bool) (H' : Hp) (w' : World) (_ : Inv w0 ps0 H0 H' [] w') (_ : K r0 r1 H'), R (Value.tuple #[(vi r0), (vB r1)]) w') (h : a1k x0 H K) : F69 (Value.agg (b8 x0).toArray) w R E := by
 unfold a1k at h
 unfold F69
 refine L9 I (cs := (b8 x0)) rfl fun g_2 w_3 I_4 k_5 => ?_
 refine y9 I_4 Tryz.zeroValue173 (cs := [(vi 0), (vi 0)]) rfl fun g_7 w_8 I_9 a9w => ?_
 have hj1 : ∀ (q8 : a4z) (H : Hp) (w : World) (_ : Inv w0 ps0 H0 H [bx g_7 173 [(vi q8.f0), (vi q8.f1)], bx g_2 53 (b8 x0)] w) (_ : a0k q8 x0 H K), d2U (Value.pointer (some ⟨g_2, 0, none⟩)) (Value.pointer (some ⟨g_7, 0, none⟩)) w R E := by
  intro q8 H w I h
  unfold d2U
  intro _
  unfold a0k at h
  have hj2 : ∀ (c0v : Int) (b8k : Int) (H : Hp) (w : World) (_ : Inv w0 ps0 H0 H [bx g_7 173 [(vi q8.f0), (vi q8.f1)], bx g_2 53 (b8 x0)] w) (_ : D3 c0v b8k q8 x0 H K), d2T (vi c0v) (vi b8k) w R E := by
   intro c0v b8k H w I h
   unfold d2T
   intro _
   unfold D3 at h
   refine a7 (o2 _ _ _ _ _ _) ?_
   simp only [O5]
   refine a7 (Pu.g fun hb => by have i5 := hb; simp only [s8 i5]; exact (T8 _ _ _ _ _ _)) ?_
   refine a7 (N6 _ _) ?_
   exact hR c0v ((decide (b8k = 0)) && (!decide (c0v = (-9223372036854775808)))) H _ I.drop.drop h
  refine A7 fun j2 hx2 => ?_
  refine a7 Q7 ?_
  refine d7 (ld1 Tryz.isAgg3 ((I.bring 1).at1 (o := 0) (vs := [(vi x0.a8)]) (nb rfl) rfl)) ?_
  refine a7 (o2 _ _ _ _ _ _) ?_
  refine j8 (fun d8U => ?_) (fun d8U => ?_)
  ·replace h := h.1 d8U
   obtain ⟨b8l, a1u, h⟩ := h
   refine a7 (a0I _ _ b8l a1u) ?_
   refine d7 (ld1 (v := (vi (([q8.f0, q8.f1] : List Int).getD (0 : Int).toNat 0))) Tryz.isAgg2 (Inv.b3o (n := 2) (k := .i64) (l := [q8.f0, q8.f1]) I rfl rfl b8l a1u)) ?_
   refine d8 (cap := []) (fun args w => Tryz.call112 args w) ?_
   refine o0 (Fi := []) (Fr := [bx g_7 173 [(vi q8.f0), (vi q8.f1)], bx g_2 53 (b8 x0)]) I (h) (fun d7U a0W d7V G4 b2n d7W d7X b7M => ?_) (fun _ _ _ _ _ q => q.elim)
   obtain ⟨i8, b0u, rfl, rfl, h⟩ := b7M
   refine a7 (m9 _ _ (vi i8) rfl) ?_
   refine a7 (m9 _ _ (vi b0u) rfl) ?_
   exact hx2 _ _ (hj2 i8 b0u a0W _ ((b2n.bring 1).bring 1) h)
  ·replace h := h.2 d8U
   refine a7 (o2 _ _ _ _ _ _) ?_
   refine j8 (fun b8m => ?_) (fun b8m => ?_)
   ·replace h := h.1 b8m
    obtain ⟨b9U, d7Q, h⟩ := h
    refine a7 (a0I _ _ b9U d7Q) ?_
    refine d7 (ld1 (v := (vi (([q8.f0, q8.f1] : List Int).getD (0 : Int).toNat 0))) Tryz.isAgg2 (Inv.b3o (n := 2) (k := .i64) (l := [q8.f0, q8.f1]) I rfl rfl b9U d7Q)) ?_
    obtain ⟨b9V, d8d, h⟩ := h
    refine a7 (a0I _ _ b9V d8d) ?_
    refine d7 (ld1 (v := (vi (([q8.f0, q8.f1] : List Int).getD (1 : Int).toNat 0))) Tryz.isAgg2 (Inv.b3o (n := 2) (k := .i64) (l := [q8.f0, q8.f1]) I rfl rfl b9V d8d)) ?_
    refine d8 (cap := []) (fun args w => Tryz.call113 args w) ?_
    refine o0 (Fi := []) (Fr := [bx g_7 173 [(vi q8.f0), (vi q8.f1)], bx g_2 53 (b8 x0)]) I (h) (fun h9e c2S h9f b7V b1c h9g c0d e5P => ?_) (fun _ _ _ _ _ q => q.elim)
    obtain ⟨b5e, c8N, rfl, rfl, h⟩ := e5P
    refine a7 (m9 _ _ (vi b5e) rfl) ?_
    refine a7 (m9 _ _ (vi c8N) rfl) ?_
    exact hx2 _ _ (hj2 b5e c8N c2S _ ((b1c.bring 1).bring 1) h)
   ·replace h := h.2 b8m
    refine a7 (o2 _ _ _ _ _ _) ?_
    refine j8 (fun b8n => ?_) (fun b8n => ?_)
    ·replace h := h.1 b8n
     obtain ⟨d7Y, d8V, h⟩ := h
     refine a7 (a0I _ _ d7Y d8V) ?_
     refine d7 (ld1 (v := (vi (([q8.f0, q8.f1] : List Int).getD (0 : Int).toNat 0))) Tryz.isAgg2 (Inv.b3o (n := 2) (k := .i64) (l := [q8.f0, q8.f1]) I rfl rfl d7Y d8V)) ?_
     obtain ⟨d8W, c7f, h⟩ := h
     refine a7 (a0I _ _ d8W c7f) ?_
     refine d7 (ld1 (v := (vi (([q8.f0, q8.f1] : List Int).getD (1 : Int).toNat 0))) Tryz.isAgg2 (Inv.b3o (n := 2) (k := .i64) (l := [q8.f0, q8.f1]) I rfl rfl d8W c7f)) ?_
     refine d8 (cap := []) (fun args w => Tryz.call114 args w) ?_
     refine o0 (Fi := []) (Fr := [bx g_7 173 [(vi q8.f0), (vi q8.f1)], bx g_2 53 (b8 x0)]) I (h) (fun c6O a9n e5o Q3 b3B e5p d7I c2D => ?_) (fun _ _ _ _ _ q => q.elim)
     obtain ⟨a4l, c8O, rfl, rfl, h⟩ := c2D
     refine a7 (m9 _ _ (vi a4l) rfl) ?_
     refine a7 (m9 _ _ (vi c8O) rfl) ?_
     exact hx2 _ _ (hj2 a4l c8O a9n _ ((b3B.bring 1).bring 1) h)
    ·replace h := h.2 b8n
     refine a7 (o2 _ _ _ _ _ _) ?_
     refine j8 (fun d8X => ?_) (fun d8X => ?_)
     ·replace h := h.1 d8X
      obtain ⟨g7i, g7j, h⟩ := h
      refine a7 (a0I _ _ g7i g7j) ?_
      refine d7 (ld1 (v := (vi (([q8.f0, q8.f1] : List Int).getD (0 : Int).toNat 0))) Tryz.isAgg2 (Inv.b3o (n := 2) (k := .i64) (l := [q8.f0, q8.f1]) I rfl rfl g7i g7j)) ?_
      obtain ⟨d8Y, g7k, h⟩ := h
      refine a7 (a0I _ _ d8Y g7k) ?_
      refine d7 (ld1 (v := (vi (([q8.f0, q8.f1] : List Int).getD (1 : Int).toNat 0))) Tryz.isAgg2 (Inv.b3o (n := 2) (k := .i64) (l := [q8.f0, q8.f1]) I rfl rfl d8Y g7k)) ?_
      refine d8 (cap := []) (fun args w => Tryz.call115 args w) ?_
      refine o0 (Fi := []) (Fr := [bx g_7 173 [(vi q8.f0), (vi q8.f1)], bx g_2 53 (b8 x0)]) I (h) (fun i5c e6M i5d c7e e6O d8Z i5e h9T => ?_) (fun _ _ _ _ _ q => q.elim)
      obtain ⟨c8P, c8Q, rfl, rfl, h⟩ := h9T
      refine a7 (m9 _ _ (vi c8P) rfl) ?_
      refine a7 (m9 _ _ (vi c8Q) rfl) ?_
      exact hx2 _ _ (hj2 c8P c8Q e6M _ ((e6O.bring 1).bring 1) h)
     ·replace h := h.2 d8X
      refine a7 (o2 _ _ _ _ _ _) ?_
      refine j8 (fun d9a => ?_) (fun d9a => ?_)
      ·replace h := h.1 d9a
       obtain ⟨g7l, g7m, h⟩ := h
       refine a7 (a0I _ _ g7l g7m) ?_
       refine d7 (ld1 (v := (vi (([q8.f0, q8.f1] : List Int).getD (0 : Int).toNat 0))) Tryz.isAgg2 (Inv.b3o (n := 2) (k := .i64) (l := [q8.f0, q8.f1]) I rfl rfl g7l g7m)) ?_
       obtain ⟨g7n, d9b, h⟩ := h
       refine a7 (a0I _ _ g7n d9b) ?_
       refine d7 (ld1 (v := (vi (([q8.f0, q8.f1] : List Int).getD (1 : Int).toNat 0))) Tryz.isAgg2 (Inv.b3o (n := 2) (k := .i64) (l := [q8.f0, q8.f1]) I rfl rfl g7n d9b)) ?_
       refine d8 (cap := []) (fun args w => Tryz.call116 args w) ?_
       refine o0 (Fi := []) (Fr := [bx g_7 173 [(vi q8.f0), (vi q8.f1)], bx g_2 53 (b8 x0)]) I (h) (fun i5f e6N i1V a6d h9U i1W i5g h4U => ?_) (fun _ _ _ _ _ q => q.elim)
       obtain ⟨c5o, c5p, rfl, rfl, h⟩ := h4U
       refine a7 (m9 _ _ (vi c5o) rfl) ?_
       refine a7 (m9 _ _ (vi c5p) rfl) ?_
       exact hx2 _ _ (hj2 c5o c5p e6N _ ((h9U.bring 1).bring 1) h)
      ·replace h := h.2 d9a
       refine a7 (o2 _ _ _ _ _ _) ?_
       refine j8 (fun d9c => ?_) (fun d9c => ?_)
       ·replace h := h.1 d9c
        obtain ⟨f0c, f0d, h⟩ := h
        refine a7 (a0I _ _ f0c f0d) ?_
        refine d7 (ld1 (v := (vi (([q8.f0, q8.f1] : List Int).getD (0 : Int).toNat 0))) Tryz.isAgg2 (Inv.b3o (n := 2) (k := .i64) (l := [q8.f0, q8.f1]) I rfl rfl f0c f0d)) ?_
        obtain ⟨c8R, f0e, h⟩ := h
        refine a7 (a0I _ _ c8R f0e) ?_
        refine d7 (ld1 (v := (vi (([q8.f0, q8.f1] : List Int).getD (1 : Int).toNat 0))) Tryz.isAgg2 (Inv.b3o (n := 2) (k := .i64) (l := [q8.f0, q8.f1]) I rfl rfl c8R f0e)) ?_
        refine d8 (cap := []) (fun args w => Tryz.call117 args w) ?_
        refine o0 (Fi := []) (Fr := [bx g_7 173 [(vi q8.f0), (vi q8.f1)], bx g_2 53 (b8 x0)]) I (h) (fun i1X d8T i1Y c1x h4V i1Z i2a h4W => ?_) (fun _ _ _ _ _ q => q.elim)
        obtain ⟨c5q, c5r, rfl, rfl, h⟩ := h4W
        refine a7 (m9 _ _ (vi c5q) rfl) ?_
        refine a7 (m9 _ _ (vi c5r) rfl) ?_
        exact hx2 _ _ (hj2 c5q c5r d8T _ ((h4V.bring 1).bring 1) h)
       ·replace h := h.2 d9c
        exact hx2 _ _ (hj2 0 2 H _ ((I.bring 1).bring 1) h)
 refine A7 fun j1 hx1 => ?_
 refine a7 K5 ?_
 refine d7 (ld1 Tryz.isAgg51 ((I_9.bring 1).at1 (o := 3) (vs := [(vs x0.o9)]) (nb rfl) rfl)) ?_
 refine a7 (a2l _ _ _) ?_
 obtain ⟨d9d, c5u, h4X, h4Y⟩ := h
 refine M6 (J := fun n l w => ∃ (s : Int × a4z) (H : Hp) , n = c5u s ∧ l = (match s with | (a2e, Z8) => [(vi a2e)]) ∧ (match s with | (a2e, Z8) => Inv w0 ps0 H0 H [bx g_7 173 [(vi Z8.f0), (vi Z8.f1)], bx g_2 53 (b8 x0)] w) ∧ d9d s H) ⟨_, (0, (a4z.mk 0 0)), H, rfl, rfl, ((I_9.bring 1).bring 1), h4X⟩ ?_
 rintro i2b τ_168 w next3 ⟨⟨a2e, Z8⟩, H, rfl, d9e, I, h4Z⟩ hn3
 dsimp only at d9e I
 simp only [List.map_cons, List.map_nil, List.cons.injEq, and_true] at d9e
 have e14 := d9e
 simp only [e14]
 obtain ⟨n3, hm3, h⟩ : ∃ n3 : (Int × a4z) → Hp → Prop, (∀ s' H', n3 s' H' → d9d s' H' ∧ c5u s' < c5u (a2e, Z8)) ∧ a0l x0.o9 (x0.o9.n : Int) x0 a2e Z8 H n3 K := ⟨_, fun _ _ h => h, h4Y (a2e, Z8) H (fun s' H' => d9d s' H' ∧ c5u s' < c5u (a2e, Z8)) h4Z (fun _ _ a b => ⟨a, b⟩)⟩
 unfold e2Q
 unfold a0l at h
 refine a7 (D7 _ _ _ _ _ _) ?_
 refine j8 (fun d9f => ?_) (fun d9f => ?_)
 ·replace h := h.1 d9f
  obtain ⟨h5a, h5b, b5g, d9g, h⟩ := h
  obtain ⟨i2c, i2d, h5c, d9g⟩ := d9g
  refine a7 (M4 h5c _ _ _ _ h5a h5b) ?_
  refine d7 (ldA (vs := (b8 b5g)) Tryz.isAgg53 Tryz.sizeOf53 rfl (I.atH d9g)) ?_
  refine y9 I Tryz.zeroValue53 (cs := [(vi 0), (vi 0), (eS), (nS)]) rfl fun h5d f0f h5e i2e => ?_
  refine m7 h5e Tryz.sizeOf53 (vs := (b8 b5g)) (cs' := (b8 b5g)) rfl rfl (nb rfl) rfl rfl fun b2D f0g i2f => ?_
  refine d7 (ldA Tryz.isAgg53 Tryz.sizeOf53 rfl (f0g.at1 (o := 0) (vs := (b8 b5g)) (nb rfl) rfl)) ?_
  refine d8 (cap := []) (fun args w => Tryz.call67 args w) ?_
  refine o0 (Fi := []) (Fr := [bx h5d 53 (b8 b5g), bx g_7 173 [(vi Z8.f0), (vi Z8.f1)], bx g_2 53 (b8 x0)]) f0g (h) (fun i2g c5t i2h b7z f0h i2i i2j h5f => ?_) (fun _ _ _ _ _ q => q.elim)
  obtain ⟨b0w, c5s, rfl, rfl, h⟩ := h5f
  refine a7 (m9 _ _ (vi b0w) rfl) ?_
  refine a7 (m9 _ _ (vB c5s) rfl) ?_
  refine a7 (a0X _) ?_
  refine u0 (fun d9h => ?_) (fun d9h => ?_)
  ·replace h := h.1 d9h
   exact hR 0 false c5t _ f0h.drop.drop.drop h
  ·replace h := h.2 d9h
   obtain ⟨f0i, c8S, h⟩ := h
   refine a7 (a0I _ _ f0i c8S) ?_
   refine m7 (f0h.bring 1) Tryz.sizeOf2 (vs := [(vi b0w)]) (cs' := [(vi (if a2e = 0 then b0w else Z8.f0)), (vi (if a2e = 1 then b0w else Z8.f1))]) rfl rfl (by simp only [List.length_cons, List.length_nil]; omega) rfl (e5a f0i c8S) fun b7A h5g i2k => ?_
   refine a7 (L6 _ _ _ _ _ _) ?_
   exact hn3 _ _ _ (hm3 _ _ h).2 ⟨((IntKind.wrap .i64 (a2e + 1)), (a4z.mk (if a2e = 0 then b0w else Z8.f0) (if a2e = 1 then b0w else Z8.f1))), c5t, rfl, rfl, (((h5g.bring 1).drop.bring 1).bring 1), (hm3 _ _ h).1⟩
 ·replace h := h.2 d9f
  exact hx1 _ _ (hj1 Z8 H _ ((I.bring 1).bring 1) h)
theorem b2O (x0 : b6) {H : Hp} {K : Int → Bool → Hp → Prop} (h : a1k x0 H K) : a4j x0 H K := by
 intro w I
 refine g6K ?_
 refine b2q x0 I (fun r0 r1 H' w' I' hk => ⟨H', _, I', r0, r1, rfl, rfl, hk⟩) h
def U3 (v8 : b6) (q8 : b6) (H : Hp) (K : b6 → Hp → Prop) : Prop :=
 K v8 H
def Z9 (h9V : Int) (a0t : b6) (g7o : b6) (H : Hp) (K : b6 → Hp → Prop) : Prop :=
 (0 : Int) ≤ 1 ∧ (1 : Int) < a0t.o9.n ∧ ∃ d9i : b6, EltH H a0t.o9 1 4 (b8 d9i) ∧
 X9 d9i h9V H (fun (d2Y : Bool) (c7g : Hp) =>
 (d2Y = true →
 (0 : Int) ≤ 0 ∧ (0 : Int) < a0t.o9.n ∧ ∃ a6Y : b6, EltH c7g a0t.o9 0 4 (b8 a6Y) ∧
 K a6Y c7g) ∧
 (d2Y = false →
 U3 a0t g7o c7g K))
def U4 (a0Z : b6) (b3R : b6) (H : Hp) (K : b6 → Hp → Prop) : Prop :=
 (0 : Int) ≤ 1 ∧ (1 : Int) < a0Z.o9.n ∧ ∃ c8T : b6, EltH H a0Z.o9 1 4 (b8 c8T) ∧
 X9 c8T 1 H (fun (d2Z : Bool) (c1y : Hp) =>
 (d2Z = true →
 (0 : Int) ≤ 0 ∧ (0 : Int) < a0Z.o9.n ∧ ∃ b5h : b6, EltH c1y a0Z.o9 0 4 (b8 b5h) ∧
 K b5h c1y) ∧
 (d2Z = false →
 U3 a0Z b3R c1y K))
def a3L (x0 : b6) (H : Hp) (K : b6 → Hp → Prop) : Prop :=
 A9 x0.o9 H (fun (o4 : Sl) (W2 : Hp) =>
 Q0 (b6.mk x0.a8 x0.p5 x0.b7 o4) W2 (fun (a3s : Int) (c8U : Bool) (a5E : Hp) =>
 (c8U = true →
 a3p a3s a5E (fun (a3M : b6) (a9v : Hp) =>
 K a3M a9v)) ∧
 (c8U = false →
 a4j (b6.mk x0.a8 x0.p5 x0.b7 o4) a5E (fun (b8o : Int) (b2P : Bool) (a8H : Hp) =>
 (b2P = true →
 a3p b8o a8H (fun (b1F : b6) (b8p : Hp) =>
 K b1F b8p)) ∧
 (b2P = false →
 (x0.a8 = 6 →
 (0 : Int) ≤ 0 ∧ (0 : Int) < o4.n ∧ ∃ d9j : b6, EltH a8H o4 0 4 (b8 d9j) ∧
 X9 d9j 0 a8H (fun (a7y : Bool) (a4X : Hp) =>
 (a7y = true →
 (0 : Int) ≤ 1 ∧ (1 : Int) < o4.n ∧ ∃ c0w : b6, EltH a4X o4 1 4 (b8 c0w) ∧
 K c0w a4X) ∧
 (a7y = false →
 Z9 0 (b6.mk x0.a8 x0.p5 x0.b7 o4) (b6.mk 0 0 ⟨#[]⟩ (Sl.mk none 0 0)) a4X K))) ∧
 (¬ (x0.a8 = 6) →
 (x0.a8 = 7 →
 Z9 0 (b6.mk x0.a8 x0.p5 x0.b7 o4) (b6.mk 0 0 ⟨#[]⟩ (Sl.mk none 0 0)) a8H K) ∧
 (¬ (x0.a8 = 7) →
 (x0.a8 = 8 →
 (0 : Int) ≤ 0 ∧ (0 : Int) < o4.n ∧ ∃ c8V : b6, EltH a8H o4 0 4 (b8 c8V) ∧
 X9 c8V 1 a8H (fun (b1X : Bool) (c1z : Hp) =>
 ∃ c8W : b6, (b1X = true → (0 : Int) ≤ 1 ∧ (1 : Int) < o4.n ∧ EltH c1z o4 1 4 (b8 c8W)) ∧
 TG (b1X = true) (X9 c8W 1 c1z) false c1z (fun (b0x : Bool) (a7z : Hp) =>
 ((b1X && (!b0x)) = true →
 (0 : Int) ≤ 1 ∧ (1 : Int) < o4.n ∧ ∃ b0y : b6, EltH a7z o4 1 4 (b8 b0y) ∧
 K b0y a7z) ∧
 ((b1X && (!b0x)) = false →
 U4 (b6.mk x0.a8 x0.p5 x0.b7 o4) (b6.mk 0 0 ⟨#[]⟩ (Sl.mk none 0 0)) a7z K)))) ∧
 (¬ (x0.a8 = 8) →
 (x0.a8 = 9 →
 U4 (b6.mk x0.a8 x0.p5 x0.b7 o4) (b6.mk 0 0 ⟨#[]⟩ (Sl.mk none 0 0)) a8H K) ∧
 (¬ (x0.a8 = 9) →
 U3 (b6.mk x0.a8 x0.p5 x0.b7 o4) (b6.mk 0 0 ⟨#[]⟩ (Sl.mk none 0 0)) a8H K)))))))))
theorem b5W (x0 : b6) {K : b6 → Hp → Prop} (I : Inv w0 ps0 H0 H [] w) (hR : ∀ (r0 : b6) (H' : Hp) (w' : World) (_ : Inv w0 ps0 H0 H' [] w') (_ : K r0 H'), R (Value.agg (b8 r0).toArray) w') (h : a3L x0 H K) : F40 (Value.agg (b8 x0).toArray) w R E := by
 unfold a3L at h
 unfold F40
 refine L9 I (cs := (b8 x0)) rfl fun g_2 w_3 I_4 k_5 => ?_
 refine y9 I_4 Tryz.zeroValue53 (cs := [(vi 0), (vi 0), (eS), (nS)]) rfl fun g_7 w_8 I_9 a9w => ?_
 refine a7 K5 ?_
 refine d7 (ld1 Tryz.isAgg51 ((I_9.bring 1).at1 (o := 3) (vs := [(vs x0.o9)]) (nb rfl) rfl)) ?_
 refine d8 (cap := []) (fun args w => Tryz.call66 args w) ?_
 refine o0 (Fi := []) (Fr := [bx g_7 53 [(vi 0), (vi 0), (eS), (nS)], bx g_2 53 (b8 x0)]) I_9 (h) (fun b8q W2 c0x q9 a3G b5U b5X b1k => ?_) (fun _ _ _ _ _ q => q.elim)
 obtain ⟨o4, rfl, rfl, h⟩ := b1k
 refine a7 K5 ?_
 refine m7 (a3G.bring 1) Tryz.sizeOf51 (vs := [(vs o4)]) (cs' := [(vi x0.a8), (vi x0.p5), (Value.string x0.b7), (vs o4)]) rfl rfl (nb rfl) rfl rfl fun u9 a1U b9M => ?_
 refine d7 (ldA Tryz.isAgg53 Tryz.sizeOf53 rfl (a1U.at1 (o := 0) (vs := [(vi x0.a8), (vi x0.p5), (Value.string x0.b7), (vs o4)]) (nb rfl) rfl)) ?_
 refine d8 (cap := []) (fun args w => Tryz.call67 args w) ?_
 refine o0 (Fi := []) (Fr := [bx g_2 53 [(vi x0.a8), (vi x0.p5), (Value.string x0.b7), (vs o4)], bx g_7 53 [(vi 0), (vi 0), (eS), (nS)]]) a1U (h) (fun e5K a5E d1f z6 a6p e5L d7O c2P => ?_) (fun _ _ _ _ _ q => q.elim)
 obtain ⟨a3s, c8U, rfl, rfl, h⟩ := c2P
 refine a7 (m9 _ _ (vi a3s) rfl) ?_
 refine a7 (m9 _ _ (vB c8U) rfl) ?_
 refine u0 (fun d9k => ?_) (fun d9k => ?_)
 ·replace h := h.1 d9k
  refine d8 (cap := []) (fun args w => Tryz.call68 args w) ?_
  refine o0 (Fi := []) (Fr := [bx g_2 53 [(vi x0.a8), (vi x0.p5), (Value.string x0.b7), (vs o4)], bx g_7 53 [(vi 0), (vi 0), (eS), (nS)]]) a6p (h) (fun h9W a9v h9X a8G c2G h9Y h9Z e6P => ?_) (fun _ _ _ _ _ q => q.elim)
  obtain ⟨a3M, rfl, rfl, h⟩ := e6P
  refine m7 (c2G.bring 1) Tryz.sizeOf53 (vs := (b8 a3M)) (cs' := (b8 a3M)) rfl rfl (nb rfl) rfl rfl fun b7y g7p i5h => ?_
  refine L4 Tryz.isAgg53 Tryz.sizeOf53 rfl (g7p.at1 (o := 0) (vs := (b8 a3M)) (nb rfl) rfl) ?_
  exact hR a3M a9v _ g7p.drop.drop h
 ·replace h := h.2 d9k
  refine d7 (ldA Tryz.isAgg53 Tryz.sizeOf53 rfl (a6p.at1 (o := 0) (vs := [(vi x0.a8), (vi x0.p5), (Value.string x0.b7), (vs o4)]) (nb rfl) rfl)) ?_
  refine d8 (cap := []) (fun args w => Tryz.call69 args w) ?_
  refine o0 (Fi := []) (Fr := [bx g_2 53 [(vi x0.a8), (vi x0.p5), (Value.string x0.b7), (vs o4)], bx g_7 53 [(vi 0), (vi 0), (eS), (nS)]]) a6p (h) (fun i0a a8H i0b b2g a9E Y0 i0c e6Q => ?_) (fun _ _ _ _ _ q => q.elim)
  obtain ⟨b8o, b2P, rfl, rfl, h⟩ := e6Q
  refine a7 (m9 _ _ (vi b8o) rfl) ?_
  refine a7 (m9 _ _ (vB b2P) rfl) ?_
  refine u0 (fun d9l => ?_) (fun d9l => ?_)
  ·replace h := h.1 d9l
   refine d8 (cap := []) (fun args w => Tryz.call68 args w) ?_
   refine o0 (Fi := []) (Fr := [bx g_2 53 [(vi x0.a8), (vi x0.p5), (Value.string x0.b7), (vs o4)], bx g_7 53 [(vi 0), (vi 0), (eS), (nS)]]) a9E (h) (fun i0d b8p i0e N7 c7h i0f g7q e6R => ?_) (fun _ _ _ _ _ q => q.elim)
   obtain ⟨b1F, rfl, rfl, h⟩ := e6R
   refine m7 (c7h.bring 1) Tryz.sizeOf53 (vs := (b8 b1F)) (cs' := (b8 b1F)) rfl rfl (nb rfl) rfl rfl fun P6 b9Z c6V => ?_
   refine L4 Tryz.isAgg53 Tryz.sizeOf53 rfl (b9Z.at1 (o := 0) (vs := (b8 b1F)) (nb rfl) rfl) ?_
   exact hR b1F b8p _ b9Z.drop.drop h
  ·replace h := h.2 d9l
   have hj1 : ∀ (H : Hp) (w : World) (_ : Inv w0 ps0 H0 H [bx g_2 53 [(vi (b6.mk x0.a8 x0.p5 x0.b7 o4).a8), (vi (b6.mk x0.a8 x0.p5 x0.b7 o4).p5), (Value.string (b6.mk x0.a8 x0.p5 x0.b7 o4).b7), (Value.slice (b6.mk x0.a8 x0.p5 x0.b7 o4).o9.a (b6.mk x0.a8 x0.p5 x0.b7 o4).o9.n (b6.mk x0.a8 x0.p5 x0.b7 o4).o9.c)], bx g_7 53 [(vi (b6.mk 0 0 ⟨#[]⟩ (Sl.mk none 0 0)).a8), (vi (b6.mk 0 0 ⟨#[]⟩ (Sl.mk none 0 0)).p5), (Value.string (b6.mk 0 0 ⟨#[]⟩ (Sl.mk none 0 0)).b7), (Value.slice (b6.mk 0 0 ⟨#[]⟩ (Sl.mk none 0 0)).o9.a (b6.mk 0 0 ⟨#[]⟩ (Sl.mk none 0 0)).o9.n (b6.mk 0 0 ⟨#[]⟩ (Sl.mk none 0 0)).o9.c)]] w) (_ : U3 (b6.mk x0.a8 x0.p5 x0.b7 o4) (b6.mk 0 0 ⟨#[]⟩ (Sl.mk none 0 0)) H K), d2t (Value.pointer (some ⟨g_2, 0, none⟩)) (Value.pointer (some ⟨g_7, 0, none⟩)) w R E := by
    intro H w I h
    unfold d2t
    intro _
    unfold U3 at h
    refine d7 (ldA Tryz.isAgg53 Tryz.sizeOf53 rfl (I.at1 (o := 0) (vs := [(vi (b6.mk x0.a8 x0.p5 x0.b7 o4).a8), (vi (b6.mk x0.a8 x0.p5 x0.b7 o4).p5), (Value.string (b6.mk x0.a8 x0.p5 x0.b7 o4).b7), (Value.slice (b6.mk x0.a8 x0.p5 x0.b7 o4).o9.a (b6.mk x0.a8 x0.p5 x0.b7 o4).o9.n (b6.mk x0.a8 x0.p5 x0.b7 o4).o9.c)]) (nb rfl) rfl)) ?_
    refine m7 (I.bring 1) Tryz.sizeOf53 (vs := [(vi (b6.mk x0.a8 x0.p5 x0.b7 o4).a8), (vi (b6.mk x0.a8 x0.p5 x0.b7 o4).p5), (Value.string (b6.mk x0.a8 x0.p5 x0.b7 o4).b7), (Value.slice (b6.mk x0.a8 x0.p5 x0.b7 o4).o9.a (b6.mk x0.a8 x0.p5 x0.b7 o4).o9.n (b6.mk x0.a8 x0.p5 x0.b7 o4).o9.c)]) (cs' := [(vi (b6.mk x0.a8 x0.p5 x0.b7 o4).a8), (vi (b6.mk x0.a8 x0.p5 x0.b7 o4).p5), (Value.string (b6.mk x0.a8 x0.p5 x0.b7 o4).b7), (Value.slice (b6.mk x0.a8 x0.p5 x0.b7 o4).o9.a (b6.mk x0.a8 x0.p5 x0.b7 o4).o9.n (b6.mk x0.a8 x0.p5 x0.b7 o4).o9.c)]) rfl rfl (nb rfl) rfl rfl fun d8O c5v h5h => ?_
    refine L4 Tryz.isAgg53 Tryz.sizeOf53 rfl (c5v.at1 (o := 0) (vs := [(vi (b6.mk x0.a8 x0.p5 x0.b7 o4).a8), (vi (b6.mk x0.a8 x0.p5 x0.b7 o4).p5), (Value.string (b6.mk x0.a8 x0.p5 x0.b7 o4).b7), (Value.slice (b6.mk x0.a8 x0.p5 x0.b7 o4).o9.a (b6.mk x0.a8 x0.p5 x0.b7 o4).o9.n (b6.mk x0.a8 x0.p5 x0.b7 o4).o9.c)]) (nb rfl) rfl) ?_
    exact hR (b6.mk x0.a8 x0.p5 x0.b7 o4) H _ c5v.drop.drop h
   refine A7 fun j1 hx1 => ?_
   refine a7 Q7 ?_
   refine d7 (ld1 Tryz.isAgg3 (a9E.at1 (o := 0) (vs := [(vi x0.a8)]) (nb rfl) rfl)) ?_
   have hj2 : ∀ (H : Hp) (w : World) (_ : Inv w0 ps0 H0 H [bx g_2 53 [(vi (b6.mk x0.a8 x0.p5 x0.b7 o4).a8), (vi (b6.mk x0.a8 x0.p5 x0.b7 o4).p5), (Value.string (b6.mk x0.a8 x0.p5 x0.b7 o4).b7), (Value.slice (b6.mk x0.a8 x0.p5 x0.b7 o4).o9.a (b6.mk x0.a8 x0.p5 x0.b7 o4).o9.n (b6.mk x0.a8 x0.p5 x0.b7 o4).o9.c)], bx g_7 53 [(vi (b6.mk 0 0 ⟨#[]⟩ (Sl.mk none 0 0)).a8), (vi (b6.mk 0 0 ⟨#[]⟩ (Sl.mk none 0 0)).p5), (Value.string (b6.mk 0 0 ⟨#[]⟩ (Sl.mk none 0 0)).b7), (Value.slice (b6.mk 0 0 ⟨#[]⟩ (Sl.mk none 0 0)).o9.a (b6.mk 0 0 ⟨#[]⟩ (Sl.mk none 0 0)).o9.n (b6.mk 0 0 ⟨#[]⟩ (Sl.mk none 0 0)).o9.c)]] w) (_ : U4 (b6.mk x0.a8 x0.p5 x0.b7 o4) (b6.mk 0 0 ⟨#[]⟩ (Sl.mk none 0 0)) H K), d2u (Value.pointer (some ⟨g_2, 0, none⟩)) (Value.pointer (some ⟨g_7, 0, none⟩)) w j1 R E := by
    intro H w I h
    unfold d2u
    intro _
    unfold U4 at h
    refine a7 K5 ?_
    refine d7 (ld1 Tryz.isAgg51 (I.at1 (o := 3) (vs := [(Value.slice (b6.mk x0.a8 x0.p5 x0.b7 o4).o9.a (b6.mk x0.a8 x0.p5 x0.b7 o4).o9.n (b6.mk x0.a8 x0.p5 x0.b7 o4).o9.c)]) (nb rfl) rfl)) ?_
    obtain ⟨h5i, h5j, c8T, d9m, h⟩ := h
    obtain ⟨i2l, i2m, h5k, d9m⟩ := d9m
    refine a7 (M4 h5k _ _ _ _ h5i h5j) ?_
    refine d7 (ldA (vs := (b8 c8T)) Tryz.isAgg53 Tryz.sizeOf53 rfl (I.atH d9m)) ?_
    refine d8 (cap := []) (fun args w => Tryz.call70 args w) ?_
    refine o0 (Fi := []) (Fr := [bx g_2 53 [(vi (b6.mk x0.a8 x0.p5 x0.b7 o4).a8), (vi (b6.mk x0.a8 x0.p5 x0.b7 o4).p5), (Value.string (b6.mk x0.a8 x0.p5 x0.b7 o4).b7), (Value.slice (b6.mk x0.a8 x0.p5 x0.b7 o4).o9.a (b6.mk x0.a8 x0.p5 x0.b7 o4).o9.n (b6.mk x0.a8 x0.p5 x0.b7 o4).o9.c)], bx g_7 53 [(vi (b6.mk 0 0 ⟨#[]⟩ (Sl.mk none 0 0)).a8), (vi (b6.mk 0 0 ⟨#[]⟩ (Sl.mk none 0 0)).p5), (Value.string (b6.mk 0 0 ⟨#[]⟩ (Sl.mk none 0 0)).b7), (Value.slice (b6.mk 0 0 ⟨#[]⟩ (Sl.mk none 0 0)).o9.a (b6.mk 0 0 ⟨#[]⟩ (Sl.mk none 0 0)).o9.n (b6.mk 0 0 ⟨#[]⟩ (Sl.mk none 0 0)).o9.c)]]) I (h) (fun i2n c1y i2o d9n c8X i2p i2q h5l => ?_) (fun _ _ _ _ _ q => q.elim)
    obtain ⟨d2Z, rfl, rfl, h⟩ := h5l
    refine u0 (fun d9o => ?_) (fun d9o => ?_)
    ·replace h := h.1 d9o
     refine a7 K5 ?_
     refine d7 (ld1 Tryz.isAgg51 (c8X.at1 (o := 3) (vs := [(Value.slice (b6.mk x0.a8 x0.p5 x0.b7 o4).o9.a (b6.mk x0.a8 x0.p5 x0.b7 o4).o9.n (b6.mk x0.a8 x0.p5 x0.b7 o4).o9.c)]) (nb rfl) rfl)) ?_
     obtain ⟨h5m, h5n, b5h, d9p, h⟩ := h
     obtain ⟨i2r, i2s, h5o, d9p⟩ := d9p
     refine a7 (M4 h5o _ _ _ _ h5m h5n) ?_
     refine d7 (ldA (vs := (b8 b5h)) Tryz.isAgg53 Tryz.sizeOf53 rfl (c8X.atH d9p)) ?_
     refine m7 (c8X.bring 1) Tryz.sizeOf53 (vs := (b8 b5h)) (cs' := (b8 b5h)) rfl rfl (nb rfl) rfl rfl fun c8Y f0j i2t => ?_
     refine L4 Tryz.isAgg53 Tryz.sizeOf53 rfl (f0j.at1 (o := 0) (vs := (b8 b5h)) (nb rfl) rfl) ?_
     exact hR b5h c1y _ f0j.drop.drop h
    ·replace h := h.2 d9o
     exact hx1 _ _ (hj1 c1y _ ((c8X.bring 1).bring 1) h)
   refine A7 fun j2 hx2 => ?_
   have hj3 : ∀ (H : Hp) (w : World) (_ : Inv w0 ps0 H0 H [bx g_2 53 [(vi (b6.mk x0.a8 x0.p5 x0.b7 o4).a8), (vi (b6.mk x0.a8 x0.p5 x0.b7 o4).p5), (Value.string (b6.mk x0.a8 x0.p5 x0.b7 o4).b7), (Value.slice (b6.mk x0.a8 x0.p5 x0.b7 o4).o9.a (b6.mk x0.a8 x0.p5 x0.b7 o4).o9.n (b6.mk x0.a8 x0.p5 x0.b7 o4).o9.c)], bx g_7 53 [(vi (b6.mk 0 0 ⟨#[]⟩ (Sl.mk none 0 0)).a8), (vi (b6.mk 0 0 ⟨#[]⟩ (Sl.mk none 0 0)).p5), (Value.string (b6.mk 0 0 ⟨#[]⟩ (Sl.mk none 0 0)).b7), (Value.slice (b6.mk 0 0 ⟨#[]⟩ (Sl.mk none 0 0)).o9.a (b6.mk 0 0 ⟨#[]⟩ (Sl.mk none 0 0)).o9.n (b6.mk 0 0 ⟨#[]⟩ (Sl.mk none 0 0)).o9.c)]] w) (_ : Z9 0 (b6.mk x0.a8 x0.p5 x0.b7 o4) (b6.mk 0 0 ⟨#[]⟩ (Sl.mk none 0 0)) H K), d2w (Value.pointer (some ⟨g_2, 0, none⟩)) (Value.pointer (some ⟨g_7, 0, none⟩)) (vi 0) w j1 R E := by
    intro H w I h
    unfold d2w
    intro _
    unfold Z9 at h
    refine a7 K5 ?_
    refine d7 (ld1 Tryz.isAgg51 (I.at1 (o := 3) (vs := [(Value.slice (b6.mk x0.a8 x0.p5 x0.b7 o4).o9.a (b6.mk x0.a8 x0.p5 x0.b7 o4).o9.n (b6.mk x0.a8 x0.p5 x0.b7 o4).o9.c)]) (nb rfl) rfl)) ?_
    obtain ⟨d9b, i0g, d9i, c3w, h⟩ := h
    obtain ⟨i5i, i5j, i0h, c3w⟩ := c3w
    refine a7 (M4 i0h _ _ _ _ d9b i0g) ?_
    refine d7 (ldA (vs := (b8 d9i)) Tryz.isAgg53 Tryz.sizeOf53 rfl (I.atH c3w)) ?_
    refine d8 (cap := []) (fun args w => Tryz.call70 args w) ?_
    refine o0 (Fi := []) (Fr := [bx g_2 53 [(vi (b6.mk x0.a8 x0.p5 x0.b7 o4).a8), (vi (b6.mk x0.a8 x0.p5 x0.b7 o4).p5), (Value.string (b6.mk x0.a8 x0.p5 x0.b7 o4).b7), (Value.slice (b6.mk x0.a8 x0.p5 x0.b7 o4).o9.a (b6.mk x0.a8 x0.p5 x0.b7 o4).o9.n (b6.mk x0.a8 x0.p5 x0.b7 o4).o9.c)], bx g_7 53 [(vi (b6.mk 0 0 ⟨#[]⟩ (Sl.mk none 0 0)).a8), (vi (b6.mk 0 0 ⟨#[]⟩ (Sl.mk none 0 0)).p5), (Value.string (b6.mk 0 0 ⟨#[]⟩ (Sl.mk none 0 0)).b7), (Value.slice (b6.mk 0 0 ⟨#[]⟩ (Sl.mk none 0 0)).o9.a (b6.mk 0 0 ⟨#[]⟩ (Sl.mk none 0 0)).o9.n (b6.mk 0 0 ⟨#[]⟩ (Sl.mk none 0 0)).o9.c)]]) I (h) (fun i2u c7g i2v b8h c8Z i2w i2x h5p => ?_) (fun _ _ _ _ _ q => q.elim)
    obtain ⟨d2Y, rfl, rfl, h⟩ := h5p
    refine u0 (fun b8n => ?_) (fun b8n => ?_)
    ·replace h := h.1 b8n
     refine a7 K5 ?_
     refine d7 (ld1 Tryz.isAgg51 (c8Z.at1 (o := 3) (vs := [(Value.slice (b6.mk x0.a8 x0.p5 x0.b7 o4).o9.a (b6.mk x0.a8 x0.p5 x0.b7 o4).o9.n (b6.mk x0.a8 x0.p5 x0.b7 o4).o9.c)]) (nb rfl) rfl)) ?_
     obtain ⟨d9q, c5w, a6Y, b1G, h⟩ := h
     obtain ⟨h5q, h5r, h5s, b1G⟩ := b1G
     refine a7 (M4 h5s _ _ _ _ d9q c5w) ?_
     refine d7 (ldA (vs := (b8 a6Y)) Tryz.isAgg53 Tryz.sizeOf53 rfl (c8Z.atH b1G)) ?_
     refine m7 (c8Z.bring 1) Tryz.sizeOf53 (vs := (b8 a6Y)) (cs' := (b8 a6Y)) rfl rfl (nb rfl) rfl rfl fun a1f c9a h5t => ?_
     refine L4 Tryz.isAgg53 Tryz.sizeOf53 rfl (c9a.at1 (o := 0) (vs := (b8 a6Y)) (nb rfl) rfl) ?_
     exact hR a6Y c7g _ c9a.drop.drop h
    ·replace h := h.2 b8n
     exact hx1 _ _ (hj1 c7g _ ((c8Z.bring 1).bring 1) h)
   refine A7 fun j3 hx3 => ?_
   refine a7 (o2 _ _ _ _ _ _) ?_
   refine j8 (fun d9r => ?_) (fun d9r => ?_)
   ·replace h := h.1 d9r
    refine a7 K5 ?_
    refine d7 (ld1 Tryz.isAgg51 (a9E.at1 (o := 3) (vs := [(vs o4)]) (nb rfl) rfl)) ?_
    obtain ⟨c7f, d3a, d9j, e6S, h⟩ := h
    obtain ⟨g7r, i5k, i0i, e6S⟩ := e6S
    refine a7 (M4 i0i _ _ _ _ c7f d3a) ?_
    refine d7 (ldA (vs := (b8 d9j)) Tryz.isAgg53 Tryz.sizeOf53 rfl (a9E.atH e6S)) ?_
    refine d8 (cap := []) (fun args w => Tryz.call70 args w) ?_
    refine o0 (Fi := []) (Fr := [bx g_2 53 [(vi x0.a8), (vi x0.p5), (Value.string x0.b7), (vs o4)], bx g_7 53 [(vi 0), (vi 0), (eS), (nS)]]) a9E (h) (fun d7R a4X h8P d1u b7F b9B e5x e5y => ?_) (fun _ _ _ _ _ q => q.elim)
    obtain ⟨a7y, rfl, rfl, h⟩ := e5y
    refine u0 (fun b8m => ?_) (fun b8m => ?_)
    ·replace h := h.1 b8m
     refine a7 K5 ?_
     refine d7 (ld1 Tryz.isAgg51 (b7F.at1 (o := 3) (vs := [(vs o4)]) (nb rfl) rfl)) ?_
     obtain ⟨i0j, i0k, c0w, d3b, h⟩ := h
     obtain ⟨i5l, i5m, e6T, d3b⟩ := d3b
     refine a7 (M4 e6T _ _ _ _ i0j i0k) ?_
     refine d7 (ldA (vs := (b8 c0w)) Tryz.isAgg53 Tryz.sizeOf53 rfl (b7F.atH d3b)) ?_
     refine m7 (b7F.bring 1) Tryz.sizeOf53 (vs := (b8 c0w)) (cs' := (b8 c0w)) rfl rfl (nb rfl) rfl rfl fun V0 g7s i5n => ?_
     refine L4 Tryz.isAgg53 Tryz.sizeOf53 rfl (g7s.at1 (o := 0) (vs := (b8 c0w)) (nb rfl) rfl) ?_
     exact hR c0w a4X _ g7s.drop.drop h
    ·replace h := h.2 b8m
     exact hx3 _ _ (hj3 a4X _ ((b7F.bring 1).bring 1) h)
   ·replace h := h.2 d9r
    refine a7 (o2 _ _ _ _ _ _) ?_
    refine j8 (fun d9s => ?_) (fun d9s => ?_)
    ·replace h := h.1 d9s
     exact hx3 _ _ (hj3 a8H _ ((a9E.bring 1).bring 1) h)
    ·replace h := h.2 d9s
     refine a7 (o2 _ _ _ _ _ _) ?_
     refine j8 (fun d9t => ?_) (fun d9t => ?_)
     ·replace h := h.1 d9t
      refine a7 K5 ?_
      refine d7 (ld1 Tryz.isAgg51 (a9E.at1 (o := 3) (vs := [(vs o4)]) (nb rfl) rfl)) ?_
      obtain ⟨h5u, h5v, c8V, d9u, h⟩ := h
      obtain ⟨i2y, i2z, h5w, d9u⟩ := d9u
      refine a7 (M4 h5w _ _ _ _ h5u h5v) ?_
      refine d7 (ldA (vs := (b8 c8V)) Tryz.isAgg53 Tryz.sizeOf53 rfl (a9E.atH d9u)) ?_
      refine d8 (cap := []) (fun args w => Tryz.call70 args w) ?_
      refine o0 (Fi := []) (Fr := [bx g_2 53 [(vi x0.a8), (vi x0.p5), (Value.string x0.b7), (vs o4)], bx g_7 53 [(vi 0), (vi 0), (eS), (nS)]]) a9E (h) (fun i2A c1z i2B a7x c9b c9c i2C h5x => ?_) (fun _ _ _ _ _ q => q.elim)
      obtain ⟨b1X, rfl, rfl, h⟩ := h5x
      refine a7 (Pu.g fun hb => by have i5 := hb; exact K5) ?_
      refine d7 (Ld.g fun hb => by have i5 := hb; simp only [s8 i5]; exact (ld1 Tryz.isAgg51 (c9b.at1 (o := 3) (vs := [(vs o4)]) (nb rfl) rfl))) ?_
      obtain ⟨c8W, c1A, h⟩ := h
      obtain ⟨i2D, i2E, c1A⟩ := c0Z c1A
      refine a7 (Pu.g fun hb => by have i5 := hb; simp only [s8 i5]; exact (M4 (c1A hb).2.2.1 _ _ _ _ (c1A hb).1 (c1A hb).2.1)) ?_
      refine d7 (Ld.g fun hb => by have i5 := hb; simp only [s8 i5]; exact (ldA (vs := (b8 c8W)) Tryz.isAgg53 Tryz.sizeOf53 rfl (c9b.atH (c1A hb).2.2.2))) ?_
      refine a5c (D := fun d9v b1B => ∃ (b0x : Bool) (a7z : Hp) , d9v = (gv b1X true (vB b0x)) ∧ (Inv w0 ps0 H0 a7z [bx g_2 53 [(vi x0.a8), (vi x0.p5), (Value.string x0.b7), (vs o4)], bx g_7 53 [(vi 0), (vi 0), (eS), (nS)]] b1B) ∧ (∀ i, i < a7x.heap.size → ¬ inF [] i → b1B.heap[i]? = a7x.heap[i]?) ∧ Hle c1z a7z ∧ (((b1X && (!b0x)) = true →
 (0 : Int) ≤ 1 ∧ (1 : Int) < o4.n ∧ ∃ b0y : b6, EltH a7z o4 1 4 (b8 b0y) ∧
 K b0y a7z) ∧
 ((b1X && (!b0x)) = false →
 U4 (b6.mk x0.a8 x0.p5 x0.b7 o4) (b6.mk 0 0 ⟨#[]⟩ (Sl.mk none 0 0)) a7z K))) (fun c5x => ?_) (fun c5x => ?_) ?_
      ·replace h := h.1 c5x
       have i5 := c5x
       simp only [s8 i5]
       refine d8 (cap := []) (fun args w => Tryz.call70 args w) ?_
       refine o0 (Fi := []) (Fr := [bx g_2 53 [(vi x0.a8), (vi x0.p5), (Value.string x0.b7), (vs o4)], bx g_7 53 [(vi 0), (vi 0), (eS), (nS)]]) c9b (h) (fun d9v a7z i2F b1B c1B f0k f0l h5y => ?_) (fun _ _ _ _ _ q => q.elim)
       obtain ⟨b0x, rfl, rfl, h⟩ := h5y
       exact ⟨b0x, a7z, by rfl, c1B, f0l, f0k, h⟩
      ·exact ⟨false, c1z, by rw [a9g c5x], c9b, fun _ _ _ => rfl, Hle.refl _, h.2 c5x⟩
      ·clear h
       rintro d9v b1B ⟨b0x, a7z, rfl, c1B, f0l, f0k, h⟩
       refine a7 (Pu.g fun hb => by have i5 := hb; simp only [s8 i5]; exact (a0X _)) ?_
       refine a7 (N6 _ _) ?_
       refine u0 (fun d9w => ?_) (fun d9w => ?_)
       ·replace h := h.1 d9w
        refine a7 K5 ?_
        refine d7 (ld1 Tryz.isAgg51 (c1B.at1 (o := 3) (vs := [(vs o4)]) (nb rfl) rfl)) ?_
        obtain ⟨c8S, h5z, b0y, d9x, h⟩ := h
        obtain ⟨i2G, i2H, h5A, d9x⟩ := d9x
        refine a7 (M4 h5A _ _ _ _ c8S h5z) ?_
        refine d7 (ldA (vs := (b8 b0y)) Tryz.isAgg53 Tryz.sizeOf53 rfl (c1B.atH d9x)) ?_
        refine m7 (c1B.bring 1) Tryz.sizeOf53 (vs := (b8 b0y)) (cs' := (b8 b0y)) rfl rfl (nb rfl) rfl rfl fun c5l f0m i2I => ?_
        refine L4 Tryz.isAgg53 Tryz.sizeOf53 rfl (f0m.at1 (o := 0) (vs := (b8 b0y)) (nb rfl) rfl) ?_
        exact hR b0y a7z _ f0m.drop.drop h
       ·replace h := h.2 d9w
        exact hx2 _ _ (hj2 a7z _ ((c1B.bring 1).bring 1) h)
     ·replace h := h.2 d9t
      refine a7 (o2 _ _ _ _ _ _) ?_
      refine j8 (fun d9y => ?_) (fun d9y => ?_)
      ·replace h := h.1 d9y
       exact hx2 _ _ (hj2 a8H _ ((a9E.bring 1).bring 1) h)
      ·replace h := h.2 d9y
       exact hx1 _ _ (hj1 a8H _ ((a9E.bring 1).bring 1) h)
theorem b6M (x0 : b6) {H : Hp} {K : b6 → Hp → Prop} (h : a3L x0 H K) : a3I x0 H K := by
 intro w I
 refine g4T ?_
 refine b5W x0 I (fun r0 H' w' I' hk => ⟨H', _, I', r0, rfl, rfl, hk⟩) h
def a3N (x0 : b6) (H : Hp) (K : b6 → Int → Hp → Prop) : Prop :=
 a7H x0 H (fun (o4 : Int) (W2 : Hp) =>
 (¬ (o4 = 0) →
 K (b6.mk 0 0 ⟨#[]⟩ (Sl.mk none 0 0)) o4 W2) ∧
 (o4 = 0 →
 a3I x0 W2 (fun (a3s : b6) (a5E : Hp) =>
 K a3s 0 a5E)))
theorem b5Y (x0 : b6) {K : b6 → Int → Hp → Prop} (I : Inv w0 ps0 H0 H [] w) (hR : ∀ (r0 : b6) (r1 : Int) (H' : Hp) (w' : World) (_ : Inv w0 ps0 H0 H' [] w') (_ : K r0 r1 H'), R (Value.tuple #[(Value.agg (b8 r0).toArray), (vi r1)]) w') (h : a3N x0 H K) : F21 (Value.agg (b8 x0).toArray) w R E := by
 unfold a3N at h
 unfold F21
 refine L9 I (cs := (b8 x0)) rfl fun g_2 w_3 I_4 k_5 => ?_
 refine y9 I_4 Tryz.zeroValue53 (cs := [(vi 0), (vi 0), (eS), (nS)]) rfl fun g_7 w_8 I_9 a9w => ?_
 refine d7 (ldA Tryz.isAgg53 Tryz.sizeOf53 rfl ((I_9.bring 1).at1 (o := 0) (vs := (b8 x0)) (nb rfl) rfl)) ?_
 refine d8 (cap := []) (fun args w => Tryz.call39 args w) ?_
 refine o0 (Fi := []) (Fr := [bx g_7 53 [(vi 0), (vi 0), (eS), (nS)], bx g_2 53 (b8 x0)]) I_9 (h) (fun b8q W2 c0x q9 a3G b5U b5X b1k => ?_) (fun _ _ _ _ _ q => q.elim)
 obtain ⟨o4, rfl, rfl, h⟩ := b1k
 refine a7 (T8 _ _ _ _ _ _) ?_
 refine a2L (fun c3x => ?_) (fun c3x => ?_)
 ·replace h := h.1 c3x
  refine a7 (e1q ) ?_
  refine m7 a3G Tryz.sizeOf53 (vs := [(vi 0), (vi 0), (eS), (nS)]) (cs' := [(vi 0), (vi 0), (eS), (nS)]) rfl rfl (nb rfl) rfl rfl fun u9 a1U b9M => ?_
  refine L4 Tryz.isAgg53 Tryz.sizeOf53 rfl (a1U.at1 (o := 0) (vs := [(vi 0), (vi 0), (eS), (nS)]) (nb rfl) rfl) ?_
  exact hR (b6.mk 0 0 ⟨#[]⟩ (Sl.mk none 0 0)) o4 W2 _ a1U.drop.drop h
 ·replace h := h.2 c3x
  refine d7 (ldA Tryz.isAgg53 Tryz.sizeOf53 rfl ((a3G.bring 1).at1 (o := 0) (vs := (b8 x0)) (nb rfl) rfl)) ?_
  refine d8 (cap := []) (fun args w => Tryz.call40 args w) ?_
  refine o0 (Fi := []) (Fr := [bx g_7 53 [(vi 0), (vi 0), (eS), (nS)], bx g_2 53 (b8 x0)]) a3G (h) (fun e5K a5E d1f z6 a6p e5L d7O c2P => ?_) (fun _ _ _ _ _ q => q.elim)
  obtain ⟨a3s, rfl, rfl, h⟩ := c2P
  refine m7 a6p Tryz.sizeOf53 (vs := (b8 a3s)) (cs' := (b8 a3s)) rfl rfl (nb rfl) rfl rfl fun B7 a6M d1A => ?_
  refine L4 Tryz.isAgg53 Tryz.sizeOf53 rfl (a6M.at1 (o := 0) (vs := (b8 a3s)) (nb rfl) rfl) ?_
  exact hR a3s 0 a5E _ a6M.drop.drop h
theorem b6N (x0 : b6) {H : Hp} {K : b6 → Int → Hp → Prop} (h : a3N x0 H K) : a6g x0 H K := by
 intro w I
 refine g4s ?_
 refine b5Y x0 I (fun r0 r1 H' w' I' hk => ⟨H', _, I', r0, r1, rfl, rfl, hk⟩) h
def C0 (J8 : (List b9)) (H : Hp) (K : Sl → Hp → Prop) : Prop :=
 ∀ (u7 : Sl) (K2 : Hp), Hle H K2 → SlH K2 4 d6 u7 J8 → u7.n ≤ u7.c →
 K u7 K2
def C1 (N0 : Sl) (U1 : Int) (p7 : (List b9)) (o7 : Int) (H : Hp) (n2 : ((List b9) × Int) → Hp → Prop) (K : Sl → Hp → Prop) : Prop :=
 (o7 < U1 →
 (0 : Int) ≤ o7 ∧ (o7 : Int) < N0.n ∧ ∃ x_1 : b9, EltH H N0 o7 4 (d6 x_1) ∧
 a3J x_1 H (fun (C3 : b9) (O7 : Hp) =>
 (p7.length + ([C3] : List b9).length) * 65 ≤ 140737488355328 ∧
 n2 ((p7 ++ [C3]), (IntKind.wrap .i64 (o7 + 1))) O7)) ∧
 (¬ (o7 < U1) →
 C0 p7 H K)
def D6 (x0 : Sl) (H : Hp) (K : Sl → Hp → Prop) : Prop :=
 TL (([], 0) : (List b9) × Int) H fun (s : (List b9) × Int) H n2 => C1 x0 (x0.n : Int) s.1 s.2 H n2 K
theorem a1y (x0 : Sl) {K : Sl → Hp → Prop} (I : Inv w0 ps0 H0 H [] w) (hR : ∀ (r0 : Sl) (H' : Hp) (w' : World) (_ : Inv w0 ps0 H0 H' [] w') (_ : K r0 H'), R (vs r0) w') (h : D6 x0 H K) : F71 (vs x0) (fC 42) w R E := by
 unfold D6 at h
 unfold F71
 have hj1 : ∀ (J8 : (List b9)) (u7 : Sl) (Fs5j1 : Frag) (H : Hp) (w : World) (_ : RowL 59 4 d6 u7 J8 Fs5j1) (_ : Inv w0 ps0 H0 H [Fs5j1] w) (_ : C0 J8 H K), d2V (vs u7) w R E := by
  intro J8 u7 Fs5j1 H w a5i I h
  unfold d2V
  intro _
  unfold C0 at h
  obtain ⟨K2, a5A, a6n, a1u, a3F⟩ := Inv.freezeC I a5i (by decide)
  replace h := h u7 K2 a6n a1u a3F
  exact hR u7 K2 _ a5A h
 refine A7 fun j1 hx1 => ?_
 refine a7 (a6u _ _ _) ?_
 obtain ⟨Z7, O6, a7P, a7Q⟩ := h
 refine M6 (J := fun n l w => ∃ (s : (List b9) × Int) (H : Hp) (J9 : Sl) (Fs5l2 : Frag) , n = O6 s ∧ l = (match s with | (p7, o7) => [(vs J9), (vi o7)]) ∧ (match s with | (p7, o7) => RowL 59 4 d6 J9 p7 Fs5l2) ∧ (match s with | (p7, o7) => Inv w0 ps0 H0 H [Fs5l2] w) ∧ Z7 s H) ⟨_, ([], 0), H, (Sl.mk none 0 0), [], rfl, rfl, (RowL.nil a8V a8W), I.nil, a7P⟩ ?_
 rintro b9O τ_50 w next2 ⟨⟨p7, o7⟩, H, J9, Fs5l2, rfl, Y0, S8, I, a7R⟩ hn2
 dsimp only at Y0 I S8
 simp only [List.map_cons, List.map_nil, List.cons.injEq, and_true] at Y0
 obtain ⟨e5, e10⟩ := Y0
 simp only [e5, e10]
 obtain ⟨n2, hm2, h⟩ : ∃ n2 : ((List b9) × Int) → Hp → Prop, (∀ s' H', n2 s' H' → Z7 s' H' ∧ O6 s' < O6 (p7, o7)) ∧ C1 x0 (x0.n : Int) p7 o7 H n2 K := ⟨_, fun _ _ h => h, a7Q (p7, o7) H (fun s' H' => Z7 s' H' ∧ O6 s' < O6 (p7, o7)) a7R (fun _ _ a b => ⟨a, b⟩)⟩
 unfold e2S
 unfold C1 at h
 refine a7 (D7 _ _ _ _ _ _) ?_
 refine j8 (fun V8 => ?_) (fun V8 => ?_)
 ·replace h := h.1 V8
  obtain ⟨h_4, h_5, x_1, h_7, h⟩ := h
  obtain ⟨g_2, o_3, h_6, h_7⟩ := h_7
  refine a7 (a0P h_6 _ _ _ _ h_4 h_5) ?_
  refine d7 (ldA (vs := (d6 x_1)) Tryz.isAgg59 Tryz.sizeOf59 rfl (I.atH h_7)) ?_
  refine y9 I Tryz.zeroValue59 (cs := [(vi 0), (vi 0), (nS), (nS)]) rfl fun g_9 q7 a0V b0j => ?_
  refine m7 a0V Tryz.sizeOf59 (vs := (d6 x_1)) (cs' := (d6 x_1)) rfl rfl (nb rfl) rfl rfl fun a0e O8 a3V => ?_
  refine d7 (ldA Tryz.isAgg59 Tryz.sizeOf59 rfl (O8.at1 (o := 0) (vs := (d6 x_1)) (nb rfl) rfl)) ?_
  refine d8 (cap := []) (fun args w => Tryz.call42 args w) ?_
  refine o0 (Fi := []) (Fr := [bx g_9 59 (d6 x_1), Fs5l2]) O8 (h) (fun b5C O7 b3D X8 a1v b5D b5E a5B => ?_) (fun _ _ _ _ _ q => q.elim)
  obtain ⟨C3, rfl, rfl, h⟩ := a5B
  refine a1s (e := 59) (c := d6) (xs := [C3]) a1v (d5I _ _ _ _ _ _ _ _) rfl rfl a8V a8W (nb rfl) fun b2j b0k D8 a4I V9 a8E => ?_
  obtain ⟨a5C, h⟩ := h
  refine e1m (s := J9) (xs := p7) (V9.bring 2) S8 (a4I.srcO ((V9.bring 2).bring 1)) a5C fun a4o a7p B3 a3W a2p b0M => ?_
  refine a7 (L6 _ _ _ _ _ _) ?_
  exact hn2 _ _ _ (hm2 _ _ h).2 ⟨((p7 ++ [C3]), (IntKind.wrap .i64 (o7 + 1))), O7, a4o, a7p, rfl, rfl, a3W, ((a2p.bring 1).drop.bring 1).drop, (hm2 _ _ h).1⟩
 ·replace h := h.2 V8
  exact hx1 _ _ (hj1 p7 J9 Fs5l2 H _ S8 I h)
theorem a1A (x0 : Sl) {H : Hp} {K : Sl → Hp → Prop} (h : D6 x0 H K) : D4 x0 H K := by
 intro w I
 refine g6P ?_
 refine a1y x0 I (fun r0 H' w' I' hk => ⟨H', _, I', r0, rfl, rfl, hk⟩) h
def a0G (x0 : Bool) (H : Hp) (K : b9 → Hp → Prop) : Prop :=
 (x0 = true →
 K (b9.mk 1 0 (Sl.mk none 0 0) (Sl.mk none 0 0)) H) ∧
 (x0 = false →
 K (b9.mk 2 0 (Sl.mk none 0 0) (Sl.mk none 0 0)) H)
theorem b4O (x0 : Bool) {K : b9 → Hp → Prop} (I : Inv w0 ps0 H0 H [] w) (hR : ∀ (r0 : b9) (H' : Hp) (w' : World) (_ : Inv w0 ps0 H0 H' [] w') (_ : K r0 H'), R (Value.agg (d6 r0).toArray) w') (h : a0G x0 H K) : F72 (vB x0) w R E := by
 unfold a0G at h
 unfold F72
 refine y9 I Tryz.zeroValue59 (cs := [(vi 0), (vi 0), (nS), (nS)]) rfl fun g_2 w_3 I_4 k_5 => ?_
 refine u0 (fun e6U => ?_) (fun e6U => ?_)
 ·replace h := h.1 e6U
  refine a7 (c2m _) ?_
  refine m7 I_4 Tryz.sizeOf59 (vs := [(vi 1), (vi 0), (nS), (nS)]) (cs' := [(vi 1), (vi 0), (nS), (nS)]) rfl rfl (nb rfl) rfl rfl fun w_6 I_7 k_8 => ?_
  refine L4 Tryz.isAgg59 Tryz.sizeOf59 rfl (I_7.at1 (o := 0) (vs := [(vi 1), (vi 0), (nS), (nS)]) (nb rfl) rfl) ?_
  exact hR (b9.mk 1 0 (Sl.mk none 0 0) (Sl.mk none 0 0)) H _ I_7.drop h
 ·replace h := h.2 e6U
  refine a7 (c2m _) ?_
  refine m7 I_4 Tryz.sizeOf59 (vs := [(vi 2), (vi 0), (nS), (nS)]) (cs' := [(vi 2), (vi 0), (nS), (nS)]) rfl rfl (nb rfl) rfl rfl fun w_9 b0l b5F => ?_
  refine L4 Tryz.isAgg59 Tryz.sizeOf59 rfl (b0l.at1 (o := 0) (vs := [(vi 2), (vi 0), (nS), (nS)]) (nb rfl) rfl) ?_
  exact hR (b9.mk 2 0 (Sl.mk none 0 0) (Sl.mk none 0 0)) H _ b0l.drop h
theorem b5Z (x0 : Bool) {H : Hp} {K : b9 → Hp → Prop} (h : a0G x0 H K) : a3q x0 H K := by
 intro w I
 refine g6R ?_
 refine b4O x0 I (fun r0 H' w' I' hk => ⟨H', _, I', r0, rfl, rfl, hk⟩) h
def W9 (c1C : Bool) (i1S : b9) (f4C : b9) (b3R : b9) (a0Z : b9) (H : Hp) (K : b9 → Hp → Prop) : Prop :=
 (c1C = true →
 K f4C H) ∧
 (c1C = false →
 K a0Z H)
def a0M (d1W : Int) (b5H : Int) (a1b : b9) (X6 : b9) (q8 : b9) (v8 : b9) (H : Hp) (K : b9 → Hp → Prop) : Prop :=
 (X6.a8 = d1W →
 K a1b H) ∧
 (¬ (X6.a8 = d1W) →
 (X6.a8 = b5H →
 W9 (decide (X6.a8 = b5H)) a1b X6 q8 v8 H K) ∧
 (¬ (X6.a8 = b5H) →
 W9 (decide (a1b.a8 = d1W)) a1b X6 q8 v8 H K))
def a2E (x0 : b9) (x1 : Int) (x2 : Int) (H : Hp) (K : b9 → Hp → Prop) : Prop :=
 (0 : Int) ≤ 0 ∧ (0 : Int) < x0.t7.n ∧ ∃ a4Z : b9, EltH H x0.t7 0 4 (d6 a4Z) ∧
 (0 : Int) ≤ 1 ∧ (1 : Int) < x0.t7.n ∧ ∃ b6a : b9, EltH H x0.t7 1 4 (d6 b6a) ∧
 a0M x1 x2 b6a a4Z (b9.mk 0 0 (Sl.mk none 0 0) (Sl.mk none 0 0)) x0 H K
theorem b4l (x0 : b9) (x1 : Int) (x2 : Int) {K : b9 → Hp → Prop} (I : Inv w0 ps0 H0 H [] w) (hR : ∀ (r0 : b9) (H' : Hp) (w' : World) (_ : Inv w0 ps0 H0 H' [] w') (_ : K r0 H'), R (Value.agg (d6 r0).toArray) w') (h : a2E x0 x1 x2 H K) : F74 (Value.agg (d6 x0).toArray) (vi x1) (vi x2) w R E := by
 unfold a2E at h
 unfold F74
 refine L9 I (cs := (d6 x0)) rfl fun g_2 w_3 I_4 k_5 => ?_
 refine y9 I_4 Tryz.zeroValue59 (cs := [(vi 0), (vi 0), (nS), (nS)]) rfl fun g_7 w_8 I_9 a9w => ?_
 have hj1 : ∀ (a1b : b9) (X6 : b9) (b8r : Nat) (b4m : Nat) (H : Hp) (w : World) (_ : Inv w0 ps0 H0 H [bx b8r 59 (d6 a1b), bx b4m 59 (d6 X6), bx g_7 59 [(vi (b9.mk 0 0 (Sl.mk none 0 0) (Sl.mk none 0 0)).a8), (vi (b9.mk 0 0 (Sl.mk none 0 0) (Sl.mk none 0 0)).fOp), (Value.slice (b9.mk 0 0 (Sl.mk none 0 0) (Sl.mk none 0 0)).j7.a (b9.mk 0 0 (Sl.mk none 0 0) (Sl.mk none 0 0)).j7.n (b9.mk 0 0 (Sl.mk none 0 0) (Sl.mk none 0 0)).j7.c), (Value.slice (b9.mk 0 0 (Sl.mk none 0 0) (Sl.mk none 0 0)).t7.a (b9.mk 0 0 (Sl.mk none 0 0) (Sl.mk none 0 0)).t7.n (b9.mk 0 0 (Sl.mk none 0 0) (Sl.mk none 0 0)).t7.c)], bx g_2 59 (d6 x0)] w) (_ : a0M x1 x2 a1b X6 (b9.mk 0 0 (Sl.mk none 0 0) (Sl.mk none 0 0)) x0 H K), d2X (vi x1) (vi x2) (Value.pointer (some ⟨g_2, 0, none⟩)) (Value.pointer (some ⟨g_7, 0, none⟩)) (Value.pointer (some ⟨b4m, 0, none⟩)) (Value.pointer (some ⟨b8r, 0, none⟩)) w R E := by
  intro a1b X6 b8r b4m H w I h
  unfold d2X
  intro _
  unfold a0M at h
  refine a7 a1K ?_
  refine d7 (ld1 Tryz.isAgg3 ((I.bring 1).at1 (o := 0) (vs := [(vi X6.a8)]) (nb rfl) rfl)) ?_
  refine a7 (o2 _ _ _ _ _ _) ?_
  refine j8 (fun e6V => ?_) (fun e6V => ?_)
  ·replace h := h.1 e6V
   refine d7 (ldA Tryz.isAgg59 Tryz.sizeOf59 rfl (I.at1 (o := 0) (vs := (d6 a1b)) (nb rfl) rfl)) ?_
   refine m7 (I.bring 2) Tryz.sizeOf59 (vs := (d6 a1b)) (cs' := (d6 a1b)) rfl rfl (nb rfl) rfl rfl fun b3w b6b e6W => ?_
   refine L4 Tryz.isAgg59 Tryz.sizeOf59 rfl (b6b.at1 (o := 0) (vs := (d6 a1b)) (nb rfl) rfl) ?_
   exact hR a1b H _ b6b.drop.drop.drop.drop h
  ·replace h := h.2 e6V
   have hj2 : ∀ (c1C : Bool) (H : Hp) (w : World) (_ : Inv w0 ps0 H0 H [bx b8r 59 (d6 a1b), bx b4m 59 (d6 X6), bx g_7 59 [(vi (b9.mk 0 0 (Sl.mk none 0 0) (Sl.mk none 0 0)).a8), (vi (b9.mk 0 0 (Sl.mk none 0 0) (Sl.mk none 0 0)).fOp), (Value.slice (b9.mk 0 0 (Sl.mk none 0 0) (Sl.mk none 0 0)).j7.a (b9.mk 0 0 (Sl.mk none 0 0) (Sl.mk none 0 0)).j7.n (b9.mk 0 0 (Sl.mk none 0 0) (Sl.mk none 0 0)).j7.c), (Value.slice (b9.mk 0 0 (Sl.mk none 0 0) (Sl.mk none 0 0)).t7.a (b9.mk 0 0 (Sl.mk none 0 0) (Sl.mk none 0 0)).t7.n (b9.mk 0 0 (Sl.mk none 0 0) (Sl.mk none 0 0)).t7.c)], bx g_2 59 (d6 x0)] w) (_ : W9 c1C a1b X6 (b9.mk 0 0 (Sl.mk none 0 0) (Sl.mk none 0 0)) x0 H K), d2W (Value.pointer (some ⟨g_2, 0, none⟩)) (Value.pointer (some ⟨g_7, 0, none⟩)) (Value.pointer (some ⟨b4m, 0, none⟩)) (vB c1C) w R E := by
    intro c1C H w I h
    unfold d2W
    intro _
    unfold W9 at h
    refine u0 (fun e6X => ?_) (fun e6X => ?_)
    ·replace h := h.1 e6X
     refine d7 (ldA Tryz.isAgg59 Tryz.sizeOf59 rfl ((I.bring 1).at1 (o := 0) (vs := (d6 X6)) (nb rfl) rfl)) ?_
     refine m7 (I.bring 2) Tryz.sizeOf59 (vs := (d6 X6)) (cs' := (d6 X6)) rfl rfl (nb rfl) rfl rfl fun O4 c7i i0l => ?_
     refine L4 Tryz.isAgg59 Tryz.sizeOf59 rfl (c7i.at1 (o := 0) (vs := (d6 X6)) (nb rfl) rfl) ?_
     exact hR X6 H _ c7i.drop.drop.drop.drop h
    ·replace h := h.2 e6X
     refine d7 (ldA Tryz.isAgg59 Tryz.sizeOf59 rfl ((I.bring 3).at1 (o := 0) (vs := (d6 x0)) (nb rfl) rfl)) ?_
     refine m7 (I.bring 2) Tryz.sizeOf59 (vs := (d6 x0)) (cs' := (d6 x0)) rfl rfl (nb rfl) rfl rfl fun b0L d9z i0m => ?_
     refine L4 Tryz.isAgg59 Tryz.sizeOf59 rfl (d9z.at1 (o := 0) (vs := (d6 x0)) (nb rfl) rfl) ?_
     exact hR x0 H _ d9z.drop.drop.drop.drop h
   refine A7 fun j2 hx2 => ?_
   refine a7 a1K ?_
   refine d7 (ld1 Tryz.isAgg3 ((I.bring 1).at1 (o := 0) (vs := [(vi X6.a8)]) (nb rfl) rfl)) ?_
   refine a7 (o2 _ _ _ _ _ _) ?_
   refine j8 (fun e6Y => ?_) (fun e6Y => ?_)
   ·replace h := h.1 e6Y
    exact hx2 _ _ (hj2 (decide (X6.a8 = x2)) H _ ((((I.bring 3).bring 3).bring 3).bring 3) h)
   ·replace h := h.2 e6Y
    refine a7 a1K ?_
    refine d7 (ld1 Tryz.isAgg3 (I.at1 (o := 0) (vs := [(vi a1b.a8)]) (nb rfl) rfl)) ?_
    refine a7 (o2 _ _ _ _ _ _) ?_
    exact hx2 _ _ (hj2 (decide (a1b.a8 = x1)) H _ ((((I.bring 3).bring 3).bring 3).bring 3) h)
 refine A7 fun j1 hx1 => ?_
 refine X7 I_9 fun R1 D2 => ?_
 refine m8 V6 ?_
 refine m8 V6 ?_
 refine y7 (ld1 Tryz.isAgg57 ((D2.bring 1).at1 (o := 3) (vs := [(vs x0.t7)]) (nb rfl) rfl)) ?_
 obtain ⟨a9x, b7R, a4Z, a7U, h⟩ := h
 obtain ⟨g7g, g7h, c3v, a7U⟩ := a7U
 refine m8 (a0P c3v _ _ _ _ a9x b7R) ?_
 refine y7 (ldA (vs := (d6 a4Z)) Tryz.isAgg59 Tryz.sizeOf59 rfl (D2.atH a7U)) ?_
 refine y7 (ld1 Tryz.isAgg57 ((D2.bring 1).at1 (o := 3) (vs := [(vs x0.t7)]) (nb rfl) rfl)) ?_
 obtain ⟨c3h, d1J, b6a, b1f, h⟩ := h
 obtain ⟨g7t, i5o, b7Z, b1f⟩ := b1f
 refine m8 (a0P b7Z _ _ _ _ c3h d1J) ?_
 refine y7 (ldA (vs := (d6 b6a)) Tryz.isAgg59 Tryz.sizeOf59 rfl (D2.atH b1f)) ?_
 refine ⟨?_, ?_⟩
 ·refine y9 D2 Tryz.zeroValue59 (cs := [(vi 0), (vi 0), (nS), (nS)]) rfl fun i0n a6o V9 a8E => ?_
  refine ⟨(a8E _ (D2.b1J b1f)), (a8E _ (D2.bring 1).lt1), (a8E _ (D2.b1J a7U)), (a8E _ (D2.bring 1).lt1), ?_⟩
  refine y9 V9 Tryz.zeroValue59 (cs := [(vi 0), (vi 0), (nS), (nS)]) rfl fun i0o B3 a4v c3y => ?_
  refine ⟨(c3y _ (V9.b1J b1f)), (c3y _ (V9.bring 2).lt1), (c3y _ (V9.b1J a7U)), (c3y _ (V9.bring 2).lt1), ?_⟩
  refine m7 (a4v.bring 1) Tryz.sizeOf59 (vs := (d6 a4Z)) (cs' := (d6 a4Z)) rfl rfl (nb rfl) rfl rfl fun b0n a7q d7Z => ?_
  refine ⟨(d7Z _ (Inv.f7C (a4v.bring 1) b1f)), (d7Z _ (Inv.f7D ((a4v.bring 3).bring 2))), ?_⟩
  refine m7 (a7q.bring 1) Tryz.sizeOf59 (vs := (d6 b6a)) (cs' := (d6 b6a)) rfl rfl (nb rfl) rfl rfl fun G3 b3P d1B => ?_
  exact hx1 _ _ (hj1 b6a a4Z i0o i0n H _ ((((b3P.bring 3).bring 3).bring 3).bring 3) h)
 ·refine y9 D2 Tryz.zeroValue59 (cs := [(vi 0), (vi 0), (nS), (nS)]) rfl fun i0p b7V b1c c0d => ?_
  refine ⟨(c0d _ (D2.b1J b1f)), (c0d _ (D2.bring 1).lt1), (c0d _ (D2.b1J a7U)), (c0d _ (D2.bring 1).lt1), ?_⟩
  refine y9 b1c Tryz.zeroValue59 (cs := [(vi 0), (vi 0), (nS), (nS)]) rfl fun i0q P6 b9Z c6V => ?_
  refine ⟨(c6V _ (b1c.b1J b1f)), (c6V _ (b1c.bring 2).lt1), (c6V _ (b1c.b1J a7U)), (c6V _ (b1c.bring 2).lt1), ?_⟩
  refine m7 b9Z Tryz.sizeOf59 (vs := (d6 a4Z)) (cs' := (d6 a4Z)) rfl rfl (nb rfl) rfl rfl fun b5B e5m e5n => ?_
  refine ⟨(e5n _ (Inv.f7C b9Z b1f)), (e5n _ (Inv.f7D ((b9Z.bring 3).bring 1))), ?_⟩
  refine m7 (e5m.bring 1) Tryz.sizeOf59 (vs := (d6 b6a)) (cs' := (d6 b6a)) rfl rfl (nb rfl) rfl rfl fun Q8 c0y e6Z => ?_
  exact hx1 _ _ (hj1 b6a a4Z i0p i0q H _ ((((c0y.bring 3).bring 3).bring 3).bring 3) h)
theorem b4P (x0 : b9) (x1 : Int) (x2 : Int) {H : Hp} {K : b9 → Hp → Prop} (h : a2E x0 x1 x2 H K) : a2s x0 x1 x2 H K := by
 intro w I
 refine g7d ?_
 refine b4l x0 x1 x2 I (fun r0 H' w' I' hk => ⟨H', _, I', r0, rfl, rfl, hk⟩) h
def U5 (v8 : b9) (q8 : b9) (H : Hp) (K : b9 → Hp → Prop) : Prop :=
 K v8 H
def a3O (x0 : b9) (H : Hp) (K : b9 → Hp → Prop) : Prop :=
 A9 x0.j7 H (fun (v7 : Sl) (a1Z : Hp) =>
 D4 x0.t7 a1Z (fun (u1 : Sl) (a1w : Hp) =>
 (x0.a8 = 3 →
 (0 : Int) ≤ 0 ∧ (0 : Int) < v7.n ∧ ∃ d9A : b6, EltH a1w v7 0 4 (b8 d9A) ∧
 Q0 d9A a1w (fun (b8o : Int) (b2P : Bool) (a8H : Hp) =>
 (0 : Int) ≤ 1 ∧ (1 : Int) < v7.n ∧ ∃ d9B : b6, EltH a8H v7 1 4 (b8 d9B) ∧
 Q0 d9B a8H (fun (b8s : Int) (c9d : Bool) (c3z : Hp) =>
 ((b2P && c9d) = true →
 a9l x0.fOp b8o b8s c3z (fun (a4l : Bool) (a9n : Hp) =>
 a3q a4l a9n (fun (a5N : b9) (a6m : Hp) =>
 K a5N a6m))) ∧
 ((b2P && c9d) = false →
 U5 (b9.mk x0.a8 x0.fOp v7 u1) (b9.mk 0 0 (Sl.mk none 0 0) (Sl.mk none 0 0)) c3z K)))) ∧
 (¬ (x0.a8 = 3) →
 (x0.a8 = 4 →
 (0 : Int) ≤ 0 ∧ (0 : Int) < u1.n ∧ ∃ c0z : b9, EltH a1w u1 0 4 (d6 c0z) ∧
 (((decide (c0z.a8 = 1)) || (decide (c0z.a8 = 2))) = true →
 a3q (decide (c0z.a8 = 2)) a1w (fun (b6O : b9) (d9C : Hp) =>
 K b6O d9C)) ∧
 (((decide (c0z.a8 = 1)) || (decide (c0z.a8 = 2))) = false →
 U5 (b9.mk x0.a8 x0.fOp v7 u1) (b9.mk 0 0 (Sl.mk none 0 0) (Sl.mk none 0 0)) a1w K)) ∧
 (¬ (x0.a8 = 4) →
 (x0.a8 = 5 →
 a2s (b9.mk x0.a8 x0.fOp v7 u1) 1 2 a1w (fun (b6P : b9) (d9D : Hp) =>
 K b6P d9D)) ∧
 (¬ (x0.a8 = 5) →
 (x0.a8 = 6 →
 a2s (b9.mk x0.a8 x0.fOp v7 u1) 2 1 a1w (fun (b6Q : b9) (d9E : Hp) =>
 K b6Q d9E)) ∧
 (¬ (x0.a8 = 6) →
 U5 (b9.mk x0.a8 x0.fOp v7 u1) (b9.mk 0 0 (Sl.mk none 0 0) (Sl.mk none 0 0)) a1w K))))))
theorem b6c (x0 : b9) {K : b9 → Hp → Prop} (I : Inv w0 ps0 H0 H [] w) (hR : ∀ (r0 : b9) (H' : Hp) (w' : World) (_ : Inv w0 ps0 H0 H' [] w') (_ : K r0 H'), R (Value.agg (d6 r0).toArray) w') (h : a3O x0 H K) : F42 (Value.agg (d6 x0).toArray) w R E := by
 unfold a3O at h
 unfold F42
 refine L9 I (cs := (d6 x0)) rfl fun g_2 w_3 I_4 k_5 => ?_
 refine y9 I_4 Tryz.zeroValue59 (cs := [(vi 0), (vi 0), (nS), (nS)]) rfl fun g_7 w_8 I_9 a9w => ?_
 refine X7 I_9 fun R1 D2 => ?_
 refine m8 a1L ?_
 refine m8 V6 ?_
 refine y7 (ld1 Tryz.isAgg51 ((D2.bring 1).at1 (o := 2) (vs := [(vs x0.j7)]) (nb rfl) rfl)) ?_
 refine y7 (ld1 Tryz.isAgg57 ((D2.bring 1).at1 (o := 3) (vs := [(vs x0.t7)]) (nb rfl) rfl)) ?_
 refine d8 (cap := []) (fun args w => Tryz.call66 args w) ?_
 refine o0 (Fi := []) (Fr := [bx g_7 59 [(vi 0), (vi 0), (nS), (nS)], bx g_2 59 (d6 x0)]) D2 (h) (fun g7u a1Z g7v p9 a9p g7w b5G d3c => ?_) (fun _ _ _ _ _ q => q.elim)
 obtain ⟨v7, rfl, rfl, h⟩ := d3c
 refine ⟨(b5G _ (D2.bring 1).lt1 (Inv.a4c (Fi := []) (D2.bring 1))), ?_⟩
 refine m8 a1L ?_
 refine d8 (cap := []) (fun args w => Tryz.call71 args w) ?_
 refine o0 (Fi := []) (Fr := [bx g_7 59 [(vi 0), (vi 0), (nS), (nS)], bx g_2 59 (d6 x0)]) a9p (h) (fun e5D a1w b0k a0R a5D e5E d1y c2L => ?_) (fun _ _ _ _ _ q => q.elim)
 obtain ⟨u1, rfl, rfl, h⟩ := c2L
 refine m7 (a5D.bring 1) Tryz.sizeOf51 (vs := [(vs v7)]) (cs' := [(vi x0.a8), (vi x0.fOp), (vs v7), (vs x0.t7)]) rfl rfl (nb rfl) rfl rfl fun a7u c0A e7a => ?_
 refine m8 V6 ?_
 refine m7 c0A Tryz.sizeOf57 (vs := [(vs u1)]) (cs' := [(vi x0.a8), (vi x0.fOp), (vs v7), (vs u1)]) rfl rfl (nb rfl) rfl rfl fun B3 a4v c3y => ?_
 have hj1 : ∀ (H : Hp) (w : World) (_ : Inv w0 ps0 H0 H [bx g_2 59 [(vi (b9.mk x0.a8 x0.fOp v7 u1).a8), (vi (b9.mk x0.a8 x0.fOp v7 u1).fOp), (Value.slice (b9.mk x0.a8 x0.fOp v7 u1).j7.a (b9.mk x0.a8 x0.fOp v7 u1).j7.n (b9.mk x0.a8 x0.fOp v7 u1).j7.c), (Value.slice (b9.mk x0.a8 x0.fOp v7 u1).t7.a (b9.mk x0.a8 x0.fOp v7 u1).t7.n (b9.mk x0.a8 x0.fOp v7 u1).t7.c)], bx g_7 59 [(vi (b9.mk 0 0 (Sl.mk none 0 0) (Sl.mk none 0 0)).a8), (vi (b9.mk 0 0 (Sl.mk none 0 0) (Sl.mk none 0 0)).fOp), (Value.slice (b9.mk 0 0 (Sl.mk none 0 0) (Sl.mk none 0 0)).j7.a (b9.mk 0 0 (Sl.mk none 0 0) (Sl.mk none 0 0)).j7.n (b9.mk 0 0 (Sl.mk none 0 0) (Sl.mk none 0 0)).j7.c), (Value.slice (b9.mk 0 0 (Sl.mk none 0 0) (Sl.mk none 0 0)).t7.a (b9.mk 0 0 (Sl.mk none 0 0) (Sl.mk none 0 0)).t7.n (b9.mk 0 0 (Sl.mk none 0 0) (Sl.mk none 0 0)).t7.c)]] w) (_ : U5 (b9.mk x0.a8 x0.fOp v7 u1) (b9.mk 0 0 (Sl.mk none 0 0) (Sl.mk none 0 0)) H K), d2A (Value.pointer (some ⟨g_2, 0, none⟩)) (Value.pointer (some ⟨g_7, 0, none⟩)) w R E := by
  intro H w I h
  unfold d2A
  intro _
  unfold U5 at h
  refine d7 (ldA Tryz.isAgg59 Tryz.sizeOf59 rfl (I.at1 (o := 0) (vs := [(vi (b9.mk x0.a8 x0.fOp v7 u1).a8), (vi (b9.mk x0.a8 x0.fOp v7 u1).fOp), (Value.slice (b9.mk x0.a8 x0.fOp v7 u1).j7.a (b9.mk x0.a8 x0.fOp v7 u1).j7.n (b9.mk x0.a8 x0.fOp v7 u1).j7.c), (Value.slice (b9.mk x0.a8 x0.fOp v7 u1).t7.a (b9.mk x0.a8 x0.fOp v7 u1).t7.n (b9.mk x0.a8 x0.fOp v7 u1).t7.c)]) (nb rfl) rfl)) ?_
  refine m7 (I.bring 1) Tryz.sizeOf59 (vs := [(vi (b9.mk x0.a8 x0.fOp v7 u1).a8), (vi (b9.mk x0.a8 x0.fOp v7 u1).fOp), (Value.slice (b9.mk x0.a8 x0.fOp v7 u1).j7.a (b9.mk x0.a8 x0.fOp v7 u1).j7.n (b9.mk x0.a8 x0.fOp v7 u1).j7.c), (Value.slice (b9.mk x0.a8 x0.fOp v7 u1).t7.a (b9.mk x0.a8 x0.fOp v7 u1).t7.n (b9.mk x0.a8 x0.fOp v7 u1).t7.c)]) (cs' := [(vi (b9.mk x0.a8 x0.fOp v7 u1).a8), (vi (b9.mk x0.a8 x0.fOp v7 u1).fOp), (Value.slice (b9.mk x0.a8 x0.fOp v7 u1).j7.a (b9.mk x0.a8 x0.fOp v7 u1).j7.n (b9.mk x0.a8 x0.fOp v7 u1).j7.c), (Value.slice (b9.mk x0.a8 x0.fOp v7 u1).t7.a (b9.mk x0.a8 x0.fOp v7 u1).t7.n (b9.mk x0.a8 x0.fOp v7 u1).t7.c)]) rfl rfl (nb rfl) rfl rfl fun a2o g7x i5p => ?_
  refine L4 Tryz.isAgg59 Tryz.sizeOf59 rfl (g7x.at1 (o := 0) (vs := [(vi (b9.mk x0.a8 x0.fOp v7 u1).a8), (vi (b9.mk x0.a8 x0.fOp v7 u1).fOp), (Value.slice (b9.mk x0.a8 x0.fOp v7 u1).j7.a (b9.mk x0.a8 x0.fOp v7 u1).j7.n (b9.mk x0.a8 x0.fOp v7 u1).j7.c), (Value.slice (b9.mk x0.a8 x0.fOp v7 u1).t7.a (b9.mk x0.a8 x0.fOp v7 u1).t7.n (b9.mk x0.a8 x0.fOp v7 u1).t7.c)]) (nb rfl) rfl) ?_
  exact hR (b9.mk x0.a8 x0.fOp v7 u1) H _ g7x.drop.drop h
 refine A7 fun j1 hx1 => ?_
 refine a7 a1K ?_
 refine d7 (ld1 Tryz.isAgg3 (a4v.at1 (o := 0) (vs := [(vi x0.a8)]) (nb rfl) rfl)) ?_
 refine a7 (o2 _ _ _ _ _ _) ?_
 refine j8 (fun d9F => ?_) (fun d9F => ?_)
 ·replace h := h.1 d9F
  refine a7 a1L ?_
  refine d7 (ld1 Tryz.isAgg51 (a4v.at1 (o := 2) (vs := [(vs v7)]) (nb rfl) rfl)) ?_
  obtain ⟨i0r, b8l, d9A, a3F, h⟩ := h
  obtain ⟨i5q, i5r, a1u, a3F⟩ := a3F
  refine a7 (M4 a1u _ _ _ _ i0r b8l) ?_
  refine d7 (ldA (vs := (b8 d9A)) Tryz.isAgg53 Tryz.sizeOf53 rfl (a4v.atH a3F)) ?_
  refine d8 (cap := []) (fun args w => Tryz.call67 args w) ?_
  refine o0 (Fi := []) (Fr := [bx g_2 59 [(vi x0.a8), (vi x0.fOp), (vs v7), (vs u1)], bx g_7 59 [(vi 0), (vi 0), (nS), (nS)]]) a4v (h) (fun i0a a8H i0b b2g a9E Y0 i0c e6Q => ?_) (fun _ _ _ _ _ q => q.elim)
  obtain ⟨b8o, b2P, rfl, rfl, h⟩ := e6Q
  refine a7 (m9 _ _ (vi b8o) rfl) ?_
  refine a7 (m9 _ _ (vB b2P) rfl) ?_
  refine a7 a1L ?_
  refine d7 (ld1 Tryz.isAgg51 (a9E.at1 (o := 2) (vs := [(vs v7)]) (nb rfl) rfl)) ?_
  obtain ⟨e5H, i0s, d9B, e7b, h⟩ := h
  obtain ⟨i5s, i5t, i0t, e7b⟩ := e7b
  refine a7 (M4 i0t _ _ _ _ e5H i0s) ?_
  refine d7 (ldA (vs := (b8 d9B)) Tryz.isAgg53 Tryz.sizeOf53 rfl (a9E.atH e7b)) ?_
  refine d8 (cap := []) (fun args w => Tryz.call67 args w) ?_
  refine o0 (Fi := []) (Fr := [bx g_2 59 [(vi x0.a8), (vi x0.fOp), (vs v7), (vs u1)], bx g_7 59 [(vi 0), (vi 0), (nS), (nS)]]) a9E (h) (fun i0u c3z i0v c2O d3d e6J i0w e7c => ?_) (fun _ _ _ _ _ q => q.elim)
  obtain ⟨b8s, c9d, rfl, rfl, h⟩ := e7c
  refine a7 (m9 _ _ (vi b8s) rfl) ?_
  refine a7 (m9 _ _ (vB c9d) rfl) ?_
  simp only [O5]
  refine a7 (N6 _ _) ?_
  refine u0 (fun e7d => ?_) (fun e7d => ?_)
  ·replace h := h.1 e7d
   refine a7 a9W ?_
   refine d7 (ld1 Tryz.isAgg3 (d3d.at1 (o := 1) (vs := [(vi x0.fOp)]) (nb rfl) rfl)) ?_
   refine d8 (cap := []) (fun args w => Tryz.call73 args w) ?_
   refine o0 (Fi := []) (Fr := [bx g_2 59 [(vi x0.a8), (vi x0.fOp), (vs v7), (vs u1)], bx g_7 59 [(vi 0), (vi 0), (nS), (nS)]]) d3d (h) (fun c6O a9n e5o Q3 b3B e5p d7I c2D => ?_) (fun _ _ _ _ _ q => q.elim)
   obtain ⟨a4l, rfl, rfl, h⟩ := c2D
   refine d8 (cap := []) (fun args w => Tryz.call72 args w) ?_
   refine o0 (Fi := []) (Fr := [bx g_2 59 [(vi x0.a8), (vi x0.fOp), (vs v7), (vs u1)], bx g_7 59 [(vi 0), (vi 0), (nS), (nS)]]) b3B (h) (fun d1c a6m g2a a7O b9N c6Q d7J d1e => ?_) (fun _ _ _ _ _ q => q.elim)
   obtain ⟨a5N, rfl, rfl, h⟩ := d1e
   refine m7 (b9N.bring 1) Tryz.sizeOf59 (vs := (d6 a5N)) (cs' := (d6 a5N)) rfl rfl (nb rfl) rfl rfl fun d8Q g7y i5u => ?_
   refine L4 Tryz.isAgg59 Tryz.sizeOf59 rfl (g7y.at1 (o := 0) (vs := (d6 a5N)) (nb rfl) rfl) ?_
   exact hR a5N a6m _ g7y.drop.drop h
  ·replace h := h.2 e7d
   exact hx1 _ _ (hj1 c3z _ ((d3d.bring 1).bring 1) h)
 ·replace h := h.2 d9F
  refine a7 (o2 _ _ _ _ _ _) ?_
  refine j8 (fun d9G => ?_) (fun d9G => ?_)
  ·replace h := h.1 d9G
   refine a7 V6 ?_
   refine d7 (ld1 Tryz.isAgg57 (a4v.at1 (o := 3) (vs := [(vs u1)]) (nb rfl) rfl)) ?_
   obtain ⟨c3w, i0x, c0z, d9H, h⟩ := h
   obtain ⟨i5v, i5w, i0y, d9H⟩ := d9H
   refine a7 (a0P i0y _ _ _ _ c3w i0x) ?_
   refine a7 a1K ?_
   refine d7 (ld1 (v := (vi c0z.a8)) Tryz.isAgg3 ((a4v.atH d9H).sub (k := 0) (n := 1) (nb rfl))) ?_
   refine a7 (o2 _ _ _ _ _ _) ?_
   simp only [O5]
   refine a7 (Pu.g fun hb => by have i5 := hb; simp only [s8 i5]; exact (o2 _ _ _ _ _ _)) ?_
   refine a7 (a1d _ _) ?_
   refine u0 (fun d9I => ?_) (fun d9I => ?_)
   ·replace h := h.1 d9I
    refine a7 (o2 _ _ _ _ _ _) ?_
    refine d8 (cap := []) (fun args w => Tryz.call72 args w) ?_
    refine o0 (Fi := []) (Fr := [bx g_2 59 [(vi x0.a8), (vi x0.fOp), (vs v7), (vs u1)], bx g_7 59 [(vi 0), (vi 0), (nS), (nS)]]) a4v (h) (fun i2J d9C i2K a0i h5B i2L i2M h5C => ?_) (fun _ _ _ _ _ q => q.elim)
    obtain ⟨b6O, rfl, rfl, h⟩ := h5C
    refine m7 (h5B.bring 1) Tryz.sizeOf59 (vs := (d6 b6O)) (cs' := (d6 b6O)) rfl rfl (nb rfl) rfl rfl fun a8X f0n i2N => ?_
    refine L4 Tryz.isAgg59 Tryz.sizeOf59 rfl (f0n.at1 (o := 0) (vs := (d6 b6O)) (nb rfl) rfl) ?_
    exact hR b6O d9C _ f0n.drop.drop h
   ·replace h := h.2 d9I
    exact hx1 _ _ (hj1 a1w _ ((a4v.bring 1).bring 1) h)
  ·replace h := h.2 d9G
   refine a7 (o2 _ _ _ _ _ _) ?_
   refine j8 (fun d9J => ?_) (fun d9J => ?_)
   ·replace h := h.1 d9J
    refine d7 (ldA Tryz.isAgg59 Tryz.sizeOf59 rfl (a4v.at1 (o := 0) (vs := [(vi x0.a8), (vi x0.fOp), (vs v7), (vs u1)]) (nb rfl) rfl)) ?_
    refine d8 (cap := []) (fun args w => Tryz.call74 args w) ?_
    refine o0 (Fi := []) (Fr := [bx g_2 59 [(vi x0.a8), (vi x0.fOp), (vs v7), (vs u1)], bx g_7 59 [(vi 0), (vi 0), (nS), (nS)]]) a4v (h) (fun i2O d9D i2P c5j h5D i2Q i2R h5E => ?_) (fun _ _ _ _ _ q => q.elim)
    obtain ⟨b6P, rfl, rfl, h⟩ := h5E
    refine m7 (h5D.bring 1) Tryz.sizeOf59 (vs := (d6 b6P)) (cs' := (d6 b6P)) rfl rfl (nb rfl) rfl rfl fun i2S f0o i2T => ?_
    refine L4 Tryz.isAgg59 Tryz.sizeOf59 rfl (f0o.at1 (o := 0) (vs := (d6 b6P)) (nb rfl) rfl) ?_
    exact hR b6P d9D _ f0o.drop.drop h
   ·replace h := h.2 d9J
    refine a7 (o2 _ _ _ _ _ _) ?_
    refine j8 (fun d9K => ?_) (fun d9K => ?_)
    ·replace h := h.1 d9K
     refine d7 (ldA Tryz.isAgg59 Tryz.sizeOf59 rfl (a4v.at1 (o := 0) (vs := [(vi x0.a8), (vi x0.fOp), (vs v7), (vs u1)]) (nb rfl) rfl)) ?_
     refine d8 (cap := []) (fun args w => Tryz.call74 args w) ?_
     refine o0 (Fi := []) (Fr := [bx g_2 59 [(vi x0.a8), (vi x0.fOp), (vs v7), (vs u1)], bx g_7 59 [(vi 0), (vi 0), (nS), (nS)]]) a4v (h) (fun i2U d9E i2V i2W h5F i2X i2Y h5G => ?_) (fun _ _ _ _ _ q => q.elim)
     obtain ⟨b6Q, rfl, rfl, h⟩ := h5G
     refine m7 (h5F.bring 1) Tryz.sizeOf59 (vs := (d6 b6Q)) (cs' := (d6 b6Q)) rfl rfl (nb rfl) rfl rfl fun i2Z f0p i3a => ?_
     refine L4 Tryz.isAgg59 Tryz.sizeOf59 rfl (f0p.at1 (o := 0) (vs := (d6 b6Q)) (nb rfl) rfl) ?_
     exact hR b6Q d9E _ f0p.drop.drop h
    ·replace h := h.2 d9K
     exact hx1 _ _ (hj1 a1w _ ((a4v.bring 1).bring 1) h)
theorem b6R (x0 : b9) {H : Hp} {K : b9 → Hp → Prop} (h : a3O x0 H K) : a3J x0 H K := by
 intro w I
 refine g5q ?_
 refine b6c x0 I (fun r0 H' w' I' hk => ⟨H', _, I', r0, rfl, rfl, hk⟩) h
def a3P (x0 : b9) (H : Hp) (K : b9 → Int → Hp → Prop) : Prop :=
 a7I x0 H (fun (o4 : Int) (W2 : Hp) =>
 (¬ (o4 = 0) →
 K (b9.mk 0 0 (Sl.mk none 0 0) (Sl.mk none 0 0)) o4 W2) ∧
 (o4 = 0 →
 a3J x0 W2 (fun (a3s : b9) (a5E : Hp) =>
 K a3s 0 a5E)))
theorem b6d (x0 : b9) {K : b9 → Int → Hp → Prop} (I : Inv w0 ps0 H0 H [] w) (hR : ∀ (r0 : b9) (r1 : Int) (H' : Hp) (w' : World) (_ : Inv w0 ps0 H0 H' [] w') (_ : K r0 r1 H'), R (Value.tuple #[(Value.agg (d6 r0).toArray), (vi r1)]) w') (h : a3P x0 H K) : F23 (Value.agg (d6 x0).toArray) w R E := by
 unfold a3P at h
 unfold F23
 refine L9 I (cs := (d6 x0)) rfl fun g_2 w_3 I_4 k_5 => ?_
 refine y9 I_4 Tryz.zeroValue59 (cs := [(vi 0), (vi 0), (nS), (nS)]) rfl fun g_7 w_8 I_9 a9w => ?_
 refine d7 (ldA Tryz.isAgg59 Tryz.sizeOf59 rfl ((I_9.bring 1).at1 (o := 0) (vs := (d6 x0)) (nb rfl) rfl)) ?_
 refine d8 (cap := []) (fun args w => Tryz.call41 args w) ?_
 refine o0 (Fi := []) (Fr := [bx g_7 59 [(vi 0), (vi 0), (nS), (nS)], bx g_2 59 (d6 x0)]) I_9 (h) (fun b8q W2 c0x q9 a3G b5U b5X b1k => ?_) (fun _ _ _ _ _ q => q.elim)
 obtain ⟨o4, rfl, rfl, h⟩ := b1k
 refine a7 (T8 _ _ _ _ _ _) ?_
 refine a2L (fun c3x => ?_) (fun c3x => ?_)
 ·replace h := h.1 c3x
  refine a7 (e1r ) ?_
  refine m7 a3G Tryz.sizeOf59 (vs := [(vi 0), (vi 0), (nS), (nS)]) (cs' := [(vi 0), (vi 0), (nS), (nS)]) rfl rfl (nb rfl) rfl rfl fun u9 a1U b9M => ?_
  refine L4 Tryz.isAgg59 Tryz.sizeOf59 rfl (a1U.at1 (o := 0) (vs := [(vi 0), (vi 0), (nS), (nS)]) (nb rfl) rfl) ?_
  exact hR (b9.mk 0 0 (Sl.mk none 0 0) (Sl.mk none 0 0)) o4 W2 _ a1U.drop.drop h
 ·replace h := h.2 c3x
  refine d7 (ldA Tryz.isAgg59 Tryz.sizeOf59 rfl ((a3G.bring 1).at1 (o := 0) (vs := (d6 x0)) (nb rfl) rfl)) ?_
  refine d8 (cap := []) (fun args w => Tryz.call42 args w) ?_
  refine o0 (Fi := []) (Fr := [bx g_7 59 [(vi 0), (vi 0), (nS), (nS)], bx g_2 59 (d6 x0)]) a3G (h) (fun e5K a5E d1f z6 a6p e5L d7O c2P => ?_) (fun _ _ _ _ _ q => q.elim)
  obtain ⟨a3s, rfl, rfl, h⟩ := c2P
  refine m7 a6p Tryz.sizeOf59 (vs := (d6 a3s)) (cs' := (d6 a3s)) rfl rfl (nb rfl) rfl rfl fun B7 a6M d1A => ?_
  refine L4 Tryz.isAgg59 Tryz.sizeOf59 rfl (a6M.at1 (o := 0) (vs := (d6 a3s)) (nb rfl) rfl) ?_
  exact hR a3s 0 a5E _ a6M.drop.drop h
theorem b6S (x0 : b9) {H : Hp} {K : b9 → Int → Hp → Prop} (h : a3P x0 H K) : a6i x0 H K := by
 intro w I
 refine g4w ?_
 refine b6d x0 I (fun r0 r1 H' w' I' hk => ⟨H', _, I', r0, r1, rfl, rfl, hk⟩) h
def a0N (H : Hp) (K : Bool → Hp → Prop) : Prop :=
 U2 1 H (fun (M7 : b6) (H_1 : Hp) =>
 U2 2 H_1 (fun (L8 : b6) (a5z : Hp) =>
 ∀ (c3A : Sl) (c0c : Hp), Hle a5z c0c → SlH c0c 4 b8 c3A [M7, L8] → c3A.n ≤ c3A.c →
 ∀ (a4o : Sl) (b2k : Hp), Hle c0c b2k → SlH b2k 4 b8 a4o [(b6.mk 6 0 ⟨#[]⟩ c3A), (b6.mk 2 0 ⟨#[120]⟩ (Sl.mk none 0 0))] → a4o.n ≤ a4o.c →
 a6g (b6.mk 8 0 ⟨#[]⟩ a4o) b2k (fun (i8 : b6) (b0u : Int) (a0W : Hp) =>
 U2 1 a0W (fun (b8s : b6) (c3z : Hp) =>
 U2 2 c3z (fun (a4l : b6) (a9n : Hp) =>
 ∀ (c7j : Sl) (d3e : Hp), Hle a9n d3e → SlH d3e 4 b8 c7j [b8s, a4l] → c7j.n ≤ c7j.c →
 a6i (b9.mk 3 1 c7j (Sl.mk none 0 0)) d3e (fun (c1D : b9) (c1E : Int) (d3f : Hp) =>
 ∃ a6Y : b6, (((((decide (b0u = 0)) && (decide (c1E = 0))) && (decide (i8.a8 = 8))) && (decide ((i8.o9.n : Int) = 2))) = true → (0 : Int) ≤ 0 ∧ (0 : Int) < i8.o9.n ∧ EltH d3f i8.o9 0 4 (b8 a6Y)) ∧
 ∃ c5y : b6, ((((((decide (b0u = 0)) && (decide (c1E = 0))) && (decide (i8.a8 = 8))) && (decide ((i8.o9.n : Int) = 2))) && (decide (a6Y.a8 = 1))) = true → (0 : Int) ≤ 0 ∧ (0 : Int) < i8.o9.n ∧ EltH d3f i8.o9 0 4 (b8 c5y)) ∧
 K (((((((decide (b0u = 0)) && (decide (c1E = 0))) && (decide (i8.a8 = 8))) && (decide ((i8.o9.n : Int) = 2))) && (decide (a6Y.a8 = 1))) && (decide (c5y.p5 = 3))) && (decide (c1D.a8 = 1))) d3f))))))
theorem b1Y {K : Bool → Hp → Prop} (I : Inv w0 ps0 H0 H [] w) (hR : ∀ (r0 : Bool) (H' : Hp) (w' : World) (_ : Inv w0 ps0 H0 H' [] w') (_ : K r0 H'), R (vB r0) w') (h : a0N H K) : F8 w R E := by
 unfold a0N at h
 unfold F8
 refine d8 (cap := []) (fun args w => Tryz.call22 args w) ?_
 refine o0 (Fi := []) (Fr := []) I (h) (fun v_5 H_1 F_6 w_2 I_3 l_8 k_4 q_7 => ?_) (fun _ _ _ _ _ q => q.elim)
 obtain ⟨M7, rfl, rfl, h⟩ := q_7
 refine d8 (cap := []) (fun args w => Tryz.call22 args w) ?_
 refine o0 (Fi := []) (Fr := []) I_3 (h) (fun d0V a5z g1Y R1 D2 c2C b5A d0X => ?_) (fun _ _ _ _ _ q => q.elim)
 obtain ⟨L8, rfl, rfl, h⟩ := d0X
 refine a1s (e := 53) (c := b8) (xs := [M7, L8]) D2 (c6n _ _ _ _ _ _ _ _ _ _ _ _) rfl rfl a2j a2k (nb rfl) fun c3A b3D y6 c3h a5D d1y => ?_
 refine a7 (b2e _ _ _ _) ?_
 refine a7 (c8t _ _) ?_
 obtain ⟨c0c, b1d, d1l, a4I, d1g⟩ := Inv.freezeC a5D c3h (by decide)
 replace h := h c3A c0c d1l a4I d1g
 refine a1s (e := 53) (c := b8) (xs := [(b6.mk 6 0 ⟨#[]⟩ c3A), (b6.mk 2 0 ⟨#[120]⟩ (Sl.mk none 0 0))]) b1d (c6n _ _ _ _ _ _ _ _ _ _ _ _) rfl rfl a2j a2k (nb rfl) fun a4o a7p B3 a3W a2p b0M => ?_
 refine a7 (b2e _ _ _ _) ?_
 obtain ⟨b2k, i0z, d8S, b8l, a1u⟩ := Inv.freezeC a2p a3W (by decide)
 replace h := h a4o b2k d8S b8l a1u
 refine d8 (cap := []) (fun args w => Tryz.call21 args w) ?_
 refine o0 (Fi := []) (Fr := []) i0z (h) (fun d7U a0W d7V G4 b2n d7W d7X b7M => ?_) (fun _ _ _ _ _ q => q.elim)
 obtain ⟨i8, b0u, rfl, rfl, h⟩ := b7M
 refine a7 (m9 _ _ _ rfl) ?_
 refine a7 (m9 _ _ (vi b0u) rfl) ?_
 refine y9 b2n Tryz.zeroValue53 (cs := [(vi 0), (vi 0), (eS), (nS)]) rfl fun e7e N7 c7h g7q => ?_
 refine m7 c7h Tryz.sizeOf53 (vs := (b8 i8)) (cs' := (b8 i8)) rfl rfl (nb rfl) rfl rfl fun b7V b1c c0d => ?_
 refine d8 (cap := []) (fun args w => Tryz.call22 args w) ?_
 refine o0 (Fi := []) (Fr := [bx e7e 53 (b8 i8)]) b1c (h) (fun i0u c3z i0v c2O d3d e6J i0w e7c => ?_) (fun _ _ _ _ _ q => q.elim)
 obtain ⟨b8s, rfl, rfl, h⟩ := e7c
 refine d8 (cap := []) (fun args w => Tryz.call22 args w) ?_
 refine o0 (Fi := []) (Fr := [bx e7e 53 (b8 i8)]) d3d (h) (fun c6O a9n e5o Q3 b3B e5p d7I c2D => ?_) (fun _ _ _ _ _ q => q.elim)
 obtain ⟨a4l, rfl, rfl, h⟩ := c2D
 refine a1s (e := 53) (c := b8) (xs := [b8s, a4l]) b3B (c6n _ _ _ _ _ _ _ _ _ _ _ _) rfl rfl a2j a2k (nb rfl) fun c7j i5x c7d i0A i0B i5y => ?_
 refine a7 (c4k _ _ _ _ _) ?_
 obtain ⟨d3e, i0C, i0D, i0E, i0F⟩ := Inv.freezeC i0B i0A (by decide)
 replace h := h c7j d3e i0D i0E i0F
 refine d8 (cap := []) (fun args w => Tryz.call23 args w) ?_
 refine o0 (Fi := []) (Fr := [bx e7e 53 (b8 i8)]) i0C (h) (fun i5z d3f i0G b0s c7k g0z i5A i0H => ?_) (fun _ _ _ _ _ q => q.elim)
 obtain ⟨c1D, c1E, rfl, rfl, h⟩ := i0H
 refine a7 (m9 _ _ _ rfl) ?_
 refine a7 (m9 _ _ (vi c1E) rfl) ?_
 refine y9 c7k Tryz.zeroValue59 (cs := [(vi 0), (vi 0), (nS), (nS)]) rfl fun i3b b8i h5H i3c => ?_
 refine m7 h5H Tryz.sizeOf59 (vs := (d6 c1D)) (cs' := (d6 c1D)) rfl rfl (nb rfl) rfl rfl fun a0J b5i i3d => ?_
 refine a7 (o2 _ _ _ _ _ _) ?_
 simp only [O5]
 refine a7 (Pu.g fun hb => by have i5 := hb; simp only [s8 i5]; exact (o2 _ _ _ _ _ _)) ?_
 refine a7 (N6 _ _) ?_
 refine a7 (Pu.g fun hb => by have i5 := hb; exact Q7) ?_
 refine d7 (Ld.g fun hb => by have i5 := hb; simp only [s8 i5]; exact (ld1 Tryz.isAgg3 ((b5i.bring 1).at1 (o := 0) (vs := [(vi i8.a8)]) (nb rfl) rfl))) ?_
 refine a7 (Pu.g fun hb => by have i5 := hb; simp only [s8 i5]; exact (o2 _ _ _ _ _ _)) ?_
 refine a7 (N6 _ _) ?_
 refine a7 (Pu.g fun hb => by have i5 := hb; exact K5) ?_
 refine d7 (Ld.g fun hb => by have i5 := hb; simp only [s8 i5]; exact (ld1 Tryz.isAgg51 ((b5i.bring 1).at1 (o := 3) (vs := [(vs i8.o9)]) (nb rfl) rfl))) ?_
 refine a7 (Pu.g fun hb => by have i5 := hb; simp only [s8 i5]; exact (a2l _ _ _)) ?_
 refine a7 (Pu.g fun hb => by have i5 := hb; simp only [s8 i5]; exact (o2 _ _ _ _ _ _)) ?_
 refine a7 (N6 _ _) ?_
 refine a7 (Pu.g fun hb => by have i5 := hb; exact K5) ?_
 refine d7 (Ld.g fun hb => by have i5 := hb; simp only [s8 i5]; exact (ld1 Tryz.isAgg51 ((b5i.bring 1).at1 (o := 3) (vs := [(vs i8.o9)]) (nb rfl) rfl))) ?_
 obtain ⟨a6Y, b1G, h⟩ := h
 obtain ⟨h5q, h5r, b1G⟩ := c0Z b1G
 refine a7 (Pu.g fun hb => by have i5 := hb; simp only [s8 i5]; exact (M4 (b1G hb).2.2.1 _ _ _ _ (b1G hb).1 (b1G hb).2.1)) ?_
 refine a7 (Pu.g fun hb => by have i5 := hb; simp only [s8 i5]; exact Q7) ?_
 refine d7 (Ld.g fun hb => by have i5 := hb; simp only [s8 i5]; exact (ld1 (v := (vi a6Y.a8)) Tryz.isAgg3 ((b5i.atH (b1G hb).2.2.2).sub (k := 0) (n := 1) (nb rfl)))) ?_
 refine a7 (Pu.g fun hb => by have i5 := hb; simp only [s8 i5]; exact (o2 _ _ _ _ _ _)) ?_
 refine a7 (N6 _ _) ?_
 refine a7 (Pu.g fun hb => by have i5 := hb; exact K5) ?_
 refine d7 (Ld.g fun hb => by have i5 := hb; simp only [s8 i5]; exact (ld1 Tryz.isAgg51 ((b5i.bring 1).at1 (o := 3) (vs := [(vs i8.o9)]) (nb rfl) rfl))) ?_
 obtain ⟨c5y, c1F, h⟩ := h
 obtain ⟨i3e, i3f, c1F⟩ := c0Z c1F
 refine a7 (Pu.g fun hb => by have i5 := hb; simp only [s8 i5]; exact (M4 (c1F hb).2.2.1 _ _ _ _ (c1F hb).1 (c1F hb).2.1)) ?_
 refine a7 (Pu.g fun hb => by have i5 := hb; simp only [s8 i5]; exact a6x) ?_
 refine d7 (Ld.g fun hb => by have i5 := hb; simp only [s8 i5]; exact (ld1 (v := (vi c5y.p5)) Tryz.isAgg2 ((b5i.atH (c1F hb).2.2.2).sub (k := 1) (n := 1) (nb rfl)))) ?_
 refine a7 (Pu.g fun hb => by have i5 := hb; simp only [s8 i5]; exact (o2 _ _ _ _ _ _)) ?_
 refine a7 (N6 _ _) ?_
 refine a7 (Pu.g fun hb => by have i5 := hb; exact a1K) ?_
 refine d7 (Ld.g fun hb => by have i5 := hb; simp only [s8 i5]; exact (ld1 Tryz.isAgg3 (b5i.at1 (o := 0) (vs := [(vi c1D.a8)]) (nb rfl) rfl))) ?_
 refine a7 (Pu.g fun hb => by have i5 := hb; simp only [s8 i5]; exact (o2 _ _ _ _ _ _)) ?_
 refine a7 (N6 _ _) ?_
 exact hR (((((((decide (b0u = 0)) && (decide (c1E = 0))) && (decide (i8.a8 = 8))) && (decide ((i8.o9.n : Int) = 2))) && (decide (a6Y.a8 = 1))) && (decide (c5y.p5 = 3))) && (decide (c1D.a8 = 1))) d3f _ b5i.drop.drop h
theorem b2r {H : Hp} {K : Bool → Hp → Prop} (h : a0N H K) : a3U H K := by
 intro w I
 refine h4M ?_
 refine b1Y I (fun r0 H' w' I' hk => ⟨H', _, I', r0, rfl, rfl, hk⟩) h
def a2F (x0 : Int) (x1 : d5) (H : Hp) (K : Bool → Hp → Prop) : Prop :=
 ∃ x_1 : b9, ((decide (0 < (x1.r8.n : Int))) = true → (0 : Int) ≤ 0 ∧ (0 : Int) < x1.r8.n ∧ EltH H x1.r8 0 4 (d6 x_1)) ∧
 K ((decide (0 < (x1.r8.n : Int))) && (decide (x_1.a8 = x0))) H
theorem b4n (x0 : Int) (x1 : d5) (g1 : Nat) {K : Bool → Hp → Prop} (I : Inv w0 ps0 H0 H [bx g1 73 (g7 x1)] w) (hR : ∀ (r0 : Bool) (H' : Hp) (w' : World) (_ : Inv w0 ps0 H0 H' [bx g1 73 (g7 x1)] w') (_ : K r0 H'), R (vB r0) w') (h : a2F x0 x1 H K) : F93 (vi x0) (Value.pointer (some ⟨g1, 0, none⟩)) w R E := by
 unfold a2F at h
 unfold F93
 refine a7 a3e ?_
 refine d7 (ld1 Tryz.isAgg57 (I.at1 (o := 3) (vs := [(vs x1.r8)]) (nb rfl) rfl)) ?_
 refine a7 (a6u _ _ _) ?_
 refine a7 (a3B _ _ _ _ _ _) ?_
 refine a7 (Pu.g fun hb => by have i5 := hb; exact a3e) ?_
 refine d7 (Ld.g fun hb => by have i5 := hb; simp only [s8 i5]; exact (ld1 Tryz.isAgg57 (I.at1 (o := 3) (vs := [(vs x1.r8)]) (nb rfl) rfl))) ?_
 obtain ⟨x_1, h_7, h⟩ := h
 obtain ⟨g_2, o_3, h_7⟩ := c0Z h_7
 refine a7 (Pu.g fun hb => by have i5 := hb; simp only [s8 i5]; exact (a0P (h_7 hb).2.2.1 _ _ _ _ (h_7 hb).1 (h_7 hb).2.1)) ?_
 refine a7 (Pu.g fun hb => by have i5 := hb; simp only [s8 i5]; exact a1K) ?_
 refine d7 (Ld.g fun hb => by have i5 := hb; simp only [s8 i5]; exact (ld1 (v := (vi x_1.a8)) Tryz.isAgg3 ((I.atH (h_7 hb).2.2.2).sub (k := 0) (n := 1) (nb rfl)))) ?_
 simp only [O5]
 refine a7 (Pu.g fun hb => by have i5 := hb; simp only [s8 i5]; exact (o2 _ _ _ _ _ _)) ?_
 refine a7 (N6 _ _) ?_
 exact hR ((decide (0 < (x1.r8.n : Int))) && (decide (x_1.a8 = x0))) H _ I h
theorem b4Q (x0 : Int) (x1 : d5) {H : Hp} {K : Bool → Hp → Prop} (h : a2F x0 x1 H K) : N3 x0 x1 H K := by
 intro g1 w I
 refine g7f ?_
 refine b4n x0 x1 g1 I (fun r0 H' w' I' hk => ⟨H', _, I', r0, rfl, rfl, hk⟩) h
def K4 (c1G : Bool) (v8 : d5) (H : Hp) (K : Sl → Hp → Prop) : Prop :=
 (c1G = true →
 K (Sl.mk none 0 0) H) ∧
 (c1G = false →
 TG ((decide (v8.a8 = 3)) = true) (N3 1 v8 H) false H (fun (b2Q : Bool) (a9F : Hp) =>
 (((decide (v8.a8 = 3)) && b2Q) = true →
 K v8.A4 a9F) ∧
 (((decide (v8.a8 = 3)) && b2Q) = false →
 TG ((decide (v8.a8 = 3)) = true) (N3 2 v8 a9F) false a9F (fun (a9d : Bool) (b0z : Hp) =>
 (((decide (v8.a8 = 3)) && a9d) = true →
 K v8.z7 b0z) ∧
 (((decide (v8.a8 = 3)) && a9d) = false →
 ∀ (a7V : Sl) (b0A : Hp), Hle b0z b0A → SlH b0A 6 g7 a7V [v8] → a7V.n ≤ a7V.c →
 K a7V b0A)))))
def a3Q (x0 : d5) (H : Hp) (K : Sl → Hp → Prop) : Prop :=
 D4 x0.r8 H (fun (m5 : Sl) (H_8 : Hp) =>
 A9 x0.j7 H_8 (fun (j9 : Sl) (a4W : Hp) =>
 X5 x0.A4 a4W (fun (m6 : Sl) (a7r : Hp) =>
 X5 x0.z7 a7r (fun (i8 : Sl) (a0W : Hp) =>
 (x0.a8 = 7 →
 K4 (decide (x0.a8 = 7)) (d5.mk x0.a8 x0.b7 j9 m5 m6 i8) a0W K) ∧
 (¬ (x0.a8 = 7) →
 TG ((decide (x0.a8 = 6)) = true) (N3 1 (d5.mk x0.a8 x0.b7 j9 m5 m6 i8) a0W) false a0W (fun (a7j : Bool) (a9G : Hp) =>
 (((decide (x0.a8 = 6)) && a7j) = true →
 K4 ((decide (x0.a8 = 6)) && a7j) (d5.mk x0.a8 x0.b7 j9 m5 m6 i8) a9G K) ∧
 (((decide (x0.a8 = 6)) && a7j) = false →
 TG ((decide (x0.a8 = 4)) = true) (N3 2 (d5.mk x0.a8 x0.b7 j9 m5 m6 i8) a9G) false a9G (fun (a8R : Bool) (b0B : Hp) =>
 K4 ((decide (x0.a8 = 4)) && a8R) (d5.mk x0.a8 x0.b7 j9 m5 m6 i8) b0B K))))))))
theorem b6e (x0 : d5) {K : Sl → Hp → Prop} (I : Inv w0 ps0 H0 H [] w) (hR : ∀ (r0 : Sl) (H' : Hp) (w' : World) (_ : Inv w0 ps0 H0 H' [] w') (_ : K r0 H'), R (vs r0) w') (h : a3Q x0 H K) : F54 (Value.agg (g7 x0).toArray) w R E := by
 unfold a3Q at h
 unfold F54
 refine L9 I (cs := (g7 x0)) rfl fun g_2 w_3 I_4 k_5 => ?_
 refine X7 I_4 fun w_6 I_7 => ?_
 refine m8 a3e ?_
 refine m8 a4g ?_
 refine y7 (ld1 Tryz.isAgg57 (I_7.at1 (o := 3) (vs := [(vs x0.r8)]) (nb rfl) rfl)) ?_
 refine y7 (ld1 Tryz.isAgg51 (I_7.at1 (o := 2) (vs := [(vs x0.j7)]) (nb rfl) rfl)) ?_
 refine d8 (cap := []) (fun args w => Tryz.call71 args w) ?_
 refine o0 (Fi := []) (Fr := [bx g_2 73 (g7 x0)]) I_7 (h) (fun e5q H_8 e5r w_9 b0l c2E b5F c2F => ?_) (fun _ _ _ _ _ q => q.elim)
 obtain ⟨m5, rfl, rfl, h⟩ := c2F
 refine ⟨(b5F _ I_7.lt1 (Inv.a4c (Fi := []) I_7)), ?_⟩
 refine m8 a3e ?_
 refine d8 (cap := []) (fun args w => Tryz.call66 args w) ?_
 refine o0 (Fi := []) (Fr := [bx g_2 73 (g7 x0)]) b0l (h) (fun d7K a4W d7L u5 a9o d7M b9P b7D => ?_) (fun _ _ _ _ _ q => q.elim)
 obtain ⟨j9, rfl, rfl, h⟩ := b7D
 refine m7 a9o Tryz.sizeOf57 (vs := [(vs m5)]) (cs' := [(vi x0.a8), (Value.string x0.b7), (vs x0.j7), (vs m5), (vs x0.A4), (vs x0.z7)]) rfl rfl (nb rfl) rfl rfl fun A6 b1d d1E => ?_
 refine m8 a4g ?_
 refine m7 b1d Tryz.sizeOf51 (vs := [(vs j9)]) (cs' := [(vi x0.a8), (Value.string x0.b7), (vs j9), (vs m5), (vs x0.A4), (vs x0.z7)]) rfl rfl (nb rfl) rfl rfl fun a6o V9 a8E => ?_
 refine X7 V9 fun B7 a6M => ?_
 refine m8 a3f ?_
 refine m8 a3g ?_
 refine y7 (ld1 Tryz.isAgg23 (a6M.at1 (o := 4) (vs := [(vs x0.A4)]) (nb rfl) rfl)) ?_
 refine y7 (ld1 Tryz.isAgg23 (a6M.at1 (o := 5) (vs := [(vs x0.z7)]) (nb rfl) rfl)) ?_
 refine d8 (cap := []) (fun args w => Tryz.call31 args w) ?_
 refine o0 (Fi := []) (Fr := [bx g_2 73 [(vi x0.a8), (Value.string x0.b7), (vs j9), (vs m5), (vs x0.A4), (vs x0.z7)]]) a6M (h) (fun g2k a7r g2l a6O a2p a6n b0M d1F => ?_) (fun _ _ _ _ _ q => q.elim)
 obtain ⟨m6, rfl, rfl, h⟩ := d1F
 refine ⟨(b0M _ a6M.lt1 (Inv.a4c (Fi := []) a6M)), ?_⟩
 refine m8 a3f ?_
 refine d8 (cap := []) (fun args w => Tryz.call31 args w) ?_
 refine o0 (Fi := []) (Fr := [bx g_2 73 [(vi x0.a8), (Value.string x0.b7), (vs j9), (vs m5), (vs x0.A4), (vs x0.z7)]]) a2p (h) (fun d7U a0W d7V G4 b2n d7W d7X b7M => ?_) (fun _ _ _ _ _ q => q.elim)
 obtain ⟨i8, rfl, rfl, h⟩ := b7M
 refine m7 b2n Tryz.sizeOf23 (vs := [(vs m6)]) (cs' := [(vi x0.a8), (Value.string x0.b7), (vs j9), (vs m5), (vs m6), (vs x0.z7)]) rfl rfl (nb rfl) rfl rfl fun K6 i0I i5B => ?_
 refine m8 a3g ?_
 refine m7 i0I Tryz.sizeOf23 (vs := [(vs i8)]) (cs' := [(vi x0.a8), (Value.string x0.b7), (vs j9), (vs m5), (vs m6), (vs i8)]) rfl rfl (nb rfl) rfl rfl fun b0U b9W i5C => ?_
 refine a7 (b1y _ _ _) ?_
 have hj1 : ∀ (c1G : Bool) (H : Hp) (w : World) (_ : Inv w0 ps0 H0 H [bx g_2 73 [(vi (d5.mk x0.a8 x0.b7 j9 m5 m6 i8).a8), (Value.string (d5.mk x0.a8 x0.b7 j9 m5 m6 i8).b7), (Value.slice (d5.mk x0.a8 x0.b7 j9 m5 m6 i8).j7.a (d5.mk x0.a8 x0.b7 j9 m5 m6 i8).j7.n (d5.mk x0.a8 x0.b7 j9 m5 m6 i8).j7.c), (Value.slice (d5.mk x0.a8 x0.b7 j9 m5 m6 i8).r8.a (d5.mk x0.a8 x0.b7 j9 m5 m6 i8).r8.n (d5.mk x0.a8 x0.b7 j9 m5 m6 i8).r8.c), (Value.slice (d5.mk x0.a8 x0.b7 j9 m5 m6 i8).A4.a (d5.mk x0.a8 x0.b7 j9 m5 m6 i8).A4.n (d5.mk x0.a8 x0.b7 j9 m5 m6 i8).A4.c), (Value.slice (d5.mk x0.a8 x0.b7 j9 m5 m6 i8).z7.a (d5.mk x0.a8 x0.b7 j9 m5 m6 i8).z7.n (d5.mk x0.a8 x0.b7 j9 m5 m6 i8).z7.c)]] w) (_ : K4 c1G (d5.mk x0.a8 x0.b7 j9 m5 m6 i8) H K), d2H (Value.pointer (some ⟨g_2, 0, none⟩)) (Value.func (.func 93) #[] #[(Value.pointer (some ⟨g_2, 0, none⟩))]) (vB c1G) w R E := by
  intro c1G H w I h
  unfold d2H
  intro _
  unfold K4 at h
  refine u0 (fun c3g => ?_) (fun c3g => ?_)
  ·replace h := h.1 c3g
   exact hR (Sl.mk none 0 0) H _ I.drop h
  ·replace h := h.2 c3g
   refine a7 a3d ?_
   refine d7 (ld1 Tryz.isAgg3 (I.at1 (o := 0) (vs := [(vi (d5.mk x0.a8 x0.b7 j9 m5 m6 i8).a8)]) (nb rfl) rfl)) ?_
   refine a7 (o2 _ _ _ _ _ _) ?_
   simp only [O5]
   refine a5c (D := fun e7f a9h => ∃ (b2Q : Bool) (a9F : Hp) , e7f = (gv (decide ((d5.mk x0.a8 x0.b7 j9 m5 m6 i8).a8 = 3)) true (vB b2Q)) ∧ (Inv w0 ps0 H0 a9F [bx g_2 73 [(vi (d5.mk x0.a8 x0.b7 j9 m5 m6 i8).a8), (Value.string (d5.mk x0.a8 x0.b7 j9 m5 m6 i8).b7), (Value.slice (d5.mk x0.a8 x0.b7 j9 m5 m6 i8).j7.a (d5.mk x0.a8 x0.b7 j9 m5 m6 i8).j7.n (d5.mk x0.a8 x0.b7 j9 m5 m6 i8).j7.c), (Value.slice (d5.mk x0.a8 x0.b7 j9 m5 m6 i8).r8.a (d5.mk x0.a8 x0.b7 j9 m5 m6 i8).r8.n (d5.mk x0.a8 x0.b7 j9 m5 m6 i8).r8.c), (Value.slice (d5.mk x0.a8 x0.b7 j9 m5 m6 i8).A4.a (d5.mk x0.a8 x0.b7 j9 m5 m6 i8).A4.n (d5.mk x0.a8 x0.b7 j9 m5 m6 i8).A4.c), (Value.slice (d5.mk x0.a8 x0.b7 j9 m5 m6 i8).z7.a (d5.mk x0.a8 x0.b7 j9 m5 m6 i8).z7.n (d5.mk x0.a8 x0.b7 j9 m5 m6 i8).z7.c)]] a9h) ∧ (∀ i, i < w.heap.size → ¬ inF [bx g_2 73 [(vi (d5.mk x0.a8 x0.b7 j9 m5 m6 i8).a8), (Value.string (d5.mk x0.a8 x0.b7 j9 m5 m6 i8).b7), (Value.slice (d5.mk x0.a8 x0.b7 j9 m5 m6 i8).j7.a (d5.mk x0.a8 x0.b7 j9 m5 m6 i8).j7.n (d5.mk x0.a8 x0.b7 j9 m5 m6 i8).j7.c), (Value.slice (d5.mk x0.a8 x0.b7 j9 m5 m6 i8).r8.a (d5.mk x0.a8 x0.b7 j9 m5 m6 i8).r8.n (d5.mk x0.a8 x0.b7 j9 m5 m6 i8).r8.c), (Value.slice (d5.mk x0.a8 x0.b7 j9 m5 m6 i8).A4.a (d5.mk x0.a8 x0.b7 j9 m5 m6 i8).A4.n (d5.mk x0.a8 x0.b7 j9 m5 m6 i8).A4.c), (Value.slice (d5.mk x0.a8 x0.b7 j9 m5 m6 i8).z7.a (d5.mk x0.a8 x0.b7 j9 m5 m6 i8).z7.n (d5.mk x0.a8 x0.b7 j9 m5 m6 i8).z7.c)]] i → a9h.heap[i]? = w.heap[i]?) ∧ Hle H a9F ∧ ((((decide ((d5.mk x0.a8 x0.b7 j9 m5 m6 i8).a8 = 3)) && b2Q) = true →
 K (d5.mk x0.a8 x0.b7 j9 m5 m6 i8).A4 a9F) ∧
 (((decide ((d5.mk x0.a8 x0.b7 j9 m5 m6 i8).a8 = 3)) && b2Q) = false →
 TG ((decide ((d5.mk x0.a8 x0.b7 j9 m5 m6 i8).a8 = 3)) = true) (N3 2 (d5.mk x0.a8 x0.b7 j9 m5 m6 i8) a9F) false a9F (fun (a9d : Bool) (b0z : Hp) =>
 (((decide ((d5.mk x0.a8 x0.b7 j9 m5 m6 i8).a8 = 3)) && a9d) = true →
 K (d5.mk x0.a8 x0.b7 j9 m5 m6 i8).z7 b0z) ∧
 (((decide ((d5.mk x0.a8 x0.b7 j9 m5 m6 i8).a8 = 3)) && a9d) = false →
 ∀ (a7V : Sl) (b0A : Hp), Hle b0z b0A → SlH b0A 6 g7 a7V [(d5.mk x0.a8 x0.b7 j9 m5 m6 i8)] → a7V.n ≤ a7V.c →
 K a7V b0A))))) (fun c3B => ?_) (fun c3B => ?_) ?_
   ·replace h := h.1 c3B
    have i5 := c3B
    simp only [s8 i5]
    refine d8 (cap := [(Value.pointer (some ⟨g_2, 0, none⟩))]) (fun args w => Tryz.call93 args w) ?_
    refine o0 (Fi := [bx g_2 73 [(vi (d5.mk x0.a8 x0.b7 j9 m5 m6 i8).a8), (Value.string (d5.mk x0.a8 x0.b7 j9 m5 m6 i8).b7), (Value.slice (d5.mk x0.a8 x0.b7 j9 m5 m6 i8).j7.a (d5.mk x0.a8 x0.b7 j9 m5 m6 i8).j7.n (d5.mk x0.a8 x0.b7 j9 m5 m6 i8).j7.c), (Value.slice (d5.mk x0.a8 x0.b7 j9 m5 m6 i8).r8.a (d5.mk x0.a8 x0.b7 j9 m5 m6 i8).r8.n (d5.mk x0.a8 x0.b7 j9 m5 m6 i8).r8.c), (Value.slice (d5.mk x0.a8 x0.b7 j9 m5 m6 i8).A4.a (d5.mk x0.a8 x0.b7 j9 m5 m6 i8).A4.n (d5.mk x0.a8 x0.b7 j9 m5 m6 i8).A4.c), (Value.slice (d5.mk x0.a8 x0.b7 j9 m5 m6 i8).z7.a (d5.mk x0.a8 x0.b7 j9 m5 m6 i8).z7.n (d5.mk x0.a8 x0.b7 j9 m5 m6 i8).z7.c)]]) (Fr := []) I (h g_2) (fun e7f a9F i5D a9h c3C c7l g7z i0J => ?_) (fun _ _ _ _ _ q => q.elim)
    obtain ⟨b2Q, rfl, rfl, h⟩ := i0J
    exact ⟨b2Q, a9F, by rfl, c3C, g7z, c7l, h⟩
   ·exact ⟨false, H, by rw [a9g c3B], I, fun _ _ _ => rfl, Hle.refl _, h.2 c3B⟩
   ·clear h
    rintro e7f a9h ⟨b2Q, a9F, rfl, c3C, g7z, c7l, h⟩
    refine a7 (N6 _ _) ?_
    refine u0 (fun c2V => ?_) (fun c2V => ?_)
    ·replace h := h.1 c2V
     refine a7 a3f ?_
     refine d7 (ld1 Tryz.isAgg23 (c3C.at1 (o := 4) (vs := [(Value.slice (d5.mk x0.a8 x0.b7 j9 m5 m6 i8).A4.a (d5.mk x0.a8 x0.b7 j9 m5 m6 i8).A4.n (d5.mk x0.a8 x0.b7 j9 m5 m6 i8).A4.c)]) (nb rfl) rfl)) ?_
     exact hR (d5.mk x0.a8 x0.b7 j9 m5 m6 i8).A4 a9F _ c3C.drop h
    ·replace h := h.2 c2V
     refine a7 a3d ?_
     refine d7 (ld1 Tryz.isAgg3 (c3C.at1 (o := 0) (vs := [(vi (d5.mk x0.a8 x0.b7 j9 m5 m6 i8).a8)]) (nb rfl) rfl)) ?_
     refine a7 (o2 _ _ _ _ _ _) ?_
     simp only [O5]
     refine a5c (D := fun e7g Q8 => ∃ (a9d : Bool) (b0z : Hp) , e7g = (gv (decide ((d5.mk x0.a8 x0.b7 j9 m5 m6 i8).a8 = 3)) true (vB a9d)) ∧ (Inv w0 ps0 H0 b0z [bx g_2 73 [(vi (d5.mk x0.a8 x0.b7 j9 m5 m6 i8).a8), (Value.string (d5.mk x0.a8 x0.b7 j9 m5 m6 i8).b7), (Value.slice (d5.mk x0.a8 x0.b7 j9 m5 m6 i8).j7.a (d5.mk x0.a8 x0.b7 j9 m5 m6 i8).j7.n (d5.mk x0.a8 x0.b7 j9 m5 m6 i8).j7.c), (Value.slice (d5.mk x0.a8 x0.b7 j9 m5 m6 i8).r8.a (d5.mk x0.a8 x0.b7 j9 m5 m6 i8).r8.n (d5.mk x0.a8 x0.b7 j9 m5 m6 i8).r8.c), (Value.slice (d5.mk x0.a8 x0.b7 j9 m5 m6 i8).A4.a (d5.mk x0.a8 x0.b7 j9 m5 m6 i8).A4.n (d5.mk x0.a8 x0.b7 j9 m5 m6 i8).A4.c), (Value.slice (d5.mk x0.a8 x0.b7 j9 m5 m6 i8).z7.a (d5.mk x0.a8 x0.b7 j9 m5 m6 i8).z7.n (d5.mk x0.a8 x0.b7 j9 m5 m6 i8).z7.c)]] Q8) ∧ (∀ i, i < a9h.heap.size → ¬ inF [bx g_2 73 [(vi (d5.mk x0.a8 x0.b7 j9 m5 m6 i8).a8), (Value.string (d5.mk x0.a8 x0.b7 j9 m5 m6 i8).b7), (Value.slice (d5.mk x0.a8 x0.b7 j9 m5 m6 i8).j7.a (d5.mk x0.a8 x0.b7 j9 m5 m6 i8).j7.n (d5.mk x0.a8 x0.b7 j9 m5 m6 i8).j7.c), (Value.slice (d5.mk x0.a8 x0.b7 j9 m5 m6 i8).r8.a (d5.mk x0.a8 x0.b7 j9 m5 m6 i8).r8.n (d5.mk x0.a8 x0.b7 j9 m5 m6 i8).r8.c), (Value.slice (d5.mk x0.a8 x0.b7 j9 m5 m6 i8).A4.a (d5.mk x0.a8 x0.b7 j9 m5 m6 i8).A4.n (d5.mk x0.a8 x0.b7 j9 m5 m6 i8).A4.c), (Value.slice (d5.mk x0.a8 x0.b7 j9 m5 m6 i8).z7.a (d5.mk x0.a8 x0.b7 j9 m5 m6 i8).z7.n (d5.mk x0.a8 x0.b7 j9 m5 m6 i8).z7.c)]] i → Q8.heap[i]? = a9h.heap[i]?) ∧ Hle a9F b0z ∧ ((((decide ((d5.mk x0.a8 x0.b7 j9 m5 m6 i8).a8 = 3)) && a9d) = true →
 K (d5.mk x0.a8 x0.b7 j9 m5 m6 i8).z7 b0z) ∧
 (((decide ((d5.mk x0.a8 x0.b7 j9 m5 m6 i8).a8 = 3)) && a9d) = false →
 ∀ (a7V : Sl) (b0A : Hp), Hle b0z b0A → SlH b0A 6 g7 a7V [(d5.mk x0.a8 x0.b7 j9 m5 m6 i8)] → a7V.n ≤ a7V.c →
 K a7V b0A))) (fun d3g => ?_) (fun d3g => ?_) ?_
     ·replace h := h.1 d3g
      have i5 := d3g
      simp only [s8 i5]
      refine d8 (cap := [(Value.pointer (some ⟨g_2, 0, none⟩))]) (fun args w => Tryz.call93 args w) ?_
      refine o0 (Fi := [bx g_2 73 [(vi (d5.mk x0.a8 x0.b7 j9 m5 m6 i8).a8), (Value.string (d5.mk x0.a8 x0.b7 j9 m5 m6 i8).b7), (Value.slice (d5.mk x0.a8 x0.b7 j9 m5 m6 i8).j7.a (d5.mk x0.a8 x0.b7 j9 m5 m6 i8).j7.n (d5.mk x0.a8 x0.b7 j9 m5 m6 i8).j7.c), (Value.slice (d5.mk x0.a8 x0.b7 j9 m5 m6 i8).r8.a (d5.mk x0.a8 x0.b7 j9 m5 m6 i8).r8.n (d5.mk x0.a8 x0.b7 j9 m5 m6 i8).r8.c), (Value.slice (d5.mk x0.a8 x0.b7 j9 m5 m6 i8).A4.a (d5.mk x0.a8 x0.b7 j9 m5 m6 i8).A4.n (d5.mk x0.a8 x0.b7 j9 m5 m6 i8).A4.c), (Value.slice (d5.mk x0.a8 x0.b7 j9 m5 m6 i8).z7.a (d5.mk x0.a8 x0.b7 j9 m5 m6 i8).z7.n (d5.mk x0.a8 x0.b7 j9 m5 m6 i8).z7.c)]]) (Fr := []) c3C (h g_2) (fun e7g b0z i5E Q8 c0y g7A e6Z i0K => ?_) (fun _ _ _ _ _ q => q.elim)
      obtain ⟨a9d, rfl, rfl, h⟩ := i0K
      exact ⟨a9d, b0z, by rfl, c0y, e6Z, g7A, h⟩
     ·exact ⟨false, a9F, by rw [a9g d3g], c3C, fun _ _ _ => rfl, Hle.refl _, h.2 d3g⟩
     ·clear h
      rintro e7g Q8 ⟨a9d, b0z, rfl, c0y, e6Z, g7A, h⟩
      refine a7 (N6 _ _) ?_
      refine u0 (fun c2Z => ?_) (fun c2Z => ?_)
      ·replace h := h.1 c2Z
       refine a7 a3g ?_
       refine d7 (ld1 Tryz.isAgg23 (c0y.at1 (o := 5) (vs := [(Value.slice (d5.mk x0.a8 x0.b7 j9 m5 m6 i8).z7.a (d5.mk x0.a8 x0.b7 j9 m5 m6 i8).z7.n (d5.mk x0.a8 x0.b7 j9 m5 m6 i8).z7.c)]) (nb rfl) rfl)) ?_
       exact hR (d5.mk x0.a8 x0.b7 j9 m5 m6 i8).z7 b0z _ c0y.drop h
      ·replace h := h.2 c2Z
       refine d7 (ldA Tryz.isAgg73 Tryz.sizeOf73 rfl (c0y.at1 (o := 0) (vs := [(vi (d5.mk x0.a8 x0.b7 j9 m5 m6 i8).a8), (Value.string (d5.mk x0.a8 x0.b7 j9 m5 m6 i8).b7), (Value.slice (d5.mk x0.a8 x0.b7 j9 m5 m6 i8).j7.a (d5.mk x0.a8 x0.b7 j9 m5 m6 i8).j7.n (d5.mk x0.a8 x0.b7 j9 m5 m6 i8).j7.c), (Value.slice (d5.mk x0.a8 x0.b7 j9 m5 m6 i8).r8.a (d5.mk x0.a8 x0.b7 j9 m5 m6 i8).r8.n (d5.mk x0.a8 x0.b7 j9 m5 m6 i8).r8.c), (Value.slice (d5.mk x0.a8 x0.b7 j9 m5 m6 i8).A4.a (d5.mk x0.a8 x0.b7 j9 m5 m6 i8).A4.n (d5.mk x0.a8 x0.b7 j9 m5 m6 i8).A4.c), (Value.slice (d5.mk x0.a8 x0.b7 j9 m5 m6 i8).z7.a (d5.mk x0.a8 x0.b7 j9 m5 m6 i8).z7.n (d5.mk x0.a8 x0.b7 j9 m5 m6 i8).z7.c)]) (nb rfl) rfl)) ?_
       refine a1s (e := 73) (c := g7) (xs := [(d5.mk x0.a8 x0.b7 j9 m5 m6 i8)]) c0y (d5J _ _ _ _ _ _ _ _ _ _ _ _ _ _) rfl rfl a7e a8U (nb rfl) fun a7V i0L a7O d8Y i0M i5F => ?_
       obtain ⟨b0A, e6O, c6Q, e6T, d3b⟩ := Inv.freezeC i0M d8Y (by decide)
       replace h := h a7V b0A c6Q e6T d3b
       exact hR a7V b0A _ e6O.drop h
 refine A7 fun j1 hx1 => ?_
 refine a7 a3d ?_
 refine d7 (ld1 Tryz.isAgg3 (b9W.at1 (o := 0) (vs := [(vi x0.a8)]) (nb rfl) rfl)) ?_
 refine a7 (o2 _ _ _ _ _ _) ?_
 refine j8 (fun d9L => ?_) (fun d9L => ?_)
 ·replace h := h.1 d9L
  exact hx1 _ _ (hj1 (decide (x0.a8 = 7)) a0W _ b9W h)
 ·replace h := h.2 d9L
  refine a7 a3d ?_
  refine d7 (ld1 Tryz.isAgg3 (b9W.at1 (o := 0) (vs := [(vi x0.a8)]) (nb rfl) rfl)) ?_
  refine a7 (o2 _ _ _ _ _ _) ?_
  simp only [O5]
  refine a5c (D := fun e7h a0h => ∃ (a7j : Bool) (a9G : Hp) , e7h = (gv (decide (x0.a8 = 6)) true (vB a7j)) ∧ (Inv w0 ps0 H0 a9G [bx g_2 73 [(vi x0.a8), (Value.string x0.b7), (vs j9), (vs m5), (vs m6), (vs i8)]] a0h) ∧ (∀ i, i < b0U.heap.size → ¬ inF [bx g_2 73 [(vi x0.a8), (Value.string x0.b7), (vs j9), (vs m5), (vs m6), (vs i8)]] i → a0h.heap[i]? = b0U.heap[i]?) ∧ Hle a0W a9G ∧ ((((decide (x0.a8 = 6)) && a7j) = true →
 K4 ((decide (x0.a8 = 6)) && a7j) (d5.mk x0.a8 x0.b7 j9 m5 m6 i8) a9G K) ∧
 (((decide (x0.a8 = 6)) && a7j) = false →
 TG ((decide (x0.a8 = 4)) = true) (N3 2 (d5.mk x0.a8 x0.b7 j9 m5 m6 i8) a9G) false a9G (fun (a8R : Bool) (b0B : Hp) =>
 K4 ((decide (x0.a8 = 4)) && a8R) (d5.mk x0.a8 x0.b7 j9 m5 m6 i8) b0B K)))) (fun c5z => ?_) (fun c5z => ?_) ?_
  ·replace h := h.1 c5z
   have i5 := c5z
   simp only [s8 i5]
   refine d8 (cap := [(Value.pointer (some ⟨g_2, 0, none⟩))]) (fun args w => Tryz.call93 args w) ?_
   refine o0 (Fi := [bx g_2 73 [(vi x0.a8), (Value.string x0.b7), (vs j9), (vs m5), (vs m6), (vs i8)]]) (Fr := []) b9W (h g_2) (fun e7h a9G i5G a0h c7m f0q g7B i0N => ?_) (fun _ _ _ _ _ q => q.elim)
   obtain ⟨a7j, rfl, rfl, h⟩ := i0N
   exact ⟨a7j, a9G, by rfl, c7m, g7B, f0q, h⟩
  ·exact ⟨false, a0W, by rw [a9g c5z], b9W, fun _ _ _ => rfl, Hle.refl _, h.2 c5z⟩
  ·clear h
   rintro e7h a0h ⟨a7j, a9G, rfl, c7m, g7B, f0q, h⟩
   refine a7 (N6 _ _) ?_
   refine u0 (fun d9M => ?_) (fun d9M => ?_)
   ·replace h := h.1 d9M
    exact hx1 _ _ (hj1 ((decide (x0.a8 = 6)) && a7j) a9G _ c7m h)
   ·replace h := h.2 d9M
    refine a7 a3d ?_
    refine d7 (ld1 Tryz.isAgg3 (c7m.at1 (o := 0) (vs := [(vi x0.a8)]) (nb rfl) rfl)) ?_
    refine a7 (o2 _ _ _ _ _ _) ?_
    simp only [O5]
    refine a5c (D := fun d9N a9c => ∃ (a8R : Bool) (b0B : Hp) , d9N = (gv (decide (x0.a8 = 4)) true (vB a8R)) ∧ (Inv w0 ps0 H0 b0B [bx g_2 73 [(vi x0.a8), (Value.string x0.b7), (vs j9), (vs m5), (vs m6), (vs i8)]] a9c) ∧ (∀ i, i < a0h.heap.size → ¬ inF [bx g_2 73 [(vi x0.a8), (Value.string x0.b7), (vs j9), (vs m5), (vs m6), (vs i8)]] i → a9c.heap[i]? = a0h.heap[i]?) ∧ Hle a9G b0B ∧ (K4 ((decide (x0.a8 = 4)) && a8R) (d5.mk x0.a8 x0.b7 j9 m5 m6 i8) b0B K)) (fun c5A => ?_) (fun c5A => ?_) ?_
    ·replace h := h.1 c5A
     have i5 := c5A
     simp only [s8 i5]
     refine d8 (cap := [(Value.pointer (some ⟨g_2, 0, none⟩))]) (fun args w => Tryz.call93 args w) ?_
     refine o0 (Fi := [bx g_2 73 [(vi x0.a8), (Value.string x0.b7), (vs j9), (vs m5), (vs m6), (vs i8)]]) (Fr := []) c7m (h g_2) (fun d9N b0B i3g a9c c5B f0r d9O h5I => ?_) (fun _ _ _ _ _ q => q.elim)
     obtain ⟨a8R, rfl, rfl, h⟩ := h5I
     exact ⟨a8R, b0B, by rfl, c5B, d9O, f0r, h⟩
    ·exact ⟨false, a9G, by rw [a9g c5A], c7m, fun _ _ _ => rfl, Hle.refl _, h.2 c5A⟩
    ·clear h
     rintro d9N a9c ⟨a8R, b0B, rfl, c5B, d9O, f0r, h⟩
     refine a7 (N6 _ _) ?_
     exact hx1 _ _ (hj1 ((decide (x0.a8 = 4)) && a8R) b0B _ c5B h)
theorem b6T (x0 : d5) {H : Hp} {K : Sl → Hp → Prop} (h : a3Q x0 H K) : a6j x0 H K := by
 intro w I
 refine g5S ?_
 refine b6e x0 I (fun r0 H' w' I' hk => ⟨H', _, I', r0, rfl, rfl, hk⟩) h
def a1l (c5C : (List d5)) (H : Hp) (K : Sl → Hp → Prop) : Prop :=
 ∀ (b1H : Sl) (a7r : Hp), Hle H a7r → SlH a7r 6 g7 b1H c5C → b1H.n ≤ b1H.c →
 K b1H a7r
def a1m (g7C : Sl) (a7s : Int) (a6Z : (List d5)) (N0 : Int) (H : Hp) (n2 : ((List d5) × Int) → Hp → Prop) (K : Sl → Hp → Prop) : Prop :=
 (N0 < a7s →
 (0 : Int) ≤ N0 ∧ (N0 : Int) < g7C.n ∧ ∃ x_1 : d5, EltH H g7C N0 6 (g7 x_1) ∧
 a6j x_1 H (fun (C3 : Sl) (O7 : Hp) =>
 ∃ c5D : List d5, SlH O7 6 g7 C3 c5D ∧ (a6Z.length + c5D.length) * 121 ≤ 140737488355328 ∧
 n2 ((a6Z ++ c5D), (IntKind.wrap .i64 (N0 + 1))) O7)) ∧
 (¬ (N0 < a7s) →
 a1l a6Z H K)
def a3v (x0 : Sl) (H : Hp) (K : Sl → Hp → Prop) : Prop :=
 TL (([], 0) : (List d5) × Int) H fun (s : (List d5) × Int) H n2 => a1m x0 (x0.n : Int) s.1 s.2 H n2 K
theorem b4R (x0 : Sl) {K : Sl → Hp → Prop} (I : Inv w0 ps0 H0 H [] w) (hR : ∀ (r0 : Sl) (H' : Hp) (w' : World) (_ : Inv w0 ps0 H0 H' [] w') (_ : K r0 H'), R (vs r0) w') (h : a3v x0 H K) : F31 (vs x0) w R E := by
 unfold a3v at h
 unfold F31
 have hj1 : ∀ (c5C : (List d5)) (b1H : Sl) (Fs3j1 : Frag) (H : Hp) (w : World) (_ : RowL 73 6 g7 b1H c5C Fs3j1) (_ : Inv w0 ps0 H0 H [Fs3j1] w) (_ : a1l c5C H K), d2s (vs b1H) w R E := by
  intro c5C b1H Fs3j1 H w h5J I h
  unfold d2s
  intro _
  unfold a1l at h
  obtain ⟨a7r, a4v, i0O, d1i, a5C⟩ := Inv.freezeC I h5J (by decide)
  replace h := h b1H a7r i0O d1i a5C
  exact hR b1H a7r _ a4v h
 refine A7 fun j1 hx1 => ?_
 refine a7 (a6t _ _ _) ?_
 obtain ⟨e7i, d3h, i0P, i0Q⟩ := h
 refine M6 (J := fun n l w => ∃ (s : (List d5) × Int) (H : Hp) (c5E : Sl) (Fs3l2 : Frag) , n = d3h s ∧ l = (match s with | (a6Z, N0) => [(vs c5E), (vi N0)]) ∧ (match s with | (a6Z, N0) => RowL 73 6 g7 c5E a6Z Fs3l2) ∧ (match s with | (a6Z, N0) => Inv w0 ps0 H0 H [Fs3l2] w) ∧ e7i s H) ⟨_, ([], 0), H, (Sl.mk none 0 0), [], rfl, rfl, (RowL.nil a7e a8U), I.nil, i0P⟩ ?_
 rintro i5H τ_45 w next2 ⟨⟨a6Z, N0⟩, H, c5E, Fs3l2, rfl, d9P, d9Q, I, i0R⟩ hn2
 dsimp only at d9P I d9Q
 simp only [List.map_cons, List.map_nil, List.cons.injEq, and_true] at d9P
 obtain ⟨e3, e8⟩ := d9P
 simp only [e3, e8]
 obtain ⟨n2, hm2, h⟩ : ∃ n2 : ((List d5) × Int) → Hp → Prop, (∀ s' H', n2 s' H' → e7i s' H' ∧ d3h s' < d3h (a6Z, N0)) ∧ a1m x0 (x0.n : Int) a6Z N0 H n2 K := ⟨_, fun _ _ h => h, i0Q (a6Z, N0) H (fun s' H' => e7i s' H' ∧ d3h s' < d3h (a6Z, N0)) i0R (fun _ _ a b => ⟨a, b⟩)⟩
 unfold e2D
 unfold a1m at h
 refine a7 (D7 _ _ _ _ _ _) ?_
 refine j8 (fun e7j => ?_) (fun e7j => ?_)
 ·replace h := h.1 e7j
  obtain ⟨h_4, h_5, x_1, h_7, h⟩ := h
  obtain ⟨g_2, o_3, h_6, h_7⟩ := h_7
  refine a7 (b3q h_6 _ _ _ _ h_4 h_5) ?_
  refine d7 (ldA (vs := (g7 x_1)) Tryz.isAgg73 Tryz.sizeOf73 rfl (I.atH h_7)) ?_
  refine y9 I Tryz.zeroValue73 (cs := [(vi 0), (eS), (nS), (nS), (nS), (nS)]) rfl fun g_9 q7 a0V b0j => ?_
  refine m7 a0V Tryz.sizeOf73 (vs := (g7 x_1)) (cs' := (g7 x_1)) rfl rfl (nb rfl) rfl rfl fun a0e O8 a3V => ?_
  refine d7 (ldA Tryz.isAgg73 Tryz.sizeOf73 rfl (O8.at1 (o := 0) (vs := (g7 x_1)) (nb rfl) rfl)) ?_
  refine d8 (cap := []) (fun args w => Tryz.call54 args w) ?_
  refine o0 (Fi := []) (Fr := [bx g_9 73 (g7 x_1), Fs3l2]) O8 (h) (fun b5C O7 b3D X8 a1v b5D b5E a5B => ?_) (fun _ _ _ _ _ q => q.elim)
  obtain ⟨C3, rfl, rfl, h⟩ := a5B
  obtain ⟨c5D, e7k, h⟩ := h
  obtain ⟨i0S, h⟩ := h
  refine e1o (s := c5E) (xs := a6Z) (a1v.bring 1) d9Q (SlH.src (a1v.bring 1) e7k a7e) i0S fun i0T i0U Z6 c3r d9R i0V => ?_
  refine a7 (L6 _ _ _ _ _ _) ?_
  exact hn2 _ _ _ (hm2 _ _ h).2 ⟨((a6Z ++ c5D), (IntKind.wrap .i64 (N0 + 1))), O7, i0T, i0U, rfl, rfl, c3r, (d9R.bring 1).drop, (hm2 _ _ h).1⟩
 ·replace h := h.2 e7j
  exact hx1 _ _ (hj1 a6Z c5E Fs3l2 H _ d9Q I h)
theorem b6f (x0 : Sl) {H : Hp} {K : Sl → Hp → Prop} (h : a3v x0 H K) : X5 x0 H K := by
 intro w I
 refine g4y ?_
 refine b4R x0 I (fun r0 H' w' I' hk => ⟨H', _, I', r0, rfl, rfl, hk⟩) h
def a3R (x0 : r7) (H : Hp) (K : r7 → Int → Hp → Prop) : Prop :=
 a7J x0 H (fun (o4 : r7) (c1H : Int) (W2 : Hp) =>
 (¬ (c1H = 0) →
 K (r7.mk (Sl.mk none 0 0) (Sl.mk none 0 0)) c1H W2) ∧
 (c1H = 0 →
 X5 o4.a5H W2 (fun (Y8 : Sl) (b0m : Hp) =>
 K (r7.mk o4.a0C Y8) 0 b0m)))
theorem b6g (x0 : r7) {K : r7 → Int → Hp → Prop} (I : Inv w0 ps0 H0 H [] w) (hR : ∀ (r0 : r7) (r1 : Int) (H' : Hp) (w' : World) (_ : Inv w0 ps0 H0 H' [] w') (_ : K r0 r1 H'), R (Value.tuple #[(Value.agg (p8 r0).toArray), (vi r1)]) w') (h : a3R x0 H K) : F12 (Value.agg (p8 x0).toArray) w R E := by
 unfold a3R at h
 unfold F12
 refine L9 I (cs := (p8 x0)) rfl fun g_2 w_3 I_4 k_5 => ?_
 refine y9 I_4 Tryz.zeroValue25 (cs := [(nS), (nS)]) rfl fun g_7 w_8 I_9 a9w => ?_
 refine d7 (ldA Tryz.isAgg25 Tryz.sizeOf25 rfl ((I_9.bring 1).at1 (o := 0) (vs := (p8 x0)) (nb rfl) rfl)) ?_
 refine d8 (cap := []) (fun args w => Tryz.call25 args w) ?_
 refine o0 (Fi := []) (Fr := [bx g_7 25 [(nS), (nS)], bx g_2 25 (p8 x0)]) I_9 (h) (fun b8q W2 c0x q9 a3G b5U b5X b1k => ?_) (fun _ _ _ _ _ q => q.elim)
 obtain ⟨o4, c1H, rfl, rfl, h⟩ := b1k
 refine a7 (m9 _ _ _ rfl) ?_
 refine a7 (m9 _ _ (vi c1H) rfl) ?_
 refine y9 a3G Tryz.zeroValue25 (cs := [(nS), (nS)]) rfl fun g7t y6 e7l i0W => ?_
 refine m7 e7l Tryz.sizeOf25 (vs := (p8 o4)) (cs' := (p8 o4)) rfl rfl (nb rfl) rfl rfl fun a7l e7m i5I => ?_
 refine a7 (T8 _ _ _ _ _ _) ?_
 refine a2L (fun c3D => ?_) (fun c3D => ?_)
 ·replace h := h.1 c3D
  refine a7 (c7S ) ?_
  refine m7 (e7m.bring 1) Tryz.sizeOf25 (vs := [(nS), (nS)]) (cs' := [(nS), (nS)]) rfl rfl (nb rfl) rfl rfl fun D8 d9R i0V => ?_
  refine L4 Tryz.isAgg25 Tryz.sizeOf25 rfl (d9R.at1 (o := 0) (vs := [(nS), (nS)]) (nb rfl) rfl) ?_
  exact hR (r7.mk (Sl.mk none 0 0) (Sl.mk none 0 0)) c1H W2 _ d9R.drop.drop.drop h
 ·replace h := h.2 c3D
  refine a7 a8c ?_
  refine d7 (ld1 Tryz.isAgg23 (e7m.at1 (o := 1) (vs := [(vs o4.a5H)]) (nb rfl) rfl)) ?_
  refine d8 (cap := []) (fun args w => Tryz.call31 args w) ?_
  refine o0 (Fi := []) (Fr := [bx g7t 25 (p8 o4), bx g_7 25 [(nS), (nS)], bx g_2 25 (p8 x0)]) e7m (h) (fun d7T b0m h8R B7 a6M e5F d1A e5G => ?_) (fun _ _ _ _ _ q => q.elim)
  obtain ⟨Y8, rfl, rfl, h⟩ := e5G
  refine a7 a8c ?_
  refine m7 a6M Tryz.sizeOf23 (vs := [(vs Y8)]) (cs' := [(vs o4.a0C), (vs Y8)]) rfl rfl (nb rfl) rfl rfl fun G3 b3P d1B => ?_
  refine d7 (ldA Tryz.isAgg25 Tryz.sizeOf25 rfl (b3P.at1 (o := 0) (vs := [(vs o4.a0C), (vs Y8)]) (nb rfl) rfl)) ?_
  refine m7 (b3P.bring 1) Tryz.sizeOf25 (vs := [(vs o4.a0C), (vs Y8)]) (cs' := [(vs o4.a0C), (vs Y8)]) rfl rfl (nb rfl) rfl rfl fun b3w b6b e6W => ?_
  refine L4 Tryz.isAgg25 Tryz.sizeOf25 rfl (b6b.at1 (o := 0) (vs := [(vs o4.a0C), (vs Y8)]) (nb rfl) rfl) ?_
  exact hR (r7.mk o4.a0C Y8) 0 b0m _ b6b.drop.drop.drop h
theorem b6U (x0 : r7) {H : Hp} {K : r7 → Int → Hp → Prop} (h : a3R x0 H K) : a6k x0 H K := by
 intro w I
 refine g4q ?_
 refine b6g x0 I (fun r0 r1 H' w' I' hk => ⟨H', _, I', r0, r1, rfl, rfl, hk⟩) h
end Go.Proofs.YtnhkdkcgdcgmdaaGreatDoor
