/- Typed formulas of the program's functions that few laws need; printed by lift.py off the code. -/
import Derived.Test.YtnhkdkcgdcgmdaaDoorzOV1
import Derived.Test.YtnhkdkcgdcgmdaaDoorzOG1t
namespace Go.Proofs.YtnhkdkcgdcgmdaaDoor
open Go.RowKit
set_option maxRecDepth 100000
set_option maxHeartbeats 2000000
variable {w0 w : World} {ps0 : Nat → Prop} {H0 H : Hp} {R : RT} {E : Pan}
def a1j (x0 : Int) (H : Hp) (K : b5 → Hp → Prop) : Prop :=
 K (b5.mk 1 x0 ⟨#[]⟩ (Sl.mk none 0 0)) H
theorem b1w (x0 : Int) {K : b5 → Hp → Prop} (I : Inv w0 ps0 H0 H [] w) (hR : ∀ (r0 : b5) (H' : Hp) (w' : World) (_ : Inv w0 ps0 H0 H' [] w') (_ : K r0 H'), R (Value.agg (b6 r0).toArray) w') (h : a1j x0 H K) : F36 (vi x0) w R E := by
 unfold a1j at h
 unfold F36
 refine y8 I Tryd.zeroValue24 (cs := [(vi 0), (vi 0), (eS), (nS)]) rfl fun g_2 w_3 I_4 k_5 => ?_
 refine a7 (b0S _ _) ?_
 refine m6 I_4 Tryd.sizeOf24 (vs := [(vi 1), (vi x0), (eS), (nS)]) (cs' := [(vi 1), (vi x0), (eS), (nS)]) rfl rfl (nb rfl) rfl rfl fun w_6 I_7 k_8 => ?_
 refine K6 Tryd.isAgg24 Tryd.sizeOf24 rfl (I_7.at1 (o := 0) (vs := [(vi 1), (vi x0), (eS), (nS)]) (nb rfl) rfl) ?_
 exact hR (b5.mk 1 x0 ⟨#[]⟩ (Sl.mk none 0 0)) H _ I_7.drop h
theorem b3f (x0 : Int) {H : Hp} {K : b5 → Hp → Prop} (h : a1j x0 H K) : R7 x0 H K := by
 intro w I
 refine f5Q ?_
 refine b1w x0 I (fun r0 H' w' I' hk => ⟨H', _, I', r0, rfl, rfl, hk⟩) h
def V9 (x0 : b5) (H : Hp) (K : Int → Bool → Hp → Prop) : Prop :=
 (x0.a8 = 1 →
 K x0.o2 true H) ∧
 (¬ (x0.a8 = 1) →
 ∃ x_6 : b5, ((decide (x0.a8 = 5)) = true → (0 : Int) ≤ 0 ∧ (0 : Int) < x0.m7.n ∧ EltH H x0.m7 0 4 (b6 x_6)) ∧
 (((decide (x0.a8 = 5)) && (decide (x_6.a8 = 1))) = true →
 (0 : Int) ≤ 0 ∧ (0 : Int) < x0.m7.n ∧ ∃ a8k : b5, EltH H x0.m7 0 4 (b6 a8k) ∧
 K (IntKind.wrap .i64 (0 - a8k.o2)) true H) ∧
 (((decide (x0.a8 = 5)) && (decide (x_6.a8 = 1))) = false →
 K 0 false H))
theorem b1b (x0 : b5) {K : Int → Bool → Hp → Prop} (I : Inv w0 ps0 H0 H [] w) (hR : ∀ (r0 : Int) (r1 : Bool) (H' : Hp) (w' : World) (_ : Inv w0 ps0 H0 H' [] w') (_ : K r0 r1 H'), R (Value.tuple #[(vi r0), (vB r1)]) w') (h : V9 x0 H K) : F62 (Value.agg (b6 x0).toArray) w R E := by
 unfold V9 at h
 unfold F62
 refine J3 I (cs := (b6 x0)) rfl fun g_2 w_3 I_4 k_5 => ?_
 refine a7 V7 ?_
 refine d6 (ld1 Tryd.isAgg3 (I_4.at1 (o := 0) (vs := [(vi x0.a8)]) (nb rfl) rfl)) ?_
 refine a7 (m9 _ _ _ _ _ _) ?_
 refine j7 (fun b2J => ?_) (fun b2J => ?_)
 ·replace h := h.1 b2J
  refine a7 a6b ?_
  refine d6 (ld1 Tryd.isAgg2 (I_4.at1 (o := 1) (vs := [(vi x0.o2)]) (nb rfl) rfl)) ?_
  exact hR x0.o2 true H _ I_4.drop h
 ·replace h := h.2 b2J
  refine a7 V7 ?_
  refine d6 (ld1 Tryd.isAgg3 (I_4.at1 (o := 0) (vs := [(vi x0.a8)]) (nb rfl) rfl)) ?_
  refine a7 (m9 _ _ _ _ _ _) ?_
  refine a7 (Pu.g fun hb => by have f4 := hb; exact J5) ?_
  refine d6 (Ld.g fun hb => by have f4 := hb; simp only [p1 f4]; exact (ld1 Tryd.isAgg22 (I_4.at1 (o := 3) (vs := [(vs x0.m7)]) (nb rfl) rfl))) ?_
  obtain ⟨x_6, b9f, h⟩ := h
  obtain ⟨g_7, o_8, b9f⟩ := c2D b9f
  refine a7 (Pu.g fun hb => by have f4 := hb; simp only [p1 f4]; exact (O0 (b9f hb).2.2.1 _ _ _ _ (b9f hb).1 (b9f hb).2.1)) ?_
  refine a7 (Pu.g fun hb => by have f4 := hb; simp only [p1 f4]; exact V7) ?_
  refine d6 (Ld.g fun hb => by have f4 := hb; simp only [p1 f4]; exact (ld1 (v := (vi x_6.a8)) Tryd.isAgg3 ((I_4.atH (b9f hb).2.2.2).sub (k := 0) (n := 1) (nb rfl)))) ?_
  refine a7 (Pu.g fun hb => by have f4 := hb; simp only [p1 f4]; exact (m9 _ _ _ _ _ _)) ?_
  refine a7 (A6 _ _) ?_
  refine u2 (fun a8J => ?_) (fun a8J => ?_)
  ·replace h := h.1 a8J
   refine a7 J5 ?_
   refine d6 (ld1 Tryd.isAgg22 (I_4.at1 (o := 3) (vs := [(vs x0.m7)]) (nb rfl) rfl)) ?_
   obtain ⟨b0f, c1J, a8k, a6t, h⟩ := h
   obtain ⟨g6y, g6z, d0e, a6t⟩ := a6t
   refine a7 (O0 d0e _ _ _ _ b0f c1J) ?_
   refine a7 a6b ?_
   refine d6 (ld1 (v := (vi a8k.o2)) Tryd.isAgg2 ((I_4.atH a6t).sub (k := 1) (n := 1) (nb rfl))) ?_
   refine a7 (c6Y _ _) ?_
   exact hR (IntKind.wrap .i64 (0 - a8k.o2)) true H _ I_4.drop h
  ·replace h := h.2 a8J
   exact hR 0 false H _ I_4.drop h
theorem b1x (x0 : b5) {H : Hp} {K : Int → Bool → Hp → Prop} (h : V9 x0 H K) : O1 x0 H K := by
 intro w I
 refine f6Z ?_
 refine b1b x0 I (fun r0 r1 H' w' I' hk => ⟨H', _, I', r0, r1, rfl, rfl, hk⟩) h
def a4s (x0 : b5) (x1 : Int) (H : Hp) (K : Bool → Hp → Prop) : Prop :=
 O1 x0 H (fun (D5 : Int) (b1p : Bool) (H_6 : Hp) =>
 K (b1p && (decide (D5 = x1))) H_6)
theorem b7f (x0 : b5) (x1 : Int) {K : Bool → Hp → Prop} (I : Inv w0 ps0 H0 H [] w) (hR : ∀ (r0 : Bool) (H' : Hp) (w' : World) (_ : Inv w0 ps0 H0 H' [] w') (_ : K r0 H'), R (vB r0) w') (h : a4s x0 x1 H K) : F65 (Value.agg (b6 x0).toArray) (vi x1) w R E := by
 unfold a4s at h
 unfold F65
 refine J3 I (cs := (b6 x0)) rfl fun g_2 w_3 I_4 k_5 => ?_
 refine d6 (ldA Tryd.isAgg24 Tryd.sizeOf24 rfl (I_4.at1 (o := 0) (vs := (b6 x0)) (nb rfl) rfl)) ?_
 refine f2 (cap := []) (fun args w => Tryd.call62 args w) ?_
 refine i8 (Fi := []) (Fr := [bx g_2 24 (b6 x0)]) I_4 (h) (fun b6u H_6 b6v w_7 I_8 b6w k_9 a6r => ?_) (fun _ _ _ _ _ q => q.elim)
 obtain ⟨D5, b1p, rfl, rfl, h⟩ := a6r
 refine a7 (o0 _ _ (vi D5) rfl) ?_
 refine a7 (o0 _ _ (vB b1p) rfl) ?_
 simp only [O5]
 refine a7 (Pu.g fun hb => by have f4 := hb; simp only [p1 f4]; exact (m9 _ _ _ _ _ _)) ?_
 refine a7 (A6 _ _) ?_
 exact hR (b1p && (decide (D5 = x1))) H_6 _ I_8.drop h
theorem b7Q (x0 : b5) (x1 : Int) {H : Hp} {K : Bool → Hp → Prop} (h : a4s x0 x1 H K) : V3 x0 x1 H K := by
 intro w I
 refine f7R ?_
 refine b7f x0 x1 I (fun r0 H' w' I' hk => ⟨H', _, I', r0, rfl, rfl, hk⟩) h
def A8 (F5 : (List b5)) (H : Hp) (K : Sl → Hp → Prop) : Prop :=
 ∀ (s8 : Sl) (F8 : Hp), Hle H F8 → SlH F8 4 b6 s8 F5 → s8.n ≤ s8.c →
 K s8 F8
def A9 (K4 : Sl) (R4 : Int) (m8 : (List b5)) (j8 : Int) (H : Hp) (n2 : ((List b5) × Int) → Hp → Prop) (K : Sl → Hp → Prop) : Prop :=
 (j8 < R4 →
 (0 : Int) ≤ j8 ∧ (j8 : Int) < K4.n ∧ ∃ x_1 : b5, EltH H K4 j8 4 (b6 x_1) ∧
 a2R x_1 H (fun (B3 : b5) (M5 : Hp) =>
 (m8.length + ([B3] : List b5).length) * 57 ≤ 140737488355328 ∧
 n2 ((m8 ++ [B3]), (IntKind.wrap .i64 (j8 + 1))) M5)) ∧
 (¬ (j8 < R4) →
 A8 m8 H K)
def C3 (x0 : Sl) (H : Hp) (K : Sl → Hp → Prop) : Prop :=
 TL (([], 0) : (List b5) × Int) H fun (s : (List b5) × Int) H n2 => A9 x0 (x0.n : Int) s.1 s.2 H n2 K
theorem a0G (x0 : Sl) {K : Sl → Hp → Prop} (I : Inv w0 ps0 H0 H [] w) (hR : ∀ (r0 : Sl) (H' : Hp) (w' : World) (_ : Inv w0 ps0 H0 H' [] w') (_ : K r0 H'), R (vs r0) w') (h : C3 x0 H K) : F61 (vs x0) (fC 38) w R E := by
 unfold C3 at h
 unfold F61
 have hj1 : ∀ (F5 : (List b5)) (s8 : Sl) (Fs5j1 : Frag) (H : Hp) (w : World) (_ : RowL 24 4 b6 s8 F5 Fs5j1) (_ : Inv w0 ps0 H0 H [Fs5j1] w) (_ : A8 F5 H K), c9S (vs s8) w R E := by
  intro F5 s8 Fs5j1 H w a4T I h
  unfold c9S
  intro _
  unfold A8 at h
  obtain ⟨F8, a0Y, a5W, a1v, a3F⟩ := Inv.freezeC I a4T (by decide)
  replace h := h s8 F8 a5W a1v a3F
  exact hR s8 F8 _ a0Y h
 refine A7 fun j1 hx1 => ?_
 refine a7 (Z3 _ _ _) ?_
 obtain ⟨X1, M0, a7y, a0Z⟩ := h
 refine M9 (J := fun n l w => ∃ (s : (List b5) × Int) (H : Hp) (F6 : Sl) (Fs5l2 : Frag) , n = M0 s ∧ l = (match s with | (m8, j8) => [(vs F6), (vi j8)]) ∧ (match s with | (m8, j8) => RowL 24 4 b6 F6 m8 Fs5l2) ∧ (match s with | (m8, j8) => Inv w0 ps0 H0 H [Fs5l2] w) ∧ X1 s H) ⟨_, ([], 0), H, (Sl.mk none 0 0), [], rfl, rfl, (RowL.nil a1q a1r), I.nil, a7y⟩ ?_
 rintro b8I τ_50 w next2 ⟨⟨m8, j8⟩, H, F6, Fs5l2, rfl, V4, Q1, I, a7z⟩ hn2
 dsimp only at V4 I Q1
 simp only [List.map_cons, List.map_nil, List.cons.injEq, and_true] at V4
 obtain ⟨e5, e10⟩ := V4
 simp only [e5, e10]
 obtain ⟨n2, hm2, h⟩ : ∃ n2 : ((List b5) × Int) → Hp → Prop, (∀ s' H', n2 s' H' → X1 s' H' ∧ M0 s' < M0 (m8, j8)) ∧ A9 x0 (x0.n : Int) m8 j8 H n2 K := ⟨_, fun _ _ h => h, a0Z (m8, j8) H (fun s' H' => X1 s' H' ∧ M0 s' < M0 (m8, j8)) a7z (fun _ _ a b => ⟨a, b⟩)⟩
 unfold d7S
 unfold A9 at h
 refine a7 (F4 _ _ _ _ _ _) ?_
 refine j7 (fun T5 => ?_) (fun T5 => ?_)
 ·replace h := h.1 T5
  obtain ⟨h_4, h_5, x_1, h_7, h⟩ := h
  obtain ⟨g_2, o_3, h_6, h_7⟩ := h_7
  refine a7 (O0 h_6 _ _ _ _ h_4 h_5) ?_
  refine d6 (ldA (vs := (b6 x_1)) Tryd.isAgg24 Tryd.sizeOf24 rfl (I.atH h_7)) ?_
  refine y8 I Tryd.zeroValue24 (cs := [(vi 0), (vi 0), (eS), (nS)]) rfl fun g_9 o7 V5 a7A => ?_
  refine m6 V5 Tryd.sizeOf24 (vs := (b6 x_1)) (cs' := (b6 x_1)) rfl rfl (nb rfl) rfl rfl fun V0 J6 a1w => ?_
  refine d6 (ldA Tryd.isAgg24 Tryd.sizeOf24 rfl (J6.at1 (o := 0) (vs := (b6 x_1)) (nb rfl) rfl)) ?_
  refine f2 (cap := []) (fun args w => Tryd.call38 args w) ?_
  refine i8 (Fi := []) (Fr := [bx g_9 24 (b6 x_1), Fs5l2]) J6 (h) (fun b4E M5 b2v Y8 a0E b4F b4G a5k => ?_) (fun _ _ _ _ _ q => q.elim)
  obtain ⟨B3, rfl, rfl, h⟩ := a5k
  refine a3h (e := 24) (c := b6) (xs := [B3]) a0E (c4B _ _ _ _ _ _) rfl rfl a1q a1r (nb rfl) fun b0V a9x E5 a4d S8 a8h => ?_
  obtain ⟨a5l, h⟩ := h
  refine d6w (s := F6) (xs := m8) (S8.bring 2) Q1 (a4d.srcO ((S8.bring 2).bring 1)) a5l fun a3G a6Y E3 a5j a1x a9X => ?_
  refine a7 (K3 _ _ _ _ _ _) ?_
  exact hn2 _ _ _ (hm2 _ _ h).2 ⟨((m8 ++ [B3]), (IntKind.wrap .i64 (j8 + 1))), M5, a3G, a6Y, rfl, rfl, a5j, ((a1x.bring 1).drop.bring 1).drop, (hm2 _ _ h).1⟩
 ·replace h := h.2 T5
  exact hx1 _ _ (hj1 m8 F6 Fs5l2 H _ Q1 I h)
theorem a0I (x0 : Sl) {H : Hp} {K : Sl → Hp → Prop} (h : C3 x0 H K) : z2 x0 H K := by
 intro w I
 refine f6X ?_
 refine a0G x0 I (fun r0 H' w' I' hk => ⟨H', _, I', r0, rfl, rfl, hk⟩) h
def a2B (x0 : Int) (H : Hp) (K : b5 → Hp → Prop) : Prop :=
 (x0 < 0 →
 ∀ (s_7 : Sl) (M5 : Hp), Hle H M5 → SlH M5 4 b6 s_7 [(b5.mk 1 (IntKind.wrap .i64 (0 - x0)) ⟨#[]⟩ (Sl.mk none 0 0))] → s_7.n ≤ s_7.c →
 K (b5.mk 5 0 ⟨#[]⟩ s_7) M5) ∧
 (¬ (x0 < 0) →
 K (b5.mk 1 x0 ⟨#[]⟩ (Sl.mk none 0 0)) H)
theorem b3G (x0 : Int) {K : b5 → Hp → Prop} (I : Inv w0 ps0 H0 H [] w) (hR : ∀ (r0 : b5) (H' : Hp) (w' : World) (_ : Inv w0 ps0 H0 H' [] w') (_ : K r0 H'), R (Value.agg (b6 r0).toArray) w') (h : a2B x0 H K) : F63 (vi x0) w R E := by
 unfold a2B at h
 unfold F63
 refine y8 I Tryd.zeroValue24 (cs := [(vi 0), (vi 0), (eS), (nS)]) rfl fun g_2 w_3 I_4 k_5 => ?_
 refine a7 (F4 _ _ _ _ _ _) ?_
 refine j7 (fun c1p => ?_) (fun c1p => ?_)
 ·replace h := h.1 c1p
  refine a7 (c6Y _ _) ?_
  refine a7 (b0S _ _) ?_
  refine a3h (e := 24) (c := b6) (xs := [(b5.mk 1 (IntKind.wrap .i64 (0 - x0)) ⟨#[]⟩ (Sl.mk none 0 0))]) I_4 (c4B _ _ _ _ _ _) rfl rfl a1q a1r (nb rfl) fun s_7 F_8 w_9 b2S V5 a7A => ?_
  refine a7 (b0R _ _ _ _) ?_
  refine m6 (V5.bring 1) Tryd.sizeOf24 (vs := [(vi 5), (vi 0), (eS), (vs s_7)]) (cs' := [(vi 5), (vi 0), (eS), (vs s_7)]) rfl rfl (nb rfl) rfl rfl fun V0 J6 a1w => ?_
  refine K6 Tryd.isAgg24 Tryd.sizeOf24 rfl (J6.at1 (o := 0) (vs := [(vi 5), (vi 0), (eS), (vs s_7)]) (nb rfl) rfl) ?_
  obtain ⟨M5, a9w, a7B, a6t, b6C⟩ := Inv.freezeC (J6.bring 1) b2S (by decide)
  replace h := h s_7 M5 a7B a6t b6C
  exact hR (b5.mk 5 0 ⟨#[]⟩ s_7) M5 _ a9w.drop h
 ·replace h := h.2 c1p
  refine a7 (b0S _ _) ?_
  refine m6 I_4 Tryd.sizeOf24 (vs := [(vi 1), (vi x0), (eS), (nS)]) (cs' := [(vi 1), (vi x0), (eS), (nS)]) rfl rfl (nb rfl) rfl rfl fun U1 a4C b4A => ?_
  refine K6 Tryd.isAgg24 Tryd.sizeOf24 rfl (a4C.at1 (o := 0) (vs := [(vi 1), (vi x0), (eS), (nS)]) (nb rfl) rfl) ?_
  exact hR (b5.mk 1 x0 ⟨#[]⟩ (Sl.mk none 0 0)) H _ a4C.drop h
theorem b4U (x0 : Int) {H : Hp} {K : b5 → Hp → Prop} (h : a2B x0 H K) : a2q x0 H K := by
 intro w I
 refine f7b ?_
 refine b3G x0 I (fun r0 H' w' I' hk => ⟨H', _, I', r0, rfl, rfl, hk⟩) h
def C1 (b9g : Int) (b7g : Int) (b5A : a3R) (a1d : b5) (H : Hp) (K : Int → Bool → Hp → Prop) : Prop :=
 K b9g ((decide (b7g = 0)) && (!decide (b9g = (-9223372036854775808)))) H
def Y0 (o3 : a3R) (u0 : b5) (H : Hp) (K : Int → Bool → Hp → Prop) : Prop :=
 (u0.a8 = 5 →
 (0 : Int) ≤ 0 ∧ (0 : Int) < 2 ∧
 a6j (([o3.f0, o3.f1] : List Int).getD (0 : Int).toNat 0) H (fun (g7 : Int) (a9B : Int) (a0r : Hp) =>
 C1 g7 a9B o3 u0 a0r K)) ∧
 (¬ (u0.a8 = 5) →
 (u0.a8 = 6 →
 (0 : Int) ≤ 0 ∧ (0 : Int) < 2 ∧
 (0 : Int) ≤ 1 ∧ (1 : Int) < 2 ∧
 a6k (([o3.f0, o3.f1] : List Int).getD (0 : Int).toNat 0) (([o3.f0, o3.f1] : List Int).getD (1 : Int).toNat 0) H (fun (b4f : Int) (c6x : Int) (c1M : Hp) =>
 C1 b4f c6x o3 u0 c1M K)) ∧
 (¬ (u0.a8 = 6) →
 (u0.a8 = 7 →
 (0 : Int) ≤ 0 ∧ (0 : Int) < 2 ∧
 (0 : Int) ≤ 1 ∧ (1 : Int) < 2 ∧
 a4b (([o3.f0, o3.f1] : List Int).getD (0 : Int).toNat 0) (([o3.f0, o3.f1] : List Int).getD (1 : Int).toNat 0) H (fun (a3C : Int) (c6y : Int) (a8G : Hp) =>
 C1 a3C c6y o3 u0 a8G K)) ∧
 (¬ (u0.a8 = 7) →
 (u0.a8 = 8 →
 (0 : Int) ≤ 0 ∧ (0 : Int) < 2 ∧
 (0 : Int) ≤ 1 ∧ (1 : Int) < 2 ∧
 a6l (([o3.f0, o3.f1] : List Int).getD (0 : Int).toNat 0) (([o3.f0, o3.f1] : List Int).getD (1 : Int).toNat 0) H (fun (c6z : Int) (c6A : Int) (e1n : Hp) =>
 C1 c6z c6A o3 u0 e1n K)) ∧
 (¬ (u0.a8 = 8) →
 (u0.a8 = 9 →
 (0 : Int) ≤ 0 ∧ (0 : Int) < 2 ∧
 (0 : Int) ≤ 1 ∧ (1 : Int) < 2 ∧
 a6m (([o3.f0, o3.f1] : List Int).getD (0 : Int).toNat 0) (([o3.f0, o3.f1] : List Int).getD (1 : Int).toNat 0) H (fun (c3H : Int) (c3I : Int) (e1o : Hp) =>
 C1 c3H c3I o3 u0 e1o K)) ∧
 (¬ (u0.a8 = 9) →
 (u0.a8 = 10 →
 (0 : Int) ≤ 0 ∧ (0 : Int) < 2 ∧
 (0 : Int) ≤ 1 ∧ (1 : Int) < 2 ∧
 a6n (([o3.f0, o3.f1] : List Int).getD (0 : Int).toNat 0) (([o3.f0, o3.f1] : List Int).getD (1 : Int).toNat 0) H (fun (c3J : Int) (c3K : Int) (d4p : Hp) =>
 C1 c3J c3K o3 u0 d4p K)) ∧
 (¬ (u0.a8 = 10) →
 C1 0 2 o3 u0 H K))))))
def Y1 (e3l : Sl) (e3m : Int) (d0f : b5) (a1k : Int) (a1l : a3R) (H : Hp) (n3 : (Int × a3R) → Hp → Prop) (K : Int → Bool → Hp → Prop) : Prop :=
 (a1k < e3m →
 (0 : Int) ≤ a1k ∧ (a1k : Int) < e3l.n ∧ ∃ b4h : b5, EltH H e3l a1k 4 (b6 b4h) ∧
 O1 b4h H (fun (a9C : Int) (c3L : Bool) (c3M : Hp) =>
 ((!c3L) = true →
 K 0 false c3M) ∧
 ((!c3L) = false →
 (0 : Int) ≤ a1k ∧ (a1k : Int) < 2 ∧
 n3 ((IntKind.wrap .i64 (a1k + 1)), (a3R.mk (if a1k = 0 then a9C else a1l.f0) (if a1k = 1 then a9C else a1l.f1))) c3M))) ∧
 (¬ (a1k < e3m) →
 Y0 a1l d0f H K)
def a0x (x0 : b5) (H : Hp) (K : Int → Bool → Hp → Prop) : Prop :=
 TL ((0, (a3R.mk 0 0)) : Int × a3R) H fun (s : Int × a3R) H n3 => Y1 x0.m7 (x0.m7.n : Int) x0 s.1 s.2 H n3 K
theorem b1c (x0 : b5) {K : Int → Bool → Hp → Prop} (I : Inv w0 ps0 H0 H [] w) (hR : ∀ (r0 : Int) (r1 : Bool) (H' : Hp) (w' : World) (_ : Inv w0 ps0 H0 H' [] w') (_ : K r0 r1 H'), R (Value.tuple #[(vi r0), (vB r1)]) w') (h : a0x x0 H K) : F64 (Value.agg (b6 x0).toArray) w R E := by
 unfold a0x at h
 unfold F64
 refine J3 I (cs := (b6 x0)) rfl fun g_2 w_3 I_4 k_5 => ?_
 refine y8 I_4 Tryd.zeroValue164 (cs := [(vi 0), (vi 0)]) rfl fun g_7 w_8 I_9 a7x => ?_
 have hj1 : ∀ (o3 : a3R) (H : Hp) (w : World) (_ : Inv w0 ps0 H0 H [bx g_7 164 [(vi o3.f0), (vi o3.f1)], bx g_2 24 (b6 x0)] w) (_ : Y0 o3 x0 H K), c9U (Value.pointer (some ⟨g_2, 0, none⟩)) (Value.pointer (some ⟨g_7, 0, none⟩)) w R E := by
  intro o3 H w I h
  unfold c9U
  intro _
  unfold Y0 at h
  have hj2 : ∀ (b9g : Int) (b7g : Int) (H : Hp) (w : World) (_ : Inv w0 ps0 H0 H [bx g_7 164 [(vi o3.f0), (vi o3.f1)], bx g_2 24 (b6 x0)] w) (_ : C1 b9g b7g o3 x0 H K), c9T (vi b9g) (vi b7g) w R E := by
   intro b9g b7g H w I h
   unfold c9T
   intro _
   unfold C1 at h
   refine a7 (m9 _ _ _ _ _ _) ?_
   simp only [O5]
   refine a7 (Pu.g fun hb => by have f4 := hb; simp only [p1 f4]; exact (T0 _ _ _ _ _ _)) ?_
   refine a7 (A6 _ _) ?_
   exact hR b9g ((decide (b7g = 0)) && (!decide (b9g = (-9223372036854775808)))) H _ I.drop.drop h
  refine A7 fun j2 hx2 => ?_
  refine a7 V7 ?_
  refine d6 (ld1 Tryd.isAgg3 ((I.bring 1).at1 (o := 0) (vs := [(vi x0.a8)]) (nb rfl) rfl)) ?_
  refine a7 (m9 _ _ _ _ _ _) ?_
  refine j7 (fun d4q => ?_) (fun d4q => ?_)
  ·replace h := h.1 d4q
   obtain ⟨b7h, a1v, h⟩ := h
   refine a7 (a0i _ _ b7h a1v) ?_
   refine d6 (ld1 (v := (vi (([o3.f0, o3.f1] : List Int).getD (0 : Int).toNat 0))) Tryd.isAgg2 (Inv.b1U (n := 2) (k := .i64) (l := [o3.f0, o3.f1]) I rfl rfl b7h a1v)) ?_
   refine f2 (cap := []) (fun args w => Tryd.call101 args w) ?_
   refine i8 (Fi := []) (Fr := [bx g_7 164 [(vi o3.f0), (vi o3.f1)], bx g_2 24 (b6 x0)]) I (h) (fun d3o a0r d3p N8 b0Y d3q d3r b6P => ?_) (fun _ _ _ _ _ q => q.elim)
   obtain ⟨g7, a9B, rfl, rfl, h⟩ := b6P
   refine a7 (o0 _ _ (vi g7) rfl) ?_
   refine a7 (o0 _ _ (vi a9B) rfl) ?_
   exact hx2 _ _ (hj2 g7 a9B a0r _ ((b0Y.bring 1).bring 1) h)
  ·replace h := h.2 d4q
   refine a7 (m9 _ _ _ _ _ _) ?_
   refine j7 (fun b7i => ?_) (fun b7i => ?_)
   ·replace h := h.1 b7i
    obtain ⟨d3i, d3j, h⟩ := h
    refine a7 (a0i _ _ d3i d3j) ?_
    refine d6 (ld1 (v := (vi (([o3.f0, o3.f1] : List Int).getD (0 : Int).toNat 0))) Tryd.isAgg2 (Inv.b1U (n := 2) (k := .i64) (l := [o3.f0, o3.f1]) I rfl rfl d3i d3j)) ?_
    obtain ⟨b8P, d3C, h⟩ := h
    refine a7 (a0i _ _ b8P d3C) ?_
    refine d6 (ld1 (v := (vi (([o3.f0, o3.f1] : List Int).getD (1 : Int).toNat 0))) Tryd.isAgg2 (Inv.b1U (n := 2) (k := .i64) (l := [o3.f0, o3.f1]) I rfl rfl b8P d3C)) ?_
    refine f2 (cap := []) (fun args w => Tryd.call26 args w) ?_
    refine i8 (Fi := []) (Fr := [bx g_7 164 [(vi o3.f0), (vi o3.f1)], bx g_2 24 (b6 x0)]) I (h) (fun g6b c1M g6c b6W b0j g6d b8U e0M => ?_) (fun _ _ _ _ _ q => q.elim)
    obtain ⟨b4f, c6x, rfl, rfl, h⟩ := e0M
    refine a7 (o0 _ _ (vi b4f) rfl) ?_
    refine a7 (o0 _ _ (vi c6x) rfl) ?_
    exact hx2 _ _ (hj2 b4f c6x c1M _ ((b0j.bring 1).bring 1) h)
   ·replace h := h.2 b7i
    refine a7 (m9 _ _ _ _ _ _) ?_
    refine j7 (fun b7j => ?_) (fun b7j => ?_)
    ·replace h := h.1 b7j
     obtain ⟨d3s, d4r, h⟩ := h
     refine a7 (a0i _ _ d3s d4r) ?_
     refine d6 (ld1 (v := (vi (([o3.f0, o3.f1] : List Int).getD (0 : Int).toNat 0))) Tryd.isAgg2 (Inv.b1U (n := 2) (k := .i64) (l := [o3.f0, o3.f1]) I rfl rfl d3s d4r)) ?_
     obtain ⟨d4s, c5q, h⟩ := h
     refine a7 (a0i _ _ d4s c5q) ?_
     refine d6 (ld1 (v := (vi (([o3.f0, o3.f1] : List Int).getD (1 : Int).toNat 0))) Tryd.isAgg2 (Inv.b1U (n := 2) (k := .i64) (l := [o3.f0, o3.f1]) I rfl rfl d4s c5q)) ?_
     refine f2 (cap := []) (fun args w => Tryd.call27 args w) ?_
     refine i8 (Fi := []) (Fr := [bx g_7 164 [(vi o3.f0), (vi o3.f1)], bx g_2 24 (b6 x0)]) I (h) (fun c5b a8G d9C Z1 b2s d9D d3b c1c => ?_) (fun _ _ _ _ _ q => q.elim)
     obtain ⟨a3C, c6y, rfl, rfl, h⟩ := c1c
     refine a7 (o0 _ _ (vi a3C) rfl) ?_
     refine a7 (o0 _ _ (vi c6y) rfl) ?_
     exact hx2 _ _ (hj2 a3C c6y a8G _ ((b2s.bring 1).bring 1) h)
    ·replace h := h.2 b7j
     refine a7 (m9 _ _ _ _ _ _) ?_
     refine j7 (fun d4t => ?_) (fun d4t => ?_)
     ·replace h := h.1 d4t
      obtain ⟨f8N, f8O, h⟩ := h
      refine a7 (a0i _ _ f8N f8O) ?_
      refine d6 (ld1 (v := (vi (([o3.f0, o3.f1] : List Int).getD (0 : Int).toNat 0))) Tryd.isAgg2 (Inv.b1U (n := 2) (k := .i64) (l := [o3.f0, o3.f1]) I rfl rfl f8N f8O)) ?_
      obtain ⟨d4u, f8P, h⟩ := h
      refine a7 (a0i _ _ d4u f8P) ?_
      refine d6 (ld1 (v := (vi (([o3.f0, o3.f1] : List Int).getD (1 : Int).toNat 0))) Tryd.isAgg2 (Inv.b1U (n := 2) (k := .i64) (l := [o3.f0, o3.f1]) I rfl rfl d4u f8P)) ?_
      refine f2 (cap := []) (fun args w => Tryd.call28 args w) ?_
      refine i8 (Fi := []) (Fr := [bx g_7 164 [(vi o3.f0), (vi o3.f1)], bx g_2 24 (b6 x0)]) I (h) (fun h1z e1n h1A f6L e1p d4v h1B g6A => ?_) (fun _ _ _ _ _ q => q.elim)
      obtain ⟨c6z, c6A, rfl, rfl, h⟩ := g6A
      refine a7 (o0 _ _ (vi c6z) rfl) ?_
      refine a7 (o0 _ _ (vi c6A) rfl) ?_
      exact hx2 _ _ (hj2 c6z c6A e1n _ ((e1p.bring 1).bring 1) h)
     ·replace h := h.2 d4t
      refine a7 (m9 _ _ _ _ _ _) ?_
      refine j7 (fun d4w => ?_) (fun d4w => ?_)
      ·replace h := h.1 d4w
       obtain ⟨f8Q, f8R, h⟩ := h
       refine a7 (a0i _ _ f8Q f8R) ?_
       refine d6 (ld1 (v := (vi (([o3.f0, o3.f1] : List Int).getD (0 : Int).toNat 0))) Tryd.isAgg2 (Inv.b1U (n := 2) (k := .i64) (l := [o3.f0, o3.f1]) I rfl rfl f8Q f8R)) ?_
       obtain ⟨f8S, d4x, h⟩ := h
       refine a7 (a0i _ _ f8S d4x) ?_
       refine d6 (ld1 (v := (vi (([o3.f0, o3.f1] : List Int).getD (1 : Int).toNat 0))) Tryd.isAgg2 (Inv.b1U (n := 2) (k := .i64) (l := [o3.f0, o3.f1]) I rfl rfl f8S d4x)) ?_
       refine f2 (cap := []) (fun args w => Tryd.call29 args w) ?_
       refine i8 (Fi := []) (Fr := [bx g_7 164 [(vi o3.f0), (vi o3.f1)], bx g_2 24 (b6 x0)]) I (h) (fun h1C e1o g8j a8f g6B g8k h1D g2v => ?_) (fun _ _ _ _ _ q => q.elim)
       obtain ⟨c3H, c3I, rfl, rfl, h⟩ := g2v
       refine a7 (o0 _ _ (vi c3H) rfl) ?_
       refine a7 (o0 _ _ (vi c3I) rfl) ?_
       exact hx2 _ _ (hj2 c3H c3I e1o _ ((g6B.bring 1).bring 1) h)
      ·replace h := h.2 d4w
       refine a7 (m9 _ _ _ _ _ _) ?_
       refine j7 (fun d4y => ?_) (fun d4y => ?_)
       ·replace h := h.1 d4y
        obtain ⟨e3n, e3o, h⟩ := h
        refine a7 (a0i _ _ e3n e3o) ?_
        refine d6 (ld1 (v := (vi (([o3.f0, o3.f1] : List Int).getD (0 : Int).toNat 0))) Tryd.isAgg2 (Inv.b1U (n := 2) (k := .i64) (l := [o3.f0, o3.f1]) I rfl rfl e3n e3o)) ?_
        obtain ⟨c6B, e3p, h⟩ := h
        refine a7 (a0i _ _ c6B e3p) ?_
        refine d6 (ld1 (v := (vi (([o3.f0, o3.f1] : List Int).getD (1 : Int).toNat 0))) Tryd.isAgg2 (Inv.b1U (n := 2) (k := .i64) (l := [o3.f0, o3.f1]) I rfl rfl c6B e3p)) ?_
        refine f2 (cap := []) (fun args w => Tryd.call30 args w) ?_
        refine i8 (Fi := []) (Fr := [bx g_7 164 [(vi o3.f0), (vi o3.f1)], bx g_2 24 (b6 x0)]) I (h) (fun g8l d4p g8m b9Y g2w g8n g8o g2x => ?_) (fun _ _ _ _ _ q => q.elim)
        obtain ⟨c3J, c3K, rfl, rfl, h⟩ := g2x
        refine a7 (o0 _ _ (vi c3J) rfl) ?_
        refine a7 (o0 _ _ (vi c3K) rfl) ?_
        exact hx2 _ _ (hj2 c3J c3K d4p _ ((g2w.bring 1).bring 1) h)
       ·replace h := h.2 d4y
        exact hx2 _ _ (hj2 0 2 H _ ((I.bring 1).bring 1) h)
 refine A7 fun j1 hx1 => ?_
 refine a7 J5 ?_
 refine d6 (ld1 Tryd.isAgg22 ((I_9.bring 1).at1 (o := 3) (vs := [(vs x0.m7)]) (nb rfl) rfl)) ?_
 refine a7 (Z3 _ _ _) ?_
 obtain ⟨d4z, c3N, g2y, g2z⟩ := h
 refine M9 (J := fun n l w => ∃ (s : Int × a3R) (H : Hp) , n = c3N s ∧ l = (match s with | (a1k, a1l) => [(vi a1k)]) ∧ (match s with | (a1k, a1l) => Inv w0 ps0 H0 H [bx g_7 164 [(vi a1l.f0), (vi a1l.f1)], bx g_2 24 (b6 x0)] w) ∧ d4z s H) ⟨_, (0, (a3R.mk 0 0)), H, rfl, rfl, ((I_9.bring 1).bring 1), g2y⟩ ?_
 rintro g8p τ_168 w next3 ⟨⟨a1k, a1l⟩, H, rfl, d4A, I, g2A⟩ hn3
 dsimp only at d4A I
 simp only [List.map_cons, List.map_nil, List.cons.injEq, and_true] at d4A
 have e14 := d4A
 simp only [e14]
 obtain ⟨n3, hm3, h⟩ : ∃ n3 : (Int × a3R) → Hp → Prop, (∀ s' H', n3 s' H' → d4z s' H' ∧ c3N s' < c3N (a1k, a1l)) ∧ Y1 x0.m7 (x0.m7.n : Int) x0 a1k a1l H n3 K := ⟨_, fun _ _ h => h, g2z (a1k, a1l) H (fun s' H' => d4z s' H' ∧ c3N s' < c3N (a1k, a1l)) g2A (fun _ _ a b => ⟨a, b⟩)⟩
 unfold d7Y
 unfold Y1 at h
 refine a7 (F4 _ _ _ _ _ _) ?_
 refine j7 (fun d4B => ?_) (fun d4B => ?_)
 ·replace h := h.1 d4B
  obtain ⟨g2B, g2C, b4h, d4C, h⟩ := h
  obtain ⟨g8q, g8r, g2D, d4C⟩ := d4C
  refine a7 (O0 g2D _ _ _ _ g2B g2C) ?_
  refine d6 (ldA (vs := (b6 b4h)) Tryd.isAgg24 Tryd.sizeOf24 rfl (I.atH d4C)) ?_
  refine y8 I Tryd.zeroValue24 (cs := [(vi 0), (vi 0), (eS), (nS)]) rfl fun g2E g8s g2F g8t => ?_
  refine m6 g2F Tryd.sizeOf24 (vs := (b6 b4h)) (cs' := (b6 b4h)) rfl rfl (nb rfl) rfl rfl fun b6l e3q g8u => ?_
  refine d6 (ldA Tryd.isAgg24 Tryd.sizeOf24 rfl (e3q.at1 (o := 0) (vs := (b6 b4h)) (nb rfl) rfl)) ?_
  refine f2 (cap := []) (fun args w => Tryd.call62 args w) ?_
  refine i8 (Fi := []) (Fr := [bx g2E 24 (b6 b4h), bx g_7 164 [(vi a1l.f0), (vi a1l.f1)], bx g_2 24 (b6 x0)]) e3q (h) (fun g8v c3M g8w c3a e3r g8x g8y g2G => ?_) (fun _ _ _ _ _ q => q.elim)
  obtain ⟨a9C, c3L, rfl, rfl, h⟩ := g2G
  refine a7 (o0 _ _ (vi a9C) rfl) ?_
  refine a7 (o0 _ _ (vB c3L) rfl) ?_
  refine a7 (a1N _) ?_
  refine u2 (fun d4D => ?_) (fun d4D => ?_)
  ·replace h := h.1 d4D
   exact hR 0 false c3M _ e3r.drop.drop.drop h
  ·replace h := h.2 d4D
   obtain ⟨e3s, c6C, h⟩ := h
   refine a7 (a0i _ _ e3s c6C) ?_
   refine m6 (e3r.bring 1) Tryd.sizeOf2 (vs := [(vi a9C)]) (cs' := [(vi (if a1k = 0 then a9C else a1l.f0)), (vi (if a1k = 1 then a9C else a1l.f1))]) rfl rfl (by simp only [List.length_cons, List.length_nil]; omega) rfl (d9o e3s c6C) fun c3h g2H g8z => ?_
   refine a7 (K3 _ _ _ _ _ _) ?_
   exact hn3 _ _ _ (hm3 _ _ h).2 ⟨((IntKind.wrap .i64 (a1k + 1)), (a3R.mk (if a1k = 0 then a9C else a1l.f0) (if a1k = 1 then a9C else a1l.f1))), c3M, rfl, rfl, (((g2H.bring 1).drop.bring 1).bring 1), (hm3 _ _ h).1⟩
 ·replace h := h.2 d4B
  exact hx1 _ _ (hj1 a1l H _ ((I.bring 1).bring 1) h)
theorem b1y (x0 : b5) {H : Hp} {K : Int → Bool → Hp → Prop} (h : a0x x0 H K) : a3B x0 H K := by
 intro w I
 refine f7O ?_
 refine b1c x0 I (fun r0 r1 H' w' I' hk => ⟨H', _, I', r0, r1, rfl, rfl, hk⟩) h
def R9 (u0 : b5) (o3 : b5) (H : Hp) (K : b5 → Hp → Prop) : Prop :=
 K u0 H
def X2 (g6C : Int) (Y7 : b5) (f8T : b5) (H : Hp) (K : b5 → Hp → Prop) : Prop :=
 (0 : Int) ≤ 1 ∧ (1 : Int) < Y7.m7.n ∧ ∃ d4E : b5, EltH H Y7.m7 1 4 (b6 d4E) ∧
 V3 d4E g6C H (fun (d0g : Bool) (c5r : Hp) =>
 (d0g = true →
 (0 : Int) ≤ 0 ∧ (0 : Int) < Y7.m7.n ∧ ∃ a6D : b5, EltH c5r Y7.m7 0 4 (b6 a6D) ∧
 K a6D c5r) ∧
 (d0g = false →
 R9 Y7 f8T c5r K))
def S1 (a1d : b5) (b5A : b5) (H : Hp) (K : b5 → Hp → Prop) : Prop :=
 (0 : Int) ≤ 1 ∧ (1 : Int) < a1d.m7.n ∧ ∃ c6D : b5, EltH H a1d.m7 1 4 (b6 c6D) ∧
 V3 c6D 1 H (fun (d0h : Bool) (c0a : Hp) =>
 (d0h = true →
 (0 : Int) ≤ 0 ∧ (0 : Int) < a1d.m7.n ∧ ∃ b4i : b5, EltH c0a a1d.m7 0 4 (b6 b4i) ∧
 K b4i c0a) ∧
 (d0h = false →
 R9 a1d b5A c0a K))
def a2X (x0 : b5) (H : Hp) (K : b5 → Hp → Prop) : Prop :=
 z2 x0.m7 H (fun (g5 : Sl) (F3 : Hp) =>
 O1 (b5.mk x0.a8 x0.o2 x0.b7 g5) F3 (fun (a2v : Int) (c6E : Bool) (a5i : Hp) =>
 (c6E = true →
 a2q a2v a5i (fun (a2Y : b5) (a9V : Hp) =>
 K a2Y a9V)) ∧
 (c6E = false →
 a3B (b5.mk x0.a8 x0.o2 x0.b7 g5) a5i (fun (b7k : Int) (b1z : Bool) (a8l : Hp) =>
 (b1z = true →
 a2q b7k a8l (fun (c0b : b5) (e1q : Hp) =>
 K c0b e1q)) ∧
 (b1z = false →
 (x0.a8 = 6 →
 (0 : Int) ≤ 0 ∧ (0 : Int) < g5.n ∧ ∃ d4F : b5, EltH a8l g5 0 4 (b6 d4F) ∧
 V3 d4F 0 a8l (fun (a7f : Bool) (a4E : Hp) =>
 (a7f = true →
 (0 : Int) ≤ 1 ∧ (1 : Int) < g5.n ∧ ∃ b9h : b5, EltH a4E g5 1 4 (b6 b9h) ∧
 K b9h a4E) ∧
 (a7f = false →
 X2 0 (b5.mk x0.a8 x0.o2 x0.b7 g5) (b5.mk 0 0 ⟨#[]⟩ (Sl.mk none 0 0)) a4E K))) ∧
 (¬ (x0.a8 = 6) →
 (x0.a8 = 7 →
 X2 0 (b5.mk x0.a8 x0.o2 x0.b7 g5) (b5.mk 0 0 ⟨#[]⟩ (Sl.mk none 0 0)) a8l K) ∧
 (¬ (x0.a8 = 7) →
 (x0.a8 = 8 →
 (0 : Int) ≤ 0 ∧ (0 : Int) < g5.n ∧ ∃ c6F : b5, EltH a8l g5 0 4 (b6 c6F) ∧
 V3 c6F 1 a8l (fun (b0M : Bool) (c0c : Hp) =>
 ∃ c6G : b5, (b0M = true → (0 : Int) ≤ 1 ∧ (1 : Int) < g5.n ∧ EltH c0c g5 1 4 (b6 c6G)) ∧
 TG (b0M = true) (V3 c6G 1 c0c) false c0c (fun (a9D : Bool) (a7g : Hp) =>
 ((b0M && (!a9D)) = true →
 (0 : Int) ≤ 1 ∧ (1 : Int) < g5.n ∧ ∃ a9E : b5, EltH a7g g5 1 4 (b6 a9E) ∧
 K a9E a7g) ∧
 ((b0M && (!a9D)) = false →
 S1 (b5.mk x0.a8 x0.o2 x0.b7 g5) (b5.mk 0 0 ⟨#[]⟩ (Sl.mk none 0 0)) a7g K)))) ∧
 (¬ (x0.a8 = 8) →
 (x0.a8 = 9 →
 S1 (b5.mk x0.a8 x0.o2 x0.b7 g5) (b5.mk 0 0 ⟨#[]⟩ (Sl.mk none 0 0)) a8l K) ∧
 (¬ (x0.a8 = 9) →
 R9 (b5.mk x0.a8 x0.o2 x0.b7 g5) (b5.mk 0 0 ⟨#[]⟩ (Sl.mk none 0 0)) a8l K)))))))))
theorem b4V (x0 : b5) {K : b5 → Hp → Prop} (I : Inv w0 ps0 H0 H [] w) (hR : ∀ (r0 : b5) (H' : Hp) (w' : World) (_ : Inv w0 ps0 H0 H' [] w') (_ : K r0 H'), R (Value.agg (b6 r0).toArray) w') (h : a2X x0 H K) : F38 (Value.agg (b6 x0).toArray) w R E := by
 unfold a2X at h
 unfold F38
 refine J3 I (cs := (b6 x0)) rfl fun g_2 w_3 I_4 k_5 => ?_
 refine y8 I_4 Tryd.zeroValue24 (cs := [(vi 0), (vi 0), (eS), (nS)]) rfl fun g_7 w_8 I_9 a7x => ?_
 refine a7 J5 ?_
 refine d6 (ld1 Tryd.isAgg22 ((I_9.bring 1).at1 (o := 3) (vs := [(vs x0.m7)]) (nb rfl) rfl)) ?_
 refine f2 (cap := []) (fun args w => Tryd.call61 args w) ?_
 refine i8 (Fi := []) (Fr := [bx g_7 24 [(vi 0), (vi 0), (eS), (nS)], bx g_2 24 (b6 x0)]) I_9 (h) (fun a6Z F3 b2w o4 R8 a7B a7C a6s => ?_) (fun _ _ _ _ _ q => q.elim)
 obtain ⟨g5, rfl, rfl, h⟩ := a6s
 refine a7 J5 ?_
 refine m6 (R8.bring 1) Tryd.sizeOf22 (vs := [(vs g5)]) (cs' := [(vi x0.a8), (vi x0.o2), (Value.string x0.b7), (vs g5)]) rfl rfl (nb rfl) rfl rfl fun u1 a4D b8F => ?_
 refine d6 (ldA Tryd.isAgg24 Tryd.sizeOf24 rfl (a4D.at1 (o := 0) (vs := [(vi x0.a8), (vi x0.o2), (Value.string x0.b7), (vs g5)]) (nb rfl) rfl)) ?_
 refine f2 (cap := []) (fun args w => Tryd.call62 args w) ?_
 refine i8 (Fi := []) (Fr := [bx g_2 24 [(vi x0.a8), (vi x0.o2), (Value.string x0.b7), (vs g5)], bx g_7 24 [(vi 0), (vi 0), (eS), (nS)]]) a4D (h) (fun d9F a5i c8y y6 a5T d9G d2Y c1d => ?_) (fun _ _ _ _ _ q => q.elim)
 obtain ⟨a2v, c6E, rfl, rfl, h⟩ := c1d
 refine a7 (o0 _ _ (vi a2v) rfl) ?_
 refine a7 (o0 _ _ (vB c6E) rfl) ?_
 refine u2 (fun d4G => ?_) (fun d4G => ?_)
 ·replace h := h.1 d4G
  refine f2 (cap := []) (fun args w => Tryd.call63 args w) ?_
  refine i8 (Fi := []) (Fr := [bx g_2 24 [(vi x0.a8), (vi x0.o2), (Value.string x0.b7), (vs g5)], bx g_7 24 [(vi 0), (vi 0), (eS), (nS)]]) a5T (h) (fun g6D a9V g6E b9c c1n g6F g6G e1r => ?_) (fun _ _ _ _ _ q => q.elim)
  obtain ⟨a2Y, rfl, rfl, h⟩ := e1r
  refine m6 (c1n.bring 1) Tryd.sizeOf24 (vs := (b6 a2Y)) (cs' := (b6 a2Y)) rfl rfl (nb rfl) rfl rfl fun c0X f8U h1E => ?_
  refine K6 Tryd.isAgg24 Tryd.sizeOf24 rfl (f8U.at1 (o := 0) (vs := (b6 a2Y)) (nb rfl) rfl) ?_
  exact hR a2Y a9V _ f8U.drop.drop h
 ·replace h := h.2 d4G
  refine d6 (ldA Tryd.isAgg24 Tryd.sizeOf24 rfl (a5T.at1 (o := 0) (vs := [(vi x0.a8), (vi x0.o2), (Value.string x0.b7), (vs g5)]) (nb rfl) rfl)) ?_
  refine f2 (cap := []) (fun args w => Tryd.call64 args w) ?_
  refine i8 (Fi := []) (Fr := [bx g_2 24 [(vi x0.a8), (vi x0.o2), (Value.string x0.b7), (vs g5)], bx g_7 24 [(vi 0), (vi 0), (eS), (nS)]]) a5T (h) (fun g6H a8l g6I b4y a8S V4 g6J e1s => ?_) (fun _ _ _ _ _ q => q.elim)
  obtain ⟨b7k, b1z, rfl, rfl, h⟩ := e1s
  refine a7 (o0 _ _ (vi b7k) rfl) ?_
  refine a7 (o0 _ _ (vB b1z) rfl) ?_
  refine u2 (fun d4H => ?_) (fun d4H => ?_)
  ·replace h := h.1 d4H
   refine f2 (cap := []) (fun args w => Tryd.call63 args w) ?_
   refine i8 (Fi := []) (Fr := [bx g_2 24 [(vi x0.a8), (vi x0.o2), (Value.string x0.b7), (vs g5)], bx g_7 24 [(vi 0), (vi 0), (eS), (nS)]]) a8S (h) (fun h1F e1q h1G W0 e1t h1H g6K g6L => ?_) (fun _ _ _ _ _ q => q.elim)
   obtain ⟨c0b, rfl, rfl, h⟩ := g6L
   refine m6 (e1t.bring 1) Tryd.sizeOf24 (vs := (b6 c0b)) (cs' := (b6 c0b)) rfl rfl (nb rfl) rfl rfl fun U0 b8R c5j => ?_
   refine K6 Tryd.isAgg24 Tryd.sizeOf24 rfl (b8R.at1 (o := 0) (vs := (b6 c0b)) (nb rfl) rfl) ?_
   exact hR c0b e1q _ b8R.drop.drop h
  ·replace h := h.2 d4H
   have hj1 : ∀ (H : Hp) (w : World) (_ : Inv w0 ps0 H0 H [bx g_2 24 [(vi (b5.mk x0.a8 x0.o2 x0.b7 g5).a8), (vi (b5.mk x0.a8 x0.o2 x0.b7 g5).o2), (Value.string (b5.mk x0.a8 x0.o2 x0.b7 g5).b7), (Value.slice (b5.mk x0.a8 x0.o2 x0.b7 g5).m7.a (b5.mk x0.a8 x0.o2 x0.b7 g5).m7.n (b5.mk x0.a8 x0.o2 x0.b7 g5).m7.c)], bx g_7 24 [(vi (b5.mk 0 0 ⟨#[]⟩ (Sl.mk none 0 0)).a8), (vi (b5.mk 0 0 ⟨#[]⟩ (Sl.mk none 0 0)).o2), (Value.string (b5.mk 0 0 ⟨#[]⟩ (Sl.mk none 0 0)).b7), (Value.slice (b5.mk 0 0 ⟨#[]⟩ (Sl.mk none 0 0)).m7.a (b5.mk 0 0 ⟨#[]⟩ (Sl.mk none 0 0)).m7.n (b5.mk 0 0 ⟨#[]⟩ (Sl.mk none 0 0)).m7.c)]] w) (_ : R9 (b5.mk x0.a8 x0.o2 x0.b7 g5) (b5.mk 0 0 ⟨#[]⟩ (Sl.mk none 0 0)) H K), c9J (Value.pointer (some ⟨g_2, 0, none⟩)) (Value.pointer (some ⟨g_7, 0, none⟩)) w R E := by
    intro H w I h
    unfold c9J
    intro _
    unfold R9 at h
    refine d6 (ldA Tryd.isAgg24 Tryd.sizeOf24 rfl (I.at1 (o := 0) (vs := [(vi (b5.mk x0.a8 x0.o2 x0.b7 g5).a8), (vi (b5.mk x0.a8 x0.o2 x0.b7 g5).o2), (Value.string (b5.mk x0.a8 x0.o2 x0.b7 g5).b7), (Value.slice (b5.mk x0.a8 x0.o2 x0.b7 g5).m7.a (b5.mk x0.a8 x0.o2 x0.b7 g5).m7.n (b5.mk x0.a8 x0.o2 x0.b7 g5).m7.c)]) (nb rfl) rfl)) ?_
    refine m6 (I.bring 1) Tryd.sizeOf24 (vs := [(vi (b5.mk x0.a8 x0.o2 x0.b7 g5).a8), (vi (b5.mk x0.a8 x0.o2 x0.b7 g5).o2), (Value.string (b5.mk x0.a8 x0.o2 x0.b7 g5).b7), (Value.slice (b5.mk x0.a8 x0.o2 x0.b7 g5).m7.a (b5.mk x0.a8 x0.o2 x0.b7 g5).m7.n (b5.mk x0.a8 x0.o2 x0.b7 g5).m7.c)]) (cs' := [(vi (b5.mk x0.a8 x0.o2 x0.b7 g5).a8), (vi (b5.mk x0.a8 x0.o2 x0.b7 g5).o2), (Value.string (b5.mk x0.a8 x0.o2 x0.b7 g5).b7), (Value.slice (b5.mk x0.a8 x0.o2 x0.b7 g5).m7.a (b5.mk x0.a8 x0.o2 x0.b7 g5).m7.n (b5.mk x0.a8 x0.o2 x0.b7 g5).m7.c)]) rfl rfl (nb rfl) rfl rfl fun d4h c3O g2I => ?_
    refine K6 Tryd.isAgg24 Tryd.sizeOf24 rfl (c3O.at1 (o := 0) (vs := [(vi (b5.mk x0.a8 x0.o2 x0.b7 g5).a8), (vi (b5.mk x0.a8 x0.o2 x0.b7 g5).o2), (Value.string (b5.mk x0.a8 x0.o2 x0.b7 g5).b7), (Value.slice (b5.mk x0.a8 x0.o2 x0.b7 g5).m7.a (b5.mk x0.a8 x0.o2 x0.b7 g5).m7.n (b5.mk x0.a8 x0.o2 x0.b7 g5).m7.c)]) (nb rfl) rfl) ?_
    exact hR (b5.mk x0.a8 x0.o2 x0.b7 g5) H _ c3O.drop.drop h
   refine A7 fun j1 hx1 => ?_
   refine a7 V7 ?_
   refine d6 (ld1 Tryd.isAgg3 (a8S.at1 (o := 0) (vs := [(vi x0.a8)]) (nb rfl) rfl)) ?_
   have hj2 : ∀ (H : Hp) (w : World) (_ : Inv w0 ps0 H0 H [bx g_2 24 [(vi (b5.mk x0.a8 x0.o2 x0.b7 g5).a8), (vi (b5.mk x0.a8 x0.o2 x0.b7 g5).o2), (Value.string (b5.mk x0.a8 x0.o2 x0.b7 g5).b7), (Value.slice (b5.mk x0.a8 x0.o2 x0.b7 g5).m7.a (b5.mk x0.a8 x0.o2 x0.b7 g5).m7.n (b5.mk x0.a8 x0.o2 x0.b7 g5).m7.c)], bx g_7 24 [(vi (b5.mk 0 0 ⟨#[]⟩ (Sl.mk none 0 0)).a8), (vi (b5.mk 0 0 ⟨#[]⟩ (Sl.mk none 0 0)).o2), (Value.string (b5.mk 0 0 ⟨#[]⟩ (Sl.mk none 0 0)).b7), (Value.slice (b5.mk 0 0 ⟨#[]⟩ (Sl.mk none 0 0)).m7.a (b5.mk 0 0 ⟨#[]⟩ (Sl.mk none 0 0)).m7.n (b5.mk 0 0 ⟨#[]⟩ (Sl.mk none 0 0)).m7.c)]] w) (_ : S1 (b5.mk x0.a8 x0.o2 x0.b7 g5) (b5.mk 0 0 ⟨#[]⟩ (Sl.mk none 0 0)) H K), c9K (Value.pointer (some ⟨g_2, 0, none⟩)) (Value.pointer (some ⟨g_7, 0, none⟩)) w j1 R E := by
    intro H w I h
    unfold c9K
    intro _
    unfold S1 at h
    refine a7 J5 ?_
    refine d6 (ld1 Tryd.isAgg22 (I.at1 (o := 3) (vs := [(Value.slice (b5.mk x0.a8 x0.o2 x0.b7 g5).m7.a (b5.mk x0.a8 x0.o2 x0.b7 g5).m7.n (b5.mk x0.a8 x0.o2 x0.b7 g5).m7.c)]) (nb rfl) rfl)) ?_
    obtain ⟨g2J, g2K, c6D, d4I, h⟩ := h
    obtain ⟨g8A, g8B, g2L, d4I⟩ := d4I
    refine a7 (O0 g2L _ _ _ _ g2J g2K) ?_
    refine d6 (ldA (vs := (b6 c6D)) Tryd.isAgg24 Tryd.sizeOf24 rfl (I.atH d4I)) ?_
    refine f2 (cap := []) (fun args w => Tryd.call65 args w) ?_
    refine i8 (Fi := []) (Fr := [bx g_2 24 [(vi (b5.mk x0.a8 x0.o2 x0.b7 g5).a8), (vi (b5.mk x0.a8 x0.o2 x0.b7 g5).o2), (Value.string (b5.mk x0.a8 x0.o2 x0.b7 g5).b7), (Value.slice (b5.mk x0.a8 x0.o2 x0.b7 g5).m7.a (b5.mk x0.a8 x0.o2 x0.b7 g5).m7.n (b5.mk x0.a8 x0.o2 x0.b7 g5).m7.c)], bx g_7 24 [(vi (b5.mk 0 0 ⟨#[]⟩ (Sl.mk none 0 0)).a8), (vi (b5.mk 0 0 ⟨#[]⟩ (Sl.mk none 0 0)).o2), (Value.string (b5.mk 0 0 ⟨#[]⟩ (Sl.mk none 0 0)).b7), (Value.slice (b5.mk 0 0 ⟨#[]⟩ (Sl.mk none 0 0)).m7.a (b5.mk 0 0 ⟨#[]⟩ (Sl.mk none 0 0)).m7.n (b5.mk 0 0 ⟨#[]⟩ (Sl.mk none 0 0)).m7.c)]]) I (h) (fun g8C c0a g8D g8E c6H g8F g8G g2M => ?_) (fun _ _ _ _ _ q => q.elim)
    obtain ⟨d0h, rfl, rfl, h⟩ := g2M
    refine u2 (fun d4J => ?_) (fun d4J => ?_)
    ·replace h := h.1 d4J
     refine a7 J5 ?_
     refine d6 (ld1 Tryd.isAgg22 (c6H.at1 (o := 3) (vs := [(Value.slice (b5.mk x0.a8 x0.o2 x0.b7 g5).m7.a (b5.mk x0.a8 x0.o2 x0.b7 g5).m7.n (b5.mk x0.a8 x0.o2 x0.b7 g5).m7.c)]) (nb rfl) rfl)) ?_
     obtain ⟨g2N, g2O, b4i, d4K, h⟩ := h
     obtain ⟨g8H, g8I, g2P, d4K⟩ := d4K
     refine a7 (O0 g2P _ _ _ _ g2N g2O) ?_
     refine d6 (ldA (vs := (b6 b4i)) Tryd.isAgg24 Tryd.sizeOf24 rfl (c6H.atH d4K)) ?_
     refine m6 (c6H.bring 1) Tryd.sizeOf24 (vs := (b6 b4i)) (cs' := (b6 b4i)) rfl rfl (nb rfl) rfl rfl fun g8J e3t g8K => ?_
     refine K6 Tryd.isAgg24 Tryd.sizeOf24 rfl (e3t.at1 (o := 0) (vs := (b6 b4i)) (nb rfl) rfl) ?_
     exact hR b4i c0a _ e3t.drop.drop h
    ·replace h := h.2 d4J
     exact hx1 _ _ (hj1 c0a _ ((c6H.bring 1).bring 1) h)
   refine A7 fun j2 hx2 => ?_
   have hj3 : ∀ (H : Hp) (w : World) (_ : Inv w0 ps0 H0 H [bx g_2 24 [(vi (b5.mk x0.a8 x0.o2 x0.b7 g5).a8), (vi (b5.mk x0.a8 x0.o2 x0.b7 g5).o2), (Value.string (b5.mk x0.a8 x0.o2 x0.b7 g5).b7), (Value.slice (b5.mk x0.a8 x0.o2 x0.b7 g5).m7.a (b5.mk x0.a8 x0.o2 x0.b7 g5).m7.n (b5.mk x0.a8 x0.o2 x0.b7 g5).m7.c)], bx g_7 24 [(vi (b5.mk 0 0 ⟨#[]⟩ (Sl.mk none 0 0)).a8), (vi (b5.mk 0 0 ⟨#[]⟩ (Sl.mk none 0 0)).o2), (Value.string (b5.mk 0 0 ⟨#[]⟩ (Sl.mk none 0 0)).b7), (Value.slice (b5.mk 0 0 ⟨#[]⟩ (Sl.mk none 0 0)).m7.a (b5.mk 0 0 ⟨#[]⟩ (Sl.mk none 0 0)).m7.n (b5.mk 0 0 ⟨#[]⟩ (Sl.mk none 0 0)).m7.c)]] w) (_ : X2 0 (b5.mk x0.a8 x0.o2 x0.b7 g5) (b5.mk 0 0 ⟨#[]⟩ (Sl.mk none 0 0)) H K), c9L (Value.pointer (some ⟨g_2, 0, none⟩)) (Value.pointer (some ⟨g_7, 0, none⟩)) (vi 0) w j1 R E := by
    intro H w I h
    unfold c9L
    intro _
    unfold X2 at h
    refine a7 J5 ?_
    refine d6 (ld1 Tryd.isAgg22 (I.at1 (o := 3) (vs := [(Value.slice (b5.mk x0.a8 x0.o2 x0.b7 g5).m7.a (b5.mk x0.a8 x0.o2 x0.b7 g5).m7.n (b5.mk x0.a8 x0.o2 x0.b7 g5).m7.c)]) (nb rfl) rfl)) ?_
    obtain ⟨d4x, g6M, d4E, c2a, h⟩ := h
    obtain ⟨h1I, h1J, g6N, c2a⟩ := c2a
    refine a7 (O0 g6N _ _ _ _ d4x g6M) ?_
    refine d6 (ldA (vs := (b6 d4E)) Tryd.isAgg24 Tryd.sizeOf24 rfl (I.atH c2a)) ?_
    refine f2 (cap := []) (fun args w => Tryd.call65 args w) ?_
    refine i8 (Fi := []) (Fr := [bx g_2 24 [(vi (b5.mk x0.a8 x0.o2 x0.b7 g5).a8), (vi (b5.mk x0.a8 x0.o2 x0.b7 g5).o2), (Value.string (b5.mk x0.a8 x0.o2 x0.b7 g5).b7), (Value.slice (b5.mk x0.a8 x0.o2 x0.b7 g5).m7.a (b5.mk x0.a8 x0.o2 x0.b7 g5).m7.n (b5.mk x0.a8 x0.o2 x0.b7 g5).m7.c)], bx g_7 24 [(vi (b5.mk 0 0 ⟨#[]⟩ (Sl.mk none 0 0)).a8), (vi (b5.mk 0 0 ⟨#[]⟩ (Sl.mk none 0 0)).o2), (Value.string (b5.mk 0 0 ⟨#[]⟩ (Sl.mk none 0 0)).b7), (Value.slice (b5.mk 0 0 ⟨#[]⟩ (Sl.mk none 0 0)).m7.a (b5.mk 0 0 ⟨#[]⟩ (Sl.mk none 0 0)).m7.n (b5.mk 0 0 ⟨#[]⟩ (Sl.mk none 0 0)).m7.c)]]) I (h) (fun g8L c5r g8M c1Z c6I g8N g8O g2Q => ?_) (fun _ _ _ _ _ q => q.elim)
    obtain ⟨d0g, rfl, rfl, h⟩ := g2Q
    refine u2 (fun b7j => ?_) (fun b7j => ?_)
    ·replace h := h.1 b7j
     refine a7 J5 ?_
     refine d6 (ld1 Tryd.isAgg22 (c6I.at1 (o := 3) (vs := [(Value.slice (b5.mk x0.a8 x0.o2 x0.b7 g5).m7.a (b5.mk x0.a8 x0.o2 x0.b7 g5).m7.n (b5.mk x0.a8 x0.o2 x0.b7 g5).m7.c)]) (nb rfl) rfl)) ?_
     obtain ⟨d4L, c3P, a6D, b0y, h⟩ := h
     obtain ⟨g2R, g2S, g2T, b0y⟩ := b0y
     refine a7 (O0 g2T _ _ _ _ d4L c3P) ?_
     refine d6 (ldA (vs := (b6 a6D)) Tryd.isAgg24 Tryd.sizeOf24 rfl (c6I.atH b0y)) ?_
     refine m6 (c6I.bring 1) Tryd.sizeOf24 (vs := (b6 a6D)) (cs' := (b6 a6D)) rfl rfl (nb rfl) rfl rfl fun a9q c6J g2U => ?_
     refine K6 Tryd.isAgg24 Tryd.sizeOf24 rfl (c6J.at1 (o := 0) (vs := (b6 a6D)) (nb rfl) rfl) ?_
     exact hR a6D c5r _ c6J.drop.drop h
    ·replace h := h.2 b7j
     exact hx1 _ _ (hj1 c5r _ ((c6I.bring 1).bring 1) h)
   refine A7 fun j3 hx3 => ?_
   refine a7 (m9 _ _ _ _ _ _) ?_
   refine j7 (fun d4M => ?_) (fun d4M => ?_)
   ·replace h := h.1 d4M
    refine a7 J5 ?_
    refine d6 (ld1 Tryd.isAgg22 (a8S.at1 (o := 3) (vs := [(vs g5)]) (nb rfl) rfl)) ?_
    obtain ⟨c5q, d0i, d4F, e1u, h⟩ := h
    obtain ⟨f8V, h1K, g6O, e1u⟩ := e1u
    refine a7 (O0 g6O _ _ _ _ c5q d0i) ?_
    refine d6 (ldA (vs := (b6 d4F)) Tryd.isAgg24 Tryd.sizeOf24 rfl (a8S.atH e1u)) ?_
    refine f2 (cap := []) (fun args w => Tryd.call65 args w) ?_
    refine i8 (Fi := []) (Fr := [bx g_2 24 [(vi x0.a8), (vi x0.o2), (Value.string x0.b7), (vs g5)], bx g_7 24 [(vi 0), (vi 0), (eS), (nS)]]) a8S (h) (fun d3l a4E g5t c8U b6J c7Y d9X d9Y => ?_) (fun _ _ _ _ _ q => q.elim)
    obtain ⟨a7f, rfl, rfl, h⟩ := d9Y
    refine u2 (fun b7i => ?_) (fun b7i => ?_)
    ·replace h := h.1 b7i
     refine a7 J5 ?_
     refine d6 (ld1 Tryd.isAgg22 (b6J.at1 (o := 3) (vs := [(vs g5)]) (nb rfl) rfl)) ?_
     obtain ⟨g6P, g6Q, b9h, d0j, h⟩ := h
     obtain ⟨h1L, h1M, e1v, d0j⟩ := d0j
     refine a7 (O0 e1v _ _ _ _ g6P g6Q) ?_
     refine d6 (ldA (vs := (b6 b9h)) Tryd.isAgg24 Tryd.sizeOf24 rfl (b6J.atH d0j)) ?_
     refine m6 (b6J.bring 1) Tryd.sizeOf24 (vs := (b6 b9h)) (cs' := (b6 b9h)) rfl rfl (nb rfl) rfl rfl fun a4a f8W h1N => ?_
     refine K6 Tryd.isAgg24 Tryd.sizeOf24 rfl (f8W.at1 (o := 0) (vs := (b6 b9h)) (nb rfl) rfl) ?_
     exact hR b9h a4E _ f8W.drop.drop h
    ·replace h := h.2 b7i
     exact hx3 _ _ (hj3 a4E _ ((b6J.bring 1).bring 1) h)
   ·replace h := h.2 d4M
    refine a7 (m9 _ _ _ _ _ _) ?_
    refine j7 (fun d4N => ?_) (fun d4N => ?_)
    ·replace h := h.1 d4N
     exact hx3 _ _ (hj3 a8l _ ((a8S.bring 1).bring 1) h)
    ·replace h := h.2 d4N
     refine a7 (m9 _ _ _ _ _ _) ?_
     refine j7 (fun d4O => ?_) (fun d4O => ?_)
     ·replace h := h.1 d4O
      refine a7 J5 ?_
      refine d6 (ld1 Tryd.isAgg22 (a8S.at1 (o := 3) (vs := [(vs g5)]) (nb rfl) rfl)) ?_
      obtain ⟨g2V, g2W, c6F, d4P, h⟩ := h
      obtain ⟨g8P, g8Q, g2X, d4P⟩ := d4P
      refine a7 (O0 g2X _ _ _ _ g2V g2W) ?_
      refine d6 (ldA (vs := (b6 c6F)) Tryd.isAgg24 Tryd.sizeOf24 rfl (a8S.atH d4P)) ?_
      refine f2 (cap := []) (fun args w => Tryd.call65 args w) ?_
      refine i8 (Fi := []) (Fr := [bx g_2 24 [(vi x0.a8), (vi x0.o2), (Value.string x0.b7), (vs g5)], bx g_7 24 [(vi 0), (vi 0), (eS), (nS)]]) a8S (h) (fun g8R c0c g8S b3X c6K c6L g8T g2Y => ?_) (fun _ _ _ _ _ q => q.elim)
      obtain ⟨b0M, rfl, rfl, h⟩ := g2Y
      refine a7 (Pu.g fun hb => by have f4 := hb; exact J5) ?_
      refine d6 (Ld.g fun hb => by have f4 := hb; simp only [p1 f4]; exact (ld1 Tryd.isAgg22 (c6K.at1 (o := 3) (vs := [(vs g5)]) (nb rfl) rfl))) ?_
      obtain ⟨c6G, c0d, h⟩ := h
      obtain ⟨g8U, g8V, c0d⟩ := c2D c0d
      refine a7 (Pu.g fun hb => by have f4 := hb; simp only [p1 f4]; exact (O0 (c0d hb).2.2.1 _ _ _ _ (c0d hb).1 (c0d hb).2.1)) ?_
      refine d6 (Ld.g fun hb => by have f4 := hb; simp only [p1 f4]; exact (ldA (vs := (b6 c6G)) Tryd.isAgg24 Tryd.sizeOf24 rfl (c6K.atH (c0d hb).2.2.2))) ?_
      refine V6 (D := fun d4Q b3V => ∃ (a9D : Bool) (a7g : Hp) , d4Q = (gv b0M true (vB a9D)) ∧ (Inv w0 ps0 H0 a7g [bx g_2 24 [(vi x0.a8), (vi x0.o2), (Value.string x0.b7), (vs g5)], bx g_7 24 [(vi 0), (vi 0), (eS), (nS)]] b3V) ∧ (∀ i, i < b3X.heap.size → ¬ inF [] i → b3V.heap[i]? = b3X.heap[i]?) ∧ Hle c0c a7g ∧ (((b0M && (!a9D)) = true →
 (0 : Int) ≤ 1 ∧ (1 : Int) < g5.n ∧ ∃ a9E : b5, EltH a7g g5 1 4 (b6 a9E) ∧
 K a9E a7g) ∧
 ((b0M && (!a9D)) = false →
 S1 (b5.mk x0.a8 x0.o2 x0.b7 g5) (b5.mk 0 0 ⟨#[]⟩ (Sl.mk none 0 0)) a7g K))) (fun c3Q => ?_) (fun c3Q => ?_) ?_
      ·replace h := h.1 c3Q
       have f4 := c3Q
       simp only [p1 f4]
       refine f2 (cap := []) (fun args w => Tryd.call65 args w) ?_
       refine i8 (Fi := []) (Fr := [bx g_2 24 [(vi x0.a8), (vi x0.o2), (Value.string x0.b7), (vs g5)], bx g_7 24 [(vi 0), (vi 0), (eS), (nS)]]) c6K (h) (fun d4Q a7g g8W b3V c0e e3u e3v g2Z => ?_) (fun _ _ _ _ _ q => q.elim)
       obtain ⟨a9D, rfl, rfl, h⟩ := g2Z
       exact ⟨a9D, a7g, by rfl, c0e, e3v, e3u, h⟩
      ·exact ⟨false, c0c, by rw [a3g c3Q], c6K, fun _ _ _ => rfl, Hle.refl _, h.2 c3Q⟩
      ·clear h
       rintro d4Q b3V ⟨a9D, a7g, rfl, c0e, e3v, e3u, h⟩
       refine a7 (Pu.g fun hb => by have f4 := hb; simp only [p1 f4]; exact (a1N _)) ?_
       refine a7 (A6 _ _) ?_
       refine u2 (fun d4R => ?_) (fun d4R => ?_)
       ·replace h := h.1 d4R
        refine a7 J5 ?_
        refine d6 (ld1 Tryd.isAgg22 (c0e.at1 (o := 3) (vs := [(vs g5)]) (nb rfl) rfl)) ?_
        obtain ⟨c6C, g3a, a9E, d4S, h⟩ := h
        obtain ⟨g8X, g8Y, g3b, d4S⟩ := d4S
        refine a7 (O0 g3b _ _ _ _ c6C g3a) ?_
        refine d6 (ldA (vs := (b6 a9E)) Tryd.isAgg24 Tryd.sizeOf24 rfl (c0e.atH d4S)) ?_
        refine m6 (c0e.bring 1) Tryd.sizeOf24 (vs := (b6 a9E)) (cs' := (b6 a9E)) rfl rfl (nb rfl) rfl rfl fun d4i e3w g8Z => ?_
        refine K6 Tryd.isAgg24 Tryd.sizeOf24 rfl (e3w.at1 (o := 0) (vs := (b6 a9E)) (nb rfl) rfl) ?_
        exact hR a9E a7g _ e3w.drop.drop h
       ·replace h := h.2 d4R
        exact hx2 _ _ (hj2 a7g _ ((c0e.bring 1).bring 1) h)
     ·replace h := h.2 d4O
      refine a7 (m9 _ _ _ _ _ _) ?_
      refine j7 (fun d4T => ?_) (fun d4T => ?_)
      ·replace h := h.1 d4T
       exact hx2 _ _ (hj2 a8l _ ((a8S.bring 1).bring 1) h)
      ·replace h := h.2 d4T
       exact hx1 _ _ (hj1 a8l _ ((a8S.bring 1).bring 1) h)
theorem b5H (x0 : b5) {H : Hp} {K : b5 → Hp → Prop} (h : a2X x0 H K) : a2R x0 H K := by
 intro w I
 refine f6o ?_
 refine b4V x0 I (fun r0 H' w' I' hk => ⟨H', _, I', r0, rfl, rfl, hk⟩) h
def a2Z (x0 : b5) (H : Hp) (K : b5 → Int → Hp → Prop) : Prop :=
 a7q x0 H (fun (g5 : Int) (F3 : Hp) =>
 (¬ (g5 = 0) →
 K (b5.mk 0 0 ⟨#[]⟩ (Sl.mk none 0 0)) g5 F3) ∧
 (g5 = 0 →
 a2R x0 F3 (fun (a2v : b5) (a5i : Hp) =>
 K a2v 0 a5i)))
theorem b4W (x0 : b5) {K : b5 → Int → Hp → Prop} (I : Inv w0 ps0 H0 H [] w) (hR : ∀ (r0 : b5) (r1 : Int) (H' : Hp) (w' : World) (_ : Inv w0 ps0 H0 H' [] w') (_ : K r0 r1 H'), R (Value.tuple #[(Value.agg (b6 r0).toArray), (vi r1)]) w') (h : a2Z x0 H K) : F11 (Value.agg (b6 x0).toArray) w R E := by
 unfold a2Z at h
 unfold F11
 refine J3 I (cs := (b6 x0)) rfl fun g_2 w_3 I_4 k_5 => ?_
 refine y8 I_4 Tryd.zeroValue24 (cs := [(vi 0), (vi 0), (eS), (nS)]) rfl fun g_7 w_8 I_9 a7x => ?_
 refine d6 (ldA Tryd.isAgg24 Tryd.sizeOf24 rfl ((I_9.bring 1).at1 (o := 0) (vs := (b6 x0)) (nb rfl) rfl)) ?_
 refine f2 (cap := []) (fun args w => Tryd.call37 args w) ?_
 refine i8 (Fi := []) (Fr := [bx g_7 24 [(vi 0), (vi 0), (eS), (nS)], bx g_2 24 (b6 x0)]) I_9 (h) (fun a6Z F3 b2w o4 R8 a7B a7C a6s => ?_) (fun _ _ _ _ _ q => q.elim)
 obtain ⟨g5, rfl, rfl, h⟩ := a6s
 refine a7 (T0 _ _ _ _ _ _) ?_
 refine a0s (fun c2b => ?_) (fun c2b => ?_)
 ·replace h := h.1 c2b
  refine a7 (d6t ) ?_
  refine m6 R8 Tryd.sizeOf24 (vs := [(vi 0), (vi 0), (eS), (nS)]) (cs' := [(vi 0), (vi 0), (eS), (nS)]) rfl rfl (nb rfl) rfl rfl fun u1 a4D b8F => ?_
  refine K6 Tryd.isAgg24 Tryd.sizeOf24 rfl (a4D.at1 (o := 0) (vs := [(vi 0), (vi 0), (eS), (nS)]) (nb rfl) rfl) ?_
  exact hR (b5.mk 0 0 ⟨#[]⟩ (Sl.mk none 0 0)) g5 F3 _ a4D.drop.drop h
 ·replace h := h.2 c2b
  refine d6 (ldA Tryd.isAgg24 Tryd.sizeOf24 rfl ((R8.bring 1).at1 (o := 0) (vs := (b6 x0)) (nb rfl) rfl)) ?_
  refine f2 (cap := []) (fun args w => Tryd.call38 args w) ?_
  refine i8 (Fi := []) (Fr := [bx g_7 24 [(vi 0), (vi 0), (eS), (nS)], bx g_2 24 (b6 x0)]) R8 (h) (fun d9F a5i c8y y6 a5T d9G d2Y c1d => ?_) (fun _ _ _ _ _ q => q.elim)
  obtain ⟨a2v, rfl, rfl, h⟩ := c1d
  refine m6 a5T Tryd.sizeOf24 (vs := (b6 a2v)) (cs' := (b6 a2v)) rfl rfl (nb rfl) rfl rfl fun E2 a1u b8M => ?_
  refine K6 Tryd.isAgg24 Tryd.sizeOf24 rfl (a1u.at1 (o := 0) (vs := (b6 a2v)) (nb rfl) rfl) ?_
  exact hR a2v 0 a5i _ a1u.drop.drop h
theorem b5I (x0 : b5) {H : Hp} {K : b5 → Int → Hp → Prop} (h : a2Z x0 H K) : a5O x0 H K := by
 intro w I
 refine f5H ?_
 refine b4W x0 I (fun r0 r1 H' w' I' hk => ⟨H', _, I', r0, r1, rfl, rfl, hk⟩) h
def B0 (F5 : (List b8)) (H : Hp) (K : Sl → Hp → Prop) : Prop :=
 ∀ (s8 : Sl) (F8 : Hp), Hle H F8 → SlH F8 4 d5 s8 F5 → s8.n ≤ s8.c →
 K s8 F8
def B1 (K4 : Sl) (R4 : Int) (m8 : (List b8)) (j8 : Int) (H : Hp) (n2 : ((List b8) × Int) → Hp → Prop) (K : Sl → Hp → Prop) : Prop :=
 (j8 < R4 →
 (0 : Int) ≤ j8 ∧ (j8 : Int) < K4.n ∧ ∃ x_1 : b8, EltH H K4 j8 4 (d5 x_1) ∧
 a2S x_1 H (fun (B3 : b8) (M5 : Hp) =>
 (m8.length + ([B3] : List b8).length) * 65 ≤ 140737488355328 ∧
 n2 ((m8 ++ [B3]), (IntKind.wrap .i64 (j8 + 1))) M5)) ∧
 (¬ (j8 < R4) →
 B0 m8 H K)
def C4 (x0 : Sl) (H : Hp) (K : Sl → Hp → Prop) : Prop :=
 TL (([], 0) : (List b8) × Int) H fun (s : (List b8) × Int) H n2 => B1 x0 (x0.n : Int) s.1 s.2 H n2 K
theorem a0H (x0 : Sl) {K : Sl → Hp → Prop} (I : Inv w0 ps0 H0 H [] w) (hR : ∀ (r0 : Sl) (H' : Hp) (w' : World) (_ : Inv w0 ps0 H0 H' [] w') (_ : K r0 H'), R (vs r0) w') (h : C4 x0 H K) : F73 (vs x0) (fC 42) w R E := by
 unfold C4 at h
 unfold F73
 have hj1 : ∀ (F5 : (List b8)) (s8 : Sl) (Fs5j1 : Frag) (H : Hp) (w : World) (_ : RowL 27 4 d5 s8 F5 Fs5j1) (_ : Inv w0 ps0 H0 H [Fs5j1] w) (_ : B0 F5 H K), c9V (vs s8) w R E := by
  intro F5 s8 Fs5j1 H w a4T I h
  unfold c9V
  intro _
  unfold B0 at h
  obtain ⟨F8, a0Y, a5W, a1v, a3F⟩ := Inv.freezeC I a4T (by decide)
  replace h := h s8 F8 a5W a1v a3F
  exact hR s8 F8 _ a0Y h
 refine A7 fun j1 hx1 => ?_
 refine a7 (a2H _ _ _) ?_
 obtain ⟨X1, M0, a7y, a0Z⟩ := h
 refine M9 (J := fun n l w => ∃ (s : (List b8) × Int) (H : Hp) (F6 : Sl) (Fs5l2 : Frag) , n = M0 s ∧ l = (match s with | (m8, j8) => [(vs F6), (vi j8)]) ∧ (match s with | (m8, j8) => RowL 27 4 d5 F6 m8 Fs5l2) ∧ (match s with | (m8, j8) => Inv w0 ps0 H0 H [Fs5l2] w) ∧ X1 s H) ⟨_, ([], 0), H, (Sl.mk none 0 0), [], rfl, rfl, (RowL.nil a8w a8x), I.nil, a7y⟩ ?_
 rintro b8I τ_50 w next2 ⟨⟨m8, j8⟩, H, F6, Fs5l2, rfl, V4, Q1, I, a7z⟩ hn2
 dsimp only at V4 I Q1
 simp only [List.map_cons, List.map_nil, List.cons.injEq, and_true] at V4
 obtain ⟨e5, e10⟩ := V4
 simp only [e5, e10]
 obtain ⟨n2, hm2, h⟩ : ∃ n2 : ((List b8) × Int) → Hp → Prop, (∀ s' H', n2 s' H' → X1 s' H' ∧ M0 s' < M0 (m8, j8)) ∧ B1 x0 (x0.n : Int) m8 j8 H n2 K := ⟨_, fun _ _ h => h, a0Z (m8, j8) H (fun s' H' => X1 s' H' ∧ M0 s' < M0 (m8, j8)) a7z (fun _ _ a b => ⟨a, b⟩)⟩
 unfold d8a
 unfold B1 at h
 refine a7 (F4 _ _ _ _ _ _) ?_
 refine j7 (fun T5 => ?_) (fun T5 => ?_)
 ·replace h := h.1 T5
  obtain ⟨h_4, h_5, x_1, h_7, h⟩ := h
  obtain ⟨g_2, o_3, h_6, h_7⟩ := h_7
  refine a7 (a3W h_6 _ _ _ _ h_4 h_5) ?_
  refine d6 (ldA (vs := (d5 x_1)) Tryd.isAgg27 Tryd.sizeOf27 rfl (I.atH h_7)) ?_
  refine y8 I Tryd.zeroValue27 (cs := [(vi 0), (vi 0), (nS), (nS)]) rfl fun g_9 o7 V5 a7A => ?_
  refine m6 V5 Tryd.sizeOf27 (vs := (d5 x_1)) (cs' := (d5 x_1)) rfl rfl (nb rfl) rfl rfl fun V0 J6 a1w => ?_
  refine d6 (ldA Tryd.isAgg27 Tryd.sizeOf27 rfl (J6.at1 (o := 0) (vs := (d5 x_1)) (nb rfl) rfl)) ?_
  refine f2 (cap := []) (fun args w => Tryd.call42 args w) ?_
  refine i8 (Fi := []) (Fr := [bx g_9 27 (d5 x_1), Fs5l2]) J6 (h) (fun b4E M5 b2v Y8 a0E b4F b4G a5k => ?_) (fun _ _ _ _ _ q => q.elim)
  obtain ⟨B3, rfl, rfl, h⟩ := a5k
  refine a3h (e := 27) (c := d5) (xs := [B3]) a0E (d1z _ _ _ _ _ _ _ _) rfl rfl a8w a8x (nb rfl) fun b0V a9x E5 a4d S8 a8h => ?_
  obtain ⟨a5l, h⟩ := h
  refine d6x (s := F6) (xs := m8) (S8.bring 2) Q1 (a4d.srcO ((S8.bring 2).bring 1)) a5l fun a3G a6Y E3 a5j a1x a9X => ?_
  refine a7 (K3 _ _ _ _ _ _) ?_
  exact hn2 _ _ _ (hm2 _ _ h).2 ⟨((m8 ++ [B3]), (IntKind.wrap .i64 (j8 + 1))), M5, a3G, a6Y, rfl, rfl, a5j, ((a1x.bring 1).drop.bring 1).drop, (hm2 _ _ h).1⟩
 ·replace h := h.2 T5
  exact hx1 _ _ (hj1 m8 F6 Fs5l2 H _ Q1 I h)
theorem a0J (x0 : Sl) {H : Hp} {K : Sl → Hp → Prop} (h : C4 x0 H K) : C2 x0 H K := by
 intro w I
 refine f7T ?_
 refine a0H x0 I (fun r0 H' w' I' hk => ⟨H', _, I', r0, rfl, rfl, hk⟩) h
def a0f (x0 : Bool) (H : Hp) (K : b8 → Hp → Prop) : Prop :=
 (x0 = true →
 K (b8.mk 1 0 (Sl.mk none 0 0) (Sl.mk none 0 0)) H) ∧
 (x0 = false →
 K (b8.mk 2 0 (Sl.mk none 0 0) (Sl.mk none 0 0)) H)
theorem b3H (x0 : Bool) {K : b8 → Hp → Prop} (I : Inv w0 ps0 H0 H [] w) (hR : ∀ (r0 : b8) (H' : Hp) (w' : World) (_ : Inv w0 ps0 H0 H' [] w') (_ : K r0 H'), R (Value.agg (d5 r0).toArray) w') (h : a0f x0 H K) : F74 (vB x0) w R E := by
 unfold a0f at h
 unfold F74
 refine y8 I Tryd.zeroValue27 (cs := [(vi 0), (vi 0), (nS), (nS)]) rfl fun g_2 w_3 I_4 k_5 => ?_
 refine u2 (fun e1w => ?_) (fun e1w => ?_)
 ·replace h := h.1 e1w
  refine a7 (c0L _) ?_
  refine m6 I_4 Tryd.sizeOf27 (vs := [(vi 1), (vi 0), (nS), (nS)]) (cs' := [(vi 1), (vi 0), (nS), (nS)]) rfl rfl (nb rfl) rfl rfl fun w_6 I_7 k_8 => ?_
  refine K6 Tryd.isAgg27 Tryd.sizeOf27 rfl (I_7.at1 (o := 0) (vs := [(vi 1), (vi 0), (nS), (nS)]) (nb rfl) rfl) ?_
  exact hR (b8.mk 1 0 (Sl.mk none 0 0) (Sl.mk none 0 0)) H _ I_7.drop h
 ·replace h := h.2 e1w
  refine a7 (c0L _) ?_
  refine m6 I_4 Tryd.sizeOf27 (vs := [(vi 2), (vi 0), (nS), (nS)]) (cs' := [(vi 2), (vi 0), (nS), (nS)]) rfl rfl (nb rfl) rfl rfl fun w_9 a9y b4I => ?_
  refine K6 Tryd.isAgg27 Tryd.sizeOf27 rfl (a9y.at1 (o := 0) (vs := [(vi 2), (vi 0), (nS), (nS)]) (nb rfl) rfl) ?_
  exact hR (b8.mk 2 0 (Sl.mk none 0 0) (Sl.mk none 0 0)) H _ a9y.drop h
theorem b4X (x0 : Bool) {H : Hp} {K : b8 → Hp → Prop} (h : a0f x0 H K) : a2r x0 H K := by
 intro w I
 refine f7V ?_
 refine b3H x0 I (fun r0 H' w' I' hk => ⟨H', _, I', r0, rfl, rfl, hk⟩) h
def U3 (c0f : Bool) (g8h : b8) (e7E : b8) (b5A : b8) (a1d : b8) (H : Hp) (K : b8 → Hp → Prop) : Prop :=
 (c0f = true →
 K e7E H) ∧
 (c0f = false →
 K a1d H)
def a0k (c9y : Int) (b4L : Int) (a0t : b8) (U9 : b8) (o3 : b8) (u0 : b8) (H : Hp) (K : b8 → Hp → Prop) : Prop :=
 (U9.a8 = c9y →
 K a0t H) ∧
 (¬ (U9.a8 = c9y) →
 (U9.a8 = b4L →
 U3 (decide (U9.a8 = b4L)) a0t U9 o3 u0 H K) ∧
 (¬ (U9.a8 = b4L) →
 U3 (decide (a0t.a8 = c9y)) a0t U9 o3 u0 H K))
def a1L (x0 : b8) (x1 : Int) (x2 : Int) (H : Hp) (K : b8 → Hp → Prop) : Prop :=
 (0 : Int) ≤ 0 ∧ (0 : Int) < x0.q8.n ∧ ∃ a8k : b8, EltH H x0.q8 0 4 (d5 a8k) ∧
 (0 : Int) ≤ 1 ∧ (1 : Int) < x0.q8.n ∧ ∃ b4Y : b8, EltH H x0.q8 1 4 (d5 b4Y) ∧
 a0k x1 x2 b4Y a8k (b8.mk 0 0 (Sl.mk none 0 0) (Sl.mk none 0 0)) x0 H K
theorem b3g (x0 : b8) (x1 : Int) (x2 : Int) {K : b8 → Hp → Prop} (I : Inv w0 ps0 H0 H [] w) (hR : ∀ (r0 : b8) (H' : Hp) (w' : World) (_ : Inv w0 ps0 H0 H' [] w') (_ : K r0 H'), R (Value.agg (d5 r0).toArray) w') (h : a1L x0 x1 x2 H K) : F76 (Value.agg (d5 x0).toArray) (vi x1) (vi x2) w R E := by
 unfold a1L at h
 unfold F76
 refine J3 I (cs := (d5 x0)) rfl fun g_2 w_3 I_4 k_5 => ?_
 refine y8 I_4 Tryd.zeroValue27 (cs := [(vi 0), (vi 0), (nS), (nS)]) rfl fun g_7 w_8 I_9 a7x => ?_
 have hj1 : ∀ (a0t : b8) (U9 : b8) (b7l : Nat) (b3h : Nat) (H : Hp) (w : World) (_ : Inv w0 ps0 H0 H [bx b7l 27 (d5 a0t), bx b3h 27 (d5 U9), bx g_7 27 [(vi (b8.mk 0 0 (Sl.mk none 0 0) (Sl.mk none 0 0)).a8), (vi (b8.mk 0 0 (Sl.mk none 0 0) (Sl.mk none 0 0)).fOp), (Value.slice (b8.mk 0 0 (Sl.mk none 0 0) (Sl.mk none 0 0)).g8.a (b8.mk 0 0 (Sl.mk none 0 0) (Sl.mk none 0 0)).g8.n (b8.mk 0 0 (Sl.mk none 0 0) (Sl.mk none 0 0)).g8.c), (Value.slice (b8.mk 0 0 (Sl.mk none 0 0) (Sl.mk none 0 0)).q8.a (b8.mk 0 0 (Sl.mk none 0 0) (Sl.mk none 0 0)).q8.n (b8.mk 0 0 (Sl.mk none 0 0) (Sl.mk none 0 0)).q8.c)], bx g_2 27 (d5 x0)] w) (_ : a0k x1 x2 a0t U9 (b8.mk 0 0 (Sl.mk none 0 0) (Sl.mk none 0 0)) x0 H K), c9X (vi x1) (vi x2) (Value.pointer (some ⟨g_2, 0, none⟩)) (Value.pointer (some ⟨g_7, 0, none⟩)) (Value.pointer (some ⟨b3h, 0, none⟩)) (Value.pointer (some ⟨b7l, 0, none⟩)) w R E := by
  intro a0t U9 b7l b3h H w I h
  unfold c9X
  intro _
  unfold a0k at h
  refine a7 a0P ?_
  refine d6 (ld1 Tryd.isAgg3 ((I.bring 1).at1 (o := 0) (vs := [(vi U9.a8)]) (nb rfl) rfl)) ?_
  refine a7 (m9 _ _ _ _ _ _) ?_
  refine j7 (fun e1x => ?_) (fun e1x => ?_)
  ·replace h := h.1 e1x
   refine d6 (ldA Tryd.isAgg27 Tryd.sizeOf27 rfl (I.at1 (o := 0) (vs := (d5 a0t)) (nb rfl) rfl)) ?_
   refine m6 (I.bring 2) Tryd.sizeOf27 (vs := (d5 a0t)) (cs' := (d5 a0t)) rfl rfl (nb rfl) rfl rfl fun b6j b4Z e1y => ?_
   refine K6 Tryd.isAgg27 Tryd.sizeOf27 rfl (b4Z.at1 (o := 0) (vs := (d5 a0t)) (nb rfl) rfl) ?_
   exact hR a0t H _ b4Z.drop.drop.drop.drop h
  ·replace h := h.2 e1x
   have hj2 : ∀ (c0f : Bool) (H : Hp) (w : World) (_ : Inv w0 ps0 H0 H [bx b7l 27 (d5 a0t), bx b3h 27 (d5 U9), bx g_7 27 [(vi (b8.mk 0 0 (Sl.mk none 0 0) (Sl.mk none 0 0)).a8), (vi (b8.mk 0 0 (Sl.mk none 0 0) (Sl.mk none 0 0)).fOp), (Value.slice (b8.mk 0 0 (Sl.mk none 0 0) (Sl.mk none 0 0)).g8.a (b8.mk 0 0 (Sl.mk none 0 0) (Sl.mk none 0 0)).g8.n (b8.mk 0 0 (Sl.mk none 0 0) (Sl.mk none 0 0)).g8.c), (Value.slice (b8.mk 0 0 (Sl.mk none 0 0) (Sl.mk none 0 0)).q8.a (b8.mk 0 0 (Sl.mk none 0 0) (Sl.mk none 0 0)).q8.n (b8.mk 0 0 (Sl.mk none 0 0) (Sl.mk none 0 0)).q8.c)], bx g_2 27 (d5 x0)] w) (_ : U3 c0f a0t U9 (b8.mk 0 0 (Sl.mk none 0 0) (Sl.mk none 0 0)) x0 H K), c9W (Value.pointer (some ⟨g_2, 0, none⟩)) (Value.pointer (some ⟨g_7, 0, none⟩)) (Value.pointer (some ⟨b3h, 0, none⟩)) (vB c0f) w R E := by
    intro c0f H w I h
    unfold c9W
    intro _
    unfold U3 at h
    refine u2 (fun e1z => ?_) (fun e1z => ?_)
    ·replace h := h.1 e1z
     refine d6 (ldA Tryd.isAgg27 Tryd.sizeOf27 rfl ((I.bring 1).at1 (o := 0) (vs := (d5 U9)) (nb rfl) rfl)) ?_
     refine m6 (I.bring 2) Tryd.sizeOf27 (vs := (d5 U9)) (cs' := (d5 U9)) rfl rfl (nb rfl) rfl rfl fun V1 d0k g6R => ?_
     refine K6 Tryd.isAgg27 Tryd.sizeOf27 rfl (d0k.at1 (o := 0) (vs := (d5 U9)) (nb rfl) rfl) ?_
     exact hR U9 H _ d0k.drop.drop.drop.drop h
    ·replace h := h.2 e1z
     refine d6 (ldA Tryd.isAgg27 Tryd.sizeOf27 rfl ((I.bring 3).at1 (o := 0) (vs := (d5 x0)) (nb rfl) rfl)) ?_
     refine m6 (I.bring 2) Tryd.sizeOf27 (vs := (d5 x0)) (cs' := (d5 x0)) rfl rfl (nb rfl) rfl rfl fun b2n d4U g6S => ?_
     refine K6 Tryd.isAgg27 Tryd.sizeOf27 rfl (d4U.at1 (o := 0) (vs := (d5 x0)) (nb rfl) rfl) ?_
     exact hR x0 H _ d4U.drop.drop.drop.drop h
   refine A7 fun j2 hx2 => ?_
   refine a7 a0P ?_
   refine d6 (ld1 Tryd.isAgg3 ((I.bring 1).at1 (o := 0) (vs := [(vi U9.a8)]) (nb rfl) rfl)) ?_
   refine a7 (m9 _ _ _ _ _ _) ?_
   refine j7 (fun e1A => ?_) (fun e1A => ?_)
   ·replace h := h.1 e1A
    exact hx2 _ _ (hj2 (decide (U9.a8 = x2)) H _ ((((I.bring 3).bring 3).bring 3).bring 3) h)
   ·replace h := h.2 e1A
    refine a7 a0P ?_
    refine d6 (ld1 Tryd.isAgg3 (I.at1 (o := 0) (vs := [(vi a0t.a8)]) (nb rfl) rfl)) ?_
    refine a7 (m9 _ _ _ _ _ _) ?_
    exact hx2 _ _ (hj2 (decide (a0t.a8 = x1)) H _ ((((I.bring 3).bring 3).bring 3).bring 3) h)
 refine A7 fun j1 hx1 => ?_
 refine a3v I_9 fun P9 C6 => ?_
 refine r9 a0h ?_
 refine r9 a0h ?_
 refine K0 (ld1 Tryd.isAgg25 ((C6.bring 1).at1 (o := 3) (vs := [(vs x0.q8)]) (nb rfl) rfl)) ?_
 obtain ⟨b0f, c1J, a8k, a6t, h⟩ := h
 obtain ⟨g6y, g6z, d0e, a6t⟩ := a6t
 refine r9 (a3W d0e _ _ _ _ b0f c1J) ?_
 refine K0 (ldA (vs := (d5 a8k)) Tryd.isAgg27 Tryd.sizeOf27 rfl (C6.atH a6t)) ?_
 refine K0 (ld1 Tryd.isAgg25 ((C6.bring 1).at1 (o := 3) (vs := [(vs x0.q8)]) (nb rfl) rfl)) ?_
 obtain ⟨c1K, c9f, b4Y, b3c, h⟩ := h
 obtain ⟨f8X, h1O, c1L, b3c⟩ := b3c
 refine r9 (a3W c1L _ _ _ _ c1K c9f) ?_
 refine K0 (ldA (vs := (d5 b4Y)) Tryd.isAgg27 Tryd.sizeOf27 rfl (C6.atH b3c)) ?_
 refine ⟨?_, ?_⟩
 ·refine y8 C6 Tryd.zeroValue27 (cs := [(vi 0), (vi 0), (nS), (nS)]) rfl fun g6T a7b S8 a8h => ?_
  refine ⟨(a8h _ (C6.b0B b3c)), (a8h _ (C6.bring 1).lt1), (a8h _ (C6.b0B a6t)), (a8h _ (C6.bring 1).lt1), ?_⟩
  refine y8 S8 Tryd.zeroValue27 (cs := [(vi 0), (vi 0), (nS), (nS)]) rfl fun g6U E3 a3N c2c => ?_
  refine ⟨(c2c _ (S8.b0B b3c)), (c2c _ (S8.bring 2).lt1), (c2c _ (S8.b0B a6t)), (c2c _ (S8.bring 2).lt1), ?_⟩
  refine m6 (a3N.bring 1) Tryd.sizeOf27 (vs := (d5 a8k)) (cs' := (d5 a8k)) rfl rfl (nb rfl) rfl rfl fun b4D b0U d3d => ?_
  refine ⟨(d3d _ (Inv.e8z (a3N.bring 1) b3c)), (d3d _ (Inv.e8A ((a3N.bring 3).bring 2))), ?_⟩
  refine m6 (b0U.bring 1) Tryd.sizeOf27 (vs := (d5 b4Y)) (cs' := (d5 b4Y)) rfl rfl (nb rfl) rfl rfl fun L9 b2u c8z => ?_
  exact hx1 _ _ (hj1 b4Y a8k g6U g6T H _ ((((b2u.bring 3).bring 3).bring 3).bring 3) h)
 ·refine y8 C6 Tryd.zeroValue27 (cs := [(vi 0), (vi 0), (nS), (nS)]) rfl fun g6V b6W b0j b8U => ?_
  refine ⟨(b8U _ (C6.b0B b3c)), (b8U _ (C6.bring 1).lt1), (b8U _ (C6.b0B a6t)), (b8U _ (C6.bring 1).lt1), ?_⟩
  refine y8 b0j Tryd.zeroValue27 (cs := [(vi 0), (vi 0), (nS), (nS)]) rfl fun g6W U0 b8R c5j => ?_
  refine ⟨(c5j _ (b0j.b0B b3c)), (c5j _ (b0j.bring 2).lt1), (c5j _ (b0j.b0B a6t)), (c5j _ (b0j.bring 2).lt1), ?_⟩
  refine m6 b8R Tryd.sizeOf27 (vs := (d5 a8k)) (cs' := (d5 a8k)) rfl rfl (nb rfl) rfl rfl fun c8u d9A d9B => ?_
  refine ⟨(d9B _ (Inv.e8z b8R b3c)), (d9B _ (Inv.e8A ((b8R.bring 3).bring 1))), ?_⟩
  refine m6 (d9A.bring 1) Tryd.sizeOf27 (vs := (d5 b4Y)) (cs' := (d5 b4Y)) rfl rfl (nb rfl) rfl rfl fun X7 b3i d4V => ?_
  exact hx1 _ _ (hj1 b4Y a8k g6V g6W H _ ((((b3i.bring 3).bring 3).bring 3).bring 3) h)
theorem b3I (x0 : b8) (x1 : Int) (x2 : Int) {H : Hp} {K : b8 → Hp → Prop} (h : a1L x0 x1 x2 H K) : a1z x0 x1 x2 H K := by
 intro w I
 refine f8h ?_
 refine b3g x0 x1 x2 I (fun r0 H' w' I' hk => ⟨H', _, I', r0, rfl, rfl, hk⟩) h
def S4 (u0 : b8) (o3 : b8) (H : Hp) (K : b8 → Hp → Prop) : Prop :=
 K u0 H
def a3b (x0 : b8) (H : Hp) (K : b8 → Hp → Prop) : Prop :=
 z2 x0.g8 H (fun (t8 : Sl) (a1h : Hp) =>
 C2 x0.q8 a1h (fun (r8 : Sl) (a0F : Hp) =>
 (x0.a8 = 3 →
 (0 : Int) ≤ 0 ∧ (0 : Int) < t8.n ∧ ∃ d4W : b5, EltH a0F t8 0 4 (b6 d4W) ∧
 O1 d4W a0F (fun (b7k : Int) (b1z : Bool) (a8l : Hp) =>
 (0 : Int) ≤ 1 ∧ (1 : Int) < t8.n ∧ ∃ d4X : b5, EltH a8l t8 1 4 (b6 d4X) ∧
 O1 d4X a8l (fun (b7m : Int) (c6M : Bool) (c2d : Hp) =>
 ((b1z && c6M) = true →
 a8F x0.fOp b7k b7m c2d (fun (a3C : Bool) (a8G : Hp) =>
 a2r a3C a8G (fun (a5u : b8) (a5V : Hp) =>
 K a5u a5V))) ∧
 ((b1z && c6M) = false →
 S4 (b8.mk x0.a8 x0.fOp t8 r8) (b8.mk 0 0 (Sl.mk none 0 0) (Sl.mk none 0 0)) c2d K)))) ∧
 (¬ (x0.a8 = 3) →
 (x0.a8 = 4 →
 (0 : Int) ≤ 0 ∧ (0 : Int) < r8.n ∧ ∃ b9i : b8, EltH a0F r8 0 4 (d5 b9i) ∧
 (((decide (b9i.a8 = 1)) || (decide (b9i.a8 = 2))) = true →
 a2r (decide (b9i.a8 = 2)) a0F (fun (b5J : b8) (d4Y : Hp) =>
 K b5J d4Y)) ∧
 (((decide (b9i.a8 = 1)) || (decide (b9i.a8 = 2))) = false →
 S4 (b8.mk x0.a8 x0.fOp t8 r8) (b8.mk 0 0 (Sl.mk none 0 0) (Sl.mk none 0 0)) a0F K)) ∧
 (¬ (x0.a8 = 4) →
 (x0.a8 = 5 →
 a1z (b8.mk x0.a8 x0.fOp t8 r8) 1 2 a0F (fun (b5K : b8) (d4Z : Hp) =>
 K b5K d4Z)) ∧
 (¬ (x0.a8 = 5) →
 (x0.a8 = 6 →
 a1z (b8.mk x0.a8 x0.fOp t8 r8) 2 1 a0F (fun (b5L : b8) (d5a : Hp) =>
 K b5L d5a)) ∧
 (¬ (x0.a8 = 6) →
 S4 (b8.mk x0.a8 x0.fOp t8 r8) (b8.mk 0 0 (Sl.mk none 0 0) (Sl.mk none 0 0)) a0F K))))))
theorem b5a (x0 : b8) {K : b8 → Hp → Prop} (I : Inv w0 ps0 H0 H [] w) (hR : ∀ (r0 : b8) (H' : Hp) (w' : World) (_ : Inv w0 ps0 H0 H' [] w') (_ : K r0 H'), R (Value.agg (d5 r0).toArray) w') (h : a3b x0 H K) : F42 (Value.agg (d5 x0).toArray) w R E := by
 unfold a3b at h
 unfold F42
 refine J3 I (cs := (d5 x0)) rfl fun g_2 w_3 I_4 k_5 => ?_
 refine y8 I_4 Tryd.zeroValue27 (cs := [(vi 0), (vi 0), (nS), (nS)]) rfl fun g_7 w_8 I_9 a7x => ?_
 refine a3v I_9 fun P9 C6 => ?_
 refine r9 a0Q ?_
 refine r9 a0h ?_
 refine K0 (ld1 Tryd.isAgg22 ((C6.bring 1).at1 (o := 2) (vs := [(vs x0.g8)]) (nb rfl) rfl)) ?_
 refine K0 (ld1 Tryd.isAgg25 ((C6.bring 1).at1 (o := 3) (vs := [(vs x0.q8)]) (nb rfl) rfl)) ?_
 refine f2 (cap := []) (fun args w => Tryd.call61 args w) ?_
 refine i8 (Fi := []) (Fr := [bx g_7 27 [(vi 0), (vi 0), (nS), (nS)], bx g_2 27 (d5 x0)]) C6 (h) (fun f8Y a1h f8Z o8 b2q f9a b6n d0l => ?_) (fun _ _ _ _ _ q => q.elim)
 obtain ⟨t8, rfl, rfl, h⟩ := d0l
 refine ⟨(b6n _ (C6.bring 1).lt1 (Inv.a3s (Fi := []) (C6.bring 1))), ?_⟩
 refine r9 a0Q ?_
 refine f2 (cap := []) (fun args w => Tryd.call73 args w) ?_
 refine i8 (Fi := []) (Fr := [bx g_7 27 [(vi 0), (vi 0), (nS), (nS)], bx g_2 27 (d5 x0)]) b2q (h) (fun e0A a0F a9x a7p a5m e0B c9c c1G => ?_) (fun _ _ _ _ _ q => q.elim)
 obtain ⟨r8, rfl, rfl, h⟩ := c1G
 refine m6 (a5m.bring 1) Tryd.sizeOf22 (vs := [(vs t8)]) (cs' := [(vi x0.a8), (vi x0.fOp), (vs t8), (vs x0.q8)]) rfl rfl (nb rfl) rfl rfl fun b0l b9j e1B => ?_
 refine r9 a0h ?_
 refine m6 b9j Tryd.sizeOf25 (vs := [(vs r8)]) (cs' := [(vi x0.a8), (vi x0.fOp), (vs t8), (vs r8)]) rfl rfl (nb rfl) rfl rfl fun E3 a3N c2c => ?_
 have hj1 : ∀ (H : Hp) (w : World) (_ : Inv w0 ps0 H0 H [bx g_2 27 [(vi (b8.mk x0.a8 x0.fOp t8 r8).a8), (vi (b8.mk x0.a8 x0.fOp t8 r8).fOp), (Value.slice (b8.mk x0.a8 x0.fOp t8 r8).g8.a (b8.mk x0.a8 x0.fOp t8 r8).g8.n (b8.mk x0.a8 x0.fOp t8 r8).g8.c), (Value.slice (b8.mk x0.a8 x0.fOp t8 r8).q8.a (b8.mk x0.a8 x0.fOp t8 r8).q8.n (b8.mk x0.a8 x0.fOp t8 r8).q8.c)], bx g_7 27 [(vi (b8.mk 0 0 (Sl.mk none 0 0) (Sl.mk none 0 0)).a8), (vi (b8.mk 0 0 (Sl.mk none 0 0) (Sl.mk none 0 0)).fOp), (Value.slice (b8.mk 0 0 (Sl.mk none 0 0) (Sl.mk none 0 0)).g8.a (b8.mk 0 0 (Sl.mk none 0 0) (Sl.mk none 0 0)).g8.n (b8.mk 0 0 (Sl.mk none 0 0) (Sl.mk none 0 0)).g8.c), (Value.slice (b8.mk 0 0 (Sl.mk none 0 0) (Sl.mk none 0 0)).q8.a (b8.mk 0 0 (Sl.mk none 0 0) (Sl.mk none 0 0)).q8.n (b8.mk 0 0 (Sl.mk none 0 0) (Sl.mk none 0 0)).q8.c)]] w) (_ : S4 (b8.mk x0.a8 x0.fOp t8 r8) (b8.mk 0 0 (Sl.mk none 0 0) (Sl.mk none 0 0)) H K), c9N (Value.pointer (some ⟨g_2, 0, none⟩)) (Value.pointer (some ⟨g_7, 0, none⟩)) w R E := by
  intro H w I h
  unfold c9N
  intro _
  unfold S4 at h
  refine d6 (ldA Tryd.isAgg27 Tryd.sizeOf27 rfl (I.at1 (o := 0) (vs := [(vi (b8.mk x0.a8 x0.fOp t8 r8).a8), (vi (b8.mk x0.a8 x0.fOp t8 r8).fOp), (Value.slice (b8.mk x0.a8 x0.fOp t8 r8).g8.a (b8.mk x0.a8 x0.fOp t8 r8).g8.n (b8.mk x0.a8 x0.fOp t8 r8).g8.c), (Value.slice (b8.mk x0.a8 x0.fOp t8 r8).q8.a (b8.mk x0.a8 x0.fOp t8 r8).q8.n (b8.mk x0.a8 x0.fOp t8 r8).q8.c)]) (nb rfl) rfl)) ?_
  refine m6 (I.bring 1) Tryd.sizeOf27 (vs := [(vi (b8.mk x0.a8 x0.fOp t8 r8).a8), (vi (b8.mk x0.a8 x0.fOp t8 r8).fOp), (Value.slice (b8.mk x0.a8 x0.fOp t8 r8).g8.a (b8.mk x0.a8 x0.fOp t8 r8).g8.n (b8.mk x0.a8 x0.fOp t8 r8).g8.c), (Value.slice (b8.mk x0.a8 x0.fOp t8 r8).q8.a (b8.mk x0.a8 x0.fOp t8 r8).q8.n (b8.mk x0.a8 x0.fOp t8 r8).q8.c)]) (cs' := [(vi (b8.mk x0.a8 x0.fOp t8 r8).a8), (vi (b8.mk x0.a8 x0.fOp t8 r8).fOp), (Value.slice (b8.mk x0.a8 x0.fOp t8 r8).g8.a (b8.mk x0.a8 x0.fOp t8 r8).g8.n (b8.mk x0.a8 x0.fOp t8 r8).g8.c), (Value.slice (b8.mk x0.a8 x0.fOp t8 r8).q8.a (b8.mk x0.a8 x0.fOp t8 r8).q8.n (b8.mk x0.a8 x0.fOp t8 r8).q8.c)]) rfl rfl (nb rfl) rfl rfl fun a6V f9b h1P => ?_
  refine K6 Tryd.isAgg27 Tryd.sizeOf27 rfl (f9b.at1 (o := 0) (vs := [(vi (b8.mk x0.a8 x0.fOp t8 r8).a8), (vi (b8.mk x0.a8 x0.fOp t8 r8).fOp), (Value.slice (b8.mk x0.a8 x0.fOp t8 r8).g8.a (b8.mk x0.a8 x0.fOp t8 r8).g8.n (b8.mk x0.a8 x0.fOp t8 r8).g8.c), (Value.slice (b8.mk x0.a8 x0.fOp t8 r8).q8.a (b8.mk x0.a8 x0.fOp t8 r8).q8.n (b8.mk x0.a8 x0.fOp t8 r8).q8.c)]) (nb rfl) rfl) ?_
  exact hR (b8.mk x0.a8 x0.fOp t8 r8) H _ f9b.drop.drop h
 refine A7 fun j1 hx1 => ?_
 refine a7 a0P ?_
 refine d6 (ld1 Tryd.isAgg3 (a3N.at1 (o := 0) (vs := [(vi x0.a8)]) (nb rfl) rfl)) ?_
 refine a7 (m9 _ _ _ _ _ _) ?_
 refine j7 (fun d5b => ?_) (fun d5b => ?_)
 ·replace h := h.1 d5b
  refine a7 a0Q ?_
  refine d6 (ld1 Tryd.isAgg22 (a3N.at1 (o := 2) (vs := [(vs t8)]) (nb rfl) rfl)) ?_
  obtain ⟨g6X, b7h, d4W, a3F, h⟩ := h
  obtain ⟨h1Q, h1R, a1v, a3F⟩ := a3F
  refine a7 (O0 a1v _ _ _ _ g6X b7h) ?_
  refine d6 (ldA (vs := (b6 d4W)) Tryd.isAgg24 Tryd.sizeOf24 rfl (a3N.atH a3F)) ?_
  refine f2 (cap := []) (fun args w => Tryd.call62 args w) ?_
  refine i8 (Fi := []) (Fr := [bx g_2 27 [(vi x0.a8), (vi x0.fOp), (vs t8), (vs r8)], bx g_7 27 [(vi 0), (vi 0), (nS), (nS)]]) a3N (h) (fun g6H a8l g6I b4y a8S V4 g6J e1s => ?_) (fun _ _ _ _ _ q => q.elim)
  obtain ⟨b7k, b1z, rfl, rfl, h⟩ := e1s
  refine a7 (o0 _ _ (vi b7k) rfl) ?_
  refine a7 (o0 _ _ (vB b1z) rfl) ?_
  refine a7 a0Q ?_
  refine d6 (ld1 Tryd.isAgg22 (a8S.at1 (o := 2) (vs := [(vs t8)]) (nb rfl) rfl)) ?_
  obtain ⟨e0C, g6Y, d4X, e1C, h⟩ := h
  obtain ⟨h1S, h1T, g6Z, e1C⟩ := e1C
  refine a7 (O0 g6Z _ _ _ _ e0C g6Y) ?_
  refine d6 (ldA (vs := (b6 d4X)) Tryd.isAgg24 Tryd.sizeOf24 rfl (a8S.atH e1C)) ?_
  refine f2 (cap := []) (fun args w => Tryd.call62 args w) ?_
  refine i8 (Fi := []) (Fr := [bx g_2 27 [(vi x0.a8), (vi x0.fOp), (vs t8), (vs r8)], bx g_7 27 [(vi 0), (vi 0), (nS), (nS)]]) a8S (h) (fun g7a c2d g7b c1H d0m e1m g7c e1D => ?_) (fun _ _ _ _ _ q => q.elim)
  obtain ⟨b7m, c6M, rfl, rfl, h⟩ := e1D
  refine a7 (o0 _ _ (vi b7m) rfl) ?_
  refine a7 (o0 _ _ (vB c6M) rfl) ?_
  simp only [O5]
  refine a7 (A6 _ _) ?_
  refine u2 (fun e1E => ?_) (fun e1E => ?_)
  ·replace h := h.1 e1E
   refine a7 a7O ?_
   refine d6 (ld1 Tryd.isAgg3 (d0m.at1 (o := 1) (vs := [(vi x0.fOp)]) (nb rfl) rfl)) ?_
   refine f2 (cap := []) (fun args w => Tryd.call75 args w) ?_
   refine i8 (Fi := []) (Fr := [bx g_2 27 [(vi x0.a8), (vi x0.fOp), (vs t8), (vs r8)], bx g_7 27 [(vi 0), (vi 0), (nS), (nS)]]) d0m (h) (fun c5b a8G d9C Z1 b2s d9D d3b c1c => ?_) (fun _ _ _ _ _ q => q.elim)
   obtain ⟨a3C, rfl, rfl, h⟩ := c1c
   refine f2 (cap := []) (fun args w => Tryd.call74 args w) ?_
   refine i8 (Fi := []) (Fr := [bx g_2 27 [(vi x0.a8), (vi x0.fOp), (vs t8), (vs r8)], bx g_7 27 [(vi 0), (vi 0), (nS), (nS)]]) b2s (h) (fun c8v a5V f3C b6o b8H c5e d3c c8w => ?_) (fun _ _ _ _ _ q => q.elim)
   obtain ⟨a5u, rfl, rfl, h⟩ := c8w
   refine m6 (b8H.bring 1) Tryd.sizeOf27 (vs := (d5 a5u)) (cs' := (d5 a5u)) rfl rfl (nb rfl) rfl rfl fun f6M f9c h1U => ?_
   refine K6 Tryd.isAgg27 Tryd.sizeOf27 rfl (f9c.at1 (o := 0) (vs := (d5 a5u)) (nb rfl) rfl) ?_
   exact hR a5u a5V _ f9c.drop.drop h
  ·replace h := h.2 e1E
   exact hx1 _ _ (hj1 c2d _ ((d0m.bring 1).bring 1) h)
 ·replace h := h.2 d5b
  refine a7 (m9 _ _ _ _ _ _) ?_
  refine j7 (fun d5c => ?_) (fun d5c => ?_)
  ·replace h := h.1 d5c
   refine a7 a0h ?_
   refine d6 (ld1 Tryd.isAgg25 (a3N.at1 (o := 3) (vs := [(vs r8)]) (nb rfl) rfl)) ?_
   obtain ⟨c2a, g7d, b9i, d5d, h⟩ := h
   obtain ⟨h1V, h1W, g7e, d5d⟩ := d5d
   refine a7 (a3W g7e _ _ _ _ c2a g7d) ?_
   refine a7 a0P ?_
   refine d6 (ld1 (v := (vi b9i.a8)) Tryd.isAgg3 ((a3N.atH d5d).sub (k := 0) (n := 1) (nb rfl))) ?_
   refine a7 (m9 _ _ _ _ _ _) ?_
   simp only [O5]
   refine a7 (Pu.g fun hb => by have f4 := hb; simp only [p1 f4]; exact (m9 _ _ _ _ _ _)) ?_
   refine a7 (a5Z _ _) ?_
   refine u2 (fun b7n => ?_) (fun b7n => ?_)
   ·replace h := h.1 b7n
    refine a7 (m9 _ _ _ _ _ _) ?_
    refine f2 (cap := []) (fun args w => Tryd.call74 args w) ?_
    refine i8 (Fi := []) (Fr := [bx g_2 27 [(vi x0.a8), (vi x0.fOp), (vs t8), (vs r8)], bx g_7 27 [(vi 0), (vi 0), (nS), (nS)]]) a3N (h) (fun g9a d4Y g9b a4f g3c g9c g9d g3d => ?_) (fun _ _ _ _ _ q => q.elim)
    obtain ⟨b5J, rfl, rfl, h⟩ := g3d
    refine m6 (g3c.bring 1) Tryd.sizeOf27 (vs := (d5 b5J)) (cs' := (d5 b5J)) rfl rfl (nb rfl) rfl rfl fun b9F e3x g9e => ?_
    refine K6 Tryd.isAgg27 Tryd.sizeOf27 rfl (e3x.at1 (o := 0) (vs := (d5 b5J)) (nb rfl) rfl) ?_
    exact hR b5J d4Y _ e3x.drop.drop h
   ·replace h := h.2 b7n
    exact hx1 _ _ (hj1 a0F _ ((a3N.bring 1).bring 1) h)
  ·replace h := h.2 d5c
   refine a7 (m9 _ _ _ _ _ _) ?_
   refine j7 (fun d5e => ?_) (fun d5e => ?_)
   ·replace h := h.1 d5e
    refine d6 (ldA Tryd.isAgg27 Tryd.sizeOf27 rfl (a3N.at1 (o := 0) (vs := [(vi x0.a8), (vi x0.fOp), (vs t8), (vs r8)]) (nb rfl) rfl)) ?_
    refine f2 (cap := []) (fun args w => Tryd.call76 args w) ?_
    refine i8 (Fi := []) (Fr := [bx g_2 27 [(vi x0.a8), (vi x0.fOp), (vs t8), (vs r8)], bx g_7 27 [(vi 0), (vi 0), (nS), (nS)]]) a3N (h) (fun g9f d4Z g9g c3F g3e g9h g9i g3f => ?_) (fun _ _ _ _ _ q => q.elim)
    obtain ⟨b5K, rfl, rfl, h⟩ := g3f
    refine m6 (g3e.bring 1) Tryd.sizeOf27 (vs := (d5 b5K)) (cs' := (d5 b5K)) rfl rfl (nb rfl) rfl rfl fun g9j e3y g9k => ?_
    refine K6 Tryd.isAgg27 Tryd.sizeOf27 rfl (e3y.at1 (o := 0) (vs := (d5 b5K)) (nb rfl) rfl) ?_
    exact hR b5K d4Z _ e3y.drop.drop h
   ·replace h := h.2 d5e
    refine a7 (m9 _ _ _ _ _ _) ?_
    refine j7 (fun d5f => ?_) (fun d5f => ?_)
    ·replace h := h.1 d5f
     refine d6 (ldA Tryd.isAgg27 Tryd.sizeOf27 rfl (a3N.at1 (o := 0) (vs := [(vi x0.a8), (vi x0.fOp), (vs t8), (vs r8)]) (nb rfl) rfl)) ?_
     refine f2 (cap := []) (fun args w => Tryd.call76 args w) ?_
     refine i8 (Fi := []) (Fr := [bx g_2 27 [(vi x0.a8), (vi x0.fOp), (vs t8), (vs r8)], bx g_7 27 [(vi 0), (vi 0), (nS), (nS)]]) a3N (h) (fun g9l d5a g9m g9n g3g g9o g9p g3h => ?_) (fun _ _ _ _ _ q => q.elim)
     obtain ⟨b5L, rfl, rfl, h⟩ := g3h
     refine m6 (g3g.bring 1) Tryd.sizeOf27 (vs := (d5 b5L)) (cs' := (d5 b5L)) rfl rfl (nb rfl) rfl rfl fun g9q e3z g9r => ?_
     refine K6 Tryd.isAgg27 Tryd.sizeOf27 rfl (e3z.at1 (o := 0) (vs := (d5 b5L)) (nb rfl) rfl) ?_
     exact hR b5L d5a _ e3z.drop.drop h
    ·replace h := h.2 d5f
     exact hx1 _ _ (hj1 a0F _ ((a3N.bring 1).bring 1) h)
theorem b5M (x0 : b8) {H : Hp} {K : b8 → Hp → Prop} (h : a3b x0 H K) : a2S x0 H K := by
 intro w I
 refine f6T ?_
 refine b5a x0 I (fun r0 H' w' I' hk => ⟨H', _, I', r0, rfl, rfl, hk⟩) h
def a3d (x0 : b8) (H : Hp) (K : b8 → Int → Hp → Prop) : Prop :=
 a7r x0 H (fun (g5 : Int) (F3 : Hp) =>
 (¬ (g5 = 0) →
 K (b8.mk 0 0 (Sl.mk none 0 0) (Sl.mk none 0 0)) g5 F3) ∧
 (g5 = 0 →
 a2S x0 F3 (fun (a2v : b8) (a5i : Hp) =>
 K a2v 0 a5i)))
theorem b5b (x0 : b8) {K : b8 → Int → Hp → Prop} (I : Inv w0 ps0 H0 H [] w) (hR : ∀ (r0 : b8) (r1 : Int) (H' : Hp) (w' : World) (_ : Inv w0 ps0 H0 H' [] w') (_ : K r0 r1 H'), R (Value.tuple #[(Value.agg (d5 r0).toArray), (vi r1)]) w') (h : a3d x0 H K) : F13 (Value.agg (d5 x0).toArray) w R E := by
 unfold a3d at h
 unfold F13
 refine J3 I (cs := (d5 x0)) rfl fun g_2 w_3 I_4 k_5 => ?_
 refine y8 I_4 Tryd.zeroValue27 (cs := [(vi 0), (vi 0), (nS), (nS)]) rfl fun g_7 w_8 I_9 a7x => ?_
 refine d6 (ldA Tryd.isAgg27 Tryd.sizeOf27 rfl ((I_9.bring 1).at1 (o := 0) (vs := (d5 x0)) (nb rfl) rfl)) ?_
 refine f2 (cap := []) (fun args w => Tryd.call41 args w) ?_
 refine i8 (Fi := []) (Fr := [bx g_7 27 [(vi 0), (vi 0), (nS), (nS)], bx g_2 27 (d5 x0)]) I_9 (h) (fun a6Z F3 b2w o4 R8 a7B a7C a6s => ?_) (fun _ _ _ _ _ q => q.elim)
 obtain ⟨g5, rfl, rfl, h⟩ := a6s
 refine a7 (T0 _ _ _ _ _ _) ?_
 refine a0s (fun c2b => ?_) (fun c2b => ?_)
 ·replace h := h.1 c2b
  refine a7 (d6u ) ?_
  refine m6 R8 Tryd.sizeOf27 (vs := [(vi 0), (vi 0), (nS), (nS)]) (cs' := [(vi 0), (vi 0), (nS), (nS)]) rfl rfl (nb rfl) rfl rfl fun u1 a4D b8F => ?_
  refine K6 Tryd.isAgg27 Tryd.sizeOf27 rfl (a4D.at1 (o := 0) (vs := [(vi 0), (vi 0), (nS), (nS)]) (nb rfl) rfl) ?_
  exact hR (b8.mk 0 0 (Sl.mk none 0 0) (Sl.mk none 0 0)) g5 F3 _ a4D.drop.drop h
 ·replace h := h.2 c2b
  refine d6 (ldA Tryd.isAgg27 Tryd.sizeOf27 rfl ((R8.bring 1).at1 (o := 0) (vs := (d5 x0)) (nb rfl) rfl)) ?_
  refine f2 (cap := []) (fun args w => Tryd.call42 args w) ?_
  refine i8 (Fi := []) (Fr := [bx g_7 27 [(vi 0), (vi 0), (nS), (nS)], bx g_2 27 (d5 x0)]) R8 (h) (fun d9F a5i c8y y6 a5T d9G d2Y c1d => ?_) (fun _ _ _ _ _ q => q.elim)
  obtain ⟨a2v, rfl, rfl, h⟩ := c1d
  refine m6 a5T Tryd.sizeOf27 (vs := (d5 a2v)) (cs' := (d5 a2v)) rfl rfl (nb rfl) rfl rfl fun E2 a1u b8M => ?_
  refine K6 Tryd.isAgg27 Tryd.sizeOf27 rfl (a1u.at1 (o := 0) (vs := (d5 a2v)) (nb rfl) rfl) ?_
  exact hR a2v 0 a5i _ a1u.drop.drop h
theorem b5N (x0 : b8) {H : Hp} {K : b8 → Int → Hp → Prop} (h : a3d x0 H K) : a5Q x0 H K := by
 intro w I
 refine f5J ?_
 refine b5b x0 I (fun r0 r1 H' w' I' hk => ⟨H', _, I', r0, r1, rfl, rfl, hk⟩) h
def a0l (H : Hp) (K : Bool → Hp → Prop) : Prop :=
 R7 1 H (fun (K2 : b5) (H_1 : Hp) =>
 R7 2 H_1 (fun (J1 : b5) (a5h : Hp) =>
 ∀ (c2e : Sl) (b8T : Hp), Hle a5h b8T → SlH b8T 4 b6 c2e [K2, J1] → c2e.n ≤ c2e.c →
 ∀ (a3G : Sl) (R5 : Hp), Hle b8T R5 → SlH R5 4 b6 a3G [(b5.mk 6 0 ⟨#[]⟩ c2e), (b5.mk 2 0 ⟨#[120]⟩ (Sl.mk none 0 0))] → a3G.n ≤ a3G.c →
 a5O (b5.mk 8 0 ⟨#[]⟩ a3G) R5 (fun (g7 : b5) (a9B : Int) (a0r : Hp) =>
 R7 1 a0r (fun (b7m : b5) (c2d : Hp) =>
 R7 2 c2d (fun (a3C : b5) (a8G : Hp) =>
 ∀ (c5s : Sl) (b9k : Hp), Hle a8G b9k → SlH b9k 4 b6 c5s [b7m, a3C] → c5s.n ≤ c5s.c →
 a5Q (b8.mk 3 1 c5s (Sl.mk none 0 0)) b9k (fun (c0g : b8) (c0h : Int) (d0n : Hp) =>
 ∃ a6D : b5, (((((decide (a9B = 0)) && (decide (c0h = 0))) && (decide (g7.a8 = 8))) && (decide ((g7.m7.n : Int) = 2))) = true → (0 : Int) ≤ 0 ∧ (0 : Int) < g7.m7.n ∧ EltH d0n g7.m7 0 4 (b6 a6D)) ∧
 ∃ c3R : b5, ((((((decide (a9B = 0)) && (decide (c0h = 0))) && (decide (g7.a8 = 8))) && (decide ((g7.m7.n : Int) = 2))) && (decide (a6D.a8 = 1))) = true → (0 : Int) ≤ 0 ∧ (0 : Int) < g7.m7.n ∧ EltH d0n g7.m7 0 4 (b6 c3R)) ∧
 K (((((((decide (a9B = 0)) && (decide (c0h = 0))) && (decide (g7.a8 = 8))) && (decide ((g7.m7.n : Int) = 2))) && (decide (a6D.a8 = 1))) && (decide (c3R.o2 = 3))) && (decide (c0g.a8 = 1))) d0n))))))
theorem b0N {K : Bool → Hp → Prop} (I : Inv w0 ps0 H0 H [] w) (hR : ∀ (r0 : Bool) (H' : Hp) (w' : World) (_ : Inv w0 ps0 H0 H' [] w') (_ : K r0 H'), R (vB r0) w') (h : a0l H K) : F10 w R E := by
 unfold a0l at h
 unfold F10
 refine f2 (cap := []) (fun args w => Tryd.call36 args w) ?_
 refine i8 (Fi := []) (Fr := []) I (h) (fun v_5 H_1 F_6 w_2 I_3 l_8 k_4 q_7 => ?_) (fun _ _ _ _ _ q => q.elim)
 obtain ⟨K2, rfl, rfl, h⟩ := q_7
 refine f2 (cap := []) (fun args w => Tryd.call36 args w) ?_
 refine i8 (Fi := []) (Fr := []) I_3 (h) (fun c8o a5h f3B P9 C6 c1b b6m c8q => ?_) (fun _ _ _ _ _ q => q.elim)
 obtain ⟨J1, rfl, rfl, h⟩ := c8q
 refine a3h (e := 24) (c := b6) (xs := [K2, J1]) C6 (c4A _ _ _ _ _ _ _ _ _ _ _ _) rfl rfl a1q a1r (nb rfl) fun c2e b2v v8 c1K a5m c9c => ?_
 refine a7 (b0R _ _ _ _) ?_
 refine a7 (c6e _ _) ?_
 obtain ⟨b8T, b0g, c8N, a4d, c8C⟩ := Inv.freezeC a5m c1K (by decide)
 replace h := h c2e b8T c8N a4d c8C
 refine a3h (e := 24) (c := b6) (xs := [(b5.mk 6 0 ⟨#[]⟩ c2e), (b5.mk 2 0 ⟨#[120]⟩ (Sl.mk none 0 0))]) b0g (c4A _ _ _ _ _ _ _ _ _ _ _ _) rfl rfl a1q a1r (nb rfl) fun a3G a6Y E3 a5j a1x a9X => ?_
 refine a7 (b0R _ _ _ _) ?_
 obtain ⟨R5, g7f, d4n, b7h, a1v⟩ := Inv.freezeC a1x a5j (by decide)
 replace h := h a3G R5 d4n b7h a1v
 refine f2 (cap := []) (fun args w => Tryd.call11 args w) ?_
 refine i8 (Fi := []) (Fr := []) g7f (h) (fun d3o a0r d3p N8 b0Y d3q d3r b6P => ?_) (fun _ _ _ _ _ q => q.elim)
 obtain ⟨g7, a9B, rfl, rfl, h⟩ := b6P
 refine a7 (o0 _ _ _ rfl) ?_
 refine a7 (o0 _ _ (vi a9B) rfl) ?_
 refine y8 b0Y Tryd.zeroValue24 (cs := [(vi 0), (vi 0), (eS), (nS)]) rfl fun e1F W0 e1t g6K => ?_
 refine m6 e1t Tryd.sizeOf24 (vs := (b6 g7)) (cs' := (b6 g7)) rfl rfl (nb rfl) rfl rfl fun b6W b0j b8U => ?_
 refine f2 (cap := []) (fun args w => Tryd.call36 args w) ?_
 refine i8 (Fi := []) (Fr := [bx e1F 24 (b6 g7)]) b0j (h) (fun g7a c2d g7b c1H d0m e1m g7c e1D => ?_) (fun _ _ _ _ _ q => q.elim)
 obtain ⟨b7m, rfl, rfl, h⟩ := e1D
 refine f2 (cap := []) (fun args w => Tryd.call36 args w) ?_
 refine i8 (Fi := []) (Fr := [bx e1F 24 (b6 g7)]) d0m (h) (fun c5b a8G d9C Z1 b2s d9D d3b c1c => ?_) (fun _ _ _ _ _ q => q.elim)
 obtain ⟨a3C, rfl, rfl, h⟩ := c1c
 refine a3h (e := 24) (c := b6) (xs := [b7m, a3C]) b2s (c4A _ _ _ _ _ _ _ _ _ _ _ _) rfl rfl a1q a1r (nb rfl) fun c5s h1X f6J g7g g7h h1Y => ?_
 refine a7 (c2G _ _ _ _ _) ?_
 obtain ⟨b9k, g7i, g7j, g7k, g7l⟩ := Inv.freezeC g7h g7g (by decide)
 replace h := h c5s b9k g7j g7k g7l
 refine f2 (cap := []) (fun args w => Tryd.call13 args w) ?_
 refine i8 (Fi := []) (Fr := [bx e1F 24 (b6 g7)]) g7i (h) (fun h1Z d0n g7m d4j c5t f2f h2a g7n => ?_) (fun _ _ _ _ _ q => q.elim)
 obtain ⟨c0g, c0h, rfl, rfl, h⟩ := g7n
 refine a7 (o0 _ _ _ rfl) ?_
 refine a7 (o0 _ _ (vi c0h) rfl) ?_
 refine y8 c5t Tryd.zeroValue27 (cs := [(vi 0), (vi 0), (nS), (nS)]) rfl fun g9s e3d g3i g9t => ?_
 refine m6 g3i Tryd.sizeOf27 (vs := (d5 c0g)) (cs' := (d5 c0g)) rfl rfl (nb rfl) rfl rfl fun a4g a8B d5g => ?_
 refine a7 (m9 _ _ _ _ _ _) ?_
 simp only [O5]
 refine a7 (Pu.g fun hb => by have f4 := hb; simp only [p1 f4]; exact (m9 _ _ _ _ _ _)) ?_
 refine a7 (A6 _ _) ?_
 refine a7 (Pu.g fun hb => by have f4 := hb; exact V7) ?_
 refine d6 (Ld.g fun hb => by have f4 := hb; simp only [p1 f4]; exact (ld1 Tryd.isAgg3 ((a8B.bring 1).at1 (o := 0) (vs := [(vi g7.a8)]) (nb rfl) rfl))) ?_
 refine a7 (Pu.g fun hb => by have f4 := hb; simp only [p1 f4]; exact (m9 _ _ _ _ _ _)) ?_
 refine a7 (A6 _ _) ?_
 refine a7 (Pu.g fun hb => by have f4 := hb; exact J5) ?_
 refine d6 (Ld.g fun hb => by have f4 := hb; simp only [p1 f4]; exact (ld1 Tryd.isAgg22 ((a8B.bring 1).at1 (o := 3) (vs := [(vs g7.m7)]) (nb rfl) rfl))) ?_
 refine a7 (Pu.g fun hb => by have f4 := hb; simp only [p1 f4]; exact (Z3 _ _ _)) ?_
 refine a7 (Pu.g fun hb => by have f4 := hb; simp only [p1 f4]; exact (m9 _ _ _ _ _ _)) ?_
 refine a7 (A6 _ _) ?_
 refine a7 (Pu.g fun hb => by have f4 := hb; exact J5) ?_
 refine d6 (Ld.g fun hb => by have f4 := hb; simp only [p1 f4]; exact (ld1 Tryd.isAgg22 ((a8B.bring 1).at1 (o := 3) (vs := [(vs g7.m7)]) (nb rfl) rfl))) ?_
 obtain ⟨a6D, b0y, h⟩ := h
 obtain ⟨g2R, g2S, b0y⟩ := c2D b0y
 refine a7 (Pu.g fun hb => by have f4 := hb; simp only [p1 f4]; exact (O0 (b0y hb).2.2.1 _ _ _ _ (b0y hb).1 (b0y hb).2.1)) ?_
 refine a7 (Pu.g fun hb => by have f4 := hb; simp only [p1 f4]; exact V7) ?_
 refine d6 (Ld.g fun hb => by have f4 := hb; simp only [p1 f4]; exact (ld1 (v := (vi a6D.a8)) Tryd.isAgg3 ((a8B.atH (b0y hb).2.2.2).sub (k := 0) (n := 1) (nb rfl)))) ?_
 refine a7 (Pu.g fun hb => by have f4 := hb; simp only [p1 f4]; exact (m9 _ _ _ _ _ _)) ?_
 refine a7 (A6 _ _) ?_
 refine a7 (Pu.g fun hb => by have f4 := hb; exact J5) ?_
 refine d6 (Ld.g fun hb => by have f4 := hb; simp only [p1 f4]; exact (ld1 Tryd.isAgg22 ((a8B.bring 1).at1 (o := 3) (vs := [(vs g7.m7)]) (nb rfl) rfl))) ?_
 obtain ⟨c3R, c0i, h⟩ := h
 obtain ⟨g9u, g9v, c0i⟩ := c2D c0i
 refine a7 (Pu.g fun hb => by have f4 := hb; simp only [p1 f4]; exact (O0 (c0i hb).2.2.1 _ _ _ _ (c0i hb).1 (c0i hb).2.1)) ?_
 refine a7 (Pu.g fun hb => by have f4 := hb; simp only [p1 f4]; exact a6b) ?_
 refine d6 (Ld.g fun hb => by have f4 := hb; simp only [p1 f4]; exact (ld1 (v := (vi c3R.o2)) Tryd.isAgg2 ((a8B.atH (c0i hb).2.2.2).sub (k := 1) (n := 1) (nb rfl)))) ?_
 refine a7 (Pu.g fun hb => by have f4 := hb; simp only [p1 f4]; exact (m9 _ _ _ _ _ _)) ?_
 refine a7 (A6 _ _) ?_
 refine a7 (Pu.g fun hb => by have f4 := hb; exact a0P) ?_
 refine d6 (Ld.g fun hb => by have f4 := hb; simp only [p1 f4]; exact (ld1 Tryd.isAgg3 (a8B.at1 (o := 0) (vs := [(vi c0g.a8)]) (nb rfl) rfl))) ?_
 refine a7 (Pu.g fun hb => by have f4 := hb; simp only [p1 f4]; exact (m9 _ _ _ _ _ _)) ?_
 refine a7 (A6 _ _) ?_
 exact hR (((((((decide (a9B = 0)) && (decide (c0h = 0))) && (decide (g7.a8 = 8))) && (decide ((g7.m7.n : Int) = 2))) && (decide (a6D.a8 = 1))) && (decide (c3R.o2 = 3))) && (decide (c0g.a8 = 1))) d0n _ a8B.drop.drop h
theorem b1d {H : Hp} {K : Bool → Hp → Prop} (h : a0l H K) : a3o H K := by
 intro w I
 refine f5F ?_
 refine b0N I (fun r0 H' w' I' hk => ⟨H', _, I', r0, rfl, rfl, hk⟩) h
def a1M (x0 : Int) (x1 : b9) (H : Hp) (K : Bool → Hp → Prop) : Prop :=
 ∃ x_1 : b8, ((decide (0 < (x1.o9.n : Int))) = true → (0 : Int) ≤ 0 ∧ (0 : Int) < x1.o9.n ∧ EltH H x1.o9 0 4 (d5 x_1)) ∧
 K ((decide (0 < (x1.o9.n : Int))) && (decide (x_1.a8 = x0))) H
theorem b3j (x0 : Int) (x1 : b9) (g1 : Nat) {K : Bool → Hp → Prop} (I : Inv w0 ps0 H0 H [bx g1 63 (d8 x1)] w) (hR : ∀ (r0 : Bool) (H' : Hp) (w' : World) (_ : Inv w0 ps0 H0 H' [bx g1 63 (d8 x1)] w') (_ : K r0 H'), R (vB r0) w') (h : a1M x0 x1 H K) : d4o (vi x0) (Value.pointer (some ⟨g1, 0, none⟩)) w R E := by
 unfold a1M at h
 unfold d4o
 refine a7 a0S ?_
 refine d6 (ld1 Tryd.isAgg25 (I.at1 (o := 3) (vs := [(vs x1.o9)]) (nb rfl) rfl)) ?_
 refine a7 (a2H _ _ _) ?_
 refine a7 (a7h _ _ _ _ _ _) ?_
 refine a7 (Pu.g fun hb => by have f4 := hb; exact a0S) ?_
 refine d6 (Ld.g fun hb => by have f4 := hb; simp only [p1 f4]; exact (ld1 Tryd.isAgg25 (I.at1 (o := 3) (vs := [(vs x1.o9)]) (nb rfl) rfl))) ?_
 obtain ⟨x_1, h_7, h⟩ := h
 obtain ⟨g_2, o_3, h_7⟩ := c2D h_7
 refine a7 (Pu.g fun hb => by have f4 := hb; simp only [p1 f4]; exact (a3W (h_7 hb).2.2.1 _ _ _ _ (h_7 hb).1 (h_7 hb).2.1)) ?_
 refine a7 (Pu.g fun hb => by have f4 := hb; simp only [p1 f4]; exact a0P) ?_
 refine d6 (Ld.g fun hb => by have f4 := hb; simp only [p1 f4]; exact (ld1 (v := (vi x_1.a8)) Tryd.isAgg3 ((I.atH (h_7 hb).2.2.2).sub (k := 0) (n := 1) (nb rfl)))) ?_
 simp only [O5]
 refine a7 (Pu.g fun hb => by have f4 := hb; simp only [p1 f4]; exact (m9 _ _ _ _ _ _)) ?_
 refine a7 (A6 _ _) ?_
 exact hR ((decide (0 < (x1.o9.n : Int))) && (decide (x_1.a8 = x0))) H _ I h
theorem b3J (x0 : Int) (x1 : b9) {H : Hp} {K : Bool → Hp → Prop} (h : a1M x0 x1 H K) : K8 x0 x1 H K := by
 intro g1 w I
 refine e7D ?_
 refine b3j x0 x1 g1 I (fun r0 H' w' I' hk => ⟨H', _, I', r0, rfl, rfl, hk⟩) h
def G2 (c0j : Bool) (u0 : b9) (H : Hp) (K : Sl → Hp → Prop) : Prop :=
 (c0j = true →
 K (Sl.mk none 0 0) H) ∧
 (c0j = false →
 TG ((decide (u0.a8 = 3)) = true) (K8 1 u0 H) false H (fun (a6E : Bool) (a7e : Hp) =>
 (((decide (u0.a8 = 3)) && a6E) = true →
 K u0.v6 a7e) ∧
 (((decide (u0.a8 = 3)) && a6E) = false →
 TG ((decide (u0.a8 = 3)) = true) (K8 2 u0 a7e) false a7e (fun (a4t : Bool) (a7H : Hp) =>
 (((decide (u0.a8 = 3)) && a4t) = true →
 K u0.t7 a7H) ∧
 (((decide (u0.a8 = 3)) && a4t) = false →
 ∀ (a7I : Sl) (a9F : Hp), Hle a7H a9F → SlH a9F 6 d8 a7I [u0] → a7I.n ≤ a7I.c →
 K a7I a9F)))))
def a3e (x0 : b9) (H : Hp) (K : Sl → Hp → Prop) : Prop :=
 C2 x0.o9 H (fun (i5 : Sl) (H_8 : Hp) =>
 z2 x0.g8 H_8 (fun (i6 : Sl) (a7a : Hp) =>
 U8 x0.v6 a7a (fun (i7 : Sl) (a7c : Hp) =>
 U8 x0.t7 a7c (fun (g7 : Sl) (a0r : Hp) =>
 (x0.a8 = 7 →
 G2 (decide (x0.a8 = 7)) (b9.mk x0.a8 x0.b7 i6 i5 i7 g7) a0r K) ∧
 (¬ (x0.a8 = 7) →
 TG ((decide (x0.a8 = 6)) = true) (K8 1 (b9.mk x0.a8 x0.b7 i6 i5 i7 g7) a0r) false a0r (fun (a6S : Bool) (a8T : Hp) =>
 (((decide (x0.a8 = 6)) && a6S) = true →
 G2 ((decide (x0.a8 = 6)) && a6S) (b9.mk x0.a8 x0.b7 i6 i5 i7 g7) a8T K) ∧
 (((decide (x0.a8 = 6)) && a6S) = false →
 TG ((decide (x0.a8 = 4)) = true) (K8 2 (b9.mk x0.a8 x0.b7 i6 i5 i7 g7) a8T) false a8T (fun (a8u : Bool) (a9G : Hp) =>
 G2 ((decide (x0.a8 = 4)) && a8u) (b9.mk x0.a8 x0.b7 i6 i5 i7 g7) a9G K))))))))
theorem b5c (x0 : b9) {K : Sl → Hp → Prop} (I : Inv w0 ps0 H0 H [] w) (hR : ∀ (r0 : Sl) (H' : Hp) (w' : World) (_ : Inv w0 ps0 H0 H' [] w') (_ : K r0 H'), R (vs r0) w') (h : a3e x0 H K) : F86 (Value.agg (d8 x0).toArray) w R E := by
 unfold a3e at h
 unfold F86
 refine J3 I (cs := (d8 x0)) rfl fun g_2 w_3 I_4 k_5 => ?_
 refine a3v I_4 fun w_6 I_7 => ?_
 refine r9 a0S ?_
 refine r9 a3w ?_
 refine K0 (ld1 Tryd.isAgg25 (I_7.at1 (o := 3) (vs := [(vs x0.o9)]) (nb rfl) rfl)) ?_
 refine K0 (ld1 Tryd.isAgg22 (I_7.at1 (o := 2) (vs := [(vs x0.g8)]) (nb rfl) rfl)) ?_
 refine f2 (cap := []) (fun args w => Tryd.call73 args w) ?_
 refine i8 (Fi := []) (Fr := [bx g_2 63 (d8 x0)]) I_7 (h) (fun d9L H_8 d9M w_9 a9y c1j b4I c1k => ?_) (fun _ _ _ _ _ q => q.elim)
 obtain ⟨i5, rfl, rfl, h⟩ := c1k
 refine ⟨(b4I _ I_7.lt1 (Inv.a3s (Fi := []) I_7)), ?_⟩
 refine r9 a0S ?_
 refine f2 (cap := []) (fun args w => Tryd.call61 args w) ?_
 refine i8 (Fi := []) (Fr := [bx g_2 63 (d8 x0)]) a9y (h) (fun d9N a7a d9O v7 a9Z d9P c1l c1m => ?_) (fun _ _ _ _ _ q => q.elim)
 obtain ⟨i6, rfl, rfl, h⟩ := c1m
 refine m6 a9Z Tryd.sizeOf25 (vs := [(vs i5)]) (cs' := [(vi x0.a8), (Value.string x0.b7), (vs x0.g8), (vs i5), (vs x0.v6), (vs x0.t7)]) rfl rfl (nb rfl) rfl rfl fun z6 b0g c8Y => ?_
 refine r9 a3w ?_
 refine m6 b0g Tryd.sizeOf22 (vs := [(vs i6)]) (cs' := [(vi x0.a8), (Value.string x0.b7), (vs i6), (vs i5), (vs x0.v6), (vs x0.t7)]) rfl rfl (nb rfl) rfl rfl fun a7b S8 a8h => ?_
 refine a3v S8 fun E2 a1u => ?_
 refine r9 a2o ?_
 refine r9 a0T ?_
 refine K0 (ld1 Tryd.isAgg42 (a1u.at1 (o := 4) (vs := [(vs x0.v6)]) (nb rfl) rfl)) ?_
 refine K0 (ld1 Tryd.isAgg42 (a1u.at1 (o := 5) (vs := [(vs x0.t7)]) (nb rfl) rfl)) ?_
 refine f2 (cap := []) (fun args w => Tryd.call51 args w) ?_
 refine i8 (Fi := []) (Fr := [bx g_2 63 [(vi x0.a8), (Value.string x0.b7), (vs i6), (vs i5), (vs x0.v6), (vs x0.t7)]]) a1u (h) (fun f3O a7c f3P a9z a1x a5W a9X c8Z => ?_) (fun _ _ _ _ _ q => q.elim)
 obtain ⟨i7, rfl, rfl, h⟩ := c8Z
 refine ⟨(a9X _ a1u.lt1 (Inv.a3s (Fi := []) a1u)), ?_⟩
 refine r9 a2o ?_
 refine f2 (cap := []) (fun args w => Tryd.call51 args w) ?_
 refine i8 (Fi := []) (Fr := [bx g_2 63 [(vi x0.a8), (Value.string x0.b7), (vs i6), (vs i5), (vs x0.v6), (vs x0.t7)]]) a1x (h) (fun d3o a0r d3p N8 b0Y d3q d3r b6P => ?_) (fun _ _ _ _ _ q => q.elim)
 obtain ⟨g7, rfl, rfl, h⟩ := b6P
 refine m6 b0Y Tryd.sizeOf42 (vs := [(vs i7)]) (cs' := [(vi x0.a8), (Value.string x0.b7), (vs i6), (vs i5), (vs i7), (vs x0.t7)]) rfl rfl (nb rfl) rfl rfl fun R6 g7o h2b => ?_
 refine r9 a0T ?_
 refine m6 g7o Tryd.sizeOf42 (vs := [(vs g7)]) (cs' := [(vi x0.a8), (Value.string x0.b7), (vs i6), (vs i5), (vs i7), (vs g7)]) rfl rfl (nb rfl) rfl rfl fun c5h b8Q h2c => ?_
 refine a7 (b4q _ _ _) ?_
 have hj1 : ∀ (c0j : Bool) (H : Hp) (w : World) (_ : Inv w0 ps0 H0 H [bx g_2 63 [(vi (b9.mk x0.a8 x0.b7 i6 i5 i7 g7).a8), (Value.string (b9.mk x0.a8 x0.b7 i6 i5 i7 g7).b7), (Value.slice (b9.mk x0.a8 x0.b7 i6 i5 i7 g7).g8.a (b9.mk x0.a8 x0.b7 i6 i5 i7 g7).g8.n (b9.mk x0.a8 x0.b7 i6 i5 i7 g7).g8.c), (Value.slice (b9.mk x0.a8 x0.b7 i6 i5 i7 g7).o9.a (b9.mk x0.a8 x0.b7 i6 i5 i7 g7).o9.n (b9.mk x0.a8 x0.b7 i6 i5 i7 g7).o9.c), (Value.slice (b9.mk x0.a8 x0.b7 i6 i5 i7 g7).v6.a (b9.mk x0.a8 x0.b7 i6 i5 i7 g7).v6.n (b9.mk x0.a8 x0.b7 i6 i5 i7 g7).v6.c), (Value.slice (b9.mk x0.a8 x0.b7 i6 i5 i7 g7).t7.a (b9.mk x0.a8 x0.b7 i6 i5 i7 g7).t7.n (b9.mk x0.a8 x0.b7 i6 i5 i7 g7).t7.c)]] w) (_ : G2 c0j (b9.mk x0.a8 x0.b7 i6 i5 i7 g7) H K), c9Y (Value.pointer (some ⟨g_2, 0, none⟩)) (Value.func (.func 116) #[] #[(Value.pointer (some ⟨g_2, 0, none⟩))]) (vB c0j) w R E := by
  intro c0j H w I h
  unfold c9Y
  intro _
  unfold G2 at h
  refine u2 (fun c1F => ?_) (fun c1F => ?_)
  ·replace h := h.1 c1F
   exact hR (Sl.mk none 0 0) H _ I.drop h
  ·replace h := h.2 c1F
   refine a7 a0R ?_
   refine d6 (ld1 Tryd.isAgg3 (I.at1 (o := 0) (vs := [(vi (b9.mk x0.a8 x0.b7 i6 i5 i7 g7).a8)]) (nb rfl) rfl)) ?_
   refine a7 (m9 _ _ _ _ _ _) ?_
   simp only [O5]
   refine V6 (D := fun d5h b7e => ∃ (a6E : Bool) (a7e : Hp) , d5h = (gv (decide ((b9.mk x0.a8 x0.b7 i6 i5 i7 g7).a8 = 3)) true (vB a6E)) ∧ (Inv w0 ps0 H0 a7e [bx g_2 63 [(vi (b9.mk x0.a8 x0.b7 i6 i5 i7 g7).a8), (Value.string (b9.mk x0.a8 x0.b7 i6 i5 i7 g7).b7), (Value.slice (b9.mk x0.a8 x0.b7 i6 i5 i7 g7).g8.a (b9.mk x0.a8 x0.b7 i6 i5 i7 g7).g8.n (b9.mk x0.a8 x0.b7 i6 i5 i7 g7).g8.c), (Value.slice (b9.mk x0.a8 x0.b7 i6 i5 i7 g7).o9.a (b9.mk x0.a8 x0.b7 i6 i5 i7 g7).o9.n (b9.mk x0.a8 x0.b7 i6 i5 i7 g7).o9.c), (Value.slice (b9.mk x0.a8 x0.b7 i6 i5 i7 g7).v6.a (b9.mk x0.a8 x0.b7 i6 i5 i7 g7).v6.n (b9.mk x0.a8 x0.b7 i6 i5 i7 g7).v6.c), (Value.slice (b9.mk x0.a8 x0.b7 i6 i5 i7 g7).t7.a (b9.mk x0.a8 x0.b7 i6 i5 i7 g7).t7.n (b9.mk x0.a8 x0.b7 i6 i5 i7 g7).t7.c)]] b7e) ∧ (∀ i, i < w.heap.size → ¬ inF [bx g_2 63 [(vi (b9.mk x0.a8 x0.b7 i6 i5 i7 g7).a8), (Value.string (b9.mk x0.a8 x0.b7 i6 i5 i7 g7).b7), (Value.slice (b9.mk x0.a8 x0.b7 i6 i5 i7 g7).g8.a (b9.mk x0.a8 x0.b7 i6 i5 i7 g7).g8.n (b9.mk x0.a8 x0.b7 i6 i5 i7 g7).g8.c), (Value.slice (b9.mk x0.a8 x0.b7 i6 i5 i7 g7).o9.a (b9.mk x0.a8 x0.b7 i6 i5 i7 g7).o9.n (b9.mk x0.a8 x0.b7 i6 i5 i7 g7).o9.c), (Value.slice (b9.mk x0.a8 x0.b7 i6 i5 i7 g7).v6.a (b9.mk x0.a8 x0.b7 i6 i5 i7 g7).v6.n (b9.mk x0.a8 x0.b7 i6 i5 i7 g7).v6.c), (Value.slice (b9.mk x0.a8 x0.b7 i6 i5 i7 g7).t7.a (b9.mk x0.a8 x0.b7 i6 i5 i7 g7).t7.n (b9.mk x0.a8 x0.b7 i6 i5 i7 g7).t7.c)]] i → b7e.heap[i]? = w.heap[i]?) ∧ Hle H a7e ∧ ((((decide ((b9.mk x0.a8 x0.b7 i6 i5 i7 g7).a8 = 3)) && a6E) = true →
 K (b9.mk x0.a8 x0.b7 i6 i5 i7 g7).v6 a7e) ∧
 (((decide ((b9.mk x0.a8 x0.b7 i6 i5 i7 g7).a8 = 3)) && a6E) = false →
 TG ((decide ((b9.mk x0.a8 x0.b7 i6 i5 i7 g7).a8 = 3)) = true) (K8 2 (b9.mk x0.a8 x0.b7 i6 i5 i7 g7) a7e) false a7e (fun (a4t : Bool) (a7H : Hp) =>
 (((decide ((b9.mk x0.a8 x0.b7 i6 i5 i7 g7).a8 = 3)) && a4t) = true →
 K (b9.mk x0.a8 x0.b7 i6 i5 i7 g7).t7 a7H) ∧
 (((decide ((b9.mk x0.a8 x0.b7 i6 i5 i7 g7).a8 = 3)) && a4t) = false →
 ∀ (a7I : Sl) (a9F : Hp), Hle a7H a9F → SlH a9F 6 d8 a7I [(b9.mk x0.a8 x0.b7 i6 i5 i7 g7)] → a7I.n ≤ a7I.c →
 K a7I a9F))))) (fun c2f => ?_) (fun c2f => ?_) ?_
   ·replace h := h.1 c2f
    have f4 := c2f
    simp only [p1 f4]
    refine f2 (cap := [(Value.pointer (some ⟨g_2, 0, none⟩))]) (fun args w => Tryd.call116 args w) ?_
    refine i8 (Fi := [bx g_2 63 [(vi (b9.mk x0.a8 x0.b7 i6 i5 i7 g7).a8), (Value.string (b9.mk x0.a8 x0.b7 i6 i5 i7 g7).b7), (Value.slice (b9.mk x0.a8 x0.b7 i6 i5 i7 g7).g8.a (b9.mk x0.a8 x0.b7 i6 i5 i7 g7).g8.n (b9.mk x0.a8 x0.b7 i6 i5 i7 g7).g8.c), (Value.slice (b9.mk x0.a8 x0.b7 i6 i5 i7 g7).o9.a (b9.mk x0.a8 x0.b7 i6 i5 i7 g7).o9.n (b9.mk x0.a8 x0.b7 i6 i5 i7 g7).o9.c), (Value.slice (b9.mk x0.a8 x0.b7 i6 i5 i7 g7).v6.a (b9.mk x0.a8 x0.b7 i6 i5 i7 g7).v6.n (b9.mk x0.a8 x0.b7 i6 i5 i7 g7).v6.c), (Value.slice (b9.mk x0.a8 x0.b7 i6 i5 i7 g7).t7.a (b9.mk x0.a8 x0.b7 i6 i5 i7 g7).t7.n (b9.mk x0.a8 x0.b7 i6 i5 i7 g7).t7.c)]]) (Fr := []) I (h g_2) (fun d5h a7e g7p b7e b5d c2g e1G e1H => ?_) (fun _ _ _ _ _ q => q.elim)
    obtain ⟨a6E, rfl, rfl, h⟩ := e1H
    exact ⟨a6E, a7e, by rfl, b5d, e1G, c2g, h⟩
   ·exact ⟨false, H, by rw [a3g c2f], I, fun _ _ _ => rfl, Hle.refl _, h.2 c2f⟩
   ·clear h
    rintro d5h b7e ⟨a6E, a7e, rfl, b5d, e1G, c2g, h⟩
    refine a7 (A6 _ _) ?_
    refine u2 (fun c1x => ?_) (fun c1x => ?_)
    ·replace h := h.1 c1x
     refine a7 a2o ?_
     refine d6 (ld1 Tryd.isAgg42 (b5d.at1 (o := 4) (vs := [(Value.slice (b9.mk x0.a8 x0.b7 i6 i5 i7 g7).v6.a (b9.mk x0.a8 x0.b7 i6 i5 i7 g7).v6.n (b9.mk x0.a8 x0.b7 i6 i5 i7 g7).v6.c)]) (nb rfl) rfl)) ?_
     exact hR (b9.mk x0.a8 x0.b7 i6 i5 i7 g7).v6 a7e _ b5d.drop h
    ·replace h := h.2 c1x
     refine a7 a0R ?_
     refine d6 (ld1 Tryd.isAgg3 (b5d.at1 (o := 0) (vs := [(vi (b9.mk x0.a8 x0.b7 i6 i5 i7 g7).a8)]) (nb rfl) rfl)) ?_
     refine a7 (m9 _ _ _ _ _ _) ?_
     simp only [O5]
     refine V6 (D := fun d5i X7 => ∃ (a4t : Bool) (a7H : Hp) , d5i = (gv (decide ((b9.mk x0.a8 x0.b7 i6 i5 i7 g7).a8 = 3)) true (vB a4t)) ∧ (Inv w0 ps0 H0 a7H [bx g_2 63 [(vi (b9.mk x0.a8 x0.b7 i6 i5 i7 g7).a8), (Value.string (b9.mk x0.a8 x0.b7 i6 i5 i7 g7).b7), (Value.slice (b9.mk x0.a8 x0.b7 i6 i5 i7 g7).g8.a (b9.mk x0.a8 x0.b7 i6 i5 i7 g7).g8.n (b9.mk x0.a8 x0.b7 i6 i5 i7 g7).g8.c), (Value.slice (b9.mk x0.a8 x0.b7 i6 i5 i7 g7).o9.a (b9.mk x0.a8 x0.b7 i6 i5 i7 g7).o9.n (b9.mk x0.a8 x0.b7 i6 i5 i7 g7).o9.c), (Value.slice (b9.mk x0.a8 x0.b7 i6 i5 i7 g7).v6.a (b9.mk x0.a8 x0.b7 i6 i5 i7 g7).v6.n (b9.mk x0.a8 x0.b7 i6 i5 i7 g7).v6.c), (Value.slice (b9.mk x0.a8 x0.b7 i6 i5 i7 g7).t7.a (b9.mk x0.a8 x0.b7 i6 i5 i7 g7).t7.n (b9.mk x0.a8 x0.b7 i6 i5 i7 g7).t7.c)]] X7) ∧ (∀ i, i < b7e.heap.size → ¬ inF [bx g_2 63 [(vi (b9.mk x0.a8 x0.b7 i6 i5 i7 g7).a8), (Value.string (b9.mk x0.a8 x0.b7 i6 i5 i7 g7).b7), (Value.slice (b9.mk x0.a8 x0.b7 i6 i5 i7 g7).g8.a (b9.mk x0.a8 x0.b7 i6 i5 i7 g7).g8.n (b9.mk x0.a8 x0.b7 i6 i5 i7 g7).g8.c), (Value.slice (b9.mk x0.a8 x0.b7 i6 i5 i7 g7).o9.a (b9.mk x0.a8 x0.b7 i6 i5 i7 g7).o9.n (b9.mk x0.a8 x0.b7 i6 i5 i7 g7).o9.c), (Value.slice (b9.mk x0.a8 x0.b7 i6 i5 i7 g7).v6.a (b9.mk x0.a8 x0.b7 i6 i5 i7 g7).v6.n (b9.mk x0.a8 x0.b7 i6 i5 i7 g7).v6.c), (Value.slice (b9.mk x0.a8 x0.b7 i6 i5 i7 g7).t7.a (b9.mk x0.a8 x0.b7 i6 i5 i7 g7).t7.n (b9.mk x0.a8 x0.b7 i6 i5 i7 g7).t7.c)]] i → X7.heap[i]? = b7e.heap[i]?) ∧ Hle a7e a7H ∧ ((((decide ((b9.mk x0.a8 x0.b7 i6 i5 i7 g7).a8 = 3)) && a4t) = true →
 K (b9.mk x0.a8 x0.b7 i6 i5 i7 g7).t7 a7H) ∧
 (((decide ((b9.mk x0.a8 x0.b7 i6 i5 i7 g7).a8 = 3)) && a4t) = false →
 ∀ (a7I : Sl) (a9F : Hp), Hle a7H a9F → SlH a9F 6 d8 a7I [(b9.mk x0.a8 x0.b7 i6 i5 i7 g7)] → a7I.n ≤ a7I.c →
 K a7I a9F))) (fun d0o => ?_) (fun d0o => ?_) ?_
     ·replace h := h.1 d0o
      have f4 := d0o
      simp only [p1 f4]
      refine f2 (cap := [(Value.pointer (some ⟨g_2, 0, none⟩))]) (fun args w => Tryd.call116 args w) ?_
      refine i8 (Fi := [bx g_2 63 [(vi (b9.mk x0.a8 x0.b7 i6 i5 i7 g7).a8), (Value.string (b9.mk x0.a8 x0.b7 i6 i5 i7 g7).b7), (Value.slice (b9.mk x0.a8 x0.b7 i6 i5 i7 g7).g8.a (b9.mk x0.a8 x0.b7 i6 i5 i7 g7).g8.n (b9.mk x0.a8 x0.b7 i6 i5 i7 g7).g8.c), (Value.slice (b9.mk x0.a8 x0.b7 i6 i5 i7 g7).o9.a (b9.mk x0.a8 x0.b7 i6 i5 i7 g7).o9.n (b9.mk x0.a8 x0.b7 i6 i5 i7 g7).o9.c), (Value.slice (b9.mk x0.a8 x0.b7 i6 i5 i7 g7).v6.a (b9.mk x0.a8 x0.b7 i6 i5 i7 g7).v6.n (b9.mk x0.a8 x0.b7 i6 i5 i7 g7).v6.c), (Value.slice (b9.mk x0.a8 x0.b7 i6 i5 i7 g7).t7.a (b9.mk x0.a8 x0.b7 i6 i5 i7 g7).t7.n (b9.mk x0.a8 x0.b7 i6 i5 i7 g7).t7.c)]]) (Fr := []) b5d (h g_2) (fun d5i a7H g7q X7 b3i e1I d4V e1J => ?_) (fun _ _ _ _ _ q => q.elim)
      obtain ⟨a4t, rfl, rfl, h⟩ := e1J
      exact ⟨a4t, a7H, by rfl, b3i, d4V, e1I, h⟩
     ·exact ⟨false, a7e, by rw [a3g d0o], b5d, fun _ _ _ => rfl, Hle.refl _, h.2 d0o⟩
     ·clear h
      rintro d5i X7 ⟨a4t, a7H, rfl, b3i, d4V, e1I, h⟩
      refine a7 (A6 _ _) ?_
      refine u2 (fun c1A => ?_) (fun c1A => ?_)
      ·replace h := h.1 c1A
       refine a7 a0T ?_
       refine d6 (ld1 Tryd.isAgg42 (b3i.at1 (o := 5) (vs := [(Value.slice (b9.mk x0.a8 x0.b7 i6 i5 i7 g7).t7.a (b9.mk x0.a8 x0.b7 i6 i5 i7 g7).t7.n (b9.mk x0.a8 x0.b7 i6 i5 i7 g7).t7.c)]) (nb rfl) rfl)) ?_
       exact hR (b9.mk x0.a8 x0.b7 i6 i5 i7 g7).t7 a7H _ b3i.drop h
      ·replace h := h.2 c1A
       refine d6 (ldA Tryd.isAgg63 Tryd.sizeOf63 rfl (b3i.at1 (o := 0) (vs := [(vi (b9.mk x0.a8 x0.b7 i6 i5 i7 g7).a8), (Value.string (b9.mk x0.a8 x0.b7 i6 i5 i7 g7).b7), (Value.slice (b9.mk x0.a8 x0.b7 i6 i5 i7 g7).g8.a (b9.mk x0.a8 x0.b7 i6 i5 i7 g7).g8.n (b9.mk x0.a8 x0.b7 i6 i5 i7 g7).g8.c), (Value.slice (b9.mk x0.a8 x0.b7 i6 i5 i7 g7).o9.a (b9.mk x0.a8 x0.b7 i6 i5 i7 g7).o9.n (b9.mk x0.a8 x0.b7 i6 i5 i7 g7).o9.c), (Value.slice (b9.mk x0.a8 x0.b7 i6 i5 i7 g7).v6.a (b9.mk x0.a8 x0.b7 i6 i5 i7 g7).v6.n (b9.mk x0.a8 x0.b7 i6 i5 i7 g7).v6.c), (Value.slice (b9.mk x0.a8 x0.b7 i6 i5 i7 g7).t7.a (b9.mk x0.a8 x0.b7 i6 i5 i7 g7).t7.n (b9.mk x0.a8 x0.b7 i6 i5 i7 g7).t7.c)]) (nb rfl) rfl)) ?_
       refine a3h (e := 63) (c := d8) (xs := [(b9.mk x0.a8 x0.b7 i6 i5 i7 g7)]) b3i (d1A _ _ _ _ _ _ _ _ _ _ _ _ _ _) rfl rfl a6M a8y (nb rfl) fun a7I g7r b6o d4u g7s h2d => ?_
       obtain ⟨a9F, e1p, c5e, e1v, d0j⟩ := Inv.freezeC g7s d4u (by decide)
       replace h := h a7I a9F c5e e1v d0j
       exact hR a7I a9F _ e1p.drop h
 refine A7 fun j1 hx1 => ?_
 refine a7 a0R ?_
 refine d6 (ld1 Tryd.isAgg3 (b8Q.at1 (o := 0) (vs := [(vi x0.a8)]) (nb rfl) rfl)) ?_
 refine a7 (m9 _ _ _ _ _ _) ?_
 refine j7 (fun b7o => ?_) (fun b7o => ?_)
 ·replace h := h.1 b7o
  exact hx1 _ _ (hj1 (decide (x0.a8 = 7)) a0r _ b8Q h)
 ·replace h := h.2 b7o
  refine a7 a0R ?_
  refine d6 (ld1 Tryd.isAgg3 (b8Q.at1 (o := 0) (vs := [(vi x0.a8)]) (nb rfl) rfl)) ?_
  refine a7 (m9 _ _ _ _ _ _) ?_
  simp only [O5]
  refine V6 (D := fun e1K a1W => ∃ (a6S : Bool) (a8T : Hp) , e1K = (gv (decide (x0.a8 = 6)) true (vB a6S)) ∧ (Inv w0 ps0 H0 a8T [bx g_2 63 [(vi x0.a8), (Value.string x0.b7), (vs i6), (vs i5), (vs i7), (vs g7)]] a1W) ∧ (∀ i, i < c5h.heap.size → ¬ inF [bx g_2 63 [(vi x0.a8), (Value.string x0.b7), (vs i6), (vs i5), (vs i7), (vs g7)]] i → a1W.heap[i]? = c5h.heap[i]?) ∧ Hle a0r a8T ∧ ((((decide (x0.a8 = 6)) && a6S) = true →
 G2 ((decide (x0.a8 = 6)) && a6S) (b9.mk x0.a8 x0.b7 i6 i5 i7 g7) a8T K) ∧
 (((decide (x0.a8 = 6)) && a6S) = false →
 TG ((decide (x0.a8 = 4)) = true) (K8 2 (b9.mk x0.a8 x0.b7 i6 i5 i7 g7) a8T) false a8T (fun (a8u : Bool) (a9G : Hp) =>
 G2 ((decide (x0.a8 = 4)) && a8u) (b9.mk x0.a8 x0.b7 i6 i5 i7 g7) a9G K)))) (fun c3S => ?_) (fun c3S => ?_) ?_
  ·replace h := h.1 c3S
   have f4 := c3S
   simp only [p1 f4]
   refine f2 (cap := [(Value.pointer (some ⟨g_2, 0, none⟩))]) (fun args w => Tryd.call116 args w) ?_
   refine i8 (Fi := [bx g_2 63 [(vi x0.a8), (Value.string x0.b7), (vs i6), (vs i5), (vs i7), (vs g7)]]) (Fr := []) b8Q (h g_2) (fun e1K a8T h2e a1W c5u e3A f9d g7t => ?_) (fun _ _ _ _ _ q => q.elim)
   obtain ⟨a6S, rfl, rfl, h⟩ := g7t
   exact ⟨a6S, a8T, by rfl, c5u, f9d, e3A, h⟩
  ·exact ⟨false, a0r, by rw [a3g c3S], b8Q, fun _ _ _ => rfl, Hle.refl _, h.2 c3S⟩
  ·clear h
   rintro e1K a1W ⟨a6S, a8T, rfl, c5u, f9d, e3A, h⟩
   refine a7 (A6 _ _) ?_
   refine u2 (fun d5j => ?_) (fun d5j => ?_)
   ·replace h := h.1 d5j
    exact hx1 _ _ (hj1 ((decide (x0.a8 = 6)) && a6S) a8T _ c5u h)
   ·replace h := h.2 d5j
    refine a7 a0R ?_
    refine d6 (ld1 Tryd.isAgg3 (c5u.at1 (o := 0) (vs := [(vi x0.a8)]) (nb rfl) rfl)) ?_
    refine a7 (m9 _ _ _ _ _ _) ?_
    simp only [O5]
    refine V6 (D := fun d5k b1u => ∃ (a8u : Bool) (a9G : Hp) , d5k = (gv (decide (x0.a8 = 4)) true (vB a8u)) ∧ (Inv w0 ps0 H0 a9G [bx g_2 63 [(vi x0.a8), (Value.string x0.b7), (vs i6), (vs i5), (vs i7), (vs g7)]] b1u) ∧ (∀ i, i < a1W.heap.size → ¬ inF [bx g_2 63 [(vi x0.a8), (Value.string x0.b7), (vs i6), (vs i5), (vs i7), (vs g7)]] i → b1u.heap[i]? = a1W.heap[i]?) ∧ Hle a8T a9G ∧ (G2 ((decide (x0.a8 = 4)) && a8u) (b9.mk x0.a8 x0.b7 i6 i5 i7 g7) a9G K)) (fun c3T => ?_) (fun c3T => ?_) ?_
    ·replace h := h.1 c3T
     have f4 := c3T
     simp only [p1 f4]
     refine f2 (cap := [(Value.pointer (some ⟨g_2, 0, none⟩))]) (fun args w => Tryd.call116 args w) ?_
     refine i8 (Fi := [bx g_2 63 [(vi x0.a8), (Value.string x0.b7), (vs i6), (vs i5), (vs i7), (vs g7)]]) (Fr := []) c5u (h g_2) (fun d5k a9G g9w b1u c3U e3B d5l g3j => ?_) (fun _ _ _ _ _ q => q.elim)
     obtain ⟨a8u, rfl, rfl, h⟩ := g3j
     exact ⟨a8u, a9G, by rfl, c3U, d5l, e3B, h⟩
    ·exact ⟨false, a8T, by rw [a3g c3T], c5u, fun _ _ _ => rfl, Hle.refl _, h.2 c3T⟩
    ·clear h
     rintro d5k b1u ⟨a8u, a9G, rfl, c3U, d5l, e3B, h⟩
     refine a7 (A6 _ _) ?_
     exact hx1 _ _ (hj1 ((decide (x0.a8 = 4)) && a8u) a9G _ c3U h)
theorem b5O (x0 : b9) {H : Hp} {K : Sl → Hp → Prop} (h : a3e x0 H K) : a5R x0 H K := by
 intro w I
 refine f8K ?_
 refine b5c x0 I (fun r0 H' w' I' hk => ⟨H', _, I', r0, rfl, rfl, hk⟩) h
def a0y (c3V : (List b9)) (H : Hp) (K : Sl → Hp → Prop) : Prop :=
 ∀ (b0z : Sl) (a7c : Hp), Hle H a7c → SlH a7c 6 d8 b0z c3V → b0z.n ≤ b0z.c →
 K b0z a7c
def a0z (f9e : Sl) (a7d : Int) (a6F : (List b9)) (K4 : Int) (H : Hp) (n2 : ((List b9) × Int) → Hp → Prop) (K : Sl → Hp → Prop) : Prop :=
 (K4 < a7d →
 (0 : Int) ≤ K4 ∧ (K4 : Int) < f9e.n ∧ ∃ x_1 : b9, EltH H f9e K4 6 (d8 x_1) ∧
 a5R x_1 H (fun (B3 : Sl) (M5 : Hp) =>
 ∃ c3W : List b9, SlH M5 6 d8 B3 c3W ∧ (a6F.length + c3W.length) * 121 ≤ 140737488355328 ∧
 n2 ((a6F ++ c3W), (IntKind.wrap .i64 (K4 + 1))) M5)) ∧
 (¬ (K4 < a7d) →
 a0y a6F H K)
def a2C (x0 : Sl) (H : Hp) (K : Sl → Hp → Prop) : Prop :=
 TL (([], 0) : (List b9) × Int) H fun (s : (List b9) × Int) H n2 => a0z x0 (x0.n : Int) s.1 s.2 H n2 K
theorem b3K (x0 : Sl) {K : Sl → Hp → Prop} (I : Inv w0 ps0 H0 H [] w) (hR : ∀ (r0 : Sl) (H' : Hp) (w' : World) (_ : Inv w0 ps0 H0 H' [] w') (_ : K r0 H'), R (vs r0) w') (h : a2C x0 H K) : F51 (vs x0) w R E := by
 unfold a2C at h
 unfold F51
 have hj1 : ∀ (c3V : (List b9)) (b0z : Sl) (Fs3j1 : Frag) (H : Hp) (w : World) (_ : RowL 63 6 d8 b0z c3V Fs3j1) (_ : Inv w0 ps0 H0 H [Fs3j1] w) (_ : a0y c3V H K), c9R (vs b0z) w R E := by
  intro c3V b0z Fs3j1 H w g3k I h
  unfold c9R
  intro _
  unfold a0y at h
  obtain ⟨a7c, a3N, c1f, c8D, a5l⟩ := Inv.freezeC I g3k (by decide)
  replace h := h b0z a7c c1f c8D a5l
  exact hR b0z a7c _ a3N h
 refine A7 fun j1 hx1 => ?_
 refine a7 (a3O _ _ _) ?_
 obtain ⟨e1L, d0p, g7u, g7v⟩ := h
 refine M9 (J := fun n l w => ∃ (s : (List b9) × Int) (H : Hp) (c3X : Sl) (Fs3l2 : Frag) , n = d0p s ∧ l = (match s with | (a6F, K4) => [(vs c3X), (vi K4)]) ∧ (match s with | (a6F, K4) => RowL 63 6 d8 c3X a6F Fs3l2) ∧ (match s with | (a6F, K4) => Inv w0 ps0 H0 H [Fs3l2] w) ∧ e1L s H) ⟨_, ([], 0), H, (Sl.mk none 0 0), [], rfl, rfl, (RowL.nil a6M a8y), I.nil, g7u⟩ ?_
 rintro h2f τ_45 w next2 ⟨⟨a6F, K4⟩, H, c3X, Fs3l2, rfl, d5m, d5n, I, g7w⟩ hn2
 dsimp only at d5m I d5n
 simp only [List.map_cons, List.map_nil, List.cons.injEq, and_true] at d5m
 obtain ⟨e3, e8⟩ := d5m
 simp only [e3, e8]
 obtain ⟨n2, hm2, h⟩ : ∃ n2 : ((List b9) × Int) → Hp → Prop, (∀ s' H', n2 s' H' → e1L s' H' ∧ d0p s' < d0p (a6F, K4)) ∧ a0z x0 (x0.n : Int) a6F K4 H n2 K := ⟨_, fun _ _ h => h, g7v (a6F, K4) H (fun s' H' => e1L s' H' ∧ d0p s' < d0p (a6F, K4)) g7w (fun _ _ a b => ⟨a, b⟩)⟩
 unfold d7R
 unfold a0z at h
 refine a7 (F4 _ _ _ _ _ _) ?_
 refine j7 (fun e1M => ?_) (fun e1M => ?_)
 ·replace h := h.1 e1M
  obtain ⟨h_4, h_5, x_1, h_7, h⟩ := h
  obtain ⟨g_2, o_3, h_6, h_7⟩ := h_7
  refine a7 (a9K h_6 _ _ _ _ h_4 h_5) ?_
  refine d6 (ldA (vs := (d8 x_1)) Tryd.isAgg63 Tryd.sizeOf63 rfl (I.atH h_7)) ?_
  refine y8 I Tryd.zeroValue63 (cs := [(vi 0), (eS), (nS), (nS), (nS), (nS)]) rfl fun g_9 o7 V5 a7A => ?_
  refine m6 V5 Tryd.sizeOf63 (vs := (d8 x_1)) (cs' := (d8 x_1)) rfl rfl (nb rfl) rfl rfl fun V0 J6 a1w => ?_
  refine d6 (ldA Tryd.isAgg63 Tryd.sizeOf63 rfl (J6.at1 (o := 0) (vs := (d8 x_1)) (nb rfl) rfl)) ?_
  refine f2 (cap := []) (fun args w => Tryd.call86 args w) ?_
  refine i8 (Fi := []) (Fr := [bx g_9 63 (d8 x_1), Fs3l2]) J6 (h) (fun b4E M5 b2v Y8 a0E b4F b4G a5k => ?_) (fun _ _ _ _ _ q => q.elim)
  obtain ⟨B3, rfl, rfl, h⟩ := a5k
  obtain ⟨c3W, g7x, h⟩ := h
  obtain ⟨g7y, h⟩ := h
  refine d6y (s := c3X) (xs := a6F) (a0E.bring 1) d5n (SlH.src (a0E.bring 1) g7x a6M) g7y fun g7z g7A a3z e1f a8j d3f => ?_
  refine a7 (K3 _ _ _ _ _ _) ?_
  exact hn2 _ _ _ (hm2 _ _ h).2 ⟨((a6F ++ c3W), (IntKind.wrap .i64 (K4 + 1))), M5, g7z, g7A, rfl, rfl, e1f, (a8j.bring 1).drop, (hm2 _ _ h).1⟩
 ·replace h := h.2 e1M
  exact hx1 _ _ (hj1 a6F c3X Fs3l2 H _ d5n I h)
theorem b5e (x0 : Sl) {H : Hp} {K : Sl → Hp → Prop} (h : a2C x0 H K) : U8 x0 H K := by
 intro w I
 refine f6V ?_
 refine b3K x0 I (fun r0 H' w' I' hk => ⟨H', _, I', r0, rfl, rfl, hk⟩) h
def a3f (x0 : j6) (H : Hp) (K : j6 → Int → Hp → Prop) : Prop :=
 a7s x0 H (fun (g5 : j6) (c0k : Int) (F3 : Hp) =>
 (¬ (c0k = 0) →
 K (j6.mk (Sl.mk none 0 0) (Sl.mk none 0 0)) c0k F3) ∧
 (c0k = 0 →
 U8 g5.a1y F3 (fun (N7 : Sl) (a0e : Hp) =>
 K (j6.mk g5.T9 N7) 0 a0e)))
theorem b5f (x0 : j6) {K : j6 → Int → Hp → Prop} (I : Inv w0 ps0 H0 H [] w) (hR : ∀ (r0 : j6) (r1 : Int) (H' : Hp) (w' : World) (_ : Inv w0 ps0 H0 H' [] w') (_ : K r0 r1 H'), R (Value.tuple #[(Value.agg (f5 r0).toArray), (vi r1)]) w') (h : a3f x0 H K) : F31 (Value.agg (f5 x0).toArray) w R E := by
 unfold a3f at h
 unfold F31
 refine J3 I (cs := (f5 x0)) rfl fun g_2 w_3 I_4 k_5 => ?_
 refine y8 I_4 Tryd.zeroValue44 (cs := [(nS), (nS)]) rfl fun g_7 w_8 I_9 a7x => ?_
 refine d6 (ldA Tryd.isAgg44 Tryd.sizeOf44 rfl ((I_9.bring 1).at1 (o := 0) (vs := (f5 x0)) (nb rfl) rfl)) ?_
 refine f2 (cap := []) (fun args w => Tryd.call50 args w) ?_
 refine i8 (Fi := []) (Fr := [bx g_7 44 [(nS), (nS)], bx g_2 44 (f5 x0)]) I_9 (h) (fun a6Z F3 b2w o4 R8 a7B a7C a6s => ?_) (fun _ _ _ _ _ q => q.elim)
 obtain ⟨g5, c0k, rfl, rfl, h⟩ := a6s
 refine a7 (o0 _ _ _ rfl) ?_
 refine a7 (o0 _ _ (vi c0k) rfl) ?_
 refine y8 R8 Tryd.zeroValue44 (cs := [(nS), (nS)]) rfl fun f8X v8 e1N g7B => ?_
 refine m6 e1N Tryd.sizeOf44 (vs := (f5 g5)) (cs' := (f5 g5)) rfl rfl (nb rfl) rfl rfl fun b2k b6E d9S => ?_
 refine a7 (T0 _ _ _ _ _ _) ?_
 refine a0s (fun c2h => ?_) (fun c2h => ?_)
 ·replace h := h.1 c2h
  refine a7 (c5J ) ?_
  refine m6 (b6E.bring 1) Tryd.sizeOf44 (vs := [(nS), (nS)]) (cs' := [(nS), (nS)]) rfl rfl (nb rfl) rfl rfl fun E5 a8j d3f => ?_
  refine K6 Tryd.isAgg44 Tryd.sizeOf44 rfl (a8j.at1 (o := 0) (vs := [(nS), (nS)]) (nb rfl) rfl) ?_
  exact hR (j6.mk (Sl.mk none 0 0) (Sl.mk none 0 0)) c0k F3 _ a8j.drop.drop.drop h
 ·replace h := h.2 c2h
  refine a7 a6c ?_
  refine d6 (ld1 Tryd.isAgg42 (b6E.at1 (o := 1) (vs := [(vs g5.a1y)]) (nb rfl) rfl)) ?_
  refine f2 (cap := []) (fun args w => Tryd.call51 args w) ?_
  refine i8 (Fi := []) (Fr := [bx f8X 44 (f5 g5), bx g_7 44 [(nS), (nS)], bx g_2 44 (f5 x0)]) b6E (h) (fun c1o a0e d3g E2 a1u c5f b8M b6F => ?_) (fun _ _ _ _ _ q => q.elim)
  obtain ⟨N7, rfl, rfl, h⟩ := b6F
  refine a7 a6c ?_
  refine m6 a1u Tryd.sizeOf42 (vs := [(vs N7)]) (cs' := [(vs g5.T9), (vs N7)]) rfl rfl (nb rfl) rfl rfl fun L9 b2u c8z => ?_
  refine d6 (ldA Tryd.isAgg44 Tryd.sizeOf44 rfl (b2u.at1 (o := 0) (vs := [(vs g5.T9), (vs N7)]) (nb rfl) rfl)) ?_
  refine m6 (b2u.bring 1) Tryd.sizeOf44 (vs := [(vs g5.T9), (vs N7)]) (cs' := [(vs g5.T9), (vs N7)]) rfl rfl (nb rfl) rfl rfl fun b6j b4Z e1y => ?_
  refine K6 Tryd.isAgg44 Tryd.sizeOf44 rfl (b4Z.at1 (o := 0) (vs := [(vs g5.T9), (vs N7)]) (nb rfl) rfl) ?_
  exact hR (j6.mk g5.T9 N7) 0 a0e _ b4Z.drop.drop.drop h
theorem b5P (x0 : j6) {H : Hp} {K : j6 → Int → Hp → Prop} (h : a3f x0 H K) : a2T x0 H K := by
 intro w I
 refine f5O ?_
 refine b5f x0 I (fun r0 r1 H' w' I' hk => ⟨H', _, I', r0, r1, rfl, rfl, hk⟩) h
def T7 (x0 : j6) (H : Hp) (K : Bool → Hp → Prop) : Prop :=
 a3o H (fun (D5 : Bool) (H_6 : Hp) =>
 ((!D5) = true →
 K false H_6) ∧
 ((!D5) = false →
 a2T x0 H_6 (fun (Z7 : j6) (b1A : Int) (b7p : Hp) =>
 (¬ (b1A = 0) →
 K true b7p) ∧
 (b1A = 0 →
 a2T Z7 b7p (fun (a2Y : j6) (b7q : Int) (a9V : Hp) =>
 a4i x0 a9V (fun (c3Y : Int) (e3C : Int) (f9f : Hp) =>
 a4i Z7 f9f (fun (a6E : Int) (e3D : Int) (a7e : Hp) =>
 a4j x0 a7e (fun (a4t : Int) (e3E : Int) (a7H : Hp) =>
 a4j Z7 a7H (fun (c3Z : Int) (e3F : Int) (f9g : Hp) =>
 a4k x0 f9g (fun (e3G : ByteArray) (c4a : Int) (b9k : Hp) =>
 a4k Z7 b9k (fun (d8g : ByteArray) (b9l : Int) (d0q : Hp) =>
 TG ((decide (b7q = 0)) = true) (a6X Z7 a2Y d0q) false d0q (fun (b0O : Bool) (b1B : Hp) =>
 K (((((decide (b7q = 0)) && b0O) && (decide (a6E ≤ c3Y))) && (decide (c3Z ≤ a4t))) && ((!decide (c4a = 0)) || (decide (b9l = 0)))) b1B))))))))))))
theorem a8v (x0 : j6) {K : Bool → Hp → Prop} (I : Inv w0 ps0 H0 H [] w) (hR : ∀ (r0 : Bool) (H' : Hp) (w' : World) (_ : Inv w0 ps0 H0 H' [] w') (_ : K r0 H'), R (vB r0) w') (h : T7 x0 H K) : F9 (Value.agg (f5 x0).toArray) w R E := by
 unfold T7 at h
 unfold F9
 refine J3 I (cs := (f5 x0)) rfl fun g_2 w_3 I_4 k_5 => ?_
 refine f2 (cap := []) (fun args w => Tryd.call10 args w) ?_
 refine i8 (Fi := []) (Fr := [bx g_2 44 (f5 x0)]) I_4 (h) (fun b6u H_6 b6v w_7 I_8 b6w k_9 a6r => ?_) (fun _ _ _ _ _ q => q.elim)
 obtain ⟨D5, rfl, rfl, h⟩ := a6r
 refine a7 (a1N _) ?_
 refine u2 (fun b7o => ?_) (fun b7o => ?_)
 ·replace h := h.1 b7o
  exact hR false H_6 _ I_8.drop h
 ·replace h := h.2 b7o
  refine d6 (ldA Tryd.isAgg44 Tryd.sizeOf44 rfl (I_8.at1 (o := 0) (vs := (f5 x0)) (nb rfl) rfl)) ?_
  refine f2 (cap := []) (fun args w => Tryd.call31 args w) ?_
  refine i8 (Fi := []) (Fr := [bx g_2 44 (f5 x0)]) I_8 (h) (fun g7C b7p g7D s6 a9w g7E f3D e1O => ?_) (fun _ _ _ _ _ q => q.elim)
  obtain ⟨Z7, b1A, rfl, rfl, h⟩ := e1O
  refine a7 (o0 _ _ _ rfl) ?_
  refine a7 (o0 _ _ (vi b1A) rfl) ?_
  refine y8 a9w Tryd.zeroValue44 (cs := [(nS), (nS)]) rfl fun a9H z6 b0g c8Y => ?_
  refine m6 b0g Tryd.sizeOf44 (vs := (f5 Z7)) (cs' := (f5 Z7)) rfl rfl (nb rfl) rfl rfl fun a7b S8 a8h => ?_
  refine a7 (T0 _ _ _ _ _ _) ?_
  refine a0s (fun b7n => ?_) (fun b7n => ?_)
  ·replace h := h.1 b7n
   exact hR true b7p _ S8.drop.drop h
  ·replace h := h.2 b7n
   refine d6 (ldA Tryd.isAgg44 Tryd.sizeOf44 rfl (S8.at1 (o := 0) (vs := (f5 Z7)) (nb rfl) rfl)) ?_
   refine f2 (cap := []) (fun args w => Tryd.call31 args w) ?_
   refine i8 (Fi := []) (Fr := [bx a9H 44 (f5 Z7), bx g_2 44 (f5 x0)]) S8 (h) (fun g6D a9V g6E b9c c1n g6F g6G e1r => ?_) (fun _ _ _ _ _ q => q.elim)
   obtain ⟨a2Y, b7q, rfl, rfl, h⟩ := e1r
   refine a7 (o0 _ _ _ rfl) ?_
   refine a7 (o0 _ _ (vi b7q) rfl) ?_
   refine y8 c1n Tryd.zeroValue44 (cs := [(nS), (nS)]) rfl fun b9m b6j b4Z e1y => ?_
   refine m6 b4Z Tryd.sizeOf44 (vs := (f5 a2Y)) (cs' := (f5 a2Y)) rfl rfl (nb rfl) rfl rfl fun V1 d0k g6R => ?_
   refine d6 (ldA Tryd.isAgg44 Tryd.sizeOf44 rfl ((d0k.bring 2).at1 (o := 0) (vs := (f5 x0)) (nb rfl) rfl)) ?_
   refine f2 (cap := []) (fun args w => Tryd.call32 args w) ?_
   refine i8 (Fi := []) (Fr := [bx b9m 44 (f5 a2Y), bx a9H 44 (f5 Z7), bx g_2 44 (f5 x0)]) d0k (h) (fun h2g f9f g5G Q3 f9h d3z h2h g7F => ?_) (fun _ _ _ _ _ q => q.elim)
   obtain ⟨c3Y, e3C, rfl, rfl, h⟩ := g7F
   refine a7 (o0 _ _ (vi c3Y) rfl) ?_
   refine a7 (o0 _ _ (vi e3C) rfl) ?_
   refine d6 (ldA Tryd.isAgg44 Tryd.sizeOf44 rfl ((f9h.bring 1).at1 (o := 0) (vs := (f5 Z7)) (nb rfl) rfl)) ?_
   refine f2 (cap := []) (fun args w => Tryd.call32 args w) ?_
   refine i8 (Fi := []) (Fr := [bx b9m 44 (f5 a2Y), bx a9H 44 (f5 Z7), bx g_2 44 (f5 x0)]) f9h (h) (fun d5h a7e g7p b7e b5d c2g e1G e1H => ?_) (fun _ _ _ _ _ q => q.elim)
   obtain ⟨a6E, e3D, rfl, rfl, h⟩ := e1H
   refine a7 (o0 _ _ (vi a6E) rfl) ?_
   refine a7 (o0 _ _ (vi e3D) rfl) ?_
   refine d6 (ldA Tryd.isAgg44 Tryd.sizeOf44 rfl ((b5d.bring 2).at1 (o := 0) (vs := (f5 x0)) (nb rfl) rfl)) ?_
   refine f2 (cap := []) (fun args w => Tryd.call33 args w) ?_
   refine i8 (Fi := []) (Fr := [bx b9m 44 (f5 a2Y), bx a9H 44 (f5 Z7), bx g_2 44 (f5 x0)]) b5d (h) (fun d5i a7H g7q X7 b3i e1I d4V e1J => ?_) (fun _ _ _ _ _ q => q.elim)
   obtain ⟨a4t, e3E, rfl, rfl, h⟩ := e1J
   refine a7 (o0 _ _ (vi a4t) rfl) ?_
   refine a7 (o0 _ _ (vi e3E) rfl) ?_
   refine d6 (ldA Tryd.isAgg44 Tryd.sizeOf44 rfl ((b3i.bring 1).at1 (o := 0) (vs := (f5 Z7)) (nb rfl) rfl)) ?_
   refine f2 (cap := []) (fun args w => Tryd.call33 args w) ?_
   refine i8 (Fi := []) (Fr := [bx b9m 44 (f5 a2Y), bx a9H 44 (f5 Z7), bx g_2 44 (f5 x0)]) b3i (h) (fun h2i f9g h2j f6G f9i h2k h2l g7G => ?_) (fun _ _ _ _ _ q => q.elim)
   obtain ⟨c3Z, e3F, rfl, rfl, h⟩ := g7G
   refine a7 (o0 _ _ (vi c3Z) rfl) ?_
   refine a7 (o0 _ _ (vi e3F) rfl) ?_
   refine d6 (ldA Tryd.isAgg44 Tryd.sizeOf44 rfl ((f9i.bring 2).at1 (o := 0) (vs := (f5 x0)) (nb rfl) rfl)) ?_
   refine f2 (cap := []) (fun args w => Tryd.call34 args w) ?_
   refine i8 (Fi := []) (Fr := [bx b9m 44 (f5 a2Y), bx a9H 44 (f5 Z7), bx g_2 44 (f5 x0)]) f9i (h) (fun h2m b9k h2n a5d f9j h2o h2p g7H => ?_) (fun _ _ _ _ _ q => q.elim)
   obtain ⟨e3G, c4a, rfl, rfl, h⟩ := g7H
   refine a7 (o0 _ _ (Value.string e3G) rfl) ?_
   refine a7 (o0 _ _ (vi c4a) rfl) ?_
   refine d6 (ldA Tryd.isAgg44 Tryd.sizeOf44 rfl ((f9j.bring 1).at1 (o := 0) (vs := (f5 Z7)) (nb rfl) rfl)) ?_
   refine f2 (cap := []) (fun args w => Tryd.call34 args w) ?_
   refine i8 (Fi := []) (Fr := [bx b9m 44 (f5 a2Y), bx a9H 44 (f5 Z7), bx g_2 44 (f5 x0)]) f9j (h) (fun h2q d0q h2r d4k d5o g9x h2s g3l => ?_) (fun _ _ _ _ _ q => q.elim)
   obtain ⟨d8g, b9l, rfl, rfl, h⟩ := g3l
   refine a7 (o0 _ _ (Value.string d8g) rfl) ?_
   refine a7 (o0 _ _ (vi b9l) rfl) ?_
   refine a7 (m9 _ _ _ _ _ _) ?_
   refine d6 (Ld.g fun hb => by have f4 := hb; exact (ldA Tryd.isAgg44 Tryd.sizeOf44 rfl ((d5o.bring 1).at1 (o := 0) (vs := (f5 Z7)) (nb rfl) rfl))) ?_
   refine d6 (Ld.g fun hb => by have f4 := hb; exact (ldA Tryd.isAgg44 Tryd.sizeOf44 rfl (d5o.at1 (o := 0) (vs := (f5 a2Y)) (nb rfl) rfl))) ?_
   refine V6 (D := fun d5p a4g => ∃ (b0O : Bool) (b1B : Hp) , d5p = (gv (decide (b7q = 0)) true (vB b0O)) ∧ (Inv w0 ps0 H0 b1B [bx b9m 44 (f5 a2Y), bx a9H 44 (f5 Z7), bx g_2 44 (f5 x0)] a4g) ∧ (∀ i, i < d4k.heap.size → ¬ inF [] i → a4g.heap[i]? = d4k.heap[i]?) ∧ Hle d0q b1B ∧ (K (((((decide (b7q = 0)) && b0O) && (decide (a6E ≤ c3Y))) && (decide (c3Z ≤ a4t))) && ((!decide (c4a = 0)) || (decide (b9l = 0)))) b1B)) (fun c4b => ?_) (fun c4b => ?_) ?_
   ·replace h := h.1 c4b
    have f4 := c4b
    simp only [p1 f4]
    refine f2 (cap := []) (fun args w => Tryd.call35 args w) ?_
    refine i8 (Fi := []) (Fr := [bx b9m 44 (f5 a2Y), bx a9H 44 (f5 Z7), bx g_2 44 (f5 x0)]) d5o (h) (fun d5p b1B g9y a4g a8B e3H d5g g3m => ?_) (fun _ _ _ _ _ q => q.elim)
    obtain ⟨b0O, rfl, rfl, h⟩ := g3m
    exact ⟨b0O, b1B, by rfl, a8B, d5g, e3H, h⟩
   ·exact ⟨false, d0q, by rw [a3g c4b], d5o, fun _ _ _ => rfl, Hle.refl _, h.2 c4b⟩
   ·clear h
    rintro d5p a4g ⟨b0O, b1B, rfl, a8B, d5g, e3H, h⟩
    refine a7 (A6 _ _) ?_
    simp only [O5]
    refine a7 (Pu.g fun hb => by have f4 := hb; simp only [p1 f4]; exact (b1S _ _ _ _ _ _)) ?_
    refine a7 (A6 _ _) ?_
    simp only [O5]
    refine a7 (Pu.g fun hb => by have f4 := hb; simp only [p1 f4]; exact (b1S _ _ _ _ _ _)) ?_
    refine a7 (A6 _ _) ?_
    simp only [O5]
    refine a7 (Pu.g fun hb => by have f4 := hb; simp only [p1 f4]; exact (T0 _ _ _ _ _ _)) ?_
    simp only [d2l, e8x]
    refine a7 (Pu.e (e4j _ _ _) (Pu.g fun hb => by obtain ⟨f4, c5d⟩ := g1J hb; simp only [p1 hb]; exact (m9 _ _ _ _ _ _))) ?_
    refine a7 (Pu.g fun hb => by have f4 := hb; simp only [p1 f4, e8w f4]; exact (a5Z _ _)) ?_
    refine a7 (A6 _ _) ?_
    exact hR (((((decide (b7q = 0)) && b0O) && (decide (a6E ≤ c3Y))) && (decide (c3Z ≤ a4t))) && ((!decide (c4a = 0)) || (decide (b9l = 0)))) b1B _ a8B.drop.drop.drop h
theorem a8U (x0 : j6) {H : Hp} {K : Bool → Hp → Prop} (h : T7 x0 H K) : a0q x0 H K := by
 intro w I
 refine g2l ?_
 refine a8v x0 I (fun r0 H' w' I' hk => ⟨H', _, I', r0, rfl, rfl, hk⟩) h
end Go.Proofs.YtnhkdkcgdcgmdaaDoor
