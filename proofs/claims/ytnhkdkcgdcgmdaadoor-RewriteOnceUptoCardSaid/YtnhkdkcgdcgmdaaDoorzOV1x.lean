/- Typed formulas of the program's functions that few laws need; printed by lift.py off the code. -/
import Derived.Test.YtnhkdkcgdcgmdaaDoorzOV1
import Derived.Test.YtnhkdkcgdcgmdaaDoorzOG1x
namespace Go.Proofs.YtnhkdkcgdcgmdaaDoor
open Go.RowKit
set_option maxRecDepth 100000
set_option maxHeartbeats 2000000
variable {w0 w : World} {ps0 : Nat → Prop} {H0 H : Hp} {R : RT} {E : Pan}
def L0 (x0 : Sl) (H : Hp) (K : Sl → Hp → Prop) : Prop :=
 (x0.a.isNone = true →
 K (Sl.mk none 0 0) H) ∧
 (x0.a.isNone = false →
 ∃ c6O : List t1, SlH H 2 p6 x0 c6O ∧ (([] : List t1).length + c6O.length) * 25 ≤ 140737488355328 ∧
 ∀ (s_8 : Sl) (a7a : Hp), Hle H a7a → SlH a7a 2 p6 s_8 c6O → s_8.n ≤ s_8.c →
 K s_8 a7a)
theorem a4w (x0 : Sl) {K : Sl → Hp → Prop} (I : Inv w0 ps0 H0 H [] w) (hR : ∀ (r0 : Sl) (H' : Hp) (w' : World) (_ : Inv w0 ps0 H0 H' [] w') (_ : K r0 H'), R (vs r0) w') (h : L0 x0 H K) : F83 (vs x0) w R E := by
 unfold L0 at h
 unfold F83
 refine a7 (d1d _ _ x0) ?_
 refine u2 (fun c1q => ?_) (fun c1q => ?_)
 ·replace h := h.1 c1q
  exact hR (Sl.mk none 0 0) H _ I h
 ·replace h := h.2 c1q
  refine a3h (e := 58) (c := p6) (xs := []) I (e4p) rfl rfl b7G c6g (nb rfl) fun s_2 F_3 w_4 h_5 I_6 k_7 => ?_
  obtain ⟨c6O, b0f, h⟩ := h
  obtain ⟨e0b, h⟩ := h
  refine e8L (s := s_2) (xs := []) I_6 h_5 (SlH.src I_6 b0f b7G) e0b fun s_8 F_9 o7 d3W C6 b6m => ?_
  simp only [List.nil_append] at d3W
  obtain ⟨a7a, a0E, a5M, b6C, b6D⟩ := Inv.freezeC C6 d3W (by decide)
  replace h := h s_8 a7a a5M b6C b6D
  exact hR s_8 a7a _ a0E h
theorem a4H (x0 : Sl) {H : Hp} {K : Sl → Hp → Prop} (h : L0 x0 H K) : O9 x0 H K := by
 intro w I
 refine f9t ?_
 refine a4w x0 I (fun r0 H' w' I' hk => ⟨H', _, I', r0, rfl, rfl, hk⟩) h
def a2D (x0 : b5) (H : Hp) (K : b5 → Hp → Prop) : Prop :=
 z7 x0.m7 H (fun (g5 : Sl) (F3 : Hp) =>
 K (b5.mk x0.a8 x0.o2 x0.b7 g5) F3)
theorem b3L (x0 : b5) {K : b5 → Hp → Prop} (I : Inv w0 ps0 H0 H [] w) (hR : ∀ (r0 : b5) (H' : Hp) (w' : World) (_ : Inv w0 ps0 H0 H' [] w') (_ : K r0 H'), R (Value.agg (b6 r0).toArray) w') (h : a2D x0 H K) : d5w (Value.agg (b6 x0).toArray) w R E := by
 unfold a2D at h
 unfold d5w
 refine J3 I (cs := (b6 x0)) rfl fun g_2 w_3 I_4 k_5 => ?_
 refine y8 I_4 Tryd.zeroValue24 (cs := [(vi 0), (vi 0), (eS), (nS)]) rfl fun g_7 w_8 I_9 a7x => ?_
 refine a7 J5 ?_
 refine d6 (ld1 Tryd.isAgg22 ((I_9.bring 1).at1 (o := 3) (vs := [(vs x0.m7)]) (nb rfl) rfl)) ?_
 refine f2 (cap := []) (fun args w => Tryd.call112 args w) ?_
 refine i8 (Fi := []) (Fr := [bx g_7 24 [(vi 0), (vi 0), (eS), (nS)], bx g_2 24 (b6 x0)]) I_9 (h) (fun a6Z F3 b2w o4 R8 a7B a7C a6s => ?_) (fun _ _ _ _ _ q => q.elim)
 obtain ⟨g5, rfl, rfl, h⟩ := a6s
 refine a7 J5 ?_
 refine m6 (R8.bring 1) Tryd.sizeOf22 (vs := [(vs g5)]) (cs' := [(vi x0.a8), (vi x0.o2), (Value.string x0.b7), (vs g5)]) rfl rfl (nb rfl) rfl rfl fun u1 a4D b8F => ?_
 refine d6 (ldA Tryd.isAgg24 Tryd.sizeOf24 rfl (a4D.at1 (o := 0) (vs := [(vi x0.a8), (vi x0.o2), (Value.string x0.b7), (vs g5)]) (nb rfl) rfl)) ?_
 refine m6 (a4D.bring 1) Tryd.sizeOf24 (vs := [(vi x0.a8), (vi x0.o2), (Value.string x0.b7), (vs g5)]) (cs' := [(vi x0.a8), (vi x0.o2), (Value.string x0.b7), (vs g5)]) rfl rfl (nb rfl) rfl rfl fun a7p a5m c9c => ?_
 refine K6 Tryd.isAgg24 Tryd.sizeOf24 rfl (a5m.at1 (o := 0) (vs := [(vi x0.a8), (vi x0.o2), (Value.string x0.b7), (vs g5)]) (nb rfl) rfl) ?_
 exact hR (b5.mk x0.a8 x0.o2 x0.b7 g5) F3 _ a5m.drop.drop h
theorem b5g (x0 : b5) {H : Hp} {K : b5 → Hp → Prop} (h : a2D x0 H K) : a5e x0 H K := by
 intro w I
 refine e7S ?_
 refine b3L x0 I (fun r0 H' w' I' hk => ⟨H', _, I', r0, rfl, rfl, hk⟩) h
def B4 (F5 : (List b5)) (H : Hp) (K : Sl → Hp → Prop) : Prop :=
 ∀ (s8 : Sl) (F8 : Hp), Hle H F8 → SlH F8 4 b6 s8 F5 → s8.n ≤ s8.c →
 K s8 F8
def B5 (K4 : Sl) (R4 : Int) (m8 : (List b5)) (j8 : Int) (H : Hp) (n2 : ((List b5) × Int) → Hp → Prop) (K : Sl → Hp → Prop) : Prop :=
 (j8 < R4 →
 (0 : Int) ≤ j8 ∧ (j8 : Int) < K4.n ∧ ∃ x_1 : b5, EltH H K4 j8 4 (b6 x_1) ∧
 a5e x_1 H (fun (B3 : b5) (M5 : Hp) =>
 (m8.length + ([B3] : List b5).length) * 57 ≤ 140737488355328 ∧
 n2 ((m8 ++ [B3]), (IntKind.wrap .i64 (j8 + 1))) M5)) ∧
 (¬ (j8 < R4) →
 B4 m8 H K)
def C7 (x0 : Sl) (H : Hp) (K : Sl → Hp → Prop) : Prop :=
 TL (([], 0) : (List b5) × Int) H fun (s : (List b5) × Int) H n2 => B5 x0 (x0.n : Int) s.1 s.2 H n2 K
theorem a0K (x0 : Sl) {K : Sl → Hp → Prop} (I : Inv w0 ps0 H0 H [] w) (hR : ∀ (r0 : Sl) (H' : Hp) (w' : World) (_ : Inv w0 ps0 H0 H' [] w') (_ : K r0 H'), R (vs r0) w') (h : C7 x0 H K) : d5v (vs x0) (fC 113) w R E := by
 unfold C7 at h
 unfold d5v
 have hj1 : ∀ (F5 : (List b5)) (s8 : Sl) (Fs5j1 : Frag) (H : Hp) (w : World) (_ : RowL 24 4 b6 s8 F5 Fs5j1) (_ : Inv w0 ps0 H0 H [Fs5j1] w) (_ : B4 F5 H K), c5y (vs s8) w R E := by
  intro F5 s8 Fs5j1 H w a4T I h
  unfold c5y
  intro _
  unfold B4 at h
  obtain ⟨F8, a0Y, a5W, a1v, a3F⟩ := Inv.freezeC I a4T (by decide)
  replace h := h s8 F8 a5W a1v a3F
  exact hR s8 F8 _ a0Y h
 refine A7 fun j1 hx1 => ?_
 refine a7 (Z3 _ _ _) ?_
 obtain ⟨X1, M0, a7y, a0Z⟩ := h
 refine M9 (J := fun n l w => ∃ (s : (List b5) × Int) (H : Hp) (F6 : Sl) (Fs5l2 : Frag) , n = M0 s ∧ l = (match s with | (m8, j8) => [(vs F6), (vi j8)]) ∧ (match s with | (m8, j8) => RowL 24 4 b6 F6 m8 Fs5l2) ∧ (match s with | (m8, j8) => Inv w0 ps0 H0 H [Fs5l2] w) ∧ X1 s H) ⟨_, ([], 0), H, (Sl.mk none 0 0), [], rfl, rfl, (RowL.nil a1q a1r), I.nil, a7y⟩ ?_
 rintro b8I τ_50 w next2 ⟨⟨m8, j8⟩, H, F6, Fs5l2, rfl, V4, Q1, I, a7z⟩ hn2
 dsimp only at V4 I Q1
 simp only [List.map_cons, List.map_nil, List.cons.injEq, and_true] at V4
 obtain ⟨e5, e10⟩ := V4
 simp only [e5, e10]
 obtain ⟨n2, hm2, h⟩ : ∃ n2 : ((List b5) × Int) → Hp → Prop, (∀ s' H', n2 s' H' → X1 s' H' ∧ M0 s' < M0 (m8, j8)) ∧ B5 x0 (x0.n : Int) m8 j8 H n2 K := ⟨_, fun _ _ h => h, a0Z (m8, j8) H (fun s' H' => X1 s' H' ∧ M0 s' < M0 (m8, j8)) a7z (fun _ _ a b => ⟨a, b⟩)⟩
 unfold d1U
 unfold B5 at h
 refine a7 (F4 _ _ _ _ _ _) ?_
 refine j7 (fun T5 => ?_) (fun T5 => ?_)
 ·replace h := h.1 T5
  obtain ⟨h_4, h_5, x_1, h_7, h⟩ := h
  obtain ⟨g_2, o_3, h_6, h_7⟩ := h_7
  refine a7 (O0 h_6 _ _ _ _ h_4 h_5) ?_
  refine d6 (ldA (vs := (b6 x_1)) Tryd.isAgg24 Tryd.sizeOf24 rfl (I.atH h_7)) ?_
  refine y8 I Tryd.zeroValue24 (cs := [(vi 0), (vi 0), (eS), (nS)]) rfl fun g_9 o7 V5 a7A => ?_
  refine m6 V5 Tryd.sizeOf24 (vs := (b6 x_1)) (cs' := (b6 x_1)) rfl rfl (nb rfl) rfl rfl fun V0 J6 a1w => ?_
  refine d6 (ldA Tryd.isAgg24 Tryd.sizeOf24 rfl (J6.at1 (o := 0) (vs := (b6 x_1)) (nb rfl) rfl)) ?_
  refine f2 (cap := []) (fun args w => Tryd.call113 args w) ?_
  refine i8 (Fi := []) (Fr := [bx g_9 24 (b6 x_1), Fs5l2]) J6 (h) (fun b4E M5 b2v Y8 a0E b4F b4G a5k => ?_) (fun _ _ _ _ _ q => q.elim)
  obtain ⟨B3, rfl, rfl, h⟩ := a5k
  refine a3h (e := 24) (c := b6) (xs := [B3]) a0E (c4B _ _ _ _ _ _) rfl rfl a1q a1r (nb rfl) fun b0V a9x E5 a4d S8 a8h => ?_
  obtain ⟨a5l, h⟩ := h
  refine d6w (s := F6) (xs := m8) (S8.bring 2) Q1 (a4d.srcO ((S8.bring 2).bring 1)) a5l fun a3G a6Y E3 a5j a1x a9X => ?_
  refine a7 (K3 _ _ _ _ _ _) ?_
  exact hn2 _ _ _ (hm2 _ _ h).2 ⟨((m8 ++ [B3]), (IntKind.wrap .i64 (j8 + 1))), M5, a3G, a6Y, rfl, rfl, a5j, ((a1x.bring 1).drop.bring 1).drop, (hm2 _ _ h).1⟩
 ·replace h := h.2 T5
  exact hx1 _ _ (hj1 m8 F6 Fs5l2 H _ Q1 I h)
theorem a1m (x0 : Sl) {H : Hp} {K : Sl → Hp → Prop} (h : C7 x0 H K) : z7 x0 H K := by
 intro w I
 refine e7Q ?_
 refine a0K x0 I (fun r0 H' w' I' hk => ⟨H', _, I', r0, rfl, rfl, hk⟩) h
def a2E (x0 : b8) (H : Hp) (K : b8 → Hp → Prop) : Prop :=
 z7 x0.g8 H (fun (t8 : Sl) (a1h : Hp) =>
 C5 x0.q8 a1h (fun (r8 : Sl) (a0F : Hp) =>
 K (b8.mk x0.a8 x0.fOp t8 r8) a0F))
theorem b3M (x0 : b8) {K : b8 → Hp → Prop} (I : Inv w0 ps0 H0 H [] w) (hR : ∀ (r0 : b8) (H' : Hp) (w' : World) (_ : Inv w0 ps0 H0 H' [] w') (_ : K r0 H'), R (Value.agg (d5 r0).toArray) w') (h : a2E x0 H K) : d5y (Value.agg (d5 x0).toArray) w R E := by
 unfold a2E at h
 unfold d5y
 refine J3 I (cs := (d5 x0)) rfl fun g_2 w_3 I_4 k_5 => ?_
 refine y8 I_4 Tryd.zeroValue27 (cs := [(vi 0), (vi 0), (nS), (nS)]) rfl fun g_7 w_8 I_9 a7x => ?_
 refine a3v I_9 fun P9 C6 => ?_
 refine r9 a0Q ?_
 refine r9 a0h ?_
 refine K0 (ld1 Tryd.isAgg22 ((C6.bring 1).at1 (o := 2) (vs := [(vs x0.g8)]) (nb rfl) rfl)) ?_
 refine K0 (ld1 Tryd.isAgg25 ((C6.bring 1).at1 (o := 3) (vs := [(vs x0.q8)]) (nb rfl) rfl)) ?_
 refine f2 (cap := []) (fun args w => Tryd.call112 args w) ?_
 refine i8 (Fi := []) (Fr := [bx g_7 27 [(vi 0), (vi 0), (nS), (nS)], bx g_2 27 (d5 x0)]) C6 (h) (fun f8Y a1h f8Z o8 b2q f9a b6n d0l => ?_) (fun _ _ _ _ _ q => q.elim)
 obtain ⟨t8, rfl, rfl, h⟩ := d0l
 refine ⟨(b6n _ (C6.bring 1).lt1 (Inv.a3s (Fi := []) (C6.bring 1))), ?_⟩
 refine r9 a0Q ?_
 refine f2 (cap := []) (fun args w => Tryd.call114 args w) ?_
 refine i8 (Fi := []) (Fr := [bx g_7 27 [(vi 0), (vi 0), (nS), (nS)], bx g_2 27 (d5 x0)]) b2q (h) (fun e0A a0F a9x a7p a5m e0B c9c c1G => ?_) (fun _ _ _ _ _ q => q.elim)
 obtain ⟨r8, rfl, rfl, h⟩ := c1G
 refine m6 (a5m.bring 1) Tryd.sizeOf22 (vs := [(vs t8)]) (cs' := [(vi x0.a8), (vi x0.fOp), (vs t8), (vs x0.q8)]) rfl rfl (nb rfl) rfl rfl fun b0l b9j e1B => ?_
 refine r9 a0h ?_
 refine m6 b9j Tryd.sizeOf25 (vs := [(vs r8)]) (cs' := [(vi x0.a8), (vi x0.fOp), (vs t8), (vs r8)]) rfl rfl (nb rfl) rfl rfl fun E3 a3N c2c => ?_
 refine d6 (ldA Tryd.isAgg27 Tryd.sizeOf27 rfl (a3N.at1 (o := 0) (vs := [(vi x0.a8), (vi x0.fOp), (vs t8), (vs r8)]) (nb rfl) rfl)) ?_
 refine m6 (a3N.bring 1) Tryd.sizeOf27 (vs := [(vi x0.a8), (vi x0.fOp), (vs t8), (vs r8)]) (cs' := [(vi x0.a8), (vi x0.fOp), (vs t8), (vs r8)]) rfl rfl (nb rfl) rfl rfl fun b4D b0U d3d => ?_
 refine K6 Tryd.isAgg27 Tryd.sizeOf27 rfl (b0U.at1 (o := 0) (vs := [(vi x0.a8), (vi x0.fOp), (vs t8), (vs r8)]) (nb rfl) rfl) ?_
 exact hR (b8.mk x0.a8 x0.fOp t8 r8) a0F _ b0U.drop.drop h
theorem b5h (x0 : b8) {H : Hp} {K : b8 → Hp → Prop} (h : a2E x0 H K) : a5f x0 H K := by
 intro w I
 refine e7W ?_
 refine b3M x0 I (fun r0 H' w' I' hk => ⟨H', _, I', r0, rfl, rfl, hk⟩) h
def B6 (F5 : (List b8)) (H : Hp) (K : Sl → Hp → Prop) : Prop :=
 ∀ (s8 : Sl) (F8 : Hp), Hle H F8 → SlH F8 4 d5 s8 F5 → s8.n ≤ s8.c →
 K s8 F8
def B7 (K4 : Sl) (R4 : Int) (m8 : (List b8)) (j8 : Int) (H : Hp) (n2 : ((List b8) × Int) → Hp → Prop) (K : Sl → Hp → Prop) : Prop :=
 (j8 < R4 →
 (0 : Int) ≤ j8 ∧ (j8 : Int) < K4.n ∧ ∃ x_1 : b8, EltH H K4 j8 4 (d5 x_1) ∧
 a5f x_1 H (fun (B3 : b8) (M5 : Hp) =>
 (m8.length + ([B3] : List b8).length) * 65 ≤ 140737488355328 ∧
 n2 ((m8 ++ [B3]), (IntKind.wrap .i64 (j8 + 1))) M5)) ∧
 (¬ (j8 < R4) →
 B6 m8 H K)
def C8 (x0 : Sl) (H : Hp) (K : Sl → Hp → Prop) : Prop :=
 TL (([], 0) : (List b8) × Int) H fun (s : (List b8) × Int) H n2 => B7 x0 (x0.n : Int) s.1 s.2 H n2 K
theorem a0L (x0 : Sl) {K : Sl → Hp → Prop} (I : Inv w0 ps0 H0 H [] w) (hR : ∀ (r0 : Sl) (H' : Hp) (w' : World) (_ : Inv w0 ps0 H0 H' [] w') (_ : K r0 H'), R (vs r0) w') (h : C8 x0 H K) : d5x (vs x0) (fC 115) w R E := by
 unfold C8 at h
 unfold d5x
 have hj1 : ∀ (F5 : (List b8)) (s8 : Sl) (Fs5j1 : Frag) (H : Hp) (w : World) (_ : RowL 27 4 d5 s8 F5 Fs5j1) (_ : Inv w0 ps0 H0 H [Fs5j1] w) (_ : B6 F5 H K), c5z (vs s8) w R E := by
  intro F5 s8 Fs5j1 H w a4T I h
  unfold c5z
  intro _
  unfold B6 at h
  obtain ⟨F8, a0Y, a5W, a1v, a3F⟩ := Inv.freezeC I a4T (by decide)
  replace h := h s8 F8 a5W a1v a3F
  exact hR s8 F8 _ a0Y h
 refine A7 fun j1 hx1 => ?_
 refine a7 (a2H _ _ _) ?_
 obtain ⟨X1, M0, a7y, a0Z⟩ := h
 refine M9 (J := fun n l w => ∃ (s : (List b8) × Int) (H : Hp) (F6 : Sl) (Fs5l2 : Frag) , n = M0 s ∧ l = (match s with | (m8, j8) => [(vs F6), (vi j8)]) ∧ (match s with | (m8, j8) => RowL 27 4 d5 F6 m8 Fs5l2) ∧ (match s with | (m8, j8) => Inv w0 ps0 H0 H [Fs5l2] w) ∧ X1 s H) ⟨_, ([], 0), H, (Sl.mk none 0 0), [], rfl, rfl, (RowL.nil a8w a8x), I.nil, a7y⟩ ?_
 rintro b8I τ_50 w next2 ⟨⟨m8, j8⟩, H, F6, Fs5l2, rfl, V4, Q1, I, a7z⟩ hn2
 dsimp only at V4 I Q1
 simp only [List.map_cons, List.map_nil, List.cons.injEq, and_true] at V4
 obtain ⟨e5, e10⟩ := V4
 simp only [e5, e10]
 obtain ⟨n2, hm2, h⟩ : ∃ n2 : ((List b8) × Int) → Hp → Prop, (∀ s' H', n2 s' H' → X1 s' H' ∧ M0 s' < M0 (m8, j8)) ∧ B7 x0 (x0.n : Int) m8 j8 H n2 K := ⟨_, fun _ _ h => h, a0Z (m8, j8) H (fun s' H' => X1 s' H' ∧ M0 s' < M0 (m8, j8)) a7z (fun _ _ a b => ⟨a, b⟩)⟩
 unfold d1V
 unfold B7 at h
 refine a7 (F4 _ _ _ _ _ _) ?_
 refine j7 (fun T5 => ?_) (fun T5 => ?_)
 ·replace h := h.1 T5
  obtain ⟨h_4, h_5, x_1, h_7, h⟩ := h
  obtain ⟨g_2, o_3, h_6, h_7⟩ := h_7
  refine a7 (a3W h_6 _ _ _ _ h_4 h_5) ?_
  refine d6 (ldA (vs := (d5 x_1)) Tryd.isAgg27 Tryd.sizeOf27 rfl (I.atH h_7)) ?_
  refine y8 I Tryd.zeroValue27 (cs := [(vi 0), (vi 0), (nS), (nS)]) rfl fun g_9 o7 V5 a7A => ?_
  refine m6 V5 Tryd.sizeOf27 (vs := (d5 x_1)) (cs' := (d5 x_1)) rfl rfl (nb rfl) rfl rfl fun V0 J6 a1w => ?_
  refine d6 (ldA Tryd.isAgg27 Tryd.sizeOf27 rfl (J6.at1 (o := 0) (vs := (d5 x_1)) (nb rfl) rfl)) ?_
  refine f2 (cap := []) (fun args w => Tryd.call115 args w) ?_
  refine i8 (Fi := []) (Fr := [bx g_9 27 (d5 x_1), Fs5l2]) J6 (h) (fun b4E M5 b2v Y8 a0E b4F b4G a5k => ?_) (fun _ _ _ _ _ q => q.elim)
  obtain ⟨B3, rfl, rfl, h⟩ := a5k
  refine a3h (e := 27) (c := d5) (xs := [B3]) a0E (d1z _ _ _ _ _ _ _ _) rfl rfl a8w a8x (nb rfl) fun b0V a9x E5 a4d S8 a8h => ?_
  obtain ⟨a5l, h⟩ := h
  refine d6x (s := F6) (xs := m8) (S8.bring 2) Q1 (a4d.srcO ((S8.bring 2).bring 1)) a5l fun a3G a6Y E3 a5j a1x a9X => ?_
  refine a7 (K3 _ _ _ _ _ _) ?_
  exact hn2 _ _ _ (hm2 _ _ h).2 ⟨((m8 ++ [B3]), (IntKind.wrap .i64 (j8 + 1))), M5, a3G, a6Y, rfl, rfl, a5j, ((a1x.bring 1).drop.bring 1).drop, (hm2 _ _ h).1⟩
 ·replace h := h.2 T5
  exact hx1 _ _ (hj1 m8 F6 Fs5l2 H _ Q1 I h)
theorem a1o (x0 : Sl) {H : Hp} {K : Sl → Hp → Prop} (h : C8 x0 H K) : C5 x0 H K := by
 intro w I
 refine e7U ?_
 refine a0L x0 I (fun r0 H' w' I' hk => ⟨H', _, I', r0, rfl, rfl, hk⟩) h
def a2F (x0 : b9) (H : Hp) (K : b9 → Hp → Prop) : Prop :=
 z7 x0.g8 H (fun (t8 : Sl) (a1h : Hp) =>
 C5 x0.o9 a1h (fun (r8 : Sl) (a0F : Hp) =>
 z8 x0.v6 a0F (fun (b0A : Sl) (F8 : Hp) =>
 z8 x0.t7 F8 (fun (b1D : Sl) (e2d : Hp) =>
 K (b9.mk x0.a8 x0.b7 t8 r8 b0A b1D) e2d))))
theorem b3N (x0 : b9) {K : b9 → Hp → Prop} (I : Inv w0 ps0 H0 H [] w) (hR : ∀ (r0 : b9) (H' : Hp) (w' : World) (_ : Inv w0 ps0 H0 H' [] w') (_ : K r0 H'), R (Value.agg (d8 r0).toArray) w') (h : a2F x0 H K) : F85 (Value.agg (d8 x0).toArray) w R E := by
 unfold a2F at h
 unfold F85
 refine J3 I (cs := (d8 x0)) rfl fun g_2 w_3 I_4 k_5 => ?_
 refine y8 I_4 Tryd.zeroValue63 (cs := [(vi 0), (eS), (nS), (nS), (nS), (nS)]) rfl fun g_7 w_8 I_9 a7x => ?_
 refine a3v I_9 fun P9 C6 => ?_
 refine r9 a3w ?_
 refine r9 a0S ?_
 refine K0 (ld1 Tryd.isAgg22 ((C6.bring 1).at1 (o := 2) (vs := [(vs x0.g8)]) (nb rfl) rfl)) ?_
 refine K0 (ld1 Tryd.isAgg25 ((C6.bring 1).at1 (o := 3) (vs := [(vs x0.o9)]) (nb rfl) rfl)) ?_
 refine f2 (cap := []) (fun args w => Tryd.call112 args w) ?_
 refine i8 (Fi := []) (Fr := [bx g_7 63 [(vi 0), (eS), (nS), (nS), (nS), (nS)], bx g_2 63 (d8 x0)]) C6 (h) (fun f8Y a1h f8Z o8 b2q f9a b6n d0l => ?_) (fun _ _ _ _ _ q => q.elim)
 obtain ⟨t8, rfl, rfl, h⟩ := d0l
 refine ⟨(b6n _ (C6.bring 1).lt1 (Inv.a3s (Fi := []) (C6.bring 1))), ?_⟩
 refine r9 a3w ?_
 refine f2 (cap := []) (fun args w => Tryd.call114 args w) ?_
 refine i8 (Fi := []) (Fr := [bx g_7 63 [(vi 0), (eS), (nS), (nS), (nS), (nS)], bx g_2 63 (d8 x0)]) b2q (h) (fun e0A a0F a9x a7p a5m e0B c9c c1G => ?_) (fun _ _ _ _ _ q => q.elim)
 obtain ⟨r8, rfl, rfl, h⟩ := c1G
 refine m6 (a5m.bring 1) Tryd.sizeOf22 (vs := [(vs t8)]) (cs' := [(vi x0.a8), (Value.string x0.b7), (vs t8), (vs x0.o9), (vs x0.v6), (vs x0.t7)]) rfl rfl (nb rfl) rfl rfl fun b0l b9j e1B => ?_
 refine r9 a0S ?_
 refine m6 b9j Tryd.sizeOf25 (vs := [(vs r8)]) (cs' := [(vi x0.a8), (Value.string x0.b7), (vs t8), (vs r8), (vs x0.v6), (vs x0.t7)]) rfl rfl (nb rfl) rfl rfl fun E3 a3N c2c => ?_
 refine a3v a3N fun b4D b0U => ?_
 refine r9 a2o ?_
 refine r9 a0T ?_
 refine K0 (ld1 Tryd.isAgg42 (b0U.at1 (o := 4) (vs := [(vs x0.v6)]) (nb rfl) rfl)) ?_
 refine K0 (ld1 Tryd.isAgg42 (b0U.at1 (o := 5) (vs := [(vs x0.t7)]) (nb rfl) rfl)) ?_
 refine f2 (cap := []) (fun args w => Tryd.call84 args w) ?_
 refine i8 (Fi := []) (Fr := [bx g_2 63 [(vi x0.a8), (Value.string x0.b7), (vs t8), (vs r8), (vs x0.v6), (vs x0.t7)], bx g_7 63 [(vi 0), (eS), (nS), (nS), (nS), (nS)]]) b0U (h) (fun h2t F8 h2u L9 b2u d5m c8z g7O => ?_) (fun _ _ _ _ _ q => q.elim)
 obtain ⟨b0A, rfl, rfl, h⟩ := g7O
 refine ⟨(c8z _ b0U.lt1 (Inv.a3s (Fi := []) b0U)), ?_⟩
 refine r9 a2o ?_
 refine f2 (cap := []) (fun args w => Tryd.call84 args w) ?_
 refine i8 (Fi := []) (Fr := [bx g_2 63 [(vi x0.a8), (Value.string x0.b7), (vs t8), (vs r8), (vs x0.v6), (vs x0.t7)], bx g_7 63 [(vi 0), (eS), (nS), (nS), (nS), (nS)]]) b2u (h) (fun h2v e2d h2w b2n d4U h2x g6S g7P => ?_) (fun _ _ _ _ _ q => q.elim)
 obtain ⟨b1D, rfl, rfl, h⟩ := g7P
 refine m6 d4U Tryd.sizeOf42 (vs := [(vs b0A)]) (cs' := [(vi x0.a8), (Value.string x0.b7), (vs t8), (vs r8), (vs b0A), (vs x0.t7)]) rfl rfl (nb rfl) rfl rfl fun b6W b0j b8U => ?_
 refine r9 a0T ?_
 refine m6 b0j Tryd.sizeOf42 (vs := [(vs b1D)]) (cs' := [(vi x0.a8), (Value.string x0.b7), (vs t8), (vs r8), (vs b0A), (vs b1D)]) rfl rfl (nb rfl) rfl rfl fun W1 f9K h2y => ?_
 refine d6 (ldA Tryd.isAgg63 Tryd.sizeOf63 rfl (f9K.at1 (o := 0) (vs := [(vi x0.a8), (Value.string x0.b7), (vs t8), (vs r8), (vs b0A), (vs b1D)]) (nb rfl) rfl)) ?_
 refine m6 (f9K.bring 1) Tryd.sizeOf63 (vs := [(vi x0.a8), (Value.string x0.b7), (vs t8), (vs r8), (vs b0A), (vs b1D)]) (cs' := [(vi x0.a8), (Value.string x0.b7), (vs t8), (vs r8), (vs b0A), (vs b1D)]) rfl rfl (nb rfl) rfl rfl fun d4e f9L h2z => ?_
 refine K6 Tryd.isAgg63 Tryd.sizeOf63 rfl (f9L.at1 (o := 0) (vs := [(vi x0.a8), (Value.string x0.b7), (vs t8), (vs r8), (vs b0A), (vs b1D)]) (nb rfl) rfl) ?_
 exact hR (b9.mk x0.a8 x0.b7 t8 r8 b0A b1D) e2d _ f9L.drop.drop h
theorem b5i (x0 : b9) {H : Hp} {K : b9 → Hp → Prop} (h : a2F x0 H K) : a5g x0 H K := by
 intro w I
 refine f9A ?_
 refine b3N x0 I (fun r0 H' w' I' hk => ⟨H', _, I', r0, rfl, rfl, hk⟩) h
def B8 (F5 : (List b9)) (H : Hp) (K : Sl → Hp → Prop) : Prop :=
 ∀ (s8 : Sl) (F8 : Hp), Hle H F8 → SlH F8 6 d8 s8 F5 → s8.n ≤ s8.c →
 K s8 F8
def B9 (K4 : Sl) (R4 : Int) (m8 : (List b9)) (j8 : Int) (H : Hp) (n2 : ((List b9) × Int) → Hp → Prop) (K : Sl → Hp → Prop) : Prop :=
 (j8 < R4 →
 (0 : Int) ≤ j8 ∧ (j8 : Int) < K4.n ∧ ∃ x_1 : b9, EltH H K4 j8 6 (d8 x_1) ∧
 a5g x_1 H (fun (B3 : b9) (M5 : Hp) =>
 (m8.length + ([B3] : List b9).length) * 121 ≤ 140737488355328 ∧
 n2 ((m8 ++ [B3]), (IntKind.wrap .i64 (j8 + 1))) M5)) ∧
 (¬ (j8 < R4) →
 B8 m8 H K)
def C9 (x0 : Sl) (H : Hp) (K : Sl → Hp → Prop) : Prop :=
 TL (([], 0) : (List b9) × Int) H fun (s : (List b9) × Int) H n2 => B9 x0 (x0.n : Int) s.1 s.2 H n2 K
theorem a0M (x0 : Sl) {K : Sl → Hp → Prop} (I : Inv w0 ps0 H0 H [] w) (hR : ∀ (r0 : Sl) (H' : Hp) (w' : World) (_ : Inv w0 ps0 H0 H' [] w') (_ : K r0 H'), R (vs r0) w') (h : C9 x0 H K) : F84 (vs x0) (fC 85) w R E := by
 unfold C9 at h
 unfold F84
 have hj1 : ∀ (F5 : (List b9)) (s8 : Sl) (Fs5j1 : Frag) (H : Hp) (w : World) (_ : RowL 63 6 d8 s8 F5 Fs5j1) (_ : Inv w0 ps0 H0 H [Fs5j1] w) (_ : B8 F5 H K), d0x (vs s8) w R E := by
  intro F5 s8 Fs5j1 H w a4T I h
  unfold d0x
  intro _
  unfold B8 at h
  obtain ⟨F8, a0Y, a5W, a1v, a3F⟩ := Inv.freezeC I a4T (by decide)
  replace h := h s8 F8 a5W a1v a3F
  exact hR s8 F8 _ a0Y h
 refine A7 fun j1 hx1 => ?_
 refine a7 (a3O _ _ _) ?_
 obtain ⟨X1, M0, a7y, a0Z⟩ := h
 refine M9 (J := fun n l w => ∃ (s : (List b9) × Int) (H : Hp) (F6 : Sl) (Fs5l2 : Frag) , n = M0 s ∧ l = (match s with | (m8, j8) => [(vs F6), (vi j8)]) ∧ (match s with | (m8, j8) => RowL 63 6 d8 F6 m8 Fs5l2) ∧ (match s with | (m8, j8) => Inv w0 ps0 H0 H [Fs5l2] w) ∧ X1 s H) ⟨_, ([], 0), H, (Sl.mk none 0 0), [], rfl, rfl, (RowL.nil a6M a8y), I.nil, a7y⟩ ?_
 rintro b8I τ_50 w next2 ⟨⟨m8, j8⟩, H, F6, Fs5l2, rfl, V4, Q1, I, a7z⟩ hn2
 dsimp only at V4 I Q1
 simp only [List.map_cons, List.map_nil, List.cons.injEq, and_true] at V4
 obtain ⟨e5, e10⟩ := V4
 simp only [e5, e10]
 obtain ⟨n2, hm2, h⟩ : ∃ n2 : ((List b9) × Int) → Hp → Prop, (∀ s' H', n2 s' H' → X1 s' H' ∧ M0 s' < M0 (m8, j8)) ∧ B9 x0 (x0.n : Int) m8 j8 H n2 K := ⟨_, fun _ _ h => h, a0Z (m8, j8) H (fun s' H' => X1 s' H' ∧ M0 s' < M0 (m8, j8)) a7z (fun _ _ a b => ⟨a, b⟩)⟩
 unfold d8t
 unfold B9 at h
 refine a7 (F4 _ _ _ _ _ _) ?_
 refine j7 (fun T5 => ?_) (fun T5 => ?_)
 ·replace h := h.1 T5
  obtain ⟨h_4, h_5, x_1, h_7, h⟩ := h
  obtain ⟨g_2, o_3, h_6, h_7⟩ := h_7
  refine a7 (a9K h_6 _ _ _ _ h_4 h_5) ?_
  refine d6 (ldA (vs := (d8 x_1)) Tryd.isAgg63 Tryd.sizeOf63 rfl (I.atH h_7)) ?_
  refine y8 I Tryd.zeroValue63 (cs := [(vi 0), (eS), (nS), (nS), (nS), (nS)]) rfl fun g_9 o7 V5 a7A => ?_
  refine m6 V5 Tryd.sizeOf63 (vs := (d8 x_1)) (cs' := (d8 x_1)) rfl rfl (nb rfl) rfl rfl fun V0 J6 a1w => ?_
  refine d6 (ldA Tryd.isAgg63 Tryd.sizeOf63 rfl (J6.at1 (o := 0) (vs := (d8 x_1)) (nb rfl) rfl)) ?_
  refine f2 (cap := []) (fun args w => Tryd.call85 args w) ?_
  refine i8 (Fi := []) (Fr := [bx g_9 63 (d8 x_1), Fs5l2]) J6 (h) (fun b4E M5 b2v Y8 a0E b4F b4G a5k => ?_) (fun _ _ _ _ _ q => q.elim)
  obtain ⟨B3, rfl, rfl, h⟩ := a5k
  refine a3h (e := 63) (c := d8) (xs := [B3]) a0E (d1A _ _ _ _ _ _ _ _ _ _ _ _ _ _) rfl rfl a6M a8y (nb rfl) fun b0V a9x E5 a4d S8 a8h => ?_
  obtain ⟨a5l, h⟩ := h
  refine d6y (s := F6) (xs := m8) (S8.bring 2) Q1 (a4d.srcO ((S8.bring 2).bring 1)) a5l fun a3G a6Y E3 a5j a1x a9X => ?_
  refine a7 (K3 _ _ _ _ _ _) ?_
  exact hn2 _ _ _ (hm2 _ _ h).2 ⟨((m8 ++ [B3]), (IntKind.wrap .i64 (j8 + 1))), M5, a3G, a6Y, rfl, rfl, a5j, ((a1x.bring 1).drop.bring 1).drop, (hm2 _ _ h).1⟩
 ·replace h := h.2 T5
  exact hx1 _ _ (hj1 m8 F6 Fs5l2 H _ Q1 I h)
theorem a1p (x0 : Sl) {H : Hp} {K : Sl → Hp → Prop} (h : C9 x0 H K) : z8 x0 H K := by
 intro w I
 refine f9v ?_
 refine a0M x0 I (fun r0 H' w' I' hk => ⟨H', _, I', r0, rfl, rfl, hk⟩) h
def a4Y (x0 : j6) (H : Hp) (K : j6 → Int → Hp → Prop) : Prop :=
 a1P x0 H (fun (g5 : Int) (F3 : Hp) =>
 (¬ (g5 = 0) →
 K (j6.mk (Sl.mk none 0 0) (Sl.mk none 0 0)) g5 F3) ∧
 (g5 = 0 →
 O9 x0.T9 F3 (fun (a8A : Sl) (c1v : Hp) =>
 z8 x0.a1y c1v (fun (i7 : Sl) (a7c : Hp) =>
 K (j6.mk a8A i7) 0 a7c))))
theorem b7R (x0 : j6) {K : j6 → Int → Hp → Prop} (I : Inv w0 ps0 H0 H [] w) (hR : ∀ (r0 : j6) (r1 : Int) (H' : Hp) (w' : World) (_ : Inv w0 ps0 H0 H' [] w') (_ : K r0 r1 H'), R (Value.tuple #[(Value.agg (f5 r0).toArray), (vi r1)]) w') (h : a4Y x0 H K) : F50 (Value.agg (f5 x0).toArray) w R E := by
 unfold a4Y at h
 unfold F50
 refine J3 I (cs := (f5 x0)) rfl fun g_2 w_3 I_4 k_5 => ?_
 refine y8 I_4 Tryd.zeroValue44 (cs := [(nS), (nS)]) rfl fun g_7 w_8 I_9 a7x => ?_
 refine d6 (ldA Tryd.isAgg44 Tryd.sizeOf44 rfl ((I_9.bring 1).at1 (o := 0) (vs := (f5 x0)) (nb rfl) rfl)) ?_
 refine f2 (cap := []) (fun args w => Tryd.call53 args w) ?_
 refine i8 (Fi := []) (Fr := [bx g_7 44 [(nS), (nS)], bx g_2 44 (f5 x0)]) I_9 (h) (fun a6Z F3 b2w o4 R8 a7B a7C a6s => ?_) (fun _ _ _ _ _ q => q.elim)
 obtain ⟨g5, rfl, rfl, h⟩ := a6s
 refine a7 (T0 _ _ _ _ _ _) ?_
 refine a0s (fun c2h => ?_) (fun c2h => ?_)
 ·replace h := h.1 c2h
  refine a7 (c5J ) ?_
  refine m6 R8 Tryd.sizeOf44 (vs := [(nS), (nS)]) (cs' := [(nS), (nS)]) rfl rfl (nb rfl) rfl rfl fun u1 a4D b8F => ?_
  refine K6 Tryd.isAgg44 Tryd.sizeOf44 rfl (a4D.at1 (o := 0) (vs := [(nS), (nS)]) (nb rfl) rfl) ?_
  exact hR (j6.mk (Sl.mk none 0 0) (Sl.mk none 0 0)) g5 F3 _ a4D.drop.drop h
 ·replace h := h.2 c2h
  refine a3v R8 fun a7p a5m => ?_
  refine r9 a9c ?_
  refine r9 a6c ?_
  refine K0 (ld1 Tryd.isAgg41 ((a5m.bring 1).at1 (o := 0) (vs := [(vs x0.T9)]) (nb rfl) rfl)) ?_
  refine K0 (ld1 Tryd.isAgg42 ((a5m.bring 1).at1 (o := 1) (vs := [(vs x0.a1y)]) (nb rfl) rfl)) ?_
  refine f2 (cap := []) (fun args w => Tryd.call83 args w) ?_
  refine i8 (Fi := []) (Fr := [bx g_7 44 [(nS), (nS)], bx g_2 44 (f5 x0)]) a5m (h) (fun g5y c1v g5z z6 b0g g5A c8Y e0i => ?_) (fun _ _ _ _ _ q => q.elim)
  obtain ⟨a8A, rfl, rfl, h⟩ := e0i
  refine ⟨(c8Y _ (a5m.bring 1).lt1 (Inv.a3s (Fi := []) (a5m.bring 1))), ?_⟩
  refine f2 (cap := []) (fun args w => Tryd.call84 args w) ?_
  refine i8 (Fi := []) (Fr := [bx g_7 44 [(nS), (nS)], bx g_2 44 (f5 x0)]) b0g (h) (fun f3O a7c f3P a9z a1x a5W a9X c8Z => ?_) (fun _ _ _ _ _ q => q.elim)
  obtain ⟨i7, rfl, rfl, h⟩ := c8Z
  refine r9 (c6f _ _ _ _ _ _) ?_
  refine m6 a1x Tryd.sizeOf44 (vs := [(vs a8A), (vs i7)]) (cs' := [(vs a8A), (vs i7)]) rfl rfl (nb rfl) rfl rfl fun b6j b4Z e1y => ?_
  refine K6 Tryd.isAgg44 Tryd.sizeOf44 rfl (b4Z.at1 (o := 0) (vs := [(vs a8A), (vs i7)]) (nb rfl) rfl) ?_
  exact hR (j6.mk a8A i7) 0 a7c _ b4Z.drop.drop h
theorem b9q (x0 : j6) {H : Hp} {K : j6 → Int → Hp → Prop} (h : a4Y x0 H K) : a7s x0 H K := by
 intro w I
 refine f9r ?_
 refine b7R x0 I (fun r0 r1 H' w' I' hk => ⟨H', _, I', r0, r1, rfl, rfl, hk⟩) h
end Go.Proofs.YtnhkdkcgdcgmdaaDoor
