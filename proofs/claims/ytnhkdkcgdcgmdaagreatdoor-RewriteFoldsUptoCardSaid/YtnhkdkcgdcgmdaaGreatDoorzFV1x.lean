/- Typed formulas of the program's functions that few laws need; printed by lift.py off the code. -/
import Derived.Test.YtnhkdkcgdcgmdaaGreatDoorzFV1
import Derived.Test.YtnhkdkcgdcgmdaaGreatDoorzFG1x
namespace Go.Proofs.YtnhkdkcgdcgmdaaGreatDoor
open Go.RowKit
set_option maxRecDepth 100000
set_option maxHeartbeats 2000000
variable {w0 w : World} {ps0 : Nat → Prop} {H0 H : Hp} {R : RT} {E : Pan}
def O9 (x0 : Sl) (H : Hp) (K : Sl → Hp → Prop) : Prop :=
 (x0.a.isNone = true →
 K (Sl.mk none 0 0) H) ∧
 (x0.a.isNone = false →
 ∃ d9M : List I3, SlH H 2 y8 x0 d9M ∧ (([] : List I3).length + d9M.length) * 25 ≤ 140737488355328 ∧
 ∀ (s_8 : Sl) (b2f : Hp), Hle H b2f → SlH b2f 2 y8 s_8 d9M → s_8.n ≤ s_8.c →
 K s_8 b2f)
theorem a8X (x0 : Sl) {K : Sl → Hp → Prop} (I : Inv w0 ps0 H0 H [] w) (hR : ∀ (r0 : Sl) (H' : Hp) (w' : World) (_ : Inv w0 ps0 H0 H' [] w') (_ : K r0 H'), R (vs r0) w') (h : O9 x0 H K) : F44 (vs x0) w R E := by
 unfold O9 at h
 unfold F44
 refine a7 (e6a _ _ x0) ?_
 refine o0 (fun b4L => ?_) (fun b4L => ?_)
 ·replace h := h.1 b4L
  exact hR (Sl.mk none 0 0) H _ I h
 ·replace h := h.2 b4L
  refine a5A (e := 71) (c := y8) (xs := []) I (g6T) rfl rfl b4c c7N (nb rfl) fun s_2 F_3 w_4 h_5 I_6 k_7 => ?_
  obtain ⟨d9M, a7J, h⟩ := h
  obtain ⟨f9q, h⟩ := h
  refine f5t (s := s_2) (xs := []) I_6 h_5 (SlH.src I_6 a7J b4c) f9q fun s_8 F_9 p5 f1W B1 b6Y => ?_
  simp only [List.nil_append] at f1W
  obtain ⟨b2f, a3y, a8Y, g3Q, k4M⟩ := Inv.freezeC B1 f1W (by decide)
  replace h := h s_8 b2f a8Y g3Q k4M
  exact hR s_8 b2f _ a3y h
theorem a9o (x0 : Sl) {H : Hp} {K : Sl → Hp → Prop} (h : O9 x0 H K) : V5 x0 H K := by
 intro w I
 refine j3A ?_
 refine a8X x0 I (fun r0 H' w' I' hk => ⟨H', _, I', r0, rfl, rfl, hk⟩) h
def a6W (x0 : a8) (H : Hp) (K : a8 → Hp → Prop) : Prop :=
 B7 x0.i4 H (fun (o9 : Sl) (a1j : Hp) =>
 K (a8.mk x0.b6 x0.m8 x0.g7 o9) a1j)
theorem c2G (x0 : a8) {K : a8 → Hp → Prop} (I : Inv w0 ps0 H0 H [] w) (hR : ∀ (r0 : a8) (H' : Hp) (w' : World) (_ : Inv w0 ps0 H0 H' [] w') (_ : K r0 H'), R (Value.agg (b7 r0).toArray) w') (h : a6W x0 H K) : F81 (Value.agg (b7 x0).toArray) w R E := by
 unfold a6W at h
 unfold F81
 refine J5 I (cs := (b7 x0)) rfl fun g_2 w_3 I_4 k_5 => ?_
 refine z7 I_4 Tryz.zeroValue53 (cs := [(vi 0), (vi 0), (eS), (nS)]) rfl fun g_7 w_8 I_9 b0M => ?_
 refine a7 v8 ?_
 refine f7 (ld1 Tryz.isAgg51 ((I_9.bring 1).at1 (o := 3) (vs := [(vs x0.i4)]) (nb rfl) rfl)) ?_
 refine g9 (cap := []) (fun args w => Tryz.call80 args w) ?_
 refine l7 (Fi := []) (Fr := [bx g_7 53 [(vi 0), (vi 0), (eS), (nS)], bx g_2 53 (b7 x0)]) I_9 (h) (fun d2A a1j d2B q8 a8L c6v d2C b4H => ?_) (fun _ _ _ _ _ q => q.elim)
 obtain ⟨o9, rfl, rfl, h⟩ := b4H
 refine a7 v8 ?_
 refine m6 (a8L.bring 1) Tryz.sizeOf51 (vs := [(vs o9)]) (cs' := [(vi x0.b6), (vi x0.m8), (Value.string x0.g7), (vs o9)]) rfl rfl (nb rfl) rfl rfl fun r9 a0h b4p => ?_
 refine f7 (ldA Tryz.isAgg53 Tryz.sizeOf53 rfl (a0h.at1 (o := 0) (vs := [(vi x0.b6), (vi x0.m8), (Value.string x0.g7), (vs o9)]) (nb rfl) rfl)) ?_
 refine m6 (a0h.bring 1) Tryz.sizeOf53 (vs := [(vi x0.b6), (vi x0.m8), (Value.string x0.g7), (vs o9)]) (cs' := [(vi x0.b6), (vi x0.m8), (Value.string x0.g7), (vs o9)]) rfl rfl (nb rfl) rfl rfl fun b0C a5E e2r => ?_
 refine B0 Tryz.isAgg53 Tryz.sizeOf53 rfl (a5E.at1 (o := 0) (vs := [(vi x0.b6), (vi x0.m8), (Value.string x0.g7), (vs o9)]) (nb rfl) rfl) ?_
 exact hR (a8.mk x0.b6 x0.m8 x0.g7 o9) a1j _ a5E.drop.drop h
theorem c4j (x0 : a8) {H : Hp} {K : a8 → Hp → Prop} (h : a6W x0 H K) : a9U x0 H K := by
 intro w I
 refine j3L ?_
 refine c2G x0 I (fun r0 H' w' I' hk => ⟨H', _, I', r0, rfl, rfl, hk⟩) h
def D8 (J6 : (List a8)) (H : Hp) (K : Sl → Hp → Prop) : Prop :=
 ∀ (w6 : Sl) (J9 : Hp), Hle H J9 → SlH J9 4 b7 w6 J6 → w6.n ≤ w6.c →
 K w6 J9
def D9 (O0 : Sl) (a5d : Int) (p9 : (List a8)) (p1 : Int) (H : Hp) (n2 : ((List a8) × Int) → Hp → Prop) (K : Sl → Hp → Prop) : Prop :=
 (p1 < a5d →
 (0 : Int) ≤ p1 ∧ (p1 : Int) < O0.n ∧ ∃ x_1 : a8, EltH H O0 p1 4 (b7 x_1) ∧
 a9U x_1 H (fun (D7 : a8) (R6 : Hp) =>
 (p9.length + ([D7] : List a8).length) * 57 ≤ 140737488355328 ∧
 n2 ((p9 ++ [D7]), (IntKind.wrap .i64 (p1 + 1))) R6)) ∧
 (¬ (p1 < a5d) →
 D8 p9 H K)
def G3 (x0 : Sl) (H : Hp) (K : Sl → Hp → Prop) : Prop :=
 TL (([], 0) : (List a8) × Int) H fun (s : (List a8) × Int) H n2 => D9 x0 (x0.n : Int) s.1 s.2 H n2 K
theorem a4H (x0 : Sl) {K : Sl → Hp → Prop} (I : Inv w0 ps0 H0 H [] w) (hR : ∀ (r0 : Sl) (H' : Hp) (w' : World) (_ : Inv w0 ps0 H0 H' [] w') (_ : K r0 H'), R (vs r0) w') (h : G3 x0 H K) : F80 (vs x0) (fC 81) w R E := by
 unfold G3 at h
 unfold F80
 have hj1 : ∀ (J6 : (List a8)) (w6 : Sl) (Fs5j1 : Frag) (H : Hp) (w : World) (_ : RowL 53 4 b7 w6 J6 Fs5j1) (_ : Inv w0 ps0 H0 H [Fs5j1] w) (_ : D8 J6 H K), e5Q (vs w6) w R E := by
  intro J6 w6 Fs5j1 H w a9B I h
  unfold e5Q
  intro _
  unfold D8 at h
  obtain ⟨J9, a9Y, b0K, a7g, a6p⟩ := Inv.freezeC I a9B (by decide)
  replace h := h w6 J9 b0K a7g a6p
  exact hR w6 J9 _ a9Y h
 refine t6 fun j1 hx1 => ?_
 refine a7 (J3 _ _ _) ?_
 obtain ⟨a2t, Q6, b2J, b2K⟩ := h
 refine B5 (J := fun n l w => ∃ (s : (List a8) × Int) (H : Hp) (J7 : Sl) (Fs5l2 : Frag) , n = Q6 s ∧ l = (match s with | (p9, p1) => [(vs J7), (vi p1)]) ∧ (match s with | (p9, p1) => RowL 53 4 b7 J7 p9 Fs5l2) ∧ (match s with | (p9, p1) => Inv w0 ps0 H0 H [Fs5l2] w) ∧ a2t s H) ⟨_, ([], 0), H, (Sl.mk none 0 0), [], rfl, rfl, (RowL.nil N7 N8), I.nil, b2J⟩ ?_
 rintro c8O τ_50 w next2 ⟨⟨p9, p1⟩, H, J7, Fs5l2, rfl, a1D, W7, I, b2L⟩ hn2
 dsimp only at a1D I W7
 simp only [List.map_cons, List.map_nil, List.cons.injEq, and_true] at a1D
 obtain ⟨e5, e10⟩ := a1D
 simp only [e5, e10]
 obtain ⟨n2, hm2, h⟩ : ∃ n2 : ((List a8) × Int) → Hp → Prop, (∀ s' H', n2 s' H' → a2t s' H' ∧ Q6 s' < Q6 (p9, p1)) ∧ D9 x0 (x0.n : Int) p9 p1 H n2 K := ⟨_, fun _ _ h => h, b2K (p9, p1) H (fun s' H' => a2t s' H' ∧ Q6 s' < Q6 (p9, p1)) b2L (fun _ _ a b => ⟨a, b⟩)⟩
 unfold f8m
 unfold D9 at h
 refine a7 (w9 _ _ _ _ _ _) ?_
 refine k7 (fun a0p => ?_) (fun a0p => ?_)
 ·replace h := h.1 a0p
  obtain ⟨h_4, h_5, x_1, h_7, h⟩ := h
  obtain ⟨g_2, o_3, h_6, h_7⟩ := h_7
  refine a7 (A0 h_6 _ _ _ _ h_4 h_5) ?_
  refine f7 (ldA (vs := (b7 x_1)) Tryz.isAgg53 Tryz.sizeOf53 rfl (I.atH h_7)) ?_
  refine z7 I Tryz.zeroValue53 (cs := [(vi 0), (vi 0), (eS), (nS)]) rfl fun g_9 p5 a3l b4q => ?_
  refine m6 a3l Tryz.sizeOf53 (vs := (b7 x_1)) (cs' := (b7 x_1)) rfl rfl (nb rfl) rfl rfl fun a2s L9 a4z => ?_
  refine f7 (ldA Tryz.isAgg53 Tryz.sizeOf53 rfl (L9.at1 (o := 0) (vs := (b7 x_1)) (nb rfl) rfl)) ?_
  refine g9 (cap := []) (fun args w => Tryz.call81 args w) ?_
  refine l7 (Fi := []) (Fr := [bx g_9 53 (b7 x_1), Fs5l2]) L9 (h) (fun c3E R6 c0F a1B a3y c3F c0G a9Z => ?_) (fun _ _ _ _ _ q => q.elim)
  obtain ⟨D7, rfl, rfl, h⟩ := a9Z
  refine a5A (e := 53) (c := b7) (xs := [D7]) a3y (b6N _ _ _ _ _ _) rfl rfl N7 N8 (nb rfl) fun b0a b3K B3 a7h T8 a9i => ?_
  obtain ⟨b0b, h⟩ := h
  refine c8e (s := J7) (xs := p9) (T8.bring 2) W7 (a7h.srcO ((T8.bring 2).bring 1)) b0b fun a8c b0L A6 b0c a5D b7a => ?_
  refine a7 (y6 _ _ _ _ _ _) ?_
  exact hn2 _ _ _ (hm2 _ _ h).2 ⟨((p9 ++ [D7]), (IntKind.wrap .i64 (p1 + 1))), R6, a8c, b0L, rfl, rfl, b0c, ((a5D.bring 1).drop.bring 1).drop, (hm2 _ _ h).1⟩
 ·replace h := h.2 a0p
  exact hx1 _ _ (hj1 p9 J7 Fs5l2 H _ W7 I h)
theorem a5u (x0 : Sl) {H : Hp} {K : Sl → Hp → Prop} (h : G3 x0 H K) : B7 x0 H K := by
 intro w I
 refine j3J ?_
 refine a4H x0 I (fun r0 H' w' I' hk => ⟨H', _, I', r0, rfl, rfl, hk⟩) h
def a6X (x0 : b8) (H : Hp) (K : b8 → Hp → Prop) : Prop :=
 B7 x0.i6 H (fun (y7 : Sl) (a5j : Hp) =>
 F9 x0.p8 a5j (fun (v6 : Sl) (a4A : Hp) =>
 K (b8.mk x0.b6 x0.fOp y7 v6) a4A))
theorem c2H (x0 : b8) {K : b8 → Hp → Prop} (I : Inv w0 ps0 H0 H [] w) (hR : ∀ (r0 : b8) (H' : Hp) (w' : World) (_ : Inv w0 ps0 H0 H' [] w') (_ : K r0 H'), R (Value.agg (d6 r0).toArray) w') (h : a6X x0 H K) : F83 (Value.agg (d6 x0).toArray) w R E := by
 unfold a6X at h
 unfold F83
 refine J5 I (cs := (d6 x0)) rfl fun g_2 w_3 I_4 k_5 => ?_
 refine z7 I_4 Tryz.zeroValue59 (cs := [(vi 0), (vi 0), (nS), (nS)]) rfl fun g_7 w_8 I_9 b0M => ?_
 refine a5z I_9 fun P0 B1 => ?_
 refine q9 M4 ?_
 refine q9 E5 ?_
 refine A5 (ld1 Tryz.isAgg51 ((B1.bring 1).at1 (o := 2) (vs := [(vs x0.i6)]) (nb rfl) rfl)) ?_
 refine A5 (ld1 Tryz.isAgg57 ((B1.bring 1).at1 (o := 3) (vs := [(vs x0.p8)]) (nb rfl) rfl)) ?_
 refine g9 (cap := []) (fun args w => Tryz.call80 args w) ?_
 refine l7 (Fi := []) (Fr := [bx g_7 59 [(vi 0), (vi 0), (nS), (nS)], bx g_2 59 (d6 x0)]) B1 (h) (fun j3f a5j j3g p6 c0R d7t c5Y e5r => ?_) (fun _ _ _ _ _ q => q.elim)
 obtain ⟨y7, rfl, rfl, h⟩ := e5r
 refine ⟨(c5Y _ (B1.bring 1).lt1 (Inv.a3h (Fi := []) (B1.bring 1))), ?_⟩
 refine q9 M4 ?_
 refine g9 (cap := []) (fun args w => Tryz.call82 args w) ?_
 refine l7 (Fi := []) (Fr := [bx g_7 59 [(vi 0), (vi 0), (nS), (nS)], bx g_2 59 (d6 x0)]) c0R (h) (fun f9K a4A b3K b0C a5E f9L e2r d2v => ?_) (fun _ _ _ _ _ q => q.elim)
 obtain ⟨v6, rfl, rfl, h⟩ := d2v
 refine m6 (a5E.bring 1) Tryz.sizeOf51 (vs := [(vs y7)]) (cs' := [(vi x0.b6), (vi x0.fOp), (vs y7), (vs x0.p8)]) rfl rfl (nb rfl) rfl rfl fun b2w e5s j3h => ?_
 refine q9 E5 ?_
 refine m6 e5s Tryz.sizeOf57 (vs := [(vs v6)]) (cs' := [(vi x0.b6), (vi x0.fOp), (vs y7), (vs v6)]) rfl rfl (nb rfl) rfl rfl fun A6 a4b c3H => ?_
 refine f7 (ldA Tryz.isAgg59 Tryz.sizeOf59 rfl (a4b.at1 (o := 0) (vs := [(vi x0.b6), (vi x0.fOp), (vs y7), (vs v6)]) (nb rfl) rfl)) ?_
 refine m6 (a4b.bring 1) Tryz.sizeOf59 (vs := [(vi x0.b6), (vi x0.fOp), (vs y7), (vs v6)]) (cs' := [(vi x0.b6), (vi x0.fOp), (vs y7), (vs v6)]) rfl rfl (nb rfl) rfl rfl fun b2x b2g e9M => ?_
 refine B0 Tryz.isAgg59 Tryz.sizeOf59 rfl (b2g.at1 (o := 0) (vs := [(vi x0.b6), (vi x0.fOp), (vs y7), (vs v6)]) (nb rfl) rfl) ?_
 exact hR (b8.mk x0.b6 x0.fOp y7 v6) a4A _ b2g.drop.drop h
theorem c4k (x0 : b8) {H : Hp} {K : b8 → Hp → Prop} (h : a6X x0 H K) : a9V x0 H K := by
 intro w I
 refine j3Q ?_
 refine c2H x0 I (fun r0 H' w' I' hk => ⟨H', _, I', r0, rfl, rfl, hk⟩) h
def E0 (J6 : (List b8)) (H : Hp) (K : Sl → Hp → Prop) : Prop :=
 ∀ (w6 : Sl) (J9 : Hp), Hle H J9 → SlH J9 4 d6 w6 J6 → w6.n ≤ w6.c →
 K w6 J9
def E1 (O0 : Sl) (a5d : Int) (p9 : (List b8)) (p1 : Int) (H : Hp) (n2 : ((List b8) × Int) → Hp → Prop) (K : Sl → Hp → Prop) : Prop :=
 (p1 < a5d →
 (0 : Int) ≤ p1 ∧ (p1 : Int) < O0.n ∧ ∃ x_1 : b8, EltH H O0 p1 4 (d6 x_1) ∧
 a9V x_1 H (fun (D7 : b8) (R6 : Hp) =>
 (p9.length + ([D7] : List b8).length) * 65 ≤ 140737488355328 ∧
 n2 ((p9 ++ [D7]), (IntKind.wrap .i64 (p1 + 1))) R6)) ∧
 (¬ (p1 < a5d) →
 E0 p9 H K)
def G4 (x0 : Sl) (H : Hp) (K : Sl → Hp → Prop) : Prop :=
 TL (([], 0) : (List b8) × Int) H fun (s : (List b8) × Int) H n2 => E1 x0 (x0.n : Int) s.1 s.2 H n2 K
theorem a4I (x0 : Sl) {K : Sl → Hp → Prop} (I : Inv w0 ps0 H0 H [] w) (hR : ∀ (r0 : Sl) (H' : Hp) (w' : World) (_ : Inv w0 ps0 H0 H' [] w') (_ : K r0 H'), R (vs r0) w') (h : G4 x0 H K) : F82 (vs x0) (fC 83) w R E := by
 unfold G4 at h
 unfold F82
 have hj1 : ∀ (J6 : (List b8)) (w6 : Sl) (Fs5j1 : Frag) (H : Hp) (w : World) (_ : RowL 59 4 d6 w6 J6 Fs5j1) (_ : Inv w0 ps0 H0 H [Fs5j1] w) (_ : E0 J6 H K), e5R (vs w6) w R E := by
  intro J6 w6 Fs5j1 H w a9B I h
  unfold e5R
  intro _
  unfold E0 at h
  obtain ⟨J9, a9Y, b0K, a7g, a6p⟩ := Inv.freezeC I a9B (by decide)
  replace h := h w6 J9 b0K a7g a6p
  exact hR w6 J9 _ a9Y h
 refine t6 fun j1 hx1 => ?_
 refine a7 (U9 _ _ _) ?_
 obtain ⟨a2t, Q6, b2J, b2K⟩ := h
 refine B5 (J := fun n l w => ∃ (s : (List b8) × Int) (H : Hp) (J7 : Sl) (Fs5l2 : Frag) , n = Q6 s ∧ l = (match s with | (p9, p1) => [(vs J7), (vi p1)]) ∧ (match s with | (p9, p1) => RowL 59 4 d6 J7 p9 Fs5l2) ∧ (match s with | (p9, p1) => Inv w0 ps0 H0 H [Fs5l2] w) ∧ a2t s H) ⟨_, ([], 0), H, (Sl.mk none 0 0), [], rfl, rfl, (RowL.nil a2F a2G), I.nil, b2J⟩ ?_
 rintro c8O τ_50 w next2 ⟨⟨p9, p1⟩, H, J7, Fs5l2, rfl, a1D, W7, I, b2L⟩ hn2
 dsimp only at a1D I W7
 simp only [List.map_cons, List.map_nil, List.cons.injEq, and_true] at a1D
 obtain ⟨e5, e10⟩ := a1D
 simp only [e5, e10]
 obtain ⟨n2, hm2, h⟩ : ∃ n2 : ((List b8) × Int) → Hp → Prop, (∀ s' H', n2 s' H' → a2t s' H' ∧ Q6 s' < Q6 (p9, p1)) ∧ E1 x0 (x0.n : Int) p9 p1 H n2 K := ⟨_, fun _ _ h => h, b2K (p9, p1) H (fun s' H' => a2t s' H' ∧ Q6 s' < Q6 (p9, p1)) b2L (fun _ _ a b => ⟨a, b⟩)⟩
 unfold f8n
 unfold E1 at h
 refine a7 (w9 _ _ _ _ _ _) ?_
 refine k7 (fun a0p => ?_) (fun a0p => ?_)
 ·replace h := h.1 a0p
  obtain ⟨h_4, h_5, x_1, h_7, h⟩ := h
  obtain ⟨g_2, o_3, h_6, h_7⟩ := h_7
  refine a7 (S7 h_6 _ _ _ _ h_4 h_5) ?_
  refine f7 (ldA (vs := (d6 x_1)) Tryz.isAgg59 Tryz.sizeOf59 rfl (I.atH h_7)) ?_
  refine z7 I Tryz.zeroValue59 (cs := [(vi 0), (vi 0), (nS), (nS)]) rfl fun g_9 p5 a3l b4q => ?_
  refine m6 a3l Tryz.sizeOf59 (vs := (d6 x_1)) (cs' := (d6 x_1)) rfl rfl (nb rfl) rfl rfl fun a2s L9 a4z => ?_
  refine f7 (ldA Tryz.isAgg59 Tryz.sizeOf59 rfl (L9.at1 (o := 0) (vs := (d6 x_1)) (nb rfl) rfl)) ?_
  refine g9 (cap := []) (fun args w => Tryz.call83 args w) ?_
  refine l7 (Fi := []) (Fr := [bx g_9 59 (d6 x_1), Fs5l2]) L9 (h) (fun c3E R6 c0F a1B a3y c3F c0G a9Z => ?_) (fun _ _ _ _ _ q => q.elim)
  obtain ⟨D7, rfl, rfl, h⟩ := a9Z
  refine a5A (e := 59) (c := d6) (xs := [D7]) a3y (c9U _ _ _ _ _ _ _ _) rfl rfl a2F a2G (nb rfl) fun b0a b3K B3 a7h T8 a9i => ?_
  obtain ⟨b0b, h⟩ := h
  refine d3C (s := J7) (xs := p9) (T8.bring 2) W7 (a7h.srcO ((T8.bring 2).bring 1)) b0b fun a8c b0L A6 b0c a5D b7a => ?_
  refine a7 (y6 _ _ _ _ _ _) ?_
  exact hn2 _ _ _ (hm2 _ _ h).2 ⟨((p9 ++ [D7]), (IntKind.wrap .i64 (p1 + 1))), R6, a8c, b0L, rfl, rfl, b0c, ((a5D.bring 1).drop.bring 1).drop, (hm2 _ _ h).1⟩
 ·replace h := h.2 a0p
  exact hx1 _ _ (hj1 p9 J7 Fs5l2 H _ W7 I h)
theorem a5v (x0 : Sl) {H : Hp} {K : Sl → Hp → Prop} (h : G4 x0 H K) : F9 x0 H K := by
 intro w I
 refine j3N ?_
 refine a4I x0 I (fun r0 H' w' I' hk => ⟨H', _, I', r0, rfl, rfl, hk⟩) h
def a6Y (x0 : d8) (H : Hp) (K : d8 → Hp → Prop) : Prop :=
 B7 x0.i6 H (fun (y7 : Sl) (a5j : Hp) =>
 F9 x0.m9 a5j (fun (v6 : Sl) (a4A : Hp) =>
 B8 x0.v7 a4A (fun (b8m : Sl) (J9 : Hp) =>
 B8 x0.t7 J9 (fun (b9U : Sl) (g4w : Hp) =>
 K (d8.mk x0.b6 x0.g7 y7 v6 b8m b9U) g4w))))
theorem c2I (x0 : d8) {K : d8 → Hp → Prop} (I : Inv w0 ps0 H0 H [] w) (hR : ∀ (r0 : d8) (H' : Hp) (w' : World) (_ : Inv w0 ps0 H0 H' [] w') (_ : K r0 H'), R (Value.agg (g8 r0).toArray) w') (h : a6Y x0 H K) : F46 (Value.agg (g8 x0).toArray) w R E := by
 unfold a6Y at h
 unfold F46
 refine J5 I (cs := (g8 x0)) rfl fun g_2 w_3 I_4 k_5 => ?_
 refine z7 I_4 Tryz.zeroValue73 (cs := [(vi 0), (eS), (nS), (nS), (nS), (nS)]) rfl fun g_7 w_8 I_9 b0M => ?_
 refine a5z I_9 fun P0 B1 => ?_
 refine q9 R8 ?_
 refine q9 M3 ?_
 refine A5 (ld1 Tryz.isAgg51 ((B1.bring 1).at1 (o := 2) (vs := [(vs x0.i6)]) (nb rfl) rfl)) ?_
 refine A5 (ld1 Tryz.isAgg57 ((B1.bring 1).at1 (o := 3) (vs := [(vs x0.m9)]) (nb rfl) rfl)) ?_
 refine g9 (cap := []) (fun args w => Tryz.call80 args w) ?_
 refine l7 (Fi := []) (Fr := [bx g_7 73 [(vi 0), (eS), (nS), (nS), (nS), (nS)], bx g_2 73 (g8 x0)]) B1 (h) (fun j3f a5j j3g p6 c0R d7t c5Y e5r => ?_) (fun _ _ _ _ _ q => q.elim)
 obtain ⟨y7, rfl, rfl, h⟩ := e5r
 refine ⟨(c5Y _ (B1.bring 1).lt1 (Inv.a3h (Fi := []) (B1.bring 1))), ?_⟩
 refine q9 R8 ?_
 refine g9 (cap := []) (fun args w => Tryz.call82 args w) ?_
 refine l7 (Fi := []) (Fr := [bx g_7 73 [(vi 0), (eS), (nS), (nS), (nS), (nS)], bx g_2 73 (g8 x0)]) c0R (h) (fun f9K a4A b3K b0C a5E f9L e2r d2v => ?_) (fun _ _ _ _ _ q => q.elim)
 obtain ⟨v6, rfl, rfl, h⟩ := d2v
 refine m6 (a5E.bring 1) Tryz.sizeOf51 (vs := [(vs y7)]) (cs' := [(vi x0.b6), (Value.string x0.g7), (vs y7), (vs x0.m9), (vs x0.v7), (vs x0.t7)]) rfl rfl (nb rfl) rfl rfl fun b2w e5s j3h => ?_
 refine q9 M3 ?_
 refine m6 e5s Tryz.sizeOf57 (vs := [(vs v6)]) (cs' := [(vi x0.b6), (Value.string x0.g7), (vs y7), (vs v6), (vs x0.v7), (vs x0.t7)]) rfl rfl (nb rfl) rfl rfl fun A6 a4b c3H => ?_
 refine a5z a4b fun b2x b2g => ?_
 refine q9 Y7 ?_
 refine q9 W5 ?_
 refine A5 (ld1 Tryz.isAgg23 (b2g.at1 (o := 4) (vs := [(vs x0.v7)]) (nb rfl) rfl)) ?_
 refine A5 (ld1 Tryz.isAgg23 (b2g.at1 (o := 5) (vs := [(vs x0.t7)]) (nb rfl) rfl)) ?_
 refine g9 (cap := []) (fun args w => Tryz.call45 args w) ?_
 refine l7 (Fi := []) (Fr := [bx g_2 73 [(vi x0.b6), (Value.string x0.g7), (vs y7), (vs v6), (vs x0.v7), (vs x0.t7)], bx g_7 73 [(vi 0), (eS), (nS), (nS), (nS), (nS)]]) b2g (h) (fun l2t J9 l2u I4 c1a f3g e2u k4N => ?_) (fun _ _ _ _ _ q => q.elim)
 obtain ⟨b8m, rfl, rfl, h⟩ := k4N
 refine ⟨(e2u _ b2g.lt1 (Inv.a3h (Fi := []) b2g)), ?_⟩
 refine q9 Y7 ?_
 refine g9 (cap := []) (fun args w => Tryz.call45 args w) ?_
 refine l7 (Fi := []) (Fr := [bx g_2 73 [(vi x0.b6), (Value.string x0.g7), (vs y7), (vs v6), (vs x0.v7), (vs x0.t7)], bx g_7 73 [(vi 0), (eS), (nS), (nS), (nS), (nS)]]) c1a (h) (fun l2v g4w l2w c5y f2V l2x k3Z k4O => ?_) (fun _ _ _ _ _ q => q.elim)
 obtain ⟨b9U, rfl, rfl, h⟩ := k4O
 refine m6 f2V Tryz.sizeOf23 (vs := [(vs b8m)]) (cs' := [(vi x0.b6), (Value.string x0.g7), (vs y7), (vs v6), (vs b8m), (vs x0.t7)]) rfl rfl (nb rfl) rfl rfl fun c3x b7u c9c => ?_
 refine q9 W5 ?_
 refine m6 b7u Tryz.sizeOf23 (vs := [(vs b9U)]) (cs' := [(vi x0.b6), (Value.string x0.g7), (vs y7), (vs v6), (vs b8m), (vs b9U)]) rfl rfl (nb rfl) rfl rfl fun Q3 c4h k4y => ?_
 refine f7 (ldA Tryz.isAgg73 Tryz.sizeOf73 rfl (c4h.at1 (o := 0) (vs := [(vi x0.b6), (Value.string x0.g7), (vs y7), (vs v6), (vs b8m), (vs b9U)]) (nb rfl) rfl)) ?_
 refine m6 (c4h.bring 1) Tryz.sizeOf73 (vs := [(vi x0.b6), (Value.string x0.g7), (vs y7), (vs v6), (vs b8m), (vs b9U)]) (cs' := [(vi x0.b6), (Value.string x0.g7), (vs y7), (vs v6), (vs b8m), (vs b9U)]) rfl rfl (nb rfl) rfl rfl fun d6s j3R l2y => ?_
 refine B0 Tryz.isAgg73 Tryz.sizeOf73 rfl (j3R.at1 (o := 0) (vs := [(vi x0.b6), (Value.string x0.g7), (vs y7), (vs v6), (vs b8m), (vs b9U)]) (nb rfl) rfl) ?_
 exact hR (d8.mk x0.b6 x0.g7 y7 v6 b8m b9U) g4w _ j3R.drop.drop h
theorem c4l (x0 : d8) {H : Hp} {K : d8 → Hp → Prop} (h : a6Y x0 H K) : a9W x0 H K := by
 intro w I
 refine j3H ?_
 refine c2I x0 I (fun r0 H' w' I' hk => ⟨H', _, I', r0, rfl, rfl, hk⟩) h
def E2 (J6 : (List d8)) (H : Hp) (K : Sl → Hp → Prop) : Prop :=
 ∀ (w6 : Sl) (J9 : Hp), Hle H J9 → SlH J9 6 g8 w6 J6 → w6.n ≤ w6.c →
 K w6 J9
def E3 (O0 : Sl) (a5d : Int) (p9 : (List d8)) (p1 : Int) (H : Hp) (n2 : ((List d8) × Int) → Hp → Prop) (K : Sl → Hp → Prop) : Prop :=
 (p1 < a5d →
 (0 : Int) ≤ p1 ∧ (p1 : Int) < O0.n ∧ ∃ x_1 : d8, EltH H O0 p1 6 (g8 x_1) ∧
 a9W x_1 H (fun (D7 : d8) (R6 : Hp) =>
 (p9.length + ([D7] : List d8).length) * 121 ≤ 140737488355328 ∧
 n2 ((p9 ++ [D7]), (IntKind.wrap .i64 (p1 + 1))) R6)) ∧
 (¬ (p1 < a5d) →
 E2 p9 H K)
def G5 (x0 : Sl) (H : Hp) (K : Sl → Hp → Prop) : Prop :=
 TL (([], 0) : (List d8) × Int) H fun (s : (List d8) × Int) H n2 => E3 x0 (x0.n : Int) s.1 s.2 H n2 K
theorem a4J (x0 : Sl) {K : Sl → Hp → Prop} (I : Inv w0 ps0 H0 H [] w) (hR : ∀ (r0 : Sl) (H' : Hp) (w' : World) (_ : Inv w0 ps0 H0 H' [] w') (_ : K r0 H'), R (vs r0) w') (h : G5 x0 H K) : F45 (vs x0) (fC 46) w R E := by
 unfold G5 at h
 unfold F45
 have hj1 : ∀ (J6 : (List d8)) (w6 : Sl) (Fs5j1 : Frag) (H : Hp) (w : World) (_ : RowL 73 6 g8 w6 J6 Fs5j1) (_ : Inv w0 ps0 H0 H [Fs5j1] w) (_ : E2 J6 H K), e5N (vs w6) w R E := by
  intro J6 w6 Fs5j1 H w a9B I h
  unfold e5N
  intro _
  unfold E2 at h
  obtain ⟨J9, a9Y, b0K, a7g, a6p⟩ := Inv.freezeC I a9B (by decide)
  replace h := h w6 J9 b0K a7g a6p
  exact hR w6 J9 _ a9Y h
 refine t6 fun j1 hx1 => ?_
 refine a7 (W4 _ _ _) ?_
 obtain ⟨a2t, Q6, b2J, b2K⟩ := h
 refine B5 (J := fun n l w => ∃ (s : (List d8) × Int) (H : Hp) (J7 : Sl) (Fs5l2 : Frag) , n = Q6 s ∧ l = (match s with | (p9, p1) => [(vs J7), (vi p1)]) ∧ (match s with | (p9, p1) => RowL 73 6 g8 J7 p9 Fs5l2) ∧ (match s with | (p9, p1) => Inv w0 ps0 H0 H [Fs5l2] w) ∧ a2t s H) ⟨_, ([], 0), H, (Sl.mk none 0 0), [], rfl, rfl, (RowL.nil a3F a9p), I.nil, b2J⟩ ?_
 rintro c8O τ_50 w next2 ⟨⟨p9, p1⟩, H, J7, Fs5l2, rfl, a1D, W7, I, b2L⟩ hn2
 dsimp only at a1D I W7
 simp only [List.map_cons, List.map_nil, List.cons.injEq, and_true] at a1D
 obtain ⟨e5, e10⟩ := a1D
 simp only [e5, e10]
 obtain ⟨n2, hm2, h⟩ : ∃ n2 : ((List d8) × Int) → Hp → Prop, (∀ s' H', n2 s' H' → a2t s' H' ∧ Q6 s' < Q6 (p9, p1)) ∧ E3 x0 (x0.n : Int) p9 p1 H n2 K := ⟨_, fun _ _ h => h, b2K (p9, p1) H (fun s' H' => a2t s' H' ∧ Q6 s' < Q6 (p9, p1)) b2L (fun _ _ a b => ⟨a, b⟩)⟩
 unfold f8l
 unfold E3 at h
 refine a7 (w9 _ _ _ _ _ _) ?_
 refine k7 (fun a0p => ?_) (fun a0p => ?_)
 ·replace h := h.1 a0p
  obtain ⟨h_4, h_5, x_1, h_7, h⟩ := h
  obtain ⟨g_2, o_3, h_6, h_7⟩ := h_7
  refine a7 (a0m h_6 _ _ _ _ h_4 h_5) ?_
  refine f7 (ldA (vs := (g8 x_1)) Tryz.isAgg73 Tryz.sizeOf73 rfl (I.atH h_7)) ?_
  refine z7 I Tryz.zeroValue73 (cs := [(vi 0), (eS), (nS), (nS), (nS), (nS)]) rfl fun g_9 p5 a3l b4q => ?_
  refine m6 a3l Tryz.sizeOf73 (vs := (g8 x_1)) (cs' := (g8 x_1)) rfl rfl (nb rfl) rfl rfl fun a2s L9 a4z => ?_
  refine f7 (ldA Tryz.isAgg73 Tryz.sizeOf73 rfl (L9.at1 (o := 0) (vs := (g8 x_1)) (nb rfl) rfl)) ?_
  refine g9 (cap := []) (fun args w => Tryz.call46 args w) ?_
  refine l7 (Fi := []) (Fr := [bx g_9 73 (g8 x_1), Fs5l2]) L9 (h) (fun c3E R6 c0F a1B a3y c3F c0G a9Z => ?_) (fun _ _ _ _ _ q => q.elim)
  obtain ⟨D7, rfl, rfl, h⟩ := a9Z
  refine a5A (e := 73) (c := g8) (xs := [D7]) a3y (d6l _ _ _ _ _ _ _ _ _ _ _ _ _ _) rfl rfl a3F a9p (nb rfl) fun b0a b3K B3 a7h T8 a9i => ?_
  obtain ⟨b0b, h⟩ := h
  refine c8f (s := J7) (xs := p9) (T8.bring 2) W7 (a7h.srcO ((T8.bring 2).bring 1)) b0b fun a8c b0L A6 b0c a5D b7a => ?_
  refine a7 (y6 _ _ _ _ _ _) ?_
  exact hn2 _ _ _ (hm2 _ _ h).2 ⟨((p9 ++ [D7]), (IntKind.wrap .i64 (p1 + 1))), R6, a8c, b0L, rfl, rfl, b0c, ((a5D.bring 1).drop.bring 1).drop, (hm2 _ _ h).1⟩
 ·replace h := h.2 a0p
  exact hx1 _ _ (hj1 p9 J7 Fs5l2 H _ W7 I h)
theorem a5w (x0 : Sl) {H : Hp} {K : Sl → Hp → Prop} (h : G5 x0 H K) : B8 x0 H K := by
 intro w I
 refine j3C ?_
 refine a4J x0 I (fun r0 H' w' I' hk => ⟨H', _, I', r0, rfl, rfl, hk⟩) h
def a9Q (x0 : m5) (H : Hp) (K : m5 → Int → Hp → Prop) : Prop :=
 b2b x0 H (fun (o9 : Int) (a1j : Hp) =>
 (¬ (o9 = 0) →
 K (m5.mk (Sl.mk none 0 0) (Sl.mk none 0 0)) o9 a1j) ∧
 (o9 = 0 →
 V5 x0.z8 a1j (fun (b4h : Sl) (d2H : Hp) =>
 B8 x0.V3 d2H (fun (o8 : Sl) (b2h : Hp) =>
 K (m5.mk b4h o8) 0 b2h))))
theorem c7V (x0 : m5) {K : m5 → Int → Hp → Prop} (I : Inv w0 ps0 H0 H [] w) (hR : ∀ (r0 : m5) (r1 : Int) (H' : Hp) (w' : World) (_ : Inv w0 ps0 H0 H' [] w') (_ : K r0 r1 H'), R (Value.tuple #[(Value.agg (k4 r0).toArray), (vi r1)]) w') (h : a9Q x0 H K) : F25 (Value.agg (k4 x0).toArray) w R E := by
 unfold a9Q at h
 unfold F25
 refine J5 I (cs := (k4 x0)) rfl fun g_2 w_3 I_4 k_5 => ?_
 refine z7 I_4 Tryz.zeroValue25 (cs := [(nS), (nS)]) rfl fun g_7 w_8 I_9 b0M => ?_
 refine f7 (ldA Tryz.isAgg25 Tryz.sizeOf25 rfl ((I_9.bring 1).at1 (o := 0) (vs := (k4 x0)) (nb rfl) rfl)) ?_
 refine g9 (cap := []) (fun args w => Tryz.call24 args w) ?_
 refine l7 (Fi := []) (Fr := [bx g_7 25 [(nS), (nS)], bx g_2 25 (k4 x0)]) I_9 (h) (fun d2A a1j d2B q8 a8L c6v d2C b4H => ?_) (fun _ _ _ _ _ q => q.elim)
 obtain ⟨o9, rfl, rfl, h⟩ := b4H
 refine a7 (M7 _ _ _ _ _ _) ?_
 refine a4f (fun c1m => ?_) (fun c1m => ?_)
 ·replace h := h.1 c1m
  refine a7 (c8d ) ?_
  refine m6 a8L Tryz.sizeOf25 (vs := [(nS), (nS)]) (cs' := [(nS), (nS)]) rfl rfl (nb rfl) rfl rfl fun r9 a0h b4p => ?_
  refine B0 Tryz.isAgg25 Tryz.sizeOf25 rfl (a0h.at1 (o := 0) (vs := [(nS), (nS)]) (nb rfl) rfl) ?_
  exact hR (m5.mk (Sl.mk none 0 0) (Sl.mk none 0 0)) o9 a1j _ a0h.drop.drop h
 ·replace h := h.2 c1m
  refine a5z a8L fun b0C a5E => ?_
  refine q9 a1G ?_
  refine q9 a3D ?_
  refine A5 (ld1 Tryz.isAgg22 ((a5E.bring 1).at1 (o := 0) (vs := [(vs x0.z8)]) (nb rfl) rfl)) ?_
  refine A5 (ld1 Tryz.isAgg23 ((a5E.bring 1).at1 (o := 1) (vs := [(vs x0.V3)]) (nb rfl) rfl)) ?_
  refine g9 (cap := []) (fun args w => Tryz.call44 args w) ?_
  refine l7 (Fi := []) (Fr := [bx g_7 25 [(nS), (nS)], bx g_2 25 (k4 x0)]) a5E (h) (fun k2m d2H k2n z2 c3N k2o e9P g0d => ?_) (fun _ _ _ _ _ q => q.elim)
  obtain ⟨b4h, rfl, rfl, h⟩ := g0d
  refine ⟨(e9P _ (a5E.bring 1).lt1 (Inv.a3h (Fi := []) (a5E.bring 1))), ?_⟩
  refine g9 (cap := []) (fun args w => Tryz.call45 args w) ?_
  refine l7 (Fi := []) (Fr := [bx g_7 25 [(nS), (nS)], bx g_2 25 (k4 x0)]) c3N (h) (fun i3u b2h i3v b6U a5D b0K b7a e2B => ?_) (fun _ _ _ _ _ q => q.elim)
  obtain ⟨o8, rfl, rfl, h⟩ := e2B
  refine q9 (c7M _ _ _ _ _ _) ?_
  refine m6 a5D Tryz.sizeOf25 (vs := [(vs b4h), (vs o8)]) (cs' := [(vs b4h), (vs o8)]) rfl rfl (nb rfl) rfl rfl fun b3E b4w d6Z => ?_
  refine B0 Tryz.isAgg25 Tryz.sizeOf25 rfl (b4w.at1 (o := 0) (vs := [(vs b4h), (vs o8)]) (nb rfl) rfl) ?_
  exact hR (m5.mk b4h o8) 0 b2h _ b4w.drop.drop h
theorem c9R (x0 : m5) {H : Hp} {K : m5 → Int → Hp → Prop} (h : a9Q x0 H K) : b2E x0 H K := by
 intro w I
 refine j3y ?_
 refine c7V x0 I (fun r0 r1 H' w' I' hk => ⟨H', _, I', r0, r1, rfl, rfl, hk⟩) h
end Go.Proofs.YtnhkdkcgdcgmdaaGreatDoor
