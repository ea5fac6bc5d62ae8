/- Typed formulas of the program's functions that few laws need; printed by lift.py off the code. -/
import Derived.Test.YtnhkdkcgdcgmdaaDoorzOV1
import Derived.Test.YtnhkdkcgdcgmdaaDoorzOG1v
namespace Go.Proofs.YtnhkdkcgdcgmdaaDoor
open Go.RowKit
set_option maxRecDepth 100000
set_option maxHeartbeats 2000000
variable {w0 w : World} {ps0 : Nat → Prop} {H0 H : Hp} {R : RT} {E : Pan}
def Y2 (e3P : Sl) (c4o : Int) (b9t : b5) (T8 : Int) (N5 : (List f6)) (H : Hp) (n2 : (Int × (List f6)) → Hp → Prop) (K : i4 → (List f6) → Hp → Prop) : Prop :=
 (T8 < c4o →
 (0 : Int) ≤ T8 ∧ (T8 : Int) < e3P.n ∧ ∃ b9u : b5, EltH H e3P T8 4 (b6 b9u) ∧
 V8 (i4.mk (Sl.mk none 0 0)) N5 b9u H (fun (g3B : i4) (c5B : (List f6)) (e2i : Hp) =>
 n2 ((IntKind.wrap .i64 (T8 + 1)), c5B) e2i)) ∧
 (¬ (T8 < c4o) →
 K (i4.mk (Sl.mk none 0 0)) N5 H)
def L6 (a2j : (List f6)) (u0 : b5) (H : Hp) (K : i4 → (List f6) → Hp → Prop) : Prop :=
 TL ((0, a2j) : Int × (List f6)) H fun (s : Int × (List f6)) H n2 => Y2 u0.m7 (u0.m7.n : Int) u0 s.1 s.2 H n2 K
def a0A (x0 : i4) (Q4 : (List f6)) (x1 : b5) (H : Hp) (K : i4 → (List f6) → Hp → Prop) : Prop :=
 (x1.a8 = 2 →
 (Q4.length + ([(f6.mk x1.b7 1)] : List f6).length) * 25 ≤ 140737488355328 ∧
 L6 (Q4 ++ [(f6.mk x1.b7 1)]) x1 H K) ∧
 (¬ (x1.a8 = 2) →
 (x1.a8 = 4 →
 (Q4.length + ([(f6.mk x1.b7 2)] : List f6).length) * 25 ≤ 140737488355328 ∧
 L6 (Q4 ++ [(f6.mk x1.b7 2)]) x1 H K) ∧
 (¬ (x1.a8 = 4) →
 L6 Q4 x1 H K))
theorem b1f (x0 : i4) (Q4 : (List f6)) (x1 : b5) (g0 : Nat) (U4 : Sl) (Z6 : Frag) (a7W : RowL 117 2 y7 U4 Q4 Z6) {K : i4 → (List f6) → Hp → Prop} (I : Inv w0 ps0 H0 H [bx g0 114 [(vs U4)], Z6] w) (hR : ∀ (y0 : i4) (a4c : (List f6)) (a0W : Sl) (a0X : Frag) (H' : Hp) (w' : World) (_ : RowL 117 2 y7 a0W a4c a0X) (_ : Inv w0 ps0 H0 H' [bx g0 114 [(vs a0W)], a0X] w') (_ : K y0 a4c H'), R (Value.tuple #[]) w') (h : a0A x0 Q4 x1 H K) : F94 (Value.pointer (some ⟨g0, 0, none⟩)) (Value.agg (b6 x1).toArray) w R E := by
 unfold a0A at h
 unfold F94
 refine J3 I (cs := (b6 x1)) rfl fun g_2 w_3 I_4 k_5 => ?_
 have hj1 : ∀ (a2j : (List f6)) (a6H : Sl) (a6I : Frag) (H : Hp) (w : World) (_ : RowL 117 2 y7 a6H a2j a6I) (_ : Inv w0 ps0 H0 H [bx g0 114 [(vs a6H)], bx g_2 24 (b6 x1), a6I] w) (_ : L6 a2j x1 H K), d0L (Value.pointer (some ⟨g0, 0, none⟩)) (Value.pointer (some ⟨g_2, 0, none⟩)) w R E := by
  intro a2j a6H a6I H w c2m I h
  unfold d0L
  intro _
  unfold L6 at h
  refine a7 J5 ?_
  refine d6 (ld1 Tryd.isAgg22 ((I.bring 1).at1 (o := 3) (vs := [(vs x1.m7)]) (nb rfl) rfl)) ?_
  refine a7 (Z3 _ _ _) ?_
  obtain ⟨e2j, d0N, g7Q, g7R⟩ := h
  refine M9 (J := fun n l w => ∃ (s : Int × (List f6)) (H : Hp) (a2k : Sl) (a2l : Frag) , n = d0N s ∧ l = (match s with | (T8, N5) => [(vi T8)]) ∧ (match s with | (T8, N5) => RowL 117 2 y7 a2k N5 a2l) ∧ (match s with | (T8, N5) => Inv w0 ps0 H0 H [bx g0 114 [(vs a2k)], bx g_2 24 (b6 x1), a2l] w) ∧ e2j s H) ⟨_, (0, a2j), H, a6H, a6I, rfl, rfl, c2m, (((I.bring 2).bring 2).bring 2), g7Q⟩ ?_
  rintro h2A τ_88 w next2 ⟨⟨T8, N5⟩, H, a2k, a2l, rfl, d4v, a8V, I, g7S⟩ hn2
  dsimp only at d4v I a8V
  simp only [List.map_cons, List.map_nil, List.cons.injEq, and_true] at d4v
  have e39 := d4v
  simp only [e39]
  obtain ⟨n2, hm2, h⟩ : ∃ n2 : (Int × (List f6)) → Hp → Prop, (∀ s' H', n2 s' H' → e2j s' H' ∧ d0N s' < d0N (T8, N5)) ∧ Y2 x1.m7 (x1.m7.n : Int) x1 T8 N5 H n2 K := ⟨_, fun _ _ h => h, g7R (T8, N5) H (fun s' H' => e2j s' H' ∧ d0N s' < d0N (T8, N5)) g7S (fun _ _ a b => ⟨a, b⟩)⟩
  unfold d8P
  unfold Y2 at h
  refine a7 (F4 _ _ _ _ _ _) ?_
  refine j7 (fun c1B => ?_) (fun c1B => ?_)
  ·replace h := h.1 c1B
   obtain ⟨g7T, e0E, b9u, e2k, h⟩ := h
   obtain ⟨h2B, h2C, g7U, e2k⟩ := e2k
   refine a7 (O0 g7U _ _ _ _ g7T e0E) ?_
   refine d6 (ldA (vs := (b6 b9u)) Tryd.isAgg24 Tryd.sizeOf24 rfl (I.atH e2k)) ?_
   refine y8 I Tryd.zeroValue24 (cs := [(vi 0), (vi 0), (eS), (nS)]) rfl fun f8V b2P c5i d3k => ?_
   refine m6 c5i Tryd.sizeOf24 (vs := (b6 b9u)) (cs' := (b6 b9u)) rfl rfl (nb rfl) rfl rfl fun Z1 b2s d3b => ?_
   refine d6 (ldA Tryd.isAgg24 Tryd.sizeOf24 rfl (b2s.at1 (o := 0) (vs := (b6 b9u)) (nb rfl) rfl)) ?_
   refine f2 (cap := []) (fun args w => Tryd.call94 args w) ?_
   refine i8 (Fi := [bx g0 114 [(vs a2k)], a2l]) (Fr := [bx f8V 24 (b6 b9u), bx g_2 24 (b6 x1)]) ((b2s.bring 3).bring 2) (h g0 a2k a2l a8V) (fun h2D e2i g7r a1V g7V h2E h2F g7W => ?_) (fun _ _ _ _ _ q => q.elim)
   obtain ⟨g3B, c5B, e2l, e2m, rfl, rfl, e2n, h⟩ := g7W
   refine a7 (K3 _ _ _ _ _ _) ?_
   exact hn2 _ _ _ (hm2 _ _ h).2 ⟨((IntKind.wrap .i64 (T8 + 1)), c5B), e2i, e2l, e2m, rfl, rfl, e2n, ((((g7V.bring 2).drop.bring 1).bring 2).bring 2), (hm2 _ _ h).1⟩
  ·replace h := h.2 c1B
   exact hR (i4.mk (Sl.mk none 0 0)) N5 a2k a2l H _ a8V (((I.bring 1).drop.bring 1).bring 1) h
 refine A7 fun j1 hx1 => ?_
 refine a7 V7 ?_
 refine d6 (ld1 Tryd.isAgg3 (I_4.at1 (o := 0) (vs := [(vi x1.a8)]) (nb rfl) rfl)) ?_
 refine a7 (m9 _ _ _ _ _ _) ?_
 refine j7 (fun d5C => ?_) (fun d5C => ?_)
 ·replace h := h.1 d5C
  refine a3v I_4 fun w_6 I_7 => ?_
  refine r9 (I0 _) ?_
  refine r9 a2m ?_
  refine r9 a7N ?_
  refine K0 (ld1 Tryd.isAgg112 ((I_7.bring 1).at1 (o := 0) (vs := [(vs U4)]) (nb rfl) rfl)) ?_
  refine K0 (ld1 Tryd.isAgg9 (I_7.at1 (o := 2) (vs := [(Value.string x1.b7)]) (nb rfl) rfl)) ?_
  refine r9 (a7P _ _) ?_
  refine a3h (e := 117) (c := y7) (xs := [(f6.mk x1.b7 1)]) I_7 (b6b _ _) rfl rfl a6K a6L (nb rfl) fun s_9 h2G P9 b9f R8 a7C => ?_
  refine ⟨(a7C _ (I_7.bring 1).lt1), ?_⟩
  obtain ⟨b6D, h⟩ := h
  refine b9E (s := U4) (xs := Q4) (R8.bring 3) a7W (b9f.srcO ((R8.bring 3).bring 1)) b6D fun e2o b2w Y8 d0e a9Z c1l => ?_
  refine r9 (I0 _) ?_
  refine r9 a2m ?_
  refine m6 ((a9Z.bring 1).drop.bring 2) Tryd.sizeOf112 (vs := [(vs e2o)]) (cs' := [(vs e2o)]) rfl rfl (nb rfl) rfl rfl fun v8 e1N g7B => ?_
  exact hx1 _ _ (hj1 (Q4 ++ [(f6.mk x1.b7 1)]) e2o b2w H _ d0e (((e1N.bring 1).bring 2).bring 2) h)
 ·replace h := h.2 d5C
  refine a7 (m9 _ _ _ _ _ _) ?_
  refine j7 (fun d5D => ?_) (fun d5D => ?_)
  ·replace h := h.1 d5D
   refine a3v I_4 fun d4j c5t => ?_
   refine r9 (I0 _) ?_
   refine r9 a2m ?_
   refine r9 a7N ?_
   refine K0 (ld1 Tryd.isAgg112 ((c5t.bring 1).at1 (o := 0) (vs := [(vs U4)]) (nb rfl) rfl)) ?_
   refine K0 (ld1 Tryd.isAgg9 (c5t.at1 (o := 2) (vs := [(Value.string x1.b7)]) (nb rfl) rfl)) ?_
   refine r9 (a7P _ _) ?_
   refine a3h (e := 117) (c := y7) (xs := [(f6.mk x1.b7 2)]) c5t (b6b _ _) rfl rfl a6K a6L (nb rfl) fun f3K g7m a8f c2a g1x g7X => ?_
   refine ⟨(g7X _ (c5t.bring 1).lt1), ?_⟩
   obtain ⟨c6B, h⟩ := h
   refine b9E (s := U4) (xs := Q4) (g1x.bring 3) a7W (c2a.srcO ((g1x.bring 3).bring 1)) c6B fun d5E g3C a4f g3D c3U d5l => ?_
   refine r9 (I0 _) ?_
   refine r9 a2m ?_
   refine m6 ((c3U.bring 1).drop.bring 2) Tryd.sizeOf112 (vs := [(vs d5E)]) (cs' := [(vs d5E)]) rfl rfl (nb rfl) rfl rfl fun e3e g3E g9z => ?_
   exact hx1 _ _ (hj1 (Q4 ++ [(f6.mk x1.b7 2)]) d5E g3C H _ g3D (((g3E.bring 1).bring 2).bring 2) h)
  ·replace h := h.2 d5D
   exact hx1 _ _ (hj1 Q4 U4 Z6 H _ a7W (((I_4.bring 2).bring 1).bring 2) h)
theorem b1F (x0 : i4) (Q4 : (List f6)) (x1 : b5) {H : Hp} {K : i4 → (List f6) → Hp → Prop} (h : a0A x0 Q4 x1 H K) : V8 x0 Q4 x1 H K := by
 intro g0 U4 Z6 a7W w I
 refine g1w ?_
 refine b1f x0 Q4 x1 g0 U4 Z6 a7W I (fun y0 a4c a0W a0X H' w' b9v I' hk => ⟨H', _, I', y0, a4c, a0W, a0X, rfl, rfl, b9v, hk⟩) h
def Y3 (e3Q : Sl) (e3R : Int) (b9t : b8) (a5D : Int) (N5 : (List f6)) (H : Hp) (n2 : (Int × (List f6)) → Hp → Prop) (K : i4 → (List f6) → Hp → Prop) : Prop :=
 (a5D < e3R →
 (0 : Int) ≤ a5D ∧ (a5D : Int) < e3Q.n ∧ ∃ b9w : b8, EltH H e3Q a5D 4 (d5 b9w) ∧
 a0u (i4.mk (Sl.mk none 0 0)) N5 b9w H (fun (g3F : i4) (c5C : (List f6)) (a5V : Hp) =>
 n2 ((IntKind.wrap .i64 (a5D + 1)), c5C) a5V)) ∧
 (¬ (a5D < e3R) →
 K (i4.mk (Sl.mk none 0 0)) N5 H)
def Y4 (u0 : b8) (a2j : (List f6)) (H : Hp) (K : i4 → (List f6) → Hp → Prop) : Prop :=
 TL ((0, a2j) : Int × (List f6)) H fun (s : Int × (List f6)) H n2 => Y3 u0.q8 (u0.q8.n : Int) u0 s.1 s.2 H n2 K
def Y5 (g1y : Sl) (e3S : Int) (d0f : b8) (a5E : Int) (a3p : (List f6)) (H : Hp) (n3 : (Int × (List f6)) → Hp → Prop) (K : i4 → (List f6) → Hp → Prop) : Prop :=
 (a5E < e3S →
 (0 : Int) ≤ a5E ∧ (a5E : Int) < g1y.n ∧ ∃ b4l : b5, EltH H g1y a5E 4 (b6 b4l) ∧
 V8 (i4.mk (Sl.mk none 0 0)) a3p b4l H (fun (g1z : i4) (c2n : (List f6)) (d5F : Hp) =>
 n3 ((IntKind.wrap .i64 (a5E + 1)), c2n) d5F)) ∧
 (¬ (a5E < e3S) →
 Y4 d0f a3p H K)
def a0B (x0 : i4) (Q4 : (List f6)) (x1 : b8) (H : Hp) (K : i4 → (List f6) → Hp → Prop) : Prop :=
 TL ((0, Q4) : Int × (List f6)) H fun (s : Int × (List f6)) H n3 => Y5 x1.g8 (x1.g8.n : Int) x1 s.1 s.2 H n3 K
theorem b1g (x0 : i4) (Q4 : (List f6)) (x1 : b8) (g0 : Nat) (U4 : Sl) (Z6 : Frag) (a7W : RowL 117 2 y7 U4 Q4 Z6) {K : i4 → (List f6) → Hp → Prop} (I : Inv w0 ps0 H0 H [bx g0 114 [(vs U4)], Z6] w) (hR : ∀ (y0 : i4) (a4c : (List f6)) (a0W : Sl) (a0X : Frag) (H' : Hp) (w' : World) (_ : RowL 117 2 y7 a0W a4c a0X) (_ : Inv w0 ps0 H0 H' [bx g0 114 [(vs a0W)], a0X] w') (_ : K y0 a4c H'), R (Value.tuple #[]) w') (h : a0B x0 Q4 x1 H K) : F93 (Value.pointer (some ⟨g0, 0, none⟩)) (Value.agg (d5 x1).toArray) w R E := by
 unfold a0B at h
 unfold F93
 refine J3 I (cs := (d5 x1)) rfl fun g_2 w_3 I_4 k_5 => ?_
 have hj1 : ∀ (a2j : (List f6)) (a6H : Sl) (a6I : Frag) (H : Hp) (w : World) (_ : RowL 117 2 y7 a6H a2j a6I) (_ : Inv w0 ps0 H0 H [bx g_2 27 (d5 x1), bx g0 114 [(vs a6H)], a6I] w) (_ : Y4 x1 a2j H K), d0J (Value.pointer (some ⟨g0, 0, none⟩)) (Value.pointer (some ⟨g_2, 0, none⟩)) w R E := by
  intro a2j a6H a6I H w c2m I h
  unfold d0J
  intro _
  unfold Y4 at h
  refine a7 a0h ?_
  refine d6 (ld1 Tryd.isAgg25 (I.at1 (o := 3) (vs := [(vs x1.q8)]) (nb rfl) rfl)) ?_
  refine a7 (a2H _ _ _) ?_
  obtain ⟨e2p, d0O, g7Y, c2f⟩ := h
  refine M9 (J := fun n l w => ∃ (s : Int × (List f6)) (H : Hp) (a2k : Sl) (a2l : Frag) , n = d0O s ∧ l = (match s with | (a5D, N5) => [(vi a5D)]) ∧ (match s with | (a5D, N5) => RowL 117 2 y7 a2k N5 a2l) ∧ (match s with | (a5D, N5) => Inv w0 ps0 H0 H [bx g_2 27 (d5 x1), bx g0 114 [(vs a2k)], a2l] w) ∧ e2p s H) ⟨_, (0, a2j), H, a6H, a6I, rfl, rfl, c2m, (((I.bring 2).bring 2).bring 2), g7Y⟩ ?_
  rintro h2H τ_93 w next2 ⟨⟨a5D, N5⟩, H, a2k, a2l, rfl, e2q, a8V, I, g7Z⟩ hn2
  dsimp only at e2q I a8V
  simp only [List.map_cons, List.map_nil, List.cons.injEq, and_true] at e2q
  have e22 := e2q
  simp only [e22]
  obtain ⟨n2, hm2, h⟩ : ∃ n2 : (Int × (List f6)) → Hp → Prop, (∀ s' H', n2 s' H' → e2p s' H' ∧ d0O s' < d0O (a5D, N5)) ∧ Y3 x1.q8 (x1.q8.n : Int) x1 a5D N5 H n2 K := ⟨_, fun _ _ h => h, c2f (a5D, N5) H (fun s' H' => e2p s' H' ∧ d0O s' < d0O (a5D, N5)) g7Z (fun _ _ a b => ⟨a, b⟩)⟩
  unfold d8N
  unfold Y3 at h
  refine a7 (F4 _ _ _ _ _ _) ?_
  refine j7 (fun b2t => ?_) (fun b2t => ?_)
  ·replace h := h.1 b2t
   obtain ⟨d4r, d4s, b9w, d0i, h⟩ := h
   obtain ⟨h2I, h2J, c5q, d0i⟩ := d0i
   refine a7 (a3W c5q _ _ _ _ d4r d4s) ?_
   refine d6 (ldA (vs := (d5 b9w)) Tryd.isAgg27 Tryd.sizeOf27 rfl (I.atH d0i)) ?_
   refine y8 I Tryd.zeroValue27 (cs := [(vi 0), (vi 0), (nS), (nS)]) rfl fun g8a a1t g8b h2K => ?_
   refine m6 g8b Tryd.sizeOf27 (vs := (d5 b9w)) (cs' := (d5 b9w)) rfl rfl (nb rfl) rfl rfl fun e1k g1A h2L => ?_
   refine d6 (ldA Tryd.isAgg27 Tryd.sizeOf27 rfl (g1A.at1 (o := 0) (vs := (d5 b9w)) (nb rfl) rfl)) ?_
   refine f2 (cap := []) (fun args w => Tryd.call93 args w) ?_
   refine i8 (Fi := [bx g0 114 [(vs a2k)], a2l]) (Fr := [bx g8a 27 (d5 b9w), bx g_2 27 (d5 x1)]) ((g1A.bring 3).bring 3) (h g0 a2k a2l a8V) (fun c8v a5V f3C b6o b8H c5e d3c c8w => ?_) (fun _ _ _ _ _ q => q.elim)
   obtain ⟨g3F, c5C, e2r, e2s, rfl, rfl, e2t, h⟩ := c8w
   refine a7 (K3 _ _ _ _ _ _) ?_
   exact hn2 _ _ _ (hm2 _ _ h).2 ⟨((IntKind.wrap .i64 (a5D + 1)), c5C), a5V, e2r, e2s, rfl, rfl, e2t, ((((b8H.bring 2).drop.bring 1).bring 1).bring 2), (hm2 _ _ h).1⟩
  ·replace h := h.2 b2t
   exact hR (i4.mk (Sl.mk none 0 0)) N5 a2k a2l H _ a8V ((I.drop.bring 1).bring 1) h
 refine A7 fun j1 hx1 => ?_
 refine a7 a0Q ?_
 refine d6 (ld1 Tryd.isAgg22 (I_4.at1 (o := 2) (vs := [(vs x1.g8)]) (nb rfl) rfl)) ?_
 refine a7 (Z3 _ _ _) ?_
 obtain ⟨d5G, c4p, g3G, g3H⟩ := h
 refine M9 (J := fun n l w => ∃ (s : Int × (List f6)) (H : Hp) (b0n : Sl) (b0o : Frag) , n = c4p s ∧ l = (match s with | (a5E, a3p) => [(vi a5E)]) ∧ (match s with | (a5E, a3p) => RowL 117 2 y7 b0n a3p b0o) ∧ (match s with | (a5E, a3p) => Inv w0 ps0 H0 H [bx g_2 27 (d5 x1), bx g0 114 [(vs b0n)], b0o] w) ∧ d5G s H) ⟨_, (0, Q4), H, U4, Z6, rfl, rfl, a7W, (((I_4.bring 2).bring 2).bring 2), g3G⟩ ?_
 rintro g9A τ_135 w next3 ⟨⟨a5E, a3p⟩, H, b0n, b0o, rfl, c6L, c2o, I, g3I⟩ hn3
 dsimp only at c6L I c2o
 simp only [List.map_cons, List.map_nil, List.cons.injEq, and_true] at c6L
 have e11 := c6L
 simp only [e11]
 obtain ⟨n3, hm3, h⟩ : ∃ n3 : (Int × (List f6)) → Hp → Prop, (∀ s' H', n3 s' H' → d5G s' H' ∧ c4p s' < c4p (a5E, a3p)) ∧ Y5 x1.g8 (x1.g8.n : Int) x1 a5E a3p H n3 K := ⟨_, fun _ _ h => h, g3H (a5E, a3p) H (fun s' H' => d5G s' H' ∧ c4p s' < c4p (a5E, a3p)) g3I (fun _ _ a b => ⟨a, b⟩)⟩
 unfold d8O
 unfold Y5 at h
 refine a7 (F4 _ _ _ _ _ _) ?_
 refine j7 (fun d5H => ?_) (fun d5H => ?_)
 ·replace h := h.1 d5H
  obtain ⟨g3J, g3K, b4l, c3P, h⟩ := h
  obtain ⟨g9B, g9C, d4L, c3P⟩ := c3P
  refine a7 (O0 d4L _ _ _ _ g3J g3K) ?_
  refine d6 (ldA (vs := (b6 b4l)) Tryd.isAgg24 Tryd.sizeOf24 rfl (I.atH c3P)) ?_
  refine y8 I Tryd.zeroValue24 (cs := [(vi 0), (vi 0), (eS), (nS)]) rfl fun g3L a9q c6J g2U => ?_
  refine m6 c6J Tryd.sizeOf24 (vs := (b6 b4l)) (cs' := (b6 b4l)) rfl rfl (nb rfl) rfl rfl fun d4h c3O g2I => ?_
  refine d6 (ldA Tryd.isAgg24 Tryd.sizeOf24 rfl (c3O.at1 (o := 0) (vs := (b6 b4l)) (nb rfl) rfl)) ?_
  refine f2 (cap := []) (fun args w => Tryd.call94 args w) ?_
  refine i8 (Fi := [bx g0 114 [(vs b0n)], b0o]) (Fr := [bx g3L 24 (b6 b4l), bx g_2 27 (d5 x1)]) ((c3O.bring 3).bring 3) (h g0 b0n b0o c2o) (fun g9D d5F g9E g9F g3M g9G g9H g3N => ?_) (fun _ _ _ _ _ q => q.elim)
  obtain ⟨g1z, c2n, d8S, d8T, rfl, rfl, d8U, h⟩ := g3N
  refine a7 (K3 _ _ _ _ _ _) ?_
  exact hn3 _ _ _ (hm3 _ _ h).2 ⟨((IntKind.wrap .i64 (a5E + 1)), c2n), d5F, d8S, d8T, rfl, rfl, d8U, ((((g3M.bring 2).drop.bring 1).bring 1).bring 2), (hm3 _ _ h).1⟩
 ·replace h := h.2 d5H
  exact hx1 _ _ (hj1 a3p b0n b0o H _ c2o (((I.bring 2).bring 2).bring 2) h)
theorem b1G (x0 : i4) (Q4 : (List f6)) (x1 : b8) {H : Hp} {K : i4 → (List f6) → Hp → Prop} (h : a0B x0 Q4 x1 H K) : a0u x0 Q4 x1 H K := by
 intro g0 U4 Z6 a7W w I
 refine g1d ?_
 refine b1g x0 Q4 x1 g0 U4 Z6 a7W I (fun y0 a4c a0W a0X H' w' b9v I' hk => ⟨H', _, I', y0, a4c, a0W, a0X, rfl, rfl, b9v, hk⟩) h
def W2 (b7g : Sl) (b6N : Int) (g3O : Int) (b0p : (List f6)) (H : Hp) (n1 : (Int × (List f6)) → Hp → Prop) (K : i4 → (List f6) → Hp → Prop) : Prop :=
 n1 ((IntKind.wrap .i64 (g3O + 1)), b0p) H
def W3 (e2U : Sl) (d3t : Int) (g3P : Int) (b3m : (List f6)) (d0P : b9) (H : Hp) (n1 : (Int × (List f6)) → Hp → Prop) (K : i4 → (List f6) → Hp → Prop) : Prop :=
 U2 (i4.mk (Sl.mk none 0 0)) b3m d0P.v6 H (fun (g1B : i4) (d0Q : (List f6)) (e3T : Hp) =>
 U2 (i4.mk (Sl.mk none 0 0)) d0Q d0P.t7 e3T (fun (g1C : i4) (c2p : (List f6)) (d5I : Hp) =>
 W2 e2U d3t g3P c2p d5I n1 K))
def W4 (g3Q : Sl) (g3R : Int) (g3S : Int) (e3U : Sl) (e3V : Int) (e2u : b9) (a5F : Int) (a3q : (List f6)) (H : Hp) (n1 : (Int × (List f6)) → Hp → Prop) (n6 : (Int × (List f6)) → Hp → Prop) (K : i4 → (List f6) → Hp → Prop) : Prop :=
 (a5F < e3V →
 (0 : Int) ≤ a5F ∧ (a5F : Int) < e3U.n ∧ ∃ b4m : b5, EltH H e3U a5F 4 (b6 b4m) ∧
 V8 (i4.mk (Sl.mk none 0 0)) a3q b4m H (fun (g1D : i4) (c2q : (List f6)) (d5J : Hp) =>
 n6 ((IntKind.wrap .i64 (a5F + 1)), c2q) d5J)) ∧
 (¬ (a5F < e3V) →
 W3 g3Q g3R g3S a3q e2u H n1 K)
def W5 (g3T : Sl) (g3U : Int) (g3V : Int) (b0q : (List f6)) (c2r : b9) (H : Hp) (n1 : (Int × (List f6)) → Hp → Prop) (K : i4 → (List f6) → Hp → Prop) : Prop :=
 TL ((0, b0q) : Int × (List f6)) H fun (s : Int × (List f6)) H n6 => W4 g3T g3U g3V c2r.g8 (c2r.g8.n : Int) c2r s.1 s.2 H n1 n6 K
def W6 (g3W : Sl) (g3X : Int) (g3Y : Int) (e3W : Sl) (e3X : Int) (e2v : b9) (a5G : Int) (a3r : (List f6)) (H : Hp) (n1 : (Int × (List f6)) → Hp → Prop) (n7 : (Int × (List f6)) → Hp → Prop) (K : i4 → (List f6) → Hp → Prop) : Prop :=
 (a5G < e3X →
 (0 : Int) ≤ a5G ∧ (a5G : Int) < e3W.n ∧ ∃ b4n : b8, EltH H e3W a5G 4 (d5 b4n) ∧
 a0u (i4.mk (Sl.mk none 0 0)) a3r b4n H (fun (g1E : i4) (c2s : (List f6)) (d5K : Hp) =>
 n7 ((IntKind.wrap .i64 (a5G + 1)), c2s) d5K)) ∧
 (¬ (a5G < e3X) →
 W5 g3W g3X g3Y a3r e2v H n1 K)
def K5 (g3Z : Sl) (g4a : Int) (g4b : Int) (b0r : (List f6)) (c2t : b9) (H : Hp) (n1 : (Int × (List f6)) → Hp → Prop) (K : i4 → (List f6) → Hp → Prop) : Prop :=
 TL ((0, b0r) : Int × (List f6)) H fun (s : Int × (List f6)) H n7 => W6 g3Z g4a g4b c2t.o9 (c2t.o9.n : Int) c2t s.1 s.2 H n1 n7 K
def W7 (c4q : Sl) (c4r : Int) (W8 : Int) (Q7 : (List f6)) (H : Hp) (n1 : (Int × (List f6)) → Hp → Prop) (K : i4 → (List f6) → Hp → Prop) : Prop :=
 (W8 < c4r →
 (0 : Int) ≤ W8 ∧ (W8 : Int) < c4q.n ∧ ∃ L1 : b9, EltH H c4q W8 6 (d8 L1) ∧
 (L1.a8 = 1 →
 (Q7.length + ([(f6.mk L1.b7 1)] : List f6).length) * 25 ≤ 140737488355328 ∧
 K5 c4q c4r W8 (Q7 ++ [(f6.mk L1.b7 1)]) L1 H n1 K) ∧
 (¬ (L1.a8 = 1) →
 (L1.a8 = 2 →
 (Q7.length + ([(f6.mk L1.b7 2)] : List f6).length) * 25 ≤ 140737488355328 ∧
 K5 c4q c4r W8 (Q7 ++ [(f6.mk L1.b7 2)]) L1 H n1 K) ∧
 (¬ (L1.a8 = 2) →
 K5 c4q c4r W8 Q7 L1 H n1 K))) ∧
 (¬ (W8 < c4r) →
 K (i4.mk (Sl.mk none 0 0)) Q7 H)
def a0m (x0 : i4) (Q4 : (List f6)) (x1 : Sl) (H : Hp) (K : i4 → (List f6) → Hp → Prop) : Prop :=
 TL ((0, Q4) : Int × (List f6)) H fun (s : Int × (List f6)) H n1 => W7 x1 (x1.n : Int) s.1 s.2 H n1 K
theorem b0Q (x0 : i4) (Q4 : (List f6)) (x1 : Sl) (g0 : Nat) (U4 : Sl) (Z6 : Frag) (a7W : RowL 117 2 y7 U4 Q4 Z6) {K : i4 → (List f6) → Hp → Prop} (I : Inv w0 ps0 H0 H [bx g0 114 [(vs U4)], Z6] w) (hR : ∀ (y0 : i4) (a4c : (List f6)) (a0W : Sl) (a0X : Frag) (H' : Hp) (w' : World) (_ : RowL 117 2 y7 a0W a4c a0X) (_ : Inv w0 ps0 H0 H' [bx g0 114 [(vs a0W)], a0X] w') (_ : K y0 a4c H'), R (Value.tuple #[]) w') (h : a0m x0 Q4 x1 H K) : F55 (Value.pointer (some ⟨g0, 0, none⟩)) (vs x1) w R E := by
 unfold a0m at h
 unfold F55
 refine a7 (a3O _ _ _) ?_
 obtain ⟨d5L, c4s, g4c, g4d⟩ := h
 refine M9 (J := fun n l w => ∃ (s : Int × (List f6)) (H : Hp) (a6J : Sl) (b3n : Frag) , n = c4s s ∧ l = (match s with | (W8, Q7) => [(vi W8)]) ∧ (match s with | (W8, Q7) => RowL 117 2 y7 a6J Q7 b3n) ∧ (match s with | (W8, Q7) => Inv w0 ps0 H0 H [bx g0 114 [(vs a6J)], b3n] w) ∧ d5L s H) ⟨_, (0, Q4), H, U4, Z6, rfl, rfl, a7W, ((I.bring 1).bring 1), g4c⟩ ?_
 rintro g9I τ_426 w next1 ⟨⟨W8, Q7⟩, H, a6J, b3n, rfl, d5M, b3o, I, g4e⟩ hn1
 dsimp only at d5M I b3o
 simp only [List.map_cons, List.map_nil, List.cons.injEq, and_true] at d5M
 have e12 := d5M
 simp only [e12]
 obtain ⟨n1, hm1, h⟩ : ∃ n1 : (Int × (List f6)) → Hp → Prop, (∀ s' H', n1 s' H' → d5L s' H' ∧ c4s s' < c4s (W8, Q7)) ∧ W7 x1 (x1.n : Int) W8 Q7 H n1 K := ⟨_, fun _ _ h => h, g4d (W8, Q7) H (fun s' H' => d5L s' H' ∧ c4s s' < c4s (W8, Q7)) g4e (fun _ _ a b => ⟨a, b⟩)⟩
 unfold d8K
 unfold W7 at h
 refine a7 (F4 _ _ _ _ _ _) ?_
 refine j7 (fun d5N => ?_) (fun d5N => ?_)
 ·replace h := h.1 d5N
  have hj2 : ∀ (b0p : (List f6)) (b7x : Sl) (b7y : Frag) (H : Hp) (w : World) (_ : RowL 117 2 y7 b7x b0p b7y) (_ : Inv w0 ps0 H0 H [bx g0 114 [(vs b7x)], b7y] w) (_ : W2 x1 (x1.n : Int) W8 b0p H n1 K), d0E (Value.pointer (some ⟨g0, 0, none⟩)) (vs x1) (vi (x1.n : Int)) (vi W8) w next1 R E := by
   intro b0p b7x b7y H w e2w I h
   unfold d0E
   intro _
   unfold W2 at h
   refine a7 (K3 _ _ _ _ _ _) ?_
   exact hn1 _ _ _ (hm1 _ _ h).2 ⟨((IntKind.wrap .i64 (W8 + 1)), b0p), H, b7x, b7y, rfl, rfl, e2w, ((I.bring 1).bring 1), (hm1 _ _ h).1⟩
  refine A7 fun j2 hx2 => ?_
  obtain ⟨g4f, g4g, L1, d5O, h⟩ := h
  obtain ⟨g9J, g9K, g4h, d5O⟩ := d5O
  refine a7 (a9K g4h _ _ _ _ g4f g4g) ?_
  refine d6 (ldA (vs := (d8 L1)) Tryd.isAgg63 Tryd.sizeOf63 rfl (I.atH d5O)) ?_
  refine y8 I Tryd.zeroValue63 (cs := [(vi 0), (eS), (nS), (nS), (nS), (nS)]) rfl fun a8C g9L g4i g9M => ?_
  refine m6 g4i Tryd.sizeOf63 (vs := (d8 L1)) (cs' := (d8 L1)) rfl rfl (nb rfl) rfl rfl fun g9N c6P g9O => ?_
  have hj3 : ∀ (b0r : (List f6)) (b7z : Sl) (b7A : Frag) (H : Hp) (w : World) (_ : RowL 117 2 y7 b7z b0r b7A) (_ : Inv w0 ps0 H0 H [bx g0 114 [(vs b7z)], bx a8C 63 (d8 L1), b7A] w) (_ : K5 x1 (x1.n : Int) W8 b0r L1 H n1 K), d0H (Value.pointer (some ⟨g0, 0, none⟩)) (Value.pointer (some ⟨a8C, 0, none⟩)) (vs x1) (vi (x1.n : Int)) (vi W8) w j2 R E := by
   intro b0r b7z b7A H w e2x I h
   unfold d0H
   intro _
   unfold K5 at h
   have hj4 : ∀ (b0q : (List f6)) (b7B : Sl) (b7C : Frag) (H : Hp) (w : World) (_ : RowL 117 2 y7 b7B b0q b7C) (_ : Inv w0 ps0 H0 H [bx g0 114 [(vs b7B)], bx a8C 63 (d8 L1), b7C] w) (_ : W5 x1 (x1.n : Int) W8 b0q L1 H n1 K), d0G (Value.pointer (some ⟨g0, 0, none⟩)) (Value.pointer (some ⟨a8C, 0, none⟩)) (vs x1) (vi (x1.n : Int)) (vi W8) w j2 R E := by
    intro b0q b7B b7C H w e2y I h
    unfold d0G
    intro _
    unfold W5 at h
    have hj5 : ∀ (b3m : (List f6)) (b3p : Sl) (b3q : Frag) (H : Hp) (w : World) (_ : RowL 117 2 y7 b3p b3m b3q) (_ : Inv w0 ps0 H0 H [bx g0 114 [(vs b3p)], bx a8C 63 (d8 L1), b3q] w) (_ : W3 x1 (x1.n : Int) W8 b3m L1 H n1 K), d0F (Value.pointer (some ⟨g0, 0, none⟩)) (Value.pointer (some ⟨a8C, 0, none⟩)) (vs x1) (vi (x1.n : Int)) (vi W8) w j2 R E := by
     intro b3m b3p b3q H w e2z I h
     unfold d0F
     intro _
     unfold W3 at h
     refine a7 a2o ?_
     refine d6 (ld1 Tryd.isAgg42 ((I.bring 1).at1 (o := 4) (vs := [(vs L1.v6)]) (nb rfl) rfl)) ?_
     refine f2 (cap := []) (fun args w => Tryd.call55 args w) ?_
     refine i8 (Fi := [bx g0 114 [(vs b3p)], b3q]) (Fr := [bx a8C 63 (d8 L1)]) ((I.bring 2).bring 1) (h g0 b3p b3q e2z) (fun g9P e3T g9Q g9R e3Y g9S g9T g4j => ?_) (fun _ _ _ _ _ q => q.elim)
     obtain ⟨g1B, d0Q, c5X, c5Y, rfl, rfl, d8V, h⟩ := g4j
     refine a7 a0T ?_
     refine d6 (ld1 Tryd.isAgg42 ((e3Y.bring 2).at1 (o := 5) (vs := [(vs L1.t7)]) (nb rfl) rfl)) ?_
     refine f2 (cap := []) (fun args w => Tryd.call55 args w) ?_
     refine i8 (Fi := [bx g0 114 [(vs c5X)], c5Y]) (Fr := [bx a8C 63 (d8 L1)]) ((e3Y.bring 1).bring 1) (h g0 c5X c5Y d8V) (fun g9U d5I g9V g9W g4k g9X g9Y g4l => ?_) (fun _ _ _ _ _ q => q.elim)
     obtain ⟨g1C, c2p, d8W, d8X, rfl, rfl, d8Y, h⟩ := g4l
     exact hx2 _ _ (hj2 c2p d8W d8X d5I _ d8Y (((g4k.bring 2).drop.bring 1).bring 1) h)
    refine A7 fun j5 hx5 => ?_
    refine a7 a3w ?_
    refine d6 (ld1 Tryd.isAgg22 ((I.bring 1).at1 (o := 2) (vs := [(vs L1.g8)]) (nb rfl) rfl)) ?_
    refine a7 (Z3 _ _ _) ?_
    obtain ⟨d5P, c4t, g4m, g4n⟩ := h
    refine M9 (J := fun n l w => ∃ (s : Int × (List f6)) (H : Hp) (b0s : Sl) (b0t : Frag) , n = c4t s ∧ l = (match s with | (a5F, a3q) => [(vi a5F)]) ∧ (match s with | (a5F, a3q) => RowL 117 2 y7 b0s a3q b0t) ∧ (match s with | (a5F, a3q) => Inv w0 ps0 H0 H [bx g0 114 [(vs b0s)], bx a8C 63 (d8 L1), b0t] w) ∧ d5P s H) ⟨_, (0, b0q), H, b7B, b7C, rfl, rfl, e2y, (((I.bring 2).bring 2).bring 2), g4m⟩ ?_
    rintro g9Z τ_354 w next6 ⟨⟨a5F, a3q⟩, H, b0s, b0t, rfl, d5Q, c2u, I, g4o⟩ hn6
    dsimp only at d5Q I c2u
    simp only [List.map_cons, List.map_nil, List.cons.injEq, and_true] at d5Q
    have e60 := d5Q
    simp only [e60]
    obtain ⟨n6, hm6, h⟩ : ∃ n6 : (Int × (List f6)) → Hp → Prop, (∀ s' H', n6 s' H' → d5P s' H' ∧ c4t s' < c4t (a5F, a3q)) ∧ W4 x1 (x1.n : Int) W8 L1.g8 (L1.g8.n : Int) L1 a5F a3q H n1 n6 K := ⟨_, fun _ _ h => h, g4n (a5F, a3q) H (fun s' H' => d5P s' H' ∧ c4t s' < c4t (a5F, a3q)) g4o (fun _ _ a b => ⟨a, b⟩)⟩
    unfold d8G
    unfold W4 at h
    refine a7 (F4 _ _ _ _ _ _) ?_
    refine j7 (fun d5R => ?_) (fun d5R => ?_)
    ·replace h := h.1 d5R
     obtain ⟨g4p, g4q, b4m, d5S, h⟩ := h
     obtain ⟨h0a, h0b, g4r, d5S⟩ := d5S
     refine a7 (O0 g4r _ _ _ _ g4p g4q) ?_
     refine d6 (ldA (vs := (b6 b4m)) Tryd.isAgg24 Tryd.sizeOf24 rfl (I.atH d5S)) ?_
     refine y8 I Tryd.zeroValue24 (cs := [(vi 0), (vi 0), (eS), (nS)]) rfl fun g4s h0c g4t h0d => ?_
     refine m6 g4t Tryd.sizeOf24 (vs := (b6 b4m)) (cs' := (b6 b4m)) rfl rfl (nb rfl) rfl rfl fun h0e e3Z h0f => ?_
     refine d6 (ldA Tryd.isAgg24 Tryd.sizeOf24 rfl (e3Z.at1 (o := 0) (vs := (b6 b4m)) (nb rfl) rfl)) ?_
     refine f2 (cap := []) (fun args w => Tryd.call94 args w) ?_
     refine i8 (Fi := [bx g0 114 [(vs b0s)], b0t]) (Fr := [bx g4s 24 (b6 b4m), bx a8C 63 (d8 L1)]) ((e3Z.bring 3).bring 2) (h g0 b0s b0t c2u) (fun h0g d5J h0h h0i g4u h0j h0k g4v => ?_) (fun _ _ _ _ _ q => q.elim)
     obtain ⟨g1D, c2q, d8Z, d9a, rfl, rfl, d9b, h⟩ := g4v
     refine a7 (K3 _ _ _ _ _ _) ?_
     exact hn6 _ _ _ (hm6 _ _ h).2 ⟨((IntKind.wrap .i64 (a5F + 1)), c2q), d5J, d8Z, d9a, rfl, rfl, d9b, ((((g4u.bring 2).drop.bring 1).bring 2).bring 2), (hm6 _ _ h).1⟩
    ·replace h := h.2 d5R
     exact hx5 _ _ (hj5 a3q b0s b0t H _ c2u (((I.bring 2).bring 2).bring 2) h)
   refine A7 fun j4 hx4 => ?_
   refine a7 a0S ?_
   refine d6 (ld1 Tryd.isAgg25 ((I.bring 1).at1 (o := 3) (vs := [(vs L1.o9)]) (nb rfl) rfl)) ?_
   refine a7 (a2H _ _ _) ?_
   obtain ⟨d5T, c4u, g4w, g4x⟩ := h
   refine M9 (J := fun n l w => ∃ (s : Int × (List f6)) (H : Hp) (b0u : Sl) (b0v : Frag) , n = c4u s ∧ l = (match s with | (a5G, a3r) => [(vi a5G)]) ∧ (match s with | (a5G, a3r) => RowL 117 2 y7 b0u a3r b0v) ∧ (match s with | (a5G, a3r) => Inv w0 ps0 H0 H [bx g0 114 [(vs b0u)], bx a8C 63 (d8 L1), b0v] w) ∧ d5T s H) ⟨_, (0, b0r), H, b7z, b7A, rfl, rfl, e2x, (((I.bring 2).bring 2).bring 2), g4w⟩ ?_
   rintro h0l τ_396 w next7 ⟨⟨a5G, a3r⟩, H, b0u, b0v, rfl, d5U, c2v, I, g4y⟩ hn7
   dsimp only at d5U I c2v
   simp only [List.map_cons, List.map_nil, List.cons.injEq, and_true] at d5U
   have e49 := d5U
   simp only [e49]
   obtain ⟨n7, hm7, h⟩ : ∃ n7 : (Int × (List f6)) → Hp → Prop, (∀ s' H', n7 s' H' → d5T s' H' ∧ c4u s' < c4u (a5G, a3r)) ∧ W6 x1 (x1.n : Int) W8 L1.o9 (L1.o9.n : Int) L1 a5G a3r H n1 n7 K := ⟨_, fun _ _ h => h, g4x (a5G, a3r) H (fun s' H' => d5T s' H' ∧ c4u s' < c4u (a5G, a3r)) g4y (fun _ _ a b => ⟨a, b⟩)⟩
   unfold d8I
   unfold W6 at h
   refine a7 (F4 _ _ _ _ _ _) ?_
   refine j7 (fun d5V => ?_) (fun d5V => ?_)
   ·replace h := h.1 d5V
    obtain ⟨g4z, g4A, b4n, d5W, h⟩ := h
    obtain ⟨h0m, h0n, g4B, d5W⟩ := d5W
    refine a7 (a3W g4B _ _ _ _ g4z g4A) ?_
    refine d6 (ldA (vs := (d5 b4n)) Tryd.isAgg27 Tryd.sizeOf27 rfl (I.atH d5W)) ?_
    refine y8 I Tryd.zeroValue27 (cs := [(vi 0), (vi 0), (nS), (nS)]) rfl fun g4C h0o g4D h0p => ?_
    refine m6 g4D Tryd.sizeOf27 (vs := (d5 b4n)) (cs' := (d5 b4n)) rfl rfl (nb rfl) rfl rfl fun h0q e4a h0r => ?_
    refine d6 (ldA Tryd.isAgg27 Tryd.sizeOf27 rfl (e4a.at1 (o := 0) (vs := (d5 b4n)) (nb rfl) rfl)) ?_
    refine f2 (cap := []) (fun args w => Tryd.call93 args w) ?_
    refine i8 (Fi := [bx g0 114 [(vs b0u)], b0v]) (Fr := [bx g4C 27 (d5 b4n), bx a8C 63 (d8 L1)]) ((e4a.bring 3).bring 2) (h g0 b0u b0v c2v) (fun h0t d5K h0u h0v g4E h0w h0x g4F => ?_) (fun _ _ _ _ _ q => q.elim)
    obtain ⟨g1E, c2s, d9c, d9d, rfl, rfl, d9e, h⟩ := g4F
    refine a7 (K3 _ _ _ _ _ _) ?_
    exact hn7 _ _ _ (hm7 _ _ h).2 ⟨((IntKind.wrap .i64 (a5G + 1)), c2s), d5K, d9c, d9d, rfl, rfl, d9e, ((((g4E.bring 2).drop.bring 1).bring 2).bring 2), (hm7 _ _ h).1⟩
   ·replace h := h.2 d5V
    exact hx4 _ _ (hj4 a3r b0u b0v H _ c2v (((I.bring 2).bring 2).bring 2) h)
  refine A7 fun j3 hx3 => ?_
  refine a7 a0R ?_
  refine d6 (ld1 Tryd.isAgg3 (c6P.at1 (o := 0) (vs := [(vi L1.a8)]) (nb rfl) rfl)) ?_
  refine a7 (m9 _ _ _ _ _ _) ?_
  refine j7 (fun d5X => ?_) (fun d5X => ?_)
  ·replace h := h.1 d5X
   refine a3v c6P fun h0y c6Q => ?_
   refine r9 (I0 _) ?_
   refine r9 a2m ?_
   refine r9 a4M ?_
   refine K0 (ld1 Tryd.isAgg112 ((c6Q.bring 1).at1 (o := 0) (vs := [(vs a6J)]) (nb rfl) rfl)) ?_
   refine K0 (ld1 Tryd.isAgg9 (c6Q.at1 (o := 1) (vs := [(Value.string L1.b7)]) (nb rfl) rfl)) ?_
   refine r9 (a7P _ _) ?_
   refine a3h (e := 117) (c := y7) (xs := [(f6.mk L1.b7 1)]) c6Q (b6b _ _) rfl rfl a6K a6L (nb rfl) fun h0z h0A h0B g4G e4b g4H => ?_
   refine ⟨(g4H _ (c6Q.bring 1).lt1), ?_⟩
   obtain ⟨g4I, h⟩ := h
   refine b9E (s := a6J) (xs := Q7) (e4b.bring 3) b3o (g4G.srcO ((e4b.bring 3).bring 1)) g4I fun d5Y g4J h0C g4K g4L h0D => ?_
   refine r9 (I0 _) ?_
   refine r9 a2m ?_
   refine m6 ((g4L.bring 1).drop.bring 2) Tryd.sizeOf112 (vs := [(vs d5Y)]) (cs' := [(vs d5Y)]) rfl rfl (nb rfl) rfl rfl fun h0E g4M h0F => ?_
   exact hx3 _ _ (hj3 (Q7 ++ [(f6.mk L1.b7 1)]) d5Y g4J H _ g4K (((g4M.bring 1).bring 2).bring 2) h)
  ·replace h := h.2 d5X
   refine a7 (m9 _ _ _ _ _ _) ?_
   refine j7 (fun d5Z => ?_) (fun d5Z => ?_)
   ·replace h := h.1 d5Z
    refine a3v c6P fun h0G c6R => ?_
    refine r9 (I0 _) ?_
    refine r9 a2m ?_
    refine r9 a4M ?_
    refine K0 (ld1 Tryd.isAgg112 ((c6R.bring 1).at1 (o := 0) (vs := [(vs a6J)]) (nb rfl) rfl)) ?_
    refine K0 (ld1 Tryd.isAgg9 (c6R.at1 (o := 1) (vs := [(Value.string L1.b7)]) (nb rfl) rfl)) ?_
    refine r9 (a7P _ _) ?_
    refine a3h (e := 117) (c := y7) (xs := [(f6.mk L1.b7 2)]) c6R (b6b _ _) rfl rfl a6K a6L (nb rfl) fun h0H h0I h0J g4N e4c g4O => ?_
    refine ⟨(g4O _ (c6R.bring 1).lt1), ?_⟩
    obtain ⟨g4P, h⟩ := h
    refine b9E (s := a6J) (xs := Q7) (e4c.bring 3) b3o (g4N.srcO ((e4c.bring 3).bring 1)) g4P fun d6a g4Q h0K g4R g4S h0L => ?_
    refine r9 (I0 _) ?_
    refine r9 a2m ?_
    refine m6 ((g4S.bring 1).drop.bring 2) Tryd.sizeOf112 (vs := [(vs d6a)]) (cs' := [(vs d6a)]) rfl rfl (nb rfl) rfl rfl fun h0M g4T h0N => ?_
    exact hx3 _ _ (hj3 (Q7 ++ [(f6.mk L1.b7 2)]) d6a g4Q H _ g4R (((g4T.bring 1).bring 2).bring 2) h)
   ·replace h := h.2 d5Z
    exact hx3 _ _ (hj3 Q7 a6J b3n H _ b3o (((c6P.bring 2).bring 1).bring 2) h)
 ·replace h := h.2 d5N
  exact hR (i4.mk (Sl.mk none 0 0)) Q7 a6J b3n H _ b3o ((I.bring 1).bring 1) h
theorem b1h (x0 : i4) (Q4 : (List f6)) (x1 : Sl) {H : Hp} {K : i4 → (List f6) → Hp → Prop} (h : a0m x0 Q4 x1 H K) : U2 x0 Q4 x1 H K := by
 intro g0 U4 Z6 a7W w I
 refine g0W ?_
 refine b0Q x0 Q4 x1 g0 U4 Z6 a7W I (fun y0 a4c a0W a0X H' w' b9v I' hk => ⟨H', _, I', y0, a4c, a0W, a0X, rfl, rfl, b9v, hk⟩) h
def a0g (b7a : Int) (c5D : ByteArray) (g4U : (List f6)) (u0 : j6) (H : Hp) (K : ByteArray → Int → Hp → Prop) : Prop :=
 K c5D b7a H
def a2G (g8c : (Option Nat)) (c4v : (List f6)) (c4o : Int) (b9t : j6) (a7d : Int) (R4 : ByteArray) (T8 : Int) (H : Hp) (n2 : (Int × ByteArray × Int) → Hp → Prop) (K : ByteArray → Int → Hp → Prop) : Prop :=
 (T8 < c4o →
 (0 : Int) ≤ T8 ∧ ∃ a5X : f6, (c4v)[(T8 : Int).toNat]? = some a5X ∧
 ∃ b5R : List (ByteArray × Int), MapH H (fun s : ByteArray => Value.string s) (fun n : Int => Value.int .i64 n) g8c b5R ∧
 (((lk a5X.fname b5R).getD 0) = a5X.fas →
 n2 (a7d, R4, (IntKind.wrap .i64 (T8 + 1))) H) ∧
 (¬ (((lk a5X.fname b5R).getD 0) = a5X.fas) →
 (((lk a5X.fname b5R).getD 0) = 0 →
 a0g 63 a5X.fname c4v b9t H K) ∧
 (¬ (((lk a5X.fname b5R).getD 0) = 0) →
 a0g 64 a5X.fname c4v b9t H K))) ∧
 (¬ (T8 < c4o) →
 a0g a7d R4 c4v b9t H K)
def a4u (x0 : j6) (H : Hp) (K : ByteArray → Int → Hp → Prop) : Prop :=
 a1P x0 H (fun (D5 : Int) (H_6 : Hp) =>
 (¬ (D5 = 0) →
 K ⟨#[]⟩ D5 H_6) ∧
 (D5 = 0 →
 a8r x0.T9 H_6 (fun (Z7 : (Option Nat)) (b1A : ByteArray) (b4o : Int) (b7p : Hp) =>
 (¬ (b4o = 0) →
 K b1A b4o b7p) ∧
 (b4o = 0 →
 U2 (i4.mk (Sl.mk none 0 0)) [] x0.a1y b7p (fun (g4V : i4) (b1Q : (List f6)) (e2A : Hp) =>
 TL ((b4o, ⟨#[]⟩, 0) : Int × ByteArray × Int) e2A fun (s : Int × ByteArray × Int) H n2 => a2G Z7 b1Q (b1Q.length : Int) x0 s.1 s.2.1 s.2.2 H n2 K)))))
theorem b7D (x0 : j6) {K : ByteArray → Int → Hp → Prop} (I : Inv w0 ps0 H0 H [] w) (hR : ∀ (r0 : ByteArray) (r1 : Int) (H' : Hp) (w' : World) (_ : Inv w0 ps0 H0 H' [] w') (_ : K r0 r1 H'), R (Value.tuple #[(Value.string r0), (vi r1)]) w') (h : a4u x0 H K) : F34 (Value.agg (f5 x0).toArray) w R E := by
 unfold a4u at h
 unfold F34
 refine J3 I (cs := (f5 x0)) rfl fun g_2 w_3 I_4 k_5 => ?_
 refine d6 (ldA Tryd.isAgg44 Tryd.sizeOf44 rfl (I_4.at1 (o := 0) (vs := (f5 x0)) (nb rfl) rfl)) ?_
 refine f2 (cap := []) (fun args w => Tryd.call53 args w) ?_
 refine i8 (Fi := []) (Fr := [bx g_2 44 (f5 x0)]) I_4 (h) (fun b6u H_6 b6v w_7 I_8 b6w k_9 a6r => ?_) (fun _ _ _ _ _ q => q.elim)
 obtain ⟨D5, rfl, rfl, h⟩ := a6r
 refine a7 (T0 _ _ _ _ _ _) ?_
 refine a0s (fun b2r => ?_) (fun b2r => ?_)
 ·replace h := h.1 b2r
  exact hR ⟨#[]⟩ D5 H_6 _ I_8.drop h
 ·replace h := h.2 b2r
  refine a7 a9c ?_
  refine d6 (ld1 Tryd.isAgg41 (I_8.at1 (o := 0) (vs := [(vs x0.T9)]) (nb rfl) rfl)) ?_
  refine f2 (cap := []) (fun args w => Tryd.call54 args w) ?_
  refine i8 (Fi := []) (Fr := [bx g_2 44 (f5 x0)]) I_8 (h) (fun g7C b7p g7D s6 a9w g7E f3D e1O => ?_) (fun _ _ _ _ _ q => q.elim)
  obtain ⟨Z7, b1A, b4o, rfl, rfl, h⟩ := e1O
  refine a7 (o0 _ _ _ rfl) ?_
  refine a7 (o0 _ _ (Value.string b1A) rfl) ?_
  refine a7 (o0 _ _ (vi b4o) rfl) ?_
  refine a7 (T0 _ _ _ _ _ _) ?_
  refine a0s (fun c1y => ?_) (fun c1y => ?_)
  ·replace h := h.1 c1y
   exact hR b1A b4o b7p _ a9w.drop h
  ·replace h := h.2 c1y
   refine a7 (d2p ) ?_
   refine J3 a9w (cs := [(nS)]) rfl fun a9H z6 b0g c8Y => ?_
   refine a7 a6c ?_
   refine d6 (ld1 Tryd.isAgg42 ((b0g.bring 1).at1 (o := 1) (vs := [(vs x0.a1y)]) (nb rfl) rfl)) ?_
   refine f2 (cap := []) (fun args w => Tryd.call55 args w) ?_
   refine i8 (Fi := [bx a9H 114 [(Value.slice (Sl.mk none 0 0).a (Sl.mk none 0 0).n (Sl.mk none 0 0).c)], []]) (Fr := [bx g_2 44 (f5 x0)]) (b0g.nil.bring 1) (h a9H (Sl.mk none 0 0) ([]) (RowL.nil (e := 117) a6K a6L)) (fun h2M e2A h2N b0l b9j f3X e1B g8d => ?_) (fun _ _ _ _ _ q => q.elim)
   obtain ⟨g4V, b1Q, c2w, d0R, rfl, rfl, b7E, h⟩ := g8d
   have hj1 : ∀ (b7a : Int) (c5D : ByteArray) (H : Hp) (w : World) (_ : Inv w0 ps0 H0 H [bx a9H 114 [(vs c2w)], bx g_2 44 (f5 x0), d0R] w) (_ : a0g b7a c5D b1Q x0 H K), d0C (vi b7a) (Value.string c5D) w R E := by
    intro b7a c5D H w I h
    unfold d0C
    intro _
    unfold a0g at h
    exact hR c5D b7a H _ I.drop.drop.drop h
   refine A7 fun j1 hx1 => ?_
   refine a7 (I0 _) ?_
   refine a7 a2m ?_
   refine d6 (ld1 Tryd.isAgg112 (b9j.at1 (o := 0) (vs := [(vs c2w)]) (nb rfl) rfl)) ?_
   refine a7 (c2E Tryd.underlying112 b7E) ?_
   obtain ⟨e2B, d0S, g8e, g8f⟩ := h
   refine M9 (J := fun n l w => ∃ (s : Int × ByteArray × Int) (H : Hp) , n = d0S s ∧ l = (match s with | (a7d, R4, T8) => [(vi a7d), (Value.string R4), (vi T8)]) ∧ (match s with | (a7d, R4, T8) => Inv w0 ps0 H0 H [bx a9H 114 [(vs c2w)], bx g_2 44 (f5 x0), d0R] w) ∧ e2B s H) ⟨_, (b4o, ⟨#[]⟩, 0), e2A, rfl, rfl, (((b9j.bring 1).bring 2).bring 2), g8e⟩ ?_
   rintro h2O τ_64 w next2 ⟨⟨a7d, R4, T8⟩, H, rfl, c2g, I, g8g⟩ hn2
   dsimp only at c2g I
   simp only [List.map_cons, List.map_nil, List.cons.injEq, and_true] at c2g
   obtain ⟨e7, e9, e39⟩ := c2g
   simp only [e7, e9, e39]
   obtain ⟨n2, hm2, h⟩ : ∃ n2 : (Int × ByteArray × Int) → Hp → Prop, (∀ s' H', n2 s' H' → e2B s' H' ∧ d0S s' < d0S (a7d, R4, T8)) ∧ a2G Z7 b1Q (b1Q.length : Int) x0 a7d R4 T8 H n2 K := ⟨_, fun _ _ h => h, g8f (a7d, R4, T8) H (fun s' H' => e2B s' H' ∧ d0S s' < d0S (a7d, R4, T8)) g8g (fun _ _ a b => ⟨a, b⟩)⟩
   unfold d8z
   unfold a2G at h
   refine a7 (F4 _ _ _ _ _ _) ?_
   refine j7 (fun e2C => ?_) (fun e2C => ?_)
   ·replace h := h.1 e2C
    obtain ⟨b7h, a5X, a1v, h⟩ := h
    obtain ⟨h2P, h2Q, a3F, h2R⟩ := b7E.addr a1v
    refine a7 (d6v a3F _ _ _ _ b7h (b7E.lt b7h a1v)) ?_
    refine d6 (ldA (vs := (y7 a5X)) Tryd.isAgg117 Tryd.sizeOf117 rfl (b7E.atW (I.bring 2) a3F a1v)) ?_
    refine y8 I Tryd.zeroValue117 (cs := [(eS), (vi 0)]) rfl fun h2S V2 c8E f3F => ?_
    refine m6 c8E Tryd.sizeOf117 (vs := (y7 a5X)) (cs' := (y7 a5X)) rfl rfl (nb rfl) rfl rfl fun c9M b4O h2T => ?_
    refine a7 b4t ?_
    refine d6 (ld1 Tryd.isAgg9 (b4O.at1 (o := 0) (vs := [(Value.string a5X.fname)]) (nb rfl) rfl)) ?_
    obtain ⟨b5R, g4W, h⟩ := h
    refine d9n (keyS Tryd.underlying9) Tryd.underlying108 (z := 0) Tryd.zeroValue3 b4O g4W a5X.fname ?_
    refine a7 d1c ?_
    refine d6 (ld1 Tryd.isAgg3 (b4O.at1 (o := 1) (vs := [(vi a5X.fas)]) (nb rfl) rfl)) ?_
    refine a7 (m9 _ _ _ _ _ _) ?_
    refine j7 (fun e2D => ?_) (fun e2D => ?_)
    ·replace h := h.1 e2D
     refine a7 (K3 _ _ _ _ _ _) ?_
     exact hn2 _ _ _ (hm2 _ _ h).2 ⟨(a7d, R4, (IntKind.wrap .i64 (T8 + 1))), H, rfl, rfl, (((b4O.drop.bring 2).bring 2).bring 2), (hm2 _ _ h).1⟩
    ·replace h := h.2 e2D
     refine a7 (m9 _ _ _ _ _ _) ?_
     refine j7 (fun e2E => ?_) (fun e2E => ?_)
     ·replace h := h.1 e2E
      refine a7 b4t ?_
      refine d6 (ld1 Tryd.isAgg9 (b4O.at1 (o := 0) (vs := [(Value.string a5X.fname)]) (nb rfl) rfl)) ?_
      exact hx1 _ _ (hj1 63 a5X.fname H _ (((b4O.drop.bring 2).bring 2).bring 2) h)
     ·replace h := h.2 e2E
      refine a7 b4t ?_
      refine d6 (ld1 Tryd.isAgg9 (b4O.at1 (o := 0) (vs := [(Value.string a5X.fname)]) (nb rfl) rfl)) ?_
      exact hx1 _ _ (hj1 64 a5X.fname H _ (((b4O.drop.bring 2).bring 2).bring 2) h)
   ·replace h := h.2 e2C
    exact hx1 _ _ (hj1 a7d R4 H _ (((I.bring 2).bring 2).bring 2) h)
theorem b7S (x0 : j6) {H : Hp} {K : ByteArray → Int → Hp → Prop} (h : a4u x0 H K) : a4k x0 H K := by
 intro w I
 refine g0c ?_
 refine b7D x0 I (fun r0 r1 H' w' I' hk => ⟨H', _, I', r0, r1, rfl, rfl, hk⟩) h
def a4Z (x0 : t1) (H : Hp) (K : Int → Hp → Prop) : Prop :=
 (0 < x0.Z2 →
 K 2 H) ∧
 (¬ (0 < x0.Z2) →
 K 1 H)
theorem b7T (x0 : t1) {K : Int → Hp → Prop} (I : Inv w0 ps0 H0 H [] w) (hR : ∀ (r0 : Int) (H' : Hp) (w' : World) (_ : Inv w0 ps0 H0 H' [] w') (_ : K r0 H'), R (vi r0) w') (h : a4Z x0 H K) : F92 (Value.agg (p6 x0).toArray) w R E := by
 unfold a4Z at h
 unfold F92
 refine J3 I (cs := (p6 x0)) rfl fun g_2 w_3 I_4 k_5 => ?_
 refine a7 b1j ?_
 refine d6 (ld1 Tryd.isAgg3 (I_4.at1 (o := 1) (vs := [(vi x0.Z2)]) (nb rfl) rfl)) ?_
 refine a7 (a7h _ _ _ _ _ _) ?_
 refine j7 (fun c_6 => ?_) (fun c_6 => ?_)
 ·replace h := h.1 c_6
  exact hR 2 H _ I_4.drop h
 ·replace h := h.2 c_6
  exact hR 1 H _ I_4.drop h
theorem b9x (x0 : t1) {H : Hp} {K : Int → Hp → Prop} (h : a4Z x0 H K) : b0G x0 H K := by
 intro w I
 refine g0Y ?_
 refine b7T x0 I (fun r0 H' w' I' hk => ⟨H', _, I', r0, rfl, rfl, hk⟩) h
end Go.Proofs.YtnhkdkcgdcgmdaaDoor
