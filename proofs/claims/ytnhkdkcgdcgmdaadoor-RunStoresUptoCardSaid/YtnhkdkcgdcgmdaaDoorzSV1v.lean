/- Typed formulas of the program's functions that few laws need; printed by lift.py off the code. -/
import Derived.Test.YtnhkdkcgdcgmdaaDoorzSV1
import Derived.Test.YtnhkdkcgdcgmdaaDoorzSG1v
namespace Go.Proofs.YtnhkdkcgdcgmdaaDoor
open Go.RowKit
set_option maxRecDepth 100000
set_option maxHeartbeats 2000000
variable {w0 w : World} {ps0 : Nat → Prop} {H0 H : Hp} {R : RT} {E : Pan}
def R8 (d9n : Sl) (b8K : Int) (b4i : i4) (O0 : Int) (G0 : (List b7)) (H : Hp) (n2 : (Int × (List b7)) → Hp → Prop) (K : d9 → (List b7) → Hp → Prop) : Prop :=
 (O0 < b8K →
 (0 : Int) ≤ O0 ∧ (O0 : Int) < d9n.n ∧ ∃ b4j : i4, EltH H d9n O0 4 (b8 b4j) ∧
 P4 (d9.mk (Sl.mk none 0 0)) G0 b4j H (fun (g1m : d9) (c0o : (List b7)) (d7R : Hp) =>
 n2 ((IntKind.wrap .i64 (O0 + 1)), c0o) d7R)) ∧
 (¬ (O0 < b8K) →
 K (d9.mk (Sl.mk none 0 0)) G0 H)
def D8 (a0d : (List b7)) (E2 : i4) (H : Hp) (K : d9 → (List b7) → Hp → Prop) : Prop :=
 TL ((0, a0d) : Int × (List b7)) H fun (s : Int × (List b7)) H n2 => R8 E2.y9 (E2.y9.n : Int) E2 s.1 s.2 H n2 K
def U5 (x0 : d9) (L5 : (List b7)) (x1 : i4) (H : Hp) (K : d9 → (List b7) → Hp → Prop) : Prop :=
 (x1.b9 = 2 →
 (L5.length + ([(b7.mk x1.d5 1)] : List b7).length) * 25 ≤ 140737488355328 ∧
 D8 (L5 ++ [(b7.mk x1.d5 1)]) x1 H K) ∧
 (¬ (x1.b9 = 2) →
 (x1.b9 = 4 →
 (L5.length + ([(b7.mk x1.d5 2)] : List b7).length) * 25 ≤ 140737488355328 ∧
 D8 (L5 ++ [(b7.mk x1.d5 2)]) x1 H K) ∧
 (¬ (x1.b9 = 4) →
 D8 L5 x1 H K))
theorem a6X (x0 : d9) (L5 : (List b7)) (x1 : i4) (g0 : Nat) (O5 : Sl) (S6 : Frag) (a4a : RowL 117 2 o7 O5 L5 S6) {K : d9 → (List b7) → Hp → Prop} (I : Inv w0 ps0 H0 H [bx g0 114 [(vs O5)], S6] w) (hR : ∀ (y0 : d9) (a1i : (List b7)) (V5 : Sl) (V6 : Frag) (H' : Hp) (w' : World) (_ : RowL 117 2 o7 V5 a1i V6) (_ : Inv w0 ps0 H0 H' [bx g0 114 [(vs V5)], V6] w') (_ : K y0 a1i H'), R (Value.tuple #[]) w') (h : U5 x0 L5 x1 H K) : F94 (Value.pointer (some ⟨g0, 0, none⟩)) (Value.agg (b8 x1).toArray) w R E := by
 unfold U5 at h
 unfold F94
 refine P2 I (cs := (b8 x1)) rfl fun g_2 w_3 I_4 k_5 => ?_
 have hj1 : ∀ (a0d : (List b7)) (a2U : Sl) (a2V : Frag) (H : Hp) (w : World) (_ : RowL 117 2 o7 a2U a0d a2V) (_ : Inv w0 ps0 H0 H [bx g0 114 [(vs a2U)], bx g_2 24 (b8 x1), a2V] w) (_ : D8 a0d x1 H K), c5l (Value.pointer (some ⟨g0, 0, none⟩)) (Value.pointer (some ⟨g_2, 0, none⟩)) w R E := by
  intro a0d a2U a2V H w b6P I h
  unfold c5l
  intro _
  unfold D8 at h
  refine a7 a3H ?_
  refine b6 (ld1 Tryd.isAgg22 ((I.bring 1).at1 (o := 3) (vs := [(vs x1.y9)]) (nb rfl) rfl)) ?_
  refine a7 (a2t _ _ _) ?_
  obtain ⟨d7S, c5n, g5k, g5l⟩ := h
  refine M6 (J := fun n l w => ∃ (s : Int × (List b7)) (H : Hp) (a0e : Sl) (a0f : Frag) , n = c5n s ∧ l = (match s with | (O0, G0) => [(vi O0)]) ∧ (match s with | (O0, G0) => RowL 117 2 o7 a0e G0 a0f) ∧ (match s with | (O0, G0) => Inv w0 ps0 H0 H [bx g0 114 [(vs a0e)], bx g_2 24 (b8 x1), a0f] w) ∧ d7S s H) ⟨_, (0, a0d), H, a2U, a2V, rfl, rfl, b6P, (((I.bring 2).bring 2).bring 2), g5k⟩ ?_
  rintro g8W τ_88 w next2 ⟨⟨O0, G0⟩, H, a0e, a0f, rfl, d7T, a4Y, I, g5m⟩ hn2
  dsimp only at d7T I a4Y
  simp only [List.map_cons, List.map_nil, List.cons.injEq, and_true] at d7T
  have e39 := d7T
  simp only [e39]
  obtain ⟨n2, hm2, h⟩ : ∃ n2 : (Int × (List b7)) → Hp → Prop, (∀ s' H', n2 s' H' → d7S s' H' ∧ c5n s' < c5n (O0, G0)) ∧ R8 x1.y9 (x1.y9.n : Int) x1 O0 G0 H n2 K := ⟨_, fun _ _ h => h, g5l (O0, G0) H (fun s' H' => d7S s' H' ∧ c5n s' < c5n (O0, G0)) g5m (fun _ _ a b => ⟨a, b⟩)⟩
  unfold d2I
  unfold R8 at h
  refine a7 (B7 _ _ _ _ _ _) ?_
  refine i2 (fun b6m => ?_) (fun b6m => ?_)
  ·replace h := h.1 b6m
   obtain ⟨d7N, c3p, b4j, d7U, h⟩ := h
   obtain ⟨g8X, g8Y, g5n, d7U⟩ := d7U
   refine a7 (a1g g5n _ _ _ _ d7N c3p) ?_
   refine b6 (ldA (vs := (b8 b4j)) Tryd.isAgg24 Tryd.sizeOf24 rfl (I.atH d7U)) ?_
   refine A8 I Tryd.zeroValue24 (cs := [(vi 0), (vi 0), (eS), (nS)]) rfl fun g5o b1N b3z c7P => ?_
   refine o0 b3z Tryd.sizeOf24 (vs := (b8 b4j)) (cs' := (b8 b4j)) rfl rfl (nb rfl) rfl rfl fun L4 c2T g3g => ?_
   refine b6 (ldA Tryd.isAgg24 Tryd.sizeOf24 rfl (c2T.at1 (o := 0) (vs := (b8 b4j)) (nb rfl) rfl)) ?_
   refine d6 (cap := []) (fun args w => Tryd.call94 args w) ?_
   refine m6 (Fi := [bx g0 114 [(vs a0e)], a0f]) (Fr := [bx g5o 24 (b8 b4j), bx g_2 24 (b8 x1)]) ((c2T.bring 3).bring 2) (h g0 a0e a0f a4Y) (fun g8Z d7R g9a P0 g5p g9b g9c g5q => ?_) (fun _ _ _ _ _ q => q.elim)
   obtain ⟨g1m, c0o, d7V, d7W, rfl, rfl, d7X, h⟩ := g5q
   refine a7 (G6 _ _ _ _ _ _) ?_
   exact hn2 _ _ _ (hm2 _ _ h).2 ⟨((IntKind.wrap .i64 (O0 + 1)), c0o), d7R, d7V, d7W, rfl, rfl, d7X, ((((g5p.bring 2).drop.bring 1).bring 2).bring 2), (hm2 _ _ h).1⟩
  ·replace h := h.2 b6m
   exact hR (d9.mk (Sl.mk none 0 0)) G0 a0e a0f H _ a4Y (((I.bring 1).drop.bring 1).bring 1) h
 refine A6 fun j1 hx1 => ?_
 refine a7 V3 ?_
 refine b6 (ld1 Tryd.isAgg3 (I_4.at1 (o := 0) (vs := [(vi x1.b9)]) (nb rfl) rfl)) ?_
 refine a7 (i6 _ _ _ _ _ _) ?_
 refine i2 (fun c9r => ?_) (fun c9r => ?_)
 ·replace h := h.1 c9r
  refine a0p I_4 fun w_6 I_7 => ?_
  refine j8 (o9 _) ?_
  refine j8 a0h ?_
  refine j8 a3J ?_
  refine u0 (ld1 Tryd.isAgg112 ((I_7.bring 1).at1 (o := 0) (vs := [(vs O5)]) (nb rfl) rfl)) ?_
  refine u0 (ld1 Tryd.isAgg9 (I_7.at1 (o := 2) (vs := [(Value.string x1.d5)]) (nb rfl) rfl)) ?_
  refine j8 (a3K _ _) ?_
  refine W7 (e := 117) (c := o7) (xs := [(b7.mk x1.d5 1)]) I_7 (b1b _ _) rfl rfl a2X a2Y (nb rfl) fun s_9 g9d a0I b4f f9e g5r => ?_
  refine ⟨(g5r _ (I_7.bring 1).lt1), ?_⟩
  obtain ⟨g5s, h⟩ := h
  refine b4z (s := O5) (xs := L5) (f9e.bring 3) a4a (b4f.srcO ((f9e.bring 3).bring 1)) g5s fun d7Y g5t a2k d7O a4m b3u => ?_
  refine j8 (o9 _) ?_
  refine j8 a0h ?_
  refine o0 ((a4m.bring 1).drop.bring 2) Tryd.sizeOf112 (vs := [(vs d7Y)]) (cs' := [(vs d7Y)]) rfl rfl (nb rfl) rfl rfl fun r8 g5u g9e => ?_
  exact hx1 _ _ (hj1 (L5 ++ [(b7.mk x1.d5 1)]) d7Y g5t H _ d7O (((g5u.bring 1).bring 2).bring 2) h)
 ·replace h := h.2 c9r
  refine a7 (i6 _ _ _ _ _ _) ?_
  refine i2 (fun c9s => ?_) (fun c9s => ?_)
  ·replace h := h.1 c9s
   refine a0p I_4 fun b3W a8Y => ?_
   refine j8 (o9 _) ?_
   refine j8 a0h ?_
   refine j8 a3J ?_
   refine u0 (ld1 Tryd.isAgg112 ((a8Y.bring 1).at1 (o := 0) (vs := [(vs O5)]) (nb rfl) rfl)) ?_
   refine u0 (ld1 Tryd.isAgg9 (a8Y.at1 (o := 2) (vs := [(Value.string x1.d5)]) (nb rfl) rfl)) ?_
   refine j8 (a3K _ _) ?_
   refine W7 (e := 117) (c := o7) (xs := [(b7.mk x1.d5 2)]) a8Y (b1b _ _) rfl rfl a2X a2Y (nb rfl) fun e9V g9f W8 g5v c9h g5w => ?_
   refine ⟨(g5w _ (a8Y.bring 1).lt1), ?_⟩
   obtain ⟨g1n, h⟩ := h
   refine b4z (s := O5) (xs := L5) (c9h.bring 3) a4a (g5v.srcO ((c9h.bring 3).bring 1)) g1n fun c9t g1o M8 g1p c9i g0V => ?_
   refine j8 (o9 _) ?_
   refine j8 a0h ?_
   refine o0 ((c9i.bring 1).drop.bring 2) Tryd.sizeOf112 (vs := [(vs c9t)]) (cs' := [(vs c9t)]) rfl rfl (nb rfl) rfl rfl fun g6e g1q g6f => ?_
   exact hx1 _ _ (hj1 (L5 ++ [(b7.mk x1.d5 2)]) c9t g1o H _ g1p (((g1q.bring 1).bring 2).bring 2) h)
  ·replace h := h.2 c9s
   exact hx1 _ _ (hj1 L5 O5 S6 H _ a4a (((I_4.bring 2).bring 1).bring 2) h)
theorem a7v (x0 : d9) (L5 : (List b7)) (x1 : i4) {H : Hp} {K : d9 → (List b7) → Hp → Prop} (h : U5 x0 L5 x1 H K) : P4 x0 L5 x1 H K := by
 intro g0 O5 S6 a4a w I
 refine f9d ?_
 refine a6X x0 L5 x1 g0 O5 S6 a4a I (fun y0 a1i V5 V6 H' w' b4k I' hk => ⟨H', _, I', y0, a1i, V5, V6, rfl, rfl, b4k, hk⟩) h
def R9 (d9o : Sl) (d9p : Int) (b4i : u5) (a2f : Int) (G0 : (List b7)) (H : Hp) (n2 : (Int × (List b7)) → Hp → Prop) (K : d9 → (List b7) → Hp → Prop) : Prop :=
 (a2f < d9p →
 (0 : Int) ≤ a2f ∧ (a2f : Int) < d9o.n ∧ ∃ b4l : u5, EltH H d9o a2f 4 (i7 b4l) ∧
 U1 (d9.mk (Sl.mk none 0 0)) G0 b4l H (fun (g1r : d9) (c0p : (List b7)) (a4l : Hp) =>
 n2 ((IntKind.wrap .i64 (a2f + 1)), c0p) a4l)) ∧
 (¬ (a2f < d9p) →
 K (d9.mk (Sl.mk none 0 0)) G0 H)
def S0 (E2 : u5) (a0d : (List b7)) (H : Hp) (K : d9 → (List b7) → Hp → Prop) : Prop :=
 TL ((0, a0d) : Int × (List b7)) H fun (s : Int × (List b7)) H n2 => R9 E2.t6 (E2.t6.n : Int) E2 s.1 s.2 H n2 K
def S1 (f9f : Sl) (d9q : Int) (f9g : u5) (a2g : Int) (a0B : (List b7)) (H : Hp) (n3 : (Int × (List b7)) → Hp → Prop) (K : d9 → (List b7) → Hp → Prop) : Prop :=
 (a2g < d9q →
 (0 : Int) ≤ a2g ∧ (a2g : Int) < f9f.n ∧ ∃ a9F : i4, EltH H f9f a2g 4 (b8 a9F) ∧
 P4 (d9.mk (Sl.mk none 0 0)) a0B a9F H (fun (f9h : d9) (b6Q : (List b7)) (c9u : Hp) =>
 n3 ((IntKind.wrap .i64 (a2g + 1)), b6Q) c9u)) ∧
 (¬ (a2g < d9q) →
 S0 f9g a0B H K)
def U6 (x0 : d9) (L5 : (List b7)) (x1 : u5) (H : Hp) (K : d9 → (List b7) → Hp → Prop) : Prop :=
 TL ((0, L5) : Int × (List b7)) H fun (s : Int × (List b7)) H n3 => S1 x1.i8 (x1.i8.n : Int) x1 s.1 s.2 H n3 K
theorem a6Y (x0 : d9) (L5 : (List b7)) (x1 : u5) (g0 : Nat) (O5 : Sl) (S6 : Frag) (a4a : RowL 117 2 o7 O5 L5 S6) {K : d9 → (List b7) → Hp → Prop} (I : Inv w0 ps0 H0 H [bx g0 114 [(vs O5)], S6] w) (hR : ∀ (y0 : d9) (a1i : (List b7)) (V5 : Sl) (V6 : Frag) (H' : Hp) (w' : World) (_ : RowL 117 2 o7 V5 a1i V6) (_ : Inv w0 ps0 H0 H' [bx g0 114 [(vs V5)], V6] w') (_ : K y0 a1i H'), R (Value.tuple #[]) w') (h : U6 x0 L5 x1 H K) : F93 (Value.pointer (some ⟨g0, 0, none⟩)) (Value.agg (i7 x1).toArray) w R E := by
 unfold U6 at h
 unfold F93
 refine P2 I (cs := (i7 x1)) rfl fun g_2 w_3 I_4 k_5 => ?_
 have hj1 : ∀ (a0d : (List b7)) (a2U : Sl) (a2V : Frag) (H : Hp) (w : World) (_ : RowL 117 2 o7 a2U a0d a2V) (_ : Inv w0 ps0 H0 H [bx g_2 27 (i7 x1), bx g0 114 [(vs a2U)], a2V] w) (_ : S0 x1 a0d H K), c5j (Value.pointer (some ⟨g0, 0, none⟩)) (Value.pointer (some ⟨g_2, 0, none⟩)) w R E := by
  intro a0d a2U a2V H w b6P I h
  unfold c5j
  intro _
  unfold S0 at h
  refine a7 a1B ?_
  refine b6 (ld1 Tryd.isAgg25 (I.at1 (o := 3) (vs := [(vs x1.t6)]) (nb rfl) rfl)) ?_
  refine a7 (a6A _ _ _) ?_
  obtain ⟨d7Z, c5o, g5x, g5y⟩ := h
  refine M6 (J := fun n l w => ∃ (s : Int × (List b7)) (H : Hp) (a0e : Sl) (a0f : Frag) , n = c5o s ∧ l = (match s with | (a2f, G0) => [(vi a2f)]) ∧ (match s with | (a2f, G0) => RowL 117 2 o7 a0e G0 a0f) ∧ (match s with | (a2f, G0) => Inv w0 ps0 H0 H [bx g_2 27 (i7 x1), bx g0 114 [(vs a0e)], a0f] w) ∧ d7Z s H) ⟨_, (0, a0d), H, a2U, a2V, rfl, rfl, b6P, (((I.bring 2).bring 2).bring 2), g5x⟩ ?_
  rintro g9g τ_93 w next2 ⟨⟨a2f, G0⟩, H, a0e, a0f, rfl, c4Z, a4Y, I, g5z⟩ hn2
  dsimp only at c4Z I a4Y
  simp only [List.map_cons, List.map_nil, List.cons.injEq, and_true] at c4Z
  have e22 := c4Z
  simp only [e22]
  obtain ⟨n2, hm2, h⟩ : ∃ n2 : (Int × (List b7)) → Hp → Prop, (∀ s' H', n2 s' H' → d7Z s' H' ∧ c5o s' < c5o (a2f, G0)) ∧ R9 x1.t6 (x1.t6.n : Int) x1 a2f G0 H n2 K := ⟨_, fun _ _ h => h, g5y (a2f, G0) H (fun s' H' => d7Z s' H' ∧ c5o s' < c5o (a2f, G0)) g5z (fun _ _ a b => ⟨a, b⟩)⟩
  unfold d2G
  unfold R9 at h
  refine a7 (B7 _ _ _ _ _ _) ?_
  refine i2 (fun a8i => ?_) (fun a8i => ?_)
  ·replace h := h.1 a8i
   obtain ⟨g5A, g5B, b4l, d8a, h⟩ := h
   obtain ⟨g9h, g9i, g5C, d8a⟩ := d8a
   refine a7 (a2x g5C _ _ _ _ g5A g5B) ?_
   refine b6 (ldA (vs := (i7 b4l)) Tryd.isAgg27 Tryd.sizeOf27 rfl (I.atH d8a)) ?_
   refine A8 I Tryd.zeroValue27 (cs := [(vi 0), (vi 0), (nS), (nS)]) rfl fun g5D O1 c4U g9j => ?_
   refine o0 c4U Tryd.sizeOf27 (vs := (i7 b4l)) (cs' := (i7 b4l)) rfl rfl (nb rfl) rfl rfl fun d7u f9i g9k => ?_
   refine b6 (ldA Tryd.isAgg27 Tryd.sizeOf27 rfl (f9i.at1 (o := 0) (vs := (i7 b4l)) (nb rfl) rfl)) ?_
   refine d6 (cap := []) (fun args w => Tryd.call93 args w) ?_
   refine m6 (Fi := [bx g0 114 [(vs a0e)], a0f]) (Fr := [bx g5D 27 (i7 b4l), bx g_2 27 (i7 x1)]) ((f9i.bring 3).bring 3) (h g0 a0e a0f a4Y) (fun c7A a4l g3i b1t b9B d3B d3C d3D => ?_) (fun _ _ _ _ _ q => q.elim)
   obtain ⟨g1r, c0p, d8b, d8c, rfl, rfl, d8d, h⟩ := d3D
   refine a7 (G6 _ _ _ _ _ _) ?_
   exact hn2 _ _ _ (hm2 _ _ h).2 ⟨((IntKind.wrap .i64 (a2f + 1)), c0p), a4l, d8b, d8c, rfl, rfl, d8d, ((((b9B.bring 2).drop.bring 1).bring 1).bring 2), (hm2 _ _ h).1⟩
  ·replace h := h.2 a8i
   exact hR (d9.mk (Sl.mk none 0 0)) G0 a0e a0f H _ a4Y ((I.drop.bring 1).bring 1) h
 refine A6 fun j1 hx1 => ?_
 refine a7 a5m ?_
 refine b6 (ld1 Tryd.isAgg22 (I_4.at1 (o := 2) (vs := [(vs x1.i8)]) (nb rfl) rfl)) ?_
 refine a7 (a2t _ _ _) ?_
 obtain ⟨c9v, b8L, g1s, g1t⟩ := h
 refine M6 (J := fun n l w => ∃ (s : Int × (List b7)) (H : Hp) (a6n : Sl) (a6o : Frag) , n = b8L s ∧ l = (match s with | (a2g, a0B) => [(vi a2g)]) ∧ (match s with | (a2g, a0B) => RowL 117 2 o7 a6n a0B a6o) ∧ (match s with | (a2g, a0B) => Inv w0 ps0 H0 H [bx g_2 27 (i7 x1), bx g0 114 [(vs a6n)], a6o] w) ∧ c9v s H) ⟨_, (0, L5), H, O5, S6, rfl, rfl, a4a, (((I_4.bring 2).bring 2).bring 2), g1s⟩ ?_
 rintro g6g τ_135 w next3 ⟨⟨a2g, a0B⟩, H, a6n, a6o, rfl, c9w, b6R, I, g1u⟩ hn3
 dsimp only at c9w I b6R
 simp only [List.map_cons, List.map_nil, List.cons.injEq, and_true] at c9w
 have e11 := c9w
 simp only [e11]
 obtain ⟨n3, hm3, h⟩ : ∃ n3 : (Int × (List b7)) → Hp → Prop, (∀ s' H', n3 s' H' → c9v s' H' ∧ b8L s' < b8L (a2g, a0B)) ∧ S1 x1.i8 (x1.i8.n : Int) x1 a2g a0B H n3 K := ⟨_, fun _ _ h => h, g1t (a2g, a0B) H (fun s' H' => c9v s' H' ∧ b8L s' < b8L (a2g, a0B)) g1u (fun _ _ a b => ⟨a, b⟩)⟩
 unfold d2H
 unfold S1 at h
 refine a7 (B7 _ _ _ _ _ _) ?_
 refine i2 (fun c9x => ?_) (fun c9x => ?_)
 ·replace h := h.1 c9x
  obtain ⟨g1v, g1w, a9F, c9y, h⟩ := h
  obtain ⟨g6h, g6i, g1x, c9y⟩ := c9y
  refine a7 (a1g g1x _ _ _ _ g1v g1w) ?_
  refine b6 (ldA (vs := (b8 a9F)) Tryd.isAgg24 Tryd.sizeOf24 rfl (I.atH c9y)) ?_
  refine A8 I Tryd.zeroValue24 (cs := [(vi 0), (vi 0), (eS), (nS)]) rfl fun g1y P9 g1z g6j => ?_
  refine o0 g1z Tryd.sizeOf24 (vs := (b8 a9F)) (cs' := (b8 a9F)) rfl rfl (nb rfl) rfl rfl fun g6k d9r g6l => ?_
  refine b6 (ldA Tryd.isAgg24 Tryd.sizeOf24 rfl (d9r.at1 (o := 0) (vs := (b8 a9F)) (nb rfl) rfl)) ?_
  refine d6 (cap := []) (fun args w => Tryd.call94 args w) ?_
  refine m6 (Fi := [bx g0 114 [(vs a6n)], a6o]) (Fr := [bx g1y 24 (b8 a9F), bx g_2 27 (i7 x1)]) ((d9r.bring 3).bring 3) (h g0 a6n a6o b6R) (fun g6m c9u g6n g6o g1A g6p g6q g1B => ?_) (fun _ _ _ _ _ q => q.elim)
  obtain ⟨f9h, b6Q, d2K, d2L, rfl, rfl, d2M, h⟩ := g1B
  refine a7 (G6 _ _ _ _ _ _) ?_
  exact hn3 _ _ _ (hm3 _ _ h).2 ⟨((IntKind.wrap .i64 (a2g + 1)), b6Q), c9u, d2K, d2L, rfl, rfl, d2M, ((((g1A.bring 2).drop.bring 1).bring 1).bring 2), (hm3 _ _ h).1⟩
 ·replace h := h.2 c9x
  exact hx1 _ _ (hj1 a0B a6n a6o H _ b6R (((I.bring 2).bring 2).bring 2) h)
theorem a7w (x0 : d9) (L5 : (List b7)) (x1 : u5) {H : Hp} {K : d9 → (List b7) → Hp → Prop} (h : U6 x0 L5 x1 H K) : U1 x0 L5 x1 H K := by
 intro g0 O5 S6 a4a w I
 refine f8L ?_
 refine a6Y x0 L5 x1 g0 O5 S6 a4a I (fun y0 a1i V5 V6 H' w' b4k I' hk => ⟨H', _, I', y0, a1i, V5, V6, rfl, rfl, b4k, hk⟩) h
def Q2 (g6r : Sl) (b1Q : Int) (g1C : Int) (a6p : (List b7)) (H : Hp) (n1 : (Int × (List b7)) → Hp → Prop) (K : d9 → (List b7) → Hp → Prop) : Prop :=
 n1 ((IntKind.wrap .i64 (g1C + 1)), a6p) H
def Q3 (d8H : Sl) (c7X : Int) (g1D : Int) (a9a : (List b7)) (c5p : m9) (H : Hp) (n1 : (Int × (List b7)) → Hp → Prop) (K : d9 → (List b7) → Hp → Prop) : Prop :=
 O4 (d9.mk (Sl.mk none 0 0)) a9a c5p.G9 H (fun (f9j : d9) (c5q : (List b7)) (d9s : Hp) =>
 O4 (d9.mk (Sl.mk none 0 0)) c5q c5p.G3 d9s (fun (f9k : d9) (b6S : (List b7)) (c9z : Hp) =>
 Q2 d8H c7X g1D b6S c9z n1 K))
def Q4 (g1E : Sl) (g1F : Int) (g1G : Int) (d9t : Sl) (d9u : Int) (d8e : m9) (a2h : Int) (a0C : (List b7)) (H : Hp) (n1 : (Int × (List b7)) → Hp → Prop) (n6 : (Int × (List b7)) → Hp → Prop) (K : d9 → (List b7) → Hp → Prop) : Prop :=
 (a2h < d9u →
 (0 : Int) ≤ a2h ∧ (a2h : Int) < d9t.n ∧ ∃ a9G : i4, EltH H d9t a2h 4 (b8 a9G) ∧
 P4 (d9.mk (Sl.mk none 0 0)) a0C a9G H (fun (f9l : d9) (b6T : (List b7)) (c9A : Hp) =>
 n6 ((IntKind.wrap .i64 (a2h + 1)), b6T) c9A)) ∧
 (¬ (a2h < d9u) →
 Q3 g1E g1F g1G a0C d8e H n1 K)
def Q5 (g1H : Sl) (g1I : Int) (g1J : Int) (a6q : (List b7)) (b6U : m9) (H : Hp) (n1 : (Int × (List b7)) → Hp → Prop) (K : d9 → (List b7) → Hp → Prop) : Prop :=
 TL ((0, a6q) : Int × (List b7)) H fun (s : Int × (List b7)) H n6 => Q4 g1H g1I g1J b6U.i8 (b6U.i8.n : Int) b6U s.1 s.2 H n1 n6 K
def Q6 (g1K : Sl) (g1L : Int) (g1M : Int) (d9v : Sl) (d9w : Int) (d8f : m9) (a2i : Int) (a0D : (List b7)) (H : Hp) (n1 : (Int × (List b7)) → Hp → Prop) (n7 : (Int × (List b7)) → Hp → Prop) (K : d9 → (List b7) → Hp → Prop) : Prop :=
 (a2i < d9w →
 (0 : Int) ≤ a2i ∧ (a2i : Int) < d9v.n ∧ ∃ a9H : u5, EltH H d9v a2i 4 (i7 a9H) ∧
 U1 (d9.mk (Sl.mk none 0 0)) a0D a9H H (fun (f9m : d9) (b6V : (List b7)) (c9B : Hp) =>
 n7 ((IntKind.wrap .i64 (a2i + 1)), b6V) c9B)) ∧
 (¬ (a2i < d9w) →
 Q5 g1K g1L g1M a0D d8f H n1 K)
def C8 (g1N : Sl) (g1O : Int) (g1P : Int) (a6r : (List b7)) (b6W : m9) (H : Hp) (n1 : (Int × (List b7)) → Hp → Prop) (K : d9 → (List b7) → Hp → Prop) : Prop :=
 TL ((0, a6r) : Int × (List b7)) H fun (s : Int × (List b7)) H n7 => Q6 g1N g1O g1P b6W.q9 (b6W.q9.n : Int) b6W s.1 s.2 H n1 n7 K
def Q7 (b8M : Sl) (b8N : Int) (Q8 : Int) (L9 : (List b7)) (H : Hp) (n1 : (Int × (List b7)) → Hp → Prop) (K : d9 → (List b7) → Hp → Prop) : Prop :=
 (Q8 < b8N →
 (0 : Int) ≤ Q8 ∧ (Q8 : Int) < b8M.n ∧ ∃ D2 : m9, EltH H b8M Q8 6 (f8 D2) ∧
 (D2.b9 = 1 →
 (L9.length + ([(b7.mk D2.d5 1)] : List b7).length) * 25 ≤ 140737488355328 ∧
 C8 b8M b8N Q8 (L9 ++ [(b7.mk D2.d5 1)]) D2 H n1 K) ∧
 (¬ (D2.b9 = 1) →
 (D2.b9 = 2 →
 (L9.length + ([(b7.mk D2.d5 2)] : List b7).length) * 25 ≤ 140737488355328 ∧
 C8 b8M b8N Q8 (L9 ++ [(b7.mk D2.d5 2)]) D2 H n1 K) ∧
 (¬ (D2.b9 = 2) →
 C8 b8M b8N Q8 L9 D2 H n1 K))) ∧
 (¬ (Q8 < b8N) →
 K (d9.mk (Sl.mk none 0 0)) L9 H)
def T8 (x0 : d9) (L5 : (List b7)) (x1 : Sl) (H : Hp) (K : d9 → (List b7) → Hp → Prop) : Prop :=
 TL ((0, L5) : Int × (List b7)) H fun (s : Int × (List b7)) H n1 => Q7 x1 (x1.n : Int) s.1 s.2 H n1 K
theorem a6M (x0 : d9) (L5 : (List b7)) (x1 : Sl) (g0 : Nat) (O5 : Sl) (S6 : Frag) (a4a : RowL 117 2 o7 O5 L5 S6) {K : d9 → (List b7) → Hp → Prop} (I : Inv w0 ps0 H0 H [bx g0 114 [(vs O5)], S6] w) (hR : ∀ (y0 : d9) (a1i : (List b7)) (V5 : Sl) (V6 : Frag) (H' : Hp) (w' : World) (_ : RowL 117 2 o7 V5 a1i V6) (_ : Inv w0 ps0 H0 H' [bx g0 114 [(vs V5)], V6] w') (_ : K y0 a1i H'), R (Value.tuple #[]) w') (h : T8 x0 L5 x1 H K) : F55 (Value.pointer (some ⟨g0, 0, none⟩)) (vs x1) w R E := by
 unfold T8 at h
 unfold F55
 refine a7 (a5c _ _ _) ?_
 obtain ⟨c9C, b8O, g1Q, g1R⟩ := h
 refine M6 (J := fun n l w => ∃ (s : Int × (List b7)) (H : Hp) (a2W : Sl) (a9b : Frag) , n = b8O s ∧ l = (match s with | (Q8, L9) => [(vi Q8)]) ∧ (match s with | (Q8, L9) => RowL 117 2 o7 a2W L9 a9b) ∧ (match s with | (Q8, L9) => Inv w0 ps0 H0 H [bx g0 114 [(vs a2W)], a9b] w) ∧ c9C s H) ⟨_, (0, L5), H, O5, S6, rfl, rfl, a4a, ((I.bring 1).bring 1), g1Q⟩ ?_
 rintro g6s τ_426 w next1 ⟨⟨Q8, L9⟩, H, a2W, a9b, rfl, c9D, a9c, I, g1S⟩ hn1
 dsimp only at c9D I a9c
 simp only [List.map_cons, List.map_nil, List.cons.injEq, and_true] at c9D
 have e12 := c9D
 simp only [e12]
 obtain ⟨n1, hm1, h⟩ : ∃ n1 : (Int × (List b7)) → Hp → Prop, (∀ s' H', n1 s' H' → c9C s' H' ∧ b8O s' < b8O (Q8, L9)) ∧ Q7 x1 (x1.n : Int) Q8 L9 H n1 K := ⟨_, fun _ _ h => h, g1R (Q8, L9) H (fun s' H' => c9C s' H' ∧ b8O s' < b8O (Q8, L9)) g1S (fun _ _ a b => ⟨a, b⟩)⟩
 unfold d2D
 unfold Q7 at h
 refine a7 (B7 _ _ _ _ _ _) ?_
 refine i2 (fun c9E => ?_) (fun c9E => ?_)
 ·replace h := h.1 c9E
  have hj2 : ∀ (a6p : (List b7)) (b2l : Sl) (b2m : Frag) (H : Hp) (w : World) (_ : RowL 117 2 o7 b2l a6p b2m) (_ : Inv w0 ps0 H0 H [bx g0 114 [(vs b2l)], b2m] w) (_ : Q2 x1 (x1.n : Int) Q8 a6p H n1 K), c5e (Value.pointer (some ⟨g0, 0, none⟩)) (vs x1) (vi (x1.n : Int)) (vi Q8) w next1 R E := by
   intro a6p b2l b2m H w d8g I h
   unfold c5e
   intro _
   unfold Q2 at h
   refine a7 (G6 _ _ _ _ _ _) ?_
   exact hn1 _ _ _ (hm1 _ _ h).2 ⟨((IntKind.wrap .i64 (Q8 + 1)), a6p), H, b2l, b2m, rfl, rfl, d8g, ((I.bring 1).bring 1), (hm1 _ _ h).1⟩
  refine A6 fun j2 hx2 => ?_
  obtain ⟨g1T, g1U, D2, c9F, h⟩ := h
  obtain ⟨g6t, g6u, g1V, c9F⟩ := c9F
  refine a7 (b5O g1V _ _ _ _ g1T g1U) ?_
  refine b6 (ldA (vs := (f8 D2)) Tryd.isAgg63 Tryd.sizeOf63 rfl (I.atH c9F)) ?_
  refine A8 I Tryd.zeroValue63 (cs := [(vi 0), (eS), (nS), (nS), (nS), (nS)]) rfl fun a4C g6v g1W g6w => ?_
  refine o0 g1W Tryd.sizeOf63 (vs := (f8 D2)) (cs' := (f8 D2)) rfl rfl (nb rfl) rfl rfl fun g6x c1o g6y => ?_
  have hj3 : ∀ (a6r : (List b7)) (b2n : Sl) (b2o : Frag) (H : Hp) (w : World) (_ : RowL 117 2 o7 b2n a6r b2o) (_ : Inv w0 ps0 H0 H [bx g0 114 [(vs b2n)], bx a4C 63 (f8 D2), b2o] w) (_ : C8 x1 (x1.n : Int) Q8 a6r D2 H n1 K), c5h (Value.pointer (some ⟨g0, 0, none⟩)) (Value.pointer (some ⟨a4C, 0, none⟩)) (vs x1) (vi (x1.n : Int)) (vi Q8) w j2 R E := by
   intro a6r b2n b2o H w d8h I h
   unfold c5h
   intro _
   unfold C8 at h
   have hj4 : ∀ (a6q : (List b7)) (b2p : Sl) (b2q : Frag) (H : Hp) (w : World) (_ : RowL 117 2 o7 b2p a6q b2q) (_ : Inv w0 ps0 H0 H [bx g0 114 [(vs b2p)], bx a4C 63 (f8 D2), b2q] w) (_ : Q5 x1 (x1.n : Int) Q8 a6q D2 H n1 K), c5g (Value.pointer (some ⟨g0, 0, none⟩)) (Value.pointer (some ⟨a4C, 0, none⟩)) (vs x1) (vi (x1.n : Int)) (vi Q8) w j2 R E := by
    intro a6q b2p b2q H w d8i I h
    unfold c5g
    intro _
    unfold Q5 at h
    have hj5 : ∀ (a9a : (List b7)) (a9d : Sl) (a9e : Frag) (H : Hp) (w : World) (_ : RowL 117 2 o7 a9d a9a a9e) (_ : Inv w0 ps0 H0 H [bx g0 114 [(vs a9d)], bx a4C 63 (f8 D2), a9e] w) (_ : Q3 x1 (x1.n : Int) Q8 a9a D2 H n1 K), c5f (Value.pointer (some ⟨g0, 0, none⟩)) (Value.pointer (some ⟨a4C, 0, none⟩)) (vs x1) (vi (x1.n : Int)) (vi Q8) w j2 R E := by
     intro a9a a9d a9e H w d8j I h
     unfold c5f
     intro _
     unfold Q3 at h
     refine a7 a5q ?_
     refine b6 (ld1 Tryd.isAgg42 ((I.bring 1).at1 (o := 4) (vs := [(vs D2.G9)]) (nb rfl) rfl)) ?_
     refine d6 (cap := []) (fun args w => Tryd.call55 args w) ?_
     refine m6 (Fi := [bx g0 114 [(vs a9d)], a9e]) (Fr := [bx a4C 63 (f8 D2)]) ((I.bring 2).bring 1) (h g0 a9d a9e d8j) (fun g6z d9s g6A g6B d9x g6C g6D g1X => ?_) (fun _ _ _ _ _ q => q.elim)
     obtain ⟨f9j, c5q, c0J, c0K, rfl, rfl, d2N, h⟩ := g1X
     refine a7 a5r ?_
     refine b6 (ld1 Tryd.isAgg42 ((d9x.bring 2).at1 (o := 5) (vs := [(vs D2.G3)]) (nb rfl) rfl)) ?_
     refine d6 (cap := []) (fun args w => Tryd.call55 args w) ?_
     refine m6 (Fi := [bx g0 114 [(vs c0J)], c0K]) (Fr := [bx a4C 63 (f8 D2)]) ((d9x.bring 1).bring 1) (h g0 c0J c0K d2N) (fun g6E c9z g6F g6G g1Y g6H g6I g1Z => ?_) (fun _ _ _ _ _ q => q.elim)
     obtain ⟨f9k, b6S, d2O, d2P, rfl, rfl, d2Q, h⟩ := g1Z
     exact hx2 _ _ (hj2 b6S d2O d2P c9z _ d2Q (((g1Y.bring 2).drop.bring 1).bring 1) h)
    refine A6 fun j5 hx5 => ?_
    refine a7 a5p ?_
    refine b6 (ld1 Tryd.isAgg22 ((I.bring 1).at1 (o := 2) (vs := [(vs D2.i8)]) (nb rfl) rfl)) ?_
    refine a7 (a2t _ _ _) ?_
    obtain ⟨c9G, b8P, g2a, g2c⟩ := h
    refine M6 (J := fun n l w => ∃ (s : Int × (List b7)) (H : Hp) (a6s : Sl) (a6t : Frag) , n = b8P s ∧ l = (match s with | (a2h, a0C) => [(vi a2h)]) ∧ (match s with | (a2h, a0C) => RowL 117 2 o7 a6s a0C a6t) ∧ (match s with | (a2h, a0C) => Inv w0 ps0 H0 H [bx g0 114 [(vs a6s)], bx a4C 63 (f8 D2), a6t] w) ∧ c9G s H) ⟨_, (0, a6q), H, b2p, b2q, rfl, rfl, d8i, (((I.bring 2).bring 2).bring 2), g2a⟩ ?_
    rintro g6J τ_354 w next6 ⟨⟨a2h, a0C⟩, H, a6s, a6t, rfl, c9H, b6X, I, g2d⟩ hn6
    dsimp only at c9H I b6X
    simp only [List.map_cons, List.map_nil, List.cons.injEq, and_true] at c9H
    have e60 := c9H
    simp only [e60]
    obtain ⟨n6, hm6, h⟩ : ∃ n6 : (Int × (List b7)) → Hp → Prop, (∀ s' H', n6 s' H' → c9G s' H' ∧ b8P s' < b8P (a2h, a0C)) ∧ Q4 x1 (x1.n : Int) Q8 D2.i8 (D2.i8.n : Int) D2 a2h a0C H n1 n6 K := ⟨_, fun _ _ h => h, g2c (a2h, a0C) H (fun s' H' => c9G s' H' ∧ b8P s' < b8P (a2h, a0C)) g2d (fun _ _ a b => ⟨a, b⟩)⟩
    unfold d2z
    unfold Q4 at h
    refine a7 (B7 _ _ _ _ _ _) ?_
    refine i2 (fun c9I => ?_) (fun c9I => ?_)
    ·replace h := h.1 c9I
     obtain ⟨g2e, g2f, a9G, c9J, h⟩ := h
     obtain ⟨g6K, g6L, g2g, c9J⟩ := c9J
     refine a7 (a1g g2g _ _ _ _ g2e g2f) ?_
     refine b6 (ldA (vs := (b8 a9G)) Tryd.isAgg24 Tryd.sizeOf24 rfl (I.atH c9J)) ?_
     refine A8 I Tryd.zeroValue24 (cs := [(vi 0), (vi 0), (eS), (nS)]) rfl fun g2h g6M g2i g6N => ?_
     refine o0 g2i Tryd.sizeOf24 (vs := (b8 a9G)) (cs' := (b8 a9G)) rfl rfl (nb rfl) rfl rfl fun g6O d9y g6P => ?_
     refine b6 (ldA Tryd.isAgg24 Tryd.sizeOf24 rfl (d9y.at1 (o := 0) (vs := (b8 a9G)) (nb rfl) rfl)) ?_
     refine d6 (cap := []) (fun args w => Tryd.call94 args w) ?_
     refine m6 (Fi := [bx g0 114 [(vs a6s)], a6t]) (Fr := [bx g2h 24 (b8 a9G), bx a4C 63 (f8 D2)]) ((d9y.bring 3).bring 2) (h g0 a6s a6t b6X) (fun g6Q c9A g6R g6S g2j g6T g6U g2k => ?_) (fun _ _ _ _ _ q => q.elim)
     obtain ⟨f9l, b6T, d2R, d2S, rfl, rfl, d2T, h⟩ := g2k
     refine a7 (G6 _ _ _ _ _ _) ?_
     exact hn6 _ _ _ (hm6 _ _ h).2 ⟨((IntKind.wrap .i64 (a2h + 1)), b6T), c9A, d2R, d2S, rfl, rfl, d2T, ((((g2j.bring 2).drop.bring 1).bring 2).bring 2), (hm6 _ _ h).1⟩
    ·replace h := h.2 c9I
     exact hx5 _ _ (hj5 a0C a6s a6t H _ b6X (((I.bring 2).bring 2).bring 2) h)
   refine A6 fun j4 hx4 => ?_
   refine a7 a7g ?_
   refine b6 (ld1 Tryd.isAgg25 ((I.bring 1).at1 (o := 3) (vs := [(vs D2.q9)]) (nb rfl) rfl)) ?_
   refine a7 (a6A _ _ _) ?_
   obtain ⟨c9K, b8Q, g2l, g2m⟩ := h
   refine M6 (J := fun n l w => ∃ (s : Int × (List b7)) (H : Hp) (a6u : Sl) (a6v : Frag) , n = b8Q s ∧ l = (match s with | (a2i, a0D) => [(vi a2i)]) ∧ (match s with | (a2i, a0D) => RowL 117 2 o7 a6u a0D a6v) ∧ (match s with | (a2i, a0D) => Inv w0 ps0 H0 H [bx g0 114 [(vs a6u)], bx a4C 63 (f8 D2), a6v] w) ∧ c9K s H) ⟨_, (0, a6r), H, b2n, b2o, rfl, rfl, d8h, (((I.bring 2).bring 2).bring 2), g2l⟩ ?_
   rintro g6V τ_396 w next7 ⟨⟨a2i, a0D⟩, H, a6u, a6v, rfl, c9L, b6Y, I, g2n⟩ hn7
   dsimp only at c9L I b6Y
   simp only [List.map_cons, List.map_nil, List.cons.injEq, and_true] at c9L
   have e49 := c9L
   simp only [e49]
   obtain ⟨n7, hm7, h⟩ : ∃ n7 : (Int × (List b7)) → Hp → Prop, (∀ s' H', n7 s' H' → c9K s' H' ∧ b8Q s' < b8Q (a2i, a0D)) ∧ Q6 x1 (x1.n : Int) Q8 D2.q9 (D2.q9.n : Int) D2 a2i a0D H n1 n7 K := ⟨_, fun _ _ h => h, g2m (a2i, a0D) H (fun s' H' => c9K s' H' ∧ b8Q s' < b8Q (a2i, a0D)) g2n (fun _ _ a b => ⟨a, b⟩)⟩
   unfold d2B
   unfold Q6 at h
   refine a7 (B7 _ _ _ _ _ _) ?_
   refine i2 (fun c9M => ?_) (fun c9M => ?_)
   ·replace h := h.1 c9M
    obtain ⟨g2o, g2p, a9H, c9N, h⟩ := h
    obtain ⟨g6W, g6X, g2q, c9N⟩ := c9N
    refine a7 (a2x g2q _ _ _ _ g2o g2p) ?_
    refine b6 (ldA (vs := (i7 a9H)) Tryd.isAgg27 Tryd.sizeOf27 rfl (I.atH c9N)) ?_
    refine A8 I Tryd.zeroValue27 (cs := [(vi 0), (vi 0), (nS), (nS)]) rfl fun g2r g6Y g2s g6Z => ?_
    refine o0 g2s Tryd.sizeOf27 (vs := (i7 a9H)) (cs' := (i7 a9H)) rfl rfl (nb rfl) rfl rfl fun g7a d9z g7b => ?_
    refine b6 (ldA Tryd.isAgg27 Tryd.sizeOf27 rfl (d9z.at1 (o := 0) (vs := (i7 a9H)) (nb rfl) rfl)) ?_
    refine d6 (cap := []) (fun args w => Tryd.call93 args w) ?_
    refine m6 (Fi := [bx g0 114 [(vs a6u)], a6v]) (Fr := [bx g2r 27 (i7 a9H), bx a4C 63 (f8 D2)]) ((d9z.bring 3).bring 2) (h g0 a6u a6v b6Y) (fun g7c c9B g7d g7e g2t g7f g7g g2u => ?_) (fun _ _ _ _ _ q => q.elim)
    obtain ⟨f9m, b6V, d2U, d2V, rfl, rfl, d2W, h⟩ := g2u
    refine a7 (G6 _ _ _ _ _ _) ?_
    exact hn7 _ _ _ (hm7 _ _ h).2 ⟨((IntKind.wrap .i64 (a2i + 1)), b6V), c9B, d2U, d2V, rfl, rfl, d2W, ((((g2t.bring 2).drop.bring 1).bring 2).bring 2), (hm7 _ _ h).1⟩
   ·replace h := h.2 c9M
    exact hx4 _ _ (hj4 a0D a6u a6v H _ b6Y (((I.bring 2).bring 2).bring 2) h)
  refine A6 fun j3 hx3 => ?_
  refine a7 a5o ?_
  refine b6 (ld1 Tryd.isAgg3 (c1o.at1 (o := 0) (vs := [(vi D2.b9)]) (nb rfl) rfl)) ?_
  refine a7 (i6 _ _ _ _ _ _) ?_
  refine i2 (fun c9O => ?_) (fun c9O => ?_)
  ·replace h := h.1 c9O
   refine a0p c1o fun g7h c1p => ?_
   refine j8 (o9 _) ?_
   refine j8 a0h ?_
   refine j8 a1C ?_
   refine u0 (ld1 Tryd.isAgg112 ((c1p.bring 1).at1 (o := 0) (vs := [(vs a2W)]) (nb rfl) rfl)) ?_
   refine u0 (ld1 Tryd.isAgg9 (c1p.at1 (o := 1) (vs := [(Value.string D2.d5)]) (nb rfl) rfl)) ?_
   refine j8 (a3K _ _) ?_
   refine W7 (e := 117) (c := o7) (xs := [(b7.mk D2.d5 1)]) c1p (b1b _ _) rfl rfl a2X a2Y (nb rfl) fun g7i g7j g7k g2v d9A g2w => ?_
   refine ⟨(g2w _ (c1p.bring 1).lt1), ?_⟩
   obtain ⟨g2x, h⟩ := h
   refine b4z (s := a2W) (xs := L9) (d9A.bring 3) a9c (g2v.srcO ((d9A.bring 3).bring 1)) g2x fun c9P g2y g7l g2z g2A g7m => ?_
   refine j8 (o9 _) ?_
   refine j8 a0h ?_
   refine o0 ((g2A.bring 1).drop.bring 2) Tryd.sizeOf112 (vs := [(vs c9P)]) (cs' := [(vs c9P)]) rfl rfl (nb rfl) rfl rfl fun g7n g2B g7o => ?_
   exact hx3 _ _ (hj3 (L9 ++ [(b7.mk D2.d5 1)]) c9P g2y H _ g2z (((g2B.bring 1).bring 2).bring 2) h)
  ·replace h := h.2 c9O
   refine a7 (i6 _ _ _ _ _ _) ?_
   refine i2 (fun c9Q => ?_) (fun c9Q => ?_)
   ·replace h := h.1 c9Q
    refine a0p c1o fun g7p c1q => ?_
    refine j8 (o9 _) ?_
    refine j8 a0h ?_
    refine j8 a1C ?_
    refine u0 (ld1 Tryd.isAgg112 ((c1q.bring 1).at1 (o := 0) (vs := [(vs a2W)]) (nb rfl) rfl)) ?_
    refine u0 (ld1 Tryd.isAgg9 (c1q.at1 (o := 1) (vs := [(Value.string D2.d5)]) (nb rfl) rfl)) ?_
    refine j8 (a3K _ _) ?_
    refine W7 (e := 117) (c := o7) (xs := [(b7.mk D2.d5 2)]) c1q (b1b _ _) rfl rfl a2X a2Y (nb rfl) fun g7q g7r g7s g2C d9B g2D => ?_
    refine ⟨(g2D _ (c1q.bring 1).lt1), ?_⟩
    obtain ⟨g2E, h⟩ := h
    refine b4z (s := a2W) (xs := L9) (d9B.bring 3) a9c (g2C.srcO ((d9B.bring 3).bring 1)) g2E fun c9R g2F g7t g2G g2H g7u => ?_
    refine j8 (o9 _) ?_
    refine j8 a0h ?_
    refine o0 ((g2H.bring 1).drop.bring 2) Tryd.sizeOf112 (vs := [(vs c9R)]) (cs' := [(vs c9R)]) rfl rfl (nb rfl) rfl rfl fun g7v g2I g7w => ?_
    exact hx3 _ _ (hj3 (L9 ++ [(b7.mk D2.d5 2)]) c9R g2F H _ g2G (((g2I.bring 1).bring 2).bring 2) h)
   ·replace h := h.2 c9Q
    exact hx3 _ _ (hj3 L9 a2W a9b H _ a9c (((c1o.bring 2).bring 1).bring 2) h)
 ·replace h := h.2 c9E
  exact hR (d9.mk (Sl.mk none 0 0)) L9 a2W a9b H _ a9c ((I.bring 1).bring 1) h
theorem a6Z (x0 : d9) (L5 : (List b7)) (x1 : Sl) {H : Hp} {K : d9 → (List b7) → Hp → Prop} (h : T8 x0 L5 x1 H K) : O4 x0 L5 x1 H K := by
 intro g0 O5 S6 a4a w I
 refine f8E ?_
 refine a6M x0 L5 x1 g0 O5 S6 a4a I (fun y0 a1i V5 V6 H' w' b4k I' hk => ⟨H', _, I', y0, a1i, V5, V6, rfl, rfl, b4k, hk⟩) h
def T3 (b2b : Int) (c0q : ByteArray) (g2J : (List b7)) (E2 : q8) (H : Hp) (K : ByteArray → Int → Hp → Prop) : Prop :=
 K c0q b2b H
def a0o (g5E : (Option Nat)) (b8R : (List b7)) (b8K : Int) (b4i : q8) (a4S : Int) (Y9 : ByteArray) (O0 : Int) (H : Hp) (n2 : (Int × ByteArray × Int) → Hp → Prop) (K : ByteArray → Int → Hp → Prop) : Prop :=
 (O0 < b8K →
 (0 : Int) ≤ O0 ∧ ∃ a2s : b7, (b8R)[(O0 : Int).toNat]? = some a2s ∧
 ∃ b0Q : List (ByteArray × Int), MapH H (fun s : ByteArray => Value.string s) (fun n : Int => Value.int .i64 n) g5E b0Q ∧
 (((lk a2s.fname b0Q).getD 0) = a2s.fas →
 n2 (a4S, Y9, (IntKind.wrap .i64 (O0 + 1))) H) ∧
 (¬ (((lk a2s.fname b0Q).getD 0) = a2s.fas) →
 (((lk a2s.fname b0Q).getD 0) = 0 →
 T3 63 a2s.fname b8R b4i H K) ∧
 (¬ (((lk a2s.fname b0Q).getD 0) = 0) →
 T3 64 a2s.fname b8R b4i H K))) ∧
 (¬ (O0 < b8K) →
 T3 a4S Y9 b8R b4i H K)
def a1u (x0 : q8) (H : Hp) (K : ByteArray → Int → Hp → Prop) : Prop :=
 a3l x0 H (fun (a0k : Int) (H_6 : Hp) =>
 (¬ (a0k = 0) →
 K ⟨#[]⟩ a0k H_6) ∧
 (a0k = 0 →
 a4p x0.a2j H_6 (fun (c9S : (Option Nat)) (c1r : ByteArray) (a9I : Int) (c9T : Hp) =>
 (¬ (a9I = 0) →
 K c1r a9I c9T) ∧
 (a9I = 0 →
 O4 (d9.mk (Sl.mk none 0 0)) [] x0.a3D c9T (fun (g2K : d9) (a7J : (List b7)) (b2k : Hp) =>
 TL ((a9I, ⟨#[]⟩, 0) : Int × ByteArray × Int) b2k fun (s : Int × ByteArray × Int) H n2 => a0o c9S a7J (a7J.length : Int) x0 s.1 s.2.1 s.2.2 H n2 K)))))
theorem b2r (x0 : q8) {K : ByteArray → Int → Hp → Prop} (I : Inv w0 ps0 H0 H [] w) (hR : ∀ (r0 : ByteArray) (r1 : Int) (H' : Hp) (w' : World) (_ : Inv w0 ps0 H0 H' [] w') (_ : K r0 r1 H'), R (Value.tuple #[(Value.string r0), (vi r1)]) w') (h : a1u x0 H K) : F34 (Value.agg (u6 x0).toArray) w R E := by
 unfold a1u at h
 unfold F34
 refine P2 I (cs := (u6 x0)) rfl fun g_2 w_3 I_4 k_5 => ?_
 refine b6 (ldA Tryd.isAgg44 Tryd.sizeOf44 rfl (I_4.at1 (o := 0) (vs := (u6 x0)) (nb rfl) rfl)) ?_
 refine d6 (cap := []) (fun args w => Tryd.call53 args w) ?_
 refine m6 (Fi := []) (Fr := [bx g_2 44 (u6 x0)]) I_4 (h) (fun c7K H_6 c7L w_7 I_8 c7M k_9 b1K => ?_) (fun _ _ _ _ _ q => q.elim)
 obtain ⟨a0k, rfl, rfl, h⟩ := b1K
 refine a7 (Y0 _ _ _ _ _ _) ?_
 refine a5a (fun a8h => ?_) (fun a8h => ?_)
 ·replace h := h.1 a8h
  exact hR ⟨#[]⟩ a0k H_6 _ I_8.drop h
 ·replace h := h.2 a8h
  refine a7 a7f ?_
  refine b6 (ld1 Tryd.isAgg41 (I_8.at1 (o := 0) (vs := [(vs x0.a2j)]) (nb rfl) rfl)) ?_
  refine d6 (cap := []) (fun args w => Tryd.call54 args w) ?_
  refine m6 (Fi := []) (Fr := [bx g_2 44 (u6 x0)]) I_8 (h) (fun g9l c9T g9m p7 b9D g9n g3j g5F => ?_) (fun _ _ _ _ _ q => q.elim)
  obtain ⟨c9S, c1r, a9I, rfl, rfl, h⟩ := g5F
  refine a7 (m4 _ _ _ rfl) ?_
  refine a7 (m4 _ _ (Value.string c1r) rfl) ?_
  refine a7 (m4 _ _ (vi a9I) rfl) ?_
  refine a7 (Y0 _ _ _ _ _ _) ?_
  refine a5a (fun b6k => ?_) (fun b6k => ?_)
  ·replace h := h.1 b6k
   exact hR c1r a9I c9T _ b9D.drop h
  ·replace h := h.2 b6k
   refine a7 (c6S ) ?_
   refine P2 b9D (cs := [(nS)]) rfl fun c9U z6 c3l g3D => ?_
   refine a7 b1a ?_
   refine b6 (ld1 Tryd.isAgg42 ((c3l.bring 1).at1 (o := 1) (vs := [(vs x0.a3D)]) (nb rfl) rfl)) ?_
   refine d6 (cap := []) (fun args w => Tryd.call55 args w) ?_
   refine m6 (Fi := [bx c9U 114 [(Value.slice (Sl.mk none 0 0).a (Sl.mk none 0 0).n (Sl.mk none 0 0).c)], []]) (Fr := [bx g_2 44 (u6 x0)]) (c3l.nil.bring 1) (h c9U (Sl.mk none 0 0) ([]) (RowL.nil (e := 117) a2X a2Y)) (fun g9o b2k g9p c4E f9n f0f g9q g5G => ?_) (fun _ _ _ _ _ q => q.elim)
   obtain ⟨g2K, a7J, b6Z, c5r, rfl, rfl, b2s, h⟩ := g5G
   have hj1 : ∀ (b2b : Int) (c0q : ByteArray) (H : Hp) (w : World) (_ : Inv w0 ps0 H0 H [bx c9U 114 [(vs b6Z)], bx g_2 44 (u6 x0), c5r] w) (_ : T3 b2b c0q a7J x0 H K), c5c (vi b2b) (Value.string c0q) w R E := by
    intro b2b c0q H w I h
    unfold c5c
    intro _
    unfold T3 at h
    exact hR c0q b2b H _ I.drop.drop.drop h
   refine A6 fun j1 hx1 => ?_
   refine a7 (o9 _) ?_
   refine a7 a0h ?_
   refine b6 (ld1 Tryd.isAgg112 (f9n.at1 (o := 0) (vs := [(vs b6Z)]) (nb rfl) rfl)) ?_
   refine a7 (b7g Tryd.underlying112 b2s) ?_
   obtain ⟨d8k, c5s, g5H, g5I⟩ := h
   refine M6 (J := fun n l w => ∃ (s : Int × ByteArray × Int) (H : Hp) , n = c5s s ∧ l = (match s with | (a4S, Y9, O0) => [(vi a4S), (Value.string Y9), (vi O0)]) ∧ (match s with | (a4S, Y9, O0) => Inv w0 ps0 H0 H [bx c9U 114 [(vs b6Z)], bx g_2 44 (u6 x0), c5r] w) ∧ d8k s H) ⟨_, (a9I, ⟨#[]⟩, 0), b2k, rfl, rfl, (((f9n.bring 1).bring 2).bring 2), g5H⟩ ?_
   rintro g9r τ_64 w next2 ⟨⟨a4S, Y9, O0⟩, H, rfl, d8l, I, g5J⟩ hn2
   dsimp only at d8l I
   simp only [List.map_cons, List.map_nil, List.cons.injEq, and_true] at d8l
   obtain ⟨e7, e9, e39⟩ := d8l
   simp only [e7, e9, e39]
   obtain ⟨n2, hm2, h⟩ : ∃ n2 : (Int × ByteArray × Int) → Hp → Prop, (∀ s' H', n2 s' H' → d8k s' H' ∧ c5s s' < c5s (a4S, Y9, O0)) ∧ a0o c9S a7J (a7J.length : Int) x0 a4S Y9 O0 H n2 K := ⟨_, fun _ _ h => h, g5I (a4S, Y9, O0) H (fun s' H' => d8k s' H' ∧ c5s s' < c5s (a4S, Y9, O0)) g5J (fun _ _ a b => ⟨a, b⟩)⟩
   unfold d2t
   unfold a0o at h
   refine a7 (B7 _ _ _ _ _ _) ?_
   refine i2 (fun d8m => ?_) (fun d8m => ?_)
   ·replace h := h.1 d8m
    obtain ⟨f9o, a2s, a8j, h⟩ := h
    obtain ⟨g9s, g9t, a9W, f7x⟩ := b2s.addr a8j
    refine a7 (d0o a9W _ _ _ _ f9o (b2s.lt f9o a8j)) ?_
    refine b6 (ldA (vs := (o7 a2s)) Tryd.isAgg117 Tryd.sizeOf117 rfl (b2s.atW (I.bring 2) a9W a8j)) ?_
    refine A8 I Tryd.zeroValue117 (cs := [(eS), (vi 0)]) rfl fun g9u J0 c2Z e9T => ?_
    refine o0 c2Z Tryd.sizeOf117 (vs := (o7 a2s)) (cs' := (o7 a2s)) rfl rfl (nb rfl) rfl rfl fun c0i b0a g9v => ?_
    refine a7 a9M ?_
    refine b6 (ld1 Tryd.isAgg9 (b0a.at1 (o := 0) (vs := [(Value.string a2s.fname)]) (nb rfl) rfl)) ?_
    obtain ⟨b0Q, g2L, h⟩ := h
    refine c1J (keyS Tryd.underlying9) Tryd.underlying108 (z := 0) Tryd.zeroValue3 b0a g2L a2s.fname ?_
    refine a7 c5D ?_
    refine b6 (ld1 Tryd.isAgg3 (b0a.at1 (o := 1) (vs := [(vi a2s.fas)]) (nb rfl) rfl)) ?_
    refine a7 (i6 _ _ _ _ _ _) ?_
    refine i2 (fun d8n => ?_) (fun d8n => ?_)
    ·replace h := h.1 d8n
     refine a7 (G6 _ _ _ _ _ _) ?_
     exact hn2 _ _ _ (hm2 _ _ h).2 ⟨(a4S, Y9, (IntKind.wrap .i64 (O0 + 1))), H, rfl, rfl, (((b0a.drop.bring 2).bring 2).bring 2), (hm2 _ _ h).1⟩
    ·replace h := h.2 d8n
     refine a7 (i6 _ _ _ _ _ _) ?_
     refine i2 (fun d8o => ?_) (fun d8o => ?_)
     ·replace h := h.1 d8o
      refine a7 a9M ?_
      refine b6 (ld1 Tryd.isAgg9 (b0a.at1 (o := 0) (vs := [(Value.string a2s.fname)]) (nb rfl) rfl)) ?_
      exact hx1 _ _ (hj1 63 a2s.fname H _ (((b0a.drop.bring 2).bring 2).bring 2) h)
     ·replace h := h.2 d8o
      refine a7 a9M ?_
      refine b6 (ld1 Tryd.isAgg9 (b0a.at1 (o := 0) (vs := [(Value.string a2s.fname)]) (nb rfl) rfl)) ?_
      exact hx1 _ _ (hj1 64 a2s.fname H _ (((b0a.drop.bring 2).bring 2).bring 2) h)
   ·replace h := h.2 d8m
    exact hx1 _ _ (hj1 a4S Y9 H _ (((I.bring 2).bring 2).bring 2) h)
theorem b2F (x0 : q8) {H : Hp} {K : ByteArray → Int → Hp → Prop} (h : a1u x0 H K) : a5Q x0 H K := by
 intro w I
 refine f7O ?_
 refine b2r x0 I (fun r0 r1 H' w' I' hk => ⟨H', _, I', r0, r1, rfl, rfl, hk⟩) h
def a1L (x0 : j7) (H : Hp) (K : Int → Hp → Prop) : Prop :=
 (0 < x0.E4 →
 K 2 H) ∧
 (¬ (0 < x0.E4) →
 K 1 H)
theorem b2G (x0 : j7) {K : Int → Hp → Prop} (I : Inv w0 ps0 H0 H [] w) (hR : ∀ (r0 : Int) (H' : Hp) (w' : World) (_ : Inv w0 ps0 H0 H' [] w') (_ : K r0 H'), R (vi r0) w') (h : a1L x0 H K) : F92 (Value.agg (m3 x0).toArray) w R E := by
 unfold a1L at h
 unfold F92
 refine P2 I (cs := (m3 x0)) rfl fun g_2 w_3 I_4 k_5 => ?_
 refine a7 a2y ?_
 refine b6 (ld1 Tryd.isAgg3 (I_4.at1 (o := 1) (vs := [(vi x0.E4)]) (nb rfl) rfl)) ?_
 refine a7 (a1f _ _ _ _ _ _) ?_
 refine i2 (fun c_6 => ?_) (fun c_6 => ?_)
 ·replace h := h.1 c_6
  exact hR 2 H _ I_4.drop h
 ·replace h := h.2 c_6
  exact hR 1 H _ I_4.drop h
theorem b4m (x0 : j7) {H : Hp} {K : Int → Hp → Prop} (h : a1L x0 H K) : a6E x0 H K := by
 intro w I
 refine f8G ?_
 refine b2G x0 I (fun r0 H' w' I' hk => ⟨H', _, I', r0, rfl, rfl, hk⟩) h
end Go.Proofs.YtnhkdkcgdcgmdaaDoor
