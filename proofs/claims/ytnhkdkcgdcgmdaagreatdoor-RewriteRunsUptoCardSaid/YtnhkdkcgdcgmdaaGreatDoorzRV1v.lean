/- Typed formulas of the program's functions that few laws need; printed by lift.py off the code. -/
import Derived.Test.YtnhkdkcgdcgmdaaGreatDoorzRV1
import Derived.Test.YtnhkdkcgdcgmdaaGreatDoorzRG1v
namespace Go.Proofs.YtnhkdkcgdcgmdaaGreatDoor
open Go.RowKit
set_option maxRecDepth 100000
set_option maxHeartbeats 2000000
variable {w0 w : World} {ps0 : Nat → Prop} {H0 H : Hp} {R : RT} {E : Pan}
def a0m (f0z : Sl) (c5V : Int) (c0H : b6) (W3 : Int) (P7 : (List g8)) (H : Hp) (n2 : (Int × (List g8)) → Hp → Prop) (K : l7 → (List g8) → Hp → Prop) : Prop :=
 (W3 < c5V →
 (0 : Int) ≤ W3 ∧ (W3 : Int) < f0z.n ∧ ∃ c0I : b6, EltH H f0z W3 4 (b8 c0I) ∧
 Y1 (l7.mk (Sl.mk none 0 0)) P7 c0I H (fun (h5X : l7) (c7x : (List g8)) (e7M : Hp) =>
 n2 ((IntKind.wrap .i64 (W3 + 1)), c7x) e7M)) ∧
 (¬ (W3 < c5V) →
 K (l7.mk (Sl.mk none 0 0)) P7 H)
def O1 (a2X : (List g8)) (v8 : b6) (H : Hp) (K : l7 → (List g8) → Hp → Prop) : Prop :=
 TL ((0, a2X) : Int × (List g8)) H fun (s : Int × (List g8)) H n2 => a0m v8.o9 (v8.o9.n : Int) v8 s.1 s.2 H n2 K
def a1o (x0 : l7) (T2 : (List g8)) (x1 : b6) (H : Hp) (K : l7 → (List g8) → Hp → Prop) : Prop :=
 (x1.a8 = 2 →
 (T2.length + ([(g8.mk x1.b7 1)] : List g8).length) * 25 ≤ 140737488355328 ∧
 O1 (T2 ++ [(g8.mk x1.b7 1)]) x1 H K) ∧
 (¬ (x1.a8 = 2) →
 (x1.a8 = 4 →
 (T2.length + ([(g8.mk x1.b7 2)] : List g8).length) * 25 ≤ 140737488355328 ∧
 O1 (T2 ++ [(g8.mk x1.b7 2)]) x1 H K) ∧
 (¬ (x1.a8 = 4) →
 O1 T2 x1 H K))
theorem b2t (x0 : l7) (T2 : (List g8)) (x1 : b6) (g0 : Nat) (X0 : Sl) (a0x : Frag) (a8s : RowL 127 2 z8 X0 T2 a0x) {K : l7 → (List g8) → Hp → Prop} (I : Inv w0 ps0 H0 H [bx g0 125 [(vs X0)], a0x] w) (hR : ∀ (y0 : l7) (a4H : (List g8)) (a1S : Sl) (a1T : Frag) (H' : Hp) (w' : World) (_ : RowL 127 2 z8 a1S a4H a1T) (_ : Inv w0 ps0 H0 H' [bx g0 125 [(vs a1S)], a1T] w') (_ : K y0 a4H H'), R (Value.tuple #[]) w') (h : a1o x0 T2 x1 H K) : e0f (Value.pointer (some ⟨g0, 0, none⟩)) (Value.agg (b8 x1).toArray) w R E := by
 unfold a1o at h
 unfold e0f
 refine L9 I (cs := (b8 x1)) rfl fun g_2 w_3 I_4 k_5 => ?_
 have hj1 : ∀ (a2X : (List g8)) (a7b : Sl) (a7c : Frag) (H : Hp) (w : World) (_ : RowL 127 2 z8 a7b a2X a7c) (_ : Inv w0 ps0 H0 H [bx g0 125 [(vs a7b)], bx g_2 53 (b8 x1), a7c] w) (_ : O1 a2X x1 H K), c7w (Value.pointer (some ⟨g0, 0, none⟩)) (Value.pointer (some ⟨g_2, 0, none⟩)) w R E := by
  intro a2X a7b a7c H w c3J I h
  unfold c7w
  intro _
  unfold O1 at h
  refine a7 K5 ?_
  refine d7 (ld1 Tryz.isAgg51 ((I.bring 1).at1 (o := 3) (vs := [(vs x1.o9)]) (nb rfl) rfl)) ?_
  refine a7 (a2l _ _ _) ?_
  obtain ⟨e7N, d3W, i1f, i1g⟩ := h
  refine M6 (J := fun n l w => ∃ (s : Int × (List g8)) (H : Hp) (a2Y : Sl) (a2Z : Frag) , n = d3W s ∧ l = (match s with | (W3, P7) => [(vi W3)]) ∧ (match s with | (W3, P7) => RowL 127 2 z8 a2Y P7 a2Z) ∧ (match s with | (W3, P7) => Inv w0 ps0 H0 H [bx g0 125 [(vs a2Y)], bx g_2 53 (b8 x1), a2Z] w) ∧ e7N s H) ⟨_, (0, a2X), H, a7b, a7c, rfl, rfl, c3J, (((I.bring 2).bring 2).bring 2), i1f⟩ ?_
  rintro i5N τ_88 w next2 ⟨⟨W3, P7⟩, H, a2Y, a2Z, rfl, d8Z, a9H, I, i1h⟩ hn2
  dsimp only at d8Z I a9H
  simp only [List.map_cons, List.map_nil, List.cons.injEq, and_true] at d8Z
  have e39 := d8Z
  simp only [e39]
  obtain ⟨n2, hm2, h⟩ : ∃ n2 : (Int × (List g8)) → Hp → Prop, (∀ s' H', n2 s' H' → e7N s' H' ∧ d3W s' < d3W (W3, P7)) ∧ a0m x1.o9 (x1.o9.n : Int) x1 W3 P7 H n2 K := ⟨_, fun _ _ h => h, i1g (W3, P7) H (fun s' H' => e7N s' H' ∧ d3W s' < d3W (W3, P7)) i1h (fun _ _ a b => ⟨a, b⟩)⟩
  unfold d6q
  unfold a0m at h
  refine a7 (D7 _ _ _ _ _ _) ?_
  refine j8 (fun c3a => ?_) (fun c3a => ?_)
  ·replace h := h.1 c3a
   obtain ⟨i1i, e5J, c0I, e7O, h⟩ := h
   obtain ⟨g9F, i5O, i1j, e7O⟩ := e7O
   refine a7 (M4 i1j _ _ _ _ i1i e5J) ?_
   refine d7 (ldA (vs := (b8 c0I)) Tryz.isAgg53 Tryz.sizeOf53 rfl (I.atH e7O)) ?_
   refine y9 I Tryz.zeroValue53 (cs := [(vi 0), (vi 0), (eS), (nS)]) rfl fun g7r b2m b5I d1t => ?_
   refine m7 b5I Tryz.sizeOf53 (vs := (b8 c0I)) (cs' := (b8 c0I)) rfl rfl (nb rfl) rfl rfl fun Q3 b3B d7I => ?_
   refine d7 (ldA Tryz.isAgg53 Tryz.sizeOf53 rfl (b3B.at1 (o := 0) (vs := (b8 c0I)) (nb rfl) rfl)) ?_
   refine d8 (cap := []) (fun args w => Tryz.call102 args w) ?_
   refine o0 (Fi := [bx g0 125 [(vs a2Y)], a2Z]) (Fr := [bx g7r 53 (b8 c0I), bx g_2 53 (b8 x1)]) ((b3B.bring 3).bring 2) (h g0 a2Y a2Z a9H) (fun i5P e7M i0L Y7 i1k i5Q i5R i1l => ?_) (fun _ _ _ _ _ q => q.elim)
   obtain ⟨h5X, c7x, e7P, e7Q, rfl, rfl, e7R, h⟩ := i1l
   refine a7 (L6 _ _ _ _ _ _) ?_
   exact hn2 _ _ _ (hm2 _ _ h).2 ⟨((IntKind.wrap .i64 (W3 + 1)), c7x), e7M, e7P, e7Q, rfl, rfl, e7R, ((((i1k.bring 2).drop.bring 1).bring 2).bring 2), (hm2 _ _ h).1⟩
  ·replace h := h.2 c3a
   exact hR (l7.mk (Sl.mk none 0 0)) P7 a2Y a2Z H _ a9H (((I.bring 1).drop.bring 1).bring 1) h
 refine A7 fun j1 hx1 => ?_
 refine a7 Q7 ?_
 refine d7 (ld1 Tryz.isAgg3 (I_4.at1 (o := 0) (vs := [(vi x1.a8)]) (nb rfl) rfl)) ?_
 refine a7 (o2 _ _ _ _ _ _) ?_
 refine j8 (fun e0g => ?_) (fun e0g => ?_)
 ·replace h := h.1 e0g
  refine X7 I_4 fun w_6 I_7 => ?_
  refine m8 (A0 _) ?_
  refine m8 a3i ?_
  refine m8 a8e ?_
  refine y7 (ld1 Tryz.isAgg123 ((I_7.bring 1).at1 (o := 0) (vs := [(vs X0)]) (nb rfl) rfl)) ?_
  refine y7 (ld1 Tryz.isAgg9 (I_7.at1 (o := 2) (vs := [(Value.string x1.b7)]) (nb rfl) rfl)) ?_
  refine m8 (a8f _ _) ?_
  refine a1s (e := 127) (c := z8) (xs := [(g8.mk x1.b7 1)]) I_7 (b7q _ _) rfl rfl a7f a7g (nb rfl) fun s_9 i5S R1 a9D a3G b5X => ?_
  refine ⟨(b5X _ (I_7.bring 1).lt1), ?_⟩
  obtain ⟨e7E, h⟩ := h
  refine c1e (s := X0) (xs := T2) (a3G.bring 3) a8s (a9D.srcO ((a3G.bring 3).bring 1)) e7E fun e7S c0x X8 c3v a9o b9P => ?_
  refine m8 (A0 _) ?_
  refine m8 a3i ?_
  refine m7 ((a9o.bring 1).drop.bring 2) Tryz.sizeOf123 (vs := [(vs e7S)]) (cs' := [(vs e7S)]) rfl rfl (nb rfl) rfl rfl fun y6 e7l i0W => ?_
  exact hx1 _ _ (hj1 (T2 ++ [(g8.mk x1.b7 1)]) e7S c0x H _ c3v (((e7l.bring 1).bring 2).bring 2) h)
 ·replace h := h.2 e0g
  refine a7 (o2 _ _ _ _ _ _) ?_
  refine j8 (fun e0h => ?_) (fun e0h => ?_)
  ·replace h := h.1 e0h
   refine X7 I_4 fun b0s c7k => ?_
   refine m8 (A0 _) ?_
   refine m8 a3i ?_
   refine m8 a8e ?_
   refine y7 (ld1 Tryz.isAgg123 ((c7k.bring 1).at1 (o := 0) (vs := [(vs X0)]) (nb rfl) rfl)) ?_
   refine y7 (ld1 Tryz.isAgg9 (c7k.at1 (o := 2) (vs := [(Value.string x1.b7)]) (nb rfl) rfl)) ?_
   refine m8 (a8f _ _) ?_
   refine a1s (e := 127) (c := z8) (xs := [(g8.mk x1.b7 2)]) c7k (b7q _ _) rfl rfl a7f a7g (nb rfl) fun g2d i0G a6d c3w g9G i1m => ?_
   refine ⟨(i1m _ (c7k.bring 1).lt1), ?_⟩
   obtain ⟨c8R, h⟩ := h
   refine c1e (s := X0) (xs := T2) (g9G.bring 3) a8s (c3w.srcO ((g9G.bring 3).bring 1)) c8R fun e0i h5Y a0i h5Z c5B d9O => ?_
   refine m8 (A0 _) ?_
   refine m8 a3i ?_
   refine m7 ((c5B.bring 1).drop.bring 2) Tryz.sizeOf123 (vs := [(vs e0i)]) (cs' := [(vs e0i)]) rfl rfl (nb rfl) rfl rfl fun e9X h6a i3h => ?_
   exact hx1 _ _ (hj1 (T2 ++ [(g8.mk x1.b7 2)]) e0i h5Y H _ h5Z (((h6a.bring 1).bring 2).bring 2) h)
  ·replace h := h.2 e0h
   exact hx1 _ _ (hj1 T2 X0 a0x H _ a8s (((I_4.bring 2).bring 1).bring 2) h)
theorem b2S (x0 : l7) (T2 : (List g8)) (x1 : b6) {H : Hp} {K : l7 → (List g8) → Hp → Prop} (h : a1o x0 T2 x1 H K) : Y1 x0 T2 x1 H K := by
 intro g0 X0 a0x a8s w I
 refine f5h ?_
 refine b2t x0 T2 x1 g0 X0 a0x a8s I (fun y0 a4H a1S a1T H' w' c0J I' hk => ⟨H', _, I', y0, a4H, a1S, a1T, rfl, rfl, c0J, hk⟩) h
def a0o (f0A : Sl) (f0B : Int) (c0H : b9) (a5W : Int) (P7 : (List g8)) (H : Hp) (n2 : (Int × (List g8)) → Hp → Prop) (K : l7 → (List g8) → Hp → Prop) : Prop :=
 (a5W < f0B →
 (0 : Int) ≤ a5W ∧ (a5W : Int) < f0A.n ∧ ∃ c0K : b9, EltH H f0A a5W 4 (d6 c0K) ∧
 a1h (l7.mk (Sl.mk none 0 0)) P7 c0K H (fun (h6b : l7) (c7y : (List g8)) (a6m : Hp) =>
 n2 ((IntKind.wrap .i64 (a5W + 1)), c7y) a6m)) ∧
 (¬ (a5W < f0B) →
 K (l7.mk (Sl.mk none 0 0)) P7 H)
def a0p (v8 : b9) (a2X : (List g8)) (H : Hp) (K : l7 → (List g8) → Hp → Prop) : Prop :=
 TL ((0, a2X) : Int × (List g8)) H fun (s : Int × (List g8)) H n2 => a0o v8.t7 (v8.t7.n : Int) v8 s.1 s.2 H n2 K
def a0q (g9H : Sl) (f0C : Int) (b0v : b9) (a5X : Int) (a3X : (List g8)) (H : Hp) (n3 : (Int × (List g8)) → Hp → Prop) (K : l7 → (List g8) → Hp → Prop) : Prop :=
 (a5X < f0C →
 (0 : Int) ≤ a5X ∧ (a5X : Int) < g9H.n ∧ ∃ b5m : b6, EltH H g9H a5X 4 (b8 b5m) ∧
 Y1 (l7.mk (Sl.mk none 0 0)) a3X b5m H (fun (g9I : l7) (c3K : (List g8)) (e0j : Hp) =>
 n3 ((IntKind.wrap .i64 (a5X + 1)), c3K) e0j)) ∧
 (¬ (a5X < f0C) →
 a0p b0v a3X H K)
def a1p (x0 : l7) (T2 : (List g8)) (x1 : b9) (H : Hp) (K : l7 → (List g8) → Hp → Prop) : Prop :=
 TL ((0, T2) : Int × (List g8)) H fun (s : Int × (List g8)) H n3 => a0q x1.j7 (x1.j7.n : Int) x1 s.1 s.2 H n3 K
theorem b2u (x0 : l7) (T2 : (List g8)) (x1 : b9) (g0 : Nat) (X0 : Sl) (a0x : Frag) (a8s : RowL 127 2 z8 X0 T2 a0x) {K : l7 → (List g8) → Hp → Prop} (I : Inv w0 ps0 H0 H [bx g0 125 [(vs X0)], a0x] w) (hR : ∀ (y0 : l7) (a4H : (List g8)) (a1S : Sl) (a1T : Frag) (H' : Hp) (w' : World) (_ : RowL 127 2 z8 a1S a4H a1T) (_ : Inv w0 ps0 H0 H' [bx g0 125 [(vs a1S)], a1T] w') (_ : K y0 a4H H'), R (Value.tuple #[]) w') (h : a1p x0 T2 x1 H K) : e0e (Value.pointer (some ⟨g0, 0, none⟩)) (Value.agg (d6 x1).toArray) w R E := by
 unfold a1p at h
 unfold e0e
 refine L9 I (cs := (d6 x1)) rfl fun g_2 w_3 I_4 k_5 => ?_
 have hj1 : ∀ (a2X : (List g8)) (a7b : Sl) (a7c : Frag) (H : Hp) (w : World) (_ : RowL 127 2 z8 a7b a2X a7c) (_ : Inv w0 ps0 H0 H [bx g_2 59 (d6 x1), bx g0 125 [(vs a7b)], a7c] w) (_ : a0p x1 a2X H K), c7v (Value.pointer (some ⟨g0, 0, none⟩)) (Value.pointer (some ⟨g_2, 0, none⟩)) w R E := by
  intro a2X a7b a7c H w c3J I h
  unfold c7v
  intro _
  unfold a0p at h
  refine a7 V6 ?_
  refine d7 (ld1 Tryz.isAgg57 (I.at1 (o := 3) (vs := [(vs x1.t7)]) (nb rfl) rfl)) ?_
  refine a7 (a6u _ _ _) ?_
  obtain ⟨e7T, d3X, i1n, c3B⟩ := h
  refine M6 (J := fun n l w => ∃ (s : Int × (List g8)) (H : Hp) (a2Y : Sl) (a2Z : Frag) , n = d3X s ∧ l = (match s with | (a5W, P7) => [(vi a5W)]) ∧ (match s with | (a5W, P7) => RowL 127 2 z8 a2Y P7 a2Z) ∧ (match s with | (a5W, P7) => Inv w0 ps0 H0 H [bx g_2 59 (d6 x1), bx g0 125 [(vs a2Y)], a2Z] w) ∧ e7T s H) ⟨_, (0, a2X), H, a7b, a7c, rfl, rfl, c3J, (((I.bring 2).bring 2).bring 2), i1n⟩ ?_
  rintro i5T τ_93 w next2 ⟨⟨a5W, P7⟩, H, a2Y, a2Z, rfl, e7U, a9H, I, i1o⟩ hn2
  dsimp only at e7U I a9H
  simp only [List.map_cons, List.map_nil, List.cons.injEq, and_true] at e7U
  have e22 := e7U
  simp only [e22]
  obtain ⟨n2, hm2, h⟩ : ∃ n2 : (Int × (List g8)) → Hp → Prop, (∀ s' H', n2 s' H' → e7T s' H' ∧ d3X s' < d3X (a5W, P7)) ∧ a0o x1.t7 (x1.t7.n : Int) x1 a5W P7 H n2 K := ⟨_, fun _ _ h => h, c3B (a5W, P7) H (fun s' H' => e7T s' H' ∧ d3X s' < d3X (a5W, P7)) i1o (fun _ _ a b => ⟨a, b⟩)⟩
  unfold d6o
  unfold a0o at h
  refine a7 (D7 _ _ _ _ _ _) ?_
  refine j8 (fun b3C => ?_) (fun b3C => ?_)
  ·replace h := h.1 b3C
   obtain ⟨d8V, d8W, c0K, d3a, h⟩ := h
   obtain ⟨i5U, i5V, c7f, d3a⟩ := d3a
   refine a7 (a0P c7f _ _ _ _ d8V d8W) ?_
   refine d7 (ldA (vs := (d6 c0K)) Tryz.isAgg59 Tryz.sizeOf59 rfl (I.atH d3a)) ?_
   refine y9 I Tryz.zeroValue59 (cs := [(vi 0), (vi 0), (nS), (nS)]) rfl fun i1p W6 i1q i5W => ?_
   refine m7 i1q Tryz.sizeOf59 (vs := (d6 c0K)) (cs' := (d6 c0K)) rfl rfl (nb rfl) rfl rfl fun c7c g9J i5X => ?_
   refine d7 (ldA Tryz.isAgg59 Tryz.sizeOf59 rfl (g9J.at1 (o := 0) (vs := (d6 c0K)) (nb rfl) rfl)) ?_
   refine d8 (cap := []) (fun args w => Tryz.call101 args w) ?_
   refine o0 (Fi := [bx g0 125 [(vs a2Y)], a2Z]) (Fr := [bx i1p 59 (d6 c0K), bx g_2 59 (d6 x1)]) ((g9J.bring 3).bring 3) (h g0 a2Y a2Z a9H) (fun d1c a6m g2a a7O b9N c6Q d7J d1e => ?_) (fun _ _ _ _ _ q => q.elim)
   obtain ⟨h6b, c7y, e7V, e7W, rfl, rfl, e7X, h⟩ := d1e
   refine a7 (L6 _ _ _ _ _ _) ?_
   exact hn2 _ _ _ (hm2 _ _ h).2 ⟨((IntKind.wrap .i64 (a5W + 1)), c7y), a6m, e7V, e7W, rfl, rfl, e7X, ((((b9N.bring 2).drop.bring 1).bring 1).bring 2), (hm2 _ _ h).1⟩
  ·replace h := h.2 b3C
   exact hR (l7.mk (Sl.mk none 0 0)) P7 a2Y a2Z H _ a9H ((I.drop.bring 1).bring 1) h
 refine A7 fun j1 hx1 => ?_
 refine a7 a1L ?_
 refine d7 (ld1 Tryz.isAgg51 (I_4.at1 (o := 2) (vs := [(vs x1.j7)]) (nb rfl) rfl)) ?_
 refine a7 (a2l _ _ _) ?_
 obtain ⟨e0k, c5W, h6c, h6d⟩ := h
 refine M6 (J := fun n l w => ∃ (s : Int × (List g8)) (H : Hp) (b1n : Sl) (b1o : Frag) , n = c5W s ∧ l = (match s with | (a5X, a3X) => [(vi a5X)]) ∧ (match s with | (a5X, a3X) => RowL 127 2 z8 b1n a3X b1o) ∧ (match s with | (a5X, a3X) => Inv w0 ps0 H0 H [bx g_2 59 (d6 x1), bx g0 125 [(vs b1n)], b1o] w) ∧ e0k s H) ⟨_, (0, T2), H, X0, a0x, rfl, rfl, a8s, (((I_4.bring 2).bring 2).bring 2), h6c⟩ ?_
 rintro i3i τ_135 w next3 ⟨⟨a5X, a3X⟩, H, b1n, b1o, rfl, c9c, c3L, I, h6e⟩ hn3
 dsimp only at c9c I c3L
 simp only [List.map_cons, List.map_nil, List.cons.injEq, and_true] at c9c
 have e11 := c9c
 simp only [e11]
 obtain ⟨n3, hm3, h⟩ : ∃ n3 : (Int × (List g8)) → Hp → Prop, (∀ s' H', n3 s' H' → e0k s' H' ∧ c5W s' < c5W (a5X, a3X)) ∧ a0q x1.j7 (x1.j7.n : Int) x1 a5X a3X H n3 K := ⟨_, fun _ _ h => h, h6d (a5X, a3X) H (fun s' H' => e0k s' H' ∧ c5W s' < c5W (a5X, a3X)) h6e (fun _ _ a b => ⟨a, b⟩)⟩
 unfold d6p
 unfold a0q at h
 refine a7 (D7 _ _ _ _ _ _) ?_
 refine j8 (fun e0l => ?_) (fun e0l => ?_)
 ·replace h := h.1 e0l
  obtain ⟨h6f, h6g, b5m, c5w, h⟩ := h
  obtain ⟨i3j, i3k, d9q, c5w⟩ := c5w
  refine a7 (M4 d9q _ _ _ _ h6f h6g) ?_
  refine d7 (ldA (vs := (b8 b5m)) Tryz.isAgg53 Tryz.sizeOf53 rfl (I.atH c5w)) ?_
  refine y9 I Tryz.zeroValue53 (cs := [(vi 0), (vi 0), (eS), (nS)]) rfl fun h6h a1f c9a h5t => ?_
  refine m7 c9a Tryz.sizeOf53 (vs := (b8 b5m)) (cs' := (b8 b5m)) rfl rfl (nb rfl) rfl rfl fun d8O c5v h5h => ?_
  refine d7 (ldA Tryz.isAgg53 Tryz.sizeOf53 rfl (c5v.at1 (o := 0) (vs := (b8 b5m)) (nb rfl) rfl)) ?_
  refine d8 (cap := []) (fun args w => Tryz.call102 args w) ?_
  refine o0 (Fi := [bx g0 125 [(vs b1n)], b1o]) (Fr := [bx h6h 53 (b8 b5m), bx g_2 59 (d6 x1)]) ((c5v.bring 3).bring 3) (h g0 b1n b1o c3L) (fun i3l e0j i3m b8z h6i i3n i3o h6j => ?_) (fun _ _ _ _ _ q => q.elim)
  obtain ⟨g9I, c3K, e3D, e3E, rfl, rfl, e3F, h⟩ := h6j
  refine a7 (L6 _ _ _ _ _ _) ?_
  exact hn3 _ _ _ (hm3 _ _ h).2 ⟨((IntKind.wrap .i64 (a5X + 1)), c3K), e0j, e3D, e3E, rfl, rfl, e3F, ((((h6i.bring 2).drop.bring 1).bring 1).bring 2), (hm3 _ _ h).1⟩
 ·replace h := h.2 e0l
  exact hx1 _ _ (hj1 a3X b1n b1o H _ c3L (((I.bring 2).bring 2).bring 2) h)
theorem b2T (x0 : l7) (T2 : (List g8)) (x1 : b9) {H : Hp} {K : l7 → (List g8) → Hp → Prop} (h : a1p x0 T2 x1 H K) : a1h x0 T2 x1 H K := by
 intro g0 X0 a0x a8s w I
 refine f5f ?_
 refine b2u x0 T2 x1 g0 X0 a0x a8s I (fun y0 a4H a1S a1T H' w' c0J I' hk => ⟨H', _, I', y0, a4H, a1S, a1T, rfl, rfl, c0J, hk⟩) h
def Y9 (b8k : Sl) (b7W : Int) (h6k : Int) (b1p : (List g8)) (H : Hp) (n1 : (Int × (List g8)) → Hp → Prop) (K : l7 → (List g8) → Hp → Prop) : Prop :=
 n1 ((IntKind.wrap .i64 (h6k + 1)), b1p) H
def Z0 (e9K : Sl) (d8f : Int) (h6l : Int) (b4t : (List g8)) (d3Y : d5) (H : Hp) (n1 : (Int × (List g8)) → Hp → Prop) (K : l7 → (List g8) → Hp → Prop) : Prop :=
 W8 (l7.mk (Sl.mk none 0 0)) b4t d3Y.A4 H (fun (g9K : l7) (d3Z : (List g8)) (f0D : Hp) =>
 W8 (l7.mk (Sl.mk none 0 0)) d3Z d3Y.z7 f0D (fun (g9L : l7) (c3M : (List g8)) (e0m : Hp) =>
 Y9 e9K d8f h6l c3M e0m n1 K))
def Z1 (h6m : Sl) (h6n : Int) (h6o : Int) (f0E : Sl) (f0F : Int) (e7Y : d5) (a5Y : Int) (a3Y : (List g8)) (H : Hp) (n1 : (Int × (List g8)) → Hp → Prop) (n6 : (Int × (List g8)) → Hp → Prop) (K : l7 → (List g8) → Hp → Prop) : Prop :=
 (a5Y < f0F →
 (0 : Int) ≤ a5Y ∧ (a5Y : Int) < f0E.n ∧ ∃ b5n : b6, EltH H f0E a5Y 4 (b8 b5n) ∧
 Y1 (l7.mk (Sl.mk none 0 0)) a3Y b5n H (fun (g9M : l7) (c3N : (List g8)) (e0n : Hp) =>
 n6 ((IntKind.wrap .i64 (a5Y + 1)), c3N) e0n)) ∧
 (¬ (a5Y < f0F) →
 Z0 h6m h6n h6o a3Y e7Y H n1 K)
def Z2 (h6p : Sl) (h6q : Int) (h6r : Int) (b1q : (List g8)) (c3O : d5) (H : Hp) (n1 : (Int × (List g8)) → Hp → Prop) (K : l7 → (List g8) → Hp → Prop) : Prop :=
 TL ((0, b1q) : Int × (List g8)) H fun (s : Int × (List g8)) H n6 => Z1 h6p h6q h6r c3O.j7 (c3O.j7.n : Int) c3O s.1 s.2 H n1 n6 K
def Z3 (h6s : Sl) (h6t : Int) (h6u : Int) (f0G : Sl) (f0H : Int) (e7Z : d5) (a5Z : Int) (a3Z : (List g8)) (H : Hp) (n1 : (Int × (List g8)) → Hp → Prop) (n7 : (Int × (List g8)) → Hp → Prop) (K : l7 → (List g8) → Hp → Prop) : Prop :=
 (a5Z < f0H →
 (0 : Int) ≤ a5Z ∧ (a5Z : Int) < f0G.n ∧ ∃ b5o : b9, EltH H f0G a5Z 4 (d6 b5o) ∧
 a1h (l7.mk (Sl.mk none 0 0)) a3Z b5o H (fun (g9N : l7) (c3P : (List g8)) (e0o : Hp) =>
 n7 ((IntKind.wrap .i64 (a5Z + 1)), c3P) e0o)) ∧
 (¬ (a5Z < f0H) →
 Z2 h6s h6t h6u a3Z e7Z H n1 K)
def N1 (h6v : Sl) (h6w : Int) (h6x : Int) (b1r : (List g8)) (c3Q : d5) (H : Hp) (n1 : (Int × (List g8)) → Hp → Prop) (K : l7 → (List g8) → Hp → Prop) : Prop :=
 TL ((0, b1r) : Int × (List g8)) H fun (s : Int × (List g8)) H n7 => Z3 h6v h6w h6x c3Q.r8 (c3Q.r8.n : Int) c3Q s.1 s.2 H n1 n7 K
def Z4 (c5X : Sl) (c5Y : Int) (Z5 : Int) (T5 : (List g8)) (H : Hp) (n1 : (Int × (List g8)) → Hp → Prop) (K : l7 → (List g8) → Hp → Prop) : Prop :=
 (Z5 < c5Y →
 (0 : Int) ≤ Z5 ∧ (Z5 : Int) < c5X.n ∧ ∃ N5 : d5, EltH H c5X Z5 6 (g7 N5) ∧
 (N5.a8 = 1 →
 (T5.length + ([(g8.mk N5.b7 1)] : List g8).length) * 25 ≤ 140737488355328 ∧
 N1 c5X c5Y Z5 (T5 ++ [(g8.mk N5.b7 1)]) N5 H n1 K) ∧
 (¬ (N5.a8 = 1) →
 (N5.a8 = 2 →
 (T5.length + ([(g8.mk N5.b7 2)] : List g8).length) * 25 ≤ 140737488355328 ∧
 N1 c5X c5Y Z5 (T5 ++ [(g8.mk N5.b7 2)]) N5 H n1 K) ∧
 (¬ (N5.a8 = 2) →
 N1 c5X c5Y Z5 T5 N5 H n1 K))) ∧
 (¬ (Z5 < c5Y) →
 K (l7.mk (Sl.mk none 0 0)) T5 H)
def a0O (x0 : l7) (T2 : (List g8)) (x1 : Sl) (H : Hp) (K : l7 → (List g8) → Hp → Prop) : Prop :=
 TL ((0, T2) : Int × (List g8)) H fun (s : Int × (List g8)) H n1 => Z4 x1 (x1.n : Int) s.1 s.2 H n1 K
theorem b2b (x0 : l7) (T2 : (List g8)) (x1 : Sl) (g0 : Nat) (X0 : Sl) (a0x : Frag) (a8s : RowL 127 2 z8 X0 T2 a0x) {K : l7 → (List g8) → Hp → Prop} (I : Inv w0 ps0 H0 H [bx g0 125 [(vs X0)], a0x] w) (hR : ∀ (y0 : l7) (a4H : (List g8)) (a1S : Sl) (a1T : Frag) (H' : Hp) (w' : World) (_ : RowL 127 2 z8 a1S a4H a1T) (_ : Inv w0 ps0 H0 H' [bx g0 125 [(vs a1S)], a1T] w') (_ : K y0 a4H H'), R (Value.tuple #[]) w') (h : a0O x0 T2 x1 H K) : F58 (Value.pointer (some ⟨g0, 0, none⟩)) (vs x1) w R E := by
 unfold a0O at h
 unfold F58
 refine a7 (a6t _ _ _) ?_
 obtain ⟨e0p, c5Z, h6y, h6z⟩ := h
 refine M6 (J := fun n l w => ∃ (s : Int × (List g8)) (H : Hp) (a7d : Sl) (b4u : Frag) , n = c5Z s ∧ l = (match s with | (Z5, T5) => [(vi Z5)]) ∧ (match s with | (Z5, T5) => RowL 127 2 z8 a7d T5 b4u) ∧ (match s with | (Z5, T5) => Inv w0 ps0 H0 H [bx g0 125 [(vs a7d)], b4u] w) ∧ e0p s H) ⟨_, (0, T2), H, X0, a0x, rfl, rfl, a8s, ((I.bring 1).bring 1), h6y⟩ ?_
 rintro i3p τ_426 w next1 ⟨⟨Z5, T5⟩, H, a7d, b4u, rfl, e0q, b4v, I, h6A⟩ hn1
 dsimp only at e0q I b4v
 simp only [List.map_cons, List.map_nil, List.cons.injEq, and_true] at e0q
 have e12 := e0q
 simp only [e12]
 obtain ⟨n1, hm1, h⟩ : ∃ n1 : (Int × (List g8)) → Hp → Prop, (∀ s' H', n1 s' H' → e0p s' H' ∧ c5Z s' < c5Z (Z5, T5)) ∧ Z4 x1 (x1.n : Int) Z5 T5 H n1 K := ⟨_, fun _ _ h => h, h6z (Z5, T5) H (fun s' H' => e0p s' H' ∧ c5Z s' < c5Z (Z5, T5)) h6A (fun _ _ a b => ⟨a, b⟩)⟩
 unfold e3y
 unfold Z4 at h
 refine a7 (D7 _ _ _ _ _ _) ?_
 refine j8 (fun e0r => ?_) (fun e0r => ?_)
 ·replace h := h.1 e0r
  have hj2 : ∀ (b1p : (List g8)) (b8A : Sl) (b8B : Frag) (H : Hp) (w : World) (_ : RowL 127 2 z8 b8A b1p b8B) (_ : Inv w0 ps0 H0 H [bx g0 125 [(vs b8A)], b8B] w) (_ : Y9 x1 (x1.n : Int) Z5 b1p H n1 K), d3J (Value.pointer (some ⟨g0, 0, none⟩)) (vs x1) (vi (x1.n : Int)) (vi Z5) w next1 R E := by
   intro b1p b8A b8B H w e8a I h
   unfold d3J
   intro _
   unfold Y9 at h
   refine a7 (L6 _ _ _ _ _ _) ?_
   exact hn1 _ _ _ (hm1 _ _ h).2 ⟨((IntKind.wrap .i64 (Z5 + 1)), b1p), H, b8A, b8B, rfl, rfl, e8a, ((I.bring 1).bring 1), (hm1 _ _ h).1⟩
  refine A7 fun j2 hx2 => ?_
  obtain ⟨h6B, h6C, N5, e0s, h⟩ := h
  obtain ⟨i3q, i3r, h6D, e0s⟩ := e0s
  refine a7 (b3q h6D _ _ _ _ h6B h6C) ?_
  refine d7 (ldA (vs := (g7 N5)) Tryz.isAgg73 Tryz.sizeOf73 rfl (I.atH e0s)) ?_
  refine y9 I Tryz.zeroValue73 (cs := [(vi 0), (eS), (nS), (nS), (nS), (nS)]) rfl fun a9e i3s h6E i3t => ?_
  refine m7 h6E Tryz.sizeOf73 (vs := (g7 N5)) (cs' := (g7 N5)) rfl rfl (nb rfl) rfl rfl fun i3u c9g i3v => ?_
  have hj3 : ∀ (b1r : (List g8)) (b8C : Sl) (b8D : Frag) (H : Hp) (w : World) (_ : RowL 127 2 z8 b8C b1r b8D) (_ : Inv w0 ps0 H0 H [bx g0 125 [(vs b8C)], bx a9e 73 (g7 N5), b8D] w) (_ : N1 x1 (x1.n : Int) Z5 b1r N5 H n1 K), d3R (Value.pointer (some ⟨g0, 0, none⟩)) (Value.pointer (some ⟨a9e, 0, none⟩)) (vs x1) (vi (x1.n : Int)) (vi Z5) w j2 R E := by
   intro b1r b8C b8D H w e8b I h
   unfold d3R
   intro _
   unfold N1 at h
   have hj4 : ∀ (b1q : (List g8)) (b8E : Sl) (b8F : Frag) (H : Hp) (w : World) (_ : RowL 127 2 z8 b8E b1q b8F) (_ : Inv w0 ps0 H0 H [bx g0 125 [(vs b8E)], bx a9e 73 (g7 N5), b8F] w) (_ : Z2 x1 (x1.n : Int) Z5 b1q N5 H n1 K), d3L (Value.pointer (some ⟨g0, 0, none⟩)) (Value.pointer (some ⟨a9e, 0, none⟩)) (vs x1) (vi (x1.n : Int)) (vi Z5) w j2 R E := by
    intro b1q b8E b8F H w e8c I h
    unfold d3L
    intro _
    unfold Z2 at h
    have hj5 : ∀ (b4t : (List g8)) (b4w : Sl) (b4x : Frag) (H : Hp) (w : World) (_ : RowL 127 2 z8 b4w b4t b4x) (_ : Inv w0 ps0 H0 H [bx g0 125 [(vs b4w)], bx a9e 73 (g7 N5), b4x] w) (_ : Z0 x1 (x1.n : Int) Z5 b4t N5 H n1 K), d3K (Value.pointer (some ⟨g0, 0, none⟩)) (Value.pointer (some ⟨a9e, 0, none⟩)) (vs x1) (vi (x1.n : Int)) (vi Z5) w j2 R E := by
     intro b4t b4w b4x H w e8d I h
     unfold d3K
     intro _
     unfold Z0 at h
     refine a7 a3f ?_
     refine d7 (ld1 Tryz.isAgg23 ((I.bring 1).at1 (o := 4) (vs := [(vs N5.A4)]) (nb rfl) rfl)) ?_
     refine d8 (cap := []) (fun args w => Tryz.call58 args w) ?_
     refine o0 (Fi := [bx g0 125 [(vs b4w)], b4x]) (Fr := [bx a9e 73 (g7 N5)]) ((I.bring 2).bring 1) (h g0 b4w b4x e8d) (fun i3w f0D i3x i3y f0I i3z i3A h6F => ?_) (fun _ _ _ _ _ q => q.elim)
     obtain ⟨g9K, d3Z, c8j, c8k, rfl, rfl, e3G, h⟩ := h6F
     refine a7 a3g ?_
     refine d7 (ld1 Tryz.isAgg23 ((f0I.bring 2).at1 (o := 5) (vs := [(vs N5.z7)]) (nb rfl) rfl)) ?_
     refine d8 (cap := []) (fun args w => Tryz.call58 args w) ?_
     refine o0 (Fi := [bx g0 125 [(vs c8j)], c8k]) (Fr := [bx a9e 73 (g7 N5)]) ((f0I.bring 1).bring 1) (h g0 c8j c8k e3G) (fun i3B e0m i3C i3D h6G i3E i3F h6H => ?_) (fun _ _ _ _ _ q => q.elim)
     obtain ⟨g9L, c3M, e3H, e3I, rfl, rfl, e3J, h⟩ := h6H
     exact hx2 _ _ (hj2 c3M e3H e3I e0m _ e3J (((h6G.bring 2).drop.bring 1).bring 1) h)
    refine A7 fun j5 hx5 => ?_
    refine a7 a4g ?_
    refine d7 (ld1 Tryz.isAgg51 ((I.bring 1).at1 (o := 2) (vs := [(vs N5.j7)]) (nb rfl) rfl)) ?_
    refine a7 (a2l _ _ _) ?_
    obtain ⟨e0t, c6a, h6I, h6J⟩ := h
    refine M6 (J := fun n l w => ∃ (s : Int × (List g8)) (H : Hp) (b1s : Sl) (b1t : Frag) , n = c6a s ∧ l = (match s with | (a5Y, a3Y) => [(vi a5Y)]) ∧ (match s with | (a5Y, a3Y) => RowL 127 2 z8 b1s a3Y b1t) ∧ (match s with | (a5Y, a3Y) => Inv w0 ps0 H0 H [bx g0 125 [(vs b1s)], bx a9e 73 (g7 N5), b1t] w) ∧ e0t s H) ⟨_, (0, b1q), H, b8E, b8F, rfl, rfl, e8c, (((I.bring 2).bring 2).bring 2), h6I⟩ ?_
    rintro i3G τ_354 w next6 ⟨⟨a5Y, a3Y⟩, H, b1s, b1t, rfl, e0u, c3R, I, h6K⟩ hn6
    dsimp only at e0u I c3R
    simp only [List.map_cons, List.map_nil, List.cons.injEq, and_true] at e0u
    have e60 := e0u
    simp only [e60]
    obtain ⟨n6, hm6, h⟩ : ∃ n6 : (Int × (List g8)) → Hp → Prop, (∀ s' H', n6 s' H' → e0t s' H' ∧ c6a s' < c6a (a5Y, a3Y)) ∧ Z1 x1 (x1.n : Int) Z5 N5.j7 (N5.j7.n : Int) N5 a5Y a3Y H n1 n6 K := ⟨_, fun _ _ h => h, h6J (a5Y, a3Y) H (fun s' H' => e0t s' H' ∧ c6a s' < c6a (a5Y, a3Y)) h6K (fun _ _ a b => ⟨a, b⟩)⟩
    unfold e3u
    unfold Z1 at h
    refine a7 (D7 _ _ _ _ _ _) ?_
    refine j8 (fun e0v => ?_) (fun e0v => ?_)
    ·replace h := h.1 e0v
     obtain ⟨h6L, h6M, b5n, e0w, h⟩ := h
     obtain ⟨i3H, i3I, h6N, e0w⟩ := e0w
     refine a7 (M4 h6N _ _ _ _ h6L h6M) ?_
     refine d7 (ldA (vs := (b8 b5n)) Tryz.isAgg53 Tryz.sizeOf53 rfl (I.atH e0w)) ?_
     refine y9 I Tryz.zeroValue53 (cs := [(vi 0), (vi 0), (eS), (nS)]) rfl fun h6O i3J h6P i3K => ?_
     refine m7 h6P Tryz.sizeOf53 (vs := (b8 b5n)) (cs' := (b8 b5n)) rfl rfl (nb rfl) rfl rfl fun i3L f0J i3M => ?_
     refine d7 (ldA Tryz.isAgg53 Tryz.sizeOf53 rfl (f0J.at1 (o := 0) (vs := (b8 b5n)) (nb rfl) rfl)) ?_
     refine d8 (cap := []) (fun args w => Tryz.call102 args w) ?_
     refine o0 (Fi := [bx g0 125 [(vs b1s)], b1t]) (Fr := [bx h6O 53 (b8 b5n), bx a9e 73 (g7 N5)]) ((f0J.bring 3).bring 2) (h g0 b1s b1t c3R) (fun i3N e0n i3O i3P h6Q i3Q i3R h6R => ?_) (fun _ _ _ _ _ q => q.elim)
     obtain ⟨g9M, c3N, e3K, e3L, rfl, rfl, e3M, h⟩ := h6R
     refine a7 (L6 _ _ _ _ _ _) ?_
     exact hn6 _ _ _ (hm6 _ _ h).2 ⟨((IntKind.wrap .i64 (a5Y + 1)), c3N), e0n, e3K, e3L, rfl, rfl, e3M, ((((h6Q.bring 2).drop.bring 1).bring 2).bring 2), (hm6 _ _ h).1⟩
    ·replace h := h.2 e0v
     exact hx5 _ _ (hj5 a3Y b1s b1t H _ c3R (((I.bring 2).bring 2).bring 2) h)
   refine A7 fun j4 hx4 => ?_
   refine a7 a3e ?_
   refine d7 (ld1 Tryz.isAgg57 ((I.bring 1).at1 (o := 3) (vs := [(vs N5.r8)]) (nb rfl) rfl)) ?_
   refine a7 (a6u _ _ _) ?_
   obtain ⟨e0x, c6b, h6S, h6T⟩ := h
   refine M6 (J := fun n l w => ∃ (s : Int × (List g8)) (H : Hp) (b1u : Sl) (b1v : Frag) , n = c6b s ∧ l = (match s with | (a5Z, a3Z) => [(vi a5Z)]) ∧ (match s with | (a5Z, a3Z) => RowL 127 2 z8 b1u a3Z b1v) ∧ (match s with | (a5Z, a3Z) => Inv w0 ps0 H0 H [bx g0 125 [(vs b1u)], bx a9e 73 (g7 N5), b1v] w) ∧ e0x s H) ⟨_, (0, b1r), H, b8C, b8D, rfl, rfl, e8b, (((I.bring 2).bring 2).bring 2), h6S⟩ ?_
   rintro i3S τ_396 w next7 ⟨⟨a5Z, a3Z⟩, H, b1u, b1v, rfl, e0y, c3S, I, h6U⟩ hn7
   dsimp only at e0y I c3S
   simp only [List.map_cons, List.map_nil, List.cons.injEq, and_true] at e0y
   have e49 := e0y
   simp only [e49]
   obtain ⟨n7, hm7, h⟩ : ∃ n7 : (Int × (List g8)) → Hp → Prop, (∀ s' H', n7 s' H' → e0x s' H' ∧ c6b s' < c6b (a5Z, a3Z)) ∧ Z3 x1 (x1.n : Int) Z5 N5.r8 (N5.r8.n : Int) N5 a5Z a3Z H n1 n7 K := ⟨_, fun _ _ h => h, h6T (a5Z, a3Z) H (fun s' H' => e0x s' H' ∧ c6b s' < c6b (a5Z, a3Z)) h6U (fun _ _ a b => ⟨a, b⟩)⟩
   unfold e3w
   unfold Z3 at h
   refine a7 (D7 _ _ _ _ _ _) ?_
   refine j8 (fun e0z => ?_) (fun e0z => ?_)
   ·replace h := h.1 e0z
    obtain ⟨h6V, h6W, b5o, e0A, h⟩ := h
    obtain ⟨i3T, i3U, h6X, e0A⟩ := e0A
    refine a7 (a0P h6X _ _ _ _ h6V h6W) ?_
    refine d7 (ldA (vs := (d6 b5o)) Tryz.isAgg59 Tryz.sizeOf59 rfl (I.atH e0A)) ?_
    refine y9 I Tryz.zeroValue59 (cs := [(vi 0), (vi 0), (nS), (nS)]) rfl fun h6Y i3V h6Z i3W => ?_
    refine m7 h6Z Tryz.sizeOf59 (vs := (d6 b5o)) (cs' := (d6 b5o)) rfl rfl (nb rfl) rfl rfl fun i3X f0K i3Y => ?_
    refine d7 (ldA Tryz.isAgg59 Tryz.sizeOf59 rfl (f0K.at1 (o := 0) (vs := (d6 b5o)) (nb rfl) rfl)) ?_
    refine d8 (cap := []) (fun args w => Tryz.call101 args w) ?_
    refine o0 (Fi := [bx g0 125 [(vs b1u)], b1v]) (Fr := [bx h6Y 59 (d6 b5o), bx a9e 73 (g7 N5)]) ((f0K.bring 3).bring 2) (h g0 b1u b1v c3S) (fun i3Z e0o i4a i4b h7a i4c i4d h7b => ?_) (fun _ _ _ _ _ q => q.elim)
    obtain ⟨g9N, c3P, e3N, e3O, rfl, rfl, e3P, h⟩ := h7b
    refine a7 (L6 _ _ _ _ _ _) ?_
    exact hn7 _ _ _ (hm7 _ _ h).2 ⟨((IntKind.wrap .i64 (a5Z + 1)), c3P), e0o, e3N, e3O, rfl, rfl, e3P, ((((h7a.bring 2).drop.bring 1).bring 2).bring 2), (hm7 _ _ h).1⟩
   ·replace h := h.2 e0z
    exact hx4 _ _ (hj4 a3Z b1u b1v H _ c3S (((I.bring 2).bring 2).bring 2) h)
  refine A7 fun j3 hx3 => ?_
  refine a7 a3d ?_
  refine d7 (ld1 Tryz.isAgg3 (c9g.at1 (o := 0) (vs := [(vi N5.a8)]) (nb rfl) rfl)) ?_
  refine a7 (o2 _ _ _ _ _ _) ?_
  refine j8 (fun e0B => ?_) (fun e0B => ?_)
  ·replace h := h.1 e0B
   refine X7 c9g fun i4e c9h => ?_
   refine m8 (A0 _) ?_
   refine m8 a3i ?_
   refine m8 a5d ?_
   refine y7 (ld1 Tryz.isAgg123 ((c9h.bring 1).at1 (o := 0) (vs := [(vs a7d)]) (nb rfl) rfl)) ?_
   refine y7 (ld1 Tryz.isAgg9 (c9h.at1 (o := 1) (vs := [(Value.string N5.b7)]) (nb rfl) rfl)) ?_
   refine m8 (a8f _ _) ?_
   refine a1s (e := 127) (c := z8) (xs := [(g8.mk N5.b7 1)]) c9h (b7q _ _) rfl rfl a7f a7g (nb rfl) fun i4f i4g i4h h7c f0L h7d => ?_
   refine ⟨(h7d _ (c9h.bring 1).lt1), ?_⟩
   obtain ⟨h7e, h⟩ := h
   refine c1e (s := a7d) (xs := T5) (f0L.bring 3) b4v (h7c.srcO ((f0L.bring 3).bring 1)) h7e fun e0C h7f i4i h7g h7h i4j => ?_
   refine m8 (A0 _) ?_
   refine m8 a3i ?_
   refine m7 ((h7h.bring 1).drop.bring 2) Tryz.sizeOf123 (vs := [(vs e0C)]) (cs' := [(vs e0C)]) rfl rfl (nb rfl) rfl rfl fun i4k h7i i4l => ?_
   exact hx3 _ _ (hj3 (T5 ++ [(g8.mk N5.b7 1)]) e0C h7f H _ h7g (((h7i.bring 1).bring 2).bring 2) h)
  ·replace h := h.2 e0B
   refine a7 (o2 _ _ _ _ _ _) ?_
   refine j8 (fun e0D => ?_) (fun e0D => ?_)
   ·replace h := h.1 e0D
    refine X7 c9g fun i4m c9i => ?_
    refine m8 (A0 _) ?_
    refine m8 a3i ?_
    refine m8 a5d ?_
    refine y7 (ld1 Tryz.isAgg123 ((c9i.bring 1).at1 (o := 0) (vs := [(vs a7d)]) (nb rfl) rfl)) ?_
    refine y7 (ld1 Tryz.isAgg9 (c9i.at1 (o := 1) (vs := [(Value.string N5.b7)]) (nb rfl) rfl)) ?_
    refine m8 (a8f _ _) ?_
    refine a1s (e := 127) (c := z8) (xs := [(g8.mk N5.b7 2)]) c9i (b7q _ _) rfl rfl a7f a7g (nb rfl) fun i4n i4o i4p h7j f0M h7k => ?_
    refine ⟨(h7k _ (c9i.bring 1).lt1), ?_⟩
    obtain ⟨h7l, h⟩ := h
    refine c1e (s := a7d) (xs := T5) (f0M.bring 3) b4v (h7j.srcO ((f0M.bring 3).bring 1)) h7l fun e0E h7m i4q h7n h7o i4r => ?_
    refine m8 (A0 _) ?_
    refine m8 a3i ?_
    refine m7 ((h7o.bring 1).drop.bring 2) Tryz.sizeOf123 (vs := [(vs e0E)]) (cs' := [(vs e0E)]) rfl rfl (nb rfl) rfl rfl fun i4s h7p i4t => ?_
    exact hx3 _ _ (hj3 (T5 ++ [(g8.mk N5.b7 2)]) e0E h7m H _ h7n (((h7p.bring 1).bring 2).bring 2) h)
   ·replace h := h.2 e0D
    exact hx3 _ _ (hj3 T5 a7d b4u H _ b4v (((c9g.bring 2).bring 1).bring 2) h)
 ·replace h := h.2 e0r
  exact hR (l7.mk (Sl.mk none 0 0)) T5 a7d b4u H _ b4v ((I.bring 1).bring 1) h
theorem b2v (x0 : l7) (T2 : (List g8)) (x1 : Sl) {H : Hp} {K : l7 → (List g8) → Hp → Prop} (h : a0O x0 T2 x1 H K) : W8 x0 T2 x1 H K := by
 intro g0 X0 a0x a8s w I
 refine g9e ?_
 refine b2b x0 T2 x1 g0 X0 a0x a8s I (fun y0 a4H a1S a1T H' w' c0J I' hk => ⟨H', _, I', y0, a4H, a1S, a1T, rfl, rfl, c0J, hk⟩) h
def a0H (b8c : Int) (c7z : ByteArray) (h7q : (List g8)) (v8 : r7) (H : Hp) (K : ByteArray → Int → Hp → Prop) : Prop :=
 K c7z b8c H
def a3A (a7X : (Option Nat)) (c6c : (List g8)) (c5V : Int) (c0H : r7) (a7s : Int) (U1 : ByteArray) (W3 : Int) (H : Hp) (n2 : (Int × ByteArray × Int) → Hp → Prop) (K : ByteArray → Int → Hp → Prop) : Prop :=
 (W3 < c5V →
 (0 : Int) ≤ W3 ∧ ∃ a4a : g8, (c6c)[(W3 : Int).toNat]? = some a4a ∧
 ∃ b6Y : List (ByteArray × Int), MapH H (fun s : ByteArray => Value.string s) (fun n : Int => Value.int .i64 n) a7X b6Y ∧
 (((lk a4a.fname b6Y).getD 0) = a4a.fas →
 n2 (a7s, U1, (IntKind.wrap .i64 (W3 + 1))) H) ∧
 (¬ (((lk a4a.fname b6Y).getD 0) = a4a.fas) →
 (((lk a4a.fname b6Y).getD 0) = 0 →
 a0H 63 a4a.fname c6c c0H H K) ∧
 (¬ (((lk a4a.fname b6Y).getD 0) = 0) →
 a0H 64 a4a.fname c6c c0H H K))) ∧
 (¬ (W3 < c5V) →
 a0H a7s U1 c6c c0H H K)
def a4R (x0 : r7) (H : Hp) (K : ByteArray → Int → Hp → Prop) : Prop :=
 a4L x0 H (fun (X1 : Int) (H_6 : Hp) =>
 (¬ (X1 = 0) →
 K ⟨#[]⟩ X1 H_6) ∧
 (X1 = 0 →
 a8L x0.a0C H_6 (fun (a9f : (Option Nat)) (b2U : ByteArray) (b5p : Int) (c3T : Hp) =>
 (¬ (b5p = 0) →
 K b2U b5p c3T) ∧
 (b5p = 0 →
 W8 (l7.mk (Sl.mk none 0 0)) [] x0.a5H c3T (fun (h7r : l7) (b3k : (List g8)) (e8e : Hp) =>
 TL ((b5p, ⟨#[]⟩, 0) : Int × ByteArray × Int) e8e fun (s : Int × ByteArray × Int) H n2 => a3A a9f b3k (b3k.length : Int) x0 s.1 s.2.1 s.2.2 H n2 K)))))
theorem b8G (x0 : r7) {K : ByteArray → Int → Hp → Prop} (I : Inv w0 ps0 H0 H [] w) (hR : ∀ (r0 : ByteArray) (r1 : Int) (H' : Hp) (w' : World) (_ : Inv w0 ps0 H0 H' [] w') (_ : K r0 r1 H'), R (Value.tuple #[(Value.string r0), (vi r1)]) w') (h : a4R x0 H K) : F33 (Value.agg (p8 x0).toArray) w R E := by
 unfold a4R at h
 unfold F33
 refine L9 I (cs := (p8 x0)) rfl fun g_2 w_3 I_4 k_5 => ?_
 refine d7 (ldA Tryz.isAgg25 Tryz.sizeOf25 rfl (I_4.at1 (o := 0) (vs := (p8 x0)) (nb rfl) rfl)) ?_
 refine d8 (cap := []) (fun args w => Tryz.call24 args w) ?_
 refine o0 (Fi := []) (Fr := [bx g_2 25 (p8 x0)]) I_4 (h) (fun c6R H_6 c6S w_7 I_8 c6T k_9 b0N => ?_) (fun _ _ _ _ _ q => q.elim)
 obtain ⟨X1, rfl, rfl, h⟩ := b0N
 refine a7 (T8 _ _ _ _ _ _) ?_
 refine a2L (fun b3A => ?_) (fun b3A => ?_)
 ·replace h := h.1 b3A
  exact hR ⟨#[]⟩ X1 H_6 _ I_8.drop h
 ·replace h := h.2 b3A
  refine a7 a9U ?_
  refine d7 (ld1 Tryz.isAgg22 (I_8.at1 (o := 0) (vs := [(vs x0.a0C)]) (nb rfl) rfl)) ?_
  refine d8 (cap := []) (fun args w => Tryz.call57 args w) ?_
  refine o0 (Fi := []) (Fr := [bx g_2 25 (p8 x0)]) I_8 (h) (fun i1r c3T i1s s6 c0a i1t g2i e8f => ?_) (fun _ _ _ _ _ q => q.elim)
  obtain ⟨a9f, b2U, b5p, rfl, rfl, h⟩ := e8f
  refine a7 (m9 _ _ _ rfl) ?_
  refine a7 (m9 _ _ (Value.string b2U) rfl) ?_
  refine a7 (m9 _ _ (vi b5p) rfl) ?_
  refine a7 (T8 _ _ _ _ _ _) ?_
  refine a2L (fun c2W => ?_) (fun c2W => ?_)
  ·replace h := h.1 c2W
   exact hR b2U b5p c3T _ c0a.drop h
  ·replace h := h.2 c2W
   refine a7 (d7a ) ?_
   refine L9 c0a (cs := [(nS)]) rfl fun c0L A6 b1d d1E => ?_
   refine a7 a8c ?_
   refine d7 (ld1 Tryz.isAgg23 ((b1d.bring 1).at1 (o := 1) (vs := [(vs x0.a5H)]) (nb rfl) rfl)) ?_
   refine d8 (cap := []) (fun args w => Tryz.call58 args w) ?_
   refine o0 (Fi := [bx c0L 125 [(Value.slice (Sl.mk none 0 0).a (Sl.mk none 0 0).n (Sl.mk none 0 0).c)], []]) (Fr := [bx g_2 25 (p8 x0)]) (b1d.nil.bring 1) (h c0L (Sl.mk none 0 0) ([]) (RowL.nil (e := 127) a7f a7g)) (fun i5Y e8e i5Z a7u c0A g2q e7a i1u => ?_) (fun _ _ _ _ _ q => q.elim)
   obtain ⟨h7r, b3k, c3U, d4a, rfl, rfl, b8H, h⟩ := i1u
   have hj1 : ∀ (b8c : Int) (c7z : ByteArray) (H : Hp) (w : World) (_ : Inv w0 ps0 H0 H [bx c0L 125 [(vs c3U)], bx g_2 25 (p8 x0), d4a] w) (_ : a0H b8c c7z b3k x0 H K), d3D (vi b8c) (Value.string c7z) w R E := by
    intro b8c c7z H w I h
    unfold d3D
    intro _
    unfold a0H at h
    exact hR c7z b8c H _ I.drop.drop.drop h
   refine A7 fun j1 hx1 => ?_
   refine a7 (A0 _) ?_
   refine a7 a3i ?_
   refine d7 (ld1 Tryz.isAgg123 (c0A.at1 (o := 0) (vs := [(vs c3U)]) (nb rfl) rfl)) ?_
   refine a7 (c4g Tryz.underlying123 b8H) ?_
   obtain ⟨e8g, d4b, i1v, i1w⟩ := h
   refine M6 (J := fun n l w => ∃ (s : Int × ByteArray × Int) (H : Hp) , n = d4b s ∧ l = (match s with | (a7s, U1, W3) => [(vi a7s), (Value.string U1), (vi W3)]) ∧ (match s with | (a7s, U1, W3) => Inv w0 ps0 H0 H [bx c0L 125 [(vs c3U)], bx g_2 25 (p8 x0), d4a] w) ∧ e8g s H) ⟨_, (b5p, ⟨#[]⟩, 0), e8e, rfl, rfl, (((c0A.bring 1).bring 2).bring 2), i1v⟩ ?_
   rintro i6a τ_64 w next2 ⟨⟨a7s, U1, W3⟩, H, rfl, c7l, I, i1x⟩ hn2
   dsimp only at c7l I
   simp only [List.map_cons, List.map_nil, List.cons.injEq, and_true] at c7l
   obtain ⟨e7, e9, e39⟩ := c7l
   simp only [e7, e9, e39]
   obtain ⟨n2, hm2, h⟩ : ∃ n2 : (Int × ByteArray × Int) → Hp → Prop, (∀ s' H', n2 s' H' → e8g s' H' ∧ d4b s' < d4b (a7s, U1, W3)) ∧ a3A a9f b3k (b3k.length : Int) x0 a7s U1 W3 H n2 K := ⟨_, fun _ _ h => h, i1w (a7s, U1, W3) H (fun s' H' => e8g s' H' ∧ d4b s' < d4b (a7s, U1, W3)) i1x (fun _ _ a b => ⟨a, b⟩)⟩
   unfold e3p
   unfold a3A at h
   refine a7 (D7 _ _ _ _ _ _) ?_
   refine j8 (fun e8h => ?_) (fun e8h => ?_)
   ·replace h := h.1 e8h
    obtain ⟨b8l, a4a, a1u, h⟩ := h
    obtain ⟨i1y, i6b, a3F, e0F⟩ := b8H.addr a1u
    refine a7 (e1s a3F _ _ _ _ b8l (b8H.lt b8l a1u)) ?_
    refine d7 (ldA (vs := (z8 a4a)) Tryz.isAgg127 Tryz.sizeOf127 rfl (b8H.atW (I.bring 2) a3F a1u)) ?_
    refine y9 I Tryz.zeroValue127 (cs := [(eS), (vi 0)]) rfl fun i1z N8 d1w g2f => ?_
    refine m7 d1w Tryz.sizeOf127 (vs := (z8 a4a)) (cs' := (z8 a4a)) rfl rfl (nb rfl) rfl rfl fun b5T b5L i6c => ?_
    refine a7 b5s ?_
    refine d7 (ld1 Tryz.isAgg9 (b5L.at1 (o := 0) (vs := [(Value.string a4a.fname)]) (nb rfl) rfl)) ?_
    obtain ⟨b6Y, h7s, h⟩ := h
    refine c9G (keyS Tryz.underlying9) Tryz.underlying119 (z := 0) Tryz.zeroValue3 b5L h7s a4a.fname ?_
    refine a7 d5j ?_
    refine d7 (ld1 Tryz.isAgg3 (b5L.at1 (o := 1) (vs := [(vi a4a.fas)]) (nb rfl) rfl)) ?_
    refine a7 (o2 _ _ _ _ _ _) ?_
    refine j8 (fun e8i => ?_) (fun e8i => ?_)
    ·replace h := h.1 e8i
     refine a7 (L6 _ _ _ _ _ _) ?_
     exact hn2 _ _ _ (hm2 _ _ h).2 ⟨(a7s, U1, (IntKind.wrap .i64 (W3 + 1))), H, rfl, rfl, (((b5L.drop.bring 2).bring 2).bring 2), (hm2 _ _ h).1⟩
    ·replace h := h.2 e8i
     refine a7 (o2 _ _ _ _ _ _) ?_
     refine j8 (fun e8j => ?_) (fun e8j => ?_)
     ·replace h := h.1 e8j
      refine a7 b5s ?_
      refine d7 (ld1 Tryz.isAgg9 (b5L.at1 (o := 0) (vs := [(Value.string a4a.fname)]) (nb rfl) rfl)) ?_
      exact hx1 _ _ (hj1 63 a4a.fname H _ (((b5L.drop.bring 2).bring 2).bring 2) h)
     ·replace h := h.2 e8j
      refine a7 b5s ?_
      refine d7 (ld1 Tryz.isAgg9 (b5L.at1 (o := 0) (vs := [(Value.string a4a.fname)]) (nb rfl) rfl)) ?_
      exact hx1 _ _ (hj1 64 a4a.fname H _ (((b5L.drop.bring 2).bring 2).bring 2) h)
   ·replace h := h.2 e8h
    exact hx1 _ _ (hj1 a7s U1 H _ (((I.bring 2).bring 2).bring 2) h)
theorem b8X (x0 : r7) {H : Hp} {K : ByteArray → Int → Hp → Prop} (h : a4R x0 H K) : b0F x0 H K := by
 intro w I
 refine g8w ?_
 refine b8G x0 I (fun r0 r1 H' w' I' hk => ⟨H', _, I', r0, r1, rfl, rfl, hk⟩) h
def a5p (x0 : r6) (H : Hp) (K : Int → Hp → Prop) : Prop :=
 (0 < x0.Q6 →
 K 2 H) ∧
 (¬ (0 < x0.Q6) →
 K 1 H)
theorem b8Y (x0 : r6) {K : Int → Hp → Prop} (I : Inv w0 ps0 H0 H [] w) (hR : ∀ (r0 : Int) (H' : Hp) (w' : World) (_ : Inv w0 ps0 H0 H' [] w') (_ : K r0 H'), R (vi r0) w') (h : a5p x0 H K) : e0d (Value.agg (r9 x0).toArray) w R E := by
 unfold a5p at h
 unfold e0d
 refine L9 I (cs := (r9 x0)) rfl fun g_2 w_3 I_4 k_5 => ?_
 refine a7 a6z ?_
 refine d7 (ld1 Tryz.isAgg3 (I_4.at1 (o := 1) (vs := [(vi x0.Q6)]) (nb rfl) rfl)) ?_
 refine a7 (a3B _ _ _ _ _ _) ?_
 refine j8 (fun c_6 => ?_) (fun c_6 => ?_)
 ·replace h := h.1 c_6
  exact hR 2 H _ I_4.drop h
 ·replace h := h.2 c_6
  exact hR 1 H _ I_4.drop h
theorem c0M (x0 : r6) {H : Hp} {K : Int → Hp → Prop} (h : a5p x0 H K) : b1Q x0 H K := by
 intro w I
 refine f5d ?_
 refine b8Y x0 I (fun r0 H' w' I' hk => ⟨H', _, I', r0, rfl, rfl, hk⟩) h
end Go.Proofs.YtnhkdkcgdcgmdaaGreatDoor
