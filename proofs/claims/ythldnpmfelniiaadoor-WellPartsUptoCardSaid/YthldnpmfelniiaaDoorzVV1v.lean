/- Typed formulas of the program's functions that few laws need; printed by lift.py off the code. -/
import Derived.Test.YthldnpmfelniiaaDoorzVV1
import Derived.Test.YthldnpmfelniiaaDoorzVG1v
namespace Go.Proofs.YthldnpmfelniiaaDoor
open Go.RowKit
set_option maxRecDepth 100000
set_option maxHeartbeats 2000000
def J7 (c4q : Sl) (b0O : Int) (_cr_1l2 : q7) (E5 : Int) (A6 : (List b4)) (H : Hp) (n2 : (Int × (List b4)) → Hp → Prop) (K : b6 → (List b4) → Hp → Prop) : Prop :=
 (E5 < b0O →
 (0 : Int) ≤ E5 ∧ (E5 : Int) < c4q.n ∧ ∃ a7V : q7, EltH H c4q E5 4 (d4 a7V) ∧
 G5 (b6.mk (Sl.mk none 0 0)) A6 a7V H (fun (_y0_81 : b6) (b2c : (List b4)) (c3j : Hp) =>
 n2 ((IntKind.wrap .i64 (E5 + 1)), b2c) c3j)) ∧
 (¬ (E5 < b0O) →
 K (b6.mk (Sl.mk none 0 0)) A6 H)
def y7 (Q2 : (List b4)) (cr_1j1 : q7) (H : Hp) (K : b6 → (List b4) → Hp → Prop) : Prop :=
 TL ((0, Q2) : Int × (List b4)) H fun (s : Int × (List b4)) H n2 => J7 cr_1j1.y8 (cr_1j1.y8.n : Int) cr_1j1 s.1 s.2 H n2 K
def M3 (_x0 : b6) (C4 : (List b4)) (x1 : q7) (H : Hp) (K : b6 → (List b4) → Hp → Prop) : Prop :=
 (x1.d5 = 2 →
 (C4.length + ([(b4.mk x1.c6 1)] : List b4).length) * 25 ≤ 140737488355328 ∧
 y7 (C4 ++ [(b4.mk x1.c6 1)]) x1 H K) ∧
 (¬ (x1.d5 = 2) →
 (x1.d5 = 4 →
 (C4.length + ([(b4.mk x1.c6 2)] : List b4).length) * 25 ≤ 140737488355328 ∧
 y7 (C4 ++ [(b4.mk x1.c6 2)]) x1 H K) ∧
 (¬ (x1.d5 = 4) →
 y7 C4 x1 H K))
theorem a3A (x0 : b6) (C4 : (List b4)) (x1 : q7) (g0 : Nat) (E9 : Sl) (K5 : Frag) (a1f : RowL 128 2 i5 E9 C4 K5) {w0 w : World} {ps0 : Nat → Prop} {H0 H : Hp} {K : b6 → (List b4) → Hp → Prop} {R : Value → World → Prop} {E : Pan} (I : Inv w0 ps0 H0 H [bx g0 126 [(vs E9)], K5] w) (hR : ∀ (y0 : b6) (T8 : (List b4)) (M8 : Sl) (M9 : Frag) (H' : Hp) (w' : World) (_ : RowL 128 2 i5 M8 T8 M9) (_ : Inv w0 ps0 H0 H' [bx g0 126 [(vs M8)], M9] w') (_ : K y0 T8 H'), R (Value.tuple #[]) w') (h : M3 x0 C4 x1 H K) : b7O (Value.pointer (some ⟨g0, 0, none⟩)) (Value.agg (d4 x1).toArray) w R E := by
 unfold M3 at h
 unfold b7O
 refine J2 I (cs := (d4 x1)) rfl fun g_2 w_3 I_4 k_5 => ?_
 have hj1 : ∀ (Q2 : (List b4)) (a0d : Sl) (a0e : Frag) (H : Hp) (w : World) (_ : RowL 128 2 i5 a0d Q2 a0e) (_ : Inv w0 ps0 H0 H [bx g0 126 [(vs a0d)], bx g_2 30 (d4 x1), a0e] w) (_ : y7 Q2 x1 H K), b2a (Value.pointer (some ⟨g0, 0, none⟩)) (Value.pointer (some ⟨g_2, 0, none⟩)) w R E := by
  intro Q2 a0d a0e H w a9H I h
  unfold b2a
  intro _
  unfold y7 at h
  refine a6 a5Y ?_
  refine b9 (ld1 Tryd.isAgg28 ((I.bring 1).at1 (o := 3) (vs := [(vs x1.y8)]) (nb rfl) rfl)) ?_
  refine a6 (a0y _ _ _) ?_
  obtain ⟨c3k, b5d, e1a, e1b⟩ := h
  refine F7 (J := fun n l w => ∃ (s : Int × (List b4)) (H : Hp) (Q3 : Sl) (Q4 : Frag) , n = b5d s ∧ l = (match s with | (E5, A6) => [(vi E5)]) ∧ (match s with | (E5, A6) => RowL 128 2 i5 Q3 A6 Q4) ∧ (match s with | (E5, A6) => Inv w0 ps0 H0 H [bx g0 126 [(vs Q3)], bx g_2 30 (d4 x1), Q4] w) ∧ c3k s H) ⟨_, (0, Q2), H, a0d, a0e, rfl, rfl, a9H, (((I.bring 2).bring 2).bring 2), e1a⟩ ?_
  rintro e4x τ_88 w next2 ⟨⟨E5, A6⟩, H, Q3, Q4, rfl, c3l, a1S, I, e1c⟩ hn2
  dsimp only at c3l I a1S
  simp only [List.map_cons, List.map_nil, List.cons.injEq, and_true] at c3l
  have e39 := c3l
  simp only [e39]
  obtain ⟨n2, hm2, h⟩ : ∃ n2 : (Int × (List b4)) → Hp → Prop, (∀ s' H', n2 s' H' → c3k s' H' ∧ b5d s' < b5d (E5, A6)) ∧ J7 x1.y8 (x1.y8.n : Int) x1 E5 A6 H n2 K := ⟨_, fun _ _ h => h, e1b (E5, A6) H (fun s' H' => c3k s' H' ∧ b5d s' < b5d (E5, A6)) e1c (fun _ _ a b => ⟨a, b⟩)⟩
  unfold b5Z
  unfold J7 at h
  refine a6 (D1 _ _ _ _ _ _) ?_
  refine d8 (fun a9z => ?_) (fun a9z => ?_)
  ·replace h := h.1 a9z
   obtain ⟨e1d, c1N, a7V, c3m, h⟩ := h
   obtain ⟨e4y, e4z, e1e, c3m⟩ := c3m
   refine a6 (a5Z e1e _ _ _ _ e1d c1N) ?_
   refine b9 (ldA (vs := (d4 a7V)) Tryd.isAgg30 Tryd.sizeOf30 rfl (I.atH c3m)) ?_
   refine F6 I Tryd.zeroValue30 (cs := [(vi 0), (vi 0), (Value.string ⟨#[]⟩), (Value.slice none 0 0)]) rfl fun e1f a1O b1Q b7x => ?_
   refine t6 b1Q Tryd.sizeOf30 (vs := (d4 a7V)) (cs' := (d4 a7V)) rfl rfl (nb rfl) rfl rfl fun a0m b4w e0s => ?_
   refine b9 (ldA Tryd.isAgg30 Tryd.sizeOf30 rfl (b4w.at1 (o := 0) (vs := (d4 a7V)) (nb rfl) rfl)) ?_
   refine d6 (cap := []) (fun args w => Tryd.call105 args w) ?_
   refine i7 (Fi := [bx g0 126 [(vs Q3)], Q4]) (Fr := [bx e1f 30 (d4 a7V), bx g_2 30 (d4 x1)]) ((b4w.bring 3).bring 2) (h g0 Q3 Q4 a1S) (fun e4A c3j e4B a1i e1g e4C e4D e1h => ?_) (fun _ _ _ _ _ q => q.elim)
   obtain ⟨e1W, b2c, c3n, c3o, rfl, rfl, c3p, h⟩ := e1h
   refine a6 (B2 _ _ _ _ _ _) ?_
   exact hn2 _ _ _ (hm2 _ _ h).2 ⟨((IntKind.wrap .i64 (E5 + 1)), b2c), c3j, c3n, c3o, rfl, rfl, c3p, ((((e1g.bring 2).drop.bring 1).bring 2).bring 2), (hm2 _ _ h).1⟩
  ·replace h := h.2 a9z
   exact hR (b6.mk (Sl.mk none 0 0)) A6 Q3 Q4 H _ a1S (((I.bring 1).drop.bring 1).bring 1) h
 refine u4 fun j1 hx1 => ?_
 refine a6 Y2 ?_
 refine b9 (ld1 Tryd.isAgg3 (I_4.at1 (o := 0) (vs := [(vi x1.d5)]) (nb rfl) rfl)) ?_
 refine a6 (g7 _ _ _ _ _ _) ?_
 refine d8 (fun b7P => ?_) (fun b7P => ?_)
 ·replace h := h.1 b7P
  refine a1z I_4 fun w_6 I_7 => ?_
  refine j6 (A9 _) ?_
  refine j6 Q5 ?_
  refine j6 Y3 ?_
  refine G1 (ld1 Tryd.isAgg124 ((I_7.bring 1).at1 (o := 0) (vs := [(vs E9)]) (nb rfl) rfl)) ?_
  refine G1 (ld1 Tryd.isAgg9 (I_7.at1 (o := 2) (vs := [(Value.string x1.c6)]) (nb rfl) rfl)) ?_
  refine j6 (a0W _ _) ?_
  refine a1A (e := 128) (c := i5) (xs := [(b4.mk x1.c6 1)]) I_7 (a6h _ _) rfl rfl a0h a0i (nb rfl) fun s_9 e4E O8 c3q d6t e1i => ?_
  refine ⟨(e1i _ (I_7.bring 1).lt1), ?_⟩
  obtain ⟨b5e, h⟩ := h
  refine a8g (s := E9) (xs := C4) (d6t.bring 3) a1f (c3q.srcO ((d6t.bring 3).bring 1)) b5e fun c3r e1j a1h c3s a4s b1F => ?_
  refine j6 (A9 _) ?_
  refine j6 Q5 ?_
  refine t6 ((a4s.bring 1).drop.bring 2) Tryd.sizeOf124 (vs := [(vs c3r)]) (cs' := [(vs c3r)]) rfl rfl (nb rfl) rfl rfl fun v6 e1k e4F => ?_
  exact hx1 _ _ (hj1 (C4 ++ [(b4.mk x1.c6 1)]) c3r e1j H _ c3s (((e1k.bring 1).bring 2).bring 2) h)
 ·replace h := h.2 b7P
  refine a6 (g7 _ _ _ _ _ _) ?_
  refine d8 (fun b7Q => ?_) (fun b7Q => ?_)
  ·replace h := h.1 b7Q
   refine a1z I_4 fun e4G b7R => ?_
   refine j6 (A9 _) ?_
   refine j6 Q5 ?_
   refine j6 Y3 ?_
   refine G1 (ld1 Tryd.isAgg124 ((b7R.bring 1).at1 (o := 0) (vs := [(vs E9)]) (nb rfl) rfl)) ?_
   refine G1 (ld1 Tryd.isAgg9 (b7R.at1 (o := 2) (vs := [(Value.string x1.c6)]) (nb rfl) rfl)) ?_
   refine j6 (a0W _ _) ?_
   refine a1A (e := 128) (c := i5) (xs := [(b4.mk x1.c6 2)]) b7R (a6h _ _) rfl rfl a0h a0i (nb rfl) fun d2P e4H a6n e1l d6u e1m => ?_
   refine ⟨(e1m _ (b7R.bring 1).lt1), ?_⟩
   obtain ⟨d7W, h⟩ := h
   refine a8g (s := E9) (xs := C4) (d6u.bring 3) a1f (e1l.srcO ((d6u.bring 3).bring 1)) d7W fun b7S d7X a3G d7Y d7Z e1X => ?_
   refine j6 (A9 _) ?_
   refine j6 Q5 ?_
   refine t6 ((d7Z.bring 1).drop.bring 2) Tryd.sizeOf124 (vs := [(vs b7S)]) (cs' := [(vs b7S)]) rfl rfl (nb rfl) rfl rfl fun e1Y d8a e1Z => ?_
   exact hx1 _ _ (hj1 (C4 ++ [(b4.mk x1.c6 2)]) b7S d7X H _ d7Y (((d8a.bring 1).bring 2).bring 2) h)
  ·replace h := h.2 b7Q
   exact hx1 _ _ (hj1 C4 E9 K5 H _ a1f (((I_4.bring 2).bring 1).bring 2) h)
theorem a3N (x0 : b6) (C4 : (List b4)) (x1 : q7) {H : Hp} {K : b6 → (List b4) → Hp → Prop} (h : M3 x0 C4 x1 H K) : G5 x0 C4 x1 H K := by
 intro g0 E9 K5 a1f w I
 refine c7b ?_
 refine a3A x0 C4 x1 g0 E9 K5 a1f I (fun y0 T8 M8 M9 H' w' a7W I' hk => ⟨H', _, I', y0, T8, M8, M9, rfl, rfl, a7W, hk⟩) h
def J8 (c4r : Sl) (c4s : Int) (_cr_1l2 : r6) (W8 : Int) (A6 : (List b4)) (H : Hp) (n2 : (Int × (List b4)) → Hp → Prop) (K : b6 → (List b4) → Hp → Prop) : Prop :=
 (W8 < c4s →
 (0 : Int) ≤ W8 ∧ (W8 : Int) < c4r.n ∧ ∃ a7X : r6, EltH H c4r W8 4 (f6 a7X) ∧
 M0 (b6.mk (Sl.mk none 0 0)) A6 a7X H (fun (_y0_86 : b6) (b2d : (List b4)) (a1l : Hp) =>
 n2 ((IntKind.wrap .i64 (W8 + 1)), b2d) a1l)) ∧
 (¬ (W8 < c4s) →
 K (b6.mk (Sl.mk none 0 0)) A6 H)
def J9 (cr_1j1 : r6) (Q2 : (List b4)) (H : Hp) (K : b6 → (List b4) → Hp → Prop) : Prop :=
 TL ((0, Q2) : Int × (List b4)) H fun (s : Int × (List b4)) H n2 => J8 cr_1j1.o5 (cr_1j1.o5.n : Int) cr_1j1 s.1 s.2 H n2 K
def K0 (d6v : Sl) (c4t : Int) (cr_1l3 : r6) (W9 : Int) (R8 : (List b4)) (H : Hp) (n3 : (Int × (List b4)) → Hp → Prop) (K : b6 → (List b4) → Hp → Prop) : Prop :=
 (W9 < c4t →
 (0 : Int) ≤ W9 ∧ (W9 : Int) < d6v.n ∧ ∃ a5g : q7, EltH H d6v W9 4 (d4 a5g) ∧
 G5 (b6.mk (Sl.mk none 0 0)) R8 a5g H (fun (_y0_128 : b6) (a9I : (List b4)) (b7T : Hp) =>
 n3 ((IntKind.wrap .i64 (W9 + 1)), a9I) b7T)) ∧
 (¬ (W9 < c4t) →
 J9 cr_1l3 R8 H K)
def M4 (_x0 : b6) (C4 : (List b4)) (x1 : r6) (H : Hp) (K : b6 → (List b4) → Hp → Prop) : Prop :=
 TL ((0, C4) : Int × (List b4)) H fun (s : Int × (List b4)) H n3 => K0 x1.c5 (x1.c5.n : Int) x1 s.1 s.2 H n3 K
theorem a3B (x0 : b6) (C4 : (List b4)) (x1 : r6) (g0 : Nat) (E9 : Sl) (K5 : Frag) (a1f : RowL 128 2 i5 E9 C4 K5) {w0 w : World} {ps0 : Nat → Prop} {H0 H : Hp} {K : b6 → (List b4) → Hp → Prop} {R : Value → World → Prop} {E : Pan} (I : Inv w0 ps0 H0 H [bx g0 126 [(vs E9)], K5] w) (hR : ∀ (y0 : b6) (T8 : (List b4)) (M8 : Sl) (M9 : Frag) (H' : Hp) (w' : World) (_ : RowL 128 2 i5 M8 T8 M9) (_ : Inv w0 ps0 H0 H' [bx g0 126 [(vs M8)], M9] w') (_ : K y0 T8 H'), R (Value.tuple #[]) w') (h : M4 x0 C4 x1 H K) : b7N (Value.pointer (some ⟨g0, 0, none⟩)) (Value.agg (f6 x1).toArray) w R E := by
 unfold M4 at h
 unfold b7N
 refine J2 I (cs := (f6 x1)) rfl fun g_2 w_3 I_4 k_5 => ?_
 have hj1 : ∀ (Q2 : (List b4)) (a0d : Sl) (a0e : Frag) (H : Hp) (w : World) (_ : RowL 128 2 i5 a0d Q2 a0e) (_ : Inv w0 ps0 H0 H [bx g_2 33 (f6 x1), bx g0 126 [(vs a0d)], a0e] w) (_ : J9 x1 Q2 H K), b1Z (Value.pointer (some ⟨g0, 0, none⟩)) (Value.pointer (some ⟨g_2, 0, none⟩)) w R E := by
  intro Q2 a0d a0e H w a9H I h
  unfold b1Z
  intro _
  unfold J9 at h
  refine a6 a6b ?_
  refine b9 (ld1 Tryd.isAgg31 (I.at1 (o := 3) (vs := [(vs x1.o5)]) (nb rfl) rfl)) ?_
  refine a6 (a3i _ _ _) ?_
  obtain ⟨c3t, b5f, e1n, e1o⟩ := h
  refine F7 (J := fun n l w => ∃ (s : Int × (List b4)) (H : Hp) (Q3 : Sl) (Q4 : Frag) , n = b5f s ∧ l = (match s with | (W8, A6) => [(vi W8)]) ∧ (match s with | (W8, A6) => RowL 128 2 i5 Q3 A6 Q4) ∧ (match s with | (W8, A6) => Inv w0 ps0 H0 H [bx g_2 33 (f6 x1), bx g0 126 [(vs Q3)], Q4] w) ∧ c3t s H) ⟨_, (0, Q2), H, a0d, a0e, rfl, rfl, a9H, (((I.bring 2).bring 2).bring 2), e1n⟩ ?_
  rintro e4I τ_93 w next2 ⟨⟨W8, A6⟩, H, Q3, Q4, rfl, c3u, a1S, I, e1p⟩ hn2
  dsimp only at c3u I a1S
  simp only [List.map_cons, List.map_nil, List.cons.injEq, and_true] at c3u
  have e22 := c3u
  simp only [e22]
  obtain ⟨n2, hm2, h⟩ : ∃ n2 : (Int × (List b4)) → Hp → Prop, (∀ s' H', n2 s' H' → c3t s' H' ∧ b5f s' < b5f (W8, A6)) ∧ J8 x1.o5 (x1.o5.n : Int) x1 W8 A6 H n2 K := ⟨_, fun _ _ h => h, e1o (W8, A6) H (fun s' H' => c3t s' H' ∧ b5f s' < b5f (W8, A6)) e1p (fun _ _ a b => ⟨a, b⟩)⟩
  unfold b5X
  unfold J8 at h
  refine a6 (D1 _ _ _ _ _ _) ?_
  refine d8 (fun a4B => ?_) (fun a4B => ?_)
  ·replace h := h.1 a4B
   obtain ⟨e1q, e1r, a7X, c3v, h⟩ := h
   obtain ⟨e4J, e4K, e1s, c3v⟩ := c3v
   refine a6 (a8U e1s _ _ _ _ e1q e1r) ?_
   refine b9 (ldA (vs := (f6 a7X)) Tryd.isAgg33 Tryd.sizeOf33 rfl (I.atH c3v)) ?_
   refine F6 I Tryd.zeroValue33 (cs := [(vi 0), (vi 0), (Value.slice none 0 0), (Value.slice none 0 0)]) rfl fun e1t a0o e1u e4L => ?_
   refine t6 e1u Tryd.sizeOf33 (vs := (f6 a7X)) (cs' := (f6 a7X)) rfl rfl (nb rfl) rfl rfl fun d3T d6w e4M => ?_
   refine b9 (ldA Tryd.isAgg33 Tryd.sizeOf33 rfl (d6w.at1 (o := 0) (vs := (f6 a7X)) (nb rfl) rfl)) ?_
   refine d6 (cap := []) (fun args w => Tryd.call104 args w) ?_
   refine i7 (Fi := [bx g0 126 [(vs Q3)], Q4]) (Fr := [bx e1t 33 (f6 a7X), bx g_2 33 (f6 x1)]) ((d6w.bring 3).bring 3) (h g0 Q3 Q4 a1S) (fun b7v a1l e0u a9B b1O c2v c2w c2x => ?_) (fun _ _ _ _ _ q => q.elim)
   obtain ⟨e2a, b2d, c3w, c3x, rfl, rfl, c3y, h⟩ := c2x
   refine a6 (B2 _ _ _ _ _ _) ?_
   exact hn2 _ _ _ (hm2 _ _ h).2 ⟨((IntKind.wrap .i64 (W8 + 1)), b2d), a1l, c3w, c3x, rfl, rfl, c3y, ((((b1O.bring 2).drop.bring 1).bring 1).bring 2), (hm2 _ _ h).1⟩
  ·replace h := h.2 a4B
   exact hR (b6.mk (Sl.mk none 0 0)) A6 Q3 Q4 H _ a1S ((I.drop.bring 1).bring 1) h
 refine u4 fun j1 hx1 => ?_
 refine a6 a6a ?_
 refine b9 (ld1 Tryd.isAgg28 (I_4.at1 (o := 2) (vs := [(vs x1.c5)]) (nb rfl) rfl)) ?_
 refine a6 (a0y _ _ _) ?_
 obtain ⟨b7U, b0P, d8b, d8c⟩ := h
 refine F7 (J := fun n l w => ∃ (s : Int × (List b4)) (H : Hp) (a2O : Sl) (a2P : Frag) , n = b0P s ∧ l = (match s with | (W9, R8) => [(vi W9)]) ∧ (match s with | (W9, R8) => RowL 128 2 i5 a2O R8 a2P) ∧ (match s with | (W9, R8) => Inv w0 ps0 H0 H [bx g_2 33 (f6 x1), bx g0 126 [(vs a2O)], a2P] w) ∧ b7U s H) ⟨_, (0, C4), H, E9, K5, rfl, rfl, a1f, (((I_4.bring 2).bring 2).bring 2), d8b⟩ ?_
 rintro e2b τ_135 w next3 ⟨⟨W9, R8⟩, H, a2O, a2P, rfl, b7V, a9J, I, d8d⟩ hn3
 dsimp only at b7V I a9J
 simp only [List.map_cons, List.map_nil, List.cons.injEq, and_true] at b7V
 have e11 := b7V
 simp only [e11]
 obtain ⟨n3, hm3, h⟩ : ∃ n3 : (Int × (List b4)) → Hp → Prop, (∀ s' H', n3 s' H' → b7U s' H' ∧ b0P s' < b0P (W9, R8)) ∧ K0 x1.c5 (x1.c5.n : Int) x1 W9 R8 H n3 K := ⟨_, fun _ _ h => h, d8c (W9, R8) H (fun s' H' => b7U s' H' ∧ b0P s' < b0P (W9, R8)) d8d (fun _ _ a b => ⟨a, b⟩)⟩
 unfold b5Y
 unfold K0 at h
 refine a6 (D1 _ _ _ _ _ _) ?_
 refine d8 (fun b7W => ?_) (fun b7W => ?_)
 ·replace h := h.1 b7W
  obtain ⟨d8e, d8f, a5g, b7X, h⟩ := h
  obtain ⟨e2c, e2d, d8g, b7X⟩ := b7X
  refine a6 (a5Z d8g _ _ _ _ d8e d8f) ?_
  refine b9 (ldA (vs := (d4 a5g)) Tryd.isAgg30 Tryd.sizeOf30 rfl (I.atH b7X)) ?_
  refine F6 I Tryd.zeroValue30 (cs := [(vi 0), (vi 0), (Value.string ⟨#[]⟩), (Value.slice none 0 0)]) rfl fun d8h a4Z d8i e2e => ?_
  refine t6 d8i Tryd.sizeOf30 (vs := (d4 a5g)) (cs' := (d4 a5g)) rfl rfl (nb rfl) rfl rfl fun e2f c4u e2g => ?_
  refine b9 (ldA Tryd.isAgg30 Tryd.sizeOf30 rfl (c4u.at1 (o := 0) (vs := (d4 a5g)) (nb rfl) rfl)) ?_
  refine d6 (cap := []) (fun args w => Tryd.call105 args w) ?_
  refine i7 (Fi := [bx g0 126 [(vs a2O)], a2P]) (Fr := [bx d8h 30 (d4 a5g), bx g_2 33 (f6 x1)]) ((c4u.bring 3).bring 3) (h g0 a2O a2P a9J) (fun e2h b7T e2i e2j d8j e2k e2l d8k => ?_) (fun _ _ _ _ _ q => q.elim)
  obtain ⟨e1R, a9I, c0C, c0D, rfl, rfl, c0E, h⟩ := d8k
  refine a6 (B2 _ _ _ _ _ _) ?_
  exact hn3 _ _ _ (hm3 _ _ h).2 ⟨((IntKind.wrap .i64 (W9 + 1)), a9I), b7T, c0C, c0D, rfl, rfl, c0E, ((((d8j.bring 2).drop.bring 1).bring 1).bring 2), (hm3 _ _ h).1⟩
 ·replace h := h.2 b7W
  exact hx1 _ _ (hj1 R8 a2O a2P H _ a9J (((I.bring 2).bring 2).bring 2) h)
theorem a3O (x0 : b6) (C4 : (List b4)) (x1 : r6) {H : Hp} {K : b6 → (List b4) → Hp → Prop} (h : M4 x0 C4 x1 H K) : M0 x0 C4 x1 H K := by
 intro g0 E9 K5 a1f w I
 refine c6Z ?_
 refine a3B x0 C4 x1 g0 E9 K5 a1f I (fun y0 T8 M8 M9 H' w' a7W I' hk => ⟨H', _, I', y0, T8, M8, M9, rfl, rfl, a7W, hk⟩) h
def G7 (_s10j2 : Sl) (_s11j2 : Int) (d8l : Int) (a2Q : (List b4)) (H : Hp) (n1 : (Int × (List b4)) → Hp → Prop) (_K : b6 → (List b4) → Hp → Prop) : Prop :=
 n1 ((IntKind.wrap .i64 (d8l + 1)), a2Q) H
def G8 (d8m : Sl) (b7h : Int) (d8n : Int) (a4L : (List b4)) (cr_222j5 : q8) (H : Hp) (n1 : (Int × (List b4)) → Hp → Prop) (K : b6 → (List b4) → Hp → Prop) : Prop :=
 E8 (b6.mk (Sl.mk none 0 0)) a4L cr_222j5.C0 H (fun (_y0_305 : b6) (b5g : (List b4)) (c4v : Hp) =>
 E8 (b6.mk (Sl.mk none 0 0)) b5g cr_222j5.A8 c4v (fun (_y0_314 : b6) (a9K : (List b4)) (b7Y : Hp) =>
 G7 d8m b7h d8n a9K b7Y n1 K))
def G9 (d8o : Sl) (d8p : Int) (d8q : Int) (c4w : Sl) (c4x : Int) (cr_222l6 : q8) (X0 : Int) (R9 : (List b4)) (H : Hp) (n1 : (Int × (List b4)) → Hp → Prop) (n6 : (Int × (List b4)) → Hp → Prop) (K : b6 → (List b4) → Hp → Prop) : Prop :=
 (X0 < c4x →
 (0 : Int) ≤ X0 ∧ (X0 : Int) < c4w.n ∧ ∃ a5h : q7, EltH H c4w X0 4 (d4 a5h) ∧
 G5 (b6.mk (Sl.mk none 0 0)) R9 a5h H (fun (_y0_347 : b6) (a9L : (List b4)) (b7Z : Hp) =>
 n6 ((IntKind.wrap .i64 (X0 + 1)), a9L) b7Z)) ∧
 (¬ (X0 < c4x) →
 G8 d8o d8p d8q R9 cr_222l6 H n1 K)
def H7 (d8r : Sl) (d8s : Int) (d8t : Int) (a2R : (List b4)) (cr_222j4 : q8) (H : Hp) (n1 : (Int × (List b4)) → Hp → Prop) (K : b6 → (List b4) → Hp → Prop) : Prop :=
 TL ((0, a2R) : Int × (List b4)) H fun (s : Int × (List b4)) H n6 => G9 d8r d8s d8t cr_222j4.c5 (cr_222j4.c5.n : Int) cr_222j4 s.1 s.2 H n1 n6 K
def H9 (d8u : Sl) (d8v : Int) (d8w : Int) (c4y : Sl) (c4z : Int) (cr_222l7 : q8) (X1 : Int) (S1 : (List b4)) (H : Hp) (n1 : (Int × (List b4)) → Hp → Prop) (n7 : (Int × (List b4)) → Hp → Prop) (K : b6 → (List b4) → Hp → Prop) : Prop :=
 (X1 < c4z →
 (0 : Int) ≤ X1 ∧ (X1 : Int) < c4y.n ∧ ∃ a5i : r6, EltH H c4y X1 4 (f6 a5i) ∧
 M0 (b6.mk (Sl.mk none 0 0)) S1 a5i H (fun (_y0_389 : b6) (a9M : (List b4)) (b8a : Hp) =>
 n7 ((IntKind.wrap .i64 (X1 + 1)), a9M) b8a)) ∧
 (¬ (X1 < c4z) →
 H7 d8u d8v d8w S1 cr_222l7 H n1 K)
def u5 (d8x : Sl) (d8y : Int) (d8z : Int) (a2S : (List b4)) (cr_222j3 : q8) (H : Hp) (n1 : (Int × (List b4)) → Hp → Prop) (K : b6 → (List b4) → Hp → Prop) : Prop :=
 TL ((0, a2S) : Int × (List b4)) H fun (s : Int × (List b4)) H n7 => H9 d8x d8y d8z cr_222j3.h7 (cr_222j3.h7.n : Int) cr_222j3 s.1 s.2 H n1 n7 K
def I0 (b0Q : Sl) (b0R : Int) (J0 : Int) (C7 : (List b4)) (H : Hp) (n1 : (Int × (List b4)) → Hp → Prop) (K : b6 → (List b4) → Hp → Prop) : Prop :=
 (J0 < b0R →
 (0 : Int) ≤ J0 ∧ (J0 : Int) < b0Q.n ∧ ∃ u9 : q8, EltH H b0Q J0 6 (g8 u9) ∧
 (u9.d5 = 1 →
 (C7.length + ([(b4.mk u9.c6 1)] : List b4).length) * 25 ≤ 140737488355328 ∧
 u5 b0Q b0R J0 (C7 ++ [(b4.mk u9.c6 1)]) u9 H n1 K) ∧
 (¬ (u9.d5 = 1) →
 (u9.d5 = 2 →
 (C7.length + ([(b4.mk u9.c6 2)] : List b4).length) * 25 ≤ 140737488355328 ∧
 u5 b0Q b0R J0 (C7 ++ [(b4.mk u9.c6 2)]) u9 H n1 K) ∧
 (¬ (u9.d5 = 2) →
 u5 b0Q b0R J0 C7 u9 H n1 K))) ∧
 (¬ (J0 < b0R) →
 K (b6.mk (Sl.mk none 0 0)) C7 H)
def L3 (_x0 : b6) (C4 : (List b4)) (x1 : Sl) (H : Hp) (K : b6 → (List b4) → Hp → Prop) : Prop :=
 TL ((0, C4) : Int × (List b4)) H fun (s : Int × (List b4)) H n1 => I0 x1 (x1.n : Int) s.1 s.2 H n1 K
theorem a3o (x0 : b6) (C4 : (List b4)) (x1 : Sl) (g0 : Nat) (E9 : Sl) (K5 : Frag) (a1f : RowL 128 2 i5 E9 C4 K5) {w0 w : World} {ps0 : Nat → Prop} {H0 H : Hp} {K : b6 → (List b4) → Hp → Prop} {R : Value → World → Prop} {E : Pan} (I : Inv w0 ps0 H0 H [bx g0 126 [(vs E9)], K5] w) (hR : ∀ (y0 : b6) (T8 : (List b4)) (M8 : Sl) (M9 : Frag) (H' : Hp) (w' : World) (_ : RowL 128 2 i5 M8 T8 M9) (_ : Inv w0 ps0 H0 H' [bx g0 126 [(vs M8)], M9] w') (_ : K y0 T8 H'), R (Value.tuple #[]) w') (h : L3 x0 C4 x1 H K) : F76 (Value.pointer (some ⟨g0, 0, none⟩)) (vs x1) w R E := by
 unfold L3 at h
 unfold F76
 refine a6 (T2 _ _ _) ?_
 obtain ⟨b8b, b0S, d8A, d8B⟩ := h
 refine F7 (J := fun n l w => ∃ (s : Int × (List b4)) (H : Hp) (a0f : Sl) (a4M : Frag) , n = b0S s ∧ l = (match s with | (J0, C7) => [(vi J0)]) ∧ (match s with | (J0, C7) => RowL 128 2 i5 a0f C7 a4M) ∧ (match s with | (J0, C7) => Inv w0 ps0 H0 H [bx g0 126 [(vs a0f)], a4M] w) ∧ b8b s H) ⟨_, (0, C4), H, E9, K5, rfl, rfl, a1f, ((I.bring 1).bring 1), d8A⟩ ?_
 rintro e2m τ_426 w next1 ⟨⟨J0, C7⟩, H, a0f, a4M, rfl, b8c, a4N, I, d8C⟩ hn1
 dsimp only at b8c I a4N
 simp only [List.map_cons, List.map_nil, List.cons.injEq, and_true] at b8c
 have e12 := b8c
 simp only [e12]
 obtain ⟨n1, hm1, h⟩ : ∃ n1 : (Int × (List b4)) → Hp → Prop, (∀ s' H', n1 s' H' → b8b s' H' ∧ b0S s' < b0S (J0, C7)) ∧ I0 x1 (x1.n : Int) J0 C7 H n1 K := ⟨_, fun _ _ h => h, d8B (J0, C7) H (fun s' H' => b8b s' H' ∧ b0S s' < b0S (J0, C7)) d8C (fun _ _ a b => ⟨a, b⟩)⟩
 unfold c0w
 unfold I0 at h
 refine a6 (D1 _ _ _ _ _ _) ?_
 refine d8 (fun b8d => ?_) (fun b8d => ?_)
 ·replace h := h.1 b8d
  have hj2 : ∀ (a2Q : (List b4)) (a6P : Sl) (a6Q : Frag) (H : Hp) (w : World) (_ : RowL 128 2 i5 a6P a2Q a6Q) (_ : Inv w0 ps0 H0 H [bx g0 126 [(vs a6P)], a6Q] w) (_ : G7 x1 (x1.n : Int) J0 a2Q H n1 K), b4W (Value.pointer (some ⟨g0, 0, none⟩)) (vs x1) (vi (x1.n : Int)) (vi J0) w next1 R E := by
   intro a2Q a6P a6Q H w c3z I h
   unfold b4W
   intro _
   unfold G7 at h
   refine a6 (B2 _ _ _ _ _ _) ?_
   exact hn1 _ _ _ (hm1 _ _ h).2 ⟨((IntKind.wrap .i64 (J0 + 1)), a2Q), H, a6P, a6Q, rfl, rfl, c3z, ((I.bring 1).bring 1), (hm1 _ _ h).1⟩
  refine u4 fun j2 hx2 => ?_
  obtain ⟨d8D, d8E, u9, b8e, h⟩ := h
  obtain ⟨e2n, e2o, d8F, b8e⟩ := b8e
  refine a6 (b3m d8F _ _ _ _ d8D d8E) ?_
  refine b9 (ldA (vs := (g8 u9)) Tryd.isAgg88 Tryd.sizeOf88 rfl (I.atH b8e)) ?_
  refine F6 I Tryd.zeroValue88 (cs := [(vi 0), (Value.string ⟨#[]⟩), (Value.slice none 0 0), (Value.slice none 0 0), (Value.slice none 0 0), (Value.slice none 0 0)]) rfl fun a1x e2p d8G e2q => ?_
  refine t6 d8G Tryd.sizeOf88 (vs := (g8 u9)) (cs' := (g8 u9)) rfl rfl (nb rfl) rfl rfl fun e2r b2L e2s => ?_
  have hj3 : ∀ (a2S : (List b4)) (a6R : Sl) (a6S : Frag) (H : Hp) (w : World) (_ : RowL 128 2 i5 a6R a2S a6S) (_ : Inv w0 ps0 H0 H [bx g0 126 [(vs a6R)], bx a1x 88 (g8 u9), a6S] w) (_ : u5 x1 (x1.n : Int) J0 a2S u9 H n1 K), b4Z (Value.pointer (some ⟨g0, 0, none⟩)) (Value.pointer (some ⟨a1x, 0, none⟩)) (vs x1) (vi (x1.n : Int)) (vi J0) w j2 R E := by
   intro a2S a6R a6S H w c3A I h
   unfold b4Z
   intro _
   unfold u5 at h
   have hj4 : ∀ (a2R : (List b4)) (a6T : Sl) (a6U : Frag) (H : Hp) (w : World) (_ : RowL 128 2 i5 a6T a2R a6U) (_ : Inv w0 ps0 H0 H [bx g0 126 [(vs a6T)], bx a1x 88 (g8 u9), a6U] w) (_ : H7 x1 (x1.n : Int) J0 a2R u9 H n1 K), b4Y (Value.pointer (some ⟨g0, 0, none⟩)) (Value.pointer (some ⟨a1x, 0, none⟩)) (vs x1) (vi (x1.n : Int)) (vi J0) w j2 R E := by
    intro a2R a6T a6U H w c3B I h
    unfold b4Y
    intro _
    unfold H7 at h
    have hj5 : ∀ (a4L : (List b4)) (a4O : Sl) (a4P : Frag) (H : Hp) (w : World) (_ : RowL 128 2 i5 a4O a4L a4P) (_ : Inv w0 ps0 H0 H [bx g0 126 [(vs a4O)], bx a1x 88 (g8 u9), a4P] w) (_ : G8 x1 (x1.n : Int) J0 a4L u9 H n1 K), b4X (Value.pointer (some ⟨g0, 0, none⟩)) (Value.pointer (some ⟨a1x, 0, none⟩)) (vs x1) (vi (x1.n : Int)) (vi J0) w j2 R E := by
     intro a4L a4O a4P H w c3C I h
     unfold b4X
     intro _
     unfold G8 at h
     refine a6 a6e ?_
     refine b9 (ld1 Tryd.isAgg23 ((I.bring 1).at1 (o := 4) (vs := [(vs u9.C0)]) (nb rfl) rfl)) ?_
     refine d6 (cap := []) (fun args w => Tryd.call76 args w) ?_
     refine i7 (Fi := [bx g0 126 [(vs a4O)], a4P]) (Fr := [bx a1x 88 (g8 u9)]) ((I.bring 2).bring 1) (h g0 a4O a4P c3C) (fun e2t c4v e2u e2v c4A e2w e2x d8H => ?_) (fun _ _ _ _ _ q => q.elim)
     obtain ⟨e1S, b5g, b2u, b2v, rfl, rfl, c0F, h⟩ := d8H
     refine a6 a0V ?_
     refine b9 (ld1 Tryd.isAgg23 ((c4A.bring 2).at1 (o := 5) (vs := [(vs u9.A8)]) (nb rfl) rfl)) ?_
     refine d6 (cap := []) (fun args w => Tryd.call76 args w) ?_
     refine i7 (Fi := [bx g0 126 [(vs b2u)], b2v]) (Fr := [bx a1x 88 (g8 u9)]) ((c4A.bring 1).bring 1) (h g0 b2u b2v c0F) (fun e2y b7Y e2z e2A d8I e2B e2C d8J => ?_) (fun _ _ _ _ _ q => q.elim)
     obtain ⟨e1T, a9K, c0G, c0H, rfl, rfl, c0I, h⟩ := d8J
     exact hx2 _ _ (hj2 a9K c0G c0H b7Y _ c0I (((d8I.bring 2).drop.bring 1).bring 1) h)
    refine u4 fun j5 hx5 => ?_
    refine a6 a6c ?_
    refine b9 (ld1 Tryd.isAgg28 ((I.bring 1).at1 (o := 2) (vs := [(vs u9.c5)]) (nb rfl) rfl)) ?_
    refine a6 (a0y _ _ _) ?_
    obtain ⟨b8f, b0T, d8K, d8L⟩ := h
    refine F7 (J := fun n l w => ∃ (s : Int × (List b4)) (H : Hp) (a2T : Sl) (a2U : Frag) , n = b0T s ∧ l = (match s with | (X0, R9) => [(vi X0)]) ∧ (match s with | (X0, R9) => RowL 128 2 i5 a2T R9 a2U) ∧ (match s with | (X0, R9) => Inv w0 ps0 H0 H [bx g0 126 [(vs a2T)], bx a1x 88 (g8 u9), a2U] w) ∧ b8f s H) ⟨_, (0, a2R), H, a6T, a6U, rfl, rfl, c3B, (((I.bring 2).bring 2).bring 2), d8K⟩ ?_
    rintro e2D τ_354 w next6 ⟨⟨X0, R9⟩, H, a2T, a2U, rfl, b8g, a9N, I, d8M⟩ hn6
    dsimp only at b8g I a9N
    simp only [List.map_cons, List.map_nil, List.cons.injEq, and_true] at b8g
    have e60 := b8g
    simp only [e60]
    obtain ⟨n6, hm6, h⟩ : ∃ n6 : (Int × (List b4)) → Hp → Prop, (∀ s' H', n6 s' H' → b8f s' H' ∧ b0T s' < b0T (X0, R9)) ∧ G9 x1 (x1.n : Int) J0 u9.c5 (u9.c5.n : Int) u9 X0 R9 H n1 n6 K := ⟨_, fun _ _ h => h, d8L (X0, R9) H (fun s' H' => b8f s' H' ∧ b0T s' < b0T (X0, R9)) d8M (fun _ _ a b => ⟨a, b⟩)⟩
    unfold c0s
    unfold G9 at h
    refine a6 (D1 _ _ _ _ _ _) ?_
    refine d8 (fun b8h => ?_) (fun b8h => ?_)
    ·replace h := h.1 b8h
     obtain ⟨d8N, d8O, a5h, b8i, h⟩ := h
     obtain ⟨e2E, e2F, d8P, b8i⟩ := b8i
     refine a6 (a5Z d8P _ _ _ _ d8N d8O) ?_
     refine b9 (ldA (vs := (d4 a5h)) Tryd.isAgg30 Tryd.sizeOf30 rfl (I.atH b8i)) ?_
     refine F6 I Tryd.zeroValue30 (cs := [(vi 0), (vi 0), (Value.string ⟨#[]⟩), (Value.slice none 0 0)]) rfl fun d8Q e2G d8R e2H => ?_
     refine t6 d8R Tryd.sizeOf30 (vs := (d4 a5h)) (cs' := (d4 a5h)) rfl rfl (nb rfl) rfl rfl fun e2I c4B e2J => ?_
     refine b9 (ldA Tryd.isAgg30 Tryd.sizeOf30 rfl (c4B.at1 (o := 0) (vs := (d4 a5h)) (nb rfl) rfl)) ?_
     refine d6 (cap := []) (fun args w => Tryd.call105 args w) ?_
     refine i7 (Fi := [bx g0 126 [(vs a2T)], a2U]) (Fr := [bx d8Q 30 (d4 a5h), bx a1x 88 (g8 u9)]) ((c4B.bring 3).bring 2) (h g0 a2T a2U a9N) (fun e2K b7Z e2L e2M d8S e2N e2O d8T => ?_) (fun _ _ _ _ _ q => q.elim)
     obtain ⟨e1U, a9L, c0J, c0K, rfl, rfl, c0L, h⟩ := d8T
     refine a6 (B2 _ _ _ _ _ _) ?_
     exact hn6 _ _ _ (hm6 _ _ h).2 ⟨((IntKind.wrap .i64 (X0 + 1)), a9L), b7Z, c0J, c0K, rfl, rfl, c0L, ((((d8S.bring 2).drop.bring 1).bring 2).bring 2), (hm6 _ _ h).1⟩
    ·replace h := h.2 b8h
     exact hx5 _ _ (hj5 R9 a2T a2U H _ a9N (((I.bring 2).bring 2).bring 2) h)
   refine u4 fun j4 hx4 => ?_
   refine a6 a6d ?_
   refine b9 (ld1 Tryd.isAgg31 ((I.bring 1).at1 (o := 3) (vs := [(vs u9.h7)]) (nb rfl) rfl)) ?_
   refine a6 (a3i _ _ _) ?_
   obtain ⟨b8j, b0U, d8U, d8V⟩ := h
   refine F7 (J := fun n l w => ∃ (s : Int × (List b4)) (H : Hp) (a2V : Sl) (a2W : Frag) , n = b0U s ∧ l = (match s with | (X1, S1) => [(vi X1)]) ∧ (match s with | (X1, S1) => RowL 128 2 i5 a2V S1 a2W) ∧ (match s with | (X1, S1) => Inv w0 ps0 H0 H [bx g0 126 [(vs a2V)], bx a1x 88 (g8 u9), a2W] w) ∧ b8j s H) ⟨_, (0, a2S), H, a6R, a6S, rfl, rfl, c3A, (((I.bring 2).bring 2).bring 2), d8U⟩ ?_
   rintro e2P τ_396 w next7 ⟨⟨X1, S1⟩, H, a2V, a2W, rfl, b8k, a9O, I, d8W⟩ hn7
   dsimp only at b8k I a9O
   simp only [List.map_cons, List.map_nil, List.cons.injEq, and_true] at b8k
   have e49 := b8k
   simp only [e49]
   obtain ⟨n7, hm7, h⟩ : ∃ n7 : (Int × (List b4)) → Hp → Prop, (∀ s' H', n7 s' H' → b8j s' H' ∧ b0U s' < b0U (X1, S1)) ∧ H9 x1 (x1.n : Int) J0 u9.h7 (u9.h7.n : Int) u9 X1 S1 H n1 n7 K := ⟨_, fun _ _ h => h, d8V (X1, S1) H (fun s' H' => b8j s' H' ∧ b0U s' < b0U (X1, S1)) d8W (fun _ _ a b => ⟨a, b⟩)⟩
   unfold c0u
   unfold H9 at h
   refine a6 (D1 _ _ _ _ _ _) ?_
   refine d8 (fun b8l => ?_) (fun b8l => ?_)
   ·replace h := h.1 b8l
    obtain ⟨d8X, d8Y, a5i, b8m, h⟩ := h
    obtain ⟨e2Q, e2R, d8Z, b8m⟩ := b8m
    refine a6 (a8U d8Z _ _ _ _ d8X d8Y) ?_
    refine b9 (ldA (vs := (f6 a5i)) Tryd.isAgg33 Tryd.sizeOf33 rfl (I.atH b8m)) ?_
    refine F6 I Tryd.zeroValue33 (cs := [(vi 0), (vi 0), (Value.slice none 0 0), (Value.slice none 0 0)]) rfl fun d9a e2S d9b e2T => ?_
    refine t6 d9b Tryd.sizeOf33 (vs := (f6 a5i)) (cs' := (f6 a5i)) rfl rfl (nb rfl) rfl rfl fun e2U c4C e2V => ?_
    refine b9 (ldA Tryd.isAgg33 Tryd.sizeOf33 rfl (c4C.at1 (o := 0) (vs := (f6 a5i)) (nb rfl) rfl)) ?_
    refine d6 (cap := []) (fun args w => Tryd.call104 args w) ?_
    refine i7 (Fi := [bx g0 126 [(vs a2V)], a2W]) (Fr := [bx d9a 33 (f6 a5i), bx a1x 88 (g8 u9)]) ((c4C.bring 3).bring 2) (h g0 a2V a2W a9O) (fun e2W b8a e2X e2Y d9c e2Z e3a d9d => ?_) (fun _ _ _ _ _ q => q.elim)
    obtain ⟨e1V, a9M, c0M, c0N, rfl, rfl, c0O, h⟩ := d9d
    refine a6 (B2 _ _ _ _ _ _) ?_
    exact hn7 _ _ _ (hm7 _ _ h).2 ⟨((IntKind.wrap .i64 (X1 + 1)), a9M), b8a, c0M, c0N, rfl, rfl, c0O, ((((d9c.bring 2).drop.bring 1).bring 2).bring 2), (hm7 _ _ h).1⟩
   ·replace h := h.2 b8l
    exact hx4 _ _ (hj4 S1 a2V a2W H _ a9O (((I.bring 2).bring 2).bring 2) h)
  refine u4 fun j3 hx3 => ?_
  refine a6 a0T ?_
  refine b9 (ld1 Tryd.isAgg3 (b2L.at1 (o := 0) (vs := [(vi u9.d5)]) (nb rfl) rfl)) ?_
  refine a6 (g7 _ _ _ _ _ _) ?_
  refine d8 (fun b8n => ?_) (fun b8n => ?_)
  ·replace h := h.1 b8n
   refine a1z b2L fun e3b b2M => ?_
   refine j6 (A9 _) ?_
   refine j6 Q5 ?_
   refine j6 a0U ?_
   refine G1 (ld1 Tryd.isAgg124 ((b2M.bring 1).at1 (o := 0) (vs := [(vs a0f)]) (nb rfl) rfl)) ?_
   refine G1 (ld1 Tryd.isAgg9 (b2M.at1 (o := 1) (vs := [(Value.string u9.c6)]) (nb rfl) rfl)) ?_
   refine j6 (a0W _ _) ?_
   refine a1A (e := 128) (c := i5) (xs := [(b4.mk u9.c6 1)]) b2M (a6h _ _) rfl rfl a0h a0i (nb rfl) fun e3c e3d e3e d9e c4D d9f => ?_
   refine ⟨(d9f _ (b2M.bring 1).lt1), ?_⟩
   obtain ⟨d9g, h⟩ := h
   refine a8g (s := a0f) (xs := C7) (c4D.bring 3) a4N (d9e.srcO ((c4D.bring 3).bring 1)) d9g fun b8o d9h e3f d9i d9j e3g => ?_
   refine j6 (A9 _) ?_
   refine j6 Q5 ?_
   refine t6 ((d9j.bring 1).drop.bring 2) Tryd.sizeOf124 (vs := [(vs b8o)]) (cs' := [(vs b8o)]) rfl rfl (nb rfl) rfl rfl fun e3h d9k e3i => ?_
   exact hx3 _ _ (hj3 (C7 ++ [(b4.mk u9.c6 1)]) b8o d9h H _ d9i (((d9k.bring 1).bring 2).bring 2) h)
  ·replace h := h.2 b8n
   refine a6 (g7 _ _ _ _ _ _) ?_
   refine d8 (fun b8p => ?_) (fun b8p => ?_)
   ·replace h := h.1 b8p
    refine a1z b2L fun e3j b2N => ?_
    refine j6 (A9 _) ?_
    refine j6 Q5 ?_
    refine j6 a0U ?_
    refine G1 (ld1 Tryd.isAgg124 ((b2N.bring 1).at1 (o := 0) (vs := [(vs a0f)]) (nb rfl) rfl)) ?_
    refine G1 (ld1 Tryd.isAgg9 (b2N.at1 (o := 1) (vs := [(Value.string u9.c6)]) (nb rfl) rfl)) ?_
    refine j6 (a0W _ _) ?_
    refine a1A (e := 128) (c := i5) (xs := [(b4.mk u9.c6 2)]) b2N (a6h _ _) rfl rfl a0h a0i (nb rfl) fun e3k e3l e3m d9l c4E d9m => ?_
    refine ⟨(d9m _ (b2N.bring 1).lt1), ?_⟩
    obtain ⟨d9n, h⟩ := h
    refine a8g (s := a0f) (xs := C7) (c4E.bring 3) a4N (d9l.srcO ((c4E.bring 3).bring 1)) d9n fun b8q d9o e3n d9p d9q e3o => ?_
    refine j6 (A9 _) ?_
    refine j6 Q5 ?_
    refine t6 ((d9q.bring 1).drop.bring 2) Tryd.sizeOf124 (vs := [(vs b8q)]) (cs' := [(vs b8q)]) rfl rfl (nb rfl) rfl rfl fun e3p d9r e3q => ?_
    exact hx3 _ _ (hj3 (C7 ++ [(b4.mk u9.c6 2)]) b8q d9o H _ d9p (((d9r.bring 1).bring 2).bring 2) h)
   ·replace h := h.2 b8p
    exact hx3 _ _ (hj3 C7 a0f a4M H _ a4N (((b2L.bring 2).bring 1).bring 2) h)
 ·replace h := h.2 b8d
  exact hR (b6.mk (Sl.mk none 0 0)) C7 a0f a4M H _ a4N ((I.bring 1).bring 1) h
theorem a3C (x0 : b6) (C4 : (List b4)) (x1 : Sl) {H : Hp} {K : b6 → (List b4) → Hp → Prop} (h : L3 x0 C4 x1 H K) : E8 x0 C4 x1 H K := by
 intro g0 E9 K5 a1f w I
 refine d5A ?_
 refine a3o x0 C4 x1 g0 E9 K5 a1f I (fun y0 T8 M8 M9 H' w' a7W I' hk => ⟨H', _, I', y0, T8, M8, M9, rfl, rfl, a7W, hk⟩) h
def L0 (b2e : Int) (b2f : ByteArray) (_ccr_24j1_0 : (List b4)) (_cr_1j1 : i6) (H : Hp) (K : ByteArray → Int → Hp → Prop) : Prop :=
 K b2f b2e H
def Q7 (c3D : (Option Nat)) (b0V : (List b4)) (b0O : Int) (cr_1l2 : i6) (a1R : Int) (P1 : ByteArray) (E5 : Int) (H : Hp) (n2 : (Int × ByteArray × Int) → Hp → Prop) (K : ByteArray → Int → Hp → Prop) : Prop :=
 (E5 < b0O →
 (0 : Int) ≤ E5 ∧ ∃ X9 : b4, (b0V)[(E5 : Int).toNat]? = some X9 ∧
 ∃ a5P : List (ByteArray × Int), MapH H (fun s : ByteArray => Value.string s) (fun n : Int => Value.int .i64 n) c3D a5P ∧
 (((lk X9.fname a5P).getD 0) = X9.fas →
 n2 (a1R, P1, (IntKind.wrap .i64 (E5 + 1))) H) ∧
 (¬ (((lk X9.fname a5P).getD 0) = X9.fas) →
 (((lk X9.fname a5P).getD 0) = 0 →
 L0 63 X9.fname b0V cr_1l2 H K) ∧
 (¬ (((lk X9.fname a5P).getD 0) = 0) →
 L0 64 X9.fname b0V cr_1l2 H K))) ∧
 (¬ (E5 < b0O) →
 L0 a1R P1 b0V cr_1l2 H K)
def U6 (x0 : i6) (H : Hp) (K : ByteArray → Int → Hp → Prop) : Prop :=
 a0q x0 H (fun (D4 : Int) (H_6 : Hp) =>
 (¬ (D4 = 0) →
 K ⟨#[]⟩ D4 H_6) ∧
 (D4 = 0 →
 a1s x0.L8 H_6 (fun (b2O : (Option Nat)) (a6V : ByteArray) (a6W : Int) (a6X : Hp) =>
 (¬ (a6W = 0) →
 K a6V a6W a6X) ∧
 (a6W = 0 →
 E8 (b6.mk (Sl.mk none 0 0)) [] x0.L1 a6X (fun (_y0_38 : b6) (a3Z : (List b4)) (c3E : Hp) =>
 TL ((a6W, ⟨#[]⟩, 0) : Int × ByteArray × Int) c3E fun (s : Int × ByteArray × Int) H n2 => Q7 b2O a3Z (a3Z.length : Int) x0 s.1 s.2.1 s.2.2 H n2 K)))))
theorem a6Y (x0 : i6) {w0 w : World} {ps0 : Nat → Prop} {H0 H : Hp} {K : ByteArray → Int → Hp → Prop} {R : Value → World → Prop} {E : Pan} (I : Inv w0 ps0 H0 H [] w) (hR : ∀ (r0 : ByteArray) (r1 : Int) (H' : Hp) (w' : World) (_ : Inv w0 ps0 H0 H' [] w') (_ : K r0 r1 H'), R (Value.tuple #[(Value.string r0), (vi r1)]) w') (h : U6 x0 H K) : F39 (Value.agg (d9 x0).toArray) w R E := by
 unfold U6 at h
 unfold F39
 refine J2 I (cs := (d9 x0)) rfl fun g_2 w_3 I_4 k_5 => ?_
 refine b9 (ldA Tryd.isAgg25 Tryd.sizeOf25 rfl (I_4.at1 (o := 0) (vs := (d9 x0)) (nb rfl) rfl)) ?_
 refine d6 (cap := []) (fun args w => Tryd.call27 args w) ?_
 refine i7 (Fi := []) (Fr := [bx g_2 25 (d9 x0)]) I_4 (h) (fun a9s H_6 a9t w_7 I_8 a9u k_9 a1K => ?_) (fun _ _ _ _ _ q => q.elim)
 obtain ⟨D4, rfl, rfl, h⟩ := a1K
 refine a6 (T6 _ _ _ _ _ _) ?_
 refine a5A (fun a4A => ?_) (fun a4A => ?_)
 ·replace h := h.1 a4A
  exact hR ⟨#[]⟩ D4 H_6 _ I_8.drop h
 ·replace h := h.2 a4A
  refine a6 a1Z ?_
  refine b9 (ld1 Tryd.isAgg22 (I_8.at1 (o := 0) (vs := [(vs x0.L8)]) (nb rfl) rfl)) ?_
  refine d6 (cap := []) (fun args w => Tryd.call75 args w) ?_
  refine i7 (Fi := []) (Fr := [bx g_2 25 (d9 x0)]) I_8 (h) (fun e1v a6X e1w r7 a4E e1x d2U c3F => ?_) (fun _ _ _ _ _ q => q.elim)
  obtain ⟨b2O, a6V, a6W, rfl, rfl, h⟩ := c3F
  refine a6 (i8 _ _ _ rfl) ?_
  refine a6 (i8 _ _ _ rfl) ?_
  refine a6 (i8 _ _ _ rfl) ?_
  refine a6 (T6 _ _ _ _ _ _) ?_
  refine a5A (fun a9x => ?_) (fun a9x => ?_)
  ·replace h := h.1 a9x
   exact hR a6V a6W a6X _ a4E.drop h
  ·replace h := h.2 a9x
   refine a6 (b6r ) ?_
   refine J2 a4E (cs := [(Value.slice none 0 0)]) rfl fun b8r B1 b4r e0d => ?_
   refine a6 a0R ?_
   refine b9 (ld1 Tryd.isAgg23 ((b4r.bring 1).at1 (o := 1) (vs := [(vs x0.L1)]) (nb rfl) rfl)) ?_
   refine d6 (cap := []) (fun args w => Tryd.call76 args w) ?_
   refine i7 (Fi := [bx b8r 126 [(Value.slice (Sl.mk none 0 0).a (Sl.mk none 0 0).n (Sl.mk none 0 0).c)], []]) (Fr := [bx g_2 25 (d9 x0)]) (b4r.nil.bring 1) (h b8r (Sl.mk none 0 0) ([]) (RowL.nil (e := 128) a0h a0i)) (fun e4N c3E e4O e4P d6x d2G e4Q e1y => ?_) (fun _ _ _ _ _ q => q.elim)
   obtain ⟨e3r, a3Z, a9P, b5h, rfl, rfl, a6Z, h⟩ := e1y
   have hj1 : ∀ (b2e : Int) (b2f : ByteArray) (H : Hp) (w : World) (_ : Inv w0 ps0 H0 H [bx b8r 126 [(vs a9P)], bx g_2 25 (d9 x0), b5h] w) (_ : L0 b2e b2f a3Z x0 H K), b4S (vi b2e) (Value.string b2f) w R E := by
    intro b2e b2f H w I h
    unfold b4S
    intro _
    unfold L0 at h
    exact hR b2f b2e H _ I.drop.drop.drop h
   refine u4 fun j1 hx1 => ?_
   refine a6 (A9 _) ?_
   refine a6 Q5 ?_
   refine b9 (ld1 Tryd.isAgg124 (d6x.at1 (o := 0) (vs := [(vs a9P)]) (nb rfl) rfl)) ?_
   refine a6 (a3E Tryd.underlying124 a6Z) ?_
   obtain ⟨c3G, b5i, e1z, e1A⟩ := h
   refine F7 (J := fun n l w => ∃ (s : Int × ByteArray × Int) (H : Hp) , n = b5i s ∧ l = (match s with | (a1R, P1, E5) => [(vi a1R), (Value.string P1), (vi E5)]) ∧ (match s with | (a1R, P1, E5) => Inv w0 ps0 H0 H [bx b8r 126 [(vs a9P)], bx g_2 25 (d9 x0), b5h] w) ∧ c3G s H) ⟨_, (a6W, ⟨#[]⟩, 0), c3E, rfl, rfl, (((d6x.bring 1).bring 2).bring 2), e1z⟩ ?_
   rintro e4R τ_64 w next2 ⟨⟨a1R, P1, E5⟩, H, rfl, c3H, I, e1B⟩ hn2
   dsimp only at c3H I
   simp only [List.map_cons, List.map_nil, List.cons.injEq, and_true] at c3H
   obtain ⟨e7, e9, e39⟩ := c3H
   simp only [e7, e9, e39]
   obtain ⟨n2, hm2, h⟩ : ∃ n2 : (Int × ByteArray × Int) → Hp → Prop, (∀ s' H', n2 s' H' → c3G s' H' ∧ b5i s' < b5i (a1R, P1, E5)) ∧ Q7 b2O a3Z (a3Z.length : Int) x0 a1R P1 E5 H n2 K := ⟨_, fun _ _ h => h, e1A (a1R, P1, E5) H (fun s' H' => c3G s' H' ∧ b5i s' < b5i (a1R, P1, E5)) e1B (fun _ _ a b => ⟨a, b⟩)⟩
   unfold c0k
   unfold Q7 at h
   refine a6 (D1 _ _ _ _ _ _) ?_
   refine d8 (fun c3I => ?_) (fun c3I => ?_)
   ·replace h := h.1 c3I
    obtain ⟨d6y, X9, a4q, h⟩ := h
    obtain ⟨e4S, e4T, a3u, d6z⟩ := a6Z.addr a4q
    refine a6 (b8S a3u _ _ _ _ d6y (a6Z.lt d6y a4q)) ?_
    refine b9 (ldA (vs := (i5 X9)) Tryd.isAgg128 Tryd.sizeOf128 rfl (a6Z.atW (I.bring 2) a3u a4q)) ?_
    refine F6 I Tryd.zeroValue128 (cs := [(Value.string ⟨#[]⟩), (vi 0)]) rfl fun e4U R0 a7M c2C => ?_
    refine t6 a7M Tryd.sizeOf128 (vs := (i5 X9)) (cs' := (i5 X9)) rfl rfl (nb rfl) rfl rfl fun a7S a5v e4V => ?_
    refine a6 a5m ?_
    refine b9 (ld1 Tryd.isAgg9 (a5v.at1 (o := 0) (vs := [(Value.string X9.fname)]) (nb rfl) rfl)) ?_
    obtain ⟨a5P, d9s, h⟩ := h
    refine c1e (keyS Tryd.underlying9) Tryd.underlying120 (z := 0) Tryd.zeroValue3 a5v d9s X9.fname ?_
    refine a6 b5v ?_
    refine b9 (ld1 Tryd.isAgg3 (a5v.at1 (o := 1) (vs := [(vi X9.fas)]) (nb rfl) rfl)) ?_
    refine a6 (g7 _ _ _ _ _ _) ?_
    refine d8 (fun a9Q => ?_) (fun a9Q => ?_)
    ·replace h := h.1 a9Q
     refine a6 (B2 _ _ _ _ _ _) ?_
     exact hn2 _ _ _ (hm2 _ _ h).2 ⟨(a1R, P1, (IntKind.wrap .i64 (E5 + 1))), H, rfl, rfl, (((a5v.drop.bring 2).bring 2).bring 2), (hm2 _ _ h).1⟩
    ·replace h := h.2 a9Q
     refine a6 (g7 _ _ _ _ _ _) ?_
     refine d8 (fun a9R => ?_) (fun a9R => ?_)
     ·replace h := h.1 a9R
      refine a6 a5m ?_
      refine b9 (ld1 Tryd.isAgg9 (a5v.at1 (o := 0) (vs := [(Value.string X9.fname)]) (nb rfl) rfl)) ?_
      exact hx1 _ _ (hj1 63 X9.fname H _ (((a5v.drop.bring 2).bring 2).bring 2) h)
     ·replace h := h.2 a9R
      refine a6 a5m ?_
      refine b9 (ld1 Tryd.isAgg9 (a5v.at1 (o := 0) (vs := [(Value.string X9.fname)]) (nb rfl) rfl)) ?_
      exact hx1 _ _ (hj1 64 X9.fname H _ (((a5v.drop.bring 2).bring 2).bring 2) h)
   ·replace h := h.2 c3I
    exact hx1 _ _ (hj1 a1R P1 H _ (((I.bring 2).bring 2).bring 2) h)
theorem a7h (x0 : i6) {H : Hp} {K : ByteArray → Int → Hp → Prop} (h : U6 x0 H K) : O3 x0 H K := by
 intro w I
 refine d4x ?_
 refine a6Y x0 I (fun r0 r1 H' w' I' hk => ⟨H', _, I', r0, r1, rfl, rfl, hk⟩) h
def M5 (H : Hp) (K : Bool → Hp → Prop) : Prop :=
 ∀ (s_2 : Sl) (H_8 : Hp), Hle H H_8 → SlH H_8 2 c7 s_2 [(f7.mk ⟨#[120]⟩ 0), (f7.mk ⟨#[120]⟩ 0)] → s_2.n ≤ s_2.c →
 O3 (i6.mk s_2 (Sl.mk none 0 0)) H_8 (fun (b8s : ByteArray) (b8t : Int) (a3w : Hp) =>
 K ((decide (b8s = ⟨#[120]⟩)) && (decide (b8t = 60))) a3w)
theorem a3D {w0 w : World} {ps0 : Nat → Prop} {H0 H : Hp} {K : Bool → Hp → Prop} {R : Value → World → Prop} {E : Pan} (I : Inv w0 ps0 H0 H [] w) (hR : ∀ (r0 : Bool) (H' : Hp) (w' : World) (_ : Inv w0 ps0 H0 H' [] w') (_ : K r0 H'), R (Value.bool r0) w') (h : M5 H K) : F38 w R E := by
 unfold M5 at h
 unfold F38
 refine a6 (a8J _) ?_
 refine a6 (a8J _) ?_
 refine a1A (e := 67) (c := c7) (xs := [(f7.mk ⟨#[120]⟩ 0), (f7.mk ⟨#[120]⟩ 0)]) I (c4Q _ _ _ _) rfl rfl a1v a3q (nb rfl) fun s_2 F_3 w_4 h_5 I_6 k_7 => ?_
 refine a6 (b5u _ _ _) ?_
 obtain ⟨H_8, I_9, e1C, b8u, c3q⟩ := Inv.freezeC I_6 h_5 (by decide)
 replace h := h s_2 H_8 e1C b8u c3q
 refine d6 (cap := []) (fun args w => Tryd.call39 args w) ?_
 refine i7 (Fi := []) (Fr := []) I_9 (h) (fun e4W a3w e4X o7 a9p e4Y b7m e1D => ?_) (fun _ _ _ _ _ q => q.elim)
 obtain ⟨b8s, b8t, rfl, rfl, h⟩ := e1D
 refine a6 (i8 _ _ _ rfl) ?_
 refine a6 (i8 _ _ _ rfl) ?_
 refine a6 (Q9 _ _ _ _ _) ?_
 try simp only [K6]
 refine a6 (Pu.g fun hb => by have a7 := hb; first | exact (g7 _ _ _ _ _ _) | (simp only [b5 a7]; exact (g7 _ _ _ _ _ _)) | (simp only [c8 a7, b5 a7, b5 hb, m5 a7, m4]; exact (g7 _ _ _ _ _ _))) ?_
 refine a6 (K1 _ _) ?_
 exact hR ((decide (b8s = ⟨#[120]⟩)) && (decide (b8t = 60))) a3w _ a9p h
theorem a3P {H : Hp} {K : Bool → Hp → Prop} (h : M5 H K) : S4 H K := by
 intro w I
 refine d4b ?_
 refine a3D I (fun r0 H' w' I' hk => ⟨H', _, I', r0, rfl, rfl, hk⟩) h
def R4 (a4z : Int) (b0W : (List ByteArray)) (_cr_1j1 : i6) (H : Hp) (K : Sl → Int → Hp → Prop) : Prop :=
 ∀ (a3e : Sl) (b2g : Hp), Hle H b2g → SlH b2g 1 o8 a3e b0W → a3e.n ≤ a3e.c →
 K a3e a4z b2g
def R5 (c3D : Int) (c4F : Sl) (c4G : Int) (cr_1l2 : i6) (a0g : (List ByteArray)) (X2 : Int) (H : Hp) (n2 : ((List ByteArray) × Int) → Hp → Prop) (K : Sl → Int → Hp → Prop) : Prop :=
 (X2 < c4G →
 (0 : Int) ≤ X2 ∧ (X2 : Int) < c4F.n ∧ ∃ a5z : f7, EltH H c4F X2 2 (c7 a5z) ∧
 (a0g.length + ([a5z.c6] : List ByteArray).length) * 17 ≤ 140737488355328 ∧
 n2 ((a0g ++ [a5z.c6]), (IntKind.wrap .i64 (X2 + 1))) H) ∧
 (¬ (X2 < c4G) →
 R4 c3D a0g cr_1l2 H K)
def V6 (x0 : i6) (H : Hp) (K : Sl → Int → Hp → Prop) : Prop :=
 a1F x0 1 H (fun (D4 : Sl) (a0u : Int) (H_6 : Hp) =>
 TL (([], 0) : (List ByteArray) × Int) H_6 fun (s : (List ByteArray) × Int) H n2 => R5 a0u D4 (D4.n : Int) x0 s.1 s.2 H n2 K)
theorem a7i (x0 : i6) {w0 w : World} {ps0 : Nat → Prop} {H0 H : Hp} {K : Sl → Int → Hp → Prop} {R : Value → World → Prop} {E : Pan} (I : Inv w0 ps0 H0 H [] w) (hR : ∀ (r0 : Sl) (r1 : Int) (H' : Hp) (w' : World) (_ : Inv w0 ps0 H0 H' [] w') (_ : K r0 r1 H'), R (Value.tuple #[(vs r0), (vi r1)]) w') (h : V6 x0 H K) : F45 (Value.agg (d9 x0).toArray) w R E := by
 unfold V6 at h
 unfold F45
 refine J2 I (cs := (d9 x0)) rfl fun g_2 w_3 I_4 k_5 => ?_
 refine b9 (ldA Tryd.isAgg25 Tryd.sizeOf25 rfl (I_4.at1 (o := 0) (vs := (d9 x0)) (nb rfl) rfl)) ?_
 refine d6 (cap := []) (fun args w => Tryd.call82 args w) ?_
 refine i7 (Fi := []) (Fr := [bx g_2 25 (d9 x0)]) I_4 (h) (fun a9s H_6 a9t w_7 I_8 a9u k_9 a1K => ?_) (fun _ _ _ _ _ q => q.elim)
 obtain ⟨D4, a0u, rfl, rfl, h⟩ := a1K
 refine a6 (i8 _ _ _ rfl) ?_
 refine a6 (i8 _ _ _ rfl) ?_
 have hj1 : ∀ (b0W : (List ByteArray)) (a3e : Sl) (Fs6j1 : Frag) (H : Hp) (w : World) (_ : RowL 9 1 o8 a3e b0W Fs6j1) (_ : Inv w0 ps0 H0 H [bx g_2 25 (d9 x0), Fs6j1] w) (_ : R4 a0u b0W x0 H K), b4V (vi a0u) (vs a3e) w R E := by
  intro b0W a3e Fs6j1 H w d9t I h
  unfold b4V
  intro _
  unfold R4 at h
  obtain ⟨b2g, a7I, e1E, e1F, c2K⟩ := Inv.freezeC (I.bring 1) d9t (by decide)
  replace h := h a3e b2g e1E e1F c2K
  exact hR a3e a0u b2g _ a7I.drop h
 refine u4 fun j1 hx1 => ?_
 refine a6 (a3h _ _ _) ?_
 obtain ⟨a9k, a4u, c1F, c1G⟩ := h
 refine F7 (J := fun n l w => ∃ (s : (List ByteArray) × Int) (H : Hp) (b0X : Sl) (Fs6l2 : Frag) , n = a4u s ∧ l = (match s with | (a0g, X2) => [(vs b0X), (vi X2)]) ∧ (match s with | (a0g, X2) => RowL 9 1 o8 b0X a0g Fs6l2) ∧ (match s with | (a0g, X2) => Inv w0 ps0 H0 H [bx g_2 25 (d9 x0), Fs6l2] w) ∧ a9k s H) ⟨_, ([], 0), H_6, (Sl.mk none 0 0), [], rfl, rfl, (RowL.nil a2X a2Y), (I_8.nil.bring 1), c1F⟩ ?_
 rintro d9O τ_55 w next2 ⟨⟨a0g, X2⟩, H, b0X, Fs6l2, rfl, a9l, b8v, I, c1H⟩ hn2
 dsimp only at a9l I b8v
 simp only [List.map_cons, List.map_nil, List.cons.injEq, and_true] at a9l
 obtain ⟨e6, e16⟩ := a9l
 simp only [e6, e16]
 obtain ⟨n2, hm2, h⟩ : ∃ n2 : ((List ByteArray) × Int) → Hp → Prop, (∀ s' H', n2 s' H' → a9k s' H' ∧ a4u s' < a4u (a0g, X2)) ∧ R5 a0u D4 (D4.n : Int) x0 a0g X2 H n2 K := ⟨_, fun _ _ h => h, c1G (a0g, X2) H (fun s' H' => a9k s' H' ∧ a4u s' < a4u (a0g, X2)) c1H (fun _ _ a b => ⟨a, b⟩)⟩
 unfold c0n
 unfold R5 at h
 refine a6 (D1 _ _ _ _ _ _) ?_
 refine d8 (fun a9m => ?_) (fun a9m => ?_)
 ·replace h := h.1 a9m
  obtain ⟨c3s, e1G, a5z, b5e, h⟩ := h
  obtain ⟨e4Z, e5a, e1H, b5e⟩ := b5e
  refine a6 (a2z e1H _ _ _ _ c3s e1G) ?_
  refine b9 (ldA (vs := (c7 a5z)) Tryd.isAgg67 Tryd.sizeOf67 rfl (I.atH b5e)) ?_
  refine F6 I Tryd.zeroValue67 (cs := [(Value.string ⟨#[]⟩), (vi 0)]) rfl fun e5b v7 a2r d2V => ?_
  refine t6 a2r Tryd.sizeOf67 (vs := (c7 a5z)) (cs' := (c7 a5z)) rfl rfl (nb rfl) rfl rfl fun a3r a4G d2Y => ?_
  refine a6 Y1 ?_
  refine b9 (ld1 Tryd.isAgg9 (a4G.at1 (o := 0) (vs := [(Value.string a5z.c6)]) (nb rfl) rfl)) ?_
  refine a1A (e := 9) (c := o8) (xs := [a5z.c6]) a4G (b5K _) rfl rfl a2X a2Y (nb rfl) fun e5c e5d e5e c1E b8w e1I => ?_
  obtain ⟨a3u, h⟩ := h
  refine b8T (s := b0X) (xs := a0g) (b8w.bring 3) b8v (c1E.srcO ((b8w.bring 3).bring 1)) a3u fun e1J d6A d2A e1K b1J d2K => ?_
  refine a6 (B2 _ _ _ _ _ _) ?_
  exact hn2 _ _ _ (hm2 _ _ h).2 ⟨((a0g ++ [a5z.c6]), (IntKind.wrap .i64 (X2 + 1))), H, e1J, d6A, rfl, rfl, e1K, (((b1J.bring 1).drop.bring 1).drop.bring 1), (hm2 _ _ h).1⟩
 ·replace h := h.2 a9m
  exact hx1 _ _ (hj1 a0g b0X Fs6l2 H _ b8v ((I.bring 1).bring 1) h)
theorem a7Y (x0 : i6) {H : Hp} {K : Sl → Int → Hp → Prop} (h : V6 x0 H K) : a0I x0 H K := by
 intro w I
 refine d4C ?_
 refine a7i x0 I (fun r0 r1 H' w' I' hk => ⟨H', _, I', r0, r1, rfl, rfl, hk⟩) h
def T1 (x0 : i6) (H : Hp) (K : Sl → Int → Hp → Prop) : Prop :=
 a1F x0 2 H (fun (D4 : Sl) (a0u : Int) (H_6 : Hp) =>
 K D4 a0u H_6)
theorem a5Q (x0 : i6) {w0 w : World} {ps0 : Nat → Prop} {H0 H : Hp} {K : Sl → Int → Hp → Prop} {R : Value → World → Prop} {E : Pan} (I : Inv w0 ps0 H0 H [] w) (hR : ∀ (r0 : Sl) (r1 : Int) (H' : Hp) (w' : World) (_ : Inv w0 ps0 H0 H' [] w') (_ : K r0 r1 H'), R (Value.tuple #[(vs r0), (vi r1)]) w') (h : T1 x0 H K) : F46 (Value.agg (d9 x0).toArray) w R E := by
 unfold T1 at h
 unfold F46
 refine J2 I (cs := (d9 x0)) rfl fun g_2 w_3 I_4 k_5 => ?_
 refine b9 (ldA Tryd.isAgg25 Tryd.sizeOf25 rfl (I_4.at1 (o := 0) (vs := (d9 x0)) (nb rfl) rfl)) ?_
 refine d6 (cap := []) (fun args w => Tryd.call82 args w) ?_
 refine i7 (Fi := []) (Fr := [bx g_2 25 (d9 x0)]) I_4 (h) (fun a9s H_6 a9t w_7 I_8 a9u k_9 a1K => ?_) (fun _ _ _ _ _ q => q.elim)
 obtain ⟨D4, a0u, rfl, rfl, h⟩ := a1K
 refine a6 (i8 _ _ _ rfl) ?_
 refine a6 (i8 _ _ _ rfl) ?_
 exact hR D4 a0u H_6 _ I_8.drop h
theorem a7a (x0 : i6) {H : Hp} {K : Sl → Int → Hp → Prop} (h : T1 x0 H K) : Z1 x0 H K := by
 intro w I
 refine d4E ?_
 refine a5Q x0 I (fun r0 r1 H' w' I' hk => ⟨H', _, I', r0, r1, rfl, rfl, hk⟩) h
def J1 (x0 : i6) (x1 : Int) (x2 : Int) (H : Hp) (K : Bool → Hp → Prop) : Prop :=
 S4 H (fun (D4 : Bool) (H_6 : Hp) =>
 ((!D4) = true →
 K false H_6) ∧
 ((!D4) = false →
 O3 x0 H_6 (fun (_r0_23 : ByteArray) (a6V : Int) (a6X : Hp) =>
 (((((!decide (a6V = 0)) || (decide (x1 < 0))) || (decide (x2 < x1))) || (decide ((x0.L1.n : Int) < x2))) = true →
 K true a6X) ∧
 (((((!decide (a6V = 0)) || (decide (x1 < 0))) || (decide (x2 < x1))) || (decide ((x0.L1.n : Int) < x2))) = false →
 a0I x0 a6X (fun (b8x : Sl) (_r1_32 : Int) (d6B : Hp) =>
 Z1 x0 d6B (fun (b8y : Sl) (_r1_41 : Int) (a2p : Hp) =>
 (0 : Int) ≤ x1 ∧ (x1 : Int) ≤ x2 ∧ (x2 : Int) ≤ x0.L1.c ∧
 O3 (i6.mk x0.L8 (x0.L1.cut (x1 : Int).toNat (x2 : Int).toNat x0.L1.c 6)) a2p (fun (_r0_55 : ByteArray) (b8z : Int) (a9E : Hp) =>
 K ((decide ((IntKind.wrap .i64 ((b8x.n : Int) + (b8y.n : Int))) = (x0.L8.n : Int))) && (decide (b8z = 0))) a9E)))))))
theorem a2s (x0 : i6) (x1 : Int) (x2 : Int) {w0 w : World} {ps0 : Nat → Prop} {H0 H : Hp} {K : Bool → Hp → Prop} {R : Value → World → Prop} {E : Pan} (I : Inv w0 ps0 H0 H [] w) (hR : ∀ (r0 : Bool) (H' : Hp) (w' : World) (_ : Inv w0 ps0 H0 H' [] w') (_ : K r0 H'), R (Value.bool r0) w') (h : J1 x0 x1 x2 H K) : F13 (Value.agg (d9 x0).toArray) (vi x1) (vi x2) w R E := by
 unfold J1 at h
 unfold F13
 refine J2 I (cs := (d9 x0)) rfl fun g_2 w_3 I_4 k_5 => ?_
 refine d6 (cap := []) (fun args w => Tryd.call38 args w) ?_
 refine i7 (Fi := []) (Fr := [bx g_2 25 (d9 x0)]) I_4 (h) (fun a9s H_6 a9t w_7 I_8 a9u k_9 a1K => ?_) (fun _ _ _ _ _ q => q.elim)
 obtain ⟨D4, rfl, rfl, h⟩ := a1K
 refine a6 (E0 _) ?_
 refine p5 (fun a9Q => ?_) (fun a9Q => ?_)
 ·replace h := h.1 a9Q
  exact hR false H_6 _ I_8.drop h
 ·replace h := h.2 a9Q
  refine b9 (ldA Tryd.isAgg25 Tryd.sizeOf25 rfl (I_8.at1 (o := 0) (vs := (d9 x0)) (nb rfl) rfl)) ?_
  refine d6 (cap := []) (fun args w => Tryd.call39 args w) ?_
  refine i7 (Fi := []) (Fr := [bx g_2 25 (d9 x0)]) I_8 (h) (fun e1v a6X e1w r7 a4E e1x d2U c3F => ?_) (fun _ _ _ _ _ q => q.elim)
  obtain ⟨b2O, a6V, rfl, rfl, h⟩ := c3F
  refine a6 (i8 _ _ _ rfl) ?_
  refine a6 (i8 _ _ _ rfl) ?_
  refine a6 (T6 _ _ _ _ _ _) ?_
  try simp only [K6]
  refine a6 (Pu.g fun hb => by have a7 := hb; first | exact (D1 _ _ _ _ _ _) | (simp only [b5 a7]; exact (D1 _ _ _ _ _ _)) | (simp only [c8 a7, b5 a7, b5 hb, E6 a7, m4]; exact (D1 _ _ _ _ _ _))) ?_
  refine a6 (a0s _ _) ?_
  try simp only [K6]
  try simp only [K6, a9Y, b2X, b2Z, a9Z, b3c, b2Y, b3a, b3b, b3d]
  refine a6 (Pu.g fun hb => by have a7 := hb; first | exact (D1 _ _ _ _ _ _) | (simp only [b5 a7]; exact (D1 _ _ _ _ _ _)) | (simp only [c8 a7, b5 a7, b5 hb, E6 a7, m4]; exact (D1 _ _ _ _ _ _))) ?_
  refine a6 (a0s _ _) ?_
  try simp only [K6]
  refine a6 (Pu.g fun hb => by have a7 := hb; first | exact a0R | (simp only [c8 a7, b5 a7, b5 hb, a5B a7]; exact a0R) | (simp only [c8 a7, b5 a7, b5 hb, E6 a7, m4]; exact a0R)) ?_
  refine b9 (Ld.g fun hb => by have a7 := hb; first | exact (ld1 Tryd.isAgg23 (a4E.at1 (o := 1) (vs := [(vs x0.L1)]) (nb rfl) rfl)) | (simp only [b5 a7]; exact (ld1 Tryd.isAgg23 (a4E.at1 (o := 1) (vs := [(vs x0.L1)]) (nb rfl) rfl))) | (simp only [c8 a7, b5 a7, b5 hb, E6 a7, m4]; exact (ld1 Tryd.isAgg23 (a4E.at1 (o := 1) (vs := [(vs x0.L1)]) (nb rfl) rfl)))) ?_
  refine a6 (Pu.g fun hb => by have a7 := hb; first | exact (T2 _ _ _) | (simp only [b5 a7]; exact (T2 _ _ _)) | (simp only [c8 a7, b5 a7, b5 hb, E6 a7, m4]; exact (T2 _ _ _))) ?_
  refine a6 (Pu.g fun hb => by have a7 := hb; first | exact (a1p _ _ _ _ _ _) | (simp only [b5 a7]; exact (a1p _ _ _ _ _ _)) | (simp only [c8 a7, b5 a7, b5 hb, E6 a7, m4]; exact (a1p _ _ _ _ _ _))) ?_
  refine a6 (a0s _ _) ?_
  refine p5 (fun a9R => ?_) (fun a9R => ?_)
  ·replace h := h.1 a9R
   exact hR true a6X _ a4E.drop h
  ·replace h := h.2 a9R
   refine b9 (ldA Tryd.isAgg25 Tryd.sizeOf25 rfl (a4E.at1 (o := 0) (vs := (d9 x0)) (nb rfl) rfl)) ?_
   refine d6 (cap := []) (fun args w => Tryd.call45 args w) ?_
   refine i7 (Fi := []) (Fr := [bx g_2 25 (d9 x0)]) a4E (h) (fun e5f d6B e5g b1i d6C e5h e5i e1L => ?_) (fun _ _ _ _ _ q => q.elim)
   obtain ⟨b8x, e3s, rfl, rfl, h⟩ := e1L
   refine a6 (i8 _ _ _ rfl) ?_
   refine a6 (i8 _ _ _ rfl) ?_
   refine b9 (ldA Tryd.isAgg25 Tryd.sizeOf25 rfl (d6C.at1 (o := 0) (vs := (d9 x0)) (nb rfl) rfl)) ?_
   refine d6 (cap := []) (fun args w => Tryd.call46 args w) ?_
   refine i7 (Fi := []) (Fr := [bx g_2 25 (d9 x0)]) d6C (h) (fun e5j a2p d6A D9 b8w e5k e1I e1M => ?_) (fun _ _ _ _ _ q => q.elim)
   obtain ⟨b8y, e3t, rfl, rfl, h⟩ := e1M
   refine a6 (i8 _ _ _ rfl) ?_
   refine a6 (i8 _ _ _ rfl) ?_
   refine a1z b8w fun M6 c3J => ?_
   refine j6 a1Z ?_
   refine j6 a0R ?_
   refine G1 (ld1 Tryd.isAgg22 (c3J.at1 (o := 0) (vs := [(vs x0.L8)]) (nb rfl) rfl)) ?_
   refine G1 (ld1 Tryd.isAgg23 (c3J.at1 (o := 1) (vs := [(vs x0.L1)]) (nb rfl) rfl)) ?_
   obtain ⟨e1N, d6z, e1O, h⟩ := h
   refine j6 (b8O Tryd.underlying23 Tryd.sizeOf88 x0.L1 e1N d6z e1O) ?_
   refine j6 (b2A _ _ _ _ _ _) ?_
   refine d6 (cap := []) (fun args w => Tryd.call39 args w) ?_
   refine i7 (Fi := []) (Fr := [bx g_2 25 (d9 x0)]) c3J (h) (fun e0F a9E e0G R0 a7M e0H c2C c2D => ?_) (fun _ _ _ _ _ q => q.elim)
   obtain ⟨b2K, b8z, rfl, rfl, h⟩ := c2D
   refine j6 (i8 _ _ _ rfl) ?_
   refine j6 (i8 _ _ _ rfl) ?_
   refine a6 (b8R _ _ _) ?_
   refine a6 (a3h _ _ _) ?_
   refine a6 (B2 _ _ _ _ _ _) ?_
   refine a6 a1Z ?_
   refine b9 (ld1 Tryd.isAgg22 (a7M.at1 (o := 0) (vs := [(vs x0.L8)]) (nb rfl) rfl)) ?_
   refine a6 (a3h _ _ _) ?_
   refine a6 (g7 _ _ _ _ _ _) ?_
   try simp only [K6]
   refine a6 (Pu.g fun hb => by have a7 := hb; first | exact (g7 _ _ _ _ _ _) | (simp only [b5 a7]; exact (g7 _ _ _ _ _ _)) | (simp only [c8 a7, b5 a7, b5 hb, m5 a7, m4]; exact (g7 _ _ _ _ _ _))) ?_
   refine a6 (K1 _ _) ?_
   exact hR ((decide ((IntKind.wrap .i64 ((b8x.n : Int) + (b8y.n : Int))) = (x0.L8.n : Int))) && (decide (b8z = 0))) a9E _ a7M.drop h
theorem a2u (x0 : i6) (x1 : Int) (x2 : Int) {H : Hp} {K : Bool → Hp → Prop} (h : J1 x0 x1 x2 H K) : N8 x0 x1 x2 H K := by
 intro w I
 refine d3X ?_
 refine a2s x0 x1 x2 I (fun r0 H' w' I' hk => ⟨H', _, I', r0, rfl, rfl, hk⟩) h
def V7 (x0 : f7) (H : Hp) (K : Int → Hp → Prop) : Prop :=
 (0 < x0.L9 →
 K 2 H) ∧
 (¬ (0 < x0.L9) →
 K 1 H)
theorem a7j (x0 : f7) {w0 w : World} {ps0 : Nat → Prop} {H0 H : Hp} {K : Int → Hp → Prop} {R : Value → World → Prop} {E : Pan} (I : Inv w0 ps0 H0 H [] w) (hR : ∀ (r0 : Int) (H' : Hp) (w' : World) (_ : Inv w0 ps0 H0 H' [] w') (_ : K r0 H'), R (vi r0) w') (h : V7 x0 H K) : b7M (Value.agg (c7 x0).toArray) w R E := by
 unfold V7 at h
 unfold b7M
 refine J2 I (cs := (c7 x0)) rfl fun g_2 w_3 I_4 k_5 => ?_
 refine a6 a0S ?_
 refine b9 (ld1 Tryd.isAgg3 (I_4.at1 (o := 1) (vs := [(vi x0.L9)]) (nb rfl) rfl)) ?_
 refine a6 (a1p _ _ _ _ _ _) ?_
 refine d8 (fun c_6 => ?_) (fun c_6 => ?_)
 ·replace h := h.1 c_6
  exact hR 2 H _ I_4.drop h
 ·replace h := h.2 c_6
  exact hR 1 H _ I_4.drop h
theorem a7Z (x0 : f7) {H : Hp} {K : Int → Hp → Prop} (h : V7 x0 H K) : a3k x0 H K := by
 intro w I
 refine c6X ?_
 refine a7j x0 I (fun r0 H' w' I' hk => ⟨H', _, I', r0, rfl, rfl, hk⟩) h
end Go.Proofs.YthldnpmfelniiaaDoor
