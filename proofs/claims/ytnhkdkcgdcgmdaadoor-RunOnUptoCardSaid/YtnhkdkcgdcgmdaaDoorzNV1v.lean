/- Typed formulas of the program's functions that few laws need; printed by lift.py off the code. -/
import Derived.Test.YtnhkdkcgdcgmdaaDoorzNV1
import Derived.Test.YtnhkdkcgdcgmdaaDoorzNG1v
namespace Go.Proofs.YtnhkdkcgdcgmdaaDoor
open Go.RowKit
set_option maxRecDepth 100000
set_option maxHeartbeats 2000000
variable {w0 w : World} {ps0 : Nat → Prop} {H0 H : Hp} {R : RT} {E : Pan}
def T2 (e1b : Sl) (b9v : Int) (a6k : l7) (P4 : Int) (G8 : (List b8)) (H : Hp) (n2 : (Int × (List b8)) → Hp → Prop) (K : f8 → (List b8) → Hp → Prop) : Prop :=
 (P4 < b9v →
 (0 : Int) ≤ P4 ∧ (P4 : Int) < e1b.n ∧ ∃ b5d : l7, EltH H e1b P4 4 (d9 b5d) ∧
 Q7 (f8.mk (Sl.mk none 0 0)) G8 b5d H (fun (g3h : f8) (c1f : (List b8)) (d9w : Hp) =>
 n2 ((IntKind.wrap .i64 (P4 + 1)), c1f) d9w)) ∧
 (¬ (P4 < b9v) →
 K (f8.mk (Sl.mk none 0 0)) G8 H)
def E5 (a0A : (List b8)) (D2 : l7) (H : Hp) (K : f8 → (List b8) → Hp → Prop) : Prop :=
 TL ((0, a0A) : Int × (List b8)) H fun (s : Int × (List b8)) H n2 => T2 D2.A5 (D2.A5.n : Int) D2 s.1 s.2 H n2 K
def W6 (x0 : f8) (M3 : (List b8)) (x1 : l7) (H : Hp) (K : f8 → (List b8) → Hp → Prop) : Prop :=
 (x1.b9 = 2 →
 (M3.length + ([(b8.mk x1.d6 1)] : List b8).length) * 25 ≤ 140737488355328 ∧
 E5 (M3 ++ [(b8.mk x1.d6 1)]) x1 H K) ∧
 (¬ (x1.b9 = 2) →
 (x1.b9 = 4 →
 (M3.length + ([(b8.mk x1.d6 2)] : List b8).length) * 25 ≤ 140737488355328 ∧
 E5 (M3 ++ [(b8.mk x1.d6 2)]) x1 H K) ∧
 (¬ (x1.b9 = 4) →
 E5 M3 x1 H K))
theorem a7I (x0 : f8) (M3 : (List b8)) (x1 : l7) (g0 : Nat) (P9 : Sl) (T9 : Frag) (a4u : RowL 117 2 p6 P9 M3 T9) {K : f8 → (List b8) → Hp → Prop} (I : Inv w0 ps0 H0 H [bx g0 114 [(vs P9)], T9] w) (hR : ∀ (y0 : f8) (a1G : (List b8)) (X6 : Sl) (X7 : Frag) (H' : Hp) (w' : World) (_ : RowL 117 2 p6 X6 a1G X7) (_ : Inv w0 ps0 H0 H' [bx g0 114 [(vs X6)], X7] w') (_ : K y0 a1G H'), R (Value.tuple #[]) w') (h : W6 x0 M3 x1 H K) : F94 (Value.pointer (some ⟨g0, 0, none⟩)) (Value.agg (d9 x1).toArray) w R E := by
 unfold W6 at h
 unfold F94
 refine O4 I (cs := (d9 x1)) rfl fun g_2 w_3 I_4 k_5 => ?_
 have hj1 : ∀ (a0A : (List b8)) (a3v : Sl) (a3w : Frag) (H : Hp) (w : World) (_ : RowL 117 2 p6 a3v a0A a3w) (_ : Inv w0 ps0 H0 H [bx g0 114 [(vs a3v)], bx g_2 24 (d9 x1), a3w] w) (_ : E5 a0A x1 H K), c6M (Value.pointer (some ⟨g0, 0, none⟩)) (Value.pointer (some ⟨g_2, 0, none⟩)) w R E := by
  intro a0A a3v a3w H w b7I I h
  unfold c6M
  intro _
  unfold E5 at h
  refine a7 a4b ?_
  refine b6 (ld1 Tryd.isAgg22 ((I.bring 1).at1 (o := 3) (vs := [(vs x1.A5)]) (nb rfl) rfl)) ?_
  refine a7 (a2R _ _ _) ?_
  obtain ⟨d9x, c6O, g7e, g7f⟩ := h
  refine H7 (J := fun n l w => ∃ (s : Int × (List b8)) (H : Hp) (a0B : Sl) (a0C : Frag) , n = c6O s ∧ l = (match s with | (P4, G8) => [(vi P4)]) ∧ (match s with | (P4, G8) => RowL 117 2 p6 a0B G8 a0C) ∧ (match s with | (P4, G8) => Inv w0 ps0 H0 H [bx g0 114 [(vs a0B)], bx g_2 24 (d9 x1), a0C] w) ∧ d9x s H) ⟨_, (0, a0A), H, a3v, a3w, rfl, rfl, b7I, (((I.bring 2).bring 2).bring 2), g7e⟩ ?_
  rintro h1c τ_88 w next2 ⟨⟨P4, G8⟩, H, a0B, a0C, rfl, d9y, a5x, I, g7g⟩ hn2
  dsimp only at d9y I a5x
  simp only [List.map_cons, List.map_nil, List.cons.injEq, and_true] at d9y
  have e39 := d9y
  simp only [e39]
  obtain ⟨n2, hm2, h⟩ : ∃ n2 : (Int × (List b8)) → Hp → Prop, (∀ s' H', n2 s' H' → d9x s' H' ∧ c6O s' < c6O (P4, G8)) ∧ T2 x1.A5 (x1.A5.n : Int) x1 P4 G8 H n2 K := ⟨_, fun _ _ h => h, g7f (P4, G8) H (fun s' H' => d9x s' H' ∧ c6O s' < c6O (P4, G8)) g7g (fun _ _ a b => ⟨a, b⟩)⟩
  unfold d4M
  unfold T2 at h
  refine a7 (A7 _ _ _ _ _ _) ?_
  refine i5 (fun b7d => ?_) (fun b7d => ?_)
  ·replace h := h.1 b7d
   obtain ⟨g7h, d6F, b5d, d9z, h⟩ := h
   obtain ⟨h1d, h1e, g7i, d9z⟩ := d9z
   refine a7 (a1C g7i _ _ _ _ g7h d6F) ?_
   refine b6 (ldA (vs := (d9 b5d)) Tryd.isAgg24 Tryd.sizeOf24 rfl (I.atH d9z)) ?_
   refine C2 I Tryd.zeroValue24 (cs := [(vi 0), (vi 0), (eS), (nS)]) rfl fun g7j b2I b4v c9G => ?_
   refine o9 b4v Tryd.sizeOf24 (vs := (d9 b5d)) (cs' := (d9 b5d)) rfl rfl (nb rfl) rfl rfl fun M2 c3Y g4Y => ?_
   refine b6 (ldA Tryd.isAgg24 Tryd.sizeOf24 rfl (c3Y.at1 (o := 0) (vs := (d9 b5d)) (nb rfl) rfl)) ?_
   refine d5 (cap := []) (fun args w => Tryd.call94 args w) ?_
   refine m8 (Fi := [bx g0 114 [(vs a0B)], a0C]) (Fr := [bx g7j 24 (d9 b5d), bx g_2 24 (d9 x1)]) ((c3Y.bring 3).bring 2) (h g0 a0B a0C a5x) (fun h1f d9w h1g P6 b7F h1h h1i g7k => ?_) (fun _ _ _ _ _ q => q.elim)
   obtain ⟨g3h, c1f, d9A, d9B, rfl, rfl, d9C, h⟩ := g7k
   refine a7 (C6 _ _ _ _ _ _) ?_
   exact hn2 _ _ _ (hm2 _ _ h).2 ⟨((IntKind.wrap .i64 (P4 + 1)), c1f), d9w, d9A, d9B, rfl, rfl, d9C, ((((b7F.bring 2).drop.bring 1).bring 2).bring 2), (hm2 _ _ h).1⟩
  ·replace h := h.2 b7d
   exact hR (f8.mk (Sl.mk none 0 0)) G8 a0B a0C H _ a5x (((I.bring 1).drop.bring 1).bring 1) h
 refine u7 fun j1 hx1 => ?_
 refine a7 X1 ?_
 refine b6 (ld1 Tryd.isAgg3 (I_4.at1 (o := 0) (vs := [(vi x1.b9)]) (nb rfl) rfl)) ?_
 refine a7 (j8 _ _ _ _ _ _) ?_
 refine i5 (fun d1p => ?_) (fun d1p => ?_)
 ·replace h := h.1 d1p
  refine V2 I_4 fun w_6 I_7 => ?_
  refine i8 (p7 _) ?_
  refine i8 a0E ?_
  refine i8 a4e ?_
  refine r5 (ld1 Tryd.isAgg112 ((I_7.bring 1).at1 (o := 0) (vs := [(vs P9)]) (nb rfl) rfl)) ?_
  refine r5 (ld1 Tryd.isAgg9 (I_7.at1 (o := 2) (vs := [(Value.string x1.d6)]) (nb rfl) rfl)) ?_
  refine i8 (a4f _ _) ?_
  refine a1Q (e := 117) (c := p6) (xs := [(b8.mk x1.d6 1)]) I_7 (b1Y _ _) rfl rfl a3A a3B (nb rfl) fun s_9 h1j a1e b5a b3h d0U => ?_
  refine ⟨(d0U _ (I_7.bring 1).lt1), ?_⟩
  obtain ⟨g7l, h⟩ := h
  refine b5q (s := P9) (xs := M3) (b3h.bring 3) a4u (b5a.srcO ((b3h.bring 3).bring 1)) g7l fun d9D f9i a3F d9t a8W c0u => ?_
  refine i8 (p7 _) ?_
  refine i8 a0E ?_
  refine o9 ((a8W.bring 1).drop.bring 2) Tryd.sizeOf112 (vs := [(vs d9D)]) (cs' := [(vs d9D)]) rfl rfl (nb rfl) rfl rfl fun s7 g7m h1k => ?_
  exact hx1 _ _ (hj1 (M3 ++ [(b8.mk x1.d6 1)]) d9D f9i H _ d9t (((g7m.bring 1).bring 2).bring 2) h)
 ·replace h := h.2 d1p
  refine a7 (j8 _ _ _ _ _ _) ?_
  refine i5 (fun d1q => ?_) (fun d1q => ?_)
  ·replace h := h.1 d1q
   refine V2 I_4 fun b4O a9O => ?_
   refine i8 (p7 _) ?_
   refine i8 a0E ?_
   refine i8 a4e ?_
   refine r5 (ld1 Tryd.isAgg112 ((a9O.bring 1).at1 (o := 0) (vs := [(vs P9)]) (nb rfl) rfl)) ?_
   refine r5 (ld1 Tryd.isAgg9 (a9O.at1 (o := 2) (vs := [(Value.string x1.d6)]) (nb rfl) rfl)) ?_
   refine i8 (a4f _ _) ?_
   refine a1Q (e := 117) (c := p6) (xs := [(b8.mk x1.d6 2)]) a9O (b1Y _ _) rfl rfl a3A a3B (nb rfl) fun f1K h1l a0L g7n g0R g7o => ?_
   refine ⟨(g7o _ (a9O.bring 1).lt1), ?_⟩
   obtain ⟨c2h, h⟩ := h
   refine b5q (s := P9) (xs := M3) (g0R.bring 3) a4u (g7n.srcO ((g0R.bring 3).bring 1)) c2h fun d1r g3i P8 g3j g3k g7V => ?_
   refine i8 (p7 _) ?_
   refine i8 a0E ?_
   refine o9 ((g3k.bring 1).drop.bring 2) Tryd.sizeOf112 (vs := [(vs d1r)]) (cs' := [(vs d1r)]) rfl rfl (nb rfl) rfl rfl fun g7W g3l g7X => ?_
   exact hx1 _ _ (hj1 (M3 ++ [(b8.mk x1.d6 2)]) d1r g3i H _ g3j (((g3l.bring 1).bring 2).bring 2) h)
  ·replace h := h.2 d1q
   exact hx1 _ _ (hj1 M3 P9 T9 H _ a4u (((I_4.bring 2).bring 1).bring 2) h)
theorem a8j (x0 : f8) (M3 : (List b8)) (x1 : l7) {H : Hp} {K : f8 → (List b8) → Hp → Prop} (h : W6 x0 M3 x1 H K) : Q7 x0 M3 x1 H K := by
 intro g0 P9 T9 a4u w I
 refine g0Q ?_
 refine a7I x0 M3 x1 g0 P9 T9 a4u I (fun y0 a1G X6 X7 H' w' b5e I' hk => ⟨H', _, I', y0, a1G, X6, X7, rfl, rfl, b5e, hk⟩) h
def T3 (e1c : Sl) (e1d : Int) (a6k : u1) (a2F : Int) (G8 : (List b8)) (H : Hp) (n2 : (Int × (List b8)) → Hp → Prop) (K : f8 → (List b8) → Hp → Prop) : Prop :=
 (a2F < e1d →
 (0 : Int) ≤ a2F ∧ (a2F : Int) < e1c.n ∧ ∃ b5f : u1, EltH H e1c a2F 4 (i7 b5f) ∧
 V9 (f8.mk (Sl.mk none 0 0)) G8 b5f H (fun (g3m : f8) (c1g : (List b8)) (a4F : Hp) =>
 n2 ((IntKind.wrap .i64 (a2F + 1)), c1g) a4F)) ∧
 (¬ (a2F < e1d) →
 K (f8.mk (Sl.mk none 0 0)) G8 H)
def T4 (D2 : u1) (a0A : (List b8)) (H : Hp) (K : f8 → (List b8) → Hp → Prop) : Prop :=
 TL ((0, a0A) : Int × (List b8)) H fun (s : Int × (List b8)) H n2 => T3 D2.u5 (D2.u5.n : Int) D2 s.1 s.2 H n2 K
def T5 (g0S : Sl) (e1e : Int) (a9N : u1) (a2G : Int) (a0V : (List b8)) (H : Hp) (n3 : (Int × (List b8)) → Hp → Prop) (K : f8 → (List b8) → Hp → Prop) : Prop :=
 (a2G < e1e →
 (0 : Int) ≤ a2G ∧ (a2G : Int) < g0S.n ∧ ∃ b0v : l7, EltH H g0S a2G 4 (d9 b0v) ∧
 Q7 (f8.mk (Sl.mk none 0 0)) a0V b0v H (fun (g0T : f8) (b7J : (List b8)) (d1s : Hp) =>
 n3 ((IntKind.wrap .i64 (a2G + 1)), b7J) d1s)) ∧
 (¬ (a2G < e1e) →
 T4 a9N a0V H K)
def W7 (x0 : f8) (M3 : (List b8)) (x1 : u1) (H : Hp) (K : f8 → (List b8) → Hp → Prop) : Prop :=
 TL ((0, M3) : Int × (List b8)) H fun (s : Int × (List b8)) H n3 => T5 x1.j7 (x1.j7.n : Int) x1 s.1 s.2 H n3 K
theorem a7J (x0 : f8) (M3 : (List b8)) (x1 : u1) (g0 : Nat) (P9 : Sl) (T9 : Frag) (a4u : RowL 117 2 p6 P9 M3 T9) {K : f8 → (List b8) → Hp → Prop} (I : Inv w0 ps0 H0 H [bx g0 114 [(vs P9)], T9] w) (hR : ∀ (y0 : f8) (a1G : (List b8)) (X6 : Sl) (X7 : Frag) (H' : Hp) (w' : World) (_ : RowL 117 2 p6 X6 a1G X7) (_ : Inv w0 ps0 H0 H' [bx g0 114 [(vs X6)], X7] w') (_ : K y0 a1G H'), R (Value.tuple #[]) w') (h : W7 x0 M3 x1 H K) : F93 (Value.pointer (some ⟨g0, 0, none⟩)) (Value.agg (i7 x1).toArray) w R E := by
 unfold W7 at h
 unfold F93
 refine O4 I (cs := (i7 x1)) rfl fun g_2 w_3 I_4 k_5 => ?_
 have hj1 : ∀ (a0A : (List b8)) (a3v : Sl) (a3w : Frag) (H : Hp) (w : World) (_ : RowL 117 2 p6 a3v a0A a3w) (_ : Inv w0 ps0 H0 H [bx g_2 27 (i7 x1), bx g0 114 [(vs a3v)], a3w] w) (_ : T4 x1 a0A H K), c6K (Value.pointer (some ⟨g0, 0, none⟩)) (Value.pointer (some ⟨g_2, 0, none⟩)) w R E := by
  intro a0A a3v a3w H w b7I I h
  unfold c6K
  intro _
  unfold T4 at h
  refine a7 a2b ?_
  refine b6 (ld1 Tryd.isAgg25 (I.at1 (o := 3) (vs := [(vs x1.u5)]) (nb rfl) rfl)) ?_
  refine a7 (a7e _ _ _) ?_
  obtain ⟨d9E, c6P, g7p, g7q⟩ := h
  refine H7 (J := fun n l w => ∃ (s : Int × (List b8)) (H : Hp) (a0B : Sl) (a0C : Frag) , n = c6P s ∧ l = (match s with | (a2F, G8) => [(vi a2F)]) ∧ (match s with | (a2F, G8) => RowL 117 2 p6 a0B G8 a0C) ∧ (match s with | (a2F, G8) => Inv w0 ps0 H0 H [bx g_2 27 (i7 x1), bx g0 114 [(vs a0B)], a0C] w) ∧ d9E s H) ⟨_, (0, a0A), H, a3v, a3w, rfl, rfl, b7I, (((I.bring 2).bring 2).bring 2), g7p⟩ ?_
  rintro h1m τ_93 w next2 ⟨⟨a2F, G8⟩, H, a0B, a0C, rfl, d9F, a5x, I, g7r⟩ hn2
  dsimp only at d9F I a5x
  simp only [List.map_cons, List.map_nil, List.cons.injEq, and_true] at d9F
  have e22 := d9F
  simp only [e22]
  obtain ⟨n2, hm2, h⟩ : ∃ n2 : (Int × (List b8)) → Hp → Prop, (∀ s' H', n2 s' H' → d9E s' H' ∧ c6P s' < c6P (a2F, G8)) ∧ T3 x1.u5 (x1.u5.n : Int) x1 a2F G8 H n2 K := ⟨_, fun _ _ h => h, g7q (a2F, G8) H (fun s' H' => d9E s' H' ∧ c6P s' < c6P (a2F, G8)) g7r (fun _ _ a b => ⟨a, b⟩)⟩
  unfold d4K
  unfold T3 at h
  refine a7 (A7 _ _ _ _ _ _) ?_
  refine i5 (fun a8T => ?_) (fun a8T => ?_)
  ·replace h := h.1 a8T
   obtain ⟨g7s, g7t, b5f, d9G, h⟩ := h
   obtain ⟨h1n, h1o, g7u, d9G⟩ := d9G
   refine a7 (a2V g7u _ _ _ _ g7s g7t) ?_
   refine b6 (ldA (vs := (i7 b5f)) Tryd.isAgg27 Tryd.sizeOf27 rfl (I.atH d9G)) ?_
   refine C2 I Tryd.zeroValue27 (cs := [(vi 0), (vi 0), (nS), (nS)]) rfl fun g7v P5 d9n h1p => ?_
   refine o9 d9n Tryd.sizeOf27 (vs := (i7 b5f)) (cs' := (i7 b5f)) rfl rfl (nb rfl) rfl rfl fun d8O g0U h1q => ?_
   refine b6 (ldA Tryd.isAgg27 Tryd.sizeOf27 rfl (g0U.at1 (o := 0) (vs := (i7 b5f)) (nb rfl) rfl)) ?_
   refine d5 (cap := []) (fun args w => Tryd.call93 args w) ?_
   refine m8 (Fi := [bx g0 114 [(vs a0B)], a0C]) (Fr := [bx g7v 27 (i7 b5f), bx g_2 27 (i7 x1)]) ((g0U.bring 3).bring 3) (h g0 a0B a0C a5x) (fun c9t a4F g5a b2p c0p d5L d5M d5N => ?_) (fun _ _ _ _ _ q => q.elim)
   obtain ⟨g3m, c1g, d9H, d9I, rfl, rfl, d9J, h⟩ := d5N
   refine a7 (C6 _ _ _ _ _ _) ?_
   exact hn2 _ _ _ (hm2 _ _ h).2 ⟨((IntKind.wrap .i64 (a2F + 1)), c1g), a4F, d9H, d9I, rfl, rfl, d9J, ((((c0p.bring 2).drop.bring 1).bring 1).bring 2), (hm2 _ _ h).1⟩
  ·replace h := h.2 a8T
   exact hR (f8.mk (Sl.mk none 0 0)) G8 a0B a0C H _ a5x ((I.drop.bring 1).bring 1) h
 refine u7 fun j1 hx1 => ?_
 refine a7 a5I ?_
 refine b6 (ld1 Tryd.isAgg22 (I_4.at1 (o := 2) (vs := [(vs x1.j7)]) (nb rfl) rfl)) ?_
 refine a7 (a2R _ _ _) ?_
 obtain ⟨d1t, b9w, g3n, g3o⟩ := h
 refine H7 (J := fun n l w => ∃ (s : Int × (List b8)) (H : Hp) (a6P : Sl) (a6Q : Frag) , n = b9w s ∧ l = (match s with | (a2G, a0V) => [(vi a2G)]) ∧ (match s with | (a2G, a0V) => RowL 117 2 p6 a6P a0V a6Q) ∧ (match s with | (a2G, a0V) => Inv w0 ps0 H0 H [bx g_2 27 (i7 x1), bx g0 114 [(vs a6P)], a6Q] w) ∧ d1t s H) ⟨_, (0, M3), H, P9, T9, rfl, rfl, a4u, (((I_4.bring 2).bring 2).bring 2), g3n⟩ ?_
 rintro g7Y τ_135 w next3 ⟨⟨a2G, a0V⟩, H, a6P, a6Q, rfl, d1u, b7K, I, g3p⟩ hn3
 dsimp only at d1u I b7K
 simp only [List.map_cons, List.map_nil, List.cons.injEq, and_true] at d1u
 have e11 := d1u
 simp only [e11]
 obtain ⟨n3, hm3, h⟩ : ∃ n3 : (Int × (List b8)) → Hp → Prop, (∀ s' H', n3 s' H' → d1t s' H' ∧ b9w s' < b9w (a2G, a0V)) ∧ T5 x1.j7 (x1.j7.n : Int) x1 a2G a0V H n3 K := ⟨_, fun _ _ h => h, g3o (a2G, a0V) H (fun s' H' => d1t s' H' ∧ b9w s' < b9w (a2G, a0V)) g3p (fun _ _ a b => ⟨a, b⟩)⟩
 unfold d4L
 unfold T5 at h
 refine a7 (A7 _ _ _ _ _ _) ?_
 refine i5 (fun d1v => ?_) (fun d1v => ?_)
 ·replace h := h.1 d1v
  obtain ⟨e0N, g3q, b0v, b9p, h⟩ := h
  obtain ⟨g7Z, g8a, g3r, b9p⟩ := b9p
  refine a7 (a1C g3r _ _ _ _ e0N g3q) ?_
  refine b6 (ldA (vs := (d9 b0v)) Tryd.isAgg24 Tryd.sizeOf24 rfl (I.atH b9p)) ?_
  refine C2 I Tryd.zeroValue24 (cs := [(vi 0), (vi 0), (eS), (nS)]) rfl fun g3s R3 d1h g8b => ?_
  refine o9 d1h Tryd.sizeOf24 (vs := (d9 b0v)) (cs' := (d9 b0v)) rfl rfl (nb rfl) rfl rfl fun g8c e1f g8d => ?_
  refine b6 (ldA Tryd.isAgg24 Tryd.sizeOf24 rfl (e1f.at1 (o := 0) (vs := (d9 b0v)) (nb rfl) rfl)) ?_
  refine d5 (cap := []) (fun args w => Tryd.call94 args w) ?_
  refine m8 (Fi := [bx g0 114 [(vs a6P)], a6Q]) (Fr := [bx g3s 24 (d9 b0v), bx g_2 27 (i7 x1)]) ((e1f.bring 3).bring 3) (h g0 a6P a6Q b7K) (fun g8e d1s g8f b3d g3t g8g g8h g3u => ?_) (fun _ _ _ _ _ q => q.elim)
  obtain ⟨g0T, b7J, d4O, d4P, rfl, rfl, d4Q, h⟩ := g3u
  refine a7 (C6 _ _ _ _ _ _) ?_
  exact hn3 _ _ _ (hm3 _ _ h).2 ⟨((IntKind.wrap .i64 (a2G + 1)), b7J), d1s, d4O, d4P, rfl, rfl, d4Q, ((((g3t.bring 2).drop.bring 1).bring 1).bring 2), (hm3 _ _ h).1⟩
 ·replace h := h.2 d1v
  exact hx1 _ _ (hj1 a0V a6P a6Q H _ b7K (((I.bring 2).bring 2).bring 2) h)
theorem a8k (x0 : f8) (M3 : (List b8)) (x1 : u1) {H : Hp} {K : f8 → (List b8) → Hp → Prop} (h : W7 x0 M3 x1 H K) : V9 x0 M3 x1 H K := by
 intro g0 P9 T9 a4u w I
 refine g0y ?_
 refine a7J x0 M3 x1 g0 P9 T9 a4u I (fun y0 a1G X6 X7 H' w' b5e I' hk => ⟨H', _, I', y0, a1G, X6, X7, rfl, rfl, b5e, hk⟩) h
def R6 (g8i : Sl) (b2L : Int) (g3v : Int) (a6R : (List b8)) (H : Hp) (n1 : (Int × (List b8)) → Hp → Prop) (K : f8 → (List b8) → Hp → Prop) : Prop :=
 n1 ((IntKind.wrap .i64 (g3v + 1)), a6R) H
def R7 (e0o : Sl) (c9O : Int) (g3w : Int) (a9R : (List b8)) (c6Q : r6) (H : Hp) (n1 : (Int × (List b8)) → Hp → Prop) (K : f8 → (List b8) → Hp → Prop) : Prop :=
 P7 (f8.mk (Sl.mk none 0 0)) a9R c6Q.K3 H (fun (g0V : f8) (c6R : (List b8)) (e1g : Hp) =>
 P7 (f8.mk (Sl.mk none 0 0)) c6R c6Q.H9 e1g (fun (g0W : f8) (b7L : (List b8)) (d1w : Hp) =>
 R6 e0o c9O g3w b7L d1w n1 K))
def R8 (g3x : Sl) (g3y : Int) (g3z : Int) (e1h : Sl) (e1i : Int) (d9K : r6) (a2H : Int) (a0W : (List b8)) (H : Hp) (n1 : (Int × (List b8)) → Hp → Prop) (n6 : (Int × (List b8)) → Hp → Prop) (K : f8 → (List b8) → Hp → Prop) : Prop :=
 (a2H < e1i →
 (0 : Int) ≤ a2H ∧ (a2H : Int) < e1h.n ∧ ∃ b0w : l7, EltH H e1h a2H 4 (d9 b0w) ∧
 Q7 (f8.mk (Sl.mk none 0 0)) a0W b0w H (fun (g0X : f8) (b7M : (List b8)) (d1x : Hp) =>
 n6 ((IntKind.wrap .i64 (a2H + 1)), b7M) d1x)) ∧
 (¬ (a2H < e1i) →
 R7 g3x g3y g3z a0W d9K H n1 K)
def R9 (g3A : Sl) (g3B : Int) (g3C : Int) (a6S : (List b8)) (b7N : r6) (H : Hp) (n1 : (Int × (List b8)) → Hp → Prop) (K : f8 → (List b8) → Hp → Prop) : Prop :=
 TL ((0, a6S) : Int × (List b8)) H fun (s : Int × (List b8)) H n6 => R8 g3A g3B g3C b7N.j7 (b7N.j7.n : Int) b7N s.1 s.2 H n1 n6 K
def S1 (g3D : Sl) (g3E : Int) (g3F : Int) (e1j : Sl) (e1k : Int) (d9L : r6) (a2I : Int) (a0X : (List b8)) (H : Hp) (n1 : (Int × (List b8)) → Hp → Prop) (n7 : (Int × (List b8)) → Hp → Prop) (K : f8 → (List b8) → Hp → Prop) : Prop :=
 (a2I < e1k →
 (0 : Int) ≤ a2I ∧ (a2I : Int) < e1j.n ∧ ∃ b0x : u1, EltH H e1j a2I 4 (i7 b0x) ∧
 V9 (f8.mk (Sl.mk none 0 0)) a0X b0x H (fun (g0Y : f8) (b7O : (List b8)) (d1y : Hp) =>
 n7 ((IntKind.wrap .i64 (a2I + 1)), b7O) d1y)) ∧
 (¬ (a2I < e1k) →
 R9 g3D g3E g3F a0X d9L H n1 K)
def D6 (g3G : Sl) (g3H : Int) (g3I : Int) (a6T : (List b8)) (b7P : r6) (H : Hp) (n1 : (Int × (List b8)) → Hp → Prop) (K : f8 → (List b8) → Hp → Prop) : Prop :=
 TL ((0, a6T) : Int × (List b8)) H fun (s : Int × (List b8)) H n7 => S1 g3G g3H g3I b7P.s6 (b7P.s6.n : Int) b7P s.1 s.2 H n1 n7 K
def S2 (b9x : Sl) (b9y : Int) (S3 : Int) (M6 : (List b8)) (H : Hp) (n1 : (Int × (List b8)) → Hp → Prop) (K : f8 → (List b8) → Hp → Prop) : Prop :=
 (S3 < b9y →
 (0 : Int) ≤ S3 ∧ (S3 : Int) < b9x.n ∧ ∃ D9 : r6, EltH H b9x S3 6 (g7 D9) ∧
 (D9.b9 = 1 →
 (M6.length + ([(b8.mk D9.d6 1)] : List b8).length) * 25 ≤ 140737488355328 ∧
 D6 b9x b9y S3 (M6 ++ [(b8.mk D9.d6 1)]) D9 H n1 K) ∧
 (¬ (D9.b9 = 1) →
 (D9.b9 = 2 →
 (M6.length + ([(b8.mk D9.d6 2)] : List b8).length) * 25 ≤ 140737488355328 ∧
 D6 b9x b9y S3 (M6 ++ [(b8.mk D9.d6 2)]) D9 H n1 K) ∧
 (¬ (D9.b9 = 2) →
 D6 b9x b9y S3 M6 D9 H n1 K))) ∧
 (¬ (S3 < b9y) →
 K (f8.mk (Sl.mk none 0 0)) M6 H)
def V1 (x0 : f8) (M3 : (List b8)) (x1 : Sl) (H : Hp) (K : f8 → (List b8) → Hp → Prop) : Prop :=
 TL ((0, M3) : Int × (List b8)) H fun (s : Int × (List b8)) H n1 => S2 x1 (x1.n : Int) s.1 s.2 H n1 K
theorem a7u (x0 : f8) (M3 : (List b8)) (x1 : Sl) (g0 : Nat) (P9 : Sl) (T9 : Frag) (a4u : RowL 117 2 p6 P9 M3 T9) {K : f8 → (List b8) → Hp → Prop} (I : Inv w0 ps0 H0 H [bx g0 114 [(vs P9)], T9] w) (hR : ∀ (y0 : f8) (a1G : (List b8)) (X6 : Sl) (X7 : Frag) (H' : Hp) (w' : World) (_ : RowL 117 2 p6 X6 a1G X7) (_ : Inv w0 ps0 H0 H' [bx g0 114 [(vs X6)], X7] w') (_ : K y0 a1G H'), R (Value.tuple #[]) w') (h : V1 x0 M3 x1 H K) : F55 (Value.pointer (some ⟨g0, 0, none⟩)) (vs x1) w R E := by
 unfold V1 at h
 unfold F55
 refine a7 (a5y _ _ _) ?_
 obtain ⟨d1z, b9z, g3J, g3K⟩ := h
 refine H7 (J := fun n l w => ∃ (s : Int × (List b8)) (H : Hp) (a3x : Sl) (a9S : Frag) , n = b9z s ∧ l = (match s with | (S3, M6) => [(vi S3)]) ∧ (match s with | (S3, M6) => RowL 117 2 p6 a3x M6 a9S) ∧ (match s with | (S3, M6) => Inv w0 ps0 H0 H [bx g0 114 [(vs a3x)], a9S] w) ∧ d1z s H) ⟨_, (0, M3), H, P9, T9, rfl, rfl, a4u, ((I.bring 1).bring 1), g3J⟩ ?_
 rintro g8j τ_426 w next1 ⟨⟨S3, M6⟩, H, a3x, a9S, rfl, d1A, a9T, I, g3L⟩ hn1
 dsimp only at d1A I a9T
 simp only [List.map_cons, List.map_nil, List.cons.injEq, and_true] at d1A
 have e12 := d1A
 simp only [e12]
 obtain ⟨n1, hm1, h⟩ : ∃ n1 : (Int × (List b8)) → Hp → Prop, (∀ s' H', n1 s' H' → d1z s' H' ∧ b9z s' < b9z (S3, M6)) ∧ S2 x1 (x1.n : Int) S3 M6 H n1 K := ⟨_, fun _ _ h => h, g3K (S3, M6) H (fun s' H' => d1z s' H' ∧ b9z s' < b9z (S3, M6)) g3L (fun _ _ a b => ⟨a, b⟩)⟩
 unfold d4H
 unfold S2 at h
 refine a7 (A7 _ _ _ _ _ _) ?_
 refine i5 (fun d1B => ?_) (fun d1B => ?_)
 ·replace h := h.1 d1B
  have hj2 : ∀ (a6R : (List b8)) (b3k : Sl) (b3l : Frag) (H : Hp) (w : World) (_ : RowL 117 2 p6 b3k a6R b3l) (_ : Inv w0 ps0 H0 H [bx g0 114 [(vs b3k)], b3l] w) (_ : R6 x1 (x1.n : Int) S3 a6R H n1 K), c6F (Value.pointer (some ⟨g0, 0, none⟩)) (vs x1) (vi (x1.n : Int)) (vi S3) w next1 R E := by
   intro a6R b3k b3l H w d9M I h
   unfold c6F
   intro _
   unfold R6 at h
   refine a7 (C6 _ _ _ _ _ _) ?_
   exact hn1 _ _ _ (hm1 _ _ h).2 ⟨((IntKind.wrap .i64 (S3 + 1)), a6R), H, b3k, b3l, rfl, rfl, d9M, ((I.bring 1).bring 1), (hm1 _ _ h).1⟩
  refine u7 fun j2 hx2 => ?_
  obtain ⟨g3M, g3N, D9, d1C, h⟩ := h
  obtain ⟨g8k, g8l, g3O, d1C⟩ := d1C
  refine a7 (b6E g3O _ _ _ _ g3M g3N) ?_
  refine b6 (ldA (vs := (g7 D9)) Tryd.isAgg63 Tryd.sizeOf63 rfl (I.atH d1C)) ?_
  refine C2 I Tryd.zeroValue63 (cs := [(vi 0), (eS), (nS), (nS), (nS), (nS)]) rfl fun a5a g8m g3P g8n => ?_
  refine o9 g3P Tryd.sizeOf63 (vs := (g7 D9)) (cs' := (g7 D9)) rfl rfl (nb rfl) rfl rfl fun g8o c2j g8p => ?_
  have hj3 : ∀ (a6T : (List b8)) (b3m : Sl) (b3n : Frag) (H : Hp) (w : World) (_ : RowL 117 2 p6 b3m a6T b3n) (_ : Inv w0 ps0 H0 H [bx g0 114 [(vs b3m)], bx a5a 63 (g7 D9), b3n] w) (_ : D6 x1 (x1.n : Int) S3 a6T D9 H n1 K), c6I (Value.pointer (some ⟨g0, 0, none⟩)) (Value.pointer (some ⟨a5a, 0, none⟩)) (vs x1) (vi (x1.n : Int)) (vi S3) w j2 R E := by
   intro a6T b3m b3n H w d9N I h
   unfold c6I
   intro _
   unfold D6 at h
   have hj4 : ∀ (a6S : (List b8)) (b3o : Sl) (b3p : Frag) (H : Hp) (w : World) (_ : RowL 117 2 p6 b3o a6S b3p) (_ : Inv w0 ps0 H0 H [bx g0 114 [(vs b3o)], bx a5a 63 (g7 D9), b3p] w) (_ : R9 x1 (x1.n : Int) S3 a6S D9 H n1 K), c6H (Value.pointer (some ⟨g0, 0, none⟩)) (Value.pointer (some ⟨a5a, 0, none⟩)) (vs x1) (vi (x1.n : Int)) (vi S3) w j2 R E := by
    intro a6S b3o b3p H w d9O I h
    unfold c6H
    intro _
    unfold R9 at h
    have hj5 : ∀ (a9R : (List b8)) (a9U : Sl) (a9V : Frag) (H : Hp) (w : World) (_ : RowL 117 2 p6 a9U a9R a9V) (_ : Inv w0 ps0 H0 H [bx g0 114 [(vs a9U)], bx a5a 63 (g7 D9), a9V] w) (_ : R7 x1 (x1.n : Int) S3 a9R D9 H n1 K), c6G (Value.pointer (some ⟨g0, 0, none⟩)) (Value.pointer (some ⟨a5a, 0, none⟩)) (vs x1) (vi (x1.n : Int)) (vi S3) w j2 R E := by
     intro a9R a9U a9V H w d9P I h
     unfold c6G
     intro _
     unfold R7 at h
     refine a7 a5L ?_
     refine b6 (ld1 Tryd.isAgg42 ((I.bring 1).at1 (o := 4) (vs := [(vs D9.K3)]) (nb rfl) rfl)) ?_
     refine d5 (cap := []) (fun args w => Tryd.call55 args w) ?_
     refine m8 (Fi := [bx g0 114 [(vs a9U)], a9V]) (Fr := [bx a5a 63 (g7 D9)]) ((I.bring 2).bring 1) (h g0 a9U a9V d9P) (fun g8q e1g g8r g8s e1l g8t g8u g3Q => ?_) (fun _ _ _ _ _ q => q.elim)
     obtain ⟨g0V, c6R, c1B, c1C, rfl, rfl, d4R, h⟩ := g3Q
     refine a7 a5M ?_
     refine b6 (ld1 Tryd.isAgg42 ((e1l.bring 2).at1 (o := 5) (vs := [(vs D9.H9)]) (nb rfl) rfl)) ?_
     refine d5 (cap := []) (fun args w => Tryd.call55 args w) ?_
     refine m8 (Fi := [bx g0 114 [(vs c1B)], c1C]) (Fr := [bx a5a 63 (g7 D9)]) ((e1l.bring 1).bring 1) (h g0 c1B c1C d4R) (fun g8v d1w g8w g8x g3R g8y g8z g3S => ?_) (fun _ _ _ _ _ q => q.elim)
     obtain ⟨g0W, b7L, d4S, d4T, rfl, rfl, d4U, h⟩ := g3S
     exact hx2 _ _ (hj2 b7L d4S d4T d1w _ d4U (((g3R.bring 2).drop.bring 1).bring 1) h)
    refine u7 fun j5 hx5 => ?_
    refine a7 a5K ?_
    refine b6 (ld1 Tryd.isAgg22 ((I.bring 1).at1 (o := 2) (vs := [(vs D9.j7)]) (nb rfl) rfl)) ?_
    refine a7 (a2R _ _ _) ?_
    obtain ⟨d1D, b9A, g3T, g3U⟩ := h
    refine H7 (J := fun n l w => ∃ (s : Int × (List b8)) (H : Hp) (a6U : Sl) (a6V : Frag) , n = b9A s ∧ l = (match s with | (a2H, a0W) => [(vi a2H)]) ∧ (match s with | (a2H, a0W) => RowL 117 2 p6 a6U a0W a6V) ∧ (match s with | (a2H, a0W) => Inv w0 ps0 H0 H [bx g0 114 [(vs a6U)], bx a5a 63 (g7 D9), a6V] w) ∧ d1D s H) ⟨_, (0, a6S), H, b3o, b3p, rfl, rfl, d9O, (((I.bring 2).bring 2).bring 2), g3T⟩ ?_
    rintro g8A τ_354 w next6 ⟨⟨a2H, a0W⟩, H, a6U, a6V, rfl, d1E, b7Q, I, g3V⟩ hn6
    dsimp only at d1E I b7Q
    simp only [List.map_cons, List.map_nil, List.cons.injEq, and_true] at d1E
    have e60 := d1E
    simp only [e60]
    obtain ⟨n6, hm6, h⟩ : ∃ n6 : (Int × (List b8)) → Hp → Prop, (∀ s' H', n6 s' H' → d1D s' H' ∧ b9A s' < b9A (a2H, a0W)) ∧ R8 x1 (x1.n : Int) S3 D9.j7 (D9.j7.n : Int) D9 a2H a0W H n1 n6 K := ⟨_, fun _ _ h => h, g3U (a2H, a0W) H (fun s' H' => d1D s' H' ∧ b9A s' < b9A (a2H, a0W)) g3V (fun _ _ a b => ⟨a, b⟩)⟩
    unfold d4D
    unfold R8 at h
    refine a7 (A7 _ _ _ _ _ _) ?_
    refine i5 (fun d1F => ?_) (fun d1F => ?_)
    ·replace h := h.1 d1F
     obtain ⟨g3W, g3X, b0w, d1G, h⟩ := h
     obtain ⟨g8B, g8C, g3Y, d1G⟩ := d1G
     refine a7 (a1C g3Y _ _ _ _ g3W g3X) ?_
     refine b6 (ldA (vs := (d9 b0w)) Tryd.isAgg24 Tryd.sizeOf24 rfl (I.atH d1G)) ?_
     refine C2 I Tryd.zeroValue24 (cs := [(vi 0), (vi 0), (eS), (nS)]) rfl fun g3Z g8D g4a g8E => ?_
     refine o9 g4a Tryd.sizeOf24 (vs := (d9 b0w)) (cs' := (d9 b0w)) rfl rfl (nb rfl) rfl rfl fun g8F e1m g8G => ?_
     refine b6 (ldA Tryd.isAgg24 Tryd.sizeOf24 rfl (e1m.at1 (o := 0) (vs := (d9 b0w)) (nb rfl) rfl)) ?_
     refine d5 (cap := []) (fun args w => Tryd.call94 args w) ?_
     refine m8 (Fi := [bx g0 114 [(vs a6U)], a6V]) (Fr := [bx g3Z 24 (d9 b0w), bx a5a 63 (g7 D9)]) ((e1m.bring 3).bring 2) (h g0 a6U a6V b7Q) (fun g8H d1x g8I g8J g4b g8K g8L g4c => ?_) (fun _ _ _ _ _ q => q.elim)
     obtain ⟨g0X, b7M, d4V, d4W, rfl, rfl, d4X, h⟩ := g4c
     refine a7 (C6 _ _ _ _ _ _) ?_
     exact hn6 _ _ _ (hm6 _ _ h).2 ⟨((IntKind.wrap .i64 (a2H + 1)), b7M), d1x, d4V, d4W, rfl, rfl, d4X, ((((g4b.bring 2).drop.bring 1).bring 2).bring 2), (hm6 _ _ h).1⟩
    ·replace h := h.2 d1F
     exact hx5 _ _ (hj5 a0W a6U a6V H _ b7Q (((I.bring 2).bring 2).bring 2) h)
   refine u7 fun j4 hx4 => ?_
   refine a7 a7R ?_
   refine b6 (ld1 Tryd.isAgg25 ((I.bring 1).at1 (o := 3) (vs := [(vs D9.s6)]) (nb rfl) rfl)) ?_
   refine a7 (a7e _ _ _) ?_
   obtain ⟨d1H, b9B, g4d, g4e⟩ := h
   refine H7 (J := fun n l w => ∃ (s : Int × (List b8)) (H : Hp) (a6W : Sl) (a6X : Frag) , n = b9B s ∧ l = (match s with | (a2I, a0X) => [(vi a2I)]) ∧ (match s with | (a2I, a0X) => RowL 117 2 p6 a6W a0X a6X) ∧ (match s with | (a2I, a0X) => Inv w0 ps0 H0 H [bx g0 114 [(vs a6W)], bx a5a 63 (g7 D9), a6X] w) ∧ d1H s H) ⟨_, (0, a6T), H, b3m, b3n, rfl, rfl, d9N, (((I.bring 2).bring 2).bring 2), g4d⟩ ?_
   rintro g8M τ_396 w next7 ⟨⟨a2I, a0X⟩, H, a6W, a6X, rfl, d1I, b7R, I, g4f⟩ hn7
   dsimp only at d1I I b7R
   simp only [List.map_cons, List.map_nil, List.cons.injEq, and_true] at d1I
   have e49 := d1I
   simp only [e49]
   obtain ⟨n7, hm7, h⟩ : ∃ n7 : (Int × (List b8)) → Hp → Prop, (∀ s' H', n7 s' H' → d1H s' H' ∧ b9B s' < b9B (a2I, a0X)) ∧ S1 x1 (x1.n : Int) S3 D9.s6 (D9.s6.n : Int) D9 a2I a0X H n1 n7 K := ⟨_, fun _ _ h => h, g4e (a2I, a0X) H (fun s' H' => d1H s' H' ∧ b9B s' < b9B (a2I, a0X)) g4f (fun _ _ a b => ⟨a, b⟩)⟩
   unfold d4F
   unfold S1 at h
   refine a7 (A7 _ _ _ _ _ _) ?_
   refine i5 (fun d1J => ?_) (fun d1J => ?_)
   ·replace h := h.1 d1J
    obtain ⟨g4g, g4h, b0x, d1K, h⟩ := h
    obtain ⟨g8N, g8O, g4i, d1K⟩ := d1K
    refine a7 (a2V g4i _ _ _ _ g4g g4h) ?_
    refine b6 (ldA (vs := (i7 b0x)) Tryd.isAgg27 Tryd.sizeOf27 rfl (I.atH d1K)) ?_
    refine C2 I Tryd.zeroValue27 (cs := [(vi 0), (vi 0), (nS), (nS)]) rfl fun g4j g8P g4k g8Q => ?_
    refine o9 g4k Tryd.sizeOf27 (vs := (i7 b0x)) (cs' := (i7 b0x)) rfl rfl (nb rfl) rfl rfl fun g8R e1n g8S => ?_
    refine b6 (ldA Tryd.isAgg27 Tryd.sizeOf27 rfl (e1n.at1 (o := 0) (vs := (i7 b0x)) (nb rfl) rfl)) ?_
    refine d5 (cap := []) (fun args w => Tryd.call93 args w) ?_
    refine m8 (Fi := [bx g0 114 [(vs a6W)], a6X]) (Fr := [bx g4j 27 (i7 b0x), bx a5a 63 (g7 D9)]) ((e1n.bring 3).bring 2) (h g0 a6W a6X b7R) (fun g8T d1y g8U g8V g4l g8W g8X g4m => ?_) (fun _ _ _ _ _ q => q.elim)
    obtain ⟨g0Y, b7O, d4Y, d4Z, rfl, rfl, d5a, h⟩ := g4m
    refine a7 (C6 _ _ _ _ _ _) ?_
    exact hn7 _ _ _ (hm7 _ _ h).2 ⟨((IntKind.wrap .i64 (a2I + 1)), b7O), d1y, d4Y, d4Z, rfl, rfl, d5a, ((((g4l.bring 2).drop.bring 1).bring 2).bring 2), (hm7 _ _ h).1⟩
   ·replace h := h.2 d1J
    exact hx4 _ _ (hj4 a0X a6W a6X H _ b7R (((I.bring 2).bring 2).bring 2) h)
  refine u7 fun j3 hx3 => ?_
  refine a7 a5J ?_
  refine b6 (ld1 Tryd.isAgg3 (c2j.at1 (o := 0) (vs := [(vi D9.b9)]) (nb rfl) rfl)) ?_
  refine a7 (j8 _ _ _ _ _ _) ?_
  refine i5 (fun d1L => ?_) (fun d1L => ?_)
  ·replace h := h.1 d1L
   refine V2 c2j fun g8Y c2k => ?_
   refine i8 (p7 _) ?_
   refine i8 a0E ?_
   refine i8 a2d ?_
   refine r5 (ld1 Tryd.isAgg112 ((c2k.bring 1).at1 (o := 0) (vs := [(vs a3x)]) (nb rfl) rfl)) ?_
   refine r5 (ld1 Tryd.isAgg9 (c2k.at1 (o := 1) (vs := [(Value.string D9.d6)]) (nb rfl) rfl)) ?_
   refine i8 (a4f _ _) ?_
   refine a1Q (e := 117) (c := p6) (xs := [(b8.mk D9.d6 1)]) c2k (b1Y _ _) rfl rfl a3A a3B (nb rfl) fun g8Z g9a g9b g4n e1o g4o => ?_
   refine ⟨(g4o _ (c2k.bring 1).lt1), ?_⟩
   obtain ⟨g4p, h⟩ := h
   refine b5q (s := a3x) (xs := M6) (e1o.bring 3) a9T (g4n.srcO ((e1o.bring 3).bring 1)) g4p fun d1M g4q g9c g4r g4s g9d => ?_
   refine i8 (p7 _) ?_
   refine i8 a0E ?_
   refine o9 ((g4s.bring 1).drop.bring 2) Tryd.sizeOf112 (vs := [(vs d1M)]) (cs' := [(vs d1M)]) rfl rfl (nb rfl) rfl rfl fun g9e g4t g9f => ?_
   exact hx3 _ _ (hj3 (M6 ++ [(b8.mk D9.d6 1)]) d1M g4q H _ g4r (((g4t.bring 1).bring 2).bring 2) h)
  ·replace h := h.2 d1L
   refine a7 (j8 _ _ _ _ _ _) ?_
   refine i5 (fun d1N => ?_) (fun d1N => ?_)
   ·replace h := h.1 d1N
    refine V2 c2j fun g9g c2l => ?_
    refine i8 (p7 _) ?_
    refine i8 a0E ?_
    refine i8 a2d ?_
    refine r5 (ld1 Tryd.isAgg112 ((c2l.bring 1).at1 (o := 0) (vs := [(vs a3x)]) (nb rfl) rfl)) ?_
    refine r5 (ld1 Tryd.isAgg9 (c2l.at1 (o := 1) (vs := [(Value.string D9.d6)]) (nb rfl) rfl)) ?_
    refine i8 (a4f _ _) ?_
    refine a1Q (e := 117) (c := p6) (xs := [(b8.mk D9.d6 2)]) c2l (b1Y _ _) rfl rfl a3A a3B (nb rfl) fun g9h g9i g9j g4u e1p g4v => ?_
    refine ⟨(g4v _ (c2l.bring 1).lt1), ?_⟩
    obtain ⟨g4w, h⟩ := h
    refine b5q (s := a3x) (xs := M6) (e1p.bring 3) a9T (g4u.srcO ((e1p.bring 3).bring 1)) g4w fun d1O g4x g9k g4y g4z g9l => ?_
    refine i8 (p7 _) ?_
    refine i8 a0E ?_
    refine o9 ((g4z.bring 1).drop.bring 2) Tryd.sizeOf112 (vs := [(vs d1O)]) (cs' := [(vs d1O)]) rfl rfl (nb rfl) rfl rfl fun g9m g4A g9n => ?_
    exact hx3 _ _ (hj3 (M6 ++ [(b8.mk D9.d6 2)]) d1O g4x H _ g4y (((g4A.bring 1).bring 2).bring 2) h)
   ·replace h := h.2 d1N
    exact hx3 _ _ (hj3 M6 a3x a9S H _ a9T (((c2j.bring 2).bring 1).bring 2) h)
 ·replace h := h.2 d1B
  exact hR (f8.mk (Sl.mk none 0 0)) M6 a3x a9S H _ a9T ((I.bring 1).bring 1) h
theorem a7K (x0 : f8) (M3 : (List b8)) (x1 : Sl) {H : Hp} {K : f8 → (List b8) → Hp → Prop} (h : V1 x0 M3 x1 H K) : P7 x0 M3 x1 H K := by
 intro g0 P9 T9 a4u w I
 refine g0r ?_
 refine a7u x0 M3 x1 g0 P9 T9 a4u I (fun y0 a1G X6 X7 H' w' b5e I' hk => ⟨H', _, I', y0, a1G, X6, X7, rfl, rfl, b5e, hk⟩) h
def U4 (b2V : Int) (c1h : ByteArray) (g4B : (List b8)) (D2 : r9) (H : Hp) (K : ByteArray → Int → Hp → Prop) : Prop :=
 K c1h b2V H
def a0K (T7 : (Option Nat)) (b9C : (List b8)) (b9v : Int) (a6k : r9) (a5p : Int) (a0p : ByteArray) (P4 : Int) (H : Hp) (n2 : (Int × ByteArray × Int) → Hp → Prop) (K : ByteArray → Int → Hp → Prop) : Prop :=
 (P4 < b9v →
 (0 : Int) ≤ P4 ∧ ∃ a0U : b8, (b9C)[(P4 : Int).toNat]? = some a0U ∧
 ∃ b1L : List (ByteArray × Int), MapH H (fun s : ByteArray => Value.string s) (fun n : Int => Value.int .i64 n) T7 b1L ∧
 (((lk a0U.fname b1L).getD 0) = a0U.fas →
 n2 (a5p, a0p, (IntKind.wrap .i64 (P4 + 1))) H) ∧
 (¬ (((lk a0U.fname b1L).getD 0) = a0U.fas) →
 (((lk a0U.fname b1L).getD 0) = 0 →
 U4 63 a0U.fname b9C a6k H K) ∧
 (¬ (((lk a0U.fname b1L).getD 0) = 0) →
 U4 64 a0U.fname b9C a6k H K))) ∧
 (¬ (P4 < b9v) →
 U4 a5p a0p b9C a6k H K)
def a1P (x0 : r9) (H : Hp) (K : ByteArray → Int → Hp → Prop) : Prop :=
 a3J x0 H (fun (U8 : Int) (H_6 : Hp) =>
 (¬ (U8 = 0) →
 K ⟨#[]⟩ U8 H_6) ∧
 (U8 = 0 →
 a4N x0.a3z H_6 (fun (o3 : (Option Nat)) (a6l : ByteArray) (b0y : Int) (b7E : Hp) =>
 (¬ (b0y = 0) →
 K a6l b0y b7E) ∧
 (b0y = 0 →
 P7 (f8.mk (Sl.mk none 0 0)) [] x0.a4T b7E (fun (g4C : f8) (a8w : (List b8)) (b3i : Hp) =>
 TL ((b0y, ⟨#[]⟩, 0) : Int × ByteArray × Int) b3i fun (s : Int × ByteArray × Int) H n2 => a0K o3 a8w (a8w.length : Int) x0 s.1 s.2.1 s.2.2 H n2 K)))))
theorem b3q (x0 : r9) {K : ByteArray → Int → Hp → Prop} (I : Inv w0 ps0 H0 H [] w) (hR : ∀ (r0 : ByteArray) (r1 : Int) (H' : Hp) (w' : World) (_ : Inv w0 ps0 H0 H' [] w') (_ : K r0 r1 H'), R (Value.tuple #[(Value.string r0), (vi r1)]) w') (h : a1P x0 H K) : F34 (Value.agg (m6 x0).toArray) w R E := by
 unfold a1P at h
 unfold F34
 refine O4 I (cs := (m6 x0)) rfl fun g_2 w_3 I_4 k_5 => ?_
 refine b6 (ldA Tryd.isAgg44 Tryd.sizeOf44 rfl (I_4.at1 (o := 0) (vs := (m6 x0)) (nb rfl) rfl)) ?_
 refine d5 (cap := []) (fun args w => Tryd.call53 args w) ?_
 refine m8 (Fi := []) (Fr := [bx g_2 44 (m6 x0)]) I_4 (h) (fun c4g H_6 c4h w_7 I_8 c4i k_9 a9b => ?_) (fun _ _ _ _ _ q => q.elim)
 obtain ⟨U8, rfl, rfl, h⟩ := a9b
 refine a7 (N4 _ _ _ _ _ _) ?_
 refine a1W (fun a8S => ?_) (fun a8S => ?_)
 ·replace h := h.1 a8S
  exact hR ⟨#[]⟩ U8 H_6 _ I_8.drop h
 ·replace h := h.2 a8S
  refine a7 a7Q ?_
  refine b6 (ld1 Tryd.isAgg41 (I_8.at1 (o := 0) (vs := [(vs x0.a3z)]) (nb rfl) rfl)) ?_
  refine d5 (cap := []) (fun args w => Tryd.call54 args w) ?_
  refine m8 (Fi := []) (Fr := [bx g_2 44 (m6 x0)]) I_8 (h) (fun g6O b7E g6P p9 c0q g6Q f1y d9p => ?_) (fun _ _ _ _ _ q => q.elim)
  obtain ⟨o3, a6l, b0y, rfl, rfl, h⟩ := d9p
  refine a7 (m3 _ _ _ rfl) ?_
  refine a7 (m3 _ _ (Value.string a6l) rfl) ?_
  refine a7 (m3 _ _ (vi b0y) rfl) ?_
  refine a7 (N4 _ _ _ _ _ _) ?_
  refine a1W (fun b6Y => ?_) (fun b6Y => ?_)
  ·replace h := h.1 b6Y
   exact hR a6l b0y b7E _ c0q.drop h
  ·replace h := h.2 b6Y
   refine a7 (c8N ) ?_
   refine O4 c0q (cs := [(nS)]) rfl fun a3u A6 b6Z f1P => ?_
   refine a7 b1X ?_
   refine b6 (ld1 Tryd.isAgg42 ((b6Z.bring 1).at1 (o := 1) (vs := [(vs x0.a4T)]) (nb rfl) rfl)) ?_
   refine d5 (cap := []) (fun args w => Tryd.call55 args w) ?_
   refine m8 (Fi := [bx a3u 114 [(Value.slice (Sl.mk none 0 0).a (Sl.mk none 0 0).n (Sl.mk none 0 0).c)], []]) (Fr := [bx g_2 44 (m6 x0)]) (b6Z.nil.bring 1) (h a3u (Sl.mk none 0 0) ([]) (RowL.nil (e := 117) a3A a3B)) (fun h1r b3i h1s c5U g0Z f1X h1t g7w => ?_) (fun _ _ _ _ _ q => q.elim)
   obtain ⟨g4C, a8w, b7S, c6S, rfl, rfl, b3r, h⟩ := g7w
   have hj1 : ∀ (b2V : Int) (c1h : ByteArray) (H : Hp) (w : World) (_ : Inv w0 ps0 H0 H [bx a3u 114 [(vs b7S)], bx g_2 44 (m6 x0), c6S] w) (_ : U4 b2V c1h a8w x0 H K), c6D (vi b2V) (Value.string c1h) w R E := by
    intro b2V c1h H w I h
    unfold c6D
    intro _
    unfold U4 at h
    exact hR c1h b2V H _ I.drop.drop.drop h
   refine u7 fun j1 hx1 => ?_
   refine a7 (p7 _) ?_
   refine a7 a0E ?_
   refine b6 (ld1 Tryd.isAgg112 (g0Z.at1 (o := 0) (vs := [(vs b7S)]) (nb rfl) rfl)) ?_
   refine a7 (b1R Tryd.underlying112 b3r) ?_
   obtain ⟨d9Q, c6T, g7x, g7y⟩ := h
   refine H7 (J := fun n l w => ∃ (s : Int × ByteArray × Int) (H : Hp) , n = c6T s ∧ l = (match s with | (a5p, a0p, P4) => [(vi a5p), (Value.string a0p), (vi P4)]) ∧ (match s with | (a5p, a0p, P4) => Inv w0 ps0 H0 H [bx a3u 114 [(vs b7S)], bx g_2 44 (m6 x0), c6S] w) ∧ d9Q s H) ⟨_, (b0y, ⟨#[]⟩, 0), b3i, rfl, rfl, (((g0Z.bring 1).bring 2).bring 2), g7x⟩ ?_
   rintro h1u τ_64 w next2 ⟨⟨a5p, a0p, P4⟩, H, rfl, c0Z, I, g7z⟩ hn2
   dsimp only at c0Z I
   simp only [List.map_cons, List.map_nil, List.cons.injEq, and_true] at c0Z
   obtain ⟨e7, e9, e39⟩ := c0Z
   simp only [e7, e9, e39]
   obtain ⟨n2, hm2, h⟩ : ∃ n2 : (Int × ByteArray × Int) → Hp → Prop, (∀ s' H', n2 s' H' → d9Q s' H' ∧ c6T s' < c6T (a5p, a0p, P4)) ∧ a0K o3 a8w (a8w.length : Int) x0 a5p a0p P4 H n2 K := ⟨_, fun _ _ h => h, g7y (a5p, a0p, P4) H (fun s' H' => d9Q s' H' ∧ c6T s' < c6T (a5p, a0p, P4)) g7z (fun _ _ a b => ⟨a, b⟩)⟩
   unfold d4x
   unfold a0K at h
   refine a7 (A7 _ _ _ _ _ _) ?_
   refine i5 (fun d9R => ?_) (fun d9R => ?_)
   ·replace h := h.1 d9R
    obtain ⟨g1a, a0U, a6C, h⟩ := h
    obtain ⟨g6q, h1v, a7y, c0W⟩ := b3r.addr a6C
    refine a7 (d2f a7y _ _ _ _ g1a (b3r.lt g1a a6C)) ?_
    refine b6 (ldA (vs := (p6 a0U)) Tryd.isAgg117 Tryd.sizeOf117 rfl (b3r.atW (I.bring 2) a7y a6C)) ?_
    refine C2 I Tryd.zeroValue117 (cs := [(eS), (vi 0)]) rfl fun g6t K4 c4f f1H => ?_
    refine o9 c4f Tryd.sizeOf117 (vs := (p6 a0U)) (cs' := (p6 a0U)) rfl rfl (nb rfl) rfl rfl fun c0V b0P h1w => ?_
    refine a7 b0D ?_
    refine b6 (ld1 Tryd.isAgg9 (b0P.at1 (o := 0) (vs := [(Value.string a0U.fname)]) (nb rfl) rfl)) ?_
    obtain ⟨b1L, g4D, h⟩ := h
    refine c2F (keyS Tryd.underlying9) Tryd.underlying108 (z := 0) Tryd.zeroValue3 b0P g4D a0U.fname ?_
    refine a7 c7k ?_
    refine b6 (ld1 Tryd.isAgg3 (b0P.at1 (o := 1) (vs := [(vi a0U.fas)]) (nb rfl) rfl)) ?_
    refine a7 (j8 _ _ _ _ _ _) ?_
    refine i5 (fun d9S => ?_) (fun d9S => ?_)
    ·replace h := h.1 d9S
     refine a7 (C6 _ _ _ _ _ _) ?_
     exact hn2 _ _ _ (hm2 _ _ h).2 ⟨(a5p, a0p, (IntKind.wrap .i64 (P4 + 1))), H, rfl, rfl, (((b0P.drop.bring 2).bring 2).bring 2), (hm2 _ _ h).1⟩
    ·replace h := h.2 d9S
     refine a7 (j8 _ _ _ _ _ _) ?_
     refine i5 (fun d9T => ?_) (fun d9T => ?_)
     ·replace h := h.1 d9T
      refine a7 b0D ?_
      refine b6 (ld1 Tryd.isAgg9 (b0P.at1 (o := 0) (vs := [(Value.string a0U.fname)]) (nb rfl) rfl)) ?_
      exact hx1 _ _ (hj1 63 a0U.fname H _ (((b0P.drop.bring 2).bring 2).bring 2) h)
     ·replace h := h.2 d9T
      refine a7 b0D ?_
      refine b6 (ld1 Tryd.isAgg9 (b0P.at1 (o := 0) (vs := [(Value.string a0U.fname)]) (nb rfl) rfl)) ?_
      exact hx1 _ _ (hj1 64 a0U.fname H _ (((b0P.drop.bring 2).bring 2).bring 2) h)
   ·replace h := h.2 d9R
    exact hx1 _ _ (hj1 a5p a0p H _ (((I.bring 2).bring 2).bring 2) h)
theorem b3y (x0 : r9) {H : Hp} {K : ByteArray → Int → Hp → Prop} (h : a1P x0 H K) : a6n x0 H K := by
 intro w I
 refine f9C ?_
 refine b3q x0 I (fun r0 r1 H' w' I' hk => ⟨H', _, I', r0, r1, rfl, rfl, hk⟩) h
def a2o (x0 : j9) (H : Hp) (K : Int → Hp → Prop) : Prop :=
 (0 < x0.E6 →
 K 2 H) ∧
 (¬ (0 < x0.E6) →
 K 1 H)
theorem b3z (x0 : j9) {K : Int → Hp → Prop} (I : Inv w0 ps0 H0 H [] w) (hR : ∀ (r0 : Int) (H' : Hp) (w' : World) (_ : Inv w0 ps0 H0 H' [] w') (_ : K r0 H'), R (vi r0) w') (h : a2o x0 H K) : F92 (Value.agg (m7 x0).toArray) w R E := by
 unfold a2o at h
 unfold F92
 refine O4 I (cs := (m7 x0)) rfl fun g_2 w_3 I_4 k_5 => ?_
 refine a7 a2W ?_
 refine b6 (ld1 Tryd.isAgg3 (I_4.at1 (o := 1) (vs := [(vi x0.E6)]) (nb rfl) rfl)) ?_
 refine a7 (a0b _ _ _ _ _ _) ?_
 refine i5 (fun c_6 => ?_) (fun c_6 => ?_)
 ·replace h := h.1 c_6
  exact hR 2 H _ I_4.drop h
 ·replace h := h.2 c_6
  exact hR 1 H _ I_4.drop h
theorem b5g (x0 : j9) {H : Hp} {K : Int → Hp → Prop} (h : a2o x0 H K) : a7i x0 H K := by
 intro w I
 refine g0t ?_
 refine b3z x0 I (fun r0 H' w' I' hk => ⟨H', _, I', r0, rfl, rfl, hk⟩) h
end Go.Proofs.YtnhkdkcgdcgmdaaDoor
