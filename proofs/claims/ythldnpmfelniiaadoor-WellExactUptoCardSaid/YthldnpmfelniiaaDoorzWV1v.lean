/- Typed formulas of the program's functions that few laws need; printed by lift.py off the code. -/
import Derived.Test.YthldnpmfelniiaaDoorzWV1
import Derived.Test.YthldnpmfelniiaaDoorzWG1v
namespace Go.Proofs.YthldnpmfelniiaaDoor
open Go.RowKit
set_option maxRecDepth 100000
set_option maxHeartbeats 2000000
def a0s (e4r : Sl) (c2B : Int) (_cr_1l2 : m7) (T6 : Int) (L0 : (List d6)) (H : Hp) (n2 : (Int × (List d6)) → Hp → Prop) (K : h8 → (List d6) → Hp → Prop) : Prop :=
 (T6 < c2B →
 (0 : Int) ≤ T6 ∧ (T6 : Int) < e4r.n ∧ ∃ a4J : m7, EltH H e4r T6 4 (f6 a4J) ∧
 W6 (h8.mk (Sl.mk none 0 0)) L0 a4J H (fun (_y0_81 : h8) (c4s : (List d6)) (e2Z : Hp) =>
 n2 ((IntKind.wrap .i64 (T6 + 1)), c4s) e2Z)) ∧
 (¬ (T6 < c2B) →
 K (h8.mk (Sl.mk none 0 0)) L0 H)
def J4 (a2J : (List d6)) (cr_1j1 : m7) (H : Hp) (K : h8 → (List d6) → Hp → Prop) : Prop :=
 TL ((0, a2J) : Int × (List d6)) H fun (s : Int × (List d6)) H n2 => a0s cr_1j1.u6 (cr_1j1.u6.n : Int) cr_1j1 s.1 s.2 H n2 K
def a1y (_x0 : h8) (O7 : (List d6)) (x1 : m7) (H : Hp) (K : h8 → (List d6) → Hp → Prop) : Prop :=
 (x1.c6 = 2 →
 (O7.length + ([(d6.mk x1.f5 1)] : List d6).length) * 25 ≤ 140737488355328 ∧
 J4 (O7 ++ [(d6.mk x1.f5 1)]) x1 H K) ∧
 (¬ (x1.c6 = 2) →
 (x1.c6 = 4 →
 (O7.length + ([(d6.mk x1.f5 2)] : List d6).length) * 25 ≤ 140737488355328 ∧
 J4 (O7 ++ [(d6.mk x1.f5 2)]) x1 H K) ∧
 (¬ (x1.c6 = 4) →
 J4 O7 x1 H K))
theorem b0Z (x0 : h8) (O7 : (List d6)) (x1 : m7) (g0 : Nat) (U2 : Sl) (a0F : Frag) (a7s : RowL 128 2 r7 U2 O7 a0F) {w0 w : World} {ps0 : Nat → Prop} {H0 H : Hp} {K : h8 → (List d6) → Hp → Prop} {R : Value → World → Prop} {E : Pan} (I : Inv w0 ps0 H0 H [bx g0 126 [(vs U2)], a0F] w) (hR : ∀ (y0 : h8) (a4i : (List d6)) (a1J : Sl) (a1K : Frag) (H' : Hp) (w' : World) (_ : RowL 128 2 r7 a1J a4i a1K) (_ : Inv w0 ps0 H0 H' [bx g0 126 [(vs a1J)], a1K] w') (_ : K y0 a4i H'), R (Value.tuple #[]) w') (h : a1y x0 O7 x1 H K) : d5x (Value.pointer (some ⟨g0, 0, none⟩)) (Value.agg (f6 x1).toArray) w R E := by
 unfold a1y at h
 unfold d5x
 refine K2 I (cs := (f6 x1)) rfl fun g_2 w_3 I_4 k_5 => ?_
 have hj1 : ∀ (a2J : (List d6)) (a6f : Sl) (a6g : Frag) (H : Hp) (w : World) (_ : RowL 128 2 r7 a6f a2J a6g) (_ : Inv w0 ps0 H0 H [bx g0 126 [(vs a6f)], bx g_2 30 (f6 x1), a6g] w) (_ : J4 a2J x1 H K), c4q (Value.pointer (some ⟨g0, 0, none⟩)) (Value.pointer (some ⟨g_2, 0, none⟩)) w R E := by
  intro a2J a6f a6g H w c0M I h
  unfold c4q
  intro _
  unfold J4 at h
  refine a6 a0U ?_
  refine c5 (ld1 Tryd.isAgg28 ((I.bring 1).at1 (o := 3) (vs := [(vs x1.u6)]) (nb rfl) rfl)) ?_
  refine a6 (G2 _ _ _) ?_
  obtain ⟨e3a, d0a, h3R, h3S⟩ := h
  refine t6 (J := fun n l w => ∃ (s : Int × (List d6)) (H : Hp) (a2K : Sl) (a2L : Frag) , n = d0a s ∧ l = (match s with | (T6, L0) => [(vi T6)]) ∧ (match s with | (T6, L0) => RowL 128 2 r7 a2K L0 a2L) ∧ (match s with | (T6, L0) => Inv w0 ps0 H0 H [bx g0 126 [(vs a2K)], bx g_2 30 (f6 x1), a2L] w) ∧ e3a s H) ⟨_, (0, a2J), H, a6f, a6g, rfl, rfl, c0M, (((I.bring 2).bring 2).bring 2), h3R⟩ ?_
  rintro h9x τ_88 w next2 ⟨⟨T6, L0⟩, H, a2K, a2L, rfl, e3b, a8u, I, h3T⟩ hn2
  dsimp only at e3b I a8u
  simp only [List.map_cons, List.map_nil, List.cons.injEq, and_true] at e3b
  have e39 := e3b
  simp only [e39]
  obtain ⟨n2, hm2, h⟩ : ∃ n2 : (Int × (List d6)) → Hp → Prop, (∀ s' H', n2 s' H' → e3a s' H' ∧ d0a s' < d0a (T6, L0)) ∧ a0s x1.u6 (x1.u6.n : Int) x1 T6 L0 H n2 K := ⟨_, fun _ _ h => h, h3S (T6, L0) H (fun s' H' => e3a s' H' ∧ d0a s' < d0a (T6, L0)) h3T (fun _ _ a b => ⟨a, b⟩)⟩
  unfold d1t
  unfold a0s at h
  refine a6 (p6 _ _ _ _ _ _) ?_
  refine g8 (fun c0k => ?_) (fun c0k => ?_)
  ·replace h := h.1 c0k
   obtain ⟨b4i, a7B, a4J, b4p, h⟩ := h
   obtain ⟨h3U, h3V, c4t, b4p⟩ := b4p
   refine a6 (a2u c4t _ _ _ _ b4i a7B) ?_
   refine c5 (ldA (vs := (f6 a4J)) Tryd.isAgg30 Tryd.sizeOf30 rfl (I.atH b4p)) ?_
   refine L8 I Tryd.zeroValue30 (cs := [(vi 0), (vi 0), (Value.string ⟨#[]⟩), (Value.slice none 0 0)]) rfl fun h3W a6K c3J d3i => ?_
   refine u1 c3J Tryd.sizeOf30 (vs := (f6 a4J)) (cs' := (f6 a4J)) rfl rfl (nb rfl) rfl rfl fun N1 b4d d3f => ?_
   refine c5 (ldA Tryd.isAgg30 Tryd.sizeOf30 rfl (b4d.at1 (o := 0) (vs := (f6 a4J)) (nb rfl) rfl)) ?_
   refine f7 (cap := []) (fun args w => Tryd.call105 args w) ?_
   refine m2 (Fi := [bx g0 126 [(vs a2K)], a2L]) (Fr := [bx h3W 30 (f6 a4J), bx g_2 30 (f6 x1)]) ((b4d.bring 3).bring 2) (h g0 a2K a2L a8u) (fun h9y e2Z h9z a0e h3X h9A h9B h3Y => ?_) (fun _ _ _ _ _ q => q.elim)
   obtain ⟨h6i, c4s, e3c, e3d, rfl, rfl, e3e, h⟩ := h3Y
   refine a6 (o4 _ _ _ _ _ _) ?_
   exact hn2 _ _ _ (hm2 _ _ h).2 ⟨((IntKind.wrap .i64 (T6 + 1)), c4s), e2Z, e3c, e3d, rfl, rfl, e3e, ((((h3X.bring 2).drop.bring 1).bring 2).bring 2), (hm2 _ _ h).1⟩
  ·replace h := h.2 c0k
   exact hR (h8.mk (Sl.mk none 0 0)) L0 a2K a2L H _ a8u (((I.bring 1).drop.bring 1).bring 1) h
 refine o3 fun j1 hx1 => ?_
 refine a6 J6 ?_
 refine c5 (ld1 Tryd.isAgg3 (I_4.at1 (o := 0) (vs := [(vi x1.c6)]) (nb rfl) rfl)) ?_
 refine a6 (c8 _ _ _ _ _ _) ?_
 refine g8 (fun d5y => ?_) (fun d5y => ?_)
 ·replace h := h.1 d5y
  refine a5F I_4 fun w_6 I_7 => ?_
  refine q8 (m1 _) ?_
  refine q8 a2N ?_
  refine q8 a3G ?_
  refine M2 (ld1 Tryd.isAgg124 ((I_7.bring 1).at1 (o := 0) (vs := [(vs U2)]) (nb rfl) rfl)) ?_
  refine M2 (ld1 Tryd.isAgg9 (I_7.at1 (o := 2) (vs := [(Value.string x1.f5)]) (nb rfl) rfl)) ?_
  refine q8 (a7g _ _) ?_
  refine a5G (e := 128) (c := r7) (xs := [(d6.mk x1.f5 1)]) I_7 (b5k _ _) rfl rfl a6k a6l (nb rfl) fun s_9 h9C a1j a7d g5E h3Z => ?_
  refine ⟨(h3Z _ (I_7.bring 1).lt1), ?_⟩
  obtain ⟨b6z, h⟩ := h
  refine b8B (s := U2) (xs := O7) (g5E.bring 3) a7s (a7d.srcO ((g5E.bring 3).bring 1)) b6z fun e3f h4a a5M d0b b2x c3u => ?_
  refine q8 (m1 _) ?_
  refine q8 a2N ?_
  refine u1 ((b2x.bring 1).drop.bring 2) Tryd.sizeOf124 (vs := [(vs e3f)]) (cs' := [(vs e3f)]) rfl rfl (nb rfl) rfl rfl fun t1 h4b h9D => ?_
  exact hx1 _ _ (hj1 (O7 ++ [(d6.mk x1.f5 1)]) e3f h4a H _ d0b (((h4b.bring 1).bring 2).bring 2) h)
 ·replace h := h.2 d5y
  refine a6 (c8 _ _ _ _ _ _) ?_
  refine g8 (fun d5z => ?_) (fun d5z => ?_)
  ·replace h := h.1 d5z
   refine a5F I_4 fun h2c c3N => ?_
   refine q8 (m1 _) ?_
   refine q8 a2N ?_
   refine q8 a3G ?_
   refine M2 (ld1 Tryd.isAgg124 ((c3N.bring 1).at1 (o := 0) (vs := [(vs U2)]) (nb rfl) rfl)) ?_
   refine M2 (ld1 Tryd.isAgg9 (c3N.at1 (o := 2) (vs := [(Value.string x1.f5)]) (nb rfl) rfl)) ?_
   refine q8 (a7g _ _) ?_
   refine a5G (e := 128) (c := r7) (xs := [(d6.mk x1.f5 2)]) c3N (b5k _ _) rfl rfl a6k a6l (nb rfl) fun f6x h2b a2V c9c g5F h4c => ?_
   refine ⟨(h4c _ (c3N.bring 1).lt1), ?_⟩
   obtain ⟨g9q, h⟩ := h
   refine b8B (s := U2) (xs := O7) (g5F.bring 3) a7s (c9c.srcO ((g5F.bring 3).bring 1)) g9q fun d5A g9r a1G d4U g9s h6j => ?_
   refine q8 (m1 _) ?_
   refine q8 a2N ?_
   refine u1 ((g9s.bring 1).drop.bring 2) Tryd.sizeOf124 (vs := [(vs d5A)]) (cs' := [(vs d5A)]) rfl rfl (nb rfl) rfl rfl fun h6k g9t h6l => ?_
   exact hx1 _ _ (hj1 (O7 ++ [(d6.mk x1.f5 2)]) d5A g9r H _ d4U (((g9t.bring 1).bring 2).bring 2) h)
  ·replace h := h.2 d5z
   exact hx1 _ _ (hj1 O7 U2 a0F H _ a7s (((I_4.bring 2).bring 1).bring 2) h)
theorem b1D (x0 : h8) (O7 : (List d6)) (x1 : m7) {H : Hp} {K : h8 → (List d6) → Hp → Prop} (h : a1y x0 O7 x1 H K) : W6 x0 O7 x1 H K := by
 intro g0 U2 a0F a7s w I
 refine e9f ?_
 refine b0Z x0 O7 x1 g0 U2 a0F a7s I (fun y0 a4i a1J a1K H' w' b8q I' hk => ⟨H', _, I', y0, a4i, a1J, a1K, rfl, rfl, b8q, hk⟩) h
def a0t (e4s : Sl) (e4t : Int) (_cr_1l2 : m8) (a5q : Int) (L0 : (List d6)) (H : Hp) (n2 : (Int × (List d6)) → Hp → Prop) (K : h8 → (List d6) → Hp → Prop) : Prop :=
 (a5q < e4t →
 (0 : Int) ≤ a5q ∧ (a5q : Int) < e4s.n ∧ ∃ b8r : m8, EltH H e4s a5q 4 (g7 b8r) ∧
 a1q (h8.mk (Sl.mk none 0 0)) L0 b8r H (fun (_y0_86 : h8) (c4u : (List d6)) (a2h : Hp) =>
 n2 ((IntKind.wrap .i64 (a5q + 1)), c4u) a2h)) ∧
 (¬ (a5q < e4t) →
 K (h8.mk (Sl.mk none 0 0)) L0 H)
def a0u (cr_1j1 : m8) (a2J : (List d6)) (H : Hp) (K : h8 → (List d6) → Hp → Prop) : Prop :=
 TL ((0, a2J) : Int × (List d6)) H fun (s : Int × (List d6)) H n2 => a0t cr_1j1.p5 (cr_1j1.p5.n : Int) cr_1j1 s.1 s.2 H n2 K
def a0v (b6q : Sl) (X9 : Int) (cr_1l3 : m8) (G1 : Int) (a3u : (List d6)) (H : Hp) (n3 : (Int × (List d6)) → Hp → Prop) (K : h8 → (List d6) → Hp → Prop) : Prop :=
 (G1 < X9 →
 (0 : Int) ≤ G1 ∧ (G1 : Int) < b6q.n ∧ ∃ b3P : m7, EltH H b6q G1 4 (f6 b3P) ∧
 W6 (h8.mk (Sl.mk none 0 0)) a3u b3P H (fun (_y0_128 : h8) (c0N : (List d6)) (d5B : Hp) =>
 n3 ((IntKind.wrap .i64 (G1 + 1)), c0N) d5B)) ∧
 (¬ (G1 < X9) →
 a0u cr_1l3 a3u H K)
def a1z (_x0 : h8) (O7 : (List d6)) (x1 : m8) (H : Hp) (K : h8 → (List d6) → Hp → Prop) : Prop :=
 TL ((0, O7) : Int × (List d6)) H fun (s : Int × (List d6)) H n3 => a0v x1.g5 (x1.g5.n : Int) x1 s.1 s.2 H n3 K
theorem b1a (x0 : h8) (O7 : (List d6)) (x1 : m8) (g0 : Nat) (U2 : Sl) (a0F : Frag) (a7s : RowL 128 2 r7 U2 O7 a0F) {w0 w : World} {ps0 : Nat → Prop} {H0 H : Hp} {K : h8 → (List d6) → Hp → Prop} {R : Value → World → Prop} {E : Pan} (I : Inv w0 ps0 H0 H [bx g0 126 [(vs U2)], a0F] w) (hR : ∀ (y0 : h8) (a4i : (List d6)) (a1J : Sl) (a1K : Frag) (H' : Hp) (w' : World) (_ : RowL 128 2 r7 a1J a4i a1K) (_ : Inv w0 ps0 H0 H' [bx g0 126 [(vs a1J)], a1K] w') (_ : K y0 a4i H'), R (Value.tuple #[]) w') (h : a1z x0 O7 x1 H K) : d5w (Value.pointer (some ⟨g0, 0, none⟩)) (Value.agg (g7 x1).toArray) w R E := by
 unfold a1z at h
 unfold d5w
 refine K2 I (cs := (g7 x1)) rfl fun g_2 w_3 I_4 k_5 => ?_
 have hj1 : ∀ (a2J : (List d6)) (a6f : Sl) (a6g : Frag) (H : Hp) (w : World) (_ : RowL 128 2 r7 a6f a2J a6g) (_ : Inv w0 ps0 H0 H [bx g_2 33 (g7 x1), bx g0 126 [(vs a6f)], a6g] w) (_ : a0u x1 a2J H K), c4p (Value.pointer (some ⟨g0, 0, none⟩)) (Value.pointer (some ⟨g_2, 0, none⟩)) w R E := by
  intro a2J a6f a6g H w c0M I h
  unfold c4p
  intro _
  unfold a0u at h
  refine a6 a0W ?_
  refine c5 (ld1 Tryd.isAgg31 (I.at1 (o := 3) (vs := [(vs x1.p5)]) (nb rfl) rfl)) ?_
  refine a6 (Q7 _ _ _) ?_
  obtain ⟨e3g, d0c, h4d, h4e⟩ := h
  refine t6 (J := fun n l w => ∃ (s : Int × (List d6)) (H : Hp) (a2K : Sl) (a2L : Frag) , n = d0c s ∧ l = (match s with | (a5q, L0) => [(vi a5q)]) ∧ (match s with | (a5q, L0) => RowL 128 2 r7 a2K L0 a2L) ∧ (match s with | (a5q, L0) => Inv w0 ps0 H0 H [bx g_2 33 (g7 x1), bx g0 126 [(vs a2K)], a2L] w) ∧ e3g s H) ⟨_, (0, a2J), H, a6f, a6g, rfl, rfl, c0M, (((I.bring 2).bring 2).bring 2), h4d⟩ ?_
  rintro h9E τ_93 w next2 ⟨⟨a5q, L0⟩, H, a2K, a2L, rfl, e3h, a8u, I, h4f⟩ hn2
  dsimp only at e3h I a8u
  simp only [List.map_cons, List.map_nil, List.cons.injEq, and_true] at e3h
  have e22 := e3h
  simp only [e22]
  obtain ⟨n2, hm2, h⟩ : ∃ n2 : (Int × (List d6)) → Hp → Prop, (∀ s' H', n2 s' H' → e3g s' H' ∧ d0c s' < d0c (a5q, L0)) ∧ a0t x1.p5 (x1.p5.n : Int) x1 a5q L0 H n2 K := ⟨_, fun _ _ h => h, h4e (a5q, L0) H (fun s' H' => e3g s' H' ∧ d0c s' < d0c (a5q, L0)) h4f (fun _ _ a b => ⟨a, b⟩)⟩
  unfold d1r
  unfold a0t at h
  refine a6 (p6 _ _ _ _ _ _) ?_
  refine g8 (fun b2O => ?_) (fun b2O => ?_)
  ·replace h := h.1 b2O
   obtain ⟨h4g, h4h, b8r, e3i, h⟩ := h
   obtain ⟨h9F, h9G, h4i, e3i⟩ := e3i
   refine a6 (a5I h4i _ _ _ _ h4g h4h) ?_
   refine c5 (ldA (vs := (g7 b8r)) Tryd.isAgg33 Tryd.sizeOf33 rfl (I.atH e3i)) ?_
   refine L8 I Tryd.zeroValue33 (cs := [(vi 0), (vi 0), (Value.slice none 0 0), (Value.slice none 0 0)]) rfl fun h4j W0 e2G h3x => ?_
   refine u1 e2G Tryd.sizeOf33 (vs := (g7 b8r)) (cs' := (g7 b8r)) rfl rfl (nb rfl) rfl rfl fun g3N g5G h9H => ?_
   refine c5 (ldA Tryd.isAgg33 Tryd.sizeOf33 rfl (g5G.at1 (o := 0) (vs := (g7 b8r)) (nb rfl) rfl)) ?_
   refine f7 (cap := []) (fun args w => Tryd.call104 args w) ?_
   refine m2 (Fi := [bx g0 126 [(vs a2K)], a2L]) (Fr := [bx h4j 33 (g7 b8r), bx g_2 33 (g7 x1)]) ((g5G.bring 3).bring 3) (h g0 a2K a2L a8u) (fun b7T a2h f6w b4e b4f c3H c3I c7H => ?_) (fun _ _ _ _ _ q => q.elim)
   obtain ⟨h6m, c4u, e3j, e3k, rfl, rfl, e3l, h⟩ := c7H
   refine a6 (o4 _ _ _ _ _ _) ?_
   exact hn2 _ _ _ (hm2 _ _ h).2 ⟨((IntKind.wrap .i64 (a5q + 1)), c4u), a2h, e3j, e3k, rfl, rfl, e3l, ((((b4f.bring 2).drop.bring 1).bring 1).bring 2), (hm2 _ _ h).1⟩
  ·replace h := h.2 b2O
   exact hR (h8.mk (Sl.mk none 0 0)) L0 a2K a2L H _ a8u ((I.drop.bring 1).bring 1) h
 refine o3 fun j1 hx1 => ?_
 refine a6 a0V ?_
 refine c5 (ld1 Tryd.isAgg28 (I_4.at1 (o := 2) (vs := [(vs x1.g5)]) (nb rfl) rfl)) ?_
 refine a6 (G2 _ _ _) ?_
 obtain ⟨d5C, c2C, g9u, g9v⟩ := h
 refine t6 (J := fun n l w => ∃ (s : Int × (List d6)) (H : Hp) (b0l : Sl) (b0m : Frag) , n = c2C s ∧ l = (match s with | (G1, a3u) => [(vi G1)]) ∧ (match s with | (G1, a3u) => RowL 128 2 r7 b0l a3u b0m) ∧ (match s with | (G1, a3u) => Inv w0 ps0 H0 H [bx g_2 33 (g7 x1), bx g0 126 [(vs b0l)], b0m] w) ∧ d5C s H) ⟨_, (0, O7), H, U2, a0F, rfl, rfl, a7s, (((I_4.bring 2).bring 2).bring 2), g9u⟩ ?_
 rintro h6n τ_135 w next3 ⟨⟨G1, a3u⟩, H, b0l, b0m, rfl, c5h, c0O, I, g9w⟩ hn3
 dsimp only at c5h I c0O
 simp only [List.map_cons, List.map_nil, List.cons.injEq, and_true] at c5h
 have e11 := c5h
 simp only [e11]
 obtain ⟨n3, hm3, h⟩ : ∃ n3 : (Int × (List d6)) → Hp → Prop, (∀ s' H', n3 s' H' → d5C s' H' ∧ c2C s' < c2C (G1, a3u)) ∧ a0v x1.g5 (x1.g5.n : Int) x1 G1 a3u H n3 K := ⟨_, fun _ _ h => h, g9v (G1, a3u) H (fun s' H' => d5C s' H' ∧ c2C s' < c2C (G1, a3u)) g9w (fun _ _ a b => ⟨a, b⟩)⟩
 unfold d1s
 unfold a0v at h
 refine a6 (p6 _ _ _ _ _ _) ?_
 refine g8 (fun d5D => ?_) (fun d5D => ?_)
 ·replace h := h.1 d5D
  obtain ⟨g9x, g9y, b3P, d5E, h⟩ := h
  obtain ⟨h6o, h6p, g9z, d5E⟩ := d5E
  refine a6 (a2u g9z _ _ _ _ g9x g9y) ?_
  refine c5 (ldA (vs := (f6 b3P)) Tryd.isAgg30 Tryd.sizeOf30 rfl (I.atH d5E)) ?_
  refine L8 I Tryd.zeroValue30 (cs := [(vi 0), (vi 0), (Value.string ⟨#[]⟩), (Value.slice none 0 0)]) rfl fun g9A a2j g9B h6q => ?_
  refine u1 g9B Tryd.sizeOf30 (vs := (f6 b3P)) (cs' := (f6 b3P)) rfl rfl (nb rfl) rfl rfl fun h6r e4u h6s => ?_
  refine c5 (ldA Tryd.isAgg30 Tryd.sizeOf30 rfl (e4u.at1 (o := 0) (vs := (f6 b3P)) (nb rfl) rfl)) ?_
  refine f7 (cap := []) (fun args w => Tryd.call105 args w) ?_
  refine m2 (Fi := [bx g0 126 [(vs b0l)], b0m]) (Fr := [bx g9A 30 (f6 b3P), bx g_2 33 (g7 x1)]) ((e4u.bring 3).bring 3) (h g0 b0l b0m c0O) (fun h6t d5B h6u h6v g9C d3F h6w g9D => ?_) (fun _ _ _ _ _ q => q.elim)
  obtain ⟨h4D, c0N, d8R, d8S, rfl, rfl, d8T, h⟩ := g9D
  refine a6 (o4 _ _ _ _ _ _) ?_
  exact hn3 _ _ _ (hm3 _ _ h).2 ⟨((IntKind.wrap .i64 (G1 + 1)), c0N), d5B, d8R, d8S, rfl, rfl, d8T, ((((g9C.bring 2).drop.bring 1).bring 1).bring 2), (hm3 _ _ h).1⟩
 ·replace h := h.2 d5D
  exact hx1 _ _ (hj1 a3u b0l b0m H _ c0O (((I.bring 2).bring 2).bring 2) h)
theorem b1E (x0 : h8) (O7 : (List d6)) (x1 : m8) {H : Hp} {K : h8 → (List d6) → Hp → Prop} (h : a1z x0 O7 x1 H K) : a1q x0 O7 x1 H K := by
 intro g0 U2 a0F a7s w I
 refine e9d ?_
 refine b1a x0 O7 x1 g0 U2 a0F a7s I (fun y0 a4i a1J a1K H' w' b8q I' hk => ⟨H', _, I', y0, a4i, a1J, a1K, rfl, rfl, b8q, hk⟩) h
def Y5 (_s10j2 : Sl) (_s11j2 : Int) (g9E : Int) (b0n : (List d6)) (H : Hp) (n1 : (Int × (List d6)) → Hp → Prop) (_K : h8 → (List d6) → Hp → Prop) : Prop :=
 n1 ((IntKind.wrap .i64 (g9E + 1)), b0n) H
def Y6 (g9F : Sl) (d2A : Int) (g9G : Int) (b3r : (List d6)) (cr_222j5 : l9) (H : Hp) (n1 : (Int × (List d6)) → Hp → Prop) (K : h8 → (List d6) → Hp → Prop) : Prop :=
 U1 (h8.mk (Sl.mk none 0 0)) b3r cr_222j5.A9 H (fun (_y0_305 : h8) (d0d : (List d6)) (e4v : Hp) =>
 U1 (h8.mk (Sl.mk none 0 0)) d0d cr_222j5.y8 e4v (fun (_y0_314 : h8) (c0P : (List d6)) (d5F : Hp) =>
 Y5 g9F d2A g9G c0P d5F n1 K))
def Y7 (g9H : Sl) (g9I : Int) (g9J : Int) (e4w : Sl) (e4x : Int) (cr_222l6 : l9) (a5r : Int) (a3v : (List d6)) (H : Hp) (n1 : (Int × (List d6)) → Hp → Prop) (n6 : (Int × (List d6)) → Hp → Prop) (K : h8 → (List d6) → Hp → Prop) : Prop :=
 (a5r < e4x →
 (0 : Int) ≤ a5r ∧ (a5r : Int) < e4w.n ∧ ∃ b3Q : m7, EltH H e4w a5r 4 (f6 b3Q) ∧
 W6 (h8.mk (Sl.mk none 0 0)) a3v b3Q H (fun (_y0_347 : h8) (c0Q : (List d6)) (d5G : Hp) =>
 n6 ((IntKind.wrap .i64 (a5r + 1)), c0Q) d5G)) ∧
 (¬ (a5r < e4x) →
 Y6 g9H g9I g9J a3v cr_222l6 H n1 K)
def Y8 (g9K : Sl) (g9L : Int) (g9M : Int) (b0o : (List d6)) (cr_222j4 : l9) (H : Hp) (n1 : (Int × (List d6)) → Hp → Prop) (K : h8 → (List d6) → Hp → Prop) : Prop :=
 TL ((0, b0o) : Int × (List d6)) H fun (s : Int × (List d6)) H n6 => Y7 g9K g9L g9M cr_222j4.g5 (cr_222j4.g5.n : Int) cr_222j4 s.1 s.2 H n1 n6 K
def Y9 (g9N : Sl) (g9O : Int) (g9P : Int) (e4y : Sl) (e4z : Int) (cr_222l7 : l9) (a5s : Int) (a3w : (List d6)) (H : Hp) (n1 : (Int × (List d6)) → Hp → Prop) (n7 : (Int × (List d6)) → Hp → Prop) (K : h8 → (List d6) → Hp → Prop) : Prop :=
 (a5s < e4z →
 (0 : Int) ≤ a5s ∧ (a5s : Int) < e4y.n ∧ ∃ b3R : m8, EltH H e4y a5s 4 (g7 b3R) ∧
 a1q (h8.mk (Sl.mk none 0 0)) a3w b3R H (fun (_y0_389 : h8) (c0R : (List d6)) (d5H : Hp) =>
 n7 ((IntKind.wrap .i64 (a5s + 1)), c0R) d5H)) ∧
 (¬ (a5s < e4z) →
 Y8 g9N g9O g9P a3w cr_222l7 H n1 K)
def G3 (g9Q : Sl) (b3M : Int) (g9R : Int) (b0p : (List d6)) (cr_222j3 : l9) (H : Hp) (n1 : (Int × (List d6)) → Hp → Prop) (K : h8 → (List d6) → Hp → Prop) : Prop :=
 TL ((0, b0p) : Int × (List d6)) H fun (s : Int × (List d6)) H n7 => Y9 g9Q b3M g9R cr_222j3.m4 (cr_222j3.m4.n : Int) cr_222j3 s.1 s.2 H n1 n7 K
def Z1 (c2D : Sl) (c2E : Int) (Z2 : Int) (P0 : (List d6)) (H : Hp) (n1 : (Int × (List d6)) → Hp → Prop) (K : h8 → (List d6) → Hp → Prop) : Prop :=
 (Z2 < c2E →
 (0 : Int) ≤ Z2 ∧ (Z2 : Int) < c2D.n ∧ ∃ G7 : l9, EltH H c2D Z2 6 (d8 G7) ∧
 (G7.c6 = 1 →
 (P0.length + ([(d6.mk G7.f5 1)] : List d6).length) * 25 ≤ 140737488355328 ∧
 G3 c2D c2E Z2 (P0 ++ [(d6.mk G7.f5 1)]) G7 H n1 K) ∧
 (¬ (G7.c6 = 1) →
 (G7.c6 = 2 →
 (P0.length + ([(d6.mk G7.f5 2)] : List d6).length) * 25 ≤ 140737488355328 ∧
 G3 c2D c2E Z2 (P0 ++ [(d6.mk G7.f5 2)]) G7 H n1 K) ∧
 (¬ (G7.c6 = 2) →
 G3 c2D c2E Z2 P0 G7 H n1 K))) ∧
 (¬ (Z2 < c2E) →
 K (h8.mk (Sl.mk none 0 0)) P0 H)
def a1h (_x0 : h8) (O7 : (List d6)) (x1 : Sl) (H : Hp) (K : h8 → (List d6) → Hp → Prop) : Prop :=
 TL ((0, O7) : Int × (List d6)) H fun (s : Int × (List d6)) H n1 => Z1 x1 (x1.n : Int) s.1 s.2 H n1 K
theorem b0M (x0 : h8) (O7 : (List d6)) (x1 : Sl) (g0 : Nat) (U2 : Sl) (a0F : Frag) (a7s : RowL 128 2 r7 U2 O7 a0F) {w0 w : World} {ps0 : Nat → Prop} {H0 H : Hp} {K : h8 → (List d6) → Hp → Prop} {R : Value → World → Prop} {E : Pan} (I : Inv w0 ps0 H0 H [bx g0 126 [(vs U2)], a0F] w) (hR : ∀ (y0 : h8) (a4i : (List d6)) (a1J : Sl) (a1K : Frag) (H' : Hp) (w' : World) (_ : RowL 128 2 r7 a1J a4i a1K) (_ : Inv w0 ps0 H0 H' [bx g0 126 [(vs a1J)], a1K] w') (_ : K y0 a4i H'), R (Value.tuple #[]) w') (h : a1h x0 O7 x1 H K) : F76 (Value.pointer (some ⟨g0, 0, none⟩)) (vs x1) w R E := by
 unfold a1h at h
 unfold F76
 refine a6 (M5 _ _ _) ?_
 obtain ⟨d5I, c2F, g9S, g9T⟩ := h
 refine t6 (J := fun n l w => ∃ (s : Int × (List d6)) (H : Hp) (a6h : Sl) (b3s : Frag) , n = c2F s ∧ l = (match s with | (Z2, P0) => [(vi Z2)]) ∧ (match s with | (Z2, P0) => RowL 128 2 r7 a6h P0 b3s) ∧ (match s with | (Z2, P0) => Inv w0 ps0 H0 H [bx g0 126 [(vs a6h)], b3s] w) ∧ d5I s H) ⟨_, (0, O7), H, U2, a0F, rfl, rfl, a7s, ((I.bring 1).bring 1), g9S⟩ ?_
 rintro h6x τ_426 w next1 ⟨⟨Z2, P0⟩, H, a6h, b3s, rfl, d5J, b3t, I, g9U⟩ hn1
 dsimp only at d5J I b3t
 simp only [List.map_cons, List.map_nil, List.cons.injEq, and_true] at d5J
 have e12 := d5J
 simp only [e12]
 obtain ⟨n1, hm1, h⟩ : ∃ n1 : (Int × (List d6)) → Hp → Prop, (∀ s' H', n1 s' H' → d5I s' H' ∧ c2F s' < c2F (Z2, P0)) ∧ Z1 x1 (x1.n : Int) Z2 P0 H n1 K := ⟨_, fun _ _ h => h, g9T (Z2, P0) H (fun s' H' => d5I s' H' ∧ c2F s' < c2F (Z2, P0)) g9U (fun _ _ a b => ⟨a, b⟩)⟩
 unfold d8L
 unfold Z1 at h
 refine a6 (p6 _ _ _ _ _ _) ?_
 refine g8 (fun d5K => ?_) (fun d5K => ?_)
 ·replace h := h.1 d5K
  have hj2 : ∀ (b0n : (List d6)) (b6A : Sl) (b6B : Frag) (H : Hp) (w : World) (_ : RowL 128 2 r7 b6A b0n b6B) (_ : Inv w0 ps0 H0 H [bx g0 126 [(vs b6A)], b6B] w) (_ : Y5 x1 (x1.n : Int) Z2 b0n H n1 K), c9S (Value.pointer (some ⟨g0, 0, none⟩)) (vs x1) (vi (x1.n : Int)) (vi Z2) w next1 R E := by
   intro b0n b6A b6B H w e3m I h
   unfold c9S
   intro _
   unfold Y5 at h
   refine a6 (o4 _ _ _ _ _ _) ?_
   exact hn1 _ _ _ (hm1 _ _ h).2 ⟨((IntKind.wrap .i64 (Z2 + 1)), b0n), H, b6A, b6B, rfl, rfl, e3m, ((I.bring 1).bring 1), (hm1 _ _ h).1⟩
  refine o3 fun j2 hx2 => ?_
  obtain ⟨g9V, g9W, G7, d5L, h⟩ := h
  obtain ⟨h6y, h6z, g9X, d5L⟩ := d5L
  refine a6 (a5J g9X _ _ _ _ g9V g9W) ?_
  refine c5 (ldA (vs := (d8 G7)) Tryd.isAgg88 Tryd.sizeOf88 rfl (I.atH d5L)) ?_
  refine L8 I Tryd.zeroValue88 (cs := [(vi 0), (Value.string ⟨#[]⟩), (Value.slice none 0 0), (Value.slice none 0 0), (Value.slice none 0 0), (Value.slice none 0 0)]) rfl fun a7T e3T g9Y h6A => ?_
  refine u1 g9Y Tryd.sizeOf88 (vs := (d8 G7)) (cs' := (d8 G7)) rfl rfl (nb rfl) rfl rfl fun h6B c5u h6C => ?_
  have hj3 : ∀ (b0p : (List d6)) (b6C : Sl) (b6D : Frag) (H : Hp) (w : World) (_ : RowL 128 2 r7 b6C b0p b6D) (_ : Inv w0 ps0 H0 H [bx g0 126 [(vs b6C)], bx a7T 88 (d8 G7), b6D] w) (_ : G3 x1 (x1.n : Int) Z2 b0p G7 H n1 K), c9V (Value.pointer (some ⟨g0, 0, none⟩)) (Value.pointer (some ⟨a7T, 0, none⟩)) (vs x1) (vi (x1.n : Int)) (vi Z2) w j2 R E := by
   intro b0p b6C b6D H w e3n I h
   unfold c9V
   intro _
   unfold G3 at h
   have hj4 : ∀ (b0o : (List d6)) (b6E : Sl) (b6F : Frag) (H : Hp) (w : World) (_ : RowL 128 2 r7 b6E b0o b6F) (_ : Inv w0 ps0 H0 H [bx g0 126 [(vs b6E)], bx a7T 88 (d8 G7), b6F] w) (_ : Y8 x1 (x1.n : Int) Z2 b0o G7 H n1 K), c9U (Value.pointer (some ⟨g0, 0, none⟩)) (Value.pointer (some ⟨a7T, 0, none⟩)) (vs x1) (vi (x1.n : Int)) (vi Z2) w j2 R E := by
    intro b0o b6E b6F H w e3o I h
    unfold c9U
    intro _
    unfold Y8 at h
    have hj5 : ∀ (b3r : (List d6)) (b3u : Sl) (b3v : Frag) (H : Hp) (w : World) (_ : RowL 128 2 r7 b3u b3r b3v) (_ : Inv w0 ps0 H0 H [bx g0 126 [(vs b3u)], bx a7T 88 (d8 G7), b3v] w) (_ : Y6 x1 (x1.n : Int) Z2 b3r G7 H n1 K), c9T (Value.pointer (some ⟨g0, 0, none⟩)) (Value.pointer (some ⟨a7T, 0, none⟩)) (vs x1) (vi (x1.n : Int)) (vi Z2) w j2 R E := by
     intro b3r b3u b3v H w e3p I h
     unfold c9T
     intro _
     unfold Y6 at h
     refine a6 a1F ?_
     refine c5 (ld1 Tryd.isAgg23 ((I.bring 1).at1 (o := 4) (vs := [(vs G7.A9)]) (nb rfl) rfl)) ?_
     refine f7 (cap := []) (fun args w => Tryd.call76 args w) ?_
     refine m2 (Fi := [bx g0 126 [(vs b3u)], b3v]) (Fr := [bx a7T 88 (d8 G7)]) ((I.bring 2).bring 1) (h g0 b3u b3v e3p) (fun h6D e4v h6E h6F e4A h6G h6H g9Z => ?_) (fun _ _ _ _ _ q => q.elim)
     obtain ⟨h4E, d0d, c4R, c4S, rfl, rfl, d8U, h⟩ := g9Z
     refine a6 W5 ?_
     refine c5 (ld1 Tryd.isAgg23 ((e4A.bring 2).at1 (o := 5) (vs := [(vs G7.y8)]) (nb rfl) rfl)) ?_
     refine f7 (cap := []) (fun args w => Tryd.call76 args w) ?_
     refine m2 (Fi := [bx g0 126 [(vs c4R)], c4S]) (Fr := [bx a7T 88 (d8 G7)]) ((e4A.bring 1).bring 1) (h g0 c4R c4S d8U) (fun h6I d5F h6J h6K h0a h6L h6M h0b => ?_) (fun _ _ _ _ _ q => q.elim)
     obtain ⟨h4F, c0P, d8V, d8W, rfl, rfl, d8X, h⟩ := h0b
     exact hx2 _ _ (hj2 c0P d8V d8W d5F _ d8X (((h0a.bring 2).drop.bring 1).bring 1) h)
    refine o3 fun j5 hx5 => ?_
    refine a6 a0X ?_
    refine c5 (ld1 Tryd.isAgg28 ((I.bring 1).at1 (o := 2) (vs := [(vs G7.g5)]) (nb rfl) rfl)) ?_
    refine a6 (G2 _ _ _) ?_
    obtain ⟨d5M, c2G, h0c, h0d⟩ := h
    refine t6 (J := fun n l w => ∃ (s : Int × (List d6)) (H : Hp) (b0q : Sl) (b0r : Frag) , n = c2G s ∧ l = (match s with | (a5r, a3v) => [(vi a5r)]) ∧ (match s with | (a5r, a3v) => RowL 128 2 r7 b0q a3v b0r) ∧ (match s with | (a5r, a3v) => Inv w0 ps0 H0 H [bx g0 126 [(vs b0q)], bx a7T 88 (d8 G7), b0r] w) ∧ d5M s H) ⟨_, (0, b0o), H, b6E, b6F, rfl, rfl, e3o, (((I.bring 2).bring 2).bring 2), h0c⟩ ?_
    rintro h6N τ_354 w next6 ⟨⟨a5r, a3v⟩, H, b0q, b0r, rfl, d5N, c0S, I, h0e⟩ hn6
    dsimp only at d5N I c0S
    simp only [List.map_cons, List.map_nil, List.cons.injEq, and_true] at d5N
    have e60 := d5N
    simp only [e60]
    obtain ⟨n6, hm6, h⟩ : ∃ n6 : (Int × (List d6)) → Hp → Prop, (∀ s' H', n6 s' H' → d5M s' H' ∧ c2G s' < c2G (a5r, a3v)) ∧ Y7 x1 (x1.n : Int) Z2 G7.g5 (G7.g5.n : Int) G7 a5r a3v H n1 n6 K := ⟨_, fun _ _ h => h, h0d (a5r, a3v) H (fun s' H' => d5M s' H' ∧ c2G s' < c2G (a5r, a3v)) h0e (fun _ _ a b => ⟨a, b⟩)⟩
    unfold d8I
    unfold Y7 at h
    refine a6 (p6 _ _ _ _ _ _) ?_
    refine g8 (fun d5O => ?_) (fun d5O => ?_)
    ·replace h := h.1 d5O
     obtain ⟨h0f, h0g, b3Q, d5P, h⟩ := h
     obtain ⟨h6O, h6P, h0h, d5P⟩ := d5P
     refine a6 (a2u h0h _ _ _ _ h0f h0g) ?_
     refine c5 (ldA (vs := (f6 b3Q)) Tryd.isAgg30 Tryd.sizeOf30 rfl (I.atH d5P)) ?_
     refine L8 I Tryd.zeroValue30 (cs := [(vi 0), (vi 0), (Value.string ⟨#[]⟩), (Value.slice none 0 0)]) rfl fun h0i h6Q h0j h6R => ?_
     refine u1 h0j Tryd.sizeOf30 (vs := (f6 b3Q)) (cs' := (f6 b3Q)) rfl rfl (nb rfl) rfl rfl fun h6S e4B h6T => ?_
     refine c5 (ldA Tryd.isAgg30 Tryd.sizeOf30 rfl (e4B.at1 (o := 0) (vs := (f6 b3Q)) (nb rfl) rfl)) ?_
     refine f7 (cap := []) (fun args w => Tryd.call105 args w) ?_
     refine m2 (Fi := [bx g0 126 [(vs b0q)], b0r]) (Fr := [bx h0i 30 (f6 b3Q), bx a7T 88 (d8 G7)]) ((e4B.bring 3).bring 2) (h g0 b0q b0r c0S) (fun h6U d5G h6V h6W h0l h6X h6Y h0m => ?_) (fun _ _ _ _ _ q => q.elim)
     obtain ⟨h4G, c0Q, d8Y, d8Z, rfl, rfl, d9a, h⟩ := h0m
     refine a6 (o4 _ _ _ _ _ _) ?_
     exact hn6 _ _ _ (hm6 _ _ h).2 ⟨((IntKind.wrap .i64 (a5r + 1)), c0Q), d5G, d8Y, d8Z, rfl, rfl, d9a, ((((h0l.bring 2).drop.bring 1).bring 2).bring 2), (hm6 _ _ h).1⟩
    ·replace h := h.2 d5O
     exact hx5 _ _ (hj5 a3v b0q b0r H _ c0S (((I.bring 2).bring 2).bring 2) h)
   refine o3 fun j4 hx4 => ?_
   refine a6 a0Y ?_
   refine c5 (ld1 Tryd.isAgg31 ((I.bring 1).at1 (o := 3) (vs := [(vs G7.m4)]) (nb rfl) rfl)) ?_
   refine a6 (Q7 _ _ _) ?_
   obtain ⟨d5Q, c2H, h0n, h0o⟩ := h
   refine t6 (J := fun n l w => ∃ (s : Int × (List d6)) (H : Hp) (b0s : Sl) (b0t : Frag) , n = c2H s ∧ l = (match s with | (a5s, a3w) => [(vi a5s)]) ∧ (match s with | (a5s, a3w) => RowL 128 2 r7 b0s a3w b0t) ∧ (match s with | (a5s, a3w) => Inv w0 ps0 H0 H [bx g0 126 [(vs b0s)], bx a7T 88 (d8 G7), b0t] w) ∧ d5Q s H) ⟨_, (0, b0p), H, b6C, b6D, rfl, rfl, e3n, (((I.bring 2).bring 2).bring 2), h0n⟩ ?_
   rintro h6Z τ_396 w next7 ⟨⟨a5s, a3w⟩, H, b0s, b0t, rfl, d5R, c0T, I, h0p⟩ hn7
   dsimp only at d5R I c0T
   simp only [List.map_cons, List.map_nil, List.cons.injEq, and_true] at d5R
   have e49 := d5R
   simp only [e49]
   obtain ⟨n7, hm7, h⟩ : ∃ n7 : (Int × (List d6)) → Hp → Prop, (∀ s' H', n7 s' H' → d5Q s' H' ∧ c2H s' < c2H (a5s, a3w)) ∧ Y9 x1 (x1.n : Int) Z2 G7.m4 (G7.m4.n : Int) G7 a5s a3w H n1 n7 K := ⟨_, fun _ _ h => h, h0o (a5s, a3w) H (fun s' H' => d5Q s' H' ∧ c2H s' < c2H (a5s, a3w)) h0p (fun _ _ a b => ⟨a, b⟩)⟩
   unfold d8J
   unfold Y9 at h
   refine a6 (p6 _ _ _ _ _ _) ?_
   refine g8 (fun d5S => ?_) (fun d5S => ?_)
   ·replace h := h.1 d5S
    obtain ⟨h0q, h0r, b3R, d5T, h⟩ := h
    obtain ⟨h7a, h7b, h0t, d5T⟩ := d5T
    refine a6 (a5I h0t _ _ _ _ h0q h0r) ?_
    refine c5 (ldA (vs := (g7 b3R)) Tryd.isAgg33 Tryd.sizeOf33 rfl (I.atH d5T)) ?_
    refine L8 I Tryd.zeroValue33 (cs := [(vi 0), (vi 0), (Value.slice none 0 0), (Value.slice none 0 0)]) rfl fun h0u h7c h0v h7d => ?_
    refine u1 h0v Tryd.sizeOf33 (vs := (g7 b3R)) (cs' := (g7 b3R)) rfl rfl (nb rfl) rfl rfl fun h7e e4C h7f => ?_
    refine c5 (ldA Tryd.isAgg33 Tryd.sizeOf33 rfl (e4C.at1 (o := 0) (vs := (g7 b3R)) (nb rfl) rfl)) ?_
    refine f7 (cap := []) (fun args w => Tryd.call104 args w) ?_
    refine m2 (Fi := [bx g0 126 [(vs b0s)], b0t]) (Fr := [bx h0u 33 (g7 b3R), bx a7T 88 (d8 G7)]) ((e4C.bring 3).bring 2) (h g0 b0s b0t c0T) (fun h7g d5H h7h h7i h0w h7j h7k h0x => ?_) (fun _ _ _ _ _ q => q.elim)
    obtain ⟨h4H, c0R, d9b, d9c, rfl, rfl, d9d, h⟩ := h0x
    refine a6 (o4 _ _ _ _ _ _) ?_
    exact hn7 _ _ _ (hm7 _ _ h).2 ⟨((IntKind.wrap .i64 (a5s + 1)), c0R), d5H, d9b, d9c, rfl, rfl, d9d, ((((h0w.bring 2).drop.bring 1).bring 2).bring 2), (hm7 _ _ h).1⟩
   ·replace h := h.2 d5S
    exact hx4 _ _ (hj4 a3w b0s b0t H _ c0T (((I.bring 2).bring 2).bring 2) h)
  refine o3 fun j3 hx3 => ?_
  refine a6 C1 ?_
  refine c5 (ld1 Tryd.isAgg3 (c5u.at1 (o := 0) (vs := [(vi G7.c6)]) (nb rfl) rfl)) ?_
  refine a6 (c8 _ _ _ _ _ _) ?_
  refine g8 (fun d5U => ?_) (fun d5U => ?_)
  ·replace h := h.1 d5U
   refine a5F c5u fun e3W c5v => ?_
   refine q8 (m1 _) ?_
   refine q8 a2N ?_
   refine q8 a4P ?_
   refine M2 (ld1 Tryd.isAgg124 ((c5v.bring 1).at1 (o := 0) (vs := [(vs a6h)]) (nb rfl) rfl)) ?_
   refine M2 (ld1 Tryd.isAgg9 (c5v.at1 (o := 1) (vs := [(Value.string G7.f5)]) (nb rfl) rfl)) ?_
   refine q8 (a7g _ _) ?_
   refine a5G (e := 128) (c := r7) (xs := [(d6.mk G7.f5 1)]) c5v (b5k _ _) rfl rfl a6k a6l (nb rfl) fun h7l h7m h7n h0y e4D h0z => ?_
   refine ⟨(h0z _ (c5v.bring 1).lt1), ?_⟩
   obtain ⟨h0A, h⟩ := h
   refine b8B (s := a6h) (xs := P0) (e4D.bring 3) b3t (h0y.srcO ((e4D.bring 3).bring 1)) h0A fun d5V h0B h7o h0C h0D h7p => ?_
   refine q8 (m1 _) ?_
   refine q8 a2N ?_
   refine u1 ((h0D.bring 1).drop.bring 2) Tryd.sizeOf124 (vs := [(vs d5V)]) (cs' := [(vs d5V)]) rfl rfl (nb rfl) rfl rfl fun d3G h0E h7q => ?_
   exact hx3 _ _ (hj3 (P0 ++ [(d6.mk G7.f5 1)]) d5V h0B H _ h0C (((h0E.bring 1).bring 2).bring 2) h)
  ·replace h := h.2 d5U
   refine a6 (c8 _ _ _ _ _ _) ?_
   refine g8 (fun d5W => ?_) (fun d5W => ?_)
   ·replace h := h.1 d5W
    refine a5F c5u fun h7r c5w => ?_
    refine q8 (m1 _) ?_
    refine q8 a2N ?_
    refine q8 a4P ?_
    refine M2 (ld1 Tryd.isAgg124 ((c5w.bring 1).at1 (o := 0) (vs := [(vs a6h)]) (nb rfl) rfl)) ?_
    refine M2 (ld1 Tryd.isAgg9 (c5w.at1 (o := 1) (vs := [(Value.string G7.f5)]) (nb rfl) rfl)) ?_
    refine q8 (a7g _ _) ?_
    refine a5G (e := 128) (c := r7) (xs := [(d6.mk G7.f5 2)]) c5w (b5k _ _) rfl rfl a6k a6l (nb rfl) fun h7s h7t h7u h0F e4E h0G => ?_
    refine ⟨(h0G _ (c5w.bring 1).lt1), ?_⟩
    obtain ⟨h0H, h⟩ := h
    refine b8B (s := a6h) (xs := P0) (e4E.bring 3) b3t (h0F.srcO ((e4E.bring 3).bring 1)) h0H fun d5X h0I h7v h0J h0K h7w => ?_
    refine q8 (m1 _) ?_
    refine q8 a2N ?_
    refine u1 ((h0K.bring 1).drop.bring 2) Tryd.sizeOf124 (vs := [(vs d5X)]) (cs' := [(vs d5X)]) rfl rfl (nb rfl) rfl rfl fun h7x h0L h7y => ?_
    exact hx3 _ _ (hj3 (P0 ++ [(d6.mk G7.f5 2)]) d5X h0I H _ h0J (((h0L.bring 1).bring 2).bring 2) h)
   ·replace h := h.2 d5W
    exact hx3 _ _ (hj3 P0 a6h b3s H _ b3t (((c5u.bring 2).bring 1).bring 2) h)
 ·replace h := h.2 d5K
  exact hR (h8.mk (Sl.mk none 0 0)) P0 a6h b3s H _ b3t ((I.bring 1).bring 1) h
theorem b1b (x0 : h8) (O7 : (List d6)) (x1 : Sl) {H : Hp} {K : h8 → (List d6) → Hp → Prop} (h : a1h x0 O7 x1 H K) : U1 x0 O7 x1 H K := by
 intro g0 U2 a0F a7s w I
 refine g4T ?_
 refine b0M x0 O7 x1 g0 U2 a0F a7s I (fun y0 a4i a1J a1K H' w' b8q I' hk => ⟨H', _, I', y0, a4i, a1J, a1K, rfl, rfl, b8q, hk⟩) h
def a0S (c4v : Int) (a8m : ByteArray) (_ccr_24j1_0 : (List d6)) (_cr_1j1 : i7) (H : Hp) (K : ByteArray → Int → Hp → Prop) : Prop :=
 K a8m c4v H
def a2R (u2 : (Option Nat)) (c2I : (List d6)) (c2B : Int) (cr_1l2 : i7) (a1m : Int) (a2y : ByteArray) (T6 : Int) (H : Hp) (n2 : (Int × ByteArray × Int) → Hp → Prop) (K : ByteArray → Int → Hp → Prop) : Prop :=
 (T6 < c2B →
 (0 : Int) ≤ T6 ∧ ∃ a5C : d6, (c2I)[(T6 : Int).toNat]? = some a5C ∧
 ∃ b4V : List (ByteArray × Int), MapH H (fun s : ByteArray => Value.string s) (fun n : Int => Value.int .i64 n) u2 b4V ∧
 (((lk a5C.fname b4V).getD 0) = a5C.fas →
 n2 (a1m, a2y, (IntKind.wrap .i64 (T6 + 1))) H) ∧
 (¬ (((lk a5C.fname b4V).getD 0) = a5C.fas) →
 (((lk a5C.fname b4V).getD 0) = 0 →
 a0S 63 a5C.fname c2I cr_1l2 H K) ∧
 (¬ (((lk a5C.fname b4V).getD 0) = 0) →
 a0S 64 a5C.fname c2I cr_1l2 H K))) ∧
 (¬ (T6 < c2B) →
 a0S a1m a2y c2I cr_1l2 H K)
def a4z (x0 : i7) (H : Hp) (K : ByteArray → Int → Hp → Prop) : Prop :=
 a6w x0 H (fun (u4 : Int) (H_6 : Hp) =>
 (¬ (u4 = 0) →
 K ⟨#[]⟩ u4 H_6) ∧
 (u4 = 0 →
 a7I x0.s8 H_6 (fun (b6G : (Option Nat)) (b6H : ByteArray) (b6I : Int) (c0U : Hp) =>
 (¬ (b6I = 0) →
 K b6H b6I c0U) ∧
 (b6I = 0 →
 U1 (h8.mk (Sl.mk none 0 0)) [] x0.Z8 c0U (fun (_y0_38 : h8) (b1V : (List d6)) (e3q : Hp) =>
 TL ((b6I, ⟨#[]⟩, 0) : Int × ByteArray × Int) e3q fun (s : Int × ByteArray × Int) H n2 => a2R b6G b1V (b1V.length : Int) x0 s.1 s.2.1 s.2.2 H n2 K)))))
theorem b6J (x0 : i7) {w0 w : World} {ps0 : Nat → Prop} {H0 H : Hp} {K : ByteArray → Int → Hp → Prop} {R : Value → World → Prop} {E : Pan} (I : Inv w0 ps0 H0 H [] w) (hR : ∀ (r0 : ByteArray) (r1 : Int) (H' : Hp) (w' : World) (_ : Inv w0 ps0 H0 H' [] w') (_ : K r0 r1 H'), R (Value.tuple #[(Value.string r0), (vi r1)]) w') (h : a4z x0 H K) : F39 (Value.agg (d5 x0).toArray) w R E := by
 unfold a4z at h
 unfold F39
 refine K2 I (cs := (d5 x0)) rfl fun g_2 w_3 I_4 k_5 => ?_
 refine c5 (ldA Tryd.isAgg25 Tryd.sizeOf25 rfl (I_4.at1 (o := 0) (vs := (d5 x0)) (nb rfl) rfl)) ?_
 refine f7 (cap := []) (fun args w => Tryd.call27 args w) ?_
 refine m2 (Fi := []) (Fr := [bx g_2 25 (d5 x0)]) I_4 (h) (fun a8X H_6 a8Y w_7 I_8 a8Z k_9 a1P => ?_) (fun _ _ _ _ _ q => q.elim)
 obtain ⟨u4, rfl, rfl, h⟩ := a1P
 refine a6 (B8 _ _ _ _ _ _) ?_
 refine a3Y (fun b2N => ?_) (fun b2N => ?_)
 ·replace h := h.1 b2N
  exact hR ⟨#[]⟩ u4 H_6 _ I_8.drop h
 ·replace h := h.2 b2N
  refine a6 F7 ?_
  refine c5 (ld1 Tryd.isAgg22 (I_8.at1 (o := 0) (vs := [(vs x0.s8)]) (nb rfl) rfl)) ?_
  refine f7 (cap := []) (fun args w => Tryd.call75 args w) ?_
  refine m2 (Fi := []) (Fr := [bx g_2 25 (d5 x0)]) I_8 (h) (fun h4k c0U h4l p9 b0a h4m d3l e3r => ?_) (fun _ _ _ _ _ q => q.elim)
  obtain ⟨b6G, b6H, b6I, rfl, rfl, h⟩ := e3r
  refine a6 (u0 _ _ _ rfl) ?_
  refine a6 (u0 _ _ _ rfl) ?_
  refine a6 (u0 _ _ _ rfl) ?_
  refine a6 (B8 _ _ _ _ _ _) ?_
  refine a3Y (fun b2M => ?_) (fun b2M => ?_)
  ·replace h := h.1 b2M
   exact hR b6H b6I c0U _ b0a.drop h
  ·replace h := h.2 b2M
   refine a6 (d1P ) ?_
   refine K2 b0a (cs := [(Value.slice none 0 0)]) rfl fun d5Y v2 c0i f6u => ?_
   refine a6 a5H ?_
   refine c5 (ld1 Tryd.isAgg23 ((c0i.bring 1).at1 (o := 1) (vs := [(vs x0.Z8)]) (nb rfl) rfl)) ?_
   refine f7 (cap := []) (fun args w => Tryd.call76 args w) ?_
   refine m2 (Fi := [bx d5Y 126 [(Value.slice (Sl.mk none 0 0).a (Sl.mk none 0 0).n (Sl.mk none 0 0).c)], []]) (Fr := [bx g_2 25 (d5 x0)]) (c0i.nil.bring 1) (h d5Y (Sl.mk none 0 0) ([]) (RowL.nil (e := 128) a6k a6l)) (fun h9I e3q h9J f0O g5H c3y h9K h4n => ?_) (fun _ _ _ _ _ q => q.elim)
   obtain ⟨h7z, b1V, c0V, d0e, rfl, rfl, b6K, h⟩ := h4n
   have hj1 : ∀ (c4v : Int) (a8m : ByteArray) (H : Hp) (w : World) (_ : Inv w0 ps0 H0 H [bx d5Y 126 [(vs c0V)], bx g_2 25 (d5 x0), d0e] w) (_ : a0S c4v a8m b1V x0 H K), c9F (vi c4v) (Value.string a8m) w R E := by
    intro c4v a8m H w I h
    unfold c9F
    intro _
    unfold a0S at h
    exact hR a8m c4v H _ I.drop.drop.drop h
   refine o3 fun j1 hx1 => ?_
   refine a6 (m1 _) ?_
   refine a6 a2N ?_
   refine c5 (ld1 Tryd.isAgg124 (g5H.at1 (o := 0) (vs := [(vs c0V)]) (nb rfl) rfl)) ?_
   refine a6 (b1h Tryd.underlying124 b6K) ?_
   obtain ⟨c0A, b3j, e1U, e1V⟩ := h
   refine t6 (J := fun n l w => ∃ (s : Int × ByteArray × Int) (H : Hp) , n = b3j s ∧ l = (match s with | (a1m, a2y, T6) => [(vi a1m), (Value.string a2y), (vi T6)]) ∧ (match s with | (a1m, a2y, T6) => Inv w0 ps0 H0 H [bx d5Y 126 [(vs c0V)], bx g_2 25 (d5 x0), d0e] w) ∧ c0A s H) ⟨_, (b6I, ⟨#[]⟩, 0), e3q, rfl, rfl, (((g5H.bring 1).bring 2).bring 2), e1U⟩ ?_
   rintro h2x τ_64 w next2 ⟨⟨a1m, a2y, T6⟩, H, rfl, c4b, I, e1W⟩ hn2
   dsimp only at c4b I
   simp only [List.map_cons, List.map_nil, List.cons.injEq, and_true] at c4b
   obtain ⟨e7, e9, e39⟩ := c4b
   simp only [e7, e9, e39]
   obtain ⟨n2, hm2, h⟩ : ∃ n2 : (Int × ByteArray × Int) → Hp → Prop, (∀ s' H', n2 s' H' → c0A s' H' ∧ b3j s' < b3j (a1m, a2y, T6)) ∧ a2R b6G b1V (b1V.length : Int) x0 a1m a2y T6 H n2 K := ⟨_, fun _ _ h => h, e1V (a1m, a2y, T6) H (fun s' H' => c0A s' H' ∧ b3j s' < b3j (a1m, a2y, T6)) e1W (fun _ _ a b => ⟨a, b⟩)⟩
   unfold d8p
   unfold a2R at h
   refine a6 (p6 _ _ _ _ _ _) ?_
   refine g8 (fun c0B => ?_) (fun c0B => ?_)
   ·replace h := h.1 c0B
    obtain ⟨g5I, a5C, b2u, h⟩ := h
    obtain ⟨h9L, h9M, a8R, f6o⟩ := b6K.addr b2u
    refine a6 (d6H a8R _ _ _ _ g5I (b6K.lt g5I b2u)) ?_
    refine c5 (ldA (vs := (r7 a5C)) Tryd.isAgg128 Tryd.sizeOf128 rfl (b6K.atW (I.bring 2) a8R b2u)) ?_
    refine L8 I Tryd.zeroValue128 (cs := [(Value.string ⟨#[]⟩), (vi 0)]) rfl fun h3C J7 b5K d2L => ?_
    refine u1 b5K Tryd.sizeOf128 (vs := (r7 a5C)) (cs' := (r7 a5C)) rfl rfl (nb rfl) rfl rfl fun b7i b0U h2G => ?_
    refine a6 b3W ?_
    refine c5 (ld1 Tryd.isAgg9 (b0U.at1 (o := 0) (vs := [(Value.string a5C.fname)]) (nb rfl) rfl)) ?_
    obtain ⟨b4V, h0M, h⟩ := h
    refine d9t (keyS Tryd.underlying9) Tryd.underlying120 (z := 0) Tryd.zeroValue3 b0U h0M a5C.fname ?_
    refine a6 d0t ?_
    refine c5 (ld1 Tryd.isAgg3 (b0U.at1 (o := 1) (vs := [(vi a5C.fas)]) (nb rfl) rfl)) ?_
    refine a6 (c8 _ _ _ _ _ _) ?_
    refine g8 (fun c0C => ?_) (fun c0C => ?_)
    ·replace h := h.1 c0C
     refine a6 (o4 _ _ _ _ _ _) ?_
     exact hn2 _ _ _ (hm2 _ _ h).2 ⟨(a1m, a2y, (IntKind.wrap .i64 (T6 + 1))), H, rfl, rfl, (((b0U.drop.bring 2).bring 2).bring 2), (hm2 _ _ h).1⟩
    ·replace h := h.2 c0C
     refine a6 (c8 _ _ _ _ _ _) ?_
     refine g8 (fun c0a => ?_) (fun c0a => ?_)
     ·replace h := h.1 c0a
      refine a6 b3W ?_
      refine c5 (ld1 Tryd.isAgg9 (b0U.at1 (o := 0) (vs := [(Value.string a5C.fname)]) (nb rfl) rfl)) ?_
      exact hx1 _ _ (hj1 63 a5C.fname H _ (((b0U.drop.bring 2).bring 2).bring 2) h)
     ·replace h := h.2 c0a
      refine a6 b3W ?_
      refine c5 (ld1 Tryd.isAgg9 (b0U.at1 (o := 0) (vs := [(Value.string a5C.fname)]) (nb rfl) rfl)) ?_
      exact hx1 _ _ (hj1 64 a5C.fname H _ (((b0U.drop.bring 2).bring 2).bring 2) h)
   ·replace h := h.2 c0B
    exact hx1 _ _ (hj1 a1m a2y H _ (((I.bring 2).bring 2).bring 2) h)
theorem b6U (x0 : i7) {H : Hp} {K : ByteArray → Int → Hp → Prop} (h : a4z x0 H K) : a4s x0 H K := by
 intro w I
 refine g3a ?_
 refine b6J x0 I (fun r0 r1 H' w' I' hk => ⟨H', _, I', r0, r1, rfl, rfl, hk⟩) h
def a1A (H : Hp) (K : Bool → Hp → Prop) : Prop :=
 ∀ (s_2 : Sl) (H_8 : Hp), Hle H H_8 → SlH H_8 2 g9 s_2 [(i4.mk ⟨#[120]⟩ 0), (i4.mk ⟨#[120]⟩ 0)] → s_2.n ≤ s_2.c →
 a4s (i7.mk s_2 (Sl.mk none 0 0)) H_8 (fun (b6x : ByteArray) (d5Z : Int) (a7z : Hp) =>
 K ((decide (b6x = ⟨#[120]⟩)) && (decide (d5Z = 60))) a7z)
theorem b1c {w0 w : World} {ps0 : Nat → Prop} {H0 H : Hp} {K : Bool → Hp → Prop} {R : Value → World → Prop} {E : Pan} (I : Inv w0 ps0 H0 H [] w) (hR : ∀ (r0 : Bool) (H' : Hp) (w' : World) (_ : Inv w0 ps0 H0 H' [] w') (_ : K r0 H'), R (Value.bool r0) w') (h : a1A H K) : F38 w R E := by
 unfold a1A at h
 unfold F38
 refine a6 (b9r _) ?_
 refine a6 (b9r _) ?_
 refine a5G (e := 67) (c := g9) (xs := [(i4.mk ⟨#[120]⟩ 0), (i4.mk ⟨#[120]⟩ 0)]) I (e4T _ _ _ _) rfl rfl a4L a6j (nb rfl) fun s_2 F_3 w_4 h_5 I_6 k_7 => ?_
 refine a6 (d0s _ _ _) ?_
 obtain ⟨H_8, I_9, h4o, b0X, a7d⟩ := Inv.freezeC I_6 h_5 (by decide)
 replace h := h s_2 H_8 h4o b0X a7d
 refine f7 (cap := []) (fun args w => Tryd.call39 args w) ?_
 refine m2 (Fi := []) (Fr := []) I_9 (h) (fun h3m a7z g1G o8 b5H c8S c7q e2D => ?_) (fun _ _ _ _ _ q => q.elim)
 obtain ⟨b6x, d5Z, rfl, rfl, h⟩ := e2D
 refine a6 (u0 _ _ _ rfl) ?_
 refine a6 (u0 _ _ _ rfl) ?_
 refine a6 (L3 _ _ _ _ _) ?_
 try simp only [o6]
 refine a6 (Pu.g fun hb => by have a7 := hb; first | exact (c8 _ _ _ _ _ _) | (simp only [a8 a7]; exact (c8 _ _ _ _ _ _)) | (simp only [b8 a7, a8 a7, a8 hb, d9 a7, h7]; exact (c8 _ _ _ _ _ _))) ?_
 refine a6 (p1 _ _) ?_
 exact hR ((decide (b6x = ⟨#[120]⟩)) && (decide (d5Z = 60))) a7z _ b5H h
theorem b1F {H : Hp} {K : Bool → Hp → Prop} (h : a1A H K) : a3K H K := by
 intro w I
 refine g2G ?_
 refine b1c I (fun r0 H' w' I' hk => ⟨H', _, I', r0, rfl, rfl, hk⟩) h
def a0K (H : Hp) (K : Int → Hp → Prop) : Prop :=
 K (-1) H
def a0L (a5d : Sl) (a5c : ByteArray) (u2 : Int) (H : Hp) (n2 : Int → Hp → Prop) (K : Int → Hp → Prop) : Prop :=
 (u2 < (a5d.n : Int) →
 (0 : Int) ≤ u2 ∧ (u2 : Int) < a5d.n ∧ ∃ x_1 : i4, EltH H a5d u2 2 (g9 x_1) ∧
 (x_1.f5 = a5c →
 K u2 H) ∧
 (¬ (x_1.f5 = a5c) →
 n2 (IntKind.wrap .i64 (u2 + 1)) H)) ∧
 (¬ (u2 < (a5d.n : Int)) →
 a0K H K)
def a1Z (x0 : Sl) (x1 : ByteArray) (H : Hp) (K : Int → Hp → Prop) : Prop :=
 TL (0 : Int) H fun (s : Int) H n2 => a0L x0 x1 s H n2 K
theorem b1G (x0 : Sl) (x1 : ByteArray) {w0 w : World} {ps0 : Nat → Prop} {H0 H : Hp} {K : Int → Hp → Prop} {R : Value → World → Prop} {E : Pan} (I : Inv w0 ps0 H0 H [] w) (hR : ∀ (r0 : Int) (H' : Hp) (w' : World) (_ : Inv w0 ps0 H0 H' [] w') (_ : K r0 H'), R (vi r0) w') (h : a1Z x0 x1 H K) : F81 (vs x0) (Value.string x1) w R E := by
 unfold a1Z at h
 unfold F81
 have hj1 : ∀ (H : Hp) (w : World) (_ : Inv w0 ps0 H0 H [] w) (_ : a0K H K), c9X w R E := by
  intro H w I h
  unfold c9X
  intro _
  unfold a0K at h
  exact hR (-1) H _ I h
 refine o3 fun j1 hx1 => ?_
 obtain ⟨c0y, b2W, e0F, e0G⟩ := h
 refine t6 (J := fun n l w => ∃ (s : Int) (H : Hp) , n = b2W s ∧ l = [(vi s)] ∧ Inv w0 ps0 H0 H [] w ∧ c0y s H) ⟨_, 0, H, rfl, rfl, I, e0F⟩ ?_
 rintro h2g τ_15 w next2 ⟨u2, H, rfl, c3x, I, d3q⟩ hn2
 simp only [List.map_cons, List.map_nil, List.cons.injEq, and_true] at c3x
 have e5 := c3x
 simp only [e5]
 obtain ⟨n2, hm2, h⟩ : ∃ n2 : Int → Hp → Prop, (∀ s' H', n2 s' H' → c0y s' H' ∧ b2W s' < b2W u2) ∧ a0L x0 x1 u2 H n2 K := ⟨_, fun _ _ h => h, e0G u2 H (fun s' H' => c0y s' H' ∧ b2W s' < b2W u2) d3q (fun _ _ a b => ⟨a, b⟩)⟩
 unfold d8O
 unfold a0L at h
 refine a6 (Z6 _ _ _) ?_
 refine a6 (p6 _ _ _ _ _ _) ?_
 refine g8 (fun c_9 => ?_) (fun c_9 => ?_)
 ·replace h := h.1 c_9
  obtain ⟨h_4, h_5, x_1, h_7, h⟩ := h
  obtain ⟨g_2, o_3, h_6, h_7⟩ := h_7
  refine a6 (N0 h_6 _ _ _ _ h_4 h_5) ?_
  refine a6 W4 ?_
  refine c5 (ld1 (v := (Value.string x_1.f5)) Tryd.isAgg9 ((I.atH h_7).sub (k := 0) (n := 1) (nb rfl))) ?_
  refine a6 (L3 _ _ _ _ _) ?_
  refine g8 (fun c_8 => ?_) (fun c_8 => ?_)
  ·replace h := h.1 c_8
   exact hR u2 H _ I h
  ·replace h := h.2 c_8
   refine a6 (o4 _ _ _ _ _ _) ?_
   exact hn2 _ _ _ (hm2 _ _ h).2 ⟨(IntKind.wrap .i64 (u2 + 1)), H, rfl, rfl, I, (hm2 _ _ h).1⟩
 ·replace h := h.2 c_9
  exact hx1 _ _ (hj1 H _ I h)
theorem b3w (x0 : Sl) (x1 : ByteArray) {H : Hp} {K : Int → Hp → Prop} (h : a1Z x0 x1 H K) : a1L x0 x1 H K := by
 intro w I
 refine g4V ?_
 refine b1G x0 x1 I (fun r0 H' w' I' hk => ⟨H', _, I', r0, rfl, rfl, hk⟩) h
def M1 (b4n : Int) (b8s : Int) (d6a : Int) (cr_22j5 : i4) (cr_1j5 : i7) (H : Hp) (n4 : (Int × Int × Int) → Hp → Prop) (K : ByteArray → Int → Hp → Prop) : Prop :=
 (0 : Int) ≤ d6a ∧ (d6a : Int) ≤ cr_1j5.s8.c ∧
 a1L (cr_1j5.s8.cut 0 (d6a : Int).toNat cr_1j5.s8.c 2) cr_22j5.f5 H (fun (b1q : Int) (a9b : Hp) =>
 (0 ≤ b1q →
 K cr_22j5.f5 60 a9b) ∧
 (¬ (0 ≤ b1q) →
 (1024 < cr_22j5.A5 →
 K cr_22j5.f5 61 a9b) ∧
 (¬ (1024 < cr_22j5.A5) →
 (((decide (32 < b4n)) || (decide (16 < b8s))) = true →
 K cr_22j5.f5 62 a9b) ∧
 (((decide (32 < b4n)) || (decide (16 < b8s))) = false →
 n4 (b4n, b8s, (IntKind.wrap .i64 (d6a + 1))) a9b))))
def a0w (_cr_1j2 : i7) (H : Hp) (K : ByteArray → Int → Hp → Prop) : Prop :=
 K ⟨#[]⟩ 0 H
def a0x (b6q : Sl) (cr_1l3 : i7) (X9 : Int) (H : Hp) (n3 : Int → Hp → Prop) (K : ByteArray → Int → Hp → Prop) : Prop :=
 (X9 < (b6q.n : Int) →
 (0 : Int) ≤ X9 ∧ (X9 : Int) < b6q.n ∧ ∃ a4J : b9, EltH H b6q X9 2 (m0 a4J) ∧
 a1L cr_1l3.s8 a4J.f5 H (fun (b9h : Int) (b8t : Hp) =>
 (b9h < 0 →
 K a4J.f5 63 b8t) ∧
 (¬ (b9h < 0) →
 (0 : Int) ≤ b9h ∧ (b9h : Int) < cr_1l3.s8.n ∧ ∃ b4j : i4, EltH b8t cr_1l3.s8 b9h 2 (g9 b4j) ∧
 (((decide (0 < b4j.A5)) != a4J.b5e) = true →
 K a4J.f5 64 b8t) ∧
 (((decide (0 < b4j.A5)) != a4J.b5e) = false →
 n3 (IntKind.wrap .i64 (X9 + 1)) b8t)))) ∧
 (¬ (X9 < (b6q.n : Int)) →
 a0w cr_1l3 H K)
def a0y (cr_1j1 : i7) (H : Hp) (K : ByteArray → Int → Hp → Prop) : Prop :=
 a4h cr_1j1 H (fun (b6a : Sl) (b2H : Hp) =>
 TL (0 : Int) b2H fun (s : Int) H n3 => a0x b6a cr_1j1 s H n3 K)
def a0z (cr_1l4 : i7) (K9 : Int) (b1d : Int) (a6z : Int) (H : Hp) (n4 : (Int × Int × Int) → Hp → Prop) (K : ByteArray → Int → Hp → Prop) : Prop :=
 (a6z < (cr_1l4.s8.n : Int) →
 (0 : Int) ≤ a6z ∧ (a6z : Int) < cr_1l4.s8.n ∧ ∃ a0T : i4, EltH H cr_1l4.s8 a6z 2 (g9 a0T) ∧
 (a0T.A5 = 0 →
 M1 (IntKind.wrap .i64 (K9 + 1)) b1d a6z a0T cr_1l4 H n4 K) ∧
 (¬ (a0T.A5 = 0) →
 M1 K9 (IntKind.wrap .i64 (b1d + 1)) a6z a0T cr_1l4 H n4 K)) ∧
 (¬ (a6z < (cr_1l4.s8.n : Int)) →
 a0y cr_1l4 H K)
def a1B (x0 : i7) (H : Hp) (K : ByteArray → Int → Hp → Prop) : Prop :=
 a3I x0 H (fun (u4 : Int) (H_6 : Hp) =>
 (¬ (u4 = 0) →
 K ⟨#[]⟩ u4 H_6) ∧
 (u4 = 0 →
 TL ((0, 0, 0) : Int × Int × Int) H_6 fun (s : Int × Int × Int) H n4 => a0z x0 s.1 s.2.1 s.2.2 H n4 K))
theorem b1e (x0 : i7) {w0 w : World} {ps0 : Nat → Prop} {H0 H : Hp} {K : ByteArray → Int → Hp → Prop} {R : Value → World → Prop} {E : Pan} (I : Inv w0 ps0 H0 H [] w) (hR : ∀ (r0 : ByteArray) (r1 : Int) (H' : Hp) (w' : World) (_ : Inv w0 ps0 H0 H' [] w') (_ : K r0 r1 H'), R (Value.tuple #[(Value.string r0), (vi r1)]) w') (h : a1B x0 H K) : F44 (Value.agg (d5 x0).toArray) w R E := by
 unfold a1B at h
 unfold F44
 refine K2 I (cs := (d5 x0)) rfl fun g_2 w_3 I_4 k_5 => ?_
 refine c5 (ldA Tryd.isAgg25 Tryd.sizeOf25 rfl (I_4.at1 (o := 0) (vs := (d5 x0)) (nb rfl) rfl)) ?_
 refine f7 (cap := []) (fun args w => Tryd.call23 args w) ?_
 refine m2 (Fi := []) (Fr := [bx g_2 25 (d5 x0)]) I_4 (h) (fun a8X H_6 a8Y w_7 I_8 a8Z k_9 a1P => ?_) (fun _ _ _ _ _ q => q.elim)
 obtain ⟨u4, rfl, rfl, h⟩ := a1P
 refine a6 (B8 _ _ _ _ _ _) ?_
 refine a3Y (fun d6b => ?_) (fun d6b => ?_)
 ·replace h := h.1 d6b
  exact hR ⟨#[]⟩ u4 H_6 _ I_8.drop h
 ·replace h := h.2 d6b
  have hj1 : ∀ (H : Hp) (w : World) (_ : Inv w0 ps0 H0 H [bx g_2 25 (d5 x0)] w) (_ : a0y x0 H K), c9I (Value.pointer (some ⟨g_2, 0, none⟩)) w R E := by
   intro H w I h
   unfold c9I
   intro _
   unfold a0y at h
   refine c5 (ldA Tryd.isAgg25 Tryd.sizeOf25 rfl (I.at1 (o := 0) (vs := (d5 x0)) (nb rfl) rfl)) ?_
   refine f7 (cap := []) (fun args w => Tryd.call37 args w) ?_
   refine m2 (Fi := []) (Fr := [bx g_2 25 (d5 x0)]) I (h) (fun f6p b2H f6q J7 b5K c3C d2L c7w => ?_) (fun _ _ _ _ _ q => q.elim)
   obtain ⟨b6a, rfl, rfl, h⟩ := c7w
   have hj2 : ∀ (H : Hp) (w : World) (_ : Inv w0 ps0 H0 H [bx g_2 25 (d5 x0)] w) (_ : a0w x0 H K), c9H w R E := by
    intro H w I h
    unfold c9H
    intro _
    unfold a0w at h
    exact hR ⟨#[]⟩ 0 H _ I.drop h
   refine o3 fun j2 hx2 => ?_
   obtain ⟨b6i, a9i, d3r, d3s⟩ := h
   refine t6 (J := fun n l w => ∃ (s : Int) (H : Hp) , n = a9i s ∧ l = [(vi s)] ∧ Inv w0 ps0 H0 H [bx g_2 25 (d5 x0)] w ∧ b6i s H) ⟨_, 0, b2H, rfl, rfl, b5K, d3r⟩ ?_
   rintro g6T τ_112 w next3 ⟨X9, H, rfl, b1s, I, d3t⟩ hn3
   simp only [List.map_cons, List.map_nil, List.cons.injEq, and_true] at b1s
   have e10 := b1s
   simp only [e10]
   obtain ⟨n3, hm3, h⟩ : ∃ n3 : Int → Hp → Prop, (∀ s' H', n3 s' H' → b6i s' H' ∧ a9i s' < a9i X9) ∧ a0x b6a x0 X9 H n3 K := ⟨_, fun _ _ h => h, d3s X9 H (fun s' H' => b6i s' H' ∧ a9i s' < a9i X9) d3t (fun _ _ a b => ⟨a, b⟩)⟩
   unfold d8r
   unfold a0x at h
   refine a6 (d6E _ _ _) ?_
   refine a6 (p6 _ _ _ _ _ _) ?_
   refine g8 (fun b6j => ?_) (fun b6j => ?_)
   ·replace h := h.1 b6j
    refine a5F I fun M7 c3B => ?_
    refine q8 F7 ?_
    obtain ⟨b4i, a7B, a4J, b4p, h⟩ := h
    obtain ⟨h3U, h3V, c4t, b4p⟩ := b4p
    refine q8 (b5f c4t _ _ _ _ b4i a7B) ?_
    refine q8 b5g ?_
    refine M2 (ld1 Tryd.isAgg22 (c3B.at1 (o := 0) (vs := [(vs x0.s8)]) (nb rfl) rfl)) ?_
    refine M2 (ld1 (v := (Value.string a4J.f5)) Tryd.isAgg9 ((c3B.atH b4p).sub (k := 0) (n := 1) (nb rfl))) ?_
    refine f7 (cap := []) (fun args w => Tryd.call81 args w) ?_
    refine m2 (Fi := []) (Fr := [bx g_2 25 (d5 x0)]) c3B (h) (fun h9N b8t h9O U0 c7s e3s h1l h4p => ?_) (fun _ _ _ _ _ q => q.elim)
    obtain ⟨b9h, rfl, rfl, h⟩ := h4p
    refine a6 (p6 _ _ _ _ _ _) ?_
    refine g8 (fun d6c => ?_) (fun d6c => ?_)
    ·replace h := h.1 d6c
     refine a6 (b5f c4t _ _ _ _ b4i a7B) ?_
     refine a6 b5g ?_
     refine c5 (ld1 (v := (Value.string a4J.f5)) Tryd.isAgg9 ((c7s.atH (b4p.le e3s)).sub (k := 0) (n := 1) (nb rfl))) ?_
     exact hR a4J.f5 63 b8t _ c7s.drop h
    ·replace h := h.2 d6c
     refine a5F c7s fun h2U b8j => ?_
     refine q8 F7 ?_
     refine q8 (b5f c4t _ _ _ _ b4i a7B) ?_
     refine q8 d1Q ?_
     refine M2 (ld1 Tryd.isAgg22 (b8j.at1 (o := 0) (vs := [(vs x0.s8)]) (nb rfl) rfl)) ?_
     obtain ⟨c7B, b5M, b4j, b6k, h⟩ := h
     obtain ⟨h2h, h2i, c7O, b6k⟩ := b6k
     refine q8 (N0 c7O _ _ _ _ c7B b5M) ?_
     refine q8 N9 ?_
     refine M2 (ld1 (v := (vi b4j.A5)) Tryd.isAgg3 ((b8j.atH b6k).sub (k := 1) (n := 1) (nb rfl))) ?_
     refine q8 (T7 _ _ _ _ _ _) ?_
     refine M2 (ld1 (v := (Value.bool a4J.b5e)) Tryd.isAgg4 ((b8j.atH (b4p.le e3s)).sub (k := 1) (n := 1) (nb rfl))) ?_
     refine q8 (d9u _ _ _ _) ?_
     refine m5 (fun b5L => ?_) (fun b5L => ?_)
     ·replace h := h.1 b5L
      refine a6 (b5f c4t _ _ _ _ b4i a7B) ?_
      refine a6 b5g ?_
      refine c5 (ld1 (v := (Value.string a4J.f5)) Tryd.isAgg9 ((b8j.atH (b4p.le e3s)).sub (k := 0) (n := 1) (nb rfl))) ?_
      exact hR a4J.f5 64 b8t _ b8j.drop h
     ·replace h := h.2 b5L
      refine a6 (o4 _ _ _ _ _ _) ?_
      exact hn3 _ _ _ (hm3 _ _ h).2 ⟨(IntKind.wrap .i64 (X9 + 1)), b8t, rfl, rfl, b8j, (hm3 _ _ h).1⟩
   ·replace h := h.2 b6j
    exact hx2 _ _ (hj2 H _ I h)
  refine o3 fun j1 hx1 => ?_
  obtain ⟨d6d, c2J, h0N, h0O⟩ := h
  refine t6 (J := fun n l w => ∃ (s : Int × Int × Int) (H : Hp) , n = c2J s ∧ l = (match s with | (K9, b1d, a6z) => [(vi K9), (vi b1d), (vi a6z)]) ∧ (match s with | (K9, b1d, a6z) => Inv w0 ps0 H0 H [bx g_2 25 (d5 x0)] w) ∧ d6d s H) ⟨_, (0, 0, 0), H_6, rfl, rfl, I_8, h0N⟩ ?_
  rintro h7A τ_121 w next4 ⟨⟨K9, b1d, a6z⟩, H, rfl, d6e, I, h0P⟩ hn4
  dsimp only at d6e I
  simp only [List.map_cons, List.map_nil, List.cons.injEq, and_true] at d6e
  obtain ⟨e5, e6, e7⟩ := d6e
  simp only [e5, e6, e7]
  obtain ⟨n4, hm4, h⟩ : ∃ n4 : (Int × Int × Int) → Hp → Prop, (∀ s' H', n4 s' H' → d6d s' H' ∧ c2J s' < c2J (K9, b1d, a6z)) ∧ a0z x0 K9 b1d a6z H n4 K := ⟨_, fun _ _ h => h, h0O (K9, b1d, a6z) H (fun s' H' => d6d s' H' ∧ c2J s' < c2J (K9, b1d, a6z)) h0P (fun _ _ a b => ⟨a, b⟩)⟩
  unfold d8z
  unfold a0z at h
  refine a6 F7 ?_
  refine c5 (ld1 Tryd.isAgg22 (I.at1 (o := 0) (vs := [(vs x0.s8)]) (nb rfl) rfl)) ?_
  refine a6 (Z6 _ _ _) ?_
  refine a6 (p6 _ _ _ _ _ _) ?_
  refine g8 (fun a9h => ?_) (fun a9h => ?_)
  ·replace h := h.1 a9h
   refine a6 F7 ?_
   refine c5 (ld1 Tryd.isAgg22 (I.at1 (o := 0) (vs := [(vs x0.s8)]) (nb rfl) rfl)) ?_
   obtain ⟨d0b, c0H, a0T, b6z, h⟩ := h
   obtain ⟨b6t, h4q, c0J, b6z⟩ := b6z
   refine a6 (N0 c0J _ _ _ _ d0b c0H) ?_
   refine c5 (ldA (vs := (g9 a0T)) Tryd.isAgg67 Tryd.sizeOf67 rfl (I.atH b6z)) ?_
   refine L8 I Tryd.zeroValue67 (cs := [(Value.string ⟨#[]⟩), (vi 0)]) rfl fun c9u t8 a4H c7M => ?_
   refine u1 a4H Tryd.sizeOf67 (vs := (g9 a0T)) (cs' := (g9 a0T)) rfl rfl (nb rfl) rfl rfl fun a7U a8l e0K => ?_
   have hj5 : ∀ (b4n : Int) (b8s : Int) (H : Hp) (w : World) (_ : Inv w0 ps0 H0 H [bx c9u 67 (g9 a0T), bx g_2 25 (d5 x0)] w) (_ : M1 b4n b8s a6z a0T x0 H n4 K), c9J (Value.pointer (some ⟨g_2, 0, none⟩)) (vi b4n) (vi b8s) (vi a6z) (Value.pointer (some ⟨c9u, 0, none⟩)) w next4 R E := by
    intro b4n b8s H w I h
    unfold c9J
    intro _
    unfold M1 at h
    refine a5F I fun A7 a7Z => ?_
    refine q8 F7 ?_
    refine q8 W4 ?_
    refine M2 (ld1 Tryd.isAgg22 ((a7Z.bring 1).at1 (o := 0) (vs := [(vs x0.s8)]) (nb rfl) rfl)) ?_
    obtain ⟨d9O, c0I, h⟩ := h
    refine q8 (b5b Tryd.underlying22 Tryd.sizeOf67 x0.s8 d9O c0I) ?_
    refine M2 (ld1 Tryd.isAgg9 (a7Z.at1 (o := 0) (vs := [(Value.string a0T.f5)]) (nb rfl) rfl)) ?_
    refine f7 (cap := []) (fun args w => Tryd.call81 args w) ?_
    refine m2 (Fi := []) (Fr := [bx c9u 67 (g9 a0T), bx g_2 25 (d5 x0)]) a7Z (h) (fun h1z a9b h1A a8G a3s b5C c7g e0c => ?_) (fun _ _ _ _ _ q => q.elim)
    obtain ⟨b1q, rfl, rfl, h⟩ := e0c
    refine q8 (a1p _ _ _ _ _ _) ?_
    refine g8 (fun b2T => ?_) (fun b2T => ?_)
    ·replace h := h.1 b2T
     refine a6 W4 ?_
     refine c5 (ld1 Tryd.isAgg9 (a3s.at1 (o := 0) (vs := [(Value.string a0T.f5)]) (nb rfl) rfl)) ?_
     exact hR a0T.f5 60 a9b _ a3s.drop.drop h
    ·replace h := h.2 b2T
     refine a6 N9 ?_
     refine c5 (ld1 Tryd.isAgg3 (a3s.at1 (o := 1) (vs := [(vi a0T.A5)]) (nb rfl) rfl)) ?_
     refine a6 (T7 _ _ _ _ _ _) ?_
     refine g8 (fun a4m => ?_) (fun a4m => ?_)
     ·replace h := h.1 a4m
      refine a6 W4 ?_
      refine c5 (ld1 Tryd.isAgg9 (a3s.at1 (o := 0) (vs := [(Value.string a0T.f5)]) (nb rfl) rfl)) ?_
      exact hR a0T.f5 61 a9b _ a3s.drop.drop h
     ·replace h := h.2 a4m
      refine a6 (T7 _ _ _ _ _ _) ?_
      try simp only [o6]
      refine a6 (Pu.g fun hb => by have a7 := hb; first | exact (T7 _ _ _ _ _ _) | (simp only [a8 a7]; exact (T7 _ _ _ _ _ _)) | (simp only [b8 a7, a8 a7, a8 hb, v8 a7, h7]; exact (T7 _ _ _ _ _ _))) ?_
      refine a6 (E6 _ _) ?_
      refine m5 (fun c0s => ?_) (fun c0s => ?_)
      ·replace h := h.1 c0s
       refine a6 W4 ?_
       refine c5 (ld1 Tryd.isAgg9 (a3s.at1 (o := 0) (vs := [(Value.string a0T.f5)]) (nb rfl) rfl)) ?_
       exact hR a0T.f5 62 a9b _ a3s.drop.drop h
      ·replace h := h.2 c0s
       refine a6 (o4 _ _ _ _ _ _) ?_
       exact hn4 _ _ _ (hm4 _ _ h).2 ⟨(b4n, b8s, (IntKind.wrap .i64 (a6z + 1))), a9b, rfl, rfl, a3s.drop, (hm4 _ _ h).1⟩
   refine o3 fun j5 hx5 => ?_
   refine a6 N9 ?_
   refine c5 (ld1 Tryd.isAgg3 (a8l.at1 (o := 1) (vs := [(vi a0T.A5)]) (nb rfl) rfl)) ?_
   refine a6 (c8 _ _ _ _ _ _) ?_
   refine g8 (fun e3t => ?_) (fun e3t => ?_)
   ·replace h := h.1 e3t
    refine a6 (o4 _ _ _ _ _ _) ?_
    exact hx5 _ _ (hj5 (IntKind.wrap .i64 (K9 + 1)) b1d H _ ((a8l.bring 1).bring 1) h)
   ·replace h := h.2 e3t
    refine a6 (o4 _ _ _ _ _ _) ?_
    exact hx5 _ _ (hj5 K9 (IntKind.wrap .i64 (b1d + 1)) H _ ((a8l.bring 1).bring 1) h)
  ·replace h := h.2 a9h
   exact hx1 _ _ (hj1 H _ I h)
theorem b1H (x0 : i7) {H : Hp} {K : ByteArray → Int → Hp → Prop} (h : a1B x0 H K) : a3L x0 H K := by
 intro w I
 refine g3P ?_
 refine b1e x0 I (fun r0 r1 H' w' I' hk => ⟨H', _, I', r0, r1, rfl, rfl, hk⟩) h
def a3i (a0Q : Int) (c2K : (List ByteArray)) (_cr_1j1 : i7) (H : Hp) (K : Sl → Int → Hp → Prop) : Prop :=
 ∀ (b0C : Sl) (c4w : Hp), Hle H c4w → SlH c4w 1 u7 b0C c2K → b0C.n ≤ b0C.c →
 K b0C a0Q c4w
def a3j (u2 : Int) (e4F : Sl) (e4G : Int) (cr_1l2 : i7) (a6i : (List ByteArray)) (a5t : Int) (H : Hp) (n2 : ((List ByteArray) × Int) → Hp → Prop) (K : Sl → Int → Hp → Prop) : Prop :=
 (a5t < e4G →
 (0 : Int) ≤ a5t ∧ (a5t : Int) < e4F.n ∧ ∃ a0T : i4, EltH H e4F a5t 2 (g9 a0T) ∧
 (a6i.length + ([a0T.f5] : List ByteArray).length) * 17 ≤ 140737488355328 ∧
 n2 ((a6i ++ [a0T.f5]), (IntKind.wrap .i64 (a5t + 1))) H) ∧
 (¬ (a5t < e4G) →
 a3i u2 a6i cr_1l2 H K)
def a4Y (x0 : i7) (H : Hp) (K : Sl → Int → Hp → Prop) : Prop :=
 a7W x0 1 H (fun (u4 : Sl) (a6B : Int) (H_6 : Hp) =>
 TL (([], 0) : (List ByteArray) × Int) H_6 fun (s : (List ByteArray) × Int) H n2 => a3j a6B u4 (u4.n : Int) x0 s.1 s.2 H n2 K)
theorem b6V (x0 : i7) {w0 w : World} {ps0 : Nat → Prop} {H0 H : Hp} {K : Sl → Int → Hp → Prop} {R : Value → World → Prop} {E : Pan} (I : Inv w0 ps0 H0 H [] w) (hR : ∀ (r0 : Sl) (r1 : Int) (H' : Hp) (w' : World) (_ : Inv w0 ps0 H0 H' [] w') (_ : K r0 r1 H'), R (Value.tuple #[(vs r0), (vi r1)]) w') (h : a4Y x0 H K) : F45 (Value.agg (d5 x0).toArray) w R E := by
 unfold a4Y at h
 unfold F45
 refine K2 I (cs := (d5 x0)) rfl fun g_2 w_3 I_4 k_5 => ?_
 refine c5 (ldA Tryd.isAgg25 Tryd.sizeOf25 rfl (I_4.at1 (o := 0) (vs := (d5 x0)) (nb rfl) rfl)) ?_
 refine f7 (cap := []) (fun args w => Tryd.call82 args w) ?_
 refine m2 (Fi := []) (Fr := [bx g_2 25 (d5 x0)]) I_4 (h) (fun a8X H_6 a8Y w_7 I_8 a8Z k_9 a1P => ?_) (fun _ _ _ _ _ q => q.elim)
 obtain ⟨u4, a6B, rfl, rfl, h⟩ := a1P
 refine a6 (u0 _ _ _ rfl) ?_
 refine a6 (u0 _ _ _ rfl) ?_
 have hj1 : ∀ (c2K : (List ByteArray)) (b0C : Sl) (Fs6j1 : Frag) (H : Hp) (w : World) (_ : RowL 9 1 u7 b0C c2K Fs6j1) (_ : Inv w0 ps0 H0 H [bx g_2 25 (d5 x0), Fs6j1] w) (_ : a3i a6B c2K x0 H K), c9K (vi a6B) (vs b0C) w R E := by
  intro c2K b0C Fs6j1 H w h0Q I h
  unfold c9K
  intro _
  unfold a3i at h
  obtain ⟨c4w, b2G, h4r, e2f, c7P⟩ := Inv.freezeC (I.bring 1) h0Q (by decide)
  replace h := h b0C c4w h4r e2f c7P
  exact hR b0C a6B c4w _ b2G.drop h
 refine o3 fun j1 hx1 => ?_
 refine a6 (Z6 _ _ _) ?_
 obtain ⟨b9S, b2C, d9P, d9Q⟩ := h
 refine t6 (J := fun n l w => ∃ (s : (List ByteArray) × Int) (H : Hp) (c2L : Sl) (Fs6l2 : Frag) , n = b2C s ∧ l = (match s with | (a6i, a5t) => [(vs c2L), (vi a5t)]) ∧ (match s with | (a6i, a5t) => RowL 9 1 u7 c2L a6i Fs6l2) ∧ (match s with | (a6i, a5t) => Inv w0 ps0 H0 H [bx g_2 25 (d5 x0), Fs6l2] w) ∧ b9S s H) ⟨_, ([], 0), H_6, (Sl.mk none 0 0), [], rfl, rfl, (RowL.nil a6q a6r), (I_8.nil.bring 1), d9P⟩ ?_
 rintro h1b τ_55 w next2 ⟨⟨a6i, a5t⟩, H, c2L, Fs6l2, rfl, b9T, d6f, I, d9R⟩ hn2
 dsimp only at b9T I d6f
 simp only [List.map_cons, List.map_nil, List.cons.injEq, and_true] at b9T
 obtain ⟨e6, e16⟩ := b9T
 simp only [e6, e16]
 obtain ⟨n2, hm2, h⟩ : ∃ n2 : ((List ByteArray) × Int) → Hp → Prop, (∀ s' H', n2 s' H' → b9S s' H' ∧ b2C s' < b2C (a6i, a5t)) ∧ a3j a6B u4 (u4.n : Int) x0 a6i a5t H n2 K := ⟨_, fun _ _ h => h, d9Q (a6i, a5t) H (fun s' H' => b9S s' H' ∧ b2C s' < b2C (a6i, a5t)) d9R (fun _ _ a b => ⟨a, b⟩)⟩
 unfold d8A
 unfold a3j at h
 refine a6 (p6 _ _ _ _ _ _) ?_
 refine g8 (fun b9U => ?_) (fun b9U => ?_)
 ·replace h := h.1 b9U
  obtain ⟨d0b, c0H, a0T, b6z, h⟩ := h
  obtain ⟨b6t, h4q, c0J, b6z⟩ := b6z
  refine a6 (N0 c0J _ _ _ _ d0b c0H) ?_
  refine c5 (ldA (vs := (g9 a0T)) Tryd.isAgg67 Tryd.sizeOf67 rfl (I.atH b6z)) ?_
  refine L8 I Tryd.zeroValue67 (cs := [(Value.string ⟨#[]⟩), (vi 0)]) rfl fun c9u t8 a4H c7M => ?_
  refine u1 a4H Tryd.sizeOf67 (vs := (g9 a0T)) (cs' := (g9 a0T)) rfl rfl (nb rfl) rfl rfl fun a7U a8l e0K => ?_
  refine a6 W4 ?_
  refine c5 (ld1 Tryd.isAgg9 (a8l.at1 (o := 0) (vs := [(Value.string a0T.f5)]) (nb rfl) rfl)) ?_
  refine a5G (e := 9) (c := u7) (xs := [a0T.f5]) a8l (c2T _) rfl rfl a6q a6r (nb rfl) fun h9P h3b d9z c7p d0f h4s => ?_
  obtain ⟨a8R, h⟩ := h
  refine c5P (s := c2L) (xs := a6i) (d0f.bring 3) d6f (c7p.srcO ((d0f.bring 3).bring 1)) a8R fun e1Y g5J d1T h4t c3A f6m => ?_
  refine a6 (o4 _ _ _ _ _ _) ?_
  exact hn2 _ _ _ (hm2 _ _ h).2 ⟨((a6i ++ [a0T.f5]), (IntKind.wrap .i64 (a5t + 1))), H, e1Y, g5J, rfl, rfl, h4t, (((c3A.bring 1).drop.bring 1).drop.bring 1), (hm2 _ _ h).1⟩
 ·replace h := h.2 b9U
  exact hx1 _ _ (hj1 a6i c2L Fs6l2 H _ d6f ((I.bring 1).bring 1) h)
theorem b8u (x0 : i7) {H : Hp} {K : Sl → Int → Hp → Prop} (h : a4Y x0 H K) : a6S x0 H K := by
 intro w I
 refine g3S ?_
 refine b6V x0 I (fun r0 r1 H' w' I' hk => ⟨H', _, I', r0, r1, rfl, rfl, hk⟩) h
def a3W (x0 : i7) (H : Hp) (K : Sl → Int → Hp → Prop) : Prop :=
 a7W x0 2 H (fun (u4 : Sl) (a6B : Int) (H_6 : Hp) =>
 K u4 a6B H_6)
theorem b4W (x0 : i7) {w0 w : World} {ps0 : Nat → Prop} {H0 H : Hp} {K : Sl → Int → Hp → Prop} {R : Value → World → Prop} {E : Pan} (I : Inv w0 ps0 H0 H [] w) (hR : ∀ (r0 : Sl) (r1 : Int) (H' : Hp) (w' : World) (_ : Inv w0 ps0 H0 H' [] w') (_ : K r0 r1 H'), R (Value.tuple #[(vs r0), (vi r1)]) w') (h : a3W x0 H K) : F46 (Value.agg (d5 x0).toArray) w R E := by
 unfold a3W at h
 unfold F46
 refine K2 I (cs := (d5 x0)) rfl fun g_2 w_3 I_4 k_5 => ?_
 refine c5 (ldA Tryd.isAgg25 Tryd.sizeOf25 rfl (I_4.at1 (o := 0) (vs := (d5 x0)) (nb rfl) rfl)) ?_
 refine f7 (cap := []) (fun args w => Tryd.call82 args w) ?_
 refine m2 (Fi := []) (Fr := [bx g_2 25 (d5 x0)]) I_4 (h) (fun a8X H_6 a8Y w_7 I_8 a8Z k_9 a1P => ?_) (fun _ _ _ _ _ q => q.elim)
 obtain ⟨u4, a6B, rfl, rfl, h⟩ := a1P
 refine a6 (u0 _ _ _ rfl) ?_
 refine a6 (u0 _ _ _ rfl) ?_
 exact hR u4 a6B H_6 _ I_8.drop h
theorem b6L (x0 : i7) {H : Hp} {K : Sl → Int → Hp → Prop} (h : a3W x0 H K) : a5S x0 H K := by
 intro w I
 refine g3U ?_
 refine b4W x0 I (fun r0 r1 H' w' I' hk => ⟨H', _, I', r0, r1, rfl, rfl, hk⟩) h
def M6 (a7t : (List ByteArray)) (c0E : Int) (_cr_1j3 : i7) (H : Hp) (n2 : ((List ByteArray) × Int) → Hp → Prop) (_K : Sl → Hp → Prop) : Prop :=
 n2 (a7t, (IntKind.wrap .i64 (c0E + 1))) H
def a0M (a9s : (List ByteArray)) (_cr_1j1 : i7) (H : Hp) (K : Sl → Hp → Prop) : Prop :=
 ∀ (a2S : Sl) (a4n : Hp), Hle H a4n → SlH a4n 1 u7 a2S a9s → a2S.n ≤ a2S.c →
 K a2S a4n
def a0N (cr_1l2 : i7) (O6 : (List ByteArray)) (D1 : Int) (H : Hp) (n2 : ((List ByteArray) × Int) → Hp → Prop) (K : Sl → Hp → Prop) : Prop :=
 (D1 < (cr_1l2.s8.n : Int) →
 (0 : Int) ≤ D1 ∧ (D1 : Int) < cr_1l2.s8.n ∧ ∃ x_6 : i4, EltH H cr_1l2.s8 D1 2 (g9 x_6) ∧
 (x_6.A5 = 0 →
 (O6.length + ([x_6.f5] : List ByteArray).length) * 17 ≤ 140737488355328 ∧
 M6 (O6 ++ [x_6.f5]) D1 cr_1l2 H n2 K) ∧
 (¬ (x_6.A5 = 0) →
 M6 O6 D1 cr_1l2 H n2 K)) ∧
 (¬ (D1 < (cr_1l2.s8.n : Int)) →
 a0M O6 cr_1l2 H K)
def a2b (x0 : i7) (H : Hp) (K : Sl → Hp → Prop) : Prop :=
 TL (([], 0) : (List ByteArray) × Int) H fun (s : (List ByteArray) × Int) H n2 => a0N x0 s.1 s.2 H n2 K
theorem b1I (x0 : i7) {w0 w : World} {ps0 : Nat → Prop} {H0 H : Hp} {K : Sl → Hp → Prop} {R : Value → World → Prop} {E : Pan} (I : Inv w0 ps0 H0 H [] w) (hR : ∀ (r0 : Sl) (H' : Hp) (w' : World) (_ : Inv w0 ps0 H0 H' [] w') (_ : K r0 H'), R (vs r0) w') (h : a2b x0 H K) : F47 (Value.agg (d5 x0).toArray) w R E := by
 unfold a2b at h
 unfold F47
 refine K2 I (cs := (d5 x0)) rfl fun g_2 w_3 I_4 k_5 => ?_
 have hj1 : ∀ (a9s : (List ByteArray)) (a2S : Sl) (Fs3j1 : Frag) (H : Hp) (w : World) (_ : RowL 9 1 u7 a2S a9s Fs3j1) (_ : Inv w0 ps0 H0 H [bx g_2 25 (d5 x0), Fs3j1] w) (_ : a0M a9s x0 H K), c9L (vs a2S) w R E := by
  intro a9s a2S Fs3j1 H w d6g I h
  unfold c9L
  intro _
  unfold a0M at h
  obtain ⟨a4n, a3s, c3y, a9T, c7l⟩ := Inv.freezeC (I.bring 1) d6g (by decide)
  replace h := h a2S a4n c3y a9T c7l
  exact hR a2S a4n _ a3s.drop h
 refine o3 fun j1 hx1 => ?_
 obtain ⟨b2z, a6Y, c7m, c7n⟩ := h
 refine t6 (J := fun n l w => ∃ (s : (List ByteArray) × Int) (H : Hp) (a7u : Sl) (Fs3l2 : Frag) , n = a6Y s ∧ l = (match s with | (O6, D1) => [(vs a7u), (vi D1)]) ∧ (match s with | (O6, D1) => RowL 9 1 u7 a7u O6 Fs3l2) ∧ (match s with | (O6, D1) => Inv w0 ps0 H0 H [bx g_2 25 (d5 x0), Fs3l2] w) ∧ b2z s H) ⟨_, ([], 0), H, (Sl.mk none 0 0), [], rfl, rfl, (RowL.nil a6q a6r), (I_4.nil.bring 1), c7m⟩ ?_
 rintro f6i τ_46 w next2 ⟨⟨O6, D1⟩, H, a7u, Fs3l2, rfl, b2A, b1J, I, c7o⟩ hn2
 dsimp only at b2A I b1J
 simp only [List.map_cons, List.map_nil, List.cons.injEq, and_true] at b2A
 obtain ⟨e3, e4⟩ := b2A
 simp only [e3, e4]
 obtain ⟨n2, hm2, h⟩ : ∃ n2 : ((List ByteArray) × Int) → Hp → Prop, (∀ s' H', n2 s' H' → b2z s' H' ∧ a6Y s' < a6Y (O6, D1)) ∧ a0N x0 O6 D1 H n2 K := ⟨_, fun _ _ h => h, c7n (O6, D1) H (fun s' H' => b2z s' H' ∧ a6Y s' < a6Y (O6, D1)) c7o (fun _ _ a b => ⟨a, b⟩)⟩
 unfold d8B
 unfold a0N at h
 refine a6 F7 ?_
 refine c5 (ld1 Tryd.isAgg22 (I.at1 (o := 0) (vs := [(vs x0.s8)]) (nb rfl) rfl)) ?_
 refine a6 (Z6 _ _ _) ?_
 refine a6 (p6 _ _ _ _ _ _) ?_
 refine g8 (fun b2B => ?_) (fun b2B => ?_)
 ·replace h := h.1 b2B
  have hj3 : ∀ (a7t : (List ByteArray)) (b1K : Sl) (Fs3j3 : Frag) (H : Hp) (w : World) (_ : RowL 9 1 u7 b1K a7t Fs3j3) (_ : Inv w0 ps0 H0 H [bx g_2 25 (d5 x0), Fs3j3] w) (_ : M6 a7t D1 x0 H n2 K), c9M (Value.pointer (some ⟨g_2, 0, none⟩)) (vs b1K) (vi D1) w next2 R E := by
   intro a7t b1K Fs3j3 H w d6h I h
   unfold c9M
   intro _
   unfold M6 at h
   refine a6 (o4 _ _ _ _ _ _) ?_
   exact hn2 _ _ _ (hm2 _ _ h).2 ⟨(a7t, (IntKind.wrap .i64 (D1 + 1))), H, b1K, Fs3j3, rfl, rfl, d6h, ((I.bring 1).bring 1), (hm2 _ _ h).1⟩
  refine o3 fun j3 hx3 => ?_
  refine a6 F7 ?_
  refine c5 (ld1 Tryd.isAgg22 (I.at1 (o := 0) (vs := [(vs x0.s8)]) (nb rfl) rfl)) ?_
  obtain ⟨h_9, b3h, x_6, a7d, h⟩ := h
  obtain ⟨g_7, o_8, b0X, a7d⟩ := a7d
  refine a6 (N0 b0X _ _ _ _ h_9 b3h) ?_
  refine a6 N9 ?_
  refine c5 (ld1 (v := (vi x_6.A5)) Tryd.isAgg3 ((I.atH a7d).sub (k := 1) (n := 1) (nb rfl))) ?_
  refine a6 (c8 _ _ _ _ _ _) ?_
  refine g8 (fun c0W => ?_) (fun c0W => ?_)
  ·replace h := h.1 c0W
   refine a6 F7 ?_
   refine c5 (ld1 Tryd.isAgg22 (I.at1 (o := 0) (vs := [(vs x0.s8)]) (nb rfl) rfl)) ?_
   refine a6 (N0 b0X _ _ _ _ h_9 b3h) ?_
   refine a6 W4 ?_
   refine c5 (ld1 (v := (Value.string x_6.f5)) Tryd.isAgg9 ((I.atH a7d).sub (k := 0) (n := 1) (nb rfl))) ?_
   refine a5G (e := 9) (c := u7) (xs := [x_6.f5]) I (c2T _) rfl rfl a6q a6r (nb rfl) fun e1O d2z a8F b9R a4H c7M => ?_
   obtain ⟨c0I, h⟩ := h
   refine c5P (s := a7u) (xs := O6) (a4H.bring 2) b1J (b9R.srcO ((a4H.bring 2).bring 1)) c0I fun a6X c3v b0P b9P a7Z c7j => ?_
   exact hx3 _ _ (hj3 (O6 ++ [x_6.f5]) a6X c3v H _ b9P ((a7Z.bring 1).drop.bring 1) h)
  ·replace h := h.2 c0W
   exact hx3 _ _ (hj3 O6 a7u Fs3l2 H _ b1J ((I.bring 1).bring 1) h)
 ·replace h := h.2 b2B
  exact hx1 _ _ (hj1 O6 a7u Fs3l2 H _ b1J ((I.bring 1).bring 1) h)
theorem b3x (x0 : i7) {H : Hp} {K : Sl → Hp → Prop} (h : a2b x0 H K) : a4j x0 H K := by
 intro w I
 refine g3X ?_
 refine b1I x0 I (fun r0 H' w' I' hk => ⟨H', _, I', r0, rfl, rfl, hk⟩) h
def L5 (a7t : (List i4)) (c0E : Int) (_cr_1j3 : i7) (H : Hp) (n2 : ((List i4) × Int) → Hp → Prop) (_K : Sl → Hp → Prop) : Prop :=
 n2 (a7t, (IntKind.wrap .i64 (c0E + 1))) H
def Z3 (a9s : (List i4)) (_cr_1j1 : i7) (H : Hp) (K : Sl → Hp → Prop) : Prop :=
 ∀ (a2S : Sl) (a4n : Hp), Hle H a4n → SlH a4n 2 g9 a2S a9s → a2S.n ≤ a2S.c →
 K a2S a4n
def Z4 (cr_1l2 : i7) (O6 : (List i4)) (D1 : Int) (H : Hp) (n2 : ((List i4) × Int) → Hp → Prop) (K : Sl → Hp → Prop) : Prop :=
 (D1 < (cr_1l2.s8.n : Int) →
 (0 : Int) ≤ D1 ∧ (D1 : Int) < cr_1l2.s8.n ∧ ∃ x_6 : i4, EltH H cr_1l2.s8 D1 2 (g9 x_6) ∧
 (0 < x_6.A5 →
 (O6.length + ([x_6] : List i4).length) * 25 ≤ 140737488355328 ∧
 L5 (O6 ++ [x_6]) D1 cr_1l2 H n2 K) ∧
 (¬ (0 < x_6.A5) →
 L5 O6 D1 cr_1l2 H n2 K)) ∧
 (¬ (D1 < (cr_1l2.s8.n : Int)) →
 Z3 O6 cr_1l2 H K)
def a1i (x0 : i7) (H : Hp) (K : Sl → Hp → Prop) : Prop :=
 TL (([], 0) : (List i4) × Int) H fun (s : (List i4) × Int) H n2 => Z4 x0 s.1 s.2 H n2 K
theorem b0N (x0 : i7) {w0 w : World} {ps0 : Nat → Prop} {H0 H : Hp} {K : Sl → Hp → Prop} {R : Value → World → Prop} {E : Pan} (I : Inv w0 ps0 H0 H [] w) (hR : ∀ (r0 : Sl) (H' : Hp) (w' : World) (_ : Inv w0 ps0 H0 H' [] w') (_ : K r0 H'), R (vs r0) w') (h : a1i x0 H K) : F49 (Value.agg (d5 x0).toArray) w R E := by
 unfold a1i at h
 unfold F49
 refine K2 I (cs := (d5 x0)) rfl fun g_2 w_3 I_4 k_5 => ?_
 have hj1 : ∀ (a9s : (List i4)) (a2S : Sl) (Fs3j1 : Frag) (H : Hp) (w : World) (_ : RowL 67 2 g9 a2S a9s Fs3j1) (_ : Inv w0 ps0 H0 H [bx g_2 25 (d5 x0), Fs3j1] w) (_ : Z3 a9s x0 H K), c9Q (vs a2S) w R E := by
  intro a9s a2S Fs3j1 H w d6g I h
  unfold c9Q
  intro _
  unfold Z3 at h
  obtain ⟨a4n, a3s, c3y, a9T, c7l⟩ := Inv.freezeC (I.bring 1) d6g (by decide)
  replace h := h a2S a4n c3y a9T c7l
  exact hR a2S a4n _ a3s.drop h
 refine o3 fun j1 hx1 => ?_
 obtain ⟨b2z, a6Y, c7m, c7n⟩ := h
 refine t6 (J := fun n l w => ∃ (s : (List i4) × Int) (H : Hp) (a7u : Sl) (Fs3l2 : Frag) , n = a6Y s ∧ l = (match s with | (O6, D1) => [(vs a7u), (vi D1)]) ∧ (match s with | (O6, D1) => RowL 67 2 g9 a7u O6 Fs3l2) ∧ (match s with | (O6, D1) => Inv w0 ps0 H0 H [bx g_2 25 (d5 x0), Fs3l2] w) ∧ b2z s H) ⟨_, ([], 0), H, (Sl.mk none 0 0), [], rfl, rfl, (RowL.nil a4L a6j), (I_4.nil.bring 1), c7m⟩ ?_
 rintro f6i τ_46 w next2 ⟨⟨O6, D1⟩, H, a7u, Fs3l2, rfl, b2A, b1J, I, c7o⟩ hn2
 dsimp only at b2A I b1J
 simp only [List.map_cons, List.map_nil, List.cons.injEq, and_true] at b2A
 obtain ⟨e3, e4⟩ := b2A
 simp only [e3, e4]
 obtain ⟨n2, hm2, h⟩ : ∃ n2 : ((List i4) × Int) → Hp → Prop, (∀ s' H', n2 s' H' → b2z s' H' ∧ a6Y s' < a6Y (O6, D1)) ∧ Z4 x0 O6 D1 H n2 K := ⟨_, fun _ _ h => h, c7n (O6, D1) H (fun s' H' => b2z s' H' ∧ a6Y s' < a6Y (O6, D1)) c7o (fun _ _ a b => ⟨a, b⟩)⟩
 unfold d8D
 unfold Z4 at h
 refine a6 F7 ?_
 refine c5 (ld1 Tryd.isAgg22 (I.at1 (o := 0) (vs := [(vs x0.s8)]) (nb rfl) rfl)) ?_
 refine a6 (Z6 _ _ _) ?_
 refine a6 (p6 _ _ _ _ _ _) ?_
 refine g8 (fun b2B => ?_) (fun b2B => ?_)
 ·replace h := h.1 b2B
  have hj3 : ∀ (a7t : (List i4)) (b1K : Sl) (Fs3j3 : Frag) (H : Hp) (w : World) (_ : RowL 67 2 g9 b1K a7t Fs3j3) (_ : Inv w0 ps0 H0 H [bx g_2 25 (d5 x0), Fs3j3] w) (_ : L5 a7t D1 x0 H n2 K), c9R (Value.pointer (some ⟨g_2, 0, none⟩)) (vs b1K) (vi D1) w next2 R E := by
   intro a7t b1K Fs3j3 H w d6h I h
   unfold c9R
   intro _
   unfold L5 at h
   refine a6 (o4 _ _ _ _ _ _) ?_
   exact hn2 _ _ _ (hm2 _ _ h).2 ⟨(a7t, (IntKind.wrap .i64 (D1 + 1))), H, b1K, Fs3j3, rfl, rfl, d6h, ((I.bring 1).bring 1), (hm2 _ _ h).1⟩
  refine o3 fun j3 hx3 => ?_
  refine a6 F7 ?_
  refine c5 (ld1 Tryd.isAgg22 (I.at1 (o := 0) (vs := [(vs x0.s8)]) (nb rfl) rfl)) ?_
  obtain ⟨h_9, b3h, x_6, a7d, h⟩ := h
  obtain ⟨g_7, o_8, b0X, a7d⟩ := a7d
  refine a6 (N0 b0X _ _ _ _ h_9 b3h) ?_
  refine a6 N9 ?_
  refine c5 (ld1 (v := (vi x_6.A5)) Tryd.isAgg3 ((I.atH a7d).sub (k := 1) (n := 1) (nb rfl))) ?_
  refine a6 (T7 _ _ _ _ _ _) ?_
  refine g8 (fun c0W => ?_) (fun c0W => ?_)
  ·replace h := h.1 c0W
   refine a6 F7 ?_
   refine c5 (ld1 Tryd.isAgg22 (I.at1 (o := 0) (vs := [(vs x0.s8)]) (nb rfl) rfl)) ?_
   refine a6 (N0 b0X _ _ _ _ h_9 b3h) ?_
   refine c5 (ldA (vs := (g9 x_6)) Tryd.isAgg67 Tryd.sizeOf67 rfl (I.atH a7d)) ?_
   refine a5G (e := 67) (c := g9) (xs := [x_6]) I (e4S _ _) rfl rfl a4L a6j (nb rfl) fun e1O d2z a8F b9R a4H c7M => ?_
   obtain ⟨c0I, h⟩ := h
   refine d6F (s := a7u) (xs := O6) (a4H.bring 2) b1J (b9R.srcO ((a4H.bring 2).bring 1)) c0I fun a6X c3v b0P b9P a7Z c7j => ?_
   exact hx3 _ _ (hj3 (O6 ++ [x_6]) a6X c3v H _ b9P ((a7Z.bring 1).drop.bring 1) h)
  ·replace h := h.2 c0W
   exact hx3 _ _ (hj3 O6 a7u Fs3l2 H _ b1J ((I.bring 1).bring 1) h)
 ·replace h := h.2 b2B
  exact hx1 _ _ (hj1 O6 a7u Fs3l2 H _ b1J ((I.bring 1).bring 1) h)
theorem b1f (x0 : i7) {H : Hp} {K : Sl → Hp → Prop} (h : a1i x0 H K) : a3q x0 H K := by
 intro w I
 refine g4b ?_
 refine b0N x0 I (fun r0 H' w' I' hk => ⟨H', _, I', r0, rfl, rfl, hk⟩) h
def a0A (H : Hp) (K : Bool → Hp → Prop) : Prop :=
 K true H
def a0B (a5d : Sl) (a5c : Sl) (u2 : Int) (H : Hp) (n2 : Int → Hp → Prop) (K : Bool → Hp → Prop) : Prop :=
 (u2 < (a5d.n : Int) →
 (0 : Int) ≤ u2 ∧ (u2 : Int) < a5d.n ∧ ∃ x_3 : i4, EltH H a5d u2 2 (g9 x_3) ∧
 (0 : Int) ≤ u2 ∧ (u2 : Int) < a5c.n ∧ ∃ b0k : i4, EltH H a5c u2 2 (g9 b0k) ∧
 (¬ (x_3.f5 = b0k.f5 ∧ x_3.A5 = b0k.A5) →
 K false H) ∧
 (x_3.f5 = b0k.f5 ∧ x_3.A5 = b0k.A5 →
 n2 (IntKind.wrap .i64 (u2 + 1)) H)) ∧
 (¬ (u2 < (a5d.n : Int)) →
 a0A H K)
def a1C (x0 : Sl) (x1 : Sl) (H : Hp) (K : Bool → Hp → Prop) : Prop :=
 (¬ ((x0.n : Int) = (x1.n : Int)) →
 K false H) ∧
 ((x0.n : Int) = (x1.n : Int) →
 TL (0 : Int) H fun (s : Int) H n2 => a0B x0 x1 s H n2 K)
theorem b1g (x0 : Sl) (x1 : Sl) {w0 w : World} {ps0 : Nat → Prop} {H0 H : Hp} {K : Bool → Hp → Prop} {R : Value → World → Prop} {E : Pan} (I : Inv w0 ps0 H0 H [] w) (hR : ∀ (r0 : Bool) (H' : Hp) (w' : World) (_ : Inv w0 ps0 H0 H' [] w') (_ : K r0 H'), R (Value.bool r0) w') (h : a1C x0 x1 H K) : F48 (vs x0) (vs x1) w R E := by
 unfold a1C at h
 unfold F48
 refine a6 (Z6 _ _ _) ?_
 refine a6 (Z6 _ _ _) ?_
 refine a6 (B8 _ _ _ _ _ _) ?_
 refine a3Y (fun c0K => ?_) (fun c0K => ?_)
 ·replace h := h.1 c0K
  exact hR false H _ I h
 ·replace h := h.2 c0K
  have hj1 : ∀ (H : Hp) (w : World) (_ : Inv w0 ps0 H0 H [] w) (_ : a0A H K), c9P w R E := by
   intro H w I h
   unfold c9P
   intro _
   unfold a0A at h
   exact hR true H _ I h
  refine o3 fun j1 hx1 => ?_
  obtain ⟨c0L, b3p, e2L, e2M⟩ := h
  refine t6 (J := fun n l w => ∃ (s : Int) (H : Hp) , n = b3p s ∧ l = [(vi s)] ∧ Inv w0 ps0 H0 H [] w ∧ c0L s H) ⟨_, 0, H, rfl, rfl, I, e2L⟩ ?_
  rintro h3L τ_24 w next2 ⟨u2, H, rfl, c9y, I, b5E⟩ hn2
  simp only [List.map_cons, List.map_nil, List.cons.injEq, and_true] at c9y
  have e5 := c9y
  simp only [e5]
  obtain ⟨n2, hm2, h⟩ : ∃ n2 : Int → Hp → Prop, (∀ s' H', n2 s' H' → c0L s' H' ∧ b3p s' < b3p u2) ∧ a0B x0 x1 u2 H n2 K := ⟨_, fun _ _ h => h, e2M u2 H (fun s' H' => c0L s' H' ∧ b3p s' < b3p u2) b5E (fun _ _ a b => ⟨a, b⟩)⟩
  unfold d8C
  unfold a0B at h
  refine a6 (Z6 _ _ _) ?_
  refine a6 (p6 _ _ _ _ _ _) ?_
  refine g8 (fun a5V => ?_) (fun a5V => ?_)
  ·replace h := h.1 a5V
   refine a5F I fun w_1 I_2 => ?_
   obtain ⟨h_6, h_7, x_3, h_9, h⟩ := h
   obtain ⟨g_4, o_5, h_8, h_9⟩ := h_9
   refine q8 (N0 h_8 _ _ _ _ h_6 h_7) ?_
   obtain ⟨e2N, e2O, b0k, b6w, h⟩ := h
   obtain ⟨h3M, h3N, e2P, b6w⟩ := b6w
   refine q8 (N0 e2P _ _ _ _ e2N e2O) ?_
   refine M2 (ldA (vs := (g9 x_3)) Tryd.isAgg67 Tryd.sizeOf67 rfl (I_2.atH h_9)) ?_
   refine M2 (ldA (vs := (g9 b0k)) Tryd.isAgg67 Tryd.sizeOf67 rfl (I_2.atH b6w)) ?_
   refine q8 (d9v _ _ _ _ _ _) ?_
   refine a3Y (fun a4k => ?_) (fun a4k => ?_)
   ·replace h := h.1 a4k
    exact hR false H _ I_2 h
   ·replace h := h.2 a4k
    refine a6 (o4 _ _ _ _ _ _) ?_
    exact hn2 _ _ _ (hm2 _ _ h).2 ⟨(IntKind.wrap .i64 (u2 + 1)), H, rfl, rfl, I_2, (hm2 _ _ h).1⟩
  ·replace h := h.2 a5V
   exact hx1 _ _ (hj1 H _ I h)
theorem b1L (x0 : Sl) (x1 : Sl) {H : Hp} {K : Bool → Hp → Prop} (h : a1C x0 x1 H K) : a1r x0 x1 H K := by
 intro w I
 refine g3Z ?_
 refine b1g x0 x1 I (fun r0 H' w' I' hk => ⟨H', _, I', r0, rfl, rfl, hk⟩) h
def Z5 (x0 : i7) (H : Hp) (K : Bool → Hp → Prop) : Prop :=
 a3K H (fun (u4 : Bool) (H_6 : Hp) =>
 ((!u4) = true →
 K false H_6) ∧
 ((!u4) = false →
 a4s x0 H_6 (fun (b6G : ByteArray) (b6H : Int) (c0U : Hp) =>
 a3L x0 c0U (fun (d6i : ByteArray) (b1M : Int) (g5K : Hp) =>
 a6S x0 g5K (fun (c5x : Sl) (d6j : Int) (a8U : Hp) =>
 a5S x0 a8U (fun (c2M : Sl) (d6k : Int) (c4x : Hp) =>
 (((((!decide (b6G = d6i)) || (!decide (b6H = b1M))) || (!decide (d6j = b1M))) || (!decide (d6k = b1M))) = true →
 K false c4x) ∧
 (((((!decide (b6G = d6i)) || (!decide (b6H = b1M))) || (!decide (d6j = b1M))) || (!decide (d6k = b1M))) = false →
 (¬ (b1M = 0) →
 K ((decide ((c5x.n : Int) = 0)) && (decide ((c2M.n : Int) = 0))) c4x) ∧
 (b1M = 0 →
 a4j x0 c4x (fun (e4H : Sl) (b7Y : Hp) =>
 a3J c5x e4H b7Y (fun (b0D : Bool) (d0g : Hp) =>
 TG (b0D = true) (a3q x0 d0g) (Sl.mk none 0 0) d0g (fun (a6e : Sl) (a6y : Hp) =>
 TG (b0D = true) (a1r c2M a6e a6y) false a6y (fun (a3g : Bool) (a2h : Hp) =>
 K (b0D && a3g) a2h))))))))))))
theorem a9t (x0 : i7) {w0 w : World} {ps0 : Nat → Prop} {H0 H : Hp} {K : Bool → Hp → Prop} {R : Value → World → Prop} {E : Pan} (I : Inv w0 ps0 H0 H [] w) (hR : ∀ (r0 : Bool) (H' : Hp) (w' : World) (_ : Inv w0 ps0 H0 H' [] w') (_ : K r0 H'), R (Value.bool r0) w') (h : Z5 x0 H K) : F12 (Value.agg (d5 x0).toArray) w R E := by
 unfold Z5 at h
 unfold F12
 refine K2 I (cs := (d5 x0)) rfl fun g_2 w_3 I_4 k_5 => ?_
 refine f7 (cap := []) (fun args w => Tryd.call38 args w) ?_
 refine m2 (Fi := []) (Fr := [bx g_2 25 (d5 x0)]) I_4 (h) (fun a8X H_6 a8Y w_7 I_8 a8Z k_9 a1P => ?_) (fun _ _ _ _ _ q => q.elim)
 obtain ⟨u4, rfl, rfl, h⟩ := a1P
 refine a6 (L2 _) ?_
 refine m5 (fun c0q => ?_) (fun c0q => ?_)
 ·replace h := h.1 c0q
  exact hR false H_6 _ I_8.drop h
 ·replace h := h.2 c0q
  refine c5 (ldA Tryd.isAgg25 Tryd.sizeOf25 rfl (I_8.at1 (o := 0) (vs := (d5 x0)) (nb rfl) rfl)) ?_
  refine f7 (cap := []) (fun args w => Tryd.call39 args w) ?_
  refine m2 (Fi := []) (Fr := [bx g_2 25 (d5 x0)]) I_8 (h) (fun h4k c0U h4l p9 b0a h4m d3l e3r => ?_) (fun _ _ _ _ _ q => q.elim)
  obtain ⟨b6G, b6H, rfl, rfl, h⟩ := e3r
  refine a6 (u0 _ _ _ rfl) ?_
  refine a6 (u0 _ _ _ rfl) ?_
  refine c5 (ldA Tryd.isAgg25 Tryd.sizeOf25 rfl (b0a.at1 (o := 0) (vs := (d5 x0)) (nb rfl) rfl)) ?_
  refine f7 (cap := []) (fun args w => Tryd.call44 args w) ?_
  refine m2 (Fi := []) (Fr := [bx g_2 25 (d5 x0)]) b0a (h) (fun h9Q g5K h9R a9N d4P g0F h2S h4u => ?_) (fun _ _ _ _ _ q => q.elim)
  obtain ⟨d6i, b1M, rfl, rfl, h⟩ := h4u
  refine a6 (u0 _ _ _ rfl) ?_
  refine a6 (u0 _ _ _ rfl) ?_
  refine c5 (ldA Tryd.isAgg25 Tryd.sizeOf25 rfl (d4P.at1 (o := 0) (vs := (d5 x0)) (nb rfl) rfl)) ?_
  refine f7 (cap := []) (fun args w => Tryd.call45 args w) ?_
  refine m2 (Fi := []) (Fr := [bx g_2 25 (d5 x0)]) d4P (h) (fun h9S a8U g5J A8 d0f h9T h4s h4v => ?_) (fun _ _ _ _ _ q => q.elim)
  obtain ⟨c5x, d6j, rfl, rfl, h⟩ := h4v
  refine a6 (u0 _ _ _ rfl) ?_
  refine a6 (u0 _ _ _ rfl) ?_
  refine c5 (ldA Tryd.isAgg25 Tryd.sizeOf25 rfl (d0f.at1 (o := 0) (vs := (d5 x0)) (nb rfl) rfl)) ?_
  refine f7 (cap := []) (fun args w => Tryd.call46 args w) ?_
  refine m2 (Fi := []) (Fr := [bx g_2 25 (d5 x0)]) d0f (h) (fun h9U c4x h9V b7h d6l h9W h9X h4w => ?_) (fun _ _ _ _ _ q => q.elim)
  obtain ⟨c2M, d6k, rfl, rfl, h⟩ := h4w
  refine a6 (u0 _ _ _ rfl) ?_
  refine a6 (u0 _ _ _ rfl) ?_
  refine a6 (b4q _ _ _ _ _) ?_
  try simp only [o6]
  try simp only [o6, W3, a3x, a2p, a0C, a3B, a3y, a3z, a3A, a3C]
  refine a6 (Pu.g fun hb => by have a7 := hb; first | exact (B8 _ _ _ _ _ _) | (simp only [a8 a7]; exact (B8 _ _ _ _ _ _)) | (simp only [b8 a7, a8 a7, a8 hb, v8 a7, h7]; exact (B8 _ _ _ _ _ _))) ?_
  refine a6 (E6 _ _) ?_
  try simp only [o6]
  try simp only [o6, W3, a3x, a2p, a0C, a3B, a3y, a3z, a3A, a3C]
  refine a6 (Pu.g fun hb => by have a7 := hb; first | exact (B8 _ _ _ _ _ _) | (simp only [a8 a7]; exact (B8 _ _ _ _ _ _)) | (simp only [b8 a7, a8 a7, a8 hb, v8 a7, h7]; exact (B8 _ _ _ _ _ _))) ?_
  refine a6 (E6 _ _) ?_
  try simp only [o6]
  try simp only [o6, W3, a3x, a2p, a0C, a3B, a3y, a3z, a3A, a3C]
  refine a6 (Pu.g fun hb => by have a7 := hb; first | exact (B8 _ _ _ _ _ _) | (simp only [a8 a7]; exact (B8 _ _ _ _ _ _)) | (simp only [b8 a7, a8 a7, a8 hb, v8 a7, h7]; exact (B8 _ _ _ _ _ _))) ?_
  refine a6 (E6 _ _) ?_
  refine m5 (fun c0g => ?_) (fun c0g => ?_)
  ·replace h := h.1 c0g
   exact hR false c4x _ d6l.drop h
  ·replace h := h.2 c0g
   refine a6 (B8 _ _ _ _ _ _) ?_
   refine a3Y (fun b2L => ?_) (fun b2L => ?_)
   ·replace h := h.1 b2L
    refine a6 (b3E _ _ _) ?_
    refine a6 (c8 _ _ _ _ _ _) ?_
    try simp only [o6]
    refine a6 (Pu.g fun hb => by have a7 := hb; first | exact (Z6 _ _ _) | (simp only [a8 a7]; exact (Z6 _ _ _)) | (simp only [b8 a7, a8 a7, a8 hb, d9 a7, h7]; exact (Z6 _ _ _))) ?_
    refine a6 (Pu.g fun hb => by have a7 := hb; first | exact (c8 _ _ _ _ _ _) | (simp only [a8 a7]; exact (c8 _ _ _ _ _ _)) | (simp only [b8 a7, a8 a7, a8 hb, d9 a7, h7]; exact (c8 _ _ _ _ _ _))) ?_
    refine a6 (p1 _ _) ?_
    exact hR ((decide ((c5x.n : Int) = 0)) && (decide ((c2M.n : Int) = 0))) c4x _ d6l.drop h
   ·replace h := h.2 b2L
    refine c5 (ldA Tryd.isAgg25 Tryd.sizeOf25 rfl (d6l.at1 (o := 0) (vs := (d5 x0)) (nb rfl) rfl)) ?_
    refine f7 (cap := []) (fun args w => Tryd.call47 args w) ?_
    refine m2 (Fi := []) (Fr := [bx g_2 25 (d5 x0)]) d6l (h) (fun h9Y b7Y h9Z K5 h4x i0a i0b h4y => ?_) (fun _ _ _ _ _ q => q.elim)
    obtain ⟨e4H, rfl, rfl, h⟩ := h4y
    refine f7 (cap := []) (fun args w => Tryd.call29 args w) ?_
    refine m2 (Fi := []) (Fr := [bx g_2 25 (d5 x0)]) h4x (h) (fun i0c d0g i0d b5p d0h i0e i0f h4z => ?_) (fun _ _ _ _ _ q => q.elim)
    obtain ⟨b0D, rfl, rfl, h⟩ := h4z
    try simp only [o6]
    refine c5 (Ld.g fun hb => by have a7 := hb; first | exact (ldA Tryd.isAgg25 Tryd.sizeOf25 rfl (d0h.at1 (o := 0) (vs := (d5 x0)) (nb rfl) rfl)) | (simp only [b8 a7, a8 a7, a8 hb, r9 a7]; exact (ldA Tryd.isAgg25 Tryd.sizeOf25 rfl (d0h.at1 (o := 0) (vs := (d5 x0)) (nb rfl) rfl))) | (simp only [b8 a7, a8 a7, a8 hb, d9 a7, h7]; exact (ldA Tryd.isAgg25 Tryd.sizeOf25 rfl (d0h.at1 (o := 0) (vs := (d5 x0)) (nb rfl) rfl)))) ?_
    refine a3D (D := fun b9V N1 => ∃ (a6e : Sl) (a6y : Hp) , b9V = (gv b0D true (vs a6e)) ∧ (Inv w0 ps0 H0 a6y [bx g_2 25 (d5 x0)] N1) ∧ (∀ i, i < b5p.heap.size → ¬ inF [] i → N1.heap[i]? = b5p.heap[i]?) ∧ Hle d0g a6y ∧ (TG (b0D = true) (a1r c2M a6e a6y) false a6y (fun (a3g : Bool) (a2h : Hp) =>
 K (b0D && a3g) a2h))) (fun a9d => ?_) (fun a9d => ?_) ?_
    ·replace h := h.1 a9d
     have a7 := a9d
     try simp only [a8 a7]
     refine f7 (cap := []) (fun args w => Tryd.call49 args w) ?_
     refine m2 (Fi := []) (Fr := [bx g_2 25 (d5 x0)]) d0h (h) (fun b9V a6y h1L N1 b4d e0o d3f e0p => ?_) (fun _ _ _ _ _ q => q.elim)
     obtain ⟨a6e, rfl, rfl, h⟩ := e0p
     exact ⟨a6e, a6y, by first | rfl | rw [a8 a9d], b4d, d3f, e0o, h⟩
    ·exact ⟨(Sl.mk none 0 0), d0g, by first | rfl | rw [a6G a9d], d0h, fun _ _ _ => rfl, Hle.refl _, h.2 a9d⟩
    ·clear h
     rintro b9V N1 ⟨a6e, a6y, rfl, b4d, d3f, e0o, h⟩
     refine a3D (D := fun b7T b4e => ∃ (a3g : Bool) (a2h : Hp) , b7T = (gv b0D true (Value.bool a3g)) ∧ (Inv w0 ps0 H0 a2h [bx g_2 25 (d5 x0)] b4e) ∧ (∀ i, i < N1.heap.size → ¬ inF [] i → b4e.heap[i]? = N1.heap[i]?) ∧ Hle a6y a2h ∧ (K (b0D && a3g) a2h)) (fun c4y => ?_) (fun c4y => ?_) ?_
     ·replace h := h.1 c4y
      have a7 := c4y
      try simp only [a8 a7]
      refine f7 (cap := []) (fun args w => Tryd.call48 args w) ?_
      refine m2 (Fi := []) (Fr := [bx g_2 25 (d5 x0)]) b4d (h) (fun b7T a2h f6w b4e b4f c3H c3I c7H => ?_) (fun _ _ _ _ _ q => q.elim)
      obtain ⟨a3g, rfl, rfl, h⟩ := c7H
      exact ⟨a3g, a2h, by first | rfl | rw [a8 c4y], b4f, c3I, c3H, h⟩
     ·exact ⟨false, a6y, by first | rfl | rw [a6G c4y], b4d, fun _ _ _ => rfl, Hle.refl _, h.2 c4y⟩
     ·clear h
      rintro b7T b4e ⟨a3g, a2h, rfl, b4f, c3I, c3H, h⟩
      refine a6 (p1 _ _) ?_
      exact hR (b0D && a3g) a2h _ b4f.drop h
theorem a9H (x0 : i7) {H : Hp} {K : Bool → Hp → Prop} (h : Z5 x0 H K) : a2g x0 H K := by
 intro w I
 refine g2D ?_
 refine a9t x0 I (fun r0 H' w' I' hk => ⟨H', _, I', r0, rfl, rfl, hk⟩) h
def a4Z (x0 : i4) (H : Hp) (K : Int → Hp → Prop) : Prop :=
 (0 < x0.A5 →
 K 2 H) ∧
 (¬ (0 < x0.A5) →
 K 1 H)
theorem b6W (x0 : i4) {w0 w : World} {ps0 : Nat → Prop} {H0 H : Hp} {K : Int → Hp → Prop} {R : Value → World → Prop} {E : Pan} (I : Inv w0 ps0 H0 H [] w) (hR : ∀ (r0 : Int) (H' : Hp) (w' : World) (_ : Inv w0 ps0 H0 H' [] w') (_ : K r0 H'), R (vi r0) w') (h : a4Z x0 H K) : d5v (Value.agg (g9 x0).toArray) w R E := by
 unfold a4Z at h
 unfold d5v
 refine K2 I (cs := (g9 x0)) rfl fun g_2 w_3 I_4 k_5 => ?_
 refine a6 N9 ?_
 refine c5 (ld1 Tryd.isAgg3 (I_4.at1 (o := 1) (vs := [(vi x0.A5)]) (nb rfl) rfl)) ?_
 refine a6 (T7 _ _ _ _ _ _) ?_
 refine g8 (fun c_6 => ?_) (fun c_6 => ?_)
 ·replace h := h.1 c_6
  exact hR 2 H _ I_4.drop h
 ·replace h := h.2 c_6
  exact hR 1 H _ I_4.drop h
theorem b8v (x0 : i4) {H : Hp} {K : Int → Hp → Prop} (h : a4Z x0 H K) : b0F x0 H K := by
 intro w I
 refine e9b ?_
 refine b6W x0 I (fun r0 H' w' I' hk => ⟨H', _, I', r0, rfl, rfl, hk⟩) h
end Go.Proofs.YthldnpmfelniiaaDoor
