/- Typed formulas of the program's functions that few laws need; printed by lift.py off the code. -/
import Derived.Test.YtnhkdkcgdcgmdaaDoorzLV1
import Derived.Test.YtnhkdkcgdcgmdaaDoorzLG1v
namespace Go.Proofs.YtnhkdkcgdcgmdaaDoor
open Go.RowKit
set_option maxRecDepth 100000
set_option maxHeartbeats 2000000
variable {w0 w : World} {ps0 : Nat → Prop} {H0 H : Hp} {R : RT} {E : Pan}
def R2 (d8u : Sl) (b8J : Int) (b4l : d8) (N2 : Int) (E9 : (List b7)) (H : Hp) (n2 : (Int × (List b7)) → Hp → Prop) (K : f8 → (List b7) → Hp → Prop) : Prop :=
 (N2 < b8J →
 (0 : Int) ≤ N2 ∧ (N2 : Int) < d8u.n ∧ ∃ b4m : d8, EltH H d8u N2 4 (b6 b4m) ∧
 O9 (f8.mk (Sl.mk none 0 0)) E9 b4m H (fun (g0l : f8) (c0l : (List b7)) (d6V : Hp) =>
 n2 ((IntKind.wrap .i64 (N2 + 1)), c0l) d6V)) ∧
 (¬ (N2 < b8J) →
 K (f8.mk (Sl.mk none 0 0)) E9 H)
def D6 (a0b : (List b7)) (E2 : d8) (H : Hp) (K : f8 → (List b7) → Hp → Prop) : Prop :=
 TL ((0, a0b) : Int × (List b7)) H fun (s : Int × (List b7)) H n2 => R2 E2.z6 (E2.z6.n : Int) E2 s.1 s.2 H n2 K
def U1 (x0 : f8) (K7 : (List b7)) (x1 : d8) (H : Hp) (K : f8 → (List b7) → Hp → Prop) : Prop :=
 (x1.b9 = 2 →
 (K7.length + ([(b7.mk x1.d6 1)] : List b7).length) * 25 ≤ 140737488355328 ∧
 D6 (K7 ++ [(b7.mk x1.d6 1)]) x1 H K) ∧
 (¬ (x1.b9 = 2) →
 (x1.b9 = 4 →
 (K7.length + ([(b7.mk x1.d6 2)] : List b7).length) * 25 ≤ 140737488355328 ∧
 D6 (K7 ++ [(b7.mk x1.d6 2)]) x1 H K) ∧
 (¬ (x1.b9 = 4) →
 D6 K7 x1 H K))
theorem a7b (x0 : f8) (K7 : (List b7)) (x1 : d8) (g0 : Nat) (N8 : Sl) (S1 : Frag) (a3Y : RowL 117 2 o8 N8 K7 S1) {K : f8 → (List b7) → Hp → Prop} (I : Inv w0 ps0 H0 H [bx g0 114 [(vs N8)], S1] w) (hR : ∀ (y0 : f8) (a1i : (List b7)) (V0 : Sl) (V1 : Frag) (H' : Hp) (w' : World) (_ : RowL 117 2 o8 V0 a1i V1) (_ : Inv w0 ps0 H0 H' [bx g0 114 [(vs V0)], V1] w') (_ : K y0 a1i H'), R (Value.tuple #[]) w') (h : U1 x0 K7 x1 H K) : F94 (Value.pointer (some ⟨g0, 0, none⟩)) (Value.agg (b6 x1).toArray) w R E := by
 unfold U1 at h
 unfold F94
 refine L8 I (cs := (b6 x1)) rfl fun g_2 w_3 I_4 k_5 => ?_
 have hj1 : ∀ (a0b : (List b7)) (a2W : Sl) (a2X : Frag) (H : Hp) (w : World) (_ : RowL 117 2 o8 a2W a0b a2X) (_ : Inv w0 ps0 H0 H [bx g0 114 [(vs a2W)], bx g_2 24 (b6 x1), a2X] w) (_ : D6 a0b x1 H K), c5e (Value.pointer (some ⟨g0, 0, none⟩)) (Value.pointer (some ⟨g_2, 0, none⟩)) w R E := by
  intro a0b a2W a2X H w b6U I h
  unfold c5e
  intro _
  unfold D6 at h
  refine a7 a3G ?_
  refine b8 (ld1 Tryd.isAgg22 ((I.bring 1).at1 (o := 3) (vs := [(vs x1.z6)]) (nb rfl) rfl)) ?_
  refine a7 (a2s _ _ _) ?_
  obtain ⟨d6W, c5g, g4o, g4p⟩ := h
  refine L9 (J := fun n l w => ∃ (s : Int × (List b7)) (H : Hp) (a0d : Sl) (a0e : Frag) , n = c5g s ∧ l = (match s with | (N2, E9) => [(vi N2)]) ∧ (match s with | (N2, E9) => RowL 117 2 o8 a0d E9 a0e) ∧ (match s with | (N2, E9) => Inv w0 ps0 H0 H [bx g0 114 [(vs a0d)], bx g_2 24 (b6 x1), a0e] w) ∧ d6W s H) ⟨_, (0, a0b), H, a2W, a2X, rfl, rfl, b6U, (((I.bring 2).bring 2).bring 2), g4o⟩ ?_
  rintro g7N τ_88 w next2 ⟨⟨N2, E9⟩, H, a0d, a0e, rfl, d6X, a4W, I, g4q⟩ hn2
  dsimp only at d6X I a4W
  simp only [List.map_cons, List.map_nil, List.cons.injEq, and_true] at d6X
  have e39 := d6X
  simp only [e39]
  obtain ⟨n2, hm2, h⟩ : ∃ n2 : (Int × (List b7)) → Hp → Prop, (∀ s' H', n2 s' H' → d6W s' H' ∧ c5g s' < c5g (N2, E9)) ∧ R2 x1.z6 (x1.z6.n : Int) x1 N2 E9 H n2 K := ⟨_, fun _ _ h => h, g4p (N2, E9) H (fun s' H' => d6W s' H' ∧ c5g s' < c5g (N2, E9)) g4q (fun _ _ a b => ⟨a, b⟩)⟩
  unfold d2p
  unfold R2 at h
  refine a7 (B8 _ _ _ _ _ _) ?_
  refine i4 (fun b6t => ?_) (fun b6t => ?_)
  ·replace h := h.1 b6t
   obtain ⟨g4r, d4i, b4m, d6Y, h⟩ := h
   obtain ⟨g7O, g7P, g4s, d6Y⟩ := d6Y
   refine a7 (a1f g4s _ _ _ _ g4r d4i) ?_
   refine b8 (ldA (vs := (b6 b4m)) Tryd.isAgg24 Tryd.sizeOf24 rfl (I.atH d6Y)) ?_
   refine z7 I Tryd.zeroValue24 (cs := [(vi 0), (vi 0), (eS), (nS)]) rfl fun g4t b1V b3C c7L => ?_
   refine m9 b3C Tryd.sizeOf24 (vs := (b6 b4m)) (cs' := (b6 b4m)) rfl rfl (nb rfl) rfl rfl fun L6 b6a e8J => ?_
   refine b8 (ldA Tryd.isAgg24 Tryd.sizeOf24 rfl (b6a.at1 (o := 0) (vs := (b6 b4m)) (nb rfl) rfl)) ?_
   refine d5 (cap := []) (fun args w => Tryd.call94 args w) ?_
   refine m5 (Fi := [bx g0 114 [(vs a0d)], a0e]) (Fr := [bx g4t 24 (b6 b4m), bx g_2 24 (b6 x1)]) ((b6a.bring 3).bring 2) (h g0 a0d a0e a4W) (fun g7Q d6V g7R Q3 g4u g7S g7T g4v => ?_) (fun _ _ _ _ _ q => q.elim)
   obtain ⟨g0l, c0l, d6Z, d7a, rfl, rfl, d7b, h⟩ := g4v
   refine a7 (E4 _ _ _ _ _ _) ?_
   exact hn2 _ _ _ (hm2 _ _ h).2 ⟨((IntKind.wrap .i64 (N2 + 1)), c0l), d6V, d6Z, d7a, rfl, rfl, d7b, ((((g4u.bring 2).drop.bring 1).bring 2).bring 2), (hm2 _ _ h).1⟩
  ·replace h := h.2 b6t
   exact hR (f8.mk (Sl.mk none 0 0)) E9 a0d a0e H _ a4W (((I.bring 1).drop.bring 1).bring 1) h
 refine A8 fun j1 hx1 => ?_
 refine a7 U7 ?_
 refine b8 (ld1 Tryd.isAgg3 (I_4.at1 (o := 0) (vs := [(vi x1.b9)]) (nb rfl) rfl)) ?_
 refine a7 (i8 _ _ _ _ _ _) ?_
 refine i4 (fun c8Y => ?_) (fun c8Y => ?_)
 ·replace h := h.1 c8Y
  refine a0p I_4 fun w_6 I_7 => ?_
  refine j8 (p6 _) ?_
  refine j8 a0f ?_
  refine j8 a3I ?_
  refine u0 (ld1 Tryd.isAgg112 ((I_7.bring 1).at1 (o := 0) (vs := [(vs N8)]) (nb rfl) rfl)) ?_
  refine u0 (ld1 Tryd.isAgg9 (I_7.at1 (o := 2) (vs := [(Value.string x1.d6)]) (nb rfl) rfl)) ?_
  refine j8 (a3J _ _) ?_
  refine U3 (e := 117) (c := o8) (xs := [(b7.mk x1.d6 1)]) I_7 (b1m _ _) rfl rfl a2Z a3b (nb rfl) fun s_9 g7U a0I b4i f7J g4w => ?_
  refine ⟨(g4w _ (I_7.bring 1).lt1), ?_⟩
  obtain ⟨g4x, h⟩ := h
  refine b4C (s := N8) (xs := K7) (f7J.bring 3) a3Y (b4i.srcO ((f7J.bring 3).bring 1)) g4x fun d7c g4y a2k d6S a4k b3x => ?_
  refine j8 (p6 _) ?_
  refine j8 a0f ?_
  refine m9 ((a4k.bring 1).drop.bring 2) Tryd.sizeOf112 (vs := [(vs d7c)]) (cs' := [(vs d7c)]) rfl rfl (nb rfl) rfl rfl fun t1 g4z g7V => ?_
  exact hx1 _ _ (hj1 (K7 ++ [(b7.mk x1.d6 1)]) d7c g4y H _ d6S (((g4z.bring 1).bring 2).bring 2) h)
 ·replace h := h.2 c8Y
  refine a7 (i8 _ _ _ _ _ _) ?_
  refine i4 (fun c8Z => ?_) (fun c8Z => ?_)
  ·replace h := h.1 c8Z
   refine a0p I_4 fun b4a a6h => ?_
   refine j8 (p6 _) ?_
   refine j8 a0f ?_
   refine j8 a3I ?_
   refine u0 (ld1 Tryd.isAgg112 ((a6h.bring 1).at1 (o := 0) (vs := [(vs N8)]) (nb rfl) rfl)) ?_
   refine u0 (ld1 Tryd.isAgg9 (a6h.at1 (o := 2) (vs := [(Value.string x1.d6)]) (nb rfl) rfl)) ?_
   refine j8 (a3J _ _) ?_
   refine U3 (e := 117) (c := o8) (xs := [(b7.mk x1.d6 2)]) a6h (b1m _ _) rfl rfl a2Z a3b (nb rfl) fun e8Q g7W a0q d6R f7K g4A => ?_
   refine ⟨(g4A _ (a6h.bring 1).lt1), ?_⟩
   obtain ⟨g0m, h⟩ := h
   refine b4C (s := N8) (xs := K7) (f7K.bring 3) a3Y (d6R.srcO ((f7K.bring 3).bring 1)) g0m fun c9a g0n N7 c8T g0o g5h => ?_
   refine j8 (p6 _) ?_
   refine j8 a0f ?_
   refine m9 ((g0o.bring 1).drop.bring 2) Tryd.sizeOf112 (vs := [(vs c9a)]) (cs' := [(vs c9a)]) rfl rfl (nb rfl) rfl rfl fun f9O g0p g5i => ?_
   exact hx1 _ _ (hj1 (K7 ++ [(b7.mk x1.d6 2)]) c9a g0n H _ c8T (((g0p.bring 1).bring 2).bring 2) h)
  ·replace h := h.2 c8Z
   exact hx1 _ _ (hj1 K7 N8 S1 H _ a3Y (((I_4.bring 2).bring 1).bring 2) h)
theorem a7y (x0 : f8) (K7 : (List b7)) (x1 : d8) {H : Hp} {K : f8 → (List b7) → Hp → Prop} (h : U1 x0 K7 x1 H K) : O9 x0 K7 x1 H K := by
 intro g0 N8 S1 a3Y w I
 refine f7I ?_
 refine a7b x0 K7 x1 g0 N8 S1 a3Y I (fun y0 a1i V0 V1 H' w' b4n I' hk => ⟨H', _, I', y0, a1i, V0, V1, rfl, rfl, b4n, hk⟩) h
def R3 (d8v : Sl) (d8w : Int) (b4l : o9) (a2f : Int) (E9 : (List b7)) (H : Hp) (n2 : (Int × (List b7)) → Hp → Prop) (K : f8 → (List b7) → Hp → Prop) : Prop :=
 (a2f < d8w →
 (0 : Int) ≤ a2f ∧ (a2f : Int) < d8v.n ∧ ∃ b4o : o9, EltH H d8v a2f 4 (i5 b4o) ∧
 T7 (f8.mk (Sl.mk none 0 0)) E9 b4o H (fun (g0q : f8) (c0m : (List b7)) (a2K : Hp) =>
 n2 ((IntKind.wrap .i64 (a2f + 1)), c0m) a2K)) ∧
 (¬ (a2f < d8w) →
 K (f8.mk (Sl.mk none 0 0)) E9 H)
def R4 (E2 : o9) (a0b : (List b7)) (H : Hp) (K : f8 → (List b7) → Hp → Prop) : Prop :=
 TL ((0, a0b) : Int × (List b7)) H fun (s : Int × (List b7)) H n2 => R3 E2.t7 (E2.t7.n : Int) E2 s.1 s.2 H n2 K
def R5 (f7L : Sl) (d8x : Int) (f7M : o9) (a2g : Int) (a0y : (List b7)) (H : Hp) (n3 : (Int × (List b7)) → Hp → Prop) (K : f8 → (List b7) → Hp → Prop) : Prop :=
 (a2g < d8x →
 (0 : Int) ≤ a2g ∧ (a2g : Int) < f7L.n ∧ ∃ a9J : d8, EltH H f7L a2g 4 (b6 a9J) ∧
 O9 (f8.mk (Sl.mk none 0 0)) a0y a9J H (fun (f7N : f8) (b6V : (List b7)) (c9b : Hp) =>
 n3 ((IntKind.wrap .i64 (a2g + 1)), b6V) c9b)) ∧
 (¬ (a2g < d8x) →
 R4 f7M a0y H K)
def U2 (x0 : f8) (K7 : (List b7)) (x1 : o9) (H : Hp) (K : f8 → (List b7) → Hp → Prop) : Prop :=
 TL ((0, K7) : Int × (List b7)) H fun (s : Int × (List b7)) H n3 => R5 x1.i7 (x1.i7.n : Int) x1 s.1 s.2 H n3 K
theorem a7c (x0 : f8) (K7 : (List b7)) (x1 : o9) (g0 : Nat) (N8 : Sl) (S1 : Frag) (a3Y : RowL 117 2 o8 N8 K7 S1) {K : f8 → (List b7) → Hp → Prop} (I : Inv w0 ps0 H0 H [bx g0 114 [(vs N8)], S1] w) (hR : ∀ (y0 : f8) (a1i : (List b7)) (V0 : Sl) (V1 : Frag) (H' : Hp) (w' : World) (_ : RowL 117 2 o8 V0 a1i V1) (_ : Inv w0 ps0 H0 H' [bx g0 114 [(vs V0)], V1] w') (_ : K y0 a1i H'), R (Value.tuple #[]) w') (h : U2 x0 K7 x1 H K) : F93 (Value.pointer (some ⟨g0, 0, none⟩)) (Value.agg (i5 x1).toArray) w R E := by
 unfold U2 at h
 unfold F93
 refine L8 I (cs := (i5 x1)) rfl fun g_2 w_3 I_4 k_5 => ?_
 have hj1 : ∀ (a0b : (List b7)) (a2W : Sl) (a2X : Frag) (H : Hp) (w : World) (_ : RowL 117 2 o8 a2W a0b a2X) (_ : Inv w0 ps0 H0 H [bx g_2 27 (i5 x1), bx g0 114 [(vs a2W)], a2X] w) (_ : R4 x1 a0b H K), c5c (Value.pointer (some ⟨g0, 0, none⟩)) (Value.pointer (some ⟨g_2, 0, none⟩)) w R E := by
  intro a0b a2W a2X H w b6U I h
  unfold c5c
  intro _
  unfold R4 at h
  refine a7 a1C ?_
  refine b8 (ld1 Tryd.isAgg25 (I.at1 (o := 3) (vs := [(vs x1.t7)]) (nb rfl) rfl)) ?_
  refine a7 (a6A _ _ _) ?_
  obtain ⟨d7d, c5h, g4B, g4C⟩ := h
  refine L9 (J := fun n l w => ∃ (s : Int × (List b7)) (H : Hp) (a0d : Sl) (a0e : Frag) , n = c5h s ∧ l = (match s with | (a2f, E9) => [(vi a2f)]) ∧ (match s with | (a2f, E9) => RowL 117 2 o8 a0d E9 a0e) ∧ (match s with | (a2f, E9) => Inv w0 ps0 H0 H [bx g_2 27 (i5 x1), bx g0 114 [(vs a0d)], a0e] w) ∧ d7d s H) ⟨_, (0, a0b), H, a2W, a2X, rfl, rfl, b6U, (((I.bring 2).bring 2).bring 2), g4B⟩ ?_
  rintro g7X τ_93 w next2 ⟨⟨a2f, E9⟩, H, a0d, a0e, rfl, d7e, a4W, I, g4D⟩ hn2
  dsimp only at d7e I a4W
  simp only [List.map_cons, List.map_nil, List.cons.injEq, and_true] at d7e
  have e22 := d7e
  simp only [e22]
  obtain ⟨n2, hm2, h⟩ : ∃ n2 : (Int × (List b7)) → Hp → Prop, (∀ s' H', n2 s' H' → d7d s' H' ∧ c5h s' < c5h (a2f, E9)) ∧ R3 x1.t7 (x1.t7.n : Int) x1 a2f E9 H n2 K := ⟨_, fun _ _ h => h, g4C (a2f, E9) H (fun s' H' => d7d s' H' ∧ c5h s' < c5h (a2f, E9)) g4D (fun _ _ a b => ⟨a, b⟩)⟩
  unfold d2n
  unfold R3 at h
  refine a7 (B8 _ _ _ _ _ _) ?_
  refine i4 (fun a8n => ?_) (fun a8n => ?_)
  ·replace h := h.1 a8n
   obtain ⟨g4E, g4F, b4o, d7f, h⟩ := h
   obtain ⟨g7Y, g7Z, g4G, d7f⟩ := d7f
   refine a7 (a2w g4G _ _ _ _ g4E g4F) ?_
   refine b8 (ldA (vs := (i5 b4o)) Tryd.isAgg27 Tryd.sizeOf27 rfl (I.atH d7f)) ?_
   refine z7 I Tryd.zeroValue27 (cs := [(vi 0), (vi 0), (nS), (nS)]) rfl fun g4H P1 d6Q g8a => ?_
   refine m9 d6Q Tryd.sizeOf27 (vs := (i5 b4o)) (cs' := (i5 b4o)) rfl rfl (nb rfl) rfl rfl fun d6B f7O g8b => ?_
   refine b8 (ldA Tryd.isAgg27 Tryd.sizeOf27 rfl (f7O.at1 (o := 0) (vs := (i5 b4o)) (nb rfl) rfl)) ?_
   refine d5 (cap := []) (fun args w => Tryd.call93 args w) ?_
   refine m5 (Fi := [bx g0 114 [(vs a0d)], a0e]) (Fr := [bx g4H 27 (i5 b4o), bx g_2 27 (i5 x1)]) ((f7O.bring 3).bring 3) (h g0 a0d a0e a4W) (fun c2Q a2K e8K b0c b3v c7w c7x c2S => ?_) (fun _ _ _ _ _ q => q.elim)
   obtain ⟨g0q, c0m, d7g, d7h, rfl, rfl, d7i, h⟩ := c2S
   refine a7 (E4 _ _ _ _ _ _) ?_
   exact hn2 _ _ _ (hm2 _ _ h).2 ⟨((IntKind.wrap .i64 (a2f + 1)), c0m), a2K, d7g, d7h, rfl, rfl, d7i, ((((b3v.bring 2).drop.bring 1).bring 1).bring 2), (hm2 _ _ h).1⟩
  ·replace h := h.2 a8n
   exact hR (f8.mk (Sl.mk none 0 0)) E9 a0d a0e H _ a4W ((I.drop.bring 1).bring 1) h
 refine A8 fun j1 hx1 => ?_
 refine a7 a5g ?_
 refine b8 (ld1 Tryd.isAgg22 (I_4.at1 (o := 2) (vs := [(vs x1.i7)]) (nb rfl) rfl)) ?_
 refine a7 (a2s _ _ _) ?_
 obtain ⟨c9c, b8K, g0r, g0s⟩ := h
 refine L9 (J := fun n l w => ∃ (s : Int × (List b7)) (H : Hp) (a6j : Sl) (a6k : Frag) , n = b8K s ∧ l = (match s with | (a2g, a0y) => [(vi a2g)]) ∧ (match s with | (a2g, a0y) => RowL 117 2 o8 a6j a0y a6k) ∧ (match s with | (a2g, a0y) => Inv w0 ps0 H0 H [bx g_2 27 (i5 x1), bx g0 114 [(vs a6j)], a6k] w) ∧ c9c s H) ⟨_, (0, K7), H, N8, S1, rfl, rfl, a3Y, (((I_4.bring 2).bring 2).bring 2), g0r⟩ ?_
 rintro g5j τ_135 w next3 ⟨⟨a2g, a0y⟩, H, a6j, a6k, rfl, c1k, b6W, I, g0t⟩ hn3
 dsimp only at c1k I b6W
 simp only [List.map_cons, List.map_nil, List.cons.injEq, and_true] at c1k
 have e11 := c1k
 simp only [e11]
 obtain ⟨n3, hm3, h⟩ : ∃ n3 : (Int × (List b7)) → Hp → Prop, (∀ s' H', n3 s' H' → c9c s' H' ∧ b8K s' < b8K (a2g, a0y)) ∧ R5 x1.i7 (x1.i7.n : Int) x1 a2g a0y H n3 K := ⟨_, fun _ _ h => h, g0s (a2g, a0y) H (fun s' H' => c9c s' H' ∧ b8K s' < b8K (a2g, a0y)) g0t (fun _ _ a b => ⟨a, b⟩)⟩
 unfold d2o
 unfold R5 at h
 refine a7 (B8 _ _ _ _ _ _) ?_
 refine i4 (fun c9d => ?_) (fun c9d => ?_)
 ·replace h := h.1 c9d
  obtain ⟨c8U, g0u, a9J, c9e, h⟩ := h
  obtain ⟨g5k, g5l, g0v, c9e⟩ := c9e
  refine a7 (a1f g0v _ _ _ _ c8U g0u) ?_
  refine b8 (ldA (vs := (b6 a9J)) Tryd.isAgg24 Tryd.sizeOf24 rfl (I.atH c9e)) ?_
  refine z7 I Tryd.zeroValue24 (cs := [(vi 0), (vi 0), (eS), (nS)]) rfl fun g0w R9 g0x g5m => ?_
  refine m9 g0x Tryd.sizeOf24 (vs := (b6 a9J)) (cs' := (b6 a9J)) rfl rfl (nb rfl) rfl rfl fun g5n d8y g5o => ?_
  refine b8 (ldA Tryd.isAgg24 Tryd.sizeOf24 rfl (d8y.at1 (o := 0) (vs := (b6 a9J)) (nb rfl) rfl)) ?_
  refine d5 (cap := []) (fun args w => Tryd.call94 args w) ?_
  refine m5 (Fi := [bx g0 114 [(vs a6j)], a6k]) (Fr := [bx g0w 24 (b6 a9J), bx g_2 27 (i5 x1)]) ((d8y.bring 3).bring 3) (h g0 a6j a6k b6W) (fun g5p c9b g5q g5r g0y g5s g5t g0z => ?_) (fun _ _ _ _ _ q => q.elim)
  obtain ⟨f7N, b6V, d2r, d2s, rfl, rfl, d2t, h⟩ := g0z
  refine a7 (E4 _ _ _ _ _ _) ?_
  exact hn3 _ _ _ (hm3 _ _ h).2 ⟨((IntKind.wrap .i64 (a2g + 1)), b6V), c9b, d2r, d2s, rfl, rfl, d2t, ((((g0y.bring 2).drop.bring 1).bring 1).bring 2), (hm3 _ _ h).1⟩
 ·replace h := h.2 c9d
  exact hx1 _ _ (hj1 a0y a6j a6k H _ b6W (((I.bring 2).bring 2).bring 2) h)
theorem a7z (x0 : f8) (K7 : (List b7)) (x1 : o9) {H : Hp} {K : f8 → (List b7) → Hp → Prop} (h : U2 x0 K7 x1 H K) : T7 x0 K7 x1 H K := by
 intro g0 N8 S1 a3Y w I
 refine f7q ?_
 refine a7c x0 K7 x1 g0 N8 S1 a3Y I (fun y0 a1i V0 V1 H' w' b4n I' hk => ⟨H', _, I', y0, a1i, V0, V1, rfl, rfl, b4n, hk⟩) h
def P4 (g5u : Sl) (b1Y : Int) (g0A : Int) (a6l : (List b7)) (H : Hp) (n1 : (Int × (List b7)) → Hp → Prop) (K : f8 → (List b7) → Hp → Prop) : Prop :=
 n1 ((IntKind.wrap .i64 (g0A + 1)), a6l) H
def P5 (d7K : Sl) (c7T : Int) (g0B : Int) (a9e : (List b7)) (c5i : o0) (H : Hp) (n1 : (Int × (List b7)) → Hp → Prop) (K : f8 → (List b7) → Hp → Prop) : Prop :=
 N6 (f8.mk (Sl.mk none 0 0)) a9e c5i.G7 H (fun (f7P : f8) (c5j : (List b7)) (d8z : Hp) =>
 N6 (f8.mk (Sl.mk none 0 0)) c5j c5i.G0 d8z (fun (f7Q : f8) (b6X : (List b7)) (c9f : Hp) =>
 P4 d7K c7T g0B b6X c9f n1 K))
def P6 (g0C : Sl) (g0D : Int) (g0E : Int) (d8A : Sl) (d8B : Int) (d7j : o0) (a2h : Int) (a0z : (List b7)) (H : Hp) (n1 : (Int × (List b7)) → Hp → Prop) (n6 : (Int × (List b7)) → Hp → Prop) (K : f8 → (List b7) → Hp → Prop) : Prop :=
 (a2h < d8B →
 (0 : Int) ≤ a2h ∧ (a2h : Int) < d8A.n ∧ ∃ a9K : d8, EltH H d8A a2h 4 (b6 a9K) ∧
 O9 (f8.mk (Sl.mk none 0 0)) a0z a9K H (fun (f7R : f8) (b6Y : (List b7)) (c9g : Hp) =>
 n6 ((IntKind.wrap .i64 (a2h + 1)), b6Y) c9g)) ∧
 (¬ (a2h < d8B) →
 P5 g0C g0D g0E a0z d7j H n1 K)
def P7 (g0F : Sl) (g0G : Int) (g0H : Int) (a6m : (List b7)) (b6Z : o0) (H : Hp) (n1 : (Int × (List b7)) → Hp → Prop) (K : f8 → (List b7) → Hp → Prop) : Prop :=
 TL ((0, a6m) : Int × (List b7)) H fun (s : Int × (List b7)) H n6 => P6 g0F g0G g0H b6Z.i7 (b6Z.i7.n : Int) b6Z s.1 s.2 H n1 n6 K
def P8 (g0I : Sl) (g0J : Int) (g0K : Int) (d8C : Sl) (d8D : Int) (d7k : o0) (a2i : Int) (a0A : (List b7)) (H : Hp) (n1 : (Int × (List b7)) → Hp → Prop) (n7 : (Int × (List b7)) → Hp → Prop) (K : f8 → (List b7) → Hp → Prop) : Prop :=
 (a2i < d8D →
 (0 : Int) ≤ a2i ∧ (a2i : Int) < d8C.n ∧ ∃ a9L : o9, EltH H d8C a2i 4 (i5 a9L) ∧
 T7 (f8.mk (Sl.mk none 0 0)) a0A a9L H (fun (f7S : f8) (b7a : (List b7)) (c9h : Hp) =>
 n7 ((IntKind.wrap .i64 (a2i + 1)), b7a) c9h)) ∧
 (¬ (a2i < d8D) →
 P7 g0I g0J g0K a0A d7k H n1 K)
def C7 (g0L : Sl) (g0M : Int) (g0N : Int) (a6n : (List b7)) (b7b : o0) (H : Hp) (n1 : (Int × (List b7)) → Hp → Prop) (K : f8 → (List b7) → Hp → Prop) : Prop :=
 TL ((0, a6n) : Int × (List b7)) H fun (s : Int × (List b7)) H n7 => P8 g0L g0M g0N b7b.r5 (b7b.r5.n : Int) b7b s.1 s.2 H n1 n7 K
def P9 (b8L : Sl) (b8M : Int) (Q0 : Int) (L0 : (List b7)) (H : Hp) (n1 : (Int × (List b7)) → Hp → Prop) (K : f8 → (List b7) → Hp → Prop) : Prop :=
 (Q0 < b8M →
 (0 : Int) ≤ Q0 ∧ (Q0 : Int) < b8L.n ∧ ∃ D1 : o0, EltH H b8L Q0 6 (d9 D1) ∧
 (D1.b9 = 1 →
 (L0.length + ([(b7.mk D1.d6 1)] : List b7).length) * 25 ≤ 140737488355328 ∧
 C7 b8L b8M Q0 (L0 ++ [(b7.mk D1.d6 1)]) D1 H n1 K) ∧
 (¬ (D1.b9 = 1) →
 (D1.b9 = 2 →
 (L0.length + ([(b7.mk D1.d6 2)] : List b7).length) * 25 ≤ 140737488355328 ∧
 C7 b8L b8M Q0 (L0 ++ [(b7.mk D1.d6 2)]) D1 H n1 K) ∧
 (¬ (D1.b9 = 2) →
 C7 b8L b8M Q0 L0 D1 H n1 K))) ∧
 (¬ (Q0 < b8M) →
 K (f8.mk (Sl.mk none 0 0)) L0 H)
def T2 (x0 : f8) (K7 : (List b7)) (x1 : Sl) (H : Hp) (K : f8 → (List b7) → Hp → Prop) : Prop :=
 TL ((0, K7) : Int × (List b7)) H fun (s : Int × (List b7)) H n1 => P9 x1 (x1.n : Int) s.1 s.2 H n1 K
theorem a6N (x0 : f8) (K7 : (List b7)) (x1 : Sl) (g0 : Nat) (N8 : Sl) (S1 : Frag) (a3Y : RowL 117 2 o8 N8 K7 S1) {K : f8 → (List b7) → Hp → Prop} (I : Inv w0 ps0 H0 H [bx g0 114 [(vs N8)], S1] w) (hR : ∀ (y0 : f8) (a1i : (List b7)) (V0 : Sl) (V1 : Frag) (H' : Hp) (w' : World) (_ : RowL 117 2 o8 V0 a1i V1) (_ : Inv w0 ps0 H0 H' [bx g0 114 [(vs V0)], V1] w') (_ : K y0 a1i H'), R (Value.tuple #[]) w') (h : T2 x0 K7 x1 H K) : F55 (Value.pointer (some ⟨g0, 0, none⟩)) (vs x1) w R E := by
 unfold T2 at h
 unfold F55
 refine a7 (a4X _ _ _) ?_
 obtain ⟨c9i, b8N, g0O, g0P⟩ := h
 refine L9 (J := fun n l w => ∃ (s : Int × (List b7)) (H : Hp) (a2Y : Sl) (a9f : Frag) , n = b8N s ∧ l = (match s with | (Q0, L0) => [(vi Q0)]) ∧ (match s with | (Q0, L0) => RowL 117 2 o8 a2Y L0 a9f) ∧ (match s with | (Q0, L0) => Inv w0 ps0 H0 H [bx g0 114 [(vs a2Y)], a9f] w) ∧ c9i s H) ⟨_, (0, K7), H, N8, S1, rfl, rfl, a3Y, ((I.bring 1).bring 1), g0O⟩ ?_
 rintro g5v τ_426 w next1 ⟨⟨Q0, L0⟩, H, a2Y, a9f, rfl, c9j, a9g, I, g0Q⟩ hn1
 dsimp only at c9j I a9g
 simp only [List.map_cons, List.map_nil, List.cons.injEq, and_true] at c9j
 have e12 := c9j
 simp only [e12]
 obtain ⟨n1, hm1, h⟩ : ∃ n1 : (Int × (List b7)) → Hp → Prop, (∀ s' H', n1 s' H' → c9i s' H' ∧ b8N s' < b8N (Q0, L0)) ∧ P9 x1 (x1.n : Int) Q0 L0 H n1 K := ⟨_, fun _ _ h => h, g0P (Q0, L0) H (fun s' H' => c9i s' H' ∧ b8N s' < b8N (Q0, L0)) g0Q (fun _ _ a b => ⟨a, b⟩)⟩
 unfold d2k
 unfold P9 at h
 refine a7 (B8 _ _ _ _ _ _) ?_
 refine i4 (fun c9k => ?_) (fun c9k => ?_)
 ·replace h := h.1 c9k
  have hj2 : ∀ (a6l : (List b7)) (b2q : Sl) (b2r : Frag) (H : Hp) (w : World) (_ : RowL 117 2 o8 b2q a6l b2r) (_ : Inv w0 ps0 H0 H [bx g0 114 [(vs b2q)], b2r] w) (_ : P4 x1 (x1.n : Int) Q0 a6l H n1 K), c4X (Value.pointer (some ⟨g0, 0, none⟩)) (vs x1) (vi (x1.n : Int)) (vi Q0) w next1 R E := by
   intro a6l b2q b2r H w d7l I h
   unfold c4X
   intro _
   unfold P4 at h
   refine a7 (E4 _ _ _ _ _ _) ?_
   exact hn1 _ _ _ (hm1 _ _ h).2 ⟨((IntKind.wrap .i64 (Q0 + 1)), a6l), H, b2q, b2r, rfl, rfl, d7l, ((I.bring 1).bring 1), (hm1 _ _ h).1⟩
  refine A8 fun j2 hx2 => ?_
  obtain ⟨g0R, g0S, D1, c9l, h⟩ := h
  obtain ⟨g5w, g5x, g0T, c9l⟩ := c9l
  refine a7 (b5P g0T _ _ _ _ g0R g0S) ?_
  refine b8 (ldA (vs := (d9 D1)) Tryd.isAgg63 Tryd.sizeOf63 rfl (I.atH c9l)) ?_
  refine z7 I Tryd.zeroValue63 (cs := [(vi 0), (eS), (nS), (nS), (nS), (nS)]) rfl fun a4C g5y g0U g5z => ?_
  refine m9 g0U Tryd.sizeOf63 (vs := (d9 D1)) (cs' := (d9 D1)) rfl rfl (nb rfl) rfl rfl fun g5A c1l g5B => ?_
  have hj3 : ∀ (a6n : (List b7)) (b2s : Sl) (b2t : Frag) (H : Hp) (w : World) (_ : RowL 117 2 o8 b2s a6n b2t) (_ : Inv w0 ps0 H0 H [bx g0 114 [(vs b2s)], bx a4C 63 (d9 D1), b2t] w) (_ : C7 x1 (x1.n : Int) Q0 a6n D1 H n1 K), c5a (Value.pointer (some ⟨g0, 0, none⟩)) (Value.pointer (some ⟨a4C, 0, none⟩)) (vs x1) (vi (x1.n : Int)) (vi Q0) w j2 R E := by
   intro a6n b2s b2t H w d7m I h
   unfold c5a
   intro _
   unfold C7 at h
   have hj4 : ∀ (a6m : (List b7)) (b2u : Sl) (b2v : Frag) (H : Hp) (w : World) (_ : RowL 117 2 o8 b2u a6m b2v) (_ : Inv w0 ps0 H0 H [bx g0 114 [(vs b2u)], bx a4C 63 (d9 D1), b2v] w) (_ : P7 x1 (x1.n : Int) Q0 a6m D1 H n1 K), c4Z (Value.pointer (some ⟨g0, 0, none⟩)) (Value.pointer (some ⟨a4C, 0, none⟩)) (vs x1) (vi (x1.n : Int)) (vi Q0) w j2 R E := by
    intro a6m b2u b2v H w d7n I h
    unfold c4Z
    intro _
    unfold P7 at h
    have hj5 : ∀ (a9e : (List b7)) (a9h : Sl) (a9i : Frag) (H : Hp) (w : World) (_ : RowL 117 2 o8 a9h a9e a9i) (_ : Inv w0 ps0 H0 H [bx g0 114 [(vs a9h)], bx a4C 63 (d9 D1), a9i] w) (_ : P5 x1 (x1.n : Int) Q0 a9e D1 H n1 K), c4Y (Value.pointer (some ⟨g0, 0, none⟩)) (Value.pointer (some ⟨a4C, 0, none⟩)) (vs x1) (vi (x1.n : Int)) (vi Q0) w j2 R E := by
     intro a9e a9h a9i H w d7o I h
     unfold c4Y
     intro _
     unfold P5 at h
     refine a7 a5k ?_
     refine b8 (ld1 Tryd.isAgg42 ((I.bring 1).at1 (o := 4) (vs := [(vs D1.G7)]) (nb rfl) rfl)) ?_
     refine d5 (cap := []) (fun args w => Tryd.call55 args w) ?_
     refine m5 (Fi := [bx g0 114 [(vs a9h)], a9i]) (Fr := [bx a4C 63 (d9 D1)]) ((I.bring 2).bring 1) (h g0 a9h a9i d7o) (fun g5C d8z g5D g5E d8E g5F g5G g0V => ?_) (fun _ _ _ _ _ q => q.elim)
     obtain ⟨f7P, c5j, c0H, c0I, rfl, rfl, d2u, h⟩ := g0V
     refine a7 a5l ?_
     refine b8 (ld1 Tryd.isAgg42 ((d8E.bring 2).at1 (o := 5) (vs := [(vs D1.G0)]) (nb rfl) rfl)) ?_
     refine d5 (cap := []) (fun args w => Tryd.call55 args w) ?_
     refine m5 (Fi := [bx g0 114 [(vs c0H)], c0I]) (Fr := [bx a4C 63 (d9 D1)]) ((d8E.bring 1).bring 1) (h g0 c0H c0I d2u) (fun g5H c9f g5I g5J g0W g5K g5L g0X => ?_) (fun _ _ _ _ _ q => q.elim)
     obtain ⟨f7Q, b6X, d2v, d2w, rfl, rfl, d2x, h⟩ := g0X
     exact hx2 _ _ (hj2 b6X d2v d2w c9f _ d2x (((g0W.bring 2).drop.bring 1).bring 1) h)
    refine A8 fun j5 hx5 => ?_
    refine a7 a5j ?_
    refine b8 (ld1 Tryd.isAgg22 ((I.bring 1).at1 (o := 2) (vs := [(vs D1.i7)]) (nb rfl) rfl)) ?_
    refine a7 (a2s _ _ _) ?_
    obtain ⟨c9m, b8O, g0Y, g0Z⟩ := h
    refine L9 (J := fun n l w => ∃ (s : Int × (List b7)) (H : Hp) (a6o : Sl) (a6p : Frag) , n = b8O s ∧ l = (match s with | (a2h, a0z) => [(vi a2h)]) ∧ (match s with | (a2h, a0z) => RowL 117 2 o8 a6o a0z a6p) ∧ (match s with | (a2h, a0z) => Inv w0 ps0 H0 H [bx g0 114 [(vs a6o)], bx a4C 63 (d9 D1), a6p] w) ∧ c9m s H) ⟨_, (0, a6m), H, b2u, b2v, rfl, rfl, d7n, (((I.bring 2).bring 2).bring 2), g0Y⟩ ?_
    rintro g5M τ_354 w next6 ⟨⟨a2h, a0z⟩, H, a6o, a6p, rfl, c9n, b7c, I, g1a⟩ hn6
    dsimp only at c9n I b7c
    simp only [List.map_cons, List.map_nil, List.cons.injEq, and_true] at c9n
    have e60 := c9n
    simp only [e60]
    obtain ⟨n6, hm6, h⟩ : ∃ n6 : (Int × (List b7)) → Hp → Prop, (∀ s' H', n6 s' H' → c9m s' H' ∧ b8O s' < b8O (a2h, a0z)) ∧ P6 x1 (x1.n : Int) Q0 D1.i7 (D1.i7.n : Int) D1 a2h a0z H n1 n6 K := ⟨_, fun _ _ h => h, g0Z (a2h, a0z) H (fun s' H' => c9m s' H' ∧ b8O s' < b8O (a2h, a0z)) g1a (fun _ _ a b => ⟨a, b⟩)⟩
    unfold d2g
    unfold P6 at h
    refine a7 (B8 _ _ _ _ _ _) ?_
    refine i4 (fun c9o => ?_) (fun c9o => ?_)
    ·replace h := h.1 c9o
     obtain ⟨g1b, g1c, a9K, c9p, h⟩ := h
     obtain ⟨g5N, g5O, g1d, c9p⟩ := c9p
     refine a7 (a1f g1d _ _ _ _ g1b g1c) ?_
     refine b8 (ldA (vs := (b6 a9K)) Tryd.isAgg24 Tryd.sizeOf24 rfl (I.atH c9p)) ?_
     refine z7 I Tryd.zeroValue24 (cs := [(vi 0), (vi 0), (eS), (nS)]) rfl fun g1e g5P g1f g5Q => ?_
     refine m9 g1f Tryd.sizeOf24 (vs := (b6 a9K)) (cs' := (b6 a9K)) rfl rfl (nb rfl) rfl rfl fun g5R d8F g5S => ?_
     refine b8 (ldA Tryd.isAgg24 Tryd.sizeOf24 rfl (d8F.at1 (o := 0) (vs := (b6 a9K)) (nb rfl) rfl)) ?_
     refine d5 (cap := []) (fun args w => Tryd.call94 args w) ?_
     refine m5 (Fi := [bx g0 114 [(vs a6o)], a6p]) (Fr := [bx g1e 24 (b6 a9K), bx a4C 63 (d9 D1)]) ((d8F.bring 3).bring 2) (h g0 a6o a6p b7c) (fun g5T c9g g5U g5V g1g g5W g5X g1h => ?_) (fun _ _ _ _ _ q => q.elim)
     obtain ⟨f7R, b6Y, d2y, d2z, rfl, rfl, d2A, h⟩ := g1h
     refine a7 (E4 _ _ _ _ _ _) ?_
     exact hn6 _ _ _ (hm6 _ _ h).2 ⟨((IntKind.wrap .i64 (a2h + 1)), b6Y), c9g, d2y, d2z, rfl, rfl, d2A, ((((g1g.bring 2).drop.bring 1).bring 2).bring 2), (hm6 _ _ h).1⟩
    ·replace h := h.2 c9o
     exact hx5 _ _ (hj5 a0z a6o a6p H _ b7c (((I.bring 2).bring 2).bring 2) h)
   refine A8 fun j4 hx4 => ?_
   refine a7 a7i ?_
   refine b8 (ld1 Tryd.isAgg25 ((I.bring 1).at1 (o := 3) (vs := [(vs D1.r5)]) (nb rfl) rfl)) ?_
   refine a7 (a6A _ _ _) ?_
   obtain ⟨c9q, b8P, g1i, g1j⟩ := h
   refine L9 (J := fun n l w => ∃ (s : Int × (List b7)) (H : Hp) (a6q : Sl) (a6r : Frag) , n = b8P s ∧ l = (match s with | (a2i, a0A) => [(vi a2i)]) ∧ (match s with | (a2i, a0A) => RowL 117 2 o8 a6q a0A a6r) ∧ (match s with | (a2i, a0A) => Inv w0 ps0 H0 H [bx g0 114 [(vs a6q)], bx a4C 63 (d9 D1), a6r] w) ∧ c9q s H) ⟨_, (0, a6n), H, b2s, b2t, rfl, rfl, d7m, (((I.bring 2).bring 2).bring 2), g1i⟩ ?_
   rintro g5Y τ_396 w next7 ⟨⟨a2i, a0A⟩, H, a6q, a6r, rfl, c9r, b7d, I, g1k⟩ hn7
   dsimp only at c9r I b7d
   simp only [List.map_cons, List.map_nil, List.cons.injEq, and_true] at c9r
   have e49 := c9r
   simp only [e49]
   obtain ⟨n7, hm7, h⟩ : ∃ n7 : (Int × (List b7)) → Hp → Prop, (∀ s' H', n7 s' H' → c9q s' H' ∧ b8P s' < b8P (a2i, a0A)) ∧ P8 x1 (x1.n : Int) Q0 D1.r5 (D1.r5.n : Int) D1 a2i a0A H n1 n7 K := ⟨_, fun _ _ h => h, g1j (a2i, a0A) H (fun s' H' => c9q s' H' ∧ b8P s' < b8P (a2i, a0A)) g1k (fun _ _ a b => ⟨a, b⟩)⟩
   unfold d2i
   unfold P8 at h
   refine a7 (B8 _ _ _ _ _ _) ?_
   refine i4 (fun c9s => ?_) (fun c9s => ?_)
   ·replace h := h.1 c9s
    obtain ⟨g1l, g1m, a9L, c9t, h⟩ := h
    obtain ⟨g5Z, g6a, g1n, c9t⟩ := c9t
    refine a7 (a2w g1n _ _ _ _ g1l g1m) ?_
    refine b8 (ldA (vs := (i5 a9L)) Tryd.isAgg27 Tryd.sizeOf27 rfl (I.atH c9t)) ?_
    refine z7 I Tryd.zeroValue27 (cs := [(vi 0), (vi 0), (nS), (nS)]) rfl fun g1o g6b g1p g6c => ?_
    refine m9 g1p Tryd.sizeOf27 (vs := (i5 a9L)) (cs' := (i5 a9L)) rfl rfl (nb rfl) rfl rfl fun g6d d8G g6e => ?_
    refine b8 (ldA Tryd.isAgg27 Tryd.sizeOf27 rfl (d8G.at1 (o := 0) (vs := (i5 a9L)) (nb rfl) rfl)) ?_
    refine d5 (cap := []) (fun args w => Tryd.call93 args w) ?_
    refine m5 (Fi := [bx g0 114 [(vs a6q)], a6r]) (Fr := [bx g1o 27 (i5 a9L), bx a4C 63 (d9 D1)]) ((d8G.bring 3).bring 2) (h g0 a6q a6r b7d) (fun g6f c9h g6g g6h g1q g6i g6j g1r => ?_) (fun _ _ _ _ _ q => q.elim)
    obtain ⟨f7S, b7a, d2B, d2C, rfl, rfl, d2D, h⟩ := g1r
    refine a7 (E4 _ _ _ _ _ _) ?_
    exact hn7 _ _ _ (hm7 _ _ h).2 ⟨((IntKind.wrap .i64 (a2i + 1)), b7a), c9h, d2B, d2C, rfl, rfl, d2D, ((((g1q.bring 2).drop.bring 1).bring 2).bring 2), (hm7 _ _ h).1⟩
   ·replace h := h.2 c9s
    exact hx4 _ _ (hj4 a0A a6q a6r H _ b7d (((I.bring 2).bring 2).bring 2) h)
  refine A8 fun j3 hx3 => ?_
  refine a7 a5i ?_
  refine b8 (ld1 Tryd.isAgg3 (c1l.at1 (o := 0) (vs := [(vi D1.b9)]) (nb rfl) rfl)) ?_
  refine a7 (i8 _ _ _ _ _ _) ?_
  refine i4 (fun c9u => ?_) (fun c9u => ?_)
  ·replace h := h.1 c9u
   refine a0p c1l fun g6k c1m => ?_
   refine j8 (p6 _) ?_
   refine j8 a0f ?_
   refine j8 a1D ?_
   refine u0 (ld1 Tryd.isAgg112 ((c1m.bring 1).at1 (o := 0) (vs := [(vs a2Y)]) (nb rfl) rfl)) ?_
   refine u0 (ld1 Tryd.isAgg9 (c1m.at1 (o := 1) (vs := [(Value.string D1.d6)]) (nb rfl) rfl)) ?_
   refine j8 (a3J _ _) ?_
   refine U3 (e := 117) (c := o8) (xs := [(b7.mk D1.d6 1)]) c1m (b1m _ _) rfl rfl a2Z a3b (nb rfl) fun g6l g6m g6n g1s d8H g1t => ?_
   refine ⟨(g1t _ (c1m.bring 1).lt1), ?_⟩
   obtain ⟨g1u, h⟩ := h
   refine b4C (s := a2Y) (xs := L0) (d8H.bring 3) a9g (g1s.srcO ((d8H.bring 3).bring 1)) g1u fun c9v g1v g6o g1w g1x g6p => ?_
   refine j8 (p6 _) ?_
   refine j8 a0f ?_
   refine m9 ((g1x.bring 1).drop.bring 2) Tryd.sizeOf112 (vs := [(vs c9v)]) (cs' := [(vs c9v)]) rfl rfl (nb rfl) rfl rfl fun g6q g1y g6r => ?_
   exact hx3 _ _ (hj3 (L0 ++ [(b7.mk D1.d6 1)]) c9v g1v H _ g1w (((g1y.bring 1).bring 2).bring 2) h)
  ·replace h := h.2 c9u
   refine a7 (i8 _ _ _ _ _ _) ?_
   refine i4 (fun c9w => ?_) (fun c9w => ?_)
   ·replace h := h.1 c9w
    refine a0p c1l fun g6s c1n => ?_
    refine j8 (p6 _) ?_
    refine j8 a0f ?_
    refine j8 a1D ?_
    refine u0 (ld1 Tryd.isAgg112 ((c1n.bring 1).at1 (o := 0) (vs := [(vs a2Y)]) (nb rfl) rfl)) ?_
    refine u0 (ld1 Tryd.isAgg9 (c1n.at1 (o := 1) (vs := [(Value.string D1.d6)]) (nb rfl) rfl)) ?_
    refine j8 (a3J _ _) ?_
    refine U3 (e := 117) (c := o8) (xs := [(b7.mk D1.d6 2)]) c1n (b1m _ _) rfl rfl a2Z a3b (nb rfl) fun g6t g6u g6v g1z d8I g1A => ?_
    refine ⟨(g1A _ (c1n.bring 1).lt1), ?_⟩
    obtain ⟨g1B, h⟩ := h
    refine b4C (s := a2Y) (xs := L0) (d8I.bring 3) a9g (g1z.srcO ((d8I.bring 3).bring 1)) g1B fun c9x g1C g6w g1D g1E g6x => ?_
    refine j8 (p6 _) ?_
    refine j8 a0f ?_
    refine m9 ((g1E.bring 1).drop.bring 2) Tryd.sizeOf112 (vs := [(vs c9x)]) (cs' := [(vs c9x)]) rfl rfl (nb rfl) rfl rfl fun g6y g1F g6z => ?_
    exact hx3 _ _ (hj3 (L0 ++ [(b7.mk D1.d6 2)]) c9x g1C H _ g1D (((g1F.bring 1).bring 2).bring 2) h)
   ·replace h := h.2 c9w
    exact hx3 _ _ (hj3 L0 a2Y a9f H _ a9g (((c1l.bring 2).bring 1).bring 2) h)
 ·replace h := h.2 c9k
  exact hR (f8.mk (Sl.mk none 0 0)) L0 a2Y a9f H _ a9g ((I.bring 1).bring 1) h
theorem a7d (x0 : f8) (K7 : (List b7)) (x1 : Sl) {H : Hp} {K : f8 → (List b7) → Hp → Prop} (h : T2 x0 K7 x1 H K) : N6 x0 K7 x1 H K := by
 intro g0 N8 S1 a3Y w I
 refine f7j ?_
 refine a6N x0 K7 x1 g0 N8 S1 a3Y I (fun y0 a1i V0 V1 H' w' b4n I' hk => ⟨H', _, I', y0, a1i, V0, V1, rfl, rfl, b4n, hk⟩) h
def S7 (b2j : Int) (c0n : ByteArray) (g1G : (List b7)) (E2 : B0) (H : Hp) (K : ByteArray → Int → Hp → Prop) : Prop :=
 K c0n b2j H
def a0l (g4I : (Option Nat)) (b8Q : (List b7)) (b8J : Int) (b4l : B0) (a4S : Int) (Y9 : ByteArray) (N2 : Int) (H : Hp) (n2 : (Int × ByteArray × Int) → Hp → Prop) (K : ByteArray → Int → Hp → Prop) : Prop :=
 (N2 < b8J →
 (0 : Int) ≤ N2 ∧ ∃ a2r : b7, (b8Q)[(N2 : Int).toNat]? = some a2r ∧
 ∃ b1a : List (ByteArray × Int), MapH H (fun s : ByteArray => Value.string s) (fun n : Int => Value.int .i64 n) g4I b1a ∧
 (((lk a2r.fname b1a).getD 0) = a2r.fas →
 n2 (a4S, Y9, (IntKind.wrap .i64 (N2 + 1))) H) ∧
 (¬ (((lk a2r.fname b1a).getD 0) = a2r.fas) →
 (((lk a2r.fname b1a).getD 0) = 0 →
 S7 63 a2r.fname b8Q b4l H K) ∧
 (¬ (((lk a2r.fname b1a).getD 0) = 0) →
 S7 64 a2r.fname b8Q b4l H K))) ∧
 (¬ (N2 < b8J) →
 S7 a4S Y9 b8Q b4l H K)
def a1t (x0 : B0) (H : Hp) (K : ByteArray → Int → Hp → Prop) : Prop :=
 a3o x0 H (fun (a0i : Int) (H_6 : Hp) =>
 (¬ (a0i = 0) →
 K ⟨#[]⟩ a0i H_6) ∧
 (a0i = 0 →
 a4q x0.a4m H_6 (fun (c9y : (Option Nat)) (c1o : ByteArray) (a9M : Int) (c9z : Hp) =>
 (¬ (a9M = 0) →
 K c1o a9M c9z) ∧
 (a9M = 0 →
 N6 (f8.mk (Sl.mk none 0 0)) [] x0.a6s c9z (fun (g1H : f8) (a7M : (List b7)) (b2p : Hp) =>
 TL ((a9M, ⟨#[]⟩, 0) : Int × ByteArray × Int) b2p fun (s : Int × ByteArray × Int) H n2 => a0l c9y a7M (a7M.length : Int) x0 s.1 s.2.1 s.2.2 H n2 K)))))
theorem b2w (x0 : B0) {K : ByteArray → Int → Hp → Prop} (I : Inv w0 ps0 H0 H [] w) (hR : ∀ (r0 : ByteArray) (r1 : Int) (H' : Hp) (w' : World) (_ : Inv w0 ps0 H0 H' [] w') (_ : K r0 r1 H'), R (Value.tuple #[(Value.string r0), (vi r1)]) w') (h : a1t x0 H K) : F34 (Value.agg (u4 x0).toArray) w R E := by
 unfold a1t at h
 unfold F34
 refine L8 I (cs := (u4 x0)) rfl fun g_2 w_3 I_4 k_5 => ?_
 refine b8 (ldA Tryd.isAgg44 Tryd.sizeOf44 rfl (I_4.at1 (o := 0) (vs := (u4 x0)) (nb rfl) rfl)) ?_
 refine d5 (cap := []) (fun args w => Tryd.call53 args w) ?_
 refine m5 (Fi := []) (Fr := [bx g_2 44 (u4 x0)]) I_4 (h) (fun c7H H_6 c7I w_7 I_8 c7J k_9 b1R => ?_) (fun _ _ _ _ _ q => q.elim)
 obtain ⟨a0i, rfl, rfl, h⟩ := b1R
 refine a7 (a0m _ _ _ _ _ _) ?_
 refine a5L (fun a8m => ?_) (fun a8m => ?_)
 ·replace h := h.1 a8m
  exact hR ⟨#[]⟩ a0i H_6 _ I_8.drop h
 ·replace h := h.2 a8m
  refine a7 a7h ?_
  refine b8 (ld1 Tryd.isAgg41 (I_8.at1 (o := 0) (vs := [(vs x0.a4m)]) (nb rfl) rfl)) ?_
  refine d5 (cap := []) (fun args w => Tryd.call54 args w) ?_
  refine m5 (Fi := []) (Fr := [bx g_2 44 (u4 x0)]) I_8 (h) (fun g8c c9z g8d p5 b9A g8e g2j g4J => ?_) (fun _ _ _ _ _ q => q.elim)
  obtain ⟨c9y, c1o, a9M, rfl, rfl, h⟩ := g4J
  refine a7 (m6 _ _ _ rfl) ?_
  refine a7 (m6 _ _ (Value.string c1o) rfl) ?_
  refine a7 (m6 _ _ (vi a9M) rfl) ?_
  refine a7 (a0m _ _ _ _ _ _) ?_
  refine a5L (fun b6r => ?_) (fun b6r => ?_)
  ·replace h := h.1 b6r
   exact hR c1o a9M c9z _ b9A.drop h
  ·replace h := h.2 b6r
   refine a7 (c6O ) ?_
   refine L8 b9A (cs := [(nS)]) rfl fun c9A A7 b2a g2D => ?_
   refine a7 b1l ?_
   refine b8 (ld1 Tryd.isAgg42 ((b2a.bring 1).at1 (o := 1) (vs := [(vs x0.a6s)]) (nb rfl) rfl)) ?_
   refine d5 (cap := []) (fun args w => Tryd.call55 args w) ?_
   refine m5 (Fi := [bx c9A 114 [(Value.slice (Sl.mk none 0 0).a (Sl.mk none 0 0).n (Sl.mk none 0 0).c)], []]) (Fr := [bx g_2 44 (u4 x0)]) (b2a.nil.bring 1) (h c9A (Sl.mk none 0 0) ([]) (RowL.nil (e := 117) a2Z a3b)) (fun g8f b2p g8g c4z f7T e9d g8h g4K => ?_) (fun _ _ _ _ _ q => q.elim)
   obtain ⟨g1H, a7M, b7e, c5k, rfl, rfl, b2x, h⟩ := g4K
   have hj1 : ∀ (b2j : Int) (c0n : ByteArray) (H : Hp) (w : World) (_ : Inv w0 ps0 H0 H [bx c9A 114 [(vs b7e)], bx g_2 44 (u4 x0), c5k] w) (_ : S7 b2j c0n a7M x0 H K), c4V (vi b2j) (Value.string c0n) w R E := by
    intro b2j c0n H w I h
    unfold c4V
    intro _
    unfold S7 at h
    exact hR c0n b2j H _ I.drop.drop.drop h
   refine A8 fun j1 hx1 => ?_
   refine a7 (p6 _) ?_
   refine a7 a0f ?_
   refine b8 (ld1 Tryd.isAgg112 (f7T.at1 (o := 0) (vs := [(vs b7e)]) (nb rfl) rfl)) ?_
   refine a7 (b7l Tryd.underlying112 b2x) ?_
   obtain ⟨d7p, c5l, g4L, g4M⟩ := h
   refine L9 (J := fun n l w => ∃ (s : Int × ByteArray × Int) (H : Hp) , n = c5l s ∧ l = (match s with | (a4S, Y9, N2) => [(vi a4S), (Value.string Y9), (vi N2)]) ∧ (match s with | (a4S, Y9, N2) => Inv w0 ps0 H0 H [bx c9A 114 [(vs b7e)], bx g_2 44 (u4 x0), c5k] w) ∧ d7p s H) ⟨_, (a9M, ⟨#[]⟩, 0), b2p, rfl, rfl, (((f7T.bring 1).bring 2).bring 2), g4L⟩ ?_
   rintro g8i τ_64 w next2 ⟨⟨a4S, Y9, N2⟩, H, rfl, d7q, I, g4N⟩ hn2
   dsimp only at d7q I
   simp only [List.map_cons, List.map_nil, List.cons.injEq, and_true] at d7q
   obtain ⟨e7, e9, e39⟩ := d7q
   simp only [e7, e9, e39]
   obtain ⟨n2, hm2, h⟩ : ∃ n2 : (Int × ByteArray × Int) → Hp → Prop, (∀ s' H', n2 s' H' → d7p s' H' ∧ c5l s' < c5l (a4S, Y9, N2)) ∧ a0l c9y a7M (a7M.length : Int) x0 a4S Y9 N2 H n2 K := ⟨_, fun _ _ h => h, g4M (a4S, Y9, N2) H (fun s' H' => d7p s' H' ∧ c5l s' < c5l (a4S, Y9, N2)) g4N (fun _ _ a b => ⟨a, b⟩)⟩
   unfold d2a
   unfold a0l at h
   refine a7 (B8 _ _ _ _ _ _) ?_
   refine i4 (fun d7r => ?_) (fun d7r => ?_)
   ·replace h := h.1 d7r
    obtain ⟨f7U, a2r, a8o, h⟩ := h
    obtain ⟨g8j, g8k, b0d, f6d⟩ := b2x.addr a8o
    refine a7 (c9W b0d _ _ _ _ f7U (b2x.lt f7U a8o)) ?_
    refine b8 (ldA (vs := (o8 a2r)) Tryd.isAgg117 Tryd.sizeOf117 rfl (b2x.atW (I.bring 2) b0d a8o)) ?_
    refine z7 I Tryd.zeroValue117 (cs := [(eS), (vi 0)]) rfl fun g8l K4 b6k d3w => ?_
    refine m9 b6k Tryd.sizeOf117 (vs := (o8 a2r)) (cs' := (o8 a2r)) rfl rfl (nb rfl) rfl rfl fun c0f b0i g8m => ?_
    refine a7 a9Q ?_
    refine b8 (ld1 Tryd.isAgg9 (b0i.at1 (o := 0) (vs := [(Value.string a2r.fname)]) (nb rfl) rfl)) ?_
    obtain ⟨b1a, g1I, h⟩ := h
    refine c1G (keyS Tryd.underlying9) Tryd.underlying108 (z := 0) Tryd.zeroValue3 b0i g1I a2r.fname ?_
    refine a7 c5x ?_
    refine b8 (ld1 Tryd.isAgg3 (b0i.at1 (o := 1) (vs := [(vi a2r.fas)]) (nb rfl) rfl)) ?_
    refine a7 (i8 _ _ _ _ _ _) ?_
    refine i4 (fun d7s => ?_) (fun d7s => ?_)
    ·replace h := h.1 d7s
     refine a7 (E4 _ _ _ _ _ _) ?_
     exact hn2 _ _ _ (hm2 _ _ h).2 ⟨(a4S, Y9, (IntKind.wrap .i64 (N2 + 1))), H, rfl, rfl, (((b0i.drop.bring 2).bring 2).bring 2), (hm2 _ _ h).1⟩
    ·replace h := h.2 d7s
     refine a7 (i8 _ _ _ _ _ _) ?_
     refine i4 (fun d7t => ?_) (fun d7t => ?_)
     ·replace h := h.1 d7t
      refine a7 a9Q ?_
      refine b8 (ld1 Tryd.isAgg9 (b0i.at1 (o := 0) (vs := [(Value.string a2r.fname)]) (nb rfl) rfl)) ?_
      exact hx1 _ _ (hj1 63 a2r.fname H _ (((b0i.drop.bring 2).bring 2).bring 2) h)
     ·replace h := h.2 d7t
      refine a7 a9Q ?_
      refine b8 (ld1 Tryd.isAgg9 (b0i.at1 (o := 0) (vs := [(Value.string a2r.fname)]) (nb rfl) rfl)) ?_
      exact hx1 _ _ (hj1 64 a2r.fname H _ (((b0i.drop.bring 2).bring 2).bring 2) h)
   ·replace h := h.2 d7r
    exact hx1 _ _ (hj1 a4S Y9 H _ (((I.bring 2).bring 2).bring 2) h)
theorem b2J (x0 : B0) {H : Hp} {K : ByteArray → Int → Hp → Prop} (h : a1t x0 H K) : a5J x0 H K := by
 intro w I
 refine f6t ?_
 refine b2w x0 I (fun r0 r1 H' w' I' hk => ⟨H', _, I', r0, r1, rfl, rfl, hk⟩) h
def a1L (x0 : j7) (H : Hp) (K : Int → Hp → Prop) : Prop :=
 (0 < x0.D3 →
 K 2 H) ∧
 (¬ (0 < x0.D3) →
 K 1 H)
theorem b2K (x0 : j7) {K : Int → Hp → Prop} (I : Inv w0 ps0 H0 H [] w) (hR : ∀ (r0 : Int) (H' : Hp) (w' : World) (_ : Inv w0 ps0 H0 H' [] w') (_ : K r0 H'), R (vi r0) w') (h : a1L x0 H K) : F92 (Value.agg (m4 x0).toArray) w R E := by
 unfold a1L at h
 unfold F92
 refine L8 I (cs := (m4 x0)) rfl fun g_2 w_3 I_4 k_5 => ?_
 refine a7 a2x ?_
 refine b8 (ld1 Tryd.isAgg3 (I_4.at1 (o := 1) (vs := [(vi x0.D3)]) (nb rfl) rfl)) ?_
 refine a7 (a0B _ _ _ _ _ _) ?_
 refine i4 (fun c_6 => ?_) (fun c_6 => ?_)
 ·replace h := h.1 c_6
  exact hR 2 H _ I_4.drop h
 ·replace h := h.2 c_6
  exact hR 1 H _ I_4.drop h
theorem b4p (x0 : j7) {H : Hp} {K : Int → Hp → Prop} (h : a1L x0 H K) : a6F x0 H K := by
 intro w I
 refine f7l ?_
 refine b2K x0 I (fun r0 H' w' I' hk => ⟨H', _, I', r0, rfl, rfl, hk⟩) h
end Go.Proofs.YtnhkdkcgdcgmdaaDoor
