/- Typed formulas of the program's functions that few laws need; printed by lift.py off the code. -/
import Derived.Test.YtnhkdkcgdcgmdaaDoorzDV1
import Derived.Test.YtnhkdkcgdcgmdaaDoorzDG1v
namespace Go.Proofs.YtnhkdkcgdcgmdaaDoor
open Go.RowKit
set_option maxRecDepth 100000
set_option maxHeartbeats 2000000
variable {w0 w : World} {ps0 : Nat → Prop} {H0 H : Hp} {R : RT} {E : Pan}
def Q2 (d7X : Sl) (b8r : Int) (b3Q : d8) (M8 : Int) (E3 : (List b7)) (H : Hp) (n2 : (Int × (List b7)) → Hp → Prop) (K : d9 → (List b7) → Hp → Prop) : Prop :=
 (M8 < b8r →
 (0 : Int) ≤ M8 ∧ (M8 : Int) < d7X.n ∧ ∃ b3R : d8, EltH H d7X M8 4 (b6 b3R) ∧
 O2 (d9.mk (Sl.mk none 0 0)) E3 b3R H (fun (f9I : d9) (b9S : (List b7)) (d6C : Hp) =>
 n2 ((IntKind.wrap .i64 (M8 + 1)), b9S) d6C)) ∧
 (¬ (M8 < b8r) →
 K (d9.mk (Sl.mk none 0 0)) E3 H)
def D1 (Z0 : (List b7)) (D7 : d8) (H : Hp) (K : d9 → (List b7) → Hp → Prop) : Prop :=
 TL ((0, Z0) : Int × (List b7)) H fun (s : Int × (List b7)) H n2 => Q2 D7.v8 (D7.v8.n : Int) D7 s.1 s.2 H n2 K
def T5 (x0 : d9) (K1 : (List b7)) (x1 : d8) (H : Hp) (K : d9 → (List b7) → Hp → Prop) : Prop :=
 (x1.d5 = 2 →
 (K1.length + ([(b7.mk x1.d6 1)] : List b7).length) * 25 ≤ 140737488355328 ∧
 D1 (K1 ++ [(b7.mk x1.d6 1)]) x1 H K) ∧
 (¬ (x1.d5 = 2) →
 (x1.d5 = 4 →
 (K1.length + ([(b7.mk x1.d6 2)] : List b7).length) * 25 ≤ 140737488355328 ∧
 D1 (K1 ++ [(b7.mk x1.d6 2)]) x1 H K) ∧
 (¬ (x1.d5 = 4) →
 D1 K1 x1 H K))
theorem a6L (x0 : d9) (K1 : (List b7)) (x1 : d8) (g0 : Nat) (N3 : Sl) (R1 : Frag) (a3J : RowL 117 2 o2 N3 K1 R1) {K : d9 → (List b7) → Hp → Prop} (I : Inv w0 ps0 H0 H [bx g0 114 [(vs N3)], R1] w) (hR : ∀ (y0 : d9) (a0S : (List b7)) (U3 : Sl) (U4 : Frag) (H' : Hp) (w' : World) (_ : RowL 117 2 o2 U3 a0S U4) (_ : Inv w0 ps0 H0 H' [bx g0 114 [(vs U3)], U4] w') (_ : K y0 a0S H'), R (Value.tuple #[]) w') (h : T5 x0 K1 x1 H K) : F94 (Value.pointer (some ⟨g0, 0, none⟩)) (Value.agg (b6 x1).toArray) w R E := by
 unfold T5 at h
 unfold F94
 refine M1 I (cs := (b6 x1)) rfl fun g_2 w_3 I_4 k_5 => ?_
 have hj1 : ∀ (Z0 : (List b7)) (a2J : Sl) (a2K : Frag) (H : Hp) (w : World) (_ : RowL 117 2 o2 a2J Z0 a2K) (_ : Inv w0 ps0 H0 H [bx g0 114 [(vs a2J)], bx g_2 24 (b6 x1), a2K] w) (_ : D1 Z0 x1 H K), c4R (Value.pointer (some ⟨g0, 0, none⟩)) (Value.pointer (some ⟨g_2, 0, none⟩)) w R E := by
  intro Z0 a2J a2K H w b6r I h
  unfold c4R
  intro _
  unfold D1 at h
  refine a7 a3t ?_
  refine b8 (ld1 Tryd.isAgg22 ((I.bring 1).at1 (o := 3) (vs := [(vs x1.v8)]) (nb rfl) rfl)) ?_
  refine a7 (a2h _ _ _) ?_
  obtain ⟨d6D, c4T, g3S, g3T⟩ := h
  refine K8 (J := fun n l w => ∃ (s : Int × (List b7)) (H : Hp) (Z1 : Sl) (Z2 : Frag) , n = c4T s ∧ l = (match s with | (M8, E3) => [(vi M8)]) ∧ (match s with | (M8, E3) => RowL 117 2 o2 Z1 E3 Z2) ∧ (match s with | (M8, E3) => Inv w0 ps0 H0 H [bx g0 114 [(vs Z1)], bx g_2 24 (b6 x1), Z2] w) ∧ d6D s H) ⟨_, (0, Z0), H, a2J, a2K, rfl, rfl, b6r, (((I.bring 2).bring 2).bring 2), g3S⟩ ?_
  rintro g7x τ_88 w next2 ⟨⟨M8, E3⟩, H, Z1, Z2, rfl, d6E, a4J, I, g3U⟩ hn2
  dsimp only at d6E I a4J
  simp only [List.map_cons, List.map_nil, List.cons.injEq, and_true] at d6E
  have e39 := d6E
  simp only [e39]
  obtain ⟨n2, hm2, h⟩ : ∃ n2 : (Int × (List b7)) → Hp → Prop, (∀ s' H', n2 s' H' → d6D s' H' ∧ c4T s' < c4T (M8, E3)) ∧ Q2 x1.v8 (x1.v8.n : Int) x1 M8 E3 H n2 K := ⟨_, fun _ _ h => h, g3T (M8, E3) H (fun s' H' => d6D s' H' ∧ c4T s' < c4T (M8, E3)) g3U (fun _ _ a b => ⟨a, b⟩)⟩
  unfold d1W
  unfold Q2 at h
  refine a7 (B8 _ _ _ _ _ _) ?_
  refine h9 (fun b5S => ?_) (fun b5S => ?_)
  ·replace h := h.1 b5S
   obtain ⟨g3V, d3Q, b3R, d6F, h⟩ := h
   obtain ⟨g7y, g7z, g3W, d6F⟩ := d6F
   refine a7 (a0P g3W _ _ _ _ g3V d3Q) ?_
   refine b8 (ldA (vs := (b6 b3R)) Tryd.isAgg24 Tryd.sizeOf24 rfl (I.atH d6F)) ?_
   refine A0 I Tryd.zeroValue24 (cs := [(vi 0), (vi 0), (eS), (nS)]) rfl fun g3X b1z b3l c7q => ?_
   refine m5 b3l Tryd.sizeOf24 (vs := (b6 b3R)) (cs' := (b6 b3R)) rfl rfl (nb rfl) rfl rfl fun L2 c2C g1C => ?_
   refine b8 (ldA Tryd.isAgg24 Tryd.sizeOf24 rfl (c2C.at1 (o := 0) (vs := (b6 b3R)) (nb rfl) rfl)) ?_
   refine b9 (cap := []) (fun args w => Tryd.call94 args w) ?_
   refine m2 (Fi := [bx g0 114 [(vs Z1)], Z2]) (Fr := [bx g3X 24 (b6 b3R), bx g_2 24 (b6 x1)]) ((c2C.bring 3).bring 2) (h g0 Z1 Z2 a4J) (fun g7A d6C g7B O5 c8w g7C g3F g3Y => ?_) (fun _ _ _ _ _ q => q.elim)
   obtain ⟨f9I, b9S, d6G, d6H, rfl, rfl, d6I, h⟩ := g3Y
   refine a7 (E9 _ _ _ _ _ _) ?_
   exact hn2 _ _ _ (hm2 _ _ h).2 ⟨((IntKind.wrap .i64 (M8 + 1)), b9S), d6C, d6G, d6H, rfl, rfl, d6I, ((((c8w.bring 2).drop.bring 1).bring 2).bring 2), (hm2 _ _ h).1⟩
  ·replace h := h.2 b5S
   exact hR (d9.mk (Sl.mk none 0 0)) E3 Z1 Z2 H _ a4J (((I.bring 1).drop.bring 1).bring 1) h
 refine z7 fun j1 hx1 => ?_
 refine a7 U0 ?_
 refine b8 (ld1 Tryd.isAgg3 (I_4.at1 (o := 0) (vs := [(vi x1.d5)]) (nb rfl) rfl)) ?_
 refine a7 (i5 _ _ _ _ _ _) ?_
 refine h9 (fun c8I => ?_) (fun c8I => ?_)
 ·replace h := h.1 c8I
  refine a0d I_4 fun w_6 I_7 => ?_
  refine i8 (o3 _) ?_
  refine i8 Z3 ?_
  refine i8 a3u ?_
  refine s7 (ld1 Tryd.isAgg112 ((I_7.bring 1).at1 (o := 0) (vs := [(vs N3)]) (nb rfl) rfl)) ?_
  refine s7 (ld1 Tryd.isAgg9 (I_7.at1 (o := 2) (vs := [(Value.string x1.d6)]) (nb rfl) rfl)) ?_
  refine i8 (a3v _ _) ?_
  refine X3 (e := 117) (c := o2) (xs := [(b7.mk x1.d6 1)]) I_7 (b0N _ _) rfl rfl a2M a2N (nb rfl) fun s_9 g7D a0i b3N f7o g3Z => ?_
  refine ⟨(g3Z _ (I_7.bring 1).lt1), ?_⟩
  obtain ⟨g4a, h⟩ := h
  refine b4i (s := N3) (xs := K1) (f7o.bring 3) a3J (b3N.srcO ((f7o.bring 3).bring 1)) g4a fun d6J g4b a1Y d6z a5u b5J => ?_
  refine i8 (o3 _) ?_
  refine i8 Z3 ?_
  refine m5 ((a5u.bring 1).drop.bring 2) Tryd.sizeOf112 (vs := [(vs d6J)]) (cs' := [(vs d6J)]) rfl rfl (nb rfl) rfl rfl fun q9 g4c g7E => ?_
  exact hx1 _ _ (hj1 (K1 ++ [(b7.mk x1.d6 1)]) d6J g4b H _ d6z (((g4c.bring 1).bring 2).bring 2) h)
 ·replace h := h.2 c8I
  refine a7 (i5 _ _ _ _ _ _) ?_
  refine h9 (fun c8J => ?_) (fun c8J => ?_)
  ·replace h := h.1 c8J
   refine a0d I_4 fun b3G a8F => ?_
   refine i8 (o3 _) ?_
   refine i8 Z3 ?_
   refine i8 a3u ?_
   refine s7 (ld1 Tryd.isAgg112 ((a8F.bring 1).at1 (o := 0) (vs := [(vs N3)]) (nb rfl) rfl)) ?_
   refine s7 (ld1 Tryd.isAgg9 (a8F.at1 (o := 2) (vs := [(Value.string x1.d6)]) (nb rfl) rfl)) ?_
   refine i8 (a3v _ _) ?_
   refine X3 (e := 117) (c := o2) (xs := [(b7.mk x1.d6 2)]) a8F (b0N _ _) rfl rfl a2M a2N (nb rfl) fun e8x g7F a0e g4d f7p g4e => ?_
   refine ⟨(g4e _ (a8F.bring 1).lt1), ?_⟩
   obtain ⟨f9J, h⟩ := h
   refine b4i (s := N3) (xs := K1) (f7p.bring 3) a3J (g4d.srcO ((f7p.bring 3).bring 1)) f9J fun c8K f9K N2 f9L f9M g4O => ?_
   refine i8 (o3 _) ?_
   refine i8 Z3 ?_
   refine m5 ((f9M.bring 1).drop.bring 2) Tryd.sizeOf112 (vs := [(vs c8K)]) (cs' := [(vs c8K)]) rfl rfl (nb rfl) rfl rfl fun g4P f9N g4Q => ?_
   exact hx1 _ _ (hj1 (K1 ++ [(b7.mk x1.d6 2)]) c8K f9K H _ f9L (((f9N.bring 1).bring 2).bring 2) h)
  ·replace h := h.2 c8J
   exact hx1 _ _ (hj1 K1 N3 R1 H _ a3J (((I_4.bring 2).bring 1).bring 2) h)
theorem a7i (x0 : d9) (K1 : (List b7)) (x1 : d8) {H : Hp} {K : d9 → (List b7) → Hp → Prop} (h : T5 x0 K1 x1 H K) : O2 x0 K1 x1 H K := by
 intro g0 N3 R1 a3J w I
 refine f7n ?_
 refine a6L x0 K1 x1 g0 N3 R1 a3J I (fun y0 a0S U3 U4 H' w' b3S I' hk => ⟨H', _, I', y0, a0S, U3, U4, rfl, rfl, b3S, hk⟩) h
def Q3 (d7Y : Sl) (d7Z : Int) (b3Q : t6) (a1U : Int) (E3 : (List b7)) (H : Hp) (n2 : (Int × (List b7)) → Hp → Prop) (K : d9 → (List b7) → Hp → Prop) : Prop :=
 (a1U < d7Z →
 (0 : Int) ≤ a1U ∧ (a1U : Int) < d7Y.n ∧ ∃ b3T : t6, EltH H d7Y a1U 4 (i4 b3T) ∧
 T1 (d9.mk (Sl.mk none 0 0)) E3 b3T H (fun (f9O : d9) (b9T : (List b7)) (a3T : Hp) =>
 n2 ((IntKind.wrap .i64 (a1U + 1)), b9T) a3T)) ∧
 (¬ (a1U < d7Z) →
 K (d9.mk (Sl.mk none 0 0)) E3 H)
def Q4 (D7 : t6) (Z0 : (List b7)) (H : Hp) (K : d9 → (List b7) → Hp → Prop) : Prop :=
 TL ((0, Z0) : Int × (List b7)) H fun (s : Int × (List b7)) H n2 => Q3 D7.r8 (D7.r8.n : Int) D7 s.1 s.2 H n2 K
def Q5 (f7q : Sl) (d8a : Int) (f7r : t6) (a1V : Int) (a0p : (List b7)) (H : Hp) (n3 : (Int × (List b7)) → Hp → Prop) (K : d9 → (List b7) → Hp → Prop) : Prop :=
 (a1V < d8a →
 (0 : Int) ≤ a1V ∧ (a1V : Int) < f7q.n ∧ ∃ a9l : d8, EltH H f7q a1V 4 (b6 a9l) ∧
 O2 (d9.mk (Sl.mk none 0 0)) a0p a9l H (fun (f7s : d9) (b6s : (List b7)) (b1U : Hp) =>
 n3 ((IntKind.wrap .i64 (a1V + 1)), b6s) b1U)) ∧
 (¬ (a1V < d8a) →
 Q4 f7r a0p H K)
def T6 (x0 : d9) (K1 : (List b7)) (x1 : t6) (H : Hp) (K : d9 → (List b7) → Hp → Prop) : Prop :=
 TL ((0, K1) : Int × (List b7)) H fun (s : Int × (List b7)) H n3 => Q5 x1.i6 (x1.i6.n : Int) x1 s.1 s.2 H n3 K
theorem a6M (x0 : d9) (K1 : (List b7)) (x1 : t6) (g0 : Nat) (N3 : Sl) (R1 : Frag) (a3J : RowL 117 2 o2 N3 K1 R1) {K : d9 → (List b7) → Hp → Prop} (I : Inv w0 ps0 H0 H [bx g0 114 [(vs N3)], R1] w) (hR : ∀ (y0 : d9) (a0S : (List b7)) (U3 : Sl) (U4 : Frag) (H' : Hp) (w' : World) (_ : RowL 117 2 o2 U3 a0S U4) (_ : Inv w0 ps0 H0 H' [bx g0 114 [(vs U3)], U4] w') (_ : K y0 a0S H'), R (Value.tuple #[]) w') (h : T6 x0 K1 x1 H K) : F93 (Value.pointer (some ⟨g0, 0, none⟩)) (Value.agg (i4 x1).toArray) w R E := by
 unfold T6 at h
 unfold F93
 refine M1 I (cs := (i4 x1)) rfl fun g_2 w_3 I_4 k_5 => ?_
 have hj1 : ∀ (Z0 : (List b7)) (a2J : Sl) (a2K : Frag) (H : Hp) (w : World) (_ : RowL 117 2 o2 a2J Z0 a2K) (_ : Inv w0 ps0 H0 H [bx g_2 27 (i4 x1), bx g0 114 [(vs a2J)], a2K] w) (_ : Q4 x1 Z0 H K), c4P (Value.pointer (some ⟨g0, 0, none⟩)) (Value.pointer (some ⟨g_2, 0, none⟩)) w R E := by
  intro Z0 a2J a2K H w b6r I h
  unfold c4P
  intro _
  unfold Q4 at h
  refine a7 a1s ?_
  refine b8 (ld1 Tryd.isAgg25 (I.at1 (o := 3) (vs := [(vs x1.r8)]) (nb rfl) rfl)) ?_
  refine a7 (a6l _ _ _) ?_
  obtain ⟨d6K, c4U, g4f, g4g⟩ := h
  refine K8 (J := fun n l w => ∃ (s : Int × (List b7)) (H : Hp) (Z1 : Sl) (Z2 : Frag) , n = c4U s ∧ l = (match s with | (a1U, E3) => [(vi a1U)]) ∧ (match s with | (a1U, E3) => RowL 117 2 o2 Z1 E3 Z2) ∧ (match s with | (a1U, E3) => Inv w0 ps0 H0 H [bx g_2 27 (i4 x1), bx g0 114 [(vs Z1)], Z2] w) ∧ d6K s H) ⟨_, (0, Z0), H, a2J, a2K, rfl, rfl, b6r, (((I.bring 2).bring 2).bring 2), g4f⟩ ?_
  rintro g7G τ_93 w next2 ⟨⟨a1U, E3⟩, H, Z1, Z2, rfl, c8x, a4J, I, g4h⟩ hn2
  dsimp only at c8x I a4J
  simp only [List.map_cons, List.map_nil, List.cons.injEq, and_true] at c8x
  have e22 := c8x
  simp only [e22]
  obtain ⟨n2, hm2, h⟩ : ∃ n2 : (Int × (List b7)) → Hp → Prop, (∀ s' H', n2 s' H' → d6K s' H' ∧ c4U s' < c4U (a1U, E3)) ∧ Q3 x1.r8 (x1.r8.n : Int) x1 a1U E3 H n2 K := ⟨_, fun _ _ h => h, g4g (a1U, E3) H (fun s' H' => d6K s' H' ∧ c4U s' < c4U (a1U, E3)) g4h (fun _ _ a b => ⟨a, b⟩)⟩
  unfold d1U
  unfold Q3 at h
  refine a7 (B8 _ _ _ _ _ _) ?_
  refine h9 (fun a7T => ?_) (fun a7T => ?_)
  ·replace h := h.1 a7T
   obtain ⟨d6y, g4i, b3T, d6L, h⟩ := h
   obtain ⟨g7H, g7I, g4j, d6L⟩ := d6L
   refine a7 (a2l g4j _ _ _ _ d6y g4i) ?_
   refine b8 (ldA (vs := (i4 b3T)) Tryd.isAgg27 Tryd.sizeOf27 rfl (I.atH d6L)) ?_
   refine A0 I Tryd.zeroValue27 (cs := [(vi 0), (vi 0), (nS), (nS)]) rfl fun g4k O4 d6w g7J => ?_
   refine m5 d6w Tryd.sizeOf27 (vs := (i4 b3T)) (cs' := (i4 b3T)) rfl rfl (nb rfl) rfl rfl fun d6i f7t g7K => ?_
   refine b8 (ldA Tryd.isAgg27 Tryd.sizeOf27 rfl (f7t.at1 (o := 0) (vs := (i4 b3T)) (nb rfl) rfl)) ?_
   refine b9 (cap := []) (fun args w => Tryd.call93 args w) ?_
   refine m2 (Fi := [bx g0 114 [(vs Z1)], Z2]) (Fr := [bx g4k 27 (i4 b3T), bx g_2 27 (i4 x1)]) ((f7t.bring 3).bring 3) (h g0 Z1 Z2 a4J) (fun c7c a3T g1E b1d b9g d2Q d2R d2S => ?_) (fun _ _ _ _ _ q => q.elim)
   obtain ⟨f9O, b9T, d6M, d6N, rfl, rfl, d6O, h⟩ := d2S
   refine a7 (E9 _ _ _ _ _ _) ?_
   exact hn2 _ _ _ (hm2 _ _ h).2 ⟨((IntKind.wrap .i64 (a1U + 1)), b9T), a3T, d6M, d6N, rfl, rfl, d6O, ((((b9g.bring 2).drop.bring 1).bring 1).bring 2), (hm2 _ _ h).1⟩
  ·replace h := h.2 a7T
   exact hR (d9.mk (Sl.mk none 0 0)) E3 Z1 Z2 H _ a4J ((I.drop.bring 1).bring 1) h
 refine z7 fun j1 hx1 => ?_
 refine a7 a4V ?_
 refine b8 (ld1 Tryd.isAgg22 (I_4.at1 (o := 2) (vs := [(vs x1.i6)]) (nb rfl) rfl)) ?_
 refine a7 (a2h _ _ _) ?_
 obtain ⟨c8L, b8s, f9P, f9Q⟩ := h
 refine K8 (J := fun n l w => ∃ (s : Int × (List b7)) (H : Hp) (a5W : Sl) (a5X : Frag) , n = b8s s ∧ l = (match s with | (a1V, a0p) => [(vi a1V)]) ∧ (match s with | (a1V, a0p) => RowL 117 2 o2 a5W a0p a5X) ∧ (match s with | (a1V, a0p) => Inv w0 ps0 H0 H [bx g_2 27 (i4 x1), bx g0 114 [(vs a5W)], a5X] w) ∧ c8L s H) ⟨_, (0, K1), H, N3, R1, rfl, rfl, a3J, (((I_4.bring 2).bring 2).bring 2), f9P⟩ ?_
 rintro g4R τ_135 w next3 ⟨⟨a1V, a0p⟩, H, a5W, a5X, rfl, c0R, b6t, I, f9R⟩ hn3
 dsimp only at c0R I b6t
 simp only [List.map_cons, List.map_nil, List.cons.injEq, and_true] at c0R
 have e11 := c0R
 simp only [e11]
 obtain ⟨n3, hm3, h⟩ : ∃ n3 : (Int × (List b7)) → Hp → Prop, (∀ s' H', n3 s' H' → c8L s' H' ∧ b8s s' < b8s (a1V, a0p)) ∧ Q5 x1.i6 (x1.i6.n : Int) x1 a1V a0p H n3 K := ⟨_, fun _ _ h => h, f9Q (a1V, a0p) H (fun s' H' => c8L s' H' ∧ b8s s' < b8s (a1V, a0p)) f9R (fun _ _ a b => ⟨a, b⟩)⟩
 unfold d1V
 unfold Q5 at h
 refine a7 (B8 _ _ _ _ _ _) ?_
 refine h9 (fun c8M => ?_) (fun c8M => ?_)
 ·replace h := h.1 c8M
  obtain ⟨f9S, f9T, a9l, c8N, h⟩ := h
  obtain ⟨g4S, g4T, a9i, c8N⟩ := c8N
  refine a7 (a0P a9i _ _ _ _ f9S f9T) ?_
  refine b8 (ldA (vs := (b6 a9l)) Tryd.isAgg24 Tryd.sizeOf24 rfl (I.atH c8N)) ?_
  refine A0 I Tryd.zeroValue24 (cs := [(vi 0), (vi 0), (eS), (nS)]) rfl fun f9U Q8 f9V g4U => ?_
  refine m5 f9V Tryd.sizeOf24 (vs := (b6 a9l)) (cs' := (b6 a9l)) rfl rfl (nb rfl) rfl rfl fun g4V d8b g4W => ?_
  refine b8 (ldA Tryd.isAgg24 Tryd.sizeOf24 rfl (d8b.at1 (o := 0) (vs := (b6 a9l)) (nb rfl) rfl)) ?_
  refine b9 (cap := []) (fun args w => Tryd.call94 args w) ?_
  refine m2 (Fi := [bx g0 114 [(vs a5W)], a5X]) (Fr := [bx f9U 24 (b6 a9l), bx g_2 27 (i4 x1)]) ((d8b.bring 3).bring 3) (h g0 a5W a5X b6t) (fun f9p b1U f9q f9r c8C f9s f9t c8D => ?_) (fun _ _ _ _ _ q => q.elim)
  obtain ⟨f7s, b6s, d1Y, d1Z, rfl, rfl, d2a, h⟩ := c8D
  refine a7 (E9 _ _ _ _ _ _) ?_
  exact hn3 _ _ _ (hm3 _ _ h).2 ⟨((IntKind.wrap .i64 (a1V + 1)), b6s), b1U, d1Y, d1Z, rfl, rfl, d2a, ((((c8C.bring 2).drop.bring 1).bring 1).bring 2), (hm3 _ _ h).1⟩
 ·replace h := h.2 c8M
  exact hx1 _ _ (hj1 a0p a5W a5X H _ b6t (((I.bring 2).bring 2).bring 2) h)
theorem a7j (x0 : d9) (K1 : (List b7)) (x1 : t6) {H : Hp} {K : d9 → (List b7) → Hp → Prop} (h : T6 x0 K1 x1 H K) : T1 x0 K1 x1 H K := by
 intro g0 N3 R1 a3J w I
 refine f6V ?_
 refine a6M x0 K1 x1 g0 N3 R1 a3J I (fun y0 a0S U3 U4 H' w' b3S I' hk => ⟨H', _, I', y0, a0S, U3, U4, rfl, rfl, b3S, hk⟩) h
def O9 (g4X : Sl) (b1C : Int) (f9W : Int) (a5Y : (List b7)) (H : Hp) (n1 : (Int × (List b7)) → Hp → Prop) (K : d9 → (List b7) → Hp → Prop) : Prop :=
 n1 ((IntKind.wrap .i64 (f9W + 1)), a5Y) H
def P0 (d7q : Sl) (c7x : Int) (f9X : Int) (a8I : (List b7)) (c4V : m6) (H : Hp) (n1 : (Int × (List b7)) → Hp → Prop) (K : d9 → (List b7) → Hp → Prop) : Prop :=
 N1 (d9.mk (Sl.mk none 0 0)) a8I c4V.G1 H (fun (f7u : d9) (c4W : (List b7)) (d8c : Hp) =>
 N1 (d9.mk (Sl.mk none 0 0)) c4W c4V.E6 d8c (fun (f7v : d9) (b6u : (List b7)) (c8O : Hp) =>
 O9 d7q c7x f9X b6u c8O n1 K))
def P1 (f9Y : Sl) (f9Z : Int) (g0a : Int) (d8d : Sl) (d8e : Int) (d6P : m6) (a1W : Int) (a0q : (List b7)) (H : Hp) (n1 : (Int × (List b7)) → Hp → Prop) (n6 : (Int × (List b7)) → Hp → Prop) (K : d9 → (List b7) → Hp → Prop) : Prop :=
 (a1W < d8e →
 (0 : Int) ≤ a1W ∧ (a1W : Int) < d8d.n ∧ ∃ a9m : d8, EltH H d8d a1W 4 (b6 a9m) ∧
 O2 (d9.mk (Sl.mk none 0 0)) a0q a9m H (fun (f7w : d9) (b6v : (List b7)) (c8P : Hp) =>
 n6 ((IntKind.wrap .i64 (a1W + 1)), b6v) c8P)) ∧
 (¬ (a1W < d8e) →
 P0 f9Y f9Z g0a a0q d6P H n1 K)
def P2 (g0b : Sl) (g0c : Int) (g0d : Int) (a5Z : (List b7)) (b6w : m6) (H : Hp) (n1 : (Int × (List b7)) → Hp → Prop) (K : d9 → (List b7) → Hp → Prop) : Prop :=
 TL ((0, a5Z) : Int × (List b7)) H fun (s : Int × (List b7)) H n6 => P1 g0b g0c g0d b6w.i6 (b6w.i6.n : Int) b6w s.1 s.2 H n1 n6 K
def P3 (g0e : Sl) (g0f : Int) (g0g : Int) (d8f : Sl) (d8g : Int) (d6Q : m6) (a1X : Int) (a0r : (List b7)) (H : Hp) (n1 : (Int × (List b7)) → Hp → Prop) (n7 : (Int × (List b7)) → Hp → Prop) (K : d9 → (List b7) → Hp → Prop) : Prop :=
 (a1X < d8g →
 (0 : Int) ≤ a1X ∧ (a1X : Int) < d8f.n ∧ ∃ a9n : t6, EltH H d8f a1X 4 (i4 a9n) ∧
 T1 (d9.mk (Sl.mk none 0 0)) a0r a9n H (fun (f7x : d9) (b6x : (List b7)) (c8Q : Hp) =>
 n7 ((IntKind.wrap .i64 (a1X + 1)), b6x) c8Q)) ∧
 (¬ (a1X < d8g) →
 P2 g0e g0f g0g a0r d6Q H n1 K)
def C2 (g0h : Sl) (g0i : Int) (g0j : Int) (a6a : (List b7)) (b6y : m6) (H : Hp) (n1 : (Int × (List b7)) → Hp → Prop) (K : d9 → (List b7) → Hp → Prop) : Prop :=
 TL ((0, a6a) : Int × (List b7)) H fun (s : Int × (List b7)) H n7 => P3 g0h g0i g0j b6y.p8 (b6y.p8.n : Int) b6y s.1 s.2 H n1 n7 K
def P4 (b8t : Sl) (b8u : Int) (P5 : Int) (K4 : (List b7)) (H : Hp) (n1 : (Int × (List b7)) → Hp → Prop) (K : d9 → (List b7) → Hp → Prop) : Prop :=
 (P5 < b8u →
 (0 : Int) ≤ P5 ∧ (P5 : Int) < b8t.n ∧ ∃ C5 : m6, EltH H b8t P5 6 (f2 C5) ∧
 (C5.d5 = 1 →
 (K4.length + ([(b7.mk C5.d6 1)] : List b7).length) * 25 ≤ 140737488355328 ∧
 C2 b8t b8u P5 (K4 ++ [(b7.mk C5.d6 1)]) C5 H n1 K) ∧
 (¬ (C5.d5 = 1) →
 (C5.d5 = 2 →
 (K4.length + ([(b7.mk C5.d6 2)] : List b7).length) * 25 ≤ 140737488355328 ∧
 C2 b8t b8u P5 (K4 ++ [(b7.mk C5.d6 2)]) C5 H n1 K) ∧
 (¬ (C5.d5 = 2) →
 C2 b8t b8u P5 K4 C5 H n1 K))) ∧
 (¬ (P5 < b8u) →
 K (d9.mk (Sl.mk none 0 0)) K4 H)
def S6 (x0 : d9) (K1 : (List b7)) (x1 : Sl) (H : Hp) (K : d9 → (List b7) → Hp → Prop) : Prop :=
 TL ((0, K1) : Int × (List b7)) H fun (s : Int × (List b7)) H n1 => P4 x1 (x1.n : Int) s.1 s.2 H n1 K
theorem a6z (x0 : d9) (K1 : (List b7)) (x1 : Sl) (g0 : Nat) (N3 : Sl) (R1 : Frag) (a3J : RowL 117 2 o2 N3 K1 R1) {K : d9 → (List b7) → Hp → Prop} (I : Inv w0 ps0 H0 H [bx g0 114 [(vs N3)], R1] w) (hR : ∀ (y0 : d9) (a0S : (List b7)) (U3 : Sl) (U4 : Frag) (H' : Hp) (w' : World) (_ : RowL 117 2 o2 U3 a0S U4) (_ : Inv w0 ps0 H0 H' [bx g0 114 [(vs U3)], U4] w') (_ : K y0 a0S H'), R (Value.tuple #[]) w') (h : S6 x0 K1 x1 H K) : F55 (Value.pointer (some ⟨g0, 0, none⟩)) (vs x1) w R E := by
 unfold S6 at h
 unfold F55
 refine a7 (a4L _ _ _) ?_
 obtain ⟨c8R, b8v, g0k, g0l⟩ := h
 refine K8 (J := fun n l w => ∃ (s : Int × (List b7)) (H : Hp) (a2L : Sl) (a8J : Frag) , n = b8v s ∧ l = (match s with | (P5, K4) => [(vi P5)]) ∧ (match s with | (P5, K4) => RowL 117 2 o2 a2L K4 a8J) ∧ (match s with | (P5, K4) => Inv w0 ps0 H0 H [bx g0 114 [(vs a2L)], a8J] w) ∧ c8R s H) ⟨_, (0, K1), H, N3, R1, rfl, rfl, a3J, ((I.bring 1).bring 1), g0k⟩ ?_
 rintro g4Y τ_426 w next1 ⟨⟨P5, K4⟩, H, a2L, a8J, rfl, c8S, a8K, I, g0m⟩ hn1
 dsimp only at c8S I a8K
 simp only [List.map_cons, List.map_nil, List.cons.injEq, and_true] at c8S
 have e12 := c8S
 simp only [e12]
 obtain ⟨n1, hm1, h⟩ : ∃ n1 : (Int × (List b7)) → Hp → Prop, (∀ s' H', n1 s' H' → c8R s' H' ∧ b8v s' < b8v (P5, K4)) ∧ P4 x1 (x1.n : Int) P5 K4 H n1 K := ⟨_, fun _ _ h => h, g0l (P5, K4) H (fun s' H' => c8R s' H' ∧ b8v s' < b8v (P5, K4)) g0m (fun _ _ a b => ⟨a, b⟩)⟩
 unfold d1R
 unfold P4 at h
 refine a7 (B8 _ _ _ _ _ _) ?_
 refine h9 (fun c8T => ?_) (fun c8T => ?_)
 ·replace h := h.1 c8T
  have hj2 : ∀ (a5Y : (List b7)) (b1V : Sl) (b1W : Frag) (H : Hp) (w : World) (_ : RowL 117 2 o2 b1V a5Y b1W) (_ : Inv w0 ps0 H0 H [bx g0 114 [(vs b1V)], b1W] w) (_ : O9 x1 (x1.n : Int) P5 a5Y H n1 K), c4K (Value.pointer (some ⟨g0, 0, none⟩)) (vs x1) (vi (x1.n : Int)) (vi P5) w next1 R E := by
   intro a5Y b1V b1W H w d6R I h
   unfold c4K
   intro _
   unfold O9 at h
   refine a7 (E9 _ _ _ _ _ _) ?_
   exact hn1 _ _ _ (hm1 _ _ h).2 ⟨((IntKind.wrap .i64 (P5 + 1)), a5Y), H, b1V, b1W, rfl, rfl, d6R, ((I.bring 1).bring 1), (hm1 _ _ h).1⟩
  refine z7 fun j2 hx2 => ?_
  obtain ⟨g0n, g0o, C5, c8U, h⟩ := h
  obtain ⟨g4Z, g5a, g0p, c8U⟩ := c8U
  refine a7 (b5u g0p _ _ _ _ g0n g0o) ?_
  refine b8 (ldA (vs := (f2 C5)) Tryd.isAgg63 Tryd.sizeOf63 rfl (I.atH c8U)) ?_
  refine A0 I Tryd.zeroValue63 (cs := [(vi 0), (eS), (nS), (nS), (nS), (nS)]) rfl fun a4n g5b g0q g5c => ?_
  refine m5 g0q Tryd.sizeOf63 (vs := (f2 C5)) (cs' := (f2 C5)) rfl rfl (nb rfl) rfl rfl fun g5d c0S g5e => ?_
  have hj3 : ∀ (a6a : (List b7)) (b1X : Sl) (b1Y : Frag) (H : Hp) (w : World) (_ : RowL 117 2 o2 b1X a6a b1Y) (_ : Inv w0 ps0 H0 H [bx g0 114 [(vs b1X)], bx a4n 63 (f2 C5), b1Y] w) (_ : C2 x1 (x1.n : Int) P5 a6a C5 H n1 K), c4N (Value.pointer (some ⟨g0, 0, none⟩)) (Value.pointer (some ⟨a4n, 0, none⟩)) (vs x1) (vi (x1.n : Int)) (vi P5) w j2 R E := by
   intro a6a b1X b1Y H w d6S I h
   unfold c4N
   intro _
   unfold C2 at h
   have hj4 : ∀ (a5Z : (List b7)) (b1Z : Sl) (b2a : Frag) (H : Hp) (w : World) (_ : RowL 117 2 o2 b1Z a5Z b2a) (_ : Inv w0 ps0 H0 H [bx g0 114 [(vs b1Z)], bx a4n 63 (f2 C5), b2a] w) (_ : P2 x1 (x1.n : Int) P5 a5Z C5 H n1 K), c4M (Value.pointer (some ⟨g0, 0, none⟩)) (Value.pointer (some ⟨a4n, 0, none⟩)) (vs x1) (vi (x1.n : Int)) (vi P5) w j2 R E := by
    intro a5Z b1Z b2a H w d6T I h
    unfold c4M
    intro _
    unfold P2 at h
    have hj5 : ∀ (a8I : (List b7)) (a8L : Sl) (a8M : Frag) (H : Hp) (w : World) (_ : RowL 117 2 o2 a8L a8I a8M) (_ : Inv w0 ps0 H0 H [bx g0 114 [(vs a8L)], bx a4n 63 (f2 C5), a8M] w) (_ : P0 x1 (x1.n : Int) P5 a8I C5 H n1 K), c4L (Value.pointer (some ⟨g0, 0, none⟩)) (Value.pointer (some ⟨a4n, 0, none⟩)) (vs x1) (vi (x1.n : Int)) (vi P5) w j2 R E := by
     intro a8I a8L a8M H w d6U I h
     unfold c4L
     intro _
     unfold P0 at h
     refine a7 a4Z ?_
     refine b8 (ld1 Tryd.isAgg42 ((I.bring 1).at1 (o := 4) (vs := [(vs C5.G1)]) (nb rfl) rfl)) ?_
     refine b9 (cap := []) (fun args w => Tryd.call55 args w) ?_
     refine m2 (Fi := [bx g0 114 [(vs a8L)], a8M]) (Fr := [bx a4n 63 (f2 C5)]) ((I.bring 2).bring 1) (h g0 a8L a8M d6U) (fun g5f d8c g5g g5h d8h g5i g5j g0r => ?_) (fun _ _ _ _ _ q => q.elim)
     obtain ⟨f7u, c4W, c0m, c0n, rfl, rfl, d2b, h⟩ := g0r
     refine a7 a5a ?_
     refine b8 (ld1 Tryd.isAgg42 ((d8h.bring 2).at1 (o := 5) (vs := [(vs C5.E6)]) (nb rfl) rfl)) ?_
     refine b9 (cap := []) (fun args w => Tryd.call55 args w) ?_
     refine m2 (Fi := [bx g0 114 [(vs c0m)], c0n]) (Fr := [bx a4n 63 (f2 C5)]) ((d8h.bring 1).bring 1) (h g0 c0m c0n d2b) (fun g5k c8O g5l g5m g0s g5n g5o g0t => ?_) (fun _ _ _ _ _ q => q.elim)
     obtain ⟨f7v, b6u, d2c, d2d, rfl, rfl, d2e, h⟩ := g0t
     exact hx2 _ _ (hj2 b6u d2c d2d c8O _ d2e (((g0s.bring 2).drop.bring 1).bring 1) h)
    refine z7 fun j5 hx5 => ?_
    refine a7 a4Y ?_
    refine b8 (ld1 Tryd.isAgg22 ((I.bring 1).at1 (o := 2) (vs := [(vs C5.i6)]) (nb rfl) rfl)) ?_
    refine a7 (a2h _ _ _) ?_
    obtain ⟨c8V, b8w, g0u, g0v⟩ := h
    refine K8 (J := fun n l w => ∃ (s : Int × (List b7)) (H : Hp) (a6b : Sl) (a6c : Frag) , n = b8w s ∧ l = (match s with | (a1W, a0q) => [(vi a1W)]) ∧ (match s with | (a1W, a0q) => RowL 117 2 o2 a6b a0q a6c) ∧ (match s with | (a1W, a0q) => Inv w0 ps0 H0 H [bx g0 114 [(vs a6b)], bx a4n 63 (f2 C5), a6c] w) ∧ c8V s H) ⟨_, (0, a5Z), H, b1Z, b2a, rfl, rfl, d6T, (((I.bring 2).bring 2).bring 2), g0u⟩ ?_
    rintro g5p τ_354 w next6 ⟨⟨a1W, a0q⟩, H, a6b, a6c, rfl, c8W, b6z, I, g0w⟩ hn6
    dsimp only at c8W I b6z
    simp only [List.map_cons, List.map_nil, List.cons.injEq, and_true] at c8W
    have e60 := c8W
    simp only [e60]
    obtain ⟨n6, hm6, h⟩ : ∃ n6 : (Int × (List b7)) → Hp → Prop, (∀ s' H', n6 s' H' → c8V s' H' ∧ b8w s' < b8w (a1W, a0q)) ∧ P1 x1 (x1.n : Int) P5 C5.i6 (C5.i6.n : Int) C5 a1W a0q H n1 n6 K := ⟨_, fun _ _ h => h, g0v (a1W, a0q) H (fun s' H' => c8V s' H' ∧ b8w s' < b8w (a1W, a0q)) g0w (fun _ _ a b => ⟨a, b⟩)⟩
    unfold d1N
    unfold P1 at h
    refine a7 (B8 _ _ _ _ _ _) ?_
    refine h9 (fun c8X => ?_) (fun c8X => ?_)
    ·replace h := h.1 c8X
     obtain ⟨g0x, g0y, a9m, c8Y, h⟩ := h
     obtain ⟨g5q, g5r, g0z, c8Y⟩ := c8Y
     refine a7 (a0P g0z _ _ _ _ g0x g0y) ?_
     refine b8 (ldA (vs := (b6 a9m)) Tryd.isAgg24 Tryd.sizeOf24 rfl (I.atH c8Y)) ?_
     refine A0 I Tryd.zeroValue24 (cs := [(vi 0), (vi 0), (eS), (nS)]) rfl fun g0A g5s g0B g5t => ?_
     refine m5 g0B Tryd.sizeOf24 (vs := (b6 a9m)) (cs' := (b6 a9m)) rfl rfl (nb rfl) rfl rfl fun g5u d8i g5v => ?_
     refine b8 (ldA Tryd.isAgg24 Tryd.sizeOf24 rfl (d8i.at1 (o := 0) (vs := (b6 a9m)) (nb rfl) rfl)) ?_
     refine b9 (cap := []) (fun args w => Tryd.call94 args w) ?_
     refine m2 (Fi := [bx g0 114 [(vs a6b)], a6c]) (Fr := [bx g0A 24 (b6 a9m), bx a4n 63 (f2 C5)]) ((d8i.bring 3).bring 2) (h g0 a6b a6c b6z) (fun g5w c8P g5x g5y g0C g5z g5A g0D => ?_) (fun _ _ _ _ _ q => q.elim)
     obtain ⟨f7w, b6v, d2f, d2g, rfl, rfl, d2h, h⟩ := g0D
     refine a7 (E9 _ _ _ _ _ _) ?_
     exact hn6 _ _ _ (hm6 _ _ h).2 ⟨((IntKind.wrap .i64 (a1W + 1)), b6v), c8P, d2f, d2g, rfl, rfl, d2h, ((((g0C.bring 2).drop.bring 1).bring 2).bring 2), (hm6 _ _ h).1⟩
    ·replace h := h.2 c8X
     exact hx5 _ _ (hj5 a0q a6b a6c H _ b6z (((I.bring 2).bring 2).bring 2) h)
   refine z7 fun j4 hx4 => ?_
   refine a7 a6S ?_
   refine b8 (ld1 Tryd.isAgg25 ((I.bring 1).at1 (o := 3) (vs := [(vs C5.p8)]) (nb rfl) rfl)) ?_
   refine a7 (a6l _ _ _) ?_
   obtain ⟨c8Z, b8x, g0E, g0F⟩ := h
   refine K8 (J := fun n l w => ∃ (s : Int × (List b7)) (H : Hp) (a6d : Sl) (a6e : Frag) , n = b8x s ∧ l = (match s with | (a1X, a0r) => [(vi a1X)]) ∧ (match s with | (a1X, a0r) => RowL 117 2 o2 a6d a0r a6e) ∧ (match s with | (a1X, a0r) => Inv w0 ps0 H0 H [bx g0 114 [(vs a6d)], bx a4n 63 (f2 C5), a6e] w) ∧ c8Z s H) ⟨_, (0, a6a), H, b1X, b1Y, rfl, rfl, d6S, (((I.bring 2).bring 2).bring 2), g0E⟩ ?_
   rintro g5B τ_396 w next7 ⟨⟨a1X, a0r⟩, H, a6d, a6e, rfl, c9a, b6A, I, g0G⟩ hn7
   dsimp only at c9a I b6A
   simp only [List.map_cons, List.map_nil, List.cons.injEq, and_true] at c9a
   have e49 := c9a
   simp only [e49]
   obtain ⟨n7, hm7, h⟩ : ∃ n7 : (Int × (List b7)) → Hp → Prop, (∀ s' H', n7 s' H' → c8Z s' H' ∧ b8x s' < b8x (a1X, a0r)) ∧ P3 x1 (x1.n : Int) P5 C5.p8 (C5.p8.n : Int) C5 a1X a0r H n1 n7 K := ⟨_, fun _ _ h => h, g0F (a1X, a0r) H (fun s' H' => c8Z s' H' ∧ b8x s' < b8x (a1X, a0r)) g0G (fun _ _ a b => ⟨a, b⟩)⟩
   unfold d1P
   unfold P3 at h
   refine a7 (B8 _ _ _ _ _ _) ?_
   refine h9 (fun c9b => ?_) (fun c9b => ?_)
   ·replace h := h.1 c9b
    obtain ⟨g0H, g0I, a9n, c9c, h⟩ := h
    obtain ⟨g5C, g5D, g0J, c9c⟩ := c9c
    refine a7 (a2l g0J _ _ _ _ g0H g0I) ?_
    refine b8 (ldA (vs := (i4 a9n)) Tryd.isAgg27 Tryd.sizeOf27 rfl (I.atH c9c)) ?_
    refine A0 I Tryd.zeroValue27 (cs := [(vi 0), (vi 0), (nS), (nS)]) rfl fun g0K g5E g0L g5F => ?_
    refine m5 g0L Tryd.sizeOf27 (vs := (i4 a9n)) (cs' := (i4 a9n)) rfl rfl (nb rfl) rfl rfl fun g5G d8j g5H => ?_
    refine b8 (ldA Tryd.isAgg27 Tryd.sizeOf27 rfl (d8j.at1 (o := 0) (vs := (i4 a9n)) (nb rfl) rfl)) ?_
    refine b9 (cap := []) (fun args w => Tryd.call93 args w) ?_
    refine m2 (Fi := [bx g0 114 [(vs a6d)], a6e]) (Fr := [bx g0K 27 (i4 a9n), bx a4n 63 (f2 C5)]) ((d8j.bring 3).bring 2) (h g0 a6d a6e b6A) (fun g5I c8Q g5J g5K g0M g5L g5M g0N => ?_) (fun _ _ _ _ _ q => q.elim)
    obtain ⟨f7x, b6x, d2i, d2j, rfl, rfl, d2k, h⟩ := g0N
    refine a7 (E9 _ _ _ _ _ _) ?_
    exact hn7 _ _ _ (hm7 _ _ h).2 ⟨((IntKind.wrap .i64 (a1X + 1)), b6x), c8Q, d2i, d2j, rfl, rfl, d2k, ((((g0M.bring 2).drop.bring 1).bring 2).bring 2), (hm7 _ _ h).1⟩
   ·replace h := h.2 c9b
    exact hx4 _ _ (hj4 a0r a6d a6e H _ b6A (((I.bring 2).bring 2).bring 2) h)
  refine z7 fun j3 hx3 => ?_
  refine a7 a4X ?_
  refine b8 (ld1 Tryd.isAgg3 (c0S.at1 (o := 0) (vs := [(vi C5.d5)]) (nb rfl) rfl)) ?_
  refine a7 (i5 _ _ _ _ _ _) ?_
  refine h9 (fun c9d => ?_) (fun c9d => ?_)
  ·replace h := h.1 c9d
   refine a0d c0S fun g5N c0T => ?_
   refine i8 (o3 _) ?_
   refine i8 Z3 ?_
   refine i8 a1t ?_
   refine s7 (ld1 Tryd.isAgg112 ((c0T.bring 1).at1 (o := 0) (vs := [(vs a2L)]) (nb rfl) rfl)) ?_
   refine s7 (ld1 Tryd.isAgg9 (c0T.at1 (o := 1) (vs := [(Value.string C5.d6)]) (nb rfl) rfl)) ?_
   refine i8 (a3v _ _) ?_
   refine X3 (e := 117) (c := o2) (xs := [(b7.mk C5.d6 1)]) c0T (b0N _ _) rfl rfl a2M a2N (nb rfl) fun g5O g5P g5Q g0O d8k g0P => ?_
   refine ⟨(g0P _ (c0T.bring 1).lt1), ?_⟩
   obtain ⟨g0Q, h⟩ := h
   refine b4i (s := a2L) (xs := K4) (d8k.bring 3) a8K (g0O.srcO ((d8k.bring 3).bring 1)) g0Q fun c9e g0R g5R g0S g0T g5S => ?_
   refine i8 (o3 _) ?_
   refine i8 Z3 ?_
   refine m5 ((g0T.bring 1).drop.bring 2) Tryd.sizeOf112 (vs := [(vs c9e)]) (cs' := [(vs c9e)]) rfl rfl (nb rfl) rfl rfl fun g5T g0U g5U => ?_
   exact hx3 _ _ (hj3 (K4 ++ [(b7.mk C5.d6 1)]) c9e g0R H _ g0S (((g0U.bring 1).bring 2).bring 2) h)
  ·replace h := h.2 c9d
   refine a7 (i5 _ _ _ _ _ _) ?_
   refine h9 (fun c9f => ?_) (fun c9f => ?_)
   ·replace h := h.1 c9f
    refine a0d c0S fun g5V c0U => ?_
    refine i8 (o3 _) ?_
    refine i8 Z3 ?_
    refine i8 a1t ?_
    refine s7 (ld1 Tryd.isAgg112 ((c0U.bring 1).at1 (o := 0) (vs := [(vs a2L)]) (nb rfl) rfl)) ?_
    refine s7 (ld1 Tryd.isAgg9 (c0U.at1 (o := 1) (vs := [(Value.string C5.d6)]) (nb rfl) rfl)) ?_
    refine i8 (a3v _ _) ?_
    refine X3 (e := 117) (c := o2) (xs := [(b7.mk C5.d6 2)]) c0U (b0N _ _) rfl rfl a2M a2N (nb rfl) fun g5W g5X g5Y g0V d8l g0W => ?_
    refine ⟨(g0W _ (c0U.bring 1).lt1), ?_⟩
    obtain ⟨g0X, h⟩ := h
    refine b4i (s := a2L) (xs := K4) (d8l.bring 3) a8K (g0V.srcO ((d8l.bring 3).bring 1)) g0X fun c9g g0Y g5Z g0Z g1a g6a => ?_
    refine i8 (o3 _) ?_
    refine i8 Z3 ?_
    refine m5 ((g1a.bring 1).drop.bring 2) Tryd.sizeOf112 (vs := [(vs c9g)]) (cs' := [(vs c9g)]) rfl rfl (nb rfl) rfl rfl fun g6b g1b g6c => ?_
    exact hx3 _ _ (hj3 (K4 ++ [(b7.mk C5.d6 2)]) c9g g0Y H _ g0Z (((g1b.bring 1).bring 2).bring 2) h)
   ·replace h := h.2 c9f
    exact hx3 _ _ (hj3 K4 a2L a8J H _ a8K (((c0S.bring 2).bring 1).bring 2) h)
 ·replace h := h.2 c8T
  exact hR (d9.mk (Sl.mk none 0 0)) K4 a2L a8J H _ a8K ((I.bring 1).bring 1) h
theorem a6N (x0 : d9) (K1 : (List b7)) (x1 : Sl) {H : Hp} {K : d9 → (List b7) → Hp → Prop} (h : S6 x0 K1 x1 H K) : N1 x0 K1 x1 H K := by
 intro g0 N3 R1 a3J w I
 refine f6O ?_
 refine a6z x0 K1 x1 g0 N3 R1 a3J I (fun y0 a0S U3 U4 H' w' b3S I' hk => ⟨H', _, I', y0, a0S, U3, U4, rfl, rfl, b3S, hk⟩) h
def S1 (a3W : Int) (b9U : ByteArray) (g1c : (List b7)) (D7 : A5) (H : Hp) (K : ByteArray → Int → Hp → Prop) : Prop :=
 K b9U a3W H
def Z9 (g4l : (Option Nat)) (b8y : (List b7)) (b8r : Int) (b3Q : A5) (a4E : Int) (X9 : ByteArray) (M8 : Int) (H : Hp) (n2 : (Int × ByteArray × Int) → Hp → Prop) (K : ByteArray → Int → Hp → Prop) : Prop :=
 (M8 < b8r →
 (0 : Int) ≤ M8 ∧ ∃ a2g : b7, (b8y)[(M8 : Int).toNat]? = some a2g ∧
 ∃ b0B : List (ByteArray × Int), MapH H (fun s : ByteArray => Value.string s) (fun n : Int => Value.int .i64 n) g4l b0B ∧
 (((lk a2g.fname b0B).getD 0) = a2g.fas →
 n2 (a4E, X9, (IntKind.wrap .i64 (M8 + 1))) H) ∧
 (¬ (((lk a2g.fname b0B).getD 0) = a2g.fas) →
 (((lk a2g.fname b0B).getD 0) = 0 →
 S1 63 a2g.fname b8y b3Q H K) ∧
 (¬ (((lk a2g.fname b0B).getD 0) = 0) →
 S1 64 a2g.fname b8y b3Q H K))) ∧
 (¬ (M8 < b8r) →
 S1 a4E X9 b8y b3Q H K)
def a1f (x0 : A5) (H : Hp) (K : ByteArray → Int → Hp → Prop) : Prop :=
 a2X x0 H (fun (Z6 : Int) (H_6 : Hp) =>
 (¬ (Z6 = 0) →
 K ⟨#[]⟩ Z6 H_6) ∧
 (Z6 = 0 →
 a4a x0.a3X H_6 (fun (c9h : (Option Nat)) (c0V : ByteArray) (a9o : Int) (c9i : Hp) =>
 (¬ (a9o = 0) →
 K c0V a9o c9i) ∧
 (a9o = 0 →
 N1 (d9.mk (Sl.mk none 0 0)) [] x0.a6f c9i (fun (g1d : d9) (a7w : (List b7)) (b1S : Hp) =>
 TL ((a9o, ⟨#[]⟩, 0) : Int × ByteArray × Int) b1S fun (s : Int × ByteArray × Int) H n2 => Z9 c9h a7w (a7w.length : Int) x0 s.1 s.2.1 s.2.2 H n2 K)))))
theorem b2b (x0 : A5) {K : ByteArray → Int → Hp → Prop} (I : Inv w0 ps0 H0 H [] w) (hR : ∀ (r0 : ByteArray) (r1 : Int) (H' : Hp) (w' : World) (_ : Inv w0 ps0 H0 H' [] w') (_ : K r0 r1 H'), R (Value.tuple #[(Value.string r0), (vi r1)]) w') (h : a1f x0 H K) : F34 (Value.agg (t7 x0).toArray) w R E := by
 unfold a1f at h
 unfold F34
 refine M1 I (cs := (t7 x0)) rfl fun g_2 w_3 I_4 k_5 => ?_
 refine b8 (ldA Tryd.isAgg44 Tryd.sizeOf44 rfl (I_4.at1 (o := 0) (vs := (t7 x0)) (nb rfl) rfl)) ?_
 refine b9 (cap := []) (fun args w => Tryd.call53 args w) ?_
 refine m2 (Fi := []) (Fr := [bx g_2 44 (t7 x0)]) I_4 (h) (fun c7m H_6 c7n w_7 I_8 c7o k_9 b1v => ?_) (fun _ _ _ _ _ q => q.elim)
 obtain ⟨Z6, rfl, rfl, h⟩ := b1v
 refine a7 (W7 _ _ _ _ _ _) ?_
 refine a4K (fun a7S => ?_) (fun a7S => ?_)
 ·replace h := h.1 a7S
  exact hR ⟨#[]⟩ Z6 H_6 _ I_8.drop h
 ·replace h := h.2 a7S
  refine a7 a6R ?_
  refine b8 (ld1 Tryd.isAgg41 (I_8.at1 (o := 0) (vs := [(vs x0.a3X)]) (nb rfl) rfl)) ?_
  refine b9 (cap := []) (fun args w => Tryd.call54 args w) ?_
  refine m2 (Fi := []) (Fr := [bx g_2 44 (t7 x0)]) I_8 (h) (fun g7L c9i g7M o8 b9i g7N g1F g4m => ?_) (fun _ _ _ _ _ q => q.elim)
  obtain ⟨c9h, c0V, a9o, rfl, rfl, h⟩ := g4m
  refine a7 (j7 _ _ _ rfl) ?_
  refine a7 (j7 _ _ (Value.string c0V) rfl) ?_
  refine a7 (j7 _ _ (vi a9o) rfl) ?_
  refine a7 (W7 _ _ _ _ _ _) ?_
  refine a4K (fun b5P => ?_) (fun b5P => ?_)
  ·replace h := h.1 b5P
   exact hR c0V a9o c9i _ b9i.drop h
  ·replace h := h.2 b5P
   refine a7 (c6y ) ?_
   refine M1 b9i (cs := [(nS)]) rfl fun c9j z8 b5Q g1Z => ?_
   refine a7 b0M ?_
   refine b8 (ld1 Tryd.isAgg42 ((b5Q.bring 1).at1 (o := 1) (vs := [(vs x0.a6f)]) (nb rfl) rfl)) ?_
   refine b9 (cap := []) (fun args w => Tryd.call55 args w) ?_
   refine m2 (Fi := [bx c9j 114 [(Value.slice (Sl.mk none 0 0).a (Sl.mk none 0 0).n (Sl.mk none 0 0).c)], []]) (Fr := [bx g_2 44 (t7 x0)]) (b5Q.nil.bring 1) (h c9j (Sl.mk none 0 0) ([]) (RowL.nil (e := 117) a2M a2N)) (fun g7O b1S g7P c4m f7y e8K g7Q g4n => ?_) (fun _ _ _ _ _ q => q.elim)
   obtain ⟨g1d, a7w, b6B, c4X, rfl, rfl, b2c, h⟩ := g4n
   have hj1 : ∀ (a3W : Int) (b9U : ByteArray) (H : Hp) (w : World) (_ : Inv w0 ps0 H0 H [bx c9j 114 [(vs b6B)], bx g_2 44 (t7 x0), c4X] w) (_ : S1 a3W b9U a7w x0 H K), c4I (vi a3W) (Value.string b9U) w R E := by
    intro a3W b9U H w I h
    unfold c4I
    intro _
    unfold S1 at h
    exact hR b9U a3W H _ I.drop.drop.drop h
   refine z7 fun j1 hx1 => ?_
   refine a7 (o3 _) ?_
   refine a7 Z3 ?_
   refine b8 (ld1 Tryd.isAgg112 (f7y.at1 (o := 0) (vs := [(vs b6B)]) (nb rfl) rfl)) ?_
   refine a7 (b6I Tryd.underlying112 b2c) ?_
   obtain ⟨d6V, c4Y, g4o, g4p⟩ := h
   refine K8 (J := fun n l w => ∃ (s : Int × ByteArray × Int) (H : Hp) , n = c4Y s ∧ l = (match s with | (a4E, X9, M8) => [(vi a4E), (Value.string X9), (vi M8)]) ∧ (match s with | (a4E, X9, M8) => Inv w0 ps0 H0 H [bx c9j 114 [(vs b6B)], bx g_2 44 (t7 x0), c4X] w) ∧ d6V s H) ⟨_, (a9o, ⟨#[]⟩, 0), b1S, rfl, rfl, (((f7y.bring 1).bring 2).bring 2), g4o⟩ ?_
   rintro g7R τ_64 w next2 ⟨⟨a4E, X9, M8⟩, H, rfl, d6W, I, g4q⟩ hn2
   dsimp only at d6W I
   simp only [List.map_cons, List.map_nil, List.cons.injEq, and_true] at d6W
   obtain ⟨e7, e9, e39⟩ := d6W
   simp only [e7, e9, e39]
   obtain ⟨n2, hm2, h⟩ : ∃ n2 : (Int × ByteArray × Int) → Hp → Prop, (∀ s' H', n2 s' H' → d6V s' H' ∧ c4Y s' < c4Y (a4E, X9, M8)) ∧ Z9 c9h a7w (a7w.length : Int) x0 a4E X9 M8 H n2 K := ⟨_, fun _ _ h => h, g4p (a4E, X9, M8) H (fun s' H' => d6V s' H' ∧ c4Y s' < c4Y (a4E, X9, M8)) g4q (fun _ _ a b => ⟨a, b⟩)⟩
   unfold d1H
   unfold Z9 at h
   refine a7 (B8 _ _ _ _ _ _) ?_
   refine h9 (fun d6X => ?_) (fun d6X => ?_)
   ·replace h := h.1 d6X
    obtain ⟨f7z, a2g, a7U, h⟩ := h
    obtain ⟨g7S, g7T, a9C, f5G⟩ := b2c.addr a7U
    refine a7 (c9D a9C _ _ _ _ f7z (b2c.lt f7z a7U)) ?_
    refine b8 (ldA (vs := (o2 a2g)) Tryd.isAgg117 Tryd.sizeOf117 rfl (b2c.atW (I.bring 2) a9C a7U)) ?_
    refine A0 I Tryd.zeroValue117 (cs := [(eS), (vi 0)]) rfl fun g7U J0 c2K e8v => ?_
    refine m5 c2K Tryd.sizeOf117 (vs := (o2 a2g)) (cs' := (o2 a2g)) rfl rfl (nb rfl) rfl rfl fun b9M a9G g7V => ?_
    refine a7 a9s ?_
    refine b8 (ld1 Tryd.isAgg9 (a9G.at1 (o := 0) (vs := [(Value.string a2g.fname)]) (nb rfl) rfl)) ?_
    obtain ⟨b0B, g1e, h⟩ := h
    refine c1n (keyS Tryd.underlying9) Tryd.underlying108 (z := 0) Tryd.zeroValue3 a9G g1e a2g.fname ?_
    refine a7 c5h ?_
    refine b8 (ld1 Tryd.isAgg3 (a9G.at1 (o := 1) (vs := [(vi a2g.fas)]) (nb rfl) rfl)) ?_
    refine a7 (i5 _ _ _ _ _ _) ?_
    refine h9 (fun d6Y => ?_) (fun d6Y => ?_)
    ·replace h := h.1 d6Y
     refine a7 (E9 _ _ _ _ _ _) ?_
     exact hn2 _ _ _ (hm2 _ _ h).2 ⟨(a4E, X9, (IntKind.wrap .i64 (M8 + 1))), H, rfl, rfl, (((a9G.drop.bring 2).bring 2).bring 2), (hm2 _ _ h).1⟩
    ·replace h := h.2 d6Y
     refine a7 (i5 _ _ _ _ _ _) ?_
     refine h9 (fun d6Z => ?_) (fun d6Z => ?_)
     ·replace h := h.1 d6Z
      refine a7 a9s ?_
      refine b8 (ld1 Tryd.isAgg9 (a9G.at1 (o := 0) (vs := [(Value.string a2g.fname)]) (nb rfl) rfl)) ?_
      exact hx1 _ _ (hj1 63 a2g.fname H _ (((a9G.drop.bring 2).bring 2).bring 2) h)
     ·replace h := h.2 d6Z
      refine a7 a9s ?_
      refine b8 (ld1 Tryd.isAgg9 (a9G.at1 (o := 0) (vs := [(Value.string a2g.fname)]) (nb rfl) rfl)) ?_
      exact hx1 _ _ (hj1 64 a2g.fname H _ (((a9G.drop.bring 2).bring 2).bring 2) h)
   ·replace h := h.2 d6X
    exact hx1 _ _ (hj1 a4E X9 H _ (((I.bring 2).bring 2).bring 2) h)
theorem b2p (x0 : A5) {H : Hp} {K : ByteArray → Int → Hp → Prop} (h : a1f x0 H K) : a5x x0 H K := by
 intro w I
 refine f5Y ?_
 refine b2b x0 I (fun r0 r1 H' w' I' hk => ⟨H', _, I', r0, r1, rfl, rfl, hk⟩) h
def a1B (x0 : i7) (H : Hp) (K : Int → Hp → Prop) : Prop :=
 (0 < x0.C7 →
 K 2 H) ∧
 (¬ (0 < x0.C7) →
 K 1 H)
theorem b2q (x0 : i7) {K : Int → Hp → Prop} (I : Inv w0 ps0 H0 H [] w) (hR : ∀ (r0 : Int) (H' : Hp) (w' : World) (_ : Inv w0 ps0 H0 H' [] w') (_ : K r0 H'), R (vi r0) w') (h : a1B x0 H K) : F92 (Value.agg (l9 x0).toArray) w R E := by
 unfold a1B at h
 unfold F92
 refine M1 I (cs := (l9 x0)) rfl fun g_2 w_3 I_4 k_5 => ?_
 refine a7 a2m ?_
 refine b8 (ld1 Tryd.isAgg3 (I_4.at1 (o := 1) (vs := [(vi x0.C7)]) (nb rfl) rfl)) ?_
 refine a7 (a1q _ _ _ _ _ _) ?_
 refine h9 (fun c_6 => ?_) (fun c_6 => ?_)
 ·replace h := h.1 c_6
  exact hR 2 H _ I_4.drop h
 ·replace h := h.2 c_6
  exact hR 1 H _ I_4.drop h
theorem b3U (x0 : i7) {H : Hp} {K : Int → Hp → Prop} (h : a1B x0 H K) : a6q x0 H K := by
 intro w I
 refine f6Q ?_
 refine b2q x0 I (fun r0 H' w' I' hk => ⟨H', _, I', r0, rfl, rfl, hk⟩) h
end Go.Proofs.YtnhkdkcgdcgmdaaDoor
