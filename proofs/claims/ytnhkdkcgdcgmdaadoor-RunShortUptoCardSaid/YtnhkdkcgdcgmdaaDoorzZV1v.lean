/- Typed formulas of the program's functions that few laws need; printed by lift.py off the code. -/
import Derived.Test.YtnhkdkcgdcgmdaaDoorzZV1
import Derived.Test.YtnhkdkcgdcgmdaaDoorzZG1v
namespace Go.Proofs.YtnhkdkcgdcgmdaaDoor
open Go.RowKit
set_option maxRecDepth 100000
set_option maxHeartbeats 2000000
variable {w0 w : World} {ps0 : Nat → Prop} {H0 H : Hp} {R : RT} {E : Pan}
def S5 (d9L : Sl) (b9l : Int) (b4L : i4) (O3 : Int) (G5 : (List d7)) (H : Hp) (n2 : (Int × (List d7)) → Hp → Prop) (K : i6 → (List d7) → Hp → Prop) : Prop :=
 (O3 < b9l →
 (0 : Int) ≤ O3 ∧ (O3 : Int) < d9L.n ∧ ∃ b4M : i4, EltH H d9L O3 4 (d5 b4M) ∧
 P9 (i6.mk (Sl.mk none 0 0)) G5 b4M H (fun (g2o : i6) (c0R : (List d7)) (d8k : Hp) =>
 n2 ((IntKind.wrap .i64 (O3 + 1)), c0R) d8k)) ∧
 (¬ (O3 < b9l) →
 K (i6.mk (Sl.mk none 0 0)) G5 H)
def E4 (a0x : (List d7)) (F0 : i4) (H : Hp) (K : i6 → (List d7) → Hp → Prop) : Prop :=
 TL ((0, a0x) : Int × (List d7)) H fun (s : Int × (List d7)) H n2 => S5 F0.A7 (F0.A7.n : Int) F0 s.1 s.2 H n2 K
def V4 (x0 : i6) (L9 : (List d7)) (x1 : i4) (H : Hp) (K : i6 → (List d7) → Hp → Prop) : Prop :=
 (x1.d9 = 2 →
 (L9.length + ([(d7.mk x1.g7 1)] : List d7).length) * 25 ≤ 140737488355328 ∧
 E4 (L9 ++ [(d7.mk x1.g7 1)]) x1 H K) ∧
 (¬ (x1.d9 = 2) →
 (x1.d9 = 4 →
 (L9.length + ([(d7.mk x1.g7 2)] : List d7).length) * 25 ≤ 140737488355328 ∧
 E4 (L9 ++ [(d7.mk x1.g7 2)]) x1 H K) ∧
 (¬ (x1.d9 = 4) →
 E4 L9 x1 H K))
theorem a7x (x0 : i6) (L9 : (List d7)) (x1 : i4) (g0 : Nat) (O5 : Sl) (T4 : Frag) (a4w : RowL 117 2 p9 O5 L9 T4) {K : i6 → (List d7) → Hp → Prop} (I : Inv w0 ps0 H0 H [bx g0 114 [(vs O5)], T4] w) (hR : ∀ (y0 : i6) (a1E : (List d7)) (W4 : Sl) (W5 : Frag) (H' : Hp) (w' : World) (_ : RowL 117 2 p9 W4 a1E W5) (_ : Inv w0 ps0 H0 H' [bx g0 114 [(vs W4)], W5] w') (_ : K y0 a1E H'), R (Value.tuple #[]) w') (h : V4 x0 L9 x1 H K) : F94 (Value.pointer (some ⟨g0, 0, none⟩)) (Value.agg (d5 x1).toArray) w R E := by
 unfold V4 at h
 unfold F94
 refine M5 I (cs := (d5 x1)) rfl fun g_2 w_3 I_4 k_5 => ?_
 have hj1 : ∀ (a0x : (List d7)) (a3s : Sl) (a3t : Frag) (H : Hp) (w : World) (_ : RowL 117 2 p9 a3s a0x a3t) (_ : Inv w0 ps0 H0 H [bx g0 114 [(vs a3s)], bx g_2 24 (d5 x1), a3t] w) (_ : E4 a0x x1 H K), c6g (Value.pointer (some ⟨g0, 0, none⟩)) (Value.pointer (some ⟨g_2, 0, none⟩)) w R E := by
  intro a0x a3s a3t H w b7u I h
  unfold c6g
  intro _
  unfold E4 at h
  refine a7 a4e ?_
  refine d6 (ld1 Tryd.isAgg22 ((I.bring 1).at1 (o := 3) (vs := [(vs x1.A7)]) (nb rfl) rfl)) ?_
  refine a7 (a2O _ _ _) ?_
  obtain ⟨d8l, c6i, g6g, g6h⟩ := h
  refine M7 (J := fun n l w => ∃ (s : Int × (List d7)) (H : Hp) (a0y : Sl) (a0z : Frag) , n = c6i s ∧ l = (match s with | (O3, G5) => [(vi O3)]) ∧ (match s with | (O3, G5) => RowL 117 2 p9 a0y G5 a0z) ∧ (match s with | (O3, G5) => Inv w0 ps0 H0 H [bx g0 114 [(vs a0y)], bx g_2 24 (d5 x1), a0z] w) ∧ d8l s H) ⟨_, (0, a0x), H, a3s, a3t, rfl, rfl, b7u, (((I.bring 2).bring 2).bring 2), g6g⟩ ?_
  rintro g9v τ_88 w next2 ⟨⟨O3, G5⟩, H, a0y, a0z, rfl, d8m, a5r, I, g6i⟩ hn2
  dsimp only at d8m I a5r
  simp only [List.map_cons, List.map_nil, List.cons.injEq, and_true] at d8m
  have e39 := d8m
  simp only [e39]
  obtain ⟨n2, hm2, h⟩ : ∃ n2 : (Int × (List d7)) → Hp → Prop, (∀ s' H', n2 s' H' → d8l s' H' ∧ c6i s' < c6i (O3, G5)) ∧ S5 x1.A7 (x1.A7.n : Int) x1 O3 G5 H n2 K := ⟨_, fun _ _ h => h, g6h (O3, G5) H (fun s' H' => d8l s' H' ∧ c6i s' < c6i (O3, G5)) g6i (fun _ _ a b => ⟨a, b⟩)⟩
  unfold d3E
  unfold S5 at h
  refine a7 (C5 _ _ _ _ _ _) ?_
  refine j7 (fun b6U => ?_) (fun b6U => ?_)
  ·replace h := h.1 b6U
   obtain ⟨g6j, d5z, b4M, d8n, h⟩ := h
   obtain ⟨g9w, g9x, g6k, d8n⟩ := d8n
   refine a7 (a1D g6k _ _ _ _ g6j d5z) ?_
   refine d6 (ldA (vs := (d5 b4M)) Tryd.isAgg24 Tryd.sizeOf24 rfl (I.atH d8n)) ?_
   refine u6 I Tryd.zeroValue24 (cs := [(vi 0), (vi 0), (eS), (nS)]) rfl fun g6l a7s b4e c8M => ?_
   refine o7 b4e Tryd.sizeOf24 (vs := (d5 b4M)) (cs' := (d5 b4M)) rfl rfl (nb rfl) rfl rfl fun M9 c3O g4n => ?_
   refine d6 (ldA Tryd.isAgg24 Tryd.sizeOf24 rfl (c3O.at1 (o := 0) (vs := (d5 b4M)) (nb rfl) rfl)) ?_
   refine d8 (cap := []) (fun args w => Tryd.call94 args w) ?_
   refine m9 (Fi := [bx g0 114 [(vs a0y)], a0z]) (Fr := [bx g6l 24 (d5 b4M), bx g_2 24 (d5 x1)]) ((c3O.bring 3).bring 2) (h g0 a0y a0z a5r) (fun g9y d8k g9z R5 g6m g9A g9B g6n => ?_) (fun _ _ _ _ _ q => q.elim)
   obtain ⟨g2o, c0R, d8o, d8p, rfl, rfl, d8q, h⟩ := g6n
   refine a7 (J0 _ _ _ _ _ _) ?_
   exact hn2 _ _ _ (hm2 _ _ h).2 ⟨((IntKind.wrap .i64 (O3 + 1)), c0R), d8k, d8o, d8p, rfl, rfl, d8q, ((((g6m.bring 2).drop.bring 1).bring 2).bring 2), (hm2 _ _ h).1⟩
  ·replace h := h.2 b6U
   exact hR (i6.mk (Sl.mk none 0 0)) G5 a0y a0z H _ a5r (((I.bring 1).drop.bring 1).bring 1) h
 refine A8 fun j1 hx1 => ?_
 refine a7 W0 ?_
 refine d6 (ld1 Tryd.isAgg3 (I_4.at1 (o := 0) (vs := [(vi x1.d9)]) (nb rfl) rfl)) ?_
 refine a7 (l0 _ _ _ _ _ _) ?_
 refine j7 (fun d0r => ?_) (fun d0r => ?_)
 ·replace h := h.1 d0r
  refine Z9 I_4 fun w_6 I_7 => ?_
  refine m4 (r5 _) ?_
  refine m4 a0A ?_
  refine m4 a4g ?_
  refine u9 (ld1 Tryd.isAgg112 ((I_7.bring 1).at1 (o := 0) (vs := [(vs O5)]) (nb rfl) rfl)) ?_
  refine u9 (ld1 Tryd.isAgg9 (I_7.at1 (o := 2) (vs := [(Value.string x1.g7)]) (nb rfl) rfl)) ?_
  refine m4 (a4h _ _) ?_
  refine U6 (e := 117) (c := p9) (xs := [(d7.mk x1.g7 1)]) I_7 (b1K _ _) rfl rfl a3v a3w (nb rfl) fun s_9 g9C a1i b4I f9O g6o => ?_
  refine ⟨(g6o _ (I_7.bring 1).lt1), ?_⟩
  obtain ⟨g6p, h⟩ := h
  refine b5c (s := O5) (xs := L9) (f9O.bring 3) a4w (b4I.srcO ((f9O.bring 3).bring 1)) g6p fun d8r g6q a2H d8h a6d b6K => ?_
  refine m4 (r5 _) ?_
  refine m4 a0A ?_
  refine o7 ((a6d.bring 1).drop.bring 2) Tryd.sizeOf112 (vs := [(vs d8r)]) (cs' := [(vs d8r)]) rfl rfl (nb rfl) rfl rfl fun t8 g6r g9D => ?_
  exact hx1 _ _ (hj1 (L9 ++ [(d7.mk x1.g7 1)]) d8r g6q H _ d8h (((g6r.bring 1).bring 2).bring 2) h)
 ·replace h := h.2 d0r
  refine a7 (l0 _ _ _ _ _ _) ?_
  refine j7 (fun d0s => ?_) (fun d0s => ?_)
  ·replace h := h.1 d0s
   refine Z9 I_4 fun b4B a9v => ?_
   refine m4 (r5 _) ?_
   refine m4 a0A ?_
   refine m4 a4g ?_
   refine u9 (ld1 Tryd.isAgg112 ((a9v.bring 1).at1 (o := 0) (vs := [(vs O5)]) (nb rfl) rfl)) ?_
   refine u9 (ld1 Tryd.isAgg9 (a9v.at1 (o := 2) (vs := [(Value.string x1.g7)]) (nb rfl) rfl)) ?_
   refine m4 (a4h _ _) ?_
   refine U6 (e := 117) (c := p9) (xs := [(d7.mk x1.g7 2)]) a9v (b1K _ _) rfl rfl a3v a3w (nb rfl) fun f0P g9E a0K g6s f9P g6t => ?_
   refine ⟨(g6t _ (a9v.bring 1).lt1), ?_⟩
   obtain ⟨g2p, h⟩ := h
   refine b5c (s := O5) (xs := L9) (f9P.bring 3) a4w (g6s.srcO ((f9P.bring 3).bring 1)) g2p fun d0t g2q M6 g2r g2s g6O => ?_
   refine m4 (r5 _) ?_
   refine m4 a0A ?_
   refine o7 ((g2s.bring 1).drop.bring 2) Tryd.sizeOf112 (vs := [(vs d0t)]) (cs' := [(vs d0t)]) rfl rfl (nb rfl) rfl rfl fun c9Z g2t g6P => ?_
   exact hx1 _ _ (hj1 (L9 ++ [(d7.mk x1.g7 2)]) d0t g2q H _ g2r (((g2t.bring 1).bring 2).bring 2) h)
  ·replace h := h.2 d0s
   exact hx1 _ _ (hj1 L9 O5 T4 H _ a4w (((I_4.bring 2).bring 1).bring 2) h)
theorem a7T (x0 : i6) (L9 : (List d7)) (x1 : i4) {H : Hp} {K : i6 → (List d7) → Hp → Prop} (h : V4 x0 L9 x1 H K) : P9 x0 L9 x1 H K := by
 intro g0 O5 T4 a4w w I
 refine f9N ?_
 refine a7x x0 L9 x1 g0 O5 T4 a4w I (fun y0 a1E W4 W5 H' w' b4N I' hk => ⟨H', _, I', y0, a1E, W4, W5, rfl, rfl, b4N, hk⟩) h
def S6 (d9M : Sl) (d9N : Int) (b4L : o8) (a2B : Int) (G5 : (List d7)) (H : Hp) (n2 : (Int × (List d7)) → Hp → Prop) (K : i6 → (List d7) → Hp → Prop) : Prop :=
 (a2B < d9N →
 (0 : Int) ≤ a2B ∧ (a2B : Int) < d9M.n ∧ ∃ b4O : o8, EltH H d9M a2B 4 (g8 b4O) ∧
 V0 (i6.mk (Sl.mk none 0 0)) G5 b4O H (fun (g2u : i6) (c0S : (List d7)) (a4I : Hp) =>
 n2 ((IntKind.wrap .i64 (a2B + 1)), c0S) a4I)) ∧
 (¬ (a2B < d9N) →
 K (i6.mk (Sl.mk none 0 0)) G5 H)
def S7 (F0 : o8) (a0x : (List d7)) (H : Hp) (K : i6 → (List d7) → Hp → Prop) : Prop :=
 TL ((0, a0x) : Int × (List d7)) H fun (s : Int × (List d7)) H n2 => S6 F0.u5 (F0.u5.n : Int) F0 s.1 s.2 H n2 K
def S8 (f9Q : Sl) (d9O : Int) (f9R : o8) (a2C : Int) (a0X : (List d7)) (H : Hp) (n3 : (Int × (List d7)) → Hp → Prop) (K : i6 → (List d7) → Hp → Prop) : Prop :=
 (a2C < d9O →
 (0 : Int) ≤ a2C ∧ (a2C : Int) < f9Q.n ∧ ∃ b0g : i4, EltH H f9Q a2C 4 (d5 b0g) ∧
 P9 (i6.mk (Sl.mk none 0 0)) a0X b0g H (fun (f9S : i6) (b7v : (List d7)) (d0u : Hp) =>
 n3 ((IntKind.wrap .i64 (a2C + 1)), b7v) d0u)) ∧
 (¬ (a2C < d9O) →
 S7 f9R a0X H K)
def V5 (x0 : i6) (L9 : (List d7)) (x1 : o8) (H : Hp) (K : i6 → (List d7) → Hp → Prop) : Prop :=
 TL ((0, L9) : Int × (List d7)) H fun (s : Int × (List d7)) H n3 => S8 x1.m2 (x1.m2.n : Int) x1 s.1 s.2 H n3 K
theorem a7y (x0 : i6) (L9 : (List d7)) (x1 : o8) (g0 : Nat) (O5 : Sl) (T4 : Frag) (a4w : RowL 117 2 p9 O5 L9 T4) {K : i6 → (List d7) → Hp → Prop} (I : Inv w0 ps0 H0 H [bx g0 114 [(vs O5)], T4] w) (hR : ∀ (y0 : i6) (a1E : (List d7)) (W4 : Sl) (W5 : Frag) (H' : Hp) (w' : World) (_ : RowL 117 2 p9 W4 a1E W5) (_ : Inv w0 ps0 H0 H' [bx g0 114 [(vs W4)], W5] w') (_ : K y0 a1E H'), R (Value.tuple #[]) w') (h : V5 x0 L9 x1 H K) : F93 (Value.pointer (some ⟨g0, 0, none⟩)) (Value.agg (g8 x1).toArray) w R E := by
 unfold V5 at h
 unfold F93
 refine M5 I (cs := (g8 x1)) rfl fun g_2 w_3 I_4 k_5 => ?_
 have hj1 : ∀ (a0x : (List d7)) (a3s : Sl) (a3t : Frag) (H : Hp) (w : World) (_ : RowL 117 2 p9 a3s a0x a3t) (_ : Inv w0 ps0 H0 H [bx g_2 27 (g8 x1), bx g0 114 [(vs a3s)], a3t] w) (_ : S7 x1 a0x H K), c6e (Value.pointer (some ⟨g0, 0, none⟩)) (Value.pointer (some ⟨g_2, 0, none⟩)) w R E := by
  intro a0x a3s a3t H w b7u I h
  unfold c6e
  intro _
  unfold S7 at h
  refine a7 a1Y ?_
  refine d6 (ld1 Tryd.isAgg25 (I.at1 (o := 3) (vs := [(vs x1.u5)]) (nb rfl) rfl)) ?_
  refine a7 (a6U _ _ _) ?_
  obtain ⟨d8s, c6j, g6u, g6v⟩ := h
  refine M7 (J := fun n l w => ∃ (s : Int × (List d7)) (H : Hp) (a0y : Sl) (a0z : Frag) , n = c6j s ∧ l = (match s with | (a2B, G5) => [(vi a2B)]) ∧ (match s with | (a2B, G5) => RowL 117 2 p9 a0y G5 a0z) ∧ (match s with | (a2B, G5) => Inv w0 ps0 H0 H [bx g_2 27 (g8 x1), bx g0 114 [(vs a0y)], a0z] w) ∧ d8s s H) ⟨_, (0, a0x), H, a3s, a3t, rfl, rfl, b7u, (((I.bring 2).bring 2).bring 2), g6u⟩ ?_
  rintro g9F τ_93 w next2 ⟨⟨a2B, G5⟩, H, a0y, a0z, rfl, d8t, a5r, I, g6w⟩ hn2
  dsimp only at d8t I a5r
  simp only [List.map_cons, List.map_nil, List.cons.injEq, and_true] at d8t
  have e22 := d8t
  simp only [e22]
  obtain ⟨n2, hm2, h⟩ : ∃ n2 : (Int × (List d7)) → Hp → Prop, (∀ s' H', n2 s' H' → d8s s' H' ∧ c6j s' < c6j (a2B, G5)) ∧ S6 x1.u5 (x1.u5.n : Int) x1 a2B G5 H n2 K := ⟨_, fun _ _ h => h, g6v (a2B, G5) H (fun s' H' => d8s s' H' ∧ c6j s' < c6j (a2B, G5)) g6w (fun _ _ a b => ⟨a, b⟩)⟩
  unfold d3C
  unfold S6 at h
  refine a7 (C5 _ _ _ _ _ _) ?_
  refine j7 (fun a8J => ?_) (fun a8J => ?_)
  ·replace h := h.1 a8J
   obtain ⟨g6x, g6y, b4O, d8u, h⟩ := h
   obtain ⟨g9G, g9H, g6z, d8u⟩ := d8u
   refine a7 (a2R g6z _ _ _ _ g6x g6y) ?_
   refine d6 (ldA (vs := (g8 b4O)) Tryd.isAgg27 Tryd.sizeOf27 rfl (I.atH d8u)) ?_
   refine u6 I Tryd.zeroValue27 (cs := [(vi 0), (vi 0), (nS), (nS)]) rfl fun g6A O1 d8g g9I => ?_
   refine o7 d8g Tryd.sizeOf27 (vs := (g8 b4O)) (cs' := (g8 b4O)) rfl rfl (nb rfl) rfl rfl fun d7S f9T g9J => ?_
   refine d6 (ldA Tryd.isAgg27 Tryd.sizeOf27 rfl (f9T.at1 (o := 0) (vs := (g8 b4O)) (nb rfl) rfl)) ?_
   refine d8 (cap := []) (fun args w => Tryd.call93 args w) ?_
   refine m9 (Fi := [bx g0 114 [(vs a0y)], a0z]) (Fr := [bx g6A 27 (g8 b4O), bx g_2 27 (g8 x1)]) ((f9T.bring 3).bring 3) (h g0 a0y a0z a5r) (fun c8y a4I g4o b2b c0e d4A d4B d4C => ?_) (fun _ _ _ _ _ q => q.elim)
   obtain ⟨g2u, c0S, d8v, d8w, rfl, rfl, d8x, h⟩ := d4C
   refine a7 (J0 _ _ _ _ _ _) ?_
   exact hn2 _ _ _ (hm2 _ _ h).2 ⟨((IntKind.wrap .i64 (a2B + 1)), c0S), a4I, d8v, d8w, rfl, rfl, d8x, ((((c0e.bring 2).drop.bring 1).bring 1).bring 2), (hm2 _ _ h).1⟩
  ·replace h := h.2 a8J
   exact hR (i6.mk (Sl.mk none 0 0)) G5 a0y a0z H _ a5r ((I.drop.bring 1).bring 1) h
 refine A8 fun j1 hx1 => ?_
 refine a7 a5D ?_
 refine d6 (ld1 Tryd.isAgg22 (I_4.at1 (o := 2) (vs := [(vs x1.m2)]) (nb rfl) rfl)) ?_
 refine a7 (a2O _ _ _) ?_
 obtain ⟨d0v, b9m, g2v, g2w⟩ := h
 refine M7 (J := fun n l w => ∃ (s : Int × (List d7)) (H : Hp) (a6F : Sl) (a6G : Frag) , n = b9m s ∧ l = (match s with | (a2C, a0X) => [(vi a2C)]) ∧ (match s with | (a2C, a0X) => RowL 117 2 p9 a6F a0X a6G) ∧ (match s with | (a2C, a0X) => Inv w0 ps0 H0 H [bx g_2 27 (g8 x1), bx g0 114 [(vs a6F)], a6G] w) ∧ d0v s H) ⟨_, (0, L9), H, O5, T4, rfl, rfl, a4w, (((I_4.bring 2).bring 2).bring 2), g2v⟩ ?_
 rintro g6Q τ_135 w next3 ⟨⟨a2C, a0X⟩, H, a6F, a6G, rfl, d0w, b7w, I, g2x⟩ hn3
 dsimp only at d0w I b7w
 simp only [List.map_cons, List.map_nil, List.cons.injEq, and_true] at d0w
 have e11 := d0w
 simp only [e11]
 obtain ⟨n3, hm3, h⟩ : ∃ n3 : (Int × (List d7)) → Hp → Prop, (∀ s' H', n3 s' H' → d0v s' H' ∧ b9m s' < b9m (a2C, a0X)) ∧ S8 x1.m2 (x1.m2.n : Int) x1 a2C a0X H n3 K := ⟨_, fun _ _ h => h, g2w (a2C, a0X) H (fun s' H' => d0v s' H' ∧ b9m s' < b9m (a2C, a0X)) g2x (fun _ _ a b => ⟨a, b⟩)⟩
 unfold d3D
 unfold S8 at h
 refine a7 (C5 _ _ _ _ _ _) ?_
 refine j7 (fun d0x => ?_) (fun d0x => ?_)
 ·replace h := h.1 d0x
  obtain ⟨g2y, g2z, b0g, d0y, h⟩ := h
  obtain ⟨g6R, g6S, g2A, d0y⟩ := d0y
  refine a7 (a1D g2A _ _ _ _ g2y g2z) ?_
  refine d6 (ldA (vs := (d5 b0g)) Tryd.isAgg24 Tryd.sizeOf24 rfl (I.atH d0y)) ?_
  refine u6 I Tryd.zeroValue24 (cs := [(vi 0), (vi 0), (eS), (nS)]) rfl fun g2B T2 g2C g6T => ?_
  refine o7 g2C Tryd.sizeOf24 (vs := (d5 b0g)) (cs' := (d5 b0g)) rfl rfl (nb rfl) rfl rfl fun d0a d9P g6U => ?_
  refine d6 (ldA Tryd.isAgg24 Tryd.sizeOf24 rfl (d9P.at1 (o := 0) (vs := (d5 b0g)) (nb rfl) rfl)) ?_
  refine d8 (cap := []) (fun args w => Tryd.call94 args w) ?_
  refine m9 (Fi := [bx g0 114 [(vs a6F)], a6G]) (Fr := [bx g2B 24 (d5 b0g), bx g_2 27 (g8 x1)]) ((d9P.bring 3).bring 3) (h g0 a6F a6G b7w) (fun g6V d0u g6W g6X g2D g6Y g6Z g2E => ?_) (fun _ _ _ _ _ q => q.elim)
  obtain ⟨f9S, b7v, d3G, d3H, rfl, rfl, d3I, h⟩ := g2E
  refine a7 (J0 _ _ _ _ _ _) ?_
  exact hn3 _ _ _ (hm3 _ _ h).2 ⟨((IntKind.wrap .i64 (a2C + 1)), b7v), d0u, d3G, d3H, rfl, rfl, d3I, ((((g2D.bring 2).drop.bring 1).bring 1).bring 2), (hm3 _ _ h).1⟩
 ·replace h := h.2 d0x
  exact hx1 _ _ (hj1 a0X a6F a6G H _ b7w (((I.bring 2).bring 2).bring 2) h)
theorem a7U (x0 : i6) (L9 : (List d7)) (x1 : o8) {H : Hp} {K : i6 → (List d7) → Hp → Prop} (h : V5 x0 L9 x1 H K) : V0 x0 L9 x1 H K := by
 intro g0 O5 T4 a4w w I
 refine f9v ?_
 refine a7y x0 L9 x1 g0 O5 T4 a4w I (fun y0 a1E W4 W5 H' w' b4N I' hk => ⟨H', _, I', y0, a1E, W4, W5, rfl, rfl, b4N, hk⟩) h
def Q5 (g7a : Sl) (b2y : Int) (g2F : Int) (a6H : (List d7)) (H : Hp) (n1 : (Int × (List d7)) → Hp → Prop) (K : i6 → (List d7) → Hp → Prop) : Prop :=
 n1 ((IntKind.wrap .i64 (g2F + 1)), a6H) H
def Q6 (d9g : Sl) (c8S : Int) (g2G : Int) (a9A : (List d7)) (c6k : p6) (H : Hp) (n1 : (Int × (List d7)) → Hp → Prop) (K : i6 → (List d7) → Hp → Prop) : Prop :=
 O4 (i6.mk (Sl.mk none 0 0)) a9A c6k.K1 H (fun (f9U : i6) (c6l : (List d7)) (d9Q : Hp) =>
 O4 (i6.mk (Sl.mk none 0 0)) c6l c6k.G8 d9Q (fun (f9V : i6) (b7x : (List d7)) (d0z : Hp) =>
 Q5 d9g c8S g2G b7x d0z n1 K))
def Q7 (g2H : Sl) (g2I : Int) (g2J : Int) (d9R : Sl) (d9S : Int) (d8y : p6) (a2D : Int) (a0Y : (List d7)) (H : Hp) (n1 : (Int × (List d7)) → Hp → Prop) (n6 : (Int × (List d7)) → Hp → Prop) (K : i6 → (List d7) → Hp → Prop) : Prop :=
 (a2D < d9S →
 (0 : Int) ≤ a2D ∧ (a2D : Int) < d9R.n ∧ ∃ b0h : i4, EltH H d9R a2D 4 (d5 b0h) ∧
 P9 (i6.mk (Sl.mk none 0 0)) a0Y b0h H (fun (f9W : i6) (b7y : (List d7)) (d0A : Hp) =>
 n6 ((IntKind.wrap .i64 (a2D + 1)), b7y) d0A)) ∧
 (¬ (a2D < d9S) →
 Q6 g2H g2I g2J a0Y d8y H n1 K)
def Q8 (g2K : Sl) (g2L : Int) (g2M : Int) (a6I : (List d7)) (b7z : p6) (H : Hp) (n1 : (Int × (List d7)) → Hp → Prop) (K : i6 → (List d7) → Hp → Prop) : Prop :=
 TL ((0, a6I) : Int × (List d7)) H fun (s : Int × (List d7)) H n6 => Q7 g2K g2L g2M b7z.m2 (b7z.m2.n : Int) b7z s.1 s.2 H n1 n6 K
def Q9 (g2N : Sl) (g2O : Int) (g2P : Int) (d9T : Sl) (d9U : Int) (d8z : p6) (a2E : Int) (a0Z : (List d7)) (H : Hp) (n1 : (Int × (List d7)) → Hp → Prop) (n7 : (Int × (List d7)) → Hp → Prop) (K : i6 → (List d7) → Hp → Prop) : Prop :=
 (a2E < d9U →
 (0 : Int) ≤ a2E ∧ (a2E : Int) < d9T.n ∧ ∃ b0i : o8, EltH H d9T a2E 4 (g8 b0i) ∧
 V0 (i6.mk (Sl.mk none 0 0)) a0Z b0i H (fun (f9X : i6) (b7A : (List d7)) (d0B : Hp) =>
 n7 ((IntKind.wrap .i64 (a2E + 1)), b7A) d0B)) ∧
 (¬ (a2E < d9U) →
 Q8 g2N g2O g2P a0Z d8z H n1 K)
def D4 (g2Q : Sl) (g2R : Int) (g2S : Int) (a6J : (List d7)) (b7B : p6) (H : Hp) (n1 : (Int × (List d7)) → Hp → Prop) (K : i6 → (List d7) → Hp → Prop) : Prop :=
 TL ((0, a6J) : Int × (List d7)) H fun (s : Int × (List d7)) H n7 => Q9 g2Q g2R g2S b7B.s8 (b7B.s8.n : Int) b7B s.1 s.2 H n1 n7 K
def R0 (b9n : Sl) (b9o : Int) (R1 : Int) (M2 : (List d7)) (H : Hp) (n1 : (Int × (List d7)) → Hp → Prop) (K : i6 → (List d7) → Hp → Prop) : Prop :=
 (R1 < b9o →
 (0 : Int) ≤ R1 ∧ (R1 : Int) < b9n.n ∧ ∃ D7 : p6, EltH H b9n R1 6 (i5 D7) ∧
 (D7.d9 = 1 →
 (M2.length + ([(d7.mk D7.g7 1)] : List d7).length) * 25 ≤ 140737488355328 ∧
 D4 b9n b9o R1 (M2 ++ [(d7.mk D7.g7 1)]) D7 H n1 K) ∧
 (¬ (D7.d9 = 1) →
 (D7.d9 = 2 →
 (M2.length + ([(d7.mk D7.g7 2)] : List d7).length) * 25 ≤ 140737488355328 ∧
 D4 b9n b9o R1 (M2 ++ [(d7.mk D7.g7 2)]) D7 H n1 K) ∧
 (¬ (D7.d9 = 2) →
 D4 b9n b9o R1 M2 D7 H n1 K))) ∧
 (¬ (R1 < b9o) →
 K (i6.mk (Sl.mk none 0 0)) M2 H)
def U5 (x0 : i6) (L9 : (List d7)) (x1 : Sl) (H : Hp) (K : i6 → (List d7) → Hp → Prop) : Prop :=
 TL ((0, L9) : Int × (List d7)) H fun (s : Int × (List d7)) H n1 => R0 x1 (x1.n : Int) s.1 s.2 H n1 K
theorem a7h (x0 : i6) (L9 : (List d7)) (x1 : Sl) (g0 : Nat) (O5 : Sl) (T4 : Frag) (a4w : RowL 117 2 p9 O5 L9 T4) {K : i6 → (List d7) → Hp → Prop} (I : Inv w0 ps0 H0 H [bx g0 114 [(vs O5)], T4] w) (hR : ∀ (y0 : i6) (a1E : (List d7)) (W4 : Sl) (W5 : Frag) (H' : Hp) (w' : World) (_ : RowL 117 2 p9 W4 a1E W5) (_ : Inv w0 ps0 H0 H' [bx g0 114 [(vs W4)], W5] w') (_ : K y0 a1E H'), R (Value.tuple #[]) w') (h : U5 x0 L9 x1 H K) : F55 (Value.pointer (some ⟨g0, 0, none⟩)) (vs x1) w R E := by
 unfold U5 at h
 unfold F55
 refine a7 (a5s _ _ _) ?_
 obtain ⟨d0C, b9p, g2T, g2U⟩ := h
 refine M7 (J := fun n l w => ∃ (s : Int × (List d7)) (H : Hp) (a3u : Sl) (a9B : Frag) , n = b9p s ∧ l = (match s with | (R1, M2) => [(vi R1)]) ∧ (match s with | (R1, M2) => RowL 117 2 p9 a3u M2 a9B) ∧ (match s with | (R1, M2) => Inv w0 ps0 H0 H [bx g0 114 [(vs a3u)], a9B] w) ∧ d0C s H) ⟨_, (0, L9), H, O5, T4, rfl, rfl, a4w, ((I.bring 1).bring 1), g2T⟩ ?_
 rintro g7b τ_426 w next1 ⟨⟨R1, M2⟩, H, a3u, a9B, rfl, d0D, a9C, I, g2V⟩ hn1
 dsimp only at d0D I a9C
 simp only [List.map_cons, List.map_nil, List.cons.injEq, and_true] at d0D
 have e12 := d0D
 simp only [e12]
 obtain ⟨n1, hm1, h⟩ : ∃ n1 : (Int × (List d7)) → Hp → Prop, (∀ s' H', n1 s' H' → d0C s' H' ∧ b9p s' < b9p (R1, M2)) ∧ R0 x1 (x1.n : Int) R1 M2 H n1 K := ⟨_, fun _ _ h => h, g2U (R1, M2) H (fun s' H' => d0C s' H' ∧ b9p s' < b9p (R1, M2)) g2V (fun _ _ a b => ⟨a, b⟩)⟩
 unfold d3z
 unfold R0 at h
 refine a7 (C5 _ _ _ _ _ _) ?_
 refine j7 (fun d0E => ?_) (fun d0E => ?_)
 ·replace h := h.1 d0E
  have hj2 : ∀ (a6H : (List d7)) (b2S : Sl) (b2T : Frag) (H : Hp) (w : World) (_ : RowL 117 2 p9 b2S a6H b2T) (_ : Inv w0 ps0 H0 H [bx g0 114 [(vs b2S)], b2T] w) (_ : Q5 x1 (x1.n : Int) R1 a6H H n1 K), c5Z (Value.pointer (some ⟨g0, 0, none⟩)) (vs x1) (vi (x1.n : Int)) (vi R1) w next1 R E := by
   intro a6H b2S b2T H w d8A I h
   unfold c5Z
   intro _
   unfold Q5 at h
   refine a7 (J0 _ _ _ _ _ _) ?_
   exact hn1 _ _ _ (hm1 _ _ h).2 ⟨((IntKind.wrap .i64 (R1 + 1)), a6H), H, b2S, b2T, rfl, rfl, d8A, ((I.bring 1).bring 1), (hm1 _ _ h).1⟩
  refine A8 fun j2 hx2 => ?_
  obtain ⟨g2W, g2X, D7, d0F, h⟩ := h
  obtain ⟨g7c, g7d, g2Y, d0F⟩ := d0F
  refine a7 (b6u g2Y _ _ _ _ g2W g2X) ?_
  refine d6 (ldA (vs := (i5 D7)) Tryd.isAgg63 Tryd.sizeOf63 rfl (I.atH d0F)) ?_
  refine u6 I Tryd.zeroValue63 (cs := [(vi 0), (eS), (nS), (nS), (nS), (nS)]) rfl fun a4Y g7e g2Z g7f => ?_
  refine o7 g2Z Tryd.sizeOf63 (vs := (i5 D7)) (cs' := (i5 D7)) rfl rfl (nb rfl) rfl rfl fun g7g c2d g7h => ?_
  have hj3 : ∀ (a6J : (List d7)) (b2U : Sl) (b2V : Frag) (H : Hp) (w : World) (_ : RowL 117 2 p9 b2U a6J b2V) (_ : Inv w0 ps0 H0 H [bx g0 114 [(vs b2U)], bx a4Y 63 (i5 D7), b2V] w) (_ : D4 x1 (x1.n : Int) R1 a6J D7 H n1 K), c6c (Value.pointer (some ⟨g0, 0, none⟩)) (Value.pointer (some ⟨a4Y, 0, none⟩)) (vs x1) (vi (x1.n : Int)) (vi R1) w j2 R E := by
   intro a6J b2U b2V H w d8B I h
   unfold c6c
   intro _
   unfold D4 at h
   have hj4 : ∀ (a6I : (List d7)) (b2W : Sl) (b2X : Frag) (H : Hp) (w : World) (_ : RowL 117 2 p9 b2W a6I b2X) (_ : Inv w0 ps0 H0 H [bx g0 114 [(vs b2W)], bx a4Y 63 (i5 D7), b2X] w) (_ : Q8 x1 (x1.n : Int) R1 a6I D7 H n1 K), c6b (Value.pointer (some ⟨g0, 0, none⟩)) (Value.pointer (some ⟨a4Y, 0, none⟩)) (vs x1) (vi (x1.n : Int)) (vi R1) w j2 R E := by
    intro a6I b2W b2X H w d8C I h
    unfold c6b
    intro _
    unfold Q8 at h
    have hj5 : ∀ (a9A : (List d7)) (a9D : Sl) (a9E : Frag) (H : Hp) (w : World) (_ : RowL 117 2 p9 a9D a9A a9E) (_ : Inv w0 ps0 H0 H [bx g0 114 [(vs a9D)], bx a4Y 63 (i5 D7), a9E] w) (_ : Q6 x1 (x1.n : Int) R1 a9A D7 H n1 K), c6a (Value.pointer (some ⟨g0, 0, none⟩)) (Value.pointer (some ⟨a4Y, 0, none⟩)) (vs x1) (vi (x1.n : Int)) (vi R1) w j2 R E := by
     intro a9A a9D a9E H w d8D I h
     unfold c6a
     intro _
     unfold Q6 at h
     refine a7 a5H ?_
     refine d6 (ld1 Tryd.isAgg42 ((I.bring 1).at1 (o := 4) (vs := [(vs D7.K1)]) (nb rfl) rfl)) ?_
     refine d8 (cap := []) (fun args w => Tryd.call55 args w) ?_
     refine m9 (Fi := [bx g0 114 [(vs a9D)], a9E]) (Fr := [bx a4Y 63 (i5 D7)]) ((I.bring 2).bring 1) (h g0 a9D a9E d8D) (fun g7i d9Q g7j g7k d9V g7l g7m g3a => ?_) (fun _ _ _ _ _ q => q.elim)
     obtain ⟨f9U, c6l, c1q, c1r, rfl, rfl, d3J, h⟩ := g3a
     refine a7 a5I ?_
     refine d6 (ld1 Tryd.isAgg42 ((d9V.bring 2).at1 (o := 5) (vs := [(vs D7.G8)]) (nb rfl) rfl)) ?_
     refine d8 (cap := []) (fun args w => Tryd.call55 args w) ?_
     refine m9 (Fi := [bx g0 114 [(vs c1q)], c1r]) (Fr := [bx a4Y 63 (i5 D7)]) ((d9V.bring 1).bring 1) (h g0 c1q c1r d3J) (fun g7n d0z g7o g7p g3b g7q g7r g3c => ?_) (fun _ _ _ _ _ q => q.elim)
     obtain ⟨f9V, b7x, d3K, d3L, rfl, rfl, d3M, h⟩ := g3c
     exact hx2 _ _ (hj2 b7x d3K d3L d0z _ d3M (((g3b.bring 2).drop.bring 1).bring 1) h)
    refine A8 fun j5 hx5 => ?_
    refine a7 a5G ?_
    refine d6 (ld1 Tryd.isAgg22 ((I.bring 1).at1 (o := 2) (vs := [(vs D7.m2)]) (nb rfl) rfl)) ?_
    refine a7 (a2O _ _ _) ?_
    obtain ⟨d0G, b9q, g3d, g3e⟩ := h
    refine M7 (J := fun n l w => ∃ (s : Int × (List d7)) (H : Hp) (a6K : Sl) (a6L : Frag) , n = b9q s ∧ l = (match s with | (a2D, a0Y) => [(vi a2D)]) ∧ (match s with | (a2D, a0Y) => RowL 117 2 p9 a6K a0Y a6L) ∧ (match s with | (a2D, a0Y) => Inv w0 ps0 H0 H [bx g0 114 [(vs a6K)], bx a4Y 63 (i5 D7), a6L] w) ∧ d0G s H) ⟨_, (0, a6I), H, b2W, b2X, rfl, rfl, d8C, (((I.bring 2).bring 2).bring 2), g3d⟩ ?_
    rintro g7s τ_354 w next6 ⟨⟨a2D, a0Y⟩, H, a6K, a6L, rfl, d0H, b7C, I, g3f⟩ hn6
    dsimp only at d0H I b7C
    simp only [List.map_cons, List.map_nil, List.cons.injEq, and_true] at d0H
    have e60 := d0H
    simp only [e60]
    obtain ⟨n6, hm6, h⟩ : ∃ n6 : (Int × (List d7)) → Hp → Prop, (∀ s' H', n6 s' H' → d0G s' H' ∧ b9q s' < b9q (a2D, a0Y)) ∧ Q7 x1 (x1.n : Int) R1 D7.m2 (D7.m2.n : Int) D7 a2D a0Y H n1 n6 K := ⟨_, fun _ _ h => h, g3e (a2D, a0Y) H (fun s' H' => d0G s' H' ∧ b9q s' < b9q (a2D, a0Y)) g3f (fun _ _ a b => ⟨a, b⟩)⟩
    unfold d3v
    unfold Q7 at h
    refine a7 (C5 _ _ _ _ _ _) ?_
    refine j7 (fun d0I => ?_) (fun d0I => ?_)
    ·replace h := h.1 d0I
     obtain ⟨g3g, g3h, b0h, d0J, h⟩ := h
     obtain ⟨g7t, g7u, g3i, d0J⟩ := d0J
     refine a7 (a1D g3i _ _ _ _ g3g g3h) ?_
     refine d6 (ldA (vs := (d5 b0h)) Tryd.isAgg24 Tryd.sizeOf24 rfl (I.atH d0J)) ?_
     refine u6 I Tryd.zeroValue24 (cs := [(vi 0), (vi 0), (eS), (nS)]) rfl fun g3j g7v g3k g7w => ?_
     refine o7 g3k Tryd.sizeOf24 (vs := (d5 b0h)) (cs' := (d5 b0h)) rfl rfl (nb rfl) rfl rfl fun g7x d9W g7y => ?_
     refine d6 (ldA Tryd.isAgg24 Tryd.sizeOf24 rfl (d9W.at1 (o := 0) (vs := (d5 b0h)) (nb rfl) rfl)) ?_
     refine d8 (cap := []) (fun args w => Tryd.call94 args w) ?_
     refine m9 (Fi := [bx g0 114 [(vs a6K)], a6L]) (Fr := [bx g3j 24 (d5 b0h), bx a4Y 63 (i5 D7)]) ((d9W.bring 3).bring 2) (h g0 a6K a6L b7C) (fun g7z d0A g7A g7B g3l g7C g7D g3m => ?_) (fun _ _ _ _ _ q => q.elim)
     obtain ⟨f9W, b7y, d3N, d3O, rfl, rfl, d3P, h⟩ := g3m
     refine a7 (J0 _ _ _ _ _ _) ?_
     exact hn6 _ _ _ (hm6 _ _ h).2 ⟨((IntKind.wrap .i64 (a2D + 1)), b7y), d0A, d3N, d3O, rfl, rfl, d3P, ((((g3l.bring 2).drop.bring 1).bring 2).bring 2), (hm6 _ _ h).1⟩
    ·replace h := h.2 d0I
     exact hx5 _ _ (hj5 a0Y a6K a6L H _ b7C (((I.bring 2).bring 2).bring 2) h)
   refine A8 fun j4 hx4 => ?_
   refine a7 a7D ?_
   refine d6 (ld1 Tryd.isAgg25 ((I.bring 1).at1 (o := 3) (vs := [(vs D7.s8)]) (nb rfl) rfl)) ?_
   refine a7 (a6U _ _ _) ?_
   obtain ⟨d0K, b9r, g3n, g3o⟩ := h
   refine M7 (J := fun n l w => ∃ (s : Int × (List d7)) (H : Hp) (a6M : Sl) (a6N : Frag) , n = b9r s ∧ l = (match s with | (a2E, a0Z) => [(vi a2E)]) ∧ (match s with | (a2E, a0Z) => RowL 117 2 p9 a6M a0Z a6N) ∧ (match s with | (a2E, a0Z) => Inv w0 ps0 H0 H [bx g0 114 [(vs a6M)], bx a4Y 63 (i5 D7), a6N] w) ∧ d0K s H) ⟨_, (0, a6J), H, b2U, b2V, rfl, rfl, d8B, (((I.bring 2).bring 2).bring 2), g3n⟩ ?_
   rintro g7E τ_396 w next7 ⟨⟨a2E, a0Z⟩, H, a6M, a6N, rfl, d0L, b7D, I, g3p⟩ hn7
   dsimp only at d0L I b7D
   simp only [List.map_cons, List.map_nil, List.cons.injEq, and_true] at d0L
   have e49 := d0L
   simp only [e49]
   obtain ⟨n7, hm7, h⟩ : ∃ n7 : (Int × (List d7)) → Hp → Prop, (∀ s' H', n7 s' H' → d0K s' H' ∧ b9r s' < b9r (a2E, a0Z)) ∧ Q9 x1 (x1.n : Int) R1 D7.s8 (D7.s8.n : Int) D7 a2E a0Z H n1 n7 K := ⟨_, fun _ _ h => h, g3o (a2E, a0Z) H (fun s' H' => d0K s' H' ∧ b9r s' < b9r (a2E, a0Z)) g3p (fun _ _ a b => ⟨a, b⟩)⟩
   unfold d3x
   unfold Q9 at h
   refine a7 (C5 _ _ _ _ _ _) ?_
   refine j7 (fun d0M => ?_) (fun d0M => ?_)
   ·replace h := h.1 d0M
    obtain ⟨g3q, g3r, b0i, d0N, h⟩ := h
    obtain ⟨g7F, g7G, g3s, d0N⟩ := d0N
    refine a7 (a2R g3s _ _ _ _ g3q g3r) ?_
    refine d6 (ldA (vs := (g8 b0i)) Tryd.isAgg27 Tryd.sizeOf27 rfl (I.atH d0N)) ?_
    refine u6 I Tryd.zeroValue27 (cs := [(vi 0), (vi 0), (nS), (nS)]) rfl fun g3t g7H g3u g7I => ?_
    refine o7 g3u Tryd.sizeOf27 (vs := (g8 b0i)) (cs' := (g8 b0i)) rfl rfl (nb rfl) rfl rfl fun g7J d9X g7K => ?_
    refine d6 (ldA Tryd.isAgg27 Tryd.sizeOf27 rfl (d9X.at1 (o := 0) (vs := (g8 b0i)) (nb rfl) rfl)) ?_
    refine d8 (cap := []) (fun args w => Tryd.call93 args w) ?_
    refine m9 (Fi := [bx g0 114 [(vs a6M)], a6N]) (Fr := [bx g3t 27 (g8 b0i), bx a4Y 63 (i5 D7)]) ((d9X.bring 3).bring 2) (h g0 a6M a6N b7D) (fun g7L d0B g7M g7N g3v g7O g7P g3w => ?_) (fun _ _ _ _ _ q => q.elim)
    obtain ⟨f9X, b7A, d3Q, d3R, rfl, rfl, d3S, h⟩ := g3w
    refine a7 (J0 _ _ _ _ _ _) ?_
    exact hn7 _ _ _ (hm7 _ _ h).2 ⟨((IntKind.wrap .i64 (a2E + 1)), b7A), d0B, d3Q, d3R, rfl, rfl, d3S, ((((g3v.bring 2).drop.bring 1).bring 2).bring 2), (hm7 _ _ h).1⟩
   ·replace h := h.2 d0M
    exact hx4 _ _ (hj4 a0Z a6M a6N H _ b7D (((I.bring 2).bring 2).bring 2) h)
  refine A8 fun j3 hx3 => ?_
  refine a7 a5F ?_
  refine d6 (ld1 Tryd.isAgg3 (c2d.at1 (o := 0) (vs := [(vi D7.d9)]) (nb rfl) rfl)) ?_
  refine a7 (l0 _ _ _ _ _ _) ?_
  refine j7 (fun d0O => ?_) (fun d0O => ?_)
  ·replace h := h.1 d0O
   refine Z9 c2d fun g7Q c2e => ?_
   refine m4 (r5 _) ?_
   refine m4 a0A ?_
   refine m4 a1Z ?_
   refine u9 (ld1 Tryd.isAgg112 ((c2e.bring 1).at1 (o := 0) (vs := [(vs a3u)]) (nb rfl) rfl)) ?_
   refine u9 (ld1 Tryd.isAgg9 (c2e.at1 (o := 1) (vs := [(Value.string D7.g7)]) (nb rfl) rfl)) ?_
   refine m4 (a4h _ _) ?_
   refine U6 (e := 117) (c := p9) (xs := [(d7.mk D7.g7 1)]) c2e (b1K _ _) rfl rfl a3v a3w (nb rfl) fun g7R g7S g7T g3x d9Y g3y => ?_
   refine ⟨(g3y _ (c2e.bring 1).lt1), ?_⟩
   obtain ⟨g3z, h⟩ := h
   refine b5c (s := a3u) (xs := M2) (d9Y.bring 3) a9C (g3x.srcO ((d9Y.bring 3).bring 1)) g3z fun d0P g3A g7U g3B g3C g7V => ?_
   refine m4 (r5 _) ?_
   refine m4 a0A ?_
   refine o7 ((g3C.bring 1).drop.bring 2) Tryd.sizeOf112 (vs := [(vs d0P)]) (cs' := [(vs d0P)]) rfl rfl (nb rfl) rfl rfl fun g7W g3D g7X => ?_
   exact hx3 _ _ (hj3 (M2 ++ [(d7.mk D7.g7 1)]) d0P g3A H _ g3B (((g3D.bring 1).bring 2).bring 2) h)
  ·replace h := h.2 d0O
   refine a7 (l0 _ _ _ _ _ _) ?_
   refine j7 (fun d0Q => ?_) (fun d0Q => ?_)
   ·replace h := h.1 d0Q
    refine Z9 c2d fun g7Y c2f => ?_
    refine m4 (r5 _) ?_
    refine m4 a0A ?_
    refine m4 a1Z ?_
    refine u9 (ld1 Tryd.isAgg112 ((c2f.bring 1).at1 (o := 0) (vs := [(vs a3u)]) (nb rfl) rfl)) ?_
    refine u9 (ld1 Tryd.isAgg9 (c2f.at1 (o := 1) (vs := [(Value.string D7.g7)]) (nb rfl) rfl)) ?_
    refine m4 (a4h _ _) ?_
    refine U6 (e := 117) (c := p9) (xs := [(d7.mk D7.g7 2)]) c2f (b1K _ _) rfl rfl a3v a3w (nb rfl) fun g7Z g8a g8b g3E d9Z g3F => ?_
    refine ⟨(g3F _ (c2f.bring 1).lt1), ?_⟩
    obtain ⟨g3G, h⟩ := h
    refine b5c (s := a3u) (xs := M2) (d9Z.bring 3) a9C (g3E.srcO ((d9Z.bring 3).bring 1)) g3G fun d0R g3H g8c g3I g3J g8d => ?_
    refine m4 (r5 _) ?_
    refine m4 a0A ?_
    refine o7 ((g3J.bring 1).drop.bring 2) Tryd.sizeOf112 (vs := [(vs d0R)]) (cs' := [(vs d0R)]) rfl rfl (nb rfl) rfl rfl fun g8e g3K g8f => ?_
    exact hx3 _ _ (hj3 (M2 ++ [(d7.mk D7.g7 2)]) d0R g3H H _ g3I (((g3K.bring 1).bring 2).bring 2) h)
   ·replace h := h.2 d0Q
    exact hx3 _ _ (hj3 M2 a3u a9B H _ a9C (((c2d.bring 2).bring 1).bring 2) h)
 ·replace h := h.2 d0E
  exact hR (i6.mk (Sl.mk none 0 0)) M2 a3u a9B H _ a9C ((I.bring 1).bring 1) h
theorem a7z (x0 : i6) (L9 : (List d7)) (x1 : Sl) {H : Hp} {K : i6 → (List d7) → Hp → Prop} (h : U5 x0 L9 x1 H K) : O4 x0 L9 x1 H K := by
 intro g0 O5 T4 a4w w I
 refine f9o ?_
 refine a7h x0 L9 x1 g0 O5 T4 a4w I (fun y0 a1E W4 W5 H' w' b4N I' hk => ⟨H', _, I', y0, a1E, W4, W5, rfl, rfl, b4N, hk⟩) h
def U1 (b2J : Int) (c0T : ByteArray) (g3L : (List d7)) (F0 : C4) (H : Hp) (K : ByteArray → Int → Hp → Prop) : Prop :=
 K c0T b2J H
def a0G (g6B : (Option Nat)) (b9s : (List d7)) (b9l : Int) (b4L : C4) (a5n : Int) (a0h : ByteArray) (O3 : Int) (H : Hp) (n2 : (Int × ByteArray × Int) → Hp → Prop) (K : ByteArray → Int → Hp → Prop) : Prop :=
 (O3 < b9l →
 (0 : Int) ≤ O3 ∧ ∃ a2N : d7, (b9s)[(O3 : Int).toNat]? = some a2N ∧
 ∃ b1x : List (ByteArray × Int), MapH H (fun s : ByteArray => Value.string s) (fun n : Int => Value.int .i64 n) g6B b1x ∧
 (((lk a2N.fname b1x).getD 0) = a2N.fas →
 n2 (a5n, a0h, (IntKind.wrap .i64 (O3 + 1))) H) ∧
 (¬ (((lk a2N.fname b1x).getD 0) = a2N.fas) →
 (((lk a2N.fname b1x).getD 0) = 0 →
 U1 63 a2N.fname b9s b4L H K) ∧
 (¬ (((lk a2N.fname b1x).getD 0) = 0) →
 U1 64 a2N.fname b9s b4L H K))) ∧
 (¬ (O3 < b9l) →
 U1 a5n a0h b9s b4L H K)
def a1P (x0 : C4) (H : Hp) (K : ByteArray → Int → Hp → Prop) : Prop :=
 a3H x0 H (fun (a0D : Int) (H_6 : Hp) =>
 (¬ (a0D = 0) →
 K ⟨#[]⟩ a0D H_6) ∧
 (a0D = 0 →
 a4N x0.a4L H_6 (fun (d0S : (Option Nat)) (c2g : ByteArray) (b0j : Int) (d0T : Hp) =>
 (¬ (b0j = 0) →
 K c2g b0j d0T) ∧
 (b0j = 0 →
 O4 (i6.mk (Sl.mk none 0 0)) [] x0.a6O d0T (fun (g3M : i6) (a8h : (List d7)) (b2R : Hp) =>
 TL ((b0j, ⟨#[]⟩, 0) : Int × ByteArray × Int) b2R fun (s : Int × ByteArray × Int) H n2 => a0G d0S a8h (a8h.length : Int) x0 s.1 s.2.1 s.2.2 H n2 K)))))
theorem b2Y (x0 : C4) {K : ByteArray → Int → Hp → Prop} (I : Inv w0 ps0 H0 H [] w) (hR : ∀ (r0 : ByteArray) (r1 : Int) (H' : Hp) (w' : World) (_ : Inv w0 ps0 H0 H' [] w') (_ : K r0 r1 H'), R (Value.tuple #[(Value.string r0), (vi r1)]) w') (h : a1P x0 H K) : F34 (Value.agg (q9 x0).toArray) w R E := by
 unfold a1P at h
 unfold F34
 refine M5 I (cs := (q9 x0)) rfl fun g_2 w_3 I_4 k_5 => ?_
 refine d6 (ldA Tryd.isAgg44 Tryd.sizeOf44 rfl (I_4.at1 (o := 0) (vs := (q9 x0)) (nb rfl) rfl)) ?_
 refine d8 (cap := []) (fun args w => Tryd.call53 args w) ?_
 refine m9 (Fi := []) (Fr := [bx g_2 44 (q9 x0)]) I_4 (h) (fun c8I H_6 c8J w_7 I_8 c8K k_9 b2s => ?_) (fun _ _ _ _ _ q => q.elim)
 obtain ⟨a0D, rfl, rfl, h⟩ := b2s
 refine a7 (a1C _ _ _ _ _ _) ?_
 refine a6i (fun a8I => ?_) (fun a8I => ?_)
 ·replace h := h.1 a8I
  exact hR ⟨#[]⟩ a0D H_6 _ I_8.drop h
 ·replace h := h.2 a8I
  refine a7 a7C ?_
  refine d6 (ld1 Tryd.isAgg41 (I_8.at1 (o := 0) (vs := [(vs x0.a4L)]) (nb rfl) rfl)) ?_
  refine d8 (cap := []) (fun args w => Tryd.call54 args w) ?_
  refine m9 (Fi := []) (Fr := [bx g_2 44 (q9 x0)]) I_8 (h) (fun g9K d0T g9L q8 c0g g9M g4p g6C => ?_) (fun _ _ _ _ _ q => q.elim)
  obtain ⟨d0S, c2g, b0j, rfl, rfl, h⟩ := g6C
  refine a7 (o2 _ _ _ rfl) ?_
  refine a7 (o2 _ _ (Value.string c2g) rfl) ?_
  refine a7 (o2 _ _ (vi b0j) rfl) ?_
  refine a7 (a1C _ _ _ _ _ _) ?_
  refine a6i (fun b6S => ?_) (fun b6S => ?_)
  ·replace h := h.1 b6S
   exact hR c2g b0j d0T _ c0g.drop h
  ·replace h := h.2 b6S
   refine a7 (c7S ) ?_
   refine M5 c0g (cs := [(nS)]) rfl fun d0U A9 b2A g4J => ?_
   refine a7 b1J ?_
   refine d6 (ld1 Tryd.isAgg42 ((b2A.bring 1).at1 (o := 1) (vs := [(vs x0.a6O)]) (nb rfl) rfl)) ?_
   refine d8 (cap := []) (fun args w => Tryd.call55 args w) ?_
   refine m9 (Fi := [bx d0U 114 [(Value.slice (Sl.mk none 0 0).a (Sl.mk none 0 0).n (Sl.mk none 0 0).c)], []]) (Fr := [bx g_2 44 (q9 x0)]) (b2A.nil.bring 1) (h d0U (Sl.mk none 0 0) ([]) (RowL.nil (e := 117) a3v a3w)) (fun g9N b2R g9O c5E f9Y f1d g9P g6D => ?_) (fun _ _ _ _ _ q => q.elim)
   obtain ⟨g3M, a8h, b7E, c6m, rfl, rfl, b2Z, h⟩ := g6D
   have hj1 : ∀ (b2J : Int) (c0T : ByteArray) (H : Hp) (w : World) (_ : Inv w0 ps0 H0 H [bx d0U 114 [(vs b7E)], bx g_2 44 (q9 x0), c6m] w) (_ : U1 b2J c0T a8h x0 H K), c5X (vi b2J) (Value.string c0T) w R E := by
    intro b2J c0T H w I h
    unfold c5X
    intro _
    unfold U1 at h
    exact hR c0T b2J H _ I.drop.drop.drop h
   refine A8 fun j1 hx1 => ?_
   refine a7 (r5 _) ?_
   refine a7 a0A ?_
   refine d6 (ld1 Tryd.isAgg112 (f9Y.at1 (o := 0) (vs := [(vs b7E)]) (nb rfl) rfl)) ?_
   refine a7 (b7N Tryd.underlying112 b2Z) ?_
   obtain ⟨d8E, c6n, g6E, g6F⟩ := h
   refine M7 (J := fun n l w => ∃ (s : Int × ByteArray × Int) (H : Hp) , n = c6n s ∧ l = (match s with | (a5n, a0h, O3) => [(vi a5n), (Value.string a0h), (vi O3)]) ∧ (match s with | (a5n, a0h, O3) => Inv w0 ps0 H0 H [bx d0U 114 [(vs b7E)], bx g_2 44 (q9 x0), c6m] w) ∧ d8E s H) ⟨_, (b0j, ⟨#[]⟩, 0), b2R, rfl, rfl, (((f9Y.bring 1).bring 2).bring 2), g6E⟩ ?_
   rintro g9Q τ_64 w next2 ⟨⟨a5n, a0h, O3⟩, H, rfl, d8F, I, g6G⟩ hn2
   dsimp only at d8F I
   simp only [List.map_cons, List.map_nil, List.cons.injEq, and_true] at d8F
   obtain ⟨e7, e9, e39⟩ := d8F
   simp only [e7, e9, e39]
   obtain ⟨n2, hm2, h⟩ : ∃ n2 : (Int × ByteArray × Int) → Hp → Prop, (∀ s' H', n2 s' H' → d8E s' H' ∧ c6n s' < c6n (a5n, a0h, O3)) ∧ a0G d0S a8h (a8h.length : Int) x0 a5n a0h O3 H n2 K := ⟨_, fun _ _ h => h, g6F (a5n, a0h, O3) H (fun s' H' => d8E s' H' ∧ c6n s' < c6n (a5n, a0h, O3)) g6G (fun _ _ a b => ⟨a, b⟩)⟩
   unfold d3p
   unfold a0G at h
   refine a7 (C5 _ _ _ _ _ _) ?_
   refine j7 (fun d8G => ?_) (fun d8G => ?_)
   ·replace h := h.1 d8G
    obtain ⟨f9Z, a2N, a8K, h⟩ := h
    obtain ⟨g9R, g9S, b0A, f8j⟩ := b2Z.addr a8K
    refine a7 (d1m b0A _ _ _ _ f9Z (b2Z.lt f9Z a8K)) ?_
    refine d6 (ldA (vs := (p9 a2N)) Tryd.isAgg117 Tryd.sizeOf117 rfl (b2Z.atW (I.bring 2) b0A a8K)) ?_
    refine u6 I Tryd.zeroValue117 (cs := [(eS), (vi 0)]) rfl fun g9T L3 c3W f0N => ?_
    refine o7 c3W Tryd.sizeOf117 (vs := (p9 a2N)) (cs' := (p9 a2N)) rfl rfl (nb rfl) rfl rfl fun c0L b0F g9U => ?_
    refine a7 b0o ?_
    refine d6 (ld1 Tryd.isAgg9 (b0F.at1 (o := 0) (vs := [(Value.string a2N.fname)]) (nb rfl) rfl)) ?_
    obtain ⟨b1x, g3N, h⟩ := h
    refine c2y (keyS Tryd.underlying9) Tryd.underlying108 (z := 0) Tryd.zeroValue3 b0F g3N a2N.fname ?_
    refine a7 c6z ?_
    refine d6 (ld1 Tryd.isAgg3 (b0F.at1 (o := 1) (vs := [(vi a2N.fas)]) (nb rfl) rfl)) ?_
    refine a7 (l0 _ _ _ _ _ _) ?_
    refine j7 (fun d8H => ?_) (fun d8H => ?_)
    ·replace h := h.1 d8H
     refine a7 (J0 _ _ _ _ _ _) ?_
     exact hn2 _ _ _ (hm2 _ _ h).2 ⟨(a5n, a0h, (IntKind.wrap .i64 (O3 + 1))), H, rfl, rfl, (((b0F.drop.bring 2).bring 2).bring 2), (hm2 _ _ h).1⟩
    ·replace h := h.2 d8H
     refine a7 (l0 _ _ _ _ _ _) ?_
     refine j7 (fun d8I => ?_) (fun d8I => ?_)
     ·replace h := h.1 d8I
      refine a7 b0o ?_
      refine d6 (ld1 Tryd.isAgg9 (b0F.at1 (o := 0) (vs := [(Value.string a2N.fname)]) (nb rfl) rfl)) ?_
      exact hx1 _ _ (hj1 63 a2N.fname H _ (((b0F.drop.bring 2).bring 2).bring 2) h)
     ·replace h := h.2 d8I
      refine a7 b0o ?_
      refine d6 (ld1 Tryd.isAgg9 (b0F.at1 (o := 0) (vs := [(Value.string a2N.fname)]) (nb rfl) rfl)) ?_
      exact hx1 _ _ (hj1 64 a2N.fname H _ (((b0F.drop.bring 2).bring 2).bring 2) h)
   ·replace h := h.2 d8G
    exact hx1 _ _ (hj1 a5n a0h H _ (((I.bring 2).bring 2).bring 2) h)
theorem b3m (x0 : C4) {H : Hp} {K : ByteArray → Int → Hp → Prop} (h : a1P x0 H K) : a6g x0 H K := by
 intro w I
 refine f8y ?_
 refine b2Y x0 I (fun r0 r1 H' w' I' hk => ⟨H', _, I', r0, r1, rfl, rfl, hk⟩) h
def a2i (x0 : m3) (H : Hp) (K : Int → Hp → Prop) : Prop :=
 (0 < x0.E0 →
 K 2 H) ∧
 (¬ (0 < x0.E0) →
 K 1 H)
theorem b3n (x0 : m3) {K : Int → Hp → Prop} (I : Inv w0 ps0 H0 H [] w) (hR : ∀ (r0 : Int) (H' : Hp) (w' : World) (_ : Inv w0 ps0 H0 H' [] w') (_ : K r0 H'), R (vi r0) w') (h : a2i x0 H K) : F92 (Value.agg (m7 x0).toArray) w R E := by
 unfold a2i at h
 unfold F92
 refine M5 I (cs := (m7 x0)) rfl fun g_2 w_3 I_4 k_5 => ?_
 refine a7 a2S ?_
 refine d6 (ld1 Tryd.isAgg3 (I_4.at1 (o := 1) (vs := [(vi x0.E0)]) (nb rfl) rfl)) ?_
 refine a7 (a1W _ _ _ _ _ _) ?_
 refine j7 (fun c_6 => ?_) (fun c_6 => ?_)
 ·replace h := h.1 c_6
  exact hR 2 H _ I_4.drop h
 ·replace h := h.2 c_6
  exact hR 1 H _ I_4.drop h
theorem b4P (x0 : m3) {H : Hp} {K : Int → Hp → Prop} (h : a2i x0 H K) : a6Z x0 H K := by
 intro w I
 refine f9q ?_
 refine b3n x0 I (fun r0 H' w' I' hk => ⟨H', _, I', r0, rfl, rfl, hk⟩) h
end Go.Proofs.YtnhkdkcgdcgmdaaDoor
