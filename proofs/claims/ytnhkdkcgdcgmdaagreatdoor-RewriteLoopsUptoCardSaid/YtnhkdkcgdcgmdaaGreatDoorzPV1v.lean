/- Typed formulas of the program's functions that few laws need; printed by lift.py off the code. -/
import Derived.Test.YtnhkdkcgdcgmdaaGreatDoorzPV1
import Derived.Test.YtnhkdkcgdcgmdaaGreatDoorzPG1v
namespace Go.Proofs.YtnhkdkcgdcgmdaaGreatDoor
open Go.RowKit
set_option maxRecDepth 100000
set_option maxHeartbeats 2000000
variable {w0 w : World} {ps0 : Nat → Prop} {H0 H : Hp} {R : RT} {E : Pan}
def a0g (e9d : Sl) (c5h : Int) (c0u : b6) (V7 : Int) (P1 : (List g8)) (H : Hp) (n2 : (Int × (List g8)) → Hp → Prop) (K : j8 → (List g8) → Hp → Prop) : Prop :=
 (V7 < c5h →
 (0 : Int) ≤ V7 ∧ (V7 : Int) < e9d.n ∧ ∃ c0v : b6, EltH H e9d V7 4 (b7 c0v) ∧
 X3 (j8.mk (Sl.mk none 0 0)) P1 c0v H (fun (h5A : j8) (c6L : (List g8)) (e7f : Hp) =>
 n2 ((IntKind.wrap .i64 (V7 + 1)), c6L) e7f)) ∧
 (¬ (V7 < c5h) →
 K (j8.mk (Sl.mk none 0 0)) P1 H)
def N5 (a2R : (List g8)) (y6 : b6) (H : Hp) (K : j8 → (List g8) → Hp → Prop) : Prop :=
 TL ((0, a2R) : Int × (List g8)) H fun (s : Int × (List g8)) H n2 => a0g y6.o0 (y6.o0.n : Int) y6 s.1 s.2 H n2 K
def a1i (x0 : j8) (S4 : (List g8)) (x1 : b6) (H : Hp) (K : j8 → (List g8) → Hp → Prop) : Prop :=
 (x1.a8 = 2 →
 (S4.length + ([(g8.mk x1.b8 1)] : List g8).length) * 25 ≤ 140737488355328 ∧
 N5 (S4 ++ [(g8.mk x1.b8 1)]) x1 H K) ∧
 (¬ (x1.a8 = 2) →
 (x1.a8 = 4 →
 (S4.length + ([(g8.mk x1.b8 2)] : List g8).length) * 25 ≤ 140737488355328 ∧
 N5 (S4 ++ [(g8.mk x1.b8 2)]) x1 H K) ∧
 (¬ (x1.a8 = 4) →
 N5 S4 x1 H K))
theorem b1M (x0 : j8) (S4 : (List g8)) (x1 : b6) (g0 : Nat) (W3 : Sl) (a0t : Frag) (a8d : RowL 127 2 u7 W3 S4 a0t) {K : j8 → (List g8) → Hp → Prop} (I : Inv w0 ps0 H0 H [bx g0 125 [(vs W3)], a0t] w) (hR : ∀ (y0 : j8) (a4C : (List g8)) (a1I : Sl) (a1J : Frag) (H' : Hp) (w' : World) (_ : RowL 127 2 u7 a1I a4C a1J) (_ : Inv w0 ps0 H0 H' [bx g0 125 [(vs a1I)], a1J] w') (_ : K y0 a4C H'), R (Value.tuple #[]) w') (h : a1i x0 S4 x1 H K) : d8J (Value.pointer (some ⟨g0, 0, none⟩)) (Value.agg (b7 x1).toArray) w R E := by
 unfold a1i at h
 unfold d8J
 refine M4 I (cs := (b7 x1)) rfl fun g_2 w_3 I_4 k_5 => ?_
 have hj1 : ∀ (a2R : (List g8)) (a6M : Sl) (a6N : Frag) (H : Hp) (w : World) (_ : RowL 127 2 u7 a6M a2R a6N) (_ : Inv w0 ps0 H0 H [bx g0 125 [(vs a6M)], bx g_2 53 (b7 x1), a6N] w) (_ : N5 a2R x1 H K), c6K (Value.pointer (some ⟨g0, 0, none⟩)) (Value.pointer (some ⟨g_2, 0, none⟩)) w R E := by
  intro a2R a6M a6N H w c3h I h
  unfold c6K
  intro _
  unfold N5 at h
  refine a7 K4 ?_
  refine d6 (ld1 Tryz.isAgg51 ((I.bring 1).at1 (o := 3) (vs := [(vs x1.o0)]) (nb rfl) rfl)) ?_
  refine a7 (a1Z _ _ _) ?_
  obtain ⟨e7g, d3x, h9U, h9V⟩ := h
  refine L6 (J := fun n l w => ∃ (s : Int × (List g8)) (H : Hp) (a2S : Sl) (a2T : Frag) , n = d3x s ∧ l = (match s with | (V7, P1) => [(vi V7)]) ∧ (match s with | (V7, P1) => RowL 127 2 u7 a2S P1 a2T) ∧ (match s with | (V7, P1) => Inv w0 ps0 H0 H [bx g0 125 [(vs a2S)], bx g_2 53 (b7 x1), a2T] w) ∧ e7g s H) ⟨_, (0, a2R), H, a6M, a6N, rfl, rfl, c3h, (((I.bring 2).bring 2).bring 2), h9U⟩ ?_
  rintro i5c τ_88 w next2 ⟨⟨V7, P1⟩, H, a2S, a2T, rfl, d7p, a9f, I, h9W⟩ hn2
  dsimp only at d7p I a9f
  simp only [List.map_cons, List.map_nil, List.cons.injEq, and_true] at d7p
  have e39 := d7p
  simp only [e39]
  obtain ⟨n2, hm2, h⟩ : ∃ n2 : (Int × (List g8)) → Hp → Prop, (∀ s' H', n2 s' H' → e7g s' H' ∧ d3x s' < d3x (V7, P1)) ∧ a0g x1.o0 (x1.o0.n : Int) x1 V7 P1 H n2 K := ⟨_, fun _ _ h => h, h9V (V7, P1) H (fun s' H' => e7g s' H' ∧ d3x s' < d3x (V7, P1)) h9W (fun _ _ a b => ⟨a, b⟩)⟩
  unfold d5k
  unfold a0g at h
  refine a7 (C2 _ _ _ _ _ _) ?_
  refine i8 (fun c2y => ?_) (fun c2y => ?_)
  ·replace h := h.1 c2y
   obtain ⟨h9X, e4f, c0v, e7h, h⟩ := h
   obtain ⟨b7T, i5d, h9Y, e7h⟩ := e7h
   refine a7 (M1 h9Y _ _ _ _ h9X e4f) ?_
   refine d6 (ldA (vs := (b7 c0v)) Tryz.isAgg53 Tryz.sizeOf53 rfl (I.atH e7h)) ?_
   refine u1 I Tryz.zeroValue53 (cs := [(vi 0), (vi 0), (eS), (nS)]) rfl fun g5H a6Z b4Y c2i => ?_
   refine l9 b4Y Tryz.sizeOf53 (vs := (b7 c0v)) (cs' := (b7 c0v)) rfl rfl (nb rfl) rfl rfl fun S3 b2S d6f => ?_
   refine d6 (ldA Tryz.isAgg53 Tryz.sizeOf53 rfl (b2S.at1 (o := 0) (vs := (b7 c0v)) (nb rfl) rfl)) ?_
   refine d8 (cap := []) (fun args w => Tryz.call102 args w) ?_
   refine m4 (Fi := [bx g0 125 [(vs a2S)], a2T]) (Fr := [bx g5H 53 (b7 c0v), bx g_2 53 (b7 x1)]) ((b2S.bring 3).bring 2) (h g0 a2S a2T a9f) (fun i5e e7f i5f a0O h9Z i5g i5h i0a => ?_) (fun _ _ _ _ _ q => q.elim)
   obtain ⟨h5A, c6L, e7i, e7j, rfl, rfl, e7k, h⟩ := i0a
   refine a7 (J8 _ _ _ _ _ _) ?_
   exact hn2 _ _ _ (hm2 _ _ h).2 ⟨((IntKind.wrap .i64 (V7 + 1)), c6L), e7f, e7i, e7j, rfl, rfl, e7k, ((((h9Z.bring 2).drop.bring 1).bring 2).bring 2), (hm2 _ _ h).1⟩
  ·replace h := h.2 c2y
   exact hR (j8.mk (Sl.mk none 0 0)) P1 a2S a2T H _ a9f (((I.bring 1).drop.bring 1).bring 1) h
 refine v8 fun j1 hx1 => ?_
 refine a7 Q4 ?_
 refine d6 (ld1 Tryz.isAgg3 (I_4.at1 (o := 0) (vs := [(vi x1.a8)]) (nb rfl) rfl)) ?_
 refine a7 (m5 _ _ _ _ _ _) ?_
 refine i8 (fun d8K => ?_) (fun d8K => ?_)
 ·replace h := h.1 d8K
  refine V0 I_4 fun w_6 I_7 => ?_
  refine l7 (u9 _) ?_
  refine l7 a2X ?_
  refine l7 a7Q ?_
  refine t6 (ld1 Tryz.isAgg123 ((I_7.bring 1).at1 (o := 0) (vs := [(vs W3)]) (nb rfl) rfl)) ?_
  refine t6 (ld1 Tryz.isAgg9 (I_7.at1 (o := 2) (vs := [(Value.string x1.b8)]) (nb rfl) rfl)) ?_
  refine l7 (a7R _ _) ?_
  refine a0m (e := 127) (c := u7) (xs := [(g8.mk x1.b8 1)]) I_7 (b6H _ _) rfl rfl a6P a6Q (nb rfl) fun s_9 i5i R7 a9b a2f b5p => ?_
  refine ⟨(b5p _ (I_7.bring 1).lt1), ?_⟩
  obtain ⟨e5W, h⟩ := h
  refine c0G (s := W3) (xs := S4) (a2f.bring 3) a8d (a9b.srcO ((a2f.bring 3).bring 1)) e5W fun e7l b9Z a0q c2R b2X c6c => ?_
  refine l7 (u9 _) ?_
  refine l7 a2X ?_
  refine l9 ((b2X.bring 1).drop.bring 2) Tryz.sizeOf123 (vs := [(vs e7l)]) (cs' := [(vs e7l)]) rfl rfl (nb rfl) rfl rfl fun u6 i0b i5j => ?_
  exact hx1 _ _ (hj1 (S4 ++ [(g8.mk x1.b8 1)]) e7l b9Z H _ c2R (((i0b.bring 1).bring 2).bring 2) h)
 ·replace h := h.2 d8K
  refine a7 (m5 _ _ _ _ _ _) ?_
  refine i8 (fun d8L => ?_) (fun d8L => ?_)
  ·replace h := h.1 d8L
   refine V0 I_4 fun a8n c6r => ?_
   refine l7 (u9 _) ?_
   refine l7 a2X ?_
   refine l7 a7Q ?_
   refine t6 (ld1 Tryz.isAgg123 ((c6r.bring 1).at1 (o := 0) (vs := [(vs W3)]) (nb rfl) rfl)) ?_
   refine t6 (ld1 Tryz.isAgg9 (c6r.at1 (o := 2) (vs := [(Value.string x1.b8)]) (nb rfl) rfl)) ?_
   refine l7 (a7R _ _) ?_
   refine a0m (e := 127) (c := u7) (xs := [(g8.mk x1.b8 2)]) c6r (b6H _ _) rfl rfl a6P a6Q (nb rfl) fun g0G h9e a5R c2S h2e i0c => ?_
   refine ⟨(i0c _ (c6r.bring 1).lt1), ?_⟩
   obtain ⟨c7O, h⟩ := h
   refine c0G (s := W3) (xs := S4) (h2e.bring 3) a8d (c2S.srcO ((h2e.bring 3).bring 1)) c7O fun d8M h5B Z5 h5C h5D i2a => ?_
   refine l7 (u9 _) ?_
   refine l7 a2X ?_
   refine l9 ((h5D.bring 1).drop.bring 2) Tryz.sizeOf123 (vs := [(vs d8M)]) (cs' := [(vs d8M)]) rfl rfl (nb rfl) rfl rfl fun e8h h5E i2b => ?_
   exact hx1 _ _ (hj1 (S4 ++ [(g8.mk x1.b8 2)]) d8M h5B H _ h5C (((h5E.bring 1).bring 2).bring 2) h)
  ·replace h := h.2 d8L
   exact hx1 _ _ (hj1 S4 W3 a0t H _ a8d (((I_4.bring 2).bring 1).bring 2) h)
theorem b2n (x0 : j8) (S4 : (List g8)) (x1 : b6) {H : Hp} {K : j8 → (List g8) → Hp → Prop} (h : a1i x0 S4 x1 H K) : X3 x0 S4 x1 H K := by
 intro g0 W3 a0t a8d w I
 refine f5I ?_
 refine b1M x0 S4 x1 g0 W3 a0t a8d I (fun y0 a4C a1I a1J H' w' c0w I' hk => ⟨H', _, I', y0, a4C, a1I, a1J, rfl, rfl, c0w, hk⟩) h
def a0h (e9e : Sl) (e9f : Int) (c0u : b9) (a5J : Int) (P1 : (List g8)) (H : Hp) (n2 : (Int × (List g8)) → Hp → Prop) (K : j8 → (List g8) → Hp → Prop) : Prop :=
 (a5J < e9f →
 (0 : Int) ≤ a5J ∧ (a5J : Int) < e9e.n ∧ ∃ c0x : b9, EltH H e9e a5J 4 (d5 c0x) ∧
 a0Z (j8.mk (Sl.mk none 0 0)) P1 c0x H (fun (h5F : j8) (c6M : (List g8)) (a5X : Hp) =>
 n2 ((IntKind.wrap .i64 (a5J + 1)), c6M) a5X)) ∧
 (¬ (a5J < e9f) →
 K (j8.mk (Sl.mk none 0 0)) P1 H)
def a0i (y6 : b9) (a2R : (List g8)) (H : Hp) (K : j8 → (List g8) → Hp → Prop) : Prop :=
 TL ((0, a2R) : Int × (List g8)) H fun (s : Int × (List g8)) H n2 => a0h y6.r7 (y6.r7.n : Int) y6 s.1 s.2 H n2 K
def a0j (h2f : Sl) (e9g : Int) (a9R : b9) (a5K : Int) (a3S : (List g8)) (H : Hp) (n3 : (Int × (List g8)) → Hp → Prop) (K : j8 → (List g8) → Hp → Prop) : Prop :=
 (a5K < e9g →
 (0 : Int) ≤ a5K ∧ (a5K : Int) < h2f.n ∧ ∃ b4G : b6, EltH H h2f a5K 4 (b7 b4G) ∧
 X3 (j8.mk (Sl.mk none 0 0)) a3S b4G H (fun (h2g : j8) (c3i : (List g8)) (d8N : Hp) =>
 n3 ((IntKind.wrap .i64 (a5K + 1)), c3i) d8N)) ∧
 (¬ (a5K < e9g) →
 a0i a9R a3S H K)
def a1j (x0 : j8) (S4 : (List g8)) (x1 : b9) (H : Hp) (K : j8 → (List g8) → Hp → Prop) : Prop :=
 TL ((0, S4) : Int × (List g8)) H fun (s : Int × (List g8)) H n3 => a0j x1.f2 (x1.f2.n : Int) x1 s.1 s.2 H n3 K
theorem b1N (x0 : j8) (S4 : (List g8)) (x1 : b9) (g0 : Nat) (W3 : Sl) (a0t : Frag) (a8d : RowL 127 2 u7 W3 S4 a0t) {K : j8 → (List g8) → Hp → Prop} (I : Inv w0 ps0 H0 H [bx g0 125 [(vs W3)], a0t] w) (hR : ∀ (y0 : j8) (a4C : (List g8)) (a1I : Sl) (a1J : Frag) (H' : Hp) (w' : World) (_ : RowL 127 2 u7 a1I a4C a1J) (_ : Inv w0 ps0 H0 H' [bx g0 125 [(vs a1I)], a1J] w') (_ : K y0 a4C H'), R (Value.tuple #[]) w') (h : a1j x0 S4 x1 H K) : d8I (Value.pointer (some ⟨g0, 0, none⟩)) (Value.agg (d5 x1).toArray) w R E := by
 unfold a1j at h
 unfold d8I
 refine M4 I (cs := (d5 x1)) rfl fun g_2 w_3 I_4 k_5 => ?_
 have hj1 : ∀ (a2R : (List g8)) (a6M : Sl) (a6N : Frag) (H : Hp) (w : World) (_ : RowL 127 2 u7 a6M a2R a6N) (_ : Inv w0 ps0 H0 H [bx g_2 59 (d5 x1), bx g0 125 [(vs a6M)], a6N] w) (_ : a0i x1 a2R H K), c6J (Value.pointer (some ⟨g0, 0, none⟩)) (Value.pointer (some ⟨g_2, 0, none⟩)) w R E := by
  intro a2R a6M a6N H w c3h I h
  unfold c6J
  intro _
  unfold a0i at h
  refine a7 V3 ?_
  refine d6 (ld1 Tryz.isAgg57 (I.at1 (o := 3) (vs := [(vs x1.r7)]) (nb rfl) rfl)) ?_
  refine a7 (a7o _ _ _) ?_
  obtain ⟨e7m, d3y, i0d, i0e⟩ := h
  refine L6 (J := fun n l w => ∃ (s : Int × (List g8)) (H : Hp) (a2S : Sl) (a2T : Frag) , n = d3y s ∧ l = (match s with | (a5J, P1) => [(vi a5J)]) ∧ (match s with | (a5J, P1) => RowL 127 2 u7 a2S P1 a2T) ∧ (match s with | (a5J, P1) => Inv w0 ps0 H0 H [bx g_2 59 (d5 x1), bx g0 125 [(vs a2S)], a2T] w) ∧ e7m s H) ⟨_, (0, a2R), H, a6M, a6N, rfl, rfl, c3h, (((I.bring 2).bring 2).bring 2), i0d⟩ ?_
  rintro i5k τ_93 w next2 ⟨⟨a5J, P1⟩, H, a2S, a2T, rfl, e7n, a9f, I, i0f⟩ hn2
  dsimp only at e7n I a9f
  simp only [List.map_cons, List.map_nil, List.cons.injEq, and_true] at e7n
  have e22 := e7n
  simp only [e22]
  obtain ⟨n2, hm2, h⟩ : ∃ n2 : (Int × (List g8)) → Hp → Prop, (∀ s' H', n2 s' H' → e7m s' H' ∧ d3y s' < d3y (a5J, P1)) ∧ a0h x1.r7 (x1.r7.n : Int) x1 a5J P1 H n2 K := ⟨_, fun _ _ h => h, i0e (a5J, P1) H (fun s' H' => e7m s' H' ∧ d3y s' < d3y (a5J, P1)) i0f (fun _ _ a b => ⟨a, b⟩)⟩
  unfold d5i
  unfold a0h at h
  refine a7 (C2 _ _ _ _ _ _) ?_
  refine i8 (fun b2T => ?_) (fun b2T => ?_)
  ·replace h := h.1 b2T
   obtain ⟨d7m, d7n, c0x, d1R, h⟩ := h
   obtain ⟨i5l, i5m, c6n, d1R⟩ := d1R
   refine a7 (a1B c6n _ _ _ _ d7m d7n) ?_
   refine d6 (ldA (vs := (d5 c0x)) Tryz.isAgg59 Tryz.sizeOf59 rfl (I.atH d1R)) ?_
   refine u1 I Tryz.zeroValue59 (cs := [(vi 0), (vi 0), (nS), (nS)]) rfl fun i0g Z1 i0h i5n => ?_
   refine l9 i0h Tryz.sizeOf59 (vs := (d5 c0x)) (cs' := (d5 c0x)) rfl rfl (nb rfl) rfl rfl fun b9U h2h i5o => ?_
   refine d6 (ldA Tryz.isAgg59 Tryz.sizeOf59 rfl (h2h.at1 (o := 0) (vs := (d5 c0x)) (nb rfl) rfl)) ?_
   refine d8 (cap := []) (fun args w => Tryz.call101 args w) ?_
   refine m4 (Fi := [bx g0 125 [(vs a2S)], a2T]) (Fr := [bx i0g 59 (d5 c0x), bx g_2 59 (d5 x1)]) ((h2h.bring 3).bring 3) (h g0 a2S a2T a9f) (fun c9Y a5X g0y a5Y b9p d6g d6h d0a => ?_) (fun _ _ _ _ _ q => q.elim)
   obtain ⟨h5F, c6M, e7o, e7p, rfl, rfl, e7q, h⟩ := d0a
   refine a7 (J8 _ _ _ _ _ _) ?_
   exact hn2 _ _ _ (hm2 _ _ h).2 ⟨((IntKind.wrap .i64 (a5J + 1)), c6M), a5X, e7o, e7p, rfl, rfl, e7q, ((((b9p.bring 2).drop.bring 1).bring 1).bring 2), (hm2 _ _ h).1⟩
  ·replace h := h.2 b2T
   exact hR (j8.mk (Sl.mk none 0 0)) P1 a2S a2T H _ a9f ((I.drop.bring 1).bring 1) h
 refine v8 fun j1 hx1 => ?_
 refine a7 a1C ?_
 refine d6 (ld1 Tryz.isAgg51 (I_4.at1 (o := 2) (vs := [(vs x1.f2)]) (nb rfl) rfl)) ?_
 refine a7 (a1Z _ _ _) ?_
 obtain ⟨d8O, c5i, h5G, h5H⟩ := h
 refine L6 (J := fun n l w => ∃ (s : Int × (List g8)) (H : Hp) (b0E : Sl) (b0F : Frag) , n = c5i s ∧ l = (match s with | (a5K, a3S) => [(vi a5K)]) ∧ (match s with | (a5K, a3S) => RowL 127 2 u7 b0E a3S b0F) ∧ (match s with | (a5K, a3S) => Inv w0 ps0 H0 H [bx g_2 59 (d5 x1), bx g0 125 [(vs b0E)], b0F] w) ∧ d8O s H) ⟨_, (0, S4), H, W3, a0t, rfl, rfl, a8d, (((I_4.bring 2).bring 2).bring 2), h5G⟩ ?_
 rintro i2c τ_135 w next3 ⟨⟨a5K, a3S⟩, H, b0E, b0F, rfl, c8a, c3j, I, h5I⟩ hn3
 dsimp only at c8a I c3j
 simp only [List.map_cons, List.map_nil, List.cons.injEq, and_true] at c8a
 have e11 := c8a
 simp only [e11]
 obtain ⟨n3, hm3, h⟩ : ∃ n3 : (Int × (List g8)) → Hp → Prop, (∀ s' H', n3 s' H' → d8O s' H' ∧ c5i s' < c5i (a5K, a3S)) ∧ a0j x1.f2 (x1.f2.n : Int) x1 a5K a3S H n3 K := ⟨_, fun _ _ h => h, h5H (a5K, a3S) H (fun s' H' => d8O s' H' ∧ c5i s' < c5i (a5K, a3S)) h5I (fun _ _ a b => ⟨a, b⟩)⟩
 unfold d5j
 unfold a0j at h
 refine a7 (C2 _ _ _ _ _ _) ?_
 refine i8 (fun d8P => ?_) (fun d8P => ?_)
 ·replace h := h.1 d8P
  obtain ⟨h5J, h5K, b4G, c4P, h⟩ := h
  obtain ⟨i2d, i2e, d7J, c4P⟩ := c4P
  refine a7 (M1 d7J _ _ _ _ h5J h5K) ?_
  refine d6 (ldA (vs := (b7 b4G)) Tryz.isAgg53 Tryz.sizeOf53 rfl (I.atH c4P)) ?_
  refine u1 I Tryz.zeroValue53 (cs := [(vi 0), (vi 0), (eS), (nS)]) rfl fun h5L a0X c7Y h3C => ?_
  refine l9 c7Y Tryz.sizeOf53 (vs := (b7 b4G)) (cs' := (b7 b4G)) rfl rfl (nb rfl) rfl rfl fun d7h c4O h3s => ?_
  refine d6 (ldA Tryz.isAgg53 Tryz.sizeOf53 rfl (c4O.at1 (o := 0) (vs := (b7 b4G)) (nb rfl) rfl)) ?_
  refine d8 (cap := []) (fun args w => Tryz.call102 args w) ?_
  refine m4 (Fi := [bx g0 125 [(vs b0E)], b0F]) (Fr := [bx h5L 53 (b7 b4G), bx g_2 59 (d5 x1)]) ((c4O.bring 3).bring 3) (h g0 b0E b0F c3j) (fun i2f d8N i2g b7Z h5M i2h i2i h5N => ?_) (fun _ _ _ _ _ q => q.elim)
  obtain ⟨h2g, c3i, e2T, e2U, rfl, rfl, e2V, h⟩ := h5N
  refine a7 (J8 _ _ _ _ _ _) ?_
  exact hn3 _ _ _ (hm3 _ _ h).2 ⟨((IntKind.wrap .i64 (a5K + 1)), c3i), d8N, e2T, e2U, rfl, rfl, e2V, ((((h5M.bring 2).drop.bring 1).bring 1).bring 2), (hm3 _ _ h).1⟩
 ·replace h := h.2 d8P
  exact hx1 _ _ (hj1 a3S b0E b0F H _ c3j (((I.bring 2).bring 2).bring 2) h)
theorem b2o (x0 : j8) (S4 : (List g8)) (x1 : b9) {H : Hp} {K : j8 → (List g8) → Hp → Prop} (h : a1j x0 S4 x1 H K) : a0Z x0 S4 x1 H K := by
 intro g0 W3 a0t a8d w I
 refine f5G ?_
 refine b1N x0 S4 x1 g0 W3 a0t a8d I (fun y0 a4C a1I a1J H' w' c0w I' hk => ⟨H', _, I', y0, a4C, a1I, a1J, rfl, rfl, c0w, hk⟩) h
def X7 (b7K : Sl) (b7r : Int) (h5O : Int) (b0G : (List g8)) (H : Hp) (n1 : (Int × (List g8)) → Hp → Prop) (K : j8 → (List g8) → Hp → Prop) : Prop :=
 n1 ((IntKind.wrap .i64 (h5O + 1)), b0G) H
def X8 (e7W : Sl) (d6w : Int) (h5P : Int) (b3O : (List g8)) (d3z : d7) (H : Hp) (n1 : (Int × (List g8)) → Hp → Prop) (K : j8 → (List g8) → Hp → Prop) : Prop :=
 W0 (j8.mk (Sl.mk none 0 0)) b3O d3z.E5 H (fun (h2i : j8) (d3A : (List g8)) (e9h : Hp) =>
 W0 (j8.mk (Sl.mk none 0 0)) d3A d3z.B5 e9h (fun (h2j : j8) (c3k : (List g8)) (d8Q : Hp) =>
 X7 e7W d6w h5P c3k d8Q n1 K))
def X9 (h5Q : Sl) (h5R : Int) (h5S : Int) (e9i : Sl) (e9j : Int) (e7r : d7) (a5L : Int) (a3T : (List g8)) (H : Hp) (n1 : (Int × (List g8)) → Hp → Prop) (n6 : (Int × (List g8)) → Hp → Prop) (K : j8 → (List g8) → Hp → Prop) : Prop :=
 (a5L < e9j →
 (0 : Int) ≤ a5L ∧ (a5L : Int) < e9i.n ∧ ∃ b4H : b6, EltH H e9i a5L 4 (b7 b4H) ∧
 X3 (j8.mk (Sl.mk none 0 0)) a3T b4H H (fun (h2k : j8) (c3l : (List g8)) (d8R : Hp) =>
 n6 ((IntKind.wrap .i64 (a5L + 1)), c3l) d8R)) ∧
 (¬ (a5L < e9j) →
 X8 h5Q h5R h5S a3T e7r H n1 K)
def Y0 (h5T : Sl) (d8e : Int) (d8f : Int) (b0H : (List g8)) (c3m : d7) (H : Hp) (n1 : (Int × (List g8)) → Hp → Prop) (K : j8 → (List g8) → Hp → Prop) : Prop :=
 TL ((0, b0H) : Int × (List g8)) H fun (s : Int × (List g8)) H n6 => X9 h5T d8e d8f c3m.f2 (c3m.f2.n : Int) c3m s.1 s.2 H n1 n6 K
def Y1 (h5U : Sl) (h5V : Int) (h5W : Int) (e9k : Sl) (e9l : Int) (e7s : d7) (a5M : Int) (a3U : (List g8)) (H : Hp) (n1 : (Int × (List g8)) → Hp → Prop) (n7 : (Int × (List g8)) → Hp → Prop) (K : j8 → (List g8) → Hp → Prop) : Prop :=
 (a5M < e9l →
 (0 : Int) ≤ a5M ∧ (a5M : Int) < e9k.n ∧ ∃ b4I : b9, EltH H e9k a5M 4 (d5 b4I) ∧
 a0Z (j8.mk (Sl.mk none 0 0)) a3U b4I H (fun (h2l : j8) (c3n : (List g8)) (d8S : Hp) =>
 n7 ((IntKind.wrap .i64 (a5M + 1)), c3n) d8S)) ∧
 (¬ (a5M < e9l) →
 Y0 h5U h5V h5W a3U e7s H n1 K)
def M5 (h5X : Sl) (e8A : Int) (e8B : Int) (b0I : (List g8)) (c3o : d7) (H : Hp) (n1 : (Int × (List g8)) → Hp → Prop) (K : j8 → (List g8) → Hp → Prop) : Prop :=
 TL ((0, b0I) : Int × (List g8)) H fun (s : Int × (List g8)) H n7 => Y1 h5X e8A e8B c3o.j7 (c3o.j7.n : Int) c3o s.1 s.2 H n1 n7 K
def Y2 (c5j : Sl) (c5k : Int) (Y3 : Int) (S7 : (List g8)) (H : Hp) (n1 : (Int × (List g8)) → Hp → Prop) (K : j8 → (List g8) → Hp → Prop) : Prop :=
 (Y3 < c5k →
 (0 : Int) ≤ Y3 ∧ (Y3 : Int) < c5j.n ∧ ∃ M8 : d7, EltH H c5j Y3 6 (g7 M8) ∧
 (M8.a8 = 1 →
 (S7.length + ([(g8.mk M8.b8 1)] : List g8).length) * 25 ≤ 140737488355328 ∧
 M5 c5j c5k Y3 (S7 ++ [(g8.mk M8.b8 1)]) M8 H n1 K) ∧
 (¬ (M8.a8 = 1) →
 (M8.a8 = 2 →
 (S7.length + ([(g8.mk M8.b8 2)] : List g8).length) * 25 ≤ 140737488355328 ∧
 M5 c5j c5k Y3 (S7 ++ [(g8.mk M8.b8 2)]) M8 H n1 K) ∧
 (¬ (M8.a8 = 2) →
 M5 c5j c5k Y3 S7 M8 H n1 K))) ∧
 (¬ (Y3 < c5k) →
 K (j8.mk (Sl.mk none 0 0)) S7 H)
def a0M (x0 : j8) (S4 : (List g8)) (x1 : Sl) (H : Hp) (K : j8 → (List g8) → Hp → Prop) : Prop :=
 TL ((0, S4) : Int × (List g8)) H fun (s : Int × (List g8)) H n1 => Y2 x1 (x1.n : Int) s.1 s.2 H n1 K
theorem b1r (x0 : j8) (S4 : (List g8)) (x1 : Sl) (g0 : Nat) (W3 : Sl) (a0t : Frag) (a8d : RowL 127 2 u7 W3 S4 a0t) {K : j8 → (List g8) → Hp → Prop} (I : Inv w0 ps0 H0 H [bx g0 125 [(vs W3)], a0t] w) (hR : ∀ (y0 : j8) (a4C : (List g8)) (a1I : Sl) (a1J : Frag) (H' : Hp) (w' : World) (_ : RowL 127 2 u7 a1I a4C a1J) (_ : Inv w0 ps0 H0 H' [bx g0 125 [(vs a1I)], a1J] w') (_ : K y0 a4C H'), R (Value.tuple #[]) w') (h : a0M x0 S4 x1 H K) : F58 (Value.pointer (some ⟨g0, 0, none⟩)) (vs x1) w R E := by
 unfold a0M at h
 unfold F58
 refine a7 (a6c _ _ _) ?_
 obtain ⟨d8T, c5l, h5Y, h5Z⟩ := h
 refine L6 (J := fun n l w => ∃ (s : Int × (List g8)) (H : Hp) (a6O : Sl) (b3P : Frag) , n = c5l s ∧ l = (match s with | (Y3, S7) => [(vi Y3)]) ∧ (match s with | (Y3, S7) => RowL 127 2 u7 a6O S7 b3P) ∧ (match s with | (Y3, S7) => Inv w0 ps0 H0 H [bx g0 125 [(vs a6O)], b3P] w) ∧ d8T s H) ⟨_, (0, S4), H, W3, a0t, rfl, rfl, a8d, ((I.bring 1).bring 1), h5Y⟩ ?_
 rintro i2j τ_426 w next1 ⟨⟨Y3, S7⟩, H, a6O, b3P, rfl, d8U, b3Q, I, h6a⟩ hn1
 dsimp only at d8U I b3Q
 simp only [List.map_cons, List.map_nil, List.cons.injEq, and_true] at d8U
 have e12 := d8U
 simp only [e12]
 obtain ⟨n1, hm1, h⟩ : ∃ n1 : (Int × (List g8)) → Hp → Prop, (∀ s' H', n1 s' H' → d8T s' H' ∧ c5l s' < c5l (Y3, S7)) ∧ Y2 x1 (x1.n : Int) Y3 S7 H n1 K := ⟨_, fun _ _ h => h, h5Z (Y3, S7) H (fun s' H' => d8T s' H' ∧ c5l s' < c5l (Y3, S7)) h6a (fun _ _ a b => ⟨a, b⟩)⟩
 unfold e2O
 unfold Y2 at h
 refine a7 (C2 _ _ _ _ _ _) ?_
 refine i8 (fun d8V => ?_) (fun d8V => ?_)
 ·replace h := h.1 d8V
  have hj2 : ∀ (b0G : (List g8)) (b8e : Sl) (b8f : Frag) (H : Hp) (w : World) (_ : RowL 127 2 u7 b8e b0G b8f) (_ : Inv w0 ps0 H0 H [bx g0 125 [(vs b8e)], b8f] w) (_ : X7 x1 (x1.n : Int) Y3 b0G H n1 K), d3q (Value.pointer (some ⟨g0, 0, none⟩)) (vs x1) (vi (x1.n : Int)) (vi Y3) w next1 R E := by
   intro b0G b8e b8f H w e7t I h
   unfold d3q
   intro _
   unfold X7 at h
   refine a7 (J8 _ _ _ _ _ _) ?_
   exact hn1 _ _ _ (hm1 _ _ h).2 ⟨((IntKind.wrap .i64 (Y3 + 1)), b0G), H, b8e, b8f, rfl, rfl, e7t, ((I.bring 1).bring 1), (hm1 _ _ h).1⟩
  refine v8 fun j2 hx2 => ?_
  obtain ⟨d8h, d8i, M8, d8W, h⟩ := h
  obtain ⟨i2k, i2l, h6b, d8W⟩ := d8W
  refine a7 (b2F h6b _ _ _ _ d8h d8i) ?_
  refine d6 (ldA (vs := (g7 M8)) Tryz.isAgg73 Tryz.sizeOf73 rfl (I.atH d8W)) ?_
  refine u1 I Tryz.zeroValue73 (cs := [(vi 0), (eS), (nS), (nS), (nS), (nS)]) rfl fun a8G i2m h6c i2n => ?_
  refine l9 h6c Tryz.sizeOf73 (vs := (g7 M8)) (cs' := (g7 M8)) rfl rfl (nb rfl) rfl rfl fun i2o c8j i2p => ?_
  have hj3 : ∀ (b0I : (List g8)) (b8g : Sl) (b8h : Frag) (H : Hp) (w : World) (_ : RowL 127 2 u7 b8g b0I b8h) (_ : Inv w0 ps0 H0 H [bx g0 125 [(vs b8g)], bx a8G 73 (g7 M8), b8h] w) (_ : M5 x1 (x1.n : Int) Y3 b0I M8 H n1 K), d3t (Value.pointer (some ⟨g0, 0, none⟩)) (Value.pointer (some ⟨a8G, 0, none⟩)) (vs x1) (vi (x1.n : Int)) (vi Y3) w j2 R E := by
   intro b0I b8g b8h H w e7u I h
   unfold d3t
   intro _
   unfold M5 at h
   have hj4 : ∀ (b0H : (List g8)) (b8i : Sl) (b8j : Frag) (H : Hp) (w : World) (_ : RowL 127 2 u7 b8i b0H b8j) (_ : Inv w0 ps0 H0 H [bx g0 125 [(vs b8i)], bx a8G 73 (g7 M8), b8j] w) (_ : Y0 x1 (x1.n : Int) Y3 b0H M8 H n1 K), d3s (Value.pointer (some ⟨g0, 0, none⟩)) (Value.pointer (some ⟨a8G, 0, none⟩)) (vs x1) (vi (x1.n : Int)) (vi Y3) w j2 R E := by
    intro b0H b8i b8j H w e7v I h
    unfold d3s
    intro _
    unfold Y0 at h
    have hj5 : ∀ (b3O : (List g8)) (b3R : Sl) (b3S : Frag) (H : Hp) (w : World) (_ : RowL 127 2 u7 b3R b3O b3S) (_ : Inv w0 ps0 H0 H [bx g0 125 [(vs b3R)], bx a8G 73 (g7 M8), b3S] w) (_ : X8 x1 (x1.n : Int) Y3 b3O M8 H n1 K), d3r (Value.pointer (some ⟨g0, 0, none⟩)) (Value.pointer (some ⟨a8G, 0, none⟩)) (vs x1) (vi (x1.n : Int)) (vi Y3) w j2 R E := by
     intro b3O b3R b3S H w e7w I h
     unfold d3r
     intro _
     unfold X8 at h
     refine a7 a2V ?_
     refine d6 (ld1 Tryz.isAgg23 ((I.bring 1).at1 (o := 4) (vs := [(vs M8.E5)]) (nb rfl) rfl)) ?_
     refine d8 (cap := []) (fun args w => Tryz.call58 args w) ?_
     refine m4 (Fi := [bx g0 125 [(vs b3R)], b3S]) (Fr := [bx a8G 73 (g7 M8)]) ((I.bring 2).bring 1) (h g0 b3R b3S e7w) (fun i2q e9h i2r i2s e9m i2t i2u h6d => ?_) (fun _ _ _ _ _ q => q.elim)
     obtain ⟨h2i, d3A, c7k, c7l, rfl, rfl, e2W, h⟩ := h6d
     refine a7 a3Z ?_
     refine d6 (ld1 Tryz.isAgg23 ((e9m.bring 2).at1 (o := 5) (vs := [(vs M8.B5)]) (nb rfl) rfl)) ?_
     refine d8 (cap := []) (fun args w => Tryz.call58 args w) ?_
     refine m4 (Fi := [bx g0 125 [(vs c7k)], c7l]) (Fr := [bx a8G 73 (g7 M8)]) ((e9m.bring 1).bring 1) (h g0 c7k c7l e2W) (fun i2v d8Q i2w i2x h6e i2y i2z h6f => ?_) (fun _ _ _ _ _ q => q.elim)
     obtain ⟨h2j, c3k, e2X, e2Y, rfl, rfl, e2Z, h⟩ := h6f
     exact hx2 _ _ (hj2 c3k e2X e2Y d8Q _ e2Z (((h6e.bring 2).drop.bring 1).bring 1) h)
    refine v8 fun j5 hx5 => ?_
    refine a7 a6i ?_
    refine d6 (ld1 Tryz.isAgg51 ((I.bring 1).at1 (o := 2) (vs := [(vs M8.f2)]) (nb rfl) rfl)) ?_
    refine a7 (a1Z _ _ _) ?_
    obtain ⟨d8X, c5m, h6g, h6h⟩ := h
    refine L6 (J := fun n l w => ∃ (s : Int × (List g8)) (H : Hp) (b0J : Sl) (b0K : Frag) , n = c5m s ∧ l = (match s with | (a5L, a3T) => [(vi a5L)]) ∧ (match s with | (a5L, a3T) => RowL 127 2 u7 b0J a3T b0K) ∧ (match s with | (a5L, a3T) => Inv w0 ps0 H0 H [bx g0 125 [(vs b0J)], bx a8G 73 (g7 M8), b0K] w) ∧ d8X s H) ⟨_, (0, b0H), H, b8i, b8j, rfl, rfl, e7v, (((I.bring 2).bring 2).bring 2), h6g⟩ ?_
    rintro i2A τ_354 w next6 ⟨⟨a5L, a3T⟩, H, b0J, b0K, rfl, d8Y, c3p, I, h6i⟩ hn6
    dsimp only at d8Y I c3p
    simp only [List.map_cons, List.map_nil, List.cons.injEq, and_true] at d8Y
    have e60 := d8Y
    simp only [e60]
    obtain ⟨n6, hm6, h⟩ : ∃ n6 : (Int × (List g8)) → Hp → Prop, (∀ s' H', n6 s' H' → d8X s' H' ∧ c5m s' < c5m (a5L, a3T)) ∧ X9 x1 (x1.n : Int) Y3 M8.f2 (M8.f2.n : Int) M8 a5L a3T H n1 n6 K := ⟨_, fun _ _ h => h, h6h (a5L, a3T) H (fun s' H' => d8X s' H' ∧ c5m s' < c5m (a5L, a3T)) h6i (fun _ _ a b => ⟨a, b⟩)⟩
    unfold e2K
    unfold X9 at h
    refine a7 (C2 _ _ _ _ _ _) ?_
    refine i8 (fun d8Z => ?_) (fun d8Z => ?_)
    ·replace h := h.1 d8Z
     obtain ⟨h6j, h6k, b4H, d9a, h⟩ := h
     obtain ⟨i2B, i2C, h6l, d9a⟩ := d9a
     refine a7 (M1 h6l _ _ _ _ h6j h6k) ?_
     refine d6 (ldA (vs := (b7 b4H)) Tryz.isAgg53 Tryz.sizeOf53 rfl (I.atH d9a)) ?_
     refine u1 I Tryz.zeroValue53 (cs := [(vi 0), (vi 0), (eS), (nS)]) rfl fun h6m i2D h6n i2E => ?_
     refine l9 h6n Tryz.sizeOf53 (vs := (b7 b4H)) (cs' := (b7 b4H)) rfl rfl (nb rfl) rfl rfl fun i2F e9n i2G => ?_
     refine d6 (ldA Tryz.isAgg53 Tryz.sizeOf53 rfl (e9n.at1 (o := 0) (vs := (b7 b4H)) (nb rfl) rfl)) ?_
     refine d8 (cap := []) (fun args w => Tryz.call102 args w) ?_
     refine m4 (Fi := [bx g0 125 [(vs b0J)], b0K]) (Fr := [bx h6m 53 (b7 b4H), bx a8G 73 (g7 M8)]) ((e9n.bring 3).bring 2) (h g0 b0J b0K c3p) (fun i2H d8R i2I i2J h6o i2K i2L h6p => ?_) (fun _ _ _ _ _ q => q.elim)
     obtain ⟨h2k, c3l, e3a, e3b, rfl, rfl, e3c, h⟩ := h6p
     refine a7 (J8 _ _ _ _ _ _) ?_
     exact hn6 _ _ _ (hm6 _ _ h).2 ⟨((IntKind.wrap .i64 (a5L + 1)), c3l), d8R, e3a, e3b, rfl, rfl, e3c, ((((h6o.bring 2).drop.bring 1).bring 2).bring 2), (hm6 _ _ h).1⟩
    ·replace h := h.2 d8Z
     exact hx5 _ _ (hj5 a3T b0J b0K H _ c3p (((I.bring 2).bring 2).bring 2) h)
   refine v8 fun j4 hx4 => ?_
   refine a7 a6h ?_
   refine d6 (ld1 Tryz.isAgg57 ((I.bring 1).at1 (o := 3) (vs := [(vs M8.j7)]) (nb rfl) rfl)) ?_
   refine a7 (a7o _ _ _) ?_
   obtain ⟨d9b, c5n, h6q, h6r⟩ := h
   refine L6 (J := fun n l w => ∃ (s : Int × (List g8)) (H : Hp) (b0L : Sl) (b0M : Frag) , n = c5n s ∧ l = (match s with | (a5M, a3U) => [(vi a5M)]) ∧ (match s with | (a5M, a3U) => RowL 127 2 u7 b0L a3U b0M) ∧ (match s with | (a5M, a3U) => Inv w0 ps0 H0 H [bx g0 125 [(vs b0L)], bx a8G 73 (g7 M8), b0M] w) ∧ d9b s H) ⟨_, (0, b0I), H, b8g, b8h, rfl, rfl, e7u, (((I.bring 2).bring 2).bring 2), h6q⟩ ?_
   rintro i2M τ_396 w next7 ⟨⟨a5M, a3U⟩, H, b0L, b0M, rfl, d9c, c3q, I, h6s⟩ hn7
   dsimp only at d9c I c3q
   simp only [List.map_cons, List.map_nil, List.cons.injEq, and_true] at d9c
   have e49 := d9c
   simp only [e49]
   obtain ⟨n7, hm7, h⟩ : ∃ n7 : (Int × (List g8)) → Hp → Prop, (∀ s' H', n7 s' H' → d9b s' H' ∧ c5n s' < c5n (a5M, a3U)) ∧ Y1 x1 (x1.n : Int) Y3 M8.j7 (M8.j7.n : Int) M8 a5M a3U H n1 n7 K := ⟨_, fun _ _ h => h, h6r (a5M, a3U) H (fun s' H' => d9b s' H' ∧ c5n s' < c5n (a5M, a3U)) h6s (fun _ _ a b => ⟨a, b⟩)⟩
   unfold e2M
   unfold Y1 at h
   refine a7 (C2 _ _ _ _ _ _) ?_
   refine i8 (fun d9d => ?_) (fun d9d => ?_)
   ·replace h := h.1 d9d
    obtain ⟨h6t, h6u, b4I, d9e, h⟩ := h
    obtain ⟨i2N, i2O, h6v, d9e⟩ := d9e
    refine a7 (a1B h6v _ _ _ _ h6t h6u) ?_
    refine d6 (ldA (vs := (d5 b4I)) Tryz.isAgg59 Tryz.sizeOf59 rfl (I.atH d9e)) ?_
    refine u1 I Tryz.zeroValue59 (cs := [(vi 0), (vi 0), (nS), (nS)]) rfl fun h6w i2P h6x i2Q => ?_
    refine l9 h6x Tryz.sizeOf59 (vs := (d5 b4I)) (cs' := (d5 b4I)) rfl rfl (nb rfl) rfl rfl fun i2R e9o i2S => ?_
    refine d6 (ldA Tryz.isAgg59 Tryz.sizeOf59 rfl (e9o.at1 (o := 0) (vs := (d5 b4I)) (nb rfl) rfl)) ?_
    refine d8 (cap := []) (fun args w => Tryz.call101 args w) ?_
    refine m4 (Fi := [bx g0 125 [(vs b0L)], b0M]) (Fr := [bx h6w 59 (d5 b4I), bx a8G 73 (g7 M8)]) ((e9o.bring 3).bring 2) (h g0 b0L b0M c3q) (fun i2T d8S i2U i2V h6y i2W i2X h6z => ?_) (fun _ _ _ _ _ q => q.elim)
    obtain ⟨h2l, c3n, e3d, e3e, rfl, rfl, e3f, h⟩ := h6z
    refine a7 (J8 _ _ _ _ _ _) ?_
    exact hn7 _ _ _ (hm7 _ _ h).2 ⟨((IntKind.wrap .i64 (a5M + 1)), c3n), d8S, e3d, e3e, rfl, rfl, e3f, ((((h6y.bring 2).drop.bring 1).bring 2).bring 2), (hm7 _ _ h).1⟩
   ·replace h := h.2 d9d
    exact hx4 _ _ (hj4 a3U b0L b0M H _ c3q (((I.bring 2).bring 2).bring 2) h)
  refine v8 fun j3 hx3 => ?_
  refine a7 a7P ?_
  refine d6 (ld1 Tryz.isAgg3 (c8j.at1 (o := 0) (vs := [(vi M8.a8)]) (nb rfl) rfl)) ?_
  refine a7 (m5 _ _ _ _ _ _) ?_
  refine i8 (fun d9f => ?_) (fun d9f => ?_)
  ·replace h := h.1 d9f
   refine V0 c8j fun i2Y c8k => ?_
   refine l7 (u9 _) ?_
   refine l7 a2X ?_
   refine l7 a4X ?_
   refine t6 (ld1 Tryz.isAgg123 ((c8k.bring 1).at1 (o := 0) (vs := [(vs a6O)]) (nb rfl) rfl)) ?_
   refine t6 (ld1 Tryz.isAgg9 (c8k.at1 (o := 1) (vs := [(Value.string M8.b8)]) (nb rfl) rfl)) ?_
   refine l7 (a7R _ _) ?_
   refine a0m (e := 127) (c := u7) (xs := [(g8.mk M8.b8 1)]) c8k (b6H _ _) rfl rfl a6P a6Q (nb rfl) fun i2Z i3a i3b h6A e9p h6B => ?_
   refine ⟨(h6B _ (c8k.bring 1).lt1), ?_⟩
   obtain ⟨h6C, h⟩ := h
   refine c0G (s := a6O) (xs := S7) (e9p.bring 3) b3Q (h6A.srcO ((e9p.bring 3).bring 1)) h6C fun d9g h6D i3c h6E h6F i3d => ?_
   refine l7 (u9 _) ?_
   refine l7 a2X ?_
   refine l9 ((h6F.bring 1).drop.bring 2) Tryz.sizeOf123 (vs := [(vs d9g)]) (cs' := [(vs d9g)]) rfl rfl (nb rfl) rfl rfl fun i3e h6G i3f => ?_
   exact hx3 _ _ (hj3 (S7 ++ [(g8.mk M8.b8 1)]) d9g h6D H _ h6E (((h6G.bring 1).bring 2).bring 2) h)
  ·replace h := h.2 d9f
   refine a7 (m5 _ _ _ _ _ _) ?_
   refine i8 (fun d9h => ?_) (fun d9h => ?_)
   ·replace h := h.1 d9h
    refine V0 c8j fun i3g c8l => ?_
    refine l7 (u9 _) ?_
    refine l7 a2X ?_
    refine l7 a4X ?_
    refine t6 (ld1 Tryz.isAgg123 ((c8l.bring 1).at1 (o := 0) (vs := [(vs a6O)]) (nb rfl) rfl)) ?_
    refine t6 (ld1 Tryz.isAgg9 (c8l.at1 (o := 1) (vs := [(Value.string M8.b8)]) (nb rfl) rfl)) ?_
    refine l7 (a7R _ _) ?_
    refine a0m (e := 127) (c := u7) (xs := [(g8.mk M8.b8 2)]) c8l (b6H _ _) rfl rfl a6P a6Q (nb rfl) fun i3h i3i i3j h6H e9q h6I => ?_
    refine ⟨(h6I _ (c8l.bring 1).lt1), ?_⟩
    obtain ⟨h6J, h⟩ := h
    refine c0G (s := a6O) (xs := S7) (e9q.bring 3) b3Q (h6H.srcO ((e9q.bring 3).bring 1)) h6J fun d9i h6K i3k h6L h6M i3l => ?_
    refine l7 (u9 _) ?_
    refine l7 a2X ?_
    refine l9 ((h6M.bring 1).drop.bring 2) Tryz.sizeOf123 (vs := [(vs d9i)]) (cs' := [(vs d9i)]) rfl rfl (nb rfl) rfl rfl fun i3m h6N i3n => ?_
    exact hx3 _ _ (hj3 (S7 ++ [(g8.mk M8.b8 2)]) d9i h6K H _ h6L (((h6N.bring 1).bring 2).bring 2) h)
   ·replace h := h.2 d9h
    exact hx3 _ _ (hj3 S7 a6O b3P H _ b3Q (((c8j.bring 2).bring 1).bring 2) h)
 ·replace h := h.2 d8V
  exact hR (j8.mk (Sl.mk none 0 0)) S7 a6O b3P H _ b3Q ((I.bring 1).bring 1) h
theorem b1O (x0 : j8) (S4 : (List g8)) (x1 : Sl) {H : Hp} {K : j8 → (List g8) → Hp → Prop} (h : a0M x0 S4 x1 H K) : W0 x0 S4 x1 H K := by
 intro g0 W3 a0t a8d w I
 refine h1D ?_
 refine b1r x0 S4 x1 g0 W3 a0t a8d I (fun y0 a4C a1I a1J H' w' c0w I' hk => ⟨H', _, I', y0, a4C, a1I, a1J, rfl, rfl, c0w, hk⟩) h
def a0D (b7y : Int) (c6N : ByteArray) (h6O : (List g8)) (y6 : o9) (H : Hp) (K : ByteArray → Int → Hp → Prop) : Prop :=
 K c6N b7y H
def a3p (a7J : (Option Nat)) (c5o : (List g8)) (c5h : Int) (c0u : o9) (a8W : Int) (T4 : ByteArray) (V7 : Int) (H : Hp) (n2 : (Int × ByteArray × Int) → Hp → Prop) (K : ByteArray → Int → Hp → Prop) : Prop :=
 (V7 < c5h →
 (0 : Int) ≤ V7 ∧ ∃ a3R : g8, (c5o)[(V7 : Int).toNat]? = some a3R ∧
 ∃ b6x : List (ByteArray × Int), MapH H (fun s : ByteArray => Value.string s) (fun n : Int => Value.int .i64 n) a7J b6x ∧
 (((lk a3R.fname b6x).getD 0) = a3R.fas →
 n2 (a8W, T4, (IntKind.wrap .i64 (V7 + 1))) H) ∧
 (¬ (((lk a3R.fname b6x).getD 0) = a3R.fas) →
 (((lk a3R.fname b6x).getD 0) = 0 →
 a0D 63 a3R.fname c5o c0u H K) ∧
 (¬ (((lk a3R.fname b6x).getD 0) = 0) →
 a0D 64 a3R.fname c5o c0u H K))) ∧
 (¬ (V7 < c5h) →
 a0D a8W T4 c5o c0u H K)
def a4L (x0 : o9) (H : Hp) (K : ByteArray → Int → Hp → Prop) : Prop :=
 a2w x0 H (fun (W4 : Int) (H_6 : Hp) =>
 (¬ (W4 = 0) →
 K ⟨#[]⟩ W4 H_6) ∧
 (W4 = 0 →
 a8t x0.a3s H_6 (fun (a8b : (Option Nat)) (b2l : ByteArray) (b4J : Int) (c3e : Hp) =>
 (¬ (b4J = 0) →
 K b2l b4J c3e) ∧
 (b4J = 0 →
 W0 (j8.mk (Sl.mk none 0 0)) [] x0.a5w c3e (fun (h6P : j8) (b2A : (List g8)) (e7x : Hp) =>
 TL ((b4J, ⟨#[]⟩, 0) : Int × ByteArray × Int) e7x fun (s : Int × ByteArray × Int) H n2 => a3p a8b b2A (b2A.length : Int) x0 s.1 s.2.1 s.2.2 H n2 K)))))
theorem b8k (x0 : o9) {K : ByteArray → Int → Hp → Prop} (I : Inv w0 ps0 H0 H [] w) (hR : ∀ (r0 : ByteArray) (r1 : Int) (H' : Hp) (w' : World) (_ : Inv w0 ps0 H0 H' [] w') (_ : K r0 r1 H'), R (Value.tuple #[(Value.string r0), (vi r1)]) w') (h : a4L x0 H K) : F33 (Value.agg (m9 x0).toArray) w R E := by
 unfold a4L at h
 unfold F33
 refine M4 I (cs := (m9 x0)) rfl fun g_2 w_3 I_4 k_5 => ?_
 refine d6 (ldA Tryz.isAgg25 Tryz.sizeOf25 rfl (I_4.at1 (o := 0) (vs := (m9 x0)) (nb rfl) rfl)) ?_
 refine d8 (cap := []) (fun args w => Tryz.call24 args w) ?_
 refine m4 (Fi := []) (Fr := [bx g_2 25 (m9 x0)]) I_4 (h) (fun c5Y H_6 c5Z w_7 I_8 c6a k_9 b0g => ?_) (fun _ _ _ _ _ q => q.elim)
 obtain ⟨W4, rfl, rfl, h⟩ := b0g
 refine a7 (T0 _ _ _ _ _ _) ?_
 refine a2C (fun b2R => ?_) (fun b2R => ?_)
 ·replace h := h.1 b2R
  exact hR ⟨#[]⟩ W4 H_6 _ I_8.drop h
 ·replace h := h.2 b2R
  refine a7 a7O ?_
  refine d6 (ld1 Tryz.isAgg22 (I_8.at1 (o := 0) (vs := [(vs x0.a3s)]) (nb rfl) rfl)) ?_
  refine d8 (cap := []) (fun args w => Tryz.call57 args w) ?_
  refine m4 (Fi := []) (Fr := [bx g_2 25 (m9 x0)]) I_8 (h) (fun h9O c3e h9P r5 a9K h9Q g0M e7a => ?_) (fun _ _ _ _ _ q => q.elim)
  obtain ⟨a8b, b2l, b4J, rfl, rfl, h⟩ := e7a
  refine a7 (m2 _ _ _ rfl) ?_
  refine a7 (m2 _ _ (Value.string b2l) rfl) ?_
  refine a7 (m2 _ _ (vi b4J) rfl) ?_
  refine a7 (T0 _ _ _ _ _ _) ?_
  refine a2C (fun c2v => ?_) (fun c2v => ?_)
  ·replace h := h.1 c2v
   exact hR b2l b4J c3e _ a9K.drop h
  ·replace h := h.2 c2v
   refine a7 (d5x ) ?_
   refine M4 a9K (cs := [(nS)]) rfl fun b8d y7 a7E d6v => ?_
   refine a7 a9o ?_
   refine d6 (ld1 Tryz.isAgg23 ((a7E.bring 1).at1 (o := 1) (vs := [(vs x0.a5w)]) (nb rfl) rfl)) ?_
   refine d8 (cap := []) (fun args w => Tryz.call58 args w) ?_
   refine m4 (Fi := [bx b8d 125 [(Value.slice (Sl.mk none 0 0).a (Sl.mk none 0 0).n (Sl.mk none 0 0).c)], []]) (Fr := [bx g_2 25 (m9 x0)]) (a7E.nil.bring 1) (h b8d (Sl.mk none 0 0) ([]) (RowL.nil (e := 127) a6P a6Q)) (fun i5p e7x i5q a8o c0b g0V e5w i0i => ?_) (fun _ _ _ _ _ q => q.elim)
   obtain ⟨h6P, b2A, c3r, d3B, rfl, rfl, b8l, h⟩ := i0i
   have hj1 : ∀ (b7y : Int) (c6N : ByteArray) (H : Hp) (w : World) (_ : Inv w0 ps0 H0 H [bx b8d 125 [(vs c3r)], bx g_2 25 (m9 x0), d3B] w) (_ : a0D b7y c6N b2A x0 H K), d3o (vi b7y) (Value.string c6N) w R E := by
    intro b7y c6N H w I h
    unfold d3o
    intro _
    unfold a0D at h
    exact hR c6N b7y H _ I.drop.drop.drop h
   refine v8 fun j1 hx1 => ?_
   refine a7 (u9 _) ?_
   refine a7 a2X ?_
   refine d6 (ld1 Tryz.isAgg123 (c0b.at1 (o := 0) (vs := [(vs c3r)]) (nb rfl) rfl)) ?_
   refine a7 (c3z Tryz.underlying123 b8l) ?_
   obtain ⟨e7y, d3C, i0j, i0k⟩ := h
   refine L6 (J := fun n l w => ∃ (s : Int × ByteArray × Int) (H : Hp) , n = d3C s ∧ l = (match s with | (a8W, T4, V7) => [(vi a8W), (Value.string T4), (vi V7)]) ∧ (match s with | (a8W, T4, V7) => Inv w0 ps0 H0 H [bx b8d 125 [(vs c3r)], bx g_2 25 (m9 x0), d3B] w) ∧ e7y s H) ⟨_, (b4J, ⟨#[]⟩, 0), e7x, rfl, rfl, (((c0b.bring 1).bring 2).bring 2), i0j⟩ ?_
   rintro i5r τ_64 w next2 ⟨⟨a8W, T4, V7⟩, H, rfl, e7z, I, i0l⟩ hn2
   dsimp only at e7z I
   simp only [List.map_cons, List.map_nil, List.cons.injEq, and_true] at e7z
   obtain ⟨e7, e9, e39⟩ := e7z
   simp only [e7, e9, e39]
   obtain ⟨n2, hm2, h⟩ : ∃ n2 : (Int × ByteArray × Int) → Hp → Prop, (∀ s' H', n2 s' H' → e7y s' H' ∧ d3C s' < d3C (a8W, T4, V7)) ∧ a3p a8b b2A (b2A.length : Int) x0 a8W T4 V7 H n2 K := ⟨_, fun _ _ h => h, i0k (a8W, T4, V7) H (fun s' H' => e7y s' H' ∧ d3C s' < d3C (a8W, T4, V7)) i0l (fun _ _ a b => ⟨a, b⟩)⟩
   unfold e2F
   unfold a3p at h
   refine a7 (C2 _ _ _ _ _ _) ?_
   refine i8 (fun e7A => ?_) (fun e7A => ?_)
   ·replace h := h.1 e7A
    obtain ⟨b7L, a3R, a1l, h⟩ := h
    obtain ⟨h9F, i5s, a3B, d8F⟩ := b8l.addr a1l
    refine a7 (d9G a3B _ _ _ _ b7L (b8l.lt b7L a1l)) ?_
    refine d6 (ldA (vs := (u7 a3R)) Tryz.isAgg127 Tryz.sizeOf127 rfl (b8l.atW (I.bring 2) a3B a1l)) ?_
    refine u1 I Tryz.zeroValue127 (cs := [(eS), (vi 0)]) rfl fun h9J O1 d0r g0J => ?_
    refine l9 d0r Tryz.sizeOf127 (vs := (u7 a3R)) (cs' := (u7 a3R)) rfl rfl (nb rfl) rfl rfl fun a8Z b5d i5t => ?_
    refine a7 b4M ?_
    refine d6 (ld1 Tryz.isAgg9 (b5d.at1 (o := 0) (vs := [(Value.string a3R.fname)]) (nb rfl) rfl)) ?_
    obtain ⟨b6x, h6Q, h⟩ := h
    refine c8E (keyS Tryz.underlying9) Tryz.underlying119 (z := 0) Tryz.zeroValue3 b5d h6Q a3R.fname ?_
    refine a7 d3P ?_
    refine d6 (ld1 Tryz.isAgg3 (b5d.at1 (o := 1) (vs := [(vi a3R.fas)]) (nb rfl) rfl)) ?_
    refine a7 (m5 _ _ _ _ _ _) ?_
    refine i8 (fun e7B => ?_) (fun e7B => ?_)
    ·replace h := h.1 e7B
     refine a7 (J8 _ _ _ _ _ _) ?_
     exact hn2 _ _ _ (hm2 _ _ h).2 ⟨(a8W, T4, (IntKind.wrap .i64 (V7 + 1))), H, rfl, rfl, (((b5d.drop.bring 2).bring 2).bring 2), (hm2 _ _ h).1⟩
    ·replace h := h.2 e7B
     refine a7 (m5 _ _ _ _ _ _) ?_
     refine i8 (fun e7C => ?_) (fun e7C => ?_)
     ·replace h := h.1 e7C
      refine a7 b4M ?_
      refine d6 (ld1 Tryz.isAgg9 (b5d.at1 (o := 0) (vs := [(Value.string a3R.fname)]) (nb rfl) rfl)) ?_
      exact hx1 _ _ (hj1 63 a3R.fname H _ (((b5d.drop.bring 2).bring 2).bring 2) h)
     ·replace h := h.2 e7C
      refine a7 b4M ?_
      refine d6 (ld1 Tryz.isAgg9 (b5d.at1 (o := 0) (vs := [(Value.string a3R.fname)]) (nb rfl) rfl)) ?_
      exact hx1 _ _ (hj1 64 a3R.fname H _ (((b5d.drop.bring 2).bring 2).bring 2) h)
   ·replace h := h.2 e7A
    exact hx1 _ _ (hj1 a8W T4 H _ (((I.bring 2).bring 2).bring 2) h)
theorem b8x (x0 : o9) {H : Hp} {K : ByteArray → Int → Hp → Prop} (h : a4L x0 H K) : a9X x0 H K := by
 intro w I
 refine h0S ?_
 refine b8k x0 I (fun r0 r1 H' w' I' hk => ⟨H', _, I', r0, r1, rfl, rfl, hk⟩) h
def a5l (x0 : p5) (H : Hp) (K : Int → Hp → Prop) : Prop :=
 (0 < x0.Q3 →
 K 2 H) ∧
 (¬ (0 < x0.Q3) →
 K 1 H)
theorem b8y (x0 : p5) {K : Int → Hp → Prop} (I : Inv w0 ps0 H0 H [] w) (hR : ∀ (r0 : Int) (H' : Hp) (w' : World) (_ : Inv w0 ps0 H0 H' [] w') (_ : K r0 H'), R (vi r0) w') (h : a5l x0 H K) : d8H (Value.agg (p8 x0).toArray) w R E := by
 unfold a5l at h
 unfold d8H
 refine M4 I (cs := (p8 x0)) rfl fun g_2 w_3 I_4 k_5 => ?_
 refine a7 a6k ?_
 refine d6 (ld1 Tryz.isAgg3 (I_4.at1 (o := 1) (vs := [(vi x0.Q3)]) (nb rfl) rfl)) ?_
 refine a7 (a3q _ _ _ _ _ _) ?_
 refine i8 (fun c_6 => ?_) (fun c_6 => ?_)
 ·replace h := h.1 c_6
  exact hR 2 H _ I_4.drop h
 ·replace h := h.2 c_6
  exact hR 1 H _ I_4.drop h
theorem c0y (x0 : p5) {H : Hp} {K : Int → Hp → Prop} (h : a5l x0 H K) : b1e x0 H K := by
 intro w I
 refine f5E ?_
 refine b8y x0 I (fun r0 H' w' I' hk => ⟨H', _, I', r0, rfl, rfl, hk⟩) h
end Go.Proofs.YtnhkdkcgdcgmdaaGreatDoor
