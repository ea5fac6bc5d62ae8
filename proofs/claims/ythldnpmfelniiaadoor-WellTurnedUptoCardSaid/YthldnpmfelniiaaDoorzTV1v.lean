/- Typed formulas of the program's functions that few laws need; printed by lift.py off the code. -/
import Derived.Test.YthldnpmfelniiaaDoorzTV1
import Derived.Test.YthldnpmfelniiaaDoorzTG1v
namespace Go.Proofs.YthldnpmfelniiaaDoor
open Go.RowKit
set_option maxRecDepth 100000
set_option maxHeartbeats 2000000
def G7 (c2K : Sl) (a9U : Int) (_cr_1l2 : o9) (D5 : Int) (z2 : (List b4)) (H : Hp) (n2 : (Int × (List b4)) → Hp → Prop) (K : b6 → (List b4) → Hp → Prop) : Prop :=
 (D5 < a9U →
 (0 : Int) ≤ D5 ∧ (D5 : Int) < c2K.n ∧ ∃ a7n : o9, EltH H c2K D5 4 (c8 a7n) ∧
 E4 (b6.mk (Sl.mk none 0 0)) z2 a7n H (fun (_y0_81 : b6) (b1i : (List b4)) (c1F : Hp) =>
 n2 ((IntKind.wrap .i64 (D5 + 1)), b1i) c1F)) ∧
 (¬ (D5 < a9U) →
 K (b6.mk (Sl.mk none 0 0)) z2 H)
def u4 (P3 : (List b4)) (cr_1j1 : o9) (H : Hp) (K : b6 → (List b4) → Hp → Prop) : Prop :=
 TL ((0, P3) : Int × (List b4)) H fun (s : Int × (List b4)) H n2 => G7 cr_1j1.u5 (cr_1j1.u5.n : Int) cr_1j1 s.1 s.2 H n2 K
def K4 (_x0 : b6) (B9 : (List b4)) (x1 : o9) (H : Hp) (K : b6 → (List b4) → Hp → Prop) : Prop :=
 (x1.d4 = 2 →
 (B9.length + ([(b4.mk x1.c6 1)] : List b4).length) * 25 ≤ 140737488355328 ∧
 u4 (B9 ++ [(b4.mk x1.c6 1)]) x1 H K) ∧
 (¬ (x1.d4 = 2) →
 (x1.d4 = 4 →
 (B9.length + ([(b4.mk x1.c6 2)] : List b4).length) * 25 ≤ 140737488355328 ∧
 u4 (B9 ++ [(b4.mk x1.c6 2)]) x1 H K) ∧
 (¬ (x1.d4 = 4) →
 u4 B9 x1 H K))
theorem a2T (x0 : b6) (B9 : (List b4)) (x1 : o9) (g0 : Nat) (D8 : Sl) (I0 : Frag) (a0D : RowL 128 2 i4 D8 B9 I0) {w0 w : World} {ps0 : Nat → Prop} {H0 H : Hp} {K : b6 → (List b4) → Hp → Prop} {R : Value → World → Prop} {E : Pan} (I : Inv w0 ps0 H0 H [bx g0 126 [(vs D8)], I0] w) (hR : ∀ (y0 : b6) (S4 : (List b4)) (L1 : Sl) (L2 : Frag) (H' : Hp) (w' : World) (_ : RowL 128 2 i4 L1 S4 L2) (_ : Inv w0 ps0 H0 H' [bx g0 126 [(vs L1)], L2] w') (_ : K y0 S4 H'), R (Value.tuple #[]) w') (h : K4 x0 B9 x1 H K) : b6z (Value.pointer (some ⟨g0, 0, none⟩)) (Value.agg (c8 x1).toArray) w R E := by
 unfold K4 at h
 unfold b6z
 refine M6 I (cs := (c8 x1)) rfl fun g_2 w_3 I_4 k_5 => ?_
 have hj1 : ∀ (P3 : (List b4)) (Y7 : Sl) (Y8 : Frag) (H : Hp) (w : World) (_ : RowL 128 2 i4 Y7 P3 Y8) (_ : Inv w0 ps0 H0 H [bx g0 126 [(vs Y7)], bx g_2 30 (c8 x1), Y8] w) (_ : u4 P3 x1 H K), b1h (Value.pointer (some ⟨g0, 0, none⟩)) (Value.pointer (some ⟨g_2, 0, none⟩)) w R E := by
  intro P3 Y7 Y8 H w a8T I h
  unfold b1h
  intro _
  unfold u4 at h
  refine a6 a5l ?_
  refine c5 (ld1 Tryd.isAgg28 ((I.bring 1).at1 (o := 3) (vs := [(vs x1.u5)]) (nb rfl) rfl)) ?_
  refine a6 (a0h _ _ _) ?_
  obtain ⟨c1G, b3V, d8u, d8v⟩ := h
  refine G2 (J := fun n l w => ∃ (s : Int × (List b4)) (H : Hp) (P4 : Sl) (P5 : Frag) , n = b3V s ∧ l = (match s with | (D5, z2) => [(vi D5)]) ∧ (match s with | (D5, z2) => RowL 128 2 i4 P4 z2 P5) ∧ (match s with | (D5, z2) => Inv w0 ps0 H0 H [bx g0 126 [(vs P4)], bx g_2 30 (c8 x1), P5] w) ∧ c1G s H) ⟨_, (0, P3), H, Y7, Y8, rfl, rfl, a8T, (((I.bring 2).bring 2).bring 2), d8u⟩ ?_
  rintro e1Y τ_88 w next2 ⟨⟨D5, z2⟩, H, P4, P5, rfl, c1H, a1l, I, d8w⟩ hn2
  dsimp only at c1H I a1l
  simp only [List.map_cons, List.map_nil, List.cons.injEq, and_true] at c1H
  have e39 := c1H
  simp only [e39]
  obtain ⟨n2, hm2, h⟩ : ∃ n2 : (Int × (List b4)) → Hp → Prop, (∀ s' H', n2 s' H' → c1G s' H' ∧ b3V s' < b3V (D5, z2)) ∧ G7 x1.u5 (x1.u5.n : Int) x1 D5 z2 H n2 K := ⟨_, fun _ _ h => h, d8v (D5, z2) H (fun s' H' => c1G s' H' ∧ b3V s' < b3V (D5, z2)) d8w (fun _ _ a b => ⟨a, b⟩)⟩
  unfold b4P
  unfold G7 at h
  refine a6 (K7 _ _ _ _ _ _) ?_
  refine d7 (fun a8P => ?_) (fun a8P => ?_)
  ·replace h := h.1 a8P
   obtain ⟨c1I, b3h, a7n, c1J, h⟩ := h
   obtain ⟨e1Z, e2a, d8x, c1J⟩ := c1J
   refine a6 (a5m d8x _ _ _ _ c1I b3h) ?_
   refine c5 (ldA (vs := (c8 a7n)) Tryd.isAgg30 Tryd.sizeOf30 rfl (I.atH c1J)) ?_
   refine E7 I Tryd.zeroValue30 (cs := [(vi 0), (vi 0), (Value.string ⟨#[]⟩), (Value.slice none 0 0)]) rfl fun d8y a2k b0Y b6g => ?_
   refine s6 b0Y Tryd.sizeOf30 (vs := (c8 a7n)) (cs' := (c8 a7n)) rfl rfl (nb rfl) rfl rfl fun Z7 b3q d7O => ?_
   refine c5 (ldA Tryd.isAgg30 Tryd.sizeOf30 rfl (b3q.at1 (o := 0) (vs := (c8 a7n)) (nb rfl) rfl)) ?_
   refine f8 (cap := []) (fun args w => Tryd.call105 args w) ?_
   refine j8 (Fi := [bx g0 126 [(vs P4)], P5]) (Fr := [bx d8y 30 (c8 a7n), bx g_2 30 (c8 x1)]) ((b3q.bring 3).bring 2) (h g0 P4 P5 a1l) (fun e2b c1F e2c a0G d8z e2d e2e d8A => ?_) (fun _ _ _ _ _ q => q.elim)
   obtain ⟨d9s, b1i, c1K, c1L, rfl, rfl, c1M, h⟩ := d8A
   refine a6 (F8 _ _ _ _ _ _) ?_
   exact hn2 _ _ _ (hm2 _ _ h).2 ⟨((IntKind.wrap .i64 (D5 + 1)), b1i), c1F, c1K, c1L, rfl, rfl, c1M, ((((d8z.bring 2).drop.bring 1).bring 2).bring 2), (hm2 _ _ h).1⟩
  ·replace h := h.2 a8P
   exact hR (b6.mk (Sl.mk none 0 0)) z2 P4 P5 H _ a1l (((I.bring 1).drop.bring 1).bring 1) h
 refine v2 fun j1 hx1 => ?_
 refine a6 X1 ?_
 refine c5 (ld1 Tryd.isAgg3 (I_4.at1 (o := 0) (vs := [(vi x1.d4)]) (nb rfl) rfl)) ?_
 refine a6 (f7 _ _ _ _ _ _) ?_
 refine d7 (fun b6A => ?_) (fun b6A => ?_)
 ·replace h := h.1 b6A
  refine a1u I_4 fun w_6 I_7 => ?_
  refine i8 (z8 _) ?_
  refine i8 P6 ?_
  refine i8 X2 ?_
  refine E8 (ld1 Tryd.isAgg124 ((I_7.bring 1).at1 (o := 0) (vs := [(vs D8)]) (nb rfl) rfl)) ?_
  refine E8 (ld1 Tryd.isAgg9 (I_7.at1 (o := 2) (vs := [(Value.string x1.c6)]) (nb rfl) rfl)) ?_
  refine i8 (a0x _ _) ?_
  refine a1w (e := 128) (c := i4) (xs := [(b4.mk x1.c6 1)]) I_7 (a5u _ _) rfl rfl Z1 Z2 (nb rfl) fun s_9 e2f S3 c1N d3N d8B => ?_
  refine ⟨(d8B _ (I_7.bring 1).lt1), ?_⟩
  obtain ⟨d8C, h⟩ := h
  refine a7y (s := D8) (xs := B9) (d3N.bring 3) a0D (c1N.srcO ((d3N.bring 3).bring 1)) d8C fun c1O d8D a0F d8E a3O b0N => ?_
  refine i8 (z8 _) ?_
  refine i8 P6 ?_
  refine s6 ((a3O.bring 1).drop.bring 2) Tryd.sizeOf124 (vs := [(vs c1O)]) (cs' := [(vs c1O)]) rfl rfl (nb rfl) rfl rfl fun A5 d8F e2g => ?_
  exact hx1 _ _ (hj1 (B9 ++ [(b4.mk x1.c6 1)]) c1O d8D H _ d8E (((d8F.bring 1).bring 2).bring 2) h)
 ·replace h := h.2 b6A
  refine a6 (f7 _ _ _ _ _ _) ?_
  refine d7 (fun b6B => ?_) (fun b6B => ?_)
  ·replace h := h.1 b6B
   refine a1u I_4 fun e2h b6C => ?_
   refine i8 (z8 _) ?_
   refine i8 P6 ?_
   refine i8 X2 ?_
   refine E8 (ld1 Tryd.isAgg124 ((b6C.bring 1).at1 (o := 0) (vs := [(vs D8)]) (nb rfl) rfl)) ?_
   refine E8 (ld1 Tryd.isAgg9 (b6C.at1 (o := 2) (vs := [(Value.string x1.c6)]) (nb rfl) rfl)) ?_
   refine i8 (a0x _ _) ?_
   refine a1w (e := 128) (c := i4) (xs := [(b4.mk x1.c6 2)]) b6C (a5u _ _) rfl rfl Z1 Z2 (nb rfl) fun d1j e2i a5A d8G d3O d8H => ?_
   refine ⟨(d8H _ (b6C.bring 1).lt1), ?_⟩
   obtain ⟨d5i, h⟩ := h
   refine a7y (s := D8) (xs := B9) (d3O.bring 3) a0D (d8G.srcO ((d3O.bring 3).bring 1)) d5i fun b6D d5j a2Y b6E d5k d9t => ?_
   refine i8 (z8 _) ?_
   refine i8 P6 ?_
   refine s6 ((d5k.bring 1).drop.bring 2) Tryd.sizeOf124 (vs := [(vs b6D)]) (cs' := [(vs b6D)]) rfl rfl (nb rfl) rfl rfl fun d9u d5l d9v => ?_
   exact hx1 _ _ (hj1 (B9 ++ [(b4.mk x1.c6 2)]) b6D d5j H _ b6E (((d5l.bring 1).bring 2).bring 2) h)
  ·replace h := h.2 b6B
   exact hx1 _ _ (hj1 B9 D8 I0 H _ a0D (((I_4.bring 2).bring 1).bring 2) h)
theorem a3i (x0 : b6) (B9 : (List b4)) (x1 : o9) {H : Hp} {K : b6 → (List b4) → Hp → Prop} (h : K4 x0 B9 x1 H K) : E4 x0 B9 x1 H K := by
 intro g0 D8 I0 a0D w I
 refine c5s ?_
 refine a2T x0 B9 x1 g0 D8 I0 a0D I (fun y0 S4 L1 L2 H' w' a7o I' hk => ⟨H', _, I', y0, S4, L1, L2, rfl, rfl, a7o, hk⟩) h
def G8 (c2L : Sl) (c2M : Int) (_cr_1l2 : p8) (V4 : Int) (z2 : (List b4)) (H : Hp) (n2 : (Int × (List b4)) → Hp → Prop) (K : b6 → (List b4) → Hp → Prop) : Prop :=
 (V4 < c2M →
 (0 : Int) ≤ V4 ∧ (V4 : Int) < c2L.n ∧ ∃ a7p : p8, EltH H c2L V4 4 (d9 a7p) ∧
 K1 (b6.mk (Sl.mk none 0 0)) z2 a7p H (fun (_y0_86 : b6) (b1j : (List b4)) (a0K : Hp) =>
 n2 ((IntKind.wrap .i64 (V4 + 1)), b1j) a0K)) ∧
 (¬ (V4 < c2M) →
 K (b6.mk (Sl.mk none 0 0)) z2 H)
def G9 (cr_1j1 : p8) (P3 : (List b4)) (H : Hp) (K : b6 → (List b4) → Hp → Prop) : Prop :=
 TL ((0, P3) : Int × (List b4)) H fun (s : Int × (List b4)) H n2 => G8 cr_1j1.m9 (cr_1j1.m9.n : Int) cr_1j1 s.1 s.2 H n2 K
def H7 (d3P : Sl) (c2N : Int) (cr_1l3 : p8) (V5 : Int) (Q5 : (List b4)) (H : Hp) (n3 : (Int × (List b4)) → Hp → Prop) (K : b6 → (List b4) → Hp → Prop) : Prop :=
 (V5 < c2N →
 (0 : Int) ≤ V5 ∧ (V5 : Int) < d3P.n ∧ ∃ a4y : o9, EltH H d3P V5 4 (c8 a4y) ∧
 E4 (b6.mk (Sl.mk none 0 0)) Q5 a4y H (fun (_y0_128 : b6) (a8U : (List b4)) (b6F : Hp) =>
 n3 ((IntKind.wrap .i64 (V5 + 1)), a8U) b6F)) ∧
 (¬ (V5 < c2N) →
 G9 cr_1l3 Q5 H K)
def K5 (_x0 : b6) (B9 : (List b4)) (x1 : p8) (H : Hp) (K : b6 → (List b4) → Hp → Prop) : Prop :=
 TL ((0, B9) : Int × (List b4)) H fun (s : Int × (List b4)) H n3 => H7 x1.b9 (x1.b9.n : Int) x1 s.1 s.2 H n3 K
theorem a2U (x0 : b6) (B9 : (List b4)) (x1 : p8) (g0 : Nat) (D8 : Sl) (I0 : Frag) (a0D : RowL 128 2 i4 D8 B9 I0) {w0 w : World} {ps0 : Nat → Prop} {H0 H : Hp} {K : b6 → (List b4) → Hp → Prop} {R : Value → World → Prop} {E : Pan} (I : Inv w0 ps0 H0 H [bx g0 126 [(vs D8)], I0] w) (hR : ∀ (y0 : b6) (S4 : (List b4)) (L1 : Sl) (L2 : Frag) (H' : Hp) (w' : World) (_ : RowL 128 2 i4 L1 S4 L2) (_ : Inv w0 ps0 H0 H' [bx g0 126 [(vs L1)], L2] w') (_ : K y0 S4 H'), R (Value.tuple #[]) w') (h : K5 x0 B9 x1 H K) : b6y (Value.pointer (some ⟨g0, 0, none⟩)) (Value.agg (d9 x1).toArray) w R E := by
 unfold K5 at h
 unfold b6y
 refine M6 I (cs := (d9 x1)) rfl fun g_2 w_3 I_4 k_5 => ?_
 have hj1 : ∀ (P3 : (List b4)) (Y7 : Sl) (Y8 : Frag) (H : Hp) (w : World) (_ : RowL 128 2 i4 Y7 P3 Y8) (_ : Inv w0 ps0 H0 H [bx g_2 33 (d9 x1), bx g0 126 [(vs Y7)], Y8] w) (_ : G9 x1 P3 H K), b1g (Value.pointer (some ⟨g0, 0, none⟩)) (Value.pointer (some ⟨g_2, 0, none⟩)) w R E := by
  intro P3 Y7 Y8 H w a8T I h
  unfold b1g
  intro _
  unfold G9 at h
  refine a6 a5o ?_
  refine c5 (ld1 Tryd.isAgg31 (I.at1 (o := 3) (vs := [(vs x1.m9)]) (nb rfl) rfl)) ?_
  refine a6 (a2D _ _ _) ?_
  obtain ⟨c1P, b3W, d8I, d8J⟩ := h
  refine G2 (J := fun n l w => ∃ (s : Int × (List b4)) (H : Hp) (P4 : Sl) (P5 : Frag) , n = b3W s ∧ l = (match s with | (V4, z2) => [(vi V4)]) ∧ (match s with | (V4, z2) => RowL 128 2 i4 P4 z2 P5) ∧ (match s with | (V4, z2) => Inv w0 ps0 H0 H [bx g_2 33 (d9 x1), bx g0 126 [(vs P4)], P5] w) ∧ c1P s H) ⟨_, (0, P3), H, Y7, Y8, rfl, rfl, a8T, (((I.bring 2).bring 2).bring 2), d8I⟩ ?_
  rintro e2j τ_93 w next2 ⟨⟨V4, z2⟩, H, P4, P5, rfl, c1Q, a1l, I, d8K⟩ hn2
  dsimp only at c1Q I a1l
  simp only [List.map_cons, List.map_nil, List.cons.injEq, and_true] at c1Q
  have e22 := c1Q
  simp only [e22]
  obtain ⟨n2, hm2, h⟩ : ∃ n2 : (Int × (List b4)) → Hp → Prop, (∀ s' H', n2 s' H' → c1P s' H' ∧ b3W s' < b3W (V4, z2)) ∧ G8 x1.m9 (x1.m9.n : Int) x1 V4 z2 H n2 K := ⟨_, fun _ _ h => h, d8J (V4, z2) H (fun s' H' => c1P s' H' ∧ b3W s' < b3W (V4, z2)) d8K (fun _ _ a b => ⟨a, b⟩)⟩
  unfold b4N
  unfold G8 at h
  refine a6 (K7 _ _ _ _ _ _) ?_
  refine d7 (fun a3W => ?_) (fun a3W => ?_)
  ·replace h := h.1 a3W
   obtain ⟨d8L, d8M, a7p, c1R, h⟩ := h
   obtain ⟨e2k, e2l, d8N, c1R⟩ := c1R
   refine a6 (a8p d8N _ _ _ _ d8L d8M) ?_
   refine c5 (ldA (vs := (d9 a7p)) Tryd.isAgg33 Tryd.sizeOf33 rfl (I.atH c1R)) ?_
   refine E7 I Tryd.zeroValue33 (cs := [(vi 0), (vi 0), (Value.slice none 0 0), (Value.slice none 0 0)]) rfl fun d8O Z8 d8P e2m => ?_
   refine s6 d8P Tryd.sizeOf33 (vs := (d9 a7p)) (cs' := (d9 a7p)) rfl rfl (nb rfl) rfl rfl fun e2n d3Q e2o => ?_
   refine c5 (ldA Tryd.isAgg33 Tryd.sizeOf33 rfl (d3Q.at1 (o := 0) (vs := (d9 a7p)) (nb rfl) rfl)) ?_
   refine f8 (cap := []) (fun args w => Tryd.call104 args w) ?_
   refine j8 (Fi := [bx g0 126 [(vs P4)], P5]) (Fr := [bx d8O 33 (d9 a7p), bx g_2 33 (d9 x1)]) ((d3Q.bring 3).bring 3) (h g0 P4 P5 a1l) (fun b6e a0K d7Q b3r b0W c0X c0Y c0Z => ?_) (fun _ _ _ _ _ q => q.elim)
   obtain ⟨d9w, b1j, c1S, c1T, rfl, rfl, c1U, h⟩ := c0Z
   refine a6 (F8 _ _ _ _ _ _) ?_
   exact hn2 _ _ _ (hm2 _ _ h).2 ⟨((IntKind.wrap .i64 (V4 + 1)), b1j), a0K, c1S, c1T, rfl, rfl, c1U, ((((b0W.bring 2).drop.bring 1).bring 1).bring 2), (hm2 _ _ h).1⟩
  ·replace h := h.2 a3W
   exact hR (b6.mk (Sl.mk none 0 0)) z2 P4 P5 H _ a1l ((I.drop.bring 1).bring 1) h
 refine v2 fun j1 hx1 => ?_
 refine a6 a5n ?_
 refine c5 (ld1 Tryd.isAgg28 (I_4.at1 (o := 2) (vs := [(vs x1.b9)]) (nb rfl) rfl)) ?_
 refine a6 (a0h _ _ _) ?_
 obtain ⟨b6G, a9V, d5m, d5n⟩ := h
 refine G2 (J := fun n l w => ∃ (s : Int × (List b4)) (H : Hp) (a2o : Sl) (a2p : Frag) , n = a9V s ∧ l = (match s with | (V5, Q5) => [(vi V5)]) ∧ (match s with | (V5, Q5) => RowL 128 2 i4 a2o Q5 a2p) ∧ (match s with | (V5, Q5) => Inv w0 ps0 H0 H [bx g_2 33 (d9 x1), bx g0 126 [(vs a2o)], a2p] w) ∧ b6G s H) ⟨_, (0, B9), H, D8, I0, rfl, rfl, a0D, (((I_4.bring 2).bring 2).bring 2), d5m⟩ ?_
 rintro d9x τ_135 w next3 ⟨⟨V5, Q5⟩, H, a2o, a2p, rfl, b6H, a8V, I, d5o⟩ hn3
 dsimp only at b6H I a8V
 simp only [List.map_cons, List.map_nil, List.cons.injEq, and_true] at b6H
 have e11 := b6H
 simp only [e11]
 obtain ⟨n3, hm3, h⟩ : ∃ n3 : (Int × (List b4)) → Hp → Prop, (∀ s' H', n3 s' H' → b6G s' H' ∧ a9V s' < a9V (V5, Q5)) ∧ H7 x1.b9 (x1.b9.n : Int) x1 V5 Q5 H n3 K := ⟨_, fun _ _ h => h, d5n (V5, Q5) H (fun s' H' => b6G s' H' ∧ a9V s' < a9V (V5, Q5)) d5o (fun _ _ a b => ⟨a, b⟩)⟩
 unfold b4O
 unfold H7 at h
 refine a6 (K7 _ _ _ _ _ _) ?_
 refine d7 (fun b6I => ?_) (fun b6I => ?_)
 ·replace h := h.1 b6I
  obtain ⟨d5p, d5q, a4y, b6J, h⟩ := h
  obtain ⟨d9y, d9z, d5r, b6J⟩ := b6J
  refine a6 (a5m d5r _ _ _ _ d5p d5q) ?_
  refine c5 (ldA (vs := (c8 a4y)) Tryd.isAgg30 Tryd.sizeOf30 rfl (I.atH b6J)) ?_
  refine E7 I Tryd.zeroValue30 (cs := [(vi 0), (vi 0), (Value.string ⟨#[]⟩), (Value.slice none 0 0)]) rfl fun d5s a4q d5t d9A => ?_
  refine s6 d5t Tryd.sizeOf30 (vs := (c8 a4y)) (cs' := (c8 a4y)) rfl rfl (nb rfl) rfl rfl fun d9B c2O d9C => ?_
  refine c5 (ldA Tryd.isAgg30 Tryd.sizeOf30 rfl (c2O.at1 (o := 0) (vs := (c8 a4y)) (nb rfl) rfl)) ?_
  refine f8 (cap := []) (fun args w => Tryd.call105 args w) ?_
  refine j8 (Fi := [bx g0 126 [(vs a2o)], a2p]) (Fr := [bx d5s 30 (c8 a4y), bx g_2 33 (d9 x1)]) ((c2O.bring 3).bring 3) (h g0 a2o a2p a8V) (fun d9D b6F d9E d9F d5u d9G d9H d5v => ?_) (fun _ _ _ _ _ q => q.elim)
  obtain ⟨d9n, a8U, b9h, b9i, rfl, rfl, b9j, h⟩ := d5v
  refine a6 (F8 _ _ _ _ _ _) ?_
  exact hn3 _ _ _ (hm3 _ _ h).2 ⟨((IntKind.wrap .i64 (V5 + 1)), a8U), b6F, b9h, b9i, rfl, rfl, b9j, ((((d5u.bring 2).drop.bring 1).bring 1).bring 2), (hm3 _ _ h).1⟩
 ·replace h := h.2 b6I
  exact hx1 _ _ (hj1 Q5 a2o a2p H _ a8V (((I.bring 2).bring 2).bring 2) h)
theorem a3j (x0 : b6) (B9 : (List b4)) (x1 : p8) {H : Hp} {K : b6 → (List b4) → Hp → Prop} (h : K5 x0 B9 x1 H K) : K1 x0 B9 x1 H K := by
 intro g0 D8 I0 a0D w I
 refine c5q ?_
 refine a2U x0 B9 x1 g0 D8 I0 a0D I (fun y0 S4 L1 L2 H' w' a7o I' hk => ⟨H', _, I', y0, S4, L1, L2, rfl, rfl, a7o, hk⟩) h
def F0 (_s10j2 : Sl) (_s11j2 : Int) (d5w : Int) (a2q : (List b4)) (H : Hp) (n1 : (Int × (List b4)) → Hp → Prop) (_K : b6 → (List b4) → Hp → Prop) : Prop :=
 n1 ((IntKind.wrap .i64 (d5w + 1)), a2q) H
def F1 (d5x : Sl) (b5P : Int) (d5y : Int) (a4d : (List b4)) (cr_222j5 : p5) (H : Hp) (n1 : (Int × (List b4)) → Hp → Prop) (K : b6 → (List b4) → Hp → Prop) : Prop :=
 D7 (b6.mk (Sl.mk none 0 0)) a4d cr_222j5.B4 H (fun (_y0_305 : b6) (b3X : (List b4)) (c2P : Hp) =>
 D7 (b6.mk (Sl.mk none 0 0)) b3X cr_222j5.z7 c2P (fun (_y0_314 : b6) (a8W : (List b4)) (b6K : Hp) =>
 F0 d5x b5P d5y a8W b6K n1 K))
def F3 (d5z : Sl) (d5A : Int) (d5B : Int) (c2Q : Sl) (c2R : Int) (cr_222l6 : p5) (V6 : Int) (Q6 : (List b4)) (H : Hp) (n1 : (Int × (List b4)) → Hp → Prop) (n6 : (Int × (List b4)) → Hp → Prop) (K : b6 → (List b4) → Hp → Prop) : Prop :=
 (V6 < c2R →
 (0 : Int) ≤ V6 ∧ (V6 : Int) < c2Q.n ∧ ∃ a4z : o9, EltH H c2Q V6 4 (c8 a4z) ∧
 E4 (b6.mk (Sl.mk none 0 0)) Q6 a4z H (fun (_y0_347 : b6) (a8X : (List b4)) (b6L : Hp) =>
 n6 ((IntKind.wrap .i64 (V6 + 1)), a8X) b6L)) ∧
 (¬ (V6 < c2R) →
 F1 d5z d5A d5B Q6 cr_222l6 H n1 K)
def F4 (d5C : Sl) (d5D : Int) (d5E : Int) (a2r : (List b4)) (cr_222j4 : p5) (H : Hp) (n1 : (Int × (List b4)) → Hp → Prop) (K : b6 → (List b4) → Hp → Prop) : Prop :=
 TL ((0, a2r) : Int × (List b4)) H fun (s : Int × (List b4)) H n6 => F3 d5C d5D d5E cr_222j4.b9 (cr_222j4.b9.n : Int) cr_222j4 s.1 s.2 H n1 n6 K
def F5 (d5F : Sl) (d5G : Int) (d5H : Int) (c2S : Sl) (c2T : Int) (cr_222l7 : p5) (V7 : Int) (Q7 : (List b4)) (H : Hp) (n1 : (Int × (List b4)) → Hp → Prop) (n7 : (Int × (List b4)) → Hp → Prop) (K : b6 → (List b4) → Hp → Prop) : Prop :=
 (V7 < c2T →
 (0 : Int) ≤ V7 ∧ (V7 : Int) < c2S.n ∧ ∃ a4A : p8, EltH H c2S V7 4 (d9 a4A) ∧
 K1 (b6.mk (Sl.mk none 0 0)) Q7 a4A H (fun (_y0_389 : b6) (a8Y : (List b4)) (b6M : Hp) =>
 n7 ((IntKind.wrap .i64 (V7 + 1)), a8Y) b6M)) ∧
 (¬ (V7 < c2T) →
 F4 d5F d5G d5H Q7 cr_222l7 H n1 K)
def t6 (d5I : Sl) (d5J : Int) (d5K : Int) (a2s : (List b4)) (cr_222j3 : p5) (H : Hp) (n1 : (Int × (List b4)) → Hp → Prop) (K : b6 → (List b4) → Hp → Prop) : Prop :=
 TL ((0, a2s) : Int × (List b4)) H fun (s : Int × (List b4)) H n7 => F5 d5I d5J d5K cr_222j3.g9 (cr_222j3.g9.n : Int) cr_222j3 s.1 s.2 H n1 n7 K
def F6 (a9W : Sl) (a9X : Int) (F7 : Int) (C2 : (List b4)) (H : Hp) (n1 : (Int × (List b4)) → Hp → Prop) (K : b6 → (List b4) → Hp → Prop) : Prop :=
 (F7 < a9X →
 (0 : Int) ≤ F7 ∧ (F7 : Int) < a9W.n ∧ ∃ u0 : p5, EltH H a9W F7 6 (f6 u0) ∧
 (u0.d4 = 1 →
 (C2.length + ([(b4.mk u0.c6 1)] : List b4).length) * 25 ≤ 140737488355328 ∧
 t6 a9W a9X F7 (C2 ++ [(b4.mk u0.c6 1)]) u0 H n1 K) ∧
 (¬ (u0.d4 = 1) →
 (u0.d4 = 2 →
 (C2.length + ([(b4.mk u0.c6 2)] : List b4).length) * 25 ≤ 140737488355328 ∧
 t6 a9W a9X F7 (C2 ++ [(b4.mk u0.c6 2)]) u0 H n1 K) ∧
 (¬ (u0.d4 = 2) →
 t6 a9W a9X F7 C2 u0 H n1 K))) ∧
 (¬ (F7 < a9X) →
 K (b6.mk (Sl.mk none 0 0)) C2 H)
def J7 (_x0 : b6) (B9 : (List b4)) (x1 : Sl) (H : Hp) (K : b6 → (List b4) → Hp → Prop) : Prop :=
 TL ((0, B9) : Int × (List b4)) H fun (s : Int × (List b4)) H n1 => F6 x1 (x1.n : Int) s.1 s.2 H n1 K
theorem a2I (x0 : b6) (B9 : (List b4)) (x1 : Sl) (g0 : Nat) (D8 : Sl) (I0 : Frag) (a0D : RowL 128 2 i4 D8 B9 I0) {w0 w : World} {ps0 : Nat → Prop} {H0 H : Hp} {K : b6 → (List b4) → Hp → Prop} {R : Value → World → Prop} {E : Pan} (I : Inv w0 ps0 H0 H [bx g0 126 [(vs D8)], I0] w) (hR : ∀ (y0 : b6) (S4 : (List b4)) (L1 : Sl) (L2 : Frag) (H' : Hp) (w' : World) (_ : RowL 128 2 i4 L1 S4 L2) (_ : Inv w0 ps0 H0 H' [bx g0 126 [(vs L1)], L2] w') (_ : K y0 S4 H'), R (Value.tuple #[]) w') (h : J7 x0 B9 x1 H K) : F76 (Value.pointer (some ⟨g0, 0, none⟩)) (vs x1) w R E := by
 unfold J7 at h
 unfold F76
 refine a6 (a0g _ _ _) ?_
 obtain ⟨b6N, a9Y, d5L, d5M⟩ := h
 refine G2 (J := fun n l w => ∃ (s : Int × (List b4)) (H : Hp) (Y9 : Sl) (a4e : Frag) , n = a9Y s ∧ l = (match s with | (F7, C2) => [(vi F7)]) ∧ (match s with | (F7, C2) => RowL 128 2 i4 Y9 C2 a4e) ∧ (match s with | (F7, C2) => Inv w0 ps0 H0 H [bx g0 126 [(vs Y9)], a4e] w) ∧ b6N s H) ⟨_, (0, B9), H, D8, I0, rfl, rfl, a0D, ((I.bring 1).bring 1), d5L⟩ ?_
 rintro d9I τ_426 w next1 ⟨⟨F7, C2⟩, H, Y9, a4e, rfl, b6O, a4f, I, d5N⟩ hn1
 dsimp only at b6O I a4f
 simp only [List.map_cons, List.map_nil, List.cons.injEq, and_true] at b6O
 have e12 := b6O
 simp only [e12]
 obtain ⟨n1, hm1, h⟩ : ∃ n1 : (Int × (List b4)) → Hp → Prop, (∀ s' H', n1 s' H' → b6N s' H' ∧ a9Y s' < a9Y (F7, C2)) ∧ F6 x1 (x1.n : Int) F7 C2 H n1 K := ⟨_, fun _ _ h => h, d5M (F7, C2) H (fun s' H' => b6N s' H' ∧ a9Y s' < a9Y (F7, C2)) d5N (fun _ _ a b => ⟨a, b⟩)⟩
 unfold b9c
 unfold F6 at h
 refine a6 (K7 _ _ _ _ _ _) ?_
 refine d7 (fun b6P => ?_) (fun b6P => ?_)
 ·replace h := h.1 b6P
  have hj2 : ∀ (a2q : (List b4)) (a6g : Sl) (a6h : Frag) (H : Hp) (w : World) (_ : RowL 128 2 i4 a6g a2q a6h) (_ : Inv w0 ps0 H0 H [bx g0 126 [(vs a6g)], a6h] w) (_ : F0 x1 (x1.n : Int) F7 a2q H n1 K), b3O (Value.pointer (some ⟨g0, 0, none⟩)) (vs x1) (vi (x1.n : Int)) (vi F7) w next1 R E := by
   intro a2q a6g a6h H w c1V I h
   unfold b3O
   intro _
   unfold F0 at h
   refine a6 (F8 _ _ _ _ _ _) ?_
   exact hn1 _ _ _ (hm1 _ _ h).2 ⟨((IntKind.wrap .i64 (F7 + 1)), a2q), H, a6g, a6h, rfl, rfl, c1V, ((I.bring 1).bring 1), (hm1 _ _ h).1⟩
  refine v2 fun j2 hx2 => ?_
  obtain ⟨d5O, d5P, u0, b6Q, h⟩ := h
  obtain ⟨d9J, d9K, d5Q, b6Q⟩ := b6Q
  refine a6 (b2m d5Q _ _ _ _ d5O d5P) ?_
  refine c5 (ldA (vs := (f6 u0)) Tryd.isAgg88 Tryd.sizeOf88 rfl (I.atH b6Q)) ?_
  refine E7 I Tryd.zeroValue88 (cs := [(vi 0), (Value.string ⟨#[]⟩), (Value.slice none 0 0), (Value.slice none 0 0), (Value.slice none 0 0), (Value.slice none 0 0)]) rfl fun a0U d9L d5R d9M => ?_
  refine s6 d5R Tryd.sizeOf88 (vs := (f6 u0)) (cs' := (f6 u0)) rfl rfl (nb rfl) rfl rfl fun d9N b1T d9O => ?_
  have hj3 : ∀ (a2s : (List b4)) (a6i : Sl) (a6j : Frag) (H : Hp) (w : World) (_ : RowL 128 2 i4 a6i a2s a6j) (_ : Inv w0 ps0 H0 H [bx g0 126 [(vs a6i)], bx a0U 88 (f6 u0), a6j] w) (_ : t6 x1 (x1.n : Int) F7 a2s u0 H n1 K), b3R (Value.pointer (some ⟨g0, 0, none⟩)) (Value.pointer (some ⟨a0U, 0, none⟩)) (vs x1) (vi (x1.n : Int)) (vi F7) w j2 R E := by
   intro a2s a6i a6j H w c1W I h
   unfold b3R
   intro _
   unfold t6 at h
   have hj4 : ∀ (a2r : (List b4)) (a6k : Sl) (a6l : Frag) (H : Hp) (w : World) (_ : RowL 128 2 i4 a6k a2r a6l) (_ : Inv w0 ps0 H0 H [bx g0 126 [(vs a6k)], bx a0U 88 (f6 u0), a6l] w) (_ : F4 x1 (x1.n : Int) F7 a2r u0 H n1 K), b3Q (Value.pointer (some ⟨g0, 0, none⟩)) (Value.pointer (some ⟨a0U, 0, none⟩)) (vs x1) (vi (x1.n : Int)) (vi F7) w j2 R E := by
    intro a2r a6k a6l H w c1X I h
    unfold b3Q
    intro _
    unfold F4 at h
    have hj5 : ∀ (a4d : (List b4)) (a4g : Sl) (a4h : Frag) (H : Hp) (w : World) (_ : RowL 128 2 i4 a4g a4d a4h) (_ : Inv w0 ps0 H0 H [bx g0 126 [(vs a4g)], bx a0U 88 (f6 u0), a4h] w) (_ : F1 x1 (x1.n : Int) F7 a4d u0 H n1 K), b3P (Value.pointer (some ⟨g0, 0, none⟩)) (Value.pointer (some ⟨a0U, 0, none⟩)) (vs x1) (vi (x1.n : Int)) (vi F7) w j2 R E := by
     intro a4d a4g a4h H w c1Y I h
     unfold b3P
     intro _
     unfold F1 at h
     refine a6 a5r ?_
     refine c5 (ld1 Tryd.isAgg23 ((I.bring 1).at1 (o := 4) (vs := [(vs u0.B4)]) (nb rfl) rfl)) ?_
     refine f8 (cap := []) (fun args w => Tryd.call76 args w) ?_
     refine j8 (Fi := [bx g0 126 [(vs a4g)], a4h]) (Fr := [bx a0U 88 (f6 u0)]) ((I.bring 2).bring 1) (h g0 a4g a4h c1Y) (fun d9P c2P d9Q d9R c2U d9S d9T d5S => ?_) (fun _ _ _ _ _ q => q.elim)
     obtain ⟨d9o, b3X, b1A, b1B, rfl, rfl, b9k, h⟩ := d5S
     refine a6 a0w ?_
     refine c5 (ld1 Tryd.isAgg23 ((c2U.bring 2).at1 (o := 5) (vs := [(vs u0.z7)]) (nb rfl) rfl)) ?_
     refine f8 (cap := []) (fun args w => Tryd.call76 args w) ?_
     refine j8 (Fi := [bx g0 126 [(vs b1A)], b1B]) (Fr := [bx a0U 88 (f6 u0)]) ((c2U.bring 1).bring 1) (h g0 b1A b1B b9k) (fun d9U b6K d9V d9W d5T d9X d9Y d5U => ?_) (fun _ _ _ _ _ q => q.elim)
     obtain ⟨d9p, a8W, b9l, b9m, rfl, rfl, b9n, h⟩ := d5U
     exact hx2 _ _ (hj2 a8W b9l b9m b6K _ b9n (((d5T.bring 2).drop.bring 1).bring 1) h)
    refine v2 fun j5 hx5 => ?_
    refine a6 a5p ?_
    refine c5 (ld1 Tryd.isAgg28 ((I.bring 1).at1 (o := 2) (vs := [(vs u0.b9)]) (nb rfl) rfl)) ?_
    refine a6 (a0h _ _ _) ?_
    obtain ⟨b6R, a9Z, d5V, d5W⟩ := h
    refine G2 (J := fun n l w => ∃ (s : Int × (List b4)) (H : Hp) (a2t : Sl) (a2u : Frag) , n = a9Z s ∧ l = (match s with | (V6, Q6) => [(vi V6)]) ∧ (match s with | (V6, Q6) => RowL 128 2 i4 a2t Q6 a2u) ∧ (match s with | (V6, Q6) => Inv w0 ps0 H0 H [bx g0 126 [(vs a2t)], bx a0U 88 (f6 u0), a2u] w) ∧ b6R s H) ⟨_, (0, a2r), H, a6k, a6l, rfl, rfl, c1X, (((I.bring 2).bring 2).bring 2), d5V⟩ ?_
    rintro d9Z τ_354 w next6 ⟨⟨V6, Q6⟩, H, a2t, a2u, rfl, b6S, a8Z, I, d5X⟩ hn6
    dsimp only at b6S I a8Z
    simp only [List.map_cons, List.map_nil, List.cons.injEq, and_true] at b6S
    have e60 := b6S
    simp only [e60]
    obtain ⟨n6, hm6, h⟩ : ∃ n6 : (Int × (List b4)) → Hp → Prop, (∀ s' H', n6 s' H' → b6R s' H' ∧ a9Z s' < a9Z (V6, Q6)) ∧ F3 x1 (x1.n : Int) F7 u0.b9 (u0.b9.n : Int) u0 V6 Q6 H n1 n6 K := ⟨_, fun _ _ h => h, d5W (V6, Q6) H (fun s' H' => b6R s' H' ∧ a9Z s' < a9Z (V6, Q6)) d5X (fun _ _ a b => ⟨a, b⟩)⟩
    unfold b8Y
    unfold F3 at h
    refine a6 (K7 _ _ _ _ _ _) ?_
    refine d7 (fun b6T => ?_) (fun b6T => ?_)
    ·replace h := h.1 b6T
     obtain ⟨d5Y, d5Z, a4z, b6U, h⟩ := h
     obtain ⟨e0a, e0b, d6a, b6U⟩ := b6U
     refine a6 (a5m d6a _ _ _ _ d5Y d5Z) ?_
     refine c5 (ldA (vs := (c8 a4z)) Tryd.isAgg30 Tryd.sizeOf30 rfl (I.atH b6U)) ?_
     refine E7 I Tryd.zeroValue30 (cs := [(vi 0), (vi 0), (Value.string ⟨#[]⟩), (Value.slice none 0 0)]) rfl fun d6b e0c d6c e0d => ?_
     refine s6 d6c Tryd.sizeOf30 (vs := (c8 a4z)) (cs' := (c8 a4z)) rfl rfl (nb rfl) rfl rfl fun e0e c2V e0f => ?_
     refine c5 (ldA Tryd.isAgg30 Tryd.sizeOf30 rfl (c2V.at1 (o := 0) (vs := (c8 a4z)) (nb rfl) rfl)) ?_
     refine f8 (cap := []) (fun args w => Tryd.call105 args w) ?_
     refine j8 (Fi := [bx g0 126 [(vs a2t)], a2u]) (Fr := [bx d6b 30 (c8 a4z), bx a0U 88 (f6 u0)]) ((c2V.bring 3).bring 2) (h g0 a2t a2u a8Z) (fun e0g b6L e0h e0i d6d e0j e0k d6e => ?_) (fun _ _ _ _ _ q => q.elim)
     obtain ⟨d9q, a8X, b9o, b9p, rfl, rfl, b9q, h⟩ := d6e
     refine a6 (F8 _ _ _ _ _ _) ?_
     exact hn6 _ _ _ (hm6 _ _ h).2 ⟨((IntKind.wrap .i64 (V6 + 1)), a8X), b6L, b9o, b9p, rfl, rfl, b9q, ((((d6d.bring 2).drop.bring 1).bring 2).bring 2), (hm6 _ _ h).1⟩
    ·replace h := h.2 b6T
     exact hx5 _ _ (hj5 Q6 a2t a2u H _ a8Z (((I.bring 2).bring 2).bring 2) h)
   refine v2 fun j4 hx4 => ?_
   refine a6 a5q ?_
   refine c5 (ld1 Tryd.isAgg31 ((I.bring 1).at1 (o := 3) (vs := [(vs u0.g9)]) (nb rfl) rfl)) ?_
   refine a6 (a2D _ _ _) ?_
   obtain ⟨b6V, b0a, d6f, d6g⟩ := h
   refine G2 (J := fun n l w => ∃ (s : Int × (List b4)) (H : Hp) (a2v : Sl) (a2w : Frag) , n = b0a s ∧ l = (match s with | (V7, Q7) => [(vi V7)]) ∧ (match s with | (V7, Q7) => RowL 128 2 i4 a2v Q7 a2w) ∧ (match s with | (V7, Q7) => Inv w0 ps0 H0 H [bx g0 126 [(vs a2v)], bx a0U 88 (f6 u0), a2w] w) ∧ b6V s H) ⟨_, (0, a2s), H, a6i, a6j, rfl, rfl, c1W, (((I.bring 2).bring 2).bring 2), d6f⟩ ?_
   rintro e0l τ_396 w next7 ⟨⟨V7, Q7⟩, H, a2v, a2w, rfl, b6W, a9a, I, d6h⟩ hn7
   dsimp only at b6W I a9a
   simp only [List.map_cons, List.map_nil, List.cons.injEq, and_true] at b6W
   have e49 := b6W
   simp only [e49]
   obtain ⟨n7, hm7, h⟩ : ∃ n7 : (Int × (List b4)) → Hp → Prop, (∀ s' H', n7 s' H' → b6V s' H' ∧ b0a s' < b0a (V7, Q7)) ∧ F5 x1 (x1.n : Int) F7 u0.g9 (u0.g9.n : Int) u0 V7 Q7 H n1 n7 K := ⟨_, fun _ _ h => h, d6g (V7, Q7) H (fun s' H' => b6V s' H' ∧ b0a s' < b0a (V7, Q7)) d6h (fun _ _ a b => ⟨a, b⟩)⟩
   unfold b9a
   unfold F5 at h
   refine a6 (K7 _ _ _ _ _ _) ?_
   refine d7 (fun b6X => ?_) (fun b6X => ?_)
   ·replace h := h.1 b6X
    obtain ⟨d6i, d6j, a4A, b6Y, h⟩ := h
    obtain ⟨e0m, e0n, d6k, b6Y⟩ := b6Y
    refine a6 (a8p d6k _ _ _ _ d6i d6j) ?_
    refine c5 (ldA (vs := (d9 a4A)) Tryd.isAgg33 Tryd.sizeOf33 rfl (I.atH b6Y)) ?_
    refine E7 I Tryd.zeroValue33 (cs := [(vi 0), (vi 0), (Value.slice none 0 0), (Value.slice none 0 0)]) rfl fun d6l e0o d6m e0p => ?_
    refine s6 d6m Tryd.sizeOf33 (vs := (d9 a4A)) (cs' := (d9 a4A)) rfl rfl (nb rfl) rfl rfl fun e0q c2W e0r => ?_
    refine c5 (ldA Tryd.isAgg33 Tryd.sizeOf33 rfl (c2W.at1 (o := 0) (vs := (d9 a4A)) (nb rfl) rfl)) ?_
    refine f8 (cap := []) (fun args w => Tryd.call104 args w) ?_
    refine j8 (Fi := [bx g0 126 [(vs a2v)], a2w]) (Fr := [bx d6l 33 (d9 a4A), bx a0U 88 (f6 u0)]) ((c2W.bring 3).bring 2) (h g0 a2v a2w a9a) (fun e0s b6M e0t e0u d6n e0v e0w d6o => ?_) (fun _ _ _ _ _ q => q.elim)
    obtain ⟨d9r, a8Y, b9r, b9s, rfl, rfl, b9t, h⟩ := d6o
    refine a6 (F8 _ _ _ _ _ _) ?_
    exact hn7 _ _ _ (hm7 _ _ h).2 ⟨((IntKind.wrap .i64 (V7 + 1)), a8Y), b6M, b9r, b9s, rfl, rfl, b9t, ((((d6n.bring 2).drop.bring 1).bring 2).bring 2), (hm7 _ _ h).1⟩
   ·replace h := h.2 b6X
    exact hx4 _ _ (hj4 Q7 a2v a2w H _ a9a (((I.bring 2).bring 2).bring 2) h)
  refine v2 fun j3 hx3 => ?_
  refine a6 a0u ?_
  refine c5 (ld1 Tryd.isAgg3 (b1T.at1 (o := 0) (vs := [(vi u0.d4)]) (nb rfl) rfl)) ?_
  refine a6 (f7 _ _ _ _ _ _) ?_
  refine d7 (fun b6Z => ?_) (fun b6Z => ?_)
  ·replace h := h.1 b6Z
   refine a1u b1T fun e0x b1U => ?_
   refine i8 (z8 _) ?_
   refine i8 P6 ?_
   refine i8 a0v ?_
   refine E8 (ld1 Tryd.isAgg124 ((b1U.bring 1).at1 (o := 0) (vs := [(vs Y9)]) (nb rfl) rfl)) ?_
   refine E8 (ld1 Tryd.isAgg9 (b1U.at1 (o := 1) (vs := [(Value.string u0.c6)]) (nb rfl) rfl)) ?_
   refine i8 (a0x _ _) ?_
   refine a1w (e := 128) (c := i4) (xs := [(b4.mk u0.c6 1)]) b1U (a5u _ _) rfl rfl Z1 Z2 (nb rfl) fun e0y e0z e0A d6p c2X d6q => ?_
   refine ⟨(d6q _ (b1U.bring 1).lt1), ?_⟩
   obtain ⟨d6r, h⟩ := h
   refine a7y (s := Y9) (xs := C2) (c2X.bring 3) a4f (d6p.srcO ((c2X.bring 3).bring 1)) d6r fun b7a d6s e0B d6t d6u e0C => ?_
   refine i8 (z8 _) ?_
   refine i8 P6 ?_
   refine s6 ((d6u.bring 1).drop.bring 2) Tryd.sizeOf124 (vs := [(vs b7a)]) (cs' := [(vs b7a)]) rfl rfl (nb rfl) rfl rfl fun e0D d6v e0E => ?_
   exact hx3 _ _ (hj3 (C2 ++ [(b4.mk u0.c6 1)]) b7a d6s H _ d6t (((d6v.bring 1).bring 2).bring 2) h)
  ·replace h := h.2 b6Z
   refine a6 (f7 _ _ _ _ _ _) ?_
   refine d7 (fun b7b => ?_) (fun b7b => ?_)
   ·replace h := h.1 b7b
    refine a1u b1T fun e0F b1V => ?_
    refine i8 (z8 _) ?_
    refine i8 P6 ?_
    refine i8 a0v ?_
    refine E8 (ld1 Tryd.isAgg124 ((b1V.bring 1).at1 (o := 0) (vs := [(vs Y9)]) (nb rfl) rfl)) ?_
    refine E8 (ld1 Tryd.isAgg9 (b1V.at1 (o := 1) (vs := [(Value.string u0.c6)]) (nb rfl) rfl)) ?_
    refine i8 (a0x _ _) ?_
    refine a1w (e := 128) (c := i4) (xs := [(b4.mk u0.c6 2)]) b1V (a5u _ _) rfl rfl Z1 Z2 (nb rfl) fun e0G e0H e0I d6w c2Y d6x => ?_
    refine ⟨(d6x _ (b1V.bring 1).lt1), ?_⟩
    obtain ⟨d6y, h⟩ := h
    refine a7y (s := Y9) (xs := C2) (c2Y.bring 3) a4f (d6w.srcO ((c2Y.bring 3).bring 1)) d6y fun b7c d6z e0J d6A d6B e0K => ?_
    refine i8 (z8 _) ?_
    refine i8 P6 ?_
    refine s6 ((d6B.bring 1).drop.bring 2) Tryd.sizeOf124 (vs := [(vs b7c)]) (cs' := [(vs b7c)]) rfl rfl (nb rfl) rfl rfl fun e0L d6C e0M => ?_
    exact hx3 _ _ (hj3 (C2 ++ [(b4.mk u0.c6 2)]) b7c d6z H _ d6A (((d6C.bring 1).bring 2).bring 2) h)
   ·replace h := h.2 b7b
    exact hx3 _ _ (hj3 C2 Y9 a4e H _ a4f (((b1T.bring 2).bring 1).bring 2) h)
 ·replace h := h.2 b6P
  exact hR (b6.mk (Sl.mk none 0 0)) C2 Y9 a4e H _ a4f ((I.bring 1).bring 1) h
theorem a2V (x0 : b6) (B9 : (List b4)) (x1 : Sl) {H : Hp} {K : b6 → (List b4) → Hp → Prop} (h : J7 x0 B9 x1 H K) : D7 x0 B9 x1 H K := by
 intro g0 D8 I0 a0D w I
 refine d3j ?_
 refine a2I x0 B9 x1 g0 D8 I0 a0D I (fun y0 S4 L1 L2 H' w' a7o I' hk => ⟨H', _, I', y0, S4, L1, L2, rfl, rfl, a7o, hk⟩) h
def J5 (b1k : Int) (b1l : ByteArray) (_ccr_24j1_0 : (List b4)) (_cr_1j1 : o8) (H : Hp) (K : ByteArray → Int → Hp → Prop) : Prop :=
 K b1l b1k H
def P8 (d8Q : (Option Nat)) (b0b : (List b4)) (a9U : Int) (cr_1l2 : o8) (a1k : Int) (O1 : ByteArray) (D5 : Int) (H : Hp) (n2 : (Int × ByteArray × Int) → Hp → Prop) (K : ByteArray → Int → Hp → Prop) : Prop :=
 (D5 < a9U →
 (0 : Int) ≤ D5 ∧ ∃ W7 : b4, (b0b)[(D5 : Int).toNat]? = some W7 ∧
 ∃ a5b : List (ByteArray × Int), MapH H (fun s : ByteArray => Value.string s) (fun n : Int => Value.int .i64 n) d8Q a5b ∧
 (((lk W7.fname a5b).getD 0) = W7.fas →
 n2 (a1k, O1, (IntKind.wrap .i64 (D5 + 1))) H) ∧
 (¬ (((lk W7.fname a5b).getD 0) = W7.fas) →
 (((lk W7.fname a5b).getD 0) = 0 →
 J5 63 W7.fname b0b cr_1l2 H K) ∧
 (¬ (((lk W7.fname a5b).getD 0) = 0) →
 J5 64 W7.fname b0b cr_1l2 H K))) ∧
 (¬ (D5 < a9U) →
 J5 a1k O1 b0b cr_1l2 H K)
def T2 (x0 : o8) (H : Hp) (K : ByteArray → Int → Hp → Prop) : Prop :=
 a0b x0 H (fun (L8 : Int) (H_6 : Hp) =>
 (¬ (L8 = 0) →
 K ⟨#[]⟩ L8 H_6) ∧
 (L8 = 0 →
 a0P x0.K9 H_6 (fun (b1W : (Option Nat)) (a2A : ByteArray) (a6m : Int) (a4P : Hp) =>
 (¬ (a6m = 0) →
 K a2A a6m a4P) ∧
 (a6m = 0 →
 D7 (b6.mk (Sl.mk none 0 0)) [] x0.W9 a4P (fun (_y0_38 : b6) (a3v : (List b4)) (c1Z : Hp) =>
 TL ((a6m, ⟨#[]⟩, 0) : Int × ByteArray × Int) c1Z fun (s : Int × ByteArray × Int) H n2 => P8 b1W a3v (a3v.length : Int) x0 s.1 s.2.1 s.2.2 H n2 K)))))
theorem a6n (x0 : o8) {w0 w : World} {ps0 : Nat → Prop} {H0 H : Hp} {K : ByteArray → Int → Hp → Prop} {R : Value → World → Prop} {E : Pan} (I : Inv w0 ps0 H0 H [] w) (hR : ∀ (r0 : ByteArray) (r1 : Int) (H' : Hp) (w' : World) (_ : Inv w0 ps0 H0 H' [] w') (_ : K r0 r1 H'), R (Value.tuple #[(Value.string r0), (vi r1)]) w') (h : T2 x0 H K) : F39 (Value.agg (i6 x0).toArray) w R E := by
 unfold T2 at h
 unfold F39
 refine M6 I (cs := (i6 x0)) rfl fun g_2 w_3 I_4 k_5 => ?_
 refine c5 (ldA Tryd.isAgg25 Tryd.sizeOf25 rfl (I_4.at1 (o := 0) (vs := (i6 x0)) (nb rfl) rfl)) ?_
 refine f8 (cap := []) (fun args w => Tryd.call27 args w) ?_
 refine j8 (Fi := []) (Fr := [bx g_2 25 (i6 x0)]) I_4 (h) (fun b3j H_6 b3k w_7 I_8 b3l k_9 a3S => ?_) (fun _ _ _ _ _ q => q.elim)
 obtain ⟨L8, rfl, rfl, h⟩ := a3S
 refine a6 (Z0 _ _ _ _ _ _) ?_
 refine b0g (fun a3V => ?_) (fun a3V => ?_)
 ·replace h := h.1 a3V
  exact hR ⟨#[]⟩ L8 H_6 _ I_8.drop h
 ·replace h := h.2 a3V
  refine a6 X0 ?_
  refine c5 (ld1 Tryd.isAgg22 (I_8.at1 (o := 0) (vs := [(vs x0.K9)]) (nb rfl) rfl)) ?_
  refine f8 (cap := []) (fun args w => Tryd.call75 args w) ?_
  refine j8 (Fi := []) (Fr := [bx g_2 25 (i6 x0)]) I_8 (h) (fun d8R a4P d8S v6 a5Y d8T d1n c2a => ?_) (fun _ _ _ _ _ q => q.elim)
  obtain ⟨b1W, a2A, a6m, rfl, rfl, h⟩ := c2a
  refine a6 (p9 _ _ _ rfl) ?_
  refine a6 (p9 _ _ _ rfl) ?_
  refine a6 (p9 _ _ _ rfl) ?_
  refine a6 (Z0 _ _ _ _ _ _) ?_
  refine b0g (fun a8M => ?_) (fun a8M => ?_)
  ·replace h := h.1 a8M
   exact hR a2A a6m a4P _ a5Y.drop h
  ·replace h := h.2 a8M
   refine a6 (b5c ) ?_
   refine M6 a5Y (cs := [(Value.slice none 0 0)]) rfl fun a6o B8 a8N d1f => ?_
   refine a6 a5k ?_
   refine c5 (ld1 Tryd.isAgg23 ((a8N.bring 1).at1 (o := 1) (vs := [(vs x0.W9)]) (nb rfl) rfl)) ?_
   refine f8 (cap := []) (fun args w => Tryd.call76 args w) ?_
   refine j8 (Fi := [bx a6o 126 [(Value.slice (Sl.mk none 0 0).a (Sl.mk none 0 0).n (Sl.mk none 0 0).c)], []]) (Fr := [bx g_2 25 (i6 x0)]) (a8N.nil.bring 1) (h a6o (Sl.mk none 0 0) ([]) (RowL.nil (e := 128) Z1 Z2)) (fun e2p c1Z e2q e2r d3R d0Z e2s d8U => ?_) (fun _ _ _ _ _ q => q.elim)
   obtain ⟨e0N, a3v, a9b, b3Y, rfl, rfl, a6p, h⟩ := d8U
   have hj1 : ∀ (b1k : Int) (b1l : ByteArray) (H : Hp) (w : World) (_ : Inv w0 ps0 H0 H [bx a6o 126 [(vs a9b)], bx g_2 25 (i6 x0), b3Y] w) (_ : J5 b1k b1l a3v x0 H K), b3L (vi b1k) (Value.string b1l) w R E := by
    intro b1k b1l H w I h
    unfold b3L
    intro _
    unfold J5 at h
    exact hR b1l b1k H _ I.drop.drop.drop h
   refine v2 fun j1 hx1 => ?_
   refine a6 (z8 _) ?_
   refine a6 P6 ?_
   refine c5 (ld1 Tryd.isAgg124 (d3R.at1 (o := 0) (vs := [(vs a9b)]) (nb rfl) rfl)) ?_
   refine a6 (a9i Tryd.underlying124 a6p) ?_
   obtain ⟨c2b, b3Z, d8V, d8W⟩ := h
   refine G2 (J := fun n l w => ∃ (s : Int × ByteArray × Int) (H : Hp) , n = b3Z s ∧ l = (match s with | (a1k, O1, D5) => [(vi a1k), (Value.string O1), (vi D5)]) ∧ (match s with | (a1k, O1, D5) => Inv w0 ps0 H0 H [bx a6o 126 [(vs a9b)], bx g_2 25 (i6 x0), b3Y] w) ∧ c2b s H) ⟨_, (a6m, ⟨#[]⟩, 0), c1Z, rfl, rfl, (((d3R.bring 1).bring 2).bring 2), d8V⟩ ?_
   rintro e2t τ_64 w next2 ⟨⟨a1k, O1, D5⟩, H, rfl, c2c, I, d8X⟩ hn2
   dsimp only at c2c I
   simp only [List.map_cons, List.map_nil, List.cons.injEq, and_true] at c2c
   obtain ⟨e7, e9, e39⟩ := c2c
   simp only [e7, e9, e39]
   obtain ⟨n2, hm2, h⟩ : ∃ n2 : (Int × ByteArray × Int) → Hp → Prop, (∀ s' H', n2 s' H' → c2b s' H' ∧ b3Z s' < b3Z (a1k, O1, D5)) ∧ P8 b1W a3v (a3v.length : Int) x0 a1k O1 D5 H n2 K := ⟨_, fun _ _ h => h, d8W (a1k, O1, D5) H (fun s' H' => c2b s' H' ∧ b3Z s' < b3Z (a1k, O1, D5)) d8X (fun _ _ a b => ⟨a, b⟩)⟩
   unfold b8R
   unfold P8 at h
   refine a6 (K7 _ _ _ _ _ _) ?_
   refine d7 (fun c2d => ?_) (fun c2d => ?_)
   ·replace h := h.1 c2d
    obtain ⟨d3S, W7, a3L, h⟩ := h
    obtain ⟨e2u, e2v, a4I, e2w⟩ := a6p.addr a3L
    refine a6 (b7E a4I _ _ _ _ d3S (a6p.lt d3S a3L)) ?_
    refine c5 (ldA (vs := (i4 W7)) Tryd.isAgg128 Tryd.sizeOf128 rfl (a6p.atW (I.bring 2) a4I a3L)) ?_
    refine E7 I Tryd.zeroValue128 (cs := [(Value.string ⟨#[]⟩), (vi 0)]) rfl fun e2x S2 b3y d1o => ?_
    refine s6 b3y Tryd.sizeOf128 (vs := (i4 W7)) (cs' := (i4 W7)) rfl rfl (nb rfl) rfl rfl fun c1E a4L e2y => ?_
    refine a6 a4D ?_
    refine c5 (ld1 Tryd.isAgg9 (a4L.at1 (o := 0) (vs := [(Value.string W7.fname)]) (nb rfl) rfl)) ?_
    obtain ⟨a5b, d6D, h⟩ := h
    refine b9E (keyS Tryd.underlying9) Tryd.underlying120 (z := 0) Tryd.zeroValue3 a4L d6D W7.fname ?_
    refine a6 b4l ?_
    refine c5 (ld1 Tryd.isAgg3 (a4L.at1 (o := 1) (vs := [(vi W7.fas)]) (nb rfl) rfl)) ?_
    refine a6 (f7 _ _ _ _ _ _) ?_
    refine d7 (fun c2e => ?_) (fun c2e => ?_)
    ·replace h := h.1 c2e
     refine a6 (F8 _ _ _ _ _ _) ?_
     exact hn2 _ _ _ (hm2 _ _ h).2 ⟨(a1k, O1, (IntKind.wrap .i64 (D5 + 1))), H, rfl, rfl, (((a4L.drop.bring 2).bring 2).bring 2), (hm2 _ _ h).1⟩
    ·replace h := h.2 c2e
     refine a6 (f7 _ _ _ _ _ _) ?_
     refine d7 (fun c2f => ?_) (fun c2f => ?_)
     ·replace h := h.1 c2f
      refine a6 a4D ?_
      refine c5 (ld1 Tryd.isAgg9 (a4L.at1 (o := 0) (vs := [(Value.string W7.fname)]) (nb rfl) rfl)) ?_
      exact hx1 _ _ (hj1 63 W7.fname H _ (((a4L.drop.bring 2).bring 2).bring 2) h)
     ·replace h := h.2 c2f
      refine a6 a4D ?_
      refine c5 (ld1 Tryd.isAgg9 (a4L.at1 (o := 0) (vs := [(Value.string W7.fname)]) (nb rfl) rfl)) ?_
      exact hx1 _ _ (hj1 64 W7.fname H _ (((a4L.drop.bring 2).bring 2).bring 2) h)
   ·replace h := h.2 c2d
    exact hx1 _ _ (hj1 a1k O1 H _ (((I.bring 2).bring 2).bring 2) h)
theorem a6x (x0 : o8) {H : Hp} {K : ByteArray → Int → Hp → Prop} (h : T2 x0 H K) : N2 x0 H K := by
 intro w I
 refine d2m ?_
 refine a6n x0 I (fun r0 r1 H' w' I' hk => ⟨H', _, I', r0, r1, rfl, rfl, hk⟩) h
def K6 (H : Hp) (K : Bool → Hp → Prop) : Prop :=
 ∀ (s_2 : Sl) (H_8 : Hp), Hle H H_8 → SlH H_8 2 g7 s_2 [(d6.mk ⟨#[120]⟩ 0), (d6.mk ⟨#[120]⟩ 0)] → s_2.n ≤ s_2.c →
 N2 (o8.mk s_2 (Sl.mk none 0 0)) H_8 (fun (b7d : ByteArray) (b7e : Int) (a2O : Hp) =>
 K ((decide (b7d = ⟨#[120]⟩)) && (decide (b7e = 60))) a2O)
theorem a2W {w0 w : World} {ps0 : Nat → Prop} {H0 H : Hp} {K : Bool → Hp → Prop} {R : Value → World → Prop} {E : Pan} (I : Inv w0 ps0 H0 H [] w) (hR : ∀ (r0 : Bool) (H' : Hp) (w' : World) (_ : Inv w0 ps0 H0 H' [] w') (_ : K r0 H'), R (Value.bool r0) w') (h : K6 H K) : F38 w R E := by
 unfold K6 at h
 unfold F38
 refine a6 (a8b _) ?_
 refine a6 (a8b _) ?_
 refine a1w (e := 67) (c := g7) (xs := [(d6.mk ⟨#[120]⟩ 0), (d6.mk ⟨#[120]⟩ 0)]) I (c3h _ _ _ _) rfl rfl a2J a2K (nb rfl) fun s_2 F_3 w_4 h_5 I_6 k_7 => ?_
 refine a6 (b4k _ _ _) ?_
 obtain ⟨H_8, I_9, d8Y, d8Z, c1N⟩ := Inv.freezeC I_6 h_5 (by decide)
 replace h := h s_2 H_8 d8Y d8Z c1N
 refine f8 (cap := []) (fun args w => Tryd.call39 args w) ?_
 refine j8 (Fi := []) (Fr := []) I_9 (h) (fun e2z a2O e2A r9 a8H e2B b5U d9a => ?_) (fun _ _ _ _ _ q => q.elim)
 obtain ⟨b7d, b7e, rfl, rfl, h⟩ := d9a
 refine a6 (p9 _ _ _ rfl) ?_
 refine a6 (p9 _ _ _ rfl) ?_
 refine a6 (P9 _ _ _ _ _) ?_
 try simp only [Q8]
 refine a6 (Pu.g fun hb => by have a7 := hb; first | exact (f7 _ _ _ _ _ _) | (simp only [b5 a7]; exact (f7 _ _ _ _ _ _)) | (simp only [c7 a7, b5 a7, b5 hb, m8 a7, p1]; exact (f7 _ _ _ _ _ _))) ?_
 refine a6 (J0 _ _) ?_
 exact hR ((decide (b7d = ⟨#[120]⟩)) && (decide (b7e = 60))) a2O _ a8H h
theorem a3k {H : Hp} {K : Bool → Hp → Prop} (h : K6 H K) : R0 H K := by
 intro w I
 refine d1Q ?_
 refine a2W I (fun r0 H' w' I' hk => ⟨H', _, I', r0, rfl, rfl, hk⟩) h
def C9 (i7 : Int) (ccr_24j1_0 : (List d6)) (cr_24j1_1 : Sl) (_cr_1j1 : o8) (H : Hp) (K : Bool → Hp → Prop) : Prop :=
 ∀ (scr_24j1_0 : Sl) (b4a : Hp), Hle H b4a → SlH b4a 2 g7 scr_24j1_0 ccr_24j1_0 → scr_24j1_0.n ≤ scr_24j1_0.c →
 N2 (o8.mk scr_24j1_0 cr_24j1_1) b4a (fun (_r0_71 : ByteArray) (b7f : Int) (c2g : Hp) =>
 K ((decide (i7 = 0)) == (decide (b7f = 0))) c2g)
def D1 (d9b : Int) (cr_1l2 : o8) (a0L : Int) (ccr_24l2_0 : (List d6)) (cr_24l2_1 : Sl) (H : Hp) (n2 : (Int × (List d6) × Sl) → Hp → Prop) (K : Bool → Hp → Prop) : Prop :=
 (0 ≤ a0L →
 (0 : Int) ≤ a0L ∧ (a0L : Int) < cr_1l2.K9.n ∧ ∃ a9c : d6, EltH H cr_1l2.K9 a0L 2 (g7 a9c) ∧
 (ccr_24l2_0.length + ([a9c] : List d6).length) * 25 ≤ 140737488355328 ∧
 n2 ((IntKind.wrap .i64 (a0L - 1)), (ccr_24l2_0 ++ [a9c]), cr_24l2_1) H) ∧
 (¬ (0 ≤ a0L) →
 C9 d9b ccr_24l2_0 cr_24l2_1 cr_1l2 H K)
def E6 (x0 : o8) (H : Hp) (K : Bool → Hp → Prop) : Prop :=
 R0 H (fun (L8 : Bool) (H_6 : Hp) =>
 ((!L8) = true →
 K false H_6) ∧
 ((!L8) = false →
 N2 x0 H_6 (fun (_r0_23 : ByteArray) (a2A : Int) (a4P : Hp) =>
 (100 < (x0.K9.n : Int) →
 K true a4P) ∧
 (¬ (100 < (x0.K9.n : Int)) →
 TL (((IntKind.wrap .i64 ((x0.K9.n : Int) - 1)), [], x0.W9) : Int × (List d6) × Sl) a4P fun (s : Int × (List d6) × Sl) H n2 => D1 a2A x0 s.1 s.2.1 s.2.2 H n2 K))))
theorem a1s (x0 : o8) {w0 w : World} {ps0 : Nat → Prop} {H0 H : Hp} {K : Bool → Hp → Prop} {R : Value → World → Prop} {E : Pan} (I : Inv w0 ps0 H0 H [] w) (hR : ∀ (r0 : Bool) (H' : Hp) (w' : World) (_ : Inv w0 ps0 H0 H' [] w') (_ : K r0 H'), R (Value.bool r0) w') (h : E6 x0 H K) : F9 (Value.agg (i6 x0).toArray) w R E := by
 unfold E6 at h
 unfold F9
 refine M6 I (cs := (i6 x0)) rfl fun g_2 w_3 I_4 k_5 => ?_
 refine f8 (cap := []) (fun args w => Tryd.call38 args w) ?_
 refine j8 (Fi := []) (Fr := [bx g_2 25 (i6 x0)]) I_4 (h) (fun b3j H_6 b3k w_7 I_8 b3l k_9 a3S => ?_) (fun _ _ _ _ _ q => q.elim)
 obtain ⟨L8, rfl, rfl, h⟩ := a3S
 refine a6 (D6 _) ?_
 refine r8 (fun b7g => ?_) (fun b7g => ?_)
 ·replace h := h.1 b7g
  exact hR false H_6 _ I_8.drop h
 ·replace h := h.2 b7g
  refine c5 (ldA Tryd.isAgg25 Tryd.sizeOf25 rfl (I_8.at1 (o := 0) (vs := (i6 x0)) (nb rfl) rfl)) ?_
  refine f8 (cap := []) (fun args w => Tryd.call39 args w) ?_
  refine j8 (Fi := []) (Fr := [bx g_2 25 (i6 x0)]) I_8 (h) (fun d8R a4P d8S v6 a5Y d8T d1n c2a => ?_) (fun _ _ _ _ _ q => q.elim)
  obtain ⟨b1W, a2A, rfl, rfl, h⟩ := c2a
  refine a6 (p9 _ _ _ rfl) ?_
  refine a6 (p9 _ _ _ rfl) ?_
  refine a6 X0 ?_
  refine c5 (ld1 Tryd.isAgg22 (a5Y.at1 (o := 0) (vs := [(vs x0.K9)]) (nb rfl) rfl)) ?_
  refine a6 (a4n _ _ _) ?_
  refine a6 (a2B _ _ _ _ _ _) ?_
  refine d7 (fun b7h => ?_) (fun b7h => ?_)
  ·replace h := h.1 b7h
   exact hR true a4P _ a5Y.drop h
  ·replace h := h.2 b7h
   refine a6 a5k ?_
   refine c5 (ld1 Tryd.isAgg23 (a5Y.at1 (o := 1) (vs := [(vs x0.W9)]) (nb rfl) rfl)) ?_
   refine a6 (b4i _ _ _) ?_
   refine E7 a5Y Tryd.zeroValue25 (cs := [(Value.slice none 0 0), (Value.slice none 0 0)]) rfl fun a6o B8 a8N d1f => ?_
   refine s6 a8N Tryd.sizeOf25 (vs := [(Value.slice none 0 0), (vs x0.W9)]) (cs' := [(Value.slice none 0 0), (vs x0.W9)]) rfl rfl (nb rfl) rfl rfl fun d0S a0I b2Y => ?_
   have hj1 : ∀ (ccr_24j1_0 : (List d6)) (cr_24j1_1 : Sl) (scr_24j1_0 : Sl) (Fcr_24j1_0 : Frag) (H : Hp) (w : World) (_ : RowL 67 2 g7 scr_24j1_0 ccr_24j1_0 Fcr_24j1_0) (_ : Inv w0 ps0 H0 H [bx a6o 25 [(vs scr_24j1_0), (vs cr_24j1_1)], bx g_2 25 (i6 x0), Fcr_24j1_0] w) (_ : C9 a2A ccr_24j1_0 cr_24j1_1 x0 H K), b6t (vi a2A) (Value.pointer (some ⟨a6o, 0, none⟩)) w R E := by
    intro ccr_24j1_0 cr_24j1_1 scr_24j1_0 Fcr_24j1_0 H w hcr_24j1_0 I h
    unfold b6t
    intro _
    unfold C9 at h
    refine c5 (ldA Tryd.isAgg25 Tryd.sizeOf25 rfl (I.at1 (o := 0) (vs := [(vs scr_24j1_0), (vs cr_24j1_1)]) (nb rfl) rfl)) ?_
    obtain ⟨b4a, a5U, d9c, c1I, b3h⟩ := Inv.freezeC (I.bring 2) hcr_24j1_0 (by decide)
    replace h := h scr_24j1_0 b4a d9c c1I b3h
    refine f8 (cap := []) (fun args w => Tryd.call39 args w) ?_
    refine j8 (Fi := []) (Fr := [bx a6o 25 [(vs scr_24j1_0), (vs cr_24j1_1)], bx g_2 25 (i6 x0)]) a5U (h) (fun e2C c2g e2D Z6 d9d c1b e2E d9e => ?_) (fun _ _ _ _ _ q => q.elim)
    obtain ⟨a4u, b7f, rfl, rfl, h⟩ := d9e
    refine a6 (p9 _ _ _ rfl) ?_
    refine a6 (p9 _ _ _ rfl) ?_
    refine a6 (f7 _ _ _ _ _ _) ?_
    refine a6 (f7 _ _ _ _ _ _) ?_
    refine a6 (b9F _ _ _ _) ?_
    exact hR ((decide (a2A = 0)) == (decide (b7f = 0))) c2g _ d9d.drop.drop h
   refine v2 fun j1 hx1 => ?_
   refine a6 X0 ?_
   refine c5 (ld1 Tryd.isAgg22 ((a0I.bring 1).at1 (o := 0) (vs := [(vs x0.K9)]) (nb rfl) rfl)) ?_
   refine a6 (a4n _ _ _) ?_
   refine a6 (a6D _ _ _ _ _ _) ?_
   obtain ⟨b7i, b0c, d6E, d6F⟩ := h
   refine G2 (J := fun n l w => ∃ (s : Int × (List d6) × Sl) (H : Hp) (scr_24l2_0 : Sl) (Fcr_24l2_0 : Frag) , n = b0c s ∧ l = (match s with | (a0L, ccr_24l2_0, cr_24l2_1) => [(vi a0L)]) ∧ (match s with | (a0L, ccr_24l2_0, cr_24l2_1) => RowL 67 2 g7 scr_24l2_0 ccr_24l2_0 Fcr_24l2_0) ∧ (match s with | (a0L, ccr_24l2_0, cr_24l2_1) => Inv w0 ps0 H0 H [bx a6o 25 [(vs scr_24l2_0), (vs cr_24l2_1)], bx g_2 25 (i6 x0), Fcr_24l2_0] w) ∧ b7i s H) ⟨_, ((IntKind.wrap .i64 ((x0.K9.n : Int) - 1)), [], x0.W9), a4P, (Sl.mk none 0 0), [], rfl, rfl, (RowL.nil a2J a2K), ((a0I.nil.bring 2).bring 2), d6E⟩ ?_
   rintro e0O τ_113 w next2 ⟨⟨a0L, ccr_24l2_0, cr_24l2_1⟩, H, scr_24l2_0, Fcr_24l2_0, rfl, b7j, hcr_24l2_0, I, d6G⟩ hn2
   dsimp only at b7j I hcr_24l2_0
   simp only [List.map_cons, List.map_nil, List.cons.injEq, and_true] at b7j
   have e6 := b7j
   simp only [e6]
   obtain ⟨n2, hm2, h⟩ : ∃ n2 : (Int × (List d6) × Sl) → Hp → Prop, (∀ s' H', n2 s' H' → b7i s' H' ∧ b0c s' < b0c (a0L, ccr_24l2_0, cr_24l2_1)) ∧ D1 a2A x0 a0L ccr_24l2_0 cr_24l2_1 H n2 K := ⟨_, fun _ _ h => h, d6F (a0L, ccr_24l2_0, cr_24l2_1) H (fun s' H' => b7i s' H' ∧ b0c s' < b0c (a0L, ccr_24l2_0, cr_24l2_1)) d6G (fun _ _ a b => ⟨a, b⟩)⟩
   unfold c2x
   unfold D1 at h
   refine a6 (a6C _ _ _ _ _ _) ?_
   refine d7 (fun b7k => ?_) (fun b7k => ?_)
   ·replace h := h.1 b7k
    refine a1u I fun e2F b4b => ?_
    refine i8 X0 ?_
    refine i8 X0 ?_
    refine E8 (ld1 Tryd.isAgg22 (b4b.at1 (o := 0) (vs := [(vs scr_24l2_0)]) (nb rfl) rfl)) ?_
    refine E8 (ld1 Tryd.isAgg22 ((b4b.bring 1).at1 (o := 0) (vs := [(vs x0.K9)]) (nb rfl) rfl)) ?_
    obtain ⟨d9f, d9g, a9c, c2h, h⟩ := h
    obtain ⟨e2G, e2H, d9h, c2h⟩ := c2h
    refine i8 (a8o d9h _ _ _ _ d9f d9g) ?_
    refine E8 (ldA (vs := (g7 a9c)) Tryd.isAgg67 Tryd.sizeOf67 rfl (b4b.atH c2h)) ?_
    refine a1w (e := 67) (c := g7) (xs := [a9c]) b4b (c3g _ _) rfl rfl a2J a2K (nb rfl) fun e2I e2J e2K d9i d3T d9j => ?_
    refine ⟨(d9j _ b4b.lt1), ?_⟩
    obtain ⟨b6E, h⟩ := h
    refine c5E (s := scr_24l2_0) (xs := ccr_24l2_0) (d3T.bring 3) hcr_24l2_0 (d9i.srcO ((d3T.bring 3).bring 1)) b6E fun c2i d9k b6w d6H d6I e0P => ?_
    refine i8 X0 ?_
    refine s6 ((d6I.bring 1).drop.bring 1) Tryd.sizeOf22 (vs := [(vs c2i)]) (cs' := [(vs c2i), (vs cr_24l2_1)]) rfl rfl (nb rfl) rfl rfl fun a5B d6J e0Q => ?_
    refine a6 (a6D _ _ _ _ _ _) ?_
    exact hn2 _ _ _ (hm2 _ _ h).2 ⟨((IntKind.wrap .i64 (a0L - 1)), (ccr_24l2_0 ++ [a9c]), cr_24l2_1), H, c2i, d9k, rfl, rfl, d6H, (((d6J.bring 1).bring 2).bring 2), (hm2 _ _ h).1⟩
   ·replace h := h.2 b7k
    exact hx1 _ _ (hj1 ccr_24l2_0 cr_24l2_1 scr_24l2_0 Fcr_24l2_0 H _ hcr_24l2_0 (((I.bring 2).bring 2).bring 2) h)
theorem a1R (x0 : o8) {H : Hp} {K : Bool → Hp → Prop} (h : E6 x0 H K) : L3 x0 H K := by
 intro w I
 refine d4S ?_
 refine a1s x0 I (fun r0 H' w' I' hk => ⟨H', _, I', r0, rfl, rfl, hk⟩) h
def U3 (x0 : d6) (H : Hp) (K : Int → Hp → Prop) : Prop :=
 (0 < x0.K0 →
 K 2 H) ∧
 (¬ (0 < x0.K0) →
 K 1 H)
theorem a6y (x0 : d6) {w0 w : World} {ps0 : Nat → Prop} {H0 H : Hp} {K : Int → Hp → Prop} {R : Value → World → Prop} {E : Pan} (I : Inv w0 ps0 H0 H [] w) (hR : ∀ (r0 : Int) (H' : Hp) (w' : World) (_ : Inv w0 ps0 H0 H' [] w') (_ : K r0 H'), R (vi r0) w') (h : U3 x0 H K) : b6x (Value.agg (g7 x0).toArray) w R E := by
 unfold U3 at h
 unfold b6x
 refine M6 I (cs := (g7 x0)) rfl fun g_2 w_3 I_4 k_5 => ?_
 refine a6 a0t ?_
 refine c5 (ld1 Tryd.isAgg3 (I_4.at1 (o := 1) (vs := [(vi x0.K0)]) (nb rfl) rfl)) ?_
 refine a6 (a2B _ _ _ _ _ _) ?_
 refine d7 (fun c_6 => ?_) (fun c_6 => ?_)
 ·replace h := h.1 c_6
  exact hR 2 H _ I_4.drop h
 ·replace h := h.2 c_6
  exact hR 1 H _ I_4.drop h
theorem a7q (x0 : d6) {H : Hp} {K : Int → Hp → Prop} (h : U3 x0 H K) : a2F x0 H K := by
 intro w I
 refine c5o ?_
 refine a6y x0 I (fun r0 H' w' I' hk => ⟨H', _, I', r0, rfl, rfl, hk⟩) h
end Go.Proofs.YthldnpmfelniiaaDoor
