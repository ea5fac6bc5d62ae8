/- Typed formulas of the program's functions that few laws need; printed by lift.py off the code. -/
import Derived.Test.YthldnpmfelniiaaDoorzLV1
import Derived.Test.YthldnpmfelniiaaDoorzLG1w
namespace Go.Proofs.YthldnpmfelniiaaDoor
open Go.RowKit
set_option maxRecDepth 100000
set_option maxHeartbeats 2000000
def S3 (X0 : Int) (H : Hp) (K : Int → Hp → Prop) : Prop :=
 K X0 H
def S4 (d7J : Sl) (b5q : Int) (a4f : Int) (D3 : Int) (H : Hp) (n2 : (Int × Int) → Hp → Prop) (K : Int → Hp → Prop) : Prop :=
 (D3 < b5q →
 (0 : Int) ≤ D3 ∧ (D3 : Int) < d7J.n ∧ ∃ x_1 : Int, EltH H d7J D3 1 [(Value.int .u8 x_1)] ∧
 n2 ((IntKind.wrap .u64 ((bxorI .u64 a4f (IntKind.wrap .u64 x_1)) * 1099511628211)), (IntKind.wrap .i64 (D3 + 1))) H) ∧
 (¬ (D3 < b5q) →
 S3 a4f H K)
def X8 (x0 : Sl) (H : Hp) (K : Int → Hp → Prop) : Prop :=
 TL ((14695981039346656037, 0) : Int × Int) H fun (s : Int × Int) H n2 => S4 x0 (x0.n : Int) s.1 s.2 H n2 K
theorem a7G (x0 : Sl) {w0 w : World} {ps0 : Nat → Prop} {H0 H : Hp} {K : Int → Hp → Prop} {R : Value → World → Prop} {E : Pan} (I : Inv w0 ps0 H0 H [] w) (hR : ∀ (r0 : Int) (H' : Hp) (w' : World) (_ : Inv w0 ps0 H0 H' [] w') (_ : K r0 H'), R (Value.int .u64 r0) w') (h : X8 x0 H K) : F22 (vs x0) w R E := by
 unfold X8 at h
 unfold F22
 have hj1 : ∀ (X0 : Int) (H : Hp) (w : World) (_ : Inv w0 ps0 H0 H [] w) (_ : S3 X0 H K), b5W (Value.int .u64 X0) w R E := by
  intro X0 H w I h
  unfold b5W
  intro _
  unfold S3 at h
  exact hR X0 H _ I h
 refine o8 fun j1 hx1 => ?_
 refine a7 (a3L _ _ _) ?_
 obtain ⟨J_9, b6e, e3y, e3z⟩ := h
 refine y8 (J := fun n l w => ∃ (s : Int × Int) (H : Hp) , n = b6e s ∧ l = (match s with | (a4f, D3) => [(Value.int .u64 a4f), (vi D3)]) ∧ (match s with | (a4f, D3) => Inv w0 ps0 H0 H [] w) ∧ J_9 s H) ⟨_, (14695981039346656037, 0), H, rfl, rfl, I, e3y⟩ ?_
 rintro e7N τ_14 w next2 ⟨⟨a4f, D3⟩, H, rfl, b2l, I, e3A⟩ hn2
 dsimp only at b2l I
 simp only [List.map_cons, List.map_nil, List.cons.injEq, and_true] at b2l
 obtain ⟨e3, e8⟩ := b2l
 simp only [e3, e8]
 obtain ⟨n2, hm2, h⟩ : ∃ n2 : (Int × Int) → Hp → Prop, (∀ s' H', n2 s' H' → J_9 s' H' ∧ b6e s' < b6e (a4f, D3)) ∧ S4 x0 (x0.n : Int) a4f D3 H n2 K := ⟨_, fun _ _ h => h, e3z (a4f, D3) H (fun s' H' => J_9 s' H' ∧ b6e s' < b6e (a4f, D3)) e3A (fun _ _ a b => ⟨a, b⟩)⟩
 unfold c1C
 unfold S4 at h
 refine a7 (C3 _ _ _ _ _ _) ?_
 refine d9 (fun c_8 => ?_) (fun c_8 => ?_)
 ·replace h := h.1 c_8
  obtain ⟨h_4, h_5, x_1, h_7, h⟩ := h
  obtain ⟨g_2, o_3, h_6, h_7⟩ := h_7
  refine a7 (b3O h_6 _ _ _ _ h_4 h_5) ?_
  refine b7 (ld1 (v := (Value.int .u8 x_1)) Tryd.isAgg5 (I.atH h_7)) ?_
  refine a7 (b7p _ _) ?_
  refine a7 (c5I _ _ _ _ _ _) ?_
  refine a7 (b3y _ _ _ _ _ _) ?_
  refine a7 (v7 _ _ _ _ _ _) ?_
  exact hn2 _ _ _ (hm2 _ _ h).2 ⟨((IntKind.wrap .u64 ((bxorI .u64 a4f (IntKind.wrap .u64 x_1)) * 1099511628211)), (IntKind.wrap .i64 (D3 + 1))), H, rfl, rfl, I, (hm2 _ _ h).1⟩
 ·replace h := h.2 c_8
  exact hx1 _ _ (hj1 a4f H _ I h)
theorem a8E (x0 : Sl) {H : Hp} {K : Int → Hp → Prop} (h : X8 x0 H K) : a3N x0 H K := by
 intro w I
 refine d6c ?_
 refine a7G x0 I (fun r0 H' w' I' hk => ⟨H', _, I', r0, rfl, rfl, hk⟩) h
def K5 (a5O : X1) (_cr_1l2 : X1) (U3 : Int) (V2 : (List Int)) (H : Hp) (n2 : (Int × (List Int)) → Hp → Prop) (K : Sl → (List Int) → Hp → Prop) : Prop :=
 (U3 < 4 →
 (0 : Int) ≤ U3 ∧ (U3 : Int) < 4 ∧
 (V2.length + ([IntKind.wrap .u8 (([a5O.f0, a5O.f1, a5O.f2, a5O.f3] : List Int).getD (U3 : Int).toNat 0)] : List Int).length) * 2 ≤ 140737488355328 ∧
 n2 ((IntKind.wrap .i64 (U3 + 1)), (V2 ++ [IntKind.wrap .u8 (([a5O.f0, a5O.f1, a5O.f2, a5O.f3] : List Int).getD (U3 : Int).toNat 0)])) H) ∧
 (¬ (U3 < 4) →
 K (Sl.mk none 0 0) V2 H)
def K6 (X0 : ByteArray) (a1L : (List Int)) (cr_1j1 : X1) (H : Hp) (K : Sl → (List Int) → Hp → Prop) : Prop :=
 ((a1L : List Int).length + X0.size) * 2 ≤ 140737488355328 ∧
 ((a1L ++ (sbytes X0)).length + ([0] : List Int).length) * 2 ≤ 140737488355328 ∧
 TL ((0, ((a1L ++ (sbytes X0)) ++ [0])) : Int × (List Int)) H fun (s : Int × (List Int)) H n2 => K5 cr_1j1 cr_1j1 s.1 s.2 H n2 K
def K7 (d7K : Int) (c4z : ByteArray) (cr_1l3 : X1) (W1 : Int) (V3 : (List Int)) (H : Hp) (n3 : (Int × (List Int)) → Hp → Prop) (K : Sl → (List Int) → Hp → Prop) : Prop :=
 (W1 < 8 →
 (0 : Int) ≤ IntKind.wrap .i64 (56 - (IntKind.wrap .i64 (8 * W1))) ∧
 (V3.length + ([IntKind.wrap .u8 (shrI .u64 (IntKind.wrap .u64 d7K) (IntKind.wrap .i64 (56 - (IntKind.wrap .i64 (8 * W1)))))] : List Int).length) * 2 ≤ 140737488355328 ∧
 n3 ((IntKind.wrap .i64 (W1 + 1)), (V3 ++ [IntKind.wrap .u8 (shrI .u64 (IntKind.wrap .u64 d7K) (IntKind.wrap .i64 (56 - (IntKind.wrap .i64 (8 * W1)))))])) H) ∧
 (¬ (W1 < 8) →
 K6 c4z V3 cr_1l3 H K)
def P0 (x0 : Int) (x1 : Int) (x2 : Int) (x3 : ByteArray) (x4 : X1) (_x5 : Sl) (x5_ : (List Int)) (H : Hp) (K : Sl → (List Int) → Hp → Prop) : Prop :=
 (x5_.length + ([x0, IntKind.wrap .u8 x1] : List Int).length) * 2 ≤ 140737488355328 ∧
 TL ((0, (x5_ ++ [x0, IntKind.wrap .u8 x1])) : Int × (List Int)) H fun (s : Int × (List Int)) H n3 => K7 x2 x3 x4 s.1 s.2 H n3 K
theorem a5u (x0 : Int) (x1 : Int) (x2 : Int) (x3 : ByteArray) (x4 : X1) (x5 : Sl) (x5_ : (List Int)) (g5 : Nat) (sx5_ : Sl) (Fx5_ : Frag) (hx5_ : RowL 5 1 i4 sx5_ x5_ Fx5_) {w0 w : World} {ps0 : Nat → Prop} {H0 H : Hp} {K : Sl → (List Int) → Hp → Prop} {R : Value → World → Prop} {E : Pan} (I : Inv w0 ps0 H0 H [bx g5 40 [(vs sx5_)], Fx5_] w) (hR : ∀ (y0 : Sl) (y0_ : (List Int)) (sy0_ : Sl) (Fy0_ : Frag) (H' : Hp) (w' : World) (_ : RowL 5 1 i4 sy0_ y0_ Fy0_) (_ : Inv w0 ps0 H0 H' [bx g5 40 [(vs sy0_)], Fy0_] w') (_ : K y0 y0_ H'), R (Value.tuple #[]) w') (h : P0 x0 x1 x2 x3 x4 x5 x5_ H K) : F68 (Value.int .u8 x0) (vi x1) (vi x2) (Value.string x3) (Value.agg #[(vi x4.f0), (vi x4.f1), (vi x4.f2), (vi x4.f3)]) (Value.pointer (some ⟨g5, 0, none⟩)) w R E := by
 unfold P0 at h
 unfold F68
 refine K1 I (cs := [(vi x4.f0), (vi x4.f1), (vi x4.f2), (vi x4.f3)]) rfl fun g_2 w_3 I_4 k_5 => ?_
 refine b7 (ld1 Tryd.isAgg40 ((I_4.bring 1).at1 (o := 0) (vs := [(vs sx5_)]) (nb rfl) rfl)) ?_
 refine a7 (b2L _ _) ?_
 refine a1S (e := 5) (c := i4) (xs := [x0, IntKind.wrap .u8 x1]) I_4 (c5O _ _) rfl rfl a2B a2C (nb rfl) fun s_7 F_8 w_9 b5I Y3 a8p => ?_
 obtain ⟨b5J, h⟩ := h
 refine b0B (s := sx5_) (xs := x5_) (Y3.bring 3) hx5_ (b5I.srcO ((Y3.bring 3).bring 1)) b5J fun b5K b8i a3U c4c a3p c3A => ?_
 refine r5 ((a3p.bring 1).drop.bring 2) Tryd.sizeOf40 (vs := [(vs b5K)]) (cs' := [(vs b5K)]) rfl rfl (nb rfl) rfl rfl fun r6 a7j b8u => ?_
 have hj1 : ∀ (a1L : (List Int)) (a8F : Sl) (Fcp5j1 : Frag) (H : Hp) (w : World) (_ : RowL 5 1 i4 a8F a1L Fcp5j1) (_ : Inv w0 ps0 H0 H [bx g5 40 [(vs a8F)], bx g_2 114 [(vi x4.f0), (vi x4.f1), (vi x4.f2), (vi x4.f3)], Fcp5j1] w) (_ : K6 x3 a1L x4 H K), b5Z (Value.string x3) (Value.pointer (some ⟨g5, 0, none⟩)) (Value.pointer (some ⟨g_2, 0, none⟩)) w R E := by
  intro a1L a8F Fcp5j1 H w d7L I h
  unfold b5Z
  intro _
  unfold K6 at h
  refine b7 (ld1 Tryd.isAgg40 (I.at1 (o := 0) (vs := [(vs a8F)]) (nb rfl) rfl)) ?_
  obtain ⟨c4p, h⟩ := h
  refine c0r (s := a8F) (xs := a1L) (b := x3) (I.bring 2) d7L c4p fun e3B e7O c2o e3C c4A e3D => ?_
  refine a1S (e := 5) (c := i4) (xs := [0]) c4A (a8R _) rfl rfl a2B a2C (nb rfl) fun e7P e2m e1N a3y b9e e3m => ?_
  obtain ⟨e3E, h⟩ := h
  refine b0B (s := e3B) (xs := a1L ++ (sbytes x3)) (b9e.bring 1) e3C (a3y.srcO ((b9e.bring 1).bring 1)) e3E fun b5d d5h c4y e3F b6f e3G => ?_
  refine r5 ((b6f.bring 1).drop.bring 1) Tryd.sizeOf40 (vs := [(vs b5d)]) (cs' := [(vs b5d)]) rfl rfl (nb rfl) rfl rfl fun S8 b9j e3H => ?_
  refine b7 (ldA Tryd.isAgg114 Tryd.sizeOf114 rfl ((b9j.bring 2).at1 (o := 0) (vs := [(vi x4.f0), (vi x4.f1), (vi x4.f2), (vi x4.f3)]) (nb rfl) rfl)) ?_
  obtain ⟨b9k, b1x, d9o, d9p⟩ := h
  refine y8 (J := fun n l w => ∃ (s : Int × (List Int)) (H : Hp) (a6x : Sl) (Fcp5l2 : Frag) , n = b1x s ∧ l = (match s with | (U3, V2) => [(vi U3)]) ∧ (match s with | (U3, V2) => RowL 5 1 i4 a6x V2 Fcp5l2) ∧ (match s with | (U3, V2) => Inv w0 ps0 H0 H [bx g5 40 [(vs a6x)], bx g_2 114 [(vi x4.f0), (vi x4.f1), (vi x4.f2), (vi x4.f3)], Fcp5l2] w) ∧ b9k s H) ⟨_, (0, ((a1L ++ (sbytes x3)) ++ [0])), H, b5d, d5h, rfl, rfl, e3F, (((b9j.bring 1).bring 2).bring 2), d9o⟩ ?_
  rintro e4B τ_120 w next2 ⟨⟨U3, V2⟩, H, a6x, Fcp5l2, rfl, b3r, b6g, I, d9q⟩ hn2
  dsimp only at b3r I b6g
  simp only [List.map_cons, List.map_nil, List.cons.injEq, and_true] at b3r
  have e40 := b3r
  simp only [e40]
  obtain ⟨n2, hm2, h⟩ : ∃ n2 : (Int × (List Int)) → Hp → Prop, (∀ s' H', n2 s' H' → b9k s' H' ∧ b1x s' < b1x (U3, V2)) ∧ K5 x4 x4 U3 V2 H n2 K := ⟨_, fun _ _ h => h, d9p (U3, V2) H (fun s' H' => b9k s' H' ∧ b1x s' < b1x (U3, V2)) d9q (fun _ _ a b => ⟨a, b⟩)⟩
  unfold c1F
  unfold K5 at h
  refine a7 (C3 _ _ _ _ _ _) ?_
  refine d9 (fun b9l => ?_) (fun b9l => ?_)
  ·replace h := h.1 b9l
   obtain ⟨e3I, e3J, h⟩ := h
   refine a7 (b7u _ _ _ _ _ _ e3I e3J) ?_
   refine b7 (ld1 Tryd.isAgg40 (I.at1 (o := 0) (vs := [(vs a6x)]) (nb rfl) rfl)) ?_
   refine a7 (b2L _ _) ?_
   refine a1S (e := 5) (c := i4) (xs := [IntKind.wrap .u8 (([x4.f0, x4.f1, x4.f2, x4.f3] : List Int).getD (U3 : Int).toNat 0)]) I (a8R _) rfl rfl a2B a2C (nb rfl) fun e7Q e7R a1q d9r c5m e4C => ?_
   obtain ⟨d9s, h⟩ := h
   refine b0B (s := a6x) (xs := V2) (c5m.bring 3) b6g (d9r.srcO ((c5m.bring 3).bring 1)) d9s fun b1y d9t a4n d9u d9v e4D => ?_
   refine r5 ((d9v.bring 1).drop.bring 1) Tryd.sizeOf40 (vs := [(vs b1y)]) (cs' := [(vs b1y)]) rfl rfl (nb rfl) rfl rfl fun d9w a9q d9x => ?_
   refine a7 (v7 _ _ _ _ _ _) ?_
   exact hn2 _ _ _ (hm2 _ _ h).2 ⟨((IntKind.wrap .i64 (U3 + 1)), (V2 ++ [IntKind.wrap .u8 (([x4.f0, x4.f1, x4.f2, x4.f3] : List Int).getD (U3 : Int).toNat 0)])), H, b1y, d9t, rfl, rfl, d9u, (((a9q.bring 1).bring 2).bring 2), (hm2 _ _ h).1⟩
  ·replace h := h.2 b9l
   exact hR (Sl.mk none 0 0) V2 a6x Fcp5l2 H _ b6g (((I.bring 1).drop.bring 1).bring 1) h
 refine o8 fun j1 hx1 => ?_
 obtain ⟨b9m, b1z, d9y, d9z⟩ := h
 refine y8 (J := fun n l w => ∃ (s : Int × (List Int)) (H : Hp) (a6y : Sl) (Fcp5l3 : Frag) , n = b1z s ∧ l = (match s with | (W1, V3) => [(vi W1)]) ∧ (match s with | (W1, V3) => RowL 5 1 i4 a6y V3 Fcp5l3) ∧ (match s with | (W1, V3) => Inv w0 ps0 H0 H [bx g5 40 [(vs a6y)], bx g_2 114 [(vi x4.f0), (vi x4.f1), (vi x4.f2), (vi x4.f3)], Fcp5l3] w) ∧ b9m s H) ⟨_, (0, (x5_ ++ [x0, IntKind.wrap .u8 x1])), H, b5K, b8i, rfl, rfl, c4c, (((a7j.bring 1).bring 2).bring 2), d9y⟩ ?_
 rintro e4E τ_158 w next3 ⟨⟨W1, V3⟩, H, a6y, Fcp5l3, rfl, b9n, b6h, I, d9A⟩ hn3
 dsimp only at b9n I b6h
 simp only [List.map_cons, List.map_nil, List.cons.injEq, and_true] at b9n
 have e20 := b9n
 simp only [e20]
 obtain ⟨n3, hm3, h⟩ : ∃ n3 : (Int × (List Int)) → Hp → Prop, (∀ s' H', n3 s' H' → b9m s' H' ∧ b1z s' < b1z (W1, V3)) ∧ K7 x2 x3 x4 W1 V3 H n3 K := ⟨_, fun _ _ h => h, d9z (W1, V3) H (fun s' H' => b9m s' H' ∧ b1z s' < b1z (W1, V3)) d9A (fun _ _ a b => ⟨a, b⟩)⟩
 unfold c1G
 unfold K7 at h
 refine a7 (C3 _ _ _ _ _ _) ?_
 refine d9 (fun b9o => ?_) (fun b9o => ?_)
 ·replace h := h.1 b9o
  refine a7M I fun c4Y b9p => ?_
  refine u6 (b7s _ _) ?_
  refine u6 (b3y _ _ _ _ _ _) ?_
  refine u6 (b3x _ _ _ _ _ _) ?_
  obtain ⟨d9B, h⟩ := h
  refine u6 (c5L _ _ _ _ _ _ _ d9B) ?_
  refine u6 (b7t _ _) ?_
  refine Y4 (ld1 Tryd.isAgg40 (b9p.at1 (o := 0) (vs := [(vs a6y)]) (nb rfl) rfl)) ?_
  refine a1S (e := 5) (c := i4) (xs := [IntKind.wrap .u8 (shrI .u64 (IntKind.wrap .u64 x2) (IntKind.wrap .i64 (56 - (IntKind.wrap .i64 (8 * W1)))))]) b9p (a8R _) rfl rfl a2B a2C (nb rfl) fun e4F e4G c4W d9C c5n d9D => ?_
  refine ⟨(d9D _ b9p.lt1), ?_⟩
  obtain ⟨d9E, h⟩ := h
  refine b0B (s := a6y) (xs := V3) (c5n.bring 3) b6h (d9C.srcO ((c5n.bring 3).bring 1)) d9E fun b9q d9F b7S d9G d9H e4H => ?_
  refine r5 ((d9H.bring 1).drop.bring 1) Tryd.sizeOf40 (vs := [(vs b9q)]) (cs' := [(vs b9q)]) rfl rfl (nb rfl) rfl rfl fun e4I d9I e4J => ?_
  refine a7 (v7 _ _ _ _ _ _) ?_
  exact hn3 _ _ _ (hm3 _ _ h).2 ⟨((IntKind.wrap .i64 (W1 + 1)), (V3 ++ [IntKind.wrap .u8 (shrI .u64 (IntKind.wrap .u64 x2) (IntKind.wrap .i64 (56 - (IntKind.wrap .i64 (8 * W1)))))])), H, b9q, d9F, rfl, rfl, d9G, (((d9I.bring 1).bring 2).bring 2), (hm3 _ _ h).1⟩
 ·replace h := h.2 b9o
  exact hx1 _ _ (hj1 V3 a6y Fcp5l3 H _ b6h (((I.bring 2).bring 2).bring 2) h)
theorem a5D (x0 : Int) (x1 : Int) (x2 : Int) (x3 : ByteArray) (x4 : X1) (x5 : Sl) (x5_ : (List Int)) {H : Hp} {K : Sl → (List Int) → Hp → Prop} (h : P0 x0 x1 x2 x3 x4 x5 x5_ H K) : D8 x0 x1 x2 x3 x4 x5 x5_ H K := by
 intro g5 sx5_ Fx5_ hx5_ w I
 refine d6R ?_
 refine a5u x0 x1 x2 x3 x4 x5 x5_ g5 sx5_ Fx5_ hx5_ I (fun y0 y0_ sy0_ Fy0_ H' w' khy0_ I' hk => ⟨H', _, I', y0, y0_, sy0_, Fy0_, rfl, rfl, khy0_, hk⟩) h
def K8 (c5o : Sl) (c5p : Int) (_cr_1l1 : i6) (Z4 : Int) (t6 : (List Int)) (H : Hp) (n1 : (Int × (List Int)) → Hp → Prop) (K : Sl → (List Int) → Hp → Prop) : Prop :=
 (Z4 < c5p →
 (0 : Int) ≤ Z4 ∧ (Z4 : Int) < c5o.n ∧ ∃ a2V : i6, EltH H c5o Z4 4 (c5 a2V) ∧
 J2 a2V (Sl.mk none 0 0) t6 H (fun (_y0_71 : Sl) (y0__71 : (List Int)) (c4B : Hp) =>
 n1 ((IntKind.wrap .i64 (Z4 + 1)), y0__71) c4B)) ∧
 (¬ (Z4 < c5p) →
 K (Sl.mk none 0 0) t6 H)
def P1 (x0 : i6) (_x1000 : Sl) (x1000_ : (List Int)) (H : Hp) (K : Sl → (List Int) → Hp → Prop) : Prop :=
 D8 69 x0.c7 x0.W2 x0.g8 (X1.mk 0 (x0.p6.n : Int) 0 0) (Sl.mk none 0 0) x1000_ H (fun (_y0_14 : Sl) (y0__14 : (List Int)) (H_6 : Hp) =>
 TL ((0, y0__14) : Int × (List Int)) H_6 fun (s : Int × (List Int)) H n1 => K8 x0.p6 (x0.p6.n : Int) x0 s.1 s.2 H n1 K)
theorem a5v (x0 : i6) (x1000 : Sl) (x1000_ : (List Int)) (g1 g2 g1000 : Nat) (sx1000_ : Sl) (Fx1000_ : Frag) (hx1000_ : RowL 5 1 i4 sx1000_ x1000_ Fx1000_) {w0 w : World} {ps0 : Nat → Prop} {H0 H : Hp} {K : Sl → (List Int) → Hp → Prop} {R : Value → World → Prop} {E : Pan} (I : Inv w0 ps0 H0 H [bx g1 115 [(Value.func (.func 68) #[] #[(Value.pointer (some ⟨g1000, 0, none⟩))])], bx g2 103 [(Value.func (.func 69) #[] #[(Value.pointer (some ⟨g1, 0, none⟩)), (Value.pointer (some ⟨g2, 0, none⟩))])], bx g1000 40 [(vs sx1000_)], Fx1000_] w) (hR : ∀ (y0 : Sl) (y0_ : (List Int)) (sy0_ : Sl) (Fy0_ : Frag) (H' : Hp) (w' : World) (_ : RowL 5 1 i4 sy0_ y0_ Fy0_) (_ : Inv w0 ps0 H0 H' [bx g1 115 [(Value.func (.func 68) #[] #[(Value.pointer (some ⟨g1000, 0, none⟩))])], bx g2 103 [(Value.func (.func 69) #[] #[(Value.pointer (some ⟨g1, 0, none⟩)), (Value.pointer (some ⟨g2, 0, none⟩))])], bx g1000 40 [(vs sy0_)], Fy0_] w') (_ : K y0 y0_ H'), R (Value.tuple #[]) w') (h : P1 x0 x1000 x1000_ H K) : F69 (Value.agg (c5 x0).toArray) (Value.pointer (some ⟨g1, 0, none⟩)) (Value.pointer (some ⟨g2, 0, none⟩)) w R E := by
 unfold P1 at h
 unfold F69
 refine K1 I (cs := (c5 x0)) rfl fun g_2 w_3 I_4 k_5 => ?_
 refine b7 (ld1 Tryd.isAgg115 ((I_4.bring 1).at1 (o := 0) (vs := [(Value.func (.func 68) #[] #[(Value.pointer (some ⟨g1000, 0, none⟩))])]) (nb rfl) rfl)) ?_
 refine a7 K2 ?_
 refine b7 (ld1 Tryd.isAgg3 (I_4.at1 (o := 0) (vs := [(vi x0.c7)]) (nb rfl) rfl)) ?_
 refine a7 a2D ?_
 refine b7 (ld1 Tryd.isAgg2 (I_4.at1 (o := 1) (vs := [(vi x0.W2)]) (nb rfl) rfl)) ?_
 refine a7 a0l ?_
 refine b7 (ld1 Tryd.isAgg9 (I_4.at1 (o := 2) (vs := [(Value.string x0.g8)]) (nb rfl) rfl)) ?_
 refine a7 a1g ?_
 refine b7 (ld1 Tryd.isAgg28 (I_4.at1 (o := 3) (vs := [(vs x0.p6)]) (nb rfl) rfl)) ?_
 refine a7 (M0 _ _ _) ?_
 refine a7 (a6m _ _) ?_
 refine d7 (cap := [(Value.pointer (some ⟨g1000, 0, none⟩))]) (fun args w => Tryd.call68 args w) ?_
 refine h9 (Fi := [bx g1000 40 [(vs sx1000_)], Fx1000_]) (Fr := [bx g_2 30 (c5 x0), bx g1 115 [(Value.func (.func 68) #[] #[(Value.pointer (some ⟨g1000, 0, none⟩))])], bx g2 103 [(Value.func (.func 69) #[] #[(Value.pointer (some ⟨g1, 0, none⟩)), (Value.pointer (some ⟨g2, 0, none⟩))])]]) ((I_4.bring 4).bring 4) (h g1000 sx1000_ Fx1000_ hx1000_) (fun a8m H_6 a8n w_7 I_8 a8o k_9 a0Z => ?_) (fun _ _ _ _ _ q => q.elim)
 obtain ⟨d9J, y0__14, sy0__14, Fy0__14, rfl, rfl, hy0__14, h⟩ := a0Z
 refine a7 a1g ?_
 refine b7 (ld1 Tryd.isAgg28 ((I_8.bring 2).at1 (o := 3) (vs := [(vs x0.p6)]) (nb rfl) rfl)) ?_
 refine a7 (M0 _ _ _) ?_
 obtain ⟨c4C, b6i, e3K, e3L⟩ := h
 refine y8 (J := fun n l w => ∃ (s : Int × (List Int)) (H : Hp) (M1 : Sl) (Fcp1000l1 : Frag) , n = b6i s ∧ l = (match s with | (Z4, t6) => [(vi Z4)]) ∧ (match s with | (Z4, t6) => RowL 5 1 i4 M1 t6 Fcp1000l1) ∧ (match s with | (Z4, t6) => Inv w0 ps0 H0 H [bx g1000 40 [(vs M1)], bx g_2 30 (c5 x0), bx g1 115 [(Value.func (.func 68) #[] #[(Value.pointer (some ⟨g1000, 0, none⟩))])], bx g2 103 [(Value.func (.func 69) #[] #[(Value.pointer (some ⟨g1, 0, none⟩)), (Value.pointer (some ⟨g2, 0, none⟩))])], Fcp1000l1] w) ∧ c4C s H) ⟨_, (0, y0__14), H_6, sy0__14, Fy0__14, rfl, rfl, hy0__14, (((((I_8.bring 1).bring 4).bring 4).bring 4).bring 4), e3K⟩ ?_
 rintro e7S τ_78 w next1 ⟨⟨Z4, t6⟩, H, M1, Fcp1000l1, rfl, a5Z, a1e, I, e3M⟩ hn1
 dsimp only at a5Z I a1e
 simp only [List.map_cons, List.map_nil, List.cons.injEq, and_true] at a5Z
 have e21 := a5Z
 simp only [e21]
 obtain ⟨n1, hm1, h⟩ : ∃ n1 : (Int × (List Int)) → Hp → Prop, (∀ s' H', n1 s' H' → c4C s' H' ∧ b6i s' < b6i (Z4, t6)) ∧ K8 x0.p6 (x0.p6.n : Int) x0 Z4 t6 H n1 K := ⟨_, fun _ _ h => h, e3L (Z4, t6) H (fun s' H' => c4C s' H' ∧ b6i s' < b6i (Z4, t6)) e3M (fun _ _ a b => ⟨a, b⟩)⟩
 unfold c1H
 unfold K8 at h
 refine a7 (C3 _ _ _ _ _ _) ?_
 refine d9 (fun b0m => ?_) (fun b0m => ?_)
 ·replace h := h.1 b0m
  obtain ⟨b5n, a7l, a2V, a3y, h⟩ := h
  obtain ⟨e2f, e2g, b5o, a3y⟩ := a3y
  refine a7 (a1T b5o _ _ _ _ b5n a7l) ?_
  refine b7 (ldA (vs := (c5 a2V)) Tryd.isAgg30 Tryd.sizeOf30 rfl (I.atH a3y)) ?_
  refine B9 I Tryd.zeroValue30 (cs := [(vi 0), (vi 0), (Value.string ⟨#[]⟩), (Value.slice none 0 0)]) rfl fun e3N b5u c3J e2A => ?_
  refine r5 c3J Tryd.sizeOf30 (vs := (c5 a2V)) (cs' := (c5 a2V)) rfl rfl (nb rfl) rfl rfl fun W4 b6f e3G => ?_
  refine b7 (ld1 Tryd.isAgg103 ((b6f.bring 4).at1 (o := 0) (vs := [(Value.func (.func 69) #[] #[(Value.pointer (some ⟨g1, 0, none⟩)), (Value.pointer (some ⟨g2, 0, none⟩))])]) (nb rfl) rfl)) ?_
  refine b7 (ldA Tryd.isAgg30 Tryd.sizeOf30 rfl (b6f.at1 (o := 0) (vs := (c5 a2V)) (nb rfl) rfl)) ?_
  refine d7 (cap := [(Value.pointer (some ⟨g1, 0, none⟩)), (Value.pointer (some ⟨g2, 0, none⟩))]) (fun args w => Tryd.call69 args w) ?_
  refine h9 (Fi := [bx g1 115 [(Value.func (.func 68) #[] #[(Value.pointer (some ⟨g1000, 0, none⟩))])], bx g2 103 [(Value.func (.func 69) #[] #[(Value.pointer (some ⟨g1, 0, none⟩)), (Value.pointer (some ⟨g2, 0, none⟩))])], bx g1000 40 [(vs M1)], Fcp1000l1]) (Fr := [bx e3N 30 (c5 a2V), bx g_2 30 (c5 x0)]) ((((b6f.bring 5).bring 2).bring 5).bring 5) (h g1 g2 g1000 M1 Fcp1000l1 a1e) (fun e7T c4B e7U S8 b9j c3x e3H e3O => ?_) (fun _ _ _ _ _ q => q.elim)
  obtain ⟨e4K, y0__71, sy0__71, Fy0__71, rfl, rfl, hy0__71, h⟩ := e3O
  refine a7 (v7 _ _ _ _ _ _) ?_
  exact hn1 _ _ _ (hm1 _ _ h).2 ⟨((IntKind.wrap .i64 (Z4 + 1)), y0__71), c4B, sy0__71, Fy0__71, rfl, rfl, hy0__71, ((((((b9j.bring 4).drop.bring 3).bring 2).bring 2).bring 4).bring 4), (hm1 _ _ h).1⟩
 ·replace h := h.2 b0m
  exact hR (Sl.mk none 0 0) t6 M1 Fcp1000l1 H _ a1e (((((I.bring 1).drop.bring 3).bring 1).bring 3).bring 3) h
theorem a5E (x0 : i6) (x1000 : Sl) (x1000_ : (List Int)) {H : Hp} {K : Sl → (List Int) → Hp → Prop} (h : P1 x0 x1000 x1000_ H K) : J2 x0 x1000 x1000_ H K := by
 intro g1 g2 g1000 sx1000_ Fx1000_ hx1000_ w I
 refine d6V ?_
 refine a5v x0 x1000 x1000_ g1 g2 g1000 sx1000_ Fx1000_ hx1000_ I (fun y0 y0_ sy0_ Fy0_ H' w' khy0_ I' hk => ⟨H', _, I', y0, y0_, sy0_, Fy0_, rfl, rfl, khy0_, hk⟩) h
def K9 (c5q : Sl) (c5r : Int) (_cr_1l2 : i7) (Z5 : Int) (O1 : (List Int)) (H : Hp) (n2 : (Int × (List Int)) → Hp → Prop) (K : Sl → (List Int) → Hp → Prop) : Prop :=
 (Z5 < c5r →
 (0 : Int) ≤ Z5 ∧ (Z5 : Int) < c5q.n ∧ ∃ a8G : i7, EltH H c5q Z5 4 (c9 a8G) ∧
 O5 a8G (Sl.mk none 0 0) O1 H (fun (_y0_95 : Sl) (y0__95 : (List Int)) (c4D : Hp) =>
 n2 ((IntKind.wrap .i64 (Z5 + 1)), y0__95) c4D)) ∧
 (¬ (Z5 < c5r) →
 K (Sl.mk none 0 0) O1 H)
def L0 (a2s : (List Int)) (cr_1j1 : i7) (H : Hp) (K : Sl → (List Int) → Hp → Prop) : Prop :=
 TL ((0, a2s) : Int × (List Int)) H fun (s : Int × (List Int)) H n2 => K9 cr_1j1.j9 (cr_1j1.j9.n : Int) cr_1j1 s.1 s.2 H n2 K
def L1 (c5s : Sl) (c5t : Int) (cr_1l3 : i7) (T6 : Int) (O2 : (List Int)) (H : Hp) (n3 : (Int × (List Int)) → Hp → Prop) (K : Sl → (List Int) → Hp → Prop) : Prop :=
 (T6 < c5t →
 (0 : Int) ≤ T6 ∧ (T6 : Int) < c5s.n ∧ ∃ a5P : i6, EltH H c5s T6 4 (c5 a5P) ∧
 J2 a5P (Sl.mk none 0 0) O2 H (fun (_y0_137 : Sl) (y0__137 : (List Int)) (b9r : Hp) =>
 n3 ((IntKind.wrap .i64 (T6 + 1)), y0__137) b9r)) ∧
 (¬ (T6 < c5t) →
 L0 O2 cr_1l3 H K)
def P2 (x0 : i7) (_x1000 : Sl) (x1000_ : (List Int)) (H : Hp) (K : Sl → (List Int) → Hp → Prop) : Prop :=
 D8 67 x0.c7 x0.fOp ⟨#[]⟩ (X1.mk (x0.j9.n : Int) (x0.b9.n : Int) 0 0) (Sl.mk none 0 0) x1000_ H (fun (_y0_14 : Sl) (y0__14 : (List Int)) (H_6 : Hp) =>
 TL ((0, y0__14) : Int × (List Int)) H_6 fun (s : Int × (List Int)) H n3 => L1 x0.b9 (x0.b9.n : Int) x0 s.1 s.2 H n3 K)
theorem a5w (x0 : i7) (x1000 : Sl) (x1000_ : (List Int)) (g1 g2 g3 g1000 : Nat) (sx1000_ : Sl) (Fx1000_ : Frag) (hx1000_ : RowL 5 1 i4 sx1000_ x1000_ Fx1000_) {w0 w : World} {ps0 : Nat → Prop} {H0 H : Hp} {K : Sl → (List Int) → Hp → Prop} {R : Value → World → Prop} {E : Pan} (I : Inv w0 ps0 H0 H [bx g1 115 [(Value.func (.func 68) #[] #[(Value.pointer (some ⟨g1000, 0, none⟩))])], bx g2 103 [(Value.func (.func 69) #[] #[(Value.pointer (some ⟨g1, 0, none⟩)), (Value.pointer (some ⟨g2, 0, none⟩))])], bx g3 108 [(Value.func (.func 70) #[] #[(Value.pointer (some ⟨g1, 0, none⟩)), (Value.pointer (some ⟨g2, 0, none⟩)), (Value.pointer (some ⟨g3, 0, none⟩))])], bx g1000 40 [(vs sx1000_)], Fx1000_] w) (hR : ∀ (y0 : Sl) (y0_ : (List Int)) (sy0_ : Sl) (Fy0_ : Frag) (H' : Hp) (w' : World) (_ : RowL 5 1 i4 sy0_ y0_ Fy0_) (_ : Inv w0 ps0 H0 H' [bx g1 115 [(Value.func (.func 68) #[] #[(Value.pointer (some ⟨g1000, 0, none⟩))])], bx g2 103 [(Value.func (.func 69) #[] #[(Value.pointer (some ⟨g1, 0, none⟩)), (Value.pointer (some ⟨g2, 0, none⟩))])], bx g3 108 [(Value.func (.func 70) #[] #[(Value.pointer (some ⟨g1, 0, none⟩)), (Value.pointer (some ⟨g2, 0, none⟩)), (Value.pointer (some ⟨g3, 0, none⟩))])], bx g1000 40 [(vs sy0_)], Fy0_] w') (_ : K y0 y0_ H'), R (Value.tuple #[]) w') (h : P2 x0 x1000 x1000_ H K) : F70 (Value.agg (c9 x0).toArray) (Value.pointer (some ⟨g1, 0, none⟩)) (Value.pointer (some ⟨g2, 0, none⟩)) (Value.pointer (some ⟨g3, 0, none⟩)) w R E := by
 unfold P2 at h
 unfold F70
 refine K1 I (cs := (c9 x0)) rfl fun g_2 w_3 I_4 k_5 => ?_
 refine b7 (ld1 Tryd.isAgg115 ((I_4.bring 1).at1 (o := 0) (vs := [(Value.func (.func 68) #[] #[(Value.pointer (some ⟨g1000, 0, none⟩))])]) (nb rfl) rfl)) ?_
 refine a7 a6J ?_
 refine b7 (ld1 Tryd.isAgg3 (I_4.at1 (o := 0) (vs := [(vi x0.c7)]) (nb rfl) rfl)) ?_
 refine a7 a1j ?_
 refine b7 (ld1 Tryd.isAgg3 (I_4.at1 (o := 1) (vs := [(vi x0.fOp)]) (nb rfl) rfl)) ?_
 refine a7 a1i ?_
 refine b7 (ld1 Tryd.isAgg31 (I_4.at1 (o := 3) (vs := [(vs x0.j9)]) (nb rfl) rfl)) ?_
 refine a7 (X3 _ _ _) ?_
 refine a7 a1h ?_
 refine b7 (ld1 Tryd.isAgg28 (I_4.at1 (o := 2) (vs := [(vs x0.b9)]) (nb rfl) rfl)) ?_
 refine a7 (M0 _ _ _) ?_
 refine a7 (a6m _ _) ?_
 refine d7 (cap := [(Value.pointer (some ⟨g1000, 0, none⟩))]) (fun args w => Tryd.call68 args w) ?_
 refine h9 (Fi := [bx g1000 40 [(vs sx1000_)], Fx1000_]) (Fr := [bx g_2 33 (c9 x0), bx g1 115 [(Value.func (.func 68) #[] #[(Value.pointer (some ⟨g1000, 0, none⟩))])], bx g2 103 [(Value.func (.func 69) #[] #[(Value.pointer (some ⟨g1, 0, none⟩)), (Value.pointer (some ⟨g2, 0, none⟩))])], bx g3 108 [(Value.func (.func 70) #[] #[(Value.pointer (some ⟨g1, 0, none⟩)), (Value.pointer (some ⟨g2, 0, none⟩)), (Value.pointer (some ⟨g3, 0, none⟩))])]]) ((I_4.bring 5).bring 5) (h g1000 sx1000_ Fx1000_ hx1000_) (fun a8m H_6 a8n w_7 I_8 a8o k_9 a0Z => ?_) (fun _ _ _ _ _ q => q.elim)
 obtain ⟨d9J, y0__14, sy0__14, Fy0__14, rfl, rfl, hy0__14, h⟩ := a0Z
 have hj1 : ∀ (a2s : (List Int)) (a5Q : Sl) (Fcp1000j1 : Frag) (H : Hp) (w : World) (_ : RowL 5 1 i4 a5Q a2s Fcp1000j1) (_ : Inv w0 ps0 H0 H [bx g1000 40 [(vs a5Q)], bx g_2 33 (c9 x0), bx g1 115 [(Value.func (.func 68) #[] #[(Value.pointer (some ⟨g1000, 0, none⟩))])], bx g2 103 [(Value.func (.func 69) #[] #[(Value.pointer (some ⟨g1, 0, none⟩)), (Value.pointer (some ⟨g2, 0, none⟩))])], bx g3 108 [(Value.func (.func 70) #[] #[(Value.pointer (some ⟨g1, 0, none⟩)), (Value.pointer (some ⟨g2, 0, none⟩)), (Value.pointer (some ⟨g3, 0, none⟩))])], Fcp1000j1] w) (_ : L0 a2s x0 H K), b6a (Value.pointer (some ⟨g3, 0, none⟩)) (Value.pointer (some ⟨g_2, 0, none⟩)) w R E := by
  intro a2s a5Q Fcp1000j1 H w c1R I h
  unfold b6a
  intro _
  unfold L0 at h
  refine a7 a1i ?_
  refine b7 (ld1 Tryd.isAgg31 ((I.bring 1).at1 (o := 3) (vs := [(vs x0.j9)]) (nb rfl) rfl)) ?_
  refine a7 (X3 _ _ _) ?_
  obtain ⟨c4E, b6j, e3P, a5L⟩ := h
  refine y8 (J := fun n l w => ∃ (s : Int × (List Int)) (H : Hp) (a2t : Sl) (Fcp1000l2 : Frag) , n = b6j s ∧ l = (match s with | (Z5, O1) => [(vi Z5)]) ∧ (match s with | (Z5, O1) => RowL 5 1 i4 a2t O1 Fcp1000l2) ∧ (match s with | (Z5, O1) => Inv w0 ps0 H0 H [bx g1000 40 [(vs a2t)], bx g_2 33 (c9 x0), bx g1 115 [(Value.func (.func 68) #[] #[(Value.pointer (some ⟨g1000, 0, none⟩))])], bx g2 103 [(Value.func (.func 69) #[] #[(Value.pointer (some ⟨g1, 0, none⟩)), (Value.pointer (some ⟨g2, 0, none⟩))])], bx g3 108 [(Value.func (.func 70) #[] #[(Value.pointer (some ⟨g1, 0, none⟩)), (Value.pointer (some ⟨g2, 0, none⟩)), (Value.pointer (some ⟨g3, 0, none⟩))])], Fcp1000l2] w) ∧ c4E s H) ⟨_, (0, a2s), H, a5Q, Fcp1000j1, rfl, rfl, c1R, ((((((I.bring 5).bring 5).bring 5).bring 5).bring 5).bring 5), e3P⟩ ?_
  rintro e4L τ_102 w next2 ⟨⟨Z5, O1⟩, H, a2t, Fcp1000l2, rfl, b9s, a8H, I, b1y⟩ hn2
  dsimp only at b9s I a8H
  simp only [List.map_cons, List.map_nil, List.cons.injEq, and_true] at b9s
  have e36 := b9s
  simp only [e36]
  obtain ⟨n2, hm2, h⟩ : ∃ n2 : (Int × (List Int)) → Hp → Prop, (∀ s' H', n2 s' H' → c4E s' H' ∧ b6j s' < b6j (Z5, O1)) ∧ K9 x0.j9 (x0.j9.n : Int) x0 Z5 O1 H n2 K := ⟨_, fun _ _ h => h, a5L (Z5, O1) H (fun s' H' => c4E s' H' ∧ b6j s' < b6j (Z5, O1)) b1y (fun _ _ a b => ⟨a, b⟩)⟩
  unfold c1I
  unfold K9 at h
  refine a7 (C3 _ _ _ _ _ _) ?_
  refine d9 (fun c4F => ?_) (fun c4F => ?_)
  ·replace h := h.1 c4F
   obtain ⟨e3Q, e3R, a8G, c4G, h⟩ := h
   obtain ⟨e7V, e7W, e3S, c4G⟩ := c4G
   refine a7 (a4K e3S _ _ _ _ e3Q e3R) ?_
   refine b7 (ldA (vs := (c9 a8G)) Tryd.isAgg33 Tryd.sizeOf33 rfl (I.atH c4G)) ?_
   refine B9 I Tryd.zeroValue33 (cs := [(vi 0), (vi 0), (Value.slice none 0 0), (Value.slice none 0 0)]) rfl fun e3T e7X e3U e7Y => ?_
   refine r5 e3U Tryd.sizeOf33 (vs := (c9 a8G)) (cs' := (c9 a8G)) rfl rfl (nb rfl) rfl rfl fun a1X c4H e7Z => ?_
   refine b7 (ld1 Tryd.isAgg108 ((c4H.bring 5).at1 (o := 0) (vs := [(Value.func (.func 70) #[] #[(Value.pointer (some ⟨g1, 0, none⟩)), (Value.pointer (some ⟨g2, 0, none⟩)), (Value.pointer (some ⟨g3, 0, none⟩))])]) (nb rfl) rfl)) ?_
   refine b7 (ldA Tryd.isAgg33 Tryd.sizeOf33 rfl (c4H.at1 (o := 0) (vs := (c9 a8G)) (nb rfl) rfl)) ?_
   refine d7 (cap := [(Value.pointer (some ⟨g1, 0, none⟩)), (Value.pointer (some ⟨g2, 0, none⟩)), (Value.pointer (some ⟨g3, 0, none⟩))]) (fun args w => Tryd.call70 args w) ?_
   refine h9 (Fi := [bx g1 115 [(Value.func (.func 68) #[] #[(Value.pointer (some ⟨g1000, 0, none⟩))])], bx g2 103 [(Value.func (.func 69) #[] #[(Value.pointer (some ⟨g1, 0, none⟩)), (Value.pointer (some ⟨g2, 0, none⟩))])], bx g3 108 [(Value.func (.func 70) #[] #[(Value.pointer (some ⟨g1, 0, none⟩)), (Value.pointer (some ⟨g2, 0, none⟩)), (Value.pointer (some ⟨g3, 0, none⟩))])], bx g1000 40 [(vs a2t)], Fcp1000l2]) (Fr := [bx e3T 33 (c9 a8G), bx g_2 33 (c9 x0)]) (((((c4H.bring 6).bring 2).bring 6).bring 6).bring 6) (h g1 g2 g3 g1000 a2t Fcp1000l2 a8H) (fun e8a c4D e8b a1y e3V e8c e8d e3W => ?_) (fun _ _ _ _ _ q => q.elim)
   obtain ⟨e4M, y0__95, sy0__95, Fy0__95, rfl, rfl, hy0__95, h⟩ := e3W
   refine a7 (v7 _ _ _ _ _ _) ?_
   exact hn2 _ _ _ (hm2 _ _ h).2 ⟨((IntKind.wrap .i64 (Z5 + 1)), y0__95), c4D, sy0__95, Fy0__95, rfl, rfl, hy0__95, (((((((e3V.bring 5).drop.bring 4).bring 3).bring 3).bring 3).bring 5).bring 5), (hm2 _ _ h).1⟩
  ·replace h := h.2 c4F
   exact hR (Sl.mk none 0 0) O1 a2t Fcp1000l2 H _ a8H ((((((I.bring 1).drop.bring 4).bring 1).bring 4).bring 4).bring 4) h
 refine o8 fun j1 hx1 => ?_
 refine a7 a1h ?_
 refine b7 (ld1 Tryd.isAgg28 ((I_8.bring 2).at1 (o := 2) (vs := [(vs x0.b9)]) (nb rfl) rfl)) ?_
 refine a7 (M0 _ _ _) ?_
 obtain ⟨b9t, b1A, d9K, d9L⟩ := h
 refine y8 (J := fun n l w => ∃ (s : Int × (List Int)) (H : Hp) (a2u : Sl) (Fcp1000l3 : Frag) , n = b1A s ∧ l = (match s with | (T6, O2) => [(vi T6)]) ∧ (match s with | (T6, O2) => RowL 5 1 i4 a2u O2 Fcp1000l3) ∧ (match s with | (T6, O2) => Inv w0 ps0 H0 H [bx g1000 40 [(vs a2u)], bx g_2 33 (c9 x0), bx g1 115 [(Value.func (.func 68) #[] #[(Value.pointer (some ⟨g1000, 0, none⟩))])], bx g2 103 [(Value.func (.func 69) #[] #[(Value.pointer (some ⟨g1, 0, none⟩)), (Value.pointer (some ⟨g2, 0, none⟩))])], bx g3 108 [(Value.func (.func 70) #[] #[(Value.pointer (some ⟨g1, 0, none⟩)), (Value.pointer (some ⟨g2, 0, none⟩)), (Value.pointer (some ⟨g3, 0, none⟩))])], Fcp1000l3] w) ∧ b9t s H) ⟨_, (0, y0__14), H_6, sy0__14, Fy0__14, rfl, rfl, hy0__14, ((((((I_8.bring 1).bring 5).bring 5).bring 5).bring 5).bring 5), d9K⟩ ?_
 rintro e4N τ_144 w next3 ⟨⟨T6, O2⟩, H, a2u, Fcp1000l3, rfl, b9u, a8I, I, d9M⟩ hn3
 dsimp only at b9u I a8I
 simp only [List.map_cons, List.map_nil, List.cons.injEq, and_true] at b9u
 have e25 := b9u
 simp only [e25]
 obtain ⟨n3, hm3, h⟩ : ∃ n3 : (Int × (List Int)) → Hp → Prop, (∀ s' H', n3 s' H' → b9t s' H' ∧ b1A s' < b1A (T6, O2)) ∧ L1 x0.b9 (x0.b9.n : Int) x0 T6 O2 H n3 K := ⟨_, fun _ _ h => h, d9L (T6, O2) H (fun s' H' => b9t s' H' ∧ b1A s' < b1A (T6, O2)) d9M (fun _ _ a b => ⟨a, b⟩)⟩
 unfold c1K
 unfold L1 at h
 refine a7 (C3 _ _ _ _ _ _) ?_
 refine d9 (fun b9v => ?_) (fun b9v => ?_)
 ·replace h := h.1 b9v
  obtain ⟨d9N, d9O, a5P, b9w, h⟩ := h
  obtain ⟨e4O, e4P, d9P, b9w⟩ := b9w
  refine a7 (a1T d9P _ _ _ _ d9N d9O) ?_
  refine b7 (ldA (vs := (c5 a5P)) Tryd.isAgg30 Tryd.sizeOf30 rfl (I.atH b9w)) ?_
  refine B9 I Tryd.zeroValue30 (cs := [(vi 0), (vi 0), (Value.string ⟨#[]⟩), (Value.slice none 0 0)]) rfl fun d9Q e4Q d9R e4R => ?_
  refine r5 d9R Tryd.sizeOf30 (vs := (c5 a5P)) (cs' := (c5 a5P)) rfl rfl (nb rfl) rfl rfl fun b3i b9x e4S => ?_
  refine b7 (ld1 Tryd.isAgg103 ((b9x.bring 4).at1 (o := 0) (vs := [(Value.func (.func 69) #[] #[(Value.pointer (some ⟨g1, 0, none⟩)), (Value.pointer (some ⟨g2, 0, none⟩))])]) (nb rfl) rfl)) ?_
  refine b7 (ldA Tryd.isAgg30 Tryd.sizeOf30 rfl (b9x.at1 (o := 0) (vs := (c5 a5P)) (nb rfl) rfl)) ?_
  refine d7 (cap := [(Value.pointer (some ⟨g1, 0, none⟩)), (Value.pointer (some ⟨g2, 0, none⟩))]) (fun args w => Tryd.call69 args w) ?_
  refine h9 (Fi := [bx g1 115 [(Value.func (.func 68) #[] #[(Value.pointer (some ⟨g1000, 0, none⟩))])], bx g2 103 [(Value.func (.func 69) #[] #[(Value.pointer (some ⟨g1, 0, none⟩)), (Value.pointer (some ⟨g2, 0, none⟩))])], bx g1000 40 [(vs a2u)], Fcp1000l3]) (Fr := [bx d9Q 30 (c5 a5P), bx g_2 33 (c9 x0), bx g3 108 [(Value.func (.func 70) #[] #[(Value.pointer (some ⟨g1, 0, none⟩)), (Value.pointer (some ⟨g2, 0, none⟩)), (Value.pointer (some ⟨g3, 0, none⟩))])]]) ((((b9x.bring 6).bring 2).bring 5).bring 5) (h g1 g2 g1000 a2u Fcp1000l3 a8I) (fun e4T b9r e4U c4X d9S e4V e4W d9T => ?_) (fun _ _ _ _ _ q => q.elim)
  obtain ⟨e4t, y0__137, sy0__137, Fy0__137, rfl, rfl, hy0__137, h⟩ := d9T
  refine a7 (v7 _ _ _ _ _ _) ?_
  exact hn3 _ _ _ (hm3 _ _ h).2 ⟨((IntKind.wrap .i64 (T6 + 1)), y0__137), b9r, sy0__137, Fy0__137, rfl, rfl, hy0__137, (((((((d9S.bring 4).drop.bring 3).bring 5).bring 3).bring 3).bring 5).bring 5), (hm3 _ _ h).1⟩
 ·replace h := h.2 b9v
  exact hx1 _ _ (hj1 O2 a2u Fcp1000l3 H _ a8I ((((((I.bring 5).bring 5).bring 5).bring 5).bring 5).bring 5) h)
theorem a5F (x0 : i7) (x1000 : Sl) (x1000_ : (List Int)) {H : Hp} {K : Sl → (List Int) → Hp → Prop} (h : P2 x0 x1000 x1000_ H K) : O5 x0 x1000 x1000_ H K := by
 intro g1 g2 g3 g1000 sx1000_ Fx1000_ hx1000_ w I
 refine d7q ?_
 refine a5w x0 x1000 x1000_ g1 g2 g3 g1000 sx1000_ Fx1000_ hx1000_ I (fun y0 y0_ sy0_ Fy0_ H' w' khy0_ I' hk => ⟨H', _, I', y0, y0_, sy0_, Fy0_, rfl, rfl, khy0_, hk⟩) h
def L2 (_s12j2 : Sl) (_s13j2 : Int) (d9U : Int) (a2v : (List Int)) (H : Hp) (n1 : (Int × (List Int)) → Hp → Prop) (_K : Sl → (List Int) → Hp → Prop) : Prop :=
 n1 ((IntKind.wrap .i64 (d9U + 1)), a2v) H
def L3 (d9V : Sl) (d9W : Int) (d9X : Int) (a3R : (List Int)) (cr_191j4 : i8) (H : Hp) (n1 : (Int × (List Int)) → Hp → Prop) (K : Sl → (List Int) → Hp → Prop) : Prop :=
 J3 cr_191j4.w3 (Sl.mk none 0 0) a3R H (fun (_y0_264 : Sl) (y0__264 : (List Int)) (c5u : Hp) =>
 J3 cr_191j4.t1 (Sl.mk none 0 0) y0__264 c5u (fun (_y0_273 : Sl) (y0__273 : (List Int)) (b9y : Hp) =>
 L2 d9V d9W d9X y0__273 b9y n1 K))
def L4 (d9Y : Sl) (d9Z : Int) (e0a : Int) (c5v : Sl) (c5w : Int) (cr_191l5 : i8) (Z6 : Int) (O3 : (List Int)) (H : Hp) (n1 : (Int × (List Int)) → Hp → Prop) (n5 : (Int × (List Int)) → Hp → Prop) (K : Sl → (List Int) → Hp → Prop) : Prop :=
 (Z6 < c5w →
 (0 : Int) ≤ Z6 ∧ (Z6 : Int) < c5v.n ∧ ∃ a5R : i6, EltH H c5v Z6 4 (c5 a5R) ∧
 J2 a5R (Sl.mk none 0 0) O3 H (fun (_y0_306 : Sl) (y0__306 : (List Int)) (b9z : Hp) =>
 n5 ((IntKind.wrap .i64 (Z6 + 1)), y0__306) b9z)) ∧
 (¬ (Z6 < c5w) →
 L3 d9Y d9Z e0a O3 cr_191l5 H n1 K)
def L5 (e0b : Sl) (e0c : Int) (e0d : Int) (a2w : (List Int)) (cr_191j3 : i8) (H : Hp) (n1 : (Int × (List Int)) → Hp → Prop) (K : Sl → (List Int) → Hp → Prop) : Prop :=
 TL ((0, a2w) : Int × (List Int)) H fun (s : Int × (List Int)) H n5 => L4 e0b e0c e0d cr_191j3.b9 (cr_191j3.b9.n : Int) cr_191j3 s.1 s.2 H n1 n5 K
def E5 (e0e : Sl) (e0f : Int) (e0g : Int) (c5x : Sl) (c5y : Int) (cr_191l6 : i8) (Z7 : Int) (O4 : (List Int)) (H : Hp) (n1 : (Int × (List Int)) → Hp → Prop) (n6 : (Int × (List Int)) → Hp → Prop) (K : Sl → (List Int) → Hp → Prop) : Prop :=
 (Z7 < c5y →
 (0 : Int) ≤ Z7 ∧ (Z7 : Int) < c5x.n ∧ ∃ a5S : i7, EltH H c5x Z7 4 (c9 a5S) ∧
 O5 a5S (Sl.mk none 0 0) O4 H (fun (_y0_348 : Sl) (y0__348 : (List Int)) (b9A : Hp) =>
 n6 ((IntKind.wrap .i64 (Z7 + 1)), y0__348) b9A)) ∧
 (¬ (Z7 < c5y) →
 L5 e0e e0f e0g O4 cr_191l6 H n1 K)
def L6 (b9B : Sl) (b9C : Int) (M4 : Int) (t6 : (List Int)) (H : Hp) (n1 : (Int × (List Int)) → Hp → Prop) (K : Sl → (List Int) → Hp → Prop) : Prop :=
 (M4 < b9C →
 (0 : Int) ≤ M4 ∧ (M4 : Int) < b9B.n ∧ ∃ w8 : i8, EltH H b9B M4 6 (d5 w8) ∧
 D8 83 w8.c7 0 w8.g8 (X1.mk (w8.g6.n : Int) (w8.b9.n : Int) (w8.w3.n : Int) (w8.t1.n : Int)) (Sl.mk none 0 0) t6 H (fun (_y0_207 : Sl) (y0__207 : (List Int)) (b9D : Hp) =>
 TL ((0, y0__207) : Int × (List Int)) b9D fun (s : Int × (List Int)) H n6 => E5 b9B b9C M4 w8.g6 (w8.g6.n : Int) w8 s.1 s.2 H n1 n6 K)) ∧
 (¬ (M4 < b9C) →
 K (Sl.mk none 0 0) t6 H)
def P3 (x0 : Sl) (_x1000 : Sl) (x1000_ : (List Int)) (H : Hp) (K : Sl → (List Int) → Hp → Prop) : Prop :=
 TL ((0, x1000_) : Int × (List Int)) H fun (s : Int × (List Int)) H n1 => L6 x0 (x0.n : Int) s.1 s.2 H n1 K
theorem a5x (x0 : Sl) (x1000 : Sl) (x1000_ : (List Int)) (g1 g2 g3 g4 g1000 : Nat) (sx1000_ : Sl) (Fx1000_ : Frag) (hx1000_ : RowL 5 1 i4 sx1000_ x1000_ Fx1000_) {w0 w : World} {ps0 : Nat → Prop} {H0 H : Hp} {K : Sl → (List Int) → Hp → Prop} {R : Value → World → Prop} {E : Pan} (I : Inv w0 ps0 H0 H [bx g1 115 [(Value.func (.func 68) #[] #[(Value.pointer (some ⟨g1000, 0, none⟩))])], bx g2 108 [(Value.func (.func 70) #[] #[(Value.pointer (some ⟨g1, 0, none⟩)), (Value.pointer (some ⟨g3, 0, none⟩)), (Value.pointer (some ⟨g2, 0, none⟩))])], bx g3 103 [(Value.func (.func 69) #[] #[(Value.pointer (some ⟨g1, 0, none⟩)), (Value.pointer (some ⟨g3, 0, none⟩))])], bx g4 116 [(Value.func (.func 71) #[] #[(Value.pointer (some ⟨g1, 0, none⟩)), (Value.pointer (some ⟨g2, 0, none⟩)), (Value.pointer (some ⟨g3, 0, none⟩)), (Value.pointer (some ⟨g4, 0, none⟩))])], bx g1000 40 [(vs sx1000_)], Fx1000_] w) (hR : ∀ (y0 : Sl) (y0_ : (List Int)) (sy0_ : Sl) (Fy0_ : Frag) (H' : Hp) (w' : World) (_ : RowL 5 1 i4 sy0_ y0_ Fy0_) (_ : Inv w0 ps0 H0 H' [bx g1 115 [(Value.func (.func 68) #[] #[(Value.pointer (some ⟨g1000, 0, none⟩))])], bx g2 108 [(Value.func (.func 70) #[] #[(Value.pointer (some ⟨g1, 0, none⟩)), (Value.pointer (some ⟨g3, 0, none⟩)), (Value.pointer (some ⟨g2, 0, none⟩))])], bx g3 103 [(Value.func (.func 69) #[] #[(Value.pointer (some ⟨g1, 0, none⟩)), (Value.pointer (some ⟨g3, 0, none⟩))])], bx g4 116 [(Value.func (.func 71) #[] #[(Value.pointer (some ⟨g1, 0, none⟩)), (Value.pointer (some ⟨g2, 0, none⟩)), (Value.pointer (some ⟨g3, 0, none⟩)), (Value.pointer (some ⟨g4, 0, none⟩))])], bx g1000 40 [(vs sy0_)], Fy0_] w') (_ : K y0 y0_ H'), R (Value.tuple #[]) w') (h : P3 x0 x1000 x1000_ H K) : F71 (vs x0) (Value.pointer (some ⟨g1, 0, none⟩)) (Value.pointer (some ⟨g2, 0, none⟩)) (Value.pointer (some ⟨g3, 0, none⟩)) (Value.pointer (some ⟨g4, 0, none⟩)) w R E := by
 unfold P3 at h
 unfold F71
 refine a7 (U4 _ _ _) ?_
 obtain ⟨b9E, b1B, e0h, e0i⟩ := h
 refine y8 (J := fun n l w => ∃ (s : Int × (List Int)) (H : Hp) (M1 : Sl) (Fcp1000l1 : Frag) , n = b1B s ∧ l = (match s with | (M4, t6) => [(vi M4)]) ∧ (match s with | (M4, t6) => RowL 5 1 i4 M1 t6 Fcp1000l1) ∧ (match s with | (M4, t6) => Inv w0 ps0 H0 H [bx g1 115 [(Value.func (.func 68) #[] #[(Value.pointer (some ⟨g1000, 0, none⟩))])], bx g2 108 [(Value.func (.func 70) #[] #[(Value.pointer (some ⟨g1, 0, none⟩)), (Value.pointer (some ⟨g3, 0, none⟩)), (Value.pointer (some ⟨g2, 0, none⟩))])], bx g3 103 [(Value.func (.func 69) #[] #[(Value.pointer (some ⟨g1, 0, none⟩)), (Value.pointer (some ⟨g3, 0, none⟩))])], bx g4 116 [(Value.func (.func 71) #[] #[(Value.pointer (some ⟨g1, 0, none⟩)), (Value.pointer (some ⟨g2, 0, none⟩)), (Value.pointer (some ⟨g3, 0, none⟩)), (Value.pointer (some ⟨g4, 0, none⟩))])], bx g1000 40 [(vs M1)], Fcp1000l1] w) ∧ b9E s H) ⟨_, (0, x1000_), H, sx1000_, Fx1000_, rfl, rfl, hx1000_, ((((((I.bring 5).bring 5).bring 5).bring 5).bring 5).bring 5), e0h⟩ ?_
 rintro e4X τ_364 w next1 ⟨⟨M4, t6⟩, H, M1, Fcp1000l1, rfl, b9F, a1e, I, e0j⟩ hn1
 dsimp only at b9F I a1e
 simp only [List.map_cons, List.map_nil, List.cons.injEq, and_true] at b9F
 have e14 := b9F
 simp only [e14]
 obtain ⟨n1, hm1, h⟩ : ∃ n1 : (Int × (List Int)) → Hp → Prop, (∀ s' H', n1 s' H' → b9E s' H' ∧ b1B s' < b1B (M4, t6)) ∧ L6 x0 (x0.n : Int) M4 t6 H n1 K := ⟨_, fun _ _ h => h, e0i (M4, t6) H (fun s' H' => b9E s' H' ∧ b1B s' < b1B (M4, t6)) e0j (fun _ _ a b => ⟨a, b⟩)⟩
 unfold c1Q
 unfold L6 at h
 refine a7 (C3 _ _ _ _ _ _) ?_
 refine d9 (fun b9G => ?_) (fun b9G => ?_)
 ·replace h := h.1 b9G
  have hj2 : ∀ (a2v : (List Int)) (a5T : Sl) (Fcp1000j2 : Frag) (H : Hp) (w : World) (_ : RowL 5 1 i4 a5T a2v Fcp1000j2) (_ : Inv w0 ps0 H0 H [bx g1 115 [(Value.func (.func 68) #[] #[(Value.pointer (some ⟨g1000, 0, none⟩))])], bx g2 108 [(Value.func (.func 70) #[] #[(Value.pointer (some ⟨g1, 0, none⟩)), (Value.pointer (some ⟨g3, 0, none⟩)), (Value.pointer (some ⟨g2, 0, none⟩))])], bx g3 103 [(Value.func (.func 69) #[] #[(Value.pointer (some ⟨g1, 0, none⟩)), (Value.pointer (some ⟨g3, 0, none⟩))])], bx g4 116 [(Value.func (.func 71) #[] #[(Value.pointer (some ⟨g1, 0, none⟩)), (Value.pointer (some ⟨g2, 0, none⟩)), (Value.pointer (some ⟨g3, 0, none⟩)), (Value.pointer (some ⟨g4, 0, none⟩))])], bx g1000 40 [(vs a5T)], Fcp1000j2] w) (_ : L2 x0 (x0.n : Int) M4 a2v H n1 K), b6b (Value.pointer (some ⟨g1, 0, none⟩)) (Value.pointer (some ⟨g2, 0, none⟩)) (Value.pointer (some ⟨g3, 0, none⟩)) (Value.pointer (some ⟨g4, 0, none⟩)) (vs x0) (vi (x0.n : Int)) (vi M4) w next1 R E := by
   intro a2v a5T Fcp1000j2 H w c1S I h
   unfold b6b
   intro _
   unfold L2 at h
   refine a7 (v7 _ _ _ _ _ _) ?_
   exact hn1 _ _ _ (hm1 _ _ h).2 ⟨((IntKind.wrap .i64 (M4 + 1)), a2v), H, a5T, Fcp1000j2, rfl, rfl, c1S, ((((((I.bring 5).bring 5).bring 5).bring 5).bring 5).bring 5), (hm1 _ _ h).1⟩
  refine o8 fun j2 hx2 => ?_
  obtain ⟨e0k, e0l, w8, b9H, h⟩ := h
  obtain ⟨e4Y, e4Z, e0m, b9H⟩ := b9H
  refine a7 (a9L e0m _ _ _ _ e0k e0l) ?_
  refine b7 (ldA (vs := (d5 w8)) Tryd.isAgg88 Tryd.sizeOf88 rfl (I.atH b9H)) ?_
  refine B9 I Tryd.zeroValue88 (cs := [(vi 0), (Value.string ⟨#[]⟩), (Value.slice none 0 0), (Value.slice none 0 0), (Value.slice none 0 0), (Value.slice none 0 0)]) rfl fun a2Y e5a e0n e5b => ?_
  refine r5 e0n Tryd.sizeOf88 (vs := (d5 w8)) (cs' := (d5 w8)) rfl rfl (nb rfl) rfl rfl fun e5c a5U e5d => ?_
  refine b7 (ld1 Tryd.isAgg115 ((a5U.bring 1).at1 (o := 0) (vs := [(Value.func (.func 68) #[] #[(Value.pointer (some ⟨g1000, 0, none⟩))])]) (nb rfl) rfl)) ?_
  refine a7 M9 ?_
  refine b7 (ld1 Tryd.isAgg3 (a5U.at1 (o := 0) (vs := [(vi w8.c7)]) (nb rfl) rfl)) ?_
  refine a7 a1k ?_
  refine b7 (ld1 Tryd.isAgg9 (a5U.at1 (o := 1) (vs := [(Value.string w8.g8)]) (nb rfl) rfl)) ?_
  refine a7 a1m ?_
  refine b7 (ld1 Tryd.isAgg31 (a5U.at1 (o := 3) (vs := [(vs w8.g6)]) (nb rfl) rfl)) ?_
  refine a7 (X3 _ _ _) ?_
  refine a7 a1l ?_
  refine b7 (ld1 Tryd.isAgg28 (a5U.at1 (o := 2) (vs := [(vs w8.b9)]) (nb rfl) rfl)) ?_
  refine a7 (M0 _ _ _) ?_
  refine a7 a2F ?_
  refine b7 (ld1 Tryd.isAgg23 (a5U.at1 (o := 4) (vs := [(vs w8.w3)]) (nb rfl) rfl)) ?_
  refine a7 (U4 _ _ _) ?_
  refine a7 X4 ?_
  refine b7 (ld1 Tryd.isAgg23 (a5U.at1 (o := 5) (vs := [(vs w8.t1)]) (nb rfl) rfl)) ?_
  refine a7 (U4 _ _ _) ?_
  refine a7 (a7P _ _ _ _) ?_
  refine d7 (cap := [(Value.pointer (some ⟨g1000, 0, none⟩))]) (fun args w => Tryd.call68 args w) ?_
  refine h9 (Fi := [bx g1000 40 [(vs M1)], Fcp1000l1]) (Fr := [bx a2Y 88 (d5 w8), bx g1 115 [(Value.func (.func 68) #[] #[(Value.pointer (some ⟨g1000, 0, none⟩))])], bx g2 108 [(Value.func (.func 70) #[] #[(Value.pointer (some ⟨g1, 0, none⟩)), (Value.pointer (some ⟨g3, 0, none⟩)), (Value.pointer (some ⟨g2, 0, none⟩))])], bx g3 103 [(Value.func (.func 69) #[] #[(Value.pointer (some ⟨g1, 0, none⟩)), (Value.pointer (some ⟨g3, 0, none⟩))])], bx g4 116 [(Value.func (.func 71) #[] #[(Value.pointer (some ⟨g1, 0, none⟩)), (Value.pointer (some ⟨g2, 0, none⟩)), (Value.pointer (some ⟨g3, 0, none⟩)), (Value.pointer (some ⟨g4, 0, none⟩))])]]) ((a5U.bring 6).bring 6) (h g1000 M1 Fcp1000l1 a1e) (fun e5e b9D e5f e5g c5z e5h e5i e0o => ?_) (fun _ _ _ _ _ q => q.elim)
  obtain ⟨e4u, y0__207, sy0__207, Fy0__207, rfl, rfl, hy0__207, h⟩ := e0o
  have hj3 : ∀ (a2w : (List Int)) (a5V : Sl) (Fcp1000j3 : Frag) (H : Hp) (w : World) (_ : RowL 5 1 i4 a5V a2w Fcp1000j3) (_ : Inv w0 ps0 H0 H [bx g1000 40 [(vs a5V)], bx a2Y 88 (d5 w8), bx g1 115 [(Value.func (.func 68) #[] #[(Value.pointer (some ⟨g1000, 0, none⟩))])], bx g2 108 [(Value.func (.func 70) #[] #[(Value.pointer (some ⟨g1, 0, none⟩)), (Value.pointer (some ⟨g3, 0, none⟩)), (Value.pointer (some ⟨g2, 0, none⟩))])], bx g3 103 [(Value.func (.func 69) #[] #[(Value.pointer (some ⟨g1, 0, none⟩)), (Value.pointer (some ⟨g3, 0, none⟩))])], bx g4 116 [(Value.func (.func 71) #[] #[(Value.pointer (some ⟨g1, 0, none⟩)), (Value.pointer (some ⟨g2, 0, none⟩)), (Value.pointer (some ⟨g3, 0, none⟩)), (Value.pointer (some ⟨g4, 0, none⟩))])], Fcp1000j3] w) (_ : L5 x0 (x0.n : Int) M4 a2w w8 H n1 K), b6d (Value.pointer (some ⟨g1, 0, none⟩)) (Value.pointer (some ⟨g2, 0, none⟩)) (Value.pointer (some ⟨g3, 0, none⟩)) (Value.pointer (some ⟨g4, 0, none⟩)) (Value.pointer (some ⟨a2Y, 0, none⟩)) (vs x0) (vi (x0.n : Int)) (vi M4) w j2 R E := by
   intro a2w a5V Fcp1000j3 H w c1T I h
   unfold b6d
   intro _
   unfold L5 at h
   have hj4 : ∀ (a3R : (List Int)) (a3S : Sl) (Fcp1000j4 : Frag) (H : Hp) (w : World) (_ : RowL 5 1 i4 a3S a3R Fcp1000j4) (_ : Inv w0 ps0 H0 H [bx g1000 40 [(vs a3S)], bx a2Y 88 (d5 w8), bx g1 115 [(Value.func (.func 68) #[] #[(Value.pointer (some ⟨g1000, 0, none⟩))])], bx g2 108 [(Value.func (.func 70) #[] #[(Value.pointer (some ⟨g1, 0, none⟩)), (Value.pointer (some ⟨g3, 0, none⟩)), (Value.pointer (some ⟨g2, 0, none⟩))])], bx g3 103 [(Value.func (.func 69) #[] #[(Value.pointer (some ⟨g1, 0, none⟩)), (Value.pointer (some ⟨g3, 0, none⟩))])], bx g4 116 [(Value.func (.func 71) #[] #[(Value.pointer (some ⟨g1, 0, none⟩)), (Value.pointer (some ⟨g2, 0, none⟩)), (Value.pointer (some ⟨g3, 0, none⟩)), (Value.pointer (some ⟨g4, 0, none⟩))])], Fcp1000j4] w) (_ : L3 x0 (x0.n : Int) M4 a3R w8 H n1 K), b6c (Value.pointer (some ⟨g1, 0, none⟩)) (Value.pointer (some ⟨g2, 0, none⟩)) (Value.pointer (some ⟨g3, 0, none⟩)) (Value.pointer (some ⟨g4, 0, none⟩)) (Value.pointer (some ⟨a2Y, 0, none⟩)) (vs x0) (vi (x0.n : Int)) (vi M4) w j2 R E := by
    intro a3R a3S Fcp1000j4 H w c1U I h
    unfold b6c
    intro _
    unfold L3 at h
    refine b7 (ld1 Tryd.isAgg116 ((I.bring 5).at1 (o := 0) (vs := [(Value.func (.func 71) #[] #[(Value.pointer (some ⟨g1, 0, none⟩)), (Value.pointer (some ⟨g2, 0, none⟩)), (Value.pointer (some ⟨g3, 0, none⟩)), (Value.pointer (some ⟨g4, 0, none⟩))])]) (nb rfl) rfl)) ?_
    refine a7 a2F ?_
    refine b7 (ld1 Tryd.isAgg23 ((I.bring 1).at1 (o := 4) (vs := [(vs w8.w3)]) (nb rfl) rfl)) ?_
    refine d7 (cap := [(Value.pointer (some ⟨g1, 0, none⟩)), (Value.pointer (some ⟨g2, 0, none⟩)), (Value.pointer (some ⟨g3, 0, none⟩)), (Value.pointer (some ⟨g4, 0, none⟩))]) (fun args w => Tryd.call71 args w) ?_
    refine h9 (Fi := [bx g1 115 [(Value.func (.func 68) #[] #[(Value.pointer (some ⟨g1000, 0, none⟩))])], bx g2 108 [(Value.func (.func 70) #[] #[(Value.pointer (some ⟨g1, 0, none⟩)), (Value.pointer (some ⟨g3, 0, none⟩)), (Value.pointer (some ⟨g2, 0, none⟩))])], bx g3 103 [(Value.func (.func 69) #[] #[(Value.pointer (some ⟨g1, 0, none⟩)), (Value.pointer (some ⟨g3, 0, none⟩))])], bx g4 116 [(Value.func (.func 71) #[] #[(Value.pointer (some ⟨g1, 0, none⟩)), (Value.pointer (some ⟨g2, 0, none⟩)), (Value.pointer (some ⟨g3, 0, none⟩)), (Value.pointer (some ⟨g4, 0, none⟩))])], bx g1000 40 [(vs a3S)], Fcp1000j4]) (Fr := [bx a2Y 88 (d5 w8)]) ((((((I.bring 6).bring 1).bring 6).bring 6).bring 6).bring 6) (h g1 g2 g3 g4 g1000 a3S Fcp1000j4 c1U) (fun e5j c5u e5k e5l b9I e5m e5n e0p => ?_) (fun _ _ _ _ _ q => q.elim)
    obtain ⟨e4v, y0__264, sy0__264, Fy0__264, rfl, rfl, hy0__264, h⟩ := e0p
    refine b7 (ld1 Tryd.isAgg116 ((b9I.bring 3).at1 (o := 0) (vs := [(Value.func (.func 71) #[] #[(Value.pointer (some ⟨g1, 0, none⟩)), (Value.pointer (some ⟨g2, 0, none⟩)), (Value.pointer (some ⟨g3, 0, none⟩)), (Value.pointer (some ⟨g4, 0, none⟩))])]) (nb rfl) rfl)) ?_
    refine a7 X4 ?_
    refine b7 (ld1 Tryd.isAgg23 ((b9I.bring 6).at1 (o := 5) (vs := [(vs w8.t1)]) (nb rfl) rfl)) ?_
    refine d7 (cap := [(Value.pointer (some ⟨g1, 0, none⟩)), (Value.pointer (some ⟨g2, 0, none⟩)), (Value.pointer (some ⟨g3, 0, none⟩)), (Value.pointer (some ⟨g4, 0, none⟩))]) (fun args w => Tryd.call71 args w) ?_
    refine h9 (Fi := [bx g1 115 [(Value.func (.func 68) #[] #[(Value.pointer (some ⟨g1000, 0, none⟩))])], bx g2 108 [(Value.func (.func 70) #[] #[(Value.pointer (some ⟨g1, 0, none⟩)), (Value.pointer (some ⟨g3, 0, none⟩)), (Value.pointer (some ⟨g2, 0, none⟩))])], bx g3 103 [(Value.func (.func 69) #[] #[(Value.pointer (some ⟨g1, 0, none⟩)), (Value.pointer (some ⟨g3, 0, none⟩))])], bx g4 116 [(Value.func (.func 71) #[] #[(Value.pointer (some ⟨g1, 0, none⟩)), (Value.pointer (some ⟨g2, 0, none⟩)), (Value.pointer (some ⟨g3, 0, none⟩)), (Value.pointer (some ⟨g4, 0, none⟩))])], bx g1000 40 [(vs sy0__264)], Fy0__264]) (Fr := [bx a2Y 88 (d5 w8)]) ((((((b9I.bring 5).bring 5).bring 5).bring 5).bring 5).bring 5) (h g1 g2 g3 g4 g1000 sy0__264 Fy0__264 hy0__264) (fun e5o b9y e5p e5q e0q e5r e5s e0r => ?_) (fun _ _ _ _ _ q => q.elim)
    obtain ⟨e4w, y0__273, sy0__273, Fy0__273, rfl, rfl, hy0__273, h⟩ := e0r
    exact hx2 _ _ (hj2 y0__273 sy0__273 Fy0__273 b9y _ hy0__273 (((((((e0q.bring 6).drop.bring 5).bring 5).bring 5).bring 5).bring 5).bring 5) h)
   refine o8 fun j4 hx4 => ?_
   refine a7 a1l ?_
   refine b7 (ld1 Tryd.isAgg28 ((I.bring 1).at1 (o := 2) (vs := [(vs w8.b9)]) (nb rfl) rfl)) ?_
   refine a7 (M0 _ _ _) ?_
   obtain ⟨b9J, b1C, e0s, e0t⟩ := h
   refine y8 (J := fun n l w => ∃ (s : Int × (List Int)) (H : Hp) (a2x : Sl) (Fcp1000l5 : Frag) , n = b1C s ∧ l = (match s with | (Z6, O3) => [(vi Z6)]) ∧ (match s with | (Z6, O3) => RowL 5 1 i4 a2x O3 Fcp1000l5) ∧ (match s with | (Z6, O3) => Inv w0 ps0 H0 H [bx g1000 40 [(vs a2x)], bx a2Y 88 (d5 w8), bx g1 115 [(Value.func (.func 68) #[] #[(Value.pointer (some ⟨g1000, 0, none⟩))])], bx g2 108 [(Value.func (.func 70) #[] #[(Value.pointer (some ⟨g1, 0, none⟩)), (Value.pointer (some ⟨g3, 0, none⟩)), (Value.pointer (some ⟨g2, 0, none⟩))])], bx g3 103 [(Value.func (.func 69) #[] #[(Value.pointer (some ⟨g1, 0, none⟩)), (Value.pointer (some ⟨g3, 0, none⟩))])], bx g4 116 [(Value.func (.func 71) #[] #[(Value.pointer (some ⟨g1, 0, none⟩)), (Value.pointer (some ⟨g2, 0, none⟩)), (Value.pointer (some ⟨g3, 0, none⟩)), (Value.pointer (some ⟨g4, 0, none⟩))])], Fcp1000l5] w) ∧ b9J s H) ⟨_, (0, a2w), H, a5V, Fcp1000j3, rfl, rfl, c1T, (((((((I.bring 6).bring 6).bring 6).bring 6).bring 6).bring 6).bring 6), e0s⟩ ?_
   rintro e5t τ_313 w next5 ⟨⟨Z6, O3⟩, H, a2x, Fcp1000l5, rfl, b9K, a8J, I, e0u⟩ hn5
   dsimp only at b9K I a8J
   simp only [List.map_cons, List.map_nil, List.cons.injEq, and_true] at b9K
   have e51 := b9K
   simp only [e51]
   obtain ⟨n5, hm5, h⟩ : ∃ n5 : (Int × (List Int)) → Hp → Prop, (∀ s' H', n5 s' H' → b9J s' H' ∧ b1C s' < b1C (Z6, O3)) ∧ L4 x0 (x0.n : Int) M4 w8.b9 (w8.b9.n : Int) w8 Z6 O3 H n1 n5 K := ⟨_, fun _ _ h => h, e0t (Z6, O3) H (fun s' H' => b9J s' H' ∧ b1C s' < b1C (Z6, O3)) e0u (fun _ _ a b => ⟨a, b⟩)⟩
   unfold c1L
   unfold L4 at h
   refine a7 (C3 _ _ _ _ _ _) ?_
   refine d9 (fun b9L => ?_) (fun b9L => ?_)
   ·replace h := h.1 b9L
    obtain ⟨e0v, e0w, a5R, b9M, h⟩ := h
    obtain ⟨e5u, e5v, e0x, b9M⟩ := b9M
    refine a7 (a1T e0x _ _ _ _ e0v e0w) ?_
    refine b7 (ldA (vs := (c5 a5R)) Tryd.isAgg30 Tryd.sizeOf30 rfl (I.atH b9M)) ?_
    refine B9 I Tryd.zeroValue30 (cs := [(vi 0), (vi 0), (Value.string ⟨#[]⟩), (Value.slice none 0 0)]) rfl fun e0y e5w e0z e5x => ?_
    refine r5 e0z Tryd.sizeOf30 (vs := (c5 a5R)) (cs' := (c5 a5R)) rfl rfl (nb rfl) rfl rfl fun e5y b9N e5z => ?_
    refine b7 (ld1 Tryd.isAgg103 ((b9N.bring 5).at1 (o := 0) (vs := [(Value.func (.func 69) #[] #[(Value.pointer (some ⟨g1, 0, none⟩)), (Value.pointer (some ⟨g3, 0, none⟩))])]) (nb rfl) rfl)) ?_
    refine b7 (ldA Tryd.isAgg30 Tryd.sizeOf30 rfl (b9N.at1 (o := 0) (vs := (c5 a5R)) (nb rfl) rfl)) ?_
    refine d7 (cap := [(Value.pointer (some ⟨g1, 0, none⟩)), (Value.pointer (some ⟨g3, 0, none⟩))]) (fun args w => Tryd.call69 args w) ?_
    refine h9 (Fi := [bx g1 115 [(Value.func (.func 68) #[] #[(Value.pointer (some ⟨g1000, 0, none⟩))])], bx g3 103 [(Value.func (.func 69) #[] #[(Value.pointer (some ⟨g1, 0, none⟩)), (Value.pointer (some ⟨g3, 0, none⟩))])], bx g1000 40 [(vs a2x)], Fcp1000l5]) (Fr := [bx e0y 30 (c5 a5R), bx a2Y 88 (d5 w8), bx g2 108 [(Value.func (.func 70) #[] #[(Value.pointer (some ⟨g1, 0, none⟩)), (Value.pointer (some ⟨g3, 0, none⟩)), (Value.pointer (some ⟨g2, 0, none⟩))])], bx g4 116 [(Value.func (.func 71) #[] #[(Value.pointer (some ⟨g1, 0, none⟩)), (Value.pointer (some ⟨g2, 0, none⟩)), (Value.pointer (some ⟨g3, 0, none⟩)), (Value.pointer (some ⟨g4, 0, none⟩))])]]) ((((b9N.bring 7).bring 2).bring 6).bring 5) (h g1 g3 g1000 a2x Fcp1000l5 a8J) (fun e5A b9z e5B e5C e0A e5D e5E e0B => ?_) (fun _ _ _ _ _ q => q.elim)
    obtain ⟨e4x, y0__306, sy0__306, Fy0__306, rfl, rfl, hy0__306, h⟩ := e0B
    refine a7 (v7 _ _ _ _ _ _) ?_
    exact hn5 _ _ _ (hm5 _ _ h).2 ⟨((IntKind.wrap .i64 (Z6 + 1)), y0__306), b9z, sy0__306, Fy0__306, rfl, rfl, hy0__306, ((((((((e0A.bring 4).drop.bring 3).bring 6).bring 3).bring 6).bring 4).bring 6).bring 6), (hm5 _ _ h).1⟩
   ·replace h := h.2 b9L
    exact hx4 _ _ (hj4 O3 a2x Fcp1000l5 H _ a8J (((((((I.bring 6).bring 6).bring 6).bring 6).bring 6).bring 6).bring 6) h)
  refine o8 fun j3 hx3 => ?_
  refine a7 a1m ?_
  refine b7 (ld1 Tryd.isAgg31 ((c5z.bring 2).at1 (o := 3) (vs := [(vs w8.g6)]) (nb rfl) rfl)) ?_
  refine a7 (X3 _ _ _) ?_
  obtain ⟨b9O, b1D, e0C, e0D⟩ := h
  refine y8 (J := fun n l w => ∃ (s : Int × (List Int)) (H : Hp) (a2y : Sl) (Fcp1000l6 : Frag) , n = b1D s ∧ l = (match s with | (Z7, O4) => [(vi Z7)]) ∧ (match s with | (Z7, O4) => RowL 5 1 i4 a2y O4 Fcp1000l6) ∧ (match s with | (Z7, O4) => Inv w0 ps0 H0 H [bx g1000 40 [(vs a2y)], bx a2Y 88 (d5 w8), bx g1 115 [(Value.func (.func 68) #[] #[(Value.pointer (some ⟨g1000, 0, none⟩))])], bx g2 108 [(Value.func (.func 70) #[] #[(Value.pointer (some ⟨g1, 0, none⟩)), (Value.pointer (some ⟨g3, 0, none⟩)), (Value.pointer (some ⟨g2, 0, none⟩))])], bx g3 103 [(Value.func (.func 69) #[] #[(Value.pointer (some ⟨g1, 0, none⟩)), (Value.pointer (some ⟨g3, 0, none⟩))])], bx g4 116 [(Value.func (.func 71) #[] #[(Value.pointer (some ⟨g1, 0, none⟩)), (Value.pointer (some ⟨g2, 0, none⟩)), (Value.pointer (some ⟨g3, 0, none⟩)), (Value.pointer (some ⟨g4, 0, none⟩))])], Fcp1000l6] w) ∧ b9O s H) ⟨_, (0, y0__207), b9D, sy0__207, Fy0__207, rfl, rfl, hy0__207, (((((((c5z.bring 1).bring 6).bring 6).bring 6).bring 6).bring 6).bring 6), e0C⟩ ?_
  rintro e5F τ_355 w next6 ⟨⟨Z7, O4⟩, H, a2y, Fcp1000l6, rfl, b9P, a8K, I, e0E⟩ hn6
  dsimp only at b9P I a8K
  simp only [List.map_cons, List.map_nil, List.cons.injEq, and_true] at b9P
  have e40 := b9P
  simp only [e40]
  obtain ⟨n6, hm6, h⟩ : ∃ n6 : (Int × (List Int)) → Hp → Prop, (∀ s' H', n6 s' H' → b9O s' H' ∧ b1D s' < b1D (Z7, O4)) ∧ E5 x0 (x0.n : Int) M4 w8.g6 (w8.g6.n : Int) w8 Z7 O4 H n1 n6 K := ⟨_, fun _ _ h => h, e0D (Z7, O4) H (fun s' H' => b9O s' H' ∧ b1D s' < b1D (Z7, O4)) e0E (fun _ _ a b => ⟨a, b⟩)⟩
  unfold c1O
  unfold E5 at h
  refine a7 (C3 _ _ _ _ _ _) ?_
  refine d9 (fun b9Q => ?_) (fun b9Q => ?_)
  ·replace h := h.1 b9Q
   obtain ⟨e0F, e0G, a5S, b9R, h⟩ := h
   obtain ⟨e5G, e5H, e0H, b9R⟩ := b9R
   refine a7 (a4K e0H _ _ _ _ e0F e0G) ?_
   refine b7 (ldA (vs := (c9 a5S)) Tryd.isAgg33 Tryd.sizeOf33 rfl (I.atH b9R)) ?_
   refine B9 I Tryd.zeroValue33 (cs := [(vi 0), (vi 0), (Value.slice none 0 0), (Value.slice none 0 0)]) rfl fun e0I e5I e0J e5J => ?_
   refine r5 e0J Tryd.sizeOf33 (vs := (c9 a5S)) (cs' := (c9 a5S)) rfl rfl (nb rfl) rfl rfl fun e5K b9S e5L => ?_
   refine b7 (ld1 Tryd.isAgg108 ((b9S.bring 4).at1 (o := 0) (vs := [(Value.func (.func 70) #[] #[(Value.pointer (some ⟨g1, 0, none⟩)), (Value.pointer (some ⟨g3, 0, none⟩)), (Value.pointer (some ⟨g2, 0, none⟩))])]) (nb rfl) rfl)) ?_
   refine b7 (ldA Tryd.isAgg33 Tryd.sizeOf33 rfl (b9S.at1 (o := 0) (vs := (c9 a5S)) (nb rfl) rfl)) ?_
   refine d7 (cap := [(Value.pointer (some ⟨g1, 0, none⟩)), (Value.pointer (some ⟨g3, 0, none⟩)), (Value.pointer (some ⟨g2, 0, none⟩))]) (fun args w => Tryd.call70 args w) ?_
   refine h9 (Fi := [bx g1 115 [(Value.func (.func 68) #[] #[(Value.pointer (some ⟨g1000, 0, none⟩))])], bx g3 103 [(Value.func (.func 69) #[] #[(Value.pointer (some ⟨g1, 0, none⟩)), (Value.pointer (some ⟨g3, 0, none⟩))])], bx g2 108 [(Value.func (.func 70) #[] #[(Value.pointer (some ⟨g1, 0, none⟩)), (Value.pointer (some ⟨g3, 0, none⟩)), (Value.pointer (some ⟨g2, 0, none⟩))])], bx g1000 40 [(vs a2y)], Fcp1000l6]) (Fr := [bx e0I 33 (c9 a5S), bx a2Y 88 (d5 w8), bx g4 116 [(Value.func (.func 71) #[] #[(Value.pointer (some ⟨g1, 0, none⟩)), (Value.pointer (some ⟨g2, 0, none⟩)), (Value.pointer (some ⟨g3, 0, none⟩)), (Value.pointer (some ⟨g4, 0, none⟩))])]]) (((((b9S.bring 7).bring 2).bring 5).bring 6).bring 6) (h g1 g3 g2 g1000 a2y Fcp1000l6 a8K) (fun e5M b9A e5N e5O e0K e5P e5Q e0L => ?_) (fun _ _ _ _ _ q => q.elim)
   obtain ⟨e4y, y0__348, sy0__348, Fy0__348, rfl, rfl, hy0__348, h⟩ := e0L
   refine a7 (v7 _ _ _ _ _ _) ?_
   exact hn6 _ _ _ (hm6 _ _ h).2 ⟨((IntKind.wrap .i64 (Z7 + 1)), y0__348), b9A, sy0__348, Fy0__348, rfl, rfl, hy0__348, ((((((((e0K.bring 5).drop.bring 4).bring 6).bring 3).bring 4).bring 4).bring 6).bring 6), (hm6 _ _ h).1⟩
  ·replace h := h.2 b9Q
   exact hx3 _ _ (hj3 O4 a2y Fcp1000l6 H _ a8K (((((((I.bring 6).bring 6).bring 6).bring 6).bring 6).bring 6).bring 6) h)
 ·replace h := h.2 b9G
  exact hR (Sl.mk none 0 0) t6 M1 Fcp1000l1 H _ a1e ((((((I.bring 5).bring 5).bring 5).bring 5).bring 5).bring 5) h
theorem a5G (x0 : Sl) (x1000 : Sl) (x1000_ : (List Int)) {H : Hp} {K : Sl → (List Int) → Hp → Prop} (h : P3 x0 x1000 x1000_ H K) : J3 x0 x1000 x1000_ H K := by
 intro g1 g2 g3 g4 g1000 sx1000_ Fx1000_ hx1000_ w I
 refine d7I ?_
 refine a5x x0 x1000 x1000_ g1 g2 g3 g4 g1000 sx1000_ Fx1000_ hx1000_ I (fun y0 y0_ sy0_ Fy0_ H' w' khy0_ I' hk => ⟨H', _, I', y0, y0_, sy0_, Fy0_, rfl, rfl, khy0_, hk⟩) h
def N8 (ccr_15j1 : (List Int)) (cr_1j1 : i5) (H : Hp) (K : Sl → Int → Hp → Prop) : Prop :=
 J3 cr_1j1.a3F (Sl.mk none 0 0) ccr_15j1 H (fun (_y0_84 : Sl) (y0__84 : (List Int)) (d7M : Hp) =>
 ∀ (sy0__84 : Sl) (b2C : Hp), Hle d7M b2C → SlH b2C 1 i4 sy0__84 y0__84 → sy0__84.n ≤ sy0__84.c →
 K sy0__84 0 b2C)
def N9 (c5A : Sl) (c5B : Int) (cr_1l2 : i5) (Z8 : Int) (ccr_15l2 : (List Int)) (H : Hp) (n2 : (Int × (List Int)) → Hp → Prop) (K : Sl → Int → Hp → Prop) : Prop :=
 (Z8 < c5B →
 (0 : Int) ≤ Z8 ∧ (Z8 : Int) < c5A.n ∧ ∃ a6j : z6, EltH H c5A Z8 2 (j8 a6j) ∧
 D8 68 0 a6j.S1 a6j.g8 (X1.mk 0 0 0 0) (Sl.mk none 0 0) ccr_15l2 H (fun (_y0_122 : Sl) (y0__122 : (List Int)) (b9T : Hp) =>
 n2 ((IntKind.wrap .i64 (Z8 + 1)), y0__122) b9T)) ∧
 (¬ (Z8 < c5B) →
 N8 ccr_15l2 cr_1l2 H K)
def S5 (x0 : i5) (H : Hp) (K : Sl → Int → Hp → Prop) : Prop :=
 a0P x0 H (fun (C0 : Int) (H_6 : Hp) =>
 (¬ (C0 = 0) →
 K (Sl.mk none 0 0) C0 H_6) ∧
 (C0 = 0 →
 TL ((0, []) : Int × (List Int)) H_6 fun (s : Int × (List Int)) H n2 => N9 x0.R6 (x0.R6.n : Int) x0 s.1 s.2 H n2 K))
theorem a6k (x0 : i5) {w0 w : World} {ps0 : Nat → Prop} {H0 H : Hp} {K : Sl → Int → Hp → Prop} {R : Value → World → Prop} {E : Pan} (I : Inv w0 ps0 H0 H [] w) (hR : ∀ (r0 : Sl) (r1 : Int) (H' : Hp) (w' : World) (_ : Inv w0 ps0 H0 H' [] w') (_ : K r0 r1 H'), R (Value.tuple #[(vs r0), (vi r1)]) w') (h : S5 x0 H K) : F31 (Value.agg (f9 x0).toArray) w R E := by
 unfold S5 at h
 unfold F31
 refine K1 I (cs := (f9 x0)) rfl fun g_2 w_3 I_4 k_5 => ?_
 refine b7 (ldA Tryd.isAgg25 Tryd.sizeOf25 rfl (I_4.at1 (o := 0) (vs := (f9 x0)) (nb rfl) rfl)) ?_
 refine d7 (cap := []) (fun args w => Tryd.call27 args w) ?_
 refine h9 (Fi := []) (Fr := [bx g_2 25 (f9 x0)]) I_4 (h) (fun a8m H_6 a8n w_7 I_8 a8o k_9 a0Z => ?_) (fun _ _ _ _ _ q => q.elim)
 obtain ⟨C0, rfl, rfl, h⟩ := a0Z
 refine a7 (a0D _ _ _ _ _ _) ?_
 refine a8O (fun b9U => ?_) (fun b9U => ?_)
 ·replace h := h.1 b9U
  exact hR (Sl.mk none 0 0) C0 H_6 _ I_8.drop h
 ·replace h := h.2 b9U
  refine B9 I_8 Tryd.zeroValue40 (cs := [(Value.slice none 0 0)]) rfl fun a2l a1x a0u b4S => ?_
  refine a7 (a0I _ _ _) ?_
  refine B9 a0u Tryd.zeroValue115 (cs := [Value.nilFunc]) rfl fun R9 u2 e3X e8e => ?_
  refine r5 e3X Tryd.sizeOf115 (vs := [(Value.func (.func 68) #[] #[(Value.pointer (some ⟨a2l, 0, none⟩))])]) (cs' := [(Value.func (.func 68) #[] #[(Value.pointer (some ⟨a2l, 0, none⟩))])]) rfl rfl (nb rfl) rfl rfl fun a7V b9V e3Y => ?_
  refine B9 b9V Tryd.zeroValue103 (cs := [Value.nilFunc]) rfl fun M6 C5 a7a b8e => ?_
  refine a7 (a0I _ _ _) ?_
  refine r5 a7a Tryd.sizeOf103 (vs := [(Value.func (.func 69) #[] #[(Value.pointer (some ⟨R9, 0, none⟩)), (Value.pointer (some ⟨M6, 0, none⟩))])]) (cs' := [(Value.func (.func 69) #[] #[(Value.pointer (some ⟨R9, 0, none⟩)), (Value.pointer (some ⟨M6, 0, none⟩))])]) rfl rfl (nb rfl) rfl rfl fun e8f b4X e8g => ?_
  refine B9 b4X Tryd.zeroValue108 (cs := [Value.nilFunc]) rfl fun a0B E0 c4s e3s => ?_
  refine a7 (a0I _ _ _) ?_
  refine r5 c4s Tryd.sizeOf108 (vs := [(Value.func (.func 70) #[] #[(Value.pointer (some ⟨R9, 0, none⟩)), (Value.pointer (some ⟨M6, 0, none⟩)), (Value.pointer (some ⟨a0B, 0, none⟩))])]) (cs' := [(Value.func (.func 70) #[] #[(Value.pointer (some ⟨R9, 0, none⟩)), (Value.pointer (some ⟨M6, 0, none⟩)), (Value.pointer (some ⟨a0B, 0, none⟩))])]) rfl rfl (nb rfl) rfl rfl fun c2n c4I e3Z => ?_
  refine B9 c4I Tryd.zeroValue116 (cs := [Value.nilFunc]) rfl fun a2Z J4 c4A e3D => ?_
  refine a7 (a0I _ _ _) ?_
  refine r5 c4A Tryd.sizeOf116 (vs := [(Value.func (.func 71) #[] #[(Value.pointer (some ⟨R9, 0, none⟩)), (Value.pointer (some ⟨a0B, 0, none⟩)), (Value.pointer (some ⟨M6, 0, none⟩)), (Value.pointer (some ⟨a2Z, 0, none⟩))])]) (cs' := [(Value.func (.func 71) #[] #[(Value.pointer (some ⟨R9, 0, none⟩)), (Value.pointer (some ⟨a0B, 0, none⟩)), (Value.pointer (some ⟨M6, 0, none⟩)), (Value.pointer (some ⟨a2Z, 0, none⟩))])]) rfl rfl (nb rfl) rfl rfl fun c9Z d7N e8h => ?_
  have hj1 : ∀ (ccr_15j1 : (List Int)) (scr_15j1 : Sl) (Fcr_15j1 : Frag) (H : Hp) (w : World) (_ : RowL 5 1 i4 scr_15j1 ccr_15j1 Fcr_15j1) (_ : Inv w0 ps0 H0 H [bx a2Z 116 [(Value.func (.func 71) #[] #[(Value.pointer (some ⟨R9, 0, none⟩)), (Value.pointer (some ⟨a0B, 0, none⟩)), (Value.pointer (some ⟨M6, 0, none⟩)), (Value.pointer (some ⟨a2Z, 0, none⟩))])], bx a0B 108 [(Value.func (.func 70) #[] #[(Value.pointer (some ⟨R9, 0, none⟩)), (Value.pointer (some ⟨M6, 0, none⟩)), (Value.pointer (some ⟨a0B, 0, none⟩))])], bx M6 103 [(Value.func (.func 69) #[] #[(Value.pointer (some ⟨R9, 0, none⟩)), (Value.pointer (some ⟨M6, 0, none⟩))])], bx R9 115 [(Value.func (.func 68) #[] #[(Value.pointer (some ⟨a2l, 0, none⟩))])], bx a2l 40 [(vs scr_15j1)], bx g_2 25 (f9 x0), Fcr_15j1] w) (_ : N8 ccr_15j1 x0 H K), b5X (Value.pointer (some ⟨g_2, 0, none⟩)) (Value.pointer (some ⟨a2l, 0, none⟩)) (Value.pointer (some ⟨a2Z, 0, none⟩)) w R E := by
   intro ccr_15j1 scr_15j1 Fcr_15j1 H w hcr_15j1 I h
   unfold b5X
   intro _
   unfold N8 at h
   refine b7 (ld1 Tryd.isAgg116 (I.at1 (o := 0) (vs := [(Value.func (.func 71) #[] #[(Value.pointer (some ⟨R9, 0, none⟩)), (Value.pointer (some ⟨a0B, 0, none⟩)), (Value.pointer (some ⟨M6, 0, none⟩)), (Value.pointer (some ⟨a2Z, 0, none⟩))])]) (nb rfl) rfl)) ?_
   refine a7 a6I ?_
   refine b7 (ld1 Tryd.isAgg23 ((I.bring 5).at1 (o := 1) (vs := [(vs x0.a3F)]) (nb rfl) rfl)) ?_
   refine d7 (cap := [(Value.pointer (some ⟨R9, 0, none⟩)), (Value.pointer (some ⟨a0B, 0, none⟩)), (Value.pointer (some ⟨M6, 0, none⟩)), (Value.pointer (some ⟨a2Z, 0, none⟩))]) (fun args w => Tryd.call71 args w) ?_
   refine h9 (Fi := [bx R9 115 [(Value.func (.func 68) #[] #[(Value.pointer (some ⟨a2l, 0, none⟩))])], bx a0B 108 [(Value.func (.func 70) #[] #[(Value.pointer (some ⟨R9, 0, none⟩)), (Value.pointer (some ⟨M6, 0, none⟩)), (Value.pointer (some ⟨a0B, 0, none⟩))])], bx M6 103 [(Value.func (.func 69) #[] #[(Value.pointer (some ⟨R9, 0, none⟩)), (Value.pointer (some ⟨M6, 0, none⟩))])], bx a2Z 116 [(Value.func (.func 71) #[] #[(Value.pointer (some ⟨R9, 0, none⟩)), (Value.pointer (some ⟨a0B, 0, none⟩)), (Value.pointer (some ⟨M6, 0, none⟩)), (Value.pointer (some ⟨a2Z, 0, none⟩))])], bx a2l 40 [(vs scr_15j1)], Fcr_15j1]) (Fr := [bx g_2 25 (f9 x0)]) ((((((I.bring 6).bring 5).bring 2).bring 4).bring 4).bring 5) (h R9 a0B M6 a2Z a2l scr_15j1 Fcr_15j1 hcr_15j1) (fun e8i d7M e8j e8k d7O e8l e8m e4a => ?_) (fun _ _ _ _ _ q => q.elim)
   obtain ⟨e5R, y0__84, sy0__84, Fy0__84, rfl, rfl, hy0__84, h⟩ := e4a
   refine b7 (ld1 Tryd.isAgg40 ((d7O.bring 4).at1 (o := 0) (vs := [(vs sy0__84)]) (nb rfl) rfl)) ?_
   obtain ⟨b2C, e4b, b5O, e4c, e4d⟩ := Inv.freezeC (d7O.bring 5) hy0__84 (by decide)
   replace h := h sy0__84 b2C b5O e4c e4d
   exact hR sy0__84 0 b2C _ e4b.drop.drop.drop.drop.drop.drop h
  refine o8 fun j1 hx1 => ?_
  refine a7 a4j ?_
  refine b7 (ld1 Tryd.isAgg22 ((d7N.bring 5).at1 (o := 0) (vs := [(vs x0.R6)]) (nb rfl) rfl)) ?_
  refine a7 (a7O _ _ _) ?_
  obtain ⟨b9W, b1E, e0M, e0N⟩ := h
  refine y8 (J := fun n l w => ∃ (s : Int × (List Int)) (H : Hp) (scr_15l2 : Sl) (Fcr_15l2 : Frag) , n = b1E s ∧ l = (match s with | (Z8, ccr_15l2) => [(vi Z8)]) ∧ (match s with | (Z8, ccr_15l2) => RowL 5 1 i4 scr_15l2 ccr_15l2 Fcr_15l2) ∧ (match s with | (Z8, ccr_15l2) => Inv w0 ps0 H0 H [bx a2Z 116 [(Value.func (.func 71) #[] #[(Value.pointer (some ⟨R9, 0, none⟩)), (Value.pointer (some ⟨a0B, 0, none⟩)), (Value.pointer (some ⟨M6, 0, none⟩)), (Value.pointer (some ⟨a2Z, 0, none⟩))])], bx a0B 108 [(Value.func (.func 70) #[] #[(Value.pointer (some ⟨R9, 0, none⟩)), (Value.pointer (some ⟨M6, 0, none⟩)), (Value.pointer (some ⟨a0B, 0, none⟩))])], bx M6 103 [(Value.func (.func 69) #[] #[(Value.pointer (some ⟨R9, 0, none⟩)), (Value.pointer (some ⟨M6, 0, none⟩))])], bx R9 115 [(Value.func (.func 68) #[] #[(Value.pointer (some ⟨a2l, 0, none⟩))])], bx a2l 40 [(vs scr_15l2)], bx g_2 25 (f9 x0), Fcr_15l2] w) ∧ b9W s H) ⟨_, (0, []), H_6, (Sl.mk none 0 0), [], rfl, rfl, (RowL.nil a2B a2C), ((((((d7N.nil.bring 6).bring 6).bring 6).bring 6).bring 6).bring 6), e0M⟩ ?_
  rintro e5S τ_129 w next2 ⟨⟨Z8, ccr_15l2⟩, H, scr_15l2, Fcr_15l2, rfl, b9X, hcr_15l2, I, e0O⟩ hn2
  dsimp only at b9X I hcr_15l2
  simp only [List.map_cons, List.map_nil, List.cons.injEq, and_true] at b9X
  have e24 := b9X
  simp only [e24]
  obtain ⟨n2, hm2, h⟩ : ∃ n2 : (Int × (List Int)) → Hp → Prop, (∀ s' H', n2 s' H' → b9W s' H' ∧ b1E s' < b1E (Z8, ccr_15l2)) ∧ N9 x0.R6 (x0.R6.n : Int) x0 Z8 ccr_15l2 H n2 K := ⟨_, fun _ _ h => h, e0N (Z8, ccr_15l2) H (fun s' H' => b9W s' H' ∧ b1E s' < b1E (Z8, ccr_15l2)) e0O (fun _ _ a b => ⟨a, b⟩)⟩
  unfold c1D
  unfold N9 at h
  refine a7 (C3 _ _ _ _ _ _) ?_
  refine d9 (fun b9Y => ?_) (fun b9Y => ?_)
  ·replace h := h.1 b9Y
   obtain ⟨e0P, e0Q, a6j, b9Z, h⟩ := h
   obtain ⟨e5T, e5U, e0R, b9Z⟩ := b9Z
   refine a7 (a9K e0R _ _ _ _ e0P e0Q) ?_
   refine b7 (ldA (vs := (j8 a6j)) Tryd.isAgg67 Tryd.sizeOf67 rfl (I.atH b9Z)) ?_
   refine B9 I Tryd.zeroValue67 (cs := [(Value.string ⟨#[]⟩), (vi 0)]) rfl fun e0S a4o e0T e5V => ?_
   refine r5 e0T Tryd.sizeOf67 (vs := (j8 a6j)) (cs' := (j8 a6j)) rfl rfl (nb rfl) rfl rfl fun d9w a9q d9x => ?_
   refine b7 (ld1 Tryd.isAgg115 ((a9q.bring 4).at1 (o := 0) (vs := [(Value.func (.func 68) #[] #[(Value.pointer (some ⟨a2l, 0, none⟩))])]) (nb rfl) rfl)) ?_
   refine a7 a2E ?_
   refine b7 (ld1 Tryd.isAgg3 (a9q.at1 (o := 1) (vs := [(vi a6j.S1)]) (nb rfl) rfl)) ?_
   refine a7 a6H ?_
   refine b7 (ld1 Tryd.isAgg9 (a9q.at1 (o := 0) (vs := [(Value.string a6j.g8)]) (nb rfl) rfl)) ?_
   refine a7 (b7r) ?_
   refine d7 (cap := [(Value.pointer (some ⟨a2l, 0, none⟩))]) (fun args w => Tryd.call68 args w) ?_
   refine h9 (Fi := [bx a2l 40 [(vs scr_15l2)], Fcr_15l2]) (Fr := [bx e0S 67 (j8 a6j), bx a2Z 116 [(Value.func (.func 71) #[] #[(Value.pointer (some ⟨R9, 0, none⟩)), (Value.pointer (some ⟨a0B, 0, none⟩)), (Value.pointer (some ⟨M6, 0, none⟩)), (Value.pointer (some ⟨a2Z, 0, none⟩))])], bx a0B 108 [(Value.func (.func 70) #[] #[(Value.pointer (some ⟨R9, 0, none⟩)), (Value.pointer (some ⟨M6, 0, none⟩)), (Value.pointer (some ⟨a0B, 0, none⟩))])], bx M6 103 [(Value.func (.func 69) #[] #[(Value.pointer (some ⟨R9, 0, none⟩)), (Value.pointer (some ⟨M6, 0, none⟩))])], bx R9 115 [(Value.func (.func 68) #[] #[(Value.pointer (some ⟨a2l, 0, none⟩))])], bx g_2 25 (f9 x0)]) ((a9q.bring 7).bring 6) (h a2l scr_15l2 Fcr_15l2 hcr_15l2) (fun e5W b9T e5X e5Y e0U b3r e5Z e0V => ?_) (fun _ _ _ _ _ q => q.elim)
   obtain ⟨e4z, y0__122, sy0__122, Fy0__122, rfl, rfl, hy0__122, h⟩ := e0V
   refine a7 (v7 _ _ _ _ _ _) ?_
   exact hn2 _ _ _ (hm2 _ _ h).2 ⟨((IntKind.wrap .i64 (Z8 + 1)), y0__122), b9T, sy0__122, Fy0__122, rfl, rfl, hy0__122, ((((((((e0U.bring 2).drop.bring 1).bring 6).bring 2).bring 6).bring 6).bring 6).bring 6), (hm2 _ _ h).1⟩
  ·replace h := h.2 b9Y
   exact hx1 _ _ (hj1 ccr_15l2 scr_15l2 Fcr_15l2 H _ hcr_15l2 (((((((I.bring 6).bring 6).bring 6).bring 6).bring 6).bring 6).bring 6) h)
theorem a6z (x0 : i5) {H : Hp} {K : Sl → Int → Hp → Prop} (h : S5 x0 H K) : a0e x0 H K := by
 intro w I
 refine d6v ?_
 refine a6k x0 I (fun r0 r1 H' w' I' hk => ⟨H', _, I', r0, r1, rfl, rfl, hk⟩) h
def z8 (a8r : Sl) (e4e : Int) (b2D : Int) (_cr_1j2 : i5) (H : Hp) (K : Bool → Hp → Prop) : Prop :=
 K ((decide (e4e = 0)) && (decide ((a8r.n : Int) = b2D))) H
def A0 (c4z : Sl) (a0R : Int) (c0a : Sl) (cr_1l3 : i5) (a4g : Int) (a0C : Int) (H : Hp) (n3 : (Int × Int) → Hp → Prop) (K : Bool → Hp → Prop) : Prop :=
 (a0C < (c0a.n : Int) →
 (0 : Int) ≤ a0C ∧ (a0C : Int) < c0a.n ∧ ∃ b6k : a8, EltH H c0a a0C 2 (d6 b6k) ∧
 n3 ((IntKind.wrap .i64 (a4g + (b6k.g8.size : Int))), (IntKind.wrap .i64 (a0C + 1))) H) ∧
 (¬ (a0C < (c0a.n : Int)) →
 z8 c4z a0R a4g cr_1l3 H K)
def A4 (X0 : Sl) (e4f : Int) (b2E : Int) (cr_1j1 : i5) (H : Hp) (K : Bool → Hp → Prop) : Prop :=
 V0 cr_1j1 H (fun (c0b : Sl) (c4J : Hp) =>
 TL ((b2E, 0) : Int × Int) c4J fun (s : Int × Int) H n3 => A0 X0 e4f c0b cr_1j1 s.1 s.2 H n3 K)
def A5 (a1z : Sl) (e4g : Int) (cr_1l4 : i5) (a4h : Int) (a2m : Int) (H : Hp) (n4 : (Int × Int) → Hp → Prop) (K : Bool → Hp → Prop) : Prop :=
 (a2m < (cr_1l4.R6.n : Int) →
 (0 : Int) ≤ a2m ∧ (a2m : Int) < cr_1l4.R6.n ∧ ∃ b6l : z6, EltH H cr_1l4.R6 a2m 2 (j8 b6l) ∧
 n4 ((IntKind.wrap .i64 (a4h + (b6l.g8.size : Int))), (IntKind.wrap .i64 (a2m + 1))) H) ∧
 (¬ (a2m < (cr_1l4.R6.n : Int)) →
 A4 a1z e4g a4h cr_1l4 H K)
def C8 (x0 : i5) (H : Hp) (K : Bool → Hp → Prop) : Prop :=
 a0H H (fun (C0 : Bool) (H_6 : Hp) =>
 ((!C0) = true →
 K false H_6) ∧
 ((!C0) = false →
 a0e x0 H_6 (fun (a4y : Sl) (b1F : Int) (d7P : Hp) =>
 a0O x0 d7P (fun (c0c : Int) (a3b : Int) (b6m : Hp) =>
 (¬ (b1F = 0) →
 K (decide (b1F = a3b)) b6m) ∧
 (b1F = 0 →
 TL (((IntKind.wrap .i64 (15 * c0c)), 0) : Int × Int) b6m fun (s : Int × Int) H n4 => A5 a4y a3b x0 s.1 s.2 H n4 K)))))
theorem a1v (x0 : i5) {w0 w : World} {ps0 : Nat → Prop} {H0 H : Hp} {K : Bool → Hp → Prop} {R : Value → World → Prop} {E : Pan} (I : Inv w0 ps0 H0 H [] w) (hR : ∀ (r0 : Bool) (H' : Hp) (w' : World) (_ : Inv w0 ps0 H0 H' [] w') (_ : K r0 H'), R (Value.bool r0) w') (h : C8 x0 H K) : F8 (Value.agg (f9 x0).toArray) w R E := by
 unfold C8 at h
 unfold F8
 refine K1 I (cs := (f9 x0)) rfl fun g_2 w_3 I_4 k_5 => ?_
 refine d7 (cap := []) (fun args w => Tryd.call21 args w) ?_
 refine h9 (Fi := []) (Fr := [bx g_2 25 (f9 x0)]) I_4 (h) (fun a8m H_6 a8n w_7 I_8 a8o k_9 a0Z => ?_) (fun _ _ _ _ _ q => q.elim)
 obtain ⟨C0, rfl, rfl, h⟩ := a0Z
 refine a7 (E2 _) ?_
 refine p1 (fun a5i => ?_) (fun a5i => ?_)
 ·replace h := h.1 a5i
  exact hR false H_6 _ I_8.drop h
 ·replace h := h.2 a5i
  refine b7 (ldA Tryd.isAgg25 Tryd.sizeOf25 rfl (I_8.at1 (o := 0) (vs := (f9 x0)) (nb rfl) rfl)) ?_
  refine d7 (cap := []) (fun args w => Tryd.call31 args w) ?_
  refine h9 (Fi := []) (Fr := [bx g_2 25 (f9 x0)]) I_8 (h) (fun e8n d7P e8o r7 a3p e8p c3A e4h => ?_) (fun _ _ _ _ _ q => q.elim)
  obtain ⟨a4y, b1F, rfl, rfl, h⟩ := e4h
  refine a7 (u0 _ _ _ rfl) ?_
  refine a7 (u0 _ _ _ rfl) ?_
  refine b7 (ldA Tryd.isAgg25 Tryd.sizeOf25 rfl (a3p.at1 (o := 0) (vs := (f9 x0)) (nb rfl) rfl)) ?_
  refine d7 (cap := []) (fun args w => Tryd.call25 args w) ?_
  refine h9 (Fi := []) (Fr := [bx g_2 25 (f9 x0)]) a3p (h) (fun e8q b6m e8r a7V b9V d3S e3Y e4i => ?_) (fun _ _ _ _ _ q => q.elim)
  obtain ⟨c0c, a3b, rfl, rfl, h⟩ := e4i
  refine a7 (u0 _ _ _ rfl) ?_
  refine a7 (u0 _ _ _ rfl) ?_
  refine a7 (a0D _ _ _ _ _ _) ?_
  refine a8O (fun a5j => ?_) (fun a5j => ?_)
  ·replace h := h.1 a5j
   refine a7 (f5 _ _ _ _ _ _) ?_
   exact hR (decide (b1F = a3b)) b6m _ b9V.drop h
  ·replace h := h.2 a5j
   refine a7 (b3y _ _ _ _ _ _) ?_
   have hj1 : ∀ (b2E : Int) (H : Hp) (w : World) (_ : Inv w0 ps0 H0 H [bx g_2 25 (f9 x0)] w) (_ : A4 a4y a3b b2E x0 H K), b9h (Value.pointer (some ⟨g_2, 0, none⟩)) (vs a4y) (vi a3b) (vi b2E) w R E := by
    intro b2E H w I h
    unfold b9h
    intro _
    unfold A4 at h
    refine b7 (ldA Tryd.isAgg25 Tryd.sizeOf25 rfl (I.at1 (o := 0) (vs := (f9 x0)) (nb rfl) rfl)) ?_
    refine d7 (cap := []) (fun args w => Tryd.call37 args w) ?_
    refine h9 (Fi := []) (Fr := [bx g_2 25 (f9 x0)]) I (h) (fun e8s c4J e8t c2n c4I b8j e3Z e4j => ?_) (fun _ _ _ _ _ q => q.elim)
    obtain ⟨c0b, rfl, rfl, h⟩ := e4j
    have hj2 : ∀ (b2D : Int) (H : Hp) (w : World) (_ : Inv w0 ps0 H0 H [bx g_2 25 (f9 x0)] w) (_ : z8 a4y a3b b2D x0 H K), b9g (vs a4y) (vi a3b) (vi b2D) w R E := by
     intro b2D H w I h
     unfold b9g
     intro _
     unfold z8 at h
     refine a7 (f5 _ _ _ _ _ _) ?_
     try simp only [P4]
     refine a7 (Pu.g fun hb => by have b3 := hb; first | exact (a3L _ _ _) | (simp only [b6 b3]; exact (a3L _ _ _)) | (simp only [d4 b3, b6 b3, b6 hb, m0 b3, l9]; exact (a3L _ _ _))) ?_
     try simp only [P4, b0z, b3A, b3C, b0A, b3F, b3B, b3D, b3E, b3G]
     refine a7 (Pu.g fun hb => by have b3 := hb; first | exact (f5 _ _ _ _ _ _) | (simp only [b6 b3]; exact (f5 _ _ _ _ _ _)) | (simp only [d4 b3, b6 b3, b6 hb, m0 b3, l9]; exact (f5 _ _ _ _ _ _))) ?_
     refine a7 (J8 _ _) ?_
     exact hR ((decide (a3b = 0)) && (decide ((a4y.n : Int) = b2D))) H _ I.drop h
    refine o8 fun j2 hx2 => ?_
    obtain ⟨c4K, b6n, e4k, e4l⟩ := h
    refine y8 (J := fun n l w => ∃ (s : Int × Int) (H : Hp) , n = b6n s ∧ l = (match s with | (a4g, a0C) => [(vi a4g), (vi a0C)]) ∧ (match s with | (a4g, a0C) => Inv w0 ps0 H0 H [bx g_2 25 (f9 x0)] w) ∧ c4K s H) ⟨_, (b2E, 0), c4J, rfl, rfl, c4I, e4k⟩ ?_
    rintro e8u τ_62 w next3 ⟨⟨a4g, a0C⟩, H, rfl, b8H, I, e4m⟩ hn3
    dsimp only at b8H I
    simp only [List.map_cons, List.map_nil, List.cons.injEq, and_true] at b8H
    obtain ⟨e7, e10⟩ := b8H
    simp only [e7, e10]
    obtain ⟨n3, hm3, h⟩ : ∃ n3 : (Int × Int) → Hp → Prop, (∀ s' H', n3 s' H' → c4K s' H' ∧ b6n s' < b6n (a4g, a0C)) ∧ A0 a4y a3b c0b x0 a4g a0C H n3 K := ⟨_, fun _ _ h => h, e4l (a4g, a0C) H (fun s' H' => c4K s' H' ∧ b6n s' < b6n (a4g, a0C)) e4m (fun _ _ a b => ⟨a, b⟩)⟩
    unfold c5g
    unfold A0 at h
    refine a7 (c0q _ _ _) ?_
    refine a7 (C3 _ _ _ _ _ _) ?_
    refine d9 (fun c4L => ?_) (fun c4L => ?_)
    ·replace h := h.1 c4L
     obtain ⟨a7l, b5o, b6k, b5t, h⟩ := h
     obtain ⟨e8v, e8w, a3y, b5t⟩ := b5t
     refine a7 (c2h a3y _ _ _ _ a7l b5o) ?_
     refine a7 b7q ?_
     refine b7 (ld1 (v := (Value.string b6k.g8)) Tryd.isAgg9 ((I.atH b5t).sub (k := 0) (n := 1) (nb rfl))) ?_
     refine a7 (b3M _) ?_
     refine a7 (v7 _ _ _ _ _ _) ?_
     refine a7 (v7 _ _ _ _ _ _) ?_
     exact hn3 _ _ _ (hm3 _ _ h).2 ⟨((IntKind.wrap .i64 (a4g + (b6k.g8.size : Int))), (IntKind.wrap .i64 (a0C + 1))), H, rfl, rfl, I, (hm3 _ _ h).1⟩
    ·replace h := h.2 c4L
     exact hx2 _ _ (hj2 a4g H _ I h)
   refine o8 fun j1 hx1 => ?_
   obtain ⟨c4M, b6o, e4n, e4o⟩ := h
   refine y8 (J := fun n l w => ∃ (s : Int × Int) (H : Hp) , n = b6o s ∧ l = (match s with | (a4h, a2m) => [(vi a4h), (vi a2m)]) ∧ (match s with | (a4h, a2m) => Inv w0 ps0 H0 H [bx g_2 25 (f9 x0)] w) ∧ c4M s H) ⟨_, ((IntKind.wrap .i64 (15 * c0c)), 0), b6m, rfl, rfl, b9V, e4n⟩ ?_
   rintro e8x τ_71 w next4 ⟨⟨a4h, a2m⟩, H, rfl, c4N, I, e4p⟩ hn4
   dsimp only at c4N I
   simp only [List.map_cons, List.map_nil, List.cons.injEq, and_true] at c4N
   obtain ⟨e7, e8⟩ := c4N
   simp only [e7, e8]
   obtain ⟨n4, hm4, h⟩ : ∃ n4 : (Int × Int) → Hp → Prop, (∀ s' H', n4 s' H' → c4M s' H' ∧ b6o s' < b6o (a4h, a2m)) ∧ A5 a4y a3b x0 a4h a2m H n4 K := ⟨_, fun _ _ h => h, e4o (a4h, a2m) H (fun s' H' => c4M s' H' ∧ b6o s' < b6o (a4h, a2m)) e4p (fun _ _ a b => ⟨a, b⟩)⟩
   unfold c5h
   unfold A5 at h
   refine a7 a4j ?_
   refine b7 (ld1 Tryd.isAgg22 (I.at1 (o := 0) (vs := [(vs x0.R6)]) (nb rfl) rfl)) ?_
   refine a7 (a7O _ _ _) ?_
   refine a7 (C3 _ _ _ _ _ _) ?_
   refine d9 (fun b0g => ?_) (fun b0g => ?_)
   ·replace h := h.1 b0g
    refine a7 a4j ?_
    refine b7 (ld1 Tryd.isAgg22 (I.at1 (o := 0) (vs := [(vs x0.R6)]) (nb rfl) rfl)) ?_
    obtain ⟨a5f, b4Y, b6l, b5a, h⟩ := h
    obtain ⟨e8y, e8z, a5c, b5a⟩ := b5a
    refine a7 (a9K a5c _ _ _ _ a5f b4Y) ?_
    refine a7 a6H ?_
    refine b7 (ld1 (v := (Value.string b6l.g8)) Tryd.isAgg9 ((I.atH b5a).sub (k := 0) (n := 1) (nb rfl))) ?_
    refine a7 (b3M _) ?_
    refine a7 (v7 _ _ _ _ _ _) ?_
    refine a7 (v7 _ _ _ _ _ _) ?_
    exact hn4 _ _ _ (hm4 _ _ h).2 ⟨((IntKind.wrap .i64 (a4h + (b6l.g8.size : Int))), (IntKind.wrap .i64 (a2m + 1))), H, rfl, rfl, I, (hm4 _ _ h).1⟩
   ·replace h := h.2 b0g
    exact hx1 _ _ (hj1 a4h H _ I h)
theorem a1F (x0 : i5) {H : Hp} {K : Bool → Hp → Prop} (h : C8 x0 H K) : J6 x0 H K := by
 intro w I
 refine d9b ?_
 refine a1v x0 I (fun r0 H' w' I' hk => ⟨H', _, I', r0, rfl, rfl, hk⟩) h
end Go.Proofs.YthldnpmfelniiaaDoor
