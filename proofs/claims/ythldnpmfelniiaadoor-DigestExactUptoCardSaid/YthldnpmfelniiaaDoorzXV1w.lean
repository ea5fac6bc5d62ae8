/- Typed formulas of the program's functions that few laws need; printed by lift.py off the code. -/
import Derived.Test.YthldnpmfelniiaaDoorzXV1
import Derived.Test.YthldnpmfelniiaaDoorzXG1w
namespace Go.Proofs.YthldnpmfelniiaaDoor
open Go.RowKit
set_option maxRecDepth 100000
set_option maxHeartbeats 2000000
def a2v (W0 : Int) (H : Hp) (K : Int → Hp → Prop) : Prop :=
 K W0 H
def a2w (a5i : Sl) (a4j : Int) (J2 : Int) (N2 : Int) (H : Hp) (n2 : (Int × Int) → Hp → Prop) (K : Int → Hp → Prop) : Prop :=
 (N2 < a4j →
 (0 : Int) ≤ N2 ∧ (N2 : Int) < a5i.n ∧ ∃ x_1 : Int, EltH H a5i N2 1 [(Value.int .u8 x_1)] ∧
 n2 ((IntKind.wrap .u64 ((bxorI .u64 J2 (IntKind.wrap .u64 x_1)) * 1099511628211)), (IntKind.wrap .i64 (N2 + 1))) H) ∧
 (¬ (N2 < a4j) →
 a2v J2 H K)
def a4f (x0 : Sl) (H : Hp) (K : Int → Hp → Prop) : Prop :=
 TL ((14695981039346656037, 0) : Int × Int) H fun (s : Int × Int) H n2 => a2w x0 (x0.n : Int) s.1 s.2 H n2 K
theorem b4X (x0 : Sl) {w0 w : World} {ps0 : Nat → Prop} {H0 H : Hp} {K : Int → Hp → Prop} {R : Value → World → Prop} {E : Pan} (I : Inv w0 ps0 H0 H [] w) (hR : ∀ (r0 : Int) (H' : Hp) (w' : World) (_ : Inv w0 ps0 H0 H' [] w') (_ : K r0 H'), R (Value.int .u64 r0) w') (h : a4f x0 H K) : F22 (vs x0) w R E := by
 unfold a4f at h
 unfold F22
 have hj1 : ∀ (W0 : Int) (H : Hp) (w : World) (_ : Inv w0 ps0 H0 H [] w) (_ : a2v W0 H K), c6J (Value.int .u64 W0) w R E := by
  intro W0 H w I h
  unfold c6J
  intro _
  unfold a2v at h
  exact hR W0 H _ I h
 refine m6 fun j1 hx1 => ?_
 refine a7 (b5g _ _ _) ?_
 obtain ⟨J_9, b1L, d8Z, d9a⟩ := h
 refine p9 (J := fun n l w => ∃ (s : Int × Int) (H : Hp) , n = b1L s ∧ l = (match s with | (J2, N2) => [(Value.int .u64 J2), (vi N2)]) ∧ (match s with | (J2, N2) => Inv w0 ps0 H0 H [] w) ∧ J_9 s H) ⟨_, (14695981039346656037, 0), H, rfl, rfl, I, d8Z⟩ ?_
 rintro g6H τ_14 w next2 ⟨⟨J2, N2⟩, H, rfl, a8a, I, d9b⟩ hn2
 dsimp only at a8a I
 simp only [List.map_cons, List.map_nil, List.cons.injEq, and_true] at a8a
 obtain ⟨e3, e8⟩ := a8a
 simp only [e3, e8]
 obtain ⟨n2, hm2, h⟩ : ∃ n2 : (Int × Int) → Hp → Prop, (∀ s' H', n2 s' H' → J_9 s' H' ∧ b1L s' < b1L (J2, N2)) ∧ a2w x0 (x0.n : Int) J2 N2 H n2 K := ⟨_, fun _ _ h => h, d9a (J2, N2) H (fun s' H' => J_9 s' H' ∧ b1L s' < b1L (J2, N2)) d9b (fun _ _ a b => ⟨a, b⟩)⟩
 unfold d4V
 unfold a2w at h
 refine a7 (o2 _ _ _ _ _ _) ?_
 refine g6 (fun c_8 => ?_) (fun c_8 => ?_)
 ·replace h := h.1 c_8
  obtain ⟨h_4, h_5, x_1, h_7, h⟩ := h
  obtain ⟨g_2, o_3, h_6, h_7⟩ := h_7
  refine a7 (b7D h_6 _ _ _ _ h_4 h_5) ?_
  refine c5 (ld1 (v := (Value.int .u8 x_1)) Tryd.isAgg5 (I.atH h_7)) ?_
  refine a7 (b8U _ _) ?_
  refine a7 (c7Y _ _ _ _ _ _) ?_
  refine a7 (b5d _ _ _ _ _ _) ?_
  refine a7 (m4 _ _ _ _ _ _) ?_
  exact hn2 _ _ _ (hm2 _ _ h).2 ⟨((IntKind.wrap .u64 ((bxorI .u64 J2 (IntKind.wrap .u64 x_1)) * 1099511628211)), (IntKind.wrap .i64 (N2 + 1))), H, rfl, rfl, I, (hm2 _ _ h).1⟩
 ·replace h := h.2 c_8
  exact hx1 _ _ (hj1 J2 H _ I h)
theorem b6A (x0 : Sl) {H : Hp} {K : Int → Hp → Prop} (h : a4f x0 H K) : a2o x0 H K := by
 intro w I
 refine f5O ?_
 refine b4X x0 I (fun r0 H' w' I' hk => ⟨H', _, I', r0, rfl, rfl, hk⟩) h
def a0e (b2q : J0) (_cr_1l2 : J0) (a3b : Int) (a3v : (List Int)) (H : Hp) (n2 : (Int × (List Int)) → Hp → Prop) (K : Sl → (List Int) → Hp → Prop) : Prop :=
 (a3b < 4 →
 (0 : Int) ≤ a3b ∧ (a3b : Int) < 4 ∧
 (a3v.length + ([IntKind.wrap .u8 (([b2q.f0, b2q.f1, b2q.f2, b2q.f3] : List Int).getD (a3b : Int).toNat 0)] : List Int).length) * 2 ≤ 140737488355328 ∧
 n2 ((IntKind.wrap .i64 (a3b + 1)), (a3v ++ [IntKind.wrap .u8 (([b2q.f0, b2q.f1, b2q.f2, b2q.f3] : List Int).getD (a3b : Int).toNat 0)])) H) ∧
 (¬ (a3b < 4) →
 K (Sl.mk none 0 0) a3v H)
def a0f (W0 : ByteArray) (a6y : (List Int)) (cr_1j1 : J0) (H : Hp) (K : Sl → (List Int) → Hp → Prop) : Prop :=
 ((a6y : List Int).length + W0.size) * 2 ≤ 140737488355328 ∧
 ((a6y ++ (sbytes W0)).length + ([0] : List Int).length) * 2 ≤ 140737488355328 ∧
 TL ((0, ((a6y ++ (sbytes W0)) ++ [0])) : Int × (List Int)) H fun (s : Int × (List Int)) H n2 => a0e cr_1j1 cr_1j1 s.1 s.2 H n2 K
def a0g (c5l : Int) (g6I : ByteArray) (cr_1l3 : J0) (a3G : Int) (a3w : (List Int)) (H : Hp) (n3 : (Int × (List Int)) → Hp → Prop) (K : Sl → (List Int) → Hp → Prop) : Prop :=
 (a3G < 8 →
 (0 : Int) ≤ IntKind.wrap .i64 (56 - (IntKind.wrap .i64 (8 * a3G))) ∧
 (a3w.length + ([IntKind.wrap .u8 (shrI .u64 (IntKind.wrap .u64 c5l) (IntKind.wrap .i64 (56 - (IntKind.wrap .i64 (8 * a3G)))))] : List Int).length) * 2 ≤ 140737488355328 ∧
 n3 ((IntKind.wrap .i64 (a3G + 1)), (a3w ++ [IntKind.wrap .u8 (shrI .u64 (IntKind.wrap .u64 c5l) (IntKind.wrap .i64 (56 - (IntKind.wrap .i64 (8 * a3G)))))])) H) ∧
 (¬ (a3G < 8) →
 a0f g6I a3w cr_1l3 H K)
def a1C (x0 : Int) (x1 : Int) (x2 : Int) (x3 : ByteArray) (x4 : J0) (_x5 : Sl) (x5_ : (List Int)) (H : Hp) (K : Sl → (List Int) → Hp → Prop) : Prop :=
 (x5_.length + ([x0, IntKind.wrap .u8 x1] : List Int).length) * 2 ≤ 140737488355328 ∧
 TL ((0, (x5_ ++ [x0, IntKind.wrap .u8 x1])) : Int × (List Int)) H fun (s : Int × (List Int)) H n3 => a0g x2 x3 x4 s.1 s.2 H n3 K
theorem b1M (x0 : Int) (x1 : Int) (x2 : Int) (x3 : ByteArray) (x4 : J0) (x5 : Sl) (x5_ : (List Int)) (g5 : Nat) (sx5_ : Sl) (Fx5_ : Frag) (hx5_ : RowL 5 1 g8 sx5_ x5_ Fx5_) {w0 w : World} {ps0 : Nat → Prop} {H0 H : Hp} {K : Sl → (List Int) → Hp → Prop} {R : Value → World → Prop} {E : Pan} (I : Inv w0 ps0 H0 H [bx g5 40 [(vs sx5_)], Fx5_] w) (hR : ∀ (y0 : Sl) (y0_ : (List Int)) (sy0_ : Sl) (Fy0_ : Frag) (H' : Hp) (w' : World) (_ : RowL 5 1 g8 sy0_ y0_ Fy0_) (_ : Inv w0 ps0 H0 H' [bx g5 40 [(vs sy0_)], Fy0_] w') (_ : K y0 y0_ H'), R (Value.tuple #[]) w') (h : a1C x0 x1 x2 x3 x4 x5 x5_ H K) : F68 (Value.int .u8 x0) (vi x1) (vi x2) (Value.string x3) (Value.agg #[(vi x4.f0), (vi x4.f1), (vi x4.f2), (vi x4.f3)]) (Value.pointer (some ⟨g5, 0, none⟩)) w R E := by
 unfold a1C at h
 unfold F68
 refine J4 I (cs := [(vi x4.f0), (vi x4.f1), (vi x4.f2), (vi x4.f3)]) rfl fun g_2 w_3 I_4 k_5 => ?_
 refine c5 (ld1 Tryd.isAgg40 ((I_4.bring 1).at1 (o := 0) (vs := [(vs sx5_)]) (nb rfl) rfl)) ?_
 refine a7 (b2e _ _) ?_
 refine a5y (e := 5) (c := g8) (xs := [x0, IntKind.wrap .u8 x1]) I_4 (c8d _ _) rfl rfl a0W a0X (nb rfl) fun s_7 F_8 w_9 c6o a3q b3R => ?_
 obtain ⟨b8L, h⟩ := h
 refine a7x (s := sx5_) (xs := x5_) (a3q.bring 3) hx5_ (c6o.srcO ((a3q.bring 3).bring 1)) b8L fun c7j c9J a4D d9c a8i c1p => ?_
 refine p7 ((a8i.bring 1).drop.bring 2) Tryd.sizeOf40 (vs := [(vs c7j)]) (cs' := [(vs c7j)]) rfl rfl (nb rfl) rfl rfl fun o4 a5g b6h => ?_
 have hj1 : ∀ (a6y : (List Int)) (b6B : Sl) (Fcp5j1 : Frag) (H : Hp) (w : World) (_ : RowL 5 1 g8 b6B a6y Fcp5j1) (_ : Inv w0 ps0 H0 H [bx g5 40 [(vs b6B)], bx g_2 114 [(vi x4.f0), (vi x4.f1), (vi x4.f2), (vi x4.f3)], Fcp5j1] w) (_ : a0f x3 a6y x4 H K), c6S (Value.string x3) (Value.pointer (some ⟨g5, 0, none⟩)) (Value.pointer (some ⟨g_2, 0, none⟩)) w R E := by
  intro a6y b6B Fcp5j1 H w f8P I h
  unfold c6S
  intro _
  unfold a0f at h
  refine c5 (ld1 Tryd.isAgg40 (I.at1 (o := 0) (vs := [(vs b6B)]) (nb rfl) rfl)) ?_
  obtain ⟨c6t, h⟩ := h
  refine d3t (s := b6B) (xs := a6y) (b := x3) (I.bring 2) f8P c6t fun g6J h2C c3r b4b d9d g6K => ?_
  refine a5y (e := 5) (c := g8) (xs := [0]) d9d (a7h _) rfl rfl a0W a0X (nb rfl) fun h2D f1j d5U a9g f8Q h2E => ?_
  obtain ⟨g6L, h⟩ := h
  refine a7x (s := g6J) (xs := a6y ++ (sbytes x3)) (f8Q.bring 1) b4b (a9g.srcO ((f8Q.bring 1).bring 1)) g6L fun c4K g6M c3t c5h c7k g6N => ?_
  refine p7 ((c7k.bring 1).drop.bring 1) Tryd.sizeOf40 (vs := [(vs c4K)]) (cs' := [(vs c4K)]) rfl rfl (nb rfl) rfl rfl fun J7 b6k d7b => ?_
  refine c5 (ldA Tryd.isAgg114 Tryd.sizeOf114 rfl ((b6k.bring 2).at1 (o := 0) (vs := [(vi x4.f0), (vi x4.f1), (vi x4.f2), (vi x4.f3)]) (nb rfl) rfl)) ?_
  obtain ⟨b4H, a8v, d1Q, d1R⟩ := h
  refine p9 (J := fun n l w => ∃ (s : Int × (List Int)) (H : Hp) (b3s : Sl) (Fcp5l2 : Frag) , n = a8v s ∧ l = (match s with | (a3b, a3v) => [(vi a3b)]) ∧ (match s with | (a3b, a3v) => RowL 5 1 g8 b3s a3v Fcp5l2) ∧ (match s with | (a3b, a3v) => Inv w0 ps0 H0 H [bx g5 40 [(vs b3s)], bx g_2 114 [(vi x4.f0), (vi x4.f1), (vi x4.f2), (vi x4.f3)], Fcp5l2] w) ∧ b4H s H) ⟨_, (0, ((a6y ++ (sbytes x3)) ++ [0])), H, c4K, g6M, rfl, rfl, c5h, (((b6k.bring 1).bring 2).bring 2), d1Q⟩ ?_
  rintro g2A τ_120 w next2 ⟨⟨a3b, a3v⟩, H, b3s, Fcp5l2, rfl, b2p, c7l, I, d1S⟩ hn2
  dsimp only at b2p I c7l
  simp only [List.map_cons, List.map_nil, List.cons.injEq, and_true] at b2p
  have e40 := b2p
  simp only [e40]
  obtain ⟨n2, hm2, h⟩ : ∃ n2 : (Int × (List Int)) → Hp → Prop, (∀ s' H', n2 s' H' → b4H s' H' ∧ a8v s' < a8v (a3b, a3v)) ∧ a0e x4 x4 a3b a3v H n2 K := ⟨_, fun _ _ h => h, d1R (a3b, a3v) H (fun s' H' => b4H s' H' ∧ a8v s' < a8v (a3b, a3v)) d1S (fun _ _ a b => ⟨a, b⟩)⟩
  unfold d5b
  unfold a0e at h
  refine a7 (o2 _ _ _ _ _ _) ?_
  refine g6 (fun a8t => ?_) (fun a8t => ?_)
  ·replace h := h.1 a8t
   obtain ⟨c5n, b8F, h⟩ := h
   refine a7 (c8W _ _ _ _ _ _ c5n b8F) ?_
   refine c5 (ld1 Tryd.isAgg40 (I.at1 (o := 0) (vs := [(vs b3s)]) (nb rfl) rfl)) ?_
   refine a7 (b2e _ _) ?_
   refine a5y (e := 5) (c := g8) (xs := [IntKind.wrap .u8 (([x4.f0, x4.f1, x4.f2, x4.f3] : List Int).getD (a3b : Int).toNat 0)]) I (a7h _) rfl rfl a0W a0X (nb rfl) fun h2F h2G a0E d1T e0m g9L => ?_
   obtain ⟨g3c, h⟩ := h
   refine a7x (s := b3s) (xs := a3v) (e0m.bring 3) c7l (d1T.srcO ((e0m.bring 3).bring 1)) g3c fun c0u g3d a2s g3e g3f g9M => ?_
   refine p7 ((g3f.bring 1).drop.bring 1) Tryd.sizeOf40 (vs := [(vs c0u)]) (cs' := [(vs c0u)]) rfl rfl (nb rfl) rfl rfl fun g3g b7k g3h => ?_
   refine a7 (m4 _ _ _ _ _ _) ?_
   exact hn2 _ _ _ (hm2 _ _ h).2 ⟨((IntKind.wrap .i64 (a3b + 1)), (a3v ++ [IntKind.wrap .u8 (([x4.f0, x4.f1, x4.f2, x4.f3] : List Int).getD (a3b : Int).toNat 0)])), H, c0u, g3d, rfl, rfl, g3e, (((b7k.bring 1).bring 2).bring 2), (hm2 _ _ h).1⟩
  ·replace h := h.2 a8t
   exact hR (Sl.mk none 0 0) a3v b3s Fcp5l2 H _ c7l (((I.bring 1).drop.bring 1).bring 1) h
 refine m6 fun j1 hx1 => ?_
 obtain ⟨d2g, c0v, g3i, g3j⟩ := h
 refine p9 (J := fun n l w => ∃ (s : Int × (List Int)) (H : Hp) (b3t : Sl) (Fcp5l3 : Frag) , n = c0v s ∧ l = (match s with | (a3G, a3w) => [(vi a3G)]) ∧ (match s with | (a3G, a3w) => RowL 5 1 g8 b3t a3w Fcp5l3) ∧ (match s with | (a3G, a3w) => Inv w0 ps0 H0 H [bx g5 40 [(vs b3t)], bx g_2 114 [(vi x4.f0), (vi x4.f1), (vi x4.f2), (vi x4.f3)], Fcp5l3] w) ∧ d2g s H) ⟨_, (0, (x5_ ++ [x0, IntKind.wrap .u8 x1])), H, c7j, c9J, rfl, rfl, d9c, (((a5g.bring 1).bring 2).bring 2), g3i⟩ ?_
 rintro g9N τ_158 w next3 ⟨⟨a3G, a3w⟩, H, b3t, Fcp5l3, rfl, d2h, c7m, I, g3k⟩ hn3
 dsimp only at d2h I c7m
 simp only [List.map_cons, List.map_nil, List.cons.injEq, and_true] at d2h
 have e20 := d2h
 simp only [e20]
 obtain ⟨n3, hm3, h⟩ : ∃ n3 : (Int × (List Int)) → Hp → Prop, (∀ s' H', n3 s' H' → d2g s' H' ∧ c0v s' < c0v (a3G, a3w)) ∧ a0g x2 x3 x4 a3G a3w H n3 K := ⟨_, fun _ _ h => h, g3j (a3G, a3w) H (fun s' H' => d2g s' H' ∧ c0v s' < c0v (a3G, a3w)) g3k (fun _ _ a b => ⟨a, b⟩)⟩
 unfold d5c
 unfold a0g at h
 refine a7 (o2 _ _ _ _ _ _) ?_
 refine g6 (fun d2i => ?_) (fun d2i => ?_)
 ·replace h := h.1 d2i
  refine b5e I fun a6B d2j => ?_
  refine B5 (b8Y _ _) ?_
  refine B5 (b5d _ _ _ _ _ _) ?_
  refine B5 (a9w _ _ _ _ _ _) ?_
  obtain ⟨g3l, h⟩ := h
  refine B5 (c8b _ _ _ _ _ _ _ g3l) ?_
  refine B5 (b8Z _ _) ?_
  refine a2J (ld1 Tryd.isAgg40 (d2j.at1 (o := 0) (vs := [(vs b3t)]) (nb rfl) rfl)) ?_
  refine a5y (e := 5) (c := g8) (xs := [IntKind.wrap .u8 (shrI .u64 (IntKind.wrap .u64 x2) (IntKind.wrap .i64 (56 - (IntKind.wrap .i64 (8 * a3G)))))]) d2j (a7h _) rfl rfl a0W a0X (nb rfl) fun g9O g2i b2g g3m e0n g3n => ?_
  refine ⟨(g3n _ d2j.lt1), ?_⟩
  obtain ⟨g3o, h⟩ := h
  refine a7x (s := b3t) (xs := a3w) (e0n.bring 3) c7m (g3m.srcO ((e0n.bring 3).bring 1)) g3o fun d2k g3p b0f a4x g3q g9P => ?_
  refine p7 ((g3q.bring 1).drop.bring 1) Tryd.sizeOf40 (vs := [(vs d2k)]) (cs' := [(vs d2k)]) rfl rfl (nb rfl) rfl rfl fun g9Q g3r g9R => ?_
  refine a7 (m4 _ _ _ _ _ _) ?_
  exact hn3 _ _ _ (hm3 _ _ h).2 ⟨((IntKind.wrap .i64 (a3G + 1)), (a3w ++ [IntKind.wrap .u8 (shrI .u64 (IntKind.wrap .u64 x2) (IntKind.wrap .i64 (56 - (IntKind.wrap .i64 (8 * a3G)))))])), H, d2k, g3p, rfl, rfl, a4x, (((g3r.bring 1).bring 2).bring 2), (hm3 _ _ h).1⟩
 ·replace h := h.2 d2i
  exact hx1 _ _ (hj1 a3w b3t Fcp5l3 H _ c7m (((I.bring 2).bring 2).bring 2) h)
theorem b1Z (x0 : Int) (x1 : Int) (x2 : Int) (x3 : ByteArray) (x4 : J0) (x5 : Sl) (x5_ : (List Int)) {H : Hp} {K : Sl → (List Int) → Hp → Prop} (h : a1C x0 x1 x2 x3 x4 x5 x5_ H K) : N6 x0 x1 x2 x3 x4 x5 x5_ H K := by
 intro g5 sx5_ Fx5_ hx5_ w I
 refine f6O ?_
 refine b1M x0 x1 x2 x3 x4 x5 x5_ g5 sx5_ Fx5_ hx5_ I (fun y0 y0_ sy0_ Fy0_ H' w' khy0_ I' hk => ⟨H', _, I', y0, y0_, sy0_, Fy0_, rfl, rfl, khy0_, hk⟩) h
def a0h (e0o : Sl) (e0p : Int) (_cr_1l1 : k6) (a4y : Int) (C6 : (List Int)) (H : Hp) (n1 : (Int × (List Int)) → Hp → Prop) (K : Sl → (List Int) → Hp → Prop) : Prop :=
 (a4y < e0p →
 (0 : Int) ≤ a4y ∧ (a4y : Int) < e0o.n ∧ ∃ a8h : k6, EltH H e0o a4y 4 (d9 a8h) ∧
 Y1 a8h (Sl.mk none 0 0) C6 H (fun (_y0_71 : Sl) (y0__71 : (List Int)) (b1t : Hp) =>
 n1 ((IntKind.wrap .i64 (a4y + 1)), y0__71) b1t)) ∧
 (¬ (a4y < e0p) →
 K (Sl.mk none 0 0) C6 H)
def a1D (x0 : k6) (_x1000 : Sl) (x1000_ : (List Int)) (H : Hp) (K : Sl → (List Int) → Hp → Prop) : Prop :=
 N6 69 x0.c6 x0.J6 x0.k9 (J0.mk 0 (x0.o8.n : Int) 0 0) (Sl.mk none 0 0) x1000_ H (fun (_y0_14 : Sl) (y0__14 : (List Int)) (H_6 : Hp) =>
 TL ((0, y0__14) : Int × (List Int)) H_6 fun (s : Int × (List Int)) H n1 => a0h x0.o8 (x0.o8.n : Int) x0 s.1 s.2 H n1 K)
theorem b1N (x0 : k6) (x1000 : Sl) (x1000_ : (List Int)) (g1 g2 g1000 : Nat) (sx1000_ : Sl) (Fx1000_ : Frag) (hx1000_ : RowL 5 1 g8 sx1000_ x1000_ Fx1000_) {w0 w : World} {ps0 : Nat → Prop} {H0 H : Hp} {K : Sl → (List Int) → Hp → Prop} {R : Value → World → Prop} {E : Pan} (I : Inv w0 ps0 H0 H [bx g1 115 [(Value.func (.func 68) #[] #[(Value.pointer (some ⟨g1000, 0, none⟩))])], bx g2 103 [(Value.func (.func 69) #[] #[(Value.pointer (some ⟨g1, 0, none⟩)), (Value.pointer (some ⟨g2, 0, none⟩))])], bx g1000 40 [(vs sx1000_)], Fx1000_] w) (hR : ∀ (y0 : Sl) (y0_ : (List Int)) (sy0_ : Sl) (Fy0_ : Frag) (H' : Hp) (w' : World) (_ : RowL 5 1 g8 sy0_ y0_ Fy0_) (_ : Inv w0 ps0 H0 H' [bx g1 115 [(Value.func (.func 68) #[] #[(Value.pointer (some ⟨g1000, 0, none⟩))])], bx g2 103 [(Value.func (.func 69) #[] #[(Value.pointer (some ⟨g1, 0, none⟩)), (Value.pointer (some ⟨g2, 0, none⟩))])], bx g1000 40 [(vs sy0_)], Fy0_] w') (_ : K y0 y0_ H'), R (Value.tuple #[]) w') (h : a1D x0 x1000 x1000_ H K) : F69 (Value.agg (d9 x0).toArray) (Value.pointer (some ⟨g1, 0, none⟩)) (Value.pointer (some ⟨g2, 0, none⟩)) w R E := by
 unfold a1D at h
 unfold F69
 refine J4 I (cs := (d9 x0)) rfl fun g_2 w_3 I_4 k_5 => ?_
 refine c5 (ld1 Tryd.isAgg115 ((I_4.bring 1).at1 (o := 0) (vs := [(Value.func (.func 68) #[] #[(Value.pointer (some ⟨g1000, 0, none⟩))])]) (nb rfl) rfl)) ?_
 refine a7 K5 ?_
 refine c5 (ld1 Tryd.isAgg3 (I_4.at1 (o := 0) (vs := [(vi x0.c6)]) (nb rfl) rfl)) ?_
 refine a7 V7 ?_
 refine c5 (ld1 Tryd.isAgg2 (I_4.at1 (o := 1) (vs := [(vi x0.J6)]) (nb rfl) rfl)) ?_
 refine a7 a3T ?_
 refine c5 (ld1 Tryd.isAgg9 (I_4.at1 (o := 2) (vs := [(Value.string x0.k9)]) (nb rfl) rfl)) ?_
 refine a7 R6 ?_
 refine c5 (ld1 Tryd.isAgg28 (I_4.at1 (o := 3) (vs := [(vs x0.o8)]) (nb rfl) rfl)) ?_
 refine a7 (v8 _ _ _) ?_
 refine a7 (b2T _ _) ?_
 refine f6 (cap := [(Value.pointer (some ⟨g1000, 0, none⟩))]) (fun args w => Tryd.call68 args w) ?_
 refine i6 (Fi := [bx g1000 40 [(vs sx1000_)], Fx1000_]) (Fr := [bx g_2 30 (d9 x0), bx g1 115 [(Value.func (.func 68) #[] #[(Value.pointer (some ⟨g1000, 0, none⟩))])], bx g2 103 [(Value.func (.func 69) #[] #[(Value.pointer (some ⟨g1, 0, none⟩)), (Value.pointer (some ⟨g2, 0, none⟩))])]]) ((I_4.bring 4).bring 4) (h g1000 sx1000_ Fx1000_ hx1000_) (fun a5D H_6 a5E w_7 I_8 a4J k_9 R3 => ?_) (fun _ _ _ _ _ q => q.elim)
 obtain ⟨G6, y0__14, sy0__14, Fy0__14, rfl, rfl, hy0__14, h⟩ := R3
 refine a7 R6 ?_
 refine c5 (ld1 Tryd.isAgg28 ((I_8.bring 2).at1 (o := 3) (vs := [(vs x0.o8)]) (nb rfl) rfl)) ?_
 refine a7 (v8 _ _ _) ?_
 obtain ⟨b1u, a5R, c5e, c5f⟩ := h
 refine p9 (J := fun n l w => ∃ (s : Int × (List Int)) (H : Hp) (a0C : Sl) (Fcp1000l1 : Frag) , n = a5R s ∧ l = (match s with | (a4y, C6) => [(vi a4y)]) ∧ (match s with | (a4y, C6) => RowL 5 1 g8 a0C C6 Fcp1000l1) ∧ (match s with | (a4y, C6) => Inv w0 ps0 H0 H [bx g1000 40 [(vs a0C)], bx g_2 30 (d9 x0), bx g1 115 [(Value.func (.func 68) #[] #[(Value.pointer (some ⟨g1000, 0, none⟩))])], bx g2 103 [(Value.func (.func 69) #[] #[(Value.pointer (some ⟨g1, 0, none⟩)), (Value.pointer (some ⟨g2, 0, none⟩))])], Fcp1000l1] w) ∧ b1u s H) ⟨_, (0, y0__14), H_6, sy0__14, Fy0__14, rfl, rfl, hy0__14, (((((I_8.bring 1).bring 4).bring 4).bring 4).bring 4), c5e⟩ ?_
 rintro f1A τ_78 w next1 ⟨⟨a4y, C6⟩, H, a0C, Fcp1000l1, rfl, a6m, a5V, I, c5g⟩ hn1
 dsimp only at a6m I a5V
 simp only [List.map_cons, List.map_nil, List.cons.injEq, and_true] at a6m
 have e21 := a6m
 simp only [e21]
 obtain ⟨n1, hm1, h⟩ : ∃ n1 : (Int × (List Int)) → Hp → Prop, (∀ s' H', n1 s' H' → b1u s' H' ∧ a5R s' < a5R (a4y, C6)) ∧ a0h x0.o8 (x0.o8.n : Int) x0 a4y C6 H n1 K := ⟨_, fun _ _ h => h, c5f (a4y, C6) H (fun s' H' => b1u s' H' ∧ a5R s' < a5R (a4y, C6)) c5g (fun _ _ a b => ⟨a, b⟩)⟩
 unfold d5d
 unfold a0h at h
 refine a7 (o2 _ _ _ _ _ _) ?_
 refine g6 (fun a3t => ?_) (fun a3t => ?_)
 ·replace h := h.1 a3t
  obtain ⟨d6V, c4Z, a8h, a9g, h⟩ := h
  obtain ⟨g5A, g5B, b8B, a9g⟩ := a9g
  refine a7 (a1M b8B _ _ _ _ d6V c4Z) ?_
  refine c5 (ldA (vs := (d9 a8h)) Tryd.isAgg30 Tryd.sizeOf30 rfl (I.atH a9g)) ?_
  refine G4 I Tryd.zeroValue30 (cs := [(vi 0), (vi 0), (Value.string ⟨#[]⟩), (Value.slice none 0 0)]) rfl fun g6O b7I d7j g5V => ?_
  refine p7 d7j Tryd.sizeOf30 (vs := (d9 a8h)) (cs' := (d9 a8h)) rfl rfl (nb rfl) rfl rfl fun J1 c7k g6N => ?_
  refine c5 (ld1 Tryd.isAgg103 ((c7k.bring 4).at1 (o := 0) (vs := [(Value.func (.func 69) #[] #[(Value.pointer (some ⟨g1, 0, none⟩)), (Value.pointer (some ⟨g2, 0, none⟩))])]) (nb rfl) rfl)) ?_
  refine c5 (ldA Tryd.isAgg30 Tryd.sizeOf30 rfl (c7k.at1 (o := 0) (vs := (d9 a8h)) (nb rfl) rfl)) ?_
  refine f6 (cap := [(Value.pointer (some ⟨g1, 0, none⟩)), (Value.pointer (some ⟨g2, 0, none⟩))]) (fun args w => Tryd.call69 args w) ?_
  refine i6 (Fi := [bx g1 115 [(Value.func (.func 68) #[] #[(Value.pointer (some ⟨g1000, 0, none⟩))])], bx g2 103 [(Value.func (.func 69) #[] #[(Value.pointer (some ⟨g1, 0, none⟩)), (Value.pointer (some ⟨g2, 0, none⟩))])], bx g1000 40 [(vs a0C)], Fcp1000l1]) (Fr := [bx g6O 30 (d9 a8h), bx g_2 30 (d9 x0)]) ((((c7k.bring 5).bring 2).bring 5).bring 5) (h g1 g2 g1000 a0C Fcp1000l1 a5V) (fun f1B b1t f1C J7 b6k c5d d7b c5j => ?_) (fun _ _ _ _ _ q => q.elim)
  obtain ⟨b2n, y0__71, sy0__71, Fy0__71, rfl, rfl, hy0__71, h⟩ := c5j
  refine a7 (m4 _ _ _ _ _ _) ?_
  exact hn1 _ _ _ (hm1 _ _ h).2 ⟨((IntKind.wrap .i64 (a4y + 1)), y0__71), b1t, sy0__71, Fy0__71, rfl, rfl, hy0__71, ((((((b6k.bring 4).drop.bring 3).bring 2).bring 2).bring 4).bring 4), (hm1 _ _ h).1⟩
 ·replace h := h.2 a3t
  exact hR (Sl.mk none 0 0) C6 a0C Fcp1000l1 H _ a5V (((((I.bring 1).drop.bring 3).bring 1).bring 3).bring 3) h
theorem b2a (x0 : k6) (x1000 : Sl) (x1000_ : (List Int)) {H : Hp} {K : Sl → (List Int) → Hp → Prop} (h : a1D x0 x1000 x1000_ H K) : Y1 x0 x1000 x1000_ H K := by
 intro g1 g2 g1000 sx1000_ Fx1000_ hx1000_ w I
 refine f6Q ?_
 refine b1N x0 x1000 x1000_ g1 g2 g1000 sx1000_ Fx1000_ hx1000_ I (fun y0 y0_ sy0_ Fy0_ H' w' khy0_ I' hk => ⟨H', _, I', y0, y0_, sy0_, Fy0_, rfl, rfl, khy0_, hk⟩) h
def a0i (e0q : Sl) (e0r : Int) (_cr_1l2 : k3) (a4z : Int) (a1o : (List Int)) (H : Hp) (n2 : (Int × (List Int)) → Hp → Prop) (K : Sl → (List Int) → Hp → Prop) : Prop :=
 (a4z < e0r →
 (0 : Int) ≤ a4z ∧ (a4z : Int) < e0q.n ∧ ∃ b6C : k3, EltH H e0q a4z 4 (f5 b6C) ∧
 a1v b6C (Sl.mk none 0 0) a1o H (fun (_y0_95 : Sl) (y0__95 : (List Int)) (d9e : Hp) =>
 n2 ((IntKind.wrap .i64 (a4z + 1)), y0__95) d9e)) ∧
 (¬ (a4z < e0r) →
 K (Sl.mk none 0 0) a1o H)
def a0j (a7o : (List Int)) (cr_1j1 : k3) (H : Hp) (K : Sl → (List Int) → Hp → Prop) : Prop :=
 TL ((0, a7o) : Int × (List Int)) H fun (s : Int × (List Int)) H n2 => a0i cr_1j1.l9 (cr_1j1.l9.n : Int) cr_1j1 s.1 s.2 H n2 K
def a0k (e0s : Sl) (e0t : Int) (cr_1l3 : k3) (a2T : Int) (a1p : (List Int)) (H : Hp) (n3 : (Int × (List Int)) → Hp → Prop) (K : Sl → (List Int) → Hp → Prop) : Prop :=
 (a2T < e0t →
 (0 : Int) ≤ a2T ∧ (a2T : Int) < e0s.n ∧ ∃ b2r : k6, EltH H e0s a2T 4 (d9 b2r) ∧
 Y1 b2r (Sl.mk none 0 0) a1p H (fun (_y0_137 : Sl) (y0__137 : (List Int)) (b4c : Hp) =>
 n3 ((IntKind.wrap .i64 (a2T + 1)), y0__137) b4c)) ∧
 (¬ (a2T < e0t) →
 a0j a1p cr_1l3 H K)
def a1E (x0 : k3) (_x1000 : Sl) (x1000_ : (List Int)) (H : Hp) (K : Sl → (List Int) → Hp → Prop) : Prop :=
 N6 67 x0.c6 x0.fOp ⟨#[]⟩ (J0.mk (x0.l9.n : Int) (x0.d7.n : Int) 0 0) (Sl.mk none 0 0) x1000_ H (fun (_y0_14 : Sl) (y0__14 : (List Int)) (H_6 : Hp) =>
 TL ((0, y0__14) : Int × (List Int)) H_6 fun (s : Int × (List Int)) H n3 => a0k x0.d7 (x0.d7.n : Int) x0 s.1 s.2 H n3 K)
theorem b1O (x0 : k3) (x1000 : Sl) (x1000_ : (List Int)) (g1 g2 g3 g1000 : Nat) (sx1000_ : Sl) (Fx1000_ : Frag) (hx1000_ : RowL 5 1 g8 sx1000_ x1000_ Fx1000_) {w0 w : World} {ps0 : Nat → Prop} {H0 H : Hp} {K : Sl → (List Int) → Hp → Prop} {R : Value → World → Prop} {E : Pan} (I : Inv w0 ps0 H0 H [bx g1 115 [(Value.func (.func 68) #[] #[(Value.pointer (some ⟨g1000, 0, none⟩))])], bx g2 103 [(Value.func (.func 69) #[] #[(Value.pointer (some ⟨g1, 0, none⟩)), (Value.pointer (some ⟨g2, 0, none⟩))])], bx g3 108 [(Value.func (.func 70) #[] #[(Value.pointer (some ⟨g1, 0, none⟩)), (Value.pointer (some ⟨g2, 0, none⟩)), (Value.pointer (some ⟨g3, 0, none⟩))])], bx g1000 40 [(vs sx1000_)], Fx1000_] w) (hR : ∀ (y0 : Sl) (y0_ : (List Int)) (sy0_ : Sl) (Fy0_ : Frag) (H' : Hp) (w' : World) (_ : RowL 5 1 g8 sy0_ y0_ Fy0_) (_ : Inv w0 ps0 H0 H' [bx g1 115 [(Value.func (.func 68) #[] #[(Value.pointer (some ⟨g1000, 0, none⟩))])], bx g2 103 [(Value.func (.func 69) #[] #[(Value.pointer (some ⟨g1, 0, none⟩)), (Value.pointer (some ⟨g2, 0, none⟩))])], bx g3 108 [(Value.func (.func 70) #[] #[(Value.pointer (some ⟨g1, 0, none⟩)), (Value.pointer (some ⟨g2, 0, none⟩)), (Value.pointer (some ⟨g3, 0, none⟩))])], bx g1000 40 [(vs sy0_)], Fy0_] w') (_ : K y0 y0_ H'), R (Value.tuple #[]) w') (h : a1E x0 x1000 x1000_ H K) : F70 (Value.agg (f5 x0).toArray) (Value.pointer (some ⟨g1, 0, none⟩)) (Value.pointer (some ⟨g2, 0, none⟩)) (Value.pointer (some ⟨g3, 0, none⟩)) w R E := by
 unfold a1E at h
 unfold F70
 refine J4 I (cs := (f5 x0)) rfl fun g_2 w_3 I_4 k_5 => ?_
 refine c5 (ld1 Tryd.isAgg115 ((I_4.bring 1).at1 (o := 0) (vs := [(Value.func (.func 68) #[] #[(Value.pointer (some ⟨g1000, 0, none⟩))])]) (nb rfl) rfl)) ?_
 refine a7 a5X ?_
 refine c5 (ld1 Tryd.isAgg3 (I_4.at1 (o := 0) (vs := [(vi x0.c6)]) (nb rfl) rfl)) ?_
 refine a7 Z5 ?_
 refine c5 (ld1 Tryd.isAgg3 (I_4.at1 (o := 1) (vs := [(vi x0.fOp)]) (nb rfl) rfl)) ?_
 refine a7 R8 ?_
 refine c5 (ld1 Tryd.isAgg31 (I_4.at1 (o := 3) (vs := [(vs x0.l9)]) (nb rfl) rfl)) ?_
 refine a7 (H8 _ _ _) ?_
 refine a7 R7 ?_
 refine c5 (ld1 Tryd.isAgg28 (I_4.at1 (o := 2) (vs := [(vs x0.d7)]) (nb rfl) rfl)) ?_
 refine a7 (v8 _ _ _) ?_
 refine a7 (b2T _ _) ?_
 refine f6 (cap := [(Value.pointer (some ⟨g1000, 0, none⟩))]) (fun args w => Tryd.call68 args w) ?_
 refine i6 (Fi := [bx g1000 40 [(vs sx1000_)], Fx1000_]) (Fr := [bx g_2 33 (f5 x0), bx g1 115 [(Value.func (.func 68) #[] #[(Value.pointer (some ⟨g1000, 0, none⟩))])], bx g2 103 [(Value.func (.func 69) #[] #[(Value.pointer (some ⟨g1, 0, none⟩)), (Value.pointer (some ⟨g2, 0, none⟩))])], bx g3 108 [(Value.func (.func 70) #[] #[(Value.pointer (some ⟨g1, 0, none⟩)), (Value.pointer (some ⟨g2, 0, none⟩)), (Value.pointer (some ⟨g3, 0, none⟩))])]]) ((I_4.bring 5).bring 5) (h g1000 sx1000_ Fx1000_ hx1000_) (fun a5D H_6 a5E w_7 I_8 a4J k_9 R3 => ?_) (fun _ _ _ _ _ q => q.elim)
 obtain ⟨G6, y0__14, sy0__14, Fy0__14, rfl, rfl, hy0__14, h⟩ := R3
 have hj1 : ∀ (a7o : (List Int)) (b2s : Sl) (Fcp1000j1 : Frag) (H : Hp) (w : World) (_ : RowL 5 1 g8 b2s a7o Fcp1000j1) (_ : Inv w0 ps0 H0 H [bx g1000 40 [(vs b2s)], bx g_2 33 (f5 x0), bx g1 115 [(Value.func (.func 68) #[] #[(Value.pointer (some ⟨g1000, 0, none⟩))])], bx g2 103 [(Value.func (.func 69) #[] #[(Value.pointer (some ⟨g1, 0, none⟩)), (Value.pointer (some ⟨g2, 0, none⟩))])], bx g3 108 [(Value.func (.func 70) #[] #[(Value.pointer (some ⟨g1, 0, none⟩)), (Value.pointer (some ⟨g2, 0, none⟩)), (Value.pointer (some ⟨g3, 0, none⟩))])], Fcp1000j1] w) (_ : a0j a7o x0 H K), c6U (Value.pointer (some ⟨g3, 0, none⟩)) (Value.pointer (some ⟨g_2, 0, none⟩)) w R E := by
  intro a7o b2s Fcp1000j1 H w d5u I h
  unfold c6U
  intro _
  unfold a0j at h
  refine a7 R8 ?_
  refine c5 (ld1 Tryd.isAgg31 ((I.bring 1).at1 (o := 3) (vs := [(vs x0.l9)]) (nb rfl) rfl)) ?_
  refine a7 (H8 _ _ _) ?_
  obtain ⟨d9f, c7n, g6P, b2k⟩ := h
  refine p9 (J := fun n l w => ∃ (s : Int × (List Int)) (H : Hp) (a7p : Sl) (Fcp1000l2 : Frag) , n = c7n s ∧ l = (match s with | (a4z, a1o) => [(vi a4z)]) ∧ (match s with | (a4z, a1o) => RowL 5 1 g8 a7p a1o Fcp1000l2) ∧ (match s with | (a4z, a1o) => Inv w0 ps0 H0 H [bx g1000 40 [(vs a7p)], bx g_2 33 (f5 x0), bx g1 115 [(Value.func (.func 68) #[] #[(Value.pointer (some ⟨g1000, 0, none⟩))])], bx g2 103 [(Value.func (.func 69) #[] #[(Value.pointer (some ⟨g1, 0, none⟩)), (Value.pointer (some ⟨g2, 0, none⟩))])], bx g3 108 [(Value.func (.func 70) #[] #[(Value.pointer (some ⟨g1, 0, none⟩)), (Value.pointer (some ⟨g2, 0, none⟩)), (Value.pointer (some ⟨g3, 0, none⟩))])], Fcp1000l2] w) ∧ d9f s H) ⟨_, (0, a7o), H, b2s, Fcp1000j1, rfl, rfl, d5u, ((((((I.bring 5).bring 5).bring 5).bring 5).bring 5).bring 5), g6P⟩ ?_
  rintro g9S τ_102 w next2 ⟨⟨a4z, a1o⟩, H, a7p, Fcp1000l2, rfl, d2l, b6D, I, c0u⟩ hn2
  dsimp only at d2l I b6D
  simp only [List.map_cons, List.map_nil, List.cons.injEq, and_true] at d2l
  have e36 := d2l
  simp only [e36]
  obtain ⟨n2, hm2, h⟩ : ∃ n2 : (Int × (List Int)) → Hp → Prop, (∀ s' H', n2 s' H' → d9f s' H' ∧ c7n s' < c7n (a4z, a1o)) ∧ a0i x0.l9 (x0.l9.n : Int) x0 a4z a1o H n2 K := ⟨_, fun _ _ h => h, b2k (a4z, a1o) H (fun s' H' => d9f s' H' ∧ c7n s' < c7n (a4z, a1o)) c0u (fun _ _ a b => ⟨a, b⟩)⟩
  unfold d5e
  unfold a0i at h
  refine a7 (o2 _ _ _ _ _ _) ?_
  refine g6 (fun d9g => ?_) (fun d9g => ?_)
  ·replace h := h.1 d9g
   obtain ⟨g6Q, g6R, b6C, c7o, h⟩ := h
   obtain ⟨h2H, h2I, g6S, c7o⟩ := c7o
   refine a7 (a4N g6S _ _ _ _ g6Q g6R) ?_
   refine c5 (ldA (vs := (f5 b6C)) Tryd.isAgg33 Tryd.sizeOf33 rfl (I.atH c7o)) ?_
   refine G4 I Tryd.zeroValue33 (cs := [(vi 0), (vi 0), (Value.slice none 0 0), (Value.slice none 0 0)]) rfl fun g6T g6D d8O g6E => ?_
   refine p7 d8O Tryd.sizeOf33 (vs := (f5 b6C)) (cs' := (f5 b6C)) rfl rfl (nb rfl) rfl rfl fun a2k d9h h2J => ?_
   refine c5 (ld1 Tryd.isAgg108 ((d9h.bring 5).at1 (o := 0) (vs := [(Value.func (.func 70) #[] #[(Value.pointer (some ⟨g1, 0, none⟩)), (Value.pointer (some ⟨g2, 0, none⟩)), (Value.pointer (some ⟨g3, 0, none⟩))])]) (nb rfl) rfl)) ?_
   refine c5 (ldA Tryd.isAgg33 Tryd.sizeOf33 rfl (d9h.at1 (o := 0) (vs := (f5 b6C)) (nb rfl) rfl)) ?_
   refine f6 (cap := [(Value.pointer (some ⟨g1, 0, none⟩)), (Value.pointer (some ⟨g2, 0, none⟩)), (Value.pointer (some ⟨g3, 0, none⟩))]) (fun args w => Tryd.call70 args w) ?_
   refine i6 (Fi := [bx g1 115 [(Value.func (.func 68) #[] #[(Value.pointer (some ⟨g1000, 0, none⟩))])], bx g2 103 [(Value.func (.func 69) #[] #[(Value.pointer (some ⟨g1, 0, none⟩)), (Value.pointer (some ⟨g2, 0, none⟩))])], bx g3 108 [(Value.func (.func 70) #[] #[(Value.pointer (some ⟨g1, 0, none⟩)), (Value.pointer (some ⟨g2, 0, none⟩)), (Value.pointer (some ⟨g3, 0, none⟩))])], bx g1000 40 [(vs a7p)], Fcp1000l2]) (Fr := [bx g6T 33 (f5 b6C), bx g_2 33 (f5 x0)]) (((((d9h.bring 6).bring 2).bring 6).bring 6).bring 6) (h g1 g2 g3 g1000 a7p Fcp1000l2 b6D) (fun h2K d9e h2L a2l g6U h2M h2N g6V => ?_) (fun _ _ _ _ _ q => q.elim)
   obtain ⟨g9T, y0__95, sy0__95, Fy0__95, rfl, rfl, hy0__95, h⟩ := g6V
   refine a7 (m4 _ _ _ _ _ _) ?_
   exact hn2 _ _ _ (hm2 _ _ h).2 ⟨((IntKind.wrap .i64 (a4z + 1)), y0__95), d9e, sy0__95, Fy0__95, rfl, rfl, hy0__95, (((((((g6U.bring 5).drop.bring 4).bring 3).bring 3).bring 3).bring 5).bring 5), (hm2 _ _ h).1⟩
  ·replace h := h.2 d9g
   exact hR (Sl.mk none 0 0) a1o a7p Fcp1000l2 H _ b6D ((((((I.bring 1).drop.bring 4).bring 1).bring 4).bring 4).bring 4) h
 refine m6 fun j1 hx1 => ?_
 refine a7 R7 ?_
 refine c5 (ld1 Tryd.isAgg28 ((I_8.bring 2).at1 (o := 2) (vs := [(vs x0.d7)]) (nb rfl) rfl)) ?_
 refine a7 (v8 _ _ _) ?_
 obtain ⟨b4d, a8f, d0a, d0b⟩ := h
 refine p9 (J := fun n l w => ∃ (s : Int × (List Int)) (H : Hp) (a7q : Sl) (Fcp1000l3 : Frag) , n = a8f s ∧ l = (match s with | (a2T, a1p) => [(vi a2T)]) ∧ (match s with | (a2T, a1p) => RowL 5 1 g8 a7q a1p Fcp1000l3) ∧ (match s with | (a2T, a1p) => Inv w0 ps0 H0 H [bx g1000 40 [(vs a7q)], bx g_2 33 (f5 x0), bx g1 115 [(Value.func (.func 68) #[] #[(Value.pointer (some ⟨g1000, 0, none⟩))])], bx g2 103 [(Value.func (.func 69) #[] #[(Value.pointer (some ⟨g1, 0, none⟩)), (Value.pointer (some ⟨g2, 0, none⟩))])], bx g3 108 [(Value.func (.func 70) #[] #[(Value.pointer (some ⟨g1, 0, none⟩)), (Value.pointer (some ⟨g2, 0, none⟩)), (Value.pointer (some ⟨g3, 0, none⟩))])], Fcp1000l3] w) ∧ b4d s H) ⟨_, (0, y0__14), H_6, sy0__14, Fy0__14, rfl, rfl, hy0__14, ((((((I_8.bring 1).bring 5).bring 5).bring 5).bring 5).bring 5), d0a⟩ ?_
 rintro g0m τ_144 w next3 ⟨⟨a2T, a1p⟩, H, a7q, Fcp1000l3, rfl, b4e, b6E, I, d0c⟩ hn3
 dsimp only at b4e I b6E
 simp only [List.map_cons, List.map_nil, List.cons.injEq, and_true] at b4e
 have e25 := b4e
 simp only [e25]
 obtain ⟨n3, hm3, h⟩ : ∃ n3 : (Int × (List Int)) → Hp → Prop, (∀ s' H', n3 s' H' → b4d s' H' ∧ a8f s' < a8f (a2T, a1p)) ∧ a0k x0.d7 (x0.d7.n : Int) x0 a2T a1p H n3 K := ⟨_, fun _ _ h => h, d0b (a2T, a1p) H (fun s' H' => b4d s' H' ∧ a8f s' < a8f (a2T, a1p)) d0c (fun _ _ a b => ⟨a, b⟩)⟩
 unfold d5f
 unfold a0k at h
 refine a7 (o2 _ _ _ _ _ _) ?_
 refine g6 (fun b4f => ?_) (fun b4f => ?_)
 ·replace h := h.1 b4f
  obtain ⟨g3s, g3t, b2r, d2m, h⟩ := h
  obtain ⟨g9U, g9V, g3u, d2m⟩ := d2m
  refine a7 (a1M g3u _ _ _ _ g3s g3t) ?_
  refine c5 (ldA (vs := (d9 b2r)) Tryd.isAgg30 Tryd.sizeOf30 rfl (I.atH d2m)) ?_
  refine G4 I Tryd.zeroValue30 (cs := [(vi 0), (vi 0), (Value.string ⟨#[]⟩), (Value.slice none 0 0)]) rfl fun g3v g9W g3w g9X => ?_
  refine p7 g3w Tryd.sizeOf30 (vs := (d9 b2r)) (cs' := (d9 b2r)) rfl rfl (nb rfl) rfl rfl fun a6a d2n g9Y => ?_
  refine c5 (ld1 Tryd.isAgg103 ((d2n.bring 4).at1 (o := 0) (vs := [(Value.func (.func 69) #[] #[(Value.pointer (some ⟨g1, 0, none⟩)), (Value.pointer (some ⟨g2, 0, none⟩))])]) (nb rfl) rfl)) ?_
  refine c5 (ldA Tryd.isAgg30 Tryd.sizeOf30 rfl (d2n.at1 (o := 0) (vs := (d9 b2r)) (nb rfl) rfl)) ?_
  refine f6 (cap := [(Value.pointer (some ⟨g1, 0, none⟩)), (Value.pointer (some ⟨g2, 0, none⟩))]) (fun args w => Tryd.call69 args w) ?_
  refine i6 (Fi := [bx g1 115 [(Value.func (.func 68) #[] #[(Value.pointer (some ⟨g1000, 0, none⟩))])], bx g2 103 [(Value.func (.func 69) #[] #[(Value.pointer (some ⟨g1, 0, none⟩)), (Value.pointer (some ⟨g2, 0, none⟩))])], bx g1000 40 [(vs a7q)], Fcp1000l3]) (Fr := [bx g3v 30 (d9 b2r), bx g_2 33 (f5 x0), bx g3 108 [(Value.func (.func 70) #[] #[(Value.pointer (some ⟨g1, 0, none⟩)), (Value.pointer (some ⟨g2, 0, none⟩)), (Value.pointer (some ⟨g3, 0, none⟩))])]]) ((((d2n.bring 6).bring 2).bring 5).bring 5) (h g1 g2 g1000 a7q Fcp1000l3 b6E) (fun g0q b4c g0r a7K d0d g0s g0t d0e => ?_) (fun _ _ _ _ _ q => q.elim)
  obtain ⟨b9H, y0__137, sy0__137, Fy0__137, rfl, rfl, hy0__137, h⟩ := d0e
  refine a7 (m4 _ _ _ _ _ _) ?_
  exact hn3 _ _ _ (hm3 _ _ h).2 ⟨((IntKind.wrap .i64 (a2T + 1)), y0__137), b4c, sy0__137, Fy0__137, rfl, rfl, hy0__137, (((((((d0d.bring 4).drop.bring 3).bring 5).bring 3).bring 3).bring 5).bring 5), (hm3 _ _ h).1⟩
 ·replace h := h.2 b4f
  exact hx1 _ _ (hj1 a1p a7q Fcp1000l3 H _ b6E ((((((I.bring 5).bring 5).bring 5).bring 5).bring 5).bring 5) h)
theorem b2b (x0 : k3) (x1000 : Sl) (x1000_ : (List Int)) {H : Hp} {K : Sl → (List Int) → Hp → Prop} (h : a1E x0 x1000 x1000_ H K) : a1v x0 x1000 x1000_ H K := by
 intro g1 g2 g3 g1000 sx1000_ Fx1000_ hx1000_ w I
 refine f7l ?_
 refine b1O x0 x1000 x1000_ g1 g2 g3 g1000 sx1000_ Fx1000_ hx1000_ I (fun y0 y0_ sy0_ Fy0_ H' w' khy0_ I' hk => ⟨H', _, I', y0, y0_, sy0_, Fy0_, rfl, rfl, khy0_, hk⟩) h
def a0l (_s12j2 : Sl) (_s13j2 : Int) (g3x : Int) (a7r : (List Int)) (H : Hp) (n1 : (Int × (List Int)) → Hp → Prop) (_K : Sl → (List Int) → Hp → Prop) : Prop :=
 n1 ((IntKind.wrap .i64 (g3x + 1)), a7r) H
def a0m (g3y : Sl) (g3z : Int) (g3A : Int) (a9H : (List Int)) (cr_191j4 : i5) (H : Hp) (n1 : (Int × (List Int)) → Hp → Prop) (K : Sl → (List Int) → Hp → Prop) : Prop :=
 Y2 cr_191j4.s6 (Sl.mk none 0 0) a9H H (fun (_y0_264 : Sl) (y0__264 : (List Int)) (e0u : Hp) =>
 Y2 cr_191j4.q8 (Sl.mk none 0 0) y0__264 e0u (fun (_y0_273 : Sl) (y0__273 : (List Int)) (d2o : Hp) =>
 a0l g3y g3z g3A y0__273 d2o n1 K))
def a0o (g3B : Sl) (g3C : Int) (a1Z : Int) (e0v : Sl) (e0w : Int) (cr_191l5 : i5) (a4A : Int) (a1q : (List Int)) (H : Hp) (n1 : (Int × (List Int)) → Hp → Prop) (n5 : (Int × (List Int)) → Hp → Prop) (K : Sl → (List Int) → Hp → Prop) : Prop :=
 (a4A < e0w →
 (0 : Int) ≤ a4A ∧ (a4A : Int) < e0v.n ∧ ∃ b2t : k6, EltH H e0v a4A 4 (d9 b2t) ∧
 Y1 b2t (Sl.mk none 0 0) a1q H (fun (_y0_306 : Sl) (y0__306 : (List Int)) (d2p : Hp) =>
 n5 ((IntKind.wrap .i64 (a4A + 1)), y0__306) d2p)) ∧
 (¬ (a4A < e0w) →
 a0m g3B g3C a1Z a1q cr_191l5 H n1 K)
def a0p (g3D : Sl) (g3E : Int) (g3F : Int) (a7s : (List Int)) (cr_191j3 : i5) (H : Hp) (n1 : (Int × (List Int)) → Hp → Prop) (K : Sl → (List Int) → Hp → Prop) : Prop :=
 TL ((0, a7s) : Int × (List Int)) H fun (s : Int × (List Int)) H n5 => a0o g3D g3E g3F cr_191j3.d7 (cr_191j3.d7.n : Int) cr_191j3 s.1 s.2 H n1 n5 K
def Q7 (g3G : Sl) (a2x : Int) (g3H : Int) (e0x : Sl) (e0y : Int) (cr_191l6 : i5) (a4B : Int) (a1r : (List Int)) (H : Hp) (n1 : (Int × (List Int)) → Hp → Prop) (n6 : (Int × (List Int)) → Hp → Prop) (K : Sl → (List Int) → Hp → Prop) : Prop :=
 (a4B < e0y →
 (0 : Int) ≤ a4B ∧ (a4B : Int) < e0x.n ∧ ∃ b2u : k3, EltH H e0x a4B 4 (f5 b2u) ∧
 a1v b2u (Sl.mk none 0 0) a1r H (fun (_y0_348 : Sl) (y0__348 : (List Int)) (d2q : Hp) =>
 n6 ((IntKind.wrap .i64 (a4B + 1)), y0__348) d2q)) ∧
 (¬ (a4B < e0y) →
 a0p g3G a2x g3H a1r cr_191l6 H n1 K)
def a0q (d2r : Sl) (d2s : Int) (a0L : Int) (C6 : (List Int)) (H : Hp) (n1 : (Int × (List Int)) → Hp → Prop) (K : Sl → (List Int) → Hp → Prop) : Prop :=
 (a0L < d2s →
 (0 : Int) ≤ a0L ∧ (a0L : Int) < d2r.n ∧ ∃ F9 : i5, EltH H d2r a0L 6 (d6 F9) ∧
 N6 83 F9.c6 0 F9.k9 (J0.mk (F9.i4.n : Int) (F9.d7.n : Int) (F9.s6.n : Int) (F9.q8.n : Int)) (Sl.mk none 0 0) C6 H (fun (_y0_207 : Sl) (y0__207 : (List Int)) (d2t : Hp) =>
 TL ((0, y0__207) : Int × (List Int)) d2t fun (s : Int × (List Int)) H n6 => Q7 d2r d2s a0L F9.i4 (F9.i4.n : Int) F9 s.1 s.2 H n1 n6 K)) ∧
 (¬ (a0L < d2s) →
 K (Sl.mk none 0 0) C6 H)
def a1F (x0 : Sl) (_x1000 : Sl) (x1000_ : (List Int)) (H : Hp) (K : Sl → (List Int) → Hp → Prop) : Prop :=
 TL ((0, x1000_) : Int × (List Int)) H fun (s : Int × (List Int)) H n1 => a0q x0 (x0.n : Int) s.1 s.2 H n1 K
theorem b1P (x0 : Sl) (x1000 : Sl) (x1000_ : (List Int)) (g1 g2 g3 g4 g1000 : Nat) (sx1000_ : Sl) (Fx1000_ : Frag) (hx1000_ : RowL 5 1 g8 sx1000_ x1000_ Fx1000_) {w0 w : World} {ps0 : Nat → Prop} {H0 H : Hp} {K : Sl → (List Int) → Hp → Prop} {R : Value → World → Prop} {E : Pan} (I : Inv w0 ps0 H0 H [bx g1 115 [(Value.func (.func 68) #[] #[(Value.pointer (some ⟨g1000, 0, none⟩))])], bx g2 108 [(Value.func (.func 70) #[] #[(Value.pointer (some ⟨g1, 0, none⟩)), (Value.pointer (some ⟨g3, 0, none⟩)), (Value.pointer (some ⟨g2, 0, none⟩))])], bx g3 103 [(Value.func (.func 69) #[] #[(Value.pointer (some ⟨g1, 0, none⟩)), (Value.pointer (some ⟨g3, 0, none⟩))])], bx g4 116 [(Value.func (.func 71) #[] #[(Value.pointer (some ⟨g1, 0, none⟩)), (Value.pointer (some ⟨g2, 0, none⟩)), (Value.pointer (some ⟨g3, 0, none⟩)), (Value.pointer (some ⟨g4, 0, none⟩))])], bx g1000 40 [(vs sx1000_)], Fx1000_] w) (hR : ∀ (y0 : Sl) (y0_ : (List Int)) (sy0_ : Sl) (Fy0_ : Frag) (H' : Hp) (w' : World) (_ : RowL 5 1 g8 sy0_ y0_ Fy0_) (_ : Inv w0 ps0 H0 H' [bx g1 115 [(Value.func (.func 68) #[] #[(Value.pointer (some ⟨g1000, 0, none⟩))])], bx g2 108 [(Value.func (.func 70) #[] #[(Value.pointer (some ⟨g1, 0, none⟩)), (Value.pointer (some ⟨g3, 0, none⟩)), (Value.pointer (some ⟨g2, 0, none⟩))])], bx g3 103 [(Value.func (.func 69) #[] #[(Value.pointer (some ⟨g1, 0, none⟩)), (Value.pointer (some ⟨g3, 0, none⟩))])], bx g4 116 [(Value.func (.func 71) #[] #[(Value.pointer (some ⟨g1, 0, none⟩)), (Value.pointer (some ⟨g2, 0, none⟩)), (Value.pointer (some ⟨g3, 0, none⟩)), (Value.pointer (some ⟨g4, 0, none⟩))])], bx g1000 40 [(vs sy0_)], Fy0_] w') (_ : K y0 y0_ H'), R (Value.tuple #[]) w') (h : a1F x0 x1000 x1000_ H K) : F71 (vs x0) (Value.pointer (some ⟨g1, 0, none⟩)) (Value.pointer (some ⟨g2, 0, none⟩)) (Value.pointer (some ⟨g3, 0, none⟩)) (Value.pointer (some ⟨g4, 0, none⟩)) w R E := by
 unfold a1F at h
 unfold F71
 refine a7 (D6 _ _ _) ?_
 obtain ⟨d2u, c0w, g3I, g3J⟩ := h
 refine p9 (J := fun n l w => ∃ (s : Int × (List Int)) (H : Hp) (a0C : Sl) (Fcp1000l1 : Frag) , n = c0w s ∧ l = (match s with | (a0L, C6) => [(vi a0L)]) ∧ (match s with | (a0L, C6) => RowL 5 1 g8 a0C C6 Fcp1000l1) ∧ (match s with | (a0L, C6) => Inv w0 ps0 H0 H [bx g1 115 [(Value.func (.func 68) #[] #[(Value.pointer (some ⟨g1000, 0, none⟩))])], bx g2 108 [(Value.func (.func 70) #[] #[(Value.pointer (some ⟨g1, 0, none⟩)), (Value.pointer (some ⟨g3, 0, none⟩)), (Value.pointer (some ⟨g2, 0, none⟩))])], bx g3 103 [(Value.func (.func 69) #[] #[(Value.pointer (some ⟨g1, 0, none⟩)), (Value.pointer (some ⟨g3, 0, none⟩))])], bx g4 116 [(Value.func (.func 71) #[] #[(Value.pointer (some ⟨g1, 0, none⟩)), (Value.pointer (some ⟨g2, 0, none⟩)), (Value.pointer (some ⟨g3, 0, none⟩)), (Value.pointer (some ⟨g4, 0, none⟩))])], bx g1000 40 [(vs a0C)], Fcp1000l1] w) ∧ d2u s H) ⟨_, (0, x1000_), H, sx1000_, Fx1000_, rfl, rfl, hx1000_, ((((((I.bring 5).bring 5).bring 5).bring 5).bring 5).bring 5), g3I⟩ ?_
 rintro g9Z τ_364 w next1 ⟨⟨a0L, C6⟩, H, a0C, Fcp1000l1, rfl, d2v, a5V, I, g3K⟩ hn1
 dsimp only at d2v I a5V
 simp only [List.map_cons, List.map_nil, List.cons.injEq, and_true] at d2v
 have e14 := d2v
 simp only [e14]
 obtain ⟨n1, hm1, h⟩ : ∃ n1 : (Int × (List Int)) → Hp → Prop, (∀ s' H', n1 s' H' → d2u s' H' ∧ c0w s' < c0w (a0L, C6)) ∧ a0q x0 (x0.n : Int) a0L C6 H n1 K := ⟨_, fun _ _ h => h, g3J (a0L, C6) H (fun s' H' => d2u s' H' ∧ c0w s' < c0w (a0L, C6)) g3K (fun _ _ a b => ⟨a, b⟩)⟩
 unfold d5l
 unfold a0q at h
 refine a7 (o2 _ _ _ _ _ _) ?_
 refine g6 (fun d2w => ?_) (fun d2w => ?_)
 ·replace h := h.1 d2w
  have hj2 : ∀ (a7r : (List Int)) (b2v : Sl) (Fcp1000j2 : Frag) (H : Hp) (w : World) (_ : RowL 5 1 g8 b2v a7r Fcp1000j2) (_ : Inv w0 ps0 H0 H [bx g1 115 [(Value.func (.func 68) #[] #[(Value.pointer (some ⟨g1000, 0, none⟩))])], bx g2 108 [(Value.func (.func 70) #[] #[(Value.pointer (some ⟨g1, 0, none⟩)), (Value.pointer (some ⟨g3, 0, none⟩)), (Value.pointer (some ⟨g2, 0, none⟩))])], bx g3 103 [(Value.func (.func 69) #[] #[(Value.pointer (some ⟨g1, 0, none⟩)), (Value.pointer (some ⟨g3, 0, none⟩))])], bx g4 116 [(Value.func (.func 71) #[] #[(Value.pointer (some ⟨g1, 0, none⟩)), (Value.pointer (some ⟨g2, 0, none⟩)), (Value.pointer (some ⟨g3, 0, none⟩)), (Value.pointer (some ⟨g4, 0, none⟩))])], bx g1000 40 [(vs b2v)], Fcp1000j2] w) (_ : a0l x0 (x0.n : Int) a0L a7r H n1 K), c6V (Value.pointer (some ⟨g1, 0, none⟩)) (Value.pointer (some ⟨g2, 0, none⟩)) (Value.pointer (some ⟨g3, 0, none⟩)) (Value.pointer (some ⟨g4, 0, none⟩)) (vs x0) (vi (x0.n : Int)) (vi a0L) w next1 R E := by
   intro a7r b2v Fcp1000j2 H w d5v I h
   unfold c6V
   intro _
   unfold a0l at h
   refine a7 (m4 _ _ _ _ _ _) ?_
   exact hn1 _ _ _ (hm1 _ _ h).2 ⟨((IntKind.wrap .i64 (a0L + 1)), a7r), H, b2v, Fcp1000j2, rfl, rfl, d5v, ((((((I.bring 5).bring 5).bring 5).bring 5).bring 5).bring 5), (hm1 _ _ h).1⟩
  refine m6 fun j2 hx2 => ?_
  obtain ⟨g3L, g3M, F9, d2x, h⟩ := h
  obtain ⟨h0a, h0b, g3N, d2x⟩ := d2x
  refine a7 (a4O g3N _ _ _ _ g3L g3M) ?_
  refine c5 (ldA (vs := (d6 F9)) Tryd.isAgg88 Tryd.sizeOf88 rfl (I.atH d2x)) ?_
  refine G4 I Tryd.zeroValue88 (cs := [(vi 0), (Value.string ⟨#[]⟩), (Value.slice none 0 0), (Value.slice none 0 0), (Value.slice none 0 0), (Value.slice none 0 0)]) rfl fun a8w h0c g3O h0d => ?_
  refine p7 g3O Tryd.sizeOf88 (vs := (d6 F9)) (cs' := (d6 F9)) rfl rfl (nb rfl) rfl rfl fun d9T b2w h0e => ?_
  refine c5 (ld1 Tryd.isAgg115 ((b2w.bring 1).at1 (o := 0) (vs := [(Value.func (.func 68) #[] #[(Value.pointer (some ⟨g1000, 0, none⟩))])]) (nb rfl) rfl)) ?_
  refine a7 B6 ?_
  refine c5 (ld1 Tryd.isAgg3 (b2w.at1 (o := 0) (vs := [(vi F9.c6)]) (nb rfl) rfl)) ?_
  refine a7 a4P ?_
  refine c5 (ld1 Tryd.isAgg9 (b2w.at1 (o := 1) (vs := [(Value.string F9.k9)]) (nb rfl) rfl)) ?_
  refine a7 S1 ?_
  refine c5 (ld1 Tryd.isAgg31 (b2w.at1 (o := 3) (vs := [(vs F9.i4)]) (nb rfl) rfl)) ?_
  refine a7 (H8 _ _ _) ?_
  refine a7 R9 ?_
  refine c5 (ld1 Tryd.isAgg28 (b2w.at1 (o := 2) (vs := [(vs F9.d7)]) (nb rfl) rfl)) ?_
  refine a7 (v8 _ _ _) ?_
  refine a7 V8 ?_
  refine c5 (ld1 Tryd.isAgg23 (b2w.at1 (o := 4) (vs := [(vs F9.s6)]) (nb rfl) rfl)) ?_
  refine a7 (D6 _ _ _) ?_
  refine a7 M9 ?_
  refine c5 (ld1 Tryd.isAgg23 (b2w.at1 (o := 5) (vs := [(vs F9.q8)]) (nb rfl) rfl)) ?_
  refine a7 (D6 _ _ _) ?_
  refine a7 (a3U _ _ _ _) ?_
  refine f6 (cap := [(Value.pointer (some ⟨g1000, 0, none⟩))]) (fun args w => Tryd.call68 args w) ?_
  refine i6 (Fi := [bx g1000 40 [(vs a0C)], Fcp1000l1]) (Fr := [bx a8w 88 (d6 F9), bx g1 115 [(Value.func (.func 68) #[] #[(Value.pointer (some ⟨g1000, 0, none⟩))])], bx g2 108 [(Value.func (.func 70) #[] #[(Value.pointer (some ⟨g1, 0, none⟩)), (Value.pointer (some ⟨g3, 0, none⟩)), (Value.pointer (some ⟨g2, 0, none⟩))])], bx g3 103 [(Value.func (.func 69) #[] #[(Value.pointer (some ⟨g1, 0, none⟩)), (Value.pointer (some ⟨g3, 0, none⟩))])], bx g4 116 [(Value.func (.func 71) #[] #[(Value.pointer (some ⟨g1, 0, none⟩)), (Value.pointer (some ⟨g2, 0, none⟩)), (Value.pointer (some ⟨g3, 0, none⟩)), (Value.pointer (some ⟨g4, 0, none⟩))])]]) ((b2w.bring 6).bring 6) (h g1000 a0C Fcp1000l1 a5V) (fun h0f d2t h0g d9U e0z h0h h0i g3P => ?_) (fun _ _ _ _ _ q => q.elim)
  obtain ⟨g8i, y0__207, sy0__207, Fy0__207, rfl, rfl, hy0__207, h⟩ := g3P
  have hj3 : ∀ (a7s : (List Int)) (b2x : Sl) (Fcp1000j3 : Frag) (H : Hp) (w : World) (_ : RowL 5 1 g8 b2x a7s Fcp1000j3) (_ : Inv w0 ps0 H0 H [bx g1000 40 [(vs b2x)], bx a8w 88 (d6 F9), bx g1 115 [(Value.func (.func 68) #[] #[(Value.pointer (some ⟨g1000, 0, none⟩))])], bx g2 108 [(Value.func (.func 70) #[] #[(Value.pointer (some ⟨g1, 0, none⟩)), (Value.pointer (some ⟨g3, 0, none⟩)), (Value.pointer (some ⟨g2, 0, none⟩))])], bx g3 103 [(Value.func (.func 69) #[] #[(Value.pointer (some ⟨g1, 0, none⟩)), (Value.pointer (some ⟨g3, 0, none⟩))])], bx g4 116 [(Value.func (.func 71) #[] #[(Value.pointer (some ⟨g1, 0, none⟩)), (Value.pointer (some ⟨g2, 0, none⟩)), (Value.pointer (some ⟨g3, 0, none⟩)), (Value.pointer (some ⟨g4, 0, none⟩))])], Fcp1000j3] w) (_ : a0p x0 (x0.n : Int) a0L a7s F9 H n1 K), c6X (Value.pointer (some ⟨g1, 0, none⟩)) (Value.pointer (some ⟨g2, 0, none⟩)) (Value.pointer (some ⟨g3, 0, none⟩)) (Value.pointer (some ⟨g4, 0, none⟩)) (Value.pointer (some ⟨a8w, 0, none⟩)) (vs x0) (vi (x0.n : Int)) (vi a0L) w j2 R E := by
   intro a7s b2x Fcp1000j3 H w d5w I h
   unfold c6X
   intro _
   unfold a0p at h
   have hj4 : ∀ (a9H : (List Int)) (a9I : Sl) (Fcp1000j4 : Frag) (H : Hp) (w : World) (_ : RowL 5 1 g8 a9I a9H Fcp1000j4) (_ : Inv w0 ps0 H0 H [bx g1000 40 [(vs a9I)], bx a8w 88 (d6 F9), bx g1 115 [(Value.func (.func 68) #[] #[(Value.pointer (some ⟨g1000, 0, none⟩))])], bx g2 108 [(Value.func (.func 70) #[] #[(Value.pointer (some ⟨g1, 0, none⟩)), (Value.pointer (some ⟨g3, 0, none⟩)), (Value.pointer (some ⟨g2, 0, none⟩))])], bx g3 103 [(Value.func (.func 69) #[] #[(Value.pointer (some ⟨g1, 0, none⟩)), (Value.pointer (some ⟨g3, 0, none⟩))])], bx g4 116 [(Value.func (.func 71) #[] #[(Value.pointer (some ⟨g1, 0, none⟩)), (Value.pointer (some ⟨g2, 0, none⟩)), (Value.pointer (some ⟨g3, 0, none⟩)), (Value.pointer (some ⟨g4, 0, none⟩))])], Fcp1000j4] w) (_ : a0m x0 (x0.n : Int) a0L a9H F9 H n1 K), c6W (Value.pointer (some ⟨g1, 0, none⟩)) (Value.pointer (some ⟨g2, 0, none⟩)) (Value.pointer (some ⟨g3, 0, none⟩)) (Value.pointer (some ⟨g4, 0, none⟩)) (Value.pointer (some ⟨a8w, 0, none⟩)) (vs x0) (vi (x0.n : Int)) (vi a0L) w j2 R E := by
    intro a9H a9I Fcp1000j4 H w d5x I h
    unfold c6W
    intro _
    unfold a0m at h
    refine c5 (ld1 Tryd.isAgg116 ((I.bring 5).at1 (o := 0) (vs := [(Value.func (.func 71) #[] #[(Value.pointer (some ⟨g1, 0, none⟩)), (Value.pointer (some ⟨g2, 0, none⟩)), (Value.pointer (some ⟨g3, 0, none⟩)), (Value.pointer (some ⟨g4, 0, none⟩))])]) (nb rfl) rfl)) ?_
    refine a7 V8 ?_
    refine c5 (ld1 Tryd.isAgg23 ((I.bring 1).at1 (o := 4) (vs := [(vs F9.s6)]) (nb rfl) rfl)) ?_
    refine f6 (cap := [(Value.pointer (some ⟨g1, 0, none⟩)), (Value.pointer (some ⟨g2, 0, none⟩)), (Value.pointer (some ⟨g3, 0, none⟩)), (Value.pointer (some ⟨g4, 0, none⟩))]) (fun args w => Tryd.call71 args w) ?_
    refine i6 (Fi := [bx g1 115 [(Value.func (.func 68) #[] #[(Value.pointer (some ⟨g1000, 0, none⟩))])], bx g2 108 [(Value.func (.func 70) #[] #[(Value.pointer (some ⟨g1, 0, none⟩)), (Value.pointer (some ⟨g3, 0, none⟩)), (Value.pointer (some ⟨g2, 0, none⟩))])], bx g3 103 [(Value.func (.func 69) #[] #[(Value.pointer (some ⟨g1, 0, none⟩)), (Value.pointer (some ⟨g3, 0, none⟩))])], bx g4 116 [(Value.func (.func 71) #[] #[(Value.pointer (some ⟨g1, 0, none⟩)), (Value.pointer (some ⟨g2, 0, none⟩)), (Value.pointer (some ⟨g3, 0, none⟩)), (Value.pointer (some ⟨g4, 0, none⟩))])], bx g1000 40 [(vs a9I)], Fcp1000j4]) (Fr := [bx a8w 88 (d6 F9)]) ((((((I.bring 6).bring 1).bring 6).bring 6).bring 6).bring 6) (h g1 g2 g3 g4 g1000 a9I Fcp1000j4 d5x) (fun h0j e0u h0k h0l d2y h0m h0n g3Q => ?_) (fun _ _ _ _ _ q => q.elim)
    obtain ⟨g8j, y0__264, sy0__264, Fy0__264, rfl, rfl, hy0__264, h⟩ := g3Q
    refine c5 (ld1 Tryd.isAgg116 ((d2y.bring 3).at1 (o := 0) (vs := [(Value.func (.func 71) #[] #[(Value.pointer (some ⟨g1, 0, none⟩)), (Value.pointer (some ⟨g2, 0, none⟩)), (Value.pointer (some ⟨g3, 0, none⟩)), (Value.pointer (some ⟨g4, 0, none⟩))])]) (nb rfl) rfl)) ?_
    refine a7 M9 ?_
    refine c5 (ld1 Tryd.isAgg23 ((d2y.bring 6).at1 (o := 5) (vs := [(vs F9.q8)]) (nb rfl) rfl)) ?_
    refine f6 (cap := [(Value.pointer (some ⟨g1, 0, none⟩)), (Value.pointer (some ⟨g2, 0, none⟩)), (Value.pointer (some ⟨g3, 0, none⟩)), (Value.pointer (some ⟨g4, 0, none⟩))]) (fun args w => Tryd.call71 args w) ?_
    refine i6 (Fi := [bx g1 115 [(Value.func (.func 68) #[] #[(Value.pointer (some ⟨g1000, 0, none⟩))])], bx g2 108 [(Value.func (.func 70) #[] #[(Value.pointer (some ⟨g1, 0, none⟩)), (Value.pointer (some ⟨g3, 0, none⟩)), (Value.pointer (some ⟨g2, 0, none⟩))])], bx g3 103 [(Value.func (.func 69) #[] #[(Value.pointer (some ⟨g1, 0, none⟩)), (Value.pointer (some ⟨g3, 0, none⟩))])], bx g4 116 [(Value.func (.func 71) #[] #[(Value.pointer (some ⟨g1, 0, none⟩)), (Value.pointer (some ⟨g2, 0, none⟩)), (Value.pointer (some ⟨g3, 0, none⟩)), (Value.pointer (some ⟨g4, 0, none⟩))])], bx g1000 40 [(vs sy0__264)], Fy0__264]) (Fr := [bx a8w 88 (d6 F9)]) ((((((d2y.bring 5).bring 5).bring 5).bring 5).bring 5).bring 5) (h g1 g2 g3 g4 g1000 sy0__264 Fy0__264 hy0__264) (fun h0o d2o h0p h0q g3R h0r h0t g3S => ?_) (fun _ _ _ _ _ q => q.elim)
    obtain ⟨g8k, y0__273, sy0__273, Fy0__273, rfl, rfl, hy0__273, h⟩ := g3S
    exact hx2 _ _ (hj2 y0__273 sy0__273 Fy0__273 d2o _ hy0__273 (((((((g3R.bring 6).drop.bring 5).bring 5).bring 5).bring 5).bring 5).bring 5) h)
   refine m6 fun j4 hx4 => ?_
   refine a7 R9 ?_
   refine c5 (ld1 Tryd.isAgg28 ((I.bring 1).at1 (o := 2) (vs := [(vs F9.d7)]) (nb rfl) rfl)) ?_
   refine a7 (v8 _ _ _) ?_
   obtain ⟨d2z, c0x, g3T, g3U⟩ := h
   refine p9 (J := fun n l w => ∃ (s : Int × (List Int)) (H : Hp) (a7t : Sl) (Fcp1000l5 : Frag) , n = c0x s ∧ l = (match s with | (a4A, a1q) => [(vi a4A)]) ∧ (match s with | (a4A, a1q) => RowL 5 1 g8 a7t a1q Fcp1000l5) ∧ (match s with | (a4A, a1q) => Inv w0 ps0 H0 H [bx g1000 40 [(vs a7t)], bx a8w 88 (d6 F9), bx g1 115 [(Value.func (.func 68) #[] #[(Value.pointer (some ⟨g1000, 0, none⟩))])], bx g2 108 [(Value.func (.func 70) #[] #[(Value.pointer (some ⟨g1, 0, none⟩)), (Value.pointer (some ⟨g3, 0, none⟩)), (Value.pointer (some ⟨g2, 0, none⟩))])], bx g3 103 [(Value.func (.func 69) #[] #[(Value.pointer (some ⟨g1, 0, none⟩)), (Value.pointer (some ⟨g3, 0, none⟩))])], bx g4 116 [(Value.func (.func 71) #[] #[(Value.pointer (some ⟨g1, 0, none⟩)), (Value.pointer (some ⟨g2, 0, none⟩)), (Value.pointer (some ⟨g3, 0, none⟩)), (Value.pointer (some ⟨g4, 0, none⟩))])], Fcp1000l5] w) ∧ d2z s H) ⟨_, (0, a7s), H, b2x, Fcp1000j3, rfl, rfl, d5w, (((((((I.bring 6).bring 6).bring 6).bring 6).bring 6).bring 6).bring 6), g3T⟩ ?_
   rintro h0u τ_313 w next5 ⟨⟨a4A, a1q⟩, H, a7t, Fcp1000l5, rfl, d2A, b6F, I, g3V⟩ hn5
   dsimp only at d2A I b6F
   simp only [List.map_cons, List.map_nil, List.cons.injEq, and_true] at d2A
   have e51 := d2A
   simp only [e51]
   obtain ⟨n5, hm5, h⟩ : ∃ n5 : (Int × (List Int)) → Hp → Prop, (∀ s' H', n5 s' H' → d2z s' H' ∧ c0x s' < c0x (a4A, a1q)) ∧ a0o x0 (x0.n : Int) a0L F9.d7 (F9.d7.n : Int) F9 a4A a1q H n1 n5 K := ⟨_, fun _ _ h => h, g3U (a4A, a1q) H (fun s' H' => d2z s' H' ∧ c0x s' < c0x (a4A, a1q)) g3V (fun _ _ a b => ⟨a, b⟩)⟩
   unfold d5g
   unfold a0o at h
   refine a7 (o2 _ _ _ _ _ _) ?_
   refine g6 (fun d2B => ?_) (fun d2B => ?_)
   ·replace h := h.1 d2B
    obtain ⟨g3W, g3X, b2t, d2C, h⟩ := h
    obtain ⟨h0v, h0w, g3Y, d2C⟩ := d2C
    refine a7 (a1M g3Y _ _ _ _ g3W g3X) ?_
    refine c5 (ldA (vs := (d9 b2t)) Tryd.isAgg30 Tryd.sizeOf30 rfl (I.atH d2C)) ?_
    refine G4 I Tryd.zeroValue30 (cs := [(vi 0), (vi 0), (Value.string ⟨#[]⟩), (Value.slice none 0 0)]) rfl fun g3Z h0x g4a h0y => ?_
    refine p7 g4a Tryd.sizeOf30 (vs := (d9 b2t)) (cs' := (d9 b2t)) rfl rfl (nb rfl) rfl rfl fun h0z d2D h0A => ?_
    refine c5 (ld1 Tryd.isAgg103 ((d2D.bring 5).at1 (o := 0) (vs := [(Value.func (.func 69) #[] #[(Value.pointer (some ⟨g1, 0, none⟩)), (Value.pointer (some ⟨g3, 0, none⟩))])]) (nb rfl) rfl)) ?_
    refine c5 (ldA Tryd.isAgg30 Tryd.sizeOf30 rfl (d2D.at1 (o := 0) (vs := (d9 b2t)) (nb rfl) rfl)) ?_
    refine f6 (cap := [(Value.pointer (some ⟨g1, 0, none⟩)), (Value.pointer (some ⟨g3, 0, none⟩))]) (fun args w => Tryd.call69 args w) ?_
    refine i6 (Fi := [bx g1 115 [(Value.func (.func 68) #[] #[(Value.pointer (some ⟨g1000, 0, none⟩))])], bx g3 103 [(Value.func (.func 69) #[] #[(Value.pointer (some ⟨g1, 0, none⟩)), (Value.pointer (some ⟨g3, 0, none⟩))])], bx g1000 40 [(vs a7t)], Fcp1000l5]) (Fr := [bx g3Z 30 (d9 b2t), bx a8w 88 (d6 F9), bx g2 108 [(Value.func (.func 70) #[] #[(Value.pointer (some ⟨g1, 0, none⟩)), (Value.pointer (some ⟨g3, 0, none⟩)), (Value.pointer (some ⟨g2, 0, none⟩))])], bx g4 116 [(Value.func (.func 71) #[] #[(Value.pointer (some ⟨g1, 0, none⟩)), (Value.pointer (some ⟨g2, 0, none⟩)), (Value.pointer (some ⟨g3, 0, none⟩)), (Value.pointer (some ⟨g4, 0, none⟩))])]]) ((((d2D.bring 7).bring 2).bring 6).bring 5) (h g1 g3 g1000 a7t Fcp1000l5 b6F) (fun h0B d2p h0C h0D g4b h0E h0F g4c => ?_) (fun _ _ _ _ _ q => q.elim)
    obtain ⟨g8l, y0__306, sy0__306, Fy0__306, rfl, rfl, hy0__306, h⟩ := g4c
    refine a7 (m4 _ _ _ _ _ _) ?_
    exact hn5 _ _ _ (hm5 _ _ h).2 ⟨((IntKind.wrap .i64 (a4A + 1)), y0__306), d2p, sy0__306, Fy0__306, rfl, rfl, hy0__306, ((((((((g4b.bring 4).drop.bring 3).bring 6).bring 3).bring 6).bring 4).bring 6).bring 6), (hm5 _ _ h).1⟩
   ·replace h := h.2 d2B
    exact hx4 _ _ (hj4 a1q a7t Fcp1000l5 H _ b6F (((((((I.bring 6).bring 6).bring 6).bring 6).bring 6).bring 6).bring 6) h)
  refine m6 fun j3 hx3 => ?_
  refine a7 S1 ?_
  refine c5 (ld1 Tryd.isAgg31 ((e0z.bring 2).at1 (o := 3) (vs := [(vs F9.i4)]) (nb rfl) rfl)) ?_
  refine a7 (H8 _ _ _) ?_
  obtain ⟨d2E, c0y, g4d, g4e⟩ := h
  refine p9 (J := fun n l w => ∃ (s : Int × (List Int)) (H : Hp) (a7u : Sl) (Fcp1000l6 : Frag) , n = c0y s ∧ l = (match s with | (a4B, a1r) => [(vi a4B)]) ∧ (match s with | (a4B, a1r) => RowL 5 1 g8 a7u a1r Fcp1000l6) ∧ (match s with | (a4B, a1r) => Inv w0 ps0 H0 H [bx g1000 40 [(vs a7u)], bx a8w 88 (d6 F9), bx g1 115 [(Value.func (.func 68) #[] #[(Value.pointer (some ⟨g1000, 0, none⟩))])], bx g2 108 [(Value.func (.func 70) #[] #[(Value.pointer (some ⟨g1, 0, none⟩)), (Value.pointer (some ⟨g3, 0, none⟩)), (Value.pointer (some ⟨g2, 0, none⟩))])], bx g3 103 [(Value.func (.func 69) #[] #[(Value.pointer (some ⟨g1, 0, none⟩)), (Value.pointer (some ⟨g3, 0, none⟩))])], bx g4 116 [(Value.func (.func 71) #[] #[(Value.pointer (some ⟨g1, 0, none⟩)), (Value.pointer (some ⟨g2, 0, none⟩)), (Value.pointer (some ⟨g3, 0, none⟩)), (Value.pointer (some ⟨g4, 0, none⟩))])], Fcp1000l6] w) ∧ d2E s H) ⟨_, (0, y0__207), d2t, sy0__207, Fy0__207, rfl, rfl, hy0__207, (((((((e0z.bring 1).bring 6).bring 6).bring 6).bring 6).bring 6).bring 6), g4d⟩ ?_
  rintro h0G τ_355 w next6 ⟨⟨a4B, a1r⟩, H, a7u, Fcp1000l6, rfl, d2F, b6G, I, g4f⟩ hn6
  dsimp only at d2F I b6G
  simp only [List.map_cons, List.map_nil, List.cons.injEq, and_true] at d2F
  have e40 := d2F
  simp only [e40]
  obtain ⟨n6, hm6, h⟩ : ∃ n6 : (Int × (List Int)) → Hp → Prop, (∀ s' H', n6 s' H' → d2E s' H' ∧ c0y s' < c0y (a4B, a1r)) ∧ Q7 x0 (x0.n : Int) a0L F9.i4 (F9.i4.n : Int) F9 a4B a1r H n1 n6 K := ⟨_, fun _ _ h => h, g4e (a4B, a1r) H (fun s' H' => d2E s' H' ∧ c0y s' < c0y (a4B, a1r)) g4f (fun _ _ a b => ⟨a, b⟩)⟩
  unfold d5j
  unfold Q7 at h
  refine a7 (o2 _ _ _ _ _ _) ?_
  refine g6 (fun d2G => ?_) (fun d2G => ?_)
  ·replace h := h.1 d2G
   obtain ⟨g4g, g4h, b2u, d2H, h⟩ := h
   obtain ⟨h0H, h0I, g4i, d2H⟩ := d2H
   refine a7 (a4N g4i _ _ _ _ g4g g4h) ?_
   refine c5 (ldA (vs := (f5 b2u)) Tryd.isAgg33 Tryd.sizeOf33 rfl (I.atH d2H)) ?_
   refine G4 I Tryd.zeroValue33 (cs := [(vi 0), (vi 0), (Value.slice none 0 0), (Value.slice none 0 0)]) rfl fun g4j h0J g4k h0K => ?_
   refine p7 g4k Tryd.sizeOf33 (vs := (f5 b2u)) (cs' := (f5 b2u)) rfl rfl (nb rfl) rfl rfl fun h0L d2I h0M => ?_
   refine c5 (ld1 Tryd.isAgg108 ((d2I.bring 4).at1 (o := 0) (vs := [(Value.func (.func 70) #[] #[(Value.pointer (some ⟨g1, 0, none⟩)), (Value.pointer (some ⟨g3, 0, none⟩)), (Value.pointer (some ⟨g2, 0, none⟩))])]) (nb rfl) rfl)) ?_
   refine c5 (ldA Tryd.isAgg33 Tryd.sizeOf33 rfl (d2I.at1 (o := 0) (vs := (f5 b2u)) (nb rfl) rfl)) ?_
   refine f6 (cap := [(Value.pointer (some ⟨g1, 0, none⟩)), (Value.pointer (some ⟨g3, 0, none⟩)), (Value.pointer (some ⟨g2, 0, none⟩))]) (fun args w => Tryd.call70 args w) ?_
   refine i6 (Fi := [bx g1 115 [(Value.func (.func 68) #[] #[(Value.pointer (some ⟨g1000, 0, none⟩))])], bx g3 103 [(Value.func (.func 69) #[] #[(Value.pointer (some ⟨g1, 0, none⟩)), (Value.pointer (some ⟨g3, 0, none⟩))])], bx g2 108 [(Value.func (.func 70) #[] #[(Value.pointer (some ⟨g1, 0, none⟩)), (Value.pointer (some ⟨g3, 0, none⟩)), (Value.pointer (some ⟨g2, 0, none⟩))])], bx g1000 40 [(vs a7u)], Fcp1000l6]) (Fr := [bx g4j 33 (f5 b2u), bx a8w 88 (d6 F9), bx g4 116 [(Value.func (.func 71) #[] #[(Value.pointer (some ⟨g1, 0, none⟩)), (Value.pointer (some ⟨g2, 0, none⟩)), (Value.pointer (some ⟨g3, 0, none⟩)), (Value.pointer (some ⟨g4, 0, none⟩))])]]) (((((d2I.bring 7).bring 2).bring 5).bring 6).bring 6) (h g1 g3 g2 g1000 a7u Fcp1000l6 b6G) (fun h0N d2q h0O h0P g4l h0Q h0R g4m => ?_) (fun _ _ _ _ _ q => q.elim)
   obtain ⟨g8m, y0__348, sy0__348, Fy0__348, rfl, rfl, hy0__348, h⟩ := g4m
   refine a7 (m4 _ _ _ _ _ _) ?_
   exact hn6 _ _ _ (hm6 _ _ h).2 ⟨((IntKind.wrap .i64 (a4B + 1)), y0__348), d2q, sy0__348, Fy0__348, rfl, rfl, hy0__348, ((((((((g4l.bring 5).drop.bring 4).bring 6).bring 3).bring 4).bring 4).bring 6).bring 6), (hm6 _ _ h).1⟩
  ·replace h := h.2 d2G
   exact hx3 _ _ (hj3 a1r a7u Fcp1000l6 H _ b6G (((((((I.bring 6).bring 6).bring 6).bring 6).bring 6).bring 6).bring 6) h)
 ·replace h := h.2 d2w
  exact hR (Sl.mk none 0 0) C6 a0C Fcp1000l1 H _ a5V ((((((I.bring 5).bring 5).bring 5).bring 5).bring 5).bring 5) h
theorem b2c (x0 : Sl) (x1000 : Sl) (x1000_ : (List Int)) {H : Hp} {K : Sl → (List Int) → Hp → Prop} (h : a1F x0 x1000 x1000_ H K) : Y2 x0 x1000 x1000_ H K := by
 intro g1 g2 g3 g4 g1000 sx1000_ Fx1000_ hx1000_ w I
 refine f7x ?_
 refine b1P x0 x1000 x1000_ g1 g2 g3 g4 g1000 sx1000_ Fx1000_ hx1000_ I (fun y0 y0_ sy0_ Fy0_ H' w' khy0_ I' hk => ⟨H', _, I', y0, y0_, sy0_, Fy0_, rfl, rfl, khy0_, hk⟩) h
def a1j (ccr_15j1 : (List Int)) (cr_1j1 : k5) (H : Hp) (K : Sl → Int → Hp → Prop) : Prop :=
 Y2 cr_1j1.a0V (Sl.mk none 0 0) ccr_15j1 H (fun (_y0_84 : Sl) (y0__84 : (List Int)) (f8R : Hp) =>
 ∀ (sy0__84 : Sl) (c1L : Hp), Hle f8R c1L → SlH c1L 1 g8 sy0__84 y0__84 → sy0__84.n ≤ sy0__84.c →
 K sy0__84 0 c1L)
def a1k (e0A : Sl) (e0B : Int) (cr_1l2 : k5) (a4C : Int) (ccr_15l2 : (List Int)) (H : Hp) (n2 : (Int × (List Int)) → Hp → Prop) (K : Sl → Int → Hp → Prop) : Prop :=
 (a4C < e0B →
 (0 : Int) ≤ a4C ∧ (a4C : Int) < e0A.n ∧ ∃ b2O : E8, EltH H e0A a4C 2 (p5 b2O) ∧
 N6 68 0 b2O.I8 b2O.k9 (J0.mk 0 0 0 0) (Sl.mk none 0 0) ccr_15l2 H (fun (_y0_122 : Sl) (y0__122 : (List Int)) (d2J : Hp) =>
 n2 ((IntKind.wrap .i64 (a4C + 1)), y0__122) d2J)) ∧
 (¬ (a4C < e0B) →
 a1j ccr_15l2 cr_1l2 H K)
def a2y (x0 : k5) (H : Hp) (K : Sl → Int → Hp → Prop) : Prop :=
 a5A x0 H (fun (o9 : Int) (H_6 : Hp) =>
 (¬ (o9 = 0) →
 K (Sl.mk none 0 0) o9 H_6) ∧
 (o9 = 0 →
 TL ((0, []) : Int × (List Int)) H_6 fun (s : Int × (List Int)) H n2 => a1k x0.D3 (x0.D3.n : Int) x0 s.1 s.2 H n2 K))
theorem b2P (x0 : k5) {w0 w : World} {ps0 : Nat → Prop} {H0 H : Hp} {K : Sl → Int → Hp → Prop} {R : Value → World → Prop} {E : Pan} (I : Inv w0 ps0 H0 H [] w) (hR : ∀ (r0 : Sl) (r1 : Int) (H' : Hp) (w' : World) (_ : Inv w0 ps0 H0 H' [] w') (_ : K r0 r1 H'), R (Value.tuple #[(vs r0), (vi r1)]) w') (h : a2y x0 H K) : F31 (Value.agg (f9 x0).toArray) w R E := by
 unfold a2y at h
 unfold F31
 refine J4 I (cs := (f9 x0)) rfl fun g_2 w_3 I_4 k_5 => ?_
 refine c5 (ldA Tryd.isAgg25 Tryd.sizeOf25 rfl (I_4.at1 (o := 0) (vs := (f9 x0)) (nb rfl) rfl)) ?_
 refine f6 (cap := []) (fun args w => Tryd.call27 args w) ?_
 refine i6 (Fi := []) (Fr := [bx g_2 25 (f9 x0)]) I_4 (h) (fun a5D H_6 a5E w_7 I_8 a4J k_9 R3 => ?_) (fun _ _ _ _ _ q => q.elim)
 obtain ⟨o9, rfl, rfl, h⟩ := R3
 refine a7 (F6 _ _ _ _ _ _) ?_
 refine a8O (fun d2K => ?_) (fun d2K => ?_)
 ·replace h := h.1 d2K
  exact hR (Sl.mk none 0 0) o9 H_6 _ I_8.drop h
 ·replace h := h.2 d2K
  refine G4 I_8 Tryd.zeroValue40 (cs := [(Value.slice none 0 0)]) rfl fun a2F a4G a3s b7R => ?_
  refine a7 (a5s _ _ _) ?_
  refine G4 a3s Tryd.zeroValue115 (cs := [Value.nilFunc]) rfl fun a2G r6 g6W h2O => ?_
  refine p7 g6W Tryd.sizeOf115 (vs := [(Value.func (.func 68) #[] #[(Value.pointer (some ⟨a2F, 0, none⟩))])]) (cs' := [(Value.func (.func 68) #[] #[(Value.pointer (some ⟨a2F, 0, none⟩))])]) rfl rfl (nb rfl) rfl rfl fun a4F b4G d8N => ?_
  refine G4 b4G Tryd.zeroValue103 (cs := [Value.nilFunc]) rfl fun a0R z6 b7V d6g => ?_
  refine a7 (a5s _ _ _) ?_
  refine p7 b7V Tryd.sizeOf103 (vs := [(Value.func (.func 69) #[] #[(Value.pointer (some ⟨a2G, 0, none⟩)), (Value.pointer (some ⟨a0R, 0, none⟩))])]) (cs' := [(Value.func (.func 69) #[] #[(Value.pointer (some ⟨a2G, 0, none⟩)), (Value.pointer (some ⟨a0R, 0, none⟩))])]) rfl rfl (nb rfl) rfl rfl fun c9a b7W g6X => ?_
  refine G4 b7W Tryd.zeroValue108 (cs := [Value.nilFunc]) rfl fun a5j w3 c1C d8p => ?_
  refine a7 (a5s _ _ _) ?_
  refine p7 c1C Tryd.sizeOf108 (vs := [(Value.func (.func 70) #[] #[(Value.pointer (some ⟨a2G, 0, none⟩)), (Value.pointer (some ⟨a0R, 0, none⟩)), (Value.pointer (some ⟨a5j, 0, none⟩))])]) (cs' := [(Value.func (.func 70) #[] #[(Value.pointer (some ⟨a2G, 0, none⟩)), (Value.pointer (some ⟨a0R, 0, none⟩)), (Value.pointer (some ⟨a5j, 0, none⟩))])]) rfl rfl (nb rfl) rfl rfl fun b7G c1M f8S => ?_
  refine G4 c1M Tryd.zeroValue116 (cs := [Value.nilFunc]) rfl fun a8x D4 d9d g6K => ?_
  refine a7 (a5s _ _ _) ?_
  refine p7 d9d Tryd.sizeOf116 (vs := [(Value.func (.func 71) #[] #[(Value.pointer (some ⟨a2G, 0, none⟩)), (Value.pointer (some ⟨a5j, 0, none⟩)), (Value.pointer (some ⟨a0R, 0, none⟩)), (Value.pointer (some ⟨a8x, 0, none⟩))])]) (cs' := [(Value.func (.func 71) #[] #[(Value.pointer (some ⟨a2G, 0, none⟩)), (Value.pointer (some ⟨a5j, 0, none⟩)), (Value.pointer (some ⟨a0R, 0, none⟩)), (Value.pointer (some ⟨a8x, 0, none⟩))])]) rfl rfl (nb rfl) rfl rfl fun c3u c1N g6Y => ?_
  have hj1 : ∀ (ccr_15j1 : (List Int)) (scr_15j1 : Sl) (Fcr_15j1 : Frag) (H : Hp) (w : World) (_ : RowL 5 1 g8 scr_15j1 ccr_15j1 Fcr_15j1) (_ : Inv w0 ps0 H0 H [bx a8x 116 [(Value.func (.func 71) #[] #[(Value.pointer (some ⟨a2G, 0, none⟩)), (Value.pointer (some ⟨a5j, 0, none⟩)), (Value.pointer (some ⟨a0R, 0, none⟩)), (Value.pointer (some ⟨a8x, 0, none⟩))])], bx a5j 108 [(Value.func (.func 70) #[] #[(Value.pointer (some ⟨a2G, 0, none⟩)), (Value.pointer (some ⟨a0R, 0, none⟩)), (Value.pointer (some ⟨a5j, 0, none⟩))])], bx a0R 103 [(Value.func (.func 69) #[] #[(Value.pointer (some ⟨a2G, 0, none⟩)), (Value.pointer (some ⟨a0R, 0, none⟩))])], bx a2G 115 [(Value.func (.func 68) #[] #[(Value.pointer (some ⟨a2F, 0, none⟩))])], bx a2F 40 [(vs scr_15j1)], bx g_2 25 (f9 x0), Fcr_15j1] w) (_ : a1j ccr_15j1 x0 H K), c6K (Value.pointer (some ⟨g_2, 0, none⟩)) (Value.pointer (some ⟨a2F, 0, none⟩)) (Value.pointer (some ⟨a8x, 0, none⟩)) w R E := by
   intro ccr_15j1 scr_15j1 Fcr_15j1 H w hcr_15j1 I h
   unfold c6K
   intro _
   unfold a1j at h
   refine c5 (ld1 Tryd.isAgg116 (I.at1 (o := 0) (vs := [(Value.func (.func 71) #[] #[(Value.pointer (some ⟨a2G, 0, none⟩)), (Value.pointer (some ⟨a5j, 0, none⟩)), (Value.pointer (some ⟨a0R, 0, none⟩)), (Value.pointer (some ⟨a8x, 0, none⟩))])]) (nb rfl) rfl)) ?_
   refine a7 a4M ?_
   refine c5 (ld1 Tryd.isAgg23 ((I.bring 5).at1 (o := 1) (vs := [(vs x0.a0V)]) (nb rfl) rfl)) ?_
   refine f6 (cap := [(Value.pointer (some ⟨a2G, 0, none⟩)), (Value.pointer (some ⟨a5j, 0, none⟩)), (Value.pointer (some ⟨a0R, 0, none⟩)), (Value.pointer (some ⟨a8x, 0, none⟩))]) (fun args w => Tryd.call71 args w) ?_
   refine i6 (Fi := [bx a2G 115 [(Value.func (.func 68) #[] #[(Value.pointer (some ⟨a2F, 0, none⟩))])], bx a5j 108 [(Value.func (.func 70) #[] #[(Value.pointer (some ⟨a2G, 0, none⟩)), (Value.pointer (some ⟨a0R, 0, none⟩)), (Value.pointer (some ⟨a5j, 0, none⟩))])], bx a0R 103 [(Value.func (.func 69) #[] #[(Value.pointer (some ⟨a2G, 0, none⟩)), (Value.pointer (some ⟨a0R, 0, none⟩))])], bx a8x 116 [(Value.func (.func 71) #[] #[(Value.pointer (some ⟨a2G, 0, none⟩)), (Value.pointer (some ⟨a5j, 0, none⟩)), (Value.pointer (some ⟨a0R, 0, none⟩)), (Value.pointer (some ⟨a8x, 0, none⟩))])], bx a2F 40 [(vs scr_15j1)], Fcr_15j1]) (Fr := [bx g_2 25 (f9 x0)]) ((((((I.bring 6).bring 5).bring 2).bring 4).bring 4).bring 5) (h a2G a5j a0R a8x a2F scr_15j1 Fcr_15j1 hcr_15j1) (fun h2P f8R h2Q g6Z f8T h2R h2S g7a => ?_) (fun _ _ _ _ _ q => q.elim)
   obtain ⟨h0S, y0__84, sy0__84, Fy0__84, rfl, rfl, hy0__84, h⟩ := g7a
   refine c5 (ld1 Tryd.isAgg40 ((f8T.bring 4).at1 (o := 0) (vs := [(vs sy0__84)]) (nb rfl) rfl)) ?_
   obtain ⟨c1L, g7b, f5w, d8G, d8I⟩ := Inv.freezeC (f8T.bring 5) hy0__84 (by decide)
   replace h := h sy0__84 c1L f5w d8G d8I
   exact hR sy0__84 0 c1L _ g7b.drop.drop.drop.drop.drop.drop h
  refine m6 fun j1 hx1 => ?_
  refine a7 R5 ?_
  refine c5 (ld1 Tryd.isAgg22 ((c1N.bring 5).at1 (o := 0) (vs := [(vs x0.D3)]) (nb rfl) rfl)) ?_
  refine a7 (a9x _ _ _) ?_
  obtain ⟨d2L, c0z, g4n, g4o⟩ := h
  refine p9 (J := fun n l w => ∃ (s : Int × (List Int)) (H : Hp) (scr_15l2 : Sl) (Fcr_15l2 : Frag) , n = c0z s ∧ l = (match s with | (a4C, ccr_15l2) => [(vi a4C)]) ∧ (match s with | (a4C, ccr_15l2) => RowL 5 1 g8 scr_15l2 ccr_15l2 Fcr_15l2) ∧ (match s with | (a4C, ccr_15l2) => Inv w0 ps0 H0 H [bx a8x 116 [(Value.func (.func 71) #[] #[(Value.pointer (some ⟨a2G, 0, none⟩)), (Value.pointer (some ⟨a5j, 0, none⟩)), (Value.pointer (some ⟨a0R, 0, none⟩)), (Value.pointer (some ⟨a8x, 0, none⟩))])], bx a5j 108 [(Value.func (.func 70) #[] #[(Value.pointer (some ⟨a2G, 0, none⟩)), (Value.pointer (some ⟨a0R, 0, none⟩)), (Value.pointer (some ⟨a5j, 0, none⟩))])], bx a0R 103 [(Value.func (.func 69) #[] #[(Value.pointer (some ⟨a2G, 0, none⟩)), (Value.pointer (some ⟨a0R, 0, none⟩))])], bx a2G 115 [(Value.func (.func 68) #[] #[(Value.pointer (some ⟨a2F, 0, none⟩))])], bx a2F 40 [(vs scr_15l2)], bx g_2 25 (f9 x0), Fcr_15l2] w) ∧ d2L s H) ⟨_, (0, []), H_6, (Sl.mk none 0 0), [], rfl, rfl, (RowL.nil a0W a0X), ((((((c1N.nil.bring 6).bring 6).bring 6).bring 6).bring 6).bring 6), g4n⟩ ?_
  rintro h0T τ_129 w next2 ⟨⟨a4C, ccr_15l2⟩, H, scr_15l2, Fcr_15l2, rfl, d2M, hcr_15l2, I, g4p⟩ hn2
  dsimp only at d2M I hcr_15l2
  simp only [List.map_cons, List.map_nil, List.cons.injEq, and_true] at d2M
  have e24 := d2M
  simp only [e24]
  obtain ⟨n2, hm2, h⟩ : ∃ n2 : (Int × (List Int)) → Hp → Prop, (∀ s' H', n2 s' H' → d2L s' H' ∧ c0z s' < c0z (a4C, ccr_15l2)) ∧ a1k x0.D3 (x0.D3.n : Int) x0 a4C ccr_15l2 H n2 K := ⟨_, fun _ _ h => h, g4o (a4C, ccr_15l2) H (fun s' H' => d2L s' H' ∧ c0z s' < c0z (a4C, ccr_15l2)) g4p (fun _ _ a b => ⟨a, b⟩)⟩
  unfold d4W
  unfold a1k at h
  refine a7 (o2 _ _ _ _ _ _) ?_
  refine g6 (fun d2N => ?_) (fun d2N => ?_)
  ·replace h := h.1 d2N
   obtain ⟨d1U, d1V, b2O, d2O, h⟩ := h
   obtain ⟨h0U, h0V, c0k, d2O⟩ := d2O
   refine a7 (a3h c0k _ _ _ _ d1U d1V) ?_
   refine c5 (ldA (vs := (p5 b2O)) Tryd.isAgg67 Tryd.sizeOf67 rfl (I.atH d2O)) ?_
   refine G4 I Tryd.zeroValue67 (cs := [(Value.string ⟨#[]⟩), (vi 0)]) rfl fun g4q a2M g4r h0W => ?_
   refine p7 g4r Tryd.sizeOf67 (vs := (p5 b2O)) (cs' := (p5 b2O)) rfl rfl (nb rfl) rfl rfl fun g3g b7k g3h => ?_
   refine c5 (ld1 Tryd.isAgg115 ((b7k.bring 4).at1 (o := 0) (vs := [(Value.func (.func 68) #[] #[(Value.pointer (some ⟨a2F, 0, none⟩))])]) (nb rfl) rfl)) ?_
   refine a7 Z6 ?_
   refine c5 (ld1 Tryd.isAgg3 (b7k.at1 (o := 1) (vs := [(vi b2O.I8)]) (nb rfl) rfl)) ?_
   refine a7 b0d ?_
   refine c5 (ld1 Tryd.isAgg9 (b7k.at1 (o := 0) (vs := [(Value.string b2O.k9)]) (nb rfl) rfl)) ?_
   refine a7 (b8X) ?_
   refine f6 (cap := [(Value.pointer (some ⟨a2F, 0, none⟩))]) (fun args w => Tryd.call68 args w) ?_
   refine i6 (Fi := [bx a2F 40 [(vs scr_15l2)], Fcr_15l2]) (Fr := [bx g4q 67 (p5 b2O), bx a8x 116 [(Value.func (.func 71) #[] #[(Value.pointer (some ⟨a2G, 0, none⟩)), (Value.pointer (some ⟨a5j, 0, none⟩)), (Value.pointer (some ⟨a0R, 0, none⟩)), (Value.pointer (some ⟨a8x, 0, none⟩))])], bx a5j 108 [(Value.func (.func 70) #[] #[(Value.pointer (some ⟨a2G, 0, none⟩)), (Value.pointer (some ⟨a0R, 0, none⟩)), (Value.pointer (some ⟨a5j, 0, none⟩))])], bx a0R 103 [(Value.func (.func 69) #[] #[(Value.pointer (some ⟨a2G, 0, none⟩)), (Value.pointer (some ⟨a0R, 0, none⟩))])], bx a2G 115 [(Value.func (.func 68) #[] #[(Value.pointer (some ⟨a2F, 0, none⟩))])], bx g_2 25 (f9 x0)]) ((b7k.bring 7).bring 6) (h a2F scr_15l2 Fcr_15l2 hcr_15l2) (fun h0X d2J h0Y h0Z g4s b2p h1a g4t => ?_) (fun _ _ _ _ _ q => q.elim)
   obtain ⟨g8n, y0__122, sy0__122, Fy0__122, rfl, rfl, hy0__122, h⟩ := g4t
   refine a7 (m4 _ _ _ _ _ _) ?_
   exact hn2 _ _ _ (hm2 _ _ h).2 ⟨((IntKind.wrap .i64 (a4C + 1)), y0__122), d2J, sy0__122, Fy0__122, rfl, rfl, hy0__122, ((((((((g4s.bring 2).drop.bring 1).bring 6).bring 2).bring 6).bring 6).bring 6).bring 6), (hm2 _ _ h).1⟩
  ·replace h := h.2 d2N
   exact hx1 _ _ (hj1 ccr_15l2 scr_15l2 Fcr_15l2 H _ hcr_15l2 (((((((I.bring 6).bring 6).bring 6).bring 6).bring 6).bring 6).bring 6) h)
theorem b3u (x0 : k5) {H : Hp} {K : Sl → Int → Hp → Prop} (h : a2y x0 H K) : a2t x0 H K := by
 intro w I
 refine f6b ?_
 refine b2P x0 I (fun r0 r1 H' w' I' hk => ⟨H', _, I', r0, r1, rfl, rfl, hk⟩) h
def W8 (a6h : (List Int)) (_cr_1j3 : J0) (H : Hp) (K : (List Int) → Hp → Prop) : Prop :=
 K a6h H
def W9 (cr_1l4 : J0) (U3 : (List Int)) (a2z : Int) (H : Hp) (n4 : ((List Int) × Int) → Hp → Prop) (K : (List Int) → Hp → Prop) : Prop :=
 (a2z < 4 →
 (0 : Int) ≤ a2z ∧ (a2z : Int) < 4 ∧
 (256 : Int) ≠ 0 ∧
 (U3.length + ([IntKind.wrap .u8 (Int.tmod (([cr_1l4.f0, cr_1l4.f1, cr_1l4.f2, cr_1l4.f3] : List Int).getD (a2z : Int).toNat 0) 256)] : List Int).length) * 2 ≤ 140737488355328 ∧
 n4 ((U3 ++ [IntKind.wrap .u8 (Int.tmod (([cr_1l4.f0, cr_1l4.f1, cr_1l4.f2, cr_1l4.f3] : List Int).getD (a2z : Int).toNat 0) 256)]), (IntKind.wrap .i64 (a2z + 1))) H) ∧
 (¬ (a2z < 4) →
 W8 U3 cr_1l4 H K)
def X0 (a5k : (List Int)) (cr_1j2 : J0) (H : Hp) (K : (List Int) → Hp → Prop) : Prop :=
 (a5k.length + ([0] : List Int).length) * 2 ≤ 140737488355328 ∧
 TL (((a5k ++ [0]), 0) : (List Int) × Int) H fun (s : (List Int) × Int) H n4 => W9 cr_1j2 s.1 s.2 H n4 K
def X1 (c7p : ByteArray) (cr_1l5 : J0) (a5l : (List Int)) (a1Z : Int) (H : Hp) (n5 : ((List Int) × Int) → Hp → Prop) (K : (List Int) → Hp → Prop) : Prop :=
 (a1Z < (c7p.size : Int) →
 (0 : Int) ≤ a1Z ∧ a1Z < (c7p.size : Int) ∧
 (a5l.length + ([((c7p.get! (a1Z : Int).toNat).toNat : Int)] : List Int).length) * 2 ≤ 140737488355328 ∧
 n5 ((a5l ++ [((c7p.get! (a1Z : Int).toNat).toNat : Int)]), (IntKind.wrap .i64 (a1Z + 1))) H) ∧
 (¬ (a1Z < (c7p.size : Int)) →
 X0 a5l cr_1l5 H K)
def X2 (X3 : (List Int)) (m0 : ByteArray) (cr_1j1 : J0) (H : Hp) (K : (List Int) → Hp → Prop) : Prop :=
 TL ((X3, 0) : (List Int) × Int) H fun (s : (List Int) × Int) H n5 => X1 m0 cr_1j1 s.1 s.2 H n5 K
def X4 (f8U : Int) (g7c : ByteArray) (cr_1l6 : J0) (U4 : (List Int)) (a2x : Int) (H : Hp) (n6 : ((List Int) × Int) → Hp → Prop) (K : (List Int) → Hp → Prop) : Prop :=
 (0 ≤ a2x →
 (0 : Int) ≤ IntKind.wrap .i64 (8 * a2x) ∧
 (U4.length + ([IntKind.wrap .u8 (shrI .u64 f8U (IntKind.wrap .i64 (8 * a2x)))] : List Int).length) * 2 ≤ 140737488355328 ∧
 n6 ((U4 ++ [IntKind.wrap .u8 (shrI .u64 f8U (IntKind.wrap .i64 (8 * a2x)))]), (IntKind.wrap .i64 (a2x - 1))) H) ∧
 (¬ (0 ≤ a2x) →
 X2 U4 g7c cr_1l6 H K)
def a0M (x0 : (List Int)) (x1 : Int) (x2 : Int) (x3 : Int) (x4 : ByteArray) (x5 : J0) (H : Hp) (K : (List Int) → Hp → Prop) : Prop :=
 (x0.length + ([x1, IntKind.wrap .u8 x2] : List Int).length) * 2 ≤ 140737488355328 ∧
 TL (((x0 ++ [x1, IntKind.wrap .u8 x2]), 7) : (List Int) × Int) H fun (s : (List Int) × Int) H n6 => X4 x3 x4 x5 s.1 s.2 H n6 K
theorem a9X (x0 : (List Int)) (x1 : Int) (x2 : Int) (x3 : Int) (x4 : ByteArray) (x5 : J0) (sx0 : Sl) (Fx0 : Frag) (hx0 : RowL 5 1 g8 sx0 x0 Fx0) {w0 w : World} {ps0 : Nat → Prop} {H0 H : Hp} {K : (List Int) → Hp → Prop} {R : Value → World → Prop} {E : Pan} (I : Inv w0 ps0 H0 H [Fx0] w) (hR : ∀ (r0 : (List Int)) (sr0 : Sl) (Fr0 : Frag) (H' : Hp) (w' : World) (_ : RowL 5 1 g8 sr0 r0 Fr0) (_ : Inv w0 ps0 H0 H' [Fr0] w') (_ : K r0 H'), R (vs sr0) w') (h : a0M x0 x1 x2 x3 x4 x5 H K) : F72 (vs sx0) (Value.int .u8 x1) (vi x2) (Value.int .u64 x3) (Value.string x4) (Value.agg #[(vi x5.f0), (vi x5.f1), (vi x5.f2), (vi x5.f3)]) w R E := by
 unfold a0M at h
 unfold F72
 refine J4 I (cs := [(vi x5.f0), (vi x5.f1), (vi x5.f2), (vi x5.f3)]) rfl fun g_2 w_3 I_4 k_5 => ?_
 refine a7 (b2e _ _) ?_
 refine a5y (e := 5) (c := g8) (xs := [x1, IntKind.wrap .u8 x2]) I_4 (c8d _ _) rfl rfl a0W a0X (nb rfl) fun s_7 F_8 w_9 c6o a3q b3R => ?_
 obtain ⟨b8L, h⟩ := h
 refine a7x (s := sx0) (xs := x0) (a3q.bring 2) hx0 (c6o.srcO ((a3q.bring 2).bring 1)) b8L fun c7j c9J a4D d9c a8i c1p => ?_
 have hj1 : ∀ (X3 : (List Int)) (a3d : Sl) (Fs0j1 : Frag) (H : Hp) (w : World) (_ : RowL 5 1 g8 a3d X3 Fs0j1) (_ : Inv w0 ps0 H0 H [bx g_2 114 [(vi x5.f0), (vi x5.f1), (vi x5.f2), (vi x5.f3)], Fs0j1] w) (_ : X2 X3 x4 x5 H K), c7c (vs a3d) (Value.string x4) (Value.pointer (some ⟨g_2, 0, none⟩)) w R E := by
  intro X3 a3d Fs0j1 H w b4K I h
  unfold c7c
  intro _
  unfold X2 at h
  have hj2 : ∀ (a5k : (List Int)) (b0u : Sl) (Fs0j2 : Frag) (H : Hp) (w : World) (_ : RowL 5 1 g8 b0u a5k Fs0j2) (_ : Inv w0 ps0 H0 H [bx g_2 114 [(vi x5.f0), (vi x5.f1), (vi x5.f2), (vi x5.f3)], Fs0j2] w) (_ : X0 a5k x5 H K), c6Z (vs b0u) (Value.pointer (some ⟨g_2, 0, none⟩)) w R E := by
   intro a5k b0u Fs0j2 H w d2P I h
   unfold c6Z
   intro _
   unfold X0 at h
   refine a5y (e := 5) (c := g8) (xs := [0]) I (a7h _) rfl rfl a0W a0X (nb rfl) fun b5Y g7d I9 b8G c5a h2T => ?_
   obtain ⟨g7e, h⟩ := h
   refine a7x (s := b0u) (xs := a5k) (c5a.bring 2) d2P (b8G.srcO ((c5a.bring 2).bring 1)) g7e fun g7f g7g J1 c5i c1O d9i => ?_
   have hj3 : ∀ (a6h : (List Int)) (b0v : Sl) (Fs0j3 : Frag) (H : Hp) (w : World) (_ : RowL 5 1 g8 b0v a6h Fs0j3) (_ : Inv w0 ps0 H0 H [bx g_2 114 [(vi x5.f0), (vi x5.f1), (vi x5.f2), (vi x5.f3)], Fs0j3] w) (_ : W8 a6h x5 H K), c6Y (vs b0v) w R E := by
    intro a6h b0v Fs0j3 H w d2Q I h
    unfold c6Y
    intro _
    unfold W8 at h
    exact hR a6h b0v Fs0j3 H _ d2Q I.drop h
   refine m6 fun j3 hx3 => ?_
   obtain ⟨d9j, c7q, g7h, g7i⟩ := h
   refine p9 (J := fun n l w => ∃ (s : (List Int) × Int) (H : Hp) (a8y : Sl) (Fs0l4 : Frag) , n = c7q s ∧ l = (match s with | (U3, a2z) => [(vs a8y), (vi a2z)]) ∧ (match s with | (U3, a2z) => RowL 5 1 g8 a8y U3 Fs0l4) ∧ (match s with | (U3, a2z) => Inv w0 ps0 H0 H [bx g_2 114 [(vi x5.f0), (vi x5.f1), (vi x5.f2), (vi x5.f3)], Fs0l4] w) ∧ d9j s H) ⟨_, ((a5k ++ [0]), 0), H, g7f, g7g, rfl, rfl, c5i, ((c1O.bring 1).drop.bring 1), g7h⟩ ?_
   rintro h2U τ_88 w next4 ⟨⟨U3, a2z⟩, H, a8y, Fs0l4, rfl, d9k, b4L, I, g7j⟩ hn4
   dsimp only at d9k I b4L
   simp only [List.map_cons, List.map_nil, List.cons.injEq, and_true] at d9k
   obtain ⟨e0, e15⟩ := d9k
   simp only [e0, e15]
   obtain ⟨n4, hm4, h⟩ : ∃ n4 : ((List Int) × Int) → Hp → Prop, (∀ s' H', n4 s' H' → d9j s' H' ∧ c7q s' < c7q (U3, a2z)) ∧ W9 x5 U3 a2z H n4 K := ⟨_, fun _ _ h => h, g7i (U3, a2z) H (fun s' H' => d9j s' H' ∧ c7q s' < c7q (U3, a2z)) g7j (fun _ _ a b => ⟨a, b⟩)⟩
   unfold d5m
   unfold W9 at h
   refine a7 (o2 _ _ _ _ _ _) ?_
   refine g6 (fun b8u => ?_) (fun b8u => ?_)
   ·replace h := h.1 b8u
    obtain ⟨c9R, f8V, h⟩ := h
    refine a7 (c8X _ _ c9R f8V) ?_
    refine c5 (ld1 (v := (vi (([x5.f0, x5.f1, x5.f2, x5.f3] : List Int).getD (a2z : Int).toNat 0))) Tryd.isAgg3 (Inv.g4y (n := 4) (k := .i64) (l := [x5.f0, x5.f1, x5.f2, x5.f3]) I rfl rfl c9R f8V)) ?_
    obtain ⟨g7k, h⟩ := h
    refine a7 (e4L _ _ _ _ _ _ g7k) ?_
    refine a7 (b2e _ _) ?_
    refine a5y (e := 5) (c := g8) (xs := [IntKind.wrap .u8 (Int.tmod (([x5.f0, x5.f1, x5.f2, x5.f3] : List Int).getD (a2z : Int).toNat 0) 256)]) I (a7h _) rfl rfl a0W a0X (nb rfl) fun h2V h2W e6f g7l f8W h2X => ?_
    obtain ⟨g7m, h⟩ := h
    refine a7x (s := a8y) (xs := U3) (f8W.bring 2) b4L (g7l.srcO ((f8W.bring 2).bring 1)) g7m fun g7n g7o g6Z c7o g7p h2Y => ?_
    refine a7 (m4 _ _ _ _ _ _) ?_
    exact hn4 _ _ _ (hm4 _ _ h).2 ⟨((U3 ++ [IntKind.wrap .u8 (Int.tmod (([x5.f0, x5.f1, x5.f2, x5.f3] : List Int).getD (a2z : Int).toNat 0) 256)]), (IntKind.wrap .i64 (a2z + 1))), H, g7n, g7o, rfl, rfl, c7o, ((g7p.bring 1).drop.bring 1), (hm4 _ _ h).1⟩
   ·replace h := h.2 b8u
    exact hx3 _ _ (hj3 U3 a8y Fs0l4 H _ b4L ((I.bring 1).bring 1) h)
  refine m6 fun j2 hx2 => ?_
  obtain ⟨d9l, c7r, g7q, g7r⟩ := h
  refine p9 (J := fun n l w => ∃ (s : (List Int) × Int) (H : Hp) (c0A : Sl) (Fs0l5 : Frag) , n = c7r s ∧ l = (match s with | (a5l, a1Z) => [(vs c0A), (vi a1Z)]) ∧ (match s with | (a5l, a1Z) => RowL 5 1 g8 c0A a5l Fs0l5) ∧ (match s with | (a5l, a1Z) => Inv w0 ps0 H0 H [bx g_2 114 [(vi x5.f0), (vi x5.f1), (vi x5.f2), (vi x5.f3)], Fs0l5] w) ∧ d9l s H) ⟨_, (X3, 0), H, a3d, Fs0j1, rfl, rfl, b4K, ((I.bring 1).bring 1), g7q⟩ ?_
  rintro h2Z τ_97 w next5 ⟨⟨a5l, a1Z⟩, H, c0A, Fs0l5, rfl, d1e, d2R, I, g7s⟩ hn5
  dsimp only at d1e I d2R
  simp only [List.map_cons, List.map_nil, List.cons.injEq, and_true] at d1e
  obtain ⟨e0, e14⟩ := d1e
  simp only [e0, e14]
  obtain ⟨n5, hm5, h⟩ : ∃ n5 : ((List Int) × Int) → Hp → Prop, (∀ s' H', n5 s' H' → d9l s' H' ∧ c7r s' < c7r (a5l, a1Z)) ∧ X1 x4 x5 a5l a1Z H n5 K := ⟨_, fun _ _ h => h, g7r (a5l, a1Z) H (fun s' H' => d9l s' H' ∧ c7r s' < c7r (a5l, a1Z)) g7s (fun _ _ a b => ⟨a, b⟩)⟩
  unfold d5n
  unfold X1 at h
  refine a7 (a6F _) ?_
  refine a7 (o2 _ _ _ _ _ _) ?_
  refine g6 (fun b8A => ?_) (fun b8A => ?_)
  ·replace h := h.1 b8A
   obtain ⟨a8Y, b3V, h⟩ := h
   refine a7 (a5t _ _ _ a8Y b3V) ?_
   refine a5y (e := 5) (c := g8) (xs := [((x4.get! (a1Z : Int).toNat).toNat : Int)]) I (a7h _) rfl rfl a0W a0X (nb rfl) fun h3a g5j B8 g7t c1M f8S => ?_
   obtain ⟨g7u, h⟩ := h
   refine a7x (s := c0A) (xs := a5l) (c1M.bring 2) d2R (g7t.srcO ((c1M.bring 2).bring 1)) g7u fun g7v f8X D4 b8J c1E d8r => ?_
   refine a7 (m4 _ _ _ _ _ _) ?_
   exact hn5 _ _ _ (hm5 _ _ h).2 ⟨((a5l ++ [((x4.get! (a1Z : Int).toNat).toNat : Int)]), (IntKind.wrap .i64 (a1Z + 1))), H, g7v, f8X, rfl, rfl, b8J, ((c1E.bring 1).drop.bring 1), (hm5 _ _ h).1⟩
  ·replace h := h.2 b8A
   exact hx2 _ _ (hj2 a5l c0A Fs0l5 H _ d2R ((I.bring 1).bring 1) h)
 refine m6 fun j1 hx1 => ?_
 obtain ⟨b4D, a8s, d1b, d1c⟩ := h
 refine p9 (J := fun n l w => ∃ (s : (List Int) × Int) (H : Hp) (a8z : Sl) (Fs0l6 : Frag) , n = a8s s ∧ l = (match s with | (U4, a2x) => [(vs a8z), (vi a2x)]) ∧ (match s with | (U4, a2x) => RowL 5 1 g8 a8z U4 Fs0l6) ∧ (match s with | (U4, a2x) => Inv w0 ps0 H0 H [bx g_2 114 [(vi x5.f0), (vi x5.f1), (vi x5.f2), (vi x5.f3)], Fs0l6] w) ∧ b4D s H) ⟨_, ((x0 ++ [x1, IntKind.wrap .u8 x2]), 7), H, c7j, c9J, rfl, rfl, d9c, ((a8i.bring 1).drop.bring 1), d1b⟩ ?_
 rintro g1V τ_106 w next6 ⟨⟨U4, a2x⟩, H, a8z, Fs0l6, rfl, b4E, b4M, I, d1d⟩ hn6
 dsimp only at b4E I b4M
 simp only [List.map_cons, List.map_nil, List.cons.injEq, and_true] at b4E
 obtain ⟨e0, e13⟩ := b4E
 simp only [e0, e13]
 obtain ⟨n6, hm6, h⟩ : ∃ n6 : ((List Int) × Int) → Hp → Prop, (∀ s' H', n6 s' H' → b4D s' H' ∧ a8s s' < a8s (U4, a2x)) ∧ X4 x3 x4 x5 U4 a2x H n6 K := ⟨_, fun _ _ h => h, d1c (U4, a2x) H (fun s' H' => b4D s' H' ∧ a8s s' < a8s (U4, a2x)) d1d (fun _ _ a b => ⟨a, b⟩)⟩
 unfold d5o
 unfold X4 at h
 refine a7 (a0B _ _ _ _ _ _) ?_
 refine g6 (fun b4F => ?_) (fun b4F => ?_)
 ·replace h := h.1 b4F
  refine a7 (b5d _ _ _ _ _ _) ?_
  obtain ⟨b6H, h⟩ := h
  refine a7 (c8b _ _ _ _ _ _ _ b6H) ?_
  refine a7 (b8Z _ _) ?_
  refine a5y (e := 5) (c := g8) (xs := [IntKind.wrap .u8 (shrI .u64 x3 (IntKind.wrap .i64 (8 * a2x)))]) I (a7h _) rfl rfl a0W a0X (nb rfl) fun h3b h3c q6 c4H b4G d8N => ?_
  obtain ⟨c4I, h⟩ := h
  refine a7x (s := a8z) (xs := U4) (b4G.bring 2) b4M (c4H.srcO ((b4G.bring 2).bring 1)) c4I fun g7w f8Y z6 c7s g7x h3d => ?_
  refine a7 (a9w _ _ _ _ _ _) ?_
  exact hn6 _ _ _ (hm6 _ _ h).2 ⟨((U4 ++ [IntKind.wrap .u8 (shrI .u64 x3 (IntKind.wrap .i64 (8 * a2x)))]), (IntKind.wrap .i64 (a2x - 1))), H, g7w, f8Y, rfl, rfl, c7s, ((g7x.bring 1).drop.bring 1), (hm6 _ _ h).1⟩
 ·replace h := h.2 b4F
  exact hx1 _ _ (hj1 U4 a8z Fs0l6 H _ b4M ((I.bring 1).bring 1) h)
theorem b0w (x0 : (List Int)) (x1 : Int) (x2 : Int) (x3 : Int) (x4 : ByteArray) (x5 : J0) {H : Hp} {K : (List Int) → Hp → Prop} (h : a0M x0 x1 x2 x3 x4 x5 H K) : L8 x0 x1 x2 x3 x4 x5 H K := by
 intro sx0 Fx0 hx0 w I
 refine f7L ?_
 refine a9X x0 x1 x2 x3 x4 x5 sx0 Fx0 hx0 I (fun r0 sr0 Fr0 H' w' khr0 I' hk => ⟨H', _, I', r0, sr0, Fr0, rfl, rfl, khr0, hk⟩) h
def X5 (X3 : (List Int)) (_cr_1j1 : k6) (H : Hp) (K : (List Int) → Hp → Prop) : Prop :=
 K X3 H
def X6 (cr_1l2 : k6) (W1 : (List Int)) (C8 : Int) (H : Hp) (n2 : ((List Int) × Int) → Hp → Prop) (K : (List Int) → Hp → Prop) : Prop :=
 (C8 < (cr_1l2.o8.n : Int) →
 (0 : Int) ≤ C8 ∧ (C8 : Int) < cr_1l2.o8.n ∧ ∃ b4N : k6, EltH H cr_1l2.o8 C8 4 (d9 b4N) ∧
 S2 W1 b4N H (fun (a1b : (List Int)) (a5b : Hp) =>
 n2 (a1b, (IntKind.wrap .i64 (C8 + 1))) a5b)) ∧
 (¬ (C8 < (cr_1l2.o8.n : Int)) →
 X5 W1 cr_1l2 H K)
def a0N (x0 : (List Int)) (x1 : k6) (H : Hp) (K : (List Int) → Hp → Prop) : Prop :=
 L8 x0 69 x1.c6 (IntKind.wrap .u64 x1.J6) x1.k9 (J0.mk 0 (x1.o8.n : Int) 0 0) H (fun (o9 : (List Int)) (H_6 : Hp) =>
 TL ((o9, 0) : (List Int) × Int) H_6 fun (s : (List Int) × Int) H n2 => X6 x1 s.1 s.2 H n2 K)
theorem a9Y (x0 : (List Int)) (x1 : k6) (sx0 : Sl) (Fx0 : Frag) (hx0 : RowL 5 1 g8 sx0 x0 Fx0) {w0 w : World} {ps0 : Nat → Prop} {H0 H : Hp} {K : (List Int) → Hp → Prop} {R : Value → World → Prop} {E : Pan} (I : Inv w0 ps0 H0 H [Fx0] w) (hR : ∀ (r0 : (List Int)) (sr0 : Sl) (Fr0 : Frag) (H' : Hp) (w' : World) (_ : RowL 5 1 g8 sr0 r0 Fr0) (_ : Inv w0 ps0 H0 H' [Fr0] w') (_ : K r0 H'), R (vs sr0) w') (h : a0N x0 x1 H K) : d2f (vs sx0) (Value.agg (d9 x1).toArray) w R E := by
 unfold a0N at h
 unfold d2f
 refine J4 I (cs := (d9 x1)) rfl fun g_2 w_3 I_4 k_5 => ?_
 refine a7 K5 ?_
 refine c5 (ld1 Tryd.isAgg3 (I_4.at1 (o := 0) (vs := [(vi x1.c6)]) (nb rfl) rfl)) ?_
 refine a7 V7 ?_
 refine c5 (ld1 Tryd.isAgg2 (I_4.at1 (o := 1) (vs := [(vi x1.J6)]) (nb rfl) rfl)) ?_
 refine a7 (b8Y _ _) ?_
 refine a7 a3T ?_
 refine c5 (ld1 Tryd.isAgg9 (I_4.at1 (o := 2) (vs := [(Value.string x1.k9)]) (nb rfl) rfl)) ?_
 refine a7 R6 ?_
 refine c5 (ld1 Tryd.isAgg28 (I_4.at1 (o := 3) (vs := [(vs x1.o8)]) (nb rfl) rfl)) ?_
 refine a7 (v8 _ _ _) ?_
 refine a7 (a3U _ _ _ _) ?_
 refine f6 (cap := []) (fun args w => Tryd.call72 args w) ?_
 refine i6 (Fi := [Fx0]) (Fr := [bx g_2 30 (d9 x1)]) (I_4.bring 1) (h sx0 Fx0 hx0) (fun a5D H_6 a5E w_7 I_8 a4J k_9 R3 => ?_) (fun _ _ _ _ _ q => q.elim)
 obtain ⟨o9, c7t, c7u, rfl, rfl, c7v, h⟩ := R3
 have hj1 : ∀ (X3 : (List Int)) (a3d : Sl) (Fs0j1 : Frag) (H : Hp) (w : World) (_ : RowL 5 1 g8 a3d X3 Fs0j1) (_ : Inv w0 ps0 H0 H [bx g_2 30 (d9 x1), Fs0j1] w) (_ : X5 X3 x1 H K), c1K (vs a3d) w R E := by
  intro X3 a3d Fs0j1 H w b4K I h
  unfold c1K
  intro _
  unfold X5 at h
  exact hR X3 a3d Fs0j1 H _ b4K I.drop h
 refine m6 fun j1 hx1 => ?_
 obtain ⟨d9m, c7w, g7y, g7z⟩ := h
 refine p9 (J := fun n l w => ∃ (s : (List Int) × Int) (H : Hp) (a8A : Sl) (Fs0l2 : Frag) , n = c7w s ∧ l = (match s with | (W1, C8) => [(vs a8A), (vi C8)]) ∧ (match s with | (W1, C8) => RowL 5 1 g8 a8A W1 Fs0l2) ∧ (match s with | (W1, C8) => Inv w0 ps0 H0 H [bx g_2 30 (d9 x1), Fs0l2] w) ∧ d9m s H) ⟨_, (o9, 0), H_6, c7t, c7u, rfl, rfl, c7v, (I_8.bring 1), g7y⟩ ?_
 rintro h3e τ_37 w next2 ⟨⟨W1, C8⟩, H, a8A, Fs0l2, rfl, b8b, b4O, I, g7A⟩ hn2
 dsimp only at b8b I b4O
 simp only [List.map_cons, List.map_nil, List.cons.injEq, and_true] at b8b
 obtain ⟨e0, e5⟩ := b8b
 simp only [e0, e5]
 obtain ⟨n2, hm2, h⟩ : ∃ n2 : ((List Int) × Int) → Hp → Prop, (∀ s' H', n2 s' H' → d9m s' H' ∧ c7w s' < c7w (W1, C8)) ∧ X6 x1 W1 C8 H n2 K := ⟨_, fun _ _ h => h, g7z (W1, C8) H (fun s' H' => d9m s' H' ∧ c7w s' < c7w (W1, C8)) g7A (fun _ _ a b => ⟨a, b⟩)⟩
 unfold c8F
 unfold X6 at h
 refine a7 R6 ?_
 refine c5 (ld1 Tryd.isAgg28 (I.at1 (o := 3) (vs := [(vs x1.o8)]) (nb rfl) rfl)) ?_
 refine a7 (v8 _ _ _) ?_
 refine a7 (o2 _ _ _ _ _ _) ?_
 refine g6 (fun b8D => ?_) (fun b8D => ?_)
 ·replace h := h.1 b8D
  refine a7 R6 ?_
  refine c5 (ld1 Tryd.isAgg28 (I.at1 (o := 3) (vs := [(vs x1.o8)]) (nb rfl) rfl)) ?_
  obtain ⟨d9n, b8L, b4N, b2Q, h⟩ := h
  obtain ⟨a2F, g7B, b6H, b2Q⟩ := b2Q
  refine a7 (a1M b6H _ _ _ _ d9n b8L) ?_
  refine c5 (ldA (vs := (d9 b4N)) Tryd.isAgg30 Tryd.sizeOf30 rfl (I.atH b2Q)) ?_
  refine f6 (cap := []) (fun args w => Tryd.call100 args w) ?_
  refine i6 (Fi := [Fs0l2]) (Fr := [bx g_2 30 (d9 x1)]) (I.bring 1) (h a8A Fs0l2 b4O) (fun f1f a5b b5Z a7B b6d c9O f1g c4M => ?_) (fun _ _ _ _ _ q => q.elim)
  obtain ⟨a1b, c7x, c7y, rfl, rfl, c7z, h⟩ := c4M
  refine a7 (m4 _ _ _ _ _ _) ?_
  exact hn2 _ _ _ (hm2 _ _ h).2 ⟨(a1b, (IntKind.wrap .i64 (C8 + 1))), a5b, c7x, c7y, rfl, rfl, c7z, (b6d.bring 1), (hm2 _ _ h).1⟩
 ·replace h := h.2 b8D
  exact hx1 _ _ (hj1 W1 a8A Fs0l2 H _ b4O ((I.bring 1).bring 1) h)
theorem b0x (x0 : (List Int)) (x1 : k6) {H : Hp} {K : (List Int) → Hp → Prop} (h : a0N x0 x1 H K) : S2 x0 x1 H K := by
 intro sx0 Fx0 hx0 w I
 refine e4G ?_
 refine a9Y x0 x1 sx0 Fx0 hx0 I (fun r0 sr0 Fr0 H' w' khr0 I' hk => ⟨H', _, I', r0, sr0, Fr0, rfl, rfl, khr0, hk⟩) h
def X7 (a5k : (List Int)) (_cr_1j2 : k3) (H : Hp) (K : (List Int) → Hp → Prop) : Prop :=
 K a5k H
def X8 (cr_1l3 : k3) (a6D : (List Int)) (I1 : Int) (H : Hp) (n3 : ((List Int) × Int) → Hp → Prop) (K : (List Int) → Hp → Prop) : Prop :=
 (I1 < (cr_1l3.l9.n : Int) →
 (0 : Int) ≤ I1 ∧ (I1 : Int) < cr_1l3.l9.n ∧ ∃ d2S : k3, EltH H cr_1l3.l9 I1 4 (f5 d2S) ∧
 a0F a6D d2S H (fun (a9p : (List Int)) (b2G : Hp) =>
 n3 (a9p, (IntKind.wrap .i64 (I1 + 1))) b2G)) ∧
 (¬ (I1 < (cr_1l3.l9.n : Int)) →
 X7 a6D cr_1l3 H K)
def X9 (X3 : (List Int)) (cr_1j1 : k3) (H : Hp) (K : (List Int) → Hp → Prop) : Prop :=
 TL ((X3, 0) : (List Int) × Int) H fun (s : (List Int) × Int) H n3 => X8 cr_1j1 s.1 s.2 H n3 K
def Y0 (cr_1l4 : k3) (U3 : (List Int)) (Q6 : Int) (H : Hp) (n4 : ((List Int) × Int) → Hp → Prop) (K : (List Int) → Hp → Prop) : Prop :=
 (Q6 < (cr_1l4.d7.n : Int) →
 (0 : Int) ≤ Q6 ∧ (Q6 : Int) < cr_1l4.d7.n ∧ ∃ b4N : k6, EltH H cr_1l4.d7 Q6 4 (d9 b4N) ∧
 S2 U3 b4N H (fun (a1b : (List Int)) (a5b : Hp) =>
 n4 (a1b, (IntKind.wrap .i64 (Q6 + 1))) a5b)) ∧
 (¬ (Q6 < (cr_1l4.d7.n : Int)) →
 X9 U3 cr_1l4 H K)
def a0O (x0 : (List Int)) (x1 : k3) (H : Hp) (K : (List Int) → Hp → Prop) : Prop :=
 L8 x0 67 x1.c6 (IntKind.wrap .u64 x1.fOp) ⟨#[]⟩ (J0.mk (x1.l9.n : Int) (x1.d7.n : Int) 0 0) H (fun (o9 : (List Int)) (H_6 : Hp) =>
 TL ((o9, 0) : (List Int) × Int) H_6 fun (s : (List Int) × Int) H n4 => Y0 x1 s.1 s.2 H n4 K)
theorem a9Z (x0 : (List Int)) (x1 : k3) (sx0 : Sl) (Fx0 : Frag) (hx0 : RowL 5 1 g8 sx0 x0 Fx0) {w0 w : World} {ps0 : Nat → Prop} {H0 H : Hp} {K : (List Int) → Hp → Prop} {R : Value → World → Prop} {E : Pan} (I : Inv w0 ps0 H0 H [Fx0] w) (hR : ∀ (r0 : (List Int)) (sr0 : Sl) (Fr0 : Frag) (H' : Hp) (w' : World) (_ : RowL 5 1 g8 sr0 r0 Fr0) (_ : Inv w0 ps0 H0 H' [Fr0] w') (_ : K r0 H'), R (vs sr0) w') (h : a0O x0 x1 H K) : F99 (vs sx0) (Value.agg (f5 x1).toArray) w R E := by
 unfold a0O at h
 unfold F99
 refine J4 I (cs := (f5 x1)) rfl fun g_2 w_3 I_4 k_5 => ?_
 refine a7 a5X ?_
 refine c5 (ld1 Tryd.isAgg3 (I_4.at1 (o := 0) (vs := [(vi x1.c6)]) (nb rfl) rfl)) ?_
 refine a7 Z5 ?_
 refine c5 (ld1 Tryd.isAgg3 (I_4.at1 (o := 1) (vs := [(vi x1.fOp)]) (nb rfl) rfl)) ?_
 refine a7 (b9a _ _) ?_
 refine a7 R8 ?_
 refine c5 (ld1 Tryd.isAgg31 (I_4.at1 (o := 3) (vs := [(vs x1.l9)]) (nb rfl) rfl)) ?_
 refine a7 (H8 _ _ _) ?_
 refine a7 R7 ?_
 refine c5 (ld1 Tryd.isAgg28 (I_4.at1 (o := 2) (vs := [(vs x1.d7)]) (nb rfl) rfl)) ?_
 refine a7 (v8 _ _ _) ?_
 refine a7 (a3U _ _ _ _) ?_
 refine f6 (cap := []) (fun args w => Tryd.call72 args w) ?_
 refine i6 (Fi := [Fx0]) (Fr := [bx g_2 33 (f5 x1)]) (I_4.bring 1) (h sx0 Fx0 hx0) (fun a5D H_6 a5E w_7 I_8 a4J k_9 R3 => ?_) (fun _ _ _ _ _ q => q.elim)
 obtain ⟨o9, c7t, c7u, rfl, rfl, c7v, h⟩ := R3
 have hj1 : ∀ (X3 : (List Int)) (a3d : Sl) (Fs0j1 : Frag) (H : Hp) (w : World) (_ : RowL 5 1 g8 a3d X3 Fs0j1) (_ : Inv w0 ps0 H0 H [bx g_2 33 (f5 x1), Fs0j1] w) (_ : X9 X3 x1 H K), c7i (vs a3d) (Value.pointer (some ⟨g_2, 0, none⟩)) w R E := by
  intro X3 a3d Fs0j1 H w b4K I h
  unfold c7i
  intro _
  unfold X9 at h
  have hj2 : ∀ (a5k : (List Int)) (b0u : Sl) (Fs0j2 : Frag) (H : Hp) (w : World) (_ : RowL 5 1 g8 b0u a5k Fs0j2) (_ : Inv w0 ps0 H0 H [bx g_2 33 (f5 x1), Fs0j2] w) (_ : X7 a5k x1 H K), c7h (vs b0u) w R E := by
   intro a5k b0u Fs0j2 H w d2P I h
   unfold c7h
   intro _
   unfold X7 at h
   exact hR a5k b0u Fs0j2 H _ d2P I.drop h
  refine m6 fun j2 hx2 => ?_
  obtain ⟨d9o, c7A, g7C, g7D⟩ := h
  refine p9 (J := fun n l w => ∃ (s : (List Int) × Int) (H : Hp) (c0B : Sl) (Fs0l3 : Frag) , n = c7A s ∧ l = (match s with | (a6D, I1) => [(vs c0B), (vi I1)]) ∧ (match s with | (a6D, I1) => RowL 5 1 g8 c0B a6D Fs0l3) ∧ (match s with | (a6D, I1) => Inv w0 ps0 H0 H [bx g_2 33 (f5 x1), Fs0l3] w) ∧ d9o s H) ⟨_, (X3, 0), H, a3d, Fs0j1, rfl, rfl, b4K, ((I.bring 1).bring 1), g7C⟩ ?_
  rintro h3f τ_53 w next3 ⟨⟨a6D, I1⟩, H, c0B, Fs0l3, rfl, c4P, d2T, I, g7E⟩ hn3
  dsimp only at c4P I d2T
  simp only [List.map_cons, List.map_nil, List.cons.injEq, and_true] at c4P
  obtain ⟨e0, e6⟩ := c4P
  simp only [e0, e6]
  obtain ⟨n3, hm3, h⟩ : ∃ n3 : ((List Int) × Int) → Hp → Prop, (∀ s' H', n3 s' H' → d9o s' H' ∧ c7A s' < c7A (a6D, I1)) ∧ X8 x1 a6D I1 H n3 K := ⟨_, fun _ _ h => h, g7D (a6D, I1) H (fun s' H' => d9o s' H' ∧ c7A s' < c7A (a6D, I1)) g7E (fun _ _ a b => ⟨a, b⟩)⟩
  unfold d5s
  unfold X8 at h
  refine a7 R8 ?_
  refine c5 (ld1 Tryd.isAgg31 (I.at1 (o := 3) (vs := [(vs x1.l9)]) (nb rfl) rfl)) ?_
  refine a7 (H8 _ _ _) ?_
  refine a7 (o2 _ _ _ _ _ _) ?_
  refine g6 (fun d9p => ?_) (fun d9p => ?_)
  ·replace h := h.1 d9p
   refine a7 R8 ?_
   refine c5 (ld1 Tryd.isAgg31 (I.at1 (o := 3) (vs := [(vs x1.l9)]) (nb rfl) rfl)) ?_
   obtain ⟨c4I, a8Y, d2S, b7X, h⟩ := h
   obtain ⟨h3g, h3h, b3V, b7X⟩ := b7X
   refine a7 (a4N b3V _ _ _ _ c4I a8Y) ?_
   refine c5 (ldA (vs := (f5 d2S)) Tryd.isAgg33 Tryd.sizeOf33 rfl (I.atH b7X)) ?_
   refine f6 (cap := []) (fun args w => Tryd.call99 args w) ?_
   refine i6 (Fi := [Fs0l3]) (Fr := [bx g_2 33 (f5 x1)]) (I.bring 1) (h c0B Fs0l3 d2T) (fun f0W b2G f0X b7F a8X f0Y f0Z c4F => ?_) (fun _ _ _ _ _ q => q.elim)
   obtain ⟨a9p, f8Z, f9a, rfl, rfl, f9b, h⟩ := c4F
   refine a7 (m4 _ _ _ _ _ _) ?_
   exact hn3 _ _ _ (hm3 _ _ h).2 ⟨(a9p, (IntKind.wrap .i64 (I1 + 1))), b2G, f8Z, f9a, rfl, rfl, f9b, (a8X.bring 1), (hm3 _ _ h).1⟩
  ·replace h := h.2 d9p
   exact hx2 _ _ (hj2 a6D c0B Fs0l3 H _ d2T ((I.bring 1).bring 1) h)
 refine m6 fun j1 hx1 => ?_
 obtain ⟨b8g, b1k, d6t, d6u⟩ := h
 refine p9 (J := fun n l w => ∃ (s : (List Int) × Int) (H : Hp) (a8y : Sl) (Fs0l4 : Frag) , n = b1k s ∧ l = (match s with | (U3, Q6) => [(vs a8y), (vi Q6)]) ∧ (match s with | (U3, Q6) => RowL 5 1 g8 a8y U3 Fs0l4) ∧ (match s with | (U3, Q6) => Inv w0 ps0 H0 H [bx g_2 33 (f5 x1), Fs0l4] w) ∧ b8g s H) ⟨_, (o9, 0), H_6, c7t, c7u, rfl, rfl, c7v, (I_8.bring 1), d6t⟩ ?_
 rintro g4Z τ_62 w next4 ⟨⟨U3, Q6⟩, H, a8y, Fs0l4, rfl, b6e, b4L, I, d6v⟩ hn4
 dsimp only at b6e I b4L
 simp only [List.map_cons, List.map_nil, List.cons.injEq, and_true] at b6e
 obtain ⟨e0, e5⟩ := b6e
 simp only [e0, e5]
 obtain ⟨n4, hm4, h⟩ : ∃ n4 : ((List Int) × Int) → Hp → Prop, (∀ s' H', n4 s' H' → b8g s' H' ∧ b1k s' < b1k (U3, Q6)) ∧ Y0 x1 U3 Q6 H n4 K := ⟨_, fun _ _ h => h, d6u (U3, Q6) H (fun s' H' => b8g s' H' ∧ b1k s' < b1k (U3, Q6)) d6v (fun _ _ a b => ⟨a, b⟩)⟩
 unfold d5t
 unfold Y0 at h
 refine a7 R7 ?_
 refine c5 (ld1 Tryd.isAgg28 (I.at1 (o := 2) (vs := [(vs x1.d7)]) (nb rfl) rfl)) ?_
 refine a7 (v8 _ _ _) ?_
 refine a7 (o2 _ _ _ _ _ _) ?_
 refine g6 (fun b8h => ?_) (fun b8h => ?_)
 ·replace h := h.1 b8h
  refine a7 R7 ?_
  refine c5 (ld1 Tryd.isAgg28 (I.at1 (o := 2) (vs := [(vs x1.d7)]) (nb rfl) rfl)) ?_
  obtain ⟨d9n, b8L, b4N, b2Q, h⟩ := h
  obtain ⟨a2F, g7B, b6H, b2Q⟩ := b2Q
  refine a7 (a1M b6H _ _ _ _ d9n b8L) ?_
  refine c5 (ldA (vs := (d9 b4N)) Tryd.isAgg30 Tryd.sizeOf30 rfl (I.atH b2Q)) ?_
  refine f6 (cap := []) (fun args w => Tryd.call100 args w) ?_
  refine i6 (Fi := [Fs0l4]) (Fr := [bx g_2 33 (f5 x1)]) (I.bring 1) (h a8y Fs0l4 b4L) (fun f1f a5b b5Z a7B b6d c9O f1g c4M => ?_) (fun _ _ _ _ _ q => q.elim)
  obtain ⟨a1b, c7x, c7y, rfl, rfl, c7z, h⟩ := c4M
  refine a7 (m4 _ _ _ _ _ _) ?_
  exact hn4 _ _ _ (hm4 _ _ h).2 ⟨(a1b, (IntKind.wrap .i64 (Q6 + 1))), a5b, c7x, c7y, rfl, rfl, c7z, (b6d.bring 1), (hm4 _ _ h).1⟩
 ·replace h := h.2 b8h
  exact hx1 _ _ (hj1 U3 a8y Fs0l4 H _ b4L ((I.bring 1).bring 1) h)
theorem b0y (x0 : (List Int)) (x1 : k3) {H : Hp} {K : (List Int) → Hp → Prop} (h : a0O x0 x1 H K) : a0F x0 x1 H K := by
 intro sx0 Fx0 hx0 w I
 refine f8L ?_
 refine a9Z x0 x1 sx0 Fx0 hx0 I (fun r0 sr0 Fr0 H' w' khr0 I' hk => ⟨H', _, I', r0, sr0, Fr0, rfl, rfl, khr0, hk⟩) h
def U5 (a6h : (List Int)) (_s1j3 : Sl) (g7F : Int) (H : Hp) (n2 : ((List Int) × Int) → Hp → Prop) (_K : (List Int) → Hp → Prop) : Prop :=
 n2 (a6h, (IntKind.wrap .i64 (g7F + 1))) H
def U6 (c0C : (List Int)) (g7G : Sl) (g7H : Int) (cr_8j5 : i5) (H : Hp) (n2 : ((List Int) × Int) → Hp → Prop) (K : (List Int) → Hp → Prop) : Prop :=
 Q5 c0C cr_8j5.s6 H (fun (a5h : (List Int)) (a9Q : Hp) =>
 Q5 a5h cr_8j5.q8 a9Q (fun (d2U : (List Int)) (a6p : Hp) =>
 U5 d2U g7G g7H a6p n2 K))
def U7 (g7I : Sl) (g7J : Int) (cr_8l6 : i5) (U4 : (List Int)) (Z2 : Int) (H : Hp) (n2 : ((List Int) × Int) → Hp → Prop) (n6 : ((List Int) × Int) → Hp → Prop) (K : (List Int) → Hp → Prop) : Prop :=
 (Z2 < (cr_8l6.d7.n : Int) →
 (0 : Int) ≤ Z2 ∧ (Z2 : Int) < cr_8l6.d7.n ∧ ∃ d2V : k6, EltH H cr_8l6.d7 Z2 4 (d9 d2V) ∧
 S2 U4 d2V H (fun (d2W : (List Int)) (d9q : Hp) =>
 n6 (d2W, (IntKind.wrap .i64 (Z2 + 1))) d9q)) ∧
 (¬ (Z2 < (cr_8l6.d7.n : Int)) →
 U6 U4 g7I g7J cr_8l6 H n2 K)
def U8 (b7l : (List Int)) (g7K : Sl) (g7L : Int) (cr_8j4 : i5) (H : Hp) (n2 : ((List Int) × Int) → Hp → Prop) (K : (List Int) → Hp → Prop) : Prop :=
 TL ((b7l, 0) : (List Int) × Int) H fun (s : (List Int) × Int) H n6 => U7 g7K g7L cr_8j4 s.1 s.2 H n2 n6 K
def M6 (g7M : Sl) (g7N : Int) (cr_8l7 : i5) (a6E : (List Int)) (Z3 : Int) (H : Hp) (n2 : ((List Int) × Int) → Hp → Prop) (n7 : ((List Int) × Int) → Hp → Prop) (K : (List Int) → Hp → Prop) : Prop :=
 (Z3 < (cr_8l7.i4.n : Int) →
 (0 : Int) ≤ Z3 ∧ (Z3 : Int) < cr_8l7.i4.n ∧ ∃ d2X : k3, EltH H cr_8l7.i4 Z3 4 (f5 d2X) ∧
 a0F a6E d2X H (fun (d2Y : (List Int)) (b2J : Hp) =>
 n7 (d2Y, (IntKind.wrap .i64 (Z3 + 1))) b2J)) ∧
 (¬ (Z3 < (cr_8l7.i4.n : Int)) →
 U8 a6E g7M g7N cr_8l7 H n2 K)
def U9 (X3 : (List Int)) (H : Hp) (K : (List Int) → Hp → Prop) : Prop :=
 K X3 H
def V0 (b1q : Sl) (W1 : (List Int)) (C8 : Int) (H : Hp) (n2 : ((List Int) × Int) → Hp → Prop) (K : (List Int) → Hp → Prop) : Prop :=
 (C8 < (b1q.n : Int) →
 (0 : Int) ≤ C8 ∧ (C8 : Int) < b1q.n ∧ ∃ x_1 : i5, EltH H b1q C8 6 (d6 x_1) ∧
 L8 W1 83 x_1.c6 0 x_1.k9 (J0.mk (x_1.i4.n : Int) (x_1.d7.n : Int) (x_1.s6.n : Int) (x_1.q8.n : Int)) H (fun (N0 : (List Int)) (a2R : Hp) =>
 TL ((N0, 0) : (List Int) × Int) a2R fun (s : (List Int) × Int) H n7 => M6 b1q C8 x_1 s.1 s.2 H n2 n7 K)) ∧
 (¬ (C8 < (b1q.n : Int)) →
 U9 W1 H K)
def a0r (x0 : (List Int)) (x1 : Sl) (H : Hp) (K : (List Int) → Hp → Prop) : Prop :=
 TL ((x0, 0) : (List Int) × Int) H fun (s : (List Int) × Int) H n2 => V0 x1 s.1 s.2 H n2 K
theorem a9J (x0 : (List Int)) (x1 : Sl) (sx0 : Sl) (Fx0 : Frag) (hx0 : RowL 5 1 g8 sx0 x0 Fx0) {w0 w : World} {ps0 : Nat → Prop} {H0 H : Hp} {K : (List Int) → Hp → Prop} {R : Value → World → Prop} {E : Pan} (I : Inv w0 ps0 H0 H [Fx0] w) (hR : ∀ (r0 : (List Int)) (sr0 : Sl) (Fr0 : Frag) (H' : Hp) (w' : World) (_ : RowL 5 1 g8 sr0 r0 Fr0) (_ : Inv w0 ps0 H0 H' [Fr0] w') (_ : K r0 H'), R (vs sr0) w') (h : a0r x0 x1 H K) : F73 (vs sx0) (vs x1) w R E := by
 unfold a0r at h
 unfold F73
 have hj1 : ∀ (X3 : (List Int)) (a3d : Sl) (Fs0j1 : Frag) (H : Hp) (w : World) (_ : RowL 5 1 g8 a3d X3 Fs0j1) (_ : Inv w0 ps0 H0 H [Fs0j1] w) (_ : U9 X3 H K), c7d (vs a3d) w R E := by
  intro X3 a3d Fs0j1 H w b4K I h
  unfold c7d
  intro _
  unfold U9 at h
  exact hR X3 a3d Fs0j1 H _ b4K I h
 refine m6 fun j1 hx1 => ?_
 obtain ⟨d9r, c7B, g7O, g7P⟩ := h
 refine p9 (J := fun n l w => ∃ (s : (List Int) × Int) (H : Hp) (a8A : Sl) (Fs0l2 : Frag) , n = c7B s ∧ l = (match s with | (W1, C8) => [(vs a8A), (vi C8)]) ∧ (match s with | (W1, C8) => RowL 5 1 g8 a8A W1 Fs0l2) ∧ (match s with | (W1, C8) => Inv w0 ps0 H0 H [Fs0l2] w) ∧ d9r s H) ⟨_, (x0, 0), H, sx0, Fx0, rfl, rfl, hx0, I, g7O⟩ ?_
 rintro h3i τ_99 w next2 ⟨⟨W1, C8⟩, H, a8A, Fs0l2, rfl, d2Z, b4O, I, g4u⟩ hn2
 dsimp only at d2Z I b4O
 simp only [List.map_cons, List.map_nil, List.cons.injEq, and_true] at d2Z
 obtain ⟨e0, e5⟩ := d2Z
 simp only [e0, e5]
 obtain ⟨n2, hm2, h⟩ : ∃ n2 : ((List Int) × Int) → Hp → Prop, (∀ s' H', n2 s' H' → d9r s' H' ∧ c7B s' < c7B (W1, C8)) ∧ V0 x1 W1 C8 H n2 K := ⟨_, fun _ _ h => h, g7P (W1, C8) H (fun s' H' => d9r s' H' ∧ c7B s' < c7B (W1, C8)) g4u (fun _ _ a b => ⟨a, b⟩)⟩
 unfold d5r
 unfold V0 at h
 refine a7 (D6 _ _ _) ?_
 refine a7 (o2 _ _ _ _ _ _) ?_
 refine g6 (fun d9s => ?_) (fun d9s => ?_)
 ·replace h := h.1 d9s
  have hj3 : ∀ (a6h : (List Int)) (b0v : Sl) (Fs0j3 : Frag) (H : Hp) (w : World) (_ : RowL 5 1 g8 b0v a6h Fs0j3) (_ : Inv w0 ps0 H0 H [Fs0j3] w) (_ : U5 a6h x1 C8 H n2 K), c7e (vs b0v) (vs x1) (vi C8) w next2 R E := by
   intro a6h b0v Fs0j3 H w d2Q I h
   unfold c7e
   intro _
   unfold U5 at h
   refine a7 (m4 _ _ _ _ _ _) ?_
   exact hn2 _ _ _ (hm2 _ _ h).2 ⟨(a6h, (IntKind.wrap .i64 (C8 + 1))), H, b0v, Fs0j3, rfl, rfl, d2Q, I, (hm2 _ _ h).1⟩
  refine m6 fun j3 hx3 => ?_
  obtain ⟨h_4, h_5, x_1, h_7, h⟩ := h
  obtain ⟨g_2, o_3, h_6, h_7⟩ := h_7
  refine a7 (a4O h_6 _ _ _ _ h_4 h_5) ?_
  refine c5 (ldA (vs := (d6 x_1)) Tryd.isAgg88 Tryd.sizeOf88 rfl (I.atH h_7)) ?_
  refine G4 I Tryd.zeroValue88 (cs := [(vi 0), (Value.string ⟨#[]⟩), (Value.slice none 0 0), (Value.slice none 0 0), (Value.slice none 0 0), (Value.slice none 0 0)]) rfl fun g_9 m2 a3q b3R => ?_
  refine p7 a3q Tryd.sizeOf88 (vs := (d6 x_1)) (cs' := (d6 x_1)) rfl rfl (nb rfl) rfl rfl fun a2K a3r c1d => ?_
  refine a7 B6 ?_
  refine c5 (ld1 Tryd.isAgg3 (a3r.at1 (o := 0) (vs := [(vi x_1.c6)]) (nb rfl) rfl)) ?_
  refine a7 a4P ?_
  refine c5 (ld1 Tryd.isAgg9 (a3r.at1 (o := 1) (vs := [(Value.string x_1.k9)]) (nb rfl) rfl)) ?_
  refine a7 S1 ?_
  refine c5 (ld1 Tryd.isAgg31 (a3r.at1 (o := 3) (vs := [(vs x_1.i4)]) (nb rfl) rfl)) ?_
  refine a7 (H8 _ _ _) ?_
  refine a7 R9 ?_
  refine c5 (ld1 Tryd.isAgg28 (a3r.at1 (o := 2) (vs := [(vs x_1.d7)]) (nb rfl) rfl)) ?_
  refine a7 (v8 _ _ _) ?_
  refine a7 V8 ?_
  refine c5 (ld1 Tryd.isAgg23 (a3r.at1 (o := 4) (vs := [(vs x_1.s6)]) (nb rfl) rfl)) ?_
  refine a7 (D6 _ _ _) ?_
  refine a7 M9 ?_
  refine c5 (ld1 Tryd.isAgg23 (a3r.at1 (o := 5) (vs := [(vs x_1.q8)]) (nb rfl) rfl)) ?_
  refine a7 (D6 _ _ _) ?_
  refine a7 (a3U _ _ _ _) ?_
  refine f6 (cap := []) (fun args w => Tryd.call72 args w) ?_
  refine i6 (Fi := [Fs0l2]) (Fr := [bx g_9 88 (d6 x_1)]) (a3r.bring 1) (h a8A Fs0l2 b4O) (fun c4x a2R c4y a4G a3s c4z b7R b1g => ?_) (fun _ _ _ _ _ q => q.elim)
  obtain ⟨N0, f9c, f9d, rfl, rfl, f9e, h⟩ := b1g
  have hj4 : ∀ (b7l : (List Int)) (c2H : Sl) (Fs0j4 : Frag) (H : Hp) (w : World) (_ : RowL 5 1 g8 c2H b7l Fs0j4) (_ : Inv w0 ps0 H0 H [bx g_9 88 (d6 x_1), Fs0j4] w) (_ : U8 b7l x1 C8 x_1 H n2 K), c7g (vs c2H) (vs x1) (vi C8) (Value.pointer (some ⟨g_9, 0, none⟩)) w j3 R E := by
   intro b7l c2H Fs0j4 H w g4v I h
   unfold c7g
   intro _
   unfold U8 at h
   have hj5 : ∀ (c0C : (List Int)) (c2I : Sl) (Fs0j5 : Frag) (H : Hp) (w : World) (_ : RowL 5 1 g8 c2I c0C Fs0j5) (_ : Inv w0 ps0 H0 H [bx g_9 88 (d6 x_1), Fs0j5] w) (_ : U6 c0C x1 C8 x_1 H n2 K), c7f (vs c2I) (vs x1) (vi C8) (Value.pointer (some ⟨g_9, 0, none⟩)) w j3 R E := by
    intro c0C c2I Fs0j5 H w g4w I h
    unfold c7f
    intro _
    unfold U6 at h
    refine a7 V8 ?_
    refine c5 (ld1 Tryd.isAgg23 (I.at1 (o := 4) (vs := [(vs x_1.s6)]) (nb rfl) rfl)) ?_
    refine f6 (cap := []) (fun args w => Tryd.call73 args w) ?_
    refine i6 (Fi := [Fs0j5]) (Fr := [bx g_9 88 (d6 x_1)]) (I.bring 1) (h c2I Fs0j5 g4w) (fun f1t a9Q f1u H9 a9R f1v f1w c5b => ?_) (fun _ _ _ _ _ q => q.elim)
    obtain ⟨a5h, f9f, d5y, rfl, rfl, f9g, h⟩ := c5b
    refine a7 M9 ?_
    refine c5 (ld1 Tryd.isAgg23 ((a9R.bring 1).at1 (o := 5) (vs := [(vs x_1.q8)]) (nb rfl) rfl)) ?_
    refine f6 (cap := []) (fun args w => Tryd.call73 args w) ?_
    refine i6 (Fi := [d5y]) (Fr := [bx g_9 88 (d6 x_1)]) a9R (h f9f d5y f9g) (fun h3j a6p h3k b3H c1n d1a d0r g7Q => ?_) (fun _ _ _ _ _ q => q.elim)
    obtain ⟨d2U, f9h, f9i, rfl, rfl, f9j, h⟩ := g7Q
    exact hx3 _ _ (hj3 d2U f9h f9i a6p _ f9j (c1n.bring 1).drop h)
   refine m6 fun j5 hx5 => ?_
   obtain ⟨d9t, c7C, g7R, b6I⟩ := h
   refine p9 (J := fun n l w => ∃ (s : (List Int) × Int) (H : Hp) (a8z : Sl) (Fs0l6 : Frag) , n = c7C s ∧ l = (match s with | (U4, Z2) => [(vs a8z), (vi Z2)]) ∧ (match s with | (U4, Z2) => RowL 5 1 g8 a8z U4 Fs0l6) ∧ (match s with | (U4, Z2) => Inv w0 ps0 H0 H [bx g_9 88 (d6 x_1), Fs0l6] w) ∧ d9t s H) ⟨_, (b7l, 0), H, c2H, Fs0j4, rfl, rfl, g4v, ((I.bring 1).bring 1), g7R⟩ ?_
   rintro h3l τ_81 w next6 ⟨⟨U4, Z2⟩, H, a8z, Fs0l6, rfl, d9u, b4M, I, a0z⟩ hn6
   dsimp only at d9u I b4M
   simp only [List.map_cons, List.map_nil, List.cons.injEq, and_true] at d9u
   obtain ⟨e0, e8⟩ := d9u
   simp only [e0, e8]
   obtain ⟨n6, hm6, h⟩ : ∃ n6 : ((List Int) × Int) → Hp → Prop, (∀ s' H', n6 s' H' → d9t s' H' ∧ c7C s' < c7C (U4, Z2)) ∧ U7 x1 C8 x_1 U4 Z2 H n2 n6 K := ⟨_, fun _ _ h => h, b6I (U4, Z2) H (fun s' H' => d9t s' H' ∧ c7C s' < c7C (U4, Z2)) a0z (fun _ _ a b => ⟨a, b⟩)⟩
   unfold d5p
   unfold U7 at h
   refine a7 R9 ?_
   refine c5 (ld1 Tryd.isAgg28 (I.at1 (o := 2) (vs := [(vs x_1.d7)]) (nb rfl) rfl)) ?_
   refine a7 (v8 _ _ _) ?_
   refine a7 (o2 _ _ _ _ _ _) ?_
   refine g6 (fun a6N => ?_) (fun a6N => ?_)
   ·replace h := h.1 a6N
    refine a7 R9 ?_
    refine c5 (ld1 Tryd.isAgg28 (I.at1 (o := 2) (vs := [(vs x_1.d7)]) (nb rfl) rfl)) ?_
    obtain ⟨d6w, d6x, d2V, b8J, h⟩ := h
    obtain ⟨h3m, h3n, b4b, b8J⟩ := b8J
    refine a7 (a1M b4b _ _ _ _ d6w d6x) ?_
    refine c5 (ldA (vs := (d9 d2V)) Tryd.isAgg30 Tryd.sizeOf30 rfl (I.atH b8J)) ?_
    refine f6 (cap := []) (fun args w => Tryd.call100 args w) ?_
    refine i6 (Fi := [Fs0l6]) (Fr := [bx g_9 88 (d6 x_1)]) (I.bring 1) (h a8z Fs0l6 b4M) (fun h3o d9q g7d c3u c1N h3p g6Y g7S => ?_) (fun _ _ _ _ _ q => q.elim)
    obtain ⟨d2W, f9k, f9l, rfl, rfl, f9m, h⟩ := g7S
    refine a7 (m4 _ _ _ _ _ _) ?_
    exact hn6 _ _ _ (hm6 _ _ h).2 ⟨(d2W, (IntKind.wrap .i64 (Z2 + 1))), d9q, f9k, f9l, rfl, rfl, f9m, (c1N.bring 1), (hm6 _ _ h).1⟩
   ·replace h := h.2 a6N
    exact hx5 _ _ (hj5 U4 a8z Fs0l6 H _ b4M ((I.bring 1).bring 1) h)
  refine m6 fun j4 hx4 => ?_
  obtain ⟨d9v, c7D, g7T, b4k⟩ := h
  refine p9 (J := fun n l w => ∃ (s : (List Int) × Int) (H : Hp) (c0D : Sl) (Fs0l7 : Frag) , n = c7D s ∧ l = (match s with | (a6E, Z3) => [(vs c0D), (vi Z3)]) ∧ (match s with | (a6E, Z3) => RowL 5 1 g8 c0D a6E Fs0l7) ∧ (match s with | (a6E, Z3) => Inv w0 ps0 H0 H [bx g_9 88 (d6 x_1), Fs0l7] w) ∧ d9v s H) ⟨_, (N0, 0), a2R, f9c, f9d, rfl, rfl, f9e, (a3s.bring 1), g7T⟩ ?_
  rintro h3q τ_90 w next7 ⟨⟨a6E, Z3⟩, H, c0D, Fs0l7, rfl, b7M, d3a, I, g7U⟩ hn7
  dsimp only at b7M I d3a
  simp only [List.map_cons, List.map_nil, List.cons.injEq, and_true] at b7M
  obtain ⟨e0, e7⟩ := b7M
  simp only [e0, e7]
  obtain ⟨n7, hm7, h⟩ : ∃ n7 : ((List Int) × Int) → Hp → Prop, (∀ s' H', n7 s' H' → d9v s' H' ∧ c7D s' < c7D (a6E, Z3)) ∧ M6 x1 C8 x_1 a6E Z3 H n2 n7 K := ⟨_, fun _ _ h => h, b4k (a6E, Z3) H (fun s' H' => d9v s' H' ∧ c7D s' < c7D (a6E, Z3)) g7U (fun _ _ a b => ⟨a, b⟩)⟩
  unfold d5q
  unfold M6 at h
  refine a7 S1 ?_
  refine c5 (ld1 Tryd.isAgg31 (I.at1 (o := 3) (vs := [(vs x_1.i4)]) (nb rfl) rfl)) ?_
  refine a7 (H8 _ _ _) ?_
  refine a7 (o2 _ _ _ _ _ _) ?_
  refine g6 (fun b8t => ?_) (fun b8t => ?_)
  ·replace h := h.1 b8t
   refine a7 S1 ?_
   refine c5 (ld1 Tryd.isAgg31 (I.at1 (o := 3) (vs := [(vs x_1.i4)]) (nb rfl) rfl)) ?_
   obtain ⟨g7V, b1h, d2X, c7s, h⟩ := h
   obtain ⟨h3r, h3s, c4E, c7s⟩ := c7s
   refine a7 (a4N c4E _ _ _ _ g7V b1h) ?_
   refine c5 (ldA (vs := (f5 d2X)) Tryd.isAgg33 Tryd.sizeOf33 rfl (I.atH c7s)) ?_
   refine f6 (cap := []) (fun args w => Tryd.call99 args w) ?_
   refine i6 (Fi := [Fs0l7]) (Fr := [bx g_9 88 (d6 x_1)]) (I.bring 1) (h c0D Fs0l7 d3a) (fun h3t b2J h3u c9a b7W h3v g6X g7W => ?_) (fun _ _ _ _ _ q => q.elim)
   obtain ⟨d2Y, f9n, f9o, rfl, rfl, f9p, h⟩ := g7W
   refine a7 (m4 _ _ _ _ _ _) ?_
   exact hn7 _ _ _ (hm7 _ _ h).2 ⟨(d2Y, (IntKind.wrap .i64 (Z3 + 1))), b2J, f9n, f9o, rfl, rfl, f9p, (b7W.bring 1), (hm7 _ _ h).1⟩
  ·replace h := h.2 b8t
   exact hx4 _ _ (hj4 a6E c0D Fs0l7 H _ d3a ((I.bring 1).bring 1) h)
 ·replace h := h.2 d9s
  exact hx1 _ _ (hj1 W1 a8A Fs0l2 H _ b4O I h)
theorem b0a (x0 : (List Int)) (x1 : Sl) {H : Hp} {K : (List Int) → Hp → Prop} (h : a0r x0 x1 H K) : Q5 x0 x1 H K := by
 intro sx0 Fx0 hx0 w I
 refine f8s ?_
 refine a9J x0 x1 sx0 Fx0 hx0 I (fun r0 sr0 Fr0 H' w' khr0 I' hk => ⟨H', _, I', r0, sr0, Fr0, rfl, rfl, khr0, hk⟩) h
def V1 (S3 : (List Int)) (cr_1j1 : k5) (H : Hp) (K : Sl → Int → Hp → Prop) : Prop :=
 Q5 S3 cr_1j1.a0V H (fun (e0C : (List Int)) (f9q : Hp) =>
 ∀ (b1Q : Sl) (c1P : Hp), Hle f9q c1P → SlH c1P 1 g8 b1Q e0C → b1Q.n ≤ b1Q.c →
 K b1Q 0 c1P)
def V2 (cr_1l2 : k5) (p6 : (List Int)) (a5i : Int) (H : Hp) (n2 : ((List Int) × Int) → Hp → Prop) (K : Sl → Int → Hp → Prop) : Prop :=
 (a5i < (cr_1l2.D3.n : Int) →
 (0 : Int) ≤ a5i ∧ (a5i : Int) < cr_1l2.D3.n ∧ ∃ c1Q : E8, EltH H cr_1l2.D3 a5i 2 (p5 c1Q) ∧
 L8 p6 68 0 (IntKind.wrap .u64 c1Q.I8) c1Q.k9 (J0.mk 0 0 0 0) H (fun (a1x : (List Int)) (a8c : Hp) =>
 n2 (a1x, (IntKind.wrap .i64 (a5i + 1))) a8c)) ∧
 (¬ (a5i < (cr_1l2.D3.n : Int)) →
 V1 p6 cr_1l2 H K)
def a0s (x0 : k5) (H : Hp) (K : Sl → Int → Hp → Prop) : Prop :=
 a2P x0 H (fun (o9 : Int) (H_6 : Hp) =>
 (¬ (o9 = 0) →
 K (Sl.mk none 0 0) o9 H_6) ∧
 (o9 = 0 →
 TL (([], 0) : (List Int) × Int) H_6 fun (s : (List Int) × Int) H n2 => V2 x0 s.1 s.2 H n2 K))
theorem a9K (x0 : k5) {w0 w : World} {ps0 : Nat → Prop} {H0 H : Hp} {K : Sl → Int → Hp → Prop} {R : Value → World → Prop} {E : Pan} (I : Inv w0 ps0 H0 H [] w) (hR : ∀ (r0 : Sl) (r1 : Int) (H' : Hp) (w' : World) (_ : Inv w0 ps0 H0 H' [] w') (_ : K r0 r1 H'), R (Value.tuple #[(vs r0), (vi r1)]) w') (h : a0s x0 H K) : F32 (Value.agg (f9 x0).toArray) w R E := by
 unfold a0s at h
 unfold F32
 refine J4 I (cs := (f9 x0)) rfl fun g_2 w_3 I_4 k_5 => ?_
 refine c5 (ldA Tryd.isAgg25 Tryd.sizeOf25 rfl (I_4.at1 (o := 0) (vs := (f9 x0)) (nb rfl) rfl)) ?_
 refine f6 (cap := []) (fun args w => Tryd.call23 args w) ?_
 refine i6 (Fi := []) (Fr := [bx g_2 25 (f9 x0)]) I_4 (h) (fun a5D H_6 a5E w_7 I_8 a4J k_9 R3 => ?_) (fun _ _ _ _ _ q => q.elim)
 obtain ⟨o9, rfl, rfl, h⟩ := R3
 refine a7 (F6 _ _ _ _ _ _) ?_
 refine a8O (fun b8p => ?_) (fun b8p => ?_)
 ·replace h := h.1 b8p
  exact hR (Sl.mk none 0 0) o9 H_6 _ I_8.drop h
 ·replace h := h.2 b8p
  have hj1 : ∀ (S3 : (List Int)) (C0 : Sl) (Fs5j1 : Frag) (H : Hp) (w : World) (_ : RowL 5 1 g8 C0 S3 Fs5j1) (_ : Inv w0 ps0 H0 H [bx g_2 25 (f9 x0), Fs5j1] w) (_ : V1 S3 x0 H K), c6Q (Value.pointer (some ⟨g_2, 0, none⟩)) (vs C0) w R E := by
   intro S3 C0 Fs5j1 H w b0h I h
   unfold c6Q
   intro _
   unfold V1 at h
   refine a7 a4M ?_
   refine c5 (ld1 Tryd.isAgg23 (I.at1 (o := 1) (vs := [(vs x0.a0V)]) (nb rfl) rfl)) ?_
   refine f6 (cap := []) (fun args w => Tryd.call73 args w) ?_
   refine i6 (Fi := [Fs5j1]) (Fr := [bx g_2 25 (f9 x0)]) (I.bring 1) (h C0 Fs5j1 b0h) (fun h3w f9q f8X b7G c1M c9K f8S g7X => ?_) (fun _ _ _ _ _ q => q.elim)
   obtain ⟨e0C, b1Q, g8o, rfl, rfl, f9r, h⟩ := g7X
   obtain ⟨c1P, c1N, a5Q, c4Z, b8B⟩ := Inv.freezeC c1M f9r (by decide)
   replace h := h b1Q c1P a5Q c4Z b8B
   exact hR b1Q 0 c1P _ c1N.drop h
  refine m6 fun j1 hx1 => ?_
  obtain ⟨d9w, c7E, g7Y, g7Z⟩ := h
  refine p9 (J := fun n l w => ∃ (s : (List Int) × Int) (H : Hp) (S4 : Sl) (Fs5l2 : Frag) , n = c7E s ∧ l = (match s with | (p6, a5i) => [(vs S4), (vi a5i)]) ∧ (match s with | (p6, a5i) => RowL 5 1 g8 S4 p6 Fs5l2) ∧ (match s with | (p6, a5i) => Inv w0 ps0 H0 H [bx g_2 25 (f9 x0), Fs5l2] w) ∧ d9w s H) ⟨_, ([], 0), H_6, (Sl.mk none 0 0), [], rfl, rfl, (RowL.nil a0W a0X), (I_8.nil.bring 1), g7Y⟩ ?_
  rintro h3x τ_60 w next2 ⟨⟨p6, a5i⟩, H, S4, Fs5l2, rfl, b8I, a2S, I, g8a⟩ hn2
  dsimp only at b8I I a2S
  simp only [List.map_cons, List.map_nil, List.cons.injEq, and_true] at b8I
  obtain ⟨e5, e6⟩ := b8I
  simp only [e5, e6]
  obtain ⟨n2, hm2, h⟩ : ∃ n2 : ((List Int) × Int) → Hp → Prop, (∀ s' H', n2 s' H' → d9w s' H' ∧ c7E s' < c7E (p6, a5i)) ∧ V2 x0 p6 a5i H n2 K := ⟨_, fun _ _ h => h, g7Z (p6, a5i) H (fun s' H' => d9w s' H' ∧ c7E s' < c7E (p6, a5i)) g8a (fun _ _ a b => ⟨a, b⟩)⟩
  unfold d4Y
  unfold V2 at h
  refine a7 R5 ?_
  refine c5 (ld1 Tryd.isAgg22 (I.at1 (o := 0) (vs := [(vs x0.D3)]) (nb rfl) rfl)) ?_
  refine a7 (a9x _ _ _) ?_
  refine a7 (o2 _ _ _ _ _ _) ?_
  refine g6 (fun d9x => ?_) (fun d9x => ?_)
  ·replace h := h.1 d9x
   refine b5e I fun a4D b4C => ?_
   refine B5 R5 ?_
   refine B5 R5 ?_
   refine B5 (b8X) ?_
   refine a2J (ld1 Tryd.isAgg22 (b4C.at1 (o := 0) (vs := [(vs x0.D3)]) (nb rfl) rfl)) ?_
   obtain ⟨b6H, b2Q, c1Q, c1f, h⟩ := h
   obtain ⟨h3y, h3z, c9M, c1f⟩ := c1f
   refine B5 (a3h c9M _ _ _ _ b6H b2Q) ?_
   refine B5 Z6 ?_
   refine a2J (ld1 (v := (vi c1Q.I8)) Tryd.isAgg3 ((b4C.atH c1f).sub (k := 1) (n := 1) (nb rfl))) ?_
   refine B5 (b9a _ _) ?_
   refine a2J (ld1 Tryd.isAgg22 (b4C.at1 (o := 0) (vs := [(vs x0.D3)]) (nb rfl) rfl)) ?_
   refine B5 (a3h c9M _ _ _ _ b6H b2Q) ?_
   refine B5 b0d ?_
   refine a2J (ld1 (v := (Value.string c1Q.k9)) Tryd.isAgg9 ((b4C.atH c1f).sub (k := 0) (n := 1) (nb rfl))) ?_
   refine f6 (cap := []) (fun args w => Tryd.call72 args w) ?_
   refine i6 (Fi := [Fs5l2]) (Fr := [bx g_2 25 (f9 x0)]) (b4C.bring 1) (h S4 Fs5l2 a2S) (fun c9P a8c g4Q w8 b8a b8b d6p d6q => ?_) (fun _ _ _ _ _ q => q.elim)
   obtain ⟨a1x, f9s, f9t, rfl, rfl, f9u, h⟩ := d6q
   refine a7 (m4 _ _ _ _ _ _) ?_
   exact hn2 _ _ _ (hm2 _ _ h).2 ⟨(a1x, (IntKind.wrap .i64 (a5i + 1))), a8c, f9s, f9t, rfl, rfl, f9u, (b8a.bring 1), (hm2 _ _ h).1⟩
  ·replace h := h.2 d9x
   exact hx1 _ _ (hj1 p6 S4 Fs5l2 H _ a2S ((I.bring 1).bring 1) h)
theorem b0b (x0 : k5) {H : Hp} {K : Sl → Int → Hp → Prop} (h : a0s x0 H K) : Z7 x0 H K := by
 intro w I
 refine f6n ?_
 refine a9K x0 I (fun r0 r1 H' w' I' hk => ⟨H', _, I', r0, r1, rfl, rfl, hk⟩) h
def a3H (x0 : k5) (H : Hp) (K : Int → Int → Hp → Prop) : Prop :=
 a2t x0 H (fun (o9 : Sl) (a5d : Int) (H_6 : Hp) =>
 (¬ (a5d = 0) →
 K 0 a5d H_6) ∧
 (a5d = 0 →
 a2o o9 H_6 (fun (a9v : Int) (b2R : Hp) =>
 K a9v 0 b2R)))
theorem b4P (x0 : k5) {w0 w : World} {ps0 : Nat → Prop} {H0 H : Hp} {K : Int → Int → Hp → Prop} {R : Value → World → Prop} {E : Pan} (I : Inv w0 ps0 H0 H [] w) (hR : ∀ (r0 : Int) (r1 : Int) (H' : Hp) (w' : World) (_ : Inv w0 ps0 H0 H' [] w') (_ : K r0 r1 H'), R (Value.tuple #[(Value.int .u64 r0), (vi r1)]) w') (h : a3H x0 H K) : F33 (Value.agg (f9 x0).toArray) w R E := by
 unfold a3H at h
 unfold F33
 refine J4 I (cs := (f9 x0)) rfl fun g_2 w_3 I_4 k_5 => ?_
 refine c5 (ldA Tryd.isAgg25 Tryd.sizeOf25 rfl (I_4.at1 (o := 0) (vs := (f9 x0)) (nb rfl) rfl)) ?_
 refine f6 (cap := []) (fun args w => Tryd.call31 args w) ?_
 refine i6 (Fi := []) (Fr := [bx g_2 25 (f9 x0)]) I_4 (h) (fun a5D H_6 a5E w_7 I_8 a4J k_9 R3 => ?_) (fun _ _ _ _ _ q => q.elim)
 obtain ⟨o9, a5d, rfl, rfl, h⟩ := R3
 refine a7 (r7 _ _ _ rfl) ?_
 refine a7 (r7 _ _ _ rfl) ?_
 refine a7 (F6 _ _ _ _ _ _) ?_
 refine a8O (fun a6U => ?_) (fun a6U => ?_)
 ·replace h := h.1 a6U
  exact hR 0 a5d H_6 _ I_8.drop h
 ·replace h := h.2 a6U
  refine f6 (cap := []) (fun args w => Tryd.call22 args w) ?_
  refine i6 (Fi := []) (Fr := [bx g_2 25 (f9 x0)]) I_8 (h) (fun f9v b2R f9w o6 a8i f9x c1p c7F => ?_) (fun _ _ _ _ _ q => q.elim)
  obtain ⟨a9v, rfl, rfl, h⟩ := c7F
  exact hR a9v 0 b2R _ a8i.drop h
theorem b4Y (x0 : k5) {H : Hp} {K : Int → Int → Hp → Prop} (h : a3H x0 H K) : a5B x0 H K := by
 intro w I
 refine f6p ?_
 refine b4P x0 I (fun r0 r1 H' w' I' hk => ⟨H', _, I', r0, r1, rfl, rfl, hk⟩) h
def a0t (W0 : Int) (H : Hp) (K : Int → Hp → Prop) : Prop :=
 K W0 H
def a0u (b1F : Sl) (J2 : Int) (L6 : Int) (H : Hp) (n2 : (Int × Int) → Hp → Prop) (K : Int → Hp → Prop) : Prop :=
 (L6 < (b1F.n : Int) →
 (0 : Int) ≤ L6 ∧ (L6 : Int) < b1F.n ∧ ∃ x_1 : Int, EltH H b1F L6 1 [(Value.int .u8 x_1)] ∧
 n2 ((IntKind.wrap .u64 ((bxorI .u64 J2 (IntKind.wrap .u64 x_1)) * 1099511628211)), (IntKind.wrap .i64 (L6 + 1))) H) ∧
 (¬ (L6 < (b1F.n : Int)) →
 a0t J2 H K)
def a1G (x0 : Sl) (H : Hp) (K : Int → Hp → Prop) : Prop :=
 TL ((14695981039346656037, 0) : Int × Int) H fun (s : Int × Int) H n2 => a0u x0 s.1 s.2 H n2 K
theorem b1R (x0 : Sl) {w0 w : World} {ps0 : Nat → Prop} {H0 H : Hp} {K : Int → Hp → Prop} {R : Value → World → Prop} {E : Pan} (I : Inv w0 ps0 H0 H [] w) (hR : ∀ (r0 : Int) (H' : Hp) (w' : World) (_ : Inv w0 ps0 H0 H' [] w') (_ : K r0 H'), R (Value.int .u64 r0) w') (h : a1G x0 H K) : F36 (vs x0) w R E := by
 unfold a1G at h
 unfold F36
 have hj1 : ∀ (W0 : Int) (H : Hp) (w : World) (_ : Inv w0 ps0 H0 H [] w) (_ : a0t W0 H K), c6R (Value.int .u64 W0) w R E := by
  intro W0 H w I h
  unfold c6R
  intro _
  unfold a0t at h
  exact hR W0 H _ I h
 refine m6 fun j1 hx1 => ?_
 obtain ⟨J_9, b1L, d8Z, d9a⟩ := h
 refine p9 (J := fun n l w => ∃ (s : Int × Int) (H : Hp) , n = b1L s ∧ l = (match s with | (J2, L6) => [(Value.int .u64 J2), (vi L6)]) ∧ (match s with | (J2, L6) => Inv w0 ps0 H0 H [] w) ∧ J_9 s H) ⟨_, (14695981039346656037, 0), H, rfl, rfl, I, d8Z⟩ ?_
 rintro g6H τ_14 w next2 ⟨⟨J2, L6⟩, H, rfl, a8a, I, d9b⟩ hn2
 dsimp only at a8a I
 simp only [List.map_cons, List.map_nil, List.cons.injEq, and_true] at a8a
 obtain ⟨e3, e4⟩ := a8a
 simp only [e3, e4]
 obtain ⟨n2, hm2, h⟩ : ∃ n2 : (Int × Int) → Hp → Prop, (∀ s' H', n2 s' H' → J_9 s' H' ∧ b1L s' < b1L (J2, L6)) ∧ a0u x0 J2 L6 H n2 K := ⟨_, fun _ _ h => h, d9a (J2, L6) H (fun s' H' => J_9 s' H' ∧ b1L s' < b1L (J2, L6)) d9b (fun _ _ a b => ⟨a, b⟩)⟩
 unfold d5a
 unfold a0u at h
 refine a7 (b5g _ _ _) ?_
 refine a7 (o2 _ _ _ _ _ _) ?_
 refine g6 (fun c_8 => ?_) (fun c_8 => ?_)
 ·replace h := h.1 c_8
  obtain ⟨h_4, h_5, x_1, h_7, h⟩ := h
  obtain ⟨g_2, o_3, h_6, h_7⟩ := h_7
  refine a7 (b7D h_6 _ _ _ _ h_4 h_5) ?_
  refine c5 (ld1 (v := (Value.int .u8 x_1)) Tryd.isAgg5 (I.atH h_7)) ?_
  refine a7 (b8U _ _) ?_
  refine a7 (c7Y _ _ _ _ _ _) ?_
  refine a7 (b5d _ _ _ _ _ _) ?_
  refine a7 (m4 _ _ _ _ _ _) ?_
  exact hn2 _ _ _ (hm2 _ _ h).2 ⟨((IntKind.wrap .u64 ((bxorI .u64 J2 (IntKind.wrap .u64 x_1)) * 1099511628211)), (IntKind.wrap .i64 (L6 + 1))), H, rfl, rfl, I, (hm2 _ _ h).1⟩
 ·replace h := h.2 c_8
  exact hx1 _ _ (hj1 J2 H _ I h)
theorem b2d (x0 : Sl) {H : Hp} {K : Int → Hp → Prop} (h : a1G x0 H K) : N7 x0 H K := by
 intro w I
 refine f6w ?_
 refine b1R x0 I (fun r0 H' w' I' hk => ⟨H', _, I', r0, rfl, rfl, hk⟩) h
def a1l (x0 : k5) (H : Hp) (K : Int → Int → Hp → Prop) : Prop :=
 Z7 x0 H (fun (o9 : Sl) (a5d : Int) (H_6 : Hp) =>
 (¬ (a5d = 0) →
 K 0 a5d H_6) ∧
 (a5d = 0 →
 N7 o9 H_6 (fun (a9v : Int) (b2R : Hp) =>
 K a9v 0 b2R)))
theorem b0z (x0 : k5) {w0 w : World} {ps0 : Nat → Prop} {H0 H : Hp} {K : Int → Int → Hp → Prop} {R : Value → World → Prop} {E : Pan} (I : Inv w0 ps0 H0 H [] w) (hR : ∀ (r0 : Int) (r1 : Int) (H' : Hp) (w' : World) (_ : Inv w0 ps0 H0 H' [] w') (_ : K r0 r1 H'), R (Value.tuple #[(Value.int .u64 r0), (vi r1)]) w') (h : a1l x0 H K) : F34 (Value.agg (f9 x0).toArray) w R E := by
 unfold a1l at h
 unfold F34
 refine J4 I (cs := (f9 x0)) rfl fun g_2 w_3 I_4 k_5 => ?_
 refine c5 (ldA Tryd.isAgg25 Tryd.sizeOf25 rfl (I_4.at1 (o := 0) (vs := (f9 x0)) (nb rfl) rfl)) ?_
 refine f6 (cap := []) (fun args w => Tryd.call32 args w) ?_
 refine i6 (Fi := []) (Fr := [bx g_2 25 (f9 x0)]) I_4 (h) (fun a5D H_6 a5E w_7 I_8 a4J k_9 R3 => ?_) (fun _ _ _ _ _ q => q.elim)
 obtain ⟨o9, a5d, rfl, rfl, h⟩ := R3
 refine a7 (r7 _ _ _ rfl) ?_
 refine a7 (r7 _ _ _ rfl) ?_
 refine a7 (F6 _ _ _ _ _ _) ?_
 refine a8O (fun a6U => ?_) (fun a6U => ?_)
 ·replace h := h.1 a6U
  exact hR 0 a5d H_6 _ I_8.drop h
 ·replace h := h.2 a6U
  refine f6 (cap := []) (fun args w => Tryd.call36 args w) ?_
  refine i6 (Fi := []) (Fr := [bx g_2 25 (f9 x0)]) I_8 (h) (fun f9v b2R f9w o6 a8i f9x c1p c7F => ?_) (fun _ _ _ _ _ q => q.elim)
  obtain ⟨a9v, rfl, rfl, h⟩ := c7F
  exact hR a9v 0 b2R _ a8i.drop h
theorem b1S (x0 : k5) {H : Hp} {K : Int → Int → Hp → Prop} (h : a1l x0 H K) : a3o x0 H K := by
 intro w I
 refine f6r ?_
 refine b0z x0 I (fun r0 r1 H' w' I' hk => ⟨H', _, I', r0, r1, rfl, rfl, hk⟩) h
def Q3 (x0 : k5) (x1 : Sl) (H : Hp) (K : Bool → Hp → Prop) : Prop :=
 a5r H (fun (o9 : Bool) (H_6 : Hp) =>
 ((!o9) = true →
 K false H_6) ∧
 ((!o9) = false →
 a2t x0 H_6 (fun (a9v : Sl) (a5m : Int) (b2R : Hp) =>
 Z7 x0 b2R (fun (e0D : Sl) (S6 : Int) (f9y : Hp) =>
 a5B x0 f9y (fun (a6i : Int) (a5n : Int) (a7Z : Hp) =>
 a3o x0 a7Z (fun (a6j : Int) (_r1_50 : Int) (c7G : Hp) =>
 TG (((decide (a5m = S6)) && (decide (a5n = S6))) = true) (a5H a9v e0D c7G) false c7G (fun (a4g : Bool) (a5F : Hp) =>
 TG (((((decide (a5m = S6)) && (decide (a5n = S6))) && a4g) && (decide (a6i = a6j))) = true) (a2o x1 a5F) 0 a5F (fun (a8B : Int) (a7f : Hp) =>
 TG (((((decide (a5m = S6)) && (decide (a5n = S6))) && a4g) && (decide (a6i = a6j))) = true) (N7 x1 a7f) 0 a7f (fun (a2u : Int) (a5f : Hp) =>
 K (((((decide (a5m = S6)) && (decide (a5n = S6))) && a4g) && (decide (a6i = a6j))) && (decide (a8B = a2u))) a5f)))))))))
theorem a6z (x0 : k5) (x1 : Sl) {w0 w : World} {ps0 : Nat → Prop} {H0 H : Hp} {K : Bool → Hp → Prop} {R : Value → World → Prop} {E : Pan} (I : Inv w0 ps0 H0 H [] w) (hR : ∀ (r0 : Bool) (H' : Hp) (w' : World) (_ : Inv w0 ps0 H0 H' [] w') (_ : K r0 H'), R (Value.bool r0) w') (h : Q3 x0 x1 H K) : F7 (Value.agg (f9 x0).toArray) (vs x1) w R E := by
 unfold Q3 at h
 unfold F7
 refine J4 I (cs := (f9 x0)) rfl fun g_2 w_3 I_4 k_5 => ?_
 refine f6 (cap := []) (fun args w => Tryd.call21 args w) ?_
 refine i6 (Fi := []) (Fr := [bx g_2 25 (f9 x0)]) I_4 (h) (fun a5D H_6 a5E w_7 I_8 a4J k_9 R3 => ?_) (fun _ _ _ _ _ q => q.elim)
 obtain ⟨o9, rfl, rfl, h⟩ := R3
 refine a7 (G7 _) ?_
 refine k8 (fun b1o => ?_) (fun b1o => ?_)
 ·replace h := h.1 b1o
  exact hR false H_6 _ I_8.drop h
 ·replace h := h.2 b1o
  refine c5 (ldA Tryd.isAgg25 Tryd.sizeOf25 rfl (I_8.at1 (o := 0) (vs := (f9 x0)) (nb rfl) rfl)) ?_
  refine f6 (cap := []) (fun args w => Tryd.call31 args w) ?_
  refine i6 (Fi := []) (Fr := [bx g_2 25 (f9 x0)]) I_8 (h) (fun f9v b2R f9w o6 a8i f9x c1p c7F => ?_) (fun _ _ _ _ _ q => q.elim)
  obtain ⟨a9v, a5m, rfl, rfl, h⟩ := c7F
  refine a7 (r7 _ _ _ rfl) ?_
  refine a7 (r7 _ _ _ rfl) ?_
  refine c5 (ldA Tryd.isAgg25 Tryd.sizeOf25 rfl (a8i.at1 (o := 0) (vs := (f9 x0)) (nb rfl) rfl)) ?_
  refine f6 (cap := []) (fun args w => Tryd.call32 args w) ?_
  refine i6 (Fi := []) (Fr := [bx g_2 25 (f9 x0)]) a8i (h) (fun h3A f9y f8Y a4F b4G h3B d8N g8b => ?_) (fun _ _ _ _ _ q => q.elim)
  obtain ⟨e0D, S6, rfl, rfl, h⟩ := g8b
  refine a7 (r7 _ _ _ rfl) ?_
  refine a7 (r7 _ _ _ rfl) ?_
  refine c5 (ldA Tryd.isAgg25 Tryd.sizeOf25 rfl (b4G.at1 (o := 0) (vs := (f9 x0)) (nb rfl) rfl)) ?_
  refine f6 (cap := []) (fun args w => Tryd.call33 args w) ?_
  refine i6 (Fi := []) (Fr := [bx g_2 25 (f9 x0)]) b4G (h) (fun h3C a7Z h3D z7 f9z h3E h3F g8c => ?_) (fun _ _ _ _ _ q => q.elim)
  obtain ⟨a6i, a5n, rfl, rfl, h⟩ := g8c
  refine a7 (r7 _ _ _ rfl) ?_
  refine a7 (r7 _ _ _ rfl) ?_
  refine c5 (ldA Tryd.isAgg25 Tryd.sizeOf25 rfl (f9z.at1 (o := 0) (vs := (f9 x0)) (nb rfl) rfl)) ?_
  refine f6 (cap := []) (fun args w => Tryd.call34 args w) ?_
  refine i6 (Fi := []) (Fr := [bx g_2 25 (f9 x0)]) f9z (h) (fun h3G c7G h3H b5o f9A f7J h3I g8d => ?_) (fun _ _ _ _ _ q => q.elim)
  obtain ⟨a6j, h1b, rfl, rfl, h⟩ := g8d
  refine a7 (r7 _ _ _ rfl) ?_
  refine a7 (r7 _ _ _ rfl) ?_
  refine a7 (d4 _ _ _ _ _ _) ?_
  try simp only [m1]
  try simp only [m1, Q8, a2d, a0T, V3, a2h, a2e, a2f, a2g, a2i]
  refine a7 (Pu.g fun hb => by have a8 := hb; first | exact (d4 _ _ _ _ _ _) | (simp only [b6 a8]; exact (d4 _ _ _ _ _ _)) | (simp only [b9 a8, b6 a8, b6 hb, d8 a8, f8]; exact (d4 _ _ _ _ _ _))) ?_
  refine a7 (m3 _ _) ?_
  try simp only [m1]
  try simp only [m1, Q8, a2d, a0T, V3, a2h, a2e, a2f, a2g, a2i]
  refine a2j (D := fun d9y D8 => ∃ (a4g : Bool) (a5F : Hp) , d9y = (gv ((decide (a5m = S6)) && (decide (a5n = S6))) true (Value.bool a4g)) ∧ (Inv w0 ps0 H0 a5F [bx g_2 25 (f9 x0)] D8) ∧ (∀ i, i < b5o.heap.size → ¬ inF [] i → D8.heap[i]? = b5o.heap[i]?) ∧ Hle c7G a5F ∧ (TG (((((decide (a5m = S6)) && (decide (a5n = S6))) && a4g) && (decide (a6i = a6j))) = true) (a2o x1 a5F) 0 a5F (fun (a8B : Int) (a7f : Hp) =>
 TG (((((decide (a5m = S6)) && (decide (a5n = S6))) && a4g) && (decide (a6i = a6j))) = true) (N7 x1 a7f) 0 a7f (fun (a2u : Int) (a5f : Hp) =>
 K (((((decide (a5m = S6)) && (decide (a5n = S6))) && a4g) && (decide (a6i = a6j))) && (decide (a8B = a2u))) a5f)))) (fun c1R => ?_) (fun c1R => ?_) ?_
  ·replace h := h.1 c1R
   have a8 := c1R
   try simp only [b6 a8]
   refine f6 (cap := []) (fun args w => Tryd.call35 args w) ?_
   refine i6 (Fi := []) (Fr := [bx g_2 25 (f9 x0)]) f9A (h) (fun d9y a5F h3J D8 d3b f9B f9C g8e => ?_) (fun _ _ _ _ _ q => q.elim)
   obtain ⟨a4g, rfl, rfl, h⟩ := g8e
   exact ⟨a4g, a5F, by first | rfl | rw [b6 c1R], d3b, f9C, f9B, h⟩
  ·exact ⟨false, c7G, by first | rfl | rw [a5x c1R], f9A, fun _ _ _ => rfl, Hle.refl _, h.2 c1R⟩
  ·clear h
   rintro d9y D8 ⟨a4g, a5F, rfl, d3b, f9C, f9B, h⟩
   refine a7 (m3 _ _) ?_
   try simp only [m1]
   try simp only [m1, Q8, a2d, a0T, V3, a2h, a2e, a2f, a2g, a2i]
   refine a7 (Pu.g fun hb => by have a8 := hb; first | exact (d4 _ _ _ _ _ _) | (simp only [b6 a8]; exact (d4 _ _ _ _ _ _)) | (simp only [b9 a8, b6 a8, b6 hb, d8 a8, f8]; exact (d4 _ _ _ _ _ _))) ?_
   refine a7 (m3 _ _) ?_
   try simp only [m1]
   refine a2j (D := fun d9z b0M => ∃ (a8B : Int) (a7f : Hp) , d9z = (gv ((((decide (a5m = S6)) && (decide (a5n = S6))) && a4g) && (decide (a6i = a6j))) true (Value.int .u64 a8B)) ∧ (Inv w0 ps0 H0 a7f [bx g_2 25 (f9 x0)] b0M) ∧ (∀ i, i < D8.heap.size → ¬ inF [] i → b0M.heap[i]? = D8.heap[i]?) ∧ Hle a5F a7f ∧ (TG (((((decide (a5m = S6)) && (decide (a5n = S6))) && a4g) && (decide (a6i = a6j))) = true) (N7 x1 a7f) 0 a7f (fun (a2u : Int) (a5f : Hp) =>
 K (((((decide (a5m = S6)) && (decide (a5n = S6))) && a4g) && (decide (a6i = a6j))) && (decide (a8B = a2u))) a5f))) (fun b6I => ?_) (fun b6I => ?_) ?_
   ·replace h := h.1 b6I
    have a8 := b6I
    try simp only [b6 a8]
    refine f6 (cap := []) (fun args w => Tryd.call22 args w) ?_
    refine i6 (Fi := []) (Fr := [bx g_2 25 (f9 x0)]) d3b (h) (fun d9z a7f h3K b0M c1O d2e d9i g8f => ?_) (fun _ _ _ _ _ q => q.elim)
    obtain ⟨a8B, rfl, rfl, h⟩ := g8f
    exact ⟨a8B, a7f, by first | rfl | rw [b6 b6I], c1O, d9i, d2e, h⟩
   ·exact ⟨0, a5F, by first | rfl | rw [a5x b6I], d3b, fun _ _ _ => rfl, Hle.refl _, h.2 b6I⟩
   ·clear h
    rintro d9z b0M ⟨a8B, a7f, rfl, c1O, d9i, d2e, h⟩
    try simp only [m1, Q8, a2d, a0T, V3, a2h, a2e, a2f, a2g, a2i]
    refine a2j (D := fun b7Y K8 => ∃ (a2u : Int) (a5f : Hp) , b7Y = (gv ((((decide (a5m = S6)) && (decide (a5n = S6))) && a4g) && (decide (a6i = a6j))) true (Value.int .u64 a2u)) ∧ (Inv w0 ps0 H0 a5f [bx g_2 25 (f9 x0)] K8) ∧ (∀ i, i < b0M.heap.size → ¬ inF [] i → K8.heap[i]? = b0M.heap[i]?) ∧ Hle a7f a5f ∧ (K (((((decide (a5m = S6)) && (decide (a5n = S6))) && a4g) && (decide (a6i = a6j))) && (decide (a8B = a2u))) a5f)) (fun c1S => ?_) (fun c1S => ?_) ?_
    ·replace h := h.1 c1S
     have a8 := c1S
     try simp only [b6 a8]
     refine f6 (cap := []) (fun args w => Tryd.call36 args w) ?_
     refine i6 (Fi := []) (Fr := [bx g_2 25 (f9 x0)]) c1O (h) (fun b7Y a5f g5v K8 c1l d6Q d6R d6S => ?_) (fun _ _ _ _ _ q => q.elim)
     obtain ⟨a2u, rfl, rfl, h⟩ := d6S
     exact ⟨a2u, a5f, by first | rfl | rw [b6 c1S], c1l, d6R, d6Q, h⟩
    ·exact ⟨0, a7f, by first | rfl | rw [a5x c1S], c1O, fun _ _ _ => rfl, Hle.refl _, h.2 c1S⟩
    ·clear h
     rintro b7Y K8 ⟨a2u, a5f, rfl, c1l, d6R, d6Q, h⟩
     refine a7 (Pu.g fun hb => by have a8 := hb; first | exact (d4 _ _ _ _ _ _) | (simp only [b6 a8]; exact (d4 _ _ _ _ _ _)) | (simp only [b9 a8, b6 a8, b6 hb, d8 a8, f8]; exact (d4 _ _ _ _ _ _))) ?_
     refine a7 (m3 _ _) ?_
     exact hR (((((decide (a5m = S6)) && (decide (a5n = S6))) && a4g) && (decide (a6i = a6j))) && (decide (a8B = a2u))) a5f _ c1l.drop h
theorem a7g (x0 : k5) (x1 : Sl) {H : Hp} {K : Bool → Hp → Prop} (h : Q3 x0 x1 H K) : a0y x0 x1 H K := by
 intro w I
 refine g2P ?_
 refine a6z x0 x1 I (fun r0 H' w' I' hk => ⟨H', _, I', r0, rfl, rfl, hk⟩) h
end Go.Proofs.YthldnpmfelniiaaDoor
