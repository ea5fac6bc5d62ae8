/- Typed formulas of the program's functions that few laws need; printed by lift.py off the code. -/
import Derived.Test.YthldnpmfelniiaaDoorzDV1
import Derived.Test.YthldnpmfelniiaaDoorzDG1w
namespace Go.Proofs.YthldnpmfelniiaaDoor
open Go.RowKit
set_option maxRecDepth 100000
set_option maxHeartbeats 2000000
def a0T (a2S : Int) (H : Hp) (K : Int → Hp → Prop) : Prop :=
 K a2S H
def a0U (e8M : Sl) (a2y : Int) (a7X : Int) (N2 : Int) (H : Hp) (n2 : (Int × Int) → Hp → Prop) (K : Int → Hp → Prop) : Prop :=
 (N2 < a2y →
 (0 : Int) ≤ N2 ∧ (N2 : Int) < e8M.n ∧ ∃ x_1 : Int, EltH H e8M N2 1 [(Value.int .u8 x_1)] ∧
 n2 ((IntKind.wrap .u64 ((bxorI .u64 a7X (IntKind.wrap .u64 x_1)) * 1099511628211)), (IntKind.wrap .i64 (N2 + 1))) H) ∧
 (¬ (N2 < a2y) →
 a0T a7X H K)
def a2u (x0 : Sl) (H : Hp) (K : Int → Hp → Prop) : Prop :=
 TL ((14695981039346656037, 0) : Int × Int) H fun (s : Int × Int) H n2 => a0U x0 (x0.n : Int) s.1 s.2 H n2 K
theorem b3b (x0 : Sl) {w0 w : World} {ps0 : Nat → Prop} {H0 H : Hp} {K : Int → Hp → Prop} {R : Value → World → Prop} {E : Pan} (I : Inv w0 ps0 H0 H [] w) (hR : ∀ (r0 : Int) (H' : Hp) (w' : World) (_ : Inv w0 ps0 H0 H' [] w') (_ : K r0 H'), R (Value.int .u64 r0) w') (h : a2u x0 H K) : F22 (vs x0) w R E := by
 unfold a2u at h
 unfold F22
 have hj1 : ∀ (a2S : Int) (H : Hp) (w : World) (_ : Inv w0 ps0 H0 H [] w) (_ : a0T a2S H K), c2Z (Value.int .u64 a2S) w R E := by
  intro a2S H w I h
  unfold c2Z
  intro _
  unfold a0T at h
  exact hR a2S H _ I h
 refine t7 fun j1 hx1 => ?_
 refine a8 (b8R _ _ _) ?_
 obtain ⟨J_9, c3k, f4S, f4T⟩ := h
 refine y9 (J := fun n l w => ∃ (s : Int × Int) (H : Hp) , n = c3k s ∧ l = (match s with | (a7X, N2) => [(Value.int .u64 a7X), (vi N2)]) ∧ (match s with | (a7X, N2) => Inv w0 ps0 H0 H [] w) ∧ J_9 s H) ⟨_, (14695981039346656037, 0), H, rfl, rfl, I, f4S⟩ ?_
 rintro f9o τ_14 w next2 ⟨⟨a7X, N2⟩, H, rfl, b8m, I, f4U⟩ hn2
 dsimp only at b8m I
 simp only [List.map_cons, List.map_nil, List.cons.injEq, and_true] at b8m
 obtain ⟨e3, e8⟩ := b8m
 simp only [e3, e8]
 obtain ⟨n2, hm2, h⟩ : ∃ n2 : (Int × Int) → Hp → Prop, (∀ s' H', n2 s' H' → J_9 s' H' ∧ c3k s' < c3k (a7X, N2)) ∧ a0U x0 (x0.n : Int) a7X N2 H n2 K := ⟨_, fun _ _ h => h, f4T (a7X, N2) H (fun s' H' => J_9 s' H' ∧ c3k s' < c3k (a7X, N2)) f4U (fun _ _ a b => ⟨a, b⟩)⟩
 unfold c9T
 unfold a0U at h
 refine a8 (C4 _ _ _ _ _ _) ?_
 refine h9 (fun c_8 => ?_) (fun c_8 => ?_)
 ·replace h := h.1 c_8
  obtain ⟨h_4, h_5, x_1, h_7, h⟩ := h
  obtain ⟨g_2, o_3, h_6, h_7⟩ := h_7
  refine a8 (b9K h_6 _ _ _ _ h_4 h_5) ?_
  refine b7 (ld1 (v := (Value.int .u8 x_1)) Tryd.isAgg5 (I.atH h_7)) ?_
  refine a8 (c4v _ _) ?_
  refine a8 (d4q _ _ _ _ _ _) ?_
  refine a8 (c7Y _ _ _ _ _ _) ?_
  refine a8 (s6 _ _ _ _ _ _) ?_
  exact hn2 _ _ _ (hm2 _ _ h).2 ⟨((IntKind.wrap .u64 ((bxorI .u64 a7X (IntKind.wrap .u64 x_1)) * 1099511628211)), (IntKind.wrap .i64 (N2 + 1))), H, rfl, rfl, I, (hm2 _ _ h).1⟩
 ·replace h := h.2 c_8
  exact hx1 _ _ (hj1 a7X H _ I h)
theorem b4v (x0 : Sl) {H : Hp} {K : Int → Hp → Prop} (h : a2u x0 H K) : a3Z x0 H K := by
 intro w I
 refine e7b ?_
 refine b3b x0 I (fun r0 H' w' I' hk => ⟨H', _, I', r0, rfl, rfl, hk⟩) h
def V2 (b0g : a2d) (_cr_1l2 : a2d) (a1z : Int) (a1J : (List Int)) (H : Hp) (n2 : (Int × (List Int)) → Hp → Prop) (K : Sl → (List Int) → Hp → Prop) : Prop :=
 (a1z < 4 →
 (0 : Int) ≤ a1z ∧ (a1z : Int) < 4 ∧
 (a1J.length + ([IntKind.wrap .u8 (([b0g.f0, b0g.f1, b0g.f2, b0g.f3] : List Int).getD (a1z : Int).toNat 0)] : List Int).length) * 2 ≤ 140737488355328 ∧
 n2 ((IntKind.wrap .i64 (a1z + 1)), (a1J ++ [IntKind.wrap .u8 (([b0g.f0, b0g.f1, b0g.f2, b0g.f3] : List Int).getD (a1z : Int).toNat 0)])) H) ∧
 (¬ (a1z < 4) →
 K (Sl.mk none 0 0) a1J H)
def V3 (a2S : ByteArray) (a4I : (List Int)) (cr_1j1 : a2d) (H : Hp) (K : Sl → (List Int) → Hp → Prop) : Prop :=
 ((a4I : List Int).length + a2S.size) * 2 ≤ 140737488355328 ∧
 ((a4I ++ (sbytes a2S)).length + ([0] : List Int).length) * 2 ≤ 140737488355328 ∧
 TL ((0, ((a4I ++ (sbytes a2S)) ++ [0])) : Int × (List Int)) H fun (s : Int × (List Int)) H n2 => V2 cr_1j1 cr_1j1 s.1 s.2 H n2 K
def V4 (c2t : Int) (f4V : ByteArray) (cr_1l3 : a2d) (a1S : Int) (a1K : (List Int)) (H : Hp) (n3 : (Int × (List Int)) → Hp → Prop) (K : Sl → (List Int) → Hp → Prop) : Prop :=
 (a1S < 8 →
 (0 : Int) ≤ IntKind.wrap .i64 (56 - (IntKind.wrap .i64 (8 * a1S))) ∧
 (a1K.length + ([IntKind.wrap .u8 (shrI .u64 (IntKind.wrap .u64 c2t) (IntKind.wrap .i64 (56 - (IntKind.wrap .i64 (8 * a1S)))))] : List Int).length) * 2 ≤ 140737488355328 ∧
 n3 ((IntKind.wrap .i64 (a1S + 1)), (a1K ++ [IntKind.wrap .u8 (shrI .u64 (IntKind.wrap .u64 c2t) (IntKind.wrap .i64 (56 - (IntKind.wrap .i64 (8 * a1S)))))])) H) ∧
 (¬ (a1S < 8) →
 V3 f4V a1K cr_1l3 H K)
def a0h (x0 : Int) (x1 : Int) (x2 : Int) (x3 : ByteArray) (x4 : a2d) (_x5 : Sl) (x5_ : (List Int)) (H : Hp) (K : Sl → (List Int) → Hp → Prop) : Prop :=
 (x5_.length + ([x0, IntKind.wrap .u8 x1] : List Int).length) * 2 ≤ 140737488355328 ∧
 TL ((0, (x5_ ++ [x0, IntKind.wrap .u8 x1])) : Int × (List Int)) H fun (s : Int × (List Int)) H n3 => V4 x2 x3 x4 s.1 s.2 H n3 K
theorem a9y (x0 : Int) (x1 : Int) (x2 : Int) (x3 : ByteArray) (x4 : a2d) (x5 : Sl) (x5_ : (List Int)) (g5 : Nat) (sx5_ : Sl) (Fx5_ : Frag) (hx5_ : RowL 5 1 o0 sx5_ x5_ Fx5_) {w0 w : World} {ps0 : Nat → Prop} {H0 H : Hp} {K : Sl → (List Int) → Hp → Prop} {R : Value → World → Prop} {E : Pan} (I : Inv w0 ps0 H0 H [bx g5 40 [(vs sx5_)], Fx5_] w) (hR : ∀ (y0 : Sl) (y0_ : (List Int)) (sy0_ : Sl) (Fy0_ : Frag) (H' : Hp) (w' : World) (_ : RowL 5 1 o0 sy0_ y0_ Fy0_) (_ : Inv w0 ps0 H0 H' [bx g5 40 [(vs sy0_)], Fy0_] w') (_ : K y0 y0_ H'), R (Value.tuple #[]) w') (h : a0h x0 x1 x2 x3 x4 x5 x5_ H K) : F68 (Value.int .u8 x0) (vi x1) (vi x2) (Value.string x3) (Value.agg #[(vi x4.f0), (vi x4.f1), (vi x4.f2), (vi x4.f3)]) (Value.pointer (some ⟨g5, 0, none⟩)) w R E := by
 unfold a0h at h
 unfold F68
 refine D8 I (cs := [(vi x4.f0), (vi x4.f1), (vi x4.f2), (vi x4.f3)]) rfl fun g_2 w_3 I_4 k_5 => ?_
 refine b7 (ld1 Tryd.isAgg40 ((I_4.bring 1).at1 (o := 0) (vs := [(vs sx5_)]) (nb rfl) rfl)) ?_
 refine a8 (b8S _ _) ?_
 refine a6N (e := 5) (c := o0) (xs := [x0, IntKind.wrap .u8 x1]) I_4 (d4w _ _) rfl rfl a5N a5O (nb rfl) fun s_7 F_8 w_9 f4W a1q b0x => ?_
 obtain ⟨a4Y, h⟩ := h
 refine b6z (s := sx5_) (xs := x5_) (a1q.bring 3) hx5_ (f4W.srcO ((a1q.bring 3).bring 1)) a4Y fun d3h e5V b3I a3g b6m d2v => ?_
 refine o8 ((b6m.bring 1).drop.bring 2) Tryd.sizeOf40 (vs := [(vs d3h)]) (cs' := [(vs d3h)]) rfl rfl (nb rfl) rfl rfl fun o9 b8v d2o => ?_
 have hj1 : ∀ (a4I : (List Int)) (b4w : Sl) (Fcp5j1 : Frag) (H : Hp) (w : World) (_ : RowL 5 1 o0 b4w a4I Fcp5j1) (_ : Inv w0 ps0 H0 H [bx g5 40 [(vs b4w)], bx g_2 114 [(vi x4.f0), (vi x4.f1), (vi x4.f2), (vi x4.f3)], Fcp5j1] w) (_ : V3 x3 a4I x4 H K), c3e (Value.string x3) (Value.pointer (some ⟨g5, 0, none⟩)) (Value.pointer (some ⟨g_2, 0, none⟩)) w R E := by
  intro a4I b4w Fcp5j1 H w e8N I h
  unfold c3e
  intro _
  unfold V3 at h
  refine b7 (ld1 Tryd.isAgg40 (I.at1 (o := 0) (vs := [(vs b4w)]) (nb rfl) rfl)) ?_
  obtain ⟨d2L, h⟩ := h
  refine c8c (s := b4w) (xs := a4I) (b := x3) (I.bring 2) e8N d2L fun f4X f9p c0v b2k d3i f4Y => ?_
  refine a6N (e := 5) (c := o0) (xs := [0]) d3i (b4F _) rfl rfl a5N a5O (nb rfl) fun f9q d1E d0N a9o c2y f4D => ?_
  obtain ⟨d1e, h⟩ := h
  refine b6z (s := f4X) (xs := a4I ++ (sbytes x3)) (c2y.bring 1) b2k (a9o.srcO ((c2y.bring 1).bring 1)) d1e fun c1V e6u a7F c2q c3l f4Z => ?_
  refine o8 ((c3l.bring 1).drop.bring 1) Tryd.sizeOf40 (vs := [(vs c1V)]) (cs' := [(vs c1V)]) rfl rfl (nb rfl) rfl rfl fun R2 b4n d2C => ?_
  refine b7 (ldA Tryd.isAgg114 Tryd.sizeOf114 rfl ((b4n.bring 2).at1 (o := 0) (vs := [(vi x4.f0), (vi x4.f1), (vi x4.f2), (vi x4.f3)]) (nb rfl) rfl)) ?_
  obtain ⟨c6Y, b7y, f0T, f0U⟩ := h
  refine y9 (J := fun n l w => ∃ (s : Int × (List Int)) (H : Hp) (b1t : Sl) (Fcp5l2 : Frag) , n = b7y s ∧ l = (match s with | (a1z, a1J) => [(vi a1z)]) ∧ (match s with | (a1z, a1J) => RowL 5 1 o0 b1t a1J Fcp5l2) ∧ (match s with | (a1z, a1J) => Inv w0 ps0 H0 H [bx g5 40 [(vs b1t)], bx g_2 114 [(vi x4.f0), (vi x4.f1), (vi x4.f2), (vi x4.f3)], Fcp5l2] w) ∧ c6Y s H) ⟨_, (0, ((a4I ++ (sbytes x3)) ++ [0])), H, c1V, e6u, rfl, rfl, c2q, (((b4n.bring 1).bring 2).bring 2), f0T⟩ ?_
  rintro f6l τ_120 w next2 ⟨⟨a1z, a1J⟩, H, b1t, Fcp5l2, rfl, b9w, c3m, I, f0V⟩ hn2
  dsimp only at b9w I c3m
  simp only [List.map_cons, List.map_nil, List.cons.injEq, and_true] at b9w
  have e40 := b9w
  simp only [e40]
  obtain ⟨n2, hm2, h⟩ : ∃ n2 : (Int × (List Int)) → Hp → Prop, (∀ s' H', n2 s' H' → c6Y s' H' ∧ b7y s' < b7y (a1z, a1J)) ∧ V2 x4 x4 a1z a1J H n2 K := ⟨_, fun _ _ h => h, f0U (a1z, a1J) H (fun s' H' => c6Y s' H' ∧ b7y s' < b7y (a1z, a1J)) f0V (fun _ _ a b => ⟨a, b⟩)⟩
  unfold c9W
  unfold V2 at h
  refine a8 (C4 _ _ _ _ _ _) ?_
  refine h9 (fun c6Z => ?_) (fun c6Z => ?_)
  ·replace h := h.1 c6Z
   obtain ⟨d2J, c2v, h⟩ := h
   refine a8 (c4z _ _ _ _ _ _ d2J c2v) ?_
   refine b7 (ld1 Tryd.isAgg40 (I.at1 (o := 0) (vs := [(vs b1t)]) (nb rfl) rfl)) ?_
   refine a8 (b8S _ _) ?_
   refine a6N (e := 5) (c := o0) (xs := [IntKind.wrap .u8 (([x4.f0, x4.f1, x4.f2, x4.f3] : List Int).getD (a1z : Int).toNat 0)]) I (b4F _) rfl rfl a5N a5O (nb rfl) fun f9r f9s a2X f0W d3R f6m => ?_
   obtain ⟨f0X, h⟩ := h
   refine b6z (s := b1t) (xs := a1J) (d3R.bring 3) c3m (f0W.srcO ((d3R.bring 3).bring 1)) f0X fun b7z f0Y a4L f0Z f1a f6n => ?_
   refine o8 ((f1a.bring 1).drop.bring 1) Tryd.sizeOf40 (vs := [(vs b7z)]) (cs' := [(vs b7z)]) rfl rfl (nb rfl) rfl rfl fun f1b b5e f1c => ?_
   refine a8 (s6 _ _ _ _ _ _) ?_
   exact hn2 _ _ _ (hm2 _ _ h).2 ⟨((IntKind.wrap .i64 (a1z + 1)), (a1J ++ [IntKind.wrap .u8 (([x4.f0, x4.f1, x4.f2, x4.f3] : List Int).getD (a1z : Int).toNat 0)])), H, b7z, f0Y, rfl, rfl, f0Z, (((b5e.bring 1).bring 2).bring 2), (hm2 _ _ h).1⟩
  ·replace h := h.2 c6Z
   exact hR (Sl.mk none 0 0) a1J b1t Fcp5l2 H _ c3m (((I.bring 1).drop.bring 1).bring 1) h
 refine t7 fun j1 hx1 => ?_
 obtain ⟨c7a, b7A, f1d, f1e⟩ := h
 refine y9 (J := fun n l w => ∃ (s : Int × (List Int)) (H : Hp) (b1u : Sl) (Fcp5l3 : Frag) , n = b7A s ∧ l = (match s with | (a1S, a1K) => [(vi a1S)]) ∧ (match s with | (a1S, a1K) => RowL 5 1 o0 b1u a1K Fcp5l3) ∧ (match s with | (a1S, a1K) => Inv w0 ps0 H0 H [bx g5 40 [(vs b1u)], bx g_2 114 [(vi x4.f0), (vi x4.f1), (vi x4.f2), (vi x4.f3)], Fcp5l3] w) ∧ c7a s H) ⟨_, (0, (x5_ ++ [x0, IntKind.wrap .u8 x1])), H, d3h, e5V, rfl, rfl, a3g, (((b8v.bring 1).bring 2).bring 2), f1d⟩ ?_
 rintro f6o τ_158 w next3 ⟨⟨a1S, a1K⟩, H, b1u, Fcp5l3, rfl, c7b, c3n, I, f1f⟩ hn3
 dsimp only at c7b I c3n
 simp only [List.map_cons, List.map_nil, List.cons.injEq, and_true] at c7b
 have e20 := c7b
 simp only [e20]
 obtain ⟨n3, hm3, h⟩ : ∃ n3 : (Int × (List Int)) → Hp → Prop, (∀ s' H', n3 s' H' → c7a s' H' ∧ b7A s' < b7A (a1S, a1K)) ∧ V4 x2 x3 x4 a1S a1K H n3 K := ⟨_, fun _ _ h => h, f1e (a1S, a1K) H (fun s' H' => c7a s' H' ∧ b7A s' < b7A (a1S, a1K)) f1f (fun _ _ a b => ⟨a, b⟩)⟩
 unfold c9X
 unfold V4 at h
 refine a8 (C4 _ _ _ _ _ _) ?_
 refine h9 (fun c7c => ?_) (fun c7c => ?_)
 ·replace h := h.1 c7c
  refine a4O I fun a9V c7d => ?_
  refine o3 (c4x _ _) ?_
  refine o3 (c7Y _ _ _ _ _ _) ?_
  refine o3 (b9C _ _ _ _ _ _) ?_
  obtain ⟨f1g, h⟩ := h
  refine o3 (d4t _ _ _ _ _ _ _ f1g) ?_
  refine o3 (c4y _ _) ?_
  refine E8 (ld1 Tryd.isAgg40 (c7d.at1 (o := 0) (vs := [(vs b1u)]) (nb rfl) rfl)) ?_
  refine a6N (e := 5) (c := o0) (xs := [IntKind.wrap .u8 (shrI .u64 (IntKind.wrap .u64 x2) (IntKind.wrap .i64 (56 - (IntKind.wrap .i64 (8 * a1S)))))]) c7d (b4F _) rfl rfl a5N a5O (nb rfl) fun f6p f6q b9n f1h d3S f1i => ?_
  refine ⟨(f1i _ c7d.lt1), ?_⟩
  obtain ⟨f1j, h⟩ := h
  refine b6z (s := b1u) (xs := a1K) (d3S.bring 3) c3n (f1h.srcO ((d3S.bring 3).bring 1)) f1j fun c7e f1k b6S f1l f1m f6r => ?_
  refine o8 ((f1m.bring 1).drop.bring 1) Tryd.sizeOf40 (vs := [(vs c7e)]) (cs' := [(vs c7e)]) rfl rfl (nb rfl) rfl rfl fun f6s f1n f6t => ?_
  refine a8 (s6 _ _ _ _ _ _) ?_
  exact hn3 _ _ _ (hm3 _ _ h).2 ⟨((IntKind.wrap .i64 (a1S + 1)), (a1K ++ [IntKind.wrap .u8 (shrI .u64 (IntKind.wrap .u64 x2) (IntKind.wrap .i64 (56 - (IntKind.wrap .i64 (8 * a1S)))))])), H, c7e, f1k, rfl, rfl, f1l, (((f1n.bring 1).bring 2).bring 2), (hm3 _ _ h).1⟩
 ·replace h := h.2 c7c
  exact hx1 _ _ (hj1 a1K b1u Fcp5l3 H _ c3n (((I.bring 2).bring 2).bring 2) h)
theorem a9M (x0 : Int) (x1 : Int) (x2 : Int) (x3 : ByteArray) (x4 : a2d) (x5 : Sl) (x5_ : (List Int)) {H : Hp} {K : Sl → (List Int) → Hp → Prop} (h : a0h x0 x1 x2 x3 x4 x5 x5_ H K) : N7 x0 x1 x2 x3 x4 x5 x5_ H K := by
 intro g5 sx5_ Fx5_ hx5_ w I
 refine e7X ?_
 refine a9y x0 x1 x2 x3 x4 x5 x5_ g5 sx5_ Fx5_ hx5_ I (fun y0 y0_ sy0_ Fy0_ H' w' khy0_ I' hk => ⟨H', _, I', y0, y0_, sy0_, Fy0_, rfl, rfl, khy0_, hk⟩) h
def V5 (d3T : Sl) (d3U : Int) (_cr_1l1 : h7) (a2G : Int) (D4 : (List Int)) (H : Hp) (n1 : (Int × (List Int)) → Hp → Prop) (K : Sl → (List Int) → Hp → Prop) : Prop :=
 (a2G < d3U →
 (0 : Int) ≤ a2G ∧ (a2G : Int) < d3T.n ∧ ∃ a6x : h7, EltH H d3T a2G 4 (c8 a6x) ∧
 U1 a6x (Sl.mk none 0 0) D4 H (fun (_y0_71 : Sl) (y0__71 : (List Int)) (a9r : Hp) =>
 n1 ((IntKind.wrap .i64 (a2G + 1)), y0__71) a9r)) ∧
 (¬ (a2G < d3U) →
 K (Sl.mk none 0 0) D4 H)
def a0i (x0 : h7) (_x1000 : Sl) (x1000_ : (List Int)) (H : Hp) (K : Sl → (List Int) → Hp → Prop) : Prop :=
 N7 69 x0.d4 x0.F9 x0.d8 (a2d.mk 0 (x0.m9.n : Int) 0 0) (Sl.mk none 0 0) x1000_ H (fun (_y0_14 : Sl) (y0__14 : (List Int)) (H_6 : Hp) =>
 TL ((0, y0__14) : Int × (List Int)) H_6 fun (s : Int × (List Int)) H n1 => V5 x0.m9 (x0.m9.n : Int) x0 s.1 s.2 H n1 K)
theorem a9z (x0 : h7) (x1000 : Sl) (x1000_ : (List Int)) (g1 g2 g1000 : Nat) (sx1000_ : Sl) (Fx1000_ : Frag) (hx1000_ : RowL 5 1 o0 sx1000_ x1000_ Fx1000_) {w0 w : World} {ps0 : Nat → Prop} {H0 H : Hp} {K : Sl → (List Int) → Hp → Prop} {R : Value → World → Prop} {E : Pan} (I : Inv w0 ps0 H0 H [bx g1 115 [(Value.func (.func 68) #[] #[(Value.pointer (some ⟨g1000, 0, none⟩))])], bx g2 103 [(Value.func (.func 69) #[] #[(Value.pointer (some ⟨g1, 0, none⟩)), (Value.pointer (some ⟨g2, 0, none⟩))])], bx g1000 40 [(vs sx1000_)], Fx1000_] w) (hR : ∀ (y0 : Sl) (y0_ : (List Int)) (sy0_ : Sl) (Fy0_ : Frag) (H' : Hp) (w' : World) (_ : RowL 5 1 o0 sy0_ y0_ Fy0_) (_ : Inv w0 ps0 H0 H' [bx g1 115 [(Value.func (.func 68) #[] #[(Value.pointer (some ⟨g1000, 0, none⟩))])], bx g2 103 [(Value.func (.func 69) #[] #[(Value.pointer (some ⟨g1, 0, none⟩)), (Value.pointer (some ⟨g2, 0, none⟩))])], bx g1000 40 [(vs sy0_)], Fy0_] w') (_ : K y0 y0_ H'), R (Value.tuple #[]) w') (h : a0i x0 x1000 x1000_ H K) : F69 (Value.agg (c8 x0).toArray) (Value.pointer (some ⟨g1, 0, none⟩)) (Value.pointer (some ⟨g2, 0, none⟩)) w R E := by
 unfold a0i at h
 unfold F69
 refine D8 I (cs := (c8 x0)) rfl fun g_2 w_3 I_4 k_5 => ?_
 refine b7 (ld1 Tryd.isAgg115 ((I_4.bring 1).at1 (o := 0) (vs := [(Value.func (.func 68) #[] #[(Value.pointer (some ⟨g1000, 0, none⟩))])]) (nb rfl) rfl)) ?_
 refine a8 Y0 ?_
 refine b7 (ld1 Tryd.isAgg3 (I_4.at1 (o := 0) (vs := [(vi x0.d4)]) (nb rfl) rfl)) ?_
 refine a8 L3 ?_
 refine b7 (ld1 Tryd.isAgg2 (I_4.at1 (o := 1) (vs := [(vi x0.F9)]) (nb rfl) rfl)) ?_
 refine a8 K0 ?_
 refine b7 (ld1 Tryd.isAgg9 (I_4.at1 (o := 2) (vs := [(Value.string x0.d8)]) (nb rfl) rfl)) ?_
 refine a8 F0 ?_
 refine b7 (ld1 Tryd.isAgg28 (I_4.at1 (o := 3) (vs := [(vs x0.m9)]) (nb rfl) rfl)) ?_
 refine a8 (q7 _ _ _) ?_
 refine a8 (b0Y _ _) ?_
 refine d7 (cap := [(Value.pointer (some ⟨g1000, 0, none⟩))]) (fun args w => Tryd.call68 args w) ?_
 refine i6 (Fi := [bx g1000 40 [(vs sx1000_)], Fx1000_]) (Fr := [bx g_2 30 (c8 x0), bx g1 115 [(Value.func (.func 68) #[] #[(Value.pointer (some ⟨g1000, 0, none⟩))])], bx g2 103 [(Value.func (.func 69) #[] #[(Value.pointer (some ⟨g1, 0, none⟩)), (Value.pointer (some ⟨g2, 0, none⟩))])]]) ((I_4.bring 4).bring 4) (h g1000 sx1000_ Fx1000_ hx1000_) (fun a7K H_6 a7L w_7 I_8 a7M k_9 a1f => ?_) (fun _ _ _ _ _ q => q.elim)
 obtain ⟨a1u, y0__14, sy0__14, Fy0__14, rfl, rfl, hy0__14, h⟩ := a1f
 refine a8 F0 ?_
 refine b7 (ld1 Tryd.isAgg28 ((I_8.bring 2).at1 (o := 3) (vs := [(vs x0.m9)]) (nb rfl) rfl)) ?_
 refine a8 (q7 _ _ _) ?_
 obtain ⟨a5t, a1I, b6o, b6p⟩ := h
 refine y9 (J := fun n l w => ∃ (s : Int × (List Int)) (H : Hp) (X2 : Sl) (Fcp1000l1 : Frag) , n = a1I s ∧ l = (match s with | (a2G, D4) => [(vi a2G)]) ∧ (match s with | (a2G, D4) => RowL 5 1 o0 X2 D4 Fcp1000l1) ∧ (match s with | (a2G, D4) => Inv w0 ps0 H0 H [bx g1000 40 [(vs X2)], bx g_2 30 (c8 x0), bx g1 115 [(Value.func (.func 68) #[] #[(Value.pointer (some ⟨g1000, 0, none⟩))])], bx g2 103 [(Value.func (.func 69) #[] #[(Value.pointer (some ⟨g1, 0, none⟩)), (Value.pointer (some ⟨g2, 0, none⟩))])], Fcp1000l1] w) ∧ a5t s H) ⟨_, (0, y0__14), H_6, sy0__14, Fy0__14, rfl, rfl, hy0__14, (((((I_8.bring 1).bring 4).bring 4).bring 4).bring 4), b6o⟩ ?_
 rintro d2A τ_78 w next1 ⟨⟨a2G, D4⟩, H, X2, Fcp1000l1, rfl, a2Z, a4k, I, b6q⟩ hn1
 dsimp only at a2Z I a4k
 simp only [List.map_cons, List.map_nil, List.cons.injEq, and_true] at a2Z
 have e21 := a2Z
 simp only [e21]
 obtain ⟨n1, hm1, h⟩ : ∃ n1 : (Int × (List Int)) → Hp → Prop, (∀ s' H', n1 s' H' → a5t s' H' ∧ a1I s' < a1I (a2G, D4)) ∧ V5 x0.m9 (x0.m9.n : Int) x0 a2G D4 H n1 K := ⟨_, fun _ _ h => h, b6p (a2G, D4) H (fun s' H' => a5t s' H' ∧ a1I s' < a1I (a2G, D4)) b6q (fun _ _ a b => ⟨a, b⟩)⟩
 unfold c9Y
 unfold V5 at h
 refine a8 (C4 _ _ _ _ _ _) ?_
 refine h9 (fun a3r => ?_) (fun a3r => ?_)
 ·replace h := h.1 a3r
  obtain ⟨b6j, b2z, a6x, a9o, h⟩ := h
  obtain ⟨f4m, f4n, b6k, a9o⟩ := a9o
  refine a8 (W4 b6k _ _ _ _ b6j b2z) ?_
  refine b7 (ldA (vs := (c8 a6x)) Tryd.isAgg30 Tryd.sizeOf30 rfl (I.atH a9o)) ?_
  refine C1 I Tryd.zeroValue30 (cs := [(vi 0), (vi 0), (Value.string ⟨#[]⟩), (Value.slice none 0 0)]) rfl fun f5a b0r b2M e6x => ?_
  refine o8 b2M Tryd.sizeOf30 (vs := (c8 a6x)) (cs' := (c8 a6x)) rfl rfl (nb rfl) rfl rfl fun T2 c3l f4Z => ?_
  refine b7 (ld1 Tryd.isAgg103 ((c3l.bring 4).at1 (o := 0) (vs := [(Value.func (.func 69) #[] #[(Value.pointer (some ⟨g1, 0, none⟩)), (Value.pointer (some ⟨g2, 0, none⟩))])]) (nb rfl) rfl)) ?_
  refine b7 (ldA Tryd.isAgg30 Tryd.sizeOf30 rfl (c3l.at1 (o := 0) (vs := (c8 a6x)) (nb rfl) rfl)) ?_
  refine d7 (cap := [(Value.pointer (some ⟨g1, 0, none⟩)), (Value.pointer (some ⟨g2, 0, none⟩))]) (fun args w => Tryd.call69 args w) ?_
  refine i6 (Fi := [bx g1 115 [(Value.func (.func 68) #[] #[(Value.pointer (some ⟨g1000, 0, none⟩))])], bx g2 103 [(Value.func (.func 69) #[] #[(Value.pointer (some ⟨g1, 0, none⟩)), (Value.pointer (some ⟨g2, 0, none⟩))])], bx g1000 40 [(vs X2)], Fcp1000l1]) (Fr := [bx f5a 30 (c8 a6x), bx g_2 30 (c8 x0)]) ((((c3l.bring 5).bring 2).bring 5).bring 5) (h g1 g2 g1000 X2 Fcp1000l1 a4k) (fun e6s a9r e6t R2 b4n b4l d2C c2r => ?_) (fun _ _ _ _ _ q => q.elim)
  obtain ⟨b0f, y0__71, sy0__71, Fy0__71, rfl, rfl, hy0__71, h⟩ := c2r
  refine a8 (s6 _ _ _ _ _ _) ?_
  exact hn1 _ _ _ (hm1 _ _ h).2 ⟨((IntKind.wrap .i64 (a2G + 1)), y0__71), a9r, sy0__71, Fy0__71, rfl, rfl, hy0__71, ((((((b4n.bring 4).drop.bring 3).bring 2).bring 2).bring 4).bring 4), (hm1 _ _ h).1⟩
 ·replace h := h.2 a3r
  exact hR (Sl.mk none 0 0) D4 X2 Fcp1000l1 H _ a4k (((((I.bring 1).drop.bring 3).bring 1).bring 3).bring 3) h
theorem a9N (x0 : h7) (x1000 : Sl) (x1000_ : (List Int)) {H : Hp} {K : Sl → (List Int) → Hp → Prop} (h : a0i x0 x1000 x1000_ H K) : U1 x0 x1000 x1000_ H K := by
 intro g1 g2 g1000 sx1000_ Fx1000_ hx1000_ w I
 refine e7Z ?_
 refine a9z x0 x1000 x1000_ g1 g2 g1000 sx1000_ Fx1000_ hx1000_ I (fun y0 y0_ sy0_ Fy0_ H' w' khy0_ I' hk => ⟨H', _, I', y0, y0_, sy0_, Fy0_, rfl, rfl, khy0_, hk⟩) h
def V6 (d3V : Sl) (d3W : Int) (_cr_1l2 : g9) (a2H : Int) (Z1 : (List Int)) (H : Hp) (n2 : (Int × (List Int)) → Hp → Prop) (K : Sl → (List Int) → Hp → Prop) : Prop :=
 (a2H < d3W →
 (0 : Int) ≤ a2H ∧ (a2H : Int) < d3V.n ∧ ∃ b4x : g9, EltH H d3V a2H 4 (c6 b4x) ∧
 Z9 b4x (Sl.mk none 0 0) Z1 H (fun (_y0_95 : Sl) (y0__95 : (List Int)) (d3j : Hp) =>
 n2 ((IntKind.wrap .i64 (a2H + 1)), y0__95) d3j)) ∧
 (¬ (a2H < d3W) →
 K (Sl.mk none 0 0) Z1 H)
def V7 (a5E : (List Int)) (cr_1j1 : g9) (H : Hp) (K : Sl → (List Int) → Hp → Prop) : Prop :=
 TL ((0, a5E) : Int × (List Int)) H fun (s : Int × (List Int)) H n2 => V6 cr_1j1.j9 (cr_1j1.j9.n : Int) cr_1j1 s.1 s.2 H n2 K
def V8 (d3X : Sl) (d3Y : Int) (cr_1l3 : g9) (a1s : Int) (Z2 : (List Int)) (H : Hp) (n3 : (Int × (List Int)) → Hp → Prop) (K : Sl → (List Int) → Hp → Prop) : Prop :=
 (a1s < d3Y →
 (0 : Int) ≤ a1s ∧ (a1s : Int) < d3X.n ∧ ∃ b0h : h7, EltH H d3X a1s 4 (c8 b0h) ∧
 U1 b0h (Sl.mk none 0 0) Z2 H (fun (_y0_137 : Sl) (y0__137 : (List Int)) (b2m : Hp) =>
 n3 ((IntKind.wrap .i64 (a1s + 1)), y0__137) b2m)) ∧
 (¬ (a1s < d3Y) →
 V7 Z2 cr_1l3 H K)
def a0j (x0 : g9) (_x1000 : Sl) (x1000_ : (List Int)) (H : Hp) (K : Sl → (List Int) → Hp → Prop) : Prop :=
 N7 67 x0.d4 x0.fOp ⟨#[]⟩ (a2d.mk (x0.j9.n : Int) (x0.c7.n : Int) 0 0) (Sl.mk none 0 0) x1000_ H (fun (_y0_14 : Sl) (y0__14 : (List Int)) (H_6 : Hp) =>
 TL ((0, y0__14) : Int × (List Int)) H_6 fun (s : Int × (List Int)) H n3 => V8 x0.c7 (x0.c7.n : Int) x0 s.1 s.2 H n3 K)
theorem a9A (x0 : g9) (x1000 : Sl) (x1000_ : (List Int)) (g1 g2 g3 g1000 : Nat) (sx1000_ : Sl) (Fx1000_ : Frag) (hx1000_ : RowL 5 1 o0 sx1000_ x1000_ Fx1000_) {w0 w : World} {ps0 : Nat → Prop} {H0 H : Hp} {K : Sl → (List Int) → Hp → Prop} {R : Value → World → Prop} {E : Pan} (I : Inv w0 ps0 H0 H [bx g1 115 [(Value.func (.func 68) #[] #[(Value.pointer (some ⟨g1000, 0, none⟩))])], bx g2 103 [(Value.func (.func 69) #[] #[(Value.pointer (some ⟨g1, 0, none⟩)), (Value.pointer (some ⟨g2, 0, none⟩))])], bx g3 108 [(Value.func (.func 70) #[] #[(Value.pointer (some ⟨g1, 0, none⟩)), (Value.pointer (some ⟨g2, 0, none⟩)), (Value.pointer (some ⟨g3, 0, none⟩))])], bx g1000 40 [(vs sx1000_)], Fx1000_] w) (hR : ∀ (y0 : Sl) (y0_ : (List Int)) (sy0_ : Sl) (Fy0_ : Frag) (H' : Hp) (w' : World) (_ : RowL 5 1 o0 sy0_ y0_ Fy0_) (_ : Inv w0 ps0 H0 H' [bx g1 115 [(Value.func (.func 68) #[] #[(Value.pointer (some ⟨g1000, 0, none⟩))])], bx g2 103 [(Value.func (.func 69) #[] #[(Value.pointer (some ⟨g1, 0, none⟩)), (Value.pointer (some ⟨g2, 0, none⟩))])], bx g3 108 [(Value.func (.func 70) #[] #[(Value.pointer (some ⟨g1, 0, none⟩)), (Value.pointer (some ⟨g2, 0, none⟩)), (Value.pointer (some ⟨g3, 0, none⟩))])], bx g1000 40 [(vs sy0_)], Fy0_] w') (_ : K y0 y0_ H'), R (Value.tuple #[]) w') (h : a0j x0 x1000 x1000_ H K) : F70 (Value.agg (c6 x0).toArray) (Value.pointer (some ⟨g1, 0, none⟩)) (Value.pointer (some ⟨g2, 0, none⟩)) (Value.pointer (some ⟨g3, 0, none⟩)) w R E := by
 unfold a0j at h
 unfold F70
 refine D8 I (cs := (c6 x0)) rfl fun g_2 w_3 I_4 k_5 => ?_
 refine b7 (ld1 Tryd.isAgg115 ((I_4.bring 1).at1 (o := 0) (vs := [(Value.func (.func 68) #[] #[(Value.pointer (some ⟨g1000, 0, none⟩))])]) (nb rfl) rfl)) ?_
 refine a8 a2V ?_
 refine b7 (ld1 Tryd.isAgg3 (I_4.at1 (o := 0) (vs := [(vi x0.d4)]) (nb rfl) rfl)) ?_
 refine a8 K1 ?_
 refine b7 (ld1 Tryd.isAgg3 (I_4.at1 (o := 1) (vs := [(vi x0.fOp)]) (nb rfl) rfl)) ?_
 refine a8 F3 ?_
 refine b7 (ld1 Tryd.isAgg31 (I_4.at1 (o := 3) (vs := [(vs x0.j9)]) (nb rfl) rfl)) ?_
 refine a8 (C8 _ _ _) ?_
 refine a8 F1 ?_
 refine b7 (ld1 Tryd.isAgg28 (I_4.at1 (o := 2) (vs := [(vs x0.c7)]) (nb rfl) rfl)) ?_
 refine a8 (q7 _ _ _) ?_
 refine a8 (b0Y _ _) ?_
 refine d7 (cap := [(Value.pointer (some ⟨g1000, 0, none⟩))]) (fun args w => Tryd.call68 args w) ?_
 refine i6 (Fi := [bx g1000 40 [(vs sx1000_)], Fx1000_]) (Fr := [bx g_2 33 (c6 x0), bx g1 115 [(Value.func (.func 68) #[] #[(Value.pointer (some ⟨g1000, 0, none⟩))])], bx g2 103 [(Value.func (.func 69) #[] #[(Value.pointer (some ⟨g1, 0, none⟩)), (Value.pointer (some ⟨g2, 0, none⟩))])], bx g3 108 [(Value.func (.func 70) #[] #[(Value.pointer (some ⟨g1, 0, none⟩)), (Value.pointer (some ⟨g2, 0, none⟩)), (Value.pointer (some ⟨g3, 0, none⟩))])]]) ((I_4.bring 5).bring 5) (h g1000 sx1000_ Fx1000_ hx1000_) (fun a7K H_6 a7L w_7 I_8 a7M k_9 a1f => ?_) (fun _ _ _ _ _ q => q.elim)
 obtain ⟨a1u, y0__14, sy0__14, Fy0__14, rfl, rfl, hy0__14, h⟩ := a1f
 have hj1 : ∀ (a5E : (List Int)) (b0i : Sl) (Fcp1000j1 : Frag) (H : Hp) (w : World) (_ : RowL 5 1 o0 b0i a5E Fcp1000j1) (_ : Inv w0 ps0 H0 H [bx g1000 40 [(vs b0i)], bx g_2 33 (c6 x0), bx g1 115 [(Value.func (.func 68) #[] #[(Value.pointer (some ⟨g1000, 0, none⟩))])], bx g2 103 [(Value.func (.func 69) #[] #[(Value.pointer (some ⟨g1, 0, none⟩)), (Value.pointer (some ⟨g2, 0, none⟩))])], bx g3 108 [(Value.func (.func 70) #[] #[(Value.pointer (some ⟨g1, 0, none⟩)), (Value.pointer (some ⟨g2, 0, none⟩)), (Value.pointer (some ⟨g3, 0, none⟩))])], Fcp1000j1] w) (_ : V7 a5E x0 H K), c3g (Value.pointer (some ⟨g3, 0, none⟩)) (Value.pointer (some ⟨g_2, 0, none⟩)) w R E := by
  intro a5E b0i Fcp1000j1 H w d0i I h
  unfold c3g
  intro _
  unfold V7 at h
  refine a8 F3 ?_
  refine b7 (ld1 Tryd.isAgg31 ((I.bring 1).at1 (o := 3) (vs := [(vs x0.j9)]) (nb rfl) rfl)) ?_
  refine a8 (C8 _ _ _) ?_
  obtain ⟨d3k, c3o, f5b, b0b⟩ := h
  refine y9 (J := fun n l w => ∃ (s : Int × (List Int)) (H : Hp) (a5F : Sl) (Fcp1000l2 : Frag) , n = c3o s ∧ l = (match s with | (a2H, Z1) => [(vi a2H)]) ∧ (match s with | (a2H, Z1) => RowL 5 1 o0 a5F Z1 Fcp1000l2) ∧ (match s with | (a2H, Z1) => Inv w0 ps0 H0 H [bx g1000 40 [(vs a5F)], bx g_2 33 (c6 x0), bx g1 115 [(Value.func (.func 68) #[] #[(Value.pointer (some ⟨g1000, 0, none⟩))])], bx g2 103 [(Value.func (.func 69) #[] #[(Value.pointer (some ⟨g1, 0, none⟩)), (Value.pointer (some ⟨g2, 0, none⟩))])], bx g3 108 [(Value.func (.func 70) #[] #[(Value.pointer (some ⟨g1, 0, none⟩)), (Value.pointer (some ⟨g2, 0, none⟩)), (Value.pointer (some ⟨g3, 0, none⟩))])], Fcp1000l2] w) ∧ d3k s H) ⟨_, (0, a5E), H, b0i, Fcp1000j1, rfl, rfl, d0i, ((((((I.bring 5).bring 5).bring 5).bring 5).bring 5).bring 5), f5b⟩ ?_
  rintro f6u τ_102 w next2 ⟨⟨a2H, Z1⟩, H, a5F, Fcp1000l2, rfl, c7f, b4y, I, b7z⟩ hn2
  dsimp only at c7f I b4y
  simp only [List.map_cons, List.map_nil, List.cons.injEq, and_true] at c7f
  have e36 := c7f
  simp only [e36]
  obtain ⟨n2, hm2, h⟩ : ∃ n2 : (Int × (List Int)) → Hp → Prop, (∀ s' H', n2 s' H' → d3k s' H' ∧ c3o s' < c3o (a2H, Z1)) ∧ V6 x0.j9 (x0.j9.n : Int) x0 a2H Z1 H n2 K := ⟨_, fun _ _ h => h, b0b (a2H, Z1) H (fun s' H' => d3k s' H' ∧ c3o s' < c3o (a2H, Z1)) b7z (fun _ _ a b => ⟨a, b⟩)⟩
  unfold c9Z
  unfold V6 at h
  refine a8 (C4 _ _ _ _ _ _) ?_
  refine h9 (fun d3l => ?_) (fun d3l => ?_)
  ·replace h := h.1 d3l
   obtain ⟨f5c, f5d, b4x, d3m, h⟩ := h
   obtain ⟨f9t, f9u, f5e, d3m⟩ := d3m
   refine a8 (a1E f5e _ _ _ _ f5c f5d) ?_
   refine b7 (ldA (vs := (c6 b4x)) Tryd.isAgg33 Tryd.sizeOf33 rfl (I.atH d3m)) ?_
   refine C1 I Tryd.zeroValue33 (cs := [(vi 0), (vi 0), (Value.slice none 0 0), (Value.slice none 0 0)]) rfl fun e5K f9v f5f f9w => ?_
   refine o8 f5f Tryd.sizeOf33 (vs := (c6 b4x)) (cs' := (c6 b4x)) rfl rfl (nb rfl) rfl rfl fun a3G c3p f5g => ?_
   refine b7 (ld1 Tryd.isAgg108 ((c3p.bring 5).at1 (o := 0) (vs := [(Value.func (.func 70) #[] #[(Value.pointer (some ⟨g1, 0, none⟩)), (Value.pointer (some ⟨g2, 0, none⟩)), (Value.pointer (some ⟨g3, 0, none⟩))])]) (nb rfl) rfl)) ?_
   refine b7 (ldA Tryd.isAgg33 Tryd.sizeOf33 rfl (c3p.at1 (o := 0) (vs := (c6 b4x)) (nb rfl) rfl)) ?_
   refine d7 (cap := [(Value.pointer (some ⟨g1, 0, none⟩)), (Value.pointer (some ⟨g2, 0, none⟩)), (Value.pointer (some ⟨g3, 0, none⟩))]) (fun args w => Tryd.call70 args w) ?_
   refine i6 (Fi := [bx g1 115 [(Value.func (.func 68) #[] #[(Value.pointer (some ⟨g1000, 0, none⟩))])], bx g2 103 [(Value.func (.func 69) #[] #[(Value.pointer (some ⟨g1, 0, none⟩)), (Value.pointer (some ⟨g2, 0, none⟩))])], bx g3 108 [(Value.func (.func 70) #[] #[(Value.pointer (some ⟨g1, 0, none⟩)), (Value.pointer (some ⟨g2, 0, none⟩)), (Value.pointer (some ⟨g3, 0, none⟩))])], bx g1000 40 [(vs a5F)], Fcp1000l2]) (Fr := [bx e5K 33 (c6 b4x), bx g_2 33 (c6 x0)]) (((((c3p.bring 6).bring 2).bring 6).bring 6).bring 6) (h g1 g2 g3 g1000 a5F Fcp1000l2 b4y) (fun f9x d3j f9y a3H f5h f9z f9A f5i => ?_) (fun _ _ _ _ _ q => q.elim)
   obtain ⟨f6v, y0__95, sy0__95, Fy0__95, rfl, rfl, hy0__95, h⟩ := f5i
   refine a8 (s6 _ _ _ _ _ _) ?_
   exact hn2 _ _ _ (hm2 _ _ h).2 ⟨((IntKind.wrap .i64 (a2H + 1)), y0__95), d3j, sy0__95, Fy0__95, rfl, rfl, hy0__95, (((((((f5h.bring 5).drop.bring 4).bring 3).bring 3).bring 3).bring 5).bring 5), (hm2 _ _ h).1⟩
  ·replace h := h.2 d3l
   exact hR (Sl.mk none 0 0) Z1 a5F Fcp1000l2 H _ b4y ((((((I.bring 1).drop.bring 4).bring 1).bring 4).bring 4).bring 4) h
 refine t7 fun j1 hx1 => ?_
 refine a8 F1 ?_
 refine b7 (ld1 Tryd.isAgg28 ((I_8.bring 2).at1 (o := 2) (vs := [(vs x0.c7)]) (nb rfl) rfl)) ?_
 refine a8 (q7 _ _ _) ?_
 obtain ⟨b2n, a6v, c6f, c6g⟩ := h
 refine y9 (J := fun n l w => ∃ (s : Int × (List Int)) (H : Hp) (a5G : Sl) (Fcp1000l3 : Frag) , n = a6v s ∧ l = (match s with | (a1s, Z2) => [(vi a1s)]) ∧ (match s with | (a1s, Z2) => RowL 5 1 o0 a5G Z2 Fcp1000l3) ∧ (match s with | (a1s, Z2) => Inv w0 ps0 H0 H [bx g1000 40 [(vs a5G)], bx g_2 33 (c6 x0), bx g1 115 [(Value.func (.func 68) #[] #[(Value.pointer (some ⟨g1000, 0, none⟩))])], bx g2 103 [(Value.func (.func 69) #[] #[(Value.pointer (some ⟨g1, 0, none⟩)), (Value.pointer (some ⟨g2, 0, none⟩))])], bx g3 108 [(Value.func (.func 70) #[] #[(Value.pointer (some ⟨g1, 0, none⟩)), (Value.pointer (some ⟨g2, 0, none⟩)), (Value.pointer (some ⟨g3, 0, none⟩))])], Fcp1000l3] w) ∧ b2n s H) ⟨_, (0, y0__14), H_6, sy0__14, Fy0__14, rfl, rfl, hy0__14, ((((((I_8.bring 1).bring 5).bring 5).bring 5).bring 5).bring 5), c6f⟩ ?_
 rintro f0b τ_144 w next3 ⟨⟨a1s, Z2⟩, H, a5G, Fcp1000l3, rfl, b2o, b4z, I, c6h⟩ hn3
 dsimp only at b2o I b4z
 simp only [List.map_cons, List.map_nil, List.cons.injEq, and_true] at b2o
 have e25 := b2o
 simp only [e25]
 obtain ⟨n3, hm3, h⟩ : ∃ n3 : (Int × (List Int)) → Hp → Prop, (∀ s' H', n3 s' H' → b2n s' H' ∧ a6v s' < a6v (a1s, Z2)) ∧ V8 x0.c7 (x0.c7.n : Int) x0 a1s Z2 H n3 K := ⟨_, fun _ _ h => h, c6g (a1s, Z2) H (fun s' H' => b2n s' H' ∧ a6v s' < a6v (a1s, Z2)) c6h (fun _ _ a b => ⟨a, b⟩)⟩
 unfold d0b
 unfold V8 at h
 refine a8 (C4 _ _ _ _ _ _) ?_
 refine h9 (fun b2p => ?_) (fun b2p => ?_)
 ·replace h := h.1 b2p
  obtain ⟨f1o, f1p, b0h, c7g, h⟩ := h
  obtain ⟨f6w, f6x, f1q, c7g⟩ := c7g
  refine a8 (W4 f1q _ _ _ _ f1o f1p) ?_
  refine b7 (ldA (vs := (c8 b0h)) Tryd.isAgg30 Tryd.sizeOf30 rfl (I.atH c7g)) ?_
  refine C1 I Tryd.zeroValue30 (cs := [(vi 0), (vi 0), (Value.string ⟨#[]⟩), (Value.slice none 0 0)]) rfl fun f1r f6y f1s f6z => ?_
  refine o8 f1s Tryd.sizeOf30 (vs := (c8 b0h)) (cs' := (c8 b0h)) rfl rfl (nb rfl) rfl rfl fun a8b b1V c5K => ?_
  refine b7 (ld1 Tryd.isAgg103 ((b1V.bring 4).at1 (o := 0) (vs := [(Value.func (.func 69) #[] #[(Value.pointer (some ⟨g1, 0, none⟩)), (Value.pointer (some ⟨g2, 0, none⟩))])]) (nb rfl) rfl)) ?_
  refine b7 (ldA Tryd.isAgg30 Tryd.sizeOf30 rfl (b1V.at1 (o := 0) (vs := (c8 b0h)) (nb rfl) rfl)) ?_
  refine d7 (cap := [(Value.pointer (some ⟨g1, 0, none⟩)), (Value.pointer (some ⟨g2, 0, none⟩))]) (fun args w => Tryd.call69 args w) ?_
  refine i6 (Fi := [bx g1 115 [(Value.func (.func 68) #[] #[(Value.pointer (some ⟨g1000, 0, none⟩))])], bx g2 103 [(Value.func (.func 69) #[] #[(Value.pointer (some ⟨g1, 0, none⟩)), (Value.pointer (some ⟨g2, 0, none⟩))])], bx g1000 40 [(vs a5G)], Fcp1000l3]) (Fr := [bx f1r 30 (c8 b0h), bx g_2 33 (c6 x0), bx g3 108 [(Value.func (.func 70) #[] #[(Value.pointer (some ⟨g1, 0, none⟩)), (Value.pointer (some ⟨g2, 0, none⟩)), (Value.pointer (some ⟨g3, 0, none⟩))])]]) ((((b1V.bring 6).bring 2).bring 5).bring 5) (h g1 g2 g1000 a5G Fcp1000l3 b4z) (fun f0f b2m f0g b1O c6j f0h f0i c6k => ?_) (fun _ _ _ _ _ q => q.elim)
  obtain ⟨b7g, y0__137, sy0__137, Fy0__137, rfl, rfl, hy0__137, h⟩ := c6k
  refine a8 (s6 _ _ _ _ _ _) ?_
  exact hn3 _ _ _ (hm3 _ _ h).2 ⟨((IntKind.wrap .i64 (a1s + 1)), y0__137), b2m, sy0__137, Fy0__137, rfl, rfl, hy0__137, (((((((c6j.bring 4).drop.bring 3).bring 5).bring 3).bring 3).bring 5).bring 5), (hm3 _ _ h).1⟩
 ·replace h := h.2 b2p
  exact hx1 _ _ (hj1 Z2 a5G Fcp1000l3 H _ b4z ((((((I.bring 5).bring 5).bring 5).bring 5).bring 5).bring 5) h)
theorem a9O (x0 : g9) (x1000 : Sl) (x1000_ : (List Int)) {H : Hp} {K : Sl → (List Int) → Hp → Prop} (h : a0j x0 x1000 x1000_ H K) : Z9 x0 x1000 x1000_ H K := by
 intro g1 g2 g3 g1000 sx1000_ Fx1000_ hx1000_ w I
 refine e8t ?_
 refine a9A x0 x1000 x1000_ g1 g2 g3 g1000 sx1000_ Fx1000_ hx1000_ I (fun y0 y0_ sy0_ Fy0_ H' w' khy0_ I' hk => ⟨H', _, I', y0, y0_, sy0_, Fy0_, rfl, rfl, khy0_, hk⟩) h
def V9 (_s12j2 : Sl) (_s13j2 : Int) (f1t : Int) (a5H : (List Int)) (H : Hp) (n1 : (Int × (List Int)) → Hp → Prop) (_K : Sl → (List Int) → Hp → Prop) : Prop :=
 n1 ((IntKind.wrap .i64 (f1t + 1)), a5H) H
def W0 (f1u : Sl) (f1v : Int) (f1w : Int) (a7D : (List Int)) (cr_191j4 : g8) (H : Hp) (n1 : (Int × (List Int)) → Hp → Prop) (K : Sl → (List Int) → Hp → Prop) : Prop :=
 U2 cr_191j4.r9 (Sl.mk none 0 0) a7D H (fun (_y0_264 : Sl) (y0__264 : (List Int)) (d3Z : Hp) =>
 U2 cr_191j4.o6 (Sl.mk none 0 0) y0__264 d3Z (fun (_y0_273 : Sl) (y0__273 : (List Int)) (c7h : Hp) =>
 V9 f1u f1v f1w y0__273 c7h n1 K))
def W1 (f1x : Sl) (f1y : Int) (f1z : Int) (d4a : Sl) (d4b : Int) (cr_191l5 : g8) (a2I : Int) (Z3 : (List Int)) (H : Hp) (n1 : (Int × (List Int)) → Hp → Prop) (n5 : (Int × (List Int)) → Hp → Prop) (K : Sl → (List Int) → Hp → Prop) : Prop :=
 (a2I < d4b →
 (0 : Int) ≤ a2I ∧ (a2I : Int) < d4a.n ∧ ∃ b0j : h7, EltH H d4a a2I 4 (c8 b0j) ∧
 U1 b0j (Sl.mk none 0 0) Z3 H (fun (_y0_306 : Sl) (y0__306 : (List Int)) (c7i : Hp) =>
 n5 ((IntKind.wrap .i64 (a2I + 1)), y0__306) c7i)) ∧
 (¬ (a2I < d4b) →
 W0 f1x f1y f1z Z3 cr_191l5 H n1 K)
def W2 (f1A : Sl) (f1B : Int) (f1C : Int) (a5I : (List Int)) (cr_191j3 : g8) (H : Hp) (n1 : (Int × (List Int)) → Hp → Prop) (K : Sl → (List Int) → Hp → Prop) : Prop :=
 TL ((0, a5I) : Int × (List Int)) H fun (s : Int × (List Int)) H n5 => W1 f1A f1B f1C cr_191j3.c7 (cr_191j3.c7.n : Int) cr_191j3 s.1 s.2 H n1 n5 K
def Q0 (f1D : Sl) (f1E : Int) (f1F : Int) (d4c : Sl) (d4d : Int) (cr_191l6 : g8) (a2J : Int) (Z4 : (List Int)) (H : Hp) (n1 : (Int × (List Int)) → Hp → Prop) (n6 : (Int × (List Int)) → Hp → Prop) (K : Sl → (List Int) → Hp → Prop) : Prop :=
 (a2J < d4d →
 (0 : Int) ≤ a2J ∧ (a2J : Int) < d4c.n ∧ ∃ b0k : g9, EltH H d4c a2J 4 (c6 b0k) ∧
 Z9 b0k (Sl.mk none 0 0) Z4 H (fun (_y0_348 : Sl) (y0__348 : (List Int)) (c7j : Hp) =>
 n6 ((IntKind.wrap .i64 (a2J + 1)), y0__348) c7j)) ∧
 (¬ (a2J < d4d) →
 W2 f1D f1E f1F Z4 cr_191l6 H n1 K)
def W3 (c7k : Sl) (c7l : Int) (X6 : Int) (D4 : (List Int)) (H : Hp) (n1 : (Int × (List Int)) → Hp → Prop) (K : Sl → (List Int) → Hp → Prop) : Prop :=
 (X6 < c7l →
 (0 : Int) ≤ X6 ∧ (X6 : Int) < c7k.n ∧ ∃ H8 : g8, EltH H c7k X6 6 (b8 H8) ∧
 N7 83 H8.d4 0 H8.d8 (a2d.mk (H8.f5.n : Int) (H8.c7.n : Int) (H8.r9.n : Int) (H8.o6.n : Int)) (Sl.mk none 0 0) D4 H (fun (_y0_207 : Sl) (y0__207 : (List Int)) (c7m : Hp) =>
 TL ((0, y0__207) : Int × (List Int)) c7m fun (s : Int × (List Int)) H n6 => Q0 c7k c7l X6 H8.f5 (H8.f5.n : Int) H8 s.1 s.2 H n1 n6 K)) ∧
 (¬ (X6 < c7l) →
 K (Sl.mk none 0 0) D4 H)
def a0k (x0 : Sl) (_x1000 : Sl) (x1000_ : (List Int)) (H : Hp) (K : Sl → (List Int) → Hp → Prop) : Prop :=
 TL ((0, x1000_) : Int × (List Int)) H fun (s : Int × (List Int)) H n1 => W3 x0 (x0.n : Int) s.1 s.2 H n1 K
theorem a9B (x0 : Sl) (x1000 : Sl) (x1000_ : (List Int)) (g1 g2 g3 g4 g1000 : Nat) (sx1000_ : Sl) (Fx1000_ : Frag) (hx1000_ : RowL 5 1 o0 sx1000_ x1000_ Fx1000_) {w0 w : World} {ps0 : Nat → Prop} {H0 H : Hp} {K : Sl → (List Int) → Hp → Prop} {R : Value → World → Prop} {E : Pan} (I : Inv w0 ps0 H0 H [bx g1 115 [(Value.func (.func 68) #[] #[(Value.pointer (some ⟨g1000, 0, none⟩))])], bx g2 108 [(Value.func (.func 70) #[] #[(Value.pointer (some ⟨g1, 0, none⟩)), (Value.pointer (some ⟨g3, 0, none⟩)), (Value.pointer (some ⟨g2, 0, none⟩))])], bx g3 103 [(Value.func (.func 69) #[] #[(Value.pointer (some ⟨g1, 0, none⟩)), (Value.pointer (some ⟨g3, 0, none⟩))])], bx g4 116 [(Value.func (.func 71) #[] #[(Value.pointer (some ⟨g1, 0, none⟩)), (Value.pointer (some ⟨g2, 0, none⟩)), (Value.pointer (some ⟨g3, 0, none⟩)), (Value.pointer (some ⟨g4, 0, none⟩))])], bx g1000 40 [(vs sx1000_)], Fx1000_] w) (hR : ∀ (y0 : Sl) (y0_ : (List Int)) (sy0_ : Sl) (Fy0_ : Frag) (H' : Hp) (w' : World) (_ : RowL 5 1 o0 sy0_ y0_ Fy0_) (_ : Inv w0 ps0 H0 H' [bx g1 115 [(Value.func (.func 68) #[] #[(Value.pointer (some ⟨g1000, 0, none⟩))])], bx g2 108 [(Value.func (.func 70) #[] #[(Value.pointer (some ⟨g1, 0, none⟩)), (Value.pointer (some ⟨g3, 0, none⟩)), (Value.pointer (some ⟨g2, 0, none⟩))])], bx g3 103 [(Value.func (.func 69) #[] #[(Value.pointer (some ⟨g1, 0, none⟩)), (Value.pointer (some ⟨g3, 0, none⟩))])], bx g4 116 [(Value.func (.func 71) #[] #[(Value.pointer (some ⟨g1, 0, none⟩)), (Value.pointer (some ⟨g2, 0, none⟩)), (Value.pointer (some ⟨g3, 0, none⟩)), (Value.pointer (some ⟨g4, 0, none⟩))])], bx g1000 40 [(vs sy0_)], Fy0_] w') (_ : K y0 y0_ H'), R (Value.tuple #[]) w') (h : a0k x0 x1000 x1000_ H K) : F71 (vs x0) (Value.pointer (some ⟨g1, 0, none⟩)) (Value.pointer (some ⟨g2, 0, none⟩)) (Value.pointer (some ⟨g3, 0, none⟩)) (Value.pointer (some ⟨g4, 0, none⟩)) w R E := by
 unfold a0k at h
 unfold F71
 refine a8 (M6 _ _ _) ?_
 obtain ⟨c7n, b7B, f1G, f1H⟩ := h
 refine y9 (J := fun n l w => ∃ (s : Int × (List Int)) (H : Hp) (X2 : Sl) (Fcp1000l1 : Frag) , n = b7B s ∧ l = (match s with | (X6, D4) => [(vi X6)]) ∧ (match s with | (X6, D4) => RowL 5 1 o0 X2 D4 Fcp1000l1) ∧ (match s with | (X6, D4) => Inv w0 ps0 H0 H [bx g1 115 [(Value.func (.func 68) #[] #[(Value.pointer (some ⟨g1000, 0, none⟩))])], bx g2 108 [(Value.func (.func 70) #[] #[(Value.pointer (some ⟨g1, 0, none⟩)), (Value.pointer (some ⟨g3, 0, none⟩)), (Value.pointer (some ⟨g2, 0, none⟩))])], bx g3 103 [(Value.func (.func 69) #[] #[(Value.pointer (some ⟨g1, 0, none⟩)), (Value.pointer (some ⟨g3, 0, none⟩))])], bx g4 116 [(Value.func (.func 71) #[] #[(Value.pointer (some ⟨g1, 0, none⟩)), (Value.pointer (some ⟨g2, 0, none⟩)), (Value.pointer (some ⟨g3, 0, none⟩)), (Value.pointer (some ⟨g4, 0, none⟩))])], bx g1000 40 [(vs X2)], Fcp1000l1] w) ∧ c7n s H) ⟨_, (0, x1000_), H, sx1000_, Fx1000_, rfl, rfl, hx1000_, ((((((I.bring 5).bring 5).bring 5).bring 5).bring 5).bring 5), f1G⟩ ?_
 rintro f6A τ_364 w next1 ⟨⟨X6, D4⟩, H, X2, Fcp1000l1, rfl, c7o, a4k, I, f1I⟩ hn1
 dsimp only at c7o I a4k
 simp only [List.map_cons, List.map_nil, List.cons.injEq, and_true] at c7o
 have e14 := c7o
 simp only [e14]
 obtain ⟨n1, hm1, h⟩ : ∃ n1 : (Int × (List Int)) → Hp → Prop, (∀ s' H', n1 s' H' → c7n s' H' ∧ b7B s' < b7B (X6, D4)) ∧ W3 x0 (x0.n : Int) X6 D4 H n1 K := ⟨_, fun _ _ h => h, f1H (X6, D4) H (fun s' H' => c7n s' H' ∧ b7B s' < b7B (X6, D4)) f1I (fun _ _ a b => ⟨a, b⟩)⟩
 unfold d0h
 unfold W3 at h
 refine a8 (C4 _ _ _ _ _ _) ?_
 refine h9 (fun c7p => ?_) (fun c7p => ?_)
 ·replace h := h.1 c7p
  have hj2 : ∀ (a5H : (List Int)) (b0l : Sl) (Fcp1000j2 : Frag) (H : Hp) (w : World) (_ : RowL 5 1 o0 b0l a5H Fcp1000j2) (_ : Inv w0 ps0 H0 H [bx g1 115 [(Value.func (.func 68) #[] #[(Value.pointer (some ⟨g1000, 0, none⟩))])], bx g2 108 [(Value.func (.func 70) #[] #[(Value.pointer (some ⟨g1, 0, none⟩)), (Value.pointer (some ⟨g3, 0, none⟩)), (Value.pointer (some ⟨g2, 0, none⟩))])], bx g3 103 [(Value.func (.func 69) #[] #[(Value.pointer (some ⟨g1, 0, none⟩)), (Value.pointer (some ⟨g3, 0, none⟩))])], bx g4 116 [(Value.func (.func 71) #[] #[(Value.pointer (some ⟨g1, 0, none⟩)), (Value.pointer (some ⟨g2, 0, none⟩)), (Value.pointer (some ⟨g3, 0, none⟩)), (Value.pointer (some ⟨g4, 0, none⟩))])], bx g1000 40 [(vs b0l)], Fcp1000j2] w) (_ : V9 x0 (x0.n : Int) X6 a5H H n1 K), c3h (Value.pointer (some ⟨g1, 0, none⟩)) (Value.pointer (some ⟨g2, 0, none⟩)) (Value.pointer (some ⟨g3, 0, none⟩)) (Value.pointer (some ⟨g4, 0, none⟩)) (vs x0) (vi (x0.n : Int)) (vi X6) w next1 R E := by
   intro a5H b0l Fcp1000j2 H w d0j I h
   unfold c3h
   intro _
   unfold V9 at h
   refine a8 (s6 _ _ _ _ _ _) ?_
   exact hn1 _ _ _ (hm1 _ _ h).2 ⟨((IntKind.wrap .i64 (X6 + 1)), a5H), H, b0l, Fcp1000j2, rfl, rfl, d0j, ((((((I.bring 5).bring 5).bring 5).bring 5).bring 5).bring 5), (hm1 _ _ h).1⟩
  refine t7 fun j2 hx2 => ?_
  obtain ⟨f1J, f1K, H8, c7q, h⟩ := h
  obtain ⟨f6B, f6C, f1L, c7q⟩ := c7q
  refine a8 (a2W f1L _ _ _ _ f1J f1K) ?_
  refine b7 (ldA (vs := (b8 H8)) Tryd.isAgg88 Tryd.sizeOf88 rfl (I.atH c7q)) ?_
  refine C1 I Tryd.zeroValue88 (cs := [(vi 0), (Value.string ⟨#[]⟩), (Value.slice none 0 0), (Value.slice none 0 0), (Value.slice none 0 0), (Value.slice none 0 0)]) rfl fun a6B f6D f1M f6E => ?_
  refine o8 f1M Tryd.sizeOf88 (vs := (b8 H8)) (cs' := (b8 H8)) rfl rfl (nb rfl) rfl rfl fun f6F b0m f6G => ?_
  refine b7 (ld1 Tryd.isAgg115 ((b0m.bring 1).at1 (o := 0) (vs := [(Value.func (.func 68) #[] #[(Value.pointer (some ⟨g1000, 0, none⟩))])]) (nb rfl) rfl)) ?_
  refine a8 a0E ?_
  refine b7 (ld1 Tryd.isAgg3 (b0m.at1 (o := 0) (vs := [(vi H8.d4)]) (nb rfl) rfl)) ?_
  refine a8 L4 ?_
  refine b7 (ld1 Tryd.isAgg9 (b0m.at1 (o := 1) (vs := [(Value.string H8.d8)]) (nb rfl) rfl)) ?_
  refine a8 F5 ?_
  refine b7 (ld1 Tryd.isAgg31 (b0m.at1 (o := 3) (vs := [(vs H8.f5)]) (nb rfl) rfl)) ?_
  refine a8 (C8 _ _ _) ?_
  refine a8 F4 ?_
  refine b7 (ld1 Tryd.isAgg28 (b0m.at1 (o := 2) (vs := [(vs H8.c7)]) (nb rfl) rfl)) ?_
  refine a8 (q7 _ _ _) ?_
  refine a8 K2 ?_
  refine b7 (ld1 Tryd.isAgg23 (b0m.at1 (o := 4) (vs := [(vs H8.r9)]) (nb rfl) rfl)) ?_
  refine a8 (M6 _ _ _) ?_
  refine a8 F6 ?_
  refine b7 (ld1 Tryd.isAgg23 (b0m.at1 (o := 5) (vs := [(vs H8.o6)]) (nb rfl) rfl)) ?_
  refine a8 (M6 _ _ _) ?_
  refine a8 (b3i _ _ _ _) ?_
  refine d7 (cap := [(Value.pointer (some ⟨g1000, 0, none⟩))]) (fun args w => Tryd.call68 args w) ?_
  refine i6 (Fi := [bx g1000 40 [(vs X2)], Fcp1000l1]) (Fr := [bx a6B 88 (b8 H8), bx g1 115 [(Value.func (.func 68) #[] #[(Value.pointer (some ⟨g1000, 0, none⟩))])], bx g2 108 [(Value.func (.func 70) #[] #[(Value.pointer (some ⟨g1, 0, none⟩)), (Value.pointer (some ⟨g3, 0, none⟩)), (Value.pointer (some ⟨g2, 0, none⟩))])], bx g3 103 [(Value.func (.func 69) #[] #[(Value.pointer (some ⟨g1, 0, none⟩)), (Value.pointer (some ⟨g3, 0, none⟩))])], bx g4 116 [(Value.func (.func 71) #[] #[(Value.pointer (some ⟨g1, 0, none⟩)), (Value.pointer (some ⟨g2, 0, none⟩)), (Value.pointer (some ⟨g3, 0, none⟩)), (Value.pointer (some ⟨g4, 0, none⟩))])]]) ((b0m.bring 6).bring 6) (h g1000 X2 Fcp1000l1 a4k) (fun f6H c7m f6I f6J d4e f6K f6L f1N => ?_) (fun _ _ _ _ _ q => q.elim)
  obtain ⟨f5v, y0__207, sy0__207, Fy0__207, rfl, rfl, hy0__207, h⟩ := f1N
  have hj3 : ∀ (a5I : (List Int)) (b0n : Sl) (Fcp1000j3 : Frag) (H : Hp) (w : World) (_ : RowL 5 1 o0 b0n a5I Fcp1000j3) (_ : Inv w0 ps0 H0 H [bx g1000 40 [(vs b0n)], bx a6B 88 (b8 H8), bx g1 115 [(Value.func (.func 68) #[] #[(Value.pointer (some ⟨g1000, 0, none⟩))])], bx g2 108 [(Value.func (.func 70) #[] #[(Value.pointer (some ⟨g1, 0, none⟩)), (Value.pointer (some ⟨g3, 0, none⟩)), (Value.pointer (some ⟨g2, 0, none⟩))])], bx g3 103 [(Value.func (.func 69) #[] #[(Value.pointer (some ⟨g1, 0, none⟩)), (Value.pointer (some ⟨g3, 0, none⟩))])], bx g4 116 [(Value.func (.func 71) #[] #[(Value.pointer (some ⟨g1, 0, none⟩)), (Value.pointer (some ⟨g2, 0, none⟩)), (Value.pointer (some ⟨g3, 0, none⟩)), (Value.pointer (some ⟨g4, 0, none⟩))])], Fcp1000j3] w) (_ : W2 x0 (x0.n : Int) X6 a5I H8 H n1 K), c3j (Value.pointer (some ⟨g1, 0, none⟩)) (Value.pointer (some ⟨g2, 0, none⟩)) (Value.pointer (some ⟨g3, 0, none⟩)) (Value.pointer (some ⟨g4, 0, none⟩)) (Value.pointer (some ⟨a6B, 0, none⟩)) (vs x0) (vi (x0.n : Int)) (vi X6) w j2 R E := by
   intro a5I b0n Fcp1000j3 H w d0k I h
   unfold c3j
   intro _
   unfold W2 at h
   have hj4 : ∀ (a7D : (List Int)) (a7E : Sl) (Fcp1000j4 : Frag) (H : Hp) (w : World) (_ : RowL 5 1 o0 a7E a7D Fcp1000j4) (_ : Inv w0 ps0 H0 H [bx g1000 40 [(vs a7E)], bx a6B 88 (b8 H8), bx g1 115 [(Value.func (.func 68) #[] #[(Value.pointer (some ⟨g1000, 0, none⟩))])], bx g2 108 [(Value.func (.func 70) #[] #[(Value.pointer (some ⟨g1, 0, none⟩)), (Value.pointer (some ⟨g3, 0, none⟩)), (Value.pointer (some ⟨g2, 0, none⟩))])], bx g3 103 [(Value.func (.func 69) #[] #[(Value.pointer (some ⟨g1, 0, none⟩)), (Value.pointer (some ⟨g3, 0, none⟩))])], bx g4 116 [(Value.func (.func 71) #[] #[(Value.pointer (some ⟨g1, 0, none⟩)), (Value.pointer (some ⟨g2, 0, none⟩)), (Value.pointer (some ⟨g3, 0, none⟩)), (Value.pointer (some ⟨g4, 0, none⟩))])], Fcp1000j4] w) (_ : W0 x0 (x0.n : Int) X6 a7D H8 H n1 K), c3i (Value.pointer (some ⟨g1, 0, none⟩)) (Value.pointer (some ⟨g2, 0, none⟩)) (Value.pointer (some ⟨g3, 0, none⟩)) (Value.pointer (some ⟨g4, 0, none⟩)) (Value.pointer (some ⟨a6B, 0, none⟩)) (vs x0) (vi (x0.n : Int)) (vi X6) w j2 R E := by
    intro a7D a7E Fcp1000j4 H w d0l I h
    unfold c3i
    intro _
    unfold W0 at h
    refine b7 (ld1 Tryd.isAgg116 ((I.bring 5).at1 (o := 0) (vs := [(Value.func (.func 71) #[] #[(Value.pointer (some ⟨g1, 0, none⟩)), (Value.pointer (some ⟨g2, 0, none⟩)), (Value.pointer (some ⟨g3, 0, none⟩)), (Value.pointer (some ⟨g4, 0, none⟩))])]) (nb rfl) rfl)) ?_
    refine a8 K2 ?_
    refine b7 (ld1 Tryd.isAgg23 ((I.bring 1).at1 (o := 4) (vs := [(vs H8.r9)]) (nb rfl) rfl)) ?_
    refine d7 (cap := [(Value.pointer (some ⟨g1, 0, none⟩)), (Value.pointer (some ⟨g2, 0, none⟩)), (Value.pointer (some ⟨g3, 0, none⟩)), (Value.pointer (some ⟨g4, 0, none⟩))]) (fun args w => Tryd.call71 args w) ?_
    refine i6 (Fi := [bx g1 115 [(Value.func (.func 68) #[] #[(Value.pointer (some ⟨g1000, 0, none⟩))])], bx g2 108 [(Value.func (.func 70) #[] #[(Value.pointer (some ⟨g1, 0, none⟩)), (Value.pointer (some ⟨g3, 0, none⟩)), (Value.pointer (some ⟨g2, 0, none⟩))])], bx g3 103 [(Value.func (.func 69) #[] #[(Value.pointer (some ⟨g1, 0, none⟩)), (Value.pointer (some ⟨g3, 0, none⟩))])], bx g4 116 [(Value.func (.func 71) #[] #[(Value.pointer (some ⟨g1, 0, none⟩)), (Value.pointer (some ⟨g2, 0, none⟩)), (Value.pointer (some ⟨g3, 0, none⟩)), (Value.pointer (some ⟨g4, 0, none⟩))])], bx g1000 40 [(vs a7E)], Fcp1000j4]) (Fr := [bx a6B 88 (b8 H8)]) ((((((I.bring 6).bring 1).bring 6).bring 6).bring 6).bring 6) (h g1 g2 g3 g4 g1000 a7E Fcp1000j4 d0l) (fun f6M d3Z f6N f6O c7r f6P f6Q f1O => ?_) (fun _ _ _ _ _ q => q.elim)
    obtain ⟨f5w, y0__264, sy0__264, Fy0__264, rfl, rfl, hy0__264, h⟩ := f1O
    refine b7 (ld1 Tryd.isAgg116 ((c7r.bring 3).at1 (o := 0) (vs := [(Value.func (.func 71) #[] #[(Value.pointer (some ⟨g1, 0, none⟩)), (Value.pointer (some ⟨g2, 0, none⟩)), (Value.pointer (some ⟨g3, 0, none⟩)), (Value.pointer (some ⟨g4, 0, none⟩))])]) (nb rfl) rfl)) ?_
    refine a8 F6 ?_
    refine b7 (ld1 Tryd.isAgg23 ((c7r.bring 6).at1 (o := 5) (vs := [(vs H8.o6)]) (nb rfl) rfl)) ?_
    refine d7 (cap := [(Value.pointer (some ⟨g1, 0, none⟩)), (Value.pointer (some ⟨g2, 0, none⟩)), (Value.pointer (some ⟨g3, 0, none⟩)), (Value.pointer (some ⟨g4, 0, none⟩))]) (fun args w => Tryd.call71 args w) ?_
    refine i6 (Fi := [bx g1 115 [(Value.func (.func 68) #[] #[(Value.pointer (some ⟨g1000, 0, none⟩))])], bx g2 108 [(Value.func (.func 70) #[] #[(Value.pointer (some ⟨g1, 0, none⟩)), (Value.pointer (some ⟨g3, 0, none⟩)), (Value.pointer (some ⟨g2, 0, none⟩))])], bx g3 103 [(Value.func (.func 69) #[] #[(Value.pointer (some ⟨g1, 0, none⟩)), (Value.pointer (some ⟨g3, 0, none⟩))])], bx g4 116 [(Value.func (.func 71) #[] #[(Value.pointer (some ⟨g1, 0, none⟩)), (Value.pointer (some ⟨g2, 0, none⟩)), (Value.pointer (some ⟨g3, 0, none⟩)), (Value.pointer (some ⟨g4, 0, none⟩))])], bx g1000 40 [(vs sy0__264)], Fy0__264]) (Fr := [bx a6B 88 (b8 H8)]) ((((((c7r.bring 5).bring 5).bring 5).bring 5).bring 5).bring 5) (h g1 g2 g3 g4 g1000 sy0__264 Fy0__264 hy0__264) (fun f6R c7h f6S f6T f1P f6U f6V f1Q => ?_) (fun _ _ _ _ _ q => q.elim)
    obtain ⟨f5x, y0__273, sy0__273, Fy0__273, rfl, rfl, hy0__273, h⟩ := f1Q
    exact hx2 _ _ (hj2 y0__273 sy0__273 Fy0__273 c7h _ hy0__273 (((((((f1P.bring 6).drop.bring 5).bring 5).bring 5).bring 5).bring 5).bring 5) h)
   refine t7 fun j4 hx4 => ?_
   refine a8 F4 ?_
   refine b7 (ld1 Tryd.isAgg28 ((I.bring 1).at1 (o := 2) (vs := [(vs H8.c7)]) (nb rfl) rfl)) ?_
   refine a8 (q7 _ _ _) ?_
   obtain ⟨c7s, b7C, f1R, f1S⟩ := h
   refine y9 (J := fun n l w => ∃ (s : Int × (List Int)) (H : Hp) (a5J : Sl) (Fcp1000l5 : Frag) , n = b7C s ∧ l = (match s with | (a2I, Z3) => [(vi a2I)]) ∧ (match s with | (a2I, Z3) => RowL 5 1 o0 a5J Z3 Fcp1000l5) ∧ (match s with | (a2I, Z3) => Inv w0 ps0 H0 H [bx g1000 40 [(vs a5J)], bx a6B 88 (b8 H8), bx g1 115 [(Value.func (.func 68) #[] #[(Value.pointer (some ⟨g1000, 0, none⟩))])], bx g2 108 [(Value.func (.func 70) #[] #[(Value.pointer (some ⟨g1, 0, none⟩)), (Value.pointer (some ⟨g3, 0, none⟩)), (Value.pointer (some ⟨g2, 0, none⟩))])], bx g3 103 [(Value.func (.func 69) #[] #[(Value.pointer (some ⟨g1, 0, none⟩)), (Value.pointer (some ⟨g3, 0, none⟩))])], bx g4 116 [(Value.func (.func 71) #[] #[(Value.pointer (some ⟨g1, 0, none⟩)), (Value.pointer (some ⟨g2, 0, none⟩)), (Value.pointer (some ⟨g3, 0, none⟩)), (Value.pointer (some ⟨g4, 0, none⟩))])], Fcp1000l5] w) ∧ c7s s H) ⟨_, (0, a5I), H, b0n, Fcp1000j3, rfl, rfl, d0k, (((((((I.bring 6).bring 6).bring 6).bring 6).bring 6).bring 6).bring 6), f1R⟩ ?_
   rintro f6W τ_313 w next5 ⟨⟨a2I, Z3⟩, H, a5J, Fcp1000l5, rfl, c7t, b4A, I, f1T⟩ hn5
   dsimp only at c7t I b4A
   simp only [List.map_cons, List.map_nil, List.cons.injEq, and_true] at c7t
   have e51 := c7t
   simp only [e51]
   obtain ⟨n5, hm5, h⟩ : ∃ n5 : (Int × (List Int)) → Hp → Prop, (∀ s' H', n5 s' H' → c7s s' H' ∧ b7C s' < b7C (a2I, Z3)) ∧ W1 x0 (x0.n : Int) X6 H8.c7 (H8.c7.n : Int) H8 a2I Z3 H n1 n5 K := ⟨_, fun _ _ h => h, f1S (a2I, Z3) H (fun s' H' => c7s s' H' ∧ b7C s' < b7C (a2I, Z3)) f1T (fun _ _ a b => ⟨a, b⟩)⟩
   unfold d0c
   unfold W1 at h
   refine a8 (C4 _ _ _ _ _ _) ?_
   refine h9 (fun c7u => ?_) (fun c7u => ?_)
   ·replace h := h.1 c7u
    obtain ⟨f1U, f1V, b0j, c7v, h⟩ := h
    obtain ⟨f6X, f6Y, f1W, c7v⟩ := c7v
    refine a8 (W4 f1W _ _ _ _ f1U f1V) ?_
    refine b7 (ldA (vs := (c8 b0j)) Tryd.isAgg30 Tryd.sizeOf30 rfl (I.atH c7v)) ?_
    refine C1 I Tryd.zeroValue30 (cs := [(vi 0), (vi 0), (Value.string ⟨#[]⟩), (Value.slice none 0 0)]) rfl fun f1X f6Z f1Y f7a => ?_
    refine o8 f1Y Tryd.sizeOf30 (vs := (c8 b0j)) (cs' := (c8 b0j)) rfl rfl (nb rfl) rfl rfl fun f7b c7w f7c => ?_
    refine b7 (ld1 Tryd.isAgg103 ((c7w.bring 5).at1 (o := 0) (vs := [(Value.func (.func 69) #[] #[(Value.pointer (some ⟨g1, 0, none⟩)), (Value.pointer (some ⟨g3, 0, none⟩))])]) (nb rfl) rfl)) ?_
    refine b7 (ldA Tryd.isAgg30 Tryd.sizeOf30 rfl (c7w.at1 (o := 0) (vs := (c8 b0j)) (nb rfl) rfl)) ?_
    refine d7 (cap := [(Value.pointer (some ⟨g1, 0, none⟩)), (Value.pointer (some ⟨g3, 0, none⟩))]) (fun args w => Tryd.call69 args w) ?_
    refine i6 (Fi := [bx g1 115 [(Value.func (.func 68) #[] #[(Value.pointer (some ⟨g1000, 0, none⟩))])], bx g3 103 [(Value.func (.func 69) #[] #[(Value.pointer (some ⟨g1, 0, none⟩)), (Value.pointer (some ⟨g3, 0, none⟩))])], bx g1000 40 [(vs a5J)], Fcp1000l5]) (Fr := [bx f1X 30 (c8 b0j), bx a6B 88 (b8 H8), bx g2 108 [(Value.func (.func 70) #[] #[(Value.pointer (some ⟨g1, 0, none⟩)), (Value.pointer (some ⟨g3, 0, none⟩)), (Value.pointer (some ⟨g2, 0, none⟩))])], bx g4 116 [(Value.func (.func 71) #[] #[(Value.pointer (some ⟨g1, 0, none⟩)), (Value.pointer (some ⟨g2, 0, none⟩)), (Value.pointer (some ⟨g3, 0, none⟩)), (Value.pointer (some ⟨g4, 0, none⟩))])]]) ((((c7w.bring 7).bring 2).bring 6).bring 5) (h g1 g3 g1000 a5J Fcp1000l5 b4A) (fun f7d c7i f7e f7f f1Z f7g f7h f2a => ?_) (fun _ _ _ _ _ q => q.elim)
    obtain ⟨f5y, y0__306, sy0__306, Fy0__306, rfl, rfl, hy0__306, h⟩ := f2a
    refine a8 (s6 _ _ _ _ _ _) ?_
    exact hn5 _ _ _ (hm5 _ _ h).2 ⟨((IntKind.wrap .i64 (a2I + 1)), y0__306), c7i, sy0__306, Fy0__306, rfl, rfl, hy0__306, ((((((((f1Z.bring 4).drop.bring 3).bring 6).bring 3).bring 6).bring 4).bring 6).bring 6), (hm5 _ _ h).1⟩
   ·replace h := h.2 c7u
    exact hx4 _ _ (hj4 Z3 a5J Fcp1000l5 H _ b4A (((((((I.bring 6).bring 6).bring 6).bring 6).bring 6).bring 6).bring 6) h)
  refine t7 fun j3 hx3 => ?_
  refine a8 F5 ?_
  refine b7 (ld1 Tryd.isAgg31 ((d4e.bring 2).at1 (o := 3) (vs := [(vs H8.f5)]) (nb rfl) rfl)) ?_
  refine a8 (C8 _ _ _) ?_
  obtain ⟨c7x, b7D, f2b, f2c⟩ := h
  refine y9 (J := fun n l w => ∃ (s : Int × (List Int)) (H : Hp) (a5K : Sl) (Fcp1000l6 : Frag) , n = b7D s ∧ l = (match s with | (a2J, Z4) => [(vi a2J)]) ∧ (match s with | (a2J, Z4) => RowL 5 1 o0 a5K Z4 Fcp1000l6) ∧ (match s with | (a2J, Z4) => Inv w0 ps0 H0 H [bx g1000 40 [(vs a5K)], bx a6B 88 (b8 H8), bx g1 115 [(Value.func (.func 68) #[] #[(Value.pointer (some ⟨g1000, 0, none⟩))])], bx g2 108 [(Value.func (.func 70) #[] #[(Value.pointer (some ⟨g1, 0, none⟩)), (Value.pointer (some ⟨g3, 0, none⟩)), (Value.pointer (some ⟨g2, 0, none⟩))])], bx g3 103 [(Value.func (.func 69) #[] #[(Value.pointer (some ⟨g1, 0, none⟩)), (Value.pointer (some ⟨g3, 0, none⟩))])], bx g4 116 [(Value.func (.func 71) #[] #[(Value.pointer (some ⟨g1, 0, none⟩)), (Value.pointer (some ⟨g2, 0, none⟩)), (Value.pointer (some ⟨g3, 0, none⟩)), (Value.pointer (some ⟨g4, 0, none⟩))])], Fcp1000l6] w) ∧ c7x s H) ⟨_, (0, y0__207), c7m, sy0__207, Fy0__207, rfl, rfl, hy0__207, (((((((d4e.bring 1).bring 6).bring 6).bring 6).bring 6).bring 6).bring 6), f2b⟩ ?_
  rintro f7i τ_355 w next6 ⟨⟨a2J, Z4⟩, H, a5K, Fcp1000l6, rfl, c7y, b4B, I, f2d⟩ hn6
  dsimp only at c7y I b4B
  simp only [List.map_cons, List.map_nil, List.cons.injEq, and_true] at c7y
  have e40 := c7y
  simp only [e40]
  obtain ⟨n6, hm6, h⟩ : ∃ n6 : (Int × (List Int)) → Hp → Prop, (∀ s' H', n6 s' H' → c7x s' H' ∧ b7D s' < b7D (a2J, Z4)) ∧ Q0 x0 (x0.n : Int) X6 H8.f5 (H8.f5.n : Int) H8 a2J Z4 H n1 n6 K := ⟨_, fun _ _ h => h, f2c (a2J, Z4) H (fun s' H' => c7x s' H' ∧ b7D s' < b7D (a2J, Z4)) f2d (fun _ _ a b => ⟨a, b⟩)⟩
  unfold d0f
  unfold Q0 at h
  refine a8 (C4 _ _ _ _ _ _) ?_
  refine h9 (fun c7z => ?_) (fun c7z => ?_)
  ·replace h := h.1 c7z
   obtain ⟨f2e, f2f, b0k, c7A, h⟩ := h
   obtain ⟨f7j, f7k, f2g, c7A⟩ := c7A
   refine a8 (a1E f2g _ _ _ _ f2e f2f) ?_
   refine b7 (ldA (vs := (c6 b0k)) Tryd.isAgg33 Tryd.sizeOf33 rfl (I.atH c7A)) ?_
   refine C1 I Tryd.zeroValue33 (cs := [(vi 0), (vi 0), (Value.slice none 0 0), (Value.slice none 0 0)]) rfl fun f2h f7l f2i f7m => ?_
   refine o8 f2i Tryd.sizeOf33 (vs := (c6 b0k)) (cs' := (c6 b0k)) rfl rfl (nb rfl) rfl rfl fun f7n c7B f7o => ?_
   refine b7 (ld1 Tryd.isAgg108 ((c7B.bring 4).at1 (o := 0) (vs := [(Value.func (.func 70) #[] #[(Value.pointer (some ⟨g1, 0, none⟩)), (Value.pointer (some ⟨g3, 0, none⟩)), (Value.pointer (some ⟨g2, 0, none⟩))])]) (nb rfl) rfl)) ?_
   refine b7 (ldA Tryd.isAgg33 Tryd.sizeOf33 rfl (c7B.at1 (o := 0) (vs := (c6 b0k)) (nb rfl) rfl)) ?_
   refine d7 (cap := [(Value.pointer (some ⟨g1, 0, none⟩)), (Value.pointer (some ⟨g3, 0, none⟩)), (Value.pointer (some ⟨g2, 0, none⟩))]) (fun args w => Tryd.call70 args w) ?_
   refine i6 (Fi := [bx g1 115 [(Value.func (.func 68) #[] #[(Value.pointer (some ⟨g1000, 0, none⟩))])], bx g3 103 [(Value.func (.func 69) #[] #[(Value.pointer (some ⟨g1, 0, none⟩)), (Value.pointer (some ⟨g3, 0, none⟩))])], bx g2 108 [(Value.func (.func 70) #[] #[(Value.pointer (some ⟨g1, 0, none⟩)), (Value.pointer (some ⟨g3, 0, none⟩)), (Value.pointer (some ⟨g2, 0, none⟩))])], bx g1000 40 [(vs a5K)], Fcp1000l6]) (Fr := [bx f2h 33 (c6 b0k), bx a6B 88 (b8 H8), bx g4 116 [(Value.func (.func 71) #[] #[(Value.pointer (some ⟨g1, 0, none⟩)), (Value.pointer (some ⟨g2, 0, none⟩)), (Value.pointer (some ⟨g3, 0, none⟩)), (Value.pointer (some ⟨g4, 0, none⟩))])]]) (((((c7B.bring 7).bring 2).bring 5).bring 6).bring 6) (h g1 g3 g2 g1000 a5K Fcp1000l6 b4B) (fun f7p c7j f7q f7r f2j f7s f7t f2k => ?_) (fun _ _ _ _ _ q => q.elim)
   obtain ⟨f5z, y0__348, sy0__348, Fy0__348, rfl, rfl, hy0__348, h⟩ := f2k
   refine a8 (s6 _ _ _ _ _ _) ?_
   exact hn6 _ _ _ (hm6 _ _ h).2 ⟨((IntKind.wrap .i64 (a2J + 1)), y0__348), c7j, sy0__348, Fy0__348, rfl, rfl, hy0__348, ((((((((f2j.bring 5).drop.bring 4).bring 6).bring 3).bring 4).bring 4).bring 6).bring 6), (hm6 _ _ h).1⟩
  ·replace h := h.2 c7z
   exact hx3 _ _ (hj3 Z4 a5K Fcp1000l6 H _ b4B (((((((I.bring 6).bring 6).bring 6).bring 6).bring 6).bring 6).bring 6) h)
 ·replace h := h.2 c7p
  exact hR (Sl.mk none 0 0) D4 X2 Fcp1000l1 H _ a4k ((((((I.bring 5).bring 5).bring 5).bring 5).bring 5).bring 5) h
theorem a9P (x0 : Sl) (x1000 : Sl) (x1000_ : (List Int)) {H : Hp} {K : Sl → (List Int) → Hp → Prop} (h : a0k x0 x1000 x1000_ H K) : U2 x0 x1000 x1000_ H K := by
 intro g1 g2 g3 g4 g1000 sx1000_ Fx1000_ hx1000_ w I
 refine e8L ?_
 refine a9B x0 x1000 x1000_ g1 g2 g3 g4 g1000 sx1000_ Fx1000_ hx1000_ I (fun y0 y0_ sy0_ Fy0_ H' w' khy0_ I' hk => ⟨H', _, I', y0, y0_, sy0_, Fy0_, rfl, rfl, khy0_, hk⟩) h
def Y8 (ccr_15j1 : (List Int)) (cr_1j1 : f6) (H : Hp) (K : Sl → Int → Hp → Prop) : Prop :=
 U2 cr_1j1.K5 (Sl.mk none 0 0) ccr_15j1 H (fun (_y0_84 : Sl) (y0__84 : (List Int)) (e8O : Hp) =>
 ∀ (sy0__84 : Sl) (b8G : Hp), Hle e8O b8G → SlH b8G 1 o0 sy0__84 y0__84 → sy0__84.n ≤ sy0__84.c →
 K sy0__84 0 b8G)
def Y9 (d4f : Sl) (d4g : Int) (cr_1l2 : f6) (a2K : Int) (ccr_15l2 : (List Int)) (H : Hp) (n2 : (Int × (List Int)) → Hp → Prop) (K : Sl → Int → Hp → Prop) : Prop :=
 (a2K < d4g →
 (0 : Int) ≤ a2K ∧ (a2K : Int) < d4f.n ∧ ∃ b0M : A4, EltH H d4f a2K 2 (k8 b0M) ∧
 N7 68 0 b0M.R7 b0M.d8 (a2d.mk 0 0 0 0) (Sl.mk none 0 0) ccr_15l2 H (fun (_y0_122 : Sl) (y0__122 : (List Int)) (c7C : Hp) =>
 n2 ((IntKind.wrap .i64 (a2K + 1)), y0__122) c7C)) ∧
 (¬ (a2K < d4g) →
 Y8 ccr_15l2 cr_1l2 H K)
def a0V (x0 : f6) (H : Hp) (K : Sl → Int → Hp → Prop) : Prop :=
 a1M x0 H (fun (E3 : Int) (H_6 : Hp) =>
 (¬ (E3 = 0) →
 K (Sl.mk none 0 0) E3 H_6) ∧
 (E3 = 0 →
 TL ((0, []) : Int × (List Int)) H_6 fun (s : Int × (List Int)) H n2 => Y9 x0.o7 (x0.o7.n : Int) x0 s.1 s.2 H n2 K))
theorem b0N (x0 : f6) {w0 w : World} {ps0 : Nat → Prop} {H0 H : Hp} {K : Sl → Int → Hp → Prop} {R : Value → World → Prop} {E : Pan} (I : Inv w0 ps0 H0 H [] w) (hR : ∀ (r0 : Sl) (r1 : Int) (H' : Hp) (w' : World) (_ : Inv w0 ps0 H0 H' [] w') (_ : K r0 r1 H'), R (Value.tuple #[(vs r0), (vi r1)]) w') (h : a0V x0 H K) : F31 (Value.agg (b6 x0).toArray) w R E := by
 unfold a0V at h
 unfold F31
 refine D8 I (cs := (b6 x0)) rfl fun g_2 w_3 I_4 k_5 => ?_
 refine b7 (ldA Tryd.isAgg25 Tryd.sizeOf25 rfl (I_4.at1 (o := 0) (vs := (b6 x0)) (nb rfl) rfl)) ?_
 refine d7 (cap := []) (fun args w => Tryd.call27 args w) ?_
 refine i6 (Fi := []) (Fr := [bx g_2 25 (b6 x0)]) I_4 (h) (fun a7K H_6 a7L w_7 I_8 a7M k_9 a1f => ?_) (fun _ _ _ _ _ q => q.elim)
 obtain ⟨E3, rfl, rfl, h⟩ := a1f
 refine a8 (t1 _ _ _ _ _ _) ?_
 refine a2L (fun c7D => ?_) (fun c7D => ?_)
 ·replace h := h.1 c7D
  exact hR (Sl.mk none 0 0) E3 H_6 _ I_8.drop h
 ·replace h := h.2 c7D
  refine C1 I_8 Tryd.zeroValue40 (cs := [(Value.slice none 0 0)]) rfl fun a5v a3J a3k c1L => ?_
  refine a8 (a3D _ _ _) ?_
  refine C1 a3k Tryd.zeroValue115 (cs := [Value.nilFunc]) rfl fun a0u r7 f5j f9B => ?_
  refine o8 f5j Tryd.sizeOf115 (vs := [(Value.func (.func 68) #[] #[(Value.pointer (some ⟨a5v, 0, none⟩))])]) (cs' := [(Value.func (.func 68) #[] #[(Value.pointer (some ⟨a5v, 0, none⟩))])]) rfl rfl (nb rfl) rfl rfl fun a8Q b5E d0W => ?_
  refine C1 b5E Tryd.zeroValue103 (cs := [Value.nilFunc]) rfl fun X9 o5 L9 a4g => ?_
  refine a8 (a3D _ _ _) ?_
  refine o8 L9 Tryd.sizeOf103 (vs := [(Value.func (.func 69) #[] #[(Value.pointer (some ⟨a0u, 0, none⟩)), (Value.pointer (some ⟨X9, 0, none⟩))])]) (cs' := [(Value.func (.func 69) #[] #[(Value.pointer (some ⟨a0u, 0, none⟩)), (Value.pointer (some ⟨X9, 0, none⟩))])]) rfl rfl (nb rfl) rfl rfl fun d0L c1P f9C => ?_
  refine C1 c1P Tryd.zeroValue108 (cs := [Value.nilFunc]) rfl fun a3w A9 b4p f9D => ?_
  refine a8 (a3D _ _ _) ?_
  refine o8 b4p Tryd.sizeOf108 (vs := [(Value.func (.func 70) #[] #[(Value.pointer (some ⟨a0u, 0, none⟩)), (Value.pointer (some ⟨X9, 0, none⟩)), (Value.pointer (some ⟨a3w, 0, none⟩))])]) (cs' := [(Value.func (.func 70) #[] #[(Value.pointer (some ⟨a0u, 0, none⟩)), (Value.pointer (some ⟨X9, 0, none⟩)), (Value.pointer (some ⟨a3w, 0, none⟩))])]) rfl rfl (nb rfl) rfl rfl fun c4L f5k f9E => ?_
  refine C1 f5k Tryd.zeroValue116 (cs := [Value.nilFunc]) rfl fun a6C K3 d3i f4Y => ?_
  refine a8 (a3D _ _ _) ?_
  refine o8 d3i Tryd.sizeOf116 (vs := [(Value.func (.func 71) #[] #[(Value.pointer (some ⟨a0u, 0, none⟩)), (Value.pointer (some ⟨a3w, 0, none⟩)), (Value.pointer (some ⟨X9, 0, none⟩)), (Value.pointer (some ⟨a6C, 0, none⟩))])]) (cs' := [(Value.func (.func 71) #[] #[(Value.pointer (some ⟨a0u, 0, none⟩)), (Value.pointer (some ⟨a3w, 0, none⟩)), (Value.pointer (some ⟨X9, 0, none⟩)), (Value.pointer (some ⟨a6C, 0, none⟩))])]) rfl rfl (nb rfl) rfl rfl fun c4N e8P f9F => ?_
  have hj1 : ∀ (ccr_15j1 : (List Int)) (scr_15j1 : Sl) (Fcr_15j1 : Frag) (H : Hp) (w : World) (_ : RowL 5 1 o0 scr_15j1 ccr_15j1 Fcr_15j1) (_ : Inv w0 ps0 H0 H [bx a6C 116 [(Value.func (.func 71) #[] #[(Value.pointer (some ⟨a0u, 0, none⟩)), (Value.pointer (some ⟨a3w, 0, none⟩)), (Value.pointer (some ⟨X9, 0, none⟩)), (Value.pointer (some ⟨a6C, 0, none⟩))])], bx a3w 108 [(Value.func (.func 70) #[] #[(Value.pointer (some ⟨a0u, 0, none⟩)), (Value.pointer (some ⟨X9, 0, none⟩)), (Value.pointer (some ⟨a3w, 0, none⟩))])], bx X9 103 [(Value.func (.func 69) #[] #[(Value.pointer (some ⟨a0u, 0, none⟩)), (Value.pointer (some ⟨X9, 0, none⟩))])], bx a0u 115 [(Value.func (.func 68) #[] #[(Value.pointer (some ⟨a5v, 0, none⟩))])], bx a5v 40 [(vs scr_15j1)], bx g_2 25 (b6 x0), Fcr_15j1] w) (_ : Y8 ccr_15j1 x0 H K), c3a (Value.pointer (some ⟨g_2, 0, none⟩)) (Value.pointer (some ⟨a5v, 0, none⟩)) (Value.pointer (some ⟨a6C, 0, none⟩)) w R E := by
   intro ccr_15j1 scr_15j1 Fcr_15j1 H w hcr_15j1 I h
   unfold c3a
   intro _
   unfold Y8 at h
   refine b7 (ld1 Tryd.isAgg116 (I.at1 (o := 0) (vs := [(Value.func (.func 71) #[] #[(Value.pointer (some ⟨a0u, 0, none⟩)), (Value.pointer (some ⟨a3w, 0, none⟩)), (Value.pointer (some ⟨X9, 0, none⟩)), (Value.pointer (some ⟨a6C, 0, none⟩))])]) (nb rfl) rfl)) ?_
   refine a8 M9 ?_
   refine b7 (ld1 Tryd.isAgg23 ((I.bring 5).at1 (o := 1) (vs := [(vs x0.K5)]) (nb rfl) rfl)) ?_
   refine d7 (cap := [(Value.pointer (some ⟨a0u, 0, none⟩)), (Value.pointer (some ⟨a3w, 0, none⟩)), (Value.pointer (some ⟨X9, 0, none⟩)), (Value.pointer (some ⟨a6C, 0, none⟩))]) (fun args w => Tryd.call71 args w) ?_
   refine i6 (Fi := [bx a0u 115 [(Value.func (.func 68) #[] #[(Value.pointer (some ⟨a5v, 0, none⟩))])], bx a3w 108 [(Value.func (.func 70) #[] #[(Value.pointer (some ⟨a0u, 0, none⟩)), (Value.pointer (some ⟨X9, 0, none⟩)), (Value.pointer (some ⟨a3w, 0, none⟩))])], bx X9 103 [(Value.func (.func 69) #[] #[(Value.pointer (some ⟨a0u, 0, none⟩)), (Value.pointer (some ⟨X9, 0, none⟩))])], bx a6C 116 [(Value.func (.func 71) #[] #[(Value.pointer (some ⟨a0u, 0, none⟩)), (Value.pointer (some ⟨a3w, 0, none⟩)), (Value.pointer (some ⟨X9, 0, none⟩)), (Value.pointer (some ⟨a6C, 0, none⟩))])], bx a5v 40 [(vs scr_15j1)], Fcr_15j1]) (Fr := [bx g_2 25 (b6 x0)]) ((((((I.bring 6).bring 5).bring 2).bring 4).bring 4).bring 5) (h a0u a3w X9 a6C a5v scr_15j1 Fcr_15j1 hcr_15j1) (fun f9G e8O f9H f2T b4b f9I f9J f5l => ?_) (fun _ _ _ _ _ q => q.elim)
   obtain ⟨f7u, y0__84, sy0__84, Fy0__84, rfl, rfl, hy0__84, h⟩ := f5l
   refine b7 (ld1 Tryd.isAgg40 ((b4b.bring 4).at1 (o := 0) (vs := [(vs sy0__84)]) (nb rfl) rfl)) ?_
   obtain ⟨b8G, f5m, f5n, f5o, d1b⟩ := Inv.freezeC (b4b.bring 5) hy0__84 (by decide)
   replace h := h sy0__84 b8G f5n f5o d1b
   exact hR sy0__84 0 b8G _ f5m.drop.drop.drop.drop.drop.drop h
  refine t7 fun j1 hx1 => ?_
  refine a8 J9 ?_
  refine b7 (ld1 Tryd.isAgg22 ((e8P.bring 5).at1 (o := 0) (vs := [(vs x0.o7)]) (nb rfl) rfl)) ?_
  refine a8 (X0 _ _ _) ?_
  obtain ⟨c7E, b7E, f2l, f2m⟩ := h
  refine y9 (J := fun n l w => ∃ (s : Int × (List Int)) (H : Hp) (scr_15l2 : Sl) (Fcr_15l2 : Frag) , n = b7E s ∧ l = (match s with | (a2K, ccr_15l2) => [(vi a2K)]) ∧ (match s with | (a2K, ccr_15l2) => RowL 5 1 o0 scr_15l2 ccr_15l2 Fcr_15l2) ∧ (match s with | (a2K, ccr_15l2) => Inv w0 ps0 H0 H [bx a6C 116 [(Value.func (.func 71) #[] #[(Value.pointer (some ⟨a0u, 0, none⟩)), (Value.pointer (some ⟨a3w, 0, none⟩)), (Value.pointer (some ⟨X9, 0, none⟩)), (Value.pointer (some ⟨a6C, 0, none⟩))])], bx a3w 108 [(Value.func (.func 70) #[] #[(Value.pointer (some ⟨a0u, 0, none⟩)), (Value.pointer (some ⟨X9, 0, none⟩)), (Value.pointer (some ⟨a3w, 0, none⟩))])], bx X9 103 [(Value.func (.func 69) #[] #[(Value.pointer (some ⟨a0u, 0, none⟩)), (Value.pointer (some ⟨X9, 0, none⟩))])], bx a0u 115 [(Value.func (.func 68) #[] #[(Value.pointer (some ⟨a5v, 0, none⟩))])], bx a5v 40 [(vs scr_15l2)], bx g_2 25 (b6 x0), Fcr_15l2] w) ∧ c7E s H) ⟨_, (0, []), H_6, (Sl.mk none 0 0), [], rfl, rfl, (RowL.nil a5N a5O), ((((((e8P.nil.bring 6).bring 6).bring 6).bring 6).bring 6).bring 6), f2l⟩ ?_
  rintro f7v τ_129 w next2 ⟨⟨a2K, ccr_15l2⟩, H, scr_15l2, Fcr_15l2, rfl, c7F, hcr_15l2, I, f2n⟩ hn2
  dsimp only at c7F I hcr_15l2
  simp only [List.map_cons, List.map_nil, List.cons.injEq, and_true] at c7F
  have e24 := c7F
  simp only [e24]
  obtain ⟨n2, hm2, h⟩ : ∃ n2 : (Int × (List Int)) → Hp → Prop, (∀ s' H', n2 s' H' → c7E s' H' ∧ b7E s' < b7E (a2K, ccr_15l2)) ∧ Y9 x0.o7 (x0.o7.n : Int) x0 a2K ccr_15l2 H n2 K := ⟨_, fun _ _ h => h, f2m (a2K, ccr_15l2) H (fun s' H' => c7E s' H' ∧ b7E s' < b7E (a2K, ccr_15l2)) f2n (fun _ _ a b => ⟨a, b⟩)⟩
  unfold c9U
  unfold Y9 at h
  refine a8 (C4 _ _ _ _ _ _) ?_
  refine h9 (fun c7G => ?_) (fun c7G => ?_)
  ·replace h := h.1 c7G
   obtain ⟨f2o, f2p, b0M, c7H, h⟩ := h
   obtain ⟨f7w, f7x, f2q, c7H⟩ := c7H
   refine a8 (a6R f2q _ _ _ _ f2o f2p) ?_
   refine b7 (ldA (vs := (k8 b0M)) Tryd.isAgg67 Tryd.sizeOf67 rfl (I.atH c7H)) ?_
   refine C1 I Tryd.zeroValue67 (cs := [(Value.string ⟨#[]⟩), (vi 0)]) rfl fun f2r a6e f2s f7y => ?_
   refine o8 f2s Tryd.sizeOf67 (vs := (k8 b0M)) (cs' := (k8 b0M)) rfl rfl (nb rfl) rfl rfl fun f1b b5e f1c => ?_
   refine b7 (ld1 Tryd.isAgg115 ((b5e.bring 4).at1 (o := 0) (vs := [(Value.func (.func 68) #[] #[(Value.pointer (some ⟨a5v, 0, none⟩))])]) (nb rfl) rfl)) ?_
   refine a8 a5S ?_
   refine b7 (ld1 Tryd.isAgg3 (b5e.at1 (o := 1) (vs := [(vi b0M.R7)]) (nb rfl) rfl)) ?_
   refine a8 b6A ?_
   refine b7 (ld1 Tryd.isAgg9 (b5e.at1 (o := 0) (vs := [(Value.string b0M.d8)]) (nb rfl) rfl)) ?_
   refine a8 (c4w) ?_
   refine d7 (cap := [(Value.pointer (some ⟨a5v, 0, none⟩))]) (fun args w => Tryd.call68 args w) ?_
   refine i6 (Fi := [bx a5v 40 [(vs scr_15l2)], Fcr_15l2]) (Fr := [bx f2r 67 (k8 b0M), bx a6C 116 [(Value.func (.func 71) #[] #[(Value.pointer (some ⟨a0u, 0, none⟩)), (Value.pointer (some ⟨a3w, 0, none⟩)), (Value.pointer (some ⟨X9, 0, none⟩)), (Value.pointer (some ⟨a6C, 0, none⟩))])], bx a3w 108 [(Value.func (.func 70) #[] #[(Value.pointer (some ⟨a0u, 0, none⟩)), (Value.pointer (some ⟨X9, 0, none⟩)), (Value.pointer (some ⟨a3w, 0, none⟩))])], bx X9 103 [(Value.func (.func 69) #[] #[(Value.pointer (some ⟨a0u, 0, none⟩)), (Value.pointer (some ⟨X9, 0, none⟩))])], bx a0u 115 [(Value.func (.func 68) #[] #[(Value.pointer (some ⟨a5v, 0, none⟩))])], bx g_2 25 (b6 x0)]) ((b5e.bring 7).bring 6) (h a5v scr_15l2 Fcr_15l2 hcr_15l2) (fun f7z c7C f7A f7B f2t b9w f7C f2u => ?_) (fun _ _ _ _ _ q => q.elim)
   obtain ⟨f5A, y0__122, sy0__122, Fy0__122, rfl, rfl, hy0__122, h⟩ := f2u
   refine a8 (s6 _ _ _ _ _ _) ?_
   exact hn2 _ _ _ (hm2 _ _ h).2 ⟨((IntKind.wrap .i64 (a2K + 1)), y0__122), c7C, sy0__122, Fy0__122, rfl, rfl, hy0__122, ((((((((f2t.bring 2).drop.bring 1).bring 6).bring 2).bring 6).bring 6).bring 6).bring 6), (hm2 _ _ h).1⟩
  ·replace h := h.2 c7G
   exact hx1 _ _ (hj1 ccr_15l2 scr_15l2 Fcr_15l2 H _ hcr_15l2 (((((((I.bring 6).bring 6).bring 6).bring 6).bring 6).bring 6).bring 6) h)
theorem b1v (x0 : f6) {H : Hp} {K : Sl → Int → Hp → Prop} (h : a0V x0 H K) : X1 x0 H K := by
 intro w I
 refine e7t ?_
 refine b0N x0 I (fun r0 r1 H' w' I' hk => ⟨H', _, I', r0, r1, rfl, rfl, hk⟩) h
def a1T (x0 : f6) (H : Hp) (K : Int → Int → Hp → Prop) : Prop :=
 X1 x0 H (fun (E3 : Sl) (a8g : Int) (H_6 : Hp) =>
 (¬ (a8g = 0) →
 K 0 a8g H_6) ∧
 (a8g = 0 →
 a3Z E3 H_6 (fun (c7I : Int) (d3n : Hp) =>
 K c7I 0 d3n)))
theorem b2S (x0 : f6) {w0 w : World} {ps0 : Nat → Prop} {H0 H : Hp} {K : Int → Int → Hp → Prop} {R : Value → World → Prop} {E : Pan} (I : Inv w0 ps0 H0 H [] w) (hR : ∀ (r0 : Int) (r1 : Int) (H' : Hp) (w' : World) (_ : Inv w0 ps0 H0 H' [] w') (_ : K r0 r1 H'), R (Value.tuple #[(Value.int .u64 r0), (vi r1)]) w') (h : a1T x0 H K) : F33 (Value.agg (b6 x0).toArray) w R E := by
 unfold a1T at h
 unfold F33
 refine D8 I (cs := (b6 x0)) rfl fun g_2 w_3 I_4 k_5 => ?_
 refine b7 (ldA Tryd.isAgg25 Tryd.sizeOf25 rfl (I_4.at1 (o := 0) (vs := (b6 x0)) (nb rfl) rfl)) ?_
 refine d7 (cap := []) (fun args w => Tryd.call31 args w) ?_
 refine i6 (Fi := []) (Fr := [bx g_2 25 (b6 x0)]) I_4 (h) (fun a7K H_6 a7L w_7 I_8 a7M k_9 a1f => ?_) (fun _ _ _ _ _ q => q.elim)
 obtain ⟨E3, a8g, rfl, rfl, h⟩ := a1f
 refine a8 (r8 _ _ _ rfl) ?_
 refine a8 (r8 _ _ _ rfl) ?_
 refine a8 (t1 _ _ _ _ _ _) ?_
 refine a2L (fun b5Y => ?_) (fun b5Y => ?_)
 ·replace h := h.1 b5Y
  exact hR 0 a8g H_6 _ I_8.drop h
 ·replace h := h.2 b5Y
  refine d7 (cap := []) (fun args w => Tryd.call22 args w) ?_
  refine i6 (Fi := []) (Fr := [bx g_2 25 (b6 x0)]) I_8 (h) (fun f9K d3n f9L p5 b6m f9M d2v f5p => ?_) (fun _ _ _ _ _ q => q.elim)
  obtain ⟨c7I, rfl, rfl, h⟩ := f5p
  exact hR c7I 0 d3n _ b6m.drop h
theorem b3c (x0 : f6) {H : Hp} {K : Int → Int → Hp → Prop} (h : a1T x0 H K) : U6 x0 H K := by
 intro w I
 refine e7v ?_
 refine b2S x0 I (fun r0 r1 H' w' I' hk => ⟨H', _, I', r0, r1, rfl, rfl, hk⟩) h
def a0W (x0 : f6) (x1 : f6) (H : Hp) (K : Bool → Hp → Prop) : Prop :=
 U6 x0 H (fun (m7 : Int) (b5f : Int) (E5 : Hp) =>
 U6 x1 E5 (fun (o4 : Int) (a7q : Int) (C2 : Hp) =>
 TG ((((decide (b5f = 0)) && (decide (a7q = 0))) && (decide (m7 = o4))) = true) (a3L x0 x1 C2) false C2 (fun (u6 : Bool) (C0 : Hp) =>
 K ((((decide (b5f = 0)) && (decide (a7q = 0))) && (decide (m7 = o4))) && (!u6)) C0)))
theorem b0O (x0 : f6) (x1 : f6) {w0 w : World} {ps0 : Nat → Prop} {H0 H : Hp} {K : Bool → Hp → Prop} {R : Value → World → Prop} {E : Pan} (I : Inv w0 ps0 H0 H [] w) (hR : ∀ (r0 : Bool) (H' : Hp) (w' : World) (_ : Inv w0 ps0 H0 H' [] w') (_ : K r0 H'), R (Value.bool r0) w') (h : a0W x0 x1 H K) : F43 (Value.agg (b6 x0).toArray) (Value.agg (b6 x1).toArray) w R E := by
 unfold a0W at h
 unfold F43
 refine D8 I (cs := (b6 x0)) rfl fun g_2 w_3 I_4 k_5 => ?_
 refine D8 I_4 (cs := (b6 x1)) rfl fun g_7 w_8 I_9 a7H => ?_
 refine b7 (ldA Tryd.isAgg25 Tryd.sizeOf25 rfl ((I_9.bring 1).at1 (o := 0) (vs := (b6 x0)) (nb rfl) rfl)) ?_
 refine d7 (cap := []) (fun args w => Tryd.call33 args w) ?_
 refine i6 (Fi := []) (Fr := [bx g_7 25 (b6 x1), bx g_2 25 (b6 x0)]) I_9 (h) (fun a4X E5 b8i k6 L6 a7I a7J a6U => ?_) (fun _ _ _ _ _ q => q.elim)
 obtain ⟨m7, b5f, rfl, rfl, h⟩ := a6U
 refine a8 (r8 _ _ _ rfl) ?_
 refine a8 (r8 _ _ _ rfl) ?_
 refine b7 (ldA Tryd.isAgg25 Tryd.sizeOf25 rfl (L6.at1 (o := 0) (vs := (b6 x1)) (nb rfl) rfl)) ?_
 refine d7 (cap := []) (fun args w => Tryd.call33 args w) ?_
 refine i6 (Fi := []) (Fr := [bx g_7 25 (b6 x1), bx g_2 25 (b6 x0)]) L6 (h) (fun a4h C2 c2a N5 E1 a3W a6s a9i => ?_) (fun _ _ _ _ _ q => q.elim)
 obtain ⟨o4, a7q, rfl, rfl, h⟩ := a9i
 refine a8 (r8 _ _ _ rfl) ?_
 refine a8 (r8 _ _ _ rfl) ?_
 refine a8 (f7 _ _ _ _ _ _) ?_
 try simp only [J1]
 refine a8 (Pu.g fun hb => by have a7 := hb; first | exact (f7 _ _ _ _ _ _) | (simp only [b3 a7]; exact (f7 _ _ _ _ _ _)) | (simp only [b5 a7, b3 a7, b3 hb, d9 a7, d6]; exact (f7 _ _ _ _ _ _))) ?_
 refine a8 (u5 _ _) ?_
 try simp only [J1]
 try simp only [J1, a9Q, b0R, b0T, a8y, b0W, b0S, b0U, b0V, b0X]
 refine a8 (Pu.g fun hb => by have a7 := hb; first | exact (f7 _ _ _ _ _ _) | (simp only [b3 a7]; exact (f7 _ _ _ _ _ _)) | (simp only [b5 a7, b3 a7, b3 hb, d9 a7, d6]; exact (f7 _ _ _ _ _ _))) ?_
 refine a8 (u5 _ _) ?_
 refine b7 (Ld.g fun hb => by have a7 := hb; first | exact (ldA Tryd.isAgg25 Tryd.sizeOf25 rfl ((E1.bring 1).at1 (o := 0) (vs := (b6 x0)) (nb rfl) rfl)) | (simp only [b5 a7, b3 a7, b3 hb, q8 a7]; exact (ldA Tryd.isAgg25 Tryd.sizeOf25 rfl ((E1.bring 1).at1 (o := 0) (vs := (b6 x0)) (nb rfl) rfl))) | (simp only [b5 a7, b3 a7, b3 hb, d9 a7, d6]; exact (ldA Tryd.isAgg25 Tryd.sizeOf25 rfl ((E1.bring 1).at1 (o := 0) (vs := (b6 x0)) (nb rfl) rfl)))) ?_
 refine b7 (Ld.g fun hb => by have a7 := hb; first | exact (ldA Tryd.isAgg25 Tryd.sizeOf25 rfl (E1.at1 (o := 0) (vs := (b6 x1)) (nb rfl) rfl)) | (simp only [b5 a7, b3 a7, b3 hb, q8 a7]; exact (ldA Tryd.isAgg25 Tryd.sizeOf25 rfl (E1.at1 (o := 0) (vs := (b6 x1)) (nb rfl) rfl))) | (simp only [b5 a7, b3 a7, b3 hb, d9 a7, d6]; exact (ldA Tryd.isAgg25 Tryd.sizeOf25 rfl (E1.at1 (o := 0) (vs := (b6 x1)) (nb rfl) rfl)))) ?_
 refine R3 (D := fun a4y o5 => ∃ (u6 : Bool) (C0 : Hp) , a4y = (gv (((decide (b5f = 0)) && (decide (a7q = 0))) && (decide (m7 = o4))) true (Value.bool u6)) ∧ (Inv w0 ps0 H0 C0 [bx g_7 25 (b6 x1), bx g_2 25 (b6 x0)] o5) ∧ (∀ i, i < N5.heap.size → ¬ inF [] i → o5.heap[i]? = N5.heap[i]?) ∧ Hle C2 C0 ∧ (K ((((decide (b5f = 0)) && (decide (a7q = 0))) && (decide (m7 = o4))) && (!u6)) C0)) (fun b8H => ?_) (fun b8H => ?_) ?_
 ·replace h := h.1 b8H
  have a7 := b8H
  try simp only [b3 a7]
  refine d7 (cap := []) (fun args w => Tryd.call15 args w) ?_
  refine i6 (Fi := []) (Fr := [bx g_7 25 (b6 x1), bx g_2 25 (b6 x0)]) E1 (h) (fun a4y C0 c6C o5 L9 a7S a4g b2G => ?_) (fun _ _ _ _ _ q => q.elim)
  obtain ⟨u6, rfl, rfl, h⟩ := b2G
  exact ⟨u6, C0, by first | rfl | rw [b3 b8H], L9, a4g, a7S, h⟩
 ·exact ⟨false, C2, by first | rfl | rw [a0X b8H], E1, fun _ _ _ => rfl, Hle.refl _, h.2 b8H⟩
 ·clear h
  rintro a4y o5 ⟨u6, C0, rfl, L9, a4g, a7S, h⟩
  refine a8 (Pu.g fun hb => by have a7 := hb; first | exact (p7 _) | (simp only [b3 a7]; exact (p7 _)) | (simp only [b5 a7, b3 a7, b3 hb, d9 a7, d6]; exact (p7 _))) ?_
  refine a8 (u5 _ _) ?_
  exact hR ((((decide (b5f = 0)) && (decide (a7q = 0))) && (decide (m7 = o4))) && (!u6)) C0 _ L9.drop.drop h
theorem b1w (x0 : f6) (x1 : f6) {H : Hp} {K : Bool → Hp → Prop} (h : a0W x0 x1 H K) : R6 x0 x1 H K := by
 intro w I
 refine e7B ?_
 refine b0O x0 x1 I (fun r0 H' w' I' hk => ⟨H', _, I', r0, rfl, rfl, hk⟩) h
def P9 (x0 : f6) (x1 : f6) (H : Hp) (K : Bool → Hp → Prop) : Prop :=
 a3C H (fun (m7 : Bool) (E5 : Hp) =>
 ((!m7) = true →
 K false E5) ∧
 ((!m7) = false →
 X1 x0 E5 (fun (o4 : Sl) (a7q : Int) (C2 : Hp) =>
 X1 x1 C2 (fun (u6 : Sl) (c7J : Int) (C0 : Hp) =>
 U6 x0 C0 (fun (J0 : Int) (_r1_46 : Int) (O6 : Hp) =>
 U6 x1 O6 (fun (b0e : Int) (_r1_55 : Int) (b0C : Hp) =>
 a1o x0 x1 b0C (fun (a3R : Bool) (b0I : Hp) =>
 (((!decide (a7q = 0)) || (!decide (c7J = 0))) = true →
 R6 x0 x1 b0I (fun (c7K : Bool) (d3o : Hp) =>
 K (!c7K) d3o)) ∧
 (((!decide (a7q = 0)) || (!decide (c7J = 0))) = false →
 TG (a3R = true) (a3P o4 u6 b0I) false b0I (fun (a8m : Bool) (a9C : Hp) =>
 ((a3R && (!a8m)) = true →
 K false a9C) ∧
 ((a3R && (!a8m)) = false →
 R6 x0 x1 a9C (fun (b7F : Bool) (b6t : Hp) =>
 K (b7F == ((!a3R) && (decide (J0 = b0e)))) b6t)))))))))))
theorem a4J (x0 : f6) (x1 : f6) {w0 w : World} {ps0 : Nat → Prop} {H0 H : Hp} {K : Bool → Hp → Prop} {R : Value → World → Prop} {E : Pan} (I : Inv w0 ps0 H0 H [] w) (hR : ∀ (r0 : Bool) (H' : Hp) (w' : World) (_ : Inv w0 ps0 H0 H' [] w') (_ : K r0 H'), R (Value.bool r0) w') (h : P9 x0 x1 H K) : F11 (Value.agg (b6 x0).toArray) (Value.agg (b6 x1).toArray) w R E := by
 unfold P9 at h
 unfold F11
 refine D8 I (cs := (b6 x0)) rfl fun g_2 w_3 I_4 k_5 => ?_
 refine D8 I_4 (cs := (b6 x1)) rfl fun g_7 w_8 I_9 a7H => ?_
 refine d7 (cap := []) (fun args w => Tryd.call21 args w) ?_
 refine i6 (Fi := []) (Fr := [bx g_7 25 (b6 x1), bx g_2 25 (b6 x0)]) I_9 (h) (fun a4X E5 b8i k6 L6 a7I a7J a6U => ?_) (fun _ _ _ _ _ q => q.elim)
 obtain ⟨m7, rfl, rfl, h⟩ := a6U
 refine a8 (p7 _) ?_
 refine m5 (fun d3p => ?_) (fun d3p => ?_)
 ·replace h := h.1 d3p
  exact hR false E5 _ L6.drop.drop h
 ·replace h := h.2 d3p
  refine b7 (ldA Tryd.isAgg25 Tryd.sizeOf25 rfl ((L6.bring 1).at1 (o := 0) (vs := (b6 x0)) (nb rfl) rfl)) ?_
  refine d7 (cap := []) (fun args w => Tryd.call31 args w) ?_
  refine i6 (Fi := []) (Fr := [bx g_7 25 (b6 x1), bx g_2 25 (b6 x0)]) L6 (h) (fun a4h C2 c2a N5 E1 a3W a6s a9i => ?_) (fun _ _ _ _ _ q => q.elim)
  obtain ⟨o4, a7q, rfl, rfl, h⟩ := a9i
  refine a8 (r8 _ _ _ rfl) ?_
  refine a8 (r8 _ _ _ rfl) ?_
  refine b7 (ldA Tryd.isAgg25 Tryd.sizeOf25 rfl (E1.at1 (o := 0) (vs := (b6 x1)) (nb rfl) rfl)) ?_
  refine d7 (cap := []) (fun args w => Tryd.call31 args w) ?_
  refine i6 (Fi := []) (Fr := [bx g_7 25 (b6 x1), bx g_2 25 (b6 x0)]) E1 (h) (fun a4y C0 c6C o5 L9 a7S a4g b2G => ?_) (fun _ _ _ _ _ q => q.elim)
  obtain ⟨u6, c7J, rfl, rfl, h⟩ := b2G
  refine a8 (r8 _ _ _ rfl) ?_
  refine a8 (r8 _ _ _ rfl) ?_
  refine b7 (ldA Tryd.isAgg25 Tryd.sizeOf25 rfl ((L9.bring 1).at1 (o := 0) (vs := (b6 x0)) (nb rfl) rfl)) ?_
  refine d7 (cap := []) (fun args w => Tryd.call33 args w) ?_
  refine i6 (Fi := []) (Fr := [bx g_7 25 (b6 x1), bx g_2 25 (b6 x0)]) L9 (h) (fun b0A O6 c5Q a6d a1Z b4f b4g b2e => ?_) (fun _ _ _ _ _ q => q.elim)
  obtain ⟨J0, f7D, rfl, rfl, h⟩ := b2e
  refine a8 (r8 _ _ _ rfl) ?_
  refine a8 (r8 _ _ _ rfl) ?_
  refine b7 (ldA Tryd.isAgg25 Tryd.sizeOf25 rfl (a1Z.at1 (o := 0) (vs := (b6 x1)) (nb rfl) rfl)) ?_
  refine d7 (cap := []) (fun args w => Tryd.call33 args w) ?_
  refine i6 (Fi := []) (Fr := [bx g_7 25 (b6 x1), bx g_2 25 (b6 x0)]) a1Z (h) (fun e6d b0C d1E J6 b2l e6e d1F c2e => ?_) (fun _ _ _ _ _ q => q.elim)
  obtain ⟨b0e, f7E, rfl, rfl, h⟩ := c2e
  refine a8 (r8 _ _ _ rfl) ?_
  refine a8 (r8 _ _ _ rfl) ?_
  refine b7 (ldA Tryd.isAgg25 Tryd.sizeOf25 rfl ((b2l.bring 1).at1 (o := 0) (vs := (b6 x0)) (nb rfl) rfl)) ?_
  refine b7 (ldA Tryd.isAgg25 Tryd.sizeOf25 rfl (b2l.at1 (o := 0) (vs := (b6 x1)) (nb rfl) rfl)) ?_
  refine d7 (cap := []) (fun args w => Tryd.call16 args w) ?_
  refine i6 (Fi := []) (Fr := [bx g_7 25 (b6 x1), bx g_2 25 (b6 x0)]) b2l (h) (fun f4O b0I f4P b0r b2M c2c e6x d2Q => ?_) (fun _ _ _ _ _ q => q.elim)
  obtain ⟨a3R, rfl, rfl, h⟩ := d2Q
  refine a8 (t1 _ _ _ _ _ _) ?_
  try simp only [J1]
  refine a8 (Pu.g fun hb => by have a7 := hb; first | exact (t1 _ _ _ _ _ _) | (simp only [b3 a7]; exact (t1 _ _ _ _ _ _)) | (simp only [b5 a7, b3 a7, b3 hb, i4 a7, d6]; exact (t1 _ _ _ _ _ _))) ?_
  refine a8 (U3 _ _) ?_
  refine m5 (fun d3q => ?_) (fun d3q => ?_)
  ·replace h := h.1 d3q
   refine b7 (ldA Tryd.isAgg25 Tryd.sizeOf25 rfl ((b2M.bring 1).at1 (o := 0) (vs := (b6 x0)) (nb rfl) rfl)) ?_
   refine b7 (ldA Tryd.isAgg25 Tryd.sizeOf25 rfl (b2M.at1 (o := 0) (vs := (b6 x1)) (nb rfl) rfl)) ?_
   refine d7 (cap := []) (fun args w => Tryd.call43 args w) ?_
   refine i6 (Fi := []) (Fr := [bx g_7 25 (b6 x1), bx g_2 25 (b6 x0)]) b2M (h) (fun f9N d3o f9O U8 d1z f9P f3y f5q => ?_) (fun _ _ _ _ _ q => q.elim)
   obtain ⟨c7K, rfl, rfl, h⟩ := f5q
   refine a8 (p7 _) ?_
   exact hR (!c7K) d3o _ d1z.drop.drop h
  ·replace h := h.2 d3q
   try simp only [J1, a9Q, b0R, b0T, a8y, b0W, b0S, b0U, b0V, b0X]
   try simp only [J1, a9Q, b0R, b0T, a8y, b0W, b0S, b0U, b0V, b0X]
   refine R3 (D := fun d3r b3K => ∃ (a8m : Bool) (a9C : Hp) , d3r = (gv a3R true (Value.bool a8m)) ∧ (Inv w0 ps0 H0 a9C [bx g_7 25 (b6 x1), bx g_2 25 (b6 x0)] b3K) ∧ (∀ i, i < b0r.heap.size → ¬ inF [] i → b3K.heap[i]? = b0r.heap[i]?) ∧ Hle b0I a9C ∧ (((a3R && (!a8m)) = true →
 K false a9C) ∧
 ((a3R && (!a8m)) = false →
 R6 x0 x1 a9C (fun (b7F : Bool) (b6t : Hp) =>
 K (b7F == ((!a3R) && (decide (J0 = b0e)))) b6t)))) (fun b8I => ?_) (fun b8I => ?_) ?_
   ·replace h := h.1 b8I
    have a7 := b8I
    try simp only [b3 a7]
    refine d7 (cap := []) (fun args w => Tryd.call35 args w) ?_
    refine i6 (Fi := []) (Fr := [bx g_7 25 (b6 x1), bx g_2 25 (b6 x0)]) b2M (h) (fun d3r a9C f9Q b3K b8J e8Q e8R f5r => ?_) (fun _ _ _ _ _ q => q.elim)
    obtain ⟨a8m, rfl, rfl, h⟩ := f5r
    exact ⟨a8m, a9C, by first | rfl | rw [b3 b8I], b8J, e8R, e8Q, h⟩
   ·exact ⟨false, b0I, by first | rfl | rw [a0X b8I], b2M, fun _ _ _ => rfl, Hle.refl _, h.2 b8I⟩
   ·clear h
    rintro d3r b3K ⟨a8m, a9C, rfl, b8J, e8R, e8Q, h⟩
    refine a8 (Pu.g fun hb => by have a7 := hb; first | exact (p7 _) | (simp only [b3 a7]; exact (p7 _)) | (simp only [b5 a7, b3 a7, b3 hb, d9 a7, d6]; exact (p7 _))) ?_
    refine a8 (u5 _ _) ?_
    refine m5 (fun b6h => ?_) (fun b6h => ?_)
    ·replace h := h.1 b6h
     exact hR false a9C _ b8J.drop.drop h
    ·replace h := h.2 b6h
     refine b7 (ldA Tryd.isAgg25 Tryd.sizeOf25 rfl ((b8J.bring 1).at1 (o := 0) (vs := (b6 x0)) (nb rfl) rfl)) ?_
     refine b7 (ldA Tryd.isAgg25 Tryd.sizeOf25 rfl (b8J.at1 (o := 0) (vs := (b6 x1)) (nb rfl) rfl)) ?_
     refine d7 (cap := []) (fun args w => Tryd.call43 args w) ?_
     refine i6 (Fi := []) (Fr := [bx g_7 25 (b6 x1), bx g_2 25 (b6 x0)]) b8J (h) (fun f9R b6t f9S a3G c3p f9T f5g f5s => ?_) (fun _ _ _ _ _ q => q.elim)
     obtain ⟨b7F, rfl, rfl, h⟩ := f5s
     refine a8 (p7 _) ?_
     try simp only [J1]
     try simp only [J1, a9Q, b0R, b0T, a8y, b0W, b0S, b0U, b0V, b0X]
     refine a8 (Pu.g fun hb => by have a7 := hb; first | exact (f7 _ _ _ _ _ _) | (simp only [b3 a7]; exact (f7 _ _ _ _ _ _)) | (simp only [b5 a7, b3 a7, b3 hb, d9 a7, d6]; exact (f7 _ _ _ _ _ _))) ?_
     refine a8 (u5 _ _) ?_
     refine a8 (d0y _ _ _ _) ?_
     exact hR (b7F == ((!a3R) && (decide (J0 = b0e)))) b6t _ c3p.drop.drop h
theorem a5w (x0 : f6) (x1 : f6) {H : Hp} {K : Bool → Hp → Prop} (h : P9 x0 x1 H K) : W8 x0 x1 H K := by
 intro w I
 refine e6W ?_
 refine a4J x0 x1 I (fun r0 H' w' I' hk => ⟨H', _, I', r0, rfl, rfl, hk⟩) h
end Go.Proofs.YthldnpmfelniiaaDoor
