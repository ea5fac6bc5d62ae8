/- Typed formulas of the program's functions that few laws need; printed by lift.py off the code. -/
import Derived.Test.YthldnpmfelniiaaDoorzWV1
import Derived.Test.YthldnpmfelniiaaDoorzWG1y
namespace Go.Proofs.YthldnpmfelniiaaDoor
open Go.RowKit
set_option maxRecDepth 100000
set_option maxHeartbeats 2000000
def U6 (a7r : (List b9)) (_cr_1j2 : m7) (H : Hp) (K : (List b9) → Hp → Prop) : Prop :=
 K a7r H
def U7 (cr_1l3 : m7) (a1g : (List b9)) (a0R : Int) (H : Hp) (n3 : ((List b9) × Int) → Hp → Prop) (K : (List b9) → Hp → Prop) : Prop :=
 (a0R < (cr_1l3.u6.n : Int) →
 (0 : Int) ≤ a0R ∧ (a0R : Int) < cr_1l3.u6.n ∧ ∃ d5g : m7, EltH H cr_1l3.u6 a0R 4 (f6 d5g) ∧
 Q3 a1g d5g H (fun (d5h : (List b9)) (e2u : Hp) =>
 n3 (d5h, (IntKind.wrap .i64 (a0R + 1))) e2u)) ∧
 (¬ (a0R < (cr_1l3.u6.n : Int)) →
 U6 a1g cr_1l3 H K)
def J9 (a3h : (List b9)) (cr_1j1 : m7) (H : Hp) (K : (List b9) → Hp → Prop) : Prop :=
 TL ((a3h, 0) : (List b9) × Int) H fun (s : (List b9) × Int) H n3 => U7 cr_1j1 s.1 s.2 H n3 K
def a0m (x0 : (List b9)) (x1 : m7) (H : Hp) (K : (List b9) → Hp → Prop) : Prop :=
 (((decide (x1.c6 = 2)) || (decide (x1.c6 = 4))) = true →
 (x0.length + ([(b9.mk x1.f5 (decide (x1.c6 = 4)))] : List b9).length) * 25 ≤ 140737488355328 ∧
 J9 (x0 ++ [(b9.mk x1.f5 (decide (x1.c6 = 4)))]) x1 H K) ∧
 (((decide (x1.c6 = 2)) || (decide (x1.c6 = 4))) = false →
 J9 x0 x1 H K)
theorem a9E (x0 : (List b9)) (x1 : m7) (sx0 : Sl) (Fx0 : Frag) (hx0 : RowL 71 2 m0 sx0 x0 Fx0) {w0 w : World} {ps0 : Nat → Prop} {H0 H : Hp} {K : (List b9) → Hp → Prop} {R : Value → World → Prop} {E : Pan} (I : Inv w0 ps0 H0 H [Fx0] w) (hR : ∀ (r0 : (List b9)) (sr0 : Sl) (Fr0 : Frag) (H' : Hp) (w' : World) (_ : RowL 71 2 m0 sr0 r0 Fr0) (_ : Inv w0 ps0 H0 H' [Fr0] w') (_ : K r0 H'), R (vs sr0) w') (h : a0m x0 x1 H K) : d5e (vs sx0) (Value.agg (f6 x1).toArray) w R E := by
 unfold a0m at h
 unfold d5e
 refine K2 I (cs := (f6 x1)) rfl fun g_2 w_3 I_4 k_5 => ?_
 have hj1 : ∀ (a3h : (List b9)) (a6F : Sl) (Fs0j1 : Frag) (H : Hp) (w : World) (_ : RowL 71 2 m0 a6F a3h Fs0j1) (_ : Inv w0 ps0 H0 H [bx g_2 30 (f6 x1), Fs0j1] w) (_ : J9 a3h x1 H K), c4l (vs a6F) (Value.pointer (some ⟨g_2, 0, none⟩)) w R E := by
  intro a3h a6F Fs0j1 H w c2n I h
  unfold c4l
  intro _
  unfold J9 at h
  have hj2 : ∀ (a7r : (List b9)) (b1A : Sl) (Fs0j2 : Frag) (H : Hp) (w : World) (_ : RowL 71 2 m0 b1A a7r Fs0j2) (_ : Inv w0 ps0 H0 H [bx g_2 30 (f6 x1), Fs0j2] w) (_ : U6 a7r x1 H K), c4k (vs b1A) w R E := by
   intro a7r b1A Fs0j2 H w d5i I h
   unfold c4k
   intro _
   unfold U6 at h
   exact hR a7r b1A Fs0j2 H _ d5i I.drop h
  refine o3 fun j2 hx2 => ?_
  obtain ⟨e2v, c9s, h2Y, h2Z⟩ := h
  refine t6 (J := fun n l w => ∃ (s : (List b9) × Int) (H : Hp) (a9r : Sl) (Fs0l3 : Frag) , n = c9s s ∧ l = (match s with | (a1g, a0R) => [(vs a9r), (vi a0R)]) ∧ (match s with | (a1g, a0R) => RowL 71 2 m0 a9r a1g Fs0l3) ∧ (match s with | (a1g, a0R) => Inv w0 ps0 H0 H [bx g_2 30 (f6 x1), Fs0l3] w) ∧ e2v s H) ⟨_, (a3h, 0), H, a6F, Fs0j1, rfl, rfl, c2n, ((I.bring 1).bring 1), h2Y⟩ ?_
  rintro h8V τ_42 w next3 ⟨⟨a1g, a0R⟩, H, a9r, Fs0l3, rfl, e2w, b6v, I, h3a⟩ hn3
  dsimp only at e2w I b6v
  simp only [List.map_cons, List.map_nil, List.cons.injEq, and_true] at e2w
  obtain ⟨e0, e5⟩ := e2w
  simp only [e0, e5]
  obtain ⟨n3, hm3, h⟩ : ∃ n3 : ((List b9) × Int) → Hp → Prop, (∀ s' H', n3 s' H' → e2v s' H' ∧ c9s s' < c9s (a1g, a0R)) ∧ U7 x1 a1g a0R H n3 K := ⟨_, fun _ _ h => h, h2Z (a1g, a0R) H (fun s' H' => e2v s' H' ∧ c9s s' < c9s (a1g, a0R)) h3a (fun _ _ a b => ⟨a, b⟩)⟩
  unfold d1o
  unfold U7 at h
  refine a6 a0U ?_
  refine c5 (ld1 Tryd.isAgg28 (I.at1 (o := 3) (vs := [(vs x1.u6)]) (nb rfl) rfl)) ?_
  refine a6 (G2 _ _ _) ?_
  refine a6 (p6 _ _ _ _ _ _) ?_
  refine g8 (fun e2x => ?_) (fun e2x => ?_)
  ·replace h := h.1 e2x
   refine a6 a0U ?_
   refine c5 (ld1 Tryd.isAgg28 (I.at1 (o := 3) (vs := [(vs x1.u6)]) (nb rfl) rfl)) ?_
   obtain ⟨d9N, b9R, d5g, c0G, h⟩ := h
   obtain ⟨h8W, h8X, b9Q, c0G⟩ := c0G
   refine a6 (a2u b9Q _ _ _ _ d9N b9R) ?_
   refine c5 (ldA (vs := (f6 d5g)) Tryd.isAgg30 Tryd.sizeOf30 rfl (I.atH c0G)) ?_
   refine f7 (cap := []) (fun args w => Tryd.call102 args w) ?_
   refine m2 (Fi := [Fs0l3]) (Fr := [bx g_2 30 (f6 x1)]) (I.bring 1) (h a9r Fs0l3 b6v) (fun h8Y e2u h3b y7 e2n f6B h2T h3c => ?_) (fun _ _ _ _ _ q => q.elim)
   obtain ⟨d5h, g1A, g1B, rfl, rfl, g1C, h⟩ := h3c
   refine a6 (o4 _ _ _ _ _ _) ?_
   exact hn3 _ _ _ (hm3 _ _ h).2 ⟨(d5h, (IntKind.wrap .i64 (a0R + 1))), e2u, g1A, g1B, rfl, rfl, g1C, (e2n.bring 1), (hm3 _ _ h).1⟩
  ·replace h := h.2 e2x
   exact hx2 _ _ (hj2 a1g a9r Fs0l3 H _ b6v ((I.bring 1).bring 1) h)
 refine o3 fun j1 hx1 => ?_
 refine a6 J6 ?_
 refine c5 (ld1 Tryd.isAgg3 (I_4.at1 (o := 0) (vs := [(vi x1.c6)]) (nb rfl) rfl)) ?_
 refine a6 (c8 _ _ _ _ _ _) ?_
 refine a6 (Pu.g fun hb => by have a7 := hb; first | exact J6 | (simp only [b8 a7, a8 a7, a8 hb, a4O a7]; exact J6) | (simp only [b8 a7, a8 a7, a8 hb, v8 a7, h7]; exact J6)) ?_
 refine c5 (Ld.g fun hb => by have a7 := hb; first | exact (ld1 Tryd.isAgg3 (I_4.at1 (o := 0) (vs := [(vi x1.c6)]) (nb rfl) rfl)) | (simp only [a8 a7]; exact (ld1 Tryd.isAgg3 (I_4.at1 (o := 0) (vs := [(vi x1.c6)]) (nb rfl) rfl))) | (simp only [b8 a7, a8 a7, a8 hb, v8 a7, h7]; exact (ld1 Tryd.isAgg3 (I_4.at1 (o := 0) (vs := [(vi x1.c6)]) (nb rfl) rfl)))) ?_
 refine a6 (Pu.g fun hb => by have a7 := hb; first | exact (c8 _ _ _ _ _ _) | (simp only [a8 a7]; exact (c8 _ _ _ _ _ _)) | (simp only [b8 a7, a8 a7, a8 hb, v8 a7, h7]; exact (c8 _ _ _ _ _ _))) ?_
 refine a6 (E6 _ _) ?_
 refine m5 (fun b2T => ?_) (fun b2T => ?_)
 ·replace h := h.1 b2T
  refine a6 a3G ?_
  refine c5 (ld1 Tryd.isAgg9 (I_4.at1 (o := 2) (vs := [(Value.string x1.f5)]) (nb rfl) rfl)) ?_
  refine a6 J6 ?_
  refine c5 (ld1 Tryd.isAgg3 (I_4.at1 (o := 0) (vs := [(vi x1.c6)]) (nb rfl) rfl)) ?_
  refine a6 (c8 _ _ _ _ _ _) ?_
  refine a6 (b6P _ _) ?_
  refine a5G (e := 71) (c := m0) (xs := [(b9.mk x1.f5 (decide (x1.c6 = 4)))]) I_4 (d0L _ _) rfl rfl a6s a6t (nb rfl) fun s_7 F_8 w_9 b3h a5z b7M => ?_
  obtain ⟨c0H, h⟩ := h
  refine d6J (s := sx0) (xs := x0) (a5z.bring 2) hx0 (b3h.srcO ((a5z.bring 2).bring 1)) c0H fun h3d f6e a6u b6w b0a d3l => ?_
  exact hx1 _ _ (hj1 (x0 ++ [(b9.mk x1.f5 (decide (x1.c6 = 4)))]) h3d f6e H _ b6w ((b0a.bring 1).drop.bring 1) h)
 ·replace h := h.2 b2T
  exact hx1 _ _ (hj1 x0 sx0 Fx0 H _ hx0 ((I_4.bring 1).bring 1) h)
theorem b0h (x0 : (List b9)) (x1 : m7) {H : Hp} {K : (List b9) → Hp → Prop} (h : a0m x0 x1 H K) : Q3 x0 x1 H K := by
 intro sx0 Fx0 hx0 w I
 refine e8B ?_
 refine a9E x0 x1 sx0 Fx0 hx0 I (fun r0 sr0 Fr0 H' w' khr0 I' hk => ⟨H', _, I', r0, sr0, Fr0, rfl, rfl, khr0, hk⟩) h
def U8 (a7r : (List b9)) (_cr_1j2 : m8) (H : Hp) (K : (List b9) → Hp → Prop) : Prop :=
 K a7r H
def U9 (cr_1l3 : m8) (a1g : (List b9)) (M0 : Int) (H : Hp) (n3 : ((List b9) × Int) → Hp → Prop) (K : (List b9) → Hp → Prop) : Prop :=
 (M0 < (cr_1l3.p5.n : Int) →
 (0 : Int) ≤ M0 ∧ (M0 : Int) < cr_1l3.p5.n ∧ ∃ d5j : m8, EltH H cr_1l3.p5 M0 4 (g7 d5j) ∧
 a0f a1g d5j H (fun (d5k : (List b9)) (e2y : Hp) =>
 n3 (d5k, (IntKind.wrap .i64 (M0 + 1))) e2y)) ∧
 (¬ (M0 < (cr_1l3.p5.n : Int)) →
 U8 a1g cr_1l3 H K)
def V0 (a3h : (List b9)) (cr_1j1 : m8) (H : Hp) (K : (List b9) → Hp → Prop) : Prop :=
 TL ((a3h, 0) : (List b9) × Int) H fun (s : (List b9) × Int) H n3 => U9 cr_1j1 s.1 s.2 H n3 K
def V1 (cr_1l4 : m8) (a7Q : (List b9)) (K9 : Int) (H : Hp) (n4 : ((List b9) × Int) → Hp → Prop) (K : (List b9) → Hp → Prop) : Prop :=
 (K9 < (cr_1l4.g5.n : Int) →
 (0 : Int) ≤ K9 ∧ (K9 : Int) < cr_1l4.g5.n ∧ ∃ x_6 : m7, EltH H cr_1l4.g5 K9 4 (f6 x_6) ∧
 Q3 a7Q x_6 H (fun (b6x : (List b9)) (a7z : Hp) =>
 n4 (b6x, (IntKind.wrap .i64 (K9 + 1))) a7z)) ∧
 (¬ (K9 < (cr_1l4.g5.n : Int)) →
 V0 a7Q cr_1l4 H K)
def a0o (x0 : (List b9)) (x1 : m8) (H : Hp) (K : (List b9) → Hp → Prop) : Prop :=
 TL ((x0, 0) : (List b9) × Int) H fun (s : (List b9) × Int) H n4 => V1 x1 s.1 s.2 H n4 K
theorem a9F (x0 : (List b9)) (x1 : m8) (sx0 : Sl) (Fx0 : Frag) (hx0 : RowL 71 2 m0 sx0 x0 Fx0) {w0 w : World} {ps0 : Nat → Prop} {H0 H : Hp} {K : (List b9) → Hp → Prop} {R : Value → World → Prop} {E : Pan} (I : Inv w0 ps0 H0 H [Fx0] w) (hR : ∀ (r0 : (List b9)) (sr0 : Sl) (Fr0 : Frag) (H' : Hp) (w' : World) (_ : RowL 71 2 m0 sr0 r0 Fr0) (_ : Inv w0 ps0 H0 H' [Fr0] w') (_ : K r0 H'), R (vs sr0) w') (h : a0o x0 x1 H K) : d5d (vs sx0) (Value.agg (g7 x1).toArray) w R E := by
 unfold a0o at h
 unfold d5d
 refine K2 I (cs := (g7 x1)) rfl fun g_2 w_3 I_4 k_5 => ?_
 have hj1 : ∀ (a3h : (List b9)) (a6F : Sl) (Fs0j1 : Frag) (H : Hp) (w : World) (_ : RowL 71 2 m0 a6F a3h Fs0j1) (_ : Inv w0 ps0 H0 H [bx g_2 33 (g7 x1), Fs0j1] w) (_ : V0 a3h x1 H K), c4j (vs a6F) (Value.pointer (some ⟨g_2, 0, none⟩)) w R E := by
  intro a3h a6F Fs0j1 H w c2n I h
  unfold c4j
  intro _
  unfold V0 at h
  have hj2 : ∀ (a7r : (List b9)) (b1A : Sl) (Fs0j2 : Frag) (H : Hp) (w : World) (_ : RowL 71 2 m0 b1A a7r Fs0j2) (_ : Inv w0 ps0 H0 H [bx g_2 33 (g7 x1), Fs0j2] w) (_ : U8 a7r x1 H K), c4i (vs b1A) w R E := by
   intro a7r b1A Fs0j2 H w d5i I h
   unfold c4i
   intro _
   unfold U8 at h
   exact hR a7r b1A Fs0j2 H _ d5i I.drop h
  refine o3 fun j2 hx2 => ?_
  obtain ⟨e2z, c9t, h3e, h3f⟩ := h
  refine t6 (J := fun n l w => ∃ (s : (List b9) × Int) (H : Hp) (a9r : Sl) (Fs0l3 : Frag) , n = c9t s ∧ l = (match s with | (a1g, M0) => [(vs a9r), (vi M0)]) ∧ (match s with | (a1g, M0) => RowL 71 2 m0 a9r a1g Fs0l3) ∧ (match s with | (a1g, M0) => Inv w0 ps0 H0 H [bx g_2 33 (g7 x1), Fs0l3] w) ∧ e2z s H) ⟨_, (a3h, 0), H, a6F, Fs0j1, rfl, rfl, c2n, ((I.bring 1).bring 1), h3e⟩ ?_
  rintro h8Z τ_44 w next3 ⟨⟨a1g, M0⟩, H, a9r, Fs0l3, rfl, c7k, b6v, I, h3g⟩ hn3
  dsimp only at c7k I b6v
  simp only [List.map_cons, List.map_nil, List.cons.injEq, and_true] at c7k
  obtain ⟨e0, e6⟩ := c7k
  simp only [e0, e6]
  obtain ⟨n3, hm3, h⟩ : ∃ n3 : ((List b9) × Int) → Hp → Prop, (∀ s' H', n3 s' H' → e2z s' H' ∧ c9t s' < c9t (a1g, M0)) ∧ U9 x1 a1g M0 H n3 K := ⟨_, fun _ _ h => h, h3f (a1g, M0) H (fun s' H' => e2z s' H' ∧ c9t s' < c9t (a1g, M0)) h3g (fun _ _ a b => ⟨a, b⟩)⟩
  unfold d1m
  unfold U9 at h
  refine a6 a0W ?_
  refine c5 (ld1 Tryd.isAgg31 (I.at1 (o := 3) (vs := [(vs x1.p5)]) (nb rfl) rfl)) ?_
  refine a6 (Q7 _ _ _) ?_
  refine a6 (p6 _ _ _ _ _ _) ?_
  refine g8 (fun c0D => ?_) (fun c0D => ?_)
  ·replace h := h.1 c0D
   refine a6 a0W ?_
   refine c5 (ld1 Tryd.isAgg31 (I.at1 (o := 3) (vs := [(vs x1.p5)]) (nb rfl) rfl)) ?_
   obtain ⟨b9Q, c0G, d5j, e2A, h⟩ := h
   obtain ⟨c9u, h9a, h3h, e2A⟩ := e2A
   refine a6 (a5I h3h _ _ _ _ b9Q c0G) ?_
   refine c5 (ldA (vs := (g7 d5j)) Tryd.isAgg33 Tryd.sizeOf33 rfl (I.atH e2A)) ?_
   refine f7 (cap := []) (fun args w => Tryd.call101 args w) ?_
   refine m2 (Fi := [Fs0l3]) (Fr := [bx g_2 33 (g7 x1)]) (I.bring 1) (h a9r Fs0l3 b6v) (fun h9b e2y h9c A7 a7Z d3T c7j h3i => ?_) (fun _ _ _ _ _ q => q.elim)
   obtain ⟨d5k, g1D, g1E, rfl, rfl, g1F, h⟩ := h3i
   refine a6 (o4 _ _ _ _ _ _) ?_
   exact hn3 _ _ _ (hm3 _ _ h).2 ⟨(d5k, (IntKind.wrap .i64 (M0 + 1))), e2y, g1D, g1E, rfl, rfl, g1F, (a7Z.bring 1), (hm3 _ _ h).1⟩
  ·replace h := h.2 c0D
   exact hx2 _ _ (hj2 a1g a9r Fs0l3 H _ b6v ((I.bring 1).bring 1) h)
 refine o3 fun j1 hx1 => ?_
 obtain ⟨e2B, c9v, h3j, h3k⟩ := h
 refine t6 (J := fun n l w => ∃ (s : (List b9) × Int) (H : Hp) (c2o : Sl) (Fs0l4 : Frag) , n = c9v s ∧ l = (match s with | (a7Q, K9) => [(vs c2o), (vi K9)]) ∧ (match s with | (a7Q, K9) => RowL 71 2 m0 c2o a7Q Fs0l4) ∧ (match s with | (a7Q, K9) => Inv w0 ps0 H0 H [bx g_2 33 (g7 x1), Fs0l4] w) ∧ e2B s H) ⟨_, (x0, 0), H, sx0, Fx0, rfl, rfl, hx0, ((I_4.bring 1).bring 1), h3j⟩ ?_
 rintro h9d τ_53 w next4 ⟨⟨a7Q, K9⟩, H, c2o, Fs0l4, rfl, c3C, d5l, I, h3l⟩ hn4
 dsimp only at c3C I d5l
 simp only [List.map_cons, List.map_nil, List.cons.injEq, and_true] at c3C
 obtain ⟨e0, e5⟩ := c3C
 simp only [e0, e5]
 obtain ⟨n4, hm4, h⟩ : ∃ n4 : ((List b9) × Int) → Hp → Prop, (∀ s' H', n4 s' H' → e2B s' H' ∧ c9v s' < c9v (a7Q, K9)) ∧ V1 x1 a7Q K9 H n4 K := ⟨_, fun _ _ h => h, h3k (a7Q, K9) H (fun s' H' => e2B s' H' ∧ c9v s' < c9v (a7Q, K9)) h3l (fun _ _ a b => ⟨a, b⟩)⟩
 unfold d1n
 unfold V1 at h
 refine a6 a0V ?_
 refine c5 (ld1 Tryd.isAgg28 (I.at1 (o := 2) (vs := [(vs x1.g5)]) (nb rfl) rfl)) ?_
 refine a6 (G2 _ _ _) ?_
 refine a6 (p6 _ _ _ _ _ _) ?_
 refine g8 (fun e2C => ?_) (fun e2C => ?_)
 ·replace h := h.1 e2C
  refine a6 a0V ?_
  refine c5 (ld1 Tryd.isAgg28 (I.at1 (o := 2) (vs := [(vs x1.g5)]) (nb rfl) rfl)) ?_
  obtain ⟨h_9, b3h, x_6, a7d, h⟩ := h
  obtain ⟨g_7, o_8, b0X, a7d⟩ := a7d
  refine a6 (a2u b0X _ _ _ _ h_9 b3h) ?_
  refine c5 (ldA (vs := (f6 x_6)) Tryd.isAgg30 Tryd.sizeOf30 rfl (I.atH a7d)) ?_
  refine f7 (cap := []) (fun args w => Tryd.call102 args w) ?_
  refine m2 (Fi := [Fs0l4]) (Fr := [bx g_2 33 (g7 x1)]) (I.bring 1) (h c2o Fs0l4 d5l) (fun h3m a7z g1G o8 b5H c8S c7q e2D => ?_) (fun _ _ _ _ _ q => q.elim)
  obtain ⟨b6x, g1H, g1I, rfl, rfl, g1J, h⟩ := e2D
  refine a6 (o4 _ _ _ _ _ _) ?_
  exact hn4 _ _ _ (hm4 _ _ h).2 ⟨(b6x, (IntKind.wrap .i64 (K9 + 1))), a7z, g1H, g1I, rfl, rfl, g1J, (b5H.bring 1), (hm4 _ _ h).1⟩
 ·replace h := h.2 e2C
  exact hx1 _ _ (hj1 a7Q c2o Fs0l4 H _ d5l ((I.bring 1).bring 1) h)
theorem b0i (x0 : (List b9)) (x1 : m8) {H : Hp} {K : (List b9) → Hp → Prop} (h : a0o x0 x1 H K) : a0f x0 x1 H K := by
 intro sx0 Fx0 hx0 w I
 refine e8z ?_
 refine a9F x0 x1 sx0 Fx0 hx0 I (fun r0 sr0 Fr0 H' w' khr0 I' hk => ⟨H', _, I', r0, sr0, Fr0, rfl, rfl, khr0, hk⟩) h
def V2 (b9c : (List b9)) (_s1j3 : Sl) (h3n : Int) (H : Hp) (n2 : ((List b9) × Int) → Hp → Prop) (_K : (List b9) → Hp → Prop) : Prop :=
 n2 (b9c, (IntKind.wrap .i64 (h3n + 1))) H
def V3 (c2p : (List b9)) (h3o : Sl) (c4f : Int) (cr_8j6 : l9) (H : Hp) (n2 : ((List b9) × Int) → Hp → Prop) (K : (List b9) → Hp → Prop) : Prop :=
 Q4 c2p cr_8j6.A9 H (fun (e4e : (List b9)) (g1K : Hp) =>
 Q4 e4e cr_8j6.y8 g1K (fun (d5m : (List b9)) (e2E : Hp) =>
 V2 d5m h3o c4f e2E n2 K))
def V4 (h3p : Sl) (h3q : Int) (cr_8l7 : l9) (a7R : (List b9)) (a7E : Int) (H : Hp) (n2 : ((List b9) × Int) → Hp → Prop) (n7 : ((List b9) × Int) → Hp → Prop) (K : (List b9) → Hp → Prop) : Prop :=
 (a7E < (cr_8l7.g5.n : Int) →
 (0 : Int) ≤ a7E ∧ (a7E : Int) < cr_8l7.g5.n ∧ ∃ d5n : m7, EltH H cr_8l7.g5 a7E 4 (f6 d5n) ∧
 Q3 a7R d5n H (fun (d5o : (List b9)) (e2F : Hp) =>
 n7 (d5o, (IntKind.wrap .i64 (a7E + 1))) e2F)) ∧
 (¬ (a7E < (cr_8l7.g5.n : Int)) →
 V3 a7R h3p h3q cr_8l7 H n2 K)
def V5 (b9d : (List b9)) (h3r : Sl) (b4n : Int) (cr_8j5 : l9) (H : Hp) (n2 : ((List b9) × Int) → Hp → Prop) (K : (List b9) → Hp → Prop) : Prop :=
 TL ((b9d, 0) : (List b9) × Int) H fun (s : (List b9) × Int) H n7 => V4 h3r b4n cr_8j5 s.1 s.2 H n2 n7 K
def V6 (h3s : Sl) (h3t : Int) (cr_8l8 : l9) (a7S : (List b9)) (a7F : Int) (H : Hp) (n2 : ((List b9) × Int) → Hp → Prop) (n8 : ((List b9) × Int) → Hp → Prop) (K : (List b9) → Hp → Prop) : Prop :=
 (a7F < (cr_8l8.m4.n : Int) →
 (0 : Int) ≤ a7F ∧ (a7F : Int) < cr_8l8.m4.n ∧ ∃ d5p : m8, EltH H cr_8l8.m4 a7F 4 (g7 d5p) ∧
 a0f a7S d5p H (fun (a0I : (List b9)) (a4I : Hp) =>
 n8 (a0I, (IntKind.wrap .i64 (a7F + 1))) a4I)) ∧
 (¬ (a7F < (cr_8l8.m4.n : Int)) →
 V5 a7S h3s h3t cr_8l8 H n2 K)
def K0 (b9e : (List b9)) (h3u : Sl) (h3v : Int) (cr_8j4 : l9) (H : Hp) (n2 : ((List b9) × Int) → Hp → Prop) (K : (List b9) → Hp → Prop) : Prop :=
 TL ((b9e, 0) : (List b9) × Int) H fun (s : (List b9) × Int) H n8 => V6 h3u h3v cr_8j4 s.1 s.2 H n2 n8 K
def V7 (a3h : (List b9)) (H : Hp) (K : (List b9) → Hp → Prop) : Prop :=
 K a3h H
def V8 (a5c : Sl) (a3U : (List b9)) (u2 : Int) (H : Hp) (n2 : ((List b9) × Int) → Hp → Prop) (K : (List b9) → Hp → Prop) : Prop :=
 (u2 < (a5c.n : Int) →
 (0 : Int) ≤ u2 ∧ (u2 : Int) < a5c.n ∧ ∃ x_1 : l9, EltH H a5c u2 6 (d8 x_1) ∧
 (((decide (x_1.c6 = 1)) || (decide (x_1.c6 = 2))) = true →
 (a3U.length + ([(b9.mk x_1.f5 (decide (x_1.c6 = 2)))] : List b9).length) * 25 ≤ 140737488355328 ∧
 K0 (a3U ++ [(b9.mk x_1.f5 (decide (x_1.c6 = 2)))]) a5c u2 x_1 H n2 K) ∧
 (((decide (x_1.c6 = 1)) || (decide (x_1.c6 = 2))) = false →
 K0 a3U a5c u2 x_1 H n2 K)) ∧
 (¬ (u2 < (a5c.n : Int)) →
 V7 a3U H K)
def a0p (x0 : (List b9)) (x1 : Sl) (H : Hp) (K : (List b9) → Hp → Prop) : Prop :=
 TL ((x0, 0) : (List b9) × Int) H fun (s : (List b9) × Int) H n2 => V8 x1 s.1 s.2 H n2 K
theorem a9G (x0 : (List b9)) (x1 : Sl) (sx0 : Sl) (Fx0 : Frag) (hx0 : RowL 71 2 m0 sx0 x0 Fx0) {w0 w : World} {ps0 : Nat → Prop} {H0 H : Hp} {K : (List b9) → Hp → Prop} {R : Value → World → Prop} {E : Pan} (I : Inv w0 ps0 H0 H [Fx0] w) (hR : ∀ (r0 : (List b9)) (sr0 : Sl) (Fr0 : Frag) (H' : Hp) (w' : World) (_ : RowL 71 2 m0 sr0 r0 Fr0) (_ : Inv w0 ps0 H0 H' [Fr0] w') (_ : K r0 H'), R (vs sr0) w') (h : a0p x0 x1 H K) : F74 (vs sx0) (vs x1) w R E := by
 unfold a0p at h
 unfold F74
 have hj1 : ∀ (a3h : (List b9)) (a6F : Sl) (Fs0j1 : Frag) (H : Hp) (w : World) (_ : RowL 71 2 m0 a6F a3h Fs0j1) (_ : Inv w0 ps0 H0 H [Fs0j1] w) (_ : V7 a3h H K), c9l (vs a6F) w R E := by
  intro a3h a6F Fs0j1 H w c2n I h
  unfold c9l
  intro _
  unfold V7 at h
  exact hR a3h a6F Fs0j1 H _ c2n I h
 refine o3 fun j1 hx1 => ?_
 obtain ⟨b6d, a9f, d3n, d3o⟩ := h
 refine t6 (J := fun n l w => ∃ (s : (List b9) × Int) (H : Hp) (b9f : Sl) (Fs0l2 : Frag) , n = a9f s ∧ l = (match s with | (a3U, u2) => [(vs b9f), (vi u2)]) ∧ (match s with | (a3U, u2) => RowL 71 2 m0 b9f a3U Fs0l2) ∧ (match s with | (a3U, u2) => Inv w0 ps0 H0 H [Fs0l2] w) ∧ b6d s H) ⟨_, (x0, 0), H, sx0, Fx0, rfl, rfl, hx0, I, d3n⟩ ?_
 rintro g6S τ_105 w next2 ⟨⟨a3U, u2⟩, H, b9f, Fs0l2, rfl, b6e, c5p, I, d3p⟩ hn2
 dsimp only at b6e I c5p
 simp only [List.map_cons, List.map_nil, List.cons.injEq, and_true] at b6e
 obtain ⟨e0, e5⟩ := b6e
 simp only [e0, e5]
 obtain ⟨n2, hm2, h⟩ : ∃ n2 : ((List b9) × Int) → Hp → Prop, (∀ s' H', n2 s' H' → b6d s' H' ∧ a9f s' < a9f (a3U, u2)) ∧ V8 x1 a3U u2 H n2 K := ⟨_, fun _ _ h => h, d3o (a3U, u2) H (fun s' H' => b6d s' H' ∧ a9f s' < a9f (a3U, u2)) d3p (fun _ _ a b => ⟨a, b⟩)⟩
 unfold d8f
 unfold V8 at h
 refine a6 (M5 _ _ _) ?_
 refine a6 (p6 _ _ _ _ _ _) ?_
 refine g8 (fun c0w => ?_) (fun c0w => ?_)
 ·replace h := h.1 c0w
  have hj3 : ∀ (b9c : (List b9)) (c5q : Sl) (Fs0j3 : Frag) (H : Hp) (w : World) (_ : RowL 71 2 m0 c5q b9c Fs0j3) (_ : Inv w0 ps0 H0 H [Fs0j3] w) (_ : V2 b9c x1 u2 H n2 K), c9m (vs c5q) (vs x1) (vi u2) w next2 R E := by
   intro b9c c5q Fs0j3 H w g8Y I h
   unfold c9m
   intro _
   unfold V2 at h
   refine a6 (o4 _ _ _ _ _ _) ?_
   exact hn2 _ _ _ (hm2 _ _ h).2 ⟨(b9c, (IntKind.wrap .i64 (u2 + 1))), H, c5q, Fs0j3, rfl, rfl, g8Y, I, (hm2 _ _ h).1⟩
  refine o3 fun j3 hx3 => ?_
  obtain ⟨h_4, h_5, x_1, h_7, h⟩ := h
  obtain ⟨g_2, o_3, h_6, h_7⟩ := h_7
  refine a6 (a5J h_6 _ _ _ _ h_4 h_5) ?_
  refine c5 (ldA (vs := (d8 x_1)) Tryd.isAgg88 Tryd.sizeOf88 rfl (I.atH h_7)) ?_
  refine L8 I Tryd.zeroValue88 (cs := [(vi 0), (Value.string ⟨#[]⟩), (Value.slice none 0 0), (Value.slice none 0 0), (Value.slice none 0 0), (Value.slice none 0 0)]) rfl fun g_9 o2 a5z b7M => ?_
  refine u1 a5z Tryd.sizeOf88 (vs := (d8 x_1)) (cs' := (d8 x_1)) rfl rfl (nb rfl) rfl rfl fun a0b a3N c3r => ?_
  have hj4 : ∀ (b9e : (List b9)) (c5r : Sl) (Fs0j4 : Frag) (H : Hp) (w : World) (_ : RowL 71 2 m0 c5r b9e Fs0j4) (_ : Inv w0 ps0 H0 H [bx g_9 88 (d8 x_1), Fs0j4] w) (_ : K0 b9e x1 u2 x_1 H n2 K), c9p (vs c5r) (vs x1) (vi u2) (Value.pointer (some ⟨g_9, 0, none⟩)) w j3 R E := by
   intro b9e c5r Fs0j4 H w g8Z I h
   unfold c9p
   intro _
   unfold K0 at h
   have hj5 : ∀ (b9d : (List b9)) (c5s : Sl) (Fs0j5 : Frag) (H : Hp) (w : World) (_ : RowL 71 2 m0 c5s b9d Fs0j5) (_ : Inv w0 ps0 H0 H [bx g_9 88 (d8 x_1), Fs0j5] w) (_ : V5 b9d x1 u2 x_1 H n2 K), c9o (vs c5s) (vs x1) (vi u2) (Value.pointer (some ⟨g_9, 0, none⟩)) w j3 R E := by
    intro b9d c5s Fs0j5 H w g9a I h
    unfold c9o
    intro _
    unfold V5 at h
    have hj6 : ∀ (c2p : (List b9)) (c5t : Sl) (Fs0j6 : Frag) (H : Hp) (w : World) (_ : RowL 71 2 m0 c5t c2p Fs0j6) (_ : Inv w0 ps0 H0 H [bx g_9 88 (d8 x_1), Fs0j6] w) (_ : V3 c2p x1 u2 x_1 H n2 K), c9n (vs c5t) (vs x1) (vi u2) (Value.pointer (some ⟨g_9, 0, none⟩)) w j3 R E := by
     intro c2p c5t Fs0j6 H w g9b I h
     unfold c9n
     intro _
     unfold V3 at h
     refine a6 a1F ?_
     refine c5 (ld1 Tryd.isAgg23 (I.at1 (o := 4) (vs := [(vs x_1.A9)]) (nb rfl) rfl)) ?_
     refine f7 (cap := []) (fun args w => Tryd.call74 args w) ?_
     refine m2 (Fi := [Fs0j6]) (Fr := [bx g_9 88 (d8 x_1)]) (I.bring 1) (h c5t Fs0j6 g9b) (fun h9e g1K h9f c2X g1L h9g h9h h3w => ?_) (fun _ _ _ _ _ q => q.elim)
     obtain ⟨e4e, g1M, d8g, rfl, rfl, g1N, h⟩ := h3w
     refine a6 W5 ?_
     refine c5 (ld1 Tryd.isAgg23 ((g1L.bring 1).at1 (o := 5) (vs := [(vs x_1.y8)]) (nb rfl) rfl)) ?_
     refine f7 (cap := []) (fun args w => Tryd.call74 args w) ?_
     refine m2 (Fi := [d8g]) (Fr := [bx g_9 88 (d8 x_1)]) g1L (h g1M d8g g1N) (fun h9i e2E h9j W0 e2G h9k h3x h3y => ?_) (fun _ _ _ _ _ q => q.elim)
     obtain ⟨d5m, g1O, g1P, rfl, rfl, g1Q, h⟩ := h3y
     exact hx3 _ _ (hj3 d5m g1O g1P e2E _ g1Q (e2G.bring 1).drop h)
    refine o3 fun j6 hx6 => ?_
    obtain ⟨e2H, c9w, h3z, b7V⟩ := h
    refine t6 (J := fun n l w => ∃ (s : (List b9) × Int) (H : Hp) (c2q : Sl) (Fs0l7 : Frag) , n = c9w s ∧ l = (match s with | (a7R, a7E) => [(vs c2q), (vi a7E)]) ∧ (match s with | (a7R, a7E) => RowL 71 2 m0 c2q a7R Fs0l7) ∧ (match s with | (a7R, a7E) => Inv w0 ps0 H0 H [bx g_9 88 (d8 x_1), Fs0l7] w) ∧ e2H s H) ⟨_, (b9d, 0), H, c5s, Fs0j5, rfl, rfl, g9a, ((I.bring 1).bring 1), h3z⟩ ?_
    rintro h9l τ_86 w next7 ⟨⟨a7R, a7E⟩, H, c2q, Fs0l7, rfl, d4Q, d5q, I, h3A⟩ hn7
    dsimp only at d4Q I d5q
    simp only [List.map_cons, List.map_nil, List.cons.injEq, and_true] at d4Q
    obtain ⟨e0, e8⟩ := d4Q
    simp only [e0, e8]
    obtain ⟨n7, hm7, h⟩ : ∃ n7 : ((List b9) × Int) → Hp → Prop, (∀ s' H', n7 s' H' → e2H s' H' ∧ c9w s' < c9w (a7R, a7E)) ∧ V4 x1 u2 x_1 a7R a7E H n2 n7 K := ⟨_, fun _ _ h => h, b7V (a7R, a7E) H (fun s' H' => e2H s' H' ∧ c9w s' < c9w (a7R, a7E)) h3A (fun _ _ a b => ⟨a, b⟩)⟩
    unfold d8d
    unfold V4 at h
    refine a6 a0X ?_
    refine c5 (ld1 Tryd.isAgg28 (I.at1 (o := 2) (vs := [(vs x_1.g5)]) (nb rfl) rfl)) ?_
    refine a6 (G2 _ _ _) ?_
    refine a6 (p6 _ _ _ _ _ _) ?_
    refine g8 (fun b2P => ?_) (fun b2P => ?_)
    ·replace h := h.1 b2P
     refine a6 a0X ?_
     refine c5 (ld1 Tryd.isAgg28 (I.at1 (o := 2) (vs := [(vs x_1.g5)]) (nb rfl) rfl)) ?_
     obtain ⟨c8W, h3B, d5n, c7K, h⟩ := h
     obtain ⟨h3C, h9m, e0r, c7K⟩ := c7K
     refine a6 (a2u e0r _ _ _ _ c8W h3B) ?_
     refine c5 (ldA (vs := (f6 d5n)) Tryd.isAgg30 Tryd.sizeOf30 rfl (I.atH c7K)) ?_
     refine f7 (cap := []) (fun args w => Tryd.call102 args w) ?_
     refine m2 (Fi := [Fs0l7]) (Fr := [bx g_9 88 (d8 x_1)]) (I.bring 1) (h c2q Fs0l7 d5q) (fun h9n e2F h9o M3 h3D h9p h9q h3E => ?_) (fun _ _ _ _ _ q => q.elim)
     obtain ⟨d5o, g1R, g1S, rfl, rfl, g1T, h⟩ := h3E
     refine a6 (o4 _ _ _ _ _ _) ?_
     exact hn7 _ _ _ (hm7 _ _ h).2 ⟨(d5o, (IntKind.wrap .i64 (a7E + 1))), e2F, g1R, g1S, rfl, rfl, g1T, (h3D.bring 1), (hm7 _ _ h).1⟩
    ·replace h := h.2 b2P
     exact hx6 _ _ (hj6 a7R c2q Fs0l7 H _ d5q ((I.bring 1).bring 1) h)
   refine o3 fun j5 hx5 => ?_
   obtain ⟨e2I, c9x, h3F, h3G⟩ := h
   refine t6 (J := fun n l w => ∃ (s : (List b9) × Int) (H : Hp) (c2r : Sl) (Fs0l8 : Frag) , n = c9x s ∧ l = (match s with | (a7S, a7F) => [(vs c2r), (vi a7F)]) ∧ (match s with | (a7S, a7F) => RowL 71 2 m0 c2r a7S Fs0l8) ∧ (match s with | (a7S, a7F) => Inv w0 ps0 H0 H [bx g_9 88 (d8 x_1), Fs0l8] w) ∧ e2I s H) ⟨_, (b9e, 0), H, c5r, Fs0j4, rfl, rfl, g8Z, ((I.bring 1).bring 1), h3F⟩ ?_
   rintro h9r τ_95 w next8 ⟨⟨a7S, a7F⟩, H, c2r, Fs0l8, rfl, e2J, d5r, I, h3H⟩ hn8
   dsimp only at e2J I d5r
   simp only [List.map_cons, List.map_nil, List.cons.injEq, and_true] at e2J
   obtain ⟨e0, e7⟩ := e2J
   simp only [e0, e7]
   obtain ⟨n8, hm8, h⟩ : ∃ n8 : ((List b9) × Int) → Hp → Prop, (∀ s' H', n8 s' H' → e2I s' H' ∧ c9x s' < c9x (a7S, a7F)) ∧ V6 x1 u2 x_1 a7S a7F H n2 n8 K := ⟨_, fun _ _ h => h, h3G (a7S, a7F) H (fun s' H' => e2I s' H' ∧ c9x s' < c9x (a7S, a7F)) h3H (fun _ _ a b => ⟨a, b⟩)⟩
   unfold d8e
   unfold V6 at h
   refine a6 a0Y ?_
   refine c5 (ld1 Tryd.isAgg31 (I.at1 (o := 3) (vs := [(vs x_1.m4)]) (nb rfl) rfl)) ?_
   refine a6 (Q7 _ _ _) ?_
   refine a6 (p6 _ _ _ _ _ _) ?_
   refine g8 (fun b2L => ?_) (fun b2L => ?_)
   ·replace h := h.1 b2L
    refine a6 a0Y ?_
    refine c5 (ld1 Tryd.isAgg31 (I.at1 (o := 3) (vs := [(vs x_1.m4)]) (nb rfl) rfl)) ?_
    obtain ⟨c0I, c7p, d5p, b5G, h⟩ := h
    obtain ⟨h9s, h9t, b2w, b5G⟩ := b5G
    refine a6 (a5I b2w _ _ _ _ c0I c7p) ?_
    refine c5 (ldA (vs := (g7 d5p)) Tryd.isAgg33 Tryd.sizeOf33 rfl (I.atH b5G)) ?_
    refine f7 (cap := []) (fun args w => Tryd.call101 args w) ?_
    refine m2 (Fi := [Fs0l8]) (Fr := [bx g_9 88 (d8 x_1)]) (I.bring 1) (h c2r Fs0l8 d5r) (fun d3P a4I h2v C0 c3Z e1Q e1R e1S => ?_) (fun _ _ _ _ _ q => q.elim)
    obtain ⟨a0I, g1U, g1V, rfl, rfl, g1W, h⟩ := e1S
    refine a6 (o4 _ _ _ _ _ _) ?_
    exact hn8 _ _ _ (hm8 _ _ h).2 ⟨(a0I, (IntKind.wrap .i64 (a7F + 1))), a4I, g1U, g1V, rfl, rfl, g1W, (c3Z.bring 1), (hm8 _ _ h).1⟩
   ·replace h := h.2 b2L
    exact hx5 _ _ (hj5 a7S c2r Fs0l8 H _ d5r ((I.bring 1).bring 1) h)
  refine o3 fun j4 hx4 => ?_
  refine a6 C1 ?_
  refine c5 (ld1 Tryd.isAgg3 (a3N.at1 (o := 0) (vs := [(vi x_1.c6)]) (nb rfl) rfl)) ?_
  refine a6 (c8 _ _ _ _ _ _) ?_
  refine a6 (Pu.g fun hb => by have a7 := hb; first | exact C1 | (simp only [b8 a7, a8 a7, a8 hb, a4O a7]; exact C1) | (simp only [b8 a7, a8 a7, a8 hb, v8 a7, h7]; exact C1)) ?_
  refine c5 (Ld.g fun hb => by have a7 := hb; first | exact (ld1 Tryd.isAgg3 (a3N.at1 (o := 0) (vs := [(vi x_1.c6)]) (nb rfl) rfl)) | (simp only [a8 a7]; exact (ld1 Tryd.isAgg3 (a3N.at1 (o := 0) (vs := [(vi x_1.c6)]) (nb rfl) rfl))) | (simp only [b8 a7, a8 a7, a8 hb, v8 a7, h7]; exact (ld1 Tryd.isAgg3 (a3N.at1 (o := 0) (vs := [(vi x_1.c6)]) (nb rfl) rfl)))) ?_
  refine a6 (Pu.g fun hb => by have a7 := hb; first | exact (c8 _ _ _ _ _ _) | (simp only [a8 a7]; exact (c8 _ _ _ _ _ _)) | (simp only [b8 a7, a8 a7, a8 hb, v8 a7, h7]; exact (c8 _ _ _ _ _ _))) ?_
  refine a6 (E6 _ _) ?_
  refine m5 (fun e2K => ?_) (fun e2K => ?_)
  ·replace h := h.1 e2K
   refine a6 a4P ?_
   refine c5 (ld1 Tryd.isAgg9 (a3N.at1 (o := 1) (vs := [(Value.string x_1.f5)]) (nb rfl) rfl)) ?_
   refine a6 C1 ?_
   refine c5 (ld1 Tryd.isAgg3 (a3N.at1 (o := 0) (vs := [(vi x_1.c6)]) (nb rfl) rfl)) ?_
   refine a6 (c8 _ _ _ _ _ _) ?_
   refine a6 (b6P _ _) ?_
   refine a5G (e := 71) (c := m0) (xs := [(b9.mk x_1.f5 (decide (x_1.c6 = 2)))]) a3N (d0L _ _) rfl rfl a6s a6t (nb rfl) fun d3q g1G a5b c0J a5A b7S => ?_
   obtain ⟨b2v, h⟩ := h
   refine d6J (s := b9f) (xs := a3U) (a5A.bring 2) c5p (c0J.srcO ((a5A.bring 2).bring 1)) b2v fun h3I d3d a9N c0G c0i f6u => ?_
   exact hx4 _ _ (hj4 (a3U ++ [(b9.mk x_1.f5 (decide (x_1.c6 = 2)))]) h3I d3d H _ c0G ((c0i.bring 1).drop.bring 1) h)
  ·replace h := h.2 e2K
   exact hx4 _ _ (hj4 a3U b9f Fs0l2 H _ c5p ((a3N.bring 1).bring 1) h)
 ·replace h := h.2 c0w
  exact hx1 _ _ (hj1 a3U b9f Fs0l2 H _ c5p I h)
theorem b0j (x0 : (List b9)) (x1 : Sl) {H : Hp} {K : (List b9) → Hp → Prop} (h : a0p x0 x1 H K) : Q4 x0 x1 H K := by
 intro sx0 Fx0 hx0 w I
 refine g0Z ?_
 refine a9G x0 x1 sx0 Fx0 hx0 I (fun r0 sr0 Fr0 H' w' khr0 I' hk => ⟨H', _, I', r0, sr0, Fr0, rfl, rfl, khr0, hk⟩) h
def a1Y (x0 : i7) (H : Hp) (K : Sl → Hp → Prop) : Prop :=
 Q4 [] x0.Z8 H (fun (e4f : (List b9)) (H_7 : Hp) =>
 ∀ (b3n : Sl) (a2z : Hp), Hle H_7 a2z → SlH a2z 2 m0 b3n e4f → b3n.n ≤ b3n.c →
 K b3n a2z)
theorem b1B (x0 : i7) {w0 w : World} {ps0 : Nat → Prop} {H0 H : Hp} {K : Sl → Hp → Prop} {R : Value → World → Prop} {E : Pan} (I : Inv w0 ps0 H0 H [] w) (hR : ∀ (r0 : Sl) (H' : Hp) (w' : World) (_ : Inv w0 ps0 H0 H' [] w') (_ : K r0 H'), R (vs r0) w') (h : a1Y x0 H K) : F37 (Value.agg (d5 x0).toArray) w R E := by
 unfold a1Y at h
 unfold F37
 refine K2 I (cs := (d5 x0)) rfl fun g_2 w_3 I_4 k_5 => ?_
 refine a6 a5H ?_
 refine c5 (ld1 Tryd.isAgg23 (I_4.at1 (o := 1) (vs := [(vs x0.Z8)]) (nb rfl) rfl)) ?_
 refine f7 (cap := []) (fun args w => Tryd.call74 args w) ?_
 refine m2 (Fi := [[]]) (Fr := [bx g_2 25 (d5 x0)]) I_4.nil (h (Sl.mk none 0 0) ([]) (RowL.nil (e := 71) a6s a6t)) (fun h9u H_7 h9v w_8 I_9 h9w d2v h3J => ?_) (fun _ _ _ _ _ q => q.elim)
 obtain ⟨e4f, b3n, h4C, rfl, rfl, g1X, h⟩ := h3J
 obtain ⟨a2z, b0a, h3K, c0H, c0J⟩ := Inv.freezeC I_9 g1X (by decide)
 replace h := h b3n a2z h3K c0H c0J
 exact hR b3n a2z _ b0a.drop h
theorem b3o (x0 : i7) {H : Hp} {K : Sl → Hp → Prop} (h : a1Y x0 H K) : a4h x0 H K := by
 intro w I
 refine g0s ?_
 refine b1B x0 I (fun r0 H' w' I' hk => ⟨H', _, I', r0, rfl, rfl, hk⟩) h
def a0q (H : Hp) (K : Bool → Hp → Prop) : Prop :=
 K true H
def a0r (a5d : Sl) (a5c : Sl) (u2 : Int) (H : Hp) (n2 : Int → Hp → Prop) (K : Bool → Hp → Prop) : Prop :=
 (u2 < (a5d.n : Int) →
 (0 : Int) ≤ u2 ∧ (u2 : Int) < a5d.n ∧ ∃ x_3 : ByteArray, EltH H a5d u2 1 [(Value.string x_3)] ∧
 (0 : Int) ≤ u2 ∧ (u2 : Int) < a5c.n ∧ ∃ b0k : ByteArray, EltH H a5c u2 1 [(Value.string b0k)] ∧
 (¬ (x_3 = b0k) →
 K false H) ∧
 (x_3 = b0k →
 n2 (IntKind.wrap .i64 (u2 + 1)) H)) ∧
 (¬ (u2 < (a5d.n : Int)) →
 a0q H K)
def a1x (x0 : Sl) (x1 : Sl) (H : Hp) (K : Bool → Hp → Prop) : Prop :=
 (¬ ((x0.n : Int) = (x1.n : Int)) →
 K false H) ∧
 ((x0.n : Int) = (x1.n : Int) →
 TL (0 : Int) H fun (s : Int) H n2 => a0r x0 x1 s H n2 K)
theorem b0Y (x0 : Sl) (x1 : Sl) {w0 w : World} {ps0 : Nat → Prop} {H0 H : Hp} {K : Bool → Hp → Prop} {R : Value → World → Prop} {E : Pan} (I : Inv w0 ps0 H0 H [] w) (hR : ∀ (r0 : Bool) (H' : Hp) (w' : World) (_ : Inv w0 ps0 H0 H' [] w') (_ : K r0 H'), R (Value.bool r0) w') (h : a1x x0 x1 H K) : F29 (vs x0) (vs x1) w R E := by
 unfold a1x at h
 unfold F29
 refine a6 (b3E _ _ _) ?_
 refine a6 (b3E _ _ _) ?_
 refine a6 (B8 _ _ _ _ _ _) ?_
 refine a3Y (fun c0K => ?_) (fun c0K => ?_)
 ·replace h := h.1 c0K
  exact hR false H _ I h
 ·replace h := h.2 c0K
  have hj1 : ∀ (H : Hp) (w : World) (_ : Inv w0 ps0 H0 H [] w) (_ : a0q H K), c9h w R E := by
   intro H w I h
   unfold c9h
   intro _
   unfold a0q at h
   exact hR true H _ I h
  refine o3 fun j1 hx1 => ?_
  obtain ⟨c0L, b3p, e2L, e2M⟩ := h
  refine t6 (J := fun n l w => ∃ (s : Int) (H : Hp) , n = b3p s ∧ l = [(vi s)] ∧ Inv w0 ps0 H0 H [] w ∧ c0L s H) ⟨_, 0, H, rfl, rfl, I, e2L⟩ ?_
  rintro h3L τ_24 w next2 ⟨u2, H, rfl, c9y, I, b5E⟩ hn2
  simp only [List.map_cons, List.map_nil, List.cons.injEq, and_true] at c9y
  have e5 := c9y
  simp only [e5]
  obtain ⟨n2, hm2, h⟩ : ∃ n2 : Int → Hp → Prop, (∀ s' H', n2 s' H' → c0L s' H' ∧ b3p s' < b3p u2) ∧ a0r x0 x1 u2 H n2 K := ⟨_, fun _ _ h => h, e2M u2 H (fun s' H' => c0L s' H' ∧ b3p s' < b3p u2) b5E (fun _ _ a b => ⟨a, b⟩)⟩
  unfold d8c
  unfold a0r at h
  refine a6 (b3E _ _ _) ?_
  refine a6 (p6 _ _ _ _ _ _) ?_
  refine g8 (fun a5V => ?_) (fun a5V => ?_)
  ·replace h := h.1 a5V
   refine a5F I fun w_1 I_2 => ?_
   obtain ⟨h_6, h_7, x_3, h_9, h⟩ := h
   obtain ⟨g_4, o_5, h_8, h_9⟩ := h_9
   refine q8 (b9C h_8 _ _ _ _ h_6 h_7) ?_
   obtain ⟨e2N, e2O, b0k, b6w, h⟩ := h
   obtain ⟨h3M, h3N, e2P, b6w⟩ := b6w
   refine q8 (b9C e2P _ _ _ _ e2N e2O) ?_
   refine M2 (ld1 (v := (Value.string x_3)) Tryd.isAgg9 (I_2.atH h_9)) ?_
   refine M2 (ld1 (v := (Value.string b0k)) Tryd.isAgg9 (I_2.atH b6w)) ?_
   refine q8 (b4q _ _ _ _ _) ?_
   refine a3Y (fun a4k => ?_) (fun a4k => ?_)
   ·replace h := h.1 a4k
    exact hR false H _ I_2 h
   ·replace h := h.2 a4k
    refine a6 (o4 _ _ _ _ _ _) ?_
    exact hn2 _ _ _ (hm2 _ _ h).2 ⟨(IntKind.wrap .i64 (u2 + 1)), H, rfl, rfl, I_2, (hm2 _ _ h).1⟩
  ·replace h := h.2 a5V
   exact hx1 _ _ (hj1 H _ I h)
theorem b1C (x0 : Sl) (x1 : Sl) {H : Hp} {K : Bool → Hp → Prop} (h : a1x x0 x1 H K) : a3J x0 x1 H K := by
 intro w I
 refine g0q ?_
 refine b0Y x0 x1 I (fun r0 H' w' I' hk => ⟨H', _, I', r0, rfl, rfl, hk⟩) h
end Go.Proofs.YthldnpmfelniiaaDoor
