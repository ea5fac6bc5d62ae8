/- Typed formulas of the program's functions that few laws need; printed by lift.py off the code. -/
import Derived.Test.YthldnpmfelniiaaDoorCV1
import Derived.Test.YthldnpmfelniiaaDoorCG1y
namespace Go.Proofs.YthldnpmfelniiaaDoor
open Go.RowKit
set_option maxRecDepth 100000
set_option maxHeartbeats 2000000
def a3P (x0 : g5) (H : Hp) (K : Sl → Int → Hp → Prop) : Prop :=
 a1A x0 H (fun (o0 : g6) (H_6 : Hp) =>
 (¬ (o0.fe = 0) →
 K (Sl.mk none 0 0) o0.fe H_6) ∧
 (o0.fe = 0 →
 K o0.fnames 0 H_6))
theorem b5q (x0 : g5) {w0 w : World} {ps0 : Nat → Prop} {H0 H : Hp} {K : Sl → Int → Hp → Prop} {R : Value → World → Prop} {E : Pan} (I : Inv w0 ps0 H0 H [] w) (hR : ∀ (r0 : Sl) (r1 : Int) (H' : Hp) (w' : World) (_ : Inv w0 ps0 H0 H' [] w') (_ : K r0 r1 H'), R (Value.tuple #[(vs r0), (vi r1)]) w') (h : a3P x0 H K) : F26 (Value.agg (d7 x0).toArray) w R E := by
 unfold a3P at h
 unfold F26
 refine G7 I (cs := (d7 x0)) rfl fun g_2 w_3 I_4 k_5 => ?_
 refine c7 (ldA Tryd.isAgg25 Tryd.sizeOf25 rfl (I_4.at1 (o := 0) (vs := (d7 x0)) (nb rfl) rfl)) ?_
 refine f8 (cap := []) (fun args w => Tryd.call66 args w) ?_
 refine i6 (Fi := []) (Fr := [bx g_2 25 (d7 x0)]) I_4 (h) (fun a6Q H_6 a6q w_7 I_8 a6R k_9 a0J => ?_) (fun _ _ _ _ _ q => q.elim)
 obtain ⟨o0, c4I, rfl, rfl, h⟩ := a0J
 refine a7 (i7 _) ?_
 refine a7 a0t ?_
 refine c7 (ld1 Tryd.isAgg34 (I_8.at1 (o := 2) (vs := [(vi o0.fe)]) (nb rfl) rfl)) ?_
 refine a7 (u7 _ _ _ _ _ _) ?_
 refine a2H (fun a0K => ?_) (fun a0K => ?_)
 ·replace h := h.1 a0K
  refine a9L I_8 fun q7 a5i => ?_
  refine D5 (i7 _) ?_
  refine D5 a0t ?_
  refine a1b (ld1 Tryd.isAgg34 (a5i.at1 (o := 2) (vs := [(vi o0.fe)]) (nb rfl) rfl)) ?_
  exact hR (Sl.mk none 0 0) o0.fe H_6 _ a5i.drop.drop h
 ·replace h := h.2 a0K
  refine a7 (i7 _) ?_
  refine a7 b0f ?_
  refine c7 (ld1 Tryd.isAgg47 (I_8.at1 (o := 5) (vs := [(vs o0.fnames)]) (nb rfl) rfl)) ?_
  exact hR o0.fnames 0 H_6 _ I_8.drop.drop h
theorem b5F (x0 : g5) {H : Hp} {K : Sl → Int → Hp → Prop} (h : a3P x0 H K) : a5z x0 H K := by
 intro w I
 refine f5N ?_
 refine b5q x0 I (fun r0 r1 H' w' I' hk => ⟨H', _, I', r0, r1, rfl, rfl, hk⟩) h
def a1y (x0 : g5) (H : Hp) (K : Int → Int → Hp → Prop) : Prop :=
 a0v x0 H (fun (o0 : b8) (H_6 : Hp) =>
 K o0.fdepth o0.fn H_6)
theorem b0x (x0 : g5) {w0 w : World} {ps0 : Nat → Prop} {H0 H : Hp} {K : Int → Int → Hp → Prop} {R : Value → World → Prop} {E : Pan} (I : Inv w0 ps0 H0 H [] w) (hR : ∀ (r0 : Int) (r1 : Int) (H' : Hp) (w' : World) (_ : Inv w0 ps0 H0 H' [] w') (_ : K r0 r1 H'), R (Value.tuple #[(vi r0), (vi r1)]) w') (h : a1y x0 H K) : F28 (Value.agg (d7 x0).toArray) w R E := by
 unfold a1y at h
 unfold F28
 refine G7 I (cs := (d7 x0)) rfl fun g_2 w_3 I_4 k_5 => ?_
 refine c7 (ldA Tryd.isAgg25 Tryd.sizeOf25 rfl (I_4.at1 (o := 0) (vs := (d7 x0)) (nb rfl) rfl)) ?_
 refine f8 (cap := []) (fun args w => Tryd.call63 args w) ?_
 refine i6 (Fi := []) (Fr := [bx g_2 25 (d7 x0)]) I_4 (h) (fun a6Q H_6 a6q w_7 I_8 a6R k_9 a0J => ?_) (fun _ _ _ _ _ q => q.elim)
 obtain ⟨o0, rfl, rfl, h⟩ := a0J
 refine L5 I_8 Tryd.zeroValue99 (cs := [(vi 0), (vi 0), (vi 0)]) rfl fun b7c a5c a4v c1C => ?_
 refine u1 a4v Tryd.sizeOf99 (vs := (f5 o0)) (cs' := (f5 o0)) rfl rfl (nb rfl) rfl rfl fun o7 a3i b2U => ?_
 refine a9L a3i fun a7A b2Y => ?_
 refine D5 b3T ?_
 refine D5 b0d ?_
 refine a1b (ld1 Tryd.isAgg3 (b2Y.at1 (o := 1) (vs := [(vi o0.fdepth)]) (nb rfl) rfl)) ?_
 refine a1b (ld1 Tryd.isAgg3 (b2Y.at1 (o := 0) (vs := [(vi o0.fn)]) (nb rfl) rfl)) ?_
 exact hR o0.fdepth o0.fn H_6 _ b2Y.drop.drop h
theorem b2m (x0 : g5) {H : Hp} {K : Int → Int → Hp → Prop} (h : a1y x0 H K) : a3y x0 H K := by
 intro w I
 refine f5P ?_
 refine b0x x0 I (fun r0 r1 H' w' I' hk => ⟨H', _, I', r0, r1, rfl, rfl, hk⟩) h
def a0B (W3 : (List ByteArray)) (d0S : ByteArray) (H : Hp) (K : (List ByteArray) → Hp → Prop) : Prop :=
 (W3.length + ([d0S] : List ByteArray).length) * 17 ≤ 140737488355328 ∧
 K (W3 ++ [d0S]) H
def a0C (a0z : (List ByteArray)) (a0M : ByteArray) (A9 : Int) (H : Hp) (n2 : Int → Hp → Prop) (K : (List ByteArray) → Hp → Prop) : Prop :=
 (A9 < (a0z.length : Int) →
 (0 : Int) ≤ A9 ∧ ∃ x_1 : ByteArray, (a0z)[(A9 : Int).toNat]? = some x_1 ∧
 (x_1 = a0M →
 K a0z H) ∧
 (¬ (x_1 = a0M) →
 n2 (IntKind.wrap .i64 (A9 + 1)) H)) ∧
 (¬ (A9 < (a0z.length : Int)) →
 a0B a0z a0M H K)
def a1L (x0 : (List ByteArray)) (x1 : ByteArray) (H : Hp) (K : (List ByteArray) → Hp → Prop) : Prop :=
 TL (0 : Int) H fun (s : Int) H n2 => a0C x0 x1 s H n2 K
theorem b2n (x0 : (List ByteArray)) (x1 : ByteArray) (sx0 : Sl) (Fx0 : Frag) (hx0 : RowL 9 1 s8 sx0 x0 Fx0) {w0 w : World} {ps0 : Nat → Prop} {H0 H : Hp} {K : (List ByteArray) → Hp → Prop} {R : Value → World → Prop} {E : Pan} (I : Inv w0 ps0 H0 H [Fx0] w) (hR : ∀ (r0 : (List ByteArray)) (sr0 : Sl) (Fr0 : Frag) (H' : Hp) (w' : World) (_ : RowL 9 1 s8 sr0 r0 Fr0) (_ : Inv w0 ps0 H0 H' [Fr0] w') (_ : K r0 H'), R (vs sr0) w') (h : a1L x0 x1 H K) : F67 (vs sx0) (Value.string x1) w R E := by
 unfold a1L at h
 unfold F67
 have hj1 : ∀ (W3 : (List ByteArray)) (Fs0j1 : Frag) (H : Hp) (w : World) (_ : RowL 9 1 s8 sx0 W3 Fs0j1) (_ : Inv w0 ps0 H0 H [Fs0j1] w) (_ : a0B W3 x1 H K), c7b (vs sx0) (Value.string x1) w R E := by
  intro W3 Fs0j1 H w b5r I h
  unfold c7b
  intro _
  unfold a0B at h
  refine a6l (e := 9) (c := s8) (xs := [x1]) I (c7O _) rfl rfl a9p a9q (nb rfl) fun g8A a6q k6 c5f T2 b2T => ?_
  obtain ⟨a6S, h⟩ := h
  refine d2K (s := sx0) (xs := W3) (T2.bring 1) b5r (c5f.srcO ((T2.bring 1).bring 1)) a6S fun g4t g4u r6 b1u b4C d5x => ?_
  exact hR (W3 ++ [x1]) g4t g4u H _ b1u (b4C.bring 1).drop h
 refine p9 fun j1 hx1 => ?_
 obtain ⟨d8g, c7h, g4v, g4w⟩ := h
 refine v6 (J := fun n l w => ∃ (s : Int) (H : Hp) , n = c7h s ∧ l = [(vi s)] ∧ Inv w0 ps0 H0 H [Fx0] w ∧ d8g s H) ⟨_, 0, H, rfl, rfl, I, g4v⟩ ?_
 rintro g8B τ_29 w next2 ⟨A9, H, rfl, c4Y, I, g4x⟩ hn2
 simp only [List.map_cons, List.map_nil, List.cons.injEq, and_true] at c4Y
 have e5 := c4Y
 simp only [e5]
 obtain ⟨n2, hm2, h⟩ : ∃ n2 : Int → Hp → Prop, (∀ s' H', n2 s' H' → d8g s' H' ∧ c7h s' < c7h A9) ∧ a0C x0 x1 A9 H n2 K := ⟨_, fun _ _ h => h, g4w A9 H (fun s' H' => d8g s' H' ∧ c7h s' < c7h A9) g4x (fun _ _ a b => ⟨a, b⟩)⟩
 unfold d4t
 unfold a0C at h
 refine a7 (b9s Tryd.underlying47 hx0) ?_
 refine a7 (r8 _ _ _ _ _ _) ?_
 refine g9 (fun b1P => ?_) (fun b1P => ?_)
 ·replace h := h.1 b1P
  obtain ⟨h_3, x_1, h_4, h⟩ := h
  obtain ⟨g_2, a_6, h_5, h_7⟩ := hx0.addr h_4
  refine a7 (b3V h_5 _ _ _ _ h_3 (hx0.lt h_3 h_4)) ?_
  refine c7 (ld1 (v := (Value.string x_1)) Tryd.isAgg9 (hx0.atW I h_5 h_4)) ?_
  refine a7 (F0 _ _ _ _ _) ?_
  refine g9 (fun c_8 => ?_) (fun c_8 => ?_)
  ·replace h := h.1 c_8
   exact hR x0 sx0 Fx0 H _ hx0 I h
  ·replace h := h.2 c_8
   refine a7 (q8 _ _ _ _ _ _) ?_
   exact hn2 _ _ _ (hm2 _ _ h).2 ⟨(IntKind.wrap .i64 (A9 + 1)), H, rfl, rfl, I, (hm2 _ _ h).1⟩
 ·replace h := h.2 b1P
  exact hx1 _ _ (hj1 x0 Fx0 H _ hx0 I h)
theorem b2z (x0 : (List ByteArray)) (x1 : ByteArray) {H : Hp} {K : (List ByteArray) → Hp → Prop} (h : a1L x0 x1 H K) : a1F x0 x1 H K := by
 intro sx0 Fx0 hx0 w I
 refine f6k ?_
 refine b2n x0 x1 sx0 Fx0 hx0 I (fun r0 sr0 Fr0 H' w' khr0 I' hk => ⟨H', _, I', r0, sr0, Fr0, rfl, rfl, khr0, hk⟩) h
def U0 (a6j : (List c5)) (_cr_1j2 : h9) (H : Hp) (K : (List c5) → Hp → Prop) : Prop :=
 K a6j H
def U1 (cr_1l3 : h9) (a0D : (List c5)) (V8 : Int) (H : Hp) (n3 : ((List c5) × Int) → Hp → Prop) (K : (List c5) → Hp → Prop) : Prop :=
 (V8 < (cr_1l3.t1.n : Int) →
 (0 : Int) ≤ V8 ∧ (V8 : Int) < cr_1l3.t1.n ∧ ∃ d2d : h9, EltH H cr_1l3.t1 V8 4 (f4 d2d) ∧
 P8 a0D d2d H (fun (d2e : (List c5)) (d8h : Hp) =>
 n3 (d2e, (IntKind.wrap .i64 (V8 + 1))) d8h)) ∧
 (¬ (V8 < (cr_1l3.t1.n : Int)) →
 U0 a0D cr_1l3 H K)
def I5 (W3 : (List c5)) (cr_1j1 : h9) (H : Hp) (K : (List c5) → Hp → Prop) : Prop :=
 TL ((W3, 0) : (List c5) × Int) H fun (s : (List c5) × Int) H n3 => U1 cr_1j1 s.1 s.2 H n3 K
def Z4 (x0 : (List c5)) (x1 : h9) (H : Hp) (K : (List c5) → Hp → Prop) : Prop :=
 (((decide (x1.b9 = 2)) || (decide (x1.b9 = 4))) = true →
 (x0.length + ([(c5.mk x1.g7 (decide (x1.b9 = 4)))] : List c5).length) * 25 ≤ 140737488355328 ∧
 I5 (x0 ++ [(c5.mk x1.g7 (decide (x1.b9 = 4)))]) x1 H K) ∧
 (((decide (x1.b9 = 2)) || (decide (x1.b9 = 4))) = false →
 I5 x0 x1 H K)
theorem a8G (x0 : (List c5)) (x1 : h9) (sx0 : Sl) (Fx0 : Frag) (hx0 : RowL 71 2 i8 sx0 x0 Fx0) {w0 w : World} {ps0 : Nat → Prop} {H0 H : Hp} {K : (List c5) → Hp → Prop} {R : Value → World → Prop} {E : Pan} (I : Inv w0 ps0 H0 H [Fx0] w) (hR : ∀ (r0 : (List c5)) (sr0 : Sl) (Fr0 : Frag) (H' : Hp) (w' : World) (_ : RowL 71 2 i8 sr0 r0 Fr0) (_ : Inv w0 ps0 H0 H' [Fr0] w') (_ : K r0 H'), R (vs sr0) w') (h : Z4 x0 x1 H K) : d2c (vs sx0) (Value.agg (f4 x1).toArray) w R E := by
 unfold Z4 at h
 unfold d2c
 refine G7 I (cs := (f4 x1)) rfl fun g_2 w_3 I_4 k_5 => ?_
 have hj1 : ∀ (W3 : (List c5)) (a5J : Sl) (Fs0j1 : Frag) (H : Hp) (w : World) (_ : RowL 71 2 i8 a5J W3 Fs0j1) (_ : Inv w0 ps0 H0 H [bx g_2 30 (f4 x1), Fs0j1] w) (_ : I5 W3 x1 H K), c2l (vs a5J) (Value.pointer (some ⟨g_2, 0, none⟩)) w R E := by
  intro W3 a5J Fs0j1 H w b5r I h
  unfold c2l
  intro _
  unfold I5 at h
  have hj2 : ∀ (a6j : (List c5)) (b0y : Sl) (Fs0j2 : Frag) (H : Hp) (w : World) (_ : RowL 71 2 i8 b0y a6j Fs0j2) (_ : Inv w0 ps0 H0 H [bx g_2 30 (f4 x1), Fs0j2] w) (_ : U0 a6j x1 H K), c2k (vs b0y) w R E := by
   intro a6j b0y Fs0j2 H w d2f I h
   unfold c2k
   intro _
   unfold U0 at h
   exact hR a6j b0y Fs0j2 H _ d2f I.drop h
  refine p9 fun j2 hx2 => ?_
  obtain ⟨d8i, c7i, g4y, g4z⟩ := h
  refine v6 (J := fun n l w => ∃ (s : (List c5) × Int) (H : Hp) (a8s : Sl) (Fs0l3 : Frag) , n = c7i s ∧ l = (match s with | (a0D, V8) => [(vs a8s), (vi V8)]) ∧ (match s with | (a0D, V8) => RowL 71 2 i8 a8s a0D Fs0l3) ∧ (match s with | (a0D, V8) => Inv w0 ps0 H0 H [bx g_2 30 (f4 x1), Fs0l3] w) ∧ d8i s H) ⟨_, (W3, 0), H, a5J, Fs0j1, rfl, rfl, b5r, ((I.bring 1).bring 1), g4y⟩ ?_
  rintro g8C τ_42 w next3 ⟨⟨a0D, V8⟩, H, a8s, Fs0l3, rfl, d8j, b5s, I, g4A⟩ hn3
  dsimp only at d8j I b5s
  simp only [List.map_cons, List.map_nil, List.cons.injEq, and_true] at d8j
  obtain ⟨e0, e5⟩ := d8j
  simp only [e0, e5]
  obtain ⟨n3, hm3, h⟩ : ∃ n3 : ((List c5) × Int) → Hp → Prop, (∀ s' H', n3 s' H' → d8i s' H' ∧ c7i s' < c7i (a0D, V8)) ∧ U1 x1 a0D V8 H n3 K := ⟨_, fun _ _ h => h, g4z (a0D, V8) H (fun s' H' => d8i s' H' ∧ c7i s' < c7i (a0D, V8)) g4A (fun _ _ a b => ⟨a, b⟩)⟩
  unfold c8v
  unfold U1 at h
  refine a7 M6 ?_
  refine c7 (ld1 Tryd.isAgg28 (I.at1 (o := 3) (vs := [(vs x1.t1)]) (nb rfl) rfl)) ?_
  refine a7 (F5 _ _ _) ?_
  refine a7 (r8 _ _ _ _ _ _) ?_
  refine g9 (fun d8k => ?_) (fun d8k => ?_)
  ·replace h := h.1 d8k
   refine a7 M6 ?_
   refine c7 (ld1 Tryd.isAgg28 (I.at1 (o := 3) (vs := [(vs x1.t1)]) (nb rfl) rfl)) ?_
   obtain ⟨d5s, d5t, d2d, b9m, h⟩ := h
   obtain ⟨g8D, g8E, b4z, b9m⟩ := b9m
   refine a7 (a2O b4z _ _ _ _ d5s d5t) ?_
   refine c7 (ldA (vs := (f4 d2d)) Tryd.isAgg30 Tryd.sizeOf30 rfl (I.atH b9m)) ?_
   refine f8 (cap := []) (fun args w => Tryd.call102 args w) ?_
   refine i6 (Fi := [Fs0l3]) (Fr := [bx g_2 30 (f4 x1)]) (I.bring 1) (h a8s Fs0l3 b5s) (fun g8F d8h g8G v8 a5T f1w c9y g4B => ?_) (fun _ _ _ _ _ q => q.elim)
   obtain ⟨d2e, f7r, f7s, rfl, rfl, f7t, h⟩ := g4B
   refine a7 (q8 _ _ _ _ _ _) ?_
   exact hn3 _ _ _ (hm3 _ _ h).2 ⟨(d2e, (IntKind.wrap .i64 (V8 + 1))), d8h, f7r, f7s, rfl, rfl, f7t, (a5T.bring 1), (hm3 _ _ h).1⟩
  ·replace h := h.2 d8k
   exact hx2 _ _ (hj2 a0D a8s Fs0l3 H _ b5s ((I.bring 1).bring 1) h)
 refine p9 fun j1 hx1 => ?_
 refine a7 G1 ?_
 refine c7 (ld1 Tryd.isAgg3 (I_4.at1 (o := 0) (vs := [(vi x1.b9)]) (nb rfl) rfl)) ?_
 refine a7 (d6 _ _ _ _ _ _) ?_
 refine a7 (Pu.g fun hb => by have a6 := hb; first | exact G1 | (simp only [b7 a6, a8 a6, a8 hb, a4b a6]; exact G1) | (simp only [b7 a6, a8 a6, a8 hb, v1 a6, d9]; exact G1)) ?_
 refine c7 (Ld.g fun hb => by have a6 := hb; first | exact (ld1 Tryd.isAgg3 (I_4.at1 (o := 0) (vs := [(vi x1.b9)]) (nb rfl) rfl)) | (simp only [a8 a6]; exact (ld1 Tryd.isAgg3 (I_4.at1 (o := 0) (vs := [(vi x1.b9)]) (nb rfl) rfl))) | (simp only [b7 a6, a8 a6, a8 hb, v1 a6, d9]; exact (ld1 Tryd.isAgg3 (I_4.at1 (o := 0) (vs := [(vi x1.b9)]) (nb rfl) rfl)))) ?_
 refine a7 (Pu.g fun hb => by have a6 := hb; first | exact (d6 _ _ _ _ _ _) | (simp only [a8 a6]; exact (d6 _ _ _ _ _ _)) | (simp only [b7 a6, a8 a6, a8 hb, v1 a6, d9]; exact (d6 _ _ _ _ _ _))) ?_
 refine a7 (E1 _ _) ?_
 refine k9 (fun b9b => ?_) (fun b9b => ?_)
 ·replace h := h.1 b9b
  refine a7 Y6 ?_
  refine c7 (ld1 Tryd.isAgg9 (I_4.at1 (o := 2) (vs := [(Value.string x1.g7)]) (nb rfl) rfl)) ?_
  refine a7 G1 ?_
  refine c7 (ld1 Tryd.isAgg3 (I_4.at1 (o := 0) (vs := [(vi x1.b9)]) (nb rfl) rfl)) ?_
  refine a7 (d6 _ _ _ _ _ _) ?_
  refine a7 (b5w _ _) ?_
  refine a6l (e := 71) (c := i8) (xs := [(c5.mk x1.g7 (decide (x1.b9 = 4)))]) I_4 (c7P _ _) rfl rfl a5w a5x (nb rfl) fun s_7 F_8 w_9 b1I a0Y a8S => ?_
  obtain ⟨b1u, h⟩ := h
  refine d2M (s := sx0) (xs := x0) (a0Y.bring 2) hx0 (b1I.srcO ((a0Y.bring 2).bring 1)) b1u fun g4C f1j a1C b1L a5i d6k => ?_
  exact hx1 _ _ (hj1 (x0 ++ [(c5.mk x1.g7 (decide (x1.b9 = 4)))]) g4C f1j H _ b1L ((a5i.bring 1).drop.bring 1) h)
 ·replace h := h.2 b9b
  exact hx1 _ _ (hj1 x0 sx0 Fx0 H _ hx0 ((I_4.bring 1).bring 1) h)
theorem a9l (x0 : (List c5)) (x1 : h9) {H : Hp} {K : (List c5) → Hp → Prop} (h : Z4 x0 x1 H K) : P8 x0 x1 H K := by
 intro sx0 Fx0 hx0 w I
 refine e3k ?_
 refine a8G x0 x1 sx0 Fx0 hx0 I (fun r0 sr0 Fr0 H' w' khr0 I' hk => ⟨H', _, I', r0, sr0, Fr0, rfl, rfl, khr0, hk⟩) h
def U2 (a6j : (List c5)) (_cr_1j2 : k4) (H : Hp) (K : (List c5) → Hp → Prop) : Prop :=
 K a6j H
def U3 (cr_1l3 : k4) (a0D : (List c5)) (C5 : Int) (H : Hp) (n3 : ((List c5) × Int) → Hp → Prop) (K : (List c5) → Hp → Prop) : Prop :=
 (C5 < (cr_1l3.o5.n : Int) →
 (0 : Int) ≤ C5 ∧ (C5 : Int) < cr_1l3.o5.n ∧ ∃ d2g : k4, EltH H cr_1l3.o5 C5 4 (f7 d2g) ∧
 Y7 a0D d2g H (fun (K9 : (List c5)) (T3 : Hp) =>
 n3 (K9, (IntKind.wrap .i64 (C5 + 1))) T3)) ∧
 (¬ (C5 < (cr_1l3.o5.n : Int)) →
 U2 a0D cr_1l3 H K)
def U4 (W3 : (List c5)) (cr_1j1 : k4) (H : Hp) (K : (List c5) → Hp → Prop) : Prop :=
 TL ((W3, 0) : (List c5) × Int) H fun (s : (List c5) × Int) H n3 => U3 cr_1j1 s.1 s.2 H n3 K
def U5 (cr_1l4 : k4) (a6F : (List c5)) (T4 : Int) (H : Hp) (n4 : ((List c5) × Int) → Hp → Prop) (K : (List c5) → Hp → Prop) : Prop :=
 (T4 < (cr_1l4.f9.n : Int) →
 (0 : Int) ≤ T4 ∧ (T4 : Int) < cr_1l4.f9.n ∧ ∃ x_6 : h9, EltH H cr_1l4.f9 T4 4 (f4 x_6) ∧
 P8 a6F x_6 H (fun (b5t : (List c5)) (a3V : Hp) =>
 n4 (b5t, (IntKind.wrap .i64 (T4 + 1))) a3V)) ∧
 (¬ (T4 < (cr_1l4.f9.n : Int)) →
 U4 a6F cr_1l4 H K)
def Z5 (x0 : (List c5)) (x1 : k4) (H : Hp) (K : (List c5) → Hp → Prop) : Prop :=
 TL ((x0, 0) : (List c5) × Int) H fun (s : (List c5) × Int) H n4 => U5 x1 s.1 s.2 H n4 K
theorem a8H (x0 : (List c5)) (x1 : k4) (sx0 : Sl) (Fx0 : Frag) (hx0 : RowL 71 2 i8 sx0 x0 Fx0) {w0 w : World} {ps0 : Nat → Prop} {H0 H : Hp} {K : (List c5) → Hp → Prop} {R : Value → World → Prop} {E : Pan} (I : Inv w0 ps0 H0 H [Fx0] w) (hR : ∀ (r0 : (List c5)) (sr0 : Sl) (Fr0 : Frag) (H' : Hp) (w' : World) (_ : RowL 71 2 i8 sr0 r0 Fr0) (_ : Inv w0 ps0 H0 H' [Fr0] w') (_ : K r0 H'), R (vs sr0) w') (h : Z5 x0 x1 H K) : d2b (vs sx0) (Value.agg (f7 x1).toArray) w R E := by
 unfold Z5 at h
 unfold d2b
 refine G7 I (cs := (f7 x1)) rfl fun g_2 w_3 I_4 k_5 => ?_
 have hj1 : ∀ (W3 : (List c5)) (a5J : Sl) (Fs0j1 : Frag) (H : Hp) (w : World) (_ : RowL 71 2 i8 a5J W3 Fs0j1) (_ : Inv w0 ps0 H0 H [bx g_2 33 (f7 x1), Fs0j1] w) (_ : U4 W3 x1 H K), c2j (vs a5J) (Value.pointer (some ⟨g_2, 0, none⟩)) w R E := by
  intro W3 a5J Fs0j1 H w b5r I h
  unfold c2j
  intro _
  unfold U4 at h
  have hj2 : ∀ (a6j : (List c5)) (b0y : Sl) (Fs0j2 : Frag) (H : Hp) (w : World) (_ : RowL 71 2 i8 b0y a6j Fs0j2) (_ : Inv w0 ps0 H0 H [bx g_2 33 (f7 x1), Fs0j2] w) (_ : U2 a6j x1 H K), c2i (vs b0y) w R E := by
   intro a6j b0y Fs0j2 H w d2f I h
   unfold c2i
   intro _
   unfold U2 at h
   exact hR a6j b0y Fs0j2 H _ d2f I.drop h
  refine p9 fun j2 hx2 => ?_
  obtain ⟨d8l, c7j, g4D, g4E⟩ := h
  refine v6 (J := fun n l w => ∃ (s : (List c5) × Int) (H : Hp) (a8s : Sl) (Fs0l3 : Frag) , n = c7j s ∧ l = (match s with | (a0D, C5) => [(vs a8s), (vi C5)]) ∧ (match s with | (a0D, C5) => RowL 71 2 i8 a8s a0D Fs0l3) ∧ (match s with | (a0D, C5) => Inv w0 ps0 H0 H [bx g_2 33 (f7 x1), Fs0l3] w) ∧ d8l s H) ⟨_, (W3, 0), H, a5J, Fs0j1, rfl, rfl, b5r, ((I.bring 1).bring 1), g4D⟩ ?_
  rintro g8H τ_44 w next3 ⟨⟨a0D, C5⟩, H, a8s, Fs0l3, rfl, a9R, b5s, I, a9S⟩ hn3
  dsimp only at a9R I b5s
  simp only [List.map_cons, List.map_nil, List.cons.injEq, and_true] at a9R
  obtain ⟨e0, e6⟩ := a9R
  simp only [e0, e6]
  obtain ⟨n3, hm3, h⟩ : ∃ n3 : ((List c5) × Int) → Hp → Prop, (∀ s' H', n3 s' H' → d8l s' H' ∧ c7j s' < c7j (a0D, C5)) ∧ U3 x1 a0D C5 H n3 K := ⟨_, fun _ _ h => h, g4E (a0D, C5) H (fun s' H' => d8l s' H' ∧ c7j s' < c7j (a0D, C5)) a9S (fun _ _ a b => ⟨a, b⟩)⟩
  unfold c8t
  unfold U3 at h
  refine a7 M9 ?_
  refine c7 (ld1 Tryd.isAgg31 (I.at1 (o := 3) (vs := [(vs x1.o5)]) (nb rfl) rfl)) ?_
  refine a7 (O9 _ _ _) ?_
  refine a7 (r8 _ _ _ _ _ _) ?_
  refine g9 (fun b9k => ?_) (fun b9k => ?_)
  ·replace h := h.1 b9k
   refine a7 M9 ?_
   refine c7 (ld1 Tryd.isAgg31 (I.at1 (o := 3) (vs := [(vs x1.o5)]) (nb rfl) rfl)) ?_
   obtain ⟨b4z, b9m, d2g, d8m, h⟩ := h
   obtain ⟨g8I, g8J, g4F, d8m⟩ := d8m
   refine a7 (a4X g4F _ _ _ _ b4z b9m) ?_
   refine c7 (ldA (vs := (f7 d2g)) Tryd.isAgg33 Tryd.sizeOf33 rfl (I.atH d8m)) ?_
   refine f8 (cap := []) (fun args w => Tryd.call101 args w) ?_
   refine i6 (Fi := [Fs0l3]) (Fr := [bx g_2 33 (f7 x1)]) (I.bring 1) (h a8s Fs0l3 b5s) (fun b6O T3 f1y t7 a1p b3c b4w c5y => ?_) (fun _ _ _ _ _ q => q.elim)
   obtain ⟨K9, f7u, f7v, rfl, rfl, f7w, h⟩ := c5y
   refine a7 (q8 _ _ _ _ _ _) ?_
   exact hn3 _ _ _ (hm3 _ _ h).2 ⟨(K9, (IntKind.wrap .i64 (C5 + 1))), T3, f7u, f7v, rfl, rfl, f7w, (a1p.bring 1), (hm3 _ _ h).1⟩
  ·replace h := h.2 b9k
   exact hx2 _ _ (hj2 a0D a8s Fs0l3 H _ b5s ((I.bring 1).bring 1) h)
 refine p9 fun j1 hx1 => ?_
 obtain ⟨d8n, c7k, g4G, g4H⟩ := h
 refine v6 (J := fun n l w => ∃ (s : (List c5) × Int) (H : Hp) (c0M : Sl) (Fs0l4 : Frag) , n = c7k s ∧ l = (match s with | (a6F, T4) => [(vs c0M), (vi T4)]) ∧ (match s with | (a6F, T4) => RowL 71 2 i8 c0M a6F Fs0l4) ∧ (match s with | (a6F, T4) => Inv w0 ps0 H0 H [bx g_2 33 (f7 x1), Fs0l4] w) ∧ d8n s H) ⟨_, (x0, 0), H, sx0, Fx0, rfl, rfl, hx0, ((I_4.bring 1).bring 1), g4G⟩ ?_
 rintro g8K τ_53 w next4 ⟨⟨a6F, T4⟩, H, c0M, Fs0l4, rfl, c5k, d2h, I, g4I⟩ hn4
 dsimp only at c5k I d2h
 simp only [List.map_cons, List.map_nil, List.cons.injEq, and_true] at c5k
 obtain ⟨e0, e5⟩ := c5k
 simp only [e0, e5]
 obtain ⟨n4, hm4, h⟩ : ∃ n4 : ((List c5) × Int) → Hp → Prop, (∀ s' H', n4 s' H' → d8n s' H' ∧ c7k s' < c7k (a6F, T4)) ∧ U5 x1 a6F T4 H n4 K := ⟨_, fun _ _ h => h, g4H (a6F, T4) H (fun s' H' => d8n s' H' ∧ c7k s' < c7k (a6F, T4)) g4I (fun _ _ a b => ⟨a, b⟩)⟩
 unfold c8u
 unfold U5 at h
 refine a7 M8 ?_
 refine c7 (ld1 Tryd.isAgg28 (I.at1 (o := 2) (vs := [(vs x1.f9)]) (nb rfl) rfl)) ?_
 refine a7 (F5 _ _ _) ?_
 refine a7 (r8 _ _ _ _ _ _) ?_
 refine g9 (fun d8o => ?_) (fun d8o => ?_)
 ·replace h := h.1 d8o
  refine a7 M8 ?_
  refine c7 (ld1 Tryd.isAgg28 (I.at1 (o := 2) (vs := [(vs x1.f9)]) (nb rfl) rfl)) ?_
  obtain ⟨h_9, b1I, x_6, b9n, h⟩ := h
  obtain ⟨g_7, o_8, d8p, b9n⟩ := b9n
  refine a7 (a2O d8p _ _ _ _ h_9 b1I) ?_
  refine c7 (ldA (vs := (f4 x_6)) Tryd.isAgg30 Tryd.sizeOf30 rfl (I.atH b9n)) ?_
  refine f8 (cap := []) (fun args w => Tryd.call102 args w) ?_
  refine i6 (Fi := [Fs0l4]) (Fr := [bx g_2 33 (f7 x1)]) (I.bring 1) (h c0M Fs0l4 d2h) (fun g4J a3V f7x o3 b4B c6G c5d d8q => ?_) (fun _ _ _ _ _ q => q.elim)
  obtain ⟨b5t, c7l, c7m, rfl, rfl, c7n, h⟩ := d8q
  refine a7 (q8 _ _ _ _ _ _) ?_
  exact hn4 _ _ _ (hm4 _ _ h).2 ⟨(b5t, (IntKind.wrap .i64 (T4 + 1))), a3V, c7l, c7m, rfl, rfl, c7n, (b4B.bring 1), (hm4 _ _ h).1⟩
 ·replace h := h.2 d8o
  exact hx1 _ _ (hj1 a6F c0M Fs0l4 H _ d2h ((I.bring 1).bring 1) h)
theorem a9m (x0 : (List c5)) (x1 : k4) {H : Hp} {K : (List c5) → Hp → Prop} (h : Z5 x0 x1 H K) : Y7 x0 x1 H K := by
 intro sx0 Fx0 hx0 w I
 refine e3i ?_
 refine a8H x0 x1 sx0 Fx0 hx0 I (fun r0 sr0 Fr0 H' w' khr0 I' hk => ⟨H', _, I', r0, sr0, Fr0, rfl, rfl, khr0, hk⟩) h
def U6 (b7G : (List c5)) (_s1j3 : Sl) (g4K : Int) (H : Hp) (n2 : ((List c5) × Int) → Hp → Prop) (_K : (List c5) → Hp → Prop) : Prop :=
 n2 (b7G, (IntKind.wrap .i64 (g4K + 1))) H
def U7 (c0N : (List c5)) (g4L : Sl) (c2g : Int) (cr_8j6 : i4) (H : Hp) (n2 : ((List c5) × Int) → Hp → Prop) (K : (List c5) → Hp → Prop) : Prop :=
 P9 c0N cr_8j6.u0 H (fun (d9n : (List c5)) (f7y : Hp) =>
 P9 d9n cr_8j6.s7 f7y (fun (d2i : (List c5)) (d8r : Hp) =>
 U6 d2i g4L c2g d8r n2 K))
def U8 (g4M : Sl) (g4N : Int) (cr_8l7 : i4) (a6G : (List c5)) (a6v : Int) (H : Hp) (n2 : ((List c5) × Int) → Hp → Prop) (n7 : ((List c5) × Int) → Hp → Prop) (K : (List c5) → Hp → Prop) : Prop :=
 (a6v < (cr_8l7.f9.n : Int) →
 (0 : Int) ≤ a6v ∧ (a6v : Int) < cr_8l7.f9.n ∧ ∃ d2j : h9, EltH H cr_8l7.f9 a6v 4 (f4 d2j) ∧
 P8 a6G d2j H (fun (d2k : (List c5)) (d8s : Hp) =>
 n7 (d2k, (IntKind.wrap .i64 (a6v + 1))) d8s)) ∧
 (¬ (a6v < (cr_8l7.f9.n : Int)) →
 U7 a6G g4M g4N cr_8l7 H n2 K)
def U9 (b7H : (List c5)) (g4O : Sl) (g4P : Int) (cr_8j5 : i4) (H : Hp) (n2 : ((List c5) × Int) → Hp → Prop) (K : (List c5) → Hp → Prop) : Prop :=
 TL ((b7H, 0) : (List c5) × Int) H fun (s : (List c5) × Int) H n7 => U8 g4O g4P cr_8j5 s.1 s.2 H n2 n7 K
def V0 (g4Q : Sl) (g4R : Int) (cr_8l8 : i4) (a6H : (List c5)) (a6w : Int) (H : Hp) (n2 : ((List c5) × Int) → Hp → Prop) (n8 : ((List c5) × Int) → Hp → Prop) (K : (List c5) → Hp → Prop) : Prop :=
 (a6w < (cr_8l8.k3.n : Int) →
 (0 : Int) ≤ a6w ∧ (a6w : Int) < cr_8l8.k3.n ∧ ∃ d2l : k4, EltH H cr_8l8.k3 a6w 4 (f7 d2l) ∧
 Y7 a6H d2l H (fun (D6 : (List c5)) (Y3 : Hp) =>
 n8 (D6, (IntKind.wrap .i64 (a6w + 1))) Y3)) ∧
 (¬ (a6w < (cr_8l8.k3.n : Int)) →
 U9 a6H g4Q g4R cr_8l8 H n2 K)
def I6 (b7I : (List c5)) (g4S : Sl) (g4T : Int) (cr_8j4 : i4) (H : Hp) (n2 : ((List c5) × Int) → Hp → Prop) (K : (List c5) → Hp → Prop) : Prop :=
 TL ((b7I, 0) : (List c5) × Int) H fun (s : (List c5) × Int) H n8 => V0 g4S g4T cr_8j4 s.1 s.2 H n2 n8 K
def V1 (W3 : (List c5)) (H : Hp) (K : (List c5) → Hp → Prop) : Prop :=
 K W3 H
def V2 (a0M : Sl) (a0z : (List c5)) (A9 : Int) (H : Hp) (n2 : ((List c5) × Int) → Hp → Prop) (K : (List c5) → Hp → Prop) : Prop :=
 (A9 < (a0M.n : Int) →
 (0 : Int) ≤ A9 ∧ (A9 : Int) < a0M.n ∧ ∃ x_1 : i4, EltH H a0M A9 6 (d5 x_1) ∧
 (((decide (x_1.b9 = 1)) || (decide (x_1.b9 = 2))) = true →
 (a0z.length + ([(c5.mk x_1.g7 (decide (x_1.b9 = 2)))] : List c5).length) * 25 ≤ 140737488355328 ∧
 I6 (a0z ++ [(c5.mk x_1.g7 (decide (x_1.b9 = 2)))]) a0M A9 x_1 H n2 K) ∧
 (((decide (x_1.b9 = 1)) || (decide (x_1.b9 = 2))) = false →
 I6 a0z a0M A9 x_1 H n2 K)) ∧
 (¬ (A9 < (a0M.n : Int)) →
 V1 a0z H K)
def Z6 (x0 : (List c5)) (x1 : Sl) (H : Hp) (K : (List c5) → Hp → Prop) : Prop :=
 TL ((x0, 0) : (List c5) × Int) H fun (s : (List c5) × Int) H n2 => V2 x1 s.1 s.2 H n2 K
theorem a8I (x0 : (List c5)) (x1 : Sl) (sx0 : Sl) (Fx0 : Frag) (hx0 : RowL 71 2 i8 sx0 x0 Fx0) {w0 w : World} {ps0 : Nat → Prop} {H0 H : Hp} {K : (List c5) → Hp → Prop} {R : Value → World → Prop} {E : Pan} (I : Inv w0 ps0 H0 H [Fx0] w) (hR : ∀ (r0 : (List c5)) (sr0 : Sl) (Fr0 : Frag) (H' : Hp) (w' : World) (_ : RowL 71 2 i8 sr0 r0 Fr0) (_ : Inv w0 ps0 H0 H' [Fr0] w') (_ : K r0 H'), R (vs sr0) w') (h : Z6 x0 x1 H K) : F74 (vs sx0) (vs x1) w R E := by
 unfold Z6 at h
 unfold F74
 have hj1 : ∀ (W3 : (List c5)) (a5J : Sl) (Fs0j1 : Frag) (H : Hp) (w : World) (_ : RowL 71 2 i8 a5J W3 Fs0j1) (_ : Inv w0 ps0 H0 H [Fs0j1] w) (_ : V1 W3 H K), c7c (vs a5J) w R E := by
  intro W3 a5J Fs0j1 H w b5r I h
  unfold c7c
  intro _
  unfold V1 at h
  exact hR W3 a5J Fs0j1 H _ b5r I h
 refine p9 fun j1 hx1 => ?_
 obtain ⟨b4Y, a8i, d0u, d0v⟩ := h
 refine v6 (J := fun n l w => ∃ (s : (List c5) × Int) (H : Hp) (b7J : Sl) (Fs0l2 : Frag) , n = a8i s ∧ l = (match s with | (a0z, A9) => [(vs b7J), (vi A9)]) ∧ (match s with | (a0z, A9) => RowL 71 2 i8 b7J a0z Fs0l2) ∧ (match s with | (a0z, A9) => Inv w0 ps0 H0 H [Fs0l2] w) ∧ b4Y s H) ⟨_, (x0, 0), H, sx0, Fx0, rfl, rfl, hx0, I, d0u⟩ ?_
 rintro f9h τ_105 w next2 ⟨⟨a0z, A9⟩, H, b7J, Fs0l2, rfl, b4Z, c3h, I, d0w⟩ hn2
 dsimp only at b4Z I c3h
 simp only [List.map_cons, List.map_nil, List.cons.injEq, and_true] at b4Z
 obtain ⟨e0, e5⟩ := b4Z
 simp only [e0, e5]
 obtain ⟨n2, hm2, h⟩ : ∃ n2 : ((List c5) × Int) → Hp → Prop, (∀ s' H', n2 s' H' → b4Y s' H' ∧ a8i s' < a8i (a0z, A9)) ∧ V2 x1 a0z A9 H n2 K := ⟨_, fun _ _ h => h, d0v (a0z, A9) H (fun s' H' => b4Y s' H' ∧ a8i s' < a8i (a0z, A9)) d0w (fun _ _ a b => ⟨a, b⟩)⟩
 unfold d4w
 unfold V2 at h
 refine a7 (K2 _ _ _) ?_
 refine a7 (r8 _ _ _ _ _ _) ?_
 refine g9 (fun b9f => ?_) (fun b9f => ?_)
 ·replace h := h.1 b9f
  have hj3 : ∀ (b7G : (List c5)) (c3i : Sl) (Fs0j3 : Frag) (H : Hp) (w : World) (_ : RowL 71 2 i8 c3i b7G Fs0j3) (_ : Inv w0 ps0 H0 H [Fs0j3] w) (_ : U6 b7G x1 A9 H n2 K), c7d (vs c3i) (vs x1) (vi A9) w next2 R E := by
   intro b7G c3i Fs0j3 H w g1E I h
   unfold c7d
   intro _
   unfold U6 at h
   refine a7 (q8 _ _ _ _ _ _) ?_
   exact hn2 _ _ _ (hm2 _ _ h).2 ⟨(b7G, (IntKind.wrap .i64 (A9 + 1))), H, c3i, Fs0j3, rfl, rfl, g1E, I, (hm2 _ _ h).1⟩
  refine p9 fun j3 hx3 => ?_
  obtain ⟨h_4, h_5, x_1, h_7, h⟩ := h
  obtain ⟨g_2, o_3, h_6, h_7⟩ := h_7
  refine a7 (a4q h_6 _ _ _ _ h_4 h_5) ?_
  refine c7 (ldA (vs := (d5 x_1)) Tryd.isAgg88 Tryd.sizeOf88 rfl (I.atH h_7)) ?_
  refine L5 I Tryd.zeroValue88 (cs := [(vi 0), (Value.string ⟨#[]⟩), (Value.slice none 0 0), (Value.slice none 0 0), (Value.slice none 0 0), (Value.slice none 0 0)]) rfl fun g_9 m1 a0Y a8S => ?_
  refine u1 a0Y Tryd.sizeOf88 (vs := (d5 x_1)) (cs' := (d5 x_1)) rfl rfl (nb rfl) rfl rfl fun V5 T2 b2T => ?_
  have hj4 : ∀ (b7I : (List c5)) (c3j : Sl) (Fs0j4 : Frag) (H : Hp) (w : World) (_ : RowL 71 2 i8 c3j b7I Fs0j4) (_ : Inv w0 ps0 H0 H [bx g_9 88 (d5 x_1), Fs0j4] w) (_ : I6 b7I x1 A9 x_1 H n2 K), c7g (vs c3j) (vs x1) (vi A9) (Value.pointer (some ⟨g_9, 0, none⟩)) w j3 R E := by
   intro b7I c3j Fs0j4 H w g1F I h
   unfold c7g
   intro _
   unfold I6 at h
   have hj5 : ∀ (b7H : (List c5)) (c3k : Sl) (Fs0j5 : Frag) (H : Hp) (w : World) (_ : RowL 71 2 i8 c3k b7H Fs0j5) (_ : Inv w0 ps0 H0 H [bx g_9 88 (d5 x_1), Fs0j5] w) (_ : U9 b7H x1 A9 x_1 H n2 K), c7f (vs c3k) (vs x1) (vi A9) (Value.pointer (some ⟨g_9, 0, none⟩)) w j3 R E := by
    intro b7H c3k Fs0j5 H w g1G I h
    unfold c7f
    intro _
    unfold U9 at h
    have hj6 : ∀ (c0N : (List c5)) (c3l : Sl) (Fs0j6 : Frag) (H : Hp) (w : World) (_ : RowL 71 2 i8 c3l c0N Fs0j6) (_ : Inv w0 ps0 H0 H [bx g_9 88 (d5 x_1), Fs0j6] w) (_ : U7 c0N x1 A9 x_1 H n2 K), c7e (vs c3l) (vs x1) (vi A9) (Value.pointer (some ⟨g_9, 0, none⟩)) w j3 R E := by
     intro c0N c3l Fs0j6 H w g1H I h
     unfold c7e
     intro _
     unfold U7 at h
     refine a7 P4 ?_
     refine c7 (ld1 Tryd.isAgg23 (I.at1 (o := 4) (vs := [(vs x_1.u0)]) (nb rfl) rfl)) ?_
     refine f8 (cap := []) (fun args w => Tryd.call74 args w) ?_
     refine i6 (Fi := [Fs0j6]) (Fr := [bx g_9 88 (d5 x_1)]) (I.bring 1) (h c3l Fs0j6 g1H) (fun g8L f7y g8M e5N f7z g8N g8O g4U => ?_) (fun _ _ _ _ _ q => q.elim)
     obtain ⟨d9n, f7A, d4x, rfl, rfl, f7B, h⟩ := g4U
     refine a7 K5 ?_
     refine c7 (ld1 Tryd.isAgg23 ((f7z.bring 1).at1 (o := 5) (vs := [(vs x_1.s7)]) (nb rfl) rfl)) ?_
     refine f8 (cap := []) (fun args w => Tryd.call74 args w) ?_
     refine i6 (Fi := [d4x]) (Fr := [bx g_9 88 (d5 x_1)]) f7z (h f7A d4x f7B) (fun g8P d8r g8Q a0G g4V g8R g8S g4W => ?_) (fun _ _ _ _ _ q => q.elim)
     obtain ⟨d2i, f7C, f7D, rfl, rfl, f7E, h⟩ := g4W
     exact hx3 _ _ (hj3 d2i f7C f7D d8r _ f7E (g4V.bring 1).drop h)
    refine p9 fun j6 hx6 => ?_
    obtain ⟨d8t, c7o, g4X, b6M⟩ := h
    refine v6 (J := fun n l w => ∃ (s : (List c5) × Int) (H : Hp) (c0O : Sl) (Fs0l7 : Frag) , n = c7o s ∧ l = (match s with | (a6G, a6v) => [(vs c0O), (vi a6v)]) ∧ (match s with | (a6G, a6v) => RowL 71 2 i8 c0O a6G Fs0l7) ∧ (match s with | (a6G, a6v) => Inv w0 ps0 H0 H [bx g_9 88 (d5 x_1), Fs0l7] w) ∧ d8t s H) ⟨_, (b7H, 0), H, c3k, Fs0j5, rfl, rfl, g1G, ((I.bring 1).bring 1), g4X⟩ ?_
    rintro g8T τ_86 w next7 ⟨⟨a6G, a6v⟩, H, c0O, Fs0l7, rfl, d1O, d2m, I, g4Y⟩ hn7
    dsimp only at d1O I d2m
    simp only [List.map_cons, List.map_nil, List.cons.injEq, and_true] at d1O
    obtain ⟨e0, e8⟩ := d1O
    simp only [e0, e8]
    obtain ⟨n7, hm7, h⟩ : ∃ n7 : ((List c5) × Int) → Hp → Prop, (∀ s' H', n7 s' H' → d8t s' H' ∧ c7o s' < c7o (a6G, a6v)) ∧ U8 x1 A9 x_1 a6G a6v H n2 n7 K := ⟨_, fun _ _ h => h, b6M (a6G, a6v) H (fun s' H' => d8t s' H' ∧ c7o s' < c7o (a6G, a6v)) g4Y (fun _ _ a b => ⟨a, b⟩)⟩
    unfold d4u
    unfold U8 at h
    refine a7 N0 ?_
    refine c7 (ld1 Tryd.isAgg28 (I.at1 (o := 2) (vs := [(vs x_1.f9)]) (nb rfl) rfl)) ?_
    refine a7 (F5 _ _ _) ?_
    refine a7 (r8 _ _ _ _ _ _) ?_
    refine g9 (fun b1T => ?_) (fun b1T => ?_)
    ·replace h := h.1 b1T
     refine a7 N0 ?_
     refine c7 (ld1 Tryd.isAgg28 (I.at1 (o := 2) (vs := [(vs x_1.f9)]) (nb rfl) rfl)) ?_
     obtain ⟨b8y, d8u, d2j, c5w, h⟩ := h
     obtain ⟨g8U, g8V, c5v, c5w⟩ := c5w
     refine a7 (a2O c5v _ _ _ _ b8y d8u) ?_
     refine c7 (ldA (vs := (f4 d2j)) Tryd.isAgg30 Tryd.sizeOf30 rfl (I.atH c5w)) ?_
     refine f8 (cap := []) (fun args w => Tryd.call102 args w) ?_
     refine i6 (Fi := [Fs0l7]) (Fr := [bx g_9 88 (d5 x_1)]) (I.bring 1) (h c0O Fs0l7 d2m) (fun g8W d8s g8X P6 g4Z g8Y g8Z g5a => ?_) (fun _ _ _ _ _ q => q.elim)
     obtain ⟨d2k, f7F, f7G, rfl, rfl, f7H, h⟩ := g5a
     refine a7 (q8 _ _ _ _ _ _) ?_
     exact hn7 _ _ _ (hm7 _ _ h).2 ⟨(d2k, (IntKind.wrap .i64 (a6v + 1))), d8s, f7F, f7G, rfl, rfl, f7H, (g4Z.bring 1), (hm7 _ _ h).1⟩
    ·replace h := h.2 b1T
     exact hx6 _ _ (hj6 a6G c0O Fs0l7 H _ d2m ((I.bring 1).bring 1) h)
   refine p9 fun j5 hx5 => ?_
   obtain ⟨d8v, c7p, g5b, g5c⟩ := h
   refine v6 (J := fun n l w => ∃ (s : (List c5) × Int) (H : Hp) (c0P : Sl) (Fs0l8 : Frag) , n = c7p s ∧ l = (match s with | (a6H, a6w) => [(vs c0P), (vi a6w)]) ∧ (match s with | (a6H, a6w) => RowL 71 2 i8 c0P a6H Fs0l8) ∧ (match s with | (a6H, a6w) => Inv w0 ps0 H0 H [bx g_9 88 (d5 x_1), Fs0l8] w) ∧ d8v s H) ⟨_, (b7I, 0), H, c3j, Fs0j4, rfl, rfl, g1F, ((I.bring 1).bring 1), g5b⟩ ?_
   rintro g9a τ_95 w next8 ⟨⟨a6H, a6w⟩, H, c0P, Fs0l8, rfl, d8w, d2n, I, g5d⟩ hn8
   dsimp only at d8w I d2n
   simp only [List.map_cons, List.map_nil, List.cons.injEq, and_true] at d8w
   obtain ⟨e0, e7⟩ := d8w
   simp only [e0, e7]
   obtain ⟨n8, hm8, h⟩ : ∃ n8 : ((List c5) × Int) → Hp → Prop, (∀ s' H', n8 s' H' → d8v s' H' ∧ c7p s' < c7p (a6H, a6w)) ∧ V0 x1 A9 x_1 a6H a6w H n2 n8 K := ⟨_, fun _ _ h => h, g5c (a6H, a6w) H (fun s' H' => d8v s' H' ∧ c7p s' < c7p (a6H, a6w)) g5d (fun _ _ a b => ⟨a, b⟩)⟩
   unfold d4v
   unfold V0 at h
   refine a7 N1 ?_
   refine c7 (ld1 Tryd.isAgg31 (I.at1 (o := 3) (vs := [(vs x_1.k3)]) (nb rfl) rfl)) ?_
   refine a7 (O9 _ _ _) ?_
   refine a7 (r8 _ _ _ _ _ _) ?_
   refine g9 (fun b1S => ?_) (fun b1S => ?_)
   ·replace h := h.1 b1S
    refine a7 N1 ?_
    refine c7 (ld1 Tryd.isAgg31 (I.at1 (o := 3) (vs := [(vs x_1.k3)]) (nb rfl) rfl)) ?_
    obtain ⟨g5e, c5b, d2l, b1F, h⟩ := h
    obtain ⟨g9b, g9c, a8U, b1F⟩ := b1F
    refine a7 (a4X a8U _ _ _ _ g5e c5b) ?_
    refine c7 (ldA (vs := (f7 d2l)) Tryd.isAgg33 Tryd.sizeOf33 rfl (I.atH b1F)) ?_
    refine f8 (cap := []) (fun args w => Tryd.call101 args w) ?_
    refine i6 (Fi := [Fs0l8]) (Fr := [bx g_9 88 (d5 x_1)]) (I.bring 1) (h c0P Fs0l8 d2n) (fun b6D Y3 f0W v2 b1v c1x c1y c4R => ?_) (fun _ _ _ _ _ q => q.elim)
    obtain ⟨D6, f7I, f7J, rfl, rfl, f7K, h⟩ := c4R
    refine a7 (q8 _ _ _ _ _ _) ?_
    exact hn8 _ _ _ (hm8 _ _ h).2 ⟨(D6, (IntKind.wrap .i64 (a6w + 1))), Y3, f7I, f7J, rfl, rfl, f7K, (b1v.bring 1), (hm8 _ _ h).1⟩
   ·replace h := h.2 b1S
    exact hx5 _ _ (hj5 a6H c0P Fs0l8 H _ d2n ((I.bring 1).bring 1) h)
  refine p9 fun j4 hx4 => ?_
  refine a7 y9 ?_
  refine c7 (ld1 Tryd.isAgg3 (T2.at1 (o := 0) (vs := [(vi x_1.b9)]) (nb rfl) rfl)) ?_
  refine a7 (d6 _ _ _ _ _ _) ?_
  refine a7 (Pu.g fun hb => by have a6 := hb; first | exact y9 | (simp only [b7 a6, a8 a6, a8 hb, a4b a6]; exact y9) | (simp only [b7 a6, a8 a6, a8 hb, v1 a6, d9]; exact y9)) ?_
  refine c7 (Ld.g fun hb => by have a6 := hb; first | exact (ld1 Tryd.isAgg3 (T2.at1 (o := 0) (vs := [(vi x_1.b9)]) (nb rfl) rfl)) | (simp only [a8 a6]; exact (ld1 Tryd.isAgg3 (T2.at1 (o := 0) (vs := [(vi x_1.b9)]) (nb rfl) rfl))) | (simp only [b7 a6, a8 a6, a8 hb, v1 a6, d9]; exact (ld1 Tryd.isAgg3 (T2.at1 (o := 0) (vs := [(vi x_1.b9)]) (nb rfl) rfl)))) ?_
  refine a7 (Pu.g fun hb => by have a6 := hb; first | exact (d6 _ _ _ _ _ _) | (simp only [a8 a6]; exact (d6 _ _ _ _ _ _)) | (simp only [b7 a6, a8 a6, a8 hb, v1 a6, d9]; exact (d6 _ _ _ _ _ _))) ?_
  refine a7 (E1 _ _) ?_
  refine k9 (fun d8x => ?_) (fun d8x => ?_)
  ·replace h := h.1 d8x
   refine a7 a0u ?_
   refine c7 (ld1 Tryd.isAgg9 (T2.at1 (o := 1) (vs := [(Value.string x_1.g7)]) (nb rfl) rfl)) ?_
   refine a7 y9 ?_
   refine c7 (ld1 Tryd.isAgg3 (T2.at1 (o := 0) (vs := [(vi x_1.b9)]) (nb rfl) rfl)) ?_
   refine a7 (d6 _ _ _ _ _ _) ?_
   refine a7 (b5w _ _) ?_
   refine a6l (e := 71) (c := i8) (xs := [(c5.mk x_1.g7 (decide (x_1.b9 = 2)))]) T2 (c7P _ _) rfl rfl a5w a5x (nb rfl) fun f1z f7x a5L b4n a3i b2U => ?_
   obtain ⟨b1D, h⟩ := h
   refine d2M (s := b7J) (xs := a0z) (a3i.bring 2) c3h (b4n.srcO ((a3i.bring 2).bring 1)) b1D fun g5f c4Q a6m b9m d0j g2W => ?_
   exact hx4 _ _ (hj4 (a0z ++ [(c5.mk x_1.g7 (decide (x_1.b9 = 2)))]) g5f c4Q H _ b9m ((d0j.bring 1).drop.bring 1) h)
  ·replace h := h.2 d8x
   exact hx4 _ _ (hj4 a0z b7J Fs0l2 H _ c3h ((T2.bring 1).bring 1) h)
 ·replace h := h.2 b9f
  exact hx1 _ _ (hj1 a0z b7J Fs0l2 H _ c3h I h)
theorem a9n (x0 : (List c5)) (x1 : Sl) {H : Hp} {K : (List c5) → Hp → Prop} (h : Z6 x0 x1 H K) : P9 x0 x1 H K := by
 intro sx0 Fx0 hx0 w I
 refine f6Q ?_
 refine a8I x0 x1 sx0 Fx0 hx0 I (fun r0 sr0 Fr0 H' w' khr0 I' hk => ⟨H', _, I', r0, sr0, Fr0, rfl, rfl, khr0, hk⟩) h
def a1z (x0 : g5) (H : Hp) (K : Sl → Hp → Prop) : Prop :=
 P9 [] x0.P1 H (fun (d9o : (List c5)) (H_7 : Hp) =>
 ∀ (b2o : Sl) (a1W : Hp), Hle H_7 a1W → SlH a1W 2 i8 b2o d9o → b2o.n ≤ b2o.c →
 K b2o a1W)
theorem b0z (x0 : g5) {w0 w : World} {ps0 : Nat → Prop} {H0 H : Hp} {K : Sl → Hp → Prop} {R : Value → World → Prop} {E : Pan} (I : Inv w0 ps0 H0 H [] w) (hR : ∀ (r0 : Sl) (H' : Hp) (w' : World) (_ : Inv w0 ps0 H0 H' [] w') (_ : K r0 H'), R (vs r0) w') (h : a1z x0 H K) : F37 (Value.agg (d7 x0).toArray) w R E := by
 unfold a1z at h
 unfold F37
 refine G7 I (cs := (d7 x0)) rfl fun g_2 w_3 I_4 k_5 => ?_
 refine a7 a0s ?_
 refine c7 (ld1 Tryd.isAgg23 (I_4.at1 (o := 1) (vs := [(vs x0.P1)]) (nb rfl) rfl)) ?_
 refine f8 (cap := []) (fun args w => Tryd.call74 args w) ?_
 refine i6 (Fi := [[]]) (Fr := [bx g_2 25 (d7 x0)]) I_4.nil (h (Sl.mk none 0 0) ([]) (RowL.nil (e := 71) a5w a5x)) (fun g9d H_7 g9e w_8 I_9 g9f b6z g5g => ?_) (fun _ _ _ _ _ q => q.elim)
 obtain ⟨d9o, b2o, g5w, rfl, rfl, f7L, h⟩ := g5g
 obtain ⟨a1W, a5i, b1q, b1u, b4n⟩ := Inv.freezeC I_9 f7L (by decide)
 replace h := h b2o a1W b1q b1u b4n
 exact hR b2o a1W _ a5i.drop h
theorem b2p (x0 : g5) {H : Hp} {K : Sl → Hp → Prop} (h : a1z x0 H K) : a3z x0 H K := by
 intro w I
 refine f6i ?_
 refine b0z x0 I (fun r0 H' w' I' hk => ⟨H', _, I', r0, rfl, rfl, hk⟩) h
def Z7 (c0Q : (List ByteArray)) (_cr_1j2 : g5) (H : Hp) (K : Sl → Hp → Prop) : Prop :=
 ∀ (a9z : Sl) (a8c : Hp), Hle H a8c → SlH a8c 1 s8 a9z c0Q → a9z.n ≤ a9z.c →
 K a9z a8c
def Z8 (V8 : Sl) (cr_1l3 : g5) (a6I : (List ByteArray)) (C5 : Int) (H : Hp) (n3 : ((List ByteArray) × Int) → Hp → Prop) (K : Sl → Hp → Prop) : Prop :=
 (C5 < (V8.n : Int) →
 (0 : Int) ≤ C5 ∧ (C5 : Int) < V8.n ∧ ∃ d2o : c5, EltH H V8 C5 2 (i8 d2o) ∧
 a1F a6I d2o.g7 H (fun (K8 : (List ByteArray)) (Q3 : Hp) =>
 n3 (K8, (IntKind.wrap .i64 (C5 + 1))) Q3)) ∧
 (¬ (C5 < (V8.n : Int)) →
 Z7 a6I cr_1l3 H K)
def Z9 (b7K : (List ByteArray)) (cr_1j1 : g5) (H : Hp) (K : Sl → Hp → Prop) : Prop :=
 a3z cr_1j1 H (fun (a3k : Sl) (a6Y : Hp) =>
 TL ((b7K, 0) : (List ByteArray) × Int) a6Y fun (s : (List ByteArray) × Int) H n3 => Z8 a3k cr_1j1 s.1 s.2 H n3 K)
def a0b (cr_1l4 : g5) (a6J : (List ByteArray)) (a1s : Int) (H : Hp) (n4 : ((List ByteArray) × Int) → Hp → Prop) (K : Sl → Hp → Prop) : Prop :=
 (a1s < (cr_1l4.D8.n : Int) →
 (0 : Int) ≤ a1s ∧ (a1s : Int) < cr_1l4.D8.n ∧ ∃ x_6 : B8, EltH H cr_1l4.D8 a1s 2 (p7 x_6) ∧
 a1F a6J x_6.g7 H (fun (b5t : (List ByteArray)) (a3V : Hp) =>
 n4 (b5t, (IntKind.wrap .i64 (a1s + 1))) a3V)) ∧
 (¬ (a1s < (cr_1l4.D8.n : Int)) →
 Z9 a6J cr_1l4 H K)
def a0W (x0 : g5) (H : Hp) (K : Sl → Hp → Prop) : Prop :=
 TL (([], 0) : (List ByteArray) × Int) H fun (s : (List ByteArray) × Int) H n4 => a0b x0 s.1 s.2 H n4 K
theorem b0b (x0 : g5) {w0 w : World} {ps0 : Nat → Prop} {H0 H : Hp} {K : Sl → Hp → Prop} {R : Value → World → Prop} {E : Pan} (I : Inv w0 ps0 H0 H [] w) (hR : ∀ (r0 : Sl) (H' : Hp) (w' : World) (_ : Inv w0 ps0 H0 H' [] w') (_ : K r0 H'), R (vs r0) w') (h : a0W x0 H K) : F30 (Value.agg (d7 x0).toArray) w R E := by
 unfold a0W at h
 unfold F30
 refine G7 I (cs := (d7 x0)) rfl fun g_2 w_3 I_4 k_5 => ?_
 have hj1 : ∀ (b7K : (List ByteArray)) (c3m : Sl) (Fs3j1 : Frag) (H : Hp) (w : World) (_ : RowL 9 1 s8 c3m b7K Fs3j1) (_ : Inv w0 ps0 H0 H [bx g_2 25 (d7 x0), Fs3j1] w) (_ : Z9 b7K x0 H K), c6Z (Value.pointer (some ⟨g_2, 0, none⟩)) (vs c3m) w R E := by
  intro b7K c3m Fs3j1 H w g1I I h
  unfold c6Z
  intro _
  unfold Z9 at h
  refine c7 (ldA Tryd.isAgg25 Tryd.sizeOf25 rfl (I.at1 (o := 0) (vs := (d7 x0)) (nb rfl) rfl)) ?_
  refine f8 (cap := []) (fun args w => Tryd.call37 args w) ?_
  refine i6 (Fi := []) (Fr := [bx g_2 25 (d7 x0), Fs3j1]) I (h) (fun g2t a6Y b8u a7A b2Y g2u g2v d5z => ?_) (fun _ _ _ _ _ q => q.elim)
  obtain ⟨a3k, rfl, rfl, h⟩ := d5z
  have hj2 : ∀ (c0Q : (List ByteArray)) (a9z : Sl) (Fs3j2 : Frag) (H : Hp) (w : World) (_ : RowL 9 1 s8 a9z c0Q Fs3j2) (_ : Inv w0 ps0 H0 H [bx g_2 25 (d7 x0), Fs3j2] w) (_ : Z7 c0Q x0 H K), c6X (vs a9z) w R E := by
   intro c0Q a9z Fs3j2 H w g1J I h
   unfold c6X
   intro _
   unfold Z7 at h
   obtain ⟨a8c, b1w, f7M, d8u, c5v⟩ := Inv.freezeC (I.bring 1) g1J (by decide)
   replace h := h a9z a8c f7M d8u c5v
   exact hR a9z a8c _ b1w.drop h
  refine p9 fun j2 hx2 => ?_
  obtain ⟨d8y, c7q, g5h, g5i⟩ := h
  refine v6 (J := fun n l w => ∃ (s : (List ByteArray) × Int) (H : Hp) (c0R : Sl) (Fs3l3 : Frag) , n = c7q s ∧ l = (match s with | (a6I, C5) => [(vs c0R), (vi C5)]) ∧ (match s with | (a6I, C5) => RowL 9 1 s8 c0R a6I Fs3l3) ∧ (match s with | (a6I, C5) => Inv w0 ps0 H0 H [bx g_2 25 (d7 x0), Fs3l3] w) ∧ d8y s H) ⟨_, (b7K, 0), a6Y, c3m, Fs3j1, rfl, rfl, g1I, ((b2Y.bring 1).bring 1), g5h⟩ ?_
  rintro g9g τ_58 w next3 ⟨⟨a6I, C5⟩, H, c0R, Fs3l3, rfl, d0k, d2p, I, g5j⟩ hn3
  dsimp only at d0k I d2p
  simp only [List.map_cons, List.map_nil, List.cons.injEq, and_true] at d0k
  obtain ⟨e3, e6⟩ := d0k
  simp only [e3, e6]
  obtain ⟨n3, hm3, h⟩ : ∃ n3 : ((List ByteArray) × Int) → Hp → Prop, (∀ s' H', n3 s' H' → d8y s' H' ∧ c7q s' < c7q (a6I, C5)) ∧ Z8 a3k x0 a6I C5 H n3 K := ⟨_, fun _ _ h => h, g5i (a6I, C5) H (fun s' H' => d8y s' H' ∧ c7q s' < c7q (a6I, C5)) g5j (fun _ _ a b => ⟨a, b⟩)⟩
  unfold d4r
  unfold Z8 at h
  refine a7 (d2I _ _ _) ?_
  refine a7 (r8 _ _ _ _ _ _) ?_
  refine g9 (fun d8z => ?_) (fun d8z => ?_)
  ·replace h := h.1 d8z
   obtain ⟨c5b, a8U, d2o, b4x, h⟩ := h
   obtain ⟨g9h, g9i, b1F, b4x⟩ := b4x
   refine a7 (d4J b1F _ _ _ _ c5b a8U) ?_
   refine a7 c8M ?_
   refine c7 (ld1 (v := (Value.string d2o.g7)) Tryd.isAgg9 ((I.atH b4x).sub (k := 0) (n := 1) (nb rfl))) ?_
   refine f8 (cap := []) (fun args w => Tryd.call67 args w) ?_
   refine i6 (Fi := [Fs3l3]) (Fr := [bx g_2 25 (d7 x0)]) (I.bring 1) (h c0R Fs3l3 d2p) (fun b2W Q3 c9F a7J a4t a9R b6G b4y => ?_) (fun _ _ _ _ _ q => q.elim)
   obtain ⟨K8, f7N, f7O, rfl, rfl, f7P, h⟩ := b4y
   refine a7 (q8 _ _ _ _ _ _) ?_
   exact hn3 _ _ _ (hm3 _ _ h).2 ⟨(K8, (IntKind.wrap .i64 (C5 + 1))), Q3, f7N, f7O, rfl, rfl, f7P, (a4t.bring 1), (hm3 _ _ h).1⟩
  ·replace h := h.2 d8z
   exact hx2 _ _ (hj2 a6I c0R Fs3l3 H _ d2p ((I.bring 1).bring 1) h)
 refine p9 fun j1 hx1 => ?_
 obtain ⟨d8A, c7r, g5k, g5l⟩ := h
 refine v6 (J := fun n l w => ∃ (s : (List ByteArray) × Int) (H : Hp) (c0S : Sl) (Fs3l4 : Frag) , n = c7r s ∧ l = (match s with | (a6J, a1s) => [(vs c0S), (vi a1s)]) ∧ (match s with | (a6J, a1s) => RowL 9 1 s8 c0S a6J Fs3l4) ∧ (match s with | (a6J, a1s) => Inv w0 ps0 H0 H [bx g_2 25 (d7 x0), Fs3l4] w) ∧ d8A s H) ⟨_, ([], 0), H, (Sl.mk none 0 0), [], rfl, rfl, (RowL.nil a9p a9q), (I_4.nil.bring 1), g5k⟩ ?_
 rintro g9j τ_67 w next4 ⟨⟨a6J, a1s⟩, H, c0S, Fs3l4, rfl, d8B, d2q, I, g5m⟩ hn4
 dsimp only at d8B I d2q
 simp only [List.map_cons, List.map_nil, List.cons.injEq, and_true] at d8B
 obtain ⟨e3, e4⟩ := d8B
 simp only [e3, e4]
 obtain ⟨n4, hm4, h⟩ : ∃ n4 : ((List ByteArray) × Int) → Hp → Prop, (∀ s' H', n4 s' H' → d8A s' H' ∧ c7r s' < c7r (a6J, a1s)) ∧ a0b x0 a6J a1s H n4 K := ⟨_, fun _ _ h => h, g5l (a6J, a1s) H (fun s' H' => d8A s' H' ∧ c7r s' < c7r (a6J, a1s)) g5m (fun _ _ a b => ⟨a, b⟩)⟩
 unfold d4s
 unfold a0b at h
 refine a7 L0 ?_
 refine c7 (ld1 Tryd.isAgg22 (I.at1 (o := 0) (vs := [(vs x0.D8)]) (nb rfl) rfl)) ?_
 refine a7 (a5K _ _ _) ?_
 refine a7 (r8 _ _ _ _ _ _) ?_
 refine g9 (fun b8O => ?_) (fun b8O => ?_)
 ·replace h := h.1 b8O
  refine a7 L0 ?_
  refine c7 (ld1 Tryd.isAgg22 (I.at1 (o := 0) (vs := [(vs x0.D8)]) (nb rfl) rfl)) ?_
  obtain ⟨h_9, b1I, x_6, b9n, h⟩ := h
  obtain ⟨g_7, o_8, d8p, b9n⟩ := b9n
  refine a7 (a3u d8p _ _ _ _ h_9 b1I) ?_
  refine a7 b3S ?_
  refine c7 (ld1 (v := (Value.string x_6.g7)) Tryd.isAgg9 ((I.atH b9n).sub (k := 0) (n := 1) (nb rfl))) ?_
  refine f8 (cap := []) (fun args w => Tryd.call67 args w) ?_
  refine i6 (Fi := [Fs3l4]) (Fr := [bx g_2 25 (d7 x0)]) (I.bring 1) (h c0S Fs3l4 d2q) (fun g4J a3V f7x o3 b4B c6G c5d d8q => ?_) (fun _ _ _ _ _ q => q.elim)
  obtain ⟨b5t, c7l, c7m, rfl, rfl, c7n, h⟩ := d8q
  refine a7 (q8 _ _ _ _ _ _) ?_
  exact hn4 _ _ _ (hm4 _ _ h).2 ⟨(b5t, (IntKind.wrap .i64 (a1s + 1))), a3V, c7l, c7m, rfl, rfl, c7n, (b4B.bring 1), (hm4 _ _ h).1⟩
 ·replace h := h.2 b8O
  exact hx1 _ _ (hj1 a6J c0S Fs3l4 H _ d2q ((I.bring 1).bring 1) h)
theorem b0A (x0 : g5) {H : Hp} {K : Sl → Hp → Prop} (h : a0W x0 H K) : a3f x0 H K := by
 intro w I
 refine f6g ?_
 refine b0b x0 I (fun r0 H' w' I' hk => ⟨H', _, I', r0, rfl, rfl, hk⟩) h
def a0d (H : Hp) (K : Bool → Hp → Prop) : Prop :=
 K true H
def a0e (a8b : Sl) (a0M : Sl) (A9 : Int) (H : Hp) (n2 : Int → Hp → Prop) (K : Bool → Hp → Prop) : Prop :=
 (A9 < (a8b.n : Int) →
 (0 : Int) ≤ A9 ∧ (A9 : Int) < a8b.n ∧ ∃ x_3 : ByteArray, EltH H a8b A9 1 [(Value.string x_3)] ∧
 (0 : Int) ≤ A9 ∧ (A9 : Int) < a0M.n ∧ ∃ a8X : ByteArray, EltH H a0M A9 1 [(Value.string a8X)] ∧
 (¬ (x_3 = a8X) →
 K false H) ∧
 (x_3 = a8X →
 n2 (IntKind.wrap .i64 (A9 + 1)) H)) ∧
 (¬ (A9 < (a8b.n : Int)) →
 a0d H K)
def a0X (x0 : Sl) (x1 : Sl) (H : Hp) (K : Bool → Hp → Prop) : Prop :=
 (¬ ((x0.n : Int) = (x1.n : Int)) →
 K false H) ∧
 ((x0.n : Int) = (x1.n : Int) →
 TL (0 : Int) H fun (s : Int) H n2 => a0e x0 x1 s H n2 K)
theorem b0c (x0 : Sl) (x1 : Sl) {w0 w : World} {ps0 : Nat → Prop} {H0 H : Hp} {K : Bool → Hp → Prop} {R : Value → World → Prop} {E : Pan} (I : Inv w0 ps0 H0 H [] w) (hR : ∀ (r0 : Bool) (H' : Hp) (w' : World) (_ : Inv w0 ps0 H0 H' [] w') (_ : K r0 H'), R (Value.bool r0) w') (h : a0X x0 x1 H K) : F29 (vs x0) (vs x1) w R E := by
 unfold a0X at h
 unfold F29
 refine a7 (a7p _ _ _) ?_
 refine a7 (a7p _ _ _) ?_
 refine a7 (u7 _ _ _ _ _ _) ?_
 refine a2H (fun b8D => ?_) (fun b8D => ?_)
 ·replace h := h.1 b8D
  exact hR false H _ I h
 ·replace h := h.2 b8D
  have hj1 : ∀ (H : Hp) (w : World) (_ : Inv w0 ps0 H0 H [] w) (_ : a0d H K), c6W w R E := by
   intro H w I h
   unfold c6W
   intro _
   unfold a0d at h
   exact hR true H _ I h
  refine p9 fun j1 hx1 => ?_
  obtain ⟨b8E, b1M, d5D, d5E⟩ := h
  refine v6 (J := fun n l w => ∃ (s : Int) (H : Hp) , n = b1M s ∧ l = [(vi s)] ∧ Inv w0 ps0 H0 H [] w ∧ b8E s H) ⟨_, 0, H, rfl, rfl, I, d5D⟩ ?_
  rintro g2F τ_24 w next2 ⟨A9, H, rfl, b6H, I, b4t⟩ hn2
  simp only [List.map_cons, List.map_nil, List.cons.injEq, and_true] at b6H
  have e5 := b6H
  simp only [e5]
  obtain ⟨n2, hm2, h⟩ : ∃ n2 : Int → Hp → Prop, (∀ s' H', n2 s' H' → b8E s' H' ∧ b1M s' < b1M A9) ∧ a0e x0 x1 A9 H n2 K := ⟨_, fun _ _ h => h, d5E A9 H (fun s' H' => b8E s' H' ∧ b1M s' < b1M A9) b4t (fun _ _ a b => ⟨a, b⟩)⟩
  unfold d4o
  unfold a0e at h
  refine a7 (a7p _ _ _) ?_
  refine a7 (r8 _ _ _ _ _ _) ?_
  refine g9 (fun a0K => ?_) (fun a0K => ?_)
  ·replace h := h.1 a0K
   refine a9L I fun w_1 I_2 => ?_
   obtain ⟨h_6, h_7, x_3, h_9, h⟩ := h
   obtain ⟨g_4, o_5, h_8, h_9⟩ := h_9
   refine D5 (b3V h_8 _ _ _ _ h_6 h_7) ?_
   obtain ⟨c5f, d5F, a8X, b1L, h⟩ := h
   obtain ⟨g2G, g2H, d5G, b1L⟩ := b1L
   refine D5 (b3V d5G _ _ _ _ c5f d5F) ?_
   refine a1b (ld1 (v := (Value.string x_3)) Tryd.isAgg9 (I_2.atH h_9)) ?_
   refine a1b (ld1 (v := (Value.string a8X)) Tryd.isAgg9 (I_2.atH b1L)) ?_
   refine D5 (b5J _ _ _ _ _) ?_
   refine a2H (fun a3A => ?_) (fun a3A => ?_)
   ·replace h := h.1 a3A
    exact hR false H _ I_2 h
   ·replace h := h.2 a3A
    refine a7 (q8 _ _ _ _ _ _) ?_
    exact hn2 _ _ _ (hm2 _ _ h).2 ⟨(IntKind.wrap .i64 (A9 + 1)), H, rfl, rfl, I_2, (hm2 _ _ h).1⟩
  ·replace h := h.2 a0K
   exact hx1 _ _ (hj1 H _ I h)
theorem b0B (x0 : Sl) (x1 : Sl) {H : Hp} {K : Bool → Hp → Prop} (h : a0X x0 x1 H K) : a0P x0 x1 H K := by
 intro w I
 refine f5V ?_
 refine b0c x0 x1 I (fun r0 H' w' I' hk => ⟨H', _, I', r0, rfl, rfl, hk⟩) h
def W4 (x0 : g5) (H : Hp) (K : Bool → Hp → Prop) : Prop :=
 a3b H (fun (o0 : Bool) (H_6 : Hp) =>
 ((!o0) = true →
 K false H_6) ∧
 ((!o0) = false →
 a3e x0 H_6 (fun (a8t : Int) (f7Q : Hp) =>
 a3F x0 f7Q (fun (a6K : Int) (d2r : Int) (f7R : Hp) =>
 a3G x0 f7R (fun (a6L : Int) (d2s : Int) (a7Z : Hp) =>
 a5z x0 a7Z (fun (c0T : Sl) (d2t : Int) (f7S : Hp) =>
 a3H x0 f7S (fun (d2u : Int) (a9Y : Hp) =>
 (((((!decide (d2u = a8t)) || (!decide (d2r = a8t))) || (!decide (d2s = a8t))) || (!decide (d2t = a8t))) = true →
 K false a9Y) ∧
 (((((!decide (d2u = a8t)) || (!decide (d2r = a8t))) || (!decide (d2s = a8t))) || (!decide (d2t = a8t))) = false →
 (¬ (a8t = 0) →
 K (((decide (a6K = 0)) && (decide (a6L = 0))) && (decide ((c0T.n : Int) = 0))) a9Y) ∧
 (a8t = 0 →
 a3y x0 a9Y (fun (a9A : Int) (a9B : Int) (a9T : Hp) =>
 TG (((decide (a6K = a9A)) && (decide (a6L = a9B))) = true) (a3f x0 a9T) (Sl.mk none 0 0) a9T (fun (a5s : Sl) (a5A : Hp) =>
 TG (((decide (a6K = a9A)) && (decide (a6L = a9B))) = true) (a0P c0T a5s a5A) false a5A (fun (a2M : Bool) (a3o : Hp) =>
 K (((decide (a6K = a9A)) && (decide (a6L = a9B))) && a2M) a3o))))))))))))
theorem a7x (x0 : g5) {w0 w : World} {ps0 : Nat → Prop} {H0 H : Hp} {K : Bool → Hp → Prop} {R : Value → World → Prop} {E : Pan} (I : Inv w0 ps0 H0 H [] w) (hR : ∀ (r0 : Bool) (H' : Hp) (w' : World) (_ : Inv w0 ps0 H0 H' [] w') (_ : K r0 H'), R (Value.bool r0) w') (h : W4 x0 H K) : F6 (Value.agg (d7 x0).toArray) w R E := by
 unfold W4 at h
 unfold F6
 refine G7 I (cs := (d7 x0)) rfl fun g_2 w_3 I_4 k_5 => ?_
 refine f8 (cap := []) (fun args w => Tryd.call14 args w) ?_
 refine i6 (Fi := []) (Fr := [bx g_2 25 (d7 x0)]) I_4 (h) (fun a6Q H_6 a6q w_7 I_8 a6R k_9 a0J => ?_) (fun _ _ _ _ _ q => q.elim)
 obtain ⟨o0, rfl, rfl, h⟩ := a0J
 refine a7 (I7 _) ?_
 refine k9 (fun b8X => ?_) (fun b8X => ?_)
 ·replace h := h.1 b8X
  exact hR false H_6 _ I_8.drop h
 ·replace h := h.2 b8X
  refine c7 (ldA Tryd.isAgg25 Tryd.sizeOf25 rfl (I_8.at1 (o := 0) (vs := (d7 x0)) (nb rfl) rfl)) ?_
  refine f8 (cap := []) (fun args w => Tryd.call23 args w) ?_
  refine i6 (Fi := []) (Fr := [bx g_2 25 (d7 x0)]) I_8 (h) (fun g9k f7Q g9l q7 a5i g9m d6k g5n => ?_) (fun _ _ _ _ _ q => q.elim)
  obtain ⟨a8t, rfl, rfl, h⟩ := g5n
  refine c7 (ldA Tryd.isAgg25 Tryd.sizeOf25 rfl (a5i.at1 (o := 0) (vs := (d7 x0)) (nb rfl) rfl)) ?_
  refine f8 (cap := []) (fun args w => Tryd.call24 args w) ?_
  refine i6 (Fi := []) (Fr := [bx g_2 25 (d7 x0)]) a5i (h) (fun g9n f7R g9o a6m a8T f6x c4N g5o => ?_) (fun _ _ _ _ _ q => q.elim)
  obtain ⟨a6K, d2r, rfl, rfl, h⟩ := g5o
  refine a7 (v7 _ _ _ rfl) ?_
  refine a7 (v7 _ _ _ rfl) ?_
  refine c7 (ldA Tryd.isAgg25 Tryd.sizeOf25 rfl (a8T.at1 (o := 0) (vs := (d7 x0)) (nb rfl) rfl)) ?_
  refine f8 (cap := []) (fun args w => Tryd.call25 args w) ?_
  refine i6 (Fi := []) (Fr := [bx g_2 25 (d7 x0)]) a8T (h) (fun g9p a7Z g9q A8 f7T g9r g9s g5p => ?_) (fun _ _ _ _ _ q => q.elim)
  obtain ⟨a6L, d2s, rfl, rfl, h⟩ := g5p
  refine a7 (v7 _ _ _ rfl) ?_
  refine a7 (v7 _ _ _ rfl) ?_
  refine c7 (ldA Tryd.isAgg25 Tryd.sizeOf25 rfl (f7T.at1 (o := 0) (vs := (d7 x0)) (nb rfl) rfl)) ?_
  refine f8 (cap := []) (fun args w => Tryd.call26 args w) ?_
  refine i6 (Fi := []) (Fr := [bx g_2 25 (d7 x0)]) f7T (h) (fun g9t f7S g2d c8S f7U f7M g9u g5q => ?_) (fun _ _ _ _ _ q => q.elim)
  obtain ⟨c0T, d2t, rfl, rfl, h⟩ := g5q
  refine a7 (v7 _ _ _ rfl) ?_
  refine a7 (v7 _ _ _ rfl) ?_
  refine c7 (ldA Tryd.isAgg25 Tryd.sizeOf25 rfl (f7U.at1 (o := 0) (vs := (d7 x0)) (nb rfl) rfl)) ?_
  refine f8 (cap := []) (fun args w => Tryd.call27 args w) ?_
  refine i6 (Fi := []) (Fr := [bx g_2 25 (d7 x0)]) f7U (h) (fun g9v a9Y g9w O7 b8z g9x g2f g5r => ?_) (fun _ _ _ _ _ q => q.elim)
  obtain ⟨d2u, rfl, rfl, h⟩ := g5r
  refine a7 (u7 _ _ _ _ _ _) ?_
  try simp only [m9]
  try simp only [m9, T5, a2v, a1f, Y1, a2z, a2w, a2x, a2y, a2A]
  refine a7 (Pu.g fun hb => by have a6 := hb; first | exact (u7 _ _ _ _ _ _) | (simp only [a8 a6]; exact (u7 _ _ _ _ _ _)) | (simp only [b7 a6, a8 a6, a8 hb, v1 a6, d9]; exact (u7 _ _ _ _ _ _))) ?_
  refine a7 (E1 _ _) ?_
  try simp only [m9]
  try simp only [m9, T5, a2v, a1f, Y1, a2z, a2w, a2x, a2y, a2A]
  refine a7 (Pu.g fun hb => by have a6 := hb; first | exact (u7 _ _ _ _ _ _) | (simp only [a8 a6]; exact (u7 _ _ _ _ _ _)) | (simp only [b7 a6, a8 a6, a8 hb, v1 a6, d9]; exact (u7 _ _ _ _ _ _))) ?_
  refine a7 (E1 _ _) ?_
  try simp only [m9]
  try simp only [m9, T5, a2v, a1f, Y1, a2z, a2w, a2x, a2y, a2A]
  refine a7 (Pu.g fun hb => by have a6 := hb; first | exact (u7 _ _ _ _ _ _) | (simp only [a8 a6]; exact (u7 _ _ _ _ _ _)) | (simp only [b7 a6, a8 a6, a8 hb, v1 a6, d9]; exact (u7 _ _ _ _ _ _))) ?_
  refine a7 (E1 _ _) ?_
  refine k9 (fun b8L => ?_) (fun b8L => ?_)
  ·replace h := h.1 b8L
   exact hR false a9Y _ b8z.drop h
  ·replace h := h.2 b8L
   refine a7 (u7 _ _ _ _ _ _) ?_
   refine a2H (fun b1S => ?_) (fun b1S => ?_)
   ·replace h := h.1 b1S
    refine a7 (d6 _ _ _ _ _ _) ?_
    try simp only [m9]
    refine a7 (Pu.g fun hb => by have a6 := hb; first | exact (d6 _ _ _ _ _ _) | (simp only [a8 a6]; exact (d6 _ _ _ _ _ _)) | (simp only [b7 a6, a8 a6, a8 hb, c9 a6, d9]; exact (d6 _ _ _ _ _ _))) ?_
    refine a7 (k7 _ _) ?_
    try simp only [m9]
    refine a7 (Pu.g fun hb => by have a6 := hb; first | exact (a7p _ _ _) | (simp only [a8 a6]; exact (a7p _ _ _)) | (simp only [b7 a6, a8 a6, a8 hb, c9 a6, d9]; exact (a7p _ _ _))) ?_
    refine a7 (Pu.g fun hb => by have a6 := hb; first | exact (d6 _ _ _ _ _ _) | (simp only [a8 a6]; exact (d6 _ _ _ _ _ _)) | (simp only [b7 a6, a8 a6, a8 hb, c9 a6, d9]; exact (d6 _ _ _ _ _ _))) ?_
    refine a7 (k7 _ _) ?_
    exact hR (((decide (a6K = 0)) && (decide (a6L = 0))) && (decide ((c0T.n : Int) = 0))) a9Y _ b8z.drop h
   ·replace h := h.2 b1S
    refine c7 (ldA Tryd.isAgg25 Tryd.sizeOf25 rfl (b8z.at1 (o := 0) (vs := (d7 x0)) (nb rfl) rfl)) ?_
    refine f8 (cap := []) (fun args w => Tryd.call28 args w) ?_
    refine i6 (Fi := []) (Fr := [bx g_2 25 (d7 x0)]) b8z (h) (fun g9y a9T g9z c4b c7s g9A g9B g5s => ?_) (fun _ _ _ _ _ q => q.elim)
    obtain ⟨a9A, a9B, rfl, rfl, h⟩ := g5s
    refine a7 (v7 _ _ _ rfl) ?_
    refine a7 (v7 _ _ _ rfl) ?_
    refine a7 (d6 _ _ _ _ _ _) ?_
    try simp only [m9]
    try simp only [m9, T5, a2v, a1f, Y1, a2z, a2w, a2x, a2y, a2A]
    refine a7 (Pu.g fun hb => by have a6 := hb; first | exact (d6 _ _ _ _ _ _) | (simp only [a8 a6]; exact (d6 _ _ _ _ _ _)) | (simp only [b7 a6, a8 a6, a8 hb, c9 a6, d9]; exact (d6 _ _ _ _ _ _))) ?_
    refine a7 (k7 _ _) ?_
    try simp only [m9]
    refine c7 (Ld.g fun hb => by have a6 := hb; first | exact (ldA Tryd.isAgg25 Tryd.sizeOf25 rfl (c7s.at1 (o := 0) (vs := (d7 x0)) (nb rfl) rfl)) | (simp only [b7 a6, a8 a6, a8 hb, l9 a6]; exact (ldA Tryd.isAgg25 Tryd.sizeOf25 rfl (c7s.at1 (o := 0) (vs := (d7 x0)) (nb rfl) rfl))) | (simp only [b7 a6, a8 a6, a8 hb, c9 a6, d9]; exact (ldA Tryd.isAgg25 Tryd.sizeOf25 rfl (c7s.at1 (o := 0) (vs := (d7 x0)) (nb rfl) rfl)))) ?_
    refine L2 (D := fun b8A O8 => ∃ (a5s : Sl) (a5A : Hp) , b8A = (gv ((decide (a6K = a9A)) && (decide (a6L = a9B))) true (vs a5s)) ∧ (Inv w0 ps0 H0 a5A [bx g_2 25 (d7 x0)] O8) ∧ (∀ i, i < c4b.heap.size → ¬ inF [] i → O8.heap[i]? = c4b.heap[i]?) ∧ Hle a9T a5A ∧ (TG (((decide (a6K = a9A)) && (decide (a6L = a9B))) = true) (a0P c0T a5s a5A) false a5A (fun (a2M : Bool) (a3o : Hp) =>
 K (((decide (a6K = a9A)) && (decide (a6L = a9B))) && a2M) a3o))) (fun a8g => ?_) (fun a8g => ?_) ?_
    ·replace h := h.1 a8g
     have a6 := a8g
     try simp only [a8 a6]
     refine f8 (cap := []) (fun args w => Tryd.call30 args w) ?_
     refine i6 (Fi := []) (Fr := [bx g_2 25 (d7 x0)]) c7s (h) (fun b8A a5A g3i O8 b8Y d6b d6c d6d => ?_) (fun _ _ _ _ _ q => q.elim)
     obtain ⟨a5s, rfl, rfl, h⟩ := d6d
     exact ⟨a5s, a5A, by first | rfl | rw [a8 a8g], b8Y, d6c, d6b, h⟩
    ·exact ⟨(Sl.mk none 0 0), a9T, by first | rfl | rw [a0E a8g], c7s, fun _ _ _ => rfl, Hle.refl _, h.2 a8g⟩
    ·clear h
     rintro b8A O8 ⟨a5s, a5A, rfl, b8Y, d6c, d6b, h⟩
     refine L2 (D := fun b8Z b4M => ∃ (a2M : Bool) (a3o : Hp) , b8Z = (gv ((decide (a6K = a9A)) && (decide (a6L = a9B))) true (Value.bool a2M)) ∧ (Inv w0 ps0 H0 a3o [bx g_2 25 (d7 x0)] b4M) ∧ (∀ i, i < O8.heap.size → ¬ inF [] i → b4M.heap[i]? = O8.heap[i]?) ∧ Hle a5A a3o ∧ (K (((decide (a6K = a9A)) && (decide (a6L = a9B))) && a2M) a3o)) (fun c2m => ?_) (fun c2m => ?_) ?_
     ·replace h := h.1 c2m
      have a6 := c2m
      try simp only [a8 a6]
      refine f8 (cap := []) (fun args w => Tryd.call29 args w) ?_
      refine i6 (Fi := []) (Fr := [bx g_2 25 (d7 x0)]) b8Y (h) (fun b8Z a3o g3j b4M b6K c5r c5s d6e => ?_) (fun _ _ _ _ _ q => q.elim)
      obtain ⟨a2M, rfl, rfl, h⟩ := d6e
      exact ⟨a2M, a3o, by first | rfl | rw [a8 c2m], b6K, c5s, c5r, h⟩
     ·exact ⟨false, a5A, by first | rfl | rw [a0E c2m], b8Y, fun _ _ _ => rfl, Hle.refl _, h.2 c2m⟩
     ·clear h
      rintro b8Z b4M ⟨a2M, a3o, rfl, b6K, c5s, c5r, h⟩
      refine a7 (k7 _ _) ?_
      exact hR (((decide (a6K = a9A)) && (decide (a6L = a9B))) && a2M) a3o _ b6K.drop h
theorem a8u (x0 : g5) {H : Hp} {K : Bool → Hp → Prop} (h : W4 x0 H K) : a1k x0 H K := by
 intro w I
 refine g1p ?_
 refine a7x x0 I (fun r0 H' w' I' hk => ⟨H', _, I', r0, rfl, rfl, hk⟩) h
end Go.Proofs.YthldnpmfelniiaaDoor
