/- Typed formulas of the program's functions, and the theorems that the contracts follow from them; printed by lift.py off the code. -/
import Derived.Test.YthldnpmfelniiaaDoorCV1
namespace Go.Proofs.YthldnpmfelniiaaDoor
open Go.RowKit
set_option maxRecDepth 100000
set_option maxHeartbeats 2000000
def a1H (H : Hp) (K : g5 → Hp → Prop) : Prop :=
 ∀ (s_7 : Sl) (a1U : Hp), Hle H a1U → SlH a1U 4 f4 s_7 [(h9.mk 2 0 ⟨#[120]⟩ (Sl.mk none 0 0)), (h9.mk 1 1 ⟨#[]⟩ (Sl.mk none 0 0))] → s_7.n ≤ s_7.c →
 ∀ (b8x : Sl) (c4W : Hp), Hle a1U c4W → SlH c4W 4 f4 b8x [(h9.mk 6 0 ⟨#[]⟩ s_7)] → b8x.n ≤ b8x.c →
 ∀ (b2X : Sl) (a3h : Hp), Hle c4W a3h → SlH a3h 2 p7 b2X [(B8.mk ⟨#[120]⟩ 0)] → b2X.n ≤ b2X.c →
 ∀ (a9S : Sl) (a9T : Hp), Hle a3h a9T → SlH a9T 6 d5 a9S [(i4.mk 1 ⟨#[120]⟩ b8x (Sl.mk none 0 0) (Sl.mk none 0 0) (Sl.mk none 0 0))] → a9S.n ≤ a9S.c →
 K (g5.mk b2X a9S) a9T
theorem b1H {w0 w : World} {ps0 : Nat → Prop} {H0 H : Hp} {K : g5 → Hp → Prop} {R : Value → World → Prop} {E : Pan} (I : Inv w0 ps0 H0 H [] w) (hR : ∀ (r0 : g5) (H' : Hp) (w' : World) (_ : Inv w0 ps0 H0 H' [] w') (_ : K r0 H'), R (Value.agg (d7 r0).toArray) w') (h : a1H H K) : F50 w R E := by
 unfold a1H at h
 unfold F50
 refine L5 I Tryd.zeroValue25 (cs := [(Value.slice none 0 0), (Value.slice none 0 0)]) rfl fun g_2 w_3 I_4 k_5 => ?_
 refine a7 (c2L _ _) ?_
 refine a7 (c2M _ _) ?_
 refine a6l (e := 30) (c := f4) (xs := [(h9.mk 2 0 ⟨#[120]⟩ (Sl.mk none 0 0)), (h9.mk 1 1 ⟨#[]⟩ (Sl.mk none 0 0))]) I_4 (d9y _ _ _ _ _ _ _ _ _ _ _ _) rfl rfl b5u b5v (nb rfl) fun s_7 F_8 w_9 b1I a0Y a8S => ?_
 refine a7 (c2N _ _ _ _) ?_
 refine L5 a0Y Tryd.zeroValue30 (cs := [(vi 0), (vi 0), (Value.string ⟨#[]⟩), (Value.slice none 0 0)]) rfl fun g7a a1C c4X f1f => ?_
 refine u1 c4X Tryd.sizeOf30 (vs := [(vi 6), (vi 0), (Value.string ⟨#[]⟩), (vs s_7)]) (cs' := [(vi 6), (vi 0), (Value.string ⟨#[]⟩), (vs s_7)]) rfl rfl (nb rfl) rfl rfl fun r6 b1E c1E => ?_
 refine a7 (c7x _) ?_
 refine a6l (e := 67) (c := p7) (xs := [(B8.mk ⟨#[120]⟩ 0)]) b1E (d9x _ _) rfl rfl c2I c2J (nb rfl) fun b2X g1Z r5 b4z a8T c4N => ?_
 refine c7 (ldA Tryd.isAgg30 Tryd.sizeOf30 rfl ((a8T.bring 1).at1 (o := 0) (vs := [(vi 6), (vi 0), (Value.string ⟨#[]⟩), (vs s_7)]) (nb rfl) rfl)) ?_
 obtain ⟨a1U, a5T, c4Y, g2a, d5m⟩ := Inv.freezeC (a8T.bring 2) b1I (by decide)
 replace h := h s_7 a1U c4Y g2a d5m
 refine a6l (e := 30) (c := f4) (xs := [(h9.mk 6 0 ⟨#[]⟩ s_7)]) a5T (d9z _ _ _ _ _ _) rfl rfl b5u b5v (nb rfl) fun b8x g7b B2 b4x d5n g2c => ?_
 refine a7 (b9t _ _ _ _ _) ?_
 obtain ⟨c4W, c1F, f1g, b1C, d5o⟩ := Inv.freezeC d5n b4x (by decide)
 replace h := h b8x c4W f1g b1C d5o
 refine a6l (e := 88) (c := d5) (xs := [(i4.mk 1 ⟨#[120]⟩ b8x (Sl.mk none 0 0) (Sl.mk none 0 0) (Sl.mk none 0 0))]) c1F (d9A _ _ _ _ _ _ _ _ _ _ _ _ _ _) rfl rfl c2O c2P (nb rfl) fun a9S g2d I8 b8y g2e g7c => ?_
 refine a7 (c2K _ _ _ _ _ _) ?_
 refine u1 (g2e.bring 3) Tryd.sizeOf25 (vs := [(vs b2X), (vs a9S)]) (cs' := [(vs b2X), (vs a9S)]) rfl rfl (nb rfl) rfl rfl fun O7 b8z g2f => ?_
 refine c7J Tryd.isAgg25 Tryd.sizeOf25 rfl (b8z.at1 (o := 0) (vs := [(vs b2X), (vs a9S)]) (nb rfl) rfl) ?_
 obtain ⟨a3h, c9G, f1h, g2g, c4Z⟩ := Inv.freezeC (b8z.bring 2) b4z (by decide)
 replace h := h b2X a3h f1h g2g c4Z
 obtain ⟨a9T, g2h, c9A, g2i, g2j⟩ := Inv.freezeC (c9G.bring 1) b8y (by decide)
 replace h := h a9S a9T c9A g2i g2j
 exact hR (g5.mk b2X a9S) a9T _ g2h.drop.drop h
theorem b2s {H : Hp} {K : g5 → Hp → Prop} (h : a1H H K) : G2 H K := by
 intro w I
 refine e4f ?_
 refine b1H I (fun r0 H' w' I' hk => ⟨H', _, I', r0, rfl, rfl, hk⟩) h
def C6 (_s0j5 : Sl) (c1G : Int) (_s9j5 : Sl) (_s10j5 : Int) (f8D : Int) (H : Hp) (n4 : (Int × Int) → Hp → Prop) (_K : Sl → Hp → Prop) : Prop :=
 n4 (c1G, (IntKind.wrap .i64 (f8D + 1))) H
def C7 (b9U : (List c8)) (H : Hp) (K : Sl → Hp → Prop) : Prop :=
 ∀ (a9v : Sl) (b4A : Hp), Hle H b4A → SlH b4A 1 o8 a9v b9U → a9v.n ≤ a9v.c →
 K a9v b4A
def C8 (d8P : Sl) (d8Q : Int) (a5m : (List c8)) (a4E : Int) (H : Hp) (n3 : ((List c8) × Int) → Hp → Prop) (K : Sl → Hp → Prop) : Prop :=
 (a4E < d8Q →
 (0 : Int) ≤ a4E ∧ (a4E : Int) < d8P.n ∧ ∃ c9H : Sl, EltH H d8P a4E 1 [(vs c9H)] ∧
 ∃ b9V : List c8, SlH H 1 o8 c9H b9V ∧ (a5m.length + b9V.length) * 17 ≤ 140737488355328 ∧
 n3 ((a5m ++ b9V), (IntKind.wrap .i64 (a4E + 1))) H) ∧
 (¬ (a4E < d8Q) →
 C7 a5m H K)
def C9 (c9I : Sl) (a6r : Int) (H : Hp) (K : Sl → Hp → Prop) : Prop :=
 Q5 a6r H (fun (c9J : (List c8)) (H_9 : Hp) =>
 TL ((c9J, 0) : (List c8) × Int) H_9 fun (s : (List c8) × Int) H n3 => C8 c9I (c9I.n : Int) s.1 s.2 H n3 K)
def D1 (f1i : Sl) (a5n : Sl) (c9K : Int) (a8a : Int) (a4h : Int) (H : Hp) (n4 : (Int × Int) → Hp → Prop) (K : Sl → Hp → Prop) : Prop :=
 (a4h < c9K →
 (0 : Int) ≤ a4h ∧ (a4h : Int) < a5n.n ∧ ∃ x_1 : Sl, EltH H a5n a4h 1 [(vs x_1)] ∧
 ((IntKind.wrap .i64 (a8a + (x_1.n : Int))) < 0 →
 False) ∧
 (¬ ((IntKind.wrap .i64 (a8a + (x_1.n : Int))) < 0) →
 C6 f1i (IntKind.wrap .i64 (a8a + (x_1.n : Int))) a5n c9K a4h H n4 K)) ∧
 (¬ (a4h < c9K) →
 C9 f1i a8a H K)
def E2 (x0 : Sl) (H : Hp) (K : Sl → Hp → Prop) : Prop :=
 TL ((0, 0) : Int × Int) H fun (s : Int × Int) H n4 => D1 x0 x0 (x0.n : Int) s.1 s.2 H n4 K
theorem a3j (x0 : Sl) {w0 w : World} {ps0 : Nat → Prop} {H0 H : Hp} {K : Sl → Hp → Prop} {R : Value → World → Prop} {E : Pan} (I : Inv w0 ps0 H0 H [] w) (hR : ∀ (r0 : Sl) (H' : Hp) (w' : World) (_ : Inv w0 ps0 H0 H' [] w') (_ : K r0 H'), R (vs r0) w') (h : E2 x0 H K) : F94 (vs x0) w R E := by
 unfold E2 at h
 unfold F94
 have hj1 : ∀ (a6r : Int) (H : Hp) (w : World) (_ : Inv w0 ps0 H0 H [] w) (_ : C9 x0 a6r H K), c4p (vs x0) (vi a6r) w R E := by
  intro a6r H w I h
  unfold c4p
  intro _
  unfold C9 at h
  refine f8 (cap := []) (fun args w => Tryd.call120 args w) ?_
  refine i6 (Fi := []) (Fr := []) I (h) (fun g7d H_9 f1j m1 a0Y d5p a8S g2k => ?_) (fun _ _ _ _ _ q => q.elim)
  obtain ⟨c9J, f1k, f1l, rfl, rfl, f1m, h⟩ := g2k
  have hj2 : ∀ (b9U : (List c8)) (a9v : Sl) (Fs6j2 : Frag) (H : Hp) (w : World) (_ : RowL 141 1 o8 a9v b9U Fs6j2) (_ : Inv w0 ps0 H0 H [Fs6j2] w) (_ : C7 b9U H K), c4o (vs a9v) w R E := by
   intro b9U a9v Fs6j2 H w f8E I h
   unfold c4o
   intro _
   unfold C7 at h
   obtain ⟨b4A, a9Q, g2l, b4u, g2m⟩ := Inv.freezeC I f8E (by decide)
   replace h := h a9v b4A g2l b4u g2m
   exact hR a9v b4A _ a9Q h
  refine p9 fun j2 hx2 => ?_
  refine a7 (b9u _ _ _) ?_
  obtain ⟨d5q, c5a, g2n, g2o⟩ := h
  refine v6 (J := fun n l w => ∃ (s : (List c8) × Int) (H : Hp) (b9W : Sl) (Fs6l3 : Frag) , n = c5a s ∧ l = (match s with | (a5m, a4E) => [(vs b9W), (vi a4E)]) ∧ (match s with | (a5m, a4E) => RowL 141 1 o8 b9W a5m Fs6l3) ∧ (match s with | (a5m, a4E) => Inv w0 ps0 H0 H [Fs6l3] w) ∧ d5q s H) ⟨_, (c9J, 0), H_9, f1k, f1l, rfl, rfl, f1m, a0Y, g2n⟩ ?_
  rintro g7e τ_46 w next3 ⟨⟨a5m, a4E⟩, H, b9W, Fs6l3, rfl, d5r, c9L, I, g2p⟩ hn3
  dsimp only at d5r I c9L
  simp only [List.map_cons, List.map_nil, List.cons.injEq, and_true] at d5r
  obtain ⟨e6, e27⟩ := d5r
  simp only [e6, e27]
  obtain ⟨n3, hm3, h⟩ : ∃ n3 : ((List c8) × Int) → Hp → Prop, (∀ s' H', n3 s' H' → d5q s' H' ∧ c5a s' < c5a (a5m, a4E)) ∧ C8 x0 (x0.n : Int) a5m a4E H n3 K := ⟨_, fun _ _ h => h, g2o (a5m, a4E) H (fun s' H' => d5q s' H' ∧ c5a s' < c5a (a5m, a4E)) g2p (fun _ _ a b => ⟨a, b⟩)⟩
  unfold d3f
  unfold C8 at h
  refine a7 (r8 _ _ _ _ _ _) ?_
  refine g9 (fun a6T => ?_) (fun a6T => ?_)
  ·replace h := h.1 a6T
   obtain ⟨a6S, d5s, c9H, b4z, h⟩ := h
   obtain ⟨f1n, g7f, d5t, b4z⟩ := b4z
   refine a7 (c2t d5t _ _ _ _ a6S d5s) ?_
   refine c7 (ld1 (v := (vs c9H)) Tryd.isAgg97 (I.atH b4z)) ?_
   obtain ⟨b9V, c5b, h⟩ := h
   obtain ⟨d5m, h⟩ := h
   refine b5M (s := b9W) (xs := a5m) I c9L (SlH.src I c5b L6) d5m fun b4t b8u v8 b1D a4s b6C => ?_
   refine a7 (q8 _ _ _ _ _ _) ?_
   exact hn3 _ _ _ (hm3 _ _ h).2 ⟨((a5m ++ b9V), (IntKind.wrap .i64 (a4E + 1))), H, b4t, b8u, rfl, rfl, b1D, a4s, (hm3 _ _ h).1⟩
  ·replace h := h.2 a6T
   exact hx2 _ _ (hj2 a5m b9W Fs6l3 H _ c9L I h)
 refine p9 fun j1 hx1 => ?_
 refine a7 (b9u _ _ _) ?_
 obtain ⟨d5u, c5c, g2q, g2r⟩ := h
 refine v6 (J := fun n l w => ∃ (s : Int × Int) (H : Hp) , n = c5c s ∧ l = (match s with | (a8a, a4h) => [(vi a8a), (vi a4h)]) ∧ (match s with | (a8a, a4h) => Inv w0 ps0 H0 H [] w) ∧ d5u s H) ⟨_, (0, 0), H, rfl, rfl, I, g2q⟩ ?_
 rintro g7g τ_55 w next4 ⟨⟨a8a, a4h⟩, H, rfl, d5v, I, g2s⟩ hn4
 dsimp only at d5v I
 simp only [List.map_cons, List.map_nil, List.cons.injEq, and_true] at d5v
 obtain ⟨e3, e11⟩ := d5v
 simp only [e3, e11]
 obtain ⟨n4, hm4, h⟩ : ∃ n4 : (Int × Int) → Hp → Prop, (∀ s' H', n4 s' H' → d5u s' H' ∧ c5c s' < c5c (a8a, a4h)) ∧ D1 x0 x0 (x0.n : Int) a8a a4h H n4 K := ⟨_, fun _ _ h => h, g2r (a8a, a4h) H (fun s' H' => d5u s' H' ∧ c5c s' < c5c (a8a, a4h)) g2s (fun _ _ a b => ⟨a, b⟩)⟩
 unfold d3g
 unfold D1 at h
 refine a7 (r8 _ _ _ _ _ _) ?_
 refine g9 (fun d5w => ?_) (fun d5w => ?_)
 ·replace h := h.1 d5w
  have hj5 : ∀ (c1G : Int) (H : Hp) (w : World) (_ : Inv w0 ps0 H0 H [] w) (_ : C6 x0 c1G x0 (x0.n : Int) a4h H n4 K), c4q (vs x0) (vi c1G) (vs x0) (vi (x0.n : Int)) (vi a4h) w next4 R E := by
   intro c1G H w I h
   unfold c4q
   intro _
   unfold C6 at h
   refine a7 (q8 _ _ _ _ _ _) ?_
   exact hn4 _ _ _ (hm4 _ _ h).2 ⟨(c1G, (IntKind.wrap .i64 (a4h + 1))), H, rfl, rfl, I, (hm4 _ _ h).1⟩
  refine p9 fun j5 hx5 => ?_
  obtain ⟨h_4, h_5, x_1, h_7, h⟩ := h
  obtain ⟨g_2, o_3, h_6, h_7⟩ := h_7
  refine a7 (c2t h_6 _ _ _ _ h_4 h_5) ?_
  refine c7 (ld1 (v := (vs x_1)) Tryd.isAgg97 (I.atH h_7)) ?_
  refine a7 (b2A _ _ _) ?_
  refine a7 (q8 _ _ _ _ _ _) ?_
  refine a7 (r8 _ _ _ _ _ _) ?_
  refine g9 (fun c_8 => ?_) (fun c_8 => ?_)
  ·replace h := h.1 c_8
   refine a7 (d2N _) ?_
   exact h.elim
  ·replace h := h.2 c_8
   exact hx5 _ _ (hj5 (IntKind.wrap .i64 (a8a + (x_1.n : Int))) H _ I h)
 ·replace h := h.2 d5w
  exact hx1 _ _ (hj1 a8a H _ I h)
theorem a3t (x0 : Sl) {H : Hp} {K : Sl → Hp → Prop} (h : E2 x0 H K) : A7 x0 H K := by
 intro w I
 refine e7T ?_
 refine a3j x0 I (fun r0 H' w' I' hk => ⟨H', _, I', r0, rfl, rfl, hk⟩) h
def T7 (x0 : (List ByteArray)) (x1 : ByteArray) (H : Hp) (K : Bool → Hp → Prop) : Prop :=
 a1S x0 x1 H (fun (K1 : Int) (H_1 : Hp) =>
 K (decide (0 ≤ K1)) H_1)
theorem a6X (x0 : (List ByteArray)) (x1 : ByteArray) (sx0 : Sl) (Fx0 : Frag) (hx0 : RowL 9 1 s8 sx0 x0 Fx0) {w0 w : World} {ps0 : Nat → Prop} {H0 H : Hp} {K : Bool → Hp → Prop} {R : Value → World → Prop} {E : Pan} (I : Inv w0 ps0 H0 H [Fx0] w) (hR : ∀ (r0 : Bool) (H' : Hp) (w' : World) (_ : Inv w0 ps0 H0 H' [Fx0] w') (_ : K r0 H'), R (Value.bool r0) w') (h : T7 x0 x1 H K) : c9b (vs sx0) (Value.string x1) w R E := by
 unfold T7 at h
 unfold c9b
 refine f8 (cap := []) (fun args w => Tryd.call127 args w) ?_
 refine i6 (Fi := [Fx0]) (Fr := []) I (h sx0 Fx0 hx0) (fun v_5 H_1 F_6 w_2 I_3 l_8 k_4 q_7 => ?_) (fun _ _ _ _ _ q => q.elim)
 obtain ⟨K1, rfl, rfl, h⟩ := q_7
 refine a7 (a1d _ _ _ _ _ _) ?_
 exact hR (decide (0 ≤ K1)) H_1 _ I_3 h
theorem a7w (x0 : (List ByteArray)) (x1 : ByteArray) {H : Hp} {K : Bool → Hp → Prop} (h : T7 x0 x1 H K) : L3 x0 x1 H K := by
 intro sx0 Fx0 hx0 w I
 refine e0m ?_
 refine a6X x0 x1 sx0 Fx0 hx0 I (fun r0 H' w' I' hk => ⟨H', _, I', r0, rfl, rfl, hk⟩) h
def w7 (b0F : Int) (b0G : Int) (b0H : Int) (b0I : Bool) (b0J : Bool) (a8W : (List ByteArray)) (H : Hp) (K : Bool → g6 → (List ByteArray) → Hp → Prop) : Prop :=
 K true (g6.mk b0F b0G b0H b0I b0J (Sl.mk none 0 0)) a8W H
def a0x (x0 : g6) (a0I : (List ByteArray)) (x1 : c8) (x2 : Int) (H : Hp) (K : Bool → g6 → (List ByteArray) → Hp → Prop) : Prop :=
 (4096 < (IntKind.wrap .i64 (x0.fnodes + 1)) →
 K false (g6.mk (IntKind.wrap .i64 (x0.fnodes + 1)) x0.fdepth 33 x0.fform x0.fnamed (Sl.mk none 0 0)) a0I H) ∧
 (¬ (4096 < (IntKind.wrap .i64 (x0.fnodes + 1))) →
 (64 < x2 →
 K false (g6.mk (IntKind.wrap .i64 (x0.fnodes + 1)) x0.fdepth 32 x0.fform x0.fnamed (Sl.mk none 0 0)) a0I H) ∧
 (¬ (64 < x2) →
 TG (x0.fform = false) (a5h x1 H) false H (fun (o6 : Bool) (a3V : Hp) =>
 a2E x1 a3V (fun (a3k : ByteArray) (b7m : Bool) (a6Y : Hp) =>
 (b7m = true →
 TG (x0.fnamed = false) (a4B a3k a6Y) false a6Y (fun (T6 : Bool) (a1E : Hp) =>
 L3 a0I a3k a1E (fun (a5o : Bool) (a6s : Hp) =>
 ((!a5o) = true →
 (a0I.length + ([a3k] : List ByteArray).length) * 17 ≤ 140737488355328 ∧
 w7 (IntKind.wrap .i64 (x0.fnodes + 1)) (if x2 > x0.fdepth then x2 else x0.fdepth) x0.fe (x0.fform || (!o6)) (x0.fnamed || (!T6)) (a0I ++ [a3k]) a6s K) ∧
 ((!a5o) = false →
 w7 (IntKind.wrap .i64 (x0.fnodes + 1)) (if x2 > x0.fdepth then x2 else x0.fdepth) x0.fe (x0.fform || (!o6)) (x0.fnamed || (!T6)) a0I a6s K)))) ∧
 (b7m = false →
 w7 (IntKind.wrap .i64 (x0.fnodes + 1)) (if x2 > x0.fdepth then x2 else x0.fdepth) x0.fe (x0.fform || (!o6)) x0.fnamed a0I a6Y K)))))
theorem a9E (x0 : g6) (a0I : (List ByteArray)) (x1 : c8) (x2 : Int) (g0 : Nat) (a0h : Sl) (a4g : Frag) (b2J : RowL 9 1 s8 a0h a0I a4g) {w0 w : World} {ps0 : Nat → Prop} {H0 H : Hp} {K : Bool → g6 → (List ByteArray) → Hp → Prop} {R : Value → World → Prop} {E : Pan} (I : Inv w0 ps0 H0 H [bx g0 92 [(vi x0.fnodes), (vi x0.fdepth), (vi x0.fe), (Value.bool x0.fform), (Value.bool x0.fnamed), (vs a0h)], a4g] w) (hR : ∀ (r0 : Bool) (y0 : g6) (a6P : (List ByteArray)) (a5f : Sl) (a5g : Frag) (H' : Hp) (w' : World) (_ : RowL 9 1 s8 a5f a6P a5g) (_ : Inv w0 ps0 H0 H' [bx g0 92 [(vi y0.fnodes), (vi y0.fdepth), (vi y0.fe), (Value.bool y0.fform), (Value.bool y0.fnamed), (vs a5f)], a5g] w') (_ : K r0 y0 a6P H'), R (Value.bool r0) w') (h : a0x x0 a0I x1 x2 H K) : F90 (Value.pointer (some ⟨g0, 0, none⟩)) (y7 x1) (vi x2) w R E := by
 unfold a0x at h
 unfold F90
 refine a7 (i7 _) ?_
 refine a7 b0e ?_
 refine c7 (ld1 Tryd.isAgg3 (I.at1 (o := 0) (vs := [(vi x0.fnodes)]) (nb rfl) rfl)) ?_
 refine a7 (q8 _ _ _ _ _ _) ?_
 refine a7 (i7 _) ?_
 refine a7 b0e ?_
 refine u1 I Tryd.sizeOf3 (vs := [(vi (IntKind.wrap .i64 (x0.fnodes + 1)))]) (cs' := [(vi (IntKind.wrap .i64 (x0.fnodes + 1))), (vi x0.fdepth), (vi x0.fe), (Value.bool x0.fform), (Value.bool x0.fnamed), (vs a0h)]) rfl rfl (nb rfl) rfl rfl fun w_1 I_2 k_3 => ?_
 refine a7 (i7 _) ?_
 refine a7 b0e ?_
 refine c7 (ld1 Tryd.isAgg3 (I_2.at1 (o := 0) (vs := [(vi (IntKind.wrap .i64 (x0.fnodes + 1)))]) (nb rfl) rfl)) ?_
 refine a7 (a2W _ _ _ _ _ _) ?_
 refine g9 (fun b1J => ?_) (fun b1J => ?_)
 ·replace h := h.1 b1J
  refine a7 (i7 _) ?_
  refine a7 a0t ?_
  refine u1 I_2 Tryd.sizeOf34 (vs := [(vi 33)]) (cs' := [(vi (IntKind.wrap .i64 (x0.fnodes + 1))), (vi x0.fdepth), (vi 33), (Value.bool x0.fform), (Value.bool x0.fnamed), (vs a0h)]) rfl rfl (nb rfl) rfl rfl fun w_4 I_5 k_6 => ?_
  exact hR false (g6.mk (IntKind.wrap .i64 (x0.fnodes + 1)) x0.fdepth 33 x0.fform x0.fnamed (Sl.mk none 0 0)) a0I a0h a4g H _ b2J ((I_5.bring 1).bring 1) h
 ·replace h := h.2 b1J
  refine a7 (a2W _ _ _ _ _ _) ?_
  refine g9 (fun a6Z => ?_) (fun a6Z => ?_)
  ·replace h := h.1 a6Z
   refine a7 (i7 _) ?_
   refine a7 a0t ?_
   refine u1 I_2 Tryd.sizeOf34 (vs := [(vi 32)]) (cs' := [(vi (IntKind.wrap .i64 (x0.fnodes + 1))), (vi x0.fdepth), (vi 32), (Value.bool x0.fform), (Value.bool x0.fnamed), (vs a0h)]) rfl rfl (nb rfl) rfl rfl fun w_7 I_8 k_9 => ?_
   exact hR false (g6.mk (IntKind.wrap .i64 (x0.fnodes + 1)) x0.fdepth 32 x0.fform x0.fnamed (Sl.mk none 0 0)) a0I a0h a4g H _ b2J ((I_8.bring 1).bring 1) h
  ·replace h := h.2 a6Z
   refine a7 (i7 _) ?_
   refine a7 b3U ?_
   refine c7 (ld1 Tryd.isAgg3 (I_2.at1 (o := 1) (vs := [(vi x0.fdepth)]) (nb rfl) rfl)) ?_
   refine a7 (d2G _ _ _ _ _) ?_
   refine a7 (i7 _) ?_
   refine a7 b3U ?_
   refine u1 I_2 Tryd.sizeOf3 (vs := [(vi (if x2 > x0.fdepth then x2 else x0.fdepth))]) (cs' := [(vi (IntKind.wrap .i64 (x0.fnodes + 1))), (vi (if x2 > x0.fdepth then x2 else x0.fdepth)), (vi x0.fe), (Value.bool x0.fform), (Value.bool x0.fnamed), (vs a0h)]) rfl rfl (nb rfl) rfl rfl fun m1 a0Y a8S => ?_
   refine a7 (i7 _) ?_
   refine a7 b3W ?_
   refine c7 (ld1 Tryd.isAgg4 (a0Y.at1 (o := 3) (vs := [(Value.bool x0.fform)]) (nb rfl) rfl)) ?_
   try simp only [m9]
   refine L2 (D := fun b8A o3 => ∃ (o6 : Bool) (a3V : Hp), b8A = (gv x0.fform false (Value.bool o6)) ∧ (Inv w0 ps0 H0 a3V [bx g0 92 [(vi (IntKind.wrap .i64 (x0.fnodes + 1))), (vi (if x2 > x0.fdepth then x2 else x0.fdepth)), (vi x0.fe), (Value.bool x0.fform), (Value.bool x0.fnamed), (vs a0h)], a4g] o3) ∧ (∀ i, i < m1.heap.size → ¬ inF [] i → o3.heap[i]? = m1.heap[i]?) ∧ Hle H a3V ∧ (a2E x1 a3V (fun (a3k : ByteArray) (b7m : Bool) (a6Y : Hp) =>
 (b7m = true →
 TG (x0.fnamed = false) (a4B a3k a6Y) false a6Y (fun (T6 : Bool) (a1E : Hp) =>
 L3 a0I a3k a1E (fun (a5o : Bool) (a6s : Hp) =>
 ((!a5o) = true →
 (a0I.length + ([a3k] : List ByteArray).length) * 17 ≤ 140737488355328 ∧
 w7 (IntKind.wrap .i64 (x0.fnodes + 1)) (if x2 > x0.fdepth then x2 else x0.fdepth) x0.fe (x0.fform || (!o6)) (x0.fnamed || (!T6)) (a0I ++ [a3k]) a6s K) ∧
 ((!a5o) = false →
 w7 (IntKind.wrap .i64 (x0.fnodes + 1)) (if x2 > x0.fdepth then x2 else x0.fdepth) x0.fe (x0.fform || (!o6)) (x0.fnamed || (!T6)) a0I a6s K)))) ∧
 (b7m = false →
 w7 (IntKind.wrap .i64 (x0.fnodes + 1)) (if x2 > x0.fdepth then x2 else x0.fdepth) x0.fe (x0.fform || (!o6)) x0.fnamed a0I a6Y K)))) (fun c1H => ?_) (fun c1H => ?_) ?_
   ·replace h := h.1 c1H
    have a6 := c1H
    try simp only [a8 a6]
    refine b3x a0Y h (fun o6 a3V o3 b4B b6B c5d h => ?_)
    exact ⟨o6, a3V, by first | rfl | rw [a8 c1H], b4B, c5d, b6B, h⟩
   ·exact ⟨false, H, by first | rfl | rw [a0E c1H], a0Y, fun _ _ _ => rfl, Hle.refl _, h.2 c1H⟩
   ·clear h
    rintro b8A o3 ⟨o6, a3V, rfl, b4B, c5d, b6B, h⟩
    refine a7 (Pu.g fun hb => by have a6 := hb; first | exact (I7 _) | (simp only [a8 a6]; exact (I7 _)) | (simp only [b7 a6, a8 a6, a8 hb, v1 a6, d9]; exact (I7 _))) ?_
    refine a7 (E1 _ _) ?_
    refine a7 (i7 _) ?_
    refine a7 b3W ?_
    refine u1 b4B Tryd.sizeOf4 (vs := [(Value.bool (x0.fform || (!o6)))]) (cs' := [(vi (IntKind.wrap .i64 (x0.fnodes + 1))), (vi (if x2 > x0.fdepth then x2 else x0.fdepth)), (vi x0.fe), (Value.bool (x0.fform || (!o6))), (Value.bool x0.fnamed), (vs a0h)]) rfl rfl (nb rfl) rfl rfl fun a5L b4C d5x => ?_
    have hj1 : ∀ (b0F : Int) (b0G : Int) (b0H : Int) (b0I : Bool) (b0J : Bool) (a8W : (List ByteArray)) (b4D : Sl) (b4E : Frag) (H : Hp) (w : World) (_ : RowL 9 1 s8 b4D a8W b4E) (_ : Inv w0 ps0 H0 H [bx g0 92 [(vi b0F), (vi b0G), (vi b0H), (Value.bool b0I), (Value.bool b0J), (vs b4D)], b4E] w) (_ : w7 b0F b0G b0H b0I b0J a8W H K), c4f w R E := by
     intro b0F b0G b0H b0I b0J a8W b4D b4E H w d5y I h
     unfold c4f
     intro _
     unfold w7 at h
     exact hR true (g6.mk b0F b0G b0H b0I b0J (Sl.mk none 0 0)) a8W b4D b4E H _ d5y ((I.bring 1).bring 1) h
    refine p9 fun j1 hx1 => ?_
    refine f8 (cap := []) (fun args w => Tryd.call114 args w) ?_
    refine i6 (Fi := []) (Fr := [bx g0 92 [(vi (IntKind.wrap .i64 (x0.fnodes + 1))), (vi (if x2 > x0.fdepth then x2 else x0.fdepth)), (vi x0.fe), (Value.bool (x0.fform || (!o6))), (Value.bool x0.fnamed), (vs a0h)], a4g]) b4C (h) (fun g2t a6Y b8u a7A b2Y g2u g2v d5z => ?_) (fun _ _ _ _ _ q => q.elim)
    obtain ⟨a3k, b7m, rfl, rfl, h⟩ := d5z
    refine a7 (v7 _ _ _ rfl) ?_
    refine a7 (v7 _ _ _ rfl) ?_
    refine k9 (fun b1K => ?_) (fun b1K => ?_)
    ·replace h := h.1 b1K
     refine a7 (i7 _) ?_
     refine a7 b3X ?_
     refine c7 (ld1 Tryd.isAgg4 (b2Y.at1 (o := 4) (vs := [(Value.bool x0.fnamed)]) (nb rfl) rfl)) ?_
     try simp only [m9]
     refine L2 (D := fun c1v y8 => ∃ (T6 : Bool) (a1E : Hp) , c1v = (gv x0.fnamed false (Value.bool T6)) ∧ (Inv w0 ps0 H0 a1E [bx g0 92 [(vi (IntKind.wrap .i64 (x0.fnodes + 1))), (vi (if x2 > x0.fdepth then x2 else x0.fdepth)), (vi x0.fe), (Value.bool (x0.fform || (!o6))), (Value.bool x0.fnamed), (vs a0h)], a4g] y8) ∧ (∀ i, i < a7A.heap.size → ¬ inF [] i → y8.heap[i]? = a7A.heap[i]?) ∧ Hle a6Y a1E ∧ (L3 a0I a3k a1E (fun (a5o : Bool) (a6s : Hp) =>
 ((!a5o) = true →
 (a0I.length + ([a3k] : List ByteArray).length) * 17 ≤ 140737488355328 ∧
 w7 (IntKind.wrap .i64 (x0.fnodes + 1)) (if x2 > x0.fdepth then x2 else x0.fdepth) x0.fe (x0.fform || (!o6)) (x0.fnamed || (!T6)) (a0I ++ [a3k]) a6s K) ∧
 ((!a5o) = false →
 w7 (IntKind.wrap .i64 (x0.fnodes + 1)) (if x2 > x0.fdepth then x2 else x0.fdepth) x0.fe (x0.fform || (!o6)) (x0.fnamed || (!T6)) a0I a6s K)))) (fun a7a => ?_) (fun a7a => ?_) ?_
     ·replace h := h.1 a7a
      have a6 := a7a
      try simp only [a8 a6]
      refine f8 (cap := []) (fun args w => Tryd.call115 args w) ?_
      refine i6 (Fi := []) (Fr := [bx g0 92 [(vi (IntKind.wrap .i64 (x0.fnodes + 1))), (vi (if x2 > x0.fdepth then x2 else x0.fdepth)), (vi x0.fe), (Value.bool (x0.fform || (!o6))), (Value.bool x0.fnamed), (vs a0h)], a4g]) b2Y (h) (fun c1v a1E d5b y8 a7U c4O c4P b8k => ?_) (fun _ _ _ _ _ q => q.elim)
      obtain ⟨T6, rfl, rfl, h⟩ := b8k
      exact ⟨T6, a1E, by first | rfl | rw [a8 a7a], a7U, c4P, c4O, h⟩
     ·exact ⟨false, a6Y, by first | rfl | rw [a0E a7a], b2Y, fun _ _ _ => rfl, Hle.refl _, h.2 a7a⟩
     ·clear h
      rintro c1v y8 ⟨T6, a1E, rfl, a7U, c4P, c4O, h⟩
      refine a7 (Pu.g fun hb => by have a6 := hb; first | exact (I7 _) | (simp only [a8 a6]; exact (I7 _)) | (simp only [b7 a6, a8 a6, a8 hb, v1 a6, d9]; exact (I7 _))) ?_
      refine a7 (E1 _ _) ?_
      refine a7 (i7 _) ?_
      refine a7 b3X ?_
      refine u1 a7U Tryd.sizeOf4 (vs := [(Value.bool (x0.fnamed || (!T6)))]) (cs' := [(vi (IntKind.wrap .i64 (x0.fnodes + 1))), (vi (if x2 > x0.fdepth then x2 else x0.fdepth)), (vi x0.fe), (Value.bool (x0.fform || (!o6))), (Value.bool (x0.fnamed || (!T6))), (vs a0h)]) rfl rfl (nb rfl) rfl rfl fun C3 c1F g2w => ?_
      refine a7 (i7 _) ?_
      refine a7 b0f ?_
      refine c7 (ld1 Tryd.isAgg47 (c1F.at1 (o := 5) (vs := [(vs a0h)]) (nb rfl) rfl)) ?_
      refine f8 (cap := []) (fun args w => Tryd.call116 args w) ?_
      refine i6 (Fi := [a4g]) (Fr := [bx g0 92 [(vi (IntKind.wrap .i64 (x0.fnodes + 1))), (vi (if x2 > x0.fdepth then x2 else x0.fdepth)), (vi x0.fe), (Value.bool (x0.fform || (!o6))), (Value.bool (x0.fnamed || (!T6))), (vs a0h)]]) (c1F.bring 1) (h a0h a4g b2J) (fun g2x a6s g2y E5 b4F g2z f1o d5A => ?_) (fun _ _ _ _ _ q => q.elim)
      obtain ⟨a5o, rfl, rfl, h⟩ := d5A
      refine a7 (I7 _) ?_
      refine k9 (fun b8B => ?_) (fun b8B => ?_)
      ·replace h := h.1 b8B
       refine a7 (i7 _) ?_
       refine a7 b0f ?_
       refine c7 (ld1 Tryd.isAgg47 ((b4F.bring 1).at1 (o := 5) (vs := [(vs a0h)]) (nb rfl) rfl)) ?_
       refine a6l (e := 9) (c := s8) (xs := [a3k]) b4F (c7O _) rfl rfl a9p a9q (nb rfl) fun g7h g7i d4R b8C b8q d5g => ?_
       obtain ⟨g2A, h⟩ := h
       refine d2K (s := a0h) (xs := a0I) (b8q.bring 1) b2J (b8C.srcO ((b8q.bring 1).bring 1)) g2A fun d5B f0X c4b b4G g2B g7j => ?_
       refine a7 (i7 _) ?_
       refine a7 b0f ?_
       refine u1 ((g2B.bring 1).drop.bring 1) Tryd.sizeOf47 (vs := [(vs d5B)]) (cs' := [(vi (IntKind.wrap .i64 (x0.fnodes + 1))), (vi (if x2 > x0.fdepth then x2 else x0.fdepth)), (vi x0.fe), (Value.bool (x0.fform || (!o6))), (Value.bool (x0.fnamed || (!T6))), (vs d5B)]) rfl rfl (nb rfl) rfl rfl fun a0p g2C g7k => ?_
       exact hx1 _ _ (hj1 (IntKind.wrap .i64 (x0.fnodes + 1)) (if x2 > x0.fdepth then x2 else x0.fdepth) x0.fe (x0.fform || (!o6)) (x0.fnamed || (!T6)) (a0I ++ [a3k]) d5B f0X a6s _ b4G ((g2C.bring 1).bring 1) h)
      ·replace h := h.2 b8B
       exact hx1 _ _ (hj1 (IntKind.wrap .i64 (x0.fnodes + 1)) (if x2 > x0.fdepth then x2 else x0.fdepth) x0.fe (x0.fform || (!o6)) (x0.fnamed || (!T6)) a0I a0h a4g a6s _ b2J (b4F.bring 1) h)
    ·replace h := h.2 b1K
     exact hx1 _ _ (hj1 (IntKind.wrap .i64 (x0.fnodes + 1)) (if x2 > x0.fdepth then x2 else x0.fdepth) x0.fe (x0.fform || (!o6)) x0.fnamed a0I a0h a4g a6Y _ b2J ((b2Y.bring 1).bring 1) h)
theorem a9U (x0 : g6) (a0I : (List ByteArray)) (x1 : c8) (x2 : Int) {H : Hp} {K : Bool → g6 → (List ByteArray) → Hp → Prop} (h : a0x x0 a0I x1 x2 H K) : a2U x0 a0I x1 x2 H K := by
 intro g0 a0h a4g b2J w I
 refine e6Q ?_
 refine a9E x0 a0I x1 x2 g0 a0h a4g b2J I (fun r0 y0 a6P a5f a5g H' w' c5e I' hk => ⟨H', _, I', r0, y0, a6P, a5f, a5g, rfl, rfl, c5e, hk⟩) h
def a4i (x0 : h9) (H : Hp) (K : Int → Hp → Prop) : Prop :=
 ∀ (s_7 : Sl) (a3V : Hp), Hle H a3V → SlH a3V 1 o8 s_7 [(c8.C2 (E0.mk x0))] → s_7.n ≤ s_7.c →
 a2Z s_7 a3V (fun (c2Y : g6) (d5C : Hp) =>
 K c2Y.fe d5C)
theorem b5y (x0 : h9) {w0 w : World} {ps0 : Nat → Prop} {H0 H : Hp} {K : Int → Hp → Prop} {R : Value → World → Prop} {E : Pan} (I : Inv w0 ps0 H0 H [] w) (hR : ∀ (r0 : Int) (H' : Hp) (w' : World) (_ : Inv w0 ps0 H0 H' [] w') (_ : K r0 H'), R (vi r0) w') (h : a4i x0 H K) : F17 (Value.agg (f4 x0).toArray) w R E := by
 unfold a4i at h
 unfold F17
 refine G7 I (cs := (f4 x0)) rfl fun g_2 w_3 I_4 k_5 => ?_
 refine c7 (ldA Tryd.isAgg30 Tryd.sizeOf30 rfl (I_4.at1 (o := 0) (vs := (f4 x0)) (nb rfl) rfl)) ?_
 refine a7 (b7V _ _ _ _ _ _) ?_
 refine a7 (a9N (E0.mk x0)) ?_
 refine a6l (e := 141) (c := o8) (xs := [(c8.C2 (E0.mk x0))]) I_4 (b3l _) rfl rfl L6 P5 (nb rfl) fun s_7 F_8 w_9 b1I a0Y a8S => ?_
 obtain ⟨a3V, T2, c1D, b1L, g2D⟩ := Inv.freezeC a0Y b1I (by decide)
 replace h := h s_7 a3V c1D b1L g2D
 refine f8 (cap := []) (fun args w => Tryd.call57 args w) ?_
 refine i6 (Fi := []) (Fr := [bx g_2 30 (f4 x0)]) T2 (h) (fun g7l d5C g1Z a5L b4C b6H d5x g2E => ?_) (fun _ _ _ _ _ q => q.elim)
 obtain ⟨c2Y, g5v, rfl, rfl, h⟩ := g2E
 refine a7 (i7 _) ?_
 refine a7 a0t ?_
 refine c7 (ld1 Tryd.isAgg34 (b4C.at1 (o := 2) (vs := [(vi c2Y.fe)]) (nb rfl) rfl)) ?_
 exact hR c2Y.fe d5C _ b4C.drop.drop h
theorem b6I (x0 : h9) {H : Hp} {K : Int → Hp → Prop} (h : a4i x0 H K) : a5M x0 H K := by
 intro w I
 refine e3T ?_
 refine b5y x0 I (fun r0 H' w' I' hk => ⟨H', _, I', r0, rfl, rfl, hk⟩) h
def K7 (H : Hp) (K : Bool → Hp → Prop) : Prop :=
 K true H
def E3 (a8b : Sl) (a0M : Sl) (d8R : Int) (a5p : Int) (H : Hp) (n2 : Int → Hp → Prop) (K : Bool → Hp → Prop) : Prop :=
 (a5p < d8R →
 (0 : Int) ≤ a5p ∧ (a5p : Int) < a8b.n ∧ ∃ x_3 : B8, EltH H a8b a5p 2 (p7 x_3) ∧
 (0 : Int) ≤ a5p ∧ (a5p : Int) < a0M.n ∧ ∃ a8X : B8, EltH H a0M a5p 2 (p7 a8X) ∧
 (¬ (x_3.g7 = a8X.g7 ∧ x_3.M3 = a8X.M3) →
 K false H) ∧
 (x_3.g7 = a8X.g7 ∧ x_3.M3 = a8X.M3 →
 n2 (IntKind.wrap .i64 (a5p + 1)) H)) ∧
 (¬ (a5p < d8R) →
 K7 H K)
def G3 (x0 : Sl) (x1 : Sl) (H : Hp) (K : Bool → Hp → Prop) : Prop :=
 (¬ ((x0.n : Int) = (x1.n : Int)) →
 K false H) ∧
 ((x0.n : Int) = (x1.n : Int) →
 TL (0 : Int) H fun (s : Int) H n2 => E3 x0 x1 (x0.n : Int) s H n2 K)
theorem a3Q (x0 : Sl) (x1 : Sl) {w0 w : World} {ps0 : Nat → Prop} {H0 H : Hp} {K : Bool → Hp → Prop} {R : Value → World → Prop} {E : Pan} (I : Inv w0 ps0 H0 H [] w) (hR : ∀ (r0 : Bool) (H' : Hp) (w' : World) (_ : Inv w0 ps0 H0 H' [] w') (_ : K r0 H'), R (Value.bool r0) w') (h : G3 x0 x1 H K) : F52 (vs x0) (vs x1) w R E := by
 unfold G3 at h
 unfold F52
 refine a7 (a5K _ _ _) ?_
 refine a7 (a5K _ _ _) ?_
 refine a7 (u7 _ _ _ _ _ _) ?_
 refine a2H (fun b8D => ?_) (fun b8D => ?_)
 ·replace h := h.1 b8D
  exact hR false H _ I h
 ·replace h := h.2 b8D
  have hj1 : ∀ (H : Hp) (w : World) (_ : Inv w0 ps0 H0 H [] w) (_ : K7 H K), c3M w R E := by
   intro H w I h
   unfold c3M
   intro _
   unfold K7 at h
   exact hR true H _ I h
  refine p9 fun j1 hx1 => ?_
  refine a7 (a5K _ _ _) ?_
  obtain ⟨b8E, b1M, d5D, d5E⟩ := h
  refine v6 (J := fun n l w => ∃ (s : Int) (H : Hp) , n = b1M s ∧ l = [(vi s)] ∧ Inv w0 ps0 H0 H [] w ∧ b8E s H) ⟨_, 0, H, rfl, rfl, I, d5D⟩ ?_
  rintro g2F τ_24 w next2 ⟨a5p, H, rfl, b6H, I, b4t⟩ hn2
  simp only [List.map_cons, List.map_nil, List.cons.injEq, and_true] at b6H
  have e13 := b6H
  simp only [e13]
  obtain ⟨n2, hm2, h⟩ : ∃ n2 : Int → Hp → Prop, (∀ s' H', n2 s' H' → b8E s' H' ∧ b1M s' < b1M a5p) ∧ E3 x0 x1 (x0.n : Int) a5p H n2 K := ⟨_, fun _ _ h => h, d5E a5p H (fun s' H' => b8E s' H' ∧ b1M s' < b1M a5p) b4t (fun _ _ a b => ⟨a, b⟩)⟩
  unfold d2O
  unfold E3 at h
  refine a7 (r8 _ _ _ _ _ _) ?_
  refine g9 (fun a0K => ?_) (fun a0K => ?_)
  ·replace h := h.1 a0K
   refine a9L I fun w_1 I_2 => ?_
   obtain ⟨h_6, h_7, x_3, h_9, h⟩ := h
   obtain ⟨g_4, o_5, h_8, h_9⟩ := h_9
   refine D5 (a3u h_8 _ _ _ _ h_6 h_7) ?_
   obtain ⟨c5f, d5F, a8X, b1L, h⟩ := h
   obtain ⟨g2G, g2H, d5G, b1L⟩ := b1L
   refine D5 (a3u d5G _ _ _ _ c5f d5F) ?_
   refine a1b (ldA (vs := (p7 x_3)) Tryd.isAgg67 Tryd.sizeOf67 rfl (I_2.atH h_9)) ?_
   refine a1b (ldA (vs := (p7 a8X)) Tryd.isAgg67 Tryd.sizeOf67 rfl (I_2.atH b1L)) ?_
   refine D5 (d4K _ _ _ _ _ _) ?_
   refine a2H (fun a3A => ?_) (fun a3A => ?_)
   ·replace h := h.1 a3A
    exact hR false H _ I_2 h
   ·replace h := h.2 a3A
    refine a7 (q8 _ _ _ _ _ _) ?_
    exact hn2 _ _ _ (hm2 _ _ h).2 ⟨(IntKind.wrap .i64 (a5p + 1)), H, rfl, rfl, I_2, (hm2 _ _ h).1⟩
  ·replace h := h.2 a0K
   exact hx1 _ _ (hj1 H _ I h)
theorem a3W (x0 : Sl) (x1 : Sl) {H : Hp} {K : Bool → Hp → Prop} (h : G3 x0 x1 H K) : B9 x0 x1 H K := by
 intro w I
 refine e4m ?_
 refine a3Q x0 x1 I (fun r0 H' w' I' hk => ⟨H', _, I', r0, rfl, rfl, hk⟩) h
def a2s (x0 : k4) (x1 : k4) (H : Hp) (K : Bool → Hp → Prop) : Prop :=
 TG (((decide (x0.b9 = x1.b9)) && (decide (x0.fOp = x1.fOp))) = true) (j8 x0.f9 x1.f9 H) false H (fun (y6 : Bool) (Q0 : Hp) =>
 TG ((((decide (x0.b9 = x1.b9)) && (decide (x0.fOp = x1.fOp))) && y6) = true) (h8 x0.o5 x1.o5 Q0) false Q0 (fun (D7 : Bool) (Q4 : Hp) =>
 K ((((decide (x0.b9 = x1.b9)) && (decide (x0.fOp = x1.fOp))) && y6) && D7) Q4))
theorem b2t (x0 : k4) (x1 : k4) {w0 w : World} {ps0 : Nat → Prop} {H0 H : Hp} {K : Bool → Hp → Prop} {R : Value → World → Prop} {E : Pan} (I : Inv w0 ps0 H0 H [] w) (hR : ∀ (r0 : Bool) (H' : Hp) (w' : World) (_ : Inv w0 ps0 H0 H' [] w') (_ : K r0 H'), R (Value.bool r0) w') (h : a2s x0 x1 H K) : F86 (Value.agg (f7 x0).toArray) (Value.agg (f7 x1).toArray) w R E := by
 unfold a2s at h
 unfold F86
 refine G7 I (cs := (f7 x0)) rfl fun g_2 w_3 I_4 k_5 => ?_
 refine G7 I_4 (cs := (f7 x1)) rfl fun g_7 w_8 I_9 b6z => ?_
 refine a7 a6a ?_
 refine c7 (ld1 Tryd.isAgg3 ((I_9.bring 1).at1 (o := 0) (vs := [(vi x0.b9)]) (nb rfl) rfl)) ?_
 refine a7 a6a ?_
 refine c7 (ld1 Tryd.isAgg3 (I_9.at1 (o := 0) (vs := [(vi x1.b9)]) (nb rfl) rfl)) ?_
 refine a7 (d6 _ _ _ _ _ _) ?_
 refine a7 (Pu.g fun hb => by have a6 := hb; first | exact P3 | (simp only [b7 a6, a8 a6, a8 hb, l9 a6]; exact P3) | (simp only [b7 a6, a8 a6, a8 hb, c9 a6, d9]; exact P3)) ?_
 refine c7 (Ld.g fun hb => by have a6 := hb; first | exact (ld1 Tryd.isAgg3 ((I_9.bring 1).at1 (o := 1) (vs := [(vi x0.fOp)]) (nb rfl) rfl)) | (simp only [a8 a6]; exact (ld1 Tryd.isAgg3 ((I_9.bring 1).at1 (o := 1) (vs := [(vi x0.fOp)]) (nb rfl) rfl))) | (simp only [b7 a6, a8 a6, a8 hb, c9 a6, d9]; exact (ld1 Tryd.isAgg3 ((I_9.bring 1).at1 (o := 1) (vs := [(vi x0.fOp)]) (nb rfl) rfl)))) ?_
 refine a7 (Pu.g fun hb => by have a6 := hb; first | exact P3 | (simp only [b7 a6, a8 a6, a8 hb, l9 a6]; exact P3) | (simp only [b7 a6, a8 a6, a8 hb, c9 a6, d9]; exact P3)) ?_
 refine c7 (Ld.g fun hb => by have a6 := hb; first | exact (ld1 Tryd.isAgg3 (I_9.at1 (o := 1) (vs := [(vi x1.fOp)]) (nb rfl) rfl)) | (simp only [a8 a6]; exact (ld1 Tryd.isAgg3 (I_9.at1 (o := 1) (vs := [(vi x1.fOp)]) (nb rfl) rfl))) | (simp only [b7 a6, a8 a6, a8 hb, c9 a6, d9]; exact (ld1 Tryd.isAgg3 (I_9.at1 (o := 1) (vs := [(vi x1.fOp)]) (nb rfl) rfl)))) ?_
 refine a7 (Pu.g fun hb => by have a6 := hb; first | exact (d6 _ _ _ _ _ _) | (simp only [a8 a6]; exact (d6 _ _ _ _ _ _)) | (simp only [b7 a6, a8 a6, a8 hb, c9 a6, d9]; exact (d6 _ _ _ _ _ _))) ?_
 refine a7 (k7 _ _) ?_
 refine a7 (Pu.g fun hb => by have a6 := hb; first | exact M8 | (simp only [b7 a6, a8 a6, a8 hb, l9 a6]; exact M8) | (simp only [b7 a6, a8 a6, a8 hb, c9 a6, d9]; exact M8)) ?_
 refine c7 (Ld.g fun hb => by have a6 := hb; first | exact (ld1 Tryd.isAgg28 ((I_9.bring 1).at1 (o := 2) (vs := [(vs x0.f9)]) (nb rfl) rfl)) | (simp only [a8 a6]; exact (ld1 Tryd.isAgg28 ((I_9.bring 1).at1 (o := 2) (vs := [(vs x0.f9)]) (nb rfl) rfl))) | (simp only [b7 a6, a8 a6, a8 hb, c9 a6, d9]; exact (ld1 Tryd.isAgg28 ((I_9.bring 1).at1 (o := 2) (vs := [(vs x0.f9)]) (nb rfl) rfl)))) ?_
 refine a7 (Pu.g fun hb => by have a6 := hb; first | exact M8 | (simp only [b7 a6, a8 a6, a8 hb, l9 a6]; exact M8) | (simp only [b7 a6, a8 a6, a8 hb, c9 a6, d9]; exact M8)) ?_
 refine c7 (Ld.g fun hb => by have a6 := hb; first | exact (ld1 Tryd.isAgg28 (I_9.at1 (o := 2) (vs := [(vs x1.f9)]) (nb rfl) rfl)) | (simp only [a8 a6]; exact (ld1 Tryd.isAgg28 (I_9.at1 (o := 2) (vs := [(vs x1.f9)]) (nb rfl) rfl))) | (simp only [b7 a6, a8 a6, a8 hb, c9 a6, d9]; exact (ld1 Tryd.isAgg28 (I_9.at1 (o := 2) (vs := [(vs x1.f9)]) (nb rfl) rfl)))) ?_
 refine L2 (D := fun a9O k6 => ∃ (y6 : Bool) (Q0 : Hp) , a9O = (gv ((decide (x0.b9 = x1.b9)) && (decide (x0.fOp = x1.fOp))) true (Value.bool y6)) ∧ (Inv w0 ps0 H0 Q0 [bx g_7 33 (f7 x1), bx g_2 33 (f7 x0)] k6) ∧ (∀ i, i < w_8.heap.size → ¬ inF [] i → k6.heap[i]? = w_8.heap[i]?) ∧ Hle H Q0 ∧ (TG ((((decide (x0.b9 = x1.b9)) && (decide (x0.fOp = x1.fOp))) && y6) = true) (h8 x0.o5 x1.o5 Q0) false Q0 (fun (D7 : Bool) (Q4 : Hp) =>
 K ((((decide (x0.b9 = x1.b9)) && (decide (x0.fOp = x1.fOp))) && y6) && D7) Q4))) (fun c1I => ?_) (fun c1I => ?_) ?_
 ·replace h := h.1 c1I
  have a6 := c1I
  try simp only [a8 a6]
  refine f8 (cap := []) (fun args w => Tryd.call83 args w) ?_
  refine i6 (Fi := []) (Fr := [bx g_7 33 (f7 x1), bx g_2 33 (f7 x0)]) I_9 (h) (fun a9O Q0 d5a k6 a0L b1q b4m b8j => ?_) (fun _ _ _ _ _ q => q.elim)
  obtain ⟨y6, rfl, rfl, h⟩ := b8j
  exact ⟨y6, Q0, by first | rfl | rw [a8 c1I], a0L, b4m, b1q, h⟩
 ·exact ⟨false, H, by first | rfl | rw [a0E c1I], I_9, fun _ _ _ => rfl, Hle.refl _, h.2 c1I⟩
 ·clear h
  rintro a9O k6 ⟨y6, Q0, rfl, a0L, b4m, b1q, h⟩
  refine a7 (k7 _ _) ?_
  refine a7 (Pu.g fun hb => by have a6 := hb; first | exact M9 | (simp only [b7 a6, a8 a6, a8 hb, l9 a6]; exact M9) | (simp only [b7 a6, a8 a6, a8 hb, c9 a6, d9]; exact M9)) ?_
  refine c7 (Ld.g fun hb => by have a6 := hb; first | exact (ld1 Tryd.isAgg31 ((a0L.bring 1).at1 (o := 3) (vs := [(vs x0.o5)]) (nb rfl) rfl)) | (simp only [a8 a6]; exact (ld1 Tryd.isAgg31 ((a0L.bring 1).at1 (o := 3) (vs := [(vs x0.o5)]) (nb rfl) rfl))) | (simp only [b7 a6, a8 a6, a8 hb, c9 a6, d9]; exact (ld1 Tryd.isAgg31 ((a0L.bring 1).at1 (o := 3) (vs := [(vs x0.o5)]) (nb rfl) rfl)))) ?_
  refine a7 (Pu.g fun hb => by have a6 := hb; first | exact M9 | (simp only [b7 a6, a8 a6, a8 hb, l9 a6]; exact M9) | (simp only [b7 a6, a8 a6, a8 hb, c9 a6, d9]; exact M9)) ?_
  refine c7 (Ld.g fun hb => by have a6 := hb; first | exact (ld1 Tryd.isAgg31 (a0L.at1 (o := 3) (vs := [(vs x1.o5)]) (nb rfl) rfl)) | (simp only [a8 a6]; exact (ld1 Tryd.isAgg31 (a0L.at1 (o := 3) (vs := [(vs x1.o5)]) (nb rfl) rfl))) | (simp only [b7 a6, a8 a6, a8 hb, c9 a6, d9]; exact (ld1 Tryd.isAgg31 (a0L.at1 (o := 3) (vs := [(vs x1.o5)]) (nb rfl) rfl)))) ?_
  refine L2 (D := fun b1N a0q => ∃ (D7 : Bool) (Q4 : Hp) , b1N = (gv (((decide (x0.b9 = x1.b9)) && (decide (x0.fOp = x1.fOp))) && y6) true (Value.bool D7)) ∧ (Inv w0 ps0 H0 Q4 [bx g_7 33 (f7 x1), bx g_2 33 (f7 x0)] a0q) ∧ (∀ i, i < k6.heap.size → ¬ inF [] i → a0q.heap[i]? = k6.heap[i]?) ∧ Hle Q0 Q4 ∧ (K ((((decide (x0.b9 = x1.b9)) && (decide (x0.fOp = x1.fOp))) && y6) && D7) Q4)) (fun c1J => ?_) (fun c1J => ?_) ?_
  ·replace h := h.1 c1J
   have a6 := c1J
   try simp only [a8 a6]
   refine f8 (cap := []) (fun args w => Tryd.call85 args w) ?_
   refine i6 (Fi := []) (Fr := [bx g_7 33 (f7 x1), bx g_2 33 (f7 x0)]) a0L (h) (fun b1N Q4 f1p a0q a1Y a6p b4H c5g => ?_) (fun _ _ _ _ _ q => q.elim)
   obtain ⟨D7, rfl, rfl, h⟩ := c5g
   exact ⟨D7, Q4, by first | rfl | rw [a8 c1J], a1Y, b4H, a6p, h⟩
  ·exact ⟨false, Q0, by first | rfl | rw [a0E c1J], a0L, fun _ _ _ => rfl, Hle.refl _, h.2 c1J⟩
  ·clear h
   rintro b1N a0q ⟨D7, Q4, rfl, a1Y, b4H, a6p, h⟩
   refine a7 (k7 _ _) ?_
   exact hR ((((decide (x0.b9 = x1.b9)) && (decide (x0.fOp = x1.fOp))) && y6) && D7) Q4 _ a1Y.drop.drop h
theorem b2Z (x0 : k4) (x1 : k4) {H : Hp} {K : Bool → Hp → Prop} (h : a2s x0 x1 H K) : a2o x0 x1 H K := by
 intro w I
 refine e6d ?_
 refine b2t x0 x1 I (fun r0 H' w' I' hk => ⟨H', _, I', r0, rfl, rfl, hk⟩) h
def Q8 (g2I : Int) (cr_1l1 : h9) (a7b : Int) (a4j : b8) (H : Hp) (n1 : (Int × b8) → Hp → Prop) (K : b8 → Hp → Prop) : Prop :=
 (((decide (a7b < (cr_1l1.t1.n : Int))) && (decide (a4j.fbad = 0))) = true →
 (0 : Int) ≤ a7b ∧ (a7b : Int) < cr_1l1.t1.n ∧ ∃ c9M : h9, EltH H cr_1l1.t1 a7b 4 (f4 c9M) ∧
 O2 a4j c9M (IntKind.wrap .i64 (g2I + 1)) H (fun (c9N : b8) (a8c : Hp) =>
 n1 ((IntKind.wrap .i64 (a7b + 1)), c9N) a8c)) ∧
 (((decide (a7b < (cr_1l1.t1.n : Int))) && (decide (a4j.fbad = 0))) = false →
 K a4j H)
def W8 (x0 : b8) (x1 : h9) (x2 : Int) (H : Hp) (K : b8 → Hp → Prop) : Prop :=
 K4 x0 x2 H (fun (o0 : Bool) (L1 : b8) (H_6 : Hp) =>
 ((!o0) = true →
 K L1 H_6) ∧
 ((!o0) = false →
 TL ((0, L1) : Int × b8) H_6 fun (s : Int × b8) H n1 => Q8 x2 x1 s.1 s.2 H n1 K))
theorem a8d (x0 : b8) (x1 : h9) (x2 : Int) (g0 : Nat) {w0 w : World} {ps0 : Nat → Prop} {H0 H : Hp} {K : b8 → Hp → Prop} {R : Value → World → Prop} {E : Pan} (I : Inv w0 ps0 H0 H [bx g0 99 (f5 x0)] w) (hR : ∀ (y0 : b8) (H' : Hp) (w' : World) (_ : Inv w0 ps0 H0 H' [bx g0 99 (f5 y0)] w') (_ : K y0 H'), R (Value.tuple #[]) w') (h : W8 x0 x1 x2 H K) : F58 (Value.pointer (some ⟨g0, 0, none⟩)) (Value.agg (f4 x1).toArray) (vi x2) w R E := by
 unfold W8 at h
 unfold F58
 refine G7 I (cs := (f4 x1)) rfl fun g_2 w_3 I_4 k_5 => ?_
 refine f8 (cap := []) (fun args w => Tryd.call91 args w) ?_
 refine i6 (Fi := [bx g0 99 (f5 x0)]) (Fr := [bx g_2 30 (f4 x1)]) (I_4.bring 1) (h g0) (fun a6Q H_6 a6q w_7 I_8 a6R k_9 a0J => ?_) (fun _ _ _ _ _ q => q.elim)
 obtain ⟨o0, L1, rfl, rfl, h⟩ := a0J
 refine a7 (I7 _) ?_
 refine k9 (fun b8F => ?_) (fun b8F => ?_)
 ·replace h := h.1 b8F
  exact hR L1 H_6 _ (I_8.bring 1).drop h
 ·replace h := h.2 b8F
  obtain ⟨d5H, c5h, g2J, g2K⟩ := h
  refine v6 (J := fun n l w => ∃ (s : Int × b8) (H : Hp) , n = c5h s ∧ l = (match s with | (a7b, a4j) => [(vi a7b)]) ∧ (match s with | (a7b, a4j) => Inv w0 ps0 H0 H [bx g0 99 (f5 a4j), bx g_2 30 (f4 x1)] w) ∧ d5H s H) ⟨_, (0, L1), H_6, rfl, rfl, ((I_8.bring 1).bring 1), g2J⟩ ?_
  rintro g7m τ_62 w next1 ⟨⟨a7b, a4j⟩, H, rfl, c9O, I, g2L⟩ hn1
  dsimp only at c9O I
  simp only [List.map_cons, List.map_nil, List.cons.injEq, and_true] at c9O
  have e6 := c9O
  simp only [e6]
  obtain ⟨n1, hm1, h⟩ : ∃ n1 : (Int × b8) → Hp → Prop, (∀ s' H', n1 s' H' → d5H s' H' ∧ c5h s' < c5h (a7b, a4j)) ∧ Q8 x2 x1 a7b a4j H n1 K := ⟨_, fun _ _ h => h, g2K (a7b, a4j) H (fun s' H' => d5H s' H' ∧ c5h s' < c5h (a7b, a4j)) g2L (fun _ _ a b => ⟨a, b⟩)⟩
  unfold d2S
  unfold Q8 at h
  refine a7 M6 ?_
  refine c7 (ld1 Tryd.isAgg28 ((I.bring 1).at1 (o := 3) (vs := [(vs x1.t1)]) (nb rfl) rfl)) ?_
  refine a7 (F5 _ _ _) ?_
  refine a7 (r8 _ _ _ _ _ _) ?_
  try simp only [m9]
  refine a7 (Pu.g fun hb => by have a6 := hb; first | exact (i7 _) | (simp only [a8 a6]; exact (i7 _)) | (simp only [b7 a6, a8 a6, a8 hb, c9 a6, d9]; exact (i7 _))) ?_
  refine a7 (Pu.g fun hb => by have a6 := hb; first | exact u5 | (simp only [a8 a6]; exact u5) | (simp only [b7 a6, a8 a6, a8 hb, c9 a6, d9]; exact u5)) ?_
  refine c7 (Ld.g fun hb => by have a6 := hb; first | exact (ld1 Tryd.isAgg3 (I.at1 (o := 2) (vs := [(vi a4j.fbad)]) (nb rfl) rfl)) | (simp only [a8 a6]; exact (ld1 Tryd.isAgg3 (I.at1 (o := 2) (vs := [(vi a4j.fbad)]) (nb rfl) rfl))) | (simp only [b7 a6, a8 a6, a8 hb, c9 a6, d9]; exact (ld1 Tryd.isAgg3 (I.at1 (o := 2) (vs := [(vi a4j.fbad)]) (nb rfl) rfl)))) ?_
  refine a7 (Pu.g fun hb => by have a6 := hb; first | exact (d6 _ _ _ _ _ _) | (simp only [a8 a6]; exact (d6 _ _ _ _ _ _)) | (simp only [b7 a6, a8 a6, a8 hb, c9 a6, d9]; exact (d6 _ _ _ _ _ _))) ?_
  refine a7 (k7 _ _) ?_
  refine k9 (fun d5I => ?_) (fun d5I => ?_)
  ·replace h := h.1 d5I
   refine a7 M6 ?_
   refine c7 (ld1 Tryd.isAgg28 ((I.bring 1).at1 (o := 3) (vs := [(vs x1.t1)]) (nb rfl) rfl)) ?_
   obtain ⟨b1C, d5o, c9M, c5i, h⟩ := h
   obtain ⟨g7n, g7o, g2M, c5i⟩ := c5i
   refine a7 (a2O g2M _ _ _ _ b1C d5o) ?_
   refine c7 (ldA (vs := (f4 c9M)) Tryd.isAgg30 Tryd.sizeOf30 rfl (I.atH c5i)) ?_
   refine a7 (q8 _ _ _ _ _ _) ?_
   refine f8 (cap := []) (fun args w => Tryd.call58 args w) ?_
   refine i6 (Fi := [bx g0 99 (f5 a4j)]) (Fr := [bx g_2 30 (f4 x1)]) I (h g0) (fun g2N a8c g2O I8 c5j c5k f1q d5J => ?_) (fun _ _ _ _ _ q => q.elim)
   obtain ⟨c9N, rfl, rfl, h⟩ := d5J
   refine a7 (q8 _ _ _ _ _ _) ?_
   exact hn1 _ _ _ (hm1 _ _ h).2 ⟨((IntKind.wrap .i64 (a7b + 1)), c9N), a8c, rfl, rfl, ((c5j.bring 1).bring 1), (hm1 _ _ h).1⟩
  ·replace h := h.2 d5I
   exact hR a4j H _ (I.bring 1).drop h
theorem a8w (x0 : b8) (x1 : h9) (x2 : Int) {H : Hp} {K : b8 → Hp → Prop} (h : W8 x0 x1 x2 H K) : O2 x0 x1 x2 H K := by
 intro g0 w I
 refine e4V ?_
 refine a8d x0 x1 x2 g0 I (fun y0 H' w' I' hk => ⟨H', _, I', y0, rfl, rfl, hk⟩) h
def Q9 (g2P : Int) (cr_1l4 : i4) (a5n : Int) (N3 : b8) (H : Hp) (n4 : (Int × b8) → Hp → Prop) (K : b8 → Hp → Prop) : Prop :=
 (((decide (a5n < (cr_1l4.s7.n : Int))) && (decide (N3.fbad = 0))) = true →
 (0 : Int) ≤ a5n ∧ (a5n : Int) < cr_1l4.s7.n ∧ ∃ c9P : i4, EltH H cr_1l4.s7 a5n 6 (d5 c9P) ∧
 O3 N3 c9P (IntKind.wrap .i64 (g2P + 1)) H (fun (c5l : b8) (d5K : Hp) =>
 n4 ((IntKind.wrap .i64 (a5n + 1)), c5l) d5K)) ∧
 (((decide (a5n < (cr_1l4.s7.n : Int))) && (decide (N3.fbad = 0))) = false →
 K N3 H)
def R0 (g2Q : Int) (a0R : b8) (cr_1j3 : i4) (H : Hp) (K : b8 → Hp → Prop) : Prop :=
 TL ((0, a0R) : Int × b8) H fun (s : Int × b8) H n4 => Q9 g2Q cr_1j3 s.1 s.2 H n4 K
def R1 (f1r : Int) (cr_1l5 : i4) (a7c : Int) (C0 : b8) (H : Hp) (n5 : (Int × b8) → Hp → Prop) (K : b8 → Hp → Prop) : Prop :=
 (((decide (a7c < (cr_1l5.u0.n : Int))) && (decide (C0.fbad = 0))) = true →
 (0 : Int) ≤ a7c ∧ (a7c : Int) < cr_1l5.u0.n ∧ ∃ c2Z : i4, EltH H cr_1l5.u0 a7c 6 (d5 c2Z) ∧
 O3 C0 c2Z (IntKind.wrap .i64 (f1r + 1)) H (fun (c5m : b8) (c9Q : Hp) =>
 n5 ((IntKind.wrap .i64 (a7c + 1)), c5m) c9Q)) ∧
 (((decide (a7c < (cr_1l5.u0.n : Int))) && (decide (C0.fbad = 0))) = false →
 R0 f1r C0 cr_1l5 H K)
def R2 (g2R : Int) (a4F : b8) (cr_1j2 : i4) (H : Hp) (K : b8 → Hp → Prop) : Prop :=
 TL ((0, a4F) : Int × b8) H fun (s : Int × b8) H n5 => R1 g2R cr_1j2 s.1 s.2 H n5 K
def R3 (f1s : Int) (cr_1l6 : i4) (a7d : Int) (N4 : b8) (H : Hp) (n6 : (Int × b8) → Hp → Prop) (K : b8 → Hp → Prop) : Prop :=
 (((decide (a7d < (cr_1l6.f9.n : Int))) && (decide (N4.fbad = 0))) = true →
 (0 : Int) ≤ a7d ∧ (a7d : Int) < cr_1l6.f9.n ∧ ∃ c3a : h9, EltH H cr_1l6.f9 a7d 4 (f4 c3a) ∧
 O2 N4 c3a (IntKind.wrap .i64 (f1s + 1)) H (fun (c5n : b8) (c9R : Hp) =>
 n6 ((IntKind.wrap .i64 (a7d + 1)), c5n) c9R)) ∧
 (((decide (a7d < (cr_1l6.f9.n : Int))) && (decide (N4.fbad = 0))) = false →
 R2 f1s N4 cr_1l6 H K)
def R4 (b3a : Int) (J1 : b8) (cr_1j1 : i4) (H : Hp) (K : b8 → Hp → Prop) : Prop :=
 TL ((0, J1) : Int × b8) H fun (s : Int × b8) H n6 => R3 b3a cr_1j1 s.1 s.2 H n6 K
def R5 (f1t : Int) (cr_1l7 : i4) (a7e : Int) (N5 : b8) (H : Hp) (n7 : (Int × b8) → Hp → Prop) (K : b8 → Hp → Prop) : Prop :=
 (((decide (a7e < (cr_1l7.k3.n : Int))) && (decide (N5.fbad = 0))) = true →
 (0 : Int) ≤ a7e ∧ (a7e : Int) < cr_1l7.k3.n ∧ ∃ c3b : k4, EltH H cr_1l7.k3 a7e 4 (f7 c3b) ∧
 W6 N5 c3b (IntKind.wrap .i64 (f1t + 1)) H (fun (c5o : b8) (c9S : Hp) =>
 n7 ((IntKind.wrap .i64 (a7e + 1)), c5o) c9S)) ∧
 (((decide (a7e < (cr_1l7.k3.n : Int))) && (decide (N5.fbad = 0))) = false →
 R4 f1t N5 cr_1l7 H K)
def W9 (x0 : b8) (x1 : i4) (x2 : Int) (H : Hp) (K : b8 → Hp → Prop) : Prop :=
 K4 x0 x2 H (fun (o0 : Bool) (L1 : b8) (H_6 : Hp) =>
 ((!o0) = true →
 K L1 H_6) ∧
 ((!o0) = false →
 TL ((0, L1) : Int × b8) H_6 fun (s : Int × b8) H n7 => R5 x2 x1 s.1 s.2 H n7 K))
theorem a8e (x0 : b8) (x1 : i4) (x2 : Int) (g0 : Nat) {w0 w : World} {ps0 : Nat → Prop} {H0 H : Hp} {K : b8 → Hp → Prop} {R : Value → World → Prop} {E : Pan} (I : Inv w0 ps0 H0 H [bx g0 99 (f5 x0)] w) (hR : ∀ (y0 : b8) (H' : Hp) (w' : World) (_ : Inv w0 ps0 H0 H' [bx g0 99 (f5 y0)] w') (_ : K y0 H'), R (Value.tuple #[]) w') (h : W9 x0 x1 x2 H K) : F92 (Value.pointer (some ⟨g0, 0, none⟩)) (Value.agg (d5 x1).toArray) (vi x2) w R E := by
 unfold W9 at h
 unfold F92
 refine G7 I (cs := (d5 x1)) rfl fun g_2 w_3 I_4 k_5 => ?_
 refine f8 (cap := []) (fun args w => Tryd.call91 args w) ?_
 refine i6 (Fi := [bx g0 99 (f5 x0)]) (Fr := [bx g_2 88 (d5 x1)]) (I_4.bring 1) (h g0) (fun a6Q H_6 a6q w_7 I_8 a6R k_9 a0J => ?_) (fun _ _ _ _ _ q => q.elim)
 obtain ⟨o0, L1, rfl, rfl, h⟩ := a0J
 refine a7 (I7 _) ?_
 refine k9 (fun c9T => ?_) (fun c9T => ?_)
 ·replace h := h.1 c9T
  exact hR L1 H_6 _ (I_8.bring 1).drop h
 ·replace h := h.2 c9T
  have hj1 : ∀ (J1 : b8) (H : Hp) (w : World) (_ : Inv w0 ps0 H0 H [bx g0 99 (f5 J1), bx g_2 88 (d5 x1)] w) (_ : R4 x2 J1 x1 H K), c4n (Value.pointer (some ⟨g0, 0, none⟩)) (vi x2) (Value.pointer (some ⟨g_2, 0, none⟩)) w R E := by
   intro J1 H w I h
   unfold c4n
   intro _
   unfold R4 at h
   have hj2 : ∀ (a4F : b8) (H : Hp) (w : World) (_ : Inv w0 ps0 H0 H [bx g0 99 (f5 a4F), bx g_2 88 (d5 x1)] w) (_ : R2 x2 a4F x1 H K), c4l (Value.pointer (some ⟨g0, 0, none⟩)) (vi x2) (Value.pointer (some ⟨g_2, 0, none⟩)) w R E := by
    intro a4F H w I h
    unfold c4l
    intro _
    unfold R2 at h
    have hj3 : ∀ (a0R : b8) (H : Hp) (w : World) (_ : Inv w0 ps0 H0 H [bx g0 99 (f5 a0R), bx g_2 88 (d5 x1)] w) (_ : R0 x2 a0R x1 H K), c4k (Value.pointer (some ⟨g0, 0, none⟩)) (vi x2) (Value.pointer (some ⟨g_2, 0, none⟩)) w R E := by
     intro a0R H w I h
     unfold c4k
     intro _
     unfold R0 at h
     obtain ⟨c9U, b9X, f8F, f8G⟩ := h
     refine v6 (J := fun n l w => ∃ (s : Int × b8) (H : Hp) , n = b9X s ∧ l = (match s with | (a5n, N3) => [(vi a5n)]) ∧ (match s with | (a5n, N3) => Inv w0 ps0 H0 H [bx g0 99 (f5 N3), bx g_2 88 (d5 x1)] w) ∧ c9U s H) ⟨_, (0, a0R), H, rfl, rfl, ((I.bring 1).bring 1), f8F⟩ ?_
     rintro g5x τ_110 w next4 ⟨⟨a5n, N3⟩, H, rfl, b9Y, I, f8H⟩ hn4
     dsimp only at b9Y I
     simp only [List.map_cons, List.map_nil, List.cons.injEq, and_true] at b9Y
     have e9 := b9Y
     simp only [e9]
     obtain ⟨n4, hm4, h⟩ : ∃ n4 : (Int × b8) → Hp → Prop, (∀ s' H', n4 s' H' → c9U s' H' ∧ b9X s' < b9X (a5n, N3)) ∧ Q9 x2 x1 a5n N3 H n4 K := ⟨_, fun _ _ h => h, f8G (a5n, N3) H (fun s' H' => c9U s' H' ∧ b9X s' < b9X (a5n, N3)) f8H (fun _ _ a b => ⟨a, b⟩)⟩
     unfold d3b
     unfold Q9 at h
     refine a7 K5 ?_
     refine c7 (ld1 Tryd.isAgg23 ((I.bring 1).at1 (o := 5) (vs := [(vs x1.s7)]) (nb rfl) rfl)) ?_
     refine a7 (K2 _ _ _) ?_
     refine a7 (r8 _ _ _ _ _ _) ?_
     try simp only [m9]
     refine a7 (Pu.g fun hb => by have a6 := hb; first | exact (i7 _) | (simp only [a8 a6]; exact (i7 _)) | (simp only [b7 a6, a8 a6, a8 hb, c9 a6, d9]; exact (i7 _))) ?_
     refine a7 (Pu.g fun hb => by have a6 := hb; first | exact u5 | (simp only [a8 a6]; exact u5) | (simp only [b7 a6, a8 a6, a8 hb, c9 a6, d9]; exact u5)) ?_
     refine c7 (Ld.g fun hb => by have a6 := hb; first | exact (ld1 Tryd.isAgg3 (I.at1 (o := 2) (vs := [(vi N3.fbad)]) (nb rfl) rfl)) | (simp only [a8 a6]; exact (ld1 Tryd.isAgg3 (I.at1 (o := 2) (vs := [(vi N3.fbad)]) (nb rfl) rfl))) | (simp only [b7 a6, a8 a6, a8 hb, c9 a6, d9]; exact (ld1 Tryd.isAgg3 (I.at1 (o := 2) (vs := [(vi N3.fbad)]) (nb rfl) rfl)))) ?_
     refine a7 (Pu.g fun hb => by have a6 := hb; first | exact (d6 _ _ _ _ _ _) | (simp only [a8 a6]; exact (d6 _ _ _ _ _ _)) | (simp only [b7 a6, a8 a6, a8 hb, c9 a6, d9]; exact (d6 _ _ _ _ _ _))) ?_
     refine a7 (k7 _ _) ?_
     refine k9 (fun c9V => ?_) (fun c9V => ?_)
     ·replace h := h.1 c9V
      refine a7 K5 ?_
      refine c7 (ld1 Tryd.isAgg23 ((I.bring 1).at1 (o := 5) (vs := [(vs x1.s7)]) (nb rfl) rfl)) ?_
      obtain ⟨g2S, g2T, c9P, b8G, h⟩ := h
      obtain ⟨g7p, g7q, d5L, b8G⟩ := b8G
      refine a7 (a4q d5L _ _ _ _ g2S g2T) ?_
      refine c7 (ldA (vs := (d5 c9P)) Tryd.isAgg88 Tryd.sizeOf88 rfl (I.atH b8G)) ?_
      refine a7 (q8 _ _ _ _ _ _) ?_
      refine f8 (cap := []) (fun args w => Tryd.call92 args w) ?_
      refine i6 (Fi := [bx g0 99 (f5 N3)]) (Fr := [bx g_2 88 (d5 x1)]) I (h g0) (fun g7r d5K g5y a3R g2U g5z g7s f8I => ?_) (fun _ _ _ _ _ q => q.elim)
      obtain ⟨c5l, rfl, rfl, h⟩ := f8I
      refine a7 (q8 _ _ _ _ _ _) ?_
      exact hn4 _ _ _ (hm4 _ _ h).2 ⟨((IntKind.wrap .i64 (a5n + 1)), c5l), d5K, rfl, rfl, ((g2U.bring 1).bring 1), (hm4 _ _ h).1⟩
     ·replace h := h.2 c9V
      exact hR N3 H _ (I.bring 1).drop h
    refine p9 fun j3 hx3 => ?_
    obtain ⟨c9W, b9Z, f8J, f8K⟩ := h
    refine v6 (J := fun n l w => ∃ (s : Int × b8) (H : Hp) , n = b9Z s ∧ l = (match s with | (a7c, C0) => [(vi a7c)]) ∧ (match s with | (a7c, C0) => Inv w0 ps0 H0 H [bx g0 99 (f5 C0), bx g_2 88 (d5 x1)] w) ∧ c9W s H) ⟨_, (0, a4F), H, rfl, rfl, ((I.bring 1).bring 1), f8J⟩ ?_
    rintro g5A τ_144 w next5 ⟨⟨a7c, C0⟩, H, rfl, c9X, I, f8L⟩ hn5
    dsimp only at c9X I
    simp only [List.map_cons, List.map_nil, List.cons.injEq, and_true] at c9X
    have e8 := c9X
    simp only [e8]
    obtain ⟨n5, hm5, h⟩ : ∃ n5 : (Int × b8) → Hp → Prop, (∀ s' H', n5 s' H' → c9W s' H' ∧ b9Z s' < b9Z (a7c, C0)) ∧ R1 x2 x1 a7c C0 H n5 K := ⟨_, fun _ _ h => h, f8K (a7c, C0) H (fun s' H' => c9W s' H' ∧ b9Z s' < b9Z (a7c, C0)) f8L (fun _ _ a b => ⟨a, b⟩)⟩
    unfold d3c
    unfold R1 at h
    refine a7 P4 ?_
    refine c7 (ld1 Tryd.isAgg23 ((I.bring 1).at1 (o := 4) (vs := [(vs x1.u0)]) (nb rfl) rfl)) ?_
    refine a7 (K2 _ _ _) ?_
    refine a7 (r8 _ _ _ _ _ _) ?_
    try simp only [m9]
    refine a7 (Pu.g fun hb => by have a6 := hb; first | exact (i7 _) | (simp only [a8 a6]; exact (i7 _)) | (simp only [b7 a6, a8 a6, a8 hb, c9 a6, d9]; exact (i7 _))) ?_
    refine a7 (Pu.g fun hb => by have a6 := hb; first | exact u5 | (simp only [a8 a6]; exact u5) | (simp only [b7 a6, a8 a6, a8 hb, c9 a6, d9]; exact u5)) ?_
    refine c7 (Ld.g fun hb => by have a6 := hb; first | exact (ld1 Tryd.isAgg3 (I.at1 (o := 2) (vs := [(vi C0.fbad)]) (nb rfl) rfl)) | (simp only [a8 a6]; exact (ld1 Tryd.isAgg3 (I.at1 (o := 2) (vs := [(vi C0.fbad)]) (nb rfl) rfl))) | (simp only [b7 a6, a8 a6, a8 hb, c9 a6, d9]; exact (ld1 Tryd.isAgg3 (I.at1 (o := 2) (vs := [(vi C0.fbad)]) (nb rfl) rfl)))) ?_
    refine a7 (Pu.g fun hb => by have a6 := hb; first | exact (d6 _ _ _ _ _ _) | (simp only [a8 a6]; exact (d6 _ _ _ _ _ _)) | (simp only [b7 a6, a8 a6, a8 hb, c9 a6, d9]; exact (d6 _ _ _ _ _ _))) ?_
    refine a7 (k7 _ _) ?_
    refine k9 (fun c9Y => ?_) (fun c9Y => ?_)
    ·replace h := h.1 c9Y
     refine a7 P4 ?_
     refine c7 (ld1 Tryd.isAgg23 ((I.bring 1).at1 (o := 4) (vs := [(vs x1.u0)]) (nb rfl) rfl)) ?_
     obtain ⟨f8M, f8N, c2Z, c0a, h⟩ := h
     obtain ⟨g5B, g5C, f8O, c0a⟩ := c0a
     refine a7 (a4q f8O _ _ _ _ f8M f8N) ?_
     refine c7 (ldA (vs := (d5 c2Z)) Tryd.isAgg88 Tryd.sizeOf88 rfl (I.atH c0a)) ?_
     refine a7 (q8 _ _ _ _ _ _) ?_
     refine f8 (cap := []) (fun args w => Tryd.call92 args w) ?_
     refine i6 (Fi := [bx g0 99 (f5 C0)]) (Fr := [bx g_2 88 (d5 x1)]) I (h g0) (fun g5D c9Q g5E a9s f8P g5F g5G f8Q => ?_) (fun _ _ _ _ _ q => q.elim)
     obtain ⟨c5m, rfl, rfl, h⟩ := f8Q
     refine a7 (q8 _ _ _ _ _ _) ?_
     exact hn5 _ _ _ (hm5 _ _ h).2 ⟨((IntKind.wrap .i64 (a7c + 1)), c5m), c9Q, rfl, rfl, ((f8P.bring 1).bring 1), (hm5 _ _ h).1⟩
    ·replace h := h.2 c9Y
     exact hx3 _ _ (hj3 C0 H _ ((I.bring 1).bring 1) h)
   refine p9 fun j2 hx2 => ?_
   obtain ⟨c9Z, c0b, f8R, f8S⟩ := h
   refine v6 (J := fun n l w => ∃ (s : Int × b8) (H : Hp) , n = c0b s ∧ l = (match s with | (a7d, N4) => [(vi a7d)]) ∧ (match s with | (a7d, N4) => Inv w0 ps0 H0 H [bx g0 99 (f5 N4), bx g_2 88 (d5 x1)] w) ∧ c9Z s H) ⟨_, (0, J1), H, rfl, rfl, ((I.bring 1).bring 1), f8R⟩ ?_
   rintro g5H τ_178 w next6 ⟨⟨a7d, N4⟩, H, rfl, d0a, I, f8T⟩ hn6
   dsimp only at d0a I
   simp only [List.map_cons, List.map_nil, List.cons.injEq, and_true] at d0a
   have e7 := d0a
   simp only [e7]
   obtain ⟨n6, hm6, h⟩ : ∃ n6 : (Int × b8) → Hp → Prop, (∀ s' H', n6 s' H' → c9Z s' H' ∧ c0b s' < c0b (a7d, N4)) ∧ R3 x2 x1 a7d N4 H n6 K := ⟨_, fun _ _ h => h, f8S (a7d, N4) H (fun s' H' => c9Z s' H' ∧ c0b s' < c0b (a7d, N4)) f8T (fun _ _ a b => ⟨a, b⟩)⟩
   unfold d3d
   unfold R3 at h
   refine a7 N0 ?_
   refine c7 (ld1 Tryd.isAgg28 ((I.bring 1).at1 (o := 2) (vs := [(vs x1.f9)]) (nb rfl) rfl)) ?_
   refine a7 (F5 _ _ _) ?_
   refine a7 (r8 _ _ _ _ _ _) ?_
   try simp only [m9]
   refine a7 (Pu.g fun hb => by have a6 := hb; first | exact (i7 _) | (simp only [a8 a6]; exact (i7 _)) | (simp only [b7 a6, a8 a6, a8 hb, c9 a6, d9]; exact (i7 _))) ?_
   refine a7 (Pu.g fun hb => by have a6 := hb; first | exact u5 | (simp only [a8 a6]; exact u5) | (simp only [b7 a6, a8 a6, a8 hb, c9 a6, d9]; exact u5)) ?_
   refine c7 (Ld.g fun hb => by have a6 := hb; first | exact (ld1 Tryd.isAgg3 (I.at1 (o := 2) (vs := [(vi N4.fbad)]) (nb rfl) rfl)) | (simp only [a8 a6]; exact (ld1 Tryd.isAgg3 (I.at1 (o := 2) (vs := [(vi N4.fbad)]) (nb rfl) rfl))) | (simp only [b7 a6, a8 a6, a8 hb, c9 a6, d9]; exact (ld1 Tryd.isAgg3 (I.at1 (o := 2) (vs := [(vi N4.fbad)]) (nb rfl) rfl)))) ?_
   refine a7 (Pu.g fun hb => by have a6 := hb; first | exact (d6 _ _ _ _ _ _) | (simp only [a8 a6]; exact (d6 _ _ _ _ _ _)) | (simp only [b7 a6, a8 a6, a8 hb, c9 a6, d9]; exact (d6 _ _ _ _ _ _))) ?_
   refine a7 (k7 _ _) ?_
   refine k9 (fun d0b => ?_) (fun d0b => ?_)
   ·replace h := h.1 d0b
    refine a7 N0 ?_
    refine c7 (ld1 Tryd.isAgg28 ((I.bring 1).at1 (o := 2) (vs := [(vs x1.f9)]) (nb rfl) rfl)) ?_
    obtain ⟨f8U, f8V, c3a, c0c, h⟩ := h
    obtain ⟨g5I, g5J, f8W, c0c⟩ := c0c
    refine a7 (a2O f8W _ _ _ _ f8U f8V) ?_
    refine c7 (ldA (vs := (f4 c3a)) Tryd.isAgg30 Tryd.sizeOf30 rfl (I.atH c0c)) ?_
    refine a7 (q8 _ _ _ _ _ _) ?_
    refine f8 (cap := []) (fun args w => Tryd.call58 args w) ?_
    refine i6 (Fi := [bx g0 99 (f5 N4)]) (Fr := [bx g_2 88 (d5 x1)]) I (h g0) (fun g5K c9R g5L d8S f8X g5M g5N f8Y => ?_) (fun _ _ _ _ _ q => q.elim)
    obtain ⟨c5n, rfl, rfl, h⟩ := f8Y
    refine a7 (q8 _ _ _ _ _ _) ?_
    exact hn6 _ _ _ (hm6 _ _ h).2 ⟨((IntKind.wrap .i64 (a7d + 1)), c5n), c9R, rfl, rfl, ((f8X.bring 1).bring 1), (hm6 _ _ h).1⟩
   ·replace h := h.2 d0b
    exact hx2 _ _ (hj2 N4 H _ ((I.bring 1).bring 1) h)
  refine p9 fun j1 hx1 => ?_
  obtain ⟨d0c, c0d, f8Z, f9a⟩ := h
  refine v6 (J := fun n l w => ∃ (s : Int × b8) (H : Hp) , n = c0d s ∧ l = (match s with | (a7e, N5) => [(vi a7e)]) ∧ (match s with | (a7e, N5) => Inv w0 ps0 H0 H [bx g0 99 (f5 N5), bx g_2 88 (d5 x1)] w) ∧ d0c s H) ⟨_, (0, L1), H_6, rfl, rfl, ((I_8.bring 1).bring 1), f8Z⟩ ?_
  rintro g5O τ_212 w next7 ⟨⟨a7e, N5⟩, H, rfl, d0d, I, f9b⟩ hn7
  dsimp only at d0d I
  simp only [List.map_cons, List.map_nil, List.cons.injEq, and_true] at d0d
  have e6 := d0d
  simp only [e6]
  obtain ⟨n7, hm7, h⟩ : ∃ n7 : (Int × b8) → Hp → Prop, (∀ s' H', n7 s' H' → d0c s' H' ∧ c0d s' < c0d (a7e, N5)) ∧ R5 x2 x1 a7e N5 H n7 K := ⟨_, fun _ _ h => h, f9a (a7e, N5) H (fun s' H' => d0c s' H' ∧ c0d s' < c0d (a7e, N5)) f9b (fun _ _ a b => ⟨a, b⟩)⟩
  unfold d3e
  unfold R5 at h
  refine a7 N1 ?_
  refine c7 (ld1 Tryd.isAgg31 ((I.bring 1).at1 (o := 3) (vs := [(vs x1.k3)]) (nb rfl) rfl)) ?_
  refine a7 (O9 _ _ _) ?_
  refine a7 (r8 _ _ _ _ _ _) ?_
  try simp only [m9]
  refine a7 (Pu.g fun hb => by have a6 := hb; first | exact (i7 _) | (simp only [a8 a6]; exact (i7 _)) | (simp only [b7 a6, a8 a6, a8 hb, c9 a6, d9]; exact (i7 _))) ?_
  refine a7 (Pu.g fun hb => by have a6 := hb; first | exact u5 | (simp only [a8 a6]; exact u5) | (simp only [b7 a6, a8 a6, a8 hb, c9 a6, d9]; exact u5)) ?_
  refine c7 (Ld.g fun hb => by have a6 := hb; first | exact (ld1 Tryd.isAgg3 (I.at1 (o := 2) (vs := [(vi N5.fbad)]) (nb rfl) rfl)) | (simp only [a8 a6]; exact (ld1 Tryd.isAgg3 (I.at1 (o := 2) (vs := [(vi N5.fbad)]) (nb rfl) rfl))) | (simp only [b7 a6, a8 a6, a8 hb, c9 a6, d9]; exact (ld1 Tryd.isAgg3 (I.at1 (o := 2) (vs := [(vi N5.fbad)]) (nb rfl) rfl)))) ?_
  refine a7 (Pu.g fun hb => by have a6 := hb; first | exact (d6 _ _ _ _ _ _) | (simp only [a8 a6]; exact (d6 _ _ _ _ _ _)) | (simp only [b7 a6, a8 a6, a8 hb, c9 a6, d9]; exact (d6 _ _ _ _ _ _))) ?_
  refine a7 (k7 _ _) ?_
  refine k9 (fun d0e => ?_) (fun d0e => ?_)
  ·replace h := h.1 d0e
   refine a7 N1 ?_
   refine c7 (ld1 Tryd.isAgg31 ((I.bring 1).at1 (o := 3) (vs := [(vs x1.k3)]) (nb rfl) rfl)) ?_
   obtain ⟨f9c, f9d, c3b, c0e, h⟩ := h
   obtain ⟨g5P, g5Q, f9e, c0e⟩ := c0e
   refine a7 (a4X f9e _ _ _ _ f9c f9d) ?_
   refine c7 (ldA (vs := (f7 c3b)) Tryd.isAgg33 Tryd.sizeOf33 rfl (I.atH c0e)) ?_
   refine a7 (q8 _ _ _ _ _ _) ?_
   refine f8 (cap := []) (fun args w => Tryd.call61 args w) ?_
   refine i6 (Fi := [bx g0 99 (f5 N5)]) (Fr := [bx g_2 88 (d5 x1)]) I (h g0) (fun g5R c9S g5S d8T f9f g5T g5U f9g => ?_) (fun _ _ _ _ _ q => q.elim)
   obtain ⟨c5o, rfl, rfl, h⟩ := f9g
   refine a7 (q8 _ _ _ _ _ _) ?_
   exact hn7 _ _ _ (hm7 _ _ h).2 ⟨((IntKind.wrap .i64 (a7e + 1)), c5o), c9S, rfl, rfl, ((f9f.bring 1).bring 1), (hm7 _ _ h).1⟩
  ·replace h := h.2 d0e
   exact hx1 _ _ (hj1 N5 H _ ((I.bring 1).bring 1) h)
theorem a8x (x0 : b8) (x1 : i4) (x2 : Int) {H : Hp} {K : b8 → Hp → Prop} (h : W9 x0 x1 x2 H K) : O3 x0 x1 x2 H K := by
 intro g0 w I
 refine e7J ?_
 refine a8e x0 x1 x2 g0 I (fun y0 H' w' I' hk => ⟨H', _, I', y0, rfl, rfl, hk⟩) h
def D2 (g2V : Int) (b7n : Bool) (_cr_1j3 : E0) (H : Hp) (K : Bool → Hp → Prop) : Prop :=
 (b7n = true →
 K (decide (g2V = 2)) H) ∧
 (b7n = false →
 K false H)
def M0 (c1K : Int) (a6f : Int) (b7o : Bool) (cr_1j2 : E0) (H : Hp) (K : Bool → Hp → Prop) : Prop :=
 (b7o = true →
 K (decide (c1K = 1)) H) ∧
 (b7o = false →
 (a6f = 6 →
 D2 c1K (decide (a6f = 6)) cr_1j2 H K) ∧
 (¬ (a6f = 6) →
 (a6f = 7 →
 D2 c1K (decide (a6f = 7)) cr_1j2 H K) ∧
 (¬ (a6f = 7) →
 (a6f = 8 →
 D2 c1K (decide (a6f = 8)) cr_1j2 H K) ∧
 (¬ (a6f = 8) →
 (a6f = 9 →
 D2 c1K (decide (a6f = 9)) cr_1j2 H K) ∧
 (¬ (a6f = 9) →
 D2 c1K (decide (a6f = 10)) cr_1j2 H K)))))
def M1 (a6r : Int) (a6e : Int) (b7p : Bool) (cr_1j1 : E0) (H : Hp) (K : Bool → Hp → Prop) : Prop :=
 (b7p = true →
 K (decide (a6r = 0)) H) ∧
 (b7p = false →
 (a6e = 4 →
 M0 a6r a6e (decide (a6e = 4)) cr_1j1 H K) ∧
 (¬ (a6e = 4) →
 M0 a6r a6e (decide (a6e = 5)) cr_1j1 H K))
def a1I (x0 : E0) (H : Hp) (K : Bool → Hp → Prop) : Prop :=
 a2E (c8.C2 x0) H (fun (_r0_14 : ByteArray) (d0f : Bool) (H_6 : Hp) =>
 ((((!decide (x0.m0.b9 = 1)) && (!decide (x0.m0.I3 = 0))) || ((!d0f) && (!decide (x0.m0.g7 = ⟨#[]⟩)))) = true →
 K false H_6) ∧
 ((((!decide (x0.m0.b9 = 1)) && (!decide (x0.m0.I3 = 0))) || ((!d0f) && (!decide (x0.m0.g7 = ⟨#[]⟩)))) = false →
 (x0.m0.b9 = 1 →
 K ((decide (0 ≤ x0.m0.I3)) && (decide ((x0.m0.t1.n : Int) = 0))) H_6) ∧
 (¬ (x0.m0.b9 = 1) →
 (x0.m0.b9 = 2 →
 M1 (x0.m0.t1.n : Int) x0.m0.b9 (decide (x0.m0.b9 = 2)) x0 H_6 K) ∧
 (¬ (x0.m0.b9 = 2) →
 M1 (x0.m0.t1.n : Int) x0.m0.b9 (decide (x0.m0.b9 = 3)) x0 H_6 K))))
theorem b1O (x0 : E0) {w0 w : World} {ps0 : Nat → Prop} {H0 H : Hp} {K : Bool → Hp → Prop} {R : Value → World → Prop} {E : Pan} (I : Inv w0 ps0 H0 H [] w) (hR : ∀ (r0 : Bool) (H' : Hp) (w' : World) (_ : Inv w0 ps0 H0 H' [] w') (_ : K r0 H'), R (Value.bool r0) w') (h : a1I x0 H K) : c9k (Value.agg (f4 x0.m0).toArray) w R E := by
 unfold a1I at h
 unfold c9k
 refine G7 I (cs := (f4 x0.m0)) rfl fun g_2 w_3 I_4 k_5 => ?_
 refine a7 N2 ?_
 refine a7 M6 ?_
 refine c7 (ld1 Tryd.isAgg28 (I_4.at1 (o := 3) (vs := [(vs x0.m0.t1)]) (nb rfl) rfl)) ?_
 refine a7 (F5 _ _ _) ?_
 refine c7 (ldA Tryd.isAgg96 Tryd.sizeOf96 rfl (I_4.at1 (o := 0) (vs := (f4 x0.m0)) (nb rfl) rfl)) ?_
 refine a7 (a9N x0) ?_
 refine f8 (cap := []) (fun args w => Tryd.call114 args w) ?_
 refine i6 (Fi := []) (Fr := [bx g_2 96 (f4 x0.m0)]) I_4 (h) (fun a6Q H_6 a6q w_7 I_8 a6R k_9 a0J => ?_) (fun _ _ _ _ _ q => q.elim)
 obtain ⟨o0, d0f, rfl, rfl, h⟩ := a0J
 refine a7 (v7 _ _ _ rfl) ?_
 refine a7 (v7 _ _ _ rfl) ?_
 refine a7 N2 ?_
 refine a7 G1 ?_
 refine c7 (ld1 Tryd.isAgg3 (I_8.at1 (o := 0) (vs := [(vi x0.m0.b9)]) (nb rfl) rfl)) ?_
 refine a7 (u7 _ _ _ _ _ _) ?_
 refine a7 (Pu.g fun hb => by have a6 := hb; first | exact N2 | (simp only [b7 a6, a8 a6, a8 hb, l9 a6]; exact N2) | (simp only [b7 a6, a8 a6, a8 hb, c9 a6, d9]; exact N2)) ?_
 refine a7 (Pu.g fun hb => by have a6 := hb; first | exact M7 | (simp only [a8 a6]; exact M7) | (simp only [b7 a6, a8 a6, a8 hb, c9 a6, d9]; exact M7)) ?_
 refine c7 (Ld.g fun hb => by have a6 := hb; first | exact (ld1 Tryd.isAgg2 (I_8.at1 (o := 1) (vs := [(vi x0.m0.I3)]) (nb rfl) rfl)) | (simp only [a8 a6]; exact (ld1 Tryd.isAgg2 (I_8.at1 (o := 1) (vs := [(vi x0.m0.I3)]) (nb rfl) rfl))) | (simp only [b7 a6, a8 a6, a8 hb, c9 a6, d9]; exact (ld1 Tryd.isAgg2 (I_8.at1 (o := 1) (vs := [(vi x0.m0.I3)]) (nb rfl) rfl)))) ?_
 refine a7 (Pu.g fun hb => by have a6 := hb; first | exact (u7 _ _ _ _ _ _) | (simp only [a8 a6]; exact (u7 _ _ _ _ _ _)) | (simp only [b7 a6, a8 a6, a8 hb, c9 a6, d9]; exact (u7 _ _ _ _ _ _))) ?_
 refine a7 (k7 _ _) ?_
 try simp only [m9]
 refine a7 (Pu.g fun hb => by have a6 := hb; first | exact (I7 _) | (simp only [a8 a6]; exact (I7 _)) | (simp only [b7 a6, a8 a6, a8 hb, v1 a6, d9]; exact (I7 _))) ?_
 try simp only [T5]
 refine a7 (Pu.e (a3X _ _ _) (Pu.g fun hb => by obtain ⟨a6, k8⟩ := a5Z hb; first | exact N2 | (simp only [b7 a6, a8 a6, b7 k8, a8 k8, a8 hb, d9]; exact N2) | (simp only [b7 a6, a8 a6, b7 k8, a8 k8, a8 hb, l9 hb]; exact N2) | (simp only [b7 a6, a8 a6, b7 k8, a8 k8, a8 hb, c9 hb, d9]; exact N2))) ?_
 refine a7 (Pu.e (a3X _ _ _) (Pu.g fun hb => by obtain ⟨a6, k8⟩ := a5Z hb; first | exact Y6 | (simp only [a8 hb]; exact Y6) | (simp only [b7 a6, a8 a6, b7 k8, a8 k8, a8 hb, l9 hb]; exact Y6) | (simp only [b7 a6, a8 a6, b7 k8, a8 k8, a8 hb, c9 hb, d9]; exact Y6))) ?_
 refine c7 (Ld.e (a3X _ _ _) (Ld.g fun hb => by obtain ⟨a6, k8⟩ := a5Z hb; first | exact (ld1 Tryd.isAgg9 (I_8.at1 (o := 2) (vs := [(Value.string x0.m0.g7)]) (nb rfl) rfl)) | (simp only [a8 hb]; exact (ld1 Tryd.isAgg9 (I_8.at1 (o := 2) (vs := [(Value.string x0.m0.g7)]) (nb rfl) rfl))) | (simp only [b7 a6, a8 a6, b7 k8, a8 k8, a8 hb, l9 hb]; exact (ld1 Tryd.isAgg9 (I_8.at1 (o := 2) (vs := [(Value.string x0.m0.g7)]) (nb rfl) rfl))) | (simp only [b7 a6, a8 a6, b7 k8, a8 k8, a8 hb, c9 hb, d9]; exact (ld1 Tryd.isAgg9 (I_8.at1 (o := 2) (vs := [(Value.string x0.m0.g7)]) (nb rfl) rfl))))) ?_
 refine a7 (Pu.e (a3X _ _ _) (Pu.g fun hb => by obtain ⟨a6, k8⟩ := a5Z hb; first | exact (b5J _ _ _ _ _) | (simp only [a8 hb]; exact (b5J _ _ _ _ _)) | (simp only [b7 a6, a8 a6, b7 k8, a8 k8, a8 hb, l9 hb]; exact (b5J _ _ _ _ _)) | (simp only [b7 a6, a8 a6, b7 k8, a8 k8, a8 hb, c9 hb, d9]; exact (b5J _ _ _ _ _)))) ?_
 refine a7 (Pu.g fun hb => by have a6 := hb; first | exact (k7 _ _) | (simp only [a8 a6, a4b a6]; exact (k7 _ _)) | (simp only [b7 a6, a8 a6, a8 hb, v1 a6, d9]; exact (k7 _ _))) ?_
 refine a7 (E1 _ _) ?_
 refine k9 (fun b8H => ?_) (fun b8H => ?_)
 ·replace h := h.1 b8H
  exact hR false H_6 _ I_8.drop h
 ·replace h := h.2 b8H
  refine a7 N2 ?_
  refine a7 G1 ?_
  refine c7 (ld1 Tryd.isAgg3 (I_8.at1 (o := 0) (vs := [(vi x0.m0.b9)]) (nb rfl) rfl)) ?_
  refine a7 (d6 _ _ _ _ _ _) ?_
  refine g9 (fun b8I => ?_) (fun b8I => ?_)
  ·replace h := h.1 b8I
   refine a7 N2 ?_
   refine a7 M7 ?_
   refine c7 (ld1 Tryd.isAgg2 (I_8.at1 (o := 1) (vs := [(vi x0.m0.I3)]) (nb rfl) rfl)) ?_
   refine a7 (a1d _ _ _ _ _ _) ?_
   try simp only [m9]
   refine a7 (Pu.g fun hb => by have a6 := hb; first | exact (d6 _ _ _ _ _ _) | (simp only [a8 a6]; exact (d6 _ _ _ _ _ _)) | (simp only [b7 a6, a8 a6, a8 hb, c9 a6, d9]; exact (d6 _ _ _ _ _ _))) ?_
   refine a7 (k7 _ _) ?_
   exact hR ((decide (0 ≤ x0.m0.I3)) && (decide ((x0.m0.t1.n : Int) = 0))) H_6 _ I_8.drop h
  ·replace h := h.2 b8I
   have hj1 : ∀ (b7p : Bool) (H : Hp) (w : World) (_ : Inv w0 ps0 H0 H [bx g_2 96 (f4 x0.m0)] w) (_ : M1 (x0.m0.t1.n : Int) x0.m0.b9 b7p x0 H K), c1o (vi (x0.m0.t1.n : Int)) (vi x0.m0.b9) (Value.bool b7p) w R E := by
    intro b7p H w I h
    unfold c1o
    intro _
    unfold M1 at h
    refine k9 (fun b8J => ?_) (fun b8J => ?_)
    ·replace h := h.1 b8J
     refine a7 (d6 _ _ _ _ _ _) ?_
     exact hR (decide ((x0.m0.t1.n : Int) = 0)) H _ I.drop h
    ·replace h := h.2 b8J
     have hj2 : ∀ (b7o : Bool) (H : Hp) (w : World) (_ : Inv w0 ps0 H0 H [bx g_2 96 (f4 x0.m0)] w) (_ : M0 (x0.m0.t1.n : Int) x0.m0.b9 b7o x0 H K), c1n (vi (x0.m0.t1.n : Int)) (vi x0.m0.b9) (Value.bool b7o) w R E := by
      intro b7o H w I h
      unfold c1n
      intro _
      unfold M0 at h
      refine k9 (fun b1y => ?_) (fun b1y => ?_)
      ·replace h := h.1 b1y
       refine a7 (d6 _ _ _ _ _ _) ?_
       exact hR (decide ((x0.m0.t1.n : Int) = 1)) H _ I.drop h
      ·replace h := h.2 b1y
       have hj3 : ∀ (b7n : Bool) (H : Hp) (w : World) (_ : Inv w0 ps0 H0 H [bx g_2 96 (f4 x0.m0)] w) (_ : D2 (x0.m0.t1.n : Int) b7n x0 H K), c1m (vi (x0.m0.t1.n : Int)) (Value.bool b7n) w R E := by
        intro b7n H w I h
        unfold c1m
        intro _
        unfold D2 at h
        refine k9 (fun a5j => ?_) (fun a5j => ?_)
        ·replace h := h.1 a5j
         refine a7 (d6 _ _ _ _ _ _) ?_
         exact hR (decide ((x0.m0.t1.n : Int) = 2)) H _ I.drop h
        ·replace h := h.2 a5j
         exact hR false H _ I.drop h
       refine p9 fun j3 hx3 => ?_
       refine a7 (d6 _ _ _ _ _ _) ?_
       refine g9 (fun b1z => ?_) (fun b1z => ?_)
       ·replace h := h.1 b1z
        exact hx3 _ _ (hj3 (decide (x0.m0.b9 = 6)) H _ I h)
       ·replace h := h.2 b1z
        refine a7 (d6 _ _ _ _ _ _) ?_
        refine g9 (fun a0K => ?_) (fun a0K => ?_)
        ·replace h := h.1 a0K
         exact hx3 _ _ (hj3 (decide (x0.m0.b9 = 7)) H _ I h)
        ·replace h := h.2 a0K
         refine a7 (d6 _ _ _ _ _ _) ?_
         refine g9 (fun a3A => ?_) (fun a3A => ?_)
         ·replace h := h.1 a3A
          exact hx3 _ _ (hj3 (decide (x0.m0.b9 = 8)) H _ I h)
         ·replace h := h.2 a3A
          refine a7 (d6 _ _ _ _ _ _) ?_
          refine g9 (fun b1A => ?_) (fun b1A => ?_)
          ·replace h := h.1 b1A
           exact hx3 _ _ (hj3 (decide (x0.m0.b9 = 9)) H _ I h)
          ·replace h := h.2 b1A
           refine a7 (d6 _ _ _ _ _ _) ?_
           exact hx3 _ _ (hj3 (decide (x0.m0.b9 = 10)) H _ I h)
     refine p9 fun j2 hx2 => ?_
     refine a7 (d6 _ _ _ _ _ _) ?_
     refine g9 (fun b8K => ?_) (fun b8K => ?_)
     ·replace h := h.1 b8K
      exact hx2 _ _ (hj2 (decide (x0.m0.b9 = 4)) H _ I h)
     ·replace h := h.2 b8K
      refine a7 (d6 _ _ _ _ _ _) ?_
      exact hx2 _ _ (hj2 (decide (x0.m0.b9 = 5)) H _ I h)
   refine p9 fun j1 hx1 => ?_
   refine a7 (d6 _ _ _ _ _ _) ?_
   refine g9 (fun b1P => ?_) (fun b1P => ?_)
   ·replace h := h.1 b1P
    exact hx1 _ _ (hj1 (decide (x0.m0.b9 = 2)) H_6 _ I_8 h)
   ·replace h := h.2 b1P
    refine a7 (d6 _ _ _ _ _ _) ?_
    exact hx1 _ _ (hj1 (decide (x0.m0.b9 = 3)) H_6 _ I_8 h)
theorem b2u (x0 : E0) {H : Hp} {K : Bool → Hp → Prop} (h : a1I x0 H K) : a3S x0 H K := by
 intro w I
 refine e0F ?_
 refine b1O x0 I (fun r0 H' w' I' hk => ⟨H', _, I', r0, rfl, rfl, hk⟩) h
def z7 (a1l : (List c8)) (H : Hp) (K : Sl → Hp → Prop) : Prop :=
 ∀ (I4 : Sl) (a1V : Hp), Hle H a1V → SlH a1V 1 o8 I4 a1l → I4.n ≤ I4.c →
 K I4 a1V
def z8 (a2V : Sl) (a7W : Int) (w3 : (List c8)) (t8 : Int) (H : Hp) (n2 : ((List c8) × Int) → Hp → Prop) (K : Sl → Hp → Prop) : Prop :=
 (t8 < a7W →
 (0 : Int) ≤ t8 ∧ (t8 : Int) < a2V.n ∧ ∃ x_1 : h9, EltH H a2V t8 4 (f4 x_1) ∧
 a7S x_1 H (fun (W1 : c8) (a1W : Hp) =>
 (w3.length + ([W1] : List c8).length) * 17 ≤ 140737488355328 ∧
 n2 ((w3 ++ [W1]), (IntKind.wrap .i64 (t8 + 1))) a1W)) ∧
 (¬ (t8 < a7W) →
 z7 w3 H K)
def B5 (x0 : Sl) (H : Hp) (K : Sl → Hp → Prop) : Prop :=
 TL (([], 0) : (List c8) × Int) H fun (s : (List c8) × Int) H n2 => z8 x0 (x0.n : Int) s.1 s.2 H n2 K
theorem a1N (x0 : Sl) {w0 w : World} {ps0 : Nat → Prop} {H0 H : Hp} {K : Sl → Hp → Prop} {R : Value → World → Prop} {E : Pan} (I : Inv w0 ps0 H0 H [] w) (hR : ∀ (r0 : Sl) (H' : Hp) (w' : World) (_ : Inv w0 ps0 H0 H' [] w') (_ : K r0 H'), R (vs r0) w') (h : B5 x0 H K) : c9m (vs x0) (Value.func (.func 151) #[] #[]) w R E := by
 unfold B5 at h
 unfold c9m
 have hj1 : ∀ (a1l : (List c8)) (I4 : Sl) (Fs5j1 : Frag) (H : Hp) (w : World) (_ : RowL 141 1 o8 I4 a1l Fs5j1) (_ : Inv w0 ps0 H0 H [Fs5j1] w) (_ : z7 a1l H K), c1p (vs I4) w R E := by
  intro a1l I4 Fs5j1 H w b4r I h
  unfold c1p
  intro _
  unfold z7 at h
  obtain ⟨a1V, a4t, b6E, b8r, b1C⟩ := Inv.freezeC I b4r (by decide)
  replace h := h I4 a1V b6E b8r b1C
  exact hR I4 a1V _ a4t h
 refine p9 fun j1 hx1 => ?_
 refine a7 (F5 _ _ _) ?_
 obtain ⟨a6V, a3B, b8s, a4u⟩ := h
 refine v6 (J := fun n l w => ∃ (s : (List c8) × Int) (H : Hp) (a1m : Sl) (Fs5l2 : Frag) , n = a3B s ∧ l = (match s with | (w3, t8) => [(vs a1m), (vi t8)]) ∧ (match s with | (w3, t8) => RowL 141 1 o8 a1m w3 Fs5l2) ∧ (match s with | (w3, t8) => Inv w0 ps0 H0 H [Fs5l2] w) ∧ a6V s H) ⟨_, ([], 0), H, (Sl.mk none 0 0), [], rfl, rfl, (RowL.nil L6 P5), I.nil, b8s⟩ ?_
 rintro d5j τ_50 w next2 ⟨⟨w3, t8⟩, H, a1m, Fs5l2, rfl, a6W, a5k, I, b8t⟩ hn2
 dsimp only at a6W I a5k
 simp only [List.map_cons, List.map_nil, List.cons.injEq, and_true] at a6W
 obtain ⟨e5, e10⟩ := a6W
 simp only [e5, e10]
 obtain ⟨n2, hm2, h⟩ : ∃ n2 : ((List c8) × Int) → Hp → Prop, (∀ s' H', n2 s' H' → a6V s' H' ∧ a3B s' < a3B (w3, t8)) ∧ z8 x0 (x0.n : Int) w3 t8 H n2 K := ⟨_, fun _ _ h => h, a4u (w3, t8) H (fun s' H' => a6V s' H' ∧ a3B s' < a3B (w3, t8)) b8t (fun _ _ a b => ⟨a, b⟩)⟩
 unfold c7V
 unfold z8 at h
 refine a7 (r8 _ _ _ _ _ _) ?_
 refine g9 (fun a5l => ?_) (fun a5l => ?_)
 ·replace h := h.1 a5l
  obtain ⟨h_4, h_5, x_1, h_7, h⟩ := h
  obtain ⟨g_2, o_3, h_6, h_7⟩ := h_7
  refine a7 (a2O h_6 _ _ _ _ h_4 h_5) ?_
  refine c7 (ldA (vs := (f4 x_1)) Tryd.isAgg30 Tryd.sizeOf30 rfl (I.atH h_7)) ?_
  refine L5 I Tryd.zeroValue30 (cs := [(vi 0), (vi 0), (Value.string ⟨#[]⟩), (Value.slice none 0 0)]) rfl fun g_9 m1 a0Y a8S => ?_
  refine u1 a0Y Tryd.sizeOf30 (vs := (f4 x_1)) (cs' := (f4 x_1)) rfl rfl (nb rfl) rfl rfl fun V5 T2 b2T => ?_
  refine c7 (ldA Tryd.isAgg30 Tryd.sizeOf30 rfl (T2.at1 (o := 0) (vs := (f4 x_1)) (nb rfl) rfl)) ?_
  refine f8 (cap := []) (fun args w => Tryd.call151 args w) ?_
  refine i6 (Fi := []) (Fr := [bx g_9 30 (f4 x_1), Fs5l2]) T2 (h) (fun c9B a1W c9C a5c a4v c9D c1C b4s => ?_) (fun _ _ _ _ _ q => q.elim)
  obtain ⟨W1, rfl, rfl, h⟩ := b4s
  refine a6l (e := 141) (c := o8) (xs := [W1]) a4v (b3l _) rfl rfl L6 P5 (nb rfl) fun b4t b8u v8 b1D a4s b6C => ?_
  obtain ⟨b4u, h⟩ := h
  refine b5M (s := a1m) (xs := w3) (a4s.bring 2) a5k (b1D.srcO ((a4s.bring 2).bring 1)) b4u fun b8v b4q A8 a8U a9Q c9E => ?_
  refine a7 (q8 _ _ _ _ _ _) ?_
  exact hn2 _ _ _ (hm2 _ _ h).2 ⟨((w3 ++ [W1]), (IntKind.wrap .i64 (t8 + 1))), a1W, b8v, b4q, rfl, rfl, a8U, ((a9Q.bring 1).drop.bring 1).drop, (hm2 _ _ h).1⟩
 ·replace h := h.2 a5l
  exact hx1 _ _ (hj1 w3 a1m Fs5l2 H _ a5k I h)
theorem a1Z (x0 : Sl) {H : Hp} {K : Sl → Hp → Prop} (h : B5 x0 H K) : u4 x0 H K := by
 intro w I
 refine e0J ?_
 refine a1N x0 I (fun r0 H' w' I' hk => ⟨H', _, I', r0, rfl, rfl, hk⟩) h
def a3l (x0 : k4) (H : Hp) (K : c8 → Hp → Prop) : Prop :=
 K (c8.K6 (M4.mk x0)) H
theorem b3A (x0 : k4) {w0 w : World} {ps0 : Nat → Prop} {H0 H : Hp} {K : c8 → Hp → Prop} {R : Value → World → Prop} {E : Pan} (I : Inv w0 ps0 H0 H [] w) (hR : ∀ (r0 : c8) (H' : Hp) (w' : World) (_ : Inv w0 ps0 H0 H' [] w') (_ : K r0 H'), R (y7 r0) w') (h : a3l x0 H K) : c9s (Value.agg (f7 x0).toArray) w R E := by
 unfold a3l at h
 unfold c9s
 refine G7 I (cs := (f7 x0)) rfl fun g_2 w_3 I_4 k_5 => ?_
 refine c7 (ldA Tryd.isAgg33 Tryd.sizeOf33 rfl (I_4.at1 (o := 0) (vs := (f7 x0)) (nb rfl) rfl)) ?_
 refine a7 (c3x _ _ _ _ _ _ _ _) ?_
 refine a7 (c0Y (M4.mk x0)) ?_
 exact hR (c8.K6 (M4.mk x0)) H _ I_4.drop h
theorem b4I (x0 : k4) {H : Hp} {K : c8 → Hp → Prop} (h : a3l x0 H K) : a7T x0 H K := by
 intro w I
 refine e0U ?_
 refine b3A x0 I (fun r0 H' w' I' hk => ⟨H', _, I', r0, rfl, rfl, hk⟩) h
def a1J (x0 : Q7) (H : Hp) (K : Bool → Hp → Prop) : Prop :=
 K ((decide (0 ≤ x0.P2.M3)) && (decide (x0.P2.M3 ≤ 2147483647))) H
theorem b1Q (x0 : Q7) {w0 w : World} {ps0 : Nat → Prop} {H0 H : Hp} {K : Bool → Hp → Prop} {R : Value → World → Prop} {E : Pan} (I : Inv w0 ps0 H0 H [] w) (hR : ∀ (r0 : Bool) (H' : Hp) (w' : World) (_ : Inv w0 ps0 H0 H' [] w') (_ : K r0 H'), R (Value.bool r0) w') (h : a1J x0 H K) : c9t (Value.agg (p7 x0.P2).toArray) w R E := by
 unfold a1J at h
 unfold c9t
 refine G7 I (cs := (p7 x0.P2)) rfl fun g_2 w_3 I_4 k_5 => ?_
 refine a7 a6x ?_
 refine a7 a2l ?_
 refine c7 (ld1 Tryd.isAgg3 (I_4.at1 (o := 1) (vs := [(vi x0.P2.M3)]) (nb rfl) rfl)) ?_
 refine a7 (a1d _ _ _ _ _ _) ?_
 refine a7 (Pu.g fun hb => by have a6 := hb; first | exact a6x | (simp only [b7 a6, a8 a6, a8 hb, l9 a6]; exact a6x) | (simp only [b7 a6, a8 a6, a8 hb, c9 a6, d9]; exact a6x)) ?_
 refine a7 (Pu.g fun hb => by have a6 := hb; first | exact a2l | (simp only [a8 a6]; exact a2l) | (simp only [b7 a6, a8 a6, a8 hb, c9 a6, d9]; exact a2l)) ?_
 refine c7 (Ld.g fun hb => by have a6 := hb; first | exact (ld1 Tryd.isAgg3 (I_4.at1 (o := 1) (vs := [(vi x0.P2.M3)]) (nb rfl) rfl)) | (simp only [a8 a6]; exact (ld1 Tryd.isAgg3 (I_4.at1 (o := 1) (vs := [(vi x0.P2.M3)]) (nb rfl) rfl))) | (simp only [b7 a6, a8 a6, a8 hb, c9 a6, d9]; exact (ld1 Tryd.isAgg3 (I_4.at1 (o := 1) (vs := [(vi x0.P2.M3)]) (nb rfl) rfl)))) ?_
 refine a7 (Pu.g fun hb => by have a6 := hb; first | exact (a0N _ _ _ _ _ _) | (simp only [a8 a6]; exact (a0N _ _ _ _ _ _)) | (simp only [b7 a6, a8 a6, a8 hb, c9 a6, d9]; exact (a0N _ _ _ _ _ _))) ?_
 refine a7 (k7 _ _) ?_
 exact hR ((decide (0 ≤ x0.P2.M3)) && (decide (x0.P2.M3 ≤ 2147483647))) H _ I_4.drop h
theorem b2v (x0 : Q7) {H : Hp} {K : Bool → Hp → Prop} (h : a1J x0 H K) : a6k x0 H K := by
 intro w I
 refine e0W ?_
 refine b1Q x0 I (fun r0 H' w' I' hk => ⟨H', _, I', r0, rfl, rfl, hk⟩) h
def a1q (_x0 : Q7) (H : Hp) (K : Sl → Hp → Prop) : Prop :=
 K (Sl.mk none 0 0) H
theorem b0o (x0 : Q7) {w0 w : World} {ps0 : Nat → Prop} {H0 H : Hp} {K : Sl → Hp → Prop} {R : Value → World → Prop} {E : Pan} (I : Inv w0 ps0 H0 H [] w) (hR : ∀ (r0 : Sl) (H' : Hp) (w' : World) (_ : Inv w0 ps0 H0 H' [] w') (_ : K r0 H'), R (vs r0) w') (h : a1q x0 H K) : c9u (Value.agg (p7 x0.P2).toArray) w R E := by
 unfold a1q at h
 unfold c9u
 refine G7 I (cs := (p7 x0.P2)) rfl fun g_2 w_3 I_4 k_5 => ?_
 exact hR (Sl.mk none 0 0) H _ I_4.drop h
theorem b1R (x0 : Q7) {H : Hp} {K : Sl → Hp → Prop} (h : a1q x0 H K) : a5P x0 H K := by
 intro w I
 refine e0Y ?_
 refine b0o x0 I (fun r0 H' w' I' hk => ⟨H', _, I', r0, rfl, rfl, hk⟩) h
end Go.Proofs.YthldnpmfelniiaaDoor
