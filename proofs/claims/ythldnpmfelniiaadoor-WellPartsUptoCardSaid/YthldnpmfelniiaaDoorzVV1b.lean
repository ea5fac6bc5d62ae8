/- Typed formulas of the program's functions, and the theorems that the contracts follow from them; printed by lift.py off the code. -/
import Derived.Test.YthldnpmfelniiaaDoorzVV1
namespace Go.Proofs.YthldnpmfelniiaaDoor
open Go.RowKit
set_option maxRecDepth 100000
set_option maxHeartbeats 2000000
def r8 (_s0j5 : Sl) (b1G : Int) (_s9j5 : Sl) (_s10j5 : Int) (b7h : Int) (H : Hp) (n4 : (Int × Int) → Hp → Prop) (_K : Sl → Hp → Prop) : Prop :=
 n4 (b1G, (IntKind.wrap .i64 (b7h + 1))) H
def r9 (b0B : (List a8)) (H : Hp) (K : Sl → Hp → Prop) : Prop :=
 ∀ (a3b : Sl) (a6w : Hp), Hle H a6w → SlH a6w 1 h8 a3b b0B → a3b.n ≤ a3b.c →
 K a3b a6w
def s6 (c3W : Sl) (c3X : Int) (Z5 : (List a8)) (W5 : Int) (H : Hp) (n3 : ((List a8) × Int) → Hp → Prop) (K : Sl → Hp → Prop) : Prop :=
 (W5 < c3X →
 (0 : Int) ≤ W5 ∧ (W5 : Int) < c3W.n ∧ ∃ b7i : Sl, EltH H c3W W5 1 [(vs b7i)] ∧
 ∃ b0C : List a8, SlH H 1 h8 b7i b0C ∧ (Z5.length + b0C.length) * 17 ≤ 140737488355328 ∧
 n3 ((Z5 ++ b0C), (IntKind.wrap .i64 (W5 + 1))) H) ∧
 (¬ (W5 < c3X) →
 r9 Z5 H K)
def s7 (d2B : Sl) (a6x : Int) (H : Hp) (K : Sl → Hp → Prop) : Prop :=
 E1 a6x H (fun (b7j : (List a8)) (H_9 : Hp) =>
 TL ((b7j, 0) : (List a8) × Int) H_9 fun (s : (List a8) × Int) H n3 => s6 d2B (d2B.n : Int) s.1 s.2 H n3 K)
def s8 (d2C : Sl) (c1y : Sl) (b7k : Int) (a2q : Int) (V4 : Int) (H : Hp) (n4 : (Int × Int) → Hp → Prop) (K : Sl → Hp → Prop) : Prop :=
 (V4 < b7k →
 (0 : Int) ≤ V4 ∧ (V4 : Int) < c1y.n ∧ ∃ x_1 : Sl, EltH H c1y V4 1 [(vs x_1)] ∧
 ((IntKind.wrap .i64 (a2q + (x_1.n : Int))) < 0 →
 False) ∧
 (¬ ((IntKind.wrap .i64 (a2q + (x_1.n : Int))) < 0) →
 r8 d2C (IntKind.wrap .i64 (a2q + (x_1.n : Int))) c1y b7k V4 H n4 K)) ∧
 (¬ (V4 < b7k) →
 s7 d2C a2q H K)
def t7 (x0 : Sl) (H : Hp) (K : Sl → Hp → Prop) : Prop :=
 TL ((0, 0) : Int × Int) H fun (s : Int × Int) H n4 => s8 x0 x0 (x0.n : Int) s.1 s.2 H n4 K
theorem S6 (x0 : Sl) {w0 w : World} {ps0 : Nat → Prop} {H0 H : Hp} {K : Sl → Hp → Prop} {R : Value → World → Prop} {E : Pan} (I : Inv w0 ps0 H0 H [] w) (hR : ∀ (r0 : Sl) (H' : Hp) (w' : World) (_ : Inv w0 ps0 H0 H' [] w') (_ : K r0 H'), R (vs r0) w') (h : t7 x0 H K) : F94 (vs x0) w R E := by
 unfold t7 at h
 unfold F94
 have hj1 : ∀ (a6x : Int) (H : Hp) (w : World) (_ : Inv w0 ps0 H0 H [] w) (_ : s7 x0 a6x H K), b3A (vs x0) (vi a6x) w R E := by
  intro a6x H w I h
  unfold b3A
  intro _
  unfold s7 at h
  refine d6 (cap := []) (fun args w => Tryd.call120 args w) ?_
  refine i7 (Fi := []) (Fr := []) I (h) (fun e3u H_9 e3v l9 a2D c1z b4h d9F => ?_) (fun _ _ _ _ _ q => q.elim)
  obtain ⟨b7j, d2D, d2E, rfl, rfl, d2F, h⟩ := d9F
  have hj2 : ∀ (b0B : (List a8)) (a3b : Sl) (Fs6j2 : Frag) (H : Hp) (w : World) (_ : RowL 141 1 h8 a3b b0B Fs6j2) (_ : Inv w0 ps0 H0 H [Fs6j2] w) (_ : r9 b0B H K), b3z (vs a3b) w R E := by
   intro b0B a3b Fs6j2 H w d7u I h
   unfold b3z
   intro _
   unfold r9 at h
   obtain ⟨a6w, a3v, d2G, a6t, d9G⟩ := Inv.freezeC I d7u (by decide)
   replace h := h a3b a6w d2G a6t d9G
   exact hR a3b a6w _ a3v h
  refine u4 fun j2 hx2 => ?_
  refine a6 (b0e _ _ _) ?_
  obtain ⟨c1A, b4n, d9H, d9I⟩ := h
  refine F7 (J := fun n l w => ∃ (s : (List a8) × Int) (H : Hp) (b0D : Sl) (Fs6l3 : Frag) , n = b4n s ∧ l = (match s with | (Z5, W5) => [(vs b0D), (vi W5)]) ∧ (match s with | (Z5, W5) => RowL 141 1 h8 b0D Z5 Fs6l3) ∧ (match s with | (Z5, W5) => Inv w0 ps0 H0 H [Fs6l3] w) ∧ c1A s H) ⟨_, (b7j, 0), H_9, d2D, d2E, rfl, rfl, d2F, a2D, d9H⟩ ?_
  rintro e3w τ_46 w next3 ⟨⟨Z5, W5⟩, H, b0D, Fs6l3, rfl, c1B, b7l, I, d9J⟩ hn3
  dsimp only at c1B I b7l
  simp only [List.map_cons, List.map_nil, List.cons.injEq, and_true] at c1B
  obtain ⟨e6, e27⟩ := c1B
  simp only [e6, e27]
  obtain ⟨n3, hm3, h⟩ : ∃ n3 : ((List a8) × Int) → Hp → Prop, (∀ s' H', n3 s' H' → c1A s' H' ∧ b4n s' < b4n (Z5, W5)) ∧ s6 x0 (x0.n : Int) Z5 W5 H n3 K := ⟨_, fun _ _ h => h, d9I (Z5, W5) H (fun s' H' => c1A s' H' ∧ b4n s' < b4n (Z5, W5)) d9J (fun _ _ a b => ⟨a, b⟩)⟩
  unfold b8Y
  unfold s6 at h
  refine a6 (D1 _ _ _ _ _ _) ?_
  refine d8 (fun c1C => ?_) (fun c1C => ?_)
  ·replace h := h.1 c1C
   obtain ⟨d9K, d9L, b7i, c1D, h⟩ := h
   obtain ⟨d2H, e3x, d9M, c1D⟩ := c1D
   refine a6 (b2m d9M _ _ _ _ d9K d9L) ?_
   refine b9 (ld1 (v := (vs b7i)) Tryd.isAgg97 (I.atH c1D)) ?_
   obtain ⟨b0C, c1E, h⟩ := h
   obtain ⟨d9N, h⟩ := h
   refine a7p (s := b0D) (xs := Z5) I b7l (SlH.src I c1E D5) d9N fun b4i b1D D8 a6s a2E b7f => ?_
   refine a6 (B2 _ _ _ _ _ _) ?_
   exact hn3 _ _ _ (hm3 _ _ h).2 ⟨((Z5 ++ b0C), (IntKind.wrap .i64 (W5 + 1))), H, b4i, b1D, rfl, rfl, a6s, a2E, (hm3 _ _ h).1⟩
  ·replace h := h.2 c1C
   exact hx2 _ _ (hj2 Z5 b0D Fs6l3 H _ b7l I h)
 refine u4 fun j1 hx1 => ?_
 refine a6 (b0e _ _ _) ?_
 obtain ⟨a9k, a4u, c1F, c1G⟩ := h
 refine F7 (J := fun n l w => ∃ (s : Int × Int) (H : Hp) , n = a4u s ∧ l = (match s with | (a2q, V4) => [(vi a2q), (vi V4)]) ∧ (match s with | (a2q, V4) => Inv w0 ps0 H0 H [] w) ∧ a9k s H) ⟨_, (0, 0), H, rfl, rfl, I, c1F⟩ ?_
 rintro d9O τ_55 w next4 ⟨⟨a2q, V4⟩, H, rfl, a9l, I, c1H⟩ hn4
 dsimp only at a9l I
 simp only [List.map_cons, List.map_nil, List.cons.injEq, and_true] at a9l
 obtain ⟨e3, e11⟩ := a9l
 simp only [e3, e11]
 obtain ⟨n4, hm4, h⟩ : ∃ n4 : (Int × Int) → Hp → Prop, (∀ s' H', n4 s' H' → a9k s' H' ∧ a4u s' < a4u (a2q, V4)) ∧ s8 x0 x0 (x0.n : Int) a2q V4 H n4 K := ⟨_, fun _ _ h => h, c1G (a2q, V4) H (fun s' H' => a9k s' H' ∧ a4u s' < a4u (a2q, V4)) c1H (fun _ _ a b => ⟨a, b⟩)⟩
 unfold b8Z
 unfold s8 at h
 refine a6 (D1 _ _ _ _ _ _) ?_
 refine d8 (fun a9m => ?_) (fun a9m => ?_)
 ·replace h := h.1 a9m
  have hj5 : ∀ (b1G : Int) (H : Hp) (w : World) (_ : Inv w0 ps0 H0 H [] w) (_ : r8 x0 b1G x0 (x0.n : Int) V4 H n4 K), b3B (vs x0) (vi b1G) (vs x0) (vi (x0.n : Int)) (vi V4) w next4 R E := by
   intro b1G H w I h
   unfold b3B
   intro _
   unfold r8 at h
   refine a6 (B2 _ _ _ _ _ _) ?_
   exact hn4 _ _ _ (hm4 _ _ h).2 ⟨(b1G, (IntKind.wrap .i64 (V4 + 1))), H, rfl, rfl, I, (hm4 _ _ h).1⟩
  refine u4 fun j5 hx5 => ?_
  obtain ⟨h_4, h_5, x_1, h_7, h⟩ := h
  obtain ⟨g_2, o_3, h_6, h_7⟩ := h_7
  refine a6 (b2m h_6 _ _ _ _ h_4 h_5) ?_
  refine b9 (ld1 (v := (vs x_1)) Tryd.isAgg97 (I.atH h_7)) ?_
  refine a6 (a4W _ _ _) ?_
  refine a6 (B2 _ _ _ _ _ _) ?_
  refine a6 (D1 _ _ _ _ _ _) ?_
  refine d8 (fun c_8 => ?_) (fun c_8 => ?_)
  ·replace h := h.1 c_8
   refine a6 (b8V _) ?_
   exact h.elim
  ·replace h := h.2 c_8
   exact hx5 _ _ (hj5 (IntKind.wrap .i64 (a2q + (x_1.n : Int))) H _ I h)
 ·replace h := h.2 a9m
  exact hx1 _ _ (hj1 a2q H _ I h)
theorem T5 (x0 : Sl) {H : Hp} {K : Sl → Hp → Prop} (h : t7 x0 H K) : o6 x0 H K := by
 intro w I
 refine c8T ?_
 refine S6 x0 I (fun r0 H' w' I' hk => ⟨H', _, I', r0, rfl, rfl, hk⟩) h
def F0 (x0 : (List ByteArray)) (x1 : ByteArray) (H : Hp) (K : Bool → Hp → Prop) : Prop :=
 O9 x0 x1 H (fun (J5 : Int) (H_1 : Hp) =>
 K (decide (0 ≤ J5)) H_1)
theorem a1J (x0 : (List ByteArray)) (x1 : ByteArray) (sx0 : Sl) (Fx0 : Frag) (hx0 : RowL 9 1 o8 sx0 x0 Fx0) {w0 w : World} {ps0 : Nat → Prop} {H0 H : Hp} {K : Bool → Hp → Prop} {R : Value → World → Prop} {E : Pan} (I : Inv w0 ps0 H0 H [Fx0] w) (hR : ∀ (r0 : Bool) (H' : Hp) (w' : World) (_ : Inv w0 ps0 H0 H' [Fx0] w') (_ : K r0 H'), R (Value.bool r0) w') (h : F0 x0 x1 H K) : b6C (vs sx0) (Value.string x1) w R E := by
 unfold F0 at h
 unfold b6C
 refine d6 (cap := []) (fun args w => Tryd.call127 args w) ?_
 refine i7 (Fi := [Fx0]) (Fr := []) I (h sx0 Fx0 hx0) (fun v_5 H_1 F_6 w_2 I_3 l_8 k_4 q_7 => ?_) (fun _ _ _ _ _ q => q.elim)
 obtain ⟨J5, rfl, rfl, h⟩ := q_7
 refine a6 (a9V _ _ _ _ _ _) ?_
 exact hR (decide (0 ≤ J5)) H_1 _ I_3 h
theorem a1X (x0 : (List ByteArray)) (x1 : ByteArray) {H : Hp} {K : Bool → Hp → Prop} (h : F0 x0 x1 H K) : B3 x0 x1 H K := by
 intro sx0 Fx0 hx0 w I
 refine c5j ?_
 refine a1J x0 x1 sx0 Fx0 hx0 I (fun r0 H' w' I' hk => ⟨H', _, I', r0, rfl, rfl, hk⟩) h
def m1 (a3S : Int) (a3T : Int) (a3U : Int) (a3V : Bool) (a3W : Bool) (a2G : (List ByteArray)) (H : Hp) (K : Bool → b7 → (List ByteArray) → Hp → Prop) : Prop :=
 K true (b7.mk a3S a3T a3U a3V a3W (Sl.mk none 0 0)) a2G H
def L2 (x0 : b7) (L6 : (List ByteArray)) (x1 : a8) (x2 : Int) (H : Hp) (K : Bool → b7 → (List ByteArray) → Hp → Prop) : Prop :=
 (4096 < (IntKind.wrap .i64 (x0.fnodes + 1)) →
 K false (b7.mk (IntKind.wrap .i64 (x0.fnodes + 1)) x0.fdepth 33 x0.fform x0.fnamed (Sl.mk none 0 0)) L6 H) ∧
 (¬ (4096 < (IntKind.wrap .i64 (x0.fnodes + 1))) →
 (64 < x2 →
 K false (b7.mk (IntKind.wrap .i64 (x0.fnodes + 1)) x0.fdepth 32 x0.fform x0.fnamed (Sl.mk none 0 0)) L6 H) ∧
 (¬ (64 < x2) →
 TG (x0.fform = false) (Z2 x1 H) false H (fun (z6 : Bool) (a3w : Hp) =>
 R2 x1 a3w (fun (Z6 : ByteArray) (a8p : Bool) (a4v : Hp) =>
 (a8p = true →
 TG (x0.fnamed = false) (W2 Z6 a4v) false a4v (fun (U1 : Bool) (a5t : Hp) =>
 B3 L6 Z6 a5t (fun (Z7 : Bool) (a1k : Hp) =>
 ((!Z7) = true →
 (L6.length + ([Z6] : List ByteArray).length) * 17 ≤ 140737488355328 ∧
 m1 (IntKind.wrap .i64 (x0.fnodes + 1)) (if x2 > x0.fdepth then x2 else x0.fdepth) x0.fe (x0.fform || (!z6)) (x0.fnamed || (!U1)) (L6 ++ [Z6]) a1k K) ∧
 ((!Z7) = false →
 m1 (IntKind.wrap .i64 (x0.fnodes + 1)) (if x2 > x0.fdepth then x2 else x0.fdepth) x0.fe (x0.fform || (!z6)) (x0.fnamed || (!U1)) L6 a1k K)))) ∧
 (a8p = false →
 m1 (IntKind.wrap .i64 (x0.fnodes + 1)) (if x2 > x0.fdepth then x2 else x0.fdepth) x0.fe (x0.fform || (!z6)) x0.fnamed L6 a4v K)))))
theorem a3l (x0 : b7) (L6 : (List ByteArray)) (x1 : a8) (x2 : Int) (g0 : Nat) (K4 : Sl) (V3 : Frag) (a5c : RowL 9 1 o8 K4 L6 V3) {w0 w : World} {ps0 : Nat → Prop} {H0 H : Hp} {K : Bool → b7 → (List ByteArray) → Hp → Prop} {R : Value → World → Prop} {E : Pan} (I : Inv w0 ps0 H0 H [bx g0 92 [(vi x0.fnodes), (vi x0.fdepth), (vi x0.fe), (Value.bool x0.fform), (Value.bool x0.fnamed), (vs K4)], V3] w) (hR : ∀ (r0 : Bool) (y0 : b7) (a1E : (List ByteArray)) (Y7 : Sl) (Y8 : Frag) (H' : Hp) (w' : World) (_ : RowL 9 1 o8 Y7 a1E Y8) (_ : Inv w0 ps0 H0 H' [bx g0 92 [(vi y0.fnodes), (vi y0.fdepth), (vi y0.fe), (Value.bool y0.fform), (Value.bool y0.fnamed), (vs Y7)], Y8] w') (_ : K r0 y0 a1E H'), R (Value.bool r0) w') (h : L2 x0 L6 x1 x2 H K) : F90 (Value.pointer (some ⟨g0, 0, none⟩)) (m3 x1) (vi x2) w R E := by
 unfold L2 at h
 unfold F90
 refine a6 (A9 _) ?_
 refine a6 a6f ?_
 refine b9 (ld1 Tryd.isAgg3 (I.at1 (o := 0) (vs := [(vi x0.fnodes)]) (nb rfl) rfl)) ?_
 refine a6 (B2 _ _ _ _ _ _) ?_
 refine a6 (A9 _) ?_
 refine a6 a6f ?_
 refine t6 I Tryd.sizeOf3 (vs := [(vi (IntKind.wrap .i64 (x0.fnodes + 1)))]) (cs' := [(vi (IntKind.wrap .i64 (x0.fnodes + 1))), (vi x0.fdepth), (vi x0.fe), (Value.bool x0.fform), (Value.bool x0.fnamed), (vs K4)]) rfl rfl (nb rfl) rfl rfl fun w_1 I_2 k_3 => ?_
 refine a6 (A9 _) ?_
 refine a6 a6f ?_
 refine b9 (ld1 Tryd.isAgg3 (I_2.at1 (o := 0) (vs := [(vi (IntKind.wrap .i64 (x0.fnodes + 1)))]) (nb rfl) rfl)) ?_
 refine a6 (a1p _ _ _ _ _ _) ?_
 refine d8 (fun a9n => ?_) (fun a9n => ?_)
 ·replace h := h.1 a9n
  refine a6 (A9 _) ?_
  refine a6 a2b ?_
  refine t6 I_2 Tryd.sizeOf34 (vs := [(vi 33)]) (cs' := [(vi (IntKind.wrap .i64 (x0.fnodes + 1))), (vi x0.fdepth), (vi 33), (Value.bool x0.fform), (Value.bool x0.fnamed), (vs K4)]) rfl rfl (nb rfl) rfl rfl fun w_4 I_5 k_6 => ?_
  exact hR false (b7.mk (IntKind.wrap .i64 (x0.fnodes + 1)) x0.fdepth 33 x0.fform x0.fnamed (Sl.mk none 0 0)) L6 K4 V3 H _ a5c ((I_5.bring 1).bring 1) h
 ·replace h := h.2 a9n
  refine a6 (a1p _ _ _ _ _ _) ?_
  refine d8 (fun a9o => ?_) (fun a9o => ?_)
  ·replace h := h.1 a9o
   refine a6 (A9 _) ?_
   refine a6 a2b ?_
   refine t6 I_2 Tryd.sizeOf34 (vs := [(vi 32)]) (cs' := [(vi (IntKind.wrap .i64 (x0.fnodes + 1))), (vi x0.fdepth), (vi 32), (Value.bool x0.fform), (Value.bool x0.fnamed), (vs K4)]) rfl rfl (nb rfl) rfl rfl fun w_7 I_8 k_9 => ?_
   exact hR false (b7.mk (IntKind.wrap .i64 (x0.fnodes + 1)) x0.fdepth 32 x0.fform x0.fnamed (Sl.mk none 0 0)) L6 K4 V3 H _ a5c ((I_8.bring 1).bring 1) h
  ·replace h := h.2 a9o
   refine a6 (A9 _) ?_
   refine a6 b0d ?_
   refine b9 (ld1 Tryd.isAgg3 (I_2.at1 (o := 1) (vs := [(vi x0.fdepth)]) (nb rfl) rfl)) ?_
   refine a6 (c7q _ _ _ _ _) ?_
   refine a6 (A9 _) ?_
   refine a6 b0d ?_
   refine t6 I_2 Tryd.sizeOf3 (vs := [(vi (if x2 > x0.fdepth then x2 else x0.fdepth))]) (cs' := [(vi (IntKind.wrap .i64 (x0.fnodes + 1))), (vi (if x2 > x0.fdepth then x2 else x0.fdepth)), (vi x0.fe), (Value.bool x0.fform), (Value.bool x0.fnamed), (vs K4)]) rfl rfl (nb rfl) rfl rfl fun l9 a2D b4h => ?_
   refine a6 (A9 _) ?_
   refine a6 a6i ?_
   refine b9 (ld1 Tryd.isAgg4 (a2D.at1 (o := 3) (vs := [(Value.bool x0.fform)]) (nb rfl) rfl)) ?_
   try simp only [K6]
   refine a3g (D := fun c1I o7 => ∃ (z6 : Bool) (a3w : Hp), c1I = (gv x0.fform false (Value.bool z6)) ∧ (Inv w0 ps0 H0 a3w [bx g0 92 [(vi (IntKind.wrap .i64 (x0.fnodes + 1))), (vi (if x2 > x0.fdepth then x2 else x0.fdepth)), (vi x0.fe), (Value.bool x0.fform), (Value.bool x0.fnamed), (vs K4)], V3] o7) ∧ (∀ i, i < l9.heap.size → ¬ inF [] i → o7.heap[i]? = l9.heap[i]?) ∧ Hle H a3w ∧ (R2 x1 a3w (fun (Z6 : ByteArray) (a8p : Bool) (a4v : Hp) =>
 (a8p = true →
 TG (x0.fnamed = false) (W2 Z6 a4v) false a4v (fun (U1 : Bool) (a5t : Hp) =>
 B3 L6 Z6 a5t (fun (Z7 : Bool) (a1k : Hp) =>
 ((!Z7) = true →
 (L6.length + ([Z6] : List ByteArray).length) * 17 ≤ 140737488355328 ∧
 m1 (IntKind.wrap .i64 (x0.fnodes + 1)) (if x2 > x0.fdepth then x2 else x0.fdepth) x0.fe (x0.fform || (!z6)) (x0.fnamed || (!U1)) (L6 ++ [Z6]) a1k K) ∧
 ((!Z7) = false →
 m1 (IntKind.wrap .i64 (x0.fnodes + 1)) (if x2 > x0.fdepth then x2 else x0.fdepth) x0.fe (x0.fform || (!z6)) (x0.fnamed || (!U1)) L6 a1k K)))) ∧
 (a8p = false →
 m1 (IntKind.wrap .i64 (x0.fnodes + 1)) (if x2 > x0.fdepth then x2 else x0.fdepth) x0.fe (x0.fform || (!z6)) x0.fnamed L6 a4v K)))) (fun b1H => ?_) (fun b1H => ?_) ?_
   ·replace h := h.1 b1H
    have a7 := b1H
    try simp only [b5 a7]
    refine a5D a2D h (fun z6 a3w o7 a9p b4o b7m h => ?_)
    exact ⟨z6, a3w, by first | rfl | rw [b5 b1H], a9p, b7m, b4o, h⟩
   ·exact ⟨false, H, by first | rfl | rw [a5U b1H], a2D, fun _ _ _ => rfl, Hle.refl _, h.2 b1H⟩
   ·clear h
    rintro c1I o7 ⟨z6, a3w, rfl, a9p, b7m, b4o, h⟩
    refine a6 (Pu.g fun hb => by have a7 := hb; first | exact (E0 _) | (simp only [b5 a7]; exact (E0 _)) | (simp only [c8 a7, b5 a7, b5 hb, E6 a7, m4]; exact (E0 _))) ?_
    refine a6 (a0s _ _) ?_
    refine a6 (A9 _) ?_
    refine a6 a6i ?_
    refine t6 a9p Tryd.sizeOf4 (vs := [(Value.bool (x0.fform || (!z6)))]) (cs' := [(vi (IntKind.wrap .i64 (x0.fnodes + 1))), (vi (if x2 > x0.fdepth then x2 else x0.fdepth)), (vi x0.fe), (Value.bool (x0.fform || (!z6))), (Value.bool x0.fnamed), (vs K4)]) rfl rfl (nb rfl) rfl rfl fun a2A b7n d9P => ?_
    have hj1 : ∀ (a3S : Int) (a3T : Int) (a3U : Int) (a3V : Bool) (a3W : Bool) (a2G : (List ByteArray)) (a6y : Sl) (a6z : Frag) (H : Hp) (w : World) (_ : RowL 9 1 o8 a6y a2G a6z) (_ : Inv w0 ps0 H0 H [bx g0 92 [(vi a3S), (vi a3T), (vi a3U), (Value.bool a3V), (Value.bool a3W), (vs a6y)], a6z] w) (_ : m1 a3S a3T a3U a3V a3W a2G H K), b3u w R E := by
     intro a3S a3T a3U a3V a3W a2G a6y a6z H w c1J I h
     unfold b3u
     intro _
     unfold m1 at h
     exact hR true (b7.mk a3S a3T a3U a3V a3W (Sl.mk none 0 0)) a2G a6y a6z H _ c1J ((I.bring 1).bring 1) h
    refine u4 fun j1 hx1 => ?_
    refine d6 (cap := []) (fun args w => Tryd.call114 args w) ?_
    refine i7 (Fi := []) (Fr := [bx g0 92 [(vi (IntKind.wrap .i64 (x0.fnodes + 1))), (vi (if x2 > x0.fdepth then x2 else x0.fdepth)), (vi x0.fe), (Value.bool (x0.fform || (!z6))), (Value.bool x0.fnamed), (vs K4)], V3]) b7n (h) (fun e3y a4v b1D b1C b7o e3z e3A d9Q => ?_) (fun _ _ _ _ _ q => q.elim)
    obtain ⟨Z6, a8p, rfl, rfl, h⟩ := d9Q
    refine a6 (i8 _ _ _ rfl) ?_
    refine a6 (i8 _ _ _ rfl) ?_
    refine p5 (fun a9q => ?_) (fun a9q => ?_)
    ·replace h := h.1 a9q
     refine a6 (A9 _) ?_
     refine a6 a6j ?_
     refine b9 (ld1 Tryd.isAgg4 (b7o.at1 (o := 4) (vs := [(Value.bool x0.fnamed)]) (nb rfl) rfl)) ?_
     try simp only [K6]
     refine a3g (D := fun c1K D6 => ∃ (U1 : Bool) (a5t : Hp) , c1K = (gv x0.fnamed false (Value.bool U1)) ∧ (Inv w0 ps0 H0 a5t [bx g0 92 [(vi (IntKind.wrap .i64 (x0.fnodes + 1))), (vi (if x2 > x0.fdepth then x2 else x0.fdepth)), (vi x0.fe), (Value.bool (x0.fform || (!z6))), (Value.bool x0.fnamed), (vs K4)], V3] D6) ∧ (∀ i, i < b1C.heap.size → ¬ inF [] i → D6.heap[i]? = b1C.heap[i]?) ∧ Hle a4v a5t ∧ (B3 L6 Z6 a5t (fun (Z7 : Bool) (a1k : Hp) =>
 ((!Z7) = true →
 (L6.length + ([Z6] : List ByteArray).length) * 17 ≤ 140737488355328 ∧
 m1 (IntKind.wrap .i64 (x0.fnodes + 1)) (if x2 > x0.fdepth then x2 else x0.fdepth) x0.fe (x0.fform || (!z6)) (x0.fnamed || (!U1)) (L6 ++ [Z6]) a1k K) ∧
 ((!Z7) = false →
 m1 (IntKind.wrap .i64 (x0.fnodes + 1)) (if x2 > x0.fdepth then x2 else x0.fdepth) x0.fe (x0.fform || (!z6)) (x0.fnamed || (!U1)) L6 a1k K)))) (fun b1I => ?_) (fun b1I => ?_) ?_
     ·replace h := h.1 b1I
      have a7 := b1I
      try simp only [b5 a7]
      refine d6 (cap := []) (fun args w => Tryd.call115 args w) ?_
      refine i7 (Fi := []) (Fr := [bx g0 92 [(vi (IntKind.wrap .i64 (x0.fnodes + 1))), (vi (if x2 > x0.fdepth then x2 else x0.fdepth)), (vi x0.fe), (Value.bool (x0.fform || (!z6))), (Value.bool x0.fnamed), (vs K4)], V3]) b7o (h) (fun c1K a5t e3B D6 b4p d2I d2J d9R => ?_) (fun _ _ _ _ _ q => q.elim)
      obtain ⟨U1, rfl, rfl, h⟩ := d9R
      exact ⟨U1, a5t, by first | rfl | rw [b5 b1I], b4p, d2J, d2I, h⟩
     ·exact ⟨false, a4v, by first | rfl | rw [a5U b1I], b7o, fun _ _ _ => rfl, Hle.refl _, h.2 b1I⟩
     ·clear h
      rintro c1K D6 ⟨U1, a5t, rfl, b4p, d2J, d2I, h⟩
      refine a6 (Pu.g fun hb => by have a7 := hb; first | exact (E0 _) | (simp only [b5 a7]; exact (E0 _)) | (simp only [c8 a7, b5 a7, b5 hb, E6 a7, m4]; exact (E0 _))) ?_
      refine a6 (a0s _ _) ?_
      refine a6 (A9 _) ?_
      refine a6 a6j ?_
      refine t6 b4p Tryd.sizeOf4 (vs := [(Value.bool (x0.fnamed || (!U1)))]) (cs' := [(vi (IntKind.wrap .i64 (x0.fnodes + 1))), (vi (if x2 > x0.fdepth then x2 else x0.fdepth)), (vi x0.fe), (Value.bool (x0.fform || (!z6))), (Value.bool (x0.fnamed || (!U1))), (vs K4)]) rfl rfl (nb rfl) rfl rfl fun K3 b1J d2K => ?_
      refine a6 (A9 _) ?_
      refine a6 a6g ?_
      refine b9 (ld1 Tryd.isAgg47 (b1J.at1 (o := 5) (vs := [(vs K4)]) (nb rfl) rfl)) ?_
      refine d6 (cap := []) (fun args w => Tryd.call116 args w) ?_
      refine i7 (Fi := [V3]) (Fr := [bx g0 92 [(vi (IntKind.wrap .i64 (x0.fnodes + 1))), (vi (if x2 > x0.fdepth then x2 else x0.fdepth)), (vi x0.fe), (Value.bool (x0.fform || (!z6))), (Value.bool (x0.fnamed || (!U1))), (vs K4)]]) (b1J.bring 1) (h K4 V3 a5c) (fun d9S a1k d9T L4 a7I d9U d9V c1L => ?_) (fun _ _ _ _ _ q => q.elim)
      obtain ⟨Z7, rfl, rfl, h⟩ := c1L
      refine a6 (E0 _) ?_
      refine p5 (fun a9r => ?_) (fun a9r => ?_)
      ·replace h := h.1 a9r
       refine a6 (A9 _) ?_
       refine a6 a6g ?_
       refine b9 (ld1 Tryd.isAgg47 ((a7I.bring 1).at1 (o := 5) (vs := [(vs K4)]) (nb rfl) rfl)) ?_
       refine a1A (e := 9) (c := o8) (xs := [Z6]) a7I (b5K _) rfl rfl a2X a2Y (nb rfl) fun e3C e3D d9W d9X d2L e3E => ?_
       obtain ⟨d9Y, h⟩ := h
       refine b8T (s := K4) (xs := L6) (d2L.bring 1) a5c (d9X.srcO ((d2L.bring 1).bring 1)) d9Y fun c1M d9Z d2M c1N e0a e3F => ?_
       refine a6 (A9 _) ?_
       refine a6 a6g ?_
       refine t6 ((e0a.bring 1).drop.bring 1) Tryd.sizeOf47 (vs := [(vs c1M)]) (cs' := [(vi (IntKind.wrap .i64 (x0.fnodes + 1))), (vi (if x2 > x0.fdepth then x2 else x0.fdepth)), (vi x0.fe), (Value.bool (x0.fform || (!z6))), (Value.bool (x0.fnamed || (!U1))), (vs c1M)]) rfl rfl (nb rfl) rfl rfl fun Y5 e0b e3G => ?_
       exact hx1 _ _ (hj1 (IntKind.wrap .i64 (x0.fnodes + 1)) (if x2 > x0.fdepth then x2 else x0.fdepth) x0.fe (x0.fform || (!z6)) (x0.fnamed || (!U1)) (L6 ++ [Z6]) c1M d9Z a1k _ c1N ((e0b.bring 1).bring 1) h)
      ·replace h := h.2 a9r
       exact hx1 _ _ (hj1 (IntKind.wrap .i64 (x0.fnodes + 1)) (if x2 > x0.fdepth then x2 else x0.fdepth) x0.fe (x0.fform || (!z6)) (x0.fnamed || (!U1)) L6 K4 V3 a1k _ a5c (a7I.bring 1) h)
    ·replace h := h.2 a9q
     exact hx1 _ _ (hj1 (IntKind.wrap .i64 (x0.fnodes + 1)) (if x2 > x0.fdepth then x2 else x0.fdepth) x0.fe (x0.fform || (!z6)) x0.fnamed L6 K4 V3 a4v _ a5c ((b7o.bring 1).bring 1) h)
theorem a3x (x0 : b7) (L6 : (List ByteArray)) (x1 : a8) (x2 : Int) {H : Hp} {K : Bool → b7 → (List ByteArray) → Hp → Prop} (h : L2 x0 L6 x1 x2 H K) : R6 x0 L6 x1 x2 H K := by
 intro g0 K4 V3 a5c w I
 refine c8H ?_
 refine a3l x0 L6 x1 x2 g0 K4 V3 a5c I (fun r0 y0 a1E Y7 Y8 H' w' b4q I' hk => ⟨H', _, I', r0, y0, a1E, Y7, Y8, rfl, rfl, b4q, hk⟩) h
def s9 (e0c : Int) (a8q : Bool) (_cr_1j3 : y9) (H : Hp) (K : Bool → Hp → Prop) : Prop :=
 (a8q = true →
 K (decide (e0c = 2)) H) ∧
 (a8q = false →
 K false H)
def B6 (b1K : Int) (a1b : Int) (a8r : Bool) (cr_1j2 : y9) (H : Hp) (K : Bool → Hp → Prop) : Prop :=
 (a8r = true →
 K (decide (b1K = 1)) H) ∧
 (a8r = false →
 (a1b = 6 →
 s9 b1K (decide (a1b = 6)) cr_1j2 H K) ∧
 (¬ (a1b = 6) →
 (a1b = 7 →
 s9 b1K (decide (a1b = 7)) cr_1j2 H K) ∧
 (¬ (a1b = 7) →
 (a1b = 8 →
 s9 b1K (decide (a1b = 8)) cr_1j2 H K) ∧
 (¬ (a1b = 8) →
 (a1b = 9 →
 s9 b1K (decide (a1b = 9)) cr_1j2 H K) ∧
 (¬ (a1b = 9) →
 s9 b1K (decide (a1b = 10)) cr_1j2 H K)))))
def B7 (a6x : Int) (a0Z : Int) (a8s : Bool) (cr_1j1 : y9) (H : Hp) (K : Bool → Hp → Prop) : Prop :=
 (a8s = true →
 K (decide (a6x = 0)) H) ∧
 (a8s = false →
 (a0Z = 4 →
 B6 a6x a0Z (decide (a0Z = 4)) cr_1j1 H K) ∧
 (¬ (a0Z = 4) →
 B6 a6x a0Z (decide (a0Z = 5)) cr_1j1 H K))
def O0 (x0 : y9) (H : Hp) (K : Bool → Hp → Prop) : Prop :=
 R2 (a8.u1 x0) H (fun (_r0_14 : ByteArray) (a0u : Bool) (H_6 : Hp) =>
 ((((!decide (x0.f5.d5 = 1)) && (!decide (x0.f5.X3 = 0))) || ((!a0u) && (!decide (x0.f5.c6 = ⟨#[]⟩)))) = true →
 K false H_6) ∧
 ((((!decide (x0.f5.d5 = 1)) && (!decide (x0.f5.X3 = 0))) || ((!a0u) && (!decide (x0.f5.c6 = ⟨#[]⟩)))) = false →
 (x0.f5.d5 = 1 →
 K ((decide (0 ≤ x0.f5.X3)) && (decide ((x0.f5.y8.n : Int) = 0))) H_6) ∧
 (¬ (x0.f5.d5 = 1) →
 (x0.f5.d5 = 2 →
 B7 (x0.f5.y8.n : Int) x0.f5.d5 (decide (x0.f5.d5 = 2)) x0 H_6 K) ∧
 (¬ (x0.f5.d5 = 2) →
 B7 (x0.f5.y8.n : Int) x0.f5.d5 (decide (x0.f5.d5 = 3)) x0 H_6 K))))
theorem a4w (x0 : y9) {w0 w : World} {ps0 : Nat → Prop} {H0 H : Hp} {K : Bool → Hp → Prop} {R : Value → World → Prop} {E : Pan} (I : Inv w0 ps0 H0 H [] w) (hR : ∀ (r0 : Bool) (H' : Hp) (w' : World) (_ : Inv w0 ps0 H0 H' [] w') (_ : K r0 H'), R (Value.bool r0) w') (h : O0 x0 H K) : b6N (Value.agg (d4 x0.f5).toArray) w R E := by
 unfold O0 at h
 unfold b6N
 refine J2 I (cs := (d4 x0.f5)) rfl fun g_2 w_3 I_4 k_5 => ?_
 refine a6 C2 ?_
 refine a6 a5Y ?_
 refine b9 (ld1 Tryd.isAgg28 (I_4.at1 (o := 3) (vs := [(vs x0.f5.y8)]) (nb rfl) rfl)) ?_
 refine a6 (a0y _ _ _) ?_
 refine b9 (ldA Tryd.isAgg96 Tryd.sizeOf96 rfl (I_4.at1 (o := 0) (vs := (d4 x0.f5)) (nb rfl) rfl)) ?_
 refine a6 (a7c x0) ?_
 refine d6 (cap := []) (fun args w => Tryd.call114 args w) ?_
 refine i7 (Fi := []) (Fr := [bx g_2 96 (d4 x0.f5)]) I_4 (h) (fun a9s H_6 a9t w_7 I_8 a9u k_9 a1K => ?_) (fun _ _ _ _ _ q => q.elim)
 obtain ⟨D4, a0u, rfl, rfl, h⟩ := a1K
 refine a6 (i8 _ _ _ rfl) ?_
 refine a6 (i8 _ _ _ rfl) ?_
 refine a6 C2 ?_
 refine a6 Y2 ?_
 refine b9 (ld1 Tryd.isAgg3 (I_8.at1 (o := 0) (vs := [(vi x0.f5.d5)]) (nb rfl) rfl)) ?_
 refine a6 (T6 _ _ _ _ _ _) ?_
 refine a6 (Pu.g fun hb => by have a7 := hb; first | exact C2 | (simp only [c8 a7, b5 a7, b5 hb, G2 a7]; exact C2) | (simp only [c8 a7, b5 a7, b5 hb, m5 a7, m4]; exact C2)) ?_
 refine a6 (Pu.g fun hb => by have a7 := hb; first | exact a3F | (simp only [b5 a7]; exact a3F) | (simp only [c8 a7, b5 a7, b5 hb, m5 a7, m4]; exact a3F)) ?_
 refine b9 (Ld.g fun hb => by have a7 := hb; first | exact (ld1 Tryd.isAgg2 (I_8.at1 (o := 1) (vs := [(vi x0.f5.X3)]) (nb rfl) rfl)) | (simp only [b5 a7]; exact (ld1 Tryd.isAgg2 (I_8.at1 (o := 1) (vs := [(vi x0.f5.X3)]) (nb rfl) rfl))) | (simp only [c8 a7, b5 a7, b5 hb, m5 a7, m4]; exact (ld1 Tryd.isAgg2 (I_8.at1 (o := 1) (vs := [(vi x0.f5.X3)]) (nb rfl) rfl)))) ?_
 refine a6 (Pu.g fun hb => by have a7 := hb; first | exact (T6 _ _ _ _ _ _) | (simp only [b5 a7]; exact (T6 _ _ _ _ _ _)) | (simp only [c8 a7, b5 a7, b5 hb, m5 a7, m4]; exact (T6 _ _ _ _ _ _))) ?_
 refine a6 (K1 _ _) ?_
 try simp only [K6]
 refine a6 (Pu.g fun hb => by have a7 := hb; first | exact (E0 _) | (simp only [b5 a7]; exact (E0 _)) | (simp only [c8 a7, b5 a7, b5 hb, E6 a7, m4]; exact (E0 _))) ?_
 try simp only [a9Y]
 refine a6 (Pu.e (a3Q _ _ _) (Pu.g fun hb => by obtain ⟨a7, P3⟩ := a8b hb; first | exact C2 | (simp only [c8 a7, b5 a7, c8 P3, b5 P3, b5 hb, m4]; exact C2) | (simp only [c8 a7, b5 a7, c8 P3, b5 P3, b5 hb, G2 hb]; exact C2) | (simp only [c8 a7, b5 a7, c8 P3, b5 P3, b5 hb, m5 hb, m4]; exact C2))) ?_
 refine a6 (Pu.e (a3Q _ _ _) (Pu.g fun hb => by obtain ⟨a7, P3⟩ := a8b hb; first | exact Y3 | (simp only [b5 hb]; exact Y3) | (simp only [c8 a7, b5 a7, c8 P3, b5 P3, b5 hb, G2 hb]; exact Y3) | (simp only [c8 a7, b5 a7, c8 P3, b5 P3, b5 hb, m5 hb, m4]; exact Y3))) ?_
 refine b9 (Ld.e (a3Q _ _ _) (Ld.g fun hb => by obtain ⟨a7, P3⟩ := a8b hb; first | exact (ld1 Tryd.isAgg9 (I_8.at1 (o := 2) (vs := [(Value.string x0.f5.c6)]) (nb rfl) rfl)) | (simp only [b5 hb]; exact (ld1 Tryd.isAgg9 (I_8.at1 (o := 2) (vs := [(Value.string x0.f5.c6)]) (nb rfl) rfl))) | (simp only [c8 a7, b5 a7, c8 P3, b5 P3, b5 hb, G2 hb]; exact (ld1 Tryd.isAgg9 (I_8.at1 (o := 2) (vs := [(Value.string x0.f5.c6)]) (nb rfl) rfl))) | (simp only [c8 a7, b5 a7, c8 P3, b5 P3, b5 hb, m5 hb, m4]; exact (ld1 Tryd.isAgg9 (I_8.at1 (o := 2) (vs := [(Value.string x0.f5.c6)]) (nb rfl) rfl))))) ?_
 refine a6 (Pu.e (a3Q _ _ _) (Pu.g fun hb => by obtain ⟨a7, P3⟩ := a8b hb; first | exact (a9X _ _ _ _ _) | (simp only [b5 hb]; exact (a9X _ _ _ _ _)) | (simp only [c8 a7, b5 a7, c8 P3, b5 P3, b5 hb, G2 hb]; exact (a9X _ _ _ _ _)) | (simp only [c8 a7, b5 a7, c8 P3, b5 P3, b5 hb, m5 hb, m4]; exact (a9X _ _ _ _ _)))) ?_
 refine a6 (Pu.g fun hb => by have a7 := hb; first | exact (K1 _ _) | (simp only [b5 a7, a5B a7]; exact (K1 _ _)) | (simp only [c8 a7, b5 a7, b5 hb, E6 a7, m4]; exact (K1 _ _))) ?_
 refine a6 (a0s _ _) ?_
 refine p5 (fun c1O => ?_) (fun c1O => ?_)
 ·replace h := h.1 c1O
  exact hR false H_6 _ I_8.drop h
 ·replace h := h.2 c1O
  refine a6 C2 ?_
  refine a6 Y2 ?_
  refine b9 (ld1 Tryd.isAgg3 (I_8.at1 (o := 0) (vs := [(vi x0.f5.d5)]) (nb rfl) rfl)) ?_
  refine a6 (g7 _ _ _ _ _ _) ?_
  refine d8 (fun c1P => ?_) (fun c1P => ?_)
  ·replace h := h.1 c1P
   refine a6 C2 ?_
   refine a6 a3F ?_
   refine b9 (ld1 Tryd.isAgg2 (I_8.at1 (o := 1) (vs := [(vi x0.f5.X3)]) (nb rfl) rfl)) ?_
   refine a6 (a9V _ _ _ _ _ _) ?_
   try simp only [K6]
   refine a6 (Pu.g fun hb => by have a7 := hb; first | exact (g7 _ _ _ _ _ _) | (simp only [b5 a7]; exact (g7 _ _ _ _ _ _)) | (simp only [c8 a7, b5 a7, b5 hb, m5 a7, m4]; exact (g7 _ _ _ _ _ _))) ?_
   refine a6 (K1 _ _) ?_
   exact hR ((decide (0 ≤ x0.f5.X3)) && (decide ((x0.f5.y8.n : Int) = 0))) H_6 _ I_8.drop h
  ·replace h := h.2 c1P
   have hj1 : ∀ (a8s : Bool) (H : Hp) (w : World) (_ : Inv w0 ps0 H0 H [bx g_2 96 (d4 x0.f5)] w) (_ : B7 (x0.f5.y8.n : Int) x0.f5.d5 a8s x0 H K), b1w (vi (x0.f5.y8.n : Int)) (vi x0.f5.d5) (Value.bool a8s) w R E := by
    intro a8s H w I h
    unfold b1w
    intro _
    unfold B7 at h
    refine p5 (fun c1Q => ?_) (fun c1Q => ?_)
    ·replace h := h.1 c1Q
     refine a6 (g7 _ _ _ _ _ _) ?_
     exact hR (decide ((x0.f5.y8.n : Int) = 0)) H _ I.drop h
    ·replace h := h.2 c1Q
     have hj2 : ∀ (a8r : Bool) (H : Hp) (w : World) (_ : Inv w0 ps0 H0 H [bx g_2 96 (d4 x0.f5)] w) (_ : B6 (x0.f5.y8.n : Int) x0.f5.d5 a8r x0 H K), b1v (vi (x0.f5.y8.n : Int)) (vi x0.f5.d5) (Value.bool a8r) w R E := by
      intro a8r H w I h
      unfold b1v
      intro _
      unfold B6 at h
      refine p5 (fun a4k => ?_) (fun a4k => ?_)
      ·replace h := h.1 a4k
       refine a6 (g7 _ _ _ _ _ _) ?_
       exact hR (decide ((x0.f5.y8.n : Int) = 1)) H _ I.drop h
      ·replace h := h.2 a4k
       have hj3 : ∀ (a8q : Bool) (H : Hp) (w : World) (_ : Inv w0 ps0 H0 H [bx g_2 96 (d4 x0.f5)] w) (_ : s9 (x0.f5.y8.n : Int) a8q x0 H K), b1u (vi (x0.f5.y8.n : Int)) (Value.bool a8q) w R E := by
        intro a8q H w I h
        unfold b1u
        intro _
        unfold s9 at h
        refine p5 (fun a1G => ?_) (fun a1G => ?_)
        ·replace h := h.1 a1G
         refine a6 (g7 _ _ _ _ _ _) ?_
         exact hR (decide ((x0.f5.y8.n : Int) = 2)) H _ I.drop h
        ·replace h := h.2 a1G
         exact hR false H _ I.drop h
       refine u4 fun j3 hx3 => ?_
       refine a6 (g7 _ _ _ _ _ _) ?_
       refine d8 (fun a4l => ?_) (fun a4l => ?_)
       ·replace h := h.1 a4l
        exact hx3 _ _ (hj3 (decide (x0.f5.d5 = 6)) H _ I h)
       ·replace h := h.2 a4l
        refine a6 (g7 _ _ _ _ _ _) ?_
        refine d8 (fun a4o => ?_) (fun a4o => ?_)
        ·replace h := h.1 a4o
         exact hx3 _ _ (hj3 (decide (x0.f5.d5 = 7)) H _ I h)
        ·replace h := h.2 a4o
         refine a6 (g7 _ _ _ _ _ _) ?_
         refine d8 (fun a4m => ?_) (fun a4m => ?_)
         ·replace h := h.1 a4m
          exact hx3 _ _ (hj3 (decide (x0.f5.d5 = 8)) H _ I h)
         ·replace h := h.2 a4m
          refine a6 (g7 _ _ _ _ _ _) ?_
          refine d8 (fun a4n => ?_) (fun a4n => ?_)
          ·replace h := h.1 a4n
           exact hx3 _ _ (hj3 (decide (x0.f5.d5 = 9)) H _ I h)
          ·replace h := h.2 a4n
           refine a6 (g7 _ _ _ _ _ _) ?_
           exact hx3 _ _ (hj3 (decide (x0.f5.d5 = 10)) H _ I h)
     refine u4 fun j2 hx2 => ?_
     refine a6 (g7 _ _ _ _ _ _) ?_
     refine d8 (fun a9v => ?_) (fun a9v => ?_)
     ·replace h := h.1 a9v
      exact hx2 _ _ (hj2 (decide (x0.f5.d5 = 4)) H _ I h)
     ·replace h := h.2 a9v
      refine a6 (g7 _ _ _ _ _ _) ?_
      exact hx2 _ _ (hj2 (decide (x0.f5.d5 = 5)) H _ I h)
   refine u4 fun j1 hx1 => ?_
   refine a6 (g7 _ _ _ _ _ _) ?_
   refine d8 (fun c1R => ?_) (fun c1R => ?_)
   ·replace h := h.1 c1R
    exact hx1 _ _ (hj1 (decide (x0.f5.d5 = 2)) H_6 _ I_8 h)
   ·replace h := h.2 c1R
    refine a6 (g7 _ _ _ _ _ _) ?_
    exact hx1 _ _ (hj1 (decide (x0.f5.d5 = 3)) H_6 _ I_8 h)
theorem a4S (x0 : y9) {H : Hp} {K : Bool → Hp → Prop} (h : O0 x0 H K) : U7 x0 H K := by
 intro w I
 refine c5C ?_
 refine a4w x0 I (fun r0 H' w' I' hk => ⟨H', _, I', r0, rfl, rfl, hk⟩) h
def m8 (N0 : (List a8)) (H : Hp) (K : Sl → Hp → Prop) : Prop :=
 ∀ (z2 : Sl) (P0 : Hp), Hle H P0 → SlH P0 1 h8 z2 N0 → z2.n ≤ z2.c →
 K z2 P0
def m9 (R7 : Sl) (P1 : Int) (m0 : (List a8)) (j7 : Int) (H : Hp) (n2 : ((List a8) × Int) → Hp → Prop) (K : Sl → Hp → Prop) : Prop :=
 (j7 < P1 →
 (0 : Int) ≤ j7 ∧ (j7 : Int) < R7.n ∧ ∃ x_1 : q7, EltH H R7 j7 4 (d4 x_1) ∧
 a2k x_1 H (fun (G6 : a8) (X8 : Hp) =>
 (m0.length + ([G6] : List a8).length) * 17 ≤ 140737488355328 ∧
 n2 ((m0 ++ [G6]), (IntKind.wrap .i64 (j7 + 1))) X8)) ∧
 (¬ (j7 < P1) →
 m8 m0 H K)
def p8 (x0 : Sl) (H : Hp) (K : Sl → Hp → Prop) : Prop :=
 TL (([], 0) : (List a8) × Int) H fun (s : (List a8) × Int) H n2 => m9 x0 (x0.n : Int) s.1 s.2 H n2 K
theorem O5 (x0 : Sl) {w0 w : World} {ps0 : Nat → Prop} {H0 H : Hp} {K : Sl → Hp → Prop} {R : Value → World → Prop} {E : Pan} (I : Inv w0 ps0 H0 H [] w) (hR : ∀ (r0 : Sl) (H' : Hp) (w' : World) (_ : Inv w0 ps0 H0 H' [] w') (_ : K r0 H'), R (vs r0) w') (h : p8 x0 H K) : b6P (vs x0) (Value.func (.func 151) #[] #[]) w R E := by
 unfold p8 at h
 unfold b6P
 have hj1 : ∀ (N0 : (List a8)) (z2 : Sl) (Fs5j1 : Frag) (H : Hp) (w : World) (_ : RowL 141 1 h8 z2 N0 Fs5j1) (_ : Inv w0 ps0 H0 H [Fs5j1] w) (_ : m8 N0 H K), b1x (vs z2) w R E := by
  intro N0 z2 Fs5j1 H w a6q I h
  unfold b1x
  intro _
  unfold m8 at h
  obtain ⟨P0, a4p, a7G, a4q, a3u⟩ := Inv.freezeC I a6q (by decide)
  replace h := h z2 P0 a7G a4q a3u
  exact hR z2 P0 _ a4p h
 refine u4 fun j1 hx1 => ?_
 refine a6 (a0y _ _ _) ?_
 obtain ⟨a1H, T9, a9e, a9f⟩ := h
 refine F7 (J := fun n l w => ∃ (s : (List a8) × Int) (H : Hp) (N1 : Sl) (Fs5l2 : Frag) , n = T9 s ∧ l = (match s with | (m0, j7) => [(vs N1), (vi j7)]) ∧ (match s with | (m0, j7) => RowL 141 1 h8 N1 m0 Fs5l2) ∧ (match s with | (m0, j7) => Inv w0 ps0 H0 H [Fs5l2] w) ∧ a1H s H) ⟨_, ([], 0), H, (Sl.mk none 0 0), [], rfl, rfl, (RowL.nil D5 F8), I.nil, a9e⟩ ?_
 rintro c1s τ_50 w next2 ⟨⟨m0, j7⟩, H, N1, Fs5l2, rfl, a1I, Z3, I, a9g⟩ hn2
 dsimp only at a1I I Z3
 simp only [List.map_cons, List.map_nil, List.cons.injEq, and_true] at a1I
 obtain ⟨e5, e10⟩ := a1I
 simp only [e5, e10]
 obtain ⟨n2, hm2, h⟩ : ∃ n2 : ((List a8) × Int) → Hp → Prop, (∀ s' H', n2 s' H' → a1H s' H' ∧ T9 s' < T9 (m0, j7)) ∧ m9 x0 (x0.n : Int) m0 j7 H n2 K := ⟨_, fun _ _ h => h, a9f (m0, j7) H (fun s' H' => a1H s' H' ∧ T9 s' < T9 (m0, j7)) a9g (fun _ _ a b => ⟨a, b⟩)⟩
 unfold b5Q
 unfold m9 at h
 refine a6 (D1 _ _ _ _ _ _) ?_
 refine d8 (fun Z4 => ?_) (fun Z4 => ?_)
 ·replace h := h.1 Z4
  obtain ⟨h_4, h_5, x_1, h_7, h⟩ := h
  obtain ⟨g_2, o_3, h_6, h_7⟩ := h_7
  refine a6 (a5Z h_6 _ _ _ _ h_4 h_5) ?_
  refine b9 (ldA (vs := (d4 x_1)) Tryd.isAgg30 Tryd.sizeOf30 rfl (I.atH h_7)) ?_
  refine F6 I Tryd.zeroValue30 (cs := [(vi 0), (vi 0), (Value.string ⟨#[]⟩), (Value.slice none 0 0)]) rfl fun g_9 l9 a2D b4h => ?_
  refine t6 a2D Tryd.sizeOf30 (vs := (d4 x_1)) (cs' := (d4 x_1)) rfl rfl (nb rfl) rfl rfl fun a0z a4r c1t => ?_
  refine b9 (ldA Tryd.isAgg30 Tryd.sizeOf30 rfl (a4r.at1 (o := 0) (vs := (d4 x_1)) (nb rfl) rfl)) ?_
  refine d6 (cap := []) (fun args w => Tryd.call151 args w) ?_
  refine i7 (Fi := []) (Fr := [bx g_9 30 (d4 x_1), Fs5l2]) a4r (h) (fun b7b X8 b7c a1h a0N b7d b7e a6r => ?_) (fun _ _ _ _ _ q => q.elim)
  obtain ⟨G6, rfl, rfl, h⟩ := a6r
  refine a1A (e := 141) (c := h8) (xs := [G6]) a0N (a8f _) rfl rfl D5 F8 (nb rfl) fun b4i b1D D8 a6s a2E b7f => ?_
  obtain ⟨a6t, h⟩ := h
  refine a7p (s := N1) (xs := m0) (a2E.bring 2) Z3 (a6s.srcO ((a2E.bring 2).bring 1)) a6t fun a9h a9i D9 a6u a3v b7g => ?_
  refine a6 (B2 _ _ _ _ _ _) ?_
  exact hn2 _ _ _ (hm2 _ _ h).2 ⟨((m0 ++ [G6]), (IntKind.wrap .i64 (j7 + 1))), X8, a9h, a9i, rfl, rfl, a6u, ((a3v.bring 1).drop.bring 1).drop, (hm2 _ _ h).1⟩
 ·replace h := h.2 Z4
  exact hx1 _ _ (hj1 m0 N1 Fs5l2 H _ Z3 I h)
theorem P4 (x0 : Sl) {H : Hp} {K : Sl → Hp → Prop} (h : p8 x0 H K) : j9 x0 H K := by
 intro w I
 refine c5G ?_
 refine O5 x0 I (fun r0 H' w' I' hk => ⟨H', _, I', r0, rfl, rfl, hk⟩) h
def S7 (x0 : r6) (H : Hp) (K : a8 → Hp → Prop) : Prop :=
 K (a8.B0 (B9.mk x0)) H
theorem a5G (x0 : r6) {w0 w : World} {ps0 : Nat → Prop} {H0 H : Hp} {K : a8 → Hp → Prop} {R : Value → World → Prop} {E : Pan} (I : Inv w0 ps0 H0 H [] w) (hR : ∀ (r0 : a8) (H' : Hp) (w' : World) (_ : Inv w0 ps0 H0 H' [] w') (_ : K r0 H'), R (m3 r0) w') (h : S7 x0 H K) : b6V (Value.agg (f6 x0).toArray) w R E := by
 unfold S7 at h
 unfold b6V
 refine J2 I (cs := (f6 x0)) rfl fun g_2 w_3 I_4 k_5 => ?_
 refine b9 (ldA Tryd.isAgg33 Tryd.sizeOf33 rfl (I_4.at1 (o := 0) (vs := (f6 x0)) (nb rfl) rfl)) ?_
 refine a6 (b3l _ _ _ _ _ _ _ _) ?_
 refine a6 (b1c (B9.mk x0)) ?_
 exact hR (a8.B0 (B9.mk x0)) H _ I_4.drop h
theorem a6A (x0 : r6) {H : Hp} {K : a8 → Hp → Prop} (h : S7 x0 H K) : a2l x0 H K := by
 intro w I
 refine c5R ?_
 refine a5G x0 I (fun r0 H' w' I' hk => ⟨H', _, I', r0, rfl, rfl, hk⟩) h
def O1 (x0 : E3) (H : Hp) (K : Bool → Hp → Prop) : Prop :=
 K ((decide (0 ≤ x0.D3.L9)) && (decide (x0.D3.L9 ≤ 2147483647))) H
theorem a4x (x0 : E3) {w0 w : World} {ps0 : Nat → Prop} {H0 H : Hp} {K : Bool → Hp → Prop} {R : Value → World → Prop} {E : Pan} (I : Inv w0 ps0 H0 H [] w) (hR : ∀ (r0 : Bool) (H' : Hp) (w' : World) (_ : Inv w0 ps0 H0 H' [] w') (_ : K r0 H'), R (Value.bool r0) w') (h : O1 x0 H K) : b6W (Value.agg (c7 x0.D3).toArray) w R E := by
 unfold O1 at h
 unfold b6W
 refine J2 I (cs := (c7 x0.D3)) rfl fun g_2 w_3 I_4 k_5 => ?_
 refine a6 a1q ?_
 refine a6 a0S ?_
 refine b9 (ld1 Tryd.isAgg3 (I_4.at1 (o := 1) (vs := [(vi x0.D3.L9)]) (nb rfl) rfl)) ?_
 refine a6 (a9V _ _ _ _ _ _) ?_
 refine a6 (Pu.g fun hb => by have a7 := hb; first | exact a1q | (simp only [c8 a7, b5 a7, b5 hb, G2 a7]; exact a1q) | (simp only [c8 a7, b5 a7, b5 hb, m5 a7, m4]; exact a1q)) ?_
 refine a6 (Pu.g fun hb => by have a7 := hb; first | exact a0S | (simp only [b5 a7]; exact a0S) | (simp only [c8 a7, b5 a7, b5 hb, m5 a7, m4]; exact a0S)) ?_
 refine b9 (Ld.g fun hb => by have a7 := hb; first | exact (ld1 Tryd.isAgg3 (I_4.at1 (o := 1) (vs := [(vi x0.D3.L9)]) (nb rfl) rfl)) | (simp only [b5 a7]; exact (ld1 Tryd.isAgg3 (I_4.at1 (o := 1) (vs := [(vi x0.D3.L9)]) (nb rfl) rfl))) | (simp only [c8 a7, b5 a7, b5 hb, m5 a7, m4]; exact (ld1 Tryd.isAgg3 (I_4.at1 (o := 1) (vs := [(vi x0.D3.L9)]) (nb rfl) rfl)))) ?_
 refine a6 (Pu.g fun hb => by have a7 := hb; first | exact (a1o _ _ _ _ _ _) | (simp only [b5 a7]; exact (a1o _ _ _ _ _ _)) | (simp only [c8 a7, b5 a7, b5 hb, m5 a7, m4]; exact (a1o _ _ _ _ _ _))) ?_
 refine a6 (K1 _ _) ?_
 exact hR ((decide (0 ≤ x0.D3.L9)) && (decide (x0.D3.L9 ≤ 2147483647))) H _ I_4.drop h
theorem a4T (x0 : E3) {H : Hp} {K : Bool → Hp → Prop} (h : O1 x0 H K) : a1g x0 H K := by
 intro w I
 refine c5T ?_
 refine a4x x0 I (fun r0 H' w' I' hk => ⟨H', _, I', r0, rfl, rfl, hk⟩) h
def N3 (_x0 : E3) (H : Hp) (K : Sl → Hp → Prop) : Prop :=
 K (Sl.mk none 0 0) H
theorem a3J (x0 : E3) {w0 w : World} {ps0 : Nat → Prop} {H0 H : Hp} {K : Sl → Hp → Prop} {R : Value → World → Prop} {E : Pan} (I : Inv w0 ps0 H0 H [] w) (hR : ∀ (r0 : Sl) (H' : Hp) (w' : World) (_ : Inv w0 ps0 H0 H' [] w') (_ : K r0 H'), R (vs r0) w') (h : N3 x0 H K) : b6X (Value.agg (c7 x0.D3).toArray) w R E := by
 unfold N3 at h
 unfold b6X
 refine J2 I (cs := (c7 x0.D3)) rfl fun g_2 w_3 I_4 k_5 => ?_
 exact hR (Sl.mk none 0 0) H _ I_4.drop h
theorem a4y (x0 : E3) {H : Hp} {K : Sl → Hp → Prop} (h : N3 x0 H K) : a0L x0 H K := by
 intro w I
 refine c5V ?_
 refine a3J x0 I (fun r0 H' w' I' hk => ⟨H', _, I', r0, rfl, rfl, hk⟩) h
end Go.Proofs.YthldnpmfelniiaaDoor
