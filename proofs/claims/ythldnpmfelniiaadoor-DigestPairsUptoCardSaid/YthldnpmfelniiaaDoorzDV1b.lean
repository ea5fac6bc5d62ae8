/- Typed formulas of the program's functions, and the theorems that the contracts follow from them; printed by lift.py off the code. -/
import Derived.Test.YthldnpmfelniiaaDoorzDV1
namespace Go.Proofs.YthldnpmfelniiaaDoor
open Go.RowKit
set_option maxRecDepth 100000
set_option maxHeartbeats 2000000
def B2 (_s0j5 : Sl) (b8n : Int) (_s9j5 : Sl) (_s10j5 : Int) (e9V : Int) (H : Hp) (n4 : (Int × Int) → Hp → Prop) (_K : Sl → Hp → Prop) : Prop :=
 n4 (b8n, (IntKind.wrap .i64 (e9V + 1))) H
def B3 (b7d : (List b9)) (H : Hp) (K : Sl → Hp → Prop) : Prop :=
 ∀ (a7n : Sl) (b2f : Hp), Hle H b2f → SlH b2f 1 m6 a7n b7d → a7n.n ≤ a7n.c →
 K a7n b2f
def B4 (a1s : Sl) (d3J : Int) (a3l : (List b9)) (a2D : Int) (H : Hp) (n3 : ((List b9) × Int) → Hp → Prop) (K : Sl → Hp → Prop) : Prop :=
 (a2D < d3J →
 (0 : Int) ≤ a2D ∧ (a2D : Int) < a1s.n ∧ ∃ c5R : Sl, EltH H a1s a2D 1 [(vs c5R)] ∧
 ∃ b7e : List b9, SlH H 1 m6 c5R b7e ∧ (a3l.length + b7e.length) * 17 ≤ 140737488355328 ∧
 n3 ((a3l ++ b7e), (IntKind.wrap .i64 (a2D + 1))) H) ∧
 (¬ (a2D < d3J) →
 B3 a3l H K)
def B5 (e5T : Sl) (a2S : Int) (H : Hp) (K : Sl → Hp → Prop) : Prop :=
 N6 a2S H (fun (c5S : (List b9)) (H_9 : Hp) =>
 TL ((c5S, 0) : (List b9) × Int) H_9 fun (s : (List b9) × Int) H n3 => B4 e5T (e5T.n : Int) s.1 s.2 H n3 K)
def B6 (e5U : Sl) (a3m : Sl) (c5T : Int) (a6r : Int) (a2k : Int) (H : Hp) (n4 : (Int × Int) → Hp → Prop) (K : Sl → Hp → Prop) : Prop :=
 (a2k < c5T →
 (0 : Int) ≤ a2k ∧ (a2k : Int) < a3m.n ∧ ∃ x_1 : Sl, EltH H a3m a2k 1 [(vs x_1)] ∧
 ((IntKind.wrap .i64 (a6r + (x_1.n : Int))) < 0 →
 False) ∧
 (¬ ((IntKind.wrap .i64 (a6r + (x_1.n : Int))) < 0) →
 B2 e5U (IntKind.wrap .i64 (a6r + (x_1.n : Int))) a3m c5T a2k H n4 K)) ∧
 (¬ (a2k < c5T) →
 B5 e5U a6r H K)
def C5 (x0 : Sl) (H : Hp) (K : Sl → Hp → Prop) : Prop :=
 TL ((0, 0) : Int × Int) H fun (s : Int × Int) H n4 => B6 x0 x0 (x0.n : Int) s.1 s.2 H n4 K
theorem a1t (x0 : Sl) {w0 w : World} {ps0 : Nat → Prop} {H0 H : Hp} {K : Sl → Hp → Prop} {R : Value → World → Prop} {E : Pan} (I : Inv w0 ps0 H0 H [] w) (hR : ∀ (r0 : Sl) (H' : Hp) (w' : World) (_ : Inv w0 ps0 H0 H' [] w') (_ : K r0 H'), R (vs r0) w') (h : C5 x0 H K) : F94 (vs x0) w R E := by
 unfold C5 at h
 unfold F94
 have hj1 : ∀ (a2S : Int) (H : Hp) (w : World) (_ : Inv w0 ps0 H0 H [] w) (_ : B5 x0 a2S H K), c0Y (vs x0) (vi a2S) w R E := by
  intro a2S H w I h
  unfold c0Y
  intro _
  unfold B5 at h
  refine d7 (cap := []) (fun args w => Tryd.call120 args w) ?_
  refine i6 (Fi := []) (Fr := []) I (h) (fun f7V H_9 e5V k9 a1q d1o b0x f3h => ?_) (fun _ _ _ _ _ q => q.elim)
  obtain ⟨c5S, e5W, e5X, rfl, rfl, e5Y, h⟩ := f3h
  have hj2 : ∀ (b7d : (List b9)) (a7n : Sl) (Fs6j2 : Frag) (H : Hp) (w : World) (_ : RowL 141 1 m6 a7n b7d Fs6j2) (_ : Inv w0 ps0 H0 H [Fs6j2] w) (_ : B3 b7d H K), c0X (vs a7n) w R E := by
   intro b7d a7n Fs6j2 H w e9W I h
   unfold c0X
   intro _
   unfold B3 at h
   obtain ⟨b2f, a7N, f3i, b2a, f3j⟩ := Inv.freezeC I e9W (by decide)
   replace h := h a7n b2f f3i b2a f3j
   exact hR a7n b2f _ a7N h
  refine t7 fun j2 hx2 => ?_
  refine a8 (b6D _ _ _) ?_
  obtain ⟨d1p, c1R, f3k, f3l⟩ := h
  refine y9 (J := fun n l w => ∃ (s : (List b9) × Int) (H : Hp) (b7f : Sl) (Fs6l3 : Frag) , n = c1R s ∧ l = (match s with | (a3l, a2D) => [(vs b7f), (vi a2D)]) ∧ (match s with | (a3l, a2D) => RowL 141 1 m6 b7f a3l Fs6l3) ∧ (match s with | (a3l, a2D) => Inv w0 ps0 H0 H [Fs6l3] w) ∧ d1p s H) ⟨_, (c5S, 0), H_9, e5W, e5X, rfl, rfl, e5Y, a1q, f3k⟩ ?_
  rintro f7W τ_46 w next3 ⟨⟨a3l, a2D⟩, H, b7f, Fs6l3, rfl, d1q, c5U, I, f3m⟩ hn3
  dsimp only at d1q I c5U
  simp only [List.map_cons, List.map_nil, List.cons.injEq, and_true] at d1q
  obtain ⟨e6, e27⟩ := d1q
  simp only [e6, e27]
  obtain ⟨n3, hm3, h⟩ : ∃ n3 : ((List b9) × Int) → Hp → Prop, (∀ s' H', n3 s' H' → d1p s' H' ∧ c1R s' < c1R (a3l, a2D)) ∧ B4 x0 (x0.n : Int) a3l a2D H n3 K := ⟨_, fun _ _ h => h, f3l (a3l, a2D) H (fun s' H' => d1p s' H' ∧ c1R s' < c1R (a3l, a2D)) f3m (fun _ _ a b => ⟨a, b⟩)⟩
  unfold c8W
  unfold B4 at h
  refine a8 (C4 _ _ _ _ _ _) ?_
  refine h9 (fun a4Z => ?_) (fun a4Z => ?_)
  ·replace h := h.1 a4Z
   obtain ⟨a6V, c1S, c5R, b5P, h⟩ := h
   obtain ⟨e5Z, f7X, c1T, b5P⟩ := b5P
   refine a8 (b8T c1T _ _ _ _ a6V c1S) ?_
   refine b7 (ld1 (v := (vs c5R)) Tryd.isAgg97 (I.atH b5P)) ?_
   obtain ⟨b7e, f3n, h⟩ := h
   obtain ⟨f3o, h⟩ := h
   refine b3j (s := b7f) (xs := a3l) I c5U (SlH.src I f3n N0) f3o fun b5L b8l u7 b1Z a6X c5O => ?_
   refine a8 (s6 _ _ _ _ _ _) ?_
   exact hn3 _ _ _ (hm3 _ _ h).2 ⟨((a3l ++ b7e), (IntKind.wrap .i64 (a2D + 1))), H, b5L, b8l, rfl, rfl, b1Z, a6X, (hm3 _ _ h).1⟩
  ·replace h := h.2 a4Z
   exact hx2 _ _ (hj2 a3l b7f Fs6l3 H _ c5U I h)
 refine t7 fun j1 hx1 => ?_
 refine a8 (b6D _ _ _) ?_
 obtain ⟨d1r, c1U, f3p, f3q⟩ := h
 refine y9 (J := fun n l w => ∃ (s : Int × Int) (H : Hp) , n = c1U s ∧ l = (match s with | (a6r, a2k) => [(vi a6r), (vi a2k)]) ∧ (match s with | (a6r, a2k) => Inv w0 ps0 H0 H [] w) ∧ d1r s H) ⟨_, (0, 0), H, rfl, rfl, I, f3p⟩ ?_
 rintro f7Y τ_55 w next4 ⟨⟨a6r, a2k⟩, H, rfl, d1s, I, c1V⟩ hn4
 dsimp only at d1s I
 simp only [List.map_cons, List.map_nil, List.cons.injEq, and_true] at d1s
 obtain ⟨e3, e11⟩ := d1s
 simp only [e3, e11]
 obtain ⟨n4, hm4, h⟩ : ∃ n4 : (Int × Int) → Hp → Prop, (∀ s' H', n4 s' H' → d1r s' H' ∧ c1U s' < c1U (a6r, a2k)) ∧ B6 x0 x0 (x0.n : Int) a6r a2k H n4 K := ⟨_, fun _ _ h => h, f3q (a6r, a2k) H (fun s' H' => d1r s' H' ∧ c1U s' < c1U (a6r, a2k)) c1V (fun _ _ a b => ⟨a, b⟩)⟩
 unfold c8X
 unfold B6 at h
 refine a8 (C4 _ _ _ _ _ _) ?_
 refine h9 (fun d1t => ?_) (fun d1t => ?_)
 ·replace h := h.1 d1t
  have hj5 : ∀ (b8n : Int) (H : Hp) (w : World) (_ : Inv w0 ps0 H0 H [] w) (_ : B2 x0 b8n x0 (x0.n : Int) a2k H n4 K), c0Z (vs x0) (vi b8n) (vs x0) (vi (x0.n : Int)) (vi a2k) w next4 R E := by
   intro b8n H w I h
   unfold c0Z
   intro _
   unfold B2 at h
   refine a8 (s6 _ _ _ _ _ _) ?_
   exact hn4 _ _ _ (hm4 _ _ h).2 ⟨(b8n, (IntKind.wrap .i64 (a2k + 1))), H, rfl, rfl, I, (hm4 _ _ h).1⟩
  refine t7 fun j5 hx5 => ?_
  obtain ⟨h_4, h_5, x_1, h_7, h⟩ := h
  obtain ⟨g_2, o_3, h_6, h_7⟩ := h_7
  refine a8 (b8T h_6 _ _ _ _ h_4 h_5) ?_
  refine b7 (ld1 (v := (vs x_1)) Tryd.isAgg97 (I.atH h_7)) ?_
  refine a8 (a9R _ _ _) ?_
  refine a8 (s6 _ _ _ _ _ _) ?_
  refine a8 (C4 _ _ _ _ _ _) ?_
  refine h9 (fun c_8 => ?_) (fun c_8 => ?_)
  ·replace h := h.1 c_8
   refine a8 (c8e _) ?_
   exact h.elim
  ·replace h := h.2 c_8
   exact hx5 _ _ (hj5 (IntKind.wrap .i64 (a6r + (x_1.n : Int))) H _ I h)
 ·replace h := h.2 d1t
  exact hx1 _ _ (hj1 a6r H _ I h)
theorem a1C (x0 : Sl) {H : Hp} {K : Sl → Hp → Prop} (h : C5 x0 H K) : y7 x0 H K := by
 intro w I
 refine e2K ?_
 refine a1t x0 I (fun r0 H' w' I' hk => ⟨H', _, I', r0, rfl, rfl, hk⟩) h
def Q2 (x0 : (List ByteArray)) (x1 : ByteArray) (H : Hp) (K : Bool → Hp → Prop) : Prop :=
 a0r x0 x1 H (fun (T4 : Int) (H_1 : Hp) =>
 K (decide (0 ≤ T4)) H_1)
theorem a5i (x0 : (List ByteArray)) (x1 : ByteArray) (sx0 : Sl) (Fx0 : Frag) (hx0 : RowL 9 1 C9 sx0 x0 Fx0) {w0 w : World} {ps0 : Nat → Prop} {H0 H : Hp} {K : Bool → Hp → Prop} {R : Value → World → Prop} {E : Pan} (I : Inv w0 ps0 H0 H [Fx0] w) (hR : ∀ (r0 : Bool) (H' : Hp) (w' : World) (_ : Inv w0 ps0 H0 H' [Fx0] w') (_ : K r0 H'), R (Value.bool r0) w') (h : Q2 x0 x1 H K) : c4X (vs sx0) (Value.string x1) w R E := by
 unfold Q2 at h
 unfold c4X
 refine d7 (cap := []) (fun args w => Tryd.call127 args w) ?_
 refine i6 (Fi := [Fx0]) (Fr := []) I (h sx0 Fx0 hx0) (fun v_5 H_1 F_6 w_2 I_3 l_8 k_4 q_7 => ?_) (fun _ _ _ _ _ q => q.elim)
 obtain ⟨T4, rfl, rfl, h⟩ := q_7
 refine a8 (b6x _ _ _ _ _ _) ?_
 exact hR (decide (0 ≤ T4)) H_1 _ I_3 h
theorem a5L (x0 : (List ByteArray)) (x1 : ByteArray) {H : Hp} {K : Bool → Hp → Prop} (h : Q2 x0 x1 H K) : K4 x0 x1 H K := by
 intro sx0 Fx0 hx0 w I
 refine d5C ?_
 refine a5i x0 x1 sx0 Fx0 hx0 I (fun r0 H' w' I' hk => ⟨H', _, I', r0, rfl, rfl, hk⟩) h
def s8 (a8r : Int) (a8s : Int) (a8t : Int) (a8u : Bool) (a8v : Bool) (a6Z : (List ByteArray)) (H : Hp) (K : Bool → f4 → (List ByteArray) → Hp → Prop) : Prop :=
 K true (f4.mk a8r a8s a8t a8u a8v (Sl.mk none 0 0)) a6Z H
def V0 (x0 : f4) (W7 : (List ByteArray)) (x1 : b9) (x2 : Int) (H : Hp) (K : Bool → f4 → (List ByteArray) → Hp → Prop) : Prop :=
 (4096 < (IntKind.wrap .i64 (x0.fnodes + 1)) →
 K false (f4.mk (IntKind.wrap .i64 (x0.fnodes + 1)) x0.fdepth 33 x0.fform x0.fnamed (Sl.mk none 0 0)) W7 H) ∧
 (¬ (4096 < (IntKind.wrap .i64 (x0.fnodes + 1))) →
 (64 < x2 →
 K false (f4.mk (IntKind.wrap .i64 (x0.fnodes + 1)) x0.fdepth 32 x0.fform x0.fnamed (Sl.mk none 0 0)) W7 H) ∧
 (¬ (64 < x2) →
 TG (x0.fform = false) (a3f x1 H) false H (fun (F8 : Bool) (b4h : Hp) =>
 a0P x1 b4h (fun (a3o : ByteArray) (b4R : Bool) (a9h : Hp) =>
 (b4R = true →
 TG (x0.fnamed = false) (a2A a3o a9h) false a9h (fun (Q1 : Bool) (Z6 : Hp) =>
 K4 W7 a3o Z6 (fun (a3p : Bool) (a4x : Hp) =>
 ((!a3p) = true →
 (W7.length + ([a3o] : List ByteArray).length) * 17 ≤ 140737488355328 ∧
 s8 (IntKind.wrap .i64 (x0.fnodes + 1)) (if x2 > x0.fdepth then x2 else x0.fdepth) x0.fe (x0.fform || (!F8)) (x0.fnamed || (!Q1)) (W7 ++ [a3o]) a4x K) ∧
 ((!a3p) = false →
 s8 (IntKind.wrap .i64 (x0.fnodes + 1)) (if x2 > x0.fdepth then x2 else x0.fdepth) x0.fe (x0.fform || (!F8)) (x0.fnamed || (!Q1)) W7 a4x K)))) ∧
 (b4R = false →
 s8 (IntKind.wrap .i64 (x0.fnodes + 1)) (if x2 > x0.fdepth then x2 else x0.fdepth) x0.fe (x0.fform || (!F8)) x0.fnamed W7 a9h K)))))
theorem a7A (x0 : f4) (W7 : (List ByteArray)) (x1 : b9) (x2 : Int) (g0 : Nat) (U5 : Sl) (a2j : Frag) (b0a : RowL 9 1 C9 U5 W7 a2j) {w0 w : World} {ps0 : Nat → Prop} {H0 H : Hp} {K : Bool → f4 → (List ByteArray) → Hp → Prop} {R : Value → World → Prop} {E : Pan} (I : Inv w0 ps0 H0 H [bx g0 92 [(vi x0.fnodes), (vi x0.fdepth), (vi x0.fe), (Value.bool x0.fform), (Value.bool x0.fnamed), (vs U5)], a2j] w) (hR : ∀ (r0 : Bool) (y0 : f4) (a4W : (List ByteArray)) (a3b : Sl) (a3d : Frag) (H' : Hp) (w' : World) (_ : RowL 9 1 C9 a3b a4W a3d) (_ : Inv w0 ps0 H0 H' [bx g0 92 [(vi y0.fnodes), (vi y0.fdepth), (vi y0.fe), (Value.bool y0.fform), (Value.bool y0.fnamed), (vs a3b)], a3d] w') (_ : K r0 y0 a4W H'), R (Value.bool r0) w') (h : V0 x0 W7 x1 x2 H K) : F90 (Value.pointer (some ⟨g0, 0, none⟩)) (u2 x1) (vi x2) w R E := by
 unfold V0 at h
 unfold F90
 refine a8 (q6 _) ?_
 refine a8 b1E ?_
 refine b7 (ld1 Tryd.isAgg3 (I.at1 (o := 0) (vs := [(vi x0.fnodes)]) (nb rfl) rfl)) ?_
 refine a8 (s6 _ _ _ _ _ _) ?_
 refine a8 (q6 _) ?_
 refine a8 b1E ?_
 refine o8 I Tryd.sizeOf3 (vs := [(vi (IntKind.wrap .i64 (x0.fnodes + 1)))]) (cs' := [(vi (IntKind.wrap .i64 (x0.fnodes + 1))), (vi x0.fdepth), (vi x0.fe), (Value.bool x0.fform), (Value.bool x0.fnamed), (vs U5)]) rfl rfl (nb rfl) rfl rfl fun w_1 I_2 k_3 => ?_
 refine a8 (q6 _) ?_
 refine a8 b1E ?_
 refine b7 (ld1 Tryd.isAgg3 (I_2.at1 (o := 0) (vs := [(vi (IntKind.wrap .i64 (x0.fnodes + 1)))]) (nb rfl) rfl)) ?_
 refine a8 (b0P _ _ _ _ _ _) ?_
 refine h9 (fun b5Q => ?_) (fun b5Q => ?_)
 ·replace h := h.1 b5Q
  refine a8 (q6 _) ?_
  refine a8 a5R ?_
  refine o8 I_2 Tryd.sizeOf34 (vs := [(vi 33)]) (cs' := [(vi (IntKind.wrap .i64 (x0.fnodes + 1))), (vi x0.fdepth), (vi 33), (Value.bool x0.fform), (Value.bool x0.fnamed), (vs U5)]) rfl rfl (nb rfl) rfl rfl fun w_4 I_5 k_6 => ?_
  exact hR false (f4.mk (IntKind.wrap .i64 (x0.fnodes + 1)) x0.fdepth 33 x0.fform x0.fnamed (Sl.mk none 0 0)) W7 U5 a2j H _ b0a ((I_5.bring 1).bring 1) h
 ·replace h := h.2 b5Q
  refine a8 (b0P _ _ _ _ _ _) ?_
  refine h9 (fun b5R => ?_) (fun b5R => ?_)
  ·replace h := h.1 b5R
   refine a8 (q6 _) ?_
   refine a8 a5R ?_
   refine o8 I_2 Tryd.sizeOf34 (vs := [(vi 32)]) (cs' := [(vi (IntKind.wrap .i64 (x0.fnodes + 1))), (vi x0.fdepth), (vi 32), (Value.bool x0.fform), (Value.bool x0.fnamed), (vs U5)]) rfl rfl (nb rfl) rfl rfl fun w_7 I_8 k_9 => ?_
   exact hR false (f4.mk (IntKind.wrap .i64 (x0.fnodes + 1)) x0.fdepth 32 x0.fform x0.fnamed (Sl.mk none 0 0)) W7 U5 a2j H _ b0a ((I_8.bring 1).bring 1) h
  ·replace h := h.2 b5R
   refine a8 (q6 _) ?_
   refine a8 b6C ?_
   refine b7 (ld1 Tryd.isAgg3 (I_2.at1 (o := 1) (vs := [(vi x0.fdepth)]) (nb rfl) rfl)) ?_
   refine a8 (c7Z _ _ _ _ _) ?_
   refine a8 (q6 _) ?_
   refine a8 b6C ?_
   refine o8 I_2 Tryd.sizeOf3 (vs := [(vi (if x2 > x0.fdepth then x2 else x0.fdepth))]) (cs' := [(vi (IntKind.wrap .i64 (x0.fnodes + 1))), (vi (if x2 > x0.fdepth then x2 else x0.fdepth)), (vi x0.fe), (Value.bool x0.fform), (Value.bool x0.fnamed), (vs U5)]) rfl rfl (nb rfl) rfl rfl fun k9 a1q b0x => ?_
   refine a8 (q6 _) ?_
   refine a8 b1G ?_
   refine b7 (ld1 Tryd.isAgg4 (a1q.at1 (o := 3) (vs := [(Value.bool x0.fform)]) (nb rfl) rfl)) ?_
   try simp only [J1]
   refine R3 (D := fun d1u o2 => ∃ (F8 : Bool) (b4h : Hp), d1u = (gv x0.fform false (Value.bool F8)) ∧ (Inv w0 ps0 H0 b4h [bx g0 92 [(vi (IntKind.wrap .i64 (x0.fnodes + 1))), (vi (if x2 > x0.fdepth then x2 else x0.fdepth)), (vi x0.fe), (Value.bool x0.fform), (Value.bool x0.fnamed), (vs U5)], a2j] o2) ∧ (∀ i, i < k9.heap.size → ¬ inF [] i → o2.heap[i]? = k9.heap[i]?) ∧ Hle H b4h ∧ (a0P x1 b4h (fun (a3o : ByteArray) (b4R : Bool) (a9h : Hp) =>
 (b4R = true →
 TG (x0.fnamed = false) (a2A a3o a9h) false a9h (fun (Q1 : Bool) (Z6 : Hp) =>
 K4 W7 a3o Z6 (fun (a3p : Bool) (a4x : Hp) =>
 ((!a3p) = true →
 (W7.length + ([a3o] : List ByteArray).length) * 17 ≤ 140737488355328 ∧
 s8 (IntKind.wrap .i64 (x0.fnodes + 1)) (if x2 > x0.fdepth then x2 else x0.fdepth) x0.fe (x0.fform || (!F8)) (x0.fnamed || (!Q1)) (W7 ++ [a3o]) a4x K) ∧
 ((!a3p) = false →
 s8 (IntKind.wrap .i64 (x0.fnodes + 1)) (if x2 > x0.fdepth then x2 else x0.fdepth) x0.fe (x0.fform || (!F8)) (x0.fnamed || (!Q1)) W7 a4x K)))) ∧
 (b4R = false →
 s8 (IntKind.wrap .i64 (x0.fnodes + 1)) (if x2 > x0.fdepth then x2 else x0.fdepth) x0.fe (x0.fform || (!F8)) x0.fnamed W7 a9h K)))) (fun b8o => ?_) (fun b8o => ?_) ?_
   ·replace h := h.1 b8o
    have a7 := b8o
    try simp only [b3 a7]
    refine b1i a1q h (fun F8 b4h o2 c1W c1X d1v h => ?_)
    exact ⟨F8, b4h, by first | rfl | rw [b3 b8o], c1W, d1v, c1X, h⟩
   ·exact ⟨false, H, by first | rfl | rw [a0X b8o], a1q, fun _ _ _ => rfl, Hle.refl _, h.2 b8o⟩
   ·clear h
    rintro d1u o2 ⟨F8, b4h, rfl, c1W, d1v, c1X, h⟩
    refine a8 (Pu.g fun hb => by have a7 := hb; first | exact (p7 _) | (simp only [b3 a7]; exact (p7 _)) | (simp only [b5 a7, b3 a7, b3 hb, i4 a7, d6]; exact (p7 _))) ?_
    refine a8 (U3 _ _) ?_
    refine a8 (q6 _) ?_
    refine a8 b1G ?_
    refine o8 c1W Tryd.sizeOf4 (vs := [(Value.bool (x0.fform || (!F8)))]) (cs' := [(vi (IntKind.wrap .i64 (x0.fnodes + 1))), (vi (if x2 > x0.fdepth then x2 else x0.fdepth)), (vi x0.fe), (Value.bool (x0.fform || (!F8))), (Value.bool x0.fnamed), (vs U5)]) rfl rfl (nb rfl) rfl rfl fun a7G b4c c5I => ?_
    have hj1 : ∀ (a8r : Int) (a8s : Int) (a8t : Int) (a8u : Bool) (a8v : Bool) (a6Z : (List ByteArray)) (b2g : Sl) (b2h : Frag) (H : Hp) (w : World) (_ : RowL 9 1 C9 b2g a6Z b2h) (_ : Inv w0 ps0 H0 H [bx g0 92 [(vi a8r), (vi a8s), (vi a8t), (Value.bool a8u), (Value.bool a8v), (vs b2g)], b2h] w) (_ : s8 a8r a8s a8t a8u a8v a6Z H K), c0I w R E := by
     intro a8r a8s a8t a8u a8v a6Z b2g b2h H w d1w I h
     unfold c0I
     intro _
     unfold s8 at h
     exact hR true (f4.mk a8r a8s a8t a8u a8v (Sl.mk none 0 0)) a6Z b2g b2h H _ d1w ((I.bring 1).bring 1) h
    refine t7 fun j1 hx1 => ?_
    refine d7 (cap := []) (fun args w => Tryd.call114 args w) ?_
    refine i6 (Fi := []) (Fr := [bx g0 92 [(vi (IntKind.wrap .i64 (x0.fnodes + 1))), (vi (if x2 > x0.fdepth then x2 else x0.fdepth)), (vi x0.fe), (Value.bool (x0.fform || (!F8))), (Value.bool x0.fnamed), (vs U5)], a2j]) b4c (h) (fun f7Z a9h b8l b3D c5V f8a f8b f3r => ?_) (fun _ _ _ _ _ q => q.elim)
    obtain ⟨a3o, b4R, rfl, rfl, h⟩ := f3r
    refine a8 (r8 _ _ _ rfl) ?_
    refine a8 (r8 _ _ _ rfl) ?_
    refine m5 (fun b5S => ?_) (fun b5S => ?_)
    ·replace h := h.1 b5S
     refine a8 (q6 _) ?_
     refine a8 b1H ?_
     refine b7 (ld1 Tryd.isAgg4 (c5V.at1 (o := 4) (vs := [(Value.bool x0.fnamed)]) (nb rfl) rfl)) ?_
     try simp only [J1]
     refine R3 (D := fun b8j y8 => ∃ (Q1 : Bool) (Z6 : Hp) , b8j = (gv x0.fnamed false (Value.bool Q1)) ∧ (Inv w0 ps0 H0 Z6 [bx g0 92 [(vi (IntKind.wrap .i64 (x0.fnodes + 1))), (vi (if x2 > x0.fdepth then x2 else x0.fdepth)), (vi x0.fe), (Value.bool (x0.fform || (!F8))), (Value.bool x0.fnamed), (vs U5)], a2j] y8) ∧ (∀ i, i < b3D.heap.size → ¬ inF [] i → y8.heap[i]? = b3D.heap[i]?) ∧ Hle a9h Z6 ∧ (K4 W7 a3o Z6 (fun (a3p : Bool) (a4x : Hp) =>
 ((!a3p) = true →
 (W7.length + ([a3o] : List ByteArray).length) * 17 ≤ 140737488355328 ∧
 s8 (IntKind.wrap .i64 (x0.fnodes + 1)) (if x2 > x0.fdepth then x2 else x0.fdepth) x0.fe (x0.fform || (!F8)) (x0.fnamed || (!Q1)) (W7 ++ [a3o]) a4x K) ∧
 ((!a3p) = false →
 s8 (IntKind.wrap .i64 (x0.fnodes + 1)) (if x2 > x0.fdepth then x2 else x0.fdepth) x0.fe (x0.fform || (!F8)) (x0.fnamed || (!Q1)) W7 a4x K)))) (fun b8p => ?_) (fun b8p => ?_) ?_
     ·replace h := h.1 b8p
      have a7 := b8p
      try simp only [b3 a7]
      refine d7 (cap := []) (fun args w => Tryd.call115 args w) ?_
      refine i6 (Fi := []) (Fr := [bx g0 92 [(vi (IntKind.wrap .i64 (x0.fnodes + 1))), (vi (if x2 > x0.fdepth then x2 else x0.fdepth)), (vi x0.fe), (Value.bool (x0.fform || (!F8))), (Value.bool x0.fnamed), (vs U5)], a2j]) c5V (h) (fun b8j Z6 d0X y8 a6m c1F c1G b5F => ?_) (fun _ _ _ _ _ q => q.elim)
      obtain ⟨Q1, rfl, rfl, h⟩ := b5F
      exact ⟨Q1, Z6, by first | rfl | rw [b3 b8p], a6m, c1G, c1F, h⟩
     ·exact ⟨false, a9h, by first | rfl | rw [a0X b8p], c5V, fun _ _ _ => rfl, Hle.refl _, h.2 b8p⟩
     ·clear h
      rintro b8j y8 ⟨Q1, Z6, rfl, a6m, c1G, c1F, h⟩
      refine a8 (Pu.g fun hb => by have a7 := hb; first | exact (p7 _) | (simp only [b3 a7]; exact (p7 _)) | (simp only [b5 a7, b3 a7, b3 hb, i4 a7, d6]; exact (p7 _))) ?_
      refine a8 (U3 _ _) ?_
      refine a8 (q6 _) ?_
      refine a8 b1H ?_
      refine o8 a6m Tryd.sizeOf4 (vs := [(Value.bool (x0.fnamed || (!Q1)))]) (cs' := [(vi (IntKind.wrap .i64 (x0.fnodes + 1))), (vi (if x2 > x0.fdepth then x2 else x0.fdepth)), (vi x0.fe), (Value.bool (x0.fform || (!F8))), (Value.bool (x0.fnamed || (!Q1))), (vs U5)]) rfl rfl (nb rfl) rfl rfl fun C7 c5W f3s => ?_
      refine a8 (q6 _) ?_
      refine a8 b1F ?_
      refine b7 (ld1 Tryd.isAgg47 (c5W.at1 (o := 5) (vs := [(vs U5)]) (nb rfl) rfl)) ?_
      refine d7 (cap := []) (fun args w => Tryd.call116 args w) ?_
      refine i6 (Fi := [a2j]) (Fr := [bx g0 92 [(vi (IntKind.wrap .i64 (x0.fnodes + 1))), (vi (if x2 > x0.fdepth then x2 else x0.fdepth)), (vi x0.fe), (Value.bool (x0.fform || (!F8))), (Value.bool (x0.fnamed || (!Q1))), (vs U5)]]) (c5W.bring 1) (h U5 a2j b0a) (fun f3t a4x f3u I0 b2i f3v e6a d1x => ?_) (fun _ _ _ _ _ q => q.elim)
      obtain ⟨a3p, rfl, rfl, h⟩ := d1x
      refine a8 (p7 _) ?_
      refine m5 (fun b5T => ?_) (fun b5T => ?_)
      ·replace h := h.1 b5T
       refine a8 (q6 _) ?_
       refine a8 b1F ?_
       refine b7 (ld1 Tryd.isAgg47 ((b2i.bring 1).at1 (o := 5) (vs := [(vs U5)]) (nb rfl) rfl)) ?_
       refine a6N (e := 9) (c := C9) (xs := [a3o]) b2i (d4x _) rfl rfl b5n b5o (nb rfl) fun f8c f8d b5B d1d e6b f8e => ?_
       obtain ⟨d1g, h⟩ := h
       refine d7x (s := U5) (xs := W7) (e6b.bring 1) b0a (d1d.srcO ((e6b.bring 1).bring 1)) d1g fun d1y f3w c4M b2j f3x f8f => ?_
       refine a8 (q6 _) ?_
       refine a8 b1F ?_
       refine o8 ((f3x.bring 1).drop.bring 1) Tryd.sizeOf47 (vs := [(vs d1y)]) (cs' := [(vi (IntKind.wrap .i64 (x0.fnodes + 1))), (vi (if x2 > x0.fdepth then x2 else x0.fdepth)), (vi x0.fe), (Value.bool (x0.fform || (!F8))), (Value.bool (x0.fnamed || (!Q1))), (vs d1y)]) rfl rfl (nb rfl) rfl rfl fun U8 d1z f3y => ?_
       exact hx1 _ _ (hj1 (IntKind.wrap .i64 (x0.fnodes + 1)) (if x2 > x0.fdepth then x2 else x0.fdepth) x0.fe (x0.fform || (!F8)) (x0.fnamed || (!Q1)) (W7 ++ [a3o]) d1y f3w a4x _ b2j ((d1z.bring 1).bring 1) h)
      ·replace h := h.2 b5T
       exact hx1 _ _ (hj1 (IntKind.wrap .i64 (x0.fnodes + 1)) (if x2 > x0.fdepth then x2 else x0.fdepth) x0.fe (x0.fform || (!F8)) (x0.fnamed || (!Q1)) W7 U5 a2j a4x _ b0a (b2i.bring 1) h)
    ·replace h := h.2 b5S
     exact hx1 _ _ (hj1 (IntKind.wrap .i64 (x0.fnodes + 1)) (if x2 > x0.fdepth then x2 else x0.fdepth) x0.fe (x0.fform || (!F8)) x0.fnamed W7 U5 a2j a9h _ b0a ((c5V.bring 1).bring 1) h)
theorem a7O (x0 : f4) (W7 : (List ByteArray)) (x1 : b9) (x2 : Int) {H : Hp} {K : Bool → f4 → (List ByteArray) → Hp → Prop} (h : V0 x0 W7 x1 x2 H K) : a1d x0 W7 x1 x2 H K := by
 intro g0 U5 a2j b0a w I
 refine e1H ?_
 refine a7A x0 W7 x1 x2 g0 U5 a2j b0a I (fun r0 y0 a4W a3b a3d H' w' c1Y I' hk => ⟨H', _, I', r0, y0, a4W, a3b, a3d, rfl, rfl, c1Y, hk⟩) h
def J4 (H : Hp) (K : Bool → Hp → Prop) : Prop :=
 K true H
def C6 (b4a : Sl) (a2w : Sl) (d3K : Int) (a3q : Int) (H : Hp) (n2 : Int → Hp → Prop) (K : Bool → Hp → Prop) : Prop :=
 (a3q < d3K →
 (0 : Int) ≤ a3q ∧ (a3q : Int) < b4a.n ∧ ∃ x_3 : A4, EltH H b4a a3q 2 (k8 x_3) ∧
 (0 : Int) ≤ a3q ∧ (a3q : Int) < a2w.n ∧ ∃ a3M : A4, EltH H a2w a3q 2 (k8 a3M) ∧
 (¬ (x_3.d8 = a3M.d8 ∧ x_3.R7 = a3M.R7) →
 K false H) ∧
 (x_3.d8 = a3M.d8 ∧ x_3.R7 = a3M.R7 →
 n2 (IntKind.wrap .i64 (a3q + 1)) H)) ∧
 (¬ (a3q < d3K) →
 J4 H K)
def D9 (x0 : Sl) (x1 : Sl) (H : Hp) (K : Bool → Hp → Prop) : Prop :=
 (¬ ((x0.n : Int) = (x1.n : Int)) →
 K false H) ∧
 ((x0.n : Int) = (x1.n : Int) →
 TL (0 : Int) H fun (s : Int) H n2 => C6 x0 x1 (x0.n : Int) s H n2 K)
theorem a1U (x0 : Sl) (x1 : Sl) {w0 w : World} {ps0 : Nat → Prop} {H0 H : Hp} {K : Bool → Hp → Prop} {R : Value → World → Prop} {E : Pan} (I : Inv w0 ps0 H0 H [] w) (hR : ∀ (r0 : Bool) (H' : Hp) (w' : World) (_ : Inv w0 ps0 H0 H' [] w') (_ : K r0 H'), R (Value.bool r0) w') (h : D9 x0 x1 H K) : F52 (vs x0) (vs x1) w R E := by
 unfold D9 at h
 unfold F52
 refine a8 (X0 _ _ _) ?_
 refine a8 (X0 _ _ _) ?_
 refine a8 (t1 _ _ _ _ _ _) ?_
 refine a2L (fun d1A => ?_) (fun d1A => ?_)
 ·replace h := h.1 d1A
  exact hR false H _ I h
 ·replace h := h.2 d1A
  have hj1 : ∀ (H : Hp) (w : World) (_ : Inv w0 ps0 H0 H [] w) (_ : J4 H K), b9V w R E := by
   intro H w I h
   unfold b9V
   intro _
   unfold J4 at h
   exact hR true H _ I h
  refine t7 fun j1 hx1 => ?_
  refine a8 (X0 _ _ _) ?_
  obtain ⟨d1B, c1Z, f3z, f3A⟩ := h
  refine y9 (J := fun n l w => ∃ (s : Int) (H : Hp) , n = c1Z s ∧ l = [(vi s)] ∧ Inv w0 ps0 H0 H [] w ∧ d1B s H) ⟨_, 0, H, rfl, rfl, I, f3z⟩ ?_
  rintro f8g τ_24 w next2 ⟨a3q, H, rfl, e6c, I, b5L⟩ hn2
  simp only [List.map_cons, List.map_nil, List.cons.injEq, and_true] at e6c
  have e13 := e6c
  simp only [e13]
  obtain ⟨n2, hm2, h⟩ : ∃ n2 : Int → Hp → Prop, (∀ s' H', n2 s' H' → d1B s' H' ∧ c1Z s' < c1Z a3q) ∧ C6 x0 x1 (x0.n : Int) a3q H n2 K := ⟨_, fun _ _ h => h, f3A a3q H (fun s' H' => d1B s' H' ∧ c1Z s' < c1Z a3q) b5L (fun _ _ a b => ⟨a, b⟩)⟩
  unfold c8k
  unfold C6 at h
  refine a8 (C4 _ _ _ _ _ _) ?_
  refine h9 (fun a5f => ?_) (fun a5f => ?_)
  ·replace h := h.1 a5f
   refine a4O I fun w_1 I_2 => ?_
   obtain ⟨h_6, h_7, x_3, h_9, h⟩ := h
   obtain ⟨g_4, o_5, h_8, h_9⟩ := h_9
   refine o3 (a6R h_8 _ _ _ _ h_6 h_7) ?_
   obtain ⟨d1h, d1i, a3M, a3g, h⟩ := h
   obtain ⟨f3d, f3e, d1j, a3g⟩ := a3g
   refine o3 (a6R d1j _ _ _ _ d1h d1i) ?_
   refine E8 (ldA (vs := (k8 x_3)) Tryd.isAgg67 Tryd.sizeOf67 rfl (I_2.atH h_9)) ?_
   refine E8 (ldA (vs := (k8 a3M)) Tryd.isAgg67 Tryd.sizeOf67 rfl (I_2.atH a3g)) ?_
   refine o3 (b9I _ _ _ _ _ _) ?_
   refine a2L (fun a5e => ?_) (fun a5e => ?_)
   ·replace h := h.1 a5e
    exact hR false H _ I_2 h
   ·replace h := h.2 a5e
    refine a8 (s6 _ _ _ _ _ _) ?_
    exact hn2 _ _ _ (hm2 _ _ h).2 ⟨(IntKind.wrap .i64 (a3q + 1)), H, rfl, rfl, I_2, (hm2 _ _ h).1⟩
  ·replace h := h.2 a5f
   exact hx1 _ _ (hj1 H _ I h)
theorem a2b (x0 : Sl) (x1 : Sl) {H : Hp} {K : Bool → Hp → Prop} (h : D9 x0 x1 H K) : A6 x0 x1 H K := by
 intro w I
 refine d7Q ?_
 refine a1U x0 x1 I (fun r0 H' w' I' hk => ⟨H', _, I', r0, rfl, rfl, hk⟩) h
def a0J (x0 : g9) (x1 : g9) (H : Hp) (K : Bool → Hp → Prop) : Prop :=
 TG (((decide (x0.d4 = x1.d4)) && (decide (x0.fOp = x1.fOp))) = true) (h8 x0.c7 x1.c7 H) false H (fun (m7 : Bool) (E5 : Hp) =>
 TG ((((decide (x0.d4 = x1.d4)) && (decide (x0.fOp = x1.fOp))) && m7) = true) (f9 x0.j9 x1.j9 E5) false E5 (fun (o4 : Bool) (C2 : Hp) =>
 K ((((decide (x0.d4 = x1.d4)) && (decide (x0.fOp = x1.fOp))) && m7) && o4) C2))
theorem a9G (x0 : g9) (x1 : g9) {w0 w : World} {ps0 : Nat → Prop} {H0 H : Hp} {K : Bool → Hp → Prop} {R : Value → World → Prop} {E : Pan} (I : Inv w0 ps0 H0 H [] w) (hR : ∀ (r0 : Bool) (H' : Hp) (w' : World) (_ : Inv w0 ps0 H0 H' [] w') (_ : K r0 H'), R (Value.bool r0) w') (h : a0J x0 x1 H K) : F86 (Value.agg (c6 x0).toArray) (Value.agg (c6 x1).toArray) w R E := by
 unfold a0J at h
 unfold F86
 refine D8 I (cs := (c6 x0)) rfl fun g_2 w_3 I_4 k_5 => ?_
 refine D8 I_4 (cs := (c6 x1)) rfl fun g_7 w_8 I_9 a7H => ?_
 refine a8 a2V ?_
 refine b7 (ld1 Tryd.isAgg3 ((I_9.bring 1).at1 (o := 0) (vs := [(vi x0.d4)]) (nb rfl) rfl)) ?_
 refine a8 a2V ?_
 refine b7 (ld1 Tryd.isAgg3 (I_9.at1 (o := 0) (vs := [(vi x1.d4)]) (nb rfl) rfl)) ?_
 refine a8 (f7 _ _ _ _ _ _) ?_
 refine a8 (Pu.g fun hb => by have a7 := hb; first | exact K1 | (simp only [b5 a7, b3 a7, b3 hb, q8 a7]; exact K1) | (simp only [b5 a7, b3 a7, b3 hb, d9 a7, d6]; exact K1)) ?_
 refine b7 (Ld.g fun hb => by have a7 := hb; first | exact (ld1 Tryd.isAgg3 ((I_9.bring 1).at1 (o := 1) (vs := [(vi x0.fOp)]) (nb rfl) rfl)) | (simp only [b3 a7]; exact (ld1 Tryd.isAgg3 ((I_9.bring 1).at1 (o := 1) (vs := [(vi x0.fOp)]) (nb rfl) rfl))) | (simp only [b5 a7, b3 a7, b3 hb, d9 a7, d6]; exact (ld1 Tryd.isAgg3 ((I_9.bring 1).at1 (o := 1) (vs := [(vi x0.fOp)]) (nb rfl) rfl)))) ?_
 refine a8 (Pu.g fun hb => by have a7 := hb; first | exact K1 | (simp only [b5 a7, b3 a7, b3 hb, q8 a7]; exact K1) | (simp only [b5 a7, b3 a7, b3 hb, d9 a7, d6]; exact K1)) ?_
 refine b7 (Ld.g fun hb => by have a7 := hb; first | exact (ld1 Tryd.isAgg3 (I_9.at1 (o := 1) (vs := [(vi x1.fOp)]) (nb rfl) rfl)) | (simp only [b3 a7]; exact (ld1 Tryd.isAgg3 (I_9.at1 (o := 1) (vs := [(vi x1.fOp)]) (nb rfl) rfl))) | (simp only [b5 a7, b3 a7, b3 hb, d9 a7, d6]; exact (ld1 Tryd.isAgg3 (I_9.at1 (o := 1) (vs := [(vi x1.fOp)]) (nb rfl) rfl)))) ?_
 refine a8 (Pu.g fun hb => by have a7 := hb; first | exact (f7 _ _ _ _ _ _) | (simp only [b3 a7]; exact (f7 _ _ _ _ _ _)) | (simp only [b5 a7, b3 a7, b3 hb, d9 a7, d6]; exact (f7 _ _ _ _ _ _))) ?_
 refine a8 (u5 _ _) ?_
 refine a8 (Pu.g fun hb => by have a7 := hb; first | exact F1 | (simp only [b5 a7, b3 a7, b3 hb, q8 a7]; exact F1) | (simp only [b5 a7, b3 a7, b3 hb, d9 a7, d6]; exact F1)) ?_
 refine b7 (Ld.g fun hb => by have a7 := hb; first | exact (ld1 Tryd.isAgg28 ((I_9.bring 1).at1 (o := 2) (vs := [(vs x0.c7)]) (nb rfl) rfl)) | (simp only [b3 a7]; exact (ld1 Tryd.isAgg28 ((I_9.bring 1).at1 (o := 2) (vs := [(vs x0.c7)]) (nb rfl) rfl))) | (simp only [b5 a7, b3 a7, b3 hb, d9 a7, d6]; exact (ld1 Tryd.isAgg28 ((I_9.bring 1).at1 (o := 2) (vs := [(vs x0.c7)]) (nb rfl) rfl)))) ?_
 refine a8 (Pu.g fun hb => by have a7 := hb; first | exact F1 | (simp only [b5 a7, b3 a7, b3 hb, q8 a7]; exact F1) | (simp only [b5 a7, b3 a7, b3 hb, d9 a7, d6]; exact F1)) ?_
 refine b7 (Ld.g fun hb => by have a7 := hb; first | exact (ld1 Tryd.isAgg28 (I_9.at1 (o := 2) (vs := [(vs x1.c7)]) (nb rfl) rfl)) | (simp only [b3 a7]; exact (ld1 Tryd.isAgg28 (I_9.at1 (o := 2) (vs := [(vs x1.c7)]) (nb rfl) rfl))) | (simp only [b5 a7, b3 a7, b3 hb, d9 a7, d6]; exact (ld1 Tryd.isAgg28 (I_9.at1 (o := 2) (vs := [(vs x1.c7)]) (nb rfl) rfl)))) ?_
 refine R3 (D := fun a4X k6 => ∃ (m7 : Bool) (E5 : Hp) , a4X = (gv ((decide (x0.d4 = x1.d4)) && (decide (x0.fOp = x1.fOp))) true (Value.bool m7)) ∧ (Inv w0 ps0 H0 E5 [bx g_7 33 (c6 x1), bx g_2 33 (c6 x0)] k6) ∧ (∀ i, i < w_8.heap.size → ¬ inF [] i → k6.heap[i]? = w_8.heap[i]?) ∧ Hle H E5 ∧ (TG ((((decide (x0.d4 = x1.d4)) && (decide (x0.fOp = x1.fOp))) && m7) = true) (f9 x0.j9 x1.j9 E5) false E5 (fun (o4 : Bool) (C2 : Hp) =>
 K ((((decide (x0.d4 = x1.d4)) && (decide (x0.fOp = x1.fOp))) && m7) && o4) C2))) (fun b8q => ?_) (fun b8q => ?_) ?_
 ·replace h := h.1 b8q
  have a7 := b8q
  try simp only [b3 a7]
  refine d7 (cap := []) (fun args w => Tryd.call83 args w) ?_
  refine i6 (Fi := []) (Fr := [bx g_7 33 (c6 x1), bx g_2 33 (c6 x0)]) I_9 (h) (fun a4X E5 b8i k6 L6 a7I a7J a6U => ?_) (fun _ _ _ _ _ q => q.elim)
  obtain ⟨m7, rfl, rfl, h⟩ := a6U
  exact ⟨m7, E5, by first | rfl | rw [b3 b8q], L6, a7J, a7I, h⟩
 ·exact ⟨false, H, by first | rfl | rw [a0X b8q], I_9, fun _ _ _ => rfl, Hle.refl _, h.2 b8q⟩
 ·clear h
  rintro a4X k6 ⟨m7, E5, rfl, L6, a7J, a7I, h⟩
  refine a8 (u5 _ _) ?_
  refine a8 (Pu.g fun hb => by have a7 := hb; first | exact F3 | (simp only [b5 a7, b3 a7, b3 hb, q8 a7]; exact F3) | (simp only [b5 a7, b3 a7, b3 hb, d9 a7, d6]; exact F3)) ?_
  refine b7 (Ld.g fun hb => by have a7 := hb; first | exact (ld1 Tryd.isAgg31 ((L6.bring 1).at1 (o := 3) (vs := [(vs x0.j9)]) (nb rfl) rfl)) | (simp only [b3 a7]; exact (ld1 Tryd.isAgg31 ((L6.bring 1).at1 (o := 3) (vs := [(vs x0.j9)]) (nb rfl) rfl))) | (simp only [b5 a7, b3 a7, b3 hb, d9 a7, d6]; exact (ld1 Tryd.isAgg31 ((L6.bring 1).at1 (o := 3) (vs := [(vs x0.j9)]) (nb rfl) rfl)))) ?_
  refine a8 (Pu.g fun hb => by have a7 := hb; first | exact F3 | (simp only [b5 a7, b3 a7, b3 hb, q8 a7]; exact F3) | (simp only [b5 a7, b3 a7, b3 hb, d9 a7, d6]; exact F3)) ?_
  refine b7 (Ld.g fun hb => by have a7 := hb; first | exact (ld1 Tryd.isAgg31 (L6.at1 (o := 3) (vs := [(vs x1.j9)]) (nb rfl) rfl)) | (simp only [b3 a7]; exact (ld1 Tryd.isAgg31 (L6.at1 (o := 3) (vs := [(vs x1.j9)]) (nb rfl) rfl))) | (simp only [b5 a7, b3 a7, b3 hb, d9 a7, d6]; exact (ld1 Tryd.isAgg31 (L6.at1 (o := 3) (vs := [(vs x1.j9)]) (nb rfl) rfl)))) ?_
  refine R3 (D := fun a4h N5 => ∃ (o4 : Bool) (C2 : Hp) , a4h = (gv (((decide (x0.d4 = x1.d4)) && (decide (x0.fOp = x1.fOp))) && m7) true (Value.bool o4)) ∧ (Inv w0 ps0 H0 C2 [bx g_7 33 (c6 x1), bx g_2 33 (c6 x0)] N5) ∧ (∀ i, i < k6.heap.size → ¬ inF [] i → N5.heap[i]? = k6.heap[i]?) ∧ Hle E5 C2 ∧ (K ((((decide (x0.d4 = x1.d4)) && (decide (x0.fOp = x1.fOp))) && m7) && o4) C2)) (fun b8r => ?_) (fun b8r => ?_) ?_
  ·replace h := h.1 b8r
   have a7 := b8r
   try simp only [b3 a7]
   refine d7 (cap := []) (fun args w => Tryd.call85 args w) ?_
   refine i6 (Fi := []) (Fr := [bx g_7 33 (c6 x1), bx g_2 33 (c6 x0)]) L6 (h) (fun a4h C2 c2a N5 E1 a3W a6s a9i => ?_) (fun _ _ _ _ _ q => q.elim)
   obtain ⟨o4, rfl, rfl, h⟩ := a9i
   exact ⟨o4, C2, by first | rfl | rw [b3 b8r], E1, a6s, a3W, h⟩
  ·exact ⟨false, E5, by first | rfl | rw [a0X b8r], L6, fun _ _ _ => rfl, Hle.refl _, h.2 b8r⟩
  ·clear h
   rintro a4h N5 ⟨o4, C2, rfl, E1, a6s, a3W, h⟩
   refine a8 (u5 _ _) ?_
   exact hR ((((decide (x0.d4 = x1.d4)) && (decide (x0.fOp = x1.fOp))) && m7) && o4) C2 _ E1.drop.drop h
theorem b0B (x0 : g9) (x1 : g9) {H : Hp} {K : Bool → Hp → Prop} (h : a0J x0 x1 H K) : a0G x0 x1 H K := by
 intro w I
 refine e0k ?_
 refine a9G x0 x1 I (fun r0 H' w' I' hk => ⟨H', _, I', r0, rfl, rfl, hk⟩) h
def O7 (f3B : Int) (cr_1l1 : h7) (a5j : Int) (a2l : b4) (H : Hp) (n1 : (Int × b4) → Hp → Prop) (K : b4 → Hp → Prop) : Prop :=
 (((decide (a5j < (cr_1l1.m9.n : Int))) && (decide (a2l.fbad = 0))) = true →
 (0 : Int) ≤ a5j ∧ (a5j : Int) < cr_1l1.m9.n ∧ ∃ a7P : h7, EltH H cr_1l1.m9 a5j 4 (c8 a7P) ∧
 M4 a2l a7P (IntKind.wrap .i64 (f3B + 1)) H (fun (c5X : b4) (b0C : Hp) =>
 n1 ((IntKind.wrap .i64 (a5j + 1)), c5X) b0C)) ∧
 (((decide (a5j < (cr_1l1.m9.n : Int))) && (decide (a2l.fbad = 0))) = false →
 K a2l H)
def S2 (x0 : b4) (x1 : h7) (x2 : Int) (H : Hp) (K : b4 → Hp → Prop) : Prop :=
 I8 x0 x2 H (fun (E3 : Bool) (a1u : b4) (H_6 : Hp) =>
 ((!E3) = true →
 K a1u H_6) ∧
 ((!E3) = false →
 TL ((0, a1u) : Int × b4) H_6 fun (s : Int × b4) H n1 => O7 x2 x1 s.1 s.2 H n1 K))
theorem a6t (x0 : b4) (x1 : h7) (x2 : Int) (g0 : Nat) {w0 w : World} {ps0 : Nat → Prop} {H0 H : Hp} {K : b4 → Hp → Prop} {R : Value → World → Prop} {E : Pan} (I : Inv w0 ps0 H0 H [bx g0 99 (d5 x0)] w) (hR : ∀ (y0 : b4) (H' : Hp) (w' : World) (_ : Inv w0 ps0 H0 H' [bx g0 99 (d5 y0)] w') (_ : K y0 H'), R (Value.tuple #[]) w') (h : S2 x0 x1 x2 H K) : F58 (Value.pointer (some ⟨g0, 0, none⟩)) (Value.agg (c8 x1).toArray) (vi x2) w R E := by
 unfold S2 at h
 unfold F58
 refine D8 I (cs := (c8 x1)) rfl fun g_2 w_3 I_4 k_5 => ?_
 refine d7 (cap := []) (fun args w => Tryd.call91 args w) ?_
 refine i6 (Fi := [bx g0 99 (d5 x0)]) (Fr := [bx g_2 30 (c8 x1)]) (I_4.bring 1) (h g0) (fun a7K H_6 a7L w_7 I_8 a7M k_9 a1f => ?_) (fun _ _ _ _ _ q => q.elim)
 obtain ⟨E3, a1u, rfl, rfl, h⟩ := a1f
 refine a8 (p7 _) ?_
 refine m5 (fun b5U => ?_) (fun b5U => ?_)
 ·replace h := h.1 b5U
  exact hR a1u H_6 _ (I_8.bring 1).drop h
 ·replace h := h.2 b5U
  obtain ⟨d1C, c2b, f3C, f3D⟩ := h
  refine y9 (J := fun n l w => ∃ (s : Int × b4) (H : Hp) , n = c2b s ∧ l = (match s with | (a5j, a2l) => [(vi a5j)]) ∧ (match s with | (a5j, a2l) => Inv w0 ps0 H0 H [bx g0 99 (d5 a2l), bx g_2 30 (c8 x1)] w) ∧ d1C s H) ⟨_, (0, a1u), H_6, rfl, rfl, ((I_8.bring 1).bring 1), f3C⟩ ?_
  rintro f8h τ_62 w next1 ⟨⟨a5j, a2l⟩, H, rfl, c2c, I, f3E⟩ hn1
  dsimp only at c2c I
  simp only [List.map_cons, List.map_nil, List.cons.injEq, and_true] at c2c
  have e6 := c2c
  simp only [e6]
  obtain ⟨n1, hm1, h⟩ : ∃ n1 : (Int × b4) → Hp → Prop, (∀ s' H', n1 s' H' → d1C s' H' ∧ c2b s' < c2b (a5j, a2l)) ∧ O7 x2 x1 a5j a2l H n1 K := ⟨_, fun _ _ h => h, f3D (a5j, a2l) H (fun s' H' => d1C s' H' ∧ c2b s' < c2b (a5j, a2l)) f3E (fun _ _ a b => ⟨a, b⟩)⟩
  unfold c8v
  unfold O7 at h
  refine a8 F0 ?_
  refine b7 (ld1 Tryd.isAgg28 ((I.bring 1).at1 (o := 3) (vs := [(vs x1.m9)]) (nb rfl) rfl)) ?_
  refine a8 (q7 _ _ _) ?_
  refine a8 (C4 _ _ _ _ _ _) ?_
  try simp only [J1]
  refine a8 (Pu.g fun hb => by have a7 := hb; first | exact (q6 _) | (simp only [b3 a7]; exact (q6 _)) | (simp only [b5 a7, b3 a7, b3 hb, d9 a7, d6]; exact (q6 _))) ?_
  refine a8 (Pu.g fun hb => by have a7 := hb; first | exact u1 | (simp only [b3 a7]; exact u1) | (simp only [b5 a7, b3 a7, b3 hb, d9 a7, d6]; exact u1)) ?_
  refine b7 (Ld.g fun hb => by have a7 := hb; first | exact (ld1 Tryd.isAgg3 (I.at1 (o := 2) (vs := [(vi a2l.fbad)]) (nb rfl) rfl)) | (simp only [b3 a7]; exact (ld1 Tryd.isAgg3 (I.at1 (o := 2) (vs := [(vi a2l.fbad)]) (nb rfl) rfl))) | (simp only [b5 a7, b3 a7, b3 hb, d9 a7, d6]; exact (ld1 Tryd.isAgg3 (I.at1 (o := 2) (vs := [(vi a2l.fbad)]) (nb rfl) rfl)))) ?_
  refine a8 (Pu.g fun hb => by have a7 := hb; first | exact (f7 _ _ _ _ _ _) | (simp only [b3 a7]; exact (f7 _ _ _ _ _ _)) | (simp only [b5 a7, b3 a7, b3 hb, d9 a7, d6]; exact (f7 _ _ _ _ _ _))) ?_
  refine a8 (u5 _ _) ?_
  refine m5 (fun d1D => ?_) (fun d1D => ?_)
  ·replace h := h.1 d1D
   refine a8 F0 ?_
   refine b7 (ld1 Tryd.isAgg28 ((I.bring 1).at1 (o := 3) (vs := [(vs x1.m9)]) (nb rfl) rfl)) ?_
   obtain ⟨a6W, c2d, a7P, b2k, h⟩ := h
   obtain ⟨f3F, f3G, b5V, b2k⟩ := b2k
   refine a8 (W4 b5V _ _ _ _ a6W c2d) ?_
   refine b7 (ldA (vs := (c8 a7P)) Tryd.isAgg30 Tryd.sizeOf30 rfl (I.atH b2k)) ?_
   refine a8 (s6 _ _ _ _ _ _) ?_
   refine d7 (cap := []) (fun args w => Tryd.call58 args w) ?_
   refine i6 (Fi := [bx g0 99 (d5 a2l)]) (Fr := [bx g_2 30 (c8 x1)]) I (h g0) (fun e6d b0C d1E J6 b2l e6e d1F c2e => ?_) (fun _ _ _ _ _ q => q.elim)
   obtain ⟨c5X, rfl, rfl, h⟩ := c2e
   refine a8 (s6 _ _ _ _ _ _) ?_
   exact hn1 _ _ _ (hm1 _ _ h).2 ⟨((IntKind.wrap .i64 (a5j + 1)), c5X), b0C, rfl, rfl, ((b2l.bring 1).bring 1), (hm1 _ _ h).1⟩
  ·replace h := h.2 d1D
   exact hR a2l H _ (I.bring 1).drop h
theorem a6F (x0 : b4) (x1 : h7) (x2 : Int) {H : Hp} {K : b4 → Hp → Prop} (h : S2 x0 x1 x2 H K) : M4 x0 x1 x2 H K := by
 intro g0 w I
 refine d9h ?_
 refine a6t x0 x1 x2 g0 I (fun y0 H' w' I' hk => ⟨H', _, I', y0, rfl, rfl, hk⟩) h
def O8 (f3H : Int) (cr_1l4 : g8) (a3m : Int) (a2m : b4) (H : Hp) (n4 : (Int × b4) → Hp → Prop) (K : b4 → Hp → Prop) : Prop :=
 (((decide (a3m < (cr_1l4.o6.n : Int))) && (decide (a2m.fbad = 0))) = true →
 (0 : Int) ≤ a3m ∧ (a3m : Int) < cr_1l4.o6.n ∧ ∃ c5Y : g8, EltH H cr_1l4.o6 a3m 6 (b8 c5Y) ∧
 M5 a2m c5Y (IntKind.wrap .i64 (f3H + 1)) H (fun (c2f : b4) (d1G : Hp) =>
 n4 ((IntKind.wrap .i64 (a3m + 1)), c2f) d1G)) ∧
 (((decide (a3m < (cr_1l4.o6.n : Int))) && (decide (a2m.fbad = 0))) = false →
 K a2m H)
def O9 (f3I : Int) (b4S : b4) (cr_1j3 : g8) (H : Hp) (K : b4 → Hp → Prop) : Prop :=
 TL ((0, b4S) : Int × b4) H fun (s : Int × b4) H n4 => O8 f3I cr_1j3 s.1 s.2 H n4 K
def P0 (e6f : Int) (cr_1l5 : g8) (a5k : Int) (a2o : b4) (H : Hp) (n5 : (Int × b4) → Hp → Prop) (K : b4 → Hp → Prop) : Prop :=
 (((decide (a5k < (cr_1l5.r9.n : Int))) && (decide (a2o.fbad = 0))) = true →
 (0 : Int) ≤ a5k ∧ (a5k : Int) < cr_1l5.r9.n ∧ ∃ b9r : g8, EltH H cr_1l5.r9 a5k 6 (b8 b9r) ∧
 M5 a2o b9r (IntKind.wrap .i64 (e6f + 1)) H (fun (b7g : b4) (b2m : Hp) =>
 n5 ((IntKind.wrap .i64 (a5k + 1)), b7g) b2m)) ∧
 (((decide (a5k < (cr_1l5.r9.n : Int))) && (decide (a2o.fbad = 0))) = false →
 O9 e6f a2o cr_1l5 H K)
def P1 (f3J : Int) (b4T : b4) (cr_1j2 : g8) (H : Hp) (K : b4 → Hp → Prop) : Prop :=
 TL ((0, b4T) : Int × b4) H fun (s : Int × b4) H n5 => P0 f3J cr_1j2 s.1 s.2 H n5 K
def P2 (e6g : Int) (cr_1l6 : g8) (a5l : Int) (a2p : b4) (H : Hp) (n6 : (Int × b4) → Hp → Prop) (K : b4 → Hp → Prop) : Prop :=
 (((decide (a5l < (cr_1l6.c7.n : Int))) && (decide (a2p.fbad = 0))) = true →
 (0 : Int) ≤ a5l ∧ (a5l : Int) < cr_1l6.c7.n ∧ ∃ b9s : h7, EltH H cr_1l6.c7 a5l 4 (c8 b9s) ∧
 M4 a2p b9s (IntKind.wrap .i64 (e6g + 1)) H (fun (c2g : b4) (c5Z : Hp) =>
 n6 ((IntKind.wrap .i64 (a5l + 1)), c2g) c5Z)) ∧
 (((decide (a5l < (cr_1l6.c7.n : Int))) && (decide (a2p.fbad = 0))) = false →
 P1 e6g a2p cr_1l6 H K)
def P3 (b0D : Int) (a4o : b4) (cr_1j1 : g8) (H : Hp) (K : b4 → Hp → Prop) : Prop :=
 TL ((0, a4o) : Int × b4) H fun (s : Int × b4) H n6 => P2 b0D cr_1j1 s.1 s.2 H n6 K
def P4 (e6h : Int) (cr_1l7 : g8) (a5m : Int) (a2q : b4) (H : Hp) (n7 : (Int × b4) → Hp → Prop) (K : b4 → Hp → Prop) : Prop :=
 (((decide (a5m < (cr_1l7.f5.n : Int))) && (decide (a2q.fbad = 0))) = true →
 (0 : Int) ≤ a5m ∧ (a5m : Int) < cr_1l7.f5.n ∧ ∃ b9t : g9, EltH H cr_1l7.f5 a5m 4 (c6 b9t) ∧
 R8 a2q b9t (IntKind.wrap .i64 (e6h + 1)) H (fun (c2h : b4) (c6a : Hp) =>
 n7 ((IntKind.wrap .i64 (a5m + 1)), c2h) c6a)) ∧
 (((decide (a5m < (cr_1l7.f5.n : Int))) && (decide (a2q.fbad = 0))) = false →
 P3 e6h a2q cr_1l7 H K)
def S3 (x0 : b4) (x1 : g8) (x2 : Int) (H : Hp) (K : b4 → Hp → Prop) : Prop :=
 I8 x0 x2 H (fun (E3 : Bool) (a1u : b4) (H_6 : Hp) =>
 ((!E3) = true →
 K a1u H_6) ∧
 ((!E3) = false →
 TL ((0, a1u) : Int × b4) H_6 fun (s : Int × b4) H n7 => P4 x2 x1 s.1 s.2 H n7 K))
theorem a6u (x0 : b4) (x1 : g8) (x2 : Int) (g0 : Nat) {w0 w : World} {ps0 : Nat → Prop} {H0 H : Hp} {K : b4 → Hp → Prop} {R : Value → World → Prop} {E : Pan} (I : Inv w0 ps0 H0 H [bx g0 99 (d5 x0)] w) (hR : ∀ (y0 : b4) (H' : Hp) (w' : World) (_ : Inv w0 ps0 H0 H' [bx g0 99 (d5 y0)] w') (_ : K y0 H'), R (Value.tuple #[]) w') (h : S3 x0 x1 x2 H K) : F92 (Value.pointer (some ⟨g0, 0, none⟩)) (Value.agg (b8 x1).toArray) (vi x2) w R E := by
 unfold S3 at h
 unfold F92
 refine D8 I (cs := (b8 x1)) rfl fun g_2 w_3 I_4 k_5 => ?_
 refine d7 (cap := []) (fun args w => Tryd.call91 args w) ?_
 refine i6 (Fi := [bx g0 99 (d5 x0)]) (Fr := [bx g_2 88 (b8 x1)]) (I_4.bring 1) (h g0) (fun a7K H_6 a7L w_7 I_8 a7M k_9 a1f => ?_) (fun _ _ _ _ _ q => q.elim)
 obtain ⟨E3, a1u, rfl, rfl, h⟩ := a1f
 refine a8 (p7 _) ?_
 refine m5 (fun c6b => ?_) (fun c6b => ?_)
 ·replace h := h.1 c6b
  exact hR a1u H_6 _ (I_8.bring 1).drop h
 ·replace h := h.2 c6b
  have hj1 : ∀ (a4o : b4) (H : Hp) (w : World) (_ : Inv w0 ps0 H0 H [bx g0 99 (d5 a4o), bx g_2 88 (b8 x1)] w) (_ : P3 x2 a4o x1 H K), c0W (Value.pointer (some ⟨g0, 0, none⟩)) (vi x2) (Value.pointer (some ⟨g_2, 0, none⟩)) w R E := by
   intro a4o H w I h
   unfold c0W
   intro _
   unfold P3 at h
   have hj2 : ∀ (b4T : b4) (H : Hp) (w : World) (_ : Inv w0 ps0 H0 H [bx g0 99 (d5 b4T), bx g_2 88 (b8 x1)] w) (_ : P1 x2 b4T x1 H K), c0U (Value.pointer (some ⟨g0, 0, none⟩)) (vi x2) (Value.pointer (some ⟨g_2, 0, none⟩)) w R E := by
    intro b4T H w I h
    unfold c0U
    intro _
    unfold P1 at h
    have hj3 : ∀ (b4S : b4) (H : Hp) (w : World) (_ : Inv w0 ps0 H0 H [bx g0 99 (d5 b4S), bx g_2 88 (b8 x1)] w) (_ : O9 x2 b4S x1 H K), c0T (Value.pointer (some ⟨g0, 0, none⟩)) (vi x2) (Value.pointer (some ⟨g_2, 0, none⟩)) w R E := by
     intro b4S H w I h
     unfold c0T
     intro _
     unfold O9 at h
     obtain ⟨c6c, b7h, e9X, e9Y⟩ := h
     refine y9 (J := fun n l w => ∃ (s : Int × b4) (H : Hp) , n = b7h s ∧ l = (match s with | (a3m, a2m) => [(vi a3m)]) ∧ (match s with | (a3m, a2m) => Inv w0 ps0 H0 H [bx g0 99 (d5 a2m), bx g_2 88 (b8 x1)] w) ∧ c6c s H) ⟨_, (0, b4S), H, rfl, rfl, ((I.bring 1).bring 1), e9X⟩ ?_
     rintro f5J τ_110 w next4 ⟨⟨a3m, a2m⟩, H, rfl, c6d, I, e9Z⟩ hn4
     dsimp only at c6d I
     simp only [List.map_cons, List.map_nil, List.cons.injEq, and_true] at c6d
     have e9 := c6d
     simp only [e9]
     obtain ⟨n4, hm4, h⟩ : ∃ n4 : (Int × b4) → Hp → Prop, (∀ s' H', n4 s' H' → c6c s' H' ∧ b7h s' < b7h (a3m, a2m)) ∧ O8 x2 x1 a3m a2m H n4 K := ⟨_, fun _ _ h => h, e9Y (a3m, a2m) H (fun s' H' => c6c s' H' ∧ b7h s' < b7h (a3m, a2m)) e9Z (fun _ _ a b => ⟨a, b⟩)⟩
     unfold c8S
     unfold O8 at h
     refine a8 F6 ?_
     refine b7 (ld1 Tryd.isAgg23 ((I.bring 1).at1 (o := 5) (vs := [(vs x1.o6)]) (nb rfl) rfl)) ?_
     refine a8 (M6 _ _ _) ?_
     refine a8 (C4 _ _ _ _ _ _) ?_
     try simp only [J1]
     refine a8 (Pu.g fun hb => by have a7 := hb; first | exact (q6 _) | (simp only [b3 a7]; exact (q6 _)) | (simp only [b5 a7, b3 a7, b3 hb, d9 a7, d6]; exact (q6 _))) ?_
     refine a8 (Pu.g fun hb => by have a7 := hb; first | exact u1 | (simp only [b3 a7]; exact u1) | (simp only [b5 a7, b3 a7, b3 hb, d9 a7, d6]; exact u1)) ?_
     refine b7 (Ld.g fun hb => by have a7 := hb; first | exact (ld1 Tryd.isAgg3 (I.at1 (o := 2) (vs := [(vi a2m.fbad)]) (nb rfl) rfl)) | (simp only [b3 a7]; exact (ld1 Tryd.isAgg3 (I.at1 (o := 2) (vs := [(vi a2m.fbad)]) (nb rfl) rfl))) | (simp only [b5 a7, b3 a7, b3 hb, d9 a7, d6]; exact (ld1 Tryd.isAgg3 (I.at1 (o := 2) (vs := [(vi a2m.fbad)]) (nb rfl) rfl)))) ?_
     refine a8 (Pu.g fun hb => by have a7 := hb; first | exact (f7 _ _ _ _ _ _) | (simp only [b3 a7]; exact (f7 _ _ _ _ _ _)) | (simp only [b5 a7, b3 a7, b3 hb, d9 a7, d6]; exact (f7 _ _ _ _ _ _))) ?_
     refine a8 (u5 _ _) ?_
     refine m5 (fun c6e => ?_) (fun c6e => ?_)
     ·replace h := h.1 c6e
      refine a8 F6 ?_
      refine b7 (ld1 Tryd.isAgg23 ((I.bring 1).at1 (o := 5) (vs := [(vs x1.o6)]) (nb rfl) rfl)) ?_
      obtain ⟨d1c, c1K, c5Y, c2i, h⟩ := h
      obtain ⟨f8i, f8j, d1H, c2i⟩ := c2i
      refine a8 (a2W d1H _ _ _ _ d1c c1K) ?_
      refine b7 (ldA (vs := (b8 c5Y)) Tryd.isAgg88 Tryd.sizeOf88 rfl (I.atH c2i)) ?_
      refine a8 (s6 _ _ _ _ _ _) ?_
      refine d7 (cap := []) (fun args w => Tryd.call92 args w) ?_
      refine i6 (Fi := [bx g0 99 (d5 a2m)]) (Fr := [bx g_2 88 (b8 x1)]) I (h g0) (fun f8k d1G f5K a4v f3K f5L f8l f0a => ?_) (fun _ _ _ _ _ q => q.elim)
      obtain ⟨c2f, rfl, rfl, h⟩ := f0a
      refine a8 (s6 _ _ _ _ _ _) ?_
      exact hn4 _ _ _ (hm4 _ _ h).2 ⟨((IntKind.wrap .i64 (a3m + 1)), c2f), d1G, rfl, rfl, ((f3K.bring 1).bring 1), (hm4 _ _ h).1⟩
     ·replace h := h.2 c6e
      exact hR a2m H _ (I.bring 1).drop h
    refine t7 fun j3 hx3 => ?_
    obtain ⟨b2n, a6v, c6f, c6g⟩ := h
    refine y9 (J := fun n l w => ∃ (s : Int × b4) (H : Hp) , n = a6v s ∧ l = (match s with | (a5k, a2o) => [(vi a5k)]) ∧ (match s with | (a5k, a2o) => Inv w0 ps0 H0 H [bx g0 99 (d5 a2o), bx g_2 88 (b8 x1)] w) ∧ b2n s H) ⟨_, (0, b4T), H, rfl, rfl, ((I.bring 1).bring 1), c6f⟩ ?_
    rintro f0b τ_144 w next5 ⟨⟨a5k, a2o⟩, H, rfl, b2o, I, c6h⟩ hn5
    dsimp only at b2o I
    simp only [List.map_cons, List.map_nil, List.cons.injEq, and_true] at b2o
    have e8 := b2o
    simp only [e8]
    obtain ⟨n5, hm5, h⟩ : ∃ n5 : (Int × b4) → Hp → Prop, (∀ s' H', n5 s' H' → b2n s' H' ∧ a6v s' < a6v (a5k, a2o)) ∧ P0 x2 x1 a5k a2o H n5 K := ⟨_, fun _ _ h => h, c6g (a5k, a2o) H (fun s' H' => b2n s' H' ∧ a6v s' < a6v (a5k, a2o)) c6h (fun _ _ a b => ⟨a, b⟩)⟩
    unfold c8T
    unfold P0 at h
    refine a8 K2 ?_
    refine b7 (ld1 Tryd.isAgg23 ((I.bring 1).at1 (o := 4) (vs := [(vs x1.r9)]) (nb rfl) rfl)) ?_
    refine a8 (M6 _ _ _) ?_
    refine a8 (C4 _ _ _ _ _ _) ?_
    try simp only [J1]
    refine a8 (Pu.g fun hb => by have a7 := hb; first | exact (q6 _) | (simp only [b3 a7]; exact (q6 _)) | (simp only [b5 a7, b3 a7, b3 hb, d9 a7, d6]; exact (q6 _))) ?_
    refine a8 (Pu.g fun hb => by have a7 := hb; first | exact u1 | (simp only [b3 a7]; exact u1) | (simp only [b5 a7, b3 a7, b3 hb, d9 a7, d6]; exact u1)) ?_
    refine b7 (Ld.g fun hb => by have a7 := hb; first | exact (ld1 Tryd.isAgg3 (I.at1 (o := 2) (vs := [(vi a2o.fbad)]) (nb rfl) rfl)) | (simp only [b3 a7]; exact (ld1 Tryd.isAgg3 (I.at1 (o := 2) (vs := [(vi a2o.fbad)]) (nb rfl) rfl))) | (simp only [b5 a7, b3 a7, b3 hb, d9 a7, d6]; exact (ld1 Tryd.isAgg3 (I.at1 (o := 2) (vs := [(vi a2o.fbad)]) (nb rfl) rfl)))) ?_
    refine a8 (Pu.g fun hb => by have a7 := hb; first | exact (f7 _ _ _ _ _ _) | (simp only [b3 a7]; exact (f7 _ _ _ _ _ _)) | (simp only [b5 a7, b3 a7, b3 hb, d9 a7, d6]; exact (f7 _ _ _ _ _ _))) ?_
    refine a8 (u5 _ _) ?_
    refine m5 (fun b2p => ?_) (fun b2p => ?_)
    ·replace h := h.1 b2p
     refine a8 K2 ?_
     refine b7 (ld1 Tryd.isAgg23 ((I.bring 1).at1 (o := 4) (vs := [(vs x1.r9)]) (nb rfl) rfl)) ?_
     obtain ⟨f0c, f0d, b9r, c6i, h⟩ := h
     obtain ⟨f5M, f5N, f0e, c6i⟩ := c6i
     refine a8 (a2W f0e _ _ _ _ f0c f0d) ?_
     refine b7 (ldA (vs := (b8 b9r)) Tryd.isAgg88 Tryd.sizeOf88 rfl (I.atH c6i)) ?_
     refine a8 (s6 _ _ _ _ _ _) ?_
     refine d7 (cap := []) (fun args w => Tryd.call92 args w) ?_
     refine i6 (Fi := [bx g0 99 (d5 a2o)]) (Fr := [bx g_2 88 (b8 x1)]) I (h g0) (fun f0f b2m f0g b1O c6j f0h f0i c6k => ?_) (fun _ _ _ _ _ q => q.elim)
     obtain ⟨b7g, rfl, rfl, h⟩ := c6k
     refine a8 (s6 _ _ _ _ _ _) ?_
     exact hn5 _ _ _ (hm5 _ _ h).2 ⟨((IntKind.wrap .i64 (a5k + 1)), b7g), b2m, rfl, rfl, ((c6j.bring 1).bring 1), (hm5 _ _ h).1⟩
    ·replace h := h.2 b2p
     exact hx3 _ _ (hj3 a2o H _ ((I.bring 1).bring 1) h)
   refine t7 fun j2 hx2 => ?_
   obtain ⟨c6l, b7i, f0j, f0k⟩ := h
   refine y9 (J := fun n l w => ∃ (s : Int × b4) (H : Hp) , n = b7i s ∧ l = (match s with | (a5l, a2p) => [(vi a5l)]) ∧ (match s with | (a5l, a2p) => Inv w0 ps0 H0 H [bx g0 99 (d5 a2p), bx g_2 88 (b8 x1)] w) ∧ c6l s H) ⟨_, (0, a4o), H, rfl, rfl, ((I.bring 1).bring 1), f0j⟩ ?_
   rintro f5O τ_178 w next6 ⟨⟨a5l, a2p⟩, H, rfl, c6m, I, f0l⟩ hn6
   dsimp only at c6m I
   simp only [List.map_cons, List.map_nil, List.cons.injEq, and_true] at c6m
   have e7 := c6m
   simp only [e7]
   obtain ⟨n6, hm6, h⟩ : ∃ n6 : (Int × b4) → Hp → Prop, (∀ s' H', n6 s' H' → c6l s' H' ∧ b7i s' < b7i (a5l, a2p)) ∧ P2 x2 x1 a5l a2p H n6 K := ⟨_, fun _ _ h => h, f0k (a5l, a2p) H (fun s' H' => c6l s' H' ∧ b7i s' < b7i (a5l, a2p)) f0l (fun _ _ a b => ⟨a, b⟩)⟩
   unfold c8U
   unfold P2 at h
   refine a8 F4 ?_
   refine b7 (ld1 Tryd.isAgg28 ((I.bring 1).at1 (o := 2) (vs := [(vs x1.c7)]) (nb rfl) rfl)) ?_
   refine a8 (q7 _ _ _) ?_
   refine a8 (C4 _ _ _ _ _ _) ?_
   try simp only [J1]
   refine a8 (Pu.g fun hb => by have a7 := hb; first | exact (q6 _) | (simp only [b3 a7]; exact (q6 _)) | (simp only [b5 a7, b3 a7, b3 hb, d9 a7, d6]; exact (q6 _))) ?_
   refine a8 (Pu.g fun hb => by have a7 := hb; first | exact u1 | (simp only [b3 a7]; exact u1) | (simp only [b5 a7, b3 a7, b3 hb, d9 a7, d6]; exact u1)) ?_
   refine b7 (Ld.g fun hb => by have a7 := hb; first | exact (ld1 Tryd.isAgg3 (I.at1 (o := 2) (vs := [(vi a2p.fbad)]) (nb rfl) rfl)) | (simp only [b3 a7]; exact (ld1 Tryd.isAgg3 (I.at1 (o := 2) (vs := [(vi a2p.fbad)]) (nb rfl) rfl))) | (simp only [b5 a7, b3 a7, b3 hb, d9 a7, d6]; exact (ld1 Tryd.isAgg3 (I.at1 (o := 2) (vs := [(vi a2p.fbad)]) (nb rfl) rfl)))) ?_
   refine a8 (Pu.g fun hb => by have a7 := hb; first | exact (f7 _ _ _ _ _ _) | (simp only [b3 a7]; exact (f7 _ _ _ _ _ _)) | (simp only [b5 a7, b3 a7, b3 hb, d9 a7, d6]; exact (f7 _ _ _ _ _ _))) ?_
   refine a8 (u5 _ _) ?_
   refine m5 (fun c6n => ?_) (fun c6n => ?_)
   ·replace h := h.1 c6n
    refine a8 F4 ?_
    refine b7 (ld1 Tryd.isAgg28 ((I.bring 1).at1 (o := 2) (vs := [(vs x1.c7)]) (nb rfl) rfl)) ?_
    obtain ⟨f0m, f0n, b9s, c6o, h⟩ := h
    obtain ⟨f5P, f5Q, f0o, c6o⟩ := c6o
    refine a8 (W4 f0o _ _ _ _ f0m f0n) ?_
    refine b7 (ldA (vs := (c8 b9s)) Tryd.isAgg30 Tryd.sizeOf30 rfl (I.atH c6o)) ?_
    refine a8 (s6 _ _ _ _ _ _) ?_
    refine d7 (cap := []) (fun args w => Tryd.call58 args w) ?_
    refine i6 (Fi := [bx g0 99 (d5 a2p)]) (Fr := [bx g_2 88 (b8 x1)]) I (h g0) (fun f5R c5Z f5S f5T f0p f5U f5V f0q => ?_) (fun _ _ _ _ _ q => q.elim)
    obtain ⟨c2g, rfl, rfl, h⟩ := f0q
    refine a8 (s6 _ _ _ _ _ _) ?_
    exact hn6 _ _ _ (hm6 _ _ h).2 ⟨((IntKind.wrap .i64 (a5l + 1)), c2g), c5Z, rfl, rfl, ((f0p.bring 1).bring 1), (hm6 _ _ h).1⟩
   ·replace h := h.2 c6n
    exact hx2 _ _ (hj2 a2p H _ ((I.bring 1).bring 1) h)
  refine t7 fun j1 hx1 => ?_
  obtain ⟨c6p, b7j, f0r, f0s⟩ := h
  refine y9 (J := fun n l w => ∃ (s : Int × b4) (H : Hp) , n = b7j s ∧ l = (match s with | (a5m, a2q) => [(vi a5m)]) ∧ (match s with | (a5m, a2q) => Inv w0 ps0 H0 H [bx g0 99 (d5 a2q), bx g_2 88 (b8 x1)] w) ∧ c6p s H) ⟨_, (0, a1u), H_6, rfl, rfl, ((I_8.bring 1).bring 1), f0r⟩ ?_
  rintro f5W τ_212 w next7 ⟨⟨a5m, a2q⟩, H, rfl, c6q, I, f0t⟩ hn7
  dsimp only at c6q I
  simp only [List.map_cons, List.map_nil, List.cons.injEq, and_true] at c6q
  have e6 := c6q
  simp only [e6]
  obtain ⟨n7, hm7, h⟩ : ∃ n7 : (Int × b4) → Hp → Prop, (∀ s' H', n7 s' H' → c6p s' H' ∧ b7j s' < b7j (a5m, a2q)) ∧ P4 x2 x1 a5m a2q H n7 K := ⟨_, fun _ _ h => h, f0s (a5m, a2q) H (fun s' H' => c6p s' H' ∧ b7j s' < b7j (a5m, a2q)) f0t (fun _ _ a b => ⟨a, b⟩)⟩
  unfold c8V
  unfold P4 at h
  refine a8 F5 ?_
  refine b7 (ld1 Tryd.isAgg31 ((I.bring 1).at1 (o := 3) (vs := [(vs x1.f5)]) (nb rfl) rfl)) ?_
  refine a8 (C8 _ _ _) ?_
  refine a8 (C4 _ _ _ _ _ _) ?_
  try simp only [J1]
  refine a8 (Pu.g fun hb => by have a7 := hb; first | exact (q6 _) | (simp only [b3 a7]; exact (q6 _)) | (simp only [b5 a7, b3 a7, b3 hb, d9 a7, d6]; exact (q6 _))) ?_
  refine a8 (Pu.g fun hb => by have a7 := hb; first | exact u1 | (simp only [b3 a7]; exact u1) | (simp only [b5 a7, b3 a7, b3 hb, d9 a7, d6]; exact u1)) ?_
  refine b7 (Ld.g fun hb => by have a7 := hb; first | exact (ld1 Tryd.isAgg3 (I.at1 (o := 2) (vs := [(vi a2q.fbad)]) (nb rfl) rfl)) | (simp only [b3 a7]; exact (ld1 Tryd.isAgg3 (I.at1 (o := 2) (vs := [(vi a2q.fbad)]) (nb rfl) rfl))) | (simp only [b5 a7, b3 a7, b3 hb, d9 a7, d6]; exact (ld1 Tryd.isAgg3 (I.at1 (o := 2) (vs := [(vi a2q.fbad)]) (nb rfl) rfl)))) ?_
  refine a8 (Pu.g fun hb => by have a7 := hb; first | exact (f7 _ _ _ _ _ _) | (simp only [b3 a7]; exact (f7 _ _ _ _ _ _)) | (simp only [b5 a7, b3 a7, b3 hb, d9 a7, d6]; exact (f7 _ _ _ _ _ _))) ?_
  refine a8 (u5 _ _) ?_
  refine m5 (fun c6r => ?_) (fun c6r => ?_)
  ·replace h := h.1 c6r
   refine a8 F5 ?_
   refine b7 (ld1 Tryd.isAgg31 ((I.bring 1).at1 (o := 3) (vs := [(vs x1.f5)]) (nb rfl) rfl)) ?_
   obtain ⟨f0u, f0v, b9t, c6s, h⟩ := h
   obtain ⟨f5X, f5Y, f0w, c6s⟩ := c6s
   refine a8 (a1E f0w _ _ _ _ f0u f0v) ?_
   refine b7 (ldA (vs := (c6 b9t)) Tryd.isAgg33 Tryd.sizeOf33 rfl (I.atH c6s)) ?_
   refine a8 (s6 _ _ _ _ _ _) ?_
   refine d7 (cap := []) (fun args w => Tryd.call61 args w) ?_
   refine i6 (Fi := [bx g0 99 (d5 a2q)]) (Fr := [bx g_2 88 (b8 x1)]) I (h g0) (fun f5Z c6a f6a f6b f0x f6c f6d f0y => ?_) (fun _ _ _ _ _ q => q.elim)
   obtain ⟨c2h, rfl, rfl, h⟩ := f0y
   refine a8 (s6 _ _ _ _ _ _) ?_
   exact hn7 _ _ _ (hm7 _ _ h).2 ⟨((IntKind.wrap .i64 (a5m + 1)), c2h), c6a, rfl, rfl, ((f0x.bring 1).bring 1), (hm7 _ _ h).1⟩
  ·replace h := h.2 c6r
   exact hx1 _ _ (hj1 a2q H _ ((I.bring 1).bring 1) h)
theorem a6G (x0 : b4) (x1 : g8) (x2 : Int) {H : Hp} {K : b4 → Hp → Prop} (h : S3 x0 x1 x2 H K) : M5 x0 x1 x2 H K := by
 intro g0 w I
 refine e2z ?_
 refine a6u x0 x1 x2 g0 I (fun y0 H' w' I' hk => ⟨H', _, I', y0, rfl, rfl, hk⟩) h
def Q3 (_cr_6j1 : h7) (_cr_1j1 : h7) (H : Hp) (K : Bool → Hp → Prop) : Prop :=
 K true H
def Q4 (cr_6l2 : h7) (cr_1l2 : h7) (D5 : Int) (H : Hp) (n2 : Int → Hp → Prop) (K : Bool → Hp → Prop) : Prop :=
 (D5 < (cr_1l2.m9.n : Int) →
 (0 : Int) ≤ D5 ∧ (D5 : Int) < cr_1l2.m9.n ∧ ∃ b2q : h7, EltH H cr_1l2.m9 D5 4 (c8 b2q) ∧
 (0 : Int) ≤ D5 ∧ (D5 : Int) < cr_6l2.m9.n ∧ ∃ b2r : h7, EltH H cr_6l2.m9 D5 4 (c8 b2r) ∧
 N1 b2q b2r H (fun (b2s : Bool) (a9j : Hp) =>
 ((!b2s) = true →
 K false a9j) ∧
 ((!b2s) = false →
 n2 (IntKind.wrap .i64 (D5 + 1)) a9j))) ∧
 (¬ (D5 < (cr_1l2.m9.n : Int)) →
 Q3 cr_6l2 cr_1l2 H K)
def T5 (x0 : h7) (x1 : h7) (H : Hp) (K : Bool → Hp → Prop) : Prop :=
 (((((!decide (x0.d4 = x1.d4)) || (!decide (x0.F9 = x1.F9))) || (!decide (x0.d8 = x1.d8))) || (!decide ((x0.m9.n : Int) = (x1.m9.n : Int)))) = true →
 K false H) ∧
 (((((!decide (x0.d4 = x1.d4)) || (!decide (x0.F9 = x1.F9))) || (!decide (x0.d8 = x1.d8))) || (!decide ((x0.m9.n : Int) = (x1.m9.n : Int)))) = false →
 TL (0 : Int) H fun (s : Int) H n2 => Q4 x1 x0 s H n2 K)
theorem a6H (x0 : h7) (x1 : h7) {w0 w : World} {ps0 : Nat → Prop} {H0 H : Hp} {K : Bool → Hp → Prop} {R : Value → World → Prop} {E : Pan} (I : Inv w0 ps0 H0 H [] w) (hR : ∀ (r0 : Bool) (H' : Hp) (w' : World) (_ : Inv w0 ps0 H0 H' [] w') (_ : K r0 H'), R (Value.bool r0) w') (h : T5 x0 x1 H K) : F88 (Value.agg (c8 x0).toArray) (Value.agg (c8 x1).toArray) w R E := by
 unfold T5 at h
 unfold F88
 refine D8 I (cs := (c8 x0)) rfl fun g_2 w_3 I_4 k_5 => ?_
 refine D8 I_4 (cs := (c8 x1)) rfl fun g_7 w_8 I_9 a7H => ?_
 refine a8 Y0 ?_
 refine b7 (ld1 Tryd.isAgg3 ((I_9.bring 1).at1 (o := 0) (vs := [(vi x0.d4)]) (nb rfl) rfl)) ?_
 refine a8 Y0 ?_
 refine b7 (ld1 Tryd.isAgg3 (I_9.at1 (o := 0) (vs := [(vi x1.d4)]) (nb rfl) rfl)) ?_
 refine a8 (t1 _ _ _ _ _ _) ?_
 refine a8 (Pu.g fun hb => by have a7 := hb; first | exact L3 | (simp only [b5 a7, b3 a7, b3 hb, J2 a7]; exact L3) | (simp only [b5 a7, b3 a7, b3 hb, i4 a7, d6]; exact L3)) ?_
 refine b7 (Ld.g fun hb => by have a7 := hb; first | exact (ld1 Tryd.isAgg2 ((I_9.bring 1).at1 (o := 1) (vs := [(vi x0.F9)]) (nb rfl) rfl)) | (simp only [b3 a7]; exact (ld1 Tryd.isAgg2 ((I_9.bring 1).at1 (o := 1) (vs := [(vi x0.F9)]) (nb rfl) rfl))) | (simp only [b5 a7, b3 a7, b3 hb, i4 a7, d6]; exact (ld1 Tryd.isAgg2 ((I_9.bring 1).at1 (o := 1) (vs := [(vi x0.F9)]) (nb rfl) rfl)))) ?_
 refine a8 (Pu.g fun hb => by have a7 := hb; first | exact L3 | (simp only [b5 a7, b3 a7, b3 hb, J2 a7]; exact L3) | (simp only [b5 a7, b3 a7, b3 hb, i4 a7, d6]; exact L3)) ?_
 refine b7 (Ld.g fun hb => by have a7 := hb; first | exact (ld1 Tryd.isAgg2 (I_9.at1 (o := 1) (vs := [(vi x1.F9)]) (nb rfl) rfl)) | (simp only [b3 a7]; exact (ld1 Tryd.isAgg2 (I_9.at1 (o := 1) (vs := [(vi x1.F9)]) (nb rfl) rfl))) | (simp only [b5 a7, b3 a7, b3 hb, i4 a7, d6]; exact (ld1 Tryd.isAgg2 (I_9.at1 (o := 1) (vs := [(vi x1.F9)]) (nb rfl) rfl)))) ?_
 refine a8 (Pu.g fun hb => by have a7 := hb; first | exact (t1 _ _ _ _ _ _) | (simp only [b3 a7]; exact (t1 _ _ _ _ _ _)) | (simp only [b5 a7, b3 a7, b3 hb, i4 a7, d6]; exact (t1 _ _ _ _ _ _))) ?_
 refine a8 (U3 _ _) ?_
 refine a8 (Pu.g fun hb => by have a7 := hb; first | exact K0 | (simp only [b5 a7, b3 a7, b3 hb, J2 a7]; exact K0) | (simp only [b5 a7, b3 a7, b3 hb, i4 a7, d6]; exact K0)) ?_
 refine b7 (Ld.g fun hb => by have a7 := hb; first | exact (ld1 Tryd.isAgg9 ((I_9.bring 1).at1 (o := 2) (vs := [(Value.string x0.d8)]) (nb rfl) rfl)) | (simp only [b3 a7]; exact (ld1 Tryd.isAgg9 ((I_9.bring 1).at1 (o := 2) (vs := [(Value.string x0.d8)]) (nb rfl) rfl))) | (simp only [b5 a7, b3 a7, b3 hb, i4 a7, d6]; exact (ld1 Tryd.isAgg9 ((I_9.bring 1).at1 (o := 2) (vs := [(Value.string x0.d8)]) (nb rfl) rfl)))) ?_
 refine a8 (Pu.g fun hb => by have a7 := hb; first | exact K0 | (simp only [b5 a7, b3 a7, b3 hb, J2 a7]; exact K0) | (simp only [b5 a7, b3 a7, b3 hb, i4 a7, d6]; exact K0)) ?_
 refine b7 (Ld.g fun hb => by have a7 := hb; first | exact (ld1 Tryd.isAgg9 (I_9.at1 (o := 2) (vs := [(Value.string x1.d8)]) (nb rfl) rfl)) | (simp only [b3 a7]; exact (ld1 Tryd.isAgg9 (I_9.at1 (o := 2) (vs := [(Value.string x1.d8)]) (nb rfl) rfl))) | (simp only [b5 a7, b3 a7, b3 hb, i4 a7, d6]; exact (ld1 Tryd.isAgg9 (I_9.at1 (o := 2) (vs := [(Value.string x1.d8)]) (nb rfl) rfl)))) ?_
 refine a8 (Pu.g fun hb => by have a7 := hb; first | exact (a4A _ _ _ _ _) | (simp only [b3 a7]; exact (a4A _ _ _ _ _)) | (simp only [b5 a7, b3 a7, b3 hb, i4 a7, d6]; exact (a4A _ _ _ _ _))) ?_
 refine a8 (U3 _ _) ?_
 refine a8 (Pu.g fun hb => by have a7 := hb; first | exact F0 | (simp only [b5 a7, b3 a7, b3 hb, J2 a7]; exact F0) | (simp only [b5 a7, b3 a7, b3 hb, i4 a7, d6]; exact F0)) ?_
 refine b7 (Ld.g fun hb => by have a7 := hb; first | exact (ld1 Tryd.isAgg28 ((I_9.bring 1).at1 (o := 3) (vs := [(vs x0.m9)]) (nb rfl) rfl)) | (simp only [b3 a7]; exact (ld1 Tryd.isAgg28 ((I_9.bring 1).at1 (o := 3) (vs := [(vs x0.m9)]) (nb rfl) rfl))) | (simp only [b5 a7, b3 a7, b3 hb, i4 a7, d6]; exact (ld1 Tryd.isAgg28 ((I_9.bring 1).at1 (o := 3) (vs := [(vs x0.m9)]) (nb rfl) rfl)))) ?_
 refine a8 (Pu.g fun hb => by have a7 := hb; first | exact (q7 _ _ _) | (simp only [b3 a7]; exact (q7 _ _ _)) | (simp only [b5 a7, b3 a7, b3 hb, i4 a7, d6]; exact (q7 _ _ _))) ?_
 refine a8 (Pu.g fun hb => by have a7 := hb; first | exact F0 | (simp only [b5 a7, b3 a7, b3 hb, J2 a7]; exact F0) | (simp only [b5 a7, b3 a7, b3 hb, i4 a7, d6]; exact F0)) ?_
 refine b7 (Ld.g fun hb => by have a7 := hb; first | exact (ld1 Tryd.isAgg28 (I_9.at1 (o := 3) (vs := [(vs x1.m9)]) (nb rfl) rfl)) | (simp only [b3 a7]; exact (ld1 Tryd.isAgg28 (I_9.at1 (o := 3) (vs := [(vs x1.m9)]) (nb rfl) rfl))) | (simp only [b5 a7, b3 a7, b3 hb, i4 a7, d6]; exact (ld1 Tryd.isAgg28 (I_9.at1 (o := 3) (vs := [(vs x1.m9)]) (nb rfl) rfl)))) ?_
 refine a8 (Pu.g fun hb => by have a7 := hb; first | exact (q7 _ _ _) | (simp only [b3 a7]; exact (q7 _ _ _)) | (simp only [b5 a7, b3 a7, b3 hb, i4 a7, d6]; exact (q7 _ _ _))) ?_
 refine a8 (Pu.g fun hb => by have a7 := hb; first | exact (t1 _ _ _ _ _ _) | (simp only [b3 a7]; exact (t1 _ _ _ _ _ _)) | (simp only [b5 a7, b3 a7, b3 hb, i4 a7, d6]; exact (t1 _ _ _ _ _ _))) ?_
 refine a8 (U3 _ _) ?_
 refine m5 (fun d1I => ?_) (fun d1I => ?_)
 ·replace h := h.1 d1I
  exact hR false H _ I_9.drop.drop h
 ·replace h := h.2 d1I
  have hj1 : ∀ (H : Hp) (w : World) (_ : Inv w0 ps0 H0 H [bx g_7 30 (c8 x1), bx g_2 30 (c8 x0)] w) (_ : Q3 x1 x0 H K), c0G w R E := by
   intro H w I h
   unfold c0G
   intro _
   unfold Q3 at h
   exact hR true H _ I.drop.drop h
  refine t7 fun j1 hx1 => ?_
  obtain ⟨d1J, c2j, f3L, f3M⟩ := h
  refine y9 (J := fun n l w => ∃ (s : Int) (H : Hp) , n = c2j s ∧ l = [(vi s)] ∧ Inv w0 ps0 H0 H [bx g_7 30 (c8 x1), bx g_2 30 (c8 x0)] w ∧ d1J s H) ⟨_, 0, H, rfl, rfl, ((I_9.bring 1).bring 1), f3L⟩ ?_
  rintro f8m τ_43 w next2 ⟨D5, H, rfl, e6i, I, b4i⟩ hn2
  simp only [List.map_cons, List.map_nil, List.cons.injEq, and_true] at e6i
  have e5 := e6i
  simp only [e5]
  obtain ⟨n2, hm2, h⟩ : ∃ n2 : Int → Hp → Prop, (∀ s' H', n2 s' H' → d1J s' H' ∧ c2j s' < c2j D5) ∧ Q4 x1 x0 D5 H n2 K := ⟨_, fun _ _ h => h, f3M D5 H (fun s' H' => d1J s' H' ∧ c2j s' < c2j D5) b4i (fun _ _ a b => ⟨a, b⟩)⟩
  unfold c8L
  unfold Q4 at h
  refine a8 F0 ?_
  refine b7 (ld1 Tryd.isAgg28 ((I.bring 1).at1 (o := 3) (vs := [(vs x0.m9)]) (nb rfl) rfl)) ?_
  refine a8 (q7 _ _ _) ?_
  refine a8 (C4 _ _ _ _ _ _) ?_
  refine h9 (fun d1K => ?_) (fun d1K => ?_)
  ·replace h := h.1 d1K
   refine a4O I fun a1m C3 => ?_
   refine o3 F0 ?_
   refine o3 F0 ?_
   refine E8 (ld1 Tryd.isAgg28 ((C3.bring 1).at1 (o := 3) (vs := [(vs x0.m9)]) (nb rfl) rfl)) ?_
   obtain ⟨a3g, d1L, b2q, a4Y, h⟩ := h
   obtain ⟨f3N, f3O, d1M, a4Y⟩ := a4Y
   refine o3 (W4 d1M _ _ _ _ a3g d1L) ?_
   refine E8 (ldA (vs := (c8 b2q)) Tryd.isAgg30 Tryd.sizeOf30 rfl (C3.atH a4Y)) ?_
   refine E8 (ld1 Tryd.isAgg28 (C3.at1 (o := 3) (vs := [(vs x1.m9)]) (nb rfl) rfl)) ?_
   obtain ⟨c1S, c1T, b2r, b5W, h⟩ := h
   obtain ⟨a0u, f3P, b5P, b5W⟩ := b5W
   refine o3 (W4 b5P _ _ _ _ c1S c1T) ?_
   refine E8 (ldA (vs := (c8 b2r)) Tryd.isAgg30 Tryd.sizeOf30 rfl (C3.atH b5W)) ?_
   refine d7 (cap := []) (fun args w => Tryd.call88 args w) ?_
   refine i6 (Fi := []) (Fr := [bx g_7 30 (c8 x1), bx g_2 30 (c8 x0)]) C3 (h) (fun f3Q a9j f3R u7 a4f d1N c5s d1O => ?_) (fun _ _ _ _ _ q => q.elim)
   obtain ⟨b2s, rfl, rfl, h⟩ := d1O
   refine o3 (p7 _) ?_
   refine m5 (fun b5X => ?_) (fun b5X => ?_)
   ·replace h := h.1 b5X
    exact hR false a9j _ a4f.drop.drop h
   ·replace h := h.2 b5X
    refine a8 (s6 _ _ _ _ _ _) ?_
    exact hn2 _ _ _ (hm2 _ _ h).2 ⟨(IntKind.wrap .i64 (D5 + 1)), a9j, rfl, rfl, ((a4f.bring 1).bring 1), (hm2 _ _ h).1⟩
  ·replace h := h.2 d1K
   exact hx1 _ _ (hj1 H _ ((I.bring 1).bring 1) h)
theorem a7a (x0 : h7) (x1 : h7) {H : Hp} {K : Bool → Hp → Prop} (h : T5 x0 x1 H K) : N1 x0 x1 H K := by
 intro w I
 refine e0U ?_
 refine a6H x0 x1 I (fun r0 H' w' I' hk => ⟨H', _, I', r0, rfl, rfl, hk⟩) h
def B7 (f3S : Int) (b4U : Bool) (_cr_1j3 : E9) (H : Hp) (K : Bool → Hp → Prop) : Prop :=
 (b4U = true →
 K (decide (f3S = 2)) H) ∧
 (b4U = false →
 K false H)
def K8 (b8s : Int) (a4p : Int) (b4V : Bool) (cr_1j2 : E9) (H : Hp) (K : Bool → Hp → Prop) : Prop :=
 (b4V = true →
 K (decide (b8s = 1)) H) ∧
 (b4V = false →
 (a4p = 6 →
 B7 b8s (decide (a4p = 6)) cr_1j2 H K) ∧
 (¬ (a4p = 6) →
 (a4p = 7 →
 B7 b8s (decide (a4p = 7)) cr_1j2 H K) ∧
 (¬ (a4p = 7) →
 (a4p = 8 →
 B7 b8s (decide (a4p = 8)) cr_1j2 H K) ∧
 (¬ (a4p = 8) →
 (a4p = 9 →
 B7 b8s (decide (a4p = 9)) cr_1j2 H K) ∧
 (¬ (a4p = 9) →
 B7 b8s (decide (a4p = 10)) cr_1j2 H K)))))
def K9 (a2S : Int) (a4n : Int) (b4W : Bool) (cr_1j1 : E9) (H : Hp) (K : Bool → Hp → Prop) : Prop :=
 (b4W = true →
 K (decide (a2S = 0)) H) ∧
 (b4W = false →
 (a4n = 4 →
 K8 a2S a4n (decide (a4n = 4)) cr_1j1 H K) ∧
 (¬ (a4n = 4) →
 K8 a2S a4n (decide (a4n = 5)) cr_1j1 H K))
def a0e (x0 : E9) (H : Hp) (K : Bool → Hp → Prop) : Prop :=
 a0P (b9.D1 x0) H (fun (_r0_14 : ByteArray) (a8g : Bool) (H_6 : Hp) =>
 ((((!decide (x0.i7.d4 = 1)) && (!decide (x0.i7.F9 = 0))) || ((!a8g) && (!decide (x0.i7.d8 = ⟨#[]⟩)))) = true →
 K false H_6) ∧
 ((((!decide (x0.i7.d4 = 1)) && (!decide (x0.i7.F9 = 0))) || ((!a8g) && (!decide (x0.i7.d8 = ⟨#[]⟩)))) = false →
 (x0.i7.d4 = 1 →
 K ((decide (0 ≤ x0.i7.F9)) && (decide ((x0.i7.m9.n : Int) = 0))) H_6) ∧
 (¬ (x0.i7.d4 = 1) →
 (x0.i7.d4 = 2 →
 K9 (x0.i7.m9.n : Int) x0.i7.d4 (decide (x0.i7.d4 = 2)) x0 H_6 K) ∧
 (¬ (x0.i7.d4 = 2) →
 K9 (x0.i7.m9.n : Int) x0.i7.d4 (decide (x0.i7.d4 = 3)) x0 H_6 K))))
theorem a9k (x0 : E9) {w0 w : World} {ps0 : Nat → Prop} {H0 H : Hp} {K : Bool → Hp → Prop} {R : Value → World → Prop} {E : Pan} (I : Inv w0 ps0 H0 H [] w) (hR : ∀ (r0 : Bool) (H' : Hp) (w' : World) (_ : Inv w0 ps0 H0 H' [] w') (_ : K r0 H'), R (Value.bool r0) w') (h : a0e x0 H K) : c5f (Value.agg (c8 x0.i7).toArray) w R E := by
 unfold a0e at h
 unfold c5f
 refine D8 I (cs := (c8 x0.i7)) rfl fun g_2 w_3 I_4 k_5 => ?_
 refine a8 L5 ?_
 refine a8 F0 ?_
 refine b7 (ld1 Tryd.isAgg28 (I_4.at1 (o := 3) (vs := [(vs x0.i7.m9)]) (nb rfl) rfl)) ?_
 refine a8 (q7 _ _ _) ?_
 refine b7 (ldA Tryd.isAgg96 Tryd.sizeOf96 rfl (I_4.at1 (o := 0) (vs := (c8 x0.i7)) (nb rfl) rfl)) ?_
 refine a8 (b2V x0) ?_
 refine d7 (cap := []) (fun args w => Tryd.call114 args w) ?_
 refine i6 (Fi := []) (Fr := [bx g_2 96 (c8 x0.i7)]) I_4 (h) (fun a7K H_6 a7L w_7 I_8 a7M k_9 a1f => ?_) (fun _ _ _ _ _ q => q.elim)
 obtain ⟨E3, a8g, rfl, rfl, h⟩ := a1f
 refine a8 (r8 _ _ _ rfl) ?_
 refine a8 (r8 _ _ _ rfl) ?_
 refine a8 L5 ?_
 refine a8 Y0 ?_
 refine b7 (ld1 Tryd.isAgg3 (I_8.at1 (o := 0) (vs := [(vi x0.i7.d4)]) (nb rfl) rfl)) ?_
 refine a8 (t1 _ _ _ _ _ _) ?_
 refine a8 (Pu.g fun hb => by have a7 := hb; first | exact L5 | (simp only [b5 a7, b3 a7, b3 hb, q8 a7]; exact L5) | (simp only [b5 a7, b3 a7, b3 hb, d9 a7, d6]; exact L5)) ?_
 refine a8 (Pu.g fun hb => by have a7 := hb; first | exact L3 | (simp only [b3 a7]; exact L3) | (simp only [b5 a7, b3 a7, b3 hb, d9 a7, d6]; exact L3)) ?_
 refine b7 (Ld.g fun hb => by have a7 := hb; first | exact (ld1 Tryd.isAgg2 (I_8.at1 (o := 1) (vs := [(vi x0.i7.F9)]) (nb rfl) rfl)) | (simp only [b3 a7]; exact (ld1 Tryd.isAgg2 (I_8.at1 (o := 1) (vs := [(vi x0.i7.F9)]) (nb rfl) rfl))) | (simp only [b5 a7, b3 a7, b3 hb, d9 a7, d6]; exact (ld1 Tryd.isAgg2 (I_8.at1 (o := 1) (vs := [(vi x0.i7.F9)]) (nb rfl) rfl)))) ?_
 refine a8 (Pu.g fun hb => by have a7 := hb; first | exact (t1 _ _ _ _ _ _) | (simp only [b3 a7]; exact (t1 _ _ _ _ _ _)) | (simp only [b5 a7, b3 a7, b3 hb, d9 a7, d6]; exact (t1 _ _ _ _ _ _))) ?_
 refine a8 (u5 _ _) ?_
 try simp only [J1]
 refine a8 (Pu.g fun hb => by have a7 := hb; first | exact (p7 _) | (simp only [b3 a7]; exact (p7 _)) | (simp only [b5 a7, b3 a7, b3 hb, i4 a7, d6]; exact (p7 _))) ?_
 try simp only [a9Q]
 refine a8 (Pu.e (a8n _ _ _) (Pu.g fun hb => by obtain ⟨a7, a0v⟩ := b4E hb; first | exact L5 | (simp only [b5 a7, b3 a7, b5 a0v, b3 a0v, b3 hb, d6]; exact L5) | (simp only [b5 a7, b3 a7, b5 a0v, b3 a0v, b3 hb, q8 hb]; exact L5) | (simp only [b5 a7, b3 a7, b5 a0v, b3 a0v, b3 hb, d9 hb, d6]; exact L5))) ?_
 refine a8 (Pu.e (a8n _ _ _) (Pu.g fun hb => by obtain ⟨a7, a0v⟩ := b4E hb; first | exact K0 | (simp only [b3 hb]; exact K0) | (simp only [b5 a7, b3 a7, b5 a0v, b3 a0v, b3 hb, q8 hb]; exact K0) | (simp only [b5 a7, b3 a7, b5 a0v, b3 a0v, b3 hb, d9 hb, d6]; exact K0))) ?_
 refine b7 (Ld.e (a8n _ _ _) (Ld.g fun hb => by obtain ⟨a7, a0v⟩ := b4E hb; first | exact (ld1 Tryd.isAgg9 (I_8.at1 (o := 2) (vs := [(Value.string x0.i7.d8)]) (nb rfl) rfl)) | (simp only [b3 hb]; exact (ld1 Tryd.isAgg9 (I_8.at1 (o := 2) (vs := [(Value.string x0.i7.d8)]) (nb rfl) rfl))) | (simp only [b5 a7, b3 a7, b5 a0v, b3 a0v, b3 hb, q8 hb]; exact (ld1 Tryd.isAgg9 (I_8.at1 (o := 2) (vs := [(Value.string x0.i7.d8)]) (nb rfl) rfl))) | (simp only [b5 a7, b3 a7, b5 a0v, b3 a0v, b3 hb, d9 hb, d6]; exact (ld1 Tryd.isAgg9 (I_8.at1 (o := 2) (vs := [(Value.string x0.i7.d8)]) (nb rfl) rfl))))) ?_
 refine a8 (Pu.e (a8n _ _ _) (Pu.g fun hb => by obtain ⟨a7, a0v⟩ := b4E hb; first | exact (a4A _ _ _ _ _) | (simp only [b3 hb]; exact (a4A _ _ _ _ _)) | (simp only [b5 a7, b3 a7, b5 a0v, b3 a0v, b3 hb, q8 hb]; exact (a4A _ _ _ _ _)) | (simp only [b5 a7, b3 a7, b5 a0v, b3 a0v, b3 hb, d9 hb, d6]; exact (a4A _ _ _ _ _)))) ?_
 refine a8 (Pu.g fun hb => by have a7 := hb; first | exact (u5 _ _) | (simp only [b3 a7, J2 a7]; exact (u5 _ _)) | (simp only [b5 a7, b3 a7, b3 hb, i4 a7, d6]; exact (u5 _ _))) ?_
 refine a8 (U3 _ _) ?_
 refine m5 (fun d1P => ?_) (fun d1P => ?_)
 ·replace h := h.1 d1P
  exact hR false H_6 _ I_8.drop h
 ·replace h := h.2 d1P
  refine a8 L5 ?_
  refine a8 Y0 ?_
  refine b7 (ld1 Tryd.isAgg3 (I_8.at1 (o := 0) (vs := [(vi x0.i7.d4)]) (nb rfl) rfl)) ?_
  refine a8 (f7 _ _ _ _ _ _) ?_
  refine h9 (fun b5Y => ?_) (fun b5Y => ?_)
  ·replace h := h.1 b5Y
   refine a8 L5 ?_
   refine a8 L3 ?_
   refine b7 (ld1 Tryd.isAgg2 (I_8.at1 (o := 1) (vs := [(vi x0.i7.F9)]) (nb rfl) rfl)) ?_
   refine a8 (b6x _ _ _ _ _ _) ?_
   try simp only [J1]
   refine a8 (Pu.g fun hb => by have a7 := hb; first | exact (f7 _ _ _ _ _ _) | (simp only [b3 a7]; exact (f7 _ _ _ _ _ _)) | (simp only [b5 a7, b3 a7, b3 hb, d9 a7, d6]; exact (f7 _ _ _ _ _ _))) ?_
   refine a8 (u5 _ _) ?_
   exact hR ((decide (0 ≤ x0.i7.F9)) && (decide ((x0.i7.m9.n : Int) = 0))) H_6 _ I_8.drop h
  ·replace h := h.2 b5Y
   have hj1 : ∀ (b4W : Bool) (H : Hp) (w : World) (_ : Inv w0 ps0 H0 H [bx g_2 96 (c8 x0.i7)] w) (_ : K9 (x0.i7.m9.n : Int) x0.i7.d4 b4W x0 H K), b8b (vi (x0.i7.m9.n : Int)) (vi x0.i7.d4) (Value.bool b4W) w R E := by
    intro b4W H w I h
    unfold b8b
    intro _
    unfold K9 at h
    refine m5 (fun d1Q => ?_) (fun d1Q => ?_)
    ·replace h := h.1 d1Q
     refine a8 (f7 _ _ _ _ _ _) ?_
     exact hR (decide ((x0.i7.m9.n : Int) = 0)) H _ I.drop h
    ·replace h := h.2 d1Q
     have hj2 : ∀ (b4V : Bool) (H : Hp) (w : World) (_ : Inv w0 ps0 H0 H [bx g_2 96 (c8 x0.i7)] w) (_ : K8 (x0.i7.m9.n : Int) x0.i7.d4 b4V x0 H K), b8a (vi (x0.i7.m9.n : Int)) (vi x0.i7.d4) (Value.bool b4V) w R E := by
      intro b4V H w I h
      unfold b8a
      intro _
      unfold K8 at h
      refine m5 (fun a9c => ?_) (fun a9c => ?_)
      ·replace h := h.1 a9c
       refine a8 (f7 _ _ _ _ _ _) ?_
       exact hR (decide ((x0.i7.m9.n : Int) = 1)) H _ I.drop h
      ·replace h := h.2 a9c
       have hj3 : ∀ (b4U : Bool) (H : Hp) (w : World) (_ : Inv w0 ps0 H0 H [bx g_2 96 (c8 x0.i7)] w) (_ : B7 (x0.i7.m9.n : Int) b4U x0 H K), b7Z (vi (x0.i7.m9.n : Int)) (Value.bool b4U) w R E := by
        intro b4U H w I h
        unfold b7Z
        intro _
        unfold B7 at h
        refine m5 (fun a3h => ?_) (fun a3h => ?_)
        ·replace h := h.1 a3h
         refine a8 (f7 _ _ _ _ _ _) ?_
         exact hR (decide ((x0.i7.m9.n : Int) = 2)) H _ I.drop h
        ·replace h := h.2 a3h
         exact hR false H _ I.drop h
       refine t7 fun j3 hx3 => ?_
       refine a8 (f7 _ _ _ _ _ _) ?_
       refine h9 (fun a9d => ?_) (fun a9d => ?_)
       ·replace h := h.1 a9d
        exact hx3 _ _ (hj3 (decide (x0.i7.d4 = 6)) H _ I h)
       ·replace h := h.2 a9d
        refine a8 (f7 _ _ _ _ _ _) ?_
        refine h9 (fun a5f => ?_) (fun a5f => ?_)
        ·replace h := h.1 a5f
         exact hx3 _ _ (hj3 (decide (x0.i7.d4 = 7)) H _ I h)
        ·replace h := h.2 a5f
         refine a8 (f7 _ _ _ _ _ _) ?_
         refine h9 (fun a5e => ?_) (fun a5e => ?_)
         ·replace h := h.1 a5e
          exact hx3 _ _ (hj3 (decide (x0.i7.d4 = 8)) H _ I h)
         ·replace h := h.2 a5e
          refine a8 (f7 _ _ _ _ _ _) ?_
          refine h9 (fun a9e => ?_) (fun a9e => ?_)
          ·replace h := h.1 a9e
           exact hx3 _ _ (hj3 (decide (x0.i7.d4 = 9)) H _ I h)
          ·replace h := h.2 a9e
           refine a8 (f7 _ _ _ _ _ _) ?_
           exact hx3 _ _ (hj3 (decide (x0.i7.d4 = 10)) H _ I h)
     refine t7 fun j2 hx2 => ?_
     refine a8 (f7 _ _ _ _ _ _) ?_
     refine h9 (fun b5Z => ?_) (fun b5Z => ?_)
     ·replace h := h.1 b5Z
      exact hx2 _ _ (hj2 (decide (x0.i7.d4 = 4)) H _ I h)
     ·replace h := h.2 b5Z
      refine a8 (f7 _ _ _ _ _ _) ?_
      exact hx2 _ _ (hj2 (decide (x0.i7.d4 = 5)) H _ I h)
   refine t7 fun j1 hx1 => ?_
   refine a8 (f7 _ _ _ _ _ _) ?_
   refine h9 (fun d1R => ?_) (fun d1R => ?_)
   ·replace h := h.1 d1R
    exact hx1 _ _ (hj1 (decide (x0.i7.d4 = 2)) H_6 _ I_8 h)
   ·replace h := h.2 d1R
    refine a8 (f7 _ _ _ _ _ _) ?_
    exact hx1 _ _ (hj1 (decide (x0.i7.d4 = 3)) H_6 _ I_8 h)
theorem a9H (x0 : E9) {H : Hp} {K : Bool → Hp → Prop} (h : a0e x0 H K) : a1V x0 H K := by
 intro w I
 refine d5V ?_
 refine a9k x0 I (fun r0 H' w' I' hk => ⟨H', _, I', r0, rfl, rfl, hk⟩) h
def v8 (Y1 : (List b9)) (H : Hp) (K : Sl → Hp → Prop) : Prop :=
 ∀ (F7 : Sl) (a0s : Hp), Hle H a0s → SlH a0s 1 m6 F7 Y1 → F7.n ≤ F7.c →
 K F7 a0s
def w3 (N2 : Sl) (a6o : Int) (s7 : (List b9)) (p6 : Int) (H : Hp) (n2 : ((List b9) × Int) → Hp → Prop) (K : Sl → Hp → Prop) : Prop :=
 (p6 < a6o →
 (0 : Int) ≤ p6 ∧ (p6 : Int) < N2.n ∧ ∃ x_1 : h7, EltH H N2 p6 4 (c8 x_1) ∧
 a6k x_1 H (fun (R4 : b9) (a2R : Hp) =>
 (s7.length + ([R4] : List b9).length) * 17 ≤ 140737488355328 ∧
 n2 ((s7 ++ [R4]), (IntKind.wrap .i64 (p6 + 1))) a2R)) ∧
 (¬ (p6 < a6o) →
 v8 s7 H K)
def z7 (x0 : Sl) (H : Hp) (K : Sl → Hp → Prop) : Prop :=
 TL (([], 0) : (List b9) × Int) H fun (s : (List b9) × Int) H n2 => w3 x0 (x0.n : Int) s.1 s.2 H n2 K
theorem a0m (x0 : Sl) {w0 w : World} {ps0 : Nat → Prop} {H0 H : Hp} {K : Sl → Hp → Prop} {R : Value → World → Prop} {E : Pan} (I : Inv w0 ps0 H0 H [] w) (hR : ∀ (r0 : Sl) (H' : Hp) (w' : World) (_ : Inv w0 ps0 H0 H' [] w') (_ : K r0 H'), R (vs r0) w') (h : z7 x0 H K) : c5h (vs x0) (Value.func (.func 151) #[] #[]) w R E := by
 unfold z7 at h
 unfold c5h
 have hj1 : ∀ (Y1 : (List b9)) (F7 : Sl) (Fs5j1 : Frag) (H : Hp) (w : World) (_ : RowL 141 1 m6 F7 Y1 Fs5j1) (_ : Inv w0 ps0 H0 H [Fs5j1] w) (_ : v8 Y1 H K), b8c (vs F7) w R E := by
  intro Y1 F7 Fs5j1 H w b1W I h
  unfold b8c
  intro _
  unfold v8 at h
  obtain ⟨a0s, a1Z, b4d, b1X, a6W⟩ := Inv.freezeC I b1W (by decide)
  replace h := h F7 a0s b4d b1X a6W
  exact hR F7 a0s _ a1Z h
 refine t7 fun j1 hx1 => ?_
 refine a8 (q7 _ _ _) ?_
 obtain ⟨a5g, a1H, b5J, a2x⟩ := h
 refine y9 (J := fun n l w => ∃ (s : (List b9) × Int) (H : Hp) (Y2 : Sl) (Fs5l2 : Frag) , n = a1H s ∧ l = (match s with | (s7, p6) => [(vs Y2), (vi p6)]) ∧ (match s with | (s7, p6) => RowL 141 1 m6 Y2 s7 Fs5l2) ∧ (match s with | (s7, p6) => Inv w0 ps0 H0 H [Fs5l2] w) ∧ a5g s H) ⟨_, ([], 0), H, (Sl.mk none 0 0), [], rfl, rfl, (RowL.nil N0 R1), I.nil, b5J⟩ ?_
 rintro d1l τ_50 w next2 ⟨⟨s7, p6⟩, H, Y2, Fs5l2, rfl, a5h, a3i, I, b5K⟩ hn2
 dsimp only at a5h I a3i
 simp only [List.map_cons, List.map_nil, List.cons.injEq, and_true] at a5h
 obtain ⟨e5, e10⟩ := a5h
 simp only [e5, e10]
 obtain ⟨n2, hm2, h⟩ : ∃ n2 : ((List b9) × Int) → Hp → Prop, (∀ s' H', n2 s' H' → a5g s' H' ∧ a1H s' < a1H (s7, p6)) ∧ w3 x0 (x0.n : Int) s7 p6 H n2 K := ⟨_, fun _ _ h => h, a2x (s7, p6) H (fun s' H' => a5g s' H' ∧ a1H s' < a1H (s7, p6)) b5K (fun _ _ a b => ⟨a, b⟩)⟩
 unfold c3Z
 unfold w3 at h
 refine a8 (C4 _ _ _ _ _ _) ?_
 refine h9 (fun a3j => ?_) (fun a3j => ?_)
 ·replace h := h.1 a3j
  obtain ⟨h_4, h_5, x_1, h_7, h⟩ := h
  obtain ⟨g_2, o_3, h_6, h_7⟩ := h_7
  refine a8 (W4 h_6 _ _ _ _ h_4 h_5) ?_
  refine b7 (ldA (vs := (c8 x_1)) Tryd.isAgg30 Tryd.sizeOf30 rfl (I.atH h_7)) ?_
  refine C1 I Tryd.zeroValue30 (cs := [(vi 0), (vi 0), (Value.string ⟨#[]⟩), (Value.slice none 0 0)]) rfl fun g_9 k9 a1q b0x => ?_
  refine o8 a1q Tryd.sizeOf30 (vs := (c8 x_1)) (cs' := (c8 x_1)) rfl rfl (nb rfl) rfl rfl fun a2N a1Y b5D => ?_
  refine b7 (ldA Tryd.isAgg30 Tryd.sizeOf30 rfl (a1Y.at1 (o := 0) (vs := (c8 x_1)) (nb rfl) rfl)) ?_
  refine d7 (cap := []) (fun args w => Tryd.call151 args w) ?_
  refine i6 (Fi := []) (Fr := [bx g_9 30 (c8 x_1), Fs5l2]) a1Y (h) (fun c5L a2R c5M a3J a3k c5N c1L b1Y => ?_) (fun _ _ _ _ _ q => q.elim)
  obtain ⟨R4, rfl, rfl, h⟩ := b1Y
  refine a6N (e := 141) (c := m6) (xs := [R4]) a3k (b4G _) rfl rfl N0 R1 (nb rfl) fun b5L b8l u7 b1Z a6X c5O => ?_
  obtain ⟨b2a, h⟩ := h
  refine b3j (s := Y2) (xs := s7) (a6X.bring 2) a3i (b1Z.srcO ((a6X.bring 2).bring 1)) b2a fun b5M b5N v2 b2b a7N c5P => ?_
  refine a8 (s6 _ _ _ _ _ _) ?_
  exact hn2 _ _ _ (hm2 _ _ h).2 ⟨((s7 ++ [R4]), (IntKind.wrap .i64 (p6 + 1))), a2R, b5M, b5N, rfl, rfl, b2b, ((a7N.bring 1).drop.bring 1).drop, (hm2 _ _ h).1⟩
 ·replace h := h.2 a3j
  exact hx1 _ _ (hj1 s7 Y2 Fs5l2 H _ a3i I h)
theorem a0w (x0 : Sl) {H : Hp} {K : Sl → Hp → Prop} (h : z7 x0 H K) : r5 x0 H K := by
 intro w I
 refine d5Z ?_
 refine a0m x0 I (fun r0 H' w' I' hk => ⟨H', _, I', r0, rfl, rfl, hk⟩) h
def a1v (x0 : g9) (H : Hp) (K : b9 → Hp → Prop) : Prop :=
 K (b9.J3 (L1.mk x0)) H
theorem b1l (x0 : g9) {w0 w : World} {ps0 : Nat → Prop} {H0 H : Hp} {K : b9 → Hp → Prop} {R : Value → World → Prop} {E : Pan} (I : Inv w0 ps0 H0 H [] w) (hR : ∀ (r0 : b9) (H' : Hp) (w' : World) (_ : Inv w0 ps0 H0 H' [] w') (_ : K r0 H'), R (u2 r0) w') (h : a1v x0 H K) : c5n (Value.agg (c6 x0).toArray) w R E := by
 unfold a1v at h
 unfold c5n
 refine D8 I (cs := (c6 x0)) rfl fun g_2 w_3 I_4 k_5 => ?_
 refine b7 (ldA Tryd.isAgg33 Tryd.sizeOf33 rfl (I_4.at1 (o := 0) (vs := (c6 x0)) (nb rfl) rfl)) ?_
 refine a8 (b9J _ _ _ _ _ _ _ _) ?_
 refine a8 (b7J (L1.mk x0)) ?_
 exact hR (b9.J3 (L1.mk x0)) H _ I_4.drop h
theorem b2t (x0 : g9) {H : Hp} {K : b9 → Hp → Prop} (h : a1v x0 H K) : a6l x0 H K := by
 intro w I
 refine d6k ?_
 refine b1l x0 I (fun r0 H' w' I' hk => ⟨H', _, I', r0, rfl, rfl, hk⟩) h
def a0f (x0 : N8) (H : Hp) (K : Bool → Hp → Prop) : Prop :=
 K ((decide (0 ≤ x0.M8.R7)) && (decide (x0.M8.R7 ≤ 2147483647))) H
theorem a9l (x0 : N8) {w0 w : World} {ps0 : Nat → Prop} {H0 H : Hp} {K : Bool → Hp → Prop} {R : Value → World → Prop} {E : Pan} (I : Inv w0 ps0 H0 H [] w) (hR : ∀ (r0 : Bool) (H' : Hp) (w' : World) (_ : Inv w0 ps0 H0 H' [] w') (_ : K r0 H'), R (Value.bool r0) w') (h : a0f x0 H K) : c5o (Value.agg (k8 x0.M8).toArray) w R E := by
 unfold a0f at h
 unfold c5o
 refine D8 I (cs := (k8 x0.M8)) rfl fun g_2 w_3 I_4 k_5 => ?_
 refine a8 a4B ?_
 refine a8 a5S ?_
 refine b7 (ld1 Tryd.isAgg3 (I_4.at1 (o := 1) (vs := [(vi x0.M8.R7)]) (nb rfl) rfl)) ?_
 refine a8 (b6x _ _ _ _ _ _) ?_
 refine a8 (Pu.g fun hb => by have a7 := hb; first | exact a4B | (simp only [b5 a7, b3 a7, b3 hb, q8 a7]; exact a4B) | (simp only [b5 a7, b3 a7, b3 hb, d9 a7, d6]; exact a4B)) ?_
 refine a8 (Pu.g fun hb => by have a7 := hb; first | exact a5S | (simp only [b3 a7]; exact a5S) | (simp only [b5 a7, b3 a7, b3 hb, d9 a7, d6]; exact a5S)) ?_
 refine b7 (Ld.g fun hb => by have a7 := hb; first | exact (ld1 Tryd.isAgg3 (I_4.at1 (o := 1) (vs := [(vi x0.M8.R7)]) (nb rfl) rfl)) | (simp only [b3 a7]; exact (ld1 Tryd.isAgg3 (I_4.at1 (o := 1) (vs := [(vi x0.M8.R7)]) (nb rfl) rfl))) | (simp only [b5 a7, b3 a7, b3 hb, d9 a7, d6]; exact (ld1 Tryd.isAgg3 (I_4.at1 (o := 1) (vs := [(vi x0.M8.R7)]) (nb rfl) rfl)))) ?_
 refine a8 (Pu.g fun hb => by have a7 := hb; first | exact (a4z _ _ _ _ _ _) | (simp only [b3 a7]; exact (a4z _ _ _ _ _ _)) | (simp only [b5 a7, b3 a7, b3 hb, d9 a7, d6]; exact (a4z _ _ _ _ _ _))) ?_
 refine a8 (u5 _ _) ?_
 exact hR ((decide (0 ≤ x0.M8.R7)) && (decide (x0.M8.R7 ≤ 2147483647))) H _ I_4.drop h
theorem a9I (x0 : N8) {H : Hp} {K : Bool → Hp → Prop} (h : a0f x0 H K) : a4s x0 H K := by
 intro w I
 refine d6m ?_
 refine a9l x0 I (fun r0 H' w' I' hk => ⟨H', _, I', r0, rfl, rfl, hk⟩) h
def Y4 (_x0 : N8) (H : Hp) (K : Sl → Hp → Prop) : Prop :=
 K (Sl.mk none 0 0) H
theorem a8h (x0 : N8) {w0 w : World} {ps0 : Nat → Prop} {H0 H : Hp} {K : Sl → Hp → Prop} {R : Value → World → Prop} {E : Pan} (I : Inv w0 ps0 H0 H [] w) (hR : ∀ (r0 : Sl) (H' : Hp) (w' : World) (_ : Inv w0 ps0 H0 H' [] w') (_ : K r0 H'), R (vs r0) w') (h : Y4 x0 H K) : c5p (Value.agg (k8 x0.M8).toArray) w R E := by
 unfold Y4 at h
 unfold c5p
 refine D8 I (cs := (k8 x0.M8)) rfl fun g_2 w_3 I_4 k_5 => ?_
 exact hR (Sl.mk none 0 0) H _ I_4.drop h
theorem a9m (x0 : N8) {H : Hp} {K : Sl → Hp → Prop} (h : Y4 x0 H K) : a4c x0 H K := by
 intro w I
 refine d6o ?_
 refine a8h x0 I (fun r0 H' w' I' hk => ⟨H', _, I', r0, rfl, rfl, hk⟩) h
end Go.Proofs.YthldnpmfelniiaaDoor
