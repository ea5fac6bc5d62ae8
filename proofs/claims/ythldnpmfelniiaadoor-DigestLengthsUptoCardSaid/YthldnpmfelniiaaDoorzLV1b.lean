/- Typed formulas of the program's functions, and the theorems that the contracts follow from them; printed by lift.py off the code. -/
import Derived.Test.YthldnpmfelniiaaDoorzLV1
namespace Go.Proofs.YthldnpmfelniiaaDoor
open Go.RowKit
set_option maxRecDepth 100000
set_option maxHeartbeats 2000000
def p7 (_s0j5 : Sl) (b2m : Int) (_s9j5 : Sl) (_s10j5 : Int) (d8D : Int) (H : Hp) (n4 : (Int × Int) → Hp → Prop) (_K : Sl → Hp → Prop) : Prop :=
 n4 (b2m, (IntKind.wrap .i64 (d8D + 1))) H
def p8 (b1f : (List b4)) (H : Hp) (K : Sl → Hp → Prop) : Prop :=
 ∀ (a3H : Sl) (a7b : Hp), Hle H a7b → SlH a7b 1 g9 a3H b1f → a3H.n ≤ a3H.c →
 K a3H a7b
def p9 (T6 : Sl) (c5a : Int) (a0v : (List b4)) (Z1 : Int) (H : Hp) (n3 : ((List b4) × Int) → Hp → Prop) (K : Sl → Hp → Prop) : Prop :=
 (Z1 < c5a →
 (0 : Int) ≤ Z1 ∧ (Z1 : Int) < T6.n ∧ ∃ b8f : Sl, EltH H T6 Z1 1 [(vs b8f)] ∧
 ∃ b1g : List b4, SlH H 1 g9 b8f b1g ∧ (a0v.length + b1g.length) * 17 ≤ 140737488355328 ∧
 n3 ((a0v ++ b1g), (IntKind.wrap .i64 (Z1 + 1))) H) ∧
 (¬ (Z1 < c5a) →
 p8 a0v H K)
def q6 (d3d : Sl) (X0 : Int) (H : Hp) (K : Sl → Hp → Prop) : Prop :=
 D6 X0 H (fun (b8g : (List b4)) (H_9 : Hp) =>
 TL ((b8g, 0) : (List b4) × Int) H_9 fun (s : (List b4) × Int) H n3 => p9 d3d (d3d.n : Int) s.1 s.2 H n3 K)
def q7 (d3e : Sl) (c2B : Sl) (b8h : Int) (a1z : Int) (X6 : Int) (H : Hp) (n4 : (Int × Int) → Hp → Prop) (K : Sl → Hp → Prop) : Prop :=
 (X6 < b8h →
 (0 : Int) ≤ X6 ∧ (X6 : Int) < c2B.n ∧ ∃ x_1 : Sl, EltH H c2B X6 1 [(vs x_1)] ∧
 ((IntKind.wrap .i64 (a1z + (x_1.n : Int))) < 0 →
 False) ∧
 (¬ ((IntKind.wrap .i64 (a1z + (x_1.n : Int))) < 0) →
 p7 d3e (IntKind.wrap .i64 (a1z + (x_1.n : Int))) c2B b8h X6 H n4 K)) ∧
 (¬ (X6 < b8h) →
 q6 d3e a1z H K)
def r8 (x0 : Sl) (H : Hp) (K : Sl → Hp → Prop) : Prop :=
 TL ((0, 0) : Int × Int) H fun (s : Int × Int) H n4 => q7 x0 x0 (x0.n : Int) s.1 s.2 H n4 K
theorem T7 (x0 : Sl) {w0 w : World} {ps0 : Nat → Prop} {H0 H : Hp} {K : Sl → Hp → Prop} {R : Value → World → Prop} {E : Pan} (I : Inv w0 ps0 H0 H [] w) (hR : ∀ (r0 : Sl) (H' : Hp) (w' : World) (_ : Inv w0 ps0 H0 H' [] w') (_ : K r0 H'), R (vs r0) w') (h : r8 x0 H K) : F94 (vs x0) w R E := by
 unfold r8 at h
 unfold F94
 have hj1 : ∀ (X0 : Int) (H : Hp) (w : World) (_ : Inv w0 ps0 H0 H [] w) (_ : q6 x0 X0 H K), b4i (vs x0) (vi X0) w R E := by
  intro X0 H w I h
  unfold b4i
  intro _
  unfold q6 at h
  refine d7 (cap := []) (fun args w => Tryd.call120 args w) ?_
  refine h9 (Fi := []) (Fr := []) I (h) (fun e6a H_9 b8i k8 Y3 c2C a8p e1m => ?_) (fun _ _ _ _ _ q => q.elim)
  obtain ⟨b8g, d3f, d3g, rfl, rfl, d3h, h⟩ := e1m
  have hj2 : ∀ (b1f : (List b4)) (a3H : Sl) (Fs6j2 : Frag) (H : Hp) (w : World) (_ : RowL 141 1 g9 a3H b1f Fs6j2) (_ : Inv w0 ps0 H0 H [Fs6j2] w) (_ : p8 b1f H K), b4h (vs a3H) w R E := by
   intro b1f a3H Fs6j2 H w d8E I h
   unfold b4h
   intro _
   unfold p8 at h
   obtain ⟨a7b, a3X, e1n, a5c, b5a⟩ := Inv.freezeC I d8E (by decide)
   replace h := h a3H a7b e1n a5c b5a
   exact hR a3H a7b _ a3X h
  refine o8 fun j2 hx2 => ?_
  refine a7 (b0D _ _ _) ?_
  obtain ⟨c2D, b5b, e1o, e1p⟩ := h
  refine y8 (J := fun n l w => ∃ (s : (List b4) × Int) (H : Hp) (b1h : Sl) (Fs6l3 : Frag) , n = b5b s ∧ l = (match s with | (a0v, Z1) => [(vs b1h), (vi Z1)]) ∧ (match s with | (a0v, Z1) => RowL 141 1 g9 b1h a0v Fs6l3) ∧ (match s with | (a0v, Z1) => Inv w0 ps0 H0 H [Fs6l3] w) ∧ c2D s H) ⟨_, (b8g, 0), H_9, d3f, d3g, rfl, rfl, d3h, Y3, e1o⟩ ?_
  rintro e6b τ_46 w next3 ⟨⟨a0v, Z1⟩, H, b1h, Fs6l3, rfl, b8j, b8k, I, e1q⟩ hn3
  dsimp only at b8j I b8k
  simp only [List.map_cons, List.map_nil, List.cons.injEq, and_true] at b8j
  obtain ⟨e6, e27⟩ := b8j
  simp only [e6, e27]
  obtain ⟨n3, hm3, h⟩ : ∃ n3 : ((List b4) × Int) → Hp → Prop, (∀ s' H', n3 s' H' → c2D s' H' ∧ b5b s' < b5b (a0v, Z1)) ∧ p9 x0 (x0.n : Int) a0v Z1 H n3 K := ⟨_, fun _ _ h => h, e1p (a0v, Z1) H (fun s' H' => c2D s' H' ∧ b5b s' < b5b (a0v, Z1)) e1q (fun _ _ a b => ⟨a, b⟩)⟩
  unfold c0x
  unfold p9 at h
  refine a7 (C3 _ _ _ _ _ _) ?_
  refine d9 (fun c2E => ?_) (fun c2E => ?_)
  ·replace h := h.1 c2E
   obtain ⟨e1r, c2F, b8f, a9Z, h⟩ := h
   obtain ⟨d3i, e6c, c2G, a9Z⟩ := a9Z
   refine a7 (b2M c2G _ _ _ _ e1r c2F) ?_
   refine b7 (ld1 (v := (vs b8f)) Tryd.isAgg97 (I.atH a9Z)) ?_
   obtain ⟨b1g, c2H, h⟩ := h
   obtain ⟨e1s, h⟩ := h
   refine a7Q (s := b1h) (xs := a0v) I b8k (SlH.src I c2H C9) e1s fun b4T b2j B5 a5b a3q b8c => ?_
   refine a7 (v7 _ _ _ _ _ _) ?_
   exact hn3 _ _ _ (hm3 _ _ h).2 ⟨((a0v ++ b1g), (IntKind.wrap .i64 (Z1 + 1))), H, b4T, b2j, rfl, rfl, a5b, a3q, (hm3 _ _ h).1⟩
  ·replace h := h.2 c2E
   exact hx2 _ _ (hj2 a0v b1h Fs6l3 H _ b8k I h)
 refine o8 fun j1 hx1 => ?_
 refine a7 (b0D _ _ _) ?_
 obtain ⟨c2I, b5c, e1t, e1u⟩ := h
 refine y8 (J := fun n l w => ∃ (s : Int × Int) (H : Hp) , n = b5c s ∧ l = (match s with | (a1z, X6) => [(vi a1z), (vi X6)]) ∧ (match s with | (a1z, X6) => Inv w0 ps0 H0 H [] w) ∧ c2I s H) ⟨_, (0, 0), H, rfl, rfl, I, e1t⟩ ?_
 rintro e6d τ_55 w next4 ⟨⟨a1z, X6⟩, H, rfl, c2J, I, b5d⟩ hn4
 dsimp only at c2J I
 simp only [List.map_cons, List.map_nil, List.cons.injEq, and_true] at c2J
 obtain ⟨e3, e11⟩ := c2J
 simp only [e3, e11]
 obtain ⟨n4, hm4, h⟩ : ∃ n4 : (Int × Int) → Hp → Prop, (∀ s' H', n4 s' H' → c2I s' H' ∧ b5c s' < b5c (a1z, X6)) ∧ q7 x0 x0 (x0.n : Int) a1z X6 H n4 K := ⟨_, fun _ _ h => h, e1u (a1z, X6) H (fun s' H' => c2I s' H' ∧ b5c s' < b5c (a1z, X6)) b5d (fun _ _ a b => ⟨a, b⟩)⟩
 unfold c0y
 unfold q7 at h
 refine a7 (C3 _ _ _ _ _ _) ?_
 refine d9 (fun c2K => ?_) (fun c2K => ?_)
 ·replace h := h.1 c2K
  have hj5 : ∀ (b2m : Int) (H : Hp) (w : World) (_ : Inv w0 ps0 H0 H [] w) (_ : p7 x0 b2m x0 (x0.n : Int) X6 H n4 K), b4j (vs x0) (vi b2m) (vs x0) (vi (x0.n : Int)) (vi X6) w next4 R E := by
   intro b2m H w I h
   unfold b4j
   intro _
   unfold p7 at h
   refine a7 (v7 _ _ _ _ _ _) ?_
   exact hn4 _ _ _ (hm4 _ _ h).2 ⟨(b2m, (IntKind.wrap .i64 (X6 + 1))), H, rfl, rfl, I, (hm4 _ _ h).1⟩
  refine o8 fun j5 hx5 => ?_
  obtain ⟨h_4, h_5, x_1, h_7, h⟩ := h
  obtain ⟨g_2, o_3, h_6, h_7⟩ := h_7
  refine a7 (b2M h_6 _ _ _ _ h_4 h_5) ?_
  refine b7 (ld1 (v := (vs x_1)) Tryd.isAgg97 (I.atH h_7)) ?_
  refine a7 (a5H _ _ _) ?_
  refine a7 (v7 _ _ _ _ _ _) ?_
  refine a7 (C3 _ _ _ _ _ _) ?_
  refine d9 (fun c_8 => ?_) (fun c_8 => ?_)
  ·replace h := h.1 c_8
   refine a7 (c0u _) ?_
   exact h.elim
  ·replace h := h.2 c_8
   exact hx5 _ _ (hj5 (IntKind.wrap .i64 (a1z + (x_1.n : Int))) H _ I h)
 ·replace h := h.2 c2K
  exact hx1 _ _ (hj1 a1z H _ I h)
theorem U8 (x0 : Sl) {H : Hp} {K : Sl → Hp → Prop} (h : r8 x0 H K) : m9 x0 H K := by
 intro w I
 refine c9G ?_
 refine T7 x0 I (fun r0 H' w' I' hk => ⟨H', _, I', r0, rfl, rfl, hk⟩) h
def E6 (x0 : (List ByteArray)) (x1 : ByteArray) (H : Hp) (K : Bool → Hp → Prop) : Prop :=
 Q1 x0 x1 H (fun (I1 : Int) (H_1 : Hp) =>
 K (decide (0 ≤ I1)) H_1)
theorem a2f (x0 : (List ByteArray)) (x1 : ByteArray) (sx0 : Sl) (Fx0 : Frag) (hx0 : RowL 9 1 r9 sx0 x0 Fx0) {w0 w : World} {ps0 : Nat → Prop} {H0 H : Hp} {K : Bool → Hp → Prop} {R : Value → World → Prop} {E : Pan} (I : Inv w0 ps0 H0 H [Fx0] w) (hR : ∀ (r0 : Bool) (H' : Hp) (w' : World) (_ : Inv w0 ps0 H0 H' [Fx0] w') (_ : K r0 H'), R (Value.bool r0) w') (h : E6 x0 x1 H K) : b7z (vs sx0) (Value.string x1) w R E := by
 unfold E6 at h
 unfold b7z
 refine d7 (cap := []) (fun args w => Tryd.call127 args w) ?_
 refine h9 (Fi := [Fx0]) (Fr := []) I (h sx0 Fx0 hx0) (fun v_5 H_1 F_6 w_2 I_3 l_8 k_4 q_7 => ?_) (fun _ _ _ _ _ q => q.elim)
 obtain ⟨I1, rfl, rfl, h⟩ := q_7
 refine a7 (b0w _ _ _ _ _ _) ?_
 exact hR (decide (0 ≤ I1)) H_1 _ I_3 h
theorem a2z (x0 : (List ByteArray)) (x1 : ByteArray) {H : Hp} {K : Bool → Hp → Prop} (h : E6 x0 x1 H K) : z7 x0 x1 H K := by
 intro sx0 Fx0 hx0 w I
 refine c6g ?_
 refine a2f x0 x1 sx0 Fx0 hx0 I (fun r0 H' w' I' hk => ⟨H', _, I', r0, rfl, rfl, hk⟩) h
def k7 (a4B : Int) (a4C : Int) (a4D : Int) (a4E : Bool) (a4F : Bool) (a3s : (List ByteArray)) (H : Hp) (K : Bool → b8 → (List ByteArray) → Hp → Prop) : Prop :=
 K true (b8.mk a4B a4C a4D a4E a4F (Sl.mk none 0 0)) a3s H
def K3 (x0 : b8) (L9 : (List ByteArray)) (x1 : b4) (x2 : Int) (H : Hp) (K : Bool → b8 → (List ByteArray) → Hp → Prop) : Prop :=
 (4096 < (IntKind.wrap .i64 (x0.fnodes + 1)) →
 K false (b8.mk (IntKind.wrap .i64 (x0.fnodes + 1)) x0.fdepth 33 x0.fform x0.fnamed (Sl.mk none 0 0)) L9 H) ∧
 (¬ (4096 < (IntKind.wrap .i64 (x0.fnodes + 1))) →
 (64 < x2 →
 K false (b8.mk (IntKind.wrap .i64 (x0.fnodes + 1)) x0.fdepth 32 x0.fform x0.fnamed (Sl.mk none 0 0)) L9 H) ∧
 (¬ (64 < x2) →
 TG (x0.fform = false) (a0r x1 H) false H (fun (v1 : Bool) (a3Y : Hp) =>
 R8 x1 a3Y (fun (a0w : ByteArray) (a9a : Bool) (a5h : Hp) =>
 (a9a = true →
 TG (x0.fnamed = false) (Y7 a0w a5h) false a5h (fun (V6 : Bool) (a6d : Hp) =>
 z7 L9 a0w a6d (fun (a0x : Bool) (a1A : Hp) =>
 ((!a0x) = true →
 (L9.length + ([a0w] : List ByteArray).length) * 17 ≤ 140737488355328 ∧
 k7 (IntKind.wrap .i64 (x0.fnodes + 1)) (if x2 > x0.fdepth then x2 else x0.fdepth) x0.fe (x0.fform || (!v1)) (x0.fnamed || (!V6)) (L9 ++ [a0w]) a1A K) ∧
 ((!a0x) = false →
 k7 (IntKind.wrap .i64 (x0.fnodes + 1)) (if x2 > x0.fdepth then x2 else x0.fdepth) x0.fe (x0.fform || (!v1)) (x0.fnamed || (!V6)) L9 a1A K)))) ∧
 (a9a = false →
 k7 (IntKind.wrap .i64 (x0.fnodes + 1)) (if x2 > x0.fdepth then x2 else x0.fdepth) x0.fe (x0.fform || (!v1)) x0.fnamed L9 a5h K)))))
theorem a3O (x0 : b8) (L9 : (List ByteArray)) (x1 : b4) (x2 : Int) (g0 : Nat) (J7 : Sl) (X5 : Frag) (a5K : RowL 9 1 r9 J7 L9 X5) {w0 w : World} {ps0 : Nat → Prop} {H0 H : Hp} {K : Bool → b8 → (List ByteArray) → Hp → Prop} {R : Value → World → Prop} {E : Pan} (I : Inv w0 ps0 H0 H [bx g0 92 [(vi x0.fnodes), (vi x0.fdepth), (vi x0.fe), (Value.bool x0.fform), (Value.bool x0.fnamed), (vs J7)], X5] w) (hR : ∀ (r0 : Bool) (y0 : b8) (a1Y : (List ByteArray)) (a0o : Sl) (a0p : Frag) (H' : Hp) (w' : World) (_ : RowL 9 1 r9 a0o a1Y a0p) (_ : Inv w0 ps0 H0 H' [bx g0 92 [(vi y0.fnodes), (vi y0.fdepth), (vi y0.fe), (Value.bool y0.fform), (Value.bool y0.fnamed), (vs a0o)], a0p] w') (_ : K r0 y0 a1Y H'), R (Value.bool r0) w') (h : K3 x0 L9 x1 x2 H K) : F90 (Value.pointer (some ⟨g0, 0, none⟩)) (l8 x1) (vi x2) w R E := by
 unfold K3 at h
 unfold F90
 refine a7 (D7 _) ?_
 refine a7 a4k ?_
 refine b7 (ld1 Tryd.isAgg3 (I.at1 (o := 0) (vs := [(vi x0.fnodes)]) (nb rfl) rfl)) ?_
 refine a7 (v7 _ _ _ _ _ _) ?_
 refine a7 (D7 _) ?_
 refine a7 a4k ?_
 refine r5 I Tryd.sizeOf3 (vs := [(vi (IntKind.wrap .i64 (x0.fnodes + 1)))]) (cs' := [(vi (IntKind.wrap .i64 (x0.fnodes + 1))), (vi x0.fdepth), (vi x0.fe), (Value.bool x0.fform), (Value.bool x0.fnamed), (vs J7)]) rfl rfl (nb rfl) rfl rfl fun w_1 I_2 k_3 => ?_
 refine a7 (D7 _) ?_
 refine a7 a4k ?_
 refine b7 (ld1 Tryd.isAgg3 (I_2.at1 (o := 0) (vs := [(vi (IntKind.wrap .i64 (x0.fnodes + 1)))]) (nb rfl) rfl)) ?_
 refine a7 (a7L _ _ _ _ _ _) ?_
 refine d9 (fun a5i => ?_) (fun a5i => ?_)
 ·replace h := h.1 a5i
  refine a7 (D7 _) ?_
  refine a7 a0k ?_
  refine r5 I_2 Tryd.sizeOf34 (vs := [(vi 33)]) (cs' := [(vi (IntKind.wrap .i64 (x0.fnodes + 1))), (vi x0.fdepth), (vi 33), (Value.bool x0.fform), (Value.bool x0.fnamed), (vs J7)]) rfl rfl (nb rfl) rfl rfl fun w_4 I_5 k_6 => ?_
  exact hR false (b8.mk (IntKind.wrap .i64 (x0.fnodes + 1)) x0.fdepth 33 x0.fform x0.fnamed (Sl.mk none 0 0)) L9 J7 X5 H _ a5K ((I_5.bring 1).bring 1) h
 ·replace h := h.2 a5i
  refine a7 (a7L _ _ _ _ _ _) ?_
  refine d9 (fun a5j => ?_) (fun a5j => ?_)
  ·replace h := h.1 a5j
   refine a7 (D7 _) ?_
   refine a7 a0k ?_
   refine r5 I_2 Tryd.sizeOf34 (vs := [(vi 32)]) (cs' := [(vi (IntKind.wrap .i64 (x0.fnodes + 1))), (vi x0.fdepth), (vi 32), (Value.bool x0.fform), (Value.bool x0.fnamed), (vs J7)]) rfl rfl (nb rfl) rfl rfl fun w_7 I_8 k_9 => ?_
   exact hR false (b8.mk (IntKind.wrap .i64 (x0.fnodes + 1)) x0.fdepth 32 x0.fform x0.fnamed (Sl.mk none 0 0)) L9 J7 X5 H _ a5K ((I_8.bring 1).bring 1) h
  ·replace h := h.2 a5j
   refine a7 (D7 _) ?_
   refine a7 b0C ?_
   refine b7 (ld1 Tryd.isAgg3 (I_2.at1 (o := 1) (vs := [(vi x0.fdepth)]) (nb rfl) rfl)) ?_
   refine a7 (c8d _ _ _ _ _) ?_
   refine a7 (D7 _) ?_
   refine a7 b0C ?_
   refine r5 I_2 Tryd.sizeOf3 (vs := [(vi (if x2 > x0.fdepth then x2 else x0.fdepth))]) (cs' := [(vi (IntKind.wrap .i64 (x0.fnodes + 1))), (vi (if x2 > x0.fdepth then x2 else x0.fdepth)), (vi x0.fe), (Value.bool x0.fform), (Value.bool x0.fnamed), (vs J7)]) rfl rfl (nb rfl) rfl rfl fun k8 Y3 a8p => ?_
   refine a7 (D7 _) ?_
   refine a7 a6L ?_
   refine b7 (ld1 Tryd.isAgg4 (Y3.at1 (o := 3) (vs := [(Value.bool x0.fform)]) (nb rfl) rfl)) ?_
   try simp only [P4]
   refine a3K (D := fun c2L o0 => ∃ (v1 : Bool) (a3Y : Hp), c2L = (gv x0.fform false (Value.bool v1)) ∧ (Inv w0 ps0 H0 a3Y [bx g0 92 [(vi (IntKind.wrap .i64 (x0.fnodes + 1))), (vi (if x2 > x0.fdepth then x2 else x0.fdepth)), (vi x0.fe), (Value.bool x0.fform), (Value.bool x0.fnamed), (vs J7)], X5] o0) ∧ (∀ i, i < k8.heap.size → ¬ inF [] i → o0.heap[i]? = k8.heap[i]?) ∧ Hle H a3Y ∧ (R8 x1 a3Y (fun (a0w : ByteArray) (a9a : Bool) (a5h : Hp) =>
 (a9a = true →
 TG (x0.fnamed = false) (Y7 a0w a5h) false a5h (fun (V6 : Bool) (a6d : Hp) =>
 z7 L9 a0w a6d (fun (a0x : Bool) (a1A : Hp) =>
 ((!a0x) = true →
 (L9.length + ([a0w] : List ByteArray).length) * 17 ≤ 140737488355328 ∧
 k7 (IntKind.wrap .i64 (x0.fnodes + 1)) (if x2 > x0.fdepth then x2 else x0.fdepth) x0.fe (x0.fform || (!v1)) (x0.fnamed || (!V6)) (L9 ++ [a0w]) a1A K) ∧
 ((!a0x) = false →
 k7 (IntKind.wrap .i64 (x0.fnodes + 1)) (if x2 > x0.fdepth then x2 else x0.fdepth) x0.fe (x0.fform || (!v1)) (x0.fnamed || (!V6)) L9 a1A K)))) ∧
 (a9a = false →
 k7 (IntKind.wrap .i64 (x0.fnodes + 1)) (if x2 > x0.fdepth then x2 else x0.fdepth) x0.fe (x0.fform || (!v1)) x0.fnamed L9 a5h K)))) (fun b2n => ?_) (fun b2n => ?_) ?_
   ·replace h := h.1 b2n
    have b3 := b2n
    try simp only [b6 b3]
    refine a6o Y3 h (fun v1 a3Y o0 b0a b5e b8l h => ?_)
    exact ⟨v1, a3Y, by first | rfl | rw [b6 b2n], b0a, b8l, b5e, h⟩
   ·exact ⟨false, H, by first | rfl | rw [a6F b2n], Y3, fun _ _ _ => rfl, Hle.refl _, h.2 b2n⟩
   ·clear h
    rintro c2L o0 ⟨v1, a3Y, rfl, b0a, b8l, b5e, h⟩
    refine a7 (Pu.g fun hb => by have b3 := hb; first | exact (E2 _) | (simp only [b6 b3]; exact (E2 _)) | (simp only [d4 b3, b6 b3, b6 hb, E3 b3, l9]; exact (E2 _))) ?_
    refine a7 (a1f _ _) ?_
    refine a7 (D7 _) ?_
    refine a7 a6L ?_
    refine r5 b0a Tryd.sizeOf4 (vs := [(Value.bool (x0.fform || (!v1)))]) (cs' := [(vi (IntKind.wrap .i64 (x0.fnodes + 1))), (vi (if x2 > x0.fdepth then x2 else x0.fdepth)), (vi x0.fe), (Value.bool (x0.fform || (!v1))), (Value.bool x0.fnamed), (vs J7)]) rfl rfl (nb rfl) rfl rfl fun a5Y b8m e1v => ?_
    have hj1 : ∀ (a4B : Int) (a4C : Int) (a4D : Int) (a4E : Bool) (a4F : Bool) (a3s : (List ByteArray)) (a7c : Sl) (a7d : Frag) (H : Hp) (w : World) (_ : RowL 9 1 r9 a7c a3s a7d) (_ : Inv w0 ps0 H0 H [bx g0 92 [(vi a4B), (vi a4C), (vi a4D), (Value.bool a4E), (Value.bool a4F), (vs a7c)], a7d] w) (_ : k7 a4B a4C a4D a4E a4F a3s H K), b4c w R E := by
     intro a4B a4C a4D a4E a4F a3s a7c a7d H w c2M I h
     unfold b4c
     intro _
     unfold k7 at h
     exact hR true (b8.mk a4B a4C a4D a4E a4F (Sl.mk none 0 0)) a3s a7c a7d H _ c2M ((I.bring 1).bring 1) h
    refine o8 fun j1 hx1 => ?_
    refine d7 (cap := []) (fun args w => Tryd.call114 args w) ?_
    refine h9 (Fi := []) (Fr := [bx g0 92 [(vi (IntKind.wrap .i64 (x0.fnodes + 1))), (vi (if x2 > x0.fdepth then x2 else x0.fdepth)), (vi x0.fe), (Value.bool (x0.fform || (!v1))), (Value.bool x0.fnamed), (vs J7)], X5]) b8m (h) (fun e6e a5h b2j b2h b8n e6f e6g e1w => ?_) (fun _ _ _ _ _ q => q.elim)
    obtain ⟨a0w, a9a, rfl, rfl, h⟩ := e1w
    refine a7 (u0 _ _ _ rfl) ?_
    refine a7 (u0 _ _ _ rfl) ?_
    refine p1 (fun b0b => ?_) (fun b0b => ?_)
    ·replace h := h.1 b0b
     refine a7 (D7 _) ?_
     refine a7 a6M ?_
     refine b7 (ld1 Tryd.isAgg4 (b8n.at1 (o := 4) (vs := [(Value.bool x0.fnamed)]) (nb rfl) rfl)) ?_
     try simp only [P4]
     refine a3K (D := fun c2N B6 => ∃ (V6 : Bool) (a6d : Hp) , c2N = (gv x0.fnamed false (Value.bool V6)) ∧ (Inv w0 ps0 H0 a6d [bx g0 92 [(vi (IntKind.wrap .i64 (x0.fnodes + 1))), (vi (if x2 > x0.fdepth then x2 else x0.fdepth)), (vi x0.fe), (Value.bool (x0.fform || (!v1))), (Value.bool x0.fnamed), (vs J7)], X5] B6) ∧ (∀ i, i < b2h.heap.size → ¬ inF [] i → B6.heap[i]? = b2h.heap[i]?) ∧ Hle a5h a6d ∧ (z7 L9 a0w a6d (fun (a0x : Bool) (a1A : Hp) =>
 ((!a0x) = true →
 (L9.length + ([a0w] : List ByteArray).length) * 17 ≤ 140737488355328 ∧
 k7 (IntKind.wrap .i64 (x0.fnodes + 1)) (if x2 > x0.fdepth then x2 else x0.fdepth) x0.fe (x0.fform || (!v1)) (x0.fnamed || (!V6)) (L9 ++ [a0w]) a1A K) ∧
 ((!a0x) = false →
 k7 (IntKind.wrap .i64 (x0.fnodes + 1)) (if x2 > x0.fdepth then x2 else x0.fdepth) x0.fe (x0.fform || (!v1)) (x0.fnamed || (!V6)) L9 a1A K)))) (fun b2o => ?_) (fun b2o => ?_) ?_
     ·replace h := h.1 b2o
      have b3 := b2o
      try simp only [b6 b3]
      refine d7 (cap := []) (fun args w => Tryd.call115 args w) ?_
      refine h9 (Fi := []) (Fr := [bx g0 92 [(vi (IntKind.wrap .i64 (x0.fnodes + 1))), (vi (if x2 > x0.fdepth then x2 else x0.fdepth)), (vi x0.fe), (Value.bool (x0.fform || (!v1))), (Value.bool x0.fnamed), (vs J7)], X5]) b8n (h) (fun c2N a6d e6h B6 b5f d3j d3k e1x => ?_) (fun _ _ _ _ _ q => q.elim)
      obtain ⟨V6, rfl, rfl, h⟩ := e1x
      exact ⟨V6, a6d, by first | rfl | rw [b6 b2o], b5f, d3k, d3j, h⟩
     ·exact ⟨false, a5h, by first | rfl | rw [a6F b2o], b8n, fun _ _ _ => rfl, Hle.refl _, h.2 b2o⟩
     ·clear h
      rintro c2N B6 ⟨V6, a6d, rfl, b5f, d3k, d3j, h⟩
      refine a7 (Pu.g fun hb => by have b3 := hb; first | exact (E2 _) | (simp only [b6 b3]; exact (E2 _)) | (simp only [d4 b3, b6 b3, b6 hb, E3 b3, l9]; exact (E2 _))) ?_
      refine a7 (a1f _ _) ?_
      refine a7 (D7 _) ?_
      refine a7 a6M ?_
      refine r5 b5f Tryd.sizeOf4 (vs := [(Value.bool (x0.fnamed || (!V6)))]) (cs' := [(vi (IntKind.wrap .i64 (x0.fnodes + 1))), (vi (if x2 > x0.fdepth then x2 else x0.fdepth)), (vi x0.fe), (Value.bool (x0.fform || (!v1))), (Value.bool (x0.fnamed || (!V6))), (vs J7)]) rfl rfl (nb rfl) rfl rfl fun G6 b8o e1y => ?_
      refine a7 (D7 _) ?_
      refine a7 a6K ?_
      refine b7 (ld1 Tryd.isAgg47 (b8o.at1 (o := 5) (vs := [(vs J7)]) (nb rfl) rfl)) ?_
      refine d7 (cap := []) (fun args w => Tryd.call116 args w) ?_
      refine h9 (Fi := [X5]) (Fr := [bx g0 92 [(vi (IntKind.wrap .i64 (x0.fnodes + 1))), (vi (if x2 > x0.fdepth then x2 else x0.fdepth)), (vi x0.fe), (Value.bool (x0.fform || (!v1))), (Value.bool (x0.fnamed || (!V6))), (vs J7)]]) (b8o.bring 1) (h J7 X5 a5K) (fun e1z a1A e1A H8 b2p e1B e1C c2O => ?_) (fun _ _ _ _ _ q => q.elim)
      obtain ⟨a0x, rfl, rfl, h⟩ := c2O
      refine a7 (E2 _) ?_
      refine p1 (fun b0c => ?_) (fun b0c => ?_)
      ·replace h := h.1 b0c
       refine a7 (D7 _) ?_
       refine a7 a6K ?_
       refine b7 (ld1 Tryd.isAgg47 ((b2p.bring 1).at1 (o := 5) (vs := [(vs J7)]) (nb rfl) rfl)) ?_
       refine a1S (e := 9) (c := r9) (xs := [a0w]) b2p (c5P _) rfl rfl a9z a9A (nb rfl) fun e6i e6j b5g e1D d3l e6k => ?_
       obtain ⟨e1E, h⟩ := h
       refine c8h (s := J7) (xs := L9) (d3l.bring 1) a5K (e1D.srcO ((d3l.bring 1).bring 1)) e1E fun c2P e1F d3m e1G e1H e6l => ?_
       refine a7 (D7 _) ?_
       refine a7 a6K ?_
       refine r5 ((e1H.bring 1).drop.bring 1) Tryd.sizeOf47 (vs := [(vs c2P)]) (cs' := [(vi (IntKind.wrap .i64 (x0.fnodes + 1))), (vi (if x2 > x0.fdepth then x2 else x0.fdepth)), (vi x0.fe), (Value.bool (x0.fform || (!v1))), (Value.bool (x0.fnamed || (!V6))), (vs c2P)]) rfl rfl (nb rfl) rfl rfl fun W5 e1I e6m => ?_
       exact hx1 _ _ (hj1 (IntKind.wrap .i64 (x0.fnodes + 1)) (if x2 > x0.fdepth then x2 else x0.fdepth) x0.fe (x0.fform || (!v1)) (x0.fnamed || (!V6)) (L9 ++ [a0w]) c2P e1F a1A _ e1G ((e1I.bring 1).bring 1) h)
      ·replace h := h.2 b0c
       exact hx1 _ _ (hj1 (IntKind.wrap .i64 (x0.fnodes + 1)) (if x2 > x0.fdepth then x2 else x0.fdepth) x0.fe (x0.fform || (!v1)) (x0.fnamed || (!V6)) L9 J7 X5 a1A _ a5K (b2p.bring 1) h)
    ·replace h := h.2 b0b
     exact hx1 _ _ (hj1 (IntKind.wrap .i64 (x0.fnodes + 1)) (if x2 > x0.fdepth then x2 else x0.fdepth) x0.fe (x0.fform || (!v1)) x0.fnamed L9 J7 X5 a5h _ a5K ((b8n.bring 1).bring 1) h)
theorem a3Z (x0 : b8) (L9 : (List ByteArray)) (x1 : b4) (x2 : Int) {H : Hp} {K : Bool → b8 → (List ByteArray) → Hp → Prop} (h : K3 x0 L9 x1 x2 H K) : S9 x0 L9 x1 x2 H K := by
 intro g0 J7 X5 a5K w I
 refine c9v ?_
 refine a3O x0 L9 x1 x2 g0 J7 X5 a5K I (fun r0 y0 a1Y a0o a0p H' w' b5h I' hk => ⟨H', _, I', r0, y0, a1Y, a0o, a0p, rfl, rfl, b5h, hk⟩) h
def q8 (e1J : Int) (a9b : Bool) (_cr_1j3 : u7) (H : Hp) (K : Bool → Hp → Prop) : Prop :=
 (a9b = true →
 K (decide (e1J = 2)) H) ∧
 (a9b = false →
 K false H)
def A8 (a8r : Int) (a1s : Int) (a9c : Bool) (cr_1j2 : u7) (H : Hp) (K : Bool → Hp → Prop) : Prop :=
 (a9c = true →
 K (decide (a8r = 1)) H) ∧
 (a9c = false →
 (a1s = 6 →
 q8 a8r (decide (a1s = 6)) cr_1j2 H K) ∧
 (¬ (a1s = 6) →
 (a1s = 7 →
 q8 a8r (decide (a1s = 7)) cr_1j2 H K) ∧
 (¬ (a1s = 7) →
 (a1s = 8 →
 q8 a8r (decide (a1s = 8)) cr_1j2 H K) ∧
 (¬ (a1s = 8) →
 (a1s = 9 →
 q8 a8r (decide (a1s = 9)) cr_1j2 H K) ∧
 (¬ (a1s = 9) →
 q8 a8r (decide (a1s = 10)) cr_1j2 H K)))))
def A9 (X0 : Int) (a1r : Int) (a9d : Bool) (cr_1j1 : u7) (H : Hp) (K : Bool → Hp → Prop) : Prop :=
 (a9d = true →
 K (decide (X0 = 0)) H) ∧
 (a9d = false →
 (a1r = 4 →
 A8 X0 a1r (decide (a1r = 4)) cr_1j1 H K) ∧
 (¬ (a1r = 4) →
 A8 X0 a1r (decide (a1r = 5)) cr_1j1 H K))
def O7 (x0 : u7) (H : Hp) (K : Bool → Hp → Prop) : Prop :=
 R8 (b4.s6 x0) H (fun (_r0_14 : ByteArray) (b8p : Bool) (H_6 : Hp) =>
 ((((!decide (x0.f4.c7 = 1)) && (!decide (x0.f4.W2 = 0))) || ((!b8p) && (!decide (x0.f4.g8 = ⟨#[]⟩)))) = true →
 K false H_6) ∧
 ((((!decide (x0.f4.c7 = 1)) && (!decide (x0.f4.W2 = 0))) || ((!b8p) && (!decide (x0.f4.g8 = ⟨#[]⟩)))) = false →
 (x0.f4.c7 = 1 →
 K ((decide (0 ≤ x0.f4.W2)) && (decide ((x0.f4.p6.n : Int) = 0))) H_6) ∧
 (¬ (x0.f4.c7 = 1) →
 (x0.f4.c7 = 2 →
 A9 (x0.f4.p6.n : Int) x0.f4.c7 (decide (x0.f4.c7 = 2)) x0 H_6 K) ∧
 (¬ (x0.f4.c7 = 2) →
 A9 (x0.f4.p6.n : Int) x0.f4.c7 (decide (x0.f4.c7 = 3)) x0 H_6 K))))
theorem a5k (x0 : u7) {w0 w : World} {ps0 : Nat → Prop} {H0 H : Hp} {K : Bool → Hp → Prop} {R : Value → World → Prop} {E : Pan} (I : Inv w0 ps0 H0 H [] w) (hR : ∀ (r0 : Bool) (H' : Hp) (w' : World) (_ : Inv w0 ps0 H0 H' [] w') (_ : K r0 H'), R (Value.bool r0) w') (h : O7 x0 H K) : b7H (Value.agg (c5 x0.f4).toArray) w R E := by
 unfold O7 at h
 unfold b7H
 refine K1 I (cs := (c5 x0.f4)) rfl fun g_2 w_3 I_4 k_5 => ?_
 refine a7 B3 ?_
 refine a7 a1g ?_
 refine b7 (ld1 Tryd.isAgg28 (I_4.at1 (o := 3) (vs := [(vs x0.f4.p6)]) (nb rfl) rfl)) ?_
 refine a7 (M0 _ _ _) ?_
 refine b7 (ldA Tryd.isAgg96 Tryd.sizeOf96 rfl (I_4.at1 (o := 0) (vs := (c5 x0.f4)) (nb rfl) rfl)) ?_
 refine a7 (a7z x0) ?_
 refine d7 (cap := []) (fun args w => Tryd.call114 args w) ?_
 refine h9 (Fi := []) (Fr := [bx g_2 96 (c5 x0.f4)]) I_4 (h) (fun a8m H_6 a8n w_7 I_8 a8o k_9 a0Z => ?_) (fun _ _ _ _ _ q => q.elim)
 obtain ⟨C0, b8p, rfl, rfl, h⟩ := a0Z
 refine a7 (u0 _ _ _ rfl) ?_
 refine a7 (u0 _ _ _ rfl) ?_
 refine a7 B3 ?_
 refine a7 K2 ?_
 refine b7 (ld1 Tryd.isAgg3 (I_8.at1 (o := 0) (vs := [(vi x0.f4.c7)]) (nb rfl) rfl)) ?_
 refine a7 (a0D _ _ _ _ _ _) ?_
 refine a7 (Pu.g fun hb => by have b3 := hb; first | exact B3 | (simp only [d4 b3, b6 b3, b6 hb, G7 b3]; exact B3) | (simp only [d4 b3, b6 b3, b6 hb, m0 b3, l9]; exact B3)) ?_
 refine a7 (Pu.g fun hb => by have b3 := hb; first | exact a2D | (simp only [b6 b3]; exact a2D) | (simp only [d4 b3, b6 b3, b6 hb, m0 b3, l9]; exact a2D)) ?_
 refine b7 (Ld.g fun hb => by have b3 := hb; first | exact (ld1 Tryd.isAgg2 (I_8.at1 (o := 1) (vs := [(vi x0.f4.W2)]) (nb rfl) rfl)) | (simp only [b6 b3]; exact (ld1 Tryd.isAgg2 (I_8.at1 (o := 1) (vs := [(vi x0.f4.W2)]) (nb rfl) rfl))) | (simp only [d4 b3, b6 b3, b6 hb, m0 b3, l9]; exact (ld1 Tryd.isAgg2 (I_8.at1 (o := 1) (vs := [(vi x0.f4.W2)]) (nb rfl) rfl)))) ?_
 refine a7 (Pu.g fun hb => by have b3 := hb; first | exact (a0D _ _ _ _ _ _) | (simp only [b6 b3]; exact (a0D _ _ _ _ _ _)) | (simp only [d4 b3, b6 b3, b6 hb, m0 b3, l9]; exact (a0D _ _ _ _ _ _))) ?_
 refine a7 (J8 _ _) ?_
 try simp only [P4]
 refine a7 (Pu.g fun hb => by have b3 := hb; first | exact (E2 _) | (simp only [b6 b3]; exact (E2 _)) | (simp only [d4 b3, b6 b3, b6 hb, E3 b3, l9]; exact (E2 _))) ?_
 try simp only [b0z]
 refine a7 (Pu.e (a4z _ _ _) (Pu.g fun hb => by obtain ⟨b3, Q5⟩ := a8P hb; first | exact B3 | (simp only [d4 b3, b6 b3, d4 Q5, b6 Q5, b6 hb, l9]; exact B3) | (simp only [d4 b3, b6 b3, d4 Q5, b6 Q5, b6 hb, G7 hb]; exact B3) | (simp only [d4 b3, b6 b3, d4 Q5, b6 Q5, b6 hb, m0 hb, l9]; exact B3))) ?_
 refine a7 (Pu.e (a4z _ _ _) (Pu.g fun hb => by obtain ⟨b3, Q5⟩ := a8P hb; first | exact a0l | (simp only [b6 hb]; exact a0l) | (simp only [d4 b3, b6 b3, d4 Q5, b6 Q5, b6 hb, G7 hb]; exact a0l) | (simp only [d4 b3, b6 b3, d4 Q5, b6 Q5, b6 hb, m0 hb, l9]; exact a0l))) ?_
 refine b7 (Ld.e (a4z _ _ _) (Ld.g fun hb => by obtain ⟨b3, Q5⟩ := a8P hb; first | exact (ld1 Tryd.isAgg9 (I_8.at1 (o := 2) (vs := [(Value.string x0.f4.g8)]) (nb rfl) rfl)) | (simp only [b6 hb]; exact (ld1 Tryd.isAgg9 (I_8.at1 (o := 2) (vs := [(Value.string x0.f4.g8)]) (nb rfl) rfl))) | (simp only [d4 b3, b6 b3, d4 Q5, b6 Q5, b6 hb, G7 hb]; exact (ld1 Tryd.isAgg9 (I_8.at1 (o := 2) (vs := [(Value.string x0.f4.g8)]) (nb rfl) rfl))) | (simp only [d4 b3, b6 b3, d4 Q5, b6 Q5, b6 hb, m0 hb, l9]; exact (ld1 Tryd.isAgg9 (I_8.at1 (o := 2) (vs := [(Value.string x0.f4.g8)]) (nb rfl) rfl))))) ?_
 refine a7 (Pu.e (a4z _ _ _) (Pu.g fun hb => by obtain ⟨b3, Q5⟩ := a8P hb; first | exact (b0y _ _ _ _ _) | (simp only [b6 hb]; exact (b0y _ _ _ _ _)) | (simp only [d4 b3, b6 b3, d4 Q5, b6 Q5, b6 hb, G7 hb]; exact (b0y _ _ _ _ _)) | (simp only [d4 b3, b6 b3, d4 Q5, b6 Q5, b6 hb, m0 hb, l9]; exact (b0y _ _ _ _ _)))) ?_
 refine a7 (Pu.g fun hb => by have b3 := hb; first | exact (J8 _ _) | (simp only [b6 b3, a4J b3]; exact (J8 _ _)) | (simp only [d4 b3, b6 b3, b6 hb, E3 b3, l9]; exact (J8 _ _))) ?_
 refine a7 (a1f _ _) ?_
 refine p1 (fun c2Q => ?_) (fun c2Q => ?_)
 ·replace h := h.1 c2Q
  exact hR false H_6 _ I_8.drop h
 ·replace h := h.2 c2Q
  refine a7 B3 ?_
  refine a7 K2 ?_
  refine b7 (ld1 Tryd.isAgg3 (I_8.at1 (o := 0) (vs := [(vi x0.f4.c7)]) (nb rfl) rfl)) ?_
  refine a7 (f5 _ _ _ _ _ _) ?_
  refine d9 (fun c2R => ?_) (fun c2R => ?_)
  ·replace h := h.1 c2R
   refine a7 B3 ?_
   refine a7 a2D ?_
   refine b7 (ld1 Tryd.isAgg2 (I_8.at1 (o := 1) (vs := [(vi x0.f4.W2)]) (nb rfl) rfl)) ?_
   refine a7 (b0w _ _ _ _ _ _) ?_
   try simp only [P4]
   refine a7 (Pu.g fun hb => by have b3 := hb; first | exact (f5 _ _ _ _ _ _) | (simp only [b6 b3]; exact (f5 _ _ _ _ _ _)) | (simp only [d4 b3, b6 b3, b6 hb, m0 b3, l9]; exact (f5 _ _ _ _ _ _))) ?_
   refine a7 (J8 _ _) ?_
   exact hR ((decide (0 ≤ x0.f4.W2)) && (decide ((x0.f4.p6.n : Int) = 0))) H_6 _ I_8.drop h
  ·replace h := h.2 c2R
   have hj1 : ∀ (a9d : Bool) (H : Hp) (w : World) (_ : Inv w0 ps0 H0 H [bx g_2 96 (c5 x0.f4)] w) (_ : A9 (x0.f4.p6.n : Int) x0.f4.c7 a9d x0 H K), b2b (vi (x0.f4.p6.n : Int)) (vi x0.f4.c7) (Value.bool a9d) w R E := by
    intro a9d H w I h
    unfold b2b
    intro _
    unfold A9 at h
    refine p1 (fun c2S => ?_) (fun c2S => ?_)
    ·replace h := h.1 c2S
     refine a7 (f5 _ _ _ _ _ _) ?_
     exact hR (decide ((x0.f4.p6.n : Int) = 0)) H _ I.drop h
    ·replace h := h.2 c2S
     have hj2 : ∀ (a9c : Bool) (H : Hp) (w : World) (_ : Inv w0 ps0 H0 H [bx g_2 96 (c5 x0.f4)] w) (_ : A8 (x0.f4.p6.n : Int) x0.f4.c7 a9c x0 H K), b2a (vi (x0.f4.p6.n : Int)) (vi x0.f4.c7) (Value.bool a9c) w R E := by
      intro a9c H w I h
      unfold b2a
      intro _
      unfold A8 at h
      refine p1 (fun a4W => ?_) (fun a4W => ?_)
      ·replace h := h.1 a4W
       refine a7 (f5 _ _ _ _ _ _) ?_
       exact hR (decide ((x0.f4.p6.n : Int) = 1)) H _ I.drop h
      ·replace h := h.2 a4W
       have hj3 : ∀ (a9b : Bool) (H : Hp) (w : World) (_ : Inv w0 ps0 H0 H [bx g_2 96 (c5 x0.f4)] w) (_ : q8 (x0.f4.p6.n : Int) a9b x0 H K), b1Z (vi (x0.f4.p6.n : Int)) (Value.bool a9b) w R E := by
        intro a9b H w I h
        unfold b1Z
        intro _
        unfold q8 at h
        refine p1 (fun a2b => ?_) (fun a2b => ?_)
        ·replace h := h.1 a2b
         refine a7 (f5 _ _ _ _ _ _) ?_
         exact hR (decide ((x0.f4.p6.n : Int) = 2)) H _ I.drop h
        ·replace h := h.2 a2b
         exact hR false H _ I.drop h
       refine o8 fun j3 hx3 => ?_
       refine a7 (f5 _ _ _ _ _ _) ?_
       refine d9 (fun a4X => ?_) (fun a4X => ?_)
       ·replace h := h.1 a4X
        exact hx3 _ _ (hj3 (decide (x0.f4.c7 = 6)) H _ I h)
       ·replace h := h.2 a4X
        refine a7 (f5 _ _ _ _ _ _) ?_
        refine d9 (fun a1Z => ?_) (fun a1Z => ?_)
        ·replace h := h.1 a1Z
         exact hx3 _ _ (hj3 (decide (x0.f4.c7 = 7)) H _ I h)
        ·replace h := h.2 a1Z
         refine a7 (f5 _ _ _ _ _ _) ?_
         refine d9 (fun a4Y => ?_) (fun a4Y => ?_)
         ·replace h := h.1 a4Y
          exact hx3 _ _ (hj3 (decide (x0.f4.c7 = 8)) H _ I h)
         ·replace h := h.2 a4Y
          refine a7 (f5 _ _ _ _ _ _) ?_
          refine d9 (fun a4Z => ?_) (fun a4Z => ?_)
          ·replace h := h.1 a4Z
           exact hx3 _ _ (hj3 (decide (x0.f4.c7 = 9)) H _ I h)
          ·replace h := h.2 a4Z
           refine a7 (f5 _ _ _ _ _ _) ?_
           exact hx3 _ _ (hj3 (decide (x0.f4.c7 = 10)) H _ I h)
     refine o8 fun j2 hx2 => ?_
     refine a7 (f5 _ _ _ _ _ _) ?_
     refine d9 (fun b0d => ?_) (fun b0d => ?_)
     ·replace h := h.1 b0d
      exact hx2 _ _ (hj2 (decide (x0.f4.c7 = 4)) H _ I h)
     ·replace h := h.2 b0d
      refine a7 (f5 _ _ _ _ _ _) ?_
      exact hx2 _ _ (hj2 (decide (x0.f4.c7 = 5)) H _ I h)
   refine o8 fun j1 hx1 => ?_
   refine a7 (f5 _ _ _ _ _ _) ?_
   refine d9 (fun c2T => ?_) (fun c2T => ?_)
   ·replace h := h.1 c2T
    exact hx1 _ _ (hj1 (decide (x0.f4.c7 = 2)) H_6 _ I_8 h)
   ·replace h := h.2 c2T
    refine a7 (f5 _ _ _ _ _ _) ?_
    exact hx1 _ _ (hj1 (decide (x0.f4.c7 = 3)) H_6 _ I_8 h)
theorem a5z (x0 : u7) {H : Hp} {K : Bool → Hp → Prop} (h : O7 x0 H K) : W7 x0 H K := by
 intro w I
 refine c6z ?_
 refine a5k x0 I (fun r0 H' w' I' hk => ⟨H', _, I', r0, rfl, rfl, hk⟩) h
def m3 (N0 : (List b4)) (H : Hp) (K : Sl → Hp → Prop) : Prop :=
 ∀ (u9 : Sl) (Q2 : Hp), Hle H Q2 → SlH Q2 1 g9 u9 N0 → u9.n ≤ u9.c →
 K u9 Q2
def m4 (D3 : Sl) (a2S : Int) (k6 : (List b4)) (j7 : Int) (H : Hp) (n2 : ((List b4) × Int) → Hp → Prop) (K : Sl → Hp → Prop) : Prop :=
 (j7 < a2S →
 (0 : Int) ≤ j7 ∧ (j7 : Int) < D3.n ∧ ∃ x_1 : i6, EltH H D3 j7 4 (c5 x_1) ∧
 a2Q x_1 H (fun (G8 : b4) (Q3 : Hp) =>
 (k6.length + ([G8] : List b4).length) * 17 ≤ 140737488355328 ∧
 n2 ((k6 ++ [G8]), (IntKind.wrap .i64 (j7 + 1))) Q3)) ∧
 (¬ (j7 < a2S) →
 m3 k6 H K)
def o4 (x0 : Sl) (H : Hp) (K : Sl → Hp → Prop) : Prop :=
 TL (([], 0) : (List b4) × Int) H fun (s : (List b4) × Int) H n2 => m4 x0 (x0.n : Int) s.1 s.2 H n2 K
theorem P6 (x0 : Sl) {w0 w : World} {ps0 : Nat → Prop} {H0 H : Hp} {K : Sl → Hp → Prop} {R : Value → World → Prop} {E : Pan} (I : Inv w0 ps0 H0 H [] w) (hR : ∀ (r0 : Sl) (H' : Hp) (w' : World) (_ : Inv w0 ps0 H0 H' [] w') (_ : K r0 H'), R (vs r0) w') (h : o4 x0 H K) : b7J (vs x0) (Value.func (.func 151) #[] #[]) w R E := by
 unfold o4 at h
 unfold b7J
 have hj1 : ∀ (N0 : (List b4)) (u9 : Sl) (Fs5j1 : Frag) (H : Hp) (w : World) (_ : RowL 141 1 g9 u9 N0 Fs5j1) (_ : Inv w0 ps0 H0 H [Fs5j1] w) (_ : m3 N0 H K), b2c (vs u9) w R E := by
  intro N0 u9 Fs5j1 H w a6W I h
  unfold b2c
  intro _
  unfold m3 at h
  obtain ⟨Q2, a5a, a6c, a9R, a9S⟩ := Inv.freezeC I a6W (by decide)
  replace h := h u9 Q2 a6c a9R a9S
  exact hR u9 Q2 _ a5a h
 refine o8 fun j1 hx1 => ?_
 refine a7 (M0 _ _ _) ?_
 obtain ⟨a2d, V1, a9T, a9U⟩ := h
 refine y8 (J := fun n l w => ∃ (s : (List b4) × Int) (H : Hp) (N1 : Sl) (Fs5l2 : Frag) , n = V1 s ∧ l = (match s with | (k6, j7) => [(vs N1), (vi j7)]) ∧ (match s with | (k6, j7) => RowL 141 1 g9 N1 k6 Fs5l2) ∧ (match s with | (k6, j7) => Inv w0 ps0 H0 H [Fs5l2] w) ∧ a2d s H) ⟨_, ([], 0), H, (Sl.mk none 0 0), [], rfl, rfl, (RowL.nil C9 G5), I.nil, a9T⟩ ?_
 rintro c2y τ_50 w next2 ⟨⟨k6, j7⟩, H, N1, Fs5l2, rfl, a2e, a0s, I, a9V⟩ hn2
 dsimp only at a2e I a0s
 simp only [List.map_cons, List.map_nil, List.cons.injEq, and_true] at a2e
 obtain ⟨e5, e10⟩ := a2e
 simp only [e5, e10]
 obtain ⟨n2, hm2, h⟩ : ∃ n2 : ((List b4) × Int) → Hp → Prop, (∀ s' H', n2 s' H' → a2d s' H' ∧ V1 s' < V1 (k6, j7)) ∧ m4 x0 (x0.n : Int) k6 j7 H n2 K := ⟨_, fun _ _ h => h, a9U (k6, j7) H (fun s' H' => a2d s' H' ∧ V1 s' < V1 (k6, j7)) a9V (fun _ _ a b => ⟨a, b⟩)⟩
 unfold b6P
 unfold m4 at h
 refine a7 (C3 _ _ _ _ _ _) ?_
 refine d9 (fun a0t => ?_) (fun a0t => ?_)
 ·replace h := h.1 a0t
  obtain ⟨h_4, h_5, x_1, h_7, h⟩ := h
  obtain ⟨g_2, o_3, h_6, h_7⟩ := h_7
  refine a7 (a1T h_6 _ _ _ _ h_4 h_5) ?_
  refine b7 (ldA (vs := (c5 x_1)) Tryd.isAgg30 Tryd.sizeOf30 rfl (I.atH h_7)) ?_
  refine B9 I Tryd.zeroValue30 (cs := [(vi 0), (vi 0), (Value.string ⟨#[]⟩), (Value.slice none 0 0)]) rfl fun g_9 k8 Y3 a8p => ?_
  refine r5 Y3 Tryd.sizeOf30 (vs := (c5 x_1)) (cs' := (c5 x_1)) rfl rfl (nb rfl) rfl rfl fun a3V a0h b7Y => ?_
  refine b7 (ldA Tryd.isAgg30 Tryd.sizeOf30 rfl (a0h.at1 (o := 0) (vs := (c5 x_1)) (nb rfl) rfl)) ?_
  refine d7 (cap := []) (fun args w => Tryd.call151 args w) ?_
  refine h9 (Fi := []) (Fr := [bx g_9 30 (c5 x_1), Fs5l2]) a0h (h) (fun b7Z Q3 b8a a1x a0u b8b b4S a6X => ?_) (fun _ _ _ _ _ q => q.elim)
  obtain ⟨G8, rfl, rfl, h⟩ := a6X
  refine a1S (e := 141) (c := g9) (xs := [G8]) a0u (a8S _) rfl rfl C9 G5 (nb rfl) fun b4T b2j B5 a5b a3q b8c => ?_
  obtain ⟨a5c, h⟩ := h
  refine a7Q (s := N1) (xs := k6) (a3q.bring 2) a0s (a5b.srcO ((a3q.bring 2).bring 1)) a5c fun a9W a9X D5 a5d a3X b8d => ?_
  refine a7 (v7 _ _ _ _ _ _) ?_
  exact hn2 _ _ _ (hm2 _ _ h).2 ⟨((k6 ++ [G8]), (IntKind.wrap .i64 (j7 + 1))), Q3, a9W, a9X, rfl, rfl, a5d, ((a3X.bring 1).drop.bring 1).drop, (hm2 _ _ h).1⟩
 ·replace h := h.2 a0t
  exact hx1 _ _ (hj1 k6 N1 Fs5l2 H _ a0s I h)
theorem Q6 (x0 : Sl) {H : Hp} {K : Sl → Hp → Prop} (h : o4 x0 H K) : k4 x0 H K := by
 intro w I
 refine c6D ?_
 refine P6 x0 I (fun r0 H' w' I' hk => ⟨H', _, I', r0, rfl, rfl, hk⟩) h
def T8 (x0 : i7) (H : Hp) (K : b4 → Hp → Prop) : Prop :=
 K (b4.z2 (B1.mk x0)) H
theorem a6r (x0 : i7) {w0 w : World} {ps0 : Nat → Prop} {H0 H : Hp} {K : b4 → Hp → Prop} {R : Value → World → Prop} {E : Pan} (I : Inv w0 ps0 H0 H [] w) (hR : ∀ (r0 : b4) (H' : Hp) (w' : World) (_ : Inv w0 ps0 H0 H' [] w') (_ : K r0 H'), R (l8 r0) w') (h : T8 x0 H K) : b7P (Value.agg (c9 x0).toArray) w R E := by
 unfold T8 at h
 unfold b7P
 refine K1 I (cs := (c9 x0)) rfl fun g_2 w_3 I_4 k_5 => ?_
 refine b7 (ldA Tryd.isAgg33 Tryd.sizeOf33 rfl (I_4.at1 (o := 0) (vs := (c9 x0)) (nb rfl) rfl)) ?_
 refine a7 (b3N _ _ _ _ _ _ _ _) ?_
 refine a7 (b1J (B1.mk x0)) ?_
 exact hR (b4.z2 (B1.mk x0)) H _ I_4.drop h
theorem a7e (x0 : i7) {H : Hp} {K : b4 → Hp → Prop} (h : T8 x0 H K) : a2R x0 H K := by
 intro w I
 refine c6O ?_
 refine a6r x0 I (fun r0 H' w' I' hk => ⟨H', _, I', r0, rfl, rfl, hk⟩) h
def O8 (x0 : D9) (H : Hp) (K : Bool → Hp → Prop) : Prop :=
 K ((decide (0 ≤ x0.C7.S1)) && (decide (x0.C7.S1 ≤ 2147483647))) H
theorem a5l (x0 : D9) {w0 w : World} {ps0 : Nat → Prop} {H0 H : Hp} {K : Bool → Hp → Prop} {R : Value → World → Prop} {E : Pan} (I : Inv w0 ps0 H0 H [] w) (hR : ∀ (r0 : Bool) (H' : Hp) (w' : World) (_ : Inv w0 ps0 H0 H' [] w') (_ : K r0 H'), R (Value.bool r0) w') (h : O8 x0 H K) : b7Q (Value.agg (j8 x0.C7).toArray) w R E := by
 unfold O8 at h
 unfold b7Q
 refine K1 I (cs := (j8 x0.C7)) rfl fun g_2 w_3 I_4 k_5 => ?_
 refine a7 a1H ?_
 refine a7 a2E ?_
 refine b7 (ld1 Tryd.isAgg3 (I_4.at1 (o := 1) (vs := [(vi x0.C7.S1)]) (nb rfl) rfl)) ?_
 refine a7 (b0w _ _ _ _ _ _) ?_
 refine a7 (Pu.g fun hb => by have b3 := hb; first | exact a1H | (simp only [d4 b3, b6 b3, b6 hb, G7 b3]; exact a1H) | (simp only [d4 b3, b6 b3, b6 hb, m0 b3, l9]; exact a1H)) ?_
 refine a7 (Pu.g fun hb => by have b3 := hb; first | exact a2E | (simp only [b6 b3]; exact a2E) | (simp only [d4 b3, b6 b3, b6 hb, m0 b3, l9]; exact a2E)) ?_
 refine b7 (Ld.g fun hb => by have b3 := hb; first | exact (ld1 Tryd.isAgg3 (I_4.at1 (o := 1) (vs := [(vi x0.C7.S1)]) (nb rfl) rfl)) | (simp only [b6 b3]; exact (ld1 Tryd.isAgg3 (I_4.at1 (o := 1) (vs := [(vi x0.C7.S1)]) (nb rfl) rfl))) | (simp only [d4 b3, b6 b3, b6 hb, m0 b3, l9]; exact (ld1 Tryd.isAgg3 (I_4.at1 (o := 1) (vs := [(vi x0.C7.S1)]) (nb rfl) rfl)))) ?_
 refine a7 (Pu.g fun hb => by have b3 := hb; first | exact (a1G _ _ _ _ _ _) | (simp only [b6 b3]; exact (a1G _ _ _ _ _ _)) | (simp only [d4 b3, b6 b3, b6 hb, m0 b3, l9]; exact (a1G _ _ _ _ _ _))) ?_
 refine a7 (J8 _ _) ?_
 exact hR ((decide (0 ≤ x0.C7.S1)) && (decide (x0.C7.S1 ≤ 2147483647))) H _ I_4.drop h
theorem a5A (x0 : D9) {H : Hp} {K : Bool → Hp → Prop} (h : O8 x0 H K) : a1w x0 H K := by
 intro w I
 refine c6Q ?_
 refine a5l x0 I (fun r0 H' w' I' hk => ⟨H', _, I', r0, rfl, rfl, hk⟩) h
def N3 (_x0 : D9) (H : Hp) (K : Sl → Hp → Prop) : Prop :=
 K (Sl.mk none 0 0) H
theorem a4s (x0 : D9) {w0 w : World} {ps0 : Nat → Prop} {H0 H : Hp} {K : Sl → Hp → Prop} {R : Value → World → Prop} {E : Pan} (I : Inv w0 ps0 H0 H [] w) (hR : ∀ (r0 : Sl) (H' : Hp) (w' : World) (_ : Inv w0 ps0 H0 H' [] w') (_ : K r0 H'), R (vs r0) w') (h : N3 x0 H K) : b7R (Value.agg (j8 x0.C7).toArray) w R E := by
 unfold N3 at h
 unfold b7R
 refine K1 I (cs := (j8 x0.C7)) rfl fun g_2 w_3 I_4 k_5 => ?_
 exact hR (Sl.mk none 0 0) H _ I_4.drop h
theorem a5m (x0 : D9) {H : Hp} {K : Sl → Hp → Prop} (h : N3 x0 H K) : a0X x0 H K := by
 intro w I
 refine c6S ?_
 refine a4s x0 I (fun r0 H' w' I' hk => ⟨H', _, I', r0, rfl, rfl, hk⟩) h
end Go.Proofs.YthldnpmfelniiaaDoor
