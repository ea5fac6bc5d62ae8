/- Typed formulas of the program's functions, and the theorems that the contracts follow from them; printed by lift.py off the code. -/
import Derived.Test.YthldnpmfelniiaaDoorzXV1
namespace Go.Proofs.YthldnpmfelniiaaDoor
open Go.RowKit
set_option maxRecDepth 100000
set_option maxHeartbeats 2000000
def A5 (_s0j5 : Sl) (c1e : Int) (_s9j5 : Sl) (_s10j5 : Int) (g0g : Int) (H : Hp) (n4 : (Int × Int) → Hp → Prop) (_K : Sl → Hp → Prop) : Prop :=
 n4 (c1e, (IntKind.wrap .i64 (g0g + 1))) H
def A6 (b9E : (List c8)) (H : Hp) (K : Sl → Hp → Prop) : Prop :=
 ∀ (a9q : Sl) (b3W : Hp), Hle H b3W → SlH b3W 1 m7 a9q b9E → a9q.n ≤ a9q.c →
 K a9q b3W
def A7 (a2T : Sl) (d9K : Int) (a4Z : (List c8)) (a4t : Int) (H : Hp) (n3 : ((List c8) × Int) → Hp → Prop) (K : Sl → Hp → Prop) : Prop :=
 (a4t < d9K →
 (0 : Int) ≤ a4t ∧ (a4t : Int) < a2T.n ∧ ∃ c9F : Sl, EltH H a2T a4t 1 [(vs c9F)] ∧
 ∃ b9F : List c8, SlH H 1 m7 c9F b9F ∧ (a4Z.length + b9F.length) * 17 ≤ 140737488355328 ∧
 n3 ((a4Z ++ b9F), (IntKind.wrap .i64 (a4t + 1))) H) ∧
 (¬ (a4t < d9K) →
 A6 a4Z H K)
def A8 (c9G : Sl) (W0 : Int) (H : Hp) (K : Sl → Hp → Prop) : Prop :=
 N4 W0 H (fun (c9H : (List c8)) (H_9 : Hp) =>
 TL ((c9H, 0) : (List c8) × Int) H_9 fun (s : (List c8) × Int) H n3 => A7 c9G (c9G.n : Int) s.1 s.2 H n3 K)
def A9 (f1a : Sl) (a5a : Sl) (c9I : Int) (a8b : Int) (a3X : Int) (H : Hp) (n4 : (Int × Int) → Hp → Prop) (K : Sl → Hp → Prop) : Prop :=
 (a3X < c9I →
 (0 : Int) ≤ a3X ∧ (a3X : Int) < a5a.n ∧ ∃ x_1 : Sl, EltH H a5a a3X 1 [(vs x_1)] ∧
 ((IntKind.wrap .i64 (a8b + (x_1.n : Int))) < 0 →
 False) ∧
 (¬ ((IntKind.wrap .i64 (a8b + (x_1.n : Int))) < 0) →
 A5 f1a (IntKind.wrap .i64 (a8b + (x_1.n : Int))) a5a c9I a3X H n4 K)) ∧
 (¬ (a3X < c9I) →
 A8 f1a a8b H K)
def C1 (x0 : Sl) (H : Hp) (K : Sl → Hp → Prop) : Prop :=
 TL ((0, 0) : Int × Int) H fun (s : Int × Int) H n4 => A9 x0 x0 (x0.n : Int) s.1 s.2 H n4 K
theorem a2U (x0 : Sl) {w0 w : World} {ps0 : Nat → Prop} {H0 H : Hp} {K : Sl → Hp → Prop} {R : Value → World → Prop} {E : Pan} (I : Inv w0 ps0 H0 H [] w) (hR : ∀ (r0 : Sl) (H' : Hp) (w' : World) (_ : Inv w0 ps0 H0 H' [] w') (_ : K r0 H'), R (vs r0) w') (h : C1 x0 H K) : F94 (vs x0) w R E := by
 unfold C1 at h
 unfold F94
 have hj1 : ∀ (W0 : Int) (H : Hp) (w : World) (_ : Inv w0 ps0 H0 H [] w) (_ : A8 x0 W0 H K), c3N (vs x0) (vi W0) w R E := by
  intro W0 H w I h
  unfold c3N
  intro _
  unfold A8 at h
  refine f6 (cap := []) (fun args w => Tryd.call120 args w) ?_
  refine i6 (Fi := []) (Fr := []) I (h) (fun h1c H_9 c9J m2 a3q d6h b3R g4F => ?_) (fun _ _ _ _ _ q => q.elim)
  obtain ⟨c9H, f1b, f1c, rfl, rfl, f1d, h⟩ := g4F
  have hj2 : ∀ (b9E : (List c8)) (a9q : Sl) (Fs6j2 : Frag) (H : Hp) (w : World) (_ : RowL 141 1 m7 a9q b9E Fs6j2) (_ : Inv w0 ps0 H0 H [Fs6j2] w) (_ : A6 b9E H K), c3K (vs a9q) w R E := by
   intro b9E a9q Fs6j2 H w g0h I h
   unfold c3K
   intro _
   unfold A6 at h
   obtain ⟨b3W, a9N, g4G, b3S, g4H⟩ := Inv.freezeC I g0h (by decide)
   replace h := h a9q b3W g4G b3S g4H
   exact hR a9q b3W _ a9N h
  refine m6 fun j2 hx2 => ?_
  refine a7 (b9b _ _ _) ?_
  obtain ⟨d6i, c4G, g4I, g4J⟩ := h
  refine p9 (J := fun n l w => ∃ (s : (List c8) × Int) (H : Hp) (b9G : Sl) (Fs6l3 : Frag) , n = c4G s ∧ l = (match s with | (a4Z, a4t) => [(vs b9G), (vi a4t)]) ∧ (match s with | (a4Z, a4t) => RowL 141 1 m7 b9G a4Z Fs6l3) ∧ (match s with | (a4Z, a4t) => Inv w0 ps0 H0 H [Fs6l3] w) ∧ d6i s H) ⟨_, (c9H, 0), H_9, f1b, f1c, rfl, rfl, f1d, a3q, g4I⟩ ?_
  rintro h1d τ_46 w next3 ⟨⟨a4Z, a4t⟩, H, b9G, Fs6l3, rfl, c9K, c9L, I, g4K⟩ hn3
  dsimp only at c9K I c9L
  simp only [List.map_cons, List.map_nil, List.cons.injEq, and_true] at c9K
  obtain ⟨e6, e27⟩ := c9K
  simp only [e6, e27]
  obtain ⟨n3, hm3, h⟩ : ∃ n3 : ((List c8) × Int) → Hp → Prop, (∀ s' H', n3 s' H' → d6i s' H' ∧ c4G s' < c4G (a4Z, a4t)) ∧ A7 x0 (x0.n : Int) a4Z a4t H n3 K := ⟨_, fun _ _ h => h, g4J (a4Z, a4t) H (fun s' H' => d6i s' H' ∧ c4G s' < c4G (a4Z, a4t)) g4K (fun _ _ a b => ⟨a, b⟩)⟩
  unfold d3H
  unfold A7 at h
  refine a7 (o2 _ _ _ _ _ _) ?_
  refine g6 (fun d6j => ?_) (fun d6j => ?_)
  ·replace h := h.1 d6j
   obtain ⟨c9M, c1f, c9F, c4H, h⟩ := h
   obtain ⟨f1e, h1e, g4L, c4H⟩ := c4H
   refine a7 (c2a g4L _ _ _ _ c9M c1f) ?_
   refine c5 (ld1 (v := (vs c9F)) Tryd.isAgg97 (I.atH c4H)) ?_
   obtain ⟨b9F, c4I, h⟩ := h
   obtain ⟨g4M, h⟩ := h
   refine b5h (s := b9G) (xs := a4Z) I c9L (SlH.src I c4I N1) g4M fun c4A b5Z w9 b1h a5C b7S => ?_
   refine a7 (m4 _ _ _ _ _ _) ?_
   exact hn3 _ _ _ (hm3 _ _ h).2 ⟨((a4Z ++ b9F), (IntKind.wrap .i64 (a4t + 1))), H, c4A, b5Z, rfl, rfl, b1h, a5C, (hm3 _ _ h).1⟩
  ·replace h := h.2 d6j
   exact hx2 _ _ (hj2 a4Z b9G Fs6l3 H _ c9L I h)
 refine m6 fun j1 hx1 => ?_
 refine a7 (b9b _ _ _) ?_
 obtain ⟨d6k, c4J, g4N, g4O⟩ := h
 refine p9 (J := fun n l w => ∃ (s : Int × Int) (H : Hp) , n = c4J s ∧ l = (match s with | (a8b, a3X) => [(vi a8b), (vi a3X)]) ∧ (match s with | (a8b, a3X) => Inv w0 ps0 H0 H [] w) ∧ d6k s H) ⟨_, (0, 0), H, rfl, rfl, I, g4N⟩ ?_
 rintro h1f τ_55 w next4 ⟨⟨a8b, a3X⟩, H, rfl, d6l, I, c4K⟩ hn4
 dsimp only at d6l I
 simp only [List.map_cons, List.map_nil, List.cons.injEq, and_true] at d6l
 obtain ⟨e3, e11⟩ := d6l
 simp only [e3, e11]
 obtain ⟨n4, hm4, h⟩ : ∃ n4 : (Int × Int) → Hp → Prop, (∀ s' H', n4 s' H' → d6k s' H' ∧ c4J s' < c4J (a8b, a3X)) ∧ A9 x0 x0 (x0.n : Int) a8b a3X H n4 K := ⟨_, fun _ _ h => h, g4O (a8b, a3X) H (fun s' H' => d6k s' H' ∧ c4J s' < c4J (a8b, a3X)) c4K (fun _ _ a b => ⟨a, b⟩)⟩
 unfold d3I
 unfold A9 at h
 refine a7 (o2 _ _ _ _ _ _) ?_
 refine g6 (fun d6m => ?_) (fun d6m => ?_)
 ·replace h := h.1 d6m
  have hj5 : ∀ (c1e : Int) (H : Hp) (w : World) (_ : Inv w0 ps0 H0 H [] w) (_ : A5 x0 c1e x0 (x0.n : Int) a3X H n4 K), c3O (vs x0) (vi c1e) (vs x0) (vi (x0.n : Int)) (vi a3X) w next4 R E := by
   intro c1e H w I h
   unfold c3O
   intro _
   unfold A5 at h
   refine a7 (m4 _ _ _ _ _ _) ?_
   exact hn4 _ _ _ (hm4 _ _ h).2 ⟨(c1e, (IntKind.wrap .i64 (a3X + 1))), H, rfl, rfl, I, (hm4 _ _ h).1⟩
  refine m6 fun j5 hx5 => ?_
  obtain ⟨h_4, h_5, x_1, h_7, h⟩ := h
  obtain ⟨g_2, o_3, h_6, h_7⟩ := h_7
  refine a7 (c2a h_6 _ _ _ _ h_4 h_5) ?_
  refine c5 (ld1 (v := (vs x_1)) Tryd.isAgg97 (I.atH h_7)) ?_
  refine a7 (b2f _ _ _) ?_
  refine a7 (m4 _ _ _ _ _ _) ?_
  refine a7 (o2 _ _ _ _ _ _) ?_
  refine g6 (fun c_8 => ?_) (fun c_8 => ?_)
  ·replace h := h.1 c_8
   refine a7 (d3v _) ?_
   exact h.elim
  ·replace h := h.2 c_8
   exact hx5 _ _ (hj5 (IntKind.wrap .i64 (a8b + (x_1.n : Int))) H _ I h)
 ·replace h := h.2 d6m
  exact hx1 _ _ (hj1 a8b H _ I h)
theorem a3g (x0 : Sl) {H : Hp} {K : Sl → Hp → Prop} (h : C1 x0 H K) : v7 x0 H K := by
 intro w I
 refine e7T ?_
 refine a2U x0 I (fun r0 H' w' I' hk => ⟨H', _, I', r0, rfl, rfl, hk⟩) h
def Q9 (x0 : (List ByteArray)) (x1 : ByteArray) (H : Hp) (K : Bool → Hp → Prop) : Prop :=
 a1N x0 x1 H (fun (I0 : Int) (H_1 : Hp) =>
 K (decide (0 ≤ I0)) H_1)
theorem a6M (x0 : (List ByteArray)) (x1 : ByteArray) (sx0 : Sl) (Fx0 : Frag) (hx0 : RowL 9 1 C2 sx0 x0 Fx0) {w0 w : World} {ps0 : Nat → Prop} {H0 H : Hp} {K : Bool → Hp → Prop} {R : Value → World → Prop} {E : Pan} (I : Inv w0 ps0 H0 H [Fx0] w) (hR : ∀ (r0 : Bool) (H' : Hp) (w' : World) (_ : Inv w0 ps0 H0 H' [Fx0] w') (_ : K r0 H'), R (Value.bool r0) w') (h : Q9 x0 x1 H K) : c9h (vs sx0) (Value.string x1) w R E := by
 unfold Q9 at h
 unfold c9h
 refine f6 (cap := []) (fun args w => Tryd.call127 args w) ?_
 refine i6 (Fi := [Fx0]) (Fr := []) I (h sx0 Fx0 hx0) (fun v_5 H_1 F_6 w_2 I_3 l_8 k_4 q_7 => ?_) (fun _ _ _ _ _ q => q.elim)
 obtain ⟨I0, rfl, rfl, h⟩ := q_7
 refine a7 (a0B _ _ _ _ _ _) ?_
 exact hR (decide (0 ≤ I0)) H_1 _ I_3 h
theorem a7v (x0 : (List ByteArray)) (x1 : ByteArray) {H : Hp} {K : Bool → Hp → Prop} (h : Q9 x0 x1 H K) : J3 x0 x1 H K := by
 intro sx0 Fx0 hx0 w I
 refine e1C ?_
 refine a6M x0 x1 sx0 Fx0 hx0 I (fun r0 H' w' I' hk => ⟨H', _, I', r0, rfl, rfl, hk⟩) h
def t6 (b0C : Int) (b0D : Int) (b0E : Int) (b0F : Bool) (b0G : Bool) (a9a : (List ByteArray)) (H : Hp) (K : Bool → g7 → (List ByteArray) → Hp → Prop) : Prop :=
 K true (g7.mk b0C b0D b0E b0F b0G (Sl.mk none 0 0)) a9a H
def Z8 (x0 : g7) (a0x : (List ByteArray)) (x1 : c8) (x2 : Int) (H : Hp) (K : Bool → g7 → (List ByteArray) → Hp → Prop) : Prop :=
 (4096 < (IntKind.wrap .i64 (x0.fnodes + 1)) →
 K false (g7.mk (IntKind.wrap .i64 (x0.fnodes + 1)) x0.fdepth 33 x0.fform x0.fnamed (Sl.mk none 0 0)) a0x H) ∧
 (¬ (4096 < (IntKind.wrap .i64 (x0.fnodes + 1))) →
 (64 < x2 →
 K false (g7.mk (IntKind.wrap .i64 (x0.fnodes + 1)) x0.fdepth 32 x0.fform x0.fnamed (Sl.mk none 0 0)) a0x H) ∧
 (¬ (64 < x2) →
 TG (x0.fform = false) (a4W x1 H) false H (fun (q7 : Bool) (b6c : Hp) =>
 a2m x1 b6c (fun (a1b : ByteArray) (b6S : Bool) (a5b : Hp) =>
 (b6S = true →
 TG (x0.fnamed = false) (a4q a1b a5b) false a5b (fun (a1x : Bool) (a8c : Hp) =>
 J3 a0x a1b a8c (fun (a5c : Bool) (a6o : Hp) =>
 ((!a5c) = true →
 (a0x.length + ([a1b] : List ByteArray).length) * 17 ≤ 140737488355328 ∧
 t6 (IntKind.wrap .i64 (x0.fnodes + 1)) (if x2 > x0.fdepth then x2 else x0.fdepth) x0.fe (x0.fform || (!q7)) (x0.fnamed || (!a1x)) (a0x ++ [a1b]) a6o K) ∧
 ((!a5c) = false →
 t6 (IntKind.wrap .i64 (x0.fnodes + 1)) (if x2 > x0.fdepth then x2 else x0.fdepth) x0.fe (x0.fform || (!q7)) (x0.fnamed || (!a1x)) a0x a6o K)))) ∧
 (b6S = false →
 t6 (IntKind.wrap .i64 (x0.fnodes + 1)) (if x2 > x0.fdepth then x2 else x0.fdepth) x0.fe (x0.fform || (!q7)) x0.fnamed a0x a5b K)))))
theorem a9A (x0 : g7) (a0x : (List ByteArray)) (x1 : c8) (x2 : Int) (g0 : Nat) (Y4 : Sl) (a3W : Frag) (b2j : RowL 9 1 C2 Y4 a0x a3W) {w0 w : World} {ps0 : Nat → Prop} {H0 H : Hp} {K : Bool → g7 → (List ByteArray) → Hp → Prop} {R : Value → World → Prop} {E : Pan} (I : Inv w0 ps0 H0 H [bx g0 92 [(vi x0.fnodes), (vi x0.fdepth), (vi x0.fe), (Value.bool x0.fform), (Value.bool x0.fnamed), (vs Y4)], a3W] w) (hR : ∀ (r0 : Bool) (y0 : g7) (a6J : (List ByteArray)) (a4T : Sl) (a4U : Frag) (H' : Hp) (w' : World) (_ : RowL 9 1 C2 a4T a6J a4U) (_ : Inv w0 ps0 H0 H' [bx g0 92 [(vi y0.fnodes), (vi y0.fdepth), (vi y0.fe), (Value.bool y0.fform), (Value.bool y0.fnamed), (vs a4T)], a4U] w') (_ : K r0 y0 a6J H'), R (Value.bool r0) w') (h : Z8 x0 a0x x1 x2 H K) : F90 (Value.pointer (some ⟨g0, 0, none⟩)) (u0 x1) (vi x2) w R E := by
 unfold Z8 at h
 unfold F90
 refine a7 (j8 _) ?_
 refine a7 b3B ?_
 refine c5 (ld1 Tryd.isAgg3 (I.at1 (o := 0) (vs := [(vi x0.fnodes)]) (nb rfl) rfl)) ?_
 refine a7 (m4 _ _ _ _ _ _) ?_
 refine a7 (j8 _) ?_
 refine a7 b3B ?_
 refine p7 I Tryd.sizeOf3 (vs := [(vi (IntKind.wrap .i64 (x0.fnodes + 1)))]) (cs' := [(vi (IntKind.wrap .i64 (x0.fnodes + 1))), (vi x0.fdepth), (vi x0.fe), (Value.bool x0.fform), (Value.bool x0.fnamed), (vs Y4)]) rfl rfl (nb rfl) rfl rfl fun w_1 I_2 k_3 => ?_
 refine a7 (j8 _) ?_
 refine a7 b3B ?_
 refine c5 (ld1 Tryd.isAgg3 (I_2.at1 (o := 0) (vs := [(vi (IntKind.wrap .i64 (x0.fnodes + 1)))]) (nb rfl) rfl)) ?_
 refine a7 (a2H _ _ _ _ _ _) ?_
 refine g6 (fun a6N => ?_) (fun a6N => ?_)
 ·replace h := h.1 a6N
  refine a7 (j8 _) ?_
  refine a7 a7A ?_
  refine p7 I_2 Tryd.sizeOf34 (vs := [(vi 33)]) (cs' := [(vi (IntKind.wrap .i64 (x0.fnodes + 1))), (vi x0.fdepth), (vi 33), (Value.bool x0.fform), (Value.bool x0.fnamed), (vs Y4)]) rfl rfl (nb rfl) rfl rfl fun w_4 I_5 k_6 => ?_
  exact hR false (g7.mk (IntKind.wrap .i64 (x0.fnodes + 1)) x0.fdepth 33 x0.fform x0.fnamed (Sl.mk none 0 0)) a0x Y4 a3W H _ b2j ((I_5.bring 1).bring 1) h
 ·replace h := h.2 a6N
  refine a7 (a2H _ _ _ _ _ _) ?_
  refine g6 (fun a6O => ?_) (fun a6O => ?_)
  ·replace h := h.1 a6O
   refine a7 (j8 _) ?_
   refine a7 a7A ?_
   refine p7 I_2 Tryd.sizeOf34 (vs := [(vi 32)]) (cs' := [(vi (IntKind.wrap .i64 (x0.fnodes + 1))), (vi x0.fdepth), (vi 32), (Value.bool x0.fform), (Value.bool x0.fnamed), (vs Y4)]) rfl rfl (nb rfl) rfl rfl fun w_7 I_8 k_9 => ?_
   exact hR false (g7.mk (IntKind.wrap .i64 (x0.fnodes + 1)) x0.fdepth 32 x0.fform x0.fnamed (Sl.mk none 0 0)) a0x Y4 a3W H _ b2j ((I_8.bring 1).bring 1) h
  ·replace h := h.2 a6O
   refine a7 (j8 _) ?_
   refine a7 b8W ?_
   refine c5 (ld1 Tryd.isAgg3 (I_2.at1 (o := 1) (vs := [(vi x0.fdepth)]) (nb rfl) rfl)) ?_
   refine a7 (d3q _ _ _ _ _) ?_
   refine a7 (j8 _) ?_
   refine a7 b8W ?_
   refine p7 I_2 Tryd.sizeOf3 (vs := [(vi (if x2 > x0.fdepth then x2 else x0.fdepth))]) (cs' := [(vi (IntKind.wrap .i64 (x0.fnodes + 1))), (vi (if x2 > x0.fdepth then x2 else x0.fdepth)), (vi x0.fe), (Value.bool x0.fform), (Value.bool x0.fnamed), (vs Y4)]) rfl rfl (nb rfl) rfl rfl fun m2 a3q b3R => ?_
   refine a7 (j8 _) ?_
   refine a7 b3D ?_
   refine c5 (ld1 Tryd.isAgg4 (a3q.at1 (o := 3) (vs := [(Value.bool x0.fform)]) (nb rfl) rfl)) ?_
   try simp only [m1]
   refine a2j (D := fun b7Y m5 => ∃ (q7 : Bool) (b6c : Hp), b7Y = (gv x0.fform false (Value.bool q7)) ∧ (Inv w0 ps0 H0 b6c [bx g0 92 [(vi (IntKind.wrap .i64 (x0.fnodes + 1))), (vi (if x2 > x0.fdepth then x2 else x0.fdepth)), (vi x0.fe), (Value.bool x0.fform), (Value.bool x0.fnamed), (vs Y4)], a3W] m5) ∧ (∀ i, i < m2.heap.size → ¬ inF [] i → m5.heap[i]? = m2.heap[i]?) ∧ Hle H b6c ∧ (a2m x1 b6c (fun (a1b : ByteArray) (b6S : Bool) (a5b : Hp) =>
 (b6S = true →
 TG (x0.fnamed = false) (a4q a1b a5b) false a5b (fun (a1x : Bool) (a8c : Hp) =>
 J3 a0x a1b a8c (fun (a5c : Bool) (a6o : Hp) =>
 ((!a5c) = true →
 (a0x.length + ([a1b] : List ByteArray).length) * 17 ≤ 140737488355328 ∧
 t6 (IntKind.wrap .i64 (x0.fnodes + 1)) (if x2 > x0.fdepth then x2 else x0.fdepth) x0.fe (x0.fform || (!q7)) (x0.fnamed || (!a1x)) (a0x ++ [a1b]) a6o K) ∧
 ((!a5c) = false →
 t6 (IntKind.wrap .i64 (x0.fnodes + 1)) (if x2 > x0.fdepth then x2 else x0.fdepth) x0.fe (x0.fform || (!q7)) (x0.fnamed || (!a1x)) a0x a6o K)))) ∧
 (b6S = false →
 t6 (IntKind.wrap .i64 (x0.fnodes + 1)) (if x2 > x0.fdepth then x2 else x0.fdepth) x0.fe (x0.fform || (!q7)) x0.fnamed a0x a5b K)))) (fun c1g => ?_) (fun c1g => ?_) ?_
   ·replace h := h.1 c1g
    have a8 := c1g
    try simp only [b6 a8]
    refine b3d a3q h (fun q7 b6c m5 c4L b7Z d6n h => ?_)
    exact ⟨q7, b6c, by first | rfl | rw [b6 c1g], c4L, d6n, b7Z, h⟩
   ·exact ⟨false, H, by first | rfl | rw [a5x c1g], a3q, fun _ _ _ => rfl, Hle.refl _, h.2 c1g⟩
   ·clear h
    rintro b7Y m5 ⟨q7, b6c, rfl, c4L, d6n, b7Z, h⟩
    refine a7 (Pu.g fun hb => by have a8 := hb; first | exact (G7 _) | (simp only [b6 a8]; exact (G7 _)) | (simp only [b9 a8, b6 a8, b6 hb, z8 a8, f8]; exact (G7 _))) ?_
    refine a7 (E4 _ _) ?_
    refine a7 (j8 _) ?_
    refine a7 b3D ?_
    refine p7 c4L Tryd.sizeOf4 (vs := [(Value.bool (x0.fform || (!q7)))]) (cs' := [(vi (IntKind.wrap .i64 (x0.fnodes + 1))), (vi (if x2 > x0.fdepth then x2 else x0.fdepth)), (vi x0.fe), (Value.bool (x0.fform || (!q7))), (Value.bool x0.fnamed), (vs Y4)]) rfl rfl (nb rfl) rfl rfl fun a6I c9N g4P => ?_
    have hj1 : ∀ (b0C : Int) (b0D : Int) (b0E : Int) (b0F : Bool) (b0G : Bool) (a9a : (List ByteArray)) (b3X : Sl) (b3Y : Frag) (H : Hp) (w : World) (_ : RowL 9 1 C2 b3X a9a b3Y) (_ : Inv w0 ps0 H0 H [bx g0 92 [(vi b0C), (vi b0D), (vi b0E), (Value.bool b0F), (Value.bool b0G), (vs b3X)], b3Y] w) (_ : t6 b0C b0D b0E b0F b0G a9a H K), c3w w R E := by
     intro b0C b0D b0E b0F b0G a9a b3X b3Y H w d6o I h
     unfold c3w
     intro _
     unfold t6 at h
     exact hR true (g7.mk b0C b0D b0E b0F b0G (Sl.mk none 0 0)) a9a b3X b3Y H _ d6o ((I.bring 1).bring 1) h
    refine m6 fun j1 hx1 => ?_
    refine f6 (cap := []) (fun args w => Tryd.call114 args w) ?_
    refine i6 (Fi := []) (Fr := [bx g0 92 [(vi (IntKind.wrap .i64 (x0.fnodes + 1))), (vi (if x2 > x0.fdepth then x2 else x0.fdepth)), (vi x0.fe), (Value.bool (x0.fform || (!q7))), (Value.bool x0.fnamed), (vs Y4)], a3W]) c9N (h) (fun f1f a5b b5Z a7B b6d c9O f1g c4M => ?_) (fun _ _ _ _ _ q => q.elim)
    obtain ⟨a1b, b6S, rfl, rfl, h⟩ := c4M
    refine a7 (r7 _ _ _ rfl) ?_
    refine a7 (r7 _ _ _ rfl) ?_
    refine k8 (fun b1j => ?_) (fun b1j => ?_)
    ·replace h := h.1 b1j
     refine a7 (j8 _) ?_
     refine a7 b3E ?_
     refine c5 (ld1 Tryd.isAgg4 (b6d.at1 (o := 4) (vs := [(Value.bool x0.fnamed)]) (nb rfl) rfl)) ?_
     try simp only [m1]
     refine a2j (D := fun c9P w8 => ∃ (a1x : Bool) (a8c : Hp) , c9P = (gv x0.fnamed false (Value.bool a1x)) ∧ (Inv w0 ps0 H0 a8c [bx g0 92 [(vi (IntKind.wrap .i64 (x0.fnodes + 1))), (vi (if x2 > x0.fdepth then x2 else x0.fdepth)), (vi x0.fe), (Value.bool (x0.fform || (!q7))), (Value.bool x0.fnamed), (vs Y4)], a3W] w8) ∧ (∀ i, i < a7B.heap.size → ¬ inF [] i → w8.heap[i]? = a7B.heap[i]?) ∧ Hle a5b a8c ∧ (J3 a0x a1b a8c (fun (a5c : Bool) (a6o : Hp) =>
 ((!a5c) = true →
 (a0x.length + ([a1b] : List ByteArray).length) * 17 ≤ 140737488355328 ∧
 t6 (IntKind.wrap .i64 (x0.fnodes + 1)) (if x2 > x0.fdepth then x2 else x0.fdepth) x0.fe (x0.fform || (!q7)) (x0.fnamed || (!a1x)) (a0x ++ [a1b]) a6o K) ∧
 ((!a5c) = false →
 t6 (IntKind.wrap .i64 (x0.fnodes + 1)) (if x2 > x0.fdepth then x2 else x0.fdepth) x0.fe (x0.fform || (!q7)) (x0.fnamed || (!a1x)) a0x a6o K)))) (fun a6P => ?_) (fun a6P => ?_) ?_
     ·replace h := h.1 a6P
      have a8 := a6P
      try simp only [b6 a8]
      refine f6 (cap := []) (fun args w => Tryd.call115 args w) ?_
      refine i6 (Fi := []) (Fr := [bx g0 92 [(vi (IntKind.wrap .i64 (x0.fnodes + 1))), (vi (if x2 > x0.fdepth then x2 else x0.fdepth)), (vi x0.fe), (Value.bool (x0.fform || (!q7))), (Value.bool x0.fnamed), (vs Y4)], a3W]) b6d (h) (fun c9P a8c g4Q w8 b8a b8b d6p d6q => ?_) (fun _ _ _ _ _ q => q.elim)
      obtain ⟨a1x, rfl, rfl, h⟩ := d6q
      exact ⟨a1x, a8c, by first | rfl | rw [b6 a6P], b8a, d6p, b8b, h⟩
     ·exact ⟨false, a5b, by first | rfl | rw [a5x a6P], b6d, fun _ _ _ => rfl, Hle.refl _, h.2 a6P⟩
     ·clear h
      rintro c9P w8 ⟨a1x, a8c, rfl, b8a, d6p, b8b, h⟩
      refine a7 (Pu.g fun hb => by have a8 := hb; first | exact (G7 _) | (simp only [b6 a8]; exact (G7 _)) | (simp only [b9 a8, b6 a8, b6 hb, z8 a8, f8]; exact (G7 _))) ?_
      refine a7 (E4 _ _) ?_
      refine a7 (j8 _) ?_
      refine a7 b3E ?_
      refine p7 b8a Tryd.sizeOf4 (vs := [(Value.bool (x0.fnamed || (!a1x)))]) (cs' := [(vi (IntKind.wrap .i64 (x0.fnodes + 1))), (vi (if x2 > x0.fdepth then x2 else x0.fdepth)), (vi x0.fe), (Value.bool (x0.fform || (!q7))), (Value.bool (x0.fnamed || (!a1x))), (vs Y4)]) rfl rfl (nb rfl) rfl rfl fun B8 c9Q g4R => ?_
      refine a7 (j8 _) ?_
      refine a7 b3C ?_
      refine c5 (ld1 Tryd.isAgg47 (c9Q.at1 (o := 5) (vs := [(vs Y4)]) (nb rfl) rfl)) ?_
      refine f6 (cap := []) (fun args w => Tryd.call116 args w) ?_
      refine i6 (Fi := [a3W]) (Fr := [bx g0 92 [(vi (IntKind.wrap .i64 (x0.fnodes + 1))), (vi (if x2 > x0.fdepth then x2 else x0.fdepth)), (vi x0.fe), (Value.bool (x0.fform || (!q7))), (Value.bool (x0.fnamed || (!a1x))), (vs Y4)]]) (c9Q.bring 1) (h Y4 a3W b2j) (fun g4S a6o g4T B9 b3Z g4U f1h d6r => ?_) (fun _ _ _ _ _ q => q.elim)
      obtain ⟨a5c, rfl, rfl, h⟩ := d6r
      refine a7 (G7 _) ?_
      refine k8 (fun b8c => ?_) (fun b8c => ?_)
      ·replace h := h.1 b8c
       refine a7 (j8 _) ?_
       refine a7 b3C ?_
       refine c5 (ld1 Tryd.isAgg47 ((b3Z.bring 1).at1 (o := 5) (vs := [(vs Y4)]) (nb rfl) rfl)) ?_
       refine a5y (e := 9) (c := C2) (xs := [a1b]) b3Z (e0Q _) rfl rfl b7t b7u (nb rfl) fun h1g h1h b7H b8d f1i h1i => ?_
       obtain ⟨c9R, h⟩ := h
       refine e4P (s := Y4) (xs := a0x) (f1i.bring 1) b2j (b8d.srcO ((f1i.bring 1).bring 1)) c9R fun d6s g4V b0M b4a g4W h1j => ?_
       refine a7 (j8 _) ?_
       refine a7 b3C ?_
       refine p7 ((g4W.bring 1).drop.bring 1) Tryd.sizeOf47 (vs := [(vs d6s)]) (cs' := [(vi (IntKind.wrap .i64 (x0.fnodes + 1))), (vi (if x2 > x0.fdepth then x2 else x0.fdepth)), (vi x0.fe), (Value.bool (x0.fform || (!q7))), (Value.bool (x0.fnamed || (!a1x))), (vs d6s)]) rfl rfl (nb rfl) rfl rfl fun Q4 g4X h1k => ?_
       exact hx1 _ _ (hj1 (IntKind.wrap .i64 (x0.fnodes + 1)) (if x2 > x0.fdepth then x2 else x0.fdepth) x0.fe (x0.fform || (!q7)) (x0.fnamed || (!a1x)) (a0x ++ [a1b]) d6s g4V a6o _ b4a ((g4X.bring 1).bring 1) h)
      ·replace h := h.2 b8c
       exact hx1 _ _ (hj1 (IntKind.wrap .i64 (x0.fnodes + 1)) (if x2 > x0.fdepth then x2 else x0.fdepth) x0.fe (x0.fform || (!q7)) (x0.fnamed || (!a1x)) a0x Y4 a3W a6o _ b2j (b3Z.bring 1) h)
    ·replace h := h.2 b1j
     exact hx1 _ _ (hj1 (IntKind.wrap .i64 (x0.fnodes + 1)) (if x2 > x0.fdepth then x2 else x0.fdepth) x0.fe (x0.fform || (!q7)) x0.fnamed a0x Y4 a3W a5b _ b2j ((b6d.bring 1).bring 1) h)
theorem a9O (x0 : g7) (a0x : (List ByteArray)) (x1 : c8) (x2 : Int) {H : Hp} {K : Bool → g7 → (List ByteArray) → Hp → Prop} (h : Z8 x0 a0x x1 x2 H K) : a2D x0 a0x x1 x2 H K := by
 intro g0 Y4 a3W b2j w I
 refine e6W ?_
 refine a9A x0 a0x x1 x2 g0 Y4 a3W b2j I (fun r0 y0 a6J a4T a4U H' w' c4N I' hk => ⟨H', _, I', r0, y0, a6J, a4T, a4U, rfl, rfl, c4N, hk⟩) h
def O0 (g4Y : Int) (cr_1l1 : k6) (a6Q : Int) (a3Y : b8) (H : Hp) (n1 : (Int × b8) → Hp → Prop) (K : b8 → Hp → Prop) : Prop :=
 (((decide (a6Q < (cr_1l1.o8.n : Int))) && (decide (a3Y.fbad = 0))) = true →
 (0 : Int) ≤ a6Q ∧ (a6Q : Int) < cr_1l1.o8.n ∧ ∃ c9S : k6, EltH H cr_1l1.o8 a6Q 4 (d9 c9S) ∧
 M1 a3Y c9S (IntKind.wrap .i64 (g4Y + 1)) H (fun (c9T : b8) (b8e : Hp) =>
 n1 ((IntKind.wrap .i64 (a6Q + 1)), c9T) b8e)) ∧
 (((decide (a6Q < (cr_1l1.o8.n : Int))) && (decide (a3Y.fbad = 0))) = false →
 K a3Y H)
def T0 (x0 : b8) (x1 : k6) (x2 : Int) (H : Hp) (K : b8 → Hp → Prop) : Prop :=
 G5 x0 x2 H (fun (o9 : Bool) (G6 : b8) (H_6 : Hp) =>
 ((!o9) = true →
 K G6 H_6) ∧
 ((!o9) = false →
 TL ((0, G6) : Int × b8) H_6 fun (s : Int × b8) H n1 => O0 x2 x1 s.1 s.2 H n1 K))
theorem a8d (x0 : b8) (x1 : k6) (x2 : Int) (g0 : Nat) {w0 w : World} {ps0 : Nat → Prop} {H0 H : Hp} {K : b8 → Hp → Prop} {R : Value → World → Prop} {E : Pan} (I : Inv w0 ps0 H0 H [bx g0 99 (d5 x0)] w) (hR : ∀ (y0 : b8) (H' : Hp) (w' : World) (_ : Inv w0 ps0 H0 H' [bx g0 99 (d5 y0)] w') (_ : K y0 H'), R (Value.tuple #[]) w') (h : T0 x0 x1 x2 H K) : F58 (Value.pointer (some ⟨g0, 0, none⟩)) (Value.agg (d9 x1).toArray) (vi x2) w R E := by
 unfold T0 at h
 unfold F58
 refine J4 I (cs := (d9 x1)) rfl fun g_2 w_3 I_4 k_5 => ?_
 refine f6 (cap := []) (fun args w => Tryd.call91 args w) ?_
 refine i6 (Fi := [bx g0 99 (d5 x0)]) (Fr := [bx g_2 30 (d9 x1)]) (I_4.bring 1) (h g0) (fun a5D H_6 a5E w_7 I_8 a4J k_9 R3 => ?_) (fun _ _ _ _ _ q => q.elim)
 obtain ⟨o9, G6, rfl, rfl, h⟩ := R3
 refine a7 (G7 _) ?_
 refine k8 (fun b8f => ?_) (fun b8f => ?_)
 ·replace h := h.1 b8f
  exact hR G6 H_6 _ (I_8.bring 1).drop h
 ·replace h := h.2 b8f
  obtain ⟨b8g, b1k, d6t, d6u⟩ := h
  refine p9 (J := fun n l w => ∃ (s : Int × b8) (H : Hp) , n = b1k s ∧ l = (match s with | (a6Q, a3Y) => [(vi a6Q)]) ∧ (match s with | (a6Q, a3Y) => Inv w0 ps0 H0 H [bx g0 99 (d5 a3Y), bx g_2 30 (d9 x1)] w) ∧ b8g s H) ⟨_, (0, G6), H_6, rfl, rfl, ((I_8.bring 1).bring 1), d6t⟩ ?_
  rintro g4Z τ_62 w next1 ⟨⟨a6Q, a3Y⟩, H, rfl, b6e, I, d6v⟩ hn1
  dsimp only at b6e I
  simp only [List.map_cons, List.map_nil, List.cons.injEq, and_true] at b6e
  have e6 := b6e
  simp only [e6]
  obtain ⟨n1, hm1, h⟩ : ∃ n1 : (Int × b8) → Hp → Prop, (∀ s' H', n1 s' H' → b8g s' H' ∧ b1k s' < b1k (a6Q, a3Y)) ∧ O0 x2 x1 a6Q a3Y H n1 K := ⟨_, fun _ _ h => h, d6u (a6Q, a3Y) H (fun s' H' => b8g s' H' ∧ b1k s' < b1k (a6Q, a3Y)) d6v (fun _ _ a b => ⟨a, b⟩)⟩
  unfold d3w
  unfold O0 at h
  refine a7 R6 ?_
  refine c5 (ld1 Tryd.isAgg28 ((I.bring 1).at1 (o := 3) (vs := [(vs x1.o8)]) (nb rfl) rfl)) ?_
  refine a7 (v8 _ _ _) ?_
  refine a7 (o2 _ _ _ _ _ _) ?_
  try simp only [m1]
  refine a7 (Pu.g fun hb => by have a8 := hb; first | exact (j8 _) | (simp only [b6 a8]; exact (j8 _)) | (simp only [b9 a8, b6 a8, b6 hb, d8 a8, f8]; exact (j8 _))) ?_
  refine a7 (Pu.g fun hb => by have a8 := hb; first | exact s7 | (simp only [b6 a8]; exact s7) | (simp only [b9 a8, b6 a8, b6 hb, d8 a8, f8]; exact s7)) ?_
  refine c5 (Ld.g fun hb => by have a8 := hb; first | exact (ld1 Tryd.isAgg3 (I.at1 (o := 2) (vs := [(vi a3Y.fbad)]) (nb rfl) rfl)) | (simp only [b6 a8]; exact (ld1 Tryd.isAgg3 (I.at1 (o := 2) (vs := [(vi a3Y.fbad)]) (nb rfl) rfl))) | (simp only [b9 a8, b6 a8, b6 hb, d8 a8, f8]; exact (ld1 Tryd.isAgg3 (I.at1 (o := 2) (vs := [(vi a3Y.fbad)]) (nb rfl) rfl)))) ?_
  refine a7 (Pu.g fun hb => by have a8 := hb; first | exact (d4 _ _ _ _ _ _) | (simp only [b6 a8]; exact (d4 _ _ _ _ _ _)) | (simp only [b9 a8, b6 a8, b6 hb, d8 a8, f8]; exact (d4 _ _ _ _ _ _))) ?_
  refine a7 (m3 _ _) ?_
  refine k8 (fun b8h => ?_) (fun b8h => ?_)
  ·replace h := h.1 b8h
   refine a7 R6 ?_
   refine c5 (ld1 Tryd.isAgg28 ((I.bring 1).at1 (o := 3) (vs := [(vs x1.o8)]) (nb rfl) rfl)) ?_
   obtain ⟨b3Q, d6w, c9S, b4b, h⟩ := h
   obtain ⟨h1l, h1m, d6x, b4b⟩ := b4b
   refine a7 (a1M d6x _ _ _ _ b3Q d6w) ?_
   refine c5 (ldA (vs := (d9 c9S)) Tryd.isAgg30 Tryd.sizeOf30 rfl (I.atH b4b)) ?_
   refine a7 (m4 _ _ _ _ _ _) ?_
   refine f6 (cap := []) (fun args w => Tryd.call58 args w) ?_
   refine i6 (Fi := [bx g0 99 (d5 a3Y)]) (Fr := [bx g_2 30 (d9 x1)]) I (h g0) (fun g5a b8e f1j E6 c4O c4P f1k d6y => ?_) (fun _ _ _ _ _ q => q.elim)
   obtain ⟨c9T, rfl, rfl, h⟩ := d6y
   refine a7 (m4 _ _ _ _ _ _) ?_
   exact hn1 _ _ _ (hm1 _ _ h).2 ⟨((IntKind.wrap .i64 (a6Q + 1)), c9T), b8e, rfl, rfl, ((c4O.bring 1).bring 1), (hm1 _ _ h).1⟩
  ·replace h := h.2 b8h
   exact hR a3Y H _ (I.bring 1).drop h
theorem a8D (x0 : b8) (x1 : k6) (x2 : Int) {H : Hp} {K : b8 → Hp → Prop} (h : T0 x0 x1 x2 H K) : M1 x0 x1 x2 H K := by
 intro g0 w I
 refine e5q ?_
 refine a8d x0 x1 x2 g0 I (fun y0 H' w' I' hk => ⟨H', _, I', y0, rfl, rfl, hk⟩) h
def O1 (g5b : Int) (cr_1l4 : i5) (a5a : Int) (K9 : b8) (H : Hp) (n4 : (Int × b8) → Hp → Prop) (K : b8 → Hp → Prop) : Prop :=
 (((decide (a5a < (cr_1l4.q8.n : Int))) && (decide (K9.fbad = 0))) = true →
 (0 : Int) ≤ a5a ∧ (a5a : Int) < cr_1l4.q8.n ∧ ∃ c9U : i5, EltH H cr_1l4.q8 a5a 6 (d6 c9U) ∧
 M2 K9 c9U (IntKind.wrap .i64 (g5b + 1)) H (fun (c4Q : b8) (d6z : Hp) =>
 n4 ((IntKind.wrap .i64 (a5a + 1)), c4Q) d6z)) ∧
 (((decide (a5a < (cr_1l4.q8.n : Int))) && (decide (K9.fbad = 0))) = false →
 K K9 H)
def O2 (g5c : Int) (a0G : b8) (cr_1j3 : i5) (H : Hp) (K : b8 → Hp → Prop) : Prop :=
 TL ((0, a0G) : Int × b8) H fun (s : Int × b8) H n4 => O1 g5c cr_1j3 s.1 s.2 H n4 K
def O3 (f1l : Int) (cr_1l5 : i5) (a6R : Int) (A0 : b8) (H : Hp) (n5 : (Int × b8) → Hp → Prop) (K : b8 → Hp → Prop) : Prop :=
 (((decide (a6R < (cr_1l5.s6.n : Int))) && (decide (A0.fbad = 0))) = true →
 (0 : Int) ≤ a6R ∧ (a6R : Int) < cr_1l5.s6.n ∧ ∃ c2y : i5, EltH H cr_1l5.s6 a6R 6 (d6 c2y) ∧
 M2 A0 c2y (IntKind.wrap .i64 (f1l + 1)) H (fun (b9H : b8) (b4c : Hp) =>
 n5 ((IntKind.wrap .i64 (a6R + 1)), b9H) b4c)) ∧
 (((decide (a6R < (cr_1l5.s6.n : Int))) && (decide (A0.fbad = 0))) = false →
 O2 f1l A0 cr_1l5 H K)
def O4 (g5d : Int) (a4u : b8) (cr_1j2 : i5) (H : Hp) (K : b8 → Hp → Prop) : Prop :=
 TL ((0, a4u) : Int × b8) H fun (s : Int × b8) H n5 => O3 g5d cr_1j2 s.1 s.2 H n5 K
def O5 (f1m : Int) (cr_1l6 : i5) (a6S : Int) (L0 : b8) (H : Hp) (n6 : (Int × b8) → Hp → Prop) (K : b8 → Hp → Prop) : Prop :=
 (((decide (a6S < (cr_1l6.d7.n : Int))) && (decide (L0.fbad = 0))) = true →
 (0 : Int) ≤ a6S ∧ (a6S : Int) < cr_1l6.d7.n ∧ ∃ c2z : k6, EltH H cr_1l6.d7 a6S 4 (d9 c2z) ∧
 M1 L0 c2z (IntKind.wrap .i64 (f1m + 1)) H (fun (c4R : b8) (c9V : Hp) =>
 n6 ((IntKind.wrap .i64 (a6S + 1)), c4R) c9V)) ∧
 (((decide (a6S < (cr_1l6.d7.n : Int))) && (decide (L0.fbad = 0))) = false →
 O4 f1m L0 cr_1l6 H K)
def O6 (b2H : Int) (F0 : b8) (cr_1j1 : i5) (H : Hp) (K : b8 → Hp → Prop) : Prop :=
 TL ((0, F0) : Int × b8) H fun (s : Int × b8) H n6 => O5 b2H cr_1j1 s.1 s.2 H n6 K
def O7 (f1n : Int) (cr_1l7 : i5) (a6T : Int) (L1 : b8) (H : Hp) (n7 : (Int × b8) → Hp → Prop) (K : b8 → Hp → Prop) : Prop :=
 (((decide (a6T < (cr_1l7.i4.n : Int))) && (decide (L1.fbad = 0))) = true →
 (0 : Int) ≤ a6T ∧ (a6T : Int) < cr_1l7.i4.n ∧ ∃ c2A : k3, EltH H cr_1l7.i4 a6T 4 (f5 c2A) ∧
 S8 L1 c2A (IntKind.wrap .i64 (f1n + 1)) H (fun (c4S : b8) (c9W : Hp) =>
 n7 ((IntKind.wrap .i64 (a6T + 1)), c4S) c9W)) ∧
 (((decide (a6T < (cr_1l7.i4.n : Int))) && (decide (L1.fbad = 0))) = false →
 O6 f1n L1 cr_1l7 H K)
def T1 (x0 : b8) (x1 : i5) (x2 : Int) (H : Hp) (K : b8 → Hp → Prop) : Prop :=
 G5 x0 x2 H (fun (o9 : Bool) (G6 : b8) (H_6 : Hp) =>
 ((!o9) = true →
 K G6 H_6) ∧
 ((!o9) = false →
 TL ((0, G6) : Int × b8) H_6 fun (s : Int × b8) H n7 => O7 x2 x1 s.1 s.2 H n7 K))
theorem a8e (x0 : b8) (x1 : i5) (x2 : Int) (g0 : Nat) {w0 w : World} {ps0 : Nat → Prop} {H0 H : Hp} {K : b8 → Hp → Prop} {R : Value → World → Prop} {E : Pan} (I : Inv w0 ps0 H0 H [bx g0 99 (d5 x0)] w) (hR : ∀ (y0 : b8) (H' : Hp) (w' : World) (_ : Inv w0 ps0 H0 H' [bx g0 99 (d5 y0)] w') (_ : K y0 H'), R (Value.tuple #[]) w') (h : T1 x0 x1 x2 H K) : F92 (Value.pointer (some ⟨g0, 0, none⟩)) (Value.agg (d6 x1).toArray) (vi x2) w R E := by
 unfold T1 at h
 unfold F92
 refine J4 I (cs := (d6 x1)) rfl fun g_2 w_3 I_4 k_5 => ?_
 refine f6 (cap := []) (fun args w => Tryd.call91 args w) ?_
 refine i6 (Fi := [bx g0 99 (d5 x0)]) (Fr := [bx g_2 88 (d6 x1)]) (I_4.bring 1) (h g0) (fun a5D H_6 a5E w_7 I_8 a4J k_9 R3 => ?_) (fun _ _ _ _ _ q => q.elim)
 obtain ⟨o9, G6, rfl, rfl, h⟩ := R3
 refine a7 (G7 _) ?_
 refine k8 (fun c9X => ?_) (fun c9X => ?_)
 ·replace h := h.1 c9X
  exact hR G6 H_6 _ (I_8.bring 1).drop h
 ·replace h := h.2 c9X
  have hj1 : ∀ (F0 : b8) (H : Hp) (w : World) (_ : Inv w0 ps0 H0 H [bx g0 99 (d5 F0), bx g_2 88 (d6 x1)] w) (_ : O6 x2 F0 x1 H K), c3J (Value.pointer (some ⟨g0, 0, none⟩)) (vi x2) (Value.pointer (some ⟨g_2, 0, none⟩)) w R E := by
   intro F0 H w I h
   unfold c3J
   intro _
   unfold O6 at h
   have hj2 : ∀ (a4u : b8) (H : Hp) (w : World) (_ : Inv w0 ps0 H0 H [bx g0 99 (d5 a4u), bx g_2 88 (d6 x1)] w) (_ : O4 x2 a4u x1 H K), c3H (Value.pointer (some ⟨g0, 0, none⟩)) (vi x2) (Value.pointer (some ⟨g_2, 0, none⟩)) w R E := by
    intro a4u H w I h
    unfold c3H
    intro _
    unfold O4 at h
    have hj3 : ∀ (a0G : b8) (H : Hp) (w : World) (_ : Inv w0 ps0 H0 H [bx g0 99 (d5 a0G), bx g_2 88 (d6 x1)] w) (_ : O2 x2 a0G x1 H K), c3G (Value.pointer (some ⟨g0, 0, none⟩)) (vi x2) (Value.pointer (some ⟨g_2, 0, none⟩)) w R E := by
     intro a0G H w I h
     unfold c3G
     intro _
     unfold O2 at h
     obtain ⟨c9Y, b9I, g0i, g0j⟩ := h
     refine p9 (J := fun n l w => ∃ (s : Int × b8) (H : Hp) , n = b9I s ∧ l = (match s with | (a5a, K9) => [(vi a5a)]) ∧ (match s with | (a5a, K9) => Inv w0 ps0 H0 H [bx g0 99 (d5 K9), bx g_2 88 (d6 x1)] w) ∧ c9Y s H) ⟨_, (0, a0G), H, rfl, rfl, ((I.bring 1).bring 1), g0i⟩ ?_
     rintro g8q τ_110 w next4 ⟨⟨a5a, K9⟩, H, rfl, b9J, I, g0k⟩ hn4
     dsimp only at b9J I
     simp only [List.map_cons, List.map_nil, List.cons.injEq, and_true] at b9J
     have e9 := b9J
     simp only [e9]
     obtain ⟨n4, hm4, h⟩ : ∃ n4 : (Int × b8) → Hp → Prop, (∀ s' H', n4 s' H' → c9Y s' H' ∧ b9I s' < b9I (a5a, K9)) ∧ O1 x2 x1 a5a K9 H n4 K := ⟨_, fun _ _ h => h, g0j (a5a, K9) H (fun s' H' => c9Y s' H' ∧ b9I s' < b9I (a5a, K9)) g0k (fun _ _ a b => ⟨a, b⟩)⟩
     unfold d3D
     unfold O1 at h
     refine a7 M9 ?_
     refine c5 (ld1 Tryd.isAgg23 ((I.bring 1).at1 (o := 5) (vs := [(vs x1.q8)]) (nb rfl) rfl)) ?_
     refine a7 (D6 _ _ _) ?_
     refine a7 (o2 _ _ _ _ _ _) ?_
     try simp only [m1]
     refine a7 (Pu.g fun hb => by have a8 := hb; first | exact (j8 _) | (simp only [b6 a8]; exact (j8 _)) | (simp only [b9 a8, b6 a8, b6 hb, d8 a8, f8]; exact (j8 _))) ?_
     refine a7 (Pu.g fun hb => by have a8 := hb; first | exact s7 | (simp only [b6 a8]; exact s7) | (simp only [b9 a8, b6 a8, b6 hb, d8 a8, f8]; exact s7)) ?_
     refine c5 (Ld.g fun hb => by have a8 := hb; first | exact (ld1 Tryd.isAgg3 (I.at1 (o := 2) (vs := [(vi K9.fbad)]) (nb rfl) rfl)) | (simp only [b6 a8]; exact (ld1 Tryd.isAgg3 (I.at1 (o := 2) (vs := [(vi K9.fbad)]) (nb rfl) rfl))) | (simp only [b9 a8, b6 a8, b6 hb, d8 a8, f8]; exact (ld1 Tryd.isAgg3 (I.at1 (o := 2) (vs := [(vi K9.fbad)]) (nb rfl) rfl)))) ?_
     refine a7 (Pu.g fun hb => by have a8 := hb; first | exact (d4 _ _ _ _ _ _) | (simp only [b6 a8]; exact (d4 _ _ _ _ _ _)) | (simp only [b9 a8, b6 a8, b6 hb, d8 a8, f8]; exact (d4 _ _ _ _ _ _))) ?_
     refine a7 (m3 _ _) ?_
     refine k8 (fun c9Z => ?_) (fun c9Z => ?_)
     ·replace h := h.1 c9Z
      refine a7 M9 ?_
      refine c5 (ld1 Tryd.isAgg23 ((I.bring 1).at1 (o := 5) (vs := [(vs x1.q8)]) (nb rfl) rfl)) ?_
      obtain ⟨g5e, g5f, c9U, b8i, h⟩ := h
      obtain ⟨h1n, h1o, d6A, b8i⟩ := b8i
      refine a7 (a4O d6A _ _ _ _ g5e g5f) ?_
      refine c5 (ldA (vs := (d6 c9U)) Tryd.isAgg88 Tryd.sizeOf88 rfl (I.atH b8i)) ?_
      refine a7 (m4 _ _ _ _ _ _) ?_
      refine f6 (cap := []) (fun args w => Tryd.call92 args w) ?_
      refine i6 (Fi := [bx g0 99 (d5 K9)]) (Fr := [bx g_2 88 (d6 x1)]) I (h g0) (fun h1p d6z g8r a2L g5g g8s h1q g0l => ?_) (fun _ _ _ _ _ q => q.elim)
      obtain ⟨c4Q, rfl, rfl, h⟩ := g0l
      refine a7 (m4 _ _ _ _ _ _) ?_
      exact hn4 _ _ _ (hm4 _ _ h).2 ⟨((IntKind.wrap .i64 (a5a + 1)), c4Q), d6z, rfl, rfl, ((g5g.bring 1).bring 1), (hm4 _ _ h).1⟩
     ·replace h := h.2 c9Z
      exact hR K9 H _ (I.bring 1).drop h
    refine m6 fun j3 hx3 => ?_
    obtain ⟨b4d, a8f, d0a, d0b⟩ := h
    refine p9 (J := fun n l w => ∃ (s : Int × b8) (H : Hp) , n = a8f s ∧ l = (match s with | (a6R, A0) => [(vi a6R)]) ∧ (match s with | (a6R, A0) => Inv w0 ps0 H0 H [bx g0 99 (d5 A0), bx g_2 88 (d6 x1)] w) ∧ b4d s H) ⟨_, (0, a4u), H, rfl, rfl, ((I.bring 1).bring 1), d0a⟩ ?_
    rintro g0m τ_144 w next5 ⟨⟨a6R, A0⟩, H, rfl, b4e, I, d0c⟩ hn5
    dsimp only at b4e I
    simp only [List.map_cons, List.map_nil, List.cons.injEq, and_true] at b4e
    have e8 := b4e
    simp only [e8]
    obtain ⟨n5, hm5, h⟩ : ∃ n5 : (Int × b8) → Hp → Prop, (∀ s' H', n5 s' H' → b4d s' H' ∧ a8f s' < a8f (a6R, A0)) ∧ O3 x2 x1 a6R A0 H n5 K := ⟨_, fun _ _ h => h, d0b (a6R, A0) H (fun s' H' => b4d s' H' ∧ a8f s' < a8f (a6R, A0)) d0c (fun _ _ a b => ⟨a, b⟩)⟩
    unfold d3E
    unfold O3 at h
    refine a7 V8 ?_
    refine c5 (ld1 Tryd.isAgg23 ((I.bring 1).at1 (o := 4) (vs := [(vs x1.s6)]) (nb rfl) rfl)) ?_
    refine a7 (D6 _ _ _) ?_
    refine a7 (o2 _ _ _ _ _ _) ?_
    try simp only [m1]
    refine a7 (Pu.g fun hb => by have a8 := hb; first | exact (j8 _) | (simp only [b6 a8]; exact (j8 _)) | (simp only [b9 a8, b6 a8, b6 hb, d8 a8, f8]; exact (j8 _))) ?_
    refine a7 (Pu.g fun hb => by have a8 := hb; first | exact s7 | (simp only [b6 a8]; exact s7) | (simp only [b9 a8, b6 a8, b6 hb, d8 a8, f8]; exact s7)) ?_
    refine c5 (Ld.g fun hb => by have a8 := hb; first | exact (ld1 Tryd.isAgg3 (I.at1 (o := 2) (vs := [(vi A0.fbad)]) (nb rfl) rfl)) | (simp only [b6 a8]; exact (ld1 Tryd.isAgg3 (I.at1 (o := 2) (vs := [(vi A0.fbad)]) (nb rfl) rfl))) | (simp only [b9 a8, b6 a8, b6 hb, d8 a8, f8]; exact (ld1 Tryd.isAgg3 (I.at1 (o := 2) (vs := [(vi A0.fbad)]) (nb rfl) rfl)))) ?_
    refine a7 (Pu.g fun hb => by have a8 := hb; first | exact (d4 _ _ _ _ _ _) | (simp only [b6 a8]; exact (d4 _ _ _ _ _ _)) | (simp only [b9 a8, b6 a8, b6 hb, d8 a8, f8]; exact (d4 _ _ _ _ _ _))) ?_
    refine a7 (m3 _ _) ?_
    refine k8 (fun b4f => ?_) (fun b4f => ?_)
    ·replace h := h.1 b4f
     refine a7 V8 ?_
     refine c5 (ld1 Tryd.isAgg23 ((I.bring 1).at1 (o := 4) (vs := [(vs x1.s6)]) (nb rfl) rfl)) ?_
     obtain ⟨g0n, g0o, c2y, b9K, h⟩ := h
     obtain ⟨g8t, g8u, g0p, b9K⟩ := b9K
     refine a7 (a4O g0p _ _ _ _ g0n g0o) ?_
     refine c5 (ldA (vs := (d6 c2y)) Tryd.isAgg88 Tryd.sizeOf88 rfl (I.atH b9K)) ?_
     refine a7 (m4 _ _ _ _ _ _) ?_
     refine f6 (cap := []) (fun args w => Tryd.call92 args w) ?_
     refine i6 (Fi := [bx g0 99 (d5 A0)]) (Fr := [bx g_2 88 (d6 x1)]) I (h g0) (fun g0q b4c g0r a7K d0d g0s g0t d0e => ?_) (fun _ _ _ _ _ q => q.elim)
     obtain ⟨b9H, rfl, rfl, h⟩ := d0e
     refine a7 (m4 _ _ _ _ _ _) ?_
     exact hn5 _ _ _ (hm5 _ _ h).2 ⟨((IntKind.wrap .i64 (a6R + 1)), b9H), b4c, rfl, rfl, ((d0d.bring 1).bring 1), (hm5 _ _ h).1⟩
    ·replace h := h.2 b4f
     exact hx3 _ _ (hj3 A0 H _ ((I.bring 1).bring 1) h)
   refine m6 fun j2 hx2 => ?_
   obtain ⟨d0f, b9L, g0u, g0v⟩ := h
   refine p9 (J := fun n l w => ∃ (s : Int × b8) (H : Hp) , n = b9L s ∧ l = (match s with | (a6S, L0) => [(vi a6S)]) ∧ (match s with | (a6S, L0) => Inv w0 ps0 H0 H [bx g0 99 (d5 L0), bx g_2 88 (d6 x1)] w) ∧ d0f s H) ⟨_, (0, F0), H, rfl, rfl, ((I.bring 1).bring 1), g0u⟩ ?_
   rintro g8v τ_178 w next6 ⟨⟨a6S, L0⟩, H, rfl, d0g, I, g0w⟩ hn6
   dsimp only at d0g I
   simp only [List.map_cons, List.map_nil, List.cons.injEq, and_true] at d0g
   have e7 := d0g
   simp only [e7]
   obtain ⟨n6, hm6, h⟩ : ∃ n6 : (Int × b8) → Hp → Prop, (∀ s' H', n6 s' H' → d0f s' H' ∧ b9L s' < b9L (a6S, L0)) ∧ O5 x2 x1 a6S L0 H n6 K := ⟨_, fun _ _ h => h, g0v (a6S, L0) H (fun s' H' => d0f s' H' ∧ b9L s' < b9L (a6S, L0)) g0w (fun _ _ a b => ⟨a, b⟩)⟩
   unfold d3F
   unfold O5 at h
   refine a7 R9 ?_
   refine c5 (ld1 Tryd.isAgg28 ((I.bring 1).at1 (o := 2) (vs := [(vs x1.d7)]) (nb rfl) rfl)) ?_
   refine a7 (v8 _ _ _) ?_
   refine a7 (o2 _ _ _ _ _ _) ?_
   try simp only [m1]
   refine a7 (Pu.g fun hb => by have a8 := hb; first | exact (j8 _) | (simp only [b6 a8]; exact (j8 _)) | (simp only [b9 a8, b6 a8, b6 hb, d8 a8, f8]; exact (j8 _))) ?_
   refine a7 (Pu.g fun hb => by have a8 := hb; first | exact s7 | (simp only [b6 a8]; exact s7) | (simp only [b9 a8, b6 a8, b6 hb, d8 a8, f8]; exact s7)) ?_
   refine c5 (Ld.g fun hb => by have a8 := hb; first | exact (ld1 Tryd.isAgg3 (I.at1 (o := 2) (vs := [(vi L0.fbad)]) (nb rfl) rfl)) | (simp only [b6 a8]; exact (ld1 Tryd.isAgg3 (I.at1 (o := 2) (vs := [(vi L0.fbad)]) (nb rfl) rfl))) | (simp only [b9 a8, b6 a8, b6 hb, d8 a8, f8]; exact (ld1 Tryd.isAgg3 (I.at1 (o := 2) (vs := [(vi L0.fbad)]) (nb rfl) rfl)))) ?_
   refine a7 (Pu.g fun hb => by have a8 := hb; first | exact (d4 _ _ _ _ _ _) | (simp only [b6 a8]; exact (d4 _ _ _ _ _ _)) | (simp only [b9 a8, b6 a8, b6 hb, d8 a8, f8]; exact (d4 _ _ _ _ _ _))) ?_
   refine a7 (m3 _ _) ?_
   refine k8 (fun d0h => ?_) (fun d0h => ?_)
   ·replace h := h.1 d0h
    refine a7 R9 ?_
    refine c5 (ld1 Tryd.isAgg28 ((I.bring 1).at1 (o := 2) (vs := [(vs x1.d7)]) (nb rfl) rfl)) ?_
    obtain ⟨g0x, g0y, c2z, b9M, h⟩ := h
    obtain ⟨g8w, g8x, g0z, b9M⟩ := b9M
    refine a7 (a1M g0z _ _ _ _ g0x g0y) ?_
    refine c5 (ldA (vs := (d9 c2z)) Tryd.isAgg30 Tryd.sizeOf30 rfl (I.atH b9M)) ?_
    refine a7 (m4 _ _ _ _ _ _) ?_
    refine f6 (cap := []) (fun args w => Tryd.call58 args w) ?_
    refine i6 (Fi := [bx g0 99 (d5 L0)]) (Fr := [bx g_2 88 (d6 x1)]) I (h g0) (fun g8y c9V g8z d9L g0A g8A g8B g0B => ?_) (fun _ _ _ _ _ q => q.elim)
    obtain ⟨c4R, rfl, rfl, h⟩ := g0B
    refine a7 (m4 _ _ _ _ _ _) ?_
    exact hn6 _ _ _ (hm6 _ _ h).2 ⟨((IntKind.wrap .i64 (a6S + 1)), c4R), c9V, rfl, rfl, ((g0A.bring 1).bring 1), (hm6 _ _ h).1⟩
   ·replace h := h.2 d0h
    exact hx2 _ _ (hj2 L0 H _ ((I.bring 1).bring 1) h)
  refine m6 fun j1 hx1 => ?_
  obtain ⟨d0i, b9N, g0C, g0D⟩ := h
  refine p9 (J := fun n l w => ∃ (s : Int × b8) (H : Hp) , n = b9N s ∧ l = (match s with | (a6T, L1) => [(vi a6T)]) ∧ (match s with | (a6T, L1) => Inv w0 ps0 H0 H [bx g0 99 (d5 L1), bx g_2 88 (d6 x1)] w) ∧ d0i s H) ⟨_, (0, G6), H_6, rfl, rfl, ((I_8.bring 1).bring 1), g0C⟩ ?_
  rintro g8C τ_212 w next7 ⟨⟨a6T, L1⟩, H, rfl, d0j, I, g0E⟩ hn7
  dsimp only at d0j I
  simp only [List.map_cons, List.map_nil, List.cons.injEq, and_true] at d0j
  have e6 := d0j
  simp only [e6]
  obtain ⟨n7, hm7, h⟩ : ∃ n7 : (Int × b8) → Hp → Prop, (∀ s' H', n7 s' H' → d0i s' H' ∧ b9N s' < b9N (a6T, L1)) ∧ O7 x2 x1 a6T L1 H n7 K := ⟨_, fun _ _ h => h, g0D (a6T, L1) H (fun s' H' => d0i s' H' ∧ b9N s' < b9N (a6T, L1)) g0E (fun _ _ a b => ⟨a, b⟩)⟩
  unfold d3G
  unfold O7 at h
  refine a7 S1 ?_
  refine c5 (ld1 Tryd.isAgg31 ((I.bring 1).at1 (o := 3) (vs := [(vs x1.i4)]) (nb rfl) rfl)) ?_
  refine a7 (H8 _ _ _) ?_
  refine a7 (o2 _ _ _ _ _ _) ?_
  try simp only [m1]
  refine a7 (Pu.g fun hb => by have a8 := hb; first | exact (j8 _) | (simp only [b6 a8]; exact (j8 _)) | (simp only [b9 a8, b6 a8, b6 hb, d8 a8, f8]; exact (j8 _))) ?_
  refine a7 (Pu.g fun hb => by have a8 := hb; first | exact s7 | (simp only [b6 a8]; exact s7) | (simp only [b9 a8, b6 a8, b6 hb, d8 a8, f8]; exact s7)) ?_
  refine c5 (Ld.g fun hb => by have a8 := hb; first | exact (ld1 Tryd.isAgg3 (I.at1 (o := 2) (vs := [(vi L1.fbad)]) (nb rfl) rfl)) | (simp only [b6 a8]; exact (ld1 Tryd.isAgg3 (I.at1 (o := 2) (vs := [(vi L1.fbad)]) (nb rfl) rfl))) | (simp only [b9 a8, b6 a8, b6 hb, d8 a8, f8]; exact (ld1 Tryd.isAgg3 (I.at1 (o := 2) (vs := [(vi L1.fbad)]) (nb rfl) rfl)))) ?_
  refine a7 (Pu.g fun hb => by have a8 := hb; first | exact (d4 _ _ _ _ _ _) | (simp only [b6 a8]; exact (d4 _ _ _ _ _ _)) | (simp only [b9 a8, b6 a8, b6 hb, d8 a8, f8]; exact (d4 _ _ _ _ _ _))) ?_
  refine a7 (m3 _ _) ?_
  refine k8 (fun d0k => ?_) (fun d0k => ?_)
  ·replace h := h.1 d0k
   refine a7 S1 ?_
   refine c5 (ld1 Tryd.isAgg31 ((I.bring 1).at1 (o := 3) (vs := [(vs x1.i4)]) (nb rfl) rfl)) ?_
   obtain ⟨g0F, g0G, c2A, b9O, h⟩ := h
   obtain ⟨g8D, g8E, g0H, b9O⟩ := b9O
   refine a7 (a4N g0H _ _ _ _ g0F g0G) ?_
   refine c5 (ldA (vs := (f5 c2A)) Tryd.isAgg33 Tryd.sizeOf33 rfl (I.atH b9O)) ?_
   refine a7 (m4 _ _ _ _ _ _) ?_
   refine f6 (cap := []) (fun args w => Tryd.call61 args w) ?_
   refine i6 (Fi := [bx g0 99 (d5 L1)]) (Fr := [bx g_2 88 (d6 x1)]) I (h g0) (fun g8F c9W g8G d9M g0I g8H g8I g0J => ?_) (fun _ _ _ _ _ q => q.elim)
   obtain ⟨c4S, rfl, rfl, h⟩ := g0J
   refine a7 (m4 _ _ _ _ _ _) ?_
   exact hn7 _ _ _ (hm7 _ _ h).2 ⟨((IntKind.wrap .i64 (a6T + 1)), c4S), c9W, rfl, rfl, ((g0I.bring 1).bring 1), (hm7 _ _ h).1⟩
  ·replace h := h.2 d0k
   exact hx1 _ _ (hj1 L1 H _ ((I.bring 1).bring 1) h)
theorem a8E (x0 : b8) (x1 : i5) (x2 : Int) {H : Hp} {K : b8 → Hp → Prop} (h : T1 x0 x1 x2 H K) : M2 x0 x1 x2 H K := by
 intro g0 w I
 refine e7K ?_
 refine a8e x0 x1 x2 g0 I (fun y0 H' w' I' hk => ⟨H', _, I', y0, rfl, rfl, hk⟩) h
def B0 (g5h : Int) (b6T : Bool) (_cr_1j3 : E5) (H : Hp) (K : Bool → Hp → Prop) : Prop :=
 (b6T = true →
 K (decide (g5h = 2)) H) ∧
 (b6T = false →
 K false H)
def K0 (c1h : Int) (a6c : Int) (b6U : Bool) (cr_1j2 : E5) (H : Hp) (K : Bool → Hp → Prop) : Prop :=
 (b6U = true →
 K (decide (c1h = 1)) H) ∧
 (b6U = false →
 (a6c = 6 →
 B0 c1h (decide (a6c = 6)) cr_1j2 H K) ∧
 (¬ (a6c = 6) →
 (a6c = 7 →
 B0 c1h (decide (a6c = 7)) cr_1j2 H K) ∧
 (¬ (a6c = 7) →
 (a6c = 8 →
 B0 c1h (decide (a6c = 8)) cr_1j2 H K) ∧
 (¬ (a6c = 8) →
 (a6c = 9 →
 B0 c1h (decide (a6c = 9)) cr_1j2 H K) ∧
 (¬ (a6c = 9) →
 B0 c1h (decide (a6c = 10)) cr_1j2 H K)))))
def K1 (W0 : Int) (a6b : Int) (b6V : Bool) (cr_1j1 : E5) (H : Hp) (K : Bool → Hp → Prop) : Prop :=
 (b6V = true →
 K (decide (W0 = 0)) H) ∧
 (b6V = false →
 (a6b = 4 →
 K0 W0 a6b (decide (a6b = 4)) cr_1j1 H K) ∧
 (¬ (a6b = 4) →
 K0 W0 a6b (decide (a6b = 5)) cr_1j1 H K))
def a1y (x0 : E5) (H : Hp) (K : Bool → Hp → Prop) : Prop :=
 a2m (c8.C3 x0) H (fun (_r0_14 : ByteArray) (a5d : Bool) (H_6 : Hp) =>
 ((((!decide (x0.k4.c6 = 1)) && (!decide (x0.k4.J6 = 0))) || ((!a5d) && (!decide (x0.k4.k9 = ⟨#[]⟩)))) = true →
 K false H_6) ∧
 ((((!decide (x0.k4.c6 = 1)) && (!decide (x0.k4.J6 = 0))) || ((!a5d) && (!decide (x0.k4.k9 = ⟨#[]⟩)))) = false →
 (x0.k4.c6 = 1 →
 K ((decide (0 ≤ x0.k4.J6)) && (decide ((x0.k4.o8.n : Int) = 0))) H_6) ∧
 (¬ (x0.k4.c6 = 1) →
 (x0.k4.c6 = 2 →
 K1 (x0.k4.o8.n : Int) x0.k4.c6 (decide (x0.k4.c6 = 2)) x0 H_6 K) ∧
 (¬ (x0.k4.c6 = 2) →
 K1 (x0.k4.o8.n : Int) x0.k4.c6 (decide (x0.k4.c6 = 3)) x0 H_6 K))))
theorem b1l (x0 : E5) {w0 w : World} {ps0 : Nat → Prop} {H0 H : Hp} {K : Bool → Hp → Prop} {R : Value → World → Prop} {E : Pan} (I : Inv w0 ps0 H0 H [] w) (hR : ∀ (r0 : Bool) (H' : Hp) (w' : World) (_ : Inv w0 ps0 H0 H' [] w') (_ : K r0 H'), R (Value.bool r0) w') (h : a1y x0 H K) : c9q (Value.agg (d9 x0.k4).toArray) w R E := by
 unfold a1y at h
 unfold c9q
 refine J4 I (cs := (d9 x0.k4)) rfl fun g_2 w_3 I_4 k_5 => ?_
 refine a7 K6 ?_
 refine a7 R6 ?_
 refine c5 (ld1 Tryd.isAgg28 (I_4.at1 (o := 3) (vs := [(vs x0.k4.o8)]) (nb rfl) rfl)) ?_
 refine a7 (v8 _ _ _) ?_
 refine c5 (ldA Tryd.isAgg96 Tryd.sizeOf96 rfl (I_4.at1 (o := 0) (vs := (d9 x0.k4)) (nb rfl) rfl)) ?_
 refine a7 (b4S x0) ?_
 refine f6 (cap := []) (fun args w => Tryd.call114 args w) ?_
 refine i6 (Fi := []) (Fr := [bx g_2 96 (d9 x0.k4)]) I_4 (h) (fun a5D H_6 a5E w_7 I_8 a4J k_9 R3 => ?_) (fun _ _ _ _ _ q => q.elim)
 obtain ⟨o9, a5d, rfl, rfl, h⟩ := R3
 refine a7 (r7 _ _ _ rfl) ?_
 refine a7 (r7 _ _ _ rfl) ?_
 refine a7 K6 ?_
 refine a7 K5 ?_
 refine c5 (ld1 Tryd.isAgg3 (I_8.at1 (o := 0) (vs := [(vi x0.k4.c6)]) (nb rfl) rfl)) ?_
 refine a7 (F6 _ _ _ _ _ _) ?_
 refine a7 (Pu.g fun hb => by have a8 := hb; first | exact K6 | (simp only [b9 a8, b6 a8, b6 hb, o7 a8]; exact K6) | (simp only [b9 a8, b6 a8, b6 hb, d8 a8, f8]; exact K6)) ?_
 refine a7 (Pu.g fun hb => by have a8 := hb; first | exact V7 | (simp only [b6 a8]; exact V7) | (simp only [b9 a8, b6 a8, b6 hb, d8 a8, f8]; exact V7)) ?_
 refine c5 (Ld.g fun hb => by have a8 := hb; first | exact (ld1 Tryd.isAgg2 (I_8.at1 (o := 1) (vs := [(vi x0.k4.J6)]) (nb rfl) rfl)) | (simp only [b6 a8]; exact (ld1 Tryd.isAgg2 (I_8.at1 (o := 1) (vs := [(vi x0.k4.J6)]) (nb rfl) rfl))) | (simp only [b9 a8, b6 a8, b6 hb, d8 a8, f8]; exact (ld1 Tryd.isAgg2 (I_8.at1 (o := 1) (vs := [(vi x0.k4.J6)]) (nb rfl) rfl)))) ?_
 refine a7 (Pu.g fun hb => by have a8 := hb; first | exact (F6 _ _ _ _ _ _) | (simp only [b6 a8]; exact (F6 _ _ _ _ _ _)) | (simp only [b9 a8, b6 a8, b6 hb, d8 a8, f8]; exact (F6 _ _ _ _ _ _))) ?_
 refine a7 (m3 _ _) ?_
 try simp only [m1]
 refine a7 (Pu.g fun hb => by have a8 := hb; first | exact (G7 _) | (simp only [b6 a8]; exact (G7 _)) | (simp only [b9 a8, b6 a8, b6 hb, z8 a8, f8]; exact (G7 _))) ?_
 try simp only [Q8]
 refine a7 (Pu.e (a3P _ _ _) (Pu.g fun hb => by obtain ⟨a8, i8⟩ := a5W hb; first | exact K6 | (simp only [b9 a8, b6 a8, b9 i8, b6 i8, b6 hb, f8]; exact K6) | (simp only [b9 a8, b6 a8, b9 i8, b6 i8, b6 hb, o7 hb]; exact K6) | (simp only [b9 a8, b6 a8, b9 i8, b6 i8, b6 hb, d8 hb, f8]; exact K6))) ?_
 refine a7 (Pu.e (a3P _ _ _) (Pu.g fun hb => by obtain ⟨a8, i8⟩ := a5W hb; first | exact a3T | (simp only [b6 hb]; exact a3T) | (simp only [b9 a8, b6 a8, b9 i8, b6 i8, b6 hb, o7 hb]; exact a3T) | (simp only [b9 a8, b6 a8, b9 i8, b6 i8, b6 hb, d8 hb, f8]; exact a3T))) ?_
 refine c5 (Ld.e (a3P _ _ _) (Ld.g fun hb => by obtain ⟨a8, i8⟩ := a5W hb; first | exact (ld1 Tryd.isAgg9 (I_8.at1 (o := 2) (vs := [(Value.string x0.k4.k9)]) (nb rfl) rfl)) | (simp only [b6 hb]; exact (ld1 Tryd.isAgg9 (I_8.at1 (o := 2) (vs := [(Value.string x0.k4.k9)]) (nb rfl) rfl))) | (simp only [b9 a8, b6 a8, b9 i8, b6 i8, b6 hb, o7 hb]; exact (ld1 Tryd.isAgg9 (I_8.at1 (o := 2) (vs := [(Value.string x0.k4.k9)]) (nb rfl) rfl))) | (simp only [b9 a8, b6 a8, b9 i8, b6 i8, b6 hb, d8 hb, f8]; exact (ld1 Tryd.isAgg9 (I_8.at1 (o := 2) (vs := [(Value.string x0.k4.k9)]) (nb rfl) rfl))))) ?_
 refine a7 (Pu.e (a3P _ _ _) (Pu.g fun hb => by obtain ⟨a8, i8⟩ := a5W hb; first | exact (b8S _ _ _ _ _) | (simp only [b6 hb]; exact (b8S _ _ _ _ _)) | (simp only [b9 a8, b6 a8, b9 i8, b6 i8, b6 hb, o7 hb]; exact (b8S _ _ _ _ _)) | (simp only [b9 a8, b6 a8, b9 i8, b6 i8, b6 hb, d8 hb, f8]; exact (b8S _ _ _ _ _)))) ?_
 refine a7 (Pu.g fun hb => by have a8 := hb; first | exact (m3 _ _) | (simp only [b6 a8, a5o a8]; exact (m3 _ _)) | (simp only [b9 a8, b6 a8, b6 hb, z8 a8, f8]; exact (m3 _ _))) ?_
 refine a7 (E4 _ _) ?_
 refine k8 (fun b8j => ?_) (fun b8j => ?_)
 ·replace h := h.1 b8j
  exact hR false H_6 _ I_8.drop h
 ·replace h := h.2 b8j
  refine a7 K6 ?_
  refine a7 K5 ?_
  refine c5 (ld1 Tryd.isAgg3 (I_8.at1 (o := 0) (vs := [(vi x0.k4.c6)]) (nb rfl) rfl)) ?_
  refine a7 (d4 _ _ _ _ _ _) ?_
  refine g6 (fun a6U => ?_) (fun a6U => ?_)
  ·replace h := h.1 a6U
   refine a7 K6 ?_
   refine a7 V7 ?_
   refine c5 (ld1 Tryd.isAgg2 (I_8.at1 (o := 1) (vs := [(vi x0.k4.J6)]) (nb rfl) rfl)) ?_
   refine a7 (a0B _ _ _ _ _ _) ?_
   try simp only [m1]
   refine a7 (Pu.g fun hb => by have a8 := hb; first | exact (d4 _ _ _ _ _ _) | (simp only [b6 a8]; exact (d4 _ _ _ _ _ _)) | (simp only [b9 a8, b6 a8, b6 hb, d8 a8, f8]; exact (d4 _ _ _ _ _ _))) ?_
   refine a7 (m3 _ _) ?_
   exact hR ((decide (0 ≤ x0.k4.J6)) && (decide ((x0.k4.o8.n : Int) = 0))) H_6 _ I_8.drop h
  ·replace h := h.2 a6U
   have hj1 : ∀ (b6V : Bool) (H : Hp) (w : World) (_ : Inv w0 ps0 H0 H [bx g_2 96 (d9 x0.k4)] w) (_ : K1 (x0.k4.o8.n : Int) x0.k4.c6 b6V x0 H K), c0X (vi (x0.k4.o8.n : Int)) (vi x0.k4.c6) (Value.bool b6V) w R E := by
    intro b6V H w I h
    unfold c0X
    intro _
    unfold K1 at h
    refine k8 (fun b8k => ?_) (fun b8k => ?_)
    ·replace h := h.1 b8k
     refine a7 (d4 _ _ _ _ _ _) ?_
     exact hR (decide ((x0.k4.o8.n : Int) = 0)) H _ I.drop h
    ·replace h := h.2 b8k
     have hj2 : ∀ (b6U : Bool) (H : Hp) (w : World) (_ : Inv w0 ps0 H0 H [bx g_2 96 (d9 x0.k4)] w) (_ : K0 (x0.k4.o8.n : Int) x0.k4.c6 b6U x0 H K), c0W (vi (x0.k4.o8.n : Int)) (vi x0.k4.c6) (Value.bool b6U) w R E := by
      intro b6U H w I h
      unfold c0W
      intro _
      unfold K0 at h
      refine k8 (fun b1b => ?_) (fun b1b => ?_)
      ·replace h := h.1 b1b
       refine a7 (d4 _ _ _ _ _ _) ?_
       exact hR (decide ((x0.k4.o8.n : Int) = 1)) H _ I.drop h
      ·replace h := h.2 b1b
       have hj3 : ∀ (b6T : Bool) (H : Hp) (w : World) (_ : Inv w0 ps0 H0 H [bx g_2 96 (d9 x0.k4)] w) (_ : B0 (x0.k4.o8.n : Int) b6T x0 H K), c0V (vi (x0.k4.o8.n : Int)) (Value.bool b6T) w R E := by
        intro b6T H w I h
        unfold c0V
        intro _
        unfold B0 at h
        refine k8 (fun a4X => ?_) (fun a4X => ?_)
        ·replace h := h.1 a4X
         refine a7 (d4 _ _ _ _ _ _) ?_
         exact hR (decide ((x0.k4.o8.n : Int) = 2)) H _ I.drop h
        ·replace h := h.2 a4X
         exact hR false H _ I.drop h
       refine m6 fun j3 hx3 => ?_
       refine a7 (d4 _ _ _ _ _ _) ?_
       refine g6 (fun b1c => ?_) (fun b1c => ?_)
       ·replace h := h.1 b1c
        exact hx3 _ _ (hj3 (decide (x0.k4.c6 = 6)) H _ I h)
       ·replace h := h.2 b1c
        refine a7 (d4 _ _ _ _ _ _) ?_
        refine g6 (fun b1f => ?_) (fun b1f => ?_)
        ·replace h := h.1 b1f
         exact hx3 _ _ (hj3 (decide (x0.k4.c6 = 7)) H _ I h)
        ·replace h := h.2 b1f
         refine a7 (d4 _ _ _ _ _ _) ?_
         refine g6 (fun a6K => ?_) (fun a6K => ?_)
         ·replace h := h.1 a6K
          exact hx3 _ _ (hj3 (decide (x0.k4.c6 = 8)) H _ I h)
         ·replace h := h.2 a6K
          refine a7 (d4 _ _ _ _ _ _) ?_
          refine g6 (fun b1d => ?_) (fun b1d => ?_)
          ·replace h := h.1 b1d
           exact hx3 _ _ (hj3 (decide (x0.k4.c6 = 9)) H _ I h)
          ·replace h := h.2 b1d
           refine a7 (d4 _ _ _ _ _ _) ?_
           exact hx3 _ _ (hj3 (decide (x0.k4.c6 = 10)) H _ I h)
     refine m6 fun j2 hx2 => ?_
     refine a7 (d4 _ _ _ _ _ _) ?_
     refine g6 (fun b8l => ?_) (fun b8l => ?_)
     ·replace h := h.1 b8l
      exact hx2 _ _ (hj2 (decide (x0.k4.c6 = 4)) H _ I h)
     ·replace h := h.2 b8l
      refine a7 (d4 _ _ _ _ _ _) ?_
      exact hx2 _ _ (hj2 (decide (x0.k4.c6 = 5)) H _ I h)
   refine m6 fun j1 hx1 => ?_
   refine a7 (d4 _ _ _ _ _ _) ?_
   refine g6 (fun b8m => ?_) (fun b8m => ?_)
   ·replace h := h.1 b8m
    exact hx1 _ _ (hj1 (decide (x0.k4.c6 = 2)) H_6 _ I_8 h)
   ·replace h := h.2 b8m
    refine a7 (d4 _ _ _ _ _ _) ?_
    exact hx1 _ _ (hj1 (decide (x0.k4.c6 = 3)) H_6 _ I_8 h)
theorem b1V (x0 : E5) {H : Hp} {K : Bool → Hp → Prop} (h : a1y x0 H K) : a3M x0 H K := by
 intro w I
 refine e1V ?_
 refine b1l x0 I (fun r0 H' w' I' hk => ⟨H', _, I', r0, rfl, rfl, hk⟩) h
def u5 (S3 : (List c8)) (H : Hp) (K : Sl → Hp → Prop) : Prop :=
 ∀ (C0 : Sl) (a1O : Hp), Hle H a1O → SlH a1O 1 m7 C0 S3 → C0.n ≤ C0.c →
 K C0 a1O
def u6 (N2 : Sl) (a7W : Int) (p6 : (List c8)) (q9 : Int) (H : Hp) (n2 : ((List c8) × Int) → Hp → Prop) (K : Sl → Hp → Prop) : Prop :=
 (q9 < a7W →
 (0 : Int) ≤ q9 ∧ (q9 : Int) < N2.n ∧ ∃ x_1 : k6, EltH H N2 q9 4 (d9 x_1) ∧
 a7U x_1 H (fun (N0 : c8) (a2R : Hp) =>
 (p6.length + ([N0] : List c8).length) * 17 ≤ 140737488355328 ∧
 n2 ((p6 ++ [N0]), (IntKind.wrap .i64 (q9 + 1))) a2R)) ∧
 (¬ (q9 < a7W) →
 u5 p6 H K)
def y8 (x0 : Sl) (H : Hp) (K : Sl → Hp → Prop) : Prop :=
 TL (([], 0) : (List c8) × Int) H fun (s : (List c8) × Int) H n2 => u6 x0 (x0.n : Int) s.1 s.2 H n2 K
theorem a1I (x0 : Sl) {w0 w : World} {ps0 : Nat → Prop} {H0 H : Hp} {K : Sl → Hp → Prop} {R : Value → World → Prop} {E : Pan} (I : Inv w0 ps0 H0 H [] w) (hR : ∀ (r0 : Sl) (H' : Hp) (w' : World) (_ : Inv w0 ps0 H0 H' [] w') (_ : K r0 H'), R (vs r0) w') (h : y8 x0 H K) : c9s (vs x0) (Value.func (.func 151) #[] #[]) w R E := by
 unfold y8 at h
 unfold c9s
 have hj1 : ∀ (S3 : (List c8)) (C0 : Sl) (Fs5j1 : Frag) (H : Hp) (w : World) (_ : RowL 141 1 m7 C0 S3 Fs5j1) (_ : Inv w0 ps0 H0 H [Fs5j1] w) (_ : u5 S3 H K), c0Y (vs C0) w R E := by
  intro S3 C0 Fs5j1 H w b0h I h
  unfold c0Y
  intro _
  unfold u5 at h
  obtain ⟨a1O, a8X, b5X, b7O, b3Q⟩ := Inv.freezeC I b0h (by decide)
  replace h := h C0 a1O b5X b7O b3Q
  exact hR C0 a1O _ a8X h
 refine m6 fun j1 hx1 => ?_
 refine a7 (v8 _ _ _) ?_
 obtain ⟨a6L, a3p, b7P, b7Q⟩ := h
 refine p9 (J := fun n l w => ∃ (s : (List c8) × Int) (H : Hp) (S4 : Sl) (Fs5l2 : Frag) , n = a3p s ∧ l = (match s with | (p6, q9) => [(vs S4), (vi q9)]) ∧ (match s with | (p6, q9) => RowL 141 1 m7 S4 p6 Fs5l2) ∧ (match s with | (p6, q9) => Inv w0 ps0 H0 H [Fs5l2] w) ∧ a6L s H) ⟨_, ([], 0), H, (Sl.mk none 0 0), [], rfl, rfl, (RowL.nil N1 R2), I.nil, b7P⟩ ?_
 rintro d6f τ_50 w next2 ⟨⟨p6, q9⟩, H, S4, Fs5l2, rfl, a5Q, a2S, I, b5Y⟩ hn2
 dsimp only at a5Q I a2S
 simp only [List.map_cons, List.map_nil, List.cons.injEq, and_true] at a5Q
 obtain ⟨e5, e10⟩ := a5Q
 simp only [e5, e10]
 obtain ⟨n2, hm2, h⟩ : ∃ n2 : ((List c8) × Int) → Hp → Prop, (∀ s' H', n2 s' H' → a6L s' H' ∧ a3p s' < a3p (p6, q9)) ∧ u6 x0 (x0.n : Int) p6 q9 H n2 K := ⟨_, fun _ _ h => h, b7Q (p6, q9) H (fun s' H' => a6L s' H' ∧ a3p s' < a3p (p6, q9)) b5Y (fun _ _ a b => ⟨a, b⟩)⟩
 unfold c8j
 unfold u6 at h
 refine a7 (o2 _ _ _ _ _ _) ?_
 refine g6 (fun a4Y => ?_) (fun a4Y => ?_)
 ·replace h := h.1 a4Y
  obtain ⟨h_4, h_5, x_1, h_7, h⟩ := h
  obtain ⟨g_2, o_3, h_6, h_7⟩ := h_7
  refine a7 (a1M h_6 _ _ _ _ h_4 h_5) ?_
  refine c5 (ldA (vs := (d9 x_1)) Tryd.isAgg30 Tryd.sizeOf30 rfl (I.atH h_7)) ?_
  refine G4 I Tryd.zeroValue30 (cs := [(vi 0), (vi 0), (Value.string ⟨#[]⟩), (Value.slice none 0 0)]) rfl fun g_9 m2 a3q b3R => ?_
  refine p7 a3q Tryd.sizeOf30 (vs := (d9 x_1)) (cs' := (d9 x_1)) rfl rfl (nb rfl) rfl rfl fun a2K a3r c1d => ?_
  refine c5 (ldA Tryd.isAgg30 Tryd.sizeOf30 rfl (a3r.at1 (o := 0) (vs := (d9 x_1)) (nb rfl) rfl)) ?_
  refine f6 (cap := []) (fun args w => Tryd.call151 args w) ?_
  refine i6 (Fi := []) (Fr := [bx g_9 30 (d9 x_1), Fs5l2]) a3r (h) (fun c4x a2R c4y a4G a3s c4z b7R b1g => ?_) (fun _ _ _ _ _ q => q.elim)
  obtain ⟨N0, rfl, rfl, h⟩ := b1g
  refine a5y (e := 141) (c := m7) (xs := [N0]) a3s (b6K _) rfl rfl N1 R2 (nb rfl) fun c4A b5Z w9 b1h a5C b7S => ?_
  obtain ⟨b3S, h⟩ := h
  refine b5h (s := S4) (xs := p6) (a5C.bring 2) a2S (b1h.srcO ((a5C.bring 2).bring 1)) b3S fun b7T b6a z7 a8Y a9N c9E => ?_
  refine a7 (m4 _ _ _ _ _ _) ?_
  exact hn2 _ _ _ (hm2 _ _ h).2 ⟨((p6 ++ [N0]), (IntKind.wrap .i64 (q9 + 1))), a2R, b7T, b6a, rfl, rfl, a8Y, ((a9N.bring 1).drop.bring 1).drop, (hm2 _ _ h).1⟩
 ·replace h := h.2 a4Y
  exact hx1 _ _ (hj1 p6 S4 Fs5l2 H _ a2S I h)
theorem a1Q (x0 : Sl) {H : Hp} {K : Sl → Hp → Prop} (h : y8 x0 H K) : r9 x0 H K := by
 intro w I
 refine e1Z ?_
 refine a1I x0 I (fun r0 H' w' I' hk => ⟨H', _, I', r0, rfl, rfl, hk⟩) h
def a2V (x0 : k3) (H : Hp) (K : c8 → Hp → Prop) : Prop :=
 K (c8.G9 (K3.mk x0)) H
theorem b3g (x0 : k3) {w0 w : World} {ps0 : Nat → Prop} {H0 H : Hp} {K : c8 → Hp → Prop} {R : Value → World → Prop} {E : Pan} (I : Inv w0 ps0 H0 H [] w) (hR : ∀ (r0 : c8) (H' : Hp) (w' : World) (_ : Inv w0 ps0 H0 H' [] w') (_ : K r0 H'), R (u0 r0) w') (h : a2V x0 H K) : c9y (Value.agg (f5 x0).toArray) w R E := by
 unfold a2V at h
 unfold c9y
 refine J4 I (cs := (f5 x0)) rfl fun g_2 w_3 I_4 k_5 => ?_
 refine c5 (ldA Tryd.isAgg33 Tryd.sizeOf33 rfl (I_4.at1 (o := 0) (vs := (f5 x0)) (nb rfl) rfl)) ?_
 refine a7 (c2U _ _ _ _ _ _ _ _) ?_
 refine a7 (c0I (K3.mk x0)) ?_
 exact hR (c8.G9 (K3.mk x0)) H _ I_4.drop h
theorem b4g (x0 : k3) {H : Hp} {K : c8 → Hp → Prop} (h : a2V x0 H K) : a7V x0 H K := by
 intro w I
 refine e2k ?_
 refine b3g x0 I (fun r0 H' w' I' hk => ⟨H', _, I', r0, rfl, rfl, hk⟩) h
def a1z (x0 : N8) (H : Hp) (K : Bool → Hp → Prop) : Prop :=
 K ((decide (0 ≤ x0.M8.I8)) && (decide (x0.M8.I8 ≤ 2147483647))) H
theorem b1m (x0 : N8) {w0 w : World} {ps0 : Nat → Prop} {H0 H : Hp} {K : Bool → Hp → Prop} {R : Value → World → Prop} {E : Pan} (I : Inv w0 ps0 H0 H [] w) (hR : ∀ (r0 : Bool) (H' : Hp) (w' : World) (_ : Inv w0 ps0 H0 H' [] w') (_ : K r0 H'), R (Value.bool r0) w') (h : a1z x0 H K) : c9z (Value.agg (p5 x0.M8).toArray) w R E := by
 unfold a1z at h
 unfold c9z
 refine J4 I (cs := (p5 x0.M8)) rfl fun g_2 w_3 I_4 k_5 => ?_
 refine a7 a6s ?_
 refine a7 Z6 ?_
 refine c5 (ld1 Tryd.isAgg3 (I_4.at1 (o := 1) (vs := [(vi x0.M8.I8)]) (nb rfl) rfl)) ?_
 refine a7 (a0B _ _ _ _ _ _) ?_
 refine a7 (Pu.g fun hb => by have a8 := hb; first | exact a6s | (simp only [b9 a8, b6 a8, b6 hb, o7 a8]; exact a6s) | (simp only [b9 a8, b6 a8, b6 hb, d8 a8, f8]; exact a6s)) ?_
 refine a7 (Pu.g fun hb => by have a8 := hb; first | exact Z6 | (simp only [b6 a8]; exact Z6) | (simp only [b9 a8, b6 a8, b6 hb, d8 a8, f8]; exact Z6)) ?_
 refine c5 (Ld.g fun hb => by have a8 := hb; first | exact (ld1 Tryd.isAgg3 (I_4.at1 (o := 1) (vs := [(vi x0.M8.I8)]) (nb rfl) rfl)) | (simp only [b6 a8]; exact (ld1 Tryd.isAgg3 (I_4.at1 (o := 1) (vs := [(vi x0.M8.I8)]) (nb rfl) rfl))) | (simp only [b9 a8, b6 a8, b6 hb, d8 a8, f8]; exact (ld1 Tryd.isAgg3 (I_4.at1 (o := 1) (vs := [(vi x0.M8.I8)]) (nb rfl) rfl)))) ?_
 refine a7 (Pu.g fun hb => by have a8 := hb; first | exact (a0A _ _ _ _ _ _) | (simp only [b6 a8]; exact (a0A _ _ _ _ _ _)) | (simp only [b9 a8, b6 a8, b6 hb, d8 a8, f8]; exact (a0A _ _ _ _ _ _))) ?_
 refine a7 (m3 _ _) ?_
 exact hR ((decide (0 ≤ x0.M8.I8)) && (decide (x0.M8.I8 ≤ 2147483647))) H _ I_4.drop h
theorem b1W (x0 : N8) {H : Hp} {K : Bool → Hp → Prop} (h : a1z x0 H K) : a6k x0 H K := by
 intro w I
 refine e2m ?_
 refine b1m x0 I (fun r0 H' w' I' hk => ⟨H', _, I', r0, rfl, rfl, hk⟩) h
def a1d (_x0 : N8) (H : Hp) (K : Sl → Hp → Prop) : Prop :=
 K (Sl.mk none 0 0) H
theorem b0j (x0 : N8) {w0 w : World} {ps0 : Nat → Prop} {H0 H : Hp} {K : Sl → Hp → Prop} {R : Value → World → Prop} {E : Pan} (I : Inv w0 ps0 H0 H [] w) (hR : ∀ (r0 : Sl) (H' : Hp) (w' : World) (_ : Inv w0 ps0 H0 H' [] w') (_ : K r0 H'), R (vs r0) w') (h : a1d x0 H K) : c9A (Value.agg (p5 x0.M8).toArray) w R E := by
 unfold a1d at h
 unfold c9A
 refine J4 I (cs := (p5 x0.M8)) rfl fun g_2 w_3 I_4 k_5 => ?_
 exact hR (Sl.mk none 0 0) H _ I_4.drop h
theorem b1n (x0 : N8) {H : Hp} {K : Sl → Hp → Prop} (h : a1d x0 H K) : a5O x0 H K := by
 intro w I
 refine e2o ?_
 refine b0j x0 I (fun r0 H' w' I' hk => ⟨H', _, I', r0, rfl, rfl, hk⟩) h
end Go.Proofs.YthldnpmfelniiaaDoor
