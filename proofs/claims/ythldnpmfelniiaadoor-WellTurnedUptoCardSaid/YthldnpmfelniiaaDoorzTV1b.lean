/- Typed formulas of the program's functions, and the theorems that the contracts follow from them; printed by lift.py off the code. -/
import Derived.Test.YthldnpmfelniiaaDoorzTV1
namespace Go.Proofs.YthldnpmfelniiaaDoor
open Go.RowKit
set_option maxRecDepth 100000
set_option maxHeartbeats 2000000
def q6 (_s0j5 : Sl) (b0O : Int) (_s9j5 : Sl) (_s10j5 : Int) (b5P : Int) (H : Hp) (n4 : (Int × Int) → Hp → Prop) (_K : Sl → Hp → Prop) : Prop :=
 n4 (b0O, (IntKind.wrap .i64 (b5P + 1))) H
def q7 (a9I : (List a8)) (H : Hp) (K : Sl → Hp → Prop) : Prop :=
 ∀ (a2x : Sl) (a5L : Hp), Hle H a5L → SlH a5L 1 h7 a2x a9I → a2x.n ≤ a2x.c →
 K a2x a5L
def q8 (c2s : Sl) (c2t : Int) (Y1 : (List a8)) (V1 : Int) (H : Hp) (n3 : ((List a8) × Int) → Hp → Prop) (K : Sl → Hp → Prop) : Prop :=
 (V1 < c2t →
 (0 : Int) ≤ V1 ∧ (V1 : Int) < c2s.n ∧ ∃ b5Q : Sl, EltH H c2s V1 1 [(vs b5Q)] ∧
 ∃ a9J : List a8, SlH H 1 h7 b5Q a9J ∧ (Y1.length + a9J.length) * 17 ≤ 140737488355328 ∧
 n3 ((Y1 ++ a9J), (IntKind.wrap .i64 (V1 + 1))) H) ∧
 (¬ (V1 < c2t) →
 q7 Y1 H K)
def q9 (d0U : Sl) (a5M : Int) (H : Hp) (K : Sl → Hp → Prop) : Prop :=
 D2 a5M H (fun (b5R : (List a8)) (H_9 : Hp) =>
 TL ((b5R, 0) : (List a8) × Int) H_9 fun (s : (List a8) × Int) H n3 => q8 d0U (d0U.n : Int) s.1 s.2 H n3 K)
def r5 (d0V : Sl) (c0c : Sl) (b5S : Int) (a1Q : Int) (U1 : Int) (H : Hp) (n4 : (Int × Int) → Hp → Prop) (K : Sl → Hp → Prop) : Prop :=
 (U1 < b5S →
 (0 : Int) ≤ U1 ∧ (U1 : Int) < c0c.n ∧ ∃ x_1 : Sl, EltH H c0c U1 1 [(vs x_1)] ∧
 ((IntKind.wrap .i64 (a1Q + (x_1.n : Int))) < 0 →
 False) ∧
 (¬ ((IntKind.wrap .i64 (a1Q + (x_1.n : Int))) < 0) →
 q6 d0V (IntKind.wrap .i64 (a1Q + (x_1.n : Int))) c0c b5S U1 H n4 K)) ∧
 (¬ (U1 < b5S) →
 q9 d0V a1Q H K)
def s7 (x0 : Sl) (H : Hp) (K : Sl → Hp → Prop) : Prop :=
 TL ((0, 0) : Int × Int) H fun (s : Int × Int) H n4 => r5 x0 x0 (x0.n : Int) s.1 s.2 H n4 K
theorem R2 (x0 : Sl) {w0 w : World} {ps0 : Nat → Prop} {H0 H : Hp} {K : Sl → Hp → Prop} {R : Value → World → Prop} {E : Pan} (I : Inv w0 ps0 H0 H [] w) (hR : ∀ (r0 : Sl) (H' : Hp) (w' : World) (_ : Inv w0 ps0 H0 H' [] w') (_ : K r0 H'), R (vs r0) w') (h : s7 x0 H K) : F94 (vs x0) w R E := by
 unfold s7 at h
 unfold F94
 have hj1 : ∀ (a5M : Int) (H : Hp) (w : World) (_ : Inv w0 ps0 H0 H [] w) (_ : q9 x0 a5M H K), b2y (vs x0) (vi a5M) w R E := by
  intro a5M H w I h
  unfold b2y
  intro _
  unfold q9 at h
  refine f8 (cap := []) (fun args w => Tryd.call120 args w) ?_
  refine j8 (Fi := []) (Fr := []) I (h) (fun e0R H_9 e0S o2 a2b c0d b2W d6Y => ?_) (fun _ _ _ _ _ q => q.elim)
  obtain ⟨b5R, d0W, d0X, rfl, rfl, d0Y, h⟩ := d6Y
  have hj2 : ∀ (a9I : (List a8)) (a2x : Sl) (Fs6j2 : Frag) (H : Hp) (w : World) (_ : RowL 141 1 h7 a2x a9I Fs6j2) (_ : Inv w0 ps0 H0 H [Fs6j2] w) (_ : q7 a9I H K), b2x (vs a2x) w R E := by
   intro a9I a2x Fs6j2 H w d4K I h
   unfold b2x
   intro _
   unfold q7 at h
   obtain ⟨a5L, a2N, d0Z, a5I, d6Z⟩ := Inv.freezeC I d4K (by decide)
   replace h := h a2x a5L d0Z a5I d6Z
   exact hR a2x a5L _ a2N h
  refine v2 fun j2 hx2 => ?_
  refine a6 (a9n _ _ _) ?_
  obtain ⟨c0e, b3d, d7a, d7b⟩ := h
  refine G2 (J := fun n l w => ∃ (s : (List a8) × Int) (H : Hp) (a9K : Sl) (Fs6l3 : Frag) , n = b3d s ∧ l = (match s with | (Y1, V1) => [(vs a9K), (vi V1)]) ∧ (match s with | (Y1, V1) => RowL 141 1 h7 a9K Y1 Fs6l3) ∧ (match s with | (Y1, V1) => Inv w0 ps0 H0 H [Fs6l3] w) ∧ c0e s H) ⟨_, (b5R, 0), H_9, d0W, d0X, rfl, rfl, d0Y, a2b, d7a⟩ ?_
  rintro e0T τ_46 w next3 ⟨⟨Y1, V1⟩, H, a9K, Fs6l3, rfl, c0f, b5T, I, d7c⟩ hn3
  dsimp only at c0f I b5T
  simp only [List.map_cons, List.map_nil, List.cons.injEq, and_true] at c0f
  obtain ⟨e6, e27⟩ := c0f
  simp only [e6, e27]
  obtain ⟨n3, hm3, h⟩ : ∃ n3 : ((List a8) × Int) → Hp → Prop, (∀ s' H', n3 s' H' → c0e s' H' ∧ b3d s' < b3d (Y1, V1)) ∧ q8 x0 (x0.n : Int) Y1 V1 H n3 K := ⟨_, fun _ _ h => h, d7b (Y1, V1) H (fun s' H' => c0e s' H' ∧ b3d s' < b3d (Y1, V1)) d7c (fun _ _ a b => ⟨a, b⟩)⟩
  unfold b7J
  unfold q8 at h
  refine a6 (K7 _ _ _ _ _ _) ?_
  refine d7 (fun c0g => ?_) (fun c0g => ?_)
  ·replace h := h.1 c0g
   obtain ⟨d7d, d7e, b5Q, c0h, h⟩ := h
   obtain ⟨d1a, e0U, d7f, c0h⟩ := c0h
   refine a6 (b1s d7f _ _ _ _ d7d d7e) ?_
   refine c5 (ld1 (v := (vs b5Q)) Tryd.isAgg97 (I.atH c0h)) ?_
   obtain ⟨a9J, d7g, h⟩ := h
   obtain ⟨d7h, h⟩ := h
   refine a6H (s := a9K) (xs := Y1) I b5T (SlH.src I d7g C7) d7h fun b2X b0L G4 a5H a0I b2Y => ?_
   refine a6 (F8 _ _ _ _ _ _) ?_
   exact hn3 _ _ _ (hm3 _ _ h).2 ⟨((Y1 ++ a9J), (IntKind.wrap .i64 (V1 + 1))), H, b2X, b0L, rfl, rfl, a5H, a0I, (hm3 _ _ h).1⟩
  ·replace h := h.2 c0g
   exact hx2 _ _ (hj2 Y1 a9K Fs6l3 H _ b5T I h)
 refine v2 fun j1 hx1 => ?_
 refine a6 (a9n _ _ _) ?_
 obtain ⟨c0i, b3e, d7i, d7j⟩ := h
 refine G2 (J := fun n l w => ∃ (s : Int × Int) (H : Hp) , n = b3e s ∧ l = (match s with | (a1Q, U1) => [(vi a1Q), (vi U1)]) ∧ (match s with | (a1Q, U1) => Inv w0 ps0 H0 H [] w) ∧ c0i s H) ⟨_, (0, 0), H, rfl, rfl, I, d7i⟩ ?_
 rintro e0V τ_55 w next4 ⟨⟨a1Q, U1⟩, H, rfl, c0j, I, d7k⟩ hn4
 dsimp only at c0j I
 simp only [List.map_cons, List.map_nil, List.cons.injEq, and_true] at c0j
 obtain ⟨e3, e11⟩ := c0j
 simp only [e3, e11]
 obtain ⟨n4, hm4, h⟩ : ∃ n4 : (Int × Int) → Hp → Prop, (∀ s' H', n4 s' H' → c0i s' H' ∧ b3e s' < b3e (a1Q, U1)) ∧ r5 x0 x0 (x0.n : Int) a1Q U1 H n4 K := ⟨_, fun _ _ h => h, d7j (a1Q, U1) H (fun s' H' => c0i s' H' ∧ b3e s' < b3e (a1Q, U1)) d7k (fun _ _ a b => ⟨a, b⟩)⟩
 unfold b7K
 unfold r5 at h
 refine a6 (K7 _ _ _ _ _ _) ?_
 refine d7 (fun c0k => ?_) (fun c0k => ?_)
 ·replace h := h.1 c0k
  have hj5 : ∀ (b0O : Int) (H : Hp) (w : World) (_ : Inv w0 ps0 H0 H [] w) (_ : q6 x0 b0O x0 (x0.n : Int) U1 H n4 K), b2z (vs x0) (vi b0O) (vs x0) (vi (x0.n : Int)) (vi U1) w next4 R E := by
   intro b0O H w I h
   unfold b2z
   intro _
   unfold q6 at h
   refine a6 (F8 _ _ _ _ _ _) ?_
   exact hn4 _ _ _ (hm4 _ _ h).2 ⟨(b0O, (IntKind.wrap .i64 (U1 + 1))), H, rfl, rfl, I, (hm4 _ _ h).1⟩
  refine v2 fun j5 hx5 => ?_
  obtain ⟨h_4, h_5, x_1, h_7, h⟩ := h
  obtain ⟨g_2, o_3, h_6, h_7⟩ := h_7
  refine a6 (b1s h_6 _ _ _ _ h_4 h_5) ?_
  refine c5 (ld1 (v := (vs x_1)) Tryd.isAgg97 (I.atH h_7)) ?_
  refine a6 (a4o _ _ _) ?_
  refine a6 (F8 _ _ _ _ _ _) ?_
  refine a6 (K7 _ _ _ _ _ _) ?_
  refine d7 (fun c_8 => ?_) (fun c_8 => ?_)
  ·replace h := h.1 c_8
   refine a6 (b7G _) ?_
   exact h.elim
  ·replace h := h.2 c_8
   exact hx5 _ _ (hj5 (IntKind.wrap .i64 (a1Q + (x_1.n : Int))) H _ I h)
 ·replace h := h.2 c0k
  exact hx1 _ _ (hj1 a1Q H _ I h)
theorem R9 (x0 : Sl) {H : Hp} {K : Sl → Hp → Prop} (h : s7 x0 H K) : o0 x0 H K := by
 intro w I
 refine c7i ?_
 refine R2 x0 I (fun r0 H' w' I' hk => ⟨H', _, I', r0, rfl, rfl, hk⟩) h
def D9 (x0 : (List ByteArray)) (x1 : ByteArray) (H : Hp) (K : Bool → Hp → Prop) : Prop :=
 N9 x0 x1 H (fun (G5 : Int) (H_1 : Hp) =>
 K (decide (0 ≤ G5)) H_1)
theorem a1e (x0 : (List ByteArray)) (x1 : ByteArray) (sx0 : Sl) (Fx0 : Frag) (hx0 : RowL 9 1 s8 sx0 x0 Fx0) {w0 w : World} {ps0 : Nat → Prop} {H0 H : Hp} {K : Bool → Hp → Prop} {R : Value → World → Prop} {E : Pan} (I : Inv w0 ps0 H0 H [Fx0] w) (hR : ∀ (r0 : Bool) (H' : Hp) (w' : World) (_ : Inv w0 ps0 H0 H' [Fx0] w') (_ : K r0 H'), R (Value.bool r0) w') (h : D9 x0 x1 H K) : b5n (vs sx0) (Value.string x1) w R E := by
 unfold D9 at h
 unfold b5n
 refine f8 (cap := []) (fun args w => Tryd.call127 args w) ?_
 refine j8 (Fi := [Fx0]) (Fr := []) I (h sx0 Fx0 hx0) (fun v_5 H_1 F_6 w_2 I_3 l_8 k_4 q_7 => ?_) (fun _ _ _ _ _ q => q.elim)
 obtain ⟨G5, rfl, rfl, h⟩ := q_7
 refine a6 (a6C _ _ _ _ _ _) ?_
 exact hR (decide (0 ≤ G5)) H_1 _ I_3 h
theorem a1r (x0 : (List ByteArray)) (x1 : ByteArray) {H : Hp} {K : Bool → Hp → Prop} (h : D9 x0 x1 H K) : A7 x0 x1 H K := by
 intro sx0 Fx0 hx0 w I
 refine c3A ?_
 refine a1e x0 x1 sx0 Fx0 hx0 I (fun r0 H' w' I' hk => ⟨H', _, I', r0, rfl, rfl, hk⟩) h
def k5 (a3o : Int) (a3p : Int) (a3q : Int) (a3r : Bool) (a3s : Bool) (a2e : (List ByteArray)) (H : Hp) (K : Bool → b7 → (List ByteArray) → Hp → Prop) : Prop :=
 K true (b7.mk a3o a3p a3q a3r a3s (Sl.mk none 0 0)) a2e H
def J6 (x0 : b7) (J9 : (List ByteArray)) (x1 : a8) (x2 : Int) (H : Hp) (K : Bool → b7 → (List ByteArray) → Hp → Prop) : Prop :=
 (4096 < (IntKind.wrap .i64 (x0.fnodes + 1)) →
 K false (b7.mk (IntKind.wrap .i64 (x0.fnodes + 1)) x0.fdepth 33 x0.fform x0.fnamed (Sl.mk none 0 0)) J9 H) ∧
 (¬ (4096 < (IntKind.wrap .i64 (x0.fnodes + 1))) →
 (64 < x2 →
 K false (b7.mk (IntKind.wrap .i64 (x0.fnodes + 1)) x0.fdepth 32 x0.fform x0.fnamed (Sl.mk none 0 0)) J9 H) ∧
 (¬ (64 < x2) →
 TG (x0.fform = false) (X8 x1 H) false H (fun (v1 : Bool) (a2O : Hp) =>
 Q1 x1 a2O (fun (Y2 : ByteArray) (a7G : Bool) (a3Q : Hp) =>
 (a7G = true →
 TG (x0.fnamed = false) (U8 Y2 a3Q) false a3Q (fun (S7 : Bool) (a4J : Hp) =>
 A7 J9 Y2 a4J (fun (Y3 : Bool) (a0J : Hp) =>
 ((!Y3) = true →
 (J9.length + ([Y2] : List ByteArray).length) * 17 ≤ 140737488355328 ∧
 k5 (IntKind.wrap .i64 (x0.fnodes + 1)) (if x2 > x0.fdepth then x2 else x0.fdepth) x0.fe (x0.fform || (!v1)) (x0.fnamed || (!S7)) (J9 ++ [Y2]) a0J K) ∧
 ((!Y3) = false →
 k5 (IntKind.wrap .i64 (x0.fnodes + 1)) (if x2 > x0.fdepth then x2 else x0.fdepth) x0.fe (x0.fform || (!v1)) (x0.fnamed || (!S7)) J9 a0J K)))) ∧
 (a7G = false →
 k5 (IntKind.wrap .i64 (x0.fnodes + 1)) (if x2 > x0.fdepth then x2 else x0.fdepth) x0.fe (x0.fform || (!v1)) x0.fnamed J9 a3Q K)))))
theorem a2G (x0 : b7) (J9 : (List ByteArray)) (x1 : a8) (x2 : Int) (g0 : Nat) (H9 : Sl) (U0 : Frag) (a4t : RowL 9 1 s8 H9 J9 U0) {w0 w : World} {ps0 : Nat → Prop} {H0 H : Hp} {K : Bool → b7 → (List ByteArray) → Hp → Prop} {R : Value → World → Prop} {E : Pan} (I : Inv w0 ps0 H0 H [bx g0 92 [(vi x0.fnodes), (vi x0.fdepth), (vi x0.fe), (Value.bool x0.fform), (Value.bool x0.fnamed), (vs H9)], U0] w) (hR : ∀ (r0 : Bool) (y0 : b7) (a0Y : (List ByteArray)) (X5 : Sl) (X6 : Frag) (H' : Hp) (w' : World) (_ : RowL 9 1 s8 X5 a0Y X6) (_ : Inv w0 ps0 H0 H' [bx g0 92 [(vi y0.fnodes), (vi y0.fdepth), (vi y0.fe), (Value.bool y0.fform), (Value.bool y0.fnamed), (vs X5)], X6] w') (_ : K r0 y0 a0Y H'), R (Value.bool r0) w') (h : J6 x0 J9 x1 x2 H K) : F90 (Value.pointer (some ⟨g0, 0, none⟩)) (l9 x1) (vi x2) w R E := by
 unfold J6 at h
 unfold F90
 refine a6 (z8 _) ?_
 refine a6 a5s ?_
 refine c5 (ld1 Tryd.isAgg3 (I.at1 (o := 0) (vs := [(vi x0.fnodes)]) (nb rfl) rfl)) ?_
 refine a6 (F8 _ _ _ _ _ _) ?_
 refine a6 (z8 _) ?_
 refine a6 a5s ?_
 refine s6 I Tryd.sizeOf3 (vs := [(vi (IntKind.wrap .i64 (x0.fnodes + 1)))]) (cs' := [(vi (IntKind.wrap .i64 (x0.fnodes + 1))), (vi x0.fdepth), (vi x0.fe), (Value.bool x0.fform), (Value.bool x0.fnamed), (vs H9)]) rfl rfl (nb rfl) rfl rfl fun w_1 I_2 k_3 => ?_
 refine a6 (z8 _) ?_
 refine a6 a5s ?_
 refine c5 (ld1 Tryd.isAgg3 (I_2.at1 (o := 0) (vs := [(vi (IntKind.wrap .i64 (x0.fnodes + 1)))]) (nb rfl) rfl)) ?_
 refine a6 (a2B _ _ _ _ _ _) ?_
 refine d7 (fun a8F => ?_) (fun a8F => ?_)
 ·replace h := h.1 a8F
  refine a6 (z8 _) ?_
  refine a6 a1x ?_
  refine s6 I_2 Tryd.sizeOf34 (vs := [(vi 33)]) (cs' := [(vi (IntKind.wrap .i64 (x0.fnodes + 1))), (vi x0.fdepth), (vi 33), (Value.bool x0.fform), (Value.bool x0.fnamed), (vs H9)]) rfl rfl (nb rfl) rfl rfl fun w_4 I_5 k_6 => ?_
  exact hR false (b7.mk (IntKind.wrap .i64 (x0.fnodes + 1)) x0.fdepth 33 x0.fform x0.fnamed (Sl.mk none 0 0)) J9 H9 U0 H _ a4t ((I_5.bring 1).bring 1) h
 ·replace h := h.2 a8F
  refine a6 (a2B _ _ _ _ _ _) ?_
  refine d7 (fun a8G => ?_) (fun a8G => ?_)
  ·replace h := h.1 a8G
   refine a6 (z8 _) ?_
   refine a6 a1x ?_
   refine s6 I_2 Tryd.sizeOf34 (vs := [(vi 32)]) (cs' := [(vi (IntKind.wrap .i64 (x0.fnodes + 1))), (vi x0.fdepth), (vi 32), (Value.bool x0.fform), (Value.bool x0.fnamed), (vs H9)]) rfl rfl (nb rfl) rfl rfl fun w_7 I_8 k_9 => ?_
   exact hR false (b7.mk (IntKind.wrap .i64 (x0.fnodes + 1)) x0.fdepth 32 x0.fform x0.fnamed (Sl.mk none 0 0)) J9 H9 U0 H _ a4t ((I_8.bring 1).bring 1) h
  ·replace h := h.2 a8G
   refine a6 (z8 _) ?_
   refine a6 a9m ?_
   refine c5 (ld1 Tryd.isAgg3 (I_2.at1 (o := 1) (vs := [(vi x0.fdepth)]) (nb rfl) rfl)) ?_
   refine a6 (c5z _ _ _ _ _) ?_
   refine a6 (z8 _) ?_
   refine a6 a9m ?_
   refine s6 I_2 Tryd.sizeOf3 (vs := [(vi (if x2 > x0.fdepth then x2 else x0.fdepth))]) (cs' := [(vi (IntKind.wrap .i64 (x0.fnodes + 1))), (vi (if x2 > x0.fdepth then x2 else x0.fdepth)), (vi x0.fe), (Value.bool x0.fform), (Value.bool x0.fnamed), (vs H9)]) rfl rfl (nb rfl) rfl rfl fun o2 a2b b2W => ?_
   refine a6 (z8 _) ?_
   refine a6 a5v ?_
   refine c5 (ld1 Tryd.isAgg4 (a2b.at1 (o := 3) (vs := [(Value.bool x0.fform)]) (nb rfl) rfl)) ?_
   try simp only [Q8]
   refine a2C (D := fun c0l r9 => ∃ (v1 : Bool) (a2O : Hp), c0l = (gv x0.fform false (Value.bool v1)) ∧ (Inv w0 ps0 H0 a2O [bx g0 92 [(vi (IntKind.wrap .i64 (x0.fnodes + 1))), (vi (if x2 > x0.fdepth then x2 else x0.fdepth)), (vi x0.fe), (Value.bool x0.fform), (Value.bool x0.fnamed), (vs H9)], U0] r9) ∧ (∀ i, i < o2.heap.size → ¬ inF [] i → r9.heap[i]? = o2.heap[i]?) ∧ Hle H a2O ∧ (Q1 x1 a2O (fun (Y2 : ByteArray) (a7G : Bool) (a3Q : Hp) =>
 (a7G = true →
 TG (x0.fnamed = false) (U8 Y2 a3Q) false a3Q (fun (S7 : Bool) (a4J : Hp) =>
 A7 J9 Y2 a4J (fun (Y3 : Bool) (a0J : Hp) =>
 ((!Y3) = true →
 (J9.length + ([Y2] : List ByteArray).length) * 17 ≤ 140737488355328 ∧
 k5 (IntKind.wrap .i64 (x0.fnodes + 1)) (if x2 > x0.fdepth then x2 else x0.fdepth) x0.fe (x0.fform || (!v1)) (x0.fnamed || (!S7)) (J9 ++ [Y2]) a0J K) ∧
 ((!Y3) = false →
 k5 (IntKind.wrap .i64 (x0.fnodes + 1)) (if x2 > x0.fdepth then x2 else x0.fdepth) x0.fe (x0.fform || (!v1)) (x0.fnamed || (!S7)) J9 a0J K)))) ∧
 (a7G = false →
 k5 (IntKind.wrap .i64 (x0.fnodes + 1)) (if x2 > x0.fdepth then x2 else x0.fdepth) x0.fe (x0.fform || (!v1)) x0.fnamed J9 a3Q K)))) (fun b0P => ?_) (fun b0P => ?_) ?_
   ·replace h := h.1 b0P
    have a7 := b0P
    try simp only [b5 a7]
    refine a4S a2b h (fun v1 a2O r9 a8H b3f b5U h => ?_)
    exact ⟨v1, a2O, by first | rfl | rw [b5 b0P], a8H, b5U, b3f, h⟩
   ·exact ⟨false, H, by first | rfl | rw [a5g b0P], a2b, fun _ _ _ => rfl, Hle.refl _, h.2 b0P⟩
   ·clear h
    rintro c0l r9 ⟨v1, a2O, rfl, a8H, b5U, b3f, h⟩
    refine a6 (Pu.g fun hb => by have a7 := hb; first | exact (D6 _) | (simp only [b5 a7]; exact (D6 _)) | (simp only [c7 a7, b5 a7, b5 hb, K8 a7, p1]; exact (D6 _))) ?_
    refine a6 (a1t _ _) ?_
    refine a6 (z8 _) ?_
    refine a6 a5v ?_
    refine s6 a8H Tryd.sizeOf4 (vs := [(Value.bool (x0.fform || (!v1)))]) (cs' := [(vi (IntKind.wrap .i64 (x0.fnodes + 1))), (vi (if x2 > x0.fdepth then x2 else x0.fdepth)), (vi x0.fe), (Value.bool (x0.fform || (!v1))), (Value.bool x0.fnamed), (vs H9)]) rfl rfl (nb rfl) rfl rfl fun a5z b5V d7l => ?_
    have hj1 : ∀ (a3o : Int) (a3p : Int) (a3q : Int) (a3r : Bool) (a3s : Bool) (a2e : (List ByteArray)) (a5N : Sl) (a5O : Frag) (H : Hp) (w : World) (_ : RowL 9 1 s8 a5N a2e a5O) (_ : Inv w0 ps0 H0 H [bx g0 92 [(vi a3o), (vi a3p), (vi a3q), (Value.bool a3r), (Value.bool a3s), (vs a5N)], a5O] w) (_ : k5 a3o a3p a3q a3r a3s a2e H K), b2v w R E := by
     intro a3o a3p a3q a3r a3s a2e a5N a5O H w c0m I h
     unfold b2v
     intro _
     unfold k5 at h
     exact hR true (b7.mk a3o a3p a3q a3r a3s (Sl.mk none 0 0)) a2e a5N a5O H _ c0m ((I.bring 1).bring 1) h
    refine v2 fun j1 hx1 => ?_
    refine f8 (cap := []) (fun args w => Tryd.call114 args w) ?_
    refine j8 (Fi := []) (Fr := [bx g0 92 [(vi (IntKind.wrap .i64 (x0.fnodes + 1))), (vi (if x2 > x0.fdepth then x2 else x0.fdepth)), (vi x0.fe), (Value.bool (x0.fform || (!v1))), (Value.bool x0.fnamed), (vs H9)], U0]) b5V (h) (fun e0W a3Q b0L b0J b5W e0X e0Y d7m => ?_) (fun _ _ _ _ _ q => q.elim)
    obtain ⟨Y2, a7G, rfl, rfl, h⟩ := d7m
    refine a6 (p9 _ _ _ rfl) ?_
    refine a6 (p9 _ _ _ rfl) ?_
    refine r8 (fun a8I => ?_) (fun a8I => ?_)
    ·replace h := h.1 a8I
     refine a6 (z8 _) ?_
     refine a6 a5w ?_
     refine c5 (ld1 Tryd.isAgg4 (b5W.at1 (o := 4) (vs := [(Value.bool x0.fnamed)]) (nb rfl) rfl)) ?_
     try simp only [Q8]
     refine a2C (D := fun c0n G1 => ∃ (S7 : Bool) (a4J : Hp) , c0n = (gv x0.fnamed false (Value.bool S7)) ∧ (Inv w0 ps0 H0 a4J [bx g0 92 [(vi (IntKind.wrap .i64 (x0.fnodes + 1))), (vi (if x2 > x0.fdepth then x2 else x0.fdepth)), (vi x0.fe), (Value.bool (x0.fform || (!v1))), (Value.bool x0.fnamed), (vs H9)], U0] G1) ∧ (∀ i, i < b0J.heap.size → ¬ inF [] i → G1.heap[i]? = b0J.heap[i]?) ∧ Hle a3Q a4J ∧ (A7 J9 Y2 a4J (fun (Y3 : Bool) (a0J : Hp) =>
 ((!Y3) = true →
 (J9.length + ([Y2] : List ByteArray).length) * 17 ≤ 140737488355328 ∧
 k5 (IntKind.wrap .i64 (x0.fnodes + 1)) (if x2 > x0.fdepth then x2 else x0.fdepth) x0.fe (x0.fform || (!v1)) (x0.fnamed || (!S7)) (J9 ++ [Y2]) a0J K) ∧
 ((!Y3) = false →
 k5 (IntKind.wrap .i64 (x0.fnodes + 1)) (if x2 > x0.fdepth then x2 else x0.fdepth) x0.fe (x0.fform || (!v1)) (x0.fnamed || (!S7)) J9 a0J K)))) (fun b0Q => ?_) (fun b0Q => ?_) ?_
     ·replace h := h.1 b0Q
      have a7 := b0Q
      try simp only [b5 a7]
      refine f8 (cap := []) (fun args w => Tryd.call115 args w) ?_
      refine j8 (Fi := []) (Fr := [bx g0 92 [(vi (IntKind.wrap .i64 (x0.fnodes + 1))), (vi (if x2 > x0.fdepth then x2 else x0.fdepth)), (vi x0.fe), (Value.bool (x0.fform || (!v1))), (Value.bool x0.fnamed), (vs H9)], U0]) b5W (h) (fun c0n a4J e0Z G1 b3g d1b d1c d7n => ?_) (fun _ _ _ _ _ q => q.elim)
      obtain ⟨S7, rfl, rfl, h⟩ := d7n
      exact ⟨S7, a4J, by first | rfl | rw [b5 b0Q], b3g, d1c, d1b, h⟩
     ·exact ⟨false, a3Q, by first | rfl | rw [a5g b0Q], b5W, fun _ _ _ => rfl, Hle.refl _, h.2 b0Q⟩
     ·clear h
      rintro c0n G1 ⟨S7, a4J, rfl, b3g, d1c, d1b, h⟩
      refine a6 (Pu.g fun hb => by have a7 := hb; first | exact (D6 _) | (simp only [b5 a7]; exact (D6 _)) | (simp only [c7 a7, b5 a7, b5 hb, K8 a7, p1]; exact (D6 _))) ?_
      refine a6 (a1t _ _) ?_
      refine a6 (z8 _) ?_
      refine a6 a5w ?_
      refine s6 b3g Tryd.sizeOf4 (vs := [(Value.bool (x0.fnamed || (!S7)))]) (cs' := [(vi (IntKind.wrap .i64 (x0.fnodes + 1))), (vi (if x2 > x0.fdepth then x2 else x0.fdepth)), (vi x0.fe), (Value.bool (x0.fform || (!v1))), (Value.bool (x0.fnamed || (!S7))), (vs H9)]) rfl rfl (nb rfl) rfl rfl fun L0 b5X d7o => ?_
      refine a6 (z8 _) ?_
      refine a6 a5t ?_
      refine c5 (ld1 Tryd.isAgg47 (b5X.at1 (o := 5) (vs := [(vs H9)]) (nb rfl) rfl)) ?_
      refine f8 (cap := []) (fun args w => Tryd.call116 args w) ?_
      refine j8 (Fi := [U0]) (Fr := [bx g0 92 [(vi (IntKind.wrap .i64 (x0.fnodes + 1))), (vi (if x2 > x0.fdepth then x2 else x0.fdepth)), (vi x0.fe), (Value.bool (x0.fform || (!v1))), (Value.bool (x0.fnamed || (!S7))), (vs H9)]]) (b5X.bring 1) (h H9 U0 a4t) (fun d7p a0J d7q N8 b0R d7r d7s c0o => ?_) (fun _ _ _ _ _ q => q.elim)
      obtain ⟨Y3, rfl, rfl, h⟩ := c0o
      refine a6 (D6 _) ?_
      refine r8 (fun a8J => ?_) (fun a8J => ?_)
      ·replace h := h.1 a8J
       refine a6 (z8 _) ?_
       refine a6 a5t ?_
       refine c5 (ld1 Tryd.isAgg47 ((b0R.bring 1).at1 (o := 5) (vs := [(vs H9)]) (nb rfl) rfl)) ?_
       refine a1w (e := 9) (c := s8) (xs := [Y2]) b0R (c3j _) rfl rfl a8c a8d (nb rfl) fun e1a e1b d7t d7u d1d e1c => ?_
       obtain ⟨d7v, h⟩ := h
       refine c5I (s := H9) (xs := J9) (d1d.bring 1) a4t (d7u.srcO ((d1d.bring 1).bring 1)) d7v fun c0p d7w d1e b3h d7x e1d => ?_
       refine a6 (z8 _) ?_
       refine a6 a5t ?_
       refine s6 ((d7x.bring 1).drop.bring 1) Tryd.sizeOf47 (vs := [(vs c0p)]) (cs' := [(vi (IntKind.wrap .i64 (x0.fnodes + 1))), (vi (if x2 > x0.fdepth then x2 else x0.fdepth)), (vi x0.fe), (Value.bool (x0.fform || (!v1))), (Value.bool (x0.fnamed || (!S7))), (vs c0p)]) rfl rfl (nb rfl) rfl rfl fun X4 d7y e1e => ?_
       exact hx1 _ _ (hj1 (IntKind.wrap .i64 (x0.fnodes + 1)) (if x2 > x0.fdepth then x2 else x0.fdepth) x0.fe (x0.fform || (!v1)) (x0.fnamed || (!S7)) (J9 ++ [Y2]) c0p d7w a0J _ b3h ((d7y.bring 1).bring 1) h)
      ·replace h := h.2 a8J
       exact hx1 _ _ (hj1 (IntKind.wrap .i64 (x0.fnodes + 1)) (if x2 > x0.fdepth then x2 else x0.fdepth) x0.fe (x0.fform || (!v1)) (x0.fnamed || (!S7)) J9 H9 U0 a0J _ a4t (b0R.bring 1) h)
    ·replace h := h.2 a8I
     exact hx1 _ _ (hj1 (IntKind.wrap .i64 (x0.fnodes + 1)) (if x2 > x0.fdepth then x2 else x0.fdepth) x0.fe (x0.fform || (!v1)) x0.fnamed J9 H9 U0 a3Q _ a4t ((b5W.bring 1).bring 1) h)
theorem a2P (x0 : b7) (J9 : (List ByteArray)) (x1 : a8) (x2 : Int) {H : Hp} {K : Bool → b7 → (List ByteArray) → Hp → Prop} (h : J6 x0 J9 x1 x2 H K) : Q3 x0 J9 x1 x2 H K := by
 intro g0 H9 U0 a4t w I
 refine c6W ?_
 refine a2G x0 J9 x1 x2 g0 H9 U0 a4t I (fun r0 y0 a0Y X5 X6 H' w' b3i I' hk => ⟨H', _, I', r0, y0, a0Y, X5, X6, rfl, rfl, b3i, hk⟩) h
def r6 (d7z : Int) (a7H : Bool) (_cr_1j3 : u6) (H : Hp) (K : Bool → Hp → Prop) : Prop :=
 (a7H = true →
 K (decide (d7z = 2)) H) ∧
 (a7H = false →
 K false H)
def B0 (b0S : Int) (a0B : Int) (a7I : Bool) (cr_1j2 : u6) (H : Hp) (K : Bool → Hp → Prop) : Prop :=
 (a7I = true →
 K (decide (b0S = 1)) H) ∧
 (a7I = false →
 (a0B = 6 →
 r6 b0S (decide (a0B = 6)) cr_1j2 H K) ∧
 (¬ (a0B = 6) →
 (a0B = 7 →
 r6 b0S (decide (a0B = 7)) cr_1j2 H K) ∧
 (¬ (a0B = 7) →
 (a0B = 8 →
 r6 b0S (decide (a0B = 8)) cr_1j2 H K) ∧
 (¬ (a0B = 8) →
 (a0B = 9 →
 r6 b0S (decide (a0B = 9)) cr_1j2 H K) ∧
 (¬ (a0B = 9) →
 r6 b0S (decide (a0B = 10)) cr_1j2 H K)))))
def B1 (a5M : Int) (a0A : Int) (a7J : Bool) (cr_1j1 : u6) (H : Hp) (K : Bool → Hp → Prop) : Prop :=
 (a7J = true →
 K (decide (a5M = 0)) H) ∧
 (a7J = false →
 (a0A = 4 →
 B0 a5M a0A (decide (a0A = 4)) cr_1j1 H K) ∧
 (¬ (a0A = 4) →
 B0 a5M a0A (decide (a0A = 5)) cr_1j1 H K))
def M8 (x0 : u6) (H : Hp) (K : Bool → Hp → Prop) : Prop :=
 Q1 (a8.s9 x0) H (fun (_r0_14 : ByteArray) (b5Y : Bool) (H_6 : Hp) =>
 ((((!decide (x0.d8.d4 = 1)) && (!decide (x0.d8.V8 = 0))) || ((!b5Y) && (!decide (x0.d8.c6 = ⟨#[]⟩)))) = true →
 K false H_6) ∧
 ((((!decide (x0.d8.d4 = 1)) && (!decide (x0.d8.V8 = 0))) || ((!b5Y) && (!decide (x0.d8.c6 = ⟨#[]⟩)))) = false →
 (x0.d8.d4 = 1 →
 K ((decide (0 ≤ x0.d8.V8)) && (decide ((x0.d8.u5.n : Int) = 0))) H_6) ∧
 (¬ (x0.d8.d4 = 1) →
 (x0.d8.d4 = 2 →
 B1 (x0.d8.u5.n : Int) x0.d8.d4 (decide (x0.d8.d4 = 2)) x0 H_6 K) ∧
 (¬ (x0.d8.d4 = 2) →
 B1 (x0.d8.u5.n : Int) x0.d8.d4 (decide (x0.d8.d4 = 3)) x0 H_6 K))))
theorem a3R (x0 : u6) {w0 w : World} {ps0 : Nat → Prop} {H0 H : Hp} {K : Bool → Hp → Prop} {R : Value → World → Prop} {E : Pan} (I : Inv w0 ps0 H0 H [] w) (hR : ∀ (r0 : Bool) (H' : Hp) (w' : World) (_ : Inv w0 ps0 H0 H' [] w') (_ : K r0 H'), R (Value.bool r0) w') (h : M8 x0 H K) : b5w (Value.agg (c8 x0.d8).toArray) w R E := by
 unfold M8 at h
 unfold b5w
 refine M6 I (cs := (c8 x0.d8)) rfl fun g_2 w_3 I_4 k_5 => ?_
 refine a6 B6 ?_
 refine a6 a5l ?_
 refine c5 (ld1 Tryd.isAgg28 (I_4.at1 (o := 3) (vs := [(vs x0.d8.u5)]) (nb rfl) rfl)) ?_
 refine a6 (a0h _ _ _) ?_
 refine c5 (ldA Tryd.isAgg96 Tryd.sizeOf96 rfl (I_4.at1 (o := 0) (vs := (c8 x0.d8)) (nb rfl) rfl)) ?_
 refine a6 (a6s x0) ?_
 refine f8 (cap := []) (fun args w => Tryd.call114 args w) ?_
 refine j8 (Fi := []) (Fr := [bx g_2 96 (c8 x0.d8)]) I_4 (h) (fun b3j H_6 b3k w_7 I_8 b3l k_9 a3S => ?_) (fun _ _ _ _ _ q => q.elim)
 obtain ⟨L8, b5Y, rfl, rfl, h⟩ := a3S
 refine a6 (p9 _ _ _ rfl) ?_
 refine a6 (p9 _ _ _ rfl) ?_
 refine a6 B6 ?_
 refine a6 X1 ?_
 refine c5 (ld1 Tryd.isAgg3 (I_8.at1 (o := 0) (vs := [(vi x0.d8.d4)]) (nb rfl) rfl)) ?_
 refine a6 (Z0 _ _ _ _ _ _) ?_
 refine a6 (Pu.g fun hb => by have a7 := hb; first | exact B6 | (simp only [c7 a7, b5 a7, b5 hb, E3 a7]; exact B6) | (simp only [c7 a7, b5 a7, b5 hb, m8 a7, p1]; exact B6)) ?_
 refine a6 (Pu.g fun hb => by have a7 := hb; first | exact a2X | (simp only [b5 a7]; exact a2X) | (simp only [c7 a7, b5 a7, b5 hb, m8 a7, p1]; exact a2X)) ?_
 refine c5 (Ld.g fun hb => by have a7 := hb; first | exact (ld1 Tryd.isAgg2 (I_8.at1 (o := 1) (vs := [(vi x0.d8.V8)]) (nb rfl) rfl)) | (simp only [b5 a7]; exact (ld1 Tryd.isAgg2 (I_8.at1 (o := 1) (vs := [(vi x0.d8.V8)]) (nb rfl) rfl))) | (simp only [c7 a7, b5 a7, b5 hb, m8 a7, p1]; exact (ld1 Tryd.isAgg2 (I_8.at1 (o := 1) (vs := [(vi x0.d8.V8)]) (nb rfl) rfl)))) ?_
 refine a6 (Pu.g fun hb => by have a7 := hb; first | exact (Z0 _ _ _ _ _ _) | (simp only [b5 a7]; exact (Z0 _ _ _ _ _ _)) | (simp only [c7 a7, b5 a7, b5 hb, m8 a7, p1]; exact (Z0 _ _ _ _ _ _))) ?_
 refine a6 (J0 _ _) ?_
 try simp only [Q8]
 refine a6 (Pu.g fun hb => by have a7 := hb; first | exact (D6 _) | (simp only [b5 a7]; exact (D6 _)) | (simp only [c7 a7, b5 a7, b5 hb, K8 a7, p1]; exact (D6 _))) ?_
 try simp only [b1K]
 refine a6 (Pu.e (a3l _ _ _) (Pu.g fun hb => by obtain ⟨a7, O3⟩ := a7t hb; first | exact B6 | (simp only [c7 a7, b5 a7, c7 O3, b5 O3, b5 hb, p1]; exact B6) | (simp only [c7 a7, b5 a7, c7 O3, b5 O3, b5 hb, E3 hb]; exact B6) | (simp only [c7 a7, b5 a7, c7 O3, b5 O3, b5 hb, m8 hb, p1]; exact B6))) ?_
 refine a6 (Pu.e (a3l _ _ _) (Pu.g fun hb => by obtain ⟨a7, O3⟩ := a7t hb; first | exact X2 | (simp only [b5 hb]; exact X2) | (simp only [c7 a7, b5 a7, c7 O3, b5 O3, b5 hb, E3 hb]; exact X2) | (simp only [c7 a7, b5 a7, c7 O3, b5 O3, b5 hb, m8 hb, p1]; exact X2))) ?_
 refine c5 (Ld.e (a3l _ _ _) (Ld.g fun hb => by obtain ⟨a7, O3⟩ := a7t hb; first | exact (ld1 Tryd.isAgg9 (I_8.at1 (o := 2) (vs := [(Value.string x0.d8.c6)]) (nb rfl) rfl)) | (simp only [b5 hb]; exact (ld1 Tryd.isAgg9 (I_8.at1 (o := 2) (vs := [(Value.string x0.d8.c6)]) (nb rfl) rfl))) | (simp only [c7 a7, b5 a7, c7 O3, b5 O3, b5 hb, E3 hb]; exact (ld1 Tryd.isAgg9 (I_8.at1 (o := 2) (vs := [(Value.string x0.d8.c6)]) (nb rfl) rfl))) | (simp only [c7 a7, b5 a7, c7 O3, b5 O3, b5 hb, m8 hb, p1]; exact (ld1 Tryd.isAgg9 (I_8.at1 (o := 2) (vs := [(Value.string x0.d8.c6)]) (nb rfl) rfl))))) ?_
 refine a6 (Pu.e (a3l _ _ _) (Pu.g fun hb => by obtain ⟨a7, O3⟩ := a7t hb; first | exact (a9h _ _ _ _ _) | (simp only [b5 hb]; exact (a9h _ _ _ _ _)) | (simp only [c7 a7, b5 a7, c7 O3, b5 O3, b5 hb, E3 hb]; exact (a9h _ _ _ _ _)) | (simp only [c7 a7, b5 a7, c7 O3, b5 O3, b5 hb, m8 hb, p1]; exact (a9h _ _ _ _ _)))) ?_
 refine a6 (Pu.g fun hb => by have a7 := hb; first | exact (J0 _ _) | (simp only [b5 a7, a6E a7]; exact (J0 _ _)) | (simp only [c7 a7, b5 a7, b5 hb, K8 a7, p1]; exact (J0 _ _))) ?_
 refine a6 (a1t _ _) ?_
 refine r8 (fun c0q => ?_) (fun c0q => ?_)
 ·replace h := h.1 c0q
  exact hR false H_6 _ I_8.drop h
 ·replace h := h.2 c0q
  refine a6 B6 ?_
  refine a6 X1 ?_
  refine c5 (ld1 Tryd.isAgg3 (I_8.at1 (o := 0) (vs := [(vi x0.d8.d4)]) (nb rfl) rfl)) ?_
  refine a6 (f7 _ _ _ _ _ _) ?_
  refine d7 (fun c0r => ?_) (fun c0r => ?_)
  ·replace h := h.1 c0r
   refine a6 B6 ?_
   refine a6 a2X ?_
   refine c5 (ld1 Tryd.isAgg2 (I_8.at1 (o := 1) (vs := [(vi x0.d8.V8)]) (nb rfl) rfl)) ?_
   refine a6 (a6C _ _ _ _ _ _) ?_
   try simp only [Q8]
   refine a6 (Pu.g fun hb => by have a7 := hb; first | exact (f7 _ _ _ _ _ _) | (simp only [b5 a7]; exact (f7 _ _ _ _ _ _)) | (simp only [c7 a7, b5 a7, b5 hb, m8 a7, p1]; exact (f7 _ _ _ _ _ _))) ?_
   refine a6 (J0 _ _) ?_
   exact hR ((decide (0 ≤ x0.d8.V8)) && (decide ((x0.d8.u5.n : Int) = 0))) H_6 _ I_8.drop h
  ·replace h := h.2 c0r
   have hj1 : ∀ (a7J : Bool) (H : Hp) (w : World) (_ : Inv w0 ps0 H0 H [bx g_2 96 (c8 x0.d8)] w) (_ : B1 (x0.d8.u5.n : Int) x0.d8.d4 a7J x0 H K), b0C (vi (x0.d8.u5.n : Int)) (vi x0.d8.d4) (Value.bool a7J) w R E := by
    intro a7J H w I h
    unfold b0C
    intro _
    unfold B1 at h
    refine r8 (fun c0s => ?_) (fun c0s => ?_)
    ·replace h := h.1 c0s
     refine a6 (f7 _ _ _ _ _ _) ?_
     exact hR (decide ((x0.d8.u5.n : Int) = 0)) H _ I.drop h
    ·replace h := h.2 c0s
     have hj2 : ∀ (a7I : Bool) (H : Hp) (w : World) (_ : Inv w0 ps0 H0 H [bx g_2 96 (c8 x0.d8)] w) (_ : B0 (x0.d8.u5.n : Int) x0.d8.d4 a7I x0 H K), b0B (vi (x0.d8.u5.n : Int)) (vi x0.d8.d4) (Value.bool a7I) w R E := by
      intro a7I H w I h
      unfold b0B
      intro _
      unfold B0 at h
      refine r8 (fun a3F => ?_) (fun a3F => ?_)
      ·replace h := h.1 a3F
       refine a6 (f7 _ _ _ _ _ _) ?_
       exact hR (decide ((x0.d8.u5.n : Int) = 1)) H _ I.drop h
      ·replace h := h.2 a3F
       have hj3 : ∀ (a7H : Bool) (H : Hp) (w : World) (_ : Inv w0 ps0 H0 H [bx g_2 96 (c8 x0.d8)] w) (_ : r6 (x0.d8.u5.n : Int) a7H x0 H K), b0A (vi (x0.d8.u5.n : Int)) (Value.bool a7H) w R E := by
        intro a7H H w I h
        unfold b0A
        intro _
        unfold r6 at h
        refine r8 (fun a0Z => ?_) (fun a0Z => ?_)
        ·replace h := h.1 a0Z
         refine a6 (f7 _ _ _ _ _ _) ?_
         exact hR (decide ((x0.d8.u5.n : Int) = 2)) H _ I.drop h
        ·replace h := h.2 a0Z
         exact hR false H _ I.drop h
       refine v2 fun j3 hx3 => ?_
       refine a6 (f7 _ _ _ _ _ _) ?_
       refine d7 (fun a3G => ?_) (fun a3G => ?_)
       ·replace h := h.1 a3G
        exact hx3 _ _ (hj3 (decide (x0.d8.d4 = 6)) H _ I h)
       ·replace h := h.2 a3G
        refine a6 (f7 _ _ _ _ _ _) ?_
        refine d7 (fun a3J => ?_) (fun a3J => ?_)
        ·replace h := h.1 a3J
         exact hx3 _ _ (hj3 (decide (x0.d8.d4 = 7)) H _ I h)
        ·replace h := h.2 a3J
         refine a6 (f7 _ _ _ _ _ _) ?_
         refine d7 (fun a3H => ?_) (fun a3H => ?_)
         ·replace h := h.1 a3H
          exact hx3 _ _ (hj3 (decide (x0.d8.d4 = 8)) H _ I h)
         ·replace h := h.2 a3H
          refine a6 (f7 _ _ _ _ _ _) ?_
          refine d7 (fun a3I => ?_) (fun a3I => ?_)
          ·replace h := h.1 a3I
           exact hx3 _ _ (hj3 (decide (x0.d8.d4 = 9)) H _ I h)
          ·replace h := h.2 a3I
           refine a6 (f7 _ _ _ _ _ _) ?_
           exact hx3 _ _ (hj3 (decide (x0.d8.d4 = 10)) H _ I h)
     refine v2 fun j2 hx2 => ?_
     refine a6 (f7 _ _ _ _ _ _) ?_
     refine d7 (fun a8K => ?_) (fun a8K => ?_)
     ·replace h := h.1 a8K
      exact hx2 _ _ (hj2 (decide (x0.d8.d4 = 4)) H _ I h)
     ·replace h := h.2 a8K
      refine a6 (f7 _ _ _ _ _ _) ?_
      exact hx2 _ _ (hj2 (decide (x0.d8.d4 = 5)) H _ I h)
   refine v2 fun j1 hx1 => ?_
   refine a6 (f7 _ _ _ _ _ _) ?_
   refine d7 (fun c0t => ?_) (fun c0t => ?_)
   ·replace h := h.1 c0t
    exact hx1 _ _ (hj1 (decide (x0.d8.d4 = 2)) H_6 _ I_8 h)
   ·replace h := h.2 c0t
    refine a6 (f7 _ _ _ _ _ _) ?_
    exact hx1 _ _ (hj1 (decide (x0.d8.d4 = 3)) H_6 _ I_8 h)
theorem a4j (x0 : u6) {H : Hp} {K : Bool → Hp → Prop} (h : M8 x0 H K) : T3 x0 H K := by
 intro w I
 refine c3T ?_
 refine a3R x0 I (fun r0 H' w' I' hk => ⟨H', _, I', r0, rfl, rfl, hk⟩) h
def m2 (L4 : (List a8)) (H : Hp) (K : Sl → Hp → Prop) : Prop :=
 ∀ (u9 : Sl) (O0 : Hp), Hle H O0 → SlH O0 1 h7 u9 L4 → u9.n ≤ u9.c →
 K u9 O0
def m3 (Q4 : Sl) (O1 : Int) (j9 : (List a8)) (i5 : Int) (H : Hp) (n2 : ((List a8) × Int) → Hp → Prop) (K : Sl → Hp → Prop) : Prop :=
 (i5 < O1 →
 (0 : Int) ≤ i5 ∧ (i5 : Int) < Q4.n ∧ ∃ x_1 : o9, EltH H Q4 i5 4 (c8 x_1) ∧
 a1M x_1 H (fun (E5 : a8) (W6 : Hp) =>
 (j9.length + ([E5] : List a8).length) * 17 ≤ 140737488355328 ∧
 n2 ((j9 ++ [E5]), (IntKind.wrap .i64 (i5 + 1))) W6)) ∧
 (¬ (i5 < O1) →
 m2 j9 H K)
def o5 (x0 : Sl) (H : Hp) (K : Sl → Hp → Prop) : Prop :=
 TL (([], 0) : (List a8) × Int) H fun (s : (List a8) × Int) H n2 => m3 x0 (x0.n : Int) s.1 s.2 H n2 K
theorem N4 (x0 : Sl) {w0 w : World} {ps0 : Nat → Prop} {H0 H : Hp} {K : Sl → Hp → Prop} {R : Value → World → Prop} {E : Pan} (I : Inv w0 ps0 H0 H [] w) (hR : ∀ (r0 : Sl) (H' : Hp) (w' : World) (_ : Inv w0 ps0 H0 H' [] w') (_ : K r0 H'), R (vs r0) w') (h : o5 x0 H K) : b5y (vs x0) (Value.func (.func 151) #[] #[]) w R E := by
 unfold o5 at h
 unfold b5y
 have hj1 : ∀ (L4 : (List a8)) (u9 : Sl) (Fs5j1 : Frag) (H : Hp) (w : World) (_ : RowL 141 1 h7 u9 L4 Fs5j1) (_ : Inv w0 ps0 H0 H [Fs5j1] w) (_ : m2 L4 H K), b0E (vs u9) w R E := by
  intro L4 u9 Fs5j1 H w a5F I h
  unfold b0E
  intro _
  unfold m2 at h
  obtain ⟨O0, a3K, a7b, a3L, a4I⟩ := Inv.freezeC I a5F (by decide)
  replace h := h u9 O0 a7b a3L a4I
  exact hR u9 O0 _ a3K h
 refine v2 fun j1 hx1 => ?_
 refine a6 (a0h _ _ _) ?_
 obtain ⟨a1b, S5, a8z, a8A⟩ := h
 refine G2 (J := fun n l w => ∃ (s : (List a8) × Int) (H : Hp) (L5 : Sl) (Fs5l2 : Frag) , n = S5 s ∧ l = (match s with | (j9, i5) => [(vs L5), (vi i5)]) ∧ (match s with | (j9, i5) => RowL 141 1 h7 L5 j9 Fs5l2) ∧ (match s with | (j9, i5) => Inv w0 ps0 H0 H [Fs5l2] w) ∧ a1b s H) ⟨_, ([], 0), H, (Sl.mk none 0 0), [], rfl, rfl, (RowL.nil C7 E2), I.nil, a8z⟩ ?_
 rintro b9W τ_50 w next2 ⟨⟨j9, i5⟩, H, L5, Fs5l2, rfl, a1d, X9, I, a8B⟩ hn2
 dsimp only at a1d I X9
 simp only [List.map_cons, List.map_nil, List.cons.injEq, and_true] at a1d
 obtain ⟨e5, e10⟩ := a1d
 simp only [e5, e10]
 obtain ⟨n2, hm2, h⟩ : ∃ n2 : ((List a8) × Int) → Hp → Prop, (∀ s' H', n2 s' H' → a1b s' H' ∧ S5 s' < S5 (j9, i5)) ∧ m3 x0 (x0.n : Int) j9 i5 H n2 K := ⟨_, fun _ _ h => h, a8A (j9, i5) H (fun s' H' => a1b s' H' ∧ S5 s' < S5 (j9, i5)) a8B (fun _ _ a b => ⟨a, b⟩)⟩
 unfold b4E
 unfold m3 at h
 refine a6 (K7 _ _ _ _ _ _) ?_
 refine d7 (fun Y0 => ?_) (fun Y0 => ?_)
 ·replace h := h.1 Y0
  obtain ⟨h_4, h_5, x_1, h_7, h⟩ := h
  obtain ⟨g_2, o_3, h_6, h_7⟩ := h_7
  refine a6 (a5m h_6 _ _ _ _ h_4 h_5) ?_
  refine c5 (ldA (vs := (c8 x_1)) Tryd.isAgg30 Tryd.sizeOf30 rfl (I.atH h_7)) ?_
  refine E7 I Tryd.zeroValue30 (cs := [(vi 0), (vi 0), (Value.string ⟨#[]⟩), (Value.slice none 0 0)]) rfl fun g_9 o2 a2b b2W => ?_
  refine s6 a2b Tryd.sizeOf30 (vs := (c8 x_1)) (cs' := (c8 x_1)) rfl rfl (nb rfl) rfl rfl fun a3x a3M b9X => ?_
  refine c5 (ldA Tryd.isAgg30 Tryd.sizeOf30 rfl (a3M.at1 (o := 0) (vs := (c8 x_1)) (nb rfl) rfl)) ?_
  refine f8 (cap := []) (fun args w => Tryd.call151 args w) ?_
  refine j8 (Fi := []) (Fr := [bx g_9 30 (c8 x_1), Fs5l2]) a3M (h) (fun b5K W6 b5L a0F a0o b5M b5N a5G => ?_) (fun _ _ _ _ _ q => q.elim)
  obtain ⟨E5, rfl, rfl, h⟩ := a5G
  refine a1w (e := 141) (c := h7) (xs := [E5]) a0o (a7x _) rfl rfl C7 E2 (nb rfl) fun b2X b0L G4 a5H a0I b2Y => ?_
  obtain ⟨a5I, h⟩ := h
  refine a6H (s := L5) (xs := j9) (a0I.bring 2) X9 (a5H.srcO ((a0I.bring 2).bring 1)) a5I fun a8C a8D J3 a5J a2N b5O => ?_
  refine a6 (F8 _ _ _ _ _ _) ?_
  exact hn2 _ _ _ (hm2 _ _ h).2 ⟨((j9 ++ [E5]), (IntKind.wrap .i64 (i5 + 1))), W6, a8C, a8D, rfl, rfl, a5J, ((a2N.bring 1).drop.bring 1).drop, (hm2 _ _ h).1⟩
 ·replace h := h.2 Y0
  exact hx1 _ _ (hj1 j9 L5 Fs5l2 H _ X9 I h)
theorem O4 (x0 : Sl) {H : Hp} {K : Sl → Hp → Prop} (h : o5 x0 H K) : j7 x0 H K := by
 intro w I
 refine c3X ?_
 refine N4 x0 I (fun r0 H' w' I' hk => ⟨H', _, I', r0, rfl, rfl, hk⟩) h
def R3 (x0 : p8) (H : Hp) (K : a8 → Hp → Prop) : Prop :=
 K (a8.A4 (B3.mk x0)) H
theorem a4V (x0 : p8) {w0 w : World} {ps0 : Nat → Prop} {H0 H : Hp} {K : a8 → Hp → Prop} {R : Value → World → Prop} {E : Pan} (I : Inv w0 ps0 H0 H [] w) (hR : ∀ (r0 : a8) (H' : Hp) (w' : World) (_ : Inv w0 ps0 H0 H' [] w') (_ : K r0 H'), R (l9 r0) w') (h : R3 x0 H K) : b5E (Value.agg (d9 x0).toArray) w R E := by
 unfold R3 at h
 unfold b5E
 refine M6 I (cs := (d9 x0)) rfl fun g_2 w_3 I_4 k_5 => ?_
 refine c5 (ldA Tryd.isAgg33 Tryd.sizeOf33 rfl (I_4.at1 (o := 0) (vs := (d9 x0)) (nb rfl) rfl)) ?_
 refine a6 (b2l _ _ _ _ _ _ _ _) ?_
 refine a6 (b0j (B3.mk x0)) ?_
 exact hR (a8.A4 (B3.mk x0)) H _ I_4.drop h
theorem a5P (x0 : p8) {H : Hp} {K : a8 → Hp → Prop} (h : R3 x0 H K) : a1N x0 H K := by
 intro w I
 refine c4i ?_
 refine a4V x0 I (fun r0 H' w' I' hk => ⟨H', _, I', r0, rfl, rfl, hk⟩) h
def M9 (x0 : D3) (H : Hp) (K : Bool → Hp → Prop) : Prop :=
 K ((decide (0 ≤ x0.C6.K0)) && (decide (x0.C6.K0 ≤ 2147483647))) H
theorem a3T (x0 : D3) {w0 w : World} {ps0 : Nat → Prop} {H0 H : Hp} {K : Bool → Hp → Prop} {R : Value → World → Prop} {E : Pan} (I : Inv w0 ps0 H0 H [] w) (hR : ∀ (r0 : Bool) (H' : Hp) (w' : World) (_ : Inv w0 ps0 H0 H' [] w') (_ : K r0 H'), R (Value.bool r0) w') (h : M9 x0 H K) : b5F (Value.agg (g7 x0.C6).toArray) w R E := by
 unfold M9 at h
 unfold b5F
 refine M6 I (cs := (g7 x0.C6)) rfl fun g_2 w_3 I_4 k_5 => ?_
 refine a6 a0N ?_
 refine a6 a0t ?_
 refine c5 (ld1 Tryd.isAgg3 (I_4.at1 (o := 1) (vs := [(vi x0.C6.K0)]) (nb rfl) rfl)) ?_
 refine a6 (a6C _ _ _ _ _ _) ?_
 refine a6 (Pu.g fun hb => by have a7 := hb; first | exact a0N | (simp only [c7 a7, b5 a7, b5 hb, E3 a7]; exact a0N) | (simp only [c7 a7, b5 a7, b5 hb, m8 a7, p1]; exact a0N)) ?_
 refine a6 (Pu.g fun hb => by have a7 := hb; first | exact a0t | (simp only [b5 a7]; exact a0t) | (simp only [c7 a7, b5 a7, b5 hb, m8 a7, p1]; exact a0t)) ?_
 refine c5 (Ld.g fun hb => by have a7 := hb; first | exact (ld1 Tryd.isAgg3 (I_4.at1 (o := 1) (vs := [(vi x0.C6.K0)]) (nb rfl) rfl)) | (simp only [b5 a7]; exact (ld1 Tryd.isAgg3 (I_4.at1 (o := 1) (vs := [(vi x0.C6.K0)]) (nb rfl) rfl))) | (simp only [c7 a7, b5 a7, b5 hb, m8 a7, p1]; exact (ld1 Tryd.isAgg3 (I_4.at1 (o := 1) (vs := [(vi x0.C6.K0)]) (nb rfl) rfl)))) ?_
 refine a6 (Pu.g fun hb => by have a7 := hb; first | exact (a0M _ _ _ _ _ _) | (simp only [b5 a7]; exact (a0M _ _ _ _ _ _)) | (simp only [c7 a7, b5 a7, b5 hb, m8 a7, p1]; exact (a0M _ _ _ _ _ _))) ?_
 refine a6 (J0 _ _) ?_
 exact hR ((decide (0 ≤ x0.C6.K0)) && (decide (x0.C6.K0 ≤ 2147483647))) H _ I_4.drop h
theorem a4k (x0 : D3) {H : Hp} {K : Bool → Hp → Prop} (h : M9 x0 H K) : a0E x0 H K := by
 intro w I
 refine c4k ?_
 refine a3T x0 I (fun r0 H' w' I' hk => ⟨H', _, I', r0, rfl, rfl, hk⟩) h
def L9 (_x0 : D3) (H : Hp) (K : Sl → Hp → Prop) : Prop :=
 K (Sl.mk none 0 0) H
theorem a3d (x0 : D3) {w0 w : World} {ps0 : Nat → Prop} {H0 H : Hp} {K : Sl → Hp → Prop} {R : Value → World → Prop} {E : Pan} (I : Inv w0 ps0 H0 H [] w) (hR : ∀ (r0 : Sl) (H' : Hp) (w' : World) (_ : Inv w0 ps0 H0 H' [] w') (_ : K r0 H'), R (vs r0) w') (h : L9 x0 H K) : b5G (Value.agg (g7 x0.C6).toArray) w R E := by
 unfold L9 at h
 unfold b5G
 refine M6 I (cs := (g7 x0.C6)) rfl fun g_2 w_3 I_4 k_5 => ?_
 exact hR (Sl.mk none 0 0) H _ I_4.drop h
theorem a3U (x0 : D3) {H : Hp} {K : Sl → Hp → Prop} (h : L9 x0 H K) : a0l x0 H K := by
 intro w I
 refine c4m ?_
 refine a3d x0 I (fun r0 H' w' I' hk => ⟨H', _, I', r0, rfl, rfl, hk⟩) h
end Go.Proofs.YthldnpmfelniiaaDoor
