/- Typed formulas of the program's functions, and the theorems that the contracts follow from them; printed by lift.py off the code. -/
import Derived.Test.YthldnpmfelniiaaDoorzSV1
namespace Go.Proofs.YthldnpmfelniiaaDoor
open Go.RowKit
set_option maxRecDepth 100000
set_option maxHeartbeats 2000000
def m5 (_s0j5 : Sl) (a9q : Int) (_s9j5 : Sl) (_s10j5 : Int) (d1w : Int) (H : Hp) (n4 : (Int × Int) → Hp → Prop) (_K : Sl → Hp → Prop) : Prop :=
 n4 (a9q, (IntKind.wrap .i64 (d1w + 1))) H
def m6 (a8u : (List b3)) (H : Hp) (K : Sl → Hp → Prop) : Prop :=
 ∀ (a1O : Sl) (a4X : Hp), Hle H a4X → SlH a4X 1 g6 a1O a8u → a1O.n ≤ a1O.c →
 K a1O a4X
def m7 (N5 : Sl) (c0x : Int) (V2 : (List b3)) (S1 : Int) (H : Hp) (n3 : ((List b3) × Int) → Hp → Prop) (K : Sl → Hp → Prop) : Prop :=
 (S1 < c0x →
 (0 : Int) ≤ S1 ∧ (S1 : Int) < N5.n ∧ ∃ b4u : Sl, EltH H N5 S1 1 [(vs b4u)] ∧
 ∃ a8v : List b3, SlH H 1 g6 b4u a8v ∧ (V2.length + a8v.length) * 17 ≤ 140737488355328 ∧
 n3 ((V2 ++ a8v), (IntKind.wrap .i64 (S1 + 1))) H) ∧
 (¬ (S1 < c0x) →
 m6 V2 H K)
def m8 (c8i : Sl) (T4 : Int) (H : Hp) (K : Sl → Hp → Prop) : Prop :=
 z7 T4 H (fun (b4v : (List b3)) (H_9 : Hp) =>
 TL ((b4v, 0) : (List b3) × Int) H_9 fun (s : (List b3) × Int) H n3 => m7 c8i (c8i.n : Int) s.1 s.2 H n3 K)
def m9 (c8j : Sl) (b8p : Sl) (b4w : Int) (a1p : Int) (R2 : Int) (H : Hp) (n4 : (Int × Int) → Hp → Prop) (K : Sl → Hp → Prop) : Prop :=
 (R2 < b4w →
 (0 : Int) ≤ R2 ∧ (R2 : Int) < b8p.n ∧ ∃ x_1 : Sl, EltH H b8p R2 1 [(vs x_1)] ∧
 ((IntKind.wrap .i64 (a1p + (x_1.n : Int))) < 0 →
 False) ∧
 (¬ ((IntKind.wrap .i64 (a1p + (x_1.n : Int))) < 0) →
 m5 c8j (IntKind.wrap .i64 (a1p + (x_1.n : Int))) b8p b4w R2 H n4 K)) ∧
 (¬ (R2 < b4w) →
 m8 c8j a1p H K)
def o8 (x0 : Sl) (H : Hp) (K : Sl → Hp → Prop) : Prop :=
 TL ((0, 0) : Int × Int) H fun (s : Int × Int) H n4 => m9 x0 x0 (x0.n : Int) s.1 s.2 H n4 K
theorem N6 (x0 : Sl) {w0 w : World} {ps0 : Nat → Prop} {H0 H : Hp} {K : Sl → Hp → Prop} {R : Value → World → Prop} {E : Pan} (I : Inv w0 ps0 H0 H [] w) (hR : ∀ (r0 : Sl) (H' : Hp) (w' : World) (_ : Inv w0 ps0 H0 H' [] w') (_ : K r0 H'), R (vs r0) w') (h : o8 x0 H K) : F94 (vs x0) w R E := by
 unfold o8 at h
 unfold F94
 have hj1 : ∀ (T4 : Int) (H : Hp) (w : World) (_ : Inv w0 ps0 H0 H [] w) (_ : m8 x0 T4 H K), b1a (vs x0) (vi T4) w R E := by
  intro T4 H w I h
  unfold b1a
  intro _
  unfold m8 at h
  refine d6 (cap := []) (fun args w => Tryd.call120 args w) ?_
  refine i2 (Fi := []) (Fr := []) I (h) (fun d7O H_9 c8k l0 a0b b8q a9m d3L => ?_) (fun _ _ _ _ _ q => q.elim)
  obtain ⟨b4v, c8l, c8m, rfl, rfl, c8n, h⟩ := d3L
  have hj2 : ∀ (a8u : (List b3)) (a1O : Sl) (Fs6j2 : Frag) (H : Hp) (w : World) (_ : RowL 141 1 g6 a1O a8u Fs6j2) (_ : Inv w0 ps0 H0 H [Fs6j2] w) (_ : m6 a8u H K), b0Z (vs a1O) w R E := by
   intro a8u a1O Fs6j2 H w d1x I h
   unfold b0Z
   intro _
   unfold m6 at h
   obtain ⟨a4X, a1Z, d3M, a2V, d3N⟩ := Inv.freezeC I d1x (by decide)
   replace h := h a1O a4X d3M a2V d3N
   exact hR a1O a4X _ a1Z h
  refine t7 fun j2 hx2 => ?_
  refine a7 (a7X _ _ _) ?_
  obtain ⟨b8r, b1S, d3O, d3P⟩ := h
  refine B7 (J := fun n l w => ∃ (s : (List b3) × Int) (H : Hp) (a8w : Sl) (Fs6l3 : Frag) , n = b1S s ∧ l = (match s with | (V2, S1) => [(vs a8w), (vi S1)]) ∧ (match s with | (V2, S1) => RowL 141 1 g6 a8w V2 Fs6l3) ∧ (match s with | (V2, S1) => Inv w0 ps0 H0 H [Fs6l3] w) ∧ b8r s H) ⟨_, (b4v, 0), H_9, c8l, c8m, rfl, rfl, c8n, a0b, d3O⟩ ?_
  rintro d7P τ_46 w next3 ⟨⟨V2, S1⟩, H, a8w, Fs6l3, rfl, b8s, b4x, I, d3Q⟩ hn3
  dsimp only at b8s I b4x
  simp only [List.map_cons, List.map_nil, List.cons.injEq, and_true] at b8s
  obtain ⟨e6, e27⟩ := b8s
  simp only [e6, e27]
  obtain ⟨n3, hm3, h⟩ : ∃ n3 : ((List b3) × Int) → Hp → Prop, (∀ s' H', n3 s' H' → b8r s' H' ∧ b1S s' < b1S (V2, S1)) ∧ m7 x0 (x0.n : Int) V2 S1 H n3 K := ⟨_, fun _ _ h => h, d3P (V2, S1) H (fun s' H' => b8r s' H' ∧ b1S s' < b1S (V2, S1)) d3Q (fun _ _ a b => ⟨a, b⟩)⟩
  unfold b6p
  unfold m7 at h
  refine a7 (E7 _ _ _ _ _ _) ?_
  refine d8 (fun b8t => ?_) (fun b8t => ?_)
  ·replace h := h.1 b8t
   obtain ⟨d3R, d3S, b4u, b8u, h⟩ := h
   obtain ⟨c8o, d7Q, b8v, b8u⟩ := b8u
   refine a7 (a9U b8v _ _ _ _ d3R d3S) ?_
   refine b7 (ld1 (v := (vs b4u)) Tryd.isAgg97 (I.atH b8u)) ?_
   obtain ⟨a8v, d3T, h⟩ := h
   obtain ⟨d3U, h⟩ := h
   refine a5F (s := a8w) (xs := V2) I b4x (SlH.src I d3T y9) d3U fun b1K a9n C1 a4S a1D b4r => ?_
   refine a7 (A6 _ _ _ _ _ _) ?_
   exact hn3 _ _ _ (hm3 _ _ h).2 ⟨((V2 ++ a8v), (IntKind.wrap .i64 (S1 + 1))), H, b1K, a9n, rfl, rfl, a4S, a1D, (hm3 _ _ h).1⟩
  ·replace h := h.2 b8t
   exact hx2 _ _ (hj2 V2 a8w Fs6l3 H _ b4x I h)
 refine t7 fun j1 hx1 => ?_
 refine a7 (a7X _ _ _) ?_
 obtain ⟨b8w, b1T, d3V, d3W⟩ := h
 refine B7 (J := fun n l w => ∃ (s : Int × Int) (H : Hp) , n = b1T s ∧ l = (match s with | (a1p, R2) => [(vi a1p), (vi R2)]) ∧ (match s with | (a1p, R2) => Inv w0 ps0 H0 H [] w) ∧ b8w s H) ⟨_, (0, 0), H, rfl, rfl, I, d3V⟩ ?_
 rintro d7R τ_55 w next4 ⟨⟨a1p, R2⟩, H, rfl, b8x, I, b1U⟩ hn4
 dsimp only at b8x I
 simp only [List.map_cons, List.map_nil, List.cons.injEq, and_true] at b8x
 obtain ⟨e3, e11⟩ := b8x
 simp only [e3, e11]
 obtain ⟨n4, hm4, h⟩ : ∃ n4 : (Int × Int) → Hp → Prop, (∀ s' H', n4 s' H' → b8w s' H' ∧ b1T s' < b1T (a1p, R2)) ∧ m9 x0 x0 (x0.n : Int) a1p R2 H n4 K := ⟨_, fun _ _ h => h, d3W (a1p, R2) H (fun s' H' => b8w s' H' ∧ b1T s' < b1T (a1p, R2)) b1U (fun _ _ a b => ⟨a, b⟩)⟩
 unfold b6q
 unfold m9 at h
 refine a7 (E7 _ _ _ _ _ _) ?_
 refine d8 (fun b8y => ?_) (fun b8y => ?_)
 ·replace h := h.1 b8y
  have hj5 : ∀ (a9q : Int) (H : Hp) (w : World) (_ : Inv w0 ps0 H0 H [] w) (_ : m5 x0 a9q x0 (x0.n : Int) R2 H n4 K), b1b (vs x0) (vi a9q) (vs x0) (vi (x0.n : Int)) (vi R2) w next4 R E := by
   intro a9q H w I h
   unfold b1b
   intro _
   unfold m5 at h
   refine a7 (A6 _ _ _ _ _ _) ?_
   exact hn4 _ _ _ (hm4 _ _ h).2 ⟨(a9q, (IntKind.wrap .i64 (R2 + 1))), H, rfl, rfl, I, (hm4 _ _ h).1⟩
  refine t7 fun j5 hx5 => ?_
  obtain ⟨h_4, h_5, x_1, h_7, h⟩ := h
  obtain ⟨g_2, o_3, h_6, h_7⟩ := h_7
  refine a7 (a9U h_6 _ _ _ _ h_4 h_5) ?_
  refine b7 (ld1 (v := (vs x_1)) Tryd.isAgg97 (I.atH h_7)) ?_
  refine a7 (a3A _ _ _) ?_
  refine a7 (A6 _ _ _ _ _ _) ?_
  refine a7 (E7 _ _ _ _ _ _) ?_
  refine d8 (fun c_8 => ?_) (fun c_8 => ?_)
  ·replace h := h.1 c_8
   refine a7 (b6m _) ?_
   exact h.elim
  ·replace h := h.2 c_8
   exact hx5 _ _ (hj5 (IntKind.wrap .i64 (a1p + (x_1.n : Int))) H _ I h)
 ·replace h := h.2 b8y
  exact hx1 _ _ (hj1 a1p H _ I h)
theorem O7 (x0 : Sl) {H : Hp} {K : Sl → Hp → Prop} (h : o8 x0 H K) : k8 x0 H K := by
 intro w I
 refine c4K ?_
 refine N6 x0 I (fun r0 H' w' I' hk => ⟨H', _, I', r0, rfl, rfl, hk⟩) h
def B1 (x0 : (List ByteArray)) (x1 : ByteArray) (H : Hp) (K : Bool → Hp → Prop) : Prop :=
 K6 x0 x1 H (fun (A8 : Int) (H_1 : Hp) =>
 K (decide (0 ≤ A8)) H_1)
theorem a0u (x0 : (List ByteArray)) (x1 : ByteArray) (sx0 : Sl) (Fx0 : Frag) (hx0 : RowL 9 1 p5 sx0 x0 Fx0) {w0 w : World} {ps0 : Nat → Prop} {H0 H : Hp} {K : Bool → Hp → Prop} {R : Value → World → Prop} {E : Pan} (I : Inv w0 ps0 H0 H [Fx0] w) (hR : ∀ (r0 : Bool) (H' : Hp) (w' : World) (_ : Inv w0 ps0 H0 H' [Fx0] w') (_ : K r0 H'), R (Value.bool r0) w') (h : B1 x0 x1 H K) : b3O (vs sx0) (Value.string x1) w R E := by
 unfold B1 at h
 unfold b3O
 refine d6 (cap := []) (fun args w => Tryd.call127 args w) ?_
 refine i2 (Fi := [Fx0]) (Fr := []) I (h sx0 Fx0 hx0) (fun v_5 H_1 F_6 w_2 I_3 l_8 k_4 q_7 => ?_) (fun _ _ _ _ _ q => q.elim)
 obtain ⟨A8, rfl, rfl, h⟩ := q_7
 refine a7 (a7P _ _ _ _ _ _) ?_
 exact hR (decide (0 ≤ A8)) H_1 _ I_3 h
theorem a0P (x0 : (List ByteArray)) (x1 : ByteArray) {H : Hp} {K : Bool → Hp → Prop} (h : B1 x0 x1 H K) : u9 x0 x1 H K := by
 intro sx0 Fx0 hx0 w I
 refine c1y ?_
 refine a0u x0 x1 sx0 Fx0 hx0 I (fun r0 H' w' I' hk => ⟨H', _, I', r0, rfl, rfl, hk⟩) h
def i6 (a2z : Int) (a2A : Int) (a2B : Int) (a2C : Bool) (a2D : Bool) (a1E : (List ByteArray)) (H : Hp) (K : Bool → b6 → (List ByteArray) → Hp → Prop) : Prop :=
 K true (b6.mk a2z a2A a2B a2C a2D (Sl.mk none 0 0)) a1E H
def D1 (x0 : b6) (E5 : (List ByteArray)) (x1 : b3) (x2 : Int) (H : Hp) (K : Bool → b6 → (List ByteArray) → Hp → Prop) : Prop :=
 (4096 < (IntKind.wrap .i64 (x0.fnodes + 1)) →
 K false (b6.mk (IntKind.wrap .i64 (x0.fnodes + 1)) x0.fdepth 33 x0.fform x0.fnamed (Sl.mk none 0 0)) E5 H) ∧
 (¬ (4096 < (IntKind.wrap .i64 (x0.fnodes + 1))) →
 (64 < x2 →
 K false (b6.mk (IntKind.wrap .i64 (x0.fnodes + 1)) x0.fdepth 32 x0.fform x0.fnamed (Sl.mk none 0 0)) E5 H) ∧
 (¬ (64 < x2) →
 TG (x0.fform = false) (U8 x1 H) false H (fun (s1 : Bool) (a6d : Hp) =>
 M0 x1 a6d (fun (V3 : ByteArray) (a6G : Bool) (a2Y : Hp) =>
 (a6G = true →
 TG (x0.fnamed = false) (R8 V3 a2Y) false a2Y (fun (P3 : Bool) (a3W : Hp) =>
 u9 E5 V3 a3W (fun (V4 : Bool) (a0d : Hp) =>
 ((!V4) = true →
 (E5.length + ([V3] : List ByteArray).length) * 17 ≤ 140737488355328 ∧
 i6 (IntKind.wrap .i64 (x0.fnodes + 1)) (if x2 > x0.fdepth then x2 else x0.fdepth) x0.fe (x0.fform || (!s1)) (x0.fnamed || (!P3)) (E5 ++ [V3]) a0d K) ∧
 ((!V4) = false →
 i6 (IntKind.wrap .i64 (x0.fnodes + 1)) (if x2 > x0.fdepth then x2 else x0.fdepth) x0.fe (x0.fform || (!s1)) (x0.fnamed || (!P3)) E5 a0d K)))) ∧
 (a6G = false →
 i6 (IntKind.wrap .i64 (x0.fnodes + 1)) (if x2 > x0.fdepth then x2 else x0.fdepth) x0.fe (x0.fform || (!s1)) x0.fnamed E5 a2Y K)))))
theorem a1U (x0 : b6) (E5 : (List ByteArray)) (x1 : b3) (x2 : Int) (g0 : Nat) (C6 : Sl) (R0 : Frag) (a3E : RowL 9 1 p5 C6 E5 R0) {w0 w : World} {ps0 : Nat → Prop} {H0 H : Hp} {K : Bool → b6 → (List ByteArray) → Hp → Prop} {R : Value → World → Prop} {E : Pan} (I : Inv w0 ps0 H0 H [bx g0 92 [(vi x0.fnodes), (vi x0.fdepth), (vi x0.fe), (Value.bool x0.fform), (Value.bool x0.fnamed), (vs C6)], R0] w) (hR : ∀ (r0 : Bool) (y0 : b6) (a0q : (List ByteArray)) (U5 : Sl) (U6 : Frag) (H' : Hp) (w' : World) (_ : RowL 9 1 p5 U5 a0q U6) (_ : Inv w0 ps0 H0 H' [bx g0 92 [(vi y0.fnodes), (vi y0.fdepth), (vi y0.fe), (Value.bool y0.fform), (Value.bool y0.fnamed), (vs U5)], U6] w') (_ : K r0 y0 a0q H'), R (Value.bool r0) w') (h : D1 x0 E5 x1 x2 H K) : F90 (Value.pointer (some ⟨g0, 0, none⟩)) (i8 x1) (vi x2) w R E := by
 unfold D1 at h
 unfold F90
 refine a7 (B9 _) ?_
 refine a7 a4A ?_
 refine b7 (ld1 Tryd.isAgg3 (I.at1 (o := 0) (vs := [(vi x0.fnodes)]) (nb rfl) rfl)) ?_
 refine a7 (A6 _ _ _ _ _ _) ?_
 refine a7 (B9 _) ?_
 refine a7 a4A ?_
 refine o3 I Tryd.sizeOf3 (vs := [(vi (IntKind.wrap .i64 (x0.fnodes + 1)))]) (cs' := [(vi (IntKind.wrap .i64 (x0.fnodes + 1))), (vi x0.fdepth), (vi x0.fe), (Value.bool x0.fform), (Value.bool x0.fnamed), (vs C6)]) rfl rfl (nb rfl) rfl rfl fun w_1 I_2 k_3 => ?_
 refine a7 (B9 _) ?_
 refine a7 a4A ?_
 refine b7 (ld1 Tryd.isAgg3 (I_2.at1 (o := 0) (vs := [(vi (IntKind.wrap .i64 (x0.fnodes + 1)))]) (nb rfl) rfl)) ?_
 refine a7 (a5B _ _ _ _ _ _) ?_
 refine d8 (fun a7x => ?_) (fun a7x => ?_)
 ·replace h := h.1 a7x
  refine a7 (B9 _) ?_
  refine a7 a0V ?_
  refine o3 I_2 Tryd.sizeOf34 (vs := [(vi 33)]) (cs' := [(vi (IntKind.wrap .i64 (x0.fnodes + 1))), (vi x0.fdepth), (vi 33), (Value.bool x0.fform), (Value.bool x0.fnamed), (vs C6)]) rfl rfl (nb rfl) rfl rfl fun w_4 I_5 k_6 => ?_
  exact hR false (b6.mk (IntKind.wrap .i64 (x0.fnodes + 1)) x0.fdepth 33 x0.fform x0.fnamed (Sl.mk none 0 0)) E5 C6 R0 H _ a3E ((I_5.bring 1).bring 1) h
 ·replace h := h.2 a7x
  refine a7 (a5B _ _ _ _ _ _) ?_
  refine d8 (fun a7y => ?_) (fun a7y => ?_)
  ·replace h := h.1 a7y
   refine a7 (B9 _) ?_
   refine a7 a0V ?_
   refine o3 I_2 Tryd.sizeOf34 (vs := [(vi 32)]) (cs' := [(vi (IntKind.wrap .i64 (x0.fnodes + 1))), (vi x0.fdepth), (vi 32), (Value.bool x0.fform), (Value.bool x0.fnamed), (vs C6)]) rfl rfl (nb rfl) rfl rfl fun w_7 I_8 k_9 => ?_
   exact hR false (b6.mk (IntKind.wrap .i64 (x0.fnodes + 1)) x0.fdepth 32 x0.fform x0.fnamed (Sl.mk none 0 0)) E5 C6 R0 H _ a3E ((I_8.bring 1).bring 1) h
  ·replace h := h.2 a7y
   refine a7 (B9 _) ?_
   refine a7 a7W ?_
   refine b7 (ld1 Tryd.isAgg3 (I_2.at1 (o := 1) (vs := [(vi x0.fdepth)]) (nb rfl) rfl)) ?_
   refine a7 (c3m _ _ _ _ _) ?_
   refine a7 (B9 _) ?_
   refine a7 a7W ?_
   refine o3 I_2 Tryd.sizeOf3 (vs := [(vi (if x2 > x0.fdepth then x2 else x0.fdepth))]) (cs' := [(vi (IntKind.wrap .i64 (x0.fnodes + 1))), (vi (if x2 > x0.fdepth then x2 else x0.fdepth)), (vi x0.fe), (Value.bool x0.fform), (Value.bool x0.fnamed), (vs C6)]) rfl rfl (nb rfl) rfl rfl fun l0 a0b a9m => ?_
   refine a7 (B9 _) ?_
   refine a7 a4C ?_
   refine b7 (ld1 Tryd.isAgg4 (a0b.at1 (o := 3) (vs := [(Value.bool x0.fform)]) (nb rfl) rfl)) ?_
   try simp only [M9]
   refine a1R (D := fun b8z o7 => ∃ (s1 : Bool) (a6d : Hp), b8z = (gv x0.fform false (Value.bool s1)) ∧ (Inv w0 ps0 H0 a6d [bx g0 92 [(vi (IntKind.wrap .i64 (x0.fnodes + 1))), (vi (if x2 > x0.fdepth then x2 else x0.fdepth)), (vi x0.fe), (Value.bool x0.fform), (Value.bool x0.fnamed), (vs C6)], R0] o7) ∧ (∀ i, i < l0.heap.size → ¬ inF [] i → o7.heap[i]? = l0.heap[i]?) ∧ Hle H a6d ∧ (M0 x1 a6d (fun (V3 : ByteArray) (a6G : Bool) (a2Y : Hp) =>
 (a6G = true →
 TG (x0.fnamed = false) (R8 V3 a2Y) false a2Y (fun (P3 : Bool) (a3W : Hp) =>
 u9 E5 V3 a3W (fun (V4 : Bool) (a0d : Hp) =>
 ((!V4) = true →
 (E5.length + ([V3] : List ByteArray).length) * 17 ≤ 140737488355328 ∧
 i6 (IntKind.wrap .i64 (x0.fnodes + 1)) (if x2 > x0.fdepth then x2 else x0.fdepth) x0.fe (x0.fform || (!s1)) (x0.fnamed || (!P3)) (E5 ++ [V3]) a0d K) ∧
 ((!V4) = false →
 i6 (IntKind.wrap .i64 (x0.fnodes + 1)) (if x2 > x0.fdepth then x2 else x0.fdepth) x0.fe (x0.fform || (!s1)) (x0.fnamed || (!P3)) E5 a0d K)))) ∧
 (a6G = false →
 i6 (IntKind.wrap .i64 (x0.fnodes + 1)) (if x2 > x0.fdepth then x2 else x0.fdepth) x0.fe (x0.fform || (!s1)) x0.fnamed E5 a2Y K)))) (fun a9r => ?_) (fun a9r => ?_) ?_
   ·replace h := h.1 a9r
    have a8 := a9r
    try simp only [b5 a8]
    refine a4i a0b h (fun s1 a6d o7 a7z b1V b4y h => ?_)
    exact ⟨s1, a6d, by first | rfl | rw [b5 a9r], a7z, b4y, b1V, h⟩
   ·exact ⟨false, H, by first | rfl | rw [a4x a9r], a0b, fun _ _ _ => rfl, Hle.refl _, h.2 a9r⟩
   ·clear h
    rintro b8z o7 ⟨s1, a6d, rfl, a7z, b4y, b1V, h⟩
    refine a7 (Pu.g fun hb => by have a8 := hb; first | exact (A7 _) | (simp only [b5 a8]; exact (A7 _)) | (simp only [c6 a8, b5 a8, b5 hb, F9 a8, m3]; exact (A7 _))) ?_
    refine a7 (a0Q _ _) ?_
    refine a7 (B9 _) ?_
    refine a7 a4C ?_
    refine o3 a7z Tryd.sizeOf4 (vs := [(Value.bool (x0.fform || (!s1)))]) (cs' := [(vi (IntKind.wrap .i64 (x0.fnodes + 1))), (vi (if x2 > x0.fdepth then x2 else x0.fdepth)), (vi x0.fe), (Value.bool (x0.fform || (!s1))), (Value.bool x0.fnamed), (vs C6)]) rfl rfl (nb rfl) rfl rfl fun a4H b4z d3X => ?_
    have hj1 : ∀ (a2z : Int) (a2A : Int) (a2B : Int) (a2C : Bool) (a2D : Bool) (a1E : (List ByteArray)) (a4Y : Sl) (a4Z : Frag) (H : Hp) (w : World) (_ : RowL 9 1 p5 a4Y a1E a4Z) (_ : Inv w0 ps0 H0 H [bx g0 92 [(vi a2z), (vi a2A), (vi a2B), (Value.bool a2C), (Value.bool a2D), (vs a4Y)], a4Z] w) (_ : i6 a2z a2A a2B a2C a2D a1E H K), b0U w R E := by
     intro a2z a2A a2B a2C a2D a1E a4Y a4Z H w b8A I h
     unfold b0U
     intro _
     unfold i6 at h
     exact hR true (b6.mk a2z a2A a2B a2C a2D (Sl.mk none 0 0)) a1E a4Y a4Z H _ b8A ((I.bring 1).bring 1) h
    refine t7 fun j1 hx1 => ?_
    refine d6 (cap := []) (fun args w => Tryd.call114 args w) ?_
    refine i2 (Fi := []) (Fr := [bx g0 92 [(vi (IntKind.wrap .i64 (x0.fnodes + 1))), (vi (if x2 > x0.fdepth then x2 else x0.fdepth)), (vi x0.fe), (Value.bool (x0.fform || (!s1))), (Value.bool x0.fnamed), (vs C6)], R0]) b4z (h) (fun d7S a2Y a9n a7n b4A d7T d7U d3Y => ?_) (fun _ _ _ _ _ q => q.elim)
    obtain ⟨V3, a6G, rfl, rfl, h⟩ := d3Y
    refine a7 (u6 _ _ _ rfl) ?_
    refine a7 (u6 _ _ _ rfl) ?_
    refine o4 (fun a7A => ?_) (fun a7A => ?_)
    ·replace h := h.1 a7A
     refine a7 (B9 _) ?_
     refine a7 a4D ?_
     refine b7 (ld1 Tryd.isAgg4 (b4A.at1 (o := 4) (vs := [(Value.bool x0.fnamed)]) (nb rfl) rfl)) ?_
     try simp only [M9]
     refine a1R (D := fun b8B B8 => ∃ (P3 : Bool) (a3W : Hp) , b8B = (gv x0.fnamed false (Value.bool P3)) ∧ (Inv w0 ps0 H0 a3W [bx g0 92 [(vi (IntKind.wrap .i64 (x0.fnodes + 1))), (vi (if x2 > x0.fdepth then x2 else x0.fdepth)), (vi x0.fe), (Value.bool (x0.fform || (!s1))), (Value.bool x0.fnamed), (vs C6)], R0] B8) ∧ (∀ i, i < a7n.heap.size → ¬ inF [] i → B8.heap[i]? = a7n.heap[i]?) ∧ Hle a2Y a3W ∧ (u9 E5 V3 a3W (fun (V4 : Bool) (a0d : Hp) =>
 ((!V4) = true →
 (E5.length + ([V3] : List ByteArray).length) * 17 ≤ 140737488355328 ∧
 i6 (IntKind.wrap .i64 (x0.fnodes + 1)) (if x2 > x0.fdepth then x2 else x0.fdepth) x0.fe (x0.fform || (!s1)) (x0.fnamed || (!P3)) (E5 ++ [V3]) a0d K) ∧
 ((!V4) = false →
 i6 (IntKind.wrap .i64 (x0.fnodes + 1)) (if x2 > x0.fdepth then x2 else x0.fdepth) x0.fe (x0.fform || (!s1)) (x0.fnamed || (!P3)) E5 a0d K)))) (fun a9s => ?_) (fun a9s => ?_) ?_
     ·replace h := h.1 a9s
      have a8 := a9s
      try simp only [b5 a8]
      refine d6 (cap := []) (fun args w => Tryd.call115 args w) ?_
      refine i2 (Fi := []) (Fr := [bx g0 92 [(vi (IntKind.wrap .i64 (x0.fnodes + 1))), (vi (if x2 > x0.fdepth then x2 else x0.fdepth)), (vi x0.fe), (Value.bool (x0.fform || (!s1))), (Value.bool x0.fnamed), (vs C6)], R0]) b4A (h) (fun b8B a3W d7V B8 b1W c8p c8q d3Z => ?_) (fun _ _ _ _ _ q => q.elim)
      obtain ⟨P3, rfl, rfl, h⟩ := d3Z
      exact ⟨P3, a3W, by first | rfl | rw [b5 a9s], b1W, c8q, c8p, h⟩
     ·exact ⟨false, a2Y, by first | rfl | rw [a4x a9s], b4A, fun _ _ _ => rfl, Hle.refl _, h.2 a9s⟩
     ·clear h
      rintro b8B B8 ⟨P3, a3W, rfl, b1W, c8q, c8p, h⟩
      refine a7 (Pu.g fun hb => by have a8 := hb; first | exact (A7 _) | (simp only [b5 a8]; exact (A7 _)) | (simp only [c6 a8, b5 a8, b5 hb, F9 a8, m3]; exact (A7 _))) ?_
      refine a7 (a0Q _ _) ?_
      refine a7 (B9 _) ?_
      refine a7 a4D ?_
      refine o3 b1W Tryd.sizeOf4 (vs := [(Value.bool (x0.fnamed || (!P3)))]) (cs' := [(vi (IntKind.wrap .i64 (x0.fnodes + 1))), (vi (if x2 > x0.fdepth then x2 else x0.fdepth)), (vi x0.fe), (Value.bool (x0.fform || (!s1))), (Value.bool (x0.fnamed || (!P3))), (vs C6)]) rfl rfl (nb rfl) rfl rfl fun G2 a9t c8r => ?_
      refine a7 (B9 _) ?_
      refine a7 a4B ?_
      refine b7 (ld1 Tryd.isAgg47 (a9t.at1 (o := 5) (vs := [(vs C6)]) (nb rfl) rfl)) ?_
      refine d6 (cap := []) (fun args w => Tryd.call116 args w) ?_
      refine i2 (Fi := [R0]) (Fr := [bx g0 92 [(vi (IntKind.wrap .i64 (x0.fnodes + 1))), (vi (if x2 > x0.fdepth then x2 else x0.fdepth)), (vi x0.fe), (Value.bool (x0.fform || (!s1))), (Value.bool (x0.fnamed || (!P3))), (vs C6)]]) (a9t.bring 1) (h C6 R0 a3E) (fun d4a a0d d4b J1 a9u d4c d4d b8C => ?_) (fun _ _ _ _ _ q => q.elim)
      obtain ⟨V4, rfl, rfl, h⟩ := b8C
      refine a7 (A7 _) ?_
      refine o4 (fun a7B => ?_) (fun a7B => ?_)
      ·replace h := h.1 a7B
       refine a7 (B9 _) ?_
       refine a7 a4B ?_
       refine b7 (ld1 Tryd.isAgg47 ((a9u.bring 1).at1 (o := 5) (vs := [(vs C6)]) (nb rfl) rfl)) ?_
       refine a0S (e := 9) (c := p5) (xs := [V3]) a9u (c1h _) rfl rfl a6Y a6Z (nb rfl) fun d7W d7X b1X d4e c8s d7Y => ?_
       obtain ⟨d4f, h⟩ := h
       refine c3q (s := C6) (xs := E5) (c8s.bring 1) a3E (d4e.srcO ((c8s.bring 1).bring 1)) d4f fun b8D d4g c8t d4h d4i d7Z => ?_
       refine a7 (B9 _) ?_
       refine a7 a4B ?_
       refine o3 ((d4i.bring 1).drop.bring 1) Tryd.sizeOf47 (vs := [(vs b8D)]) (cs' := [(vi (IntKind.wrap .i64 (x0.fnodes + 1))), (vi (if x2 > x0.fdepth then x2 else x0.fdepth)), (vi x0.fe), (Value.bool (x0.fform || (!s1))), (Value.bool (x0.fnamed || (!P3))), (vs b8D)]) rfl rfl (nb rfl) rfl rfl fun W5 d4j d8a => ?_
       exact hx1 _ _ (hj1 (IntKind.wrap .i64 (x0.fnodes + 1)) (if x2 > x0.fdepth then x2 else x0.fdepth) x0.fe (x0.fform || (!s1)) (x0.fnamed || (!P3)) (E5 ++ [V3]) b8D d4g a0d _ d4h ((d4j.bring 1).bring 1) h)
      ·replace h := h.2 a7B
       exact hx1 _ _ (hj1 (IntKind.wrap .i64 (x0.fnodes + 1)) (if x2 > x0.fdepth then x2 else x0.fdepth) x0.fe (x0.fform || (!s1)) (x0.fnamed || (!P3)) E5 C6 R0 a0d _ a3E (a9u.bring 1) h)
    ·replace h := h.2 a7A
     exact hx1 _ _ (hj1 (IntKind.wrap .i64 (x0.fnodes + 1)) (if x2 > x0.fdepth then x2 else x0.fdepth) x0.fe (x0.fform || (!s1)) x0.fnamed E5 C6 R0 a2Y _ a3E ((b4A.bring 1).bring 1) h)
theorem a2b (x0 : b6) (E5 : (List ByteArray)) (x1 : b3) (x2 : Int) {H : Hp} {K : Bool → b6 → (List ByteArray) → Hp → Prop} (h : D1 x0 E5 x1 x2 H K) : M7 x0 E5 x1 x2 H K := by
 intro g0 C6 R0 a3E w I
 refine c4z ?_
 refine a1U x0 E5 x1 x2 g0 C6 R0 a3E I (fun r0 y0 a0q U5 U6 H' w' b1Y I' hk => ⟨H', _, I', r0, y0, a0q, U5, U6, rfl, rfl, b1Y, hk⟩) h
def o0 (d4k : Int) (a6H : Bool) (_cr_1j3 : r9) (H : Hp) (K : Bool → Hp → Prop) : Prop :=
 (a6H = true →
 K (decide (d4k = 2)) H) ∧
 (a6H = false →
 K false H)
def v7 (a9v : Int) (Z1 : Int) (a6I : Bool) (cr_1j2 : r9) (H : Hp) (K : Bool → Hp → Prop) : Prop :=
 (a6I = true →
 K (decide (a9v = 1)) H) ∧
 (a6I = false →
 (Z1 = 6 →
 o0 a9v (decide (Z1 = 6)) cr_1j2 H K) ∧
 (¬ (Z1 = 6) →
 (Z1 = 7 →
 o0 a9v (decide (Z1 = 7)) cr_1j2 H K) ∧
 (¬ (Z1 = 7) →
 (Z1 = 8 →
 o0 a9v (decide (Z1 = 8)) cr_1j2 H K) ∧
 (¬ (Z1 = 8) →
 (Z1 = 9 →
 o0 a9v (decide (Z1 = 9)) cr_1j2 H K) ∧
 (¬ (Z1 = 9) →
 o0 a9v (decide (Z1 = 10)) cr_1j2 H K)))))
def v8 (T4 : Int) (Z0 : Int) (a6J : Bool) (cr_1j1 : r9) (H : Hp) (K : Bool → Hp → Prop) : Prop :=
 (a6J = true →
 K (decide (T4 = 0)) H) ∧
 (a6J = false →
 (Z0 = 4 →
 v7 T4 Z0 (decide (Z0 = 4)) cr_1j1 H K) ∧
 (¬ (Z0 = 4) →
 v7 T4 Z0 (decide (Z0 = 5)) cr_1j1 H K))
def J4 (x0 : r9) (H : Hp) (K : Bool → Hp → Prop) : Prop :=
 M0 (b3.p6 x0) H (fun (_r0_14 : ByteArray) (b4B : Bool) (H_6 : Hp) =>
 ((((!decide (x0.d4.c7 = 1)) && (!decide (x0.d4.R5 = 0))) || ((!b4B) && (!decide (x0.d4.g9 = ⟨#[]⟩)))) = true →
 K false H_6) ∧
 ((((!decide (x0.d4.c7 = 1)) && (!decide (x0.d4.R5 = 0))) || ((!b4B) && (!decide (x0.d4.g9 = ⟨#[]⟩)))) = false →
 (x0.d4.c7 = 1 →
 K ((decide (0 ≤ x0.d4.R5)) && (decide ((x0.d4.q8.n : Int) = 0))) H_6) ∧
 (¬ (x0.d4.c7 = 1) →
 (x0.d4.c7 = 2 →
 v8 (x0.d4.q8.n : Int) x0.d4.c7 (decide (x0.d4.c7 = 2)) x0 H_6 K) ∧
 (¬ (x0.d4.c7 = 2) →
 v8 (x0.d4.q8.n : Int) x0.d4.c7 (decide (x0.d4.c7 = 3)) x0 H_6 K))))
theorem a2Z (x0 : r9) {w0 w : World} {ps0 : Nat → Prop} {H0 H : Hp} {K : Bool → Hp → Prop} {R : Value → World → Prop} {E : Pan} (I : Inv w0 ps0 H0 H [] w) (hR : ∀ (r0 : Bool) (H' : Hp) (w' : World) (_ : Inv w0 ps0 H0 H' [] w') (_ : K r0 H'), R (Value.bool r0) w') (h : J4 x0 H K) : b3X (Value.agg (c9 x0.d4).toArray) w R E := by
 unfold J4 at h
 unfold b3X
 refine M1 I (cs := (c9 x0.d4)) rfl fun g_2 w_3 I_4 k_5 => ?_
 refine a7 w8 ?_
 refine a7 a2i ?_
 refine b7 (ld1 Tryd.isAgg28 (I_4.at1 (o := 3) (vs := [(vs x0.d4.q8)]) (nb rfl) rfl)) ?_
 refine a7 (O3 _ _ _) ?_
 refine b7 (ldA Tryd.isAgg96 Tryd.sizeOf96 rfl (I_4.at1 (o := 0) (vs := (c9 x0.d4)) (nb rfl) rfl)) ?_
 refine a7 (a5r x0) ?_
 refine d6 (cap := []) (fun args w => Tryd.call114 args w) ?_
 refine i2 (Fi := []) (Fr := [bx g_2 96 (c9 x0.d4)]) I_4 (h) (fun a9w H_6 a9x w_7 I_8 a9y k_9 a1F => ?_) (fun _ _ _ _ _ q => q.elim)
 obtain ⟨N7, b4B, rfl, rfl, h⟩ := a1F
 refine a7 (u6 _ _ _ rfl) ?_
 refine a7 (u6 _ _ _ rfl) ?_
 refine a7 w8 ?_
 refine a7 T9 ?_
 refine b7 (ld1 Tryd.isAgg3 (I_8.at1 (o := 0) (vs := [(vi x0.d4.c7)]) (nb rfl) rfl)) ?_
 refine a7 (a0f _ _ _ _ _ _) ?_
 refine a7 (Pu.g fun hb => by have a8 := hb; first | exact w8 | (simp only [c6 a8, b5 a8, b5 hb, B5 a8]; exact w8) | (simp only [c6 a8, b5 a8, b5 hb, k9 a8, m3]; exact w8)) ?_
 refine a7 (Pu.g fun hb => by have a8 := hb; first | exact a0W | (simp only [b5 a8]; exact a0W) | (simp only [c6 a8, b5 a8, b5 hb, k9 a8, m3]; exact a0W)) ?_
 refine b7 (Ld.g fun hb => by have a8 := hb; first | exact (ld1 Tryd.isAgg2 (I_8.at1 (o := 1) (vs := [(vi x0.d4.R5)]) (nb rfl) rfl)) | (simp only [b5 a8]; exact (ld1 Tryd.isAgg2 (I_8.at1 (o := 1) (vs := [(vi x0.d4.R5)]) (nb rfl) rfl))) | (simp only [c6 a8, b5 a8, b5 hb, k9 a8, m3]; exact (ld1 Tryd.isAgg2 (I_8.at1 (o := 1) (vs := [(vi x0.d4.R5)]) (nb rfl) rfl)))) ?_
 refine a7 (Pu.g fun hb => by have a8 := hb; first | exact (a0f _ _ _ _ _ _) | (simp only [b5 a8]; exact (a0f _ _ _ _ _ _)) | (simp only [c6 a8, b5 a8, b5 hb, k9 a8, m3]; exact (a0f _ _ _ _ _ _))) ?_
 refine a7 (E8 _ _) ?_
 try simp only [M9]
 refine a7 (Pu.g fun hb => by have a8 := hb; first | exact (A7 _) | (simp only [b5 a8]; exact (A7 _)) | (simp only [c6 a8, b5 a8, b5 hb, F9 a8, m3]; exact (A7 _))) ?_
 try simp only [b0h]
 refine a7 (Pu.e (a2x _ _ _) (Pu.g fun hb => by obtain ⟨a8, K8⟩ := a6w hb; first | exact w8 | (simp only [c6 a8, b5 a8, c6 K8, b5 K8, b5 hb, m3]; exact w8) | (simp only [c6 a8, b5 a8, c6 K8, b5 K8, b5 hb, B5 hb]; exact w8) | (simp only [c6 a8, b5 a8, c6 K8, b5 K8, b5 hb, k9 hb, m3]; exact w8))) ?_
 refine a7 (Pu.e (a2x _ _ _) (Pu.g fun hb => by obtain ⟨a8, K8⟩ := a6w hb; first | exact Y5 | (simp only [b5 hb]; exact Y5) | (simp only [c6 a8, b5 a8, c6 K8, b5 K8, b5 hb, B5 hb]; exact Y5) | (simp only [c6 a8, b5 a8, c6 K8, b5 K8, b5 hb, k9 hb, m3]; exact Y5))) ?_
 refine b7 (Ld.e (a2x _ _ _) (Ld.g fun hb => by obtain ⟨a8, K8⟩ := a6w hb; first | exact (ld1 Tryd.isAgg9 (I_8.at1 (o := 2) (vs := [(Value.string x0.d4.g9)]) (nb rfl) rfl)) | (simp only [b5 hb]; exact (ld1 Tryd.isAgg9 (I_8.at1 (o := 2) (vs := [(Value.string x0.d4.g9)]) (nb rfl) rfl))) | (simp only [c6 a8, b5 a8, c6 K8, b5 K8, b5 hb, B5 hb]; exact (ld1 Tryd.isAgg9 (I_8.at1 (o := 2) (vs := [(Value.string x0.d4.g9)]) (nb rfl) rfl))) | (simp only [c6 a8, b5 a8, c6 K8, b5 K8, b5 hb, k9 hb, m3]; exact (ld1 Tryd.isAgg9 (I_8.at1 (o := 2) (vs := [(Value.string x0.d4.g9)]) (nb rfl) rfl))))) ?_
 refine a7 (Pu.e (a2x _ _ _) (Pu.g fun hb => by obtain ⟨a8, K8⟩ := a6w hb; first | exact (a7R _ _ _ _ _) | (simp only [b5 hb]; exact (a7R _ _ _ _ _)) | (simp only [c6 a8, b5 a8, c6 K8, b5 K8, b5 hb, B5 hb]; exact (a7R _ _ _ _ _)) | (simp only [c6 a8, b5 a8, c6 K8, b5 K8, b5 hb, k9 hb, m3]; exact (a7R _ _ _ _ _)))) ?_
 refine a7 (Pu.g fun hb => by have a8 := hb; first | exact (E8 _ _) | (simp only [b5 a8, a5C a8]; exact (E8 _ _)) | (simp only [c6 a8, b5 a8, b5 hb, F9 a8, m3]; exact (E8 _ _))) ?_
 refine a7 (a0Q _ _) ?_
 refine o4 (fun b8E => ?_) (fun b8E => ?_)
 ·replace h := h.1 b8E
  exact hR false H_6 _ I_8.drop h
 ·replace h := h.2 b8E
  refine a7 w8 ?_
  refine a7 T9 ?_
  refine b7 (ld1 Tryd.isAgg3 (I_8.at1 (o := 0) (vs := [(vi x0.d4.c7)]) (nb rfl) rfl)) ?_
  refine a7 (f4 _ _ _ _ _ _) ?_
  refine d8 (fun b8F => ?_) (fun b8F => ?_)
  ·replace h := h.1 b8F
   refine a7 w8 ?_
   refine a7 a0W ?_
   refine b7 (ld1 Tryd.isAgg2 (I_8.at1 (o := 1) (vs := [(vi x0.d4.R5)]) (nb rfl) rfl)) ?_
   refine a7 (a7P _ _ _ _ _ _) ?_
   try simp only [M9]
   refine a7 (Pu.g fun hb => by have a8 := hb; first | exact (f4 _ _ _ _ _ _) | (simp only [b5 a8]; exact (f4 _ _ _ _ _ _)) | (simp only [c6 a8, b5 a8, b5 hb, k9 a8, m3]; exact (f4 _ _ _ _ _ _))) ?_
   refine a7 (E8 _ _) ?_
   exact hR ((decide (0 ≤ x0.d4.R5)) && (decide ((x0.d4.q8.n : Int) = 0))) H_6 _ I_8.drop h
  ·replace h := h.2 b8F
   have hj1 : ∀ (a6J : Bool) (H : Hp) (w : World) (_ : Inv w0 ps0 H0 H [bx g_2 96 (c9 x0.d4)] w) (_ : v8 (x0.d4.q8.n : Int) x0.d4.c7 a6J x0 H K), a9f (vi (x0.d4.q8.n : Int)) (vi x0.d4.c7) (Value.bool a6J) w R E := by
    intro a6J H w I h
    unfold a9f
    intro _
    unfold v8 at h
    refine o4 (fun b8G => ?_) (fun b8G => ?_)
    ·replace h := h.1 b8G
     refine a7 (f4 _ _ _ _ _ _) ?_
     exact hR (decide ((x0.d4.q8.n : Int) = 0)) H _ I.drop h
    ·replace h := h.2 b8G
     have hj2 : ∀ (a6I : Bool) (H : Hp) (w : World) (_ : Inv w0 ps0 H0 H [bx g_2 96 (c9 x0.d4)] w) (_ : v7 (x0.d4.q8.n : Int) x0.d4.c7 a6I x0 H K), a9e (vi (x0.d4.q8.n : Int)) (vi x0.d4.c7) (Value.bool a6I) w R E := by
      intro a6I H w I h
      unfold a9e
      intro _
      unfold v7 at h
      refine o4 (fun a2O => ?_) (fun a2O => ?_)
      ·replace h := h.1 a2O
       refine a7 (f4 _ _ _ _ _ _) ?_
       exact hR (decide ((x0.d4.q8.n : Int) = 1)) H _ I.drop h
      ·replace h := h.2 a2O
       have hj3 : ∀ (a6H : Bool) (H : Hp) (w : World) (_ : Inv w0 ps0 H0 H [bx g_2 96 (c9 x0.d4)] w) (_ : o0 (x0.d4.q8.n : Int) a6H x0 H K), a9d (vi (x0.d4.q8.n : Int)) (Value.bool a6H) w R E := by
        intro a6H H w I h
        unfold a9d
        intro _
        unfold o0 at h
        refine o4 (fun a0r => ?_) (fun a0r => ?_)
        ·replace h := h.1 a0r
         refine a7 (f4 _ _ _ _ _ _) ?_
         exact hR (decide ((x0.d4.q8.n : Int) = 2)) H _ I.drop h
        ·replace h := h.2 a0r
         exact hR false H _ I.drop h
       refine t7 fun j3 hx3 => ?_
       refine a7 (f4 _ _ _ _ _ _) ?_
       refine d8 (fun a2P => ?_) (fun a2P => ?_)
       ·replace h := h.1 a2P
        exact hx3 _ _ (hj3 (decide (x0.d4.c7 = 6)) H _ I h)
       ·replace h := h.2 a2P
        refine a7 (f4 _ _ _ _ _ _) ?_
        refine d8 (fun a2S => ?_) (fun a2S => ?_)
        ·replace h := h.1 a2S
         exact hx3 _ _ (hj3 (decide (x0.d4.c7 = 7)) H _ I h)
        ·replace h := h.2 a2S
         refine a7 (f4 _ _ _ _ _ _) ?_
         refine d8 (fun a2Q => ?_) (fun a2Q => ?_)
         ·replace h := h.1 a2Q
          exact hx3 _ _ (hj3 (decide (x0.d4.c7 = 8)) H _ I h)
         ·replace h := h.2 a2Q
          refine a7 (f4 _ _ _ _ _ _) ?_
          refine d8 (fun a2R => ?_) (fun a2R => ?_)
          ·replace h := h.1 a2R
           exact hx3 _ _ (hj3 (decide (x0.d4.c7 = 9)) H _ I h)
          ·replace h := h.2 a2R
           refine a7 (f4 _ _ _ _ _ _) ?_
           exact hx3 _ _ (hj3 (decide (x0.d4.c7 = 10)) H _ I h)
     refine t7 fun j2 hx2 => ?_
     refine a7 (f4 _ _ _ _ _ _) ?_
     refine d8 (fun a7C => ?_) (fun a7C => ?_)
     ·replace h := h.1 a7C
      exact hx2 _ _ (hj2 (decide (x0.d4.c7 = 4)) H _ I h)
     ·replace h := h.2 a7C
      refine a7 (f4 _ _ _ _ _ _) ?_
      exact hx2 _ _ (hj2 (decide (x0.d4.c7 = 5)) H _ I h)
   refine t7 fun j1 hx1 => ?_
   refine a7 (f4 _ _ _ _ _ _) ?_
   refine d8 (fun b8H => ?_) (fun b8H => ?_)
   ·replace h := h.1 b8H
    exact hx1 _ _ (hj1 (decide (x0.d4.c7 = 2)) H_6 _ I_8 h)
   ·replace h := h.2 b8H
    refine a7 (f4 _ _ _ _ _ _) ?_
    exact hx1 _ _ (hj1 (decide (x0.d4.c7 = 3)) H_6 _ I_8 h)
theorem a3r (x0 : r9) {H : Hp} {K : Bool → Hp → Prop} (h : J4 x0 H K) : Q1 x0 H K := by
 intro w I
 refine c1R ?_
 refine a2Z x0 I (fun r0 H' w' I' hk => ⟨H', _, I', r0, rfl, rfl, hk⟩) h
def j9 (G3 : (List b3)) (H : Hp) (K : Sl → Hp → Prop) : Prop :=
 ∀ (s0 : Sl) (F7 : Hp), Hle H F7 → SlH F7 1 g6 s0 G3 → s0.n ≤ s0.c →
 K s0 F7
def k3 (z1 : Sl) (a1l : Int) (i4 : (List b3)) (g8 : Int) (H : Hp) (n2 : ((List b3) × Int) → Hp → Prop) (K : Sl → Hp → Prop) : Prop :=
 (g8 < a1l →
 (0 : Int) ≤ g8 ∧ (g8 : Int) < z1.n ∧ ∃ x_1 : o5, EltH H z1 g8 4 (c9 x_1) ∧
 a1j x_1 H (fun (B6 : b3) (T2 : Hp) =>
 (i4.length + ([B6] : List b3).length) * 17 ≤ 140737488355328 ∧
 n2 ((i4 ++ [B6]), (IntKind.wrap .i64 (g8 + 1))) T2)) ∧
 (¬ (g8 < a1l) →
 j9 i4 H K)
def m0 (x0 : Sl) (H : Hp) (K : Sl → Hp → Prop) : Prop :=
 TL (([], 0) : (List b3) × Int) H fun (s : (List b3) × Int) H n2 => k3 x0 (x0.n : Int) s.1 s.2 H n2 K
theorem K2 (x0 : Sl) {w0 w : World} {ps0 : Nat → Prop} {H0 H : Hp} {K : Sl → Hp → Prop} {R : Value → World → Prop} {E : Pan} (I : Inv w0 ps0 H0 H [] w) (hR : ∀ (r0 : Sl) (H' : Hp) (w' : World) (_ : Inv w0 ps0 H0 H' [] w') (_ : K r0 H'), R (vs r0) w') (h : m0 x0 H K) : b3Z (vs x0) (Value.func (.func 151) #[] #[]) w R E := by
 unfold m0 at h
 unfold b3Z
 have hj1 : ∀ (G3 : (List b3)) (s0 : Sl) (Fs5j1 : Frag) (H : Hp) (w : World) (_ : RowL 141 1 g6 s0 G3 Fs5j1) (_ : Inv w0 ps0 H0 H [Fs5j1] w) (_ : j9 G3 H K), a9g (vs s0) w R E := by
  intro G3 s0 Fs5j1 H w a4Q I h
  unfold a9g
  intro _
  unfold j9 at h
  obtain ⟨F7, a2T, a6b, a7p, a7q⟩ := Inv.freezeC I a4Q (by decide)
  replace h := h s0 F7 a6b a7p a7q
  exact hR s0 F7 _ a2T h
 refine t7 fun j1 hx1 => ?_
 refine a7 (O3 _ _ _) ?_
 obtain ⟨a0s, O9, a7r, a7s⟩ := h
 refine B7 (J := fun n l w => ∃ (s : (List b3) × Int) (H : Hp) (G4 : Sl) (Fs5l2 : Frag) , n = O9 s ∧ l = (match s with | (i4, g8) => [(vs G4), (vi g8)]) ∧ (match s with | (i4, g8) => RowL 141 1 g6 G4 i4 Fs5l2) ∧ (match s with | (i4, g8) => Inv w0 ps0 H0 H [Fs5l2] w) ∧ a0s s H) ⟨_, ([], 0), H, (Sl.mk none 0 0), [], rfl, rfl, (RowL.nil y9 B4), I.nil, a7r⟩ ?_
 rintro b8k τ_50 w next2 ⟨⟨i4, g8⟩, H, G4, Fs5l2, rfl, a0t, U9, I, a7t⟩ hn2
 dsimp only at a0t I U9
 simp only [List.map_cons, List.map_nil, List.cons.injEq, and_true] at a0t
 obtain ⟨e5, e10⟩ := a0t
 simp only [e5, e10]
 obtain ⟨n2, hm2, h⟩ : ∃ n2 : ((List b3) × Int) → Hp → Prop, (∀ s' H', n2 s' H' → a0s s' H' ∧ O9 s' < O9 (i4, g8)) ∧ k3 x0 (x0.n : Int) i4 g8 H n2 K := ⟨_, fun _ _ h => h, a7s (i4, g8) H (fun s' H' => a0s s' H' ∧ O9 s' < O9 (i4, g8)) a7t (fun _ _ a b => ⟨a, b⟩)⟩
 unfold b3m
 unfold k3 at h
 refine a7 (E7 _ _ _ _ _ _) ?_
 refine d8 (fun V0 => ?_) (fun V0 => ?_)
 ·replace h := h.1 V0
  obtain ⟨h_4, h_5, x_1, h_7, h⟩ := h
  obtain ⟨g_2, o_3, h_6, h_7⟩ := h_7
  refine a7 (a4y h_6 _ _ _ _ h_4 h_5) ?_
  refine b7 (ldA (vs := (c9 x_1)) Tryd.isAgg30 Tryd.sizeOf30 rfl (I.atH h_7)) ?_
  refine y8 I Tryd.zeroValue30 (cs := [(vi 0), (vi 0), (Value.string ⟨#[]⟩), (Value.slice none 0 0)]) rfl fun g_9 l0 a0b a9m => ?_
  refine o3 a0b Tryd.sizeOf30 (vs := (c9 x_1)) (cs' := (c9 x_1)) rfl rfl (nb rfl) rfl rfl fun a1X a2U b8l => ?_
  refine b7 (ldA Tryd.isAgg30 Tryd.sizeOf30 rfl (a2U.at1 (o := 0) (vs := (c9 x_1)) (nb rfl) rfl)) ?_
  refine d6 (cap := []) (fun args w => Tryd.call151 args w) ?_
  refine i2 (Fi := []) (Fr := [bx g_9 30 (c9 x_1), Fs5l2]) a2U (h) (fun b4o T2 b4p Z4 V1 b4q b1J a4R => ?_) (fun _ _ _ _ _ q => q.elim)
  obtain ⟨B6, rfl, rfl, h⟩ := a4R
  refine a0S (e := 141) (c := g6) (xs := [B6]) V1 (a6y _) rfl rfl y9 B4 (nb rfl) fun b1K a9n C1 a4S a1D b4r => ?_
  obtain ⟨a2V, h⟩ := h
  refine a5F (s := G4) (xs := i4) (a1D.bring 2) U9 (a4S.srcO ((a1D.bring 2).bring 1)) a2V fun a7u a7v C8 a4T a1Z b4s => ?_
  refine a7 (A6 _ _ _ _ _ _) ?_
  exact hn2 _ _ _ (hm2 _ _ h).2 ⟨((i4 ++ [B6]), (IntKind.wrap .i64 (g8 + 1))), T2, a7u, a7v, rfl, rfl, a4T, ((a1Z.bring 1).drop.bring 1).drop, (hm2 _ _ h).1⟩
 ·replace h := h.2 V0
  exact hx1 _ _ (hj1 i4 G4 Fs5l2 H _ U9 I h)
theorem K9 (x0 : Sl) {H : Hp} {K : Sl → Hp → Prop} (h : m0 x0 H K) : h8 x0 H K := by
 intro w I
 refine c1V ?_
 refine K2 x0 I (fun r0 H' w' I' hk => ⟨H', _, I', r0, rfl, rfl, hk⟩) h
def N8 (x0 : o9) (H : Hp) (K : b3 → Hp → Prop) : Prop :=
 K (b3.u1 (w5.mk x0)) H
theorem a4l (x0 : o9) {w0 w : World} {ps0 : Nat → Prop} {H0 H : Hp} {K : b3 → Hp → Prop} {R : Value → World → Prop} {E : Pan} (I : Inv w0 ps0 H0 H [] w) (hR : ∀ (r0 : b3) (H' : Hp) (w' : World) (_ : Inv w0 ps0 H0 H' [] w') (_ : K r0 H'), R (i8 r0) w') (h : N8 x0 H K) : b4f (Value.agg (d7 x0).toArray) w R E := by
 unfold N8 at h
 unfold b4f
 refine M1 I (cs := (d7 x0)) rfl fun g_2 w_3 I_4 k_5 => ?_
 refine b7 (ldA Tryd.isAgg33 Tryd.sizeOf33 rfl (I_4.at1 (o := 0) (vs := (d7 x0)) (nb rfl) rfl)) ?_
 refine a7 (b0H _ _ _ _ _ _ _ _) ?_
 refine a7 (a8L (w5.mk x0)) ?_
 exact hR (b3.u1 (w5.mk x0)) H _ I_4.drop h
theorem a5a (x0 : o9) {H : Hp} {K : b3 → Hp → Prop} (h : N8 x0 H K) : a1k x0 H K := by
 intro w I
 refine c2g ?_
 refine a4l x0 I (fun r0 H' w' I' hk => ⟨H', _, I', r0, rfl, rfl, hk⟩) h
def J5 (x0 : A0) (H : Hp) (K : Bool → Hp → Prop) : Prop :=
 K ((decide (0 ≤ x0.y7.N2)) && (decide (x0.y7.N2 ≤ 2147483647))) H
theorem a3b (x0 : A0) {w0 w : World} {ps0 : Nat → Prop} {H0 H : Hp} {K : Bool → Hp → Prop} {R : Value → World → Prop} {E : Pan} (I : Inv w0 ps0 H0 H [] w) (hR : ∀ (r0 : Bool) (H' : Hp) (w' : World) (_ : Inv w0 ps0 H0 H' [] w') (_ : K r0 H'), R (Value.bool r0) w') (h : J5 x0 H K) : b4g (Value.agg (i5 x0.y7).toArray) w R E := by
 unfold J5 at h
 unfold b4g
 refine M1 I (cs := (i5 x0.y7)) rfl fun g_2 w_3 I_4 k_5 => ?_
 refine a7 a0g ?_
 refine a7 a0X ?_
 refine b7 (ld1 Tryd.isAgg3 (I_4.at1 (o := 1) (vs := [(vi x0.y7.N2)]) (nb rfl) rfl)) ?_
 refine a7 (a7P _ _ _ _ _ _) ?_
 refine a7 (Pu.g fun hb => by have a8 := hb; first | exact a0g | (simp only [c6 a8, b5 a8, b5 hb, B5 a8]; exact a0g) | (simp only [c6 a8, b5 a8, b5 hb, k9 a8, m3]; exact a0g)) ?_
 refine a7 (Pu.g fun hb => by have a8 := hb; first | exact a0X | (simp only [b5 a8]; exact a0X) | (simp only [c6 a8, b5 a8, b5 hb, k9 a8, m3]; exact a0X)) ?_
 refine b7 (Ld.g fun hb => by have a8 := hb; first | exact (ld1 Tryd.isAgg3 (I_4.at1 (o := 1) (vs := [(vi x0.y7.N2)]) (nb rfl) rfl)) | (simp only [b5 a8]; exact (ld1 Tryd.isAgg3 (I_4.at1 (o := 1) (vs := [(vi x0.y7.N2)]) (nb rfl) rfl))) | (simp only [c6 a8, b5 a8, b5 hb, k9 a8, m3]; exact (ld1 Tryd.isAgg3 (I_4.at1 (o := 1) (vs := [(vi x0.y7.N2)]) (nb rfl) rfl)))) ?_
 refine a7 (Pu.g fun hb => by have a8 := hb; first | exact (a0e _ _ _ _ _ _) | (simp only [b5 a8]; exact (a0e _ _ _ _ _ _)) | (simp only [c6 a8, b5 a8, b5 hb, k9 a8, m3]; exact (a0e _ _ _ _ _ _))) ?_
 refine a7 (E8 _ _) ?_
 exact hR ((decide (0 ≤ x0.y7.N2)) && (decide (x0.y7.N2 ≤ 2147483647))) H _ I_4.drop h
theorem a3s (x0 : A0) {H : Hp} {K : Bool → Hp → Prop} (h : J5 x0 H K) : Z3 x0 H K := by
 intro w I
 refine c2i ?_
 refine a3b x0 I (fun r0 H' w' I' hk => ⟨H', _, I', r0, rfl, rfl, hk⟩) h
def G6 (_x0 : A0) (H : Hp) (K : Sl → Hp → Prop) : Prop :=
 K (Sl.mk none 0 0) H
theorem a2t (x0 : A0) {w0 w : World} {ps0 : Nat → Prop} {H0 H : Hp} {K : Sl → Hp → Prop} {R : Value → World → Prop} {E : Pan} (I : Inv w0 ps0 H0 H [] w) (hR : ∀ (r0 : Sl) (H' : Hp) (w' : World) (_ : Inv w0 ps0 H0 H' [] w') (_ : K r0 H'), R (vs r0) w') (h : G6 x0 H K) : b4h (Value.agg (i5 x0.y7).toArray) w R E := by
 unfold G6 at h
 unfold b4h
 refine M1 I (cs := (i5 x0.y7)) rfl fun g_2 w_3 I_4 k_5 => ?_
 exact hR (Sl.mk none 0 0) H _ I_4.drop h
theorem a3d (x0 : A0) {H : Hp} {K : Sl → Hp → Prop} (h : G6 x0 H K) : X9 x0 H K := by
 intro w I
 refine c2k ?_
 refine a2t x0 I (fun r0 H' w' I' hk => ⟨H', _, I', r0, rfl, rfl, hk⟩) h
end Go.Proofs.YthldnpmfelniiaaDoor
