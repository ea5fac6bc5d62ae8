/- Typed formulas of the program's functions, and the theorems that the contracts follow from them; printed by lift.py off the code. -/
import Derived.Test.YthldnpmfelniiaaDoorzWV1
namespace Go.Proofs.YthldnpmfelniiaaDoor
open Go.RowKit
set_option maxRecDepth 100000
set_option maxHeartbeats 2000000
def D5 (_s0j5 : Sl) (c3w : Int) (_s9j5 : Sl) (_s10j5 : Int) (d2A : Int) (H : Hp) (n4 : (Int × Int) → Hp → Prop) (_K : Sl → Hp → Prop) : Prop :=
 n4 (c3w, (IntKind.wrap .i64 (d2A + 1))) H
def D6 (c1D : (List c7)) (H : Hp) (K : Sl → Hp → Prop) : Prop :=
 ∀ (b0y : Sl) (a4n : Hp), Hle H a4n → SlH a4n 1 q6 b0y c1D → b0y.n ≤ b0y.c →
 K b0y a4n
def D7 (e3I : Sl) (e3J : Int) (a5Y : (List c7)) (a5m : Int) (H : Hp) (n3 : ((List c7) × Int) → Hp → Prop) (K : Sl → Hp → Prop) : Prop :=
 (a5m < e3J →
 (0 : Int) ≤ a5m ∧ (a5m : Int) < e3I.n ∧ ∃ d2B : Sl, EltH H e3I a5m 1 [(vs d2B)] ∧
 ∃ c1E : List c7, SlH H 1 q6 d2B c1E ∧ (a5Y.length + c1E.length) * 17 ≤ 140737488355328 ∧
 n3 ((a5Y ++ c1E), (IntKind.wrap .i64 (a5m + 1))) H) ∧
 (¬ (a5m < e3J) →
 D6 a5Y H K)
def D8 (d2C : Sl) (a7y : Int) (H : Hp) (K : Sl → Hp → Prop) : Prop :=
 Q8 a7y H (fun (d2D : (List c7)) (H_9 : Hp) =>
 TL ((d2D, 0) : (List c7) × Int) H_9 fun (s : (List c7) × Int) H n3 => D7 d2C (d2C.n : Int) s.1 s.2 H n3 K)
def D9 (f6d : Sl) (a5Z : Sl) (d2E : Int) (a8V : Int) (a4S : Int) (H : Hp) (n4 : (Int × Int) → Hp → Prop) (K : Sl → Hp → Prop) : Prop :=
 (a4S < d2E →
 (0 : Int) ≤ a4S ∧ (a4S : Int) < a5Z.n ∧ ∃ x_1 : Sl, EltH H a5Z a4S 1 [(vs x_1)] ∧
 ((IntKind.wrap .i64 (a8V + (x_1.n : Int))) < 0 →
 False) ∧
 (¬ ((IntKind.wrap .i64 (a8V + (x_1.n : Int))) < 0) →
 D5 f6d (IntKind.wrap .i64 (a8V + (x_1.n : Int))) a5Z d2E a4S H n4 K)) ∧
 (¬ (a4S < d2E) →
 D8 f6d a8V H K)
def E8 (x0 : Sl) (H : Hp) (K : Sl → Hp → Prop) : Prop :=
 TL ((0, 0) : Int × Int) H fun (s : Int × Int) H n4 => D9 x0 x0 (x0.n : Int) s.1 s.2 H n4 K
theorem a3O (x0 : Sl) {w0 w : World} {ps0 : Nat → Prop} {H0 H : Hp} {K : Sl → Hp → Prop} {R : Value → World → Prop} {E : Pan} (I : Inv w0 ps0 H0 H [] w) (hR : ∀ (r0 : Sl) (H' : Hp) (w' : World) (_ : Inv w0 ps0 H0 H' [] w') (_ : K r0 H'), R (vs r0) w') (h : E8 x0 H K) : F94 (vs x0) w R E := by
 unfold E8 at h
 unfold F94
 have hj1 : ∀ (a7y : Int) (H : Hp) (w : World) (_ : Inv w0 ps0 H0 H [] w) (_ : D8 x0 a7y H K), c6F (vs x0) (vi a7y) w R E := by
  intro a7y H w I h
  unfold c6F
  intro _
  unfold D8 at h
  refine f7 (cap := []) (fun args w => Tryd.call120 args w) ?_
  refine m2 (Fi := []) (Fr := []) I (h) (fun h7B H_9 f6e o2 a5z c3x b7M h0Z => ?_) (fun _ _ _ _ _ q => q.elim)
  obtain ⟨d2D, f6f, f6g, rfl, rfl, f6h, h⟩ := h0Z
  have hj2 : ∀ (c1D : (List c7)) (b0y : Sl) (Fs6j2 : Frag) (H : Hp) (w : World) (_ : RowL 141 1 q6 b0y c1D Fs6j2) (_ : Inv w0 ps0 H0 H [Fs6j2] w) (_ : D6 c1D H K), c6C (vs b0y) w R E := by
   intro c1D b0y Fs6j2 H w g6p I h
   unfold c6C
   intro _
   unfold D6 at h
   obtain ⟨a4n, a3s, c3y, a9T, c7l⟩ := Inv.freezeC I g6p (by decide)
   replace h := h b0y a4n c3y a9T c7l
   exact hR b0y a4n _ a3s h
  refine o3 fun j2 hx2 => ?_
  refine a6 (c1f _ _ _) ?_
  obtain ⟨b2z, a6Y, c7m, c7n⟩ := h
  refine t6 (J := fun n l w => ∃ (s : (List c7) × Int) (H : Hp) (c1F : Sl) (Fs6l3 : Frag) , n = a6Y s ∧ l = (match s with | (a5Y, a5m) => [(vs c1F), (vi a5m)]) ∧ (match s with | (a5Y, a5m) => RowL 141 1 q6 c1F a5Y Fs6l3) ∧ (match s with | (a5Y, a5m) => Inv w0 ps0 H0 H [Fs6l3] w) ∧ b2z s H) ⟨_, (d2D, 0), H_9, f6f, f6g, rfl, rfl, f6h, a5z, c7m⟩ ?_
  rintro f6i τ_46 w next3 ⟨⟨a5Y, a5m⟩, H, c1F, Fs6l3, rfl, b2A, d2F, I, c7o⟩ hn3
  dsimp only at b2A I d2F
  simp only [List.map_cons, List.map_nil, List.cons.injEq, and_true] at b2A
  obtain ⟨e6, e27⟩ := b2A
  simp only [e6, e27]
  obtain ⟨n3, hm3, h⟩ : ∃ n3 : ((List c7) × Int) → Hp → Prop, (∀ s' H', n3 s' H' → b2z s' H' ∧ a6Y s' < a6Y (a5Y, a5m)) ∧ D7 x0 (x0.n : Int) a5Y a5m H n3 K := ⟨_, fun _ _ h => h, c7n (a5Y, a5m) H (fun s' H' => b2z s' H' ∧ a6Y s' < a6Y (a5Y, a5m)) c7o (fun _ _ a b => ⟨a, b⟩)⟩
  unfold d6W
  unfold D7 at h
  refine a6 (p6 _ _ _ _ _ _) ?_
  refine g8 (fun b2B => ?_) (fun b2B => ?_)
  ·replace h := h.1 b2B
   obtain ⟨h1a, d9N, d2B, b9Q, h⟩ := h
   obtain ⟨f6j, h7C, b9R, b9Q⟩ := b9Q
   refine a6 (c4F b9R _ _ _ _ h1a d9N) ?_
   refine c5 (ld1 (v := (vs d2B)) Tryd.isAgg97 (I.atH b9Q)) ?_
   obtain ⟨c1E, c7p, h⟩ := h
   obtain ⟨d9O, h⟩ := h
   refine b7c (s := c1F) (xs := a5Y) I d2F (SlH.src I c7p Q1) d9O fun b5E c3s y7 b2v a6x b9M => ?_
   refine a6 (o4 _ _ _ _ _ _) ?_
   exact hn3 _ _ _ (hm3 _ _ h).2 ⟨((a5Y ++ c1E), (IntKind.wrap .i64 (a5m + 1))), H, b5E, c3s, rfl, rfl, b2v, a6x, (hm3 _ _ h).1⟩
  ·replace h := h.2 b2B
   exact hx2 _ _ (hj2 a5Y c1F Fs6l3 H _ d2F I h)
 refine o3 fun j1 hx1 => ?_
 refine a6 (c1f _ _ _) ?_
 obtain ⟨b9S, b2C, d9P, d9Q⟩ := h
 refine t6 (J := fun n l w => ∃ (s : Int × Int) (H : Hp) , n = b2C s ∧ l = (match s with | (a8V, a4S) => [(vi a8V), (vi a4S)]) ∧ (match s with | (a8V, a4S) => Inv w0 ps0 H0 H [] w) ∧ b9S s H) ⟨_, (0, 0), H, rfl, rfl, I, d9P⟩ ?_
 rintro h1b τ_55 w next4 ⟨⟨a8V, a4S⟩, H, rfl, b9T, I, d9R⟩ hn4
 dsimp only at b9T I
 simp only [List.map_cons, List.map_nil, List.cons.injEq, and_true] at b9T
 obtain ⟨e3, e11⟩ := b9T
 simp only [e3, e11]
 obtain ⟨n4, hm4, h⟩ : ∃ n4 : (Int × Int) → Hp → Prop, (∀ s' H', n4 s' H' → b9S s' H' ∧ b2C s' < b2C (a8V, a4S)) ∧ D9 x0 x0 (x0.n : Int) a8V a4S H n4 K := ⟨_, fun _ _ h => h, d9Q (a8V, a4S) H (fun s' H' => b9S s' H' ∧ b2C s' < b2C (a8V, a4S)) d9R (fun _ _ a b => ⟨a, b⟩)⟩
 unfold d6X
 unfold D9 at h
 refine a6 (p6 _ _ _ _ _ _) ?_
 refine g8 (fun b9U => ?_) (fun b9U => ?_)
 ·replace h := h.1 b9U
  have hj5 : ∀ (c3w : Int) (H : Hp) (w : World) (_ : Inv w0 ps0 H0 H [] w) (_ : D5 x0 c3w x0 (x0.n : Int) a4S H n4 K), c6G (vs x0) (vi c3w) (vs x0) (vi (x0.n : Int)) (vi a4S) w next4 R E := by
   intro c3w H w I h
   unfold c6G
   intro _
   unfold D5 at h
   refine a6 (o4 _ _ _ _ _ _) ?_
   exact hn4 _ _ _ (hm4 _ _ h).2 ⟨(c3w, (IntKind.wrap .i64 (a4S + 1))), H, rfl, rfl, I, (hm4 _ _ h).1⟩
  refine o3 fun j5 hx5 => ?_
  obtain ⟨h_4, h_5, x_1, h_7, h⟩ := h
  obtain ⟨g_2, o_3, h_6, h_7⟩ := h_7
  refine a6 (c4F h_6 _ _ _ _ h_4 h_5) ?_
  refine c5 (ld1 (v := (vs x_1)) Tryd.isAgg97 (I.atH h_7)) ?_
  refine a6 (b3F _ _ _) ?_
  refine a6 (o4 _ _ _ _ _ _) ?_
  refine a6 (p6 _ _ _ _ _ _) ?_
  refine g8 (fun c_8 => ?_) (fun c_8 => ?_)
  ·replace h := h.1 c_8
   refine a6 (d6K _) ?_
   exact h.elim
  ·replace h := h.2 c_8
   exact hx5 _ _ (hj5 (IntKind.wrap .i64 (a8V + (x_1.n : Int))) H _ I h)
 ·replace h := h.2 b9U
  exact hx1 _ _ (hj1 a8V H _ I h)
theorem a4a (x0 : Sl) {H : Hp} {K : Sl → Hp → Prop} (h : E8 x0 H K) : B9 x0 H K := by
 intro w I
 refine f2S ?_
 refine a3O x0 I (fun r0 H' w' I' hk => ⟨H', _, I', r0, rfl, rfl, hk⟩) h
def U3 (x0 : (List ByteArray)) (x1 : ByteArray) (H : Hp) (K : Bool → Hp → Prop) : Prop :=
 a2w x0 x1 H (fun (L9 : Int) (H_1 : Hp) =>
 K (decide (0 ≤ L9)) H_1)
theorem a8a (x0 : (List ByteArray)) (x1 : ByteArray) (sx0 : Sl) (Fx0 : Frag) (hx0 : RowL 9 1 u7 sx0 x0 Fx0) {w0 w : World} {ps0 : Nat → Prop} {H0 H : Hp} {K : Bool → Hp → Prop} {R : Value → World → Prop} {E : Pan} (I : Inv w0 ps0 H0 H [Fx0] w) (hR : ∀ (r0 : Bool) (H' : Hp) (w' : World) (_ : Inv w0 ps0 H0 H' [Fx0] w') (_ : K r0 H'), R (Value.bool r0) w') (h : U3 x0 x1 H K) : d1Z (vs sx0) (Value.string x1) w R E := by
 unfold U3 at h
 unfold d1Z
 refine f7 (cap := []) (fun args w => Tryd.call127 args w) ?_
 refine m2 (Fi := [Fx0]) (Fr := []) I (h sx0 Fx0 hx0) (fun v_5 H_1 F_6 w_2 I_3 l_8 k_4 q_7 => ?_) (fun _ _ _ _ _ q => q.elim)
 obtain ⟨L9, rfl, rfl, h⟩ := q_7
 refine a6 (a1p _ _ _ _ _ _) ?_
 exact hR (decide (0 ≤ L9)) H_1 _ I_3 h
theorem a8C (x0 : (List ByteArray)) (x1 : ByteArray) {H : Hp} {K : Bool → Hp → Prop} (h : U3 x0 x1 H K) : M9 x0 x1 H K := by
 intro sx0 Fx0 hx0 w I
 refine e5G ?_
 refine a8a x0 x1 sx0 Fx0 hx0 I (fun r0 H' w' I' hk => ⟨H', _, I', r0, rfl, rfl, hk⟩) h
def z8 (b1P : Int) (b1Q : Int) (b1R : Int) (b1S : Bool) (b1T : Bool) (a9U : (List ByteArray)) (H : Hp) (K : Bool → i5 → (List ByteArray) → Hp → Prop) : Prop :=
 K true (i5.mk b1P b1Q b1R b1S b1T (Sl.mk none 0 0)) a9U H
def a1b (x0 : i5) (a1l : (List ByteArray)) (x1 : c7) (x2 : Int) (H : Hp) (K : Bool → i5 → (List ByteArray) → Hp → Prop) : Prop :=
 (4096 < (IntKind.wrap .i64 (x0.fnodes + 1)) →
 K false (i5.mk (IntKind.wrap .i64 (x0.fnodes + 1)) x0.fdepth 33 x0.fform x0.fnamed (Sl.mk none 0 0)) a1l H) ∧
 (¬ (4096 < (IntKind.wrap .i64 (x0.fnodes + 1))) →
 (64 < x2 →
 K false (i5.mk (IntKind.wrap .i64 (x0.fnodes + 1)) x0.fdepth 32 x0.fform x0.fnamed (Sl.mk none 0 0)) a1l H) ∧
 (¬ (64 < x2) →
 TG (x0.fform = false) (a5T x1 H) false H (fun (u5 : Bool) (a7z : Hp) =>
 a2W x1 a7z (fun (a6a : ByteArray) (b8J : Bool) (b2D : Hp) =>
 (b8J = true →
 TG (x0.fnamed = false) (a5j a6a b2D) false b2D (fun (a4t : Bool) (b4b : Hp) =>
 M9 a1l a6a b4b (fun (a6b : Bool) (a7A : Hp) =>
 ((!a6b) = true →
 (a1l.length + ([a6a] : List ByteArray).length) * 17 ≤ 140737488355328 ∧
 z8 (IntKind.wrap .i64 (x0.fnodes + 1)) (if x2 > x0.fdepth then x2 else x0.fdepth) x0.fe (x0.fform || (!u5)) (x0.fnamed || (!a4t)) (a1l ++ [a6a]) a7A K) ∧
 ((!a6b) = false →
 z8 (IntKind.wrap .i64 (x0.fnodes + 1)) (if x2 > x0.fdepth then x2 else x0.fdepth) x0.fe (x0.fform || (!u5)) (x0.fnamed || (!a4t)) a1l a7A K)))) ∧
 (b8J = false →
 z8 (IntKind.wrap .i64 (x0.fnodes + 1)) (if x2 > x0.fdepth then x2 else x0.fdepth) x0.fe (x0.fform || (!u5)) x0.fnamed a1l b2D K)))))
theorem b0G (x0 : i5) (a1l : (List ByteArray)) (x1 : c7) (x2 : Int) (g0 : Nat) (a0E : Sl) (a4R : Frag) (b3J : RowL 9 1 u7 a0E a1l a4R) {w0 w : World} {ps0 : Nat → Prop} {H0 H : Hp} {K : Bool → i5 → (List ByteArray) → Hp → Prop} {R : Value → World → Prop} {E : Pan} (I : Inv w0 ps0 H0 H [bx g0 92 [(vi x0.fnodes), (vi x0.fdepth), (vi x0.fe), (Value.bool x0.fform), (Value.bool x0.fnamed), (vs a0E)], a4R] w) (hR : ∀ (r0 : Bool) (y0 : i5) (a7V : (List ByteArray)) (a5P : Sl) (a5Q : Frag) (H' : Hp) (w' : World) (_ : RowL 9 1 u7 a5P a7V a5Q) (_ : Inv w0 ps0 H0 H' [bx g0 92 [(vi y0.fnodes), (vi y0.fdepth), (vi y0.fe), (Value.bool y0.fform), (Value.bool y0.fnamed), (vs a5P)], a5Q] w') (_ : K r0 y0 a7V H'), R (Value.bool r0) w') (h : a1b x0 a1l x1 x2 H K) : F90 (Value.pointer (some ⟨g0, 0, none⟩)) (A6 x1) (vi x2) w R E := by
 unfold a1b at h
 unfold F90
 refine a6 (m1 _) ?_
 refine a6 b5i ?_
 refine c5 (ld1 Tryd.isAgg3 (I.at1 (o := 0) (vs := [(vi x0.fnodes)]) (nb rfl) rfl)) ?_
 refine a6 (o4 _ _ _ _ _ _) ?_
 refine a6 (m1 _) ?_
 refine a6 b5i ?_
 refine u1 I Tryd.sizeOf3 (vs := [(vi (IntKind.wrap .i64 (x0.fnodes + 1)))]) (cs' := [(vi (IntKind.wrap .i64 (x0.fnodes + 1))), (vi x0.fdepth), (vi x0.fe), (Value.bool x0.fform), (Value.bool x0.fnamed), (vs a0E)]) rfl rfl (nb rfl) rfl rfl fun w_1 I_2 k_3 => ?_
 refine a6 (m1 _) ?_
 refine a6 b5i ?_
 refine c5 (ld1 Tryd.isAgg3 (I_2.at1 (o := 0) (vs := [(vi (IntKind.wrap .i64 (x0.fnodes + 1)))]) (nb rfl) rfl)) ?_
 refine a6 (T7 _ _ _ _ _ _) ?_
 refine g8 (fun b2E => ?_) (fun b2E => ?_)
 ·replace h := h.1 b2E
  refine a6 (m1 _) ?_
  refine a6 a8E ?_
  refine u1 I_2 Tryd.sizeOf34 (vs := [(vi 33)]) (cs' := [(vi (IntKind.wrap .i64 (x0.fnodes + 1))), (vi x0.fdepth), (vi 33), (Value.bool x0.fform), (Value.bool x0.fnamed), (vs a0E)]) rfl rfl (nb rfl) rfl rfl fun w_4 I_5 k_6 => ?_
  exact hR false (i5.mk (IntKind.wrap .i64 (x0.fnodes + 1)) x0.fdepth 33 x0.fform x0.fnamed (Sl.mk none 0 0)) a1l a0E a4R H _ b3J ((I_5.bring 1).bring 1) h
 ·replace h := h.2 b2E
  refine a6 (T7 _ _ _ _ _ _) ?_
  refine g8 (fun a8b => ?_) (fun a8b => ?_)
  ·replace h := h.1 a8b
   refine a6 (m1 _) ?_
   refine a6 a8E ?_
   refine u1 I_2 Tryd.sizeOf34 (vs := [(vi 32)]) (cs' := [(vi (IntKind.wrap .i64 (x0.fnodes + 1))), (vi x0.fdepth), (vi 32), (Value.bool x0.fform), (Value.bool x0.fnamed), (vs a0E)]) rfl rfl (nb rfl) rfl rfl fun w_7 I_8 k_9 => ?_
   exact hR false (i5.mk (IntKind.wrap .i64 (x0.fnodes + 1)) x0.fdepth 32 x0.fform x0.fnamed (Sl.mk none 0 0)) a1l a0E a4R H _ b3J ((I_8.bring 1).bring 1) h
  ·replace h := h.2 a8b
   refine a6 (m1 _) ?_
   refine a6 c1e ?_
   refine c5 (ld1 Tryd.isAgg3 (I_2.at1 (o := 1) (vs := [(vi x0.fdepth)]) (nb rfl) rfl)) ?_
   refine a6 (d6A _ _ _ _ _) ?_
   refine a6 (m1 _) ?_
   refine a6 c1e ?_
   refine u1 I_2 Tryd.sizeOf3 (vs := [(vi (if x2 > x0.fdepth then x2 else x0.fdepth))]) (cs' := [(vi (IntKind.wrap .i64 (x0.fnodes + 1))), (vi (if x2 > x0.fdepth then x2 else x0.fdepth)), (vi x0.fe), (Value.bool x0.fform), (Value.bool x0.fnamed), (vs a0E)]) rfl rfl (nb rfl) rfl rfl fun o2 a5z b7M => ?_
   refine a6 (m1 _) ?_
   refine a6 b5l ?_
   refine c5 (ld1 Tryd.isAgg4 (a5z.at1 (o := 3) (vs := [(Value.bool x0.fform)]) (nb rfl) rfl)) ?_
   try simp only [o6]
   refine a3D (D := fun b9V o8 => ∃ (u5 : Bool) (a7z : Hp), b9V = (gv x0.fform false (Value.bool u5)) ∧ (Inv w0 ps0 H0 a7z [bx g0 92 [(vi (IntKind.wrap .i64 (x0.fnodes + 1))), (vi (if x2 > x0.fdepth then x2 else x0.fdepth)), (vi x0.fe), (Value.bool x0.fform), (Value.bool x0.fnamed), (vs a0E)], a4R] o8) ∧ (∀ i, i < o2.heap.size → ¬ inF [] i → o8.heap[i]? = o2.heap[i]?) ∧ Hle H a7z ∧ (a2W x1 a7z (fun (a6a : ByteArray) (b8J : Bool) (b2D : Hp) =>
 (b8J = true →
 TG (x0.fnamed = false) (a5j a6a b2D) false b2D (fun (a4t : Bool) (b4b : Hp) =>
 M9 a1l a6a b4b (fun (a6b : Bool) (a7A : Hp) =>
 ((!a6b) = true →
 (a1l.length + ([a6a] : List ByteArray).length) * 17 ≤ 140737488355328 ∧
 z8 (IntKind.wrap .i64 (x0.fnodes + 1)) (if x2 > x0.fdepth then x2 else x0.fdepth) x0.fe (x0.fform || (!u5)) (x0.fnamed || (!a4t)) (a1l ++ [a6a]) a7A K) ∧
 ((!a6b) = false →
 z8 (IntKind.wrap .i64 (x0.fnodes + 1)) (if x2 > x0.fdepth then x2 else x0.fdepth) x0.fe (x0.fform || (!u5)) (x0.fnamed || (!a4t)) a1l a7A K)))) ∧
 (b8J = false →
 z8 (IntKind.wrap .i64 (x0.fnodes + 1)) (if x2 > x0.fdepth then x2 else x0.fdepth) x0.fe (x0.fform || (!u5)) x0.fnamed a1l b2D K)))) (fun c3z => ?_) (fun c3z => ?_) ?_
   ·replace h := h.1 c3z
    have a7 := c3z
    try simp only [a8 a7]
    refine b4F a5z h (fun u5 a7z o8 b5H b9W c7q h => ?_)
    exact ⟨u5, a7z, by first | rfl | rw [a8 c3z], b5H, c7q, b9W, h⟩
   ·exact ⟨false, H, by first | rfl | rw [a6G c3z], a5z, fun _ _ _ => rfl, Hle.refl _, h.2 c3z⟩
   ·clear h
    rintro b9V o8 ⟨u5, a7z, rfl, b5H, c7q, b9W, h⟩
    refine a6 (Pu.g fun hb => by have a7 := hb; first | exact (L2 _) | (simp only [a8 a7]; exact (L2 _)) | (simp only [b8 a7, a8 a7, a8 hb, v8 a7, h7]; exact (L2 _))) ?_
    refine a6 (E6 _ _) ?_
    refine a6 (m1 _) ?_
    refine a6 b5l ?_
    refine u1 b5H Tryd.sizeOf4 (vs := [(Value.bool (x0.fform || (!u5)))]) (cs' := [(vi (IntKind.wrap .i64 (x0.fnodes + 1))), (vi (if x2 > x0.fdepth then x2 else x0.fdepth)), (vi x0.fe), (Value.bool (x0.fform || (!u5))), (Value.bool x0.fnamed), (vs a0E)]) rfl rfl (nb rfl) rfl rfl fun a5b d2G h1c => ?_
    have hj1 : ∀ (b1P : Int) (b1Q : Int) (b1R : Int) (b1S : Bool) (b1T : Bool) (a9U : (List ByteArray)) (b5I : Sl) (b5J : Frag) (H : Hp) (w : World) (_ : RowL 9 1 u7 b5I a9U b5J) (_ : Inv w0 ps0 H0 H [bx g0 92 [(vi b1P), (vi b1Q), (vi b1R), (Value.bool b1S), (Value.bool b1T), (vs b5I)], b5J] w) (_ : z8 b1P b1Q b1R b1S b1T a9U H K), c6l w R E := by
     intro b1P b1Q b1R b1S b1T a9U b5I b5J H w d9S I h
     unfold c6l
     intro _
     unfold z8 at h
     exact hR true (i5.mk b1P b1Q b1R b1S b1T (Sl.mk none 0 0)) a9U b5I b5J H _ d9S ((I.bring 1).bring 1) h
    refine o3 fun j1 hx1 => ?_
    refine f7 (cap := []) (fun args w => Tryd.call114 args w) ?_
    refine m2 (Fi := []) (Fr := [bx g0 92 [(vi (IntKind.wrap .i64 (x0.fnodes + 1))), (vi (if x2 > x0.fdepth then x2 else x0.fdepth)), (vi x0.fe), (Value.bool (x0.fform || (!u5))), (Value.bool x0.fnamed), (vs a0E)], a4R]) d2G (h) (fun h7D b2D c3s a8F d2H h7E h7F h1d => ?_) (fun _ _ _ _ _ q => q.elim)
    obtain ⟨a6a, b8J, rfl, rfl, h⟩ := h1d
    refine a6 (u0 _ _ _ rfl) ?_
    refine a6 (u0 _ _ _ rfl) ?_
    refine m5 (fun b2F => ?_) (fun b2F => ?_)
    ·replace h := h.1 b2F
     refine a6 (m1 _) ?_
     refine a6 b5m ?_
     refine c5 (ld1 Tryd.isAgg4 (d2H.at1 (o := 4) (vs := [(Value.bool x0.fnamed)]) (nb rfl) rfl)) ?_
     try simp only [o6]
     refine a3D (D := fun d9T A4 => ∃ (a4t : Bool) (b4b : Hp) , d9T = (gv x0.fnamed false (Value.bool a4t)) ∧ (Inv w0 ps0 H0 b4b [bx g0 92 [(vi (IntKind.wrap .i64 (x0.fnodes + 1))), (vi (if x2 > x0.fdepth then x2 else x0.fdepth)), (vi x0.fe), (Value.bool (x0.fform || (!u5))), (Value.bool x0.fnamed), (vs a0E)], a4R] A4) ∧ (∀ i, i < a8F.heap.size → ¬ inF [] i → A4.heap[i]? = a8F.heap[i]?) ∧ Hle b2D b4b ∧ (M9 a1l a6a b4b (fun (a6b : Bool) (a7A : Hp) =>
 ((!a6b) = true →
 (a1l.length + ([a6a] : List ByteArray).length) * 17 ≤ 140737488355328 ∧
 z8 (IntKind.wrap .i64 (x0.fnodes + 1)) (if x2 > x0.fdepth then x2 else x0.fdepth) x0.fe (x0.fform || (!u5)) (x0.fnamed || (!a4t)) (a1l ++ [a6a]) a7A K) ∧
 ((!a6b) = false →
 z8 (IntKind.wrap .i64 (x0.fnodes + 1)) (if x2 > x0.fdepth then x2 else x0.fdepth) x0.fe (x0.fform || (!u5)) (x0.fnamed || (!a4t)) a1l a7A K)))) (fun a8c => ?_) (fun a8c => ?_) ?_
     ·replace h := h.1 a8c
      have a7 := a8c
      try simp only [a8 a7]
      refine f7 (cap := []) (fun args w => Tryd.call115 args w) ?_
      refine m2 (Fi := []) (Fr := [bx g0 92 [(vi (IntKind.wrap .i64 (x0.fnodes + 1))), (vi (if x2 > x0.fdepth then x2 else x0.fdepth)), (vi x0.fe), (Value.bool (x0.fform || (!u5))), (Value.bool x0.fnamed), (vs a0E)], a4R]) d2H (h) (fun d9T b4b h7G A4 c7r f6k f6l h1e => ?_) (fun _ _ _ _ _ q => q.elim)
      obtain ⟨a4t, rfl, rfl, h⟩ := h1e
      exact ⟨a4t, b4b, by first | rfl | rw [a8 a8c], c7r, f6l, f6k, h⟩
     ·exact ⟨false, b2D, by first | rfl | rw [a6G a8c], d2H, fun _ _ _ => rfl, Hle.refl _, h.2 a8c⟩
     ·clear h
      rintro d9T A4 ⟨a4t, b4b, rfl, c7r, f6l, f6k, h⟩
      refine a6 (Pu.g fun hb => by have a7 := hb; first | exact (L2 _) | (simp only [a8 a7]; exact (L2 _)) | (simp only [b8 a7, a8 a7, a8 hb, v8 a7, h7]; exact (L2 _))) ?_
      refine a6 (E6 _ _) ?_
      refine a6 (m1 _) ?_
      refine a6 b5m ?_
      refine u1 c7r Tryd.sizeOf4 (vs := [(Value.bool (x0.fnamed || (!a4t)))]) (cs' := [(vi (IntKind.wrap .i64 (x0.fnodes + 1))), (vi (if x2 > x0.fdepth then x2 else x0.fdepth)), (vi x0.fe), (Value.bool (x0.fform || (!u5))), (Value.bool (x0.fnamed || (!a4t))), (vs a0E)]) rfl rfl (nb rfl) rfl rfl fun D3 c3A f6m => ?_
      refine a6 (m1 _) ?_
      refine a6 b5j ?_
      refine c5 (ld1 Tryd.isAgg47 (c3A.at1 (o := 5) (vs := [(vs a0E)]) (nb rfl) rfl)) ?_
      refine f7 (cap := []) (fun args w => Tryd.call116 args w) ?_
      refine m2 (Fi := [a4R]) (Fr := [bx g0 92 [(vi (IntKind.wrap .i64 (x0.fnodes + 1))), (vi (if x2 > x0.fdepth then x2 else x0.fdepth)), (vi x0.fe), (Value.bool (x0.fform || (!u5))), (Value.bool (x0.fnamed || (!a4t))), (vs a0E)]]) (c3A.bring 1) (h a0E a4R b3J) (fun h1f a7A h1g E4 b2G h1h f6n d9U => ?_) (fun _ _ _ _ _ q => q.elim)
      obtain ⟨a6b, rfl, rfl, h⟩ := d9U
      refine a6 (L2 _) ?_
      refine m5 (fun b9X => ?_) (fun b9X => ?_)
      ·replace h := h.1 b9X
       refine a6 (m1 _) ?_
       refine a6 b5j ?_
       refine c5 (ld1 Tryd.isAgg47 ((b2G.bring 1).at1 (o := 5) (vs := [(vs a0E)]) (nb rfl) rfl)) ?_
       refine a5G (e := 9) (c := u7) (xs := [a6a]) b2G (c2T _) rfl rfl a6q a6r (nb rfl) fun h7H h7I c6j b9Y c3B h7J => ?_
       obtain ⟨h1i, h⟩ := h
       refine c5P (s := a0E) (xs := a1l) (c3B.bring 1) b3J (b9Y.srcO ((c3B.bring 1).bring 1)) h1i fun d9V h1j b5p a7B h1k h7K => ?_
       refine a6 (m1 _) ?_
       refine a6 b5j ?_
       refine u1 ((h1k.bring 1).drop.bring 1) Tryd.sizeOf47 (vs := [(vs d9V)]) (cs' := [(vi (IntKind.wrap .i64 (x0.fnodes + 1))), (vi (if x2 > x0.fdepth then x2 else x0.fdepth)), (vi x0.fe), (Value.bool (x0.fform || (!u5))), (Value.bool (x0.fnamed || (!a4t))), (vs d9V)]) rfl rfl (nb rfl) rfl rfl fun U0 c7s h1l => ?_
       exact hx1 _ _ (hj1 (IntKind.wrap .i64 (x0.fnodes + 1)) (if x2 > x0.fdepth then x2 else x0.fdepth) x0.fe (x0.fform || (!u5)) (x0.fnamed || (!a4t)) (a1l ++ [a6a]) d9V h1j a7A _ a7B ((c7s.bring 1).bring 1) h)
      ·replace h := h.2 b9X
       exact hx1 _ _ (hj1 (IntKind.wrap .i64 (x0.fnodes + 1)) (if x2 > x0.fdepth then x2 else x0.fdepth) x0.fe (x0.fform || (!u5)) (x0.fnamed || (!a4t)) a1l a0E a4R a7A _ b3J (b2G.bring 1) h)
    ·replace h := h.2 b2F
     exact hx1 _ _ (hj1 (IntKind.wrap .i64 (x0.fnodes + 1)) (if x2 > x0.fdepth then x2 else x0.fdepth) x0.fe (x0.fform || (!u5)) x0.fnamed a1l a0E a4R b2D _ b3J ((d2H.bring 1).bring 1) h)
theorem b0Q (x0 : i5) (a1l : (List ByteArray)) (x1 : c7) (x2 : Int) {H : Hp} {K : Bool → i5 → (List ByteArray) → Hp → Prop} (h : a1b x0 a1l x1 x2 H K) : a3o x0 a1l x1 x2 H K := by
 intro g0 a0E a4R b3J w I
 refine f1S ?_
 refine b0G x0 a1l x1 x2 g0 a0E a4R b3J I (fun r0 y0 a7V a5P a5Q H' w' c7t I' hk => ⟨H', _, I', r0, y0, a7V, a5P, a5Q, rfl, rfl, c7t, hk⟩) h
def R2 (h1m : Int) (cr_1l1 : m7) (a8d : Int) (a4T : b7) (H : Hp) (n1 : (Int × b7) → Hp → Prop) (K : b7 → Hp → Prop) : Prop :=
 (((decide (a8d < (cr_1l1.u6.n : Int))) && (decide (a4T.fbad = 0))) = true →
 (0 : Int) ≤ a8d ∧ (a8d : Int) < cr_1l1.u6.n ∧ ∃ d2I : m7, EltH H cr_1l1.u6 a8d 4 (f6 d2I) ∧
 P3 a4T d2I (IntKind.wrap .i64 (h1m + 1)) H (fun (d2J : b7) (b2H : Hp) =>
 n1 ((IntKind.wrap .i64 (a8d + 1)), d2J) b2H)) ∧
 (((decide (a8d < (cr_1l1.u6.n : Int))) && (decide (a4T.fbad = 0))) = false →
 K a4T H)
def X1 (x0 : b7) (x1 : m7) (x2 : Int) (H : Hp) (K : b7 → Hp → Prop) : Prop :=
 L4 x0 x2 H (fun (u4 : Bool) (M4 : b7) (H_6 : Hp) =>
 ((!u4) = true →
 K M4 H_6) ∧
 ((!u4) = false →
 TL ((0, M4) : Int × b7) H_6 fun (s : Int × b7) H n1 => R2 x2 x1 s.1 s.2 H n1 K))
theorem a8W (x0 : b7) (x1 : m7) (x2 : Int) (g0 : Nat) {w0 w : World} {ps0 : Nat → Prop} {H0 H : Hp} {K : b7 → Hp → Prop} {R : Value → World → Prop} {E : Pan} (I : Inv w0 ps0 H0 H [bx g0 99 (d7 x0)] w) (hR : ∀ (y0 : b7) (H' : Hp) (w' : World) (_ : Inv w0 ps0 H0 H' [bx g0 99 (d7 y0)] w') (_ : K y0 H'), R (Value.tuple #[]) w') (h : X1 x0 x1 x2 H K) : F58 (Value.pointer (some ⟨g0, 0, none⟩)) (Value.agg (f6 x1).toArray) (vi x2) w R E := by
 unfold X1 at h
 unfold F58
 refine K2 I (cs := (f6 x1)) rfl fun g_2 w_3 I_4 k_5 => ?_
 refine f7 (cap := []) (fun args w => Tryd.call91 args w) ?_
 refine m2 (Fi := [bx g0 99 (d7 x0)]) (Fr := [bx g_2 30 (f6 x1)]) (I_4.bring 1) (h g0) (fun a8X H_6 a8Y w_7 I_8 a8Z k_9 a1P => ?_) (fun _ _ _ _ _ q => q.elim)
 obtain ⟨u4, M4, rfl, rfl, h⟩ := a1P
 refine a6 (L2 _) ?_
 refine m5 (fun b9Z => ?_) (fun b9Z => ?_)
 ·replace h := h.1 b9Z
  exact hR M4 H_6 _ (I_8.bring 1).drop h
 ·replace h := h.2 b9Z
  obtain ⟨d9W, c7u, h1n, h1o⟩ := h
  refine t6 (J := fun n l w => ∃ (s : Int × b7) (H : Hp) , n = c7u s ∧ l = (match s with | (a8d, a4T) => [(vi a8d)]) ∧ (match s with | (a8d, a4T) => Inv w0 ps0 H0 H [bx g0 99 (d7 a4T), bx g_2 30 (f6 x1)] w) ∧ d9W s H) ⟨_, (0, M4), H_6, rfl, rfl, ((I_8.bring 1).bring 1), h1n⟩ ?_
  rintro h7L τ_62 w next1 ⟨⟨a8d, a4T⟩, H, rfl, d2K, I, h1p⟩ hn1
  dsimp only at d2K I
  simp only [List.map_cons, List.map_nil, List.cons.injEq, and_true] at d2K
  have e6 := d2K
  simp only [e6]
  obtain ⟨n1, hm1, h⟩ : ∃ n1 : (Int × b7) → Hp → Prop, (∀ s' H', n1 s' H' → d9W s' H' ∧ c7u s' < c7u (a8d, a4T)) ∧ R2 x2 x1 a8d a4T H n1 K := ⟨_, fun _ _ h => h, h1o (a8d, a4T) H (fun s' H' => d9W s' H' ∧ c7u s' < c7u (a8d, a4T)) h1p (fun _ _ a b => ⟨a, b⟩)⟩
  unfold d6L
  unfold R2 at h
  refine a6 a0U ?_
  refine c5 (ld1 Tryd.isAgg28 ((I.bring 1).at1 (o := 3) (vs := [(vs x1.u6)]) (nb rfl) rfl)) ?_
  refine a6 (G2 _ _ _) ?_
  refine a6 (p6 _ _ _ _ _ _) ?_
  try simp only [o6]
  refine a6 (Pu.g fun hb => by have a7 := hb; first | exact (m1 _) | (simp only [a8 a7]; exact (m1 _)) | (simp only [b8 a7, a8 a7, a8 hb, d9 a7, h7]; exact (m1 _))) ?_
  refine a6 (Pu.g fun hb => by have a7 := hb; first | exact y6 | (simp only [a8 a7]; exact y6) | (simp only [b8 a7, a8 a7, a8 hb, d9 a7, h7]; exact y6)) ?_
  refine c5 (Ld.g fun hb => by have a7 := hb; first | exact (ld1 Tryd.isAgg3 (I.at1 (o := 2) (vs := [(vi a4T.fbad)]) (nb rfl) rfl)) | (simp only [a8 a7]; exact (ld1 Tryd.isAgg3 (I.at1 (o := 2) (vs := [(vi a4T.fbad)]) (nb rfl) rfl))) | (simp only [b8 a7, a8 a7, a8 hb, d9 a7, h7]; exact (ld1 Tryd.isAgg3 (I.at1 (o := 2) (vs := [(vi a4T.fbad)]) (nb rfl) rfl)))) ?_
  refine a6 (Pu.g fun hb => by have a7 := hb; first | exact (c8 _ _ _ _ _ _) | (simp only [a8 a7]; exact (c8 _ _ _ _ _ _)) | (simp only [b8 a7, a8 a7, a8 hb, d9 a7, h7]; exact (c8 _ _ _ _ _ _))) ?_
  refine a6 (p1 _ _) ?_
  refine m5 (fun c0a => ?_) (fun c0a => ?_)
  ·replace h := h.1 c0a
   refine a6 a0U ?_
   refine c5 (ld1 Tryd.isAgg28 ((I.bring 1).at1 (o := 3) (vs := [(vs x1.u6)]) (nb rfl) rfl)) ?_
   obtain ⟨a8R, h1q, d2I, c7v, h⟩ := h
   obtain ⟨h7M, h7N, f6o, c7v⟩ := c7v
   refine a6 (a2u f6o _ _ _ _ a8R h1q) ?_
   refine c5 (ldA (vs := (f6 d2I)) Tryd.isAgg30 Tryd.sizeOf30 rfl (I.atH c7v)) ?_
   refine a6 (o4 _ _ _ _ _ _) ?_
   refine f7 (cap := []) (fun args w => Tryd.call58 args w) ?_
   refine m2 (Fi := [bx g0 99 (d7 a4T)]) (Fr := [bx g_2 30 (f6 x1)]) I (h g0) (fun f6p b2H f6q J7 b5K c3C d2L c7w => ?_) (fun _ _ _ _ _ q => q.elim)
   obtain ⟨d2J, rfl, rfl, h⟩ := c7w
   refine a6 (o4 _ _ _ _ _ _) ?_
   exact hn1 _ _ _ (hm1 _ _ h).2 ⟨((IntKind.wrap .i64 (a8d + 1)), d2J), b2H, rfl, rfl, ((b5K.bring 1).bring 1), (hm1 _ _ h).1⟩
  ·replace h := h.2 c0a
   exact hR a4T H _ (I.bring 1).drop h
theorem a9u (x0 : b7) (x1 : m7) (x2 : Int) {H : Hp} {K : b7 → Hp → Prop} (h : X1 x0 x1 x2 H K) : P3 x0 x1 x2 H K := by
 intro g0 w I
 refine f0o ?_
 refine a8W x0 x1 x2 g0 I (fun y0 H' w' I' hk => ⟨H', _, I', y0, rfl, rfl, hk⟩) h
def R3 (h1r : Int) (cr_1l4 : l9) (a5Z : Int) (O1 : b7) (H : Hp) (n4 : (Int × b7) → Hp → Prop) (K : b7 → Hp → Prop) : Prop :=
 (((decide (a5Z < (cr_1l4.y8.n : Int))) && (decide (O1.fbad = 0))) = true →
 (0 : Int) ≤ a5Z ∧ (a5Z : Int) < cr_1l4.y8.n ∧ ∃ d2M : l9, EltH H cr_1l4.y8 a5Z 6 (d8 d2M) ∧
 P4 O1 d2M (IntKind.wrap .i64 (h1r + 1)) H (fun (c7x : b7) (d9X : Hp) =>
 n4 ((IntKind.wrap .i64 (a5Z + 1)), c7x) d9X)) ∧
 (((decide (a5Z < (cr_1l4.y8.n : Int))) && (decide (O1.fbad = 0))) = false →
 K O1 H)
def R4 (h1s : Int) (a1s : b7) (cr_1j3 : l9) (H : Hp) (K : b7 → Hp → Prop) : Prop :=
 TL ((0, a1s) : Int × b7) H fun (s : Int × b7) H n4 => R3 h1s cr_1j3 s.1 s.2 H n4 K
def R5 (f6r : Int) (cr_1l5 : l9) (a8e : Int) (D2 : b7) (H : Hp) (n5 : (Int × b7) → Hp → Prop) (K : b7 → Hp → Prop) : Prop :=
 (((decide (a8e < (cr_1l5.A9.n : Int))) && (decide (D2.fbad = 0))) = true →
 (0 : Int) ≤ a8e ∧ (a8e : Int) < cr_1l5.A9.n ∧ ∃ c5e : l9, EltH H cr_1l5.A9 a8e 6 (d8 c5e) ∧
 P4 D2 c5e (IntKind.wrap .i64 (f6r + 1)) H (fun (c7y : b7) (d2N : Hp) =>
 n5 ((IntKind.wrap .i64 (a8e + 1)), c7y) d2N)) ∧
 (((decide (a8e < (cr_1l5.A9.n : Int))) && (decide (D2.fbad = 0))) = false →
 R4 f6r D2 cr_1l5 H K)
def R6 (h1t : Int) (a5n : b7) (cr_1j2 : l9) (H : Hp) (K : b7 → Hp → Prop) : Prop :=
 TL ((0, a5n) : Int × b7) H fun (s : Int × b7) H n5 => R5 h1t cr_1j2 s.1 s.2 H n5 K
def R7 (f6s : Int) (cr_1l6 : l9) (a8f : Int) (O2 : b7) (H : Hp) (n6 : (Int × b7) → Hp → Prop) (K : b7 → Hp → Prop) : Prop :=
 (((decide (a8f < (cr_1l6.g5.n : Int))) && (decide (O2.fbad = 0))) = true →
 (0 : Int) ≤ a8f ∧ (a8f : Int) < cr_1l6.g5.n ∧ ∃ c5f : m7, EltH H cr_1l6.g5 a8f 4 (f6 c5f) ∧
 P3 O2 c5f (IntKind.wrap .i64 (f6s + 1)) H (fun (c7z : b7) (d2O : Hp) =>
 n6 ((IntKind.wrap .i64 (a8f + 1)), c7z) d2O)) ∧
 (((decide (a8f < (cr_1l6.g5.n : Int))) && (decide (O2.fbad = 0))) = false →
 R6 f6s O2 cr_1l6 H K)
def R8 (b4c : Int) (K3 : b7) (cr_1j1 : l9) (H : Hp) (K : b7 → Hp → Prop) : Prop :=
 TL ((0, K3) : Int × b7) H fun (s : Int × b7) H n6 => R7 b4c cr_1j1 s.1 s.2 H n6 K
def R9 (f6t : Int) (cr_1l7 : l9) (a8g : Int) (O3 : b7) (H : Hp) (n7 : (Int × b7) → Hp → Prop) (K : b7 → Hp → Prop) : Prop :=
 (((decide (a8g < (cr_1l7.m4.n : Int))) && (decide (O3.fbad = 0))) = true →
 (0 : Int) ≤ a8g ∧ (a8g : Int) < cr_1l7.m4.n ∧ ∃ c5g : m8, EltH H cr_1l7.m4 a8g 4 (g7 c5g) ∧
 W9 O3 c5g (IntKind.wrap .i64 (f6t + 1)) H (fun (c7A : b7) (d2P : Hp) =>
 n7 ((IntKind.wrap .i64 (a8g + 1)), c7A) d2P)) ∧
 (((decide (a8g < (cr_1l7.m4.n : Int))) && (decide (O3.fbad = 0))) = false →
 R8 f6t O3 cr_1l7 H K)
def X2 (x0 : b7) (x1 : l9) (x2 : Int) (H : Hp) (K : b7 → Hp → Prop) : Prop :=
 L4 x0 x2 H (fun (u4 : Bool) (M4 : b7) (H_6 : Hp) =>
 ((!u4) = true →
 K M4 H_6) ∧
 ((!u4) = false →
 TL ((0, M4) : Int × b7) H_6 fun (s : Int × b7) H n7 => R9 x2 x1 s.1 s.2 H n7 K))
theorem a9a (x0 : b7) (x1 : l9) (x2 : Int) (g0 : Nat) {w0 w : World} {ps0 : Nat → Prop} {H0 H : Hp} {K : b7 → Hp → Prop} {R : Value → World → Prop} {E : Pan} (I : Inv w0 ps0 H0 H [bx g0 99 (d7 x0)] w) (hR : ∀ (y0 : b7) (H' : Hp) (w' : World) (_ : Inv w0 ps0 H0 H' [bx g0 99 (d7 y0)] w') (_ : K y0 H'), R (Value.tuple #[]) w') (h : X2 x0 x1 x2 H K) : F92 (Value.pointer (some ⟨g0, 0, none⟩)) (Value.agg (d8 x1).toArray) (vi x2) w R E := by
 unfold X2 at h
 unfold F92
 refine K2 I (cs := (d8 x1)) rfl fun g_2 w_3 I_4 k_5 => ?_
 refine f7 (cap := []) (fun args w => Tryd.call91 args w) ?_
 refine m2 (Fi := [bx g0 99 (d7 x0)]) (Fr := [bx g_2 88 (d8 x1)]) (I_4.bring 1) (h g0) (fun a8X H_6 a8Y w_7 I_8 a8Z k_9 a1P => ?_) (fun _ _ _ _ _ q => q.elim)
 obtain ⟨u4, M4, rfl, rfl, h⟩ := a1P
 refine a6 (L2 _) ?_
 refine m5 (fun d2Q => ?_) (fun d2Q => ?_)
 ·replace h := h.1 d2Q
  exact hR M4 H_6 _ (I_8.bring 1).drop h
 ·replace h := h.2 d2Q
  have hj1 : ∀ (K3 : b7) (H : Hp) (w : World) (_ : Inv w0 ps0 H0 H [bx g0 99 (d7 K3), bx g_2 88 (d8 x1)] w) (_ : R8 x2 K3 x1 H K), c6B (Value.pointer (some ⟨g0, 0, none⟩)) (vi x2) (Value.pointer (some ⟨g_2, 0, none⟩)) w R E := by
   intro K3 H w I h
   unfold c6B
   intro _
   unfold R8 at h
   have hj2 : ∀ (a5n : b7) (H : Hp) (w : World) (_ : Inv w0 ps0 H0 H [bx g0 99 (d7 a5n), bx g_2 88 (d8 x1)] w) (_ : R6 x2 a5n x1 H K), c6z (Value.pointer (some ⟨g0, 0, none⟩)) (vi x2) (Value.pointer (some ⟨g_2, 0, none⟩)) w R E := by
    intro a5n H w I h
    unfold c6z
    intro _
    unfold R6 at h
    have hj3 : ∀ (a1s : b7) (H : Hp) (w : World) (_ : Inv w0 ps0 H0 H [bx g0 99 (d7 a1s), bx g_2 88 (d8 x1)] w) (_ : R4 x2 a1s x1 H K), c6x (Value.pointer (some ⟨g0, 0, none⟩)) (vi x2) (Value.pointer (some ⟨g_2, 0, none⟩)) w R E := by
     intro a1s H w I h
     unfold c6x
     intro _
     unfold R4 at h
     obtain ⟨d2R, c1G, g6q, g6r⟩ := h
     refine t6 (J := fun n l w => ∃ (s : Int × b7) (H : Hp) , n = c1G s ∧ l = (match s with | (a5Z, O1) => [(vi a5Z)]) ∧ (match s with | (a5Z, O1) => Inv w0 ps0 H0 H [bx g0 99 (d7 O1), bx g_2 88 (d8 x1)] w) ∧ d2R s H) ⟨_, (0, a1s), H, rfl, rfl, ((I.bring 1).bring 1), g6q⟩ ?_
     rintro h4I τ_110 w next4 ⟨⟨a5Z, O1⟩, H, rfl, c1H, I, g6s⟩ hn4
     dsimp only at c1H I
     simp only [List.map_cons, List.map_nil, List.cons.injEq, and_true] at c1H
     have e9 := c1H
     simp only [e9]
     obtain ⟨n4, hm4, h⟩ : ∃ n4 : (Int × b7) → Hp → Prop, (∀ s' H', n4 s' H' → d2R s' H' ∧ c1G s' < c1G (a5Z, O1)) ∧ R3 x2 x1 a5Z O1 H n4 K := ⟨_, fun _ _ h => h, g6r (a5Z, O1) H (fun s' H' => d2R s' H' ∧ c1G s' < c1G (a5Z, O1)) g6s (fun _ _ a b => ⟨a, b⟩)⟩
     unfold d6S
     unfold R3 at h
     refine a6 W5 ?_
     refine c5 (ld1 Tryd.isAgg23 ((I.bring 1).at1 (o := 5) (vs := [(vs x1.y8)]) (nb rfl) rfl)) ?_
     refine a6 (M5 _ _ _) ?_
     refine a6 (p6 _ _ _ _ _ _) ?_
     try simp only [o6]
     refine a6 (Pu.g fun hb => by have a7 := hb; first | exact (m1 _) | (simp only [a8 a7]; exact (m1 _)) | (simp only [b8 a7, a8 a7, a8 hb, d9 a7, h7]; exact (m1 _))) ?_
     refine a6 (Pu.g fun hb => by have a7 := hb; first | exact y6 | (simp only [a8 a7]; exact y6) | (simp only [b8 a7, a8 a7, a8 hb, d9 a7, h7]; exact y6)) ?_
     refine c5 (Ld.g fun hb => by have a7 := hb; first | exact (ld1 Tryd.isAgg3 (I.at1 (o := 2) (vs := [(vi O1.fbad)]) (nb rfl) rfl)) | (simp only [a8 a7]; exact (ld1 Tryd.isAgg3 (I.at1 (o := 2) (vs := [(vi O1.fbad)]) (nb rfl) rfl))) | (simp only [b8 a7, a8 a7, a8 hb, d9 a7, h7]; exact (ld1 Tryd.isAgg3 (I.at1 (o := 2) (vs := [(vi O1.fbad)]) (nb rfl) rfl)))) ?_
     refine a6 (Pu.g fun hb => by have a7 := hb; first | exact (c8 _ _ _ _ _ _) | (simp only [a8 a7]; exact (c8 _ _ _ _ _ _)) | (simp only [b8 a7, a8 a7, a8 hb, d9 a7, h7]; exact (c8 _ _ _ _ _ _))) ?_
     refine a6 (p1 _ _) ?_
     refine m5 (fun b5L => ?_) (fun b5L => ?_)
     ·replace h := h.1 b5L
      refine a6 W5 ?_
      refine c5 (ld1 Tryd.isAgg23 ((I.bring 1).at1 (o := 5) (vs := [(vs x1.y8)]) (nb rfl) rfl)) ?_
      obtain ⟨h1u, h1v, d2M, b5M, h⟩ := h
      obtain ⟨h7O, h7P, c7B, b5M⟩ := b5M
      refine a6 (a5J c7B _ _ _ _ h1u h1v) ?_
      refine c5 (ldA (vs := (d8 d2M)) Tryd.isAgg88 Tryd.sizeOf88 rfl (I.atH b5M)) ?_
      refine a6 (o4 _ _ _ _ _ _) ?_
      refine f7 (cap := []) (fun args w => Tryd.call92 args w) ?_
      refine m2 (Fi := [bx g0 99 (d7 O1)]) (Fr := [bx g_2 88 (d8 x1)]) I (h g0) (fun h7Q d9X h4J a2V h1w h4K h7R g6t => ?_) (fun _ _ _ _ _ q => q.elim)
      obtain ⟨c7x, rfl, rfl, h⟩ := g6t
      refine a6 (o4 _ _ _ _ _ _) ?_
      exact hn4 _ _ _ (hm4 _ _ h).2 ⟨((IntKind.wrap .i64 (a5Z + 1)), c7x), d9X, rfl, rfl, ((h1w.bring 1).bring 1), (hm4 _ _ h).1⟩
     ·replace h := h.2 b5L
      exact hR O1 H _ (I.bring 1).drop h
    refine o3 fun j3 hx3 => ?_
    obtain ⟨d2S, c1I, g6u, g6v⟩ := h
    refine t6 (J := fun n l w => ∃ (s : Int × b7) (H : Hp) , n = c1I s ∧ l = (match s with | (a8e, D2) => [(vi a8e)]) ∧ (match s with | (a8e, D2) => Inv w0 ps0 H0 H [bx g0 99 (d7 D2), bx g_2 88 (d8 x1)] w) ∧ d2S s H) ⟨_, (0, a5n), H, rfl, rfl, ((I.bring 1).bring 1), g6u⟩ ?_
    rintro h4L τ_144 w next5 ⟨⟨a8e, D2⟩, H, rfl, d2T, I, g6w⟩ hn5
    dsimp only at d2T I
    simp only [List.map_cons, List.map_nil, List.cons.injEq, and_true] at d2T
    have e8 := d2T
    simp only [e8]
    obtain ⟨n5, hm5, h⟩ : ∃ n5 : (Int × b7) → Hp → Prop, (∀ s' H', n5 s' H' → d2S s' H' ∧ c1I s' < c1I (a8e, D2)) ∧ R5 x2 x1 a8e D2 H n5 K := ⟨_, fun _ _ h => h, g6v (a8e, D2) H (fun s' H' => d2S s' H' ∧ c1I s' < c1I (a8e, D2)) g6w (fun _ _ a b => ⟨a, b⟩)⟩
    unfold d6T
    unfold R5 at h
    refine a6 a1F ?_
    refine c5 (ld1 Tryd.isAgg23 ((I.bring 1).at1 (o := 4) (vs := [(vs x1.A9)]) (nb rfl) rfl)) ?_
    refine a6 (M5 _ _ _) ?_
    refine a6 (p6 _ _ _ _ _ _) ?_
    try simp only [o6]
    refine a6 (Pu.g fun hb => by have a7 := hb; first | exact (m1 _) | (simp only [a8 a7]; exact (m1 _)) | (simp only [b8 a7, a8 a7, a8 hb, d9 a7, h7]; exact (m1 _))) ?_
    refine a6 (Pu.g fun hb => by have a7 := hb; first | exact y6 | (simp only [a8 a7]; exact y6) | (simp only [b8 a7, a8 a7, a8 hb, d9 a7, h7]; exact y6)) ?_
    refine c5 (Ld.g fun hb => by have a7 := hb; first | exact (ld1 Tryd.isAgg3 (I.at1 (o := 2) (vs := [(vi D2.fbad)]) (nb rfl) rfl)) | (simp only [a8 a7]; exact (ld1 Tryd.isAgg3 (I.at1 (o := 2) (vs := [(vi D2.fbad)]) (nb rfl) rfl))) | (simp only [b8 a7, a8 a7, a8 hb, d9 a7, h7]; exact (ld1 Tryd.isAgg3 (I.at1 (o := 2) (vs := [(vi D2.fbad)]) (nb rfl) rfl)))) ?_
    refine a6 (Pu.g fun hb => by have a7 := hb; first | exact (c8 _ _ _ _ _ _) | (simp only [a8 a7]; exact (c8 _ _ _ _ _ _)) | (simp only [b8 a7, a8 a7, a8 hb, d9 a7, h7]; exact (c8 _ _ _ _ _ _))) ?_
    refine a6 (p1 _ _) ?_
    refine m5 (fun d2U => ?_) (fun d2U => ?_)
    ·replace h := h.1 d2U
     refine a6 a1F ?_
     refine c5 (ld1 Tryd.isAgg23 ((I.bring 1).at1 (o := 4) (vs := [(vs x1.A9)]) (nb rfl) rfl)) ?_
     obtain ⟨g6x, g6y, c5e, c1J, h⟩ := h
     obtain ⟨h4M, h4N, g6z, c1J⟩ := c1J
     refine a6 (a5J g6z _ _ _ _ g6x g6y) ?_
     refine c5 (ldA (vs := (d8 c5e)) Tryd.isAgg88 Tryd.sizeOf88 rfl (I.atH c1J)) ?_
     refine a6 (o4 _ _ _ _ _ _) ?_
     refine f7 (cap := []) (fun args w => Tryd.call92 args w) ?_
     refine m2 (Fi := [bx g0 99 (d7 D2)]) (Fr := [bx g_2 88 (d8 x1)]) I (h g0) (fun h4O d2N h4P b0u g6A c5h h4Q g6B => ?_) (fun _ _ _ _ _ q => q.elim)
     obtain ⟨c7y, rfl, rfl, h⟩ := g6B
     refine a6 (o4 _ _ _ _ _ _) ?_
     exact hn5 _ _ _ (hm5 _ _ h).2 ⟨((IntKind.wrap .i64 (a8e + 1)), c7y), d2N, rfl, rfl, ((g6A.bring 1).bring 1), (hm5 _ _ h).1⟩
    ·replace h := h.2 d2U
     exact hx3 _ _ (hj3 D2 H _ ((I.bring 1).bring 1) h)
   refine o3 fun j2 hx2 => ?_
   obtain ⟨d2V, c1K, g6C, g6D⟩ := h
   refine t6 (J := fun n l w => ∃ (s : Int × b7) (H : Hp) , n = c1K s ∧ l = (match s with | (a8f, O2) => [(vi a8f)]) ∧ (match s with | (a8f, O2) => Inv w0 ps0 H0 H [bx g0 99 (d7 O2), bx g_2 88 (d8 x1)] w) ∧ d2V s H) ⟨_, (0, K3), H, rfl, rfl, ((I.bring 1).bring 1), g6C⟩ ?_
   rintro h4R τ_178 w next6 ⟨⟨a8f, O2⟩, H, rfl, d2W, I, g6E⟩ hn6
   dsimp only at d2W I
   simp only [List.map_cons, List.map_nil, List.cons.injEq, and_true] at d2W
   have e7 := d2W
   simp only [e7]
   obtain ⟨n6, hm6, h⟩ : ∃ n6 : (Int × b7) → Hp → Prop, (∀ s' H', n6 s' H' → d2V s' H' ∧ c1K s' < c1K (a8f, O2)) ∧ R7 x2 x1 a8f O2 H n6 K := ⟨_, fun _ _ h => h, g6D (a8f, O2) H (fun s' H' => d2V s' H' ∧ c1K s' < c1K (a8f, O2)) g6E (fun _ _ a b => ⟨a, b⟩)⟩
   unfold d6U
   unfold R7 at h
   refine a6 a0X ?_
   refine c5 (ld1 Tryd.isAgg28 ((I.bring 1).at1 (o := 2) (vs := [(vs x1.g5)]) (nb rfl) rfl)) ?_
   refine a6 (G2 _ _ _) ?_
   refine a6 (p6 _ _ _ _ _ _) ?_
   try simp only [o6]
   refine a6 (Pu.g fun hb => by have a7 := hb; first | exact (m1 _) | (simp only [a8 a7]; exact (m1 _)) | (simp only [b8 a7, a8 a7, a8 hb, d9 a7, h7]; exact (m1 _))) ?_
   refine a6 (Pu.g fun hb => by have a7 := hb; first | exact y6 | (simp only [a8 a7]; exact y6) | (simp only [b8 a7, a8 a7, a8 hb, d9 a7, h7]; exact y6)) ?_
   refine c5 (Ld.g fun hb => by have a7 := hb; first | exact (ld1 Tryd.isAgg3 (I.at1 (o := 2) (vs := [(vi O2.fbad)]) (nb rfl) rfl)) | (simp only [a8 a7]; exact (ld1 Tryd.isAgg3 (I.at1 (o := 2) (vs := [(vi O2.fbad)]) (nb rfl) rfl))) | (simp only [b8 a7, a8 a7, a8 hb, d9 a7, h7]; exact (ld1 Tryd.isAgg3 (I.at1 (o := 2) (vs := [(vi O2.fbad)]) (nb rfl) rfl)))) ?_
   refine a6 (Pu.g fun hb => by have a7 := hb; first | exact (c8 _ _ _ _ _ _) | (simp only [a8 a7]; exact (c8 _ _ _ _ _ _)) | (simp only [b8 a7, a8 a7, a8 hb, d9 a7, h7]; exact (c8 _ _ _ _ _ _))) ?_
   refine a6 (p1 _ _) ?_
   refine m5 (fun d2X => ?_) (fun d2X => ?_)
   ·replace h := h.1 d2X
    refine a6 a0X ?_
    refine c5 (ld1 Tryd.isAgg28 ((I.bring 1).at1 (o := 2) (vs := [(vs x1.g5)]) (nb rfl) rfl)) ?_
    obtain ⟨g6F, g6G, c5f, c1L, h⟩ := h
    obtain ⟨h4S, h4T, g6H, c1L⟩ := c1L
    refine a6 (a2u g6H _ _ _ _ g6F g6G) ?_
    refine c5 (ldA (vs := (f6 c5f)) Tryd.isAgg30 Tryd.sizeOf30 rfl (I.atH c1L)) ?_
    refine a6 (o4 _ _ _ _ _ _) ?_
    refine f7 (cap := []) (fun args w => Tryd.call58 args w) ?_
    refine m2 (Fi := [bx g0 99 (d7 O2)]) (Fr := [bx g_2 88 (d8 x1)]) I (h g0) (fun h4U d2O h4V e3K g6I h4W h4X g6J => ?_) (fun _ _ _ _ _ q => q.elim)
    obtain ⟨c7z, rfl, rfl, h⟩ := g6J
    refine a6 (o4 _ _ _ _ _ _) ?_
    exact hn6 _ _ _ (hm6 _ _ h).2 ⟨((IntKind.wrap .i64 (a8f + 1)), c7z), d2O, rfl, rfl, ((g6I.bring 1).bring 1), (hm6 _ _ h).1⟩
   ·replace h := h.2 d2X
    exact hx2 _ _ (hj2 O2 H _ ((I.bring 1).bring 1) h)
  refine o3 fun j1 hx1 => ?_
  obtain ⟨d2Y, c1M, g6K, g6L⟩ := h
  refine t6 (J := fun n l w => ∃ (s : Int × b7) (H : Hp) , n = c1M s ∧ l = (match s with | (a8g, O3) => [(vi a8g)]) ∧ (match s with | (a8g, O3) => Inv w0 ps0 H0 H [bx g0 99 (d7 O3), bx g_2 88 (d8 x1)] w) ∧ d2Y s H) ⟨_, (0, M4), H_6, rfl, rfl, ((I_8.bring 1).bring 1), g6K⟩ ?_
  rintro h4Y τ_212 w next7 ⟨⟨a8g, O3⟩, H, rfl, d2Z, I, g6M⟩ hn7
  dsimp only at d2Z I
  simp only [List.map_cons, List.map_nil, List.cons.injEq, and_true] at d2Z
  have e6 := d2Z
  simp only [e6]
  obtain ⟨n7, hm7, h⟩ : ∃ n7 : (Int × b7) → Hp → Prop, (∀ s' H', n7 s' H' → d2Y s' H' ∧ c1M s' < c1M (a8g, O3)) ∧ R9 x2 x1 a8g O3 H n7 K := ⟨_, fun _ _ h => h, g6L (a8g, O3) H (fun s' H' => d2Y s' H' ∧ c1M s' < c1M (a8g, O3)) g6M (fun _ _ a b => ⟨a, b⟩)⟩
  unfold d6V
  unfold R9 at h
  refine a6 a0Y ?_
  refine c5 (ld1 Tryd.isAgg31 ((I.bring 1).at1 (o := 3) (vs := [(vs x1.m4)]) (nb rfl) rfl)) ?_
  refine a6 (Q7 _ _ _) ?_
  refine a6 (p6 _ _ _ _ _ _) ?_
  try simp only [o6]
  refine a6 (Pu.g fun hb => by have a7 := hb; first | exact (m1 _) | (simp only [a8 a7]; exact (m1 _)) | (simp only [b8 a7, a8 a7, a8 hb, d9 a7, h7]; exact (m1 _))) ?_
  refine a6 (Pu.g fun hb => by have a7 := hb; first | exact y6 | (simp only [a8 a7]; exact y6) | (simp only [b8 a7, a8 a7, a8 hb, d9 a7, h7]; exact y6)) ?_
  refine c5 (Ld.g fun hb => by have a7 := hb; first | exact (ld1 Tryd.isAgg3 (I.at1 (o := 2) (vs := [(vi O3.fbad)]) (nb rfl) rfl)) | (simp only [a8 a7]; exact (ld1 Tryd.isAgg3 (I.at1 (o := 2) (vs := [(vi O3.fbad)]) (nb rfl) rfl))) | (simp only [b8 a7, a8 a7, a8 hb, d9 a7, h7]; exact (ld1 Tryd.isAgg3 (I.at1 (o := 2) (vs := [(vi O3.fbad)]) (nb rfl) rfl)))) ?_
  refine a6 (Pu.g fun hb => by have a7 := hb; first | exact (c8 _ _ _ _ _ _) | (simp only [a8 a7]; exact (c8 _ _ _ _ _ _)) | (simp only [b8 a7, a8 a7, a8 hb, d9 a7, h7]; exact (c8 _ _ _ _ _ _))) ?_
  refine a6 (p1 _ _) ?_
  refine m5 (fun d3a => ?_) (fun d3a => ?_)
  ·replace h := h.1 d3a
   refine a6 a0Y ?_
   refine c5 (ld1 Tryd.isAgg31 ((I.bring 1).at1 (o := 3) (vs := [(vs x1.m4)]) (nb rfl) rfl)) ?_
   obtain ⟨g6N, g6O, c5g, c1N, h⟩ := h
   obtain ⟨h4Z, h5a, g6P, c1N⟩ := c1N
   refine a6 (a5I g6P _ _ _ _ g6N g6O) ?_
   refine c5 (ldA (vs := (g7 c5g)) Tryd.isAgg33 Tryd.sizeOf33 rfl (I.atH c1N)) ?_
   refine a6 (o4 _ _ _ _ _ _) ?_
   refine f7 (cap := []) (fun args w => Tryd.call61 args w) ?_
   refine m2 (Fi := [bx g0 99 (d7 O3)]) (Fr := [bx g_2 88 (d8 x1)]) I (h g0) (fun h5b d2P h5c e3L g6Q h5d h5e g6R => ?_) (fun _ _ _ _ _ q => q.elim)
   obtain ⟨c7A, rfl, rfl, h⟩ := g6R
   refine a6 (o4 _ _ _ _ _ _) ?_
   exact hn7 _ _ _ (hm7 _ _ h).2 ⟨((IntKind.wrap .i64 (a8g + 1)), c7A), d2P, rfl, rfl, ((g6Q.bring 1).bring 1), (hm7 _ _ h).1⟩
  ·replace h := h.2 d3a
   exact hx1 _ _ (hj1 O3 H _ ((I.bring 1).bring 1) h)
theorem a9v (x0 : b7) (x1 : l9) (x2 : Int) {H : Hp} {K : b7 → Hp → Prop} (h : X2 x0 x1 x2 H K) : P4 x0 x1 x2 H K := by
 intro g0 w I
 refine f2I ?_
 refine a9a x0 x1 x2 g0 I (fun y0 H' w' I' hk => ⟨H', _, I', y0, rfl, rfl, hk⟩) h
def E0 (h1x : Int) (b8K : Bool) (_cr_1j3 : J5) (H : Hp) (K : Bool → Hp → Prop) : Prop :=
 (b8K = true →
 K (decide (h1x = 2)) H) ∧
 (b8K = false →
 K false H)
def N4 (c3D : Int) (a7n : Int) (b8L : Bool) (cr_1j2 : J5) (H : Hp) (K : Bool → Hp → Prop) : Prop :=
 (b8L = true →
 K (decide (c3D = 1)) H) ∧
 (b8L = false →
 (a7n = 6 →
 E0 c3D (decide (a7n = 6)) cr_1j2 H K) ∧
 (¬ (a7n = 6) →
 (a7n = 7 →
 E0 c3D (decide (a7n = 7)) cr_1j2 H K) ∧
 (¬ (a7n = 7) →
 (a7n = 8 →
 E0 c3D (decide (a7n = 8)) cr_1j2 H K) ∧
 (¬ (a7n = 8) →
 (a7n = 9 →
 E0 c3D (decide (a7n = 9)) cr_1j2 H K) ∧
 (¬ (a7n = 9) →
 E0 c3D (decide (a7n = 10)) cr_1j2 H K)))))
def N5 (a7y : Int) (a7m : Int) (b8M : Bool) (cr_1j1 : J5) (H : Hp) (K : Bool → Hp → Prop) : Prop :=
 (b8M = true →
 K (decide (a7y = 0)) H) ∧
 (b8M = false →
 (a7m = 4 →
 N4 a7y a7m (decide (a7m = 4)) cr_1j1 H K) ∧
 (¬ (a7m = 4) →
 N4 a7y a7m (decide (a7m = 5)) cr_1j1 H K))
def a2l (x0 : J5) (H : Hp) (K : Bool → Hp → Prop) : Prop :=
 a2W (c7.F0 x0) H (fun (_r0_14 : ByteArray) (a6B : Bool) (H_6 : Hp) =>
 ((((!decide (x0.m9.c6 = 1)) && (!decide (x0.m9.Q6 = 0))) || ((!a6B) && (!decide (x0.m9.f5 = ⟨#[]⟩)))) = true →
 K false H_6) ∧
 ((((!decide (x0.m9.c6 = 1)) && (!decide (x0.m9.Q6 = 0))) || ((!a6B) && (!decide (x0.m9.f5 = ⟨#[]⟩)))) = false →
 (x0.m9.c6 = 1 →
 K ((decide (0 ≤ x0.m9.Q6)) && (decide ((x0.m9.u6.n : Int) = 0))) H_6) ∧
 (¬ (x0.m9.c6 = 1) →
 (x0.m9.c6 = 2 →
 N5 (x0.m9.u6.n : Int) x0.m9.c6 (decide (x0.m9.c6 = 2)) x0 H_6 K) ∧
 (¬ (x0.m9.c6 = 2) →
 N5 (x0.m9.u6.n : Int) x0.m9.c6 (decide (x0.m9.c6 = 3)) x0 H_6 K))))
theorem b2I (x0 : J5) {w0 w : World} {ps0 : Nat → Prop} {H0 H : Hp} {K : Bool → Hp → Prop} {R : Value → World → Prop} {E : Pan} (I : Inv w0 ps0 H0 H [] w) (hR : ∀ (r0 : Bool) (H' : Hp) (w' : World) (_ : Inv w0 ps0 H0 H' [] w') (_ : K r0 H'), R (Value.bool r0) w') (h : a2l x0 H K) : d2h (Value.agg (f6 x0.m9).toArray) w R E := by
 unfold a2l at h
 unfold d2h
 refine K2 I (cs := (f6 x0.m9)) rfl fun g_2 w_3 I_4 k_5 => ?_
 refine a6 O0 ?_
 refine a6 a0U ?_
 refine c5 (ld1 Tryd.isAgg28 (I_4.at1 (o := 3) (vs := [(vs x0.m9.u6)]) (nb rfl) rfl)) ?_
 refine a6 (G2 _ _ _) ?_
 refine c5 (ldA Tryd.isAgg96 Tryd.sizeOf96 rfl (I_4.at1 (o := 0) (vs := (f6 x0.m9)) (nb rfl) rfl)) ?_
 refine a6 (b6O x0) ?_
 refine f7 (cap := []) (fun args w => Tryd.call114 args w) ?_
 refine m2 (Fi := []) (Fr := [bx g_2 96 (f6 x0.m9)]) I_4 (h) (fun a8X H_6 a8Y w_7 I_8 a8Z k_9 a1P => ?_) (fun _ _ _ _ _ q => q.elim)
 obtain ⟨u4, a6B, rfl, rfl, h⟩ := a1P
 refine a6 (u0 _ _ _ rfl) ?_
 refine a6 (u0 _ _ _ rfl) ?_
 refine a6 O0 ?_
 refine a6 J6 ?_
 refine c5 (ld1 Tryd.isAgg3 (I_8.at1 (o := 0) (vs := [(vi x0.m9.c6)]) (nb rfl) rfl)) ?_
 refine a6 (B8 _ _ _ _ _ _) ?_
 refine a6 (Pu.g fun hb => by have a7 := hb; first | exact O0 | (simp only [b8 a7, a8 a7, a8 hb, r9 a7]; exact O0) | (simp only [b8 a7, a8 a7, a8 hb, d9 a7, h7]; exact O0)) ?_
 refine a6 (Pu.g fun hb => by have a7 := hb; first | exact a1E | (simp only [a8 a7]; exact a1E) | (simp only [b8 a7, a8 a7, a8 hb, d9 a7, h7]; exact a1E)) ?_
 refine c5 (Ld.g fun hb => by have a7 := hb; first | exact (ld1 Tryd.isAgg2 (I_8.at1 (o := 1) (vs := [(vi x0.m9.Q6)]) (nb rfl) rfl)) | (simp only [a8 a7]; exact (ld1 Tryd.isAgg2 (I_8.at1 (o := 1) (vs := [(vi x0.m9.Q6)]) (nb rfl) rfl))) | (simp only [b8 a7, a8 a7, a8 hb, d9 a7, h7]; exact (ld1 Tryd.isAgg2 (I_8.at1 (o := 1) (vs := [(vi x0.m9.Q6)]) (nb rfl) rfl)))) ?_
 refine a6 (Pu.g fun hb => by have a7 := hb; first | exact (B8 _ _ _ _ _ _) | (simp only [a8 a7]; exact (B8 _ _ _ _ _ _)) | (simp only [b8 a7, a8 a7, a8 hb, d9 a7, h7]; exact (B8 _ _ _ _ _ _))) ?_
 refine a6 (p1 _ _) ?_
 try simp only [o6]
 refine a6 (Pu.g fun hb => by have a7 := hb; first | exact (L2 _) | (simp only [a8 a7]; exact (L2 _)) | (simp only [b8 a7, a8 a7, a8 hb, v8 a7, h7]; exact (L2 _))) ?_
 try simp only [W3]
 refine a6 (Pu.e (a4K _ _ _) (Pu.g fun hb => by obtain ⟨a7, m6⟩ := a7f hb; first | exact O0 | (simp only [b8 a7, a8 a7, b8 m6, a8 m6, a8 hb, h7]; exact O0) | (simp only [b8 a7, a8 a7, b8 m6, a8 m6, a8 hb, r9 hb]; exact O0) | (simp only [b8 a7, a8 a7, b8 m6, a8 m6, a8 hb, d9 hb, h7]; exact O0))) ?_
 refine a6 (Pu.e (a4K _ _ _) (Pu.g fun hb => by obtain ⟨a7, m6⟩ := a7f hb; first | exact a3G | (simp only [a8 hb]; exact a3G) | (simp only [b8 a7, a8 a7, b8 m6, a8 m6, a8 hb, r9 hb]; exact a3G) | (simp only [b8 a7, a8 a7, b8 m6, a8 m6, a8 hb, d9 hb, h7]; exact a3G))) ?_
 refine c5 (Ld.e (a4K _ _ _) (Ld.g fun hb => by obtain ⟨a7, m6⟩ := a7f hb; first | exact (ld1 Tryd.isAgg9 (I_8.at1 (o := 2) (vs := [(Value.string x0.m9.f5)]) (nb rfl) rfl)) | (simp only [a8 hb]; exact (ld1 Tryd.isAgg9 (I_8.at1 (o := 2) (vs := [(Value.string x0.m9.f5)]) (nb rfl) rfl))) | (simp only [b8 a7, a8 a7, b8 m6, a8 m6, a8 hb, r9 hb]; exact (ld1 Tryd.isAgg9 (I_8.at1 (o := 2) (vs := [(Value.string x0.m9.f5)]) (nb rfl) rfl))) | (simp only [b8 a7, a8 a7, b8 m6, a8 m6, a8 hb, d9 hb, h7]; exact (ld1 Tryd.isAgg9 (I_8.at1 (o := 2) (vs := [(Value.string x0.m9.f5)]) (nb rfl) rfl))))) ?_
 refine a6 (Pu.e (a4K _ _ _) (Pu.g fun hb => by obtain ⟨a7, m6⟩ := a7f hb; first | exact (b4q _ _ _ _ _) | (simp only [a8 hb]; exact (b4q _ _ _ _ _)) | (simp only [b8 a7, a8 a7, b8 m6, a8 m6, a8 hb, r9 hb]; exact (b4q _ _ _ _ _)) | (simp only [b8 a7, a8 a7, b8 m6, a8 m6, a8 hb, d9 hb, h7]; exact (b4q _ _ _ _ _)))) ?_
 refine a6 (Pu.g fun hb => by have a7 := hb; first | exact (p1 _ _) | (simp only [a8 a7, a4O a7]; exact (p1 _ _)) | (simp only [b8 a7, a8 a7, a8 hb, v8 a7, h7]; exact (p1 _ _))) ?_
 refine a6 (E6 _ _) ?_
 refine m5 (fun c0b => ?_) (fun c0b => ?_)
 ·replace h := h.1 c0b
  exact hR false H_6 _ I_8.drop h
 ·replace h := h.2 c0b
  refine a6 O0 ?_
  refine a6 J6 ?_
  refine c5 (ld1 Tryd.isAgg3 (I_8.at1 (o := 0) (vs := [(vi x0.m9.c6)]) (nb rfl) rfl)) ?_
  refine a6 (c8 _ _ _ _ _ _) ?_
  refine g8 (fun c0c => ?_) (fun c0c => ?_)
  ·replace h := h.1 c0c
   refine a6 O0 ?_
   refine a6 a1E ?_
   refine c5 (ld1 Tryd.isAgg2 (I_8.at1 (o := 1) (vs := [(vi x0.m9.Q6)]) (nb rfl) rfl)) ?_
   refine a6 (a1p _ _ _ _ _ _) ?_
   try simp only [o6]
   refine a6 (Pu.g fun hb => by have a7 := hb; first | exact (c8 _ _ _ _ _ _) | (simp only [a8 a7]; exact (c8 _ _ _ _ _ _)) | (simp only [b8 a7, a8 a7, a8 hb, d9 a7, h7]; exact (c8 _ _ _ _ _ _))) ?_
   refine a6 (p1 _ _) ?_
   exact hR ((decide (0 ≤ x0.m9.Q6)) && (decide ((x0.m9.u6.n : Int) = 0))) H_6 _ I_8.drop h
  ·replace h := h.2 c0c
   have hj1 : ∀ (b8M : Bool) (H : Hp) (w : World) (_ : Inv w0 ps0 H0 H [bx g_2 96 (f6 x0.m9)] w) (_ : N5 (x0.m9.u6.n : Int) x0.m9.c6 b8M x0 H K), c3l (vi (x0.m9.u6.n : Int)) (vi x0.m9.c6) (Value.bool b8M) w R E := by
    intro b8M H w I h
    unfold c3l
    intro _
    unfold N5 at h
    refine m5 (fun c0d => ?_) (fun c0d => ?_)
    ·replace h := h.1 c0d
     refine a6 (c8 _ _ _ _ _ _) ?_
     exact hR (decide ((x0.m9.u6.n : Int) = 0)) H _ I.drop h
    ·replace h := h.2 c0d
     have hj2 : ∀ (b8L : Bool) (H : Hp) (w : World) (_ : Inv w0 ps0 H0 H [bx g_2 96 (f6 x0.m9)] w) (_ : N4 (x0.m9.u6.n : Int) x0.m9.c6 b8L x0 H K), c3k (vi (x0.m9.u6.n : Int)) (vi x0.m9.c6) (Value.bool b8L) w R E := by
      intro b8L H w I h
      unfold c3k
      intro _
      unfold N4 at h
      refine m5 (fun b2p => ?_) (fun b2p => ?_)
      ·replace h := h.1 b2p
       refine a6 (c8 _ _ _ _ _ _) ?_
       exact hR (decide ((x0.m9.u6.n : Int) = 1)) H _ I.drop h
      ·replace h := h.2 b2p
       have hj3 : ∀ (b8K : Bool) (H : Hp) (w : World) (_ : Inv w0 ps0 H0 H [bx g_2 96 (f6 x0.m9)] w) (_ : E0 (x0.m9.u6.n : Int) b8K x0 H K), c3j (vi (x0.m9.u6.n : Int)) (Value.bool b8K) w R E := by
        intro b8K H w I h
        unfold c3j
        intro _
        unfold E0 at h
        refine m5 (fun a5U => ?_) (fun a5U => ?_)
        ·replace h := h.1 a5U
         refine a6 (c8 _ _ _ _ _ _) ?_
         exact hR (decide ((x0.m9.u6.n : Int) = 2)) H _ I.drop h
        ·replace h := h.2 a5U
         exact hR false H _ I.drop h
       refine o3 fun j3 hx3 => ?_
       refine a6 (c8 _ _ _ _ _ _) ?_
       refine g8 (fun b2q => ?_) (fun b2q => ?_)
       ·replace h := h.1 b2q
        exact hx3 _ _ (hj3 (decide (x0.m9.c6 = 6)) H _ I h)
       ·replace h := h.2 b2q
        refine a6 (c8 _ _ _ _ _ _) ?_
        refine g8 (fun a5V => ?_) (fun a5V => ?_)
        ·replace h := h.1 a5V
         exact hx3 _ _ (hj3 (decide (x0.m9.c6 = 7)) H _ I h)
        ·replace h := h.2 a5V
         refine a6 (c8 _ _ _ _ _ _) ?_
         refine g8 (fun a4k => ?_) (fun a4k => ?_)
         ·replace h := h.1 a4k
          exact hx3 _ _ (hj3 (decide (x0.m9.c6 = 8)) H _ I h)
         ·replace h := h.2 a4k
          refine a6 (c8 _ _ _ _ _ _) ?_
          refine g8 (fun b2r => ?_) (fun b2r => ?_)
          ·replace h := h.1 b2r
           exact hx3 _ _ (hj3 (decide (x0.m9.c6 = 9)) H _ I h)
          ·replace h := h.2 b2r
           refine a6 (c8 _ _ _ _ _ _) ?_
           exact hx3 _ _ (hj3 (decide (x0.m9.c6 = 10)) H _ I h)
     refine o3 fun j2 hx2 => ?_
     refine a6 (c8 _ _ _ _ _ _) ?_
     refine g8 (fun c0e => ?_) (fun c0e => ?_)
     ·replace h := h.1 c0e
      exact hx2 _ _ (hj2 (decide (x0.m9.c6 = 4)) H _ I h)
     ·replace h := h.2 c0e
      refine a6 (c8 _ _ _ _ _ _) ?_
      exact hx2 _ _ (hj2 (decide (x0.m9.c6 = 5)) H _ I h)
   refine o3 fun j1 hx1 => ?_
   refine a6 (c8 _ _ _ _ _ _) ?_
   refine g8 (fun c0f => ?_) (fun c0f => ?_)
   ·replace h := h.1 c0f
    exact hx1 _ _ (hj1 (decide (x0.m9.c6 = 2)) H_6 _ I_8 h)
   ·replace h := h.2 c0f
    refine a6 (c8 _ _ _ _ _ _) ?_
    exact hx1 _ _ (hj1 (decide (x0.m9.c6 = 3)) H_6 _ I_8 h)
theorem b3A (x0 : J5) {H : Hp} {K : Bool → Hp → Prop} (h : a2l x0 H K) : a4E x0 H K := by
 intro w I
 refine e5Z ?_
 refine b2I x0 I (fun r0 H' w' I' hk => ⟨H', _, I', r0, rfl, rfl, hk⟩) h
def B2 (a1M : (List c7)) (H : Hp) (K : Sl → Hp → Prop) : Prop :=
 ∀ (J8 : Sl) (a2x : Hp), Hle H a2x → SlH a2x 1 q6 J8 a1M → J8.n ≤ J8.c →
 K J8 a2x
def B3 (a3r : Sl) (a2y : Int) (y9 : (List c7)) (v1 : Int) (H : Hp) (n2 : ((List c7) × Int) → Hp → Prop) (K : Sl → Hp → Prop) : Prop :=
 (v1 < a2y →
 (0 : Int) ≤ v1 ∧ (v1 : Int) < a3r.n ∧ ∃ x_1 : m7, EltH H a3r v1 4 (f6 x_1) ∧
 a8P x_1 H (fun (W7 : c7) (a2z : Hp) =>
 (y9.length + ([W7] : List c7).length) * 17 ≤ 140737488355328 ∧
 n2 ((y9 ++ [W7]), (IntKind.wrap .i64 (v1 + 1))) a2z)) ∧
 (¬ (v1 < a2y) →
 B2 y9 H K)
def C6 (x0 : Sl) (H : Hp) (K : Sl → Hp → Prop) : Prop :=
 TL (([], 0) : (List c7) × Int) H fun (s : (List c7) × Int) H n2 => B3 x0 (x0.n : Int) s.1 s.2 H n2 K
theorem a2r (x0 : Sl) {w0 w : World} {ps0 : Nat → Prop} {H0 H : Hp} {K : Sl → Hp → Prop} {R : Value → World → Prop} {E : Pan} (I : Inv w0 ps0 H0 H [] w) (hR : ∀ (r0 : Sl) (H' : Hp) (w' : World) (_ : Inv w0 ps0 H0 H' [] w') (_ : K r0 H'), R (vs r0) w') (h : C6 x0 H K) : d2j (vs x0) (Value.func (.func 151) #[] #[]) w R E := by
 unfold C6 at h
 unfold d2j
 have hj1 : ∀ (a1M : (List c7)) (J8 : Sl) (Fs5j1 : Frag) (H : Hp) (w : World) (_ : RowL 141 1 q6 J8 a1M Fs5j1) (_ : Inv w0 ps0 H0 H [Fs5j1] w) (_ : B2 a1M H K), c3m (vs J8) w R E := by
  intro a1M J8 Fs5j1 H w b5B I h
  unfold c3m
  intro _
  unfold B2 at h
  obtain ⟨a2x, b2t, b5C, b2u, a8R⟩ := Inv.freezeC I b5B (by decide)
  replace h := h J8 a2x b5C b2u a8R
  exact hR J8 a2x _ b2t h
 refine o3 fun j1 hx1 => ?_
 refine a6 (G2 _ _ _) ?_
 obtain ⟨a7X, a4l, b9J, b9K⟩ := h
 refine t6 (J := fun n l w => ∃ (s : (List c7) × Int) (H : Hp) (a1N : Sl) (Fs5l2 : Frag) , n = a4l s ∧ l = (match s with | (y9, v1) => [(vs a1N), (vi v1)]) ∧ (match s with | (y9, v1) => RowL 141 1 q6 a1N y9 Fs5l2) ∧ (match s with | (y9, v1) => Inv w0 ps0 H0 H [Fs5l2] w) ∧ a7X s H) ⟨_, ([], 0), H, (Sl.mk none 0 0), [], rfl, rfl, (RowL.nil Q1 V9), I.nil, b9J⟩ ?_
 rintro d9J τ_50 w next2 ⟨⟨y9, v1⟩, H, a1N, Fs5l2, rfl, a7Y, a5W, I, b9L⟩ hn2
 dsimp only at a7Y I a5W
 simp only [List.map_cons, List.map_nil, List.cons.injEq, and_true] at a7Y
 obtain ⟨e5, e10⟩ := a7Y
 simp only [e5, e10]
 obtain ⟨n2, hm2, h⟩ : ∃ n2 : ((List c7) × Int) → Hp → Prop, (∀ s' H', n2 s' H' → a7X s' H' ∧ a4l s' < a4l (y9, v1)) ∧ B3 x0 (x0.n : Int) y9 v1 H n2 K := ⟨_, fun _ _ h => h, b9K (y9, v1) H (fun s' H' => a7X s' H' ∧ a4l s' < a4l (y9, v1)) b9L (fun _ _ a b => ⟨a, b⟩)⟩
 unfold d0R
 unfold B3 at h
 refine a6 (p6 _ _ _ _ _ _) ?_
 refine g8 (fun a4m => ?_) (fun a4m => ?_)
 ·replace h := h.1 a4m
  obtain ⟨h_4, h_5, x_1, h_7, h⟩ := h
  obtain ⟨g_2, o_3, h_6, h_7⟩ := h_7
  refine a6 (a2u h_6 _ _ _ _ h_4 h_5) ?_
  refine c5 (ldA (vs := (f6 x_1)) Tryd.isAgg30 Tryd.sizeOf30 rfl (I.atH h_7)) ?_
  refine L8 I Tryd.zeroValue30 (cs := [(vi 0), (vi 0), (Value.string ⟨#[]⟩), (Value.slice none 0 0)]) rfl fun g_9 o2 a5z b7M => ?_
  refine u1 a5z Tryd.sizeOf30 (vs := (f6 x_1)) (cs' := (f6 x_1)) rfl rfl (nb rfl) rfl rfl fun a0b a3N c3r => ?_
  refine c5 (ldA Tryd.isAgg30 Tryd.sizeOf30 rfl (a3N.at1 (o := 0) (vs := (f6 x_1)) (nb rfl) rfl)) ?_
  refine f7 (cap := []) (fun args w => Tryd.call151 args w) ?_
  refine m2 (Fi := []) (Fr := [bx g_9 30 (f6 x_1), Fs5l2]) a3N (h) (fun d2w a2z d2x a5M a5X d2y c7f b5D => ?_) (fun _ _ _ _ _ q => q.elim)
  obtain ⟨W7, rfl, rfl, h⟩ := b5D
  refine a5G (e := 141) (c := q6) (xs := [W7]) a5X (b8A _) rfl rfl Q1 V9 (nb rfl) fun b5E c3s y7 b2v a6x b9M => ?_
  obtain ⟨a9T, h⟩ := h
  refine b7c (s := a1N) (xs := y9) (a6x.bring 2) a5W (b2v.srcO ((a6x.bring 2).bring 1)) a9T fun b9N b7N A8 b2w a3s c7g => ?_
  refine a6 (o4 _ _ _ _ _ _) ?_
  exact hn2 _ _ _ (hm2 _ _ h).2 ⟨((y9 ++ [W7]), (IntKind.wrap .i64 (v1 + 1))), a2z, b9N, b7N, rfl, rfl, b2w, ((a3s.bring 1).drop.bring 1).drop, (hm2 _ _ h).1⟩
 ·replace h := h.2 a4m
  exact hx1 _ _ (hj1 y9 a1N Fs5l2 H _ a5W I h)
theorem a2B (x0 : Sl) {H : Hp} {K : Sl → Hp → Prop} (h : C6 x0 H K) : v7 x0 H K := by
 intro w I
 refine e6d ?_
 refine a2r x0 I (fun r0 H' w' I' hk => ⟨H', _, I', r0, rfl, rfl, hk⟩) h
def a3P (x0 : m8) (H : Hp) (K : c7 → Hp → Prop) : Prop :=
 K (c7.L6 (N7.mk x0)) H
theorem b4I (x0 : m8) {w0 w : World} {ps0 : Nat → Prop} {H0 H : Hp} {K : c7 → Hp → Prop} {R : Value → World → Prop} {E : Pan} (I : Inv w0 ps0 H0 H [] w) (hR : ∀ (r0 : c7) (H' : Hp) (w' : World) (_ : Inv w0 ps0 H0 H' [] w') (_ : K r0 H'), R (A6 r0) w') (h : a3P x0 H K) : d2p (Value.agg (g7 x0).toArray) w R E := by
 unfold a3P at h
 unfold d2p
 refine K2 I (cs := (g7 x0)) rfl fun g_2 w_3 I_4 k_5 => ?_
 refine c5 (ldA Tryd.isAgg33 Tryd.sizeOf33 rfl (I_4.at1 (o := 0) (vs := (g7 x0)) (nb rfl) rfl)) ?_
 refine a6 (c5O _ _ _ _ _ _ _ _) ?_
 refine a6 (c2S (N7.mk x0)) ?_
 exact hR (c7.L6 (N7.mk x0)) H _ I_4.drop h
theorem b5N (x0 : m8) {H : Hp} {K : c7 → Hp → Prop} (h : a3P x0 H K) : a8Q x0 H K := by
 intro w I
 refine e6o ?_
 refine b4I x0 I (fun r0 H' w' I' hk => ⟨H', _, I', r0, rfl, rfl, hk⟩) h
def a2m (x0 : R1) (H : Hp) (K : Bool → Hp → Prop) : Prop :=
 K ((decide (0 ≤ x0.Q0.A5)) && (decide (x0.Q0.A5 ≤ 2147483647))) H
theorem b2J (x0 : R1) {w0 w : World} {ps0 : Nat → Prop} {H0 H : Hp} {K : Bool → Hp → Prop} {R : Value → World → Prop} {E : Pan} (I : Inv w0 ps0 H0 H [] w) (hR : ∀ (r0 : Bool) (H' : Hp) (w' : World) (_ : Inv w0 ps0 H0 H' [] w') (_ : K r0 H'), R (Value.bool r0) w') (h : a2m x0 H K) : d2q (Value.agg (g9 x0.Q0).toArray) w R E := by
 unfold a2m at h
 unfold d2q
 refine K2 I (cs := (g9 x0.Q0)) rfl fun g_2 w_3 I_4 k_5 => ?_
 refine a6 a7G ?_
 refine a6 N9 ?_
 refine c5 (ld1 Tryd.isAgg3 (I_4.at1 (o := 1) (vs := [(vi x0.Q0.A5)]) (nb rfl) rfl)) ?_
 refine a6 (a1p _ _ _ _ _ _) ?_
 refine a6 (Pu.g fun hb => by have a7 := hb; first | exact a7G | (simp only [b8 a7, a8 a7, a8 hb, r9 a7]; exact a7G) | (simp only [b8 a7, a8 a7, a8 hb, d9 a7, h7]; exact a7G)) ?_
 refine a6 (Pu.g fun hb => by have a7 := hb; first | exact N9 | (simp only [a8 a7]; exact N9) | (simp only [b8 a7, a8 a7, a8 hb, d9 a7, h7]; exact N9)) ?_
 refine c5 (Ld.g fun hb => by have a7 := hb; first | exact (ld1 Tryd.isAgg3 (I_4.at1 (o := 1) (vs := [(vi x0.Q0.A5)]) (nb rfl) rfl)) | (simp only [a8 a7]; exact (ld1 Tryd.isAgg3 (I_4.at1 (o := 1) (vs := [(vi x0.Q0.A5)]) (nb rfl) rfl))) | (simp only [b8 a7, a8 a7, a8 hb, d9 a7, h7]; exact (ld1 Tryd.isAgg3 (I_4.at1 (o := 1) (vs := [(vi x0.Q0.A5)]) (nb rfl) rfl)))) ?_
 refine a6 (Pu.g fun hb => by have a7 := hb; first | exact (a1o _ _ _ _ _ _) | (simp only [a8 a7]; exact (a1o _ _ _ _ _ _)) | (simp only [b8 a7, a8 a7, a8 hb, d9 a7, h7]; exact (a1o _ _ _ _ _ _))) ?_
 refine a6 (p1 _ _) ?_
 exact hR ((decide (0 ≤ x0.Q0.A5)) && (decide (x0.Q0.A5 ≤ 2147483647))) H _ I_4.drop h
theorem b3B (x0 : R1) {H : Hp} {K : Bool → Hp → Prop} (h : a2m x0 H K) : a7v x0 H K := by
 intro w I
 refine e6q ?_
 refine b2J x0 I (fun r0 H' w' I' hk => ⟨H', _, I', r0, rfl, rfl, hk⟩) h
def a1Q (_x0 : R1) (H : Hp) (K : Sl → Hp → Prop) : Prop :=
 K (Sl.mk none 0 0) H
theorem b1p (x0 : R1) {w0 w : World} {ps0 : Nat → Prop} {H0 H : Hp} {K : Sl → Hp → Prop} {R : Value → World → Prop} {E : Pan} (I : Inv w0 ps0 H0 H [] w) (hR : ∀ (r0 : Sl) (H' : Hp) (w' : World) (_ : Inv w0 ps0 H0 H' [] w') (_ : K r0 H'), R (vs r0) w') (h : a1Q x0 H K) : d2r (Value.agg (g9 x0.Q0).toArray) w R E := by
 unfold a1Q at h
 unfold d2r
 refine K2 I (cs := (g9 x0.Q0)) rfl fun g_2 w_3 I_4 k_5 => ?_
 exact hR (Sl.mk none 0 0) H _ I_4.drop h
theorem b2K (x0 : R1) {H : Hp} {K : Sl → Hp → Prop} (h : a1Q x0 H K) : a6V x0 H K := by
 intro w I
 refine e6s ?_
 refine b1p x0 I (fun r0 H' w' I' hk => ⟨H', _, I', r0, rfl, rfl, hk⟩) h
end Go.Proofs.YthldnpmfelniiaaDoor
