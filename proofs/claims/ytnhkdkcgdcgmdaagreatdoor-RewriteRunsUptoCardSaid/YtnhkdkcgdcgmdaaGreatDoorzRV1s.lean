/- Typed formulas of the program's functions that few laws need; printed by lift.py off the code. -/
import Derived.Test.YtnhkdkcgdcgmdaaGreatDoorzRV1
import Derived.Test.YtnhkdkcgdcgmdaaGreatDoorzRG1s
namespace Go.Proofs.YtnhkdkcgdcgmdaaGreatDoor
open Go.RowKit
set_option maxRecDepth 100000
set_option maxHeartbeats 2000000
variable {w0 w : World} {ps0 : Nat → Prop} {H0 H : Hp} {R : RT} {E : Pan}
def a3b (H : Hp) (K : Bool → Hp → Prop) : Prop :=
 K true H
def a0r (e0P : Sl) (b9S : Sl) (a7X : Int) (H : Hp) (n2 : Int → Hp → Prop) (K : Bool → Hp → Prop) : Prop :=
 (a7X < (e0P.n : Int) →
 (0 : Int) ≤ a7X ∧ (a7X : Int) < e0P.n ∧ ∃ x_3 : Int, EltH H e0P a7X 1 [(vi x_3)] ∧
 (0 : Int) ≤ a7X ∧ (a7X : Int) < b9S.n ∧ ∃ d4S : Int, EltH H b9S a7X 1 [(vi d4S)] ∧
 (¬ (x_3 = d4S) →
 K false H) ∧
 (x_3 = d4S →
 n2 (IntKind.wrap .i64 (a7X + 1)) H)) ∧
 (¬ (a7X < (e0P.n : Int)) →
 a3b H K)
def a1q (x0 : Sl) (x1 : Sl) (H : Hp) (K : Bool → Hp → Prop) : Prop :=
 (¬ ((x0.n : Int) = (x1.n : Int)) →
 K false H) ∧
 ((x0.n : Int) = (x1.n : Int) →
 TL (0 : Int) H fun (s : Int) H n2 => a0r x0 x1 s H n2 K)
theorem b2w (x0 : Sl) (x1 : Sl) {K : Bool → Hp → Prop} (I : Inv w0 ps0 H0 H [] w) (hR : ∀ (r0 : Bool) (H' : Hp) (w' : World) (_ : Inv w0 ps0 H0 H' [] w') (_ : K r0 H'), R (vB r0) w') (h : a1q x0 x1 H K) : F19 (vs x0) (vs x1) w R E := by
 unfold a1q at h
 unfold F19
 refine a7 (a7B _ _ _) ?_
 refine a7 (a7B _ _ _) ?_
 refine a7 (T8 _ _ _ _ _ _) ?_
 refine a2L (fun e9l => ?_) (fun e9l => ?_)
 ·replace h := h.1 e9l
  exact hR false H _ I h
 ·replace h := h.2 e9l
  have hj1 : ∀ (H : Hp) (w : World) (_ : Inv w0 ps0 H0 H [] w) (_ : a3b H K), d4J w R E := by
   intro H w I h
   unfold d4J
   intro _
   unfold a3b at h
   exact hR true H _ I h
  refine A7 fun j1 hx1 => ?_
  obtain ⟨e9m, d4T, i1C, i1D⟩ := h
  refine M6 (J := fun n l w => ∃ (s : Int) (H : Hp) , n = d4T s ∧ l = [(vi s)] ∧ Inv w0 ps0 H0 H [] w ∧ e9m s H) ⟨_, 0, H, rfl, rfl, I, i1C⟩ ?_
  rintro i6d τ_24 w next2 ⟨a7X, H, rfl, d8a, I, b2j⟩ hn2
  simp only [List.map_cons, List.map_nil, List.cons.injEq, and_true] at d8a
  have e5 := d8a
  simp only [e5]
  obtain ⟨n2, hm2, h⟩ : ∃ n2 : Int → Hp → Prop, (∀ s' H', n2 s' H' → e9m s' H' ∧ d4T s' < d4T a7X) ∧ a0r x0 x1 a7X H n2 K := ⟨_, fun _ _ h => h, i1D a7X H (fun s' H' => e9m s' H' ∧ d4T s' < d4T a7X) b2j (fun _ _ a b => ⟨a, b⟩)⟩
  unfold e4l
  unfold a0r at h
  refine a7 (a7B _ _ _) ?_
  refine a7 (D7 _ _ _ _ _ _) ?_
  refine j8 (fun a9A => ?_) (fun a9A => ?_)
  ·replace h := h.1 a9A
   refine X7 I fun w_1 I_2 => ?_
   obtain ⟨h_6, h_7, x_3, h_9, h⟩ := h
   obtain ⟨g_4, o_5, h_8, h_9⟩ := h_9
   refine m8 (a0u h_8 _ _ _ _ h_6 h_7) ?_
   obtain ⟨i1E, e7D, d4S, a9x, h⟩ := h
   obtain ⟨i6e, i6f, i1F, a9x⟩ := a9x
   refine m8 (a0u i1F _ _ _ _ i1E e7D) ?_
   refine y7 (ld1 (v := (vi x_3)) Tryz.isAgg2 (I_2.atH h_9)) ?_
   refine y7 (ld1 (v := (vi d4S)) Tryz.isAgg2 (I_2.atH a9x)) ?_
   refine m8 (T8 _ _ _ _ _ _) ?_
   refine a2L (fun a9y => ?_) (fun a9y => ?_)
   ·replace h := h.1 a9y
    exact hR false H _ I_2 h
   ·replace h := h.2 a9y
    refine a7 (L6 _ _ _ _ _ _) ?_
    exact hn2 _ _ _ (hm2 _ _ h).2 ⟨(IntKind.wrap .i64 (a7X + 1)), H, rfl, rfl, I_2, (hm2 _ _ h).1⟩
  ·replace h := h.2 a9A
   exact hx1 _ _ (hj1 H _ I h)
theorem b2V (x0 : Sl) (x1 : Sl) {H : Hp} {K : Bool → Hp → Prop} (h : a1q x0 x1 H K) : a1g x0 x1 H K := by
 intro w I
 refine h1P ?_
 refine b2w x0 x1 I (fun r0 H' w' I' hk => ⟨H', _, I', r0, rfl, rfl, hk⟩) h
def a2i (b3R : t8) (a0Z : t8) (H : Hp) (K : Bool → Hp → Prop) : Prop :=
 K true H
def Y3 (Z8 : t8) (b0v : t8) (a9I : Int) (H : Hp) (n3 : Int → Hp → Prop) (K : Bool → Hp → Prop) : Prop :=
 (a9I < (b0v.L5.n : Int) →
 (0 : Int) ≤ a9I ∧ (a9I : Int) < b0v.L5.n ∧ ∃ a4a : Sl, EltH H b0v.L5 a9I 1 [(vs a4a)] ∧
 (0 : Int) ≤ a9I ∧ (a9I : Int) < Z8.L5.n ∧ ∃ e0Q : Sl, EltH H Z8.L5 a9I 1 [(vs e0Q)] ∧
 a1g a4a e0Q H (fun (b1F : Bool) (b8p : Hp) =>
 ((!b1F) = true →
 K false b8p) ∧
 ((!b1F) = false →
 n3 (IntKind.wrap .i64 (a9I + 1)) b8p))) ∧
 (¬ (a9I < (b0v.L5.n : Int)) →
 a2i Z8 b0v H K)
def Y4 (q8 : t8) (v8 : t8) (H : Hp) (K : Bool → Hp → Prop) : Prop :=
 TL (0 : Int) H fun (s : Int) H n3 => Y3 q8 v8 s H n3 K
def S9 (d4U : t8) (c0X : t8) (a9J : Int) (H : Hp) (n4 : Int → Hp → Prop) (K : Bool → Hp → Prop) : Prop :=
 (a9J < (c0X.G5.n : Int) →
 (0 : Int) ≤ a9J ∧ (a9J : Int) < c0X.G5.n ∧ ∃ b8L : a4f, EltH H c0X.G5 a9J 3 (S5 b8L) ∧
 (0 : Int) ≤ a9J ∧ (a9J : Int) < d4U.G5.n ∧ ∃ b8M : a4f, EltH H d4U.G5 a9J 3 (S5 b8M) ∧
 (¬ (b8L.b9g = b8M.b9g ∧ b8L.p5 = b8M.p5 ∧ b8L.c4i = b8M.c4i) →
 K false H) ∧
 (b8L.b9g = b8M.b9g ∧ b8L.p5 = b8M.p5 ∧ b8L.c4i = b8M.c4i →
 n4 (IntKind.wrap .i64 (a9J + 1)) H)) ∧
 (¬ (a9J < (c0X.G5.n : Int)) →
 Y4 d4U c0X H K)
def a0y (x0 : t8) (x1 : t8) (H : Hp) (K : Bool → Hp → Prop) : Prop :=
 TG (((((!decide (x0.P0 = x1.P0)) || (!decide (x0.V1 = x1.V1))) || (!decide (x0.W5 = x1.W5))) || (!decide ((x0.G5.n : Int) = (x1.G5.n : Int)))) = false) (a1g x0.a4J x1.a4J H) false H (fun (o4 : Bool) (W2 : Hp) =>
 (((((((!decide (x0.P0 = x1.P0)) || (!decide (x0.V1 = x1.V1))) || (!decide (x0.W5 = x1.W5))) || (!decide ((x0.G5.n : Int) = (x1.G5.n : Int)))) || (!o4)) || (!decide ((x0.L5.n : Int) = (x1.L5.n : Int)))) = true →
 K false W2) ∧
 (((((((!decide (x0.P0 = x1.P0)) || (!decide (x0.V1 = x1.V1))) || (!decide (x0.W5 = x1.W5))) || (!decide ((x0.G5.n : Int) = (x1.G5.n : Int)))) || (!o4)) || (!decide ((x0.L5.n : Int) = (x1.L5.n : Int)))) = false →
 TL (0 : Int) W2 fun (s : Int) H n4 => S9 x1 x0 s H n4 K))
theorem b1x (x0 : t8) (x1 : t8) {K : Bool → Hp → Prop} (I : Inv w0 ps0 H0 H [] w) (hR : ∀ (r0 : Bool) (H' : Hp) (w' : World) (_ : Inv w0 ps0 H0 H' [] w') (_ : K r0 H'), R (vB r0) w') (h : a0y x0 x1 H K) : F18 (Value.agg (o3 x0).toArray) (Value.agg (o3 x1).toArray) w R E := by
 unfold a0y at h
 unfold F18
 refine L9 I (cs := (o3 x0)) rfl fun g_2 w_3 I_4 k_5 => ?_
 refine L9 I_4 (cs := (o3 x1)) rfl fun g_7 w_8 I_9 a9w => ?_
 refine a7 b7o ?_
 refine d7 (ld1 Tryz.isAgg3 ((I_9.bring 1).at1 (o := 0) (vs := [(vi x0.P0)]) (nb rfl) rfl)) ?_
 refine a7 b7o ?_
 refine d7 (ld1 Tryz.isAgg3 (I_9.at1 (o := 0) (vs := [(vi x1.P0)]) (nb rfl) rfl)) ?_
 refine a7 (T8 _ _ _ _ _ _) ?_
 refine a7 (Pu.g fun hb => by have i5 := hb; exact c4l) ?_
 refine d7 (Ld.g fun hb => by have i5 := hb; simp only [s8 i5]; exact (ld1 Tryz.isAgg3 ((I_9.bring 1).at1 (o := 1) (vs := [(vi x0.V1)]) (nb rfl) rfl))) ?_
 refine a7 (Pu.g fun hb => by have i5 := hb; exact c4l) ?_
 refine d7 (Ld.g fun hb => by have i5 := hb; simp only [s8 i5]; exact (ld1 Tryz.isAgg3 (I_9.at1 (o := 1) (vs := [(vi x1.V1)]) (nb rfl) rfl))) ?_
 refine a7 (Pu.g fun hb => by have i5 := hb; simp only [s8 i5]; exact (T8 _ _ _ _ _ _)) ?_
 refine a7 (a1d _ _) ?_
 refine a7 (Pu.g fun hb => by have i5 := hb; exact a8d) ?_
 refine d7 (Ld.g fun hb => by have i5 := hb; simp only [s8 i5]; exact (ld1 Tryz.isAgg3 ((I_9.bring 1).at1 (o := 2) (vs := [(vi x0.W5)]) (nb rfl) rfl))) ?_
 refine a7 (Pu.g fun hb => by have i5 := hb; exact a8d) ?_
 refine d7 (Ld.g fun hb => by have i5 := hb; simp only [s8 i5]; exact (ld1 Tryz.isAgg3 (I_9.at1 (o := 2) (vs := [(vi x1.W5)]) (nb rfl) rfl))) ?_
 refine a7 (Pu.g fun hb => by have i5 := hb; simp only [s8 i5]; exact (T8 _ _ _ _ _ _)) ?_
 refine a7 (a1d _ _) ?_
 refine a7 (Pu.g fun hb => by have i5 := hb; exact a9V) ?_
 refine d7 (Ld.g fun hb => by have i5 := hb; simp only [s8 i5]; exact (ld1 Tryz.isAgg39 ((I_9.bring 1).at1 (o := 3) (vs := [(vs x0.G5)]) (nb rfl) rfl))) ?_
 refine a7 (Pu.g fun hb => by have i5 := hb; simp only [s8 i5]; exact (b9h _ _ _)) ?_
 refine a7 (Pu.g fun hb => by have i5 := hb; exact a9V) ?_
 refine d7 (Ld.g fun hb => by have i5 := hb; simp only [s8 i5]; exact (ld1 Tryz.isAgg39 (I_9.at1 (o := 3) (vs := [(vs x1.G5)]) (nb rfl) rfl))) ?_
 refine a7 (Pu.g fun hb => by have i5 := hb; simp only [s8 i5]; exact (b9h _ _ _)) ?_
 refine a7 (Pu.g fun hb => by have i5 := hb; simp only [s8 i5]; exact (T8 _ _ _ _ _ _)) ?_
 refine a7 (a1d _ _) ?_
 refine a7 (Pu.g fun hb => by have i5 := hb; exact b2y) ?_
 refine d7 (Ld.g fun hb => by have i5 := hb; simp only [s8 i5]; exact (ld1 Tryz.isAgg37 ((I_9.bring 1).at1 (o := 4) (vs := [(vs x0.a4J)]) (nb rfl) rfl))) ?_
 refine a7 (Pu.g fun hb => by have i5 := hb; exact b2y) ?_
 refine d7 (Ld.g fun hb => by have i5 := hb; simp only [s8 i5]; exact (ld1 Tryz.isAgg37 (I_9.at1 (o := 4) (vs := [(vs x1.a4J)]) (nb rfl) rfl))) ?_
 refine a5c (D := fun b8q q9 => ∃ (o4 : Bool) (W2 : Hp) , b8q = (gv ((((!decide (x0.P0 = x1.P0)) || (!decide (x0.V1 = x1.V1))) || (!decide (x0.W5 = x1.W5))) || (!decide ((x0.G5.n : Int) = (x1.G5.n : Int)))) false (vB o4)) ∧ (Inv w0 ps0 H0 W2 [bx g_7 42 (o3 x1), bx g_2 42 (o3 x0)] q9) ∧ (∀ i, i < w_8.heap.size → ¬ inF [] i → q9.heap[i]? = w_8.heap[i]?) ∧ Hle H W2 ∧ ((((((((!decide (x0.P0 = x1.P0)) || (!decide (x0.V1 = x1.V1))) || (!decide (x0.W5 = x1.W5))) || (!decide ((x0.G5.n : Int) = (x1.G5.n : Int)))) || (!o4)) || (!decide ((x0.L5.n : Int) = (x1.L5.n : Int)))) = true →
 K false W2) ∧
 (((((((!decide (x0.P0 = x1.P0)) || (!decide (x0.V1 = x1.V1))) || (!decide (x0.W5 = x1.W5))) || (!decide ((x0.G5.n : Int) = (x1.G5.n : Int)))) || (!o4)) || (!decide ((x0.L5.n : Int) = (x1.L5.n : Int)))) = false →
 TL (0 : Int) W2 fun (s : Int) H n4 => S9 x1 x0 s H n4 K))) (fun b3K => ?_) (fun b3K => ?_) ?_
 ·replace h := h.1 b3K
  have i5 := b3K
  simp only [s8 i5]
  refine d8 (cap := []) (fun args w => Tryz.call19 args w) ?_
  refine o0 (Fi := []) (Fr := [bx g_7 42 (o3 x1), bx g_2 42 (o3 x0)]) I_9 (h) (fun b8q W2 c0x q9 a3G b5U b5X b1k => ?_) (fun _ _ _ _ _ q => q.elim)
  obtain ⟨o4, rfl, rfl, h⟩ := b1k
  exact ⟨o4, W2, by rfl, a3G, b5X, b5U, h⟩
 ·exact ⟨false, H, by rw [a9g b3K], I_9, fun _ _ _ => rfl, Hle.refl _, h.2 b3K⟩
 ·clear h
  rintro b8q q9 ⟨o4, W2, rfl, a3G, b5X, b5U, h⟩
  refine a7 (Pu.g fun hb => by have i5 := hb; simp only [s8 i5]; exact (a0X _)) ?_
  refine a7 (a1d _ _) ?_
  refine a7 (Pu.g fun hb => by have i5 := hb; exact a6y) ?_
  refine d7 (Ld.g fun hb => by have i5 := hb; simp only [s8 i5]; exact (ld1 Tryz.isAgg40 ((a3G.bring 1).at1 (o := 5) (vs := [(vs x0.L5)]) (nb rfl) rfl))) ?_
  refine a7 (Pu.g fun hb => by have i5 := hb; simp only [s8 i5]; exact (b9i _ _ _)) ?_
  refine a7 (Pu.g fun hb => by have i5 := hb; exact a6y) ?_
  refine d7 (Ld.g fun hb => by have i5 := hb; simp only [s8 i5]; exact (ld1 Tryz.isAgg40 (a3G.at1 (o := 5) (vs := [(vs x1.L5)]) (nb rfl) rfl))) ?_
  refine a7 (Pu.g fun hb => by have i5 := hb; simp only [s8 i5]; exact (b9i _ _ _)) ?_
  refine a7 (Pu.g fun hb => by have i5 := hb; simp only [s8 i5]; exact (T8 _ _ _ _ _ _)) ?_
  refine a7 (a1d _ _) ?_
  refine u0 (fun b3L => ?_) (fun b3L => ?_)
  ·replace h := h.1 b3L
   exact hR false W2 _ a3G.drop.drop h
  ·replace h := h.2 b3L
   have hj1 : ∀ (H : Hp) (w : World) (_ : Inv w0 ps0 H0 H [bx g_7 42 (o3 x1), bx g_2 42 (o3 x0)] w) (_ : Y4 x1 x0 H K), d4I (Value.pointer (some ⟨g_2, 0, none⟩)) (Value.pointer (some ⟨g_7, 0, none⟩)) w R E := by
    intro H w I h
    unfold d4I
    intro _
    unfold Y4 at h
    have hj2 : ∀ (H : Hp) (w : World) (_ : Inv w0 ps0 H0 H [bx g_7 42 (o3 x1), bx g_2 42 (o3 x0)] w) (_ : a2i x1 x0 H K), d4H w R E := by
     intro H w I h
     unfold d4H
     intro _
     unfold a2i at h
     exact hR true H _ I.drop.drop h
    refine A7 fun j2 hx2 => ?_
    obtain ⟨e9n, d4V, i1G, i1H⟩ := h
    refine M6 (J := fun n l w => ∃ (s : Int) (H : Hp) , n = d4V s ∧ l = [(vi s)] ∧ Inv w0 ps0 H0 H [bx g_7 42 (o3 x1), bx g_2 42 (o3 x0)] w ∧ e9n s H) ⟨_, 0, H, rfl, rfl, ((I.bring 1).bring 1), i1G⟩ ?_
    rintro i6g τ_69 w next3 ⟨a9I, H, rfl, d1s, I, i1I⟩ hn3
    simp only [List.map_cons, List.map_nil, List.cons.injEq, and_true] at d1s
    have e6 := d1s
    simp only [e6]
    obtain ⟨n3, hm3, h⟩ : ∃ n3 : Int → Hp → Prop, (∀ s' H', n3 s' H' → e9n s' H' ∧ d4V s' < d4V a9I) ∧ Y3 x1 x0 a9I H n3 K := ⟨_, fun _ _ h => h, i1H a9I H (fun s' H' => e9n s' H' ∧ d4V s' < d4V a9I) i1I (fun _ _ a b => ⟨a, b⟩)⟩
    unfold e4g
    unfold Y3 at h
    refine a7 a6y ?_
    refine d7 (ld1 Tryz.isAgg40 ((I.bring 1).at1 (o := 5) (vs := [(vs x0.L5)]) (nb rfl) rfl)) ?_
    refine a7 (b9i _ _ _) ?_
    refine a7 (D7 _ _ _ _ _ _) ?_
    refine j8 (fun c2X => ?_) (fun c2X => ?_)
    ·replace h := h.1 c2X
     refine X7 I fun b0n a7q => ?_
     refine m8 a6y ?_
     refine m8 a6y ?_
     refine y7 (ld1 Tryz.isAgg40 ((a7q.bring 1).at1 (o := 5) (vs := [(vs x0.L5)]) (nb rfl) rfl)) ?_
     obtain ⟨a1u, a3F, a4a, e0F, h⟩ := h
     obtain ⟨i1y, i6h, i1J, e0F⟩ := e0F
     refine m8 (c9H i1J _ _ _ _ a1u a3F) ?_
     refine y7 (ld1 (v := (vs a4a)) Tryz.isAgg37 (a7q.atH e0F)) ?_
     refine y7 (ld1 Tryz.isAgg40 (a7q.at1 (o := 5) (vs := [(vs x1.L5)]) (nb rfl) rfl)) ?_
     obtain ⟨i1K, i1L, e0Q, b9U, h⟩ := h
     obtain ⟨i1z, i6i, e5w, b9U⟩ := b9U
     refine m8 (c9H e5w _ _ _ _ i1K i1L) ?_
     refine y7 (ld1 (v := (vs e0Q)) Tryz.isAgg37 (a7q.atH b9U)) ?_
     refine d8 (cap := []) (fun args w => Tryz.call19 args w) ?_
     refine o0 (Fi := []) (Fr := [bx g_7 42 (o3 x1), bx g_2 42 (o3 x0)]) a7q (h) (fun i0d b8p i0e N7 c7h i0f g7q e6R => ?_) (fun _ _ _ _ _ q => q.elim)
     obtain ⟨b1F, rfl, rfl, h⟩ := e6R
     refine m8 (a0X _) ?_
     refine u0 (fun c2Y => ?_) (fun c2Y => ?_)
     ·replace h := h.1 c2Y
      exact hR false b8p _ c7h.drop.drop h
     ·replace h := h.2 c2Y
      refine a7 (L6 _ _ _ _ _ _) ?_
      exact hn3 _ _ _ (hm3 _ _ h).2 ⟨(IntKind.wrap .i64 (a9I + 1)), b8p, rfl, rfl, ((c7h.bring 1).bring 1), (hm3 _ _ h).1⟩
    ·replace h := h.2 c2X
     exact hx2 _ _ (hj2 H _ ((I.bring 1).bring 1) h)
   refine A7 fun j1 hx1 => ?_
   obtain ⟨e9o, d4W, i1M, i1N⟩ := h
   refine M6 (J := fun n l w => ∃ (s : Int) (H : Hp) , n = d4W s ∧ l = [(vi s)] ∧ Inv w0 ps0 H0 H [bx g_7 42 (o3 x1), bx g_2 42 (o3 x0)] w ∧ e9o s H) ⟨_, 0, W2, rfl, rfl, ((a3G.bring 1).bring 1), i1M⟩ ?_
   rintro i6j τ_78 w next4 ⟨a9J, H, rfl, b9B, I, i1O⟩ hn4
   simp only [List.map_cons, List.map_nil, List.cons.injEq, and_true] at b9B
   have e5 := b9B
   simp only [e5]
   obtain ⟨n4, hm4, h⟩ : ∃ n4 : Int → Hp → Prop, (∀ s' H', n4 s' H' → e9o s' H' ∧ d4W s' < d4W a9J) ∧ S9 x1 x0 a9J H n4 K := ⟨_, fun _ _ h => h, i1N a9J H (fun s' H' => e9o s' H' ∧ d4W s' < d4W a9J) i1O (fun _ _ a b => ⟨a, b⟩)⟩
   unfold e4k
   unfold S9 at h
   refine a7 a9V ?_
   refine d7 (ld1 Tryz.isAgg39 ((I.bring 1).at1 (o := 3) (vs := [(vs x0.G5)]) (nb rfl) rfl)) ?_
   refine a7 (b9h _ _ _) ?_
   refine a7 (D7 _ _ _ _ _ _) ?_
   refine j8 (fun c3f => ?_) (fun c3f => ?_)
   ·replace h := h.1 c3f
    refine X7 I fun u9 a1U => ?_
    refine m8 a9V ?_
    refine m8 a9V ?_
    refine y7 (ld1 Tryz.isAgg39 ((a1U.bring 1).at1 (o := 3) (vs := [(vs x0.G5)]) (nb rfl) rfl)) ?_
    obtain ⟨b7Z, b1f, b8L, c3r, h⟩ := h
    obtain ⟨i6k, i6l, e6E, c3r⟩ := c3r
    refine m8 (c9I e6E _ _ _ _ b7Z b1f) ?_
    refine y7 (ldA (vs := (S5 b8L)) Tryz.isAgg95 Tryz.sizeOf95 rfl (a1U.atH c3r)) ?_
    refine y7 (ld1 Tryz.isAgg39 (a1U.at1 (o := 3) (vs := [(vs x1.G5)]) (nb rfl) rfl)) ?_
    obtain ⟨e6m, e7k, b8M, a3W, h⟩ := h
    obtain ⟨i6m, i6n, e6l, a3W⟩ := a3W
    refine m8 (c9I e6l _ _ _ _ e6m e7k) ?_
    refine y7 (ldA (vs := (S5 b8M)) Tryz.isAgg95 Tryz.sizeOf95 rfl (a1U.atH a3W)) ?_
    refine m8 (e5b _ _ _ _ _ _ _ _) ?_
    refine a2L (fun e9p => ?_) (fun e9p => ?_)
    ·replace h := h.1 e9p
     exact hR false H _ a1U.drop.drop h
    ·replace h := h.2 e9p
     refine a7 (L6 _ _ _ _ _ _) ?_
     exact hn4 _ _ _ (hm4 _ _ h).2 ⟨(IntKind.wrap .i64 (a9J + 1)), H, rfl, rfl, ((a1U.bring 1).bring 1), (hm4 _ _ h).1⟩
   ·replace h := h.2 c3f
    exact hx1 _ _ (hj1 H _ ((I.bring 1).bring 1) h)
theorem b2c (x0 : t8) (x1 : t8) {H : Hp} {K : Bool → Hp → Prop} (h : a0y x0 x1 H K) : a3E x0 x1 H K := by
 intro w I
 refine h1K ?_
 refine b1x x0 x1 I (fun r0 H' w' I' hk => ⟨H', _, I', r0, rfl, rfl, hk⟩) h
def a1r (x0 : t8) (x1 : t8) (H : Hp) (K : Bool → Hp → Prop) : Prop :=
 a3E (t8.mk x0.P0 x0.V1 0 x0.G5 x0.a4J x0.L5) (t8.mk x1.P0 x1.V1 0 x1.G5 x1.a4J x1.L5) H (fun (j9 : Bool) (a4W : Hp) =>
 K j9 a4W)
theorem b2x (x0 : t8) (x1 : t8) {K : Bool → Hp → Prop} (I : Inv w0 ps0 H0 H [] w) (hR : ∀ (r0 : Bool) (H' : Hp) (w' : World) (_ : Inv w0 ps0 H0 H' [] w') (_ : K r0 H'), R (vB r0) w') (h : a1r x0 x1 H K) : F20 (Value.agg (o3 x0).toArray) (Value.agg (o3 x1).toArray) w R E := by
 unfold a1r at h
 unfold F20
 refine L9 I (cs := (o3 x0)) rfl fun g_2 w_3 I_4 k_5 => ?_
 refine L9 I_4 (cs := (o3 x1)) rfl fun g_7 w_8 I_9 a9w => ?_
 refine a7 a8d ?_
 refine m7 (I_9.bring 1) Tryz.sizeOf3 (vs := [(vi 0)]) (cs' := [(vi x0.P0), (vi x0.V1), (vi 0), (vs x0.G5), (vs x0.a4J), (vs x0.L5)]) rfl rfl (nb rfl) rfl rfl fun R1 D2 b5A => ?_
 refine a7 a8d ?_
 refine m7 (D2.bring 1) Tryz.sizeOf3 (vs := [(vi 0)]) (cs' := [(vi x1.P0), (vi x1.V1), (vi 0), (vs x1.G5), (vs x1.a4J), (vs x1.L5)]) rfl rfl (nb rfl) rfl rfl fun p9 a9p b5G => ?_
 refine d7 (ldA Tryz.isAgg42 Tryz.sizeOf42 rfl ((a9p.bring 1).at1 (o := 0) (vs := [(vi x0.P0), (vi x0.V1), (vi 0), (vs x0.G5), (vs x0.a4J), (vs x0.L5)]) (nb rfl) rfl)) ?_
 refine d7 (ldA Tryz.isAgg42 Tryz.sizeOf42 rfl (a9p.at1 (o := 0) (vs := [(vi x1.P0), (vi x1.V1), (vi 0), (vs x1.G5), (vs x1.a4J), (vs x1.L5)]) (nb rfl) rfl)) ?_
 refine d8 (cap := []) (fun args w => Tryz.call18 args w) ?_
 refine o0 (Fi := []) (Fr := [bx g_7 42 [(vi x1.P0), (vi x1.V1), (vi 0), (vs x1.G5), (vs x1.a4J), (vs x1.L5)], bx g_2 42 [(vi x0.P0), (vi x0.V1), (vi 0), (vs x0.G5), (vs x0.a4J), (vs x0.L5)]]) a9p (h) (fun d7K a4W d7L u5 a9o d7M b9P b7D => ?_) (fun _ _ _ _ _ q => q.elim)
 obtain ⟨j9, rfl, rfl, h⟩ := b7D
 exact hR j9 a4W _ a9o.drop.drop h
theorem b2W (x0 : t8) (x1 : t8) {H : Hp} {K : Bool → Hp → Prop} (h : a1r x0 x1 H K) : a4k x0 x1 H K := by
 intro w I
 refine h1R ?_
 refine b2x x0 x1 I (fun r0 H' w' I' hk => ⟨H', _, I', r0, rfl, rfl, hk⟩) h
def W4 (x0 : r7) (x1 : Sl) (x2 : Int) (H : Hp) (K : Bool → Hp → Prop) : Prop :=
 a3U H (fun (X1 : Bool) (H_6 : Hp) =>
 ((!X1) = true →
 K false H_6) ∧
 ((!X1) = false →
 (((decide (2000 < (x1.n : Int))) || (decide (2000 < x2))) = true →
 K true H_6) ∧
 (((decide (2000 < (x1.n : Int))) || (decide (2000 < x2))) = false →
 a6k x0 H_6 (fun (a9f : r7) (b2U : Int) (c3T : Hp) =>
 a9m x0 x1 x2 c3T (fun (a3M : t8) (c9o : Int) (a9v : Hp) =>
 (((!decide (b2U = 0)) || (!decide (c9o = 0))) = true →
 K true a9v) ∧
 (((!decide (b2U = 0)) || (!decide (c9o = 0))) = false →
 a9m a9f x1 x2 a9v (fun (b2X : t8) (c9p : Int) (c7I : Hp) =>
 (¬ (c9p = 0) →
 K false c7I) ∧
 (c9p = 0 →
 (a3M.P0 = 1 →
 K true c7I) ∧
 (¬ (a3M.P0 = 1) →
 a4k a3M b2X c7I (fun (e0R : Bool) (a8F : Hp) =>
 K (e0R && (decide (b2X.W5 ≤ a3M.W5))) a8F))))))))))
theorem a8S (x0 : r7) (x1 : Sl) (x2 : Int) {K : Bool → Hp → Prop} (I : Inv w0 ps0 H0 H [] w) (hR : ∀ (r0 : Bool) (H' : Hp) (w' : World) (_ : Inv w0 ps0 H0 H' [] w') (_ : K r0 H'), R (vB r0) w') (h : W4 x0 x1 x2 H K) : F7 (Value.agg (p8 x0).toArray) (vs x1) (vi x2) w R E := by
 unfold W4 at h
 unfold F7
 refine L9 I (cs := (p8 x0)) rfl fun g_2 w_3 I_4 k_5 => ?_
 refine d8 (cap := []) (fun args w => Tryz.call8 args w) ?_
 refine o0 (Fi := []) (Fr := [bx g_2 25 (p8 x0)]) I_4 (h) (fun c6R H_6 c6S w_7 I_8 c6T k_9 b0N => ?_) (fun _ _ _ _ _ q => q.elim)
 obtain ⟨X1, rfl, rfl, h⟩ := b0N
 refine a7 (a0X _) ?_
 refine u0 (fun c3b => ?_) (fun c3b => ?_)
 ·replace h := h.1 c3b
  exact hR false H_6 _ I_8.drop h
 ·replace h := h.2 c3b
  refine a7 (a7B _ _ _) ?_
  refine a7 (a3B _ _ _ _ _ _) ?_
  simp only [O5]
  refine a7 (Pu.g fun hb => by have i5 := hb; simp only [s8 i5]; exact (a3B _ _ _ _ _ _)) ?_
  refine a7 (a1d _ _) ?_
  refine u0 (fun c3c => ?_) (fun c3c => ?_)
  ·replace h := h.1 c3c
   exact hR true H_6 _ I_8.drop h
  ·replace h := h.2 c3c
   refine d7 (ldA Tryz.isAgg25 Tryz.sizeOf25 rfl (I_8.at1 (o := 0) (vs := (p8 x0)) (nb rfl) rfl)) ?_
   refine d8 (cap := []) (fun args w => Tryz.call12 args w) ?_
   refine o0 (Fi := []) (Fr := [bx g_2 25 (p8 x0)]) I_8 (h) (fun i1r c3T i1s s6 c0a i1t g2i e8f => ?_) (fun _ _ _ _ _ q => q.elim)
   obtain ⟨a9f, b2U, rfl, rfl, h⟩ := e8f
   refine a7 (m9 _ _ _ rfl) ?_
   refine a7 (m9 _ _ (vi b2U) rfl) ?_
   refine y9 c0a Tryz.zeroValue25 (cs := [(nS), (nS)]) rfl fun c0L A6 b1d d1E => ?_
   refine m7 b1d Tryz.sizeOf25 (vs := (p8 a9f)) (cs' := (p8 a9f)) rfl rfl (nb rfl) rfl rfl fun a6o V9 a8E => ?_
   refine d7 (ldA Tryz.isAgg25 Tryz.sizeOf25 rfl ((V9.bring 1).at1 (o := 0) (vs := (p8 x0)) (nb rfl) rfl)) ?_
   refine d8 (cap := []) (fun args w => Tryz.call16 args w) ?_
   refine o0 (Fi := []) (Fr := [bx c0L 25 (p8 a9f), bx g_2 25 (p8 x0)]) V9 (h) (fun h9W a9v h9X a8G c2G h9Y h9Z e6P => ?_) (fun _ _ _ _ _ q => q.elim)
   obtain ⟨a3M, c9o, rfl, rfl, h⟩ := e6P
   refine a7 (m9 _ _ _ rfl) ?_
   refine a7 (m9 _ _ (vi c9o) rfl) ?_
   refine y9 c2G Tryz.zeroValue42 (cs := [(vi 0), (vi 0), (vi 0), (nS), (nS), (nS)]) rfl fun h4e b3w b6b e6W => ?_
   refine m7 b6b Tryz.sizeOf42 (vs := (o3 a3M)) (cs' := (o3 a3M)) rfl rfl (nb rfl) rfl rfl fun O4 c7i i0l => ?_
   refine a7 (T8 _ _ _ _ _ _) ?_
   simp only [O5]
   refine a7 (Pu.g fun hb => by have i5 := hb; simp only [s8 i5]; exact (T8 _ _ _ _ _ _)) ?_
   refine a7 (a1d _ _) ?_
   refine u0 (fun c3d => ?_) (fun c3d => ?_)
   ·replace h := h.1 c3d
    exact hR true a9v _ c7i.drop.drop.drop h
   ·replace h := h.2 c3d
    refine d7 (ldA Tryz.isAgg25 Tryz.sizeOf25 rfl ((c7i.bring 1).at1 (o := 0) (vs := (p8 a9f)) (nb rfl) rfl)) ?_
    refine d8 (cap := []) (fun args w => Tryz.call16 args w) ?_
    refine o0 (Fi := []) (Fr := [bx h4e 42 (o3 a3M), bx c0L 25 (p8 a9f), bx g_2 25 (p8 x0)]) c7i (h) (fun i6o c7I h8S M9 i1P d8l i6p i1Q => ?_) (fun _ _ _ _ _ q => q.elim)
    obtain ⟨b2X, c9p, rfl, rfl, h⟩ := i1Q
    refine a7 (m9 _ _ _ rfl) ?_
    refine a7 (m9 _ _ (vi c9p) rfl) ?_
    refine y9 i1P Tryz.zeroValue42 (cs := [(vi 0), (vi 0), (vi 0), (nS), (nS), (nS)]) rfl fun g9F Q4 d9Y i1d => ?_
    refine m7 d9Y Tryz.sizeOf42 (vs := (o3 b2X)) (cs' := (o3 b2X)) rfl rfl (nb rfl) rfl rfl fun d2v b8u i1e => ?_
    refine a7 (T8 _ _ _ _ _ _) ?_
    refine a2L (fun c3e => ?_) (fun c3e => ?_)
    ·replace h := h.1 c3e
     exact hR false c7I _ b8u.drop.drop.drop.drop h
    ·replace h := h.2 c3e
     refine a7 b7o ?_
     refine d7 (ld1 Tryz.isAgg3 ((b8u.bring 1).at1 (o := 0) (vs := [(vi a3M.P0)]) (nb rfl) rfl)) ?_
     refine a7 (o2 _ _ _ _ _ _) ?_
     refine j8 (fun b3O => ?_) (fun b3O => ?_)
     ·replace h := h.1 b3O
      exact hR true c7I _ b8u.drop.drop.drop.drop h
     ·replace h := h.2 b3O
      refine d7 (ldA Tryz.isAgg42 Tryz.sizeOf42 rfl ((b8u.bring 1).at1 (o := 0) (vs := (o3 a3M)) (nb rfl) rfl)) ?_
      refine d7 (ldA Tryz.isAgg42 Tryz.sizeOf42 rfl (b8u.at1 (o := 0) (vs := (o3 b2X)) (nb rfl) rfl)) ?_
      refine d8 (cap := []) (fun args w => Tryz.call20 args w) ?_
      refine o0 (Fi := []) (Fr := [bx g9F 42 (o3 b2X), bx h4e 42 (o3 a3M), bx c0L 25 (p8 a9f), bx g_2 25 (p8 x0)]) b8u (h) (fun i6q a8F i6r b2m b5I i6s d1t i1R => ?_) (fun _ _ _ _ _ q => q.elim)
      obtain ⟨e0R, rfl, rfl, h⟩ := i1R
      refine a7 (Pu.g fun hb => by have i5 := hb; exact a8d) ?_
      refine d7 (Ld.g fun hb => by have i5 := hb; simp only [s8 i5]; exact (ld1 Tryz.isAgg3 (b5I.at1 (o := 2) (vs := [(vi b2X.W5)]) (nb rfl) rfl))) ?_
      refine a7 (Pu.g fun hb => by have i5 := hb; exact a8d) ?_
      refine d7 (Ld.g fun hb => by have i5 := hb; simp only [s8 i5]; exact (ld1 Tryz.isAgg3 ((b5I.bring 1).at1 (o := 2) (vs := [(vi a3M.W5)]) (nb rfl) rfl))) ?_
      refine a7 (Pu.g fun hb => by have i5 := hb; simp only [s8 i5]; exact (b6m _ _ _ _ _ _)) ?_
      refine a7 (N6 _ _) ?_
      exact hR (e0R && (decide (b2X.W5 ≤ a3M.W5))) a8F _ b5I.drop.drop.drop.drop h
theorem a9K (x0 : r7) (x1 : Sl) (x2 : Int) {H : Hp} {K : Bool → Hp → Prop} (h : W4 x0 x1 x2 H K) : a0U x0 x1 x2 H K := by
 intro w I
 refine h7I ?_
 refine a8S x0 x1 x2 I (fun r0 H' w' I' hk => ⟨H', _, I', r0, rfl, rfl, hk⟩) h
def a6s (x0 : b6) (H : Hp) (K : Int → Bool → Hp → Prop) : Prop :=
 (x0.a8 = 1 →
 K x0.p5 true H) ∧
 (¬ (x0.a8 = 1) →
 ∃ x_6 : b6, ((decide (x0.a8 = 5)) = true → (0 : Int) ≤ 0 ∧ (0 : Int) < x0.o9.n ∧ EltH H x0.o9 0 4 (b8 x_6)) ∧
 (((decide (x0.a8 = 5)) && (decide (x_6.a8 = 1))) = true →
 (0 : Int) ≤ 0 ∧ (0 : Int) < x0.o9.n ∧ ∃ a4Z : b6, EltH H x0.o9 0 4 (b8 a4Z) ∧
 K (IntKind.wrap .i64 (0 - a4Z.p5)) true H) ∧
 (((decide (x0.a8 = 5)) && (decide (x_6.a8 = 1))) = false →
 K 0 false H))
theorem b6l (x0 : b6) {K : Int → Bool → Hp → Prop} (I : Inv w0 ps0 H0 H [] w) (hR : ∀ (r0 : Int) (r1 : Bool) (H' : Hp) (w' : World) (_ : Inv w0 ps0 H0 H' [] w') (_ : K r0 r1 H'), R (Value.tuple #[(vi r0), (vB r1)]) w') (h : a6s x0 H K) : e0O (Value.agg (b8 x0).toArray) w R E := by
 unfold a6s at h
 unfold e0O
 refine L9 I (cs := (b8 x0)) rfl fun g_2 w_3 I_4 k_5 => ?_
 refine a7 Q7 ?_
 refine d7 (ld1 Tryz.isAgg3 (I_4.at1 (o := 0) (vs := [(vi x0.a8)]) (nb rfl) rfl)) ?_
 refine a7 (o2 _ _ _ _ _ _) ?_
 refine j8 (fun a9q => ?_) (fun a9q => ?_)
 ·replace h := h.1 a9q
  refine a7 a6x ?_
  refine d7 (ld1 Tryz.isAgg2 (I_4.at1 (o := 1) (vs := [(vi x0.p5)]) (nb rfl) rfl)) ?_
  exact hR x0.p5 true H _ I_4.drop h
 ·replace h := h.2 a9q
  refine a7 Q7 ?_
  refine d7 (ld1 Tryz.isAgg3 (I_4.at1 (o := 0) (vs := [(vi x0.a8)]) (nb rfl) rfl)) ?_
  refine a7 (o2 _ _ _ _ _ _) ?_
  refine a7 (Pu.g fun hb => by have i5 := hb; exact K5) ?_
  refine d7 (Ld.g fun hb => by have i5 := hb; simp only [s8 i5]; exact (ld1 Tryz.isAgg51 (I_4.at1 (o := 3) (vs := [(vs x0.o9)]) (nb rfl) rfl))) ?_
  obtain ⟨x_6, a9D, h⟩ := h
  obtain ⟨g_7, o_8, a9D⟩ := c0Z a9D
  refine a7 (Pu.g fun hb => by have i5 := hb; simp only [s8 i5]; exact (M4 (a9D hb).2.2.1 _ _ _ _ (a9D hb).1 (a9D hb).2.1)) ?_
  refine a7 (Pu.g fun hb => by have i5 := hb; simp only [s8 i5]; exact Q7) ?_
  refine d7 (Ld.g fun hb => by have i5 := hb; simp only [s8 i5]; exact (ld1 (v := (vi x_6.a8)) Tryz.isAgg3 ((I_4.atH (a9D hb).2.2.2).sub (k := 0) (n := 1) (nb rfl)))) ?_
  refine a7 (Pu.g fun hb => by have i5 := hb; simp only [s8 i5]; exact (o2 _ _ _ _ _ _)) ?_
  refine a7 (N6 _ _) ?_
  refine u0 (fun a6N => ?_) (fun a6N => ?_)
  ·replace h := h.1 a6N
   refine a7 K5 ?_
   refine d7 (ld1 Tryz.isAgg51 (I_4.at1 (o := 3) (vs := [(vs x0.o9)]) (nb rfl) rfl)) ?_
   obtain ⟨a9x, b7R, a4Z, a7U, h⟩ := h
   obtain ⟨g7g, g7h, c3v, a7U⟩ := a7U
   refine a7 (M4 c3v _ _ _ _ a9x b7R) ?_
   refine a7 a6x ?_
   refine d7 (ld1 (v := (vi a4Z.p5)) Tryz.isAgg2 ((I_4.atH a7U).sub (k := 1) (n := 1) (nb rfl))) ?_
   refine a7 (c4e _ _) ?_
   exact hR (IntKind.wrap .i64 (0 - a4Z.p5)) true H _ I_4.drop h
  ·replace h := h.2 a6N
   exact hR 0 false H _ I_4.drop h
theorem b7c (x0 : b6) {H : Hp} {K : Int → Bool → Hp → Prop} (h : a6s x0 H K) : a9M x0 H K := by
 intro w I
 refine f7f ?_
 refine b6l x0 I (fun r0 r1 H' w' I' hk => ⟨H', _, I', r0, r1, rfl, rfl, hk⟩) h
end Go.Proofs.YtnhkdkcgdcgmdaaGreatDoor
