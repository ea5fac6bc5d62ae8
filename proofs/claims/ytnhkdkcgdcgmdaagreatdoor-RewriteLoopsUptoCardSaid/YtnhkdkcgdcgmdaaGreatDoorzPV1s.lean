/- Typed formulas of the program's functions that few laws need; printed by lift.py off the code. -/
import Derived.Test.YtnhkdkcgdcgmdaaGreatDoorzPV1
import Derived.Test.YtnhkdkcgdcgmdaaGreatDoorzPG1s
namespace Go.Proofs.YtnhkdkcgdcgmdaaGreatDoor
open Go.RowKit
set_option maxRecDepth 100000
set_option maxHeartbeats 2000000
variable {w0 w : World} {ps0 : Nat → Prop} {H0 H : Hp} {R : RT} {E : Pan}
def a2Q (H : Hp) (K : Bool → Hp → Prop) : Prop :=
 K true H
def a0f (d8D : Sl) (a9I : Sl) (a7J : Int) (H : Hp) (n2 : Int → Hp → Prop) (K : Bool → Hp → Prop) : Prop :=
 (a7J < (d8D.n : Int) →
 (0 : Int) ≤ a7J ∧ (a7J : Int) < d8D.n ∧ ∃ x_3 : Int, EltH H d8D a7J 1 [(vi x_3)] ∧
 (0 : Int) ≤ a7J ∧ (a7J : Int) < a9I.n ∧ ∃ d3g : Int, EltH H a9I a7J 1 [(vi d3g)] ∧
 (¬ (x_3 = d3g) →
 K false H) ∧
 (x_3 = d3g →
 n2 (IntKind.wrap .i64 (a7J + 1)) H)) ∧
 (¬ (a7J < (d8D.n : Int)) →
 a2Q H K)
def a1h (x0 : Sl) (x1 : Sl) (H : Hp) (K : Bool → Hp → Prop) : Prop :=
 (¬ ((x0.n : Int) = (x1.n : Int)) →
 K false H) ∧
 ((x0.n : Int) = (x1.n : Int) →
 TL (0 : Int) H fun (s : Int) H n2 => a0f x0 x1 s H n2 K)
theorem b1L (x0 : Sl) (x1 : Sl) {K : Bool → Hp → Prop} (I : Inv w0 ps0 H0 H [] w) (hR : ∀ (r0 : Bool) (H' : Hp) (w' : World) (_ : Inv w0 ps0 H0 H' [] w') (_ : K r0 H'), R (vB r0) w') (h : a1h x0 x1 H K) : F19 (vs x0) (vs x1) w R E := by
 unfold a1h at h
 unfold F19
 refine a7 (a7n _ _ _) ?_
 refine a7 (a7n _ _ _) ?_
 refine a7 (T0 _ _ _ _ _ _) ?_
 refine a2C (fun e6V => ?_) (fun e6V => ?_)
 ·replace h := h.1 e6V
  exact hR false H _ I h
 ·replace h := h.2 e6V
  have hj1 : ∀ (H : Hp) (w : World) (_ : Inv w0 ps0 H0 H [] w) (_ : a2Q H K), d2R w R E := by
   intro H w I h
   unfold d2R
   intro _
   unfold a2Q at h
   exact hR true H _ I h
  refine v8 fun j1 hx1 => ?_
  obtain ⟨e6W, d3h, h9y, h9z⟩ := h
  refine L6 (J := fun n l w => ∃ (s : Int) (H : Hp) , n = d3h s ∧ l = [(vi s)] ∧ Inv w0 ps0 H0 H [] w ∧ e6W s H) ⟨_, 0, H, rfl, rfl, I, h9y⟩ ?_
  rintro i4O τ_24 w next2 ⟨a7J, H, rfl, d0v, I, b1y⟩ hn2
  simp only [List.map_cons, List.map_nil, List.cons.injEq, and_true] at d0v
  have e5 := d0v
  simp only [e5]
  obtain ⟨n2, hm2, h⟩ : ∃ n2 : Int → Hp → Prop, (∀ s' H', n2 s' H' → e6W s' H' ∧ d3h s' < d3h a7J) ∧ a0f x0 x1 a7J H n2 K := ⟨_, fun _ _ h => h, h9z a7J H (fun s' H' => e6W s' H' ∧ d3h s' < d3h a7J) b1y (fun _ _ a b => ⟨a, b⟩)⟩
  unfold e2f
  unfold a0f at h
  refine a7 (a7n _ _ _) ?_
  refine a7 (C2 _ _ _ _ _ _) ?_
  refine i8 (fun a8V => ?_) (fun a8V => ?_)
  ·replace h := h.1 a8V
   refine V0 I fun w_1 I_2 => ?_
   obtain ⟨h_6, h_7, x_3, h_9, h⟩ := h
   obtain ⟨g_4, o_5, h_8, h_9⟩ := h_9
   refine l7 (a0o h_8 _ _ _ _ h_6 h_7) ?_
   obtain ⟨h9A, e5V, d3g, a8S, h⟩ := h
   obtain ⟨i4P, i4Q, h9B, a8S⟩ := a8S
   refine l7 (a0o h9B _ _ _ _ h9A e5V) ?_
   refine t6 (ld1 (v := (vi x_3)) Tryz.isAgg2 (I_2.atH h_9)) ?_
   refine t6 (ld1 (v := (vi d3g)) Tryz.isAgg2 (I_2.atH a8S)) ?_
   refine l7 (T0 _ _ _ _ _ _) ?_
   refine a2C (fun a8T => ?_) (fun a8T => ?_)
   ·replace h := h.1 a8T
    exact hR false H _ I_2 h
   ·replace h := h.2 a8T
    refine a7 (J8 _ _ _ _ _ _) ?_
    exact hn2 _ _ _ (hm2 _ _ h).2 ⟨(IntKind.wrap .i64 (a7J + 1)), H, rfl, rfl, I_2, (hm2 _ _ h).1⟩
  ·replace h := h.2 a8V
   exact hx1 _ _ (hj1 H _ I h)
theorem b2k (x0 : Sl) (x1 : Sl) {H : Hp} {K : Bool → Hp → Prop} (h : a1h x0 x1 H K) : a0Y x0 x1 H K := by
 intro w I
 refine g8l ?_
 refine b1L x0 x1 I (fun r0 H' w' I' hk => ⟨H', _, I', r0, rfl, rfl, hk⟩) h
def a1W (b3j : y8) (a0U : y8) (H : Hp) (K : Bool → Hp → Prop) : Prop :=
 K true H
def X5 (Y7 : y8) (a9R : y8) (a9d : Int) (H : Hp) (n3 : Int → Hp → Prop) (K : Bool → Hp → Prop) : Prop :=
 (a9d < (a9R.P8.n : Int) →
 (0 : Int) ≤ a9d ∧ (a9d : Int) < a9R.P8.n ∧ ∃ a3R : Sl, EltH H a9R.P8 a9d 1 [(vs a3R)] ∧
 (0 : Int) ≤ a9d ∧ (a9d : Int) < Y7.P8.n ∧ ∃ d8E : Sl, EltH H Y7.P8 a9d 1 [(vs d8E)] ∧
 a0Y a3R d8E H (fun (b0T : Bool) (b7P : Hp) =>
 ((!b0T) = true →
 K false b7P) ∧
 ((!b0T) = false →
 n3 (IntKind.wrap .i64 (a9d + 1)) b7P))) ∧
 (¬ (a9d < (a9R.P8.n : Int)) →
 a1W Y7 a9R H K)
def X6 (o4 : y8) (y6 : y8) (H : Hp) (K : Bool → Hp → Prop) : Prop :=
 TL (0 : Int) H fun (s : Int) H n3 => X5 o4 y6 s H n3 K
def S1 (d3i : y8) (c0q : y8) (a9e : Int) (H : Hp) (n4 : Int → Hp → Prop) (K : Bool → Hp → Prop) : Prop :=
 (a9e < (c0q.N2.n : Int) →
 (0 : Int) ≤ a9e ∧ (a9e : Int) < c0q.N2.n ∧ ∃ b8a : a3Y, EltH H c0q.N2 a9e 3 (R6 b8a) ∧
 (0 : Int) ≤ a9e ∧ (a9e : Int) < d3i.N2.n ∧ ∃ b8b : a3Y, EltH H d3i.N2 a9e 3 (R6 b8b) ∧
 (¬ (b8a.b8H = b8b.b8H ∧ b8a.o2 = b8b.o2 ∧ b8a.c3B = b8b.c3B) →
 K false H) ∧
 (b8a.b8H = b8b.b8H ∧ b8a.o2 = b8b.o2 ∧ b8a.c3B = b8b.c3B →
 n4 (IntKind.wrap .i64 (a9e + 1)) H)) ∧
 (¬ (a9e < (c0q.N2.n : Int)) →
 X6 d3i c0q H K)
def a0u (x0 : y8) (x1 : y8) (H : Hp) (K : Bool → Hp → Prop) : Prop :=
 TG (((((!decide (x0.a0T = x1.a0T)) || (!decide (x0.a3t = x1.a3t))) || (!decide (x0.a3u = x1.a3u))) || (!decide ((x0.N2.n : Int) = (x1.N2.n : Int)))) = false) (a0Y x0.b1Q x1.b1Q H) false H (fun (m7 : Bool) (T8 : Hp) =>
 (((((((!decide (x0.a0T = x1.a0T)) || (!decide (x0.a3t = x1.a3t))) || (!decide (x0.a3u = x1.a3u))) || (!decide ((x0.N2.n : Int) = (x1.N2.n : Int)))) || (!m7)) || (!decide ((x0.P8.n : Int) = (x1.P8.n : Int)))) = true →
 K false T8) ∧
 (((((((!decide (x0.a0T = x1.a0T)) || (!decide (x0.a3t = x1.a3t))) || (!decide (x0.a3u = x1.a3u))) || (!decide ((x0.N2.n : Int) = (x1.N2.n : Int)))) || (!m7)) || (!decide ((x0.P8.n : Int) = (x1.P8.n : Int)))) = false →
 TL (0 : Int) T8 fun (s : Int) H n4 => S1 x1 x0 s H n4 K))
theorem b0D (x0 : y8) (x1 : y8) {K : Bool → Hp → Prop} (I : Inv w0 ps0 H0 H [] w) (hR : ∀ (r0 : Bool) (H' : Hp) (w' : World) (_ : Inv w0 ps0 H0 H' [] w') (_ : K r0 H'), R (vB r0) w') (h : a0u x0 x1 H K) : F18 (Value.agg (m8 x0).toArray) (Value.agg (m8 x1).toArray) w R E := by
 unfold a0u at h
 unfold F18
 refine M4 I (cs := (m8 x0)) rfl fun g_2 w_3 I_4 k_5 => ?_
 refine M4 I_4 (cs := (m8 x1)) rfl fun g_7 w_8 I_9 a9J => ?_
 refine a7 c3D ?_
 refine d6 (ld1 Tryz.isAgg3 ((I_9.bring 1).at1 (o := 0) (vs := [(vi x0.a0T)]) (nb rfl) rfl)) ?_
 refine a7 c3D ?_
 refine d6 (ld1 Tryz.isAgg3 (I_9.at1 (o := 0) (vs := [(vi x1.a0T)]) (nb rfl) rfl)) ?_
 refine a7 (T0 _ _ _ _ _ _) ?_
 refine a7 (Pu.g fun hb => by have i5 := hb; exact c3G) ?_
 refine d6 (Ld.g fun hb => by have i5 := hb; simp only [r8 i5]; exact (ld1 Tryz.isAgg3 ((I_9.bring 1).at1 (o := 1) (vs := [(vi x0.a3t)]) (nb rfl) rfl))) ?_
 refine a7 (Pu.g fun hb => by have i5 := hb; exact c3G) ?_
 refine d6 (Ld.g fun hb => by have i5 := hb; simp only [r8 i5]; exact (ld1 Tryz.isAgg3 (I_9.at1 (o := 1) (vs := [(vi x1.a3t)]) (nb rfl) rfl))) ?_
 refine a7 (Pu.g fun hb => by have i5 := hb; simp only [r8 i5]; exact (T0 _ _ _ _ _ _)) ?_
 refine a7 (a0E _ _) ?_
 refine a7 (Pu.g fun hb => by have i5 := hb; exact c3E) ?_
 refine d6 (Ld.g fun hb => by have i5 := hb; simp only [r8 i5]; exact (ld1 Tryz.isAgg3 ((I_9.bring 1).at1 (o := 2) (vs := [(vi x0.a3u)]) (nb rfl) rfl))) ?_
 refine a7 (Pu.g fun hb => by have i5 := hb; exact c3E) ?_
 refine d6 (Ld.g fun hb => by have i5 := hb; simp only [r8 i5]; exact (ld1 Tryz.isAgg3 (I_9.at1 (o := 2) (vs := [(vi x1.a3u)]) (nb rfl) rfl))) ?_
 refine a7 (Pu.g fun hb => by have i5 := hb; simp only [r8 i5]; exact (T0 _ _ _ _ _ _)) ?_
 refine a7 (a0E _ _) ?_
 refine a7 (Pu.g fun hb => by have i5 := hb; exact a9p) ?_
 refine d6 (Ld.g fun hb => by have i5 := hb; simp only [r8 i5]; exact (ld1 Tryz.isAgg39 ((I_9.bring 1).at1 (o := 3) (vs := [(vs x0.N2)]) (nb rfl) rfl))) ?_
 refine a7 (Pu.g fun hb => by have i5 := hb; simp only [r8 i5]; exact (b8J _ _ _)) ?_
 refine a7 (Pu.g fun hb => by have i5 := hb; exact a9p) ?_
 refine d6 (Ld.g fun hb => by have i5 := hb; simp only [r8 i5]; exact (ld1 Tryz.isAgg39 (I_9.at1 (o := 3) (vs := [(vs x1.N2)]) (nb rfl) rfl))) ?_
 refine a7 (Pu.g fun hb => by have i5 := hb; simp only [r8 i5]; exact (b8J _ _ _)) ?_
 refine a7 (Pu.g fun hb => by have i5 := hb; simp only [r8 i5]; exact (T0 _ _ _ _ _ _)) ?_
 refine a7 (a0E _ _) ?_
 refine a7 (Pu.g fun hb => by have i5 := hb; exact b1R) ?_
 refine d6 (Ld.g fun hb => by have i5 := hb; simp only [r8 i5]; exact (ld1 Tryz.isAgg37 ((I_9.bring 1).at1 (o := 4) (vs := [(vs x0.b1Q)]) (nb rfl) rfl))) ?_
 refine a7 (Pu.g fun hb => by have i5 := hb; exact b1R) ?_
 refine d6 (Ld.g fun hb => by have i5 := hb; simp only [r8 i5]; exact (ld1 Tryz.isAgg37 (I_9.at1 (o := 4) (vs := [(vs x1.b1Q)]) (nb rfl) rfl))) ?_
 refine a7m (D := fun b7Q p7 => ∃ (m7 : Bool) (T8 : Hp) , b7Q = (gv ((((!decide (x0.a0T = x1.a0T)) || (!decide (x0.a3t = x1.a3t))) || (!decide (x0.a3u = x1.a3u))) || (!decide ((x0.N2.n : Int) = (x1.N2.n : Int)))) false (vB m7)) ∧ (Inv w0 ps0 H0 T8 [bx g_7 42 (m8 x1), bx g_2 42 (m8 x0)] p7) ∧ (∀ i, i < w_8.heap.size → ¬ inF [] i → p7.heap[i]? = w_8.heap[i]?) ∧ Hle H T8 ∧ ((((((((!decide (x0.a0T = x1.a0T)) || (!decide (x0.a3t = x1.a3t))) || (!decide (x0.a3u = x1.a3u))) || (!decide ((x0.N2.n : Int) = (x1.N2.n : Int)))) || (!m7)) || (!decide ((x0.P8.n : Int) = (x1.P8.n : Int)))) = true →
 K false T8) ∧
 (((((((!decide (x0.a0T = x1.a0T)) || (!decide (x0.a3t = x1.a3t))) || (!decide (x0.a3u = x1.a3u))) || (!decide ((x0.N2.n : Int) = (x1.N2.n : Int)))) || (!m7)) || (!decide ((x0.P8.n : Int) = (x1.P8.n : Int)))) = false →
 TL (0 : Int) T8 fun (s : Int) H n4 => S1 x1 x0 s H n4 K))) (fun b3d => ?_) (fun b3d => ?_) ?_
 ·replace h := h.1 b3d
  have i5 := b3d
  simp only [r8 i5]
  refine d8 (cap := []) (fun args w => Tryz.call19 args w) ?_
  refine m4 (Fi := []) (Fr := [bx g_7 42 (m8 x1), bx g_2 42 (m8 x0)]) I_9 (h) (fun b7Q T8 b9Z p7 a2f b5m b5p b0B => ?_) (fun _ _ _ _ _ q => q.elim)
  obtain ⟨m7, rfl, rfl, h⟩ := b0B
  exact ⟨m7, T8, by rfl, a2f, b5p, b5m, h⟩
 ·exact ⟨false, H, by rw [b1s b3d], I_9, fun _ _ _ => rfl, Hle.refl _, h.2 b3d⟩
 ·clear h
  rintro b7Q p7 ⟨m7, T8, rfl, a2f, b5p, b5m, h⟩
  refine a7 (Pu.g fun hb => by have i5 := hb; simp only [r8 i5]; exact (a0S _)) ?_
  refine a7 (a0E _ _) ?_
  refine a7 (Pu.g fun hb => by have i5 := hb; exact a6j) ?_
  refine d6 (Ld.g fun hb => by have i5 := hb; simp only [r8 i5]; exact (ld1 Tryz.isAgg40 ((a2f.bring 1).at1 (o := 5) (vs := [(vs x0.P8)]) (nb rfl) rfl))) ?_
  refine a7 (Pu.g fun hb => by have i5 := hb; simp only [r8 i5]; exact (b8K _ _ _)) ?_
  refine a7 (Pu.g fun hb => by have i5 := hb; exact a6j) ?_
  refine d6 (Ld.g fun hb => by have i5 := hb; simp only [r8 i5]; exact (ld1 Tryz.isAgg40 (a2f.at1 (o := 5) (vs := [(vs x1.P8)]) (nb rfl) rfl))) ?_
  refine a7 (Pu.g fun hb => by have i5 := hb; simp only [r8 i5]; exact (b8K _ _ _)) ?_
  refine a7 (Pu.g fun hb => by have i5 := hb; simp only [r8 i5]; exact (T0 _ _ _ _ _ _)) ?_
  refine a7 (a0E _ _) ?_
  refine s6 (fun b3e => ?_) (fun b3e => ?_)
  ·replace h := h.1 b3e
   exact hR false T8 _ a2f.drop.drop h
  ·replace h := h.2 b3e
   have hj1 : ∀ (H : Hp) (w : World) (_ : Inv w0 ps0 H0 H [bx g_7 42 (m8 x1), bx g_2 42 (m8 x0)] w) (_ : X6 x1 x0 H K), d2Q (Value.pointer (some ⟨g_2, 0, none⟩)) (Value.pointer (some ⟨g_7, 0, none⟩)) w R E := by
    intro H w I h
    unfold d2Q
    intro _
    unfold X6 at h
    have hj2 : ∀ (H : Hp) (w : World) (_ : Inv w0 ps0 H0 H [bx g_7 42 (m8 x1), bx g_2 42 (m8 x0)] w) (_ : a1W x1 x0 H K), d2P w R E := by
     intro H w I h
     unfold d2P
     intro _
     unfold a1W at h
     exact hR true H _ I.drop.drop h
    refine v8 fun j2 hx2 => ?_
    obtain ⟨e6X, d3j, h9C, h9D⟩ := h
    refine L6 (J := fun n l w => ∃ (s : Int) (H : Hp) , n = d3j s ∧ l = [(vi s)] ∧ Inv w0 ps0 H0 H [bx g_7 42 (m8 x1), bx g_2 42 (m8 x0)] w ∧ e6X s H) ⟨_, 0, H, rfl, rfl, ((I.bring 1).bring 1), h9C⟩ ?_
    rintro i4R τ_69 w next3 ⟨a9d, H, rfl, d0p, I, h9E⟩ hn3
    simp only [List.map_cons, List.map_nil, List.cons.injEq, and_true] at d0p
    have e6 := d0p
    simp only [e6]
    obtain ⟨n3, hm3, h⟩ : ∃ n3 : Int → Hp → Prop, (∀ s' H', n3 s' H' → e6X s' H' ∧ d3j s' < d3j a9d) ∧ X5 x1 x0 a9d H n3 K := ⟨_, fun _ _ h => h, h9D a9d H (fun s' H' => e6X s' H' ∧ d3j s' < d3j a9d) h9E (fun _ _ a b => ⟨a, b⟩)⟩
    unfold e2a
    unfold X5 at h
    refine a7 a6j ?_
    refine d6 (ld1 Tryz.isAgg40 ((I.bring 1).at1 (o := 5) (vs := [(vs x0.P8)]) (nb rfl) rfl)) ?_
    refine a7 (b8K _ _ _) ?_
    refine a7 (C2 _ _ _ _ _ _) ?_
    refine i8 (fun c2w => ?_) (fun c2w => ?_)
    ·replace h := h.1 c2w
     refine V0 I fun b0u a7b => ?_
     refine l7 a6j ?_
     refine l7 a6j ?_
     refine t6 (ld1 Tryz.isAgg40 ((a7b.bring 1).at1 (o := 5) (vs := [(vs x0.P8)]) (nb rfl) rfl)) ?_
     obtain ⟨a1l, a3B, a3R, d8F, h⟩ := h
     obtain ⟨h9F, i4S, h9G, d8F⟩ := d8F
     refine l7 (c8F h9G _ _ _ _ a1l a3B) ?_
     refine t6 (ld1 (v := (vs a3R)) Tryz.isAgg37 (a7b.atH d8F)) ?_
     refine t6 (ld1 Tryz.isAgg40 (a7b.at1 (o := 5) (vs := [(vs x1.P8)]) (nb rfl) rfl)) ?_
     obtain ⟨h9H, h9I, d8E, b4X, h⟩ := h
     obtain ⟨h9J, i4T, e3Q, b4X⟩ := b4X
     refine l7 (c8F e3Q _ _ _ _ h9H h9I) ?_
     refine t6 (ld1 (v := (vs d8E)) Tryz.isAgg37 (a7b.atH b4X)) ?_
     refine d8 (cap := []) (fun args w => Tryz.call19 args w) ?_
     refine m4 (Fi := []) (Fr := [bx g_7 42 (m8 x1), bx g_2 42 (m8 x0)]) a7b (h) (fun h8A b7P h8B O0 c6p h8C g5G e5o => ?_) (fun _ _ _ _ _ q => q.elim)
     obtain ⟨b0T, rfl, rfl, h⟩ := e5o
     refine l7 (a0S _) ?_
     refine s6 (fun c2x => ?_) (fun c2x => ?_)
     ·replace h := h.1 c2x
      exact hR false b7P _ c6p.drop.drop h
     ·replace h := h.2 c2x
      refine a7 (J8 _ _ _ _ _ _) ?_
      exact hn3 _ _ _ (hm3 _ _ h).2 ⟨(IntKind.wrap .i64 (a9d + 1)), b7P, rfl, rfl, ((c6p.bring 1).bring 1), (hm3 _ _ h).1⟩
    ·replace h := h.2 c2w
     exact hx2 _ _ (hj2 H _ ((I.bring 1).bring 1) h)
   refine v8 fun j1 hx1 => ?_
   obtain ⟨e6Y, d3k, h9K, h9L⟩ := h
   refine L6 (J := fun n l w => ∃ (s : Int) (H : Hp) , n = d3k s ∧ l = [(vi s)] ∧ Inv w0 ps0 H0 H [bx g_7 42 (m8 x1), bx g_2 42 (m8 x0)] w ∧ e6Y s H) ⟨_, 0, T8, rfl, rfl, ((a2f.bring 1).bring 1), h9K⟩ ?_
   rintro i4U τ_78 w next4 ⟨a9e, H, rfl, b9c, I, h9M⟩ hn4
   simp only [List.map_cons, List.map_nil, List.cons.injEq, and_true] at b9c
   have e5 := b9c
   simp only [e5]
   obtain ⟨n4, hm4, h⟩ : ∃ n4 : Int → Hp → Prop, (∀ s' H', n4 s' H' → e6Y s' H' ∧ d3k s' < d3k a9e) ∧ S1 x1 x0 a9e H n4 K := ⟨_, fun _ _ h => h, h9L a9e H (fun s' H' => e6Y s' H' ∧ d3k s' < d3k a9e) h9M (fun _ _ a b => ⟨a, b⟩)⟩
   unfold e2e
   unfold S1 at h
   refine a7 a9p ?_
   refine d6 (ld1 Tryz.isAgg39 ((I.bring 1).at1 (o := 3) (vs := [(vs x0.N2)]) (nb rfl) rfl)) ?_
   refine a7 (b8J _ _ _) ?_
   refine a7 (C2 _ _ _ _ _ _) ?_
   refine i8 (fun c2C => ?_) (fun c2C => ?_)
   ·replace h := h.1 c2C
    refine V0 I fun t7 a0B => ?_
    refine l7 a9p ?_
    refine l7 a9p ?_
    refine t6 (ld1 Tryz.isAgg39 ((a0B.bring 1).at1 (o := 3) (vs := [(vs x0.N2)]) (nb rfl) rfl)) ?_
    obtain ⟨b7u, b0x, b8a, d0O, h⟩ := h
    obtain ⟨i4V, i4W, e5e, d0O⟩ := d0O
    refine l7 (c8G e5e _ _ _ _ b7u b0x) ?_
    refine t6 (ldA (vs := (R6 b8a)) Tryz.isAgg95 Tryz.sizeOf95 rfl (a0B.atH d0O)) ?_
    refine t6 (ld1 Tryz.isAgg39 (a0B.at1 (o := 3) (vs := [(vs x1.N2)]) (nb rfl) rfl)) ?_
    obtain ⟨e4N, h9N, b8b, a3Q, h⟩ := h
    obtain ⟨i4X, i4Y, e4M, a3Q⟩ := a3Q
    refine l7 (c8G e4M _ _ _ _ e4N h9N) ?_
    refine t6 (ldA (vs := (R6 b8b)) Tryz.isAgg95 Tryz.sizeOf95 rfl (a0B.atH a3Q)) ?_
    refine l7 (e3w _ _ _ _ _ _ _ _) ?_
    refine a2C (fun e6Z => ?_) (fun e6Z => ?_)
    ·replace h := h.1 e6Z
     exact hR false H _ a0B.drop.drop h
    ·replace h := h.2 e6Z
     refine a7 (J8 _ _ _ _ _ _) ?_
     exact hn4 _ _ _ (hm4 _ _ h).2 ⟨(IntKind.wrap .i64 (a9e + 1)), H, rfl, rfl, ((a0B.bring 1).bring 1), (hm4 _ _ h).1⟩
   ·replace h := h.2 c2C
    exact hx1 _ _ (hj1 H _ ((I.bring 1).bring 1) h)
theorem b1p (x0 : y8) (x1 : y8) {H : Hp} {K : Bool → Hp → Prop} (h : a0u x0 x1 H K) : a0s x0 x1 H K := by
 intro w I
 refine g8g ?_
 refine b0D x0 x1 I (fun r0 H' w' I' hk => ⟨H', _, I', r0, rfl, rfl, hk⟩) h
def U3 (x0 : o9) (x1 : Int) (x2 : Sl) (x3 : Int) (H : Hp) (K : Bool → Hp → Prop) : Prop :=
 a3O H (fun (W4 : Bool) (H_6 : Hp) =>
 ((!W4) = true →
 K false H_6) ∧
 ((!W4) = false →
 (((decide (2000 < (x2.n : Int))) || (decide (2000 < x3))) = true →
 K true H_6) ∧
 (((decide (2000 < (x2.n : Int))) || (decide (2000 < x3))) = false →
 a4N x0 x1 H_6 (fun (a8b : o9) (b2l : Int) (c3e : Hp) =>
 a4B x0 x2 x3 c3e (fun (a5j : y8) (b8c : Int) (a7a : Hp) =>
 (((!decide (b2l = 0)) || (!decide (b8c = 0))) = true →
 K true a7a) ∧
 (((!decide (b2l = 0)) || (!decide (b8c = 0))) = false →
 a4B a8b x2 x3 a7a (fun (b2m : y8) (b0W : Int) (c0r : Hp) =>
 TG ((decide (b0W = 0)) = true) (a0s a5j b2m c0r) false c0r (fun (b0X : Bool) (a4l : Hp) =>
 K ((decide (b0W = 0)) && b0X) a4l))))))))
theorem a8q (x0 : o9) (x1 : Int) (x2 : Sl) (x3 : Int) {K : Bool → Hp → Prop} (I : Inv w0 ps0 H0 H [] w) (hR : ∀ (r0 : Bool) (H' : Hp) (w' : World) (_ : Inv w0 ps0 H0 H' [] w') (_ : K r0 H'), R (vB r0) w') (h : U3 x0 x1 x2 x3 H K) : F6 (Value.agg (m9 x0).toArray) (vi x1) (vs x2) (vi x3) w R E := by
 unfold U3 at h
 unfold F6
 refine M4 I (cs := (m9 x0)) rfl fun g_2 w_3 I_4 k_5 => ?_
 refine d8 (cap := []) (fun args w => Tryz.call8 args w) ?_
 refine m4 (Fi := []) (Fr := [bx g_2 25 (m9 x0)]) I_4 (h) (fun c5Y H_6 c5Z w_7 I_8 c6a k_9 b0g => ?_) (fun _ _ _ _ _ q => q.elim)
 obtain ⟨W4, rfl, rfl, h⟩ := b0g
 refine a7 (a0S _) ?_
 refine s6 (fun c2z => ?_) (fun c2z => ?_)
 ·replace h := h.1 c2z
  exact hR false H_6 _ I_8.drop h
 ·replace h := h.2 c2z
  refine a7 (a7n _ _ _) ?_
  refine a7 (a3q _ _ _ _ _ _) ?_
  simp only [Q0]
  refine a7 (Pu.g fun hb => by have i5 := hb; simp only [r8 i5]; exact (a3q _ _ _ _ _ _)) ?_
  refine a7 (a0E _ _) ?_
  refine s6 (fun c2A => ?_) (fun c2A => ?_)
  ·replace h := h.1 c2A
   exact hR true H_6 _ I_8.drop h
  ·replace h := h.2 c2A
   refine d6 (ldA Tryz.isAgg25 Tryz.sizeOf25 rfl (I_8.at1 (o := 0) (vs := (m9 x0)) (nb rfl) rfl)) ?_
   refine d8 (cap := []) (fun args w => Tryz.call9 args w) ?_
   refine m4 (Fi := []) (Fr := [bx g_2 25 (m9 x0)]) I_8 (h) (fun h9O c3e h9P r5 a9K h9Q g0M e7a => ?_) (fun _ _ _ _ _ q => q.elim)
   obtain ⟨a8b, b2l, rfl, rfl, h⟩ := e7a
   refine a7 (m2 _ _ _ rfl) ?_
   refine a7 (m2 _ _ (vi b2l) rfl) ?_
   refine u1 a9K Tryz.zeroValue25 (cs := [(nS), (nS)]) rfl fun b8d y7 a7E d6v => ?_
   refine l9 a7E Tryz.sizeOf25 (vs := (m9 a8b)) (cs' := (m9 a8b)) rfl rfl (nb rfl) rfl rfl fun a9H V5 a7D => ?_
   refine d6 (ldA Tryz.isAgg25 Tryz.sizeOf25 rfl ((V5.bring 1).at1 (o := 0) (vs := (m9 x0)) (nb rfl) rfl)) ?_
   refine d8 (cap := []) (fun args w => Tryz.call16 args w) ?_
   refine m4 (Fi := []) (Fr := [bx b8d 25 (m9 a8b), bx g_2 25 (m9 x0)]) V5 (h) (fun h8t a7a h8u a7H c2e h8v h8w e5m => ?_) (fun _ _ _ _ _ q => q.elim)
   obtain ⟨a5j, b8c, rfl, rfl, h⟩ := e5m
   refine a7 (m2 _ _ _ rfl) ?_
   refine a7 (m2 _ _ (vi b8c) rfl) ?_
   refine u1 c2e Tryz.zeroValue42 (cs := [(vi 0), (vi 0), (vi 0), (nS), (nS), (nS)]) rfl fun e7b b1w c2U g5J => ?_
   refine l9 c2U Tryz.sizeOf42 (vs := (m8 a5j)) (cs' := (m8 a5j)) rfl rfl (nb rfl) rfl rfl fun M9 b1I e5u => ?_
   refine a7 (T0 _ _ _ _ _ _) ?_
   simp only [Q0]
   refine a7 (Pu.g fun hb => by have i5 := hb; simp only [r8 i5]; exact (T0 _ _ _ _ _ _)) ?_
   refine a7 (a0E _ _) ?_
   refine s6 (fun c2B => ?_) (fun c2B => ?_)
   ·replace h := h.1 c2B
    exact hR true a7a _ b1I.drop.drop.drop h
   ·replace h := h.2 c2B
    refine d6 (ldA Tryz.isAgg25 Tryz.sizeOf25 rfl ((b1I.bring 1).at1 (o := 0) (vs := (m9 a8b)) (nb rfl) rfl)) ?_
    refine d8 (cap := []) (fun args w => Tryz.call16 args w) ?_
    refine m4 (Fi := []) (Fr := [bx e7b 42 (m8 a5j), bx b8d 25 (m9 a8b), bx g_2 25 (m9 x0)]) b1I (h) (fun i4Z c0r h7s N8 h9R d6C i5a h9S => ?_) (fun _ _ _ _ _ q => q.elim)
    obtain ⟨b2m, b0W, rfl, rfl, h⟩ := h9S
    refine a7 (m2 _ _ _ rfl) ?_
    refine a7 (m2 _ _ (vi b0W) rfl) ?_
    refine u1 h9R Tryz.zeroValue42 (cs := [(vi 0), (vi 0), (vi 0), (nS), (nS), (nS)]) rfl fun b7T R8 c2Y d8n => ?_
    refine l9 c2Y Tryz.sizeOf42 (vs := (m8 b2m)) (cs' := (m8 b2m)) rfl rfl (nb rfl) rfl rfl fun b3D b7U e5C => ?_
    refine a7 (m5 _ _ _ _ _ _) ?_
    refine d6 (Ld.g fun hb => by have i5 := hb; exact (ldA Tryz.isAgg42 Tryz.sizeOf42 rfl ((b7U.bring 1).at1 (o := 0) (vs := (m8 a5j)) (nb rfl) rfl))) ?_
    refine d6 (Ld.g fun hb => by have i5 := hb; exact (ldA Tryz.isAgg42 Tryz.sizeOf42 rfl (b7U.at1 (o := 0) (vs := (m8 b2m)) (nb rfl) rfl))) ?_
    refine a7m (D := fun e7c a6Z => ∃ (b0X : Bool) (a4l : Hp) , e7c = (gv (decide (b0W = 0)) true (vB b0X)) ∧ (Inv w0 ps0 H0 a4l [bx b7T 42 (m8 b2m), bx e7b 42 (m8 a5j), bx b8d 25 (m9 a8b), bx g_2 25 (m9 x0)] a6Z) ∧ (∀ i, i < b3D.heap.size → ¬ inF [] i → a6Z.heap[i]? = b3D.heap[i]?) ∧ Hle c0r a4l ∧ (K ((decide (b0W = 0)) && b0X) a4l)) (fun d3l => ?_) (fun d3l => ?_) ?_
    ·replace h := h.1 d3l
     have i5 := d3l
     simp only [r8 i5]
     refine d8 (cap := []) (fun args w => Tryz.call18 args w) ?_
     refine m4 (Fi := []) (Fr := [bx b7T 42 (m8 b2m), bx e7b 42 (m8 a5j), bx b8d 25 (m9 a8b), bx g_2 25 (m9 x0)]) b7U (h) (fun e7c a4l i5b a6Z b4Y h0A c2i h9T => ?_) (fun _ _ _ _ _ q => q.elim)
     obtain ⟨b0X, rfl, rfl, h⟩ := h9T
     exact ⟨b0X, a4l, by rfl, b4Y, c2i, h0A, h⟩
    ·exact ⟨false, c0r, by rw [b1s d3l], b7U, fun _ _ _ => rfl, Hle.refl _, h.2 d3l⟩
    ·clear h
     rintro e7c a6Z ⟨b0X, a4l, rfl, b4Y, c2i, h0A, h⟩
     refine a7 (P7 _ _) ?_
     exact hR ((decide (b0W = 0)) && b0X) a4l _ b4Y.drop.drop.drop.drop h
theorem a8y (x0 : o9) (x1 : Int) (x2 : Sl) (x3 : Int) {H : Hp} {K : Bool → Hp → Prop} (h : U3 x0 x1 x2 x3 H K) : a0A x0 x1 x2 x3 H K := by
 intro w I
 refine h4Q ?_
 refine a8q x0 x1 x2 x3 I (fun r0 H' w' I' hk => ⟨H', _, I', r0, rfl, rfl, hk⟩) h
def a6b (x0 : b6) (H : Hp) (K : Int → Bool → Hp → Prop) : Prop :=
 (x0.a8 = 1 →
 K x0.o2 true H) ∧
 (¬ (x0.a8 = 1) →
 ∃ x_6 : b6, ((decide (x0.a8 = 5)) = true → (0 : Int) ≤ 0 ∧ (0 : Int) < x0.o0.n ∧ EltH H x0.o0 0 4 (b7 x_6)) ∧
 (((decide (x0.a8 = 5)) && (decide (x_6.a8 = 1))) = true →
 (0 : Int) ≤ 0 ∧ (0 : Int) < x0.o0.n ∧ ∃ a4T : b6, EltH H x0.o0 0 4 (b7 a4T) ∧
 K (IntKind.wrap .i64 (0 - a4T.o2)) true H) ∧
 (((decide (x0.a8 = 5)) && (decide (x_6.a8 = 1))) = false →
 K 0 false H))
theorem b5z (x0 : b6) {K : Int → Bool → Hp → Prop} (I : Inv w0 ps0 H0 H [] w) (hR : ∀ (r0 : Int) (r1 : Bool) (H' : Hp) (w' : World) (_ : Inv w0 ps0 H0 H' [] w') (_ : K r0 r1 H'), R (Value.tuple #[(vi r0), (vB r1)]) w') (h : a6b x0 H K) : d8C (Value.agg (b7 x0).toArray) w R E := by
 unfold a6b at h
 unfold d8C
 refine M4 I (cs := (b7 x0)) rfl fun g_2 w_3 I_4 k_5 => ?_
 refine a7 Q4 ?_
 refine d6 (ld1 Tryz.isAgg3 (I_4.at1 (o := 0) (vs := [(vi x0.a8)]) (nb rfl) rfl)) ?_
 refine a7 (m5 _ _ _ _ _ _) ?_
 refine i8 (fun a8N => ?_) (fun a8N => ?_)
 ·replace h := h.1 a8N
  refine a7 a6g ?_
  refine d6 (ld1 Tryz.isAgg2 (I_4.at1 (o := 1) (vs := [(vi x0.o2)]) (nb rfl) rfl)) ?_
  exact hR x0.o2 true H _ I_4.drop h
 ·replace h := h.2 a8N
  refine a7 Q4 ?_
  refine d6 (ld1 Tryz.isAgg3 (I_4.at1 (o := 0) (vs := [(vi x0.a8)]) (nb rfl) rfl)) ?_
  refine a7 (m5 _ _ _ _ _ _) ?_
  refine a7 (Pu.g fun hb => by have i5 := hb; exact K4) ?_
  refine d6 (Ld.g fun hb => by have i5 := hb; simp only [r8 i5]; exact (ld1 Tryz.isAgg51 (I_4.at1 (o := 3) (vs := [(vs x0.o0)]) (nb rfl) rfl))) ?_
  obtain ⟨x_6, a9b, h⟩ := h
  obtain ⟨g_7, o_8, a9b⟩ := c3y a9b
  refine a7 (Pu.g fun hb => by have i5 := hb; simp only [r8 i5]; exact (M1 (a9b hb).2.2.1 _ _ _ _ (a9b hb).1 (a9b hb).2.1)) ?_
  refine a7 (Pu.g fun hb => by have i5 := hb; simp only [r8 i5]; exact Q4) ?_
  refine d6 (Ld.g fun hb => by have i5 := hb; simp only [r8 i5]; exact (ld1 (v := (vi x_6.a8)) Tryz.isAgg3 ((I_4.atH (a9b hb).2.2.2).sub (k := 0) (n := 1) (nb rfl)))) ?_
  refine a7 (Pu.g fun hb => by have i5 := hb; simp only [r8 i5]; exact (m5 _ _ _ _ _ _)) ?_
  refine a7 (P7 _ _) ?_
  refine s6 (fun a6C => ?_) (fun a6C => ?_)
  ·replace h := h.1 a6C
   refine a7 K4 ?_
   refine d6 (ld1 Tryz.isAgg51 (I_4.at1 (o := 3) (vs := [(vs x0.o0)]) (nb rfl) rfl)) ?_
   obtain ⟨a8S, b7n, a4T, a7I, h⟩ := h
   obtain ⟨g5v, g5w, c2R, a7I⟩ := a7I
   refine a7 (M1 c2R _ _ _ _ a8S b7n) ?_
   refine a7 a6g ?_
   refine d6 (ld1 (v := (vi a4T.o2)) Tryz.isAgg2 ((I_4.atH a7I).sub (k := 1) (n := 1) (nb rfl))) ?_
   refine a7 (c3w _ _) ?_
   exact hR (IntKind.wrap .i64 (0 - a4T.o2)) true H _ I_4.drop h
  ·replace h := h.2 a6C
   exact hR 0 false H _ I_4.drop h
theorem b6s (x0 : b6) {H : Hp} {K : Int → Bool → Hp → Prop} (h : a6b x0 H K) : a9h x0 H K := by
 intro w I
 refine f5k ?_
 refine b5z x0 I (fun r0 r1 H' w' I' hk => ⟨H', _, I', r0, r1, rfl, rfl, hk⟩) h
end Go.Proofs.YtnhkdkcgdcgmdaaGreatDoor
