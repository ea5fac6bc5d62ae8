/- Typed formulas of the program's functions that few laws need; printed by lift.py off the code. -/
import Derived.Test.YtnhkdkcgdcgmdaaDoorzNV1
import Derived.Test.YtnhkdkcgdcgmdaaDoorzNG1s
namespace Go.Proofs.YtnhkdkcgdcgmdaaDoor
open Go.RowKit
set_option maxRecDepth 100000
set_option maxHeartbeats 2000000
variable {w0 w : World} {ps0 : Nat → Prop} {H0 H : Hp} {R : RT} {E : Pan}
def a0z (H : Hp) (K : Bool → Hp → Prop) : Prop :=
 K true H
def T0 (b7z : Sl) (a1U : Sl) (T7 : Int) (H : Hp) (n2 : Int → Hp → Prop) (K : Bool → Hp → Prop) : Prop :=
 (T7 < (b7z.n : Int) →
 (0 : Int) ≤ T7 ∧ (T7 : Int) < b7z.n ∧ ∃ x_3 : Int, EltH H b7z T7 1 [(vi x_3)] ∧
 (0 : Int) ≤ T7 ∧ (T7 : Int) < a1U.n ∧ ∃ a5t : Int, EltH H a1U T7 1 [(vi a5t)] ∧
 (¬ (x_3 = a5t) →
 K false H) ∧
 (x_3 = a5t →
 n2 (IntKind.wrap .i64 (T7 + 1)) H)) ∧
 (¬ (T7 < (b7z.n : Int)) →
 a0z H K)
def W3 (x0 : Sl) (x1 : Sl) (H : Hp) (K : Bool → Hp → Prop) : Prop :=
 (¬ ((x0.n : Int) = (x1.n : Int)) →
 K false H) ∧
 ((x0.n : Int) = (x1.n : Int) →
 TL (0 : Int) H fun (s : Int) H n2 => T0 x0 x1 s H n2 K)
theorem a7D (x0 : Sl) (x1 : Sl) {K : Bool → Hp → Prop} (I : Inv w0 ps0 H0 H [] w) (hR : ∀ (r0 : Bool) (H' : Hp) (w' : World) (_ : Inv w0 ps0 H0 H' [] w') (_ : K r0 H'), R (vB r0) w') (h : W3 x0 x1 H K) : F46 (vs x0) (vs x1) w R E := by
 unfold W3 at h
 unfold F46
 refine a7 (a1v _ _ _) ?_
 refine a7 (a1v _ _ _) ?_
 refine a7 (N4 _ _ _ _ _ _) ?_
 refine a1W (fun b7A => ?_) (fun b7A => ?_)
 ·replace h := h.1 b7A
  exact hR false H _ I h
 ·replace h := h.2 b7A
  have hj1 : ∀ (H : Hp) (w : World) (_ : Inv w0 ps0 H0 H [] w) (_ : a0z H K), c6b w R E := by
   intro H w I h
   unfold c6b
   intro _
   unfold a0z at h
   exact hR true H _ I h
  refine u7 fun j1 hx1 => ?_
  obtain ⟨b7B, a9M, d9c, d9d⟩ := h
  refine H7 (J := fun n l w => ∃ (s : Int) (H : Hp) , n = a9M s ∧ l = [(vi s)] ∧ Inv w0 ps0 H0 H [] w ∧ b7B s H) ⟨_, 0, H, rfl, rfl, I, d9c⟩ ?_
  rintro g6j τ_24 w next2 ⟨T7, H, rfl, c6p, I, b2x⟩ hn2
  simp only [List.map_cons, List.map_nil, List.cons.injEq, and_true] at c6p
  have e5 := c6p
  simp only [e5]
  obtain ⟨n2, hm2, h⟩ : ∃ n2 : Int → Hp → Prop, (∀ s' H', n2 s' H' → b7B s' H' ∧ a9M s' < a9M T7) ∧ T0 x0 x1 T7 H n2 K := ⟨_, fun _ _ h => h, d9d T7 H (fun s' H' => b7B s' H' ∧ a9M s' < a9M T7) b2x (fun _ _ a b => ⟨a, b⟩)⟩
  unfold d3W
  unfold T0 at h
  refine a7 (a1v _ _ _) ?_
  refine a7 (A7 _ _ _ _ _ _) ?_
  refine i5 (fun a3h => ?_) (fun a3h => ?_)
  ·replace h := h.1 a3h
   refine V2 I fun w_1 I_2 => ?_
   obtain ⟨h_6, h_7, x_3, h_9, h⟩ := h
   obtain ⟨g_4, o_5, h_8, h_9⟩ := h_9
   refine i8 (O7 h_8 _ _ _ _ h_6 h_7) ?_
   obtain ⟨d9e, d9f, a5t, b3e, h⟩ := h
   obtain ⟨g6k, g6l, d9g, b3e⟩ := b3e
   refine i8 (O7 d9g _ _ _ _ d9e d9f) ?_
   refine r5 (ld1 (v := (vi x_3)) Tryd.isAgg2 (I_2.atH h_9)) ?_
   refine r5 (ld1 (v := (vi a5t)) Tryd.isAgg2 (I_2.atH b3e)) ?_
   refine i8 (N4 _ _ _ _ _ _) ?_
   refine a1W (fun a3i => ?_) (fun a3i => ?_)
   ·replace h := h.1 a3i
    exact hR false H _ I_2 h
   ·replace h := h.2 a3i
    refine a7 (C6 _ _ _ _ _ _) ?_
    exact hn2 _ _ _ (hm2 _ _ h).2 ⟨(IntKind.wrap .i64 (T7 + 1)), H, rfl, rfl, I_2, (hm2 _ _ h).1⟩
  ·replace h := h.2 a3h
   exact hx1 _ _ (hj1 H _ I h)
theorem a8d (x0 : Sl) (x1 : Sl) {H : Hp} {K : Bool → Hp → Prop} (h : W3 x0 x1 H K) : V7 x0 x1 H K := by
 intro w I
 refine f6Q ?_
 refine a7D x0 x1 I (fun r0 H' w' I' hk => ⟨H', _, I', r0, rfl, rfl, hk⟩) h
def Y6 (c4j : o2) (a3T : o2) (H : Hp) (K : Bool → Hp → Prop) : Prop :=
 K true H
def Q9 (c6q : o2) (a9N : o2) (a5u : Int) (H : Hp) (n3 : Int → Hp → Prop) (K : Bool → Hp → Prop) : Prop :=
 (a5u < (a9N.J8.n : Int) →
 (0 : Int) ≤ a5u ∧ (a5u : Int) < a9N.J8.n ∧ ∃ a0U : Sl, EltH H a9N.J8 a5u 1 [(vs a0U)] ∧
 (0 : Int) ≤ a5u ∧ (a5u : Int) < c6q.J8.n ∧ ∃ d0S : Sl, EltH H c6q.J8 a5u 1 [(vs d0S)] ∧
 V7 a0U d0S H (fun (d0T : Bool) (c6r : Hp) =>
 ((!d0T) = true →
 K false c6r) ∧
 ((!d0T) = false →
 n3 (IntKind.wrap .i64 (a5u + 1)) c6r))) ∧
 (¬ (a5u < (a9N.J8.n : Int)) →
 Y6 c6q a9N H K)
def R0 (a2P : o2) (D2 : o2) (H : Hp) (K : Bool → Hp → Prop) : Prop :=
 TL (0 : Int) H fun (s : Int) H n3 => Q9 a2P D2 s H n3 K
def L8 (c6s : o2) (b4Y : o2) (a5v : Int) (H : Hp) (n4 : Int → Hp → Prop) (K : Bool → Hp → Prop) : Prop :=
 (a5v < (b4Y.v6.n : Int) →
 (0 : Int) ≤ a5v ∧ (a5v : Int) < b4Y.v6.n ∧ ∃ b3f : F7, EltH H b4Y.v6 a5v 3 (B3 b3f) ∧
 (0 : Int) ≤ a5v ∧ (a5v : Int) < c6s.v6.n ∧ ∃ b3g : F7, EltH H c6s.v6 a5v 3 (B3 b3g) ∧
 (¬ (b3f.a0Z = b3g.a0Z ∧ b3f.C4 = b3g.C4 ∧ b3f.a7M = b3g.a7M) →
 K false H) ∧
 (b3f.a0Z = b3g.a0Z ∧ b3f.C4 = b3g.C4 ∧ b3f.a7M = b3g.a7M →
 n4 (IntKind.wrap .i64 (a5v + 1)) H)) ∧
 (¬ (a5v < (b4Y.v6.n : Int)) →
 R0 c6s b4Y H K)
def U0 (x0 : o2) (x1 : o2) (H : Hp) (K : Bool → Hp → Prop) : Prop :=
 TG (((((!decide (x0.q8 = x1.q8)) || (!decide (x0.O0 = x1.O0))) || (!decide (x0.q9 = x1.q9))) || (!decide ((x0.v6.n : Int) = (x1.v6.n : Int)))) = false) (V7 x0.a1Z x1.a1Z H) false H (fun (a8e : Bool) (a7E : Hp) =>
 (((((((!decide (x0.q8 = x1.q8)) || (!decide (x0.O0 = x1.O0))) || (!decide (x0.q9 = x1.q9))) || (!decide ((x0.v6.n : Int) = (x1.v6.n : Int)))) || (!a8e)) || (!decide ((x0.J8.n : Int) = (x1.J8.n : Int)))) = true →
 K false a7E) ∧
 (((((((!decide (x0.q8 = x1.q8)) || (!decide (x0.O0 = x1.O0))) || (!decide (x0.q9 = x1.q9))) || (!decide ((x0.v6.n : Int) = (x1.v6.n : Int)))) || (!a8e)) || (!decide ((x0.J8.n : Int) = (x1.J8.n : Int)))) = false →
 TL (0 : Int) a7E fun (s : Int) H n4 => L8 x1 x0 s H n4 K))
theorem a6M (x0 : o2) (x1 : o2) {K : Bool → Hp → Prop} (I : Inv w0 ps0 H0 H [] w) (hR : ∀ (r0 : Bool) (H' : Hp) (w' : World) (_ : Inv w0 ps0 H0 H' [] w') (_ : K r0 H'), R (vB r0) w') (h : U0 x0 x1 H K) : F20 (Value.agg (d7 x0).toArray) (Value.agg (d7 x1).toArray) w R E := by
 unfold U0 at h
 unfold F20
 refine O4 I (cs := (d7 x0)) rfl fun g_2 w_3 I_4 k_5 => ?_
 refine O4 I_4 (cs := (d7 x1)) rfl fun g_7 w_8 I_9 d5O => ?_
 refine a7 a4c ?_
 refine b6 (ld1 Tryd.isAgg3 ((I_9.bring 1).at1 (o := 0) (vs := [(vi x0.q8)]) (nb rfl) rfl)) ?_
 refine a7 a4c ?_
 refine b6 (ld1 Tryd.isAgg3 (I_9.at1 (o := 0) (vs := [(vi x1.q8)]) (nb rfl) rfl)) ?_
 refine a7 (N4 _ _ _ _ _ _) ?_
 refine a7 (Pu.g fun hb => by have b7 := hb; exact b1V) ?_
 refine b6 (Ld.g fun hb => by have b7 := hb; simp only [l9 b7]; exact (ld1 Tryd.isAgg3 ((I_9.bring 1).at1 (o := 1) (vs := [(vi x0.O0)]) (nb rfl) rfl))) ?_
 refine a7 (Pu.g fun hb => by have b7 := hb; exact b1V) ?_
 refine b6 (Ld.g fun hb => by have b7 := hb; simp only [l9 b7]; exact (ld1 Tryd.isAgg3 (I_9.at1 (o := 1) (vs := [(vi x1.O0)]) (nb rfl) rfl))) ?_
 refine a7 (Pu.g fun hb => by have b7 := hb; simp only [l9 b7]; exact (N4 _ _ _ _ _ _)) ?_
 refine a7 (Q5 _ _) ?_
 refine a7 (Pu.g fun hb => by have b7 := hb; exact a1d) ?_
 refine b6 (Ld.g fun hb => by have b7 := hb; simp only [l9 b7]; exact (ld1 Tryd.isAgg3 ((I_9.bring 1).at1 (o := 2) (vs := [(vi x0.q9)]) (nb rfl) rfl))) ?_
 refine a7 (Pu.g fun hb => by have b7 := hb; exact a1d) ?_
 refine b6 (Ld.g fun hb => by have b7 := hb; simp only [l9 b7]; exact (ld1 Tryd.isAgg3 (I_9.at1 (o := 2) (vs := [(vi x1.q9)]) (nb rfl) rfl))) ?_
 refine a7 (Pu.g fun hb => by have b7 := hb; simp only [l9 b7]; exact (N4 _ _ _ _ _ _)) ?_
 refine a7 (Q5 _ _) ?_
 refine a7 (Pu.g fun hb => by have b7 := hb; exact a0D) ?_
 refine b6 (Ld.g fun hb => by have b7 := hb; simp only [l9 b7]; exact (ld1 Tryd.isAgg46 ((I_9.bring 1).at1 (o := 3) (vs := [(vs x0.v6)]) (nb rfl) rfl))) ?_
 refine a7 (Pu.g fun hb => by have b7 := hb; simp only [l9 b7]; exact (a3M _ _ _)) ?_
 refine a7 (Pu.g fun hb => by have b7 := hb; exact a0D) ?_
 refine b6 (Ld.g fun hb => by have b7 := hb; simp only [l9 b7]; exact (ld1 Tryd.isAgg46 (I_9.at1 (o := 3) (vs := [(vs x1.v6)]) (nb rfl) rfl))) ?_
 refine a7 (Pu.g fun hb => by have b7 := hb; simp only [l9 b7]; exact (a3M _ _ _)) ?_
 refine a7 (Pu.g fun hb => by have b7 := hb; simp only [l9 b7]; exact (N4 _ _ _ _ _ _)) ?_
 refine a7 (Q5 _ _) ?_
 refine a7 (Pu.g fun hb => by have b7 := hb; exact a4d) ?_
 refine b6 (Ld.g fun hb => by have b7 := hb; simp only [l9 b7]; exact (ld1 Tryd.isAgg45 ((I_9.bring 1).at1 (o := 4) (vs := [(vs x0.a1Z)]) (nb rfl) rfl))) ?_
 refine a7 (Pu.g fun hb => by have b7 := hb; exact a4d) ?_
 refine b6 (Ld.g fun hb => by have b7 := hb; simp only [l9 b7]; exact (ld1 Tryd.isAgg45 (I_9.at1 (o := 4) (vs := [(vs x1.a1Z)]) (nb rfl) rfl))) ?_
 refine a3y (D := fun d9h o8 => ∃ (a8e : Bool) (a7E : Hp) , d9h = (gv ((((!decide (x0.q8 = x1.q8)) || (!decide (x0.O0 = x1.O0))) || (!decide (x0.q9 = x1.q9))) || (!decide ((x0.v6.n : Int) = (x1.v6.n : Int)))) false (vB a8e)) ∧ (Inv w0 ps0 H0 a7E [bx g_7 49 (d7 x1), bx g_2 49 (d7 x0)] o8) ∧ (∀ i, i < w_8.heap.size → ¬ inF [] i → o8.heap[i]? = w_8.heap[i]?) ∧ Hle H a7E ∧ ((((((((!decide (x0.q8 = x1.q8)) || (!decide (x0.O0 = x1.O0))) || (!decide (x0.q9 = x1.q9))) || (!decide ((x0.v6.n : Int) = (x1.v6.n : Int)))) || (!a8e)) || (!decide ((x0.J8.n : Int) = (x1.J8.n : Int)))) = true →
 K false a7E) ∧
 (((((((!decide (x0.q8 = x1.q8)) || (!decide (x0.O0 = x1.O0))) || (!decide (x0.q9 = x1.q9))) || (!decide ((x0.v6.n : Int) = (x1.v6.n : Int)))) || (!a8e)) || (!decide ((x0.J8.n : Int) = (x1.J8.n : Int)))) = false →
 TL (0 : Int) a7E fun (s : Int) H n4 => L8 x1 x0 s H n4 K))) (fun a9k => ?_) (fun a9k => ?_) ?_
 ·replace h := h.1 a9k
  have b7 := a9k
  simp only [l9 b7]
  refine d5 (cap := []) (fun args w => Tryd.call46 args w) ?_
  refine m8 (Fi := []) (Fr := [bx g_7 49 (d7 x1), bx g_2 49 (d7 x0)]) I_9 (h) (fun d9h a7E f9i o8 b3h f9j d0U g6m => ?_) (fun _ _ _ _ _ q => q.elim)
  obtain ⟨a8e, rfl, rfl, h⟩ := g6m
  exact ⟨a8e, a7E, by rfl, b3h, d0U, f9j, h⟩
 ·exact ⟨false, H, by rw [a6p a9k], I_9, fun _ _ _ => rfl, Hle.refl _, h.2 a9k⟩
 ·clear h
  rintro d9h o8 ⟨a8e, a7E, rfl, b3h, d0U, f9j, h⟩
  refine a7 (Pu.g fun hb => by have b7 := hb; simp only [l9 b7]; exact (V5 _)) ?_
  refine a7 (Q5 _ _) ?_
  refine a7 (Pu.g fun hb => by have b7 := hb; exact a2U) ?_
  refine b6 (Ld.g fun hb => by have b7 := hb; simp only [l9 b7]; exact (ld1 Tryd.isAgg47 ((b3h.bring 1).at1 (o := 5) (vs := [(vs x0.J8)]) (nb rfl) rfl))) ?_
  refine a7 (Pu.g fun hb => by have b7 := hb; simp only [l9 b7]; exact (b3H _ _ _)) ?_
  refine a7 (Pu.g fun hb => by have b7 := hb; exact a2U) ?_
  refine b6 (Ld.g fun hb => by have b7 := hb; simp only [l9 b7]; exact (ld1 Tryd.isAgg47 (b3h.at1 (o := 5) (vs := [(vs x1.J8)]) (nb rfl) rfl))) ?_
  refine a7 (Pu.g fun hb => by have b7 := hb; simp only [l9 b7]; exact (b3H _ _ _)) ?_
  refine a7 (Pu.g fun hb => by have b7 := hb; simp only [l9 b7]; exact (N4 _ _ _ _ _ _)) ?_
  refine a7 (Q5 _ _) ?_
  refine o4 (fun a9l => ?_) (fun a9l => ?_)
  ·replace h := h.1 a9l
   exact hR false a7E _ b3h.drop.drop h
  ·replace h := h.2 a9l
   have hj1 : ∀ (H : Hp) (w : World) (_ : Inv w0 ps0 H0 H [bx g_7 49 (d7 x1), bx g_2 49 (d7 x0)] w) (_ : R0 x1 x0 H K), c6a (Value.pointer (some ⟨g_2, 0, none⟩)) (Value.pointer (some ⟨g_7, 0, none⟩)) w R E := by
    intro H w I h
    unfold c6a
    intro _
    unfold R0 at h
    have hj2 : ∀ (H : Hp) (w : World) (_ : Inv w0 ps0 H0 H [bx g_7 49 (d7 x1), bx g_2 49 (d7 x0)] w) (_ : Y6 x1 x0 H K), c5Z w R E := by
     intro H w I h
     unfold c5Z
     intro _
     unfold Y6 at h
     exact hR true H _ I.drop.drop h
    refine u7 fun j2 hx2 => ?_
    obtain ⟨d9i, c6t, g6n, g6o⟩ := h
    refine H7 (J := fun n l w => ∃ (s : Int) (H : Hp) , n = c6t s ∧ l = [(vi s)] ∧ Inv w0 ps0 H0 H [bx g_7 49 (d7 x1), bx g_2 49 (d7 x0)] w ∧ d9i s H) ⟨_, 0, H, rfl, rfl, ((I.bring 1).bring 1), g6n⟩ ?_
    rintro h0q τ_69 w next3 ⟨a5u, H, rfl, c4v, I, g6p⟩ hn3
    simp only [List.map_cons, List.map_nil, List.cons.injEq, and_true] at c4v
    have e6 := c4v
    simp only [e6]
    obtain ⟨n3, hm3, h⟩ : ∃ n3 : Int → Hp → Prop, (∀ s' H', n3 s' H' → d9i s' H' ∧ c6t s' < c6t a5u) ∧ Q9 x1 x0 a5u H n3 K := ⟨_, fun _ _ h => h, g6o a5u H (fun s' H' => d9i s' H' ∧ c6t s' < c6t a5u) g6p (fun _ _ a b => ⟨a, b⟩)⟩
    unfold d3R
    unfold Q9 at h
    refine a7 a2U ?_
    refine b6 (ld1 Tryd.isAgg47 ((I.bring 1).at1 (o := 5) (vs := [(vs x0.J8)]) (nb rfl) rfl)) ?_
    refine a7 (b3H _ _ _) ?_
    refine a7 (A7 _ _ _ _ _ _) ?_
    refine i5 (fun b7a => ?_) (fun b7a => ?_)
    ·replace h := h.1 b7a
     refine V2 I fun c9w b6N => ?_
     refine i8 a2U ?_
     refine i8 a2U ?_
     refine r5 (ld1 Tryd.isAgg47 ((b6N.bring 1).at1 (o := 5) (vs := [(vs x0.J8)]) (nb rfl) rfl)) ?_
     obtain ⟨a6C, a7y, a0U, c0W, h⟩ := h
     obtain ⟨g6q, h0r, g6r, c0W⟩ := c0W
     refine i8 (c2J g6r _ _ _ _ a6C a7y) ?_
     refine r5 (ld1 (v := (vs a0U)) Tryd.isAgg45 (b6N.atH c0W)) ?_
     refine r5 (ld1 Tryd.isAgg47 (b6N.at1 (o := 5) (vs := [(vs x1.J8)]) (nb rfl) rfl)) ?_
     obtain ⟨g6s, d9j, d0S, c4q, h⟩ := h
     obtain ⟨g6t, h0t, c4p, c4q⟩ := c4q
     refine i8 (c2J c4p _ _ _ _ g6s d9j) ?_
     refine r5 (ld1 (v := (vs d0S)) Tryd.isAgg45 (b6N.atH c4q)) ?_
     refine d5 (cap := []) (fun args w => Tryd.call46 args w) ?_
     refine m8 (Fi := []) (Fr := [bx g_7 49 (d7 x1), bx g_2 49 (d7 x0)]) b6N (h) (fun h0u c6r h0v M0 f9k h0w h0x g6u => ?_) (fun _ _ _ _ _ q => q.elim)
     obtain ⟨d0T, rfl, rfl, h⟩ := g6u
     refine i8 (V5 _) ?_
     refine o4 (fun b7b => ?_) (fun b7b => ?_)
     ·replace h := h.1 b7b
      exact hR false c6r _ f9k.drop.drop h
     ·replace h := h.2 b7b
      refine a7 (C6 _ _ _ _ _ _) ?_
      exact hn3 _ _ _ (hm3 _ _ h).2 ⟨(IntKind.wrap .i64 (a5u + 1)), c6r, rfl, rfl, ((f9k.bring 1).bring 1), (hm3 _ _ h).1⟩
    ·replace h := h.2 b7a
     exact hx2 _ _ (hj2 H _ ((I.bring 1).bring 1) h)
   refine u7 fun j1 hx1 => ?_
   obtain ⟨d9k, c6u, g6v, g6w⟩ := h
   refine H7 (J := fun n l w => ∃ (s : Int) (H : Hp) , n = c6u s ∧ l = [(vi s)] ∧ Inv w0 ps0 H0 H [bx g_7 49 (d7 x1), bx g_2 49 (d7 x0)] w ∧ d9k s H) ⟨_, 0, a7E, rfl, rfl, ((b3h.bring 1).bring 1), g6v⟩ ?_
   rintro h0y τ_78 w next4 ⟨a5v, H, rfl, b6H, I, g6x⟩ hn4
   simp only [List.map_cons, List.map_nil, List.cons.injEq, and_true] at b6H
   have e5 := b6H
   simp only [e5]
   obtain ⟨n4, hm4, h⟩ : ∃ n4 : Int → Hp → Prop, (∀ s' H', n4 s' H' → d9k s' H' ∧ c6u s' < c6u a5v) ∧ L8 x1 x0 a5v H n4 K := ⟨_, fun _ _ h => h, g6w a5v H (fun s' H' => d9k s' H' ∧ c6u s' < c6u a5v) g6x (fun _ _ a b => ⟨a, b⟩)⟩
   unfold d3V
   unfold L8 at h
   refine a7 a0D ?_
   refine b6 (ld1 Tryd.isAgg46 ((I.bring 1).at1 (o := 3) (vs := [(vs x0.v6)]) (nb rfl) rfl)) ?_
   refine a7 (a3M _ _ _) ?_
   refine a7 (A7 _ _ _ _ _ _) ?_
   refine i5 (fun b7g => ?_) (fun b7g => ?_)
   ·replace h := h.1 b7g
    refine V2 I fun q7 a4G => ?_
    refine i8 a0D ?_
    refine i8 a0D ?_
    refine r5 (ld1 Tryd.isAgg46 ((a4G.bring 1).at1 (o := 3) (vs := [(vs x0.v6)]) (nb rfl) rfl)) ?_
    obtain ⟨b7j, d7i, b3f, c4R, h⟩ := h
    obtain ⟨h0z, h0A, c4Q, c4R⟩ := c4R
    refine i8 (a6q c4Q _ _ _ _ b7j d7i) ?_
    refine r5 (ldA (vs := (B3 b3f)) Tryd.isAgg55 Tryd.sizeOf55 rfl (a4G.atH c4R)) ?_
    refine r5 (ld1 Tryd.isAgg46 (a4G.at1 (o := 3) (vs := [(vs x1.v6)]) (nb rfl) rfl)) ?_
    obtain ⟨d6O, d9l, b3g, a6z, h⟩ := h
    obtain ⟨h0B, h0C, c4B, a6z⟩ := a6z
    refine i8 (a6q c4B _ _ _ _ d6O d9l) ?_
    refine r5 (ldA (vs := (B3 b3g)) Tryd.isAgg55 Tryd.sizeOf55 rfl (a4G.atH a6z)) ?_
    refine i8 (c2K _ _ _ _ _ _ _ _) ?_
    refine a1W (fun d9m => ?_) (fun d9m => ?_)
    ·replace h := h.1 d9m
     exact hR false H _ a4G.drop.drop h
    ·replace h := h.2 d9m
     refine a7 (C6 _ _ _ _ _ _) ?_
     exact hn4 _ _ _ (hm4 _ _ h).2 ⟨(IntKind.wrap .i64 (a5v + 1)), H, rfl, rfl, ((a4G.bring 1).bring 1), (hm4 _ _ h).1⟩
   ·replace h := h.2 b7g
    exact hx1 _ _ (hj1 H _ ((I.bring 1).bring 1) h)
theorem a7p (x0 : o2) (x1 : o2) {H : Hp} {K : Bool → Hp → Prop} (h : U0 x0 x1 H K) : O1 x0 x1 H K := by
 intro w I
 refine f6O ?_
 refine a6M x0 x1 I (fun r0 H' w' I' hk => ⟨H', _, I', r0, rfl, rfl, hk⟩) h
def W4 (H : Hp) (K : Bool → Hp → Prop) : Prop :=
 ∀ (s_2 : Sl) (b3i : Hp), Hle H b3i → SlH b3i 4 d9 s_2 [(l7.mk 2 0 ⟨#[120]⟩ (Sl.mk none 0 0)), (l7.mk 1 2 ⟨#[]⟩ (Sl.mk none 0 0))] → s_2.n ≤ s_2.c →
 ∀ (b7C : Sl) (c6v : Hp), Hle b3i c6v → SlH c6v 4 d9 b7C [(l7.mk 1 1 ⟨#[]⟩ (Sl.mk none 0 0))] → b7C.n ≤ b7C.c →
 ∀ (b7D : Sl) (b2E : Hp), Hle c6v b2E → SlH b2E 4 d9 b7D [(l7.mk 6 0 ⟨#[]⟩ s_2)] → b7D.n ≤ b7D.c →
 ∀ (a7B : Sl) (c6w : Hp), Hle b2E c6w → SlH c6w 2 m7 a7B [(j9.mk ⟨#[120]⟩ 0)] → a7B.n ≤ a7B.c →
 ∀ (a9p : Sl) (a2q : Hp), Hle c6w a2q → SlH a2q 6 g7 a9p [(r6.mk 1 ⟨#[120]⟩ b7C (Sl.mk none 0 0) (Sl.mk none 0 0) (Sl.mk none 0 0)), (r6.mk 1 ⟨#[120]⟩ b7D (Sl.mk none 0 0) (Sl.mk none 0 0) (Sl.mk none 0 0))] → a9p.n ≤ a9p.c →
 a1F (r9.mk a7B a9p) (Sl.mk none 0 0) 9 a2q (fun (a1O : o2) (b9k : Int) (d0V : Hp) =>
 ∃ c6x : Int, (((((decide (b9k = 0)) && (decide (a1O.q8 = 2))) && (decide (a1O.q9 = 2))) && (decide ((a1O.a1Z.n : Int) = 1))) = true → (0 : Int) ≤ 0 ∧ (0 : Int) < a1O.a1Z.n ∧ EltH d0V a1O.a1Z 0 1 [(vi c6x)]) ∧
 K (((((decide (b9k = 0)) && (decide (a1O.q8 = 2))) && (decide (a1O.q9 = 2))) && (decide ((a1O.a1Z.n : Int) = 1))) && (decide (c6x = 3))) d0V)
theorem a7F {K : Bool → Hp → Prop} (I : Inv w0 ps0 H0 H [] w) (hR : ∀ (r0 : Bool) (H' : Hp) (w' : World) (_ : Inv w0 ps0 H0 H' [] w') (_ : K r0 H'), R (vB r0) w') (h : W4 H K) : F17 w R E := by
 unfold W4 at h
 unfold F17
 refine a7 (c1P _ _) ?_
 refine a7 (b3t _ _) ?_
 refine a1Q (e := 24) (c := d9) (xs := [(l7.mk 2 0 ⟨#[120]⟩ (Sl.mk none 0 0)), (l7.mk 1 2 ⟨#[]⟩ (Sl.mk none 0 0))]) I (e1y _ _ _ _ _ _ _ _ _ _ _ _) rfl rfl a7v a7w (nb rfl) fun s_2 F_3 w_4 h_5 I_6 k_7 => ?_
 refine a7 (c1O _ _ _ _) ?_
 refine C2 I_6 Tryd.zeroValue24 (cs := [(vi 0), (vi 0), (eS), (nS)]) rfl fun g_9 o0 a5j c0r => ?_
 refine o9 a5j Tryd.sizeOf24 (vs := [(vi 6), (vi 0), (eS), (vs s_2)]) (cs' := [(vi 6), (vi 0), (eS), (vs s_2)]) rfl rfl (nb rfl) rfl rfl fun T6 Y0 a3g => ?_
 refine a7 (c7j _) ?_
 refine a1Q (e := 58) (c := m7) (xs := [(j9.mk ⟨#[120]⟩ 0)]) Y0 (e1x _ _) rfl rfl c1J c1K (nb rfl) fun a7B h0D a5U g6y a4G c9r => ?_
 refine a7 (b3t _ _) ?_
 refine a1Q (e := 24) (c := d9) (xs := [(l7.mk 1 1 ⟨#[]⟩ (Sl.mk none 0 0))]) a4G (c7C _ _ _ _ _ _) rfl rfl a7v a7w (nb rfl) fun b7C h0E A6 c4Q b2n f1Z => ?_
 refine a7 (b0j _ _ _ _ _) ?_
 refine b6 (ldA Tryd.isAgg24 Tryd.sizeOf24 rfl ((b2n.bring 2).at1 (o := 0) (vs := [(vi 6), (vi 0), (eS), (vs s_2)]) (nb rfl) rfl)) ?_
 obtain ⟨b3i, b6L, f1O, d9l, c4B⟩ := Inv.freezeC (b2n.bring 3) h_5 (by decide)
 replace h := h s_2 b3i f1O d9l c4B
 refine a1Q (e := 24) (c := d9) (xs := [(l7.mk 6 0 ⟨#[]⟩ s_2)]) b6L (c7C _ _ _ _ _ _) rfl rfl a7v a7w (nb rfl) fun b7D g6z E1 d6H a6B f1G => ?_
 refine a7 (b0j _ _ _ _ _) ?_
 obtain ⟨c6v, g6A, g6B, c0W, g6C⟩ := Inv.freezeC (a6B.bring 1) c4Q (by decide)
 replace h := h b7C c6v g6B c0W g6C
 obtain ⟨b2E, g6D, g6E, d9j, c4p⟩ := Inv.freezeC g6A d6H (by decide)
 replace h := h b7D b2E g6E d9j c4p
 refine a1Q (e := 63) (c := g7) (xs := [(r6.mk 1 ⟨#[120]⟩ b7C (Sl.mk none 0 0) (Sl.mk none 0 0) (Sl.mk none 0 0)), (r6.mk 1 ⟨#[120]⟩ b7D (Sl.mk none 0 0) (Sl.mk none 0 0) (Sl.mk none 0 0))]) g6D (e1z _ _ _ _ _ _ _ _ _ _ _ _ _ _ _ _ _ _ _ _ _ _ _ _ _ _ _ _) rfl rfl c1L c1M (nb rfl) fun a9p f1S b2H d6C c9N g5D => ?_
 refine a7 (c1N _ _ _ _ _ _) ?_
 refine C2 c9N Tryd.zeroValue44 (cs := [(nS), (nS)]) rfl fun g6F d6E g6G h0F => ?_
 refine o9 g6G Tryd.sizeOf44 (vs := [(vs a7B), (vs a9p)]) (cs' := [(vs a7B), (vs a9p)]) rfl rfl (nb rfl) rfl rfl fun N6 f9l h0G => ?_
 refine b6 (ldA Tryd.isAgg44 Tryd.sizeOf44 rfl (f9l.at1 (o := 0) (vs := [(vs a7B), (vs a9p)]) (nb rfl) rfl)) ?_
 obtain ⟨c6w, b4v, g6H, d0W, d0X⟩ := Inv.freezeC (f9l.bring 2) g6y (by decide)
 replace h := h a7B c6w g6H d0W d0X
 obtain ⟨a2q, d9n, g6I, g6J, g6K⟩ := Inv.freezeC (b4v.bring 1) d6C (by decide)
 replace h := h a9p a2q g6I g6J g6K
 refine d5 (cap := []) (fun args w => Tryd.call18 args w) ?_
 refine m8 (Fi := []) (Fr := [bx g6F 44 [(vs a7B), (vs a9p)], bx g_9 24 [(vi 6), (vi 0), (eS), (vs s_2)]]) d9n (h) (fun h0H d0V h0I N8 g6L h0J h0K g6M => ?_) (fun _ _ _ _ _ q => q.elim)
 obtain ⟨a1O, b9k, rfl, rfl, h⟩ := g6M
 refine a7 (m3 _ _ _ rfl) ?_
 refine a7 (m3 _ _ (vi b9k) rfl) ?_
 refine C2 g6L Tryd.zeroValue49 (cs := [(vi 0), (vi 0), (vi 0), (nS), (nS), (nS)]) rfl fun h0L N9 g6N h0M => ?_
 refine o9 g6N Tryd.sizeOf49 (vs := (d7 a1O)) (cs' := (d7 a1O)) rfl rfl (nb rfl) rfl rfl fun b4O a9O h0N => ?_
 refine a7 (j8 _ _ _ _ _ _) ?_
 refine a7 (Pu.g fun hb => by have b7 := hb; exact a4c) ?_
 refine b6 (Ld.g fun hb => by have b7 := hb; simp only [l9 b7]; exact (ld1 Tryd.isAgg3 (a9O.at1 (o := 0) (vs := [(vi a1O.q8)]) (nb rfl) rfl))) ?_
 refine a7 (Pu.g fun hb => by have b7 := hb; simp only [l9 b7]; exact (j8 _ _ _ _ _ _)) ?_
 refine a7 (N0 _ _) ?_
 refine a7 (Pu.g fun hb => by have b7 := hb; exact a1d) ?_
 refine b6 (Ld.g fun hb => by have b7 := hb; simp only [l9 b7]; exact (ld1 Tryd.isAgg3 (a9O.at1 (o := 2) (vs := [(vi a1O.q9)]) (nb rfl) rfl))) ?_
 refine a7 (Pu.g fun hb => by have b7 := hb; simp only [l9 b7]; exact (j8 _ _ _ _ _ _)) ?_
 refine a7 (N0 _ _) ?_
 refine a7 (Pu.g fun hb => by have b7 := hb; exact a4d) ?_
 refine b6 (Ld.g fun hb => by have b7 := hb; simp only [l9 b7]; exact (ld1 Tryd.isAgg45 (a9O.at1 (o := 4) (vs := [(vs a1O.a1Z)]) (nb rfl) rfl))) ?_
 refine a7 (Pu.g fun hb => by have b7 := hb; simp only [l9 b7]; exact (a1v _ _ _)) ?_
 refine a7 (Pu.g fun hb => by have b7 := hb; simp only [l9 b7]; exact (j8 _ _ _ _ _ _)) ?_
 refine a7 (N0 _ _) ?_
 refine a7 (Pu.g fun hb => by have b7 := hb; exact a4d) ?_
 refine b6 (Ld.g fun hb => by have b7 := hb; simp only [l9 b7]; exact (ld1 Tryd.isAgg45 (a9O.at1 (o := 4) (vs := [(vs a1O.a1Z)]) (nb rfl) rfl))) ?_
 obtain ⟨c6x, b5U, h⟩ := h
 obtain ⟨h0O, h0P, b5U⟩ := c8H b5U
 refine a7 (Pu.g fun hb => by have b7 := hb; simp only [l9 b7]; exact (O7 (b5U hb).2.2.1 _ _ _ _ (b5U hb).1 (b5U hb).2.1)) ?_
 refine b6 (Ld.g fun hb => by have b7 := hb; simp only [l9 b7]; exact (ld1 (v := (vi c6x)) Tryd.isAgg2 (a9O.atH (b5U hb).2.2.2))) ?_
 refine a7 (Pu.g fun hb => by have b7 := hb; simp only [l9 b7]; exact (j8 _ _ _ _ _ _)) ?_
 refine a7 (N0 _ _) ?_
 exact hR (((((decide (b9k = 0)) && (decide (a1O.q8 = 2))) && (decide (a1O.q9 = 2))) && (decide ((a1O.a1Z.n : Int) = 1))) && (decide (c6x = 3))) d0V _ a9O.drop.drop.drop h
theorem a8f {H : Hp} {K : Bool → Hp → Prop} (h : W4 H K) : a1k H K := by
 intro w I
 refine f5P ?_
 refine a7F I (fun r0 H' w' I' hk => ⟨H', _, I', r0, rfl, rfl, hk⟩) h
def R4 (H : Hp) (K : Bool → Hp → Prop) : Prop :=
 K true H
def R5 (b7z : Sl) (a1U : Sl) (T7 : Int) (H : Hp) (n2 : Int → Hp → Prop) (K : Bool → Hp → Prop) : Prop :=
 (T7 < (a1U.n : Int) →
 (0 : Int) ≤ T7 ∧ (T7 : Int) < b7z.n ∧ ∃ x_3 : F7, EltH H b7z T7 3 (B3 x_3) ∧
 (0 : Int) ≤ T7 ∧ (T7 : Int) < a1U.n ∧ ∃ a5t : F7, EltH H a1U T7 3 (B3 a5t) ∧
 (¬ (x_3.a0Z = a5t.a0Z ∧ x_3.C4 = a5t.C4 ∧ x_3.a7M = a5t.a7M) →
 K false H) ∧
 (x_3.a0Z = a5t.a0Z ∧ x_3.C4 = a5t.C4 ∧ x_3.a7M = a5t.a7M →
 n2 (IntKind.wrap .i64 (T7 + 1)) H)) ∧
 (¬ (T7 < (a1U.n : Int)) →
 R4 H K)
def V0 (x0 : Sl) (x1 : Sl) (H : Hp) (K : Bool → Hp → Prop) : Prop :=
 ((x0.n : Int) < (x1.n : Int) →
 K false H) ∧
 (¬ ((x0.n : Int) < (x1.n : Int)) →
 TL (0 : Int) H fun (s : Int) H n2 => R5 x0 x1 s H n2 K)
theorem a7q (x0 : Sl) (x1 : Sl) {K : Bool → Hp → Prop} (I : Inv w0 ps0 H0 H [] w) (hR : ∀ (r0 : Bool) (H' : Hp) (w' : World) (_ : Inv w0 ps0 H0 H' [] w') (_ : K r0 H'), R (vB r0) w') (h : V0 x0 x1 H K) : F19 (vs x0) (vs x1) w R E := by
 unfold V0 at h
 unfold F19
 refine a7 (a3M _ _ _) ?_
 refine a7 (a3M _ _ _) ?_
 refine a7 (A7 _ _ _ _ _ _) ?_
 refine i5 (fun b7A => ?_) (fun b7A => ?_)
 ·replace h := h.1 b7A
  exact hR false H _ I h
 ·replace h := h.2 b7A
  have hj1 : ∀ (H : Hp) (w : World) (_ : Inv w0 ps0 H0 H [] w) (_ : R4 H K), c5V w R E := by
   intro H w I h
   unfold c5V
   intro _
   unfold R4 at h
   exact hR true H _ I h
  refine u7 fun j1 hx1 => ?_
  obtain ⟨b7B, a9M, d9c, d9d⟩ := h
  refine H7 (J := fun n l w => ∃ (s : Int) (H : Hp) , n = a9M s ∧ l = [(vi s)] ∧ Inv w0 ps0 H0 H [] w ∧ b7B s H) ⟨_, 0, H, rfl, rfl, I, d9c⟩ ?_
  rintro g6j τ_24 w next2 ⟨T7, H, rfl, c6p, I, b2x⟩ hn2
  simp only [List.map_cons, List.map_nil, List.cons.injEq, and_true] at c6p
  have e5 := c6p
  simp only [e5]
  obtain ⟨n2, hm2, h⟩ : ∃ n2 : Int → Hp → Prop, (∀ s' H', n2 s' H' → b7B s' H' ∧ a9M s' < a9M T7) ∧ R5 x0 x1 T7 H n2 K := ⟨_, fun _ _ h => h, d9d T7 H (fun s' H' => b7B s' H' ∧ a9M s' < a9M T7) b2x (fun _ _ a b => ⟨a, b⟩)⟩
  unfold d3Q
  unfold R5 at h
  refine a7 (a3M _ _ _) ?_
  refine a7 (A7 _ _ _ _ _ _) ?_
  refine i5 (fun a3h => ?_) (fun a3h => ?_)
  ·replace h := h.1 a3h
   refine V2 I fun w_1 I_2 => ?_
   obtain ⟨h_6, h_7, x_3, h_9, h⟩ := h
   obtain ⟨g_4, o_5, h_8, h_9⟩ := h_9
   refine i8 (a6q h_8 _ _ _ _ h_6 h_7) ?_
   obtain ⟨d9e, d9f, a5t, b3e, h⟩ := h
   obtain ⟨g6k, g6l, d9g, b3e⟩ := b3e
   refine i8 (a6q d9g _ _ _ _ d9e d9f) ?_
   refine r5 (ldA (vs := (B3 x_3)) Tryd.isAgg55 Tryd.sizeOf55 rfl (I_2.atH h_9)) ?_
   refine r5 (ldA (vs := (B3 a5t)) Tryd.isAgg55 Tryd.sizeOf55 rfl (I_2.atH b3e)) ?_
   refine i8 (c2K _ _ _ _ _ _ _ _) ?_
   refine a1W (fun a3i => ?_) (fun a3i => ?_)
   ·replace h := h.1 a3i
    exact hR false H _ I_2 h
   ·replace h := h.2 a3i
    refine a7 (C6 _ _ _ _ _ _) ?_
    exact hn2 _ _ _ (hm2 _ _ h).2 ⟨(IntKind.wrap .i64 (T7 + 1)), H, rfl, rfl, I_2, (hm2 _ _ h).1⟩
  ·replace h := h.2 a3h
   exact hx1 _ _ (hj1 H _ I h)
theorem a7G (x0 : Sl) (x1 : Sl) {H : Hp} {K : Bool → Hp → Prop} (h : V0 x0 x1 H K) : a0R x0 x1 H K := by
 intro w I
 refine f6s ?_
 refine a7q x0 x1 I (fun r0 H' w' I' hk => ⟨H', _, I', r0, rfl, rfl, hk⟩) h
def J9 (h0Q : Sl) (h0R : Int) (f1J : Int) (b5V : Int) (g2N : Int) (g7E : o2) (g7F : o2) (a0N : r9) (H : Hp) (n2 : (Int × Int) → Hp → Prop) (K : Bool → Hp → Prop) : Prop :=
 n2 (b5V, (IntKind.wrap .i64 (g2N + 1))) H
def T1 (c4O : Sl) (b4s : Int) (a8Z : Int) (b5W : Int) (g7G : o2) (e6K : o2) (D2 : r9) (H : Hp) (K : Bool → Hp → Prop) : Prop :=
 (b5W = (c4O.n : Int) →
 K true H) ∧
 (¬ (b5W = (c4O.n : Int)) →
 ∃ a7r : List Int, SlH H 1 a5c c4O a7r ∧ (([] : List Int).length + a7r.length) * 9 ≤ 140737488355328 ∧
 (0 : Int) ≤ IntKind.wrap .i64 ((a7r.length : Int) - 1) ∧ ∃ e0L : Int, (a7r)[(IntKind.wrap .i64 ((a7r.length : Int) - 1) : Int).toNat]? = some e0L ∧
 ∀ (c0X : Sl) (b9l : Hp), Hle H b9l → SlH b9l 1 a5c c0X ((a7r).set (IntKind.wrap .i64 ((a7r.length : Int) - 1) : Int).toNat a8Z) → c0X.n ≤ c0X.c →
 a1F D2 c0X b4s b9l (fun (a9P : o2) (a9Q : Int) (b9m : Hp) =>
 TG ((decide (a9Q = 0)) = true) (O1 e6K a9P b9m) false b9m (fun (a7s : Bool) (a8g : Hp) =>
 K ((decide (a9Q = 0)) && a7s) a8g)))
def K0 (a1U : Sl) (a4I : Int) (d9o : Int) (c0Y : o2) (a6N : o2) (a6k : r9) (a0J : Int) (a1u : Int) (H : Hp) (n2 : (Int × Int) → Hp → Prop) (K : Bool → Hp → Prop) : Prop :=
 (a1u < (a6N.v6.n : Int) →
 (0 : Int) ≤ a1u ∧ (a1u : Int) < a6N.v6.n ∧ ∃ b4Z : F7, EltH H a6N.v6 a1u 3 (B3 b4Z) ∧
 (b4Z.a0Z = true →
 ∃ c6y : Int, ((decide ((a1U.n : Int) ≤ a0J)) = false → (0 : Int) ≤ a0J ∧ (a0J : Int) < a1U.n ∧ EltH H a1U a0J 1 [(vi c6y)]) ∧
 (((decide ((a1U.n : Int) ≤ a0J)) || (!decide (b4Z.C4 = c6y))) = true →
 K false H) ∧
 (((decide ((a1U.n : Int) ≤ a0J)) || (!decide (b4Z.C4 = c6y))) = false →
 J9 a1U a4I d9o (IntKind.wrap .i64 (a0J + 1)) a1u c0Y a6N a6k H n2 K)) ∧
 (b4Z.a0Z = false →
 J9 a1U a4I d9o a0J a1u c0Y a6N a6k H n2 K)) ∧
 (¬ (a1u < (a6N.v6.n : Int)) →
 T1 a1U a4I d9o a0J c0Y a6N a6k H K)
def W5 (x0 : r9) (x1 : Sl) (x2 : Int) (x3 : Int) (H : Hp) (K : Bool → Hp → Prop) : Prop :=
 a1k H (fun (U8 : Bool) (H_6 : Hp) =>
 ((!U8) = true →
 K false H_6) ∧
 ((!U8) = false →
 ((((decide (x2 < 0)) || (decide (2000 < x2))) || (decide (2000 < (x1.n : Int)))) = true →
 K true H_6) ∧
 ((((decide (x2 < 0)) || (decide (2000 < x2))) || (decide (2000 < (x1.n : Int)))) = false →
 a1F x0 x1 x2 H_6 (fun (o3 : o2) (a6l : Int) (b7E : Hp) =>
 a1F x0 x1 (IntKind.wrap .i64 (x2 + 1)) b7E (fun (M9 : o2) (a7d : Int) (a6g : Hp) =>
 (¬ (a6l = 0) →
 K (decide (a6l = a7d)) a6g) ∧
 (a6l = 0 →
 TG ((!decide (a7d = 0)) = false) (a0R M9.v6 o3.v6 a6g) false a6g (fun (a8h : Bool) (a5w : Hp) =>
 ((((((!decide (a7d = 0)) || (!a8h)) || (decide (M9.q9 < o3.q9))) || (decide ((IntKind.wrap .i64 (o3.q9 + 1)) < M9.q9))) || (decide (x2 < o3.q9))) = true →
 K false a5w) ∧
 ((((((!decide (a7d = 0)) || (!a8h)) || (decide (M9.q9 < o3.q9))) || (decide ((IntKind.wrap .i64 (o3.q9 + 1)) < M9.q9))) || (decide (x2 < o3.q9))) = false →
 TG ((!decide (o3.q8 = 1)) = true) (O1 o3 M9 a5w) false a5w (fun (a4Z : Bool) (a3t : Hp) =>
 (((!decide (o3.q8 = 1)) && (!a4Z)) = true →
 K false a3t) ∧
 (((!decide (o3.q8 = 1)) && (!a4Z)) = false →
 ((((decide (o3.q8 = 1)) && (!decide (o3.q9 = x2))) || ((!decide (o3.q8 = 3)) && (!decide (o3.O0 = 0)))) = true →
 K false a3t) ∧
 ((((decide (o3.q8 = 1)) && (!decide (o3.q9 = x2))) || ((!decide (o3.q8 = 3)) && (!decide (o3.O0 = 0)))) = false →
 TL ((0, 0) : Int × Int) a3t fun (s : Int × Int) H n2 => K0 x1 x2 x3 M9 o3 x0 s.1 s.2 H n2 K)))))))))))
theorem a7H (x0 : r9) (x1 : Sl) (x2 : Int) (x3 : Int) {K : Bool → Hp → Prop} (I : Inv w0 ps0 H0 H [] w) (hR : ∀ (r0 : Bool) (H' : Hp) (w' : World) (_ : Inv w0 ps0 H0 H' [] w') (_ : K r0 H'), R (vB r0) w') (h : W5 x0 x1 x2 x3 H K) : F4 (Value.agg (m6 x0).toArray) (vs x1) (vi x2) (vi x3) w R E := by
 unfold W5 at h
 unfold F4
 refine O4 I (cs := (m6 x0)) rfl fun g_2 w_3 I_4 k_5 => ?_
 refine d5 (cap := []) (fun args w => Tryd.call17 args w) ?_
 refine m8 (Fi := []) (Fr := [bx g_2 44 (m6 x0)]) I_4 (h) (fun c4g H_6 c4h w_7 I_8 c4i k_9 a9b => ?_) (fun _ _ _ _ _ q => q.elim)
 obtain ⟨U8, rfl, rfl, h⟩ := a9b
 refine a7 (V5 _) ?_
 refine o4 (fun d0Y => ?_) (fun d0Y => ?_)
 ·replace h := h.1 d0Y
  exact hR false H_6 _ I_8.drop h
 ·replace h := h.2 d0Y
  refine a7 (A7 _ _ _ _ _ _) ?_
  simp only [L2]
  refine a7 (Pu.g fun hb => by have b7 := hb; simp only [l9 b7]; exact (a0b _ _ _ _ _ _)) ?_
  refine a7 (Q5 _ _) ?_
  simp only [L2]
  refine a7 (Pu.g fun hb => by have b7 := hb; simp only [l9 b7]; exact (a1v _ _ _)) ?_
  refine a7 (Pu.g fun hb => by have b7 := hb; simp only [l9 b7]; exact (a0b _ _ _ _ _ _)) ?_
  refine a7 (Q5 _ _) ?_
  refine o4 (fun d0Z => ?_) (fun d0Z => ?_)
  ·replace h := h.1 d0Z
   exact hR true H_6 _ I_8.drop h
  ·replace h := h.2 d0Z
   refine b6 (ldA Tryd.isAgg44 Tryd.sizeOf44 rfl (I_8.at1 (o := 0) (vs := (m6 x0)) (nb rfl) rfl)) ?_
   refine d5 (cap := []) (fun args w => Tryd.call18 args w) ?_
   refine m8 (Fi := []) (Fr := [bx g_2 44 (m6 x0)]) I_8 (h) (fun g6O b7E g6P p9 c0q g6Q f1y d9p => ?_) (fun _ _ _ _ _ q => q.elim)
   obtain ⟨o3, a6l, rfl, rfl, h⟩ := d9p
   refine a7 (m3 _ _ _ rfl) ?_
   refine a7 (m3 _ _ (vi a6l) rfl) ?_
   refine C2 c0q Tryd.zeroValue49 (cs := [(vi 0), (vi 0), (vi 0), (nS), (nS), (nS)]) rfl fun a3u A6 b6Z f1P => ?_
   refine o9 b6Z Tryd.sizeOf49 (vs := (d7 o3)) (cs' := (d7 o3)) rfl rfl (nb rfl) rfl rfl fun c9D a4H c4b => ?_
   refine b6 (ldA Tryd.isAgg44 Tryd.sizeOf44 rfl ((a4H.bring 1).at1 (o := 0) (vs := (m6 x0)) (nb rfl) rfl)) ?_
   refine a7 (C6 _ _ _ _ _ _) ?_
   refine d5 (cap := []) (fun args w => Tryd.call18 args w) ?_
   refine m8 (Fi := []) (Fr := [bx a3u 49 (d7 o3), bx g_2 44 (m6 x0)]) a4H (h) (fun h0S a6g g6z d0O c4e h0T h0U g6R => ?_) (fun _ _ _ _ _ q => q.elim)
   obtain ⟨M9, a7d, rfl, rfl, h⟩ := g6R
   refine a7 (m3 _ _ _ rfl) ?_
   refine a7 (m3 _ _ (vi a7d) rfl) ?_
   refine C2 c4e Tryd.zeroValue49 (cs := [(vi 0), (vi 0), (vi 0), (nS), (nS), (nS)]) rfl fun b0V b3T g6S h0V => ?_
   refine o9 g6S Tryd.sizeOf49 (vs := (d7 M9)) (cs' := (d7 M9)) rfl rfl (nb rfl) rfl rfl fun K1 c6z h0W => ?_
   refine a7 (N4 _ _ _ _ _ _) ?_
   refine a1W (fun d1a => ?_) (fun d1a => ?_)
   ·replace h := h.1 d1a
    refine a7 (j8 _ _ _ _ _ _) ?_
    exact hR (decide (a6l = a7d)) a6g _ c6z.drop.drop.drop h
   ·replace h := h.2 d1a
    refine a7 (N4 _ _ _ _ _ _) ?_
    refine a7 (Pu.g fun hb => by have b7 := hb; exact a0D) ?_
    refine b6 (Ld.g fun hb => by have b7 := hb; simp only [l9 b7]; exact (ld1 Tryd.isAgg46 (c6z.at1 (o := 3) (vs := [(vs M9.v6)]) (nb rfl) rfl))) ?_
    refine a7 (Pu.g fun hb => by have b7 := hb; exact a0D) ?_
    refine b6 (Ld.g fun hb => by have b7 := hb; simp only [l9 b7]; exact (ld1 Tryd.isAgg46 ((c6z.bring 1).at1 (o := 3) (vs := [(vs o3.v6)]) (nb rfl) rfl))) ?_
    refine a3y (D := fun d9q D5 => ∃ (a8h : Bool) (a5w : Hp) , d9q = (gv (!decide (a7d = 0)) false (vB a8h)) ∧ (Inv w0 ps0 H0 a5w [bx b0V 49 (d7 M9), bx a3u 49 (d7 o3), bx g_2 44 (m6 x0)] D5) ∧ (∀ i, i < K1.heap.size → ¬ inF [] i → D5.heap[i]? = K1.heap[i]?) ∧ Hle a6g a5w ∧ (((((((!decide (a7d = 0)) || (!a8h)) || (decide (M9.q9 < o3.q9))) || (decide ((IntKind.wrap .i64 (o3.q9 + 1)) < M9.q9))) || (decide (x2 < o3.q9))) = true →
 K false a5w) ∧
 ((((((!decide (a7d = 0)) || (!a8h)) || (decide (M9.q9 < o3.q9))) || (decide ((IntKind.wrap .i64 (o3.q9 + 1)) < M9.q9))) || (decide (x2 < o3.q9))) = false →
 TG ((!decide (o3.q8 = 1)) = true) (O1 o3 M9 a5w) false a5w (fun (a4Z : Bool) (a3t : Hp) =>
 (((!decide (o3.q8 = 1)) && (!a4Z)) = true →
 K false a3t) ∧
 (((!decide (o3.q8 = 1)) && (!a4Z)) = false →
 ((((decide (o3.q8 = 1)) && (!decide (o3.q9 = x2))) || ((!decide (o3.q8 = 3)) && (!decide (o3.O0 = 0)))) = true →
 K false a3t) ∧
 ((((decide (o3.q8 = 1)) && (!decide (o3.q9 = x2))) || ((!decide (o3.q8 = 3)) && (!decide (o3.O0 = 0)))) = false →
 TL ((0, 0) : Int × Int) a3t fun (s : Int × Int) H n2 => K0 x1 x2 x3 M9 o3 x0 s.1 s.2 H n2 K)))))) (fun b9n => ?_) (fun b9n => ?_) ?_
    ·replace h := h.1 b9n
     have b7 := b9n
     simp only [l9 b7]
     refine d5 (cap := []) (fun args w => Tryd.call19 args w) ?_
     refine m8 (Fi := []) (Fr := [bx b0V 49 (d7 M9), bx a3u 49 (d7 o3), bx g_2 44 (m6 x0)]) c6z (h) (fun d9q a5w f1S D5 a6O c0y f9m g6T => ?_) (fun _ _ _ _ _ q => q.elim)
     obtain ⟨a8h, rfl, rfl, h⟩ := g6T
     exact ⟨a8h, a5w, by rfl, a6O, f9m, c0y, h⟩
    ·exact ⟨false, a6g, by rw [a6p b9n], c6z, fun _ _ _ => rfl, Hle.refl _, h.2 b9n⟩
    ·clear h
     rintro d9q D5 ⟨a8h, a5w, rfl, a6O, f9m, c0y, h⟩
     refine a7 (Pu.g fun hb => by have b7 := hb; simp only [l9 b7]; exact (V5 _)) ?_
     refine a7 (Q5 _ _) ?_
     refine a7 (Pu.g fun hb => by have b7 := hb; exact a1d) ?_
     refine b6 (Ld.g fun hb => by have b7 := hb; simp only [l9 b7]; exact (ld1 Tryd.isAgg3 (a6O.at1 (o := 2) (vs := [(vi M9.q9)]) (nb rfl) rfl))) ?_
     refine a7 (Pu.g fun hb => by have b7 := hb; exact a1d) ?_
     refine b6 (Ld.g fun hb => by have b7 := hb; simp only [l9 b7]; exact (ld1 Tryd.isAgg3 ((a6O.bring 1).at1 (o := 2) (vs := [(vi o3.q9)]) (nb rfl) rfl))) ?_
     refine a7 (Pu.g fun hb => by have b7 := hb; simp only [l9 b7]; exact (A7 _ _ _ _ _ _)) ?_
     refine a7 (Q5 _ _) ?_
     refine a7 (Pu.g fun hb => by have b7 := hb; exact a1d) ?_
     refine b6 (Ld.g fun hb => by have b7 := hb; simp only [l9 b7]; exact (ld1 Tryd.isAgg3 (a6O.at1 (o := 2) (vs := [(vi M9.q9)]) (nb rfl) rfl))) ?_
     refine a7 (Pu.g fun hb => by have b7 := hb; exact a1d) ?_
     refine b6 (Ld.g fun hb => by have b7 := hb; simp only [l9 b7]; exact (ld1 Tryd.isAgg3 ((a6O.bring 1).at1 (o := 2) (vs := [(vi o3.q9)]) (nb rfl) rfl))) ?_
     refine a7 (Pu.g fun hb => by have b7 := hb; simp only [l9 b7]; exact (C6 _ _ _ _ _ _)) ?_
     refine a7 (Pu.g fun hb => by have b7 := hb; simp only [l9 b7]; exact (a0b _ _ _ _ _ _)) ?_
     refine a7 (Q5 _ _) ?_
     refine a7 (Pu.g fun hb => by have b7 := hb; exact a1d) ?_
     refine b6 (Ld.g fun hb => by have b7 := hb; simp only [l9 b7]; exact (ld1 Tryd.isAgg3 ((a6O.bring 1).at1 (o := 2) (vs := [(vi o3.q9)]) (nb rfl) rfl))) ?_
     simp only [L2]
     refine a7 (Pu.g fun hb => by have b7 := hb; simp only [l9 b7]; exact (a0b _ _ _ _ _ _)) ?_
     refine a7 (Q5 _ _) ?_
     refine o4 (fun d1b => ?_) (fun d1b => ?_)
     ·replace h := h.1 d1b
      exact hR false a5w _ a6O.drop.drop.drop h
     ·replace h := h.2 d1b
      refine a7 a4c ?_
      refine b6 (ld1 Tryd.isAgg3 ((a6O.bring 1).at1 (o := 0) (vs := [(vi o3.q8)]) (nb rfl) rfl)) ?_
      refine a7 (N4 _ _ _ _ _ _) ?_
      refine b6 (Ld.g fun hb => by have b7 := hb; exact (ldA Tryd.isAgg49 Tryd.sizeOf49 rfl ((a6O.bring 1).at1 (o := 0) (vs := (d7 o3)) (nb rfl) rfl))) ?_
      refine b6 (Ld.g fun hb => by have b7 := hb; exact (ldA Tryd.isAgg49 Tryd.sizeOf49 rfl (a6O.at1 (o := 0) (vs := (d7 M9)) (nb rfl) rfl))) ?_
      refine a3y (D := fun d9r d1c => ∃ (a4Z : Bool) (a3t : Hp) , d9r = (gv (!decide (o3.q8 = 1)) true (vB a4Z)) ∧ (Inv w0 ps0 H0 a3t [bx b0V 49 (d7 M9), bx a3u 49 (d7 o3), bx g_2 44 (m6 x0)] d1c) ∧ (∀ i, i < D5.heap.size → ¬ inF [] i → d1c.heap[i]? = D5.heap[i]?) ∧ Hle a5w a3t ∧ ((((!decide (o3.q8 = 1)) && (!a4Z)) = true →
 K false a3t) ∧
 (((!decide (o3.q8 = 1)) && (!a4Z)) = false →
 ((((decide (o3.q8 = 1)) && (!decide (o3.q9 = x2))) || ((!decide (o3.q8 = 3)) && (!decide (o3.O0 = 0)))) = true →
 K false a3t) ∧
 ((((decide (o3.q8 = 1)) && (!decide (o3.q9 = x2))) || ((!decide (o3.q8 = 3)) && (!decide (o3.O0 = 0)))) = false →
 TL ((0, 0) : Int × Int) a3t fun (s : Int × Int) H n2 => K0 x1 x2 x3 M9 o3 x0 s.1 s.2 H n2 K)))) (fun b9o => ?_) (fun b9o => ?_) ?_
      ·replace h := h.1 b9o
       have b7 := b9o
       simp only [l9 b7]
       refine d5 (cap := []) (fun args w => Tryd.call20 args w) ?_
       refine m8 (Fi := []) (Fr := [bx b0V 49 (d7 M9), bx a3u 49 (d7 o3), bx g_2 44 (m6 x0)]) a6O (h) (fun d9r a3t h0X d1c b3j c0Z f9n g6U => ?_) (fun _ _ _ _ _ q => q.elim)
       obtain ⟨a4Z, rfl, rfl, h⟩ := g6U
       exact ⟨a4Z, a3t, by rfl, b3j, f9n, c0Z, h⟩
      ·exact ⟨false, a5w, by rw [a6p b9o], a6O, fun _ _ _ => rfl, Hle.refl _, h.2 b9o⟩
      ·clear h
       rintro d9r d1c ⟨a4Z, a3t, rfl, b3j, f9n, c0Z, h⟩
       refine a7 (Pu.g fun hb => by have b7 := hb; simp only [l9 b7]; exact (V5 _)) ?_
       refine a7 (N0 _ _) ?_
       refine o4 (fun d1d => ?_) (fun d1d => ?_)
       ·replace h := h.1 d1d
        exact hR false a3t _ b3j.drop.drop.drop h
       ·replace h := h.2 d1d
        refine a7 a4c ?_
        refine b6 (ld1 Tryd.isAgg3 ((b3j.bring 1).at1 (o := 0) (vs := [(vi o3.q8)]) (nb rfl) rfl)) ?_
        refine a7 (j8 _ _ _ _ _ _) ?_
        refine a7 (Pu.g fun hb => by have b7 := hb; exact a1d) ?_
        refine b6 (Ld.g fun hb => by have b7 := hb; simp only [l9 b7]; exact (ld1 Tryd.isAgg3 ((b3j.bring 1).at1 (o := 2) (vs := [(vi o3.q9)]) (nb rfl) rfl))) ?_
        simp only [L2]
        refine a7 (Pu.g fun hb => by have b7 := hb; simp only [l9 b7]; exact (N4 _ _ _ _ _ _)) ?_
        refine a7 (N0 _ _) ?_
        refine a7 (Pu.g fun hb => by have b7 := hb; exact a4c) ?_
        refine b6 (Ld.g fun hb => by have b7 := hb; simp only [l9 b7]; exact (ld1 Tryd.isAgg3 ((b3j.bring 1).at1 (o := 0) (vs := [(vi o3.q8)]) (nb rfl) rfl))) ?_
        refine a7 (Pu.g fun hb => by have b7 := hb; simp only [l9 b7]; exact (N4 _ _ _ _ _ _)) ?_
        simp only [L2, c8G]
        refine a7 (Pu.e (a3X _ _ _) (Pu.g fun hb => by obtain ⟨b7, b4n⟩ := a7L hb; exact b1V)) ?_
        refine b6 (Ld.e (a3X _ _ _) (Ld.g fun hb => by obtain ⟨b7, b4n⟩ := a7L hb; simp only [l9 hb]; exact (ld1 Tryd.isAgg3 ((b3j.bring 1).at1 (o := 1) (vs := [(vi o3.O0)]) (nb rfl) rfl)))) ?_
        refine a7 (Pu.e (a3X _ _ _) (Pu.g fun hb => by obtain ⟨b7, b4n⟩ := a7L hb; simp only [l9 hb]; exact (N4 _ _ _ _ _ _))) ?_
        refine a7 (Pu.g fun hb => by have b7 := hb; simp only [l9 b7, c2x b7]; exact (N0 _ _)) ?_
        refine a7 (Q5 _ _) ?_
        refine o4 (fun d1e => ?_) (fun d1e => ?_)
        ·replace h := h.1 d1e
         exact hR false a3t _ b3j.drop.drop.drop h
        ·replace h := h.2 d1e
         have hj1 : ∀ (b5W : Int) (H : Hp) (w : World) (_ : Inv w0 ps0 H0 H [bx b0V 49 (d7 M9), bx a3u 49 (d7 o3), bx g_2 44 (m6 x0)] w) (_ : T1 x1 x2 x3 b5W M9 o3 x0 H K), d0A (vs x1) (vi x2) (vi x3) (Value.pointer (some ⟨g_2, 0, none⟩)) (Value.pointer (some ⟨a3u, 0, none⟩)) (vi b5W) w R E := by
          intro b5W H w I h
          unfold d0A
          intro _
          unfold T1 at h
          refine a7 (a1v _ _ _) ?_
          refine a7 (j8 _ _ _ _ _ _) ?_
          refine i5 (fun d1f => ?_) (fun d1f => ?_)
          ·replace h := h.1 d1f
           exact hR true H _ I.drop.drop.drop h
          ·replace h := h.2 d1f
           obtain ⟨a7r, g2O, h⟩ := h
           obtain ⟨g6V, h⟩ := h
           refine c2G (s := ⟨none, 0, 0⟩) (xs := []) I.nil (RowL.nil b8b c8M) (SlH.src I.nil g2O b8b) g6V fun c0X h0Y b3a c6A g6W h0Z => ?_
           simp only [List.nil_append] at c6A
           refine a7 (b1R Tryd.underlying45 c6A) ?_
           refine a7 (b0Z _ _ _ _ _ _) ?_
           obtain ⟨e0M, e0L, d1g, h⟩ := h
           obtain ⟨g7J, g7K, c2h, e0N⟩ := c6A.addr d1g
           refine a7 (O7 c2h _ _ _ _ e0M (c6A.lt e0M d1g)) ?_
           refine c7w (x := x3) g6W c6A c2h (List.getElem?_eq_some_iff.1 d1g).1 Tryd.sizeOf2 rfl fun g7L a2e b9p e0O g7M => ?_
           refine b6 (ldA Tryd.isAgg44 Tryd.sizeOf44 rfl ((e0O.bring 3).at1 (o := 0) (vs := (m6 x0)) (nb rfl) rfl)) ?_
           obtain ⟨b9l, d1h, g2P, g2Q, g2R⟩ := Inv.freezeC e0O b9p (by decide)
           replace h := h c0X b9l g2P g2Q g2R
           refine d5 (cap := []) (fun args w => Tryd.call18 args w) ?_
           refine m8 (Fi := []) (Fr := [bx b0V 49 (d7 M9), bx a3u 49 (d7 o3), bx g_2 44 (m6 x0)]) d1h (h) (fun g7N b9m g7O P2 g2S g7P g7Q g2T => ?_) (fun _ _ _ _ _ q => q.elim)
           obtain ⟨a9P, a9Q, rfl, rfl, h⟩ := g2T
           refine a7 (m3 _ _ _ rfl) ?_
           refine a7 (m3 _ _ (vi a9Q) rfl) ?_
           refine C2 g2S Tryd.zeroValue49 (cs := [(vi 0), (vi 0), (vi 0), (nS), (nS), (nS)]) rfl fun e0P a4X g2U g7R => ?_
           refine o9 g2U Tryd.sizeOf49 (vs := (d7 a9P)) (cs' := (d7 a9P)) rfl rfl (nb rfl) rfl rfl fun e0Q c2i g7S => ?_
           refine a7 (j8 _ _ _ _ _ _) ?_
           refine b6 (Ld.g fun hb => by have b7 := hb; exact (ldA Tryd.isAgg49 Tryd.sizeOf49 rfl ((c2i.bring 2).at1 (o := 0) (vs := (d7 o3)) (nb rfl) rfl))) ?_
           refine b6 (Ld.g fun hb => by have b7 := hb; exact (ldA Tryd.isAgg49 Tryd.sizeOf49 rfl (c2i.at1 (o := 0) (vs := (d7 a9P)) (nb rfl) rfl))) ?_
           refine a3y (D := fun d1i b3c => ∃ (a7s : Bool) (a8g : Hp) , d1i = (gv (decide (a9Q = 0)) true (vB a7s)) ∧ (Inv w0 ps0 H0 a8g [bx e0P 49 (d7 a9P), bx b0V 49 (d7 M9), bx a3u 49 (d7 o3), bx g_2 44 (m6 x0)] b3c) ∧ (∀ i, i < e0Q.heap.size → ¬ inF [] i → b3c.heap[i]? = e0Q.heap[i]?) ∧ Hle b9m a8g ∧ (K ((decide (a9Q = 0)) && a7s) a8g)) (fun b9q => ?_) (fun b9q => ?_) ?_
           ·replace h := h.1 b9q
            have b7 := b9q
            simp only [l9 b7]
            refine d5 (cap := []) (fun args w => Tryd.call20 args w) ?_
            refine m8 (Fi := []) (Fr := [bx e0P 49 (d7 a9P), bx b0V 49 (d7 M9), bx a3u 49 (d7 o3), bx g_2 44 (m6 x0)]) c2i (h) (fun d1i a8g g7T b3c d1j e0R e0S g2V => ?_) (fun _ _ _ _ _ q => q.elim)
            obtain ⟨a7s, rfl, rfl, h⟩ := g2V
            exact ⟨a7s, a8g, by rfl, d1j, e0S, e0R, h⟩
           ·exact ⟨false, b9m, by rw [a6p b9q], c2i, fun _ _ _ => rfl, Hle.refl _, h.2 b9q⟩
           ·clear h
            rintro d1i b3c ⟨a7s, a8g, rfl, d1j, e0S, e0R, h⟩
            refine a7 (N0 _ _) ?_
            exact hR ((decide (a9Q = 0)) && a7s) a8g _ d1j.drop.drop.drop.drop h
         refine u7 fun j1 hx1 => ?_
         obtain ⟨d1k, b9r, g2W, g2X⟩ := h
         refine H7 (J := fun n l w => ∃ (s : Int × Int) (H : Hp) , n = b9r s ∧ l = (match s with | (a0J, a1u) => [(vi a0J), (vi a1u)]) ∧ (match s with | (a0J, a1u) => Inv w0 ps0 H0 H [bx b0V 49 (d7 M9), bx a3u 49 (d7 o3), bx g_2 44 (m6 x0)] w) ∧ d1k s H) ⟨_, (0, 0), a3t, rfl, rfl, (((b3j.bring 2).bring 2).bring 2), g2W⟩ ?_
         rintro g7U τ_153 w next2 ⟨⟨a0J, a1u⟩, H, rfl, d1l, I, g2Y⟩ hn2
         dsimp only at d1l I
         simp only [List.map_cons, List.map_nil, List.cons.injEq, and_true] at d1l
         obtain ⟨e13, e14⟩ := d1l
         simp only [e13, e14]
         obtain ⟨n2, hm2, h⟩ : ∃ n2 : (Int × Int) → Hp → Prop, (∀ s' H', n2 s' H' → d1k s' H' ∧ b9r s' < b9r (a0J, a1u)) ∧ K0 x1 x2 x3 M9 o3 x0 a0J a1u H n2 K := ⟨_, fun _ _ h => h, g2X (a0J, a1u) H (fun s' H' => d1k s' H' ∧ b9r s' < b9r (a0J, a1u)) g2Y (fun _ _ a b => ⟨a, b⟩)⟩
         unfold e0A
         unfold K0 at h
         refine a7 a0D ?_
         refine b6 (ld1 Tryd.isAgg46 ((I.bring 1).at1 (o := 3) (vs := [(vs o3.v6)]) (nb rfl) rfl)) ?_
         refine a7 (a3M _ _ _) ?_
         refine a7 (A7 _ _ _ _ _ _) ?_
         refine i5 (fun d1m => ?_) (fun d1m => ?_)
         ·replace h := h.1 d1m
          have hj3 : ∀ (b5V : Int) (H : Hp) (w : World) (_ : Inv w0 ps0 H0 H [bx b0V 49 (d7 M9), bx a3u 49 (d7 o3), bx g_2 44 (m6 x0)] w) (_ : J9 x1 x2 x3 b5V a1u M9 o3 x0 H n2 K), d0I (vs x1) (vi x2) (vi x3) (Value.pointer (some ⟨g_2, 0, none⟩)) (Value.pointer (some ⟨a3u, 0, none⟩)) (vi b5V) (vi a1u) w next2 R E := by
           intro b5V H w I h
           unfold d0I
           intro _
           unfold J9 at h
           refine a7 (C6 _ _ _ _ _ _) ?_
           exact hn2 _ _ _ (hm2 _ _ h).2 ⟨(b5V, (IntKind.wrap .i64 (a1u + 1))), H, rfl, rfl, (((I.bring 2).bring 2).bring 2), (hm2 _ _ h).1⟩
          refine u7 fun j3 hx3 => ?_
          refine a7 a0D ?_
          refine b6 (ld1 Tryd.isAgg46 ((I.bring 1).at1 (o := 3) (vs := [(vs o3.v6)]) (nb rfl) rfl)) ?_
          obtain ⟨d0W, d0X, b4Z, d1n, h⟩ := h
          obtain ⟨g6X, g6Y, f9o, d1n⟩ := d1n
          refine a7 (a6q f9o _ _ _ _ d0W d0X) ?_
          refine a7 c8K ?_
          refine b6 (ld1 (v := (vB b4Z.a0Z)) Tryd.isAgg4 ((I.atH d1n).sub (k := 0) (n := 1) (nb rfl))) ?_
          refine o4 (fun b7i => ?_) (fun b7i => ?_)
          ·replace h := h.1 b7i
           refine V2 I fun P6 b7F => ?_
           refine i8 (a1v _ _ _) ?_
           refine i8 (a8y _ _ _ _ _ _) ?_
           refine i8 (Pu.g fun hb => by have b7 := hb; exact a0D) ?_
           simp only [L2]
           obtain ⟨c6y, c1a, h⟩ := h
           obtain ⟨g6Z, g7a, c1a⟩ := c8H c1a
           refine i8 (Pu.g fun hb => by have b7 := hb; simp only [l9 b7]; exact (O7 (c1a hb).2.2.1 _ _ _ _ (c1a hb).1 (c1a hb).2.1)) ?_
           refine c2v (p := (Value.pointer (some ⟨a3u, 3, none⟩))) rfl (Ld.g fun hb => by have b7 := hb; simp only [l9 b7]; exact (ld1 Tryd.isAgg46 ((b7F.bring 1).at1 (o := 3) (vs := [(vs o3.v6)]) (nb rfl) rfl))) ?_
           refine i8 (Pu.g fun hb => by have b7 := hb; simp only [l9 b7]; exact (a6q f9o _ _ _ _ d0W d0X)) ?_
           refine i8 (Pu.g fun hb => by have b7 := hb; simp only [l9 b7]; exact c8L) ?_
           refine c2v (p := (Value.pointer (some ⟨g6X, g6Y + (a1u : Int).toNat * 3 + 1, none⟩))) rfl (Ld.g fun hb => by have b7 := hb; simp only [l9 b7]; exact (ld1 (v := (vi b4Z.C4)) Tryd.isAgg2 ((b7F.atH d1n).sub (k := 1) (n := 1) (nb rfl)))) ?_
           refine c2v (p := (Value.pointer (some ⟨g6Z, g7a + (a0J : Int).toNat * 1, none⟩))) rfl (Ld.g fun hb => by have b7 := hb; simp only [l9 b7]; exact (ld1 (v := (vi c6y)) Tryd.isAgg2 (b7F.atH (c1a hb).2.2.2))) ?_
           refine i8 (Pu.g fun hb => by have b7 := hb; simp only [l9 b7]; exact (N4 _ _ _ _ _ _)) ?_
           refine i8 (Q5 _ _) ?_
           refine o4 (fun b6X => ?_) (fun b6X => ?_)
           ·replace h := h.1 b6X
            exact hR false H _ b7F.drop.drop.drop h
           ·replace h := h.2 b6X
            refine a7 (C6 _ _ _ _ _ _) ?_
            exact hx3 _ _ (hj3 (IntKind.wrap .i64 (a0J + 1)) H _ (((b7F.bring 2).bring 2).bring 2) h)
          ·replace h := h.2 b7i
           exact hx3 _ _ (hj3 a0J H _ (((I.bring 2).bring 2).bring 2) h)
         ·replace h := h.2 d1m
          exact hx1 _ _ (hj1 a0J H _ (((I.bring 2).bring 2).bring 2) h)
theorem a8i (x0 : r9) (x1 : Sl) (x2 : Int) (x3 : Int) {H : Hp} {K : Bool → Hp → Prop} (h : W5 x0 x1 x2 x3 H K) : V8 x0 x1 x2 x3 H K := by
 intro w I
 refine g2i ?_
 refine a7H x0 x1 x2 x3 I (fun r0 H' w' I' hk => ⟨H', _, I', r0, rfl, rfl, hk⟩) h
def a2Q (x0 : l7) (H : Hp) (K : Int → Bool → Hp → Prop) : Prop :=
 (x0.b9 = 1 →
 K x0.C4 true H) ∧
 (¬ (x0.b9 = 1) →
 ∃ x_6 : l7, ((decide (x0.b9 = 5)) = true → (0 : Int) ≤ 0 ∧ (0 : Int) < x0.A5.n ∧ EltH H x0.A5 0 4 (d9 x_6)) ∧
 (((decide (x0.b9 = 5)) && (decide (x_6.b9 = 1))) = true →
 (0 : Int) ≤ 0 ∧ (0 : Int) < x0.A5.n ∧ ∃ b4H : l7, EltH H x0.A5 0 4 (d9 b4H) ∧
 K (IntKind.wrap .i64 (0 - b4H.C4)) true H) ∧
 (((decide (x0.b9 = 5)) && (decide (x_6.b9 = 1))) = false →
 K 0 false H))
theorem b0W (x0 : l7) {K : Int → Bool → Hp → Prop} (I : Inv w0 ps0 H0 H [] w) (hR : ∀ (r0 : Int) (r1 : Bool) (H' : Hp) (w' : World) (_ : Inv w0 ps0 H0 H' [] w') (_ : K r0 r1 H'), R (Value.tuple #[(vi r0), (vB r1)]) w') (h : a2Q x0 H K) : d0Q (Value.agg (d9 x0).toArray) w R E := by
 unfold a2Q at h
 unfold d0Q
 refine O4 I (cs := (d9 x0)) rfl fun g_2 w_3 I_4 k_5 => ?_
 refine a7 X1 ?_
 refine b6 (ld1 Tryd.isAgg3 (I_4.at1 (o := 0) (vs := [(vi x0.b9)]) (nb rfl) rfl)) ?_
 refine a7 (j8 _ _ _ _ _ _) ?_
 refine i5 (fun a9e => ?_) (fun a9e => ?_)
 ·replace h := h.1 a9e
  refine a7 a7O ?_
  refine b6 (ld1 Tryd.isAgg2 (I_4.at1 (o := 1) (vs := [(vi x0.C4)]) (nb rfl) rfl)) ?_
  exact hR x0.C4 true H _ I_4.drop h
 ·replace h := h.2 a9e
  refine a7 X1 ?_
  refine b6 (ld1 Tryd.isAgg3 (I_4.at1 (o := 0) (vs := [(vi x0.b9)]) (nb rfl) rfl)) ?_
  refine a7 (j8 _ _ _ _ _ _) ?_
  refine a7 (Pu.g fun hb => by have b7 := hb; exact a4b) ?_
  refine b6 (Ld.g fun hb => by have b7 := hb; simp only [l9 b7]; exact (ld1 Tryd.isAgg22 (I_4.at1 (o := 3) (vs := [(vs x0.A5)]) (nb rfl) rfl))) ?_
  obtain ⟨x_6, b5a, h⟩ := h
  obtain ⟨g_7, o_8, b5a⟩ := c8H b5a
  refine a7 (Pu.g fun hb => by have b7 := hb; simp only [l9 b7]; exact (a1C (b5a hb).2.2.1 _ _ _ _ (b5a hb).1 (b5a hb).2.1)) ?_
  refine a7 (Pu.g fun hb => by have b7 := hb; simp only [l9 b7]; exact X1) ?_
  refine b6 (Ld.g fun hb => by have b7 := hb; simp only [l9 b7]; exact (ld1 (v := (vi x_6.b9)) Tryd.isAgg3 ((I_4.atH (b5a hb).2.2.2).sub (k := 0) (n := 1) (nb rfl)))) ?_
  refine a7 (Pu.g fun hb => by have b7 := hb; simp only [l9 b7]; exact (j8 _ _ _ _ _ _)) ?_
  refine a7 (N0 _ _) ?_
  refine o4 (fun a5k => ?_) (fun a5k => ?_)
  ·replace h := h.1 a5k
   refine a7 a4b ?_
   refine b6 (ld1 Tryd.isAgg22 (I_4.at1 (o := 3) (vs := [(vs x0.A5)]) (nb rfl) rfl)) ?_
   obtain ⟨b3e, g7b, b4H, d9s, h⟩ := h
   obtain ⟨h1a, h1b, d9t, d9s⟩ := d9s
   refine a7 (a1C d9t _ _ _ _ b3e g7b) ?_
   refine a7 a7O ?_
   refine b6 (ld1 (v := (vi b4H.C4)) Tryd.isAgg2 ((I_4.atH d9s).sub (k := 1) (n := 1) (nb rfl))) ?_
   refine a7 (d2c _ _) ?_
   exact hR (IntKind.wrap .i64 (0 - b4H.C4)) true H _ I_4.drop h
  ·replace h := h.2 a5k
   exact hR 0 false H _ I_4.drop h
theorem b1G (x0 : l7) {H : Hp} {K : Int → Bool → Hp → Prop} (h : a2Q x0 H K) : a5A x0 H K := by
 intro w I
 refine e6F ?_
 refine b0W x0 I (fun r0 r1 H' w' I' hk => ⟨H', _, I', r0, r1, rfl, rfl, hk⟩) h
end Go.Proofs.YtnhkdkcgdcgmdaaDoor
