/- Typed formulas of the program's functions, and the theorems that the contracts follow from them; printed by lift.py off the code. -/
import Derived.Test.YtnhkdkcgdcgmdaaDoorzOV1
namespace Go.Proofs.YtnhkdkcgdcgmdaaDoor
open Go.RowKit
set_option maxRecDepth 100000
set_option maxHeartbeats 2000000
variable {w0 w : World} {ps0 : Nat → Prop} {H0 H : Hp} {R : RT} {E : Pan}
def a4S (x0 : d7) (H : Hp) (K : ByteArray → Bool → Hp → Prop) : Prop :=
 (x0.a7L = true →
 K ((((x0.X5)).T4).b7) true H) ∧
 (x0.a7L = false →
 (x0.a7M = true →
 K ((((x0.m5)).f7).b7) ((decide (((((x0.m5)).f7).a8) = 1)) || (decide (((((x0.m5)).f7).a8) = 2))) H) ∧
 (x0.a7M = false →
 (x0.a7K = true →
 K ((((x0.y9)).q9).b7) ((decide (((((x0.y9)).q9).a8) = 2)) || (decide (((((x0.y9)).q9).a8) = 4))) H) ∧
 (x0.a7K = false →
 K ⟨#[]⟩ false H)))
theorem b7H (x0 : d7) {K : ByteArray → Bool → Hp → Prop} (I : Inv w0 ps0 H0 H [] w) (hR : ∀ (r0 : ByteArray) (r1 : Bool) (H' : Hp) (w' : World) (_ : Inv w0 ps0 H0 H' [] w') (_ : K r0 r1 H'), R (Value.tuple #[(Value.string r0), (vB r1)]) w') (h : a4S x0 H K) : d2v (C0 x0) w R E := by
 unfold a4S at h
 unfold d2v
 refine a7 (c6h x0) ?_
 refine a7 (o0 _ _ (vB x0.a7L) rfl) ?_
 refine a7 (o0 _ _ _ rfl) ?_
 refine u2 (fun d9w => ?_) (fun d9w => ?_)
 ·replace h := h.1 d9w
  refine y8 I Tryd.zeroValue177 (cs := [(eS), (vi 0)]) rfl fun g_2 w_3 I_4 k_5 => ?_
  refine m6 I_4 Tryd.sizeOf177 (vs := [(Value.string ((((x0.X5)).T4).b7)), (vi ((((x0.X5)).T4).Z2))]) (cs' := [(Value.string ((((x0.X5)).T4).b7)), (vi ((((x0.X5)).T4).Z2))]) rfl rfl (nb rfl) rfl rfl fun w_6 I_7 k_8 => ?_
  refine a7 b4x ?_
  refine a7 a7Q ?_
  refine d6 (ld1 Tryd.isAgg9 (I_7.at1 (o := 0) (vs := [(Value.string ((((x0.X5)).T4).b7))]) (nb rfl) rfl)) ?_
  exact hR ((((x0.X5)).T4).b7) true H _ I_7.drop h
 ·replace h := h.2 d9w
  refine a7 (c6i x0) ?_
  refine a7 (o0 _ _ (vB x0.a7M) rfl) ?_
  refine a7 (o0 _ _ _ rfl) ?_
  refine u2 (fun c0Z => ?_) (fun c0Z => ?_)
  ·replace h := h.1 c0Z
   refine y8 I Tryd.zeroValue179 (cs := [(vi 0), (eS), (nS), (nS), (nS), (nS)]) rfl fun g5c P9 C6 b6m => ?_
   refine m6 C6 Tryd.sizeOf179 (vs := [(vi ((((x0.m5)).f7).a8)), (Value.string ((((x0.m5)).f7).b7)), (Value.slice ((((x0.m5)).f7).g8).a ((((x0.m5)).f7).g8).n ((((x0.m5)).f7).g8).c), (Value.slice ((((x0.m5)).f7).o9).a ((((x0.m5)).f7).o9).n ((((x0.m5)).f7).o9).c), (Value.slice ((((x0.m5)).f7).v6).a ((((x0.m5)).f7).v6).n ((((x0.m5)).f7).v6).c), (Value.slice ((((x0.m5)).f7).t7).a ((((x0.m5)).f7).t7).n ((((x0.m5)).f7).t7).c)]) (cs' := [(vi ((((x0.m5)).f7).a8)), (Value.string ((((x0.m5)).f7).b7)), (Value.slice ((((x0.m5)).f7).g8).a ((((x0.m5)).f7).g8).n ((((x0.m5)).f7).g8).c), (Value.slice ((((x0.m5)).f7).o9).a ((((x0.m5)).f7).o9).n ((((x0.m5)).f7).o9).c), (Value.slice ((((x0.m5)).f7).v6).a ((((x0.m5)).f7).v6).n ((((x0.m5)).f7).v6).c), (Value.slice ((((x0.m5)).f7).t7).a ((((x0.m5)).f7).t7).n ((((x0.m5)).f7).t7).c)]) rfl rfl (nb rfl) rfl rfl fun o8 b2q b6n => ?_
   refine a3v b2q fun Y8 a0E => ?_
   refine r9 O7 ?_
   refine r9 a4M ?_
   refine r9 O7 ?_
   refine r9 a0R ?_
   refine K0 (ld1 Tryd.isAgg9 (a0E.at1 (o := 1) (vs := [(Value.string ((((x0.m5)).f7).b7))]) (nb rfl) rfl)) ?_
   refine K0 (ld1 Tryd.isAgg3 (a0E.at1 (o := 0) (vs := [(vi ((((x0.m5)).f7).a8))]) (nb rfl) rfl)) ?_
   refine r9 (m9 _ _ _ _ _ _) ?_
   refine r9 (Pu.g fun hb => by have f4 := hb; exact O7) ?_
   refine r9 (Pu.g fun hb => by have f4 := hb; simp only [p1 f4]; exact a0R) ?_
   refine e8p (p := (Value.pointer (some ⟨g5c, 0, none⟩))) rfl (Ld.g fun hb => by have f4 := hb; simp only [p1 f4]; exact (ld1 Tryd.isAgg3 (a0E.at1 (o := 0) (vs := [(vi ((((x0.m5)).f7).a8))]) (nb rfl) rfl))) ?_
   refine r9 (Pu.g fun hb => by have f4 := hb; simp only [p1 f4]; exact (m9 _ _ _ _ _ _)) ?_
   refine r9 (a5Z _ _) ?_
   exact hR ((((x0.m5)).f7).b7) ((decide (((((x0.m5)).f7).a8) = 1)) || (decide (((((x0.m5)).f7).a8) = 2))) H _ a0E.drop h
  ·replace h := h.2 c0Z
   refine a7 (c6j x0) ?_
   refine a7 (o0 _ _ (vB x0.a7K) rfl) ?_
   refine a7 (o0 _ _ _ rfl) ?_
   refine u2 (fun c1a => ?_) (fun c1a => ?_)
   ·replace h := h.1 c1a
    refine y8 I Tryd.zeroValue123 (cs := [(vi 0), (vi 0), (eS), (nS)]) rfl fun f3A U1 a4C b4A => ?_
    refine m6 a4C Tryd.sizeOf123 (vs := [(vi ((((x0.y9)).q9).a8)), (vi ((((x0.y9)).q9).o2)), (Value.string ((((x0.y9)).q9).b7)), (Value.slice ((((x0.y9)).q9).m7).a ((((x0.y9)).q9).m7).n ((((x0.y9)).q9).m7).c)]) (cs' := [(vi ((((x0.y9)).q9).a8)), (vi ((((x0.y9)).q9).o2)), (Value.string ((((x0.y9)).q9).b7)), (Value.slice ((((x0.y9)).q9).m7).a ((((x0.y9)).q9).m7).n ((((x0.y9)).q9).m7).c)]) rfl rfl (nb rfl) rfl rfl fun y6 a5T d2Y => ?_
    refine a3v a5T fun a3z c5a => ?_
    refine r9 a0N ?_
    refine r9 a7N ?_
    refine r9 a0N ?_
    refine r9 V7 ?_
    refine K0 (ld1 Tryd.isAgg9 (c5a.at1 (o := 2) (vs := [(Value.string ((((x0.y9)).q9).b7))]) (nb rfl) rfl)) ?_
    refine K0 (ld1 Tryd.isAgg3 (c5a.at1 (o := 0) (vs := [(vi ((((x0.y9)).q9).a8))]) (nb rfl) rfl)) ?_
    refine r9 (m9 _ _ _ _ _ _) ?_
    refine r9 (Pu.g fun hb => by have f4 := hb; exact a0N) ?_
    refine r9 (Pu.g fun hb => by have f4 := hb; simp only [p1 f4]; exact V7) ?_
    refine e8p (p := (Value.pointer (some ⟨f3A, 0, none⟩))) rfl (Ld.g fun hb => by have f4 := hb; simp only [p1 f4]; exact (ld1 Tryd.isAgg3 (c5a.at1 (o := 0) (vs := [(vi ((((x0.y9)).q9).a8))]) (nb rfl) rfl))) ?_
    refine r9 (Pu.g fun hb => by have f4 := hb; simp only [p1 f4]; exact (m9 _ _ _ _ _ _)) ?_
    refine r9 (a5Z _ _) ?_
    exact hR ((((x0.y9)).q9).b7) ((decide (((((x0.y9)).q9).a8) = 2)) || (decide (((((x0.y9)).q9).a8) = 4))) H _ c5a.drop h
   ·replace h := h.2 c1a
    exact hR ⟨#[]⟩ false H _ I h
theorem b8D (x0 : d7) {H : Hp} {K : ByteArray → Bool → Hp → Prop} (h : a4S x0 H K) : a2O x0 H K := by
 intro w I
 refine e4G ?_
 refine b7H x0 I (fun r0 r1 H' w' I' hk => ⟨H', _, I', r0, r1, rfl, rfl, hk⟩) h
def a5U (x0 : Int) (x1 : Int) (x2 : Int) (H : Hp) (K : Bool → Hp → Prop) : Prop :=
 K ((decide (x0 ≤ x2)) && (decide (x2 ≤ x1))) H
theorem b4B (x0 : Int) (x1 : Int) (x2 : Int) (g2 : Nat) {K : Bool → Hp → Prop} (I : Inv w0 ps0 H0 H [bx g2 21 [(Value.int .i32 x2)]] w) (hR : ∀ (r0 : Bool) (H' : Hp) (w' : World) (_ : Inv w0 ps0 H0 H' [bx g2 21 [(Value.int .i32 x2)]] w') (_ : K r0 H'), R (vB r0) w') (h : a5U x0 x1 x2 H K) : d2H (Value.int .i32 x0) (Value.int .i32 x1) (Value.pointer (some ⟨g2, 0, none⟩)) w R E := by
 unfold a5U at h
 unfold d2H
 refine d6 (ld1 Tryd.isAgg21 (I.at1 (o := 0) (vs := [(Value.int .i32 x2)]) (nb rfl) rfl)) ?_
 refine a7 (b1S _ _ _ _ _ _) ?_
 refine d6 (Ld.g fun hb => by have f4 := hb; exact (ld1 Tryd.isAgg21 (I.at1 (o := 0) (vs := [(Value.int .i32 x2)]) (nb rfl) rfl))) ?_
 simp only [O5]
 refine a7 (Pu.g fun hb => by have f4 := hb; simp only [p1 f4]; exact (b1S _ _ _ _ _ _)) ?_
 refine a7 (A6 _ _) ?_
 exact hR ((decide (x0 ≤ x2)) && (decide (x2 ≤ x1))) H _ I h
theorem b5s (x0 : Int) (x1 : Int) (x2 : Int) {H : Hp} {K : Bool → Hp → Prop} (h : a5U x0 x1 x2 H K) : N1 x0 x1 x2 H K := by
 intro g2 w I
 refine e4Y ?_
 refine b4B x0 x1 x2 g2 I (fun r0 H' w' I' hk => ⟨H', _, I', r0, rfl, rfl, hk⟩) h
def a6p (H : Hp) (K : Bool → Hp → Prop) : Prop :=
 K true H
def Q0 (b5t : ByteArray) (N2 : Nat) (H : Hp) (n2 : Nat → Hp → Prop) (K : Bool → Hp → Prop) : Prop :=
 (N2 < b5t.size →
 a6W ((Utf8.decode b5t N2).1 : Int) H (fun (a3C : Bool) (a8G : Hp) =>
 TG ((!(!a3C) && (decide (((N2 : Nat) : Int) = 0))) = true) (a4h ((Utf8.decode b5t N2).1 : Int) a8G) 0 a8G (fun (a5u : Int) (a5V : Hp) =>
 (((!a3C) || ((decide (((N2 : Nat) : Int) = 0)) && (!decide (a5u = 3)))) = true →
 K false a5V) ∧
 (((!a3C) || ((decide (((N2 : Nat) : Int) = 0)) && (!decide (a5u = 3)))) = false →
 n2 (N2 + (Utf8.decode b5t N2).2) a5V)))) ∧
 (¬ (N2 < b5t.size) →
 a6p H K)
def a5v (x0 : ByteArray) (H : Hp) (K : Bool → Hp → Prop) : Prop :=
 TG ((decide (x0 = ⟨#[]⟩)) = false) (a6R x0 H) false H (fun (K2 : Bool) (H_1 : Hp) =>
 TG (((decide (x0 = ⟨#[]⟩)) || (!K2)) = false) (a5r x0 H_1) false H_1 (fun (J1 : Bool) (a5h : Hp) =>
 TG ((((decide (x0 = ⟨#[]⟩)) || (!K2)) || J1) = false) (a3t x0 a5h) false a5h (fun (a1A : Bool) (a3D : Hp) =>
 (((((decide (x0 = ⟨#[]⟩)) || (!K2)) || J1) || a1A) = true →
 K false a3D) ∧
 (((((decide (x0 = ⟨#[]⟩)) || (!K2)) || J1) || a1A) = false →
 TL (0 : Nat) a3D fun (s : Nat) H n2 => Q0 x0 s H n2 K))))
theorem b8E (x0 : ByteArray) {K : Bool → Hp → Prop} (I : Inv w0 ps0 H0 H [] w) (hR : ∀ (r0 : Bool) (H' : Hp) (w' : World) (_ : Inv w0 ps0 H0 H' [] w') (_ : K r0 H'), R (vB r0) w') (h : a5v x0 H K) : d2x (Value.string x0) w R E := by
 unfold a5v at h
 unfold d2x
 refine a7 (a1O _ _ _ _ _) ?_
 simp only [O5]
 refine V6 (D := fun v_5 w_2 => ∃ (K2 : Bool) (H_1 : Hp) , v_5 = (gv (decide (x0 = ⟨#[]⟩)) false (vB K2)) ∧ (Inv w0 ps0 H0 H_1 [] w_2) ∧ (∀ i, i < w.heap.size → ¬ inF [] i → w_2.heap[i]? = w.heap[i]?) ∧ Hle H H_1 ∧ (TG (((decide (x0 = ⟨#[]⟩)) || (!K2)) = false) (a5r x0 H_1) false H_1 (fun (J1 : Bool) (a5h : Hp) =>
 TG ((((decide (x0 = ⟨#[]⟩)) || (!K2)) || J1) = false) (a3t x0 a5h) false a5h (fun (a1A : Bool) (a3D : Hp) =>
 (((((decide (x0 = ⟨#[]⟩)) || (!K2)) || J1) || a1A) = true →
 K false a3D) ∧
 (((((decide (x0 = ⟨#[]⟩)) || (!K2)) || J1) || a1A) = false →
 TL (0 : Nat) a3D fun (s : Nat) H n2 => Q0 x0 s H n2 K))))) (fun c3i => ?_) (fun c3i => ?_) ?_
 ·replace h := h.1 c3i
  have f4 := c3i
  simp only [p1 f4]
  refine f2 (cap := []) (fun args w => Tryd.call137 args w) ?_
  refine i8 (Fi := []) (Fr := []) I (h) (fun v_5 H_1 F_6 w_2 I_3 l_8 k_4 q_7 => ?_) (fun _ _ _ _ _ q => q.elim)
  obtain ⟨K2, rfl, rfl, h⟩ := q_7
  exact ⟨K2, H_1, by rfl, I_3, k_4, l_8, h⟩
 ·exact ⟨false, H, by rw [a3g c3i], I, fun _ _ _ => rfl, Hle.refl _, h.2 c3i⟩
 ·clear h
  rintro v_5 w_2 ⟨K2, H_1, rfl, I_3, k_4, l_8, h⟩
  refine a7 (Pu.g fun hb => by have f4 := hb; simp only [p1 f4]; exact (a1N _)) ?_
  refine a7 (a5Z _ _) ?_
  simp only [O5]
  refine V6 (D := fun c8o P9 => ∃ (J1 : Bool) (a5h : Hp) , c8o = (gv ((decide (x0 = ⟨#[]⟩)) || (!K2)) false (vB J1)) ∧ (Inv w0 ps0 H0 a5h [] P9) ∧ (∀ i, i < w_2.heap.size → ¬ inF [] i → P9.heap[i]? = w_2.heap[i]?) ∧ Hle H_1 a5h ∧ (TG ((((decide (x0 = ⟨#[]⟩)) || (!K2)) || J1) = false) (a3t x0 a5h) false a5h (fun (a1A : Bool) (a3D : Hp) =>
 (((((decide (x0 = ⟨#[]⟩)) || (!K2)) || J1) || a1A) = true →
 K false a3D) ∧
 (((((decide (x0 = ⟨#[]⟩)) || (!K2)) || J1) || a1A) = false →
 TL (0 : Nat) a3D fun (s : Nat) H n2 => Q0 x0 s H n2 K)))) (fun c8p => ?_) (fun c8p => ?_) ?_
  ·replace h := h.1 c8p
   have f4 := c8p
   simp only [p1 f4]
   refine f2 (cap := []) (fun args w => Tryd.call138 args w) ?_
   refine i8 (Fi := []) (Fr := []) I_3 (h) (fun c8o a5h f3B P9 C6 c1b b6m c8q => ?_) (fun _ _ _ _ _ q => q.elim)
   obtain ⟨J1, rfl, rfl, h⟩ := c8q
   exact ⟨J1, a5h, by rfl, C6, b6m, c1b, h⟩
  ·exact ⟨false, H_1, by rw [a3g c8p], I_3, fun _ _ _ => rfl, Hle.refl _, h.2 c8p⟩
  ·clear h
   rintro c8o P9 ⟨J1, a5h, rfl, C6, b6m, c1b, h⟩
   refine a7 (a5Z _ _) ?_
   simp only [O5]
   refine V6 (D := fun d2Z u1 => ∃ (a1A : Bool) (a3D : Hp) , d2Z = (gv (((decide (x0 = ⟨#[]⟩)) || (!K2)) || J1) false (vB a1A)) ∧ (Inv w0 ps0 H0 a3D [] u1) ∧ (∀ i, i < P9.heap.size → ¬ inF [] i → u1.heap[i]? = P9.heap[i]?) ∧ Hle a5h a3D ∧ ((((((decide (x0 = ⟨#[]⟩)) || (!K2)) || J1) || a1A) = true →
 K false a3D) ∧
 (((((decide (x0 = ⟨#[]⟩)) || (!K2)) || J1) || a1A) = false →
 TL (0 : Nat) a3D fun (s : Nat) H n2 => Q0 x0 s H n2 K))) (fun c8r => ?_) (fun c8r => ?_) ?_
   ·replace h := h.1 c8r
    have f4 := c8r
    simp only [p1 f4]
    refine f2 (cap := []) (fun args w => Tryd.call139 args w) ?_
    refine i8 (Fi := []) (Fr := []) C6 (h) (fun d2Z a3D g5d u1 a4D c8s b8F d9x => ?_) (fun _ _ _ _ _ q => q.elim)
    obtain ⟨a1A, rfl, rfl, h⟩ := d9x
    exact ⟨a1A, a3D, by rfl, a4D, b8F, c8s, h⟩
   ·exact ⟨false, a5h, by rw [a3g c8r], C6, fun _ _ _ => rfl, Hle.refl _, h.2 c8r⟩
   ·clear h
    rintro d2Z u1 ⟨a1A, a3D, rfl, a4D, b8F, c8s, h⟩
    refine a7 (a5Z _ _) ?_
    refine u2 (fun d9y => ?_) (fun d9y => ?_)
    ·replace h := h.1 d9y
     exact hR false a3D _ a4D h
    ·replace h := h.2 d9y
     have hj1 : ∀ (H : Hp) (w : World) (_ : Inv w0 ps0 H0 H [] w) (_ : a6p H K), c4J w R E := by
      intro H w I h
      unfold c4J
      intro _
      unfold a6p at h
      exact hR true H _ I h
     refine A7 fun j1 hx1 => ?_
     refine d1w Tryd.underlying9 x0 a4D fun d3a E1 a6q b8G => ?_
     obtain ⟨d9z, c8t, g5e, g5f⟩ := h
     refine M9 (J := fun n l w => ∃ (s : Nat) (H : Hp) , n = c8t s ∧ l = [] ∧ Inv w0 ps0 H0 H [itf d3a x0 s] w ∧ d9z s H) ⟨_, 0, a3D, rfl, rfl, a6q, g5e⟩ ?_
     rintro h0O τ_94 w next2 ⟨N2, H, rfl, g5g, I, g5h⟩ hn2
     clear g5g
     obtain ⟨n2, hm2, h⟩ : ∃ n2 : Nat → Hp → Prop, (∀ s' H', n2 s' H' → d9z s' H' ∧ c8t s' < c8t N2) ∧ Q0 x0 N2 H n2 K := ⟨_, fun _ _ h => h, g5f N2 H (fun s' H' => d9z s' H' ∧ c8t s' < c8t N2) g5h (fun _ _ a b => ⟨a, b⟩)⟩
     unfold d1D
     unfold Q0 at h
     refine d6s I (fun b2r c8u d9A d9B => ?_) (fun b2r => ?_)
     ·replace h := h.1 b2r
      refine a7 (o0 _ _ (vB true) rfl) ?_
      refine u2 (fun e => ?_) (fun e => by cases e)
      refine a7 (o0 _ _ (vi ((N2 : Nat) : Int)) rfl) ?_
      refine a7 (o0 _ _ (Value.int .i32 ((Utf8.decode x0 N2).1 : Int)) rfl) ?_
      refine f2 (cap := []) (fun args w => Tryd.call140 args w) ?_
      refine i8 (Fi := []) (Fr := [itf d3a x0 (N2 + (Utf8.decode x0 N2).2)]) d9A (h) (fun c5b a8G d9C Z1 b2s d9D d3b c1c => ?_) (fun _ _ _ _ _ q => q.elim)
      obtain ⟨a3C, rfl, rfl, h⟩ := c1c
      refine a7 (a1N _) ?_
      simp only [O5]
      refine a7 (Pu.g fun hb => by have f4 := hb; simp only [p1 f4]; exact (m9 _ _ _ _ _ _)) ?_
      simp only [d2l, e8y]
      refine b3O (b1H _ _ _) ?_
      refine V6 (D := fun c8v b6o => ∃ (a5u : Int) (a5V : Hp) , c8v = (gv (!(!a3C) && (decide (((N2 : Nat) : Int) = 0))) true (vi a5u)) ∧ (Inv w0 ps0 H0 a5V [itf d3a x0 (N2 + (Utf8.decode x0 N2).2)] b6o) ∧ (∀ i, i < Z1.heap.size → ¬ inF [] i → b6o.heap[i]? = Z1.heap[i]?) ∧ Hle a8G a5V ∧ ((((!a3C) || ((decide (((N2 : Nat) : Int) = 0)) && (!decide (a5u = 3)))) = true →
 K false a5V) ∧
 (((!a3C) || ((decide (((N2 : Nat) : Int) = 0)) && (!decide (a5u = 3)))) = false →
 n2 (N2 + (Utf8.decode x0 N2).2) a5V))) (fun c5c => ?_) (fun c5c => ?_) ?_
      ·replace h := h.1 c5c
       obtain ⟨f4, c5d⟩ := b9B c5c
       simp only [p1 c5c]
       refine f2 (cap := []) (fun args w => Tryd.call141 args w) ?_
       refine i8 (Fi := []) (Fr := [itf d3a x0 (N2 + (Utf8.decode x0 N2).2)]) b2s (h) (fun c8v a5V f3C b6o b8H c5e d3c c8w => ?_) (fun _ _ _ _ _ q => q.elim)
       obtain ⟨a5u, rfl, rfl, h⟩ := c8w
       exact ⟨a5u, a5V, by rfl, b8H, d3c, c5e, h⟩
      ·exact ⟨0, a8G, by rw [a3g c5c], b2s, fun _ _ _ => rfl, Hle.refl _, h.2 c5c⟩
      ·clear h
       rintro c8v b6o ⟨a5u, a5V, rfl, b8H, d3c, c5e, h⟩
       refine a7 (Pu.e (b1H _ _ _) (Pu.g fun hb => by obtain ⟨f4, c5d⟩ := b9B hb; simp only [p1 hb]; exact (T0 _ _ _ _ _ _))) ?_
       refine a7 (Pu.g fun hb => by have f4 := hb; simp only [p1 f4, d6q f4]; exact (A6 _ _)) ?_
       refine a7 (a5Z _ _) ?_
       refine u2 (fun b2t => ?_) (fun b2t => ?_)
       ·replace h := h.1 b2t
        exact hR false a5V _ b8H.drop h
       ·replace h := h.2 b2t
        exact hn2 _ _ _ (hm2 _ _ h).2 ⟨(N2 + (Utf8.decode x0 N2).2), a5V, rfl, rfl, b8H, (hm2 _ _ h).1⟩
     ·replace h := h.2 b2r
      refine a7 (o0 _ _ (vB false) rfl) ?_
      refine u2 (fun e => by cases e) (fun e => ?_)
      exact hx1 _ _ (hj1 H _ I.drop h)
theorem c0u (x0 : ByteArray) {H : Hp} {K : Bool → Hp → Prop} (h : a5v x0 H K) : a5s x0 H K := by
 intro w I
 refine e4I ?_
 refine b8E x0 I (fun r0 H' w' I' hk => ⟨H', _, I', r0, rfl, rfl, hk⟩) h
def N6 (a9Q : Int) (a9R : Int) (a9S : Int) (a9T : Bool) (a9U : Bool) (b0H : (List ByteArray)) (H : Hp) (K : g9 → Hp → Prop) : Prop :=
 ∀ (a3P : Sl) (a9V : Hp), Hle H a9V → SlH a9V 1 J9 a3P b0H → a3P.n ≤ a3P.c →
 K (g9.mk a9Q a9R a9S a9T a9U a3P) a9V
def a3E (x0 : Sl) (H : Hp) (K : g9 → Hp → Prop) : Prop :=
 a0d x0 1 (g9.mk 0 0 0 false false (Sl.mk none 0 0)) [] H (fun (a2v : Bool) (G3 : g9) (a7T : (List ByteArray)) (a5i : Hp) =>
 ((!a2v) = true →
 N6 ((G3).fnodes) ((G3).fdepth) ((G3).fe) ((G3).fform) ((G3).fnamed) a7T a5i K) ∧
 ((!a2v) = false →
 (((G3).fform) = true →
 N6 ((G3).fnodes) ((G3).fdepth) 30 ((G3).fform) ((G3).fnamed) a7T a5i K) ∧
 (((G3).fform) = false →
 (((G3).fnamed) = true →
 N6 ((G3).fnodes) ((G3).fdepth) 31 ((G3).fform) ((G3).fnamed) a7T a5i K) ∧
 (((G3).fnamed) = false →
 N6 ((G3).fnodes) ((G3).fdepth) ((G3).fe) ((G3).fform) ((G3).fnamed) a7T a5i K))))
theorem b5u (x0 : Sl) {K : g9 → Hp → Prop} (I : Inv w0 ps0 H0 H [] w) (hR : ∀ (r0 : g9) (gr0 : Nat) (H' : Hp) (w' : World) (_ : Inv w0 ps0 H0 H' [bx gr0 106 (a7S r0)] w') (_ : K r0 H'), R (Value.pointer (some ⟨gr0, 0, none⟩)) w') (h : a3E x0 H K) : F60 (vs x0) w R E := by
 unfold a3E at h
 unfold F60
 refine a7 (d2q ) ?_
 refine J3 I (cs := [(vi 0), (vi 0), (vi 0), (vB false), (vB false), (nS)]) rfl fun g_2 w_3 I_4 k_5 => ?_
 refine y8 I_4 Tryd.zeroValue102 (cs := [(Value.pointer none)]) rfl fun g_7 w_8 I_9 a7x => ?_
 refine m6 I_9 Tryd.sizeOf102 (vs := [(Value.pointer (some ⟨g_2, 0, none⟩))]) (cs' := [(Value.pointer (some ⟨g_2, 0, none⟩))]) rfl rfl (nb rfl) rfl rfl fun P9 C6 b6m => ?_
 refine y8 C6 Tryd.zeroValue161 (cs := [Value.nilFunc]) rfl fun b6p s6 a9w f3D => ?_
 refine a7 (b4q _ _ _) ?_
 refine m6 a9w Tryd.sizeOf161 (vs := [(Value.func (.func 99) #[] #[(Value.pointer (some ⟨g_7, 0, none⟩)), (Value.pointer (some ⟨b6p, 0, none⟩))])]) (cs' := [(Value.func (.func 99) #[] #[(Value.pointer (some ⟨g_7, 0, none⟩)), (Value.pointer (some ⟨b6p, 0, none⟩))])]) rfl rfl (nb rfl) rfl rfl fun a0D b4C d9E => ?_
 have hj1 : ∀ (a9Q : Int) (a9R : Int) (a9S : Int) (a9T : Bool) (a9U : Bool) (b0H : (List ByteArray)) (a3P : Sl) (Fcr_1j1_5 : Frag) (H : Hp) (w : World) (_ : RowL 9 1 J9 a3P b0H Fcr_1j1_5) (_ : Inv w0 ps0 H0 H [bx g_7 102 [(Value.pointer (some ⟨g_2, 0, none⟩))], bx g_2 106 [(vi a9Q), (vi a9R), (vi a9S), (vB a9T), (vB a9U), (vs a3P)], bx b6p 161 [(Value.func (.func 99) #[] #[(Value.pointer (some ⟨g_7, 0, none⟩)), (Value.pointer (some ⟨b6p, 0, none⟩))])], Fcr_1j1_5] w) (_ : N6 a9Q a9R a9S a9T a9U b0H H K), c7A (Value.pointer (some ⟨g_7, 0, none⟩)) w R E := by
  intro a9Q a9R a9S a9T a9U b0H a3P Fcr_1j1_5 H w d7w I h
  unfold c7A
  intro _
  unfold N6 at h
  refine d6 (ld1 Tryd.isAgg102 (I.at1 (o := 0) (vs := [(Value.pointer (some ⟨g_2, 0, none⟩))]) (nb rfl) rfl)) ?_
  obtain ⟨a9V, a1u, g5i, a5j, c8x⟩ := Inv.freezeC (I.bring 3) d7w (by decide)
  replace h := h a3P a9V g5i a5j c8x
  exact hR (g9.mk a9Q a9R a9S a9T a9U a3P) g_2 a9V _ (a1u.drop.bring 1).drop h
 refine A7 fun j1 hx1 => ?_
 refine d6 (ld1 Tryd.isAgg161 (b4C.at1 (o := 0) (vs := [(Value.func (.func 99) #[] #[(Value.pointer (some ⟨g_7, 0, none⟩)), (Value.pointer (some ⟨b6p, 0, none⟩))])]) (nb rfl) rfl)) ?_
 refine f2 (cap := [(Value.pointer (some ⟨g_7, 0, none⟩)), (Value.pointer (some ⟨b6p, 0, none⟩))]) (fun args w => Tryd.call99 args w) ?_
 refine i8 (Fi := [bx g_7 102 [(Value.pointer (some ⟨g_2, 0, none⟩))], bx g_2 106 [(vi 0), (vi 0), (vi 0), (vB false), (vB false), (Value.slice (Sl.mk none 0 0).a (Sl.mk none 0 0).n (Sl.mk none 0 0).c)], [], bx b6p 161 [(Value.func (.func 99) #[] #[(Value.pointer (some ⟨g_7, 0, none⟩)), (Value.pointer (some ⟨b6p, 0, none⟩))])]]) (Fr := []) ((((b4C.nil.bring 1).bring 1).bring 3).bring 3) (h g_7 g_2 b6p (Sl.mk none 0 0) ([]) (RowL.nil (e := 9) c0J c0K)) (fun d9F a5i c8y y6 a5T d9G d2Y c1d => ?_) (fun _ _ _ _ _ q => q.elim)
 obtain ⟨a2v, G3, a7T, a9W, b6q, rfl, rfl, b6r, h⟩ := c1d
 refine a7 (a1N _) ?_
 refine u2 (fun d9H => ?_) (fun d9H => ?_)
 ·replace h := h.1 d9H
  exact hx1 _ _ (hj1 ((G3).fnodes) ((G3).fdepth) ((G3).fe) ((G3).fform) ((G3).fnamed) a7T a9W b6q a5i _ b6r ((((a5T.bring 2).bring 3).bring 3).bring 3) h)
 ·replace h := h.2 d9H
  refine d6 (ld1 Tryd.isAgg102 (a5T.at1 (o := 0) (vs := [(Value.pointer (some ⟨g_2, 0, none⟩))]) (nb rfl) rfl)) ?_
  refine a7 (I0 _) ?_
  refine a7 b4u ?_
  refine d6 (ld1 Tryd.isAgg4 ((a5T.bring 1).at1 (o := 3) (vs := [(vB ((G3).fform))]) (nb rfl) rfl)) ?_
  refine u2 (fun T5 => ?_) (fun T5 => ?_)
  ·replace h := h.1 T5
   refine d6 (ld1 Tryd.isAgg102 (a5T.at1 (o := 0) (vs := [(Value.pointer (some ⟨g_2, 0, none⟩))]) (nb rfl) rfl)) ?_
   refine a7 (I0 _) ?_
   refine a7 a0b ?_
   refine m6 (a5T.bring 1) Tryd.sizeOf29 (vs := [(vi 30)]) (cs' := [(vi ((G3).fnodes)), (vi ((G3).fdepth)), (vi 30), (vB ((G3).fform)), (vB ((G3).fnamed)), (vs a9W)]) rfl rfl (nb rfl) rfl rfl fun b4D b0U d3d => ?_
   exact hx1 _ _ (hj1 ((G3).fnodes) ((G3).fdepth) 30 ((G3).fform) ((G3).fnamed) a7T a9W b6q a5i _ b6r ((((b0U.bring 2).bring 3).bring 2).bring 3) h)
  ·replace h := h.2 T5
   refine d6 (ld1 Tryd.isAgg102 (a5T.at1 (o := 0) (vs := [(Value.pointer (some ⟨g_2, 0, none⟩))]) (nb rfl) rfl)) ?_
   refine a7 (I0 _) ?_
   refine a7 b4v ?_
   refine d6 (ld1 Tryd.isAgg4 ((a5T.bring 1).at1 (o := 4) (vs := [(vB ((G3).fnamed))]) (nb rfl) rfl)) ?_
   refine u2 (fun d9I => ?_) (fun d9I => ?_)
   ·replace h := h.1 d9I
    refine d6 (ld1 Tryd.isAgg102 (a5T.at1 (o := 0) (vs := [(Value.pointer (some ⟨g_2, 0, none⟩))]) (nb rfl) rfl)) ?_
    refine a7 (I0 _) ?_
    refine a7 a0b ?_
    refine m6 (a5T.bring 1) Tryd.sizeOf29 (vs := [(vi 31)]) (cs' := [(vi ((G3).fnodes)), (vi ((G3).fdepth)), (vi 31), (vB ((G3).fform)), (vB ((G3).fnamed)), (vs a9W)]) rfl rfl (nb rfl) rfl rfl fun L9 b2u c8z => ?_
    exact hx1 _ _ (hj1 ((G3).fnodes) ((G3).fdepth) 31 ((G3).fform) ((G3).fnamed) a7T a9W b6q a5i _ b6r ((((b2u.bring 2).bring 3).bring 2).bring 3) h)
   ·replace h := h.2 d9I
    exact hx1 _ _ (hj1 ((G3).fnodes) ((G3).fdepth) ((G3).fe) ((G3).fform) ((G3).fnamed) a7T a9W b6q a5i _ b6r ((((a5T.bring 2).bring 3).bring 3).bring 3) h)
theorem b6s (x0 : Sl) {H : Hp} {K : g9 → Hp → Prop} (h : a3E x0 H K) : a0V x0 H K := by
 intro w I
 refine e9w ?_
 refine b5u x0 I (fun r0 gr0 H' w' I' hk => ⟨H', _, I', r0, gr0, rfl, rfl, hk⟩) h
def D1 (F5 : (List d7)) (H : Hp) (K : Sl → Hp → Prop) : Prop :=
 ∀ (s8 : Sl) (F8 : Hp), Hle H F8 → SlH F8 1 t6 s8 F5 → s8.n ≤ s8.c →
 K s8 F8
def D2 (K4 : Sl) (R4 : Int) (m8 : (List d7)) (j8 : Int) (H : Hp) (n2 : ((List d7) × Int) → Hp → Prop) (K : Sl → Hp → Prop) : Prop :=
 (j8 < R4 →
 (0 : Int) ≤ j8 ∧ (j8 : Int) < K4.n ∧ ∃ x_1 : t1, EltH H K4 j8 2 (p6 x_1) ∧
 a9s x_1 H (fun (B3 : d7) (M5 : Hp) =>
 (m8.length + ([B3] : List d7).length) * 17 ≤ 140737488355328 ∧
 n2 ((m8 ++ [B3]), (IntKind.wrap .i64 (j8 + 1))) M5)) ∧
 (¬ (j8 < R4) →
 D1 m8 H K)
def E7 (x0 : Sl) (H : Hp) (K : Sl → Hp → Prop) : Prop :=
 TL (([], 0) : (List d7) × Int) H fun (s : (List d7) × Int) H n2 => D2 x0 (x0.n : Int) s.1 s.2 H n2 K
theorem a1Q (x0 : Sl) {K : Sl → Hp → Prop} (I : Inv w0 ps0 H0 H [] w) (hR : ∀ (r0 : Sl) (H' : Hp) (w' : World) (_ : Inv w0 ps0 H0 H' [] w') (_ : K r0 H'), R (vs r0) w') (h : E7 x0 H K) : F88 (vs x0) (fC 89) w R E := by
 unfold E7 at h
 unfold F88
 have hj1 : ∀ (F5 : (List d7)) (s8 : Sl) (Fs5j1 : Frag) (H : Hp) (w : World) (_ : RowL 152 1 t6 s8 F5 Fs5j1) (_ : Inv w0 ps0 H0 H [Fs5j1] w) (_ : D1 F5 H K), c7J (vs s8) w R E := by
  intro F5 s8 Fs5j1 H w a4T I h
  unfold c7J
  intro _
  unfold D1 at h
  obtain ⟨F8, a0Y, a5W, a1v, a3F⟩ := Inv.freezeC I a4T (by decide)
  replace h := h s8 F8 a5W a1v a3F
  exact hR s8 F8 _ a0Y h
 refine A7 fun j1 hx1 => ?_
 refine a7 (b0C _ _ _) ?_
 obtain ⟨X1, M0, a7y, a0Z⟩ := h
 refine M9 (J := fun n l w => ∃ (s : (List d7) × Int) (H : Hp) (F6 : Sl) (Fs5l2 : Frag) , n = M0 s ∧ l = (match s with | (m8, j8) => [(vs F6), (vi j8)]) ∧ (match s with | (m8, j8) => RowL 152 1 t6 F6 m8 Fs5l2) ∧ (match s with | (m8, j8) => Inv w0 ps0 H0 H [Fs5l2] w) ∧ X1 s H) ⟨_, ([], 0), H, (Sl.mk none 0 0), [], rfl, rfl, (RowL.nil O3 P0), I.nil, a7y⟩ ?_
 rintro b8I τ_50 w next2 ⟨⟨m8, j8⟩, H, F6, Fs5l2, rfl, V4, Q1, I, a7z⟩ hn2
 dsimp only at V4 I Q1
 simp only [List.map_cons, List.map_nil, List.cons.injEq, and_true] at V4
 obtain ⟨e5, e10⟩ := V4
 simp only [e5, e10]
 obtain ⟨n2, hm2, h⟩ : ∃ n2 : ((List d7) × Int) → Hp → Prop, (∀ s' H', n2 s' H' → X1 s' H' ∧ M0 s' < M0 (m8, j8)) ∧ D2 x0 (x0.n : Int) m8 j8 H n2 K := ⟨_, fun _ _ h => h, a0Z (m8, j8) H (fun s' H' => X1 s' H' ∧ M0 s' < M0 (m8, j8)) a7z (fun _ _ a b => ⟨a, b⟩)⟩
 unfold d6I
 unfold D2 at h
 refine a7 (F4 _ _ _ _ _ _) ?_
 refine j7 (fun T5 => ?_) (fun T5 => ?_)
 ·replace h := h.1 T5
  obtain ⟨h_4, h_5, x_1, h_7, h⟩ := h
  obtain ⟨g_2, o_3, h_6, h_7⟩ := h_7
  refine a7 (b6c h_6 _ _ _ _ h_4 h_5) ?_
  refine d6 (ldA (vs := (p6 x_1)) Tryd.isAgg58 Tryd.sizeOf58 rfl (I.atH h_7)) ?_
  refine y8 I Tryd.zeroValue58 (cs := [(eS), (vi 0)]) rfl fun g_9 o7 V5 a7A => ?_
  refine m6 V5 Tryd.sizeOf58 (vs := (p6 x_1)) (cs' := (p6 x_1)) rfl rfl (nb rfl) rfl rfl fun V0 J6 a1w => ?_
  refine d6 (ldA Tryd.isAgg58 Tryd.sizeOf58 rfl (J6.at1 (o := 0) (vs := (p6 x_1)) (nb rfl) rfl)) ?_
  refine f2 (cap := []) (fun args w => Tryd.call89 args w) ?_
  refine i8 (Fi := []) (Fr := [bx g_9 58 (p6 x_1), Fs5l2]) J6 (h) (fun b4E M5 b2v Y8 a0E b4F b4G a5k => ?_) (fun _ _ _ _ _ q => q.elim)
  obtain ⟨B3, rfl, rfl, h⟩ := a5k
  refine a3h (e := 152) (c := t6) (xs := [B3]) a0E (a9M _) rfl rfl O3 P0 (nb rfl) fun b0V a9x E5 a4d S8 a8h => ?_
  obtain ⟨a5l, h⟩ := h
  refine b5m (s := F6) (xs := m8) (S8.bring 2) Q1 (a4d.srcO ((S8.bring 2).bring 1)) a5l fun a3G a6Y E3 a5j a1x a9X => ?_
  refine a7 (K3 _ _ _ _ _ _) ?_
  exact hn2 _ _ _ (hm2 _ _ h).2 ⟨((m8 ++ [B3]), (IntKind.wrap .i64 (j8 + 1))), M5, a3G, a6Y, rfl, rfl, a5j, ((a1x.bring 1).drop.bring 1).drop, (hm2 _ _ h).1⟩
 ·replace h := h.2 T5
  exact hx1 _ _ (hj1 m8 F6 Fs5l2 H _ Q1 I h)
theorem a1Y (x0 : Sl) {H : Hp} {K : Sl → Hp → Prop} (h : E7 x0 H K) : L5 x0 H K := by
 intro w I
 refine e9J ?_
 refine a1Q x0 I (fun r0 H' w' I' hk => ⟨H', _, I', r0, rfl, rfl, hk⟩) h
def D3 (F5 : (List d7)) (H : Hp) (K : Sl → Hp → Prop) : Prop :=
 ∀ (s8 : Sl) (F8 : Hp), Hle H F8 → SlH F8 1 t6 s8 F5 → s8.n ≤ s8.c →
 K s8 F8
def D4 (K4 : Sl) (R4 : Int) (m8 : (List d7)) (j8 : Int) (H : Hp) (n2 : ((List d7) × Int) → Hp → Prop) (K : Sl → Hp → Prop) : Prop :=
 (j8 < R4 →
 (0 : Int) ≤ j8 ∧ (j8 : Int) < K4.n ∧ ∃ x_1 : b9, EltH H K4 j8 6 (d8 x_1) ∧
 a9t x_1 H (fun (B3 : d7) (M5 : Hp) =>
 (m8.length + ([B3] : List d7).length) * 17 ≤ 140737488355328 ∧
 n2 ((m8 ++ [B3]), (IntKind.wrap .i64 (j8 + 1))) M5)) ∧
 (¬ (j8 < R4) →
 D3 m8 H K)
def E8 (x0 : Sl) (H : Hp) (K : Sl → Hp → Prop) : Prop :=
 TL (([], 0) : (List d7) × Int) H fun (s : (List d7) × Int) H n2 => D4 x0 (x0.n : Int) s.1 s.2 H n2 K
theorem a1R (x0 : Sl) {K : Sl → Hp → Prop} (I : Inv w0 ps0 H0 H [] w) (hR : ∀ (r0 : Sl) (H' : Hp) (w' : World) (_ : Inv w0 ps0 H0 H' [] w') (_ : K r0 H'), R (vs r0) w') (h : E8 x0 H K) : F90 (vs x0) (fC 91) w R E := by
 unfold E8 at h
 unfold F90
 have hj1 : ∀ (F5 : (List d7)) (s8 : Sl) (Fs5j1 : Frag) (H : Hp) (w : World) (_ : RowL 152 1 t6 s8 F5 Fs5j1) (_ : Inv w0 ps0 H0 H [Fs5j1] w) (_ : D3 F5 H K), c7K (vs s8) w R E := by
  intro F5 s8 Fs5j1 H w a4T I h
  unfold c7K
  intro _
  unfold D3 at h
  obtain ⟨F8, a0Y, a5W, a1v, a3F⟩ := Inv.freezeC I a4T (by decide)
  replace h := h s8 F8 a5W a1v a3F
  exact hR s8 F8 _ a0Y h
 refine A7 fun j1 hx1 => ?_
 refine a7 (a3O _ _ _) ?_
 obtain ⟨X1, M0, a7y, a0Z⟩ := h
 refine M9 (J := fun n l w => ∃ (s : (List d7) × Int) (H : Hp) (F6 : Sl) (Fs5l2 : Frag) , n = M0 s ∧ l = (match s with | (m8, j8) => [(vs F6), (vi j8)]) ∧ (match s with | (m8, j8) => RowL 152 1 t6 F6 m8 Fs5l2) ∧ (match s with | (m8, j8) => Inv w0 ps0 H0 H [Fs5l2] w) ∧ X1 s H) ⟨_, ([], 0), H, (Sl.mk none 0 0), [], rfl, rfl, (RowL.nil O3 P0), I.nil, a7y⟩ ?_
 rintro b8I τ_50 w next2 ⟨⟨m8, j8⟩, H, F6, Fs5l2, rfl, V4, Q1, I, a7z⟩ hn2
 dsimp only at V4 I Q1
 simp only [List.map_cons, List.map_nil, List.cons.injEq, and_true] at V4
 obtain ⟨e5, e10⟩ := V4
 simp only [e5, e10]
 obtain ⟨n2, hm2, h⟩ : ∃ n2 : ((List d7) × Int) → Hp → Prop, (∀ s' H', n2 s' H' → X1 s' H' ∧ M0 s' < M0 (m8, j8)) ∧ D4 x0 (x0.n : Int) m8 j8 H n2 K := ⟨_, fun _ _ h => h, a0Z (m8, j8) H (fun s' H' => X1 s' H' ∧ M0 s' < M0 (m8, j8)) a7z (fun _ _ a b => ⟨a, b⟩)⟩
 unfold d6J
 unfold D4 at h
 refine a7 (F4 _ _ _ _ _ _) ?_
 refine j7 (fun T5 => ?_) (fun T5 => ?_)
 ·replace h := h.1 T5
  obtain ⟨h_4, h_5, x_1, h_7, h⟩ := h
  obtain ⟨g_2, o_3, h_6, h_7⟩ := h_7
  refine a7 (a9K h_6 _ _ _ _ h_4 h_5) ?_
  refine d6 (ldA (vs := (d8 x_1)) Tryd.isAgg63 Tryd.sizeOf63 rfl (I.atH h_7)) ?_
  refine y8 I Tryd.zeroValue63 (cs := [(vi 0), (eS), (nS), (nS), (nS), (nS)]) rfl fun g_9 o7 V5 a7A => ?_
  refine m6 V5 Tryd.sizeOf63 (vs := (d8 x_1)) (cs' := (d8 x_1)) rfl rfl (nb rfl) rfl rfl fun V0 J6 a1w => ?_
  refine d6 (ldA Tryd.isAgg63 Tryd.sizeOf63 rfl (J6.at1 (o := 0) (vs := (d8 x_1)) (nb rfl) rfl)) ?_
  refine f2 (cap := []) (fun args w => Tryd.call91 args w) ?_
  refine i8 (Fi := []) (Fr := [bx g_9 63 (d8 x_1), Fs5l2]) J6 (h) (fun b4E M5 b2v Y8 a0E b4F b4G a5k => ?_) (fun _ _ _ _ _ q => q.elim)
  obtain ⟨B3, rfl, rfl, h⟩ := a5k
  refine a3h (e := 152) (c := t6) (xs := [B3]) a0E (a9M _) rfl rfl O3 P0 (nb rfl) fun b0V a9x E5 a4d S8 a8h => ?_
  obtain ⟨a5l, h⟩ := h
  refine b5m (s := F6) (xs := m8) (S8.bring 2) Q1 (a4d.srcO ((S8.bring 2).bring 1)) a5l fun a3G a6Y E3 a5j a1x a9X => ?_
  refine a7 (K3 _ _ _ _ _ _) ?_
  exact hn2 _ _ _ (hm2 _ _ h).2 ⟨((m8 ++ [B3]), (IntKind.wrap .i64 (j8 + 1))), M5, a3G, a6Y, rfl, rfl, a5j, ((a1x.bring 1).drop.bring 1).drop, (hm2 _ _ h).1⟩
 ·replace h := h.2 T5
  exact hx1 _ _ (hj1 m8 F6 Fs5l2 H _ Q1 I h)
theorem a1Z (x0 : Sl) {H : Hp} {K : Sl → Hp → Prop} (h : E8 x0 H K) : A0 x0 H K := by
 intro w I
 refine e9N ?_
 refine a1R x0 I (fun r0 H' w' I' hk => ⟨H', _, I', r0, rfl, rfl, hk⟩) h
def a4l (x0 : j6) (H : Hp) (K : Int → Int → Hp → Prop) : Prop :=
 a3u x0 H (fun (D5 : g9) (H_6 : Hp) =>
 (¬ (D5.fe = 0) →
 K 0 D5.fe H_6) ∧
 (D5.fe = 0 →
 K D5.fnodes 0 H_6))
theorem b6t (x0 : j6) {K : Int → Int → Hp → Prop} (I : Inv w0 ps0 H0 H [] w) (hR : ∀ (r0 : Int) (r1 : Int) (H' : Hp) (w' : World) (_ : Inv w0 ps0 H0 H' [] w') (_ : K r0 r1 H'), R (Value.tuple #[(vi r0), (vi r1)]) w') (h : a4l x0 H K) : F33 (Value.agg (f5 x0).toArray) w R E := by
 unfold a4l at h
 unfold F33
 refine J3 I (cs := (f5 x0)) rfl fun g_2 w_3 I_4 k_5 => ?_
 refine d6 (ldA Tryd.isAgg44 Tryd.sizeOf44 rfl (I_4.at1 (o := 0) (vs := (f5 x0)) (nb rfl) rfl)) ?_
 refine f2 (cap := []) (fun args w => Tryd.call52 args w) ?_
 refine i8 (Fi := []) (Fr := [bx g_2 44 (f5 x0)]) I_4 (h) (fun b6u H_6 b6v w_7 I_8 b6w k_9 a6r => ?_) (fun _ _ _ _ _ q => q.elim)
 obtain ⟨D5, d7x, rfl, rfl, h⟩ := a6r
 refine a7 (I0 _) ?_
 refine a7 a0b ?_
 refine d6 (ld1 Tryd.isAgg29 (I_8.at1 (o := 2) (vs := [(vi D5.fe)]) (nb rfl) rfl)) ?_
 refine a7 (T0 _ _ _ _ _ _) ?_
 refine a0s (fun a4e => ?_) (fun a4e => ?_)
 ·replace h := h.1 a4e
  refine a3v I_8 fun s6 a9w => ?_
  refine r9 (I0 _) ?_
  refine r9 a0b ?_
  refine K0 (ld1 Tryd.isAgg29 (a9w.at1 (o := 2) (vs := [(vi D5.fe)]) (nb rfl) rfl)) ?_
  exact hR 0 D5.fe H_6 _ a9w.drop.drop h
 ·replace h := h.2 a4e
  refine a7 (I0 _) ?_
  refine a7 b0w ?_
  refine d6 (ld1 Tryd.isAgg3 (I_8.at1 (o := 0) (vs := [(vi D5.fnodes)]) (nb rfl) rfl)) ?_
  exact hR D5.fnodes 0 H_6 _ I_8.drop.drop h
theorem b7I (x0 : j6) {H : Hp} {K : Int → Int → Hp → Prop} (h : a4l x0 H K) : a4j x0 H K := by
 intro w I
 refine e8P ?_
 refine b6t x0 I (fun r0 r1 H' w' I' hk => ⟨H', _, I', r0, r1, rfl, rfl, hk⟩) h
def a2w (x0 : b9) (x1 : b9) (H : Hp) (K : Bool → Hp → Prop) : Prop :=
 TG (((decide (x0.a8 = x1.a8)) && (decide (x0.b7 = x1.b7))) = true) (o6 x0.g8 x1.g8 H) false H (fun (g5 : Bool) (F3 : Hp) =>
 TG ((((decide (x0.a8 = x1.a8)) && (decide (x0.b7 = x1.b7))) && g5) = true) (j9 x0.o9 x1.o9 F3) false F3 (fun (J2 : Bool) (S9 : Hp) =>
 TG (((((decide (x0.a8 = x1.a8)) && (decide (x0.b7 = x1.b7))) && g5) && J2) = true) (d9 x0.v6 x1.v6 S9) false S9 (fun (Q8 : Bool) (X8 : Hp) =>
 TG ((((((decide (x0.a8 = x1.a8)) && (decide (x0.b7 = x1.b7))) && g5) && J2) && Q8) = true) (d9 x0.t7 x1.t7 X8) false X8 (fun (Q9 : Bool) (R5 : Hp) =>
 K ((((((decide (x0.a8 = x1.a8)) && (decide (x0.b7 = x1.b7))) && g5) && J2) && Q8) && Q9) R5))))
theorem b3s (x0 : b9) (x1 : b9) {K : Bool → Hp → Prop} (I : Inv w0 ps0 H0 H [] w) (hR : ∀ (r0 : Bool) (H' : Hp) (w' : World) (_ : Inv w0 ps0 H0 H' [] w') (_ : K r0 H'), R (vB r0) w') (h : a2w x0 x1 H K) : F59 (Value.agg (d8 x0).toArray) (Value.agg (d8 x1).toArray) w R E := by
 unfold a2w at h
 unfold F59
 refine J3 I (cs := (d8 x0)) rfl fun g_2 w_3 I_4 k_5 => ?_
 refine J3 I_4 (cs := (d8 x1)) rfl fun g_7 w_8 I_9 a7x => ?_
 refine a7 a0R ?_
 refine d6 (ld1 Tryd.isAgg3 ((I_9.bring 1).at1 (o := 0) (vs := [(vi x0.a8)]) (nb rfl) rfl)) ?_
 refine a7 a0R ?_
 refine d6 (ld1 Tryd.isAgg3 (I_9.at1 (o := 0) (vs := [(vi x1.a8)]) (nb rfl) rfl)) ?_
 refine a7 (m9 _ _ _ _ _ _) ?_
 refine a7 (Pu.g fun hb => by have f4 := hb; exact a4M) ?_
 refine d6 (Ld.g fun hb => by have f4 := hb; simp only [p1 f4]; exact (ld1 Tryd.isAgg9 ((I_9.bring 1).at1 (o := 1) (vs := [(Value.string x0.b7)]) (nb rfl) rfl))) ?_
 refine a7 (Pu.g fun hb => by have f4 := hb; exact a4M) ?_
 refine d6 (Ld.g fun hb => by have f4 := hb; simp only [p1 f4]; exact (ld1 Tryd.isAgg9 (I_9.at1 (o := 1) (vs := [(Value.string x1.b7)]) (nb rfl) rfl))) ?_
 refine a7 (Pu.g fun hb => by have f4 := hb; simp only [p1 f4]; exact (a1O _ _ _ _ _)) ?_
 refine a7 (A6 _ _) ?_
 refine a7 (Pu.g fun hb => by have f4 := hb; exact a3w) ?_
 refine d6 (Ld.g fun hb => by have f4 := hb; simp only [p1 f4]; exact (ld1 Tryd.isAgg22 ((I_9.bring 1).at1 (o := 2) (vs := [(vs x0.g8)]) (nb rfl) rfl))) ?_
 refine a7 (Pu.g fun hb => by have f4 := hb; exact a3w) ?_
 refine d6 (Ld.g fun hb => by have f4 := hb; simp only [p1 f4]; exact (ld1 Tryd.isAgg22 (I_9.at1 (o := 2) (vs := [(vs x1.g8)]) (nb rfl) rfl))) ?_
 refine V6 (D := fun a6Z o4 => ∃ (g5 : Bool) (F3 : Hp) , a6Z = (gv ((decide (x0.a8 = x1.a8)) && (decide (x0.b7 = x1.b7))) true (vB g5)) ∧ (Inv w0 ps0 H0 F3 [bx g_7 63 (d8 x1), bx g_2 63 (d8 x0)] o4) ∧ (∀ i, i < w_8.heap.size → ¬ inF [] i → o4.heap[i]? = w_8.heap[i]?) ∧ Hle H F3 ∧ (TG ((((decide (x0.a8 = x1.a8)) && (decide (x0.b7 = x1.b7))) && g5) = true) (j9 x0.o9 x1.o9 F3) false F3 (fun (J2 : Bool) (S9 : Hp) =>
 TG (((((decide (x0.a8 = x1.a8)) && (decide (x0.b7 = x1.b7))) && g5) && J2) = true) (d9 x0.v6 x1.v6 S9) false S9 (fun (Q8 : Bool) (X8 : Hp) =>
 TG ((((((decide (x0.a8 = x1.a8)) && (decide (x0.b7 = x1.b7))) && g5) && J2) && Q8) = true) (d9 x0.t7 x1.t7 X8) false X8 (fun (Q9 : Bool) (R5 : Hp) =>
 K ((((((decide (x0.a8 = x1.a8)) && (decide (x0.b7 = x1.b7))) && g5) && J2) && Q8) && Q9) R5))))) (fun c8A => ?_) (fun c8A => ?_) ?_
 ·replace h := h.1 c8A
  have f4 := c8A
  simp only [p1 f4]
  refine f2 (cap := []) (fun args w => Tryd.call95 args w) ?_
  refine i8 (Fi := []) (Fr := [bx g_7 63 (d8 x1), bx g_2 63 (d8 x0)]) I_9 (h) (fun a6Z F3 b2w o4 R8 a7B a7C a6s => ?_) (fun _ _ _ _ _ q => q.elim)
  obtain ⟨g5, rfl, rfl, h⟩ := a6s
  exact ⟨g5, F3, by rfl, R8, a7C, a7B, h⟩
 ·exact ⟨false, H, by rw [a3g c8A], I_9, fun _ _ _ => rfl, Hle.refl _, h.2 c8A⟩
 ·clear h
  rintro a6Z o4 ⟨g5, F3, rfl, R8, a7C, a7B, h⟩
  refine a7 (A6 _ _) ?_
  refine a7 (Pu.g fun hb => by have f4 := hb; exact a0S) ?_
  refine d6 (Ld.g fun hb => by have f4 := hb; simp only [p1 f4]; exact (ld1 Tryd.isAgg25 ((R8.bring 1).at1 (o := 3) (vs := [(vs x0.o9)]) (nb rfl) rfl))) ?_
  refine a7 (Pu.g fun hb => by have f4 := hb; exact a0S) ?_
  refine d6 (Ld.g fun hb => by have f4 := hb; simp only [p1 f4]; exact (ld1 Tryd.isAgg25 (R8.at1 (o := 3) (vs := [(vs x1.o9)]) (nb rfl) rfl))) ?_
  refine V6 (D := fun b2x U1 => ∃ (J2 : Bool) (S9 : Hp) , b2x = (gv (((decide (x0.a8 = x1.a8)) && (decide (x0.b7 = x1.b7))) && g5) true (vB J2)) ∧ (Inv w0 ps0 H0 S9 [bx g_7 63 (d8 x1), bx g_2 63 (d8 x0)] U1) ∧ (∀ i, i < o4.heap.size → ¬ inF [] i → U1.heap[i]? = o4.heap[i]?) ∧ Hle F3 S9 ∧ (TG (((((decide (x0.a8 = x1.a8)) && (decide (x0.b7 = x1.b7))) && g5) && J2) = true) (d9 x0.v6 x1.v6 S9) false S9 (fun (Q8 : Bool) (X8 : Hp) =>
 TG ((((((decide (x0.a8 = x1.a8)) && (decide (x0.b7 = x1.b7))) && g5) && J2) && Q8) = true) (d9 x0.t7 x1.t7 X8) false X8 (fun (Q9 : Bool) (R5 : Hp) =>
 K ((((((decide (x0.a8 = x1.a8)) && (decide (x0.b7 = x1.b7))) && g5) && J2) && Q8) && Q9) R5)))) (fun b2y => ?_) (fun b2y => ?_) ?_
  ·replace h := h.1 b2y
   have f4 := b2y
   simp only [p1 f4]
   refine f2 (cap := []) (fun args w => Tryd.call97 args w) ?_
   refine i8 (Fi := []) (Fr := [bx g_7 63 (d8 x1), bx g_2 63 (d8 x0)]) R8 (h) (fun b2x S9 f3E U1 a4C b0T b4A c8B => ?_) (fun _ _ _ _ _ q => q.elim)
   obtain ⟨J2, rfl, rfl, h⟩ := c8B
   exact ⟨J2, S9, by rfl, a4C, b4A, b0T, h⟩
  ·exact ⟨false, F3, by rw [a3g b2y], R8, fun _ _ _ => rfl, Hle.refl _, h.2 b2y⟩
  ·clear h
   rintro b2x U1 ⟨J2, S9, rfl, a4C, b4A, b0T, h⟩
   refine a7 (A6 _ _) ?_
   refine a7 (Pu.g fun hb => by have f4 := hb; exact a2o) ?_
   refine d6 (Ld.g fun hb => by have f4 := hb; simp only [p1 f4]; exact (ld1 Tryd.isAgg42 ((a4C.bring 1).at1 (o := 4) (vs := [(vs x0.v6)]) (nb rfl) rfl))) ?_
   refine a7 (Pu.g fun hb => by have f4 := hb; exact a2o) ?_
   refine d6 (Ld.g fun hb => by have f4 := hb; simp only [p1 f4]; exact (ld1 Tryd.isAgg42 (a4C.at1 (o := 4) (vs := [(vs x1.v6)]) (nb rfl) rfl))) ?_
   refine V6 (D := fun c1e E1 => ∃ (Q8 : Bool) (X8 : Hp) , c1e = (gv ((((decide (x0.a8 = x1.a8)) && (decide (x0.b7 = x1.b7))) && g5) && J2) true (vB Q8)) ∧ (Inv w0 ps0 H0 X8 [bx g_7 63 (d8 x1), bx g_2 63 (d8 x0)] E1) ∧ (∀ i, i < U1.heap.size → ¬ inF [] i → E1.heap[i]? = U1.heap[i]?) ∧ Hle S9 X8 ∧ (TG ((((((decide (x0.a8 = x1.a8)) && (decide (x0.b7 = x1.b7))) && g5) && J2) && Q8) = true) (d9 x0.t7 x1.t7 X8) false X8 (fun (Q9 : Bool) (R5 : Hp) =>
 K ((((((decide (x0.a8 = x1.a8)) && (decide (x0.b7 = x1.b7))) && g5) && J2) && Q8) && Q9) R5))) (fun a0Z => ?_) (fun a0Z => ?_) ?_
   ·replace h := h.1 a0Z
    have f4 := a0Z
    simp only [p1 f4]
    refine f2 (cap := []) (fun args w => Tryd.call58 args w) ?_
    refine i8 (Fi := []) (Fr := [bx g_7 63 (d8 x1), bx g_2 63 (d8 x0)]) a4C (h) (fun c1e X8 g5j E1 a6q c1f b8G d9J => ?_) (fun _ _ _ _ _ q => q.elim)
    obtain ⟨Q8, rfl, rfl, h⟩ := d9J
    exact ⟨Q8, X8, by rfl, a6q, b8G, c1f, h⟩
   ·exact ⟨false, S9, by rw [a3g a0Z], a4C, fun _ _ _ => rfl, Hle.refl _, h.2 a0Z⟩
   ·clear h
    rintro c1e E1 ⟨Q8, X8, rfl, a6q, b8G, c1f, h⟩
    refine a7 (A6 _ _) ?_
    refine a7 (Pu.g fun hb => by have f4 := hb; exact a0T) ?_
    refine d6 (Ld.g fun hb => by have f4 := hb; simp only [p1 f4]; exact (ld1 Tryd.isAgg42 ((a6q.bring 1).at1 (o := 5) (vs := [(vs x0.t7)]) (nb rfl) rfl))) ?_
    refine a7 (Pu.g fun hb => by have f4 := hb; exact a0T) ?_
    refine d6 (Ld.g fun hb => by have f4 := hb; simp only [p1 f4]; exact (ld1 Tryd.isAgg42 (a6q.at1 (o := 5) (vs := [(vs x1.t7)]) (nb rfl) rfl))) ?_
    refine V6 (D := fun b6x a8i => ∃ (Q9 : Bool) (R5 : Hp) , b6x = (gv (((((decide (x0.a8 = x1.a8)) && (decide (x0.b7 = x1.b7))) && g5) && J2) && Q8) true (vB Q9)) ∧ (Inv w0 ps0 H0 R5 [bx g_7 63 (d8 x1), bx g_2 63 (d8 x0)] a8i) ∧ (∀ i, i < E1.heap.size → ¬ inF [] i → a8i.heap[i]? = E1.heap[i]?) ∧ Hle X8 R5 ∧ (K ((((((decide (x0.a8 = x1.a8)) && (decide (x0.b7 = x1.b7))) && g5) && J2) && Q8) && Q9) R5)) (fun b2z => ?_) (fun b2z => ?_) ?_
    ·replace h := h.1 b2z
     have f4 := b2z
     simp only [p1 f4]
     refine f2 (cap := []) (fun args w => Tryd.call58 args w) ?_
     refine i8 (Fi := []) (Fr := [bx g_7 63 (d8 x1), bx g_2 63 (d8 x0)]) a6q (h) (fun b6x R5 d9K a8i a0Y c1g c1h c1i => ?_) (fun _ _ _ _ _ q => q.elim)
     obtain ⟨Q9, rfl, rfl, h⟩ := c1i
     exact ⟨Q9, R5, by rfl, a0Y, c1h, c1g, h⟩
    ·exact ⟨false, X8, by rw [a3g b2z], a6q, fun _ _ _ => rfl, Hle.refl _, h.2 b2z⟩
    ·clear h
     rintro b6x a8i ⟨Q9, R5, rfl, a0Y, c1h, c1g, h⟩
     refine a7 (A6 _ _) ?_
     exact hR ((((((decide (x0.a8 = x1.a8)) && (decide (x0.b7 = x1.b7))) && g5) && J2) && Q8) && Q9) R5 _ a0Y.drop.drop h
theorem b4H (x0 : b9) (x1 : b9) {H : Hp} {K : Bool → Hp → Prop} (h : a2w x0 x1 H K) : a2u x0 x1 H K := by
 intro w I
 refine e9m ?_
 refine b3s x0 x1 I (fun r0 H' w' I' hk => ⟨H', _, I', r0, rfl, rfl, hk⟩) h
def a3H (x0 : b5) (H : Hp) (K : d7 → Hp → Prop) : Prop :=
 K (d7.F7 (J4.mk x0)) H
theorem b5v (x0 : b5) {K : d7 → Hp → Prop} (I : Inv w0 ps0 H0 H [] w) (hR : ∀ (r0 : d7) (H' : Hp) (w' : World) (_ : Inv w0 ps0 H0 H' [] w') (_ : K r0 H'), R (C0 r0) w') (h : a3H x0 H K) : d2L (Value.agg (b6 x0).toArray) w R E := by
 unfold a3H at h
 unfold d2L
 refine J3 I (cs := (b6 x0)) rfl fun g_2 w_3 I_4 k_5 => ?_
 refine d6 (ldA Tryd.isAgg24 Tryd.sizeOf24 rfl (I_4.at1 (o := 0) (vs := (b6 x0)) (nb rfl) rfl)) ?_
 refine a7 (b8c _ _ _ _ _ _) ?_
 refine a7 (a9L (J4.mk x0)) ?_
 exact hR (d7.F7 (J4.mk x0)) H _ I_4.drop h
theorem b6y (x0 : b5) {H : Hp} {K : d7 → Hp → Prop} (h : a3H x0 H K) : a9u x0 H K := by
 intro w I
 refine e5h ?_
 refine b5v x0 I (fun r0 H' w' I' hk => ⟨H', _, I', r0, rfl, rfl, hk⟩) h
def a3I (x0 : b8) (H : Hp) (K : d7 → Hp → Prop) : Prop :=
 K (d7.L8 (N0.mk x0)) H
theorem b5w (x0 : b8) {K : d7 → Hp → Prop} (I : Inv w0 ps0 H0 H [] w) (hR : ∀ (r0 : d7) (H' : Hp) (w' : World) (_ : Inv w0 ps0 H0 H' [] w') (_ : K r0 H'), R (C0 r0) w') (h : a3I x0 H K) : d2Q (Value.agg (d5 x0).toArray) w R E := by
 unfold a3I at h
 unfold d2Q
 refine J3 I (cs := (d5 x0)) rfl fun g_2 w_3 I_4 k_5 => ?_
 refine d6 (ldA Tryd.isAgg27 Tryd.sizeOf27 rfl (I_4.at1 (o := 0) (vs := (d5 x0)) (nb rfl) rfl)) ?_
 refine a7 (b8d _ _ _ _ _ _ _ _) ?_
 refine a7 (b5l (N0.mk x0)) ?_
 exact hR (d7.L8 (N0.mk x0)) H _ I_4.drop h
theorem b6z (x0 : b8) {H : Hp} {K : d7 → Hp → Prop} (h : a3I x0 H K) : a9v x0 H K := by
 intro w I
 refine e5q ?_
 refine b5w x0 I (fun r0 H' w' I' hk => ⟨H', _, I', r0, rfl, rfl, hk⟩) h
def a1b (x0 : N0) (H : Hp) (K : Sl → Hp → Prop) : Prop :=
 A4 x0.p5.g8 H (fun (i5 : Sl) (H_8 : Hp) =>
 E6 x0.p5.q8 H_8 (fun (i6 : Sl) (a7a : Hp) =>
 ∀ (a9Y : Sl) (b2A : Hp), Hle a7a b2A → SlH b2A 1 csl a9Y [i5, i6] → a9Y.n ≤ a9Y.c →
 E0 a9Y b2A (fun (Q9 : Sl) (R5 : Hp) =>
 K Q9 R5)))
theorem b1o (x0 : N0) {K : Sl → Hp → Prop} (I : Inv w0 ps0 H0 H [] w) (hR : ∀ (r0 : Sl) (H' : Hp) (w' : World) (_ : Inv w0 ps0 H0 H' [] w') (_ : K r0 H'), R (vs r0) w') (h : a1b x0 H K) : d2O (Value.agg (d5 x0.p5).toArray) w R E := by
 unfold a1b at h
 unfold d2O
 refine J3 I (cs := (d5 x0.p5)) rfl fun g_2 w_3 I_4 k_5 => ?_
 refine a3v I_4 fun w_6 I_7 => ?_
 refine r9 a2p ?_
 refine r9 a0Q ?_
 refine r9 a2p ?_
 refine r9 a0h ?_
 refine K0 (ld1 Tryd.isAgg22 (I_7.at1 (o := 2) (vs := [(vs x0.p5.g8)]) (nb rfl) rfl)) ?_
 refine K0 (ld1 Tryd.isAgg25 (I_7.at1 (o := 3) (vs := [(vs x0.p5.q8)]) (nb rfl) rfl)) ?_
 refine f2 (cap := []) (fun args w => Tryd.call171 args w) ?_
 refine i8 (Fi := []) (Fr := [bx g_2 138 (d5 x0.p5)]) I_7 (h) (fun d9L H_8 d9M w_9 a9y c1j b4I c1k => ?_) (fun _ _ _ _ _ q => q.elim)
 obtain ⟨i5, rfl, rfl, h⟩ := c1k
 refine ⟨(b4I _ I_7.lt1 (Inv.a3s (Fi := []) I_7)), ?_⟩
 refine f2 (cap := []) (fun args w => Tryd.call175 args w) ?_
 refine i8 (Fi := []) (Fr := [bx g_2 138 (d5 x0.p5)]) a9y (h) (fun d9N a7a d9O v7 a9Z d9P c1l c1m => ?_) (fun _ _ _ _ _ q => q.elim)
 obtain ⟨i6, rfl, rfl, h⟩ := c1m
 refine a3h (e := 124) (c := csl) (xs := [i5, i6]) a9Z (c7f _ _ _ _ _ _) rfl rfl c6l c6m (nb rfl) fun a9Y c8y a7b c8C a6q b8G => ?_
 obtain ⟨b2A, c1n, c7X, c8x, c8D⟩ := Inv.freezeC a6q c8C (by decide)
 replace h := h a9Y b2A c7X c8x c8D
 refine f2 (cap := []) (fun args w => Tryd.call87 args w) ?_
 refine i8 (Fi := []) (Fr := [bx g_2 138 (d5 x0.p5)]) c1n (h) (fun b6x R5 d9K a8i a0Y c1g c1h c1i => ?_) (fun _ _ _ _ _ q => q.elim)
 obtain ⟨Q9, rfl, rfl, h⟩ := c1i
 exact hR Q9 R5 _ a0Y.drop h
theorem b2B (x0 : N0) {H : Hp} {K : Sl → Hp → Prop} (h : a1b x0 H K) : a7u x0 H K := by
 intro w I
 refine e5m ?_
 refine b1o x0 I (fun r0 H' w' I' hk => ⟨H', _, I', r0, rfl, rfl, hk⟩) h
end Go.Proofs.YtnhkdkcgdcgmdaaDoor
