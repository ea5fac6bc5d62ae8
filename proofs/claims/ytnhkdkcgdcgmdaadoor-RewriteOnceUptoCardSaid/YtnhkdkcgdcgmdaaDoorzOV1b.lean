/- Typed formulas of the program's functions, and the theorems that the contracts follow from them; printed by lift.py off the code. -/
import Derived.Test.YtnhkdkcgdcgmdaaDoorzOV1
namespace Go.Proofs.YtnhkdkcgdcgmdaaDoor
open Go.RowKit
set_option maxRecDepth 100000
set_option maxHeartbeats 2000000
variable {w0 w : World} {ps0 : Nat → Prop} {H0 H : Hp} {R : RT} {E : Pan}
def s7 (A5 : Bool) (H : Hp) (K : Bool → Hp → Prop) : Prop :=
 (A5 = true →
 K true H) ∧
 (A5 = false →
 K false H)
def a5w (x0 : ByteArray) (H : Hp) (K : Bool → Hp → Prop) : Prop :=
 (x0 = ⟨#[118, 97, 114]⟩ →
 s7 (decide (x0 = ⟨#[118, 97, 114]⟩)) H K) ∧
 (¬ (x0 = ⟨#[118, 97, 114]⟩) →
 (x0 = ⟨#[97, 114, 114, 97, 121]⟩ →
 s7 (decide (x0 = ⟨#[97, 114, 114, 97, 121]⟩)) H K) ∧
 (¬ (x0 = ⟨#[97, 114, 114, 97, 121]⟩) →
 (x0 = ⟨#[105, 102]⟩ →
 s7 (decide (x0 = ⟨#[105, 102]⟩)) H K) ∧
 (¬ (x0 = ⟨#[105, 102]⟩) →
 (x0 = ⟨#[101, 108, 115, 101]⟩ →
 s7 (decide (x0 = ⟨#[101, 108, 115, 101]⟩)) H K) ∧
 (¬ (x0 = ⟨#[101, 108, 115, 101]⟩) →
 (x0 = ⟨#[119, 104, 105, 108, 101]⟩ →
 s7 (decide (x0 = ⟨#[119, 104, 105, 108, 101]⟩)) H K) ∧
 (¬ (x0 = ⟨#[119, 104, 105, 108, 101]⟩) →
 (x0 = ⟨#[97, 115, 115, 101, 114, 116]⟩ →
 s7 (decide (x0 = ⟨#[97, 115, 115, 101, 114, 116]⟩)) H K) ∧
 (¬ (x0 = ⟨#[97, 115, 115, 101, 114, 116]⟩) →
 (x0 = ⟨#[97, 115, 115, 117, 109, 101]⟩ →
 s7 (decide (x0 = ⟨#[97, 115, 115, 117, 109, 101]⟩)) H K) ∧
 (¬ (x0 = ⟨#[97, 115, 115, 117, 109, 101]⟩) →
 (x0 = ⟨#[115, 107, 105, 112]⟩ →
 s7 (decide (x0 = ⟨#[115, 107, 105, 112]⟩)) H K) ∧
 (¬ (x0 = ⟨#[115, 107, 105, 112]⟩) →
 (x0 = ⟨#[105, 110, 112, 117, 116]⟩ →
 s7 (decide (x0 = ⟨#[105, 110, 112, 117, 116]⟩)) H K) ∧
 (¬ (x0 = ⟨#[105, 110, 112, 117, 116]⟩) →
 (x0 = ⟨#[116, 114, 117, 101]⟩ →
 s7 (decide (x0 = ⟨#[116, 114, 117, 101]⟩)) H K) ∧
 (¬ (x0 = ⟨#[116, 114, 117, 101]⟩) →
 s7 (decide (x0 = ⟨#[102, 97, 108, 115, 101]⟩)) H K))))))))))
theorem b8J (x0 : ByteArray) {K : Bool → Hp → Prop} (I : Inv w0 ps0 H0 H [] w) (hR : ∀ (r0 : Bool) (H' : Hp) (w' : World) (_ : Inv w0 ps0 H0 H' [] w') (_ : K r0 H'), R (vB r0) w') (h : a5w x0 H K) : d2A (Value.string x0) w R E := by
 unfold a5w at h
 unfold d2A
 have hj1 : ∀ (A5 : Bool) (H : Hp) (w : World) (_ : Inv w0 ps0 H0 H [] w) (_ : s7 A5 H K), c4K (vB A5) w R E := by
  intro A5 H w I h
  unfold c4K
  intro _
  unfold s7 at h
  refine u2 (fun c_1 => ?_) (fun c_1 => ?_)
  ·replace h := h.1 c_1
   exact hR true H _ I h
  ·replace h := h.2 c_1
   exact hR false H _ I h
 refine A7 fun j1 hx1 => ?_
 refine a7 (a1O _ _ _ _ _) ?_
 refine j7 (fun b2C => ?_) (fun b2C => ?_)
 ·replace h := h.1 b2C
  exact hx1 _ _ (hj1 (decide (x0 = ⟨#[118, 97, 114]⟩)) H _ I h)
 ·replace h := h.2 b2C
  refine a7 (a1O _ _ _ _ _) ?_
  refine j7 (fun d9Q => ?_) (fun d9Q => ?_)
  ·replace h := h.1 d9Q
   exact hx1 _ _ (hj1 (decide (x0 = ⟨#[97, 114, 114, 97, 121]⟩)) H _ I h)
  ·replace h := h.2 d9Q
   refine a7 (a1O _ _ _ _ _) ?_
   refine j7 (fun c_9 => ?_) (fun c_9 => ?_)
   ·replace h := h.1 c_9
    exact hx1 _ _ (hj1 (decide (x0 = ⟨#[105, 102]⟩)) H _ I h)
   ·replace h := h.2 c_9
    refine a7 (a1O _ _ _ _ _) ?_
    refine j7 (fun c_8 => ?_) (fun c_8 => ?_)
    ·replace h := h.1 c_8
     exact hx1 _ _ (hj1 (decide (x0 = ⟨#[101, 108, 115, 101]⟩)) H _ I h)
    ·replace h := h.2 c_8
     refine a7 (a1O _ _ _ _ _) ?_
     refine j7 (fun c_7 => ?_) (fun c_7 => ?_)
     ·replace h := h.1 c_7
      exact hx1 _ _ (hj1 (decide (x0 = ⟨#[119, 104, 105, 108, 101]⟩)) H _ I h)
     ·replace h := h.2 c_7
      refine a7 (a1O _ _ _ _ _) ?_
      refine j7 (fun c_6 => ?_) (fun c_6 => ?_)
      ·replace h := h.1 c_6
       exact hx1 _ _ (hj1 (decide (x0 = ⟨#[97, 115, 115, 101, 114, 116]⟩)) H _ I h)
      ·replace h := h.2 c_6
       refine a7 (a1O _ _ _ _ _) ?_
       refine j7 (fun c_5 => ?_) (fun c_5 => ?_)
       ·replace h := h.1 c_5
        exact hx1 _ _ (hj1 (decide (x0 = ⟨#[97, 115, 115, 117, 109, 101]⟩)) H _ I h)
       ·replace h := h.2 c_5
        refine a7 (a1O _ _ _ _ _) ?_
        refine j7 (fun c_4 => ?_) (fun c_4 => ?_)
        ·replace h := h.1 c_4
         exact hx1 _ _ (hj1 (decide (x0 = ⟨#[115, 107, 105, 112]⟩)) H _ I h)
        ·replace h := h.2 c_4
         refine a7 (a1O _ _ _ _ _) ?_
         refine j7 (fun c_3 => ?_) (fun c_3 => ?_)
         ·replace h := h.1 c_3
          exact hx1 _ _ (hj1 (decide (x0 = ⟨#[105, 110, 112, 117, 116]⟩)) H _ I h)
         ·replace h := h.2 c_3
          refine a7 (a1O _ _ _ _ _) ?_
          refine j7 (fun c_2 => ?_) (fun c_2 => ?_)
          ·replace h := h.1 c_2
           exact hx1 _ _ (hj1 (decide (x0 = ⟨#[116, 114, 117, 101]⟩)) H _ I h)
          ·replace h := h.2 c_2
           refine a7 (a1O _ _ _ _ _) ?_
           exact hx1 _ _ (hj1 (decide (x0 = ⟨#[102, 97, 108, 115, 101]⟩)) H _ I h)
theorem c0v (x0 : ByteArray) {H : Hp} {K : Bool → Hp → Prop} (h : a5w x0 H K) : a3t x0 H K := by
 intro w I
 refine e4O ?_
 refine b8J x0 I (fun r0 H' w' I' hk => ⟨H', _, I', r0, rfl, rfl, hk⟩) h
def a3J (x0 : t1) (H : Hp) (K : d7 → Hp → Prop) : Prop :=
 K (d7.N4 (T3.mk x0)) H
theorem b5x (x0 : t1) {K : d7 → Hp → Prop} (I : Inv w0 ps0 H0 H [] w) (hR : ∀ (r0 : d7) (H' : Hp) (w' : World) (_ : Inv w0 ps0 H0 H' [] w') (_ : K r0 H'), R (C0 r0) w') (h : a3J x0 H K) : F89 (Value.agg (p6 x0).toArray) w R E := by
 unfold a3J at h
 unfold F89
 refine J3 I (cs := (p6 x0)) rfl fun g_2 w_3 I_4 k_5 => ?_
 refine d6 (ldA Tryd.isAgg58 Tryd.sizeOf58 rfl (I_4.at1 (o := 0) (vs := (p6 x0)) (nb rfl) rfl)) ?_
 refine a7 (c7g _ _) ?_
 refine a7 (c4C (T3.mk x0)) ?_
 exact hR (d7.N4 (T3.mk x0)) H _ I_4.drop h
theorem b6A (x0 : t1) {H : Hp} {K : d7 → Hp → Prop} (h : a3J x0 H K) : a9s x0 H K := by
 intro w I
 refine e9L ?_
 refine b5x x0 I (fun r0 H' w' I' hk => ⟨H', _, I', r0, rfl, rfl, hk⟩) h
def a3K (x0 : b9) (H : Hp) (K : d7 → Hp → Prop) : Prop :=
 K (d7.K7 (P8.mk x0)) H
theorem b5y (x0 : b9) {K : d7 → Hp → Prop} (I : Inv w0 ps0 H0 H [] w) (hR : ∀ (r0 : d7) (H' : Hp) (w' : World) (_ : Inv w0 ps0 H0 H' [] w') (_ : K r0 H'), R (C0 r0) w') (h : a3K x0 H K) : F91 (Value.agg (d8 x0).toArray) w R E := by
 unfold a3K at h
 unfold F91
 refine J3 I (cs := (d8 x0)) rfl fun g_2 w_3 I_4 k_5 => ?_
 refine d6 (ldA Tryd.isAgg63 Tryd.sizeOf63 rfl (I_4.at1 (o := 0) (vs := (d8 x0)) (nb rfl) rfl)) ?_
 refine a7 (c7h _ _ _ _ _ _ _ _ _ _ _ _ _ _) ?_
 refine a7 (c4D (P8.mk x0)) ?_
 exact hR (d7.K7 (P8.mk x0)) H _ I_4.drop h
theorem b6B (x0 : b9) {H : Hp} {K : d7 → Hp → Prop} (h : a3K x0 H K) : a9t x0 H K := by
 intro w I
 refine e9P ?_
 refine b5y x0 I (fun r0 H' w' I' hk => ⟨H', _, I', r0, rfl, rfl, hk⟩) h
def a5x (x0 : j6) (H : Hp) (K : g9 → Hp → Prop) : Prop :=
 L5 x0.T9 H (fun (i5 : Sl) (H_8 : Hp) =>
 A0 x0.a1y H_8 (fun (i6 : Sl) (a7a : Hp) =>
 ∀ (a9Y : Sl) (b2A : Hp), Hle a7a b2A → SlH b2A 1 csl a9Y [i5, i6] → a9Y.n ≤ a9Y.c →
 E0 a9Y b2A (fun (Q9 : Sl) (R5 : Hp) =>
 a0V Q9 R5 (fun (d3e : g9) (d9R : Hp) =>
 K d3e d9R))))
theorem b8K (x0 : j6) {K : g9 → Hp → Prop} (I : Inv w0 ps0 H0 H [] w) (hR : ∀ (r0 : g9) (gr0 : Nat) (H' : Hp) (w' : World) (_ : Inv w0 ps0 H0 H' [bx gr0 106 (a7S r0)] w') (_ : K r0 H'), R (Value.pointer (some ⟨gr0, 0, none⟩)) w') (h : a5x x0 H K) : F52 (Value.agg (f5 x0).toArray) w R E := by
 unfold a5x at h
 unfold F52
 refine J3 I (cs := (f5 x0)) rfl fun g_2 w_3 I_4 k_5 => ?_
 refine a3v I_4 fun w_6 I_7 => ?_
 refine r9 a9c ?_
 refine r9 a6c ?_
 refine K0 (ld1 Tryd.isAgg41 (I_7.at1 (o := 0) (vs := [(vs x0.T9)]) (nb rfl) rfl)) ?_
 refine K0 (ld1 Tryd.isAgg42 (I_7.at1 (o := 1) (vs := [(vs x0.a1y)]) (nb rfl) rfl)) ?_
 refine f2 (cap := []) (fun args w => Tryd.call88 args w) ?_
 refine i8 (Fi := []) (Fr := [bx g_2 44 (f5 x0)]) I_7 (h) (fun d9L H_8 d9M w_9 a9y c1j b4I c1k => ?_) (fun _ _ _ _ _ q => q.elim)
 obtain ⟨i5, rfl, rfl, h⟩ := c1k
 refine ⟨(b4I _ I_7.lt1 (Inv.a3s (Fi := []) I_7)), ?_⟩
 refine f2 (cap := []) (fun args w => Tryd.call90 args w) ?_
 refine i8 (Fi := []) (Fr := [bx g_2 44 (f5 x0)]) a9y (h) (fun d9N a7a d9O v7 a9Z d9P c1l c1m => ?_) (fun _ _ _ _ _ q => q.elim)
 obtain ⟨i6, rfl, rfl, h⟩ := c1m
 refine a3h (e := 124) (c := csl) (xs := [i5, i6]) a9Z (c7f _ _ _ _ _ _) rfl rfl c6l c6m (nb rfl) fun a9Y c8y a7b c8C a6q b8G => ?_
 obtain ⟨b2A, c1n, c7X, c8x, c8D⟩ := Inv.freezeC a6q c8C (by decide)
 replace h := h a9Y b2A c7X c8x c8D
 refine f2 (cap := []) (fun args w => Tryd.call87 args w) ?_
 refine i8 (Fi := []) (Fr := [bx g_2 44 (f5 x0)]) c1n (h) (fun b6x R5 d9K a8i a0Y c1g c1h c1i => ?_) (fun _ _ _ _ _ q => q.elim)
 obtain ⟨Q9, rfl, rfl, h⟩ := c1i
 refine f2 (cap := []) (fun args w => Tryd.call60 args w) ?_
 refine i8 (Fi := []) (Fr := [bx g_2 44 (f5 x0)]) a0Y (h) (fun h0P d9R h0Q V2 c8E h0R f3F g5k => ?_) (fun _ _ _ _ _ q => q.elim)
 obtain ⟨d3e, f3G, rfl, rfl, h⟩ := g5k
 exact hR d3e f3G d9R _ (c8E.bring 1).drop h
theorem c0w (x0 : j6) {H : Hp} {K : g9 → Hp → Prop} (h : a5x x0 H K) : a3u x0 H K := by
 intro w I
 refine e8W ?_
 refine b8K x0 I (fun r0 gr0 H' w' I' hk => ⟨H', _, I', r0, gr0, rfl, rfl, hk⟩) h
def a2V (x0 : j6) (H : Hp) (K : Bool → Hp → Prop) : Prop :=
 a1P x0 H (fun (D5 : Int) (H_6 : Hp) =>
 K ((!decide (D5 = 32)) && (!decide (D5 = 33))) H_6)
theorem b4J (x0 : j6) {K : Bool → Hp → Prop} (I : Inv w0 ps0 H0 H [] w) (hR : ∀ (r0 : Bool) (H' : Hp) (w' : World) (_ : Inv w0 ps0 H0 H' [] w') (_ : K r0 H'), R (vB r0) w') (h : a2V x0 H K) : F56 (Value.agg (f5 x0).toArray) w R E := by
 unfold a2V at h
 unfold F56
 refine J3 I (cs := (f5 x0)) rfl fun g_2 w_3 I_4 k_5 => ?_
 refine d6 (ldA Tryd.isAgg44 Tryd.sizeOf44 rfl (I_4.at1 (o := 0) (vs := (f5 x0)) (nb rfl) rfl)) ?_
 refine f2 (cap := []) (fun args w => Tryd.call53 args w) ?_
 refine i8 (Fi := []) (Fr := [bx g_2 44 (f5 x0)]) I_4 (h) (fun b6u H_6 b6v w_7 I_8 b6w k_9 a6r => ?_) (fun _ _ _ _ _ q => q.elim)
 obtain ⟨D5, rfl, rfl, h⟩ := a6r
 refine a7 (T0 _ _ _ _ _ _) ?_
 simp only [O5]
 refine a7 (Pu.g fun hb => by have f4 := hb; simp only [p1 f4]; exact (T0 _ _ _ _ _ _)) ?_
 refine a7 (A6 _ _) ?_
 exact hR ((!decide (D5 = 32)) && (!decide (D5 = 33))) H_6 _ I_8.drop h
theorem b5z (x0 : j6) {H : Hp} {K : Bool → Hp → Prop} (h : a2V x0 H K) : a2U x0 H K := by
 intro w I
 refine e9a ?_
 refine b4J x0 I (fun r0 H' w' I' hk => ⟨H', _, I', r0, rfl, rfl, hk⟩) h
def u5 (H : Hp) (K : Bool → Hp → Prop) : Prop :=
 K true H
def p8 (a7D : Sl) (b4a : Sl) (b4b : Int) (K1 : Int) (H : Hp) (n2 : Int → Hp → Prop) (K : Bool → Hp → Prop) : Prop :=
 (K1 < b4b →
 (0 : Int) ≤ K1 ∧ (K1 : Int) < b4a.n ∧ ∃ x_1 : b5, EltH H b4a K1 4 (b6 x_1) ∧
 (0 : Int) ≤ K1 ∧ (K1 : Int) < a7D.n ∧ ∃ a2P : b5, EltH H a7D K1 4 (b6 a2P) ∧
 a2s x_1 a2P H (fun (N7 : Bool) (a0e : Hp) =>
 ((!N7) = true →
 K false a0e) ∧
 ((!N7) = false →
 n2 (IntKind.wrap .i64 (K1 + 1)) a0e))) ∧
 (¬ (K1 < b4b) →
 u5 H K)
def r5 (x0 : Sl) (x1 : Sl) (H : Hp) (K : Bool → Hp → Prop) : Prop :=
 (¬ ((x0.n : Int) = (x1.n : Int)) →
 K false H) ∧
 ((x0.n : Int) = (x1.n : Int) →
 TL (0 : Int) H fun (s : Int) H n2 => p8 x1 x0 (x0.n : Int) s H n2 K)
theorem M1 (x0 : Sl) (x1 : Sl) {K : Bool → Hp → Prop} (I : Inv w0 ps0 H0 H [] w) (hR : ∀ (r0 : Bool) (H' : Hp) (w' : World) (_ : Inv w0 ps0 H0 H' [] w') (_ : K r0 H'), R (vB r0) w') (h : r5 x0 x1 H K) : F95 (vs x0) (vs x1) (fC 96) w R E := by
 unfold r5 at h
 unfold F95
 refine a7 (Z3 _ _ _) ?_
 refine a7 (Z3 _ _ _) ?_
 refine a7 (T0 _ _ _ _ _ _) ?_
 refine a0s (fun b2D => ?_) (fun b2D => ?_)
 ·replace h := h.1 b2D
  exact hR false H _ I h
 ·replace h := h.2 b2D
  have hj1 : ∀ (H : Hp) (w : World) (_ : Inv w0 ps0 H0 H [] w) (_ : u5 H K), c7L w R E := by
   intro H w I h
   unfold c7L
   intro _
   unfold u5 at h
   exact hR true H _ I h
  refine A7 fun j1 hx1 => ?_
  refine a7 (Z3 _ _ _) ?_
  obtain ⟨b2E, a7E, c8F, c8G⟩ := h
  refine M9 (J := fun n l w => ∃ (s : Int) (H : Hp) , n = a7E s ∧ l = [(vi s)] ∧ Inv w0 ps0 H0 H [] w ∧ b2E s H) ⟨_, 0, H, rfl, rfl, I, c8F⟩ ?_
  rintro f3H τ_47 w next2 ⟨K1, H, rfl, b8L, I, c8H⟩ hn2
  simp only [List.map_cons, List.map_nil, List.cons.injEq, and_true] at b8L
  have e17 := b8L
  simp only [e17]
  obtain ⟨n2, hm2, h⟩ : ∃ n2 : Int → Hp → Prop, (∀ s' H', n2 s' H' → b2E s' H' ∧ a7E s' < a7E K1) ∧ p8 x1 x0 (x0.n : Int) K1 H n2 K := ⟨_, fun _ _ h => h, c8G K1 H (fun s' H' => b2E s' H' ∧ a7E s' < a7E K1) c8H (fun _ _ a b => ⟨a, b⟩)⟩
  unfold d6K
  unfold p8 at h
  refine a7 (F4 _ _ _ _ _ _) ?_
  refine j7 (fun b2F => ?_) (fun b2F => ?_)
  ·replace h := h.1 b2F
   obtain ⟨h_4, h_5, x_1, h_7, h⟩ := h
   obtain ⟨g_2, o_3, h_6, h_7⟩ := h_7
   refine a7 (O0 h_6 _ _ _ _ h_4 h_5) ?_
   refine d6 (ldA (vs := (b6 x_1)) Tryd.isAgg24 Tryd.sizeOf24 rfl (I.atH h_7)) ?_
   refine y8 I Tryd.zeroValue24 (cs := [(vi 0), (vi 0), (eS), (nS)]) rfl fun g_9 o7 V5 a7A => ?_
   refine m6 V5 Tryd.sizeOf24 (vs := (b6 x_1)) (cs' := (b6 x_1)) rfl rfl (nb rfl) rfl rfl fun V0 J6 a1w => ?_
   obtain ⟨a6t, b6C, a2P, a8H, h⟩ := h
   obtain ⟨f3I, f3J, b6D, a8H⟩ := a8H
   refine a7 (O0 b6D _ _ _ _ a6t b6C) ?_
   refine d6 (ldA (vs := (b6 a2P)) Tryd.isAgg24 Tryd.sizeOf24 rfl (J6.atH a8H)) ?_
   refine y8 J6 Tryd.zeroValue24 (cs := [(vi 0), (vi 0), (eS), (nS)]) rfl fun c8I b2k b6E d9S => ?_
   refine m6 b6E Tryd.sizeOf24 (vs := (b6 a2P)) (cs' := (b6 a2P)) rfl rfl (nb rfl) rfl rfl fun E5 a8j d3f => ?_
   refine d6 (ldA Tryd.isAgg24 Tryd.sizeOf24 rfl ((a8j.bring 1).at1 (o := 0) (vs := (b6 x_1)) (nb rfl) rfl)) ?_
   refine d6 (ldA Tryd.isAgg24 Tryd.sizeOf24 rfl (a8j.at1 (o := 0) (vs := (b6 a2P)) (nb rfl) rfl)) ?_
   refine f2 (cap := []) (fun args w => Tryd.call96 args w) ?_
   refine i8 (Fi := []) (Fr := [bx c8I 24 (b6 a2P), bx g_9 24 (b6 x_1)]) a8j (h) (fun c1o a0e d3g E2 a1u c5f b8M b6F => ?_) (fun _ _ _ _ _ q => q.elim)
   obtain ⟨N7, rfl, rfl, h⟩ := b6F
   refine a7 (a1N _) ?_
   refine u2 (fun a8I => ?_) (fun a8I => ?_)
   ·replace h := h.1 a8I
    exact hR false a0e _ a1u.drop.drop h
   ·replace h := h.2 a8I
    refine a7 (K3 _ _ _ _ _ _) ?_
    exact hn2 _ _ _ (hm2 _ _ h).2 ⟨(IntKind.wrap .i64 (K1 + 1)), a0e, rfl, rfl, a1u.drop.drop, (hm2 _ _ h).1⟩
  ·replace h := h.2 b2F
   exact hx1 _ _ (hj1 H _ I h)
theorem M6 (x0 : Sl) (x1 : Sl) {H : Hp} {K : Bool → Hp → Prop} (h : r5 x0 x1 H K) : o6 x0 x1 H K := by
 intro w I
 refine e9R ?_
 refine M1 x0 x1 I (fun r0 H' w' I' hk => ⟨H', _, I', r0, rfl, rfl, hk⟩) h
def a2x (x0 : b8) (x1 : b8) (H : Hp) (K : Bool → Hp → Prop) : Prop :=
 TG (((decide (x0.a8 = x1.a8)) && (decide (x0.fOp = x1.fOp))) = true) (o6 x0.g8 x1.g8 H) false H (fun (g5 : Bool) (F3 : Hp) =>
 TG ((((decide (x0.a8 = x1.a8)) && (decide (x0.fOp = x1.fOp))) && g5) = true) (j9 x0.q8 x1.q8 F3) false F3 (fun (J2 : Bool) (S9 : Hp) =>
 K ((((decide (x0.a8 = x1.a8)) && (decide (x0.fOp = x1.fOp))) && g5) && J2) S9))
theorem b3t (x0 : b8) (x1 : b8) {K : Bool → Hp → Prop} (I : Inv w0 ps0 H0 H [] w) (hR : ∀ (r0 : Bool) (H' : Hp) (w' : World) (_ : Inv w0 ps0 H0 H' [] w') (_ : K r0 H'), R (vB r0) w') (h : a2x x0 x1 H K) : F98 (Value.agg (d5 x0).toArray) (Value.agg (d5 x1).toArray) w R E := by
 unfold a2x at h
 unfold F98
 refine J3 I (cs := (d5 x0)) rfl fun g_2 w_3 I_4 k_5 => ?_
 refine J3 I_4 (cs := (d5 x1)) rfl fun g_7 w_8 I_9 a7x => ?_
 refine a7 a0P ?_
 refine d6 (ld1 Tryd.isAgg3 ((I_9.bring 1).at1 (o := 0) (vs := [(vi x0.a8)]) (nb rfl) rfl)) ?_
 refine a7 a0P ?_
 refine d6 (ld1 Tryd.isAgg3 (I_9.at1 (o := 0) (vs := [(vi x1.a8)]) (nb rfl) rfl)) ?_
 refine a7 (m9 _ _ _ _ _ _) ?_
 refine a7 (Pu.g fun hb => by have f4 := hb; exact a7O) ?_
 refine d6 (Ld.g fun hb => by have f4 := hb; simp only [p1 f4]; exact (ld1 Tryd.isAgg3 ((I_9.bring 1).at1 (o := 1) (vs := [(vi x0.fOp)]) (nb rfl) rfl))) ?_
 refine a7 (Pu.g fun hb => by have f4 := hb; exact a7O) ?_
 refine d6 (Ld.g fun hb => by have f4 := hb; simp only [p1 f4]; exact (ld1 Tryd.isAgg3 (I_9.at1 (o := 1) (vs := [(vi x1.fOp)]) (nb rfl) rfl))) ?_
 refine a7 (Pu.g fun hb => by have f4 := hb; simp only [p1 f4]; exact (m9 _ _ _ _ _ _)) ?_
 refine a7 (A6 _ _) ?_
 refine a7 (Pu.g fun hb => by have f4 := hb; exact a0Q) ?_
 refine d6 (Ld.g fun hb => by have f4 := hb; simp only [p1 f4]; exact (ld1 Tryd.isAgg22 ((I_9.bring 1).at1 (o := 2) (vs := [(vs x0.g8)]) (nb rfl) rfl))) ?_
 refine a7 (Pu.g fun hb => by have f4 := hb; exact a0Q) ?_
 refine d6 (Ld.g fun hb => by have f4 := hb; simp only [p1 f4]; exact (ld1 Tryd.isAgg22 (I_9.at1 (o := 2) (vs := [(vs x1.g8)]) (nb rfl) rfl))) ?_
 refine V6 (D := fun a6Z o4 => ∃ (g5 : Bool) (F3 : Hp) , a6Z = (gv ((decide (x0.a8 = x1.a8)) && (decide (x0.fOp = x1.fOp))) true (vB g5)) ∧ (Inv w0 ps0 H0 F3 [bx g_7 27 (d5 x1), bx g_2 27 (d5 x0)] o4) ∧ (∀ i, i < w_8.heap.size → ¬ inF [] i → o4.heap[i]? = w_8.heap[i]?) ∧ Hle H F3 ∧ (TG ((((decide (x0.a8 = x1.a8)) && (decide (x0.fOp = x1.fOp))) && g5) = true) (j9 x0.q8 x1.q8 F3) false F3 (fun (J2 : Bool) (S9 : Hp) =>
 K ((((decide (x0.a8 = x1.a8)) && (decide (x0.fOp = x1.fOp))) && g5) && J2) S9))) (fun c8J => ?_) (fun c8J => ?_) ?_
 ·replace h := h.1 c8J
  have f4 := c8J
  simp only [p1 f4]
  refine f2 (cap := []) (fun args w => Tryd.call95 args w) ?_
  refine i8 (Fi := []) (Fr := [bx g_7 27 (d5 x1), bx g_2 27 (d5 x0)]) I_9 (h) (fun a6Z F3 b2w o4 R8 a7B a7C a6s => ?_) (fun _ _ _ _ _ q => q.elim)
  obtain ⟨g5, rfl, rfl, h⟩ := a6s
  exact ⟨g5, F3, by rfl, R8, a7C, a7B, h⟩
 ·exact ⟨false, H, by rw [a3g c8J], I_9, fun _ _ _ => rfl, Hle.refl _, h.2 c8J⟩
 ·clear h
  rintro a6Z o4 ⟨g5, F3, rfl, R8, a7C, a7B, h⟩
  refine a7 (A6 _ _) ?_
  refine a7 (Pu.g fun hb => by have f4 := hb; exact a0h) ?_
  refine d6 (Ld.g fun hb => by have f4 := hb; simp only [p1 f4]; exact (ld1 Tryd.isAgg25 ((R8.bring 1).at1 (o := 3) (vs := [(vs x0.q8)]) (nb rfl) rfl))) ?_
  refine a7 (Pu.g fun hb => by have f4 := hb; exact a0h) ?_
  refine d6 (Ld.g fun hb => by have f4 := hb; simp only [p1 f4]; exact (ld1 Tryd.isAgg25 (R8.at1 (o := 3) (vs := [(vs x1.q8)]) (nb rfl) rfl))) ?_
  refine V6 (D := fun b2x U1 => ∃ (J2 : Bool) (S9 : Hp) , b2x = (gv (((decide (x0.a8 = x1.a8)) && (decide (x0.fOp = x1.fOp))) && g5) true (vB J2)) ∧ (Inv w0 ps0 H0 S9 [bx g_7 27 (d5 x1), bx g_2 27 (d5 x0)] U1) ∧ (∀ i, i < o4.heap.size → ¬ inF [] i → U1.heap[i]? = o4.heap[i]?) ∧ Hle F3 S9 ∧ (K ((((decide (x0.a8 = x1.a8)) && (decide (x0.fOp = x1.fOp))) && g5) && J2) S9)) (fun c8K => ?_) (fun c8K => ?_) ?_
  ·replace h := h.1 c8K
   have f4 := c8K
   simp only [p1 f4]
   refine f2 (cap := []) (fun args w => Tryd.call97 args w) ?_
   refine i8 (Fi := []) (Fr := [bx g_7 27 (d5 x1), bx g_2 27 (d5 x0)]) R8 (h) (fun b2x S9 f3E U1 a4C b0T b4A c8B => ?_) (fun _ _ _ _ _ q => q.elim)
   obtain ⟨J2, rfl, rfl, h⟩ := c8B
   exact ⟨J2, S9, by rfl, a4C, b4A, b0T, h⟩
  ·exact ⟨false, F3, by rw [a3g c8K], R8, fun _ _ _ => rfl, Hle.refl _, h.2 c8K⟩
  ·clear h
   rintro b2x U1 ⟨J2, S9, rfl, a4C, b4A, b0T, h⟩
   refine a7 (A6 _ _) ?_
   exact hR ((((decide (x0.a8 = x1.a8)) && (decide (x0.fOp = x1.fOp))) && g5) && J2) S9 _ a4C.drop.drop h
theorem b4K (x0 : b8) (x1 : b8) {H : Hp} {K : Bool → Hp → Prop} (h : a2x x0 x1 H K) : a2t x0 x1 H K := by
 intro w I
 refine e9X ?_
 refine b3t x0 x1 I (fun r0 H' w' I' hk => ⟨H', _, I', r0, rfl, rfl, hk⟩) h
def G4 (g5l : Int) (b9M : Bool) (Y7 : J4) (H : Hp) (K : Bool → Hp → Prop) : Prop :=
 (b9M = true →
 K (decide (g5l = 2)) H) ∧
 (b9M = false →
 K false H)
def P1 (c5g : Int) (a7U : Int) (b9N : Bool) (a1d : J4) (H : Hp) (K : Bool → Hp → Prop) : Prop :=
 (b9N = true →
 K (decide (c5g = 1)) H) ∧
 (b9N = false →
 (a7U = 6 →
 G4 c5g (decide (a7U = 6)) a1d H K) ∧
 (¬ (a7U = 6) →
 (a7U = 7 →
 G4 c5g (decide (a7U = 7)) a1d H K) ∧
 (¬ (a7U = 7) →
 (a7U = 8 →
 G4 c5g (decide (a7U = 8)) a1d H K) ∧
 (¬ (a7U = 8) →
 (a7U = 9 →
 G4 c5g (decide (a7U = 9)) a1d H K) ∧
 (¬ (a7U = 9) →
 G4 c5g (decide (a7U = 10)) a1d H K)))))
def P2 (b6G : Int) (a7V : Int) (b9O : Bool) (u0 : J4) (H : Hp) (K : Bool → Hp → Prop) : Prop :=
 (b9O = true →
 K (decide (b6G = 0)) H) ∧
 (b9O = false →
 (a7V = 4 →
 P1 b6G a7V (decide (a7V = 4)) u0 H K) ∧
 (¬ (a7V = 4) →
 P1 b6G a7V (decide (a7V = 5)) u0 H K))
def a1B (x0 : J4) (H : Hp) (K : Bool → Hp → Prop) : Prop :=
 a2O (d7.F7 x0) H (fun (D5 : ByteArray) (b1p : Bool) (H_6 : Hp) =>
 ((((!decide (x0.q9.a8 = 1)) && (!decide (x0.q9.o2 = 0))) || ((!b1p) && (!decide (x0.q9.b7 = ⟨#[]⟩)))) = true →
 K false H_6) ∧
 ((((!decide (x0.q9.a8 = 1)) && (!decide (x0.q9.o2 = 0))) || ((!b1p) && (!decide (x0.q9.b7 = ⟨#[]⟩)))) = false →
 (x0.q9.a8 = 1 →
 K ((decide (0 ≤ x0.q9.o2)) && (decide ((x0.q9.m7.n : Int) = 0))) H_6) ∧
 (¬ (x0.q9.a8 = 1) →
 (x0.q9.a8 = 2 →
 P2 (x0.q9.m7.n : Int) x0.q9.a8 (decide (x0.q9.a8 = 2)) x0 H_6 K) ∧
 (¬ (x0.q9.a8 = 2) →
 P2 (x0.q9.m7.n : Int) x0.q9.a8 (decide (x0.q9.a8 = 3)) x0 H_6 K))))
theorem b2G (x0 : J4) {K : Bool → Hp → Prop} (I : Inv w0 ps0 H0 H [] w) (hR : ∀ (r0 : Bool) (H' : Hp) (w' : World) (_ : Inv w0 ps0 H0 H' [] w') (_ : K r0 H'), R (vB r0) w') (h : a1B x0 H K) : d2I (Value.agg (b6 x0.q9).toArray) w R E := by
 unfold a1B at h
 unfold d2I
 refine J3 I (cs := (b6 x0.q9)) rfl fun g_2 w_3 I_4 k_5 => ?_
 refine a7 a0N ?_
 refine a7 J5 ?_
 refine d6 (ld1 Tryd.isAgg22 (I_4.at1 (o := 3) (vs := [(vs x0.q9.m7)]) (nb rfl) rfl)) ?_
 refine a7 (Z3 _ _ _) ?_
 refine d6 (ldA Tryd.isAgg123 Tryd.sizeOf123 rfl (I_4.at1 (o := 0) (vs := (b6 x0.q9)) (nb rfl) rfl)) ?_
 refine a7 (a9L x0) ?_
 refine f2 (cap := []) (fun args w => Tryd.call118 args w) ?_
 refine i8 (Fi := []) (Fr := [bx g_2 123 (b6 x0.q9)]) I_4 (h) (fun b6u H_6 b6v w_7 I_8 b6w k_9 a6r => ?_) (fun _ _ _ _ _ q => q.elim)
 obtain ⟨D5, b1p, rfl, rfl, h⟩ := a6r
 refine a7 (o0 _ _ (Value.string D5) rfl) ?_
 refine a7 (o0 _ _ (vB b1p) rfl) ?_
 refine a7 a0N ?_
 refine a7 V7 ?_
 refine d6 (ld1 Tryd.isAgg3 (I_8.at1 (o := 0) (vs := [(vi x0.q9.a8)]) (nb rfl) rfl)) ?_
 refine a7 (T0 _ _ _ _ _ _) ?_
 refine a7 (Pu.g fun hb => by have f4 := hb; exact a0N) ?_
 refine a7 (Pu.g fun hb => by have f4 := hb; simp only [p1 f4]; exact a6b) ?_
 refine d6 (Ld.g fun hb => by have f4 := hb; simp only [p1 f4]; exact (ld1 Tryd.isAgg2 (I_8.at1 (o := 1) (vs := [(vi x0.q9.o2)]) (nb rfl) rfl))) ?_
 refine a7 (Pu.g fun hb => by have f4 := hb; simp only [p1 f4]; exact (T0 _ _ _ _ _ _)) ?_
 refine a7 (A6 _ _) ?_
 simp only [O5]
 refine a7 (Pu.g fun hb => by have f4 := hb; simp only [p1 f4]; exact (a1N _)) ?_
 simp only [d2l]
 refine a7 (Pu.e (b1H _ _ _) (Pu.g fun hb => by obtain ⟨f4, c5d⟩ := b9B hb; exact a0N)) ?_
 refine a7 (Pu.e (b1H _ _ _) (Pu.g fun hb => by obtain ⟨f4, c5d⟩ := b9B hb; simp only [p1 hb]; exact a7N)) ?_
 refine d6 (Ld.e (b1H _ _ _) (Ld.g fun hb => by obtain ⟨f4, c5d⟩ := b9B hb; simp only [p1 hb]; exact (ld1 Tryd.isAgg9 (I_8.at1 (o := 2) (vs := [(Value.string x0.q9.b7)]) (nb rfl) rfl)))) ?_
 refine a7 (Pu.e (b1H _ _ _) (Pu.g fun hb => by obtain ⟨f4, c5d⟩ := b9B hb; simp only [p1 hb]; exact (e8r _ _ _ _ _))) ?_
 refine a7 (Pu.g fun hb => by have f4 := hb; simp only [p1 f4, d6q f4]; exact (A6 _ _)) ?_
 refine a7 (a5Z _ _) ?_
 refine u2 (fun d9T => ?_) (fun d9T => ?_)
 ·replace h := h.1 d9T
  exact hR false H_6 _ I_8.drop h
 ·replace h := h.2 d9T
  refine a7 a0N ?_
  refine a7 V7 ?_
  refine d6 (ld1 Tryd.isAgg3 (I_8.at1 (o := 0) (vs := [(vi x0.q9.a8)]) (nb rfl) rfl)) ?_
  refine a7 (m9 _ _ _ _ _ _) ?_
  refine j7 (fun c1p => ?_) (fun c1p => ?_)
  ·replace h := h.1 c1p
   refine a7 a0N ?_
   refine a7 a6b ?_
   refine d6 (ld1 Tryd.isAgg2 (I_8.at1 (o := 1) (vs := [(vi x0.q9.o2)]) (nb rfl) rfl)) ?_
   refine a7 (b7X _ _ _ _ _ _) ?_
   simp only [O5]
   refine a7 (Pu.g fun hb => by have f4 := hb; simp only [p1 f4]; exact (m9 _ _ _ _ _ _)) ?_
   refine a7 (A6 _ _) ?_
   exact hR ((decide (0 ≤ x0.q9.o2)) && (decide ((x0.q9.m7.n : Int) = 0))) H_6 _ I_8.drop h
  ·replace h := h.2 c1p
   have hj1 : ∀ (b9O : Bool) (H : Hp) (w : World) (_ : Inv w0 ps0 H0 H [bx g_2 123 (b6 x0.q9)] w) (_ : P2 (x0.q9.m7.n : Int) x0.q9.a8 b9O x0 H K), c4U (vi (x0.q9.m7.n : Int)) (vi x0.q9.a8) (vB b9O) w R E := by
    intro b9O H w I h
    unfold c4U
    intro _
    unfold P2 at h
    refine u2 (fun c1q => ?_) (fun c1q => ?_)
    ·replace h := h.1 c1q
     refine a7 (m9 _ _ _ _ _ _) ?_
     exact hR (decide ((x0.q9.m7.n : Int) = 0)) H _ I.drop h
    ·replace h := h.2 c1q
     have hj2 : ∀ (b9N : Bool) (H : Hp) (w : World) (_ : Inv w0 ps0 H0 H [bx g_2 123 (b6 x0.q9)] w) (_ : P1 (x0.q9.m7.n : Int) x0.q9.a8 b9N x0 H K), c4T (vi (x0.q9.m7.n : Int)) (vi x0.q9.a8) (vB b9N) w R E := by
      intro b9N H w I h
      unfold c4T
      intro _
      unfold P1 at h
      refine u2 (fun a8J => ?_) (fun a8J => ?_)
      ·replace h := h.1 a8J
       refine a7 (m9 _ _ _ _ _ _) ?_
       exact hR (decide ((x0.q9.m7.n : Int) = 1)) H _ I.drop h
      ·replace h := h.2 a8J
       have hj3 : ∀ (b9M : Bool) (H : Hp) (w : World) (_ : Inv w0 ps0 H0 H [bx g_2 123 (b6 x0.q9)] w) (_ : G4 (x0.q9.m7.n : Int) b9M x0 H K), c4S (vi (x0.q9.m7.n : Int)) (vB b9M) w R E := by
        intro b9M H w I h
        unfold c4S
        intro _
        unfold G4 at h
        refine u2 (fun a8K => ?_) (fun a8K => ?_)
        ·replace h := h.1 a8K
         refine a7 (m9 _ _ _ _ _ _) ?_
         exact hR (decide ((x0.q9.m7.n : Int) = 2)) H _ I.drop h
        ·replace h := h.2 a8K
         exact hR false H _ I.drop h
       refine A7 fun j3 hx3 => ?_
       refine a7 (m9 _ _ _ _ _ _) ?_
       refine j7 (fun b2H => ?_) (fun b2H => ?_)
       ·replace h := h.1 b2H
        exact hx3 _ _ (hj3 (decide (x0.q9.a8 = 6)) H _ I h)
       ·replace h := h.2 b2H
        refine a7 (m9 _ _ _ _ _ _) ?_
        refine j7 (fun a4e => ?_) (fun a4e => ?_)
        ·replace h := h.1 a4e
         exact hx3 _ _ (hj3 (decide (x0.q9.a8 = 7)) H _ I h)
        ·replace h := h.2 a4e
         refine a7 (m9 _ _ _ _ _ _) ?_
         refine j7 (fun a8L => ?_) (fun a8L => ?_)
         ·replace h := h.1 a8L
          exact hx3 _ _ (hj3 (decide (x0.q9.a8 = 8)) H _ I h)
         ·replace h := h.2 a8L
          refine a7 (m9 _ _ _ _ _ _) ?_
          refine j7 (fun b2I => ?_) (fun b2I => ?_)
          ·replace h := h.1 b2I
           exact hx3 _ _ (hj3 (decide (x0.q9.a8 = 9)) H _ I h)
          ·replace h := h.2 b2I
           refine a7 (m9 _ _ _ _ _ _) ?_
           exact hx3 _ _ (hj3 (decide (x0.q9.a8 = 10)) H _ I h)
     refine A7 fun j2 hx2 => ?_
     refine a7 (m9 _ _ _ _ _ _) ?_
     refine j7 (fun b2J => ?_) (fun b2J => ?_)
     ·replace h := h.1 b2J
      exact hx2 _ _ (hj2 (decide (x0.q9.a8 = 4)) H _ I h)
     ·replace h := h.2 b2J
      refine a7 (m9 _ _ _ _ _ _) ?_
      exact hx2 _ _ (hj2 (decide (x0.q9.a8 = 5)) H _ I h)
   refine A7 fun j1 hx1 => ?_
   refine a7 (m9 _ _ _ _ _ _) ?_
   refine j7 (fun d9U => ?_) (fun d9U => ?_)
   ·replace h := h.1 d9U
    exact hx1 _ _ (hj1 (decide (x0.q9.a8 = 2)) H_6 _ I_8 h)
   ·replace h := h.2 d9U
    refine a7 (m9 _ _ _ _ _ _) ?_
    exact hx1 _ _ (hj1 (decide (x0.q9.a8 = 3)) H_6 _ I_8 h)
theorem b3u (x0 : J4) {H : Hp} {K : Bool → Hp → Prop} (h : a1B x0 H K) : a4z x0 H K := by
 intro w I
 refine e5b ?_
 refine b2G x0 I (fun r0 H' w' I' hk => ⟨H', _, I', r0, rfl, rfl, hk⟩) h
def P3 (b9P : Bool) (b5A : L3) (a1d : N0) (H : Hp) (K : Bool → Hp → Prop) : Prop :=
 (b9P = true →
 K (decide (b5A.fexprs = 0 ∧ b5A.fparts = 2)) H) ∧
 (b9P = false →
 K false H)
def P4 (a7V : Int) (b9Q : Bool) (o3 : L3) (u0 : N0) (H : Hp) (K : Bool → Hp → Prop) : Prop :=
 (b9Q = true →
 K (decide (o3.fexprs = 0 ∧ o3.fparts = 0)) H) ∧
 (b9Q = false →
 (a7V = 4 →
 K (decide (o3.fexprs = 0 ∧ o3.fparts = 1)) H) ∧
 (¬ (a7V = 4) →
 (a7V = 5 →
 P3 (decide (a7V = 5)) o3 u0 H K) ∧
 (¬ (a7V = 5) →
 P3 (decide (a7V = 6)) o3 u0 H K)))
def a1C (x0 : N0) (H : Hp) (K : Bool → Hp → Prop) : Prop :=
 (x0.p5.a8 = 3 →
 K (((decide (1 ≤ x0.p5.fOp)) && (decide (x0.p5.fOp ≤ 6))) && (decide ((x0.p5.g8.n : Int) = 2 ∧ (x0.p5.q8.n : Int) = 0))) H) ∧
 (¬ (x0.p5.a8 = 3) →
 (¬ (x0.p5.fOp = 0) →
 K false H) ∧
 (x0.p5.fOp = 0 →
 (x0.p5.a8 = 1 →
 P4 x0.p5.a8 (decide (x0.p5.a8 = 1)) (L3.mk (x0.p5.g8.n : Int) (x0.p5.q8.n : Int)) x0 H K) ∧
 (¬ (x0.p5.a8 = 1) →
 P4 x0.p5.a8 (decide (x0.p5.a8 = 2)) (L3.mk (x0.p5.g8.n : Int) (x0.p5.q8.n : Int)) x0 H K)))
theorem b2K (x0 : N0) {K : Bool → Hp → Prop} (I : Inv w0 ps0 H0 H [] w) (hR : ∀ (r0 : Bool) (H' : Hp) (w' : World) (_ : Inv w0 ps0 H0 H' [] w') (_ : K r0 H'), R (vB r0) w') (h : a1C x0 H K) : d2M (Value.agg (d5 x0.p5).toArray) w R E := by
 unfold a1C at h
 unfold d2M
 refine J3 I (cs := (d5 x0.p5)) rfl fun g_2 w_3 I_4 k_5 => ?_
 refine a7 a2p ?_
 refine a7 a0Q ?_
 refine d6 (ld1 Tryd.isAgg22 (I_4.at1 (o := 2) (vs := [(vs x0.p5.g8)]) (nb rfl) rfl)) ?_
 refine a7 (Z3 _ _ _) ?_
 refine a7 a2p ?_
 refine a7 a0h ?_
 refine d6 (ld1 Tryd.isAgg25 (I_4.at1 (o := 3) (vs := [(vs x0.p5.q8)]) (nb rfl) rfl)) ?_
 refine a7 (a2H _ _ _) ?_
 refine a7 (a7R _ _) ?_
 refine y8 I_4 Tryd.zeroValue223 (cs := [(vi 0), (vi 0)]) rfl fun g_7 w_8 I_9 a7x => ?_
 refine m6 I_9 Tryd.sizeOf223 (vs := [(vi (x0.p5.g8.n : Int)), (vi (x0.p5.q8.n : Int))]) (cs' := [(vi (x0.p5.g8.n : Int)), (vi (x0.p5.q8.n : Int))]) rfl rfl (nb rfl) rfl rfl fun P9 C6 b6m => ?_
 refine a7 a2p ?_
 refine a7 a0P ?_
 refine d6 (ld1 Tryd.isAgg3 ((C6.bring 1).at1 (o := 0) (vs := [(vi x0.p5.a8)]) (nb rfl) rfl)) ?_
 refine a7 (m9 _ _ _ _ _ _) ?_
 refine j7 (fun a8J => ?_) (fun a8J => ?_)
 ·replace h := h.1 a8J
  refine a7 a2p ?_
  refine a7 a7O ?_
  refine d6 (ld1 Tryd.isAgg3 ((C6.bring 1).at1 (o := 1) (vs := [(vi x0.p5.fOp)]) (nb rfl) rfl)) ?_
  refine a7 (b7X _ _ _ _ _ _) ?_
  refine a7 (Pu.g fun hb => by have f4 := hb; exact a2p) ?_
  refine a7 (Pu.g fun hb => by have f4 := hb; simp only [p1 f4]; exact a7O) ?_
  refine d6 (Ld.g fun hb => by have f4 := hb; simp only [p1 f4]; exact (ld1 Tryd.isAgg3 ((C6.bring 1).at1 (o := 1) (vs := [(vi x0.p5.fOp)]) (nb rfl) rfl))) ?_
  refine a7 (Pu.g fun hb => by have f4 := hb; simp only [p1 f4]; exact (b1S _ _ _ _ _ _)) ?_
  refine a7 (A6 _ _) ?_
  refine d6 (Ld.g fun hb => by have f4 := hb; exact (ldA Tryd.isAgg223 Tryd.sizeOf223 rfl (C6.at1 (o := 0) (vs := [(vi (x0.p5.g8.n : Int)), (vi (x0.p5.q8.n : Int))]) (nb rfl) rfl))) ?_
  refine a7 (Pu.g fun hb => by have f4 := hb; exact (a7R _ _)) ?_
  refine a7 (Pu.g fun hb => by have f4 := hb; simp only [p1 f4]; exact (b3P _ _ _ _ _ _)) ?_
  refine a7 (A6 _ _) ?_
  exact hR (((decide (1 ≤ x0.p5.fOp)) && (decide (x0.p5.fOp ≤ 6))) && (decide ((x0.p5.g8.n : Int) = 2 ∧ (x0.p5.q8.n : Int) = 0))) H _ C6.drop.drop h
 ·replace h := h.2 a8J
  refine a7 a2p ?_
  refine a7 a7O ?_
  refine d6 (ld1 Tryd.isAgg3 ((C6.bring 1).at1 (o := 1) (vs := [(vi x0.p5.fOp)]) (nb rfl) rfl)) ?_
  refine a7 (T0 _ _ _ _ _ _) ?_
  refine a0s (fun b2H => ?_) (fun b2H => ?_)
  ·replace h := h.1 b2H
   exact hR false H _ C6.drop.drop h
  ·replace h := h.2 b2H
   refine a7 a2p ?_
   refine a7 a0P ?_
   refine d6 (ld1 Tryd.isAgg3 ((C6.bring 1).at1 (o := 0) (vs := [(vi x0.p5.a8)]) (nb rfl) rfl)) ?_
   have hj1 : ∀ (b9Q : Bool) (H : Hp) (w : World) (_ : Inv w0 ps0 H0 H [bx g_7 223 [(vi (L3.mk (x0.p5.g8.n : Int) (x0.p5.q8.n : Int)).fexprs), (vi (L3.mk (x0.p5.g8.n : Int) (x0.p5.q8.n : Int)).fparts)], bx g_2 138 (d5 x0.p5)] w) (_ : P4 x0.p5.a8 b9Q (L3.mk (x0.p5.g8.n : Int) (x0.p5.q8.n : Int)) x0 H K), c4X (Value.pointer (some ⟨g_7, 0, none⟩)) (vi x0.p5.a8) (vB b9Q) w R E := by
    intro b9Q H w I h
    unfold c4X
    intro _
    unfold P4 at h
    refine u2 (fun a8L => ?_) (fun a8L => ?_)
    ·replace h := h.1 a8L
     refine d6 (ldA Tryd.isAgg223 Tryd.sizeOf223 rfl (I.at1 (o := 0) (vs := [(vi (L3.mk (x0.p5.g8.n : Int) (x0.p5.q8.n : Int)).fexprs), (vi (L3.mk (x0.p5.g8.n : Int) (x0.p5.q8.n : Int)).fparts)]) (nb rfl) rfl)) ?_
     refine a7 (d2r ) ?_
     refine a7 (b3P _ _ _ _ _ _) ?_
     exact hR (decide ((L3.mk (x0.p5.g8.n : Int) (x0.p5.q8.n : Int)).fexprs = 0 ∧ (L3.mk (x0.p5.g8.n : Int) (x0.p5.q8.n : Int)).fparts = 0)) H _ I.drop.drop h
    ·replace h := h.2 a8L
     refine a7 (m9 _ _ _ _ _ _) ?_
     refine j7 (fun b2I => ?_) (fun b2I => ?_)
     ·replace h := h.1 b2I
      refine d6 (ldA Tryd.isAgg223 Tryd.sizeOf223 rfl (I.at1 (o := 0) (vs := [(vi (L3.mk (x0.p5.g8.n : Int) (x0.p5.q8.n : Int)).fexprs), (vi (L3.mk (x0.p5.g8.n : Int) (x0.p5.q8.n : Int)).fparts)]) (nb rfl) rfl)) ?_
      refine a7 (a7R _ _) ?_
      refine a7 (b3P _ _ _ _ _ _) ?_
      exact hR (decide ((L3.mk (x0.p5.g8.n : Int) (x0.p5.q8.n : Int)).fexprs = 0 ∧ (L3.mk (x0.p5.g8.n : Int) (x0.p5.q8.n : Int)).fparts = 1)) H _ I.drop.drop h
     ·replace h := h.2 b2I
      have hj2 : ∀ (b9P : Bool) (H : Hp) (w : World) (_ : Inv w0 ps0 H0 H [bx g_7 223 [(vi (L3.mk (x0.p5.g8.n : Int) (x0.p5.q8.n : Int)).fexprs), (vi (L3.mk (x0.p5.g8.n : Int) (x0.p5.q8.n : Int)).fparts)], bx g_2 138 (d5 x0.p5)] w) (_ : P3 b9P (L3.mk (x0.p5.g8.n : Int) (x0.p5.q8.n : Int)) x0 H K), c4W (Value.pointer (some ⟨g_7, 0, none⟩)) (vB b9P) w R E := by
       intro b9P H w I h
       unfold c4W
       intro _
       unfold P3 at h
       refine u2 (fun c1r => ?_) (fun c1r => ?_)
       ·replace h := h.1 c1r
        refine d6 (ldA Tryd.isAgg223 Tryd.sizeOf223 rfl (I.at1 (o := 0) (vs := [(vi (L3.mk (x0.p5.g8.n : Int) (x0.p5.q8.n : Int)).fexprs), (vi (L3.mk (x0.p5.g8.n : Int) (x0.p5.q8.n : Int)).fparts)]) (nb rfl) rfl)) ?_
        refine a7 (a7R _ _) ?_
        refine a7 (b3P _ _ _ _ _ _) ?_
        exact hR (decide ((L3.mk (x0.p5.g8.n : Int) (x0.p5.q8.n : Int)).fexprs = 0 ∧ (L3.mk (x0.p5.g8.n : Int) (x0.p5.q8.n : Int)).fparts = 2)) H _ I.drop.drop h
       ·replace h := h.2 c1r
        exact hR false H _ I.drop.drop h
      refine A7 fun j2 hx2 => ?_
      refine a7 (m9 _ _ _ _ _ _) ?_
      refine j7 (fun a8K => ?_) (fun a8K => ?_)
      ·replace h := h.1 a8K
       exact hx2 _ _ (hj2 (decide (x0.p5.a8 = 5)) H _ ((I.bring 1).bring 1) h)
      ·replace h := h.2 a8K
       refine a7 (m9 _ _ _ _ _ _) ?_
       exact hx2 _ _ (hj2 (decide (x0.p5.a8 = 6)) H _ ((I.bring 1).bring 1) h)
   refine A7 fun j1 hx1 => ?_
   refine a7 (m9 _ _ _ _ _ _) ?_
   refine j7 (fun a4e => ?_) (fun a4e => ?_)
   ·replace h := h.1 a4e
    exact hx1 _ _ (hj1 (decide (x0.p5.a8 = 1)) H _ ((C6.bring 1).bring 1) h)
   ·replace h := h.2 a4e
    refine a7 (m9 _ _ _ _ _ _) ?_
    exact hx1 _ _ (hj1 (decide (x0.p5.a8 = 2)) H _ ((C6.bring 1).bring 1) h)
theorem b3v (x0 : N0) {H : Hp} {K : Bool → Hp → Prop} (h : a1C x0 H K) : a4A x0 H K := by
 intro w I
 refine e5k ?_
 refine b2K x0 I (fun r0 H' w' I' hk => ⟨H', _, I', r0, rfl, rfl, hk⟩) h
def D6 (F5 : (List d7)) (H : Hp) (K : Sl → Hp → Prop) : Prop :=
 ∀ (s8 : Sl) (F8 : Hp), Hle H F8 → SlH F8 1 t6 s8 F5 → s8.n ≤ s8.c →
 K s8 F8
def D7 (K4 : Sl) (R4 : Int) (m8 : (List d7)) (j8 : Int) (H : Hp) (n2 : ((List d7) × Int) → Hp → Prop) (K : Sl → Hp → Prop) : Prop :=
 (j8 < R4 →
 (0 : Int) ≤ j8 ∧ (j8 : Int) < K4.n ∧ ∃ x_1 : b8, EltH H K4 j8 4 (d5 x_1) ∧
 a9v x_1 H (fun (B3 : d7) (M5 : Hp) =>
 (m8.length + ([B3] : List d7).length) * 17 ≤ 140737488355328 ∧
 n2 ((m8 ++ [B3]), (IntKind.wrap .i64 (j8 + 1))) M5)) ∧
 (¬ (j8 < R4) →
 D6 m8 H K)
def E9 (x0 : Sl) (H : Hp) (K : Sl → Hp → Prop) : Prop :=
 TL (([], 0) : (List d7) × Int) H fun (s : (List d7) × Int) H n2 => D7 x0 (x0.n : Int) s.1 s.2 H n2 K
theorem a1S (x0 : Sl) {K : Sl → Hp → Prop} (I : Inv w0 ps0 H0 H [] w) (hR : ∀ (r0 : Sl) (H' : Hp) (w' : World) (_ : Inv w0 ps0 H0 H' [] w') (_ : K r0 H'), R (vs r0) w') (h : E9 x0 H K) : d2P (vs x0) (fC 176) w R E := by
 unfold E9 at h
 unfold d2P
 have hj1 : ∀ (F5 : (List d7)) (s8 : Sl) (Fs5j1 : Frag) (H : Hp) (w : World) (_ : RowL 152 1 t6 s8 F5 Fs5j1) (_ : Inv w0 ps0 H0 H [Fs5j1] w) (_ : D6 F5 H K), c4Y (vs s8) w R E := by
  intro F5 s8 Fs5j1 H w a4T I h
  unfold c4Y
  intro _
  unfold D6 at h
  obtain ⟨F8, a0Y, a5W, a1v, a3F⟩ := Inv.freezeC I a4T (by decide)
  replace h := h s8 F8 a5W a1v a3F
  exact hR s8 F8 _ a0Y h
 refine A7 fun j1 hx1 => ?_
 refine a7 (a2H _ _ _) ?_
 obtain ⟨X1, M0, a7y, a0Z⟩ := h
 refine M9 (J := fun n l w => ∃ (s : (List d7) × Int) (H : Hp) (F6 : Sl) (Fs5l2 : Frag) , n = M0 s ∧ l = (match s with | (m8, j8) => [(vs F6), (vi j8)]) ∧ (match s with | (m8, j8) => RowL 152 1 t6 F6 m8 Fs5l2) ∧ (match s with | (m8, j8) => Inv w0 ps0 H0 H [Fs5l2] w) ∧ X1 s H) ⟨_, ([], 0), H, (Sl.mk none 0 0), [], rfl, rfl, (RowL.nil O3 P0), I.nil, a7y⟩ ?_
 rintro b8I τ_50 w next2 ⟨⟨m8, j8⟩, H, F6, Fs5l2, rfl, V4, Q1, I, a7z⟩ hn2
 dsimp only at V4 I Q1
 simp only [List.map_cons, List.map_nil, List.cons.injEq, and_true] at V4
 obtain ⟨e5, e10⟩ := V4
 simp only [e5, e10]
 obtain ⟨n2, hm2, h⟩ : ∃ n2 : ((List d7) × Int) → Hp → Prop, (∀ s' H', n2 s' H' → X1 s' H' ∧ M0 s' < M0 (m8, j8)) ∧ D7 x0 (x0.n : Int) m8 j8 H n2 K := ⟨_, fun _ _ h => h, a0Z (m8, j8) H (fun s' H' => X1 s' H' ∧ M0 s' < M0 (m8, j8)) a7z (fun _ _ a b => ⟨a, b⟩)⟩
 unfold d1I
 unfold D7 at h
 refine a7 (F4 _ _ _ _ _ _) ?_
 refine j7 (fun T5 => ?_) (fun T5 => ?_)
 ·replace h := h.1 T5
  obtain ⟨h_4, h_5, x_1, h_7, h⟩ := h
  obtain ⟨g_2, o_3, h_6, h_7⟩ := h_7
  refine a7 (a3W h_6 _ _ _ _ h_4 h_5) ?_
  refine d6 (ldA (vs := (d5 x_1)) Tryd.isAgg27 Tryd.sizeOf27 rfl (I.atH h_7)) ?_
  refine y8 I Tryd.zeroValue27 (cs := [(vi 0), (vi 0), (nS), (nS)]) rfl fun g_9 o7 V5 a7A => ?_
  refine m6 V5 Tryd.sizeOf27 (vs := (d5 x_1)) (cs' := (d5 x_1)) rfl rfl (nb rfl) rfl rfl fun V0 J6 a1w => ?_
  refine d6 (ldA Tryd.isAgg27 Tryd.sizeOf27 rfl (J6.at1 (o := 0) (vs := (d5 x_1)) (nb rfl) rfl)) ?_
  refine f2 (cap := []) (fun args w => Tryd.call176 args w) ?_
  refine i8 (Fi := []) (Fr := [bx g_9 27 (d5 x_1), Fs5l2]) J6 (h) (fun b4E M5 b2v Y8 a0E b4F b4G a5k => ?_) (fun _ _ _ _ _ q => q.elim)
  obtain ⟨B3, rfl, rfl, h⟩ := a5k
  refine a3h (e := 152) (c := t6) (xs := [B3]) a0E (a9M _) rfl rfl O3 P0 (nb rfl) fun b0V a9x E5 a4d S8 a8h => ?_
  obtain ⟨a5l, h⟩ := h
  refine b5m (s := F6) (xs := m8) (S8.bring 2) Q1 (a4d.srcO ((S8.bring 2).bring 1)) a5l fun a3G a6Y E3 a5j a1x a9X => ?_
  refine a7 (K3 _ _ _ _ _ _) ?_
  exact hn2 _ _ _ (hm2 _ _ h).2 ⟨((m8 ++ [B3]), (IntKind.wrap .i64 (j8 + 1))), M5, a3G, a6Y, rfl, rfl, a5j, ((a1x.bring 1).drop.bring 1).drop, (hm2 _ _ h).1⟩
 ·replace h := h.2 T5
  exact hx1 _ _ (hj1 m8 F6 Fs5l2 H _ Q1 I h)
theorem a2b (x0 : Sl) {H : Hp} {K : Sl → Hp → Prop} (h : E9 x0 H K) : E6 x0 H K := by
 intro w I
 refine e5o ?_
 refine a1S x0 I (fun r0 H' w' I' hk => ⟨H', _, I', r0, rfl, rfl, hk⟩) h
def a1D (x0 : T3) (H : Hp) (K : Bool → Hp → Prop) : Prop :=
 K ((decide (0 ≤ x0.T4.Z2)) && (decide (x0.T4.Z2 ≤ 2147483647))) H
theorem b2L (x0 : T3) {K : Bool → Hp → Prop} (I : Inv w0 ps0 H0 H [] w) (hR : ∀ (r0 : Bool) (H' : Hp) (w' : World) (_ : Inv w0 ps0 H0 H' [] w') (_ : K r0 H'), R (vB r0) w') (h : a1D x0 H K) : d2R (Value.agg (p6 x0.T4).toArray) w R E := by
 unfold a1D at h
 unfold d2R
 refine J3 I (cs := (p6 x0.T4)) rfl fun g_2 w_3 I_4 k_5 => ?_
 refine a7 b4x ?_
 refine a7 b1j ?_
 refine d6 (ld1 Tryd.isAgg3 (I_4.at1 (o := 1) (vs := [(vi x0.T4.Z2)]) (nb rfl) rfl)) ?_
 refine a7 (b7X _ _ _ _ _ _) ?_
 refine a7 (Pu.g fun hb => by have f4 := hb; exact b4x) ?_
 refine a7 (Pu.g fun hb => by have f4 := hb; simp only [p1 f4]; exact b1j) ?_
 refine d6 (Ld.g fun hb => by have f4 := hb; simp only [p1 f4]; exact (ld1 Tryd.isAgg3 (I_4.at1 (o := 1) (vs := [(vi x0.T4.Z2)]) (nb rfl) rfl))) ?_
 refine a7 (Pu.g fun hb => by have f4 := hb; simp only [p1 f4]; exact (b1S _ _ _ _ _ _)) ?_
 refine a7 (A6 _ _) ?_
 exact hR ((decide (0 ≤ x0.T4.Z2)) && (decide (x0.T4.Z2 ≤ 2147483647))) H _ I_4.drop h
theorem b3w (x0 : T3) {H : Hp} {K : Bool → Hp → Prop} (h : a1D x0 H K) : a8d x0 H K := by
 intro w I
 refine e5s ?_
 refine b2L x0 I (fun r0 H' w' I' hk => ⟨H', _, I', r0, rfl, rfl, hk⟩) h
def P5 (b6H : Bool) (e2S : Int) (b9R : Bool) (o3 : Q2) (u0 : P8) (H : Hp) (K : Bool → Hp → Prop) : Prop :=
 (b9R = true →
 K (b6H && (decide (o3.fexprs = 0 ∧ o3.fconds = 1))) H) ∧
 (b9R = false →
 (e2S = 7 →
 K (b6H && (decide (o3.fexprs = 0 ∧ o3.fconds = 0))) H) ∧
 (¬ (e2S = 7) →
 K false H))
def a1E (x0 : P8) (H : Hp) (K : Bool → Hp → Prop) : Prop :=
 (x0.f7.a8 = 1 →
 K ((!(decide (0 < (IntKind.wrap .i64 ((x0.f7.v6.n : Int) + (x0.f7.t7.n : Int)))))) && (decide ((x0.f7.g8.n : Int) = 1 ∧ (x0.f7.o9.n : Int) = 0))) H) ∧
 (¬ (x0.f7.a8 = 1) →
 (x0.f7.a8 = 2 →
 K ((!(decide (0 < (IntKind.wrap .i64 ((x0.f7.v6.n : Int) + (x0.f7.t7.n : Int)))))) && (decide ((x0.f7.g8.n : Int) = 2 ∧ (x0.f7.o9.n : Int) = 0))) H) ∧
 (¬ (x0.f7.a8 = 2) →
 (x0.f7.a8 = 3 →
 K ((decide (x0.f7.b7 = ⟨#[]⟩)) && (decide ((x0.f7.g8.n : Int) = 0 ∧ (x0.f7.o9.n : Int) = 1))) H) ∧
 (¬ (x0.f7.a8 = 3) →
 (x0.f7.a8 = 4 →
 K (((decide (x0.f7.b7 = ⟨#[]⟩)) && (decide ((x0.f7.t7.n : Int) = 0))) && (decide ((x0.f7.g8.n : Int) = 0 ∧ (x0.f7.o9.n : Int) = 1))) H) ∧
 (¬ (x0.f7.a8 = 4) →
 (x0.f7.a8 = 5 →
 P5 ((decide (x0.f7.b7 = ⟨#[]⟩)) && (!(decide (0 < (IntKind.wrap .i64 ((x0.f7.v6.n : Int) + (x0.f7.t7.n : Int))))))) x0.f7.a8 (decide (x0.f7.a8 = 5)) (Q2.mk (x0.f7.g8.n : Int) (x0.f7.o9.n : Int)) x0 H K) ∧
 (¬ (x0.f7.a8 = 5) →
 P5 ((decide (x0.f7.b7 = ⟨#[]⟩)) && (!(decide (0 < (IntKind.wrap .i64 ((x0.f7.v6.n : Int) + (x0.f7.t7.n : Int))))))) x0.f7.a8 (decide (x0.f7.a8 = 6)) (Q2.mk (x0.f7.g8.n : Int) (x0.f7.o9.n : Int)) x0 H K)))))
theorem b2M (x0 : P8) {K : Bool → Hp → Prop} (I : Inv w0 ps0 H0 H [] w) (hR : ∀ (r0 : Bool) (H' : Hp) (w' : World) (_ : Inv w0 ps0 H0 H' [] w') (_ : K r0 H'), R (vB r0) w') (h : a1E x0 H K) : d2V (Value.agg (d8 x0.f7).toArray) w R E := by
 unfold a1E at h
 unfold d2V
 refine J3 I (cs := (d8 x0.f7)) rfl fun g_2 w_3 I_4 k_5 => ?_
 refine a7 O7 ?_
 refine a7 a2o ?_
 refine d6 (ld1 Tryd.isAgg42 (I_4.at1 (o := 4) (vs := [(vs x0.f7.v6)]) (nb rfl) rfl)) ?_
 refine a7 (a3O _ _ _) ?_
 refine a7 O7 ?_
 refine a7 a0T ?_
 refine d6 (ld1 Tryd.isAgg42 (I_4.at1 (o := 5) (vs := [(vs x0.f7.t7)]) (nb rfl) rfl)) ?_
 refine a7 (a3O _ _ _) ?_
 refine a7 (K3 _ _ _ _ _ _) ?_
 refine a7 (a7h _ _ _ _ _ _) ?_
 refine a7 O7 ?_
 refine a7 a3w ?_
 refine d6 (ld1 Tryd.isAgg22 (I_4.at1 (o := 2) (vs := [(vs x0.f7.g8)]) (nb rfl) rfl)) ?_
 refine a7 (Z3 _ _ _) ?_
 refine a7 O7 ?_
 refine a7 a0S ?_
 refine d6 (ld1 Tryd.isAgg25 (I_4.at1 (o := 3) (vs := [(vs x0.f7.o9)]) (nb rfl) rfl)) ?_
 refine a7 (a2H _ _ _) ?_
 refine a7 (a3S _ _) ?_
 refine y8 I_4 Tryd.zeroValue227 (cs := [(vi 0), (vi 0)]) rfl fun g_7 w_8 I_9 a7x => ?_
 refine m6 I_9 Tryd.sizeOf227 (vs := [(vi (x0.f7.g8.n : Int)), (vi (x0.f7.o9.n : Int))]) (cs' := [(vi (x0.f7.g8.n : Int)), (vi (x0.f7.o9.n : Int))]) rfl rfl (nb rfl) rfl rfl fun P9 C6 b6m => ?_
 refine a7 O7 ?_
 refine a7 a4M ?_
 refine d6 (ld1 Tryd.isAgg9 ((C6.bring 1).at1 (o := 1) (vs := [(Value.string x0.f7.b7)]) (nb rfl) rfl)) ?_
 refine a7 (a1O _ _ _ _ _) ?_
 simp only [O5]
 refine a7 (Pu.g fun hb => by have f4 := hb; simp only [p1 f4]; exact (a1N _)) ?_
 refine a7 (A6 _ _) ?_
 refine a7 O7 ?_
 refine a7 a0R ?_
 refine d6 (ld1 Tryd.isAgg3 ((C6.bring 1).at1 (o := 0) (vs := [(vi x0.f7.a8)]) (nb rfl) rfl)) ?_
 refine a7 (m9 _ _ _ _ _ _) ?_
 refine j7 (fun a8J => ?_) (fun a8J => ?_)
 ·replace h := h.1 a8J
  refine a7 (a1N _) ?_
  refine d6 (Ld.g fun hb => by have f4 := hb; exact (ldA Tryd.isAgg227 Tryd.sizeOf227 rfl (C6.at1 (o := 0) (vs := [(vi (x0.f7.g8.n : Int)), (vi (x0.f7.o9.n : Int))]) (nb rfl) rfl))) ?_
  refine a7 (Pu.g fun hb => by have f4 := hb; exact (a3S _ _)) ?_
  refine a7 (Pu.g fun hb => by have f4 := hb; simp only [p1 f4]; exact (a8W _ _ _ _ _ _)) ?_
  refine a7 (A6 _ _) ?_
  exact hR ((!(decide (0 < (IntKind.wrap .i64 ((x0.f7.v6.n : Int) + (x0.f7.t7.n : Int)))))) && (decide ((x0.f7.g8.n : Int) = 1 ∧ (x0.f7.o9.n : Int) = 0))) H _ C6.drop.drop h
 ·replace h := h.2 a8J
  refine a7 (m9 _ _ _ _ _ _) ?_
  refine j7 (fun b2H => ?_) (fun b2H => ?_)
  ·replace h := h.1 b2H
   refine a7 (a1N _) ?_
   refine d6 (Ld.g fun hb => by have f4 := hb; exact (ldA Tryd.isAgg227 Tryd.sizeOf227 rfl (C6.at1 (o := 0) (vs := [(vi (x0.f7.g8.n : Int)), (vi (x0.f7.o9.n : Int))]) (nb rfl) rfl))) ?_
   refine a7 (Pu.g fun hb => by have f4 := hb; exact (a3S _ _)) ?_
   refine a7 (Pu.g fun hb => by have f4 := hb; simp only [p1 f4]; exact (a8W _ _ _ _ _ _)) ?_
   refine a7 (A6 _ _) ?_
   exact hR ((!(decide (0 < (IntKind.wrap .i64 ((x0.f7.v6.n : Int) + (x0.f7.t7.n : Int)))))) && (decide ((x0.f7.g8.n : Int) = 2 ∧ (x0.f7.o9.n : Int) = 0))) H _ C6.drop.drop h
  ·replace h := h.2 b2H
   refine a7 (m9 _ _ _ _ _ _) ?_
   refine j7 (fun a4e => ?_) (fun a4e => ?_)
   ·replace h := h.1 a4e
    refine a7 O7 ?_
    refine a7 a4M ?_
    refine d6 (ld1 Tryd.isAgg9 ((C6.bring 1).at1 (o := 1) (vs := [(Value.string x0.f7.b7)]) (nb rfl) rfl)) ?_
    refine a7 (a1O _ _ _ _ _) ?_
    refine d6 (Ld.g fun hb => by have f4 := hb; exact (ldA Tryd.isAgg227 Tryd.sizeOf227 rfl (C6.at1 (o := 0) (vs := [(vi (x0.f7.g8.n : Int)), (vi (x0.f7.o9.n : Int))]) (nb rfl) rfl))) ?_
    refine a7 (Pu.g fun hb => by have f4 := hb; exact (a3S _ _)) ?_
    refine a7 (Pu.g fun hb => by have f4 := hb; simp only [p1 f4]; exact (a8W _ _ _ _ _ _)) ?_
    refine a7 (A6 _ _) ?_
    exact hR ((decide (x0.f7.b7 = ⟨#[]⟩)) && (decide ((x0.f7.g8.n : Int) = 0 ∧ (x0.f7.o9.n : Int) = 1))) H _ C6.drop.drop h
   ·replace h := h.2 a4e
    refine a7 (m9 _ _ _ _ _ _) ?_
    refine j7 (fun a8L => ?_) (fun a8L => ?_)
    ·replace h := h.1 a8L
     refine a7 O7 ?_
     refine a7 a4M ?_
     refine d6 (ld1 Tryd.isAgg9 ((C6.bring 1).at1 (o := 1) (vs := [(Value.string x0.f7.b7)]) (nb rfl) rfl)) ?_
     refine a7 (a1O _ _ _ _ _) ?_
     refine a7 (Pu.g fun hb => by have f4 := hb; exact O7) ?_
     refine a7 (Pu.g fun hb => by have f4 := hb; simp only [p1 f4]; exact a0T) ?_
     refine d6 (Ld.g fun hb => by have f4 := hb; simp only [p1 f4]; exact (ld1 Tryd.isAgg42 ((C6.bring 1).at1 (o := 5) (vs := [(vs x0.f7.t7)]) (nb rfl) rfl))) ?_
     refine a7 (Pu.g fun hb => by have f4 := hb; simp only [p1 f4]; exact (a3O _ _ _)) ?_
     refine a7 (Pu.g fun hb => by have f4 := hb; simp only [p1 f4]; exact (m9 _ _ _ _ _ _)) ?_
     refine a7 (A6 _ _) ?_
     refine d6 (Ld.g fun hb => by have f4 := hb; exact (ldA Tryd.isAgg227 Tryd.sizeOf227 rfl (C6.at1 (o := 0) (vs := [(vi (x0.f7.g8.n : Int)), (vi (x0.f7.o9.n : Int))]) (nb rfl) rfl))) ?_
     refine a7 (Pu.g fun hb => by have f4 := hb; exact (a3S _ _)) ?_
     refine a7 (Pu.g fun hb => by have f4 := hb; simp only [p1 f4]; exact (a8W _ _ _ _ _ _)) ?_
     refine a7 (A6 _ _) ?_
     exact hR (((decide (x0.f7.b7 = ⟨#[]⟩)) && (decide ((x0.f7.t7.n : Int) = 0))) && (decide ((x0.f7.g8.n : Int) = 0 ∧ (x0.f7.o9.n : Int) = 1))) H _ C6.drop.drop h
    ·replace h := h.2 a8L
     have hj1 : ∀ (b9R : Bool) (H : Hp) (w : World) (_ : Inv w0 ps0 H0 H [bx g_7 227 [(vi (Q2.mk (x0.f7.g8.n : Int) (x0.f7.o9.n : Int)).fexprs), (vi (Q2.mk (x0.f7.g8.n : Int) (x0.f7.o9.n : Int)).fconds)], bx g_2 179 (d8 x0.f7)] w) (_ : P5 ((decide (x0.f7.b7 = ⟨#[]⟩)) && (!(decide (0 < (IntKind.wrap .i64 ((x0.f7.v6.n : Int) + (x0.f7.t7.n : Int))))))) x0.f7.a8 b9R (Q2.mk (x0.f7.g8.n : Int) (x0.f7.o9.n : Int)) x0 H K), c4Z (Value.pointer (some ⟨g_7, 0, none⟩)) (vB ((decide (x0.f7.b7 = ⟨#[]⟩)) && (!(decide (0 < (IntKind.wrap .i64 ((x0.f7.v6.n : Int) + (x0.f7.t7.n : Int)))))))) (vi x0.f7.a8) (vB b9R) w R E := by
      intro b9R H w I h
      unfold c4Z
      intro _
      unfold P5 at h
      refine u2 (fun a8K => ?_) (fun a8K => ?_)
      ·replace h := h.1 a8K
       refine d6 (Ld.g fun hb => by have f4 := hb; exact (ldA Tryd.isAgg227 Tryd.sizeOf227 rfl (I.at1 (o := 0) (vs := [(vi (Q2.mk (x0.f7.g8.n : Int) (x0.f7.o9.n : Int)).fexprs), (vi (Q2.mk (x0.f7.g8.n : Int) (x0.f7.o9.n : Int)).fconds)]) (nb rfl) rfl))) ?_
       refine a7 (Pu.g fun hb => by have f4 := hb; exact (a3S _ _)) ?_
       refine a7 (Pu.g fun hb => by have f4 := hb; simp only [p1 f4]; exact (a8W _ _ _ _ _ _)) ?_
       refine a7 (A6 _ _) ?_
       exact hR (((decide (x0.f7.b7 = ⟨#[]⟩)) && (!(decide (0 < (IntKind.wrap .i64 ((x0.f7.v6.n : Int) + (x0.f7.t7.n : Int))))))) && (decide ((Q2.mk (x0.f7.g8.n : Int) (x0.f7.o9.n : Int)).fexprs = 0 ∧ (Q2.mk (x0.f7.g8.n : Int) (x0.f7.o9.n : Int)).fconds = 1))) H _ I.drop.drop h
      ·replace h := h.2 a8K
       refine a7 (m9 _ _ _ _ _ _) ?_
       refine j7 (fun c1r => ?_) (fun c1r => ?_)
       ·replace h := h.1 c1r
        refine d6 (Ld.g fun hb => by have f4 := hb; exact (ldA Tryd.isAgg227 Tryd.sizeOf227 rfl (I.at1 (o := 0) (vs := [(vi (Q2.mk (x0.f7.g8.n : Int) (x0.f7.o9.n : Int)).fexprs), (vi (Q2.mk (x0.f7.g8.n : Int) (x0.f7.o9.n : Int)).fconds)]) (nb rfl) rfl))) ?_
        refine a7 (Pu.g fun hb => by have f4 := hb; exact (d2s )) ?_
        refine a7 (Pu.g fun hb => by have f4 := hb; simp only [p1 f4]; exact (a8W _ _ _ _ _ _)) ?_
        refine a7 (A6 _ _) ?_
        exact hR (((decide (x0.f7.b7 = ⟨#[]⟩)) && (!(decide (0 < (IntKind.wrap .i64 ((x0.f7.v6.n : Int) + (x0.f7.t7.n : Int))))))) && (decide ((Q2.mk (x0.f7.g8.n : Int) (x0.f7.o9.n : Int)).fexprs = 0 ∧ (Q2.mk (x0.f7.g8.n : Int) (x0.f7.o9.n : Int)).fconds = 0))) H _ I.drop.drop h
       ·replace h := h.2 c1r
        exact hR false H _ I.drop.drop h
     refine A7 fun j1 hx1 => ?_
     refine a7 (m9 _ _ _ _ _ _) ?_
     refine j7 (fun b2I => ?_) (fun b2I => ?_)
     ·replace h := h.1 b2I
      exact hx1 _ _ (hj1 (decide (x0.f7.a8 = 5)) H _ ((C6.bring 1).bring 1) h)
     ·replace h := h.2 b2I
      refine a7 (m9 _ _ _ _ _ _) ?_
      exact hx1 _ _ (hj1 (decide (x0.f7.a8 = 6)) H _ ((C6.bring 1).bring 1) h)
theorem b3x (x0 : P8) {H : Hp} {K : Bool → Hp → Prop} (h : a1E x0 H K) : a4B x0 H K := by
 intro w I
 refine e5V ?_
 refine b2M x0 I (fun r0 H' w' I' hk => ⟨H', _, I', r0, rfl, rfl, hk⟩) h
end Go.Proofs.YtnhkdkcgdcgmdaaDoor
