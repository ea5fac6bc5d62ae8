/- Typed formulas of the program's functions, and the theorems that the contracts follow from them; printed by lift.py off the code. -/
import Derived.Test.YtnhkdkcgdcgmdaaDoorzLV1
namespace Go.Proofs.YtnhkdkcgdcgmdaaDoor
open Go.RowKit
set_option maxRecDepth 100000
set_option maxHeartbeats 2000000
variable {w0 w : World} {ps0 : Nat → Prop} {H0 H : Hp} {R : RT} {E : Pan}
def a1H (x0 : a8) (H : Hp) (K : ByteArray → Bool → Hp → Prop) : Prop :=
 (x0.a3E = true →
 K ((((x0.Q5)).M9).d6) true H) ∧
 (x0.a3E = false →
 (x0.a3F = true →
 K ((((x0.i6)).d7).d6) ((decide (((((x0.i6)).d7).b9) = 1)) || (decide (((((x0.i6)).d7).b9) = 2))) H) ∧
 (x0.a3F = false →
 (x0.a3D = true →
 K ((((x0.p8)).l0).d6) ((decide (((((x0.p8)).l0).b9) = 2)) || (decide (((((x0.p8)).l0).b9) = 4))) H) ∧
 (x0.a3D = false →
 K ⟨#[]⟩ false H)))
theorem b2F (x0 : a8) {K : ByteArray → Bool → Hp → Prop} (I : Inv w0 ps0 H0 H [] w) (hR : ∀ (r0 : ByteArray) (r1 : Bool) (H' : Hp) (w' : World) (_ : Inv w0 ps0 H0 H' [] w') (_ : K r0 r1 H'), R (Value.tuple #[(Value.string r0), (vB r1)]) w') (h : a1H x0 H K) : c6T (t8 x0) w R E := by
 unfold a1H at h
 unfold c6T
 refine a7 (c0U x0) ?_
 refine a7 (m6 _ _ (vB x0.a3E) rfl) ?_
 refine a7 (m6 _ _ _ rfl) ?_
 refine p7 (fun d3b => ?_) (fun d3b => ?_)
 ·replace h := h.1 d3b
  refine z7 I Tryd.zeroValue177 (cs := [(eS), (vi 0)]) rfl fun g_2 w_3 I_4 k_5 => ?_
  refine m9 I_4 Tryd.sizeOf177 (vs := [(Value.string ((((x0.Q5)).M9).d6)), (vi ((((x0.Q5)).M9).D3))]) (cs' := [(Value.string ((((x0.Q5)).M9).d6)), (vi ((((x0.Q5)).M9).D3))]) rfl rfl (nb rfl) rfl rfl fun w_6 I_7 k_8 => ?_
  refine a7 a9U ?_
  refine a7 a0g ?_
  refine b8 (ld1 Tryd.isAgg9 (I_7.at1 (o := 0) (vs := [(Value.string ((((x0.Q5)).M9).d6))]) (nb rfl) rfl)) ?_
  exact hR ((((x0.Q5)).M9).d6) true H _ I_7.drop h
 ·replace h := h.2 d3b
  refine a7 (c0V x0) ?_
  refine a7 (m6 _ _ (vB x0.a3F) rfl) ?_
  refine a7 (m6 _ _ _ rfl) ?_
  refine p7 (fun b5U => ?_) (fun b5U => ?_)
  ·replace h := h.1 b5U
   refine z7 I Tryd.zeroValue179 (cs := [(vi 0), (eS), (nS), (nS), (nS), (nS)]) rfl fun g1W a0I O6 b5V => ?_
   refine m9 O6 Tryd.sizeOf179 (vs := [(vi ((((x0.i6)).d7).b9)), (Value.string ((((x0.i6)).d7).d6)), (Value.slice ((((x0.i6)).d7).i7).a ((((x0.i6)).d7).i7).n ((((x0.i6)).d7).i7).c), (Value.slice ((((x0.i6)).d7).r5).a ((((x0.i6)).d7).r5).n ((((x0.i6)).d7).r5).c), (Value.slice ((((x0.i6)).d7).G7).a ((((x0.i6)).d7).G7).n ((((x0.i6)).d7).G7).c), (Value.slice ((((x0.i6)).d7).G0).a ((((x0.i6)).d7).G0).n ((((x0.i6)).d7).G0).c)]) (cs' := [(vi ((((x0.i6)).d7).b9)), (Value.string ((((x0.i6)).d7).d6)), (Value.slice ((((x0.i6)).d7).i7).a ((((x0.i6)).d7).i7).n ((((x0.i6)).d7).i7).c), (Value.slice ((((x0.i6)).d7).r5).a ((((x0.i6)).d7).r5).n ((((x0.i6)).d7).r5).c), (Value.slice ((((x0.i6)).d7).G7).a ((((x0.i6)).d7).G7).n ((((x0.i6)).d7).G7).c), (Value.slice ((((x0.i6)).d7).G0).a ((((x0.i6)).d7).G0).n ((((x0.i6)).d7).G0).c)]) rfl rfl (nb rfl) rfl rfl fun o2 b5W c7r => ?_
   refine a0p b5W fun a2k a4J => ?_
   refine j8 G9 ?_
   refine j8 a1D ?_
   refine j8 G9 ?_
   refine j8 a5i ?_
   refine u0 (ld1 Tryd.isAgg9 (a4J.at1 (o := 1) (vs := [(Value.string ((((x0.i6)).d7).d6))]) (nb rfl) rfl)) ?_
   refine u0 (ld1 Tryd.isAgg3 (a4J.at1 (o := 0) (vs := [(vi ((((x0.i6)).d7).b9))]) (nb rfl) rfl)) ?_
   refine j8 (i8 _ _ _ _ _ _) ?_
   refine j8 (Pu.g fun hb => by have g7 := hb; exact G9) ?_
   refine j8 (Pu.g fun hb => by have g7 := hb; simp only [o7 g7]; exact a5i) ?_
   refine e4p (p := (Value.pointer (some ⟨g1W, 0, none⟩))) rfl (Ld.g fun hb => by have g7 := hb; simp only [o7 g7]; exact (ld1 Tryd.isAgg3 (a4J.at1 (o := 0) (vs := [(vi ((((x0.i6)).d7).b9))]) (nb rfl) rfl))) ?_
   refine j8 (Pu.g fun hb => by have g7 := hb; simp only [o7 g7]; exact (i8 _ _ _ _ _ _)) ?_
   refine j8 (W6 _ _) ?_
   exact hR ((((x0.i6)).d7).d6) ((decide (((((x0.i6)).d7).b9) = 1)) || (decide (((((x0.i6)).d7).b9) = 2))) H _ a4J.drop h
  ·replace h := h.2 b5U
   refine a7 (c0W x0) ?_
   refine a7 (m6 _ _ (vB x0.a3D) rfl) ?_
   refine a7 (m6 _ _ _ rfl) ?_
   refine p7 (fun b5X => ?_) (fun b5X => ?_)
   ·replace h := h.1 b5X
    refine z7 I Tryd.zeroValue123 (cs := [(vi 0), (vi 0), (eS), (nS)]) rfl fun e8H a1N b9v g1X => ?_
    refine m9 b9v Tryd.sizeOf123 (vs := [(vi ((((x0.p8)).l0).b9)), (vi ((((x0.p8)).l0).G8)), (Value.string ((((x0.p8)).l0).d6)), (Value.slice ((((x0.p8)).l0).z6).a ((((x0.p8)).l0).z6).n ((((x0.p8)).l0).z6).c)]) (cs' := [(vi ((((x0.p8)).l0).b9)), (vi ((((x0.p8)).l0).G8)), (Value.string ((((x0.p8)).l0).d6)), (Value.slice ((((x0.p8)).l0).z6).a ((((x0.p8)).l0).z6).n ((((x0.p8)).l0).z6).c)]) rfl rfl (nb rfl) rfl rfl fun u5 a6T g1Y => ?_
    refine a0p a6T fun a3j a8l => ?_
    refine j8 U4 ?_
    refine j8 a3I ?_
    refine j8 U4 ?_
    refine j8 U7 ?_
    refine u0 (ld1 Tryd.isAgg9 (a8l.at1 (o := 2) (vs := [(Value.string ((((x0.p8)).l0).d6))]) (nb rfl) rfl)) ?_
    refine u0 (ld1 Tryd.isAgg3 (a8l.at1 (o := 0) (vs := [(vi ((((x0.p8)).l0).b9))]) (nb rfl) rfl)) ?_
    refine j8 (i8 _ _ _ _ _ _) ?_
    refine j8 (Pu.g fun hb => by have g7 := hb; exact U4) ?_
    refine j8 (Pu.g fun hb => by have g7 := hb; simp only [o7 g7]; exact U7) ?_
    refine e4p (p := (Value.pointer (some ⟨e8H, 0, none⟩))) rfl (Ld.g fun hb => by have g7 := hb; simp only [o7 g7]; exact (ld1 Tryd.isAgg3 (a8l.at1 (o := 0) (vs := [(vi ((((x0.p8)).l0).b9))]) (nb rfl) rfl))) ?_
    refine j8 (Pu.g fun hb => by have g7 := hb; simp only [o7 g7]; exact (i8 _ _ _ _ _ _)) ?_
    refine j8 (W6 _ _) ?_
    exact hR ((((x0.p8)).l0).d6) ((decide (((((x0.p8)).l0).b9) = 2)) || (decide (((((x0.p8)).l0).b9) = 4))) H _ a8l.drop h
   ·replace h := h.2 b5X
    exact hR ⟨#[]⟩ false H _ I h
theorem b3s (x0 : a8) {H : Hp} {K : ByteArray → Bool → Hp → Prop} (h : a1H x0 H K) : a0r x0 H K := by
 intro w I
 refine d9j ?_
 refine b2F x0 I (fun r0 r1 H' w' I' hk => ⟨H', _, I', r0, r1, rfl, rfl, hk⟩) h
def a2p (x0 : Int) (x1 : Int) (x2 : Int) (H : Hp) (K : Bool → Hp → Prop) : Prop :=
 K ((decide (x0 ≤ x2)) && (decide (x2 ≤ x1))) H
theorem b0b (x0 : Int) (x1 : Int) (x2 : Int) (g2 : Nat) {K : Bool → Hp → Prop} (I : Inv w0 ps0 H0 H [bx g2 21 [(Value.int .i32 x2)]] w) (hR : ∀ (r0 : Bool) (H' : Hp) (w' : World) (_ : Inv w0 ps0 H0 H' [bx g2 21 [(Value.int .i32 x2)]] w') (_ : K r0 H'), R (vB r0) w') (h : a2p x0 x1 x2 H K) : c7c (Value.int .i32 x0) (Value.int .i32 x1) (Value.pointer (some ⟨g2, 0, none⟩)) w R E := by
 unfold a2p at h
 unfold c7c
 refine b8 (ld1 Tryd.isAgg21 (I.at1 (o := 0) (vs := [(Value.int .i32 x2)]) (nb rfl) rfl)) ?_
 refine a7 (b2O _ _ _ _ _ _) ?_
 refine b8 (Ld.g fun hb => by have g7 := hb; exact (ld1 Tryd.isAgg21 (I.at1 (o := 0) (vs := [(Value.int .i32 x2)]) (nb rfl) rfl))) ?_
 simp only [L3]
 refine a7 (Pu.g fun hb => by have g7 := hb; simp only [o7 g7]; exact (b2O _ _ _ _ _ _)) ?_
 refine a7 (O7 _ _) ?_
 exact hR ((decide (x0 ≤ x2)) && (decide (x2 ≤ x1))) H _ I h
theorem b0A (x0 : Int) (x1 : Int) (x2 : Int) {H : Hp} {K : Bool → Hp → Prop} (h : a2p x0 x1 x2 H K) : E5 x0 x1 x2 H K := by
 intro g2 w I
 refine d9B ?_
 refine b0b x0 x1 x2 g2 I (fun r0 H' w' I' hk => ⟨H', _, I', r0, rfl, rfl, hk⟩) h
def a2J (H : Hp) (K : Bool → Hp → Prop) : Prop :=
 K true H
def K5 (b0B : ByteArray) (E6 : Nat) (H : Hp) (n2 : Nat → Hp → Prop) (K : Bool → Hp → Prop) : Prop :=
 (E6 < b0B.size →
 a3m ((Utf8.decode b0B E6).1 : Int) H (fun (a6u : Bool) (b3t : Hp) =>
 TG ((!(!a6u) && (decide (((E6 : Nat) : Int) = 0))) = true) (a1l ((Utf8.decode b0B E6).1 : Int) b3t) 0 b3t (fun (a3P : Int) (a2K : Hp) =>
 (((!a6u) || ((decide (((E6 : Nat) : Int) = 0)) && (!decide (a3P = 3)))) = true →
 K false a2K) ∧
 (((!a6u) || ((decide (((E6 : Nat) : Int) = 0)) && (!decide (a3P = 3)))) = false →
 n2 (E6 + (Utf8.decode b0B E6).2) a2K)))) ∧
 (¬ (E6 < b0B.size) →
 a2J H K)
def a1U (x0 : ByteArray) (H : Hp) (K : Bool → Hp → Prop) : Prop :=
 TG ((decide (x0 = ⟨#[]⟩)) = false) (a3e x0 H) false H (fun (C4 : Bool) (H_1 : Hp) =>
 TG (((decide (x0 = ⟨#[]⟩)) || (!C4)) = false) (a1R x0 H_1) false H_1 (fun (C6 : Bool) (a3p : Hp) =>
 TG ((((decide (x0 = ⟨#[]⟩)) || (!C4)) || C6) = false) (a0E x0 a3p) false a3p (fun (W8 : Bool) (a0O : Hp) =>
 (((((decide (x0 = ⟨#[]⟩)) || (!C4)) || C6) || W8) = true →
 K false a0O) ∧
 (((((decide (x0 = ⟨#[]⟩)) || (!C4)) || C6) || W8) = false →
 TL (0 : Nat) a0O fun (s : Nat) H n2 => K5 x0 s H n2 K))))
theorem b3u (x0 : ByteArray) {K : Bool → Hp → Prop} (I : Inv w0 ps0 H0 H [] w) (hR : ∀ (r0 : Bool) (H' : Hp) (w' : World) (_ : Inv w0 ps0 H0 H' [] w') (_ : K r0 H'), R (vB r0) w') (h : a1U x0 H K) : c6U (Value.string x0) w R E := by
 unfold a1U at h
 unfold c6U
 refine a7 (a0D _ _ _ _ _) ?_
 simp only [L3]
 refine a6z (D := fun v_5 w_2 => ∃ (C4 : Bool) (H_1 : Hp) , v_5 = (gv (decide (x0 = ⟨#[]⟩)) false (vB C4)) ∧ (Inv w0 ps0 H0 H_1 [] w_2) ∧ (∀ i, i < w.heap.size → ¬ inF [] i → w_2.heap[i]? = w.heap[i]?) ∧ Hle H H_1 ∧ (TG (((decide (x0 = ⟨#[]⟩)) || (!C4)) = false) (a1R x0 H_1) false H_1 (fun (C6 : Bool) (a3p : Hp) =>
 TG ((((decide (x0 = ⟨#[]⟩)) || (!C4)) || C6) = false) (a0E x0 a3p) false a3p (fun (W8 : Bool) (a0O : Hp) =>
 (((((decide (x0 = ⟨#[]⟩)) || (!C4)) || C6) || W8) = true →
 K false a0O) ∧
 (((((decide (x0 = ⟨#[]⟩)) || (!C4)) || C6) || W8) = false →
 TL (0 : Nat) a0O fun (s : Nat) H n2 => K5 x0 s H n2 K))))) (fun b7O => ?_) (fun b7O => ?_) ?_
 ·replace h := h.1 b7O
  have g7 := b7O
  simp only [o7 g7]
  refine d5 (cap := []) (fun args w => Tryd.call137 args w) ?_
  refine m5 (Fi := []) (Fr := []) I (h) (fun v_5 H_1 F_6 w_2 I_3 l_8 k_4 q_7 => ?_) (fun _ _ _ _ _ q => q.elim)
  obtain ⟨C4, rfl, rfl, h⟩ := q_7
  exact ⟨C4, H_1, by rfl, I_3, k_4, l_8, h⟩
 ·exact ⟨false, H, by rw [b1f b7O], I, fun _ _ _ => rfl, Hle.refl _, h.2 b7O⟩
 ·clear h
  rintro v_5 w_2 ⟨C4, H_1, rfl, I_3, k_4, l_8, h⟩
  refine a7 (Pu.g fun hb => by have g7 := hb; simp only [o7 g7]; exact (a0C _)) ?_
  refine a7 (W6 _ _) ?_
  simp only [L3]
  refine a6z (D := fun c7s a0I => ∃ (C6 : Bool) (a3p : Hp) , c7s = (gv ((decide (x0 = ⟨#[]⟩)) || (!C4)) false (vB C6)) ∧ (Inv w0 ps0 H0 a3p [] a0I) ∧ (∀ i, i < w_2.heap.size → ¬ inF [] i → a0I.heap[i]? = w_2.heap[i]?) ∧ Hle H_1 a3p ∧ (TG ((((decide (x0 = ⟨#[]⟩)) || (!C4)) || C6) = false) (a0E x0 a3p) false a3p (fun (W8 : Bool) (a0O : Hp) =>
 (((((decide (x0 = ⟨#[]⟩)) || (!C4)) || C6) || W8) = true →
 K false a0O) ∧
 (((((decide (x0 = ⟨#[]⟩)) || (!C4)) || C6) || W8) = false →
 TL (0 : Nat) a0O fun (s : Nat) H n2 => K5 x0 s H n2 K)))) (fun c2N => ?_) (fun c2N => ?_) ?_
  ·replace h := h.1 c2N
   have g7 := c2N
   simp only [o7 g7]
   refine d5 (cap := []) (fun args w => Tryd.call138 args w) ?_
   refine m5 (Fi := []) (Fr := []) I_3 (h) (fun c7s a3p g1Z a0I O6 b9w b5V d3c => ?_) (fun _ _ _ _ _ q => q.elim)
   obtain ⟨C6, rfl, rfl, h⟩ := d3c
   exact ⟨C6, a3p, by rfl, O6, b5V, b9w, h⟩
  ·exact ⟨false, H_1, by rw [b1f c2N], I_3, fun _ _ _ => rfl, Hle.refl _, h.2 c2N⟩
  ·clear h
   rintro c7s a0I ⟨C6, a3p, rfl, O6, b5V, b9w, h⟩
   refine a7 (W6 _ _) ?_
   simp only [L3]
   refine a6z (D := fun c7t q9 => ∃ (W8 : Bool) (a0O : Hp) , c7t = (gv (((decide (x0 = ⟨#[]⟩)) || (!C4)) || C6) false (vB W8)) ∧ (Inv w0 ps0 H0 a0O [] q9) ∧ (∀ i, i < a0I.heap.size → ¬ inF [] i → q9.heap[i]? = a0I.heap[i]?) ∧ Hle a3p a0O ∧ ((((((decide (x0 = ⟨#[]⟩)) || (!C4)) || C6) || W8) = true →
 K false a0O) ∧
 (((((decide (x0 = ⟨#[]⟩)) || (!C4)) || C6) || W8) = false →
 TL (0 : Nat) a0O fun (s : Nat) H n2 => K5 x0 s H n2 K))) (fun c2O => ?_) (fun c2O => ?_) ?_
   ·replace h := h.1 c2O
    have g7 := c2O
    simp only [o7 g7]
    refine d5 (cap := []) (fun args w => Tryd.call139 args w) ?_
    refine m5 (Fi := []) (Fr := []) O6 (h) (fun c7t a0O g2a q9 a5O d3d b9x d3e => ?_) (fun _ _ _ _ _ q => q.elim)
    obtain ⟨W8, rfl, rfl, h⟩ := d3e
    exact ⟨W8, a0O, by rfl, a5O, b9x, d3d, h⟩
   ·exact ⟨false, a3p, by rw [b1f c2O], O6, fun _ _ _ => rfl, Hle.refl _, h.2 c2O⟩
   ·clear h
    rintro c7t q9 ⟨W8, a0O, rfl, a5O, b9x, d3d, h⟩
    refine a7 (W6 _ _) ?_
    refine p7 (fun d3f => ?_) (fun d3f => ?_)
    ·replace h := h.1 d3f
     exact hR false a0O _ a5O h
    ·replace h := h.2 d3f
     have hj1 : ∀ (H : Hp) (w : World) (_ : Inv w0 ps0 H0 H [] w) (_ : a2J H K), b9d w R E := by
      intro H w I h
      unfold b9d
      intro _
      unfold a2J at h
      exact hR true H _ I h
     refine A8 fun j1 hx1 => ?_
     refine c5L Tryd.underlying9 x0 a5O fun c7u D8 b5Y e8I => ?_
     obtain ⟨d3g, c2P, g2c, g2d⟩ := h
     refine L9 (J := fun n l w => ∃ (s : Nat) (H : Hp) , n = c2P s ∧ l = [] ∧ Inv w0 ps0 H0 H [itf c7u x0 s] w ∧ d3g s H) ⟨_, 0, a0O, rfl, rfl, b5Y, g2c⟩ ?_
     rintro g6A τ_94 w next2 ⟨E6, H, rfl, g2e, I, g2f⟩ hn2
     clear g2e
     obtain ⟨n2, hm2, h⟩ : ∃ n2 : Nat → Hp → Prop, (∀ s' H', n2 s' H' → d3g s' H' ∧ c2P s' < c2P E6) ∧ K5 x0 E6 H n2 K := ⟨_, fun _ _ h => h, g2d E6 H (fun s' H' => d3g s' H' ∧ c2P s' < c2P E6) g2f (fun _ _ a b => ⟨a, b⟩)⟩
     unfold c5S
     unfold K5 at h
     refine c9U I (fun a8m b5Z g2g g6B => ?_) (fun a8m => ?_)
     ·replace h := h.1 a8m
      refine a7 (m6 _ _ (vB true) rfl) ?_
      refine p7 (fun e => ?_) (fun e => by cases e)
      refine a7 (m6 _ _ (vi ((E6 : Nat) : Int)) rfl) ?_
      refine a7 (m6 _ _ (Value.int .i32 ((Utf8.decode x0 E6).1 : Int)) rfl) ?_
      refine d5 (cap := []) (fun args w => Tryd.call140 args w) ?_
      refine m5 (Fi := []) (Fr := [itf c7u x0 (E6 + (Utf8.decode x0 E6).2)]) g2g (h) (fun c7v b3t g2h L6 b6a g2i e8J d3h => ?_) (fun _ _ _ _ _ q => q.elim)
      obtain ⟨a6u, rfl, rfl, h⟩ := d3h
      refine a7 (a0C _) ?_
      simp only [L3]
      refine a7 (Pu.g fun hb => by have g7 := hb; simp only [o7 g7]; exact (i8 _ _ _ _ _ _)) ?_
      simp only [d7F, e4v]
      refine a9w (a7B _ _ _) ?_
      refine a6z (D := fun c2Q b0c => ∃ (a3P : Int) (a2K : Hp) , c2Q = (gv (!(!a6u) && (decide (((E6 : Nat) : Int) = 0))) true (vi a3P)) ∧ (Inv w0 ps0 H0 a2K [itf c7u x0 (E6 + (Utf8.decode x0 E6).2)] b0c) ∧ (∀ i, i < L6.heap.size → ¬ inF [] i → b0c.heap[i]? = L6.heap[i]?) ∧ Hle b3t a2K ∧ ((((!a6u) || ((decide (((E6 : Nat) : Int) = 0)) && (!decide (a3P = 3)))) = true →
 K false a2K) ∧
 (((!a6u) || ((decide (((E6 : Nat) : Int) = 0)) && (!decide (a3P = 3)))) = false →
 n2 (E6 + (Utf8.decode x0 E6).2) a2K))) (fun b9y => ?_) (fun b9y => ?_) ?_
      ·replace h := h.1 b9y
       obtain ⟨g7, c2R⟩ := b4u b9y
       simp only [o7 b9y]
       refine d5 (cap := []) (fun args w => Tryd.call141 args w) ?_
       refine m5 (Fi := []) (Fr := [itf c7u x0 (E6 + (Utf8.decode x0 E6).2)]) b6a (h) (fun c2Q a2K e8K b0c b3v c7w c7x c2S => ?_) (fun _ _ _ _ _ q => q.elim)
       obtain ⟨a3P, rfl, rfl, h⟩ := c2S
       exact ⟨a3P, a2K, by rfl, b3v, c7x, c7w, h⟩
      ·exact ⟨0, b3t, by rw [b1f b9y], b6a, fun _ _ _ => rfl, Hle.refl _, h.2 b9y⟩
      ·clear h
       rintro c2Q b0c ⟨a3P, a2K, rfl, b3v, c7x, c7w, h⟩
       refine a7 (Pu.e (a7B _ _ _) (Pu.g fun hb => by obtain ⟨g7, c2R⟩ := b4u hb; simp only [o7 hb]; exact (a0m _ _ _ _ _ _))) ?_
       refine a7 (Pu.g fun hb => by have g7 := hb; simp only [o7 g7, c9S g7]; exact (O7 _ _)) ?_
       refine a7 (W6 _ _) ?_
       refine p7 (fun a8n => ?_) (fun a8n => ?_)
       ·replace h := h.1 a8n
        exact hR false a2K _ b3v.drop h
       ·replace h := h.2 a8n
        exact hn2 _ _ _ (hm2 _ _ h).2 ⟨(E6 + (Utf8.decode x0 E6).2), a2K, rfl, rfl, b3v, (hm2 _ _ h).1⟩
     ·replace h := h.2 a8m
      refine a7 (m6 _ _ (vB false) rfl) ?_
      refine p7 (fun e => by cases e) (fun e => ?_)
      exact hx1 _ _ (hj1 H _ I.drop h)
theorem b5m (x0 : ByteArray) {H : Hp} {K : Bool → Hp → Prop} (h : a1U x0 H K) : a1S x0 H K := by
 intro w I
 refine d9l ?_
 refine b3u x0 I (fun r0 H' w' I' hk => ⟨H', _, I', r0, rfl, rfl, hk⟩) h
def F0 (a5P : Int) (a5Q : Int) (a5R : Int) (a5S : Bool) (a5T : Bool) (a6G : (List ByteArray)) (H : Hp) (K : g8 → Hp → Prop) : Prop :=
 ∀ (a0W : Sl) (b9z : Hp), Hle H b9z → SlH b9z 1 C1 a0W a6G → a0W.n ≤ a0W.c →
 K (g8.mk a5P a5Q a5R a5S a5T a0W) b9z
def a0P (x0 : Sl) (H : Hp) (K : g8 → Hp → Prop) : Prop :=
 S6 x0 1 (g8.mk 0 0 0 false false (Sl.mk none 0 0)) [] H (fun (c7y : Bool) (B1 : g8) (a3Q : (List ByteArray)) (b1B : Hp) =>
 ((!c7y) = true →
 F0 ((B1).fnodes) ((B1).fdepth) ((B1).fe) ((B1).fform) ((B1).fnamed) a3Q b1B K) ∧
 ((!c7y) = false →
 (((B1).fform) = true →
 F0 ((B1).fnodes) ((B1).fdepth) 30 ((B1).fform) ((B1).fnamed) a3Q b1B K) ∧
 (((B1).fform) = false →
 (((B1).fnamed) = true →
 F0 ((B1).fnodes) ((B1).fdepth) 31 ((B1).fform) ((B1).fnamed) a3Q b1B K) ∧
 (((B1).fnamed) = false →
 F0 ((B1).fnodes) ((B1).fdepth) ((B1).fe) ((B1).fform) ((B1).fnamed) a3Q b1B K))))
theorem b0C (x0 : Sl) {K : g8 → Hp → Prop} (I : Inv w0 ps0 H0 H [] w) (hR : ∀ (r0 : g8) (gr0 : Nat) (H' : Hp) (w' : World) (_ : Inv w0 ps0 H0 H' [bx gr0 106 (a3L r0)] w') (_ : K r0 H'), R (Value.pointer (some ⟨gr0, 0, none⟩)) w') (h : a0P x0 H K) : F60 (vs x0) w R E := by
 unfold a0P at h
 unfold F60
 refine a7 (c6P ) ?_
 refine L8 I (cs := [(vi 0), (vi 0), (vi 0), (vB false), (vB false), (nS)]) rfl fun g_2 w_3 I_4 k_5 => ?_
 refine z7 I_4 Tryd.zeroValue102 (cs := [(Value.pointer none)]) rfl fun g_7 w_8 I_9 c2T => ?_
 refine m9 I_9 Tryd.sizeOf102 (vs := [(Value.pointer (some ⟨g_2, 0, none⟩))]) (cs' := [(Value.pointer (some ⟨g_2, 0, none⟩))]) rfl rfl (nb rfl) rfl rfl fun a0I O6 b5V => ?_
 refine z7 O6 Tryd.zeroValue161 (cs := [Value.nilFunc]) rfl fun b1C p5 b9A g2j => ?_
 refine a7 (a9O _ _ _) ?_
 refine m9 b9A Tryd.sizeOf161 (vs := [(Value.func (.func 99) #[] #[(Value.pointer (some ⟨g_7, 0, none⟩)), (Value.pointer (some ⟨b1C, 0, none⟩))])]) (cs' := [(Value.func (.func 99) #[] #[(Value.pointer (some ⟨g_7, 0, none⟩)), (Value.pointer (some ⟨b1C, 0, none⟩))])]) rfl rfl (nb rfl) rfl rfl fun a2z c7z g2k => ?_
 have hj1 : ∀ (a5P : Int) (a5Q : Int) (a5R : Int) (a5S : Bool) (a5T : Bool) (a6G : (List ByteArray)) (a0W : Sl) (Fcr_1j1_5 : Frag) (H : Hp) (w : World) (_ : RowL 9 1 C1 a0W a6G Fcr_1j1_5) (_ : Inv w0 ps0 H0 H [bx g_7 102 [(Value.pointer (some ⟨g_2, 0, none⟩))], bx g_2 106 [(vi a5P), (vi a5Q), (vi a5R), (vB a5S), (vB a5T), (vs a0W)], bx b1C 161 [(Value.func (.func 99) #[] #[(Value.pointer (some ⟨g_7, 0, none⟩)), (Value.pointer (some ⟨b1C, 0, none⟩))])], Fcr_1j1_5] w) (_ : F0 a5P a5Q a5R a5S a5T a6G H K), c1P (Value.pointer (some ⟨g_7, 0, none⟩)) w R E := by
  intro a5P a5Q a5R a5S a5T a6G a0W Fcr_1j1_5 H w d0U I h
  unfold c1P
  intro _
  unfold F0 at h
  refine b8 (ld1 Tryd.isAgg102 (I.at1 (o := 0) (vs := [(Value.pointer (some ⟨g_2, 0, none⟩))]) (nb rfl) rfl)) ?_
  obtain ⟨b9z, c2U, g2l, b1D, c2V⟩ := Inv.freezeC (I.bring 3) d0U (by decide)
  replace h := h a0W b9z g2l b1D c2V
  exact hR (g8.mk a5P a5Q a5R a5S a5T a0W) g_2 b9z _ (c2U.drop.bring 1).drop h
 refine A8 fun j1 hx1 => ?_
 refine b8 (ld1 Tryd.isAgg161 (c7z.at1 (o := 0) (vs := [(Value.func (.func 99) #[] #[(Value.pointer (some ⟨g_7, 0, none⟩)), (Value.pointer (some ⟨b1C, 0, none⟩))])]) (nb rfl) rfl)) ?_
 refine d5 (cap := [(Value.pointer (some ⟨g_7, 0, none⟩)), (Value.pointer (some ⟨b1C, 0, none⟩))]) (fun args w => Tryd.call99 args w) ?_
 refine m5 (Fi := [bx g_7 102 [(Value.pointer (some ⟨g_2, 0, none⟩))], bx g_2 106 [(vi 0), (vi 0), (vi 0), (vB false), (vB false), (Value.slice (Sl.mk none 0 0).a (Sl.mk none 0 0).n (Sl.mk none 0 0).c)], [], bx b1C 161 [(Value.func (.func 99) #[] #[(Value.pointer (some ⟨g_7, 0, none⟩)), (Value.pointer (some ⟨b1C, 0, none⟩))])]]) (Fr := []) ((((c7z.nil.bring 1).bring 1).bring 3).bring 3) (h g_7 g_2 b1C (Sl.mk none 0 0) ([]) (RowL.nil (e := 9) b5D b5E)) (fun g6C b1B e8L u5 a6T g6D g1Y g2m => ?_) (fun _ _ _ _ _ q => q.elim)
 obtain ⟨c7y, B1, a3Q, a5U, b1E, rfl, rfl, b1F, h⟩ := g2m
 refine a7 (a0C _) ?_
 refine p7 (fun d3i => ?_) (fun d3i => ?_)
 ·replace h := h.1 d3i
  exact hx1 _ _ (hj1 ((B1).fnodes) ((B1).fdepth) ((B1).fe) ((B1).fform) ((B1).fnamed) a3Q a5U b1E b1B _ b1F ((((a6T.bring 2).bring 3).bring 3).bring 3) h)
 ·replace h := h.2 d3i
  refine b8 (ld1 Tryd.isAgg102 (a6T.at1 (o := 0) (vs := [(Value.pointer (some ⟨g_2, 0, none⟩))]) (nb rfl) rfl)) ?_
  refine a7 (p6 _) ?_
  refine a7 a9R ?_
  refine b8 (ld1 Tryd.isAgg4 ((a6T.bring 1).at1 (o := 3) (vs := [(vB ((B1).fform))]) (nb rfl) rfl)) ?_
  refine p7 (fun a2L => ?_) (fun a2L => ?_)
  ·replace h := h.1 a2L
   refine b8 (ld1 Tryd.isAgg102 (a6T.at1 (o := 0) (vs := [(Value.pointer (some ⟨g_2, 0, none⟩))]) (nb rfl) rfl)) ?_
   refine a7 (p6 _) ?_
   refine a7 a4p ?_
   refine m9 (a6T.bring 1) Tryd.sizeOf29 (vs := [(vi 30)]) (cs' := [(vi ((B1).fnodes)), (vi ((B1).fdepth)), (vi 30), (vB ((B1).fform)), (vB ((B1).fnamed)), (vs a5U)]) rfl rfl (nb rfl) rfl rfl fun d3j g2n g6E => ?_
   exact hx1 _ _ (hj1 ((B1).fnodes) ((B1).fdepth) 30 ((B1).fform) ((B1).fnamed) a3Q a5U b1E b1B _ b1F ((((g2n.bring 2).bring 3).bring 2).bring 3) h)
  ·replace h := h.2 a2L
   refine b8 (ld1 Tryd.isAgg102 (a6T.at1 (o := 0) (vs := [(Value.pointer (some ⟨g_2, 0, none⟩))]) (nb rfl) rfl)) ?_
   refine a7 (p6 _) ?_
   refine a7 a9S ?_
   refine b8 (ld1 Tryd.isAgg4 ((a6T.bring 1).at1 (o := 4) (vs := [(vB ((B1).fnamed))]) (nb rfl) rfl)) ?_
   refine p7 (fun d3k => ?_) (fun d3k => ?_)
   ·replace h := h.1 d3k
    refine b8 (ld1 Tryd.isAgg102 (a6T.at1 (o := 0) (vs := [(Value.pointer (some ⟨g_2, 0, none⟩))]) (nb rfl) rfl)) ?_
    refine a7 (p6 _) ?_
    refine a7 a4p ?_
    refine m9 (a6T.bring 1) Tryd.sizeOf29 (vs := [(vi 31)]) (cs' := [(vi ((B1).fnodes)), (vi ((B1).fdepth)), (vi 31), (vB ((B1).fform)), (vB ((B1).fnamed)), (vs a5U)]) rfl rfl (nb rfl) rfl rfl fun E1 c7A g2o => ?_
    exact hx1 _ _ (hj1 ((B1).fnodes) ((B1).fdepth) 31 ((B1).fform) ((B1).fnamed) a3Q a5U b1E b1B _ b1F ((((c7A.bring 2).bring 3).bring 2).bring 3) h)
   ·replace h := h.2 d3k
    exact hx1 _ _ (hj1 ((B1).fnodes) ((B1).fdepth) ((B1).fe) ((B1).fform) ((B1).fnamed) a3Q a5U b1E b1B _ b1F ((((a6T.bring 2).bring 3).bring 3).bring 3) h)
theorem b1G (x0 : Sl) {H : Hp} {K : g8 → Hp → Prop} (h : a0P x0 H K) : a2H x0 H K := by
 intro w I
 refine e4W ?_
 refine b0C x0 I (fun r0 gr0 H' w' I' hk => ⟨H', _, I', r0, gr0, rfl, rfl, hk⟩) h
def u6 (V2 : (List a8)) (H : Hp) (K : Sl → Hp → Prop) : Prop :=
 ∀ (E0 : Sl) (Y8 : Hp), Hle H Y8 → SlH Y8 1 o3 E0 V2 → E0.n ≤ E0.c →
 K E0 Y8
def u7 (a0w : Sl) (Y9 : Int) (r9 : (List a8)) (q8 : Int) (H : Hp) (n2 : ((List a8) × Int) → Hp → Prop) (K : Sl → Hp → Prop) : Prop :=
 (q8 < Y9 →
 (0 : Int) ≤ q8 ∧ (q8 : Int) < a0w.n ∧ ∃ x_1 : j7, EltH H a0w q8 2 (m4 x_1) ∧
 a5A x_1 H (fun (P0 : a8) (Z0 : Hp) =>
 (r9.length + ([P0] : List a8).length) * 17 ≤ 140737488355328 ∧
 n2 ((r9 ++ [P0]), (IntKind.wrap .i64 (q8 + 1))) Z0)) ∧
 (¬ (q8 < Y9) →
 u6 r9 H K)
def A0 (x0 : Sl) (H : Hp) (K : Sl → Hp → Prop) : Prop :=
 TL (([], 0) : (List a8) × Int) H fun (s : (List a8) × Int) H n2 => u7 x0 (x0.n : Int) s.1 s.2 H n2 K
theorem Y1 (x0 : Sl) {K : Sl → Hp → Prop} (I : Inv w0 ps0 H0 H [] w) (hR : ∀ (r0 : Sl) (H' : Hp) (w' : World) (_ : Inv w0 ps0 H0 H' [] w') (_ : K r0 H'), R (vs r0) w') (h : A0 x0 H K) : F88 (vs x0) (fC 89) w R E := by
 unfold A0 at h
 unfold F88
 have hj1 : ∀ (V2 : (List a8)) (E0 : Sl) (Fs5j1 : Frag) (H : Hp) (w : World) (_ : RowL 152 1 o3 E0 V2 Fs5j1) (_ : Inv w0 ps0 H0 H [Fs5j1] w) (_ : u6 V2 H K), c1W (vs E0) w R E := by
  intro V2 E0 Fs5j1 H w b1H I h
  unfold c1W
  intro _
  unfold u6 at h
  obtain ⟨Y8, a5V, b3w, a8o, b0d⟩ := Inv.freezeC I b1H (by decide)
  replace h := h E0 Y8 b3w a8o b0d
  exact hR E0 Y8 _ a5V h
 refine A8 fun j1 hx1 => ?_
 refine a7 (a9x _ _ _) ?_
 obtain ⟨a4K, a1j, b6b, b6c⟩ := h
 refine L9 (J := fun n l w => ∃ (s : (List a8) × Int) (H : Hp) (V3 : Sl) (Fs5l2 : Frag) , n = a1j s ∧ l = (match s with | (r9, q8) => [(vs V3), (vi q8)]) ∧ (match s with | (r9, q8) => RowL 152 1 o3 V3 r9 Fs5l2) ∧ (match s with | (r9, q8) => Inv w0 ps0 H0 H [Fs5l2] w) ∧ a4K s H) ⟨_, ([], 0), H, (Sl.mk none 0 0), [], rfl, rfl, (RowL.nil M0 O2), I.nil, b6b⟩ ?_
 rintro d3l τ_50 w next2 ⟨⟨r9, q8⟩, H, V3, Fs5l2, rfl, a4L, a2M, I, b6d⟩ hn2
 dsimp only at a4L I a2M
 simp only [List.map_cons, List.map_nil, List.cons.injEq, and_true] at a4L
 obtain ⟨e5, e10⟩ := a4L
 simp only [e5, e10]
 obtain ⟨n2, hm2, h⟩ : ∃ n2 : ((List a8) × Int) → Hp → Prop, (∀ s' H', n2 s' H' → a4K s' H' ∧ a1j s' < a1j (r9, q8)) ∧ u7 x0 (x0.n : Int) r9 q8 H n2 K := ⟨_, fun _ _ h => h, b6c (r9, q8) H (fun s' H' => a4K s' H' ∧ a1j s' < a1j (r9, q8)) b6d (fun _ _ a b => ⟨a, b⟩)⟩
 unfold d0d
 unfold u7 at h
 refine a7 (B8 _ _ _ _ _ _) ?_
 refine i4 (fun a2L => ?_) (fun a2L => ?_)
 ·replace h := h.1 a2L
  obtain ⟨h_4, h_5, x_1, h_7, h⟩ := h
  obtain ⟨g_2, o_3, h_6, h_7⟩ := h_7
  refine a7 (b1o h_6 _ _ _ _ h_4 h_5) ?_
  refine b8 (ldA (vs := (m4 x_1)) Tryd.isAgg58 Tryd.sizeOf58 rfl (I.atH h_7)) ?_
  refine z7 I Tryd.zeroValue58 (cs := [(eS), (vi 0)]) rfl fun g_9 m8 a3x b6e => ?_
  refine m9 a3x Tryd.sizeOf58 (vs := (m4 x_1)) (cs' := (m4 x_1)) rfl rfl (nb rfl) rfl rfl fun Y6 M6 a1z => ?_
  refine b8 (ldA Tryd.isAgg58 Tryd.sizeOf58 rfl (M6.at1 (o := 0) (vs := (m4 x_1)) (nb rfl) rfl)) ?_
  refine d5 (cap := []) (fun args w => Tryd.call89 args w) ?_
  refine m5 (Fi := []) (Fr := [bx g_9 58 (m4 x_1), Fs5l2]) M6 (h) (fun c7B Z0 c7C a2k a4J b9B c7D b1I => ?_) (fun _ _ _ _ _ q => q.elim)
  obtain ⟨P0, rfl, rfl, h⟩ := b1I
  refine U3 (e := 152) (c := o3) (xs := [P0]) a4J (b1n _) rfl rfl M0 O2 (nb rfl) fun c2W b9C C3 a4M a5W c7E => ?_
  obtain ⟨b1J, h⟩ := h
  refine b0x (s := V3) (xs := r9) (a5W.bring 2) a2M (a4M.srcO ((a5W.bring 2).bring 1)) b1J fun b6f b6g D2 b1D a6U c7F => ?_
  refine a7 (E4 _ _ _ _ _ _) ?_
  exact hn2 _ _ _ (hm2 _ _ h).2 ⟨((r9 ++ [P0]), (IntKind.wrap .i64 (q8 + 1))), Z0, b6f, b6g, rfl, rfl, b1D, ((a6U.bring 1).drop.bring 1).drop, (hm2 _ _ h).1⟩
 ·replace h := h.2 a2L
  exact hx1 _ _ (hj1 r9 V3 Fs5l2 H _ a2M I h)
theorem Z1 (x0 : Sl) {H : Hp} {K : Sl → Hp → Prop} (h : A0 x0 H K) : D5 x0 H K := by
 intro w I
 refine e5g ?_
 refine Y1 x0 I (fun r0 H' w' I' hk => ⟨H', _, I', r0, rfl, rfl, hk⟩) h
def u9 (V2 : (List a8)) (H : Hp) (K : Sl → Hp → Prop) : Prop :=
 ∀ (E0 : Sl) (Y8 : Hp), Hle H Y8 → SlH Y8 1 o3 E0 V2 → E0.n ≤ E0.c →
 K E0 Y8
def v2 (a0w : Sl) (Y9 : Int) (r9 : (List a8)) (q8 : Int) (H : Hp) (n2 : ((List a8) × Int) → Hp → Prop) (K : Sl → Hp → Prop) : Prop :=
 (q8 < Y9 →
 (0 : Int) ≤ q8 ∧ (q8 : Int) < a0w.n ∧ ∃ x_1 : o0, EltH H a0w q8 6 (d9 x_1) ∧
 a5B x_1 H (fun (P0 : a8) (Z0 : Hp) =>
 (r9.length + ([P0] : List a8).length) * 17 ≤ 140737488355328 ∧
 n2 ((r9 ++ [P0]), (IntKind.wrap .i64 (q8 + 1))) Z0)) ∧
 (¬ (q8 < Y9) →
 u9 r9 H K)
def A4 (x0 : Sl) (H : Hp) (K : Sl → Hp → Prop) : Prop :=
 TL (([], 0) : (List a8) × Int) H fun (s : (List a8) × Int) H n2 => v2 x0 (x0.n : Int) s.1 s.2 H n2 K
theorem Y2 (x0 : Sl) {K : Sl → Hp → Prop} (I : Inv w0 ps0 H0 H [] w) (hR : ∀ (r0 : Sl) (H' : Hp) (w' : World) (_ : Inv w0 ps0 H0 H' [] w') (_ : K r0 H'), R (vs r0) w') (h : A4 x0 H K) : F90 (vs x0) (fC 91) w R E := by
 unfold A4 at h
 unfold F90
 have hj1 : ∀ (V2 : (List a8)) (E0 : Sl) (Fs5j1 : Frag) (H : Hp) (w : World) (_ : RowL 152 1 o3 E0 V2 Fs5j1) (_ : Inv w0 ps0 H0 H [Fs5j1] w) (_ : u9 V2 H K), c1X (vs E0) w R E := by
  intro V2 E0 Fs5j1 H w b1H I h
  unfold c1X
  intro _
  unfold u9 at h
  obtain ⟨Y8, a5V, b3w, a8o, b0d⟩ := Inv.freezeC I b1H (by decide)
  replace h := h E0 Y8 b3w a8o b0d
  exact hR E0 Y8 _ a5V h
 refine A8 fun j1 hx1 => ?_
 refine a7 (a4X _ _ _) ?_
 obtain ⟨a4K, a1j, b6b, b6c⟩ := h
 refine L9 (J := fun n l w => ∃ (s : (List a8) × Int) (H : Hp) (V3 : Sl) (Fs5l2 : Frag) , n = a1j s ∧ l = (match s with | (r9, q8) => [(vs V3), (vi q8)]) ∧ (match s with | (r9, q8) => RowL 152 1 o3 V3 r9 Fs5l2) ∧ (match s with | (r9, q8) => Inv w0 ps0 H0 H [Fs5l2] w) ∧ a4K s H) ⟨_, ([], 0), H, (Sl.mk none 0 0), [], rfl, rfl, (RowL.nil M0 O2), I.nil, b6b⟩ ?_
 rintro d3l τ_50 w next2 ⟨⟨r9, q8⟩, H, V3, Fs5l2, rfl, a4L, a2M, I, b6d⟩ hn2
 dsimp only at a4L I a2M
 simp only [List.map_cons, List.map_nil, List.cons.injEq, and_true] at a4L
 obtain ⟨e5, e10⟩ := a4L
 simp only [e5, e10]
 obtain ⟨n2, hm2, h⟩ : ∃ n2 : ((List a8) × Int) → Hp → Prop, (∀ s' H', n2 s' H' → a4K s' H' ∧ a1j s' < a1j (r9, q8)) ∧ v2 x0 (x0.n : Int) r9 q8 H n2 K := ⟨_, fun _ _ h => h, b6c (r9, q8) H (fun s' H' => a4K s' H' ∧ a1j s' < a1j (r9, q8)) b6d (fun _ _ a b => ⟨a, b⟩)⟩
 unfold d0e
 unfold v2 at h
 refine a7 (B8 _ _ _ _ _ _) ?_
 refine i4 (fun a2L => ?_) (fun a2L => ?_)
 ·replace h := h.1 a2L
  obtain ⟨h_4, h_5, x_1, h_7, h⟩ := h
  obtain ⟨g_2, o_3, h_6, h_7⟩ := h_7
  refine a7 (b5P h_6 _ _ _ _ h_4 h_5) ?_
  refine b8 (ldA (vs := (d9 x_1)) Tryd.isAgg63 Tryd.sizeOf63 rfl (I.atH h_7)) ?_
  refine z7 I Tryd.zeroValue63 (cs := [(vi 0), (eS), (nS), (nS), (nS), (nS)]) rfl fun g_9 m8 a3x b6e => ?_
  refine m9 a3x Tryd.sizeOf63 (vs := (d9 x_1)) (cs' := (d9 x_1)) rfl rfl (nb rfl) rfl rfl fun Y6 M6 a1z => ?_
  refine b8 (ldA Tryd.isAgg63 Tryd.sizeOf63 rfl (M6.at1 (o := 0) (vs := (d9 x_1)) (nb rfl) rfl)) ?_
  refine d5 (cap := []) (fun args w => Tryd.call91 args w) ?_
  refine m5 (Fi := []) (Fr := [bx g_9 63 (d9 x_1), Fs5l2]) M6 (h) (fun c7B Z0 c7C a2k a4J b9B c7D b1I => ?_) (fun _ _ _ _ _ q => q.elim)
  obtain ⟨P0, rfl, rfl, h⟩ := b1I
  refine U3 (e := 152) (c := o3) (xs := [P0]) a4J (b1n _) rfl rfl M0 O2 (nb rfl) fun c2W b9C C3 a4M a5W c7E => ?_
  obtain ⟨b1J, h⟩ := h
  refine b0x (s := V3) (xs := r9) (a5W.bring 2) a2M (a4M.srcO ((a5W.bring 2).bring 1)) b1J fun b6f b6g D2 b1D a6U c7F => ?_
  refine a7 (E4 _ _ _ _ _ _) ?_
  exact hn2 _ _ _ (hm2 _ _ h).2 ⟨((r9 ++ [P0]), (IntKind.wrap .i64 (q8 + 1))), Z0, b6f, b6g, rfl, rfl, b1D, ((a6U.bring 1).drop.bring 1).drop, (hm2 _ _ h).1⟩
 ·replace h := h.2 a2L
  exact hx1 _ _ (hj1 r9 V3 Fs5l2 H _ a2M I h)
theorem Z2 (x0 : Sl) {H : Hp} {K : Sl → Hp → Prop} (h : A4 x0 H K) : r6 x0 H K := by
 intro w I
 refine e5k ?_
 refine Y2 x0 I (fun r0 H' w' I' hk => ⟨H', _, I', r0, rfl, rfl, hk⟩) h
def a0Q (x0 : d8) (H : Hp) (K : a8 → Hp → Prop) : Prop :=
 K (a8.C2 (D7.mk x0)) H
theorem b0D (x0 : d8) {K : a8 → Hp → Prop} (I : Inv w0 ps0 H0 H [] w) (hR : ∀ (r0 : a8) (H' : Hp) (w' : World) (_ : Inv w0 ps0 H0 H' [] w') (_ : K r0 H'), R (t8 r0) w') (h : a0Q x0 H K) : c7h (Value.agg (b6 x0).toArray) w R E := by
 unfold a0Q at h
 unfold c7h
 refine L8 I (cs := (b6 x0)) rfl fun g_2 w_3 I_4 k_5 => ?_
 refine b8 (ldA Tryd.isAgg24 Tryd.sizeOf24 rfl (I_4.at1 (o := 0) (vs := (b6 x0)) (nb rfl) rfl)) ?_
 refine a7 (c1K _ _ _ _ _ _) ?_
 refine a7 (b0w (D7.mk x0)) ?_
 exact hR (a8.C2 (D7.mk x0)) H _ I_4.drop h
theorem b1K (x0 : d8) {H : Hp} {K : a8 → Hp → Prop} (h : a0Q x0 H K) : a5C x0 H K := by
 intro w I
 refine d9K ?_
 refine b0D x0 I (fun r0 H' w' I' hk => ⟨H', _, I', r0, rfl, rfl, hk⟩) h
def a0R (x0 : o9) (H : Hp) (K : a8 → Hp → Prop) : Prop :=
 K (a8.G3 (K2.mk x0)) H
theorem b0E (x0 : o9) {K : a8 → Hp → Prop} (I : Inv w0 ps0 H0 H [] w) (hR : ∀ (r0 : a8) (H' : Hp) (w' : World) (_ : Inv w0 ps0 H0 H' [] w') (_ : K r0 H'), R (t8 r0) w') (h : a0R x0 H K) : c7m (Value.agg (i5 x0).toArray) w R E := by
 unfold a0R at h
 unfold c7m
 refine L8 I (cs := (i5 x0)) rfl fun g_2 w_3 I_4 k_5 => ?_
 refine b8 (ldA Tryd.isAgg27 Tryd.sizeOf27 rfl (I_4.at1 (o := 0) (vs := (i5 x0)) (nb rfl) rfl)) ?_
 refine a7 (c1L _ _ _ _ _ _ _ _) ?_
 refine a7 (b8U (K2.mk x0)) ?_
 exact hR (a8.G3 (K2.mk x0)) H _ I_4.drop h
theorem b1L (x0 : o9) {H : Hp} {K : a8 → Hp → Prop} (h : a0R x0 H K) : a5D x0 H K := by
 intro w I
 refine d9T ?_
 refine b0E x0 I (fun r0 H' w' I' hk => ⟨H', _, I', r0, rfl, rfl, hk⟩) h
def V4 (x0 : K2) (H : Hp) (K : Sl → Hp → Prop) : Prop :=
 r7 x0.j9.i7 H (fun (a5E : Sl) (H_8 : Hp) =>
 z8 x0.j9.t7 H_8 (fun (a3r : Sl) (a8p : Hp) =>
 ∀ (a5X : Sl) (a8q : Hp), Hle a8p a8q → SlH a8q 1 csl a5X [a5E, a3r] → a5X.n ≤ a5X.c →
 y9 a5X a8q (fun (b4J : Sl) (b9D : Hp) =>
 K b4J b9D)))
theorem a7p (x0 : K2) {K : Sl → Hp → Prop} (I : Inv w0 ps0 H0 H [] w) (hR : ∀ (r0 : Sl) (H' : Hp) (w' : World) (_ : Inv w0 ps0 H0 H' [] w') (_ : K r0 H'), R (vs r0) w') (h : V4 x0 H K) : c7k (Value.agg (i5 x0.j9).toArray) w R E := by
 unfold V4 at h
 unfold c7k
 refine L8 I (cs := (i5 x0.j9)) rfl fun g_2 w_3 I_4 k_5 => ?_
 refine a0p I_4 fun w_6 I_7 => ?_
 refine j8 a0h ?_
 refine j8 a5g ?_
 refine j8 a0h ?_
 refine j8 a1C ?_
 refine u0 (ld1 Tryd.isAgg22 (I_7.at1 (o := 2) (vs := [(vs x0.j9.i7)]) (nb rfl) rfl)) ?_
 refine u0 (ld1 Tryd.isAgg25 (I_7.at1 (o := 3) (vs := [(vs x0.j9.t7)]) (nb rfl) rfl)) ?_
 refine d5 (cap := []) (fun args w => Tryd.call171 args w) ?_
 refine m5 (Fi := []) (Fr := [bx g_2 138 (i5 x0.j9)]) I_7 (h) (fun e8M H_8 d3m w_9 b1M e8N b6h c2X => ?_) (fun _ _ _ _ _ q => q.elim)
 obtain ⟨a5E, rfl, rfl, h⟩ := c2X
 refine ⟨(b6h _ I_7.lt1 (Inv.a5f (Fi := []) I_7)), ?_⟩
 refine d5 (cap := []) (fun args w => Tryd.call175 args w) ?_
 refine m5 (Fi := []) (Fr := [bx g_2 138 (i5 x0.j9)]) b1M (h) (fun d3n a8p d3o q7 a4k d3p b3x b6i => ?_) (fun _ _ _ _ _ q => q.elim)
 obtain ⟨a3r, rfl, rfl, h⟩ := b6i
 refine U3 (e := 124) (c := csl) (xs := [a5E, a3r]) a4k (c1M _ _ _ _ _ _) rfl rfl b4w b4x (nb rfl) fun a5X e8L d3q b6j b5Y e8I => ?_
 obtain ⟨a8q, d3r, c2p, c2V, d3s⟩ := Inv.freezeC b5Y b6j (by decide)
 replace h := h a5X a8q c2p c2V d3s
 refine d5 (cap := []) (fun args w => Tryd.call87 args w) ?_
 refine m5 (Fi := []) (Fr := [bx g_2 138 (i5 x0.j9)]) d3r (h) (fun g2p b9D g2q d3t a5V g2r e8O d3u => ?_) (fun _ _ _ _ _ q => q.elim)
 obtain ⟨b4J, rfl, rfl, h⟩ := d3u
 exact hR b4J b9D _ a5V.drop h
theorem a8r (x0 : K2) {H : Hp} {K : Sl → Hp → Prop} (h : V4 x0 H K) : a3u x0 H K := by
 intro w I
 refine d9P ?_
 refine a7p x0 I (fun r0 H' w' I' hk => ⟨H', _, I', r0, rfl, rfl, hk⟩) h
end Go.Proofs.YtnhkdkcgdcgmdaaDoor
