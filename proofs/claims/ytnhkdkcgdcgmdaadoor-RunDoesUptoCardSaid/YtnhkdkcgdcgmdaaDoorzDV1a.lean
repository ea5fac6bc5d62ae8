/- Typed formulas of the program's functions, and the theorems that the contracts follow from them; printed by lift.py off the code. -/
import Derived.Test.YtnhkdkcgdcgmdaaDoorzDV1
namespace Go.Proofs.YtnhkdkcgdcgmdaaDoor
open Go.RowKit
set_option maxRecDepth 100000
set_option maxHeartbeats 2000000
variable {w0 w : World} {ps0 : Nat → Prop} {H0 H : Hp} {R : RT} {E : Pan}
def a1x (x0 : a8) (H : Hp) (K : ByteArray → Bool → Hp → Prop) : Prop :=
 (x0.a3r = true →
 K ((((x0.P8)).M3).d6) true H) ∧
 (x0.a3r = false →
 (x0.a3s = true →
 K ((((x0.i2)).d7).d6) ((decide (((((x0.i2)).d7).d5) = 1)) || (decide (((((x0.i2)).d7).d5) = 2))) H) ∧
 (x0.a3s = false →
 (x0.a3q = true →
 K ((((x0.o7)).k5).d6) ((decide (((((x0.o7)).k5).d5) = 2)) || (decide (((((x0.o7)).k5).d5) = 4))) H) ∧
 (x0.a3q = false →
 K ⟨#[]⟩ false H)))
theorem b2l (x0 : a8) {K : ByteArray → Bool → Hp → Prop} (I : Inv w0 ps0 H0 H [] w) (hR : ∀ (r0 : ByteArray) (r1 : Bool) (H' : Hp) (w' : World) (_ : Inv w0 ps0 H0 H' [] w') (_ : K r0 r1 H'), R (Value.tuple #[(Value.string r0), (vB r1)]) w') (h : a1x x0 H K) : c6D (r9 x0) w R E := by
 unfold a1x at h
 unfold c6D
 refine a7 (c0y x0) ?_
 refine a7 (j7 _ _ (vB x0.a3r) rfl) ?_
 refine a7 (j7 _ _ _ rfl) ?_
 refine o4 (fun d2J => ?_) (fun d2J => ?_)
 ·replace h := h.1 d2J
  refine A0 I Tryd.zeroValue177 (cs := [(eS), (vi 0)]) rfl fun g_2 w_3 I_4 k_5 => ?_
  refine m5 I_4 Tryd.sizeOf177 (vs := [(Value.string ((((x0.P8)).M3).d6)), (vi ((((x0.P8)).M3).C7))]) (cs' := [(Value.string ((((x0.P8)).M3).d6)), (vi ((((x0.P8)).M3).C7))]) rfl rfl (nb rfl) rfl rfl fun w_6 I_7 k_8 => ?_
  refine a7 a9w ?_
  refine a7 Z4 ?_
  refine b8 (ld1 Tryd.isAgg9 (I_7.at1 (o := 0) (vs := [(Value.string ((((x0.P8)).M3).d6))]) (nb rfl) rfl)) ?_
  exact hR ((((x0.P8)).M3).d6) true H _ I_7.drop h
 ·replace h := h.2 d2J
  refine a7 (c0z x0) ?_
  refine a7 (j7 _ _ (vB x0.a3s) rfl) ?_
  refine a7 (j7 _ _ _ rfl) ?_
  refine o4 (fun b5y => ?_) (fun b5y => ?_)
  ·replace h := h.1 b5y
   refine A0 I Tryd.zeroValue179 (cs := [(vi 0), (eS), (nS), (nS), (nS), (nS)]) rfl fun g1t a0i M6 b3a => ?_
   refine m5 M6 Tryd.sizeOf179 (vs := [(vi ((((x0.i2)).d7).d5)), (Value.string ((((x0.i2)).d7).d6)), (Value.slice ((((x0.i2)).d7).i6).a ((((x0.i2)).d7).i6).n ((((x0.i2)).d7).i6).c), (Value.slice ((((x0.i2)).d7).p8).a ((((x0.i2)).d7).p8).n ((((x0.i2)).d7).p8).c), (Value.slice ((((x0.i2)).d7).G1).a ((((x0.i2)).d7).G1).n ((((x0.i2)).d7).G1).c), (Value.slice ((((x0.i2)).d7).E6).a ((((x0.i2)).d7).E6).n ((((x0.i2)).d7).E6).c)]) (cs' := [(vi ((((x0.i2)).d7).d5)), (Value.string ((((x0.i2)).d7).d6)), (Value.slice ((((x0.i2)).d7).i6).a ((((x0.i2)).d7).i6).n ((((x0.i2)).d7).i6).c), (Value.slice ((((x0.i2)).d7).p8).a ((((x0.i2)).d7).p8).n ((((x0.i2)).d7).p8).c), (Value.slice ((((x0.i2)).d7).G1).a ((((x0.i2)).d7).G1).n ((((x0.i2)).d7).G1).c), (Value.slice ((((x0.i2)).d7).E6).a ((((x0.i2)).d7).E6).n ((((x0.i2)).d7).E6).c)]) rfl rfl (nb rfl) rfl rfl fun m8 c2u d2K => ?_
   refine a0d c2u fun a1Y a4x => ?_
   refine i8 G3 ?_
   refine i8 a1t ?_
   refine i8 G3 ?_
   refine i8 a4X ?_
   refine s7 (ld1 Tryd.isAgg9 (a4x.at1 (o := 1) (vs := [(Value.string ((((x0.i2)).d7).d6))]) (nb rfl) rfl)) ?_
   refine s7 (ld1 Tryd.isAgg3 (a4x.at1 (o := 0) (vs := [(vi ((((x0.i2)).d7).d5))]) (nb rfl) rfl)) ?_
   refine i8 (i5 _ _ _ _ _ _) ?_
   refine i8 (Pu.g fun hb => by have f8 := hb; exact G3) ?_
   refine i8 (Pu.g fun hb => by have f8 := hb; simp only [m9 f8]; exact a4X) ?_
   refine e3S (p := (Value.pointer (some ⟨g1t, 0, none⟩))) rfl (Ld.g fun hb => by have f8 := hb; simp only [m9 f8]; exact (ld1 Tryd.isAgg3 (a4x.at1 (o := 0) (vs := [(vi ((((x0.i2)).d7).d5))]) (nb rfl) rfl))) ?_
   refine i8 (Pu.g fun hb => by have f8 := hb; simp only [m9 f8]; exact (i5 _ _ _ _ _ _)) ?_
   refine i8 (a0g _ _) ?_
   exact hR ((((x0.i2)).d7).d6) ((decide (((((x0.i2)).d7).d5) = 1)) || (decide (((((x0.i2)).d7).d5) = 2))) H _ a4x.drop h
  ·replace h := h.2 b5y
   refine a7 (c0A x0) ?_
   refine a7 (j7 _ _ (vB x0.a3q) rfl) ?_
   refine a7 (j7 _ _ _ rfl) ?_
   refine o4 (fun b5z => ?_) (fun b5z => ?_)
   ·replace h := h.1 b5z
    refine A0 I Tryd.zeroValue123 (cs := [(vi 0), (vi 0), (eS), (nS)]) rfl fun e8l a1D b9e g1u => ?_
    refine m5 b9e Tryd.sizeOf123 (vs := [(vi ((((x0.o7)).k5).d5)), (vi ((((x0.o7)).k5).G2)), (Value.string ((((x0.o7)).k5).d6)), (Value.slice ((((x0.o7)).k5).v8).a ((((x0.o7)).k5).v8).n ((((x0.o7)).k5).v8).c)]) (cs' := [(vi ((((x0.o7)).k5).d5)), (vi ((((x0.o7)).k5).G2)), (Value.string ((((x0.o7)).k5).d6)), (Value.slice ((((x0.o7)).k5).v8).a ((((x0.o7)).k5).v8).n ((((x0.o7)).k5).v8).c)]) rfl rfl (nb rfl) rfl rfl fun t8 a6C g1v => ?_
    refine a0d a6C fun a2U a7Q => ?_
    refine i8 T7 ?_
    refine i8 a3u ?_
    refine i8 T7 ?_
    refine i8 U0 ?_
    refine s7 (ld1 Tryd.isAgg9 (a7Q.at1 (o := 2) (vs := [(Value.string ((((x0.o7)).k5).d6))]) (nb rfl) rfl)) ?_
    refine s7 (ld1 Tryd.isAgg3 (a7Q.at1 (o := 0) (vs := [(vi ((((x0.o7)).k5).d5))]) (nb rfl) rfl)) ?_
    refine i8 (i5 _ _ _ _ _ _) ?_
    refine i8 (Pu.g fun hb => by have f8 := hb; exact T7) ?_
    refine i8 (Pu.g fun hb => by have f8 := hb; simp only [m9 f8]; exact U0) ?_
    refine e3S (p := (Value.pointer (some ⟨e8l, 0, none⟩))) rfl (Ld.g fun hb => by have f8 := hb; simp only [m9 f8]; exact (ld1 Tryd.isAgg3 (a7Q.at1 (o := 0) (vs := [(vi ((((x0.o7)).k5).d5))]) (nb rfl) rfl))) ?_
    refine i8 (Pu.g fun hb => by have f8 := hb; simp only [m9 f8]; exact (i5 _ _ _ _ _ _)) ?_
    refine i8 (a0g _ _) ?_
    exact hR ((((x0.o7)).k5).d6) ((decide (((((x0.o7)).k5).d5) = 2)) || (decide (((((x0.o7)).k5).d5) = 4))) H _ a7Q.drop h
   ·replace h := h.2 b5z
    exact hR ⟨#[]⟩ false H _ I h
theorem b3b (x0 : a8) {H : Hp} {K : ByteArray → Bool → Hp → Prop} (h : a1x x0 H K) : a0f x0 H K := by
 intro w I
 refine d8M ?_
 refine b2l x0 I (fun r0 r1 H' w' I' hk => ⟨H', _, I', r0, r1, rfl, rfl, hk⟩) h
def a2e (x0 : Int) (x1 : Int) (x2 : Int) (H : Hp) (K : Bool → Hp → Prop) : Prop :=
 K ((decide (x0 ≤ x2)) && (decide (x2 ≤ x1))) H
theorem a9B (x0 : Int) (x1 : Int) (x2 : Int) (g2 : Nat) {K : Bool → Hp → Prop} (I : Inv w0 ps0 H0 H [bx g2 21 [(Value.int .i32 x2)]] w) (hR : ∀ (r0 : Bool) (H' : Hp) (w' : World) (_ : Inv w0 ps0 H0 H' [bx g2 21 [(Value.int .i32 x2)]] w') (_ : K r0 H'), R (vB r0) w') (h : a2e x0 x1 x2 H K) : c6M (Value.int .i32 x0) (Value.int .i32 x1) (Value.pointer (some ⟨g2, 0, none⟩)) w R E := by
 unfold a2e at h
 unfold c6M
 refine b8 (ld1 Tryd.isAgg21 (I.at1 (o := 0) (vs := [(Value.int .i32 x2)]) (nb rfl) rfl)) ?_
 refine a7 (b2u _ _ _ _ _ _) ?_
 refine b8 (Ld.g fun hb => by have f8 := hb; exact (ld1 Tryd.isAgg21 (I.at1 (o := 0) (vs := [(Value.int .i32 x2)]) (nb rfl) rfl))) ?_
 simp only [L6]
 refine a7 (Pu.g fun hb => by have f8 := hb; simp only [m9 f8]; exact (b2u _ _ _ _ _ _)) ?_
 refine a7 (L8 _ _) ?_
 exact hR ((decide (x0 ≤ x2)) && (decide (x2 ≤ x1))) H _ I h
theorem b0b (x0 : Int) (x1 : Int) (x2 : Int) {H : Hp} {K : Bool → Hp → Prop} (h : a2e x0 x1 x2 H K) : D8 x0 x1 x2 H K := by
 intro g2 w I
 refine d9e ?_
 refine a9B x0 x1 x2 g2 I (fun r0 H' w' I' hk => ⟨H', _, I', r0, rfl, rfl, hk⟩) h
def a2y (H : Hp) (K : Bool → Hp → Prop) : Prop :=
 K true H
def J8 (b0c : ByteArray) (D9 : Nat) (H : Hp) (n2 : Nat → Hp → Prop) (K : Bool → Hp → Prop) : Prop :=
 (D9 < b0c.size →
 a2W ((Utf8.decode b0c D9).1 : Int) H (fun (b1c : Bool) (c2v : Hp) =>
 TG ((!(!b1c) && (decide (((D9 : Nat) : Int) = 0))) = true) (a0W ((Utf8.decode b0c D9).1 : Int) c2v) 0 c2v (fun (a7a : Int) (a3T : Hp) =>
 (((!b1c) || ((decide (((D9 : Nat) : Int) = 0)) && (!decide (a7a = 3)))) = true →
 K false a3T) ∧
 (((!b1c) || ((decide (((D9 : Nat) : Int) = 0)) && (!decide (a7a = 3)))) = false →
 n2 (D9 + (Utf8.decode b0c D9).2) a3T)))) ∧
 (¬ (D9 < b0c.size) →
 a2y H K)
def a1L (x0 : ByteArray) (H : Hp) (K : Bool → Hp → Prop) : Prop :=
 TG ((decide (x0 = ⟨#[]⟩)) = false) (a2P x0 H) false H (fun (C0 : Bool) (H_1 : Hp) =>
 TG (((decide (x0 = ⟨#[]⟩)) || (!C0)) = false) (a1I x0 H_1) false H_1 (fun (A6 : Bool) (a1k : Hp) =>
 TG ((((decide (x0 = ⟨#[]⟩)) || (!C0)) || A6) = false) (a0u x0 a1k) false a1k (fun (V4 : Bool) (a0B : Hp) =>
 (((((decide (x0 = ⟨#[]⟩)) || (!C0)) || A6) || V4) = true →
 K false a0B) ∧
 (((((decide (x0 = ⟨#[]⟩)) || (!C0)) || A6) || V4) = false →
 TL (0 : Nat) a0B fun (s : Nat) H n2 => J8 x0 s H n2 K))))
theorem b3c (x0 : ByteArray) {K : Bool → Hp → Prop} (I : Inv w0 ps0 H0 H [] w) (hR : ∀ (r0 : Bool) (H' : Hp) (w' : World) (_ : Inv w0 ps0 H0 H' [] w') (_ : K r0 H'), R (vB r0) w') (h : a1L x0 H K) : c6E (Value.string x0) w R E := by
 unfold a1L at h
 unfold c6E
 refine a7 (a0t _ _ _ _ _) ?_
 simp only [L6]
 refine a6k (D := fun v_5 w_2 => ∃ (C0 : Bool) (H_1 : Hp) , v_5 = (gv (decide (x0 = ⟨#[]⟩)) false (vB C0)) ∧ (Inv w0 ps0 H0 H_1 [] w_2) ∧ (∀ i, i < w.heap.size → ¬ inF [] i → w_2.heap[i]? = w.heap[i]?) ∧ Hle H H_1 ∧ (TG (((decide (x0 = ⟨#[]⟩)) || (!C0)) = false) (a1I x0 H_1) false H_1 (fun (A6 : Bool) (a1k : Hp) =>
 TG ((((decide (x0 = ⟨#[]⟩)) || (!C0)) || A6) = false) (a0u x0 a1k) false a1k (fun (V4 : Bool) (a0B : Hp) =>
 (((((decide (x0 = ⟨#[]⟩)) || (!C0)) || A6) || V4) = true →
 K false a0B) ∧
 (((((decide (x0 = ⟨#[]⟩)) || (!C0)) || A6) || V4) = false →
 TL (0 : Nat) a0B fun (s : Nat) H n2 => J8 x0 s H n2 K))))) (fun b7j => ?_) (fun b7j => ?_) ?_
 ·replace h := h.1 b7j
  have f8 := b7j
  simp only [m9 f8]
  refine b9 (cap := []) (fun args w => Tryd.call137 args w) ?_
  refine m2 (Fi := []) (Fr := []) I (h) (fun v_5 H_1 F_6 w_2 I_3 l_8 k_4 q_7 => ?_) (fun _ _ _ _ _ q => q.elim)
  obtain ⟨C0, rfl, rfl, h⟩ := q_7
  exact ⟨C0, H_1, by rfl, I_3, k_4, l_8, h⟩
 ·exact ⟨false, H, by rw [b0G b7j], I, fun _ _ _ => rfl, Hle.refl _, h.2 b7j⟩
 ·clear h
  rintro v_5 w_2 ⟨C0, H_1, rfl, I_3, k_4, l_8, h⟩
  refine a7 (Pu.g fun hb => by have f8 := hb; simp only [m9 f8]; exact (a0s _)) ?_
  refine a7 (a0g _ _) ?_
  simp only [L6]
  refine a6k (D := fun c2w a0i => ∃ (A6 : Bool) (a1k : Hp) , c2w = (gv ((decide (x0 = ⟨#[]⟩)) || (!C0)) false (vB A6)) ∧ (Inv w0 ps0 H0 a1k [] a0i) ∧ (∀ i, i < w_2.heap.size → ¬ inF [] i → a0i.heap[i]? = w_2.heap[i]?) ∧ Hle H_1 a1k ∧ (TG ((((decide (x0 = ⟨#[]⟩)) || (!C0)) || A6) = false) (a0u x0 a1k) false a1k (fun (V4 : Bool) (a0B : Hp) =>
 (((((decide (x0 = ⟨#[]⟩)) || (!C0)) || A6) || V4) = true →
 K false a0B) ∧
 (((((decide (x0 = ⟨#[]⟩)) || (!C0)) || A6) || V4) = false →
 TL (0 : Nat) a0B fun (s : Nat) H n2 => J8 x0 s H n2 K)))) (fun c2x => ?_) (fun c2x => ?_) ?_
  ·replace h := h.1 c2x
   have f8 := c2x
   simp only [m9 f8]
   refine b9 (cap := []) (fun args w => Tryd.call138 args w) ?_
   refine m2 (Fi := []) (Fr := []) I_3 (h) (fun c2w a1k e8m a0i M6 b5A b3a c2y => ?_) (fun _ _ _ _ _ q => q.elim)
   obtain ⟨A6, rfl, rfl, h⟩ := c2y
   exact ⟨A6, a1k, by rfl, M6, b3a, b5A, h⟩
  ·exact ⟨false, H_1, by rw [b0G c2x], I_3, fun _ _ _ => rfl, Hle.refl _, h.2 c2x⟩
  ·clear h
   rintro c2w a0i ⟨A6, a1k, rfl, M6, b3a, b5A, h⟩
   refine a7 (a0g _ _) ?_
   simp only [L6]
   refine a6k (D := fun c7a p7 => ∃ (V4 : Bool) (a0B : Hp) , c7a = (gv (((decide (x0 = ⟨#[]⟩)) || (!C0)) || A6) false (vB V4)) ∧ (Inv w0 ps0 H0 a0B [] p7) ∧ (∀ i, i < a0i.heap.size → ¬ inF [] i → p7.heap[i]? = a0i.heap[i]?) ∧ Hle a1k a0B ∧ ((((((decide (x0 = ⟨#[]⟩)) || (!C0)) || A6) || V4) = true →
 K false a0B) ∧
 (((((decide (x0 = ⟨#[]⟩)) || (!C0)) || A6) || V4) = false →
 TL (0 : Nat) a0B fun (s : Nat) H n2 => J8 x0 s H n2 K))) (fun c2z => ?_) (fun c2z => ?_) ?_
   ·replace h := h.1 c2z
    have f8 := c2z
    simp only [m9 f8]
    refine b9 (cap := []) (fun args w => Tryd.call139 args w) ?_
    refine m2 (Fi := []) (Fr := []) M6 (h) (fun c7a a0B g1w p7 a7R d2L c2A d2M => ?_) (fun _ _ _ _ _ q => q.elim)
    obtain ⟨V4, rfl, rfl, h⟩ := d2M
    exact ⟨V4, a0B, by rfl, a7R, c2A, d2L, h⟩
   ·exact ⟨false, a1k, by rw [b0G c2z], M6, fun _ _ _ => rfl, Hle.refl _, h.2 c2z⟩
   ·clear h
    rintro c7a p7 ⟨V4, a0B, rfl, a7R, c2A, d2L, h⟩
    refine a7 (a0g _ _) ?_
    refine o4 (fun d2N => ?_) (fun d2N => ?_)
    ·replace h := h.1 d2N
     exact hR false a0B _ a7R h
    ·replace h := h.2 d2N
     have hj1 : ∀ (H : Hp) (w : World) (_ : Inv w0 ps0 H0 H [] w) (_ : a2y H K), b8L w R E := by
      intro H w I h
      unfold b8L
      intro _
      unfold a2y at h
      exact hR true H _ I h
     refine z7 fun j1 hx1 => ?_
     refine c5w Tryd.underlying9 x0 a7R fun c7b D3 b5B e8n => ?_
     obtain ⟨d2O, c2B, g1x, g1y⟩ := h
     refine K8 (J := fun n l w => ∃ (s : Nat) (H : Hp) , n = c2B s ∧ l = [] ∧ Inv w0 ps0 H0 H [itf c7b x0 s] w ∧ d2O s H) ⟨_, 0, a0B, rfl, rfl, b5B, g1x⟩ ?_
     rintro g6d τ_94 w next2 ⟨D9, H, rfl, g1z, I, g1A⟩ hn2
     clear g1z
     obtain ⟨n2, hm2, h⟩ : ∃ n2 : Nat → Hp → Prop, (∀ s' H', n2 s' H' → d2O s' H' ∧ c2B s' < c2B D9) ∧ J8 x0 D9 H n2 K := ⟨_, fun _ _ h => h, g1y D9 H (fun s' H' => d2O s' H' ∧ c2B s' < c2B D9) g1A (fun _ _ a b => ⟨a, b⟩)⟩
     unfold c5D
     unfold J8 at h
     refine c9B I (fun a7S b3d g1B g6e => ?_) (fun a7S => ?_)
     ·replace h := h.1 a7S
      refine a7 (j7 _ _ (vB true) rfl) ?_
      refine o4 (fun e => ?_) (fun e => by cases e)
      refine a7 (j7 _ _ (vi ((D9 : Nat) : Int)) rfl) ?_
      refine a7 (j7 _ _ (Value.int .i32 ((Utf8.decode x0 D9).1 : Int)) rfl) ?_
      refine b9 (cap := []) (fun args w => Tryd.call140 args w) ?_
      refine m2 (Fi := []) (Fr := [itf c7b x0 (D9 + (Utf8.decode x0 D9).2)]) g1B (h) (fun d2P c2v g6f L2 c2C g6g g1C g1D => ?_) (fun _ _ _ _ _ q => q.elim)
      obtain ⟨b1c, rfl, rfl, h⟩ := g1D
      refine a7 (a0s _) ?_
      simp only [L6]
      refine a7 (Pu.g fun hb => by have f8 := hb; simp only [m9 f8]; exact (i5 _ _ _ _ _ _)) ?_
      simp only [d7l, e3Z]
      refine a8Z (a7l _ _ _) ?_
      refine a6k (D := fun c7c b1d => ∃ (a7a : Int) (a3T : Hp) , c7c = (gv (!(!b1c) && (decide (((D9 : Nat) : Int) = 0))) true (vi a7a)) ∧ (Inv w0 ps0 H0 a3T [itf c7b x0 (D9 + (Utf8.decode x0 D9).2)] b1d) ∧ (∀ i, i < L2.heap.size → ¬ inF [] i → b1d.heap[i]? = L2.heap[i]?) ∧ Hle c2v a3T ∧ ((((!b1c) || ((decide (((D9 : Nat) : Int) = 0)) && (!decide (a7a = 3)))) = true →
 K false a3T) ∧
 (((!b1c) || ((decide (((D9 : Nat) : Int) = 0)) && (!decide (a7a = 3)))) = false →
 n2 (D9 + (Utf8.decode x0 D9).2) a3T))) (fun b9f => ?_) (fun b9f => ?_) ?_
      ·replace h := h.1 b9f
       obtain ⟨f8, c2D⟩ := b4a b9f
       simp only [m9 b9f]
       refine b9 (cap := []) (fun args w => Tryd.call141 args w) ?_
       refine m2 (Fi := []) (Fr := [itf c7b x0 (D9 + (Utf8.decode x0 D9).2)]) c2C (h) (fun c7c a3T g1E b1d b9g d2Q d2R d2S => ?_) (fun _ _ _ _ _ q => q.elim)
       obtain ⟨a7a, rfl, rfl, h⟩ := d2S
       exact ⟨a7a, a3T, by rfl, b9g, d2R, d2Q, h⟩
      ·exact ⟨0, c2v, by rw [b0G b9f], c2C, fun _ _ _ => rfl, Hle.refl _, h.2 b9f⟩
      ·clear h
       rintro c7c b1d ⟨a7a, a3T, rfl, b9g, d2R, d2Q, h⟩
       refine a7 (Pu.e (a7l _ _ _) (Pu.g fun hb => by obtain ⟨f8, c2D⟩ := b4a hb; simp only [m9 hb]; exact (W7 _ _ _ _ _ _))) ?_
       refine a7 (Pu.g fun hb => by have f8 := hb; simp only [m9 f8, c9z f8]; exact (L8 _ _)) ?_
       refine a7 (a0g _ _) ?_
       refine o4 (fun a7T => ?_) (fun a7T => ?_)
       ·replace h := h.1 a7T
        exact hR false a3T _ b9g.drop h
       ·replace h := h.2 a7T
        exact hn2 _ _ _ (hm2 _ _ h).2 ⟨(D9 + (Utf8.decode x0 D9).2), a3T, rfl, rfl, b9g, (hm2 _ _ h).1⟩
     ·replace h := h.2 a7S
      refine a7 (j7 _ _ (vB false) rfl) ?_
      refine o4 (fun e => by cases e) (fun e => ?_)
      exact hx1 _ _ (hj1 H _ I.drop h)
theorem b4R (x0 : ByteArray) {H : Hp} {K : Bool → Hp → Prop} (h : a1L x0 H K) : a1J x0 H K := by
 intro w I
 refine d8O ?_
 refine b3c x0 I (fun r0 H' w' I' hk => ⟨H', _, I', r0, rfl, rfl, hk⟩) h
def E4 (a5C : Int) (a5D : Int) (a5E : Int) (a5F : Bool) (a5G : Bool) (a6r : (List ByteArray)) (H : Hp) (K : g7 → Hp → Prop) : Prop :=
 ∀ (a0J : Sl) (b9h : Hp), Hle H b9h → SlH b9h 1 B6 a0J a6r → a0J.n ≤ a0J.c →
 K (g7.mk a5C a5D a5E a5F a5G a0J) b9h
def a0C (x0 : Sl) (H : Hp) (K : g7 → Hp → Prop) : Prop :=
 S0 x0 1 (g7.mk 0 0 0 false false (Sl.mk none 0 0)) [] H (fun (c7d : Bool) (A7 : g7) (a3B : (List ByteArray)) (b1e : Hp) =>
 ((!c7d) = true →
 E4 ((A7).fnodes) ((A7).fdepth) ((A7).fe) ((A7).fform) ((A7).fnamed) a3B b1e K) ∧
 ((!c7d) = false →
 (((A7).fform) = true →
 E4 ((A7).fnodes) ((A7).fdepth) 30 ((A7).fform) ((A7).fnamed) a3B b1e K) ∧
 (((A7).fform) = false →
 (((A7).fnamed) = true →
 E4 ((A7).fnodes) ((A7).fdepth) 31 ((A7).fform) ((A7).fnamed) a3B b1e K) ∧
 (((A7).fnamed) = false →
 E4 ((A7).fnodes) ((A7).fdepth) ((A7).fe) ((A7).fform) ((A7).fnamed) a3B b1e K))))
theorem b0d (x0 : Sl) {K : g7 → Hp → Prop} (I : Inv w0 ps0 H0 H [] w) (hR : ∀ (r0 : g7) (gr0 : Nat) (H' : Hp) (w' : World) (_ : Inv w0 ps0 H0 H' [bx gr0 106 (a3x r0)] w') (_ : K r0 H'), R (Value.pointer (some ⟨gr0, 0, none⟩)) w') (h : a0C x0 H K) : F60 (vs x0) w R E := by
 unfold a0C at h
 unfold F60
 refine a7 (c6z ) ?_
 refine M1 I (cs := [(vi 0), (vi 0), (vi 0), (vB false), (vB false), (nS)]) rfl fun g_2 w_3 I_4 k_5 => ?_
 refine A0 I_4 Tryd.zeroValue102 (cs := [(Value.pointer none)]) rfl fun g_7 w_8 I_9 c7e => ?_
 refine m5 I_9 Tryd.sizeOf102 (vs := [(Value.pointer (some ⟨g_2, 0, none⟩))]) (cs' := [(Value.pointer (some ⟨g_2, 0, none⟩))]) rfl rfl (nb rfl) rfl rfl fun a0i M6 b3a => ?_
 refine A0 M6 Tryd.zeroValue161 (cs := [Value.nilFunc]) rfl fun b1f o8 b9i g1F => ?_
 refine a7 (a9q _ _ _) ?_
 refine m5 b9i Tryd.sizeOf161 (vs := [(Value.func (.func 99) #[] #[(Value.pointer (some ⟨g_7, 0, none⟩)), (Value.pointer (some ⟨b1f, 0, none⟩))])]) (cs' := [(Value.func (.func 99) #[] #[(Value.pointer (some ⟨g_7, 0, none⟩)), (Value.pointer (some ⟨b1f, 0, none⟩))])]) rfl rfl (nb rfl) rfl rfl fun a2T c7f g1G => ?_
 have hj1 : ∀ (a5C : Int) (a5D : Int) (a5E : Int) (a5F : Bool) (a5G : Bool) (a6r : (List ByteArray)) (a0J : Sl) (Fcr_1j1_5 : Frag) (H : Hp) (w : World) (_ : RowL 9 1 B6 a0J a6r Fcr_1j1_5) (_ : Inv w0 ps0 H0 H [bx g_7 102 [(Value.pointer (some ⟨g_2, 0, none⟩))], bx g_2 106 [(vi a5C), (vi a5D), (vi a5E), (vB a5F), (vB a5G), (vs a0J)], bx b1f 161 [(Value.func (.func 99) #[] #[(Value.pointer (some ⟨g_7, 0, none⟩)), (Value.pointer (some ⟨b1f, 0, none⟩))])], Fcr_1j1_5] w) (_ : E4 a5C a5D a5E a5F a5G a6r H K), c1v (Value.pointer (some ⟨g_7, 0, none⟩)) w R E := by
  intro a5C a5D a5E a5F a5G a6r a0J Fcr_1j1_5 H w d0B I h
  unfold c1v
  intro _
  unfold E4 at h
  refine b8 (ld1 Tryd.isAgg102 (I.at1 (o := 0) (vs := [(Value.pointer (some ⟨g_2, 0, none⟩))]) (nb rfl) rfl)) ?_
  obtain ⟨b9h, c2E, g1H, b1g, c2F⟩ := Inv.freezeC (I.bring 3) d0B (by decide)
  replace h := h a0J b9h g1H b1g c2F
  exact hR (g7.mk a5C a5D a5E a5F a5G a0J) g_2 b9h _ (c2E.drop.bring 1).drop h
 refine z7 fun j1 hx1 => ?_
 refine b8 (ld1 Tryd.isAgg161 (c7f.at1 (o := 0) (vs := [(Value.func (.func 99) #[] #[(Value.pointer (some ⟨g_7, 0, none⟩)), (Value.pointer (some ⟨b1f, 0, none⟩))])]) (nb rfl) rfl)) ?_
 refine b9 (cap := [(Value.pointer (some ⟨g_7, 0, none⟩)), (Value.pointer (some ⟨b1f, 0, none⟩))]) (fun args w => Tryd.call99 args w) ?_
 refine m2 (Fi := [bx g_7 102 [(Value.pointer (some ⟨g_2, 0, none⟩))], bx g_2 106 [(vi 0), (vi 0), (vi 0), (vB false), (vB false), (Value.slice (Sl.mk none 0 0).a (Sl.mk none 0 0).n (Sl.mk none 0 0).c)], [], bx b1f 161 [(Value.func (.func 99) #[] #[(Value.pointer (some ⟨g_7, 0, none⟩)), (Value.pointer (some ⟨b1f, 0, none⟩))])]]) (Fr := []) ((((c7f.nil.bring 1).bring 1).bring 3).bring 3) (h g_7 g_2 b1f (Sl.mk none 0 0) ([]) (RowL.nil (e := 9) b5i b5j)) (fun g6h b1e e8o t8 a6C g6i g1v g1I => ?_) (fun _ _ _ _ _ q => q.elim)
 obtain ⟨c7d, A7, a3B, a5H, b1h, rfl, rfl, b1i, h⟩ := g1I
 refine a7 (a0s _) ?_
 refine o4 (fun d2T => ?_) (fun d2T => ?_)
 ·replace h := h.1 d2T
  exact hx1 _ _ (hj1 ((A7).fnodes) ((A7).fdepth) ((A7).fe) ((A7).fform) ((A7).fnamed) a3B a5H b1h b1e _ b1i ((((a6C.bring 2).bring 3).bring 3).bring 3) h)
 ·replace h := h.2 d2T
  refine b8 (ld1 Tryd.isAgg102 (a6C.at1 (o := 0) (vs := [(Value.pointer (some ⟨g_2, 0, none⟩))]) (nb rfl) rfl)) ?_
  refine a7 (o3 _) ?_
  refine a7 a9t ?_
  refine b8 (ld1 Tryd.isAgg4 ((a6C.bring 1).at1 (o := 3) (vs := [(vB ((A7).fform))]) (nb rfl) rfl)) ?_
  refine o4 (fun a2z => ?_) (fun a2z => ?_)
  ·replace h := h.1 a2z
   refine b8 (ld1 Tryd.isAgg102 (a6C.at1 (o := 0) (vs := [(Value.pointer (some ⟨g_2, 0, none⟩))]) (nb rfl) rfl)) ?_
   refine a7 (o3 _) ?_
   refine a7 a3Z ?_
   refine m5 (a6C.bring 1) Tryd.sizeOf29 (vs := [(vi 30)]) (cs' := [(vi ((A7).fnodes)), (vi ((A7).fdepth)), (vi 30), (vB ((A7).fform)), (vB ((A7).fnamed)), (vs a5H)]) rfl rfl (nb rfl) rfl rfl fun d2U g1J g6j => ?_
   exact hx1 _ _ (hj1 ((A7).fnodes) ((A7).fdepth) 30 ((A7).fform) ((A7).fnamed) a3B a5H b1h b1e _ b1i ((((g1J.bring 2).bring 3).bring 2).bring 3) h)
  ·replace h := h.2 a2z
   refine b8 (ld1 Tryd.isAgg102 (a6C.at1 (o := 0) (vs := [(Value.pointer (some ⟨g_2, 0, none⟩))]) (nb rfl) rfl)) ?_
   refine a7 (o3 _) ?_
   refine a7 a9u ?_
   refine b8 (ld1 Tryd.isAgg4 ((a6C.bring 1).at1 (o := 4) (vs := [(vB ((A7).fnamed))]) (nb rfl) rfl)) ?_
   refine o4 (fun d2V => ?_) (fun d2V => ?_)
   ·replace h := h.1 d2V
    refine b8 (ld1 Tryd.isAgg102 (a6C.at1 (o := 0) (vs := [(Value.pointer (some ⟨g_2, 0, none⟩))]) (nb rfl) rfl)) ?_
    refine a7 (o3 _) ?_
    refine a7 a3Z ?_
    refine m5 (a6C.bring 1) Tryd.sizeOf29 (vs := [(vi 31)]) (cs' := [(vi ((A7).fnodes)), (vi ((A7).fdepth)), (vi 31), (vB ((A7).fform)), (vB ((A7).fnamed)), (vs a5H)]) rfl rfl (nb rfl) rfl rfl fun D6 c7g g1K => ?_
    exact hx1 _ _ (hj1 ((A7).fnodes) ((A7).fdepth) 31 ((A7).fform) ((A7).fnamed) a3B a5H b1h b1e _ b1i ((((c7g.bring 2).bring 3).bring 2).bring 3) h)
   ·replace h := h.2 d2V
    exact hx1 _ _ (hj1 ((A7).fnodes) ((A7).fdepth) ((A7).fe) ((A7).fform) ((A7).fnamed) a3B a5H b1h b1e _ b1i ((((a6C.bring 2).bring 3).bring 3).bring 3) h)
theorem b1j (x0 : Sl) {H : Hp} {K : g7 → Hp → Prop} (h : a0C x0 H K) : a2v x0 H K := by
 intro w I
 refine e4A ?_
 refine b0d x0 I (fun r0 gr0 H' w' I' hk => ⟨H', _, I', r0, gr0, rfl, rfl, hk⟩) h
def u0 (U5 : (List a8)) (H : Hp) (K : Sl → Hp → Prop) : Prop :=
 ∀ (D5 : Sl) (X8 : Hp), Hle H X8 → SlH X8 1 m7 D5 U5 → D5.n ≤ D5.c →
 K D5 X8
def u1 (a0m : Sl) (X9 : Int) (r5 : (List a8)) (p5 : Int) (H : Hp) (n2 : ((List a8) × Int) → Hp → Prop) (K : Sl → Hp → Prop) : Prop :=
 (p5 < X9 →
 (0 : Int) ≤ p5 ∧ (p5 : Int) < a0m.n ∧ ∃ x_1 : i7, EltH H a0m p5 2 (l9 x_1) ∧
 a5o x_1 H (fun (O3 : a8) (Y0 : Hp) =>
 (r5.length + ([O3] : List a8).length) * 17 ≤ 140737488355328 ∧
 n2 ((r5 ++ [O3]), (IntKind.wrap .i64 (p5 + 1))) Y0)) ∧
 (¬ (p5 < X9) →
 u0 r5 H K)
def y7 (x0 : Sl) (H : Hp) (K : Sl → Hp → Prop) : Prop :=
 TL (([], 0) : (List a8) × Int) H fun (s : (List a8) × Int) H n2 => u1 x0 (x0.n : Int) s.1 s.2 H n2 K
theorem W8 (x0 : Sl) {K : Sl → Hp → Prop} (I : Inv w0 ps0 H0 H [] w) (hR : ∀ (r0 : Sl) (H' : Hp) (w' : World) (_ : Inv w0 ps0 H0 H' [] w') (_ : K r0 H'), R (vs r0) w') (h : y7 x0 H K) : F88 (vs x0) (fC 89) w R E := by
 unfold y7 at h
 unfold F88
 have hj1 : ∀ (U5 : (List a8)) (D5 : Sl) (Fs5j1 : Frag) (H : Hp) (w : World) (_ : RowL 152 1 m7 D5 U5 Fs5j1) (_ : Inv w0 ps0 H0 H [Fs5j1] w) (_ : u0 U5 H K), c1C (vs D5) w R E := by
  intro U5 D5 Fs5j1 H w b1k I h
  unfold c1C
  intro _
  unfold u0 at h
  obtain ⟨X8, a5I, b3e, a7U, a9C⟩ := Inv.freezeC I b1k (by decide)
  replace h := h D5 X8 b3e a7U a9C
  exact hR D5 X8 _ a5I h
 refine z7 fun j1 hx1 => ?_
 refine a7 (a9a _ _ _) ?_
 obtain ⟨a4y, a0T, b5C, b5D⟩ := h
 refine K8 (J := fun n l w => ∃ (s : (List a8) × Int) (H : Hp) (U6 : Sl) (Fs5l2 : Frag) , n = a0T s ∧ l = (match s with | (r5, p5) => [(vs U6), (vi p5)]) ∧ (match s with | (r5, p5) => RowL 152 1 m7 U6 r5 Fs5l2) ∧ (match s with | (r5, p5) => Inv w0 ps0 H0 H [Fs5l2] w) ∧ a4y s H) ⟨_, ([], 0), H, (Sl.mk none 0 0), [], rfl, rfl, (RowL.nil K9 N7), I.nil, b5C⟩ ?_
 rintro d2W τ_50 w next2 ⟨⟨r5, p5⟩, H, U6, Fs5l2, rfl, a3U, a2A, I, b5E⟩ hn2
 dsimp only at a3U I a2A
 simp only [List.map_cons, List.map_nil, List.cons.injEq, and_true] at a3U
 obtain ⟨e5, e10⟩ := a3U
 simp only [e5, e10]
 obtain ⟨n2, hm2, h⟩ : ∃ n2 : ((List a8) × Int) → Hp → Prop, (∀ s' H', n2 s' H' → a4y s' H' ∧ a0T s' < a0T (r5, p5)) ∧ u1 x0 (x0.n : Int) r5 p5 H n2 K := ⟨_, fun _ _ h => h, b5D (r5, p5) H (fun s' H' => a4y s' H' ∧ a0T s' < a0T (r5, p5)) b5E (fun _ _ a b => ⟨a, b⟩)⟩
 unfold c9K
 unfold u1 at h
 refine a7 (B8 _ _ _ _ _ _) ?_
 refine h9 (fun a2z => ?_) (fun a2z => ?_)
 ·replace h := h.1 a2z
  obtain ⟨h_4, h_5, x_1, h_7, h⟩ := h
  obtain ⟨g_2, o_3, h_6, h_7⟩ := h_7
  refine a7 (b0P h_6 _ _ _ _ h_4 h_5) ?_
  refine b8 (ldA (vs := (l9 x_1)) Tryd.isAgg58 Tryd.sizeOf58 rfl (I.atH h_7)) ?_
  refine A0 I Tryd.zeroValue58 (cs := [(eS), (vi 0)]) rfl fun g_9 m4 a3i b5F => ?_
  refine m5 a3i Tryd.sizeOf58 (vs := (l9 x_1)) (cs' := (l9 x_1)) rfl rfl (nb rfl) rfl rfl fun a0j O7 a1E => ?_
  refine b8 (ldA Tryd.isAgg58 Tryd.sizeOf58 rfl (O7.at1 (o := 0) (vs := (l9 x_1)) (nb rfl) rfl)) ?_
  refine b9 (cap := []) (fun args w => Tryd.call89 args w) ?_
  refine m2 (Fi := []) (Fr := [bx g_9 58 (l9 x_1), Fs5l2]) O7 (h) (fun c7h Y0 b1l a1Y a4x b9j c7i b1m => ?_) (fun _ _ _ _ _ q => q.elim)
  obtain ⟨O3, rfl, rfl, h⟩ := b1m
  refine X3 (e := 152) (c := m7) (xs := [O3]) a4x (b0O _) rfl rfl K9 N7 (nb rfl) fun c2G b9k B9 a5J a5K c7j => ?_
  obtain ⟨b1n, h⟩ := h
  refine a9Y (s := U6) (xs := r5) (a5K.bring 2) a2A (a5J.srcO ((a5K.bring 2).bring 1)) b1n fun b5G b5H C6 b1g a6D c7k => ?_
  refine a7 (E9 _ _ _ _ _ _) ?_
  exact hn2 _ _ _ (hm2 _ _ h).2 ⟨((r5 ++ [O3]), (IntKind.wrap .i64 (p5 + 1))), Y0, b5G, b5H, rfl, rfl, b1g, ((a6D.bring 1).drop.bring 1).drop, (hm2 _ _ h).1⟩
 ·replace h := h.2 a2z
  exact hx1 _ _ (hj1 r5 U6 Fs5l2 H _ a2A I h)
theorem Y1 (x0 : Sl) {H : Hp} {K : Sl → Hp → Prop} (h : y7 x0 H K) : C9 x0 H K := by
 intro w I
 refine e4K ?_
 refine W8 x0 I (fun r0 H' w' I' hk => ⟨H', _, I', r0, rfl, rfl, hk⟩) h
def u4 (U5 : (List a8)) (H : Hp) (K : Sl → Hp → Prop) : Prop :=
 ∀ (D5 : Sl) (X8 : Hp), Hle H X8 → SlH X8 1 m7 D5 U5 → D5.n ≤ D5.c →
 K D5 X8
def u5 (a0m : Sl) (X9 : Int) (r5 : (List a8)) (p5 : Int) (H : Hp) (n2 : ((List a8) × Int) → Hp → Prop) (K : Sl → Hp → Prop) : Prop :=
 (p5 < X9 →
 (0 : Int) ≤ p5 ∧ (p5 : Int) < a0m.n ∧ ∃ x_1 : m6, EltH H a0m p5 6 (f2 x_1) ∧
 a5p x_1 H (fun (O3 : a8) (Y0 : Hp) =>
 (r5.length + ([O3] : List a8).length) * 17 ≤ 140737488355328 ∧
 n2 ((r5 ++ [O3]), (IntKind.wrap .i64 (p5 + 1))) Y0)) ∧
 (¬ (p5 < X9) →
 u4 r5 H K)
def y8 (x0 : Sl) (H : Hp) (K : Sl → Hp → Prop) : Prop :=
 TL (([], 0) : (List a8) × Int) H fun (s : (List a8) × Int) H n2 => u5 x0 (x0.n : Int) s.1 s.2 H n2 K
theorem W9 (x0 : Sl) {K : Sl → Hp → Prop} (I : Inv w0 ps0 H0 H [] w) (hR : ∀ (r0 : Sl) (H' : Hp) (w' : World) (_ : Inv w0 ps0 H0 H' [] w') (_ : K r0 H'), R (vs r0) w') (h : y8 x0 H K) : F90 (vs x0) (fC 91) w R E := by
 unfold y8 at h
 unfold F90
 have hj1 : ∀ (U5 : (List a8)) (D5 : Sl) (Fs5j1 : Frag) (H : Hp) (w : World) (_ : RowL 152 1 m7 D5 U5 Fs5j1) (_ : Inv w0 ps0 H0 H [Fs5j1] w) (_ : u4 U5 H K), c1D (vs D5) w R E := by
  intro U5 D5 Fs5j1 H w b1k I h
  unfold c1D
  intro _
  unfold u4 at h
  obtain ⟨X8, a5I, b3e, a7U, a9C⟩ := Inv.freezeC I b1k (by decide)
  replace h := h D5 X8 b3e a7U a9C
  exact hR D5 X8 _ a5I h
 refine z7 fun j1 hx1 => ?_
 refine a7 (a4L _ _ _) ?_
 obtain ⟨a4y, a0T, b5C, b5D⟩ := h
 refine K8 (J := fun n l w => ∃ (s : (List a8) × Int) (H : Hp) (U6 : Sl) (Fs5l2 : Frag) , n = a0T s ∧ l = (match s with | (r5, p5) => [(vs U6), (vi p5)]) ∧ (match s with | (r5, p5) => RowL 152 1 m7 U6 r5 Fs5l2) ∧ (match s with | (r5, p5) => Inv w0 ps0 H0 H [Fs5l2] w) ∧ a4y s H) ⟨_, ([], 0), H, (Sl.mk none 0 0), [], rfl, rfl, (RowL.nil K9 N7), I.nil, b5C⟩ ?_
 rintro d2W τ_50 w next2 ⟨⟨r5, p5⟩, H, U6, Fs5l2, rfl, a3U, a2A, I, b5E⟩ hn2
 dsimp only at a3U I a2A
 simp only [List.map_cons, List.map_nil, List.cons.injEq, and_true] at a3U
 obtain ⟨e5, e10⟩ := a3U
 simp only [e5, e10]
 obtain ⟨n2, hm2, h⟩ : ∃ n2 : ((List a8) × Int) → Hp → Prop, (∀ s' H', n2 s' H' → a4y s' H' ∧ a0T s' < a0T (r5, p5)) ∧ u5 x0 (x0.n : Int) r5 p5 H n2 K := ⟨_, fun _ _ h => h, b5D (r5, p5) H (fun s' H' => a4y s' H' ∧ a0T s' < a0T (r5, p5)) b5E (fun _ _ a b => ⟨a, b⟩)⟩
 unfold c9L
 unfold u5 at h
 refine a7 (B8 _ _ _ _ _ _) ?_
 refine h9 (fun a2z => ?_) (fun a2z => ?_)
 ·replace h := h.1 a2z
  obtain ⟨h_4, h_5, x_1, h_7, h⟩ := h
  obtain ⟨g_2, o_3, h_6, h_7⟩ := h_7
  refine a7 (b5u h_6 _ _ _ _ h_4 h_5) ?_
  refine b8 (ldA (vs := (f2 x_1)) Tryd.isAgg63 Tryd.sizeOf63 rfl (I.atH h_7)) ?_
  refine A0 I Tryd.zeroValue63 (cs := [(vi 0), (eS), (nS), (nS), (nS), (nS)]) rfl fun g_9 m4 a3i b5F => ?_
  refine m5 a3i Tryd.sizeOf63 (vs := (f2 x_1)) (cs' := (f2 x_1)) rfl rfl (nb rfl) rfl rfl fun a0j O7 a1E => ?_
  refine b8 (ldA Tryd.isAgg63 Tryd.sizeOf63 rfl (O7.at1 (o := 0) (vs := (f2 x_1)) (nb rfl) rfl)) ?_
  refine b9 (cap := []) (fun args w => Tryd.call91 args w) ?_
  refine m2 (Fi := []) (Fr := [bx g_9 63 (f2 x_1), Fs5l2]) O7 (h) (fun c7h Y0 b1l a1Y a4x b9j c7i b1m => ?_) (fun _ _ _ _ _ q => q.elim)
  obtain ⟨O3, rfl, rfl, h⟩ := b1m
  refine X3 (e := 152) (c := m7) (xs := [O3]) a4x (b0O _) rfl rfl K9 N7 (nb rfl) fun c2G b9k B9 a5J a5K c7j => ?_
  obtain ⟨b1n, h⟩ := h
  refine a9Y (s := U6) (xs := r5) (a5K.bring 2) a2A (a5J.srcO ((a5K.bring 2).bring 1)) b1n fun b5G b5H C6 b1g a6D c7k => ?_
  refine a7 (E9 _ _ _ _ _ _) ?_
  exact hn2 _ _ _ (hm2 _ _ h).2 ⟨((r5 ++ [O3]), (IntKind.wrap .i64 (p5 + 1))), Y0, b5G, b5H, rfl, rfl, b1g, ((a6D.bring 1).drop.bring 1).drop, (hm2 _ _ h).1⟩
 ·replace h := h.2 a2z
  exact hx1 _ _ (hj1 r5 U6 Fs5l2 H _ a2A I h)
theorem Y2 (x0 : Sl) {H : Hp} {K : Sl → Hp → Prop} (h : y8 x0 H K) : p9 x0 H K := by
 intro w I
 refine e4O ?_
 refine W9 x0 I (fun r0 H' w' I' hk => ⟨H', _, I', r0, rfl, rfl, hk⟩) h
def a0D (x0 : d8) (H : Hp) (K : a8 → Hp → Prop) : Prop :=
 K (a8.B7 (D2.mk x0)) H
theorem b0e (x0 : d8) {K : a8 → Hp → Prop} (I : Inv w0 ps0 H0 H [] w) (hR : ∀ (r0 : a8) (H' : Hp) (w' : World) (_ : Inv w0 ps0 H0 H' [] w') (_ : K r0 H'), R (r9 r0) w') (h : a0D x0 H K) : c6Q (Value.agg (b6 x0).toArray) w R E := by
 unfold a0D at h
 unfold c6Q
 refine M1 I (cs := (b6 x0)) rfl fun g_2 w_3 I_4 k_5 => ?_
 refine b8 (ldA Tryd.isAgg24 Tryd.sizeOf24 rfl (I_4.at1 (o := 0) (vs := (b6 x0)) (nb rfl) rfl)) ?_
 refine a7 (c1q _ _ _ _ _ _) ?_
 refine a7 (a9X (D2.mk x0)) ?_
 exact hR (a8.B7 (D2.mk x0)) H _ I_4.drop h
theorem b1o (x0 : d8) {H : Hp} {K : a8 → Hp → Prop} (h : a0D x0 H K) : a5q x0 H K := by
 intro w I
 refine d9n ?_
 refine b0e x0 I (fun r0 H' w' I' hk => ⟨H', _, I', r0, rfl, rfl, hk⟩) h
def a0E (x0 : t6) (H : Hp) (K : a8 → Hp → Prop) : Prop :=
 K (a8.F0 (H9.mk x0)) H
theorem b0f (x0 : t6) {K : a8 → Hp → Prop} (I : Inv w0 ps0 H0 H [] w) (hR : ∀ (r0 : a8) (H' : Hp) (w' : World) (_ : Inv w0 ps0 H0 H' [] w') (_ : K r0 H'), R (r9 r0) w') (h : a0E x0 H K) : c6V (Value.agg (i4 x0).toArray) w R E := by
 unfold a0E at h
 unfold c6V
 refine M1 I (cs := (i4 x0)) rfl fun g_2 w_3 I_4 k_5 => ?_
 refine b8 (ldA Tryd.isAgg27 Tryd.sizeOf27 rfl (I_4.at1 (o := 0) (vs := (i4 x0)) (nb rfl) rfl)) ?_
 refine a7 (c1r _ _ _ _ _ _ _ _) ?_
 refine a7 (b8B (H9.mk x0)) ?_
 exact hR (a8.F0 (H9.mk x0)) H _ I_4.drop h
theorem b1p (x0 : t6) {H : Hp} {K : a8 → Hp → Prop} (h : a0E x0 H K) : a5r x0 H K := by
 intro w I
 refine d9w ?_
 refine b0f x0 I (fun r0 H' w' I' hk => ⟨H', _, I', r0, rfl, rfl, hk⟩) h
def U7 (x0 : H9) (H : Hp) (K : Sl → Hp → Prop) : Prop :=
 q7 x0.j8.i6 H (fun (a5s : Sl) (H_8 : Hp) =>
 y6 x0.j8.r8 H_8 (fun (a5t : Sl) (b3f : Hp) =>
 ∀ (a5L : Sl) (a7V : Hp), Hle b3f a7V → SlH a7V 1 csl a5L [a5s, a5t] → a5L.n ≤ a5L.c →
 v7 a5L a7V (fun (b4p : Sl) (b9l : Hp) =>
 K b4p b9l)))
theorem a7b (x0 : H9) {K : Sl → Hp → Prop} (I : Inv w0 ps0 H0 H [] w) (hR : ∀ (r0 : Sl) (H' : Hp) (w' : World) (_ : Inv w0 ps0 H0 H' [] w') (_ : K r0 H'), R (vs r0) w') (h : U7 x0 H K) : c6T (Value.agg (i4 x0.j8).toArray) w R E := by
 unfold U7 at h
 unfold c6T
 refine M1 I (cs := (i4 x0.j8)) rfl fun g_2 w_3 I_4 k_5 => ?_
 refine a0d I_4 fun w_6 I_7 => ?_
 refine i8 Z5 ?_
 refine i8 a4V ?_
 refine i8 Z5 ?_
 refine i8 a1s ?_
 refine s7 (ld1 Tryd.isAgg22 (I_7.at1 (o := 2) (vs := [(vs x0.j8.i6)]) (nb rfl) rfl)) ?_
 refine s7 (ld1 Tryd.isAgg25 (I_7.at1 (o := 3) (vs := [(vs x0.j8.r8)]) (nb rfl) rfl)) ?_
 refine b9 (cap := []) (fun args w => Tryd.call171 args w) ?_
 refine m2 (Fi := []) (Fr := [bx g_2 138 (i4 x0.j8)]) I_7 (h) (fun e8p H_8 d2X w_9 b1q e8q b5I c2H => ?_) (fun _ _ _ _ _ q => q.elim)
 obtain ⟨a5s, rfl, rfl, h⟩ := c2H
 refine ⟨(b5I _ I_7.lt1 (Inv.a4U (Fi := []) I_7)), ?_⟩
 refine b9 (cap := []) (fun args w => Tryd.call175 args w) ?_
 refine m2 (Fi := []) (Fr := [bx g_2 138 (i4 x0.j8)]) b1q (h) (fun e8r b3f e8s p6 a5u e8t b5J c2I => ?_) (fun _ _ _ _ _ q => q.elim)
 obtain ⟨a5t, rfl, rfl, h⟩ := c2I
 refine X3 (e := 124) (c := csl) (xs := [a5s, a5t]) a5u (c1s _ _ _ _ _ _) rfl rfl b4c b4d (nb rfl) fun a5L e8o d2Y c2J b5B e8n => ?_
 obtain ⟨a7V, d2Z, c1V, c2F, d3a⟩ := Inv.freezeC b5B c2J (by decide)
 replace h := h a5L a7V c1V c2F d3a
 refine b9 (cap := []) (fun args w => Tryd.call87 args w) ?_
 refine m2 (Fi := []) (Fr := [bx g_2 138 (i4 x0.j8)]) d2Z (h) (fun g1L b9l g1M d3b a5I g1N e8u d3c => ?_) (fun _ _ _ _ _ q => q.elim)
 obtain ⟨b4p, rfl, rfl, h⟩ := d3c
 exact hR b4p b9l _ a5I.drop h
theorem a7W (x0 : H9) {H : Hp} {K : Sl → Hp → Prop} (h : U7 x0 H K) : a3f x0 H K := by
 intro w I
 refine d9s ?_
 refine a7b x0 I (fun r0 H' w' I' hk => ⟨H', _, I', r0, rfl, rfl, hk⟩) h
end Go.Proofs.YtnhkdkcgdcgmdaaDoor
