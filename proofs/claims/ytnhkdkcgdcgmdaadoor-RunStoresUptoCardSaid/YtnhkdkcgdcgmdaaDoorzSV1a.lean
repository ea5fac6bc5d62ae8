/- Typed formulas of the program's functions, and the theorems that the contracts follow from them; printed by lift.py off the code. -/
import Derived.Test.YtnhkdkcgdcgmdaaDoorzSV1
namespace Go.Proofs.YtnhkdkcgdcgmdaaDoor
open Go.RowKit
set_option maxRecDepth 100000
set_option maxHeartbeats 2000000
variable {w0 w : World} {ps0 : Nat → Prop} {H0 H : Hp} {R : RT} {E : Pan}
def a1H (x0 : a8) (H : Hp) (K : ByteArray → Bool → Hp → Prop) : Prop :=
 (x0.a3F = true →
 K ((((x0.R5)).N4).d5) true H) ∧
 (x0.a3F = false →
 (x0.a3G = true →
 K ((((x0.i5)).d7).d5) ((decide (((((x0.i5)).d7).b9) = 1)) || (decide (((((x0.i5)).d7).b9) = 2))) H) ∧
 (x0.a3G = false →
 (x0.a3E = true →
 K ((((x0.p5)).l0).d5) ((decide (((((x0.p5)).l0).b9) = 2)) || (decide (((((x0.p5)).l0).b9) = 4))) H) ∧
 (x0.a3E = false →
 K ⟨#[]⟩ false H)))
theorem b2B (x0 : a8) {K : ByteArray → Bool → Hp → Prop} (I : Inv w0 ps0 H0 H [] w) (hR : ∀ (r0 : ByteArray) (r1 : Bool) (H' : Hp) (w' : World) (_ : Inv w0 ps0 H0 H' [] w') (_ : K r0 r1 H'), R (Value.tuple #[(Value.string r0), (vB r1)]) w') (h : a1H x0 H K) : c6X (t8 x0) w R E := by
 unfold a1H at h
 unfold c6X
 refine a7 (c0V x0) ?_
 refine a7 (m4 _ _ (vB x0.a3F) rfl) ?_
 refine a7 (m4 _ _ _ rfl) ?_
 refine o8 (fun d3u => ?_) (fun d3u => ?_)
 ·replace h := h.1 d3u
  refine A8 I Tryd.zeroValue177 (cs := [(eS), (vi 0)]) rfl fun g_2 w_3 I_4 k_5 => ?_
  refine o0 I_4 Tryd.sizeOf177 (vs := [(Value.string ((((x0.R5)).N4).d5)), (vi ((((x0.R5)).N4).E4))]) (cs' := [(Value.string ((((x0.R5)).N4).d5)), (vi ((((x0.R5)).N4).E4))]) rfl rfl (nb rfl) rfl rfl fun w_6 I_7 k_8 => ?_
  refine a7 a9Q ?_
  refine a7 a0i ?_
  refine b6 (ld1 Tryd.isAgg9 (I_7.at1 (o := 0) (vs := [(Value.string ((((x0.R5)).N4).d5))]) (nb rfl) rfl)) ?_
  exact hR ((((x0.R5)).N4).d5) true H _ I_7.drop h
 ·replace h := h.2 d3u
  refine a7 (c0W x0) ?_
  refine a7 (m4 _ _ (vB x0.a3G) rfl) ?_
  refine a7 (m4 _ _ _ rfl) ?_
  refine o8 (fun b5R => ?_) (fun b5R => ?_)
  ·replace h := h.1 b5R
   refine A8 I Tryd.zeroValue179 (cs := [(vi 0), (eS), (nS), (nS), (nS), (nS)]) rfl fun g2W a0I P1 b5S => ?_
   refine o0 P1 Tryd.sizeOf179 (vs := [(vi ((((x0.i5)).d7).b9)), (Value.string ((((x0.i5)).d7).d5)), (Value.slice ((((x0.i5)).d7).i8).a ((((x0.i5)).d7).i8).n ((((x0.i5)).d7).i8).c), (Value.slice ((((x0.i5)).d7).q9).a ((((x0.i5)).d7).q9).n ((((x0.i5)).d7).q9).c), (Value.slice ((((x0.i5)).d7).G9).a ((((x0.i5)).d7).G9).n ((((x0.i5)).d7).G9).c), (Value.slice ((((x0.i5)).d7).G3).a ((((x0.i5)).d7).G3).n ((((x0.i5)).d7).G3).c)]) (cs' := [(vi ((((x0.i5)).d7).b9)), (Value.string ((((x0.i5)).d7).d5)), (Value.slice ((((x0.i5)).d7).i8).a ((((x0.i5)).d7).i8).n ((((x0.i5)).d7).i8).c), (Value.slice ((((x0.i5)).d7).q9).a ((((x0.i5)).d7).q9).n ((((x0.i5)).d7).q9).c), (Value.slice ((((x0.i5)).d7).G9).a ((((x0.i5)).d7).G9).n ((((x0.i5)).d7).G9).c), (Value.slice ((((x0.i5)).d7).G3).a ((((x0.i5)).d7).G3).n ((((x0.i5)).d7).G3).c)]) rfl rfl (nb rfl) rfl rfl fun o3 b5T c7v => ?_
   refine a0p b5T fun a2k a4J => ?_
   refine j8 J8 ?_
   refine j8 a1C ?_
   refine j8 J8 ?_
   refine j8 a5o ?_
   refine u0 (ld1 Tryd.isAgg9 (a4J.at1 (o := 1) (vs := [(Value.string ((((x0.i5)).d7).d5))]) (nb rfl) rfl)) ?_
   refine u0 (ld1 Tryd.isAgg3 (a4J.at1 (o := 0) (vs := [(vi ((((x0.i5)).d7).b9))]) (nb rfl) rfl)) ?_
   refine j8 (i6 _ _ _ _ _ _) ?_
   refine j8 (Pu.g fun hb => by have d8 := hb; exact J8) ?_
   refine j8 (Pu.g fun hb => by have d8 := hb; simp only [m8 d8]; exact a5o) ?_
   refine e5u (p := (Value.pointer (some ⟨g2W, 0, none⟩))) rfl (Ld.g fun hb => by have d8 := hb; simp only [m8 d8]; exact (ld1 Tryd.isAgg3 (a4J.at1 (o := 0) (vs := [(vi ((((x0.i5)).d7).b9))]) (nb rfl) rfl))) ?_
   refine j8 (Pu.g fun hb => by have d8 := hb; simp only [m8 d8]; exact (i6 _ _ _ _ _ _)) ?_
   refine j8 (T4 _ _) ?_
   exact hR ((((x0.i5)).d7).d5) ((decide (((((x0.i5)).d7).b9) = 1)) || (decide (((((x0.i5)).d7).b9) = 2))) H _ a4J.drop h
  ·replace h := h.2 b5R
   refine a7 (c0X x0) ?_
   refine a7 (m4 _ _ (vB x0.a3E) rfl) ?_
   refine a7 (m4 _ _ _ rfl) ?_
   refine o8 (fun b5U => ?_) (fun b5U => ?_)
   ·replace h := h.1 b5U
    refine A8 I Tryd.zeroValue123 (cs := [(vi 0), (vi 0), (eS), (nS)]) rfl fun e9O a1N b9y g2X => ?_
    refine o0 b9y Tryd.sizeOf123 (vs := [(vi ((((x0.p5)).l0).b9)), (vi ((((x0.p5)).l0).I0)), (Value.string ((((x0.p5)).l0).d5)), (Value.slice ((((x0.p5)).l0).y9).a ((((x0.p5)).l0).y9).n ((((x0.p5)).l0).y9).c)]) (cs' := [(vi ((((x0.p5)).l0).b9)), (vi ((((x0.p5)).l0).I0)), (Value.string ((((x0.p5)).l0).d5)), (Value.slice ((((x0.p5)).l0).y9).a ((((x0.p5)).l0).y9).n ((((x0.p5)).l0).y9).c)]) rfl rfl (nb rfl) rfl rfl fun u1 a6P g2Y => ?_
    refine a0p a6P fun a3i a8g => ?_
    refine j8 U7 ?_
    refine j8 a3J ?_
    refine j8 U7 ?_
    refine j8 V3 ?_
    refine u0 (ld1 Tryd.isAgg9 (a8g.at1 (o := 2) (vs := [(Value.string ((((x0.p5)).l0).d5))]) (nb rfl) rfl)) ?_
    refine u0 (ld1 Tryd.isAgg3 (a8g.at1 (o := 0) (vs := [(vi ((((x0.p5)).l0).b9))]) (nb rfl) rfl)) ?_
    refine j8 (i6 _ _ _ _ _ _) ?_
    refine j8 (Pu.g fun hb => by have d8 := hb; exact U7) ?_
    refine j8 (Pu.g fun hb => by have d8 := hb; simp only [m8 d8]; exact V3) ?_
    refine e5u (p := (Value.pointer (some ⟨e9O, 0, none⟩))) rfl (Ld.g fun hb => by have d8 := hb; simp only [m8 d8]; exact (ld1 Tryd.isAgg3 (a8g.at1 (o := 0) (vs := [(vi ((((x0.p5)).l0).b9))]) (nb rfl) rfl))) ?_
    refine j8 (Pu.g fun hb => by have d8 := hb; simp only [m8 d8]; exact (i6 _ _ _ _ _ _)) ?_
    refine j8 (T4 _ _) ?_
    exact hR ((((x0.p5)).l0).d5) ((decide (((((x0.p5)).l0).b9) = 2)) || (decide (((((x0.p5)).l0).b9) = 4))) H _ a8g.drop h
   ·replace h := h.2 b5U
    exact hR ⟨#[]⟩ false H _ I h
theorem b3r (x0 : a8) {H : Hp} {K : ByteArray → Bool → Hp → Prop} (h : a1H x0 H K) : a0s x0 H K := by
 intro w I
 refine e0f ?_
 refine b2B x0 I (fun r0 r1 H' w' I' hk => ⟨H', _, I', r0, r1, rfl, rfl, hk⟩) h
def a2p (x0 : Int) (x1 : Int) (x2 : Int) (H : Hp) (K : Bool → Hp → Prop) : Prop :=
 K ((decide (x0 ≤ x2)) && (decide (x2 ≤ x1))) H
theorem a9V (x0 : Int) (x1 : Int) (x2 : Int) (g2 : Nat) {K : Bool → Hp → Prop} (I : Inv w0 ps0 H0 H [bx g2 21 [(Value.int .i32 x2)]] w) (hR : ∀ (r0 : Bool) (H' : Hp) (w' : World) (_ : Inv w0 ps0 H0 H' [bx g2 21 [(Value.int .i32 x2)]] w') (_ : K r0 H'), R (vB r0) w') (h : a2p x0 x1 x2 H K) : c7g (Value.int .i32 x0) (Value.int .i32 x1) (Value.pointer (some ⟨g2, 0, none⟩)) w R E := by
 unfold a2p at h
 unfold c7g
 refine b6 (ld1 Tryd.isAgg21 (I.at1 (o := 0) (vs := [(Value.int .i32 x2)]) (nb rfl) rfl)) ?_
 refine a7 (b2K _ _ _ _ _ _) ?_
 refine b6 (Ld.g fun hb => by have d8 := hb; exact (ld1 Tryd.isAgg21 (I.at1 (o := 0) (vs := [(Value.int .i32 x2)]) (nb rfl) rfl))) ?_
 simp only [G8]
 refine a7 (Pu.g fun hb => by have d8 := hb; simp only [m8 d8]; exact (b2K _ _ _ _ _ _)) ?_
 refine a7 (J9 _ _) ?_
 exact hR ((decide (x0 ≤ x2)) && (decide (x2 ≤ x1))) H _ I h
theorem b0q (x0 : Int) (x1 : Int) (x2 : Int) {H : Hp} {K : Bool → Hp → Prop} (h : a2p x0 x1 x2 H K) : E5 x0 x1 x2 H K := by
 intro g2 w I
 refine e0x ?_
 refine a9V x0 x1 x2 g2 I (fun r0 H' w' I' hk => ⟨H', _, I', r0, rfl, rfl, hk⟩) h
def a2G (H : Hp) (K : Bool → Hp → Prop) : Prop :=
 K true H
def L0 (b0r : ByteArray) (E6 : Nat) (H : Hp) (n2 : Nat → Hp → Prop) (K : Bool → Hp → Prop) : Prop :=
 (E6 < b0r.size →
 a3k ((Utf8.decode b0r E6).1 : Int) H (fun (b1r : Bool) (c2P : Hp) =>
 TG ((!(!b1r) && (decide (((E6 : Nat) : Int) = 0))) = true) (a1m ((Utf8.decode b0r E6).1 : Int) c2P) 0 c2P (fun (a7o : Int) (a4l : Hp) =>
 (((!b1r) || ((decide (((E6 : Nat) : Int) = 0)) && (!decide (a7o = 3)))) = true →
 K false a4l) ∧
 (((!b1r) || ((decide (((E6 : Nat) : Int) = 0)) && (!decide (a7o = 3)))) = false →
 n2 (E6 + (Utf8.decode b0r E6).2) a4l)))) ∧
 (¬ (E6 < b0r.size) →
 a2G H K)
def a1T (x0 : ByteArray) (H : Hp) (K : Bool → Hp → Prop) : Prop :=
 TG ((decide (x0 = ⟨#[]⟩)) = false) (a3b x0 H) false H (fun (C4 : Bool) (H_1 : Hp) =>
 TG (((decide (x0 = ⟨#[]⟩)) || (!C4)) = false) (a1Q x0 H_1) false H_1 (fun (C6 : Bool) (a3m : Hp) =>
 TG ((((decide (x0 = ⟨#[]⟩)) || (!C4)) || C6) = false) (a0G x0 a3m) false a3m (fun (W9 : Bool) (a0O : Hp) =>
 (((((decide (x0 = ⟨#[]⟩)) || (!C4)) || C6) || W9) = true →
 K false a0O) ∧
 (((((decide (x0 = ⟨#[]⟩)) || (!C4)) || C6) || W9) = false →
 TL (0 : Nat) a0O fun (s : Nat) H n2 => L0 x0 s H n2 K))))
theorem b3s (x0 : ByteArray) {K : Bool → Hp → Prop} (I : Inv w0 ps0 H0 H [] w) (hR : ∀ (r0 : Bool) (H' : Hp) (w' : World) (_ : Inv w0 ps0 H0 H' [] w') (_ : K r0 H'), R (vB r0) w') (h : a1T x0 H K) : c6Y (Value.string x0) w R E := by
 unfold a1T at h
 unfold c6Y
 refine a7 (a0F _ _ _ _ _) ?_
 simp only [G8]
 refine a6z (D := fun v_5 w_2 => ∃ (C4 : Bool) (H_1 : Hp) , v_5 = (gv (decide (x0 = ⟨#[]⟩)) false (vB C4)) ∧ (Inv w0 ps0 H0 H_1 [] w_2) ∧ (∀ i, i < w.heap.size → ¬ inF [] i → w_2.heap[i]? = w.heap[i]?) ∧ Hle H H_1 ∧ (TG (((decide (x0 = ⟨#[]⟩)) || (!C4)) = false) (a1Q x0 H_1) false H_1 (fun (C6 : Bool) (a3m : Hp) =>
 TG ((((decide (x0 = ⟨#[]⟩)) || (!C4)) || C6) = false) (a0G x0 a3m) false a3m (fun (W9 : Bool) (a0O : Hp) =>
 (((((decide (x0 = ⟨#[]⟩)) || (!C4)) || C6) || W9) = true →
 K false a0O) ∧
 (((((decide (x0 = ⟨#[]⟩)) || (!C4)) || C6) || W9) = false →
 TL (0 : Nat) a0O fun (s : Nat) H n2 => L0 x0 s H n2 K))))) (fun b7E => ?_) (fun b7E => ?_) ?_
 ·replace h := h.1 b7E
  have d8 := b7E
  simp only [m8 d8]
  refine d6 (cap := []) (fun args w => Tryd.call137 args w) ?_
  refine m6 (Fi := []) (Fr := []) I (h) (fun v_5 H_1 F_6 w_2 I_3 l_8 k_4 q_7 => ?_) (fun _ _ _ _ _ q => q.elim)
  obtain ⟨C4, rfl, rfl, h⟩ := q_7
  exact ⟨C4, H_1, by rfl, I_3, k_4, l_8, h⟩
 ·exact ⟨false, H, by rw [b0V b7E], I, fun _ _ _ => rfl, Hle.refl _, h.2 b7E⟩
 ·clear h
  rintro v_5 w_2 ⟨C4, H_1, rfl, I_3, k_4, l_8, h⟩
  refine a7 (Pu.g fun hb => by have d8 := hb; simp only [m8 d8]; exact (a0E _)) ?_
  refine a7 (T4 _ _) ?_
  simp only [G8]
  refine a6z (D := fun c7w a0I => ∃ (C6 : Bool) (a3m : Hp) , c7w = (gv ((decide (x0 = ⟨#[]⟩)) || (!C4)) false (vB C6)) ∧ (Inv w0 ps0 H0 a3m [] a0I) ∧ (∀ i, i < w_2.heap.size → ¬ inF [] i → a0I.heap[i]? = w_2.heap[i]?) ∧ Hle H_1 a3m ∧ (TG ((((decide (x0 = ⟨#[]⟩)) || (!C4)) || C6) = false) (a0G x0 a3m) false a3m (fun (W9 : Bool) (a0O : Hp) =>
 (((((decide (x0 = ⟨#[]⟩)) || (!C4)) || C6) || W9) = true →
 K false a0O) ∧
 (((((decide (x0 = ⟨#[]⟩)) || (!C4)) || C6) || W9) = false →
 TL (0 : Nat) a0O fun (s : Nat) H n2 => L0 x0 s H n2 K)))) (fun c2Q => ?_) (fun c2Q => ?_) ?_
  ·replace h := h.1 c2Q
   have d8 := c2Q
   simp only [m8 d8]
   refine d6 (cap := []) (fun args w => Tryd.call138 args w) ?_
   refine m6 (Fi := []) (Fr := []) I_3 (h) (fun c7w a3m g2Z a0I P1 b9z b5S d3v => ?_) (fun _ _ _ _ _ q => q.elim)
   obtain ⟨C6, rfl, rfl, h⟩ := d3v
   exact ⟨C6, a3m, by rfl, P1, b5S, b9z, h⟩
  ·exact ⟨false, H_1, by rw [b0V c2Q], I_3, fun _ _ _ => rfl, Hle.refl _, h.2 c2Q⟩
  ·clear h
   rintro c7w a0I ⟨C6, a3m, rfl, P1, b5S, b9z, h⟩
   refine a7 (T4 _ _) ?_
   simp only [G8]
   refine a6z (D := fun c7x q7 => ∃ (W9 : Bool) (a0O : Hp) , c7x = (gv (((decide (x0 = ⟨#[]⟩)) || (!C4)) || C6) false (vB W9)) ∧ (Inv w0 ps0 H0 a0O [] q7) ∧ (∀ i, i < a0I.heap.size → ¬ inF [] i → q7.heap[i]? = a0I.heap[i]?) ∧ Hle a3m a0O ∧ ((((((decide (x0 = ⟨#[]⟩)) || (!C4)) || C6) || W9) = true →
 K false a0O) ∧
 (((((decide (x0 = ⟨#[]⟩)) || (!C4)) || C6) || W9) = false →
 TL (0 : Nat) a0O fun (s : Nat) H n2 => L0 x0 s H n2 K))) (fun c2R => ?_) (fun c2R => ?_) ?_
   ·replace h := h.1 c2R
    have d8 := c2R
    simp only [m8 d8]
    refine d6 (cap := []) (fun args w => Tryd.call139 args w) ?_
    refine m6 (Fi := []) (Fr := []) P1 (h) (fun c7x a0O g3a q7 b1s d3w c7y d3x => ?_) (fun _ _ _ _ _ q => q.elim)
    obtain ⟨W9, rfl, rfl, h⟩ := d3x
    exact ⟨W9, a0O, by rfl, b1s, c7y, d3w, h⟩
   ·exact ⟨false, a3m, by rw [b0V c2R], P1, fun _ _ _ => rfl, Hle.refl _, h.2 c2R⟩
   ·clear h
    rintro c7x q7 ⟨W9, a0O, rfl, b1s, c7y, d3w, h⟩
    refine a7 (T4 _ _) ?_
    refine o8 (fun d3y => ?_) (fun d3y => ?_)
    ·replace h := h.1 d3y
     exact hR false a0O _ b1s h
    ·replace h := h.2 d3y
     have hj1 : ∀ (H : Hp) (w : World) (_ : Inv w0 ps0 H0 H [] w) (_ : a2G H K), b9e w R E := by
      intro H w I h
      unfold b9e
      intro _
      unfold a2G at h
      exact hR true H _ I h
     refine A6 fun j1 hx1 => ?_
     refine c5S Tryd.underlying9 x0 b1s fun c7z D3 b5V e9P => ?_
     obtain ⟨d3z, c2S, g3b, g3c⟩ := h
     refine M6 (J := fun n l w => ∃ (s : Nat) (H : Hp) , n = c2S s ∧ l = [] ∧ Inv w0 ps0 H0 H [itf c7z x0 s] w ∧ d3z s H) ⟨_, 0, a0O, rfl, rfl, b5V, g3b⟩ ?_
     rintro g7x τ_94 w next2 ⟨E6, H, rfl, g3d, I, g3e⟩ hn2
     clear g3d
     obtain ⟨n2, hm2, h⟩ : ∃ n2 : Nat → Hp → Prop, (∀ s' H', n2 s' H' → d3z s' H' ∧ c2S s' < c2S E6) ∧ L0 x0 E6 H n2 K := ⟨_, fun _ _ h => h, g3c E6 H (fun s' H' => d3z s' H' ∧ c2S s' < c2S E6) g3e (fun _ _ a b => ⟨a, b⟩)⟩
     unfold c5Z
     unfold L0 at h
     refine d0l I (fun a8h b5W g3f g7y => ?_) (fun a8h => ?_)
     ·replace h := h.1 a8h
      refine a7 (m4 _ _ (vB true) rfl) ?_
      refine o8 (fun e => ?_) (fun e => by cases e)
      refine a7 (m4 _ _ (vi ((E6 : Nat) : Int)) rfl) ?_
      refine a7 (m4 _ _ (Value.int .i32 ((Utf8.decode x0 E6).1 : Int)) rfl) ?_
      refine d6 (cap := []) (fun args w => Tryd.call140 args w) ?_
      refine m6 (Fi := []) (Fr := [itf c7z x0 (E6 + (Utf8.decode x0 E6).2)]) g3f (h) (fun d3A c2P g7z L4 c2T g7A g3g g3h => ?_) (fun _ _ _ _ _ q => q.elim)
      obtain ⟨b1r, rfl, rfl, h⟩ := g3h
      refine a7 (a0E _) ?_
      simp only [G8]
      refine a7 (Pu.g fun hb => by have d8 := hb; simp only [m8 d8]; exact (i6 _ _ _ _ _ _)) ?_
      simp only [d8C, e5B]
      refine a9r (a7y _ _ _) ?_
      refine a6z (D := fun c7A b1t => ∃ (a7o : Int) (a4l : Hp) , c7A = (gv (!(!b1r) && (decide (((E6 : Nat) : Int) = 0))) true (vi a7o)) ∧ (Inv w0 ps0 H0 a4l [itf c7z x0 (E6 + (Utf8.decode x0 E6).2)] b1t) ∧ (∀ i, i < L4.heap.size → ¬ inF [] i → b1t.heap[i]? = L4.heap[i]?) ∧ Hle c2P a4l ∧ ((((!b1r) || ((decide (((E6 : Nat) : Int) = 0)) && (!decide (a7o = 3)))) = true →
 K false a4l) ∧
 (((!b1r) || ((decide (((E6 : Nat) : Int) = 0)) && (!decide (a7o = 3)))) = false →
 n2 (E6 + (Utf8.decode x0 E6).2) a4l))) (fun b9A => ?_) (fun b9A => ?_) ?_
      ·replace h := h.1 b9A
       obtain ⟨d8, c2U⟩ := b4s b9A
       simp only [m8 b9A]
       refine d6 (cap := []) (fun args w => Tryd.call141 args w) ?_
       refine m6 (Fi := []) (Fr := [itf c7z x0 (E6 + (Utf8.decode x0 E6).2)]) c2T (h) (fun c7A a4l g3i b1t b9B d3B d3C d3D => ?_) (fun _ _ _ _ _ q => q.elim)
       obtain ⟨a7o, rfl, rfl, h⟩ := d3D
       exact ⟨a7o, a4l, by rfl, b9B, d3C, d3B, h⟩
      ·exact ⟨0, c2P, by rw [b0V b9A], c2T, fun _ _ _ => rfl, Hle.refl _, h.2 b9A⟩
      ·clear h
       rintro c7A b1t ⟨a7o, a4l, rfl, b9B, d3C, d3B, h⟩
       refine a7 (Pu.e (a7y _ _ _) (Pu.g fun hb => by obtain ⟨d8, c2U⟩ := b4s hb; simp only [m8 hb]; exact (Y0 _ _ _ _ _ _))) ?_
       refine a7 (Pu.g fun hb => by have d8 := hb; simp only [m8 d8, d0j d8]; exact (J9 _ _)) ?_
       refine a7 (T4 _ _) ?_
       refine o8 (fun a8i => ?_) (fun a8i => ?_)
       ·replace h := h.1 a8i
        exact hR false a4l _ b9B.drop h
       ·replace h := h.2 a8i
        exact hn2 _ _ _ (hm2 _ _ h).2 ⟨(E6 + (Utf8.decode x0 E6).2), a4l, rfl, rfl, b9B, (hm2 _ _ h).1⟩
     ·replace h := h.2 a8h
      refine a7 (m4 _ _ (vB false) rfl) ?_
      refine o8 (fun e => by cases e) (fun e => ?_)
      exact hx1 _ _ (hj1 H _ I.drop h)
theorem b5l (x0 : ByteArray) {H : Hp} {K : Bool → Hp → Prop} (h : a1T x0 H K) : a1R x0 H K := by
 intro w I
 refine e0h ?_
 refine b3s x0 I (fun r0 H' w' I' hk => ⟨H', _, I', r0, rfl, rfl, hk⟩) h
def G1 (a5V : Int) (a5W : Int) (a5X : Int) (a5Y : Bool) (a5Z : Bool) (a6F : (List ByteArray)) (H : Hp) (K : g7 → Hp → Prop) : Prop :=
 ∀ (a0X : Sl) (b9C : Hp), Hle H b9C → SlH b9C 1 C1 a0X a6F → a0X.n ≤ a0X.c →
 K (g7.mk a5V a5W a5X a5Y a5Z a0X) b9C
def a0P (x0 : Sl) (H : Hp) (K : g7 → Hp → Prop) : Prop :=
 T1 x0 1 (g7.mk 0 0 0 false false (Sl.mk none 0 0)) [] H (fun (c7B : Bool) (B0 : g7) (a3S : (List ByteArray)) (b1u : Hp) =>
 ((!c7B) = true →
 G1 ((B0).fnodes) ((B0).fdepth) ((B0).fe) ((B0).fform) ((B0).fnamed) a3S b1u K) ∧
 ((!c7B) = false →
 (((B0).fform) = true →
 G1 ((B0).fnodes) ((B0).fdepth) 30 ((B0).fform) ((B0).fnamed) a3S b1u K) ∧
 (((B0).fform) = false →
 (((B0).fnamed) = true →
 G1 ((B0).fnodes) ((B0).fdepth) 31 ((B0).fform) ((B0).fnamed) a3S b1u K) ∧
 (((B0).fnamed) = false →
 G1 ((B0).fnodes) ((B0).fdepth) ((B0).fe) ((B0).fform) ((B0).fnamed) a3S b1u K))))
theorem b0s (x0 : Sl) {K : g7 → Hp → Prop} (I : Inv w0 ps0 H0 H [] w) (hR : ∀ (r0 : g7) (gr0 : Nat) (H' : Hp) (w' : World) (_ : Inv w0 ps0 H0 H' [bx gr0 106 (a3M r0)] w') (_ : K r0 H'), R (Value.pointer (some ⟨gr0, 0, none⟩)) w') (h : a0P x0 H K) : F60 (vs x0) w R E := by
 unfold a0P at h
 unfold F60
 refine a7 (c6T ) ?_
 refine P2 I (cs := [(vi 0), (vi 0), (vi 0), (vB false), (vB false), (nS)]) rfl fun g_2 w_3 I_4 k_5 => ?_
 refine A8 I_4 Tryd.zeroValue102 (cs := [(Value.pointer none)]) rfl fun g_7 w_8 I_9 d3E => ?_
 refine o0 I_9 Tryd.sizeOf102 (vs := [(Value.pointer (some ⟨g_2, 0, none⟩))]) (cs' := [(Value.pointer (some ⟨g_2, 0, none⟩))]) rfl rfl (nb rfl) rfl rfl fun a0I P1 b5S => ?_
 refine A8 P1 Tryd.zeroValue161 (cs := [Value.nilFunc]) rfl fun b1v p7 b9D g3j => ?_
 refine a7 (a9K _ _ _) ?_
 refine o0 b9D Tryd.sizeOf161 (vs := [(Value.func (.func 99) #[] #[(Value.pointer (some ⟨g_7, 0, none⟩)), (Value.pointer (some ⟨b1v, 0, none⟩))])]) (cs' := [(Value.func (.func 99) #[] #[(Value.pointer (some ⟨g_7, 0, none⟩)), (Value.pointer (some ⟨b1v, 0, none⟩))])]) rfl rfl (nb rfl) rfl rfl fun a3s c7C g3k => ?_
 have hj1 : ∀ (a5V : Int) (a5W : Int) (a5X : Int) (a5Y : Bool) (a5Z : Bool) (a6F : (List ByteArray)) (a0X : Sl) (Fcr_1j1_5 : Frag) (H : Hp) (w : World) (_ : RowL 9 1 C1 a0X a6F Fcr_1j1_5) (_ : Inv w0 ps0 H0 H [bx g_7 102 [(Value.pointer (some ⟨g_2, 0, none⟩))], bx g_2 106 [(vi a5V), (vi a5W), (vi a5X), (vB a5Y), (vB a5Z), (vs a0X)], bx b1v 161 [(Value.func (.func 99) #[] #[(Value.pointer (some ⟨g_7, 0, none⟩)), (Value.pointer (some ⟨b1v, 0, none⟩))])], Fcr_1j1_5] w) (_ : G1 a5V a5W a5X a5Y a5Z a6F H K), c1Q (Value.pointer (some ⟨g_7, 0, none⟩)) w R E := by
  intro a5V a5W a5X a5Y a5Z a6F a0X Fcr_1j1_5 H w d1m I h
  unfold c1Q
  intro _
  unfold G1 at h
  refine b6 (ld1 Tryd.isAgg102 (I.at1 (o := 0) (vs := [(Value.pointer (some ⟨g_2, 0, none⟩))]) (nb rfl) rfl)) ?_
  obtain ⟨b9C, c2V, g3l, b1w, c2W⟩ := Inv.freezeC (I.bring 3) d1m (by decide)
  replace h := h a0X b9C g3l b1w c2W
  exact hR (g7.mk a5V a5W a5X a5Y a5Z a0X) g_2 b9C _ (c2V.drop.bring 1).drop h
 refine A6 fun j1 hx1 => ?_
 refine b6 (ld1 Tryd.isAgg161 (c7C.at1 (o := 0) (vs := [(Value.func (.func 99) #[] #[(Value.pointer (some ⟨g_7, 0, none⟩)), (Value.pointer (some ⟨b1v, 0, none⟩))])]) (nb rfl) rfl)) ?_
 refine d6 (cap := [(Value.pointer (some ⟨g_7, 0, none⟩)), (Value.pointer (some ⟨b1v, 0, none⟩))]) (fun args w => Tryd.call99 args w) ?_
 refine m6 (Fi := [bx g_7 102 [(Value.pointer (some ⟨g_2, 0, none⟩))], bx g_2 106 [(vi 0), (vi 0), (vi 0), (vB false), (vB false), (Value.slice (Sl.mk none 0 0).a (Sl.mk none 0 0).n (Sl.mk none 0 0).c)], [], bx b1v 161 [(Value.func (.func 99) #[] #[(Value.pointer (some ⟨g_7, 0, none⟩)), (Value.pointer (some ⟨b1v, 0, none⟩))])]]) (Fr := []) ((((c7C.nil.bring 1).bring 1).bring 3).bring 3) (h g_7 g_2 b1v (Sl.mk none 0 0) ([]) (RowL.nil (e := 9) b5C b5D)) (fun g7B b1u e9Q u1 a6P g7C g2Y g3m => ?_) (fun _ _ _ _ _ q => q.elim)
 obtain ⟨c7B, B0, a3S, a6a, b1x, rfl, rfl, b1y, h⟩ := g3m
 refine a7 (a0E _) ?_
 refine o8 (fun d3F => ?_) (fun d3F => ?_)
 ·replace h := h.1 d3F
  exact hx1 _ _ (hj1 ((B0).fnodes) ((B0).fdepth) ((B0).fe) ((B0).fform) ((B0).fnamed) a3S a6a b1x b1u _ b1y ((((a6P.bring 2).bring 3).bring 3).bring 3) h)
 ·replace h := h.2 d3F
  refine b6 (ld1 Tryd.isAgg102 (a6P.at1 (o := 0) (vs := [(Value.pointer (some ⟨g_2, 0, none⟩))]) (nb rfl) rfl)) ?_
  refine a7 (o9 _) ?_
  refine a7 a9N ?_
  refine b6 (ld1 Tryd.isAgg4 ((a6P.bring 1).at1 (o := 3) (vs := [(vB ((B0).fform))]) (nb rfl) rfl)) ?_
  refine o8 (fun a2H => ?_) (fun a2H => ?_)
  ·replace h := h.1 a2H
   refine b6 (ld1 Tryd.isAgg102 (a6P.at1 (o := 0) (vs := [(Value.pointer (some ⟨g_2, 0, none⟩))]) (nb rfl) rfl)) ?_
   refine a7 (o9 _) ?_
   refine a7 a4o ?_
   refine o0 (a6P.bring 1) Tryd.sizeOf29 (vs := [(vi 30)]) (cs' := [(vi ((B0).fnodes)), (vi ((B0).fdepth)), (vi 30), (vB ((B0).fform)), (vB ((B0).fnamed)), (vs a6a)]) rfl rfl (nb rfl) rfl rfl fun d3G g3n g7D => ?_
   exact hx1 _ _ (hj1 ((B0).fnodes) ((B0).fdepth) 30 ((B0).fform) ((B0).fnamed) a3S a6a b1x b1u _ b1y ((((g3n.bring 2).bring 3).bring 2).bring 3) h)
  ·replace h := h.2 a2H
   refine b6 (ld1 Tryd.isAgg102 (a6P.at1 (o := 0) (vs := [(Value.pointer (some ⟨g_2, 0, none⟩))]) (nb rfl) rfl)) ?_
   refine a7 (o9 _) ?_
   refine a7 a9O ?_
   refine b6 (ld1 Tryd.isAgg4 ((a6P.bring 1).at1 (o := 4) (vs := [(vB ((B0).fnamed))]) (nb rfl) rfl)) ?_
   refine o8 (fun d3H => ?_) (fun d3H => ?_)
   ·replace h := h.1 d3H
    refine b6 (ld1 Tryd.isAgg102 (a6P.at1 (o := 0) (vs := [(Value.pointer (some ⟨g_2, 0, none⟩))]) (nb rfl) rfl)) ?_
    refine a7 (o9 _) ?_
    refine a7 a4o ?_
    refine o0 (a6P.bring 1) Tryd.sizeOf29 (vs := [(vi 31)]) (cs' := [(vi ((B0).fnodes)), (vi ((B0).fdepth)), (vi 31), (vB ((B0).fform)), (vB ((B0).fnamed)), (vs a6a)]) rfl rfl (nb rfl) rfl rfl fun D5 c7D g3o => ?_
    exact hx1 _ _ (hj1 ((B0).fnodes) ((B0).fdepth) 31 ((B0).fform) ((B0).fnamed) a3S a6a b1x b1u _ b1y ((((c7D.bring 2).bring 3).bring 2).bring 3) h)
   ·replace h := h.2 d3H
    exact hx1 _ _ (hj1 ((B0).fnodes) ((B0).fdepth) ((B0).fe) ((B0).fform) ((B0).fnamed) a3S a6a b1x b1u _ b1y ((((a6P.bring 2).bring 3).bring 3).bring 3) h)
theorem b1z (x0 : Sl) {H : Hp} {K : g7 → Hp → Prop} (h : a0P x0 H K) : a2E x0 H K := by
 intro w I
 refine e6c ?_
 refine b0s x0 I (fun r0 gr0 H' w' I' hk => ⟨H', _, I', r0, gr0, rfl, rfl, hk⟩) h
def u7 (V7 : (List a8)) (H : Hp) (K : Sl → Hp → Prop) : Prop :=
 ∀ (E0 : Sl) (Y8 : Hp), Hle H Y8 → SlH Y8 1 o2 E0 V7 → E0.n ≤ E0.c →
 K E0 Y8
def u9 (a0z : Sl) (Y9 : Int) (s6 : (List a8)) (p9 : Int) (H : Hp) (n2 : ((List a8) × Int) → Hp → Prop) (K : Sl → Hp → Prop) : Prop :=
 (p9 < Y9 →
 (0 : Int) ≤ p9 ∧ (p9 : Int) < a0z.n ∧ ∃ x_1 : j7, EltH H a0z p9 2 (m3 x_1) ∧
 a5E x_1 H (fun (P5 : a8) (Z0 : Hp) =>
 (s6.length + ([P5] : List a8).length) * 17 ≤ 140737488355328 ∧
 n2 ((s6 ++ [P5]), (IntKind.wrap .i64 (p9 + 1))) Z0)) ∧
 (¬ (p9 < Y9) →
 u7 s6 H K)
def z8 (x0 : Sl) (H : Hp) (K : Sl → Hp → Prop) : Prop :=
 TL (([], 0) : (List a8) × Int) H fun (s : (List a8) × Int) H n2 => u9 x0 (x0.n : Int) s.1 s.2 H n2 K
theorem Y2 (x0 : Sl) {K : Sl → Hp → Prop} (I : Inv w0 ps0 H0 H [] w) (hR : ∀ (r0 : Sl) (H' : Hp) (w' : World) (_ : Inv w0 ps0 H0 H' [] w') (_ : K r0 H'), R (vs r0) w') (h : z8 x0 H K) : F88 (vs x0) (fC 89) w R E := by
 unfold z8 at h
 unfold F88
 have hj1 : ∀ (V7 : (List a8)) (E0 : Sl) (Fs5j1 : Frag) (H : Hp) (w : World) (_ : RowL 152 1 o2 E0 V7 Fs5j1) (_ : Inv w0 ps0 H0 H [Fs5j1] w) (_ : u7 V7 H K), c1X (vs E0) w R E := by
  intro V7 E0 Fs5j1 H w b1A I h
  unfold c1X
  intro _
  unfold u7 at h
  obtain ⟨Y8, a4K, b3t, a8j, a9W⟩ := Inv.freezeC I b1A (by decide)
  replace h := h E0 Y8 b3t a8j a9W
  exact hR E0 Y8 _ a4K h
 refine A6 fun j1 hx1 => ?_
 refine a7 (a9s _ _ _) ?_
 obtain ⟨a4L, a1j, b5X, b5Y⟩ := h
 refine M6 (J := fun n l w => ∃ (s : (List a8) × Int) (H : Hp) (V8 : Sl) (Fs5l2 : Frag) , n = a1j s ∧ l = (match s with | (s6, p9) => [(vs V8), (vi p9)]) ∧ (match s with | (s6, p9) => RowL 152 1 o2 V8 s6 Fs5l2) ∧ (match s with | (s6, p9) => Inv w0 ps0 H0 H [Fs5l2] w) ∧ a4L s H) ⟨_, ([], 0), H, (Sl.mk none 0 0), [], rfl, rfl, (RowL.nil M7 O9), I.nil, b5X⟩ ?_
 rintro d3I τ_50 w next2 ⟨⟨s6, p9⟩, H, V8, Fs5l2, rfl, a4M, a2I, I, a5I⟩ hn2
 dsimp only at a4M I a2I
 simp only [List.map_cons, List.map_nil, List.cons.injEq, and_true] at a4M
 obtain ⟨e5, e10⟩ := a4M
 simp only [e5, e10]
 obtain ⟨n2, hm2, h⟩ : ∃ n2 : ((List a8) × Int) → Hp → Prop, (∀ s' H', n2 s' H' → a4L s' H' ∧ a1j s' < a1j (s6, p9)) ∧ u9 x0 (x0.n : Int) s6 p9 H n2 K := ⟨_, fun _ _ h => h, b5Y (s6, p9) H (fun s' H' => a4L s' H' ∧ a1j s' < a1j (s6, p9)) a5I (fun _ _ a b => ⟨a, b⟩)⟩
 unfold d0v
 unfold u9 at h
 refine a7 (B7 _ _ _ _ _ _) ?_
 refine i2 (fun a2H => ?_) (fun a2H => ?_)
 ·replace h := h.1 a2H
  obtain ⟨h_4, h_5, x_1, h_7, h⟩ := h
  obtain ⟨g_2, o_3, h_6, h_7⟩ := h_7
  refine a7 (b1d h_6 _ _ _ _ h_4 h_5) ?_
  refine b6 (ldA (vs := (m3 x_1)) Tryd.isAgg58 Tryd.sizeOf58 rfl (I.atH h_7)) ?_
  refine A8 I Tryd.zeroValue58 (cs := [(eS), (vi 0)]) rfl fun g_9 m7 a3x b5Z => ?_
  refine o0 a3x Tryd.sizeOf58 (vs := (m3 x_1)) (cs' := (m3 x_1)) rfl rfl (nb rfl) rfl rfl fun a0w T2 a2q => ?_
  refine b6 (ldA Tryd.isAgg58 Tryd.sizeOf58 rfl (T2.at1 (o := 0) (vs := (m3 x_1)) (nb rfl) rfl)) ?_
  refine d6 (cap := []) (fun args w => Tryd.call89 args w) ?_
  refine m6 (Fi := []) (Fr := [bx g_9 58 (m3 x_1), Fs5l2]) T2 (h) (fun c7E Z0 c7F a2k a4J b9E c7G b1B => ?_) (fun _ _ _ _ _ q => q.elim)
  obtain ⟨P5, rfl, rfl, h⟩ := b1B
  refine W7 (e := 152) (c := o2) (xs := [P5]) a4J (b1c _) rfl rfl M7 O9 (nb rfl) fun c2X b9F C0 a8k a6b c7H => ?_
  obtain ⟨b1C, h⟩ := h
  refine b0n (s := V8) (xs := s6) (a6b.bring 2) a2I (a8k.srcO ((a6b.bring 2).bring 1)) b1C fun b6a b6b C3 b1w a6Q c7I => ?_
  refine a7 (G6 _ _ _ _ _ _) ?_
  exact hn2 _ _ _ (hm2 _ _ h).2 ⟨((s6 ++ [P5]), (IntKind.wrap .i64 (p9 + 1))), Z0, b6a, b6b, rfl, rfl, b1w, ((a6Q.bring 1).drop.bring 1).drop, (hm2 _ _ h).1⟩
 ·replace h := h.2 a2H
  exact hx1 _ _ (hj1 s6 V8 Fs5l2 H _ a2I I h)
theorem Z1 (x0 : Sl) {H : Hp} {K : Sl → Hp → Prop} (h : z8 x0 H K) : D6 x0 H K := by
 intro w I
 refine e6m ?_
 refine Y2 x0 I (fun r0 H' w' I' hk => ⟨H', _, I', r0, rfl, rfl, hk⟩) h
def v6 (V7 : (List a8)) (H : Hp) (K : Sl → Hp → Prop) : Prop :=
 ∀ (E0 : Sl) (Y8 : Hp), Hle H Y8 → SlH Y8 1 o2 E0 V7 → E0.n ≤ E0.c →
 K E0 Y8
def v7 (a0z : Sl) (Y9 : Int) (s6 : (List a8)) (p9 : Int) (H : Hp) (n2 : ((List a8) × Int) → Hp → Prop) (K : Sl → Hp → Prop) : Prop :=
 (p9 < Y9 →
 (0 : Int) ≤ p9 ∧ (p9 : Int) < a0z.n ∧ ∃ x_1 : m9, EltH H a0z p9 6 (f8 x_1) ∧
 a5F x_1 H (fun (P5 : a8) (Z0 : Hp) =>
 (s6.length + ([P5] : List a8).length) * 17 ≤ 140737488355328 ∧
 n2 ((s6 ++ [P5]), (IntKind.wrap .i64 (p9 + 1))) Z0)) ∧
 (¬ (p9 < Y9) →
 v6 s6 H K)
def A0 (x0 : Sl) (H : Hp) (K : Sl → Hp → Prop) : Prop :=
 TL (([], 0) : (List a8) × Int) H fun (s : (List a8) × Int) H n2 => v7 x0 (x0.n : Int) s.1 s.2 H n2 K
theorem Y3 (x0 : Sl) {K : Sl → Hp → Prop} (I : Inv w0 ps0 H0 H [] w) (hR : ∀ (r0 : Sl) (H' : Hp) (w' : World) (_ : Inv w0 ps0 H0 H' [] w') (_ : K r0 H'), R (vs r0) w') (h : A0 x0 H K) : F90 (vs x0) (fC 91) w R E := by
 unfold A0 at h
 unfold F90
 have hj1 : ∀ (V7 : (List a8)) (E0 : Sl) (Fs5j1 : Frag) (H : Hp) (w : World) (_ : RowL 152 1 o2 E0 V7 Fs5j1) (_ : Inv w0 ps0 H0 H [Fs5j1] w) (_ : v6 V7 H K), c1Y (vs E0) w R E := by
  intro V7 E0 Fs5j1 H w b1A I h
  unfold c1Y
  intro _
  unfold v6 at h
  obtain ⟨Y8, a4K, b3t, a8j, a9W⟩ := Inv.freezeC I b1A (by decide)
  replace h := h E0 Y8 b3t a8j a9W
  exact hR E0 Y8 _ a4K h
 refine A6 fun j1 hx1 => ?_
 refine a7 (a5c _ _ _) ?_
 obtain ⟨a4L, a1j, b5X, b5Y⟩ := h
 refine M6 (J := fun n l w => ∃ (s : (List a8) × Int) (H : Hp) (V8 : Sl) (Fs5l2 : Frag) , n = a1j s ∧ l = (match s with | (s6, p9) => [(vs V8), (vi p9)]) ∧ (match s with | (s6, p9) => RowL 152 1 o2 V8 s6 Fs5l2) ∧ (match s with | (s6, p9) => Inv w0 ps0 H0 H [Fs5l2] w) ∧ a4L s H) ⟨_, ([], 0), H, (Sl.mk none 0 0), [], rfl, rfl, (RowL.nil M7 O9), I.nil, b5X⟩ ?_
 rintro d3I τ_50 w next2 ⟨⟨s6, p9⟩, H, V8, Fs5l2, rfl, a4M, a2I, I, a5I⟩ hn2
 dsimp only at a4M I a2I
 simp only [List.map_cons, List.map_nil, List.cons.injEq, and_true] at a4M
 obtain ⟨e5, e10⟩ := a4M
 simp only [e5, e10]
 obtain ⟨n2, hm2, h⟩ : ∃ n2 : ((List a8) × Int) → Hp → Prop, (∀ s' H', n2 s' H' → a4L s' H' ∧ a1j s' < a1j (s6, p9)) ∧ v7 x0 (x0.n : Int) s6 p9 H n2 K := ⟨_, fun _ _ h => h, b5Y (s6, p9) H (fun s' H' => a4L s' H' ∧ a1j s' < a1j (s6, p9)) a5I (fun _ _ a b => ⟨a, b⟩)⟩
 unfold d0w
 unfold v7 at h
 refine a7 (B7 _ _ _ _ _ _) ?_
 refine i2 (fun a2H => ?_) (fun a2H => ?_)
 ·replace h := h.1 a2H
  obtain ⟨h_4, h_5, x_1, h_7, h⟩ := h
  obtain ⟨g_2, o_3, h_6, h_7⟩ := h_7
  refine a7 (b5O h_6 _ _ _ _ h_4 h_5) ?_
  refine b6 (ldA (vs := (f8 x_1)) Tryd.isAgg63 Tryd.sizeOf63 rfl (I.atH h_7)) ?_
  refine A8 I Tryd.zeroValue63 (cs := [(vi 0), (eS), (nS), (nS), (nS), (nS)]) rfl fun g_9 m7 a3x b5Z => ?_
  refine o0 a3x Tryd.sizeOf63 (vs := (f8 x_1)) (cs' := (f8 x_1)) rfl rfl (nb rfl) rfl rfl fun a0w T2 a2q => ?_
  refine b6 (ldA Tryd.isAgg63 Tryd.sizeOf63 rfl (T2.at1 (o := 0) (vs := (f8 x_1)) (nb rfl) rfl)) ?_
  refine d6 (cap := []) (fun args w => Tryd.call91 args w) ?_
  refine m6 (Fi := []) (Fr := [bx g_9 63 (f8 x_1), Fs5l2]) T2 (h) (fun c7E Z0 c7F a2k a4J b9E c7G b1B => ?_) (fun _ _ _ _ _ q => q.elim)
  obtain ⟨P5, rfl, rfl, h⟩ := b1B
  refine W7 (e := 152) (c := o2) (xs := [P5]) a4J (b1c _) rfl rfl M7 O9 (nb rfl) fun c2X b9F C0 a8k a6b c7H => ?_
  obtain ⟨b1C, h⟩ := h
  refine b0n (s := V8) (xs := s6) (a6b.bring 2) a2I (a8k.srcO ((a6b.bring 2).bring 1)) b1C fun b6a b6b C3 b1w a6Q c7I => ?_
  refine a7 (G6 _ _ _ _ _ _) ?_
  exact hn2 _ _ _ (hm2 _ _ h).2 ⟨((s6 ++ [P5]), (IntKind.wrap .i64 (p9 + 1))), Z0, b6a, b6b, rfl, rfl, b1w, ((a6Q.bring 1).drop.bring 1).drop, (hm2 _ _ h).1⟩
 ·replace h := h.2 a2H
  exact hx1 _ _ (hj1 s6 V8 Fs5l2 H _ a2I I h)
theorem Z2 (x0 : Sl) {H : Hp} {K : Sl → Hp → Prop} (h : A0 x0 H K) : r5 x0 H K := by
 intro w I
 refine e6q ?_
 refine Y3 x0 I (fun r0 H' w' I' hk => ⟨H', _, I', r0, rfl, rfl, hk⟩) h
def a0Q (x0 : i4) (H : Hp) (K : a8 → Hp → Prop) : Prop :=
 K (a8.C2 (D9.mk x0)) H
theorem b0t (x0 : i4) {K : a8 → Hp → Prop} (I : Inv w0 ps0 H0 H [] w) (hR : ∀ (r0 : a8) (H' : Hp) (w' : World) (_ : Inv w0 ps0 H0 H' [] w') (_ : K r0 H'), R (t8 r0) w') (h : a0Q x0 H K) : c7l (Value.agg (b8 x0).toArray) w R E := by
 unfold a0Q at h
 unfold c7l
 refine P2 I (cs := (b8 x0)) rfl fun g_2 w_3 I_4 k_5 => ?_
 refine b6 (ldA Tryd.isAgg24 Tryd.sizeOf24 rfl (I_4.at1 (o := 0) (vs := (b8 x0)) (nb rfl) rfl)) ?_
 refine a7 (c1L _ _ _ _ _ _) ?_
 refine a7 (b0m (D9.mk x0)) ?_
 exact hR (a8.C2 (D9.mk x0)) H _ I_4.drop h
theorem b1D (x0 : i4) {H : Hp} {K : a8 → Hp → Prop} (h : a0Q x0 H K) : a5G x0 H K := by
 intro w I
 refine e0G ?_
 refine b0t x0 I (fun r0 H' w' I' hk => ⟨H', _, I', r0, rfl, rfl, hk⟩) h
def a0R (x0 : u5) (H : Hp) (K : a8 → Hp → Prop) : Prop :=
 K (a8.G7 (K7.mk x0)) H
theorem b0u (x0 : u5) {K : a8 → Hp → Prop} (I : Inv w0 ps0 H0 H [] w) (hR : ∀ (r0 : a8) (H' : Hp) (w' : World) (_ : Inv w0 ps0 H0 H' [] w') (_ : K r0 H'), R (t8 r0) w') (h : a0R x0 H K) : c7q (Value.agg (i7 x0).toArray) w R E := by
 unfold a0R at h
 unfold c7q
 refine P2 I (cs := (i7 x0)) rfl fun g_2 w_3 I_4 k_5 => ?_
 refine b6 (ldA Tryd.isAgg27 Tryd.sizeOf27 rfl (I_4.at1 (o := 0) (vs := (i7 x0)) (nb rfl) rfl)) ?_
 refine a7 (c1M _ _ _ _ _ _ _ _) ?_
 refine a7 (b8U (K7.mk x0)) ?_
 exact hR (a8.G7 (K7.mk x0)) H _ I_4.drop h
theorem b1E (x0 : u5) {H : Hp} {K : a8 → Hp → Prop} (h : a0R x0 H K) : a5H x0 H K := by
 intro w I
 refine e0P ?_
 refine b0u x0 I (fun r0 H' w' I' hk => ⟨H', _, I', r0, rfl, rfl, hk⟩) h
def V9 (x0 : K7) (H : Hp) (K : Sl → Hp → Prop) : Prop :=
 r6 x0.j9.i8 H (fun (a5J : Sl) (H_8 : Hp) =>
 z7 x0.j9.t6 H_8 (fun (a2J : Sl) (a8l : Hp) =>
 ∀ (a6c : Sl) (a8m : Hp), Hle a8l a8m → SlH a8m 1 csl a6c [a5J, a2J] → a6c.n ≤ a6c.c →
 y8 a6c a8m (fun (b4F : Sl) (b9G : Hp) =>
 K b4F b9G)))
theorem a7p (x0 : K7) {K : Sl → Hp → Prop} (I : Inv w0 ps0 H0 H [] w) (hR : ∀ (r0 : Sl) (H' : Hp) (w' : World) (_ : Inv w0 ps0 H0 H' [] w') (_ : K r0 H'), R (vs r0) w') (h : V9 x0 H K) : c7o (Value.agg (i7 x0.j9).toArray) w R E := by
 unfold V9 at h
 unfold c7o
 refine P2 I (cs := (i7 x0.j9)) rfl fun g_2 w_3 I_4 k_5 => ?_
 refine a0p I_4 fun w_6 I_7 => ?_
 refine j8 a0j ?_
 refine j8 a5m ?_
 refine j8 a0j ?_
 refine j8 a1B ?_
 refine u0 (ld1 Tryd.isAgg22 (I_7.at1 (o := 2) (vs := [(vs x0.j9.i8)]) (nb rfl) rfl)) ?_
 refine u0 (ld1 Tryd.isAgg25 (I_7.at1 (o := 3) (vs := [(vs x0.j9.t6)]) (nb rfl) rfl)) ?_
 refine d6 (cap := []) (fun args w => Tryd.call171 args w) ?_
 refine m6 (Fi := []) (Fr := [bx g_2 138 (i7 x0.j9)]) I_7 (h) (fun e9R H_8 d3J w_9 b1F e9S b6c c2Y => ?_) (fun _ _ _ _ _ q => q.elim)
 obtain ⟨a5J, rfl, rfl, h⟩ := c2Y
 refine ⟨(b6c _ I_7.lt1 (Inv.a5k (Fi := []) I_7)), ?_⟩
 refine d6 (cap := []) (fun args w => Tryd.call175 args w) ?_
 refine m6 (Fi := []) (Fr := [bx g_2 138 (i7 x0.j9)]) b1F (h) (fun d3K a8l d3L p8 a4m d3M b3u b6d => ?_) (fun _ _ _ _ _ q => q.elim)
 obtain ⟨a2J, rfl, rfl, h⟩ := b6d
 refine W7 (e := 124) (c := csl) (xs := [a5J, a2J]) a4m (c1N _ _ _ _ _ _) rfl rfl b4u b4v (nb rfl) fun a6c e9Q d3N d3O b5V e9P => ?_
 obtain ⟨a8m, d3P, c2q, c2W, d3Q⟩ := Inv.freezeC b5V d3O (by decide)
 replace h := h a6c a8m c2q c2W d3Q
 refine d6 (cap := []) (fun args w => Tryd.call87 args w) ?_
 refine m6 (Fi := []) (Fr := [bx g_2 138 (i7 x0.j9)]) d3P (h) (fun g3p b9G g3q d3R a4K g3r d3S d3T => ?_) (fun _ _ _ _ _ q => q.elim)
 obtain ⟨b4F, rfl, rfl, h⟩ := d3T
 exact hR b4F b9G _ a4K.drop h
theorem a8n (x0 : K7) {H : Hp} {K : Sl → Hp → Prop} (h : V9 x0 H K) : a3u x0 H K := by
 intro w I
 refine e0L ?_
 refine a7p x0 I (fun r0 H' w' I' hk => ⟨H', _, I', r0, rfl, rfl, hk⟩) h
end Go.Proofs.YtnhkdkcgdcgmdaaDoor
