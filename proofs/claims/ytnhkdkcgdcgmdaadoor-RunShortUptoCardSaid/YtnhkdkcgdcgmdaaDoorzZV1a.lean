/- Typed formulas of the program's functions, and the theorems that the contracts follow from them; printed by lift.py off the code. -/
import Derived.Test.YtnhkdkcgdcgmdaaDoorzZV1
namespace Go.Proofs.YtnhkdkcgdcgmdaaDoor
open Go.RowKit
set_option maxRecDepth 100000
set_option maxHeartbeats 2000000
variable {w0 w : World} {ps0 : Nat → Prop} {H0 H : Hp} {R : RT} {E : Pan}
def a2e (x0 : a8) (H : Hp) (K : ByteArray → Bool → Hp → Prop) : Prop :=
 (x0.a4c = true →
 K ((((x0.R9)).N8).g7) true H) ∧
 (x0.a4c = false →
 (x0.a4d = true →
 K ((((x0.j8)).i2).g7) ((decide (((((x0.j8)).i2).d9) = 1)) || (decide (((((x0.j8)).i2).d9) = 2))) H) ∧
 (x0.a4d = false →
 (x0.a4b = true →
 K ((((x0.r6)).m8).g7) ((decide (((((x0.r6)).m8).d9) = 2)) || (decide (((((x0.r6)).m8).d9) = 4))) H) ∧
 (x0.a4b = false →
 K ⟨#[]⟩ false H)))
theorem b3i (x0 : a8) {K : ByteArray → Bool → Hp → Prop} (I : Inv w0 ps0 H0 H [] w) (hR : ∀ (r0 : ByteArray) (r1 : Bool) (H' : Hp) (w' : World) (_ : Inv w0 ps0 H0 H' [] w') (_ : K r0 r1 H'), R (Value.tuple #[(Value.string r0), (vB r1)]) w') (h : a2e x0 H K) : c7X (u7 x0) w R E := by
 unfold a2e at h
 unfold c7X
 refine a7 (c1C x0) ?_
 refine a7 (o2 _ _ (vB x0.a4c) rfl) ?_
 refine a7 (o2 _ _ _ rfl) ?_
 refine p5 (fun d4s => ?_) (fun d4s => ?_)
 ·replace h := h.1 d4s
  refine u6 I Tryd.zeroValue177 (cs := [(eS), (vi 0)]) rfl fun g_2 w_3 I_4 k_5 => ?_
  refine o7 I_4 Tryd.sizeOf177 (vs := [(Value.string ((((x0.R9)).N8).g7)), (vi ((((x0.R9)).N8).E0))]) (cs' := [(Value.string ((((x0.R9)).N8).g7)), (vi ((((x0.R9)).N8).E0))]) rfl rfl (nb rfl) rfl rfl fun w_6 I_7 k_8 => ?_
  refine a7 b0s ?_
  refine a7 a0B ?_
  refine d6 (ld1 Tryd.isAgg9 (I_7.at1 (o := 0) (vs := [(Value.string ((((x0.R9)).N8).g7))]) (nb rfl) rfl)) ?_
  exact hR ((((x0.R9)).N8).g7) true H _ I_7.drop h
 ·replace h := h.2 d4s
  refine a7 (c1D x0) ?_
  refine a7 (o2 _ _ (vB x0.a4d) rfl) ?_
  refine a7 (o2 _ _ _ rfl) ?_
  refine p5 (fun b6y => ?_) (fun b6y => ?_)
  ·replace h := h.1 b6y
   refine u6 I Tryd.zeroValue179 (cs := [(vi 0), (eS), (nS), (nS), (nS), (nS)]) rfl fun g4d a1i P5 b6z => ?_
   refine o7 P5 Tryd.sizeOf179 (vs := [(vi ((((x0.j8)).i2).d9)), (Value.string ((((x0.j8)).i2).g7)), (Value.slice ((((x0.j8)).i2).m2).a ((((x0.j8)).i2).m2).n ((((x0.j8)).i2).m2).c), (Value.slice ((((x0.j8)).i2).s8).a ((((x0.j8)).i2).s8).n ((((x0.j8)).i2).s8).c), (Value.slice ((((x0.j8)).i2).K1).a ((((x0.j8)).i2).K1).n ((((x0.j8)).i2).K1).c), (Value.slice ((((x0.j8)).i2).G8).a ((((x0.j8)).i2).G8).n ((((x0.j8)).i2).G8).c)]) (cs' := [(vi ((((x0.j8)).i2).d9)), (Value.string ((((x0.j8)).i2).g7)), (Value.slice ((((x0.j8)).i2).m2).a ((((x0.j8)).i2).m2).n ((((x0.j8)).i2).m2).c), (Value.slice ((((x0.j8)).i2).s8).a ((((x0.j8)).i2).s8).n ((((x0.j8)).i2).s8).c), (Value.slice ((((x0.j8)).i2).K1).a ((((x0.j8)).i2).K1).n ((((x0.j8)).i2).K1).c), (Value.slice ((((x0.j8)).i2).G8).a ((((x0.j8)).i2).G8).n ((((x0.j8)).i2).G8).c)]) rfl rfl (nb rfl) rfl rfl fun o9 c3J d4t => ?_
   refine Z9 c3J fun a2H a5e => ?_
   refine m4 K3 ?_
   refine m4 a1Z ?_
   refine m4 K3 ?_
   refine m4 a5F ?_
   refine u9 (ld1 Tryd.isAgg9 (a5e.at1 (o := 1) (vs := [(Value.string ((((x0.j8)).i2).g7))]) (nb rfl) rfl)) ?_
   refine u9 (ld1 Tryd.isAgg3 (a5e.at1 (o := 0) (vs := [(vi ((((x0.j8)).i2).d9))]) (nb rfl) rfl)) ?_
   refine m4 (l0 _ _ _ _ _ _) ?_
   refine m4 (Pu.g fun hb => by have j9 := hb; exact K3) ?_
   refine m4 (Pu.g fun hb => by have j9 := hb; simp only [s6 j9]; exact a5F) ?_
   refine e6p (p := (Value.pointer (some ⟨g4d, 0, none⟩))) rfl (Ld.g fun hb => by have j9 := hb; simp only [s6 j9]; exact (ld1 Tryd.isAgg3 (a5e.at1 (o := 0) (vs := [(vi ((((x0.j8)).i2).d9))]) (nb rfl) rfl))) ?_
   refine m4 (Pu.g fun hb => by have j9 := hb; simp only [s6 j9]; exact (l0 _ _ _ _ _ _)) ?_
   refine m4 (a1X _ _) ?_
   exact hR ((((x0.j8)).i2).g7) ((decide (((((x0.j8)).i2).d9) = 1)) || (decide (((((x0.j8)).i2).d9) = 2))) H _ a5e.drop h
  ·replace h := h.2 b6y
   refine a7 (c1E x0) ?_
   refine a7 (o2 _ _ (vB x0.a4b) rfl) ?_
   refine a7 (o2 _ _ _ rfl) ?_
   refine p5 (fun b6A => ?_) (fun b6A => ?_)
   ·replace h := h.1 b6A
    refine u6 I Tryd.zeroValue123 (cs := [(vi 0), (vi 0), (eS), (nS)]) rfl fun f0E a2k c0a g4e => ?_
    refine o7 c0a Tryd.sizeOf123 (vs := [(vi ((((x0.r6)).m8).d9)), (vi ((((x0.r6)).m8).K2)), (Value.string ((((x0.r6)).m8).g7)), (Value.slice ((((x0.r6)).m8).A7).a ((((x0.r6)).m8).A7).n ((((x0.r6)).m8).A7).c)]) (cs' := [(vi ((((x0.r6)).m8).d9)), (vi ((((x0.r6)).m8).K2)), (Value.string ((((x0.r6)).m8).g7)), (Value.slice ((((x0.r6)).m8).A7).a ((((x0.r6)).m8).A7).n ((((x0.r6)).m8).A7).c)]) rfl rfl (nb rfl) rfl rfl fun v6 a7o g4f => ?_
    refine Z9 a7o fun a3N b1Z => ?_
    refine m4 V7 ?_
    refine m4 a4g ?_
    refine m4 V7 ?_
    refine m4 W0 ?_
    refine u9 (ld1 Tryd.isAgg9 (b1Z.at1 (o := 2) (vs := [(Value.string ((((x0.r6)).m8).g7))]) (nb rfl) rfl)) ?_
    refine u9 (ld1 Tryd.isAgg3 (b1Z.at1 (o := 0) (vs := [(vi ((((x0.r6)).m8).d9))]) (nb rfl) rfl)) ?_
    refine m4 (l0 _ _ _ _ _ _) ?_
    refine m4 (Pu.g fun hb => by have j9 := hb; exact V7) ?_
    refine m4 (Pu.g fun hb => by have j9 := hb; simp only [s6 j9]; exact W0) ?_
    refine e6p (p := (Value.pointer (some ⟨f0E, 0, none⟩))) rfl (Ld.g fun hb => by have j9 := hb; simp only [s6 j9]; exact (ld1 Tryd.isAgg3 (b1Z.at1 (o := 0) (vs := [(vi ((((x0.r6)).m8).d9))]) (nb rfl) rfl))) ?_
    refine m4 (Pu.g fun hb => by have j9 := hb; simp only [s6 j9]; exact (l0 _ _ _ _ _ _)) ?_
    refine m4 (a1X _ _) ?_
    exact hR ((((x0.r6)).m8).g7) ((decide (((((x0.r6)).m8).d9) = 2)) || (decide (((((x0.r6)).m8).d9) = 4))) H _ b1Z.drop h
   ·replace h := h.2 b6A
    exact hR ⟨#[]⟩ false H _ I h
theorem b3W (x0 : a8) {H : Hp} {K : ByteArray → Bool → Hp → Prop} (h : a2e x0 H K) : a0M x0 H K := by
 intro w I
 refine e0A ?_
 refine b3i x0 I (fun r0 r1 H' w' I' hk => ⟨H', _, I', r0, r1, rfl, rfl, hk⟩) h
def a2L (x0 : Int) (x1 : Int) (x2 : Int) (H : Hp) (K : Bool → Hp → Prop) : Prop :=
 K ((decide (x0 ≤ x2)) && (decide (x2 ≤ x1))) H
theorem b0z (x0 : Int) (x1 : Int) (x2 : Int) (g2 : Nat) {K : Bool → Hp → Prop} (I : Inv w0 ps0 H0 H [bx g2 21 [(Value.int .i32 x2)]] w) (hR : ∀ (r0 : Bool) (H' : Hp) (w' : World) (_ : Inv w0 ps0 H0 H' [bx g2 21 [(Value.int .i32 x2)]] w') (_ : K r0 H'), R (vB r0) w') (h : a2L x0 x1 x2 H K) : c8g (Value.int .i32 x0) (Value.int .i32 x1) (Value.pointer (some ⟨g2, 0, none⟩)) w R E := by
 unfold a2L at h
 unfold c8g
 refine d6 (ld1 Tryd.isAgg21 (I.at1 (o := 0) (vs := [(Value.int .i32 x2)]) (nb rfl) rfl)) ?_
 refine a7 (b3r _ _ _ _ _ _) ?_
 refine d6 (Ld.g fun hb => by have j9 := hb; exact (ld1 Tryd.isAgg21 (I.at1 (o := 0) (vs := [(Value.int .i32 x2)]) (nb rfl) rfl))) ?_
 simp only [P6]
 refine a7 (Pu.g fun hb => by have j9 := hb; simp only [s6 j9]; exact (b3r _ _ _ _ _ _)) ?_
 refine a7 (P7 _ _) ?_
 exact hR ((decide (x0 ≤ x2)) && (decide (x2 ≤ x1))) H _ I h
theorem b0X (x0 : Int) (x1 : Int) (x2 : Int) {H : Hp} {K : Bool → Hp → Prop} (h : a2L x0 x1 x2 H K) : F7 x0 x1 x2 H K := by
 intro g2 w I
 refine e0S ?_
 refine b0z x0 x1 x2 g2 I (fun r0 H' w' I' hk => ⟨H', _, I', r0, rfl, rfl, hk⟩) h
def a3f (H : Hp) (K : Bool → Hp → Prop) : Prop :=
 K true H
def L4 (b0Y : ByteArray) (G0 : Nat) (H : Hp) (n2 : Nat → Hp → Prop) (K : Bool → Hp → Prop) : Prop :=
 (G0 < b0Y.size →
 a3G ((Utf8.decode b0Y G0).1 : Int) H (fun (b2a : Bool) (c3K : Hp) =>
 TG ((!(!b2a) && (decide (((G0 : Nat) : Int) = 0))) = true) (a1I ((Utf8.decode b0Y G0).1 : Int) c3K) 0 c3K (fun (a7K : Int) (a4I : Hp) =>
 (((!b2a) || ((decide (((G0 : Nat) : Int) = 0)) && (!decide (a7K = 3)))) = true →
 K false a4I) ∧
 (((!b2a) || ((decide (((G0 : Nat) : Int) = 0)) && (!decide (a7K = 3)))) = false →
 n2 (G0 + (Utf8.decode b0Y G0).2) a4I)))) ∧
 (¬ (G0 < b0Y.size) →
 a3f H K)
def a2s (x0 : ByteArray) (H : Hp) (K : Bool → Hp → Prop) : Prop :=
 TG ((decide (x0 = ⟨#[]⟩)) = false) (a3y x0 H) false H (fun (E7 : Bool) (H_1 : Hp) =>
 TG (((decide (x0 = ⟨#[]⟩)) || (!E7)) = false) (a2p x0 H_1) false H_1 (fun (D3 : Bool) (a3I : Hp) =>
 TG ((((decide (x0 = ⟨#[]⟩)) || (!E7)) || D3) = false) (a1e x0 a3I) false a3I (fun (Y1 : Bool) (a1p : Hp) =>
 (((((decide (x0 = ⟨#[]⟩)) || (!E7)) || D3) || Y1) = true →
 K false a1p) ∧
 (((((decide (x0 = ⟨#[]⟩)) || (!E7)) || D3) || Y1) = false →
 TL (0 : Nat) a1p fun (s : Nat) H n2 => L4 x0 s H n2 K))))
theorem b3X (x0 : ByteArray) {K : Bool → Hp → Prop} (I : Inv w0 ps0 H0 H [] w) (hR : ∀ (r0 : Bool) (H' : Hp) (w' : World) (_ : Inv w0 ps0 H0 H' [] w') (_ : K r0 H'), R (vB r0) w') (h : a2s x0 H K) : c7Y (Value.string x0) w R E := by
 unfold a2s at h
 unfold c7Y
 refine a7 (a1d _ _ _ _ _) ?_
 simp only [P6]
 refine a6T (D := fun v_5 w_2 => ∃ (E7 : Bool) (H_1 : Hp) , v_5 = (gv (decide (x0 = ⟨#[]⟩)) false (vB E7)) ∧ (Inv w0 ps0 H0 H_1 [] w_2) ∧ (∀ i, i < w.heap.size → ¬ inF [] i → w_2.heap[i]? = w.heap[i]?) ∧ Hle H H_1 ∧ (TG (((decide (x0 = ⟨#[]⟩)) || (!E7)) = false) (a2p x0 H_1) false H_1 (fun (D3 : Bool) (a3I : Hp) =>
 TG ((((decide (x0 = ⟨#[]⟩)) || (!E7)) || D3) = false) (a1e x0 a3I) false a3I (fun (Y1 : Bool) (a1p : Hp) =>
 (((((decide (x0 = ⟨#[]⟩)) || (!E7)) || D3) || Y1) = true →
 K false a1p) ∧
 (((((decide (x0 = ⟨#[]⟩)) || (!E7)) || D3) || Y1) = false →
 TL (0 : Nat) a1p fun (s : Nat) H n2 => L4 x0 s H n2 K))))) (fun b8p => ?_) (fun b8p => ?_) ?_
 ·replace h := h.1 b8p
  have j9 := b8p
  simp only [s6 j9]
  refine d8 (cap := []) (fun args w => Tryd.call137 args w) ?_
  refine m9 (Fi := []) (Fr := []) I (h) (fun v_5 H_1 F_6 w_2 I_3 l_8 k_4 q_7 => ?_) (fun _ _ _ _ _ q => q.elim)
  obtain ⟨E7, rfl, rfl, h⟩ := q_7
  exact ⟨E7, H_1, by rfl, I_3, k_4, l_8, h⟩
 ·exact ⟨false, H, by rw [b1D b8p], I, fun _ _ _ => rfl, Hle.refl _, h.2 b8p⟩
 ·clear h
  rintro v_5 w_2 ⟨E7, H_1, rfl, I_3, k_4, l_8, h⟩
  refine a7 (Pu.g fun hb => by have j9 := hb; simp only [s6 j9]; exact (a1b _)) ?_
  refine a7 (a1X _ _) ?_
  simp only [P6]
  refine a6T (D := fun c8v a1i => ∃ (D3 : Bool) (a3I : Hp) , c8v = (gv ((decide (x0 = ⟨#[]⟩)) || (!E7)) false (vB D3)) ∧ (Inv w0 ps0 H0 a3I [] a1i) ∧ (∀ i, i < w_2.heap.size → ¬ inF [] i → a1i.heap[i]? = w_2.heap[i]?) ∧ Hle H_1 a3I ∧ (TG ((((decide (x0 = ⟨#[]⟩)) || (!E7)) || D3) = false) (a1e x0 a3I) false a3I (fun (Y1 : Bool) (a1p : Hp) =>
 (((((decide (x0 = ⟨#[]⟩)) || (!E7)) || D3) || Y1) = true →
 K false a1p) ∧
 (((((decide (x0 = ⟨#[]⟩)) || (!E7)) || D3) || Y1) = false →
 TL (0 : Nat) a1p fun (s : Nat) H n2 => L4 x0 s H n2 K)))) (fun c3L => ?_) (fun c3L => ?_) ?_
  ·replace h := h.1 c3L
   have j9 := c3L
   simp only [s6 j9]
   refine d8 (cap := []) (fun args w => Tryd.call138 args w) ?_
   refine m9 (Fi := []) (Fr := []) I_3 (h) (fun c8v a3I g4g a1i P5 c0b b6z d4u => ?_) (fun _ _ _ _ _ q => q.elim)
   obtain ⟨D3, rfl, rfl, h⟩ := d4u
   exact ⟨D3, a3I, by rfl, P5, b6z, c0b, h⟩
  ·exact ⟨false, H_1, by rw [b1D c3L], I_3, fun _ _ _ => rfl, Hle.refl _, h.2 c3L⟩
  ·clear h
   rintro c8v a1i ⟨D3, a3I, rfl, P5, b6z, c0b, h⟩
   refine a7 (a1X _ _) ?_
   simp only [P6]
   refine a6T (D := fun c8w r9 => ∃ (Y1 : Bool) (a1p : Hp) , c8w = (gv (((decide (x0 = ⟨#[]⟩)) || (!E7)) || D3) false (vB Y1)) ∧ (Inv w0 ps0 H0 a1p [] r9) ∧ (∀ i, i < a1i.heap.size → ¬ inF [] i → r9.heap[i]? = a1i.heap[i]?) ∧ Hle a3I a1p ∧ ((((((decide (x0 = ⟨#[]⟩)) || (!E7)) || D3) || Y1) = true →
 K false a1p) ∧
 (((((decide (x0 = ⟨#[]⟩)) || (!E7)) || D3) || Y1) = false →
 TL (0 : Nat) a1p fun (s : Nat) H n2 => L4 x0 s H n2 K))) (fun c3M => ?_) (fun c3M => ?_) ?_
   ·replace h := h.1 c3M
    have j9 := c3M
    simp only [s6 j9]
    refine d8 (cap := []) (fun args w => Tryd.call139 args w) ?_
    refine m9 (Fi := []) (Fr := []) P5 (h) (fun c8w a1p g4h r9 a6m d4v c0c d4w => ?_) (fun _ _ _ _ _ q => q.elim)
    obtain ⟨Y1, rfl, rfl, h⟩ := d4w
    exact ⟨Y1, a1p, by rfl, a6m, c0c, d4v, h⟩
   ·exact ⟨false, a3I, by rw [b1D c3M], P5, fun _ _ _ => rfl, Hle.refl _, h.2 c3M⟩
   ·clear h
    rintro c8w r9 ⟨Y1, a1p, rfl, a6m, c0c, d4v, h⟩
    refine a7 (a1X _ _) ?_
    refine p5 (fun d4x => ?_) (fun d4x => ?_)
    ·replace h := h.1 d4x
     exact hR false a1p _ a6m h
    ·replace h := h.2 d4x
     have hj1 : ∀ (H : Hp) (w : World) (_ : Inv w0 ps0 H0 H [] w) (_ : a3f H K), b9I w R E := by
      intro H w I h
      unfold b9I
      intro _
      unfold a3f at h
      exact hR true H _ I h
     refine A8 fun j1 hx1 => ?_
     refine c6N Tryd.underlying9 x0 a6m fun c8x D8 b6B f0F => ?_
     obtain ⟨d4y, c3N, g4i, g4j⟩ := h
     refine M7 (J := fun n l w => ∃ (s : Nat) (H : Hp) , n = c3N s ∧ l = [] ∧ Inv w0 ps0 H0 H [itf c8x x0 s] w ∧ d4y s H) ⟨_, 0, a1p, rfl, rfl, b6B, g4i⟩ ?_
     rintro g8g τ_94 w next2 ⟨G0, H, rfl, g4k, I, g4l⟩ hn2
     clear g4k
     obtain ⟨n2, hm2, h⟩ : ∃ n2 : Nat → Hp → Prop, (∀ s' H', n2 s' H' → d4y s' H' ∧ c3N s' < c3N G0) ∧ L4 x0 G0 H n2 K := ⟨_, fun _ _ h => h, g4j G0 H (fun s' H' => d4y s' H' ∧ c3N s' < c3N G0) g4l (fun _ _ a b => ⟨a, b⟩)⟩
     unfold c6U
     unfold L4 at h
     refine d1k I (fun a8I b6C g4m g8h => ?_) (fun a8I => ?_)
     ·replace h := h.1 a8I
      refine a7 (o2 _ _ (vB true) rfl) ?_
      refine p5 (fun e => ?_) (fun e => by cases e)
      refine a7 (o2 _ _ (vi ((G0 : Nat) : Int)) rfl) ?_
      refine a7 (o2 _ _ (Value.int .i32 ((Utf8.decode x0 G0).1 : Int)) rfl) ?_
      refine d8 (cap := []) (fun args w => Tryd.call140 args w) ?_
      refine m9 (Fi := []) (Fr := [itf c8x x0 (G0 + (Utf8.decode x0 G0).2)]) g4m (h) (fun d4z c3K g8i M9 c3O g8j g4n V6 => ?_) (fun _ _ _ _ _ q => q.elim)
      obtain ⟨b2a, rfl, rfl, h⟩ := V6
      refine a7 (a1b _) ?_
      simp only [P6]
      refine a7 (Pu.g fun hb => by have j9 := hb; simp only [s6 j9]; exact (l0 _ _ _ _ _ _)) ?_
      simp only [d9a, e6x]
      refine a9T (a7V _ _ _) ?_
      refine a6T (D := fun c8y b2b => ∃ (a7K : Int) (a4I : Hp) , c8y = (gv (!(!b2a) && (decide (((G0 : Nat) : Int) = 0))) true (vi a7K)) ∧ (Inv w0 ps0 H0 a4I [itf c8x x0 (G0 + (Utf8.decode x0 G0).2)] b2b) ∧ (∀ i, i < M9.heap.size → ¬ inF [] i → b2b.heap[i]? = M9.heap[i]?) ∧ Hle c3K a4I ∧ ((((!b2a) || ((decide (((G0 : Nat) : Int) = 0)) && (!decide (a7K = 3)))) = true →
 K false a4I) ∧
 (((!b2a) || ((decide (((G0 : Nat) : Int) = 0)) && (!decide (a7K = 3)))) = false →
 n2 (G0 + (Utf8.decode x0 G0).2) a4I))) (fun c0d => ?_) (fun c0d => ?_) ?_
      ·replace h := h.1 c0d
       obtain ⟨j9, c3P⟩ := b4U c0d
       simp only [s6 c0d]
       refine d8 (cap := []) (fun args w => Tryd.call141 args w) ?_
       refine m9 (Fi := []) (Fr := [itf c8x x0 (G0 + (Utf8.decode x0 G0).2)]) c3O (h) (fun c8y a4I g4o b2b c0e d4A d4B d4C => ?_) (fun _ _ _ _ _ q => q.elim)
       obtain ⟨a7K, rfl, rfl, h⟩ := d4C
       exact ⟨a7K, a4I, by rfl, c0e, d4B, d4A, h⟩
      ·exact ⟨0, c3K, by rw [b1D c0d], c3O, fun _ _ _ => rfl, Hle.refl _, h.2 c0d⟩
      ·clear h
       rintro c8y b2b ⟨a7K, a4I, rfl, c0e, d4B, d4A, h⟩
       refine a7 (Pu.e (a7V _ _ _) (Pu.g fun hb => by obtain ⟨j9, c3P⟩ := b4U hb; simp only [s6 hb]; exact (a1C _ _ _ _ _ _))) ?_
       refine a7 (Pu.g fun hb => by have j9 := hb; simp only [s6 j9, d1i j9]; exact (P7 _ _)) ?_
       refine a7 (a1X _ _) ?_
       refine p5 (fun a8J => ?_) (fun a8J => ?_)
       ·replace h := h.1 a8J
        exact hR false a4I _ c0e.drop h
       ·replace h := h.2 a8J
        exact hn2 _ _ _ (hm2 _ _ h).2 ⟨(G0 + (Utf8.decode x0 G0).2), a4I, rfl, rfl, c0e, (hm2 _ _ h).1⟩
     ·replace h := h.2 a8I
      refine a7 (o2 _ _ (vB false) rfl) ?_
      refine p5 (fun e => by cases e) (fun e => ?_)
      exact hx1 _ _ (hj1 H _ I.drop h)
theorem b5Q (x0 : ByteArray) {H : Hp} {K : Bool → Hp → Prop} (h : a2s x0 H K) : a2q x0 H K := by
 intro w I
 refine e0C ?_
 refine b3X x0 I (fun r0 H' w' I' hk => ⟨H', _, I', r0, rfl, rfl, hk⟩) h
def G6 (a6n : Int) (a6o : Int) (a6p : Int) (a6q : Bool) (a6r : Bool) (a7a : (List ByteArray)) (H : Hp) (K : i7 → Hp → Prop) : Prop :=
 ∀ (a1x : Sl) (c0f : Hp), Hle H c0f → SlH c0f 1 C8 a1x a7a → a1x.n ≤ a1x.c →
 K (i7.mk a6n a6o a6p a6q a6r a1x) c0f
def a1q (x0 : Sl) (H : Hp) (K : i7 → Hp → Prop) : Prop :=
 T9 x0 1 (i7.mk 0 0 0 false false (Sl.mk none 0 0)) [] H (fun (c8z : Bool) (B6 : i7) (a4n : (List ByteArray)) (b2c : Hp) =>
 ((!c8z) = true →
 G6 ((B6).fnodes) ((B6).fdepth) ((B6).fe) ((B6).fform) ((B6).fnamed) a4n b2c K) ∧
 ((!c8z) = false →
 (((B6).fform) = true →
 G6 ((B6).fnodes) ((B6).fdepth) 30 ((B6).fform) ((B6).fnamed) a4n b2c K) ∧
 (((B6).fform) = false →
 (((B6).fnamed) = true →
 G6 ((B6).fnodes) ((B6).fdepth) 31 ((B6).fform) ((B6).fnamed) a4n b2c K) ∧
 (((B6).fnamed) = false →
 G6 ((B6).fnodes) ((B6).fdepth) ((B6).fe) ((B6).fform) ((B6).fnamed) a4n b2c K))))
theorem b0Z (x0 : Sl) {K : i7 → Hp → Prop} (I : Inv w0 ps0 H0 H [] w) (hR : ∀ (r0 : i7) (gr0 : Nat) (H' : Hp) (w' : World) (_ : Inv w0 ps0 H0 H' [bx gr0 106 (a4j r0)] w') (_ : K r0 H'), R (Value.pointer (some ⟨gr0, 0, none⟩)) w') (h : a1q x0 H K) : F60 (vs x0) w R E := by
 unfold a1q at h
 unfold F60
 refine a7 (c7T ) ?_
 refine M5 I (cs := [(vi 0), (vi 0), (vi 0), (vB false), (vB false), (nS)]) rfl fun g_2 w_3 I_4 k_5 => ?_
 refine u6 I_4 Tryd.zeroValue102 (cs := [(Value.pointer none)]) rfl fun g_7 w_8 I_9 c3Q => ?_
 refine o7 I_9 Tryd.sizeOf102 (vs := [(Value.pointer (some ⟨g_2, 0, none⟩))]) (cs' := [(Value.pointer (some ⟨g_2, 0, none⟩))]) rfl rfl (nb rfl) rfl rfl fun a1i P5 b6z => ?_
 refine u6 P5 Tryd.zeroValue161 (cs := [Value.nilFunc]) rfl fun b2d q8 c0g g4p => ?_
 refine a7 (b0m _ _ _) ?_
 refine o7 c0g Tryd.sizeOf161 (vs := [(Value.func (.func 99) #[] #[(Value.pointer (some ⟨g_7, 0, none⟩)), (Value.pointer (some ⟨b2d, 0, none⟩))])]) (cs' := [(Value.func (.func 99) #[] #[(Value.pointer (some ⟨g_7, 0, none⟩)), (Value.pointer (some ⟨b2d, 0, none⟩))])]) rfl rfl (nb rfl) rfl rfl fun a2U c8A g4q => ?_
 have hj1 : ∀ (a6n : Int) (a6o : Int) (a6p : Int) (a6q : Bool) (a6r : Bool) (a7a : (List ByteArray)) (a1x : Sl) (Fcr_1j1_5 : Frag) (H : Hp) (w : World) (_ : RowL 9 1 C8 a1x a7a Fcr_1j1_5) (_ : Inv w0 ps0 H0 H [bx g_7 102 [(Value.pointer (some ⟨g_2, 0, none⟩))], bx g_2 106 [(vi a6n), (vi a6o), (vi a6p), (vB a6q), (vB a6r), (vs a1x)], bx b2d 161 [(Value.func (.func 99) #[] #[(Value.pointer (some ⟨g_7, 0, none⟩)), (Value.pointer (some ⟨b2d, 0, none⟩))])], Fcr_1j1_5] w) (_ : G6 a6n a6o a6p a6q a6r a7a H K), c2G (Value.pointer (some ⟨g_7, 0, none⟩)) w R E := by
  intro a6n a6o a6p a6q a6r a7a a1x Fcr_1j1_5 H w d2k I h
  unfold c2G
  intro _
  unfold G6 at h
  refine d6 (ld1 Tryd.isAgg102 (I.at1 (o := 0) (vs := [(Value.pointer (some ⟨g_2, 0, none⟩))]) (nb rfl) rfl)) ?_
  obtain ⟨c0f, c3R, g4r, b2e, c3S⟩ := Inv.freezeC (I.bring 3) d2k (by decide)
  replace h := h a1x c0f g4r b2e c3S
  exact hR (i7.mk a6n a6o a6p a6q a6r a1x) g_2 c0f _ (c3R.drop.bring 1).drop h
 refine A8 fun j1 hx1 => ?_
 refine d6 (ld1 Tryd.isAgg161 (c8A.at1 (o := 0) (vs := [(Value.func (.func 99) #[] #[(Value.pointer (some ⟨g_7, 0, none⟩)), (Value.pointer (some ⟨b2d, 0, none⟩))])]) (nb rfl) rfl)) ?_
 refine d8 (cap := [(Value.pointer (some ⟨g_7, 0, none⟩)), (Value.pointer (some ⟨b2d, 0, none⟩))]) (fun args w => Tryd.call99 args w) ?_
 refine m9 (Fi := [bx g_7 102 [(Value.pointer (some ⟨g_2, 0, none⟩))], bx g_2 106 [(vi 0), (vi 0), (vi 0), (vB false), (vB false), (Value.slice (Sl.mk none 0 0).a (Sl.mk none 0 0).n (Sl.mk none 0 0).c)], [], bx b2d 161 [(Value.func (.func 99) #[] #[(Value.pointer (some ⟨g_7, 0, none⟩)), (Value.pointer (some ⟨b2d, 0, none⟩))])]]) (Fr := []) ((((c8A.nil.bring 1).bring 1).bring 3).bring 3) (h g_7 g_2 b2d (Sl.mk none 0 0) ([]) (RowL.nil (e := 9) b6h b6i)) (fun g8k b2c f0G v6 a7o g8l g4f g4s => ?_) (fun _ _ _ _ _ q => q.elim)
 obtain ⟨c8z, B6, a4n, a6s, b2f, rfl, rfl, b2g, h⟩ := g4s
 refine a7 (a1b _) ?_
 refine p5 (fun d4D => ?_) (fun d4D => ?_)
 ·replace h := h.1 d4D
  exact hx1 _ _ (hj1 ((B6).fnodes) ((B6).fdepth) ((B6).fe) ((B6).fform) ((B6).fnamed) a4n a6s b2f b2c _ b2g ((((a7o.bring 2).bring 3).bring 3).bring 3) h)
 ·replace h := h.2 d4D
  refine d6 (ld1 Tryd.isAgg102 (a7o.at1 (o := 0) (vs := [(Value.pointer (some ⟨g_2, 0, none⟩))]) (nb rfl) rfl)) ?_
  refine a7 (r5 _) ?_
  refine a7 b0p ?_
  refine d6 (ld1 Tryd.isAgg4 ((a7o.bring 1).at1 (o := 3) (vs := [(vB ((B6).fform))]) (nb rfl) rfl)) ?_
  refine p5 (fun a3g => ?_) (fun a3g => ?_)
  ·replace h := h.1 a3g
   refine d6 (ld1 Tryd.isAgg102 (a7o.at1 (o := 0) (vs := [(Value.pointer (some ⟨g_2, 0, none⟩))]) (nb rfl) rfl)) ?_
   refine a7 (r5 _) ?_
   refine a7 a4M ?_
   refine o7 (a7o.bring 1) Tryd.sizeOf29 (vs := [(vi 30)]) (cs' := [(vi ((B6).fnodes)), (vi ((B6).fdepth)), (vi 30), (vB ((B6).fform)), (vB ((B6).fnamed)), (vs a6s)]) rfl rfl (nb rfl) rfl rfl fun d4E g4t g8m => ?_
   exact hx1 _ _ (hj1 ((B6).fnodes) ((B6).fdepth) 30 ((B6).fform) ((B6).fnamed) a4n a6s b2f b2c _ b2g ((((g4t.bring 2).bring 3).bring 2).bring 3) h)
  ·replace h := h.2 a3g
   refine d6 (ld1 Tryd.isAgg102 (a7o.at1 (o := 0) (vs := [(Value.pointer (some ⟨g_2, 0, none⟩))]) (nb rfl) rfl)) ?_
   refine a7 (r5 _) ?_
   refine a7 b0q ?_
   refine d6 (ld1 Tryd.isAgg4 ((a7o.bring 1).at1 (o := 4) (vs := [(vB ((B6).fnamed))]) (nb rfl) rfl)) ?_
   refine p5 (fun d4F => ?_) (fun d4F => ?_)
   ·replace h := h.1 d4F
    refine d6 (ld1 Tryd.isAgg102 (a7o.at1 (o := 0) (vs := [(Value.pointer (some ⟨g_2, 0, none⟩))]) (nb rfl) rfl)) ?_
    refine a7 (r5 _) ?_
    refine a7 a4M ?_
    refine o7 (a7o.bring 1) Tryd.sizeOf29 (vs := [(vi 31)]) (cs' := [(vi ((B6).fnodes)), (vi ((B6).fdepth)), (vi 31), (vB ((B6).fform)), (vB ((B6).fnamed)), (vs a6s)]) rfl rfl (nb rfl) rfl rfl fun E2 c8B g4u => ?_
    exact hx1 _ _ (hj1 ((B6).fnodes) ((B6).fdepth) 31 ((B6).fform) ((B6).fnamed) a4n a6s b2f b2c _ b2g ((((c8B.bring 2).bring 3).bring 2).bring 3) h)
   ·replace h := h.2 d4F
    exact hx1 _ _ (hj1 ((B6).fnodes) ((B6).fdepth) ((B6).fe) ((B6).fform) ((B6).fnamed) a4n a6s b2f b2c _ b2g ((((a7o.bring 2).bring 3).bring 3).bring 3) h)
theorem b2h (x0 : Sl) {H : Hp} {K : i7 → Hp → Prop} (h : a1q x0 H K) : a3d x0 H K := by
 intro w I
 refine e6Y ?_
 refine b0Z x0 I (fun r0 gr0 H' w' I' hk => ⟨H', _, I', r0, gr0, rfl, rfl, hk⟩) h
def v8 (W6 : (List a8)) (H : Hp) (K : Sl → Hp → Prop) : Prop :=
 ∀ (E8 : Sl) (a0g : Hp), Hle H a0g → SlH a0g 1 p7 E8 W6 → E8.n ≤ E8.c →
 K E8 a0g
def y9 (a0V : Sl) (a0h : Int) (u0 : (List a8)) (r8 : Int) (H : Hp) (n2 : ((List a8) × Int) → Hp → Prop) (K : Sl → Hp → Prop) : Prop :=
 (r8 < a0h →
 (0 : Int) ≤ r8 ∧ (r8 : Int) < a0V.n ∧ ∃ x_1 : m3, EltH H a0V r8 2 (m7 x_1) ∧
 a5X x_1 H (fun (Q0 : a8) (a0i : Hp) =>
 (u0.length + ([Q0] : List a8).length) * 17 ≤ 140737488355328 ∧
 n2 ((u0 ++ [Q0]), (IntKind.wrap .i64 (r8 + 1))) a0i)) ∧
 (¬ (r8 < a0h) →
 v8 u0 H K)
def B1 (x0 : Sl) (H : Hp) (K : Sl → Hp → Prop) : Prop :=
 TL (([], 0) : (List a8) × Int) H fun (s : (List a8) × Int) H n2 => y9 x0 (x0.n : Int) s.1 s.2 H n2 K
theorem Z4 (x0 : Sl) {K : Sl → Hp → Prop} (I : Inv w0 ps0 H0 H [] w) (hR : ∀ (r0 : Sl) (H' : Hp) (w' : World) (_ : Inv w0 ps0 H0 H' [] w') (_ : K r0 H'), R (vs r0) w') (h : B1 x0 H K) : F88 (vs x0) (fC 89) w R E := by
 unfold B1 at h
 unfold F88
 have hj1 : ∀ (W6 : (List a8)) (E8 : Sl) (Fs5j1 : Frag) (H : Hp) (w : World) (_ : RowL 152 1 p7 E8 W6 Fs5j1) (_ : Inv w0 ps0 H0 H [Fs5j1] w) (_ : v8 W6 H K), c2N (vs E8) w R E := by
  intro W6 E8 Fs5j1 H w b2i I h
  unfold c2N
  intro _
  unfold v8 at h
  obtain ⟨a0g, a6t, b3Y, a8K, b0A⟩ := Inv.freezeC I b2i (by decide)
  replace h := h E8 a0g b3Y a8K b0A
  exact hR E8 a0g _ a6t h
 refine A8 fun j1 hx1 => ?_
 refine a7 (a9U _ _ _) ?_
 obtain ⟨a5f, a1F, b6D, b6E⟩ := h
 refine M7 (J := fun n l w => ∃ (s : (List a8) × Int) (H : Hp) (W7 : Sl) (Fs5l2 : Frag) , n = a1F s ∧ l = (match s with | (u0, r8) => [(vs W7), (vi r8)]) ∧ (match s with | (u0, r8) => RowL 152 1 p7 W7 u0 Fs5l2) ∧ (match s with | (u0, r8) => Inv w0 ps0 H0 H [Fs5l2] w) ∧ a5f s H) ⟨_, ([], 0), H, (Sl.mk none 0 0), [], rfl, rfl, (RowL.nil M8 P1), I.nil, b6D⟩ ?_
 rintro d4G τ_50 w next2 ⟨⟨u0, r8⟩, H, W7, Fs5l2, rfl, a5g, a3h, I, b6F⟩ hn2
 dsimp only at a5g I a3h
 simp only [List.map_cons, List.map_nil, List.cons.injEq, and_true] at a5g
 obtain ⟨e5, e10⟩ := a5g
 simp only [e5, e10]
 obtain ⟨n2, hm2, h⟩ : ∃ n2 : ((List a8) × Int) → Hp → Prop, (∀ s' H', n2 s' H' → a5f s' H' ∧ a1F s' < a1F (u0, r8)) ∧ y9 x0 (x0.n : Int) u0 r8 H n2 K := ⟨_, fun _ _ h => h, b6E (u0, r8) H (fun s' H' => a5f s' H' ∧ a1F s' < a1F (u0, r8)) b6F (fun _ _ a b => ⟨a, b⟩)⟩
 unfold d1t
 unfold y9 at h
 refine a7 (C5 _ _ _ _ _ _) ?_
 refine j7 (fun a3g => ?_) (fun a3g => ?_)
 ·replace h := h.1 a3g
  obtain ⟨h_4, h_5, x_1, h_7, h⟩ := h
  obtain ⟨g_2, o_3, h_6, h_7⟩ := h_7
  refine a7 (b1M h_6 _ _ _ _ h_4 h_5) ?_
  refine d6 (ldA (vs := (m7 x_1)) Tryd.isAgg58 Tryd.sizeOf58 rfl (I.atH h_7)) ?_
  refine u6 I Tryd.zeroValue58 (cs := [(eS), (vi 0)]) rfl fun g_9 o3 a3U b6G => ?_
  refine o7 a3U Tryd.sizeOf58 (vs := (m7 x_1)) (cs' := (m7 x_1)) rfl rfl (nb rfl) rfl rfl fun a0I N5 a1T => ?_
  refine d6 (ldA Tryd.isAgg58 Tryd.sizeOf58 rfl (N5.at1 (o := 0) (vs := (m7 x_1)) (nb rfl) rfl)) ?_
  refine d8 (cap := []) (fun args w => Tryd.call89 args w) ?_
  refine m9 (Fi := []) (Fr := [bx g_9 58 (m7 x_1), Fs5l2]) N5 (h) (fun c8C a0i c8D a2H a5e c0h c8E b2j => ?_) (fun _ _ _ _ _ q => q.elim)
  obtain ⟨Q0, rfl, rfl, h⟩ := b2j
  refine U6 (e := 152) (c := p7) (xs := [Q0]) a5e (b1L _) rfl rfl M8 P1 (nb rfl) fun c3T c0i C7 a5h a6u c8F => ?_
  obtain ⟨b2k, h⟩ := h
  refine b0U (s := W7) (xs := u0) (a6u.bring 2) a3h (a5h.srcO ((a6u.bring 2).bring 1)) b2k fun b6H b6I D1 b2e a7p c8G => ?_
  refine a7 (J0 _ _ _ _ _ _) ?_
  exact hn2 _ _ _ (hm2 _ _ h).2 ⟨((u0 ++ [Q0]), (IntKind.wrap .i64 (r8 + 1))), a0i, b6H, b6I, rfl, rfl, b2e, ((a7p.bring 1).drop.bring 1).drop, (hm2 _ _ h).1⟩
 ·replace h := h.2 a3g
  exact hx1 _ _ (hj1 u0 W7 Fs5l2 H _ a3h I h)
theorem a0j (x0 : Sl) {H : Hp} {K : Sl → Hp → Prop} (h : B1 x0 H K) : E3 x0 H K := by
 intro w I
 refine e7i ?_
 refine Z4 x0 I (fun r0 H' w' I' hk => ⟨H', _, I', r0, rfl, rfl, hk⟩) h
def z6 (W6 : (List a8)) (H : Hp) (K : Sl → Hp → Prop) : Prop :=
 ∀ (E8 : Sl) (a0g : Hp), Hle H a0g → SlH a0g 1 p7 E8 W6 → E8.n ≤ E8.c →
 K E8 a0g
def z7 (a0V : Sl) (a0h : Int) (u0 : (List a8)) (r8 : Int) (H : Hp) (n2 : ((List a8) × Int) → Hp → Prop) (K : Sl → Hp → Prop) : Prop :=
 (r8 < a0h →
 (0 : Int) ≤ r8 ∧ (r8 : Int) < a0V.n ∧ ∃ x_1 : p6, EltH H a0V r8 6 (i5 x_1) ∧
 a5Y x_1 H (fun (Q0 : a8) (a0i : Hp) =>
 (u0.length + ([Q0] : List a8).length) * 17 ≤ 140737488355328 ∧
 n2 ((u0 ++ [Q0]), (IntKind.wrap .i64 (r8 + 1))) a0i)) ∧
 (¬ (r8 < a0h) →
 z6 u0 H K)
def B2 (x0 : Sl) (H : Hp) (K : Sl → Hp → Prop) : Prop :=
 TL (([], 0) : (List a8) × Int) H fun (s : (List a8) × Int) H n2 => z7 x0 (x0.n : Int) s.1 s.2 H n2 K
theorem Z5 (x0 : Sl) {K : Sl → Hp → Prop} (I : Inv w0 ps0 H0 H [] w) (hR : ∀ (r0 : Sl) (H' : Hp) (w' : World) (_ : Inv w0 ps0 H0 H' [] w') (_ : K r0 H'), R (vs r0) w') (h : B2 x0 H K) : F90 (vs x0) (fC 91) w R E := by
 unfold B2 at h
 unfold F90
 have hj1 : ∀ (W6 : (List a8)) (E8 : Sl) (Fs5j1 : Frag) (H : Hp) (w : World) (_ : RowL 152 1 p7 E8 W6 Fs5j1) (_ : Inv w0 ps0 H0 H [Fs5j1] w) (_ : z6 W6 H K), c2O (vs E8) w R E := by
  intro W6 E8 Fs5j1 H w b2i I h
  unfold c2O
  intro _
  unfold z6 at h
  obtain ⟨a0g, a6t, b3Y, a8K, b0A⟩ := Inv.freezeC I b2i (by decide)
  replace h := h E8 a0g b3Y a8K b0A
  exact hR E8 a0g _ a6t h
 refine A8 fun j1 hx1 => ?_
 refine a7 (a5s _ _ _) ?_
 obtain ⟨a5f, a1F, b6D, b6E⟩ := h
 refine M7 (J := fun n l w => ∃ (s : (List a8) × Int) (H : Hp) (W7 : Sl) (Fs5l2 : Frag) , n = a1F s ∧ l = (match s with | (u0, r8) => [(vs W7), (vi r8)]) ∧ (match s with | (u0, r8) => RowL 152 1 p7 W7 u0 Fs5l2) ∧ (match s with | (u0, r8) => Inv w0 ps0 H0 H [Fs5l2] w) ∧ a5f s H) ⟨_, ([], 0), H, (Sl.mk none 0 0), [], rfl, rfl, (RowL.nil M8 P1), I.nil, b6D⟩ ?_
 rintro d4G τ_50 w next2 ⟨⟨u0, r8⟩, H, W7, Fs5l2, rfl, a5g, a3h, I, b6F⟩ hn2
 dsimp only at a5g I a3h
 simp only [List.map_cons, List.map_nil, List.cons.injEq, and_true] at a5g
 obtain ⟨e5, e10⟩ := a5g
 simp only [e5, e10]
 obtain ⟨n2, hm2, h⟩ : ∃ n2 : ((List a8) × Int) → Hp → Prop, (∀ s' H', n2 s' H' → a5f s' H' ∧ a1F s' < a1F (u0, r8)) ∧ z7 x0 (x0.n : Int) u0 r8 H n2 K := ⟨_, fun _ _ h => h, b6E (u0, r8) H (fun s' H' => a5f s' H' ∧ a1F s' < a1F (u0, r8)) b6F (fun _ _ a b => ⟨a, b⟩)⟩
 unfold d1u
 unfold z7 at h
 refine a7 (C5 _ _ _ _ _ _) ?_
 refine j7 (fun a3g => ?_) (fun a3g => ?_)
 ·replace h := h.1 a3g
  obtain ⟨h_4, h_5, x_1, h_7, h⟩ := h
  obtain ⟨g_2, o_3, h_6, h_7⟩ := h_7
  refine a7 (b6u h_6 _ _ _ _ h_4 h_5) ?_
  refine d6 (ldA (vs := (i5 x_1)) Tryd.isAgg63 Tryd.sizeOf63 rfl (I.atH h_7)) ?_
  refine u6 I Tryd.zeroValue63 (cs := [(vi 0), (eS), (nS), (nS), (nS), (nS)]) rfl fun g_9 o3 a3U b6G => ?_
  refine o7 a3U Tryd.sizeOf63 (vs := (i5 x_1)) (cs' := (i5 x_1)) rfl rfl (nb rfl) rfl rfl fun a0I N5 a1T => ?_
  refine d6 (ldA Tryd.isAgg63 Tryd.sizeOf63 rfl (N5.at1 (o := 0) (vs := (i5 x_1)) (nb rfl) rfl)) ?_
  refine d8 (cap := []) (fun args w => Tryd.call91 args w) ?_
  refine m9 (Fi := []) (Fr := [bx g_9 63 (i5 x_1), Fs5l2]) N5 (h) (fun c8C a0i c8D a2H a5e c0h c8E b2j => ?_) (fun _ _ _ _ _ q => q.elim)
  obtain ⟨Q0, rfl, rfl, h⟩ := b2j
  refine U6 (e := 152) (c := p7) (xs := [Q0]) a5e (b1L _) rfl rfl M8 P1 (nb rfl) fun c3T c0i C7 a5h a6u c8F => ?_
  obtain ⟨b2k, h⟩ := h
  refine b0U (s := W7) (xs := u0) (a6u.bring 2) a3h (a5h.srcO ((a6u.bring 2).bring 1)) b2k fun b6H b6I D1 b2e a7p c8G => ?_
  refine a7 (J0 _ _ _ _ _ _) ?_
  exact hn2 _ _ _ (hm2 _ _ h).2 ⟨((u0 ++ [Q0]), (IntKind.wrap .i64 (r8 + 1))), a0i, b6H, b6I, rfl, rfl, b2e, ((a7p.bring 1).drop.bring 1).drop, (hm2 _ _ h).1⟩
 ·replace h := h.2 a3g
  exact hx1 _ _ (hj1 u0 W7 Fs5l2 H _ a3h I h)
theorem a0k (x0 : Sl) {H : Hp} {K : Sl → Hp → Prop} (h : B2 x0 H K) : t1 x0 H K := by
 intro w I
 refine e7m ?_
 refine Z5 x0 I (fun r0 H' w' I' hk => ⟨H', _, I', r0, rfl, rfl, hk⟩) h
def a1r (x0 : i4) (H : Hp) (K : a8 → Hp → Prop) : Prop :=
 K (a8.C9 (E5.mk x0)) H
theorem b1a (x0 : i4) {K : a8 → Hp → Prop} (I : Inv w0 ps0 H0 H [] w) (hR : ∀ (r0 : a8) (H' : Hp) (w' : World) (_ : Inv w0 ps0 H0 H' [] w') (_ : K r0 H'), R (u7 r0) w') (h : a1r x0 H K) : c8l (Value.agg (d5 x0).toArray) w R E := by
 unfold a1r at h
 unfold c8l
 refine M5 I (cs := (d5 x0)) rfl fun g_2 w_3 I_4 k_5 => ?_
 refine d6 (ldA Tryd.isAgg24 Tryd.sizeOf24 rfl (I_4.at1 (o := 0) (vs := (d5 x0)) (nb rfl) rfl)) ?_
 refine a7 (c2B _ _ _ _ _ _) ?_
 refine a7 (b0T (E5.mk x0)) ?_
 exact hR (a8.C9 (E5.mk x0)) H _ I_4.drop h
theorem b2l (x0 : i4) {H : Hp} {K : a8 → Hp → Prop} (h : a1r x0 H K) : a5Z x0 H K := by
 intro w I
 refine e1b ?_
 refine b1a x0 I (fun r0 H' w' I' hk => ⟨H', _, I', r0, rfl, rfl, hk⟩) h
def a1s (x0 : o8) (H : Hp) (K : a8 → Hp → Prop) : Prop :=
 K (a8.J8 (L1.mk x0)) H
theorem b1b (x0 : o8) {K : a8 → Hp → Prop} (I : Inv w0 ps0 H0 H [] w) (hR : ∀ (r0 : a8) (H' : Hp) (w' : World) (_ : Inv w0 ps0 H0 H' [] w') (_ : K r0 H'), R (u7 r0) w') (h : a1s x0 H K) : c8q (Value.agg (g8 x0).toArray) w R E := by
 unfold a1s at h
 unfold c8q
 refine M5 I (cs := (g8 x0)) rfl fun g_2 w_3 I_4 k_5 => ?_
 refine d6 (ldA Tryd.isAgg27 Tryd.sizeOf27 rfl (I_4.at1 (o := 0) (vs := (g8 x0)) (nb rfl) rfl)) ?_
 refine a7 (c2C _ _ _ _ _ _ _ _) ?_
 refine a7 (b9z (L1.mk x0)) ?_
 exact hR (a8.J8 (L1.mk x0)) H _ I_4.drop h
theorem b2m (x0 : o8) {H : Hp} {K : a8 → Hp → Prop} (h : a1s x0 H K) : a6a x0 H K := by
 intro w I
 refine e1k ?_
 refine b1b x0 I (fun r0 H' w' I' hk => ⟨H', _, I', r0, rfl, rfl, hk⟩) h
def W8 (x0 : L1) (H : Hp) (K : Sl → Hp → Prop) : Prop :=
 t6 x0.m5.m2 H (fun (a6b : Sl) (H_8 : Hp) =>
 B0 x0.m5.u5 H_8 (fun (a6c : Sl) (b3Z : Hp) =>
 ∀ (a6v : Sl) (a8L : Hp), Hle b3Z a8L → SlH a8L 1 csl a6v [a6b, a6c] → a6v.n ≤ a6v.c →
 A6 a6v a8L (fun (b5j : Sl) (c0j : Hp) =>
 K b5j c0j)))
theorem a7L (x0 : L1) {K : Sl → Hp → Prop} (I : Inv w0 ps0 H0 H [] w) (hR : ∀ (r0 : Sl) (H' : Hp) (w' : World) (_ : Inv w0 ps0 H0 H' [] w') (_ : K r0 H'), R (vs r0) w') (h : W8 x0 H K) : c8o (Value.agg (g8 x0.m5).toArray) w R E := by
 unfold W8 at h
 unfold c8o
 refine M5 I (cs := (g8 x0.m5)) rfl fun g_2 w_3 I_4 k_5 => ?_
 refine Z9 I_4 fun w_6 I_7 => ?_
 refine m4 a0C ?_
 refine m4 a5D ?_
 refine m4 a0C ?_
 refine m4 a1Y ?_
 refine u9 (ld1 Tryd.isAgg22 (I_7.at1 (o := 2) (vs := [(vs x0.m5.m2)]) (nb rfl) rfl)) ?_
 refine u9 (ld1 Tryd.isAgg25 (I_7.at1 (o := 3) (vs := [(vs x0.m5.u5)]) (nb rfl) rfl)) ?_
 refine d8 (cap := []) (fun args w => Tryd.call171 args w) ?_
 refine m9 (Fi := []) (Fr := [bx g_2 138 (g8 x0.m5)]) I_7 (h) (fun f0H H_8 d4H w_9 b2n f0I b6J c3U => ?_) (fun _ _ _ _ _ q => q.elim)
 obtain ⟨a6b, rfl, rfl, h⟩ := c3U
 refine ⟨(b6J _ I_7.lt1 (Inv.a5A (Fi := []) I_7)), ?_⟩
 refine d8 (cap := []) (fun args w => Tryd.call175 args w) ?_
 refine m9 (Fi := []) (Fr := [bx g_2 138 (g8 x0.m5)]) b2n (h) (fun f0J b3Z f0K r7 a6d f0L b6K c3V => ?_) (fun _ _ _ _ _ q => q.elim)
 obtain ⟨a6c, rfl, rfl, h⟩ := c3V
 refine U6 (e := 124) (c := csl) (xs := [a6b, a6c]) a6d (c2D _ _ _ _ _ _) rfl rfl b4W b4X (nb rfl) fun a6v f0G d4I b6L b6B f0F => ?_
 obtain ⟨a8L, d4J, c3k, c3S, d4K⟩ := Inv.freezeC b6B b6L (by decide)
 replace h := h a6v a8L c3k c3S d4K
 refine d8 (cap := []) (fun args w => Tryd.call87 args w) ?_
 refine m9 (Fi := []) (Fr := [bx g_2 138 (g8 x0.m5)]) d4J (h) (fun g4v c0j g4w d4L a6t g4x f0M d4M => ?_) (fun _ _ _ _ _ q => q.elim)
 obtain ⟨b5j, rfl, rfl, h⟩ := d4M
 exact hR b5j c0j _ a6t.drop h
theorem a8M (x0 : L1) {H : Hp} {K : Sl → Hp → Prop} (h : W8 x0 H K) : a3R x0 H K := by
 intro w I
 refine e1g ?_
 refine a7L x0 I (fun r0 H' w' I' hk => ⟨H', _, I', r0, rfl, rfl, hk⟩) h
end Go.Proofs.YtnhkdkcgdcgmdaaDoor
