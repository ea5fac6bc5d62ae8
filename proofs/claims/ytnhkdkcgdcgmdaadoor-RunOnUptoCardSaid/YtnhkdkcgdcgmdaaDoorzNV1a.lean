/- Typed formulas of the program's functions, and the theorems that the contracts follow from them; printed by lift.py off the code. -/
import Derived.Test.YtnhkdkcgdcgmdaaDoorzNV1
namespace Go.Proofs.YtnhkdkcgdcgmdaaDoor
open Go.RowKit
set_option maxRecDepth 100000
set_option maxHeartbeats 2000000
variable {w0 w : World} {ps0 : Nat → Prop} {H0 H : Hp} {R : RT} {E : Pan}
def a2j (x0 : a8) (H : Hp) (K : ByteArray → Bool → Hp → Prop) : Prop :=
 (x0.a3Z = true →
 K ((((x0.S6)).O6).d6) true H) ∧
 (x0.a3Z = false →
 (x0.a4a = true →
 K ((((x0.i6)).d8).d6) ((decide (((((x0.i6)).d8).b9) = 1)) || (decide (((((x0.i6)).d8).b9) = 2))) H) ∧
 (x0.a4a = false →
 (x0.a3Y = true →
 K ((((x0.p8)).m5).d6) ((decide (((((x0.p8)).m5).b9) = 2)) || (decide (((((x0.p8)).m5).b9) = 4))) H) ∧
 (x0.a3Y = false →
 K ⟨#[]⟩ false H)))
theorem b3u (x0 : a8) {K : ByteArray → Bool → Hp → Prop} (I : Inv w0 ps0 H0 H [] w) (hR : ∀ (r0 : ByteArray) (r1 : Bool) (H' : Hp) (w' : World) (_ : Inv w0 ps0 H0 H' [] w') (_ : K r0 r1 H'), R (Value.tuple #[(Value.string r0), (vB r1)]) w') (h : a2j x0 H K) : c8S (u6 x0) w R E := by
 unfold a2j at h
 unfold c8S
 refine a7 (c1R x0) ?_
 refine a7 (m3 _ _ (vB x0.a3Z) rfl) ?_
 refine a7 (m3 _ _ _ rfl) ?_
 refine o4 (fun d5D => ?_) (fun d5D => ?_)
 ·replace h := h.1 d5D
  refine C2 I Tryd.zeroValue177 (cs := [(eS), (vi 0)]) rfl fun g_2 w_3 I_4 k_5 => ?_
  refine o9 I_4 Tryd.sizeOf177 (vs := [(Value.string ((((x0.S6)).O6).d6)), (vi ((((x0.S6)).O6).E6))]) (cs' := [(Value.string ((((x0.S6)).O6).d6)), (vi ((((x0.S6)).O6).E6))]) rfl rfl (nb rfl) rfl rfl fun w_6 I_7 k_8 => ?_
  refine a7 b0H ?_
  refine a7 a0F ?_
  refine b6 (ld1 Tryd.isAgg9 (I_7.at1 (o := 0) (vs := [(Value.string ((((x0.S6)).O6).d6))]) (nb rfl) rfl)) ?_
  exact hR ((((x0.S6)).O6).d6) true H _ I_7.drop h
 ·replace h := h.2 d5D
  refine a7 (c1S x0) ?_
  refine a7 (m3 _ _ (vB x0.a4a) rfl) ?_
  refine a7 (m3 _ _ _ rfl) ?_
  refine o4 (fun b6I => ?_) (fun b6I => ?_)
  ·replace h := h.1 b6I
   refine C2 I Tryd.zeroValue179 (cs := [(vi 0), (eS), (nS), (nS), (nS), (nS)]) rfl fun g4O a1e Q4 b6J => ?_
   refine o9 Q4 Tryd.sizeOf179 (vs := [(vi ((((x0.i6)).d8).b9)), (Value.string ((((x0.i6)).d8).d6)), (Value.slice ((((x0.i6)).d8).j7).a ((((x0.i6)).d8).j7).n ((((x0.i6)).d8).j7).c), (Value.slice ((((x0.i6)).d8).s6).a ((((x0.i6)).d8).s6).n ((((x0.i6)).d8).s6).c), (Value.slice ((((x0.i6)).d8).K3).a ((((x0.i6)).d8).K3).n ((((x0.i6)).d8).K3).c), (Value.slice ((((x0.i6)).d8).H9).a ((((x0.i6)).d8).H9).n ((((x0.i6)).d8).H9).c)]) (cs' := [(vi ((((x0.i6)).d8).b9)), (Value.string ((((x0.i6)).d8).d6)), (Value.slice ((((x0.i6)).d8).j7).a ((((x0.i6)).d8).j7).n ((((x0.i6)).d8).j7).c), (Value.slice ((((x0.i6)).d8).s6).a ((((x0.i6)).d8).s6).n ((((x0.i6)).d8).s6).c), (Value.slice ((((x0.i6)).d8).K3).a ((((x0.i6)).d8).K3).n ((((x0.i6)).d8).K3).c), (Value.slice ((((x0.i6)).d8).H9).a ((((x0.i6)).d8).H9).n ((((x0.i6)).d8).H9).c)]) rfl rfl (nb rfl) rfl rfl fun p5 c3T d5E => ?_
   refine V2 c3T fun a3F a5g => ?_
   refine i8 K5 ?_
   refine i8 a2d ?_
   refine i8 K5 ?_
   refine i8 a5J ?_
   refine r5 (ld1 Tryd.isAgg9 (a5g.at1 (o := 1) (vs := [(Value.string ((((x0.i6)).d8).d6))]) (nb rfl) rfl)) ?_
   refine r5 (ld1 Tryd.isAgg3 (a5g.at1 (o := 0) (vs := [(vi ((((x0.i6)).d8).b9))]) (nb rfl) rfl)) ?_
   refine i8 (j8 _ _ _ _ _ _) ?_
   refine i8 (Pu.g fun hb => by have b7 := hb; exact K5) ?_
   refine i8 (Pu.g fun hb => by have b7 := hb; simp only [l9 b7]; exact a5J) ?_
   refine c2v (p := (Value.pointer (some ⟨g4O, 0, none⟩))) rfl (Ld.g fun hb => by have b7 := hb; simp only [l9 b7]; exact (ld1 Tryd.isAgg3 (a5g.at1 (o := 0) (vs := [(vi ((((x0.i6)).d8).b9))]) (nb rfl) rfl))) ?_
   refine i8 (Pu.g fun hb => by have b7 := hb; simp only [l9 b7]; exact (j8 _ _ _ _ _ _)) ?_
   refine i8 (Q5 _ _) ?_
   exact hR ((((x0.i6)).d8).d6) ((decide (((((x0.i6)).d8).b9) = 1)) || (decide (((((x0.i6)).d8).b9) = 2))) H _ a5g.drop h
  ·replace h := h.2 b6I
   refine a7 (c1T x0) ?_
   refine a7 (m3 _ _ (vB x0.a3Y) rfl) ?_
   refine a7 (m3 _ _ _ rfl) ?_
   refine o4 (fun b6K => ?_) (fun b6K => ?_)
   ·replace h := h.1 b6K
    refine C2 I Tryd.zeroValue123 (cs := [(vi 0), (vi 0), (eS), (nS)]) rfl fun f1w a2J g4P g9o => ?_
    refine o9 g4P Tryd.sizeOf123 (vs := [(vi ((((x0.p8)).m5).b9)), (vi ((((x0.p8)).m5).C4)), (Value.string ((((x0.p8)).m5).d6)), (Value.slice ((((x0.p8)).m5).A5).a ((((x0.p8)).m5).A5).n ((((x0.p8)).m5).A5).c)]) (cs' := [(vi ((((x0.p8)).m5).b9)), (vi ((((x0.p8)).m5).C4)), (Value.string ((((x0.p8)).m5).d6)), (Value.slice ((((x0.p8)).m5).A5).a ((((x0.p8)).m5).A5).n ((((x0.p8)).m5).A5).c)]) rfl rfl (nb rfl) rfl rfl fun u9 a7x g4Q => ?_
    refine V2 a7x fun a3N b2n => ?_
    refine i8 W8 ?_
    refine i8 a4e ?_
    refine i8 W8 ?_
    refine i8 X1 ?_
    refine r5 (ld1 Tryd.isAgg9 (b2n.at1 (o := 2) (vs := [(Value.string ((((x0.p8)).m5).d6))]) (nb rfl) rfl)) ?_
    refine r5 (ld1 Tryd.isAgg3 (b2n.at1 (o := 0) (vs := [(vi ((((x0.p8)).m5).b9))]) (nb rfl) rfl)) ?_
    refine i8 (j8 _ _ _ _ _ _) ?_
    refine i8 (Pu.g fun hb => by have b7 := hb; exact W8) ?_
    refine i8 (Pu.g fun hb => by have b7 := hb; simp only [l9 b7]; exact X1) ?_
    refine c2v (p := (Value.pointer (some ⟨f1w, 0, none⟩))) rfl (Ld.g fun hb => by have b7 := hb; simp only [l9 b7]; exact (ld1 Tryd.isAgg3 (b2n.at1 (o := 0) (vs := [(vi ((((x0.p8)).m5).b9))]) (nb rfl) rfl))) ?_
    refine i8 (Pu.g fun hb => by have b7 := hb; simp only [l9 b7]; exact (j8 _ _ _ _ _ _)) ?_
    refine i8 (Q5 _ _) ?_
    exact hR ((((x0.p8)).m5).d6) ((decide (((((x0.p8)).m5).b9) = 2)) || (decide (((((x0.p8)).m5).b9) = 4))) H _ b2n.drop h
   ·replace h := h.2 b6K
    exact hR ⟨#[]⟩ false H _ I h
theorem b4l (x0 : a8) {H : Hp} {K : ByteArray → Bool → Hp → Prop} (h : a2j x0 H K) : a0M x0 H K := by
 intro w I
 refine e1Q ?_
 refine b3u x0 I (fun r0 r1 H' w' I' hk => ⟨H', _, I', r0, r1, rfl, rfl, hk⟩) h
def a2N (x0 : Int) (x1 : Int) (x2 : Int) (H : Hp) (K : Bool → Hp → Prop) : Prop :=
 K ((decide (x0 ≤ x2)) && (decide (x2 ≤ x1))) H
theorem b0L (x0 : Int) (x1 : Int) (x2 : Int) (g2 : Nat) {K : Bool → Hp → Prop} (I : Inv w0 ps0 H0 H [bx g2 21 [(Value.int .i32 x2)]] w) (hR : ∀ (r0 : Bool) (H' : Hp) (w' : World) (_ : Inv w0 ps0 H0 H' [bx g2 21 [(Value.int .i32 x2)]] w') (_ : K r0 H'), R (vB r0) w') (h : a2N x0 x1 x2 H K) : c9b (Value.int .i32 x0) (Value.int .i32 x1) (Value.pointer (some ⟨g2, 0, none⟩)) w R E := by
 unfold a2N at h
 unfold c9b
 refine b6 (ld1 Tryd.isAgg21 (I.at1 (o := 0) (vs := [(Value.int .i32 x2)]) (nb rfl) rfl)) ?_
 refine a7 (b3D _ _ _ _ _ _) ?_
 refine b6 (Ld.g fun hb => by have b7 := hb; exact (ld1 Tryd.isAgg21 (I.at1 (o := 0) (vs := [(Value.int .i32 x2)]) (nb rfl) rfl))) ?_
 simp only [L2]
 refine a7 (Pu.g fun hb => by have b7 := hb; simp only [l9 b7]; exact (b3D _ _ _ _ _ _)) ?_
 refine a7 (N0 _ _) ?_
 exact hR ((decide (x0 ≤ x2)) && (decide (x2 ≤ x1))) H _ I h
theorem b1i (x0 : Int) (x1 : Int) (x2 : Int) {H : Hp} {K : Bool → Hp → Prop} (h : a2N x0 x1 x2 H K) : G2 x0 x1 x2 H K := by
 intro g2 w I
 refine e2i ?_
 refine b0L x0 x1 x2 g2 I (fun r0 H' w' I' hk => ⟨H', _, I', r0, rfl, rfl, hk⟩) h
def a3d (H : Hp) (K : Bool → Hp → Prop) : Prop :=
 K true H
def L6 (b1j : ByteArray) (G3 : Nat) (H : Hp) (n2 : Nat → Hp → Prop) (K : Bool → Hp → Prop) : Prop :=
 (G3 < b1j.size →
 a3I ((Utf8.decode b1j G3).1 : Int) H (fun (b2o : Bool) (c3U : Hp) =>
 TG ((!(!b2o) && (decide (((G3 : Nat) : Int) = 0))) = true) (a1I ((Utf8.decode b1j G3).1 : Int) c3U) 0 c3U (fun (a7X : Int) (a4F : Hp) =>
 (((!b2o) || ((decide (((G3 : Nat) : Int) = 0)) && (!decide (a7X = 3)))) = true →
 K false a4F) ∧
 (((!b2o) || ((decide (((G3 : Nat) : Int) = 0)) && (!decide (a7X = 3)))) = false →
 n2 (G3 + (Utf8.decode b1j G3).2) a4F)))) ∧
 (¬ (G3 < b1j.size) →
 a3d H K)
def a2w (x0 : ByteArray) (H : Hp) (K : Bool → Hp → Prop) : Prop :=
 TG ((decide (x0 = ⟨#[]⟩)) = false) (a3D x0 H) false H (fun (E8 : Bool) (H_1 : Hp) =>
 TG (((decide (x0 = ⟨#[]⟩)) || (!E8)) = false) (a2t x0 H_1) false H_1 (fun (D4 : Bool) (a3K : Hp) =>
 TG ((((decide (x0 = ⟨#[]⟩)) || (!E8)) || D4) = false) (a1b x0 a3K) false a3K (fun (Y9 : Bool) (a1l : Hp) =>
 (((((decide (x0 = ⟨#[]⟩)) || (!E8)) || D4) || Y9) = true →
 K false a1l) ∧
 (((((decide (x0 = ⟨#[]⟩)) || (!E8)) || D4) || Y9) = false →
 TL (0 : Nat) a1l fun (s : Nat) H n2 => L6 x0 s H n2 K))))
theorem b4m (x0 : ByteArray) {K : Bool → Hp → Prop} (I : Inv w0 ps0 H0 H [] w) (hR : ∀ (r0 : Bool) (H' : Hp) (w' : World) (_ : Inv w0 ps0 H0 H' [] w') (_ : K r0 H'), R (vB r0) w') (h : a2w x0 H K) : c8T (Value.string x0) w R E := by
 unfold a2w at h
 unfold c8T
 refine a7 (a0Y _ _ _ _ _) ?_
 simp only [L2]
 refine a3y (D := fun v_5 w_2 => ∃ (E8 : Bool) (H_1 : Hp) , v_5 = (gv (decide (x0 = ⟨#[]⟩)) false (vB E8)) ∧ (Inv w0 ps0 H0 H_1 [] w_2) ∧ (∀ i, i < w.heap.size → ¬ inF [] i → w_2.heap[i]? = w.heap[i]?) ∧ Hle H H_1 ∧ (TG (((decide (x0 = ⟨#[]⟩)) || (!E8)) = false) (a2t x0 H_1) false H_1 (fun (D4 : Bool) (a3K : Hp) =>
 TG ((((decide (x0 = ⟨#[]⟩)) || (!E8)) || D4) = false) (a1b x0 a3K) false a3K (fun (Y9 : Bool) (a1l : Hp) =>
 (((((decide (x0 = ⟨#[]⟩)) || (!E8)) || D4) || Y9) = true →
 K false a1l) ∧
 (((((decide (x0 = ⟨#[]⟩)) || (!E8)) || D4) || Y9) = false →
 TL (0 : Nat) a1l fun (s : Nat) H n2 => L6 x0 s H n2 K))))) (fun b8y => ?_) (fun b8y => ?_) ?_
 ·replace h := h.1 b8y
  have b7 := b8y
  simp only [l9 b7]
  refine d5 (cap := []) (fun args w => Tryd.call137 args w) ?_
  refine m8 (Fi := []) (Fr := []) I (h) (fun v_5 H_1 F_6 w_2 I_3 l_8 k_4 q_7 => ?_) (fun _ _ _ _ _ q => q.elim)
  obtain ⟨E8, rfl, rfl, h⟩ := q_7
  exact ⟨E8, H_1, by rfl, I_3, k_4, l_8, h⟩
 ·exact ⟨false, H, by rw [a6p b8y], I, fun _ _ _ => rfl, Hle.refl _, h.2 b8y⟩
 ·clear h
  rintro v_5 w_2 ⟨E8, H_1, rfl, I_3, k_4, l_8, h⟩
  refine a7 (Pu.g fun hb => by have b7 := hb; simp only [l9 b7]; exact (V5 _)) ?_
  refine a7 (Q5 _ _) ?_
  simp only [L2]
  refine a3y (D := fun c9p a1e => ∃ (D4 : Bool) (a3K : Hp) , c9p = (gv ((decide (x0 = ⟨#[]⟩)) || (!E8)) false (vB D4)) ∧ (Inv w0 ps0 H0 a3K [] a1e) ∧ (∀ i, i < w_2.heap.size → ¬ inF [] i → a1e.heap[i]? = w_2.heap[i]?) ∧ Hle H_1 a3K ∧ (TG ((((decide (x0 = ⟨#[]⟩)) || (!E8)) || D4) = false) (a1b x0 a3K) false a3K (fun (Y9 : Bool) (a1l : Hp) =>
 (((((decide (x0 = ⟨#[]⟩)) || (!E8)) || D4) || Y9) = true →
 K false a1l) ∧
 (((((decide (x0 = ⟨#[]⟩)) || (!E8)) || D4) || Y9) = false →
 TL (0 : Nat) a1l fun (s : Nat) H n2 => L6 x0 s H n2 K)))) (fun c3V => ?_) (fun c3V => ?_) ?_
  ·replace h := h.1 c3V
   have b7 := c3V
   simp only [l9 b7]
   refine d5 (cap := []) (fun args w => Tryd.call138 args w) ?_
   refine m8 (Fi := []) (Fr := []) I_3 (h) (fun c9p a3K g4R a1e Q4 c0n b6J d5F => ?_) (fun _ _ _ _ _ q => q.elim)
   obtain ⟨D4, rfl, rfl, h⟩ := d5F
   exact ⟨D4, a3K, by rfl, Q4, b6J, c0n, h⟩
  ·exact ⟨false, H_1, by rw [a6p c3V], I_3, fun _ _ _ => rfl, Hle.refl _, h.2 c3V⟩
  ·clear h
   rintro c9p a1e ⟨D4, a3K, rfl, Q4, b6J, c0n, h⟩
   refine a7 (Q5 _ _) ?_
   simp only [L2]
   refine a3y (D := fun c9q q7 => ∃ (Y9 : Bool) (a1l : Hp) , c9q = (gv (((decide (x0 = ⟨#[]⟩)) || (!E8)) || D4) false (vB Y9)) ∧ (Inv w0 ps0 H0 a1l [] q7) ∧ (∀ i, i < a1e.heap.size → ¬ inF [] i → q7.heap[i]? = a1e.heap[i]?) ∧ Hle a3K a1l ∧ ((((((decide (x0 = ⟨#[]⟩)) || (!E8)) || D4) || Y9) = true →
 K false a1l) ∧
 (((((decide (x0 = ⟨#[]⟩)) || (!E8)) || D4) || Y9) = false →
 TL (0 : Nat) a1l fun (s : Nat) H n2 => L6 x0 s H n2 K))) (fun c3W => ?_) (fun c3W => ?_) ?_
   ·replace h := h.1 c3W
    have b7 := c3W
    simp only [l9 b7]
    refine d5 (cap := []) (fun args w => Tryd.call139 args w) ?_
    refine m8 (Fi := []) (Fr := []) Q4 (h) (fun c9q a1l g4S q7 a4G d5G c9r d5H => ?_) (fun _ _ _ _ _ q => q.elim)
    obtain ⟨Y9, rfl, rfl, h⟩ := d5H
    exact ⟨Y9, a1l, by rfl, a4G, c9r, d5G, h⟩
   ·exact ⟨false, a3K, by rw [a6p c3W], Q4, fun _ _ _ => rfl, Hle.refl _, h.2 c3W⟩
   ·clear h
    rintro c9q q7 ⟨Y9, a1l, rfl, a4G, c9r, d5G, h⟩
    refine a7 (Q5 _ _) ?_
    refine o4 (fun d5I => ?_) (fun d5I => ?_)
    ·replace h := h.1 d5I
     exact hR false a1l _ a4G h
    ·replace h := h.2 d5I
     have hj1 : ∀ (H : Hp) (w : World) (_ : Inv w0 ps0 H0 H [] w) (_ : a3d H K), b9U w R E := by
      intro H w I h
      unfold b9U
      intro _
      unfold a3d at h
      exact hR true H _ I h
     refine u7 fun j1 hx1 => ?_
     refine c7B Tryd.underlying9 x0 a4G fun c9s E0 b6L f1x => ?_
     obtain ⟨d5J, c3X, g4T, g4U⟩ := h
     refine H7 (J := fun n l w => ∃ (s : Nat) (H : Hp) , n = c3X s ∧ l = [] ∧ Inv w0 ps0 H0 H [itf c9s x0 s] w ∧ d5J s H) ⟨_, 0, a1l, rfl, rfl, b6L, g4T⟩ ?_
     rintro g9p τ_94 w next2 ⟨G3, H, rfl, g4V, I, g4W⟩ hn2
     clear g4V
     obtain ⟨n2, hm2, h⟩ : ∃ n2 : Nat → Hp → Prop, (∀ s' H', n2 s' H' → d5J s' H' ∧ c3X s' < c3X G3) ∧ L6 x0 G3 H n2 K := ⟨_, fun _ _ h => h, g4U G3 H (fun s' H' => d5J s' H' ∧ c3X s' < c3X G3) g4W (fun _ _ a b => ⟨a, b⟩)⟩
     unfold c7H
     unfold L6 at h
     refine d2e I (fun a8S b6M g4X g9q => ?_) (fun a8S => ?_)
     ·replace h := h.1 a8S
      refine a7 (m3 _ _ (vB true) rfl) ?_
      refine o4 (fun e => ?_) (fun e => by cases e)
      refine a7 (m3 _ _ (vi ((G3 : Nat) : Int)) rfl) ?_
      refine a7 (m3 _ _ (Value.int .i32 ((Utf8.decode x0 G3).1 : Int)) rfl) ?_
      refine d5 (cap := []) (fun args w => Tryd.call140 args w) ?_
      refine m8 (Fi := []) (Fr := [itf c9s x0 (G3 + (Utf8.decode x0 G3).2)]) g4X (h) (fun d5K c3U g9r M2 c3Y g9s g4Y g4Z => ?_) (fun _ _ _ _ _ q => q.elim)
      obtain ⟨b2o, rfl, rfl, h⟩ := g4Z
      refine a7 (V5 _) ?_
      simp only [L2]
      refine a7 (Pu.g fun hb => by have b7 := hb; simp only [l9 b7]; exact (j8 _ _ _ _ _ _)) ?_
      simp only [c8G, e7p]
      refine b0i (a3X _ _ _) ?_
      refine a3y (D := fun c9t b2p => ∃ (a7X : Int) (a4F : Hp) , c9t = (gv (!(!b2o) && (decide (((G3 : Nat) : Int) = 0))) true (vi a7X)) ∧ (Inv w0 ps0 H0 a4F [itf c9s x0 (G3 + (Utf8.decode x0 G3).2)] b2p) ∧ (∀ i, i < M2.heap.size → ¬ inF [] i → b2p.heap[i]? = M2.heap[i]?) ∧ Hle c3U a4F ∧ ((((!b2o) || ((decide (((G3 : Nat) : Int) = 0)) && (!decide (a7X = 3)))) = true →
 K false a4F) ∧
 (((!b2o) || ((decide (((G3 : Nat) : Int) = 0)) && (!decide (a7X = 3)))) = false →
 n2 (G3 + (Utf8.decode x0 G3).2) a4F))) (fun c0o => ?_) (fun c0o => ?_) ?_
      ·replace h := h.1 c0o
       obtain ⟨b7, b4n⟩ := a7L c0o
       simp only [l9 c0o]
       refine d5 (cap := []) (fun args w => Tryd.call141 args w) ?_
       refine m8 (Fi := []) (Fr := [itf c9s x0 (G3 + (Utf8.decode x0 G3).2)]) c3Y (h) (fun c9t a4F g5a b2p c0p d5L d5M d5N => ?_) (fun _ _ _ _ _ q => q.elim)
       obtain ⟨a7X, rfl, rfl, h⟩ := d5N
       exact ⟨a7X, a4F, by rfl, c0p, d5M, d5L, h⟩
      ·exact ⟨0, c3U, by rw [a6p c0o], c3Y, fun _ _ _ => rfl, Hle.refl _, h.2 c0o⟩
      ·clear h
       rintro c9t b2p ⟨a7X, a4F, rfl, c0p, d5M, d5L, h⟩
       refine a7 (Pu.e (a3X _ _ _) (Pu.g fun hb => by obtain ⟨b7, b4n⟩ := a7L hb; simp only [l9 hb]; exact (N4 _ _ _ _ _ _))) ?_
       refine a7 (Pu.g fun hb => by have b7 := hb; simp only [l9 b7, c2x b7]; exact (N0 _ _)) ?_
       refine a7 (Q5 _ _) ?_
       refine o4 (fun a8T => ?_) (fun a8T => ?_)
       ·replace h := h.1 a8T
        exact hR false a4F _ c0p.drop h
       ·replace h := h.2 a8T
        exact hn2 _ _ _ (hm2 _ _ h).2 ⟨(G3 + (Utf8.decode x0 G3).2), a4F, rfl, rfl, c0p, (hm2 _ _ h).1⟩
     ·replace h := h.2 a8S
      refine a7 (m3 _ _ (vB false) rfl) ?_
      refine o4 (fun e => by cases e) (fun e => ?_)
      exact hx1 _ _ (hj1 H _ I.drop h)
theorem b6b (x0 : ByteArray) {H : Hp} {K : Bool → Hp → Prop} (h : a2w x0 H K) : a2u x0 H K := by
 intro w I
 refine e1S ?_
 refine b4m x0 I (fun r0 H' w' I' hk => ⟨H', _, I', r0, rfl, rfl, hk⟩) h
def G9 (a6u : Int) (a6v : Int) (a6w : Int) (a6x : Bool) (a6y : Bool) (a7j : (List ByteArray)) (H : Hp) (K : g8 → Hp → Prop) : Prop :=
 ∀ (a1w : Sl) (a6g : Hp), Hle H a6g → SlH a6g 1 C9 a1w a7j → a1w.n ≤ a1w.c →
 K (g8.mk a6u a6v a6w a6x a6y a1w) a6g
def a1m (x0 : Sl) (H : Hp) (K : g8 → Hp → Prop) : Prop :=
 U3 x0 1 (g8.mk 0 0 0 false false (Sl.mk none 0 0)) [] H (fun (c9u : Bool) (B5 : g8) (a4m : (List ByteArray)) (b2q : Hp) =>
 ((!c9u) = true →
 G9 ((B5).fnodes) ((B5).fdepth) ((B5).fe) ((B5).fform) ((B5).fnamed) a4m b2q K) ∧
 ((!c9u) = false →
 (((B5).fform) = true →
 G9 ((B5).fnodes) ((B5).fdepth) 30 ((B5).fform) ((B5).fnamed) a4m b2q K) ∧
 (((B5).fform) = false →
 (((B5).fnamed) = true →
 G9 ((B5).fnodes) ((B5).fdepth) 31 ((B5).fform) ((B5).fnamed) a4m b2q K) ∧
 (((B5).fnamed) = false →
 G9 ((B5).fnodes) ((B5).fdepth) ((B5).fe) ((B5).fform) ((B5).fnamed) a4m b2q K))))
theorem b1k (x0 : Sl) {K : g8 → Hp → Prop} (I : Inv w0 ps0 H0 H [] w) (hR : ∀ (r0 : g8) (gr0 : Nat) (H' : Hp) (w' : World) (_ : Inv w0 ps0 H0 H' [bx gr0 106 (a4h r0)] w') (_ : K r0 H'), R (Value.pointer (some ⟨gr0, 0, none⟩)) w') (h : a1m x0 H K) : F60 (vs x0) w R E := by
 unfold a1m at h
 unfold F60
 refine a7 (c8O ) ?_
 refine O4 I (cs := [(vi 0), (vi 0), (vi 0), (vB false), (vB false), (nS)]) rfl fun g_2 w_3 I_4 k_5 => ?_
 refine C2 I_4 Tryd.zeroValue102 (cs := [(Value.pointer none)]) rfl fun g_7 w_8 I_9 d5O => ?_
 refine o9 I_9 Tryd.sizeOf102 (vs := [(Value.pointer (some ⟨g_2, 0, none⟩))]) (cs' := [(Value.pointer (some ⟨g_2, 0, none⟩))]) rfl rfl (nb rfl) rfl rfl fun a1e Q4 b6J => ?_
 refine C2 Q4 Tryd.zeroValue161 (cs := [Value.nilFunc]) rfl fun b2r p9 c0q f1y => ?_
 refine a7 (b0B _ _ _) ?_
 refine o9 c0q Tryd.sizeOf161 (vs := [(Value.func (.func 99) #[] #[(Value.pointer (some ⟨g_7, 0, none⟩)), (Value.pointer (some ⟨b2r, 0, none⟩))])]) (cs' := [(Value.func (.func 99) #[] #[(Value.pointer (some ⟨g_7, 0, none⟩)), (Value.pointer (some ⟨b2r, 0, none⟩))])]) rfl rfl (nb rfl) rfl rfl fun a5U c9v g5b => ?_
 have hj1 : ∀ (a6u : Int) (a6v : Int) (a6w : Int) (a6x : Bool) (a6y : Bool) (a7j : (List ByteArray)) (a1w : Sl) (Fcr_1j1_5 : Frag) (H : Hp) (w : World) (_ : RowL 9 1 C9 a1w a7j Fcr_1j1_5) (_ : Inv w0 ps0 H0 H [bx g_7 102 [(Value.pointer (some ⟨g_2, 0, none⟩))], bx g_2 106 [(vi a6u), (vi a6v), (vi a6w), (vB a6x), (vB a6y), (vs a1w)], bx b2r 161 [(Value.func (.func 99) #[] #[(Value.pointer (some ⟨g_7, 0, none⟩)), (Value.pointer (some ⟨b2r, 0, none⟩))])], Fcr_1j1_5] w) (_ : G9 a6u a6v a6w a6x a6y a7j H K), c2R (Value.pointer (some ⟨g_7, 0, none⟩)) w R E := by
  intro a6u a6v a6w a6x a6y a7j a1w Fcr_1j1_5 H w d3d I h
  unfold c2R
  intro _
  unfold G9 at h
  refine b6 (ld1 Tryd.isAgg102 (I.at1 (o := 0) (vs := [(Value.pointer (some ⟨g_2, 0, none⟩))]) (nb rfl) rfl)) ?_
  obtain ⟨a6g, c3Z, g5c, a6z, c4a⟩ := Inv.freezeC (I.bring 3) d3d (by decide)
  replace h := h a1w a6g g5c a6z c4a
  exact hR (g8.mk a6u a6v a6w a6x a6y a1w) g_2 a6g _ (c3Z.drop.bring 1).drop h
 refine u7 fun j1 hx1 => ?_
 refine b6 (ld1 Tryd.isAgg161 (c9v.at1 (o := 0) (vs := [(Value.func (.func 99) #[] #[(Value.pointer (some ⟨g_7, 0, none⟩)), (Value.pointer (some ⟨b2r, 0, none⟩))])]) (nb rfl) rfl)) ?_
 refine d5 (cap := [(Value.pointer (some ⟨g_7, 0, none⟩)), (Value.pointer (some ⟨b2r, 0, none⟩))]) (fun args w => Tryd.call99 args w) ?_
 refine m8 (Fi := [bx g_7 102 [(Value.pointer (some ⟨g_2, 0, none⟩))], bx g_2 106 [(vi 0), (vi 0), (vi 0), (vB false), (vB false), (Value.slice (Sl.mk none 0 0).a (Sl.mk none 0 0).n (Sl.mk none 0 0).c)], [], bx b2r 161 [(Value.func (.func 99) #[] #[(Value.pointer (some ⟨g_7, 0, none⟩)), (Value.pointer (some ⟨b2r, 0, none⟩))])]]) (Fr := []) ((((c9v.nil.bring 1).bring 1).bring 3).bring 3) (h g_7 g_2 b2r (Sl.mk none 0 0) ([]) (RowL.nil (e := 9) b6r b6s)) (fun g9t b2q f1z u9 a7x g9u g4Q g5d => ?_) (fun _ _ _ _ _ q => q.elim)
 obtain ⟨c9u, B5, a4m, a6A, b2s, rfl, rfl, b2t, h⟩ := g5d
 refine a7 (V5 _) ?_
 refine o4 (fun d5P => ?_) (fun d5P => ?_)
 ·replace h := h.1 d5P
  exact hx1 _ _ (hj1 ((B5).fnodes) ((B5).fdepth) ((B5).fe) ((B5).fform) ((B5).fnamed) a4m a6A b2s b2q _ b2t ((((a7x.bring 2).bring 3).bring 3).bring 3) h)
 ·replace h := h.2 d5P
  refine b6 (ld1 Tryd.isAgg102 (a7x.at1 (o := 0) (vs := [(Value.pointer (some ⟨g_2, 0, none⟩))]) (nb rfl) rfl)) ?_
  refine a7 (p7 _) ?_
  refine a7 b0E ?_
  refine b6 (ld1 Tryd.isAgg4 ((a7x.bring 1).at1 (o := 3) (vs := [(vB ((B5).fform))]) (nb rfl) rfl)) ?_
  refine o4 (fun a3e => ?_) (fun a3e => ?_)
  ·replace h := h.1 a3e
   refine b6 (ld1 Tryd.isAgg102 (a7x.at1 (o := 0) (vs := [(Value.pointer (some ⟨g_2, 0, none⟩))]) (nb rfl) rfl)) ?_
   refine a7 (p7 _) ?_
   refine a7 a4K ?_
   refine o9 (a7x.bring 1) Tryd.sizeOf29 (vs := [(vi 30)]) (cs' := [(vi ((B5).fnodes)), (vi ((B5).fdepth)), (vi 30), (vB ((B5).fform)), (vB ((B5).fnamed)), (vs a6A)]) rfl rfl (nb rfl) rfl rfl fun c9w b6N g9v => ?_
   exact hx1 _ _ (hj1 ((B5).fnodes) ((B5).fdepth) 30 ((B5).fform) ((B5).fnamed) a4m a6A b2s b2q _ b2t ((((b6N.bring 2).bring 3).bring 2).bring 3) h)
  ·replace h := h.2 a3e
   refine b6 (ld1 Tryd.isAgg102 (a7x.at1 (o := 0) (vs := [(Value.pointer (some ⟨g_2, 0, none⟩))]) (nb rfl) rfl)) ?_
   refine a7 (p7 _) ?_
   refine a7 b0F ?_
   refine b6 (ld1 Tryd.isAgg4 ((a7x.bring 1).at1 (o := 4) (vs := [(vB ((B5).fnamed))]) (nb rfl) rfl)) ?_
   refine o4 (fun d5Q => ?_) (fun d5Q => ?_)
   ·replace h := h.1 d5Q
    refine b6 (ld1 Tryd.isAgg102 (a7x.at1 (o := 0) (vs := [(Value.pointer (some ⟨g_2, 0, none⟩))]) (nb rfl) rfl)) ?_
    refine a7 (p7 _) ?_
    refine a7 a4K ?_
    refine o9 (a7x.bring 1) Tryd.sizeOf29 (vs := [(vi 31)]) (cs' := [(vi ((B5).fnodes)), (vi ((B5).fdepth)), (vi 31), (vB ((B5).fform)), (vB ((B5).fnamed)), (vs a6A)]) rfl rfl (nb rfl) rfl rfl fun E3 c9x g5e => ?_
    exact hx1 _ _ (hj1 ((B5).fnodes) ((B5).fdepth) 31 ((B5).fform) ((B5).fnamed) a4m a6A b2s b2q _ b2t ((((c9x.bring 2).bring 3).bring 2).bring 3) h)
   ·replace h := h.2 d5Q
    exact hx1 _ _ (hj1 ((B5).fnodes) ((B5).fdepth) ((B5).fe) ((B5).fform) ((B5).fnamed) a4m a6A b2s b2q _ b2t ((((a7x.bring 2).bring 3).bring 3).bring 3) h)
theorem b2u (x0 : Sl) {H : Hp} {K : g8 → Hp → Prop} (h : a1m x0 H K) : a2Z x0 H K := by
 intro w I
 refine e7Q ?_
 refine b1k x0 I (fun r0 gr0 H' w' I' hk => ⟨H', _, I', r0, gr0, rfl, rfl, hk⟩) h
def v8 (X8 : (List a8)) (H : Hp) (K : Sl → Hp → Prop) : Prop :=
 ∀ (E9 : Sl) (a0o : Hp), Hle H a0o → SlH a0o 1 o7 E9 X8 → E9.n ≤ E9.c →
 K E9 a0o
def y6 (a0S : Sl) (a0p : Int) (t8 : (List a8)) (r8 : Int) (H : Hp) (n2 : ((List a8) × Int) → Hp → Prop) (K : Sl → Hp → Prop) : Prop :=
 (r8 < a0p →
 (0 : Int) ≤ r8 ∧ (r8 : Int) < a0S.n ∧ ∃ x_1 : j9, EltH H a0S r8 2 (m7 x_1) ∧
 a6c x_1 H (fun (Q8 : a8) (a2O : Hp) =>
 (t8.length + ([Q8] : List a8).length) * 17 ≤ 140737488355328 ∧
 n2 ((t8 ++ [Q8]), (IntKind.wrap .i64 (r8 + 1))) a2O)) ∧
 (¬ (r8 < a0p) →
 v8 t8 H K)
def A9 (x0 : Sl) (H : Hp) (K : Sl → Hp → Prop) : Prop :=
 TL (([], 0) : (List a8) × Int) H fun (s : (List a8) × Int) H n2 => y6 x0 (x0.n : Int) s.1 s.2 H n2 K
theorem a0e (x0 : Sl) {K : Sl → Hp → Prop} (I : Inv w0 ps0 H0 H [] w) (hR : ∀ (r0 : Sl) (H' : Hp) (w' : World) (_ : Inv w0 ps0 H0 H' [] w') (_ : K r0 H'), R (vs r0) w') (h : A9 x0 H K) : F88 (vs x0) (fC 89) w R E := by
 unfold A9 at h
 unfold F88
 have hj1 : ∀ (X8 : (List a8)) (E9 : Sl) (Fs5j1 : Frag) (H : Hp) (w : World) (_ : RowL 152 1 o7 E9 X8 Fs5j1) (_ : Inv w0 ps0 H0 H [Fs5j1] w) (_ : v8 X8 H K), c2Y (vs E9) w R E := by
  intro X8 E9 Fs5j1 H w b2v I h
  unfold c2Y
  intro _
  unfold v8 at h
  obtain ⟨a0o, a6B, b4o, a6C, a7y⟩ := Inv.freezeC I b2v (by decide)
  replace h := h E9 a0o b4o a6C a7y
  exact hR E9 a0o _ a6B h
 refine u7 fun j1 hx1 => ?_
 refine a7 (b0k _ _ _) ?_
 obtain ⟨a5h, a1H, b6O, b6P⟩ := h
 refine H7 (J := fun n l w => ∃ (s : (List a8) × Int) (H : Hp) (X9 : Sl) (Fs5l2 : Frag) , n = a1H s ∧ l = (match s with | (t8, r8) => [(vs X9), (vi r8)]) ∧ (match s with | (t8, r8) => RowL 152 1 o7 X9 t8 Fs5l2) ∧ (match s with | (t8, r8) => Inv w0 ps0 H0 H [Fs5l2] w) ∧ a5h s H) ⟨_, ([], 0), H, (Sl.mk none 0 0), [], rfl, rfl, (RowL.nil N5 Q3), I.nil, b6O⟩ ?_
 rintro d5R τ_50 w next2 ⟨⟨t8, r8⟩, H, X9, Fs5l2, rfl, a5i, a3f, I, b6Q⟩ hn2
 dsimp only at a5i I a3f
 simp only [List.map_cons, List.map_nil, List.cons.injEq, and_true] at a5i
 obtain ⟨e5, e10⟩ := a5i
 simp only [e5, e10]
 obtain ⟨n2, hm2, h⟩ : ∃ n2 : ((List a8) × Int) → Hp → Prop, (∀ s' H', n2 s' H' → a5h s' H' ∧ a1H s' < a1H (t8, r8)) ∧ y6 x0 (x0.n : Int) t8 r8 H n2 K := ⟨_, fun _ _ h => h, b6P (t8, r8) H (fun s' H' => a5h s' H' ∧ a1H s' < a1H (t8, r8)) b6Q (fun _ _ a b => ⟨a, b⟩)⟩
 unfold d2m
 unfold y6 at h
 refine a7 (A7 _ _ _ _ _ _) ?_
 refine i5 (fun a3e => ?_) (fun a3e => ?_)
 ·replace h := h.1 a3e
  obtain ⟨h_4, h_5, x_1, h_7, h⟩ := h
  obtain ⟨g_2, o_3, h_6, h_7⟩ := h_7
  refine a7 (b2a h_6 _ _ _ _ h_4 h_5) ?_
  refine b6 (ldA (vs := (m7 x_1)) Tryd.isAgg58 Tryd.sizeOf58 rfl (I.atH h_7)) ?_
  refine C2 I Tryd.zeroValue58 (cs := [(eS), (vi 0)]) rfl fun g_9 o0 a5j c0r => ?_
  refine o9 a5j Tryd.sizeOf58 (vs := (m7 x_1)) (cs' := (m7 x_1)) rfl rfl (nb rfl) rfl rfl fun T6 Y0 a3g => ?_
  refine b6 (ldA Tryd.isAgg58 Tryd.sizeOf58 rfl (Y0.at1 (o := 0) (vs := (m7 x_1)) (nb rfl) rfl)) ?_
  refine d5 (cap := []) (fun args w => Tryd.call89 args w) ?_
  refine m8 (Fi := []) (Fr := [bx g_9 58 (m7 x_1), Fs5l2]) Y0 (h) (fun c9y a2O c9z a3F a5g c9A c9B b2w => ?_) (fun _ _ _ _ _ q => q.elim)
  obtain ⟨Q8, rfl, rfl, h⟩ := b2w
  refine a1Q (e := 152) (c := o7) (xs := [Q8]) a5g (b1Z _) rfl rfl N5 Q3 (nb rfl) fun b2x c0s C8 a8U a4H c4b => ?_
  obtain ⟨b2y, h⟩ := h
  refine b1d (s := X9) (xs := t8) (a4H.bring 2) a3f (a8U.srcO ((a4H.bring 2).bring 1)) b2y fun b6R b6S D3 a6z a7z c9C => ?_
  refine a7 (C6 _ _ _ _ _ _) ?_
  exact hn2 _ _ _ (hm2 _ _ h).2 ⟨((t8 ++ [Q8]), (IntKind.wrap .i64 (r8 + 1))), a2O, b6R, b6S, rfl, rfl, a6z, ((a7z.bring 1).drop.bring 1).drop, (hm2 _ _ h).1⟩
 ·replace h := h.2 a3e
  exact hx1 _ _ (hj1 t8 X9 Fs5l2 H _ a3f I h)
theorem a0q (x0 : Sl) {H : Hp} {K : Sl → Hp → Prop} (h : A9 x0 H K) : E4 x0 H K := by
 intro w I
 refine e8a ?_
 refine a0e x0 I (fun r0 H' w' I' hk => ⟨H', _, I', r0, rfl, rfl, hk⟩) h
def y7 (X8 : (List a8)) (H : Hp) (K : Sl → Hp → Prop) : Prop :=
 ∀ (E9 : Sl) (a0o : Hp), Hle H a0o → SlH a0o 1 o7 E9 X8 → E9.n ≤ E9.c →
 K E9 a0o
def y8 (a0S : Sl) (a0p : Int) (t8 : (List a8)) (r8 : Int) (H : Hp) (n2 : ((List a8) × Int) → Hp → Prop) (K : Sl → Hp → Prop) : Prop :=
 (r8 < a0p →
 (0 : Int) ≤ r8 ∧ (r8 : Int) < a0S.n ∧ ∃ x_1 : r6, EltH H a0S r8 6 (g7 x_1) ∧
 a6d x_1 H (fun (Q8 : a8) (a2O : Hp) =>
 (t8.length + ([Q8] : List a8).length) * 17 ≤ 140737488355328 ∧
 n2 ((t8 ++ [Q8]), (IntKind.wrap .i64 (r8 + 1))) a2O)) ∧
 (¬ (r8 < a0p) →
 y7 t8 H K)
def B0 (x0 : Sl) (H : Hp) (K : Sl → Hp → Prop) : Prop :=
 TL (([], 0) : (List a8) × Int) H fun (s : (List a8) × Int) H n2 => y8 x0 (x0.n : Int) s.1 s.2 H n2 K
theorem a0f (x0 : Sl) {K : Sl → Hp → Prop} (I : Inv w0 ps0 H0 H [] w) (hR : ∀ (r0 : Sl) (H' : Hp) (w' : World) (_ : Inv w0 ps0 H0 H' [] w') (_ : K r0 H'), R (vs r0) w') (h : B0 x0 H K) : F90 (vs x0) (fC 91) w R E := by
 unfold B0 at h
 unfold F90
 have hj1 : ∀ (X8 : (List a8)) (E9 : Sl) (Fs5j1 : Frag) (H : Hp) (w : World) (_ : RowL 152 1 o7 E9 X8 Fs5j1) (_ : Inv w0 ps0 H0 H [Fs5j1] w) (_ : y7 X8 H K), c2Z (vs E9) w R E := by
  intro X8 E9 Fs5j1 H w b2v I h
  unfold c2Z
  intro _
  unfold y7 at h
  obtain ⟨a0o, a6B, b4o, a6C, a7y⟩ := Inv.freezeC I b2v (by decide)
  replace h := h E9 a0o b4o a6C a7y
  exact hR E9 a0o _ a6B h
 refine u7 fun j1 hx1 => ?_
 refine a7 (a5y _ _ _) ?_
 obtain ⟨a5h, a1H, b6O, b6P⟩ := h
 refine H7 (J := fun n l w => ∃ (s : (List a8) × Int) (H : Hp) (X9 : Sl) (Fs5l2 : Frag) , n = a1H s ∧ l = (match s with | (t8, r8) => [(vs X9), (vi r8)]) ∧ (match s with | (t8, r8) => RowL 152 1 o7 X9 t8 Fs5l2) ∧ (match s with | (t8, r8) => Inv w0 ps0 H0 H [Fs5l2] w) ∧ a5h s H) ⟨_, ([], 0), H, (Sl.mk none 0 0), [], rfl, rfl, (RowL.nil N5 Q3), I.nil, b6O⟩ ?_
 rintro d5R τ_50 w next2 ⟨⟨t8, r8⟩, H, X9, Fs5l2, rfl, a5i, a3f, I, b6Q⟩ hn2
 dsimp only at a5i I a3f
 simp only [List.map_cons, List.map_nil, List.cons.injEq, and_true] at a5i
 obtain ⟨e5, e10⟩ := a5i
 simp only [e5, e10]
 obtain ⟨n2, hm2, h⟩ : ∃ n2 : ((List a8) × Int) → Hp → Prop, (∀ s' H', n2 s' H' → a5h s' H' ∧ a1H s' < a1H (t8, r8)) ∧ y8 x0 (x0.n : Int) t8 r8 H n2 K := ⟨_, fun _ _ h => h, b6P (t8, r8) H (fun s' H' => a5h s' H' ∧ a1H s' < a1H (t8, r8)) b6Q (fun _ _ a b => ⟨a, b⟩)⟩
 unfold d2n
 unfold y8 at h
 refine a7 (A7 _ _ _ _ _ _) ?_
 refine i5 (fun a3e => ?_) (fun a3e => ?_)
 ·replace h := h.1 a3e
  obtain ⟨h_4, h_5, x_1, h_7, h⟩ := h
  obtain ⟨g_2, o_3, h_6, h_7⟩ := h_7
  refine a7 (b6E h_6 _ _ _ _ h_4 h_5) ?_
  refine b6 (ldA (vs := (g7 x_1)) Tryd.isAgg63 Tryd.sizeOf63 rfl (I.atH h_7)) ?_
  refine C2 I Tryd.zeroValue63 (cs := [(vi 0), (eS), (nS), (nS), (nS), (nS)]) rfl fun g_9 o0 a5j c0r => ?_
  refine o9 a5j Tryd.sizeOf63 (vs := (g7 x_1)) (cs' := (g7 x_1)) rfl rfl (nb rfl) rfl rfl fun T6 Y0 a3g => ?_
  refine b6 (ldA Tryd.isAgg63 Tryd.sizeOf63 rfl (Y0.at1 (o := 0) (vs := (g7 x_1)) (nb rfl) rfl)) ?_
  refine d5 (cap := []) (fun args w => Tryd.call91 args w) ?_
  refine m8 (Fi := []) (Fr := [bx g_9 63 (g7 x_1), Fs5l2]) Y0 (h) (fun c9y a2O c9z a3F a5g c9A c9B b2w => ?_) (fun _ _ _ _ _ q => q.elim)
  obtain ⟨Q8, rfl, rfl, h⟩ := b2w
  refine a1Q (e := 152) (c := o7) (xs := [Q8]) a5g (b1Z _) rfl rfl N5 Q3 (nb rfl) fun b2x c0s C8 a8U a4H c4b => ?_
  obtain ⟨b2y, h⟩ := h
  refine b1d (s := X9) (xs := t8) (a4H.bring 2) a3f (a8U.srcO ((a4H.bring 2).bring 1)) b2y fun b6R b6S D3 a6z a7z c9C => ?_
  refine a7 (C6 _ _ _ _ _ _) ?_
  exact hn2 _ _ _ (hm2 _ _ h).2 ⟨((t8 ++ [Q8]), (IntKind.wrap .i64 (r8 + 1))), a2O, b6R, b6S, rfl, rfl, a6z, ((a7z.bring 1).drop.bring 1).drop, (hm2 _ _ h).1⟩
 ·replace h := h.2 a3e
  exact hx1 _ _ (hj1 t8 X9 Fs5l2 H _ a3f I h)
theorem a0r (x0 : Sl) {H : Hp} {K : Sl → Hp → Prop} (h : B0 x0 H K) : s8 x0 H K := by
 intro w I
 refine e8e ?_
 refine a0f x0 I (fun r0 H' w' I' hk => ⟨H', _, I', r0, rfl, rfl, hk⟩) h
def a1o (x0 : l7) (H : Hp) (K : a8 → Hp → Prop) : Prop :=
 K (a8.D1 (E7.mk x0)) H
theorem b1l (x0 : l7) {K : a8 → Hp → Prop} (I : Inv w0 ps0 H0 H [] w) (hR : ∀ (r0 : a8) (H' : Hp) (w' : World) (_ : Inv w0 ps0 H0 H' [] w') (_ : K r0 H'), R (u6 r0) w') (h : a1o x0 H K) : c9f (Value.agg (d9 x0).toArray) w R E := by
 unfold a1o at h
 unfold c9f
 refine O4 I (cs := (d9 x0)) rfl fun g_2 w_3 I_4 k_5 => ?_
 refine b6 (ldA Tryd.isAgg24 Tryd.sizeOf24 rfl (I_4.at1 (o := 0) (vs := (d9 x0)) (nb rfl) rfl)) ?_
 refine a7 (c2L _ _ _ _ _ _) ?_
 refine a7 (b1c (E7.mk x0)) ?_
 exact hR (a8.D1 (E7.mk x0)) H _ I_4.drop h
theorem b2z (x0 : l7) {H : Hp} {K : a8 → Hp → Prop} (h : a1o x0 H K) : a6e x0 H K := by
 intro w I
 refine e2r ?_
 refine b1l x0 I (fun r0 H' w' I' hk => ⟨H', _, I', r0, rfl, rfl, hk⟩) h
def a1p (x0 : u1) (H : Hp) (K : a8 → Hp → Prop) : Prop :=
 K (a8.J0 (L4.mk x0)) H
theorem b1m (x0 : u1) {K : a8 → Hp → Prop} (I : Inv w0 ps0 H0 H [] w) (hR : ∀ (r0 : a8) (H' : Hp) (w' : World) (_ : Inv w0 ps0 H0 H' [] w') (_ : K r0 H'), R (u6 r0) w') (h : a1p x0 H K) : c9k (Value.agg (i7 x0).toArray) w R E := by
 unfold a1p at h
 unfold c9k
 refine O4 I (cs := (i7 x0)) rfl fun g_2 w_3 I_4 k_5 => ?_
 refine b6 (ldA Tryd.isAgg27 Tryd.sizeOf27 rfl (I_4.at1 (o := 0) (vs := (i7 x0)) (nb rfl) rfl)) ?_
 refine a7 (c2M _ _ _ _ _ _ _ _) ?_
 refine a7 (b9J (L4.mk x0)) ?_
 exact hR (a8.J0 (L4.mk x0)) H _ I_4.drop h
theorem b2A (x0 : u1) {H : Hp} {K : a8 → Hp → Prop} (h : a1p x0 H K) : a6f x0 H K := by
 intro w I
 refine e2A ?_
 refine b1m x0 I (fun r0 H' w' I' hk => ⟨H', _, I', r0, rfl, rfl, hk⟩) h
def Y1 (x0 : L4) (H : Hp) (K : Sl → Hp → Prop) : Prop :=
 t1 x0.k5.j7 H (fun (a6h : Sl) (H_8 : Hp) =>
 A8 x0.k5.u5 H_8 (fun (a6i : Sl) (b4p : Hp) =>
 ∀ (a6D : Sl) (a8V : Hp), Hle b4p a8V → SlH a8V 1 csl a6D [a6h, a6i] → a6D.n ≤ a6D.c →
 A0 a6D a8V (fun (b5y : Sl) (c0t : Hp) =>
 K b5y c0t)))
theorem a7Y (x0 : L4) {K : Sl → Hp → Prop} (I : Inv w0 ps0 H0 H [] w) (hR : ∀ (r0 : Sl) (H' : Hp) (w' : World) (_ : Inv w0 ps0 H0 H' [] w') (_ : K r0 H'), R (vs r0) w') (h : Y1 x0 H K) : c9i (Value.agg (i7 x0.k5).toArray) w R E := by
 unfold Y1 at h
 unfold c9i
 refine O4 I (cs := (i7 x0.k5)) rfl fun g_2 w_3 I_4 k_5 => ?_
 refine V2 I_4 fun w_6 I_7 => ?_
 refine i8 a0G ?_
 refine i8 a5I ?_
 refine i8 a0G ?_
 refine i8 a2b ?_
 refine r5 (ld1 Tryd.isAgg22 (I_7.at1 (o := 2) (vs := [(vs x0.k5.j7)]) (nb rfl) rfl)) ?_
 refine r5 (ld1 Tryd.isAgg25 (I_7.at1 (o := 3) (vs := [(vs x0.k5.u5)]) (nb rfl) rfl)) ?_
 refine d5 (cap := []) (fun args w => Tryd.call171 args w) ?_
 refine m8 (Fi := []) (Fr := [bx g_2 138 (i7 x0.k5)]) I_7 (h) (fun f1A H_8 f1B w_9 b2B f1C b6T c4c => ?_) (fun _ _ _ _ _ q => q.elim)
 obtain ⟨a6h, rfl, rfl, h⟩ := c4c
 refine ⟨(b6T _ I_7.lt1 (Inv.a5H (Fi := []) I_7)), ?_⟩
 refine d5 (cap := []) (fun args w => Tryd.call175 args w) ?_
 refine m8 (Fi := []) (Fr := [bx g_2 138 (i7 x0.k5)]) b2B (h) (fun f1D b4p f1E r7 a8W f1F c0u c4d => ?_) (fun _ _ _ _ _ q => q.elim)
 obtain ⟨a6i, rfl, rfl, h⟩ := c4d
 refine a1Q (e := 124) (c := csl) (xs := [a6h, a6i]) a8W (c2N _ _ _ _ _ _) rfl rfl b5m b5n (nb rfl) fun a6D f1z c9D d5S b6L f1x => ?_
 obtain ⟨a8V, c4e, c3s, c4a, d5T⟩ := Inv.freezeC b6L d5S (by decide)
 replace h := h a6D a8V c3s c4a d5T
 refine d5 (cap := []) (fun args w => Tryd.call87 args w) ?_
 refine m8 (Fi := []) (Fr := [bx g_2 138 (i7 x0.k5)]) c4e (h) (fun g5f c0t g5g d5U a6B g5h f1G d5V => ?_) (fun _ _ _ _ _ q => q.elim)
 obtain ⟨b5y, rfl, rfl, h⟩ := d5V
 exact hR b5y c0t _ a6B.drop h
theorem a8X (x0 : L4) {H : Hp} {K : Sl → Hp → Prop} (h : Y1 x0 H K) : a3Q x0 H K := by
 intro w I
 refine e2w ?_
 refine a7Y x0 I (fun r0 H' w' I' hk => ⟨H', _, I', r0, rfl, rfl, hk⟩) h
end Go.Proofs.YtnhkdkcgdcgmdaaDoor
