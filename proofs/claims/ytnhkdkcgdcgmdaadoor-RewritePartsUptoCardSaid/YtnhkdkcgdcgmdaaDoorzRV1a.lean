/- Typed formulas of the program's functions, and the theorems that the contracts follow from them; printed by lift.py off the code. -/
import Derived.Test.YtnhkdkcgdcgmdaaDoorzRV1
namespace Go.Proofs.YtnhkdkcgdcgmdaaDoor
open Go.RowKit
set_option maxRecDepth 100000
set_option maxHeartbeats 2000000
def a4j (x0 : f6) (H : Hp) (K : ByteArray → Bool → Hp → Prop) : Prop :=
 (x0.a6V = true →
 K ((((x0.U5)).O0).g1) true H) ∧
 (x0.a6V = false →
 (x0.a6W = true →
 K ((((x0.j8)).f7).g1) ((decide (((((x0.j8)).f7).b9) = 1)) || (decide (((((x0.j8)).f7).b9) = 2))) H) ∧
 (x0.a6W = false →
 (x0.a6U = true →
 K ((((x0.p8)).m3).g1) ((decide (((((x0.p8)).m3).b9) = 2)) || (decide (((((x0.p8)).m3).b9) = 4))) H) ∧
 (x0.a6U = false →
 K ⟨#[]⟩ false H)))
theorem b7I (x0 : f6) {w0 w : World} {ps0 : Nat → Prop} {H0 H : Hp} {K : ByteArray → Bool → Hp → Prop} {R : Value → World → Prop} {E : Pan} (I : Inv w0 ps0 H0 H [] w) (hR : ∀ (r0 : ByteArray) (r1 : Bool) (H' : Hp) (w' : World) (_ : Inv w0 ps0 H0 H' [] w') (_ : K r0 r1 H'), R (Value.tuple #[(Value.string r0), (Value.bool r1)]) w') (h : a4j x0 H K) : d3J (A6 x0) w R E := by
 unfold a4j at h
 unfold d3J
 refine a8 (c6E x0) ?_
 refine a8 (i4 _ _ (Value.bool x0.a6V) rfl) ?_
 refine a8 (i4 _ _ _ rfl) ?_
 refine j9 (fun e1q => ?_) (fun e1q => ?_)
 ·replace h := h.1 e1q
  refine u2 I Tryd.zeroValue177 (cs := [(Value.string ⟨#[]⟩), (vi 0)]) rfl fun g_2 w_3 I_4 k_5 => ?_
  refine k3 I_4 Tryd.sizeOf177 (vs := [(Value.string ((((x0.U5)).O0).g1)), (vi ((((x0.U5)).O0).a5W))]) (cs' := [(Value.string ((((x0.U5)).O0).g1)), (vi ((((x0.U5)).O0).a5W))]) rfl rfl (nb rfl) rfl rfl fun w_6 I_7 k_8 => ?_
  refine a8 a7F ?_
  refine a8 d3D ?_
  refine d9 (ld1 Tryd.isAgg9 (I_7.at1 (o := 0) (vs := [(Value.string ((((x0.U5)).O0).g1))]) (nb rfl) rfl)) ?_
  exact hR ((((x0.U5)).O0).g1) true H _ I_7.drop h
 ·replace h := h.2 e1q
  refine a8 (c6F x0) ?_
  refine a8 (i4 _ _ (Value.bool x0.a6W) rfl) ?_
  refine a8 (i4 _ _ _ rfl) ?_
  refine j9 (fun c1n => ?_) (fun c1n => ?_)
  ·replace h := h.1 c1n
   refine u2 I Tryd.zeroValue179 (cs := [(vi 0), (Value.string ⟨#[]⟩), (Value.slice none 0 0), (Value.slice none 0 0), (Value.slice none 0 0), (Value.slice none 0 0)]) rfl fun h3j K6 q5 a8S => ?_
   refine k3 q5 Tryd.sizeOf179 (vs := [(vi ((((x0.j8)).f7).b9)), (Value.string ((((x0.j8)).f7).g1)), (Value.slice ((((x0.j8)).f7).g5).a ((((x0.j8)).f7).g5).n ((((x0.j8)).f7).g5).c), (Value.slice ((((x0.j8)).f7).q9).a ((((x0.j8)).f7).q9).n ((((x0.j8)).f7).q9).c), (Value.slice ((((x0.j8)).f7).M8).a ((((x0.j8)).f7).M8).n ((((x0.j8)).f7).M8).c), (Value.slice ((((x0.j8)).f7).I5).a ((((x0.j8)).f7).I5).n ((((x0.j8)).f7).I5).c)]) (cs' := [(vi ((((x0.j8)).f7).b9)), (Value.string ((((x0.j8)).f7).g1)), (Value.slice ((((x0.j8)).f7).g5).a ((((x0.j8)).f7).g5).n ((((x0.j8)).f7).g5).c), (Value.slice ((((x0.j8)).f7).q9).a ((((x0.j8)).f7).q9).n ((((x0.j8)).f7).q9).c), (Value.slice ((((x0.j8)).f7).M8).a ((((x0.j8)).f7).M8).n ((((x0.j8)).f7).M8).c), (Value.slice ((((x0.j8)).f7).I5).a ((((x0.j8)).f7).I5).n ((((x0.j8)).f7).I5).c)]) rfl rfl (nb rfl) rfl rfl fun l8 c1o c8X => ?_
   refine a9F c1o fun a1C a5r => ?_
   refine t1 E0 ?_
   refine t1 b1c ?_
   refine t1 E0 ?_
   refine t1 a8A ?_
   refine G8 (ld1 Tryd.isAgg9 (a5r.at1 (o := 1) (vs := [(Value.string ((((x0.j8)).f7).g1))]) (nb rfl) rfl)) ?_
   refine G8 (ld1 Tryd.isAgg3 (a5r.at1 (o := 0) (vs := [(vi ((((x0.j8)).f7).b9))]) (nb rfl) rfl)) ?_
   refine t1 (f4 _ _ _ _ _ _) ?_
   refine t1 (Pu.g fun hb => by have b6 := hb; first | exact E0 | (simp only [d7 b6, b7 b6, b7 hb, J1 b6]; exact E0) | (simp only [d7 b6, b7 b6, b7 hb, l9 b6, f9]; exact E0)) ?_
   refine t1 (Pu.g fun hb => by have b6 := hb; first | exact a8A | (simp only [b7 b6]; exact a8A) | (simp only [d7 b6, b7 b6, b7 hb, l9 b6, f9]; exact a8A)) ?_
   refine f3R (p := (Value.pointer (some ⟨h3j, 0, none⟩))) rfl (Ld.g fun hb => by have b6 := hb; first | exact (ld1 Tryd.isAgg3 (a5r.at1 (o := 0) (vs := [(vi ((((x0.j8)).f7).b9))]) (nb rfl) rfl)) | (simp only [b7 b6]; exact (ld1 Tryd.isAgg3 (a5r.at1 (o := 0) (vs := [(vi ((((x0.j8)).f7).b9))]) (nb rfl) rfl))) | (simp only [d7 b6, b7 b6, b7 hb, l9 b6, f9]; exact (ld1 Tryd.isAgg3 (a5r.at1 (o := 0) (vs := [(vi ((((x0.j8)).f7).b9))]) (nb rfl) rfl)))) ?_
   refine t1 (Pu.g fun hb => by have b6 := hb; first | exact (f4 _ _ _ _ _ _) | (simp only [b7 b6]; exact (f4 _ _ _ _ _ _)) | (simp only [d7 b6, b7 b6, b7 hb, l9 b6, f9]; exact (f4 _ _ _ _ _ _))) ?_
   refine t1 (A5 _ _) ?_
   exact hR ((((x0.j8)).f7).g1) ((decide (((((x0.j8)).f7).b9) = 1)) || (decide (((((x0.j8)).f7).b9) = 2))) H _ a5r.drop h
  ·replace h := h.2 c1n
   refine a8 (c6G x0) ?_
   refine a8 (i4 _ _ (Value.bool x0.a6U) rfl) ?_
   refine a8 (i4 _ _ _ rfl) ?_
   refine j9 (fun b2k => ?_) (fun b2k => ?_)
   ·replace h := h.1 b2k
    refine u2 I Tryd.zeroValue123 (cs := [(vi 0), (vi 0), (Value.string ⟨#[]⟩), (Value.slice none 0 0)]) rfl fun f9K a2J c4U f9L => ?_
    refine k3 c4U Tryd.sizeOf123 (vs := [(vi ((((x0.p8)).m3).b9)), (vi ((((x0.p8)).m3).g9)), (Value.string ((((x0.p8)).m3).g1)), (Value.slice ((((x0.p8)).m3).d8).a ((((x0.p8)).m3).d8).n ((((x0.p8)).m3).d8).c)]) (cs' := [(vi ((((x0.p8)).m3).b9)), (vi ((((x0.p8)).m3).g9)), (Value.string ((((x0.p8)).m3).g1)), (Value.slice ((((x0.p8)).m3).d8).a ((((x0.p8)).m3).d8).n ((((x0.p8)).m3).d8).c)]) rfl rfl (nb rfl) rfl rfl fun q8 a2P c4V => ?_
    refine a9F a2P fun a7V b8A => ?_
    refine t1 H9 ?_
    refine t1 U6 ?_
    refine t1 H9 ?_
    refine t1 m9 ?_
    refine G8 (ld1 Tryd.isAgg9 (b8A.at1 (o := 2) (vs := [(Value.string ((((x0.p8)).m3).g1))]) (nb rfl) rfl)) ?_
    refine G8 (ld1 Tryd.isAgg3 (b8A.at1 (o := 0) (vs := [(vi ((((x0.p8)).m3).b9))]) (nb rfl) rfl)) ?_
    refine t1 (f4 _ _ _ _ _ _) ?_
    refine t1 (Pu.g fun hb => by have b6 := hb; first | exact H9 | (simp only [d7 b6, b7 b6, b7 hb, J1 b6]; exact H9) | (simp only [d7 b6, b7 b6, b7 hb, l9 b6, f9]; exact H9)) ?_
    refine t1 (Pu.g fun hb => by have b6 := hb; first | exact m9 | (simp only [b7 b6]; exact m9) | (simp only [d7 b6, b7 b6, b7 hb, l9 b6, f9]; exact m9)) ?_
    refine f3R (p := (Value.pointer (some ⟨f9K, 0, none⟩))) rfl (Ld.g fun hb => by have b6 := hb; first | exact (ld1 Tryd.isAgg3 (b8A.at1 (o := 0) (vs := [(vi ((((x0.p8)).m3).b9))]) (nb rfl) rfl)) | (simp only [b7 b6]; exact (ld1 Tryd.isAgg3 (b8A.at1 (o := 0) (vs := [(vi ((((x0.p8)).m3).b9))]) (nb rfl) rfl))) | (simp only [d7 b6, b7 b6, b7 hb, l9 b6, f9]; exact (ld1 Tryd.isAgg3 (b8A.at1 (o := 0) (vs := [(vi ((((x0.p8)).m3).b9))]) (nb rfl) rfl)))) ?_
    refine t1 (Pu.g fun hb => by have b6 := hb; first | exact (f4 _ _ _ _ _ _) | (simp only [b7 b6]; exact (f4 _ _ _ _ _ _)) | (simp only [d7 b6, b7 b6, b7 hb, l9 b6, f9]; exact (f4 _ _ _ _ _ _))) ?_
    refine t1 (A5 _ _) ?_
    exact hR ((((x0.p8)).m3).g1) ((decide (((((x0.p8)).m3).b9) = 2)) || (decide (((((x0.p8)).m3).b9) = 4))) H _ b8A.drop h
   ·replace h := h.2 b2k
    exact hR ⟨#[]⟩ false H _ I h
theorem b8B (x0 : f6) {H : Hp} {K : ByteArray → Bool → Hp → Prop} (h : a4j x0 H K) : a2i x0 H K := by
 intro w I
 refine e8j ?_
 refine b7I x0 I (fun r0 r1 H' w' I' hk => ⟨H', _, I', r0, r1, rfl, rfl, hk⟩) h
def a4X (x0 : Int) (x1 : Int) (x2 : Int) (H : Hp) (K : Bool → Hp → Prop) : Prop :=
 K ((decide (x0 ≤ x2)) && (decide (x2 ≤ x1))) H
theorem b4J (x0 : Int) (x1 : Int) (x2 : Int) (g2 : Nat) {w0 w : World} {ps0 : Nat → Prop} {H0 H : Hp} {K : Bool → Hp → Prop} {R : Value → World → Prop} {E : Pan} (I : Inv w0 ps0 H0 H [bx g2 21 [(Value.int .i32 x2)]] w) (hR : ∀ (r0 : Bool) (H' : Hp) (w' : World) (_ : Inv w0 ps0 H0 H' [bx g2 21 [(Value.int .i32 x2)]] w') (_ : K r0 H'), R (Value.bool r0) w') (h : a4X x0 x1 x2 H K) : d3S (Value.int .i32 x0) (Value.int .i32 x1) (Value.pointer (some ⟨g2, 0, none⟩)) w R E := by
 unfold a4X at h
 unfold d3S
 refine d9 (ld1 Tryd.isAgg21 (I.at1 (o := 0) (vs := [(Value.int .i32 x2)]) (nb rfl) rfl)) ?_
 refine a8 (a0x _ _ _ _ _ _) ?_
 refine d9 (Ld.g fun hb => by have b6 := hb; first | exact (ld1 Tryd.isAgg21 (I.at1 (o := 0) (vs := [(Value.int .i32 x2)]) (nb rfl) rfl)) | (simp only [d7 b6, b7 b6, b7 hb, m8 b6]; exact (ld1 Tryd.isAgg21 (I.at1 (o := 0) (vs := [(Value.int .i32 x2)]) (nb rfl) rfl))) | (simp only [d7 b6, b7 b6, b7 hb, f8 b6, f9]; exact (ld1 Tryd.isAgg21 (I.at1 (o := 0) (vs := [(Value.int .i32 x2)]) (nb rfl) rfl)))) ?_
 try simp only [m4]
 refine a8 (Pu.g fun hb => by have b6 := hb; first | exact (a0x _ _ _ _ _ _) | (simp only [b7 b6]; exact (a0x _ _ _ _ _ _)) | (simp only [d7 b6, b7 b6, b7 hb, f8 b6, f9]; exact (a0x _ _ _ _ _ _))) ?_
 refine a8 (k9 _ _) ?_
 exact hR ((decide (x0 ≤ x2)) && (decide (x2 ≤ x1))) H _ I h
theorem b5z (x0 : Int) (x1 : Int) (x2 : Int) {H : Hp} {K : Bool → Hp → Prop} (h : a4X x0 x1 x2 H K) : G4 x0 x1 x2 H K := by
 intro g2 w I
 refine e8B ?_
 refine b4J x0 x1 x2 g2 I (fun r0 H' w' I' hk => ⟨H', _, I', r0, rfl, rfl, hk⟩) h
def a5s (H : Hp) (K : Bool → Hp → Prop) : Prop :=
 K true H
def K7 (jr_28l2 : ByteArray) (ir_28l2 : Nat) (H : Hp) (n2 : Nat → Hp → Prop) (K : Bool → Hp → Prop) : Prop :=
 (ir_28l2 < jr_28l2.size →
 a5T ((Utf8.decode jr_28l2 ir_28l2).1 : Int) H (fun (a2Q : Bool) (a7Y : Hp) =>
 TG ((!(!a2Q) && (decide (((ir_28l2 : Nat) : Int) = 0))) = true) (a3G ((Utf8.decode jr_28l2 ir_28l2).1 : Int) a7Y) 0 a7Y (fun (a4K : Int) (a7u : Hp) =>
 (((!a2Q) || ((decide (((ir_28l2 : Nat) : Int) = 0)) && (!decide (a4K = 3)))) = true →
 K false a7u) ∧
 (((!a2Q) || ((decide (((ir_28l2 : Nat) : Int) = 0)) && (!decide (a4K = 3)))) = false →
 n2 (ir_28l2 + (Utf8.decode jr_28l2 ir_28l2).2) a7u)))) ∧
 (¬ (ir_28l2 < jr_28l2.size) →
 a5s H K)
def a4L (x0 : ByteArray) (H : Hp) (K : Bool → Hp → Prop) : Prop :=
 TG ((decide (x0 = ⟨#[]⟩)) = false) (a5O x0 H) false H (fun (s7 : Bool) (H_1 : Hp) =>
 TG (((decide (x0 = ⟨#[]⟩)) || (!s7)) = false) (a4H x0 H_1) false H_1 (fun (o8 : Bool) (P9 : Hp) =>
 TG ((((decide (x0 = ⟨#[]⟩)) || (!s7)) || o8) = false) (a2E x0 P9) false P9 (fun (w3 : Bool) (F4 : Hp) =>
 (((((decide (x0 = ⟨#[]⟩)) || (!s7)) || o8) || w3) = true →
 K false F4) ∧
 (((((decide (x0 = ⟨#[]⟩)) || (!s7)) || o8) || w3) = false →
 TL (0 : Nat) F4 fun (s : Nat) H n2 => K7 x0 s H n2 K))))
theorem b8C (x0 : ByteArray) {w0 w : World} {ps0 : Nat → Prop} {H0 H : Hp} {K : Bool → Hp → Prop} {R : Value → World → Prop} {E : Pan} (I : Inv w0 ps0 H0 H [] w) (hR : ∀ (r0 : Bool) (H' : Hp) (w' : World) (_ : Inv w0 ps0 H0 H' [] w') (_ : K r0 H'), R (Value.bool r0) w') (h : a4L x0 H K) : d3K (Value.string x0) w R E := by
 unfold a4L at h
 unfold d3K
 refine a8 (I6 _ _ _ _ _) ?_
 try simp only [m4]
 refine W1 (D := fun v_5 w_2 => ∃ (s7 : Bool) (H_1 : Hp) , v_5 = (gv (decide (x0 = ⟨#[]⟩)) false (Value.bool s7)) ∧ (Inv w0 ps0 H0 H_1 [] w_2) ∧ (∀ i, i < w.heap.size → ¬ inF [] i → w_2.heap[i]? = w.heap[i]?) ∧ Hle H H_1 ∧ (TG (((decide (x0 = ⟨#[]⟩)) || (!s7)) = false) (a4H x0 H_1) false H_1 (fun (o8 : Bool) (P9 : Hp) =>
 TG ((((decide (x0 = ⟨#[]⟩)) || (!s7)) || o8) = false) (a2E x0 P9) false P9 (fun (w3 : Bool) (F4 : Hp) =>
 (((((decide (x0 = ⟨#[]⟩)) || (!s7)) || o8) || w3) = true →
 K false F4) ∧
 (((((decide (x0 = ⟨#[]⟩)) || (!s7)) || o8) || w3) = false →
 TL (0 : Nat) F4 fun (s : Nat) H n2 => K7 x0 s H n2 K))))) (fun b9C => ?_) (fun b9C => ?_) ?_
 ·replace h := h.1 b9C
  have b6 := b9C
  try simp only [b7 b6]
  refine f5 (cap := []) (fun args w => Tryd.call137 args w) ?_
  refine i6 (Fi := []) (Fr := []) I (h) (fun v_5 H_1 F_6 w_2 I_3 l_8 k_4 q_7 => ?_) (fun _ _ _ _ _ q => q.elim)
  obtain ⟨s7, rfl, rfl, h⟩ := q_7
  exact ⟨s7, H_1, by first | rfl | rw [b7 b9C], I_3, k_4, l_8, h⟩
 ·exact ⟨false, H, by first | rfl | rw [a3k b9C], I, fun _ _ _ => rfl, Hle.refl _, h.2 b9C⟩
 ·clear h
  rintro v_5 w_2 ⟨s7, H_1, rfl, I_3, k_4, l_8, h⟩
  refine a8 (Pu.g fun hb => by have b6 := hb; first | exact (C4 _) | (simp only [b7 b6]; exact (C4 _)) | (simp only [d7 b6, b7 b6, b7 hb, l9 b6, f9]; exact (C4 _))) ?_
  refine a8 (A5 _ _) ?_
  try simp only [m4]
  refine W1 (D := fun b6s K6 => ∃ (o8 : Bool) (P9 : Hp) , b6s = (gv ((decide (x0 = ⟨#[]⟩)) || (!s7)) false (Value.bool o8)) ∧ (Inv w0 ps0 H0 P9 [] K6) ∧ (∀ i, i < w_2.heap.size → ¬ inF [] i → K6.heap[i]? = w_2.heap[i]?) ∧ Hle H_1 P9 ∧ (TG ((((decide (x0 = ⟨#[]⟩)) || (!s7)) || o8) = false) (a2E x0 P9) false P9 (fun (w3 : Bool) (F4 : Hp) =>
 (((((decide (x0 = ⟨#[]⟩)) || (!s7)) || o8) || w3) = true →
 K false F4) ∧
 (((((decide (x0 = ⟨#[]⟩)) || (!s7)) || o8) || w3) = false →
 TL (0 : Nat) F4 fun (s : Nat) H n2 => K7 x0 s H n2 K)))) (fun c4W => ?_) (fun c4W => ?_) ?_
  ·replace h := h.1 c4W
   have b6 := c4W
   try simp only [b7 b6]
   refine f5 (cap := []) (fun args w => Tryd.call138 args w) ?_
   refine i6 (Fi := []) (Fr := []) I_3 (h) (fun b6s P9 c4X K6 q5 b2l a8S a9O => ?_) (fun _ _ _ _ _ q => q.elim)
   obtain ⟨o8, rfl, rfl, h⟩ := a9O
   exact ⟨o8, P9, by first | rfl | rw [b7 c4W], q5, a8S, b2l, h⟩
  ·exact ⟨false, H_1, by first | rfl | rw [a3k c4W], I_3, fun _ _ _ => rfl, Hle.refl _, h.2 c4W⟩
  ·clear h
   rintro b6s K6 ⟨o8, P9, rfl, q5, a8S, b2l, h⟩
   refine a8 (A5 _ _) ?_
   try simp only [m4]
   refine W1 (D := fun b4K o7 => ∃ (w3 : Bool) (F4 : Hp) , b4K = (gv (((decide (x0 = ⟨#[]⟩)) || (!s7)) || o8) false (Value.bool w3)) ∧ (Inv w0 ps0 H0 F4 [] o7) ∧ (∀ i, i < K6.heap.size → ¬ inF [] i → o7.heap[i]? = K6.heap[i]?) ∧ Hle P9 F4 ∧ ((((((decide (x0 = ⟨#[]⟩)) || (!s7)) || o8) || w3) = true →
 K false F4) ∧
 (((((decide (x0 = ⟨#[]⟩)) || (!s7)) || o8) || w3) = false →
 TL (0 : Nat) F4 fun (s : Nat) H n2 => K7 x0 s H n2 K))) (fun c4Y => ?_) (fun c4Y => ?_) ?_
   ·replace h := h.1 c4Y
    have b6 := c4Y
    try simp only [b7 b6]
    refine f5 (cap := []) (fun args w => Tryd.call139 args w) ?_
    refine i6 (Fi := []) (Fr := []) q5 (h) (fun b4K F4 d4g o7 X6 b4L a9P b6t => ?_) (fun _ _ _ _ _ q => q.elim)
    obtain ⟨w3, rfl, rfl, h⟩ := b6t
    exact ⟨w3, F4, by first | rfl | rw [b7 c4Y], X6, a9P, b4L, h⟩
   ·exact ⟨false, P9, by first | rfl | rw [a3k c4Y], q5, fun _ _ _ => rfl, Hle.refl _, h.2 c4Y⟩
   ·clear h
    rintro b4K o7 ⟨w3, F4, rfl, X6, a9P, b4L, h⟩
    refine a8 (A5 _ _) ?_
    refine j9 (fun e1r => ?_) (fun e1r => ?_)
    ·replace h := h.1 e1r
     exact hR false F4 _ X6 h
    ·replace h := h.2 e1r
     have hj1 : ∀ (H : Hp) (w : World) (_ : Inv w0 ps0 H0 H [] w) (_ : a5s H K), c4E w R E := by
      intro H w I h
      unfold c4E
      intro _
      unfold a5s at h
      exact hR true H _ I h
     refine s8 fun j1 hx1 => ?_
     refine d2o Tryd.underlying9 x0 X6 fun d4h A8 e1s h3k => ?_
     obtain ⟨e1t, c8Y, h3l, h3m⟩ := h
     refine I0 (J := fun n l w => ∃ (s : Nat) (H : Hp) , n = c8Y s ∧ l = [] ∧ Inv w0 ps0 H0 H [itf d4h x0 s] w ∧ e1t s H) ⟨_, 0, F4, rfl, rfl, e1s, h3l⟩ ?_
     rintro i0r τ_94 w next2 ⟨ir_28l2, H, rfl, d4i, I, h3n⟩ hn2
     clear d4i
     obtain ⟨n2, hm2, h⟩ : ∃ n2 : Nat → Hp → Prop, (∀ s' H', n2 s' H' → e1t s' H' ∧ c8Y s' < c8Y ir_28l2) ∧ K7 x0 ir_28l2 H n2 K := ⟨_, fun _ _ h => h, h3m ir_28l2 H (fun s' H' => e1t s' H' ∧ c8Y s' < c8Y ir_28l2) h3n (fun _ _ a b => ⟨a, b⟩)⟩
     unfold d2t
     unfold K7 at h
     refine d8M I (fun c1p a9I c8Z d4j => ?_) (fun c1p => ?_)
     ·replace h := h.1 c1p
      refine a8 (i4 _ _ (Value.bool true) rfl) ?_
      refine j9 (fun e => ?_) (fun e => by cases e)
      refine a8 (i4 _ _ (vi ((ir_28l2 : Nat) : Int)) rfl) ?_
      refine a8 (i4 _ _ (Value.int .i32 ((Utf8.decode x0 ir_28l2).1 : Int)) rfl) ?_
      refine f5 (cap := []) (fun args w => Tryd.call140 args w) ?_
      refine i6 (Fi := []) (Fr := [itf d4h x0 (ir_28l2 + (Utf8.decode x0 ir_28l2).2)]) c8Z (h) (fun c4Z a7Y e1u U1 b8D e1v e1w c1q => ?_) (fun _ _ _ _ _ q => q.elim)
      obtain ⟨a2Q, rfl, rfl, h⟩ := c1q
      refine a8 (C4 _) ?_
      try simp only [m4]
      refine a8 (Pu.g fun hb => by have b6 := hb; first | exact (f4 _ _ _ _ _ _) | (simp only [b7 b6]; exact (f4 _ _ _ _ _ _)) | (simp only [d7 b6, b7 b6, b7 hb, l9 b6, f9]; exact (f4 _ _ _ _ _ _))) ?_
      try simp only [F8, G2]
      try simp only [m4, F8, P1, M9, G2, P5, P2, P3, P4, P6]
      refine b4b (E3 _ _ _) ?_
      refine W1 (D := fun d4k b1Y => ∃ (a4K : Int) (a7u : Hp) , d4k = (gv (!(!a2Q) && (decide (((ir_28l2 : Nat) : Int) = 0))) true (vi a4K)) ∧ (Inv w0 ps0 H0 a7u [itf d4h x0 (ir_28l2 + (Utf8.decode x0 ir_28l2).2)] b1Y) ∧ (∀ i, i < U1.heap.size → ¬ inF [] i → b1Y.heap[i]? = U1.heap[i]?) ∧ Hle a7Y a7u ∧ ((((!a2Q) || ((decide (((ir_28l2 : Nat) : Int) = 0)) && (!decide (a4K = 3)))) = true →
 K false a7u) ∧
 (((!a2Q) || ((decide (((ir_28l2 : Nat) : Int) = 0)) && (!decide (a4K = 3)))) = false →
 n2 (ir_28l2 + (Utf8.decode x0 ir_28l2).2) a7u))) (fun c1r => ?_) (fun c1r => ?_) ?_
      ·replace h := h.1 c1r
       obtain ⟨b6, i5⟩ := J3 c1r
       try simp only [b7 c1r]
       refine f5 (cap := []) (fun args w => Tryd.call141 args w) ?_
       refine i6 (Fi := []) (Fr := [itf d4h x0 (ir_28l2 + (Utf8.decode x0 ir_28l2).2)]) b8D (h) (fun d4k a7u h3o b1Y c5a e1x e1y e1z => ?_) (fun _ _ _ _ _ q => q.elim)
       obtain ⟨a4K, rfl, rfl, h⟩ := e1z
       exact ⟨a4K, a7u, by first | rfl | rw [b7 c1r], c5a, e1y, e1x, h⟩
      ·exact ⟨0, a7Y, by first | rfl | rw [a3k c1r], b8D, fun _ _ _ => rfl, Hle.refl _, h.2 c1r⟩
      ·clear h
       rintro d4k b1Y ⟨a4K, a7u, rfl, c5a, e1y, e1x, h⟩
       refine a8 (Pu.e (E3 _ _ _) (Pu.g fun hb => by obtain ⟨b6, i5⟩ := J3 hb; first | exact (o4 _ _ _ _ _ _) | (simp only [b7 hb]; exact (o4 _ _ _ _ _ _)) | (simp only [d7 b6, b7 b6, d7 i5, b7 i5, b7 hb, m8 hb]; exact (o4 _ _ _ _ _ _)) | (simp only [d7 b6, b7 b6, d7 i5, b7 i5, b7 hb, f8 hb, f9]; exact (o4 _ _ _ _ _ _)))) ?_
       refine a8 (Pu.g fun hb => by have b6 := hb; first | exact (k9 _ _) | (simp only [b7 b6, J1 b6]; exact (k9 _ _)) | (simp only [d7 b6, b7 b6, b7 hb, l9 b6, f9]; exact (k9 _ _))) ?_
       refine a8 (A5 _ _) ?_
       refine j9 (fun c1s => ?_) (fun c1s => ?_)
       ·replace h := h.1 c1s
        exact hR false a7u _ c5a.drop h
       ·replace h := h.2 c1s
        exact hn2 _ _ _ (hm2 _ _ h).2 ⟨(ir_28l2 + (Utf8.decode x0 ir_28l2).2), a7u, rfl, rfl, c5a, (hm2 _ _ h).1⟩
     ·replace h := h.2 c1p
      refine a8 (i4 _ _ (Value.bool false) rfl) ?_
      refine j9 (fun e => by cases e) (fun e => ?_)
      exact hx1 _ _ (hj1 H _ I.drop h)
theorem c0E (x0 : ByteArray) {H : Hp} {K : Bool → Hp → Prop} (h : a4L x0 H K) : a4I x0 H K := by
 intro w I
 refine e8l ?_
 refine b8C x0 I (fun r0 H' w' I' hk => ⟨H', _, I', r0, rfl, rfl, hk⟩) h
def G7 (cr_1j1_0 : Int) (cr_1j1_1 : Int) (cr_1j1_2 : Int) (cr_1j1_3 : Bool) (cr_1j1_4 : Bool) (ccr_1j1_5 : (List ByteArray)) (H : Hp) (K : i9 → Hp → Prop) : Prop :=
 ∀ (scr_1j1_5 : Sl) (b4M : Hp), Hle H b4M → SlH b4M 1 D8 scr_1j1_5 ccr_1j1_5 → scr_1j1_5.n ≤ scr_1j1_5.c →
 K (i9.mk cr_1j1_0 cr_1j1_1 cr_1j1_2 cr_1j1_3 cr_1j1_4 scr_1j1_5) b4M
def a2R (x0 : Sl) (H : Hp) (K : i9 → Hp → Prop) : Prop :=
 X4 x0 1 (i9.mk 0 0 0 false false (Sl.mk none 0 0)) [] H (fun (K8 : Bool) (B5 : i9) (a7g : (List ByteArray)) (a0D : Hp) =>
 ((!K8) = true →
 G7 ((B5).fnodes) ((B5).fdepth) ((B5).fe) ((B5).fform) ((B5).fnamed) a7g a0D K) ∧
 ((!K8) = false →
 (((B5).fform) = true →
 G7 ((B5).fnodes) ((B5).fdepth) 30 ((B5).fform) ((B5).fnamed) a7g a0D K) ∧
 (((B5).fform) = false →
 (((B5).fnamed) = true →
 G7 ((B5).fnodes) ((B5).fdepth) 31 ((B5).fform) ((B5).fnamed) a7g a0D K) ∧
 (((B5).fnamed) = false →
 G7 ((B5).fnodes) ((B5).fdepth) ((B5).fe) ((B5).fform) ((B5).fnamed) a7g a0D K))))
theorem b5A (x0 : Sl) {w0 w : World} {ps0 : Nat → Prop} {H0 H : Hp} {K : i9 → Hp → Prop} {R : Value → World → Prop} {E : Pan} (I : Inv w0 ps0 H0 H [] w) (hR : ∀ (r0 : i9) (gr0 : Nat) (H' : Hp) (w' : World) (_ : Inv w0 ps0 H0 H' [bx gr0 106 (b5o r0)] w') (_ : K r0 H'), R (Value.pointer (some ⟨gr0, 0, none⟩)) w') (h : a2R x0 H K) : F60 (vs x0) w R E := by
 unfold a2R at h
 unfold F60
 refine a8 (d3C ) ?_
 refine F7 I (cs := [(vi 0), (vi 0), (vi 0), (Value.bool false), (Value.bool false), (Value.slice none 0 0)]) rfl fun g_2 w_3 I_4 k_5 => ?_
 refine u2 I_4 Tryd.zeroValue102 (cs := [(Value.pointer none)]) rfl fun g_7 w_8 I_9 a6F => ?_
 refine k3 I_9 Tryd.sizeOf102 (vs := [(Value.pointer (some ⟨g_2, 0, none⟩))]) (cs' := [(Value.pointer (some ⟨g_2, 0, none⟩))]) rfl rfl (nb rfl) rfl rfl fun K6 q5 a8S => ?_
 refine u2 q5 Tryd.zeroValue161 (cs := [Value.nilFunc]) rfl fun b6u o5 b4N e1A => ?_
 refine a8 (c0S _ _ _) ?_
 refine k3 b4N Tryd.sizeOf161 (vs := [(Value.func (.func 99) #[] #[(Value.pointer (some ⟨g_7, 0, none⟩)), (Value.pointer (some ⟨b6u, 0, none⟩))])]) (cs' := [(Value.func (.func 99) #[] #[(Value.pointer (some ⟨g_7, 0, none⟩)), (Value.pointer (some ⟨b6u, 0, none⟩))])]) rfl rfl (nb rfl) rfl rfl fun Z4 b0N e1B => ?_
 have hj1 : ∀ (cr_1j1_0 : Int) (cr_1j1_1 : Int) (cr_1j1_2 : Int) (cr_1j1_3 : Bool) (cr_1j1_4 : Bool) (ccr_1j1_5 : (List ByteArray)) (scr_1j1_5 : Sl) (Fcr_1j1_5 : Frag) (H : Hp) (w : World) (_ : RowL 9 1 D8 scr_1j1_5 ccr_1j1_5 Fcr_1j1_5) (_ : Inv w0 ps0 H0 H [bx g_7 102 [(Value.pointer (some ⟨g_2, 0, none⟩))], bx g_2 106 [(vi cr_1j1_0), (vi cr_1j1_1), (vi cr_1j1_2), (Value.bool cr_1j1_3), (Value.bool cr_1j1_4), (vs scr_1j1_5)], bx b6u 161 [(Value.func (.func 99) #[] #[(Value.pointer (some ⟨g_7, 0, none⟩)), (Value.pointer (some ⟨b6u, 0, none⟩))])], Fcr_1j1_5] w) (_ : G7 cr_1j1_0 cr_1j1_1 cr_1j1_2 cr_1j1_3 cr_1j1_4 ccr_1j1_5 H K), c8e (Value.pointer (some ⟨g_7, 0, none⟩)) w R E := by
  intro cr_1j1_0 cr_1j1_1 cr_1j1_2 cr_1j1_3 cr_1j1_4 ccr_1j1_5 scr_1j1_5 Fcr_1j1_5 H w hcr_1j1_5 I h
  unfold c8e
  intro _
  unfold G7 at h
  refine d9 (ld1 Tryd.isAgg102 (I.at1 (o := 0) (vs := [(Value.pointer (some ⟨g_2, 0, none⟩))]) (nb rfl) rfl)) ?_
  obtain ⟨b4M, a3u, e1C, a9Q, e1D⟩ := Inv.freezeC (I.bring 3) hcr_1j1_5 (by decide)
  replace h := h scr_1j1_5 b4M e1C a9Q e1D
  exact hR (i9.mk cr_1j1_0 cr_1j1_1 cr_1j1_2 cr_1j1_3 cr_1j1_4 scr_1j1_5) g_2 b4M _ (a3u.drop.bring 1).drop h
 refine s8 fun j1 hx1 => ?_
 refine d9 (ld1 Tryd.isAgg161 (b0N.at1 (o := 0) (vs := [(Value.func (.func 99) #[] #[(Value.pointer (some ⟨g_7, 0, none⟩)), (Value.pointer (some ⟨b6u, 0, none⟩))])]) (nb rfl) rfl)) ?_
 refine f5 (cap := [(Value.pointer (some ⟨g_7, 0, none⟩)), (Value.pointer (some ⟨b6u, 0, none⟩))]) (fun args w => Tryd.call99 args w) ?_
 refine i6 (Fi := [bx g_7 102 [(Value.pointer (some ⟨g_2, 0, none⟩))], bx g_2 106 [(vi 0), (vi 0), (vi 0), (Value.bool false), (Value.bool false), (Value.slice (Sl.mk none 0 0).a (Sl.mk none 0 0).n (Sl.mk none 0 0).c)], [], bx b6u 161 [(Value.func (.func 99) #[] #[(Value.pointer (some ⟨g_7, 0, none⟩)), (Value.pointer (some ⟨b6u, 0, none⟩))])]]) (Fr := []) ((((b0N.nil.bring 1).bring 1).bring 3).bring 3) (h g_7 g_2 b6u (Sl.mk none 0 0) ([]) (RowL.nil (e := 9) c0V c0W)) (fun c9a a0D c5b q8 a2P c9b c4V b2m => ?_) (fun _ _ _ _ _ q => q.elim)
 obtain ⟨K8, B5, a7g, a9R, b6v, rfl, rfl, b6w, h⟩ := b2m
 refine a8 (C4 _) ?_
 refine j9 (fun e1E => ?_) (fun e1E => ?_)
 ·replace h := h.1 e1E
  exact hx1 _ _ (hj1 ((B5).fnodes) ((B5).fdepth) ((B5).fe) ((B5).fform) ((B5).fnamed) a7g a9R b6v a0D _ b6w ((((a2P.bring 2).bring 3).bring 3).bring 3) h)
 ·replace h := h.2 e1E
  refine d9 (ld1 Tryd.isAgg102 (a2P.at1 (o := 0) (vs := [(Value.pointer (some ⟨g_2, 0, none⟩))]) (nb rfl) rfl)) ?_
  refine a8 (r8 _) ?_
  refine a8 b4C ?_
  refine d9 (ld1 Tryd.isAgg4 ((a2P.bring 1).at1 (o := 3) (vs := [(Value.bool ((B5).fform))]) (nb rfl) rfl)) ?_
  refine j9 (fun a3v => ?_) (fun a3v => ?_)
  ·replace h := h.1 a3v
   refine d9 (ld1 Tryd.isAgg102 (a2P.at1 (o := 0) (vs := [(Value.pointer (some ⟨g_2, 0, none⟩))]) (nb rfl) rfl)) ?_
   refine a8 (r8 _) ?_
   refine a8 a5Q ?_
   refine k3 (a2P.bring 1) Tryd.sizeOf29 (vs := [(vi 30)]) (cs' := [(vi ((B5).fnodes)), (vi ((B5).fdepth)), (vi 30), (Value.bool ((B5).fform)), (Value.bool ((B5).fnamed)), (vs a9R)]) rfl rfl (nb rfl) rfl rfl fun b4O b6x e1F => ?_
   exact hx1 _ _ (hj1 ((B5).fnodes) ((B5).fdepth) 30 ((B5).fform) ((B5).fnamed) a7g a9R b6v a0D _ b6w ((((b6x.bring 2).bring 3).bring 2).bring 3) h)
  ·replace h := h.2 a3v
   refine d9 (ld1 Tryd.isAgg102 (a2P.at1 (o := 0) (vs := [(Value.pointer (some ⟨g_2, 0, none⟩))]) (nb rfl) rfl)) ?_
   refine a8 (r8 _) ?_
   refine a8 b4D ?_
   refine d9 (ld1 Tryd.isAgg4 ((a2P.bring 1).at1 (o := 4) (vs := [(Value.bool ((B5).fnamed))]) (nb rfl) rfl)) ?_
   refine j9 (fun e1G => ?_) (fun e1G => ?_)
   ·replace h := h.1 e1G
    refine d9 (ld1 Tryd.isAgg102 (a2P.at1 (o := 0) (vs := [(Value.pointer (some ⟨g_2, 0, none⟩))]) (nb rfl) rfl)) ?_
    refine a8 (r8 _) ?_
    refine a8 a5Q ?_
    refine k3 (a2P.bring 1) Tryd.sizeOf29 (vs := [(vi 31)]) (cs' := [(vi ((B5).fnodes)), (vi ((B5).fdepth)), (vi 31), (Value.bool ((B5).fform)), (Value.bool ((B5).fnamed)), (vs a9R)]) rfl rfl (nb rfl) rfl rfl fun F5 c5c f9M => ?_
    exact hx1 _ _ (hj1 ((B5).fnodes) ((B5).fdepth) 31 ((B5).fform) ((B5).fnamed) a7g a9R b6v a0D _ b6w ((((c5c.bring 2).bring 3).bring 2).bring 3) h)
   ·replace h := h.2 e1G
    exact hx1 _ _ (hj1 ((B5).fnodes) ((B5).fdepth) ((B5).fe) ((B5).fform) ((B5).fnamed) a7g a9R b6v a0D _ b6w ((((a2P.bring 2).bring 3).bring 3).bring 3) h)
theorem b6y (x0 : Sl) {H : Hp} {K : i9 → Hp → Prop} (h : a2R x0 H K) : a2K x0 H K := by
 intro w I
 refine f5a ?_
 refine b5A x0 I (fun r0 gr0 H' w' I' hk => ⟨H', _, I', r0, gr0, rfl, rfl, hk⟩) h
def O1 (a8T : Int) (cr_1l2 : d5) (a5U : Int) (K9 : g6) (H : Hp) (n2 : (Int × g6) → Hp → Prop) (K : g6 → Hp → Prop) : Prop :=
 (((decide (a5U < (cr_1l2.i7.n : Int))) && (decide (K9.fbad = 0))) = true →
 (0 : Int) ≤ a5U ∧ (a5U : Int) < cr_1l2.i7.n ∧ ∃ d4l : d5, EltH H cr_1l2.i7 a5U 4 (d6 d4l) ∧
 S8 K9 d4l (IntKind.wrap .i64 (a8T + 1)) H (fun (d4m : g6) (e1H : Hp) =>
 n2 ((IntKind.wrap .i64 (a5U + 1)), d4m) e1H)) ∧
 (((decide (a5U < (cr_1l2.i7.n : Int))) && (decide (K9.fbad = 0))) = false →
 K K9 H)
def O2 (b0O : Int) (T0 : g6) (cr_1j1 : d5) (H : Hp) (K : g6 → Hp → Prop) : Prop :=
 TL ((0, T0) : Int × g6) H fun (s : Int × g6) H n2 => O1 b0O cr_1j1 s.1 s.2 H n2 K
def O3 (f9N : Int) (cr_1l3 : d5) (Z8 : Int) (a4k : g6) (H : Hp) (n3 : (Int × g6) → Hp → Prop) (K : g6 → Hp → Prop) : Prop :=
 (((decide (Z8 < (cr_1l3.g5.n : Int))) && (decide (a4k.fbad = 0))) = true →
 (0 : Int) ≤ Z8 ∧ (Z8 : Int) < cr_1l3.g5.n ∧ ∃ d4n : a7, EltH H cr_1l3.g5 Z8 4 (b8 d4n) ∧
 M0 a4k d4n (IntKind.wrap .i64 (f9N + 1)) H (fun (c9c : g6) (a4B : Hp) =>
 n3 ((IntKind.wrap .i64 (Z8 + 1)), c9c) a4B)) ∧
 (((decide (Z8 < (cr_1l3.g5.n : Int))) && (decide (a4k.fbad = 0))) = false →
 O2 f9N a4k cr_1l3 H K)
def T1 (x0 : g6) (x1 : d5) (x2 : Int) (H : Hp) (K : g6 → Hp → Prop) : Prop :=
 S6 x0 x2 H (fun (T2 : Bool) (a1X : g6) (H_6 : Hp) =>
 ((!T2) = true →
 K a1X H_6) ∧
 ((!T2) = false →
 TL ((0, a1X) : Int × g6) H_6 fun (s : Int × g6) H n3 => O3 x2 x1 s.1 s.2 H n3 K))
theorem a8U (x0 : g6) (x1 : d5) (x2 : Int) (g0 : Nat) {w0 w : World} {ps0 : Nat → Prop} {H0 H : Hp} {K : g6 → Hp → Prop} {R : Value → World → Prop} {E : Pan} (I : Inv w0 ps0 H0 H [bx g0 130 (o6 x0)] w) (hR : ∀ (y0 : g6) (H' : Hp) (w' : World) (_ : Inv w0 ps0 H0 H' [bx g0 130 (o6 y0)] w') (_ : K y0 H'), R (Value.tuple #[]) w') (h : T1 x0 x1 x2 H K) : F77 (Value.pointer (some ⟨g0, 0, none⟩)) (Value.agg (d6 x1).toArray) (vi x2) w R E := by
 unfold T1 at h
 unfold F77
 refine F7 I (cs := (d6 x1)) rfl fun g_2 w_3 I_4 k_5 => ?_
 refine f5 (cap := []) (fun args w => Tryd.call102 args w) ?_
 refine i6 (Fi := [bx g0 130 (o6 x0)]) (Fr := [bx g_2 27 (d6 x1)]) (I_4.bring 1) (h g0) (fun c1t H_6 b8E w_7 I_8 c1u k_9 a7Z => ?_) (fun _ _ _ _ _ q => q.elim)
 obtain ⟨T2, a1X, rfl, rfl, h⟩ := a7Z
 refine a8 (C4 _) ?_
 refine j9 (fun b6z => ?_) (fun b6z => ?_)
 ·replace h := h.1 b6z
  exact hR a1X H_6 _ (I_8.bring 1).drop h
 ·replace h := h.2 b6z
  have hj1 : ∀ (T0 : g6) (H : Hp) (w : World) (_ : Inv w0 ps0 H0 H [bx g0 130 (o6 T0), bx g_2 27 (d6 x1)] w) (_ : O2 x2 T0 x1 H K), c8p (Value.pointer (some ⟨g0, 0, none⟩)) (vi x2) (Value.pointer (some ⟨g_2, 0, none⟩)) w R E := by
   intro T0 H w I h
   unfold c8p
   intro _
   unfold O2 at h
   obtain ⟨c1v, b2n, e1I, e1J⟩ := h
   refine I0 (J := fun n l w => ∃ (s : Int × g6) (H : Hp) , n = b2n s ∧ l = (match s with | (a5U, K9) => [(vi a5U)]) ∧ (match s with | (a5U, K9) => Inv w0 ps0 H0 H [bx g0 130 (o6 K9), bx g_2 27 (d6 x1)] w) ∧ c1v s H) ⟨_, (0, T0), H, rfl, rfl, ((I.bring 1).bring 1), e1I⟩ ?_
   rintro h3p τ_78 w next2 ⟨⟨a5U, K9⟩, H, rfl, b0M, I, e1K⟩ hn2
   dsimp only at b0M I
   simp only [List.map_cons, List.map_nil, List.cons.injEq, and_true] at b0M
   have e7 := b0M
   simp only [e7]
   obtain ⟨n2, hm2, h⟩ : ∃ n2 : (Int × g6) → Hp → Prop, (∀ s' H', n2 s' H' → c1v s' H' ∧ b2n s' < b2n (a5U, K9)) ∧ O1 x2 x1 a5U K9 H n2 K := ⟨_, fun _ _ h => h, e1J (a5U, K9) H (fun s' H' => c1v s' H' ∧ b2n s' < b2n (a5U, K9)) e1K (fun _ _ a b => ⟨a, b⟩)⟩
   unfold d9g
   unfold O1 at h
   refine a8 s5 ?_
   refine d9 (ld1 Tryd.isAgg25 ((I.bring 1).at1 (o := 3) (vs := [(vs x1.i7)]) (nb rfl) rfl)) ?_
   refine a8 (H8 _ _ _) ?_
   refine a8 (o3 _ _ _ _ _ _) ?_
   try simp only [m4]
   refine a8 (Pu.g fun hb => by have b6 := hb; first | exact (r8 _) | (simp only [b7 b6]; exact (r8 _)) | (simp only [d7 b6, b7 b6, b7 hb, f8 b6, f9]; exact (r8 _))) ?_
   refine a8 (Pu.g fun hb => by have b6 := hb; first | exact J0 | (simp only [b7 b6]; exact J0) | (simp only [d7 b6, b7 b6, b7 hb, f8 b6, f9]; exact J0)) ?_
   refine d9 (Ld.g fun hb => by have b6 := hb; first | exact (ld1 Tryd.isAgg3 (I.at1 (o := 2) (vs := [(vi K9.fbad)]) (nb rfl) rfl)) | (simp only [b7 b6]; exact (ld1 Tryd.isAgg3 (I.at1 (o := 2) (vs := [(vi K9.fbad)]) (nb rfl) rfl))) | (simp only [d7 b6, b7 b6, b7 hb, f8 b6, f9]; exact (ld1 Tryd.isAgg3 (I.at1 (o := 2) (vs := [(vi K9.fbad)]) (nb rfl) rfl)))) ?_
   refine a8 (Pu.g fun hb => by have b6 := hb; first | exact (f4 _ _ _ _ _ _) | (simp only [b7 b6]; exact (f4 _ _ _ _ _ _)) | (simp only [d7 b6, b7 b6, b7 hb, f8 b6, f9]; exact (f4 _ _ _ _ _ _))) ?_
   refine a8 (k9 _ _) ?_
   refine j9 (fun a5t => ?_) (fun a5t => ?_)
   ·replace h := h.1 a5t
    refine a8 s5 ?_
    refine d9 (ld1 Tryd.isAgg25 ((I.bring 1).at1 (o := 3) (vs := [(vs x1.i7)]) (nb rfl) rfl)) ?_
    obtain ⟨c9d, h3q, d4l, c9e, h⟩ := h
    obtain ⟨i0s, i0t, h3r, c9e⟩ := c9e
    refine a8 (T9 h3r _ _ _ _ c9d h3q) ?_
    refine d9 (ldA (vs := (d6 d4l)) Tryd.isAgg27 Tryd.sizeOf27 rfl (I.atH c9e)) ?_
    refine a8 (s9 _ _ _ _ _ _) ?_
    refine f5 (cap := []) (fun args w => Tryd.call77 args w) ?_
    refine i6 (Fi := [bx g0 130 (o6 K9)]) (Fr := [bx g_2 27 (d6 x1)]) I (h g0) (fun i0u e1H i0v M3 h3s c5d i0w h3t => ?_) (fun _ _ _ _ _ q => q.elim)
    obtain ⟨d4m, rfl, rfl, h⟩ := h3t
    refine a8 (s9 _ _ _ _ _ _) ?_
    exact hn2 _ _ _ (hm2 _ _ h).2 ⟨((IntKind.wrap .i64 (a5U + 1)), d4m), e1H, rfl, rfl, ((h3s.bring 1).bring 1), (hm2 _ _ h).1⟩
   ·replace h := h.2 a5t
    exact hR K9 H _ (I.bring 1).drop h
  refine s8 fun j1 hx1 => ?_
  obtain ⟨d4o, c3j, g9c, g9d⟩ := h
  refine I0 (J := fun n l w => ∃ (s : Int × g6) (H : Hp) , n = c3j s ∧ l = (match s with | (Z8, a4k) => [(vi Z8)]) ∧ (match s with | (Z8, a4k) => Inv w0 ps0 H0 H [bx g0 130 (o6 a4k), bx g_2 27 (d6 x1)] w) ∧ d4o s H) ⟨_, (0, a1X), H_6, rfl, rfl, ((I_8.bring 1).bring 1), g9c⟩ ?_
  rintro h6v τ_112 w next3 ⟨⟨Z8, a4k⟩, H, rfl, c6M, I, g9e⟩ hn3
  dsimp only at c6M I
  simp only [List.map_cons, List.map_nil, List.cons.injEq, and_true] at c6M
  have e6 := c6M
  simp only [e6]
  obtain ⟨n3, hm3, h⟩ : ∃ n3 : (Int × g6) → Hp → Prop, (∀ s' H', n3 s' H' → d4o s' H' ∧ c3j s' < c3j (Z8, a4k)) ∧ O3 x2 x1 Z8 a4k H n3 K := ⟨_, fun _ _ h => h, g9d (Z8, a4k) H (fun s' H' => d4o s' H' ∧ c3j s' < c3j (Z8, a4k)) g9e (fun _ _ a b => ⟨a, b⟩)⟩
  unfold d9h
  unfold O3 at h
  refine a8 u1 ?_
  refine d9 (ld1 Tryd.isAgg22 ((I.bring 1).at1 (o := 2) (vs := [(vs x1.g5)]) (nb rfl) rfl)) ?_
  refine a8 (q6 _ _ _) ?_
  refine a8 (o3 _ _ _ _ _ _) ?_
  try simp only [m4]
  refine a8 (Pu.g fun hb => by have b6 := hb; first | exact (r8 _) | (simp only [b7 b6]; exact (r8 _)) | (simp only [d7 b6, b7 b6, b7 hb, f8 b6, f9]; exact (r8 _))) ?_
  refine a8 (Pu.g fun hb => by have b6 := hb; first | exact J0 | (simp only [b7 b6]; exact J0) | (simp only [d7 b6, b7 b6, b7 hb, f8 b6, f9]; exact J0)) ?_
  refine d9 (Ld.g fun hb => by have b6 := hb; first | exact (ld1 Tryd.isAgg3 (I.at1 (o := 2) (vs := [(vi a4k.fbad)]) (nb rfl) rfl)) | (simp only [b7 b6]; exact (ld1 Tryd.isAgg3 (I.at1 (o := 2) (vs := [(vi a4k.fbad)]) (nb rfl) rfl))) | (simp only [d7 b6, b7 b6, b7 hb, f8 b6, f9]; exact (ld1 Tryd.isAgg3 (I.at1 (o := 2) (vs := [(vi a4k.fbad)]) (nb rfl) rfl)))) ?_
  refine a8 (Pu.g fun hb => by have b6 := hb; first | exact (f4 _ _ _ _ _ _) | (simp only [b7 b6]; exact (f4 _ _ _ _ _ _)) | (simp only [d7 b6, b7 b6, b7 hb, f8 b6, f9]; exact (f4 _ _ _ _ _ _))) ?_
  refine a8 (k9 _ _) ?_
  refine j9 (fun d4p => ?_) (fun d4p => ?_)
  ·replace h := h.1 d4p
   refine a8 u1 ?_
   refine d9 (ld1 Tryd.isAgg22 ((I.bring 1).at1 (o := 2) (vs := [(vs x1.g5)]) (nb rfl) rfl)) ?_
   obtain ⟨c1w, c5e, d4n, c9f, h⟩ := h
   obtain ⟨i0x, i0y, d4q, c9f⟩ := c9f
   refine a8 (m7 d4q _ _ _ _ c1w c5e) ?_
   refine d9 (ldA (vs := (b8 d4n)) Tryd.isAgg24 Tryd.sizeOf24 rfl (I.atH c9f)) ?_
   refine a8 (s9 _ _ _ _ _ _) ?_
   refine f5 (cap := []) (fun args w => Tryd.call66 args w) ?_
   refine i6 (Fi := [bx g0 130 (o6 a4k)]) (Fr := [bx g_2 27 (d6 x1)]) I (h g0) (fun c6N a4B g9f a3m a6G d4r d4s d4t => ?_) (fun _ _ _ _ _ q => q.elim)
   obtain ⟨c9c, rfl, rfl, h⟩ := d4t
   refine a8 (s9 _ _ _ _ _ _) ?_
   exact hn3 _ _ _ (hm3 _ _ h).2 ⟨((IntKind.wrap .i64 (Z8 + 1)), c9c), a4B, rfl, rfl, ((a6G.bring 1).bring 1), (hm3 _ _ h).1⟩
  ·replace h := h.2 d4p
   exact hx1 _ _ (hj1 a4k H _ ((I.bring 1).bring 1) h)
theorem a9t (x0 : g6) (x1 : d5) (x2 : Int) {H : Hp} {K : g6 → Hp → Prop} (h : T1 x0 x1 x2 H K) : S8 x0 x1 x2 H K := by
 intro g0 w I
 refine f5E ?_
 refine a8U x0 x1 x2 g0 I (fun y0 H' w' I' hk => ⟨H', _, I', y0, rfl, rfl, hk⟩) h
def y1 (R9 : (List f6)) (H : Hp) (K : Sl → Hp → Prop) : Prop :=
 ∀ (A7 : Sl) (U8 : Hp), Hle H U8 → SlH U8 1 p9 A7 R9 → A7.n ≤ A7.c →
 K A7 U8
def y4 (a0X : Sl) (a6H : Int) (r6 : (List f6)) (p6 : Int) (H : Hp) (n2 : ((List f6) × Int) → Hp → Prop) (K : Sl → Hp → Prop) : Prop :=
 (p6 < a6H →
 (0 : Int) ≤ p6 ∧ (p6 : Int) < a0X.n ∧ ∃ x_1 : R5, EltH H a0X p6 6 (v6 x_1) ∧
 a8P x_1 H (fun (L0 : f6) (Z9 : Hp) =>
 (r6.length + ([L0] : List f6).length) * 17 ≤ 140737488355328 ∧
 n2 ((r6 ++ [L0]), (IntKind.wrap .i64 (p6 + 1))) Z9)) ∧
 (¬ (p6 < a6H) →
 y1 r6 H K)
def z8 (x0 : Sl) (H : Hp) (K : Sl → Hp → Prop) : Prop :=
 TL (([], 0) : (List f6) × Int) H fun (s : (List f6) × Int) H n2 => y4 x0 (x0.n : Int) s.1 s.2 H n2 K
theorem a1w (x0 : Sl) {w0 w : World} {ps0 : Nat → Prop} {H0 H : Hp} {K : Sl → Hp → Prop} {R : Value → World → Prop} {E : Pan} (I : Inv w0 ps0 H0 H [] w) (hR : ∀ (r0 : Sl) (H' : Hp) (w' : World) (_ : Inv w0 ps0 H0 H' [] w') (_ : K r0 H'), R (vs r0) w') (h : z8 x0 H K) : F90 (vs x0) (Value.func (.func 91) #[] #[]) w R E := by
 unfold z8 at h
 unfold F90
 have hj1 : ∀ (R9 : (List f6)) (A7 : Sl) (Fs5j1 : Frag) (H : Hp) (w : World) (_ : RowL 152 1 p9 A7 R9 Fs5j1) (_ : Inv w0 ps0 H0 H [Fs5j1] w) (_ : y1 R9 H K), c8u (vs A7) w R E := by
  intro R9 A7 Fs5j1 H w b1i I h
  unfold c8u
  intro _
  unfold y1 at h
  obtain ⟨U8, b2o, b4P, a5V, a6I⟩ := Inv.freezeC I b1i (by decide)
  replace h := h A7 U8 b4P a5V a6I
  exact hR A7 U8 _ b2o h
 refine s8 fun j1 hx1 => ?_
 refine a8 (a8s _ _ _) ?_
 obtain ⟨a5u, a0E, b6A, b6B⟩ := h
 refine I0 (J := fun n l w => ∃ (s : (List f6) × Int) (H : Hp) (S2 : Sl) (Fs5l2 : Frag) , n = a0E s ∧ l = (match s with | (r6, p6) => [(vs S2), (vi p6)]) ∧ (match s with | (r6, p6) => RowL 152 1 p9 S2 r6 Fs5l2) ∧ (match s with | (r6, p6) => Inv w0 ps0 H0 H [Fs5l2] w) ∧ a5u s H) ⟨_, ([], 0), H, (Sl.mk none 0 0), [], rfl, rfl, (RowL.nil N0 R4), I.nil, b6A⟩ ?_
 rintro d4u τ_50 w next2 ⟨⟨r6, p6⟩, H, S2, Fs5l2, rfl, a4C, a2S, I, b6C⟩ hn2
 dsimp only at a4C I a2S
 simp only [List.map_cons, List.map_nil, List.cons.injEq, and_true] at a4C
 obtain ⟨e5, e10⟩ := a4C
 simp only [e5, e10]
 obtain ⟨n2, hm2, h⟩ : ∃ n2 : ((List f6) × Int) → Hp → Prop, (∀ s' H', n2 s' H' → a5u s' H' ∧ a0E s' < a0E (r6, p6)) ∧ y4 x0 (x0.n : Int) r6 p6 H n2 K := ⟨_, fun _ _ h => h, b6B (r6, p6) H (fun s' H' => a5u s' H' ∧ a0E s' < a0E (r6, p6)) b6C (fun _ _ a b => ⟨a, b⟩)⟩
 unfold d9k
 unfold y4 at h
 refine a8 (o3 _ _ _ _ _ _) ?_
 refine g8 (fun a3v => ?_) (fun a3v => ?_)
 ·replace h := h.1 a3v
  obtain ⟨h_4, h_5, x_1, h_7, h⟩ := h
  obtain ⟨g_2, o_3, h_6, h_7⟩ := h_7
  refine a8 (e1f h_6 _ _ _ _ h_4 h_5) ?_
  refine d9 (ldA (vs := (v6 x_1)) Tryd.isAgg63 Tryd.sizeOf63 rfl (I.atH h_7)) ?_
  refine u2 I Tryd.zeroValue63 (cs := [(vi 0), (Value.string ⟨#[]⟩), (Value.slice none 0 0), (Value.slice none 0 0), (Value.slice none 0 0), (Value.slice none 0 0)]) rfl fun g_9 l0 a3w b4Q => ?_
  refine k3 a3w Tryd.sizeOf63 (vs := (v6 x_1)) (cs' := (v6 x_1)) rfl rfl (nb rfl) rfl rfl fun a2w J7 a2T => ?_
  refine d9 (ldA Tryd.isAgg63 Tryd.sizeOf63 rfl (J7.at1 (o := 0) (vs := (v6 x_1)) (nb rfl) rfl)) ?_
  refine f5 (cap := []) (fun args w => Tryd.call91 args w) ?_
  refine i6 (Fi := []) (Fr := [bx g_9 63 (v6 x_1), Fs5l2]) J7 (h) (fun c9g Z9 c5f a1C a5r c9h c9i b2p => ?_) (fun _ _ _ _ _ q => q.elim)
  obtain ⟨L0, rfl, rfl, h⟩ := b2p
  refine a5R (e := 152) (c := p9) (xs := [L0]) a5r (b1V _) rfl rfl N0 R4 (nb rfl) fun c5g b8F w4 a8a a0F a8V => ?_
  obtain ⟨b2q, h⟩ := h
  refine b9w (s := S2) (xs := r6) (a0F.bring 2) a2S (a8a.srcO ((a0F.bring 2).bring 1)) b2q fun a7v b0P z2 a9Q a7w c5h => ?_
  refine a8 (s9 _ _ _ _ _ _) ?_
  exact hn2 _ _ _ (hm2 _ _ h).2 ⟨((r6 ++ [L0]), (IntKind.wrap .i64 (p6 + 1))), Z9, a7v, b0P, rfl, rfl, a9Q, ((a7w.bring 1).drop.bring 1).drop, (hm2 _ _ h).1⟩
 ·replace h := h.2 a3v
  exact hx1 _ _ (hj1 r6 S2 Fs5l2 H _ a2S I h)
theorem a1E (x0 : Sl) {H : Hp} {K : Sl → Hp → Prop} (h : z8 x0 H K) : z6 x0 H K := by
 intro w I
 refine f5S ?_
 refine a1w x0 I (fun r0 H' w' I' hk => ⟨H', _, I', r0, rfl, rfl, hk⟩) h
def a2U (x0 : a7) (H : Hp) (K : f6 → Hp → Prop) : Prop :=
 K (f6.B0 (C8.mk x0)) H
theorem b5B (x0 : a7) {w0 w : World} {ps0 : Nat → Prop} {H0 H : Hp} {K : f6 → Hp → Prop} {R : Value → World → Prop} {E : Pan} (I : Inv w0 ps0 H0 H [] w) (hR : ∀ (r0 : f6) (H' : Hp) (w' : World) (_ : Inv w0 ps0 H0 H' [] w') (_ : K r0 H'), R (A6 r0) w') (h : a2U x0 H K) : d3W (Value.agg (b8 x0).toArray) w R E := by
 unfold a2U at h
 unfold d3W
 refine F7 I (cs := (b8 x0)) rfl fun g_2 w_3 I_4 k_5 => ?_
 refine d9 (ldA Tryd.isAgg24 Tryd.sizeOf24 rfl (I_4.at1 (o := 0) (vs := (b8 x0)) (nb rfl) rfl)) ?_
 refine a8 (b7V _ _ _ _ _ _) ?_
 refine a8 (a9G (C8.mk x0)) ?_
 exact hR (f6.B0 (C8.mk x0)) H _ I_4.drop h
theorem b6D (x0 : a7) {H : Hp} {K : f6 → Hp → Prop} (h : a2U x0 H K) : a8Q x0 H K := by
 intro w I
 refine e8K ?_
 refine b5B x0 I (fun r0 H' w' I' hk => ⟨H', _, I', r0, rfl, rfl, hk⟩) h
def a2V (x0 : d5) (H : Hp) (K : f6 → Hp → Prop) : Prop :=
 K (f6.E9 (G3.mk x0)) H
theorem b5C (x0 : d5) {w0 w : World} {ps0 : Nat → Prop} {H0 H : Hp} {K : f6 → Hp → Prop} {R : Value → World → Prop} {E : Pan} (I : Inv w0 ps0 H0 H [] w) (hR : ∀ (r0 : f6) (H' : Hp) (w' : World) (_ : Inv w0 ps0 H0 H' [] w') (_ : K r0 H'), R (A6 r0) w') (h : a2V x0 H K) : d4b (Value.agg (d6 x0).toArray) w R E := by
 unfold a2V at h
 unfold d4b
 refine F7 I (cs := (d6 x0)) rfl fun g_2 w_3 I_4 k_5 => ?_
 refine d9 (ldA Tryd.isAgg27 Tryd.sizeOf27 rfl (I_4.at1 (o := 0) (vs := (d6 x0)) (nb rfl) rfl)) ?_
 refine a8 (b7W _ _ _ _ _ _ _ _) ?_
 refine a8 (b5n (G3.mk x0)) ?_
 exact hR (f6.E9 (G3.mk x0)) H _ I_4.drop h
theorem b6E (x0 : d5) {H : Hp} {K : f6 → Hp → Prop} (h : a2V x0 H K) : a8R x0 H K := by
 intro w I
 refine e8T ?_
 refine b5C x0 I (fun r0 H' w' I' hk => ⟨H', _, I', r0, rfl, rfl, hk⟩) h
def a0G (x0 : G3) (H : Hp) (K : Sl → Hp → Prop) : Prop :=
 t8 x0.l7.g5 H (fun (b6F : Sl) (H_8 : Hp) =>
 z7 x0.l7.i7 H_8 (fun (b6G : Sl) (c9j : Hp) =>
 ∀ (c5i : Sl) (c9k : Hp), Hle c9j c9k → SlH c9k 1 csl c5i [b6F, b6G] → c5i.n ≤ c5i.c →
 D1 c5i c9k (fun (d4v : Sl) (b6H : Hp) =>
 K d4v b6H)))
theorem b1j (x0 : G3) {w0 w : World} {ps0 : Nat → Prop} {H0 H : Hp} {K : Sl → Hp → Prop} {R : Value → World → Prop} {E : Pan} (I : Inv w0 ps0 H0 H [] w) (hR : ∀ (r0 : Sl) (H' : Hp) (w' : World) (_ : Inv w0 ps0 H0 H' [] w') (_ : K r0 H'), R (vs r0) w') (h : a0G x0 H K) : d3Z (Value.agg (d6 x0.l7).toArray) w R E := by
 unfold a0G at h
 unfold d3Z
 refine F7 I (cs := (d6 x0.l7)) rfl fun g_2 w_3 I_4 k_5 => ?_
 refine a9F I_4 fun w_6 I_7 => ?_
 refine t1 X2 ?_
 refine t1 u1 ?_
 refine t1 X2 ?_
 refine t1 s5 ?_
 refine G8 (ld1 Tryd.isAgg22 (I_7.at1 (o := 2) (vs := [(vs x0.l7.g5)]) (nb rfl) rfl)) ?_
 refine G8 (ld1 Tryd.isAgg25 (I_7.at1 (o := 3) (vs := [(vs x0.l7.i7)]) (nb rfl) rfl)) ?_
 refine f5 (cap := []) (fun args w => Tryd.call171 args w) ?_
 refine i6 (Fi := []) (Fr := [bx g_2 138 (d6 x0.l7)]) I_7 (h) (fun h3u H_8 h3v w_9 a9S c1x c1y e1L => ?_) (fun _ _ _ _ _ q => q.elim)
 obtain ⟨b6F, rfl, rfl, h⟩ := e1L
 refine ⟨(c1y _ I_7.lt1 (Inv.a5J (Fi := []) I_7)), ?_⟩
 refine f5 (cap := []) (fun args w => Tryd.call175 args w) ?_
 refine i6 (Fi := []) (Fr := [bx g_2 138 (d6 x0.l7)]) a9S (h) (fun h3w c9j h3x p5 c1z h3y d4w e1M => ?_) (fun _ _ _ _ _ q => q.elim)
 obtain ⟨b6G, rfl, rfl, h⟩ := e1M
 refine a5R (e := 124) (c := csl) (xs := [b6F, b6G]) c1z (e1g _ _ _ _ _ _) rfl rfl d3z d3A (nb rfl) fun c5i c5b a8b e1N e1s h3k => ?_
 obtain ⟨c9k, e1O, c1l, e1D, h3z⟩ := Inv.freezeC e1s e1N (by decide)
 replace h := h c5i c9k c1l e1D h3z
 refine f5 (cap := []) (fun args w => Tryd.call87 args w) ?_
 refine i6 (Fi := []) (Fr := [bx g_2 138 (d6 x0.l7)]) e1O (h) (fun i0z b6H i0A b6I b2o i0B i0C h3A => ?_) (fun _ _ _ _ _ q => q.elim)
 obtain ⟨d4v, rfl, rfl, h⟩ := h3A
 exact hR d4v b6H _ b2o.drop h
theorem b2r (x0 : G3) {H : Hp} {K : Sl → Hp → Prop} (h : a0G x0 H K) : a6C x0 H K := by
 intro w I
 refine e8P ?_
 refine b1j x0 I (fun r0 H' w' I' hk => ⟨H', _, I', r0, rfl, rfl, hk⟩) h
end Go.Proofs.YtnhkdkcgdcgmdaaDoor
