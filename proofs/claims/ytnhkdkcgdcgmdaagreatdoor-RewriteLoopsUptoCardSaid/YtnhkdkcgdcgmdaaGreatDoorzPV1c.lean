/- Typed formulas of the program's functions, and the theorems that the contracts follow from them; printed by lift.py off the code. -/
import Derived.Test.YtnhkdkcgdcgmdaaGreatDoorzPV1
namespace Go.Proofs.YtnhkdkcgdcgmdaaGreatDoor
open Go.RowKit
set_option maxRecDepth 100000
set_option maxHeartbeats 2000000
variable {w0 w : World} {ps0 : Nat → Prop} {H0 H : Hp} {R : RT} {E : Pan}
def a4H (x0 : Int) (H : Hp) (K : Bool → Hp → Prop) : Prop :=
 a4F x0 H (fun (M3 : Int) (H_1 : Hp) =>
 K ((decide (M3 = 3)) || (decide (M3 = 4))) H_1)
theorem b7e (x0 : Int) {K : Bool → Hp → Prop} (I : Inv w0 ps0 H0 H [] w) (hR : ∀ (r0 : Bool) (H' : Hp) (w' : World) (_ : Inv w0 ps0 H0 H' [] w') (_ : K r0 H'), R (vB r0) w') (h : a4H x0 H K) : d5K (Value.int .i32 x0) w R E := by
 unfold a4H at h
 unfold d5K
 refine d8 (cap := []) (fun args w => Tryz.call166 args w) ?_
 refine m4 (Fi := []) (Fr := []) I (h) (fun v_5 H_1 F_6 w_2 I_3 l_8 k_4 q_7 => ?_) (fun _ _ _ _ _ q => q.elim)
 obtain ⟨M3, rfl, rfl, h⟩ := q_7
 refine a7 (m5 _ _ _ _ _ _) ?_
 simp only [Q0]
 refine a7 (Pu.g fun hb => by have i5 := hb; simp only [r8 i5]; exact (m5 _ _ _ _ _ _)) ?_
 refine a7 (a0E _ _) ?_
 exact hR ((decide (M3 = 3)) || (decide (M3 = 4))) H_1 _ I_3 h
theorem b8r (x0 : Int) {H : Hp} {K : Bool → Hp → Prop} (h : a4H x0 H K) : a6Y x0 H K := by
 intro w I
 refine f0b ?_
 refine b7e x0 I (fun r0 H' w' I' hk => ⟨H', _, I', r0, rfl, rfl, hk⟩) h
def s7 (A5 : Bool) (H : Hp) (K : Bool → Hp → Prop) : Prop :=
 (A5 = true →
 K true H) ∧
 (A5 = false →
 K false H)
def a5E (x0 : ByteArray) (H : Hp) (K : Bool → Hp → Prop) : Prop :=
 (x0 = ⟨#[118, 97, 114]⟩ →
 s7 (decide (x0 = ⟨#[118, 97, 114]⟩)) H K) ∧
 (¬ (x0 = ⟨#[118, 97, 114]⟩) →
 (x0 = ⟨#[97, 114, 114, 97, 121]⟩ →
 s7 (decide (x0 = ⟨#[97, 114, 114, 97, 121]⟩)) H K) ∧
 (¬ (x0 = ⟨#[97, 114, 114, 97, 121]⟩) →
 (x0 = ⟨#[105, 102]⟩ →
 s7 (decide (x0 = ⟨#[105, 102]⟩)) H K) ∧
 (¬ (x0 = ⟨#[105, 102]⟩) →
 (x0 = ⟨#[101, 108, 115, 101]⟩ →
 s7 (decide (x0 = ⟨#[101, 108, 115, 101]⟩)) H K) ∧
 (¬ (x0 = ⟨#[101, 108, 115, 101]⟩) →
 (x0 = ⟨#[119, 104, 105, 108, 101]⟩ →
 s7 (decide (x0 = ⟨#[119, 104, 105, 108, 101]⟩)) H K) ∧
 (¬ (x0 = ⟨#[119, 104, 105, 108, 101]⟩) →
 (x0 = ⟨#[97, 115, 115, 101, 114, 116]⟩ →
 s7 (decide (x0 = ⟨#[97, 115, 115, 101, 114, 116]⟩)) H K) ∧
 (¬ (x0 = ⟨#[97, 115, 115, 101, 114, 116]⟩) →
 (x0 = ⟨#[97, 115, 115, 117, 109, 101]⟩ →
 s7 (decide (x0 = ⟨#[97, 115, 115, 117, 109, 101]⟩)) H K) ∧
 (¬ (x0 = ⟨#[97, 115, 115, 117, 109, 101]⟩) →
 (x0 = ⟨#[115, 107, 105, 112]⟩ →
 s7 (decide (x0 = ⟨#[115, 107, 105, 112]⟩)) H K) ∧
 (¬ (x0 = ⟨#[115, 107, 105, 112]⟩) →
 (x0 = ⟨#[105, 110, 112, 117, 116]⟩ →
 s7 (decide (x0 = ⟨#[105, 110, 112, 117, 116]⟩)) H K) ∧
 (¬ (x0 = ⟨#[105, 110, 112, 117, 116]⟩) →
 (x0 = ⟨#[116, 114, 117, 101]⟩ →
 s7 (decide (x0 = ⟨#[116, 114, 117, 101]⟩)) H K) ∧
 (¬ (x0 = ⟨#[116, 114, 117, 101]⟩) →
 s7 (decide (x0 = ⟨#[102, 97, 108, 115, 101]⟩)) H K))))))))))
theorem b9w (x0 : ByteArray) {K : Bool → Hp → Prop} (I : Inv w0 ps0 H0 H [] w) (hR : ∀ (r0 : Bool) (H' : Hp) (w' : World) (_ : Inv w0 ps0 H0 H' [] w') (_ : K r0 H'), R (vB r0) w') (h : a5E x0 H K) : d5J (Value.string x0) w R E := by
 unfold a5E at h
 unfold d5J
 have hj1 : ∀ (A5 : Bool) (H : Hp) (w : World) (_ : Inv w0 ps0 H0 H [] w) (_ : s7 A5 H K), c5F (vB A5) w R E := by
  intro A5 H w I h
  unfold c5F
  intro _
  unfold s7 at h
  refine s6 (fun c_1 => ?_) (fun c_1 => ?_)
  ·replace h := h.1 c_1
   exact hR true H _ I h
  ·replace h := h.2 c_1
   exact hR false H _ I h
 refine v8 fun j1 hx1 => ?_
 refine a7 (a3V _ _ _ _ _) ?_
 refine i8 (fun b3g => ?_) (fun b3g => ?_)
 ·replace h := h.1 b3g
  exact hx1 _ _ (hj1 (decide (x0 = ⟨#[118, 97, 114]⟩)) H _ I h)
 ·replace h := h.2 b3g
  refine a7 (a3V _ _ _ _ _) ?_
  refine i8 (fun e3U => ?_) (fun e3U => ?_)
  ·replace h := h.1 e3U
   exact hx1 _ _ (hj1 (decide (x0 = ⟨#[97, 114, 114, 97, 121]⟩)) H _ I h)
  ·replace h := h.2 e3U
   refine a7 (a3V _ _ _ _ _) ?_
   refine i8 (fun c_9 => ?_) (fun c_9 => ?_)
   ·replace h := h.1 c_9
    exact hx1 _ _ (hj1 (decide (x0 = ⟨#[105, 102]⟩)) H _ I h)
   ·replace h := h.2 c_9
    refine a7 (a3V _ _ _ _ _) ?_
    refine i8 (fun c_8 => ?_) (fun c_8 => ?_)
    ·replace h := h.1 c_8
     exact hx1 _ _ (hj1 (decide (x0 = ⟨#[101, 108, 115, 101]⟩)) H _ I h)
    ·replace h := h.2 c_8
     refine a7 (a3V _ _ _ _ _) ?_
     refine i8 (fun c_7 => ?_) (fun c_7 => ?_)
     ·replace h := h.1 c_7
      exact hx1 _ _ (hj1 (decide (x0 = ⟨#[119, 104, 105, 108, 101]⟩)) H _ I h)
     ·replace h := h.2 c_7
      refine a7 (a3V _ _ _ _ _) ?_
      refine i8 (fun c_6 => ?_) (fun c_6 => ?_)
      ·replace h := h.1 c_6
       exact hx1 _ _ (hj1 (decide (x0 = ⟨#[97, 115, 115, 101, 114, 116]⟩)) H _ I h)
      ·replace h := h.2 c_6
       refine a7 (a3V _ _ _ _ _) ?_
       refine i8 (fun c_5 => ?_) (fun c_5 => ?_)
       ·replace h := h.1 c_5
        exact hx1 _ _ (hj1 (decide (x0 = ⟨#[97, 115, 115, 117, 109, 101]⟩)) H _ I h)
       ·replace h := h.2 c_5
        refine a7 (a3V _ _ _ _ _) ?_
        refine i8 (fun c_4 => ?_) (fun c_4 => ?_)
        ·replace h := h.1 c_4
         exact hx1 _ _ (hj1 (decide (x0 = ⟨#[115, 107, 105, 112]⟩)) H _ I h)
        ·replace h := h.2 c_4
         refine a7 (a3V _ _ _ _ _) ?_
         refine i8 (fun c_3 => ?_) (fun c_3 => ?_)
         ·replace h := h.1 c_3
          exact hx1 _ _ (hj1 (decide (x0 = ⟨#[105, 110, 112, 117, 116]⟩)) H _ I h)
         ·replace h := h.2 c_3
          refine a7 (a3V _ _ _ _ _) ?_
          refine i8 (fun c_2 => ?_) (fun c_2 => ?_)
          ·replace h := h.1 c_2
           exact hx1 _ _ (hj1 (decide (x0 = ⟨#[116, 114, 117, 101]⟩)) H _ I h)
          ·replace h := h.2 c_2
           refine a7 (a3V _ _ _ _ _) ?_
           exact hx1 _ _ (hj1 (decide (x0 = ⟨#[102, 97, 108, 115, 101]⟩)) H _ I h)
theorem c1x (x0 : ByteArray) {H : Hp} {K : Bool → Hp → Prop} (h : a5E x0 H K) : a3X x0 H K := by
 intro w I
 refine e9Z ?_
 refine b9w x0 I (fun r0 H' w' I' hk => ⟨H', _, I', r0, rfl, rfl, hk⟩) h
def W5 (x0 : (List ByteArray)) (x1 : ByteArray) (H : Hp) (K : Bool → Hp → Prop) : Prop :=
 a2E x0 x1 H (fun (M3 : Int) (H_1 : Hp) =>
 K (decide (0 ≤ M3)) H_1)
theorem a8R (x0 : (List ByteArray)) (x1 : ByteArray) (sx0 : Sl) (Fx0 : Frag) (hx0 : RowL 9 1 M0 sx0 x0 Fx0) {K : Bool → Hp → Prop} (I : Inv w0 ps0 H0 H [Fx0] w) (hR : ∀ (r0 : Bool) (H' : Hp) (w' : World) (_ : Inv w0 ps0 H0 H' [Fx0] w') (_ : K r0 H'), R (vB r0) w') (h : W5 x0 x1 H K) : d5H (vs sx0) (Value.string x1) w R E := by
 unfold W5 at h
 unfold d5H
 refine d8 (cap := []) (fun args w => Tryz.call167 args w) ?_
 refine m4 (Fi := [Fx0]) (Fr := []) I (h sx0 Fx0 hx0) (fun v_5 H_1 F_6 w_2 I_3 l_8 k_4 q_7 => ?_) (fun _ _ _ _ _ q => q.elim)
 obtain ⟨M3, rfl, rfl, h⟩ := q_7
 refine a7 (b5B _ _ _ _ _ _) ?_
 exact hR (decide (0 ≤ M3)) H_1 _ I_3 h
theorem a9n (x0 : (List ByteArray)) (x1 : ByteArray) {H : Hp} {K : Bool → Hp → Prop} (h : W5 x0 x1 H K) : Q6 x0 x1 H K := by
 intro sx0 Fx0 hx0 w I
 refine e9V ?_
 refine a8R x0 x1 sx0 Fx0 hx0 I (fun r0 H' w' I' hk => ⟨H', _, I', r0, rfl, rfl, hk⟩) h
def B2 (b2u : Int) (b2v : Int) (b2w : Int) (b2x : Bool) (b2y : Bool) (b0n : (List ByteArray)) (H : Hp) (K : Bool → j9 → (List ByteArray) → Hp → Prop) : Prop :=
 K true (j9.mk b2u b2v b2w b2x b2y (Sl.mk none 0 0)) b0n H
def a0J (x0 : j9) (a0Q : (List ByteArray)) (x1 : d9) (x2 : Int) (H : Hp) (K : Bool → j9 → (List ByteArray) → Hp → Prop) : Prop :=
 (4096 < (IntKind.wrap .i64 (x0.fnodes + 1)) →
 K false (j9.mk (IntKind.wrap .i64 (x0.fnodes + 1)) x0.fdepth 33 x0.fform x0.fnamed (Sl.mk none 0 0)) a0Q H) ∧
 (¬ (4096 < (IntKind.wrap .i64 (x0.fnodes + 1))) →
 (64 < x2 →
 K false (j9.mk (IntKind.wrap .i64 (x0.fnodes + 1)) x0.fdepth 32 x0.fform x0.fnamed (Sl.mk none 0 0)) a0Q H) ∧
 (¬ (64 < x2) →
 TG (x0.fform = false) (a6w x1 H) false H (fun (L4 : Bool) (a1P : Hp) =>
 a3z x1 a1P (fun (r9 : ByteArray) (b7f : Bool) (a1m : Hp) =>
 (b7f = true →
 TG (x0.fnamed = false) (a5z r9 a1m) false a1m (fun (a4I : Bool) (b5a : Hp) =>
 Q6 a0Q r9 b5a (fun (N7 : Bool) (a4E : Hp) =>
 ((!N7) = true →
 (a0Q.length + ([r9] : List ByteArray).length) * 17 ≤ 140737488355328 ∧
 B2 (IntKind.wrap .i64 (x0.fnodes + 1)) (if x2 > x0.fdepth then x2 else x0.fdepth) x0.fe (x0.fform || (!L4)) (x0.fnamed || (!a4I)) (a0Q ++ [r9]) a4E K) ∧
 ((!N7) = false →
 B2 (IntKind.wrap .i64 (x0.fnodes + 1)) (if x2 > x0.fdepth then x2 else x0.fdepth) x0.fe (x0.fform || (!L4)) (x0.fnamed || (!a4I)) a0Q a4E K)))) ∧
 (b7f = false →
 B2 (IntKind.wrap .i64 (x0.fnodes + 1)) (if x2 > x0.fdepth then x2 else x0.fdepth) x0.fe (x0.fform || (!L4)) x0.fnamed a0Q a1m K)))))
theorem b1f (x0 : j9) (a0Q : (List ByteArray)) (x1 : d9) (x2 : Int) (g0 : Nat) (a0r : Sl) (a5c : Frag) (b4u : RowL 9 1 M0 a0r a0Q a5c) {K : Bool → j9 → (List ByteArray) → Hp → Prop} (I : Inv w0 ps0 H0 H [bx g0 101 [(vi x0.fnodes), (vi x0.fdepth), (vi x0.fe), (vB x0.fform), (vB x0.fnamed), (vs a0r)], a5c] w) (hR : ∀ (r0 : Bool) (y0 : j9) (a8J : (List ByteArray)) (a6p : Sl) (a6q : Frag) (H' : Hp) (w' : World) (_ : RowL 9 1 M0 a6p a8J a6q) (_ : Inv w0 ps0 H0 H' [bx g0 101 [(vi y0.fnodes), (vi y0.fdepth), (vi y0.fe), (vB y0.fform), (vB y0.fnamed), (vs a6p)], a6q] w') (_ : K r0 y0 a8J H'), R (vB r0) w') (h : a0J x0 a0Q x1 x2 H K) : d5D (Value.pointer (some ⟨g0, 0, none⟩)) (C3 x1) (vi x2) w R E := by
 unfold a0J at h
 unfold d5D
 refine a7 (u9 _) ?_
 refine a7 b4N ?_
 refine d6 (ld1 Tryz.isAgg3 (I.at1 (o := 0) (vs := [(vi x0.fnodes)]) (nb rfl) rfl)) ?_
 refine a7 (J8 _ _ _ _ _ _) ?_
 refine a7 (u9 _) ?_
 refine a7 b4N ?_
 refine l9 I Tryz.sizeOf3 (vs := [(vi (IntKind.wrap .i64 (x0.fnodes + 1)))]) (cs' := [(vi (IntKind.wrap .i64 (x0.fnodes + 1))), (vi x0.fdepth), (vi x0.fe), (vB x0.fform), (vB x0.fnamed), (vs a0r)]) rfl rfl (nb rfl) rfl rfl fun w_1 I_2 k_3 => ?_
 refine a7 (u9 _) ?_
 refine a7 b4N ?_
 refine d6 (ld1 Tryz.isAgg3 (I_2.at1 (o := 0) (vs := [(vi (IntKind.wrap .i64 (x0.fnodes + 1)))]) (nb rfl) rfl)) ?_
 refine a7 (a3q _ _ _ _ _ _) ?_
 refine i8 (fun c2k => ?_) (fun c2k => ?_)
 ·replace h := h.1 c2k
  refine a7 (u9 _) ?_
  refine a7 a5m ?_
  refine l9 I_2 Tryz.sizeOf27 (vs := [(vi 33)]) (cs' := [(vi (IntKind.wrap .i64 (x0.fnodes + 1))), (vi x0.fdepth), (vi 33), (vB x0.fform), (vB x0.fnamed), (vs a0r)]) rfl rfl (nb rfl) rfl rfl fun w_4 I_5 k_6 => ?_
  exact hR false (j9.mk (IntKind.wrap .i64 (x0.fnodes + 1)) x0.fdepth 33 x0.fform x0.fnamed (Sl.mk none 0 0)) a0Q a0r a5c H _ b4u ((I_5.bring 1).bring 1) h
 ·replace h := h.2 c2k
  refine a7 (a3q _ _ _ _ _ _) ?_
  refine i8 (fun c2l => ?_) (fun c2l => ?_)
  ·replace h := h.1 c2l
   refine a7 (u9 _) ?_
   refine a7 a5m ?_
   refine l9 I_2 Tryz.sizeOf27 (vs := [(vi 32)]) (cs' := [(vi (IntKind.wrap .i64 (x0.fnodes + 1))), (vi x0.fdepth), (vi 32), (vB x0.fform), (vB x0.fnamed), (vs a0r)]) rfl rfl (nb rfl) rfl rfl fun w_7 I_8 k_9 => ?_
   exact hR false (j9.mk (IntKind.wrap .i64 (x0.fnodes + 1)) x0.fdepth 32 x0.fform x0.fnamed (Sl.mk none 0 0)) a0Q a0r a5c H _ b4u ((I_8.bring 1).bring 1) h
  ·replace h := h.2 c2l
   refine a7 (u9 _) ?_
   refine a7 c1M ?_
   refine d6 (ld1 Tryz.isAgg3 (I_2.at1 (o := 1) (vs := [(vi x0.fdepth)]) (nb rfl) rfl)) ?_
   refine a7 (f5R _ _ _ _ _) ?_
   refine a7 (u9 _) ?_
   refine a7 c1M ?_
   refine l9 I_2 Tryz.sizeOf3 (vs := [(vi (if x2 > x0.fdepth then x2 else x0.fdepth))]) (cs' := [(vi (IntKind.wrap .i64 (x0.fnodes + 1))), (vi (if x2 > x0.fdepth then x2 else x0.fdepth)), (vi x0.fe), (vB x0.fform), (vB x0.fnamed), (vs a0r)]) rfl rfl (nb rfl) rfl rfl fun o7 a0R a9D => ?_
   refine a7 (u9 _) ?_
   refine a7 b4O ?_
   refine d6 (ld1 Tryz.isAgg4 (a0R.at1 (o := 3) (vs := [(vB x0.fform)]) (nb rfl) rfl)) ?_
   simp only [Q0]
   refine a7m (D := fun c5W o8 => ∃ (L4 : Bool) (a1P : Hp), c5W = (gv x0.fform false (vB L4)) ∧ (Inv w0 ps0 H0 a1P [bx g0 101 [(vi (IntKind.wrap .i64 (x0.fnodes + 1))), (vi (if x2 > x0.fdepth then x2 else x0.fdepth)), (vi x0.fe), (vB x0.fform), (vB x0.fnamed), (vs a0r)], a5c] o8) ∧ (∀ i, i < o7.heap.size → ¬ inF [] i → o8.heap[i]? = o7.heap[i]?) ∧ Hle H a1P ∧ (a3z x1 a1P (fun (r9 : ByteArray) (b7f : Bool) (a1m : Hp) =>
 (b7f = true →
 TG (x0.fnamed = false) (a5z r9 a1m) false a1m (fun (a4I : Bool) (b5a : Hp) =>
 Q6 a0Q r9 b5a (fun (N7 : Bool) (a4E : Hp) =>
 ((!N7) = true →
 (a0Q.length + ([r9] : List ByteArray).length) * 17 ≤ 140737488355328 ∧
 B2 (IntKind.wrap .i64 (x0.fnodes + 1)) (if x2 > x0.fdepth then x2 else x0.fdepth) x0.fe (x0.fform || (!L4)) (x0.fnamed || (!a4I)) (a0Q ++ [r9]) a4E K) ∧
 ((!N7) = false →
 B2 (IntKind.wrap .i64 (x0.fnodes + 1)) (if x2 > x0.fdepth then x2 else x0.fdepth) x0.fe (x0.fform || (!L4)) (x0.fnamed || (!a4I)) a0Q a4E K)))) ∧
 (b7f = false →
 B2 (IntKind.wrap .i64 (x0.fnodes + 1)) (if x2 > x0.fdepth then x2 else x0.fdepth) x0.fe (x0.fform || (!L4)) x0.fnamed a0Q a1m K)))) (fun d0s => ?_) (fun d0s => ?_) ?_
   ·replace h := h.1 d0s
    have i5 := d0s
    simp only [r8 i5]
    refine b5K a0R h (fun L4 a1P o8 b3a c2c b6Z h => ?_)
    exact ⟨L4, a1P, by rfl, b3a, b6Z, c2c, h⟩
   ·exact ⟨false, H, by rw [b1s d0s], a0R, fun _ _ _ => rfl, Hle.refl _, h.2 d0s⟩
   ·clear h
    rintro c5W o8 ⟨L4, a1P, rfl, b3a, b6Z, c2c, h⟩
    refine a7 (Pu.g fun hb => by have i5 := hb; simp only [r8 i5]; exact (a0S _)) ?_
    refine a7 (a0E _ _) ?_
    refine a7 (u9 _) ?_
    refine a7 b4O ?_
    refine l9 b3a Tryz.sizeOf4 (vs := [(vB (x0.fform || (!L4)))]) (cs' := [(vi (IntKind.wrap .i64 (x0.fnodes + 1))), (vi (if x2 > x0.fdepth then x2 else x0.fdepth)), (vi x0.fe), (vB (x0.fform || (!L4))), (vB x0.fnamed), (vs a0r)]) rfl rfl (nb rfl) rfl rfl fun T2 b1E d0t => ?_
    have hj1 : ∀ (b2u : Int) (b2v : Int) (b2w : Int) (b2x : Bool) (b2y : Bool) (b0n : (List ByteArray)) (b7g : Sl) (b7h : Frag) (H : Hp) (w : World) (_ : RowL 9 1 M0 b7g b0n b7h) (_ : Inv w0 ps0 H0 H [bx g0 101 [(vi b2u), (vi b2v), (vi b2w), (vB b2x), (vB b2y), (vs b7g)], b7h] w) (_ : B2 b2u b2v b2w b2x b2y b0n H K), c5z w R E := by
     intro b2u b2v b2w b2x b2y b0n b7g b7h H w e3V I h
     unfold c5z
     intro _
     unfold B2 at h
     exact hR true (j9.mk b2u b2v b2w b2x b2y (Sl.mk none 0 0)) b0n b7g b7h H _ e3V ((I.bring 1).bring 1) h
    refine v8 fun j1 hx1 => ?_
    refine d8 (cap := []) (fun args w => Tryz.call143 args w) ?_
    refine m4 (Fi := []) (Fr := [bx g0 101 [(vi (IntKind.wrap .i64 (x0.fnodes + 1))), (vi (if x2 > x0.fdepth then x2 else x0.fdepth)), (vi x0.fe), (vB (x0.fform || (!L4))), (vB x0.fnamed), (vs a0r)], a5c]) b1E (h) (fun e3W a1m a9E a0y a4m e3X c6e c2m => ?_) (fun _ _ _ _ _ q => q.elim)
    obtain ⟨r9, b7f, rfl, rfl, h⟩ := c2m
    refine a7 (m2 _ _ (Value.string r9) rfl) ?_
    refine a7 (m2 _ _ (vB b7f) rfl) ?_
    refine s6 (fun c2n => ?_) (fun c2n => ?_)
    ·replace h := h.1 c2n
     refine a7 (u9 _) ?_
     refine a7 b4P ?_
     refine d6 (ld1 Tryz.isAgg4 (a4m.at1 (o := 4) (vs := [(vB x0.fnamed)]) (nb rfl) rfl)) ?_
     simp only [Q0]
     refine a7m (D := fun e3Y D6 => ∃ (a4I : Bool) (b5a : Hp) , e3Y = (gv x0.fnamed false (vB a4I)) ∧ (Inv w0 ps0 H0 b5a [bx g0 101 [(vi (IntKind.wrap .i64 (x0.fnodes + 1))), (vi (if x2 > x0.fdepth then x2 else x0.fdepth)), (vi x0.fe), (vB (x0.fform || (!L4))), (vB x0.fnamed), (vs a0r)], a5c] D6) ∧ (∀ i, i < a0y.heap.size → ¬ inF [] i → D6.heap[i]? = a0y.heap[i]?) ∧ Hle a1m b5a ∧ (Q6 a0Q r9 b5a (fun (N7 : Bool) (a4E : Hp) =>
 ((!N7) = true →
 (a0Q.length + ([r9] : List ByteArray).length) * 17 ≤ 140737488355328 ∧
 B2 (IntKind.wrap .i64 (x0.fnodes + 1)) (if x2 > x0.fdepth then x2 else x0.fdepth) x0.fe (x0.fform || (!L4)) (x0.fnamed || (!a4I)) (a0Q ++ [r9]) a4E K) ∧
 ((!N7) = false →
 B2 (IntKind.wrap .i64 (x0.fnodes + 1)) (if x2 > x0.fdepth then x2 else x0.fdepth) x0.fe (x0.fform || (!L4)) (x0.fnamed || (!a4I)) a0Q a4E K)))) (fun d0u => ?_) (fun d0u => ?_) ?_
     ·replace h := h.1 d0u
      have i5 := d0u
      simp only [r8 i5]
      refine d8 (cap := []) (fun args w => Tryz.call144 args w) ?_
      refine m4 (Fi := []) (Fr := [bx g0 101 [(vi (IntKind.wrap .i64 (x0.fnodes + 1))), (vi (if x2 > x0.fdepth then x2 else x0.fdepth)), (vi x0.fe), (vB (x0.fform || (!L4))), (vB x0.fnamed), (vs a0r)], a5c]) a4m (h) (fun e3Y b5a i3A D6 b3h g0L d6o h7r => ?_) (fun _ _ _ _ _ q => q.elim)
      obtain ⟨a4I, rfl, rfl, h⟩ := h7r
      exact ⟨a4I, b5a, by rfl, b3h, d6o, g0L, h⟩
     ·exact ⟨false, a1m, by rw [b1s d0u], a4m, fun _ _ _ => rfl, Hle.refl _, h.2 d0u⟩
     ·clear h
      rintro e3Y D6 ⟨a4I, b5a, rfl, b3h, d6o, g0L, h⟩
      refine a7 (Pu.g fun hb => by have i5 := hb; simp only [r8 i5]; exact (a0S _)) ?_
      refine a7 (a0E _ _) ?_
      refine a7 (u9 _) ?_
      refine a7 b4P ?_
      refine l9 b3h Tryz.sizeOf4 (vs := [(vB (x0.fnamed || (!a4I)))]) (cs' := [(vi (IntKind.wrap .i64 (x0.fnodes + 1))), (vi (if x2 > x0.fdepth then x2 else x0.fdepth)), (vi x0.fe), (vB (x0.fform || (!L4))), (vB (x0.fnamed || (!a4I))), (vs a0r)]) rfl rfl (nb rfl) rfl rfl fun H9 b9x d6p => ?_
      refine a7 (u9 _) ?_
      refine a7 b4Q ?_
      refine d6 (ld1 Tryz.isAgg88 (b9x.at1 (o := 5) (vs := [(vs a0r)]) (nb rfl) rfl)) ?_
      refine d8 (cap := []) (fun args w => Tryz.call145 args w) ?_
      refine m4 (Fi := [a5c]) (Fr := [bx g0 101 [(vi (IntKind.wrap .i64 (x0.fnodes + 1))), (vi (if x2 > x0.fdepth then x2 else x0.fdepth)), (vi x0.fe), (vB (x0.fform || (!L4))), (vB (x0.fnamed || (!a4I))), (vs a0r)]]) (b9x.bring 1) (h a0r a5c b4u) (fun e3Z a4E e4a K6 b5b e4b e4c c2o => ?_) (fun _ _ _ _ _ q => q.elim)
      obtain ⟨N7, rfl, rfl, h⟩ := c2o
      refine a7 (a0S _) ?_
      refine s6 (fun c2p => ?_) (fun c2p => ?_)
      ·replace h := h.1 c2p
       refine a7 (u9 _) ?_
       refine a7 b4Q ?_
       refine d6 (ld1 Tryz.isAgg88 ((b5b.bring 1).at1 (o := 5) (vs := [(vs a0r)]) (nb rfl) rfl)) ?_
       refine a0m (e := 9) (c := M0) (xs := [r9]) b5b (e9z _) rfl rfl c1K c1L (nb rfl) fun i3B h7s b1D e4d b9y i3C => ?_
       obtain ⟨d6q, h⟩ := h
       refine f6k (s := a0r) (xs := a0Q) (b9y.bring 1) b4u (e4d.srcO ((b9y.bring 1).bring 1)) d6q fun e4e h7t b7i e4f b9z c6f => ?_
       refine a7 (u9 _) ?_
       refine a7 b4Q ?_
       refine l9 ((b9z.bring 1).drop.bring 1) Tryz.sizeOf88 (vs := [(vs e4e)]) (cs' := [(vi (IntKind.wrap .i64 (x0.fnodes + 1))), (vi (if x2 > x0.fdepth then x2 else x0.fdepth)), (vi x0.fe), (vB (x0.fform || (!L4))), (vB (x0.fnamed || (!a4I))), (vs e4e)]) rfl rfl (nb rfl) rfl rfl fun U5 h7u i3D => ?_
       exact hx1 _ _ (hj1 (IntKind.wrap .i64 (x0.fnodes + 1)) (if x2 > x0.fdepth then x2 else x0.fdepth) x0.fe (x0.fform || (!L4)) (x0.fnamed || (!a4I)) (a0Q ++ [r9]) e4e h7t a4E _ e4f ((h7u.bring 1).bring 1) h)
      ·replace h := h.2 c2p
       exact hx1 _ _ (hj1 (IntKind.wrap .i64 (x0.fnodes + 1)) (if x2 > x0.fdepth then x2 else x0.fdepth) x0.fe (x0.fform || (!L4)) (x0.fnamed || (!a4I)) a0Q a0r a5c a4E _ b4u (b5b.bring 1) h)
    ·replace h := h.2 c2n
     exact hx1 _ _ (hj1 (IntKind.wrap .i64 (x0.fnodes + 1)) (if x2 > x0.fdepth then x2 else x0.fdepth) x0.fe (x0.fform || (!L4)) x0.fnamed a0Q a0r a5c a1m _ b4u ((a4m.bring 1).bring 1) h)
theorem b1F (x0 : j9) (a0Q : (List ByteArray)) (x1 : d9) (x2 : Int) {H : Hp} {K : Bool → j9 → (List ByteArray) → Hp → Prop} (h : a0J x0 a0Q x1 x2 H K) : a3N x0 a0Q x1 x2 H K := by
 intro g0 a0r a5c b4u w I
 refine e9N ?_
 refine b1f x0 a0Q x1 x2 g0 a0r a5c b4u I (fun r0 y0 a8J a6p a6q H' w' d0q I' hk => ⟨H', _, I', r0, y0, a8J, a6p, a6q, rfl, rfl, d0q, hk⟩) h
def P2 (b0o : Int) (b0p : Int) (b0q : Int) (b0r : Bool) (b0s : Bool) (b1g : (List ByteArray)) (H : Hp) (K : j9 → Hp → Prop) : Prop :=
 ∀ (a4t : Sl) (a7a : Hp), Hle H a7a → SlH a7a 1 M0 a4t b1g → a4t.n ≤ a4t.c →
 K (j9.mk b0o b0p b0q b0r b0s a4t) a7a
def a4o (x0 : Sl) (H : Hp) (K : j9 → Hp → Prop) : Prop :=
 a0z x0 1 (j9.mk 0 0 0 false false (Sl.mk none 0 0)) [] H (fun (a3i : Bool) (K7 : j9) (a7W : (List ByteArray)) (a5u : Hp) =>
 ((!a3i) = true →
 P2 ((K7).fnodes) ((K7).fdepth) ((K7).fe) ((K7).fform) ((K7).fnamed) a7W a5u K) ∧
 ((!a3i) = false →
 (((K7).fform) = true →
 P2 ((K7).fnodes) ((K7).fdepth) 30 ((K7).fform) ((K7).fnamed) a7W a5u K) ∧
 (((K7).fform) = false →
 (((K7).fnamed) = true →
 P2 ((K7).fnodes) ((K7).fdepth) 31 ((K7).fform) ((K7).fnamed) a7W a5u K) ∧
 (((K7).fnamed) = false →
 P2 ((K7).fnodes) ((K7).fdepth) ((K7).fe) ((K7).fform) ((K7).fnamed) a7W a5u K))))
theorem b5O (x0 : Sl) {K : j9 → Hp → Prop} (I : Inv w0 ps0 H0 H [] w) (hR : ∀ (r0 : j9) (gr0 : Nat) (H' : Hp) (w' : World) (_ : Inv w0 ps0 H0 H' [bx gr0 101 (a7T r0)] w') (_ : K r0 H'), R (Value.pointer (some ⟨gr0, 0, none⟩)) w') (h : a4o x0 H K) : F65 (vs x0) w R E := by
 unfold a4o at h
 unfold F65
 refine a7 (d5y ) ?_
 refine M4 I (cs := [(vi 0), (vi 0), (vi 0), (vB false), (vB false), (nS)]) rfl fun g_2 w_3 I_4 k_5 => ?_
 refine u1 I_4 Tryz.zeroValue102 (cs := [(Value.pointer none)]) rfl fun g_7 w_8 I_9 a9J => ?_
 refine l9 I_9 Tryz.sizeOf102 (vs := [(Value.pointer (some ⟨g_2, 0, none⟩))]) (cs' := [(Value.pointer (some ⟨g_2, 0, none⟩))]) rfl rfl (nb rfl) rfl rfl fun R7 D8 b6S => ?_
 refine u1 D8 Tryz.zeroValue170 (cs := [Value.nilFunc]) rfl fun b7j r5 a9K g0M => ?_
 refine a7 (b4L _ _ _) ?_
 refine l9 a9K Tryz.sizeOf170 (vs := [(Value.func (.func 110) #[] #[(Value.pointer (some ⟨g_7, 0, none⟩)), (Value.pointer (some ⟨b7j, 0, none⟩))])]) (cs' := [(Value.func (.func 110) #[] #[(Value.pointer (some ⟨g_7, 0, none⟩)), (Value.pointer (some ⟨b7j, 0, none⟩))])]) rfl rfl (nb rfl) rfl rfl fun T2 b1E d0t => ?_
 have hj1 : ∀ (b0o : Int) (b0p : Int) (b0q : Int) (b0r : Bool) (b0s : Bool) (b1g : (List ByteArray)) (a4t : Sl) (Fcr_1j1_5 : Frag) (H : Hp) (w : World) (_ : RowL 9 1 M0 a4t b1g Fcr_1j1_5) (_ : Inv w0 ps0 H0 H [bx g_7 102 [(Value.pointer (some ⟨g_2, 0, none⟩))], bx g_2 101 [(vi b0o), (vi b0p), (vi b0q), (vB b0r), (vB b0s), (vs a4t)], bx b7j 170 [(Value.func (.func 110) #[] #[(Value.pointer (some ⟨g_7, 0, none⟩)), (Value.pointer (some ⟨b7j, 0, none⟩))])], Fcr_1j1_5] w) (_ : P2 b0o b0p b0q b0r b0s b1g H K), c8S (Value.pointer (some ⟨g_7, 0, none⟩)) w R E := by
  intro b0o b0p b0q b0r b0s b1g a4t Fcr_1j1_5 H w e0F I h
  unfold c8S
  intro _
  unfold P2 at h
  refine d6 (ld1 Tryz.isAgg102 (I.at1 (o := 0) (vs := [(Value.pointer (some ⟨g_2, 0, none⟩))]) (nb rfl) rfl)) ?_
  obtain ⟨a7a, b3h, g0N, a3Q, d0f⟩ := Inv.freezeC (I.bring 3) e0F (by decide)
  replace h := h a4t a7a g0N a3Q d0f
  exact hR (j9.mk b0o b0p b0q b0r b0s a4t) g_2 a7a _ (b3h.drop.bring 1).drop h
 refine v8 fun j1 hx1 => ?_
 refine d6 (ld1 Tryz.isAgg170 (b1E.at1 (o := 0) (vs := [(Value.func (.func 110) #[] #[(Value.pointer (some ⟨g_7, 0, none⟩)), (Value.pointer (some ⟨b7j, 0, none⟩))])]) (nb rfl) rfl)) ?_
 refine d8 (cap := [(Value.pointer (some ⟨g_7, 0, none⟩)), (Value.pointer (some ⟨b7j, 0, none⟩))]) (fun args w => Tryz.call110 args w) ?_
 refine m4 (Fi := [bx g_7 102 [(Value.pointer (some ⟨g_2, 0, none⟩))], bx g_2 101 [(vi 0), (vi 0), (vi 0), (vB false), (vB false), (Value.slice (Sl.mk none 0 0).a (Sl.mk none 0 0).n (Sl.mk none 0 0).c)], [], bx b7j 170 [(Value.func (.func 110) #[] #[(Value.pointer (some ⟨g_7, 0, none⟩)), (Value.pointer (some ⟨b7j, 0, none⟩))])]]) (Fr := []) ((((b1E.nil.bring 1).bring 1).bring 3).bring 3) (h g_7 g_2 b7j (Sl.mk none 0 0) ([]) (RowL.nil (e := 9) c1K c1L)) (fun e4g a5u d0d v6 a5Z e4h d6j c2q => ?_) (fun _ _ _ _ _ q => q.elim)
 obtain ⟨a3i, K7, a7W, b0t, b7k, rfl, rfl, b7l, h⟩ := c2q
 refine a7 (a0S _) ?_
 refine s6 (fun e4i => ?_) (fun e4i => ?_)
 ·replace h := h.1 e4i
  exact hx1 _ _ (hj1 ((K7).fnodes) ((K7).fdepth) ((K7).fe) ((K7).fform) ((K7).fnamed) a7W b0t b7k a5u _ b7l ((((a5Z.bring 2).bring 3).bring 3).bring 3) h)
 ·replace h := h.2 e4i
  refine d6 (ld1 Tryz.isAgg102 (a5Z.at1 (o := 0) (vs := [(Value.pointer (some ⟨g_2, 0, none⟩))]) (nb rfl) rfl)) ?_
  refine a7 (u9 _) ?_
  refine a7 b4O ?_
  refine d6 (ld1 Tryz.isAgg4 ((a5Z.bring 1).at1 (o := 3) (vs := [(vB ((K7).fform))]) (nb rfl) rfl)) ?_
  refine s6 (fun V4 => ?_) (fun V4 => ?_)
  ·replace h := h.1 V4
   refine d6 (ld1 Tryz.isAgg102 (a5Z.at1 (o := 0) (vs := [(Value.pointer (some ⟨g_2, 0, none⟩))]) (nb rfl) rfl)) ?_
   refine a7 (u9 _) ?_
   refine a7 a5m ?_
   refine l9 (a5Z.bring 1) Tryz.sizeOf27 (vs := [(vi 30)]) (cs' := [(vi ((K7).fnodes)), (vi ((K7).fdepth)), (vi 30), (vB ((K7).fform)), (vB ((K7).fnamed)), (vs b0t)]) rfl rfl (nb rfl) rfl rfl fun b0u a7b d6r => ?_
   exact hx1 _ _ (hj1 ((K7).fnodes) ((K7).fdepth) 30 ((K7).fform) ((K7).fnamed) a7W b0t b7k a5u _ b7l ((((a7b.bring 2).bring 3).bring 2).bring 3) h)
  ·replace h := h.2 V4
   refine d6 (ld1 Tryz.isAgg102 (a5Z.at1 (o := 0) (vs := [(Value.pointer (some ⟨g_2, 0, none⟩))]) (nb rfl) rfl)) ?_
   refine a7 (u9 _) ?_
   refine a7 b4P ?_
   refine d6 (ld1 Tryz.isAgg4 ((a5Z.bring 1).at1 (o := 4) (vs := [(vB ((K7).fnamed))]) (nb rfl) rfl)) ?_
   refine s6 (fun e4j => ?_) (fun e4j => ?_)
   ·replace h := h.1 e4j
    refine d6 (ld1 Tryz.isAgg102 (a5Z.at1 (o := 0) (vs := [(Value.pointer (some ⟨g_2, 0, none⟩))]) (nb rfl) rfl)) ?_
    refine a7 (u9 _) ?_
    refine a7 a5m ?_
    refine l9 (a5Z.bring 1) Tryz.sizeOf27 (vs := [(vi 31)]) (cs' := [(vi ((K7).fnodes)), (vi ((K7).fdepth)), (vi 31), (vB ((K7).fform)), (vB ((K7).fnamed)), (vs b0t)]) rfl rfl (nb rfl) rfl rfl fun H9 b9x d6p => ?_
    exact hx1 _ _ (hj1 ((K7).fnodes) ((K7).fdepth) 31 ((K7).fform) ((K7).fnamed) a7W b0t b7k a5u _ b7l ((((b9x.bring 2).bring 3).bring 2).bring 3) h)
   ·replace h := h.2 e4j
    exact hx1 _ _ (hj1 ((K7).fnodes) ((K7).fdepth) ((K7).fe) ((K7).fform) ((K7).fnamed) a7W b0t b7k a5u _ b7l ((((a5Z.bring 2).bring 3).bring 3).bring 3) h)
theorem b7m (x0 : Sl) {H : Hp} {K : j9 → Hp → Prop} (h : a4o x0 H K) : a1H x0 H K := by
 intro w I
 refine f6O ?_
 refine b5O x0 I (fun r0 gr0 H' w' I' hk => ⟨H', _, I', r0, gr0, rfl, rfl, hk⟩) h
def a5f (x0 : b6) (H : Hp) (K : Int → Hp → Prop) : Prop :=
 ∀ (s_7 : Sl) (a1P : Hp), Hle H a1P → SlH a1P 1 s8 s_7 [(d9.J9 (L5.mk x0))] → s_7.n ≤ s_7.c →
 a1H s_7 a1P (fun (u5 : j9) (b5c : Hp) =>
 K u5.fe b5c)
theorem b8s (x0 : b6) {K : Int → Hp → Prop} (I : Inv w0 ps0 H0 H [] w) (hR : ∀ (r0 : Int) (H' : Hp) (w' : World) (_ : Inv w0 ps0 H0 H' [] w') (_ : K r0 H'), R (vi r0) w') (h : a5f x0 H K) : F39 (Value.agg (b7 x0).toArray) w R E := by
 unfold a5f at h
 unfold F39
 refine M4 I (cs := (b7 x0)) rfl fun g_2 w_3 I_4 k_5 => ?_
 refine d6 (ldA Tryz.isAgg53 Tryz.sizeOf53 rfl (I_4.at1 (o := 0) (vs := (b7 x0)) (nb rfl) rfl)) ?_
 refine a7 (b8L _ _ _ _ _ _) ?_
 refine a7 (b0b (L5.mk x0)) ?_
 refine a0m (e := 150) (c := s8) (xs := [(d9.J9 (L5.mk x0))]) I_4 (b0c _) rfl rfl P9 Q9 (nb rfl) fun s_7 F_8 w_9 b3i a0R a9D => ?_
 obtain ⟨a1P, P0, c6b, a8S, b7n⟩ := Inv.freezeC a0R b3i (by decide)
 replace h := h s_7 a1P c6b a8S b7n
 refine d8 (cap := []) (fun args w => Tryz.call65 args w) ?_
 refine m4 (Fi := []) (Fr := [bx g_2 53 (b7 x0)]) P0 (h) (fun g0O b5c g0P T2 b1E d0v d0t d0w => ?_) (fun _ _ _ _ _ q => q.elim)
 obtain ⟨u5, g0Q, rfl, rfl, h⟩ := d0w
 refine a7 (u9 _) ?_
 refine a7 a5m ?_
 refine d6 (ld1 Tryz.isAgg27 (b1E.at1 (o := 2) (vs := [(vi u5.fe)]) (nb rfl) rfl)) ?_
 exact hR u5.fe b5c _ b1E.drop.drop h
theorem b9A (x0 : b6) {H : Hp} {K : Int → Hp → Prop} (h : a5f x0 H K) : a7t x0 H K := by
 intro w I
 refine f6y ?_
 refine b8s x0 I (fun r0 H' w' I' hk => ⟨H', _, I', r0, rfl, rfl, hk⟩) h
def a4p (x0 : d7) (H : Hp) (K : d9 → Hp → Prop) : Prop :=
 K (d9.M6 (R5.mk x0)) H
theorem b5P (x0 : d7) {K : d9 → Hp → Prop} (I : Inv w0 ps0 H0 H [] w) (hR : ∀ (r0 : d9) (H' : Hp) (w' : World) (_ : Inv w0 ps0 H0 H' [] w') (_ : K r0 H'), R (C3 r0) w') (h : a4p x0 H K) : F79 (Value.agg (g7 x0).toArray) w R E := by
 unfold a4p at h
 unfold F79
 refine M4 I (cs := (g7 x0)) rfl fun g_2 w_3 I_4 k_5 => ?_
 refine d6 (ldA Tryz.isAgg73 Tryz.sizeOf73 rfl (I_4.at1 (o := 0) (vs := (g7 x0)) (nb rfl) rfl)) ?_
 refine a7 (c8J _ _ _ _ _ _ _ _ _ _ _ _ _ _) ?_
 refine a7 (c5w (R5.mk x0)) ?_
 exact hR (d9.M6 (R5.mk x0)) H _ I_4.drop h
theorem b7o (x0 : d7) {H : Hp} {K : d9 → Hp → Prop} (h : a4p x0 H K) : a9A x0 H K := by
 intro w I
 refine f7f ?_
 refine b5P x0 I (fun r0 H' w' I' hk => ⟨H', _, I', r0, rfl, rfl, hk⟩) h
def R0 (c0O : Bool) (b3j : N1) (a0U : O3) (H : Hp) (K : Bool → Hp → Prop) : Prop :=
 (c0O = true →
 K (decide (b3j.fexprs = 0 ∧ b3j.fparts = 2)) H) ∧
 (c0O = false →
 K false H)
def R1 (a7X : Int) (c0P : Bool) (o4 : N1) (y6 : O3) (H : Hp) (K : Bool → Hp → Prop) : Prop :=
 (c0P = true →
 K (decide (o4.fexprs = 0 ∧ o4.fparts = 0)) H) ∧
 (c0P = false →
 (a7X = 4 →
 K (decide (o4.fexprs = 0 ∧ o4.fparts = 1)) H) ∧
 (¬ (a7X = 4) →
 (a7X = 5 →
 R0 (decide (a7X = 5)) o4 y6 H K) ∧
 (¬ (a7X = 5) →
 R0 (decide (a7X = 6)) o4 y6 H K)))
def a2k (x0 : O3) (H : Hp) (K : Bool → Hp → Prop) : Prop :=
 (x0.p9.a8 = 3 →
 K (((decide (1 ≤ x0.p9.fOp)) && (decide (x0.p9.fOp ≤ 6))) && (decide ((x0.p9.f2.n : Int) = 2 ∧ (x0.p9.r7.n : Int) = 0))) H) ∧
 (¬ (x0.p9.a8 = 3) →
 (¬ (x0.p9.fOp = 0) →
 K false H) ∧
 (x0.p9.fOp = 0 →
 (x0.p9.a8 = 1 →
 R1 x0.p9.a8 (decide (x0.p9.a8 = 1)) (N1.mk (x0.p9.f2.n : Int) (x0.p9.r7.n : Int)) x0 H K) ∧
 (¬ (x0.p9.a8 = 1) →
 R1 x0.p9.a8 (decide (x0.p9.a8 = 2)) (N1.mk (x0.p9.f2.n : Int) (x0.p9.r7.n : Int)) x0 H K)))
theorem b3k (x0 : O3) {K : Bool → Hp → Prop} (I : Inv w0 ps0 H0 H [] w) (hR : ∀ (r0 : Bool) (H' : Hp) (w' : World) (_ : Inv w0 ps0 H0 H' [] w') (_ : K r0 H'), R (vB r0) w') (h : a2k x0 H K) : d5U (Value.agg (d5 x0.p9).toArray) w R E := by
 unfold a2k at h
 unfold d5U
 refine M4 I (cs := (d5 x0.p9)) rfl fun g_2 w_3 I_4 k_5 => ?_
 refine a7 a2Y ?_
 refine a7 a1C ?_
 refine d6 (ld1 Tryz.isAgg51 (I_4.at1 (o := 2) (vs := [(vs x0.p9.f2)]) (nb rfl) rfl)) ?_
 refine a7 (a1Z _ _ _) ?_
 refine a7 a2Y ?_
 refine a7 V3 ?_
 refine d6 (ld1 Tryz.isAgg57 (I_4.at1 (o := 3) (vs := [(vs x0.p9.r7)]) (nb rfl) rfl)) ?_
 refine a7 (a7o _ _ _) ?_
 refine a7 (a7S _ _) ?_
 refine u1 I_4 Tryz.zeroValue236 (cs := [(vi 0), (vi 0)]) rfl fun g_7 w_8 I_9 a9J => ?_
 refine l9 I_9 Tryz.sizeOf236 (vs := [(vi (x0.p9.f2.n : Int)), (vi (x0.p9.r7.n : Int))]) (cs' := [(vi (x0.p9.f2.n : Int)), (vi (x0.p9.r7.n : Int))]) rfl rfl (nb rfl) rfl rfl fun R7 D8 b6S => ?_
 refine a7 a2Y ?_
 refine a7 a2U ?_
 refine d6 (ld1 Tryz.isAgg3 ((D8.bring 1).at1 (o := 0) (vs := [(vi x0.p9.a8)]) (nb rfl) rfl)) ?_
 refine a7 (m5 _ _ _ _ _ _) ?_
 refine i8 (fun a6C => ?_) (fun a6C => ?_)
 ·replace h := h.1 a6C
  refine a7 a2Y ?_
  refine a7 a9q ?_
  refine d6 (ld1 Tryz.isAgg3 ((D8.bring 1).at1 (o := 1) (vs := [(vi x0.p9.fOp)]) (nb rfl) rfl)) ?_
  refine a7 (b5B _ _ _ _ _ _) ?_
  refine a7 (Pu.g fun hb => by have i5 := hb; exact a2Y) ?_
  refine a7 (Pu.g fun hb => by have i5 := hb; simp only [r8 i5]; exact a9q) ?_
  refine d6 (Ld.g fun hb => by have i5 := hb; simp only [r8 i5]; exact (ld1 Tryz.isAgg3 ((D8.bring 1).at1 (o := 1) (vs := [(vi x0.p9.fOp)]) (nb rfl) rfl))) ?_
  refine a7 (Pu.g fun hb => by have i5 := hb; simp only [r8 i5]; exact (b8C _ _ _ _ _ _)) ?_
  refine a7 (P7 _ _) ?_
  refine d6 (Ld.g fun hb => by have i5 := hb; exact (ldA Tryz.isAgg236 Tryz.sizeOf236 rfl (D8.at1 (o := 0) (vs := [(vi (x0.p9.f2.n : Int)), (vi (x0.p9.r7.n : Int))]) (nb rfl) rfl))) ?_
  refine a7 (Pu.g fun hb => by have i5 := hb; exact (a7S _ _)) ?_
  refine a7 (Pu.g fun hb => by have i5 := hb; simp only [r8 i5]; exact (b4o _ _ _ _ _ _)) ?_
  refine a7 (P7 _ _) ?_
  exact hR (((decide (1 ≤ x0.p9.fOp)) && (decide (x0.p9.fOp ≤ 6))) && (decide ((x0.p9.f2.n : Int) = 2 ∧ (x0.p9.r7.n : Int) = 0))) H _ D8.drop.drop h
 ·replace h := h.2 a6C
  refine a7 a2Y ?_
  refine a7 a9q ?_
  refine d6 (ld1 Tryz.isAgg3 ((D8.bring 1).at1 (o := 1) (vs := [(vi x0.p9.fOp)]) (nb rfl) rfl)) ?_
  refine a7 (T0 _ _ _ _ _ _) ?_
  refine a2C (fun b3l => ?_) (fun b3l => ?_)
  ·replace h := h.1 b3l
   exact hR false H _ D8.drop.drop h
  ·replace h := h.2 b3l
   refine a7 a2Y ?_
   refine a7 a2U ?_
   refine d6 (ld1 Tryz.isAgg3 ((D8.bring 1).at1 (o := 0) (vs := [(vi x0.p9.a8)]) (nb rfl) rfl)) ?_
   have hj1 : ∀ (c0P : Bool) (H : Hp) (w : World) (_ : Inv w0 ps0 H0 H [bx g_7 236 [(vi (N1.mk (x0.p9.f2.n : Int) (x0.p9.r7.n : Int)).fexprs), (vi (N1.mk (x0.p9.f2.n : Int) (x0.p9.r7.n : Int)).fparts)], bx g_2 143 (d5 x0.p9)] w) (_ : R1 x0.p9.a8 c0P (N1.mk (x0.p9.f2.n : Int) (x0.p9.r7.n : Int)) x0 H K), c5T (Value.pointer (some ⟨g_7, 0, none⟩)) (vi x0.p9.a8) (vB c0P) w R E := by
    intro c0P H w I h
    unfold c5T
    intro _
    unfold R1 at h
    refine s6 (fun a8T => ?_) (fun a8T => ?_)
    ·replace h := h.1 a8T
     refine d6 (ldA Tryz.isAgg236 Tryz.sizeOf236 rfl (I.at1 (o := 0) (vs := [(vi (N1.mk (x0.p9.f2.n : Int) (x0.p9.r7.n : Int)).fexprs), (vi (N1.mk (x0.p9.f2.n : Int) (x0.p9.r7.n : Int)).fparts)]) (nb rfl) rfl)) ?_
     refine a7 (d5z ) ?_
     refine a7 (b4o _ _ _ _ _ _) ?_
     exact hR (decide ((N1.mk (x0.p9.f2.n : Int) (x0.p9.r7.n : Int)).fexprs = 0 ∧ (N1.mk (x0.p9.f2.n : Int) (x0.p9.r7.n : Int)).fparts = 0)) H _ I.drop.drop h
    ·replace h := h.2 a8T
     refine a7 (m5 _ _ _ _ _ _) ?_
     refine i8 (fun b3m => ?_) (fun b3m => ?_)
     ·replace h := h.1 b3m
      refine d6 (ldA Tryz.isAgg236 Tryz.sizeOf236 rfl (I.at1 (o := 0) (vs := [(vi (N1.mk (x0.p9.f2.n : Int) (x0.p9.r7.n : Int)).fexprs), (vi (N1.mk (x0.p9.f2.n : Int) (x0.p9.r7.n : Int)).fparts)]) (nb rfl) rfl)) ?_
      refine a7 (a7S _ _) ?_
      refine a7 (b4o _ _ _ _ _ _) ?_
      exact hR (decide ((N1.mk (x0.p9.f2.n : Int) (x0.p9.r7.n : Int)).fexprs = 0 ∧ (N1.mk (x0.p9.f2.n : Int) (x0.p9.r7.n : Int)).fparts = 1)) H _ I.drop.drop h
     ·replace h := h.2 b3m
      have hj2 : ∀ (c0O : Bool) (H : Hp) (w : World) (_ : Inv w0 ps0 H0 H [bx g_7 236 [(vi (N1.mk (x0.p9.f2.n : Int) (x0.p9.r7.n : Int)).fexprs), (vi (N1.mk (x0.p9.f2.n : Int) (x0.p9.r7.n : Int)).fparts)], bx g_2 143 (d5 x0.p9)] w) (_ : R0 c0O (N1.mk (x0.p9.f2.n : Int) (x0.p9.r7.n : Int)) x0 H K), c5S (Value.pointer (some ⟨g_7, 0, none⟩)) (vB c0O) w R E := by
       intro c0O H w I h
       unfold c5S
       intro _
       unfold R0 at h
       refine s6 (fun c2r => ?_) (fun c2r => ?_)
       ·replace h := h.1 c2r
        refine d6 (ldA Tryz.isAgg236 Tryz.sizeOf236 rfl (I.at1 (o := 0) (vs := [(vi (N1.mk (x0.p9.f2.n : Int) (x0.p9.r7.n : Int)).fexprs), (vi (N1.mk (x0.p9.f2.n : Int) (x0.p9.r7.n : Int)).fparts)]) (nb rfl) rfl)) ?_
        refine a7 (a7S _ _) ?_
        refine a7 (b4o _ _ _ _ _ _) ?_
        exact hR (decide ((N1.mk (x0.p9.f2.n : Int) (x0.p9.r7.n : Int)).fexprs = 0 ∧ (N1.mk (x0.p9.f2.n : Int) (x0.p9.r7.n : Int)).fparts = 2)) H _ I.drop.drop h
       ·replace h := h.2 c2r
        exact hR false H _ I.drop.drop h
      refine v8 fun j2 hx2 => ?_
      refine a7 (m5 _ _ _ _ _ _) ?_
      refine i8 (fun a8U => ?_) (fun a8U => ?_)
      ·replace h := h.1 a8U
       exact hx2 _ _ (hj2 (decide (x0.p9.a8 = 5)) H _ ((I.bring 1).bring 1) h)
      ·replace h := h.2 a8U
       refine a7 (m5 _ _ _ _ _ _) ?_
       exact hx2 _ _ (hj2 (decide (x0.p9.a8 = 6)) H _ ((I.bring 1).bring 1) h)
   refine v8 fun j1 hx1 => ?_
   refine a7 (m5 _ _ _ _ _ _) ?_
   refine i8 (fun a8V => ?_) (fun a8V => ?_)
   ·replace h := h.1 a8V
    exact hx1 _ _ (hj1 (decide (x0.p9.a8 = 1)) H _ ((D8.bring 1).bring 1) h)
   ·replace h := h.2 a8V
    refine a7 (m5 _ _ _ _ _ _) ?_
    exact hx1 _ _ (hj1 (decide (x0.p9.a8 = 2)) H _ ((D8.bring 1).bring 1) h)
theorem b3W (x0 : O3) {H : Hp} {K : Bool → Hp → Prop} (h : a2k x0 H K) : a4P x0 H K := by
 intro w I
 refine f0v ?_
 refine b3k x0 I (fun r0 H' w' I' hk => ⟨H', _, I', r0, rfl, rfl, hk⟩) h
def R2 (b7p : Bool) (e7V : Int) (c0Q : Bool) (o4 : S2) (y6 : R5) (H : Hp) (K : Bool → Hp → Prop) : Prop :=
 (c0Q = true →
 K (b7p && (decide (o4.fexprs = 0 ∧ o4.fconds = 1))) H) ∧
 (c0Q = false →
 (e7V = 7 →
 K (b7p && (decide (o4.fexprs = 0 ∧ o4.fconds = 0))) H) ∧
 (¬ (e7V = 7) →
 K false H))
def a2l (x0 : R5) (H : Hp) (K : Bool → Hp → Prop) : Prop :=
 (x0.i6.a8 = 1 →
 K ((!(decide (0 < (IntKind.wrap .i64 ((x0.i6.E5.n : Int) + (x0.i6.B5.n : Int)))))) && (decide ((x0.i6.f2.n : Int) = 1 ∧ (x0.i6.j7.n : Int) = 0))) H) ∧
 (¬ (x0.i6.a8 = 1) →
 (x0.i6.a8 = 2 →
 K ((!(decide (0 < (IntKind.wrap .i64 ((x0.i6.E5.n : Int) + (x0.i6.B5.n : Int)))))) && (decide ((x0.i6.f2.n : Int) = 2 ∧ (x0.i6.j7.n : Int) = 0))) H) ∧
 (¬ (x0.i6.a8 = 2) →
 (x0.i6.a8 = 3 →
 K ((decide (x0.i6.b8 = ⟨#[]⟩)) && (decide ((x0.i6.f2.n : Int) = 0 ∧ (x0.i6.j7.n : Int) = 1))) H) ∧
 (¬ (x0.i6.a8 = 3) →
 (x0.i6.a8 = 4 →
 K (((decide (x0.i6.b8 = ⟨#[]⟩)) && (decide ((x0.i6.B5.n : Int) = 0))) && (decide ((x0.i6.f2.n : Int) = 0 ∧ (x0.i6.j7.n : Int) = 1))) H) ∧
 (¬ (x0.i6.a8 = 4) →
 (x0.i6.a8 = 5 →
 R2 ((decide (x0.i6.b8 = ⟨#[]⟩)) && (!(decide (0 < (IntKind.wrap .i64 ((x0.i6.E5.n : Int) + (x0.i6.B5.n : Int))))))) x0.i6.a8 (decide (x0.i6.a8 = 5)) (S2.mk (x0.i6.f2.n : Int) (x0.i6.j7.n : Int)) x0 H K) ∧
 (¬ (x0.i6.a8 = 5) →
 R2 ((decide (x0.i6.b8 = ⟨#[]⟩)) && (!(decide (0 < (IntKind.wrap .i64 ((x0.i6.E5.n : Int) + (x0.i6.B5.n : Int))))))) x0.i6.a8 (decide (x0.i6.a8 = 6)) (S2.mk (x0.i6.f2.n : Int) (x0.i6.j7.n : Int)) x0 H K)))))
theorem b3n (x0 : R5) {K : Bool → Hp → Prop} (I : Inv w0 ps0 H0 H [] w) (hR : ∀ (r0 : Bool) (H' : Hp) (w' : World) (_ : Inv w0 ps0 H0 H' [] w') (_ : K r0 H'), R (vB r0) w') (h : a2l x0 H K) : d6b (Value.agg (g7 x0.i6).toArray) w R E := by
 unfold a2l at h
 unfold d6b
 refine M4 I (cs := (g7 x0.i6)) rfl fun g_2 w_3 I_4 k_5 => ?_
 refine a7 Q5 ?_
 refine a7 a2V ?_
 refine d6 (ld1 Tryz.isAgg23 (I_4.at1 (o := 4) (vs := [(vs x0.i6.E5)]) (nb rfl) rfl)) ?_
 refine a7 (a6c _ _ _) ?_
 refine a7 Q5 ?_
 refine a7 a3Z ?_
 refine d6 (ld1 Tryz.isAgg23 (I_4.at1 (o := 5) (vs := [(vs x0.i6.B5)]) (nb rfl) rfl)) ?_
 refine a7 (a6c _ _ _) ?_
 refine a7 (J8 _ _ _ _ _ _) ?_
 refine a7 (a3q _ _ _ _ _ _) ?_
 refine a7 Q5 ?_
 refine a7 a6i ?_
 refine d6 (ld1 Tryz.isAgg51 (I_4.at1 (o := 2) (vs := [(vs x0.i6.f2)]) (nb rfl) rfl)) ?_
 refine a7 (a1Z _ _ _) ?_
 refine a7 Q5 ?_
 refine a7 a6h ?_
 refine d6 (ld1 Tryz.isAgg57 (I_4.at1 (o := 3) (vs := [(vs x0.i6.j7)]) (nb rfl) rfl)) ?_
 refine a7 (a7o _ _ _) ?_
 refine a7 (a4x _ _) ?_
 refine u1 I_4 Tryz.zeroValue240 (cs := [(vi 0), (vi 0)]) rfl fun g_7 w_8 I_9 a9J => ?_
 refine l9 I_9 Tryz.sizeOf240 (vs := [(vi (x0.i6.f2.n : Int)), (vi (x0.i6.j7.n : Int))]) (cs' := [(vi (x0.i6.f2.n : Int)), (vi (x0.i6.j7.n : Int))]) rfl rfl (nb rfl) rfl rfl fun R7 D8 b6S => ?_
 refine a7 Q5 ?_
 refine a7 a4X ?_
 refine d6 (ld1 Tryz.isAgg9 ((D8.bring 1).at1 (o := 1) (vs := [(Value.string x0.i6.b8)]) (nb rfl) rfl)) ?_
 refine a7 (a3V _ _ _ _ _) ?_
 simp only [Q0]
 refine a7 (Pu.g fun hb => by have i5 := hb; simp only [r8 i5]; exact (a0S _)) ?_
 refine a7 (P7 _ _) ?_
 refine a7 Q5 ?_
 refine a7 a7P ?_
 refine d6 (ld1 Tryz.isAgg3 ((D8.bring 1).at1 (o := 0) (vs := [(vi x0.i6.a8)]) (nb rfl) rfl)) ?_
 refine a7 (m5 _ _ _ _ _ _) ?_
 refine i8 (fun a6C => ?_) (fun a6C => ?_)
 ·replace h := h.1 a6C
  refine a7 (a0S _) ?_
  refine d6 (Ld.g fun hb => by have i5 := hb; exact (ldA Tryz.isAgg240 Tryz.sizeOf240 rfl (D8.at1 (o := 0) (vs := [(vi (x0.i6.f2.n : Int)), (vi (x0.i6.j7.n : Int))]) (nb rfl) rfl))) ?_
  refine a7 (Pu.g fun hb => by have i5 := hb; exact (a4x _ _)) ?_
  refine a7 (Pu.g fun hb => by have i5 := hb; simp only [r8 i5]; exact (a9g _ _ _ _ _ _)) ?_
  refine a7 (P7 _ _) ?_
  exact hR ((!(decide (0 < (IntKind.wrap .i64 ((x0.i6.E5.n : Int) + (x0.i6.B5.n : Int)))))) && (decide ((x0.i6.f2.n : Int) = 1 ∧ (x0.i6.j7.n : Int) = 0))) H _ D8.drop.drop h
 ·replace h := h.2 a6C
  refine a7 (m5 _ _ _ _ _ _) ?_
  refine i8 (fun b3l => ?_) (fun b3l => ?_)
  ·replace h := h.1 b3l
   refine a7 (a0S _) ?_
   refine d6 (Ld.g fun hb => by have i5 := hb; exact (ldA Tryz.isAgg240 Tryz.sizeOf240 rfl (D8.at1 (o := 0) (vs := [(vi (x0.i6.f2.n : Int)), (vi (x0.i6.j7.n : Int))]) (nb rfl) rfl))) ?_
   refine a7 (Pu.g fun hb => by have i5 := hb; exact (a4x _ _)) ?_
   refine a7 (Pu.g fun hb => by have i5 := hb; simp only [r8 i5]; exact (a9g _ _ _ _ _ _)) ?_
   refine a7 (P7 _ _) ?_
   exact hR ((!(decide (0 < (IntKind.wrap .i64 ((x0.i6.E5.n : Int) + (x0.i6.B5.n : Int)))))) && (decide ((x0.i6.f2.n : Int) = 2 ∧ (x0.i6.j7.n : Int) = 0))) H _ D8.drop.drop h
  ·replace h := h.2 b3l
   refine a7 (m5 _ _ _ _ _ _) ?_
   refine i8 (fun a8V => ?_) (fun a8V => ?_)
   ·replace h := h.1 a8V
    refine a7 Q5 ?_
    refine a7 a4X ?_
    refine d6 (ld1 Tryz.isAgg9 ((D8.bring 1).at1 (o := 1) (vs := [(Value.string x0.i6.b8)]) (nb rfl) rfl)) ?_
    refine a7 (a3V _ _ _ _ _) ?_
    refine d6 (Ld.g fun hb => by have i5 := hb; exact (ldA Tryz.isAgg240 Tryz.sizeOf240 rfl (D8.at1 (o := 0) (vs := [(vi (x0.i6.f2.n : Int)), (vi (x0.i6.j7.n : Int))]) (nb rfl) rfl))) ?_
    refine a7 (Pu.g fun hb => by have i5 := hb; exact (a4x _ _)) ?_
    refine a7 (Pu.g fun hb => by have i5 := hb; simp only [r8 i5]; exact (a9g _ _ _ _ _ _)) ?_
    refine a7 (P7 _ _) ?_
    exact hR ((decide (x0.i6.b8 = ⟨#[]⟩)) && (decide ((x0.i6.f2.n : Int) = 0 ∧ (x0.i6.j7.n : Int) = 1))) H _ D8.drop.drop h
   ·replace h := h.2 a8V
    refine a7 (m5 _ _ _ _ _ _) ?_
    refine i8 (fun a8T => ?_) (fun a8T => ?_)
    ·replace h := h.1 a8T
     refine a7 Q5 ?_
     refine a7 a4X ?_
     refine d6 (ld1 Tryz.isAgg9 ((D8.bring 1).at1 (o := 1) (vs := [(Value.string x0.i6.b8)]) (nb rfl) rfl)) ?_
     refine a7 (a3V _ _ _ _ _) ?_
     refine a7 (Pu.g fun hb => by have i5 := hb; exact Q5) ?_
     refine a7 (Pu.g fun hb => by have i5 := hb; simp only [r8 i5]; exact a3Z) ?_
     refine d6 (Ld.g fun hb => by have i5 := hb; simp only [r8 i5]; exact (ld1 Tryz.isAgg23 ((D8.bring 1).at1 (o := 5) (vs := [(vs x0.i6.B5)]) (nb rfl) rfl))) ?_
     refine a7 (Pu.g fun hb => by have i5 := hb; simp only [r8 i5]; exact (a6c _ _ _)) ?_
     refine a7 (Pu.g fun hb => by have i5 := hb; simp only [r8 i5]; exact (m5 _ _ _ _ _ _)) ?_
     refine a7 (P7 _ _) ?_
     refine d6 (Ld.g fun hb => by have i5 := hb; exact (ldA Tryz.isAgg240 Tryz.sizeOf240 rfl (D8.at1 (o := 0) (vs := [(vi (x0.i6.f2.n : Int)), (vi (x0.i6.j7.n : Int))]) (nb rfl) rfl))) ?_
     refine a7 (Pu.g fun hb => by have i5 := hb; exact (a4x _ _)) ?_
     refine a7 (Pu.g fun hb => by have i5 := hb; simp only [r8 i5]; exact (a9g _ _ _ _ _ _)) ?_
     refine a7 (P7 _ _) ?_
     exact hR (((decide (x0.i6.b8 = ⟨#[]⟩)) && (decide ((x0.i6.B5.n : Int) = 0))) && (decide ((x0.i6.f2.n : Int) = 0 ∧ (x0.i6.j7.n : Int) = 1))) H _ D8.drop.drop h
    ·replace h := h.2 a8T
     have hj1 : ∀ (c0Q : Bool) (H : Hp) (w : World) (_ : Inv w0 ps0 H0 H [bx g_7 240 [(vi (S2.mk (x0.i6.f2.n : Int) (x0.i6.j7.n : Int)).fexprs), (vi (S2.mk (x0.i6.f2.n : Int) (x0.i6.j7.n : Int)).fconds)], bx g_2 184 (g7 x0.i6)] w) (_ : R2 ((decide (x0.i6.b8 = ⟨#[]⟩)) && (!(decide (0 < (IntKind.wrap .i64 ((x0.i6.E5.n : Int) + (x0.i6.B5.n : Int))))))) x0.i6.a8 c0Q (S2.mk (x0.i6.f2.n : Int) (x0.i6.j7.n : Int)) x0 H K), c5V (Value.pointer (some ⟨g_7, 0, none⟩)) (vB ((decide (x0.i6.b8 = ⟨#[]⟩)) && (!(decide (0 < (IntKind.wrap .i64 ((x0.i6.E5.n : Int) + (x0.i6.B5.n : Int)))))))) (vi x0.i6.a8) (vB c0Q) w R E := by
      intro c0Q H w I h
      unfold c5V
      intro _
      unfold R2 at h
      refine s6 (fun a8U => ?_) (fun a8U => ?_)
      ·replace h := h.1 a8U
       refine d6 (Ld.g fun hb => by have i5 := hb; exact (ldA Tryz.isAgg240 Tryz.sizeOf240 rfl (I.at1 (o := 0) (vs := [(vi (S2.mk (x0.i6.f2.n : Int) (x0.i6.j7.n : Int)).fexprs), (vi (S2.mk (x0.i6.f2.n : Int) (x0.i6.j7.n : Int)).fconds)]) (nb rfl) rfl))) ?_
       refine a7 (Pu.g fun hb => by have i5 := hb; exact (a4x _ _)) ?_
       refine a7 (Pu.g fun hb => by have i5 := hb; simp only [r8 i5]; exact (a9g _ _ _ _ _ _)) ?_
       refine a7 (P7 _ _) ?_
       exact hR (((decide (x0.i6.b8 = ⟨#[]⟩)) && (!(decide (0 < (IntKind.wrap .i64 ((x0.i6.E5.n : Int) + (x0.i6.B5.n : Int))))))) && (decide ((S2.mk (x0.i6.f2.n : Int) (x0.i6.j7.n : Int)).fexprs = 0 ∧ (S2.mk (x0.i6.f2.n : Int) (x0.i6.j7.n : Int)).fconds = 1))) H _ I.drop.drop h
      ·replace h := h.2 a8U
       refine a7 (m5 _ _ _ _ _ _) ?_
       refine i8 (fun c2r => ?_) (fun c2r => ?_)
       ·replace h := h.1 c2r
        refine d6 (Ld.g fun hb => by have i5 := hb; exact (ldA Tryz.isAgg240 Tryz.sizeOf240 rfl (I.at1 (o := 0) (vs := [(vi (S2.mk (x0.i6.f2.n : Int) (x0.i6.j7.n : Int)).fexprs), (vi (S2.mk (x0.i6.f2.n : Int) (x0.i6.j7.n : Int)).fconds)]) (nb rfl) rfl))) ?_
        refine a7 (Pu.g fun hb => by have i5 := hb; exact (d5A )) ?_
        refine a7 (Pu.g fun hb => by have i5 := hb; simp only [r8 i5]; exact (a9g _ _ _ _ _ _)) ?_
        refine a7 (P7 _ _) ?_
        exact hR (((decide (x0.i6.b8 = ⟨#[]⟩)) && (!(decide (0 < (IntKind.wrap .i64 ((x0.i6.E5.n : Int) + (x0.i6.B5.n : Int))))))) && (decide ((S2.mk (x0.i6.f2.n : Int) (x0.i6.j7.n : Int)).fexprs = 0 ∧ (S2.mk (x0.i6.f2.n : Int) (x0.i6.j7.n : Int)).fconds = 0))) H _ I.drop.drop h
       ·replace h := h.2 c2r
        exact hR false H _ I.drop.drop h
     refine v8 fun j1 hx1 => ?_
     refine a7 (m5 _ _ _ _ _ _) ?_
     refine i8 (fun b3m => ?_) (fun b3m => ?_)
     ·replace h := h.1 b3m
      exact hx1 _ _ (hj1 (decide (x0.i6.a8 = 5)) H _ ((D8.bring 1).bring 1) h)
     ·replace h := h.2 b3m
      refine a7 (m5 _ _ _ _ _ _) ?_
      exact hx1 _ _ (hj1 (decide (x0.i6.a8 = 6)) H _ ((D8.bring 1).bring 1) h)
theorem b3X (x0 : R5) {H : Hp} {K : Bool → Hp → Prop} (h : a2l x0 H K) : a4Q x0 H K := by
 intro w I
 refine f1g ?_
 refine b3n x0 I (fun r0 H' w' I' hk => ⟨H', _, I', r0, rfl, rfl, hk⟩) h
def a1Q (x0 : R5) (H : Hp) (K : Sl → Hp → Prop) : Prop :=
 G5 x0.i6.j7 H (fun (a9F : Sl) (H_8 : Hp) =>
 A4 x0.i6.f2 H_8 (fun (a9G : Sl) (a8M : Hp) =>
 A0 x0.i6.E5 a8M (fun (d6s : Sl) (b9B : Hp) =>
 A0 x0.i6.B5 b9B (fun (d6t : Sl) (b7q : Hp) =>
 ∀ (c6g : Sl) (d0x : Hp), Hle b7q d0x → SlH d0x 1 csl c6g [a9F, a9G, d6s, d6t] → c6g.n ≤ c6g.c →
 G4 c6g d0x (fun (b4v : Sl) (c2s : Hp) =>
 K b4v c2s)))))
theorem b2a (x0 : R5) {K : Sl → Hp → Prop} (I : Inv w0 ps0 H0 H [] w) (hR : ∀ (r0 : Sl) (H' : Hp) (w' : World) (_ : Inv w0 ps0 H0 H' [] w') (_ : K r0 H'), R (vs r0) w') (h : a1Q x0 H K) : d6c (Value.agg (g7 x0.i6).toArray) w R E := by
 unfold a1Q at h
 unfold d6c
 refine M4 I (cs := (g7 x0.i6)) rfl fun g_2 w_3 I_4 k_5 => ?_
 refine V0 I_4 fun w_6 I_7 => ?_
 refine l7 Q5 ?_
 refine l7 a6h ?_
 refine l7 Q5 ?_
 refine l7 a6i ?_
 refine l7 Q5 ?_
 refine l7 a2V ?_
 refine l7 Q5 ?_
 refine l7 a3Z ?_
 refine t6 (ld1 Tryz.isAgg57 (I_7.at1 (o := 3) (vs := [(vs x0.i6.j7)]) (nb rfl) rfl)) ?_
 refine t6 (ld1 Tryz.isAgg51 (I_7.at1 (o := 2) (vs := [(vs x0.i6.f2)]) (nb rfl) rfl)) ?_
 refine t6 (ld1 Tryz.isAgg23 (I_7.at1 (o := 4) (vs := [(vs x0.i6.E5)]) (nb rfl) rfl)) ?_
 refine t6 (ld1 Tryz.isAgg23 (I_7.at1 (o := 5) (vs := [(vs x0.i6.B5)]) (nb rfl) rfl)) ?_
 refine d8 (cap := []) (fun args w => Tryz.call193 args w) ?_
 refine m4 (Fi := []) (Fr := [bx g_2 184 (g7 x0.i6)]) I_7 (h) (fun g0z H_8 g0A w_9 b1A c6b b9r d0b => ?_) (fun _ _ _ _ _ q => q.elim)
 obtain ⟨a9F, rfl, rfl, h⟩ := d0b
 refine ⟨(b9r _ I_7.lt1 (Inv.a3r (Fi := []) I_7)), (b9r _ I_7.lt1 (Inv.a3r (Fi := []) I_7)), (b9r _ I_7.lt1 (Inv.a3r (Fi := []) I_7)), ?_⟩
 refine d8 (cap := []) (fun args w => Tryz.call189 args w) ?_
 refine m4 (Fi := []) (Fr := [bx g_2 184 (g7 x0.i6)]) b1A (h) (fun g0B a8M g0C t8 b2X g0D c6c d0c => ?_) (fun _ _ _ _ _ q => q.elim)
 obtain ⟨a9G, rfl, rfl, h⟩ := d0c
 refine ⟨(c6c _ b1A.lt1 (Inv.a3r (Fi := []) b1A)), (c6c _ b1A.lt1 (Inv.a3r (Fi := []) b1A)), ?_⟩
 refine d8 (cap := []) (fun args w => Tryz.call78 args w) ?_
 refine m4 (Fi := []) (Fr := [bx g_2 184 (g7 x0.i6)]) b2X (h) (fun i3E b9B i3F a2d c6d d0y h7v h7w => ?_) (fun _ _ _ _ _ q => q.elim)
 obtain ⟨d6s, rfl, rfl, h⟩ := h7w
 refine ⟨(h7v _ b2X.lt1 (Inv.a3r (Fi := []) b2X)), ?_⟩
 refine d8 (cap := []) (fun args w => Tryz.call78 args w) ?_
 refine m4 (Fi := []) (Fr := [bx g_2 184 (g7 x0.i6)]) c6d (h) (fun i3G b7q i3H K5 e4k i3I h7x h7y => ?_) (fun _ _ _ _ _ q => q.elim)
 obtain ⟨d6t, rfl, rfl, h⟩ := h7y
 refine a0m (e := 137) (c := csl) (xs := [a9F, a9G, d6s, d6t]) e4k (e3z _ _ _ _ _ _ _ _ _ _ _ _) rfl rfl c0C c0D (nb rfl) fun c6g i3J b8X h7z d0r g0J => ?_
 obtain ⟨d0x, b5d, h7A, b9u, c6h⟩ := Inv.freezeC d0r h7z (by decide)
 replace h := h c6g d0x h7A b9u c6h
 refine d8 (cap := []) (fun args w => Tryz.call75 args w) ?_
 refine m4 (Fi := []) (Fr := [bx g_2 184 (g7 x0.i6)]) b5d (h) (fun h7B c2s h7C b3o b0v h7D b9C e4l => ?_) (fun _ _ _ _ _ q => q.elim)
 obtain ⟨b4v, rfl, rfl, h⟩ := e4l
 exact hR b4v c2s _ b0v.drop h
theorem b3p (x0 : R5) {H : Hp} {K : Sl → Hp → Prop} (h : a1Q x0 H K) : a7z x0 H K := by
 intro w I
 refine f1i ?_
 refine b2a x0 I (fun r0 H' w' I' hk => ⟨H', _, I', r0, rfl, rfl, hk⟩) h
end Go.Proofs.YtnhkdkcgdcgmdaaGreatDoor
