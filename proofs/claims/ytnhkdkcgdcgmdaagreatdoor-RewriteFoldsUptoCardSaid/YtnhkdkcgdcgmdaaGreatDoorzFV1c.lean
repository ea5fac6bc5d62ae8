/- Typed formulas of the program's functions, and the theorems that the contracts follow from them; printed by lift.py off the code. -/
import Derived.Test.YtnhkdkcgdcgmdaaGreatDoorzFV1
namespace Go.Proofs.YtnhkdkcgdcgmdaaGreatDoor
open Go.RowKit
set_option maxRecDepth 100000
set_option maxHeartbeats 2000000
variable {w0 w : World} {ps0 : Nat → Prop} {H0 H : Hp} {R : RT} {E : Pan}
def a8U (x0 : Int) (H : Hp) (K : Bool → Hp → Prop) : Prop :=
 a8R x0 H (fun (B2 : Int) (H_1 : Hp) =>
 K ((decide (B2 = 3)) || (decide (B2 = 4))) H_1)
theorem c6k (x0 : Int) {K : Bool → Hp → Prop} (I : Inv w0 ps0 H0 H [] w) (hR : ∀ (r0 : Bool) (H' : Hp) (w' : World) (_ : Inv w0 ps0 H0 H' [] w') (_ : K r0 H'), R (vB r0) w') (h : a8U x0 H K) : e8r (Value.int .i32 x0) w R E := by
 unfold a8U at h
 unfold e8r
 refine g9 (cap := []) (fun args w => Tryz.call166 args w) ?_
 refine l7 (Fi := []) (Fr := []) I (h) (fun v_5 H_1 F_6 w_2 I_3 l_8 k_4 q_7 => ?_) (fun _ _ _ _ _ q => q.elim)
 obtain ⟨B2, rfl, rfl, h⟩ := q_7
 refine a7 (i8 _ _ _ _ _ _) ?_
 simp only [u5]
 refine a7 (Pu.g fun hb => by have b9 := hb; simp only [i7 b9]; exact (i8 _ _ _ _ _ _)) ?_
 refine a7 (J4 _ _) ?_
 exact hR ((decide (B2 = 3)) || (decide (B2 = 4))) H_1 _ I_3 h
theorem c7Q (x0 : Int) {H : Hp} {K : Bool → Hp → Prop} (h : a8U x0 H K) : b2a x0 H K := by
 intro w I
 refine g8m ?_
 refine c6k x0 I (fun r0 H' w' I' hk => ⟨H', _, I', r0, rfl, rfl, hk⟩) h
def w5 (w7 : Bool) (H : Hp) (K : Bool → Hp → Prop) : Prop :=
 (w7 = true →
 K true H) ∧
 (w7 = false →
 K false H)
def b0t (x0 : ByteArray) (H : Hp) (K : Bool → Hp → Prop) : Prop :=
 (x0 = ⟨#[118, 97, 114]⟩ →
 w5 (decide (x0 = ⟨#[118, 97, 114]⟩)) H K) ∧
 (¬ (x0 = ⟨#[118, 97, 114]⟩) →
 (x0 = ⟨#[97, 114, 114, 97, 121]⟩ →
 w5 (decide (x0 = ⟨#[97, 114, 114, 97, 121]⟩)) H K) ∧
 (¬ (x0 = ⟨#[97, 114, 114, 97, 121]⟩) →
 (x0 = ⟨#[105, 102]⟩ →
 w5 (decide (x0 = ⟨#[105, 102]⟩)) H K) ∧
 (¬ (x0 = ⟨#[105, 102]⟩) →
 (x0 = ⟨#[101, 108, 115, 101]⟩ →
 w5 (decide (x0 = ⟨#[101, 108, 115, 101]⟩)) H K) ∧
 (¬ (x0 = ⟨#[101, 108, 115, 101]⟩) →
 (x0 = ⟨#[119, 104, 105, 108, 101]⟩ →
 w5 (decide (x0 = ⟨#[119, 104, 105, 108, 101]⟩)) H K) ∧
 (¬ (x0 = ⟨#[119, 104, 105, 108, 101]⟩) →
 (x0 = ⟨#[97, 115, 115, 101, 114, 116]⟩ →
 w5 (decide (x0 = ⟨#[97, 115, 115, 101, 114, 116]⟩)) H K) ∧
 (¬ (x0 = ⟨#[97, 115, 115, 101, 114, 116]⟩) →
 (x0 = ⟨#[97, 115, 115, 117, 109, 101]⟩ →
 w5 (decide (x0 = ⟨#[97, 115, 115, 117, 109, 101]⟩)) H K) ∧
 (¬ (x0 = ⟨#[97, 115, 115, 117, 109, 101]⟩) →
 (x0 = ⟨#[115, 107, 105, 112]⟩ →
 w5 (decide (x0 = ⟨#[115, 107, 105, 112]⟩)) H K) ∧
 (¬ (x0 = ⟨#[115, 107, 105, 112]⟩) →
 (x0 = ⟨#[105, 110, 112, 117, 116]⟩ →
 w5 (decide (x0 = ⟨#[105, 110, 112, 117, 116]⟩)) H K) ∧
 (¬ (x0 = ⟨#[105, 110, 112, 117, 116]⟩) →
 (x0 = ⟨#[116, 114, 117, 101]⟩ →
 w5 (decide (x0 = ⟨#[116, 114, 117, 101]⟩)) H K) ∧
 (¬ (x0 = ⟨#[116, 114, 117, 101]⟩) →
 w5 (decide (x0 = ⟨#[102, 97, 108, 115, 101]⟩)) H K))))))))))
theorem c8V (x0 : ByteArray) {K : Bool → Hp → Prop} (I : Inv w0 ps0 H0 H [] w) (hR : ∀ (r0 : Bool) (H' : Hp) (w' : World) (_ : Inv w0 ps0 H0 H' [] w') (_ : K r0 H'), R (vB r0) w') (h : b0t x0 H K) : e8q (Value.string x0) w R E := by
 unfold b0t at h
 unfold e8q
 have hj1 : ∀ (w7 : Bool) (H : Hp) (w : World) (_ : Inv w0 ps0 H0 H [] w) (_ : w5 w7 H K), d6C (vB w7) w R E := by
  intro w7 H w I h
  unfold d6C
  intro _
  unfold w5 at h
  refine o0 (fun c_1 => ?_) (fun c_1 => ?_)
  ·replace h := h.1 c_1
   exact hR true H _ I h
  ·replace h := h.2 c_1
   exact hR false H _ I h
 refine t6 fun j1 hx1 => ?_
 refine a7 (W2 _ _ _ _ _) ?_
 refine k7 (fun a6D => ?_) (fun a6D => ?_)
 ·replace h := h.1 a6D
  exact hx1 _ _ (hj1 (decide (x0 = ⟨#[118, 97, 114]⟩)) H _ I h)
 ·replace h := h.2 a6D
  refine a7 (W2 _ _ _ _ _) ?_
  refine k7 (fun d2u => ?_) (fun d2u => ?_)
  ·replace h := h.1 d2u
   exact hx1 _ _ (hj1 (decide (x0 = ⟨#[97, 114, 114, 97, 121]⟩)) H _ I h)
  ·replace h := h.2 d2u
   refine a7 (W2 _ _ _ _ _) ?_
   refine k7 (fun c_9 => ?_) (fun c_9 => ?_)
   ·replace h := h.1 c_9
    exact hx1 _ _ (hj1 (decide (x0 = ⟨#[105, 102]⟩)) H _ I h)
   ·replace h := h.2 c_9
    refine a7 (W2 _ _ _ _ _) ?_
    refine k7 (fun c_8 => ?_) (fun c_8 => ?_)
    ·replace h := h.1 c_8
     exact hx1 _ _ (hj1 (decide (x0 = ⟨#[101, 108, 115, 101]⟩)) H _ I h)
    ·replace h := h.2 c_8
     refine a7 (W2 _ _ _ _ _) ?_
     refine k7 (fun c_7 => ?_) (fun c_7 => ?_)
     ·replace h := h.1 c_7
      exact hx1 _ _ (hj1 (decide (x0 = ⟨#[119, 104, 105, 108, 101]⟩)) H _ I h)
     ·replace h := h.2 c_7
      refine a7 (W2 _ _ _ _ _) ?_
      refine k7 (fun c_6 => ?_) (fun c_6 => ?_)
      ·replace h := h.1 c_6
       exact hx1 _ _ (hj1 (decide (x0 = ⟨#[97, 115, 115, 101, 114, 116]⟩)) H _ I h)
      ·replace h := h.2 c_6
       refine a7 (W2 _ _ _ _ _) ?_
       refine k7 (fun c_5 => ?_) (fun c_5 => ?_)
       ·replace h := h.1 c_5
        exact hx1 _ _ (hj1 (decide (x0 = ⟨#[97, 115, 115, 117, 109, 101]⟩)) H _ I h)
       ·replace h := h.2 c_5
        refine a7 (W2 _ _ _ _ _) ?_
        refine k7 (fun c_4 => ?_) (fun c_4 => ?_)
        ·replace h := h.1 c_4
         exact hx1 _ _ (hj1 (decide (x0 = ⟨#[115, 107, 105, 112]⟩)) H _ I h)
        ·replace h := h.2 c_4
         refine a7 (W2 _ _ _ _ _) ?_
         refine k7 (fun c_3 => ?_) (fun c_3 => ?_)
         ·replace h := h.1 c_3
          exact hx1 _ _ (hj1 (decide (x0 = ⟨#[105, 110, 112, 117, 116]⟩)) H _ I h)
         ·replace h := h.2 c_3
          refine a7 (W2 _ _ _ _ _) ?_
          refine k7 (fun c_2 => ?_) (fun c_2 => ?_)
          ·replace h := h.1 c_2
           exact hx1 _ _ (hj1 (decide (x0 = ⟨#[116, 114, 117, 101]⟩)) H _ I h)
          ·replace h := h.2 c_2
           refine a7 (W2 _ _ _ _ _) ?_
           exact hx1 _ _ (hj1 (decide (x0 = ⟨#[102, 97, 108, 115, 101]⟩)) H _ I h)
theorem d1s (x0 : ByteArray) {H : Hp} {K : Bool → Hp → Prop} (h : b0t x0 H K) : a7N x0 H K := by
 intro w I
 refine g8k ?_
 refine c8V x0 I (fun r0 H' w' I' hk => ⟨H', _, I', r0, rfl, rfl, hk⟩) h
def a1l (x0 : (List ByteArray)) (x1 : ByteArray) (H : Hp) (K : Bool → Hp → Prop) : Prop :=
 a6o x0 x1 H (fun (B2 : Int) (H_1 : Hp) =>
 K (decide (0 ≤ B2)) H_1)
theorem b4E (x0 : (List ByteArray)) (x1 : ByteArray) (sx0 : Sl) (Fx0 : Frag) (hx0 : RowL 9 1 N2 sx0 x0 Fx0) {K : Bool → Hp → Prop} (I : Inv w0 ps0 H0 H [Fx0] w) (hR : ∀ (r0 : Bool) (H' : Hp) (w' : World) (_ : Inv w0 ps0 H0 H' [Fx0] w') (_ : K r0 H'), R (vB r0) w') (h : a1l x0 x1 H K) : e8o (vs sx0) (Value.string x1) w R E := by
 unfold a1l at h
 unfold e8o
 refine g9 (cap := []) (fun args w => Tryz.call167 args w) ?_
 refine l7 (Fi := [Fx0]) (Fr := []) I (h sx0 Fx0 hx0) (fun v_5 H_1 F_6 w_2 I_3 l_8 k_4 q_7 => ?_) (fun _ _ _ _ _ q => q.elim)
 obtain ⟨B2, rfl, rfl, h⟩ := q_7
 refine a7 (a7M _ _ _ _ _ _) ?_
 exact hR (decide (0 ≤ B2)) H_1 _ I_3 h
theorem b5s (x0 : (List ByteArray)) (x1 : ByteArray) {H : Hp} {K : Bool → Hp → Prop} (h : a1l x0 x1 H K) : V2 x0 x1 H K := by
 intro sx0 Fx0 hx0 w I
 refine g8g ?_
 refine b4E x0 x1 sx0 Fx0 hx0 I (fun r0 H' w' I' hk => ⟨H', _, I', r0, rfl, rfl, hk⟩) h
def D6 (b9Z : Int) (c0a : Int) (c0b : Int) (c0c : Bool) (c0d : Bool) (b7l : (List ByteArray)) (H : Hp) (K : Bool → o5 → (List ByteArray) → Hp → Prop) : Prop :=
 K true (o5.mk b9Z c0a c0b c0c c0d (Sl.mk none 0 0)) b7l H
def a3O (x0 : o5) (a3Z : (List ByteArray)) (x1 : i5) (x2 : Int) (H : Hp) (K : Bool → o5 → (List ByteArray) → Hp → Prop) : Prop :=
 (4096 < (IntKind.wrap .i64 (x0.fnodes + 1)) →
 K false (o5.mk (IntKind.wrap .i64 (x0.fnodes + 1)) x0.fdepth 33 x0.fform x0.fnamed (Sl.mk none 0 0)) a3Z H) ∧
 (¬ (4096 < (IntKind.wrap .i64 (x0.fnodes + 1))) →
 (64 < x2 →
 K false (o5.mk (IntKind.wrap .i64 (x0.fnodes + 1)) x0.fdepth 32 x0.fform x0.fnamed (Sl.mk none 0 0)) a3Z H) ∧
 (¬ (64 < x2) →
 TG (x0.fform = false) (b1o x1 H) false H (fun (y9 : Bool) (a5j : Hp) =>
 a7f x1 a5j (fun (v6 : ByteArray) (c6l : Bool) (a4A : Hp) =>
 (c6l = true →
 TG (x0.fnamed = false) (b0m v6 a4A) false a4A (fun (U7 : Bool) (b2O : Hp) =>
 V2 a3Z v6 b2O (fun (l9 : Bool) (a4d : Hp) =>
 ((!l9) = true →
 (a3Z.length + ([v6] : List ByteArray).length) * 17 ≤ 140737488355328 ∧
 D6 (IntKind.wrap .i64 (x0.fnodes + 1)) (if x2 > x0.fdepth then x2 else x0.fdepth) x0.fe (x0.fform || (!y9)) (x0.fnamed || (!U7)) (a3Z ++ [v6]) a4d K) ∧
 ((!l9) = false →
 D6 (IntKind.wrap .i64 (x0.fnodes + 1)) (if x2 > x0.fdepth then x2 else x0.fdepth) x0.fe (x0.fform || (!y9)) (x0.fnamed || (!U7)) a3Z a4d K)))) ∧
 (c6l = false →
 D6 (IntKind.wrap .i64 (x0.fnodes + 1)) (if x2 > x0.fdepth then x2 else x0.fdepth) x0.fe (x0.fform || (!y9)) x0.fnamed a3Z a4A K)))))
theorem b8t (x0 : o5) (a3Z : (List ByteArray)) (x1 : i5) (x2 : Int) (g0 : Nat) (a3m : Sl) (a9A : Frag) (c2U : RowL 9 1 N2 a3m a3Z a9A) {K : Bool → o5 → (List ByteArray) → Hp → Prop} (I : Inv w0 ps0 H0 H [bx g0 101 [(vi x0.fnodes), (vi x0.fdepth), (vi x0.fe), (vB x0.fform), (vB x0.fnamed), (vs a3m)], a9A] w) (hR : ∀ (r0 : Bool) (y0 : o5) (b4m : (List ByteArray)) (b1h : Sl) (b1i : Frag) (H' : Hp) (w' : World) (_ : RowL 9 1 N2 b1h b4m b1i) (_ : Inv w0 ps0 H0 H' [bx g0 101 [(vi y0.fnodes), (vi y0.fdepth), (vi y0.fe), (vB y0.fform), (vB y0.fnamed), (vs b1h)], b1i] w') (_ : K r0 y0 b4m H'), R (vB r0) w') (h : a3O x0 a3Z x1 x2 H K) : e8i (Value.pointer (some ⟨g0, 0, none⟩)) (E7 x1) (vi x2) w R E := by
 unfold a3O at h
 unfold e8i
 refine a7 (A7 _) ?_
 refine a7 c3r ?_
 refine f7 (ld1 Tryz.isAgg3 (I.at1 (o := 0) (vs := [(vi x0.fnodes)]) (nb rfl) rfl)) ?_
 refine a7 (y6 _ _ _ _ _ _) ?_
 refine a7 (A7 _) ?_
 refine a7 c3r ?_
 refine m6 I Tryz.sizeOf3 (vs := [(vi (IntKind.wrap .i64 (x0.fnodes + 1)))]) (cs' := [(vi (IntKind.wrap .i64 (x0.fnodes + 1))), (vi x0.fdepth), (vi x0.fe), (vB x0.fform), (vB x0.fnamed), (vs a3m)]) rfl rfl (nb rfl) rfl rfl fun w_1 I_2 k_3 => ?_
 refine a7 (A7 _) ?_
 refine a7 c3r ?_
 refine f7 (ld1 Tryz.isAgg3 (I_2.at1 (o := 0) (vs := [(vi (IntKind.wrap .i64 (x0.fnodes + 1)))]) (nb rfl) rfl)) ?_
 refine a7 (a4M _ _ _ _ _ _) ?_
 refine k7 (fun c0Y => ?_) (fun c0Y => ?_)
 ·replace h := h.1 c0Y
  refine a7 (A7 _) ?_
  refine a7 a9S ?_
  refine m6 I_2 Tryz.sizeOf27 (vs := [(vi 33)]) (cs' := [(vi (IntKind.wrap .i64 (x0.fnodes + 1))), (vi x0.fdepth), (vi 33), (vB x0.fform), (vB x0.fnamed), (vs a3m)]) rfl rfl (nb rfl) rfl rfl fun w_4 I_5 k_6 => ?_
  exact hR false (o5.mk (IntKind.wrap .i64 (x0.fnodes + 1)) x0.fdepth 33 x0.fform x0.fnamed (Sl.mk none 0 0)) a3Z a3m a9A H _ c2U ((I_5.bring 1).bring 1) h
 ·replace h := h.2 c0Y
  refine a7 (a4M _ _ _ _ _ _) ?_
  refine k7 (fun b4F => ?_) (fun b4F => ?_)
  ·replace h := h.1 b4F
   refine a7 (A7 _) ?_
   refine a7 a9S ?_
   refine m6 I_2 Tryz.sizeOf27 (vs := [(vi 32)]) (cs' := [(vi (IntKind.wrap .i64 (x0.fnodes + 1))), (vi x0.fdepth), (vi 32), (vB x0.fform), (vB x0.fnamed), (vs a3m)]) rfl rfl (nb rfl) rfl rfl fun w_7 I_8 k_9 => ?_
   exact hR false (o5.mk (IntKind.wrap .i64 (x0.fnodes + 1)) x0.fdepth 32 x0.fform x0.fnamed (Sl.mk none 0 0)) a3Z a3m a9A H _ c2U ((I_8.bring 1).bring 1) h
  ·replace h := h.2 b4F
   refine a7 (A7 _) ?_
   refine a7 d1I ?_
   refine f7 (ld1 Tryz.isAgg3 (I_2.at1 (o := 1) (vs := [(vi x0.fdepth)]) (nb rfl) rfl)) ?_
   refine a7 (f5p _ _ _ _ _) ?_
   refine a7 (A7 _) ?_
   refine a7 d1I ?_
   refine m6 I_2 Tryz.sizeOf3 (vs := [(vi (if x2 > x0.fdepth then x2 else x0.fdepth))]) (cs' := [(vi (IntKind.wrap .i64 (x0.fnodes + 1))), (vi (if x2 > x0.fdepth then x2 else x0.fdepth)), (vi x0.fe), (vB x0.fform), (vB x0.fnamed), (vs a3m)]) rfl rfl (nb rfl) rfl rfl fun p5 a3l b4q => ?_
   refine a7 (A7 _) ?_
   refine a7 c3s ?_
   refine f7 (ld1 Tryz.isAgg4 (a3l.at1 (o := 3) (vs := [(vB x0.fform)]) (nb rfl) rfl)) ?_
   simp only [u5]
   refine X8 (D := fun d6T p6 => ∃ (y9 : Bool) (a5j : Hp), d6T = (gv x0.fform false (vB y9)) ∧ (Inv w0 ps0 H0 a5j [bx g0 101 [(vi (IntKind.wrap .i64 (x0.fnodes + 1))), (vi (if x2 > x0.fdepth then x2 else x0.fdepth)), (vi x0.fe), (vB x0.fform), (vB x0.fnamed), (vs a3m)], a9A] p6) ∧ (∀ i, i < p5.heap.size → ¬ inF [] i → p6.heap[i]? = p5.heap[i]?) ∧ Hle H a5j ∧ (a7f x1 a5j (fun (v6 : ByteArray) (c6l : Bool) (a4A : Hp) =>
 (c6l = true →
 TG (x0.fnamed = false) (b0m v6 a4A) false a4A (fun (U7 : Bool) (b2O : Hp) =>
 V2 a3Z v6 b2O (fun (l9 : Bool) (a4d : Hp) =>
 ((!l9) = true →
 (a3Z.length + ([v6] : List ByteArray).length) * 17 ≤ 140737488355328 ∧
 D6 (IntKind.wrap .i64 (x0.fnodes + 1)) (if x2 > x0.fdepth then x2 else x0.fdepth) x0.fe (x0.fform || (!y9)) (x0.fnamed || (!U7)) (a3Z ++ [v6]) a4d K) ∧
 ((!l9) = false →
 D6 (IntKind.wrap .i64 (x0.fnodes + 1)) (if x2 > x0.fdepth then x2 else x0.fdepth) x0.fe (x0.fform || (!y9)) (x0.fnamed || (!U7)) a3Z a4d K)))) ∧
 (c6l = false →
 D6 (IntKind.wrap .i64 (x0.fnodes + 1)) (if x2 > x0.fdepth then x2 else x0.fdepth) x0.fe (x0.fform || (!y9)) x0.fnamed a3Z a4A K)))) (fun e2q => ?_) (fun e2q => ?_) ?_
   ·replace h := h.1 e2q
    have b9 := e2q
    simp only [i7 b9]
    refine c4B a3l h (fun y9 a5j p6 c0R c0E c5Y h => ?_)
    exact ⟨y9, a5j, by rfl, c0R, c5Y, c0E, h⟩
   ·exact ⟨false, H, by rw [a4L e2q], a3l, fun _ _ _ => rfl, Hle.refl _, h.2 e2q⟩
   ·clear h
    rintro d6T p6 ⟨y9, a5j, rfl, c0R, c5Y, c0E, h⟩
    refine a7 (Pu.g fun hb => by have b9 := hb; simp only [i7 b9]; exact (T4 _)) ?_
    refine a7 (J4 _ _) ?_
    refine a7 (A7 _) ?_
    refine a7 c3s ?_
    refine m6 c0R Tryz.sizeOf4 (vs := [(vB (x0.fform || (!y9)))]) (cs' := [(vi (IntKind.wrap .i64 (x0.fnodes + 1))), (vi (if x2 > x0.fdepth then x2 else x0.fdepth)), (vi x0.fe), (vB (x0.fform || (!y9))), (vB x0.fnamed), (vs a3m)]) rfl rfl (nb rfl) rfl rfl fun a1R b3L d7c => ?_
    have hj1 : ∀ (b9Z : Int) (c0a : Int) (c0b : Int) (c0c : Bool) (c0d : Bool) (b7l : (List ByteArray)) (c6m : Sl) (c6n : Frag) (H : Hp) (w : World) (_ : RowL 9 1 N2 c6m b7l c6n) (_ : Inv w0 ps0 H0 H [bx g0 101 [(vi b9Z), (vi c0a), (vi c0b), (vB c0c), (vB c0d), (vs c6m)], c6n] w) (_ : D6 b9Z c0a c0b c0c c0d b7l H K), d6y w R E := by
     intro b9Z c0a c0b c0c c0d b7l c6m c6n H w f9J I h
     unfold d6y
     intro _
     unfold D6 at h
     exact hR true (o5.mk b9Z c0a c0b c0c c0d (Sl.mk none 0 0)) b7l c6m c6n H _ f9J ((I.bring 1).bring 1) h
    refine t6 fun j1 hx1 => ?_
    refine g9 (cap := []) (fun args w => Tryz.call143 args w) ?_
    refine l7 (Fi := []) (Fr := [bx g0 101 [(vi (IntKind.wrap .i64 (x0.fnodes + 1))), (vi (if x2 > x0.fdepth then x2 else x0.fdepth)), (vi x0.fe), (vB (x0.fform || (!y9))), (vB x0.fnamed), (vs a3m)], a9A]) b3L (h) (fun f9K a4A b3K b0C a5E f9L e2r d2v => ?_) (fun _ _ _ _ _ q => q.elim)
    obtain ⟨v6, c6l, rfl, rfl, h⟩ := d2v
    refine a7 (o2 _ _ (Value.string v6) rfl) ?_
    refine a7 (o2 _ _ (vB c6l) rfl) ?_
    refine o0 (fun c0Z => ?_) (fun c0Z => ?_)
    ·replace h := h.1 c0Z
     refine a7 (A7 _) ?_
     refine a7 c3t ?_
     refine f7 (ld1 Tryz.isAgg4 (a5E.at1 (o := 4) (vs := [(vB x0.fnamed)]) (nb rfl) rfl)) ?_
     simp only [u5]
     refine X8 (D := fun e2s B6 => ∃ (U7 : Bool) (b2O : Hp) , e2s = (gv x0.fnamed false (vB U7)) ∧ (Inv w0 ps0 H0 b2O [bx g0 101 [(vi (IntKind.wrap .i64 (x0.fnodes + 1))), (vi (if x2 > x0.fdepth then x2 else x0.fdepth)), (vi x0.fe), (vB (x0.fform || (!y9))), (vB x0.fnamed), (vs a3m)], a9A] B6) ∧ (∀ i, i < b0C.heap.size → ¬ inF [] i → B6.heap[i]? = b0C.heap[i]?) ∧ Hle a4A b2O ∧ (V2 a3Z v6 b2O (fun (l9 : Bool) (a4d : Hp) =>
 ((!l9) = true →
 (a3Z.length + ([v6] : List ByteArray).length) * 17 ≤ 140737488355328 ∧
 D6 (IntKind.wrap .i64 (x0.fnodes + 1)) (if x2 > x0.fdepth then x2 else x0.fdepth) x0.fe (x0.fform || (!y9)) (x0.fnamed || (!U7)) (a3Z ++ [v6]) a4d K) ∧
 ((!l9) = false →
 D6 (IntKind.wrap .i64 (x0.fnodes + 1)) (if x2 > x0.fdepth then x2 else x0.fdepth) x0.fe (x0.fform || (!y9)) (x0.fnamed || (!U7)) a3Z a4d K)))) (fun b7m => ?_) (fun b7m => ?_) ?_
     ·replace h := h.1 b7m
      have b9 := b7m
      simp only [i7 b9]
      refine g9 (cap := []) (fun args w => Tryz.call144 args w) ?_
      refine l7 (Fi := []) (Fr := [bx g0 101 [(vi (IntKind.wrap .i64 (x0.fnodes + 1))), (vi (if x2 > x0.fdepth then x2 else x0.fdepth)), (vi x0.fe), (vB (x0.fform || (!y9))), (vB x0.fnamed), (vs a3m)], a9A]) a5E (h) (fun e2s b2O i3q B6 a4B b0O c6o e2t => ?_) (fun _ _ _ _ _ q => q.elim)
      obtain ⟨U7, rfl, rfl, h⟩ := e2t
      exact ⟨U7, b2O, by rfl, a4B, c6o, b0O, h⟩
     ·exact ⟨false, a4A, by rw [a4L b7m], a5E, fun _ _ _ => rfl, Hle.refl _, h.2 b7m⟩
     ·clear h
      rintro e2s B6 ⟨U7, b2O, rfl, a4B, c6o, b0O, h⟩
      refine a7 (Pu.g fun hb => by have b9 := hb; simp only [i7 b9]; exact (T4 _)) ?_
      refine a7 (J4 _ _) ?_
      refine a7 (A7 _) ?_
      refine a7 c3t ?_
      refine m6 a4B Tryz.sizeOf4 (vs := [(vB (x0.fnamed || (!U7)))]) (cs' := [(vi (IntKind.wrap .i64 (x0.fnodes + 1))), (vi (if x2 > x0.fdepth then x2 else x0.fdepth)), (vi x0.fe), (vB (x0.fform || (!y9))), (vB (x0.fnamed || (!U7))), (vs a3m)]) rfl rfl (nb rfl) rfl rfl fun I4 c1a e2u => ?_
      refine a7 (A7 _) ?_
      refine a7 c3u ?_
      refine f7 (ld1 Tryz.isAgg88 (c1a.at1 (o := 5) (vs := [(vs a3m)]) (nb rfl) rfl)) ?_
      refine g9 (cap := []) (fun args w => Tryz.call145 args w) ?_
      refine l7 (Fi := [a9A]) (Fr := [bx g0 101 [(vi (IntKind.wrap .i64 (x0.fnodes + 1))), (vi (if x2 > x0.fdepth then x2 else x0.fdepth)), (vi x0.fe), (vB (x0.fform || (!y9))), (vB (x0.fnamed || (!U7))), (vs a3m)]]) (c1a.bring 1) (h a3m a9A c2U) (fun e9J a4d e9K E4 b2c e9L d6W c6p => ?_) (fun _ _ _ _ _ q => q.elim)
      obtain ⟨l9, rfl, rfl, h⟩ := c6p
      refine a7 (T4 _) ?_
      refine o0 (fun d2w => ?_) (fun d2w => ?_)
      ·replace h := h.1 d2w
       refine a7 (A7 _) ?_
       refine a7 c3u ?_
       refine f7 (ld1 Tryz.isAgg88 ((b2c.bring 1).at1 (o := 5) (vs := [(vs a3m)]) (nb rfl) rfl)) ?_
       refine a5A (e := 9) (c := N2) (xs := [v6]) b2c (g6S _) rfl rfl d1F d1G (nb rfl) fun l0F k1U c3w c0K i3r l0G => ?_
       obtain ⟨d7b, h⟩ := h
       refine h5M (s := a3m) (xs := a3Z) (i3r.bring 1) c2U (c0K.srcO ((i3r.bring 1).bring 1)) d7b fun f9M k1V c3y c5N c8W d7f => ?_
       refine a7 (A7 _) ?_
       refine a7 c3u ?_
       refine m6 ((c8W.bring 1).drop.bring 1) Tryz.sizeOf88 (vs := [(vs f9M)]) (cs' := [(vi (IntKind.wrap .i64 (x0.fnodes + 1))), (vi (if x2 > x0.fdepth then x2 else x0.fdepth)), (vi x0.fe), (vB (x0.fform || (!y9))), (vB (x0.fnamed || (!U7))), (vs f9M)]) rfl rfl (nb rfl) rfl rfl fun V0 k1W l0H => ?_
       exact hx1 _ _ (hj1 (IntKind.wrap .i64 (x0.fnodes + 1)) (if x2 > x0.fdepth then x2 else x0.fdepth) x0.fe (x0.fform || (!y9)) (x0.fnamed || (!U7)) (a3Z ++ [v6]) f9M k1V a4d _ c5N ((k1W.bring 1).bring 1) h)
      ·replace h := h.2 d2w
       exact hx1 _ _ (hj1 (IntKind.wrap .i64 (x0.fnodes + 1)) (if x2 > x0.fdepth then x2 else x0.fdepth) x0.fe (x0.fform || (!y9)) (x0.fnamed || (!U7)) a3Z a3m a9A a4d _ c2U (b2c.bring 1) h)
    ·replace h := h.2 c0Z
     exact hx1 _ _ (hj1 (IntKind.wrap .i64 (x0.fnodes + 1)) (if x2 > x0.fdepth then x2 else x0.fdepth) x0.fe (x0.fform || (!y9)) x0.fnamed a3Z a3m a9A a4A _ c2U ((a5E.bring 1).bring 1) h)
theorem b8V (x0 : o5) (a3Z : (List ByteArray)) (x1 : i5) (x2 : Int) {H : Hp} {K : Bool → o5 → (List ByteArray) → Hp → Prop} (h : a3O x0 a3Z x1 x2 H K) : a7H x0 a3Z x1 x2 H K := by
 intro g0 a3m a9A c2U w I
 refine g7U ?_
 refine b8t x0 a3Z x1 x2 g0 a3m a9A c2U I (fun r0 y0 b4m b1h b1i H' w' e2g I' hk => ⟨H', _, I', r0, y0, b4m, b1h, b1i, rfl, rfl, e2g, hk⟩) h
def S9 (b7n : Int) (b7o : Int) (b7p : Int) (b7q : Bool) (b7r : Bool) (b8u : (List ByteArray)) (H : Hp) (K : o5 → Hp → Prop) : Prop :=
 ∀ (a8n : Sl) (b2P : Hp), Hle H b2P → SlH b2P 1 N2 a8n b8u → a8n.n ≤ a8n.c →
 K (o5.mk b7n b7o b7p b7q b7r a8n) b2P
def a8f (x0 : Sl) (H : Hp) (K : o5 → Hp → Prop) : Prop :=
 a3v x0 1 (o5.mk 0 0 0 false false (Sl.mk none 0 0)) [] H (fun (a6P : Bool) (K7 : o5) (b3j : (List ByteArray)) (b0f : Hp) =>
 ((!a6P) = true →
 S9 ((K7).fnodes) ((K7).fdepth) ((K7).fe) ((K7).fform) ((K7).fnamed) b3j b0f K) ∧
 ((!a6P) = false →
 (((K7).fform) = true →
 S9 ((K7).fnodes) ((K7).fdepth) 30 ((K7).fform) ((K7).fnamed) b3j b0f K) ∧
 (((K7).fform) = false →
 (((K7).fnamed) = true →
 S9 ((K7).fnodes) ((K7).fdepth) 31 ((K7).fform) ((K7).fnamed) b3j b0f K) ∧
 (((K7).fnamed) = false →
 S9 ((K7).fnodes) ((K7).fdepth) ((K7).fe) ((K7).fform) ((K7).fnamed) b3j b0f K))))
theorem c4G (x0 : Sl) {K : o5 → Hp → Prop} (I : Inv w0 ps0 H0 H [] w) (hR : ∀ (r0 : o5) (gr0 : Nat) (H' : Hp) (w' : World) (_ : Inv w0 ps0 H0 H' [bx gr0 101 (b3g r0)] w') (_ : K r0 H'), R (Value.pointer (some ⟨gr0, 0, none⟩)) w') (h : a8f x0 H K) : F65 (vs x0) w R E := by
 unfold a8f at h
 unfold F65
 refine a7 (e7Z ) ?_
 refine J5 I (cs := [(vi 0), (vi 0), (vi 0), (vB false), (vB false), (nS)]) rfl fun g_2 w_3 I_4 k_5 => ?_
 refine z7 I_4 Tryz.zeroValue102 (cs := [(Value.pointer none)]) rfl fun g_7 w_8 I_9 b0M => ?_
 refine m6 I_9 Tryz.sizeOf102 (vs := [(Value.pointer (some ⟨g_2, 0, none⟩))]) (cs' := [(Value.pointer (some ⟨g_2, 0, none⟩))]) rfl rfl (nb rfl) rfl rfl fun P0 B1 b6Y => ?_
 refine z7 B1 Tryz.zeroValue170 (cs := [Value.nilFunc]) rfl fun c6q r8 b5M e1J => ?_
 refine a7 (c3o _ _ _) ?_
 refine m6 b5M Tryz.sizeOf170 (vs := [(Value.func (.func 110) #[] #[(Value.pointer (some ⟨g_7, 0, none⟩)), (Value.pointer (some ⟨c6q, 0, none⟩))])]) (cs' := [(Value.func (.func 110) #[] #[(Value.pointer (some ⟨g_7, 0, none⟩)), (Value.pointer (some ⟨c6q, 0, none⟩))])]) rfl rfl (nb rfl) rfl rfl fun a1R b3L d7c => ?_
 have hj1 : ∀ (b7n : Int) (b7o : Int) (b7p : Int) (b7q : Bool) (b7r : Bool) (b8u : (List ByteArray)) (a8n : Sl) (Fcr_1j1_5 : Frag) (H : Hp) (w : World) (_ : RowL 9 1 N2 a8n b8u Fcr_1j1_5) (_ : Inv w0 ps0 H0 H [bx g_7 102 [(Value.pointer (some ⟨g_2, 0, none⟩))], bx g_2 101 [(vi b7n), (vi b7o), (vi b7p), (vB b7q), (vB b7r), (vs a8n)], bx c6q 170 [(Value.func (.func 110) #[] #[(Value.pointer (some ⟨g_7, 0, none⟩)), (Value.pointer (some ⟨c6q, 0, none⟩))])], Fcr_1j1_5] w) (_ : S9 b7n b7o b7p b7q b7r b8u H K), e0K (Value.pointer (some ⟨g_7, 0, none⟩)) w R E := by
  intro b7n b7o b7p b7q b7r b8u a8n Fcr_1j1_5 H w f6O I h
  unfold e0K
  intro _
  unfold S9 at h
  refine f7 (ld1 Tryz.isAgg102 (I.at1 (o := 0) (vs := [(Value.pointer (some ⟨g_2, 0, none⟩))]) (nb rfl) rfl)) ?_
  obtain ⟨b2P, a4B, f9N, b0c, e1V⟩ := Inv.freezeC (I.bring 3) f6O (by decide)
  replace h := h a8n b2P f9N b0c e1V
  exact hR (o5.mk b7n b7o b7p b7q b7r a8n) g_2 b2P _ (a4B.drop.bring 1).drop h
 refine t6 fun j1 hx1 => ?_
 refine f7 (ld1 Tryz.isAgg170 (b3L.at1 (o := 0) (vs := [(Value.func (.func 110) #[] #[(Value.pointer (some ⟨g_7, 0, none⟩)), (Value.pointer (some ⟨c6q, 0, none⟩))])]) (nb rfl) rfl)) ?_
 refine g9 (cap := [(Value.pointer (some ⟨g_7, 0, none⟩)), (Value.pointer (some ⟨c6q, 0, none⟩))]) (fun args w => Tryz.call110 args w) ?_
 refine l7 (Fi := [bx g_7 102 [(Value.pointer (some ⟨g_2, 0, none⟩))], bx g_2 101 [(vi 0), (vi 0), (vi 0), (vB false), (vB false), (Value.slice (Sl.mk none 0 0).a (Sl.mk none 0 0).n (Sl.mk none 0 0).c)], [], bx c6q 170 [(Value.func (.func 110) #[] #[(Value.pointer (some ⟨g_7, 0, none⟩)), (Value.pointer (some ⟨c6q, 0, none⟩))])]]) (Fr := []) ((((b3L.nil.bring 1).bring 1).bring 3).bring 3) (h g_7 g_2 c6q (Sl.mk none 0 0) ([]) (RowL.nil (e := 9) d1F d1G)) (fun f9O b0f e1T u4 a8K f9P d2h d2x => ?_) (fun _ _ _ _ _ q => q.elim)
 obtain ⟨a6P, K7, b3j, b7s, c6r, rfl, rfl, c6s, h⟩ := d2x
 refine a7 (T4 _) ?_
 refine o0 (fun f9Q => ?_) (fun f9Q => ?_)
 ·replace h := h.1 f9Q
  exact hx1 _ _ (hj1 ((K7).fnodes) ((K7).fdepth) ((K7).fe) ((K7).fform) ((K7).fnamed) b3j b7s c6r b0f _ c6s ((((a8K.bring 2).bring 3).bring 3).bring 3) h)
 ·replace h := h.2 f9Q
  refine f7 (ld1 Tryz.isAgg102 (a8K.at1 (o := 0) (vs := [(Value.pointer (some ⟨g_2, 0, none⟩))]) (nb rfl) rfl)) ?_
  refine a7 (A7 _) ?_
  refine a7 c3s ?_
  refine f7 (ld1 Tryz.isAgg4 ((a8K.bring 1).at1 (o := 3) (vs := [(vB ((K7).fform))]) (nb rfl) rfl)) ?_
  refine o0 (fun a0p => ?_) (fun a0p => ?_)
  ·replace h := h.1 a0p
   refine f7 (ld1 Tryz.isAgg102 (a8K.at1 (o := 0) (vs := [(Value.pointer (some ⟨g_2, 0, none⟩))]) (nb rfl) rfl)) ?_
   refine a7 (A7 _) ?_
   refine a7 a9S ?_
   refine m6 (a8K.bring 1) Tryz.sizeOf27 (vs := [(vi 30)]) (cs' := [(vi ((K7).fnodes)), (vi ((K7).fdepth)), (vi 30), (vB ((K7).fform)), (vB ((K7).fnamed)), (vs b7s)]) rfl rfl (nb rfl) rfl rfl fun b2x b2g e9M => ?_
   exact hx1 _ _ (hj1 ((K7).fnodes) ((K7).fdepth) 30 ((K7).fform) ((K7).fnamed) b3j b7s c6r b0f _ c6s ((((b2g.bring 2).bring 3).bring 2).bring 3) h)
  ·replace h := h.2 a0p
   refine f7 (ld1 Tryz.isAgg102 (a8K.at1 (o := 0) (vs := [(Value.pointer (some ⟨g_2, 0, none⟩))]) (nb rfl) rfl)) ?_
   refine a7 (A7 _) ?_
   refine a7 c3t ?_
   refine f7 (ld1 Tryz.isAgg4 ((a8K.bring 1).at1 (o := 4) (vs := [(vB ((K7).fnamed))]) (nb rfl) rfl)) ?_
   refine o0 (fun f9R => ?_) (fun f9R => ?_)
   ·replace h := h.1 f9R
    refine f7 (ld1 Tryz.isAgg102 (a8K.at1 (o := 0) (vs := [(Value.pointer (some ⟨g_2, 0, none⟩))]) (nb rfl) rfl)) ?_
    refine a7 (A7 _) ?_
    refine a7 a9S ?_
    refine m6 (a8K.bring 1) Tryz.sizeOf27 (vs := [(vi 31)]) (cs' := [(vi ((K7).fnodes)), (vi ((K7).fdepth)), (vi 31), (vB ((K7).fform)), (vB ((K7).fnamed)), (vs b7s)]) rfl rfl (nb rfl) rfl rfl fun I4 c1a e2u => ?_
    exact hx1 _ _ (hj1 ((K7).fnodes) ((K7).fdepth) 31 ((K7).fform) ((K7).fnamed) b3j b7s c6r b0f _ c6s ((((c1a.bring 2).bring 3).bring 2).bring 3) h)
   ·replace h := h.2 f9R
    exact hx1 _ _ (hj1 ((K7).fnodes) ((K7).fdepth) ((K7).fe) ((K7).fform) ((K7).fnamed) b3j b7s c6r b0f _ c6s ((((a8K.bring 2).bring 3).bring 3).bring 3) h)
theorem c6t (x0 : Sl) {H : Hp} {K : o5 → Hp → Prop} (h : a8f x0 H K) : a4Z x0 H K := by
 intro w I
 refine h7Q ?_
 refine c4G x0 I (fun r0 gr0 H' w' I' hk => ⟨H', _, I', r0, gr0, rfl, rfl, hk⟩) h
def a9E (x0 : a8) (H : Hp) (K : Int → Hp → Prop) : Prop :=
 ∀ (s_7 : Sl) (a5j : Hp), Hle H a5j → SlH a5j 1 w8 s_7 [(i5.J8 (M2.mk x0))] → s_7.n ≤ s_7.c →
 a4Z s_7 a5j (fun (b9y : o5) (d2y : Hp) =>
 K b9y.fe d2y)
theorem c7R (x0 : a8) {K : Int → Hp → Prop} (I : Inv w0 ps0 H0 H [] w) (hR : ∀ (r0 : Int) (H' : Hp) (w' : World) (_ : Inv w0 ps0 H0 H' [] w') (_ : K r0 H'), R (vi r0) w') (h : a9E x0 H K) : F39 (Value.agg (b7 x0).toArray) w R E := by
 unfold a9E at h
 unfold F39
 refine J5 I (cs := (b7 x0)) rfl fun g_2 w_3 I_4 k_5 => ?_
 refine f7 (ldA Tryz.isAgg53 Tryz.sizeOf53 rfl (I_4.at1 (o := 0) (vs := (b7 x0)) (nb rfl) rfl)) ?_
 refine a7 (c8g _ _ _ _ _ _) ?_
 refine a7 (b6P (M2.mk x0)) ?_
 refine a5A (e := 150) (c := w8) (xs := [(i5.J8 (M2.mk x0))]) I_4 (b6Q _) rfl rfl T6 V6 (nb rfl) fun s_7 F_8 w_9 b2Q a3l b4q => ?_
 obtain ⟨a5j, L9, c5X, a7J, b7t⟩ := Inv.freezeC a3l b2Q (by decide)
 replace h := h s_7 a5j c5X a7J b7t
 refine g9 (cap := []) (fun args w => Tryz.call65 args w) ?_
 refine l7 (Fi := []) (Fr := [bx g_2 53 (b7 x0)]) L9 (h) (fun k1X d2y k1Y a1R b3L k1Z d7c f9S => ?_) (fun _ _ _ _ _ q => q.elim)
 obtain ⟨b9y, i3s, rfl, rfl, h⟩ := f9S
 refine a7 (A7 _) ?_
 refine a7 a9S ?_
 refine f7 (ld1 Tryz.isAgg27 (b3L.at1 (o := 2) (vs := [(vi b9y.fe)]) (nb rfl) rfl)) ?_
 exact hR b9y.fe d2y _ b3L.drop.drop h
theorem c8X (x0 : a8) {H : Hp} {K : Int → Hp → Prop} (h : a9E x0 H K) : b2C x0 H K := by
 intro w I
 refine h6K ?_
 refine c7R x0 I (fun r0 H' w' I' hk => ⟨H', _, I', r0, rfl, rfl, hk⟩) h
def a8g (x0 : d8) (H : Hp) (K : i5 → Hp → Prop) : Prop :=
 K (i5.O3 (W3.mk x0)) H
theorem c4H (x0 : d8) {K : i5 → Hp → Prop} (I : Inv w0 ps0 H0 H [] w) (hR : ∀ (r0 : i5) (H' : Hp) (w' : World) (_ : Inv w0 ps0 H0 H' [] w') (_ : K r0 H'), R (E7 r0) w') (h : a8g x0 H K) : F79 (Value.agg (g8 x0).toArray) w R E := by
 unfold a8g at h
 unfold F79
 refine J5 I (cs := (g8 x0)) rfl fun g_2 w_3 I_4 k_5 => ?_
 refine f7 (ldA Tryz.isAgg73 Tryz.sizeOf73 rfl (I_4.at1 (o := 0) (vs := (g8 x0)) (nb rfl) rfl)) ?_
 refine a7 (e0b _ _ _ _ _ _ _ _ _ _ _ _ _ _) ?_
 refine a7 (d6o (W3.mk x0)) ?_
 exact hR (i5.O3 (W3.mk x0)) H _ I_4.drop h
theorem c6u (x0 : d8) {H : Hp} {K : i5 → Hp → Prop} (h : a8g x0 H K) : b5J x0 H K := by
 intro w I
 refine h8g ?_
 refine c4H x0 I (fun r0 H' w' I' hk => ⟨H', _, I', r0, rfl, rfl, hk⟩) h
def a2M (m7 : m5) (r7 : m5) (H : Hp) (K : Bool → Hp → Prop) : Prop :=
 K true H
def P6 (c1b : m5) (a3z : m5) (G6 : Int) (H : Hp) (n2 : Int → Hp → Prop) (K : Bool → Hp → Prop) : Prop :=
 (G6 < (a3z.z8.n : Int) →
 (0 : Int) ≤ G6 ∧ (G6 : Int) < a3z.z8.n ∧ ∃ b8T : I3, EltH H a3z.z8 G6 2 (y8 b8T) ∧
 (0 : Int) ≤ G6 ∧ (G6 : Int) < c1b.z8.n ∧ ∃ d2z : I3, EltH H c1b.z8 G6 2 (y8 d2z) ∧
 (¬ (b8T.g7 = d2z.g7 ∧ b8T.a1F = d2z.a1F) →
 K false H) ∧
 (b8T.g7 = d2z.g7 ∧ b8T.a1F = d2z.a1F →
 n2 (IntKind.wrap .i64 (G6 + 1)) H)) ∧
 (¬ (G6 < (a3z.z8.n : Int)) →
 a2M c1b a3z H K)
def a4p (x0 : m5) (x1 : m5) (H : Hp) (K : Bool → Hp → Prop) : Prop :=
 a5J x0 H (fun (o9 : Bool) (a1j : Hp) =>
 TG ((!o9) = false) (a5J x1 a1j) false a1j (fun (b2n : Bool) (b8W : Hp) =>
 TG ((((!o9) || (!b2n)) || (!decide ((x0.z8.n : Int) = (x1.z8.n : Int)))) = false) (K2 x0.V3 x1.V3 b8W) false b8W (fun (b4g : Bool) (b4G : Hp) =>
 (((((!o9) || (!b2n)) || (!decide ((x0.z8.n : Int) = (x1.z8.n : Int)))) || (!b4g)) = true →
 K false b4G) ∧
 (((((!o9) || (!b2n)) || (!decide ((x0.z8.n : Int) = (x1.z8.n : Int)))) || (!b4g)) = false →
 TL (0 : Int) b4G fun (s : Int) H n2 => P6 x1 x0 s H n2 K))))
theorem b8X (x0 : m5) (x1 : m5) {K : Bool → Hp → Prop} (I : Inv w0 ps0 H0 H [] w) (hR : ∀ (r0 : Bool) (H' : Hp) (w' : World) (_ : Inv w0 ps0 H0 H' [] w') (_ : K r0 H'), R (vB r0) w') (h : a4p x0 x1 H K) : F11 (Value.agg (k4 x0).toArray) (Value.agg (k4 x1).toArray) w R E := by
 unfold a4p at h
 unfold F11
 refine J5 I (cs := (k4 x0)) rfl fun g_2 w_3 I_4 k_5 => ?_
 refine J5 I_4 (cs := (k4 x1)) rfl fun g_7 w_8 I_9 b0M => ?_
 refine f7 (ldA Tryz.isAgg25 Tryz.sizeOf25 rfl ((I_9.bring 1).at1 (o := 0) (vs := (k4 x0)) (nb rfl) rfl)) ?_
 refine g9 (cap := []) (fun args w => Tryz.call29 args w) ?_
 refine l7 (Fi := []) (Fr := [bx g_7 25 (k4 x1), bx g_2 25 (k4 x0)]) I_9 (h) (fun d2A a1j d2B q8 a8L c6v d2C b4H => ?_) (fun _ _ _ _ _ q => q.elim)
 obtain ⟨o9, rfl, rfl, h⟩ := b4H
 refine a7 (T4 _) ?_
 refine f7 (Ld.g fun hb => by have b9 := hb; exact (ldA Tryz.isAgg25 Tryz.sizeOf25 rfl (a8L.at1 (o := 0) (vs := (k4 x1)) (nb rfl) rfl))) ?_
 refine X8 (D := fun f9T a5B => ∃ (b2n : Bool) (b8W : Hp) , f9T = (gv (!o9) false (vB b2n)) ∧ (Inv w0 ps0 H0 b8W [bx g_7 25 (k4 x1), bx g_2 25 (k4 x0)] a5B) ∧ (∀ i, i < q8.heap.size → ¬ inF [] i → a5B.heap[i]? = q8.heap[i]?) ∧ Hle a1j b8W ∧ (TG ((((!o9) || (!b2n)) || (!decide ((x0.z8.n : Int) = (x1.z8.n : Int)))) = false) (K2 x0.V3 x1.V3 b8W) false b8W (fun (b4g : Bool) (b4G : Hp) =>
 (((((!o9) || (!b2n)) || (!decide ((x0.z8.n : Int) = (x1.z8.n : Int)))) || (!b4g)) = true →
 K false b4G) ∧
 (((((!o9) || (!b2n)) || (!decide ((x0.z8.n : Int) = (x1.z8.n : Int)))) || (!b4g)) = false →
 TL (0 : Int) b4G fun (s : Int) H n2 => P6 x1 x0 s H n2 K)))) (fun e2v => ?_) (fun e2v => ?_) ?_
 ·replace h := h.1 e2v
  have b9 := e2v
  simp only [i7 b9]
  refine g9 (cap := []) (fun args w => Tryz.call29 args w) ?_
  refine l7 (Fi := []) (Fr := [bx g_7 25 (k4 x1), bx g_2 25 (k4 x0)]) a8L (h) (fun f9T b8W l0I a5B b7f d6v e9h k2a => ?_) (fun _ _ _ _ _ q => q.elim)
  obtain ⟨b2n, rfl, rfl, h⟩ := k2a
  exact ⟨b2n, b8W, by rfl, b7f, e9h, d6v, h⟩
 ·exact ⟨false, a1j, by rw [a4L e2v], a8L, fun _ _ _ => rfl, Hle.refl _, h.2 e2v⟩
 ·clear h
  rintro f9T a5B ⟨b2n, b8W, rfl, b7f, e9h, d6v, h⟩
  refine a7 (Pu.g fun hb => by have b9 := hb; simp only [i7 b9]; exact (T4 _)) ?_
  refine a7 (J4 _ _) ?_
  refine a7 (Pu.g fun hb => by have b9 := hb; exact a1G) ?_
  refine f7 (Ld.g fun hb => by have b9 := hb; simp only [i7 b9]; exact (ld1 Tryz.isAgg22 ((b7f.bring 1).at1 (o := 0) (vs := [(vs x0.z8)]) (nb rfl) rfl))) ?_
  refine a7 (Pu.g fun hb => by have b9 := hb; simp only [i7 b9]; exact (b2t _ _ _)) ?_
  refine a7 (Pu.g fun hb => by have b9 := hb; exact a1G) ?_
  refine f7 (Ld.g fun hb => by have b9 := hb; simp only [i7 b9]; exact (ld1 Tryz.isAgg22 (b7f.at1 (o := 0) (vs := [(vs x1.z8)]) (nb rfl) rfl))) ?_
  refine a7 (Pu.g fun hb => by have b9 := hb; simp only [i7 b9]; exact (b2t _ _ _)) ?_
  refine a7 (Pu.g fun hb => by have b9 := hb; simp only [i7 b9]; exact (M7 _ _ _ _ _ _)) ?_
  refine a7 (J4 _ _) ?_
  refine a7 (Pu.g fun hb => by have b9 := hb; exact a3D) ?_
  refine f7 (Ld.g fun hb => by have b9 := hb; simp only [i7 b9]; exact (ld1 Tryz.isAgg23 ((b7f.bring 1).at1 (o := 1) (vs := [(vs x0.V3)]) (nb rfl) rfl))) ?_
  refine a7 (Pu.g fun hb => by have b9 := hb; exact a3D) ?_
  refine f7 (Ld.g fun hb => by have b9 := hb; simp only [i7 b9]; exact (ld1 Tryz.isAgg23 (b7f.at1 (o := 1) (vs := [(vs x1.V3)]) (nb rfl) rfl))) ?_
  refine X8 (D := fun f9U C4 => ∃ (b4g : Bool) (b4G : Hp) , f9U = (gv (((!o9) || (!b2n)) || (!decide ((x0.z8.n : Int) = (x1.z8.n : Int)))) false (vB b4g)) ∧ (Inv w0 ps0 H0 b4G [bx g_7 25 (k4 x1), bx g_2 25 (k4 x0)] C4) ∧ (∀ i, i < a5B.heap.size → ¬ inF [] i → C4.heap[i]? = a5B.heap[i]?) ∧ Hle b8W b4G ∧ ((((((!o9) || (!b2n)) || (!decide ((x0.z8.n : Int) = (x1.z8.n : Int)))) || (!b4g)) = true →
 K false b4G) ∧
 (((((!o9) || (!b2n)) || (!decide ((x0.z8.n : Int) = (x1.z8.n : Int)))) || (!b4g)) = false →
 TL (0 : Int) b4G fun (s : Int) H n2 => P6 x1 x0 s H n2 K))) (fun e2w => ?_) (fun e2w => ?_) ?_
  ·replace h := h.1 e2w
   have b9 := e2w
   simp only [i7 b9]
   refine g9 (cap := []) (fun args w => Tryz.call30 args w) ?_
   refine l7 (Fi := []) (Fr := [bx g_7 25 (k4 x1), bx g_2 25 (k4 x0)]) b7f (h) (fun f9U b4G l0J C4 b8O c8Y d6S k2b => ?_) (fun _ _ _ _ _ q => q.elim)
   obtain ⟨b4g, rfl, rfl, h⟩ := k2b
   exact ⟨b4g, b4G, by rfl, b8O, d6S, c8Y, h⟩
  ·exact ⟨false, b8W, by rw [a4L e2w], b7f, fun _ _ _ => rfl, Hle.refl _, h.2 e2w⟩
  ·clear h
   rintro f9U C4 ⟨b4g, b4G, rfl, b8O, d6S, c8Y, h⟩
   refine a7 (Pu.g fun hb => by have b9 := hb; simp only [i7 b9]; exact (T4 _)) ?_
   refine a7 (J4 _ _) ?_
   refine o0 (fun d2D => ?_) (fun d2D => ?_)
   ·replace h := h.1 d2D
    exact hR false b4G _ b8O.drop.drop h
   ·replace h := h.2 d2D
    have hj1 : ∀ (H : Hp) (w : World) (_ : Inv w0 ps0 H0 H [bx g_7 25 (k4 x1), bx g_2 25 (k4 x0)] w) (_ : a2M x1 x0 H K), e0c w R E := by
     intro H w I h
     unfold e0c
     intro _
     unfold a2M at h
     exact hR true H _ I.drop.drop h
    refine t6 fun j1 hx1 => ?_
    obtain ⟨f9V, e2x, k2c, k2d⟩ := h
    refine B5 (J := fun n l w => ∃ (s : Int) (H : Hp) , n = e2x s ∧ l = [(vi s)] ∧ Inv w0 ps0 H0 H [bx g_7 25 (k4 x1), bx g_2 25 (k4 x0)] w ∧ f9V s H) ⟨_, 0, b4G, rfl, rfl, ((b8O.bring 1).bring 1), k2c⟩ ?_
    rintro l0K τ_61 w next2 ⟨G6, H, rfl, i3t, I, k2e⟩ hn2
    simp only [List.map_cons, List.map_nil, List.cons.injEq, and_true] at i3t
    have e5 := i3t
    simp only [e5]
    obtain ⟨n2, hm2, h⟩ : ∃ n2 : Int → Hp → Prop, (∀ s' H', n2 s' H' → f9V s' H' ∧ e2x s' < e2x G6) ∧ P6 x1 x0 G6 H n2 K := ⟨_, fun _ _ h => h, k2d G6 H (fun s' H' => f9V s' H' ∧ e2x s' < e2x G6) k2e (fun _ _ a b => ⟨a, b⟩)⟩
    unfold f5y
    unfold P6 at h
    refine a7 a1G ?_
    refine f7 (ld1 Tryz.isAgg22 ((I.bring 1).at1 (o := 0) (vs := [(vs x0.z8)]) (nb rfl) rfl)) ?_
    refine a7 (b2t _ _ _) ?_
    refine a7 (w9 _ _ _ _ _ _) ?_
    refine k7 (fun d2E => ?_) (fun d2E => ?_)
    ·replace h := h.1 d2E
     refine a5z I fun C7 b4I => ?_
     refine q9 a1G ?_
     refine q9 a1G ?_
     refine A5 (ld1 Tryz.isAgg22 ((b4I.bring 1).at1 (o := 0) (vs := [(vs x0.z8)]) (nb rfl) rfl)) ?_
     obtain ⟨a6p, e2k, b8T, c6e, h⟩ := h
     obtain ⟨k1M, k1N, d2r, c6e⟩ := c6e
     refine q9 (b6O d2r _ _ _ _ a6p e2k) ?_
     refine A5 (ldA (vs := (y8 b8T)) Tryz.isAgg71 Tryz.sizeOf71 rfl (b4I.atH c6e)) ?_
     refine A5 (ld1 Tryz.isAgg22 (b4I.at1 (o := 0) (vs := [(vs x1.z8)]) (nb rfl) rfl)) ?_
     obtain ⟨e2y, d2n, d2z, c3K, h⟩ := h
     obtain ⟨l0L, l0M, c3I, c3K⟩ := c3K
     refine q9 (b6O c3I _ _ _ _ e2y d2n) ?_
     refine A5 (ldA (vs := (y8 d2z)) Tryz.isAgg71 Tryz.sizeOf71 rfl (b4I.atH c3K)) ?_
     refine q9 (f8C _ _ _ _ _ _) ?_
     refine a4f (fun d2F => ?_) (fun d2F => ?_)
     ·replace h := h.1 d2F
      exact hR false H _ b4I.drop.drop h
     ·replace h := h.2 d2F
      refine a7 (y6 _ _ _ _ _ _) ?_
      exact hn2 _ _ _ (hm2 _ _ h).2 ⟨(IntKind.wrap .i64 (G6 + 1)), H, rfl, rfl, ((b4I.bring 1).bring 1), (hm2 _ _ h).1⟩
    ·replace h := h.2 d2E
     exact hx1 _ _ (hj1 H _ ((I.bring 1).bring 1) h)
theorem b9z (x0 : m5) (x1 : m5) {H : Hp} {K : Bool → Hp → Prop} (h : a4p x0 x1 H K) : a7Y x0 x1 H K := by
 intro w I
 refine h5T ?_
 refine b8X x0 x1 I (fun r0 H' w' I' hk => ⟨H', _, I', r0, rfl, rfl, hk⟩) h
def V7 (d0i : Bool) (Q7 : P2) (N9 : R7) (H : Hp) (K : Bool → Hp → Prop) : Prop :=
 (d0i = true →
 K (decide (Q7.fexprs = 0 ∧ Q7.fparts = 2)) H) ∧
 (d0i = false →
 K false H)
def V8 (b3k : Int) (d0j : Bool) (m7 : P2) (r7 : R7) (H : Hp) (K : Bool → Hp → Prop) : Prop :=
 (d0j = true →
 K (decide (m7.fexprs = 0 ∧ m7.fparts = 0)) H) ∧
 (d0j = false →
 (b3k = 4 →
 K (decide (m7.fexprs = 0 ∧ m7.fparts = 1)) H) ∧
 (¬ (b3k = 4) →
 (b3k = 5 →
 V7 (decide (b3k = 5)) m7 r7 H K) ∧
 (¬ (b3k = 5) →
 V7 (decide (b3k = 6)) m7 r7 H K)))
def a5M (x0 : R7) (H : Hp) (K : Bool → Hp → Prop) : Prop :=
 (x0.t1.b6 = 3 →
 K (((decide (1 ≤ x0.t1.fOp)) && (decide (x0.t1.fOp ≤ 6))) && (decide ((x0.t1.i6.n : Int) = 2 ∧ (x0.t1.p8.n : Int) = 0))) H) ∧
 (¬ (x0.t1.b6 = 3) →
 (¬ (x0.t1.fOp = 0) →
 K false H) ∧
 (x0.t1.fOp = 0 →
 (x0.t1.b6 = 1 →
 V8 x0.t1.b6 (decide (x0.t1.b6 = 1)) (P2.mk (x0.t1.i6.n : Int) (x0.t1.p8.n : Int)) x0 H K) ∧
 (¬ (x0.t1.b6 = 1) →
 V8 x0.t1.b6 (decide (x0.t1.b6 = 2)) (P2.mk (x0.t1.i6.n : Int) (x0.t1.p8.n : Int)) x0 H K)))
theorem c1c (x0 : R7) {K : Bool → Hp → Prop} (I : Inv w0 ps0 H0 H [] w) (hR : ∀ (r0 : Bool) (H' : Hp) (w' : World) (_ : Inv w0 ps0 H0 H' [] w') (_ : K r0 H'), R (vB r0) w') (h : a5M x0 H K) : e8B (Value.agg (d6 x0.t1).toArray) w R E := by
 unfold a5M at h
 unfold e8B
 refine J5 I (cs := (d6 x0.t1)) rfl fun g_2 w_3 I_4 k_5 => ?_
 refine a7 a6I ?_
 refine a7 M4 ?_
 refine f7 (ld1 Tryz.isAgg51 (I_4.at1 (o := 2) (vs := [(vs x0.t1.i6)]) (nb rfl) rfl)) ?_
 refine a7 (J3 _ _ _) ?_
 refine a7 a6I ?_
 refine a7 E5 ?_
 refine f7 (ld1 Tryz.isAgg57 (I_4.at1 (o := 3) (vs := [(vs x0.t1.p8)]) (nb rfl) rfl)) ?_
 refine a7 (U9 _ _ _) ?_
 refine a7 (b3f _ _) ?_
 refine z7 I_4 Tryz.zeroValue236 (cs := [(vi 0), (vi 0)]) rfl fun g_7 w_8 I_9 b0M => ?_
 refine m6 I_9 Tryz.sizeOf236 (vs := [(vi (x0.t1.i6.n : Int)), (vi (x0.t1.p8.n : Int))]) (cs' := [(vi (x0.t1.i6.n : Int)), (vi (x0.t1.p8.n : Int))]) rfl rfl (nb rfl) rfl rfl fun P0 B1 b6Y => ?_
 refine a7 a6I ?_
 refine a7 Q2 ?_
 refine f7 (ld1 Tryz.isAgg3 ((B1.bring 1).at1 (o := 0) (vs := [(vi x0.t1.b6)]) (nb rfl) rfl)) ?_
 refine a7 (i8 _ _ _ _ _ _) ?_
 refine k7 (fun a8M => ?_) (fun a8M => ?_)
 ·replace h := h.1 a8M
  refine a7 a6I ?_
  refine a7 a4N ?_
  refine f7 (ld1 Tryz.isAgg3 ((B1.bring 1).at1 (o := 1) (vs := [(vi x0.t1.fOp)]) (nb rfl) rfl)) ?_
  refine a7 (a7M _ _ _ _ _ _) ?_
  refine a7 (Pu.g fun hb => by have b9 := hb; exact a6I) ?_
  refine a7 (Pu.g fun hb => by have b9 := hb; simp only [i7 b9]; exact a4N) ?_
  refine f7 (Ld.g fun hb => by have b9 := hb; simp only [i7 b9]; exact (ld1 Tryz.isAgg3 ((B1.bring 1).at1 (o := 1) (vs := [(vi x0.t1.fOp)]) (nb rfl) rfl))) ?_
  refine a7 (Pu.g fun hb => by have b9 := hb; simp only [i7 b9]; exact (b3S _ _ _ _ _ _)) ?_
  refine a7 (s7 _ _) ?_
  refine f7 (Ld.g fun hb => by have b9 := hb; exact (ldA Tryz.isAgg236 Tryz.sizeOf236 rfl (B1.at1 (o := 0) (vs := [(vi (x0.t1.i6.n : Int)), (vi (x0.t1.p8.n : Int))]) (nb rfl) rfl))) ?_
  refine a7 (Pu.g fun hb => by have b9 := hb; exact (b3f _ _)) ?_
  refine a7 (Pu.g fun hb => by have b9 := hb; simp only [i7 b9]; exact (c2K _ _ _ _ _ _)) ?_
  refine a7 (s7 _ _) ?_
  exact hR (((decide (1 ≤ x0.t1.fOp)) && (decide (x0.t1.fOp ≤ 6))) && (decide ((x0.t1.i6.n : Int) = 2 ∧ (x0.t1.p8.n : Int) = 0))) H _ B1.drop.drop h
 ·replace h := h.2 a8M
  refine a7 a6I ?_
  refine a7 a4N ?_
  refine f7 (ld1 Tryz.isAgg3 ((B1.bring 1).at1 (o := 1) (vs := [(vi x0.t1.fOp)]) (nb rfl) rfl)) ?_
  refine a7 (M7 _ _ _ _ _ _) ?_
  refine a4f (fun c1d => ?_) (fun c1d => ?_)
  ·replace h := h.1 c1d
   exact hR false H _ B1.drop.drop h
  ·replace h := h.2 c1d
   refine a7 a6I ?_
   refine a7 Q2 ?_
   refine f7 (ld1 Tryz.isAgg3 ((B1.bring 1).at1 (o := 0) (vs := [(vi x0.t1.b6)]) (nb rfl) rfl)) ?_
   have hj1 : ∀ (d0j : Bool) (H : Hp) (w : World) (_ : Inv w0 ps0 H0 H [bx g_7 236 [(vi (P2.mk (x0.t1.i6.n : Int) (x0.t1.p8.n : Int)).fexprs), (vi (P2.mk (x0.t1.i6.n : Int) (x0.t1.p8.n : Int)).fparts)], bx g_2 143 (d6 x0.t1)] w) (_ : V8 x0.t1.b6 d0j (P2.mk (x0.t1.i6.n : Int) (x0.t1.p8.n : Int)) x0 H K), d6O (Value.pointer (some ⟨g_7, 0, none⟩)) (vi x0.t1.b6) (vB d0j) w R E := by
    intro d0j H w I h
    unfold d6O
    intro _
    unfold V8 at h
    refine o0 (fun b4J => ?_) (fun b4J => ?_)
    ·replace h := h.1 b4J
     refine f7 (ldA Tryz.isAgg236 Tryz.sizeOf236 rfl (I.at1 (o := 0) (vs := [(vi (P2.mk (x0.t1.i6.n : Int) (x0.t1.p8.n : Int)).fexprs), (vi (P2.mk (x0.t1.i6.n : Int) (x0.t1.p8.n : Int)).fparts)]) (nb rfl) rfl)) ?_
     refine a7 (e8a ) ?_
     refine a7 (c2K _ _ _ _ _ _) ?_
     exact hR (decide ((P2.mk (x0.t1.i6.n : Int) (x0.t1.p8.n : Int)).fexprs = 0 ∧ (P2.mk (x0.t1.i6.n : Int) (x0.t1.p8.n : Int)).fparts = 0)) H _ I.drop.drop h
    ·replace h := h.2 b4J
     refine a7 (i8 _ _ _ _ _ _) ?_
     refine k7 (fun c1e => ?_) (fun c1e => ?_)
     ·replace h := h.1 c1e
      refine f7 (ldA Tryz.isAgg236 Tryz.sizeOf236 rfl (I.at1 (o := 0) (vs := [(vi (P2.mk (x0.t1.i6.n : Int) (x0.t1.p8.n : Int)).fexprs), (vi (P2.mk (x0.t1.i6.n : Int) (x0.t1.p8.n : Int)).fparts)]) (nb rfl) rfl)) ?_
      refine a7 (b3f _ _) ?_
      refine a7 (c2K _ _ _ _ _ _) ?_
      exact hR (decide ((P2.mk (x0.t1.i6.n : Int) (x0.t1.p8.n : Int)).fexprs = 0 ∧ (P2.mk (x0.t1.i6.n : Int) (x0.t1.p8.n : Int)).fparts = 1)) H _ I.drop.drop h
     ·replace h := h.2 c1e
      have hj2 : ∀ (d0i : Bool) (H : Hp) (w : World) (_ : Inv w0 ps0 H0 H [bx g_7 236 [(vi (P2.mk (x0.t1.i6.n : Int) (x0.t1.p8.n : Int)).fexprs), (vi (P2.mk (x0.t1.i6.n : Int) (x0.t1.p8.n : Int)).fparts)], bx g_2 143 (d6 x0.t1)] w) (_ : V7 d0i (P2.mk (x0.t1.i6.n : Int) (x0.t1.p8.n : Int)) x0 H K), d6N (Value.pointer (some ⟨g_7, 0, none⟩)) (vB d0i) w R E := by
       intro d0i H w I h
       unfold d6N
       intro _
       unfold V7 at h
       refine o0 (fun c1f => ?_) (fun c1f => ?_)
       ·replace h := h.1 c1f
        refine f7 (ldA Tryz.isAgg236 Tryz.sizeOf236 rfl (I.at1 (o := 0) (vs := [(vi (P2.mk (x0.t1.i6.n : Int) (x0.t1.p8.n : Int)).fexprs), (vi (P2.mk (x0.t1.i6.n : Int) (x0.t1.p8.n : Int)).fparts)]) (nb rfl) rfl)) ?_
        refine a7 (b3f _ _) ?_
        refine a7 (c2K _ _ _ _ _ _) ?_
        exact hR (decide ((P2.mk (x0.t1.i6.n : Int) (x0.t1.p8.n : Int)).fexprs = 0 ∧ (P2.mk (x0.t1.i6.n : Int) (x0.t1.p8.n : Int)).fparts = 2)) H _ I.drop.drop h
       ·replace h := h.2 c1f
        exact hR false H _ I.drop.drop h
      refine t6 fun j2 hx2 => ?_
      refine a7 (i8 _ _ _ _ _ _) ?_
      refine k7 (fun b1v => ?_) (fun b1v => ?_)
      ·replace h := h.1 b1v
       exact hx2 _ _ (hj2 (decide (x0.t1.b6 = 5)) H _ ((I.bring 1).bring 1) h)
      ·replace h := h.2 b1v
       refine a7 (i8 _ _ _ _ _ _) ?_
       exact hx2 _ _ (hj2 (decide (x0.t1.b6 = 6)) H _ ((I.bring 1).bring 1) h)
   refine t6 fun j1 hx1 => ?_
   refine a7 (i8 _ _ _ _ _ _) ?_
   refine k7 (fun c1g => ?_) (fun c1g => ?_)
   ·replace h := h.1 c1g
    exact hx1 _ _ (hj1 (decide (x0.t1.b6 = 1)) H _ ((B1.bring 1).bring 1) h)
   ·replace h := h.2 c1g
    refine a7 (i8 _ _ _ _ _ _) ?_
    exact hx1 _ _ (hj1 (decide (x0.t1.b6 = 2)) H _ ((B1.bring 1).bring 1) h)
theorem c2j (x0 : R7) {H : Hp} {K : Bool → Hp → Prop} (h : a5M x0 H K) : a9g x0 H K := by
 intro w I
 refine g8G ?_
 refine c1c x0 I (fun r0 H' w' I' hk => ⟨H', _, I', r0, rfl, rfl, hk⟩) h
def V9 (a4C : Bool) (g4L : Int) (d0k : Bool) (m7 : X0) (r7 : W3) (H : Hp) (K : Bool → Hp → Prop) : Prop :=
 (d0k = true →
 K (a4C && (decide (m7.fexprs = 0 ∧ m7.fconds = 1))) H) ∧
 (d0k = false →
 (g4L = 7 →
 K (a4C && (decide (m7.fexprs = 0 ∧ m7.fconds = 0))) H) ∧
 (¬ (g4L = 7) →
 K false H))
def a5N (x0 : W3) (H : Hp) (K : Bool → Hp → Prop) : Prop :=
 (x0.k9.b6 = 1 →
 K ((!(decide (0 < (IntKind.wrap .i64 ((x0.k9.v7.n : Int) + (x0.k9.t7.n : Int)))))) && (decide ((x0.k9.i6.n : Int) = 1 ∧ (x0.k9.m9.n : Int) = 0))) H) ∧
 (¬ (x0.k9.b6 = 1) →
 (x0.k9.b6 = 2 →
 K ((!(decide (0 < (IntKind.wrap .i64 ((x0.k9.v7.n : Int) + (x0.k9.t7.n : Int)))))) && (decide ((x0.k9.i6.n : Int) = 2 ∧ (x0.k9.m9.n : Int) = 0))) H) ∧
 (¬ (x0.k9.b6 = 2) →
 (x0.k9.b6 = 3 →
 K ((decide (x0.k9.g7 = ⟨#[]⟩)) && (decide ((x0.k9.i6.n : Int) = 0 ∧ (x0.k9.m9.n : Int) = 1))) H) ∧
 (¬ (x0.k9.b6 = 3) →
 (x0.k9.b6 = 4 →
 K (((decide (x0.k9.g7 = ⟨#[]⟩)) && (decide ((x0.k9.t7.n : Int) = 0))) && (decide ((x0.k9.i6.n : Int) = 0 ∧ (x0.k9.m9.n : Int) = 1))) H) ∧
 (¬ (x0.k9.b6 = 4) →
 (x0.k9.b6 = 5 →
 V9 ((decide (x0.k9.g7 = ⟨#[]⟩)) && (!(decide (0 < (IntKind.wrap .i64 ((x0.k9.v7.n : Int) + (x0.k9.t7.n : Int))))))) x0.k9.b6 (decide (x0.k9.b6 = 5)) (X0.mk (x0.k9.i6.n : Int) (x0.k9.m9.n : Int)) x0 H K) ∧
 (¬ (x0.k9.b6 = 5) →
 V9 ((decide (x0.k9.g7 = ⟨#[]⟩)) && (!(decide (0 < (IntKind.wrap .i64 ((x0.k9.v7.n : Int) + (x0.k9.t7.n : Int))))))) x0.k9.b6 (decide (x0.k9.b6 = 6)) (X0.mk (x0.k9.i6.n : Int) (x0.k9.m9.n : Int)) x0 H K)))))
theorem c1h (x0 : W3) {K : Bool → Hp → Prop} (I : Inv w0 ps0 H0 H [] w) (hR : ∀ (r0 : Bool) (H' : Hp) (w' : World) (_ : Inv w0 ps0 H0 H' [] w') (_ : K r0 H'), R (vB r0) w') (h : a5N x0 H K) : e8I (Value.agg (g8 x0.k9).toArray) w R E := by
 unfold a5N at h
 unfold e8I
 refine J5 I (cs := (g8 x0.k9)) rfl fun g_2 w_3 I_4 k_5 => ?_
 refine a7 V1 ?_
 refine a7 Y7 ?_
 refine f7 (ld1 Tryz.isAgg23 (I_4.at1 (o := 4) (vs := [(vs x0.k9.v7)]) (nb rfl) rfl)) ?_
 refine a7 (W4 _ _ _) ?_
 refine a7 V1 ?_
 refine a7 W5 ?_
 refine f7 (ld1 Tryz.isAgg23 (I_4.at1 (o := 5) (vs := [(vs x0.k9.t7)]) (nb rfl) rfl)) ?_
 refine a7 (W4 _ _ _) ?_
 refine a7 (y6 _ _ _ _ _ _) ?_
 refine a7 (a4M _ _ _ _ _ _) ?_
 refine a7 V1 ?_
 refine a7 R8 ?_
 refine f7 (ld1 Tryz.isAgg51 (I_4.at1 (o := 2) (vs := [(vs x0.k9.i6)]) (nb rfl) rfl)) ?_
 refine a7 (J3 _ _ _) ?_
 refine a7 V1 ?_
 refine a7 M3 ?_
 refine f7 (ld1 Tryz.isAgg57 (I_4.at1 (o := 3) (vs := [(vs x0.k9.m9)]) (nb rfl) rfl)) ?_
 refine a7 (U9 _ _ _) ?_
 refine a7 (a8x _ _) ?_
 refine z7 I_4 Tryz.zeroValue240 (cs := [(vi 0), (vi 0)]) rfl fun g_7 w_8 I_9 b0M => ?_
 refine m6 I_9 Tryz.sizeOf240 (vs := [(vi (x0.k9.i6.n : Int)), (vi (x0.k9.m9.n : Int))]) (cs' := [(vi (x0.k9.i6.n : Int)), (vi (x0.k9.m9.n : Int))]) rfl rfl (nb rfl) rfl rfl fun P0 B1 b6Y => ?_
 refine a7 V1 ?_
 refine a7 a9t ?_
 refine f7 (ld1 Tryz.isAgg9 ((B1.bring 1).at1 (o := 1) (vs := [(Value.string x0.k9.g7)]) (nb rfl) rfl)) ?_
 refine a7 (W2 _ _ _ _ _) ?_
 simp only [u5]
 refine a7 (Pu.g fun hb => by have b9 := hb; simp only [i7 b9]; exact (T4 _)) ?_
 refine a7 (s7 _ _) ?_
 refine a7 V1 ?_
 refine a7 O4 ?_
 refine f7 (ld1 Tryz.isAgg3 ((B1.bring 1).at1 (o := 0) (vs := [(vi x0.k9.b6)]) (nb rfl) rfl)) ?_
 refine a7 (i8 _ _ _ _ _ _) ?_
 refine k7 (fun a8M => ?_) (fun a8M => ?_)
 ·replace h := h.1 a8M
  refine a7 (T4 _) ?_
  refine f7 (Ld.g fun hb => by have b9 := hb; exact (ldA Tryz.isAgg240 Tryz.sizeOf240 rfl (B1.at1 (o := 0) (vs := [(vi (x0.k9.i6.n : Int)), (vi (x0.k9.m9.n : Int))]) (nb rfl) rfl))) ?_
  refine a7 (Pu.g fun hb => by have b9 := hb; exact (a8x _ _)) ?_
  refine a7 (Pu.g fun hb => by have b9 := hb; simp only [i7 b9]; exact (b4Y _ _ _ _ _ _)) ?_
  refine a7 (s7 _ _) ?_
  exact hR ((!(decide (0 < (IntKind.wrap .i64 ((x0.k9.v7.n : Int) + (x0.k9.t7.n : Int)))))) && (decide ((x0.k9.i6.n : Int) = 1 ∧ (x0.k9.m9.n : Int) = 0))) H _ B1.drop.drop h
 ·replace h := h.2 a8M
  refine a7 (i8 _ _ _ _ _ _) ?_
  refine k7 (fun c1d => ?_) (fun c1d => ?_)
  ·replace h := h.1 c1d
   refine a7 (T4 _) ?_
   refine f7 (Ld.g fun hb => by have b9 := hb; exact (ldA Tryz.isAgg240 Tryz.sizeOf240 rfl (B1.at1 (o := 0) (vs := [(vi (x0.k9.i6.n : Int)), (vi (x0.k9.m9.n : Int))]) (nb rfl) rfl))) ?_
   refine a7 (Pu.g fun hb => by have b9 := hb; exact (a8x _ _)) ?_
   refine a7 (Pu.g fun hb => by have b9 := hb; simp only [i7 b9]; exact (b4Y _ _ _ _ _ _)) ?_
   refine a7 (s7 _ _) ?_
   exact hR ((!(decide (0 < (IntKind.wrap .i64 ((x0.k9.v7.n : Int) + (x0.k9.t7.n : Int)))))) && (decide ((x0.k9.i6.n : Int) = 2 ∧ (x0.k9.m9.n : Int) = 0))) H _ B1.drop.drop h
  ·replace h := h.2 c1d
   refine a7 (i8 _ _ _ _ _ _) ?_
   refine k7 (fun c1g => ?_) (fun c1g => ?_)
   ·replace h := h.1 c1g
    refine a7 V1 ?_
    refine a7 a9t ?_
    refine f7 (ld1 Tryz.isAgg9 ((B1.bring 1).at1 (o := 1) (vs := [(Value.string x0.k9.g7)]) (nb rfl) rfl)) ?_
    refine a7 (W2 _ _ _ _ _) ?_
    refine f7 (Ld.g fun hb => by have b9 := hb; exact (ldA Tryz.isAgg240 Tryz.sizeOf240 rfl (B1.at1 (o := 0) (vs := [(vi (x0.k9.i6.n : Int)), (vi (x0.k9.m9.n : Int))]) (nb rfl) rfl))) ?_
    refine a7 (Pu.g fun hb => by have b9 := hb; exact (a8x _ _)) ?_
    refine a7 (Pu.g fun hb => by have b9 := hb; simp only [i7 b9]; exact (b4Y _ _ _ _ _ _)) ?_
    refine a7 (s7 _ _) ?_
    exact hR ((decide (x0.k9.g7 = ⟨#[]⟩)) && (decide ((x0.k9.i6.n : Int) = 0 ∧ (x0.k9.m9.n : Int) = 1))) H _ B1.drop.drop h
   ·replace h := h.2 c1g
    refine a7 (i8 _ _ _ _ _ _) ?_
    refine k7 (fun b4J => ?_) (fun b4J => ?_)
    ·replace h := h.1 b4J
     refine a7 V1 ?_
     refine a7 a9t ?_
     refine f7 (ld1 Tryz.isAgg9 ((B1.bring 1).at1 (o := 1) (vs := [(Value.string x0.k9.g7)]) (nb rfl) rfl)) ?_
     refine a7 (W2 _ _ _ _ _) ?_
     refine a7 (Pu.g fun hb => by have b9 := hb; exact V1) ?_
     refine a7 (Pu.g fun hb => by have b9 := hb; simp only [i7 b9]; exact W5) ?_
     refine f7 (Ld.g fun hb => by have b9 := hb; simp only [i7 b9]; exact (ld1 Tryz.isAgg23 ((B1.bring 1).at1 (o := 5) (vs := [(vs x0.k9.t7)]) (nb rfl) rfl))) ?_
     refine a7 (Pu.g fun hb => by have b9 := hb; simp only [i7 b9]; exact (W4 _ _ _)) ?_
     refine a7 (Pu.g fun hb => by have b9 := hb; simp only [i7 b9]; exact (i8 _ _ _ _ _ _)) ?_
     refine a7 (s7 _ _) ?_
     refine f7 (Ld.g fun hb => by have b9 := hb; exact (ldA Tryz.isAgg240 Tryz.sizeOf240 rfl (B1.at1 (o := 0) (vs := [(vi (x0.k9.i6.n : Int)), (vi (x0.k9.m9.n : Int))]) (nb rfl) rfl))) ?_
     refine a7 (Pu.g fun hb => by have b9 := hb; exact (a8x _ _)) ?_
     refine a7 (Pu.g fun hb => by have b9 := hb; simp only [i7 b9]; exact (b4Y _ _ _ _ _ _)) ?_
     refine a7 (s7 _ _) ?_
     exact hR (((decide (x0.k9.g7 = ⟨#[]⟩)) && (decide ((x0.k9.t7.n : Int) = 0))) && (decide ((x0.k9.i6.n : Int) = 0 ∧ (x0.k9.m9.n : Int) = 1))) H _ B1.drop.drop h
    ·replace h := h.2 b4J
     have hj1 : ∀ (d0k : Bool) (H : Hp) (w : World) (_ : Inv w0 ps0 H0 H [bx g_7 240 [(vi (X0.mk (x0.k9.i6.n : Int) (x0.k9.m9.n : Int)).fexprs), (vi (X0.mk (x0.k9.i6.n : Int) (x0.k9.m9.n : Int)).fconds)], bx g_2 184 (g8 x0.k9)] w) (_ : V9 ((decide (x0.k9.g7 = ⟨#[]⟩)) && (!(decide (0 < (IntKind.wrap .i64 ((x0.k9.v7.n : Int) + (x0.k9.t7.n : Int))))))) x0.k9.b6 d0k (X0.mk (x0.k9.i6.n : Int) (x0.k9.m9.n : Int)) x0 H K), d6Q (Value.pointer (some ⟨g_7, 0, none⟩)) (vB ((decide (x0.k9.g7 = ⟨#[]⟩)) && (!(decide (0 < (IntKind.wrap .i64 ((x0.k9.v7.n : Int) + (x0.k9.t7.n : Int)))))))) (vi x0.k9.b6) (vB d0k) w R E := by
      intro d0k H w I h
      unfold d6Q
      intro _
      unfold V9 at h
      refine o0 (fun b1v => ?_) (fun b1v => ?_)
      ·replace h := h.1 b1v
       refine f7 (Ld.g fun hb => by have b9 := hb; exact (ldA Tryz.isAgg240 Tryz.sizeOf240 rfl (I.at1 (o := 0) (vs := [(vi (X0.mk (x0.k9.i6.n : Int) (x0.k9.m9.n : Int)).fexprs), (vi (X0.mk (x0.k9.i6.n : Int) (x0.k9.m9.n : Int)).fconds)]) (nb rfl) rfl))) ?_
       refine a7 (Pu.g fun hb => by have b9 := hb; exact (a8x _ _)) ?_
       refine a7 (Pu.g fun hb => by have b9 := hb; simp only [i7 b9]; exact (b4Y _ _ _ _ _ _)) ?_
       refine a7 (s7 _ _) ?_
       exact hR (((decide (x0.k9.g7 = ⟨#[]⟩)) && (!(decide (0 < (IntKind.wrap .i64 ((x0.k9.v7.n : Int) + (x0.k9.t7.n : Int))))))) && (decide ((X0.mk (x0.k9.i6.n : Int) (x0.k9.m9.n : Int)).fexprs = 0 ∧ (X0.mk (x0.k9.i6.n : Int) (x0.k9.m9.n : Int)).fconds = 1))) H _ I.drop.drop h
      ·replace h := h.2 b1v
       refine a7 (i8 _ _ _ _ _ _) ?_
       refine k7 (fun c1f => ?_) (fun c1f => ?_)
       ·replace h := h.1 c1f
        refine f7 (Ld.g fun hb => by have b9 := hb; exact (ldA Tryz.isAgg240 Tryz.sizeOf240 rfl (I.at1 (o := 0) (vs := [(vi (X0.mk (x0.k9.i6.n : Int) (x0.k9.m9.n : Int)).fexprs), (vi (X0.mk (x0.k9.i6.n : Int) (x0.k9.m9.n : Int)).fconds)]) (nb rfl) rfl))) ?_
        refine a7 (Pu.g fun hb => by have b9 := hb; exact (e8b )) ?_
        refine a7 (Pu.g fun hb => by have b9 := hb; simp only [i7 b9]; exact (b4Y _ _ _ _ _ _)) ?_
        refine a7 (s7 _ _) ?_
        exact hR (((decide (x0.k9.g7 = ⟨#[]⟩)) && (!(decide (0 < (IntKind.wrap .i64 ((x0.k9.v7.n : Int) + (x0.k9.t7.n : Int))))))) && (decide ((X0.mk (x0.k9.i6.n : Int) (x0.k9.m9.n : Int)).fexprs = 0 ∧ (X0.mk (x0.k9.i6.n : Int) (x0.k9.m9.n : Int)).fconds = 0))) H _ I.drop.drop h
       ·replace h := h.2 c1f
        exact hR false H _ I.drop.drop h
     refine t6 fun j1 hx1 => ?_
     refine a7 (i8 _ _ _ _ _ _) ?_
     refine k7 (fun c1e => ?_) (fun c1e => ?_)
     ·replace h := h.1 c1e
      exact hx1 _ _ (hj1 (decide (x0.k9.b6 = 5)) H _ ((B1.bring 1).bring 1) h)
     ·replace h := h.2 c1e
      refine a7 (i8 _ _ _ _ _ _) ?_
      exact hx1 _ _ (hj1 (decide (x0.k9.b6 = 6)) H _ ((B1.bring 1).bring 1) h)
theorem c2k (x0 : W3) {H : Hp} {K : Bool → Hp → Prop} (h : a5N x0 H K) : a9h x0 H K := by
 intro w I
 refine g9q ?_
 refine c1h x0 I (fun r0 H' w' I' hk => ⟨H', _, I', r0, rfl, rfl, hk⟩) h
def a5k (x0 : W3) (H : Hp) (K : Sl → Hp → Prop) : Prop :=
 I8 x0.k9.m9 H (fun (o6 : Sl) (H_8 : Hp) =>
 C3 x0.k9.i6 H_8 (fun (o7 : Sl) (b2f : Hp) =>
 C2 x0.k9.v7 b2f (fun (e9N : Sl) (c8Z : Hp) =>
 C2 x0.k9.t7 c8Z (fun (b7T : Sl) (b8Y : Hp) =>
 ∀ (c9a : Sl) (e2z : Hp), Hle b8Y e2z → SlH e2z 1 csl c9a [o6, o7, e9N, b7T] → c9a.n ≤ c9a.c →
 I2 c9a e2z (fun (c2V : Sl) (d2G : Hp) =>
 K c2V d2G)))))
theorem b9A (x0 : W3) {K : Sl → Hp → Prop} (I : Inv w0 ps0 H0 H [] w) (hR : ∀ (r0 : Sl) (H' : Hp) (w' : World) (_ : Inv w0 ps0 H0 H' [] w') (_ : K r0 H'), R (vs r0) w') (h : a5k x0 H K) : e8J (Value.agg (g8 x0.k9).toArray) w R E := by
 unfold a5k at h
 unfold e8J
 refine J5 I (cs := (g8 x0.k9)) rfl fun g_2 w_3 I_4 k_5 => ?_
 refine a5z I_4 fun w_6 I_7 => ?_
 refine q9 V1 ?_
 refine q9 M3 ?_
 refine q9 V1 ?_
 refine q9 R8 ?_
 refine q9 V1 ?_
 refine q9 Y7 ?_
 refine q9 V1 ?_
 refine q9 W5 ?_
 refine A5 (ld1 Tryz.isAgg57 (I_7.at1 (o := 3) (vs := [(vs x0.k9.m9)]) (nb rfl) rfl)) ?_
 refine A5 (ld1 Tryz.isAgg51 (I_7.at1 (o := 2) (vs := [(vs x0.k9.i6)]) (nb rfl) rfl)) ?_
 refine A5 (ld1 Tryz.isAgg23 (I_7.at1 (o := 4) (vs := [(vs x0.k9.v7)]) (nb rfl) rfl)) ?_
 refine A5 (ld1 Tryz.isAgg23 (I_7.at1 (o := 5) (vs := [(vs x0.k9.t7)]) (nb rfl) rfl)) ?_
 refine g9 (cap := []) (fun args w => Tryz.call193 args w) ?_
 refine l7 (Fi := []) (Fr := [bx g_2 184 (g8 x0.k9)]) I_7 (h) (fun f9s H_8 f9t w_9 b2N c5X c0N d2i => ?_) (fun _ _ _ _ _ q => q.elim)
 obtain ⟨o6, rfl, rfl, h⟩ := d2i
 refine ⟨(c0N _ I_7.lt1 (Inv.a3h (Fi := []) I_7)), (c0N _ I_7.lt1 (Inv.a3h (Fi := []) I_7)), (c0N _ I_7.lt1 (Inv.a3h (Fi := []) I_7)), ?_⟩
 refine g9 (cap := []) (fun args w => Tryz.call189 args w) ?_
 refine l7 (Fi := []) (Fr := [bx g_2 184 (g8 x0.k9)]) b2N (h) (fun f9u b2f f9v s8 c0O f9w d7d d2j => ?_) (fun _ _ _ _ _ q => q.elim)
 obtain ⟨o7, rfl, rfl, h⟩ := d2j
 refine ⟨(d7d _ b2N.lt1 (Inv.a3h (Fi := []) b2N)), (d7d _ b2N.lt1 (Inv.a3h (Fi := []) b2N)), ?_⟩
 refine g9 (cap := []) (fun args w => Tryz.call78 args w) ?_
 refine l7 (Fi := []) (Fr := [bx g_2 184 (g8 x0.k9)]) c0O (h) (fun l0N c8Z l0O a3k c8Q l0P f9r k2f => ?_) (fun _ _ _ _ _ q => q.elim)
 obtain ⟨e9N, rfl, rfl, h⟩ := k2f
 refine ⟨(f9r _ c0O.lt1 (Inv.a3h (Fi := []) c0O)), ?_⟩
 refine g9 (cap := []) (fun args w => Tryz.call78 args w) ?_
 refine l7 (Fi := []) (Fr := [bx g_2 184 (g8 x0.k9)]) c8Q (h) (fun k2g b8Y k2h I7 f9W k2i k2j f9X => ?_) (fun _ _ _ _ _ q => q.elim)
 obtain ⟨b7T, rfl, rfl, h⟩ := f9X
 refine a5A (e := 137) (c := csl) (xs := [o6, o7, e9N, b7T]) f9W (f8F _ _ _ _ _ _ _ _ _ _ _ _) rfl rfl d8w d8x (nb rfl) fun c9a l0Q b5A f9Y e2h i3k => ?_
 obtain ⟨e2z, c0J, e2A, c3J, c9b⟩ := Inv.freezeC e2h f9Y (by decide)
 replace h := h c9a e2z e2A c3J c9b
 refine g9 (cap := []) (fun args w => Tryz.call75 args w) ?_
 refine l7 (Fi := []) (Fr := [bx g_2 184 (g8 x0.k9)]) c0J (h) (fun k2k d2G k2l c3x b7u e2j c9c f9Z => ?_) (fun _ _ _ _ _ q => q.elim)
 obtain ⟨c2V, rfl, rfl, h⟩ := f9Z
 exact hR c2V d2G _ b7u.drop h
theorem c1i (x0 : W3) {H : Hp} {K : Sl → Hp → Prop} (h : a5k x0 H K) : b2I x0 H K := by
 intro w I
 refine g9s ?_
 refine b9A x0 I (fun r0 H' w' I' hk => ⟨H', _, I', r0, rfl, rfl, hk⟩) h
end Go.Proofs.YtnhkdkcgdcgmdaaGreatDoor
