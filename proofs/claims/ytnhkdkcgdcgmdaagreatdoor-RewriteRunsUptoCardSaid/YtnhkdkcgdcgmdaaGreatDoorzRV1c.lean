/- Typed formulas of the program's functions, and the theorems that the contracts follow from them; printed by lift.py off the code. -/
import Derived.Test.YtnhkdkcgdcgmdaaGreatDoorzRV1
namespace Go.Proofs.YtnhkdkcgdcgmdaaGreatDoor
open Go.RowKit
set_option maxRecDepth 100000
set_option maxHeartbeats 2000000
variable {w0 w : World} {ps0 : Nat → Prop} {H0 H : Hp} {R : RT} {E : Pan}
def a4O (x0 : Int) (H : Hp) (K : Bool → Hp → Prop) : Prop :=
 a4K x0 H (fun (M7 : Int) (H_1 : Hp) =>
 K ((decide (M7 = 3)) || (decide (M7 = 4))) H_1)
theorem b7I (x0 : Int) {K : Bool → Hp → Prop} (I : Inv w0 ps0 H0 H [] w) (hR : ∀ (r0 : Bool) (H' : Hp) (w' : World) (_ : Inv w0 ps0 H0 H' [] w') (_ : K r0 H'), R (vB r0) w') (h : a4O x0 H K) : d7n (Value.int .i32 x0) w R E := by
 unfold a4O at h
 unfold d7n
 refine d8 (cap := []) (fun args w => Tryz.call166 args w) ?_
 refine o0 (Fi := []) (Fr := []) I (h) (fun v_5 H_1 F_6 w_2 I_3 l_8 k_4 q_7 => ?_) (fun _ _ _ _ _ q => q.elim)
 obtain ⟨M7, rfl, rfl, h⟩ := q_7
 refine a7 (o2 _ _ _ _ _ _) ?_
 simp only [O5]
 refine a7 (Pu.g fun hb => by have i5 := hb; simp only [s8 i5]; exact (o2 _ _ _ _ _ _)) ?_
 refine a7 (a1d _ _) ?_
 exact hR ((decide (M7 = 3)) || (decide (M7 = 4))) H_1 _ I_3 h
theorem b8R (x0 : Int) {H : Hp} {K : Bool → Hp → Prop} (h : a4O x0 H K) : a7o x0 H K := by
 intro w I
 refine f1F ?_
 refine b7I x0 I (fun r0 H' w' I' hk => ⟨H', _, I', r0, rfl, rfl, hk⟩) h
def u6 (B6 : Bool) (H : Hp) (K : Bool → Hp → Prop) : Prop :=
 (B6 = true →
 K true H) ∧
 (B6 = false →
 K false H)
def a5Q (x0 : ByteArray) (H : Hp) (K : Bool → Hp → Prop) : Prop :=
 (x0 = ⟨#[118, 97, 114]⟩ →
 u6 (decide (x0 = ⟨#[118, 97, 114]⟩)) H K) ∧
 (¬ (x0 = ⟨#[118, 97, 114]⟩) →
 (x0 = ⟨#[97, 114, 114, 97, 121]⟩ →
 u6 (decide (x0 = ⟨#[97, 114, 114, 97, 121]⟩)) H K) ∧
 (¬ (x0 = ⟨#[97, 114, 114, 97, 121]⟩) →
 (x0 = ⟨#[105, 102]⟩ →
 u6 (decide (x0 = ⟨#[105, 102]⟩)) H K) ∧
 (¬ (x0 = ⟨#[105, 102]⟩) →
 (x0 = ⟨#[101, 108, 115, 101]⟩ →
 u6 (decide (x0 = ⟨#[101, 108, 115, 101]⟩)) H K) ∧
 (¬ (x0 = ⟨#[101, 108, 115, 101]⟩) →
 (x0 = ⟨#[119, 104, 105, 108, 101]⟩ →
 u6 (decide (x0 = ⟨#[119, 104, 105, 108, 101]⟩)) H K) ∧
 (¬ (x0 = ⟨#[119, 104, 105, 108, 101]⟩) →
 (x0 = ⟨#[97, 115, 115, 101, 114, 116]⟩ →
 u6 (decide (x0 = ⟨#[97, 115, 115, 101, 114, 116]⟩)) H K) ∧
 (¬ (x0 = ⟨#[97, 115, 115, 101, 114, 116]⟩) →
 (x0 = ⟨#[97, 115, 115, 117, 109, 101]⟩ →
 u6 (decide (x0 = ⟨#[97, 115, 115, 117, 109, 101]⟩)) H K) ∧
 (¬ (x0 = ⟨#[97, 115, 115, 117, 109, 101]⟩) →
 (x0 = ⟨#[115, 107, 105, 112]⟩ →
 u6 (decide (x0 = ⟨#[115, 107, 105, 112]⟩)) H K) ∧
 (¬ (x0 = ⟨#[115, 107, 105, 112]⟩) →
 (x0 = ⟨#[105, 110, 112, 117, 116]⟩ →
 u6 (decide (x0 = ⟨#[105, 110, 112, 117, 116]⟩)) H K) ∧
 (¬ (x0 = ⟨#[105, 110, 112, 117, 116]⟩) →
 (x0 = ⟨#[116, 114, 117, 101]⟩ →
 u6 (decide (x0 = ⟨#[116, 114, 117, 101]⟩)) H K) ∧
 (¬ (x0 = ⟨#[116, 114, 117, 101]⟩) →
 u6 (decide (x0 = ⟨#[102, 97, 108, 115, 101]⟩)) H K))))))))))
theorem b9Y (x0 : ByteArray) {K : Bool → Hp → Prop} (I : Inv w0 ps0 H0 H [] w) (hR : ∀ (r0 : Bool) (H' : Hp) (w' : World) (_ : Inv w0 ps0 H0 H' [] w') (_ : K r0 H'), R (vB r0) w') (h : a5Q x0 H K) : d7m (Value.string x0) w R E := by
 unfold a5Q at h
 unfold d7m
 have hj1 : ∀ (B6 : Bool) (H : Hp) (w : World) (_ : Inv w0 ps0 H0 H [] w) (_ : u6 B6 H K), c6z (vB B6) w R E := by
  intro B6 H w I h
  unfold c6z
  intro _
  unfold u6 at h
  refine u0 (fun c_1 => ?_) (fun c_1 => ?_)
  ·replace h := h.1 c_1
   exact hR true H _ I h
  ·replace h := h.2 c_1
   exact hR false H _ I h
 refine A7 fun j1 hx1 => ?_
 refine a7 (a4b _ _ _ _ _) ?_
 refine j8 (fun b3N => ?_) (fun b3N => ?_)
 ·replace h := h.1 b3N
  exact hx1 _ _ (hj1 (decide (x0 = ⟨#[118, 97, 114]⟩)) H _ I h)
 ·replace h := h.2 b3N
  refine a7 (a4b _ _ _ _ _) ?_
  refine j8 (fun e5A => ?_) (fun e5A => ?_)
  ·replace h := h.1 e5A
   exact hx1 _ _ (hj1 (decide (x0 = ⟨#[97, 114, 114, 97, 121]⟩)) H _ I h)
  ·replace h := h.2 e5A
   refine a7 (a4b _ _ _ _ _) ?_
   refine j8 (fun c_9 => ?_) (fun c_9 => ?_)
   ·replace h := h.1 c_9
    exact hx1 _ _ (hj1 (decide (x0 = ⟨#[105, 102]⟩)) H _ I h)
   ·replace h := h.2 c_9
    refine a7 (a4b _ _ _ _ _) ?_
    refine j8 (fun c_8 => ?_) (fun c_8 => ?_)
    ·replace h := h.1 c_8
     exact hx1 _ _ (hj1 (decide (x0 = ⟨#[101, 108, 115, 101]⟩)) H _ I h)
    ·replace h := h.2 c_8
     refine a7 (a4b _ _ _ _ _) ?_
     refine j8 (fun c_7 => ?_) (fun c_7 => ?_)
     ·replace h := h.1 c_7
      exact hx1 _ _ (hj1 (decide (x0 = ⟨#[119, 104, 105, 108, 101]⟩)) H _ I h)
     ·replace h := h.2 c_7
      refine a7 (a4b _ _ _ _ _) ?_
      refine j8 (fun c_6 => ?_) (fun c_6 => ?_)
      ·replace h := h.1 c_6
       exact hx1 _ _ (hj1 (decide (x0 = ⟨#[97, 115, 115, 101, 114, 116]⟩)) H _ I h)
      ·replace h := h.2 c_6
       refine a7 (a4b _ _ _ _ _) ?_
       refine j8 (fun c_5 => ?_) (fun c_5 => ?_)
       ·replace h := h.1 c_5
        exact hx1 _ _ (hj1 (decide (x0 = ⟨#[97, 115, 115, 117, 109, 101]⟩)) H _ I h)
       ·replace h := h.2 c_5
        refine a7 (a4b _ _ _ _ _) ?_
        refine j8 (fun c_4 => ?_) (fun c_4 => ?_)
        ·replace h := h.1 c_4
         exact hx1 _ _ (hj1 (decide (x0 = ⟨#[115, 107, 105, 112]⟩)) H _ I h)
        ·replace h := h.2 c_4
         refine a7 (a4b _ _ _ _ _) ?_
         refine j8 (fun c_3 => ?_) (fun c_3 => ?_)
         ·replace h := h.1 c_3
          exact hx1 _ _ (hj1 (decide (x0 = ⟨#[105, 110, 112, 117, 116]⟩)) H _ I h)
         ·replace h := h.2 c_3
          refine a7 (a4b _ _ _ _ _) ?_
          refine j8 (fun c_2 => ?_) (fun c_2 => ?_)
          ·replace h := h.1 c_2
           exact hx1 _ _ (hj1 (decide (x0 = ⟨#[116, 114, 117, 101]⟩)) H _ I h)
          ·replace h := h.2 c_2
           refine a7 (a4b _ _ _ _ _) ?_
           exact hx1 _ _ (hj1 (decide (x0 = ⟨#[102, 97, 108, 115, 101]⟩)) H _ I h)
theorem c1W (x0 : ByteArray) {H : Hp} {K : Bool → Hp → Prop} (h : a5Q x0 H K) : a4e x0 H K := by
 intro w I
 refine f1D ?_
 refine b9Y x0 I (fun r0 H' w' I' hk => ⟨H', _, I', r0, rfl, rfl, hk⟩) h
def X2 (x0 : (List ByteArray)) (x1 : ByteArray) (H : Hp) (K : Bool → Hp → Prop) : Prop :=
 a2N x0 x1 H (fun (M7 : Int) (H_1 : Hp) =>
 K (decide (0 ≤ M7)) H_1)
theorem a9u (x0 : (List ByteArray)) (x1 : ByteArray) (sx0 : Sl) (Fx0 : Frag) (hx0 : RowL 9 1 M3 sx0 x0 Fx0) {K : Bool → Hp → Prop} (I : Inv w0 ps0 H0 H [Fx0] w) (hR : ∀ (r0 : Bool) (H' : Hp) (w' : World) (_ : Inv w0 ps0 H0 H' [Fx0] w') (_ : K r0 H'), R (vB r0) w') (h : X2 x0 x1 H K) : d7k (vs sx0) (Value.string x1) w R E := by
 unfold X2 at h
 unfold d7k
 refine d8 (cap := []) (fun args w => Tryz.call167 args w) ?_
 refine o0 (Fi := [Fx0]) (Fr := []) I (h sx0 Fx0 hx0) (fun v_5 H_1 F_6 w_2 I_3 l_8 k_4 q_7 => ?_) (fun _ _ _ _ _ q => q.elim)
 obtain ⟨M7, rfl, rfl, h⟩ := q_7
 refine a7 (b6n _ _ _ _ _ _) ?_
 exact hR (decide (0 ≤ M7)) H_1 _ I_3 h
theorem a9T (x0 : (List ByteArray)) (x1 : ByteArray) {H : Hp} {K : Bool → Hp → Prop} (h : X2 x0 x1 H K) : R0 x0 x1 H K := by
 intro sx0 Fx0 hx0 w I
 refine f1z ?_
 refine a9u x0 x1 sx0 Fx0 hx0 I (fun r0 H' w' I' hk => ⟨H', _, I', r0, rfl, rfl, hk⟩) h
def C2 (b3e : Int) (b3f : Int) (b3g : Int) (b3h : Bool) (b3i : Bool) (b0V : (List ByteArray)) (H : Hp) (K : Bool → l9 → (List ByteArray) → Hp → Prop) : Prop :=
 K true (l9.mk b3e b3f b3g b3h b3i (Sl.mk none 0 0)) b0V H
def a0L (x0 : l9) (a0T : (List ByteArray)) (x1 : d9) (x2 : Int) (H : Hp) (K : Bool → l9 → (List ByteArray) → Hp → Prop) : Prop :=
 (4096 < (IntKind.wrap .i64 (x0.fnodes + 1)) →
 K false (l9.mk (IntKind.wrap .i64 (x0.fnodes + 1)) x0.fdepth 33 x0.fform x0.fnamed (Sl.mk none 0 0)) a0T H) ∧
 (¬ (4096 < (IntKind.wrap .i64 (x0.fnodes + 1))) →
 (64 < x2 →
 K false (l9.mk (IntKind.wrap .i64 (x0.fnodes + 1)) x0.fdepth 32 x0.fform x0.fnamed (Sl.mk none 0 0)) a0T H) ∧
 (¬ (64 < x2) →
 TG (x0.fform = false) (a6K x1 H) false H (fun (L8 : Bool) (a1Z : Hp) =>
 a3D x1 a1Z (fun (u1 : ByteArray) (b7J : Bool) (a1w : Hp) =>
 (b7J = true →
 TG (x0.fnamed = false) (a5L u1 a1w) false a1w (fun (Y8 : Bool) (b0m : Hp) =>
 R0 a0T u1 b0m (fun (i8 : Bool) (a0W : Hp) =>
 ((!i8) = true →
 (a0T.length + ([u1] : List ByteArray).length) * 17 ≤ 140737488355328 ∧
 C2 (IntKind.wrap .i64 (x0.fnodes + 1)) (if x2 > x0.fdepth then x2 else x0.fdepth) x0.fe (x0.fform || (!L8)) (x0.fnamed || (!Y8)) (a0T ++ [u1]) a0W K) ∧
 ((!i8) = false →
 C2 (IntKind.wrap .i64 (x0.fnodes + 1)) (if x2 > x0.fdepth then x2 else x0.fdepth) x0.fe (x0.fform || (!L8)) (x0.fnamed || (!Y8)) a0T a0W K)))) ∧
 (b7J = false →
 C2 (IntKind.wrap .i64 (x0.fnodes + 1)) (if x2 > x0.fdepth then x2 else x0.fdepth) x0.fe (x0.fform || (!L8)) x0.fnamed a0T a1w K)))))
theorem b1R (x0 : l9) (a0T : (List ByteArray)) (x1 : d9) (x2 : Int) (g0 : Nat) (a0w : Sl) (a5h : Frag) (b5d : RowL 9 1 M3 a0w a0T a5h) {K : Bool → l9 → (List ByteArray) → Hp → Prop} (I : Inv w0 ps0 H0 H [bx g0 101 [(vi x0.fnodes), (vi x0.fdepth), (vi x0.fe), (vB x0.fform), (vB x0.fnamed), (vs a0w)], a5h] w) (hR : ∀ (r0 : Bool) (y0 : l9) (a9k : (List ByteArray)) (a6D : Sl) (a6E : Frag) (H' : Hp) (w' : World) (_ : RowL 9 1 M3 a6D a9k a6E) (_ : Inv w0 ps0 H0 H' [bx g0 101 [(vi y0.fnodes), (vi y0.fdepth), (vi y0.fe), (vB y0.fform), (vB y0.fnamed), (vs a6D)], a6E] w') (_ : K r0 y0 a9k H'), R (vB r0) w') (h : a0L x0 a0T x1 x2 H K) : d7g (Value.pointer (some ⟨g0, 0, none⟩)) (D1 x1) (vi x2) w R E := by
 unfold a0L at h
 unfold d7g
 refine a7 (A0 _) ?_
 refine a7 b5t ?_
 refine d7 (ld1 Tryz.isAgg3 (I.at1 (o := 0) (vs := [(vi x0.fnodes)]) (nb rfl) rfl)) ?_
 refine a7 (L6 _ _ _ _ _ _) ?_
 refine a7 (A0 _) ?_
 refine a7 b5t ?_
 refine m7 I Tryz.sizeOf3 (vs := [(vi (IntKind.wrap .i64 (x0.fnodes + 1)))]) (cs' := [(vi (IntKind.wrap .i64 (x0.fnodes + 1))), (vi x0.fdepth), (vi x0.fe), (vB x0.fform), (vB x0.fnamed), (vs a0w)]) rfl rfl (nb rfl) rfl rfl fun w_1 I_2 k_3 => ?_
 refine a7 (A0 _) ?_
 refine a7 b5t ?_
 refine d7 (ld1 Tryz.isAgg3 (I_2.at1 (o := 0) (vs := [(vi (IntKind.wrap .i64 (x0.fnodes + 1)))]) (nb rfl) rfl)) ?_
 refine a7 (a3B _ _ _ _ _ _) ?_
 refine j8 (fun b3O => ?_) (fun b3O => ?_)
 ·replace h := h.1 b3O
  refine a7 (A0 _) ?_
  refine a7 a5r ?_
  refine m7 I_2 Tryz.sizeOf27 (vs := [(vi 33)]) (cs' := [(vi (IntKind.wrap .i64 (x0.fnodes + 1))), (vi x0.fdepth), (vi 33), (vB x0.fform), (vB x0.fnamed), (vs a0w)]) rfl rfl (nb rfl) rfl rfl fun w_4 I_5 k_6 => ?_
  exact hR false (l9.mk (IntKind.wrap .i64 (x0.fnodes + 1)) x0.fdepth 33 x0.fform x0.fnamed (Sl.mk none 0 0)) a0T a0w a5h H _ b5d ((I_5.bring 1).bring 1) h
 ·replace h := h.2 b3O
  refine a7 (a3B _ _ _ _ _ _) ?_
  refine j8 (fun c2K => ?_) (fun c2K => ?_)
  ·replace h := h.1 c2K
   refine a7 (A0 _) ?_
   refine a7 a5r ?_
   refine m7 I_2 Tryz.sizeOf27 (vs := [(vi 32)]) (cs' := [(vi (IntKind.wrap .i64 (x0.fnodes + 1))), (vi x0.fdepth), (vi 32), (vB x0.fform), (vB x0.fnamed), (vs a0w)]) rfl rfl (nb rfl) rfl rfl fun w_7 I_8 k_9 => ?_
   exact hR false (l9.mk (IntKind.wrap .i64 (x0.fnodes + 1)) x0.fdepth 32 x0.fform x0.fnamed (Sl.mk none 0 0)) a0T a0w a5h H _ b5d ((I_8.bring 1).bring 1) h
  ·replace h := h.2 c2K
   refine a7 (A0 _) ?_
   refine a7 c2l ?_
   refine d7 (ld1 Tryz.isAgg3 (I_2.at1 (o := 1) (vs := [(vi x0.fdepth)]) (nb rfl) rfl)) ?_
   refine a7 (f7v _ _ _ _ _) ?_
   refine a7 (A0 _) ?_
   refine a7 c2l ?_
   refine m7 I_2 Tryz.sizeOf3 (vs := [(vi (if x2 > x0.fdepth then x2 else x0.fdepth))]) (cs' := [(vi (IntKind.wrap .i64 (x0.fnodes + 1))), (vi (if x2 > x0.fdepth then x2 else x0.fdepth)), (vi x0.fe), (vB x0.fform), (vB x0.fnamed), (vs a0w)]) rfl rfl (nb rfl) rfl rfl fun q7 a0V b0j => ?_
   refine a7 (A0 _) ?_
   refine a7 b5u ?_
   refine d7 (ld1 Tryz.isAgg4 (a0V.at1 (o := 3) (vs := [(vB x0.fform)]) (nb rfl) rfl)) ?_
   simp only [O5]
   refine a5c (D := fun c6O p9 => ∃ (L8 : Bool) (a1Z : Hp), c6O = (gv x0.fform false (vB L8)) ∧ (Inv w0 ps0 H0 a1Z [bx g0 101 [(vi (IntKind.wrap .i64 (x0.fnodes + 1))), (vi (if x2 > x0.fdepth then x2 else x0.fdepth)), (vi x0.fe), (vB x0.fform), (vB x0.fnamed), (vs a0w)], a5h] p9) ∧ (∀ i, i < q7.heap.size → ¬ inF [] i → p9.heap[i]? = q7.heap[i]?) ∧ Hle H a1Z ∧ (a3D x1 a1Z (fun (u1 : ByteArray) (b7J : Bool) (a1w : Hp) =>
 (b7J = true →
 TG (x0.fnamed = false) (a5L u1 a1w) false a1w (fun (Y8 : Bool) (b0m : Hp) =>
 R0 a0T u1 b0m (fun (i8 : Bool) (a0W : Hp) =>
 ((!i8) = true →
 (a0T.length + ([u1] : List ByteArray).length) * 17 ≤ 140737488355328 ∧
 C2 (IntKind.wrap .i64 (x0.fnodes + 1)) (if x2 > x0.fdepth then x2 else x0.fdepth) x0.fe (x0.fform || (!L8)) (x0.fnamed || (!Y8)) (a0T ++ [u1]) a0W K) ∧
 ((!i8) = false →
 C2 (IntKind.wrap .i64 (x0.fnodes + 1)) (if x2 > x0.fdepth then x2 else x0.fdepth) x0.fe (x0.fform || (!L8)) (x0.fnamed || (!Y8)) a0T a0W K)))) ∧
 (b7J = false →
 C2 (IntKind.wrap .i64 (x0.fnodes + 1)) (if x2 > x0.fdepth then x2 else x0.fdepth) x0.fe (x0.fform || (!L8)) x0.fnamed a0T a1w K)))) (fun d1x => ?_) (fun d1x => ?_) ?_
   ·replace h := h.1 d1x
    have i5 := d1x
    simp only [s8 i5]
    refine b6v a0V h (fun L8 a1Z p9 a9p c2C b5G h => ?_)
    exact ⟨L8, a1Z, by rfl, a9p, b5G, c2C, h⟩
   ·exact ⟨false, H, by rw [a9g d1x], a0V, fun _ _ _ => rfl, Hle.refl _, h.2 d1x⟩
   ·clear h
    rintro c6O p9 ⟨L8, a1Z, rfl, a9p, b5G, c2C, h⟩
    refine a7 (Pu.g fun hb => by have i5 := hb; simp only [s8 i5]; exact (a0X _)) ?_
    refine a7 (a1d _ _) ?_
    refine a7 (A0 _) ?_
    refine a7 b5u ?_
    refine m7 a9p Tryz.sizeOf4 (vs := [(vB (x0.fform || (!L8)))]) (cs' := [(vi (IntKind.wrap .i64 (x0.fnodes + 1))), (vi (if x2 > x0.fdepth then x2 else x0.fdepth)), (vi x0.fe), (vB (x0.fform || (!L8))), (vB x0.fnamed), (vs a0w)]) rfl rfl (nb rfl) rfl rfl fun Y6 b5K e5B => ?_
    have hj1 : ∀ (b3e : Int) (b3f : Int) (b3g : Int) (b3h : Bool) (b3i : Bool) (b0V : (List ByteArray)) (b7K : Sl) (b7L : Frag) (H : Hp) (w : World) (_ : RowL 9 1 M3 b7K b0V b7L) (_ : Inv w0 ps0 H0 H [bx g0 101 [(vi b3e), (vi b3f), (vi b3g), (vB b3h), (vB b3i), (vs b7K)], b7L] w) (_ : C2 b3e b3f b3g b3h b3i b0V H K), c6t w R E := by
     intro b3e b3f b3g b3h b3i b0V b7K b7L H w e5C I h
     unfold c6t
     intro _
     unfold C2 at h
     exact hR true (l9.mk b3e b3f b3g b3h b3i (Sl.mk none 0 0)) b0V b7K b7L H _ e5C ((I.bring 1).bring 1) h
    refine A7 fun j1 hx1 => ?_
    refine d8 (cap := []) (fun args w => Tryz.call143 args w) ?_
    refine o0 (Fi := []) (Fr := [bx g0 101 [(vi (IntKind.wrap .i64 (x0.fnodes + 1))), (vi (if x2 > x0.fdepth then x2 else x0.fdepth)), (vi x0.fe), (vB (x0.fform || (!L8))), (vB x0.fnamed), (vs a0w)], a5h]) b5K (h) (fun e5D a1w b0k a0R a5D e5E d1y c2L => ?_) (fun _ _ _ _ _ q => q.elim)
    obtain ⟨u1, b7J, rfl, rfl, h⟩ := c2L
    refine a7 (m9 _ _ (Value.string u1) rfl) ?_
    refine a7 (m9 _ _ (vB b7J) rfl) ?_
    refine u0 (fun c2M => ?_) (fun c2M => ?_)
    ·replace h := h.1 c2M
     refine a7 (A0 _) ?_
     refine a7 b5v ?_
     refine d7 (ld1 Tryz.isAgg4 (a5D.at1 (o := 4) (vs := [(vB x0.fnamed)]) (nb rfl) rfl)) ?_
     simp only [O5]
     refine a5c (D := fun d7T B7 => ∃ (Y8 : Bool) (b0m : Hp) , d7T = (gv x0.fnamed false (vB Y8)) ∧ (Inv w0 ps0 H0 b0m [bx g0 101 [(vi (IntKind.wrap .i64 (x0.fnodes + 1))), (vi (if x2 > x0.fdepth then x2 else x0.fdepth)), (vi x0.fe), (vB (x0.fform || (!L8))), (vB x0.fnamed), (vs a0w)], a5h] B7) ∧ (∀ i, i < a0R.heap.size → ¬ inF [] i → B7.heap[i]? = a0R.heap[i]?) ∧ Hle a1w b0m ∧ (R0 a0T u1 b0m (fun (i8 : Bool) (a0W : Hp) =>
 ((!i8) = true →
 (a0T.length + ([u1] : List ByteArray).length) * 17 ≤ 140737488355328 ∧
 C2 (IntKind.wrap .i64 (x0.fnodes + 1)) (if x2 > x0.fdepth then x2 else x0.fdepth) x0.fe (x0.fform || (!L8)) (x0.fnamed || (!Y8)) (a0T ++ [u1]) a0W K) ∧
 ((!i8) = false →
 C2 (IntKind.wrap .i64 (x0.fnodes + 1)) (if x2 > x0.fdepth then x2 else x0.fdepth) x0.fe (x0.fform || (!L8)) (x0.fnamed || (!Y8)) a0T a0W K)))) (fun d1z => ?_) (fun d1z => ?_) ?_
     ·replace h := h.1 d1z
      have i5 := d1z
      simp only [s8 i5]
      refine d8 (cap := []) (fun args w => Tryz.call144 args w) ?_
      refine o0 (Fi := []) (Fr := [bx g0 101 [(vi (IntKind.wrap .i64 (x0.fnodes + 1))), (vi (if x2 > x0.fdepth then x2 else x0.fdepth)), (vi x0.fe), (vB (x0.fform || (!L8))), (vB x0.fnamed), (vs a0w)], a5h]) a5D (h) (fun d7T b0m h8R B7 a6M e5F d1A e5G => ?_) (fun _ _ _ _ _ q => q.elim)
      obtain ⟨Y8, rfl, rfl, h⟩ := e5G
      exact ⟨Y8, b0m, by rfl, a6M, d1A, e5F, h⟩
     ·exact ⟨false, a1w, by rw [a9g d1z], a5D, fun _ _ _ => rfl, Hle.refl _, h.2 d1z⟩
     ·clear h
      rintro d7T B7 ⟨Y8, b0m, rfl, a6M, d1A, e5F, h⟩
      refine a7 (Pu.g fun hb => by have i5 := hb; simp only [s8 i5]; exact (a0X _)) ?_
      refine a7 (a1d _ _) ?_
      refine a7 (A0 _) ?_
      refine a7 b5v ?_
      refine m7 a6M Tryz.sizeOf4 (vs := [(vB (x0.fnamed || (!Y8)))]) (cs' := [(vi (IntKind.wrap .i64 (x0.fnodes + 1))), (vi (if x2 > x0.fdepth then x2 else x0.fdepth)), (vi x0.fe), (vB (x0.fform || (!L8))), (vB (x0.fnamed || (!Y8))), (vs a0w)]) rfl rfl (nb rfl) rfl rfl fun G3 b3P d1B => ?_
      refine a7 (A0 _) ?_
      refine a7 b5w ?_
      refine d7 (ld1 Tryz.isAgg88 (b3P.at1 (o := 5) (vs := [(vs a0w)]) (nb rfl) rfl)) ?_
      refine d8 (cap := []) (fun args w => Tryz.call145 args w) ?_
      refine o0 (Fi := [a5h]) (Fr := [bx g0 101 [(vi (IntKind.wrap .i64 (x0.fnodes + 1))), (vi (if x2 > x0.fdepth then x2 else x0.fdepth)), (vi x0.fe), (vB (x0.fform || (!L8))), (vB (x0.fnamed || (!Y8))), (vs a0w)]]) (b3P.bring 1) (h a0w a5h b5d) (fun d7U a0W d7V G4 b2n d7W d7X b7M => ?_) (fun _ _ _ _ _ q => q.elim)
      obtain ⟨i8, rfl, rfl, h⟩ := b7M
      refine a7 (a0X _) ?_
      refine u0 (fun c2N => ?_) (fun c2N => ?_)
      ·replace h := h.1 c2N
       refine a7 (A0 _) ?_
       refine a7 b5w ?_
       refine d7 (ld1 Tryz.isAgg88 ((b2n.bring 1).at1 (o := 5) (vs := [(vs a0w)]) (nb rfl) rfl)) ?_
       refine a1s (e := 9) (c := M3) (xs := [u1]) b2n (f1d _) rfl rfl c2j c2k (nb rfl) fun i4G h8S b0U e5H g2h i4H => ?_
       obtain ⟨d7Y, h⟩ := h
       refine f7P (s := a0w) (xs := a0T) (g2h.bring 1) b5d (e5H.srcO ((g2h.bring 1).bring 1)) d7Y fun e5I h8T c2O e5J b9Z c6V => ?_
       refine a7 (A0 _) ?_
       refine a7 b5w ?_
       refine m7 ((b9Z.bring 1).drop.bring 1) Tryz.sizeOf88 (vs := [(vs e5I)]) (cs' := [(vi (IntKind.wrap .i64 (x0.fnodes + 1))), (vi (if x2 > x0.fdepth then x2 else x0.fdepth)), (vi x0.fe), (vB (x0.fform || (!L8))), (vB (x0.fnamed || (!Y8))), (vs e5I)]) rfl rfl (nb rfl) rfl rfl fun S6 h8U i4I => ?_
       exact hx1 _ _ (hj1 (IntKind.wrap .i64 (x0.fnodes + 1)) (if x2 > x0.fdepth then x2 else x0.fdepth) x0.fe (x0.fform || (!L8)) (x0.fnamed || (!Y8)) (a0T ++ [u1]) e5I h8T a0W _ e5J ((h8U.bring 1).bring 1) h)
      ·replace h := h.2 c2N
       exact hx1 _ _ (hj1 (IntKind.wrap .i64 (x0.fnodes + 1)) (if x2 > x0.fdepth then x2 else x0.fdepth) x0.fe (x0.fform || (!L8)) (x0.fnamed || (!Y8)) a0T a0w a5h a0W _ b5d (b2n.bring 1) h)
    ·replace h := h.2 c2M
     exact hx1 _ _ (hj1 (IntKind.wrap .i64 (x0.fnodes + 1)) (if x2 > x0.fdepth then x2 else x0.fdepth) x0.fe (x0.fform || (!L8)) x0.fnamed a0T a0w a5h a1w _ b5d ((a5D.bring 1).bring 1) h)
theorem b2o (x0 : l9) (a0T : (List ByteArray)) (x1 : d9) (x2 : Int) {H : Hp} {K : Bool → l9 → (List ByteArray) → Hp → Prop} (h : a0L x0 a0T x1 x2 H K) : a3T x0 a0T x1 x2 H K := by
 intro g0 a0w a5h b5d w I
 refine f1r ?_
 refine b1R x0 a0T x1 x2 g0 a0w a5h b5d I (fun r0 y0 a9k a6D a6E H' w' d1v I' hk => ⟨H', _, I', r0, y0, a9k, a6D, a6E, rfl, rfl, d1v, hk⟩) h
def P8 (b0W : Int) (b0X : Int) (b0Y : Int) (b0Z : Bool) (b1a : Bool) (b1S : (List ByteArray)) (H : Hp) (K : l9 → Hp → Prop) : Prop :=
 ∀ (a4w : Sl) (a9v : Hp), Hle H a9v → SlH a9v 1 M3 a4w b1S → a4w.n ≤ a4w.c →
 K (l9.mk b0W b0X b0Y b0Z b1a a4w) a9v
def a4q (x0 : Sl) (H : Hp) (K : l9 → Hp → Prop) : Prop :=
 a0F x0 1 (l9.mk 0 0 0 false false (Sl.mk none 0 0)) [] H (fun (a3s : Bool) (K7 : l9) (a8k : (List ByteArray)) (a5E : Hp) =>
 ((!a3s) = true →
 P8 ((K7).fnodes) ((K7).fdepth) ((K7).fe) ((K7).fform) ((K7).fnamed) a8k a5E K) ∧
 ((!a3s) = false →
 (((K7).fform) = true →
 P8 ((K7).fnodes) ((K7).fdepth) 30 ((K7).fform) ((K7).fnamed) a8k a5E K) ∧
 (((K7).fform) = false →
 (((K7).fnamed) = true →
 P8 ((K7).fnodes) ((K7).fdepth) 31 ((K7).fform) ((K7).fnamed) a8k a5E K) ∧
 (((K7).fnamed) = false →
 P8 ((K7).fnodes) ((K7).fdepth) ((K7).fe) ((K7).fform) ((K7).fnamed) a8k a5E K))))
theorem b6z (x0 : Sl) {K : l9 → Hp → Prop} (I : Inv w0 ps0 H0 H [] w) (hR : ∀ (r0 : l9) (gr0 : Nat) (H' : Hp) (w' : World) (_ : Inv w0 ps0 H0 H' [bx gr0 101 (a8h r0)] w') (_ : K r0 H'), R (Value.pointer (some ⟨gr0, 0, none⟩)) w') (h : a4q x0 H K) : F65 (vs x0) w R E := by
 unfold a4q at h
 unfold F65
 refine a7 (d7b ) ?_
 refine L9 I (cs := [(vi 0), (vi 0), (vi 0), (vB false), (vB false), (nS)]) rfl fun g_2 w_3 I_4 k_5 => ?_
 refine y9 I_4 Tryz.zeroValue102 (cs := [(Value.pointer none)]) rfl fun g_7 w_8 I_9 a9w => ?_
 refine m7 I_9 Tryz.sizeOf102 (vs := [(Value.pointer (some ⟨g_2, 0, none⟩))]) (cs' := [(Value.pointer (some ⟨g_2, 0, none⟩))]) rfl rfl (nb rfl) rfl rfl fun R1 D2 b5A => ?_
 refine y9 D2 Tryz.zeroValue170 (cs := [Value.nilFunc]) rfl fun b7N s6 c0a g2i => ?_
 refine a7 (b1y _ _ _) ?_
 refine m7 c0a Tryz.sizeOf170 (vs := [(Value.func (.func 110) #[] #[(Value.pointer (some ⟨g_7, 0, none⟩)), (Value.pointer (some ⟨b7N, 0, none⟩))])]) (cs' := [(Value.func (.func 110) #[] #[(Value.pointer (some ⟨g_7, 0, none⟩)), (Value.pointer (some ⟨b7N, 0, none⟩))])]) rfl rfl (nb rfl) rfl rfl fun Y6 b5K e5B => ?_
 have hj1 : ∀ (b0W : Int) (b0X : Int) (b0Y : Int) (b0Z : Bool) (b1a : Bool) (b1S : (List ByteArray)) (a4w : Sl) (Fcr_1j1_5 : Frag) (H : Hp) (w : World) (_ : RowL 9 1 M3 a4w b1S Fcr_1j1_5) (_ : Inv w0 ps0 H0 H [bx g_7 102 [(Value.pointer (some ⟨g_2, 0, none⟩))], bx g_2 101 [(vi b0W), (vi b0X), (vi b0Y), (vB b0Z), (vB b1a), (vs a4w)], bx b7N 170 [(Value.func (.func 110) #[] #[(Value.pointer (some ⟨g_7, 0, none⟩)), (Value.pointer (some ⟨b7N, 0, none⟩))])], Fcr_1j1_5] w) (_ : P8 b0W b0X b0Y b0Z b1a b1S H K), c9S (Value.pointer (some ⟨g_7, 0, none⟩)) w R E := by
  intro b0W b0X b0Y b0Z b1a b1S a4w Fcr_1j1_5 H w e2p I h
  unfold c9S
  intro _
  unfold P8 at h
  refine d7 (ld1 Tryz.isAgg102 (I.at1 (o := 0) (vs := [(Value.pointer (some ⟨g_2, 0, none⟩))]) (nb rfl) rfl)) ?_
  obtain ⟨a9v, a6M, h8V, a3W, d1h⟩ := Inv.freezeC (I.bring 3) e2p (by decide)
  replace h := h a4w a9v h8V a3W d1h
  exact hR (l9.mk b0W b0X b0Y b0Z b1a a4w) g_2 a9v _ (a6M.drop.bring 1).drop h
 refine A7 fun j1 hx1 => ?_
 refine d7 (ld1 Tryz.isAgg170 (b5K.at1 (o := 0) (vs := [(Value.func (.func 110) #[] #[(Value.pointer (some ⟨g_7, 0, none⟩)), (Value.pointer (some ⟨b7N, 0, none⟩))])]) (nb rfl) rfl)) ?_
 refine d8 (cap := [(Value.pointer (some ⟨g_7, 0, none⟩)), (Value.pointer (some ⟨b7N, 0, none⟩))]) (fun args w => Tryz.call110 args w) ?_
 refine o0 (Fi := [bx g_7 102 [(Value.pointer (some ⟨g_2, 0, none⟩))], bx g_2 101 [(vi 0), (vi 0), (vi 0), (vB false), (vB false), (Value.slice (Sl.mk none 0 0).a (Sl.mk none 0 0).n (Sl.mk none 0 0).c)], [], bx b7N 170 [(Value.func (.func 110) #[] #[(Value.pointer (some ⟨g_7, 0, none⟩)), (Value.pointer (some ⟨b7N, 0, none⟩))])]]) (Fr := []) ((((b5K.nil.bring 1).bring 1).bring 3).bring 3) (h g_7 g_2 b7N (Sl.mk none 0 0) ([]) (RowL.nil (e := 9) c2j c2k)) (fun e5K a5E d1f z6 a6p e5L d7O c2P => ?_) (fun _ _ _ _ _ q => q.elim)
 obtain ⟨a3s, K7, a8k, b1b, b7O, rfl, rfl, b7P, h⟩ := c2P
 refine a7 (a0X _) ?_
 refine u0 (fun e5M => ?_) (fun e5M => ?_)
 ·replace h := h.1 e5M
  exact hx1 _ _ (hj1 ((K7).fnodes) ((K7).fdepth) ((K7).fe) ((K7).fform) ((K7).fnamed) a8k b1b b7O a5E _ b7P ((((a6p.bring 2).bring 3).bring 3).bring 3) h)
 ·replace h := h.2 e5M
  refine d7 (ld1 Tryz.isAgg102 (a6p.at1 (o := 0) (vs := [(Value.pointer (some ⟨g_2, 0, none⟩))]) (nb rfl) rfl)) ?_
  refine a7 (A0 _) ?_
  refine a7 b5u ?_
  refine d7 (ld1 Tryz.isAgg4 ((a6p.bring 1).at1 (o := 3) (vs := [(vB ((K7).fform))]) (nb rfl) rfl)) ?_
  refine u0 (fun V8 => ?_) (fun V8 => ?_)
  ·replace h := h.1 V8
   refine d7 (ld1 Tryz.isAgg102 (a6p.at1 (o := 0) (vs := [(Value.pointer (some ⟨g_2, 0, none⟩))]) (nb rfl) rfl)) ?_
   refine a7 (A0 _) ?_
   refine a7 a5r ?_
   refine m7 (a6p.bring 1) Tryz.sizeOf27 (vs := [(vi 30)]) (cs' := [(vi ((K7).fnodes)), (vi ((K7).fdepth)), (vi 30), (vB ((K7).fform)), (vB ((K7).fnamed)), (vs b1b)]) rfl rfl (nb rfl) rfl rfl fun b0n a7q d7Z => ?_
   exact hx1 _ _ (hj1 ((K7).fnodes) ((K7).fdepth) 30 ((K7).fform) ((K7).fnamed) a8k b1b b7O a5E _ b7P ((((a7q.bring 2).bring 3).bring 2).bring 3) h)
  ·replace h := h.2 V8
   refine d7 (ld1 Tryz.isAgg102 (a6p.at1 (o := 0) (vs := [(Value.pointer (some ⟨g_2, 0, none⟩))]) (nb rfl) rfl)) ?_
   refine a7 (A0 _) ?_
   refine a7 b5v ?_
   refine d7 (ld1 Tryz.isAgg4 ((a6p.bring 1).at1 (o := 4) (vs := [(vB ((K7).fnamed))]) (nb rfl) rfl)) ?_
   refine u0 (fun e5N => ?_) (fun e5N => ?_)
   ·replace h := h.1 e5N
    refine d7 (ld1 Tryz.isAgg102 (a6p.at1 (o := 0) (vs := [(Value.pointer (some ⟨g_2, 0, none⟩))]) (nb rfl) rfl)) ?_
    refine a7 (A0 _) ?_
    refine a7 a5r ?_
    refine m7 (a6p.bring 1) Tryz.sizeOf27 (vs := [(vi 31)]) (cs' := [(vi ((K7).fnodes)), (vi ((K7).fdepth)), (vi 31), (vB ((K7).fform)), (vB ((K7).fnamed)), (vs b1b)]) rfl rfl (nb rfl) rfl rfl fun G3 b3P d1B => ?_
    exact hx1 _ _ (hj1 ((K7).fnodes) ((K7).fdepth) 31 ((K7).fform) ((K7).fnamed) a8k b1b b7O a5E _ b7P ((((b3P.bring 2).bring 3).bring 2).bring 3) h)
   ·replace h := h.2 e5N
    exact hx1 _ _ (hj1 ((K7).fnodes) ((K7).fdepth) ((K7).fe) ((K7).fform) ((K7).fnamed) a8k b1b b7O a5E _ b7P ((((a6p.bring 2).bring 3).bring 3).bring 3) h)
theorem b7Q (x0 : Sl) {H : Hp} {K : l9 → Hp → Prop} (h : a4q x0 H K) : a1R x0 H K := by
 intro w I
 refine f8t ?_
 refine b6z x0 I (fun r0 gr0 H' w' I' hk => ⟨H', _, I', r0, gr0, rfl, rfl, hk⟩) h
def a5l (x0 : b6) (H : Hp) (K : Int → Hp → Prop) : Prop :=
 ∀ (s_7 : Sl) (a1Z : Hp), Hle H a1Z → SlH a1Z 1 v6 s_7 [(d9.K0 (M0.mk x0))] → s_7.n ≤ s_7.c →
 a1R s_7 a1Z (fun (b2H : l9) (c2Q : Hp) =>
 K b2H.fe c2Q)
theorem b8S (x0 : b6) {K : Int → Hp → Prop} (I : Inv w0 ps0 H0 H [] w) (hR : ∀ (r0 : Int) (H' : Hp) (w' : World) (_ : Inv w0 ps0 H0 H' [] w') (_ : K r0 H'), R (vi r0) w') (h : a5l x0 H K) : F39 (Value.agg (b8 x0).toArray) w R E := by
 unfold a5l at h
 unfold F39
 refine L9 I (cs := (b8 x0)) rfl fun g_2 w_3 I_4 k_5 => ?_
 refine d7 (ldA Tryz.isAgg53 Tryz.sizeOf53 rfl (I_4.at1 (o := 0) (vs := (b8 x0)) (nb rfl) rfl)) ?_
 refine a7 (b9j _ _ _ _ _ _) ?_
 refine a7 (b0J (M0.mk x0)) ?_
 refine a1s (e := 150) (c := v6) (xs := [(d9.K0 (M0.mk x0))]) I_4 (b0K _) rfl rfl Q2 R5 (nb rfl) fun s_7 F_8 w_9 b3Q a0V b0j => ?_
 obtain ⟨a1Z, O8, c2E, a9x, b7R⟩ := Inv.freezeC a0V b3Q (by decide)
 replace h := h s_7 a1Z c2E a9x b7R
 refine d8 (cap := []) (fun args w => Tryz.call65 args w) ?_
 refine o0 (Fi := []) (Fr := [bx g_2 53 (b8 x0)]) O8 (h) (fun h8W c2Q h8X Y6 b5K d8a e5B e5O => ?_) (fun _ _ _ _ _ q => q.elim)
 obtain ⟨b2H, g2j, rfl, rfl, h⟩ := e5O
 refine a7 (A0 _) ?_
 refine a7 a5r ?_
 refine d7 (ld1 Tryz.isAgg27 (b5K.at1 (o := 2) (vs := [(vi b2H.fe)]) (nb rfl) rfl)) ?_
 exact hR b2H.fe c2Q _ b5K.drop.drop h
theorem c0b (x0 : b6) {H : Hp} {K : Int → Hp → Prop} (h : a5l x0 H K) : a7H x0 H K := by
 intro w I
 refine f8f ?_
 refine b8S x0 I (fun r0 H' w' I' hk => ⟨H', _, I', r0, rfl, rfl, hk⟩) h
def a4r (x0 : d5) (H : Hp) (K : d9 → Hp → Prop) : Prop :=
 K (d9.N2 (S4.mk x0)) H
theorem b6A (x0 : d5) {K : d9 → Hp → Prop} (I : Inv w0 ps0 H0 H [] w) (hR : ∀ (r0 : d9) (H' : Hp) (w' : World) (_ : Inv w0 ps0 H0 H' [] w') (_ : K r0 H'), R (D1 r0) w') (h : a4r x0 H K) : F79 (Value.agg (g7 x0).toArray) w R E := by
 unfold a4r at h
 unfold F79
 refine L9 I (cs := (g7 x0)) rfl fun g_2 w_3 I_4 k_5 => ?_
 refine d7 (ldA Tryz.isAgg73 Tryz.sizeOf73 rfl (I_4.at1 (o := 0) (vs := (g7 x0)) (nb rfl) rfl)) ?_
 refine a7 (c9L _ _ _ _ _ _ _ _ _ _ _ _ _ _) ?_
 refine a7 (c6q (S4.mk x0)) ?_
 exact hR (d9.N2 (S4.mk x0)) H _ I_4.drop h
theorem b7S (x0 : d5) {H : Hp} {K : d9 → Hp → Prop} (h : a4r x0 H K) : b0g x0 H K := by
 intro w I
 refine f8K ?_
 refine b6A x0 I (fun r0 H' w' I' hk => ⟨H', _, I', r0, rfl, rfl, hk⟩) h
def R6 (c1l : Bool) (b3R : N9) (a0Z : P1) (H : Hp) (K : Bool → Hp → Prop) : Prop :=
 (c1l = true →
 K (decide (b3R.fexprs = 0 ∧ b3R.fparts = 2)) H) ∧
 (c1l = false →
 K false H)
def R7 (a8l : Int) (c1m : Bool) (q8 : N9) (v8 : P1) (H : Hp) (K : Bool → Hp → Prop) : Prop :=
 (c1m = true →
 K (decide (q8.fexprs = 0 ∧ q8.fparts = 0)) H) ∧
 (c1m = false →
 (a8l = 4 →
 K (decide (q8.fexprs = 0 ∧ q8.fparts = 1)) H) ∧
 (¬ (a8l = 4) →
 (a8l = 5 →
 R6 (decide (a8l = 5)) q8 v8 H K) ∧
 (¬ (a8l = 5) →
 R6 (decide (a8l = 6)) q8 v8 H K)))
def a2v (x0 : P1) (H : Hp) (K : Bool → Hp → Prop) : Prop :=
 (x0.s7.a8 = 3 →
 K (((decide (1 ≤ x0.s7.fOp)) && (decide (x0.s7.fOp ≤ 6))) && (decide ((x0.s7.j7.n : Int) = 2 ∧ (x0.s7.t7.n : Int) = 0))) H) ∧
 (¬ (x0.s7.a8 = 3) →
 (¬ (x0.s7.fOp = 0) →
 K false H) ∧
 (x0.s7.fOp = 0 →
 (x0.s7.a8 = 1 →
 R7 x0.s7.a8 (decide (x0.s7.a8 = 1)) (N9.mk (x0.s7.j7.n : Int) (x0.s7.t7.n : Int)) x0 H K) ∧
 (¬ (x0.s7.a8 = 1) →
 R7 x0.s7.a8 (decide (x0.s7.a8 = 2)) (N9.mk (x0.s7.j7.n : Int) (x0.s7.t7.n : Int)) x0 H K)))
theorem b3S (x0 : P1) {K : Bool → Hp → Prop} (I : Inv w0 ps0 H0 H [] w) (hR : ∀ (r0 : Bool) (H' : Hp) (w' : World) (_ : Inv w0 ps0 H0 H' [] w') (_ : K r0 H'), R (vB r0) w') (h : a2v x0 H K) : d7x (Value.agg (d6 x0.s7).toArray) w R E := by
 unfold a2v at h
 unfold d7x
 refine L9 I (cs := (d6 x0.s7)) rfl fun g_2 w_3 I_4 k_5 => ?_
 refine a7 a3j ?_
 refine a7 a1L ?_
 refine d7 (ld1 Tryz.isAgg51 (I_4.at1 (o := 2) (vs := [(vs x0.s7.j7)]) (nb rfl) rfl)) ?_
 refine a7 (a2l _ _ _) ?_
 refine a7 a3j ?_
 refine a7 V6 ?_
 refine d7 (ld1 Tryz.isAgg57 (I_4.at1 (o := 3) (vs := [(vs x0.s7.t7)]) (nb rfl) rfl)) ?_
 refine a7 (a6u _ _ _) ?_
 refine a7 (a8g _ _) ?_
 refine y9 I_4 Tryz.zeroValue236 (cs := [(vi 0), (vi 0)]) rfl fun g_7 w_8 I_9 a9w => ?_
 refine m7 I_9 Tryz.sizeOf236 (vs := [(vi (x0.s7.j7.n : Int)), (vi (x0.s7.t7.n : Int))]) (cs' := [(vi (x0.s7.j7.n : Int)), (vi (x0.s7.t7.n : Int))]) rfl rfl (nb rfl) rfl rfl fun R1 D2 b5A => ?_
 refine a7 a3j ?_
 refine a7 a1K ?_
 refine d7 (ld1 Tryz.isAgg3 ((D2.bring 1).at1 (o := 0) (vs := [(vi x0.s7.a8)]) (nb rfl) rfl)) ?_
 refine a7 (o2 _ _ _ _ _ _) ?_
 refine j8 (fun a6N => ?_) (fun a6N => ?_)
 ·replace h := h.1 a6N
  refine a7 a3j ?_
  refine a7 a9W ?_
  refine d7 (ld1 Tryz.isAgg3 ((D2.bring 1).at1 (o := 1) (vs := [(vi x0.s7.fOp)]) (nb rfl) rfl)) ?_
  refine a7 (b6n _ _ _ _ _ _) ?_
  refine a7 (Pu.g fun hb => by have i5 := hb; exact a3j) ?_
  refine a7 (Pu.g fun hb => by have i5 := hb; simp only [s8 i5]; exact a9W) ?_
  refine d7 (Ld.g fun hb => by have i5 := hb; simp only [s8 i5]; exact (ld1 Tryz.isAgg3 ((D2.bring 1).at1 (o := 1) (vs := [(vi x0.s7.fOp)]) (nb rfl) rfl))) ?_
  refine a7 (Pu.g fun hb => by have i5 := hb; simp only [s8 i5]; exact (b6m _ _ _ _ _ _)) ?_
  refine a7 (N6 _ _) ?_
  refine d7 (Ld.g fun hb => by have i5 := hb; exact (ldA Tryz.isAgg236 Tryz.sizeOf236 rfl (D2.at1 (o := 0) (vs := [(vi (x0.s7.j7.n : Int)), (vi (x0.s7.t7.n : Int))]) (nb rfl) rfl))) ?_
  refine a7 (Pu.g fun hb => by have i5 := hb; exact (a8g _ _)) ?_
  refine a7 (Pu.g fun hb => by have i5 := hb; simp only [s8 i5]; exact (b4X _ _ _ _ _ _)) ?_
  refine a7 (N6 _ _) ?_
  exact hR (((decide (1 ≤ x0.s7.fOp)) && (decide (x0.s7.fOp ≤ 6))) && (decide ((x0.s7.j7.n : Int) = 2 ∧ (x0.s7.t7.n : Int) = 0))) H _ D2.drop.drop h
 ·replace h := h.2 a6N
  refine a7 a3j ?_
  refine a7 a9W ?_
  refine d7 (ld1 Tryz.isAgg3 ((D2.bring 1).at1 (o := 1) (vs := [(vi x0.s7.fOp)]) (nb rfl) rfl)) ?_
  refine a7 (T8 _ _ _ _ _ _) ?_
  refine a2L (fun b3T => ?_) (fun b3T => ?_)
  ·replace h := h.1 b3T
   exact hR false H _ D2.drop.drop h
  ·replace h := h.2 b3T
   refine a7 a3j ?_
   refine a7 a1K ?_
   refine d7 (ld1 Tryz.isAgg3 ((D2.bring 1).at1 (o := 0) (vs := [(vi x0.s7.a8)]) (nb rfl) rfl)) ?_
   have hj1 : ∀ (c1m : Bool) (H : Hp) (w : World) (_ : Inv w0 ps0 H0 H [bx g_7 236 [(vi (N9.mk (x0.s7.j7.n : Int) (x0.s7.t7.n : Int)).fexprs), (vi (N9.mk (x0.s7.j7.n : Int) (x0.s7.t7.n : Int)).fparts)], bx g_2 143 (d6 x0.s7)] w) (_ : R7 x0.s7.a8 c1m (N9.mk (x0.s7.j7.n : Int) (x0.s7.t7.n : Int)) x0 H K), c6L (Value.pointer (some ⟨g_7, 0, none⟩)) (vi x0.s7.a8) (vB c1m) w R E := by
    intro c1m H w I h
    unfold c6L
    intro _
    unfold R7 at h
    refine u0 (fun a9y => ?_) (fun a9y => ?_)
    ·replace h := h.1 a9y
     refine d7 (ldA Tryz.isAgg236 Tryz.sizeOf236 rfl (I.at1 (o := 0) (vs := [(vi (N9.mk (x0.s7.j7.n : Int) (x0.s7.t7.n : Int)).fexprs), (vi (N9.mk (x0.s7.j7.n : Int) (x0.s7.t7.n : Int)).fparts)]) (nb rfl) rfl)) ?_
     refine a7 (d7c ) ?_
     refine a7 (b4X _ _ _ _ _ _) ?_
     exact hR (decide ((N9.mk (x0.s7.j7.n : Int) (x0.s7.t7.n : Int)).fexprs = 0 ∧ (N9.mk (x0.s7.j7.n : Int) (x0.s7.t7.n : Int)).fparts = 0)) H _ I.drop.drop h
    ·replace h := h.2 a9y
     refine a7 (o2 _ _ _ _ _ _) ?_
     refine j8 (fun b3U => ?_) (fun b3U => ?_)
     ·replace h := h.1 b3U
      refine d7 (ldA Tryz.isAgg236 Tryz.sizeOf236 rfl (I.at1 (o := 0) (vs := [(vi (N9.mk (x0.s7.j7.n : Int) (x0.s7.t7.n : Int)).fexprs), (vi (N9.mk (x0.s7.j7.n : Int) (x0.s7.t7.n : Int)).fparts)]) (nb rfl) rfl)) ?_
      refine a7 (a8g _ _) ?_
      refine a7 (b4X _ _ _ _ _ _) ?_
      exact hR (decide ((N9.mk (x0.s7.j7.n : Int) (x0.s7.t7.n : Int)).fexprs = 0 ∧ (N9.mk (x0.s7.j7.n : Int) (x0.s7.t7.n : Int)).fparts = 1)) H _ I.drop.drop h
     ·replace h := h.2 b3U
      have hj2 : ∀ (c1l : Bool) (H : Hp) (w : World) (_ : Inv w0 ps0 H0 H [bx g_7 236 [(vi (N9.mk (x0.s7.j7.n : Int) (x0.s7.t7.n : Int)).fexprs), (vi (N9.mk (x0.s7.j7.n : Int) (x0.s7.t7.n : Int)).fparts)], bx g_2 143 (d6 x0.s7)] w) (_ : R6 c1l (N9.mk (x0.s7.j7.n : Int) (x0.s7.t7.n : Int)) x0 H K), c6K (Value.pointer (some ⟨g_7, 0, none⟩)) (vB c1l) w R E := by
       intro c1l H w I h
       unfold c6K
       intro _
       unfold R6 at h
       refine u0 (fun c2R => ?_) (fun c2R => ?_)
       ·replace h := h.1 c2R
        refine d7 (ldA Tryz.isAgg236 Tryz.sizeOf236 rfl (I.at1 (o := 0) (vs := [(vi (N9.mk (x0.s7.j7.n : Int) (x0.s7.t7.n : Int)).fexprs), (vi (N9.mk (x0.s7.j7.n : Int) (x0.s7.t7.n : Int)).fparts)]) (nb rfl) rfl)) ?_
        refine a7 (a8g _ _) ?_
        refine a7 (b4X _ _ _ _ _ _) ?_
        exact hR (decide ((N9.mk (x0.s7.j7.n : Int) (x0.s7.t7.n : Int)).fexprs = 0 ∧ (N9.mk (x0.s7.j7.n : Int) (x0.s7.t7.n : Int)).fparts = 2)) H _ I.drop.drop h
       ·replace h := h.2 c2R
        exact hR false H _ I.drop.drop h
      refine A7 fun j2 hx2 => ?_
      refine a7 (o2 _ _ _ _ _ _) ?_
      refine j8 (fun a9z => ?_) (fun a9z => ?_)
      ·replace h := h.1 a9z
       exact hx2 _ _ (hj2 (decide (x0.s7.a8 = 5)) H _ ((I.bring 1).bring 1) h)
      ·replace h := h.2 a9z
       refine a7 (o2 _ _ _ _ _ _) ?_
       exact hx2 _ _ (hj2 (decide (x0.s7.a8 = 6)) H _ ((I.bring 1).bring 1) h)
   refine A7 fun j1 hx1 => ?_
   refine a7 (o2 _ _ _ _ _ _) ?_
   refine j8 (fun a9A => ?_) (fun a9A => ?_)
   ·replace h := h.1 a9A
    exact hx1 _ _ (hj1 (decide (x0.s7.a8 = 1)) H _ ((D2.bring 1).bring 1) h)
   ·replace h := h.2 a9A
    refine a7 (o2 _ _ _ _ _ _) ?_
    exact hx1 _ _ (hj1 (decide (x0.s7.a8 = 2)) H _ ((D2.bring 1).bring 1) h)
theorem b4E (x0 : P1) {H : Hp} {K : Bool → Hp → Prop} (h : a2v x0 H K) : a4U x0 H K := by
 intro w I
 refine f1Z ?_
 refine b3S x0 I (fun r0 H' w' I' hk => ⟨H', _, I', r0, rfl, rfl, hk⟩) h
def R8 (b7T : Bool) (e9J : Int) (c1n : Bool) (q8 : T0) (v8 : S4) (H : Hp) (K : Bool → Hp → Prop) : Prop :=
 (c1n = true →
 K (b7T && (decide (q8.fexprs = 0 ∧ q8.fconds = 1))) H) ∧
 (c1n = false →
 (e9J = 7 →
 K (b7T && (decide (q8.fexprs = 0 ∧ q8.fconds = 0))) H) ∧
 (¬ (e9J = 7) →
 K false H))
def a2w (x0 : S4) (H : Hp) (K : Bool → Hp → Prop) : Prop :=
 (x0.i7.a8 = 1 →
 K ((!(decide (0 < (IntKind.wrap .i64 ((x0.i7.A4.n : Int) + (x0.i7.z7.n : Int)))))) && (decide ((x0.i7.j7.n : Int) = 1 ∧ (x0.i7.r8.n : Int) = 0))) H) ∧
 (¬ (x0.i7.a8 = 1) →
 (x0.i7.a8 = 2 →
 K ((!(decide (0 < (IntKind.wrap .i64 ((x0.i7.A4.n : Int) + (x0.i7.z7.n : Int)))))) && (decide ((x0.i7.j7.n : Int) = 2 ∧ (x0.i7.r8.n : Int) = 0))) H) ∧
 (¬ (x0.i7.a8 = 2) →
 (x0.i7.a8 = 3 →
 K ((decide (x0.i7.b7 = ⟨#[]⟩)) && (decide ((x0.i7.j7.n : Int) = 0 ∧ (x0.i7.r8.n : Int) = 1))) H) ∧
 (¬ (x0.i7.a8 = 3) →
 (x0.i7.a8 = 4 →
 K (((decide (x0.i7.b7 = ⟨#[]⟩)) && (decide ((x0.i7.z7.n : Int) = 0))) && (decide ((x0.i7.j7.n : Int) = 0 ∧ (x0.i7.r8.n : Int) = 1))) H) ∧
 (¬ (x0.i7.a8 = 4) →
 (x0.i7.a8 = 5 →
 R8 ((decide (x0.i7.b7 = ⟨#[]⟩)) && (!(decide (0 < (IntKind.wrap .i64 ((x0.i7.A4.n : Int) + (x0.i7.z7.n : Int))))))) x0.i7.a8 (decide (x0.i7.a8 = 5)) (T0.mk (x0.i7.j7.n : Int) (x0.i7.r8.n : Int)) x0 H K) ∧
 (¬ (x0.i7.a8 = 5) →
 R8 ((decide (x0.i7.b7 = ⟨#[]⟩)) && (!(decide (0 < (IntKind.wrap .i64 ((x0.i7.A4.n : Int) + (x0.i7.z7.n : Int))))))) x0.i7.a8 (decide (x0.i7.a8 = 6)) (T0.mk (x0.i7.j7.n : Int) (x0.i7.r8.n : Int)) x0 H K)))))
theorem b3V (x0 : S4) {K : Bool → Hp → Prop} (I : Inv w0 ps0 H0 H [] w) (hR : ∀ (r0 : Bool) (H' : Hp) (w' : World) (_ : Inv w0 ps0 H0 H' [] w') (_ : K r0 H'), R (vB r0) w') (h : a2w x0 H K) : d7E (Value.agg (g7 x0.i7).toArray) w R E := by
 unfold a2w at h
 unfold d7E
 refine L9 I (cs := (g7 x0.i7)) rfl fun g_2 w_3 I_4 k_5 => ?_
 refine a7 Q9 ?_
 refine a7 a3f ?_
 refine d7 (ld1 Tryz.isAgg23 (I_4.at1 (o := 4) (vs := [(vs x0.i7.A4)]) (nb rfl) rfl)) ?_
 refine a7 (a6t _ _ _) ?_
 refine a7 Q9 ?_
 refine a7 a3g ?_
 refine d7 (ld1 Tryz.isAgg23 (I_4.at1 (o := 5) (vs := [(vs x0.i7.z7)]) (nb rfl) rfl)) ?_
 refine a7 (a6t _ _ _) ?_
 refine a7 (L6 _ _ _ _ _ _) ?_
 refine a7 (a3B _ _ _ _ _ _) ?_
 refine a7 Q9 ?_
 refine a7 a4g ?_
 refine d7 (ld1 Tryz.isAgg51 (I_4.at1 (o := 2) (vs := [(vs x0.i7.j7)]) (nb rfl) rfl)) ?_
 refine a7 (a2l _ _ _) ?_
 refine a7 Q9 ?_
 refine a7 a3e ?_
 refine d7 (ld1 Tryz.isAgg57 (I_4.at1 (o := 3) (vs := [(vs x0.i7.r8)]) (nb rfl) rfl)) ?_
 refine a7 (a6u _ _ _) ?_
 refine a7 (a4A _ _) ?_
 refine y9 I_4 Tryz.zeroValue240 (cs := [(vi 0), (vi 0)]) rfl fun g_7 w_8 I_9 a9w => ?_
 refine m7 I_9 Tryz.sizeOf240 (vs := [(vi (x0.i7.j7.n : Int)), (vi (x0.i7.r8.n : Int))]) (cs' := [(vi (x0.i7.j7.n : Int)), (vi (x0.i7.r8.n : Int))]) rfl rfl (nb rfl) rfl rfl fun R1 D2 b5A => ?_
 refine a7 Q9 ?_
 refine a7 a5d ?_
 refine d7 (ld1 Tryz.isAgg9 ((D2.bring 1).at1 (o := 1) (vs := [(Value.string x0.i7.b7)]) (nb rfl) rfl)) ?_
 refine a7 (a4b _ _ _ _ _) ?_
 simp only [O5]
 refine a7 (Pu.g fun hb => by have i5 := hb; simp only [s8 i5]; exact (a0X _)) ?_
 refine a7 (N6 _ _) ?_
 refine a7 Q9 ?_
 refine a7 a3d ?_
 refine d7 (ld1 Tryz.isAgg3 ((D2.bring 1).at1 (o := 0) (vs := [(vi x0.i7.a8)]) (nb rfl) rfl)) ?_
 refine a7 (o2 _ _ _ _ _ _) ?_
 refine j8 (fun a6N => ?_) (fun a6N => ?_)
 ·replace h := h.1 a6N
  refine a7 (a0X _) ?_
  refine d7 (Ld.g fun hb => by have i5 := hb; exact (ldA Tryz.isAgg240 Tryz.sizeOf240 rfl (D2.at1 (o := 0) (vs := [(vi (x0.i7.j7.n : Int)), (vi (x0.i7.r8.n : Int))]) (nb rfl) rfl))) ?_
  refine a7 (Pu.g fun hb => by have i5 := hb; exact (a4A _ _)) ?_
  refine a7 (Pu.g fun hb => by have i5 := hb; simp only [s8 i5]; exact (a9L _ _ _ _ _ _)) ?_
  refine a7 (N6 _ _) ?_
  exact hR ((!(decide (0 < (IntKind.wrap .i64 ((x0.i7.A4.n : Int) + (x0.i7.z7.n : Int)))))) && (decide ((x0.i7.j7.n : Int) = 1 ∧ (x0.i7.r8.n : Int) = 0))) H _ D2.drop.drop h
 ·replace h := h.2 a6N
  refine a7 (o2 _ _ _ _ _ _) ?_
  refine j8 (fun b3T => ?_) (fun b3T => ?_)
  ·replace h := h.1 b3T
   refine a7 (a0X _) ?_
   refine d7 (Ld.g fun hb => by have i5 := hb; exact (ldA Tryz.isAgg240 Tryz.sizeOf240 rfl (D2.at1 (o := 0) (vs := [(vi (x0.i7.j7.n : Int)), (vi (x0.i7.r8.n : Int))]) (nb rfl) rfl))) ?_
   refine a7 (Pu.g fun hb => by have i5 := hb; exact (a4A _ _)) ?_
   refine a7 (Pu.g fun hb => by have i5 := hb; simp only [s8 i5]; exact (a9L _ _ _ _ _ _)) ?_
   refine a7 (N6 _ _) ?_
   exact hR ((!(decide (0 < (IntKind.wrap .i64 ((x0.i7.A4.n : Int) + (x0.i7.z7.n : Int)))))) && (decide ((x0.i7.j7.n : Int) = 2 ∧ (x0.i7.r8.n : Int) = 0))) H _ D2.drop.drop h
  ·replace h := h.2 b3T
   refine a7 (o2 _ _ _ _ _ _) ?_
   refine j8 (fun a9A => ?_) (fun a9A => ?_)
   ·replace h := h.1 a9A
    refine a7 Q9 ?_
    refine a7 a5d ?_
    refine d7 (ld1 Tryz.isAgg9 ((D2.bring 1).at1 (o := 1) (vs := [(Value.string x0.i7.b7)]) (nb rfl) rfl)) ?_
    refine a7 (a4b _ _ _ _ _) ?_
    refine d7 (Ld.g fun hb => by have i5 := hb; exact (ldA Tryz.isAgg240 Tryz.sizeOf240 rfl (D2.at1 (o := 0) (vs := [(vi (x0.i7.j7.n : Int)), (vi (x0.i7.r8.n : Int))]) (nb rfl) rfl))) ?_
    refine a7 (Pu.g fun hb => by have i5 := hb; exact (a4A _ _)) ?_
    refine a7 (Pu.g fun hb => by have i5 := hb; simp only [s8 i5]; exact (a9L _ _ _ _ _ _)) ?_
    refine a7 (N6 _ _) ?_
    exact hR ((decide (x0.i7.b7 = ⟨#[]⟩)) && (decide ((x0.i7.j7.n : Int) = 0 ∧ (x0.i7.r8.n : Int) = 1))) H _ D2.drop.drop h
   ·replace h := h.2 a9A
    refine a7 (o2 _ _ _ _ _ _) ?_
    refine j8 (fun a9y => ?_) (fun a9y => ?_)
    ·replace h := h.1 a9y
     refine a7 Q9 ?_
     refine a7 a5d ?_
     refine d7 (ld1 Tryz.isAgg9 ((D2.bring 1).at1 (o := 1) (vs := [(Value.string x0.i7.b7)]) (nb rfl) rfl)) ?_
     refine a7 (a4b _ _ _ _ _) ?_
     refine a7 (Pu.g fun hb => by have i5 := hb; exact Q9) ?_
     refine a7 (Pu.g fun hb => by have i5 := hb; simp only [s8 i5]; exact a3g) ?_
     refine d7 (Ld.g fun hb => by have i5 := hb; simp only [s8 i5]; exact (ld1 Tryz.isAgg23 ((D2.bring 1).at1 (o := 5) (vs := [(vs x0.i7.z7)]) (nb rfl) rfl))) ?_
     refine a7 (Pu.g fun hb => by have i5 := hb; simp only [s8 i5]; exact (a6t _ _ _)) ?_
     refine a7 (Pu.g fun hb => by have i5 := hb; simp only [s8 i5]; exact (o2 _ _ _ _ _ _)) ?_
     refine a7 (N6 _ _) ?_
     refine d7 (Ld.g fun hb => by have i5 := hb; exact (ldA Tryz.isAgg240 Tryz.sizeOf240 rfl (D2.at1 (o := 0) (vs := [(vi (x0.i7.j7.n : Int)), (vi (x0.i7.r8.n : Int))]) (nb rfl) rfl))) ?_
     refine a7 (Pu.g fun hb => by have i5 := hb; exact (a4A _ _)) ?_
     refine a7 (Pu.g fun hb => by have i5 := hb; simp only [s8 i5]; exact (a9L _ _ _ _ _ _)) ?_
     refine a7 (N6 _ _) ?_
     exact hR (((decide (x0.i7.b7 = ⟨#[]⟩)) && (decide ((x0.i7.z7.n : Int) = 0))) && (decide ((x0.i7.j7.n : Int) = 0 ∧ (x0.i7.r8.n : Int) = 1))) H _ D2.drop.drop h
    ·replace h := h.2 a9y
     have hj1 : ∀ (c1n : Bool) (H : Hp) (w : World) (_ : Inv w0 ps0 H0 H [bx g_7 240 [(vi (T0.mk (x0.i7.j7.n : Int) (x0.i7.r8.n : Int)).fexprs), (vi (T0.mk (x0.i7.j7.n : Int) (x0.i7.r8.n : Int)).fconds)], bx g_2 184 (g7 x0.i7)] w) (_ : R8 ((decide (x0.i7.b7 = ⟨#[]⟩)) && (!(decide (0 < (IntKind.wrap .i64 ((x0.i7.A4.n : Int) + (x0.i7.z7.n : Int))))))) x0.i7.a8 c1n (T0.mk (x0.i7.j7.n : Int) (x0.i7.r8.n : Int)) x0 H K), c6N (Value.pointer (some ⟨g_7, 0, none⟩)) (vB ((decide (x0.i7.b7 = ⟨#[]⟩)) && (!(decide (0 < (IntKind.wrap .i64 ((x0.i7.A4.n : Int) + (x0.i7.z7.n : Int)))))))) (vi x0.i7.a8) (vB c1n) w R E := by
      intro c1n H w I h
      unfold c6N
      intro _
      unfold R8 at h
      refine u0 (fun a9z => ?_) (fun a9z => ?_)
      ·replace h := h.1 a9z
       refine d7 (Ld.g fun hb => by have i5 := hb; exact (ldA Tryz.isAgg240 Tryz.sizeOf240 rfl (I.at1 (o := 0) (vs := [(vi (T0.mk (x0.i7.j7.n : Int) (x0.i7.r8.n : Int)).fexprs), (vi (T0.mk (x0.i7.j7.n : Int) (x0.i7.r8.n : Int)).fconds)]) (nb rfl) rfl))) ?_
       refine a7 (Pu.g fun hb => by have i5 := hb; exact (a4A _ _)) ?_
       refine a7 (Pu.g fun hb => by have i5 := hb; simp only [s8 i5]; exact (a9L _ _ _ _ _ _)) ?_
       refine a7 (N6 _ _) ?_
       exact hR (((decide (x0.i7.b7 = ⟨#[]⟩)) && (!(decide (0 < (IntKind.wrap .i64 ((x0.i7.A4.n : Int) + (x0.i7.z7.n : Int))))))) && (decide ((T0.mk (x0.i7.j7.n : Int) (x0.i7.r8.n : Int)).fexprs = 0 ∧ (T0.mk (x0.i7.j7.n : Int) (x0.i7.r8.n : Int)).fconds = 1))) H _ I.drop.drop h
      ·replace h := h.2 a9z
       refine a7 (o2 _ _ _ _ _ _) ?_
       refine j8 (fun c2R => ?_) (fun c2R => ?_)
       ·replace h := h.1 c2R
        refine d7 (Ld.g fun hb => by have i5 := hb; exact (ldA Tryz.isAgg240 Tryz.sizeOf240 rfl (I.at1 (o := 0) (vs := [(vi (T0.mk (x0.i7.j7.n : Int) (x0.i7.r8.n : Int)).fexprs), (vi (T0.mk (x0.i7.j7.n : Int) (x0.i7.r8.n : Int)).fconds)]) (nb rfl) rfl))) ?_
        refine a7 (Pu.g fun hb => by have i5 := hb; exact (d7d )) ?_
        refine a7 (Pu.g fun hb => by have i5 := hb; simp only [s8 i5]; exact (a9L _ _ _ _ _ _)) ?_
        refine a7 (N6 _ _) ?_
        exact hR (((decide (x0.i7.b7 = ⟨#[]⟩)) && (!(decide (0 < (IntKind.wrap .i64 ((x0.i7.A4.n : Int) + (x0.i7.z7.n : Int))))))) && (decide ((T0.mk (x0.i7.j7.n : Int) (x0.i7.r8.n : Int)).fexprs = 0 ∧ (T0.mk (x0.i7.j7.n : Int) (x0.i7.r8.n : Int)).fconds = 0))) H _ I.drop.drop h
       ·replace h := h.2 c2R
        exact hR false H _ I.drop.drop h
     refine A7 fun j1 hx1 => ?_
     refine a7 (o2 _ _ _ _ _ _) ?_
     refine j8 (fun b3U => ?_) (fun b3U => ?_)
     ·replace h := h.1 b3U
      exact hx1 _ _ (hj1 (decide (x0.i7.a8 = 5)) H _ ((D2.bring 1).bring 1) h)
     ·replace h := h.2 b3U
      refine a7 (o2 _ _ _ _ _ _) ?_
      exact hx1 _ _ (hj1 (decide (x0.i7.a8 = 6)) H _ ((D2.bring 1).bring 1) h)
theorem b4F (x0 : S4) {H : Hp} {K : Bool → Hp → Prop} (h : a2w x0 H K) : a4V x0 H K := by
 intro w I
 refine f2K ?_
 refine b3V x0 I (fun r0 H' w' I' hk => ⟨H', _, I', r0, rfl, rfl, hk⟩) h
def a2b (x0 : S4) (H : Hp) (K : Sl → Hp → Prop) : Prop :=
 G7 x0.i7.r8 H (fun (m5 : Sl) (H_8 : Hp) =>
 B5 x0.i7.j7 H_8 (fun (j9 : Sl) (a4W : Hp) =>
 B4 x0.i7.A4 a4W (fun (d8b : Sl) (c0c : Hp) =>
 B4 x0.i7.z7 c0c (fun (d8c : Sl) (b7U : Hp) =>
 ∀ (c6W : Sl) (d1C : Hp), Hle b7U d1C → SlH d1C 1 csl c6W [m5, j9, d8b, d8c] → c6W.n ≤ c6W.c →
 G2 c6W d1C (fun (b5e : Sl) (c2S : Hp) =>
 K b5e c2S)))))
theorem b2I (x0 : S4) {K : Sl → Hp → Prop} (I : Inv w0 ps0 H0 H [] w) (hR : ∀ (r0 : Sl) (H' : Hp) (w' : World) (_ : Inv w0 ps0 H0 H' [] w') (_ : K r0 H'), R (vs r0) w') (h : a2b x0 H K) : d7F (Value.agg (g7 x0.i7).toArray) w R E := by
 unfold a2b at h
 unfold d7F
 refine L9 I (cs := (g7 x0.i7)) rfl fun g_2 w_3 I_4 k_5 => ?_
 refine X7 I_4 fun w_6 I_7 => ?_
 refine m8 Q9 ?_
 refine m8 a3e ?_
 refine m8 Q9 ?_
 refine m8 a4g ?_
 refine m8 Q9 ?_
 refine m8 a3f ?_
 refine m8 Q9 ?_
 refine m8 a3g ?_
 refine y7 (ld1 Tryz.isAgg57 (I_7.at1 (o := 3) (vs := [(vs x0.i7.r8)]) (nb rfl) rfl)) ?_
 refine y7 (ld1 Tryz.isAgg51 (I_7.at1 (o := 2) (vs := [(vs x0.i7.j7)]) (nb rfl) rfl)) ?_
 refine y7 (ld1 Tryz.isAgg23 (I_7.at1 (o := 4) (vs := [(vs x0.i7.A4)]) (nb rfl) rfl)) ?_
 refine y7 (ld1 Tryz.isAgg23 (I_7.at1 (o := 5) (vs := [(vs x0.i7.z7)]) (nb rfl) rfl)) ?_
 refine d8 (cap := []) (fun args w => Tryz.call193 args w) ?_
 refine o0 (Fi := []) (Fr := [bx g_2 184 (g7 x0.i7)]) I_7 (h) (fun e5q H_8 e5r w_9 b0l c2E b5F c2F => ?_) (fun _ _ _ _ _ q => q.elim)
 obtain ⟨m5, rfl, rfl, h⟩ := c2F
 refine ⟨(b5F _ I_7.lt1 (Inv.a4c (Fi := []) I_7)), (b5F _ I_7.lt1 (Inv.a4c (Fi := []) I_7)), (b5F _ I_7.lt1 (Inv.a4c (Fi := []) I_7)), ?_⟩
 refine d8 (cap := []) (fun args w => Tryz.call189 args w) ?_
 refine o0 (Fi := []) (Fr := [bx g_2 184 (g7 x0.i7)]) b0l (h) (fun d7K a4W d7L u5 a9o d7M b9P b7D => ?_) (fun _ _ _ _ _ q => q.elim)
 obtain ⟨j9, rfl, rfl, h⟩ := b7D
 refine ⟨(b9P _ b0l.lt1 (Inv.a4c (Fi := []) b0l)), (b9P _ b0l.lt1 (Inv.a4c (Fi := []) b0l)), ?_⟩
 refine d8 (cap := []) (fun args w => Tryz.call78 args w) ?_
 refine o0 (Fi := []) (Fr := [bx g_2 184 (g7 x0.i7)]) a9o (h) (fun i4J c0c i4K Z6 c6U d1D h8Y h8Z => ?_) (fun _ _ _ _ _ q => q.elim)
 obtain ⟨d8b, rfl, rfl, h⟩ := h8Z
 refine ⟨(h8Y _ a9o.lt1 (Inv.a4c (Fi := []) a9o)), ?_⟩
 refine d8 (cap := []) (fun args w => Tryz.call78 args w) ?_
 refine o0 (Fi := []) (Fr := [bx g_2 184 (g7 x0.i7)]) c6U (h) (fun i4L b7U i4M J0 h9a i4N i4O h9b => ?_) (fun _ _ _ _ _ q => q.elim)
 obtain ⟨d8c, rfl, rfl, h⟩ := h9b
 refine a1s (e := 137) (c := csl) (xs := [m5, j9, d8b, d8c]) h9a (e5e _ _ _ _ _ _ _ _ _ _ _ _) rfl rfl c1a c1b (nb rfl) fun c6W i4P b9w h9c d1w g2f => ?_
 obtain ⟨d1C, b5L, h9d, b9V, d8d⟩ := Inv.freezeC d1w h9c (by decide)
 replace h := h c6W d1C h9d b9V d8d
 refine d8 (cap := []) (fun args w => Tryz.call75 args w) ?_
 refine o0 (Fi := []) (Fr := [bx g_2 184 (g7 x0.i7)]) b5L (h) (fun h9e c2S h9f b7V b1c h9g c0d e5P => ?_) (fun _ _ _ _ _ q => q.elim)
 obtain ⟨b5e, rfl, rfl, h⟩ := e5P
 exact hR b5e c2S _ b1c.drop h
theorem b3W (x0 : S4) {H : Hp} {K : Sl → Hp → Prop} (h : a2b x0 H K) : a7N x0 H K := by
 intro w I
 refine f2M ?_
 refine b2I x0 I (fun r0 H' w' I' hk => ⟨H', _, I', r0, rfl, rfl, hk⟩) h
end Go.Proofs.YtnhkdkcgdcgmdaaGreatDoor
