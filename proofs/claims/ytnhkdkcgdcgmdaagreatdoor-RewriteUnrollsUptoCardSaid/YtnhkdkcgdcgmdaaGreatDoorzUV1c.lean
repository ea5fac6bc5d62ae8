/- Typed formulas of the program's functions, and the theorems that the contracts follow from them; printed by lift.py off the code. -/
import Derived.Test.YtnhkdkcgdcgmdaaGreatDoorzUV1
namespace Go.Proofs.YtnhkdkcgdcgmdaaGreatDoor
open Go.RowKit
set_option maxRecDepth 100000
set_option maxHeartbeats 2000000
variable {w0 w : World} {ps0 : Nat → Prop} {H0 H : Hp} {R : RT} {E : Pan}
def a8m (x0 : Int) (H : Hp) (K : Bool → Hp → Prop) : Prop :=
 a8j x0 H (fun (J8 : Int) (H_1 : Hp) =>
 K ((decide (J8 = 3)) || (decide (J8 = 4))) H_1)
theorem c3z (x0 : Int) {K : Bool → Hp → Prop} (I : Inv w0 ps0 H0 H [] w) (hR : ∀ (r0 : Bool) (H' : Hp) (w' : World) (_ : Inv w0 ps0 H0 H' [] w') (_ : K r0 H'), R (vB r0) w') (h : a8m x0 H K) : e4d (Value.int .i32 x0) w R E := by
 unfold a8m at h
 unfold e4d
 refine f7 (cap := []) (fun args w => Tryz.call166 args w) ?_
 refine k8 (Fi := []) (Fr := []) I (h) (fun v_5 H_1 F_6 w_2 I_3 l_8 k_4 q_7 => ?_) (fun _ _ _ _ _ q => q.elim)
 obtain ⟨J8, rfl, rfl, h⟩ := q_7
 refine a7 (k7 _ _ _ _ _ _) ?_
 simp only [z2]
 refine a7 (Pu.g fun hb => by have d7 := hb; simp only [i6 d7]; exact (k7 _ _ _ _ _ _)) ?_
 refine a7 (M4 _ _) ?_
 exact hR ((decide (J8 = 3)) || (decide (J8 = 4))) H_1 _ I_3 h
theorem c4B (x0 : Int) {H : Hp} {K : Bool → Hp → Prop} (h : a8m x0 H K) : b0X x0 H K := by
 intro w I
 refine g1r ?_
 refine c3z x0 I (fun r0 H' w' I' hk => ⟨H', _, I', r0, rfl, rfl, hk⟩) h
def u6 (v6 : Bool) (H : Hp) (K : Bool → Hp → Prop) : Prop :=
 (v6 = true →
 K true H) ∧
 (v6 = false →
 K false H)
def a9C (x0 : ByteArray) (H : Hp) (K : Bool → Hp → Prop) : Prop :=
 (x0 = ⟨#[118, 97, 114]⟩ →
 u6 (decide (x0 = ⟨#[118, 97, 114]⟩)) H K) ∧
 (¬ (x0 = ⟨#[118, 97, 114]⟩) →
 (x0 = ⟨#[97, 114, 114, 97, 121]⟩ →
 u6 (decide (x0 = ⟨#[97, 114, 114, 97, 121]⟩)) H K) ∧
 (¬ (x0 = ⟨#[97, 114, 114, 97, 121]⟩) →
 (x0 = ⟨#[105, 102]⟩ →
 u6 (decide (x0 = ⟨#[105, 102]⟩)) H K) ∧
 (¬ (x0 = ⟨#[105, 102]⟩) →
 (x0 = ⟨#[101, 108, 115, 101]⟩ →
 u6 (decide (x0 = ⟨#[101, 108, 115, 101]⟩)) H K) ∧
 (¬ (x0 = ⟨#[101, 108, 115, 101]⟩) →
 (x0 = ⟨#[119, 104, 105, 108, 101]⟩ →
 u6 (decide (x0 = ⟨#[119, 104, 105, 108, 101]⟩)) H K) ∧
 (¬ (x0 = ⟨#[119, 104, 105, 108, 101]⟩) →
 (x0 = ⟨#[97, 115, 115, 101, 114, 116]⟩ →
 u6 (decide (x0 = ⟨#[97, 115, 115, 101, 114, 116]⟩)) H K) ∧
 (¬ (x0 = ⟨#[97, 115, 115, 101, 114, 116]⟩) →
 (x0 = ⟨#[97, 115, 115, 117, 109, 101]⟩ →
 u6 (decide (x0 = ⟨#[97, 115, 115, 117, 109, 101]⟩)) H K) ∧
 (¬ (x0 = ⟨#[97, 115, 115, 117, 109, 101]⟩) →
 (x0 = ⟨#[115, 107, 105, 112]⟩ →
 u6 (decide (x0 = ⟨#[115, 107, 105, 112]⟩)) H K) ∧
 (¬ (x0 = ⟨#[115, 107, 105, 112]⟩) →
 (x0 = ⟨#[105, 110, 112, 117, 116]⟩ →
 u6 (decide (x0 = ⟨#[105, 110, 112, 117, 116]⟩)) H K) ∧
 (¬ (x0 = ⟨#[105, 110, 112, 117, 116]⟩) →
 (x0 = ⟨#[116, 114, 117, 101]⟩ →
 u6 (decide (x0 = ⟨#[116, 114, 117, 101]⟩)) H K) ∧
 (¬ (x0 = ⟨#[116, 114, 117, 101]⟩) →
 u6 (decide (x0 = ⟨#[102, 97, 108, 115, 101]⟩)) H K))))))))))
theorem c5Q (x0 : ByteArray) {K : Bool → Hp → Prop} (I : Inv w0 ps0 H0 H [] w) (hR : ∀ (r0 : Bool) (H' : Hp) (w' : World) (_ : Inv w0 ps0 H0 H' [] w') (_ : K r0 H'), R (vB r0) w') (h : a9C x0 H K) : e4c (Value.string x0) w R E := by
 unfold a9C at h
 unfold e4c
 have hj1 : ∀ (v6 : Bool) (H : Hp) (w : World) (_ : Inv w0 ps0 H0 H [] w) (_ : u6 v6 H K), d3b (vB v6) w R E := by
  intro v6 H w I h
  unfold d3b
  intro _
  unfold u6 at h
  refine o2 (fun c_1 => ?_) (fun c_1 => ?_)
  ·replace h := h.1 c_1
   exact hR true H _ I h
  ·replace h := h.2 c_1
   exact hR false H _ I h
 refine r9 fun j1 hx1 => ?_
 refine a7 (W6 _ _ _ _ _) ?_
 refine k4 (fun b0t => ?_) (fun b0t => ?_)
 ·replace h := h.1 b0t
  exact hx1 _ _ (hj1 (decide (x0 = ⟨#[118, 97, 114]⟩)) H _ I h)
 ·replace h := h.2 b0t
  refine a7 (W6 _ _ _ _ _) ?_
  refine k4 (fun c9f => ?_) (fun c9f => ?_)
  ·replace h := h.1 c9f
   exact hx1 _ _ (hj1 (decide (x0 = ⟨#[97, 114, 114, 97, 121]⟩)) H _ I h)
  ·replace h := h.2 c9f
   refine a7 (W6 _ _ _ _ _) ?_
   refine k4 (fun c_9 => ?_) (fun c_9 => ?_)
   ·replace h := h.1 c_9
    exact hx1 _ _ (hj1 (decide (x0 = ⟨#[105, 102]⟩)) H _ I h)
   ·replace h := h.2 c_9
    refine a7 (W6 _ _ _ _ _) ?_
    refine k4 (fun c_8 => ?_) (fun c_8 => ?_)
    ·replace h := h.1 c_8
     exact hx1 _ _ (hj1 (decide (x0 = ⟨#[101, 108, 115, 101]⟩)) H _ I h)
    ·replace h := h.2 c_8
     refine a7 (W6 _ _ _ _ _) ?_
     refine k4 (fun c_7 => ?_) (fun c_7 => ?_)
     ·replace h := h.1 c_7
      exact hx1 _ _ (hj1 (decide (x0 = ⟨#[119, 104, 105, 108, 101]⟩)) H _ I h)
     ·replace h := h.2 c_7
      refine a7 (W6 _ _ _ _ _) ?_
      refine k4 (fun c_6 => ?_) (fun c_6 => ?_)
      ·replace h := h.1 c_6
       exact hx1 _ _ (hj1 (decide (x0 = ⟨#[97, 115, 115, 101, 114, 116]⟩)) H _ I h)
      ·replace h := h.2 c_6
       refine a7 (W6 _ _ _ _ _) ?_
       refine k4 (fun c_5 => ?_) (fun c_5 => ?_)
       ·replace h := h.1 c_5
        exact hx1 _ _ (hj1 (decide (x0 = ⟨#[97, 115, 115, 117, 109, 101]⟩)) H _ I h)
       ·replace h := h.2 c_5
        refine a7 (W6 _ _ _ _ _) ?_
        refine k4 (fun c_4 => ?_) (fun c_4 => ?_)
        ·replace h := h.1 c_4
         exact hx1 _ _ (hj1 (decide (x0 = ⟨#[115, 107, 105, 112]⟩)) H _ I h)
        ·replace h := h.2 c_4
         refine a7 (W6 _ _ _ _ _) ?_
         refine k4 (fun c_3 => ?_) (fun c_3 => ?_)
         ·replace h := h.1 c_3
          exact hx1 _ _ (hj1 (decide (x0 = ⟨#[105, 110, 112, 117, 116]⟩)) H _ I h)
         ·replace h := h.2 c_3
          refine a7 (W6 _ _ _ _ _) ?_
          refine k4 (fun c_2 => ?_) (fun c_2 => ?_)
          ·replace h := h.1 c_2
           exact hx1 _ _ (hj1 (decide (x0 = ⟨#[116, 114, 117, 101]⟩)) H _ I h)
          ·replace h := h.2 c_2
           refine a7 (W6 _ _ _ _ _) ?_
           exact hx1 _ _ (hj1 (decide (x0 = ⟨#[102, 97, 108, 115, 101]⟩)) H _ I h)
theorem c8e (x0 : ByteArray) {H : Hp} {K : Bool → Hp → Prop} (h : a9C x0 H K) : a7h x0 H K := by
 intro w I
 refine g1p ?_
 refine c5Q x0 I (fun r0 H' w' I' hk => ⟨H', _, I', r0, rfl, rfl, hk⟩) h
def a1x (x0 : (List ByteArray)) (x1 : ByteArray) (H : Hp) (K : Bool → Hp → Prop) : Prop :=
 a5V x0 x1 H (fun (J8 : Int) (H_1 : Hp) =>
 K (decide (0 ≤ J8)) H_1)
theorem b3t (x0 : (List ByteArray)) (x1 : ByteArray) (sx0 : Sl) (Fx0 : Frag) (hx0 : RowL 9 1 O8 sx0 x0 Fx0) {K : Bool → Hp → Prop} (I : Inv w0 ps0 H0 H [Fx0] w) (hR : ∀ (r0 : Bool) (H' : Hp) (w' : World) (_ : Inv w0 ps0 H0 H' [Fx0] w') (_ : K r0 H'), R (vB r0) w') (h : a1x x0 x1 H K) : e4a (vs sx0) (Value.string x1) w R E := by
 unfold a1x at h
 unfold e4a
 refine f7 (cap := []) (fun args w => Tryz.call167 args w) ?_
 refine k8 (Fi := [Fx0]) (Fr := []) I (h sx0 Fx0 hx0) (fun v_5 H_1 F_6 w_2 I_3 l_8 k_4 q_7 => ?_) (fun _ _ _ _ _ q => q.elim)
 obtain ⟨J8, rfl, rfl, h⟩ := q_7
 refine a7 (a7e _ _ _ _ _ _) ?_
 exact hR (decide (0 ≤ J8)) H_1 _ I_3 h
theorem b3Y (x0 : (List ByteArray)) (x1 : ByteArray) {H : Hp} {K : Bool → Hp → Prop} (h : a1x x0 x1 H K) : V3 x0 x1 H K := by
 intro sx0 Fx0 hx0 w I
 refine g1l ?_
 refine b3t x0 x1 sx0 Fx0 hx0 I (fun r0 H' w' I' hk => ⟨H', _, I', r0, rfl, rfl, hk⟩) h
def D6 (b8a : Int) (b8b : Int) (b8c : Int) (b8d : Bool) (b8e : Bool) (b5I : (List ByteArray)) (H : Hp) (K : Bool → m7 → (List ByteArray) → Hp → Prop) : Prop :=
 K true (m7.mk b8a b8b b8c b8d b8e (Sl.mk none 0 0)) b5I H
def a3U (x0 : m7) (a4e : (List ByteArray)) (x1 : g8) (x2 : Int) (H : Hp) (K : Bool → m7 → (List ByteArray) → Hp → Prop) : Prop :=
 (4096 < (IntKind.wrap .i64 (x0.fnodes + 1)) →
 K false (m7.mk (IntKind.wrap .i64 (x0.fnodes + 1)) x0.fdepth 33 x0.fform x0.fnamed (Sl.mk none 0 0)) a4e H) ∧
 (¬ (4096 < (IntKind.wrap .i64 (x0.fnodes + 1))) →
 (64 < x2 →
 K false (m7.mk (IntKind.wrap .i64 (x0.fnodes + 1)) x0.fdepth 32 x0.fform x0.fnamed (Sl.mk none 0 0)) a4e H) ∧
 (¬ (64 < x2) →
 TG (x0.fform = false) (b0l x1 H) false H (fun (A4 : Bool) (a1X : Hp) =>
 a6I x1 a1X (fun (u2 : ByteArray) (c3A : Bool) (a4x : Hp) =>
 (c3A = true →
 TG (x0.fnamed = false) (a9x u2 a4x) false a4x (fun (a8n : Bool) (c1h : Hp) =>
 V3 a4e u2 c1h (fun (P2 : Bool) (a6j : Hp) =>
 ((!P2) = true →
 (a4e.length + ([u2] : List ByteArray).length) * 17 ≤ 140737488355328 ∧
 D6 (IntKind.wrap .i64 (x0.fnodes + 1)) (if x2 > x0.fdepth then x2 else x0.fdepth) x0.fe (x0.fform || (!A4)) (x0.fnamed || (!a8n)) (a4e ++ [u2]) a6j K) ∧
 ((!P2) = false →
 D6 (IntKind.wrap .i64 (x0.fnodes + 1)) (if x2 > x0.fdepth then x2 else x0.fdepth) x0.fe (x0.fform || (!A4)) (x0.fnamed || (!a8n)) a4e a6j K)))) ∧
 (c3A = false →
 D6 (IntKind.wrap .i64 (x0.fnodes + 1)) (if x2 > x0.fdepth then x2 else x0.fdepth) x0.fe (x0.fform || (!A4)) x0.fnamed a4e a4x K)))))
theorem b6z (x0 : m7) (a4e : (List ByteArray)) (x1 : g8) (x2 : Int) (g0 : Nat) (a3J : Sl) (a8O : Frag) (c0A : RowL 9 1 O8 a3J a4e a8O) {K : Bool → m7 → (List ByteArray) → Hp → Prop} (I : Inv w0 ps0 H0 H [bx g0 101 [(vi x0.fnodes), (vi x0.fdepth), (vi x0.fe), (vB x0.fform), (vB x0.fnamed), (vs a3J)], a8O] w) (hR : ∀ (r0 : Bool) (y0 : m7) (b3d : (List ByteArray)) (b0e : Sl) (b0f : Frag) (H' : Hp) (w' : World) (_ : RowL 9 1 O8 b0e b3d b0f) (_ : Inv w0 ps0 H0 H' [bx g0 101 [(vi y0.fnodes), (vi y0.fdepth), (vi y0.fe), (vB y0.fform), (vB y0.fnamed), (vs b0e)], b0f] w') (_ : K r0 y0 b3d H'), R (vB r0) w') (h : a3U x0 a4e x1 x2 H K) : e3U (Value.pointer (some ⟨g0, 0, none⟩)) (E8 x1) (vi x2) w R E := by
 unfold a3U at h
 unfold e3U
 refine a7 (w7 _) ?_
 refine a7 c0O ?_
 refine f2 (ld1 Tryz.isAgg3 (I.at1 (o := 0) (vs := [(vi x0.fnodes)]) (nb rfl) rfl)) ?_
 refine a7 (u7 _ _ _ _ _ _) ?_
 refine a7 (w7 _) ?_
 refine a7 c0O ?_
 refine m5 I Tryz.sizeOf3 (vs := [(vi (IntKind.wrap .i64 (x0.fnodes + 1)))]) (cs' := [(vi (IntKind.wrap .i64 (x0.fnodes + 1))), (vi x0.fdepth), (vi x0.fe), (vB x0.fform), (vB x0.fnamed), (vs a3J)]) rfl rfl (nb rfl) rfl rfl fun w_1 I_2 k_3 => ?_
 refine a7 (w7 _) ?_
 refine a7 c0O ?_
 refine f2 (ld1 Tryz.isAgg3 (I_2.at1 (o := 0) (vs := [(vi (IntKind.wrap .i64 (x0.fnodes + 1)))]) (nb rfl) rfl)) ?_
 refine a7 (a7Q _ _ _ _ _ _) ?_
 refine k4 (fun b9c => ?_) (fun b9c => ?_)
 ·replace h := h.1 b9c
  refine a7 (w7 _) ?_
  refine a7 a9c ?_
  refine m5 I_2 Tryz.sizeOf27 (vs := [(vi 33)]) (cs' := [(vi (IntKind.wrap .i64 (x0.fnodes + 1))), (vi x0.fdepth), (vi 33), (vB x0.fform), (vB x0.fnamed), (vs a3J)]) rfl rfl (nb rfl) rfl rfl fun w_4 I_5 k_6 => ?_
  exact hR false (m7.mk (IntKind.wrap .i64 (x0.fnodes + 1)) x0.fdepth 33 x0.fform x0.fnamed (Sl.mk none 0 0)) a4e a3J a8O H _ c0A ((I_5.bring 1).bring 1) h
 ·replace h := h.2 b9c
  refine a7 (a7Q _ _ _ _ _ _) ?_
  refine k4 (fun b0u => ?_) (fun b0u => ?_)
  ·replace h := h.1 b0u
   refine a7 (w7 _) ?_
   refine a7 a9c ?_
   refine m5 I_2 Tryz.sizeOf27 (vs := [(vi 32)]) (cs' := [(vi (IntKind.wrap .i64 (x0.fnodes + 1))), (vi x0.fdepth), (vi 32), (vB x0.fform), (vB x0.fnamed), (vs a3J)]) rfl rfl (nb rfl) rfl rfl fun w_7 I_8 k_9 => ?_
   exact hR false (m7.mk (IntKind.wrap .i64 (x0.fnodes + 1)) x0.fdepth 32 x0.fform x0.fnamed (Sl.mk none 0 0)) a4e a3J a8O H _ c0A ((I_8.bring 1).bring 1) h
  ·replace h := h.2 b0u
   refine a7 (w7 _) ?_
   refine a7 c8w ?_
   refine f2 (ld1 Tryz.isAgg3 (I_2.at1 (o := 1) (vs := [(vi x0.fdepth)]) (nb rfl) rfl)) ?_
   refine a7 (e9Q _ _ _ _ _) ?_
   refine a7 (w7 _) ?_
   refine a7 c8w ?_
   refine m5 I_2 Tryz.sizeOf3 (vs := [(vi (if x2 > x0.fdepth then x2 else x0.fdepth))]) (cs' := [(vi (IntKind.wrap .i64 (x0.fnodes + 1))), (vi (if x2 > x0.fdepth then x2 else x0.fdepth)), (vi x0.fe), (vB x0.fform), (vB x0.fnamed), (vs a3J)]) rfl rfl (nb rfl) rfl rfl fun o9 a3G b3h => ?_
   refine a7 (w7 _) ?_
   refine a7 c0P ?_
   refine f2 (ld1 Tryz.isAgg4 (a3G.at1 (o := 3) (vs := [(vB x0.fform)]) (nb rfl) rfl)) ?_
   simp only [z2]
   refine a4I (D := fun d3r p6 => ∃ (A4 : Bool) (a1X : Hp), d3r = (gv x0.fform false (vB A4)) ∧ (Inv w0 ps0 H0 a1X [bx g0 101 [(vi (IntKind.wrap .i64 (x0.fnodes + 1))), (vi (if x2 > x0.fdepth then x2 else x0.fdepth)), (vi x0.fe), (vB x0.fform), (vB x0.fnamed), (vs a3J)], a8O] p6) ∧ (∀ i, i < o9.heap.size → ¬ inF [] i → p6.heap[i]? = o9.heap[i]?) ∧ Hle H a1X ∧ (a6I x1 a1X (fun (u2 : ByteArray) (c3A : Bool) (a4x : Hp) =>
 (c3A = true →
 TG (x0.fnamed = false) (a9x u2 a4x) false a4x (fun (a8n : Bool) (c1h : Hp) =>
 V3 a4e u2 c1h (fun (P2 : Bool) (a6j : Hp) =>
 ((!P2) = true →
 (a4e.length + ([u2] : List ByteArray).length) * 17 ≤ 140737488355328 ∧
 D6 (IntKind.wrap .i64 (x0.fnodes + 1)) (if x2 > x0.fdepth then x2 else x0.fdepth) x0.fe (x0.fform || (!A4)) (x0.fnamed || (!a8n)) (a4e ++ [u2]) a6j K) ∧
 ((!P2) = false →
 D6 (IntKind.wrap .i64 (x0.fnodes + 1)) (if x2 > x0.fdepth then x2 else x0.fdepth) x0.fe (x0.fform || (!A4)) (x0.fnamed || (!a8n)) a4e a6j K)))) ∧
 (c3A = false →
 D6 (IntKind.wrap .i64 (x0.fnodes + 1)) (if x2 > x0.fdepth then x2 else x0.fdepth) x0.fe (x0.fform || (!A4)) x0.fnamed a4e a4x K)))) (fun d8J => ?_) (fun d8J => ?_) ?_
   ·replace h := h.1 d8J
    have d7 := d8J
    simp only [i6 d7]
    refine c1P a3G h (fun A4 a1X p6 b3m c2V b8S h => ?_)
    exact ⟨A4, a1X, by rfl, b3m, b8S, c2V, h⟩
   ·exact ⟨false, H, by rw [a9I d8J], a3G, fun _ _ _ => rfl, Hle.refl _, h.2 d8J⟩
   ·clear h
    rintro d3r p6 ⟨A4, a1X, rfl, b3m, b8S, c2V, h⟩
    refine a7 (Pu.g fun hb => by have d7 := hb; simp only [i6 d7]; exact (T4 _)) ?_
    refine a7 (M4 _ _) ?_
    refine a7 (w7 _) ?_
    refine a7 c0P ?_
    refine m5 b3m Tryz.sizeOf4 (vs := [(vB (x0.fform || (!A4)))]) (cs' := [(vi (IntKind.wrap .i64 (x0.fnodes + 1))), (vi (if x2 > x0.fdepth then x2 else x0.fdepth)), (vi x0.fe), (vB (x0.fform || (!A4))), (vB x0.fnamed), (vs a3J)]) rfl rfl (nb rfl) rfl rfl fun X1 b0Y c3k => ?_
    have hj1 : ∀ (b8a : Int) (b8b : Int) (b8c : Int) (b8d : Bool) (b8e : Bool) (b5I : (List ByteArray)) (c3B : Sl) (c3C : Frag) (H : Hp) (w : World) (_ : RowL 9 1 O8 c3B b5I c3C) (_ : Inv w0 ps0 H0 H [bx g0 101 [(vi b8a), (vi b8b), (vi b8c), (vB b8d), (vB b8e), (vs c3B)], c3C] w) (_ : D6 b8a b8b b8c b8d b8e b5I H K), d2W w R E := by
     intro b8a b8b b8c b8d b8e b5I c3B c3C H w f4n I h
     unfold d2W
     intro _
     unfold D6 at h
     exact hR true (m7.mk b8a b8b b8c b8d b8e (Sl.mk none 0 0)) b5I c3B c3C H _ f4n ((I.bring 1).bring 1) h
    refine r9 fun j1 hx1 => ?_
    refine f7 (cap := []) (fun args w => Tryz.call143 args w) ?_
    refine k8 (Fi := []) (Fr := [bx g0 101 [(vi (IntKind.wrap .i64 (x0.fnodes + 1))), (vi (if x2 > x0.fdepth then x2 else x0.fdepth)), (vi x0.fe), (vB (x0.fform || (!A4))), (vB x0.fnamed), (vs a3J)], a8O]) b0Y (h) (fun f4o a4x b4v a6X a6k c3D c9g c9h => ?_) (fun _ _ _ _ _ q => q.elim)
    obtain ⟨u2, c3A, rfl, rfl, h⟩ := c9h
    refine a7 (r6 _ _ (Value.string u2) rfl) ?_
    refine a7 (r6 _ _ (vB c3A) rfl) ?_
    refine o2 (fun b9d => ?_) (fun b9d => ?_)
    ·replace h := h.1 b9d
     refine a7 (w7 _) ?_
     refine a7 c0Q ?_
     refine f2 (ld1 Tryz.isAgg4 (a6k.at1 (o := 4) (vs := [(vB x0.fnamed)]) (nb rfl) rfl)) ?_
     simp only [z2]
     refine a4I (D := fun f4p C3 => ∃ (a8n : Bool) (c1h : Hp) , f4p = (gv x0.fnamed false (vB a8n)) ∧ (Inv w0 ps0 H0 c1h [bx g0 101 [(vi (IntKind.wrap .i64 (x0.fnodes + 1))), (vi (if x2 > x0.fdepth then x2 else x0.fdepth)), (vi x0.fe), (vB (x0.fform || (!A4))), (vB x0.fnamed), (vs a3J)], a8O] C3) ∧ (∀ i, i < a6X.heap.size → ¬ inF [] i → C3.heap[i]? = a6X.heap[i]?) ∧ Hle a4x c1h ∧ (V3 a4e u2 c1h (fun (P2 : Bool) (a6j : Hp) =>
 ((!P2) = true →
 (a4e.length + ([u2] : List ByteArray).length) * 17 ≤ 140737488355328 ∧
 D6 (IntKind.wrap .i64 (x0.fnodes + 1)) (if x2 > x0.fdepth then x2 else x0.fdepth) x0.fe (x0.fform || (!A4)) (x0.fnamed || (!a8n)) (a4e ++ [u2]) a6j K) ∧
 ((!P2) = false →
 D6 (IntKind.wrap .i64 (x0.fnodes + 1)) (if x2 > x0.fdepth then x2 else x0.fdepth) x0.fe (x0.fform || (!A4)) (x0.fnamed || (!a8n)) a4e a6j K)))) (fun b5J => ?_) (fun b5J => ?_) ?_
     ·replace h := h.1 b5J
      have d7 := b5J
      simp only [i6 d7]
      refine f7 (cap := []) (fun args w => Tryz.call144 args w) ?_
      refine k8 (Fi := []) (Fr := [bx g0 101 [(vi (IntKind.wrap .i64 (x0.fnodes + 1))), (vi (if x2 > x0.fdepth then x2 else x0.fdepth)), (vi x0.fe), (vB (x0.fform || (!A4))), (vB x0.fnamed), (vs a3J)], a8O]) a6k (h) (fun f4p c1h k0g C3 b9e h4W e5y j3f => ?_) (fun _ _ _ _ _ q => q.elim)
      obtain ⟨a8n, rfl, rfl, h⟩ := j3f
      exact ⟨a8n, c1h, by rfl, b9e, e5y, h4W, h⟩
     ·exact ⟨false, a4x, by rw [a9I b5J], a6k, fun _ _ _ => rfl, Hle.refl _, h.2 b5J⟩
     ·clear h
      rintro f4p C3 ⟨a8n, c1h, rfl, b9e, e5y, h4W, h⟩
      refine a7 (Pu.g fun hb => by have d7 := hb; simp only [i6 d7]; exact (T4 _)) ?_
      refine a7 (M4 _ _) ?_
      refine a7 (w7 _) ?_
      refine a7 c0Q ?_
      refine m5 b9e Tryz.sizeOf4 (vs := [(vB (x0.fnamed || (!a8n)))]) (cs' := [(vi (IntKind.wrap .i64 (x0.fnodes + 1))), (vi (if x2 > x0.fdepth then x2 else x0.fdepth)), (vi x0.fe), (vB (x0.fform || (!A4))), (vB (x0.fnamed || (!a8n))), (vs a3J)]) rfl rfl (nb rfl) rfl rfl fun J7 c5R e5z => ?_
      refine a7 (w7 _) ?_
      refine a7 c0R ?_
      refine f2 (ld1 Tryz.isAgg88 (c5R.at1 (o := 5) (vs := [(vs a3J)]) (nb rfl) rfl)) ?_
      refine f7 (cap := []) (fun args w => Tryz.call145 args w) ?_
      refine k8 (Fi := [a8O]) (Fr := [bx g0 101 [(vi (IntKind.wrap .i64 (x0.fnodes + 1))), (vi (if x2 > x0.fdepth then x2 else x0.fdepth)), (vi x0.fe), (vB (x0.fform || (!A4))), (vB (x0.fnamed || (!a8n))), (vs a3J)]]) (c5R.bring 1) (h a3J a8O c0A) (fun e5A a6j e5B D8 b1A e5C d7V c3E => ?_) (fun _ _ _ _ _ q => q.elim)
      obtain ⟨P2, rfl, rfl, h⟩ := c3E
      refine a7 (T4 _) ?_
      refine o2 (fun c9i => ?_) (fun c9i => ?_)
      ·replace h := h.1 c9i
       refine a7 (w7 _) ?_
       refine a7 c0R ?_
       refine f2 (ld1 Tryz.isAgg88 ((b1A.bring 1).at1 (o := 5) (vs := [(vs a3J)]) (nb rfl) rfl)) ?_
       refine a4b (e := 9) (c := O8) (xs := [u2]) b1A (f9X _) rfl rfl c8t c8u (nb rfl) fun k0h j3g b6S b8N c5S k0i => ?_
       obtain ⟨c5I, h⟩ := h
       refine g7t (s := a3J) (xs := a4e) (c5S.bring 1) c0A (b8N.srcO ((c5S.bring 1).bring 1)) c5I fun f4q j3h b5y c3f c5T d3z => ?_
       refine a7 (w7 _) ?_
       refine a7 c0R ?_
       refine m5 ((c5T.bring 1).drop.bring 1) Tryz.sizeOf88 (vs := [(vs f4q)]) (cs' := [(vi (IntKind.wrap .i64 (x0.fnodes + 1))), (vi (if x2 > x0.fdepth then x2 else x0.fdepth)), (vi x0.fe), (vB (x0.fform || (!A4))), (vB (x0.fnamed || (!a8n))), (vs f4q)]) rfl rfl (nb rfl) rfl rfl fun Z8 f4r k0j => ?_
       exact hx1 _ _ (hj1 (IntKind.wrap .i64 (x0.fnodes + 1)) (if x2 > x0.fdepth then x2 else x0.fdepth) x0.fe (x0.fform || (!A4)) (x0.fnamed || (!a8n)) (a4e ++ [u2]) f4q j3h a6j _ c3f ((f4r.bring 1).bring 1) h)
      ·replace h := h.2 c9i
       exact hx1 _ _ (hj1 (IntKind.wrap .i64 (x0.fnodes + 1)) (if x2 > x0.fdepth then x2 else x0.fdepth) x0.fe (x0.fform || (!A4)) (x0.fnamed || (!a8n)) a4e a3J a8O a6j _ c0A (b1A.bring 1) h)
    ·replace h := h.2 b9d
     exact hx1 _ _ (hj1 (IntKind.wrap .i64 (x0.fnodes + 1)) (if x2 > x0.fdepth then x2 else x0.fdepth) x0.fe (x0.fform || (!A4)) x0.fnamed a4e a3J a8O a4x _ c0A ((a6k.bring 1).bring 1) h)
theorem b7h (x0 : m7) (a4e : (List ByteArray)) (x1 : g8) (x2 : Int) {H : Hp} {K : Bool → m7 → (List ByteArray) → Hp → Prop} (h : a3U x0 a4e x1 x2 H K) : a7a x0 a4e x1 x2 H K := by
 intro g0 a3J a8O c0A w I
 refine g0Z ?_
 refine b6z x0 a4e x1 x2 g0 a3J a8O c0A I (fun r0 y0 b3d b0e b0f H' w' d8y I' hk => ⟨H', _, I', r0, y0, b3d, b0e, b0f, rfl, rfl, d8y, hk⟩) h
def S3 (b5K : Int) (b5L : Int) (b5M : Int) (b5N : Bool) (b5O : Bool) (b6A : (List ByteArray)) (H : Hp) (K : m7 → Hp → Prop) : Prop :=
 ∀ (a7E : Sl) (b1E : Hp), Hle H b1E → SlH b1E 1 O8 a7E b6A → a7E.n ≤ a7E.c →
 K (m7.mk b5K b5L b5M b5N b5O a7E) b1E
def a7y (x0 : Sl) (H : Hp) (K : m7 → Hp → Prop) : Prop :=
 a3P x0 1 (m7.mk 0 0 0 false false (Sl.mk none 0 0)) [] H (fun (a6x : Bool) (M7 : m7) (b2b : (List ByteArray)) (a9k : Hp) =>
 ((!a6x) = true →
 S3 ((M7).fnodes) ((M7).fdepth) ((M7).fe) ((M7).fform) ((M7).fnamed) b2b a9k K) ∧
 ((!a6x) = false →
 (((M7).fform) = true →
 S3 ((M7).fnodes) ((M7).fdepth) 30 ((M7).fform) ((M7).fnamed) b2b a9k K) ∧
 (((M7).fform) = false →
 (((M7).fnamed) = true →
 S3 ((M7).fnodes) ((M7).fdepth) 31 ((M7).fform) ((M7).fnamed) b2b a9k K) ∧
 (((M7).fnamed) = false →
 S3 ((M7).fnodes) ((M7).fdepth) ((M7).fe) ((M7).fform) ((M7).fnamed) b2b a9k K))))
theorem c1U (x0 : Sl) {K : m7 → Hp → Prop} (I : Inv w0 ps0 H0 H [] w) (hR : ∀ (r0 : m7) (gr0 : Nat) (H' : Hp) (w' : World) (_ : Inv w0 ps0 H0 H' [bx gr0 101 (b1Y r0)] w') (_ : K r0 H'), R (Value.pointer (some ⟨gr0, 0, none⟩)) w') (h : a7y x0 H K) : F65 (vs x0) w R E := by
 unfold a7y at h
 unfold F65
 refine a7 (e3I ) ?_
 refine K6 I (cs := [(vi 0), (vi 0), (vi 0), (vB false), (vB false), (nS)]) rfl fun g_2 w_3 I_4 k_5 => ?_
 refine z8 I_4 Tryz.zeroValue102 (cs := [(Value.pointer none)]) rfl fun g_7 w_8 I_9 a9j => ?_
 refine m5 I_9 Tryz.sizeOf102 (vs := [(Value.pointer (some ⟨g_2, 0, none⟩))]) (cs' := [(Value.pointer (some ⟨g_2, 0, none⟩))]) rfl rfl (nb rfl) rfl rfl fun S5 B1 b6V => ?_
 refine z8 B1 Tryz.zeroValue170 (cs := [Value.nilFunc]) rfl fun a7d q8 b0q d7U => ?_
 refine a7 (c8s _ _ _) ?_
 refine m5 b0q Tryz.sizeOf170 (vs := [(Value.func (.func 110) #[] #[(Value.pointer (some ⟨g_7, 0, none⟩)), (Value.pointer (some ⟨a7d, 0, none⟩))])]) (cs' := [(Value.func (.func 110) #[] #[(Value.pointer (some ⟨g_7, 0, none⟩)), (Value.pointer (some ⟨a7d, 0, none⟩))])]) rfl rfl (nb rfl) rfl rfl fun X1 b0Y c3k => ?_
 have hj1 : ∀ (b5K : Int) (b5L : Int) (b5M : Int) (b5N : Bool) (b5O : Bool) (b6A : (List ByteArray)) (a7E : Sl) (Fcr_1j1_5 : Frag) (H : Hp) (w : World) (_ : RowL 9 1 O8 a7E b6A Fcr_1j1_5) (_ : Inv w0 ps0 H0 H [bx g_7 102 [(Value.pointer (some ⟨g_2, 0, none⟩))], bx g_2 101 [(vi b5K), (vi b5L), (vi b5M), (vB b5N), (vB b5O), (vs a7E)], bx a7d 170 [(Value.func (.func 110) #[] #[(Value.pointer (some ⟨g_7, 0, none⟩)), (Value.pointer (some ⟨a7d, 0, none⟩))])], Fcr_1j1_5] w) (_ : S3 b5K b5L b5M b5N b5O b6A H K), d6Q (Value.pointer (some ⟨g_7, 0, none⟩)) w R E := by
  intro b5K b5L b5M b5N b5O b6A a7E Fcr_1j1_5 H w f1m I h
  unfold d6Q
  intro _
  unfold S3 at h
  refine f2 (ld1 Tryz.isAgg102 (I.at1 (o := 0) (vs := [(Value.pointer (some ⟨g_2, 0, none⟩))]) (nb rfl) rfl)) ?_
  obtain ⟨b1E, b9e, e5D, a9i, d8n⟩ := Inv.freezeC (I.bring 3) f1m (by decide)
  replace h := h a7E b1E e5D a9i d8n
  exact hR (m7.mk b5K b5L b5M b5N b5O a7E) g_2 b1E _ (b9e.drop.bring 1).drop h
 refine r9 fun j1 hx1 => ?_
 refine f2 (ld1 Tryz.isAgg170 (b0Y.at1 (o := 0) (vs := [(Value.func (.func 110) #[] #[(Value.pointer (some ⟨g_7, 0, none⟩)), (Value.pointer (some ⟨a7d, 0, none⟩))])]) (nb rfl) rfl)) ?_
 refine f7 (cap := [(Value.pointer (some ⟨g_7, 0, none⟩)), (Value.pointer (some ⟨a7d, 0, none⟩))]) (fun args w => Tryz.call110 args w) ?_
 refine k8 (Fi := [bx g_7 102 [(Value.pointer (some ⟨g_2, 0, none⟩))], bx g_2 101 [(vi 0), (vi 0), (vi 0), (vB false), (vB false), (Value.slice (Sl.mk none 0 0).a (Sl.mk none 0 0).n (Sl.mk none 0 0).c)], [], bx a7d 170 [(Value.func (.func 110) #[] #[(Value.pointer (some ⟨g_7, 0, none⟩)), (Value.pointer (some ⟨a7d, 0, none⟩))])]]) (Fr := []) ((((b0Y.nil.bring 1).bring 1).bring 3).bring 3) (h g_7 g_2 a7d (Sl.mk none 0 0) ([]) (RowL.nil (e := 9) c8t c8u)) (fun f4s a9k d8l v2 a8f f4t c8V c9j => ?_) (fun _ _ _ _ _ q => q.elim)
 obtain ⟨a6x, M7, b2b, b5P, c3F, rfl, rfl, c3G, h⟩ := c9j
 refine a7 (T4 _) ?_
 refine o2 (fun f4u => ?_) (fun f4u => ?_)
 ·replace h := h.1 f4u
  exact hx1 _ _ (hj1 ((M7).fnodes) ((M7).fdepth) ((M7).fe) ((M7).fform) ((M7).fnamed) b2b b5P c3F a9k _ c3G ((((a8f.bring 2).bring 3).bring 3).bring 3) h)
 ·replace h := h.2 f4u
  refine f2 (ld1 Tryz.isAgg102 (a8f.at1 (o := 0) (vs := [(Value.pointer (some ⟨g_2, 0, none⟩))]) (nb rfl) rfl)) ?_
  refine a7 (w7 _) ?_
  refine a7 c0P ?_
  refine f2 (ld1 Tryz.isAgg4 ((a8f.bring 1).at1 (o := 3) (vs := [(vB ((M7).fform))]) (nb rfl) rfl)) ?_
  refine o2 (fun a0H => ?_) (fun a0H => ?_)
  ·replace h := h.1 a0H
   refine f2 (ld1 Tryz.isAgg102 (a8f.at1 (o := 0) (vs := [(Value.pointer (some ⟨g_2, 0, none⟩))]) (nb rfl) rfl)) ?_
   refine a7 (w7 _) ?_
   refine a7 a9c ?_
   refine m5 (a8f.bring 1) Tryz.sizeOf27 (vs := [(vi 30)]) (cs' := [(vi ((M7).fnodes)), (vi ((M7).fdepth)), (vi 30), (vB ((M7).fform)), (vB ((M7).fnamed)), (vs b5P)]) rfl rfl (nb rfl) rfl rfl fun b2Z a8g d3A => ?_
   exact hx1 _ _ (hj1 ((M7).fnodes) ((M7).fdepth) 30 ((M7).fform) ((M7).fnamed) b2b b5P c3F a9k _ c3G ((((a8g.bring 2).bring 3).bring 2).bring 3) h)
  ·replace h := h.2 a0H
   refine f2 (ld1 Tryz.isAgg102 (a8f.at1 (o := 0) (vs := [(Value.pointer (some ⟨g_2, 0, none⟩))]) (nb rfl) rfl)) ?_
   refine a7 (w7 _) ?_
   refine a7 c0Q ?_
   refine f2 (ld1 Tryz.isAgg4 ((a8f.bring 1).at1 (o := 4) (vs := [(vB ((M7).fnamed))]) (nb rfl) rfl)) ?_
   refine o2 (fun f4v => ?_) (fun f4v => ?_)
   ·replace h := h.1 f4v
    refine f2 (ld1 Tryz.isAgg102 (a8f.at1 (o := 0) (vs := [(Value.pointer (some ⟨g_2, 0, none⟩))]) (nb rfl) rfl)) ?_
    refine a7 (w7 _) ?_
    refine a7 a9c ?_
    refine m5 (a8f.bring 1) Tryz.sizeOf27 (vs := [(vi 31)]) (cs' := [(vi ((M7).fnodes)), (vi ((M7).fdepth)), (vi 31), (vB ((M7).fform)), (vB ((M7).fnamed)), (vs b5P)]) rfl rfl (nb rfl) rfl rfl fun J7 c5R e5z => ?_
    exact hx1 _ _ (hj1 ((M7).fnodes) ((M7).fdepth) 31 ((M7).fform) ((M7).fnamed) b2b b5P c3F a9k _ c3G ((((c5R.bring 2).bring 3).bring 2).bring 3) h)
   ·replace h := h.2 f4v
    exact hx1 _ _ (hj1 ((M7).fnodes) ((M7).fdepth) ((M7).fe) ((M7).fform) ((M7).fnamed) b2b b5P c3F a9k _ c3G ((((a8f.bring 2).bring 3).bring 3).bring 3) h)
theorem c3H (x0 : Sl) {H : Hp} {K : m7 → Hp → Prop} (h : a7y x0 H K) : a4T x0 H K := by
 intro w I
 refine g9s ?_
 refine c1U x0 I (fun r0 gr0 H' w' I' hk => ⟨H', _, I', r0, gr0, rfl, rfl, hk⟩) h
def a8R (x0 : a8) (H : Hp) (K : Int → Hp → Prop) : Prop :=
 ∀ (s_7 : Sl) (a1X : Hp), Hle H a1X → SlH a1X 1 v8 s_7 [(g8.M0 (O3.mk x0))] → s_7.n ≤ s_7.c →
 a4T s_7 a1X (fun (z7 : m7) (c1i : Hp) =>
 K z7.fe c1i)
theorem c4C (x0 : a8) {K : Int → Hp → Prop} (I : Inv w0 ps0 H0 H [] w) (hR : ∀ (r0 : Int) (H' : Hp) (w' : World) (_ : Inv w0 ps0 H0 H' [] w') (_ : K r0 H'), R (vi r0) w') (h : a8R x0 H K) : F39 (Value.agg (b8 x0).toArray) w R E := by
 unfold a8R at h
 unfold F39
 refine K6 I (cs := (b8 x0)) rfl fun g_2 w_3 I_4 k_5 => ?_
 refine f2 (ldA Tryz.isAgg53 Tryz.sizeOf53 rfl (I_4.at1 (o := 0) (vs := (b8 x0)) (nb rfl) rfl)) ?_
 refine a7 (c4P _ _ _ _ _ _) ?_
 refine a7 (b5v (O3.mk x0)) ?_
 refine a4b (e := 150) (c := v8) (xs := [(g8.M0 (O3.mk x0))]) I_4 (b5w _) rfl rfl T5 W0 (nb rfl) fun s_7 F_8 w_9 b1F a3G b3h => ?_
 obtain ⟨a1X, P1, c5K, a8e, b9f⟩ := Inv.freezeC a3G b1F (by decide)
 replace h := h s_7 a1X c5K a8e b9f
 refine f7 (cap := []) (fun args w => Tryz.call65 args w) ?_
 refine k8 (Fi := []) (Fr := [bx g_2 53 (b8 x0)]) P1 (h) (fun h4X c1i h4Y X1 b0Y h4Z c3k d8K => ?_) (fun _ _ _ _ _ q => q.elim)
 obtain ⟨z7, h5a, rfl, rfl, h⟩ := d8K
 refine a7 (w7 _) ?_
 refine a7 a9c ?_
 refine f2 (ld1 Tryz.isAgg27 (b0Y.at1 (o := 2) (vs := [(vi z7.fe)]) (nb rfl) rfl)) ?_
 exact hR z7.fe c1i _ b0Y.drop.drop h
theorem c5U (x0 : a8) {H : Hp} {K : Int → Hp → Prop} (h : a8R x0 H K) : b1q x0 H K := by
 intro w I
 refine g8m ?_
 refine c4C x0 I (fun r0 H' w' I' hk => ⟨H', _, I', r0, rfl, rfl, hk⟩) h
def a7z (x0 : d6) (H : Hp) (K : g8 → Hp → Prop) : Prop :=
 K (g8.P5 (W7.mk x0)) H
theorem c1V (x0 : d6) {K : g8 → Hp → Prop} (I : Inv w0 ps0 H0 H [] w) (hR : ∀ (r0 : g8) (H' : Hp) (w' : World) (_ : Inv w0 ps0 H0 H' [] w') (_ : K r0 H'), R (E8 r0) w') (h : a7z x0 H K) : F79 (Value.agg (d9 x0).toArray) w R E := by
 unfold a7z at h
 unfold F79
 refine K6 I (cs := (d9 x0)) rfl fun g_2 w_3 I_4 k_5 => ?_
 refine f2 (ldA Tryz.isAgg73 Tryz.sizeOf73 rfl (I_4.at1 (o := 0) (vs := (d9 x0)) (nb rfl) rfl)) ?_
 refine a7 (d5Y _ _ _ _ _ _ _ _ _ _ _ _ _ _) ?_
 refine a7 (d2P (W7.mk x0)) ?_
 exact hR (g8.P5 (W7.mk x0)) H _ I_4.drop h
theorem c3I (x0 : d6) {H : Hp} {K : g8 → Hp → Prop} (h : a7z x0 H K) : b4r x0 H K := by
 intro w I
 refine g9I ?_
 refine c1V x0 I (fun r0 H' w' I' hk => ⟨H', _, I', r0, rfl, rfl, hk⟩) h
def a3i (m8 : g7) (p9 : g7) (H : Hp) (K : Bool → Hp → Prop) : Prop :=
 K true H
def Q6 (a3C : g7) (S6 : g7) (I5 : Int) (H : Hp) (n2 : Int → Hp → Prop) (K : Bool → Hp → Prop) : Prop :=
 (I5 < (S6.r5.n : Int) →
 (0 : Int) ≤ I5 ∧ (I5 : Int) < S6.r5.n ∧ ∃ b7f : E0, EltH H S6.r5 I5 2 (w6 b7f) ∧
 (0 : Int) ≤ I5 ∧ (I5 : Int) < a3C.r5.n ∧ ∃ c9k : E0, EltH H a3C.r5 I5 2 (w6 c9k) ∧
 (¬ (b7f.f6 = c9k.f6 ∧ b7f.a1Z = c9k.a1Z) →
 K false H) ∧
 (b7f.f6 = c9k.f6 ∧ b7f.a1Z = c9k.a1Z →
 n2 (IntKind.wrap .i64 (I5 + 1)) H)) ∧
 (¬ (I5 < (S6.r5.n : Int)) →
 a3i a3C S6 H K)
def a4p (x0 : g7) (x1 : g7) (H : Hp) (K : Bool → Hp → Prop) : Prop :=
 a5y x0 H (fun (m9 : Bool) (Z0 : Hp) =>
 TG ((!m9) = false) (a5y x1 Z0) false Z0 (fun (b1f : Bool) (b7i : Hp) =>
 TG ((((!m9) || (!b1f)) || (!decide ((x0.r5.n : Int) = (x1.r5.n : Int)))) = false) (M3 x0.G3 x1.G3 b7i) false b7i (fun (a9D : Bool) (b0v : Hp) =>
 (((((!m9) || (!b1f)) || (!decide ((x0.r5.n : Int) = (x1.r5.n : Int)))) || (!a9D)) = true →
 K false b0v) ∧
 (((((!m9) || (!b1f)) || (!decide ((x0.r5.n : Int) = (x1.r5.n : Int)))) || (!a9D)) = false →
 TL (0 : Int) b0v fun (s : Int) H n2 => Q6 x1 x0 s H n2 K))))
theorem b7j (x0 : g7) (x1 : g7) {K : Bool → Hp → Prop} (I : Inv w0 ps0 H0 H [] w) (hR : ∀ (r0 : Bool) (H' : Hp) (w' : World) (_ : Inv w0 ps0 H0 H' [] w') (_ : K r0 H'), R (vB r0) w') (h : a4p x0 x1 H K) : F11 (Value.agg (i5 x0).toArray) (Value.agg (i5 x1).toArray) w R E := by
 unfold a4p at h
 unfold F11
 refine K6 I (cs := (i5 x0)) rfl fun g_2 w_3 I_4 k_5 => ?_
 refine K6 I_4 (cs := (i5 x1)) rfl fun g_7 w_8 I_9 a9j => ?_
 refine f2 (ldA Tryz.isAgg25 Tryz.sizeOf25 rfl ((I_9.bring 1).at1 (o := 0) (vs := (i5 x0)) (nb rfl) rfl)) ?_
 refine f7 (cap := []) (fun args w => Tryz.call29 args w) ?_
 refine k8 (Fi := []) (Fr := [bx g_7 25 (i5 x1), bx g_2 25 (i5 x0)]) I_9 (h) (fun c9l Z0 c9m p8 a6l c3J c9n b3u => ?_) (fun _ _ _ _ _ q => q.elim)
 obtain ⟨m9, rfl, rfl, h⟩ := b3u
 refine a7 (T4 _) ?_
 refine f2 (Ld.g fun hb => by have d7 := hb; exact (ldA Tryz.isAgg25 Tryz.sizeOf25 rfl (a6l.at1 (o := 0) (vs := (i5 x1)) (nb rfl) rfl))) ?_
 refine a4I (D := fun f4w a3e => ∃ (b1f : Bool) (b7i : Hp) , f4w = (gv (!m9) false (vB b1f)) ∧ (Inv w0 ps0 H0 b7i [bx g_7 25 (i5 x1), bx g_2 25 (i5 x0)] a3e) ∧ (∀ i, i < p8.heap.size → ¬ inF [] i → a3e.heap[i]? = p8.heap[i]?) ∧ Hle Z0 b7i ∧ (TG ((((!m9) || (!b1f)) || (!decide ((x0.r5.n : Int) = (x1.r5.n : Int)))) = false) (M3 x0.G3 x1.G3 b7i) false b7i (fun (a9D : Bool) (b0v : Hp) =>
 (((((!m9) || (!b1f)) || (!decide ((x0.r5.n : Int) = (x1.r5.n : Int)))) || (!a9D)) = true →
 K false b0v) ∧
 (((((!m9) || (!b1f)) || (!decide ((x0.r5.n : Int) = (x1.r5.n : Int)))) || (!a9D)) = false →
 TL (0 : Int) b0v fun (s : Int) H n2 => Q6 x1 x0 s H n2 K)))) (fun d8L => ?_) (fun d8L => ?_) ?_
 ·replace h := h.1 d8L
  have d7 := d8L
  simp only [i6 d7]
  refine f7 (cap := []) (fun args w => Tryz.call29 args w) ?_
  refine k8 (Fi := []) (Fr := [bx g_7 25 (i5 x1), bx g_2 25 (i5 x0)]) a6l (h) (fun f4w b7i k0k a3e b5C d2T e4R j3i => ?_) (fun _ _ _ _ _ q => q.elim)
  obtain ⟨b1f, rfl, rfl, h⟩ := j3i
  exact ⟨b1f, b7i, by rfl, b5C, e4R, d2T, h⟩
 ·exact ⟨false, Z0, by rw [a9I d8L], a6l, fun _ _ _ => rfl, Hle.refl _, h.2 d8L⟩
 ·clear h
  rintro f4w a3e ⟨b1f, b7i, rfl, b5C, e4R, d2T, h⟩
  refine a7 (Pu.g fun hb => by have d7 := hb; simp only [i6 d7]; exact (T4 _)) ?_
  refine a7 (M4 _ _) ?_
  refine a7 (Pu.g fun hb => by have d7 := hb; exact Z1) ?_
  refine f2 (Ld.g fun hb => by have d7 := hb; simp only [i6 d7]; exact (ld1 Tryz.isAgg22 ((b5C.bring 1).at1 (o := 0) (vs := [(vs x0.r5)]) (nb rfl) rfl))) ?_
  refine a7 (Pu.g fun hb => by have d7 := hb; simp only [i6 d7]; exact (a9V _ _ _)) ?_
  refine a7 (Pu.g fun hb => by have d7 := hb; exact Z1) ?_
  refine f2 (Ld.g fun hb => by have d7 := hb; simp only [i6 d7]; exact (ld1 Tryz.isAgg22 (b5C.at1 (o := 0) (vs := [(vs x1.r5)]) (nb rfl) rfl))) ?_
  refine a7 (Pu.g fun hb => by have d7 := hb; simp only [i6 d7]; exact (a9V _ _ _)) ?_
  refine a7 (Pu.g fun hb => by have d7 := hb; simp only [i6 d7]; exact (P9 _ _ _ _ _ _)) ?_
  refine a7 (M4 _ _) ?_
  refine a7 (Pu.g fun hb => by have d7 := hb; exact a4J) ?_
  refine f2 (Ld.g fun hb => by have d7 := hb; simp only [i6 d7]; exact (ld1 Tryz.isAgg23 ((b5C.bring 1).at1 (o := 1) (vs := [(vs x0.G3)]) (nb rfl) rfl))) ?_
  refine a7 (Pu.g fun hb => by have d7 := hb; exact a4J) ?_
  refine f2 (Ld.g fun hb => by have d7 := hb; simp only [i6 d7]; exact (ld1 Tryz.isAgg23 (b5C.at1 (o := 1) (vs := [(vs x1.G3)]) (nb rfl) rfl))) ?_
  refine a4I (D := fun e5E C0 => ∃ (a9D : Bool) (b0v : Hp) , e5E = (gv (((!m9) || (!b1f)) || (!decide ((x0.r5.n : Int) = (x1.r5.n : Int)))) false (vB a9D)) ∧ (Inv w0 ps0 H0 b0v [bx g_7 25 (i5 x1), bx g_2 25 (i5 x0)] C0) ∧ (∀ i, i < a3e.heap.size → ¬ inF [] i → C0.heap[i]? = a3e.heap[i]?) ∧ Hle b7i b0v ∧ ((((((!m9) || (!b1f)) || (!decide ((x0.r5.n : Int) = (x1.r5.n : Int)))) || (!a9D)) = true →
 K false b0v) ∧
 (((((!m9) || (!b1f)) || (!decide ((x0.r5.n : Int) = (x1.r5.n : Int)))) || (!a9D)) = false →
 TL (0 : Int) b0v fun (s : Int) H n2 => Q6 x1 x0 s H n2 K))) (fun d8M => ?_) (fun d8M => ?_) ?_
  ·replace h := h.1 d8M
   have d7 := d8M
   simp only [i6 d7]
   refine f7 (cap := []) (fun args w => Tryz.call30 args w) ?_
   refine k8 (Fi := []) (Fr := [bx g_7 25 (i5 x1), bx g_2 25 (i5 x0)]) b5C (h) (fun e5E b0v j3j C0 b4u c9o c8O f4x => ?_) (fun _ _ _ _ _ q => q.elim)
   obtain ⟨a9D, rfl, rfl, h⟩ := f4x
   exact ⟨a9D, b0v, by rfl, b4u, c8O, c9o, h⟩
  ·exact ⟨false, b7i, by rw [a9I d8M], b5C, fun _ _ _ => rfl, Hle.refl _, h.2 d8M⟩
  ·clear h
   rintro e5E C0 ⟨a9D, b0v, rfl, b4u, c8O, c9o, h⟩
   refine a7 (Pu.g fun hb => by have d7 := hb; simp only [i6 d7]; exact (T4 _)) ?_
   refine a7 (M4 _ _) ?_
   refine o2 (fun c9p => ?_) (fun c9p => ?_)
   ·replace h := h.1 c9p
    exact hR false b0v _ b4u.drop.drop h
   ·replace h := h.2 c9p
    have hj1 : ∀ (H : Hp) (w : World) (_ : Inv w0 ps0 H0 H [bx g_7 25 (i5 x1), bx g_2 25 (i5 x0)] w) (_ : a3i x1 x0 H K), d5Z w R E := by
     intro H w I h
     unfold d5Z
     intro _
     unfold a3i at h
     exact hR true H _ I.drop.drop h
    refine r9 fun j1 hx1 => ?_
    obtain ⟨f4y, d8N, j3k, j3l⟩ := h
    refine A7 (J := fun n l w => ∃ (s : Int) (H : Hp) , n = d8N s ∧ l = [(vi s)] ∧ Inv w0 ps0 H0 H [bx g_7 25 (i5 x1), bx g_2 25 (i5 x0)] w ∧ f4y s H) ⟨_, 0, b0v, rfl, rfl, ((b4u.bring 1).bring 1), j3k⟩ ?_
    rintro k0l τ_61 w next2 ⟨I5, H, rfl, h5b, I, j3m⟩ hn2
    simp only [List.map_cons, List.map_nil, List.cons.injEq, and_true] at h5b
    have e5 := h5b
    simp only [e5]
    obtain ⟨n2, hm2, h⟩ : ∃ n2 : Int → Hp → Prop, (∀ s' H', n2 s' H' → f4y s' H' ∧ d8N s' < d8N I5) ∧ Q6 x1 x0 I5 H n2 K := ⟨_, fun _ _ h => h, j3l I5 H (fun s' H' => f4y s' H' ∧ d8N s' < d8N I5) j3m (fun _ _ a b => ⟨a, b⟩)⟩
    unfold e9Y
    unfold Q6 at h
    refine a7 Z1 ?_
    refine f2 (ld1 Tryz.isAgg22 ((I.bring 1).at1 (o := 0) (vs := [(vs x0.r5)]) (nb rfl) rfl)) ?_
    refine a7 (a9V _ _ _) ?_
    refine a7 (v7 _ _ _ _ _ _) ?_
    refine k4 (fun f4z => ?_) (fun f4z => ?_)
    ·replace h := h.1 f4z
     refine a3D I fun C2 b3v => ?_
     refine o7 Z1 ?_
     refine o7 Z1 ?_
     refine y9 (ld1 Tryz.isAgg22 ((b3v.bring 1).at1 (o := 0) (vs := [(vs x0.r5)]) (nb rfl) rfl)) ?_
     obtain ⟨a5W, d8C, b7f, b8Z, h⟩ := h
     obtain ⟨j2Z, j3a, c9c, b8Z⟩ := b8Z
     refine o7 (b5u c9c _ _ _ _ a5W d8C) ?_
     refine y9 (ldA (vs := (w6 b7f)) Tryz.isAgg71 Tryz.sizeOf71 rfl (b3v.atH b8Z)) ?_
     refine y9 (ld1 Tryz.isAgg22 (b3v.at1 (o := 0) (vs := [(vs x1.r5)]) (nb rfl) rfl)) ?_
     obtain ⟨c9q, d8u, c9k, c1e, h⟩ := h
     obtain ⟨k0m, k0n, b7e, c1e⟩ := c1e
     refine o7 (b5u b7e _ _ _ _ c9q d8u) ?_
     refine y9 (ldA (vs := (w6 c9k)) Tryz.isAgg71 Tryz.sizeOf71 rfl (b3v.atH c1e)) ?_
     refine o7 (f3k _ _ _ _ _ _) ?_
     refine a5o (fun c9r => ?_) (fun c9r => ?_)
     ·replace h := h.1 c9r
      exact hR false H _ b3v.drop.drop h
     ·replace h := h.2 c9r
      refine a7 (u7 _ _ _ _ _ _) ?_
      exact hn2 _ _ _ (hm2 _ _ h).2 ⟨(IntKind.wrap .i64 (I5 + 1)), H, rfl, rfl, ((b3v.bring 1).bring 1), (hm2 _ _ h).1⟩
    ·replace h := h.2 f4z
     exact hx1 _ _ (hj1 H _ ((I.bring 1).bring 1) h)
theorem b7D (x0 : g7) (x1 : g7) {H : Hp} {K : Bool → Hp → Prop} (h : a4p x0 x1 H K) : a7r x0 x1 H K := by
 intro w I
 refine g7x ?_
 refine b7j x0 x1 I (fun r0 H' w' I' hk => ⟨H', _, I', r0, rfl, rfl, hk⟩) h
def W1 (c6Z : Bool) (V4 : Q1) (O0 : R6) (H : Hp) (K : Bool → Hp → Prop) : Prop :=
 (c6Z = true →
 K (decide (V4.fexprs = 0 ∧ V4.fparts = 2)) H) ∧
 (c6Z = false →
 K false H)
def W2 (b2c : Int) (c7a : Bool) (m8 : Q1) (p9 : R6) (H : Hp) (K : Bool → Hp → Prop) : Prop :=
 (c7a = true →
 K (decide (m8.fexprs = 0 ∧ m8.fparts = 0)) H) ∧
 (c7a = false →
 (b2c = 4 →
 K (decide (m8.fexprs = 0 ∧ m8.fparts = 1)) H) ∧
 (¬ (b2c = 4) →
 (b2c = 5 →
 W1 (decide (b2c = 5)) m8 p9 H K) ∧
 (¬ (b2c = 5) →
 W1 (decide (b2c = 6)) m8 p9 H K)))
def a5B (x0 : R6) (H : Hp) (K : Bool → Hp → Prop) : Prop :=
 (x0.r8.b6 = 3 →
 K (((decide (1 ≤ x0.r8.fOp)) && (decide (x0.r8.fOp ≤ 6))) && (decide ((x0.r8.f5.n : Int) = 2 ∧ (x0.r8.o3.n : Int) = 0))) H) ∧
 (¬ (x0.r8.b6 = 3) →
 (¬ (x0.r8.fOp = 0) →
 K false H) ∧
 (x0.r8.fOp = 0 →
 (x0.r8.b6 = 1 →
 W2 x0.r8.b6 (decide (x0.r8.b6 = 1)) (Q1.mk (x0.r8.f5.n : Int) (x0.r8.o3.n : Int)) x0 H K) ∧
 (¬ (x0.r8.b6 = 1) →
 W2 x0.r8.b6 (decide (x0.r8.b6 = 2)) (Q1.mk (x0.r8.f5.n : Int) (x0.r8.o3.n : Int)) x0 H K)))
theorem b9g (x0 : R6) {K : Bool → Hp → Prop} (I : Inv w0 ps0 H0 H [] w) (hR : ∀ (r0 : Bool) (H' : Hp) (w' : World) (_ : Inv w0 ps0 H0 H' [] w') (_ : K r0 H'), R (vB r0) w') (h : a5B x0 H K) : e4m (Value.agg (d8 x0.r8).toArray) w R E := by
 unfold a5B at h
 unfold e4m
 refine K6 I (cs := (d8 x0.r8)) rfl fun g_2 w_3 I_4 k_5 => ?_
 refine a7 a6r ?_
 refine a7 O4 ?_
 refine f2 (ld1 Tryz.isAgg51 (I_4.at1 (o := 2) (vs := [(vs x0.r8.f5)]) (nb rfl) rfl)) ?_
 refine a7 (K0 _ _ _) ?_
 refine a7 a6r ?_
 refine a7 M5 ?_
 refine f2 (ld1 Tryz.isAgg57 (I_4.at1 (o := 3) (vs := [(vs x0.r8.o3)]) (nb rfl) rfl)) ?_
 refine a7 (V0 _ _ _) ?_
 refine a7 (b1X _ _) ?_
 refine z8 I_4 Tryz.zeroValue236 (cs := [(vi 0), (vi 0)]) rfl fun g_7 w_8 I_9 a9j => ?_
 refine m5 I_9 Tryz.sizeOf236 (vs := [(vi (x0.r8.f5.n : Int)), (vi (x0.r8.o3.n : Int))]) (cs' := [(vi (x0.r8.f5.n : Int)), (vi (x0.r8.o3.n : Int))]) rfl rfl (nb rfl) rfl rfl fun S5 B1 b6V => ?_
 refine a7 a6r ?_
 refine a7 a2X ?_
 refine f2 (ld1 Tryz.isAgg3 ((B1.bring 1).at1 (o := 0) (vs := [(vi x0.r8.b6)]) (nb rfl) rfl)) ?_
 refine a7 (k7 _ _ _ _ _ _) ?_
 refine k4 (fun b3w => ?_) (fun b3w => ?_)
 ·replace h := h.1 b3w
  refine a7 a6r ?_
  refine a7 a6q ?_
  refine f2 (ld1 Tryz.isAgg3 ((B1.bring 1).at1 (o := 1) (vs := [(vi x0.r8.fOp)]) (nb rfl) rfl)) ?_
  refine a7 (a7e _ _ _ _ _ _) ?_
  refine a7 (Pu.g fun hb => by have d7 := hb; exact a6r) ?_
  refine a7 (Pu.g fun hb => by have d7 := hb; simp only [i6 d7]; exact a6q) ?_
  refine f2 (Ld.g fun hb => by have d7 := hb; simp only [i6 d7]; exact (ld1 Tryz.isAgg3 ((B1.bring 1).at1 (o := 1) (vs := [(vi x0.r8.fOp)]) (nb rfl) rfl))) ?_
  refine a7 (Pu.g fun hb => by have d7 := hb; simp only [i6 d7]; exact (b4a _ _ _ _ _ _)) ?_
  refine a7 (w8 _ _) ?_
  refine f2 (Ld.g fun hb => by have d7 := hb; exact (ldA Tryz.isAgg236 Tryz.sizeOf236 rfl (B1.at1 (o := 0) (vs := [(vi (x0.r8.f5.n : Int)), (vi (x0.r8.o3.n : Int))]) (nb rfl) rfl))) ?_
  refine a7 (Pu.g fun hb => by have d7 := hb; exact (b1X _ _)) ?_
  refine a7 (Pu.g fun hb => by have d7 := hb; simp only [i6 d7]; exact (c0s _ _ _ _ _ _)) ?_
  refine a7 (w8 _ _) ?_
  exact hR (((decide (1 ≤ x0.r8.fOp)) && (decide (x0.r8.fOp ≤ 6))) && (decide ((x0.r8.f5.n : Int) = 2 ∧ (x0.r8.o3.n : Int) = 0))) H _ B1.drop.drop h
 ·replace h := h.2 b3w
  refine a7 a6r ?_
  refine a7 a6q ?_
  refine f2 (ld1 Tryz.isAgg3 ((B1.bring 1).at1 (o := 1) (vs := [(vi x0.r8.fOp)]) (nb rfl) rfl)) ?_
  refine a7 (P9 _ _ _ _ _ _) ?_
  refine a5o (fun b9h => ?_) (fun b9h => ?_)
  ·replace h := h.1 b9h
   exact hR false H _ B1.drop.drop h
  ·replace h := h.2 b9h
   refine a7 a6r ?_
   refine a7 a2X ?_
   refine f2 (ld1 Tryz.isAgg3 ((B1.bring 1).at1 (o := 0) (vs := [(vi x0.r8.b6)]) (nb rfl) rfl)) ?_
   have hj1 : ∀ (c7a : Bool) (H : Hp) (w : World) (_ : Inv w0 ps0 H0 H [bx g_7 236 [(vi (Q1.mk (x0.r8.f5.n : Int) (x0.r8.o3.n : Int)).fexprs), (vi (Q1.mk (x0.r8.f5.n : Int) (x0.r8.o3.n : Int)).fparts)], bx g_2 143 (d8 x0.r8)] w) (_ : W2 x0.r8.b6 c7a (Q1.mk (x0.r8.f5.n : Int) (x0.r8.o3.n : Int)) x0 H K), d3o (Value.pointer (some ⟨g_7, 0, none⟩)) (vi x0.r8.b6) (vB c7a) w R E := by
    intro c7a H w I h
    unfold d3o
    intro _
    unfold W2 at h
    refine o2 (fun b3x => ?_) (fun b3x => ?_)
    ·replace h := h.1 b3x
     refine f2 (ldA Tryz.isAgg236 Tryz.sizeOf236 rfl (I.at1 (o := 0) (vs := [(vi (Q1.mk (x0.r8.f5.n : Int) (x0.r8.o3.n : Int)).fexprs), (vi (Q1.mk (x0.r8.f5.n : Int) (x0.r8.o3.n : Int)).fparts)]) (nb rfl) rfl)) ?_
     refine a7 (e3J ) ?_
     refine a7 (c0s _ _ _ _ _ _) ?_
     exact hR (decide ((Q1.mk (x0.r8.f5.n : Int) (x0.r8.o3.n : Int)).fexprs = 0 ∧ (Q1.mk (x0.r8.f5.n : Int) (x0.r8.o3.n : Int)).fparts = 0)) H _ I.drop.drop h
    ·replace h := h.2 b3x
     refine a7 (k7 _ _ _ _ _ _) ?_
     refine k4 (fun b9i => ?_) (fun b9i => ?_)
     ·replace h := h.1 b9i
      refine f2 (ldA Tryz.isAgg236 Tryz.sizeOf236 rfl (I.at1 (o := 0) (vs := [(vi (Q1.mk (x0.r8.f5.n : Int) (x0.r8.o3.n : Int)).fexprs), (vi (Q1.mk (x0.r8.f5.n : Int) (x0.r8.o3.n : Int)).fparts)]) (nb rfl) rfl)) ?_
      refine a7 (b1X _ _) ?_
      refine a7 (c0s _ _ _ _ _ _) ?_
      exact hR (decide ((Q1.mk (x0.r8.f5.n : Int) (x0.r8.o3.n : Int)).fexprs = 0 ∧ (Q1.mk (x0.r8.f5.n : Int) (x0.r8.o3.n : Int)).fparts = 1)) H _ I.drop.drop h
     ·replace h := h.2 b9i
      have hj2 : ∀ (c6Z : Bool) (H : Hp) (w : World) (_ : Inv w0 ps0 H0 H [bx g_7 236 [(vi (Q1.mk (x0.r8.f5.n : Int) (x0.r8.o3.n : Int)).fexprs), (vi (Q1.mk (x0.r8.f5.n : Int) (x0.r8.o3.n : Int)).fparts)], bx g_2 143 (d8 x0.r8)] w) (_ : W1 c6Z (Q1.mk (x0.r8.f5.n : Int) (x0.r8.o3.n : Int)) x0 H K), d3n (Value.pointer (some ⟨g_7, 0, none⟩)) (vB c6Z) w R E := by
       intro c6Z H w I h
       unfold d3n
       intro _
       unfold W1 at h
       refine o2 (fun b9j => ?_) (fun b9j => ?_)
       ·replace h := h.1 b9j
        refine f2 (ldA Tryz.isAgg236 Tryz.sizeOf236 rfl (I.at1 (o := 0) (vs := [(vi (Q1.mk (x0.r8.f5.n : Int) (x0.r8.o3.n : Int)).fexprs), (vi (Q1.mk (x0.r8.f5.n : Int) (x0.r8.o3.n : Int)).fparts)]) (nb rfl) rfl)) ?_
        refine a7 (b1X _ _) ?_
        refine a7 (c0s _ _ _ _ _ _) ?_
        exact hR (decide ((Q1.mk (x0.r8.f5.n : Int) (x0.r8.o3.n : Int)).fexprs = 0 ∧ (Q1.mk (x0.r8.f5.n : Int) (x0.r8.o3.n : Int)).fparts = 2)) H _ I.drop.drop h
       ·replace h := h.2 b9j
        exact hR false H _ I.drop.drop h
      refine r9 fun j2 hx2 => ?_
      refine a7 (k7 _ _ _ _ _ _) ?_
      refine k4 (fun b0w => ?_) (fun b0w => ?_)
      ·replace h := h.1 b0w
       exact hx2 _ _ (hj2 (decide (x0.r8.b6 = 5)) H _ ((I.bring 1).bring 1) h)
      ·replace h := h.2 b0w
       refine a7 (k7 _ _ _ _ _ _) ?_
       exact hx2 _ _ (hj2 (decide (x0.r8.b6 = 6)) H _ ((I.bring 1).bring 1) h)
   refine r9 fun j1 hx1 => ?_
   refine a7 (k7 _ _ _ _ _ _) ?_
   refine k4 (fun b9k => ?_) (fun b9k => ?_)
   ·replace h := h.1 b9k
    exact hx1 _ _ (hj1 (decide (x0.r8.b6 = 1)) H _ ((B1.bring 1).bring 1) h)
   ·replace h := h.2 b9k
    refine a7 (k7 _ _ _ _ _ _) ?_
    exact hx1 _ _ (hj1 (decide (x0.r8.b6 = 2)) H _ ((B1.bring 1).bring 1) h)
theorem c0b (x0 : R6) {H : Hp} {K : Bool → Hp → Prop} (h : a5B x0 H K) : a8w x0 H K := by
 intro w I
 refine g1L ?_
 refine b9g x0 I (fun r0 H' w' I' hk => ⟨H', _, I', r0, rfl, rfl, hk⟩) h
def W3 (a4y : Bool) (f7Z : Int) (c7b : Bool) (m8 : X5) (p9 : W7) (H : Hp) (K : Bool → Hp → Prop) : Prop :=
 (c7b = true →
 K (a4y && (decide (m8.fexprs = 0 ∧ m8.fconds = 1))) H) ∧
 (c7b = false →
 (f7Z = 7 →
 K (a4y && (decide (m8.fexprs = 0 ∧ m8.fconds = 0))) H) ∧
 (¬ (f7Z = 7) →
 K false H))
def a5C (x0 : W7) (H : Hp) (K : Bool → Hp → Prop) : Prop :=
 (x0.j8.b6 = 1 →
 K ((!(decide (0 < (IntKind.wrap .i64 ((x0.j8.A5.n : Int) + (x0.j8.z6.n : Int)))))) && (decide ((x0.j8.f5.n : Int) = 1 ∧ (x0.j8.i4.n : Int) = 0))) H) ∧
 (¬ (x0.j8.b6 = 1) →
 (x0.j8.b6 = 2 →
 K ((!(decide (0 < (IntKind.wrap .i64 ((x0.j8.A5.n : Int) + (x0.j8.z6.n : Int)))))) && (decide ((x0.j8.f5.n : Int) = 2 ∧ (x0.j8.i4.n : Int) = 0))) H) ∧
 (¬ (x0.j8.b6 = 2) →
 (x0.j8.b6 = 3 →
 K ((decide (x0.j8.f6 = ⟨#[]⟩)) && (decide ((x0.j8.f5.n : Int) = 0 ∧ (x0.j8.i4.n : Int) = 1))) H) ∧
 (¬ (x0.j8.b6 = 3) →
 (x0.j8.b6 = 4 →
 K (((decide (x0.j8.f6 = ⟨#[]⟩)) && (decide ((x0.j8.z6.n : Int) = 0))) && (decide ((x0.j8.f5.n : Int) = 0 ∧ (x0.j8.i4.n : Int) = 1))) H) ∧
 (¬ (x0.j8.b6 = 4) →
 (x0.j8.b6 = 5 →
 W3 ((decide (x0.j8.f6 = ⟨#[]⟩)) && (!(decide (0 < (IntKind.wrap .i64 ((x0.j8.A5.n : Int) + (x0.j8.z6.n : Int))))))) x0.j8.b6 (decide (x0.j8.b6 = 5)) (X5.mk (x0.j8.f5.n : Int) (x0.j8.i4.n : Int)) x0 H K) ∧
 (¬ (x0.j8.b6 = 5) →
 W3 ((decide (x0.j8.f6 = ⟨#[]⟩)) && (!(decide (0 < (IntKind.wrap .i64 ((x0.j8.A5.n : Int) + (x0.j8.z6.n : Int))))))) x0.j8.b6 (decide (x0.j8.b6 = 6)) (X5.mk (x0.j8.f5.n : Int) (x0.j8.i4.n : Int)) x0 H K)))))
theorem b9l (x0 : W7) {K : Bool → Hp → Prop} (I : Inv w0 ps0 H0 H [] w) (hR : ∀ (r0 : Bool) (H' : Hp) (w' : World) (_ : Inv w0 ps0 H0 H' [] w') (_ : K r0 H'), R (vB r0) w') (h : a5C x0 H K) : e4t (Value.agg (d9 x0.j8).toArray) w R E := by
 unfold a5C at h
 unfold e4t
 refine K6 I (cs := (d9 x0.j8)) rfl fun g_2 w_3 I_4 k_5 => ?_
 refine a7 V2 ?_
 refine a7 U6 ?_
 refine f2 (ld1 Tryz.isAgg23 (I_4.at1 (o := 4) (vs := [(vs x0.j8.A5)]) (nb rfl) rfl)) ?_
 refine a7 (W8 _ _ _) ?_
 refine a7 V2 ?_
 refine a7 Z2 ?_
 refine f2 (ld1 Tryz.isAgg23 (I_4.at1 (o := 5) (vs := [(vs x0.j8.z6)]) (nb rfl) rfl)) ?_
 refine a7 (W8 _ _ _) ?_
 refine a7 (u7 _ _ _ _ _ _) ?_
 refine a7 (a7Q _ _ _ _ _ _) ?_
 refine a7 V2 ?_
 refine a7 S9 ?_
 refine f2 (ld1 Tryz.isAgg51 (I_4.at1 (o := 2) (vs := [(vs x0.j8.f5)]) (nb rfl) rfl)) ?_
 refine a7 (K0 _ _ _) ?_
 refine a7 V2 ?_
 refine a7 R7 ?_
 refine f2 (ld1 Tryz.isAgg57 (I_4.at1 (o := 3) (vs := [(vs x0.j8.i4)]) (nb rfl) rfl)) ?_
 refine a7 (V0 _ _ _) ?_
 refine a7 (a7N _ _) ?_
 refine z8 I_4 Tryz.zeroValue240 (cs := [(vi 0), (vi 0)]) rfl fun g_7 w_8 I_9 a9j => ?_
 refine m5 I_9 Tryz.sizeOf240 (vs := [(vi (x0.j8.f5.n : Int)), (vi (x0.j8.i4.n : Int))]) (cs' := [(vi (x0.j8.f5.n : Int)), (vi (x0.j8.i4.n : Int))]) rfl rfl (nb rfl) rfl rfl fun S5 B1 b6V => ?_
 refine a7 V2 ?_
 refine a7 a8J ?_
 refine f2 (ld1 Tryz.isAgg9 ((B1.bring 1).at1 (o := 1) (vs := [(Value.string x0.j8.f6)]) (nb rfl) rfl)) ?_
 refine a7 (W6 _ _ _ _ _) ?_
 simp only [z2]
 refine a7 (Pu.g fun hb => by have d7 := hb; simp only [i6 d7]; exact (T4 _)) ?_
 refine a7 (w8 _ _) ?_
 refine a7 V2 ?_
 refine a7 a0F ?_
 refine f2 (ld1 Tryz.isAgg3 ((B1.bring 1).at1 (o := 0) (vs := [(vi x0.j8.b6)]) (nb rfl) rfl)) ?_
 refine a7 (k7 _ _ _ _ _ _) ?_
 refine k4 (fun b3w => ?_) (fun b3w => ?_)
 ·replace h := h.1 b3w
  refine a7 (T4 _) ?_
  refine f2 (Ld.g fun hb => by have d7 := hb; exact (ldA Tryz.isAgg240 Tryz.sizeOf240 rfl (B1.at1 (o := 0) (vs := [(vi (x0.j8.f5.n : Int)), (vi (x0.j8.i4.n : Int))]) (nb rfl) rfl))) ?_
  refine a7 (Pu.g fun hb => by have d7 := hb; exact (a7N _ _)) ?_
  refine a7 (Pu.g fun hb => by have d7 := hb; simp only [i6 d7]; exact (b3L _ _ _ _ _ _)) ?_
  refine a7 (w8 _ _) ?_
  exact hR ((!(decide (0 < (IntKind.wrap .i64 ((x0.j8.A5.n : Int) + (x0.j8.z6.n : Int)))))) && (decide ((x0.j8.f5.n : Int) = 1 ∧ (x0.j8.i4.n : Int) = 0))) H _ B1.drop.drop h
 ·replace h := h.2 b3w
  refine a7 (k7 _ _ _ _ _ _) ?_
  refine k4 (fun b9h => ?_) (fun b9h => ?_)
  ·replace h := h.1 b9h
   refine a7 (T4 _) ?_
   refine f2 (Ld.g fun hb => by have d7 := hb; exact (ldA Tryz.isAgg240 Tryz.sizeOf240 rfl (B1.at1 (o := 0) (vs := [(vi (x0.j8.f5.n : Int)), (vi (x0.j8.i4.n : Int))]) (nb rfl) rfl))) ?_
   refine a7 (Pu.g fun hb => by have d7 := hb; exact (a7N _ _)) ?_
   refine a7 (Pu.g fun hb => by have d7 := hb; simp only [i6 d7]; exact (b3L _ _ _ _ _ _)) ?_
   refine a7 (w8 _ _) ?_
   exact hR ((!(decide (0 < (IntKind.wrap .i64 ((x0.j8.A5.n : Int) + (x0.j8.z6.n : Int)))))) && (decide ((x0.j8.f5.n : Int) = 2 ∧ (x0.j8.i4.n : Int) = 0))) H _ B1.drop.drop h
  ·replace h := h.2 b9h
   refine a7 (k7 _ _ _ _ _ _) ?_
   refine k4 (fun b9k => ?_) (fun b9k => ?_)
   ·replace h := h.1 b9k
    refine a7 V2 ?_
    refine a7 a8J ?_
    refine f2 (ld1 Tryz.isAgg9 ((B1.bring 1).at1 (o := 1) (vs := [(Value.string x0.j8.f6)]) (nb rfl) rfl)) ?_
    refine a7 (W6 _ _ _ _ _) ?_
    refine f2 (Ld.g fun hb => by have d7 := hb; exact (ldA Tryz.isAgg240 Tryz.sizeOf240 rfl (B1.at1 (o := 0) (vs := [(vi (x0.j8.f5.n : Int)), (vi (x0.j8.i4.n : Int))]) (nb rfl) rfl))) ?_
    refine a7 (Pu.g fun hb => by have d7 := hb; exact (a7N _ _)) ?_
    refine a7 (Pu.g fun hb => by have d7 := hb; simp only [i6 d7]; exact (b3L _ _ _ _ _ _)) ?_
    refine a7 (w8 _ _) ?_
    exact hR ((decide (x0.j8.f6 = ⟨#[]⟩)) && (decide ((x0.j8.f5.n : Int) = 0 ∧ (x0.j8.i4.n : Int) = 1))) H _ B1.drop.drop h
   ·replace h := h.2 b9k
    refine a7 (k7 _ _ _ _ _ _) ?_
    refine k4 (fun b3x => ?_) (fun b3x => ?_)
    ·replace h := h.1 b3x
     refine a7 V2 ?_
     refine a7 a8J ?_
     refine f2 (ld1 Tryz.isAgg9 ((B1.bring 1).at1 (o := 1) (vs := [(Value.string x0.j8.f6)]) (nb rfl) rfl)) ?_
     refine a7 (W6 _ _ _ _ _) ?_
     refine a7 (Pu.g fun hb => by have d7 := hb; exact V2) ?_
     refine a7 (Pu.g fun hb => by have d7 := hb; simp only [i6 d7]; exact Z2) ?_
     refine f2 (Ld.g fun hb => by have d7 := hb; simp only [i6 d7]; exact (ld1 Tryz.isAgg23 ((B1.bring 1).at1 (o := 5) (vs := [(vs x0.j8.z6)]) (nb rfl) rfl))) ?_
     refine a7 (Pu.g fun hb => by have d7 := hb; simp only [i6 d7]; exact (W8 _ _ _)) ?_
     refine a7 (Pu.g fun hb => by have d7 := hb; simp only [i6 d7]; exact (k7 _ _ _ _ _ _)) ?_
     refine a7 (w8 _ _) ?_
     refine f2 (Ld.g fun hb => by have d7 := hb; exact (ldA Tryz.isAgg240 Tryz.sizeOf240 rfl (B1.at1 (o := 0) (vs := [(vi (x0.j8.f5.n : Int)), (vi (x0.j8.i4.n : Int))]) (nb rfl) rfl))) ?_
     refine a7 (Pu.g fun hb => by have d7 := hb; exact (a7N _ _)) ?_
     refine a7 (Pu.g fun hb => by have d7 := hb; simp only [i6 d7]; exact (b3L _ _ _ _ _ _)) ?_
     refine a7 (w8 _ _) ?_
     exact hR (((decide (x0.j8.f6 = ⟨#[]⟩)) && (decide ((x0.j8.z6.n : Int) = 0))) && (decide ((x0.j8.f5.n : Int) = 0 ∧ (x0.j8.i4.n : Int) = 1))) H _ B1.drop.drop h
    ·replace h := h.2 b3x
     have hj1 : ∀ (c7b : Bool) (H : Hp) (w : World) (_ : Inv w0 ps0 H0 H [bx g_7 240 [(vi (X5.mk (x0.j8.f5.n : Int) (x0.j8.i4.n : Int)).fexprs), (vi (X5.mk (x0.j8.f5.n : Int) (x0.j8.i4.n : Int)).fconds)], bx g_2 184 (d9 x0.j8)] w) (_ : W3 ((decide (x0.j8.f6 = ⟨#[]⟩)) && (!(decide (0 < (IntKind.wrap .i64 ((x0.j8.A5.n : Int) + (x0.j8.z6.n : Int))))))) x0.j8.b6 c7b (X5.mk (x0.j8.f5.n : Int) (x0.j8.i4.n : Int)) x0 H K), d3q (Value.pointer (some ⟨g_7, 0, none⟩)) (vB ((decide (x0.j8.f6 = ⟨#[]⟩)) && (!(decide (0 < (IntKind.wrap .i64 ((x0.j8.A5.n : Int) + (x0.j8.z6.n : Int)))))))) (vi x0.j8.b6) (vB c7b) w R E := by
      intro c7b H w I h
      unfold d3q
      intro _
      unfold W3 at h
      refine o2 (fun b0w => ?_) (fun b0w => ?_)
      ·replace h := h.1 b0w
       refine f2 (Ld.g fun hb => by have d7 := hb; exact (ldA Tryz.isAgg240 Tryz.sizeOf240 rfl (I.at1 (o := 0) (vs := [(vi (X5.mk (x0.j8.f5.n : Int) (x0.j8.i4.n : Int)).fexprs), (vi (X5.mk (x0.j8.f5.n : Int) (x0.j8.i4.n : Int)).fconds)]) (nb rfl) rfl))) ?_
       refine a7 (Pu.g fun hb => by have d7 := hb; exact (a7N _ _)) ?_
       refine a7 (Pu.g fun hb => by have d7 := hb; simp only [i6 d7]; exact (b3L _ _ _ _ _ _)) ?_
       refine a7 (w8 _ _) ?_
       exact hR (((decide (x0.j8.f6 = ⟨#[]⟩)) && (!(decide (0 < (IntKind.wrap .i64 ((x0.j8.A5.n : Int) + (x0.j8.z6.n : Int))))))) && (decide ((X5.mk (x0.j8.f5.n : Int) (x0.j8.i4.n : Int)).fexprs = 0 ∧ (X5.mk (x0.j8.f5.n : Int) (x0.j8.i4.n : Int)).fconds = 1))) H _ I.drop.drop h
      ·replace h := h.2 b0w
       refine a7 (k7 _ _ _ _ _ _) ?_
       refine k4 (fun b9j => ?_) (fun b9j => ?_)
       ·replace h := h.1 b9j
        refine f2 (Ld.g fun hb => by have d7 := hb; exact (ldA Tryz.isAgg240 Tryz.sizeOf240 rfl (I.at1 (o := 0) (vs := [(vi (X5.mk (x0.j8.f5.n : Int) (x0.j8.i4.n : Int)).fexprs), (vi (X5.mk (x0.j8.f5.n : Int) (x0.j8.i4.n : Int)).fconds)]) (nb rfl) rfl))) ?_
        refine a7 (Pu.g fun hb => by have d7 := hb; exact (e3K )) ?_
        refine a7 (Pu.g fun hb => by have d7 := hb; simp only [i6 d7]; exact (b3L _ _ _ _ _ _)) ?_
        refine a7 (w8 _ _) ?_
        exact hR (((decide (x0.j8.f6 = ⟨#[]⟩)) && (!(decide (0 < (IntKind.wrap .i64 ((x0.j8.A5.n : Int) + (x0.j8.z6.n : Int))))))) && (decide ((X5.mk (x0.j8.f5.n : Int) (x0.j8.i4.n : Int)).fexprs = 0 ∧ (X5.mk (x0.j8.f5.n : Int) (x0.j8.i4.n : Int)).fconds = 0))) H _ I.drop.drop h
       ·replace h := h.2 b9j
        exact hR false H _ I.drop.drop h
     refine r9 fun j1 hx1 => ?_
     refine a7 (k7 _ _ _ _ _ _) ?_
     refine k4 (fun b9i => ?_) (fun b9i => ?_)
     ·replace h := h.1 b9i
      exact hx1 _ _ (hj1 (decide (x0.j8.b6 = 5)) H _ ((B1.bring 1).bring 1) h)
     ·replace h := h.2 b9i
      refine a7 (k7 _ _ _ _ _ _) ?_
      exact hx1 _ _ (hj1 (decide (x0.j8.b6 = 6)) H _ ((B1.bring 1).bring 1) h)
theorem c0c (x0 : W7) {H : Hp} {K : Bool → Hp → Prop} (h : a5C x0 H K) : a8x x0 H K := by
 intro w I
 refine g2w ?_
 refine b9l x0 I (fun r0 H' w' I' hk => ⟨H', _, I', r0, rfl, rfl, hk⟩) h
def a5f (x0 : W7) (H : Hp) (K : Sl → Hp → Prop) : Prop :=
 K7 x0.j8.i4 H (fun (b4y : Sl) (H_8 : Hp) =>
 C5 x0.j8.f5 H_8 (fun (b4z : Sl) (b3l : Hp) =>
 C4 x0.j8.A5 b3l (fun (e5F : Sl) (c5V : Hp) =>
 C4 x0.j8.z6 c5V (fun (e5G : Sl) (c3K : Hp) =>
 ∀ (c5W : Sl) (c3L : Hp), Hle c3K c3L → SlH c3L 1 csl c5W [b4y, b4z, e5F, e5G] → c5W.n ≤ c5W.c →
 J5 c5W c3L (fun (c0B : Sl) (c9s : Hp) =>
 K c0B c9s)))))
theorem b7E (x0 : W7) {K : Sl → Hp → Prop} (I : Inv w0 ps0 H0 H [] w) (hR : ∀ (r0 : Sl) (H' : Hp) (w' : World) (_ : Inv w0 ps0 H0 H' [] w') (_ : K r0 H'), R (vs r0) w') (h : a5f x0 H K) : e4u (Value.agg (d9 x0.j8).toArray) w R E := by
 unfold a5f at h
 unfold e4u
 refine K6 I (cs := (d9 x0.j8)) rfl fun g_2 w_3 I_4 k_5 => ?_
 refine a3D I_4 fun w_6 I_7 => ?_
 refine o7 V2 ?_
 refine o7 R7 ?_
 refine o7 V2 ?_
 refine o7 S9 ?_
 refine o7 V2 ?_
 refine o7 U6 ?_
 refine o7 V2 ?_
 refine o7 Z2 ?_
 refine y9 (ld1 Tryz.isAgg57 (I_7.at1 (o := 3) (vs := [(vs x0.j8.i4)]) (nb rfl) rfl)) ?_
 refine y9 (ld1 Tryz.isAgg51 (I_7.at1 (o := 2) (vs := [(vs x0.j8.f5)]) (nb rfl) rfl)) ?_
 refine y9 (ld1 Tryz.isAgg23 (I_7.at1 (o := 4) (vs := [(vs x0.j8.A5)]) (nb rfl) rfl)) ?_
 refine y9 (ld1 Tryz.isAgg23 (I_7.at1 (o := 5) (vs := [(vs x0.j8.z6)]) (nb rfl) rfl)) ?_
 refine f7 (cap := []) (fun args w => Tryz.call193 args w) ?_
 refine k8 (Fi := []) (Fr := [bx g_2 184 (d9 x0.j8)]) I_7 (h) (fun h4H H_8 h4I w_9 b7d c5K c5L d8i => ?_) (fun _ _ _ _ _ q => q.elim)
 obtain ⟨b4y, rfl, rfl, h⟩ := d8i
 refine ⟨(c5L _ I_7.lt1 (Inv.a1t (Fi := []) I_7)), (c5L _ I_7.lt1 (Inv.a1t (Fi := []) I_7)), (c5L _ I_7.lt1 (Inv.a1t (Fi := []) I_7)), ?_⟩
 refine f7 (cap := []) (fun args w => Tryz.call189 args w) ?_
 refine k8 (Fi := []) (Fr := [bx g_2 184 (d9 x0.j8)]) b7d (h) (fun h4J b3l h4K w5 c3m h4L d8j d8k => ?_) (fun _ _ _ _ _ q => q.elim)
 obtain ⟨b4z, rfl, rfl, h⟩ := d8k
 refine ⟨(d8j _ b7d.lt1 (Inv.a1t (Fi := []) b7d)), (d8j _ b7d.lt1 (Inv.a1t (Fi := []) b7d)), ?_⟩
 refine f7 (cap := []) (fun args w => Tryz.call78 args w) ?_
 refine k8 (Fi := []) (Fr := [bx g_2 184 (d9 x0.j8)]) c3m (h) (fun k0o c5V k0p a5U c5J k0q f3Y j3n => ?_) (fun _ _ _ _ _ q => q.elim)
 obtain ⟨e5F, rfl, rfl, h⟩ := j3n
 refine ⟨(f3Y _ c3m.lt1 (Inv.a1t (Fi := []) c3m)), ?_⟩
 refine f7 (cap := []) (fun args w => Tryz.call78 args w) ?_
 refine k8 (Fi := []) (Fr := [bx g_2 184 (d9 x0.j8)]) c5J (h) (fun k0r c3K k0s J6 f4A k0t j3o j3p => ?_) (fun _ _ _ _ _ q => q.elim)
 obtain ⟨e5G, rfl, rfl, h⟩ := j3p
 refine a4b (e := 137) (c := csl) (xs := [b4y, b4z, e5F, e5G]) f4A (f3n _ _ _ _ _ _ _ _ _ _ _ _) rfl rfl d4I d4J (nb rfl) fun c5W k0u b8v d8O d8z h4R => ?_
 obtain ⟨c3L, c3j, e5H, c1d, c1j⟩ := Inv.freezeC d8z d8O (by decide)
 replace h := h c5W c3L e5H c1d c1j
 refine f7 (cap := []) (fun args w => Tryz.call75 args w) ?_
 refine k8 (Fi := []) (Fr := [bx g_2 184 (d9 x0.j8)]) c3j (h) (fun j3q c9s j3r b4g b3y c9b c5X f4B => ?_) (fun _ _ _ _ _ q => q.elim)
 obtain ⟨c0B, rfl, rfl, h⟩ := f4B
 exact hR c0B c9s _ b3y.drop h
theorem b9m (x0 : W7) {H : Hp} {K : Sl → Hp → Prop} (h : a5f x0 H K) : b1w x0 H K := by
 intro w I
 refine g2y ?_
 refine b7E x0 I (fun r0 H' w' I' hk => ⟨H', _, I', r0, rfl, rfl, hk⟩) h
end Go.Proofs.YtnhkdkcgdcgmdaaGreatDoor
