/- The program's class of a rune. -/
import Derived.Test.YtpdeflgmldomeaaDoorT2
namespace Go.Proofs.YtpdeflgmldomeaaDoor
open Go.RowKit

section
variable {r : Int} {g : Nat} {w : World} {R : Value → World → Prop}

theorem cj4 (b : Bool) (h3 : b = true → R (.int .i64 3) w) (h6 : b = false → R (.int .i64 6) w) : F11_j4 (.bool b) w R := by
  intro _
  exact xcond_b h3 h6

theorem hinR (hg : w.heap[g]? = some (.cells #[.int .i32 r] 21)) (lo hi : Int) (K : Value → World → Prop) (hK : K (.bool (decide (lo ≤ r ∧ r ≤ hi))) w) :
    Cv Tryd.prog 18 (List.toArray [.int .i32 lo, .int .i32 hi] ++ #[.pointer (some ⟨g, 0, none⟩)]) w K := in_ok lo hi r _ _ K hg hK

theorem cj3dg (hg : w.heap[g]? = some (.cells #[.int .i32 r] 21)) (e : R (.int .i64 4) w) (h3 : isDg r) : F11_j3 (.pointer (some ⟨g, 0, none⟩)) (.bool false) w R := by
  intro _
  unfold isDg at h3
  simp only [xcond_0, opK_makeFunc]
  refine o_clo_18 (hinR hg _ _ _ ?_)
  rw [xcond_t h3]
  exact e

theorem cj3lt (hg : w.heap[g]? = some (.cells #[.int .i32 r] 21)) (e : R (.int .i64 3) w) (h3 : isLt r) : F11_j3 (.pointer (some ⟨g, 0, none⟩)) (.bool false) w R := by
  intro _
  have d0 : ¬ (48 ≤ r ∧ r ≤ 57) := by unfold isLt at h3; omega
  have J : ∀ b, b = true → F11_j4 (.bool b) w R := fun b hb => cj4 b (fun _ => e) (fun hf => by rw [hb] at hf; cases hf)
  simp only [xcond_0, opK_makeFunc]
  refine o_clo_18 (hinR hg _ _ _ ?_)
  rw [xcond_f d0]
  simp only [xcut]
  refine o_load_21 ?_
  simp only [ldH_some, List.size_toArray, List.length_cons, List.length_nil, Nat.le_refl, true_and, List.drop_zero, List.take_succ_cons, List.take_nil, Nat.zero_add, hg, opK_eql, nth]
  refine xcond_dec (fun h => J _ (by simp [h])) (fun n1 => ?_)
  refine o_clo_18 (hinR hg _ _ _ ?_)
  refine xcond_dec (fun h => J _ (by simp [h])) (fun n2 => ?_)
  refine o_clo_18 (hinR hg _ _ _ ?_)
  refine xcond_dec (fun h => J _ (by simp [h])) (fun n3 => ?_)
  refine o_clo_18 (hinR hg _ _ _ ?_)
  refine xcond_dec (fun h => J _ (by simp [h])) (fun n4 => ?_)
  refine o_clo_18 (hinR hg _ _ _ ?_)
  refine xcond_dec (fun h => J _ (by simp [h])) (fun n5 => ?_)
  refine o_clo_18 (hinR hg _ _ _ ?_)
  refine J _ (decide_eq_true ?_)
  unfold isLt at h3
  rcases h3 with h3 | h3 | h3 | h3 | h3 | h3
  · exact absurd h3 n2
  · exact absurd h3 n3
  · exact absurd h3 n1
  · exact absurd ⟨h3.1, h3.2.1⟩ n4
  · exact absurd ⟨h3.1, h3.2.1⟩ n5
  · exact h3

theorem cj3no (hg : w.heap[g]? = some (.cells #[.int .i32 r] 21)) (e : R (.int .i64 6) w) (h2 : ¬ isDg r) (h3 : ¬ isLt r) (hr : ¬ (r = 215 ∨ r = 247 ∨ r = 930)) :
    F11_j3 (.pointer (some ⟨g, 0, none⟩)) (.bool false) w R := by
  intro _
  unfold isDg at h2
  unfold isLt at h3
  have J : ∀ b, b = false → F11_j4 (.bool b) w R := fun b hb => cj4 b (fun hf => by rw [hb] at hf; cases hf) (fun _ => e)
  simp only [xcond_0, opK_makeFunc]
  refine o_clo_18 (hinR hg _ _ _ ?_)
  rw [xcond_f h2]
  simp only [xcut]
  refine o_load_21 ?_
  simp only [ldH_some, List.size_toArray, List.length_cons, List.length_nil, Nat.le_refl, true_and, List.drop_zero, List.take_succ_cons, List.take_nil, Nat.zero_add, hg, opK_eql, nth]
  rw [xcond_f (fun h => h3 (.inr (.inr (.inl h))))]
  refine o_clo_18 (hinR hg _ _ _ ?_)
  rw [xcond_f (fun h => h3 (.inl h))]
  refine o_clo_18 (hinR hg _ _ _ ?_)
  rw [xcond_f (fun h => h3 (.inr (.inl h)))]
  refine o_clo_18 (hinR hg _ _ _ ?_)
  rw [xcond_f (fun h => h3 (.inr (.inr (.inr (.inl ⟨h.1, h.2, fun e => hr (.inl e), fun e => hr (.inr (.inl e))⟩)))))]
  refine o_clo_18 (hinR hg _ _ _ ?_)
  rw [xcond_f (fun h => h3 (.inr (.inr (.inr (.inr (.inl ⟨h.1, h.2, fun e => hr (.inr (.inr e))⟩))))))]
  refine o_clo_18 (hinR hg _ _ _ ?_)
  exact J _ (decide_eq_false fun h => h3 (.inr (.inr (.inr (.inr (.inr h))))))

theorem cj3 (b : Bool) (hg : w.heap[g]? = some (.cells #[.int .i32 r] 21)) (h : R (.int .i64 (cls r)) w) (h1 : ¬ isSp r) (h2 : ¬ r = 10) (h5 : ¬ isSign r)
    (hb : b = true ↔ (r = 215 ∨ r = 247 ∨ r = 930)) : F11_j3 (.pointer (some ⟨g, 0, none⟩)) (.bool b) w R := by
  cases b with
  | true =>
    intro _
    have hr := hb.1 rfl
    have h3 : ¬ isDg r := by unfold isDg; omega
    have h4 : ¬ isLt r := by unfold isLt; omega
    exact cls_leaf h (cls_other h1 h2 h3 h4 h5)
  | false =>
    have hr : ¬ (r = 215 ∨ r = 247 ∨ r = 930) := fun h => by have := hb.2 h; cases this
    by_cases h3 : isDg r
    · exact cj3dg hg (cls_leaf h (cls_dg h3)) h3
    by_cases h4 : isLt r
    · exact cj3lt hg (cls_leaf h (cls_lt h4)) h4
    · exact cj3no hg (cls_leaf h (cls_other h1 h2 h3 h4 h5)) h3 h4 hr

theorem cj2 (b : Bool) (hg : w.heap[g]? = some (.cells #[.int .i32 r] 21)) (h : R (.int .i64 (cls r)) w) (h1 : ¬ isSp r) (h2 : ¬ r = 10) (hb : b = true ↔ isSign r) :
    F11_j2 (.pointer (some ⟨g, 0, none⟩)) (.int .i32 r) (.bool b) w R := by
  intro _
  refine xcond_b (fun hb1 => cls_leaf h (cls_sign (hb.1 hb1))) (fun hb0 => ?_)
  have h5 : ¬ isSign r := fun h => by rw [hb.2 h] at hb0; cases hb0
  simp only [xcut, opK_eql, nth]
  refine xcond_dec (fun e => ?_) (fun e1 => ?_)
  · exact cj3 _ hg h h1 h2 h5 (by simp [e])
  refine xcond_dec (fun e => ?_) (fun e2 => ?_)
  · exact cj3 _ hg h h1 h2 h5 (by simp [e])
  exact cj3 _ hg h h1 h2 h5 (by simp [e1, e2])

theorem cj1 (b : Bool) (hg : w.heap[g]? = some (.cells #[.int .i32 r] 21)) (h : R (.int .i64 (cls r)) w) (hb : b = true ↔ isSp r) :
    F11_j1 (.pointer (some ⟨g, 0, none⟩)) (.int .i32 r) (.bool b) w R := by
  intro _
  refine xcond_b (fun hb1 => cls_leaf h (cls_sp (hb.1 hb1))) (fun hb0 => ?_)
  have h1 : ¬ isSp r := fun h => by rw [hb.2 h] at hb0; cases hb0
  rw [opK_eql]
  refine xcond_dec (fun e => cls_leaf h (cls_ln e)) (fun h2 => ?_)
  have J : ∀ b, (b = true ↔ isSign r) → F11_j2 (.pointer (some ⟨g, 0, none⟩)) (.int .i32 r) (.bool b) w R := fun b hb => cj2 b hg h h1 h2 hb
  unfold isSign at J
  clear h h1 h2 hb hg
  simp only [xcut, opK_eql, nth]
  iterate 18
    refine xcond_dec (fun e => J _ (by simp [e])) (fun _ => ?_)
  exact J _ (by simp [*])

theorem class_ok (r : Int) (w : World) (R : Value → World → Prop) (h : ∀ w', Ext w w' → R (.int .i64 (cls r)) w') : Cv Tryd.prog 11 #[.int .i32 r] w R := by
  apply F11_ok
  unfold F11
  have hx : Ext w (w.alloc (.cells #[.int .i32 r] 21)) := (by repeat' (first | exact Ext.refl _ | assumption | refine Ext.row ?_ (by first | omega | (simp only [sz_alloc, sz_row, sz_obj]; done) | (simp only [sz_alloc, sz_row, sz_obj]; omega)) _ | refine Ext.obj ?_ (by first | omega | (simp only [sz_alloc, sz_row, sz_obj]; done) | (simp only [sz_alloc, sz_row, sz_obj]; omega)) _ | refine Ext.alloc ?_ _))
  have hg : (w.alloc (.cells #[.int .i32 r] 21)).heap[w.heap.size]? = some (.cells #[.int .i32 r] 21) := hp_new rfl
  simp (disch := first | omega | (simp only [sz_alloc, sz_row, sz_obj]; done) | (simp only [sz_alloc, sz_row, sz_obj]; omega)) only [opK_box, cells_int]
  refine o_load_21 ?_
  simp (disch := first | omega | (simp only [sz_alloc, sz_row, sz_obj]; done) | (simp only [sz_alloc, sz_row, sz_obj]; omega)) only [hp_new, ldH_some, List.size_toArray, List.length_cons, List.length_nil, Nat.le_refl, true_and, List.drop_zero, List.take_succ_cons, List.take_nil, Nat.zero_add, nth]
  have J := fun b hb => cj1 (R := R) b hg (h _ hx) hb
  unfold isSp at J
  simp only [xcut, opK_eql, nth]
  iterate 2
    refine xcond_dec (fun e => J _ (by simp [e])) (fun _ => ?_)
  exact J _ (by simp [*])
end
end Go.Proofs.YtpdeflgmldomeaaDoor
